/- Texts of this claim,merged. -/
import Derived.Test.YthmaflecfppoiaaGreatRq8
import Derived.Test.YthmaflecfppoiaaGreatRq6
import Derived.Test.YthmaflecfppoiaaGreatProg
import Derived.KernelRfl
import Derived.Test.YthmaflecfppoiaaGreatRq7
import Derived.Test.YthmaflecfppoiaaGreatRq5
set_option linter.unusedSimpArgs false
set_option linter.unusedVariables false
set_option linter.unusedSectionVars false
namespace Go.Proofs.YthmaflecfppoiaaGreat
open Go
theorem zio : Src Tryz.prog zeH zhU:=mkS Tryz.f7
theorem zoW : Src Tryz.prog zdH zoZ:=mkS Tryz.f9
theorem ziA : Src Tryz.prog zdu ziT:=mkS Tryz.f12
theorem znM : Src Tryz.prog zec znK:=mkS Tryz.f13
theorem zpE : Src Tryz.prog zeT zpL:=mkS Tryz.f14
theorem zqE : Src Tryz.prog zfn zqh:=mkS Tryz.f17
theorem zoA : Src Tryz.prog zf4 zoF:=mkS Tryz.f19
theorem zh7 : Src Tryz.prog zdb zm6:=mkS Tryz.f20
theorem zir : Src Tryz.prog zdd zni:=mkS Tryz.f29
theorem zjo : Src Tryz.prog zdJ zo6:=mkS Tryz.f30
theorem zju : Src Tryz.prog zdU zjF:=mkS Tryz.f31
theorem zqa : Src Tryz.prog zft zqA:=mkS Tryz.f34
theorem zlD : Src Tryz.prog ze4 zlC:=mkS Tryz.f36
theorem zsJ : Src Tryz.prog zgG zrT:=mkS Tryz.f37
theorem zqy : Src Tryz.prog zhy zqf:=mkS Tryz.f38
theorem zo5 : Src Tryz.prog zdK zpB:=mkS Tryz.f39
theorem zoB : Src Tryz.prog zgc zpu:=mkS Tryz.f41
theorem znf : Src Tryz.prog zbf zmK:=mkS Tryz.f42
theorem zjc : Src Tryz.prog zeK zon:=mkS Tryz.f43
theorem zoo : Src Tryz.prog zeL zo8:=mkS Tryz.f44
theorem zcG : Src Tryz.prog zaM zcD:=mkS Tryz.f51
theorem zqc : Src Tryz.prog zfE zqq:=mkS Tryz.f52
theorem zkW : Src Tryz.prog zcb zkZ:=mkS Tryz.f53
theorem zne : Src Tryz.prog zd5 znU:=mkS Tryz.f54
theorem zo4 : Src Tryz.prog zeN zpj:=mkS Tryz.f55
theorem zkM : Src Tryz.prog zbP zlA:=mkS Tryz.f56
theorem znR : Src Tryz.prog zc4 zm1:=mkS Tryz.f57
theorem znE : Src Tryz.prog zfl zmL:=mkS Tryz.f58
theorem zor : Src Tryz.prog zdM zoJ:=mkS Tryz.f63
theorem znI : Src Tryz.prog zd4 zn4:=mkS Tryz.f66
theorem zlO : Src Tryz.prog zeW zlW:=mkS Tryz.f67
theorem ziU : Src Tryz.prog zdr ziG:=mkS Tryz.f68
theorem zqd : Src Tryz.prog zhf zp1:=mkS Tryz.f69
theorem zlV : Src Tryz.prog zct zmd:=mkS Tryz.f71
theorem zjj : Src Tryz.prog zdG zpx:=mkS Tryz.f72
theorem zjp : Src Tryz.prog zdO zo9:=mkS Tryz.f73
theorem znp : Src Tryz.prog zfo znW:=mkS Tryz.f74
theorem zhl : Src Tryz.prog zcE zhp:=mkS Tryz.f75
theorem zlK : Src Tryz.prog ze0 zlF:=mkS Tryz.f76
theorem zqu : Src Tryz.prog zfH zpS:=mkS Tryz.f77
theorem zpP : Src Tryz.prog zfu zqM:=mkS Tryz.f78
theorem zp7 : Src Tryz.prog zhn zqm:=mkS Tryz.f79
theorem zsc : Src Tryz.prog zja zsD:=mkS Tryz.f80
theorem zno : Src Tryz.prog zd3 znk:=mkS Tryz.f81
theorem zlj : Src Tryz.prog zc6 zkh:=mkS Tryz.f83
theorem zdg : Src Tryz.prog zba zdh:=mkS Tryz.f91
theorem zlI : Src Tryz.prog zfa zlS:=mkS Tryz.f93
theorem ztR : Src Tryz.prog zlp zsZ:=mkS Tryz.f94
theorem zsH : Src Tryz.prog zgA zrZ:=mkS Tryz.f95
theorem zfZ : Src Tryz.prog zbB zf2:=mkS Tryz.f96
theorem zjD : Src Tryz.prog zaL zjY:=mkS Tryz.f98
theorem zmV : Src Tryz.prog zfA zn7:=mkS Tryz.f101
theorem zsv : Src Tryz.prog zgJ zsn:=mkS Tryz.f103
theorem zkY : Src Tryz.prog zc7 zkv:=mkS Tryz.f104
theorem zr0 : Src Tryz.prog zi1 zsK:=mkS Tryz.f105
theorem zpK : Src Tryz.prog zcO zpr:=mkS Tryz.f106
theorem zqr : Src Tryz.prog zfG zqs:=mkS Tryz.f107
theorem zoI : Src Tryz.prog zdQ zoL:=mkS Tryz.f108
theorem zob : Src Tryz.prog zeR zoG:=mkS Tryz.f109
theorem zlm : Src Tryz.prog zeo zlx:=mkS Tryz.f110
theorem zqI : Src Tryz.prog zex zpQ:=mkS Tryz.f111
theorem znG : Src Tryz.prog zee zm7:=mkS Tryz.f113
theorem zl7 : Src Tryz.prog zdE zlP:=mkS Tryz.f114
theorem zsE : Src Tryz.prog zgQ zse:=mkS Tryz.f115
theorem zmM : Src Tryz.prog zfh zm2:=mkS Tryz.f116
theorem zhJ : Src Tryz.prog zb8 zhB:=mkS Tryz.f117
theorem zfM : Src Tryz.prog zbT zfK:=mkS Tryz.f118
theorem zpo : Src Tryz.prog zbQ zoq:=mkS Tryz.f127
theorem zi5 : Src Tryz.prog zaI ziP:=mkS Tryz.f128
theorem zmY : Src Tryz.prog zfJ znO:=mkS Tryz.f129
theorem zqH : Src Tryz.prog zfy zpY:=mkS Tryz.f130
theorem zrX : Src Tryz.prog ziy zsi:=mkS Tryz.f131
theorem zhg : Src Tryz.prog zbR zhi:=mkS Tryz.f132
theorem zs6 : Src Tryz.prog zkg ztz:=mkS Tryz.f133
theorem zma : Src Tryz.prog zdF zl0:=mkS Tryz.f134
theorem zcp : Src Tryz.prog zaU zcq:=mkS Tryz.f135
theorem zhu : Src Tryz.prog zcC zhk:=mkS Tryz.f136
theorem zo1 : Src Tryz.prog zgr zoS:=mkS Tryz.f146
theorem zhz : Src Tryz.prog zcF zhq:=mkS Tryz.f147
theorem zcU : Src Tryz.prog za1 zcT:=mkS Tryz.f148
theorem zhA : Src Tryz.prog zbw zhv:=mkS Tryz.f192
theorem zgR : Src Tryz.prog zbm zgU:=mkS Tryz.f196
def modI (n m : Int) : Int:=if m<1 then 0 else n % m
theorem ztN {n m : Int} (hm : 0<m) : n.tmod m % m=n % m:=by
 have h:=Int.mul_tdiv_add_tmod n m
 conv=>rhs; rw [← h]
 rw [Int.add_comm,Int.add_mul_emod_self_left]
theorem zsk {n m : Int} (hm : 0<m) : -m<n.tmod m∧n.tmod m<m:=⟨Int.lt_tmod_of_pos n hm,Int.tmod_lt_of_pos n hm⟩
def zaA (L : List Int) (a : Nat) (n : Int) : Int × Nat:=if h : a<L.length then (modI L[a] n,a+1) else (0,a)
abbrev dice (L : List Int) (a : Nat) : Ent:=⟨2,[[ints L,.I a]],0⟩
theorem zak.k1 {rs : List (Nat × Option (Bool × Nat))} {st : St} {vs : List AV} {res : AV} {e : Ent} (h1 : zfQ st rs=some vs) (hw : Wk (conv [(0,0)] [] st.hp 4 (resV vs)) res) (he : (st.hp 0).map (zax [(0,0)] [] st.hp 4)=some e) : zak rs 1 st res [some e] :=
 ⟨vs,h1,[],[],by decide,by simp,by simp,hw,by simpa using he⟩
theorem znD (L : List Int) : zai Tryz.prog zfv [ints L] [] (.B (decide (L.length≤400))) []:=by
 refine zqW.acalls (nbz rfl) (nbz rfl) (Nat.le_refl _) ?_
 show awp _ 0 _ _ ⟨6,[(0,ints L)],[],16⟩
 refine zab ?_
 refine zae (s:=?s1) rfl ?o1 ?q1
 case o1=>simp; rfl
 refine zaa ⟨6,[(2,.B (decide (L.length≤400)))],[],16⟩ rfl ?_ ?_
 ·simp
  exact Le.snap [] rfl rfl (by simp <;> exact wkB (by simp; omega))
 refine zag ?_
 exact ⟨.inr rfl,zak.one (by simp)⟩
theorem zwN (n m : Int) (hm : m≤9223372036854775807) : zai Tryz.prog zkl [.I n,.I m] [] (.I (modI n m)) []:=by
 refine ztG.acalls (nbz rfl) (nbz rfl) (Nat.le_refl _) ?_
 show awp _ 0 _ _ ⟨16,[(0,.I n),(1,.I m)],[],16⟩
 refine zab ?_
 refine zae (s:=?s1) rfl ?o1 ?q1
 case o1=>simp; rfl
 refine zab ?_
 refine zab ?_
 refine zae (s:=?s2) rfl ?o2 ?q2
 case o2=>simp; rfl
 refine zac _ rfl (fun h3=>?_) fun h3=>?_
 ·try simp at h3
  refine zab ?_
  refine zae (s:=?s4) rfl ?o4 ?q4
  case o4=>simp; rfl
  refine zag ?_
  exact ⟨.inr rfl,zak.one (by simp [modI,h3])⟩
 try simp at h3
 have hm0 : m≠0:=by omega
 have hlt : ¬ m<1:=by omega
 obtain ⟨t1,t2⟩:=zsk (n:=n) (m:=m) (by omega)
 have te:=ztN (n:=n) (m:=m) (by omega)
 refine zad ?_
 refine zab ?_
 refine zae (s:=?s5) rfl ?o5 ?q5
 case o5=>simp [hm0]; rfl
 refine zab ?_
 refine zab ?_
 refine zae (s:=?s6) rfl ?o6 ?q6
 case o6=>simp; rfl
 refine zac _ rfl (fun h7=>?_) fun h7=>?_
 ·try simp at h7
  have hw : IntKind.i64.wrap (n.tmod m+m)=n.tmod m+m:=w64 (by omega) (by omega)
  have hr : n % m=n.tmod m+m:=by rw [← te,← Int.add_emod_right,Int.emod_eq_of_lt (by omega) (by omega)]
  refine zae (s:=?s8) rfl ?o8 ?q8
  case o8=>simp [hw]; rfl
  refine zab ?_
  refine zae (s:=?s9) rfl ?o9 ?q9
  case o9=>simp; rfl
  refine zag ?_
  exact ⟨.inr rfl,zak.one (by simp [modI,hlt,hr])⟩
 try simp at h7
 have hr : n % m=n.tmod m:=by rw [← te,Int.emod_eq_of_lt (by omega) (by omega)]
 refine zad ?_
 refine zab ?_
 refine zae (s:=?s10) rfl ?o10 ?q10
 case o10=>simp; rfl
 refine zag ?_
 exact ⟨.inr rfl,zak.one (by simp [modI,hlt,hr])⟩
theorem zto (L : List Int) : zai Tryz.prog zgO [ints L] [] (.pt 0 0 0) [some (dice L 0)]:=by
 refine zsu.acalls (nbz rfl) (nbz rfl) (Nat.zero_le _) ?_
 show awp _ 0 _ _ ⟨6,[(0,ints L)],[],16⟩
 refine zab ?_
 refine zae (s:=?s1) rfl ?o1 ?q1
 case o1=>simp; rfl
 refine zab ?_
 refine zae (s:=?s2) rfl ?o2 ?q2
 case o2=>simp; rfl
 refine zag ?_
 exact ⟨.inr rfl,zak.out [40] [] rfl (by simp) (by simp) (by simp) (by simp)⟩
theorem znN (L : List Int) (a : Nat) (n : Int) (hl : L.length≤1099511627776) (ha : a≤L.length) (hn : n≤9223372036854775807) : zai Tryz.prog zav [.pt 0 0 0,.I n] [dice L a] (.I (zaA L a n).1) [some (dice L (zaA L a n).2)]:=by
 refine zkN.acalls (nbz rfl) (nbz rfl) (Nat.le_refl _) ?_
 show awp _ 1 _ _ ⟨35,[(0,.pt 0 0 0),(1,.I n)],[(0,some (dice L a))],16⟩
 refine zab ?_
 refine zae (s:=?s1) rfl ?o1 ?q1
 case o1=>simp; rfl
 refine zab ?_
 refine zab ?_
 refine zc0 (s:=?s2) (tr:=?t2) rfl ?o2 ?r2 ?q2
 case o2=>simp; constructor <;> rfl
 case r2=>rfl
 refine zac _ rfl (fun h3=>?_) fun h3=>?_
 ·try simp at h3
  refine zab ?_
  refine zae (s:=?s4) rfl ?o4 ?q4
  case o4=>simp; rfl
  refine zag ?_
  have hr : zaA L a n=(0,a):=by unfold zaA; rw [dif_neg (by omega)]
  rw [hr]
  exact ⟨.inr rfl,zak.k1 rfl (by simp) (by simp [fcd])⟩
 try simp at h3
 have hw : IntKind.i64.wrap ((a : Int)+1)=(a : Int)+1:=w64 (by omega) (by omega)
 have hw0 : IntKind.i64.wrap (a : Int)=(a : Int):=w64 (by omega) (by omega)
 refine zad ?_
 refine zab ?_
 refine zae (s:=?s5) rfl ?o5 ?q5
 case o5=>simp [hw]; rfl
 refine zab ?_
 refine zc0 (s:=?s6) (tr:=?t6) rfl ?o6 ?r6 ?q6
 case o6=>simp [hw0,h3]; refine zaj (zwN _ _ hn) rfl ?_; simp; constructor <;> rfl
 case r6=>rfl
 refine zag ?_
 have hr : zaA L a n=(modI L[a] n,a+1):=by unfold zaA; rw [dif_pos h3]
 rw [hr]
 exact ⟨.inr rfl,zak.k1 rfl (by simp) (by simp [fcd])⟩
theorem zvK {n m : Int} (hm : 0<m) : 0≤modI n m∧modI n m<m:=by
 unfold modI
 rw [if_neg (by omega)]
 exact ⟨Int.emod_nonneg _ (by omega),Int.emod_lt_of_pos _ hm⟩
theorem zeQ {L : List Int} {a : Nat} {n : Int} (hn : 0<n) : 0≤(zaA L a n).1∧(zaA L a n).1<n:=by
 unfold zaA
 split
 ·exact zvK hn
 ·exact ⟨Int.le_refl _,hn⟩
theorem zbW {L : List Int} {a : Nat} {n : Int} (ha : a≤L.length) : (zaA L a n).2≤L.length:=by
 unfold zaA
 split
 ·simp only; omega
 ·exact ha
def ofD (L : List Int) (a : Nat) (l : List Int) : Int:=l.getD (zaA L a l.length).1.toNat 0
theorem zvj (L : List Int) (a : Nat) (n : Int) (hl : L.length≤1099511627776) (ha : a≤L.length) (hn0 : 0≤n) (hn : n≤9223372036854775807) : zai Tryz.prog zb3 [.pt 0 0 0,.I n] [dice L a] (.B (decide ((zaA L a n).1=n - 1))) [some (dice L (zaA L a n).2)]:=by
 refine zl4.acalls (nbz rfl) (nbz rfl) (Nat.le_refl _) ?_
 show awp _ 1 _ _ ⟨11,[(0,.pt 0 0 0),(1,.I n)],[(0,some (dice L a))],16⟩
 have hw : IntKind.i64.wrap (n - 1)=n - 1:=w64 (by omega) (by omega)
 refine zab ?_
 refine zae (s:=?s1) rfl ?o1 ?q1
 case o1=>simp; rfl
 refine zab ?_
 refine zae (s:=?s2) rfl ?o2 ?q2
 case o2 =>
  simp
  refine zbk (i:=0) rfl (e':=dice L a) (by simp [fcd]) (znN L a n hl ha hn) (by simp) (by simp) ?_
  simp [hw,fcd]
  rfl
 refine zag ?_
 exact ⟨.inr rfl,zak.k1 rfl (by simp <;> exact wkB rfl) (by simp [fcd])⟩
theorem zxH (L : List Int) (a : Nat) (l : List Int) (hl : L.length≤1099511627776) (ha : a≤L.length) (h0 : 0<l.length) (hl2 : l.length≤1099511627776) : zai Tryz.prog zc3 [.pt 0 0 0,ints l] [dice L a] (.I (ofD L a l)) [some (dice L (zaA L a l.length).2)]:=by
 refine zm3.acalls (nbz rfl) (nbz rfl) (Nat.le_refl _) ?_
 show awp _ 1 _ _ ⟨12,[(0,.pt 0 0 0),(1,ints l)],[(0,some (dice L a))],16⟩
 obtain ⟨q,hq,hql⟩ : ∃ q : Nat,(zaA L a l.length).1=q∧q<l.length:=by
  have:=zeQ (L:=L) (a:=a) (n:=l.length) (by omega)
  exact ⟨(zaA L a l.length).1.toNat,by omega,by omega⟩
 have ho : ofD L a l=l[q]:=by unfold ofD; rw [hq]; simp [hql]
 refine zab ?_
 refine zae (s:=?s1) rfl ?o1 ?q1
 case o1=>simp; rfl
 refine zab ?_
 refine zae (s:=?s2) rfl ?o2 ?q2
 case o2 =>
  simp
  refine zbk (i:=0) rfl (e':=dice L a) (by simp [fcd]) (znN L a l.length hl ha (by omega)) (by simp) (by simp) ?_
  simp [hq,hql,fcd]
  rfl
 refine zag ?_
 rw [ho]
 exact ⟨.inr rfl,zak.k1 rfl (by simp) (by simp [fcd])⟩
section
variable {P : Program} {np id : Nat} {h : Nat→Option Ent} {K : AV→List Nat→List (Nat × Option Ent)→Prop} {s i off len c k l m : Nat}
@[simp] theorem zyc : aK P np id (.slc s true false false) [.rk i off len c,.sc (.int .i64 (k : Int))] h K=(k≤len∧len≤c∧(∃ e,h i=some e∧e.s=s)∧K (.rk i (off+k) (len - k) (c - k)) [i] []):=by
 rw [zlr]
 refine propext ⟨?_,?_⟩
 ·rintro ⟨l,r,m,n,h1,h2,h4,h5,h6,h7,h3,h10,h11,h8,h9⟩
  obtain rfl:=h6 rfl
  simp at h4 h1
  subst h1
  have : k=l:=by omega
  subst this
  obtain rfl:=h11 rfl
  exact ⟨h2,h3,h8,h9⟩
 ·rintro ⟨h1,h2,h3,h4⟩
  exact ⟨k,len,c,len,rfl,h1,by simp,(fun h=>by cases h),fun _=>rfl,(fun h=>by cases h),h2,Nat.le_refl _,fun _=>rfl,h3,h4⟩
@[simp] theorem zyi : aK P np id (.slc s false true false) [.rk i off len c,.sc (.int .i64 (k : Int))] h K=(k≤c∧(∃ e,h i=some e∧e.s=s)∧K (.rk i off k c) [i] []):=by
 rw [zlr]
 refine propext ⟨?_,?_⟩
 ·rintro ⟨l,r,m,n,h1,h2,h4,h5,h6,h7,h3,h10,h11,h8,h9⟩
  obtain rfl:=h5 rfl
  simp at h4 h1
  have : k=r:=by omega
  subst this
  obtain rfl:=h11 rfl
  exact ⟨h3,h8,by simpa using h9⟩
 ·rintro ⟨h1,h3,h4⟩
  exact ⟨0,k,c,len,rfl,Nat.zero_le _,by simp,fun _=>rfl,(fun h=>by cases h),(fun h=>by cases h),h1,Nat.le_refl _,fun _=>rfl,h3,by simpa using h4⟩
@[simp] theorem zxv : aK P np id (.slc s true true false) [.rk i off len c,.sc (.int .i64 (l : Int)),.sc (.int .i64 (k : Int))] h K=(l≤k∧k≤c∧(∃ e,h i=some e∧e.s=s)∧K (.rk i (off+l) (k - l) (c - l)) [i] []):=by
 rw [zlr]
 refine propext ⟨?_,?_⟩
 ·rintro ⟨l',r,m,n,h1,h2,h4,h5,h6,h7,h3,h10,h11,h8,h9⟩
  simp at h4 h1
  have : k=r:=by omega
  subst this
  have : l=l':=by omega
  subst this
  obtain rfl:=h11 rfl
  exact ⟨h2,h3,h8,h9⟩
 ·rintro ⟨h1,h2,h3,h4⟩
  exact ⟨l,k,c,len,rfl,h1,by simp,(fun h=>by cases h),(fun h=>by cases h),(fun h=>by cases h),h2,Nat.le_refl _,fun _=>rfl,h3,h4⟩
@[simp] theorem zyn : aK P np id (.slc s true true true) [.rk i off len c,.sc (.int .i64 (l : Int)),.sc (.int .i64 (k : Int)),.sc (.int .i64 (m : Int))] h K=(l≤k∧k≤m∧m≤c∧(∃ e,h i=some e∧e.s=s)∧K (.rk i (off+l) (k - l) (m - l)) [i] []):=by
 rw [zlr]
 refine propext ⟨?_,?_⟩
 ·rintro ⟨l',r,m',n,h1,h2,h4,h5,h6,h7,h3,h10,h11,h8,h9⟩
  simp at h4 h1
  have : k=r:=by omega
  subst this
  have : l=l':=by omega
  subst this
  have : m=m':=by omega
  subst this
  exact ⟨h2,h3,h10,h8,h9⟩
 ·rintro ⟨h1,h2,h3,h4,h5⟩
  exact ⟨l,k,m,len,rfl,h1,by simp,(fun h=>by cases h),(fun h=>by cases h),(fun _=>rfl),h2,h3,(fun h=>by cases h),h4,h5⟩
@[simp] theorem zym : aK P np id (.slc s true false false) [.rs i off len,.sc (.int .i64 (k : Int))] h K=(k≤len∧(∃ e,h i=some e∧e.s=s)∧K (.rs i (off+k) (len - k)) [i] []):=by
 rw [zlr]
 refine propext ⟨?_,?_⟩
 ·rintro ⟨l,r,m,n,h1,h2,h4,h5,h6,h7,h3,h10,h8,h9⟩
  obtain rfl:=h6 rfl
  simp at h4 h1
  subst h1
  have : k=l:=by omega
  subst this
  exact ⟨h2,h8,h9⟩
 ·rintro ⟨h1,h3,h4⟩
  exact ⟨k,len,0,len,rfl,h1,by simp,(fun h=>by cases h),fun _=>rfl,(fun h=>by cases h),Nat.le_refl _,rfl,h3,h4⟩
@[simp] theorem zye : aK P np id (.slc s false true false) [.rs i off len,.sc (.int .i64 (k : Int))] h K=(k≤len∧(∃ e,h i=some e∧e.s=s)∧K (.rs i off k) [i] []):=by
 rw [zlr]
 refine propext ⟨?_,?_⟩
 ·rintro ⟨l,r,m,n,h1,h2,h4,h5,h6,h7,h3,h10,h8,h9⟩
  obtain rfl:=h5 rfl
  simp at h4 h1
  have : k=r:=by omega
  subst this
  exact ⟨by omega,h8,by simpa using h9⟩
 ·rintro ⟨h1,h3,h4⟩
  exact ⟨0,k,0,len,rfl,Nat.zero_le _,by simp,fun _=>rfl,(fun h=>by cases h),(fun h=>by cases h),h1,rfl,h3,by simpa using h4⟩
end
theorem Le.keep {np : Nat} {st st' : St} (hsz : st'.sz=st.sz) (hn : st.n≤st'.n) (ht : ∀ p∈st'.t,st.get p.1=p.2) (hh : ∀ p∈st'.h,∀ e,p.2=some e→st.hp p.1=some e) : Le np st st':=by
 intro T0 M0 w0 T M a w ok hnp
 have hp : ∀ id e,st'.hp id=some e→st.hp id=some e:=by
  intro id e he
  unfold St.hp at he
  cases hl : lkp st'.h id with
  | none=>rw [hl] at he; cases he
  | some v =>
    rw [hl] at he
    exact hh _ (zbp hl) e he
 refine ⟨T,M,⟨ok.sz.trans hsz.symm,ok.df,fun i=>?_,⟨fun id e he=>ok.hs.ent id e (hp id e he),fun id id' e e' g g' b h1 h2=>ok.hs.inj id id' e e' g g' b (hp _ _ h1) (hp _ _ h2)⟩,fun id g hg=>Nat.lt_of_lt_of_le (ok.dom id g hg) hn,ok.after⟩,Nat.le_trans hnp hn⟩
 unfold St.get at *
 cases hl : lkp st'.t i with
 | none=>exact .dead _ _
 | some v =>
   have:=ht _ (zbp hl)
   simp only at this
   show Rep T w M v _
   rw [← this]
   exact ok.tm i
theorem Le.mv1 {st st' : St} (j i : Nat) {e0 e : Ent} (hsz : st'.sz=st.sz) (hh : st'.h=[(i,some e)]) (hi : i<st'.n) (h1 : 1≤i) (h0 : st.hp j=some e0) (he : zax [(j,i)] [] st.hp 4 e0=e) (hr : e.ro≤e.rows.length)
  (ht : ∀ p∈st'.t,Wk (conv [(j,i)] [] st.hp 4 (st.get p.1)) p.2) : Le 1 st st' :=
 Le.lst [(j,i)] [] [] hsz (by simp) (by simp) (by simp [hi]; omega) (by simp) (by simp) (by omega) (by simp) (fun p hp=>.inl (ht p hp)) (fun p hp e' he'=>by
  rw [hh] at hp
  simp at hp
  subst hp
  cases he'
  exact .inl ⟨(j,i),by simp,rfl,e0,h0,by rw [he]; exact zaH.rfl' hr⟩)
theorem zak.m1 {rs : List (Nat × Option (Bool × Nat))} {st : St} {vs : List AV} {res : AV} {e : Ent} (i : Nat) (hi : 1≤i) (h1 : zfQ st rs=some vs) (hw : Wk (conv [(0,0),(i,1)] [] st.hp 4 (resV vs)) res) (h0 : st.hp 0=none) (he : (st.hp i).map (zax [(0,0),(i,1)] [] st.hp 4)=some e) : zak rs 1 st res [none,some e] :=
 ⟨vs,h1,[i],[],by simp [List.range,List.range.loop]; omega,by simpa using hi,by simp,by simpa [List.range,List.range.loop] using hw,by simpa [List.range,List.range.loop,h0] using he⟩
def Flat (R : List (List AV)) : Prop:=∀ ρ sn h n,R.map (List.map (conv ρ sn h (n+1)))=R
set_option maxRecDepth 100000 in
theorem zv3 (R : List (List AV)) (row : List AV) (n k : Nat) (hn : R.length=n) (hk : k≤n) (hR : Flat R) (hr : Flat [row]) (hl : (n+1)*24≤140737488355328) :
  zai Tryz.prog za5 [.rs 0 0 n,.I k,.vs 3 false [row]] [⟨3,R,0⟩] (.rs 1 0 (n+1)) [none,some ⟨3,R.take k++row::R.drop k,0⟩]:=by
 have hrow : ∀ ρ sn h n,row.map (conv ρ sn h (n+1))=row:=fun ρ sn h n=>by simpa using hr ρ sn h n
 have hflat : ∀ ρ sn h n,(R.take k++row::R.drop k).map (List.map (conv ρ sn h (n+1)))=R.take k++row::R.drop k:=fun ρ sn h n=>by
  have:=hR ρ sn h n
  rw [List.map_append,List.map_cons,List.map_take,List.map_drop,this,hrow]
 refine zmg fun c hc=>?_
 refine zdf.acalls (nbz rfl) (nbz rfl) (nbz rfl) ?_
 show awp _ 1 _ _ ⟨95,[(0,.rk 0 0 n c),(1,.I k),(2,.vs 3 false [row])],[(0,some ⟨3,R,0⟩)],16⟩
 obtain ⟨n1,hn1⟩ : ∃ n1,n1=n+1:=⟨_,rfl⟩
 obtain ⟨k1,hk1⟩ : ∃ k1,k1=k+1:=⟨_,rfl⟩
 obtain ⟨d,hd⟩ : ∃ d,d=n1 - k:=⟨_,rfl⟩
 have hw1 : IntKind.i64.wrap ((n : Int)+1)=(n1 : Int):=by rw [w64 (by omega) (by omega)]; omega
 have hw2 : IntKind.i64.wrap ((k : Int)+1)=(k1 : Int):=by rw [w64 (by omega) (by omega)]; omega
 have hw3 : IntKind.i64.wrap ((n1 : Int) - (k : Int))=(d : Int):=by rw [w64 (by omega) (by omega)]; omega
 have fin : ∀ (t : List (Nat × AV)) (m : Nat),awp Tryz.prog 1 .ret (fun e st=>(e = .normal∨e = .ret)∧zak [(6,none)] 1 st (.rs 1 0 (n+1)) [none,some ⟨3,R.take k++row::R.drop k,0⟩]) ⟨95,[(6,.rs 16 0 n1)],[(16,some ⟨3,R.take k++row::R.drop k,0⟩)],24⟩:=by
  intro t m
  refine zag ⟨.inr rfl,?_⟩
  refine zak.m1 (vs:=[.rs 16 0 n1]) 16 (by omega) rfl (by simp [hn1]) rfl ?_
  show Option.map _ (some _)=_
  rw [Option.map_some]
  unfold zax
  simp only [hflat]
 refine zaa ⟨95,[(0,.rk 0 0 n c),(1,.I k),(2,.vs 3 false [row])],[(0,some ⟨3,R,0⟩)],24⟩ rfl ?_ ?_
 ·simp
  exact Le.keep rfl (Nat.le_refl _) (by simp) (by simp)
 refine zaa ⟨95,[(0,.rk 0 0 n c),(1,.I k),(2,.vs 3 false [row])],[(0,some ⟨3,R,0⟩)],48⟩ rfl ?_ ?_
 ·simp [hk,hc]
  exact Le.keep rfl (Nat.le_refl _) (by simp) (by simp)
 refine zaa ⟨95,[(0,.rk 0 0 n c),(1,.I k),(2,.vs 3 false [row]),(7,.I 1)],[(0,some ⟨3,R,0⟩)],72⟩ rfl ?_ ?_
 ·simp
  exact Le.keep rfl (Nat.le_refl _) (by simp) (by simp)
 refine zab ?_
 refine zaa ⟨95,[(0,.rk 0 0 n c),(1,.I k),(2,.vs 3 false [row]),(7,.I 1),(16,.B false)],[(0,some ⟨3,R,0⟩)],88⟩ rfl ?_ ?_
 ·simp
  exact Le.keep rfl (Nat.le_refl _) (by simp) (by simp)
 refine zac _ rfl (fun h=>by cases h) fun _=>zad ?_
 refine zaa ⟨95,[(0,.rk 0 0 n c),(1,.I k),(2,.vs 3 false [row]),(7,.I 1),(8,.I n)],[(0,some ⟨3,R,0⟩)],112⟩ rfl ?_ ?_
 ·simp
  exact Le.keep rfl (Nat.le_refl _) (by simp) (by simp)
 refine zab ?_
 refine zaa ⟨95,[(0,.rk 0 0 n c),(1,.I k),(2,.vs 3 false [row]),(7,.I 1),(8,.I n),(22,.B (decide (k=n)))],[(0,some ⟨3,R,0⟩)],136⟩ rfl ?_ ?_
 ·simp
  exact Le.keep rfl (Nat.le_refl _) (by simp <;> rw [Bool.eq_iff_iff] <;> simp <;> omega) (by simp)
 refine zac _ rfl (fun h=>?_) fun h=>zad ?_
 ·
  simp at h
  subst h
  have hT : R.take k=R:=List.take_of_length_le (by omega)
  have hD : R.drop k=[]:=List.drop_eq_nil_of_le (by omega)
  have hD1 : R.drop n1=[]:=List.drop_eq_nil_of_le (by omega)
  simp only [hT,hD] at fin hflat ⊢
  refine zaa ⟨95,[(6,.rs 16 0 n1)],[(16,some ⟨3,R++[row],0⟩)],24⟩ rfl ?_ (fin [] 0)
  simp [hn,← hn1,hT,hD1]
  refine ⟨by omega,by omega,?_⟩
  split
  ·exact Le.mv1 0 16 rfl rfl (nbz rfl) (by omega) rfl (by simp only [zax,hflat]) (Nat.zero_le _) (by simp)
  ·exact Le.mv1 152 16 rfl rfl (nbz rfl) (by omega) rfl (by simp only [zax,hflat]) (Nat.zero_le _) (by simp)
 simp at h
 have hkn : k<n:=by omega
 refine zab ?_
 refine zaa ⟨95,[(0,.rk 0 0 n c),(1,.I k),(2,.vs 3 false [row]),(7,.I 1),(8,.I n),(31,.B (decide (c<n1)))],[(0,some ⟨3,R,0⟩)],184⟩ rfl ?_ ?_
 ·simp [hw1]
  exact Le.keep rfl (Nat.le_refl _) (by simp) (by simp)
 refine zac _ rfl (fun h=>?_) fun h=>zad ?_
 ·
  simp at h
  have hdn : n - k+1=d:=by omega
  refine zaa ⟨95,[(0,.rk 0 0 n c),(1,.I k),(2,.vs 3 false [row]),(7,.I 1),(8,.I n),(9,.rs 248 0 n1)],[(0,some ⟨3,R,0⟩),(248,some ⟨3,R.take k++List.replicate d [.I 0,.I 0,.I 0],0⟩)],264⟩ rfl ?_ ?_
  ·have hkd : k+d=n1:=by omega
   simp [hw1,hw3,hkd]
   exact ⟨by omega,by omega,by omega,h,by omega,by omega,Le.keep rfl (Nat.le_refl _) (by simp) (by simp)⟩
  refine zaa ⟨95,[(0,.rk 0 0 n c),(1,.I k),(2,.vs 3 false [row]),(7,.I 1),(8,.I n),(9,.rs 248 0 n1)],[(0,some ⟨3,R,0⟩),(248,some ⟨3,R.take k++row::List.replicate (n - k) [.I 0,.I 0,.I 0],0⟩)],304⟩ rfl ?_ ?_
  ·have hm : min 1 (n1 - k)=1:=by omega
   have hl0 : (R.take k).length=k:=by simp; omega
   have h1 : (R.take k++List.replicate d [AV.I 0,AV.I 0,AV.I 0]).take k=R.take k:=by
    rw [List.take_append_of_le_length (by omega),List.take_take]
    congr 1; omega
   have h2 : (R.take k++List.replicate d [AV.I 0,AV.I 0,AV.I 0]).drop (k+1)=List.replicate (n - k) [AV.I 0,AV.I 0,AV.I 0]:=by
    rw [List.drop_append,hl0,List.drop_eq_nil_of_le (by omega),List.drop_replicate]
    simp
    omega
   simp [show k≤n1 by omega,hm]
   exact ⟨by omega,Le.keep rfl (Nat.le_refl _) (by simp) (by simp [h1,h2])⟩
  refine zaq ⟨95,[(9,.rs 248 0 n1)],[(248,some ⟨3,R.take k++row::R.drop k,0⟩)],376⟩ rfl ?_ ?_
  ·have hl0 : (R.take k).length=k:=by simp; omega
   have hx : List.take (n - k) (List.drop k R)=List.drop k R:=List.take_of_length_le (by simp; omega)
   have hxl : (List.drop k R).length=n - k:=by simp; omega
   have hm : min (n - k) (n1 - k1)=n - k:=by omega
   have h1 : (R.take k++row::List.replicate (n - k) [AV.I 0,AV.I 0,AV.I 0]).take k1=R.take k++[row]:=by
    rw [List.take_append,hl0,List.take_of_length_le (by omega),hk1,show k+1 - k=1 by omega]
    rfl
   have h2 : (R.take k++row::List.replicate (n - k) [AV.I 0,AV.I 0,AV.I 0]).drop (k1+(n - k))=[]:=List.drop_eq_nil_of_le (by simp; omega)
   simp [hw2]
   refine ⟨by omega,by omega,by omega,by omega,_,⟨by omega,hx⟩,rfl,?_⟩
   rw [hxl,hm,h1,h2,hx]
   exact Le.keep rfl (Nat.le_refl _) (by simp) (by simp)
  refine zaa ⟨95,[(6,.rs 16 0 n1)],[(16,some ⟨3,R.take k++row::R.drop k,0⟩)],24⟩ rfl ?_ (fin [] 0)
  simp
  exact Le.mv1 248 16 rfl rfl (nbz rfl) (by omega) rfl (by simp only [zax,hflat]) (Nat.zero_le _) (by simp)
 simp at h
 refine zaa ⟨95,[(0,.rk 0 0 n1 c),(1,.I k),(2,.vs 3 false [row]),(7,.I 1),(8,.I n)],[(0,some ⟨3,R,0⟩)],232⟩ rfl ?_ ?_
 ·simp [hw1,h]
  exact Le.keep rfl (Nat.le_refl _) (by simp) (by simp)
 refine zab ?_
 refine zaa ⟨95,[(0,.rk 0 0 n1 c),(1,.I k),(2,.vs 3 false [row]),(7,.I 1),(8,.I n),(68,.B true)],[(0,some ⟨3,R,0⟩)],296⟩ rfl ?_ ?_
 ·simp [hw2,h,show k1≤n1 by omega]
  exact Le.keep rfl (Nat.le_refl _) (by simp) (by simp)
 refine zac _ rfl (fun _=>?_) fun h=>by cases h
 have hmin : min (n1 - k) (n1 - k1)=n - k:=by omega
 have hRk : (R.drop k).take (n - k)=R.drop k:=List.take_of_length_le (by simp; omega)
 refine zaq ⟨95,[(0,.rk 0 0 n1 c),(1,.I k),(2,.vs 3 false [row]),(7,.I 1),(8,.I n)],[(0,some ⟨3,R.take k1++R.drop k,0⟩)],368⟩ rfl ?_ ?_
 ·simp [hw2,h,show k1≤n1 by omega,show k≤n1 by omega,hmin,hn,show k+(n - k)≤n by omega,show k1≤n by omega,hRk,Nat.min_eq_left (show n - k≤n1 - k by omega)]
  refine ⟨rfl,Le.keep rfl (Nat.le_refl _) (by simp) (by simp; omega)⟩
 refine zaa ⟨95,[(0,.rk 0 0 n1 c)],[(0,some ⟨3,R.take k++row::R.drop k,0⟩)],408⟩ rfl ?_ ?_
 ·have hm : min 1 (n1 - k)=1:=by omega
  have h1 : (R.take k1++R.drop k).take k=R.take k:=by
   rw [List.take_append_of_le_length (by simp; omega),List.take_take]
   congr 1; omega
  have h2 : (R.take k1++R.drop k).drop (k+1)=R.drop k:=by
   rw [← hk1,List.drop_append_of_le_length (by simp; omega)]
   rw [List.drop_eq_nil_of_le (by simp; omega)]; rfl
  simp [h,show k≤n1 by omega,hm,hn]
  exact ⟨by omega,Le.keep rfl (Nat.le_refl _) (by simp) (by simp [h1,h2])⟩
 refine zaa ⟨95,[(6,.rs 16 0 n1)],[(16,some ⟨3,R.take k++row::R.drop k,0⟩)],24⟩ rfl ?_ (fin [] 0)
 simp
 exact Le.mv1 0 16 rfl rfl (nbz rfl) (by omega) rfl (by simp only [zax,hflat]) (Nat.zero_le _) (by simp)
set_option maxRecDepth 100000 in
theorem zvW (R : List (List AV)) (n k k1 : Nat) (hn : R.length=n) (hk : k<n) (hk1 : k1=k+1) (hR : Flat R) (hl : (n+1)*24≤140737488355328) :
  zai Tryz.prog za8 [.rs 0 0 n,.I k,.I k1] [⟨3,R,0⟩] (.rs 0 0 (n - 1)) [some ⟨3,R.take k++R.drop k1++[[.I 0,.I 0,.I 0]],0⟩]:=by
 refine zmg fun c hc=>?_
 refine zc1.acalls (nbz rfl) (nbz rfl) (nbz rfl) ?_
 show awp _ 1 _ _ ⟨33,[(0,.rk 0 0 n c),(1,.I k),(2,.I k1)],[(0,some ⟨3,R,0⟩)],16⟩
 obtain ⟨nm,hnm⟩ : ∃ nm,nm=n - 1:=⟨_,rfl⟩
 refine zaa ⟨33,[(0,.rk 0 0 n c),(1,.I k),(2,.I k1)],[(0,some ⟨3,R,0⟩)],24⟩ rfl ?_ ?_
 ·simp
  exact Le.keep rfl (Nat.le_refl _) (by simp) (by simp)
 refine zaa ⟨33,[(0,.rk 0 0 n c),(1,.I k),(2,.I k1)],[(0,some ⟨3,R,0⟩)],72⟩ rfl ?_ ?_
 ·simp
  exact ⟨by omega,by omega,by omega,Le.keep rfl (Nat.le_refl _) (by simp) (by simp)⟩
 refine zab ?_
 refine zaa ⟨33,[(0,.rk 0 0 n c),(1,.I k),(2,.I k1),(16,.B false)],[(0,some ⟨3,R,0⟩)],96⟩ rfl ?_ ?_
 ·simp
  exact Le.keep rfl (Nat.le_refl _) (by simp; omega) (by simp)
 refine zac _ rfl (fun h=>by cases h) fun _=>zad ?_
 refine zaa ⟨33,[(0,.rk 0 0 n c),(1,.I k),(2,.I k1),(7,.I n)],[(0,some ⟨3,R,0⟩)],120⟩ rfl ?_ ?_
 ·simp
  exact Le.keep rfl (Nat.le_refl _) (by simp) (by simp)
 have hx : List.take (n - k1) (List.drop k1 R)=List.drop k1 R:=List.take_of_length_le (by simp; omega)
 have hxl : (List.drop k1 R).length=n - k1:=by simp; omega
 have hl0 : (R.take k).length=k:=by simp; omega
 refine zaq ⟨33,[(0,.rk 0 0 nm c),(7,.I n)],[(0,some ⟨3,R.take k++R.drop k1++R.drop nm,0⟩)],184⟩ rfl ?_ ?_
 ·simp
  have hkn : k+(n - k1)=nm:=by omega
  refine ⟨by omega,by omega,by omega,_,⟨by omega,hx⟩,by omega,?_⟩
  rw [hxl,hkn]
  refine ⟨by omega,by omega,?_⟩
  rw [if_pos (by omega)]
  exact ⟨rfl,Le.keep rfl (Nat.le_refl _) (by simp) (by simp)⟩
 have h1 : (R.take k++R.drop k1++R.drop nm).take nm=R.take k++R.drop k1:=by
  rw [List.take_append_of_le_length (by simp; omega),List.take_of_length_le (by simp; omega)]
 refine zaa ⟨33,[(0,.rk 0 0 nm c)],[(0,some ⟨3,R.take k++R.drop k1++[[.I 0,.I 0,.I 0]],0⟩)],232⟩ rfl ?_ ?_
 ·rw [List.append_assoc] at h1
  have h2 : (R.take k++(R.drop k1++R.drop nm)).drop (nm+(n - nm))=[]:=List.drop_eq_nil_of_le (by simp; omega)
  have h3 : n - nm=1:=by omega
  simp
  refine ⟨by omega,by omega,by omega,?_⟩
  rw [h1,h2,h3]
  exact Le.keep rfl (Nat.le_refl _) (by simp) (by simp [List.replicate])
 refine zab ?_
 refine zae (s:=?s9) rfl ?o9 ?q9
 case o9=>simp; rfl
 refine zag ?_
 refine ⟨.inr rfl,⟨[.rk 0 0 nm c],rfl,[],[],by simp [List.range,List.range.loop],by simp,by simp,?_,?_⟩⟩
 ·simp [List.range,List.range.loop,← hnm]
 ·have hflat : ∀ ρ sn h n,(R.take k++(R.drop k1++[[AV.I 0,AV.I 0,AV.I 0]])).map (List.map (conv ρ sn h (n+1)))=R.take k++R.drop k1++[[AV.I 0,AV.I 0,AV.I 0]]:=fun ρ sn h n=>by
   have:=hR ρ sn h n
   rw [List.map_append,List.map_append,List.map_take,List.map_drop,this]
   simp
  show [Option.map _ (some _)]=_
  rw [Option.map_some]
  unfold zax
  simp only [List.append_assoc,hflat]
theorem zvu (l : List Ed) : Flat (l.map fun e=>[AV.I e.f,AV.I e.t,AV.I e.v]):=by
 intro ρ sn h n
 simp [fcd]
theorem GrOk.lt {g : Gr} (h : GrOk g) : ∀ (j i : Nat) (hi : i<g.edges.length) (hj : j<g.edges.length),i<j→Bef g.edges[i] g.edges[j]
 | 0,_,_,_,h0=>by omega
 | j+1,i,hi,hj,hij=>by
   have h1 : Bef g.edges[j] g.edges[j+1]:=zgd.1 ((h.2 (j+1) hj).2.2.2 (by omega))
   rcases Nat.lt_or_ge i j with h2 | h2
   ·have h3:=GrOk.lt h j i hi (by omega) h2
    unfold Bef at *
    omega
   ·obtain rfl : i=j:=by omega
    exact h1
theorem GrOk.mono {g : Gr} (h : GrOk g) (e : Ed) : ∀ (i j : Nat) (hi : i<g.edges.length) (hj : j<g.edges.length),i≤j→Bef g.edges[j] e→Bef g.edges[i] e:=by
 intro i j hi hj hij hb
 rcases Nat.lt_or_ge i j with h2 | h2
 ·have h3:=h.lt j i hi hj h2
  unfold Bef at *
  omega
 ·obtain rfl : i=j:=by omega
  exact hb
theorem zs8 (l : List Ed) (e : Ed) : idxE l e=idxE l ⟨e.f,e.t,0⟩:=rfl
section
variable {P : Program} {np id : Nat} {h : Nat→Option Ent} {K : AV→List Nat→List (Nat × Option Ent)→Prop} {f : FuncId} {first capt args args' : List AV} {res : AV}
theorem znx {i j : Nat} {e e' ej : Ent} {hs' : List (Option Ent)} (hij : j≠i) (hnp : np≤j) (hi : h i=some e) (hj : h j=some ej) (hee : zax [(i,0)] [j] h 4 e=e') (hc : zai P f args' [e'] res hs') (h8 : hs'.length≤9) (he : (first++args++capt).map (conv [(i,0)] [j] h 4)=args')
  (hk : K (conv (swp [i] id) [] (fun _=>none) 4 res) [i,j] ((hs'.zipIdx.map fun (e,k)=>((i::(List.range 8).map (id + ·)).getD k 0,e.map (zax (swp [i] id) [] (fun _=>none) 4)))++[(j,some { ej with ro:=ej.rows.length })])) : aK P np id .call (.fn (.func f) first capt::args) h K :=
 ⟨[i],[j],true,args',[e'],res,hs',by simp,by simpa using hij,by simpa using hnp,by rw [show [i].zipIdx=[(i,0)] from rfl,he]; exact zbU _,by rw [show [i].zipIdx=[(i,0)] from rfl]; simpa [hi] using hee,hc,by simpa using h8,.inl rfl,by simpa [swp,hj] using hk⟩
end
open Classical in
set_option maxRecDepth 100000 in
theorem zng (g : Gr) (e : Ed) (hl : g.edges.length*24≤140737488355328) (hl2 : g.gone.length*8≤140737488355328) : zai Tryz.prog zhm [eG g,eE e] [] (.tup [eG (zbu g e).1,.I (zbu g e).2]) []:=by
 refine zqL.acalls (nbz rfl) (nbz rfl) (Nat.le_refl _) ?_
 show awp _ 0 _ _ ⟨51,[(0,eG g),(1,eE e)],[],16⟩
 refine zaa ⟨51,[(2,.pv (gC g)),(3,.pv (eC e)),(4,.pt 32 0 0)],[(32,some ⟨3,[[.I 0,.nilS,.nilS]],0⟩)],40⟩ rfl ?_ ?_
 ·simp
  exact Le.var1 32 [16,24] rfl rfl (nbz rfl) (by decide) rfl (by simp) (by simp) (by simp)
 refine zab ?_
 refine zab ?_
 refine zae (s:=?s1) rfl ?o1 ?q1
 case o1=>simp; refine zaj (zbH g (by omega) (by omega)) rfl ?_; simp; rfl
 refine zac _ rfl (fun h2=>?_) fun h2=>?_
 ·have hg : ¬ GrOk g:=by
   intro hg
   simp [hg] at h2
  refine zab ?_
  refine zae (s:=?s3) rfl ?o3 ?q3
  case o3=>simp; rfl
  refine zag ?_
  refine ⟨.inr rfl,?_⟩
  show zak [(4,some (true,3)),(5,none)] 0 _ _ _
  refine zak.out (vs:=[.agg [.I 0,.nilS,.nilS],.I 14]) [] [] (by simp) (by simp) (by simp) ?_ (by simp)
  have hr : zbu g e=(zbg,14):=by grind [zbu]
  simp [hr,zbg]
  exact wkT2 (wkA3 (.refl _) (.nil _ _) (.nil _ _)) (.refl _)
 have hg : GrOk g:=by
  rcases Classical.em (GrOk g) with h | h
  ·exact h
  ·simp [h] at h2
 have h500 : g.edges.length≤500:=hg.1.2.2.1
 refine zad ?_
 refine zab ?_
 refine zae (s:=?s4) rfl ?o4 ?q4
 case o4=>simp; refine zaj (zf6 g.edges e (Nat.le_trans hg.1.2.2.1 (by omega)) (hg.mono e)) rfl ?_; simp [zs8]; rfl
 refine zab ?_
 refine zaf ?_
 refine zab ?_
 refine zae (s:=?s5) rfl ?o5 ?q5
 case o5=>simp; refine zaj (zie g e hg.1.1 hg.1.2.1 (by omega)) rfl ?_; simp; rfl
 refine zac _ rfl (fun h6=>?_) fun h6=>?_
 ·try simp at h6
  refine zab ?_
  refine zae (s:=?s7) rfl ?o7 ?q7
  case o7=>simp; rfl
  refine zag ?_
  refine ⟨.inr rfl,?_⟩
  show zak [(4,some (true,3)),(5,none)] 0 _ _ _
  refine zak.out (vs:=[.agg [.I 0,.nilS,.nilS],.I 4]) [] [] (by simp) (by simp) (by simp) ?_ (by simp)
  have hr : zbu g e=(zbg,4):=by grind [zbu]
  simp [hr,zbg]
  exact wkT2 (wkA3 (.refl _) (.nil _ _) (.nil _ _)) (.refl _)
 try simp at h6
 refine zab ?_
 refine zae (s:=?s8) rfl ?o8 ?q8
 case o8=>simp; refine zaj (zbv ..) rfl ?_; simp; rfl
 refine zac _ rfl (fun h9=>?_) fun h9=>?_
 ·try simp at h9
  refine zab ?_
  refine zae (s:=?s10) rfl ?o10 ?q10
  case o10=>simp; rfl
  refine zag ?_
  refine ⟨.inr rfl,?_⟩
  show zak [(4,some (true,3)),(5,none)] 0 _ _ _
  refine zak.out (vs:=[.agg [.I 0,.nilS,.nilS],.I 2]) [] [] (by simp) (by simp) (by simp) ?_ (by simp)
  have hr : zbu g e=(zbg,2):=by grind [zbu]
  simp [hr,zbg]
  exact wkT2 (wkA3 (.refl _) (.nil _ _) (.nil _ _)) (.refl _)
 try simp at h9
 refine zab ?_
 refine zae (s:=?s11) rfl ?o11 ?q11
 case o11=>simp; rfl
 refine zac _ rfl (fun h12=>?_) fun h12=>?_
 ·try simp at h12
  refine zab ?_
  refine zae (s:=?s13) rfl ?o13 ?q13
  case o13=>simp; rfl
  refine zag ?_
  refine ⟨.inr rfl,?_⟩
  show zak [(4,some (true,3)),(5,none)] 0 _ _ _
  refine zak.out (vs:=[.agg [.I 0,.nilS,.nilS],.I 19]) [] [] (by simp) (by simp) (by simp) ?_ (by simp)
  have hr : zbu g e=(zbg,19):=by grind [zbu]
  simp [hr,zbg]
  exact wkT2 (wkA3 (.refl _) (.nil _ _) (.nil _ _)) (.refl _)
 try simp at h12
 refine zab ?_
 refine zae (s:=?s14) rfl ?o14 ?q14
 case o14=>simp; rfl
 refine zac _ rfl (fun h15=>?_) fun h15=>?_
 ·try simp at h15
  refine zab ?_
  refine zae (s:=?s16) rfl ?o16 ?q16
  case o16=>simp; rfl
  refine zag ?_
  refine ⟨.inr rfl,?_⟩
  show zak [(4,some (true,3)),(5,none)] 0 _ _ _
  refine zak.out (vs:=[.agg [.I 0,.nilS,.nilS],.I 3]) [] [] (by simp) (by simp) (by simp) ?_ (by simp)
  have hr : zbu g e=(zbg,3):=by grind [zbu]
  simp [hr,zbg]
  exact wkT2 (wkA3 (.refl _) (.nil _ _) (.nil _ _)) (.refl _)
 try simp at h15
 refine zad ?_
 refine zaa ⟨51,[(3,.pv (eC e)),(4,.pt 32 0 0),(6,.I (idxE g.edges ⟨e.f,e.t,0⟩)),(8,.pt 288 0 0)],[(32,some ⟨3,[[.I 0,.nilS,.nilS]],0⟩),(288,some ⟨3,[[.I g.size,.rs 280 0 g.edges.length,.rs 281 0 g.gone.length]],0⟩),(280,some ⟨3,g.edges.map fun e : Ed=>[AV.I e.f,AV.I e.t,AV.I e.v],0⟩),(281,some ⟨1,g.gone.map fun n=>[AV.I n],0⟩)],304⟩ rfl ?_ ?_
 ·simp
  refine zje (zeq g hl hl2) rfl ?_
  simp [fcd]
  exact Le.keep rfl (Nat.le_refl _) (by simp) (by simp)
 have hle:=zql g.edges ⟨e.f,e.t,0⟩
 have hr : zbu g e=(zix g e,0):=by grind [zbu]
 rw [hr]
 unfold zix
 have hk : ∃ k,k=idxE g.edges ⟨e.f,e.t,0⟩:=⟨_,rfl⟩
 obtain ⟨k,hk⟩:=hk
 rw [← hk] at hle ⊢
 obtain ⟨R,hR⟩ : ∃ R,R=g.edges.map fun e : Ed=>[AV.I e.f,AV.I e.t,AV.I e.v]:=⟨_,rfl⟩
 rw [← hR]
 have hRl : R.length=g.edges.length:=by simp [hR]
 have hRf : Flat R:=by rw [hR]; exact zvu _
 obtain ⟨E,hE⟩ : ∃ E,E=g.edges.take k++e::g.edges.drop k:=⟨_,rfl⟩
 have hEl : E.length=g.edges.length+1:=by subst hE; simp; omega
 have hrows : R.take k++[AV.I e.f,AV.I e.t,AV.I e.v]::R.drop k=E.map fun e : Ed=>[AV.I e.f,AV.I e.t,AV.I e.v]:=by subst hE hR; simp [List.map_take,List.map_drop]
 have hins:=zv3 R [AV.I e.f,AV.I e.t,AV.I e.v] g.edges.length k hRl hle hRf (zvu [e]) (by omega)
 rw [hrows,← hEl] at hins
 rw [← hE]
 refine zaa ⟨51,[(4,.pt 32 0 0),(8,.pt 288 0 0)],[(32,some ⟨3,[[.I 0,.nilS,.nilS]],0⟩),(288,some ⟨3,[[.I g.size,.rs 344 0 E.length,.rs 281 0 g.gone.length]],0⟩),(344,some ⟨3,E.map fun e : Ed=>[AV.I e.f,AV.I e.t,AV.I e.v],0⟩),(281,some ⟨1,g.gone.map fun n=>[AV.I n],0⟩)],368⟩ rfl ?_ ?_
 ·simp
  refine znx (i:=280) (j:=336) (by decide) (Nat.zero_le _) rfl rfl ?_ hins (by simp) ?_ ?_
  ·have:=hRf [(280,0)] [336]
   simp only [zax,this]
  ·simp
  simp [fcd]
  exact Le.keep rfl (Nat.le_refl _) (by simp) (by simp)
 refine zab ?_
 refine zae (s:=?s21) rfl ?o21 ?q21
 case o21=>simp; rfl
 refine zag ?_
 refine ⟨.inr rfl,?_⟩
 show zak [(4,some (true,3)),(5,none)] 0 _ _ _
 refine zak.out (vs:=[.agg [.I g.size,.rs 344 0 E.length,.rs 281 0 g.gone.length],.I 0]) [] [344,281] (by simp) (by simp) (by simp) ?_ (by simp)
 simp [fcd,zap]
theorem zuI {l : List Ed} {e : Ed} {i : Nat} (h : i<idxE l e) (hi : i<l.length) : Bef l[i] e:=by
 have:=List.not_of_lt_findIdx h
 simpa using this
theorem zuq {l : List Ed} {e : Ed} (h : idxE l e<l.length) : ¬ Bef l[idxE l e] e:=by
 have h1 : l.findIdx (fun x=>!decide (Bef x e))<l.length:=h
 have:=List.findIdx_getElem (w:=h1)
 intro hb
 have h2 : decide (Bef l[l.findIdx (fun x=>!decide (Bef x e))] e)=true:=decide_eq_true hb
 simp only [h2] at this
 cases this
theorem zuQ {g : Gr} {e : Ed} (hg : GrOk g) (hf : Fits g e) (h1 : 1≤e.v) (h3 : e.v≤3) (ha : ¬ AtE g.edges (idxE g.edges ⟨e.f,e.t,0⟩) e.f e.t) (hl : g.edges.length<500) : GrOk (zix g e):=by
 have hle:=zql g.edges ⟨e.f,e.t,0⟩
 have hb : ∀ i (hi : i<g.edges.length),i<idxE g.edges ⟨e.f,e.t,0⟩→Bef g.edges[i] e:=fun i hi h=>by
  have:=zuI h hi
  exact this
 have hn : ∀ (h : idxE g.edges ⟨e.f,e.t,0⟩<g.edges.length),Bef e g.edges[idxE g.edges ⟨e.f,e.t,0⟩]:=fun h=>by
  have h2:=zuq h
  have h4 : ¬ (g.edges[idxE g.edges ⟨e.f,e.t,0⟩].f=e.f∧g.edges[idxE g.edges ⟨e.f,e.t,0⟩].t=e.t):=fun q=>ha ⟨h,q⟩
  simp only [Bef] at h2 ⊢
  omega
 unfold zix
 generalize idxE g.edges ⟨e.f,e.t,0⟩=k at *
 have hlen : (g.edges.take k++e::g.edges.drop k).length=g.edges.length+1:=by simp; omega
 have hget : ∀ i (hi : i<(g.edges.take k++e::g.edges.drop k).length),(g.edges.take k++e::g.edges.drop k)[i]=if h : i<k then g.edges[i]'(by omega) else if h2 : i=k then e else g.edges[i - 1]'(by omega):=by
  intro i hi
  have htl : (g.edges.take k).length=k:=by simp; omega
  by_cases h : i<k
  ·rw [dif_pos h,List.getElem_append_left (by omega),List.getElem_take]
  ·rw [dif_neg h,List.getElem_append_right (by omega)]
   by_cases h2 : i=k
   ·subst h2
    simp [htl]
   ·rw [dif_neg h2]
    rw [List.getElem_cons]
    rw [dif_neg (by omega),List.getElem_drop]
    congr 1
    omega
 refine ⟨⟨hg.1.1,hg.1.2.1,by simp only [hlen]; omega,hg.1.2.2.2⟩,fun i hi=>?_⟩
 simp only at hi
 have hfit : ∀ x : Ed,Fits ⟨g.size,g.edges.take k++e::g.edges.drop k,g.gone⟩ x↔Fits g x:=fun x=>Iff.rfl
 simp only [hfit,zgd,hget]
 have hE:=fun j (hj : j<g.edges.length)=>hg.2 j hj
 by_cases h : i<k
 ·simp only [dif_pos h]
  refine ⟨(hE i (by omega)).1,(hE i (by omega)).2.1,(hE i (by omega)).2.2.1,fun h0=>?_⟩
  rw [dif_pos (by omega)]
  exact zgd.1 ((hE i (by omega)).2.2.2 h0)
 ·simp only [dif_neg h]
  by_cases h2 : i=k
  ·subst h2
   simp only [dif_pos]
   refine ⟨hf,h1,h3,fun h0=>?_⟩
   rw [dif_pos (by omega)]
   exact hb _ _ (by omega)
  ·simp only [dif_neg h2]
   refine ⟨(hE (i - 1) (by omega)).1,(hE (i - 1) (by omega)).2.1,(hE (i - 1) (by omega)).2.2.1,fun h0=>?_⟩
   rw [dif_neg (by omega)]
   by_cases h4 : i - 1=k
   ·rw [dif_pos h4]
    subst h4
    exact hn _
   ·rw [dif_neg h4]
    exact hg.lt _ _ _ _ (by omega)
theorem zj6 {g : Gr} {e : Ed} (h : (zbu g e).2=0) : GrOk g∧Fits g e∧(1≤e.v∧e.v≤3)∧¬ AtE g.edges (idxE g.edges ⟨e.f,e.t,0⟩) e.f e.t∧g.edges.length<500∧(zbu g e).1=zix g e∧GrOk (zix g e):=by
 have key : GrOk g∧Fits g e∧(1≤e.v∧e.v≤3)∧¬ AtE g.edges (idxE g.edges ⟨e.f,e.t,0⟩) e.f e.t∧g.edges.length≠500∧(zbu g e).1=zix g e:=by
  unfold zbu at *
  split at h
  ·simp at h
  split at h
  ·simp at h
  split at h
  ·simp at h
  split at h
  ·simp at h
  split at h
  ·simp at h
  simp_all
 obtain ⟨h1,h2,h3,h4,h5,h6⟩:=key
 have h7 : g.edges.length<500:=by have:=h1.1.2.2.1; omega
 exact ⟨h1,h2,h3,h4,h7,h6,zuQ h1 h2 h3.1 h3.2 h4 h7⟩
noncomputable def zoj (L : List Int) (p : Gr × Nat) : Gr × Nat :=
 (if (zbu p.1 ⟨(zaA L p.2 p.1.size).1,(zaA L (zaA L p.2 p.1.size).2 p.1.size).1,1+(zaA L (zaA L (zaA L p.2 p.1.size).2 p.1.size).2 3).1⟩).2=0
  then (zbu p.1 ⟨(zaA L p.2 p.1.size).1,(zaA L (zaA L p.2 p.1.size).2 p.1.size).1,1+(zaA L (zaA L (zaA L p.2 p.1.size).2 p.1.size).2 3).1⟩).1 else p.1,
  (zaA L (zaA L (zaA L p.2 p.1.size).2 p.1.size).2 3).2)
noncomputable def zu1 (L : List Int) : Nat→Gr × Nat→Gr × Nat
 | 0,p=>p
 | n+1,p=>zu1 L n (zoj L p)
def zfI (L : List Int) (a : Nat) : Int:=if L.length=0 then 4 else 2+(zaA L a 8).1
def zcM (L : List Int) (a : Nat) : Gr × Nat :=
 if (zaA L (zaA L a 8).2 8).1=7 then (⟨zfI L a,[],[(zaA L (zaA L (zaA L a 8).2 8).2 (zfI L a)).1]⟩,(zaA L (zaA L (zaA L a 8).2 8).2 (zfI L a)).2)
 else (⟨zfI L a,[],[]⟩,(zaA L (zaA L a 8).2 8).2)
noncomputable def zmi (L : List Int) (a : Nat) : Gr × Nat:=zu1 L (zaA L (zcM L a).2 23).1.toNat ((zcM L a).1,(zaA L (zcM L a).2 23).2)
structure zp8 (L : List Int) (p : Gr × Nat) : Prop where
 ok : GrOk p.1
 lo : 2≤p.1.size
 hi : p.1.size≤9
 at_ : p.2≤L.length
 few : p.1.gone.length≤1
theorem zks (L : List Int) (a : Nat) : 2≤zfI L a∧zfI L a≤9:=by
 have:=zeQ (L:=L) (a:=a) (n:=8) (by omega)
 unfold zfI
 split <;> omega
theorem zkq (L : List Int) (a : Nat) (ha : a≤L.length) : zp8 L (zcM L a):=by
 have hs:=zks L a
 have h1:=zbW (L:=L) (a:=a) (n:=8) ha
 have h2:=zbW (L:=L) (a:=(zaA L a 8).2) (n:=8) h1
 have hq:=zeQ (L:=L) (a:=(zaA L (zaA L a 8).2 8).2) (n:=zfI L a) (by omega)
 unfold zcM
 split
 ·refine ⟨⟨⟨by simp only; omega,by simp only; omega,by simp,fun i hi=>?_⟩,fun i hi=>absurd hi (by simp)⟩,hs.1,hs.2,zbW h2,by simp⟩
  obtain rfl : i=0:=by simpa using hi
  refine ⟨hq.1,?_,fun h=>by omega⟩
  have:=hq.2
  simp only [List.getElem_cons_zero]
  omega
 ·exact ⟨⟨⟨by simp only; omega,by simp only; omega,by simp,fun i hi=>absurd hi (by simp)⟩,fun i hi=>absurd hi (by simp)⟩,hs.1,hs.2,h2,by simp⟩
theorem zmE {L : List Int} {p : Gr × Nat} (h : zp8 L p) : zp8 L (zoj L p):=by
 have h3:=zbW (n:=3) (zbW (n:=p.1.size) (zbW (n:=p.1.size) h.at_))
 unfold zoj
 by_cases hw : (zbu p.1 ⟨(zaA L p.2 p.1.size).1,(zaA L (zaA L p.2 p.1.size).2 p.1.size).1,1+(zaA L (zaA L (zaA L p.2 p.1.size).2 p.1.size).2 3).1⟩).2=0
 ·rw [if_pos hw]
  obtain ⟨_,_,_,_,_,q6,q7⟩:=zj6 hw
  rw [q6]
  exact ⟨q7,h.lo,h.hi,h3,h.few⟩
 ·rw [if_neg hw]
  exact ⟨h.ok,h.lo,h.hi,h3,h.few⟩
theorem zmF {L : List Int} : ∀ (n : Nat) {p : Gr × Nat},zp8 L p→zp8 L (zu1 L n p)
 | 0,_,h=>h
 | n+1,_,h=>zmF n (zmE h)
theorem zqN (L : List Int) (a : Nat) (ha : a≤L.length) : zp8 L (zmi L a):=by
 have h:=zkq L a ha
 exact zmF _ ⟨h.ok,h.lo,h.hi,zbW h.at_,h.few⟩
theorem zaH.eq {nl : List (Nat × Nat)} {e e' : Ent} (h : e=e') (hr : e'.ro≤e'.rows.length) : zaH nl e e':=by
 subst h
 exact zaH.rfl' hr
theorem zaH.row {nl : List (Nat × Nat)} {s ro : Nat} {e : Ent} {r r' : List AV} (h : e=⟨s,[r],ro⟩) (hr : ro≤1) (hu : UpL nl r r') (hs : s≠0:=by decide) : zaH nl e ⟨s,[r'],ro⟩:=by
 subst h
 refine ⟨rfl,Nat.le_refl _,hr,.inr ⟨hs,rfl,fun i=>?_⟩⟩
 match i with
 | 0=>exact hu
 | _+1=>exact trivial
theorem zsW {nl : List (Nat × Nat)} : ∀ {xs ys : List AV},WkL xs ys→UpL nl xs ys
 | [],[],_=>trivial
 | _::_,_::_,h=>⟨.inl h.1,zsW h.2⟩
 | [],_::_,h=>False.elim h
 | _::_,[],h=>False.elim h
theorem Le.ents {np : Nat} {st st' : St} (ρ : List (Nat × Nat)) (sn : List Nat) (hsz : st'.sz=st.sz)
  (h0 : (ρ.map (·.1)).Nodup) (h1 : (ρ.map (·.2)).Nodup) (h2 : ∀ p∈ρ,p.2<st'.n∧(p.2<np→p.1=p.2)) (h4 : ∀ i∈sn,np≤i∧i∉ρ.map (·.1)) (h5 : np≤st'.n)
  (ht : ∀ p∈st'.t,Wk (conv ρ sn st.hp 4 (st.get p.1)) p.2)
  (hh : ∀ p∈st'.h,∃ q e e',p.2=some e'∧(q,p.1)∈ρ∧st.hp q=some e∧zaH [] (zax ρ sn st.hp 4 e) e') : Le np st st' :=
 Le.lst ρ sn [] hsz h0 h1 h2 (by simp) h4 h5 (by simp) (fun p hp=>.inl (ht p hp)) fun p hp e' he'=>by
  obtain ⟨q,e,e2,h1,h2,h3,h4⟩:=hh p hp
  rw [he'] at h1
  cases h1
  exact .inl ⟨(q,p.1),h2,rfl,e,h3,h4⟩
theorem zgI (L : List Int) (a : Nat) (n : Int) (hl : L.length≤400) (ha : a≤L.length) (hn : n≤9223372036854775807) : zai Tryz.prog zav [.pt 0 0 0,.I n] [dice L a] (.I (zaA L a n).1) [some (dice L (zaA L a n).2)]:=znN L a n (by omega) ha hn
abbrev zG : Ent:=⟨3,[[.I 0,.nilS,.nilS]],0⟩
abbrev rowG (g : Gr) : Ent:=⟨3,[gC g],0⟩
set_option maxRecDepth 100000 in
theorem zuJ (L : List Int) (a : Nat) (hl : L.length≤400) (ha : a≤L.length) : zai Tryz.prog zbZ [.pt 0 0 0] [dice L a] (eG (zmi L a).1) [some (dice L (zmi L a).2)]:=by
 refine zjE.acalls (nbz rfl) (nbz rfl) (Nat.le_refl _) ?_
 show awp _ 1 _ _ ⟨53,[(0,.pt 0 0 0)],[(0,some (dice L a))],16⟩
 have a1:=zbW (L:=L) (a:=a) (n:=8) ha
 have r1:=zeQ (L:=L) (a:=a) (n:=8) (by omega)
 have hs:=zks L a
 have a2:=zbW (L:=L) (a:=(zaA L a 8).2) (n:=8) a1
 have hw1 : IntKind.i64.wrap (2+(zaA L a 8).1)=2+(zaA L a 8).1:=w64 (by omega) (by omega)
 have hm:=zkq L a ha
 refine zaa ⟨53,[(0,.pt 0 0 0),(2,.pt 16 0 0)],[(0,some (dice L a)),(16,some zG)],24⟩ rfl ?_ ?_
 ·simp
  exact Le.keep rfl (Nat.le_refl _) (by simp) (by simp)
 refine zaa ⟨53,[(0,.pt 0 0 0),(2,.pt 16 0 0),(3,.pt 56 0 0)],[(0,some (dice L (zaA L a 8).2)),(16,some zG),(56,some ⟨3,[[.I (2+(zaA L a 8).1),.nilS,.nilS]],0⟩)],72⟩ rfl ?_ ?_
 ·simp
  refine zbk (i:=0) rfl (e':=dice L a) (by simp [fcd]) (zgI L a 8 hl ha (by omega)) (by simp) (by simp) ?_
  simp [hw1,fcd]
  exact Le.keep rfl (Nat.le_refl _) (by simp) (by simp)
 refine zaK (ι:=Unit) (fun _=>⟨53,[(0,.pt 0 0 0),(2,.pt 16 0 0),(3,.pt 56 0 0)],[(0,some (dice L (zaA L a 8).2)),(16,some zG),(56,some ⟨3,[[.I (zfI L a),.nilS,.nilS]],0⟩)],136⟩) (fun _=>True) ?_ fun _ _=>?_
 ·refine zaa ⟨53,[(0,.pt 0 0 0),(2,.pt 16 0 0),(3,.pt 56 0 0),(16,.B (decide (L.length=0)))],[(0,some (dice L (zaA L a 8).2)),(16,some zG),(56,some ⟨3,[[.I (2+(zaA L a 8).1),.nilS,.nilS]],0⟩)],120⟩ rfl ?_ ?_
  ·simp
   exact Le.keep rfl (Nat.le_refl _) (by simp <;> rw [Bool.eq_iff_iff] <;> simp) (by simp)
  refine zac _ rfl (fun h=>?_) fun h=>zad ?_
  ·simp only [decide_eq_true_eq] at h
   have hz : zfI L a=4:=by unfold zfI; rw [if_pos h]
   refine zar rfl ?_
   simp
   exact Le.keep rfl (Nat.le_refl _) (by simp) (by simp [hz])
  ·simp only [decide_eq_false_iff_not] at h
   have hz : zfI L a=2+(zaA L a 8).1:=by unfold zfI; rw [if_neg h]
   exact ⟨(),trivial,Le.keep rfl (nbz rfl) (by simp) (by simp [hz])⟩
 refine zaK (ι:=Unit) (fun _=>⟨53,[(0,.pt 0 0 0),(2,.pt 16 0 0),(3,.pt 56 0 0)],[(0,some (dice L (zcM L a).2)),(16,some zG),(56,some (rowG (zcM L a).1))],208⟩) (fun _=>True) ?_ fun _ _=>?_
 ·refine zaa ⟨53,[(0,.pt 0 0 0),(2,.pt 16 0 0),(3,.pt 56 0 0),(19,.B (decide ((zaA L (zaA L a 8).2 8).1=7)))],[(0,some (dice L (zaA L (zaA L a 8).2 8).2)),(16,some zG),(56,some ⟨3,[[.I (zfI L a),.nilS,.nilS]],0⟩)],152⟩ rfl ?_ ?_
  ·simp
   refine zbk (i:=0) rfl (e':=dice L (zaA L a 8).2) (by simp [fcd]) (zvj L _ 8 (by omega) a1 (by omega) (by omega)) (by simp) (by simp) ?_
   simp [fcd]
   exact Le.keep rfl (Nat.le_refl _) (by simp) (by simp)
  refine zac _ rfl (fun h=>?_) fun h=>zad ?_
  ·simp only [decide_eq_true_eq] at h
   have hz : zcM L a=(⟨zfI L a,[],[(zaA L (zaA L (zaA L a 8).2 8).2 (zfI L a)).1]⟩,(zaA L (zaA L (zaA L a 8).2 8).2 (zfI L a)).2):=by unfold zcM; rw [if_pos h]
   rw [hz]
   refine zar rfl ?_
   simp
   refine zbk (i:=0) rfl (e':=dice L (zaA L (zaA L a 8).2 8).2) (by simp [fcd]) (zgI L (zaA L (zaA L a 8).2 8).2 (zfI L a) hl a2 (by omega)) (by simp) (by simp) ?_
   simp [fcd]
   refine Le.ents [(0,0),(16,16),(56,56)] [184] rfl (by simp) (by simp) (by simp) (by simp) (by simp) (by simp) fun p hp=>?_
   simp at hp
   rcases hp with rfl | rfl | rfl
   ·exact ⟨0,_,_,rfl,by simp,rfl,zaH.eq (by simp) (by simp)⟩
   ·exact ⟨16,_,_,rfl,by simp,rfl,zaH.eq (by simp) (by simp)⟩
   ·exact ⟨56,_,_,rfl,by simp,rfl,zaH.row (by simp; rfl) (by simp) (zsW (by simp; exact ⟨.nil _ _,.refl _⟩))⟩
  ·simp only [decide_eq_false_iff_not] at h
   have hz : zcM L a=(⟨zfI L a,[],[]⟩,(zaA L (zaA L a 8).2 8).2):=by unfold zcM; rw [if_neg h]
   rw [hz]
   refine ⟨(),trivial,Le.ents [(0,0),(16,16),(56,56)] [] rfl (by simp) (by simp) (by simp) (by simp) (by simp) (by simp) fun p hp=>?_⟩
   simp at hp
   rcases hp with rfl | rfl | rfl
   ·exact ⟨0,_,_,rfl,by simp,rfl,zaH.eq (by simp) (by simp)⟩
   ·exact ⟨16,_,_,rfl,by simp,rfl,zaH.eq (by simp) (by simp)⟩
   ·exact ⟨56,_,_,rfl,by simp,rfl,zaH.row (by simp; rfl) (by simp) (zsW (by simp; exact ⟨.nil _ _,.nil _ _⟩))⟩
 have r4:=zeQ (L:=L) (a:=(zcM L a).2) (n:=23) (by omega)
 obtain ⟨n0,hn0⟩ : ∃ n0 : Nat,(zaA L (zcM L a).2 23).1=n0:=⟨(zaA L (zcM L a).2 23).1.toNat,by omega⟩
 refine zab ?_
 refine zaa ⟨53,[(0,.pt 0 0 0),(2,.pt 16 0 0),(3,.pt 56 0 0),(4,.I n0)],[(0,some (dice L (zaA L (zcM L a).2 23).2)),(16,some zG),(56,some (rowG (zcM L a).1))],232⟩ rfl ?_ ?_
 ·simp
  refine zbk (i:=0) rfl (e':=dice L (zcM L a).2) (by simp [fcd]) (zgI L (zcM L a).2 23 hl hm.at_ (by omega)) (by simp) (by simp) ?_
  simp [fcd,hn0]
  exact Le.keep rfl (Nat.le_refl _) (by simp) (by simp)
 refine zaf ?_
 refine zan (ι:=Nat × Gr × Nat) (fun q=>⟨53,[(0,.pt 0 0 0),(2,.pt 16 0 0),(3,.pt 56 0 0),(4,.I q.1)],[(0,some (dice L q.2.2)),(16,some zG),(56,some (rowG q.2.1))],232⟩)
  (fun q=>q.1≤23∧zp8 L q.2∧zu1 L q.1 q.2=zmi L a) (fun q=>q.1) (n0,(zcM L a).1,(zaA L (zcM L a).2 23).2) ?_ (Le.refl _ _) ?_
 ·refine ⟨by simp only; omega,⟨hm.ok,hm.lo,hm.hi,zbW hm.at_,hm.few⟩,?_⟩
  unfold zmi
  rw [hn0]
  rfl
 rintro ⟨k,p⟩ ⟨hk,hp,hit⟩
 simp only at hk hp hit ⊢
 refine zab ?_
 refine zaa ⟨53,[(0,.pt 0 0 0),(2,.pt 16 0 0),(3,.pt 56 0 0),(4,.I k),(29,.B (decide (0<k)))],[(0,some (dice L p.2)),(16,some zG),(56,some (rowG p.1))],248⟩ rfl ?_ ?_
 ·simp
  exact Le.keep rfl (Nat.le_refl _) (by simp) (by simp)
 refine zac _ rfl (fun h=>zad ?_) fun h=>zal (Go.Proofs.YthmaflecfppoiaaGreat.hit ?_)
 ·simp only [decide_eq_true_eq] at h
  refine zaK (ι:=Unit) (fun _=>⟨53,[(0,.pt 0 0 0),(2,.pt 16 0 0),(3,.pt 56 0 0),(4,.I k)],[(0,some (dice L (zoj L p).2)),(16,some zG),(56,some (rowG (zoj L p).1))],440⟩) (fun _=>True) ?_ fun _ _=>?_
  ·refine zaf ?_
   have q1:=zbW (n:=p.1.size) hp.at_
   have q2:=zbW (n:=p.1.size) q1
   have hlo:=hp.lo
   have hhi:=hp.hi
   have l3:=zeQ (L:=L) (a:=(zaA L (zaA L p.2 p.1.size).2 p.1.size).2) (n:=3) (by omega)
   have hwv : IntKind.i64.wrap (1+(zaA L (zaA L (zaA L p.2 p.1.size).2 p.1.size).2 3).1)=1+(zaA L (zaA L (zaA L p.2 p.1.size).2 p.1.size).2 3).1:=w64 (by omega) (by omega)
   obtain ⟨w,hw⟩ : ∃ w,w=zbu p.1 ⟨(zaA L p.2 p.1.size).1,(zaA L (zaA L p.2 p.1.size).2 p.1.size).1,1+(zaA L (zaA L (zaA L p.2 p.1.size).2 p.1.size).2 3).1⟩:=⟨_,rfl⟩
   have hst : zoj L p=(if w.2=0 then w.1 else p.1,(zaA L (zaA L (zaA L p.2 p.1.size).2 p.1.size).2 3).2):=by rw [hw]; rfl
   have h500:=hp.ok.1.2.2.1
   have hfew:=hp.few
   have hwith:=zhV p.1 ⟨(zaA L p.2 p.1.size).1,(zaA L (zaA L p.2 p.1.size).2 p.1.size).1,1+(zaA L (zaA L (zaA L p.2 p.1.size).2 p.1.size).2 3).1⟩ (by omega) (by omega)
   rw [← hw] at hwith
   rw [hst]
   refine zaq ⟨53,[(0,.pt 0 0 0),(2,.pt 16 0 0),(3,.pt 56 0 0),(4,.I k),(5,.pv (gC w.1)),(6,.I w.2)],[(0,some (dice L (zaA L (zaA L (zaA L p.2 p.1.size).2 p.1.size).2 3).2)),(16,some zG),(56,some (rowG p.1))],408⟩ rfl ?_ ?_
   ·simp
    refine zbk (i:=0) rfl (e':=dice L p.2) (by simp [fcd]) (zgI L p.2 p.1.size hl hp.at_ (by omega)) (by simp) (by simp) ?_
    simp [fcd]
    refine zbk (i:=0) rfl (e':=dice L (zaA L p.2 p.1.size).2) (by simp [fcd]) (zgI L (zaA L p.2 p.1.size).2 p.1.size hl q1 (by omega)) (by simp) (by simp) ?_
    simp [fcd]
    refine zbk (i:=0) rfl (e':=dice L (zaA L (zaA L p.2 p.1.size).2 p.1.size).2) (by simp [fcd]) (zgI L (zaA L (zaA L p.2 p.1.size).2 p.1.size).2 3 hl q2 (by omega)) (by simp) (by simp) ?_
    simp [fcd,hwv]
    refine zaj hwith rfl ?_
    simp
    refine ⟨rfl,Le.ents [(0,0),(16,16),(56,56)] [384] rfl (by simp) (by simp) (by simp) (by simp) (by simp) (by simp) fun p hp=>?_⟩
    simp at hp
    rcases hp with rfl | rfl | rfl
    ·exact ⟨0,_,_,rfl,by simp,rfl,zaH.eq (by simp [fcd]) (by simp)⟩
    ·exact ⟨16,_,_,rfl,by simp,rfl,zaH.eq (by simp) (by simp)⟩
    ·exact ⟨56,_,_,rfl,by simp,rfl,zaH.eq (by simp) (by simp)⟩
   refine zaa ⟨53,[(0,.pt 0 0 0),(2,.pt 16 0 0),(3,.pt 56 0 0),(4,.I k),(5,.pv (gC w.1)),(50,.B (decide (w.2=0)))],[(0,some (dice L (zaA L (zaA L (zaA L p.2 p.1.size).2 p.1.size).2 3).2)),(16,some zG),(56,some (rowG p.1))],424⟩ rfl ?_ ?_
   ·simp
    exact Le.keep rfl (Nat.le_refl _) (by simp <;> rw [Bool.eq_iff_iff] <;> simp) (by simp)
   refine zac _ rfl (fun h=>?_) fun h=>zad ?_
   ·simp only [decide_eq_true_eq] at h
    refine zar rfl ?_
    simp [h]
    exact Le.keep rfl (nbz rfl) (by simp) (by simp)
   ·simp only [decide_eq_false_iff_not] at h
    rw [if_neg h]
    exact ⟨(),trivial,Le.keep rfl (nbz rfl) (by simp) (by simp)⟩
  have hwk : IntKind.i64.wrap ((k : Int) - 1)=((k - 1 : Nat) : Int):=by rw [w64 (by omega) (by omega)]; omega
  refine zar rfl ?_
  simp [hwk]
  refine ⟨k - 1,(zoj L p).1,(zoj L p).2,⟨by omega,zmE hp,?_⟩,by omega,Le.ents [(0,0),(16,16),(56,56)] [] rfl (by simp) (by simp) (by simp) (by simp) (by simp) (by simp) fun p hp=>?_⟩
  ·rw [← hit]
   obtain ⟨k,rfl⟩ : ∃ j,k=j+1:=⟨k - 1,by omega⟩
   rfl
  ·simp at hp
   rcases hp with rfl | rfl | rfl
   ·exact ⟨0,_,_,rfl,by simp,rfl,zaH.eq (by simp [fcd]) (by simp)⟩
   ·exact ⟨16,_,_,rfl,by simp,rfl,zaH.eq (by simp) (by simp)⟩
   ·exact ⟨56,_,_,rfl,by simp,rfl,zaH.eq (by simp) (by simp)⟩
 simp only [decide_eq_false_iff_not] at h
 obtain rfl : k=0:=by omega
 have hpe : p=zmi L a:=hit
 rw [← hpe]
 refine zaa ⟨53,[(2,.pt 16 0 0)],[(0,some (dice L p.2)),(16,some (rowG p.1))],264⟩ rfl ?_ ?_
 ·simp
  exact Le.keep rfl (Nat.le_refl _) (by simp) (by simp)
 refine zag ?_
 exact ⟨.inr rfl,zak.k1 (vs:=[eG p.1]) rfl (by simp) (by simp [fcd])⟩
def zkI (capt : List AV) : Prop:=∀ ρ sn h n,capt.map (conv ρ sn h (n+1))=capt
def idxQ {α : Type} (l : List α) (q : α→Bool) : Int:=if l.findIdx q<l.length then (l.findIdx q : Int) else -1
theorem zmZ {α : Type} {l : List α} {q : α→Bool} {k : Nat} (hk : k<l.length) (h1 : ∀ i,i<k → ∀ h : i<l.length,q l[i]=false) (h2 : q l[k]=true) : idxQ l q=k:=by
 have : l.findIdx q=k:=by
  rw [List.findIdx_eq hk]
  exact ⟨h2,fun j hj=>by simpa using h1 j hj (by omega)⟩
 unfold idxQ
 rw [this,if_pos hk]
theorem znJ {α : Type} {l : List α} {q : α→Bool} (h1 : ∀ i,i<l.length → ∀ h : i<l.length,q l[i]=false) : idxQ l q = -1:=by
 have : l.findIdx q=l.length:=by
  rw [List.findIdx_eq_length]
  intro x hx
  obtain ⟨i,hi,rfl⟩:=List.mem_iff_getElem.1 hx
  exact h1 i hi hi
 unfold idxQ
 rw [this,if_neg (by omega)]
theorem zn9 (f : FuncId) (capt : List AV) (q : Ed→Bool) (l : List Ed) (hl : l.length≤1099511627776) (hs : zkI capt) (hc : ∀ e∈l,zai Tryz.prog f (eE e::capt) [] (.B (q e)) []) : zai Tryz.prog zaX [eEs l,.fn (.func f) [] capt] [] (.I (idxQ l q)) []:=by
 have hs2 : ∀ ρ sn h,capt.map (conv ρ sn h 2)=capt:=fun _ _ _=>hs _ _ _ 1
 have hs3 : ∀ ρ sn h,capt.map (conv ρ sn h 3)=capt:=fun _ _ _=>hs _ _ _ 2
 have hs4 : ∀ ρ sn h,capt.map (conv ρ sn h 4)=capt:=fun _ _ _=>hs _ _ _ 3
 refine zcu.acalls (nbz rfl) (nbz rfl) (Nat.le_refl _) ?_
 show awp _ 0 _ _ ⟨19,[(0,eEs l),(1,.fn (.func f) [] capt)],[],16⟩
 refine zab ?_
 refine zae (s:=?s1) rfl ?o1 ?q1
 case o1=>simp; rfl
 refine zab ?_
 refine zab ?_
 refine zae (s:=?s2) rfl ?o2 ?q2
 case o2=>simp; rfl
 refine zaf ?_
 refine zan (ι:=Nat) (fun k=>⟨19,[(0,eEs l),(1,.fn (.func f) [] capt),(7,.I l.length),(8,.I k)],[],16⟩) (fun k=>k≤l.length ∧ ∀ i,i<k → ∀ h : i<l.length,q l[i]=false) (fun k=>l.length - k) (0) ?_ (Le.snap [] rfl rfl (by simp [hs2,hs3,hs4])) ?_
 ·simp
 rintro k ⟨hk,hp⟩
 refine zab ?_
 refine zae (s:=?s3) rfl ?o3 ?q3
 case o3=>simp; rfl
 refine zab ?_
 refine zac _ rfl (fun h4=>?_) fun h4=>?_
 ·try simp at h4
  have hw2 : IntKind.i64.wrap ((k : Int)+1)=(k : Int)+1:=w64 (by omega) (by omega)
  have hck:=hc l[k] (List.getElem_mem h4)
  refine zad ?_
  refine zab ?_
  refine zaf ?_
  refine zab ?_
  refine zae (s:=?s5) rfl ?o5 ?q5
  case o5=>simp [h4,hw2]; rfl
  refine zab ?_
  refine zae (s:=?s6) rfl ?o6 ?q6
  case o6 =>
   simp [h4,hw2]
   refine zaj hck ?_ ?_
   ·simp [hs2,hs3,hs4]
   simp [h4,hw2]; rfl
  refine zac _ rfl (fun h7=>?_) fun h7=>?_
  ·try simp at h7
   refine zab ?_
   refine zae (s:=?s8) rfl ?o8 ?q8
   case o8=>simp [h4,hw2]; rfl
   refine zag ?_
   exact ⟨.inr rfl,zak.one (by simp [zmZ h4 hp h7])⟩
  try simp at h7
  refine zad ?_
  refine zae (s:=?s9) rfl ?o9 ?q9
  case o9=>simp [h4,hw2]; rfl
  refine ⟨k+1,⟨h4,fun i hi=>?_⟩,by omega,Le.snap [] rfl rfl (by simp [h4,hw2,hs2,hs3,hs4])⟩
  rcases Nat.lt_succ_iff_lt_or_eq.1 hi with h | rfl
  ·exact hp i h
  ·exact fun _=>h7
 try simp at h4
 have hall : ∀ i,i<l.length → ∀ h : i<l.length,q l[i]=false:=fun i hi=>hp i (by omega)
 refine zal ?_
 refine hit ?_
 refine zab ?_
 refine zae (s:=?s10) rfl ?o10 ?q10
 case o10=>simp; rfl
 refine zag ?_
 exact ⟨.inr rfl,zak.one (by simp [znJ hall])⟩
abbrev za6 (l : List Ed) : List (List AV):=l.map fun e=>[AV.I e.f,AV.I e.t,AV.I e.v]
theorem zih {l : List Ed} {q : Ed→Bool} (h : ∀ i,i<l.length → ∀ h : i<l.length,q l[i]=false) : l.filter (fun e=>!q e)=l:=by
 rw [List.filter_eq_self]
 intro x hx
 obtain ⟨i,hi,rfl⟩:=List.mem_iff_getElem.1 hx
 simp [h i hi hi]
theorem zfN (l : List Ed) (q : Ed→Bool) (j : Nat) (h : j<l.length) : (l.take (j+1)).filter (fun e=>!q e)=(l.take j).filter (fun e=>!q e)++if q l[j]=true then [] else [l[j]]:=by
 rw [← List.take_concat_get h,List.concat_eq_append,List.filter_append]
 congr 1
 cases hq : q l[j] <;> simp [hq]
set_option maxRecDepth 100000 in
theorem zmb (f : FuncId) (capt : List AV) (q : Ed→Bool) (l : List Ed) (n m : Nat) (hn : l.length=n) (hm : (l.filter fun e=>!q e).length=m) (hl : n≤1099511627776) (hs : zkI capt) (hc : ∀ e∈l,zai Tryz.prog f (eE e::capt) [] (.B (q e)) []) :
  zai Tryz.prog zaV [.rs 0 0 n,.fn (.func f) [] capt] [⟨3,za6 l,0⟩] (.rs 0 0 m) [some ⟨3,za6 (l.filter fun e=>!q e)++List.replicate (n - m) [.I 0,.I 0,.I 0],0⟩]:=by
 have hs2 : ∀ ρ sn h,capt.map (conv ρ sn h 2)=capt:=fun _ _ _=>hs _ _ _ 1
 have hs3 : ∀ ρ sn h,capt.map (conv ρ sn h 3)=capt:=fun _ _ _=>hs _ _ _ 2
 have hs4 : ∀ ρ sn h,capt.map (conv ρ sn h 4)=capt:=fun _ _ _=>hs _ _ _ 3
 refine zco.acalls (nbz rfl) (nbz rfl) (nbz rfl) ?_
 show awp _ 1 _ _ ⟨42,[(0,.rs 0 0 n),(1,.fn (.func f) [] capt)],[(0,some ⟨3,za6 l,0⟩)],16⟩
 have hmn : m≤n:=by rw [← hm,← hn]; exact List.length_filter_le _ _
 refine zaa ⟨42,[(0,.rs 0 0 n),(1,.fn (.func f) [] capt)],[(0,some ⟨3,za6 l,0⟩)],24⟩ rfl ?_ ?_
 ·simp
  exact Le.keep rfl (Nat.le_refl _) (by simp) (by simp)
 refine zaa ⟨42,[(0,.rs 0 0 n),(1,.fn (.func f) [] capt),(5,.I (idxQ l q))],[(0,some ⟨3,za6 l,0⟩)],56⟩ rfl ?_ ?_
 ·simp
  refine zli [0] (zn9 f capt q l (by omega) hs hc) ?_ (.sc _) ?_
  ·simp [hs2,hs3,hs4,← hn,fcd,zap]
  simp
  exact Le.keep rfl (Nat.le_refl _) (by simp) (by simp)
 refine zab ?_
 refine zaa ⟨42,[(0,.rs 0 0 n),(1,.fn (.func f) [] capt),(5,.I (idxQ l q)),(12,.B (decide (idxQ l q = -1)))],[(0,some ⟨3,za6 l,0⟩)],72⟩ rfl ?_ ?_
 ·simp
  exact Le.keep rfl (Nat.le_refl _) (by simp <;> rw [Bool.eq_iff_iff] <;> simp) (by simp)
 refine zac _ rfl (fun h=>?_) fun h=>zad ?_
 ·simp only [decide_eq_true_eq] at h
  have hno : ∀ i,i<l.length → ∀ h : i<l.length,q l[i]=false:=by
   intro i hi _
   unfold idxQ at h
   split at h
   ·omega
   ·rename_i hnl
    have : l.findIdx q=l.length:=by have:=List.findIdx_le_length (xs:=l) (p:=q); omega
    rw [List.findIdx_eq_length] at this
    exact this _ (List.getElem_mem hi)
  have hf:=zih hno
  rw [hf] at hm ⊢
  obtain rfl : n=m:=by omega
  refine zab ?_
  refine zae (s:=?s1) rfl ?o1 ?q1
  case o1=>simp; rfl
  refine zag ?_
  refine ⟨.inr rfl,⟨[.rs 0 0 n],rfl,[],[],by simp [List.range,List.range.loop],by simp,by simp,?_,?_⟩⟩
  ·simp [List.range,List.range.loop]
  ·simp [List.range,List.range.loop,fcd]
 simp only [decide_eq_false_iff_not] at h
 obtain ⟨i0,hi0,hlt,hbef,hat⟩ : ∃ i0 : Nat,idxQ l q=i0∧i0<l.length∧(∀ i,i<i0 → ∀ h : i<l.length,q l[i]=false) ∧ ∀ h : i0<l.length,q l[i0]=true:=by
  unfold idxQ at h ⊢
  split at h
  ·rename_i hlt
   refine ⟨l.findIdx q,by rw [if_pos hlt],hlt,fun i hi _=>?_,fun h=>List.findIdx_getElem (w:=h)⟩
   simpa using List.not_of_lt_findIdx hi
  ·omega
 rw [hi0]
 have hA0 : (l.take (i0+1)).filter (fun e=>!q e)=l.take i0:=by
  rw [zfN l q i0 hlt,if_pos (hat hlt),List.append_nil]
  refine zih fun i hi h=>?_
  rw [List.length_take] at hi
  simp only [List.getElem_take]
  exact hbef i (by omega) (by omega)
 have hw0 : IntKind.i64.wrap ((i0 : Int)+1)=((i0+1 : Nat) : Int):=by rw [w64 (by omega) (by omega)]; omega
 let C : Nat × List Ed→St:=fun p=>⟨42,[(0,.rs 0 0 n),(1,.fn (.func f) [] capt),(5,.I ((l.take p.1).filter fun e=>!q e).length),(6,.I p.1)],[(0,some ⟨3,za6 ((l.take p.1).filter (fun e=>!q e)++p.2++l.drop p.1),0⟩)],96⟩
 refine zab ?_
 refine zaa (C (i0+1,[l[i0]])) rfl ?_ ?_
 ·simp [hw0]
  refine Le.keep rfl (Nat.le_refl _) ?_ ?_
  ·simp only [C,hA0]
   simp
   omega
  ·simp only [C,hA0]
   simp
 refine zaf ?_
 refine zan C (fun p : Nat × List Ed=>p.1≤n∧p.2≠[]∧((l.take p.1).filter fun e=>!q e).length+p.2.length=p.1) (fun p : Nat × List Ed=>n - p.1) (i0+1,[l[i0]]) ?_ (Le.refl _ _) ?_
 ·simp only [hA0]
  simp
  omega
 rintro ⟨j,M⟩ ⟨hj,hM,hlen⟩
 simp only at hj hM hlen ⊢
 obtain ⟨A,hA⟩ : ∃ A,A=(l.take j).filter fun e=>!q e:=⟨_,rfl⟩
 rw [← hA] at hlen
 have hC : C (j,M)=⟨42,[(0,.rs 0 0 n),(1,.fn (.func f) [] capt),(5,.I A.length),(6,.I j)],[(0,some ⟨3,za6 (A++M++l.drop j),0⟩)],96⟩:=by subst hA; rfl
 rw [hC]
 refine zab ?_
 refine zaa ⟨42,[(0,.rs 0 0 n),(1,.fn (.func f) [] capt),(5,.I A.length),(6,.I j),(19,.B (decide (j<n)))],[(0,some ⟨3,za6 (A++M++l.drop j),0⟩)],128⟩ rfl ?_ ?_
 ·simp
  exact Le.keep rfl (Nat.le_refl _) (by simp) (by simp)
 refine zac _ rfl (fun h=>zad ?_) fun h=>zal (hit ?_)
 ·simp only [decide_eq_true_eq] at h
  have hjl : j<l.length:=by omega
  match M,hM,hlen with
  | m0::M1,_,hlen =>
  simp only [List.length_cons] at hlen
  have hnext:=zfN l q j hjl
  rw [← hA] at hnext
  have hget : (za6 (A++m0::M1++l.drop j))[j]? = some [AV.I l[j].f,AV.I l[j].t,AV.I l[j].v]:=by
   rw [List.getElem?_map,List.getElem?_append_right (by simp; omega),List.getElem?_drop,show j+(j - (A++m0::M1).length)=j by simp; omega,List.getElem?_eq_getElem hjl]
   rfl
  have hget2 : (za6 (A++m0::M1++l.drop j))[A.length]? = some [AV.I m0.f,AV.I m0.t,AV.I m0.v]:=by
   rw [List.getElem?_map,List.append_assoc,List.getElem?_append_right (by omega)]
   simp
  have hset : (za6 (A++m0::M1++l.drop j)).set A.length [AV.I l[j].f,AV.I l[j].t,AV.I l[j].v]=za6 ((A++[l[j]])++(M1++[l[j]])++l.drop (j+1)):=by
   have e1 : l.drop j=l[j]::l.drop (j+1):=List.drop_eq_getElem_cons hjl
   rw [e1]
   simp [za6,List.set_append]
  have hmore : A++m0::M1++l.drop j=A++(m0::M1++[l[j]])++l.drop (j+1):=by
   have e1 : l.drop j=l[j]::l.drop (j+1):=List.drop_eq_getElem_cons hjl
   rw [e1]
   simp
  generalize hrows : za6 (A++m0::M1++l.drop j)=R at *
  have hRl : R.length=n:=by rw [← hrows]; simp; omega
  have hck:=hc l[j] (List.getElem_mem hjl)
  generalize hv : l[j]=v at *
  refine zaK (ι:=List Ed × List Ed) (fun p=>⟨42,[(0,.rs 0 0 n),(1,.fn (.func f) [] capt),(5,.I p.1.length),(6,.I j)],[(0,some ⟨3,za6 (p.1++p.2++l.drop (j+1)),0⟩)],272⟩)
   (fun p=>p.1=(l.take (j+1)).filter (fun e=>!q e)∧p.2≠[]∧p.1.length+p.2.length=j+1) ?_ ?_
  ·refine zaf ?_
   refine zaa ⟨42,[(0,.rs 0 0 n),(1,.fn (.func f) [] capt),(5,.I A.length),(6,.I j),(7,.pt 160 0 0)],[(0,some ⟨3,R,0⟩),(160,some ⟨3,[[.I v.f,.I v.t,.I v.v]],0⟩)],176⟩ rfl ?_ ?_
   ·simp [h,hget]
    exact Le.keep rfl (Nat.le_refl _) (by simp) (by simp)
   refine zaa ⟨42,[(0,.rs 0 0 n),(1,.fn (.func f) [] capt),(5,.I A.length),(6,.I j),(7,.pt 160 0 0),(29,.B (!q v))],[(0,some ⟨3,R,0⟩),(160,some ⟨3,[[.I v.f,.I v.t,.I v.v]],0⟩)],208⟩ rfl ?_ ?_
   ·simp
    refine zaj hck ?_ ?_
    ·simp [hs2,hs3,hs4]
    simp
    exact Le.keep rfl (Nat.le_refl _) (by simp) (by simp)
   refine zac _ rfl (fun h5=>?_) fun h5=>zad ?_
   ·simp only [Bool.not_eq_true'] at h5
    rw [h5] at hnext
    refine zaa ⟨42,[(0,.rs 0 0 n),(1,.fn (.func f) [] capt),(5,.I A.length),(6,.I j)],[(0,some ⟨3,za6 ((A++[v])++(M1++[v])++l.drop (j+1)),0⟩)],248⟩ rfl ?_ ?_
    ·simp [hget2,show A.length<n by omega,zay,hset]
     exact Le.keep rfl (Nat.le_refl _) (by simp) (by simp)
    have hwA : IntKind.i64.wrap ((A.length : Int)+1)=((A.length+1 : Nat) : Int):=by rw [w64 (by omega) (by omega)]; omega
    refine zar rfl ?_
    simp [hwA]
    refine ⟨A++[v],M1++[v],⟨by rw [hnext]; simp,by simp,by simp; omega⟩,Le.keep rfl (Nat.le_refl _) (by simp) (by simp)⟩
   ·simp only [Bool.not_eq_false'] at h5
    rw [h5] at hnext
    refine ⟨(A,m0::M1++[v]),⟨by rw [hnext]; simp,by simp,by simp; omega⟩,Le.keep rfl (nbz rfl) (by simp) ?_⟩
    rw [← hmore,hrows]
    simp
  rintro ⟨A',M'⟩ ⟨p1,p2,p3⟩
  simp only at p1 p2 p3 ⊢
  have hwj : IntKind.i64.wrap ((j : Int)+1)=((j+1 : Nat) : Int):=by rw [w64 (by omega) (by omega)]; omega
  refine zar rfl ?_
  simp [hwj]
  refine ⟨j+1,M',⟨by omega,p2,by rw [← p1]; omega⟩,by omega,?_⟩
  have hD : C (j+1,M')=⟨42,[(0,.rs 0 0 n),(1,.fn (.func f) [] capt),(5,.I A'.length),(6,.I ((j+1 : Nat) : Int))],[(0,some ⟨3,za6 (A'++M'++l.drop (j+1)),0⟩)],96⟩:=by rw [p1]
  rw [hD]
  refine Le.ents [(0,0)] [] rfl (by simp) (by simp) (by simp) (by simp) (by simp) (by simp [hs2,hs3,hs4]) fun p hp=>?_
  simp at hp
  subst hp
  exact ⟨0,_,_,rfl,by simp,rfl,zaH.eq (by simp [fcd]) (by simp)⟩
 simp only [decide_eq_false_iff_not] at h
 obtain rfl : j=n:=by omega
 have hd : l.drop j=[]:=List.drop_eq_nil_of_le (by omega)
 have ht : l.take j=l:=List.take_of_length_le (by omega)
 rw [ht] at hA
 rw [hd,List.append_nil]
 rw [← hA] at hm ⊢
 subst hm
 have hAM : (za6 (A++M)).take A.length=za6 A:=by simp [za6]
 have hAd : (za6 (A++M)).drop (A.length+(j - A.length))=[]:=List.drop_eq_nil_of_le (by simp; omega)
 have hAl : (za6 (A++M)).length=j:=by simp; omega
 generalize za6 (A++M)=R at *
 refine zaa ⟨42,[(0,.rs 0 0 j),(5,.I A.length)],[(0,some ⟨3,za6 A++List.replicate (j - A.length) [.I 0,.I 0,.I 0],0⟩)],160⟩ rfl ?_ ?_
 ·simp
  refine ⟨by omega,by omega,?_⟩
  rw [hAM,hAd]
  exact Le.keep rfl (Nat.le_refl _) (by simp) (by simp)
 refine zab ?_
 refine zae (s:=?s2) rfl ?o2 ?q2
 case o2 =>
  simp
  refine ⟨by omega,?_⟩
  rfl
 refine zag ?_
 refine ⟨.inr rfl,⟨[.rs 0 0 A.length],rfl,[],[],by simp [List.range,List.range.loop],by simp,by simp,?_,?_⟩⟩
 ·simp [List.range,List.range.loop]
 ·simp [List.range,List.range.loop,fcd]
def zao (g : Gr) (v : Int) : Gr:=⟨g.size,g.edges.filter fun e=>!decide (e.v<v),g.gone⟩
theorem zi4 (e : Ed) (v : Int) : zai Tryz.prog zc8 [eE e,.pv [.I v]] [] (.B (decide (e.v<v))) []:=by
 refine zky.acalls (nbz rfl) (nbz rfl) (Nat.le_refl _) ?_
 show awp _ 0 _ _ ⟨8,[(0,eE e),(1,.pv [.I v])],[],16⟩
 refine zaa ⟨8,[(1,.pv [.I v]),(2,.pv (eC e))],[],16⟩ rfl ?_ ?_
 ·simp
  exact Le.snap [16] rfl rfl (by simp)
 refine zab ?_
 refine zae (s:=?s1) rfl ?o1 ?q1
 case o1=>simp; rfl
 refine zag ?_
 exact ⟨.inr rfl,zak.one (by simp)⟩
set_option maxRecDepth 100000 in
theorem zdz (g : Gr) (v : Int) (hl : g.edges.length≤1099511627776) (hl2 : g.gone.length≤1099511627776) : zai Tryz.prog zcQ [eG g,.I v] [] (eG (zao g v)) []:=by
 refine zot.acalls (nbz rfl) (nbz rfl) (Nat.le_refl _) ?_
 show awp _ 0 _ _ ⟨14,[(0,eG g),(1,.I v)],[],16⟩
 obtain ⟨E,hE⟩ : ∃ E,E=g.edges.filter fun e=>!decide (e.v<v):=⟨_,rfl⟩
 have hEl : E.length≤g.edges.length:=by rw [hE]; exact List.length_filter_le _ _
 have hdel:=zmb zc8 [.pv [.I v]] (fun e=>decide (e.v<v)) g.edges g.edges.length E.length rfl (by rw [hE]) hl (fun ρ sn h n=>by simp) (fun e _=>zi4 e v)
 rw [← hE] at hdel
 have hres : zao g v=⟨g.size,E,g.gone⟩:=by rw [hE]; rfl
 rw [hres]
 refine zaa ⟨14,[(2,.pv (gC g)),(3,.pt 24 0 0),(4,.pt 32 0 0)],[(24,some ⟨1,[[.I v]],0⟩),(32,some zG)],40⟩ rfl ?_ ?_
 ·simp
  refine Le.ents [(24,24),(32,32)] [16] rfl (by simp) (by simp) (by simp) (by simp) (by simp) (by simp) fun p hp=>?_
  simp at hp
  rcases hp with rfl | rfl
  ·exact ⟨24,_,_,rfl,by simp,rfl,zaH.eq (by simp) (by simp)⟩
  ·exact ⟨32,_,_,rfl,by simp,rfl,zaH.eq (by simp) (by simp)⟩
 refine zaa ⟨14,[(3,.pt 24 0 0),(4,.pt 32 0 0),(5,.pt 56 0 0)],[(24,some ⟨1,[[.I v]],0⟩),(32,some zG),(56,some ⟨3,[[.I g.size,.rs 48 0 g.edges.length,.rs 49 0 g.gone.length]],0⟩),(48,some ⟨3,za6 g.edges,0⟩),(49,some ⟨1,g.gone.map fun n=>[AV.I n],0⟩)],72⟩ rfl ?_ ?_
 ·simp
  refine zje (zeq g (by omega) (by omega)) rfl ?_
  simp [fcd]
  exact Le.keep rfl (Nat.le_refl _) (by simp) (by simp)
 refine zaa ⟨14,[(4,.pt 32 0 0),(5,.pt 56 0 0)],[(32,some zG),(56,some ⟨3,[[.I g.size,.rs 48 0 E.length,.rs 49 0 g.gone.length]],0⟩),(48,some ⟨3,za6 E++List.replicate (g.edges.length - E.length) [.I 0,.I 0,.I 0],0⟩),(49,some ⟨1,g.gone.map fun n=>[AV.I n],0⟩)],120⟩ rfl ?_ ?_
 ·simp
  refine znx (i:=48) (j:=24) (by decide) (Nat.zero_le _) rfl rfl ?_ hdel (by simp) ?_ ?_
  ·simp [fcd]
  ·simp
  simp [fcd]
  exact Le.keep rfl (Nat.le_refl _) (by simp) (by simp)
 refine zab ?_
 refine zae (s:=?s21) rfl ?o21 ?q21
 case o21=>simp; rfl
 refine zag ?_
 refine ⟨.inr rfl,?_⟩
 show zak [(4,some (true,3))] 0 _ _ _
 refine zak.out (vs:=[.agg [.I g.size,.rs 48 0 E.length,.rs 49 0 g.gone.length]]) [] [48,49] (by simp) (by simp) (by simp) ?_ (by simp)
 simp [fcd,zap]
theorem zps (l : List Ed) (v : Int) (k : Nat) (h : k<l.length) : (l.take (k+1)).filter (fun e=>!decide (e.v<v))=(l.take k).filter (fun e=>!decide (e.v<v))++if v≤l[k].v then [l[k]] else []:=by
 rw [← List.take_concat_get h,List.concat_eq_append,List.filter_append]
 congr 1
 by_cases hq : v≤l[k].v
 ·have : ¬ l[k].v<v:=by omega
  simp [hq,this]
 ·have : l[k].v<v:=by omega
  simp [hq,this]
set_option maxRecDepth 100000 in
theorem zdy (g : Gr) (v : Int) (hl : g.edges.length≤1099511627776) (hl2 : g.gone.length≤1099511627776) : zai Tryz.prog zcR [eG g,.I v] [] (eG (zao g v)) []:=by
 refine zpc.acalls (nbz rfl) (nbz rfl) (Nat.le_refl _) ?_
 show awp _ 0 _ _ ⟨36,[(0,eG g),(1,.I v)],[],16⟩
 refine zaa ⟨36,[(1,.I v),(2,.pv (gC g)),(4,.pt 24 0 0)],[(24,some zG)],32⟩ rfl ?_ ?_
 ·simp
  refine Le.ents [(24,24)] [16] rfl (by simp) (by simp) (by simp) (by simp) (by simp) (by simp) fun p hp=>?_
  simp at hp
  subst hp
  exact ⟨24,_,_,rfl,by simp,rfl,zaH.eq (by simp) (by simp)⟩
 refine zaa ⟨36,[(1,.I v),(2,.pv (gC g)),(4,.pt 24 0 0),(5,.pt 48 0 0)],[(24,some zG),(48,some ⟨3,[[.I g.size,.rs 40 0 g.edges.length,.rs 41 0 g.gone.length]],0⟩),(40,some ⟨3,za6 g.edges,0⟩),(41,some ⟨1,g.gone.map fun n=>[AV.I n],0⟩)],64⟩ rfl ?_ ?_
 ·simp
  refine zje (zcY g (by omega) (by omega)) rfl ?_
  simp [fcd]
  exact Le.keep rfl (Nat.le_refl _) (by simp) (by simp)
 refine zaa ⟨36,[(1,.I v),(2,.pv (gC g)),(4,.pt 24 0 0),(5,.pt 48 0 0)],[(24,some zG),(48,some ⟨3,[[.I g.size,.nilS,ints g.gone]],0⟩)],80⟩ rfl ?_ ?_
 ·simp
  refine Le.ents [(24,24),(48,48)] [41] rfl (by simp) (by simp) (by simp) (by simp) (by simp) (by simp) fun p hp=>?_
  simp at hp
  rcases hp with rfl | rfl
  ·exact ⟨24,_,_,rfl,by simp,rfl,zaH.eq (by simp) (by simp)⟩
  ·exact ⟨48,_,_,rfl,by simp,rfl,zaH.eq (by simp [zay,fcd,zap]) (by simp)⟩
 refine zab ?_
 refine zaa ⟨36,[(1,.I v),(2,.pv (gC g)),(4,.pt 24 0 0),(5,.pt 48 0 0),(6,.I 0)],[(24,some zG),(48,some ⟨3,[[.I g.size,.nilS,ints g.gone]],0⟩)],88⟩ rfl ?_ ?_
 ·simp
  exact Le.keep rfl (Nat.le_refl _) (by simp) (by simp)
 refine zaf ?_
 let F : Nat→List Ed:=fun k=>(g.edges.take k).filter fun e=>!decide (e.v<v)
 let C : Nat→St:=fun k=>⟨36,[(1,.I v),(2,.pv (gC g)),(4,.pt 24 0 0),(5,.pt 48 0 0),(6,.I k)],[(24,some zG),(48,some ⟨3,[[.I g.size,.rs 16 0 (F k).length,ints g.gone]],0⟩),(16,some ⟨3,za6 (F k),0⟩)],88⟩
 refine zan C (fun k=>k≤g.edges.length) (fun k=>g.edges.length - k) 0 (Nat.zero_le _) ?_ ?_
 ·refine Le.lst [(24,24),(48,48)] [] [(16,3)] rfl (by simp) (by simp) (by simp [C]) (by simp [C]) (by simp) (by simp) (by simp) (by simp [C,Up]) fun p hp e' he'=>?_
  simp [C] at hp
  rcases hp with rfl | rfl | rfl
  ·cases he'
   exact .inl ⟨(24,24),by simp,rfl,_,rfl,zaH.eq (by simp) (by simp)⟩
  ·cases he'
   refine .inl ⟨(48,48),by simp,rfl,_,rfl,zaH.row (by simp; rfl) (by simp) ?_⟩
   exact ⟨.inl (.refl _),.inr ⟨rfl,16,3,by simp [F],by simp⟩,.inl (.refl _),trivial⟩
  ·cases he'
   exact .inr ⟨by simp,by simp [F],rfl⟩
 intro k hk
 have hFl : (F k).length≤k:=by
  have h1 : (F k).length≤(g.edges.take k).length:=List.length_filter_le _ _
  simp at h1
  omega
 have hC : C k=⟨36,[(1,.I v),(2,.pv (gC g)),(4,.pt 24 0 0),(5,.pt 48 0 0),(6,.I k)],[(24,some zG),(48,some ⟨3,[[.I g.size,.rs 16 0 (F k).length,ints g.gone]],0⟩),(16,some ⟨3,za6 (F k),0⟩)],88⟩:=rfl
 rw [hC]
 refine zab ?_
 refine zaa ⟨36,[(1,.I v),(2,.pv (gC g)),(4,.pt 24 0 0),(5,.pt 48 0 0),(6,.I k),(14,.B (decide (k<g.edges.length)))],[(24,some zG),(48,some ⟨3,[[.I g.size,.rs 16 0 (F k).length,ints g.gone]],0⟩),(16,some ⟨3,za6 (F k),0⟩)],128⟩ rfl ?_ ?_
 ·simp
  exact Le.keep rfl (Nat.le_refl _) (by simp) (by simp)
 refine zac _ rfl (fun h=>zad ?_) fun h=>zal (hit ?_)
 ·simp only [decide_eq_true_eq] at h
  have hnext:=zps g.edges v k h
  have hFs : F (k+1)=F k++if v≤g.edges[k].v then [g.edges[k]] else []:=hnext
  refine zaK (ι:=Unit) (fun _=>⟨36,[(1,.I v),(2,.pv (gC g)),(4,.pt 24 0 0),(5,.pt 48 0 0),(6,.I k)],[(24,some zG),(48,some ⟨3,[[.I g.size,.rs 16 0 (F (k+1)).length,ints g.gone]],0⟩),(16,some ⟨3,za6 (F (k+1)),0⟩)],280⟩) (fun _=>True) ?_ fun _ _=>?_
  ·rw [hFs]
   generalize F k=A at *
   refine zaf ?_
   refine zaa ⟨36,[(1,.I v),(2,.pv (gC g)),(4,.pt 24 0 0),(5,.pt 48 0 0),(6,.I k),(24,.B (decide (v≤g.edges[k].v)))],[(24,some zG),(48,some ⟨3,[[.I g.size,.rs 16 0 A.length,ints g.gone]],0⟩),(16,some ⟨3,za6 A,0⟩)],192⟩ rfl ?_ ?_
   ·simp [h]
    exact Le.keep rfl (Nat.le_refl _) (by simp) (by simp)
   refine zac _ rfl (fun h5=>?_) fun h5=>zad ?_
   ·simp only [decide_eq_true_eq] at h5
    rw [if_pos h5]
    refine zbG rfl ?_
    have hrl : (za6 A).length=A.length:=by simp
    simp [h,zay,List.replicate]
    refine ⟨by omega,by omega,rfl,?_⟩
    refine Le.ents [(24,24),(48,48),(256,16)] [] rfl (by simp) (by simp) (by simp) (by simp) (by simp) (by simp) fun p hp=>?_
    simp at hp
    rcases hp with rfl | rfl | rfl
    ·exact ⟨24,_,_,rfl,by simp,rfl,zaH.eq (by simp) (by simp)⟩
    ·exact ⟨48,_,_,rfl,by simp,rfl,zaH.eq (by simp) (by simp)⟩
    ·exact ⟨256,_,_,rfl,by simp,rfl,zaH.eq (by simp [fcd,zap]) (by simp)⟩
   ·simp only [decide_eq_false_iff_not] at h5
    rw [if_neg h5,List.append_nil]
    exact ⟨(),trivial,Le.keep rfl (nbz rfl) (by simp) (by simp)⟩
  have hwj : IntKind.i64.wrap ((k : Int)+1)=((k+1 : Nat) : Int):=by rw [w64 (by omega) (by omega)]; omega
  refine zar rfl ?_
  simp [hwj]
  refine ⟨k+1,by omega,by omega,?_⟩
  refine Le.ents [(24,24),(48,48),(16,16)] [] rfl (by simp) (by simp) (by simp [C]) (by simp) (by simp [C]) (by simp [C]) fun p hp=>?_
  simp [C] at hp
  rcases hp with rfl | rfl | rfl
  ·exact ⟨24,_,_,rfl,by simp,rfl,zaH.eq (by simp) (by simp)⟩
  ·exact ⟨48,_,_,rfl,by simp,rfl,zaH.eq (by simp) (by simp)⟩
  ·exact ⟨16,_,_,rfl,by simp,rfl,zaH.eq (by simp [fcd]) (by simp)⟩
 simp only [decide_eq_false_iff_not] at h
 obtain rfl : k=g.edges.length:=by omega
 have hF : F g.edges.length=(zao g v).edges:=by
  show (g.edges.take g.edges.length).filter _=_
  rw [List.take_of_length_le (Nat.le_refl _)]
  rfl
 rw [hF]
 have hres : zao g v=⟨g.size,(zao g v).edges,g.gone⟩:=rfl
 rw [hres]
 generalize (zao g v).edges=E at *
 refine zab ?_
 refine zae (s:=?s21) rfl ?o21 ?q21
 case o21=>simp; rfl
 refine zag ?_
 refine ⟨.inr rfl,?_⟩
 show zak [(4,some (true,3))] 0 _ _ _
 refine zak.out (vs:=[.agg [.I g.size,.rs 16 0 E.length,ints g.gone]]) [] [16] (by simp) (by simp) (by simp) ?_ (by simp)
 simp [fcd,zap]
def zrt (g : Gr) (lv f t : Int) : Prop:=∃ e∈g.edges,e.f=f∧e.t=t∧lv≤e.v
theorem zcl : ∀ {a b : List Int},a.Nodup→(∀ x∈a,x∈b)→b.length≤a.length→a.Perm b
 | [],b,_,_,hl=>by
   have : b=[]:=List.length_eq_zero_iff.1 (by simpa using hl)
   rw [this]
 | x::a,b,hn,hs,hl=>by
   have hx : x∈b:=hs x (List.mem_cons_self ..)
   rw [List.nodup_cons] at hn
   have hb:=List.perm_cons_erase hx
   have hlb : (b.erase x).length+1=b.length:=by have:=hb.length_eq; simp at this; omega
   refine (List.Perm.cons x (zcl hn.2 (fun y hy=>?_) ?_)).trans hb.symm
   ·have hy2:=hs y (List.mem_cons_of_mem _ hy)
    have hne : y≠x:=fun e=>hn.1 (e ▸ hy)
    exact (List.mem_erase_of_ne hne).2 hy2
   ·rw [List.length_cons] at hl
    omega
def srt (l : List Int) : List Int:=l.mergeSort fun x y=>decide (x≤y)
theorem zgD (l : List Int) : (srt l).Perm l:=List.mergeSort_perm ..
theorem ztk (l : List Int) : (srt l).Pairwise (· ≤ ·):=by
 have h:=List.pairwise_mergeSort (le:=fun x y : Int=>decide (x≤y)) (fun a b c h1 h2=>by simp at *; omega) (fun a b=>by simp; omega) l
 exact h.imp fun {a b} h=>by simpa using h
theorem zgF {a b : List Int} : srt a=srt b↔a.Perm b:=by
 constructor
 ·intro h
  exact (zgD a).symm.trans (h ▸ zgD b)
 ·intro h
  exact List.Perm.eq_of_pairwise (le:=(· ≤ ·)) (fun x y _ _ h1 h2=>by omega) (ztk a) (ztk b) (((zgD a).trans h).trans (zgD b).symm)
def zuX (g : Gr) (lv : Int) (seeds order w : List Int) : Prop :=
 (∃ k,w.head? = some k∧k∈seeds)∧(∀ k∈w,k∈order)∧w.Nodup ∧ ∀ i (h : i+1<w.length),zrt g lv w[i] w[i+1]
def begC (P : List (List Int)) (k : Int) : Nat:=P.countP fun w=>decide (w.head? = some k)
def useC (P : List (List Int)) (k : Int) : Nat:=(P.flatMap List.dropLast).count k
def znL (c : List Int) (P : List (List Int)) : Prop:=∀ k (h : k<c.length),(begC P k : Int)≤c[k]∧(useC P k : Int)≤max 0 (c[k] - 1)
def ziM (P : List (List Int)) : List Int:=P.filterMap List.getLast?
def ziF (g : Gr) (lv : Int) (seeds order c : List Int) (P : List (List Int)) (ends : List Int) : Prop :=
 (∀ w∈P,zuX g lv seeds order w)∧znL c P∧srt (ziM P)=srt ends
def zkD (g : Gr) (lv : Int) (seeds order c : List Int) (P : List (List Int)) (ends : List Int) : Prop :=
 P.length=ends.length∧ends.Nodup∧(∀ w∈P,zuX g lv seeds order w)∧(∀ k∈ziM P,k∈ends)∧(ziM P).Nodup∧znL c P
theorem zuX.ne {g : Gr} {lv : Int} {seeds order w : List Int} (h : zuX g lv seeds order w) : w≠[]:=by
 rintro rfl
 obtain ⟨k,hk,_⟩:=h.1
 cases hk
theorem zow {P : List (List Int)} (h : ∀ w∈P,w≠[]) : (ziM P).length=P.length:=by
 unfold ziM
 induction P with
 | nil=>rfl
 | cons w P ih =>
   have hw:=h w (List.mem_cons_self ..)
   rw [List.filterMap_cons,List.getLast?_eq_some_getLast hw]
   simp only [List.length_cons]
   rw [ih fun x hx=>h x (List.mem_cons_of_mem _ hx)]
theorem zmH {g : Gr} {lv : Int} {seeds order c : List Int} {P : List (List Int)} {ends : List Int} (hn : ends.Nodup) : ziF g lv seeds order c P ends↔zkD g lv seeds order c P ends:=by
 constructor
 ·rintro ⟨h1,h2,h3⟩
  have hp:=zgF.1 h3
  have hl:=zow fun w hw=>(h1 w hw).ne
  exact ⟨by rw [← hl,hp.length_eq],hn,h1,fun k hk=>hp.mem_iff.1 hk,hp.nodup_iff.2 hn,h2⟩
 ·rintro ⟨h0,_,h1,h2,h3,h4⟩
  have hl:=zow fun w hw=>(h1 w hw).ne
  exact ⟨h1,h4,zgF.2 (zcl h3 h2 (by omega))⟩
def zhT (order : List Int) (key : Int) : List Int:=order.takeWhile fun x=>decide (x≠key)
theorem zqB (x : Int) (o : List Int) (key : Int) : zhT (x::o) key=if x=key then [] else x::zhT o key:=by
 unfold zhT
 rw [List.takeWhile_cons]
 by_cases h : x=key <;> simp [h]
def zgs (order l : List Int) (key : Int) : Prop:=l.Sublist (zhT order key)
theorem zlR (order : List Int) (key : Int) : key∉zhT order key:=by
 induction order with
 | nil=>simp [zhT]
 | cons x o ih =>
   rw [zqB]
   split
   ·simp
   ·rename_i h
    simp only [List.mem_cons,not_or]
    exact ⟨fun e=>h e.symm,ih⟩
theorem zgs.nodup {order l : List Int} {key : Int} (h : zgs order l key) (hn : order.Nodup) : (l++[key]).Nodup:=by
 rw [List.nodup_append]
 refine ⟨(hn.sublist (List.takeWhile_sublist _)).sublist h,by simp,fun x hx y hy=>?_⟩
 rw [List.mem_singleton] at hy
 subst hy
 rintro rfl
 exact zlR order x (h.subset hx)
structure zit (A : List Ed) (E : Int→Int→Prop) (seeds sinks : List Int) (c : Int→Int) : Prop where
 kind : ∀ i,i<A.length→(∃ x,x∈seeds∧0≤x∧arcD A i=⟨0,2+2*x,c x⟩)∨(∃ x,0≤x∧arcD A i=⟨2+2*x,3+2*x,c x - 1⟩)∨(∃ x,x∈sinks∧0≤x∧arcD A i=⟨2+2*x,1,1⟩)∨(∃ x y,0≤x∧0≤y∧E x y∧arcD A i=⟨3+2*x,2+2*y,64⟩)
 uniq : ∀ i j,i<A.length→j<A.length→(arcD A i).f=(arcD A j).f→(arcD A i).t=(arcD A j).t→i=j
inductive zg8 (A : List Ed) (E : Int→Int→Prop) (sinks : List Int) (c : Int→Int) : Int→List Nat→List Int→Prop
 | last (k : Int) (i : Nat) : i<A.length→arcD A i=⟨2+2*k,1,1⟩→k∈sinks→zg8 A E sinks c k [i] []
 | more (k y : Int) (i j : Nat) (l : List Nat) (ks : List Int) : i<A.length→arcD A i=⟨2+2*k,3+2*k,c k - 1⟩→arcD A j=⟨3+2*k,2+2*y,64⟩→E k y→0≤y→zg8 A E sinks c y l ks→zg8 A E sinks c k (i::j::l) (y::ks)
variable {A : List Ed} {E : Int→Int→Prop} {seeds sinks : List Int} {c : Int→Int}
theorem zit.sinkless (h : zit A E seeds sinks c) {i : Nat} (hi : i<A.length) : (arcD A i).f≠1:=by
 rcases h.kind i hi with ⟨x,_,hx,e⟩ | ⟨x,hx,e⟩ | ⟨x,_,hx,e⟩ | ⟨x,y,hx,hy,_,e⟩ <;> rw [e] <;> simp only <;> omega
theorem zit.path (h : zit A E seeds sinks c) : ∀ (n : Nat) (l : List Nat) (k : Int),l.length≤n→0≤k→WayA A (2+2*k) l 1 → ∃ ks,zg8 A E sinks c k l ks
 | _,[],k,_,hk,hw=>by
   have : 2+2*k=1:=hw
   omega
 | n,[i],k,_,hk,hw=>by
   obtain ⟨h1,h2,h3⟩:=hw
   have h3' : (arcD A i).t=1:=h3
   rcases h.kind i h1 with ⟨x,_,hx,e⟩ | ⟨x,hx,e⟩ | ⟨x,hs,hx,e⟩ | ⟨x,y,hx,hy,_,e⟩ <;> rw [e] at h2 h3' <;> simp only at h2 h3'
   ·omega
   ·omega
   ·have : x=k:=by omega
    subst this
    exact ⟨[],.last _ i h1 e hs⟩
   ·omega
 | 0,_::_::_,_,hn,_,_=>by simp at hn
 | n+1,i::j::l,k,hn,hk,hw=>by
   obtain ⟨h1,h2,h4,h5,h6⟩:=hw
   rcases h.kind i h1 with ⟨x,_,hx,e⟩ | ⟨x,hx,e⟩ | ⟨x,hs,hx,e⟩ | ⟨x,y,hx,hy,_,e⟩
   ·rw [e] at h2; simp only at h2; omega
   ·rw [e] at h2 h5
    simp only at h2 h5
    have : x=k:=by omega
    subst this
    rcases h.kind j h4 with ⟨z,_,hz,e'⟩ | ⟨z,hz,e'⟩ | ⟨z,hs,hz,e'⟩ | ⟨z,y,hz,hy,hE,e'⟩
    ·rw [e'] at h5; simp only at h5; omega
    ·rw [e'] at h5; simp only at h5; omega
    ·rw [e'] at h5; simp only at h5; omega
    ·rw [e'] at h5 h6
     simp only at h5 h6
     have : z=x:=by omega
     subst this
     obtain ⟨ks,hp⟩:=h.path n l y (by simp at hn; omega) hy h6
     exact ⟨y::ks,.more _ y i j l ks h1 e e' hE hy hp⟩
   ·rw [e] at h5
    simp only at h5
    exact absurd h5 (h.sinkless h4)
   ·rw [e] at h2; simp only at h2; omega
def keyT (t : Int) : Option Int:=if 2≤t∧t % 2=0 then some ((t - 2) / 2) else none
def zcV (A : List Ed) (l : List Nat) : List Int:=(metA A l).filterMap keyT
theorem zmC {k : Int} (h : 0≤k) : keyT (2+2*k)=some k:=by
 unfold keyT
 rw [if_pos ⟨by omega,by omega⟩]
 congr 1
 omega
theorem zua (k : Int) : keyT (3+2*k)=none:=if_neg (by omega)
theorem ztw : keyT 1=none:=if_neg (by omega)
theorem zg8.keys {k : Int} {l : List Nat} {ks : List Int} (h : zg8 A E sinks c k l ks) : zcV A l=ks:=by
 induction h with
 | last k i h1 h2 h3 =>
   unfold zcV metA
   rw [List.map_cons,List.map_nil,List.filterMap_cons,h2]
   simp only
   rw [ztw]
   rfl
 | more k y i j l ks h1 h2 h3 h4 h5 h6 ih =>
   unfold zcV metA at ih ⊢
   rw [List.map_cons,List.map_cons,List.filterMap_cons,h2]
   simp only
   rw [zua,List.filterMap_cons,h3]
   simp only
   rw [zmC h5,ih]
theorem zg8.edges {k : Int} {l : List Nat} {ks : List Int} (h : zg8 A E sinks c k l ks) : ∀ i (hi : i+1<(k::ks).length),E (k::ks)[i] (k::ks)[i+1]:=by
 induction h with
 | last k i h1 h2 h3=>intro i hi; simp at hi
 | more k y i j l ks h1 h2 h3 h4 h5 h6 ih =>
   intro n hn
   cases n with
   | zero=>exact h4
   | succ n=>exact ih n (by simpa using hn)
theorem zg8.ends {k : Int} {l : List Nat} {ks : List Int} (h : zg8 A E sinks c k l ks) : ∃ z,(k::ks).getLast? = some z∧z∈sinks ∧ ∃ i∈l,i<A.length∧arcD A i=⟨2+2*z,1,1⟩:=by
 induction h with
 | last k i h1 h2 h3=>exact ⟨k,rfl,h3,i,List.mem_singleton.2 rfl,h1,h2⟩
 | more k y i j l ks h1 h2 h3 h4 h5 h6 ih =>
   obtain ⟨z,hz,hs,m,hm,hm2,hm3⟩:=ih
   exact ⟨z,by rw [List.getLast?_cons_cons]; exact hz,hs,m,List.mem_cons_of_mem _ (List.mem_cons_of_mem _ hm),hm2,hm3⟩
theorem zg8.uses (hu : ∀ i j,i<A.length→j<A.length→(arcD A i).f=(arcD A j).f→(arcD A i).t=(arcD A j).t→i=j) {k : Int} {l : List Nat} {ks : List Int} (h : zg8 A E sinks c k l ks) {m : Int} {n : Nat} (hn : n<A.length) (hm : arcD A n=⟨2+2*m,3+2*m,c m - 1⟩) : (k::ks).dropLast.count m≤l.count n:=by
 induction h with
 | last k i h1 h2 h3=>simp
 | more k y i j l ks h1 h2 h3 h4 h5 h6 ih =>
   rw [List.dropLast_cons_of_ne_nil (by simp),List.count_cons]
   have h7 : l.count n≤(j::l).count n:=by rw [List.count_cons]; omega
   rw [List.count_cons]
   by_cases hk : k=m
   ·subst hk
    have : i=n:=hu i n h1 hn (by rw [h2,hm]) (by rw [h2,hm])
    subst this
    simp only [beq_self_eq_true,if_true]
    omega
   ·have hk' : (k == m)=false:=by simpa using hk
    rw [hk']
    simp only [Bool.false_eq_true,if_false]
    omega
theorem zg8.mids {k : Int} {l : List Nat} {ks : List Int} (h : zg8 A E sinks c k l ks) {m : Int} (hm : m∈(k::ks).dropLast) : ∃ n,n<A.length∧arcD A n=⟨2+2*m,3+2*m,c m - 1⟩:=by
 induction h with
 | last k i h1 h2 h3=>simp at hm
 | more k y i j l ks h1 h2 h3 h4 h5 h6 ih =>
   rw [List.dropLast_cons_of_ne_nil (by simp)] at hm
   rcases List.mem_cons.1 hm with rfl | hm
   ·exact ⟨i,h1,h2⟩
   ·exact ih hm
theorem zit.whole (h : zit A E seeds sinks c) {l : List Nat} (hw : WayA A 0 l 1) : ∃ x i l' ks,l=i::l'∧i<A.length∧x∈seeds∧0≤x∧arcD A i=⟨0,2+2*x,c x⟩∧zg8 A E sinks c x l' ks∧zcV A l=x::ks:=by
 cases l with
 | nil=>have : (0 : Int)=1:=hw; omega
 | cons i l =>
   obtain ⟨h1,h2,h3⟩:=hw
   rcases h.kind i h1 with ⟨x,hs,hx,e⟩ | ⟨x,hx,e⟩ | ⟨x,hs,hx,e⟩ | ⟨x,y,hx,hy,_,e⟩
   ·rw [e] at h3
    obtain ⟨ks,hp⟩:=h.path l.length l x (Nat.le_refl _) hx h3
    refine ⟨x,i,l,ks,rfl,h1,hs,hx,e,hp,?_⟩
    have hk:=hp.keys
    unfold zcV metA at hk ⊢
    rw [List.map_cons,List.filterMap_cons,e]
    simp only
    rw [zmC hx,hk]
   ·rw [e] at h2; simp only at h2; omega
   ·rw [e] at h2; simp only at h2; omega
   ·rw [e] at h2; simp only at h2; omega
theorem zqD {l : List Nat} (h : (metA A l).Nodup) : (zcV A l).Nodup:=by
 unfold zcV
 refine List.Pairwise.filterMap _ (fun a a' hne b hb b' hb'=>?_) h
 unfold keyT at hb hb'
 split at hb <;> split at hb' <;> simp at hb hb' <;> omega
end Go.Proofs.YthmaflecfppoiaaGreat
