/- Texts of this claim,merged. -/
import Derived.Test.YtkngdgplbojdlaaGreatRx6
import Derived.Test.YtkngdgplbojdlaaGreatRx5
import Derived.Test.YtkngdgplbojdlaaGreatProg
import Derived.KernelRfl
import Derived.Test.YtkngdgplbojdlaaGreatRows
import Derived.Shelf.Sort.Plain
import Derived.Shelf.Slices.In.SortNone
set_option linter.unusedSimpArgs false
set_option linter.unusedVariables false
set_option linter.unusedSectionVars false
namespace Go.Proofs.YtkngdgplbojdlaaGreat
open Go
theorem mixed : Tryz.prog.follows .mixedOrders=true:=by kernel_rfl
theorem mkS {f : FuncId} {af : AFun} (fn : Func) (hf : Tryz.prog.funcs[f]? = some fn:=by kernel_rfl) (hc : zu4 Tryz.prog fn=some af:=by kernel_rfl) (hn : fn.name ≠ "runtime.NumGoroutine":=by decide) : Src Tryz.prog f af:=⟨mixed,fn,hf,hc,hn⟩
theorem zsc : Src Tryz.prog zjk zrV:=mkS Tryz.f8
theorem zt4 : Src Tryz.prog zkT zti:=mkS Tryz.f10
theorem zlq : Src Tryz.prog zdQ zlC:=mkS Tryz.f11
theorem zne : Src Tryz.prog zaz zmZ:=mkS Tryz.f13
theorem zoW : Src Tryz.prog zer zpK:=mkS Tryz.f16
theorem zvU : Src Tryz.prog zio zu9:=mkS Tryz.f17
theorem zsf : Src Tryz.prog zjy zrH:=mkS Tryz.f23
theorem zmU : Src Tryz.prog zdl zmF:=mkS Tryz.f24
theorem ztC : Src Tryz.prog zbs znR:=mkS Tryz.f26
theorem zqL : Src Tryz.prog ze9 zq1:=mkS Tryz.f29
theorem zqp : Src Tryz.prog zih zqQ:=mkS Tryz.f30
theorem ztk : Src Tryz.prog zg4 zt7:=mkS Tryz.f31
theorem znq : Src Tryz.prog zdG znC:=mkS Tryz.f33
theorem zsq : Src Tryz.prog zhA zr9:=mkS Tryz.f34
theorem zuc : Src Tryz.prog zgV ztW:=mkS Tryz.f35
theorem zid : Src Tryz.prog zaF zhP:=mkS Tryz.f37
theorem zgn : Src Tryz.prog zbV zh1:=mkS Tryz.f38
theorem zhs : Src Tryz.prog zcU zhz:=mkS Tryz.f39
theorem zgi : Src Tryz.prog zbt zhX:=mkS Tryz.f41
theorem zgb : Src Tryz.prog zcg zga:=mkS Tryz.f44
theorem zbO : Src Tryz.prog zam zbQ:=mkS Tryz.f51
theorem zl8 : Src Tryz.prog zeT zmo:=mkS Tryz.f57
theorem zfl : Src Tryz.prog zby zfv:=mkS Tryz.f58
theorem zsp : Src Tryz.prog zfT zr4:=mkS Tryz.f59
theorem zp1 : Src Tryz.prog zgt zqn:=mkS Tryz.f68
theorem zqs : Src Tryz.prog zia zqm:=mkS Tryz.f69
theorem zhy : Src Tryz.prog zez zhr:=mkS Tryz.f75
theorem zbg : Src Tryz.prog zaI zbh:=mkS Tryz.f76
theorem zfM : Src Tryz.prog zcf zfY:=mkS Tryz.f77
theorem zc0 : Src Tryz.prog zbx zc1:=mkS Tryz.f78
theorem zft : Src Tryz.prog zcw zfs:=mkS Tryz.f79
theorem zfU : Src Tryz.prog zdi zf5:=mkS Tryz.f80
theorem ziN : Src Tryz.prog zeP ziQ:=mkS Tryz.f81
theorem zch : Src Tryz.prog zbd zcn:=mkS Tryz.f82
theorem zfr : Src Tryz.prog zcx zfu:=mkS Tryz.f83
theorem zeF : Src Tryz.prog zbv zeA:=mkS Tryz.f88
theorem zbM : Src Tryz.prog za4 zbI:=mkS Tryz.f89
theorem zey : Src Tryz.prog zbY zex:=mkS Tryz.f90
theorem zb3 : Src Tryz.prog zaW zb5:=mkS Tryz.f94
theorem zlf : Src Tryz.prog zgr zlj:=mkS Tryz.f107
theorem zjJ : Src Tryz.prog zcc zku:=mkS Tryz.f108
theorem zcq : Src Tryz.prog za0 zco:=mkS Tryz.f109
theorem zgJ : Src Tryz.prog zcF ze5:=mkS Tryz.f113
theorem ze4 : Src Tryz.prog zcd ze6:=mkS Tryz.f114
theorem ztl : Src Tryz.prog zeK ztI:=mkS Tryz.f119
theorem zo5 : Src Tryz.prog zds zpu:=mkS Tryz.f120
theorem zba : Src Tryz.prog zaL zbD:=mkS Tryz.f126
theorem zbH : Src Tryz.prog za1 zcp:=mkS Tryz.f127
theorem zbi : Src Tryz.prog zaD zbl:=mkS Tryz.f128
theorem zgL : Src Tryz.prog zdO zgK:=mkS Tryz.f129
theorem zbS : Src Tryz.prog zaX zcC:=mkS Tryz.f130
theorem zbf : Src Tryz.prog zaH zbe:=mkS Tryz.f131
theorem zcI : Src Tryz.prog zbk zcG:=mkS Tryz.f134
theorem zmq : Src Tryz.prog zfN znb:=mkS Tryz.f144
theorem zi6 : Src Tryz.prog zdL zjb:=mkS Tryz.f145
theorem zdU : Src Tryz.prog zb4 zc5:=mkS Tryz.f155
theorem zhL : Src Tryz.prog zdX zfm:=mkS Tryz.f165
theorem zdR : Src Tryz.prog zb6 zdV:=mkS Tryz.f166
theorem zct : Src Tryz.prog zaU zbE:=mkS Tryz.f167
theorem zbA : Src Tryz.prog zaK zbC:=mkS Tryz.f169
theorem zdm : Src Tryz.prog zaS zck:=mkS Tryz.f170
theorem zg6 : Src Tryz.prog zcO zed:=mkS Tryz.f172
theorem zvg : Src Tryz.prog zmc zp4:=mkS Tryz.f174
theorem zbB : Src Tryz.prog zaZ zbb:=mkS Tryz.f188
theorem zdN : Src Tryz.prog zbP zcJ:=mkS Tryz.f198
theorem zdf : Src Tryz.prog zaY zcb:=mkS Tryz.f208
abbrev ints (l : List Int) : AV:=.vs 1 false (l.map λ n=>[AV.I n])
theorem znd (l : List Int) (n : Int) (hl : l.length<=140737488355328) : zaj Tryz.prog zbs [ints l,.I n] [] (.B (l.contains n)) []:=by
 refine ztC.acalls (by simp [znR]) (by simp) (by simp) ?_
 show awp _ 0 _ _ ⟨18,[(0,ints l),(1,.I n)],[],16⟩;refine zab (zar (s:=?s1) rfl ?o1 ?q1)
 case o1=>simp; rfl
 refine zab (zab (zar (s:=?s2) rfl ?o2 ?q2))
 case o2=>simp; rfl
 refine zaf ?_;refine zas (ι:=Nat) (λ k=>{ sz:=18,t:=[(0,ints l),(1,.I n),(5,.I k)],h:=[],n:=16 }) (λ k=>k<=l.length/\n∉l.take k) (λ k=>l.length - k) 0 (by simp) ?_ ?_
 .refine Le.slots rfl rfl ?_
  simp [ints]
 .rintro k ⟨hk,hn⟩
  refine zab (zab (zar (s:=?s3) rfl ?o3 ?q3))
  case o3=>simp; rfl
  refine zad _ rfl ?_ ?_
  .intro hlt
   simp only [decide_eq_true_eq,Int.ofNat_lt] at hlt;show awp _ _ _ _ _;refine zab (zaf (zab (zar (s:=?s4) rfl ?o4 ?q4)))
   case o4=>simp [hlt]; rfl
   refine zad _ rfl ?_ ?_
   .intro heq
    refine zab (zar (s:=?s5) rfl ?o5 ?q5)
    case o5=>simp; rfl
    refine ⟨.inr rfl,zao.one ?_⟩;have : n∈l:=by simp at heq; simp [<- heq]
    simp [this]
   .intro hne
    refine zae (zar (s:=?s6) rfl ?o6 ?q6)
    case o6=>simp; rfl
    refine ⟨k+1,⟨by omega,?_⟩,by omega,Le.slots rfl rfl ?_⟩
    .intro hm
     simp at hne;rw [List.take_succ_eq_append_getElem hlt] at hm;rcases List.mem_append.1 hm with h | h
     .exact hn h
     .exact hne (List.mem_singleton.1 h).symm
    .have hw : IntKind.i64.wrap ((k : Int)+1)=((k+1 : Nat) : Int):=w6
     simp [Wk.refl,hw]
  .intro hge
   refine zaq (hit ?_);refine zab (zar (s:=?s7) rfl ?o7 ?q7)
   case o7=>simp; rfl
   refine zai ⟨.inr rfl,zao.one ?_⟩;simp at hge
   have : n∉l:=by
    have : l.take k=l:=List.take_of_length_le hge;rw [this] at hn;exact hn
   simp [this]
theorem zsR (x : Int) : zaj Tryz.prog zcd [.I x] [] (.B false) []:=by
 refine ze4.ac ?_;show awp _ 0 _ _ ⟨6,[(0,.I x)],[],16⟩;refine zab (zar (s:=?s1) rfl ?o1 ?q1)
 case o1=>simp; rfl
 refine zab (zar (s:=?s2) rfl ?o2 ?q2)
 case o2=>simp; rfl
 exact zai ⟨.inr rfl,zao.one (by simp)⟩
theorem zcl (n lo hi : Int) : zaj Tryz.prog zaF [.I n,.I lo,.I hi] [] (.B (decide (lo<=n) && decide (n<=hi))) []:=by
 refine zid.ac ?_;show awp _ 0 _ _ ⟨15,[(0,.I n),(1,.I lo),(2,.I hi)],[],16⟩;refine zab (zar (s:=?s1) rfl ?o1 ?q1)
 case o1=>simp; rfl
 by_cases h : lo<=n
 .refine zab (zar (s:=?s2) rfl ?o2 ?q2)
  case o2=>simp [h]; rfl
  exact zai ⟨.inr rfl,zao.one (by simp [h])⟩
 .refine zab (zar (s:=?s3) rfl ?o3 ?q3)
  case o3=>simp [h]; rfl
  exact zai ⟨.inr rfl,zao.one (by simp [h])⟩
def cmpI (x y : Int) : Int:=if x<y then -1 else if x > y then 1 else 0
theorem zk7 (x y : Int) : zaj Tryz.prog zby [.I x,.I y] [] (.I (cmpI x y)) []:=by
 refine zfl.ac ?_;show awp _ 0 _ _ ⟨20,[(0,.I x),(1,.I y)],[],16⟩;refine zab (zar (s:=?s1) rfl ?o1 ?q1)
 case o1=>simp; rfl
 refine zab (zar (s:=?s2) rfl ?o2 ?q2)
 case o2=>simp; refine zap (zsR _) rfl ?_; simp; rfl
 refine zab (zar (s:=?s3) rfl ?o3 ?q3)
 case o3=>simp; refine zap (zsR _) rfl ?_; simp; rfl
 refine zab (zab (zar (s:=?s4) rfl ?o4 ?q4))
 case o4=>simp; rfl
 refine zad _ rfl (λ h=>by cases h) λ _=>zae ?_
 refine zab (zab (zar (s:=?s5) rfl ?o5 ?q5))
 case o5=>simp; rfl
 refine zad _ rfl (λ h=>by cases h) λ _=>zae ?_
 refine zab (zab (zar (s:=?s6) rfl ?o6 ?q6))
 case o6=>simp; rfl
 refine zad _ rfl (λ h=>?_) λ h1=>zae ?_
 .refine zab (zar (s:=?s7) rfl ?o7 ?q7)
  case o7=>simp; rfl
  exact zai ⟨.inr rfl,zao.one (by simp at h; simp [cmpI,h])⟩
 refine zab (zab (zar (s:=?s8) rfl ?o8 ?q8))
 case o8=>simp; rfl
 refine zad _ rfl (λ h=>?_) λ h2=>zae ?_
 .refine zab (zar (s:=?s9) rfl ?o9 ?q9)
  case o9=>simp; rfl
  exact zai ⟨.inr rfl,zao.one (by simp at h h1; simp [cmpI,h,Int.not_lt.2 h1])⟩
 refine zab (zar (s:=?s10) rfl ?o10 ?q10)
 case o10=>simp; rfl
 exact zai ⟨.inr rfl,zao.one (by simp at h1 h2; simp [cmpI,Int.not_lt.2 h1,Int.not_lt.2 h2])⟩
theorem zA1 (l : List Int) (hl : l.length<=140737488355328) : zaj Tryz.prog zeT [ints l] [] (.I ((l.find? (· != 0)).getD 0)) []:=by
 refine zl8.ac ?_;show awp _ 0 _ _ ⟨18,[(0,ints l)],[],16⟩;refine zab ?_;refine zan ?_;refine zab ?_;refine zan ?_;refine zab ?_;refine zab ?_;refine zan ?_;refine zaf ?_;refine zas (ι:=Nat) (λ k=>⟨18,[(3,.I 0),(6,ints l),(7,.I l.length),(8,.I k)],[],16⟩) (λ k=>k<=l.length/\l.find? (· != 0)=(l.drop k).find? (· != 0)) (λ k=>l.length - k) 0 ?_ (Le.slots rfl rfl ?_) ?_
 .simp
 .simp
 rintro k ⟨hk,hf⟩
 refine zab ?_;refine zan ?_;refine zab ?_;refine zad _ rfl (λ h5=>?_) λ h5=>?_
 .simp at h5
  rw [List.drop_eq_getElem_cons h5,List.find?_cons] at hf;refine zae ?_;refine zab ?_;refine zaf ?_;refine zab ?_;refine zar (s:=?s6) rfl ?o6 ?q6
  case o6=>simp [h5]; rfl
  refine zab ?_;refine zan ?_;refine zad _ rfl (λ h8=>?_) λ h8=>?_
  .refine zab ?_
   refine zan ?_;refine zai ?_;rw [h8] at hf;exact ⟨.inr rfl,zao.one (by simp [hf])⟩
  refine zae ?_;refine zan ?_;rw [h8] at hf;have hw : IntKind.i64.wrap ((k : Int)+1)=(k : Int)+1:=w6;refine ⟨k+1,⟨h5,hf⟩,by omega,Le.slots rfl rfl ?_⟩
  simp [hw]
 simp at h5;rw [List.drop_eq_nil_of_le h5] at hf;refine zaq ?_;refine hit ?_;refine zab ?_;refine zan ?_;refine zai ?_;exact ⟨.inr rfl,zao.one (by simp [hf])⟩
structure Ed where
 f : Int
 t : Int
 v : Int
 deriving DecidableEq,Inhabited
abbrev Ed.row (e : Ed) : List AV:=[.I e.f,.I e.t,.I e.v]
abbrev eE (e : Ed) : AV:=.agg [.I e.f,.I e.t,.I e.v]
abbrev eEs (l : List Ed) : AV:=.vs 3 false (l.map λ e=>[.I e.f,.I e.t,.I e.v])
def cmpE (a b : Ed) : Int:=([cmpI a.f b.f,cmpI a.t b.t].find? (· != 0)).getD 0
theorem zlw (a b : Ed) : zaj Tryz.prog zdL [eE a,eE b] [] (.I (cmpE a b)) []:=by
 refine zi6.ac ?_;show awp _ 0 _ _ ⟨17,[(0,eE a),(1,eE b)],[],16⟩;refine zab ?_;refine zan ?_;refine zab ?_;refine zgu (s:=?s2) (tr:=?t2) rfl ?o2 ?r2 ?q2
 case o2 =>
  simp; refine zap (zk7 ..) rfl ?_; simp; refine zap (zk7 ..) rfl ?_; simp [zhf];refine zi1 [120] (zA1 [cmpI a.f b.f,cmpI a.t b.t] (by simp)) (by simp) (.sc _) ?_; simp; constructor <;> rfl
 case r2=>rfl
 refine zai ?_;exact ⟨.inr rfl,zao.one (by simp; exact .refl _)⟩
def idxI (l : List Int) (x : Int) : Int:=if x∈l then (l.idxOf x : Int) else -1
theorem zgE (l : List Int) (x : Int) (hl : l.length<=9223372036854775807) : zaj Tryz.prog za0 [ints l,.I x] [] (.I (idxI l x)) []:=by
 refine zcq.ac ?_;show awp _ 0 _ _ ⟨19,[(0,ints l),(1,.I x)],[],16⟩;refine zab ?_;refine zan ?_;refine zab ?_;refine zab ?_;refine zan ?_;refine zaf ?_;refine zas (ι:=Nat) (λ k=>⟨19,[(0,ints l),(1,.I x),(6,ints l),(7,.I l.length),(8,.I k)],[],16⟩) (λ k=>k<=l.length/\x∉l.take k) (λ k=>l.length - k) 0 ?_ (Le.slots rfl rfl ?_) ?_
 .simp
 .simp
 rintro k ⟨hk,hn⟩
 refine zab ?_;refine zan ?_;refine zab ?_;refine zad _ rfl (λ h4=>?_) λ h4=>?_
 .simp at h4
  refine zae ?_;refine zab ?_;refine zaf ?_;refine zab ?_;refine zan ?_;refine zab ?_;refine zar (s:=?s6) rfl ?o6 ?q6
  case o6=>simp [h4]; rfl
  refine zad _ rfl (λ h7=>?_) λ h7=>?_
  .refine zab ?_
   refine zan ?_;refine zai ?_;have hm : x∈l:=by simp at h7; rw [h7]; exact List.getElem_mem h4
   have hi : l.idxOf x=k:=by
    simp at h7;have h1 : l=l.take k++x::l.drop (k+1):=by rw [h7,<- List.drop_eq_getElem_cons h4,List.take_append_drop]
    rw [h1,List.idxOf_append,if_neg hn,List.idxOf_cons_self];simp;omega
   exact ⟨.inr rfl,zao.one (by simp [idxI,hm,hi])⟩
  refine zae ?_;refine zan ?_;have hw : IntKind.i64.wrap ((k : Int)+1)=(k : Int)+1:=w6;refine ⟨k+1,⟨h4,?_⟩,by omega,Le.slots rfl rfl ?_⟩
  .intro hm
   simp at h7;rw [List.take_succ_eq_append_getElem h4] at hm;rcases List.mem_append.1 hm with h | h
   .exact hn h
   .exact h7 (List.mem_singleton.1 h)
  .simp [hw]
 simp at h4;refine zaq ?_;refine hit ?_;refine zab ?_;refine zan ?_;refine zai ?_;rw [List.take_of_length_le h4] at hn;exact ⟨.inr rfl,zao.one (by simp [idxI,hn])⟩
theorem zqT (l : List Int) (x : Int) (hl : l.length<=9223372036854775807) : zaj Tryz.prog zam [ints l,.I x] [] (.B (decide (x∈l))) []:=by
 refine zbO.ac ?_;show awp _ 0 _ _ ⟨9,[(0,ints l),(1,.I x)],[],16⟩;refine zab ?_;refine zan ?_;refine zab ?_;refine zar (s:=?s2) rfl ?o2 ?q2
 case o2=>simp; refine zap (zgE l x hl) rfl ?_; simp; rfl
 refine zai ?_
 have : decide (0<=idxI l x)=decide (x∈l):=by
  unfold idxI
  by_cases h : x∈l
  .simp [h]
  .simp [h]
 exact ⟨.inr rfl,zao.one (by simp [this])⟩
theorem zdj (l : List Int) (x : Int) (hl : l.length<=140737488355328) : zaj Tryz.prog zam [ints l,.I x] [] (.B (decide (x∈l))) [] :=
 zqT l x (by omega)
def zoc (l : List Int) (lo hi : Int) (i : Nat) : Prop:=∀ h : i<l.length,lo<=l[i]/\l[i]<=hi/\(0<i->l[i - 1]<l[i])
def Rise (l : List Int) (lo hi : Int) : Prop:=∀ i,zoc l lo hi i
open Classical in
theorem zlE (l : List Int) (lo hi : Int) (hl : l.length<=9223372036854775807) : zaj Tryz.prog zcc [ints l,.I lo,.I hi] [] (.B (decide (Rise l lo hi))) []:=by
 refine zjJ.ac ?_;show awp _ 0 _ _ ⟨38,[(0,ints l),(1,.I lo),(2,.I hi)],[],16⟩;refine zab ?_;refine zan ?_;refine zab ?_;refine zab ?_;refine zan ?_;refine zaf ?_;refine zas (ι:=Nat) (λ k=>⟨38,[(0,ints l),(1,.I lo),(2,.I hi),(9,ints l),(10,.I l.length),(11,.I k)],[],16⟩) (λ k=>k<=l.length /\ ∀ i,i<k->zoc l lo hi i) (λ k=>l.length - k) 0 ?_ (Le.slots rfl rfl ?_) ?_
 .simp
 .simp
 rintro k ⟨hk,hp⟩
 refine zab ?_;refine zan ?_;refine zab ?_;refine zad _ rfl (λ h4=>?_) λ h4=>?_
 .simp at h4
  have hw : IntKind.i64.wrap ((k : Int)+1)=(k : Int)+1:=w6;refine zae ?_;refine zab ?_;refine zaf ?_;refine zab ?_;refine zar (s:=?s5) rfl ?o5 ?q5
  case o5=>simp [h4]; rfl
  refine zab ?_
  by_cases a1 : l[k]<lo
  .refine zar (s:=?s21) rfl ?o21 ?q21
   case o21=>simp [a1]; rfl
   refine zad _ rfl (λ _=>?_) λ h=>by cases h
   refine zab ?_;refine zan ?_;refine zai ?_;have hn : ¬ Rise l lo hi:=λ h=>by have:=h k h4; omega
   exact ⟨.inr rfl,zao.one (by simp [hn])⟩
  by_cases a2 : hi<l[k]
  .refine zar (s:=?s22) rfl ?o22 ?q22
   case o22=>simp [a1,a2]; rfl
   refine zad _ rfl (λ _=>?_) λ h=>by cases h
   refine zab ?_;refine zan ?_;refine zai ?_;have hn : ¬ Rise l lo hi:=λ h=>by have:=h k h4; omega
   exact ⟨.inr rfl,zao.one (by simp [hn])⟩
  by_cases a3 : 0<k
  .have hw1 : IntKind.i64.wrap ((k : Int) - 1)=((k - 1 : Nat) : Int):=by rw [w6]; omega
   have h5 : k - 1<l.length:=by omega
   by_cases a4 : l[k]<=l[k - 1]
   .refine zar (s:=?s23) rfl ?o23 ?q23
    case o23=>simp [a1,a2,a3,a4,hw1,h5]; rfl
    refine zad _ rfl (λ _=>?_) λ h=>by cases h
    refine zab ?_;refine zan ?_;refine zai ?_;have hn : ¬ Rise l lo hi:=λ h=>by have:=h k h4; have:=this.2.2 a3; omega
    exact ⟨.inr rfl,zao.one (by simp [hn])⟩
   .refine zar (s:=?s24) rfl ?o24 ?q24
    case o24=>simp [a1,a2,a3,a4,hw1,h5]; rfl
    refine zad _ rfl (λ h=>by cases h) λ _=>zae ?_
    refine zan ?_;refine ⟨k+1,⟨h4,λ i hi=>?_⟩,by omega,Le.slots rfl rfl ?_⟩
    .rcases Nat.lt_succ_iff_lt_or_eq.1 hi with h | rfl
     .exact hp i h
     .intro _; exact ⟨by omega,by omega,λ _=>by omega⟩
    .simp [hw]
  .refine zar (s:=?s25) rfl ?o25 ?q25
   case o25=>simp [a1,a2,a3]; rfl
   refine zad _ rfl (λ h=>by cases h) λ _=>zae ?_
   refine zan ?_;refine ⟨k+1,⟨h4,λ i hi=>?_⟩,by omega,Le.slots rfl rfl ?_⟩
   .rcases Nat.lt_succ_iff_lt_or_eq.1 hi with h | rfl
    .exact hp i h
    .intro _; exact ⟨by omega,by omega,λ h=>absurd h a3⟩
   .simp [hw]
 simp at h4;refine zaq ?_;refine hit ?_;refine zab ?_;refine zan ?_;refine zai ?_;have hy : Rise l lo hi:=λ i hi=>hp i (by omega) hi
 exact ⟨.inr rfl,zao.one (by simp [hy])⟩
open Classical in
theorem zf3 (l : List Int) (lo hi : Int) (hl : l.length<=140737488355328) : zaj Tryz.prog zcc [ints l,.I lo,.I hi] [] (.B (decide (Rise l lo hi))) [] :=
 zlE l lo hi (by omega)
structure Gr where
 size : Int
 edges : List Ed
 gone : List Int
abbrev gC (g : Gr) : List AV:=[.I g.size,eEs g.edges,ints g.gone]
abbrev eG (g : Gr) : AV:=.agg (gC g)
abbrev eC (e : Ed) : List AV:=[.I e.f,.I e.t,.I e.v]
def Fits (g : Gr) (e : Ed) : Prop:=0<=e.f/\e.f<=g.size - 1/\0<=e.t/\e.t<=g.size - 1/\e.f≠e.t/\e.f∉g.gone/\e.t∉g.gone
instance (g : Gr) (e : Ed) : Decidable (Fits g e):=by unfold Fits; infer_instance
theorem zoB (g : Gr) (e : Ed) (hs : 0<=g.size) (hs' : g.size<=64) (hl : g.gone.length<=140737488355328) : zaj Tryz.prog zfN [eG g,eE e] [] (.B (decide (Fits g e))) []:=by
 refine zmq.ac ?_;show awp _ 0 _ _ ⟨42,[(0,eG g),(1,eE e)],[],16⟩;refine zaa ⟨42,[(2,.pv (gC g)),(3,.pv (eC e)),(4,.B false)],[],16⟩ rfl ?_ ?_
 .simp -implicitDefEqProofs
  exact Le.snap [16,24] rfl rfl (by simp)
 have hw : IntKind.i64.wrap (g.size - 1)=g.size - 1:=w6;refine zaa ⟨42,[(4,.B (decide (Fits g e)))],[],16⟩ rfl ?_ ?_
 .simp [hw]
  repeat' first
   | (refine zf4 zaF rfl ?_; refine zap (zcl ..) rfl ?_; simp [hw])
   | (refine zf4 zam rfl ?_; refine zap (zdj _ _ hl) rfl ?_; simp [hw])
   | (refine zem (λ hb=>?_) (λ hb=>?_) <;> (try rw [hb]) <;> simp [hw])
  all_goals exact Le.snap [] rfl rfl (by simp; exact wkB (by simp at *; grind [Fits]))
 refine zai ?_;exact ⟨.inr rfl,zao.one (by simp)⟩
def zsi (g : Gr) : Prop:=0<=g.size/\g.size<=64/\g.edges.length<=500/\Rise g.gone 0 (g.size - 1)
def EdAt (g : Gr) (i : Nat) : Prop:=∀ h : i<g.edges.length,Fits g g.edges[i]/\1<=g.edges[i].v/\g.edges[i].v<=3/\(0<i->cmpE g.edges[i - 1] g.edges[i]<0)
def GrOk (g : Gr) : Prop:=zsi g /\ ∀ i,EdAt g i
open Classical in
theorem znr (g : Gr) (hl : g.edges.length<=140737488355328) (hl2 : g.gone.length<=140737488355328) : zaj Tryz.prog zgr [eG g] [] (.I (if GrOk g then 0 else 14)) []:=by
 refine zlf.ac ?_;show awp _ 0 _ _ ⟨58,[(0,eG g)],[],16⟩;refine zaa ⟨58,[(1,.pv (gC g))],[],16⟩ rfl ?_ ?_
 .simp
  exact Le.snap [16] rfl rfl (by simp)
 refine zab ?_;refine zaa ⟨58,[(1,.pv (gC g)),(23,.B (decide (¬ zsi g)))],[],16⟩ rfl ?_ ?_
 .simp
  repeat' first
   | (refine zf4 zaF rfl ?_; refine zap (zcl ..) rfl ?_; simp)
   | (refine zf4 zcc rfl ?_; have hw : IntKind.i64.wrap (g.size - 1)=g.size - 1:=w6; rw [hw]; refine zap (zf3 _ _ _ hl2) rfl ?_; simp)
   | (refine zem (λ hb=>?_) (λ hb=>?_) <;> (try rw [hb]) <;> (try simp at hb) <;> simp [hb])
  all_goals exact Le.snap [] rfl rfl (by simp; exact wkB (by (try simp at *); grind [zsi]))
 refine zad _ rfl (λ h1=>?_) λ h1=>?_
 .refine zab ?_
  refine zan ?_;refine zai ?_;simp at h1;exact ⟨.inr rfl,zao.one (by simp [GrOk,h1])⟩
 simp at h1;have hs:=h1.1;have hs2:=h1.2.1;refine zae ?_;refine zab ?_;refine zab ?_;refine zan ?_;refine zaf ?_;refine zas (ι:=Nat) (λ k=>⟨58,[(1,.pv (gC g)),(25,eEs g.edges),(26,.I g.edges.length),(27,.I k)],[],16⟩) (λ k=>k<=g.edges.length /\ ∀ i,i<k->EdAt g i) (λ k=>g.edges.length - k) (0) ?_ (Le.snap [] rfl rfl (by simp)) ?_
 .simp
 rintro k ⟨hk,hp⟩
 refine zab ?_;refine zan ?_;refine zab ?_;refine zad _ rfl (λ h5=>?_) λ h5=>?_
 .simp at h5
  have hw2 : IntKind.i64.wrap ((k : Int)+1)=(k : Int)+1:=w6;have hwp : 0<k->IntKind.i64.wrap ((k : Int) - 1)=((k - 1 : Nat) : Int):=λ h=>by rw [w6]; omega
  have h5' : k - 1<g.edges.length:=by omega
  refine zae ?_;refine zab ?_;refine zaf ?_;refine zaa ⟨58,[(1,.pv (gC g)),(3,.I k),(4,.pv (eC g.edges[k])),(25,eEs g.edges),(26,.I g.edges.length),(27,.I k)],[],16⟩ rfl ?_ ?_
  .simp [h5]
   exact Le.snap [48] rfl rfl (by simp)
  refine zaC ⟨58,[(1,.pv (gC g)),(25,eEs g.edges),(26,.I g.edges.length),(27,.I k),(56,.B (decide (¬ EdAt g k)))],[],16⟩ rfl ?_ ?_
  .simp
   repeat' first
    | (refine zf4 zfN rfl ?_; refine zap (zoB g _ hs hs2 hl2) rfl ?_; simp)
    | (refine zf4 zaF rfl ?_; refine zap (zcl ..) rfl ?_; simp)
    | (refine zf4 zdL rfl ?_; refine zap (zlw ..) rfl ?_; simp)
    | (refine zem (λ hb=>?_) (λ hb=>?_) <;> (try rw [hb]) <;> (try simp at hb) <;> simp [hb,h5,h5',hwp])
   all_goals exact ⟨rfl,Le.snap [] rfl rfl (by simp; exact wkB (by (try simp at *); grind [EdAt]))⟩
  refine zad _ rfl (λ h6=>?_) λ h6=>?_
  .refine zab ?_
   refine zan ?_;refine zai ?_;have hn : ¬ GrOk g:=λ h=>by simp at h6; exact h6 (h.2 k)
   exact ⟨.inr rfl,zao.one (by simp [hn])⟩
  simp at h6;refine zae ?_;refine zan ?_;refine ⟨k+1,⟨h5,λ i hi=>?_⟩,?_,Le.snap [] rfl rfl (by simp [hw2])⟩
  .rcases Nat.lt_succ_iff_lt_or_eq.1 hi with h | rfl
   .exact hp i h
   .exact h6
  .omega
 simp at h5;have hy : GrOk g:=⟨h1,λ i hi=>hp i (by omega) hi⟩
 refine zaq ?_;refine hit ?_;refine zab ?_;refine zan ?_;refine zai ?_;exact ⟨.inr rfl,zao.one (by simp [hy])⟩
def Bef (a b : Ed) : Prop:=a.f<b.f∨a.f=b.f/\a.t<b.t
instance (a b : Ed) : Decidable (Bef a b):=by unfold Bef; infer_instance
theorem zkx {a b : Ed} : cmpE a b<0↔Bef a b:=by
 simp only [cmpE,cmpI,Bef]
 grind
theorem zij (a b : Ed) : zaj Tryz.prog zds [eE a,eE b] [] (.B (decide (Bef a b))) []:=by
 refine zo5.ac ?_;show awp _ 0 _ _ ⟨24,[(0,eE a),(1,eE b)],[],16⟩;refine zaa ⟨24,[(2,.pv (eC a)),(3,.pv (eC b))],[],16⟩ rfl ?_ ?_
 .simp
  exact Le.snap [16,24] rfl rfl (by simp)
 refine zaa ⟨24,[(4,.B (decide (Bef a b)))],[],16⟩ rfl ?_ ?_
 .simp
  repeat' first
   | (refine zem (λ hb=>?_) (λ hb=>?_) <;> (try rw [hb]) <;> (try simp at hb) <;> simp [hb])
  all_goals exact Le.snap [] rfl rfl (by simp; exact wkB (by (try simp at *); grind [Bef]))
 refine zai ?_;exact ⟨.inr rfl,zao.one (by simp)⟩
open Classical in
theorem ziu (l : List Int) (n : Int) (hl : l.length<=140737488355328) : zaj Tryz.prog zeK [ints l,.I n] [] (.B (decide (Rise l 0 (n - 1)))) []:=by
 refine ztl.ac ?_;show awp _ 0 _ _ ⟨41,[(0,ints l),(1,.I n)],[],16⟩;refine zab ?_;refine zan ?_;refine zab ?_;refine zab ?_;refine zan ?_;refine zaf ?_;refine zas (ι:=Nat) (λ k=>⟨41,[(0,ints l),(1,.I n),(5,.I k)],[],16⟩) (λ k=>k<=l.length /\ ∀ i,i<k->zoc l 0 (n - 1) i) (λ k=>l.length - k) (0) ?_ (Le.snap [] rfl rfl (by simp)) ?_
 .simp
 rintro k ⟨hk,hp⟩
 refine zab ?_;refine zab ?_;refine zan ?_;refine zad _ rfl (λ h4=>?_) λ h4=>?_
 .try simp at h4
  have hw2 : IntKind.i64.wrap ((k : Int)+1)=(k : Int)+1:=w6;have hwp : 0<k->IntKind.i64.wrap ((k : Int) - 1)=((k - 1 : Nat) : Int):=λ h=>by rw [w6]; omega
  have hkp : k - 1<l.length:=by omega
  refine zae ?_;refine zab ?_;refine zaf ?_;refine zaC ⟨41,[(0,ints l),(1,.I n),(5,.I k),(40,.B (decide (¬ zoc l 0 (n - 1) k)))],[],16⟩ rfl ?_ ?_
  .simp [h4,hw2,hwp,hkp]
   repeat' first
    | (refine zem (λ hb=>?_) (λ hb=>?_) <;> (try rw [hb]) <;> (try simp at hb) <;> simp [hb,h4,hw2,hwp,hkp])
   all_goals exact ⟨rfl,Le.snap [] rfl rfl (by simp; exact wkB (by (try simp at *); grind [zoc]))⟩
  refine zad _ rfl (λ h5=>?_) λ h5=>?_
  .try simp at h5
   refine zab ?_;refine zar (s:=?s6) rfl ?o6 ?q6
   case o6=>simp [h4,hw2,hwp,hkp]; rfl
   refine zai ?_;have hn : ¬ Rise l 0 (n - 1):=λ h=>h5 (h k);exact ⟨.inr rfl,zao.one (by simp [hn])⟩
  try simp at h5
  refine zae ?_;refine zar (s:=?s7) rfl ?o7 ?q7
  case o7=>simp [h4,hw2,hwp,hkp]; rfl
  refine ⟨k+1,⟨h4,λ i hi=>?_⟩,by omega,Le.snap [] rfl rfl (by simp [h4,hw2,hwp,hkp])⟩
  rcases Nat.lt_succ_iff_lt_or_eq.1 hi with h | rfl
  .exact hp i h
  .exact h5
 try simp at h4
 have hall : ∀ i,i<l.length->zoc l 0 (n - 1) i:=λ i hi=>hp i (by omega)
 refine zaq ?_;refine hit ?_;refine zab ?_;refine zan ?_;refine zai ?_;have hy : Rise l 0 (n - 1):=λ i hi=>hall i hi hi;exact ⟨.inr rfl,zao.one (by simp [hy])⟩
def EdA (g : Gr) (e : Ed) : Prop:=0<=e.f/\e.f<g.size/\0<=e.t/\e.t<g.size/\e.f≠e.t/\1<=e.v/\e.v<=3
instance (g : Gr) (e : Ed) : Decidable (EdA g e):=by unfold EdA; infer_instance
def EdB (g : Gr) (k : Nat) : Prop:=∀ h : k<g.edges.length,(0<k->Bef g.edges[k - 1] g.edges[k])/\g.edges[k].f∉g.gone/\g.edges[k].t∉g.gone
theorem zo1 (g : Gr) (k : Nat) (h : k<g.edges.length) : EdAt g k↔EdA g g.edges[k]/\EdB g k:=by
 simp only [EdAt,EdA,EdB,Fits,zkx]
 grind
open Classical in
theorem zjd (g : Gr) (hl : g.edges.length<=140737488355328) (hl2 : g.gone.length<=140737488355328) : zaj Tryz.prog zgt [eG g] [] (.I (if GrOk g then 0 else 14)) []:=by
 refine zp1.ac ?_;show awp _ 0 _ _ ⟨105,[(0,eG g)],[],16⟩;refine zaa ⟨105,[(1,.pv (gC g))],[],16⟩ rfl ?_ ?_
 .simp
  exact Le.snap [16] rfl rfl (by simp)
 refine zab ?_;refine zaa ⟨105,[(1,.pv (gC g)),(26,.B (decide (¬ zsi g)))],[],16⟩ rfl ?_ ?_
 .simp
  repeat' first
   | (refine zf4 zeK rfl ?_; refine zap (ziu _ _ hl2) rfl ?_; simp)
   | (refine zem (λ hb=>?_) (λ hb=>?_) <;> (try rw [hb]) <;> (try simp at hb) <;> simp [hb])
  all_goals exact Le.snap [] rfl rfl (by simp; exact wkB (by (try simp at *); grind [zsi,EdA,EdB]))
 refine zad _ rfl (λ h1=>?_) λ h1=>?_
 .try simp at h1
  refine zab ?_;refine zan ?_;refine zai ?_;exact ⟨.inr rfl,zao.one (by simp [GrOk,h1])⟩
 try simp at h1
 refine zae ?_;refine zab ?_;refine zab ?_;refine zan ?_;refine zaf ?_;refine zas (ι:=Nat) (λ k=>⟨105,[(1,.pv (gC g)),(3,.I k)],[],16⟩) (λ k=>k<=g.edges.length /\ ∀ i,i<k->EdAt g i) (λ k=>g.edges.length - k) (0) ?_ (Le.snap [] rfl rfl (by simp)) ?_
 .simp
 rintro k ⟨hk,hp⟩
 refine zab ?_;refine zab ?_;refine zan ?_;refine zad _ rfl (λ h5=>?_) λ h5=>?_
 .try simp at h5
  have hw2 : IntKind.i64.wrap ((k : Int)+1)=(k : Int)+1:=w6;have hwp : 0<k->IntKind.i64.wrap ((k : Int) - 1)=((k - 1 : Nat) : Int):=λ h=>by rw [w6]; omega
  have hkp : k - 1<g.edges.length:=by omega
  refine zae ?_;refine zab ?_;refine zaf ?_;refine zaa ⟨105,[(1,.pv (gC g)),(3,.I k),(4,.pv (eC g.edges[k]))],[],16⟩ rfl ?_ ?_
  .simp [h5,hw2,hwp,hkp]
   exact Le.snap [96] rfl rfl (by simp [h5,hw2,hwp,hkp])
  refine zab ?_;refine zaa ⟨105,[(1,.pv (gC g)),(3,.I k),(4,.pv (eC g.edges[k])),(77,.B (decide (¬ EdA g g.edges[k])))],[],16⟩ rfl ?_ ?_
  .simp [h5,hw2,hwp,hkp]
   repeat' first
    | (refine zem (λ hb=>?_) (λ hb=>?_) <;> (try rw [hb]) <;> (try simp at hb) <;> simp [hb,h5,hw2,hwp,hkp])
   all_goals exact Le.snap [] rfl rfl (by simp; exact wkB (by (try simp at *); grind [zsi,EdA,EdB]))
  refine zad _ rfl (λ h6=>?_) λ h6=>?_
  .try simp at h6
   refine zab ?_;refine zar (s:=?s7) rfl ?o7 ?q7
   case o7=>simp [h5,hw2,hwp,hkp]; rfl
   refine zai ?_;have hn : ¬ GrOk g:=λ h=>by have h2:=(zo1 g k h5).1 (h.2 k); simp_all
   exact ⟨.inr rfl,zao.one (by simp [hn])⟩
  try simp at h6
  refine zae ?_;refine zaC ⟨105,[(1,.pv (gC g)),(3,.I k),(104,.B (decide (¬ EdB g k)))],[],16⟩ rfl ?_ ?_
  .simp [h5,hw2,hwp,hkp]
   repeat' first
    | (refine zf4 zds rfl ?_; refine zap (zij ..) rfl ?_; simp [h5,hw2,hwp,hkp])
    | (refine zf4 zbs rfl ?_; refine zap (znd _ _ hl2) rfl ?_; simp [h5,hw2,hwp,hkp])
    | (refine zem (λ hb=>?_) (λ hb=>?_) <;> (try rw [hb]) <;> (try simp at hb) <;> simp [hb,h5,hw2,hwp,hkp])
   all_goals exact ⟨rfl,Le.snap [] rfl rfl (by simp; exact wkB (by (try simp at *); grind [zsi,EdA,EdB]))⟩
  refine zad _ rfl (λ h8=>?_) λ h8=>?_
  .try simp at h8
   refine zab ?_;refine zar (s:=?s9) rfl ?o9 ?q9
   case o9=>simp [h5,hw2,hwp,hkp]; rfl
   refine zai ?_;have hn : ¬ GrOk g:=λ h=>by have h2:=(zo1 g k h5).1 (h.2 k); simp_all
   exact ⟨.inr rfl,zao.one (by simp [hn])⟩
  try simp at h8
  refine zae ?_;refine zar (s:=?s10) rfl ?o10 ?q10
  case o10=>simp [h5,hw2,hwp,hkp]; rfl
  refine ⟨k+1,⟨h5,λ i hi=>?_⟩,by omega,Le.snap [] rfl rfl (by simp [h5,hw2,hwp,hkp])⟩
  rcases Nat.lt_succ_iff_lt_or_eq.1 hi with h | rfl
  .exact hp i h
  .exact (zo1 g i h5).2 ⟨h6,h8⟩
 try simp at h5
 have hall : ∀ i,i<g.edges.length->EdAt g i:=λ i hi=>hp i (by omega)
 refine zaq ?_;refine hit ?_;refine zab ?_;refine zan ?_;refine zai ?_;have hy : GrOk g:=⟨h1,λ i hi=>hall i hi hi⟩;exact ⟨.inr rfl,zao.one (by simp [hy])⟩
theorem zpY (l : List Int) (hl : l.length*8<=140737488355328) : zaj Tryz.prog za1 [ints l] [] (.rs 0 0 l.length) [some ⟨1,l.map λ n=>[AV.I n],0⟩]:=by
 cases l with
 | nil =>
   refine zqD λ ad c=>?_;refine zbH.ac ?_;show awp _ 0 _ _ ⟨8,[(0,.sc (.slice ad 0 c))],[],16⟩;refine zab ?_;refine zan ?_;refine zaO (ι:=Unit) (λ _=>⟨8,[(0,.vs 1 false [])],[],40⟩) (λ _=>True) ?_ λ _ _=>?_
   .refine zab ?_
    refine zan ?_;refine zad _ rfl (λ h3=>?_) λ h3=>?_
    .refine zaa ⟨8,[(2,.rs 40 0 0)],[(40,some ⟨1,[],0⟩)],48⟩ rfl ?_ ?_
     .simp
      exact Le.lst [] [] [(40,1)] rfl (by simp) (by simp) (by simp) (by simp) (by simp) (by simp) (by simp) (by simp [Up]) (by simp)
     refine zai ?_;exact ⟨.inr rfl,zao.out [40] [] rfl (by simp) (by simp) (by simp) (by simp)⟩
    refine zae ?_;exact ⟨(),trivial,Le.slots rfl rfl (by simp; exact .mt _ _ _)⟩
   refine zab ?_;refine zar (s:=?s5) rfl ?o5 ?q5
   case o5=>simp [List.replicate]; rfl
   refine zai ?_;exact ⟨.inr rfl,zao.out [56] [] rfl (by simp) (by simp) (by simp) (by simp)⟩
 | cons x l =>
   refine zbH.ac ?_;show awp _ 0 _ _ ⟨8,[(0,ints (x::l))],[],16⟩;refine zab ?_;refine zan ?_;refine zab ?_;refine zab ?_;refine zan ?_;refine zad _ rfl (λ h3=>by cases h3) λ h3=>?_
   refine zae ?_;refine zab ?_;refine zar (s:=?t4) rfl ?p4 ?r4
   case p4=>simp [List.replicate]; refine ⟨by simpa using hl,by simp at hl; omega,?_⟩; rfl
   refine zai ?_;exact ⟨.inr rfl,zao.out [56] [] rfl (by simp) (by simp) (by simp) (by simp [fcd])⟩
theorem zuO (l : List Ed) (hl : l.length*24<=140737488355328) : zaj Tryz.prog zaL [eEs l] [] (.rs 0 0 l.length) [some ⟨3,l.map λ e=>[AV.I e.f,AV.I e.t,AV.I e.v],0⟩]:=by
 cases l with
 | nil =>
   refine zqD λ ad c=>?_;refine zba.ac ?_;show awp _ 0 _ _ ⟨8,[(0,.sc (.slice ad 0 c))],[],16⟩;refine zab ?_;refine zan ?_;refine zaO (ι:=Unit) (λ _=>⟨8,[(0,.vs 3 false [])],[],40⟩) (λ _=>True) ?_ λ _ _=>?_
   .refine zab ?_
    refine zan ?_;refine zad _ rfl (λ h3=>?_) λ h3=>?_
    .refine zaa ⟨8,[(2,.rs 40 0 0)],[(40,some ⟨3,[],0⟩)],48⟩ rfl ?_ ?_
     .simp
      exact Le.lst [] [] [(40,3)] rfl (by simp) (by simp) (by simp) (by simp) (by simp) (by simp) (by simp) (by simp [Up]) (by simp)
     refine zai ?_;exact ⟨.inr rfl,zao.out [40] [] rfl (by simp) (by simp) (by simp) (by simp)⟩
    refine zae ?_;exact ⟨(),trivial,Le.slots rfl rfl (by simp; exact .mt _ _ _)⟩
   refine zab ?_;refine zar (s:=?s5) rfl ?o5 ?q5
   case o5=>simp [List.replicate]; rfl
   refine zai ?_;exact ⟨.inr rfl,zao.out [56] [] rfl (by simp) (by simp) (by simp) (by simp)⟩
 | cons x l =>
   refine zba.ac ?_;show awp _ 0 _ _ ⟨8,[(0,eEs (x::l))],[],16⟩;refine zab ?_;refine zan ?_;refine zab ?_;refine zab ?_;refine zan ?_;refine zad _ rfl (λ h3=>by cases h3) λ h3=>?_
   refine zae ?_;refine zab ?_;refine zar (s:=?t4) rfl ?p4 ?r4
   case p4=>simp [List.replicate]; refine ⟨by simpa using hl,by simp at hl; omega,?_⟩; rfl
   refine zai ?_;exact ⟨.inr rfl,zao.out [56] [] rfl (by simp) (by simp) (by simp) (by simp [fcd])⟩
def idxE (l : List Ed) (e : Ed) : Nat:=l.findIdx λ x=>!decide (Bef x e)
def AtE (l : List Ed) (k : Nat) (f t : Int) : Prop:=∃ h : k<l.length,l[k].f=f/\l[k].t=t
instance (l : List Ed) (k : Nat) (f t : Int) : Decidable (AtE l k f t):=by unfold AtE; infer_instance
def zzm (l : List Ed) (e : Ed) (k : Nat) : Prop:=∀ h : k<l.length,Bef l[k] e
theorem zuP (l : List Ed) (e : Ed) : idxE l e<=l.length:=List.findIdx_le_length
theorem zvb {l : List Ed} {e : Ed} {k : Nat} (hk : k<=l.length) (h1 : ∀ i,i<k->zzm l e i) (h2 : ∀ h : k<l.length,¬ Bef l[k] e) : idxE l e=k:=by
 unfold idxE;rcases Nat.lt_or_ge k l.length with h | h
 .rw [List.findIdx_eq h]
  refine ⟨by simpa using h2 h,λ j hj=>?_⟩
  simpa using h1 j hj (by omega)
 .obtain rfl : k=l.length:=by omega
  rw [List.findIdx_eq_length];intro x hx;obtain ⟨i,hi,rfl⟩:=List.mem_iff_getElem.1 hx
  simpa using h1 i hi hi
theorem znH (g : Gr) (f t : Int) (hl : g.edges.length<=140737488355328) : zaj Tryz.prog zia [eG g,.I f,.I t] [] (.tup [.I (idxE g.edges ⟨f,t,0⟩),.B (decide (AtE g.edges (idxE g.edges ⟨f,t,0⟩) f t))]) []:=by
 refine zqs.ac ?_;show awp _ 0 _ _ ⟨53,[(0,eG g),(1,.I f),(2,.I t)],[],16⟩;refine zaa ⟨53,[(1,.I f),(2,.I t),(3,.pv (gC g))],[],16⟩ rfl ?_ ?_
 .simp
  exact Le.snap [16] rfl rfl (by simp)
 refine zab ?_;refine zan ?_;refine zab ?_;refine zaf ?_;refine zas (ι:=Nat) (λ k=>⟨53,[(1,.I f),(2,.I t),(3,.pv (gC g)),(8,.I k)],[],16⟩) (λ k=>k<=g.edges.length /\ ∀ i,i<k->zzm g.edges ⟨f,t,0⟩ i) (λ k=>g.edges.length - k) (0) ?_ (Le.snap [] rfl rfl (by simp)) ?_
 .simp
 rintro k ⟨hk,hp⟩
 refine zab ?_;refine zaa ⟨53,[(1,.I f),(2,.I t),(3,.pv (gC g)),(8,.I k),(24,.B (decide (∃ h : k<g.edges.length,Bef g.edges[k] ⟨f,t,0⟩)))],[],16⟩ rfl ?_ ?_
 .simp
  repeat' first
   | (refine zf4 zds rfl ?_; refine zap (zij _ ⟨f,t,0⟩) rfl ?_; simp)
   | (refine zem (λ hb=>?_) (λ hb=>?_) <;> (try rw [hb]) <;> (try simp at hb) <;> simp [*])
  all_goals exact Le.snap [] rfl rfl (by simp <;> exact wkB (by (try simp at *); grind))
 refine zad _ rfl (λ h2=>?_) λ h2=>?_
 .try simp at h2
  obtain ⟨h2,h2b⟩:=h2;have hw2 : IntKind.i64.wrap ((k : Int)+1)=(k : Int)+1:=w6;have hwp : 0<k->IntKind.i64.wrap ((k : Int) - 1)=((k - 1 : Nat) : Int):=λ h=>by rw [w6]; omega
  have hkp : k - 1<g.edges.length:=by omega
  refine zae ?_;refine zaf ?_;refine zar (s:=?s3) rfl ?o3 ?q3
  case o3=>simp [h2,hw2,hwp,hkp]; rfl
  refine ⟨k+1,⟨h2,λ i hi=>?_⟩,by omega,Le.snap [] rfl rfl (by simp [h2,hw2,hwp,hkp])⟩
  rcases Nat.lt_succ_iff_lt_or_eq.1 hi with h | rfl
  .exact hp i h
  .exact λ _=>h2b
 try simp at h2
 rw [zvb hk hp h2];refine zaq ?_;refine hit ?_;refine zaC ⟨53,[(6,.I k),(7,.B (decide (AtE g.edges k f t)))],[],16⟩ rfl ?_ ?_
 .simp
  repeat' first
   | (refine zem (λ hb=>?_) (λ hb=>?_) <;> (try rw [hb]) <;> (try simp at hb) <;> simp [*])
  all_goals exact ⟨rfl,Le.snap [] rfl rfl (by simp <;> exact wkB (by (try simp at *); grind [AtE]))⟩
 refine zai ?_;exact ⟨.inr rfl,zao.out [] [] rfl (by simp) (by simp) (by simp) (by simp)⟩
theorem zhh (g : Gr) (hl : g.edges.length*24<=140737488355328) (hl2 : g.gone.length*8<=140737488355328) : zaj Tryz.prog zfT [eG g] [] (.agg [.I g.size,.rs 0 0 g.edges.length,.rs 1 0 g.gone.length]) [some ⟨3,g.edges.map λ e=>[AV.I e.f,AV.I e.t,AV.I e.v],0⟩,some ⟨1,g.gone.map λ n=>[AV.I n],0⟩]:=by
 refine zsp.ac ?_;show awp _ 0 _ _ ⟨12,[(0,eG g)],[],16⟩;have hl3 : g.edges.length<=140737488355328:=by omega
 have hl4 : g.gone.length<=140737488355328:=by omega
 refine zab ?_;refine zan ?_;refine zab ?_;refine zgu (s:=?s1) (tr:=?t1) rfl ?o1 ?r1 ?q1
 case o1=>simp [hl,hl2,hl3,hl4]; constructor <;> rfl
 case r1=>rfl
 refine zai ?_;refine ⟨.inr rfl,?_⟩;show zao [(2,some (true,3))] 0 _ _ _;exact zao.out (vs:=[.agg [.I g.size,.rs 64 0 g.edges.length,.rs 88 0 g.gone.length]]) [64,88] [] (by simp) (by simp) (by simp) (by simp) (by simp [fcd])
theorem zh5 (g : Gr) (hl : g.edges.length*24<=140737488355328) (hl2 : g.gone.length*8<=140737488355328) : zaj Tryz.prog zez [eG g] [] (.agg [.I g.size,.rs 0 0 g.edges.length,.rs 1 0 g.gone.length]) [some ⟨3,g.edges.map λ e=>[AV.I e.f,AV.I e.t,AV.I e.v],0⟩,some ⟨1,g.gone.map λ n=>[AV.I n],0⟩]:=by
 refine zhy.ac ?_;show awp _ 0 _ _ ⟨12,[(0,eG g)],[],16⟩;have hl3 : g.edges.length<=140737488355328:=by omega
 have hl4 : g.gone.length<=140737488355328:=by omega
 refine zab ?_;refine zan ?_;refine zab ?_;refine zgu (s:=?s1) (tr:=?t1) rfl ?o1 ?r1 ?q1
 case o1=>simp; refine zbz (zuO _ hl) rfl ?_; simp; refine zbz (zpY _ hl2) rfl ?_; simp [fcd]; constructor <;> rfl
 case r1=>rfl
 refine zai ?_;refine ⟨.inr rfl,?_⟩;show zao [(2,some (true,3))] 0 _ _ _;exact zao.out (vs:=[.agg [.I g.size,.rs 64 0 g.edges.length,.rs 88 0 g.gone.length]]) [64,88] [] (by simp) (by simp) (by simp) (by simp) (by simp [fcd])
theorem zvS {α : Type} {a b : List α} (h : a.length=b.length) (hp : ∀ i,i<a.length->a[i]? = b[i]?) : a=b:=by
 apply List.ext_getElem?;intro i;rcases Nat.lt_or_ge i a.length with h1 | h1
 .exact hp i h1
 .rw [List.getElem?_eq_none h1,List.getElem?_eq_none (by omega)]
theorem zAl {a b : Ed} : a=b↔a.f=b.f/\a.t=b.t/\a.v=b.v:=by
 cases a; cases b; simp
theorem znc (a b : List Int) (hl : a.length<=140737488355328) : zaj Tryz.prog zdl [ints a,ints b] [] (.B (decide (a=b))) []:=by
 refine zmU.ac ?_;show awp _ 0 _ _ ⟨26,[(0,ints a),(1,ints b)],[],16⟩;refine zab ?_;refine zan ?_;refine zab ?_;refine zab ?_;refine zan ?_;refine zad _ rfl (λ h3=>?_) λ h3=>?_
 .try simp at h3
  refine zab ?_;refine zan ?_;refine zai ?_;have hn : a≠b:=λ h=>h3 (by rw [h])
  exact ⟨.inr rfl,zao.one (by simp [hn])⟩
 try simp at h3
 refine zae ?_;refine zab ?_;refine zab ?_;refine zan ?_;refine zaf ?_;refine zas (ι:=Nat) (λ k=>⟨26,[(0,ints a),(1,ints b),(5,.I k)],[],16⟩) (λ k=>k<=a.length /\ ∀ i,i<k->a[i]? = b[i]?) (λ k=>a.length - k) (0) ?_ (Le.snap [] rfl rfl (by simp)) ?_
 .simp
 rintro k ⟨hk,hp⟩
 refine zab ?_;refine zab ?_;refine zan ?_;refine zad _ rfl (λ h7=>?_) λ h7=>?_
 .try simp at h7
  have hw2 : IntKind.i64.wrap ((k : Int)+1)=(k : Int)+1:=w6;have hwp : 0<k->IntKind.i64.wrap ((k : Int) - 1)=((k - 1 : Nat) : Int):=λ h=>by rw [w6]; omega
  have hkp : k - 1<a.length:=by omega
  have hkb : k<b.length:=by omega
  refine zae ?_;refine zab ?_;refine zaf ?_;refine zab ?_;refine zgu (s:=?s8) (tr:=?t8) rfl ?o8 ?r8 ?q8
  case o8=>simp [h7,hw2,hwp,hkp,hkb]; constructor <;> rfl
  case r8=>rfl
  refine zad _ rfl (λ h9=>?_) λ h9=>?_
  .try simp at h9
   refine zab ?_;refine zar (s:=?s10) rfl ?o10 ?q10
   case o10=>simp [h7,hw2,hwp,hkp,hkb]; rfl
   refine zai ?_;have hn : a≠b:=λ h=>h9 (by simp [h])
   exact ⟨.inr rfl,zao.one (by simp [hn])⟩
  try simp at h9
  refine zae ?_;refine zar (s:=?s11) rfl ?o11 ?q11
  case o11=>simp [h7,hw2,hwp,hkp,hkb]; rfl
  refine ⟨k+1,⟨h7,λ i hi=>?_⟩,by omega,Le.snap [] rfl rfl (by simp [h7,hw2,hwp,hkp,hkb])⟩
  rcases Nat.lt_succ_iff_lt_or_eq.1 hi with h | rfl
  .exact hp i h
  .simp [h7,hkb,h9]
 try simp at h7
 have hall : ∀ i,i<a.length->a[i]? = b[i]?:=λ i hi=>hp i (by omega)
 refine zaq ?_;refine hit ?_;refine zab ?_;refine zan ?_;refine zai ?_;have hy : a=b:=zvS (by omega) hall
 exact ⟨.inr rfl,zao.one (by simp [hy])⟩
def EqG (a b : Gr) : Prop:=a.size=b.size/\a.edges=b.edges/\a.gone=b.gone
instance (a b : Gr) : Decidable (EqG a b):=by unfold EqG; infer_instance
theorem zpf (a b : Gr) (hl : a.edges.length<=140737488355328) (hl2 : a.gone.length<=140737488355328) : zaj Tryz.prog zjy [eG a,eG b] [] (.B (decide (EqG a b))) []:=by
 refine zsf.ac ?_;show awp _ 0 _ _ ⟨46,[(0,eG a),(1,eG b)],[],16⟩;refine zaa ⟨46,[(2,.pv (gC a)),(3,.pv (gC b))],[],16⟩ rfl ?_ ?_
 .simp
  exact Le.snap [16,24] rfl rfl (by simp)
 refine zab ?_;refine zaa ⟨46,[(2,.pv (gC a)),(3,.pv (gC b)),(27,.B (decide (¬ (a.size=b.size/\a.edges.length=b.edges.length/\a.gone=b.gone))))],[],16⟩ rfl ?_ ?_
 .simp
  repeat' first
   | (refine zf4 zdl rfl ?_; refine zap (znc _ _ hl2) rfl ?_; simp)
   | (refine zem (λ hb=>?_) (λ hb=>?_) <;> (try rw [hb]) <;> (try simp at hb) <;> simp [*])
  all_goals exact Le.snap [] rfl rfl (by simp <;> exact wkB (by (try simp at *); grind [zAl]))
 refine zad _ rfl (λ h1=>?_) λ h1=>?_
 .try simp at h1
  refine zab ?_;refine zan ?_;refine zai ?_;have hn : ¬ EqG a b:=λ h=>by obtain ⟨e1,e2,e3⟩:=h; simp_all
  exact ⟨.inr rfl,zao.one (by simp [hn])⟩
 try simp at h1
 refine zae ?_;refine zab ?_;refine zab ?_;refine zan ?_;refine zaf ?_;refine zas (ι:=Nat) (λ k=>⟨46,[(2,.pv (gC a)),(3,.pv (gC b)),(5,.I k)],[],16⟩) (λ k=>k<=a.edges.length /\ ∀ i,i<k->a.edges[i]? = b.edges[i]?) (λ k=>a.edges.length - k) (0) ?_ (Le.snap [] rfl rfl (by simp)) ?_
 .simp
 rintro k ⟨hk,hp⟩
 refine zab ?_;refine zab ?_;refine zan ?_;refine zad _ rfl (λ h5=>?_) λ h5=>?_
 .try simp at h5
  have hw2 : IntKind.i64.wrap ((k : Int)+1)=(k : Int)+1:=w6;have hwp : 0<k->IntKind.i64.wrap ((k : Int) - 1)=((k - 1 : Nat) : Int):=λ h=>by rw [w6]; omega
  have hkp : k - 1<a.edges.length:=by omega
  have hkb : k<b.edges.length:=by have:=h1.2.1; omega
  refine zae ?_;refine zab ?_;refine zaf ?_;refine zaC ⟨46,[(2,.pv (gC a)),(3,.pv (gC b)),(5,.I k),(45,.B (decide (a.edges[k]≠b.edges[k])))],[],16⟩ rfl ?_ ?_
  .simp [h5,hw2,hwp,hkp,hkb]
   exact ⟨rfl,Le.snap [] rfl rfl (by simp <;> exact wkB (by grind [zAl]))⟩
  refine zad _ rfl (λ h6=>?_) λ h6=>?_
  .try simp at h6
   refine zab ?_;refine zar (s:=?s7) rfl ?o7 ?q7
   case o7=>simp [h5,hw2,hwp,hkp,hkb]; rfl
   refine zai ?_;have hn : ¬ EqG a b:=λ h=>h6 (by simp [h.2.1])
   exact ⟨.inr rfl,zao.one (by simp [hn])⟩
  try simp at h6
  refine zae ?_;refine zar (s:=?s8) rfl ?o8 ?q8
  case o8=>simp [h5,hw2,hwp,hkp,hkb]; rfl
  refine ⟨k+1,⟨h5,λ i hi=>?_⟩,by omega,Le.snap [] rfl rfl (by simp [h5,hw2,hwp,hkp,hkb])⟩
  rcases Nat.lt_succ_iff_lt_or_eq.1 hi with h | rfl
  .exact hp i h
  .simp [h5,hkb,h6]
 try simp at h5
 have hall : ∀ i,i<a.edges.length->a.edges[i]? = b.edges[i]?:=λ i hi=>hp i (by omega)
 refine zaq ?_;refine hit ?_;refine zab ?_;refine zan ?_;refine zai ?_;have hy : EqG a b:=⟨h1.1,zvS h1.2.1 hall,h1.2.2⟩;exact ⟨.inr rfl,zao.one (by simp [hy])⟩
theorem zwa {P : Program} {f : FuncId} {xs ys : List AV} {hs : List Ent} {res : AV} {hs' : List (Option Ent)} (hl : xs.length=ys.length) (hw : ∀ i,i<ys.length->Wk (xs.getD i .dead) (ys.getD i .dead)) (h : zaj P f ys hs res hs') : zaj P f xs hs res hs' :=
 ⟨h.1,h.2.1,λ T M w vs h1 h2 h3 hr=>h.2.2 T M w vs h1 h2 h3 ⟨hr.1.trans hl,λ i hi=>(hw i hi).rep (hr.2 i (hl ▸ hi))⟩⟩
section
variable {H : Type}
def Fit (x : Int) : Prop:=-9223372036854775808<=x/\x<=9223372036854775807
variable {P : Program} {tI tE tEs tIs tG : TypeId}
theorem zxP {n : Nat} (hI : P.underlying tI=some (.int .i64)) {d : DataW H} {cs : List AV} (h : avs P (n+1) tI d=some cs) : ∃ x,cs=[.I x]/\Fit x:=by
 cases d <;> simp [avs,hI] at h
 rename_i l
 cases l <;> simp at h
 obtain ⟨⟨rfl,hw⟩,rfl⟩:=h;refine ⟨_,rfl,?_⟩;unfold Fit
 simpa [Lit.wf,IntKind.min,IntKind.max,IntKind.signed,IntKind.bits] using hw
theorem zvD {α : Type} {f : DataW H->Option (List AV)} (Q : α->List AV) : ∀ {ds : List (DataW H)} {rows : List (List AV)},(∀ d row,f d=some row -> ∃ a,row=Q a)->ds.mapM f=some rows -> ∃ l : List α,rows=l.map Q
 | [],rows,_,h=>by simp at h; subst h; exact ⟨[],rfl⟩
 | d::ds,rows,hf,h=>by
   simp only [List.mapM_cons] at h
   cases h1 : f d with
   | none=>simp [h1] at h
   | some row =>
     cases h2 : ds.mapM f with
     | none=>simp [h1,h2] at h
     | some rows' =>
       simp [h1,h2] at h;subst h;obtain ⟨a,rfl⟩:=hf d row h1;obtain ⟨l,rfl⟩:=zvD Q hf h2;exact ⟨a::l,rfl⟩
theorem zxg {α : Type} {n : Nat} {t e : TypeId} (ht : P.underlying t=some (.slice e)) (Q : α->List AV) (hf : ∀ (d : DataW H) row,avs P n e d=some row -> ∃ a,row=Q a) {d : DataW H} {cs : List AV} (h : avs P (n+1) t d=some cs) :
  ∃ (l : List α) (x : AV),cs=[x]/\Wk x (.vs (P.cellsOf e) false (l.map Q)):=by
 cases d <;> simp [avs,ht] at h
 .subst h; exact ⟨[],_,rfl,.nil _ _⟩
 .obtain ⟨_,rows,h,rfl⟩:=h
  obtain ⟨l,rfl⟩:=zvD Q hf h;exact ⟨l,_,rfl,.refl _⟩
end
theorem ownK : ownKnob Tryz.prog.godebug=none:=by kernel_rfl
theorem zA8 : laidOutB Tryz.prog=true:=by kernel_rfl
section
variable {H : Type} {P : Program} {tI tIs : TypeId}
theorem zqM {n : Nat} (hI : P.underlying tI=some (.int .i64)) {d : DataW H} {x : AV} (h : ziU P (n+1) tI d=some x) : ∃ k : Int,x = .I k/\Fit k:=by
 simp only [ziU,hI,Option.bind_eq_some_iff] at h;obtain ⟨cs,h1,h2⟩:=h;obtain ⟨k,rfl,hf⟩:=zxP hI h1;simp at h2;exact ⟨k,h2.symm,hf⟩
theorem ztM {n : Nat} (hI : P.underlying tI=some (.int .i64)) (hIs : P.underlying tIs=some (.slice tI)) (cI : P.cellsOf tI=1) {d : DataW H} {x : AV} (h : ziU P (n+2) tIs d=some x) : ∃ l : List Int,Wk x (ints l):=by
 simp only [ziU,hIs,Option.bind_eq_some_iff] at h;obtain ⟨cs,h1,h2⟩:=h;obtain ⟨l,y,rfl,hw⟩:=zxg hIs (λ x : Int=>[AV.I x]) (λ d row h=>by obtain ⟨x,h,_⟩:=zxP hI h; exact ⟨x,h⟩) h1
 rw [cI] at hw;simp at h2;subst h2;exact ⟨l,hw⟩
end
theorem zAo {H : Type} {P : Program} {n : Nat} {a b c : TypeId} {ds : List (DataW H)} {xs : List AV} (h : zj2 P n [a,b,c] ds=some xs) : ∃ (d1 d2 d3 : DataW H) (x1 x2 x3 : AV),ds=[d1,d2,d3]/\xs=[x1,x2,x3]/\ziU P n a d1=some x1/\ziU P n b d2=some x2/\ziU P n c d3=some x3:=by
 match ds,h with
 | [],h=>cases h
 | [_],h=>simp only [zj2] at h; split at h <;> simp_all
 | [_,_],h=>simp only [zj2] at h; split at h <;> simp_all
 | _::_::_::_::_,h=>simp only [zj2] at h; split at h <;> simp_all
 | [d1,d2,d3],h =>
   simp only [zj2] at h
   cases h1 : ziU P n a d1 with
   | none=>simp [h1] at h
   | some x1 =>
     cases h2 : ziU P n b d2 with
     | none=>simp [h1,h2] at h
     | some x2 =>
       cases h3 : ziU P n c d3 with
       | none=>simp [h1,h2,h3] at h
       | some x3 =>
         simp [h1,h2,h3] at h;exact ⟨d1,d2,d3,x1,x2,x3,rfl,h.symm,h1,h2,h3⟩
def sumF (φ : Ed->Int->Int) : List Ed->List Int->Int
 | e::A,v::f=>φ e v+sumF φ A f
 | _,_=>0
def outF (A : List Ed) (f : List Int) (x : Int) : Int:=sumF (λ e v=>if e.f=x then v else 0) A f
def inF (A : List Ed) (f : List Int) (x : Int) : Int:=sumF (λ e v=>if e.t=x then v else 0) A f
structure zfO (N : Nat) (A : List Ed) : Prop where
 two : 2<=N
 arc : ∀ e∈A,0<=e.f/\e.f<N/\0<=e.t/\e.t<N/\e.f≠e.t/\e.t≠0/\e.f≠1/\0<=e.v
def Fit2 : List Ed->List Int->Prop
 | e::A,v::f=>(0<=v/\v<=e.v)/\Fit2 A f
 | [],[]=>True
 | _,_=>False
structure zaJ (N : Nat) (A : List Ed) (f : List Int) : Prop where
 fit : Fit2 A f
 bal : ∀ x : Nat,2<=x->x<N->outF A f x=inF A f x
def valF (A : List Ed) (f : List Int) : Int:=outF A f 0
theorem Fit2.len : ∀ {A : List Ed} {f : List Int},Fit2 A f->f.length=A.length
 | [],[],_=>rfl
 | _::_,_::_,h=>by simp [h.2.len]
 | [],_::_,h=>h.elim
 | _::_,[],h=>h.elim
theorem zsQ (φ ψ : Ed->Int->Int) : ∀ (A : List Ed) (f : List Int),sumF (λ e v=>φ e v+ψ e v) A f=sumF φ A f+sumF ψ A f
 | [],_=>by simp [sumF]
 | _::_,[]=>by simp [sumF]
 | e::A,v::f=>by
   simp only [sumF];rw [zsQ φ ψ A f];omega
theorem zoQ (φ ψ : Ed->Int->Int) : ∀ (A : List Ed) (f : List Int),sumF (λ e v=>φ e v - ψ e v) A f=sumF φ A f - sumF ψ A f
 | [],_=>by simp [sumF]
 | _::_,[]=>by simp [sumF]
 | e::A,v::f=>by
   simp only [sumF];rw [zoQ φ ψ A f];omega
theorem zeQ {φ ψ : Ed->Int->Int} : ∀ {A : List Ed} {f : List Int},(∀ e∈A,∀ v,φ e v=ψ e v)->sumF φ A f=sumF ψ A f
 | [],_,_=>by simp [sumF]
 | _::_,[],_=>by simp [sumF]
 | e::A,v::f,h=>by
   simp only [sumF];rw [h e List.mem_cons_self v,zeQ λ x hx=>h x (List.mem_cons_of_mem _ hx)]
theorem zie : ∀ {A : List Ed} {f : List Int},sumF (λ _ _=>0) A f=0
 | [],_=>by simp [sumF]
 | _::_,[]=>by simp [sumF]
 | e::A,v::f=>by simp [sumF,zie (A:=A) (f:=f)]
theorem zrO {φ ψ : Ed->Int->Int} : ∀ {A : List Ed} {f : List Int},Fit2 A f->(∀ e∈A,∀ v,0<=v->v<=e.v->φ e v<=ψ e v)->sumF φ A f<=sumF ψ A f
 | [],[],_,_=>by simp [sumF]
 | [],_::_,h,_=>h.elim
 | _::_,[],h,_=>h.elim
 | e::A,v::f,h,hh=>by
   simp only [sumF];have h1:=hh e List.mem_cons_self v h.1.1 h.1.2;have h2:=zrO h.2 λ x hx=>hh x (List.mem_cons_of_mem _ hx);omega
def zfk (S : Int->Bool) (g : Int->Int) : Nat->Int
 | 0=>0
 | n+1=>zfk S g n+if S n then g n else 0
theorem zma (S : Int->Bool) (g h : Int->Int) : ∀ n,zfk S (λ x=>g x - h x) n=zfk S g n - zfk S h n
 | 0=>rfl
 | n+1=>by
   simp only [zfk];rw [zma S g h n];split <;> omega
theorem zjt (S : Int->Bool) (A : List Ed) (f : List Int) (π : Ed->Int) : ∀ n : Nat,(∀ e∈A,0<=π e)->zfk S (λ x=>sumF (λ e v=>if π e=x then v else 0) A f) n=sumF (λ e v=>if π e<n/\S (π e)=true then v else 0) A f
 | 0,h=>by
   rw [zeQ (ψ:=λ _ _=>0) λ e he v=>if_neg λ h2=>by have:=h e he; omega,zie]
   rfl
 | n+1,h=>by
   have ih:=zjt S A f π n h;simp only [zfk];rw [ih]
   by_cases hs : S n=true
   .rw [if_pos hs,<- zsQ]
    refine zeQ λ e he v=>?_;have h0:=h e he
    by_cases h1 : π e=n
    .have h2 : ¬ (π e<(n : Int)/\S (π e)=true):=by omega
     have h3 : π e<((n+1 : Nat) : Int)/\S (π e)=true:=⟨by omega,by rw [h1]; exact hs⟩
     rw [if_neg h2,if_pos h1,if_pos h3,Int.zero_add]
    .rw [if_neg h1,Int.add_zero]
     by_cases h2 : π e<(n : Int)/\S (π e)=true
     .rw [if_pos h2,if_pos ⟨by omega,h2.2⟩]
     .rw [if_neg h2,if_neg λ h3=>h2 ⟨by omega,h3.2⟩]
   .rw [if_neg hs,Int.add_zero]
    refine zeQ λ e he v=>?_;have h0:=h e he
    by_cases h2 : π e<(n : Int)/\S (π e)=true
    .rw [if_pos h2,if_pos ⟨by omega,h2.2⟩]
    .rw [if_neg h2,if_neg λ h3=>h2 ⟨?_,h3.2⟩]
     have h4 : π e≠n:=λ h5=>hs (h5 ▸ h3.2);omega
def outS (S : Int->Bool) (A : List Ed) (f : List Int) : Int:=sumF (λ e v=>if S e.f=true/\S e.t=false then v else 0) A f
def inS (S : Int->Bool) (A : List Ed) (f : List Int) : Int:=sumF (λ e v=>if S e.f=false/\S e.t=true then v else 0) A f
def capS (S : Int->Bool) (A : List Ed) : Int:=sumF (λ e _=>if S e.f=true/\S e.t=false then e.v else 0) A (A.map λ _=>0)
theorem zmx (S : Int->Bool) (g : Int->Int) (N : Nat) (h0 : S 0=true) (h1 : S 1=false) (hg : ∀ x : Nat,2<=x->x<N->g x=0) : ∀ n,n<=N->1<=n->zfk S g n=g 0
 | 0,_,h=>by omega
 | 1,_,_=>by simp [zfk,h0]
 | n+2,h,_=>by
   have ih:=zmx S g N h0 h1 hg (n+1) (by omega) (by omega)
   simp only [zfk] at ih ⊢;rw [ih]
   cases n with
   | zero=>simp [h1]
   | succ n =>
     have:=hg (n+1+1) (by omega) (by omega)
     split <;> omega
theorem zo7 {N : Nat} {A : List Ed} {f : List Int} (hn : zfO N A) (hf : zaJ N A f) {S : Int->Bool} (h0 : S 0=true) (h1 : S 1=false) : valF A f=outS S A f - inS S A f:=by
 have e1:=zmx S (λ x=>outF A f x - inF A f x) N h0 h1 (λ x h2 h3=>by have:=hf.bal x h2 h3; omega) N (Nat.le_refl _) (by have:=hn.two; omega)
 have e2 : inF A f 0=0:=by
  unfold inF;rw [zeQ (ψ:=λ _ _=>0) λ e he v=>if_neg (hn.arc e he).2.2.2.2.2.1,zie]
 rw [zma] at e1;have e3:=zjt S A f (·.f) N λ e he=>(hn.arc e he).1
 have e4:=zjt S A f (·.t) N λ e he=>(hn.arc e he).2.2.1
 have e5 : zfk S (outF A f) N=_:=e3;have e6 : zfk S (inF A f) N=_:=e4;rw [e5,e6,<- zoQ] at e1;unfold valF outS inS;rw [<- zoQ];have e7 : outF A f 0=outF A f 0 - inF A f 0:=by omega
 rw [e7,<- e1];refine zeQ λ e he v=>?_;obtain ⟨q1,q2,q3,q4,_⟩:=hn.arc e he
 cases hf1 : S e.f <;> cases ht1 : S e.t <;> simp [q2,q4]
theorem zsa {A : List Ed} {f : List Int} (hf : Fit2 A f) (S : Int->Bool) : outS S A f<=capS S A:=by
 have key : ∀ {A : List Ed} {f : List Int},Fit2 A f->sumF (λ e _=>if S e.f=true/\S e.t=false then e.v else 0) A (A.map λ _=>0)=sumF (λ e _=>if S e.f=true/\S e.t=false then e.v else 0) A f:=by
  intro A
  induction A with
  | nil=>intro f _; simp [sumF]
  | cons e A ih =>
    intro f h
    cases f with
    | nil=>exact h.elim
    | cons v f=>simp only [sumF,List.map_cons]; rw [ih h.2]
 unfold outS capS;rw [key hf];exact zrO hf λ e _ v h1 h2=>by split <;> omega
theorem zkN {A : List Ed} {f : List Int} (hf : Fit2 A f) (S : Int->Bool) : 0<=inS S A f:=by
 have : sumF (λ _ _=>0) A f<=inS S A f:=zrO hf λ e _ v h1 h2=>by split <;> omega
 rw [zie] at this;exact this
theorem zfH {N : Nat} {A : List Ed} {f : List Int} (hn : zfO N A) (hf : zaJ N A f) {S : Int->Bool} (h0 : S 0=true) (h1 : S 1=false) : valF A f<=capS S A:=by
 rw [zo7 hn hf h0 h1];have:=zsa hf.fit S;have:=zkN hf.fit S;omega
def arcD (A : List Ed) (i : Nat) : Ed:=A.getD i ⟨0,0,0⟩
theorem zfz {A : List Ed} {i : Nat} (h : i<A.length) : arcD A i∈A:=by
 unfold arcD;rw [List.getD_eq_getElem?_getD,List.getElem?_eq_getElem h];exact List.getElem_mem h
abbrev Stp:=Nat × Bool
def stF (A : List Ed) (s : Stp) : Int:=if s.2 then (arcD A s.1).t else (arcD A s.1).f
def stT (A : List Ed) (s : Stp) : Int:=if s.2 then (arcD A s.1).f else (arcD A s.1).t
def zca (A : List Ed) (f : List Int) (s : Stp) : Int:=if s.2 then f.getD s.1 0 else (arcD A s.1).v - f.getD s.1 0
def zji (δ : Int) (f : List Int) (s : Stp) : List Int:=f.set s.1 (f.getD s.1 0+if s.2 then -δ else δ)
def zjA (δ : Int) (f : List Int) (l : List Stp) : List Int:=l.foldl (zji δ) f
theorem zoS (φ : Ed->Int->Int) : ∀ (A : List Ed) (f : List Int) (i : Nat) (v : Int),i<A.length->f.length=A.length->sumF φ A (f.set i v)=sumF φ A f+(φ (arcD A i) v - φ (arcD A i) (f.getD i 0))
 | [],_,_,_,h,_=>by simp at h
 | _::_,[],_,_,_,h=>by simp at h
 | e::A,w::f,0,v,_,_=>by
   simp only [List.set_cons_zero,sumF];have h1 : arcD (e::A) 0=e:=rfl;have h2 : (w::f).getD 0 0=w:=rfl;rw [h1,h2];omega
 | e::A,w::f,i+1,v,h,hl=>by
   simp only [List.set_cons_succ,sumF];have h1 : arcD (e::A) (i+1)=arcD A i:=by simp [arcD]
   have h2 : (w::f).getD (i+1) 0=f.getD i 0:=by simp
   rw [zoS φ A f i v (by simpa using h) (by simpa using hl),h1,h2]
   omega
def exF (A : List Ed) (f : List Int) (x : Int) : Int:=outF A f x - inF A f x
theorem zmW {δ : Int} {f : List Int} {s : Stp} : (zji δ f s).length=f.length:=List.length_set ..
theorem zig {δ : Int} : ∀ {l : List Stp} {f : List Int},(zjA δ f l).length=f.length
 | [],_=>rfl
 | s::l,f=>by
   show (zjA δ (zji δ f s) l).length=_;rw [zig,zmW]
theorem zs2 {A : List Ed} {f : List Int} {δ : Int} {s : Stp} (hs : s.1<A.length) (hl : f.length=A.length) (x : Int) :
  exF A (zji δ f s) x=exF A f x+(if stF A s=x then δ else 0) - if stT A s=x then δ else 0:=by
 unfold exF outF inF zji;rw [zoS _ A f s.1 _ hs hl,zoS _ A f s.1 _ hs hl];unfold stF stT;generalize arcD A s.1=e;generalize f.getD s.1 0=v;generalize sumF _ A f=p;generalize sumF _ A f=q;obtain ⟨i,b⟩:=s
 cases b
 .simp only [Bool.false_eq_true,if_false]
  by_cases h1 : e.f=x <;> by_cases h2 : e.t=x <;> simp only [h1,h2,if_true,if_false] <;> omega
 .simp only [if_true]
  by_cases h1 : e.f=x <;> by_cases h2 : e.t=x <;> simp only [h1,h2,if_true,if_false] <;> omega
def WayS (A : List Ed) : Int->List Stp->Int->Prop
 | u,[],w=>u=w
 | u,s::l,w=>s.1<A.length/\stF A s=u/\WayS A (stT A s) l w
theorem zsF {A : List Ed} {δ : Int} (x w : Int) : ∀ {l : List Stp} {f : List Int} {u : Int},f.length=A.length->WayS A u l w->exF A (zjA δ f l) x=exF A f x+(if u=x then δ else 0) - if w=x then δ else 0
 | [],f,u,_,h=>by
   have h' : u=w:=h;subst h';show exF A f x=_;omega
 | s::l,f,u,hl,h=>by
   obtain ⟨h1,h2,h3⟩:=h;show exF A (zjA δ (zji δ f s) l) x=_;rw [zsF x w (by rw [zmW,hl]) h3,zs2 h1 hl x,h2]
   omega
theorem zeB {A : List Ed} {f : List Int} : Fit2 A f↔f.length=A.length /\ ∀ i,i<A.length->0<=f.getD i 0/\f.getD i 0<=(arcD A i).v:=by
 induction A generalizing f with
 | nil =>
   cases f with
   | nil=>simp [Fit2]
   | cons v f=>simp [Fit2]
 | cons e A ih =>
   cases f with
   | nil=>simp [Fit2]
   | cons v f =>
     show (0<=v/\v<=e.v)/\Fit2 A f↔_;rw [ih];constructor
     .rintro ⟨h1,h2,h3⟩
      refine ⟨by simp [h2],λ i hi=>?_⟩
      cases i with
      | zero=>exact h1
      | succ i =>
        have:=h3 i (by simpa using hi)
        simpa [arcD] using this
     .rintro ⟨h1,h2⟩
      refine ⟨h2 0 (by simp),by simpa using h1,λ i hi=>?_⟩
      have:=h2 (i+1) (by simpa using hi)
      simpa [arcD] using this
theorem ziz {δ : Int} : ∀ {l : List Stp} {f : List Int} {i : Nat},(l.map (·.1)).Nodup->(∀ s∈l,s.1<f.length) ->
  (i∉l.map (·.1)->(zjA δ f l).getD i 0=f.getD i 0) /\ ∀ b,(i,b)∈l->(zjA δ f l).getD i 0=f.getD i 0+if b then -δ else δ
 | [],f,i,_,_=>⟨λ _=>rfl,λ b hb=>by simp at hb⟩
 | s::l,f,i,hn,hr=>by
   rw [List.map_cons,List.nodup_cons] at hn;have ih:=ziz (δ:=δ) (l:=l) (f:=zji δ f s) (i:=i) hn.2 λ x hx=>by rw [zmW]; exact hr x (List.mem_cons_of_mem _ hx)
   have hs:=hr s (List.mem_cons_self ..)
   have hget : ∀ j,(zji δ f s).getD j 0=if s.1=j then f.getD j 0+(if s.2 then -δ else δ) else f.getD j 0:=λ j=>by
    unfold zji
    by_cases hj : s.1=j
    .subst hj
     rw [if_pos rfl,List.getD_eq_getElem?_getD,List.getElem?_set_self hs,Option.getD_some]
    .rw [if_neg hj,List.getD_eq_getElem?_getD,List.getElem?_set_ne hj,List.getD_eq_getElem?_getD]
   refine ⟨λ hi=>?_,λ b hb=>?_⟩
   .rw [List.map_cons,List.mem_cons,not_or] at hi
    show (zjA δ (zji δ f s) l).getD i 0=_;rw [ih.1 hi.2,hget,if_neg λ e=>hi.1 e.symm]
   .show (zjA δ (zji δ f s) l).getD i 0=_
    rcases List.mem_cons.1 hb with hb | hb
    .subst hb
     rw [ih.1 hn.1,hget,if_pos rfl]
    .have hne : s.1≠i:=λ e=>hn.1 (e ▸ List.mem_map.2 ⟨_,hb,rfl⟩)
     rw [ih.2 b hb,hget,if_neg hne]
theorem zuD {A : List Ed} {f : List Int} {δ : Int} {l : List Stp} (hf : Fit2 A f) (h0 : 0<=δ) (hn : (l.map (·.1)).Nodup) (hr : ∀ s∈l,s.1<A.length/\δ<=zca A f s) : Fit2 A (zjA δ f l):=by
 rw [zeB] at hf ⊢;refine ⟨by rw [zig,hf.1],λ i hi=>?_⟩
 have hg:=ziz (δ:=δ) (f:=f) (i:=i) hn λ s hs=>by rw [hf.1]; exact (hr s hs).1
 have hfi:=hf.2 i hi
 by_cases hm : i∈l.map (·.1)
 .obtain ⟨⟨j,b⟩,hs,rfl⟩:=List.mem_map.1 hm
  have h1:=hg.2 b hs;have h2:=(hr _ hs).2;simp only at h1 h2 hfi ⊢;rw [h1];unfold zca at h2
  cases b
  .simp only [Bool.false_eq_true,if_false] at h2 ⊢
   omega
  .simp only [if_true] at h2 ⊢
   omega
 .rw [hg.1 hm]
  exact hfi
theorem zmi {N : Nat} {A : List Ed} (hn : zfO N A) (f : List Int) : inF A f 0=0:=by
 unfold inF;rw [zeQ (ψ:=λ _ _=>0) λ e he v=>if_neg (hn.arc e he).2.2.2.2.2.1,zie]
theorem zx6 {N : Nat} {A : List Ed} {f : List Int} {δ : Int} {l : List Stp} (hn : zfO N A) (hf : zaJ N A f) (h0 : 0<=δ) (hw : WayS A 0 l 1) (hd : (l.map (·.1)).Nodup) (hr : ∀ s∈l,s.1<A.length/\δ<=zca A f s) :
  zaJ N A (zjA δ f l)/\valF A (zjA δ f l)=valF A f+δ:=by
 have hl:=hf.fit.len;have hx:=λ x=>zsF (A:=A) (δ:=δ) x 1 (l:=l) (f:=f) hl hw;refine ⟨⟨zuD hf.fit h0 hd hr,λ x h2 hN=>?_⟩,?_⟩
 .have h3:=hx x
  have h4:=hf.bal x h2 hN;rw [if_neg (by omega),if_neg (by omega)] at h3
  unfold exF at h3;omega
 .have h3:=hx 0
  rw [if_pos rfl,if_neg (by omega)] at h3
  unfold exF at h3;rw [zmi hn,zmi hn] at h3;unfold valF;omega
theorem ztp {N : Nat} {A : List Ed} {f : List Int} (hn : zfO N A) (hf : zaJ N A f) {S : Int->Bool} (h0 : S 0=true) (h1 : S 1=false)
  (hc : ∀ s : Stp,s.1<A.length->S (stF A s)=true->0<zca A f s->S (stT A s)=true) : valF A f=capS S A:=by
 rw [zo7 hn hf h0 h1]
 have key : ∀ {A : List Ed} {f : List Int},Fit2 A f->(∀ s : Stp,s.1<A.length->S (stF A s)=true->0<zca A f s->S (stT A s)=true)->outS S A f=capS S A/\inS S A f=0:=by
  intro A
  induction A with
  | nil=>intro f _ _; simp [outS,inS,capS,sumF]
  | cons e A ih =>
    intro f hf hc
    cases f with
    | nil=>exact hf.elim
    | cons v f =>
      have h2:=ih hf.2 λ s hs hsf hr=>by
       have:=hc (s.1+1,s.2) (by simpa using hs) (by simpa [stF,arcD] using hsf) (by simpa [zca,arcD] using hr)
       simpa [stT,arcD] using this
      have ha:=hc (0,false) (by simp)
      have hb:=hc (0,true) (by simp)
      simp [stF,stT,zca,arcD] at ha hb;have hv:=hf.1;unfold outS inS capS at h2 ⊢;simp only [sumF,List.map_cons];obtain ⟨p1,p2⟩:=h2;rw [p1,p2]
      cases hF : S e.f <;> cases hT : S e.t <;> simp [hF,hT] at ha hb ⊢ <;> omega
 obtain ⟨p1,p2⟩:=key hf.fit hc;rw [p1,p2];omega
theorem WayS.snoc {A : List Ed} : ∀ {l : List Stp} {u w : Int} {s : Stp},WayS A u l w->s.1<A.length->stF A s=w->WayS A u (l++[s]) (stT A s)
 | [],u,w,s,h,h1,h2=>⟨h1,by rw [h2]; exact (show u=w from h).symm,rfl⟩
 | t::l,u,w,s,h,h1,h2=>⟨h.1,h.2.1,WayS.snoc h.2.2 h1 h2⟩
structure zv9 (A : List Ed) (f : List Int) (D : List Int) (by_ : Int->Stp) : Prop where
 zero : D.head? = some 0
 nodup : D.Nodup
 step : ∀ j (h : j<D.length),0<j->(by_ D[j]).1<A.length/\stT A (by_ D[j])=D[j]/\stF A (by_ D[j])∈D.take j/\0<zca A f (by_ D[j])
theorem zr0 {A : List Ed} {s t : Stp} (h : s.1=t.1) : (stF A s=stF A t/\stT A s=stT A t)∨(stF A s=stT A t/\stT A s=stF A t):=by
 obtain ⟨i,b⟩:=s;obtain ⟨j,c⟩:=t;simp only at h;subst h;unfold stF stT
 cases b <;> cases c <;> simp
theorem zv9.way {A : List Ed} {f D : List Int} {by_ : Int->Stp} (h : zv9 A f D by_) : ∀ (n j : Nat) (hj : j<D.length),j<=n ->
  ∃ l,WayS A 0 l D[j]/\(l.map (·.1)).Nodup /\ ∀ s∈l,s.1<A.length/\0<zca A f s/\by_ (stT A s)=s/\stT A s≠0/\stF A s∈D.take (j+1)/\stT A s∈D.take (j+1)
 | n,0,hj,_=>by
   refine ⟨[],?_,by simp,by simp⟩
   show (0 : Int)=D[0];have h0:=h.zero;rw [List.head?_eq_getElem?,List.getElem?_eq_getElem hj] at h0;exact (Option.some.inj h0).symm
 | 0,j+1,_,hn=>by omega
 | n+1,j+1,hj,hn=>by
   obtain ⟨h1,h2,h3,h4⟩:=h.step (j+1) hj (by omega)
   obtain ⟨i,hi,hiF⟩:=List.mem_iff_getElem.1 h3;rw [List.length_take] at hi;rw [List.getElem_take] at hiF;have hij : i<j+1:=by omega
   obtain ⟨l,w1,w2,w3⟩:=h.way n i (by omega) (by omega)
   have hne : ∀ (k m : Nat) (hk : k<D.length) (hm : m<D.length),k≠m->D[k]≠D[m]:=λ k m hk hm hkm he=>by
    rcases Nat.lt_or_ge k m with hlt | hge
    .exact List.pairwise_iff_getElem.1 h.nodup k m hk hm hlt he
    .exact List.pairwise_iff_getElem.1 h.nodup m k hm hk (by omega) he.symm
   have hnot : D[j+1]∉D.take (i+1):=λ hm=>by
    obtain ⟨k,hk,hkD⟩:=List.mem_iff_getElem.1 hm;rw [List.length_take] at hk;rw [List.getElem_take] at hkD;exact hne k (j+1) (by omega) hj (by omega) hkD
   have hup : ∀ x,x∈D.take (i+1)->x∈D.take (j+1+1):=λ x hx=>(List.take_sublist_take_left (by omega : i+1<=j+1+1)).subset hx
   have h0 : D[j+1]≠0:=λ he=>by
    have hz:=h.zero;rw [List.head?_eq_getElem?,List.getElem?_eq_getElem (by omega)] at hz
    exact hne 0 (j+1) (by omega) hj (by omega) ((Option.some.inj hz).trans he.symm)
   refine ⟨l++[by_ D[j+1]],?_,?_,λ s hs=>?_⟩
   .have:=WayS.snoc (s:=by_ D[j+1]) w1 h1 hiF.symm
    rw [h2] at this;exact this
   .rw [List.map_append,List.nodup_append]
    refine ⟨w2,by simp,λ a ha b hb=>?_⟩
    obtain ⟨t,ht,rfl⟩:=List.mem_map.1 ha;simp only [List.map_cons,List.map_nil,List.mem_singleton] at hb;subst hb;intro he;obtain ⟨_,_,_,_,q1,q2⟩:=w3 t ht;rcases zr0 (A:=A) he with ⟨e1,e2⟩ | ⟨e1,e2⟩
    .rw [e2,h2] at q2
     exact hnot q2
    .rw [e1,h2] at q1
     exact hnot q1
   .rcases List.mem_append.1 hs with hs | hs
    .obtain ⟨p1,p2,p3,p4,p5,p6⟩:=w3 s hs
     exact ⟨p1,p2,p3,p4,hup _ p5,hup _ p6⟩
    .rw [List.mem_singleton] at hs
     subst hs;refine ⟨h1,h4,by rw [h2],by rw [h2]; exact h0,?_,?_⟩
     .exact (List.take_sublist_take_left (by omega : j+1<=j+1+1)).subset h3
     .rw [h2]
      refine List.mem_iff_getElem.2 ⟨j+1,by rw [List.length_take]; omega,by rw [List.getElem_take]⟩
def zgA (A : List Ed) (f D : List Int) : Prop:=∀ s : Stp,s.1<A.length->stF A s∈D->0<zca A f s->stT A s∈D
theorem ziF {N : Nat} {A : List Ed} {f D : List Int} (hn : zfO N A) (hf : zaJ N A f) (h0 : (0 : Int)∈D) (h1 : (1 : Int)∉D) (hc : zgA A f D) : valF A f=capS (λ x=>decide (x∈D)) A /\ ∀ f',zaJ N A f'->valF A f'<=valF A f:=by
 have e:=ztp (S:=λ x=>decide (x∈D)) hn hf (by simpa using h0) (by simpa using h1) λ s hs hF hr=>by
  have:=hc s hs (by simpa using hF) hr
  simpa using this
 refine ⟨e,λ f' hf'=>?_⟩;rw [e];exact zfH hn hf' (by simpa using h0) (by simpa using h1)
theorem znX {N : Nat} {A : List Ed} {f D : List Int} {by_ : Int->Stp} (hn : zfO N A) (hf : zaJ N A f) (ht : zv9 A f D by_) {S : Int->Bool} (h0 : S 0=true) (h1 : S 1=false) (hS : capS S A=valF A f) : ∀ x∈D,S x=true:=by
 have hv:=zo7 hn hf h0 h1;have ho:=zsa hf.fit S;have hi:=zkN hf.fit S;have ho2 : outS S A f=capS S A:=by omega
 have hi2 : inS S A f=0:=by omega
 have key : ∀ {A : List Ed} {f : List Int},Fit2 A f->outS S A f=capS S A->inS S A f=0 -> ∀ s : Stp,s.1<A.length->S (stF A s)=true->0<zca A f s->S (stT A s)=true:=by
  intro A
  induction A with
  | nil=>intro f _ _ _ s hs; simp at hs
  | cons e A ih =>
    intro f hf ho hi s hs hF hr
    cases f with
    | nil=>exact hf.elim
    | cons v f =>
      have k1:=zsa hf.2 S;have k2:=zkN hf.2 S;have hv:=hf.1;have e1 : outS S (e::A) (v::f)=(if S e.f=true/\S e.t=false then v else 0)+outS S A f:=rfl
      have e2 : inS S (e::A) (v::f)=(if S e.f=false/\S e.t=true then v else 0)+inS S A f:=rfl
      have e3 : capS S (e::A)=(if S e.f=true/\S e.t=false then e.v else 0)+capS S A:=rfl
      rw [e1,e3] at ho;rw [e2] at hi;obtain ⟨i,b⟩:=s
      cases i with
      | zero =>
        cases b
        .simp [stF,stT,zca,arcD] at hF hr ⊢
         cases hT : S e.t
         .simp [hF,hT] at ho
          omega
         .rfl
        .simp [stF,stT,zca,arcD] at hF hr ⊢
         cases hT : S e.f
         .simp [hF,hT] at hi
          omega
         .rfl
      | succ i =>
        have q1 : outS S A f=capS S A:=by
         split at ho <;> omega
        have q2 : inS S A f=0:=by
         split at hi <;> omega
        have:=ih hf.2 q1 q2 (i,b) (by simpa using hs) (by simpa [stF,arcD] using hF) (by simpa [zca,arcD] using hr)
        simpa [stT,arcD] using this
 have hcl:=key hf.fit ho2 hi2
 have hind : ∀ (n j : Nat) (hj : j<D.length),j<=n->S D[j]=true:=by
  intro n
  induction n with
  | zero =>
    intro j hj hn;have hj0 : j=0:=by omega
    subst hj0;have hz:=ht.zero;rw [List.head?_eq_getElem?,List.getElem?_eq_getElem hj] at hz;rw [Option.some.inj hz];exact h0
  | succ n ih =>
    intro j hj hn;rcases Nat.eq_zero_or_pos j with hj0 | hj0
    .exact ih j hj (by omega)
    .obtain ⟨q1,q2,q3,q4⟩:=ht.step j hj hj0
     obtain ⟨i,hi,hiF⟩:=List.mem_iff_getElem.1 q3;rw [List.length_take] at hi;rw [List.getElem_take] at hiF;have:=hcl _ q1 (by rw [<- hiF]; exact ih i (by omega) (by omega)) q4
     rw [q2] at this;exact this
 intro x hx;obtain ⟨j,hj,rfl⟩:=List.mem_iff_getElem.1 hx;exact hind j j hj (Nat.le_refl _)
def WayA (A : List Ed) : Int->List Nat->Int->Prop
 | u,[],w=>u=w
 | u,i::l,w=>i<A.length/\(arcD A i).f=u/\WayA A (arcD A i).t l w
theorem WayA.snoc {A : List Ed} : ∀ {l : List Nat} {u w : Int} {i : Nat},WayA A u l w->i<A.length->(arcD A i).f=w->WayA A u (l++[i]) (arcD A i).t
 | [],u,w,i,h,h1,h2=>⟨h1,by rw [h2]; exact (show u=w from h).symm,rfl⟩
 | j::l,u,w,i,h,h1,h2=>⟨h.1,h.2.1,WayA.snoc h.2.2 h1 h2⟩
def metA (A : List Ed) (l : List Nat) : List Int:=l.map λ i=>(arcD A i).t
theorem zuy (A : List Ed) (l : List Nat) (i : Nat) : metA A (l++[i])=metA A l++[(arcD A i).t]:=by simp [metA]
theorem WayA.take {A : List Ed} : ∀ {l : List Nat} {u w : Int} (n : Nat),WayA A u l w -> ∀ x,(u::metA A l)[n]? = some x->WayA A u (l.take n) x
 | l,u,w,0,_,x,hx=>by
   have : u=x:=by simpa using hx
   exact this
 | [],u,w,n+1,_,x,hx=>by simp [metA] at hx
 | i::l,u,w,n+1,h,x,hx=>by
   refine ⟨h.1,h.2.1,WayA.take n h.2.2 x ?_⟩
   simpa [metA] using hx
theorem zow (l : List Nat) (n i : Nat) : (l.take n).count i<=l.count i:=(List.take_sublist n l).count_le i
structure zmw (A : List Ed) (f g : List Int) (l : List Nat) (w : Int) : Prop where
 len : g.length=A.length
 nonneg : ∀ i,0<=g.getD i 0
 way : WayA A 0 l w
 met : ((0 : Int)::metA A l).Nodup
 used : ∀ i,g.getD i 0+(l.count i : Int)<=f.getD i 0
 ex : ∀ x,exF A g x=exF A f x - (if x=0 then 1 else 0)+if x=w then 1 else 0
theorem zmw.start {A : List Ed} {f : List Int} (hl : f.length=A.length) (h0 : ∀ i,0<=f.getD i 0) : zmw A f f [] 0 :=
 ⟨hl,h0,rfl,by simp [metA],λ i=>by simp,λ x=>by split <;> omega⟩
theorem zs6 (f : List Int) (i j : Nat) (v : Int) (h : i<f.length) : (f.set i v).getD j 0=if i=j then v else f.getD j 0:=by
 by_cases hj : i=j
 .subst hj
  rw [if_pos rfl,List.getD_eq_getElem?_getD,List.getElem?_set_self h,Option.getD_some]
 .rw [if_neg hj,List.getD_eq_getElem?_getD,List.getElem?_set_ne hj,List.getD_eq_getElem?_getD]
theorem zmw.more {A : List Ed} {f g : List Int} {l : List Nat} {w : Int} (h : zmw A f g l w) {k : Nat} (hk : k<A.length) (hf : (arcD A k).f=w) (hg : 0<g.getD k 0) :
  ((arcD A k).t∉((0 : Int)::metA A l)->zmw A f (g.set k (g.getD k 0 - 1)) (l++[k]) (arcD A k).t) /\
  ∀ n,((0 : Int)::metA A l)[n]? = some (arcD A k).t->zmw A f (g.set k (g.getD k 0 - 1)) (l.take n) (arcD A k).t:=by
 have hkl : k<g.length:=by rw [h.len]; exact hk
 have hnn : ∀ i,0<=(g.set k (g.getD k 0 - 1)).getD i 0:=λ i=>by
  rw [zs6 g k i _ hkl];split
  .omega
  .exact h.nonneg i
 have hex : ∀ x,exF A (g.set k (g.getD k 0 - 1)) x=exF A f x - (if x=0 then 1 else 0)+if x=(arcD A k).t then 1 else 0:=λ x=>by
  have h1:=zs2 (A:=A) (f:=g) (δ:=-1) (s:=(k,false)) hk h.len x;have h2 : zji (-1) g (k,false)=g.set k (g.getD k 0 - 1):=rfl;have h3 : stF A (k,false)=w:=hf;have h4 : stT A (k,false)=(arcD A k).t:=rfl;rw [h2,h3,h4,h.ex x] at h1;rw [h1]
  have e1 : (if w=x then (-1 : Int) else 0) = - if x=w then 1 else 0:=by
   by_cases hh : w=x
   .rw [if_pos hh,if_pos hh.symm]
   .rw [if_neg hh,if_neg λ e=>hh e.symm,Int.neg_zero]
  have e2 : (if (arcD A k).t=x then (-1 : Int) else 0) = - if x=(arcD A k).t then 1 else 0:=by
   by_cases hh : (arcD A k).t=x
   .rw [if_pos hh,if_pos hh.symm]
   .rw [if_neg hh,if_neg λ e=>hh e.symm,Int.neg_zero]
  rw [e1,e2];omega
 have hus : ∀ i,(g.set k (g.getD k 0 - 1)).getD i 0+((l++[k]).count i : Int)<=f.getD i 0:=λ i=>by
  have h1:=h.used i;rw [zs6 g k i _ hkl,List.count_append]
  by_cases hi : k=i
  .subst hi
   rw [if_pos rfl,show List.count k [k]=1 by simp]
   omega
  .rw [if_neg hi,show List.count i [k]=0 from List.count_eq_zero.2 (by simpa using λ e=>hi e.symm)]
   omega
 refine ⟨λ hm=>⟨by rw [List.length_set]; exact h.len,hnn,h.way.snoc hk hf,?_,hus,hex⟩,λ n hn=>⟨by rw [List.length_set]; exact h.len,hnn,h.way.take n _ hn,?_,λ i=>?_,hex⟩⟩
 .rw [zuy,<- List.cons_append,List.nodup_append]
  exact ⟨h.met,by simp,λ a ha b hb=>by rw [List.mem_singleton] at hb; subst hb; rintro rfl; exact hm ha⟩
 .have hs : ((0 : Int)::metA A (l.take n)).Sublist ((0 : Int)::metA A l):=((List.take_sublist n l).map _).cons_cons 0
  exact h.met.sublist hs
 .have h1:=hus i
  have h2 : (l.take n).count i<=(l++[k]).count i:=Nat.le_trans (zow l n i) (by rw [List.count_append]; omega)
  omega
theorem zac {α β : Type} (f : α->β) (l : List α) : List.take l.length (List.map f l)=List.map f l:=List.take_of_length_le (by simp)
def zcK : Gr:=⟨0,[],[]⟩
def zmu (g : Gr) (e : Ed) : Gr:=⟨g.size,g.edges.take (idxE g.edges ⟨e.f,e.t,0⟩)++e::g.edges.drop (idxE g.edges ⟨e.f,e.t,0⟩),g.gone⟩
open Classical in
noncomputable def zdC (g : Gr) (e : Ed) : Gr × Int :=
 if ¬ GrOk g then (zcK,14) else if ¬ Fits g e then (zcK,4) else if ¬ (1<=e.v/\e.v<=3) then (zcK,2)
 else if AtE g.edges (idxE g.edges ⟨e.f,e.t,0⟩) e.f e.t then (zcK,19) else if g.edges.length=500 then (zcK,3) else (zmu g e,0)
open Classical in
theorem zjH (g : Gr) (e : Ed) (hl : g.edges.length*24<=140737488355328) (hl2 : g.gone.length*8<=140737488355328) : zaj Tryz.prog zhA [eG g,eE e] [] (.tup [eG (zdC g e).1,.I (zdC g e).2]) []:=by
 refine zsq.ac ?_;show awp _ 0 _ _ ⟨103,[(0,eG g),(1,eE e)],[],16⟩;refine zaa ⟨103,[(2,.pv (gC g)),(3,.pv (eC e)),(4,.pt 32 0 0)],[(32,some ⟨3,[[.I 0,.nilS,.nilS]],0⟩)],40⟩ rfl ?_ ?_
 .simp
  exact Le.var1 32 [16,24] rfl rfl (nbz rfl) (by decide) rfl (by simp) (by simp) (by simp)
 refine zab ?_;refine zab ?_;refine zar (s:=?s1) rfl ?o1 ?q1
 case o1=>simp; refine zap (zjd g (by omega) (by omega)) rfl ?_; simp; rfl
 refine zad _ rfl (λ h2=>?_) λ h2=>?_
 .have hg : ¬ GrOk g:=by
   intro hg;simp [hg] at h2
  refine zab ?_;refine zan ?_;refine zai ?_;refine ⟨.inr rfl,?_⟩;show zao [(4,some (true,3)),(5,none)] 0 _ _ _;refine zao.out (vs:=[.agg [.I 0,.nilS,.nilS],.I 14]) [] [] (by simp) (by simp) (by simp) ?_ (by simp)
  have hr : zdC g e=(zcK,14):=by grind [zdC]
  simp [hr,zcK];exact wkT2 (wkA3 (.refl _) (.nil _ _) (.nil _ _)) (.refl _)
 have hg : GrOk g:=by
  rcases Classical.em (GrOk g) with h | h
  .exact h
  .simp [h] at h2
 refine zae ?_;refine zab ?_;refine zar (s:=?s4) rfl ?o4 ?q4
 case o4=>simp; refine zap (znH g _ _ (by omega)) rfl ?_; simp; rfl
 refine zab ?_;refine zaf ?_;refine zaa ⟨103,[(2,.pv (gC g)),(3,.pv (eC e)),(4,.pt 32 0 0),(6,.I (idxE g.edges ⟨e.f,e.t,0⟩)),(7,.B (decide (AtE g.edges (idxE g.edges ⟨e.f,e.t,0⟩) e.f e.t))),(22,.B (decide (¬ Fits g e)))],[(32,some ⟨3,[[.I 0,.nilS,.nilS]],0⟩)],40⟩ rfl ?_ ?_
 .simp
  repeat' first
   | (refine zf4 zbs rfl ?_; refine zap (znd _ _ (by omega)) rfl ?_; simp)
   | (refine zem (λ hb=>?_) (λ hb=>?_) <;> (try rw [hb]) <;> (try simp at hb) <;> simp [*])
  all_goals exact Le.var1 32 [] rfl rfl (nbz rfl) (by decide) rfl (by simp) (by simp) (by simp <;> exact wkB (by (try simp at *); grind [Fits]))
 refine zad _ rfl (λ h5=>?_) λ h5=>?_
 .try simp at h5
  refine zab ?_;refine zan ?_;refine zai ?_;refine ⟨.inr rfl,?_⟩;show zao [(4,some (true,3)),(5,none)] 0 _ _ _;refine zao.out (vs:=[.agg [.I 0,.nilS,.nilS],.I 4]) [] [] (by simp) (by simp) (by simp) ?_ (by simp)
  have hr : zdC g e=(zcK,4):=by grind [zdC]
  simp [hr,zcK];exact wkT2 (wkA3 (.refl _) (.nil _ _) (.nil _ _)) (.refl _)
 try simp at h5
 refine zaa ⟨103,[(2,.pv (gC g)),(3,.pv (eC e)),(4,.pt 32 0 0),(6,.I (idxE g.edges ⟨e.f,e.t,0⟩)),(7,.B (decide (AtE g.edges (idxE g.edges ⟨e.f,e.t,0⟩) e.f e.t))),(67,.B (decide (¬ (1<=e.v/\e.v<=3))))],[(32,some ⟨3,[[.I 0,.nilS,.nilS]],0⟩)],40⟩ rfl ?_ ?_
 .simp
  repeat' first
   | (refine zem (λ hb=>?_) (λ hb=>?_) <;> (try rw [hb]) <;> (try simp at hb) <;> simp [*])
  all_goals exact Le.var1 32 [] rfl rfl (nbz rfl) (by decide) rfl (by simp) (by simp) (by simp <;> exact wkB (by (try simp at *); grind [Fits]))
 refine zad _ rfl (λ h7=>?_) λ h7=>?_
 .try simp at h7
  refine zab ?_;refine zan ?_;refine zai ?_;refine ⟨.inr rfl,?_⟩;show zao [(4,some (true,3)),(5,none)] 0 _ _ _;refine zao.out (vs:=[.agg [.I 0,.nilS,.nilS],.I 2]) [] [] (by simp) (by simp) (by simp) ?_ (by simp)
  have hr : zdC g e=(zcK,2):=by grind [zdC]
  simp [hr,zcK];exact wkT2 (wkA3 (.refl _) (.nil _ _) (.nil _ _)) (.refl _)
 try simp at h7
 refine zab ?_;refine zan ?_;refine zad _ rfl (λ h10=>?_) λ h10=>?_
 .try simp at h10
  refine zab ?_;refine zan ?_;refine zai ?_;refine ⟨.inr rfl,?_⟩;show zao [(4,some (true,3)),(5,none)] 0 _ _ _;refine zao.out (vs:=[.agg [.I 0,.nilS,.nilS],.I 19]) [] [] (by simp) (by simp) (by simp) ?_ (by simp)
  have hr : zdC g e=(zcK,19):=by grind [zdC]
  simp [hr,zcK];exact wkT2 (wkA3 (.refl _) (.nil _ _) (.nil _ _)) (.refl _)
 try simp at h10
 refine zab ?_;refine zan ?_;refine zad _ rfl (λ h13=>?_) λ h13=>?_
 .try simp at h13
  refine zab ?_;refine zan ?_;refine zai ?_;refine ⟨.inr rfl,?_⟩;show zao [(4,some (true,3)),(5,none)] 0 _ _ _;refine zao.out (vs:=[.agg [.I 0,.nilS,.nilS],.I 3]) [] [] (by simp) (by simp) (by simp) ?_ (by simp)
  have hr : zdC g e=(zcK,3):=by grind [zdC]
  simp [hr,zcK];exact wkT2 (wkA3 (.refl _) (.nil _ _) (.nil _ _)) (.refl _)
 try simp at h13
 refine zae ?_;have hle:=zuP g.edges ⟨e.f,e.t,0⟩;refine zab ?_;refine zar (s:=?s20) rfl ?o20 ?q20
 case o20=>simp; refine zql (zhh g hl hl2) rfl ?_; simp [fcd]; rfl
 have h500 : g.edges.length<=500:=hg.1.2.2.1;have hmin : min (idxE g.edges ⟨e.f,e.t,0⟩) g.edges.length=idxE g.edges ⟨e.f,e.t,0⟩:=Nat.min_eq_left hle;have hr : zdC g e=(zmu g e,0):=by grind [zdC]
 rw [hr];unfold zmu;generalize idxE g.edges ⟨e.f,e.t,0⟩=k at *;have htk : List.take (k+1) (List.take k (List.map (λ e : Ed=>[AV.I e.f,AV.I e.t,AV.I e.v]) g.edges)++[[AV.I e.f,AV.I e.t,AV.I e.v]])=List.take k (List.map (λ e : Ed=>[AV.I e.f,AV.I e.t,AV.I e.v]) g.edges)++[[AV.I e.f,AV.I e.t,AV.I e.v]]:=List.take_of_length_le (by simp; exact Nat.min_le_left _ _)
 obtain ⟨E,hE⟩ : ∃ E,E=g.edges.take k++e::g.edges.drop k:=⟨_,rfl⟩;have hEl : k+1+(g.edges.length - k)=E.length:=by subst hE; simp; omega
 have hrows : List.take k (List.map (λ e : Ed=>[AV.I e.f,AV.I e.t,AV.I e.v]) g.edges)++[AV.I e.f,AV.I e.t,AV.I e.v]::List.drop k (List.map (λ e : Ed=>[AV.I e.f,AV.I e.t,AV.I e.v]) g.edges)=E.map λ e : Ed=>[AV.I e.f,AV.I e.t,AV.I e.v]:=by subst hE; simp [List.map_take,List.map_drop]
 rw [<- hE];refine zab ?_;refine zgu (s:=?s15) (tr:=?t15) rfl ?o15 ?r15 ?q15
 case o15 =>
  simp [hmin,hle,htk,hEl,hrows]
  repeat' apply And.intro
  all_goals first | omega | rfl
 case r15=>rfl
 refine zab ?_;refine zan ?_;refine zai ?_;refine ⟨.inr rfl,?_⟩;show zao [(4,some (true,3)),(5,none)] 0 _ _ _;refine zao.out (vs:=[.agg [.I g.size,.rs 224 0 E.length,.rs 105 0 g.gone.length],.I 0]) [] [224,105] (by simp) (by simp) (by simp) ?_ (by simp)
 simp [fcd,zac]
end Go.Proofs.YtkngdgplbojdlaaGreat
namespace Go.Proofs
open Go.Shelf
def Tryz.lays189_ren : Go.Shelf.Ren:=⟨fun | 189=>130 | 125=>113 | 257=>167 | 128=>154 | 129=>155 | 294=>188 | 295=>189 | 296=>190 | 297=>191 | 298=>192 | 299=>193 | 216=>194 | 300=>195 | 301=>196 | 328=>205 | 329=>181 | 330=>182 | 331=>206 | 332=>207 | 215=>114 | 343=>218 | n=>n,fun | 28=>22 | 3=>3 | 46=>134 | 0=>0 | 51=>175 | 53=>158 | 4=>4 | 183=>169 | 182=>168 | 131=>100 | 5=>5 | 9=>9 | 218=>198 | 222=>202 | 228=>214 | 229=>183 | n=>n,fun | n=>n⟩
theorem Tryz.lays189 : Go.Proofs.Lays.n189 Tryz.prog Tryz.lays189_ren:={
 mixed:=by kernel_rfl
 f125:=Tryz.func113.trans (congrArg some (by kernel_rfl))
 f128:=Tryz.func154.trans (congrArg some (by kernel_rfl))
 f129:=Tryz.func155.trans (congrArg some (by kernel_rfl))
 f189:=Tryz.func130.trans (congrArg some (by kernel_rfl))
 f215:=Tryz.func114.trans (congrArg some (by kernel_rfl))
 f216:=Tryz.func194.trans (congrArg some (by kernel_rfl))
 f257:=Tryz.func167.trans (congrArg some (by kernel_rfl))
 f294:=Tryz.func188.trans (congrArg some (by kernel_rfl))
 f295:=Tryz.func189.trans (congrArg some (by kernel_rfl))
 f296:=Tryz.func190.trans (congrArg some (by kernel_rfl))
 f297:=Tryz.func191.trans (congrArg some (by kernel_rfl))
 f298:=Tryz.func192.trans (congrArg some (by kernel_rfl))
 f299:=Tryz.func193.trans (congrArg some (by kernel_rfl))
 f300:=Tryz.func195.trans (congrArg some (by kernel_rfl))
 f301:=Tryz.func196.trans (congrArg some (by kernel_rfl))
 f328:=Tryz.func205.trans (congrArg some (by kernel_rfl))
 f329:=Tryz.func181.trans (congrArg some (by kernel_rfl))
 f330:=Tryz.func182.trans (congrArg some (by kernel_rfl))
 f331:=Tryz.func206.trans (congrArg some (by kernel_rfl))
 f332:=Tryz.func207.trans (congrArg some (by kernel_rfl))
 f343:=Tryz.func218.trans (congrArg some (by kernel_rfl))
 t0:=Tryz.underlying0
 a0:=Tryz.isAgg0
 z0:=Tryz.sizeOf0
 v0:=Tryz.zeroValue0
 t3:=Tryz.underlying3
 a3:=Tryz.isAgg3
 z3:=Tryz.sizeOf3
 v3:=Tryz.zeroValue3
 t4:=Tryz.underlying4
 a4:=Tryz.isAgg4
 z4:=Tryz.sizeOf4
 v4:=Tryz.zeroValue4
 t5:=Tryz.underlying5
 a5:=Tryz.isAgg5
 z5:=Tryz.sizeOf5
 v5:=Tryz.zeroValue5
 t9:=Tryz.underlying9
 a9:=Tryz.isAgg9
 z9:=Tryz.sizeOf9
 v9:=Tryz.zeroValue9
 t28:=Tryz.underlying22
 a28:=Tryz.isAgg22
 z28:=Tryz.sizeOf22
 v28:=Tryz.zeroValue22
 t46:=Tryz.underlying134
 a46:=Tryz.isAgg134
 z46:=Tryz.sizeOf134
 v46:=Tryz.zeroValue134
 t51:=Tryz.underlying175
 a51:=Tryz.isAgg175
 z51:=Tryz.sizeOf175
 v51:=Tryz.zeroValue175
 t53:=Tryz.underlying158
 a53:=Tryz.isAgg158
 z53:=Tryz.sizeOf158
 v53:=Tryz.zeroValue158
 t131:=Tryz.underlying100
 a131:=Tryz.isAgg100
 z131:=Tryz.sizeOf100
 v131:=Tryz.zeroValue100
 t182:=Tryz.underlying168
 a182:=Tryz.isAgg168
 z182:=Tryz.sizeOf168
 v182:=Tryz.zeroValue168
 t183:=Tryz.underlying169
 a183:=Tryz.isAgg169
 z183:=Tryz.sizeOf169
 v183:=Tryz.zeroValue169
 t218:=Tryz.underlying198
 a218:=Tryz.isAgg198
 z218:=Tryz.sizeOf198
 v218:=Tryz.zeroValue198
 t222:=Tryz.underlying202
 a222:=Tryz.isAgg202
 z222:=Tryz.sizeOf202
 v222:=Tryz.zeroValue202
 t228:=Tryz.underlying214
 a228:=Tryz.isAgg214
 z228:=Tryz.sizeOf214
 v228:=Tryz.zeroValue214
 t229:=Tryz.underlying183
 a229:=Tryz.isAgg183
 z229:=Tryz.sizeOf183
 v229:=Tryz.zeroValue183 }
end Go.Proofs
namespace Go.Proofs.YtkngdgplbojdlaaGreat
open Go
def zgc (l : List Int) : List (List AV):=l.map λ n=>[AV.I n]
theorem Src.body {P : Program} {f : FuncId} {af : AFun} (s : Src P f af) : ∃ fn c,P.funcs[f]? = some fn/\fn.body=some c/\fn.name ≠ "runtime.NumGoroutine":=by
 obtain ⟨_,fn,hf,hc,hn⟩:=s;unfold zu4 at hc
 cases hb : fn.body with
 | none=>rw [hb] at hc; cases hc
 | some c=>exact ⟨fn,c,hf,hb,hn⟩
theorem zvC (zs : List Int) (h0 : zs≠[]) (hl : zs.length<4611686018427387904) :
  zaj Tryz.prog zaX [.rs 0 0 zs.length] [{ s:=1,rows:=zgc zs }] (.tup []) ([{ s:=1,rows:=zgc (zs.mergeSort λ x y=>decide (x<=y)) }].map some):=by
 refine ⟨zbS.body,by simp,λ T M w vs htok hhs hdom hrep=>?_⟩
 have hpos : 0<zs.length:=List.length_pos_iff.2 h0;obtain ⟨hsz,hr⟩:=hrep;have hr0:=hr 0 (by simp)
 simp only [List.getD_cons_zero] at hr0
 have hvs : vs = #[vs.getD 0 undef]:=by
  apply Array.ext
  .simpa using hsz
  .intro i h1 h2
   have : i=0:=by simp at h2; omega
   subst this;simp [Array.getD,h1]
 rw [hvs];generalize vs.getD 0 undef=v at hr0
 cases hr0 with
 | rs _ _ _ _ cap a g hg hgz hlc hn hb =>
 obtain ⟨g',hg',ent⟩:=hhs.ent 0 _ rfl;rw [hg] at hg';obtain rfl:=Option.some.inj hg';have hrl : (zgc zs).length=zs.length:=by simp [zgc]
 cases hblk : g.blk with
 | none =>
   have:=ent.none hblk;simp [zgc] at this;exact absurd this h0
 | some b =>
 obtain ⟨hcap,c0,t0,f0,hc0,hle0⟩:=hb b hblk;obtain ⟨cells,ty,hw,htb,hlen,hrows⟩:=ent.blk (Nat.succ_ne_zero 0) b hblk
 have ha : a=some ⟨b,g.base+0*g.s,none⟩:=by
  rcases hcap with h | h
  .omega
  .exact h
 subst ha;simp only [Nat.zero_mul,Nat.add_zero] at *
 have hcell : ∀ i,(hi : i<zs.length)->cells[g.base+i]? = some (.int .i64 zs[i]):=by
  intro i hi;obtain ⟨u,hu,_,hru⟩:=hrows i 0 (by rw [hrl]; exact hi) (by decide)
  simp only [Nat.mul_one,Nat.add_zero] at hu;rw [hu];have : ((zgc zs).getD i []).getD 0 .dead = .I zs[i]:=by simp [zgc,List.getD,hi]
  rw [this] at hru
  cases hru;rfl
 have hb' : b<w.heap.size:=(Array.getElem?_eq_some_iff.1 hw).1;refine (Any.slices_Sort_int Tryz.lays189 b g.base cap zs w ?_ hb' hl).mono ?_
 .intro j hj
  have hj' : j<zs.length:=by simpa using hj
  constructor
  .show w.cell? _=_
   unfold World.cell?;simp only [hw];rw [hcell j hj'];simp [hj']
  .unfold World.frozen?
   simp only [hw];simp
 .rintro e w' ⟨rfl,n,os,rfl⟩
  have hsl : (zs.mergeSort λ x y=>decide (x<=y)).length=zs.length:=List.length_mergeSort zs;generalize (zs.mergeSort λ x y=>decide (x<=y))=ys at hsl
  have hh : ∀ b',b'<w.heap.size->(Go.Sort.grow (Go.Sort.putRow (Value.int .i64) (Go.Sort.ahead w n) b g.base ys.toArray) os).heap[b']? = if b'=b then some (.cells (Go.Sort.putCells (Value.int .i64) g.base ys.toArray cells) ty (0,0)) else w.heap[b']?:=by
   intro b' hb1;have hsz' : (w.heap.modify b (Go.Sort.onCells (Go.Sort.putCells (Value.int .i64) g.base ys.toArray))).size=w.heap.size:=Array.size_modify;show ((w.heap.modify b (Go.Sort.onCells (Go.Sort.putCells (Value.int .i64) g.base ys.toArray)))++os)[b']? = _;rw [Array.getElem?_append_left (by rw [hsz']; exact hb1),Array.getElem?_modify]
   by_cases hbb : b=b'
   .subst hbb
    rw [if_pos rfl,if_pos rfl,hw];rfl
   .rw [if_neg hbb,if_neg (Ne.symm hbb)]
  have hput : ∀ o,(o<g.base∨g.base+ys.length<=o)->(Go.Sort.putCells (Value.int .i64) g.base ys.toArray cells)[o]? = cells[o]?:=by
   intro o ho;unfold Go.Sort.putCells;rw [Array.getElem?_mapIdx]
   cases hc : cells[o]? with
   | none=>rfl
   | some u =>
     simp only [Option.map_some];rw [if_neg];simp;omega
  have hput2 : ∀ i,(hi : i<ys.length)->(Go.Sort.putCells (Value.int .i64) g.base ys.toArray cells)[g.base+i]? = some (.int .i64 ys[i]):=by
   intro i hi;unfold Go.Sort.putCells;rw [Array.getElem?_mapIdx,hcell i (by omega)]
   simp only [Option.map_some];rw [if_pos (by simp; omega)]
   simp [hi]
  have hcs : (Go.Sort.putCells (Value.int .i64) g.base ys.toArray cells).size=cells.size:=by
   unfold Go.Sort.putCells;exact Array.size_mapIdx
  have hbig : w.heap.size<=(Go.Sort.grow (Go.Sort.putRow (Value.int .i64) (Go.Sort.ahead w n) b g.base ys.toArray) os).heap.size:=by
   show w.heap.size<=((w.heap.modify b _)++os).size;rw [Array.size_append,Array.size_modify];omega
  have htb' : T b<=g.base:=by simpa using htb
  generalize hw' : (Go.Sort.grow (Go.Sort.putRow (Value.int .i64) (Go.Sort.ahead w n) b g.base ys.toArray) os)=w' at hh hbig;have hlt : ∀ b' o,w.heap[b']? = some o->b'<w.heap.size:=λ b' o h=>(Array.getElem?_eq_some_iff.1 h).1
  have hpr : Pres T w T w':=by
   refine ⟨λ _=>Nat.le_refl _,λ b' cs' ty' fz' h=>?_⟩;rw [hh b' (hlt _ _ h)]
   by_cases hbb : b'=b
   .subst hbb
    rw [hw] at h
    cases h;exact ⟨_,_,if_pos rfl,hcs,λ o ho=>hput o (.inl (by omega))⟩
   .exact ⟨cs',fz',by rw [if_neg hbb]; exact h,rfl,λ _ _=>rfl⟩
  rw [ziP];refine ⟨_,T,M,rfl,.tup M [] #[] rfl (λ i hi=>by simp at hi),⟨λ id e he=>?_,λ id id' e e' g1 g2 b' h1 h2 h3 h4 h5 h6=>?_⟩,⟨λ b' hb1=>?_,λ _ _ _=>rfl,λ _ _=>rfl,?_,?_,?_,hbig,λ b' hb1 hb2=>?_,hpr,λ k g1 b' hk hg1 _=>?_⟩⟩
  .have hid : id=0:=by
    cases id with
    | zero=>rfl
    | succ k=>simp [hpOf] at he
   subst hid;simp only [hpOf,List.getElem?_cons_zero,Option.some.injEq] at he;subst he;refine ⟨g,hg,⟨ent.s,Nat.zero_le _,λ _ row hr=>?_,λ hn=>(by rw [hblk] at hn; cases hn),λ hz=>absurd hz (Nat.succ_ne_zero 0),λ _ b' hb1=>?_⟩⟩
   .simp [zgc] at hr
    obtain ⟨x,_,rfl⟩:=hr;rfl
   .rw [hblk] at hb1
    obtain rfl:=Option.some.inj hb1;refine ⟨_,ty,by rw [hh _ hb',if_pos rfl],by simpa using htb',by simp [zgc,hcs,hsl]; simpa [zgc] using hlen,λ i j hi hj=>?_⟩
    have hi' : i<ys.length:=by simpa [zgc] using hi
    have hj' : j=0:=by simp at hj; omega
    subst hj';refine ⟨.int .i64 ys[i],by simpa using hput2 i hi',rfl,?_⟩
    have : ((zgc ys).getD i []).getD 0 .dead = .I ys[i]:=by simp [zgc,List.getD,hi']
    rw [this];exact .sc _ _ rfl
  .have h0 : ∀ id e,hpOf [({ s:=1,rows:=zgc ys } : Ent)] id=some e->id=0:=by
    intro id e he
    cases id with
    | zero=>rfl
    | succ k=>simp [hpOf] at he
   rw [h0 _ _ h1,h0 _ _ h2]
  .obtain ⟨c1,ty1,fz1,h1,h2⟩:=htok b' hb1
   obtain ⟨c2,fz2,h3,h4,_⟩:=hpr.cell b' c1 ty1 fz1 h1;exact ⟨c2,ty1,fz2,h3,by omega⟩
  .rw [<- hw']; rfl
  .rw [<- hw']; rfl
  .rw [<- hw']; rfl
  .rw [hh b' hb1,if_neg]
   intro hbb;exact hb2 ⟨0,g,by simp,hg,by rw [hblk,hbb]⟩
  .rw [hdom k hk] at hg1
   cases hg1
theorem zkz.refl {n : Nat} {T : Nat->Nat} {M : GM} {w : World} (htok : TOk T w) (hdom : ∀ k,n<=k->M k=none) : zkz n T M w T M w :=
 ⟨htok,λ _ _ _=>rfl,λ _ _=>rfl,rfl,rfl,rfl,Nat.le_refl _,λ _ _ _=>rfl,⟨λ _=>Nat.le_refl _,λ _ cells _ fz h=>⟨cells,fz,h,rfl,λ _ _=>rfl⟩⟩,λ k g b hk h=>by rw [hdom k hk] at h; cases h⟩
theorem arr1 {vs : Array Value} (h : vs.size=1) : vs = #[vs.getD 0 undef]:=by
 apply Array.ext
 .simpa using h
 .intro i h1 h2
  have : i=0:=by simp at h2; omega
  subst this;simp [Array.getD,h1]
theorem zuF (zs : List Int) (hl : zs.length<4611686018427387904) :
  zaj Tryz.prog zaX [.rs 0 0 zs.length] [{ s:=1,rows:=zgc zs }] (.tup []) ([{ s:=1,rows:=zgc (zs.mergeSort λ x y=>decide (x<=y)) }].map some):=by
 by_cases h0 : zs=[]
 .subst h0
  refine ⟨zbS.body,by simp,λ T M w vs htok hhs hdom hrep=>?_⟩
  obtain ⟨hsz,hr⟩:=hrep;have hr0:=hr 0 (by simp)
  simp only [List.getD_cons_zero] at hr0;rw [arr1 hsz];generalize vs.getD 0 undef=v at hr0
  cases hr0 with
  | rs _ _ _ _ cap a g hg hgz hlc hn hb =>
  refine (Any.slices_Sort_int_none Tryz.lays189 a cap w).mono ?_
  rintro e w' ⟨rfl,rfl⟩
  exact ⟨_,T,M,rfl,.tup M [] #[] rfl (λ i hi=>by simp at hi),by rw [ziP]; simpa using hhs,zkz.refl htok hdom⟩
 .exact zvC zs h0 hl
end Go.Proofs.YtkngdgplbojdlaaGreat
