/- Texts of this claim,merged. -/
import Derived.Test.YtklclphfcibagaaGreatRb5
import Derived.Test.YtklclphfcibagaaGreatRb3
set_option linter.unusedSimpArgs false
set_option linter.unusedVariables false
set_option linter.unusedSectionVars false
set_option maxRecDepth 100000
set_option maxHeartbeats 8000000
noncomputable section
namespace Go.Proofs.YtklclphfcibagaaGreat
open Go
theorem I4 (s:AJ) (h1:s.li.length<=1000000) (h2:s.pi.length<=1000000):AK 83 [eS s] [] (eS s) []:=by
 refine WO.s.ac ?_;show AQ _ 0 _ _ ⟨12,[(0,eS s)],[],16⟩;refine AC (Ad ?_);refine AC (BA (s:=?s1) rfl ?o1 ?q1)
 case o1=>simp[AZ];repeat' apply And.intro
          all_goals first | omega | rfl
 refine AC (BA (s:=?s2) rfl ?o2 ?q2)
 case o2=>simp[AZ];repeat' apply And.intro
          all_goals first | omega | rfl
 refine AC (BA (s:=?s3) rfl ?o3 ?q3)
 case o3=>simp[AZ];rfl
 refine AO ⟨.inr rfl,?_⟩;show AG [(2,some (true,13))] 0 _ _ _;refine AG.out (vs:=[.agg [.I s.au,.I s.nu,.sc (.string s.pr),.I s.ti,.I s.ki,.I s.a,.I s.b,.I s.c,.rs 48 0 s.li.length,.rs 88 0 s.pi.length,.sc (.string s.bo),.I s.sk,.sc (.string s.sd)]]) [] [48,88] zz zz zz ?_ zz
 simp[AB,CI]
theorem Xq (s:AJ) (hs:BJ s):AK 74 [eS s] [] (eS { s with sk:=s.au,sd:=Bk s }) []:=by
 refine cG.s.ac ?_;show AQ _ 0 _ _ ⟨12,[(0,eS s)],[],16⟩;have q:=hs.2.2.1;have u:=hs.2.2.2.1;refine AC (Ad ?_);refine AC (BA (s:=?s1) rfl ?o1 ?q1)
 case o1=>simp;refine AT (I4 s zy zy) zz ?_;simp[AZ];rfl
 refine AC (IC (s:=?s2) (tr:=?t2) rfl ?o2 ?r2 ?q2)
 case o2=>simp;refine AT (L6 s hs) zz ?_;simp[AZ];constructor<;>rfl
 case r2=>rfl
 refine AC (BA (s:=?s3) rfl ?o3 ?q3)
 case o3=>simp[AZ];rfl
 refine AO ⟨.inr rfl,?_⟩;show AG [(2,some (true,13))] 0 _ _ _;refine AG.out (vs:=[eS { s with sk:=s.au,sd:=Bk s }]) [] [] zz zz zz ?_ zz
 simp
theorem Hw (s:AJ) (hs:BJ s):AK 72 [eS s] [] (.B (decide (s.sk=s.au/\s.sd.toList=(Bk s).toList))) []:=by
 refine XY.s.ac ?_;show AQ _ 0 _ _ ⟨17,[(0,eS s)],[],16⟩;refine arc ⟨17,[(1,.pv (sC s))],[],32⟩ ?_ ?_
 .simp
  exact AM [16] zz
 refine BM ⟨17,[(2,.B (decide (s.sk=s.au/\s.sd.toList=(Bk s).toList)))],[],152⟩ ?_ ?_
 .by_cases c:s.sk=s.au
  .have c':(s.sk == s.au)=true:=by simp[c]
   simp[c'];refine Ay (L6 s hs) ?_;simp;exact⟨rfl,AM [] (by simp<;>exact An (by rw[Qk];simp[c]))⟩
  .have c':(s.sk == s.au)=false:=by simp[c]
   simp[c'];exact⟨rfl,AM [] (by simp[c])⟩
 exact Bv
def MA (s:AJ):Prop:=s.li.length<=64/\s.pi.length<=64/\s.bo.size<=4096
def Rg (s:AJ):Prop:=(s.nu=0->s.pr.toList=[])/\(0<s.nu->s.pr.size=32)/\Ix s.pi
def K6 (s:AJ):Prop:=s.ki<=3->s.li.length=0/\s.pi.length=0/\s.bo.toList=[]
def MO (s:AJ):Prop:=1<=s.ki/\(s.ki<=3∨10<=s.ki)/\s.ki<=31
def LK (s:AJ):Prop:=0<=s.au/\s.au<64
def MB (s:AJ):Prop:=0<=s.ti/\s.ti<=2147483648
instance (s:AJ):Decidable (LK s):=by unfold LK;infer_instance
instance (s:AJ):Decidable (MB s):=by unfold MB;infer_instance
instance (s:AJ):Decidable (MO s):=by unfold MO;infer_instance
instance (s:AJ):Decidable (MA s):=by unfold MA;infer_instance
instance (s:AJ):Decidable (K6 s):=by unfold K6;infer_instance
def DC (s:AJ):Prop:=LK s/\MO s/\MB s/\HM s/\MA s/\Rg s/\K6 s
def D7:Bool->Bool->Bool->Bool->Bool->Bool->Bool->Int
 | false,_,_,_,_,_,_=>4
 | _,false,_,_,_,_,_=>5
 | _,_,false,_,_,_,_=>9
 | _,_,_,false,_,_,_=>2
 | _,_,_,_,false,_,_=>3
 | _,_,_,_,_,false,_=>1
 | _,_,_,_,_,_,false=>1
 | true,true,true,true,true,true,true=>0
open Classical in
theorem Wh (s:AJ) (h1:s.li.length<=1000000) (h2:s.pi.length<=1000000) (b1 b2 b3 b4 b5 b6 b7:Bool) (ha:b1=decide (LK s)) (u:b2=decide (MO s)) (hb:b3=decide (MB s)) (hd:b4=decide (HM s)) (h6:b5=decide (MA s)) (q:b6=decide (Rg s)) (h0:b7=decide (K6 s)) :
  AK 71 [eS s] [] (.I (D7 b1 b2 b3 b4 b5 b6 b7)) []:=by
 refine eK.s.ac ?_;show AQ _ 0 _ _ ⟨100,[(0,eS s)],[],16⟩;refine arc ⟨100,[(1,.pv (sC s))],[],32⟩ ?_ ?_
 .simp
  exact AM [16] zz
 refine Bn (ι:=Unit) (λ _=>⟨100,[],[],1000⟩) (λ _=>b1=true/\b2=true/\b3=true/\b4=true/\b5=true/\b6=true/\b7=true) ?_ ?_
 .refine AI ?_
  have k1:=Np s.au;rw[show decide (0<=s.au/\s.au<64)=b1 by rw[ha];rfl] at k1
  refine arc ⟨100,[(1,.pv (sC s)),(3,.B (!b1))],[],72⟩ ?_ ?_
  .simp
   refine AT k1 rfl ?_;simp;exact AM [] zz
  refine AD _ rfl (λ h=>?_) λ h=>?_
  .obtain rfl:b1=false:=by simpa using h
   refine AC (Ad ?_);exact BG (AG.one (by simp[D7]))
  obtain rfl:b1=true:=by simpa using h
  clear h k1
  refine arc ⟨100,[(1,.pv (sC s)),(8,.B (!b2))],[],224⟩ ?_ ?_
  .by_cases c1:s.ki<1
   .have e:b2=false:=by rw[u];exact QE λ hq=>by have:=hq.1;omega
    simp[c1,e];exact AM [] zz
   by_cases c2:3<s.ki
   .by_cases c3:s.ki<10
    .have e:b2=false:=by rw[u];exact QE λ hq=>by have:=hq.2.1;omega
     simp[c1,c2,c3,e];exact AM [] zz
    .have e:b2=decide (s.ki<=31):=by
      rw[u,Qk,Qb,Qb];exact⟨λ hq=>hq.2.2,λ hq=>⟨zy,.inr zy,hq⟩⟩
     simp[c1,c2,c3,e];exact AM [] (by simp<;>exact An zt)
   .have e:b2=true:=by rw[u];exact Q7 ⟨zy,.inl zy,zy⟩
    have c4:¬ 31<s.ki:=zy
    simp[c1,c2,c4,e];exact AM [] zz
  refine AD _ rfl (λ h=>?_) λ h=>?_
  .obtain rfl:b2=false:=by simpa using h
   refine AC (Ad ?_);exact BG (AG.one (by simp[D7]))
  obtain rfl:b2=true:=by simpa using h
  clear h
  have k3:=JG s.ti 2147483648;rw[show decide (0<=s.ti/\s.ti<=2147483648)=b3 by rw[hb];rfl] at k3
  refine arc ⟨100,[(1,.pv (sC s)),(27,.B (!b3))],[],264⟩ ?_ ?_
  .simp
   refine AT k3 rfl ?_;simp;exact AM [] zz
  refine AD _ rfl (λ h=>?_) λ h=>?_
  .obtain rfl:b3=false:=by simpa using h
   refine AC (Ad ?_);exact BG (AG.one (by simp[D7]))
  obtain rfl:b3=true:=by simpa using h
  clear h k3
  have k4:=iD s h1;rw[show decide (HM s)=b4 by rw[hd]] at k4
  refine arc ⟨100,[(1,.pv (sC s)),(32,.B (!b4))],[],296⟩ ?_ ?_
  .simp
   refine Ay k4 ?_;simp;exact AM [] zz
  refine AD _ rfl (λ h=>?_) λ h=>?_
  .obtain rfl:b4=false:=by simpa using h
   refine AC (Ad ?_);exact BG (AG.one (by simp[D7]))
  obtain rfl:b4=true:=by simpa using h
  clear h k4
  refine arc ⟨100,[(1,.pv (sC s)),(36,.B (!b5))],[],432⟩ ?_ ?_
  .by_cases c1:(64:Int)<s.li.length
   .have e:b5=false:=by rw[h6];exact QE λ hq=>by have:=hq.1;omega
    simp[c1,e];exact AM [] zz
   by_cases c2:(64:Int)<s.pi.length
   .have e:b5=false:=by rw[h6];exact QE λ hq=>by have:=hq.2.1;omega
    simp[c1,c2,e];exact AM [] zz
   .have e:b5=decide (s.bo.size<=4096):=by
     rw[h6,Qk,Qb,Qb];exact⟨λ hq=>hq.2.2,λ hq=>⟨zy,zy,hq⟩⟩
    simp[c1,c2,e];exact AM [] (by simp<;>exact An (by rw[Qk];simp;omega))
  refine AD _ rfl (λ h=>?_) λ h=>?_
  .obtain rfl:b5=false:=by simpa using h
   refine AC (Ad ?_);exact BG (AG.one (by simp[D7]))
  obtain rfl:b5=true:=by simpa using h
  clear h
  obtain⟨bp,h3⟩:=AL (decide (Ix s.pi));have k6:=VM s.pi h2;rw[<- h3] at k6;obtain⟨pb,h7⟩:=AL (s.pr.toList.isEmpty);have h5:pb=true↔s.pr.toList=[]:=by rw[h7];exact List.isEmpty_iff
  refine arc ⟨100,[(1,.pv (sC s)),(53,.B (!b6))],[],640⟩ ?_ ?_
  .by_cases c1:s.nu=0
   .have c1':(s.nu == 0)=true:=by simp[c1]
    have c2:¬ 0<s.nu:=zy
    cases h4:pb
    .have e:b6=false:=by rw[q];exact QE λ hq=>by have:=h5.2 (hq.1 c1);rw[h4] at this;cases this
     simp[c1',<- h7,h4,e];exact AM [] zz
    .have e:b6=bp:=by
      rw[q,h3,Qk,Qb,Qb];exact⟨λ hq=>hq.2.2,λ hq=>⟨λ _=>h5.1 h4,λ h=>absurd h c2,hq⟩⟩
     simp[c1',<- h7,h4,e,c2];refine AT k6 rfl ?_;simp;exact AM [] zz
   .have c1':(s.nu == 0)=false:=by simp[c1]
    by_cases c2:0<s.nu
    .by_cases c3:(s.pr.size:Int)=32
     .have c3':((s.pr.size:Int) != 32)=false:=by simp[c3]
      have e:b6=bp:=by
       rw[q,h3,Qk,Qb,Qb];exact⟨λ hq=>hq.2.2,λ hq=>⟨λ h=>absurd h c1,λ _=>zy,hq⟩⟩
      simp[c1',c2,c3',e];refine AT k6 rfl ?_;simp;exact AM [] zz
     .have c3':((s.pr.size:Int) != 32)=true:=by simp[c3]
      have e:b6=false:=by rw[q];exact QE λ hq=>by have:=hq.2.1 c2;omega
      simp[c1',c2,c3',e];exact AM [] zz
    .have e:b6=bp:=by
      rw[q,h3,Qk,Qb,Qb];exact⟨λ hq=>hq.2.2,λ hq=>⟨λ h=>absurd h c1,λ h=>absurd h c2,hq⟩⟩
     simp[c1',c2,e];refine AT k6 rfl ?_;simp;exact AM [] zz
  refine AD _ rfl (λ h=>?_) λ h=>?_
  .obtain rfl:b6=false:=by simpa using h
   refine AC (Ad ?_);exact BG (AG.one (by simp[D7]))
  obtain rfl:b6=true:=by simpa using h
  clear h k6
  obtain⟨ob,h8⟩:=AL (s.bo.toList.isEmpty);have h9:ob=true↔s.bo.toList=[]:=by rw[h8];exact List.isEmpty_iff
  refine arc ⟨100,[(1,.pv (sC s)),(79,.B (!b7))],[],808⟩ ?_ ?_
  .by_cases c1:s.ki<=3
   .by_cases c2:(0:Int)<s.li.length
    .have e:b7=false:=by rw[h0];exact QE λ hq=>by have:=(hq c1).1;omega
     simp only[Int.natCast_pos] at c2;simp[c1,c2,e];exact AM [] zz
    by_cases c3:(0:Int)<s.pi.length
    .have e:b7=false:=by rw[h0];exact QE λ hq=>by have:=(hq c1).2.1;omega
     simp only[Int.natCast_pos] at c2 c3;simp[c1,c2,c3,e];exact AM [] zz
    .have e:b7=ob:=by
      rw[h0,Qk,Qb,h9];exact⟨λ hq=>(hq c1).2.2,λ hq _=>⟨zy,zy,hq⟩⟩
     simp only[Int.natCast_pos] at c2 c3;simp[c1,c2,c3,e,<- h8];exact AM [] zz
   .have e:b7=true:=by rw[h0];exact Q7 λ hq=>absurd hq c1
    simp[c1,e];exact AM [] zz
  refine AD _ rfl (λ h=>?_) λ h=>AE ?_
  .obtain rfl:b7=false:=by simpa using h
   refine AC (Ad ?_);exact BG (AG.one (by simp[D7]))
  obtain rfl:b7=true:=by simpa using h
  exact⟨(),⟨rfl,rfl,rfl,rfl,rfl,rfl,rfl⟩,AM [] zz⟩
 .rintro _ ⟨rfl,rfl,rfl,rfl,rfl,rfl,rfl⟩
  refine AC (Ad ?_);exact BG (AG.one (by simp[D7]))
theorem k5 {b1 b2 b3 b4 b5 b6 b7:Bool}:D7 b1 b2 b3 b4 b5 b6 b7=0↔b1=true/\b2=true/\b3=true/\b4=true/\b5=true/\b6=true/\b7=true:=by
 cases b1<;>cases b2<;>cases b3<;>cases b4<;>cases b5<;>cases b6<;>cases b7<;>simp[D7]
open Classical in
theorem Gn (s:AJ) (h1:s.li.length<=1000000) (h2:s.pi.length<=1000000):∃ e:Int,(e=0↔DC s)/\AK 71 [eS s] [] (.I e) []:=by
 refine⟨_,?_,Wh s h1 h2 _ _ _ _ _ _ _ rfl rfl rfl rfl rfl rfl rfl⟩;rw[k5];simp only[Qb];rfl
structure DQ where
 li:List Int
 pi:List Pn
abbrev CF (x:DQ):List AV:=[AA x.li,BQ x.pi]
abbrev Cm (x:DQ):AV:=.agg (CF x)
def DJ (x:DQ):Prop:=x.li.length<=100/\x.pi.length<=100 /\ ∀ p∈x.pi,p.d.size<=5000
def O6 (x:DQ):AJ:=⟨0,0,⟨#[]⟩,0,10,0,0,0,[],x.pi,⟨#[]⟩,0,⟨#[]⟩⟩
abbrev P5 (x:DQ):List AV:=[.I 0,.I 0,.sc (.string ⟨#[]⟩),.I 0,.I 10,.I 0,.I 0,.I 0,.nilS,BQ x.pi,.sc (.string ⟨#[]⟩),.I 0,.sc (.string ⟨#[]⟩)]
theorem Tt (c:Cl) (x:DQ) (hx:DJ x):∃ b:Bool,True/\AK 134 [Be c,Cm x] [] (.B b) []:=by
 refine rG.s.acallsX (args:=[Be c,Cm x]) (hs:=[]) (λ b=>.B b) (λ _=>[]) (λ _:Bool=>True) (AW rfl) (AW rfl) (λ _=>Qg _) ?_;show AQ _ 0 _ _ ⟨68,[(0,Be c),(1,Cm x)],[],16⟩;obtain⟨u,hx2,_⟩:=hx;obtain⟨e,_,q⟩:=Gn (O6 x) (by simp[O6]) (by simp[O6];omega)
 have q:=HK (args:=[.agg (P5 x)]) q
  ⟨.agg _ _ rfl λ i=>match i with | 8=>.nil _ _ | 0=>.refl _ | 1=>.refl _ | 2=>.refl _ | 3=>.refl _ | 4=>.refl _ | 5=>.refl _ | 6=>.refl _ | 7=>.refl _ | 9=>.refl _ | 10=>.refl _ | 11=>.refl _ | 12=>.refl _ | _+13=>.refl _,trivial⟩
 refine BP ⟨68,[(2,.pv (B3 c)),(3,.pv (CF x))],[],50⟩ [] [16,24] ?_;refine AC (arc ⟨68,[(2,.pv (B3 c)),(3,.pv (CF x)),(8,.B (!decide (DF c)))],[],100⟩ ?_ ?_)
 .simp
  refine Ay (I3 c) ?_;simp;exact AY [] []
 refine AD _ rfl (λ h3=>?_) λ h3=>?_
 .refine rs [4] [] [] ?_
  exact AO (Af.mk (.inr rfl) false trivial (AG.one zz))
 refine AE (arc ⟨68,[(2,.pv (B3 c)),(3,.pv (CF x)),(5,.pv (P5 x))],[],200⟩ ?_ ?_)
 .simp [EQ,AZ]
  exact AY [] [124]
 refine AC (arc ⟨68,[(2,.pv (B3 c)),(3,.pv (CF x)),(14,.B (decide (e≠0)))],[],300⟩ ?_ ?_)
 .simp
  refine Ay q ?_;simp;exact AN [] [] (by simp[AB]<;>exact An zt)
 refine AD _ rfl (λ h3=>?_) λ h3=>?_
 .refine rs [4] [] [] ?_
  exact AO (Af.mk (.inr rfl) false trivial (AG.one zz))
 refine AE (AC (arc ⟨68,[(3,.pv (CF x)),(17,.B (decide (c.ki=1)))],[],400⟩ ?_ ?_))
 .simp
  exact AN [] [] (by simp[AB]<;>exact An zt)
 obtain⟨L,hL⟩:=AL (x.li);simp only[CF,<- hL];refine AD _ rfl (λ h3=>?_) λ h3=>?_
 .by_cases h2:L.length=2
  .obtain ⟨a,b,rfl⟩:=show ∃ a b,L=[a,b] by rcases L with _ | ⟨a,_ | ⟨b,_ | ⟨c,t⟩⟩⟩<;>simp at h2 ⊢
   refine arc ⟨68,[(4,.B (decide (0<=a/\a<4294967296/\0<=b/\b<4294967296)))],[],900⟩ ?_ ?_
   .simp
    repeat' first
     | (refine BK (λ hb=>?_) (λ hb=>?_)<;>(try rw[hb])<;>(try simp at hb)<;>simp[hb])
    all_goals exact AN [] [] (by simp<;>exact An (by (try simp at *);grind))
   exact AO (Af.mk (.inr rfl) _ trivial (AG.one (by simp;exact .refl _)))
  .have hf:((L.length:Int) == 2)=false:=zu
   refine rx (s:=?s6) [4] [] [] rfl ?o6 ?q6
   case o6=>simp[hf];rfl
   exact AO (Af.mk (.inr rfl) _ trivial (AG.one (by simp;exact .refl _)))
 refine AE ?_
 by_cases h1:L.length=1
 .obtain ⟨a,rfl⟩:=List.length_eq_one_iff.1 h1
  refine arc ⟨68,[(4,.B (decide (a=0∨a=1)))],[],900⟩ ?_ ?_
  .simp
   repeat' first
    | (refine BK (λ hb=>?_) (λ hb=>?_)<;>(try rw[hb])<;>(try simp at hb)<;>simp[hb])
   all_goals exact AN [] [] (by simp<;>exact An (by (try simp at *);grind))
  exact AO (Af.mk (.inr rfl) _ trivial (AG.one (by simp;exact .refl _)))
 .have hf:((L.length:Int) == 1)=false:=zu
  refine rx (s:=?s7) [4] [] [] rfl ?o7 ?q7
  case o7=>simp[hf];rfl
  exact AO (Af.mk (.inr rfl) _ trivial (AG.one (by simp;exact .refl _)))
theorem Vr (c:Cl):∃ n:Int,True/\AK 135 [Be c] [] (.I n) []:=by
 refine sX.s.acallsX (args:=[Be c]) (hs:=[]) (λ b=>.I b) (λ _=>[]) (λ _:Int=>True) (AW rfl) (AW rfl) (λ _=>Qg _) ?_;show AQ _ 0 _ _ ⟨12,[(0,Be c)],[],16⟩;refine BP ⟨12,[(1,.pv (B3 c))],[],50⟩ [] [16] ?_;refine AC (arc ⟨12,[(1,.pv (B3 c)),(5,.B (!decide (DF c)))],[],100⟩ ?_ ?_)
 .simp
  refine Ay (I3 c) ?_;simp;exact BT [] []
 refine AD _ rfl (λ h3=>?_) λ h3=>?_
 .refine rs [2] [] [] ?_
  exact AO (Af.mk (.inr rfl) _ trivial (AG.one (by simp;exact .refl _)))
 refine AE (rs [2] [] [] ?_);exact AO (Af.mk (.inr rfl) _ trivial (AG.one (by simp;exact .refl _)))
structure F9 where
 k:Int
 a:Int
 b:Int
 c:Int
 li:List Int
 pi:List Pn
abbrev K8 (d:F9):List AV:=[.I d.k,.I d.a,.I d.b,.I d.c,AA d.li,BQ d.pi]
abbrev Hx (d:F9):AV:=.agg (K8 d)
def Ig (d:F9):Prop:=d.li.length<=100/\d.pi.length<=100 /\ ∀ p∈d.pi,p.d.size<=5000
theorem Tp (e:AV):Wk (.tup [.agg [.I 0,.I 0,.I 0,.I 0,.nilS,.nilS],e]) (.tup [Hx ⟨0,0,0,0,[],[]⟩,e]) :=
 .tup _ _ rfl λ i=>match i with
 | 0=>.agg _ _ rfl λ j=>match j with | 4=>.nil _ _ | 5=>.nil _ _ | 0=>.refl _ | 1=>.refl _ | 2=>.refl _ | 3=>.refl _ | _+6=>.refl _
 | 1=>.refl _
 | _+2=>.refl _
theorem ZL (c:Cl) (x:DQ) (hx:DJ x):∃ r:F9 × Int,(Ig r.1/\(r.2=0->r.1.k=10))/\AK 80 [Be c,Cm x] [] (.tup [Hx r.1,.I r.2]) []:=by
 obtain⟨n,_,hn⟩:=Vr c;obtain⟨b,_,hb⟩:=Tt c x hx;obtain⟨q,hx2,u⟩:=hx;refine vU.s.acallsX (args:=[Be c,Cm x]) (hs:=[]) (λ r=>.tup [Hx r.1,.I r.2]) (λ _=>[]) (λ r:F9 × Int=>Ig r.1/\(r.2=0->r.1.k=10)) (AW rfl) (AW rfl) (λ _=>Qg _) ?_;show AQ _ 0 _ _ ⟨30,[(0,Be c),(1,Cm x)],[],16⟩;have hz:Ig ⟨0,0,0,0,[],[]⟩:=by simp[Ig]
 refine rs [2,3,4] [32] [16,24] ?_;refine AC (arc ⟨30,[(2,.pv (B3 c)),(3,.pv (CF x)),(4,.pt 32 0 0),(8,.B (!decide (DF c)))],[(32,some ⟨6,[[.I 0,.I 0,.I 0,.I 0,.nilS,.nilS]],0⟩)],200⟩ ?_ ?_)
 .simp
  refine Ay (I3 c) ?_;simp;exact BT [(32,32)] []
 refine AD _ rfl (λ h3=>?_) λ h3=>?_
 .refine rx (s:=?s4) [4,5] [32] [] rfl ?o4 ?q4
  case o4=>simp[AZ];rfl
  refine AO (Af.mk (.inr rfl) (⟨0,0,0,0,[],[]⟩,41) ⟨hz,zz⟩ ?_)
  show AG [(4,some (true,6)),(5,none)] 0 _ _ _;exact AG.out (vs:=[.agg [.I 0,.I 0,.I 0,.I 0,.nilS,.nilS],.I 41]) [] [] zz zz zz (by simp;exact Tp _) zz
 refine AE (AC (arc ⟨30,[(2,.pv (B3 c)),(3,.pv (CF x)),(4,.pt 32 0 0),(13,.B (!b))],[(32,some ⟨6,[[.I 0,.I 0,.I 0,.I 0,.nilS,.nilS]],0⟩)],300⟩ ?_ ?_))
 .simp
  refine Ay hb ?_;simp;exact BT [(32,32)] []
 refine AD _ rfl (λ h5=>?_) λ h5=>?_
 .refine rx (s:=?s5) [4,5] [32] [] rfl ?o5 ?q5
  case o5=>simp[AZ];rfl
  refine AO (Af.mk (.inr rfl) (⟨0,0,0,0,[],[]⟩,42) ⟨hz,zz⟩ ?_)
  show AG [(4,some (true,6)),(5,none)] 0 _ _ _;exact AG.out (vs:=[.agg [.I 0,.I 0,.I 0,.I 0,.nilS,.nilS],.I 42]) [] [] zz zz zz (by simp;exact Tp _) zz
 refine AE (NW (s:=?s6) [4,5] [32,372,404] [] rfl ?o6 ?q6)
 case o6=>simp;refine AT hn zz ?_;simp[AZ];repeat' apply And.intro
          all_goals first | omega | rfl
 refine AO (Af.mk (.inr rfl) (⟨10,c.ep,n,c.su,x.li,x.pi⟩,0) ⟨⟨q,hx2,u⟩,λ _=>rfl⟩ ?_);show AG [(4,some (true,6)),(5,none)] 0 _ _ _;refine AG.out (vs:=[.agg [.I 10,.I c.ep,.I n,.I c.su,.rs 372 0 x.li.length,.rs 404 0 x.pi.length],.I 0]) [] [372,404] zz zz zz ?_ zz
 simp[AB,CI]
structure FO where
 au:Int
 ca:Cl
 co:DQ
abbrev ES (v:FO):List AV:=[.I v.au,.I v.ca.ep,.I v.ca.ki,.I v.ca.su,.I v.ca.ro,AA v.co.li,BQ v.co.pi]
abbrev En (v:FO):AV:=.agg (ES v)
abbrev KU:FO:=⟨0,⟨0,0,0,0⟩,⟨[],[]⟩⟩
abbrev GQ:List AV:=[.I 0,.I 0,.I 0,.I 0,.I 0,.nilS,.nilS]
theorem Nr:Wk (.agg GQ) (En KU):=.agg _ _ rfl λ j=>match j with | 5=>.nil _ _ | 6=>.nil _ _ | 0=>.refl _ | 1=>.refl _ | 2=>.refl _ | 3=>.refl _ | 4=>.refl _ | _+7=>.refl _
theorem KO (e:AV):Wk (.tup [.agg GQ,e]) (.tup [En KU,e]) :=
 .tup _ _ rfl λ i=>match i with
 | 0=>Nr
 | 1=>.refl _
 | _+2=>.refl _
theorem YS (s:AJ) (hs:BJ s):∃ r:FO × Int,DJ r.1.co/\AK 338 [eS s] [] (.tup [En r.1,.I r.2]) []:=by
 obtain⟨e,_,u⟩:=Gn s (by have:=hs.2.2.1;omega) (by have:=hs.2.2.2.1;omega)
 obtain⟨ca,h0⟩:∃ ca:Cl,ca=⟨s.a,Int.tmod s.b 16,s.c,IntKind.i64.wrap (Int.tdiv s.b 16)⟩:=⟨_,rfl⟩;obtain⟨co,q⟩:∃ co:DQ,co=⟨s.li,s.pi⟩:=⟨_,rfl⟩;have hx:DJ co:=by rw[q];exact hs.2.2
 obtain⟨b,_,hr⟩:=Tt ca co hx;have h5:=hs.2.2.1;have h6:=hs.2.2.2.1;refine qQ.s.acallsX (args:=[eS s]) (hs:=[]) (λ r=>.tup [En r.1,.I r.2]) (λ _=>[]) (λ r:FO × Int=>DJ r.1.co) (AW rfl) (AW rfl) (λ _=>Qg _) ?_;show AQ _ 0 _ _ ⟨53,[(0,eS s)],[],16⟩;have hz:DJ KU.co:=by simp[DJ]
 refine BP ⟨53,[(1,.pv (sC s)),(2,.pt 24 0 0)],[(24,some ⟨7,[GQ],0⟩)],100⟩ [(24,24)] [16] ?_;refine AC (arc ⟨53,[(1,.pv (sC s)),(2,.pt 24 0 0),(4,.I e)],[(24,some ⟨7,[GQ],0⟩)],200⟩ ?_ ?_)
 .simp
  refine AT u zw ?_
  simp;exact BT [(24,24)] []
 refine arc ⟨53,[(1,.pv (sC s)),(2,.pt 24 0 0),(4,.I e),(10,.B (decide (e≠0)))],[(24,some ⟨7,[GQ],0⟩)],220⟩ ?_ ?_
 .simp
  exact AN [(24,24)] [] (by simp<;>exact An zt)
 refine AD _ rfl (λ h4=>?_) λ h4=>?_
 .refine rx (s:=?s5) [2,3] [24] [] rfl ?o5 ?q5
  case o5=>simp[AZ];rfl
  refine AO (Af.mk (.inr rfl) (KU,e) hz ?_);show AG [(2,some (true,7)),(3,none)] 0 _ _ _;exact AG.out (vs:=[.agg GQ,.I e]) [] [] zz zz zz (by simp;exact KO _) zz
 refine AE (arc ⟨53,[(1,.pv (sC s)),(2,.pt 24 0 0),(5,.pv (B3 ca))],[(24,some ⟨7,[GQ],0⟩)],400⟩ ?_ ?_)
 .simp
  exact AN [(24,24)] [308] (by simp[h0])
 refine BM ⟨53,[(1,.pv (sC s)),(2,.pt 24 0 0),(5,.pv (B3 ca)),(6,.pv (CF co))],[(24,some ⟨7,[GQ],0⟩)],600⟩ ?_ ?_
 .simp
  repeat' apply And.intro
  all_goals first | omega | exact rfl | exact AN [(24,24)] [424,456,472] (by simp[q,AB,CI])
 refine AC (arc ⟨53,[(1,.pv (sC s)),(2,.pt 24 0 0),(5,.pv (B3 ca)),(6,.pv (CF co)),(46,.B (decide (s.ki≠10∨s.bo.toList≠[]∨b=false)))],[(24,some ⟨7,[GQ],0⟩)],800⟩ ?_ ?_)
 .simp
  repeat' first
   | (refine CC 134 rfl ?_;refine AT hr (by simp[h0,q]) ?_;simp)
   | (refine BK (λ hb=>?_) (λ hb=>?_)<;>(try rw[hb])<;>(try simp at hb)<;>simp[*])
  all_goals exact AN [(24,24)] [] (by simp<;>exact An (by (try simp at *);grind))
 refine AD _ rfl (λ h9=>?_) λ h9=>?_
 .refine rx (s:=?s10) [2,3] [24] [] rfl ?o10 ?q10
  case o10=>simp[AZ];rfl
  refine AO (Af.mk (.inr rfl) (KU,42) hz ?_);show AG [(2,some (true,7)),(3,none)] 0 _ _ _;exact AG.out (vs:=[.agg GQ,.I 42]) [] [] zz zz zz (by simp;exact KO _) zz
 refine AE (rx (s:=?s11) [2,3] [24] [] rfl ?o11 ?q11)
 case o11=>simp[AZ];rfl
 refine AO (Af.mk (.inr rfl) (⟨s.au,ca,co⟩,0) hx ?_);show AG [(2,some (true,7)),(3,none)] 0 _ _ _;exact AG.out (vs:=[En ⟨s.au,ca,co⟩,.I 0]) [] [] zz zz zz zz zz
theorem Ps (s:AJ) (hs:BJ s):∃ r:FO × Bool,DJ r.1.co/\AK 320 [eS s] [] (.tup [En r.1,.B r.2]) []:=by
 obtain⟨⟨v,e⟩,hv,q⟩:=YS s hs;refine vR.s.acallsX (args:=[eS s]) (hs:=[]) (λ r=>.tup [En r.1,.B r.2]) (λ _=>[]) (λ r:FO × Bool=>DJ r.1.co) (AW rfl) (AW rfl) (λ _=>Qg _) ?_;show AQ _ 0 _ _ ⟨18,[(0,eS s)],[],16⟩;refine BP ⟨18,[(1,.pv (sC s)),(2,.pt 24 0 0)],[(24,some ⟨7,[GQ],0⟩)],100⟩ [(24,24)] [16] ?_;refine arc ⟨18,[(1,.pv (sC s)),(2,.pt 24 0 0),(4,.pv (ES v)),(5,.I e)],[(24,some ⟨7,[GQ],0⟩)],200⟩ ?_ ?_
 .simp
  refine AT q zw ?_
  simp;exact BT [(24,24)] [140]
 refine BM ⟨18,[(2,.pt 24 0 0),(3,.B (decide (e=0/\s.sk=s.au/\s.sd.toList=(Bk s).toList)))],[(24,some ⟨7,[ES v],0⟩)],300⟩ ?_ ?_
 .simp
  repeat' first
   | (refine CC 72 rfl ?_;refine AT (Hw s hs) zw ?_;simp)
   | (refine BK (λ hb=>?_) (λ hb=>?_)<;>(try rw[hb])<;>(try simp at hb)<;>simp[*,AZ])
  all_goals exact⟨rfl,AN [(24,24)] [] (by simp<;>exact An (by (try simp at *);grind))⟩
 refine AO (Af.mk (.inr rfl) (v,decide (e=0/\s.sk=s.au/\s.sd.toList=(Bk s).toList)) hv ?_);show AG [(2,some (true,7)),(3,none)] 0 _ _ _;exact AG.out (vs:=[En v,.B (decide (e=0/\s.sk=s.au/\s.sd.toList=(Bk s).toList))]) [] [] zz zz zz zz zz
theorem RB (a b:DQ) (ha:DJ a) (hb:DJ b):∃ n:Int,True/\AK 334 [Cm a,Cm b] [] (.I n) []:=by
 obtain⟨u,h0,_⟩:=ha;obtain⟨h1,h2,_⟩:=hb;refine uU.s.acallsX (args:=[Cm a,Cm b]) (hs:=[]) (λ b=>.I b) (λ _=>[]) (λ _:Int=>True) (AW rfl) (AW rfl) (λ _=>Qg _) ?_;show AQ _ 0 _ _ ⟨108,[(0,Cm a),(1,Cm b)],[],16⟩;refine BP ⟨108,[(2,.pv (CF a)),(3,.pv (CF b))],[],50⟩ [] [16,24] ?_;refine AC (rs [2,3,5] [] [] ?_);refine AI (Ag (ι:=Nat) (λ i=>⟨108,[(2,.pv (CF a)),(3,.pv (CF b)),(5,.I i)],[],100⟩) (λ i=>i<=a.li.length) (λ i=>a.li.length - i) 0 zz (BT [] []) ?_)
 intro i hi;have hw:IntKind.i64.wrap ((i:Int)+1)=i+1:=w6;refine AC (arc ⟨108,[(2,.pv (CF a)),(3,.pv (CF b)),(5,.I i),(24,.B (decide (i<a.li.length/\i<b.li.length)))],[],400⟩ ?_ ?_)
 .simp
  repeat' first
   | (refine BK (λ hb=>?_) (λ hb=>?_)<;>(try rw[hb])<;>(try simp at hb)<;>simp[hb])
  all_goals exact AN [] [] (by simp<;>exact An (by (try simp at *);grind))
 refine AD _ rfl (λ h3=>?_) λ h3=>?_
 .rw [Qb] at h3
  obtain⟨h3,h4⟩:=h3;refine AE (AC (AI (BM ⟨108,[(2,.pv (CF a)),(3,.pv (CF b)),(5,.I i),(6,.I (BC a.li[i] b.li[i]))],[],600⟩ ?_ ?_)))
  .simp [h3,h4]
   refine Ay (Km a.li[i] b.li[i]) ?_;simp;exact⟨rfl,BT [] []⟩
  refine arc ⟨108,[(2,.pv (CF a)),(3,.pv (CF b)),(5,.I i),(6,.I (BC a.li[i] b.li[i])),(39,.B (decide (BC a.li[i] b.li[i]≠0)))],[],700⟩ ?_ ?_
  .simp
   exact AN [] [] (by simp<;>exact An (by (try simp at *);grind))
  refine AD _ rfl (λ h5=>?_) λ h5=>?_
  .refine rs [4] [] [] ?_
   exact AO (Af.mk (.inr rfl) _ trivial (AG.one (by simp;exact .refl _)))
  refine AE (BA (s:=?s9) rfl ?o9 ?q9)
  case o9=>simp[hw];rfl
  exact⟨i+1,zy,zy,BT [] []⟩
 refine Aa (Ab (AC (arc ⟨108,[(2,.pv (CF a)),(3,.pv (CF b)),(7,.I (BC a.li.length b.li.length))],[],600⟩ ?_ ?_)))
 .simp
  refine Ay (Km a.li.length b.li.length) ?_;simp;exact BT [] []
 refine arc ⟨108,[(2,.pv (CF a)),(3,.pv (CF b)),(7,.I (BC a.li.length b.li.length)),(49,.B (decide (BC a.li.length b.li.length≠0)))],[],700⟩ ?_ ?_
 .simp
  exact AN [] [] (by simp<;>exact An (by (try simp at *);grind))
 refine AD _ rfl (λ h5=>?_) λ h5=>?_
 .refine rs [4] [] [] ?_
  exact AO (Af.mk (.inr rfl) _ trivial (AG.one (by simp;exact .refl _)))
 refine AE (AC (rs [2,3,8] [] [] ?_));refine AI (Ag (ι:=Nat) (λ i=>⟨108,[(2,.pv (CF a)),(3,.pv (CF b)),(8,.I i)],[],800⟩) (λ i=>i<=a.pi.length) (λ i=>a.pi.length - i) 0 zz (BT [] []) ?_)
 intro i hi;have hw:IntKind.i64.wrap ((i:Int)+1)=i+1:=w6;refine AC (arc ⟨108,[(2,.pv (CF a)),(3,.pv (CF b)),(8,.I i),(62,.B (decide (i<a.pi.length/\i<b.pi.length)))],[],1000⟩ ?_ ?_)
 .simp
  repeat' first
   | (refine BK (λ hb=>?_) (λ hb=>?_)<;>(try rw[hb])<;>(try simp at hb)<;>simp[hb])
  all_goals exact AN [] [] (by simp<;>exact An (by (try simp at *);grind))
 refine AD _ rfl (λ h3=>?_) λ h3=>?_
 .rw [Qb] at h3
  obtain⟨h3,h4⟩:=h3;refine AE (AC (AI ?_));obtain⟨p,hp⟩:=AL (a.pi[i]);obtain⟨q,hq⟩:=AL (b.pi[i]);refine BM ⟨108,[(2,.pv (CF a)),(3,.pv (CF b)),(8,.I i),(9,.pv (FB p)),(10,.pv (FB q))],[],1200⟩ ?_ ?_
  .simp [h3,h4]
   exact⟨rfl,AN [] [1080,1088] (by simp[hp,hq])⟩
  refine AC (arc ⟨108,[(2,.pv (CF a)),(3,.pv (CF b)),(8,.I i),(9,.pv (FB p)),(10,.pv (FB q)),(11,.I (BC p.a q.a))],[],1300⟩ ?_ ?_)
  .simp
   refine Ay (Km p.a q.a) ?_;simp;exact BT [] []
  refine arc ⟨108,[(2,.pv (CF a)),(3,.pv (CF b)),(8,.I i),(9,.pv (FB p)),(10,.pv (FB q)),(11,.I (BC p.a q.a)),(81,.B (decide (BC p.a q.a≠0)))],[],1400⟩ ?_ ?_
  .simp
   exact AN [] [] (by simp<;>exact An (by (try simp at *);grind))
  refine AD _ rfl (λ h5=>?_) λ h5=>?_
  .refine rs [4] [] [] ?_
   exact AO (Af.mk (.inr rfl) _ trivial (AG.one (by simp;exact .refl _)))
  refine AE (AC (arc ⟨108,[(2,.pv (CF a)),(3,.pv (CF b)),(8,.I i),(9,.pv (FB p)),(10,.pv (FB q)),(12,.I (BC p.h q.h))],[],1500⟩ ?_ ?_))
  .simp
   refine Ay (Km p.h q.h) ?_;simp;exact BT [] []
  refine arc ⟨108,[(2,.pv (CF a)),(3,.pv (CF b)),(8,.I i),(9,.pv (FB p)),(10,.pv (FB q)),(12,.I (BC p.h q.h)),(89,.B (decide (BC p.h q.h≠0)))],[],1600⟩ ?_ ?_
  .simp
   exact AN [] [] (by simp<;>exact An (by (try simp at *);grind))
  refine AD _ rfl (λ h5=>?_) λ h5=>?_
  .refine rs [4] [] [] ?_
   exact AO (Af.mk (.inr rfl) _ trivial (AG.one (by simp;exact .refl _)))
  refine AE (rs [2,3,8,9,10,95] [] [] ?_);refine AD _ rfl (λ h5=>?_) λ h5=>?_
  .refine AC (rs [100] [] [] ?_)
   refine AD _ rfl (λ h6=>?_) λ h6=>?_
   .refine rs [4] [] [] ?_
    exact AO (Af.mk (.inr rfl) _ trivial (AG.one (by simp;exact .refl _)))
   refine AE (rs [4] [] [] ?_);exact AO (Af.mk (.inr rfl) _ trivial (AG.one (by simp;exact .refl _)))
  refine AE (BA (s:=?s29) rfl ?o29 ?q29)
  case o29=>simp[hw];rfl
  exact⟨i+1,zy,zy,BT [] []⟩
 refine Aa (Ab (rx (s:=?s22) [4] [] [] rfl ?o22 ?q22))
 case o22=>simp;refine AT (Km a.pi.length b.pi.length) zz ?_;simp;rfl
 exact AO (Af.mk (.inr rfl) _ trivial (AG.one (by simp;exact .refl _)))
theorem Sc (v w:FO) (hv:DJ v.co) (hw:DJ w.co):∃ b:Bool,True/\AK 337 [En v,En w] [] (.B b) []:=by
 obtain⟨n,_,hn⟩:=RB v.co w.co hv hw;refine u6.s.acallsX (args:=[En v,En w]) (hs:=[]) (λ b=>.B b) (λ _=>[]) (λ _:Bool=>True) (AW rfl) (AW rfl) (λ _=>Qg _) ?_;show AQ _ 0 _ _ ⟨25,[(0,En v),(1,En w)],[],16⟩;refine BP ⟨25,[(2,.pv (ES v)),(3,.pv (ES w))],[],50⟩ [] [16,24] ?_;refine arc ⟨25,[(4,.B (decide (v.au<w.au∨(v.au=w.au/\n<0))))],[],300⟩ ?_ ?_
 .simp
  repeat' first
   | (refine CC 334 rfl ?_;refine AT hn zz ?_;simp)
   | (refine BK (λ hb=>?_) (λ hb=>?_)<;>(try rw[hb])<;>(try simp at hb)<;>simp[*])
  all_goals exact AN [] [] (by simp<;>exact An (by (try simp at *);grind))
 exact AO (Af.mk (.inr rfl) _ trivial (AG.one (by simp;exact .refl _)))
theorem cH (x:DQ) (hx:DJ x):AK 335 [Cm x] [] (Cm x) []:=by
 obtain⟨q,hx2,_⟩:=hx;refine sR.s.ac ?_;show AQ _ 0 _ _ ⟨12,[(0,Cm x)],[],16⟩;refine BP ⟨12,[(1,.pv (CF x)),(2,.pt 24 0 0)],[(24,some ⟨2,[[.nilS,.nilS]],0⟩)],100⟩ [(24,24)] [16] ?_;refine NW (s:=?s6) [2] [24,124,156] [] rfl ?o6 ?q6
 case o6=>simp[AZ];repeat' apply And.intro
          all_goals first | omega | rfl
 refine AO ⟨.inr rfl,?_⟩;show AG [(2,some (true,2))] 0 _ _ _;refine AG.out (vs:=[.agg [.rs 124 0 x.li.length,.rs 156 0 x.pi.length]]) [] [124,156] zz zz zz ?_ zz
 simp[AB,CI]
theorem fE (c d:Cl):∃ b:Bool,True/\AK 321 [Be c,Be d] [] (.B b) []:=by
 refine wU.s.acallsX (args:=[Be c,Be d]) (hs:=[]) (λ b=>.B b) (λ _=>[]) (λ _:Bool=>True) (AW rfl) (AW rfl) (λ _=>Qg _) ?_;show AQ _ 0 _ _ ⟨40,[(0,Be c),(1,Be d)],[],16⟩;refine BP ⟨40,[(2,.pv (B3 c)),(3,.pv (B3 d))],[],50⟩ [] [16,24] ?_;refine AC (rs [2,3,9] [] [] ?_);refine AD _ rfl (λ h3=>?_) λ h3=>?_
 .refine rs [4] [] [] ?_
  exact AO (Af.mk (.inr rfl) _ trivial (AG.one (by simp;exact .refl _)))
 refine AE (AC (rs [2,3,19] [] [] ?_));refine AD _ rfl (λ h3=>?_) λ h3=>?_
 .refine rs [4] [] [] ?_
  exact AO (Af.mk (.inr rfl) _ trivial (AG.one (by simp;exact .refl _)))
 refine AE (AC (rs [2,3,29] [] [] ?_));refine AD _ rfl (λ h3=>?_) λ h3=>?_
 .refine rs [4] [] [] ?_
  exact AO (Af.mk (.inr rfl) _ trivial (AG.one (by simp;exact .refl _)))
 refine AE (rs [4] [] [] ?_);exact AO (Af.mk (.inr rfl) _ trivial (AG.one (by simp;exact .refl _)))
theorem aP (l:List Pn) (hl:l.length<=1000000):AK 108 [BQ l,BQ l] [] (.B true) []:=by
 refine Sl.ac ?_;show AQ _ 0 _ _ ⟨26,[(0,BQ l),(1,BQ l)],[],16⟩;refine BE ⟨26,[(0,BQ l),(1,BQ l)],[],24⟩ rfl (by simp;exact AM [] zz) ?_
 refine AC (BE ⟨26,[(0,BQ l),(1,BQ l),(10,.B false)],[],64⟩ rfl (by simp;exact AM [] zz) ?_)
 refine AD _ rfl (λ h=>by cases h) λ _=>AE ?_
 refine AC (BE ⟨26,[(0,BQ l),(1,BQ l),(5,.I (0:Nat))],[],72⟩ rfl (by simp;exact AM [] zz) ?_)
 refine AI (Ag (ι:=Nat) (λ k=>⟨26,[(0,BQ l),(1,BQ l),(5,.I k)],[],72⟩) (λ k=>k<=l.length) (λ k=>l.length - k) 0 (Qh _) (Le.refl _ _) ?_);intro k hk;refine AC (BE ⟨26,[(0,BQ l),(1,BQ l),(5,.I k),(14,.B (decide (k<l.length)))],[],104⟩ rfl (by simp;exact AM [] zz) ?_)
 refine AD _ rfl (λ h=>AE ?_) λ h=>Aa (Ab ?_)
 .simp only[Qb] at h
  have hg:l[k]? = some l[k]:=Qa h;generalize l[k]=p at *;have q:=wq (k:=k);refine BO ⟨26,[(0,BQ l),(1,BQ l),(5,.I k)],[],200⟩ ?_ ?_
  .refine AI (BM ⟨26,[(0,BQ l),(1,BQ l),(5,.I k),(25,.B false)],[],176⟩ ?_ ?_)
   .simp [hg]
    exact⟨rfl,AM [] zz⟩
   refine AD _ rfl (λ h=>by cases h) λ _=>AE ?_
   exact AM [] zz
  refine AU rfl ?_;simp[q];exact⟨k+1,zy,zy,AM [] zz⟩
 refine AC (Ad ?_);exact Bv
theorem Vu (s:AJ) (h1:s.li.length<=1000000) (h2:s.pi.length<=1000000):AK 62 [eS s,eS s] [] (.B true) []:=by
 refine Nq.ac ?_;show AQ _ 0 _ _ ⟨87,[(0,eS s),(1,eS s)],[],16⟩;refine arc ⟨87,[(2,.pv (sC s)),(3,.pv (sC s))],[],40⟩ ?_ ?_
 .simp
  exact AM [16,24] zz
 refine arc ⟨87,[(4,.B true)],[],800⟩ ?_ ?_
 .simp
  refine AT (Rv s.li s.li zy) rfl ?_
  simp;refine AT (aP s.pi zy) rfl ?_
  simp;exact AM [] zz
 exact Bv
theorem ZG (l:List AJ) (hl:l.length<=1000000) (hb:∀ s∈l,s.li.length<=1000000/\s.pi.length<=1000000):AK 154 [AF l,AF l] [] (.B true) []:=by
 refine kU.s.ac ?_;show AQ _ 0 _ _ ⟨27,[(0,AF l),(1,AF l)],[],16⟩;refine BE ⟨27,[(0,AF l),(1,AF l)],[],24⟩ rfl (by simp;exact AM [] zz) ?_
 refine AC (BE ⟨27,[(0,AF l),(1,AF l),(10,.B false)],[],64⟩ rfl (by simp;exact AM [] zz) ?_)
 refine AD _ rfl (λ h=>by cases h) λ _=>AE ?_
 refine AC (BE ⟨27,[(0,AF l),(1,AF l),(5,.I (0:Nat))],[],72⟩ rfl (by simp;exact AM [] zz) ?_)
 refine AI (Ag (ι:=Nat) (λ k=>⟨27,[(0,AF l),(1,AF l),(5,.I k)],[],72⟩) (λ k=>k<=l.length) (λ k=>l.length - k) 0 (Qh _) (Le.refl _ _) ?_);intro k hk;refine AC (BE ⟨27,[(0,AF l),(1,AF l),(5,.I k),(14,.B (decide (k<l.length)))],[],104⟩ rfl (by simp;exact AM [] zz) ?_)
 refine AD _ rfl (λ h=>AE ?_) λ h=>Aa (Ab ?_)
 .simp only[Qb] at h
  have hg:l[k]? = some l[k]:=Qa h;have q:=hb l[k] (Qi h);generalize l[k]=p at *;have u:=wq (k:=k);refine BO ⟨27,[(0,AF l),(1,AF l),(5,.I k)],[],200⟩ ?_ ?_
  .refine AI (BM ⟨27,[(0,AF l),(1,AF l),(5,.I k),(26,.B false)],[],184⟩ ?_ ?_)
   .simp [hg]
    refine Ay (Vu p q.1 q.2) ?_;simp;exact⟨rfl,AM [] zz⟩
   refine AD _ rfl (λ h=>by cases h) λ _=>AE ?_
   exact AM [] zz
  refine AU rfl ?_;simp[u];exact⟨k+1,zy,zy,AM [] zz⟩
 refine AC (Ad ?_);exact Bv
def Fj (a b:AJ):Prop:=b.au=a.au/\b.nu=a.nu+1/\b.pr.toList=(Bk a).toList/\a.ti<=b.ti
instance (a b:AJ):Decidable (Fj a b):=by unfold Fj;infer_instance
theorem NE (a b:AJ) (hs:BJ a) (hn:a.nu<=1000000) (u : -1<=a.nu):AK 82 [eS a,eS b] [] (.B (decide (Fj a b))) []:=by
 refine dF.s.ac ?_;show AQ _ 0 _ _ ⟨39,[(0,eS a),(1,eS b)],[],16⟩;refine arc ⟨39,[(2,.pv (sC a)),(3,.pv (sC b))],[],40⟩ ?_ ?_
 .simp
  exact AM [16,24] zz
 have hw:=w6 (x:=a.nu+1);obtain⟨r,hr⟩:=AL (decide (Fj a b));rw[<- hr];refine BM ⟨39,[(4,.B r)],[],320⟩ ?_ ?_
 .by_cases c1:b.au=a.au
  .have c1':(b.au == a.au)=true:=by simp[c1]
   by_cases c2:a.nu<b.nu
   .by_cases c3:b.nu=a.nu+1
    .have c3':(b.nu == a.nu+1)=true:=by simp[c3]
     obtain⟨d,hd⟩:=AL ((b.pr.toList == (Bk a).toList));have q:d=true↔b.pr.toList=(Bk a).toList:=by rw[hd];exact beq_iff_eq
     simp[c1',c2,hw,c3'];refine Ay (L6 a hs) ?_
     cases d
     .have e:r=false:=by rw[hr];exact QE λ hq=>by have:=q.2 hq.2.2.1;cases this
      simp[<- hd,e];exact⟨rfl,AM [] zz⟩
     .have e:r=decide (a.ti<=b.ti):=by
       rw[hr,Qk,Qb,Qb];exact⟨λ hq=>hq.2.2.2,λ hq=>⟨c1,c3,q.1 rfl,hq⟩⟩
      simp[<- hd,e];exact⟨rfl,AM [] zz⟩
    .have c3':(b.nu == a.nu+1)=false:=by simp[c3]
     have e:r=false:=by rw[hr];exact QE λ hq=>c3 hq.2.1
     simp[c1',c2,hw,c3',e];exact⟨rfl,AM [] zz⟩
   .have e:r=false:=by rw[hr];exact QE λ hq=>by have:=hq.2.1;omega
    simp[c1',c2,e];exact⟨rfl,AM [] zz⟩
  .have c1':(b.au == a.au)=false:=by simp[c1]
   have e:r=false:=by rw[hr];exact QE λ hq=>c1 hq.1
   simp[c1',e];exact⟨rfl,AM [] zz⟩
 exact Bv
structure Ez (au:Int) (i:Nat) (s:AJ):Prop where
 ok:DC s
 b:BJ s
 au_:s.au=au
 nu_:s.nu=i
 sk_:s.sk=s.au
 sd_:s.sd.toList=(Bk s).toList
structure Kr (a b:AJ):Prop where
 pr_:b.pr.toList=(Bk a).toList
 ti_:a.ti<=b.ti
 ki_:a.ki≠3
def Cg (au:Int) (l:List AJ):Prop:=(∀ i (h:i<l.length),Ez au i l[i]) /\ ∀ i (h:i+1<l.length),Kr l[i] l[i+1]
theorem Ff (l:List AJ) (ρ sn h m):(l.map sC).map (List.map (conv ρ sn h (m+1)))=l.map sC:=zw
theorem Le.Z1 {st st':St} {z:Nat} {X:List (List AV)} (q:∀ ρ sn h m,X.map (List.map (conv ρ sn h (m+1)))=X) (i j:Nat) (sn:List Nat) (u:st'.sz=st.sz) (hh:st'.h=[(j,some ⟨z,X,0⟩)]) (hi:j<st'.n) (hs:∀ j∈sn,j≠i) (h0:st.hp i=some ⟨z,X,0⟩) (ht:∀ p∈st'.t,Wk (conv [(i,j)] sn st.hp 4 (st.get p.1)) p.2):Le 0 st st' :=
 Le.ren1 i j sn u hh hi hs h0 (by simp only[Ak,q]) (Qh _) ht
theorem Yx (au:Int) (l:List AJ) (hc:Cg au l) (hl:l.length<=1000):AK 81 [.I au,AF l] [] (.rs 0 0 l.length) [some ⟨13,l.map sC,0⟩]:=by
 refine Ry.s.ac ?_;show AQ _ 0 _ _ ⟨96,[(0,.I au),(1,AF l)],[],16⟩;refine BE ⟨96,[(0,.I au),(1,AF l)],[],24⟩ rfl (by simp;exact AM [] zz) ?_
 refine BE ⟨96,[(0,.I au),(1,AF l),(5,.sc (.slice none 0 0))],[],32⟩ rfl (by simp;exact AM [] zz) ?_
 refine AC (BE ⟨96,[(0,.I au),(1,AF l),(5,.sc (.slice none 0 0)),(6,.I (0:Nat))],[],40⟩ rfl (by simp;exact AM [] zz) ?_)
 let Y:Nat->List (List AV):=λ i=>(l.take i).map sC
 have hb:∀ i,i<=l.length->(Y i).length=i:=λ i hi=>by simp[Y];omega
 have h3:∀ i ρ sn h m,(Y i).map (List.map (conv ρ sn h (m+1)))=Y i:=λ i=>Ff _
 have hd:∀ i (h:i<l.length),Y (i+1)=Y i++[sC l[i]]:=λ i h=>by
  simp only[Y];rw[Ql h,List.map_append];rfl
 have he:∀ i k (h:k<l.length),k<i->(Y i)[k]? = some (sC l[k]):=λ i k h hk=>by
  simp only[Y];rw[QG,Q5,if_pos hk,Qa h];rfl
 have hf:Y l.length=l.map sC:=by simp only[Y];rw[QP]
 have hh:Y 0=[]:=rfl
 clear_value Y
 refine AI (Ag (ι:=Nat) (λ i=>⟨96,[(0,.I au),(1,AF l),(5,.rs 16 0 i),(6,.I i)],[(16,some ⟨13,Y i,0⟩)],40⟩) (λ i=>i<=l.length) (λ i=>l.length - i) 0 (Qh _) (Le.lst [] [] [(16,13)] rfl zz zz zz zz zz zz zz (by simp[Up]) (by simp[hh])) ?_)
 intro i hi;refine AC (arc ⟨96,[(0,.I au),(1,AF l),(5,.rs 16 0 i),(6,.I i),(12,.B (decide (i<l.length)))],[(16,some ⟨13,Y i,0⟩)],72⟩ ?_ ?_)
 .simp
  exact BD
 refine AD _ rfl (λ h=>AE ?_) λ h=>Aa (Ab ?_)
 .simp only[Qb] at h
  refine BO ⟨96,[(0,.I au),(1,AF l),(5,.rs 16 0 (i+1)),(6,.I i)],[(16,some ⟨13,Y (i+1),0⟩)],800⟩ ?_ ?_
  .have hj:=hc.1 i h
   have hg:l[i]? = some l[i]:=Qa h;have h5:∀ k,k<i -> ∃ p:AJ,(Y i)[k]? = some (sC p)/\p.nu=k:=λ k hk=>⟨l[k]' zy,he i k zy hk,(hc.1 k zy).nu_⟩
   rw[hd i h];generalize l[i]=s at *;obtain⟨hm,q,ho,hy,hq,hr⟩:=hj;obtain⟨e,hs,h6⟩:=Gn s (by have:=q.2.2.1;omega) (by have:=q.2.2.2.1;omega)
   obtain rfl:e=0:=hs.2 hm;have h7:=Hw s q;rw[Q7 (show s.sk=s.au/\s.sd.toList=(Bk s).toList from ⟨hq,hr⟩)] at h7
   have ht:=I4 s (by have:=q.2.2.1;omega) (by have:=q.2.2.2.1;omega)
   have u:=hb i hi;have h0:=h3 i;generalize Y i=X at *;have h8:(s.au != au)=false:=by simp[ho]
   refine AI (arc ⟨96,[(0,.I au),(1,AF l),(5,.rs 16 0 i),(6,.I i),(7,.pv (sC s))],[(16,some ⟨13,X,0⟩)],120⟩ ?_ ?_)
   .simp [hg,AZ]
    exact Le.Z1 h0 16 16 [104] rfl rfl zz zz rfl zz
   refine AC (arc ⟨96,[(0,.I au),(1,AF l),(5,.rs 16 0 i),(6,.I i),(7,.pv (sC s)),(32,.B false)],[(16,some ⟨13,X,0⟩)],232⟩ ?_ ?_)
   .simp [h8]
    refine Ay h6 ?_;simp;refine Ay h7 ?_;simp;exact BD
   refine AD _ rfl (λ h=>by cases h) λ _=>AE ?_
   refine arc ⟨96,[(0,.I au),(1,AF l),(5,.rs 16 0 i),(6,.I i),(7,.pv (sC s)),(8,.I (0:Nat))],[(16,some ⟨13,X,0⟩)],240⟩ ?_ ?_
   .simp
    exact BD
   refine AC (AI (Ag (ι:=Nat) (λ k=>⟨96,[(0,.I au),(1,AF l),(5,.rs 16 0 i),(6,.I i),(7,.pv (sC s)),(8,.I k)],[(16,some ⟨13,X,0⟩)],240⟩) (λ k=>k<=i) (λ k=>i - k) 0 (Qh _) (Le.refl _ _) ?_));intro k hk;refine AC (BM ⟨96,[(0,.I au),(1,AF l),(5,.rs 16 0 i),(6,.I i),(7,.pv (sC s)),(8,.I k),(68,.B (decide (k<i)))],[(16,some ⟨13,X,0⟩)],528⟩ ?_ ?_)
   .by_cases h1:k<i
    .obtain ⟨p,hu,hz⟩:=h5 k h1
     have hv:p.nu<s.nu:=zy
     simp[h1,hu,hv];exact⟨rfl,BD⟩
    .simp [h1]
     exact⟨rfl,BD⟩
   refine AD _ rfl (λ h4=>AE ?_) λ h4=>Aa (Ab ?_)
   .simp only[Qb] at h4
    have hw:=wq (k:=k);refine AI (AU rfl ?_);simp[hw];exact⟨k+1,zy,zy,Le.Z1 h0 16 16 [] rfl rfl zz zz rfl zz⟩
   simp only[Qd] at h4;obtain rfl:k=i:=zy
   refine AC (BM ⟨96,[(0,.I au),(1,AF l),(5,.rs 16 0 k),(6,.I k),(7,.pv (sC s)),(8,.I k),(82,.B false)],[(16,some ⟨13,X,0⟩)],624⟩ ?_ ?_)
   .simp
    exact⟨rfl,BD⟩
   refine AD _ rfl (λ h=>by cases h) λ _=>AE ?_
   have h2:List.take k X=X:=Qc zy
   have h9:List.drop k X=[]:=Q4 zy
   have ha:∀ ρ sn h m,(X++[sC s]).map (List.map (conv ρ sn h (m+1)))=X++[sC s]:=λ ρ sn h m=>by rw[List.map_append,h0];simp
   refine Cn rfl ?_;simp[u,h2,h9];refine⟨zy,zy,?_⟩
   refine Ay ht ?_;simp[u,h2,h9]
   repeat' apply And.intro
   all_goals first | omega | rfl | exact Le.Z1 ha 712 16 [] rfl rfl zz zz (by simp[h2,u]<;>exact Qc (by simp[u])) zz
  have hx:=wq (k:=i);refine AU rfl ?_;simp[hx];exact⟨i+1,zy,zy,Le.Z1 (h3 (i+1)) 16 16 [] rfl rfl zz zz rfl zz⟩
 simp only[Qd] at h;obtain rfl:i=l.length:=zy
 rw[hf];refine AC (Ad ?_);exact CD [16] []
theorem YF (au:Int) (l:List AJ) (hc:Cg au l) (hl:l.length<=1000):AK 43 [.I au,AF l] [] (.rs 0 0 l.length) [some ⟨13,l.map sC,0⟩]:=by
 refine Mf.s.ac ?_;show AQ _ 0 _ _ ⟨76,[(0,.I au),(1,AF l)],[],16⟩;refine BE ⟨76,[(0,.I au),(1,AF l)],[],24⟩ rfl (by simp;exact AM [] zz) ?_
 refine arc ⟨76,[(5,AF l)],[],56⟩ ?_ ?_
 .simp
  refine Cu (Yx au l hc hl) rfl ?_;simp[AB];exact AM [40] (by simp[AB];exact Dy (congrArg _ (Qc zz)))
 refine BE ⟨76,[(5,AF l),(6,.sc (.slice none 0 0))],[],64⟩ rfl (by simp;exact AM [] zz) ?_
 refine AC (BE ⟨76,[(5,AF l),(6,.sc (.slice none 0 0)),(7,.I (0:Nat))],[],72⟩ rfl (by simp;exact AM [] zz) ?_)
 let Y:Nat->List (List AV):=λ i=>(l.take i).map sC
 have he:∀ i,i<=l.length->(Y i).length=i:=λ i hi=>by simp[Y];omega
 have h0:∀ i ρ sn h m,(Y i).map (List.map (conv ρ sn h (m+1)))=Y i:=λ i=>Ff _
 have hf:∀ i (h:i<l.length),Y (i+1)=Y i++[sC l[i]]:=λ i h=>by
  simp only[Y];rw[Ql h,List.map_append];rfl
 have hh:∀ i k (h:k<l.length),k<i->(Y i)[k]? = some (sC l[k]):=λ i k h hk=>by
  simp only[Y];rw[QG,Q5,if_pos hk,Qa h];rfl
 have hm:Y l.length=l.map sC:=by simp only[Y];rw[QP]
 have ho:Y 0=[]:=rfl
 clear_value Y
 refine AI (Ag (ι:=Nat) (λ i=>⟨76,[(5,AF l),(6,.rs 16 0 i),(7,.I i)],[(16,some ⟨13,Y i,0⟩)],72⟩) (λ i=>i<=l.length) (λ i=>l.length - i) 0 (Qh _) (Le.lst [] [] [(16,13)] rfl zz zz zz zz zz zz zz (by simp[Up]) (by simp[ho])) ?_)
 intro i hi;refine AC (arc ⟨76,[(5,AF l),(6,.rs 16 0 i),(7,.I i),(15,.B (decide (i<l.length)))],[(16,some ⟨13,Y i,0⟩)],104⟩ ?_ ?_)
 .simp
  exact BD
 refine AD _ rfl (λ h=>AE ?_) λ h=>Aa (Ab ?_)
 .simp only[Qb] at h
  refine BO ⟨76,[(5,AF l),(6,.rs 16 0 (i+1)),(7,.I i)],[(16,some ⟨13,Y (i+1),0⟩)],800⟩ ?_ ?_
  .have hq:=hc.1 i h
   have hg:l[i]? = some l[i]:=Qa h;have hr:i+1<l.length -> ∃ p:AJ,l[i+1]? = some p/\p.nu=i+1:=λ hk=>⟨l[i+1],Qa hk,by have:=(hc.1 (i+1) hk).nu_;omega⟩
   have hs:∀ j,i=j+1 -> ∃ p:AJ,(Y i)[j]? = some (sC p)/\p.ki≠3/\BJ p/\p.nu=j/\Fj p l[i]:=λ j hj=>by
    subst hj;have h1:=hc.1 j zy
    have h2:=hc.2 j h;have h3:=hc.1 (j+1) h;exact⟨l[j]' zy,hh _ j zy zy,h2.ki_,h1.b,h1.nu_,by rw[h3.au_,h1.au_],by rw[h3.nu_,h1.nu_];rfl,h2.pr_,h2.ti_⟩
   rw[hf i h];generalize l[i]=s at *;have ht:=hq.nu_;have h4:=he i hi;have hu:=h0 i;generalize Y i=X at *;have u:(s.nu != (i:Int))=false:=by simp[ht]
   refine AI (arc ⟨76,[(5,AF l),(6,.rs 16 0 i),(7,.I i),(8,.I i)],[(16,some ⟨13,X,0⟩)],128⟩ ?_ ?_)
   .simp
    exact BD
   refine AC (arc ⟨76,[(5,AF l),(6,.rs 16 0 i),(7,.I i),(8,.I i),(43,.B false)],[(16,some ⟨13,X,0⟩)],320⟩ ?_ ?_)
   .obtain ⟨i1,hv⟩:=AL (i+1)
    have h5:IntKind.i64.wrap ((i:Int)+1)=(i1:Int):=by rw[w6];omega
    by_cases hk:i1<l.length
    .obtain ⟨p,q,h6⟩:=hr zy
     rw[<- hv] at q;have hw:(p.nu == (i:Int))=false:=zu
     obtain⟨_,h7⟩:=Qu.1 q;simp[hg,u,h5,hk,h7,hw];exact BD
    .simp [hg,u,h5,hk]
     exact BD
   refine AD _ rfl (λ h=>by cases h) λ _=>AE ?_
   refine AC (BM ⟨76,[(5,AF l),(6,.rs 16 0 i),(7,.I i),(8,.I i),(67,.B false)],[(16,some ⟨13,X,0⟩)],512⟩ ?_ ?_)
   .rcases Q8 i with rfl | hi0
    .simp
     exact⟨rfl,BD⟩
    .obtain ⟨j,hj⟩:∃ j,i=j+1:=⟨i - 1,zy⟩
     obtain⟨p,q,h6,hx,a1,hy⟩:=hs j hj;have h8:IntKind.i64.wrap ((i:Int) - 1)=(j:Int):=by rw[w6];omega
     have h9:=NE p s hx zy zy
     rw[Q7 hy] at h9;have hz:(p.ki == 3)=false:=by simp[h6]
     have ha:j<i:=zy
     simp[hi0,h8,ha,q,hg];refine Ay h9 ?_;simp[h8,ha,q,hz];exact⟨rfl,BD⟩
   refine AD _ rfl (λ h=>by cases h) λ _=>AE ?_
   have hb:List.take i X=X:=Qc zy
   have hd:∀ ρ sn h m,(X++[sC s]).map (List.map (conv ρ sn h (m+1)))=X++[sC s]:=λ ρ sn h m=>by rw[List.map_append,hu];simp
   refine AU rfl ?_;simp[h4,hb,hg]
   repeat' apply And.intro
   all_goals first | omega | exact Le.Z1 hd 560 16 [] rfl rfl zz zz (by simp[hb,h4]) zz
  have a0:=wq (k:=i);refine AU rfl ?_;simp[a0];exact⟨i+1,zy,zy,Le.Z1 (h0 (i+1)) 16 16 [] rfl rfl zz zz rfl zz⟩
 simp only[Qd] at h;obtain rfl:i=l.length:=zy
 rw[hm];refine AC (Ad ?_);exact CD [16] []
abbrev GD:ByteArray:=⟨#[]⟩
def zS:AJ:=⟨0,0,GD,0,0,0,0,0,[],[],GD,0,GD⟩
abbrev zC:List AV:=[.I 0,.I 0,.sc (.string GD),.I 0,.I 0,.I 0,.I 0,.I 0,.sc (.slice none 0 0),.sc (.slice none 0 0),.sc (.string GD),.I 0,.sc (.string GD)]
theorem JA:Wk (.agg zC) (eS zS) :=
 .agg _ _ rfl λ i=>match i with
  | 0=>.refl _ | 1=>.refl _ | 2=>.refl _ | 3=>.refl _ | 4=>.refl _ | 5=>.refl _ | 6=>.refl _ | 7=>.refl _
  | 8=>.nil _ _ | 9=>.nil _ _ | 10=>.refl _ | 11=>.refl _ | 12=>.refl _ | _+13=>.refl _
def G6 (l:List AJ):ByteArray:=match l.getLast? with | none=>GD | some p=>Bk p
def KT (au:Int) (l:List AJ) (s:AJ):AJ:={ s with au:=au,nu:=l.length,pr:=G6 l }
def nx (au:Int) (l:List AJ) (s:AJ):AJ:={ KT au l s with sk:=au,sd:=Bk (KT au l s) }
def E0 (l:List AJ) (s:AJ):Prop:=∃ p,l.getLast? = some p/\s.ti<p.ti
def FG (l:List AJ):Prop:=∃ p,l.getLast? = some p/\p.ki=3
theorem L8 (au:Int) (l:List AJ) (s:AJ) (hc:Cg au l) (hl:l.length<=1000) (hs:BJ s) (eC e:Int) (x:AJ) (hb:AK 71 [eS (nx au l s)] [] (.I eC) []) (h9:E0 l s->e=9/\x=zS) (h5:¬ E0 l s->FG l->e=5/\x=zS) (h0:¬ E0 l s->¬ FG l->e=eC/\(eC=0->x=nx au l s)/\(eC≠0->x=zS)) :
  AK 101 [.I au,AF l,eS s] [] (.tup [eS x,.I e]) []:=by
 refine Xa.s.ac ?_;show AQ _ 0 _ _ ⟨62,[(0,.I au),(1,AF l),(2,eS s)],[],16⟩;have hr:=hs.2.2.1;have ht:=hs.2.2.2.1;refine arc ⟨62,[(0,.I au),(1,AF l),(5,.pt 16 0 0),(6,.pt 24 0 0)],[(16,some ⟨13,[sC s],0⟩),(24,some ⟨13,[zC],0⟩)],40⟩ ?_ ?_
 .simp
  exact BD
 refine AC (arc ⟨62,[(0,.I au),(1,AF l),(5,.pt 16 0 0),(6,.pt 24 0 0),(21,.B false)],[(16,some ⟨13,[sC s],0⟩),(24,some ⟨13,[zC],0⟩)],128⟩ ?_ ?_)
 .by_cases h3:0<l.length
  .have hu:=ZG l zy λ y hy=>by
    obtain⟨i,hi,rfl⟩:=Qr.1 hy;have:=(hc.1 i hi).b;have h1:=this.2.2.1;have h2:=this.2.2.2.1;exact⟨zy,zy⟩
   have hv:List.take l.length (l.map sC)=l.map sC:=Qc zz
   simp[h3];refine Cu (YF au l hc hl) rfl ?_;simp[AB];refine G9 [88] hu (by simp[AB];exact hv) (.sc _) ?_
   simp;exact BD
  .simp [h3]
   exact BD
 refine AD _ rfl (λ h=>by cases h) λ _=>AE ?_
 refine arc ⟨62,[(0,.I au),(1,AF l),(5,.pt 16 0 0),(6,.pt 24 0 0)],[(16,some ⟨13,[sC s],0⟩),(24,some ⟨13,[zC],0⟩)],152⟩ ?_ ?_
 .simp
  refine Ay (I4 s zy zy) ?_
  simp[AZ];exact BD
 obtain⟨s1,h8⟩:∃ s1:AJ,s1={ s with au:=au,nu:=0,pr:=GD }:=⟨_,rfl⟩;refine arc ⟨62,[(0,.I au),(1,AF l),(5,.pt 16 0 0),(6,.pt 24 0 0)],[(16,some ⟨13,[sC s1],0⟩),(24,some ⟨13,[zC],0⟩)],208⟩ ?_ ?_
 .simp [AZ]
  exact Le.keep rfl (Qg _) zz (by simp[h8])
 obtain⟨s2,ha⟩:∃ s2:AJ,s2=KT au l s:=⟨_,rfl⟩;have hd:∀ v,AG [(6,some (true,13)),(7,none)] 0 v (.tup [eS x,.I e]) []->AG [(6,some (true,13)),(7,none)] 0 v (.tup [eS x,.I e]) []:=λ _ h=>h;refine Bn (ι:=Unit) (λ _=>⟨62,[(5,.pt 16 0 0),(6,.pt 24 0 0)],[(16,some ⟨13,[sC s2],0⟩),(24,some ⟨13,[zC],0⟩)],500⟩) (λ _=>¬ E0 l s/\¬ FG l) ?_ ?_
 .refine arc ⟨62,[(0,.I au),(1,AF l),(5,.pt 16 0 0),(6,.pt 24 0 0),(8,.I l.length)],[(16,some ⟨13,[sC s1],0⟩),(24,some ⟨13,[zC],0⟩)],232⟩ ?_ ?_
  .simp
   exact BD
  refine arc ⟨62,[(0,.I au),(1,AF l),(5,.pt 16 0 0),(6,.pt 24 0 0),(8,.I l.length),(32,.B (decide (0<l.length)))],[(16,some ⟨13,[sC s1],0⟩),(24,some ⟨13,[zC],0⟩)],248⟩ ?_ ?_
  .simp
   exact BD
  refine AD _ rfl (λ h=>?_) λ h=>AE ?_
  .simp only[Qb] at h
   obtain⟨j,hj⟩:∃ j,l.length=j+1:=⟨l.length - 1,zy⟩
   have hf:j<l.length:=zy
   obtain⟨p,hp⟩:∃ p,l[j]=p:=⟨_,rfl⟩;have hg:l[j]? = some p:=by rw[Qa hf,hp]
   have u:l.getLast? = some p:=by rw[List.getLast?_eq_getElem?,hj];exact hg
   have hw:BJ p:=by rw[<- hp];exact(hc.1 j hf).b
   have hx:IntKind.i64.wrap ((l.length:Int) - 1)=(j:Int):=by rw[w6];omega
   refine arc ⟨62,[(1,AF l),(5,.pt 16 0 0),(6,.pt 24 0 0),(8,.I l.length),(9,.pv (sC p))],[(16,some ⟨13,[sC s1],0⟩),(24,some ⟨13,[zC],0⟩)],304⟩ ?_ ?_
   .simp [hx,hg,AZ]
    refine Le.ents [(16,16),(24,24)] [288] rfl zz zz zz zz zz zz λ q hq=>?_
    simp at hq;rcases hq with rfl | rfl
    .exact ⟨16,_,_,rfl,zz,rfl,Av.eq zz zz⟩
    .exact ⟨24,_,_,rfl,zz,rfl,Av.eq zz zz⟩
   refine AC (arc ⟨62,[(1,AF l),(5,.pt 16 0 0),(6,.pt 24 0 0),(8,.I l.length),(9,.pv (sC p)),(42,.B (decide (s.ti<p.ti)))],[(16,some ⟨13,[sC s1],0⟩),(24,some ⟨13,[zC],0⟩)],344⟩ ?_ ?_)
   .simp
    exact Le.keep rfl (Qg _) (by simp[h8]) zz
   refine AD _ rfl (λ h=>?_) λ h=>AE ?_
   .simp only[Qb] at h
    obtain⟨rfl,rfl⟩:=h9 ⟨p,u,h⟩;refine AC (BA (s:=?t1) rfl ?o1 ?q1)
    case o1=>simp[AZ];rfl
    refine AO ⟨.inr rfl,hd _ (AG.out (vs:=[.agg zC,.I 9]) [] [] zz zz zz ?_ zz)⟩
    simp;exact Cs JA (.refl _)
   simp only[Qd] at h
   have h4:¬ E0 l s:=by
    rintro⟨p',h1,h2⟩
    rw[u] at h1
    cases h1;exact h h2
   refine AC (arc ⟨62,[(1,AF l),(5,.pt 16 0 0),(6,.pt 24 0 0),(8,.I l.length),(9,.pv (sC p)),(46,.B (decide (p.ki=3)))],[(16,some ⟨13,[sC s1],0⟩),(24,some ⟨13,[zC],0⟩)],368⟩ ?_ ?_)
   .simp
    exact Le.keep rfl (Qg _) (by simp<;>rw[Qk]<;>simp) zz
   refine AD _ rfl (λ h=>?_) λ h=>AE ?_
   .simp only[Qb] at h
    obtain⟨rfl,rfl⟩:=h5 h4 ⟨p,u,h⟩;refine AC (BA (s:=?t2) rfl ?o2 ?q2)
    case o2=>simp[AZ];rfl
    refine AO ⟨.inr rfl,hd _ (AG.out (vs:=[.agg zC,.I 5]) [] [] zz zz zz ?_ zz)⟩
    simp;exact Cs JA (.refl _)
   simp only[Qd] at h
   have h6:¬ FG l:=by
    rintro⟨p',h1,h2⟩
    rw[u] at h1
    cases h1;exact h h2
   have h7:s2={ s with au:=au,nu:=l.length,pr:=Bk p }:=by rw[ha,KT,G6,u]
   refine AU rfl ?_;simp;refine Ay (L6 p hw) ?_;simp[AZ];refine⟨⟨h4,h6⟩,?_⟩;refine Le.keep rfl zz zz (by simp[h7,h8])
  .simp only[Qd] at h
   have h3:l=[]:=Qy zy
   have h4:¬ E0 l s:=by
    rintro⟨p',h1,h2⟩
    rw[h3] at h1
    cases h1
   have h6:¬ FG l:=by
    rintro⟨p',h1,h2⟩
    rw[h3] at h1
    cases h1
   have h7:s2=s1:=by rw[ha,h8,KT,G6,h3];rfl
   rw[h7];exact⟨(),⟨h4,h6⟩,Le.keep rfl zz zz zz⟩
 rintro _ ⟨h4,h6⟩
 obtain⟨he,hh,a0⟩:=h0 h4 h6
 have a2:(G6 l).size<=32:=by
  unfold G6;split
  .decide
  .rw [Od];exact Qg _
 have hk:BJ s2:=by
  rw[ha];exact⟨by show (G6 l).size<=5000;omega,hs.2.1,hr,ht,hs.2.2.2.2⟩
 obtain⟨s3,hm⟩:=AL (nx au l s);have ho:s3={ s2 with sk:=s2.au,sd:=Bk s2 }:=by rw[hm,ha];rfl
 rw[<- hm] at hb hh;refine arc ⟨62,[(5,.pt 16 0 0),(6,.pt 24 0 0)],[(16,some ⟨13,[sC s3],0⟩),(24,some ⟨13,[zC],0⟩)],524⟩ ?_ ?_
 .simp
  refine Ay (Xq s2 hk) ?_;simp[AZ];exact Le.keep rfl (Qg _) zz (by simp[ho])
 refine AC (arc ⟨62,[(5,.pt 16 0 0),(6,.pt 24 0 0),(10,.I eC)],[(16,some ⟨13,[sC s3],0⟩),(24,some ⟨13,[zC],0⟩)],548⟩ ?_ ?_)
 .simp
  refine Ay hb ?_;simp;exact BD
 refine arc ⟨62,[(5,.pt 16 0 0),(6,.pt 24 0 0),(10,.I eC),(58,.B (decide (eC≠0)))],[(16,some ⟨13,[sC s3],0⟩),(24,some ⟨13,[zC],0⟩)],564⟩ ?_ ?_
 .simp
  exact Le.keep rfl (Qg _) (by simp<;>rw[Qk]<;>simp) zz
 refine AD _ rfl (λ h=>?_) λ h=>AE ?_
 .simp only[Qb] at h
  obtain rfl:=a0 h;subst he;refine AC (BA (s:=?t3) rfl ?o3 ?q3)
  case o3=>simp[AZ];rfl
  refine AO ⟨.inr rfl,hd _ (AG.out (vs:=[.agg zC,.I e]) [] [] zz zz zz ?_ zz)⟩
  simp;exact Cs JA (.refl _)
 have hz:eC=0:=by simpa using h
 have a1:=hh hz;subst he;rw[hz];refine AC (BA (s:=?t4) rfl ?o4 ?q4)
 case o4=>simp[AZ];rfl
 refine AO ?_;rw[a1];refine⟨.inr rfl,?_⟩;show AG [(6,some (true,13)),(7,none)] 0 _ _ _;refine AG.out (vs:=[eS s3,.I 0]) [] [] zz zz zz ?_ zz
 simp
theorem aR {au:Int} {l:List AJ} {s:AJ} (hc:Cg au l) (hs:BJ s) (hT:¬ E0 l s) (hK:¬ FG l) (h0:DC (nx au l s)):Cg au (l++[nx au l s]):=by
 have h3:(G6 l).size<=32:=by
  unfold G6;split
  .decide
  .rw [Od];exact Qg _
 have hb:BJ (nx au l s):=⟨by show (G6 l).size<=5000;omega,hs.2.1,hs.2.2.1,hs.2.2.2.1,hs.2.2.2.2⟩
 have h2:Ez au l.length (nx au l s):=⟨h0,hb,rfl,rfl,rfl,rfl⟩;constructor
 .intro i hi
  rw[Qe,Q6] at hi
  by_cases h:i<l.length
  .rw [Q1 h]
   exact hc.1 i h
  .obtain rfl:i=l.length:=zy
   rw[UN (Qg _)];simp only[Nat.sub_self,List.getElem_singleton];exact h2
 .intro i hi
  have hi':=hi;rw[Qe,Q6] at hi
  by_cases h:i+1<l.length
  .rw [Q1 h,Q1 zy]
   exact hc.2 i h
  .have u:i<l.length:=zy
   have e1:l.length=i+1:=zy
   have q:l.getLast? = some l[i]:=by rw[List.getLast?_eq_getElem?,e1];exact Qa u
   have e2:(l++[nx au l s])[i+1]=nx au l s:=by
    rw[UN zy]
    simp
   rw[Q1 u,e2];refine⟨?_,?_,?_⟩
   .show (G6 l).toList=_
    rw[G6,q]
   .rcases Int.lt_or_le s.ti l[i].ti with h1 | h1
    .exact absurd ⟨_,q,h1⟩ hT
    .exact h1
   .exact λ h1=>hK ⟨_,q,h1⟩
structure Ac where
 fr:Int
 to:Int
 lv:Int
 nu:Int
 ti:Int
 en:Int
 re:Int
abbrev vC (v:Ac):List AV:=[.I v.fr,.I v.to,.I v.lv,.I v.nu,.I v.ti,.I v.en,.I v.re]
abbrev eV (v:Ac):AV:=.agg (vC v)
abbrev AP (l:List Ac):List (List AV):=l.map vC
abbrev Ax (l:List Ac):AV:=.vs 7 false (AP l)
def Gc (aA:List AV):Prop:=∀ ρ sn h n,aA.map (conv ρ sn h (n+1))=aA
def Di (c:Ac->Ac->Int):List Ac->Ac->List Ac
 | [],x=>[x]
 | y::r,x=>if c x y<0 then y::Di c r x else x::y::r
def FL (c:Ac->Ac->Int) (M:List Ac):List Ac:=M.foldl (Di c) []
def DN (c:Ac->Ac->Int) (M:List Ac):List Ac:=(FL c M).reverse
theorem Oh (c:Ac->Ac->Int):∀ (r:List Ac) (x:Ac),(Di c r x).Perm (x::r)
 | [],x=>.refl _
 | y::r,x=>by
   unfold Di;split
   .exact ((Oh c r x).cons y).trans (.swap _ _ _)
   .exact .refl _
theorem Zj (c:Ac->Ac->Int) (M:List Ac) (k:Nat) (h:k<M.length):FL c (M.take (k+1))=Di c (FL c (M.take k)) M[k]:=by
 unfold FL;rw[<- UH h,UF,U1];rfl
theorem MH (c:Ac->Ac->Int) (M:List Ac):(FL c M).Perm M:=by
 have key:∀ (M acc:List Ac),(M.foldl (Di c) acc).Perm (M++acc):=by
  intro M
  induction M with
  | nil=>intro acc;exact .refl _
  | cons x M ih =>
    intro acc;refine(ih _).trans ?_;refine((Oh c acc x).append_left M).trans ?_;simp only[UW];exact List.perm_middle
 simpa [FL] using key M []
theorem JW (c:Ac->Ac->Int) (M:List Ac):(FL c M).length=M.length:=(MH c M).length_eq
theorem WZ (c:Ac->Ac->Int) (x:Ac):FL c [x]=[x]:=rfl
theorem Le.npV {st st':St} {D:List Ac} (sn:List Nat) (q:st'.sz=st.sz) (hn:1<=st'.n) (hh:st'.h=[(0,some ⟨7,AP D,0⟩)]) (hs:∀ k∈sn,1<=k) (he:st.hp 0=some ⟨7,AP D,0⟩) (ht:∀ p∈st'.t,Wk (conv [(0,0)] sn st.hp 4 (st.get p.1)) p.2):Le 1 st st' :=
 Le.ents [(0,0)] sn q zz zz zu (λ k hk=>⟨hs k hk,by have:=hs k hk;simp;omega⟩) hn ht (λ p hp=>by
  rw[hh] at hp;simp at hp;subst hp
  exact⟨0,_,_,rfl,zz,he,Av.eq zw zz⟩)
theorem L9 {H T:List Ac} {y x:Ac} {h:Nat} (hh:H.length=h):(AP (H++y::x::T))[h]? = some (vC y)/\(AP (H++y::x::T))[h+1]? = some (vC x):=by
 subst hh;constructor
 .rw [QG,Qt zy]
  simp
 .rw [QG,Qt zy]
  simp
theorem Tc {H T:List Ac} {y x:Ac} {h:Nat} (hh:H.length=h):((AP (H++y::x::T)).set (h+1) (vC y)).set h (vC x)=AP (H++x::y::T):=by
 subst hh;simp[AP]
theorem Ox (f:FuncId) (aA:List AV) (c:Ac->Ac->Int) (A M B:List Ac) (n a b:Nat) (hn:(A++M++B).length=n) (ha:A.length=a) (hb:a+M.length=b) (hl:n<=1000000) (hs:Gc aA) (hc:∀ x∈M,∀ y∈M,AK f (eV x::eV y::aA) [] (.I (c x y)) []) :
  AK 295 [.rs 0 0 n,.I a,.I b,.fn (.func f) [] aA] [⟨7,AP (A++M++B),0⟩] (.tup []) [some ⟨7,AP (A++DN c M++B),0⟩]:=by
 have h7:∀ ρ sn h,aA.map (conv ρ sn h 2)=aA:=λ _ _ _=>hs _ _ _ 1
 have h8:∀ ρ sn h,aA.map (conv ρ sn h 3)=aA:=λ _ _ _=>hs _ _ _ 2
 have h3:∀ ρ sn h,aA.map (conv ρ sn h 4)=aA:=λ _ _ _=>hs _ _ _ 3
 refine jR.s.acalls (AW rfl) (AW rfl) (AW rfl) ?_;show AQ _ 1 _ _ ⟨53,[(0,.rs 0 0 n),(1,.I a),(2,.I b),(3,.fn (.func f) [] aA)],[(0,some ⟨7,AP (A++M++B),0⟩)],16⟩
 have a9:a+(M.length+B.length)=n:=by
  simp only[Qe] at hn;omega
 have ai:b<=n:=zy
 have hw:=wq (k:=a)
 let Lk:Nat->List Ac:=λ k=>A++((FL c (M.take k)).reverse++(M.drop k++B))
 have a0:A++M++B=Lk 1:=by
  cases M with
  | nil=>simp[Lk,FL]
  | cons m M=>simp[Lk,WZ]
 rw[a0];refine arc ⟨53,[(0,.rs 0 0 n),(1,.I a),(2,.I b),(3,.fn (.func f) [] aA),(8,.I (a+1:Nat))],[(0,some ⟨7,AP (Lk 1),0⟩)],40⟩ ?_ ?_
 .simp [hw]
  exact BD
 refine AI (Ag (ι:=Nat) (λ k=>⟨53,[(0,.rs 0 0 n),(1,.I a),(2,.I b),(3,.fn (.func f) [] aA),(8,.I (a+k:Nat))],[(0,some ⟨7,AP (Lk k),0⟩)],40⟩) (λ k=>1<=k/\k<=M.length+1/\(M.length<=k->AP (Lk k)=AP (A++DN c M++B))) (λ k=>M.length+1 - k) 1 ?_ (Le.refl _ _) ?_)
 .refine ⟨Qg _,zy,λ h=>?_⟩
  simp only[Lk];rw[Qc h,Q4 h];simp[DN]
 rintro k ⟨am,an,a1⟩
 refine AC (arc ⟨53,[(0,.rs 0 0 n),(1,.I a),(2,.I b),(3,.fn (.func f) [] aA),(8,.I (a+k:Nat)),(14,.B (decide (k<M.length)))],[(0,some ⟨7,AP (Lk k),0⟩)],64⟩ ?_ ?_)
 .simp
  exact Le.keep rfl (Qg _) (by simp<;>omega) zz
 refine AD _ rfl (λ h=>AE ?_) λ h=>Aa (Ab ?_)
 .simp only[Qb] at h
  refine BO ⟨53,[(0,.rs 0 0 n),(1,.I a),(2,.I b),(3,.fn (.func f) [] aA),(8,.I (a+k:Nat))],[(0,some ⟨7,AP (Lk (k+1)),0⟩)],64⟩ ?_ ?_
  .have hx:M[k]∈M:=Qi h
   have hd:M.drop k=M[k]::M.drop (k+1):=QX h;have hf:=Zj c M k h;generalize M[k]=x at *;obtain⟨D,hD⟩:=AL (M.drop (k+1)++B);obtain⟨R,hR⟩:=AL (FL c (M.take k))
   have a2:∀ y∈R,y∈M:=λ y hy=>by
    rw[hR] at hy;exact QQ ((MH c _).mem_iff.1 hy)
   have hm:R.length=k:=by rw[hR,JW];simp;omega
   have aq:D.length+k+1=M.length+B.length:=by rw[hD];simp;omega
   have a3:Lk k=A++R.reverse++x::D:=by simp only[Lk];rw[hd,<- hR,hD];simp
   have ho:Lk (k+1)=A++(Di c R x).reverse++D:=by simp only[Lk];rw[hf,<- hR,hD];simp
   rw[a3,ho];refine AI (arc ⟨53,[(0,.rs 0 0 n),(1,.I a),(2,.I b),(3,.fn (.func f) [] aA),(8,.I (a+k:Nat)),(9,.I (a+k:Nat))],[(0,some ⟨7,AP (A++R.reverse++x::D),0⟩)],80⟩ ?_ ?_)
   .simp
    exact BD
   refine AI ?_
   let C:List Ac × List Ac->St:=λ p=>⟨53,[(0,.rs 0 0 n),(1,.I a),(2,.I b),(3,.fn (.func f) [] aA),(8,.I (a+k:Nat)),(9,.I (a+p.2.length:Nat))],[(0,some ⟨7,AP (A++p.2.reverse++x::(p.1++D)),0⟩)],80⟩
   refine Ag C (λ p:List Ac × List Ac=>Di c R x=p.1.reverse++Di c p.2 x/\p.1.length+p.2.length=k /\ ∀ y∈p.2,y∈M) (λ p:List Ac × List Ac=>p.2.length) ([],R) ⟨rfl,by simpa using hm,a2⟩ ?_ ?_
   .simp only[C,hm,UJ]
    exact Le.refl _ _
   rintro⟨U,V⟩ ⟨u,h0,h1⟩
   simp only at u h0 h1
   match V,u,h0,h1 with
   | [],u,h0,h1 =>
     have hC:C (U,[])=⟨53,[(0,.rs 0 0 n),(1,.I a),(2,.I b),(3,.fn (.func f) [] aA),(8,.I (a+k:Nat)),(9,.I a)],[(0,some ⟨7,AP (A++x::(U++D)),0⟩)],80⟩:=by simp[C]
     rw[hC];refine AC (BM ⟨53,[(0,.rs 0 0 n),(1,.I a),(2,.I b),(3,.fn (.func f) [] aA),(8,.I (a+k:Nat)),(34,.B false)],[(0,some ⟨7,AP (A++x::(U++D)),0⟩)],216⟩ ?_ ?_)
     .simp
      exact⟨rfl,BD⟩
     refine AD _ rfl (λ h=>by cases h) λ h=>Aa (Ab ?_)
     have e:A++x::(U++D)=A++(Di c R x).reverse++D:=by rw[u];simp[Di]
     rw[<- e];exact Le.npV [] rfl zz rfl zz rfl (by simp[h7,h8,h3])
   | y::V',u,h0,h1 =>
     obtain⟨H,hH⟩:=AL (A++V'.reverse);obtain⟨T,hT⟩:=AL (U++D);obtain⟨q,hq⟩:=AL (a+V'.length);obtain⟨j,hj⟩:=AL (q+1);have h4:H.length=q:=by rw[hH,hq];simp;omega
     have hr:(H++y::x::T).length=n:=by
      have e:(H++y::x::T).length=H.length+(T.length+2):=zz
      rw[e,h4,hT,Qe];simp at h0;omega
     have hg:=(L9 (T:=T) (y:=y) (x:=x) h4).1;have hh:=(L9 (T:=T) (y:=y) (x:=x) h4).2;have h6:=Tc (T:=T) (y:=y) (x:=x) h4;rw[<- hj] at hh h6
     have hC:C (U,y::V')=⟨53,[(0,.rs 0 0 n),(1,.I a),(2,.I b),(3,.fn (.func f) [] aA),(8,.I (a+k:Nat)),(9,.I j)],[(0,some ⟨7,AP (H++y::x::T),0⟩)],80⟩:=by
      simp[C,hH,hT,hj,hq,UI]
     rw[hC];have a4:=hc x hx y (h1 y Qp);have ht:j<n:=by rw[<- hr,hj,<- h4];simp
     have hi:IntKind.i64.wrap ((j:Int) - 1)=(q:Int):=by rw[w6];omega
     have hu:q<n:=zy
     have a5:a<j:=zy
     have ag:(AP (H++y::x::T)).length=n:=by rw[AP,Qs,hr]
     generalize hX:AP (H++y::x::T)=X at *;have hk:∀ ρ sn h m,X.map (List.map (conv ρ sn h (m+1)))=X:=λ ρ sn h m=>by rw[<- hX];simp[AB]
     refine AC (BM ⟨53,[(0,.rs 0 0 n),(1,.I a),(2,.I b),(3,.fn (.func f) [] aA),(8,.I (a+k:Nat)),(9,.I j),(34,.B (decide (c x y<0)))],[(0,some ⟨7,X,0⟩)],216⟩ ?_ ?_)
     .simp [a5,ht,hu,hg,hh,hi]
      refine AT a4 ?_ ?_
      .simp [h3]
      simp;exact⟨rfl,BD⟩
     refine AD _ rfl (λ h5=>AE ?_) λ h5=>Aa (Ab ?_)
     .simp only[Qb] at h5
      have a6:(X.set j (vC y))[q]? = some (vC y):=by
       rw[UA,if_neg zy]
       exact hg
      generalize hY:AP (H++x::y::T)=Y at h6;refine BO ⟨53,[(0,.rs 0 0 n),(1,.I a),(2,.I b),(3,.fn (.func f) [] aA),(8,.I (a+k:Nat)),(9,.I j)],[(0,some ⟨7,Y,0⟩)],360⟩ ?_ ?_
      .refine AI (Cn rfl ?_)
       simp[ht,hu,hg,hh,a6,hi,AZ];exact⟨rfl,Le.keep rfl (Qg _) zz (by simp;exact h6)⟩
      refine AU rfl ?_;simp[hi];refine⟨y::U,V',⟨?_,?_,?_⟩,?_,?_⟩
      .rw [u,Di,if_pos h5];simp
      .simp at h0 ⊢;omega
      .exact λ z hz=>h1 z (Qo _ hz)
      .simp
      .have a7:C (y::U,V')=⟨53,[(0,.rs 0 0 n),(1,.I a),(2,.I b),(3,.fn (.func f) [] aA),(8,.I (a+k:Nat)),(9,.I q)],[(0,some ⟨7,Y,0⟩)],80⟩:=by rw[<- hY];simp[C,hH,hT,hq]
       rw[a7];have h9:∀ ρ sn h m,Y.map (List.map (conv ρ sn h (m+1)))=Y:=λ ρ sn h m=>by rw[<- hY];simp[AB]
       exact Le.ents [(0,0)] [] rfl zz zz zz zz zz (by simp[h7,h8,h3]) λ p hp=>by
        simp at hp;subst hp;exact⟨0,_,_,rfl,zz,rfl,Av.eq (by simp only[Ak,h9]) zz⟩
     .simp only[Qd] at h5
      have e:H++y::x::T=A++(Di c R x).reverse++D:=by rw[u,Di,if_neg h5,hH,hT];simp
      rw[<- e,hX]
      exact Le.ents [(0,0)] [] rfl zz zz zz zz zz (by simp[h7,h8,h3]) λ p hp=>by
       simp at hp;subst hp;exact⟨0,_,_,rfl,zz,rfl,Av.eq (by simp only[Ak,hk]) zz⟩
  have a8:IntKind.i64.wrap (((a+k:Nat):Int)+1)=((a+(k+1):Nat):Int):=by rw[w6];omega
  refine AU rfl ?_;have hv:IntKind.i64.wrap ((a:Int)+(k:Int)+1)=((a+(k+1):Nat):Int):=by rw[<- a8];congr 1
  simp[hv];refine⟨k+1,⟨zy,zy,λ h2=>?_⟩,zy,?_⟩
  .have he:M.length=k+1:=zy
   simp only[Lk];rw[Qc zy,Q4 zy]
   simp[DN]
  .exact Le.npV [] rfl zz rfl zz rfl (by simp[h7,h8,h3])
 simp only[Qd] at h;rw[a1 zy]
 exact⟨.inl rfl,⟨[],rfl,[],[],by simp[List.range,List.range.loop],zz,zz,zz,by simp[List.range,List.range.loop,AB]⟩⟩
theorem Yc (f:FuncId) (aA:List AV) (c:Ac->Ac->Int) (l:List Ac) (n:Nat) (hn:l.length=n) (hl:n<20) (hs:Gc aA) (hc:∀ x∈l,∀ y∈l,AK f (eV x::eV y::aA) [] (.I (c x y)) []) :
  AK 268 [.rs 0 0 n,.I n,.fn (.func f) [] aA] [⟨7,AP l,0⟩] (.tup []) [some ⟨7,AP (DN c l),0⟩]:=by
 have u:∀ ρ sn h,aA.map (conv ρ sn h 2)=aA:=λ _ _ _=>hs _ _ _ 1
 have h0:∀ ρ sn h,aA.map (conv ρ sn h 3)=aA:=λ _ _ _=>hs _ _ _ 2
 have h1:∀ ρ sn h,aA.map (conv ρ sn h 4)=aA:=λ _ _ _=>hs _ _ _ 3
 refine Tr.s.acalls (AW rfl) (AW rfl) (AW rfl) ?_;show AQ _ 1 _ _ ⟨63,[(0,.rs 0 0 n),(1,.I n),(2,.fn (.func f) [] aA)],[(0,some ⟨7,AP l,0⟩)],16⟩;have q:=Ox f aA c [] l [] n 0 n (by simpa using hn) rfl (by simpa using hn) zy hs hc
 simp only[UJ,QK] at q;refine AC (Ad ?_);refine arc ⟨63,[(0,.rs 0 0 n),(1,.I n),(2,.fn (.func f) [] aA),(6,.I 20),(7,.I 0),(8,.I 20)],[(0,some ⟨7,AP l,0⟩)],48⟩ ?_ ?_
 .simp
  exact BD
 refine AC (AI (Ag (ι:=Unit) (λ _=>⟨63,[(0,.rs 0 0 n),(1,.I n),(2,.fn (.func f) [] aA),(6,.I 20),(7,.I 0),(8,.I 20)],[(0,some ⟨7,AP l,0⟩)],48⟩) (λ _=>True) (λ _=>0) () trivial (Le.refl _ _) ?_));intro _ _;refine AC (arc ⟨63,[(0,.rs 0 0 n),(1,.I n),(2,.fn (.func f) [] aA),(6,.I 20),(7,.I 0),(8,.I 20),(13,.B false)],[(0,some ⟨7,AP l,0⟩)],72⟩ ?_ ?_)
 .simp
  exact Le.keep rfl (Qg _) zu zz
 refine AD _ rfl (λ h=>by cases h) λ _=>Aa (Ab ?_)
 refine arc ⟨63,[(1,.I n),(6,.I 20)],[(0,some ⟨7,AP (DN c l),0⟩)],112⟩ ?_ ?_
 .simp
  refine BX (i:=0) rfl (e':=⟨7,AP l,0⟩) zw q zz ?_ ?_
  .simp [u,h0,h1]
  simp[AB];exact BD
 refine AI (Ag (ι:=Unit) (λ _=>⟨63,[(1,.I n),(6,.I 20)],[(0,some ⟨7,AP (DN c l),0⟩)],112⟩) (λ _=>True) (λ _=>0) () trivial (Le.refl _ _) ?_);intro _ _;refine AC (arc ⟨63,[(1,.I n),(6,.I 20),(30,.B false)],[(0,some ⟨7,AP (DN c l),0⟩)],136⟩ ?_ ?_)
 .simp
  exact Le.keep rfl (Qg _) zu zz
 refine AD _ rfl (λ h=>by cases h) λ _=>Aa (Ab ?_)
 exact⟨.inl rfl,⟨[],rfl,[],[],by simp[List.range,List.range.loop],zz,zz,zz,by simp[List.range,List.range.loop,AB]⟩⟩
theorem kL (f:FuncId) (aA:List AV) (c:Ac->Ac->Int) (l:List Ac) (n:Nat) (hn:l.length=n) (hl:n<20) (hs:Gc aA) (hc:∀ x∈l,∀ y∈l,AK f (eV x::eV y::aA) [] (.I (c x y)) []) :
  AK 196 [.rs 0 0 n,.fn (.func f) [] aA] [⟨7,AP l,0⟩] (.tup []) [some ⟨7,AP (DN c l),0⟩]:=by
 have q:∀ ρ sn h,aA.map (conv ρ sn h 2)=aA:=λ _ _ _=>hs _ _ _ 1
 have u:∀ ρ sn h,aA.map (conv ρ sn h 3)=aA:=λ _ _ _=>hs _ _ _ 2
 have h0:∀ ρ sn h,aA.map (conv ρ sn h 4)=aA:=λ _ _ _=>hs _ _ _ 3
 refine Pd.s.acalls (AW rfl) (AW rfl) (AW rfl) ?_;show AQ _ 1 _ _ ⟨9,[(0,.rs 0 0 n),(1,.fn (.func f) [] aA)],[(0,some ⟨7,AP l,0⟩)],16⟩;refine BA (s:=?s1) rfl ?o1 ?q1
 case o1 =>
  simp;refine BX (i:=0) rfl (e':=⟨7,AP l,0⟩) zw (Yc f aA c l n hn hl hs hc) zz ?_ ?_
  .simp [q,u,h0]
  simp[AB];rfl
 exact⟨.inl rfl,⟨[],rfl,[],[],by simp[List.range,List.range.loop],zz,zz,zz,by simp[List.range,List.range.loop,AB]⟩⟩
def Ey (v s:AJ) (p:Int × Int):Prop:=s.au=v.au/\s.ki=2/\s.a=v.nu/\v.nu<s.nu/\(p.2<0∨s.nu<p.2)
instance (v s:AJ) (p:Int × Int):Decidable (Ey v s p):=by unfold Ey;infer_instance
def Hv (v:AJ) (p:Int × Int) (s:AJ):Int × Int:=if Ey v s p then (s.ti,s.nu) else p
def C8 (l:List AJ) (v:AJ):Int × Int:=l.foldl (Hv v) (-1,-1)
def FH (l:List AJ) (v:AJ):Int:=(C8 l v).1
theorem bX (l:List AJ) (v:AJ) (i:Nat) (h:i<l.length):C8 (l.take (i+1)) v=Hv v (C8 (l.take i) v) l[i]:=by
 unfold C8;rw[Ql h,U1];rfl
theorem Z9 (l:List AJ) (v:AJ) (hl:l.length<=1000000):AK 195 [AF l,eS v] [] (.I (FH l v)) []:=by
 refine Vk.s.ac ?_;show AQ _ 0 _ _ ⟨55,[(0,AF l),(1,eS v)],[],16⟩;refine arc ⟨55,[(0,AF l),(3,.pv (sC v))],[],32⟩ ?_ ?_
 .simp
  exact AM [16] zz
 refine BE ⟨55,[(0,AF l),(3,.pv (sC v)),(5,.I (-1)),(6,.I (-1))],[],48⟩ rfl (by simp;exact AM [] zz) ?_
 refine AC (arc ⟨55,[(3,.pv (sC v)),(5,.I (C8 (l.take 0) v).1),(6,.I (C8 (l.take 0) v).2),(9,AF l),(10,.I l.length),(11,.I (0:Nat))],[],72⟩ ?_ ?_)
 .simp
  exact AM [] (by simp[C8])
 refine AI (Ag (ι:=Nat) (λ i=>⟨55,[(3,.pv (sC v)),(5,.I (C8 (l.take i) v).1),(6,.I (C8 (l.take i) v).2),(9,AF l),(10,.I l.length),(11,.I i)],[],72⟩) (λ i=>i<=l.length) (λ i=>l.length - i) 0 (Qh _) (Le.refl _ _) ?_);intro i hi;refine BE ⟨55,[(3,.pv (sC v)),(5,.I (C8 (l.take i) v).1),(6,.I (C8 (l.take i) v).2),(9,AF l),(10,.I l.length),(11,.I i),(12,.B (decide (i<l.length)))],[],80⟩ rfl (by simp;exact AM [] zz) ?_
 refine AC (AD _ rfl (λ h=>AE ?_) λ h=>Aa (Ab ?_))
 .simp only[Qb] at h
  have q:=wq (k:=i);refine BO ⟨55,[(3,.pv (sC v)),(5,.I (C8 (l.take (i+1)) v).1),(6,.I (C8 (l.take (i+1)) v).2),(9,AF l),(10,.I l.length),(11,.I i)],[],500⟩ ?_ ?_
  .rw [bX l v i h]
   have hg:l[i]? = some l[i]:=Qa h;generalize l[i]=s at *;generalize C8 (l.take i) v=p at *;obtain⟨pa,pn⟩:=p;obtain⟨r,hr⟩:=AL (decide (Ey v s (pa,pn)))
   have u:Hv v (pa,pn) s=if r=true then (s.ti,s.nu) else (pa,pn):=by
    unfold Hv;rw[hr]
    by_cases hq:Ey v s (pa,pn)
    .simp [hq]
    .simp [hq]
   rw[u];refine AI (arc ⟨55,[(3,.pv (sC v)),(5,.I pa),(6,.I pn),(9,AF l),(10,.I l.length),(11,.I i),(8,.pv (sC s))],[],112⟩ ?_ ?_)
   .simp [hg,AZ]
    exact AM [96] zz
   refine arc ⟨55,[(3,.pv (sC v)),(5,.I pa),(6,.I pn),(9,AF l),(10,.I l.length),(11,.I i),(8,.pv (sC s)),(48,.B r)],[],400⟩ ?_ ?_
   .by_cases c1:s.au=v.au
    .have c1':(s.au == v.au)=true:=by simp[c1]
     by_cases c2:s.ki=2
     .have c2':(s.ki == 2)=true:=by simp[c2]
      by_cases c3:s.a=v.nu
      .have c3':(s.a == v.nu)=true:=by simp[c3]
       by_cases c4:v.nu<s.nu
       .by_cases c5:pn<0
        .have e:r=true:=by rw[hr];exact Q7 ⟨c1,c2,c3,c4,.inl c5⟩
         simp[c1',c2',c3',c4,c5,e];exact AM [] zz
        .have e:r=decide (s.nu<pn):=by
          rw[hr,Qk,Qb,Qb];exact⟨λ hq=>hq.2.2.2.2.resolve_left c5,λ hq=>⟨c1,c2,c3,c4,.inr hq⟩⟩
         simp[c1',c2',c3',c4,c5,e];exact AM [] zz
       .have e:r=false:=by rw[hr];exact QE λ hq=>c4 hq.2.2.2.1
        simp[c1',c2',c3',c4,e];exact AM [] zz
      .have c3':(s.a == v.nu)=false:=by simp[c3]
       have e:r=false:=by rw[hr];exact QE λ hq=>c3 hq.2.2.1
       simp[c1',c2',c3',e];exact AM [] zz
     .have c2':(s.ki == 2)=false:=by simp[c2]
      have e:r=false:=by rw[hr];exact QE λ hq=>c2 hq.2.1
      simp[c1',c2',e];exact AM [] zz
    .have c1':(s.au == v.au)=false:=by simp[c1]
     have e:r=false:=by rw[hr];exact QE λ hq=>c1 hq.1
     simp[c1',e];exact AM [] zz
   refine AD _ rfl (λ h5=>?_) λ h5=>AE ?_
   .rw [if_pos h5]
    refine Cn rfl ?_;simp;exact⟨rfl,AM [] zz⟩
   .rw [if_neg (by rw[h5];decide)]
    exact AM [] zz
  refine AU rfl ?_;simp[q];exact⟨i+1,zy,zy,AM [] zz⟩
 simp only[Qd] at h;obtain rfl:i=l.length:=zy
 have hf:(C8 (l.take l.length) v).1=FH l v:=by rw[QP];rfl
 rw[hf];refine AC (Ad ?_);exact Bv
def A5 (a b:Ac):Int:=([BC a.fr b.fr,BC a.to b.to,BC a.nu b.nu].find? (· != 0)).getD 0
theorem Pq (a b:Ac):AK 197 [eV a,eV b] [] (.I (A5 a b)) []:=by
 refine Xu.s.ac ?_;show AQ _ 0 _ _ ⟨22,[(0,eV a),(1,eV b)],[],16⟩;refine arc ⟨22,[(2,.pv (vC a)),(3,.pv (vC b))],[],40⟩ ?_ ?_
 .simp
  exact AM [16,24] zz
 refine BM ⟨22,[(4,.I (A5 a b))],[],184⟩ ?_ ?_
 .simp
  refine AT (Jd a.fr b.fr) rfl ?_;simp;refine AT (Jd a.to b.to) rfl ?_;simp;refine AT (Jd a.nu b.nu) rfl ?_;simp;refine G9 [160] (Tq [BC a.fr b.fr,BC a.to b.to,BC a.nu b.nu] zz) zz (.sc _) ?_
  simp;exact⟨rfl,AM [] (by simp;exact .refl _)⟩
 exact Bv
def FC (l:List AJ) (s:AJ):Ac:=⟨s.au,s.a,s.b,s.nu,s.ti,s.c,FH l s⟩
def BH (l m:List AJ):List Ac:=(m.filter λ s=>decide (s.ki=1)).map (FC l)
def DB (l:List AJ):List Ac:=DN A5 (BH l l)
theorem Y9 (l:List AJ) (i:Nat) (h:i<l.length):BH l (l.take (i+1))=BH l (l.take i)++if l[i].ki=1 then [FC l l[i]] else []:=by
 unfold BH;rw[Ql h,Q3,List.map_append]
 congr 1
 by_cases hk:l[i].ki=1
 .rw [if_pos hk]
  simp[hk]
 .rw [if_neg hk]
  simp[hk]
theorem L3 (l m:List AJ):(BH l m).length<=m.length:=by
 unfold BH;rw[Qs];exact QO _ _
theorem CX (l:List Ac) (ρ sn h m):(AP l).map (List.map (conv ρ sn h (m+1)))=AP l:=zw
def IR (l:List AJ):Prop:=AK 196 [.rs 0 0 (BH l l).length,.fn (.func 197) [] []] [⟨7,AP (BH l l),0⟩] (.tup []) [some ⟨7,AP (DB l),0⟩]
theorem IR.few {l:List AJ} (hn:(BH l l).length<20):IR l:=kL 197 [] A5 (BH l l) _ rfl hn (λ ρ sn h n=>rfl) λ x _ y _=>Pq x y
theorem d8 (l:List AJ) (hl:l.length<=100000) (hn:IR l):AK 138 [AF l] [] (.rs 0 0 (DB l).length) [some ⟨7,AP (DB l),0⟩]:=by
 refine YE.s.ac ?_;show AQ _ 0 _ _ ⟨38,[(0,AF l)],[],16⟩;refine BE ⟨38,[(0,AF l)],[],24⟩ rfl (by simp;exact AM [] zz) ?_
 refine BE ⟨38,[(0,AF l),(3,.sc (.slice none 0 0))],[],32⟩ rfl (by simp;exact AM [] zz) ?_
 refine AC (BE ⟨38,[(0,AF l),(3,.sc (.slice none 0 0)),(6,AF l),(7,.I l.length),(8,.I (0:Nat))],[],56⟩ rfl (by simp;exact AM [] zz) ?_)
 refine AI (Ag (ι:=Nat) (λ i=>⟨38,[(0,AF l),(3,.rs 16 0 (BH l (l.take i)).length),(6,AF l),(7,.I l.length),(8,.I i)],[(16,some ⟨7,AP (BH l (l.take i)),0⟩)],56⟩) (λ i=>i<=l.length) (λ i=>l.length - i) 0 (Qh _) (Le.lst [] [] [(16,7)] rfl zz zz zz zz zz zz zz (by simp[Up,BH]) (by simp[BH])) ?_)
 intro i hi;refine arc ⟨38,[(0,AF l),(3,.rs 16 0 (BH l (l.take i)).length),(6,AF l),(7,.I l.length),(8,.I i),(9,.B (decide (i<l.length)))],[(16,some ⟨7,AP (BH l (l.take i)),0⟩)],64⟩ ?_ ?_
 .simp
  exact BD
 refine AC (AD _ rfl (λ h=>AE ?_) λ h=>Aa (Ab ?_))
 .simp only[Qb] at h
  have h3:=wq (k:=i);refine BO ⟨38,[(0,AF l),(3,.rs 16 0 (BH l (l.take (i+1))).length),(6,AF l),(7,.I l.length),(8,.I i)],[(16,some ⟨7,AP (BH l (l.take (i+1))),0⟩)],500⟩ ?_ ?_
  .rw [Y9 l i h]
   have hg:l[i]? = some l[i]:=Qa h;have ha:(BH l (l.take i)).length<=100000:=QI (L3 _ _) (by rw[QB];omega)
   generalize l[i]=s at *;generalize BH l (l.take i)=R at *;obtain⟨n,h1⟩:=AL (R.length);have u:=CX R;have h4:(AP R).length=n:=by rw[AP,Qs,h1]
   refine AI (arc ⟨38,[(0,AF l),(3,.rs 16 0 R.length),(6,AF l),(7,.I l.length),(8,.I i),(5,.pv (sC s))],[(16,some ⟨7,AP R,0⟩)],96⟩ ?_ ?_)
   .simp [hg,AZ]
    exact Le.Z1 u 16 16 [80] rfl rfl zz zz rfl zz
   refine arc ⟨38,[(0,AF l),(3,.rs 16 0 R.length),(6,AF l),(7,.I l.length),(8,.I i),(5,.pv (sC s)),(14,.B (decide (s.ki=1)))],[(16,some ⟨7,AP R,0⟩)],120⟩ ?_ ?_
   .simp
    exact Le.keep rfl (Qg _) (by simp<;>rw[Qk]<;>simp) zz
   refine AD _ rfl (λ h5=>?_) λ h5=>AE ?_
   .simp only[Qb] at h5
    rw[if_pos h5];have h6:AP (R++[FC l s])=AP R++[vC (FC l s)]:=by rw[AP,List.map_append];rfl
    have h7:(R++[FC l s]).length=n+1:=by rw[Qe,<- h1];rfl
    rw[h6,h7,<- h1];have h0:∀ ρ sn h m,(AP R++[vC (FC l s)]).map (List.map (conv ρ sn h (m+1)))=AP R++[vC (FC l s)]:=λ ρ sn h m=>by rw[List.map_append,u];simp
    have h8:vC (FC l s)=[.I s.au,.I s.a,.I s.b,.I s.nu,.I s.ti,.I s.c,.I (FH l s)]:=rfl;rw[h8] at h0 ⊢;generalize AP R=X at *;have h2:List.take n X=X:=Qc zy
    refine Cn rfl ?_;simp;refine Ay (Z9 l s zy) ?_
    simp[h4,h2]
    repeat' apply And.intro
    all_goals first | omega | rfl | exact Le.Z1 h0 264 16 [] rfl rfl zz zz (by simp[h2]) zz
   .simp only[Qd] at h5
    rw[if_neg h5,QK];exact Le.keep rfl zz zz zz
  have u:=CX (BH l (l.take (i+1)));refine AU rfl ?_;simp[h3];exact⟨i+1,zy,zy,Le.Z1 u 16 16 [] rfl rfl zz zz rfl zz⟩
 simp only[Qd] at h;obtain rfl:i=l.length:=zy
 rw[QP];have q:=hn;unfold IR at q;have h9:(DB l).length=(BH l l).length:=by unfold DB DN;rw[Q9,JW]
 rw[h9];generalize DB l=O at *;generalize BH l l=R at *;refine arc ⟨38,[(3,.rs 16 0 R.length)],[(16,some ⟨7,AP O,0⟩)],80⟩ ?_ ?_
 .simp
  refine BX (i:=16) rfl (e':=⟨7,AP R,0⟩) zw q zz zz ?_
  simp[AB];exact BD
 refine AC (Ad ?_);exact CD [16] []
abbrev BZ (l:List Int):List (List AV):=l.map λ n=>[AV.I n]
theorem It (l:List Int) (ρ sn h m):(BZ l).map (List.map (conv ρ sn h (m+1)))=BZ l:=zw
theorem Le.N1 {st st':St} {z:Nat} {X:List (List AV)} (q:∀ ρ sn h m,X.map (List.map (conv ρ sn h (m+1)))=X) (u:st'.sz=st.sz) (hn:1<=st'.n) (hh:st'.h=[(0,some ⟨z,X,0⟩)]) (he:st.hp 0=some ⟨z,X,0⟩) (ht:∀ p∈st'.t,Wk (conv [(0,0)] [] st.hp 4 (st.get p.1)) p.2):Le 1 st st' :=
 Le.ents [(0,0)] [] u zz zz zu zz hn ht (λ p hp=>by
  rw[hh] at hp;simp at hp;subst hp
  exact⟨0,_,_,rfl,zz,he,Av.eq (by simp only[Ak,q]) zz⟩)
theorem dN (z:List Int) (n:Nat) (hn:z.length=n) (hl:n<=1000000) (hz:z.Pairwise (· < ·)):AK 137 [.rs 0 0 n] [⟨1,BZ z,0⟩] (.rs 0 0 n) [some ⟨1,BZ z,0⟩]:=by
 refine eW.s.ai ?_
 have h0:∀ i,(h:i+1<n) -> ∃ a b:Int,(BZ z)[i]? = some [AV.I a]/\(BZ z)[i+1]? = some [AV.I b]/\a<b:=λ i h=>by
  refine⟨z[i],z[i+1],?_,?_,QD.1 hz i (i+1) _ _ zy⟩
  .rw [BZ,QG,Qa zy];rfl
  .rw [BZ,QG,Qa zy];rfl
 have u:=It z;have h9:(BZ z).length=n:=by rw[BZ,Qs,hn]
 generalize BZ z=X at *;apply ak [0] [0] 24
 .simp
  rfl
 refine AC (arc ⟨61,[(0,.rs 0 0 n),(8,.B (decide (n<2)))],[(0,some ⟨1,X,0⟩)],48⟩ ?_ ?_)
 .simp
  exact Le.keep rfl (Qg _) (by simp<;>omega) zz
 refine AD _ rfl (λ h=>?_) λ h=>AE ?_
 .refine AC (Ad ?_)
  exact BG (AG.k1 rfl zz (by simp[u]))
 simp only[Qd] at h;refine AC (AC (Ad ?_));refine AI (Ag (ι:=Nat) (λ k=>⟨61,[(0,.rs 0 0 n),(3,.I (k+1:Nat))],[(0,some ⟨1,X,0⟩)],56⟩) (λ k=>k+1<=n) (λ k=>n - k) 0 zy ?_ ?_)
 .exact Le.N1 u rfl zz rfl rfl zz
 intro k hk;obtain⟨q,hq⟩:=AL (k+1);rw[<- hq];refine AC ?_;apply ak [0,3,13] [0] 88
 .simp
  rfl
 refine AD _ rfl (λ h2=>AE ?_) λ h2=>Aa (Ab ?_)
 .simp only[Qb] at h2
  obtain⟨a,b,h3,h4,h5⟩:=h0 k zy
  rw[<- hq] at h4;have h1:IntKind.i64.wrap ((q:Int) - 1)=(k:Int):=by rw[w6];omega
  have h6:IntKind.i64.wrap ((q:Int)+1)=((k+1+1:Nat):Int):=by rw[w6];omega
  have h7:(b == a)=false:=zu
  have h8:k<n:=zy
  refine BO ⟨61,[(0,.rs 0 0 n),(3,.I q)],[(0,some ⟨1,X,0⟩)],168⟩ ?_ ?_
  .refine AI ?_
   apply al [0,3,25] [0] 168
   .simp [h1,h2,h8,h3,h4,h7]
    exact⟨rfl,rfl⟩
   refine AD _ rfl (λ h=>by cases h) λ _=>AE ?_
   exact Le.keep rfl zz zz zz
  refine AU rfl ?_;simp[h6];exact⟨k+1,zy,zy,Le.N1 u rfl zz rfl rfl zz⟩
 refine AC (Ad ?_);exact BG (AG.k1 rfl zz (by simp[u]))
def G1 (t:Int) (s:AJ):Prop:=s.ki=3/\s.ti<=t
instance (t:Int) (s:AJ):Decidable (G1 t s):=by unfold G1;infer_instance
def CH (l:List AJ) (t:Int):List Int:=(l.filter λ s=>decide (G1 t s)).map (·.au)
theorem iS (l:List AJ) (t:Int) (i:Nat) (h:i<l.length):CH (l.take (i+1)) t=CH (l.take i) t++if G1 t l[i] then [l[i].au] else []:=by
 unfold CH;rw[Ql h,Q3,List.map_append]
 congr 1
 by_cases hk:G1 t l[i]
 .rw [if_pos hk]
  simp[hk]
 .rw [if_neg hk]
  simp[hk]
theorem N7 (l:List AJ) (t:Int):(CH l t).length<=l.length:=by
 unfold CH;rw[Qs];exact QO _ _
theorem aX {z:List Int} (hz:z.Pairwise (· < ·)):(z.mergeSort λ x y=>decide (x<=y))=z :=
 List.mergeSort_of_pairwise (hz.imp λ h=>zu)
theorem SN (l:List AJ) (t:Int) (hl:l.length<=100000) (hz:(CH l t).Pairwise (· < ·)):AK 85 [AF l,.I t] [] (.rs 0 0 (CH l t).length) [some ⟨1,BZ (CH l t),0⟩]:=by
 refine kY.s.ac ?_;show AQ _ 0 _ _ ⟨33,[(0,AF l),(1,.I t)],[],16⟩;refine BE ⟨33,[(0,AF l),(1,.I t)],[],24⟩ rfl (by simp;exact AM [] zz) ?_
 refine BE ⟨33,[(0,AF l),(1,.I t),(5,.sc (.slice none 0 0))],[],32⟩ rfl (by simp;exact AM [] zz) ?_
 refine AC (BE ⟨33,[(1,.I t),(5,.sc (.slice none 0 0)),(8,AF l),(9,.I l.length),(10,.I (0:Nat))],[],56⟩ rfl (by simp;exact AM [] zz) ?_)
 refine AI (Ag (ι:=Nat) (λ i=>⟨33,[(1,.I t),(5,.rs 16 0 (CH (l.take i) t).length),(8,AF l),(9,.I l.length),(10,.I i)],[(16,some ⟨1,BZ (CH (l.take i) t),0⟩)],56⟩) (λ i=>i<=l.length) (λ i=>l.length - i) 0 (Qh _) (Le.lst [] [] [(16,1)] rfl zz zz zz zz zz zz zz (by simp[Up,CH]) (by simp[CH])) ?_)
 intro i hi;refine arc ⟨33,[(1,.I t),(5,.rs 16 0 (CH (l.take i) t).length),(8,AF l),(9,.I l.length),(10,.I i),(11,.B (decide (i<l.length)))],[(16,some ⟨1,BZ (CH (l.take i) t),0⟩)],64⟩ ?_ ?_
 .simp
  exact BD
 refine AC (AD _ rfl (λ h=>AE ?_) λ h=>Aa (Ab ?_))
 .simp only[Qb] at h
  have h4:=wq (k:=i);refine BO ⟨33,[(1,.I t),(5,.rs 16 0 (CH (l.take (i+1)) t).length),(8,AF l),(9,.I l.length),(10,.I i)],[(16,some ⟨1,BZ (CH (l.take (i+1)) t),0⟩)],500⟩ ?_ ?_
  .rw [iS l t i h]
   have hg:l[i]? = some l[i]:=Qa h;have ha:(CH (l.take i) t).length<=100000:=QI (N7 _ _) (by rw[QB];omega)
   generalize l[i]=s at *;generalize CH (l.take i) t=R at *;obtain⟨n,h0⟩:=AL (R.length);have u:=It R;have h6:(BZ R).length=n:=by rw[BZ,Qs,h0]
   refine AI (arc ⟨33,[(1,.I t),(5,.rs 16 0 R.length),(8,AF l),(9,.I l.length),(10,.I i),(7,.pv (sC s))],[(16,some ⟨1,BZ R,0⟩)],96⟩ ?_ ?_)
   .simp [hg,AZ]
    exact Le.Z1 u 16 16 [80] rfl rfl zz zz rfl zz
   refine arc ⟨33,[(1,.I t),(5,.rs 16 0 R.length),(8,AF l),(9,.I l.length),(10,.I i),(7,.pv (sC s)),(22,.B (decide (G1 t s)))],[(16,some ⟨1,BZ R,0⟩)],168⟩ ?_ ?_
   .by_cases c1:s.ki=3
    .have c1':(s.ki == 3)=true:=by simp[c1]
     have e:decide (G1 t s)=decide (s.ti<=t):=by
      rw[Qk,Qb,Qb];exact⟨λ hq=>hq.2,λ hq=>⟨c1,hq⟩⟩
     simp[c1',e];exact BD
    .have c1':(s.ki == 3)=false:=by simp[c1]
     have e:decide (G1 t s)=false:=QE λ hq=>c1 hq.1;simp[c1',e];exact BD
   refine AD _ rfl (λ h5=>?_) λ h5=>AE ?_
   .simp only[Qb] at h5
    rw[if_pos h5];have h7:BZ (R++[s.au])=BZ R++[[AV.I s.au]]:=by rw[BZ,List.map_append];rfl
    have h8:(R++[s.au]).length=n+1:=by rw[Qe,<- h0];rfl
    rw[h7,h8,<- h0];have h2:∀ ρ sn h m,(BZ R++[[AV.I s.au]]).map (List.map (conv ρ sn h (m+1)))=BZ R++[[AV.I s.au]]:=λ ρ sn h m=>by rw[List.map_append,u];simp
    generalize BZ R=X at *;have h3:List.take n X=X:=Qc zy
    refine AU rfl ?_;simp[h6,h3]
    repeat' apply And.intro
    all_goals first | omega | exact Le.Z1 h2 200 16 [] rfl rfl zz zz (by simp[h3]) zz
   .simp only[Qd] at h5
    rw[if_neg h5,QK];exact Le.keep rfl zz zz zz
  have u:=It (CH (l.take (i+1)) t);refine AU rfl ?_;simp[h4];exact⟨i+1,zy,zy,Le.Z1 u 16 16 [] rfl rfl zz zz rfl zz⟩
 simp only[Qd] at h;obtain rfl:i=l.length:=zy
 rw[QP];have hb:=N7 l t;generalize CH l t=R at *;have q:=NM R zy
 rw[aX hz] at q;have h1:=dN R R.length rfl zy hz
 have h9:D5 R=BZ R:=rfl;rw[h9] at q;refine arc ⟨33,[(5,.rs 16 0 R.length)],[(16,some ⟨1,BZ R,0⟩)],80⟩ ?_ ?_
 .simp
  refine BX (i:=16) rfl (e':=⟨1,BZ R,0⟩) zw q zz zz ?_
  simp[AB];exact BD
 refine arc ⟨33,[(4,.rs 16 0 R.length)],[(16,some ⟨1,BZ R,0⟩)],104⟩ ?_ ?_
 .simp
  refine BX (i:=16) rfl (e':=⟨1,BZ R,0⟩) zw h1 zz zz ?_
  simp[AB];exact BD
 exact CD [16] []
def EZ (v:Ac) (g:List Int) (t:Int):Prop:=v.ti<=t/\t<v.en/\(v.re<0∨t<v.re)/\v.fr∉g/\v.to∉g
instance (v:Ac) (g:List Int) (t:Int):Decidable (EZ v g t):=by unfold EZ;infer_instance
theorem iY (v:Ac) (g:List Int) (t:Int) (hl:g.length<=1000000):AK 139 [eV v,AA g,.I t] [] (.B (decide (EZ v g t))) []:=by
 refine kZ.s.ac ?_;show AQ _ 0 _ _ ⟨42,[(0,eV v),(1,AA g),(2,.I t)],[],16⟩;refine arc ⟨42,[(1,AA g),(2,.I t),(3,.pv (vC v))],[],32⟩ ?_ ?_
 .simp
  exact AM [16] zz
 obtain⟨r,hr⟩:=AL (decide (EZ v g t));rw[<- hr];obtain⟨b1,u⟩:∃ b,b=decide (v.fr∈g):=⟨_,rfl⟩;obtain⟨b2,h0⟩:∃ b,b=decide (v.to∈g):=⟨_,rfl⟩;have k1:=Kv g v.fr zy
 have k2:=Kv g v.to zy
 rw[<- u] at k1;rw[<- h0] at k2;refine arc ⟨42,[(6,.B r)],[],400⟩ ?_ ?_
 .by_cases c1:v.ti<=t
  .by_cases c2:t<v.en
   .by_cases c3:v.re<0∨t<v.re
    .have q:r=(!b1 && !b2):=by
      rw[hr,u,h0,Qk];simp[EZ,c1,c2,c3]
     rcases Classical.em (v.re<0) with c4 | c4
     .simp [c1,c2,c4]
      refine AT k1 rfl ?_
      cases b1
      .simp
       refine AT k2 rfl ?_;simp;exact AM [] (by simp[q])
      .simp
       exact AM [] (by simp[q])
     .have c5:t<v.re:=c3.resolve_left c4
      simp[c1,c2,c4,c5];refine AT k1 rfl ?_
      cases b1
      .simp
       refine AT k2 rfl ?_;simp;exact AM [] (by simp[q])
      .simp
       exact AM [] (by simp[q])
    .have e:r=false:=by rw[hr];exact QE λ hq=>c3 hq.2.2.1
     have c4:¬ v.re<0:=λ h=>c3 (.inl h);have c5:¬ t<v.re:=λ h=>c3 (.inr h);simp[c1,c2,c4,c5,e];exact AM [] zz
   .have e:r=false:=by rw[hr];exact QE λ hq=>c2 hq.2.1
    simp[c1,c2,e];exact AM [] zz
  .have e:r=false:=by rw[hr];exact QE λ hq=>c1 hq.1
   simp[c1,e];exact AM [] zz
 exact Bv
def Dg (v:Ac) (t:Int) (w:Ac):Prop:=w.fr=v.fr/\w.to=v.to/\w.ti<=t
instance (v:Ac) (t:Int) (w:Ac):Decidable (Dg v t w):=by unfold Dg;infer_instance
def Jn (V:List Ac) (g:List Int) (t:Int) (i:Nat) (v:Ac):Bool:=decide (EZ v g t) && (V.drop (i+1)).all λ w=>!decide (Dg v t w)
def CO (V:List Ac) (g:List Int) (t:Int):Nat->List Ac
 | 0=>[]
 | i+1=>CO V g t i++match V[i]? with | some v=>if Jn V g t i v then [v] else [] | none=>[]
def Bt (l:List AJ) (t:Int):List Ac:=CO (DB l) (CH l t) t (DB l).length
theorem NN (V:List Ac) (g:List Int) (t:Int):∀ i,(CO V g t i).length<=i
 | 0=>Qg _
 | i+1=>by
   have:=NN V g t i;unfold CO;rw[Qe];split
   .split<;>simp<;>omega
   .simp;omega
theorem aV (l:List AJ) (t:Int) (hl:l.length<=100000) (hn:IR l) (hz:(CH l t).Pairwise (· < ·)):AK 86 [AF l,.I t] [] (.rs 0 0 (Bt l t).length) [some ⟨7,AP (Bt l t),0⟩]:=by
 refine Yg.s.ac ?_;show AQ _ 0 _ _ ⟨63,[(0,AF l),(1,.I t)],[],16⟩;refine BE ⟨63,[(0,AF l),(1,.I t)],[],24⟩ rfl (by simp;exact AM [] zz) ?_
 have ho:=d8 l hl hn;have hs:=SN l t hl hz;have a8:(DB l).length<=100000:=by have:=L3 l l;unfold DB DN;rw[Q9,JW];omega
 have a9:=N7 l t;have h3:Bt l t=CO (DB l) (CH l t) t (DB l).length:=rfl;rw[h3];generalize DB l=V at *;generalize CH l t=G at *;have tkV:List.take V.length (AP V)=AP V:=Qc zz
 have tkG:List.take G.length (BZ G)=BZ G:=Qc zz
 refine arc ⟨63,[(1,.I t),(5,Ax V),(6,AA G)],[],80⟩ ?_ ?_
 .simp
  refine Cu ho rfl ?_;simp[AB];refine Cu hs rfl ?_;simp[AB]
  exact AM [32,56] (by
   simp[AB]
   exact⟨Dy (congrArg _ tkV),Dy (congrArg _ tkG)⟩)
 refine BE ⟨63,[(1,.I t),(5,Ax V),(6,AA G),(7,.sc (.slice none 0 0))],[],88⟩ rfl (by simp;exact AM [] zz) ?_
 refine AC (AE (AC (BE ⟨63,[(1,.I t),(5,Ax V),(6,AA G),(7,.sc (.slice none 0 0)),(17,Ax V),(18,.I V.length),(19,.I (0:Nat))],[],112⟩ rfl (by simp;exact AM [] zz) ?_)))
 refine AI (Ag (ι:=Nat) (λ i=>⟨63,[(1,.I t),(5,Ax V),(6,AA G),(7,.rs 16 0 (CO V G t i).length),(17,Ax V),(18,.I V.length),(19,.I i)],[(16,some ⟨7,AP (CO V G t i),0⟩)],112⟩) (λ i=>i<=V.length) (λ i=>V.length - i) 0 (Qh _) (Le.lst [] [] [(16,7)] rfl zz zz zz zz zz zz zz (by simp[Up,CO]) (by simp[CO])) ?_)
 intro i hi;refine arc ⟨63,[(1,.I t),(5,Ax V),(6,AA G),(7,.rs 16 0 (CO V G t i).length),(17,Ax V),(18,.I V.length),(19,.I i),(20,.B (decide (i<V.length)))],[(16,some ⟨7,AP (CO V G t i),0⟩)],120⟩ ?_ ?_
 .simp
  exact BD
 refine AC (AD _ rfl (λ h=>AE ?_) λ h=>Aa (Ab ?_))
 .simp only[Qb] at h
  have ht:=wq (k:=i);refine BO ⟨63,[(1,.I t),(5,Ax V),(6,AA G),(7,.rs 16 0 (CO V G t (i+1)).length),(17,Ax V),(18,.I V.length),(19,.I i)],[(16,some ⟨7,AP (CO V G t (i+1)),0⟩)],1000⟩ ?_ ?_
  .have hg:V[i]? = some V[i]:=Qa h
   have ag:=NN V G t i;have h0:CO V G t (i+1)=CO V G t i++if Jn V G t i V[i] then [V[i]] else []:=by rw[CO,hg]
   have q:Jn V G t i V[i]=(decide (EZ V[i] G t) && (V.drop (i+1)).all λ w=>!decide (Dg V[i] t w)):=rfl;rw[h0];generalize V[i]=v at *;have h4:=iY v G t zy
   obtain⟨hb,hu⟩:∃ b,b=decide (EZ v G t):=⟨_,rfl⟩;rw[<- hu] at h4 q;generalize CO V G t i=R at *;have u:=CX R;obtain⟨W,hW⟩:=AL (V.drop (i+1));have ai:W.length<=100000:=by rw[hW,QV];omega
   rw[<- hW] at q;have h1:List.drop (i+1) (AP V)=AP W:=by rw[hW];exact US.symm
   refine AI (arc ⟨63,[(1,.I t),(5,Ax V),(6,AA G),(7,.rs 16 0 R.length),(17,Ax V),(18,.I V.length),(19,.I i),(8,.I i),(9,.pv (vC v))],[(16,some ⟨7,AP R,0⟩)],168⟩ ?_ ?_)
   .simp [hg,AZ]
    exact Le.Z1 u 16 16 [144] rfl rfl zz zz rfl zz
   refine AC (arc ⟨63,[(1,.I t),(5,Ax V),(6,AA G),(7,.rs 16 0 R.length),(17,Ax V),(18,.I V.length),(19,.I i),(8,.I i),(9,.pv (vC v)),(28,.B (!hb))],[(16,some ⟨7,AP R,0⟩)],208⟩ ?_ ?_)
   .simp
    refine Ay h4 ?_;simp;exact BD
   refine AD _ rfl (λ h5=>Aa (Ab ?_)) λ h5=>AE ?_
   .have hf:hb=false:=by simpa using h5
    rw[hf,Bool.false_and] at q;rw[q,if_neg zx,QK]
    exact Le.keep rfl zz zz zz
   have hv:hb=true:=by simpa using h5
   rw[hv,Bool.true_and] at q;obtain⟨i1,h8⟩:=AL (i+1);have h9:IntKind.i64.wrap ((i:Int)+1)=(i1:Int):=by rw[w6];omega
   rw[<- h8] at h1
   have hx:∀ j,j<=W.length->(∀ k (h:k<W.length),k<j->¬ Dg v t W[k])->j=W.length->(W.all λ w=>!decide (Dg v t w))=true:=λ j _ hq hj=>by
    rw[UL];intro w hw;obtain⟨k,hk,rfl⟩:=Qr.1 hw;simp[hq k hk zy]
   refine Bn (ι:=Unit) (λ _=>⟨63,[(1,.I t),(5,Ax V),(6,AA G),(7,.rs 16 0 R.length),(17,Ax V),(18,.I V.length),(19,.I i),(9,.pv (vC v))],[(16,some ⟨7,AP R,0⟩)],300⟩) (λ _=>(W.all λ w=>!decide (Dg v t w))=true) ?_ λ _ ha=>?_
   .refine arc ⟨63,[(1,.I t),(5,Ax V),(6,AA G),(7,.rs 16 0 R.length),(17,Ax V),(18,.I V.length),(19,.I i),(9,.pv (vC v)),(32,Ax W),(33,.I W.length),(34,.I (0:Nat))],[(16,some ⟨7,AP R,0⟩)],256⟩ ?_ ?_
    .have a7:(List.drop i1 (AP V)).length=W.length:=by rw[h1,AP,Qs]
     have hy:i1<=V.length:=zy
     simp[h9,hy]
     exact Le.Z1 u 16 16 [] rfl rfl zz zz rfl (by
      simp
      exact⟨Dy (congrArg _ h1),dC (by rw[hW,QV,<- h8])⟩)
    refine AI (Ag (ι:=Nat) (λ j=>⟨63,[(1,.I t),(5,Ax V),(6,AA G),(7,.rs 16 0 R.length),(17,Ax V),(18,.I V.length),(19,.I i),(9,.pv (vC v)),(32,Ax W),(33,.I W.length),(34,.I j)],[(16,some ⟨7,AP R,0⟩)],256⟩) (λ j=>j<=W.length /\ ∀ k (h:k<W.length),k<j->¬ Dg v t W[k]) (λ j=>W.length - j) 0 ⟨Qh _,λ k _ hk=>absurd hk zy⟩ (Le.refl _ _) ?_)
    rintro j ⟨hj,hd⟩
    refine arc ⟨63,[(1,.I t),(5,Ax V),(6,AA G),(7,.rs 16 0 R.length),(17,Ax V),(18,.I V.length),(19,.I i),(9,.pv (vC v)),(32,Ax W),(33,.I W.length),(34,.I j),(35,.B (decide (j<W.length)))],[(16,some ⟨7,AP R,0⟩)],264⟩ ?_ ?_
    .simp
     exact BD
    refine AC (AD _ rfl (λ h6=>AE ?_) λ h6=>Aa (Ab ?_))
    .simp only[Qb] at h6
     have a0:=wq (k:=j);refine Bn (ι:=Unit) (λ _=>⟨63,[(1,.I t),(5,Ax V),(6,AA G),(7,.rs 16 0 R.length),(17,Ax V),(18,.I V.length),(19,.I i),(9,.pv (vC v)),(32,Ax W),(33,.I W.length),(34,.I j)],[(16,some ⟨7,AP R,0⟩)],440⟩) (λ _=>¬ Dg v t W[j]) ?_ λ _ a1=>?_
     .have a2:W[j]? = some W[j]:=Qa h6
      have a3:Dg v t W[j]->(W.all λ w=>!decide (Dg v t w))=false:=λ hq=>by
       rw[List.all_eq_false];exact⟨W[j],Qi h6,by simp[hq]⟩
      generalize W[j]=w at *;obtain⟨r,hr⟩:=AL (decide (Dg v t w));refine AI (arc ⟨63,[(1,.I t),(5,Ax V),(6,AA G),(7,.rs 16 0 R.length),(17,Ax V),(18,.I V.length),(19,.I i),(9,.pv (vC v)),(32,Ax W),(33,.I W.length),(34,.I j),(11,.pv (vC w))],[(16,some ⟨7,AP R,0⟩)],296⟩ ?_ ?_)
      .simp [a2,AZ]
       exact Le.Z1 u 16 16 [280] rfl rfl zz zz rfl zz
      refine arc ⟨63,[(1,.I t),(5,Ax V),(6,AA G),(7,.rs 16 0 R.length),(17,Ax V),(18,.I V.length),(19,.I i),(9,.pv (vC v)),(32,Ax W),(33,.I W.length),(34,.I j),(55,.B r)],[(16,some ⟨7,AP R,0⟩)],440⟩ ?_ ?_
      .by_cases c1:w.fr=v.fr
       .have c1':(w.fr == v.fr)=true:=by simp[c1]
        by_cases c2:w.to=v.to
        .have c2':(w.to == v.to)=true:=by simp[c2]
         have e:r=decide (w.ti<=t):=by
          rw[hr,Qk,Qb,Qb];exact⟨λ hq=>hq.2.2,λ hq=>⟨c1,c2,hq⟩⟩
         simp[c1',c2',e];exact BD
        .have c2':(w.to == v.to)=false:=by simp[c2]
         have e:r=false:=by rw[hr];exact QE λ hq=>c2 hq.2.1
         simp[c1',c2',e];exact BD
       .have c1':(w.fr == v.fr)=false:=by simp[c1]
        have e:r=false:=by rw[hr];exact QE λ hq=>c1 hq.1
        simp[c1',e];exact BD
      refine AD _ rfl (λ h7=>Aa (Fw zx (Fw zx (Ab ?_)))) λ h7=>AE ?_
      .rw [h7] at hr
       have hl:=of_decide_eq_true hr.symm;rw[a3 hl] at q;rw[q,if_neg zx,QK]
       exact Le.keep rfl zz zz zz
      .rw [h7] at hr
       exact⟨(),of_decide_eq_false hr.symm,Le.keep rfl zz zz zz⟩
     refine AU rfl ?_;simp[a0];refine⟨j+1,⟨zy,λ k hk a4=>?_⟩,zy,Le.Z1 u 16 16 [] rfl rfl zz zz rfl zz⟩
     rcases QN.1 a4 with hq | rfl
     .exact hd k hk hq
     .exact a1
    simp only[Qd] at h6;exact⟨(),hx j hj hd zy,Le.keep rfl zz zz zz⟩
   rw[ha] at q;rw[q,if_pos rfl];obtain⟨n,h2⟩:=AL (R.length);have a5:AP (R++[v])=AP R++[vC v]:=by rw[AP,List.map_append];rfl
   have he:(R++[v]).length=n+1:=by rw[Qe,<- h2];rfl
   have a6:(AP R).length=n:=by rw[AP,Qs,h2]
   rw[a5,he,<- h2];have hh:∀ ρ sn h m,(AP R++[vC v]).map (List.map (conv ρ sn h (m+1)))=AP R++[vC v]:=λ ρ sn h m=>by rw[List.map_append,u];simp
   generalize AP R=X at *;have hm:List.take n X=X:=Qc zy
   refine AU rfl ?_;simp[a6,hm]
   repeat' apply And.intro
   all_goals first | omega | exact Le.Z1 hh 324 16 [] rfl rfl zz zz (by simp[hm]) zz
  have u:=CX (CO V G t (i+1));refine AU rfl ?_;simp[ht];exact⟨i+1,zy,zy,Le.Z1 u 16 16 [] rfl rfl zz zz rfl zz⟩
 simp only[Qd] at h;obtain rfl:i=V.length:=zy
 refine AC (Ad ?_);exact CD [16] []
variable {a:Ac} {x y:Int}
def EC (v x:AJ):Prop:=x.au=v.au/\v.nu<x.nu/\x.ki=2/\x.a=v.nu
instance (v x:AJ):Decidable (EC v x):=by unfold EC;infer_instance
def Dk (l:List AJ) (v:AJ):Int:=match l.find? λ x=>decide (EC v x) with | some x=>x.ti | none=>-1
theorem YC (l:List AJ) (v:AJ) (hl:l.length<=1000000):AK 228 [AF l,eS v] [] (.I (Dk l v)) []:=by
 refine XS.s.ac ?_;show AQ _ 0 _ _ ⟨43,[(0,AF l),(1,eS v)],[],16⟩;refine arc ⟨43,[(0,AF l),(3,.pv (sC v))],[],32⟩ ?_ ?_
 .simp
  exact AM [16] zz
 refine AC (BE ⟨43,[(0,AF l),(3,.pv (sC v)),(5,.I (0:Nat))],[],40⟩ rfl (by simp;exact AM [] zz) ?_)
 refine AI (Ag (ι:=Nat) (λ i=>⟨43,[(0,AF l),(3,.pv (sC v)),(5,.I i)],[],40⟩) (λ i=>i<=l.length /\ ∀ x∈l.take i,¬ EC v x) (λ i=>l.length - i) 0 ⟨Qh _,zz⟩ (Le.refl _ _) ?_)
 rintro i ⟨hi,hp⟩
 refine AC (BE ⟨43,[(0,AF l),(3,.pv (sC v)),(5,.I i),(10,.B (decide (i<l.length)))],[],72⟩ rfl (by simp;exact AM [] zz) ?_)
 refine AD _ rfl (λ h=>AE ?_) λ h=>Aa (Ab ?_)
 .simp only[Qb] at h
  have h0:=wq (k:=i);obtain⟨s,hs⟩:∃ s,l[i]=s:=⟨_,rfl⟩;have hg:l[i]? = some s:=by rw[Qa h,hs]
  refine Bn (ι:=Unit) (λ _=>⟨43,[(0,AF l),(3,.pv (sC v)),(5,.I i)],[],500⟩) (λ _=>¬ EC v s) ?_ λ _ h1=>?_
  .obtain ⟨r,hr⟩:=AL (decide (EC v s))
   refine AI (arc ⟨43,[(0,AF l),(3,.pv (sC v)),(5,.I i),(6,.pv (sC s))],[],120⟩ ?_ ?_)
   .simp [hg,AZ]
    exact AM [104] zz
   refine arc ⟨43,[(0,AF l),(3,.pv (sC v)),(5,.I i),(6,.pv (sC s)),(40,.B r)],[],320⟩ ?_ ?_
   .by_cases c1:s.au=v.au
    .have c1':(s.au == v.au)=true:=by simp[c1]
     by_cases c2:v.nu<s.nu
     .by_cases c3:s.ki=2
      .have c3':(s.ki == 2)=true:=by simp[c3]
       have e:r=(s.a == v.nu):=by
        rw[hr,Qk,Qb,beq_iff_eq];exact⟨λ hq=>hq.2.2.2,λ hq=>⟨c1,c2,c3,hq⟩⟩
       simp[c1',c2,c3',e];exact AM [] zz
      .have c3':(s.ki == 2)=false:=by simp[c3]
       have e:r=false:=by rw[hr];exact QE λ hq=>c3 hq.2.2.1
       simp[c1',c2,c3',e];exact AM [] zz
     .have e:r=false:=by rw[hr];exact QE λ hq=>c2 hq.2.1
      simp[c1',c2,e];exact AM [] zz
    .have c1':(s.au == v.au)=false:=by simp[c1]
     have e:r=false:=by rw[hr];exact QE λ hq=>c1 hq.1
     simp[c1',e];exact AM [] zz
   refine AD _ rfl (λ h5=>?_) λ h5=>AE ?_
   .rw [h5] at hr
    have hq:=of_decide_eq_true hr.symm
    have hf:(l.find? λ x=>decide (EC v x))=some s:=by
     rw[List.find?_eq_some_iff_getElem];refine⟨by simp[hq],i,h,hs,λ j hj=>?_⟩
     have:l[j]∈l.take i:=by
      rw[List.mem_take_iff_getElem];exact⟨j,zy,rfl⟩
     simp[hp _ this]
    have q:Dk l v=s.ti:=by unfold Dk;rw[hf]
    rw[q];refine AC (Ad ?_);exact Bv
   .rw [h5] at hr
    exact⟨(),of_decide_eq_false hr.symm,AM [] zz⟩
  refine AU rfl ?_;simp[h0];refine⟨i+1,⟨zy,λ u hu=>?_⟩,zy,AM [] zz⟩
  rw[Ql h,Qn] at hu;rcases hu with hu | hu
  .exact hp u hu
  .rw [Qw.1 hu,hs]
   exact h1
 simp only[Qd] at h;obtain rfl:i=l.length:=zy
 rw[QP] at hp
 have hf:(l.find? λ x=>decide (EC v x))=none:=by
  rw[List.find?_eq_none];intro u hu;simp[hp u hu]
 have q:Dk l v = -1:=by unfold Dk;rw[hf]
 rw[q];refine AC (Ad ?_);exact Bv
theorem JO:BC x y<0↔x<y:=by
 unfold BC;split
 .simp;assumption
 .split
  .simp;omega
  .simp;omega
theorem eO (h:x≠y):BC x y≠0:=by
 unfold BC;split
 .decide
 .split
  .decide
  .omega
theorem Mw (x:Int):BC x x=0:=by simp[BC]
theorem OV (h:x≠y):(BC x y != 0)=true:=by simp[eO h]
theorem NU (x:Int):(BC x x != 0)=false:=by simp[Mw]
theorem Ru {b:Ac} (h:a.fr≠b.fr):A5 a b=BC a.fr b.fr:=by
 unfold A5;simp[U8,OV h]
theorem Rx {b:Ac} (h:a.fr=b.fr) (h2:a.to≠b.to):A5 a b=BC a.to b.to:=by
 unfold A5;rw[h];simp[U8,NU,OV h2]
theorem TU {b:Ac} (h:a.fr=b.fr) (h2:a.to=b.to):A5 a b=BC a.nu b.nu:=by
 unfold A5;rw[h,h2]
 by_cases h3:a.nu=b.nu
 .rw [h3,Mw]
  simp[U8,NU,Mw]
 .simp [U8,NU,OV h3]
theorem XM (a b:Ac):AK 229 [eV a,eV b] [] (.B (decide (A5 a b<0))) []:=by
 refine Zr.s.ac ?_;show AQ _ 0 _ _ ⟨30,[(0,eV a),(1,eV b)],[],16⟩;refine arc ⟨30,[(2,.pv (vC a)),(3,.pv (vC b))],[],40⟩ ?_ ?_
 .simp
  exact AM [16,24] zz
 refine AC (arc ⟨30,[(2,.pv (vC a)),(3,.pv (vC b)),(9,.B (decide (a.fr≠b.fr)))],[],80⟩ ?_ ?_)
 .simp
  exact AM [] (by simp<;>exact An zt)
 refine AD _ rfl (λ h=>?_) λ h=>AE ?_
 .simp only[Qb] at h
  have e:decide (A5 a b<0)=decide (a.fr<b.fr):=by rw[Ru h,Qk,Qb,Qb];exact JO
  rw[e];refine AC (Ad ?_);exact Bv
 have h1:a.fr=b.fr:=by simpa using h
 refine AC (arc ⟨30,[(2,.pv (vC a)),(3,.pv (vC b)),(19,.B (decide (a.to≠b.to)))],[],120⟩ ?_ ?_)
 .simp
  exact AM [] (by simp<;>exact An zt)
 refine AD _ rfl (λ h=>?_) λ h=>AE ?_
 .simp only[Qb] at h
  have e:decide (A5 a b<0)=decide (a.to<b.to):=by rw[Rx h1 h,Qk,Qb,Qb];exact JO
  rw[e];refine AC (Ad ?_);exact Bv
 have h2:a.to=b.to:=by simpa using h
 have e:decide (A5 a b<0)=decide (a.nu<b.nu):=by rw[TU h1 h2,Qk,Qb,Qb];exact JO
 rw[e];refine AC (Ad ?_);exact Bv
def Fy (l:List AJ) (s:AJ):Ac:=⟨s.au,s.a,s.b,s.nu,s.ti,s.c,Dk l s⟩
def Dz (l m:List AJ):List Ac:=(m.filter λ s=>decide (s.ki=1)).map (Fy l)
theorem jK (l:List AJ) (i:Nat) (h:i<l.length):Dz l (l.take (i+1))=Dz l (l.take i)++if l[i].ki=1 then [Fy l l[i]] else []:=by
 unfold Dz;rw[Ql h,Q3,List.map_append]
 congr 1
 by_cases hk:l[i].ki=1
 .rw [if_pos hk]
  simp[hk]
 .rw [if_neg hk]
  simp[hk]
theorem Rb (l m:List AJ):(Dz l m).length<=m.length:=by
 unfold Dz;rw[Qs];exact QO _ _
def GO (v:Ac):List Ac->Bool
 | []=>false
 | y::_=>decide (A5 v y<0)
theorem cX (c:Ac->Ac->Int) (M:List Ac) (x:Ac):FL c (M++[x])=Di c (FL c M) x:=by
 unfold FL;rw[U1];rfl
def GX (l:List AJ):List Ac:=DN A5 (Dz l l)
theorem bF (l:List AJ) (hl:l.length<=100000):AK 164 [AF l] [] (.rs 0 0 (GX l).length) [some ⟨7,AP (GX l),0⟩]:=by
 refine gF.s.ac ?_;show AQ _ 0 _ _ ⟨64,[(0,AF l)],[],16⟩;refine BE ⟨64,[(0,AF l)],[],24⟩ rfl (by simp;exact AM [] zz) ?_
 refine BE ⟨64,[(0,AF l),(3,.sc (.slice none 0 0))],[],32⟩ rfl (by simp;exact AM [] zz) ?_
 refine AC (BE ⟨64,[(0,AF l),(3,.sc (.slice none 0 0)),(4,.I (0:Nat))],[],40⟩ rfl (by simp;exact AM [] zz) ?_)
 let O:Nat->List Ac:=λ i=>DN A5 (Dz l (l.take i))
 have h9:O 0=[]:=rfl;have hu:O l.length=GX l:=by simp only[O];rw[QP];rfl
 have ha:∀ i,(O i).length<=100000:=λ i=>by
  have h1:=Rb l (l.take i);have h2:(l.take i).length<=l.length:=by rw[QB];omega
  simp only[O];unfold DN;rw[Q9,JW];omega
 have hx:∀ i (h:i<l.length),∃ R,O i=R.reverse/\O (i+1)=if l[i].ki=1 then (Di A5 R (Fy l l[i])).reverse else R.reverse:=λ i h=>by
  refine⟨FL A5 (Dz l (l.take i)),rfl,?_⟩;simp only[O];rw[jK l i h];split
  .unfold DN
   rw[cX]
  .rw [QK]
   rfl
 clear_value O
 refine AI (Ag (ι:=Nat) (λ i=>⟨64,[(0,AF l),(3,.rs 16 0 (O i).length),(4,.I i)],[(16,some ⟨7,AP (O i),0⟩)],40⟩) (λ i=>i<=l.length) (λ i=>l.length - i) 0 (Qh _) (Le.lst [] [] [(16,7)] rfl zz zz zz zz zz zz zz (by simp[Up,h9]) (by simp[h9])) ?_)
 intro i hi;refine AC (arc ⟨64,[(0,AF l),(3,.rs 16 0 (O i).length),(4,.I i),(11,.B (decide (i<l.length)))],[(16,some ⟨7,AP (O i),0⟩)],72⟩ ?_ ?_)
 .simp
  exact BD
 refine AD _ rfl (λ h=>AE ?_) λ h=>Aa (Ab ?_)
 .simp only[Qb] at h
  have hy:=wq (k:=i);refine BO ⟨64,[(0,AF l),(3,.rs 16 0 (O (i+1)).length),(4,.I i)],[(16,some ⟨7,AP (O (i+1)),0⟩)],700⟩ ?_ ?_
  .obtain ⟨R,hR,hz⟩:=hx i h
   have an:R.length<=100000:=by have:=ha i;rw[hR,Q9] at this;exact this
   rw[hR,hz];have hg:l[i]? = some l[i]:=Qa h;generalize l[i]=s at *;have h3:=CX R.reverse;refine AI (arc ⟨64,[(0,AF l),(3,.rs 16 0 R.reverse.length),(4,.I i),(5,.pv (sC s))],[(16,some ⟨7,AP R.reverse,0⟩)],120⟩ ?_ ?_)
   .simp only[Q9] at *
    generalize AP R.reverse=X at *;simp[hg,AZ];exact Le.Z1 h3 16 16 [104] rfl rfl zz zz rfl zz
   refine AC (arc ⟨64,[(0,AF l),(3,.rs 16 0 R.reverse.length),(4,.I i),(5,.pv (sC s)),(20,.B (decide (s.ki≠1)))],[(16,some ⟨7,AP R.reverse,0⟩)],144⟩ ?_ ?_)
   .simp
    exact Le.keep rfl (Qg _) (by simp<;>rw[Qk]<;>simp) zz
   refine AD _ rfl (λ h5=>Aa (Ab ?_)) λ h5=>AE ?_
   .simp only[Qb] at h5
    rw[if_neg h5];exact Le.keep rfl zz zz zz
   have a0:s.ki=1:=by simpa using h5
   rw[if_pos a0];have a1:=YC l s zy
   have hd:vC (Fy l s)=[.I s.au,.I s.a,.I s.b,.I s.nu,.I s.ti,.I s.c,.I (Dk l s)]:=rfl;obtain⟨v,hv⟩:=AL (Fy l s);rw[<- hv] at hd ⊢;refine BM ⟨64,[(0,AF l),(3,.rs 16 0 R.reverse.length),(4,.I i),(6,.pv (vC v))],[(16,some ⟨7,AP R.reverse,0⟩)],288⟩ ?_ ?_
   .generalize Dk l s=rv at *
    simp only[Q9] at *;generalize AP R.reverse=X at *;simp;refine Ay a1 ?_;simp[AZ];exact⟨rfl,Le.Z1 h3 16 16 [272] rfl rfl zz zz rfl (by simp;exact Dy (congrArg _ hd.symm))⟩
   refine arc ⟨64,[(0,AF l),(3,.rs 16 0 R.reverse.length),(4,.I i),(6,.pv (vC v)),(7,.I R.length)],[(16,some ⟨7,AP R.reverse,0⟩)],312⟩ ?_ ?_
   .simp
    exact BD
   refine AC (AI (Ag (ι:=List Ac × List Ac) (λ q=>⟨64,[(0,AF l),(3,.rs 16 0 R.reverse.length),(4,.I i),(6,.pv (vC v)),(7,.I q.2.length)],[(16,some ⟨7,AP R.reverse,0⟩)],312⟩) (λ q=>R=q.1.reverse++q.2/\Di A5 R v=q.1.reverse++Di A5 q.2 v) (λ q=>q.2.length) ([],R) ⟨rfl,rfl⟩ (Le.refl _ _) ?_))
   rintro⟨U,V⟩ ⟨h4,h0⟩
   simp only at h4 h0;obtain⟨b,hb⟩:∃ b:Bool,b=GO v V:=⟨_,rfl⟩;obtain⟨m,hm⟩:=AL (R.length);have h7:m=U.length+V.length:=by rw[hm,h4,Qe,Q9]
   have u:R.reverse=V.reverse++U:=by rw[h4,List.reverse_append,List.reverse_reverse]
   refine AC (BM ⟨64,[(0,AF l),(3,.rs 16 0 R.reverse.length),(4,.I i),(6,.pv (vC v)),(7,.I V.length),(49,.B b)],[(16,some ⟨7,AP R.reverse,0⟩)],400⟩ ?_ ?_)
   .match V,hb,h7,u with
    | [],hb,h7,u =>
      simp[hb,GO];exact⟨rfl,BD⟩
    | y::V',hb,h7,u =>
      obtain⟨k,hk⟩:=AL ((y::V').length);have a2:k=V'.length+1:=by rw[hk];rfl
      have he:=XM v y;simp only[GO] at hb;rw[<- hb] at he;have hw:IntKind.i64.wrap ((k:Int) - 1)=((V'.length:Nat):Int):=by rw[w6];omega
      have hf:(AP R.reverse)[V'.length]? = some (vC y):=by
       rw[u,AP,QG,List.reverse_cons,Qq,Qt zz]
       simp
      obtain⟨j,hj⟩:=AL (V'.length);rw[<- hj] at hw hf;have h8:R.reverse.length=m:=by rw[Q9,hm]
      have a3:j<m:=by rw[h7];simp;omega
      have a4:0<k:=zy
      rw[<- hk,h8];generalize AP R.reverse=X at *;simp[a4,hw,a3,hf];refine Ay he ?_;simp;exact⟨rfl,BD⟩
   refine AD _ rfl (λ h6=>AE ?_) λ h6=>Aa (Ab ?_)
   .match V,hb,h7,u,h4,h0 with
    | [],hb,_,_,_,_=>rw[h6] at hb;cases hb
    | y::V',hb,h7,u,h4,h0 =>
      simp only[GO] at hb;rw[h6] at hb;have a5:=of_decide_eq_true hb.symm;have aq:(y::V').length=V'.length+1:=rfl;have hw:IntKind.i64.wrap (((y::V').length:Int) - 1)=((V'.length:Nat):Int):=by rw[QZ,w6];omega
      refine AI ?_;generalize AP R.reverse=X at *;refine AU rfl ?_;generalize a6:(y::V').length=k at *;have a2:V'.length<k:=by rw[<- a6];simp
      simp[hw];refine⟨y::U,V',⟨by rw[h4];simp,by rw[h0,Di,if_pos a5];simp⟩,zy,?_⟩
      exact Le.Z1 h3 16 16 [] rfl rfl zz zz rfl zz
   have hh:(Di A5 R v).reverse=V.reverse++[v]++U:=by
    have:Di A5 V v=v::V:=by
     match V,hb with
     | [],_=>rfl
     | y::V',hb =>
       simp only[GO] at hb;rw[h6] at hb;rw[Di,if_neg (of_decide_eq_false hb.symm)]
    rw[h0,this];simp
   rw[hh];have hX:AP R.reverse=AP V.reverse++AP U:=by rw[u,AP,List.map_append]
   have hF:AP (V.reverse++[v]++U)=AP V.reverse++vC v::AP U:=by rw[AP,List.map_append,List.map_append,Qq];rfl
   have a7:(V.reverse++[v]++U).length=m+1:=zu
   have h8:R.reverse.length=m:=by rw[Q9,hm]
   obtain⟨k,hk⟩:=AL (V.length);have a8:k<=m:=zy
   have ho:(AP V.reverse).length=k:=by rw[AP,Qs,Q9,hk]
   have a9:(AP U).length=m - k:=by rw[AP,Qs];omega
   have hq:=CX (V.reverse++[v]++U);rw[hF] at hq;rw[hX,hF,a7,h8,<- hk];rw[hX] at h3;generalize AP V.reverse=P at *;generalize AP U=Q at *;have hr:List.take k (P++Q)=P:=by rw[Uf zy,Qc zy]
   have hs:List.drop k (P++Q)=Q:=by rw[List.drop_append_of_le_length zy,Q4 zy];rfl
   have ht:List.take (m - k) Q=Q:=Qc zy
   have ag:(P++Q).length=m:=by rw[Qe];omega
   have ai:List.take (k+1) (P++[vC v])=P++[vC v]:=Qc zu
   have am:k+1+(m - k)=m+1:=zy
   generalize P++Q=Z at *;refine Cn rfl ?_;simp[a8,ag,hr,hs,ht,ho,a9]
   repeat' apply And.intro
   all_goals first | omega | rfl | exact Le.Z1 hq 480 16 [] rfl rfl zz zz (by simp[ho,hr,hs,ht,ai]) (by simp[am])
  have h3:=CX (O (i+1));refine AU rfl ?_;simp[hy];exact⟨i+1,zy,zy,Le.Z1 h3 16 16 [] rfl rfl zz zz rfl zz⟩
 simp only[Qd] at h;obtain rfl:i=l.length:=zy
 rw[hu];refine AC (Ad ?_);exact CD [16] []
def JR (t:Int) (k:Int) (s:AJ):Prop:=s.au=k/\G1 t s
instance (t k:Int) (s:AJ):Decidable (JR t k s):=by unfold JR;infer_instance
def Fg (l:List AJ) (t:Int) (k:Int):Bool:=l.any λ s=>decide (JR t k s)
def Dj (l:List AJ) (t:Int):Nat->List Int
 | 0=>[]
 | n+1=>Dj l t n++if Fg l t n then [(n:Int)] else []
theorem N6 (l:List AJ) (t:Int):∀ n,(Dj l t n).length<=n
 | 0=>Qg _
 | n+1=>by
   have:=N6 l t n;unfold Dj;rw[Qe];split<;>simp<;>omega
theorem WF (l:List AJ) (t k:Int) (j:Nat) (h:j<l.length):Fg (l.take (j+1)) t k=(Fg (l.take j) t k || decide (JR t k l[j])):=by
 unfold Fg;rw[Ql h,List.any_append];simp
theorem Tn (l:List AJ) (t:Int) (hl:l.length<=1000000):AK 110 [AF l,.I t] [] (.rs 0 0 (Dj l t 64).length) [some ⟨1,BZ (Dj l t 64),0⟩]:=by
 refine Yq.s.ac ?_;show AQ _ 0 _ _ ⟨52,[(0,AF l),(1,.I t)],[],16⟩;refine BE ⟨52,[(0,AF l),(1,.I t)],[],24⟩ rfl (by simp;exact AM [] zz) ?_
 refine BE ⟨52,[(0,AF l),(1,.I t),(5,.sc (.slice none 0 0))],[],32⟩ rfl (by simp;exact AM [] zz) ?_
 refine AC (BE ⟨52,[(0,AF l),(1,.I t),(5,.sc (.slice none 0 0)),(6,.I (0:Nat))],[],40⟩ rfl (by simp;exact AM [] zz) ?_)
 refine AI (Ag (ι:=Nat) (λ i=>⟨52,[(0,AF l),(1,.I t),(5,.rs 16 0 (Dj l t i).length),(6,.I i)],[(16,some ⟨1,BZ (Dj l t i),0⟩)],40⟩) (λ i=>i<=64) (λ i=>64 - i) 0 zy (Le.lst [] [] [(16,1)] rfl zz zz zz zz zz zz zz (by simp[Up,Dj]) (by simp[Dj])) ?_)
 intro i hi;refine AC (arc ⟨52,[(0,AF l),(1,.I t),(5,.rs 16 0 (Dj l t i).length),(6,.I i),(10,.B (decide (i<64)))],[(16,some ⟨1,BZ (Dj l t i),0⟩)],56⟩ ?_ ?_)
 .simp
  exact Le.keep rfl (Qg _) (by simp<;>omega) zz
 refine AD _ rfl (λ h=>AE ?_) λ h=>Aa (Ab ?_)
 .simp only[Qb] at h
  have h6:=wq (k:=i);refine BO ⟨52,[(0,AF l),(1,.I t),(5,.rs 16 0 (Dj l t (i+1)).length),(6,.I i)],[(16,some ⟨1,BZ (Dj l t (i+1)),0⟩)],900⟩ ?_ ?_
  .have h1:Dj l t (i+1)=Dj l t i++if Fg l t i then [(i:Int)] else []:=rfl
   rw[h1];have hb:=N6 l t i;generalize Dj l t i=R at *;obtain⟨n,h0⟩:=AL (R.length);have q:=It R;have h7:(BZ R).length=n:=by rw[BZ,Qs,h0]
   rw[<- h0];refine AI (arc ⟨52,[(0,AF l),(1,.I t),(5,.rs 16 0 n),(6,.I i),(7,.B false)],[(16,some ⟨1,BZ R,0⟩)],64⟩ ?_ ?_)
   .generalize BZ R=X at *
    simp;exact Le.Z1 q 16 16 [] rfl rfl zz zz rfl zz
   refine AC (arc ⟨52,[(0,AF l),(1,.I t),(5,.rs 16 0 n),(6,.I i),(7,.B false),(8,.I (0:Nat))],[(16,some ⟨1,BZ R,0⟩)],72⟩ ?_ ?_)
   .generalize BZ R=X at *
    simp;exact Le.Z1 q 16 16 [] rfl rfl zz zz rfl zz
   refine AI (Ag (ι:=Nat) (λ j=>⟨52,[(0,AF l),(1,.I t),(5,.rs 16 0 n),(6,.I i),(7,.B (Fg (l.take j) t i)),(8,.I j)],[(16,some ⟨1,BZ R,0⟩)],72⟩) (λ j=>j<=l.length) (λ j=>l.length - j) 0 (Qh _) (Le.refl _ _) ?_);intro j hj;refine AC (arc ⟨52,[(0,AF l),(1,.I t),(5,.rs 16 0 n),(6,.I i),(7,.B (Fg (l.take j) t i)),(8,.I j),(16,.B (decide (j<l.length)))],[(16,some ⟨1,BZ R,0⟩)],104⟩ ?_ ?_)
   .generalize BZ R=X at *
    simp;exact Le.Z1 q 16 16 [] rfl rfl zz zz rfl zz
   refine AD _ rfl (λ h2=>AE ?_) λ h2=>Aa (Ab ?_)
   .simp only[Qb] at h2
    have h8:=wq (k:=j);refine BO ⟨52,[(0,AF l),(1,.I t),(5,.rs 16 0 n),(6,.I i),(7,.B (Fg (l.take (j+1)) t i)),(8,.I j)],[(16,some ⟨1,BZ R,0⟩)],400⟩ ?_ ?_
    .refine AI ?_
     have u:=WF l t i j h2;generalize Fg (l.take (j+1)) t i=b1 at *;generalize Fg (l.take j) t i=b at *;have hg:l[j]? = some l[j]:=Qa h2;generalize l[j]=s at *;generalize BZ R=X at *;refine AU rfl ?_
     cases b
     .rw [Bool.false_or] at u
      by_cases c1:s.au=i
      .have c1':(s.au == (i:Int))=true:=by simp[c1]
       by_cases c2:s.ki=3
       .have c2':(s.ki == 3)=true:=by simp[c2]
        have e:b1=decide (s.ti<=t):=by
         rw[u,Qk,Qb,Qb];exact⟨λ hq=>hq.2.2,λ hq=>⟨c1,c2,hq⟩⟩
        simp[hg,c1',c2',e];exact Le.Z1 q 16 16 [] rfl rfl zz zz rfl zz
       .have c2':(s.ki == 3)=false:=by simp[c2]
        have e:b1=false:=by rw[u];exact QE λ hq=>c2 hq.2.1
        simp[hg,c1',c2',e];exact Le.Z1 q 16 16 [] rfl rfl zz zz rfl zz
      .have c1':(s.au == (i:Int))=false:=by simp[c1]
       have e:b1=false:=by rw[u];exact QE λ hq=>c1 hq.1
       simp[hg,c1',e];exact Le.Z1 q 16 16 [] rfl rfl zz zz rfl zz
     .rw [Bool.true_or] at u
      simp[u];exact Le.Z1 q 16 16 [] rfl rfl zz zz rfl zz
    refine AU rfl ?_;generalize BZ R=X at *;simp[h8];exact⟨j+1,zy,zy,Le.Z1 q 16 16 [] rfl rfl zz zz rfl zz⟩
   simp only[Qd] at h2;obtain rfl:j=l.length:=zy
   rw[QP];refine arc ⟨52,[(0,AF l),(1,.I t),(5,.rs 16 0 n),(6,.I i),(46,.B (Fg l t i))],[(16,some ⟨1,BZ R,0⟩)],112⟩ ?_ ?_
   .generalize BZ R=X at *
    simp;exact Le.Z1 q 16 16 [] rfl rfl zz zz rfl zz
   generalize Fg l t i=b at *;refine AD _ rfl (λ h5=>?_) λ h5=>AE ?_
   .rw [if_pos h5]
    have h9:BZ (R++[(i:Int)])=BZ R++[[AV.I i]]:=by rw[BZ,List.map_append];rfl
    have ha:(R++[(i:Int)]).length=n+1:=by rw[Qe,<- h0];rfl
    rw[h9,ha];have h3:∀ ρ sn h m,(BZ R++[[AV.I i]]).map (List.map (conv ρ sn h (m+1)))=BZ R++[[AV.I i]]:=λ ρ sn h m=>by rw[List.map_append,q];simp
    generalize BZ R=X at *;have h4:List.take n X=X:=Qc zy
    refine AU rfl ?_;simp[h7,h4]
    repeat' apply And.intro
    all_goals first | omega | exact Le.Z1 h3 136 16 [] rfl rfl zz zz (by simp[h4]) zz
   .rw [if_neg (by simpa using h5),QK,<- h0]
    exact Le.keep rfl zz zz zz
  have q:=It (Dj l t (i+1));refine AU rfl ?_;simp[h6];exact⟨i+1,zy,zy,Le.Z1 q 16 16 [] rfl rfl zz zz rfl zz⟩
 simp only[Qd] at h;obtain rfl:i=64:=zy
 refine AC (Ad ?_);exact CD [16] []
theorem Pf (l:List Int) (x:Int) (hl:l.length<=1000000):AK 165 [AA l,.I x] [] (.B (decide (x∈l))) []:=by
 refine eD.s.ac ?_;show AQ _ 0 _ _ ⟨18,[(0,AA l),(1,.I x)],[],16⟩;refine BE ⟨18,[(0,AA l),(1,.I x)],[],24⟩ rfl (by simp;exact AM [] zz) ?_
 refine AC (BE ⟨18,[(0,AA l),(1,.I x),(5,.I (0:Nat))],[],32⟩ rfl (by simp;exact AM [] zz) ?_)
 refine AI (Ag (ι:=Nat) (λ i=>⟨18,[(0,AA l),(1,.I x),(5,.I i)],[],32⟩) (λ i=>i<=l.length/\x∉l.take i) (λ i=>l.length - i) 0 ⟨Qh _,zz⟩ (Le.refl _ _) ?_)
 rintro i ⟨hi,hp⟩
 refine AC (BE ⟨18,[(0,AA l),(1,.I x),(5,.I i),(9,.B (decide (i<l.length)))],[],64⟩ rfl (by simp;exact AM [] zz) ?_)
 refine AD _ rfl (λ h=>AE ?_) λ h=>Aa (Ab ?_)
 .simp only[Qb] at h
  have q:=wq (k:=i);obtain⟨y,hy⟩:∃ y,l[i]=y:=⟨_,rfl⟩;have hg:l[i]? = some y:=by rw[Qa h,hy]
  refine AC (AI (arc ⟨18,[(0,AA l),(1,.I x),(5,.I i),(17,.B (decide (y=x)))],[],112⟩ ?_ ?_))
  .simp [hg]
   exact AM [] (by simp<;>exact An zt)
  refine AD _ rfl (λ h5=>?_) λ h5=>AE ?_
  .simp only[Qb] at h5
   have hm:x∈l:=by rw[<- h5,<- hy];exact Qi h
   rw[Q7 hm];refine AC (Ad ?_);exact Bv
  simp only[Qd] at h5;refine AU rfl ?_;simp[q];refine⟨i+1,⟨zy,?_⟩,zy,AM [] zz⟩
  rw[Ql h,Qn,hy]
  rintro(hq | hq)
  .exact hp hq
  .exact h5 (Qw.1 hq).symm
 simp only[Qd] at h;obtain rfl:i=l.length:=zy
 rw[QP] at hp;rw[QE hp];refine AC (Ad ?_);exact Bv
def Iu (v:Ac) (g:List Int) (t:Int):Prop:=v.ti<=t/\t<v.en/\(v.re = -1∨t<v.re)/\v.fr∉g/\v.to∉g
instance (v:Ac) (g:List Int) (t:Int):Decidable (Iu v g t):=by unfold Iu;infer_instance
def Ki (V:List Ac) (t:Int) (i:Nat) (v:Ac):Bool:=(V[i+1]?).any λ w=>decide (Dg v t w)
def Jo (V:List Ac) (g:List Int) (t:Int) (i:Nat) (v:Ac):Bool:=decide (Iu v g t) && !Ki V t i v
def EX (V:List Ac) (g:List Int) (t:Int):Nat->List Ac
 | 0=>[]
 | i+1=>EX V g t i++match V[i]? with | some v=>if Jo V g t i v then [v] else [] | none=>[]
def G3 (l:List AJ) (t:Int):List Ac:=EX (GX l) (Dj l t 64) t (GX l).length
theorem Rt (V:List Ac) (g:List Int) (t:Int):∀ i,(EX V g t i).length<=i
 | 0=>Qg _
 | i+1=>by
   have:=Rt V g t i;unfold EX;rw[Qe];split
   .split<;>simp<;>omega
   .simp;omega
theorem fH (l:List AJ):(GX l).length=(Dz l l).length:=by unfold GX DN;rw[Q9,JW]
theorem bI (l:List AJ) (t:Int) (hl:l.length<=100000):AK 111 [AF l,.I t] [] (.rs 0 0 (G3 l t).length) [some ⟨7,AP (G3 l t),0⟩]:=by
 refine Wc.s.ac ?_;show AQ _ 0 _ _ ⟨107,[(0,AF l),(1,.I t)],[],16⟩;refine BE ⟨107,[(0,AF l),(1,.I t)],[],24⟩ rfl (by simp;exact AM [] zz) ?_
 have hj:=bF l hl;have hk:=Tn l t zy
 have hu:=fH l;have ht:=Rb l l;have hv:=N6 l t 64;have h9:G3 l t=EX (GX l) (Dj l t 64) t (GX l).length:=rfl;rw[h9];generalize GX l=V at *;generalize Dj l t 64=G at *;have tkV:List.take V.length (AP V)=AP V:=Qc zz
 have tkG:List.take G.length (BZ G)=BZ G:=Qc zz
 refine arc ⟨107,[(1,.I t),(5,Ax V),(6,AA G)],[],80⟩ ?_ ?_
 .simp
  refine Cu hj rfl ?_;simp[AB];refine Cu hk rfl ?_;simp[AB]
  exact AM [32,56] (by
   simp[AB]
   exact⟨Dy (congrArg _ tkV),Dy (congrArg _ tkG)⟩)
 refine BE ⟨107,[(1,.I t),(5,Ax V),(6,AA G),(7,.sc (.slice none 0 0))],[],88⟩ rfl (by simp;exact AM [] zz) ?_
 refine AC (BE ⟨107,[(1,.I t),(5,Ax V),(6,AA G),(7,.sc (.slice none 0 0)),(8,.I (0:Nat))],[],96⟩ rfl (by simp;exact AM [] zz) ?_)
 refine AI (Ag (ι:=Nat) (λ i=>⟨107,[(1,.I t),(5,Ax V),(6,AA G),(7,.rs 16 0 (EX V G t i).length),(8,.I i)],[(16,some ⟨7,AP (EX V G t i),0⟩)],96⟩) (λ i=>i<=V.length) (λ i=>V.length - i) 0 (Qh _) (Le.lst [] [] [(16,7)] rfl zz zz zz zz zz zz zz (by simp[Up,EX]) (by simp[EX])) ?_)
 intro i hi;refine AC (arc ⟨107,[(1,.I t),(5,Ax V),(6,AA G),(7,.rs 16 0 (EX V G t i).length),(8,.I i),(19,.B (decide (i<V.length)))],[(16,some ⟨7,AP (EX V G t i),0⟩)],128⟩ ?_ ?_)
 .simp
  exact BD
 refine AD _ rfl (λ h=>AE ?_) λ h=>Aa (Ab ?_)
 .simp only[Qb] at h
  have hm:=wq (k:=i);refine BO ⟨107,[(1,.I t),(5,Ax V),(6,AA G),(7,.rs 16 0 (EX V G t (i+1)).length),(8,.I i)],[(16,some ⟨7,AP (EX V G t (i+1)),0⟩)],1000⟩ ?_ ?_
  .have hg:V[i]? = some V[i]:=Qa h
   have hx:=Rt V G t i;have h7:EX V G t (i+1)=EX V G t i++if Jo V G t i V[i] then [V[i]] else []:=by rw[EX,hg]
   have u:Jo V G t i V[i]=(decide (Iu V[i] G t) && !Ki V t i V[i]):=rfl;rw[h7];generalize V[i]=v at *;generalize EX V G t i=R at *;generalize Jo V G t i v=kb at *;have q:=CX R;obtain⟨n,h6⟩:=AL (R.length);have ho:(AP R).length=n:=by rw[AP,Qs,h6]
   rw[<- h6];refine AI (arc ⟨107,[(1,.I t),(5,Ax V),(6,AA G),(7,.rs 16 0 n),(8,.I i),(9,.pv (vC v))],[(16,some ⟨7,AP R,0⟩)],176⟩ ?_ ?_)
   .generalize AP R=X at *
    simp[hg,AZ];exact Le.Z1 q 16 16 [160] rfl rfl zz zz rfl zz
   obtain⟨nb,ha⟩:=AL (Ki V t i v);rw[<- ha] at u;obtain⟨i1,hr⟩:=AL (i+1);have h1:IntKind.i64.wrap ((i:Int)+1)=(i1:Int):=by rw[w6];omega
   have h0:nb=(V[i1]?).any λ w=>decide (Dg v t w):=by rw[ha,hr];rfl
   refine BM ⟨107,[(1,.I t),(5,Ax V),(6,AA G),(7,.rs 16 0 n),(8,.I i),(9,.pv (vC v)),(10,.B nb)],[(16,some ⟨7,AP R,0⟩)],480⟩ ?_ ?_
   .generalize AP R=X at *
    by_cases h3:i1<V.length
    .have h8:V[i1]? = some V[i1]:=Qa h3
     rw[h8] at h0;obtain⟨w,hw⟩:∃ w,V[i1]=w:=⟨_,rfl⟩;rw[hw] at h0;have h4:nb=decide (Dg v t w):=h0
     by_cases c1:w.fr=v.fr
     .have c1':(w.fr == v.fr)=true:=by simp[c1]
      by_cases c2:w.to=v.to
      .have c2':(w.to == v.to)=true:=by simp[c2]
       have e:nb=decide (w.ti<=t):=by
        rw[h4,Qk,Qb,Qb];exact⟨λ hq=>hq.2.2,λ hq=>⟨c1,c2,hq⟩⟩
       simp[h1,h3,hw,c1',c2',e];exact⟨rfl,Le.Z1 q 16 16 [] rfl rfl zz zz rfl zz⟩
      .have c2':(w.to == v.to)=false:=by simp[c2]
       have e:nb=false:=by rw[h4];exact QE λ hq=>c2 hq.2.1
       simp[h1,h3,hw,c1',c2',e];exact⟨rfl,Le.Z1 q 16 16 [] rfl rfl zz zz rfl zz⟩
     .have c1':(w.fr == v.fr)=false:=by simp[c1]
      have e:nb=false:=by rw[h4];exact QE λ hq=>c1 hq.1
      simp[h1,h3,hw,c1',e];exact⟨rfl,Le.Z1 q 16 16 [] rfl rfl zz zz rfl zz⟩
    .have h8:V[i1]? = none:=QT zy
     rw[h8] at h0;have e:nb=false:=h0;simp[h1,h3,e];exact⟨rfl,Le.Z1 q 16 16 [] rfl rfl zz zz rfl zz⟩
   obtain⟨b1,hb⟩:∃ b,b=decide (v.fr∈G):=⟨_,rfl⟩;obtain⟨b2,hd⟩:∃ b,b=decide (v.to∈G):=⟨_,rfl⟩;have k1:=Pf G v.fr zy
   have k2:=Pf G v.to zy
   rw[<- hb] at k1;rw[<- hd] at k2;refine arc ⟨107,[(1,.I t),(5,Ax V),(6,AA G),(7,.rs 16 0 n),(8,.I i),(9,.pv (vC v)),(101,.B kb)],[(16,some ⟨7,AP R,0⟩)],792⟩ ?_ ?_
   .generalize AP R=X at *
    by_cases c1:v.ti<=t
    .by_cases c2:t<v.en
     .by_cases c3:v.re = -1∨t<v.re
      .have h2:kb=(!b1 && !b2 && !nb):=by
        rw[u,hb,hd,Qk];simp[Iu,c1,c2,c3]
       have fin:∀ w:Bool,kb=w->True:=λ _ _=>trivial;rcases Classical.em (v.re = -1) with c4 | c4
       .have c4':(v.re == -1)=true:=by simp[c4]
        cases nb
        .simp [c1,c2,c4']
         refine AT k1 rfl ?_
         cases b1
         .simp
          refine AT k2 rfl ?_;simp;exact Le.Z1 q 16 16 [] rfl rfl zz zz rfl (by simp[h2])
         .simp
          exact Le.Z1 q 16 16 [] rfl rfl zz zz rfl (by simp[h2])
        .simp [c1,c2,c4']
         exact Le.Z1 q 16 16 [] rfl rfl zz zz rfl (by simp[h2])
       .have c5:t<v.re:=c3.resolve_left c4
        have c4':(v.re == -1)=false:=by simp[c4]
        cases nb
        .simp [c1,c2,c4',c5]
         refine AT k1 rfl ?_
         cases b1
         .simp
          refine AT k2 rfl ?_;simp;exact Le.Z1 q 16 16 [] rfl rfl zz zz rfl (by simp[h2])
         .simp
          exact Le.Z1 q 16 16 [] rfl rfl zz zz rfl (by simp[h2])
        .simp [c1,c2,c4',c5]
         exact Le.Z1 q 16 16 [] rfl rfl zz zz rfl (by simp[h2])
      .have e:kb=false:=by
        rw[u,QE λ hq=>c3 hq.2.2.1];rfl
       have c4:¬ v.re = -1:=λ h=>c3 (.inl h);have c4':(v.re == -1)=false:=by simp[c4]
       have c5:¬ t<v.re:=λ h=>c3 (.inr h);simp[c1,c2,c4',c5,e];exact Le.Z1 q 16 16 [] rfl rfl zz zz rfl zz
     .have e:kb=false:=by
       rw[u,QE λ hq=>c2 hq.2.1];rfl
      simp[c1,c2,e];exact Le.Z1 q 16 16 [] rfl rfl zz zz rfl zz
    .have e:kb=false:=by
      rw[u,QE λ hq=>c1 hq.1];rfl
     simp[c1,e];exact Le.Z1 q 16 16 [] rfl rfl zz zz rfl zz
   refine AD _ rfl (λ h5=>?_) λ h5=>AE ?_
   .rw [if_pos h5]
    have hs:AP (R++[v])=AP R++[vC v]:=by rw[AP,List.map_append];rfl
    have he:(R++[v]).length=n+1:=by rw[Qe,<- h6];rfl
    rw[hs,he];have hf:∀ ρ sn h m,(AP R++[vC v]).map (List.map (conv ρ sn h (m+1)))=AP R++[vC v]:=λ ρ sn h m=>by rw[List.map_append,q];simp
    generalize AP R=X at *;have hh:List.take n X=X:=Qc zy
    refine AU rfl ?_;simp[ho,hh]
    repeat' apply And.intro
    all_goals first | omega | exact Le.Z1 hf 816 16 [] rfl rfl zz zz (by simp[hh]) zz
   .rw [if_neg (by simpa using h5),QK,<- h6]
    exact Le.keep rfl zz zz zz
  have q:=CX (EX V G t (i+1));refine AU rfl ?_;simp[hm];exact⟨i+1,zy,zy,Le.Z1 q 16 16 [] rfl rfl zz zz rfl zz⟩
 simp only[Qd] at h;obtain rfl:i=V.length:=zy
 refine AC (Ad ?_);exact CD [16] []
variable {l:List AJ} {v:Ac}
def Fv (x y:AJ):Prop:=x.au<y.au∨(x.au=y.au/\x.nu<y.nu/\x.ti<=y.ti/\x.ki≠3)
structure CQ (l:List AJ):Prop where
 ord:l.Pairwise Fv
 rng:∀ s∈l,0<=s.au/\s.au<64/\0<=s.ti/\0<=s.nu
theorem Ss {v x:AJ} {p:Int × Int} (h:¬ Ey v x p):Hv v p x=p:=if_neg h
theorem Rq (v:AJ) (p:Int × Int) (h0:0<=p.2):∀ l:List AJ,(∀ s∈l,s.au=v.au->p.2<s.nu)->l.foldl (Hv v) p=p
 | [],_=>rfl
 | s::l,h=>by
   have hn:¬ Ey v s p:=λ hq=>by
    have h1:=h s (Qp ..) hq.1;rcases hq.2.2.2.2 with h2 | h2<;>omega
   rw[List.foldl_cons,Ss hn];exact Rq v p h0 l λ s hs=>h s (Qo _ hs)
theorem Td (v:AJ):∀ l:List AJ,l.Pairwise Fv->(∀ s∈l,0<=s.nu)->(l.foldl (Hv v) (-1,-1)).1=Dk l v
 | [],_,_=>rfl
 | s::l,ho,hr=>by
   rw[QY] at ho;rw[List.foldl_cons]
   by_cases hm:EC v s
   .have hp:Ey v s (-1,-1):=⟨hm.1,hm.2.2.1,hm.2.2.2,hm.2.1,.inl zx⟩
    have q:Hv v (-1,-1) s=(s.ti,s.nu):=if_pos hp
    rw[q,Rq v (s.ti,s.nu) (hr s (Qp ..)) l λ x hx u=>by
     rcases ho.1 x hx with h1 | h1
     .have:=hm.1;omega
     .exact h1.2.1]
    unfold Dk;rw[List.find?_cons_of_pos (by simpa using hm)]
   .have q:Hv v (-1,-1) s=(-1,-1):=Ss λ hq=>hm ⟨hq.1,hq.2.2.2.1,hq.2.1,hq.2.2.1⟩
    rw[q,Td v l ho.2 λ x hx=>hr x (Qo _ hx)];unfold Dk;rw[List.find?_cons_of_neg (by simpa using hm)]
theorem CQ.rev (h:CQ l) (v:AJ):FH l v=Dk l v:=Td v l h.ord λ s hs=>(h.rng s hs).2.2.2
theorem CQ.raw (h:CQ l):BH l l=Dz l l:=by
 unfold BH Dz;refine congrArg (λ f=>List.map f _) ?_
 funext s
 unfold FC Fy;rw[h.rev]
theorem CQ.of (h:CQ l):DB l=GX l:=by unfold DB GX;rw[h.raw]
theorem CQ.asc (h:CQ l) (t:Int):(CH l t).Pairwise (· < ·):=by
 unfold CH;rw[Uw];refine List.Pairwise.imp_of_mem ?_ (h.ord.filter _);intro a b ha hb q;have h1:G1 t a:=by simpa using (QA.1 ha).2
 rcases q with h2 | h2
 .exact h2
 .exact absurd h1.1 h2.2.2.2
theorem Sm:∀ {a b:List Int},a.Pairwise (· < ·)->b.Pairwise (· < ·)->(∀ x,x∈a↔x∈b)->a=b
 | [],[],_,_,_=>rfl
 | [],y::b,_,_,h=>by have:=(h y).2 (Qp ..);simp at this
 | x::a,[],_,_,h=>by have:=(h x).1 (Qp ..);simp at this
 | x::a,y::b,ha,hb,h=>by
   rw[QY] at ha hb
   have q:x=y:=by
    rcases Qv.1 ((h x).1 (Qp ..)) with h1 | h1
    .exact h1
    .rcases Qv.1 ((h y).2 (Qp ..)) with h2 | h2
     .exact h2.symm
     .have h3:=hb.1 x h1
      have h4:=ha.1 y h2;omega
   subst q;refine congrArg _ (Sm ha.2 hb.2 λ z=>⟨λ hz=>?_,λ hz=>?_⟩)
   .rcases Qv.1 ((h z).1 (Qo _ hz)) with h1 | h1
    .have:=ha.1 z hz;omega
    .exact h1
   .rcases Qv.1 ((h z).2 (Qo _ hz)) with h1 | h1
    .have:=hb.1 z hz;omega
    .exact h1
theorem OC (l:List AJ) (t x:Int):∀ n:Nat,x∈Dj l t n↔0<=x/\x<n/\Fg l t x=true
 | 0=>by simp[Dj];omega
 | n+1=>by
   unfold Dj;rw[Qn,OC l t x n];constructor
   .rintro (h | h)
    .exact ⟨h.1,zy,h.2.2⟩
    .split at h
     .rename_i hb
      rw[Qw] at h;subst h;exact⟨zy,zy,hb⟩
     .simp at h
   .rintro ⟨h1,h2,h3⟩
    by_cases h4:x<n
    .exact .inl ⟨h1,h4,h3⟩
    .have h5:x=(n:Int):=zy
     subst h5;rw[if_pos h3];exact .inr (Qw.2 rfl)
theorem R4 (l:List AJ) (t:Int):∀ n:Nat,(Dj l t n).Pairwise (· < ·)
 | 0=>List.Pairwise.nil
 | n+1=>by
   unfold Dj;rw[UB];refine⟨R4 l t n,by split<;>simp,λ a ha b hb=>?_⟩
   have h1:=(OC l t a n).1 ha;split at hb
   .rw [Qw] at hb
    omega
   .simp at hb
theorem CQ.gone (h:CQ l) (t:Int):CH l t=Dj l t 64:=by
 refine Sm (h.asc t) (R4 l t 64) λ x=>?_;rw[OC];unfold CH Fg;rw[Qm,UM];constructor
 .rintro ⟨s,hs,rfl⟩
  have q:=QA.1 hs;have hr:=h.rng s q.1;exact⟨hr.1,hr.2.1,s,q.1,by simpa [JR] using q.2⟩
 .rintro ⟨_,_,s,hs,hg⟩
  have u:JR t x s:=by simpa using hg
  exact⟨s,QA.2 ⟨hs,by simpa using u.2⟩,u.1⟩
def Bi (a b:Ac):Prop:=a.fr<b.fr∨(a.fr=b.fr/\(a.to<b.to∨(a.to=b.to/\a.nu<b.nu)))
theorem KG (a b:Ac):A5 a b<0↔Bi a b:=by
 unfold Bi
 by_cases h1:a.fr=b.fr
 .by_cases h2:a.to=b.to
  .rw [TU h1 h2,JO];omega
  .rw [Rx h1 h2,JO];omega
 .rw [Ru h1,JO];omega
theorem LR {a b:Ac} (h:Bi a b):¬ Bi b a:=by unfold Bi at *;omega
theorem dG {a b c:Ac} (h1:¬ Bi a b) (h2:¬ Bi b c):¬ Bi a c:=by unfold Bi at *;omega
theorem PV:∀ (R:List Ac) (x:Ac),R.Pairwise (λ a b=>¬ Bi a b)->(Di A5 R x).Pairwise (λ a b=>¬ Bi a b)
 | [],x,_=>by simp[Di]
 | y::R,x,h=>by
   rw[QY] at h;unfold Di;split
   .rename_i hc
    rw[KG] at hc;rw[QY];refine⟨λ z hz=>?_,PV R x h.2⟩;rcases Qv.1 ((Oh A5 R x).mem_iff.1 hz) with h1 | h1
    .subst h1
     exact LR hc
    .exact h.1 z h1
   .rename_i hc
    rw[KG] at hc;rw[QY,QY];refine⟨λ z hz=>?_,h⟩;rcases Qv.1 hz with h1 | h1
    .rw [h1];exact hc
    .exact dG hc (h.1 z h1)
theorem Yl (M:List Ac):∀ R:List Ac,R.Pairwise (λ a b=>¬ Bi a b)->(M.foldl (Di A5) R).Pairwise (λ a b=>¬ Bi a b):=by
 induction M with
 | nil=>exact λ R h=>h
 | cons x M ih=>exact λ R h=>ih _ (PV R x h)
theorem I5 (M:List Ac):(DN A5 M).Pairwise (λ a b=>¬ Bi b a):=by
 unfold DN;rw[List.pairwise_reverse];exact Yl M [] List.Pairwise.nil
theorem Ji {M:List Ac}:v∈DN A5 M↔v∈M:=by
 unfold DN;rw[List.mem_reverse,(MH A5 M).mem_iff]
theorem g8 {V:List Ac} {g:List Int} {t:Int} {i:Nat} (hv:V[i]? = some v) (hs:V.Pairwise λ a b=>¬ Bi b a) (ht:∀ a∈V,∀ b∈V,a.fr=b.fr->a.nu<=b.nu->a.ti<=b.ti) (h0:v.re = -1∨0<=v.re):Jn V g t i v=Jo V g t i v:=by
 have hh:EZ v g t↔Iu v g t:=by
  have e:(v.re<0∨t<v.re)↔(v.re = -1∨t<v.re):=zy
  unfold EZ Iu;rw[e]
 unfold Jn Jo;rw[UZ.2 hh]
 congr 1
 obtain⟨hi,q⟩:=Qu.1 hv
 by_cases h:i+1<V.length
 .have hw:V[i+1]? = some V[i+1]:=Qa h
  unfold Ki;rw[hw,QX h,List.all_cons,Option.any_some]
  by_cases hl:Dg v t V[i+1]
  .rw [Q7 hl]
   rfl
  .rw [QE hl]
   show (true && _)=true;rw[Bool.true_and,UL];intro z hz;simp only[U0,Qd];intro u;obtain⟨k,hk,rfl⟩:=Qr.1 hz;rw[Ve] at u;rw[QV] at hk;have hp:=QD.1 hs;have h1:=hp i (i+1) hi h zy
   have h2:=hp (i+1) (i+1+1+k) h zy zy
   have h3:=ht _ (Qi h) _ (Qi (show i+1+1+k<V.length by omega))
   rw[q] at h1;generalize V[i+1]=w at *;generalize V[i+1+1+k]=z at *;unfold Dg at *;unfold Bi at h1 h2;have h4:w.fr=v.fr:=zy
   have h5:w.to=v.to:=zy
   have h6:=h3 zy zy
   exact hl ⟨h4,h5,zy⟩
 .unfold Ki
  rw[QT zy,Q4 zy]
  rfl
theorem R3 {V:List Ac} {g:List Int} {t:Int} (hs:V.Pairwise λ a b=>¬ Bi b a) (ht:∀ a∈V,∀ b∈V,a.fr=b.fr->a.nu<=b.nu->a.ti<=b.ti) (q:∀ v∈V,v.re = -1∨0<=v.re):∀ n,CO V g t n=EX V g t n
 | 0=>rfl
 | n+1=>by
   unfold CO EX;rw[R3 hs ht q n]
   cases hv:V[n]? with
   | none=>rfl
   | some v =>
     simp only;rw[g8 hv hs ht (q v (Ud hv))]
theorem CQ.two (h:CQ l) {x y:AJ} (hx:x∈l) (hy:y∈l) (ha:x.au=y.au) (hn:x.nu<=y.nu):x.ti<=y.ti:=by
 obtain⟨i,hi,rfl⟩:=Qr.1 hx;obtain⟨j,hj,rfl⟩:=Qr.1 hy;have hp:=QD.1 h.ord;rcases Nat.lt_trichotomy i j with h1 | h1 | h1
 .rcases hp i j hi hj h1 with h2 | h2
  .omega
  .exact h2.2.2.1
 .subst h1
  exact Vb _
 .rcases hp j i hj hi h1 with h2 | h2
  .omega
  .omega
theorem IL (h:v∈BH l l):∃ s∈l,s.ki=1/\v=FC l s:=by
 unfold BH at h;obtain⟨s,hs,rfl⟩:=Qm.1 h;have q:=QA.1 hs;exact⟨s,q.1,by simpa using q.2,rfl⟩
theorem CQ.act (h:CQ l) (t:Int):Bt l t=G3 l t:=by
 unfold Bt G3;rw[<- h.of,<- h.gone];refine R3 (I5 _) ?_ ?_ _
 .intro a ha b hb h1 h2
  obtain⟨x,hx,_,rfl⟩:=IL (Ji.1 ha);obtain⟨y,hy,_,rfl⟩:=IL (Ji.1 hb);exact h.two hx hy h1 h2
 .intro v hv
  obtain⟨x,hx,_,rfl⟩:=IL (Ji.1 hv);show FH l x = -1∨0<=FH l x;rw[h.rev];unfold Dk;split
  .rename_i s hs
   exact .inr (h.rng s (List.mem_of_find?_eq_some hs)).2.2.1
  .exact .inl rfl
theorem Cg.good {a:Int} {c:List AJ} (hc:Cg a c):CQ c:=by
 have hi:∀ i (h:i<c.length),c[i].au=a/\c[i].nu=i/\0<=c[i].au/\c[i].au<64/\0<=c[i].ti:=λ i h=>by
  have:=hc.1 i h;exact⟨this.au_,this.nu_,this.ok.1.1,this.ok.1.2,this.ok.2.2.1.1⟩
 have q:∀ i k (hj:i+k+1<c.length),c[i].ti<=c[i+k+1].ti/\c[i].ki≠3:=by
  intro i k
  induction k with
  | zero =>
    intro hj;have:=hc.2 i hj;exact⟨this.ti_,this.ki_⟩
  | succ k ih =>
    intro hj;have h1:=ih zy
    have h2:=(hc.2 (i+k+1) hj).ti_;exact⟨Int.le_trans h1.1 h2,h1.2⟩
 constructor
 .rw [QD]
  intro i j h1 h2 hij;have h3:=hi i h1;have h4:=hi j h2;obtain⟨k,rfl⟩:∃ k,j=i+k+1:=⟨j - i - 1,zy⟩
  have h5:=q i k h2;exact .inr ⟨zy,zy,h5.1,h5.2⟩
 .intro s hs
  obtain⟨i,h,rfl⟩:=Qr.1 hs;have h3:=hi i h;exact⟨h3.2.2.1,h3.2.2.2.1,h3.2.2.2.2,zy⟩
theorem CQ.append {a b:List AJ} (ha:CQ a) (hb:CQ b) (h:∀ x∈a,∀ y∈b,x.au<y.au):CQ (a++b) where
 ord:=by
  rw[UB];exact⟨ha.ord,hb.ord,λ x hx y hy=>.inl (h x hx y hy)⟩
 rng:=λ s hs=>(Qn.1 hs).elim (ha.rng s) (hb.rng s)
abbrev PB (rs:List (Nat × Option (Bool × Nat))):=Af rs 0 (λ b:Bool=>.B b) (λ _=>[]) (λ _=>True)
theorem NO {f:FuncId} {af:DI} (s:Src Tryz.prog f af) {args:List AV} (q:args.length<=af.nt) (h:AQ Tryz.prog 0 af.code (PB af.res) (GL af args [])):∃ b:Bool,AK f args [] (.B b) []:=by
 obtain⟨b,_,hb⟩:=s.acallsX (α:=Bool) (λ b=>.B b) (λ _=>[]) (λ _=>True) (args:=args) (hs:=[]) q (Qh _) (λ _=>Qg _) h;exact⟨b,hb⟩
theorem FF {t:Nat} {st:St} {b:Bool} (h:st.get t = .B b):PB [(t,none)] .ret st:=Af.mk (.inr rfl) b trivial (AG.one (by rw[h];exact .refl _))
theorem Tu (x y:AJ):∃ r:Bool,AK 123 [eS x,eS y] [] (.B r) []:=by
 refine NO iZ.s (AW rfl) ?_;show AQ _ 0 _ _ ⟨32,[(0,eS x),(1,eS y)],[],16⟩;refine rs [2,3] [] [16,24] ?_;refine AC (rs [2,3,9] [] [] ?_);refine AD _ rfl (λ h3=>?_) λ h3=>AE ?_
 .refine rs [4] [] [] ?_
  exact AO (FF rfl)
 refine AC (rs [2,3,19] [] [] ?_);refine AD _ rfl (λ h6=>?_) λ h6=>AE ?_
 .refine rs [4] [] [] ?_
  exact AO (FF rfl)
 refine rs [4] [] [] ?_;exact AO (FF rfl)
theorem Eb {k N:Nat} (h:k<N) (hN:N<=1099511627776):IntKind.i64.wrap ((k:Int)+1)=((k+1:Nat):Int):=by rw[w6];omega
theorem eY (a b:List Pn) (ha:a.length<=1000000):∃ r:Bool,AK 108 [BQ a,BQ b] [] (.B r) []:=by
 refine NO Sl (AW rfl) ?_;show AQ _ 0 _ _ ⟨26,[(0,BQ a),(1,BQ b)],[],16⟩;refine rs [0,1] [] [] ?_;refine AC (rs [0,1,10] [] [] ?_);refine AD _ rfl (λ h3=>?_) λ h3=>AE ?_
 .refine rs [4] [] [] ?_
  exact AO (FF rfl)
 simp at h3;refine AC (rs [0,1,5] [] [] ?_);refine AI (Ag (ι:=Nat) (λ i=>⟨26,[(0,BQ a),(1,BQ b),(5,.I i)],[],72⟩) (λ i=>i<=a.length) (λ i=>a.length - i) 0 (Qh _) (Le.refl _ _) ?_);intro i hi;refine AC (rs [0,1,5,14] [] [] ?_);refine AD _ rfl (λ h7=>AE ?_) λ h7=>Aa (Ab ?_)
 .simp at h7
  have q:a[i]? = some a[i]:=Qa h7;have u:b[i]? = some b[i]:=Qa zy
  have hw:=Eb h7 zy
  generalize a[i]=x at *;generalize b[i]' zy=y at *
  refine BO ⟨26,[(0,BQ a),(1,BQ b),(5,.I i)],[],300⟩ ?_ ?_
  .refine AI (NW (s:=?s8) [0,1,5,25] [] [] rfl ?o8 ?q8)
   case o8=>simp[q,u];refine⟨rfl,?_⟩;rfl
   refine AD _ rfl (λ h9=>?_) λ h9=>AE ?_
   .refine rs [4] [] [] ?_
    exact AO (FF rfl)
   .exact AM [] zz
  refine AU rfl ?_;simp[hw];exact⟨i+1,zy,zy,AM [] zz⟩
 refine rs [4] [] [] ?_;exact AO (FF rfl)
theorem PT (x y:AJ) (h1:x.li.length<=1000000) (h2:x.pi.length<=1000000):∃ r:Bool,AK 62 [eS x,eS y] [] (.B r) []:=by
 obtain⟨r,hr⟩:=eY x.pi y.pi h2;have hi:=Rv x.li y.li zy
 refine NO Nq (AW rfl) ?_;show AQ _ 0 _ _ ⟨87,[(0,eS x),(1,eS y)],[],16⟩;refine rs [2,3] [] [16,24] ?_;refine AC (AU rfl ?_);simp
 repeat' first
  | (refine CC 68 rfl ?_;refine AT hi zz ?_;simp)
  | (refine CC 108 rfl ?_;refine AT hr zz ?_;simp)
  | (refine BK (λ hb=>?_) (λ hb=>?_)<;>(try rw[hb])<;>simp[*])
 all_goals exact AO (FF rfl)
theorem Yh {x y:AJ} (h:x.nu≠y.nu):AK 62 [eS x,eS y] [] (.B false) []:=by
 refine Nq.ai ?_;have hn:(x.nu == y.nu)=false:=by simp[h]
 refine rs [2,3] [] [16,24] ?_;refine BE ⟨87,[(4,.B false)],[],900⟩ rfl ?_ (AO ⟨.inr rfl,AG.one zz⟩)
 by_cases hx:x.au=y.au
 .have q:(x.au == y.au)=true:=by simp[hx]
  simp[q,hn];exact BT [] []
 .have q:(x.au == y.au)=false:=by simp[hx]
  simp[q];exact BT [] []
variable {l o:List AJ} {s:AJ}
theorem DC.b (h:DC s):BJ s:=by
 obtain⟨_,_,_,⟨⟨q,_⟩,_⟩,⟨h1,h2,h3⟩,⟨h4,h5,h6⟩,_⟩:=h;refine⟨?_,zy,zy,zy,λ p hp=>?_⟩
 .by_cases hn:0<s.nu
  .have:=h5 hn;omega
  .by_cases h0:s.nu=0
   .have:=h4 h0
    have h7:s.pr.toList.length=0:=by rw[this];rfl
    have h8:s.pr.toList.length=s.pr.size:=by rw[ByteArray.toList_eq];simp
    omega
   .omega
 .obtain ⟨i,hi,rfl⟩:=Qr.1 hp
  have:=(h6 i hi).2.2.2.2;omega
structure Df (s:AJ):Prop where
 ok:DC s
 sk_:s.sk=s.au
 sd_:s.sd.toList=(Bk s).toList
def FJ (au:Int) (l o:List AJ):Prop:=(o.Pairwise λ a b=>a.nu<=b.nu) /\ ∀ x∈l,x.au=au->Df x -> ∃ y∈o,y.nu=x.nu
theorem FJ.skip {au:Int} (h:FJ au l o) (hs:¬ (s.au=au/\Df s)):FJ au (l++[s]) o :=
 ⟨h.1,λ x hx h1 h2=>(Qn.1 hx).elim (λ hx=>h.2 x hx h1 h2) λ hx=>by rw[Qw] at hx;subst hx;exact absurd ⟨h1,h2⟩ hs⟩
theorem FJ.same {au:Int} {y:AJ} (h:FJ au l o) (hy:y∈o) (hn:y.nu=s.nu):FJ au (l++[s]) o :=
 ⟨h.1,λ x hx h1 h2=>(Qn.1 hx).elim (λ hx=>h.2 x hx h1 h2) λ hx=>by rw[Qw] at hx;subst hx;exact⟨y,hy,hn⟩⟩
theorem FJ.ins {au:Int} {k:Nat} (h:FJ au l o) (h1:∀ j (hj:j<o.length),j<k->o[j].nu<=s.nu) (h2:∀ hk:k<o.length,s.nu<=o[k].nu):FJ au (l++[s]) (o.take k++s::o.drop k):=by
 have hp:=h.1
 have ht:∀ a∈o.take k,a.nu<=s.nu:=λ a ha=>by
  obtain⟨j,hj,rfl⟩:=List.mem_take_iff_getElem.1 ha;exact h1 j zy zy
 have hd:∀ b∈o.drop k,s.nu<=b.nu:=λ b hb=>by
  obtain⟨j,hj,rfl⟩:=List.mem_drop_iff_getElem.1 hb;have h3:=h2 zy
  rcases Q8 j with rfl | h0
  .exact h3
  .exact Int.le_trans h3 (QD.1 hp k (k+j) zy zy zy)
 refine⟨UB.2 ⟨hp.sublist (List.take_sublist ..),QY.2 ⟨hd,hp.sublist (List.drop_sublist ..)⟩,λ a ha b hb=>?_⟩,λ x hx h3 h4=>?_⟩
 .rcases Qv.1 hb with rfl | hb
  .exact ht a ha
  .exact Int.le_trans (ht a ha) (hd b hb)
 .rcases Qn.1 hx with hx | hx
  .obtain ⟨y,hy,e⟩:=h.2 x hx h3 h4
   refine⟨y,?_,e⟩;rw[<- QL k o] at hy;rcases Qn.1 hy with hy | hy
   .exact Q2 _ hy
   .exact UE _ (Qo _ hy)
  .rw [Qw] at hx
   subst hx;exact⟨x,UE _ (Qp ..),rfl⟩
def Hu (au:Int) (l o:List AJ):Prop:=o.length<=l.length /\ ∀ x∈o,x∈l/\x.au=au/\Df x
theorem Pe (au:Int) (l:List AJ) (hl:l.length<=100000) (hb:∀ s∈l,BJ s):∃ o,(Hu au l o/\FJ au l o)/\AK 81 [.I au,AF l] [] (.rs 0 0 o.length) [some ⟨13,o.map sC,0⟩]:=by
 refine Ry.s.acallsX (args:=[.I au,AF l]) (hs:=[]) (λ o=>.rs 0 0 o.length) (λ o=>[some ⟨13,o.map sC,0⟩]) (λ o=>Hu au l o/\FJ au l o) (AW rfl) (AW rfl) (λ _=>Qh _) ?_;show AQ _ 0 _ _ ⟨96,[(0,.I au),(1,AF l)],[],16⟩;refine rs [0,1] [] [] ?_;refine rs [0,1,5] [] [] ?_;refine AC (rs [0,1,5,6] [] [] ?_);refine AI (Ag (ι:=List AJ × Nat) (λ p=>⟨96,[(0,.I au),(1,AF l),(5,.rs 16 0 p.1.length),(6,.I p.2)],[(16,some ⟨13,p.1.map sC,0⟩)],40⟩) (λ p=>p.2<=l.length/\p.1.length<=p.2/\(∀ x∈p.1,x∈l/\x.au=au/\Df x)/\FJ au (l.take p.2) p.1) (λ p=>l.length - p.2) ([],0) ⟨Qh _,Qh _,zz,.nil,zz⟩ (Le.lst [] [] [(16,13)] rfl zz zz zz zz zz zz zz (by simp[Up]) zz) ?_)
 rintro⟨o,i⟩ ⟨hi,hv,u,h0⟩
 simp only at hi hv u h0;have h8:(o.map sC).length=o.length:=Qs ..;have hm:∀ k (h:k<o.length),(o.map sC)[k]? = some (sC o[k]):=λ k h=>by rw[QG,Qa h];rfl
 have ho:=Ff o;obtain⟨X,hX⟩:=AL (o.map sC);simp only;rw[<- hX] at h8 hm ho ⊢;refine AC (rk (s:=?s4) [0,1,5,6,12] [16] rfl ?o4 ?q4)
 case o4=>simp;rfl
 refine AD _ rfl (λ h=>AE ?_) λ h=>Aa (Ab ?_)
 .simp only[Qb,Uq] at h
  refine Bn (ι:=List AJ) (λ o=>⟨96,[(0,.I au),(1,AF l),(5,.rs 16 0 o.length),(6,.I i)],[(16,some ⟨13,o.map sC,0⟩)],1000⟩) (λ o=>o.length<=i+1/\(∀ x∈o,x∈l/\x.au=au/\Df x)/\FJ au (l.take (i+1)) o) ?_ ?_
  .have hg:l[i]? = some l[i]:=Qa h
   have hw:l[i]∈l:=Qi h;have hy:l.take (i+1)=l.take i++[l[i]]:=Ql h;rw[hy]
   clear hy
   generalize l[i]=s at *;have h9:=hb s hw;obtain⟨e,hz,a0⟩:=Gn s (by have:=h9.2.2.1;omega) (by have:=h9.2.2.2.1;omega)
   have ag:=Hw s h9;have ai:=I4 s (by have:=h9.2.2.1;omega) (by have:=h9.2.2.2.1;omega)
   refine AI (rx (s:=?s5) [0,1,5,6,7] [16] [104] rfl ?o5 ?q5)
   case o5=>simp[hg,AZ,ho];rfl
   refine AC ?_;obtain⟨r,hr⟩:∃ r:Bool,r = !decide (s.au=au/\e=0/\s.sk=s.au/\s.sd.toList=(Bk s).toList):=⟨_,rfl⟩;refine arc ⟨96,[(0,.I au),(1,AF l),(5,.rs 16 0 o.length),(6,.I i),(7,.pv (sC s)),(32,.B r)],[(16,some ⟨13,X,0⟩)],300⟩ ?_ ?_
   .by_cases c1:s.au=au
    .have c1':(s.au != au)=false:=by simp[c1]
     simp[c1'];refine Ay a0 ?_
     by_cases c2:e=0
     .have c2':(e != 0)=false:=by simp[c2]
      simp[c2'];refine Ay ag ?_;simp;exact Le.keep rfl zz (by simp[hr,c1,c2]) zz
     .have c2':(e != 0)=true:=by simp[c2]
      simp[c2'];exact Le.keep rfl zz (by simp[hr,c2]) zz
    .have c1':(s.au != au)=true:=by simp[c1]
     simp[c1'];exact Le.keep rfl zz (by simp[hr,c1]) zz
   refine AD _ rfl (λ h1=>Aa (Ab ?_)) λ h1=>AE ?_
   .rw [h1] at hr
    have am:¬ (s.au=au/\Df s):=λ hf=>by simp[hf.1,hz.2 hf.2.ok,hf.2.sk_,hf.2.sd_] at hr
    exact⟨o,⟨zy,u,h0.skip am⟩,Le.keep rfl zz zz (by simp[hX])⟩
   rw[h1] at hr
   have hq:s.au=au/\Df s:=by
    have:s.au=au/\e=0/\s.sk=s.au/\s.sd.toList=(Bk s).toList:=by simpa using hr
    exact⟨this.1,hz.1 this.2.1,this.2.2.1,this.2.2.2⟩
   refine rk (s:=?s6) [0,1,5,6,7,8] [16] rfl ?o6 ?q6
   case o6=>simp;rfl
   refine AC (AI (Ag (ι:=Nat) (λ k=>⟨96,[(0,.I au),(1,AF l),(5,.rs 16 0 o.length),(6,.I i),(7,.pv (sC s)),(8,.I k)],[(16,some ⟨13,X,0⟩)],400⟩) (λ k=>k<=o.length /\ ∀ j (hj:j<o.length),j<k->o[j].nu<=s.nu) (λ k=>o.length - k) 0 ⟨Qh _,λ _ _ h=>absurd h (U6 _)⟩ (Le.keep rfl zz zz zz) ?_))
   rintro k ⟨hk,a1⟩
   refine AC ?_
   obtain⟨r2,ht,hd⟩:∃ r2:Bool,(∀ h:k<o.length,r2=(decide (o[k].nu<s.nu) || (o[k].nu == s.nu && Op.bytesLess o[k].sd.toList s.sd.toList)))/\(r2=true->k<o.length):=by
    by_cases h:k<o.length
    .exact ⟨decide (o[k].nu<s.nu) || (o[k].nu == s.nu && Op.bytesLess o[k].sd.toList s.sd.toList),λ _=>rfl,λ _=>h⟩
    .exact ⟨false,λ h'=>absurd h' h,λ h'=>by cases h'⟩
   refine BM ⟨96,[(0,.I au),(1,AF l),(5,.rs 16 0 o.length),(6,.I i),(7,.pv (sC s)),(8,.I k),(68,.B r2)],[(16,some ⟨13,X,0⟩)],700⟩ ?_ ?_
   .by_cases q:k<o.length
    .have hp:=hm k q
     have h2:=ht q;generalize o[k]=p at *
     by_cases c1:p.nu<s.nu
     .simp [q,hp,c1]
      exact⟨rfl,Le.keep rfl zz (by simp[h2,c1]) zz⟩
     .by_cases c2:p.nu=s.nu
      .have c2':(p.nu == s.nu)=true:=by simp[c2]
       simp[q,hp,c1,c2'];exact⟨rfl,Le.keep rfl zz (by simp[h2,c1,c2]) zz⟩
      .have c2':(p.nu == s.nu)=false:=by simp[c2]
       simp[q,hp,c1,c2'];exact⟨rfl,Le.keep rfl zz (by simp[h2,c1,c2]) zz⟩
    .have e2:r2=false:=by
      cases hh:r2
      .rfl
      .exact absurd (hd hh) q
     simp[q];exact⟨rfl,Le.keep rfl zz (by simp[e2]) zz⟩
   refine AD _ rfl (λ h4=>AE ?_) λ h4=>Aa (Ab ?_)
   .have q:=hd h4
    have an:=Eb q zy
    refine AI (AU rfl ?_);simp[an];have a2:=ht q;rw[h4] at a2
    have aq:o[k].nu<=s.nu:=by
     have h6:=a2.symm;simp only[UU,QW,Qb,beq_iff_eq] at h6;rcases h6 with h7 | h7
     .omega
     .have:=h7.1;omega
    exact⟨k+1,⟨zy,λ j hj av=>(QN.1 av).elim (a1 j hj) λ h=>by subst h;exact aq⟩,zy,Le.Z1 ho 16 16 [] rfl rfl zz zz rfl zz⟩
   refine AC ?_
   obtain⟨r3,h2⟩:∃ r3:Bool,∀ h:k<o.length,AK 62 [eS o[k],eS s] [] (.B r3) []/\(r3=true->o[k].nu=s.nu):=by
    by_cases h:k<o.length
    .have a3:=(u o[k] (Qi h)).2.2.ok.b
     by_cases a4:o[k].nu=s.nu
     .obtain ⟨r3,h3⟩:=PT o[k] s (by have:=a3.2.2.1;omega) (by have:=a3.2.2.2.1;omega)
      exact⟨r3,λ _=>⟨h3,λ _=>a4⟩⟩
     .exact ⟨false,λ _=>⟨Yh a4,λ h=>by cases h⟩⟩
    .exact ⟨false,λ h'=>absurd h' h⟩
   refine BM ⟨96,[(0,.I au),(1,AF l),(5,.rs 16 0 o.length),(6,.I i),(7,.pv (sC s)),(8,.I k),(82,.B (decide (k<o.length) && r3))],[(16,some ⟨13,X,0⟩)],900⟩ ?_ ?_
   .by_cases q:k<o.length
    .have hp:=hm k q
     have b0:=(h2 q).1;generalize o[k]=p at *;simp[q,hp];refine Ay b0 ?_;simp;exact⟨rfl,Le.keep rfl zz zz zz⟩
    .simp [q]
     exact⟨rfl,Le.keep rfl zz zz zz⟩
   refine AD _ rfl (λ h5=>Aa (Ab ?_)) λ h5=>AE ?_
   .rw [QW,Qb] at h5
    obtain⟨h6,h7⟩:=h5;exact⟨o,⟨zy,u,h0.same (Qi h6) ((h2 h6).2 h7)⟩,Le.keep rfl zz zz (by simp[hX])⟩
   have hge:∀ hk:k<o.length,s.nu<=o[k].nu:=λ hk=>by
    have h6:=ht hk;rw[h4] at h6;have:=of_decide_eq_false ((Bool.or_eq_false_iff.1 h6.symm).1);omega
   have a5:=h0.ins a1 hge;have a6:(o.take k++s::o.drop k).length=o.length+1:=by rw[Qe,QZ,QB,QV];omega
   have a7:(o.take k++s::o.drop k).map sC=X.take k++[sC s]++X.drop k:=by rw[hX,List.map_append,List.map_cons,Vf,US,Qq];rfl
   have he:=Ff (o.take k++s::o.drop k);rw[a7] at he
   have b1:(o.take k++s::o.drop k).length<=i+1/\(∀ x∈o.take k++s::o.drop k,x∈l/\x.au=au/\Df x)/\FJ au (l.take i++[s]) (o.take k++s::o.drop k):=by
    refine⟨zy,λ x hx=>?_,a5⟩
    rcases Qn.1 hx with h6 | h6
    .exact u x (QQ h6)
    .rcases Qv.1 h6 with rfl | h6
     .exact ⟨hw,hq⟩
     .exact u x (Uo h6)
   obtain⟨n,hn⟩:=AL (o.length);rw[<- hn] at h8 a6 hk hv ⊢;have ha:min k n=k:=zy
   have b2:min (n - k) (n - k)=n - k:=zy
   have hu:List.take (n - k) (X.drop k)=X.drop k:=Qc (by rw[QV];omega)
   have a8:k+1+(n - k)=n+1:=zy
   refine Cn rfl ?_;simp[h8,ha,hu,hk];refine⟨zy,zy,?_⟩
   refine Ay ai ?_;simp[h8,ha,hu,hk];have a9:List.take (k+1) (List.take k X++[sC s])=List.take k X++[sC s]:=Qc (by rw[Qe,QB,h8,ha];exact Qg _)
   have e1:List.take (k+1) (List.take k (List.take k X)++[sC s])=List.take k X++[sC s]:=by rw[List.take_take,Nat.min_self];exact a9
   exact⟨zy,zy,zy,zy,rfl,o.take k++s::o.drop k,b1,Le.Z1 (z:=13) he 988 16 [] rfl (by simp only[a7]) zz zz (by simp[hu];exact(congrArg (· ++ List.drop k X) e1).trans zz) (by simp only[a6];simp[a8])⟩
  .rintro o ⟨b6,b3,b4⟩
   have b5:=Eb h zy
   refine AU rfl ?_;simp[b5];exact⟨o,i+1,⟨zy,zy,by simpa using b3,b4⟩,zy,Le.Z1 (Ff o) 16 16 [] rfl rfl zz zz rfl zz⟩
 rw[hX];obtain rfl:i=l.length:=by simp at h;omega
 rw[QP] at h0;refine rx (s:=?s9) [4] [16] [] rfl ?o9 ?q9
 case o9=>simp[AB];rfl
 exact AO (Af.mk (.inr rfl) o ⟨⟨zy,u⟩,h0⟩ (AG.out [16] [] rfl zz zz zz zw))
theorem P6 (au:Int) (l:List AJ) (hl:l.length<=100000) (hb:∀ s∈l,BJ s):∃ o,Hu au l o/\AK 81 [.I au,AF l] [] (.rs 0 0 o.length) [some ⟨13,o.map sC,0⟩] :=
 let ⟨o,h,c⟩:=Pe au l hl hb
 ⟨o,h.1,c⟩
theorem Cg.snoc {au:Int} {c:List AJ} {s:AJ} (hc:Cg au c) (hs:Ez au c.length s) (hn:∀ p,c[c.length - 1]? = some p->Kr p s):Cg au (c++[s]):=by
 refine⟨λ i h=>?_,λ i h=>?_⟩
 .by_cases hi:i<c.length
  .rw [Q1 hi];exact hc.1 i hi
  .have:i=c.length:=by simp at h;omega
   subst this;rw[UN (Qg _)]
   simpa using hs
 .by_cases hi:i+1<c.length
  .rw [Q1 zy,Q1 hi];exact hc.2 i hi
  .have:i+1=c.length:=by simp at h;omega
   rw[Q1 zy,UN zy]
   have h2:=hn (c[i]' zy) (by rw[show c.length - 1=i by omega];exact Qa zy)
   simpa [this] using h2
theorem Cg.nil (au:Int):Cg au []:=⟨λ i h=>by simp at h,λ i h=>by simp at h⟩
theorem Cg.few {au:Int} {c:List AJ} (hc:Cg au c):c.length<=200:=by
 rcases Ua 200 c.length with h | h
 .have h1:=hc.1 200 h
  have h2:=h1.ok.2.2.2.1.1.2;have h3:=h1.nu_;omega
 .exact h
def Kc (o:List AJ) (i:Nat):Prop:=(∀ s,o[i]? = some s->s.nu=(i:Int))/\(∀ p,o[i+1]? = some p->p.nu≠(i:Int)) /\ ∀ j,i=j+1 -> ∀ p s,o[j]? = some p->o[i]? = some s->Fj p s/\p.ki≠3
def Gy (au:Int) (l c:List AJ):Prop:=∃ (o:List AJ) (i:Nat),Hu au l o/\FJ au l o/\c=o.take i/\i<=o.length/\(i<o.length->¬ Kc o i)
theorem N9 (au:Int) (l:List AJ) (hl:l.length<=100000) (hb:∀ s∈l,BJ s):∃ c,((Cg au c/\c.length<=l.length /\ ∀ s∈c,s∈l)/\Gy au l c)/\AK 43 [.I au,AF l] [] (.rs 0 0 c.length) [some ⟨13,c.map sC,0⟩]:=by
 obtain⟨o,⟨⟨a8,he⟩,a9⟩,hu⟩:=Pe au l hl hb;refine Mf.s.acallsX (args:=[.I au,AF l]) (hs:=[]) (λ o=>.rs 0 0 o.length) (λ o=>[some ⟨13,o.map sC,0⟩]) (λ c=>(Cg au c/\c.length<=l.length /\ ∀ s∈c,s∈l)/\Gy au l c) (AW rfl) (AW rfl) (λ _=>Qh _) ?_;show AQ _ 0 _ _ ⟨76,[(0,.I au),(1,AF l)],[],16⟩;refine rs [0,1] [] [] ?_;refine arc ⟨76,[(5,AF o)],[],56⟩ ?_ ?_
 .simp
  refine Cu hu rfl ?_;simp[AB];exact AM [40] (by simp[AB];exact Dy (congrArg _ (Qc zz)))
 refine rs [5,6] [] [] ?_
 let Y:Nat->List (List AV):=λ i=>(o.take i).map sC
 have ag:∀ i,i<=o.length->(Y i).length=i:=λ i hi=>by simp[Y];omega
 have hm:∀ i ρ sn h m,(Y i).map (List.map (conv ρ sn h (m+1)))=Y i:=λ i=>Ff _
 have ai:∀ i (h:i<o.length),Y (i+1)=Y i++[sC o[i]]:=λ i h=>by
  simp only[Y];rw[Ql h,List.map_append];rfl
 have am:∀ i k (h:k<o.length),k<i->(Y i)[k]? = some (sC o[k]):=λ i k h hk=>by
  simp only[Y];rw[QG,Q5,if_pos hk,Qa h];rfl
 have hv:∀ i,Y i=(o.take i).map sC:=λ i=>rfl;have an:Y 0=[]:=rfl
 clear_value Y
 have hw:∀ i,i<=o.length->Cg au (o.take i)->(i<o.length->¬ Kc o i)->Af Mf.c.res 0 (λ o:List AJ=>AV.rs 0 0 o.length) (λ o=>[some ⟨13,o.map sC,0⟩]) (λ c=>(Cg au c/\c.length<=l.length /\ ∀ s∈c,s∈l)/\Gy au l c) .ret ⟨76,[(4,.rs 16 0 i)],[(16,some ⟨13,Y i,0⟩)],2000⟩:=λ i hi u q=>by
  have h4:(o.take i).length=i:=by rw[QB];omega
  exact Af.mk (.inr rfl) (o.take i) ⟨⟨u,zy,λ s hs=>(he s (QQ hs)).1⟩,o,i,⟨a8,he⟩,a9,rfl,hi,q⟩ (AG.out [16] [] rfl zz zz (by simp[h4]) (by simp only[hv];simp[AB]))
 refine Bn (ι:=Nat) (λ i=>⟨76,[(6,.rs 16 0 i)],[(16,some ⟨13,Y i,0⟩)],1900⟩) (λ i=>i<=o.length/\Cg au (o.take i)/\(i<o.length->¬ Kc o i)) ?_ ?_
 .refine rs [5,6,7] [] [] ?_
  refine AI (Ag (ι:=Nat) (λ i=>⟨76,[(5,AF o),(6,.rs 16 0 i),(7,.I i)],[(16,some ⟨13,Y i,0⟩)],72⟩) (λ i=>i<=o.length/\Cg au (o.take i)) (λ i=>o.length - i) 0 ⟨Qh _,Cg.nil au⟩ (Le.lst [] [] [(16,13)] rfl zz zz zz zz zz zz zz (by simp[Up]) (by simp[an])) ?_)
  rintro i ⟨hi,u⟩
  refine AC (rk (s:=?s4) [5,6,7,15] [16] rfl ?o4 ?q4)
  case o4=>simp;rfl
  refine AD _ rfl (λ h=>AE ?_) λ h=>Aa (Ab ?_)
  .simp only[Qb,Uq] at h
   refine Bn (ι:=Unit) (λ _=>⟨76,[(5,AF o),(6,.rs 16 0 (i+1)),(7,.I i)],[(16,some ⟨13,Y (i+1),0⟩)],1500⟩) (λ _=>Cg au (o.take (i+1))) ?_ ?_
   .have hg:o[i]? = some o[i]:=Qa h
    obtain⟨b6,hx,hd⟩:=he o[i] (Qi h);have aq:o.take (i+1)=o.take i++[o[i]]:=Ql h;have h4:(o.take i).length=i:=by rw[QB];omega
    have av:∀ j,i=j+1 -> ∃ p:AJ,(Y i)[j]? = some (sC p)/\(o.take i)[(o.take i).length - 1]? = some p/\Ez au j p:=λ j hj=>by
     subst hj;have h1:=u.1 j zy
     rw[Uv] at h1;refine⟨o[j]' zy,am _ j zy zy,?_,h1⟩
     rw[h4,Q5,if_pos zy]
     exact Qa zy
    rw[ai i h,aq];generalize o[i]=s at *;have hy:=ag i hi;have b0:=hm i;have b7:Y i=(o.take i).map sC:=hv i;generalize hz:Y i=X at *;generalize ho:o.take i=c at *;refine AI (rk (s:=?s5) [5,6,7,8] [16] rfl ?o5 ?q5)
    case o5=>simp;rfl
    refine AC ?_;obtain⟨i1,b1⟩:=AL (i+1);have a0:IntKind.i64.wrap ((i:Int)+1)=(i1:Int):=by rw[w6];omega
    obtain⟨r,hr,b2⟩:∃ r:Bool,r=(s.nu != (i:Int) || match o[i1]? with | some p=>p.nu == (i:Int) | none=>false)/\(r=false->s.nu=i):=⟨_,rfl,λ h=>by
     have:=(Bool.or_eq_false_iff.1 h).1
     simpa using this⟩
    refine arc ⟨76,[(5,AF o),(6,.rs 16 0 i),(7,.I i),(8,.I i),(43,.B r)],[(16,some ⟨13,X,0⟩)],500⟩ ?_ ?_
    .by_cases c1:s.nu=(i:Int)
     .have c1':(s.nu != (i:Int))=false:=by simp[c1]
      by_cases hk:i1<o.length
      .have h3:o[i1]? = some o[i1]:=Qa hk
       obtain⟨p,hp⟩:=AL (o[i1]);rw[<- hp] at h3;simp[hg,c1',a0,hk,<- hp];exact Le.keep rfl zz (by simp[hr,c1',hk,hp]) zz
      .have h3:o[i1]? = none:=QT zy
       simp[hg,c1',a0,hk];exact Le.keep rfl zz (by simp[hr,c1',h3]) zz
     .have c1':(s.nu != (i:Int))=true:=by simp[c1]
      simp[hg,c1'];exact Le.keep rfl zz (by simp[hr,c1']) zz
    refine AD _ rfl (λ h5=>Aa ?_) λ h5=>AE ?_
    .refine Fw zx (Ab ?_)
     have q:¬ Kc o i:=λ ⟨g1,g2,_⟩=>by
      rw[h5] at hr;have hq:=hr.symm;rw[<- g1 s hg] at hq;simp only[bne_self_eq_false,Bool.false_or] at hq
      cases hp:o[i1]? with
      | none=>rw[hp] at hq;cases hq
      | some p=>rw[hp] at hq;exact g2 p (b1 ▸ hp) ((eq_of_beq hq).trans (g1 s hg))
     exact⟨i,⟨hi,by rw[ho];exact u,λ _=>q⟩,Le.keep rfl zz zz (by simp[hz])⟩
    have b3:=b2 h5;refine AC ?_
    obtain⟨r2,ht,a1⟩:∃ r2:Bool,(∀ j,i=j+1 -> ∃ p:AJ,X[j]? = some (sC p)/\c[c.length - 1]? = some p/\Ez au j p/\r2=(!decide (Fj p s) || p.ki == 3))/\(i=0->r2=false):=by
     rcases Q8 i with h0 | h0
     .exact ⟨false,λ j hj=>zy,λ _=>rfl⟩
     .obtain ⟨j,hj⟩:∃ j,i=j+1:=⟨i - 1,zy⟩
      obtain⟨p,h3,h8,ha⟩:=av j hj;refine⟨!decide (Fj p s) || p.ki == 3,λ j' b8=>?_,λ h=>zy⟩
      obtain rfl:j'=j:=zy
      exact⟨p,h3,h8,ha,rfl⟩
    refine BM ⟨76,[(5,AF o),(6,.rs 16 0 i),(7,.I i),(8,.I i),(67,.B r2)],[(16,some ⟨13,X,0⟩)],800⟩ ?_ ?_
    .rcases Q8 i with h0 | hi0
     .have h1:=a1 h0
      have h2:¬ 0<i:=zy
      simp[h2];exact⟨rfl,Le.keep rfl zz (by simp[h1]) zz⟩
     .obtain ⟨j,hj⟩:∃ j,i=j+1:=⟨i - 1,zy⟩
      obtain⟨p,h3,h8,ha,h9⟩:=ht j hj;have a2:IntKind.i64.wrap ((i:Int) - 1)=(j:Int):=by rw[w6];omega
      have b4:=NE p s ha.b (by have:=ha.nu_;omega) (by have:=ha.nu_;omega)
      have a3:j<i:=zy
      simp[hi0,a2,a3,h3,hg];refine Ay b4 ?_
      by_cases c2:Fj p s
      .simp [a2,a3,h3,c2]
       exact⟨rfl,Le.keep rfl zz (by simp[h9,c2]) zz⟩
      .simp [c2]
       exact⟨rfl,Le.keep rfl zz (by simp[h9,c2]) zz⟩
    refine AD _ rfl (λ h6=>Aa ?_) λ h6=>AE ?_
    .refine Fw zx (Ab ?_)
     have q:¬ Kc o i:=λ ⟨_,_,g3⟩=>by
      rcases Q8 i with h0 | h0
      .rw [a1 h0] at h6;cases h6
      .obtain ⟨j,hj⟩:∃ j,i=j+1:=⟨i - 1,zy⟩
       obtain⟨p,_,h8,_,h9⟩:=ht j hj;rw[h4,<- ho,Q5,if_pos zy,show i - 1=j by omega] at h8
       have h7:=g3 j hj p s h8 hg;rw[h6] at h9;simp[h7.1,h7.2] at h9
     exact⟨i,⟨hi,by rw[ho];exact u,λ _=>q⟩,Le.keep rfl zz zz (by simp[hz])⟩
    have a4:Cg au (c++[s]):=u.snoc ⟨hd.ok,hd.ok.b,hx,by rw[h4];exact b3,hd.sk_,hd.sd_⟩ λ p hp=>by
     have hi0:0<i:=by
      rcases Q8 i with h0 | h0
      .rw [h4,h0] at hp
       have:=Qu.1 hp;obtain⟨hh,_⟩:=this;omega
      .exact h0
     obtain⟨j,hj⟩:∃ j,i=j+1:=⟨i - 1,zy⟩
     obtain⟨p',h3,h8,ha,h9⟩:=ht j hj;rw[h8] at hp
     cases hp;rw[h9,Bool.or_eq_false_iff] at h6;have hf:Fj p s:=by simpa using h6.1
     exact⟨hf.2.2.1,hf.2.2.2,by simpa using h6.2⟩
    have a5:List.take i X=X:=Qc zy
    have a6:∀ ρ sn h m,(X++[sC s]).map (List.map (conv ρ sn h (m+1)))=X++[sC s]:=λ ρ sn h m=>by rw[List.map_append,b0];simp
    refine AU rfl ?_;simp[hy,a5,hg];exact⟨zy,zy,a4,Le.Z1 a6 848 16 [] rfl rfl zz zz (by simp[a5,hy]) zz⟩
   .intro _ a7
    have b5:=Eb h zy
    refine AU rfl ?_;simp[b5];exact⟨i+1,⟨zy,a7⟩,zy,Le.Z1 (hm (i+1)) 16 16 [] rfl rfl zz zz rfl zz⟩
  .have h4:i=o.length:=by simp at h;omega
   exact⟨i,⟨hi,u,λ h=>zy⟩,Le.keep rfl zz zz zz⟩
 .rintro i ⟨hi,u,q⟩
  have:=hm i;refine BE ⟨76,[(4,.rs 16 0 i)],[(16,some ⟨13,Y i,0⟩)],2000⟩ rfl ?_ (AO (hw i hi u q));simp;exact Le.keep rfl zz zz zz
theorem kS (au:Int) (l:List AJ) (hl:l.length<=100000) (hb:∀ s∈l,BJ s):∃ c,(Cg au c/\c.length<=l.length /\ ∀ s∈c,s∈l)/\AK 43 [.I au,AF l] [] (.rs 0 0 c.length) [some ⟨13,c.map sC,0⟩] :=
 let ⟨c,h,e⟩:=N9 au l hl hb
 ⟨c,h.1,e⟩
section
variable {P:Program} {np id:Nat} {h:Nat->Option AX} {K:AV->List Nat->List (Nat × Option AX)->Prop} {f:FuncId} {first aA args aB:List AV} {res:AV}
theorem H6 (sn:List Nat) {e:AX} (q:∀ i∈sn,np<=i) (hc:Cq P f aB [] res [some e]) (he:Ec ((first++args++aA).map (conv [] sn h 4)) aB) (hk:K (conv (Cc [] id) [] (λ _=>none) 4 res) sn ((id,some (Ak (Cc [] id) [] (λ _=>none) 4 e))::sn.filterMap λ i=>(h i).map λ e=>(i,some { e with ro:=e.rows.length }))):aK P np id .call (.fn (.func f) first aA::args) h K :=
 ⟨[],sn,true,aB,[],res,[some e],zz,zz,λ _=>q,by rw[UK];exact he,rfl,hc,zz,.inl rfl,by simpa [Cc] using hk⟩
end
def Bp (l:List AJ) (k:Int):List AJ:=l.filter λ s=>decide (s.au=k)
theorem gX (l:List AJ) (k:Int) (i:Nat) (h:i<l.length):Bp (l.take (i+1)) k=Bp (l.take i) k++if l[i].au=k then [l[i]] else []:=by
 unfold Bp;rw[Ql h,Q3]
 congr 1
 by_cases hk:l[i].au=k
 .rw [if_pos hk];simp[hk]
 .rw [if_neg hk];simp[hk]
theorem Jz {l:List AJ} {k:Int} {x:AJ} (h:x∈Bp l k):x∈l:=(QA.1 h).1
theorem Kw (l:List AJ) (k:Int):(Bp l k).length<=l.length:=QO ..
theorem M7 (l:List AJ) (k:Int) (hl:l.length<=100000) (hb:∀ s∈l,BJ s):AK 44 [.agg [AF l],.I k] [] (.rs 0 0 (Bp l k).length) [some ⟨13,(Bp l k).map sC,0⟩]:=by
 suffices h:∃ o:List AJ,o=Bp l k/\AK 44 [.agg [AF l],.I k] [] (.rs 0 0 o.length) [some ⟨13,o.map sC,0⟩] by
  obtain⟨o,rfl,h⟩:=h;exact h
 refine Yj.s.acallsX (args:=[.agg [AF l],.I k]) (hs:=[]) (λ o=>.rs 0 0 o.length) (λ o=>[some ⟨13,o.map sC,0⟩]) (λ o:List AJ=>o=Bp l k) (AW rfl) (AW rfl) (λ _=>Qh _) ?_;show AQ _ 0 _ _ ⟨32,[(0,.agg [AF l]),(1,.I k)],[],16⟩;refine rs [1,2] [] [16] ?_;refine rs [1,2,5] [] [] ?_;refine AC (rs [1,2,5,6] [] [] ?_);refine AI (Ag (ι:=List AJ × Nat) (λ p=>⟨32,[(1,.I k),(2,.pv [AF l]),(5,.rs 16 0 p.1.length),(6,.I p.2)],[(16,some ⟨13,p.1.map sC,0⟩)],56⟩) (λ p=>p.2<=l.length/\p.1.length<=p.2/\p.1=Bp (l.take p.2) k) (λ p=>l.length - p.2) ([],0) ⟨Qh _,Qh _,rfl⟩ (Le.lst [] [] [(16,13)] rfl zz zz zz zz zz zz zz (by simp[Up]) zz) ?_)
 rintro⟨o,i⟩ ⟨hi,h7,q⟩
 simp only at hi h7 q;have h0:(o.map sC).length=o.length:=Qs ..;have h1:=Ff o;obtain⟨X,hX⟩:=AL (o.map sC);simp only;rw[<- hX] at h0 h1 ⊢;refine AC (rk (s:=?s4) [1,2,5,6,11] [16] rfl ?o4 ?q4)
 case o4=>simp;rfl
 refine AD _ rfl (λ h=>AE ?_) λ h=>Aa (Ab ?_)
 .simp only[Qb,Uq] at h
  refine Bn (ι:=List AJ) (λ o=>⟨32,[(1,.I k),(2,.pv [AF l]),(5,.rs 16 0 o.length),(6,.I i)],[(16,some ⟨13,o.map sC,0⟩)],500⟩) (λ o=>o.length<=i+1/\o=Bp (l.take (i+1)) k) ?_ ?_
  .have hg:l[i]? = some l[i]:=Qa h
   have h8:l[i]∈l:=Qi h;rw[gX l k i h,<- q];generalize l[i]=s at *;have h2:=hb s h8;have h9:=I4 s (by have:=h2.2.2.1;omega) (by have:=h2.2.2.2.1;omega)
   refine AI (rk (s:=?s5) [1,2,5,6,21] [16] rfl ?o5 ?q5)
   case o5=>simp[hg];rfl
   refine AD _ rfl (λ h5=>?_) λ h5=>AE ?_
   .have h3:List.take o.length X=X:=Qc zy
    have h4:∀ ρ sn h m,(X++[sC s]).map (List.map (conv ρ sn h (m+1)))=X++[sC s]:=λ ρ sn h m=>by rw[List.map_append,h1];simp
    have ha:(o++[s]).map sC=X++[sC s]:=by rw[List.map_append,<- hX];rfl
    have h6:(o++[s]).length=o.length+1:=zz
    refine AU rfl ?_;simp[hg];refine Ay h9 ?_;simp[h0,h3];have u:s.au=k:=by simpa using h5
    rw[if_pos u];exact⟨zy,zy,o++[s],⟨by rw[h6];omega,rfl⟩,Le.Z1 (z:=13) h4 224 16 [] rfl (by simp only[ha]) zz zz (by simp[h3]) (by simp[h6])⟩
   .have u:¬ s.au=k:=by simpa using h5
    exact⟨o,⟨zy,by rw[if_neg u,QK]⟩,Le.keep rfl zz zz (by simp[hX])⟩
  .rintro o ⟨hf,hd⟩
   have he:=Eb h zy
   refine AU rfl ?_;simp[he];exact⟨o,i+1,⟨zy,zy,hd⟩,zy,Le.Z1 (Ff o) 16 16 [] rfl rfl zz zz rfl zz⟩
 rw[hX];refine rx (s:=?s9) [4] [16] [] rfl ?o9 ?q9
 case o9=>simp[AB];rfl
 obtain rfl:i=l.length:=by simp at h;omega
 rw[QP] at q;exact AO (Af.mk (.inr rfl) o q (AG.out [16] [] rfl zz zz zz zw))
theorem Ov (l:List AJ) (k:Int) (hl:l.length<=100000) (hb:∀ s∈l,BJ s):∃ o:List AJ,(o.length<=l.length /\ ∀ x∈o,x∈l)/\AK 44 [.agg [AF l],.I k] [] (.rs 0 0 o.length) [some ⟨13,o.map sC,0⟩]:=⟨_,⟨Kw l k,λ _=>Jz⟩,M7 l k hl hb⟩
theorem Cg.ok {a:Int} {c:List AJ} (hc:Cg a c) {s:AJ} (hs:s∈c):DC s:=by
 obtain⟨i,hi,rfl⟩:=Qr.1 hs;exact(hc.1 i hi).ok
theorem Cg.au {a:Int} {c:List AJ} (hc:Cg a c) {s:AJ} (hs:s∈c):s.au=a:=by
 obtain⟨i,hi,rfl⟩:=Qr.1 hs;exact(hc.1 i hi).au_
def CU (au:Int) (l:List AJ):List AJ:=open Classical in if h:l.length<=100000 /\ ∀ s∈l,BJ s then (N9 au l h.1 h.2).choose else []
theorem K9 (au:Int) {l:List AJ} (hl:l.length<=100000) (hb:∀ s∈l,BJ s):((Cg au (CU au l)/\(CU au l).length<=l.length /\ ∀ s∈CU au l,s∈l)/\Gy au l (CU au l))/\AK 43 [.I au,AF l] [] (.rs 0 0 (CU au l).length) [some ⟨13,(CU au l).map sC,0⟩]:=by
 unfold CU;rw[dif_pos ⟨hl,hb⟩];exact(N9 au l hl hb).choose_spec
def Br (l:List AJ):Nat->List AJ
 | 0=>[]
 | n+1=>Br l n++CU n (Bp l n)
theorem P2 (l:List AJ) (hl:l.length<=100000) (hb:∀ s∈l,BJ s):∃ c:List AJ,((CQ c/\c.length<=12800 /\ ∀ x∈c,DC x/\x∈l)/\c=Br l 64)/\AK 12 [.agg [AF l]] [] (.rs 0 0 c.length) [some ⟨13,c.map sC,0⟩]:=by
 refine Wq.s.acallsX (args:=[.agg [AF l]]) (hs:=[]) (λ o=>.rs 0 0 o.length) (λ o=>[some ⟨13,o.map sC,0⟩]) (λ c:List AJ=>(CQ c/\c.length<=12800 /\ ∀ x∈c,DC x/\x∈l)/\c=Br l 64) (AW rfl) (AW rfl) (λ _=>Qh _) ?_;show AQ _ 0 _ _ ⟨17,[(0,.agg [AF l])],[],16⟩;refine rs [1] [] [16] ?_;refine rs [1,3] [] [] ?_;refine AC (rs [1,3,4] [] [] ?_);refine AI (Ag (ι:=List AJ × Nat) (λ p=>⟨17,[(1,.pv [AF l]),(3,.rs 16 0 p.1.length),(4,.I p.2)],[(16,some ⟨13,p.1.map sC,0⟩)],48⟩) (λ p=>p.2<=64/\p.1.length<=200*p.2/\CQ p.1/\(∀ x∈p.1,x.au<p.2/\DC x/\x∈l)/\p.1=Br l p.2) (λ p=>64 - p.2) ([],0) ⟨Qh _,Qh _,⟨List.Pairwise.nil,zz⟩,zz,rfl⟩ (Le.lst [] [] [(16,13)] rfl zz zz zz zz zz zz zz (by simp[Up]) zz) ?_)
 rintro⟨o,k⟩ ⟨hk,h8,h2,h1,h3⟩
 simp only at hk h8 h2 h1 h3;have h4:(o.map sC).length=o.length:=Qs ..;have h9:=Ff o;obtain⟨X,hX⟩:=AL (o.map sC);simp only;rw[<- hX] at h4 h9 ⊢;refine AC (rk (s:=?s4) [1,3,4,6] [16] rfl ?o4 ?q4)
 case o4=>simp;rfl
 refine AD _ rfl (λ h=>AE ?_) λ h=>Aa (Ab ?_)
 .simp only[Qb] at h
  have h5:k<64:=zy
  have ho:=Kw l k;have h6:∀ x∈Bp l k,x∈l:=λ _=>Jz;have ha:=M7 l k hl hb;obtain⟨⟨⟨q,hq,hd⟩,_⟩,he⟩:=K9 k (l:=Bp l k) zy λ s hs=>hb s (h6 s hs)
  have hf:o++CU k (Bp l k)=Br l (k+1):=by rw[h3];rfl
  generalize CU k (Bp l k)=c at *;generalize Bp l k=a at *;have hr:=q.few;have hg:List.take o.length X=X:=Qc zy
  have hh:List.take c.length (c.map sC)=c.map sC:=Qc zz
  have h7:(o++c).map sC=X++c.map sC:=by rw[List.map_append,<- hX]
  have hi:(o++c).length=o.length+c.length:=Qe ..;have u:=Ff (o++c);rw[h7] at u;have hj:List.take a.length (a.map sC)=a.map sC:=Qc zz
  have h0:CQ (o++c) /\ ∀ x∈o++c,x.au<(k+1:Nat)/\DC x/\x∈l:=by
   refine⟨h2.append q.good λ x hx y hy=>?_,λ x hx=>?_⟩
   .rw [q.au hy];exact(h1 x hx).1
   .rcases Qn.1 hx with hx | hx
    .have:=h1 x hx;exact⟨zy,this.2⟩
    .exact ⟨by rw[q.au hx];omega,q.ok hx,h6 x (hd x hx)⟩
  have ht:=Ff c;refine BO ⟨17,[(1,.pv [AF l]),(3,.rs 16 0 (o++c).length),(4,.I k)],[(16,some ⟨13,X++c.map sC,0⟩)],300⟩ ?_ ?_
  .refine AI (AU rfl ?_)
   simp;refine C4 ha ?_;simp[AB];refine H6 [96] zz he (by simp[hj,AB]) ?_
   simp[h4,hg,hh,AB];exact⟨zy,zy,Le.Z1 (z:=13) u 112 16 [] rfl rfl zz zz zz zz⟩
  have hm:=Eb h5 zy
  refine AU rfl ?_;simp[hm];exact⟨o++c,k+1,⟨zy,by rw[hi];omega,h0.1,h0.2,hf⟩,zy,Le.Z1 (z:=13) u 16 16 [] rfl (by simp only[h7]) zz zz rfl zz⟩
 rw[hX];obtain rfl:k=64:=by simp at h;omega
 refine rx (s:=?s9) [2] [16] [] rfl ?o9 ?q9
 case o9=>simp[AB];rfl
 exact AO (Af.mk (.inr rfl) o ⟨⟨h2,zy,λ x hx=>(h1 x hx).2⟩,h3⟩ (AG.out [16] [] rfl zz zz zz zw))
theorem cO (l:List AJ) (hl:l.length<=100000) (hb:∀ s∈l,BJ s):∃ c:List AJ,(CQ c/\c.length<=12800 /\ ∀ x∈c,DC x/\x∈l)/\AK 12 [.agg [AF l]] [] (.rs 0 0 c.length) [some ⟨13,c.map sC,0⟩] :=
 let ⟨c,h,e⟩:=P2 l hl hb
 ⟨c,h.1,e⟩
def E3 (l:List AJ) (x:AJ) (r:List AJ):Prop:=r=l ∨ ∃ k,r=l.take k++x::l.drop k
theorem E3.old {l r:List AJ} {x:AJ} (h:E3 l x r):r.length<=l.length+1 /\ ∀ s∈r,s∈l∨s=x:=by
 rcases h with rfl | ⟨k,rfl⟩
 .exact ⟨Nat.le_succ _,λ s hs=>.inl hs⟩
 .refine ⟨zu,λ s hs=>?_⟩
  rcases Qn.1 hs with h | h
  .exact .inl (QQ h)
  .rcases Qv.1 h with h | h
   .exact .inr h
   .exact .inl (Uo h)
theorem Xw (l:List AJ) (x:AJ) (hl:l.length<=100000) (hb:∀ s∈l,BJ s) (hx:BJ x):∃ p:List AJ × Bool,E3 l x p.1/\AK 73 [AF l,eS x] [] (.tup [AF p.1,.B p.2]) []:=by
 refine ZA.s.acallsX (args:=[AF l,eS x]) (hs:=[]) (λ p=>.tup [AF p.1,.B p.2]) (λ _=>[]) (λ p:List AJ × Bool=>E3 l x p.1) (AW rfl) (AW rfl) (λ _=>Qh _) ?_;show AQ _ 0 _ _ ⟨46,[(0,AF l),(1,eS x)],[],16⟩;refine rs [0,3] [] [16] ?_;refine rs [0,3,6] [] [] ?_;refine AC (AI (Ag (ι:=Nat) (λ k=>⟨46,[(0,AF l),(3,.pv (sC x)),(6,.I k)],[],48⟩) (λ k=>k<=l.length) (λ k=>l.length - k) 0 (Qh _) (AM [] zz) ?_))
 intro k hk;refine AC ?_
 obtain⟨r2,hg,h0⟩:∃ r2:Bool,(∀ h:k<l.length,AK 123 [eS l[k],eS x] [] (.B r2) [])/\(r2=true->k<l.length):=by
  by_cases h:k<l.length
  .obtain ⟨r,hr⟩:=Tu l[k] x
   exact⟨r,λ _=>hr,λ _=>h⟩
  .exact ⟨false,λ h'=>absurd h' h,λ h'=>by cases h'⟩
 refine BM ⟨46,[(0,AF l),(3,.pv (sC x)),(6,.I k),(18,.B r2)],[],200⟩ ?_ ?_
 .by_cases q:k<l.length
  .have hp:l[k]? = some l[k]:=Qa q
   have h2:=hg q;obtain⟨s,hs⟩:=AL (l[k]);rw[<- hs] at h2 hp;simp[q,<- hs];refine Ay h2 ?_;simp;exact⟨rfl,AM [] zz⟩
  .have e2:r2=false:=by
    cases hh:r2
    .rfl
    .exact absurd (h0 hh) q
   simp[q];exact⟨rfl,AM [] (by simp[e2])⟩
 refine AD _ rfl (λ h4=>AE ?_) λ h4=>Aa (Ab ?_)
 .have hi:=Eb (h0 h4) zy
  have ho:=h0 h4;refine AI (AU rfl ?_);simp[hi];exact⟨k+1,zy,zy,AM [] zz⟩
 refine AC ?_
 obtain⟨r3,h2⟩:∃ r3:Bool,∀ h:k<l.length,AK 62 [eS l[k],eS x] [] (.B r3) []:=by
  by_cases h:k<l.length
  .have h7:=hb l[k] (Qi h)
   obtain⟨r3,h3⟩:=PT l[k] x (by have:=h7.2.2.1;omega) (by have:=h7.2.2.2.1;omega)
   exact⟨r3,λ _=>h3⟩
  .exact ⟨false,λ h'=>absurd h' h⟩
 refine BM ⟨46,[(0,AF l),(3,.pv (sC x)),(6,.I k),(32,.B (decide (k<l.length) && r3))],[],300⟩ ?_ ?_
 .by_cases q:k<l.length
  .have hp:l[k]? = some l[k]:=Qa q
   have h8:=h2 q;obtain⟨s,hs⟩:=AL (l[k]);rw[<- hs] at h8 hp;simp[q,<- hs];refine Ay h8 ?_;simp;exact⟨rfl,AM [] zz⟩
  .simp [q]
   exact⟨rfl,AM [] zz⟩
 refine AD _ rfl (λ h6=>?_) λ h6=>AE ?_
 .refine rs [4,5] [] [] ?_
  exact AO (Af.mk (.inr rfl) (l,false) (.inl rfl) (AG.out [] [] rfl zz zz zz zz))
 have hj:=I4 x (by have:=hx.2.2.1;omega) (by have:=hx.2.2.2.1;omega)
 have hX:∃ X,X=l.map sC:=⟨_,rfl⟩;obtain⟨X,hX⟩:=hX;have h1:X.length=l.length:=by rw[hX,Qs]
 have h9:=Ff l;rw[<- hX] at h9;obtain⟨n,hn⟩:=AL (l.length);have u:min k n=k:=zy
 have ha:List.take (k+1) (List.take k X++[sC x])=List.take k X++[sC x]:=Qc (by rw[Qe,QB,h1,<- hn,u];exact Qg _)
 have e1:List.take (k+1) (List.take k (List.take k X)++[sC x])=List.take k X++[sC x]:=by rw[List.take_take,Nat.min_self];exact ha
 have h5:(l.take k++x::l.drop k).map sC=List.take k X++[sC x]++List.drop k X:=by rw[hX,List.map_append,List.map_cons,Vf,US,Qq];rfl
 have hm:(l.take k++x::l.drop k).length=n+1:=by rw[Qe,QZ,QB,QV];omega
 have hd:AF l = .vs 13 false X:=by rw[hX]
 have he:=Ff (l.take k++x::l.drop k);rw[h5] at he;have hf:List.take (k+1+(n - k)) (List.take k X++[sC x]++List.drop k X)=List.take k X++[sC x]++List.drop k X:=Qc (by rw[<- h5,Qs,hm];omega)
 refine H9 ⟨46,[(4,AF (l.take k++x::l.drop k)),(5,.B true)],[],600⟩ rfl ?_ (AO (Af.mk (.inr rfl) (l.take k++x::l.drop k,true) (.inr ⟨k,rfl⟩) (AG.out [] [] rfl zz zz (by simp[-List.map_append,-List.map_cons];exact .refl _) zz)))
 .rw [hd,show AF (l.take k++x::l.drop k) = .vs 13 false (List.take k X++[sC x]++List.drop k X) from by rw[<- h5]]
  rw[<- hn] at h1 hk;simp[h1,u,hk];refine⟨zy,zy,?_⟩
  refine Ay hj ?_;simp[h1,u,hk];have hq:min k n+(1+(n - k))=n+1:=zy
  refine⟨zy,zy,zy,zy,rfl,AM [388] ?_⟩
  simp[h1,u,hk,h9];exact Dy (congrArg _ (((congrArg (λ Z=>List.take (k+1+(n - k)) (Z++List.drop k X)) e1).trans hf).trans zz))
theorem eU (l:List Int) (x:Int) (hl:l.length<=100000):∃ p:List Int,(p.length<=l.length+1 /\ ∀ s∈p,s∈l∨s=x)/\AK 336 [AA l,.I x] [] (AA p) []:=by
 refine uZ.s.acallsX (args:=[AA l,.I x]) (hs:=[]) (λ p=>AA p) (λ _=>[]) (λ p:List Int=>p.length<=l.length+1 /\ ∀ s∈p,s∈l∨s=x) (AW rfl) (AW rfl) (λ _=>Qh _) ?_;show AQ _ 0 _ _ ⟨45,[(0,AA l),(1,.I x)],[],16⟩;refine rs [0,1] [] [] ?_;refine rs [0,1,5] [] [] ?_;refine AC (AI (Ag (ι:=Nat) (λ k=>⟨45,[(0,AA l),(1,.I x),(5,.I k)],[],48⟩) (λ k=>k<=l.length) (λ k=>l.length - k) 0 (Qh _) (AM [] zz) ?_))
 intro k hk;refine AC (arc ⟨45,[(0,AA l),(1,.I x),(5,.I k),(17,.B (decide (∃ h:k<l.length,l[k]<x)))],[],200⟩ ?_ ?_)
 .by_cases q:k<l.length
  .simp [q]
   exact AM [] (by simp[q])
  .simp [q]
   exact AM [] (by simp<;>exact An (by symm;rw[Qd];rintro⟨h,_⟩;omega))
 refine AD _ rfl (λ h4=>AE ?_) λ h4=>Aa (Ab ?_)
 .rw [Qb] at h4
  obtain⟨h4,_⟩:=h4;have h8:=Eb h4 zy
  refine AI (AU rfl ?_);simp[h8];exact⟨k+1,zy,zy,AM [] zz⟩
 refine AC (arc ⟨45,[(0,AA l),(1,.I x),(5,.I k),(31,.B (decide (∃ h:k<l.length,l[k]=x)))],[],300⟩ ?_ ?_)
 .by_cases q:k<l.length
  .simp [q]
   exact AM [] (by simp[q]<;>exact An zt)
  .simp [q]
   exact AM [] (by simp<;>exact An (by symm;rw[Qd];rintro⟨h,_⟩;omega))
 refine AD _ rfl (λ h6=>?_) λ h6=>AE ?_
 .refine rs [4] [] [] ?_
  exact AO (Af.mk (.inr rfl) l ⟨Nat.le_succ _,λ s hs=>.inl hs⟩ (AG.one zz))
 have hX:∃ X,X=l.map λ n=>[AV.I n]:=⟨_,rfl⟩;obtain⟨X,hX⟩:=hX;have h0:X.length=l.length:=by rw[hX,Qs]
 have h9:∀ ρ sn h m,X.map (List.map (conv ρ sn h (m+1)))=X:=by rw[hX];intros;simp[AB]
 obtain⟨n,hn⟩:=AL (l.length);have u:min k n=k:=zy
 have h1:List.take (k+1) (List.take k X++[[.I x]])=List.take k X++[[.I x]]:=Qc (by rw[Qe,QB,h0,<- hn,u];exact Qg _)
 have h2:(l.take k++x::l.drop k).map (λ n=>[AV.I n])=List.take k X++[[.I x]]++List.drop k X:=by rw[hX,List.map_append,List.map_cons,Vf,US,Qq];rfl
 have h3:(l.take k++x::l.drop k).length=n+1:=by rw[Qe,QZ,QB,QV];omega
 have h5:AA l = .vs 1 false X:=by rw[hX]
 have h7:List.take (k+1+(n - k)) (List.take k X++[[.I x]]++List.drop k X)=List.take k X++[[.I x]]++List.drop k X:=Qc (by rw[<- h2,Qs,h3];omega)
 refine H9 ⟨45,[(4,AA (l.take k++x::l.drop k))],[],600⟩ rfl ?_ (AO (Af.mk (.inr rfl) (l.take k++x::l.drop k) ⟨by rw[h3];omega,λ s hs=>?_⟩ (AG.one (by simp[-List.map_append,-List.map_cons]))))
 .rw [h5,show AA (l.take k++x::l.drop k) = .vs 1 false (List.take k X++[[.I x]]++List.drop k X) from by rw[<- h2]]
  rw[<- hn] at h0 hk;simp[h0,u,hk];refine⟨zy,zy,zy,zy,zy,zy,rfl,AM [388] ?_⟩
  simp[h0,u,hk,h9];exact Dy (congrArg _ (((congrArg (λ Z=>List.take (k+1+(n - k)) (Z++List.drop k X)) h1).trans h7).trans zz))
 .rcases Qn.1 hs with h | h
  .exact .inl (QQ h)
  .rcases Qv.1 h with h | h
   .exact .inr h
   .exact .inl (Uo h)
theorem Ky {α:Type} (X:List α) (e:α) (k n:Nat) (hX:X.length=n) (hk:k<=n):List.take (k+1+(n - k)) (List.take (k+1) (List.take k X++[e])++List.drop k X)=List.take k X++e::List.drop k X:=by
 have h1:List.take (k+1) (List.take k X++[e])=List.take k X++[e]:=Qc zu
 rw[h1,Qc zu]
 simp
theorem Kb {P:Program} {np:Nat} {ops:List Ca} {Q:Fl->St->Prop} {sz n:Nat} {t:List (Nat × AV)} {h:List (Nat × Option AX)} {af:List (List Nat)} (s:St) (hd:(ops.all λ o=>o.dst.all (· < sz))=true) (ho:B8 P np n 0 ops ⟨sz,t,h,n⟩ [] λ st' tr=>Ir ops af tr/\Le np ⟨st'.sz,st'.t,st'.h,n+8*ops.length⟩ s) (hq:∀ st',Le np st' s->Q .normal st'):AQ P np (.reg true ops af) Q ⟨sz,t,h,n⟩ :=
 Cn hd (E7 _ _ _ _ _ _ _ (λ _ _ h=>⟨h.1,hq _ h.2⟩) ho)
def Js (V:List FO):Prop:=∀ v∈V,DJ v.co
abbrev Dq (V:List FO):AV:=.vs 7 false (V.map ES)
theorem PX {α:Type} {l:List α} {x s:α} {k:Nat} (hs:s∈l.take k++x::l.drop k):s∈l∨s=x:=by
 rcases Qn.1 hs with h | h
 .exact .inl (QQ h)
 .rcases Qv.1 h with h | h
  .exact .inr h
  .exact .inl (Uo h)
theorem Xf (l:List AJ) (c:Cl) (hl:l.length<=20000) (hb:∀ s∈l,BJ s):∃ V:List FO,(V.length<=l.length/\Js V)/\AK 318 [AF l,Be c] [] (Dq V) []:=by
 refine vG.acallsX (args:=[AF l,Be c]) (hs:=[]) (λ V=>Dq V) (λ _=>[]) (λ V:List FO=>V.length<=l.length/\Js V) (AW rfl) (AW rfl) (λ _=>Qh _) ?_;show AQ _ 0 _ _ ⟨72,[(0,AF l),(1,Be c)],[],16⟩;refine BP ⟨72,[(0,AF l),(3,.pv (B3 c))],[],50⟩ [] [16] ?_;refine rs [0,3,5] [] [] ?_;refine AC (rs [0,3,5,6] [] [] ?_);refine AI (Ag (ι:=Nat × List FO) (λ p=>⟨72,[(0,AF l),(3,.pv (B3 c)),(5,Dq p.2),(6,.I p.1)],[],100⟩) (λ p=>p.1<=l.length/\p.2.length<=p.1/\Js p.2) (λ p=>l.length - p.1) (0,[]) ⟨Qh _,Qg _,by simp[Js]⟩ (AM [] (by simp;exact .nil _ _)) ?_)
 rintro⟨i,V⟩ ⟨hi,hV,u⟩
 simp only at hi hV u ⊢;refine AC (arc ⟨72,[(0,AF l),(3,.pv (B3 c)),(5,Dq V),(6,.I i),(13,.B (decide (i<l.length)))],[],200⟩ ?_ ?_)
 .simp
  exact AM [] zw
 refine AD _ rfl (λ h5=>?_) λ h5=>?_
 .rw [Qb] at h5
  obtain⟨s,hs⟩:=AL (l[i]);have hp:l[i]? = some s:=by rw[hs];exact Qa h5
  obtain⟨⟨v,ok⟩,hv,h6⟩:=Ps s (hb s (by rw[hs];exact Qi h5))
  refine AE ?_;have h9:=Eb h5 zy
  refine Bn (ι:=List FO) (λ W=>⟨72,[(0,AF l),(3,.pv (B3 c)),(5,Dq W),(6,.I i)],[],2000⟩) (λ W=>W.length<=i+1/\Js W) ?_ ?_
  .refine AI (arc ⟨72,[(0,AF l),(3,.pv (B3 c)),(5,Dq V),(6,.I i),(7,.pv (ES v)),(8,.B ok)],[],400⟩ ?_ ?_)
   .simp [h5,hp,<- hs]
    refine Ay h6 ?_;simp;exact AM [264] zw
   refine AC ?_;obtain⟨t,ht⟩:∃ t:Bool,t=(!ok || !decide (v.ca.ep=c.ep/\v.ca.ki=c.ki/\v.ca.su=c.su/\v.ca.ro=c.ro)):=⟨_,rfl⟩;refine arc ⟨72,[(0,AF l),(3,.pv (B3 c)),(5,Dq V),(6,.I i),(7,.pv (ES v)),(31,.B t)],[],500⟩ ?_ ?_
   .simp
    cases ok
    .simp
     exact AM [] (by simp[AB]<;>exact An (by simp at ht;rw[ht]))
    .simp
     exact AM [] (by simp[AB]<;>exact An (by simp at ht;rw[ht];grind))
   refine AD _ rfl (λ h8=>?_) λ h8=>?_
   .exact Aa (Ab ⟨V,⟨zy,u⟩,AM [] zw⟩)
   refine AE (rs [0,3,5,6,7,9] [] [] ?_);refine AC (AI (Ag (ι:=Nat) (λ k=>⟨72,[(0,AF l),(3,.pv (B3 c)),(5,Dq V),(6,.I i),(7,.pv (ES v)),(9,.I k)],[],600⟩) (λ k=>k<=V.length) (λ k=>V.length - k) 0 (Qh _) (AM [] zw) ?_))
   intro k hk;refine AC ?_
   obtain⟨r2,ha,h0⟩:∃ r2:Bool,(∀ h:k<V.length,AK 337 [En V[k],En v] [] (.B r2) [])/\(r2=true->k<V.length):=by
    by_cases h:k<V.length
    .obtain ⟨r,_,hr⟩:=Sc V[k] v (u _ (Qi h)) hv
     exact⟨r,λ _=>hr,λ _=>h⟩
    .exact ⟨false,λ h'=>absurd h' h,λ h'=>by cases h'⟩
   refine BM ⟨72,[(0,AF l),(3,.pv (B3 c)),(5,Dq V),(6,.I i),(7,.pv (ES v)),(9,.I k),(43,.B r2)],[],800⟩ ?_ ?_
   .by_cases q:k<V.length
    .have hp:V[k]? = some V[k]:=Qa q
     have h1:=ha q;obtain⟨w,hw⟩:=AL (V[k]);rw[<- hw] at h1 hp;simp[q,<- hw];refine Ay h1 ?_;simp;exact⟨rfl,AM [] zw⟩
    .have e2:r2=false:=by
      cases hh:r2
      .rfl
      .exact absurd (h0 hh) q
     simp[q];exact⟨rfl,AM [] (by simp[e2,AB])⟩
   refine AD _ rfl (λ h4=>AE ?_) λ h4=>Aa (Ab ?_)
   .have hd:=Eb (h0 h4) zy
    have hj:=h0 h4;refine AI (AU rfl ?_);simp[hd];exact⟨k+1,zy,zy,AM [] zw⟩
   refine AC ?_
   obtain⟨r3,h1⟩:∃ r3:Bool,∀ h:k<V.length,AK 337 [En v,En V[k]] [] (.B r3) []:=by
    by_cases h:k<V.length
    .obtain ⟨r,_,hr⟩:=Sc v V[k] hv (u _ (Qi h))
     exact⟨r,λ _=>hr⟩
    .exact ⟨false,λ h'=>absurd h' h⟩
   refine BM ⟨72,[(0,AF l),(3,.pv (B3 c)),(5,Dq V),(6,.I i),(7,.pv (ES v)),(9,.I k),(58,.B (decide (k<V.length) && !r3))],[],1000⟩ ?_ ?_
   .by_cases q:k<V.length
    .have hp:V[k]? = some V[k]:=Qa q
     have h7:=h1 q;obtain⟨w,hw⟩:=AL (V[k]);rw[<- hw] at h7 hp;simp[q,<- hw];refine Ay h7 ?_;simp;exact⟨rfl,AM [] zw⟩
    .simp [q]
     exact⟨rfl,AM [] zw⟩
   refine AD _ rfl (λ h8=>?_) λ h8=>?_
   .exact Aa (Ab ⟨V,⟨zy,u⟩,AM [] zw⟩)
   refine AE ?_;obtain⟨X,hX⟩:=AL (V.map ES);have h2:X.length=V.length:=by rw[hX,Qs]
   have he:∀ ρ sn h m,X.map (List.map (conv ρ sn h (m+1)))=X:=by rw[hX];intros;simp[AB]
   obtain⟨n,hn⟩:=AL (V.length);have h3:min k n=k:=zy
   have hf:(V.take k++v::V.drop k).map ES=List.take k X++ES v::List.drop k X:=by rw[hX,List.map_append,List.map_cons,Vf,US]
   refine Kb ⟨72,[(0,AF l),(3,.pv (B3 c)),(5,Dq (V.take k++v::V.drop k)),(6,.I i)],[],2000⟩ rfl ?_ λ st' hg=>⟨V.take k++v::V.drop k,⟨zu,λ s hs=>?_⟩,hg⟩
   .rw [show Dq V = .vs 7 false X by rw[hX],show Dq (V.take k++v::V.drop k) = .vs 7 false (List.take k X++ES v::List.drop k X) from by rw[<- hf]]
    rw[<- hn] at h2 hk;simp[h2,h3,hk];refine⟨zy,zy,zy,zy,zy,zy,rfl,AM [1088] ?_⟩
    simp[h2,h3,hk,he,AB];exact Dy (congrArg _ (Ky X (ES v) k n h2 hk))
   .rcases PX hs with h | h
    .exact u _ h
    .rw [h];exact hv
  intro W hW;refine AU rfl ?_;simp[h9];exact⟨i+1,W,⟨zy,hW.1,hW.2⟩,zy,AM [] zw⟩
 refine Aa (Ab (rs [4] [] [] ?_));exact AO (Af.mk (.inr rfl) V ⟨zy,u⟩ (AG.one zz))
abbrev Dh (V:List Cl):AV:=.vs 4 false (V.map B3)
theorem fD (l:List AJ) (hl:l.length<=20000) (hb:∀ s∈l,BJ s):∃ V:List Cl,V.length<=l.length/\AK 284 [AF l] [] (Dh V) []:=by
 refine qR.acallsX (args:=[AF l]) (hs:=[]) (λ V=>Dh V) (λ _=>[]) (λ V:List Cl=>V.length<=l.length) (AW rfl) (AW rfl) (λ _=>Qh _) ?_;show AQ _ 0 _ _ ⟨66,[(0,AF l)],[],16⟩;refine rs [0] [] [] ?_;refine rs [0,3] [] [] ?_;refine AC (rs [0,3,4] [] [] ?_);refine AI (Ag (ι:=Nat × List Cl) (λ p=>⟨66,[(0,AF l),(3,Dh p.2),(4,.I p.1)],[],100⟩) (λ p=>p.1<=l.length/\p.2.length<=p.1) (λ p=>l.length - p.1) (0,[]) ⟨Qh _,Qg _⟩ (AM [] (by simp;exact .nil _ _)) ?_)
 rintro⟨i,V⟩ ⟨hi,hV⟩
 simp only at hi hV ⊢;refine AC (arc ⟨66,[(0,AF l),(3,Dh V),(4,.I i),(11,.B (decide (i<l.length)))],[],200⟩ ?_ ?_)
 .simp
  exact AM [] zw
 refine AD _ rfl (λ h5=>?_) λ h5=>?_
 .rw [Qb] at h5
  obtain⟨s,hs⟩:=AL (l[i]);have hp:l[i]? = some s:=by rw[hs];exact Qa h5
  obtain⟨⟨v,ok⟩,hv,h3⟩:=Ps s (hb s (by rw[hs];exact Qi h5))
  refine AE ?_;have h7:=Eb h5 zy
  refine Bn (ι:=List Cl) (λ W=>⟨66,[(0,AF l),(3,Dh W),(4,.I i)],[],2000⟩) (λ W=>W.length<=i+1) ?_ ?_
  .refine AI (arc ⟨66,[(0,AF l),(3,Dh V),(4,.I i),(5,.pv (ES v)),(6,.B ok)],[],400⟩ ?_ ?_)
   .simp [h5,hp,<- hs]
    refine Ay h3 ?_;simp;exact AM [264] zw
   refine AC (arc ⟨66,[(0,AF l),(3,Dh V),(4,.I i),(5,.pv (ES v)),(23,.B (!ok))],[],500⟩ ?_ ?_)
   .simp
    exact AM [] zw
   refine AD _ rfl (λ h8=>?_) λ h8=>?_
   .exact Aa (Ab ⟨V,zy,AM [] zw⟩)
   refine AE (rs [0,3,4,5,7] [] [] ?_);refine AC (AI (Ag (ι:=Nat) (λ k=>⟨66,[(0,AF l),(3,Dh V),(4,.I i),(5,.pv (ES v)),(7,.I k)],[],600⟩) (λ k=>k<=V.length) (λ k=>V.length - k) 0 (Qh _) (AM [] zw) ?_))
   intro k hk;refine AC ?_
   obtain⟨r2,h9,u⟩:∃ r2:Bool,(∀ h:k<V.length,AK 321 [Be V[k],Be v.ca] [] (.B r2) [])/\(r2=true->k<V.length):=by
    by_cases h:k<V.length
    .obtain ⟨r,_,hr⟩:=fE V[k] v.ca
     exact⟨r,λ _=>hr,λ _=>h⟩
    .exact ⟨false,λ h'=>absurd h' h,λ h'=>by cases h'⟩
   refine BM ⟨66,[(0,AF l),(3,Dh V),(4,.I i),(5,.pv (ES v)),(7,.I k),(36,.B r2)],[],800⟩ ?_ ?_
   .by_cases q:k<V.length
    .have hp:V[k]? = some V[k]:=Qa q
     have h0:=h9 q;obtain⟨w,hw⟩:=AL (V[k]);rw[<- hw] at h0 hp;simp[q,<- hw];refine Ay h0 ?_;simp;exact⟨rfl,AM [] zw⟩
    .have e2:r2=false:=by
      cases hh:r2
      .rfl
      .exact absurd (u hh) q
     simp[q];exact⟨rfl,AM [] (by simp[e2,AB])⟩
   refine AD _ rfl (λ h4=>AE ?_) λ h4=>Aa (Ab ?_)
   .have ha:=Eb (u h4) zy
    have hm:=u h4;refine AI (AU rfl ?_);simp[ha];exact⟨k+1,zy,zy,AM [] zw⟩
   obtain⟨r3,h0⟩:∃ r3:Bool,∀ h:k<V.length,r3 = !decide (V[k].ep=v.ca.ep/\V[k].ki=v.ca.ki/\V[k].su=v.ca.su/\V[k].ro=v.ca.ro):=by
    by_cases h:k<V.length
    .exact ⟨!decide (V[k].ep=v.ca.ep/\V[k].ki=v.ca.ki/\V[k].su=v.ca.su/\V[k].ro=v.ca.ro),λ _=>rfl⟩
    .exact ⟨false,λ h'=>absurd h' h⟩
   refine BM ⟨66,[(0,AF l),(3,Dh V),(4,.I i),(5,.pv (ES v)),(7,.I k),(51,.B (decide (¬ k<V.length) || r3))],[],1000⟩ ?_ ?_
   .by_cases q:k<V.length
    .have hp:V[k]? = some V[k]:=Qa q
     have h6:=h0 q;have hd:((k:Int) == (V.length:Int))=false:=zu
     obtain⟨w,hw⟩:=AL (V[k]);rw[<- hw] at h6 hp;simp[q,<- hw,hd,Nat.ne_of_lt q];exact⟨rfl,AM [] (by simp[AB,q]<;>exact An (by rw[h6,Qk];simp))⟩
    .have he:k=V.length:=zy
     simp[q,he];exact⟨rfl,AM [] zw⟩
   refine AD _ rfl (λ h8=>?_) λ h8=>?_
   .obtain ⟨X,hX⟩:=AL (V.map B3)
    have h1:X.length=V.length:=by rw[hX,Qs]
    have hf:∀ ρ sn h m,X.map (List.map (conv ρ sn h (m+1)))=X:=by rw[hX];intros;simp[AB]
    obtain⟨n,hn⟩:=AL (V.length);have h2:min k n=k:=zy
    have hg:(V.take k++v.ca::V.drop k).map B3=List.take k X++B3 v.ca::List.drop k X:=by rw[hX,List.map_append,List.map_cons,Vf,US]
    refine Kb ⟨66,[(0,AF l),(3,Dh (V.take k++v.ca::V.drop k)),(4,.I i)],[],2000⟩ rfl ?_ λ st' hj=>⟨V.take k++v.ca::V.drop k,zu,hj⟩
    rw[show Dh V = .vs 4 false X by rw[hX],show Dh (V.take k++v.ca::V.drop k) = .vs 4 false (List.take k X++B3 v.ca::List.drop k X) from by rw[<- hg]]
    rw[<- hn] at h1 hk;simp[h1,h2,hk];refine⟨zy,zy,zy,zy,zy,zy,rfl,AM [1096] ?_⟩
    simp[h1,h2,hk,hf,AB];exact Dy (congrArg _ (Ky X (B3 v.ca) k n h1 hk))
   .exact AE ⟨V,zy,AM [] zw⟩
  intro W hW;refine AU rfl ?_;simp[h7];exact⟨i+1,W,⟨zy,hW⟩,zy,AM [] zw⟩
 refine Aa (Ab (rs [2] [] [] ?_));exact AO (Af.mk (.inr rfl) V zy (AG.one zz))
theorem WG (l:List AJ) (hl:l.length<=100000) (hb:∀ s∈l,BJ s):AK 122 [AF l] [] (.rs 0 0 l.length) [some ⟨13,l.map sC,0⟩]:=by
 refine dM.s.ac ?_;show AQ _ 0 _ _ ⟨20,[(0,AF l)],[],16⟩;refine rs [0] [] [] ?_;refine rs [0,3] [] [] ?_;refine AC (rs [0,3,4] [] [] ?_)
 let Y:Nat->List (List AV):=λ i=>(l.take i).map sC
 have h4:∀ i,i<=l.length->(Y i).length=i:=λ i hi=>by simp[Y];omega
 have h1:∀ i ρ sn h m,(Y i).map (List.map (conv ρ sn h (m+1)))=Y i:=λ i=>Ff _
 have h5:∀ i (h:i<l.length),Y (i+1)=Y i++[sC l[i]]:=λ i h=>by
  simp only[Y];rw[Ql h,List.map_append];rfl
 have h6:Y l.length=l.map sC:=by simp only[Y];rw[QP]
 have h7:Y 0=[]:=rfl
 clear_value Y
 refine AI (Ag (ι:=Nat) (λ i=>⟨20,[(0,AF l),(3,.rs 16 0 i),(4,.I i)],[(16,some ⟨13,Y i,0⟩)],40⟩) (λ i=>i<=l.length) (λ i=>l.length - i) 0 (Qh _) (Le.lst [] [] [(16,13)] rfl zz zz zz zz zz zz zz (by simp[Up]) (by simp[h7])) ?_)
 intro i hi;refine AC (rk (s:=?s4) [0,3,4,8] [16] rfl ?o4 ?q4)
 case o4=>simp;rfl
 refine AD _ rfl (λ h=>AE ?_) λ h=>Aa (Ab ?_)
 .simp only[Qb,Uq] at h
  have hg:l[i]? = some l[i]:=Qa h;have h0:=hb l[i] (Qi h);have u:=h5 i h;have h2:=h4 i hi;have h8:=h1 i;have q:=h1 (i+1);obtain⟨s,hs⟩:=AL (l[i]);rw[<- hs] at hg h0 u;have h9:=I4 s (by have:=h0.2.2.1;omega) (by have:=h0.2.2.2.1;omega)
  obtain⟨X,hX⟩:=AL (Y i);obtain⟨X2,h3⟩:=AL (Y (i+1));have ha:List.take i X=X:=Qc (by rw[hX];omega)
  rw[<- hX] at h2 h8 u ⊢;rw[<- h3] at q u;refine BO ⟨20,[(0,AF l),(3,.rs 16 0 (i+1)),(4,.I i)],[(16,some ⟨13,X2,0⟩)],300⟩ ?_ ?_
  .refine AI (AU rfl ?_)
   simp[hg];refine Ay h9 ?_;simp[h2,ha];exact⟨zy,zy,Le.Z1 (z:=13) q 128 16 [] rfl rfl zz zz (by simp[u]) zz⟩
  have hd:=Eb h zy
  refine AU rfl ?_;simp[hd];exact⟨i+1,zy,zy,Le.Z1 q 16 16 [] rfl (by rw[h3]) zz zz rfl zz⟩
 simp only[Qd,Uq] at h;obtain rfl:i=l.length:=zy
 rw[h6];refine rx (s:=?s9) [2] [16] [] rfl ?o9 ?q9
 case o9=>simp[AB];rfl
 exact CD [16] []
theorem RC (l:List AJ) (hl:l.length<=100000) (hb:∀ s∈l,BJ s):AK 69 [.agg [AF l]] [] (.agg [AF l]) []:=by
 refine sJ.s.ac ?_;show AQ _ 0 _ _ ⟨7,[(0,.agg [AF l])],[],16⟩;refine BP ⟨7,[(1,.pv [AF l]),(2,.pt 24 0 0)],[(24,some ⟨1,[[.nilS]],0⟩)],100⟩ [(24,24)] [16] ?_;refine arc ⟨7,[(2,.pt 24 0 0)],[(24,some ⟨1,[[AF l]],0⟩)],200⟩ ?_ ?_
 .simp
  refine C4 (WG l hl hb) ?_;simp[AZ];exact AN [(24,24)] [116] zw (by simp[AB];rw[Qc zz])
 refine AO ⟨.inr rfl,?_⟩;show AG [(2,some (true,1))] 0 _ _ _;exact AG.out (vs:=[.agg [AF l]]) [] [] zz zz zz zz zz
abbrev HB (p:Int × Int):List AV:=[.I p.1,.I p.2]
abbrev DU (l:List (Int × Int)):AV:=.vs 2 false (l.map HB)
theorem V3 (l:List (Int × Int)) (x:Int) (hl:l.length<=100000):∃ r:Int × Bool,(r.2=true->(x,r.1)∈l)/\AK 255 [DU l,.I x] [] (.tup [.I r.1,.B r.2]) []:=by
 refine uV.s.acallsX (args:=[DU l,.I x]) (hs:=[]) (λ r=>.tup [.I r.1,.B r.2]) (λ _=>[]) (λ r:Int × Bool=>r.2=true->(x,r.1)∈l) (AW rfl) (AW rfl) (λ _=>Qh _) ?_;show AQ _ 0 _ _ ⟨25,[(0,DU l),(1,.I x)],[],16⟩;refine rs [0,1] [] [] ?_;refine AC (rs [0,1,6] [] [] ?_);refine AI (Ag (ι:=Nat) (λ i=>⟨25,[(0,DU l),(1,.I x),(6,.I i)],[],100⟩) (λ i=>i<=l.length) (λ i=>l.length - i) 0 (Qh _) (AM [] zw) ?_)
 intro i hi;refine AC (arc ⟨25,[(0,DU l),(1,.I x),(6,.I i),(10,.B (decide (i<l.length)))],[],200⟩ ?_ ?_)
 .simp
  exact AM [] zw
 refine AD _ rfl (λ h5=>?_) λ h5=>?_
 .rw [Qb] at h5
  have u:=Eb h5 zy
  obtain⟨p,hp⟩:=AL (l[i]);have q:l[i]? = some p:=by rw[hp];exact Qa h5
  have h0:p∈l:=by rw[hp];exact Qi h5
  refine AE (AC (AI (arc ⟨25,[(0,DU l),(1,.I x),(6,.I i),(19,.B (decide (p.1=x)))],[],300⟩ ?_ ?_)))
  .simp [h5,q,<- hp]
   exact AM [] (by simp[AB]<;>exact An zt)
  refine AD _ rfl (λ h6=>?_) λ h6=>?_
  .rw [Qb] at h6
   refine arc ⟨25,[(4,.I p.2),(5,.B true)],[],400⟩ ?_ ?_
   .simp [h5,q,<- hp]
    exact AM [] zw
   refine AO (Af.mk (.inr rfl) (p.2,true) (λ _=>by rw[<- h6];exact h0) ?_)
   show AG [(4,none),(5,none)] 0 _ _ _;exact AG.out (vs:=[.I p.2,.B true]) [] [] zz zz zz zz zz
  refine AE (AU rfl ?_);simp[u];exact⟨i+1,zy,zy,AM [] zw⟩
 refine Aa (Ab (rs [4,5] [] [] ?_));refine AO (Af.mk (.inr rfl) (0,false) zz ?_)
 show AG [(4,none),(5,none)] 0 _ _ _;exact AG.out (vs:=[.I 0,.B false]) [] [] zz zz zz zz zz
theorem iR (l:List Cl) (c:Cl) (hl:l.length<=100000):∃ r:Bool,True/\AK 285 [Dh l,Be c] [] (.B r) []:=by
 refine rU.s.acallsX (args:=[Dh l,Be c]) (hs:=[]) (λ r=>.B r) (λ _=>[]) (λ _:Bool=>True) (AW rfl) (AW rfl) (λ _=>Qh _) ?_;show AQ _ 0 _ _ ⟨40,[(0,Dh l),(1,Be c)],[],16⟩;refine BP ⟨40,[(0,Dh l),(3,.pv (B3 c))],[],100⟩ [] [16] ?_;refine AC (rs [0,3,5] [] [] ?_);refine AI (Ag (ι:=Nat) (λ i=>⟨40,[(0,Dh l),(3,.pv (B3 c)),(5,.I i)],[],100⟩) (λ i=>i<=l.length) (λ i=>l.length - i) 0 (Qh _) (AM [] zw) ?_)
 intro i hi;refine AC (arc ⟨40,[(0,Dh l),(3,.pv (B3 c)),(5,.I i),(9,.B (decide (i<l.length)))],[],200⟩ ?_ ?_)
 .simp
  exact AM [] zw
 refine AD _ rfl (λ h5=>?_) λ h5=>?_
 .rw [Qb] at h5
  have u:=Eb h5 zy
  obtain⟨p,hp⟩:=AL (l[i]);have q:l[i]? = some p:=by rw[hp];exact Qa h5
  refine AE (AC (AI (BM ⟨40,[(0,Dh l),(3,.pv (B3 c)),(5,.I i),(39,.B (decide (p.ep=c.ep/\p.ki=c.ki/\p.su=c.su)))],[],600⟩ ?_ ?_)))
  .simp [h5,q,<- hp]
   repeat' first
    | (refine BK (λ hb=>?_) (λ hb=>?_)<;>(try rw[hb])<;>(try simp at hb)<;>simp[h5,q,<- hp,hb])
   all_goals exact⟨rfl,AN [] [] (by simp[AB]<;>exact An (by rw[Qk];simp[hb]))⟩
  refine AD _ rfl (λ h6=>?_) λ h6=>?_
  .refine rs [4] [] [] ?_
   exact AO (Af.mk (.inr rfl) true trivial (AG.one zz))
  refine AE (AU rfl ?_);simp[u];exact⟨i+1,zy,zy,AM [] zw⟩
 refine Aa (Ab (rs [4] [] [] ?_));exact AO (Af.mk (.inr rfl) false trivial (AG.one zz))
theorem Xh (r:Ch) (h:EW r) (k:Int) (hk:k<1000000):∃ t:Int × Int,(t=(if k<0∨40<=k then (0,2) else ((k+1)*r.sp,0)))/\AK 31 [Bc r,.I k] [] (.tup [.I t.1,.I t.2]) []:=by
 have hc:=Jl r h;have q:=h.sp;refine vN.s.acallsX (args:=[Bc r,.I k]) (hs:=[]) (λ t=>.tup [.I t.1,.I t.2]) (λ _=>[]) (λ t:Int × Int=>t=(if k<0∨40<=k then (0,2) else ((k+1)*r.sp,0))) (AW rfl) (AW rfl) (λ _=>Qh _) ?_
 show AQ _ 0 _ _ ⟨23,[(0,Bc r),(1,.I k)],[],16⟩;refine BP ⟨23,[(1,.I k),(2,.pv (CJ r))],[],100⟩ [] [16] ?_;refine AC (arc ⟨23,[(1,.I k),(2,.pv (CJ r)),(6,.I 0)],[],200⟩ ?_ ?_)
 .simp
  refine Ay hc ?_;simp;exact AY [] []
 refine rs [1,2,10] [] [] ?_;refine AD _ rfl (λ h5=>?_) λ h5=>?_
 .simp at h5
 refine AE (AC (arc ⟨23,[(1,.I k),(2,.pv (CJ r)),(17,.B (decide (k<0∨40<=k)))],[],400⟩ ?_ ?_))
 .simp
  repeat' first
   | (refine BK (λ hb=>?_) (λ hb=>?_)<;>(try rw[hb])<;>(try simp at hb)<;>simp[hb])
  all_goals exact AN [] [] (by simp[AB]<;>exact An (by rw[Qk];simp[hb]<;>omega))
 refine AD _ rfl (λ h6=>?_) λ h6=>?_
 .rw [Qb] at h6
  refine rs [4,5] [] [] ?_;refine AO (Af.mk (.inr rfl) (0,2) (by rw[if_pos h6]) ?_)
  show AG [(4,none),(5,none)] 0 _ _ _;exact AG.out (vs:=[.I 0,.I 2]) [] [] zz zz zz zz zz
 rw[Qd] at h6;refine AE ?_;have h1:=w6 (x:=k+1);have h0:0<=(k+1)*r.sp:=Int.mul_nonneg zy zy
 have h9:(k+1)*r.sp<=40*1000000:=Int.mul_le_mul zy zy zy zy
 have h2:=w6 (x:=(k+1)*r.sp);refine arc ⟨23,[(4,.I ((k+1)*r.sp)),(5,.I 0)],[],500⟩ ?_ ?_
 .simp [h1,h2]
  exact AY [] []
 refine AO (Af.mk (.inr rfl) ((k+1)*r.sp,0) (by rw[if_neg h6]) ?_)
 show AG [(4,none),(5,none)] 0 _ _ _;exact AG.out (vs:=[.I ((k+1)*r.sp),.I 0]) [] [] zz zz zz zz zz
theorem Ml (l:List AJ) (hl:l.length<=100000) (hb:∀ s∈l,BJ s):∃ r:Bool,True/\AK 70 [.agg [AF l]] [] (.B r) []:=by
 refine wF.s.acallsX (args:=[.agg [AF l]]) (hs:=[]) (λ r=>.B r) (λ _=>[]) (λ _:Bool=>True) (AW rfl) (AW rfl) (λ _=>Qh _) ?_;show AQ _ 0 _ _ ⟨50,[(0,.agg [AF l])],[],16⟩;refine BP ⟨50,[(1,.pv [AF l])],[],100⟩ [] [16] ?_;refine AC (rs [1,3] [] [] ?_);refine AI (Ag (ι:=Nat) (λ i=>⟨50,[(1,.pv [AF l]),(3,.I i)],[],100⟩) (λ i=>i<=l.length) (λ i=>l.length - i) 0 (Qh _) (AM [] zw) ?_)
 intro i hi;refine AC (arc ⟨50,[(1,.pv [AF l]),(3,.I i),(8,.B (decide (i<l.length)))],[],200⟩ ?_ ?_)
 .simp
  exact AM [] zw
 refine AD _ rfl (λ h5=>?_) λ h5=>?_
 .rw [Qb] at h5
  have h3:=Eb h5 zy
  obtain⟨p,hp⟩:=AL (l[i]);have u:l[i]? = some p:=by rw[hp];exact Qa h5
  have h0:BJ p:=hb p (by rw[hp];exact Qi h5)
  obtain⟨e,_,h1⟩:=Gn p (by have:=h0.2.2.1;omega) (by have:=h0.2.2.2.1;omega)
  have h2:=Hw p h0;obtain⟨q,hq⟩:=AL (decide (p.sk=p.au/\p.sd.toList=(Bk p).toList));rw[<- hq] at h2;obtain⟨o,ho⟩:=AL (l[i - 1]);have h4:l[i - 1]? = some o:=by rw[ho];exact Qa zy
  obtain⟨r,hr⟩:=Tu o p;refine AE (AC (AI (BM ⟨50,[(1,.pv [AF l]),(3,.I i),(45,.B (decide (e≠0) || !q || (decide (0<i) && !r)))],[],800⟩ ?_ ?_)))
  .simp [h5,u,<- hp]
   refine Ay h1 ?_;simp;refine BK (λ hx=>?_) (λ hx=>?_)<;>(try rw[hx])<;>(try simp at hx)<;>simp[hx,h5,u,<- hp]
   .exact ⟨rfl,AM [] (by simp[hx,AB])⟩
   .refine Ay h2 ?_
    cases q
    .simp
     exact⟨rfl,AM [] (by simp[hx,AB])⟩
    .by_cases hi0:0<i
     .have h7:IntKind.i64.wrap ((i:Int) - 1)=((i - 1:Nat):Int):=by rw[w6];omega
      simp[hi0,h7,h4,h5,u,<- hp,show i - 1<l.length by omega,<- ho]
      refine Ay hr ?_;simp;exact⟨rfl,AM [] (by simp[hx,hi0,AB])⟩
     .simp [hi0]
      exact⟨rfl,AM [] (by simp[hx,hi0,AB])⟩
  refine AD _ rfl (λ h6=>?_) λ h6=>?_
  .refine rs [2] [] [] ?_
   exact AO (Af.mk (.inr rfl) false trivial (AG.one zz))
  refine AE (AU rfl ?_);simp[h3];exact⟨i+1,zy,zy,AM [] zw⟩
 refine Aa (Ab (rs [2] [] [] ?_));exact AO (Af.mk (.inr rfl) _ trivial (AG.one (by simp;exact .refl _)))
theorem Xg (k:Int) (l:List AJ) (hl:l.length<=100000) (hb:∀ s∈l,BJ s):AK 98 [.agg [.I k,AF l]] [] (.agg [.I k,AF l]) []:=by
 refine qU.s.ac ?_;show AQ _ 0 _ _ ⟨9,[(0,.agg [.I k,AF l])],[],16⟩;refine BP ⟨9,[(1,.pv [.I k,AF l]),(2,.pt 24 0 0)],[(24,some ⟨2,[[.I 0,.nilS]],0⟩)],100⟩ [(24,24)] [16] ?_;refine BM ⟨9,[(2,.pt 24 0 0)],[(24,some ⟨2,[[.I k,AF l]],0⟩)],200⟩ ?_ ?_
 .simp
  refine AT (RC l hl hb) zw ?_
  simp[AZ];exact⟨rfl,AY [(24,24)] []⟩
 refine AO ⟨.inr rfl,?_⟩;show AG [(2,some (true,2))] 0 _ _ _;exact AG.out (vs:=[.agg [.I k,AF l]]) [] [] zz zz zz zz zz
theorem dA (k:Int) (l:List AJ) (hl:l.length<=100000) (hb:∀ s∈l,BJ s):∃ r:Bool,(r=true->0<=k/\k<64)/\AK 99 [.agg [.I k,AF l]] [] (.B r) []:=by
 obtain⟨q,_,hq⟩:=Ml l hl hb;refine qS.s.acallsX (args:=[.agg [.I k,AF l]]) (hs:=[]) (λ r=>.B r) (λ _=>[]) (λ r:Bool=>r=true->0<=k/\k<64) (AW rfl) (AW rfl) (λ _=>Qh _) ?_;show AQ _ 0 _ _ ⟨16,[(0,.agg [.I k,AF l])],[],16⟩;refine BP ⟨16,[(1,.pv [.I k,AF l])],[],100⟩ [] [16] ?_;refine arc ⟨16,[(2,.B (decide (0<=k/\k<64) && q))],[],300⟩ ?_ ?_
 .simp
  repeat' first
   | (refine CC 70 rfl ?_;refine AT hq zw ?_;simp)
   | (refine BK (λ hb=>?_) (λ hb=>?_)<;>(try rw[hb])<;>(try simp at hb)<;>simp[*])
  all_goals exact AN [] [] (by simp[*]<;>exact An (by (try simp at *);grind))
 exact AO (Af.mk (.inr rfl) (decide (0<=k/\k<64) && q) (by simp;intro a b _;exact⟨a,b⟩) (AG.one zz))
end Go.Proofs.YtklclphfcibagaaGreat
