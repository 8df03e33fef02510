/- Texts of this claim,merged. -/
import Derived.Test.YtnaemfpgdmfmcaaGreatDoorRa5
import Derived.Test.YtnaemfpgdmfmcaaGreatDoorRa4
import Derived.Test.YtnaemfpgdmfmcaaGreatDoorRa3
set_option linter.unusedSimpArgs false
set_option linter.unusedVariables false
set_option linter.unusedSectionVars false
set_option maxRecDepth 100000
set_option maxHeartbeats 8000000
noncomputable section
namespace Go.Proofs.YtnaemfpgdmfmcaaGreatDoor
open Go
theorem pJ (g:Gr) (p:Aq) (D K:List Int) (i:Nat) (h:i<K.length):Em g p D (K.take (i+1))=Em g p D (K.take i)+Ez g p D K[i]:=by
 unfold Em;rw[Ql h,Ug,List.sum_append];simp
theorem n4 (g:Gr) (p:Aq) (D:List Int) (hg:AG g) (hp:BD g.size p) (hl:p.seeds.length<=64) (hm:p.table.length<=1000) (h1:D.length<=16) (hr:∀ (i:Nat) (h:i<D.length),0<=D[i]/\D[i]<g.size/\(0<i->D[i - 1]<D[i])) :
  AK 10 [eG g,eP p,AA D] [] (.tup [.I (Em g p D D),.I 0]) []:=by
 have hn:=hg.1.1;have hk:=hg.1.2.1;have hge:=hg.1.2.2.1;have ho:=hg.gone_le;have h0:=L0 g p zy zy zy zy
 rw[if_pos hg,if_pos hp] at h0;have h8:=fW D g.size h1 hr;have h9:AG (AO g p.lv):=hg.level p.lv;have ha:=Ij g p.lv zy zy
 have h2:=OM (AO g p.lv) p.seeds h9 zy
 have hN:(AO g p.lv).size=g.size:=rfl;obtain⟨Z,hZ⟩:=AR (DK (AO g p.lv) p.seeds);have h3:Z.length=g.size.toNat:=by rw[hZ,Nx,hN]
 rw[<- hZ,hN] at h2;have hb:((Z.map λ x=>[AV.I x]).take g.size.toNat)=Z.map λ x=>[AV.I x]:=Qb (by simp[h3])
 refine wG.s.ai ?_;refine A2 ⟨59,[(2,AA D),(3,.pt 16 0 0),(4,.pt 24 0 0),(6,.I 0),(7,.I 0)],[(16,some ⟨3,[gC g],0⟩),(24,some ⟨3,[[AA p.seeds,AA p.table,.I p.lv]],0⟩)],100⟩ [(16,16),(24,24)] [] ?_;refine AB (arc ⟨59,[(2,AA D),(3,.pt 16 0 0),(4,.pt 24 0 0),(8,.I 0)],[(16,some ⟨3,[gC g],0⟩),(24,some ⟨3,[[AA p.seeds,AA p.table,.I p.lv]],0⟩)],200⟩ ?_ ?_)
 .simp
  refine A0 h0 ?_;simp;exact BP [(16,16),(24,24)] []
 refine A2 ⟨59,[(2,AA D),(3,.pt 16 0 0),(4,.pt 24 0 0),(18,.B false)],[(16,some ⟨3,[gC g],0⟩),(24,some ⟨3,[[AA p.seeds,AA p.table,.I p.lv]],0⟩)],300⟩ [(16,16),(24,24)] [] ?_;refine AI _ rfl (λ h=>by cases h) λ _=>AN ?_
 refine AB (arc ⟨59,[(2,AA D),(3,.pt 16 0 0),(4,.pt 24 0 0),(24,.B false)],[(16,some ⟨3,[gC g],0⟩),(24,some ⟨3,[[AA p.seeds,AA p.table,.I p.lv]],0⟩)],400⟩ ?_ ?_)
 .simp
  refine A4 h8 (by simp[AC]) ?_
  simp;exact BP [(16,16),(24,24)] []
 refine AI _ rfl (λ h=>by cases h) λ _=>AN ?_
 refine Cd ⟨59,[(2,AA D),(3,.pt 16 0 0),(4,.pt 24 0 0),(9,AA Z)],[(16,some ⟨3,[gC g],0⟩),(24,some ⟨3,[[AA p.seeds,AA p.table,.I p.lv]],0⟩)],600⟩ ?_ ?_
 .simp
  refine A4 ha (by simp[AC]) ?_
  simp;refine Fm h2 (by simp[AC]) ?_
  simp;exact⟨rfl,AJ [(16,16),(24,24)] [448] (by simp[AC,hb,h3])⟩
 have hc:∀ (j:Nat) (h:j<Z.length),Z[j]=AZ (AO g p.lv) p.seeds j /\ -1<=AZ (AO g p.lv) p.seeds j/\AZ (AO g p.lv) p.seeds j<=1000000:=λ j h=>by
  refine⟨by subst hZ;simp[DK],?_⟩
  have:=Pc (g:=AO g p.lv) (S:=p.seeds) (j:Int);have:(AO g p.lv).size.toNat<=64:=by rw[hN];omega
  omega
 have he:∀ x∈D,0<=x/\x<Z.length:=λ x hx=>by
  obtain⟨i,hi,rfl⟩:=Ul hx;have:=hr i hi;omega
 refine A2 ⟨59,[(2,AA D),(3,.pt 16 0 0),(4,.pt 24 0 0),(9,AA Z),(10,.I 0)],[(16,some ⟨3,[gC g],0⟩),(24,some ⟨3,[[AA p.seeds,AA p.table,.I p.lv]],0⟩)],700⟩ [(16,16),(24,24)] [] ?_;refine AB (A2 ⟨59,[(2,AA D),(3,.pt 16 0 0),(4,.pt 24 0 0),(9,AA Z),(10,.I 0),(32,AA D),(33,.I D.length),(34,.I 0)],[(16,some ⟨3,[gC g],0⟩),(24,some ⟨3,[[AA p.seeds,AA p.table,.I p.lv]],0⟩)],800⟩ [(16,16),(24,24)] [] ?_);refine AT (As (ι:=Nat) (λ i=>⟨59,[(2,AA D),(3,.pt 16 0 0),(4,.pt 24 0 0),(9,AA Z),(10,.I (Em g p D (D.take i))),(32,AA D),(33,.I D.length),(34,.I i)],[(16,some ⟨3,[gC g],0⟩),(24,some ⟨3,[[AA p.seeds,AA p.table,.I p.lv]],0⟩)],900⟩) (λ i=>i<=D.length) (λ i=>D.length - i) 0 (Qn _) (AJ [(16,16),(24,24)] [] (by simp[Em]) zz) ?_)
 intro i hi;have h4:=ZU (g:=g) (D:=D) hp (D.take i);rw[QU] at h4;obtain⟨v,hv⟩:=AR (Em g p D (D.take i));rw[<- hv] at h4 ⊢;refine A2 ⟨59,[(2,AA D),(3,.pt 16 0 0),(4,.pt 24 0 0),(9,AA Z),(10,.I v),(32,AA D),(33,.I D.length),(34,.I i),(35,.B (decide (i<D.length)))],[(16,some ⟨3,[gC g],0⟩),(24,some ⟨3,[[AA p.seeds,AA p.table,.I p.lv]],0⟩)],1000⟩ [(16,16),(24,24)] [] ?_;refine AB (AI _ rfl (λ h=>AN ?_) λ h=>Ar (hit ?_))
 .rw [Qf] at h
  have h5:=Gt h zy
  have hq:=hr i h;have q:=pJ g p D D i h;rw[<- hv] at q;have h6:=rA (AZ (AO g p.lv) p.seeds) Z D D[i] hc zy he h1
  have u:=J7 (g:=g) (D:=D) hp D[i];obtain⟨d,hd⟩:=AR (Dj (AZ (AO g p.lv) p.seeds) D[i] D (AZ (AO g p.lv) p.seeds D[i]));have hf:Iy g p D D[i]=d:=hd.symm;rw[<- hd] at h6;unfold Ez at u q;rw[hf] at u q;have hs:D[i]? = some D[i]:=Qa h;refine KO ?_;refine AT (arc ⟨59,[(2,AA D),(3,.pt 16 0 0),(4,.pt 24 0 0),(9,AA Z),(10,.I v),(12,.I D[i]),(32,AA D),(33,.I D.length),(34,.I i)],[(16,some ⟨3,[gC g],0⟩),(24,some ⟨3,[[AA p.seeds,AA p.table,.I p.lv]],0⟩)],1100⟩ ?_ ?_)
  .simp [h]
   exact AJ [(16,16),(24,24)] [] (by simp[AC,h])
  refine arc ⟨59,[(2,AA D),(3,.pt 16 0 0),(4,.pt 24 0 0),(9,AA Z),(10,.I v),(12,.I D[i]),(13,.I d),(32,AA D),(33,.I D.length),(34,.I i)],[(16,some ⟨3,[gC g],0⟩),(24,some ⟨3,[[AA p.seeds,AA p.table,.I p.lv]],0⟩)],1200⟩ ?_ ?_
  .simp
   refine A4 h6 (by simp[AC]) ?_
   simp;exact BB [(16,16),(24,24)] []
  refine arc ⟨59,[(2,AA D),(3,.pt 16 0 0),(4,.pt 24 0 0),(9,AA Z),(10,.I v),(13,.I d),(32,AA D),(33,.I D.length),(34,.I i),(50,.B (decide (0<=d/\D[i]∉g.gone)))],[(16,some ⟨3,[gC g],0⟩),(24,some ⟨3,[[AA p.seeds,AA p.table,.I p.lv]],0⟩)],1300⟩ ?_ ?_
  .by_cases a1:0<=d
   .simp [a1]
    refine A4 (GR g.gone D[i] zy) rfl ?_
    simp;exact AJ [(16,16),(24,24)] [] (by simp[AC,a1])
   .simp [a1]
    exact AJ [(16,16),(24,24)] [] (by simp[AC,a1])
  refine AI _ rfl (λ ht=>?_) λ ht=>AN ?_
  .rw [Qf] at ht
   rw[if_pos ht] at u q;have hh:=w6 (x:=DA p d - 1);have hj:=w6 (x:=v+(DA p d - 1));refine Ap rfl ?_;simp;refine A4 (SY p d) (by simp[AC]) ?_
   simp[hh,hj];refine⟨_,Le.refl _ _,?_⟩;refine Ap rfl ?_;simp[h5];refine⟨i+1,zy,zy,?_⟩
   rw[q];exact BB [(16,16),(24,24)] []
  .rw [Qd] at ht
   rw[if_neg ht] at u q;refine⟨_,Le.refl _ _,?_⟩;refine Ap rfl ?_;simp[h5];refine⟨i+1,zy,zy,?_⟩
   rw[q,Int.add_zero];exact BB [(16,16),(24,24)] []
 rw[Qd] at h;have h7:v=Em g p D D:=by rw[hv,Qb zy]
 apply ax [6,7] [] [] 2000
 .simp
  rfl
 rw[h7];refine A9 ⟨.inr rfl,?_⟩;exact AW.out [] [] rfl zz zz zz zz
def E7 (A:List Ed) (w:List Int):Nat->Int
 | 0=>0
 | i+1=>(AH A (w.getD i 0).toNat).t
def HQ (A:List Ed) (w:List Int) (i:Nat):Prop:=0<=w.getD i 0/\w.getD i 0<A.length/\(AH A (w.getD i 0).toNat).f=E7 A w i
def C4 (n:Int) (A:List Ed) (w:List Int) (i:Nat):Prop:=if i+1=w.length then E7 A w (i+1)=1 else 2<=E7 A w (i+1)/\E7 A w (i+1)<2+2*n
instance (A:List Ed) (w:List Int) (i:Nat):Decidable (HQ A w i):=by unfold HQ;infer_instance
instance (n:Int) (A:List Ed) (w:List Int) (i:Nat):Decidable (C4 n A w i):=by unfold C4;infer_instance
def J0 (n:Int) (A:List Ed) (w:List Int):Prop:=w≠[] /\ ∀ i,i<w.length->HQ A w i/\C4 n A w i
def FB (A:List Ed) (w:List Int) (i:Nat):List Int:=(List.range i).filterMap λ j=>CI (E7 A w (j+1))
theorem Zl (A:List Ed) (w:List Int) (i:Nat):FB A w (i+1)=FB A w i++(CI (E7 A w (i+1))).toList:=by
 unfold FB;rw[Vh,List.filterMap_append,Uz,List.filterMap_nil]
 cases CI (E7 A w (i+1))<;>rfl
theorem dR (A:List Ed) (w:List Int) (i:Nat):(FB A w i).length<=i:=by
 unfold FB;exact QF (List.length_filterMap_le ..) zz
open Classical in
def Fr (n:Int) (A:List Ed) (w:List Int):Int:=if n<0∨64<n then 16 else if J0 n A w then 0 else 17
open Classical in
def Ew (n:Int) (A:List Ed) (w:List Int):List Int:=if n<0∨64<n then [] else if J0 n A w then FB A w w.length else []
theorem oZ {t:Int} (h:1<=t):(if t % 2=0 then (t - 2) / 2 else -1)=(CI t).getD (-1):=by
 unfold CI
 by_cases h2:t % 2=0
 .rw [if_pos h2,if_pos ⟨zy,h2⟩]
  rfl
 .rw [if_neg h2,if_neg λ h=>h2 h.2]
  rfl
theorem tX {t k:Int} (h:CI t=some k):0<=k:=by
 unfold CI at h;split at h
 .cases h
  omega
 .cases h
theorem O7 {A:List Ed}:∀ {l:List Nat} {i:Nat},i<=l.length->E7 A (Ak l) i=((0:Int)::Ai A l).getD i 0
 | l,0,_=>rfl
 | l,i+1,h=>by
   have hi:i<l.length:=h;rw[PE hi];have:(Ak l).getD i 0=(l[i]:Int):=by unfold Ak;rw[Qe,QH,Qa hi];rfl
   show (AH A ((Ak l).getD i 0).toNat).t=_;rw[this];rfl
theorem WP {n:Int} {A:List Ed} {l:List Nat} (h7:0<=n) (hn:n<=64) (hA:C8 (2+2*n).toNat A) (hw:Bg A 0 l 1):Fr n A (Ak l)=0/\Ew n A (Ak l)=B5 A l:=by
 have q:¬ (n<0∨64<n):=zy
 have h6:l≠[]:=λ e=>by
  subst e;have:(0:Int)=1:=hw;omega
 have h0:J0 n A (Ak l):=by
  refine⟨λ e=>h6 (by unfold Ak at e;simpa using e),λ i hi=>?_⟩
  rw[IJ] at hi;have hg:(Ak l).getD i 0=(l[i]:Int):=by unfold Ak;rw[Qe,QH,Qa hi];rfl
  have hm:=hw.mem _ (Qj hi);refine⟨⟨by rw[hg];omega,by rw[hg];omega,?_⟩,?_⟩
  .rw [hg,O7 zy]
   exact Mo hw i hi
  .unfold C4
   rw[IJ,O7 hi]
   by_cases hl:i+1=l.length
   .rw [if_pos hl]
    have:=hw.last;rw[<- hl] at this;rw[Qe,this];rfl
   .rw [if_neg hl]
    have h5:i+1<l.length:=zy
    have h1:=Mo hw (i+1) h5;have h2:=hA.arc _ (Fz (hw.mem _ (Qj h5)));have h3:=hA.arc _ (Fz hm);have h4:=PE (A:=A) (u:=0) hi;rw[<- h1];rw[<- h1] at h4;omega
 refine⟨by unfold Fr;rw[if_neg q,if_pos h0],?_⟩
 unfold Ew;rw[if_neg q,if_pos h0,IJ]
 have:∀ i,i<=l.length->FB A (Ak l) i=B5 A (l.take i):=by
  intro i
  induction i with
  | zero=>intro _;rfl
  | succ i ih =>
    intro h;have hi:i<l.length:=h;rw[Zl,ih zy,dM hi,O7 hi,PE hi]
 rw[this _ (Qk _),QW]
theorem e9 (n t:Int) (h3:0<=n) (hn:n<=64) (ht:t=1∨2<=t/\t<2+2*n):AK 164 [.I t,.I n] [] (.I ((CI t).getD (-1))) []:=by
 refine rZ.s.ac ?_;show Ad _ 0 _ _ ⟨23,[(0,.I t),(1,.I n)],[],16⟩;have hk:=oZ (t:=t) zy
 rw[<- hk];have h0:=w6 (x:=t - 2);obtain⟨k,q⟩:=AR (Int.tdiv (t - 2) 2)
 have u : -1<=k/\k<=64/\(2<=t->k=(t - 2) / 2):=by
  rcases ht with rfl | ht
  .rw [q];decide
  .have hd:Int.tdiv (t - 2) 2=(t - 2) / 2:=Int.tdiv_eq_ediv_of_nonneg zy
   rw[q,hd];omega
 have h2:IntKind.i64.wrap k=k:=w6;refine A2 ⟨23,[(0,.I t),(1,.I n)],[],100⟩ [] [] ?_;refine AB (arc ⟨23,[(0,.I t),(1,.I n),(5,.I k)],[],200⟩ ?_ ?_)
 .simp [h0,<- q,h2]
  exact BP [] []
 refine arc ⟨23,[(5,.I k),(21,.B (decide (2<=t/\t % 2=0)))],[],300⟩ ?_ ?_
 .rcases ht with rfl | ht
  .simp
   exact BP [] []
  .have h4:=u.2.2 ht.1
   have he:=He k zy zy
   have h1:k<n:=zy
   simp[ht.1,h1];refine A0 he ?_;simp;exact AJ [] [] (by simp<;>exact BA (by rw[Qv];simp;omega))
 refine AI _ rfl (λ h=>?_) λ h=>?_
 .rw [Qf] at h
  rw[if_pos h.2,<- u.2.2 h.1];refine A2 ⟨23,[(4,.I k)],[],400⟩ [] [] ?_;exact Ca
 rw[Qd] at h;rw[if_neg zy]
 refine AN (A2 ⟨23,[(4,.I (-1))],[],400⟩ [] [] ?_);exact Ca
theorem bB (n t:Int) (h0:0<=n) (hn:n<=64):AK 163 [.I t,.I n] [] (.B (decide (2<=t/\t<2+2*n))) []:=by
 refine tF.s.ac ?_;show Ad _ 0 _ _ ⟨14,[(0,.I t),(1,.I n)],[],16⟩;have q:=w6 (x:=2*n);have u:=w6 (x:=2+2*n);refine A2 ⟨14,[(0,.I t),(1,.I n)],[],100⟩ [] [] ?_;refine arc ⟨14,[(4,.B (decide (2<=t/\t<2+2*n)))],[],200⟩ ?_ ?_
 .simp
  refine Cs (λ hb=>?_) (λ hb=>?_)<;>(try rw[hb])<;>(try simp at hb)<;>simp[hb,q,u]
  .exact AJ [] [] (by simp[hb])
  .exact AJ [] [] (by simp[hb])
 exact Ca
theorem n9 (n:Int) (A:List Ed) (w:List Int) (hA:A.length<=1000000) (hw:w.length<=1000000):AK 124 [.I n,BO A,AA w] [] (.tup [AA (Ew n A w),.I (Fr n A w)]) []:=by
 refine lG.s.ac ?_;show Ad _ 0 _ _ ⟨82,[(0,.I n),(1,BO A),(2,AA w)],[],16⟩;refine A2 ⟨82,[(0,.I n),(1,BO A),(2,AA w)],[],100⟩ [] [] ?_;refine AB (arc ⟨82,[(0,.I n),(1,BO A),(2,AA w),(19,.B (decide (n<0∨64<n)))],[],200⟩ ?_ ?_)
 .simp
  refine Cs (λ hb=>?_) (λ hb=>?_)<;>(try rw[hb])<;>(try simp at hb)<;>simp[hb]
  .exact AJ [] [] (by simp[hb])
  .exact AJ [] [] (by simp<;>exact BA (by rw[Qv];simp;omega))
 refine AI _ rfl (λ h1=>?_) λ h1=>?_
 .rw [Qf] at h1
  rw[show Ew n A w=[] by unfold Ew;rw[if_pos h1],show Fr n A w=16 by unfold Fr;rw[if_pos h1]]
  refine A2 ⟨82,[(6,.nilS),(7,.I 16)],[],300⟩ [] [] ?_;exact A8 (AW.out [] [] rfl zz zz (by simp;exact DF (.nil _ _) (.refl _)) zz)
 rw[Qd] at h1;have hg:¬ J0 n A w->Ew n A w=[]/\Fr n A w=17:=λ h=>⟨by unfold Ew;rw[if_neg h1,if_neg h],by unfold Fr;rw[if_neg h1,if_neg h]⟩
 have hl:J0 n A w->Ew n A w=FB A w w.length/\Fr n A w=0:=λ h=>⟨by unfold Ew;rw[if_neg h1,if_pos h],by unfold Fr;rw[if_neg h1,if_pos h]⟩
 have hm:0<=n:=zy
 have hn:n<=64:=zy
 refine AN (A2 ⟨82,[(0,.I n),(1,BO A),(2,AA w),(8,.nilS)],[],400⟩ [] [] ?_);refine A2 ⟨82,[(0,.I n),(1,BO A),(2,AA w),(8,.nilS),(9,.I 0)],[],500⟩ [] [] ?_;refine AB (A2 ⟨82,[(0,.I n),(1,BO A),(2,AA w),(8,.nilS),(9,.I 0),(20,AA w),(21,.I w.length),(22,.I 0)],[],600⟩ [] [] ?_);refine AT ?_
 refine As (ι:=Nat) (λ i=>⟨82,[(0,.I n),(1,BO A),(2,AA w),(8,.rs 17 0 (FB A w i).length),(9,.I (E7 A w i)),(20,AA w),(21,.I w.length),(22,.I i)],[(17,some ⟨1,AE (FB A w i),0⟩)],600⟩)
  (λ i=>i<=w.length /\ ∀ j,j<i->HQ A w j/\C4 n A w j) (λ i=>w.length - i) 0 ⟨Qn _,λ j h=>absurd h (Ut _)⟩ (Le.lst [] [] [(17,1)] rfl zz zz zz zz zz zz zz (by simp[Up,FB,E7]) (by simp[FB])) ?_
 rintro i ⟨hi,ho⟩
 have h0:=Zl A w i;have a1:=dR A w i;obtain⟨K,hK⟩:=AR (FB A w i);have hq:E7 A w (i+1)=(AH A (w.getD i 0).toNat).t:=rfl;obtain⟨nd,hr⟩:=AR (E7 A w i);rw[<- hK] at h0 a1 ⊢;rw[<- hr];refine A2 ⟨82,[(0,.I n),(1,BO A),(2,AA w),(8,.rs 17 0 K.length),(9,.I nd),(20,AA w),(21,.I w.length),(22,.I i),(23,.B (decide (i<w.length)))],[(17,some ⟨1,AE K,0⟩)],700⟩ [(17,17)] [] ?_;refine AB (AI _ rfl (λ h2=>?_) λ h2=>?_)
 .rw [Qf] at h2
  obtain⟨v,hv⟩:=AR (w[i]);have hs:w[i]? = some v:=by rw[Qa h2,hv]
  have hc:w.getD i 0=v:=by rw[Qe,hs];rfl
  have hu:=wq (k:=i);have a2:IntKind.i64.wrap ((w.length:Int) - 1)=((w.length - 1:Nat):Int):=by rw[w6];omega
  obtain⟨b,hb⟩:=AR (decide (¬ HQ A w i));refine AN (AB (AT (arc ⟨82,[(0,.I n),(1,BO A),(2,AA w),(8,.rs 17 0 K.length),(9,.I nd),(10,.I i),(11,.I v),(20,AA w),(21,.I w.length),(22,.I i)],[(17,some ⟨1,AE K,0⟩)],800⟩ ?_ ?_)))
  .simp [hs,h2,<- hv]
   exact CO [(17,17)] []
  refine AB (arc ⟨82,[(0,.I n),(1,BO A),(2,AA w),(8,.rs 17 0 K.length),(9,.I nd),(10,.I i),(11,.I v),(20,AA w),(21,.I w.length),(22,.I i),(43,.B b)],[(17,some ⟨1,AE K,0⟩)],1200⟩ ?_ ?_)
  .by_cases c1:v<0
   .have q:b=true:=by rw[hb,Qf];intro h;have:=h.1;omega
    simp[c1];exact AJ [(17,17)] [] (by simp[q]) (by simp[AC])
   by_cases c2:(A.length:Int)<=v
   .have q:b=true:=by rw[hb,Qf];intro h;have:=h.2.1;omega
    simp[c1,c2];exact AJ [(17,17)] [] (by simp[q,c2]) (by simp[AC])
   have h7:v.toNat<A.length:=zy
   have c3:(0:Int)<=v/\v<A.length:=zy
   have hh:A[v.toNat]? = some A[v.toNat]:=Qa h7;have hf:(AH A (w.getD i 0).toNat).f=A[v.toNat].f:=by rw[hc,IC h7]
   have q:b=decide (A[v.toNat].f≠nd):=by
    rw[hb,decide_eq_decide];unfold HQ;rw[hf,hc,<- hr];constructor
    .intro h he;exact h ⟨c3.1,c3.2,he⟩
    .intro h he;exact h he.2.2
   simp[c1,c2,c3,hh,h7];exact AJ [(17,17)] [] (by simp[c2]<;>exact BA (by rw[q,Qv];simp)) (by simp[AC])
  refine AI _ rfl (λ h3=>?_) λ h3=>?_
  .rw [h3] at hb
   have u:=hg λ h=>(of_decide_eq_true hb.symm) (h.2 i h2).1;rw[u.1,u.2];refine A2 ⟨82,[(6,.nilS),(7,.I 17)],[],1500⟩ [] [] ?_;exact A8 (AW.out [] [] rfl zz zz (by simp;exact DF (.nil _ _) (.refl _)) zz)
  rw[h3] at hb;have hk:HQ A w i:=Decidable.not_not.1 (of_decide_eq_false hb.symm);have c3:(0:Int)<=v/\v<A.length:=by rw[<- hc];exact⟨hk.1,hk.2.1⟩
  have h7:v.toNat<A.length:=zy
  have hh:A[v.toNat]? = some A[v.toNat]:=Qa h7;have hx:E7 A w (i+1)=A[v.toNat].t:=by rw[hq,hc,IC h7]
  obtain⟨t,ht⟩:=AR (E7 A w (i+1));rw[<- ht] at hx h0;obtain⟨b2,h6⟩:=AR (decide (¬ C4 n A w i));obtain⟨b1,h8⟩:=AR (decide (i+1=w.length));refine AN (arc ⟨82,[(0,.I n),(1,BO A),(2,AA w),(8,.rs 17 0 K.length),(9,.I t),(10,.I i),(20,AA w),(21,.I w.length),(22,.I i)],[(17,some ⟨1,AE K,0⟩)],1600⟩ ?_ ?_)
  .simp [c3,hh,h7,<- hx]
   exact CO [(17,17)] []
  refine AB (arc ⟨82,[(0,.I n),(1,BO A),(2,AA w),(8,.rs 17 0 K.length),(9,.I t),(12,.B b1),(20,AA w),(21,.I w.length),(22,.I i)],[(17,some ⟨1,AE K,0⟩)],1700⟩ ?_ ?_)
  .simp [a2]
   exact AJ [(17,17)] [] (by simp<;>exact BA (by rw[h8,Qv];simp;omega)) (by simp[AC])
  refine arc ⟨82,[(0,.I n),(1,BO A),(2,AA w),(8,.rs 17 0 K.length),(9,.I t),(20,AA w),(21,.I w.length),(22,.I i),(67,.B b2)],[(17,some ⟨1,AE K,0⟩)],1900⟩ ?_ ?_
  .by_cases c4:i+1=w.length
   .have hE:C4 n A w i↔t=1:=by unfold C4;rw[if_pos c4,<- ht]
    rw[Q8 c4] at h8
    by_cases c5:t=1
    .have q:b2=false:=by rw[h6];simp[hE,c5]
     simp[h8,c5];exact AJ [(17,17)] [] (by simp[q,c5]) (by simp[AC])
    .have q:b2=true:=by rw[h6];simp[hE,c5]
     have c6:(t == 1)=false:=by simp[c5]
     simp[h8,c6];exact AJ [(17,17)] [] (by simp[q]) (by simp[AC])
   .have hE:C4 n A w i↔2<=t/\t<2+2*n:=by unfold C4;rw[if_neg c4,<- ht]
    rw[Ur c4] at h8
    by_cases c5:t=1
    .have q:b2=true:=by rw[h6,Qf,hE];omega
     simp[h8,c5];exact AJ [(17,17)] [] (by simp[q,c5]) (by simp[AC])
    .have hd:=bB n t hm hn
     obtain⟨b3,hy⟩:=AR (decide (2<=t/\t<2+2*n));rw[<- hy] at hd;have q:b2 = !b3:=by rw[h6,hy,Qv];simp[hE]
     have c6:(t == 1)=false:=by simp[c5]
     simp[h8,c6];refine A0 hd ?_;simp;exact AJ [(17,17)] [] (by simp[q]) (by simp[AC])
  refine AI _ rfl (λ h4=>?_) λ h4=>?_
  .rw [h4] at h6
   have u:=hg λ h=>(of_decide_eq_true h6.symm) (h.2 i h2).2;rw[u.1,u.2];refine A2 ⟨82,[(6,.nilS),(7,.I 17)],[],2500⟩ [] [] ?_;exact A8 (AW.out [] [] rfl zz zz (by simp;exact DF (.nil _ _) (.refl _)) zz)
  rw[h4] at h6;have h5:C4 n A w i:=Decidable.not_not.1 (of_decide_eq_false h6.symm)
  have h9:∀ j,j<i+1->HQ A w j/\C4 n A w j:=λ j hj=>by
   rcases QI.1 hj with h | rfl
   .exact ho j h
   .exact ⟨hk,h5⟩
  have a3:t=1∨2<=t/\t<2+2*n:=by
   unfold C4 at h5;rw[<- ht] at h5;split at h5
   .exact .inl h5
   .exact .inr h5
  have hz:=e9 n t hm hn a3;refine AN (arc ⟨82,[(0,.I n),(1,BO A),(2,AA w),(8,.rs 17 0 K.length),(9,.I t),(13,.I ((CI t).getD (-1))),(20,AA w),(21,.I w.length),(22,.I i)],[(17,some ⟨1,AE K,0⟩)],2600⟩ ?_ ?_)
  .simp
   refine A0 hz ?_;simp;exact CO [(17,17)] []
  cases ha:CI t with
  | none =>
    rw[ha] at h0;simp only[Option.toList,Q0] at h0;refine arc ⟨82,[(0,.I n),(1,BO A),(2,AA w),(8,.rs 17 0 K.length),(9,.I t),(20,AA w),(21,.I w.length),(22,.I i),(72,.B false)],[(17,some ⟨1,AE K,0⟩)],2700⟩ ?_ ?_
    .simp [ha]
     exact CO [(17,17)] []
    refine AI _ rfl (λ h=>by cases h) λ _=>?_
    refine AN (AY ?_);exact⟨i+1,⟨h2,h9⟩,zy,AJ [(17,17)] [] (by simp[h0,hu,<- ht]) (by simp[h0,AC])⟩
  | some k =>
    have a4:=tX ha;rw[ha] at h0;simp only[Option.toList] at h0;refine arc ⟨82,[(0,.I n),(1,BO A),(2,AA w),(8,.rs 17 0 K.length),(9,.I t),(13,.I k),(20,AA w),(21,.I w.length),(22,.I i),(72,.B true)],[(17,some ⟨1,AE K,0⟩)],2700⟩ ?_ ?_
    .simp [ha]
     exact AJ [(17,17)] [] (by simp[a4]) (by simp[AC])
    refine AI _ rfl (λ _=>?_) λ h=>by cases h
    refine Al (s:=?s40) rfl ?o40 ?q40
    case o40=>simp[B7];refine⟨zy,zy,?_⟩;rfl
    refine AY ?_;exact⟨i+1,⟨h2,h9⟩,zy,AJ [(2724,17)] [] (by simp[h0,hu,<- ht]) (by simp[h0,AC])⟩
 rw[Qd] at h2;obtain rfl:i=w.length:=zy
 refine Ar (hit (AB (arc ⟨82,[(8,.rs 17 0 K.length),(80,.B (decide (w=[])))],[(17,some ⟨1,AE K,0⟩)],800⟩ ?_ ?_)))
 .simp
  exact AJ [(17,17)] [] (by simp<;>exact BA (by rw[Qv];simp)) (by simp[AC])
 refine AI _ rfl (λ h4=>?_) λ h4=>?_
 .rw [Qf] at h4
  have u:=hg λ h=>h.1 h4;rw[u.1,u.2];refine A2 ⟨82,[(6,.nilS),(7,.I 17)],[],1500⟩ [] [] ?_;exact A8 (AW.out [] [] rfl zz zz (by simp;exact DF (.nil _ _) (.refl _)) zz)
 rw[Qd] at h4;have a0:=hl ⟨h4,λ j hj=>ho j hj⟩;rw[a0.1,a0.2,<- hK];refine AN (arc ⟨82,[(6,AA K),(7,.I 0)],[],1500⟩ ?_ ?_)
 .simp
  exact AJ [] [17] (by simp[B7,AC])
 exact Bx [] []
def Bq:List Int->Int->Option Nat
 | [],_=>none
 | x::l,y=>if x=y then some 0 else (Bq l y).map (· + 1)
theorem O3:∀ {l:List Int} {y:Int},Bq l y=none↔y∉l
 | [],y=>by simp[Bq]
 | x::l,y=>by
   simp only[Bq,Qw]
   by_cases h:x=y
   .simp [h]
   .rw [if_neg h,Option.map_eq_none_iff,O3]
    simp[show ¬ y=x from λ e=>h e.symm]
theorem N1:∀ {l:List Int} {y:Int} {k:Nat},Bq l y=some k->l[k]? = some y
 | [],y,k,h=>by simp[Bq] at h
 | x::l,y,k,h=>by
   simp only[Bq] at h;split at h
   .rename_i e
    cases h;simp[e]
   .obtain ⟨j,hj,rfl⟩:=Qr.1 h
    simpa using N1 hj
theorem Ws:∀ {l:List Int} {y z:Int},z∉l->Bq (l++[z]) y=if y=z then some l.length else Bq l y
 | [],y,z,_=>by
   simp only[Uu,Bq,Option.map_none,U7]
   by_cases h:z=y
   .simp [h]
   .simp [h,show ¬ y=z from λ e=>h e.symm]
 | x::l,y,z,hz=>by
   have q:z∉l:=λ h=>hz (by simp[h])
   have hx:x≠z:=λ e=>hz (by simp[e])
   simp only[Q6,Bq,Ws q]
   by_cases h:y=z
   .subst h
    simp[hx]
   .simp [h]
theorem Ps:∀ {l:List Int} {x y:Int} {k:Nat},l.Nodup->l[k]? = some x->Bq (l.take (k+1)) y=if y=x then some k else if y∈l.drop (k+1) then none else Bq l y
 | [],x,y,k,_,h=>by simp at h
 | a::l,x,y,0,hn,h=>by
   have:a=x:=by simpa using h
   subst this;rw[Q1] at hn;simp only[Uc,List.take_succ_cons,List.take_zero,Bq,Option.map_none,List.drop_succ_cons,Vb]
   by_cases h1:a=y
   .simp [h1]
   .rw [if_neg h1,if_neg λ e=>h1 e.symm]
    split
    .rfl
    .rename_i h2
     rw[O3.2 h2];rfl
 | a::l,x,y,k+1,hn,h=>by
   rw[Q1] at hn;have h:l[k]? = some x:=by simpa using h
   have ih:=Ps (y:=y) hn.2 h;have q:a≠x:=λ e=>hn.1 (e ▸ QX h);simp only[List.take_succ_cons,Bq,List.drop_succ_cons,ih]
   by_cases h1:a=y
   .subst h1
    rw[if_pos rfl,if_neg q,if_neg λ h=>hn.1 (UC h),if_pos rfl]
   .rw [if_neg h1,if_neg h1]
    split
    .rfl
    .split<;>rfl
def B9 (A:List Ed) (l:List Nat):Int->Option AV:=λ x=>(Bq ((0:Int)::Ai A l) x).map λ (k:Nat)=>AV.I (k:Int)
theorem cP {A:List Ed} {l:List Nat} {i:Nat} (h:(AH A i).t∉(0:Int)::Ai A l):B9 A (l++[i])=λ x=>if x=(AH A i).t then some (.I (l.length+1:Nat)) else B9 A l x:=by
 funext x
 have e:(0:Int)::Ai A (l++[i])=((0:Int)::Ai A l)++[(AH A i).t]:=by rw[OU];rfl
 rw[B9,e,Ws h];split
 .simp [Ai]
 .rfl
theorem cH {A:List Ed} {l:List Nat} {i k:Nat} (hn:((0:Int)::Ai A l).Nodup) (h:Bq ((0:Int)::Ai A l) (AH A i).t=some k) :
  B9 A (l.take k)=λ x=>if x=(AH A i).t then some (.I k) else if x∈Ai A ((l++[i]).drop k) then none else B9 A l x:=by
 funext x
 have hk:=N1 h
 have q:k<=l.length:=by
  have:=(Qu.1 hk).1;simp[Ai] at this;omega
 have e:(0:Int)::Ai A (l.take k)=((0:Int)::Ai A l).take (k+1):=by simp[Ai,UX]
 have e2:Ai A ((l++[i]).drop k)=((0:Int)::Ai A l).drop (k+1)++[(AH A i).t]:=by
  rw[List.drop_append_of_le_length q];simp[Ai,Vi]
 simp only[B9,e,e2,Ps hn hk,Qo,Qt]
 by_cases h1:x=(AH A i).t
 .simp [h1]
 .simp only[h1,or_false]
  by_cases h2:x∈List.drop k (Ai A l)
  .simp [h2]
  .simp [h2]
variable {rows:List (List AV)} {φ:Int->Option AV}
theorem eA {α:Type} {l:List α} {q:α->Bool} {j:Nat} (hj:j<l.length) (h:q l[j]=true):∃ i:Nat,BU l q=i/\i<=j:=by
 have h1:l.findIdx q<=j:=Nat.le_of_not_lt λ u=>by
  have:=List.not_of_lt_findIdx u;rw[h] at this
  cases this
 exact⟨l.findIdx q,by unfold BU;rw[if_pos zy],h1⟩
theorem qO (e:Ed) (w:Int):AK 162 [eE e,.pv [.I w]] [] (.B (decide (e.f=w))) []:=by
 refine pE.s.ac ?_;show Ad _ 0 _ _ ⟨8,[(0,eE e),(1,.pv [.I w])],[],16⟩;refine A2 ⟨8,[(1,.pv [.I w]),(2,.pv (eC e))],[],100⟩ [] [16] ?_;refine arc ⟨8,[(3,.B (decide (e.f=w)))],[],200⟩ ?_ ?_
 .simp
  exact AJ [] [] (by simp<;>exact BA (by rw[Qv];simp))
 exact Ca
structure CV (rows:List (List AV)) (φ:Int->Option AV):Prop where
 is:Co rows φ
 flat:∀ n x,φ n=some x -> ∃ v,x = .sc v
theorem CV.mem (h:CV rows φ) {r:List AV} (hr:r∈rows):∃ k v,r=[.sc k,.sc v]:=by
 obtain⟨⟨l,rfl,hn,hf⟩,u⟩:=h;obtain⟨q,hq,rfl⟩:=Qh.1 hr;obtain⟨v,e⟩:=u q.1 q.2 (by rw[<- hf];exact Pg hn hq)
 exact⟨_,v,by rw[e]⟩
theorem CV.conv' (h:CV rows φ) (ρ:List (Nat × Nat)) (sn:List Nat) (g:Nat->Option AD):rows.map (List.map (Go.Proofs.YtnaemfpgdmfmcaaGreatDoor.conv ρ sn g 4))=rows:=by
 conv=>rhs;rw[<- List.map_id rows]
 refine Q7 λ r hr=>?_;obtain⟨k,v,rfl⟩:=h.mem hr;simp
theorem CV.set {ψ:Int->Option AV} (h:CV rows φ) (n v:Int) (he:ψ=λ k=>if k=n then some (.I v) else φ k):CV (A7 n (.I v) rows) ψ:=by
 subst he;refine⟨h.is.set n (.I v),λ k x hx=>?_⟩;split at hx
 .cases hx;exact⟨_,rfl⟩
 .exact h.flat k x hx
theorem CV.del {ψ:Int->Option AV} (h:CV rows φ) (n:Int) (he:ψ=λ k=>if k=n then none else φ k):CV (Bn n rows) ψ:=by
 subst he;refine⟨h.is.del n,λ k x hx=>?_⟩;split at hx
 .cases hx
 .exact h.flat k x hx
theorem iW (A:List Ed) (l:List Nat):∀ n x,B9 A l n=some x -> ∃ v,x = .sc v:=λ n x h=>by
 unfold B9 at h;obtain⟨k,_,rfl⟩:=Qr.1 h;exact⟨_,rfl⟩
theorem mT (A:List Ed):CV [[.I 0,.I 0]] (B9 A []):=by
 have h:B9 A []=λ k=>if k=0 then some (.I 0) else (λ _=>none) k:=by
  funext k
  unfold B9 Ai;simp only[UN,Bq]
  by_cases hk:k=0
  .subst hk
   simp
  .simp [hk,show ¬ 0=k from λ e=>hk e.symm]
 exact⟨by rw[h];exact Co.nil.set 0 (.I 0),iW A []⟩
def EG (A:List Ed) (l:List Nat) (d:List Nat):Int->Option AV:=λ x=>if x∈Ai A d then none else B9 A l x
theorem cQ (A:List Ed) (l:List Nat):EG A l []=B9 A l:=by
 funext x
 unfold EG Ai;simp
theorem Z8 (A:List Ed) (l d:List Nat) (i:Nat):EG A l (d++[i])=λ x=>if x=(AH A i).t then none else EG A l d x:=by
 funext x
 unfold EG;rw[OU]
 by_cases h:x=(AH A i).t
 .simp [h]
 .simp [h]
theorem n6 {A:List Ed} {l:List Nat} {x:Int} {k:Nat} (h:Bq ((0:Int)::Ai A l) x=some k):B9 A l x=some (.I k):=by unfold B9;rw[h];rfl
theorem m5 {A:List Ed} {l:List Nat} {x:Int} (h:Bq ((0:Int)::Ai A l) x=none):B9 A l x=none:=by unfold B9;rw[h];rfl
structure MU where
 W:List (List Nat)
 g:List Int
structure Jt where
 l:List Nat
 w:Int
 g:List Int
 V:List Int
 R:List (List AV)
structure aL (A:List Ed) (f:List Int) (s:Jt):Prop where
 left:El A f s.g s.l s.w
 v:s.V.take s.l.length=Ak s.l
 vl:s.l.length<=s.V.length
 r:CV s.R (B9 A s.l)
open Classical in
theorem bM (N:Nat) (A:List Ed) (f:List Int) (hn:C9 ⟨N,A⟩) (hf:BL N A f) (hNl:N<=130) :
  ∃ W:List (List Nat),((∃ g',GQ N A f g' W)/\(W.length:Int)=Aa A f /\ ∀ w∈W,w.length<=130)/\AK 121 [eN ⟨N,A⟩,AA f] [] (.tup [.vs 1 false (W.map λ w=>[AA (Ak w)]),.I 0]) []:=by
 refine jY.s.acallsX (args:=[eN ⟨N,A⟩,AA f]) (hs:=[]) (λ W=>.tup [.vs 1 false (W.map λ w=>[AA (Ak w)]),.I 0]) (λ _=>[]) (λ W:List (List Nat)=>(∃ g',GQ N A f g' W)/\(W.length:Int)=Aa A f /\ ∀ w∈W,w.length<=130) (Bf rfl) (Bf rfl) (λ _=>Qk _) ?_;show Ad _ 0 _ _ ⟨119,[(0,eN ⟨N,A⟩),(1,AA f)],[],16⟩;have hno:=H4 hn;have hfit:=GX.1 hf.fit;have hfl:=hf.fit.len;have hal:=hn.2.2.1;simp only at hal;have hchk:=K7 ⟨N,A⟩ (by simp only;omega)
 rw[if_pos hn] at hchk;have hvld:=Pr (f:=f) hn zy
 rw[Q8 hf] at hvld;have hval:=Ty (f:=f) hn zy
 rw[if_pos hf] at hval;have hclone:=Gy f zy
 have hex:=XQ (f:=f) hno;have hbal:=hf.balF;have hv0:=kJ hno hbal
 have hfb:∀ i,f.getD i 0<=1048576:=λ i=>by
  by_cases hi:i<A.length
  .have h1:=hfit.2 i hi
   have h2:(AH A i).v<=1048576:=(hn.2.2.2 _ (Fz hi)).2.2.2.2.2.2.2.2;omega
  .rw [Qe,QS zy]
   simp
 obtain⟨vl,hvl⟩:∃ vl:Nat,Aa A f=(vl:Int):=⟨(Aa A f).toNat,zy⟩
 rw[hvl] at hval hex;have htf:∀ h:Int->List AV,List.take A.length (List.map h f)=List.map h f:=λ h=>Qb zw
 have hvb:vl<=10000000000:=by
  have hb:=YJ (A:=A) (f:=f) hfl (λ q hq=>⟨by have:=(hfit.2 q zy).1;rwa [Jy hq] at this,by have:=hfb q;rwa [Jy hq] at this⟩) 0 A.length (Qk _)
  rw[Qb (Qk _),Qb zy] at hb
  unfold B2 at hex;rw[Jk hno] at hex;omega
 refine A2 ⟨119,[(1,AA f),(2,.pv (nC ⟨N,A⟩))],[],100⟩ [] [16] ?_;refine AB (arc ⟨119,[(1,AA f),(2,.pv (nC ⟨N,A⟩)),(6,.I 0)],[],200⟩ ?_ ?_)
 .simp
  refine A0 hchk ?_;simp;exact BP [] []
 refine A2 ⟨119,[(1,AA f),(2,.pv (nC ⟨N,A⟩)),(20,.B false)],[],300⟩ [] [] ?_;refine AI _ rfl (λ h=>by cases h) λ _=>?_
 refine AN (AB (arc ⟨119,[(1,AA f),(2,.pv (nC ⟨N,A⟩)),(25,.B false)],[],400⟩ ?_ ?_))
 .simp
  refine A0 hvld ?_;simp;exact BP [] []
 refine AI _ rfl (λ h=>by cases h) λ _=>?_
 refine AN (arc ⟨119,[(1,AA f),(2,.pv (nC ⟨N,A⟩)),(7,.rs 18 0 A.length)],[(18,some ⟨1,AE f,0⟩)],500⟩ ?_ ?_)
 .simp
  refine Ct hclone ?_;simp;exact AJ [(408,18)] [] (by simp[hfl]) (by simp[AC])
 refine A2 ⟨119,[(1,AA f),(2,.pv (nC ⟨N,A⟩)),(7,.rs 18 0 A.length),(8,.nilS)],[(18,some ⟨1,AE f,0⟩)],600⟩ [(18,18)] [] ?_;refine AB (arc ⟨119,[(2,.pv (nC ⟨N,A⟩)),(7,.rs 18 0 A.length),(8,.nilS),(30,.I vl),(31,.I 0)],[(18,some ⟨1,AE f,0⟩)],700⟩ ?_ ?_)
 .simp
  refine A0 hval ?_;simp;exact CO [(18,18)] []
 refine AT ?_
 refine As (ι:=MU) (λ s=>⟨119,[(2,.pv (nC ⟨N,A⟩)),(7,.rs 18 0 A.length),(8,.rs 17 0 s.W.length),(30,.I vl),(31,.I s.W.length)],[(18,some ⟨1,AE s.g,0⟩),(17,some ⟨1,s.W.map λ w=>[AA (Ak w)],0⟩)],700⟩)
  (λ s=>GQ N A f s.g s.W/\s.W.length<=vl /\ ∀ w∈s.W,w.length<=130) (λ s=>vl - s.W.length) ⟨[],f⟩ ⟨GQ.nil hbal,Qn _,zz⟩
  (Le.lst [(18,18)] [] [(17,1)] rfl zz zz zz zz zz zz zz (by simp[Up]) (by simp[AC];exact An.rfl' zz)) ?_
 rintro⟨W,g0⟩ ⟨hT,hWv,hWl⟩
 simp only at hT hWv hWl;have hg0l:=hT.bal.len
 have hg0b:∀ i,g0.getD i 0<=1048576:=λ i=>by
  have h1:=hT.used i;have h2:=hfb i;omega
 have htW:∀ h:List Nat->List AV,List.take W.length (List.map h W)=List.map h W:=λ h=>Qb zz
 refine A2 ⟨119,[(2,.pv (nC ⟨N,A⟩)),(7,.rs 18 0 A.length),(8,.rs 17 0 W.length),(30,.I vl),(31,.I W.length),(32,.B (decide (W.length<vl)))],[(18,some ⟨1,AE g0,0⟩),(17,some ⟨1,W.map λ w=>[AA (Ak w)],0⟩)],800⟩ [(18,18),(17,17)] [] ?_;refine AB (AI _ rfl (λ h13=>?_) λ h13=>?_)
 .rw [Qf] at h13
  have hpos:0<B2 A g0 0:=by have:=hT.ex;omega
  refine AN (AB (AT (A2 ⟨119,[(2,.pv (nC ⟨N,A⟩)),(7,.rs 18 0 A.length),(8,.rs 17 0 W.length),(9,.nilS),(30,.I vl),(31,.I W.length)],[(18,some ⟨1,AE g0,0⟩),(17,some ⟨1,W.map λ w=>[AA (Ak w)],0⟩)],900⟩ [(18,18),(17,17)] [] ?_)));refine arc ⟨119,[(2,.pv (nC ⟨N,A⟩)),(7,.rs 18 0 A.length),(8,.rs 17 0 W.length),(9,.nilS),(10,.mp 20),(30,.I vl),(31,.I W.length)],[(18,some ⟨1,AE g0,0⟩),(17,some ⟨1,W.map λ w=>[AA (Ak w)],0⟩),(20,some ⟨0,[[.I 0,.I 0]],0⟩)],1000⟩ ?_ ?_
  .simp [A7]
   exact CO [(18,18),(17,17),(900,20)] []
  refine AB (A2 ⟨119,[(2,.pv (nC ⟨N,A⟩)),(7,.rs 18 0 A.length),(8,.rs 17 0 W.length),(9,.nilS),(10,.mp 20),(11,.pt 21 0 0),(30,.I vl),(31,.I W.length)],[(18,some ⟨1,AE g0,0⟩),(17,some ⟨1,W.map λ w=>[AA (Ak w)],0⟩),(20,some ⟨0,[[.I 0,.I 0]],0⟩),(21,some ⟨1,[[.I 0]],0⟩)],1100⟩ [(18,18),(17,17),(20,20),(1000,21)] [] ?_);refine AT ?_
  refine As (ι:=Jt) (λ s=>⟨119,[(2,.pv (nC ⟨N,A⟩)),(7,.rs 18 0 A.length),(8,.rs 17 0 W.length),(9,.rs 19 0 s.l.length),(10,.mp 20),(11,.pt 21 0 0),(30,.I vl),(31,.I W.length)],[(18,some ⟨1,AE s.g,0⟩),(17,some ⟨1,W.map λ w=>[AA (Ak w)],0⟩),(19,some ⟨1,AE s.V,0⟩),(20,some ⟨0,s.R,0⟩),(21,some ⟨1,[[.I s.w]],0⟩)],1100⟩)
   (λ s=>aL A g0 s) (λ s=>F8 s.g) ⟨[],0,g0,[],[[.I 0,.I 0]]⟩ ⟨El.start hg0l hT.bal.nonneg,rfl,Qk _,mT A⟩
   (Le.lst [(18,18),(17,17),(20,20),(21,21)] [] [(19,1)] rfl zz zz zz zz zz zz zz (by simp[Up]) (by simp[AC];exact⟨An.rfl' zz,An.rfl' zz,An.rfl' zz,An.rfl' zz⟩)) ?_
  rintro⟨l,w,g,V,R⟩ ⟨hL,hV,hVl,hR⟩
  simp only at hL hV hVl hR;have hfew:=hL.few hno;have hgl:=hL.len;have htV:∀ h:Int->List AV,List.take l.length (List.map h V)=List.map h (Ak l):=λ h=>by rw[<- UX,hV]
  have hRc:=λ ρ sn h=>hR.conv' ρ sn h
  refine AB (arc ⟨119,[(2,.pv (nC ⟨N,A⟩)),(7,.rs 18 0 A.length),(8,.rs 17 0 W.length),(9,.rs 19 0 l.length),(10,.mp 20),(11,.pt 21 0 0),(30,.I vl),(31,.I W.length),(36,.B (decide (w≠1)))],[(18,some ⟨1,AE g,0⟩),(17,some ⟨1,W.map λ w=>[AA (Ak w)],0⟩),(19,some ⟨1,AE V,0⟩),(20,some ⟨0,R,0⟩),(21,some ⟨1,[[.I w]],0⟩)],1200⟩ ?_ ?_)
  .simp
   exact AJ [(18,18),(17,17),(19,19),(20,20),(21,21)] [] (by simp<;>exact BA (by rw[Qv];simp)) (by simp[AC,hRc])
  refine AI _ rfl (λ h18=>?_) λ h18=>?_
  .rw [Qf] at h18
   obtain⟨j,hj,hjf,hjg⟩:=hL.go_on hno hT.bal h18 λ _=>hpos;have hjq:decide (A[j].f=w)=true:=by rw[Qf,<- hjf,IC hj]
   obtain⟨i0,hi0,hi0j⟩:=eA (q:=λ e:Ed=>decide (e.f=w)) hj hjq;have hidx:=Ro 162 [.pv [.I w]] (λ e=>decide (e.f=w)) A zy (λ ρ sn h k=>by simp[conv]) λ e _=>qO e w
   rw[hi0] at hidx;refine AN (AB (AT (arc ⟨119,[(2,.pv (nC ⟨N,A⟩)),(7,.rs 18 0 A.length),(8,.rs 17 0 W.length),(9,.rs 19 0 l.length),(10,.mp 20),(11,.pt 21 0 0),(12,.I i0),(30,.I vl),(31,.I W.length)],[(18,some ⟨1,AE g,0⟩),(17,some ⟨1,W.map λ w=>[AA (Ak w)],0⟩),(19,some ⟨1,AE V,0⟩),(20,some ⟨0,R,0⟩),(21,some ⟨1,[[.I w]],0⟩)],1300⟩ ?_ ?_)))
   .simp
    refine F6 [21] hidx zz (.sc _) ?_
    simp;exact AJ [(18,18),(17,17),(19,19),(20,20),(21,21)] [] zz (by simp[AC,hRc])
   refine AB (AT (As (ι:=Nat) (λ i=>⟨119,[(2,.pv (nC ⟨N,A⟩)),(7,.rs 18 0 A.length),(8,.rs 17 0 W.length),(9,.rs 19 0 l.length),(10,.mp 20),(11,.pt 21 0 0),(12,.I i),(30,.I vl),(31,.I W.length)],[(18,some ⟨1,AE g,0⟩),(17,some ⟨1,W.map λ w=>[AA (Ak w)],0⟩),(19,some ⟨1,AE V,0⟩),(20,some ⟨0,R,0⟩),(21,some ⟨1,[[.I w]],0⟩)],1300⟩) (λ i=>i<=j) (λ i=>j - i) i0 hi0j (AJ [(18,18),(17,17),(19,19),(20,20),(21,21)] [] zz (by simp[AC,hRc])) ?_))
   intro i hij;have hi:i<A.length:=zy
   have hig:i<g.length:=zy
   have hi1:(0:Int)<=i/\(i:Int)<A.length:=zy
   have hgA:A[i]? = some A[i]:=Qa hi;have hgg:g[i]? = some g[i]:=Qa hig;have hwi:=wq (k:=i);obtain⟨b,hb⟩:=AR (decide (A[i].f≠w∨g[i]=0));refine AB (Cd ⟨119,[(2,.pv (nC ⟨N,A⟩)),(7,.rs 18 0 A.length),(8,.rs 17 0 W.length),(9,.rs 19 0 l.length),(10,.mp 20),(11,.pt 21 0 0),(12,.I i),(30,.I vl),(31,.I W.length),(62,.B b)],[(18,some ⟨1,AE g,0⟩),(17,some ⟨1,W.map λ w=>[AA (Ak w)],0⟩),(19,some ⟨1,AE V,0⟩),(20,some ⟨0,R,0⟩),(21,some ⟨1,[[.I w]],0⟩)],1600⟩ ?_ ?_)
   .by_cases c1:A[i].f=w
    .have hb':b=decide (g[i]=0):=by rw[hb,decide_eq_decide];simp[c1]
     simp[hi,hi1,hgA,c1,hig,hgg];exact⟨rfl,AJ [(18,18),(17,17),(19,19),(20,20),(21,21)] [] (by simp<;>exact BA (by rw[hb',Qv];simp)) (by simp[AC,hRc])⟩
    .have hb':b=true:=by rw[hb,Qf];exact .inl c1
     have c1':(A[i].f != w)=true:=by simp[c1]
     simp[hi,hi1,hgA,c1'];exact⟨rfl,AJ [(18,18),(17,17),(19,19),(20,20),(21,21)] [] (by simp[hb']) (by simp[AC,hRc])⟩
   refine AI _ rfl (λ h21=>?_) λ h21=>?_
   .rw [h21] at hb
    have hne:i≠j:=λ e=>by
     subst e;have:=of_decide_eq_true hb.symm;rw[IC hi] at hjf;rcases this with h | h
     .exact h hjf
     .rw [Jy hig,h] at hjg
      exact absurd hjg zy
    refine AN (AT (Ap rfl ?_));simp;exact⟨i+1,zy,zy,AJ [(18,18),(17,17),(19,19),(20,20),(21,21)] [] (by simp[hwi]) (by simp[AC,hRc])⟩
   rw[h21] at hb;have hbn:=of_decide_eq_false hb.symm;have hif:(AH A i).f=w:=by rw[IC hi];exact Decidable.byContradiction λ h=>hbn (.inl h)
   have hgi0:=hL.nonneg i;have hgn:g[i]≠0:=λ h=>hbn (.inr h);have hgp:0<g.getD i 0:=by rw[Jy hig] at hgi0 ⊢;omega
   obtain⟨x,hx⟩:=AR (g.getD i 0);have hgi:g[i]=x:=by rw[hx,Jy hig]
   have hus:=hL.used i;have hg0i:=hg0b i;obtain⟨g2,hg2⟩:=AR (g.set i (x - 1));have hmore:=hL.more hi hif hgp;have htot:=Yp hig hgp;rw[<- hx] at hgp hus hmore htot;rw[<- hg2] at hmore htot;obtain⟨t,ht⟩:=AR ((AH A i).t);rw[<- ht] at hmore;have hAt:A[i].t=t:=by rw[ht,IC hi]
   have hwx:=w6 (x:=x - 1);refine Ar (hit (arc ⟨119,[(2,.pv (nC ⟨N,A⟩)),(7,.rs 18 0 A.length),(8,.rs 17 0 W.length),(9,.rs 19 0 l.length),(10,.mp 20),(11,.pt 21 0 0),(12,.I i),(30,.I vl),(31,.I W.length)],[(18,some ⟨1,AE g2,0⟩),(17,some ⟨1,W.map λ w=>[AA (Ak w)],0⟩),(19,some ⟨1,AE V,0⟩),(20,some ⟨0,R,0⟩),(21,some ⟨1,[[.I w]],0⟩)],1700⟩ ?_ ?_))
   .simp [hi1,hi,hgi,hig,hwx,Ax]
    exact AJ [(18,18),(17,17),(19,19),(20,20),(21,21)] [] zz (by simp[AC,hg2,hRc])
   obtain⟨V2,hV2⟩:=AR (Ak l++[(i:Int)]);have hV2l:V2.length=l.length+1:=by rw[hV2];simp[Ak]
   obtain⟨L1,hL1⟩:=AR (l.length+1);refine Cd ⟨119,[(2,.pv (nC ⟨N,A⟩)),(7,.rs 18 0 A.length),(8,.rs 17 0 W.length),(9,.rs 19 0 L1),(10,.mp 20),(11,.pt 21 0 0),(30,.I vl),(31,.I W.length)],[(18,some ⟨1,AE g2,0⟩),(17,some ⟨1,W.map λ w=>[AA (Ak w)],0⟩),(19,some ⟨1,AE V2,0⟩),(20,some ⟨0,R,0⟩),(21,some ⟨1,[[.I t]],0⟩)],1900⟩ ?_ ?_
   .simp [hi1,hi,htV,hAt,Ax]
    refine⟨zy,zy,zy,rfl,AJ [(18,18),(17,17),(1724,19),(20,20),(21,21)] [] (by simp[hL1]) (by simp[AC,hRc,hV2])⟩
   cases hpk:Bq ((0:Int)::Ai A l) t with
   | none =>
     have hmn:=m5 hpk;have htn:t∉(0:Int)::Ai A l:=O3.1 hpk;have hl2:=hmore.1 htn;have hR2:CV (A7 t (.I (L1:Int)) R) (B9 A (l++[i])):=hR.set t _ (by rw[cP (by rw[<- ht];exact htn),ht,hL1])
     obtain⟨R2,hR2d⟩:=AR (A7 t (.I (L1:Int)) R);have hfind:=hR.is.find t;rw[hmn] at hfind;have hR2c:=λ ρ sn h=>hR2.conv' ρ sn h
     rw[<- hR2d] at hR2;refine AB (arc ⟨119,[(2,.pv (nC ⟨N,A⟩)),(7,.rs 18 0 A.length),(8,.rs 17 0 W.length),(9,.rs 19 0 L1),(10,.mp 20),(11,.pt 21 0 0),(14,.B false),(30,.I vl),(31,.I W.length)],[(18,some ⟨1,AE g2,0⟩),(17,some ⟨1,W.map λ w=>[AA (Ak w)],0⟩),(19,some ⟨1,AE V2,0⟩),(20,some ⟨0,R,0⟩),(21,some ⟨1,[[.I t]],0⟩)],2000⟩ ?_ ?_)
     .simp [hfind]
      exact AJ [(18,18),(17,17),(19,19),(20,20),(21,21)] [] zz (by simp[AC,hRc])
     refine arc ⟨119,[(2,.pv (nC ⟨N,A⟩)),(7,.rs 18 0 A.length),(8,.rs 17 0 W.length),(9,.rs 19 0 L1),(10,.mp 20),(11,.pt 21 0 0),(30,.I vl),(31,.I W.length),(87,.B false)],[(18,some ⟨1,AE g2,0⟩),(17,some ⟨1,W.map λ w=>[AA (Ak w)],0⟩),(19,some ⟨1,AE V2,0⟩),(20,some ⟨0,R,0⟩),(21,some ⟨1,[[.I t]],0⟩)],2100⟩ ?_ ?_
     .simp
      exact AJ [(18,18),(17,17),(19,19),(20,20),(21,21)] [] zz (by simp[AC,hRc])
     refine AI _ rfl (λ h=>by cases h) λ _=>?_
     refine AN (Ap rfl ?_);simp;refine rk (s:=?s32) [2,7,8,9,10,30,31,111] [18,17,19,20] rfl ?o32 ?q32
     case o32=>simp;rfl
     refine Ap rfl ?_;simp;refine⟨⟨l++[i],t,g2,V2,R2⟩,⟨hl2,?_,by simp only[Qm,QT];omega,hR2⟩,htot,AJ [(18,18),(17,17),(19,19),(20,20),(2148,21)] [] (by simp[hL1]) (by simp[AC,hR2c,hR2d])⟩
     simp only;rw[Qb zw,hV2]
     simp[Ak]
   | some k =>
     have hms:=n6 hpk;have hpg:=N1 hpk;have hl2:=hmore.2 k hpg
     have hkl:k<=l.length:=by
      have:=(Qu.1 hpg).1;simp[Ai] at this;omega
     have hback:=cH hL.met (i:=i) (by rw[<- ht];exact hpk)
     have hfind:=hR.is.find t;rw[hms] at hfind;refine AB (arc ⟨119,[(2,.pv (nC ⟨N,A⟩)),(7,.rs 18 0 A.length),(8,.rs 17 0 W.length),(9,.rs 19 0 L1),(10,.mp 20),(11,.pt 21 0 0),(13,.I k),(14,.B true),(30,.I vl),(31,.I W.length)],[(18,some ⟨1,AE g2,0⟩),(17,some ⟨1,W.map λ w=>[AA (Ak w)],0⟩),(19,some ⟨1,AE V2,0⟩),(20,some ⟨0,R,0⟩),(21,some ⟨1,[[.I t]],0⟩)],2000⟩ ?_ ?_)
     .simp [hfind]
      exact AJ [(18,18),(17,17),(19,19),(20,20),(21,21)] [] zz (by simp[AC,hRc])
     refine arc ⟨119,[(2,.pv (nC ⟨N,A⟩)),(7,.rs 18 0 A.length),(8,.rs 17 0 W.length),(9,.rs 19 0 L1),(10,.mp 20),(11,.pt 21 0 0),(13,.I k),(30,.I vl),(31,.I W.length),(87,.B true)],[(18,some ⟨1,AE g2,0⟩),(17,some ⟨1,W.map λ w=>[AA (Ak w)],0⟩),(19,some ⟨1,AE V2,0⟩),(20,some ⟨0,R,0⟩),(21,some ⟨1,[[.I t]],0⟩)],2100⟩ ?_ ?_
     .simp
      exact AJ [(18,18),(17,17),(19,19),(20,20),(21,21)] [] zz (by simp[AC,hRc])
     refine AI _ rfl (λ _=>?_) λ h=>by cases h
     refine AB ?_;obtain⟨m,hm⟩:=AR (l.length+1 - k);have hL1m:m=L1 - k:=zy
     obtain⟨d,hd⟩:=AR ((l++[i]).drop k);have hdl:d.length=m:=by rw[hd,hm];simp
     have hVd:∀ (q:Nat) (h:q<d.length),V2[k+q]? = some ((d[q]:Nat):Int):=λ q h=>by
      have e:V2=Ak (l++[i]):=by rw[hV2];simp[Ak]
      subst hd;rw[e];unfold Ak;rw[QH,List.getElem_drop,Qa (by simp at h ⊢;omega)]
      rfl
     have hdm:∀ (q:Nat) (h:q<d.length),d[q]<A.length:=λ q h=>by
      have:d[q]∈l++[i]:=by
       subst hd;exact UC (Qj h)
      rcases Qo.1 this with h2 | h2
      .exact hL.way.mem _ h2
      .rw [Qt.1 h2];exact hi
     rw[<- hd] at hback;refine arc ⟨119,[(2,.pv (nC ⟨N,A⟩)),(7,.rs 18 0 A.length),(8,.rs 17 0 W.length),(9,.rs 19 0 L1),(10,.mp 20),(11,.pt 21 0 0),(13,.I k),(30,.I vl),(31,.I W.length),(90,.rs 19 k m),(91,.I m),(92,.I 0)],[(18,some ⟨1,AE g2,0⟩),(17,some ⟨1,W.map λ w=>[AA (Ak w)],0⟩),(19,some ⟨1,AE V2,0⟩),(20,some ⟨0,R,0⟩),(21,some ⟨1,[[.I t]],0⟩)],2300⟩ ?_ ?_
     .simp
      refine⟨zy,?_⟩
      rw[<- hL1m];exact AJ [(18,18),(17,17),(19,19),(20,20),(21,21)] [] zz (by simp[AC,hRc])
     refine AT ?_
     refine As (ι:=Nat × List (List AV)) (λ s=>⟨119,[(2,.pv (nC ⟨N,A⟩)),(7,.rs 18 0 A.length),(8,.rs 17 0 W.length),(9,.rs 19 0 L1),(10,.mp 20),(11,.pt 21 0 0),(13,.I k),(30,.I vl),(31,.I W.length),(90,.rs 19 k m),(91,.I m),(92,.I s.1)],[(18,some ⟨1,AE g2,0⟩),(17,some ⟨1,W.map λ w=>[AA (Ak w)],0⟩),(19,some ⟨1,AE V2,0⟩),(20,some ⟨0,s.2,0⟩),(21,some ⟨1,[[.I t]],0⟩)],2300⟩)
      (λ s=>s.1<=m/\CV s.2 (EG A l (d.take s.1))) (λ s=>m - s.1) (0,R) ⟨Qn _,by rw[List.take_zero,cQ];exact hR⟩ (AJ [(18,18),(17,17),(19,19),(20,20),(21,21)] [] zz (by simp[AC,hRc])) ?_
     clear hRc hfind
     rintro⟨q,R⟩ ⟨hq,hR⟩
     simp only at hq hR;have hRc:=λ ρ sn h=>hR.conv' ρ sn h
     refine arc ⟨119,[(2,.pv (nC ⟨N,A⟩)),(7,.rs 18 0 A.length),(8,.rs 17 0 W.length),(9,.rs 19 0 L1),(10,.mp 20),(11,.pt 21 0 0),(13,.I k),(30,.I vl),(31,.I W.length),(90,.rs 19 k m),(91,.I m),(92,.I q),(93,.B (decide (q<m)))],[(18,some ⟨1,AE g2,0⟩),(17,some ⟨1,W.map λ w=>[AA (Ak w)],0⟩),(19,some ⟨1,AE V2,0⟩),(20,some ⟨0,R,0⟩),(21,some ⟨1,[[.I t]],0⟩)],2400⟩ ?_ ?_
     .simp
      exact AJ [(18,18),(17,17),(19,19),(20,20),(21,21)] [] zz (by simp[AC,hRc])
     refine AB (AI _ rfl (λ h29=>?_) λ h29=>?_)
     .rw [Qf] at h29
      have hqd:q<d.length:=zy
      have hVq:=hVd q hqd;have hdq:=hdm q hqd;obtain⟨a,ha⟩:=AR (d[q]);rw[<- ha] at hVq hdq;have hdt:d.take (q+1)=d.take q++[a]:=by rw[ha];exact Ql hqd
      have hwq:=wq (k:=q);have hA1:A[a]? = some A[a]:=Qa hdq;have ha1:(0:Int)<=a/\(a:Int)<A.length:=zy
      have hR3:CV (Bn A[a].t R) (EG A l (d.take (q+1))):=hR.del A[a].t (by rw[hdt,Z8,IC hdq])
      obtain⟨R3,hR3d⟩:=AR (Bn A[a].t R);rw[<- hR3d] at hR3;have hR3c:=λ ρ sn h=>hR3.conv' ρ sn h
      refine AN (AB (AT (arc ⟨119,[(2,.pv (nC ⟨N,A⟩)),(7,.rs 18 0 A.length),(8,.rs 17 0 W.length),(9,.rs 19 0 L1),(10,.mp 20),(11,.pt 21 0 0),(13,.I k),(16,.I a),(30,.I vl),(31,.I W.length),(90,.rs 19 k m),(91,.I m),(92,.I q)],[(18,some ⟨1,AE g2,0⟩),(17,some ⟨1,W.map λ w=>[AA (Ak w)],0⟩),(19,some ⟨1,AE V2,0⟩),(20,some ⟨0,R,0⟩),(21,some ⟨1,[[.I t]],0⟩)],2500⟩ ?_ ?_)))
      .simp [h29,hVq]
       exact AJ [(18,18),(17,17),(19,19),(20,20),(21,21)] [] zz (by simp[AC,hRc])
      refine Ap rfl ?_;simp[ha1,hA1,hdq];rw[<- hR3d];refine Ap rfl ?_;simp;exact⟨q+1,R3,⟨zy,hR3⟩,zy,AJ [(18,18),(17,17),(19,19),(20,20),(21,21)] [] (by simp[hwq]) (by simp[AC,hR3c])⟩
     rw[Qd] at h29;obtain rfl:q=m:=zy
     rw[Qb zy] at hR
     have hR4:CV (A7 t (.I (k:Int)) R) (B9 A (l.take k)):=hR.set t k (by
      rw[hback]
      funext x
      unfold EG
      rw[hd,ht])
     obtain⟨R4,hR4d⟩:=AR (A7 t (.I (k:Int)) R);have hR4c:=λ ρ sn h=>hR4.conv' ρ sn h
     rw[<- hR4d] at hR4;refine Ar (hit (Ap rfl ?_));simp;refine⟨zy,?_⟩
     refine Ap rfl ?_;simp;refine rk (s:=?s33) [2,7,8,9,10,30,31,111] [18,17,19,20] rfl ?o33 ?q33
     case o33=>simp;rfl
     refine Ap rfl ?_;simp;have hlk:(l.take k).length=k:=by rw[QU];omega
     refine⟨⟨l.take k,t,g2,V2,R4⟩,⟨hl2,?_,by simp only[hlk];omega,hR4⟩,htot,AJ [(18,18),(17,17),(19,19),(20,20),(2480,21)] [] (by simp[hlk]) (by simp[AC,hR4c,hR4d])⟩
     simp only[hlk];rw[hV2,Ud (by rw[IJ];exact hkl)]
     unfold Ak;rw[UX]
  rw[Qd,Decidable.not_not] at h18;subst h18;have hT2:=hT.more hL;have hcl2:=Gy (Ak l) (by rw[IJ];omega)
  have hwW:IntKind.i64.wrap ((W.length:Int)+1)=((W.length+1:Nat):Int):=by rw[w6];omega
  refine Ar (hit (Ap rfl ?_));simp;refine JU [19] hcl2 (by simp[AC,htV,hVl,IJ]) (.rs _ _ _) Na ?_
  simp[htW];refine⟨zy,zy,?_⟩
  refine Ap rfl ?_;simp;refine⟨⟨W++[l],g⟩,⟨hT2,by simp only[Qm,QT];omega,λ w hw=>?_⟩,by simp only[Qm,QT];omega,AJ [(18,18),(1232,17)] [1216] (by simp[hwW]) (by simp[AC,B7])⟩
  rcases Qo.1 hw with h | h
  .exact hWl w h
  .rw [Qt] at h
   subst h;omega
 rw[Qd] at h13;refine Ar (hit (arc ⟨119,[(4,.vs 1 false (W.map λ w=>[AA (Ak w)])),(5,.I 0)],[],1500⟩ ?_ ?_))
 .simp
  exact AJ [] [17] (by simp[htW,AC])
 exact A9 (FF.mk (.inr rfl) W ⟨⟨g0,hT⟩,zy,hWl⟩ (AW.out [] [] rfl zz zz zz zz))
variable {α:Type}
abbrev OF (r:Int × List Int):AV:=.agg [.I r.1,AA r.2]
theorem bC (f:FuncId) (aA:List AV) (q:Int × List Int->Bool) (l:List (Int × List Int)) (hl:l.length<=1099511627776) (hs:E0 aA) (hc:∀ e∈l,AK f (OF e::aA) [] (.B (q e)) []):AK 80 [.vs 2 false (CY l),.fn (.func f) [] aA] [] (.I (BU l q)) []:=by
 have h0:∀ ρ sn h,aA.map (conv ρ sn h 2)=aA:=λ _ _ _=>hs _ _ _ 1
 have h1:∀ ρ sn h,aA.map (conv ρ sn h 3)=aA:=λ _ _ _=>hs _ _ _ 2
 have h2:∀ ρ sn h,aA.map (conv ρ sn h 4)=aA:=λ _ _ _=>hs _ _ _ 3
 refine tS.s.ac ?_;show Ad _ 0 _ _ ⟨19,[(0,.vs 2 false (CY l)),(1,.fn (.func f) [] aA)],[],16⟩;refine AB (AY ?_);refine AB (AB (AY ?_));refine AT (As (ι:=Nat) (λ k=>⟨19,[(0,.vs 2 false (CY l)),(1,.fn (.func f) [] aA),(7,.I l.length),(8,.I k)],[],16⟩) (λ k=>k<=l.length /\ ∀ i,i<k -> ∀ h:i<l.length,q l[i]=false) (λ k=>l.length - k) (0) ?_ (A5 [] (by simp[h0,h1,h2])) ?_)
 .simp
 rintro k ⟨hk,hp⟩
 refine AB (AY ?_);refine AB (AI _ rfl (λ h4=>?_) λ h4=>?_)
 .try simp at h4
  have u:=w6 (x:=((k:Int)+1));have h5:=hc l[k] (Qj h4);refine AN (AB (AT (AB (Al (s:=?s5) rfl ?o5 ?q5))))
  case o5=>simp[h4,u];rfl
  refine AB (Al (s:=?s6) rfl ?o6 ?q6)
  case o6 =>
   simp[h4,u];refine A4 h5 ?_ ?_
   .simp [h0,h1,h2]
   simp[h4,u];rfl
  refine AI _ rfl (λ h7=>?_) λ h7=>?_
  .try simp at h7
   refine AB (Al (s:=?s8) rfl ?o8 ?q8)
   case o8=>simp[h4,u];rfl
   exact A8 (AW.one (by simp[Lc h4 hp h7]))
  try simp at h7
  refine AN (Al (s:=?s9) rfl ?o9 ?q9)
  case o9=>simp[h4,u];rfl
  refine⟨k+1,⟨h4,λ i hi=>?_⟩,zy,A5 [] (by simp[h4,u,h0,h1,h2])⟩
  rcases QI.1 hi with h | rfl
  .exact hp i h
  .exact λ _=>h7
 try simp at h4
 have h3:∀ i,i<l.length -> ∀ h:i<l.length,q l[i]=false:=λ i hi=>hp i zy
 refine Ar (hit (AB (AY ?_)));exact A8 (AW.one (by simp[Lr h3]))
theorem cF (r:Int × List Int) (k:Int):AK 81 [OF r,.pv [.I k]] [] (.B (decide (r.1=k))) []:=by
 refine rP.s.ac ?_;show Ad _ 0 _ _ ⟨8,[(0,OF r),(1,.pv [.I k])],[],16⟩;refine A2 ⟨8,[(1,.pv [.I k]),(2,.pv [.I r.1,AA r.2])],[],100⟩ [] [16] ?_;refine arc ⟨8,[(3,.B (decide (r.1=k)))],[],200⟩ ?_ ?_
 .simp
  exact AJ [] [] (by simp<;>exact BA (by rw[Qv];simp))
 exact Ca
theorem tO (g:Gr) (N:Int) (A:List Ed) (w:List Int) (hA:A.length<=1000000) (hw:w.length<=1000000):AK 123 [AA w,.pv (gC g),.pv (nC ⟨N,A⟩)] [] (.tup [AA (Ew g.size A w),.I (Fr g.size A w)]) []:=by
 refine rL.s.ac ?_;show Ad _ 0 _ _ ⟨14,[(0,AA w),(1,.pv (gC g)),(2,.pv (nC ⟨N,A⟩))],[],16⟩;have hk:=n9 g.size A w hA hw;refine A2 ⟨14,[(0,AA w),(1,.pv (gC g)),(2,.pv (nC ⟨N,A⟩))],[],100⟩ [] [] ?_;refine arc ⟨14,[(4,AA (Ew g.size A w)),(5,.I (Fr g.size A w))],[],200⟩ ?_ ?_
 .simp
  refine A0 hk ?_;simp;exact BP [] []
 exact Bx [] []
def EJ {α:Type} (l:List α) (i:Nat):List α:=l.take i
theorem Pq (l:List α):EJ l 0=[]:=rfl
theorem WW {l:List α} {i:Nat} (h:i<l.length):EJ l (i+1)=EJ l i++[l[i]]:=Ql h
theorem OP {l:List α} {i:Nat} (h:i<=l.length):(EJ l i).length=i:=by unfold EJ;rw[QU];omega
theorem Tc (l:List α):EJ l l.length=l:=QW
theorem pU (f:FuncId) (aA:List AV) (F:List Int->List Int) (W:List (List Int)) (hW:W.length<=1000000000000) (hs:E0 aA) (hc:∀ w∈W,AK f (AA w::aA) [] (.tup [AA (F w),.I 0]) []) :
  AK 122 [Cx W,.fn (.func f) [] aA] [] (.tup [Cx (W.map F),.I 0]) []:=by
 have h2:∀ ρ sn h,aA.map (conv ρ sn h 2)=aA:=λ _ _ _=>hs _ _ _ 1
 have q:∀ ρ sn h,aA.map (conv ρ sn h 3)=aA:=λ _ _ _=>hs _ _ _ 2
 have h3:∀ ρ sn h,aA.map (conv ρ sn h 4)=aA:=λ _ _ _=>hs _ _ _ 3
 refine mQ.s.ac ?_;show Ad _ 0 _ _ ⟨32,[(0,Cx W),(1,.fn (.func f) [] aA)],[],16⟩;refine arc ⟨32,[(0,Cx W),(1,.fn (.func f) [] aA)],[],100⟩ ?_ ?_
 .simp
  exact AJ [] [] (by simp[q])
 refine arc ⟨32,[(0,Cx W),(1,.fn (.func f) [] aA),(6,.nilS)],[],200⟩ ?_ ?_
 .simp
  exact AJ [] [] (by simp[q])
 refine AB (arc ⟨32,[(1,.fn (.func f) [] aA),(6,.nilS),(11,Cx W),(12,.I W.length),(13,.I 0)],[],300⟩ ?_ ?_)
 .simp
  exact AJ [] [] (by simp[q])
 refine AT ?_
 refine As (ι:=Nat) (λ i=>⟨32,[(1,.fn (.func f) [] aA),(6,.rs 17 0 i),(11,Cx W),(12,.I W.length),(13,.I i)],[(17,some ⟨1,(EJ W i).map λ w=>[AA (F w)],0⟩)],300⟩)
  (λ i=>i<=W.length) (λ i=>W.length - i) 0 (Qn _) (Le.lst [] [] [(17,1)] rfl zz zz zz zz zz zz zz (by simp[Up,q]) (by simp[Pq])) ?_
 intro i hi;have h0:(EJ W i).length=i:=OP hi;refine arc ⟨32,[(1,.fn (.func f) [] aA),(6,.rs 17 0 i),(11,Cx W),(12,.I W.length),(13,.I i),(14,.B (decide (i<W.length)))],[(17,some ⟨1,(EJ W i).map λ w=>[AA (F w)],0⟩)],400⟩ ?_ ?_
 .simp
  exact AJ [(17,17)] [] (by simp[q]) (by simp[AC])
 refine AB (AI _ rfl (λ h5=>?_) λ h5=>?_)
 .rw [Qf] at h5
  have h4:=wq (k:=i);have h1:=hc W[i] (Qj h5);have u:=WW h5;obtain⟨w,hw⟩:=AR (W[i]);rw[<- hw] at h1 u;obtain⟨T,hT⟩:=AR (EJ W i);rw[<- hT] at h0 u ⊢;have h6:∀ h:List Int->List AV,List.take i (List.map h T)=List.map h T:=λ h=>Qb zw
  refine AN (AB (AT (arc ⟨32,[(1,.fn (.func f) [] aA),(6,.rs 17 0 i),(8,AA w),(11,Cx W),(12,.I W.length),(13,.I i)],[(17,some ⟨1,T.map λ w=>[AA (F w)],0⟩)],500⟩ ?_ ?_)))
  .simp [h5,<- hw]
   exact AJ [(17,17)] [] (by simp[q]) (by simp[AC])
  refine arc ⟨32,[(1,.fn (.func f) [] aA),(6,.rs 17 0 i),(9,AA (F w)),(10,.I 0),(11,Cx W),(12,.I W.length),(13,.I i)],[(17,some ⟨1,T.map λ w=>[AA (F w)],0⟩)],600⟩ ?_ ?_
  .simp
   refine A4 h1 ?_ ?_
   .simp [h2,q,h3]
   simp;exact AJ [(17,17)] [] (by simp[q]) (by simp[AC])
  refine AB (arc ⟨32,[(1,.fn (.func f) [] aA),(6,.rs 17 0 i),(9,AA (F w)),(11,Cx W),(12,.I W.length),(13,.I i),(24,.B false)],[(17,some ⟨1,T.map λ w=>[AA (F w)],0⟩)],700⟩ ?_ ?_)
  .simp
   exact AJ [(17,17)] [] (by simp[q]) (by simp[AC])
  refine AI _ rfl (λ h=>by cases h) λ _=>?_
  refine AN (Ap rfl ?_);simp[h6,h0];refine⟨zy,zy,?_⟩
  refine Ap rfl ?_;simp;exact⟨i+1,h5,zy,AJ [(724,17)] [] (by simp[q,h4]) (by simp[u,AC])⟩
 rw[Qd] at h5;obtain rfl:i=W.length:=zy
 rw[Tc];refine Ar (hit ?_);have h7:∀ h:List Int->List AV,List.take W.length (List.map h W)=List.map h W:=λ h=>Qb zz
 refine arc ⟨32,[(4,.vs 1 false (W.map λ w=>[AA (F w)])),(5,.I 0)],[],600⟩ ?_ ?_
 .simp
  exact AJ [] [17] (by simp[h7,AC])
 exact A8 (AW.out [] [] rfl zz zz (by rw[show Cx (W.map F) = .vs 1 false (W.map λ w=>[AA (F w)]) from by simp[AC]];simp) zz)
theorem bU (f:FuncId) (aA:List AV) (F:Int->A6) (W:List Int) (hW:W.length<=1000000000000) (hs:E0 aA) (hc:∀ w∈W,AK f (.I w::aA) [] (.tup [eX (F w),.I 0]) []) :
  AK 38 [AA W,.fn (.func f) [] aA] [] (.tup [CK (W.map F),.I 0]) []:=by
 have h2:∀ ρ sn h,aA.map (conv ρ sn h 2)=aA:=λ _ _ _=>hs _ _ _ 1
 have q:∀ ρ sn h,aA.map (conv ρ sn h 3)=aA:=λ _ _ _=>hs _ _ _ 2
 have h3:∀ ρ sn h,aA.map (conv ρ sn h 4)=aA:=λ _ _ _=>hs _ _ _ 3
 refine kG.s.ac ?_;show Ad _ 0 _ _ ⟨32,[(0,AA W),(1,.fn (.func f) [] aA)],[],16⟩;refine arc ⟨32,[(0,AA W),(1,.fn (.func f) [] aA)],[],100⟩ ?_ ?_
 .simp
  exact AJ [] [] (by simp[q])
 refine arc ⟨32,[(0,AA W),(1,.fn (.func f) [] aA),(6,.nilS)],[],200⟩ ?_ ?_
 .simp
  exact AJ [] [] (by simp[q])
 refine AB (arc ⟨32,[(1,.fn (.func f) [] aA),(6,.nilS),(11,AA W),(12,.I W.length),(13,.I 0)],[],300⟩ ?_ ?_)
 .simp
  exact AJ [] [] (by simp[q])
 refine AT ?_
 refine As (ι:=Nat) (λ i=>⟨32,[(1,.fn (.func f) [] aA),(6,.rs 17 0 i),(11,AA W),(12,.I W.length),(13,.I i)],[(17,some ⟨5,(EJ W i).map λ w=>xE (F w),0⟩)],300⟩)
  (λ i=>i<=W.length) (λ i=>W.length - i) 0 (Qn _) (Le.lst [] [] [(17,5)] rfl zz zz zz zz zz zz zz (by simp[Up,q]) (by simp[Pq])) ?_
 intro i hi;have h0:(EJ W i).length=i:=OP hi;refine arc ⟨32,[(1,.fn (.func f) [] aA),(6,.rs 17 0 i),(11,AA W),(12,.I W.length),(13,.I i),(14,.B (decide (i<W.length)))],[(17,some ⟨5,(EJ W i).map λ w=>xE (F w),0⟩)],400⟩ ?_ ?_
 .simp
  exact AJ [(17,17)] [] (by simp[q]) (by simp[AC])
 refine AB (AI _ rfl (λ h5=>?_) λ h5=>?_)
 .rw [Qf] at h5
  have h4:=wq (k:=i);have h1:=hc W[i] (Qj h5);have u:=WW h5;obtain⟨w,hw⟩:=AR (W[i]);rw[<- hw] at h1 u;obtain⟨T,hT⟩:=AR (EJ W i);rw[<- hT] at h0 u ⊢;have h6:∀ h:Int->List AV,List.take i (List.map h T)=List.map h T:=λ h=>Qb zw
  refine AN (AB (AT (arc ⟨32,[(1,.fn (.func f) [] aA),(6,.rs 17 0 i),(8,.I w),(11,AA W),(12,.I W.length),(13,.I i)],[(17,some ⟨5,T.map λ w=>xE (F w),0⟩)],500⟩ ?_ ?_)))
  .simp [h5,<- hw]
   exact AJ [(17,17)] [] (by simp[q]) (by simp[AC])
  refine arc ⟨32,[(1,.fn (.func f) [] aA),(6,.rs 17 0 i),(9,.pv (xE (F w))),(10,.I 0),(11,AA W),(12,.I W.length),(13,.I i)],[(17,some ⟨5,T.map λ w=>xE (F w),0⟩)],600⟩ ?_ ?_
  .simp
   refine A4 h1 ?_ ?_
   .simp [h2,q,h3]
   simp[Ax];exact AJ [(17,17)] [548] (by simp[q]) (by simp[AC])
  refine AB (arc ⟨32,[(1,.fn (.func f) [] aA),(6,.rs 17 0 i),(9,.pv (xE (F w))),(11,AA W),(12,.I W.length),(13,.I i),(24,.B false)],[(17,some ⟨5,T.map λ w=>xE (F w),0⟩)],700⟩ ?_ ?_)
  .simp
   exact AJ [(17,17)] [] (by simp[q]) (by simp[AC])
  refine AI _ rfl (λ h=>by cases h) λ _=>?_
  refine AN (Ap rfl ?_);simp[h6,h0];refine⟨zy,zy,?_⟩
  refine Ap rfl ?_;simp;exact⟨i+1,h5,zy,AJ [(724,17)] [] (by simp[q,h4]) (by simp[u,AC])⟩
 rw[Qd] at h5;obtain rfl:i=W.length:=zy
 rw[Tc];refine Ar (hit ?_);have h7:∀ h:Int->List AV,List.take W.length (List.map h W)=List.map h W:=λ h=>Qb zz
 refine arc ⟨32,[(4,.vs 5 false (W.map λ w=>xE (F w))),(5,.I 0)],[],600⟩ ?_ ?_
 .simp
  exact AJ [] [17] (by simp[h7,AC])
 exact A8 (AW.out [] [] rfl zz zz (by rw[show CK (W.map F) = .vs 5 false (W.map λ w=>xE (F w)) from by simp[AC]];simp) zz)
theorem lL (g:Gr) (p:Aq) (ks:List Int) (hg:AG g) (hp:BD g.size p) (hs:p.seeds.length<=64) (hk:ks.Nodup) (hr:∀ k∈ks,0<=k/\k<g.size) :
  ∃ W,LS g p ks W/\AK 79 [eG g,eP p,AA ks] [] (.tup [Cx (W.map (B5 (Ah g p (Am ks)))),.I 0]) []:=by
 have ha:=hg.1.1;have h4:=hg.1.2.1;have h5:∀ k∈ks,0<=k/\k<64:=λ k h=>by have:=hr k h;omega
 have hb:=LB hk h5;have hc:=Hj ks;have hq:ks.length<=64:=zy
 have h6:=L9 (Hc hr);have h0:AK 85 [FH ks] [] (.rs 0 0 ks.length) [some ⟨1,AE (Dl ks),0⟩]:=IY ks zy
 rw[JM hk h5,<- hb] at h0;have h3:=Mi g p (Am ks) hg hp (Hc hr) hs hc;rw[<- LY hg,show Cv g p (Ao g p) (Am ks)=Ah g p (Am ks) from rfl] at h3
 have h7:=MB hg hp h6 hs hc;have hd:=Ju hg hp h6;obtain⟨f,hf,he⟩:=Wl _ _ h7;have h8:MD g p (Am ks) f:=⟨hf.1,hf.2,(Hk hf.1 hf.2).symm⟩;obtain⟨W,⟨⟨g',hT⟩,hj,hh⟩,q⟩:=bM _ _ f h7 hf.1 (by unfold A1;omega)
 have hR:LS g p ks W:=⟨f,g',h8,hT,by rw[hj,h8.val],hh⟩
 have ho:W.length<=64:=by
  have:=IW hg hp h6;have h2:=h8.val;omega
 refine⟨W,hR,?_⟩;have hi:=hf.1.fit.len;have hl:=h7.2.2.1;simp only at hl
 have h9:∀ w∈W.map Ak,AK 123 [AA w,.pv (gC g),.pv (nC ⟨(A1 g:Nat),Ah g p (Am ks)⟩)] [] (.tup [AA (Ew g.size (Ah g p (Am ks)) w),.I 0]) []:=λ w hw=>by
  obtain⟨v,hv,rfl⟩:=Qh.1 hw;have h1:=tO g (A1 g:Nat) (Ah g p (Am ks)) (Ak v) zy (by rw[IJ];have:=hh v hv;omega)
  rw[(WP ha h4 hd (hT.ways v hv).1).1] at h1;exact h1
 have u:=pU 123 [.pv (gC g),.pv (nC ⟨(A1 g:Nat),Ah g p (Am ks)⟩)] (Ew g.size (Ah g p (Am ks))) (W.map Ak) (by rw[QB];omega) (λ ρ sn h k=>zz) h9
 have hm:(W.map Ak).map (Ew g.size (Ah g p (Am ks)))=W.map (B5 (Ah g p (Am ks))):=by
  rw[Ub];exact Q7 λ w hw=>(WP ha h4 hd (hT.ways w hw).1).2
 rw[hm] at u;rw[show AV.vs 1 false (W.map λ w=>[AA (Ak w)])=Cx (W.map Ak) from by simp[AC]] at q
 obtain⟨X,hX⟩:=AR (W.map Ak);rw[<- hX] at u q;obtain⟨J,hJ⟩:=AR (Am ks);obtain⟨A,hA⟩:=AR (Ah g p (Am ks));obtain⟨N,hN⟩:=AR (A1 g);rw[<- hA,<- hN] at h3 he q u;rw[<- hA] at hi ⊢;rw[<- hJ] at h3 h0;have hn:∀ h:Int->List AV,List.take A.length (List.map h f)=List.map h f:=λ h=>Qb zw
 refine qK.s.ac ?_;show Ad _ 0 _ _ ⟨46,[(0,eG g),(1,eP p),(2,AA ks)],[],16⟩;refine rs [2,3,4] [] [16,24] ?_;refine Cd ⟨46,[(3,.pv (gC g)),(8,.pv (nC ⟨N,A⟩)),(9,.I 0)],[],300⟩ ?_ ?_
 .simp
  refine A0 (I4 ks) ?_;simp;refine Fm h0 (by simp[conv]) ?_
  simp;refine IU [80] zz h3 (by simp[AC,B7]) ?_
  simp[Ax];exact⟨rfl,BP [] [120]⟩
 refine AB (A2 ⟨46,[(3,.pv (gC g)),(8,.pv (nC ⟨N,A⟩)),(22,.B false)],[],400⟩ [] [] ?_);refine AI _ rfl (λ h=>by cases h) λ _=>?_
 refine AN (arc ⟨46,[(3,.pv (gC g)),(8,.pv (nC ⟨N,A⟩)),(9,.I 0),(10,.rs 33 0 A.length)],[(33,some ⟨1,AE f,0⟩)],500⟩ ?_ ?_)
 .simp
  refine Ct he ?_;simp;exact CO [(408,33)] []
 refine AB (A2 ⟨46,[(3,.pv (gC g)),(8,.pv (nC ⟨N,A⟩)),(10,.rs 33 0 A.length),(30,.B false)],[(33,some ⟨1,AE f,0⟩)],600⟩ [(33,33)] [] ?_);refine AI _ rfl (λ h=>by cases h) λ _=>?_
 refine AN (arc ⟨46,[(3,.pv (gC g)),(8,.pv (nC ⟨N,A⟩)),(9,.I 0),(11,Cx X)],[],700⟩ ?_ ?_)
 .simp
  refine IU [33] zz q (by simp[AC,hn,hi]) ?_
  simp;exact BB [] []
 refine AB (A2 ⟨46,[(3,.pv (gC g)),(8,.pv (nC ⟨N,A⟩)),(11,Cx X),(39,.B false)],[],800⟩ [] [] ?_);refine AI _ rfl (λ h=>by cases h) λ _=>?_
 refine AN ?_;obtain⟨Y,hY⟩:=AR (W.map (B5 A));rw[<- hY] at u ⊢;refine arc ⟨46,[(6,Cx Y),(7,.I 0)],[],900⟩ ?_ ?_
 .simp
  refine A0 u ?_;simp;exact BP [] []
 exact Bx [] []
theorem lH (g:Gr) (p:Aq) (hg:AG g) (hN:g.size<20) (hs:p.seeds.length<=1099511627776):AK 37 [eG g,eP p] [] (.rs 0 0 (AL (AO g p.lv) p.seeds).length) [some ⟨1,AE (AL (AO g p.lv) p.seeds),0⟩]:=by
 refine gY.s.ac ?_;show Ad _ 0 _ _ ⟨12,[(0,eG g),(1,eP p)],[],16⟩;have h0:=hg.edges_le;have h1:=hg.gone_le;have h2:=hg.1.2.1;have u:=Ij g p.lv zy zy
 have q:=NK (g:=AO g p.lv) (S:=p.seeds) (hg.level p.lv) (.inl hN) hs;obtain⟨o,ho⟩:=AR (AL (AO g p.lv) p.seeds);rw[<- ho] at q ⊢;refine rs [2,3] [] [16,24] ?_;refine Cd ⟨12,[(4,.rs 50 0 o.length)],[(50,some ⟨1,AE o,0⟩)],200⟩ ?_ ?_
 .simp
  refine A0 u ?_;simp;refine Ct q ?_;simp;exact⟨rfl,CO [(88,50)] []⟩
 exact Bx [50] []
theorem rF {R:List (Int × List Int)} {key:Int} {side:List Int} (h:(key,side)∈R):∃ j,∃ hj:j<R.length,BU R (λ r=>decide (r.1=key))=(j:Int)/\R[j].1=key:=by
 have q:R.findIdx (λ r=>decide (r.1=key))<R.length:=List.findIdx_lt_length_of_exists ⟨_,h,zz⟩
 refine⟨_,q,by unfold BU;rw[if_pos q],?_⟩
 have:=Vd (w:=q)
 simpa using this
open Classical in
theorem pN (g:Gr) (p:Aq) (fl:List Int) (key:Int) (hg:AG g) (hp:BD g.size p) (hs:p.seeds.length<=64) (u:key∈AL (AO g p.lv) p.seeds) :
  ∃ x,CE g p (AL (AO g p.lv) p.seeds) key x/\AK 40 [eG g,eP p,Ei (AM g p (AL (AO g p.lv) p.seeds)) fl (Bc g p (AL (AO g p.lv) p.seeds)),AA (AL (AO g p.lv) p.seeds),.I key] [] (.tup [eX x,.I 0]) []:=by
 refine Z0.s.acallsX (args:=[eG g,eP p,Ei (AM g p (AL (AO g p.lv) p.seeds)) fl (Bc g p (AL (AO g p.lv) p.seeds)),AA (AL (AO g p.lv) p.seeds),.I key]) (hs:=[]) (λ x=>.tup [eX x,.I 0]) (λ _=>[]) (λ x:A6=>CE g p (AL (AO g p.lv) p.seeds) key x) (Bf rfl) (Bf rfl) (λ _=>Qk _) ?_;have a6:=hg.1.1;have b4:=hg.1.2.1;obtain⟨R',hR⟩:∃ R',FZ g p (AL (AO g p.lv) p.seeds) R':=⟨_,Zn hg hp hs _ _ rfl λ k hk=>by have h:=HN hk;exact h⟩
 have ht:=hR.eq;subst ht;have hu:=GJ (AO g p.lv) p.seeds;have hv:=λ ks=>lL g p ks hg hp hs;obtain⟨o,ho⟩:=AR (AL (AO g p.lv) p.seeds);have a7:∀ k∈o,0<=k/\k<g.size:=λ k hk=>by rw[ho] at hk;have h:=HN hk;exact h
 have a8:o.length<=64:=by
  have h1:=I1 (g:=AO g p.lv) (S:=p.seeds) a6;have h2:(AO g p.lv).size=g.size:=rfl;rw[<- ho] at h1;omega
 rw[<- ho] at hR u hu ⊢;obtain⟨R,a9⟩:=AR (Bc g p o);rw[<- a9] at hR ⊢;have b5:=hR.len;obtain⟨acc,q⟩:=AR (AM g p o);rw[<- q];have b6:acc.length<=64:=by rw[q];exact QF (Jl o) a8
 have hA:=λ k=>oD acc fl R k zy
 obtain⟨i0,h6⟩:=AR (o.idxOf key);have h0:i0<o.length:=by rw[h6];exact List.idxOf_lt_length_of_mem u
 have h7:o[i0]=key:=by
  have:o[o.idxOf key]'(List.idxOf_lt_length_of_mem u)=key:=List.getElem_idxOf _;simp only[h6];exact this
 have he:=N0 o key zy
 rw[show CZ o key=(i0:Int) by unfold CZ;rw[if_pos u,h6]] at he
 obtain⟨T,hT⟩:=AR (EJ o i0);have ag:T.length=i0:=by rw[hT];exact OP zy
 have ai:∀ (i:Nat) (h:i<T.length),∃ h2:i<o.length,T[i]=o[i]:=λ i h=>by
  have h2:i<o.length:=zy
  refine⟨h2,?_⟩;have e:T[i]? = o[i]?:=by rw[hT];unfold EJ;rw[List.getElem?_take_of_lt zy]
  rw[Qa h,Qa h2] at e;exact Qc e
 have an:∀ h:Int->List AV,List.take i0 (List.map h o)=List.map h T:=λ h=>by rw[hT];unfold EJ;rw[UX]
 obtain⟨ac,h8⟩:=AR (decide (key∈acc));have hw:=hA key;rw[show @decide (key∈acc) (List.instDecidableMemOfLawfulBEq key acc)=ac by rw[h8]] at hw
 show Ad _ 0 _ _ ⟨76,[(0,eG g),(1,eP p),(2,Ei acc fl R),(3,AA o),(4,.I key)],[],16⟩;refine A2 ⟨76,[(3,AA o),(5,.pv (gC g)),(6,.pv (pC p)),(7,.pv [AA acc,AA fl,.vs 2 false (CY R)]),(9,.pv [.I key]),(10,.pt 48 0 0)],[(48,some ⟨5,[[.I 0,.B false,.nilS,.nilS,.nilS]],0⟩)],100⟩ [(48,48)] [16,24,32,40] ?_;refine Cd ⟨76,[(3,AA o),(5,.pv (gC g)),(6,.pv (pC p)),(7,.pv [AA acc,AA fl,.vs 2 false (CY R)]),(9,.pv [.I key]),(10,.pt 48 0 0),(12,.pt 50 0 0)],[(48,some ⟨5,[[.I 0,.B false,.nilS,.nilS,.nilS]],0⟩),(50,some ⟨5,[[.I key,.B ac,.nilS,.nilS,.nilS]],0⟩)],200⟩ ?_ ?_
 .simp
  refine A0 hw ?_;simp[Ax];exact⟨rfl,BP [(48,48),(140,50)] []⟩
 refine AB (arc ⟨76,[(5,.pv (gC g)),(6,.pv (pC p)),(7,.pv [AA acc,AA fl,.vs 2 false (CY R)]),(9,.pv [.I key]),(10,.pt 48 0 0),(12,.pt 50 0 0),(27,AA T),(28,.I T.length),(29,.I 0)],[(48,some ⟨5,[[.I 0,.B false,.nilS,.nilS,.nilS]],0⟩),(50,some ⟨5,[[.I key,.B ac,.nilS,.nilS,.nilS]],0⟩)],300⟩ ?_ ?_)
 .simp
  refine A0 he ?_;simp[h0];exact⟨zy,AJ [(48,48),(50,50)] [] (by simp[an,ag,Nat.le_of_lt h0])⟩
 refine AT ?_
 refine As (ι:=Nat) (λ i=>⟨76,[(5,.pv (gC g)),(6,.pv (pC p)),(7,.pv [AA acc,AA fl,.vs 2 false (CY R)]),(9,.pv [.I key]),(10,.pt 48 0 0),(12,.pt 50 0 0),(27,AA T),(28,.I T.length),(29,.I i)],[(48,some ⟨5,[[.I 0,.B false,.nilS,.nilS,.nilS]],0⟩),(50,some ⟨5,[[.I key,.B ac,.rs 51 0 (BR o acc i).length,.nilS,.nilS]],0⟩),(51,some ⟨1,AE (BR o acc i),0⟩)],300⟩)
  (λ i=>i<=T.length) (λ i=>T.length - i) 0 (Qn _)
  (Le.lst [(48,48),(50,50)] [] [(51,1)] rfl zz zz zz zz zz zz zz (by simp[Up]) (by simp[BR,AC];exact⟨An.rfl' zz,An.row rfl zy (by simp[D9,Up,Wk.refl])⟩)) ?_
 intro i hi;have hy:=oM o acc i;refine A2 ⟨76,[(5,.pv (gC g)),(6,.pv (pC p)),(7,.pv [AA acc,AA fl,.vs 2 false (CY R)]),(9,.pv [.I key]),(10,.pt 48 0 0),(12,.pt 50 0 0),(27,AA T),(28,.I T.length),(29,.I i),(30,.B (decide (i<T.length)))],[(48,some ⟨5,[[.I 0,.B false,.nilS,.nilS,.nilS]],0⟩),(50,some ⟨5,[[.I key,.B ac,.rs 51 0 (BR o acc i).length,.nilS,.nilS]],0⟩),(51,some ⟨1,AE (BR o acc i),0⟩)],400⟩ [(48,48),(50,50),(51,51)] [] ?_;refine AB (AI _ rfl (λ h5=>?_) λ h5=>?_)
 .rw [Qf] at h5
  have au:=wq (k:=i);obtain⟨av,hz⟩:=ai i h5;have h9:=Zh (o:=o) (acc:=acc) av;obtain⟨k,hk⟩:=AR (o[i]);rw[<- hk] at h9 hz;have b0:=hA k;refine AN (CX ⟨76,[(5,.pv (gC g)),(6,.pv (pC p)),(7,.pv [AA acc,AA fl,.vs 2 false (CY R)]),(9,.pv [.I key]),(10,.pt 48 0 0),(12,.pt 50 0 0),(27,AA T),(28,.I T.length),(29,.I i)],[(48,some ⟨5,[[.I 0,.B false,.nilS,.nilS,.nilS]],0⟩),(50,some ⟨5,[[.I key,.B ac,.rs 51 0 (BR o acc (i+1)).length,.nilS,.nilS]],0⟩),(51,some ⟨1,AE (BR o acc (i+1)),0⟩)],2000⟩ ?_ ?_)
  .refine AT (arc ⟨76,[(5,.pv (gC g)),(6,.pv (pC p)),(7,.pv [AA acc,AA fl,.vs 2 false (CY R)]),(9,.pv [.I key]),(10,.pt 48 0 0),(12,.pt 50 0 0),(14,.I k),(27,AA T),(28,.I T.length),(29,.I i)],[(48,some ⟨5,[[.I 0,.B false,.nilS,.nilS,.nilS]],0⟩),(50,some ⟨5,[[.I key,.B ac,.rs 51 0 (BR o acc i).length,.nilS,.nilS]],0⟩),(51,some ⟨1,AE (BR o acc i),0⟩)],500⟩ ?_ ?_)
   .simp [h5,hz]
    exact CO [(48,48),(50,50),(51,51)] []
   refine arc ⟨76,[(5,.pv (gC g)),(6,.pv (pC p)),(7,.pv [AA acc,AA fl,.vs 2 false (CY R)]),(9,.pv [.I key]),(10,.pt 48 0 0),(12,.pt 50 0 0),(14,.I k),(27,AA T),(28,.I T.length),(29,.I i),(35,.B (decide (k∈acc)))],[(48,some ⟨5,[[.I 0,.B false,.nilS,.nilS,.nilS]],0⟩),(50,some ⟨5,[[.I key,.B ac,.rs 51 0 (BR o acc i).length,.nilS,.nilS]],0⟩),(51,some ⟨1,AE (BR o acc i),0⟩)],600⟩ ?_ ?_
   .simp
    refine A0 b0 ?_;simp;exact CO [(48,48),(50,50),(51,51)] []
   refine AI _ rfl (λ ha=>?_) λ ha=>?_
   .rw [Qf] at ha
    rw[if_pos ha] at h9;rw[h9];obtain⟨E,hE⟩:=AR (BR o acc i);rw[<- hE] at hy ⊢;refine Ap rfl ?_;simp[B7,Ax];exact⟨zy,zy,CO [(48,48),(50,50),(632,51)] []⟩
   .rw [Qd] at ha
    rw[if_neg ha,Q0] at h9;rw[h9];exact AN (CO [(48,48),(50,50),(51,51)] [])
  refine Ap rfl ?_;simp;exact⟨i+1,h5,zy,AJ [(48,48),(50,50),(51,51)] [] (by simp[au]) (by simp[AC])⟩
 rw[Qd] at h5;obtain rfl:i=i0:=zy
 refine Ar (hit ?_);have b1:∀ x∈BR o acc i,x∈o:=λ x hx=>rH hx
 have hf:(BR o acc i++[key]).Sublist o:=by
  have h1:(BR o acc i).Sublist (o.take i):=List.filter_sublist;have h2:o.take i++[key]=o.take (i+1):=by rw[Ql h0,h7]
  have h3:=h1.append (List.Sublist.refl [key]);rw[h2] at h3;exact h3.trans (Vg _ _)
 have a0:(BR o acc i++[key]).Nodup:=hu.sublist hf;have a1:∀ x∈BR o acc i++[key],0<=x/\x<g.size:=λ x hx=>a7 x (hf.subset hx);obtain⟨E,hE⟩:=AR (BR o acc i);rw[<- hE] at hy b1 a0 a1 ⊢;refine AB (A2 ⟨76,[(5,.pv (gC g)),(6,.pv (pC p)),(7,.pv [AA acc,AA fl,.vs 2 false (CY R)]),(9,.pv [.I key]),(10,.pt 48 0 0),(12,.pt 50 0 0),(44,.B ac)],[(48,some ⟨5,[[.I 0,.B false,.nilS,.nilS,.nilS]],0⟩),(50,some ⟨5,[[.I key,.B ac,.rs 51 0 E.length,.nilS,.nilS]],0⟩),(51,some ⟨1,AE E,0⟩)],700⟩ [(48,48),(50,50),(51,51)] [] ?_);refine AI _ rfl (λ h4=>?_) λ h4=>?_
 .have a2:key∈acc:=by rw[h4] at h8;exact of_decide_eq_true h8.symm
  obtain⟨W,hW,hb⟩:=hv (E++[key]) a0 a1;have hq:=Gy E zy
  obtain⟨Y,hY⟩:=AR (W.map (B5 (Ah g p (Am (E++[key])))));rw[<- hY] at hb;refine Cd ⟨76,[(10,.pt 48 0 0),(12,.pt 50 0 0),(15,Cx Y),(16,.I 0)],[(48,some ⟨5,[[.I 0,.B false,.nilS,.nilS,.nilS]],0⟩),(50,some ⟨5,[[.I key,.B true,AA E,.nilS,.nilS]],0⟩)],900⟩ ?_ ?_
  .simp
   refine JU [51] hq (by simp[AC,B7]) (.rs _ _ _) Na ?_
   simp[B7];refine⟨zy,zy,?_⟩
   refine IU [756] zz hb (by simp[AC,B7];exact Qb zz) ?_
   simp;exact⟨rfl,AJ [(48,48),(50,50)] [51] zz (by simp[AC,B7,h4])⟩
  refine arc ⟨76,[(10,.pt 48 0 0),(12,.pt 50 0 0),(16,.I 0)],[(48,some ⟨5,[[.I 0,.B false,.nilS,.nilS,.nilS]],0⟩),(50,some ⟨5,[[.I key,.B true,AA E,Cx Y,.nilS]],0⟩)],1000⟩ ?_ ?_
  .simp [Ax]
   exact CO [(48,48),(50,50)] []
  refine arc ⟨76,[(10,.pt 48 0 0),(11,.I 0)],[(48,some ⟨5,[[.I key,.B true,AA E,Cx Y,.nilS]],0⟩)],1100⟩ ?_ ?_
  .simp [Ax]
   exact CO [(48,48)] []
  refine A9 ?_;rw[q] at a2;refine FF.mk (.inr rfl) ⟨key,true,E,Y,[]⟩ ⟨rfl,⟨i,h0,h7,by rw[<- q];exact hE⟩,λ _=>⟨rfl,rfl,W,hW,hY⟩,λ h=>absurd a2 h⟩ (AW.out [] [] rfl zz zz (by simp;exact ST (.refl _) (.nil _ _)) zz)
 have a3:key∉acc:=by rw[h4] at h8;exact of_decide_eq_false h8.symm
 have hc:key∉AM g p o:=by rw[<- q];exact a3
 obtain⟨side,hd⟩:=hR.all i h0 (λ hm=>hc (by rw[<- h7];exact iV hm))
 rw[h7] at hd;obtain⟨j,hj,b2,a4⟩:=rF hd;have hh:=bC 81 [.pv [.I key]] (λ r=>decide (r.1=key)) R zy (λ ρ sn h k=>zz) λ r _=>cF r key
 rw[b2] at hh;obtain⟨sd,a5⟩:=AR (R[j].2);have b3:R[j]? = some (key,sd):=by rw[Qa hj,a5,<- a4]
 have hl:R[j]=(key,sd):=by rw[a5,<- a4]
 have hn:(key,sd)∈R:=by rw[<- hl];exact Qj hj
 have bo:sd.length<=130:=by
  obtain⟨_,_,_,hr⟩:=hR.right _ hn;exact hr.len
 have hq:=Gy sd zy
 refine AN (AB (arc ⟨76,[(7,.pv [AA acc,AA fl,.vs 2 false (CY R)]),(10,.pt 48 0 0),(12,.pt 50 0 0),(17,.I j)],[(48,some ⟨5,[[.I 0,.B false,.nilS,.nilS,.nilS]],0⟩),(50,some ⟨5,[[.I key,.B false,AA E,.nilS,.nilS]],0⟩)],900⟩ ?_ ?_))
 .simp
  refine A0 hh ?_;simp[h4];exact AJ [(48,48),(50,50)] [51] zz (by simp[AC,B7,h4])
 refine A2 ⟨76,[(7,.pv [AA acc,AA fl,.vs 2 false (CY R)]),(10,.pt 48 0 0),(12,.pt 50 0 0),(17,.I j),(66,.B true)],[(48,some ⟨5,[[.I 0,.B false,.nilS,.nilS,.nilS]],0⟩),(50,some ⟨5,[[.I key,.B false,AA E,.nilS,.nilS]],0⟩)],1000⟩ [(48,48),(50,50)] [] ?_;refine AI _ rfl (λ _=>?_) λ h=>by cases h
 refine Ap rfl ?_;simp[b3,hl,hj];refine Ct hq ?_;simp[Ax];refine arc ⟨76,[(10,.pt 48 0 0),(11,.I 0)],[(48,some ⟨5,[[.I key,.B false,AA E,.nilS,AA sd]],0⟩)],1500⟩ ?_ ?_
 .simp [Ax]
  exact AJ [(48,48)] [1048] zz (by simp[AC,B7])
 refine A9 (FF.mk (.inr rfl) ⟨key,false,E,[],sd⟩ ⟨rfl,⟨i,h0,h7,by rw[<- q];exact hE⟩,λ h=>absurd h hc,λ _=>⟨rfl,rfl,R,hR,hn⟩⟩ (AW.out [] [] rfl zz zz (by simp;exact ST (.nil _ _) (.refl _)) zz))
theorem iH (g:Gr) (p:Aq) (acc fl:List Int) (R:List (Int × List Int)) (o:List Int) (key:Int) (x:A6) (q:AK 40 [eG g,eP p,Ei acc fl R,AA o,.I key] [] (.tup [eX x,.I 0]) []) :
  AK 39 [.I key,.pv (gC g),.pv (pC p),.pv [AA acc,AA fl,.vs 2 false (CY R)],.pv [AA o]] [] (.tup [eX x,.I 0]) []:=by
 refine sJ.s.ac ?_;show Ad _ 0 _ _ ⟨16,[(0,.I key),(1,.pv (gC g)),(2,.pv (pC p)),(3,.pv [AA acc,AA fl,.vs 2 false (CY R)]),(4,.pv [AA o])],[],16⟩;refine rk (s:=?s1) [0,1,2,3,4,6] [16] rfl ?o1 ?q1
 case o1=>simp;rfl
 refine arc ⟨16,[(6,.pt 16 0 0),(7,.I 0)],[(16,some ⟨5,[xE x],0⟩)],800⟩ ?_ ?_
 .simp
  refine A0 q ?_;simp[Ax];exact CO [(16,16)] []
 exact Bx [] []
theorem uN (g:Gr) (p:Aq) (hg:AG g) (hp:BD g.size p) (hs:p.seeds.length<=64) (hN:g.size<20) :
  ∃ X,Kf g p (AL (AO g p.lv) p.seeds) X/\AK 13 [eG g,eP p] [] (.tup [CK X,.I 0]) []:=by
 obtain⟨fl,_,q⟩:=NU g p hg hp hs zy
 have u:=λ key h=>pN g p fl key hg hp hs h;have h4:=lH g p hg hN zy
 have h6:(AL (AO g p.lv) p.seeds).length<=64:=by
  have h1:=I1 (g:=AO g p.lv) (S:=p.seeds) hg.1.1;have h2:(AO g p.lv).size=g.size:=rfl;have h3:=hg.1.2.1;omega
 obtain⟨o,ho⟩:=AR (AL (AO g p.lv) p.seeds);rw[<- ho] at q u h4 h6 ⊢
 obtain⟨F,hF⟩:∃ F:Int->A6,∀ k,k∈o->CE g p o k (F k)/\AK 40 [eG g,eP p,Ei (AM g p o) fl (Bc g p o),AA o,.I k] [] (.tup [eX (F k),.I 0]) []:=by
  refine⟨λ k=>if h:k∈o then (u k h).choose else ⟨0,false,[],[],[]⟩,λ k hk=>?_⟩
  simp only[dif_pos hk];exact(u k hk).choose_spec
 refine⟨o.map F,⟨zz,λ i h1 h2=>by rw[List.getElem_map];exact(hF _ (Qj h2)).1⟩,?_⟩
 obtain⟨acc,h5⟩:=AR (AM g p o);obtain⟨R,h7⟩:=AR (Bc g p o);rw[<- h5,<- h7] at q hF;have h0:=bU 39 [.pv (gC g),.pv (pC p),.pv [AA acc,AA fl,.vs 2 false (CY R)],.pv [AA o]] F o zy (λ ρ sn h k=>zz) λ k hk=>iH g p acc fl R o k (F k) (hF k hk).2
 obtain⟨Y,hY⟩:=AR (o.map F);rw[<- hY] at h0 ⊢;refine pW.s.ac ?_;show Ad _ 0 _ _ ⟨26,[(0,eG g),(1,eP p)],[],16⟩;refine A2 ⟨26,[(2,.pv (gC g)),(3,.pv (pC p))],[],100⟩ [] [16,24] ?_;refine arc ⟨26,[(2,.pv (gC g)),(3,.pv (pC p)),(6,.pv [AA acc,AA fl,.vs 2 false (CY R)]),(7,.I 0)],[],200⟩ ?_ ?_
 .simp
  refine A0 q ?_;simp[Ax];exact BP [] [148]
 refine AB (A2 ⟨26,[(2,.pv (gC g)),(3,.pv (pC p)),(6,.pv [AA acc,AA fl,.vs 2 false (CY R)]),(16,.B false)],[],300⟩ [] [] ?_);refine AI _ rfl (λ h=>by cases h) λ _=>?_
 refine AN (arc ⟨26,[(2,.pv (gC g)),(3,.pv (pC p)),(6,.pv [AA acc,AA fl,.vs 2 false (CY R)]),(8,.pv [AA o])],[],400⟩ ?_ ?_)
 .simp
  refine Ct h4 ?_;simp;exact AJ [] [316,324] (by simp[B7,AC])
 refine arc ⟨26,[(4,CK Y),(5,.I 0)],[],500⟩ ?_ ?_
 .simp
  refine A0 h0 ?_;simp;exact BP [] []
 exact Bx [] []
variable {g:Gr} {p:Aq}
theorem rE {g:Gr} (hg:AG g) (h9:g.size<=9):g.edges.length<=81:=by
 have hn:(g.edges.map λ e=>e.f*9+e.t).Nodup:=by
  rw[List.Nodup,US];refine hg.pair.imp_of_mem λ {a b} ha hb q=>?_;have h1:=hg.fits a ha;have h2:=hg.fits b hb;unfold BS at h1 h2;unfold CD at q;omega
 have:=HT (b:=(List.range 81).map λ i:Nat=>(i:Int)) hn λ x hx=>by
  obtain⟨e,he,rfl⟩:=Qh.1 hx;have h1:=hg.fits e he;unfold BS at h1;exact Qh.2 ⟨(e.f*9+e.t).toNat,QP.2 zy,zy⟩
 simpa using this
theorem Mb {L:List Int} {a:Nat}:∀ (m:Nat) (x:Int),x∈(Ck L a m).1->0<=x/\x<m
 | 0,x,h=>by simp[Ck] at h
 | m+1,x,h=>by
   have ih:=Mb (L:=L) (a:=a) m x;simp only[Ck] at h;split at h
   .rcases Qo.1 h with h | h
    .have:=ih h;omega
    .have:=Qt.1 h;omega
   .have:=ih h;omega
theorem Pm {L:List Int} {a:Nat}:∀ m:Nat,(Ck L a m).1.Pairwise (· < ·)
 | 0=>by simp[Ck]
 | m+1=>by
   have ih:=Pm (L:=L) (a:=a) m;simp only[Ck];split
   .refine List.pairwise_append.2 ⟨ih,List.pairwise_singleton _ _,λ x hx y hy=>?_⟩
    have h1:=Mb m x hx;have h2:=Qt.1 hy;omega
   .exact ih
def DH (S k:List Int) (i:Nat):Nat:=((k.take i).filter λ x=>S.contains x).length
theorem fM (S k:List Int) (i:Nat):DH S k i<=k.length:=QF (Q5 ..) (UD ..)
theorem gB {S k:List Int} {i:Nat} (h:i<k.length):DH S k (i+1)=if k[i]∈S then DH S k i+1 else DH S k i:=by
 unfold DH;rw[Ql h,Va]
 by_cases hc:k[i]∈S
 .rw [if_pos hc]
  simp[List.filter_cons,hc]
 .rw [if_neg hc]
  simp[List.filter_cons,hc]
open Classical in
theorem bL (hA:AK 5 [] [] (.B true) []) (L:List Int) (n:Int) (hn:0<=n/\n<=255):AK 3 [AA L,.sc (.int .u8 n)] [] (.B true) []:=by
 refine eB.s.ai ?_;have hc:=wC L;refine ar [0,1] [] [] 100 ?_;refine AB (arc ⟨115,[(0,AA L),(1,.sc (.int .u8 n)),(23,.B (!decide (L.length<=400)))],[],200⟩ ?_ ?_)
 .simp
  refine A0 hc ?_;simp;exact AJ [] [] (by simp<;>exact BA (by rw[Qv];simp))
 refine AI _ rfl (λ h3=>?_) λ h3=>?_
 .apply ax [4] [] [] 300
  .simp
   refine A0 hA ?_;simp;rfl
  exact Ca
 have h3:L.length<=400:=by simpa using h3
 obtain⟨g,b1,⟨hg,c1,a2,a3⟩,a4⟩:=uY L h3;obtain⟨⟨p,b2⟩,⟨hd,a5,a6,hf⟩,ho⟩:=rQ L b1 g h3 a3 zy zy
 simp only at hd a5 a6 hf ho;have c2:=rE hg a2;have c3:=hg.gone_le;have q:=eS L b2 g.size.toNat h3 hf zy
 have a7:=N9 (L:=L) (a:=b2) g.size.toNat;have hl:=Mb (L:=L) (a:=b2) g.size.toNat;have hq:=Pm (L:=L) (a:=b2) g.size.toNat;have hs:=On (L:=L) hf g.size.toNat;rw[show ((g.size.toNat:Nat):Int)=g.size by omega] at q
 obtain⟨D,hD⟩:=AR ((Ck L b2 g.size.toNat).1);obtain⟨b3,a8⟩:=AR ((Ck L b2 g.size.toNat).2);rw[<- hD] at a7 hl hq q;rw[<- a8] at hs q
 have h5:=n4 g p D hg hd zy zy zy λ i h=>by
  have h1:=hl _ (Qj h);refine⟨h1.1,zy,λ h0=>?_⟩
  exact QM.1 hq (i - 1) i zy h zy
 obtain⟨m,hm⟩:∃ m:Nat,m=1+n.toNat % 6:=⟨_,rfl⟩;have a9:IntKind.i64.wrap n=n:=w6;obtain⟨r,hr⟩:∃ r:Nat,r=n.toNat % 6:=⟨_,rfl⟩
 have ag:n.tmod 6=(r:Int):=by
  have:n=((n.toNat:Nat):Int):=zy
  rw[this,hr];rfl
 have an:IntKind.i64.wrap (1+(r:Int))=(m:Int):=by rw[w6,hm];omega
 obtain⟨⟨h,b4⟩,⟨au,hh,ht,hR⟩,h6⟩:=sP L b3 g D m h3 hs hg zy zy zy (λ j hj=>by have:=hl j hj;omega) zy
 simp only at au hh ht hR h6;have h4:BD h.size p:=hd.big zy
 have c4:=hh.edges_le;have c5:=hh.gone_le;obtain⟨fl,c6,h7⟩:=NU h p hh h4 zy (.inl zy)
 obtain⟨X,hX,hu⟩:=uN h p hh h4 zy zy
 have cb:(AL (AO h p.lv) p.seeds).length<=64:=by
  have h1:=I1 (g:=AO h p.lv) (S:=p.seeds) hh.1.1;have h2:(AO h p.lv).size=h.size:=rfl;omega
 have av:∀ x∈X,Pj x:=λ x hx=>by
  obtain⟨i,hi,rfl⟩:=Ul hx;have hb:=(hX.2 i hi (by have:=hX.1;omega)).bounds hh h4
  exact⟨QF hb.b zy,QF hb.p zy,λ w hw=>QF (hb.w w hw) zy,QF hb.s zy⟩
 have u:=pM h p X hh h4 zy zy (by rw[hX.1];omega) av
 rw[jW hh h4 hX] at u;simp only at u;have he:=lS hg hh hR hd h4 zy ht
 have b0:=Jl (g:=h) (p:=p) (AL (AO h p.lv) p.seeds);obtain⟨k,hk⟩:=AR (AM h p (AL (AO h p.lv) p.seeds));obtain⟨R,b5⟩:=AR (Bc h p (AL (AO h p.lv) p.seeds));obtain⟨ls,b6⟩:=AR (Em g p D D);rw[<- hk] at h7 u he b0;rw[<- b5] at h7;rw[<- b6] at he h5;obtain⟨S,hS⟩:=AR (Cl g m);have bo:S.length=m:=by rw[hS,I5]
 rw[<- hS] at he h6;have hv:=λ x=>Sm S x zy
 have hy:=nM k k zy zy
 rw[Q8 rfl] at hy;refine AN ?_;apply ax [1,5] [(208,20)] [] 300
 .simp
  refine Ct (cJ L) ?_;simp;rfl
 apply ax [1,5,6] [(20,20)] [316] 400
 .simp
  refine B6 (i:=20) rfl (e':=AS L 0) zz a4 zz zz ?_
  simp;rfl
 apply ax [1,5,6,7] [(20,20)] [424] 500
 .simp
  refine B6 (i:=20) rfl (e':=AS L b1) zz ho zz zz ?_
  simp;rfl
 refine arc ⟨115,[(1,.sc (.int .u8 n)),(5,.pt 20 0 0),(6,.pv (gC g)),(7,.pv (pC p)),(8,AA D)],[(20,some (AS L b3))],600⟩ ?_ ?_
 .simp
  refine B6 (i:=20) rfl (e':=AS L b2) zz q zz zz ?_
  simp;exact AJ [(20,20)] [524] (by simp[AC,B7]) (by simp[AC,B7])
 apply ax [1,5,6,7,8,9,10] [(20,20)] [] 700
 .simp
  refine A0 h5 ?_;simp;rfl
 apply ax [7,9,10,11,12] [] [788] 800
 .simp [a9,ag,an]
  refine B6 (i:=20) rfl (e':=AS L b3) zz h6 zz zz ?_
  simp;rfl
 apply ax [7,9,10,11,12,13,14] [] [848] 900
 .simp
  refine A0 h7 ?_;simp;rfl
 apply ax [7,9,10,11,12,13,14,15,16] [] [] 1000
 .simp
  refine A0 hu ?_;simp;rfl
 apply ax [9,10,12,13,14,16,17,18] [] [] 1100
 .simp
  refine A0 u ?_;simp;rfl
 refine ar [9,10,12,13,14,16,17,18,19] [] [] 1200 ?_;refine AB (ar [9,10,12,13,14,16,17,18,19,20] [] [] 1300 ?_);refine AT ?_;have bs:=λ i=>fM S k i;have bt:DH S k 0=0:=rfl;refine As (ι:=Nat) (λ i=>⟨115,[(9,.I ls),(10,.I 0),(12,AA S),(13,.pv [AA k,AA fl,.vs 2 false (CY R)]),(14,.I 0),(16,.I 0),(17,AA k),(18,.I 0),(19,.I (DH S k i)),(20,.I i)],[],1400⟩) (λ i=>i<=k.length) (λ i=>k.length - i) 0 zy (AJ [] [] (by simp[bt]) zz) ?_
 intro i hi;refine AB (A2 ⟨115,[(9,.I ls),(10,.I 0),(12,AA S),(13,.pv [AA k,AA fl,.vs 2 false (CY R)]),(14,.I 0),(16,.I 0),(17,AA k),(18,.I 0),(19,.I (DH S k i)),(20,.I i),(76,.B (decide (i<k.length)))],[],1500⟩ [] [] ?_);refine AI _ rfl (λ h9=>AN ?_) λ h9=>Ar (hit ?_)
 .rw [Qf] at h9
  have hz:k[i]? = some k[i]:=Qa h9;have h8:=gB (S:=S) h9;obtain⟨x,hx⟩:=AR (k[i]);rw[<- hx] at hz h8;have a0:=Gt h9 zy
  have cd:=bs i;have c0:IntKind.i64.wrap ((DH S k i:Int)+1)=((DH S k i+1:Nat):Int):=by rw[w6];omega
  refine AB (AT ?_);apply ax [9,10,12,13,14,16,17,18,19,20,84] [] [] 1600
  .simp [h9,hz,<- hx]
   refine A0 (hv x) ?_;simp;rfl
  refine AI _ rfl (λ ha=>?_) λ ha=>?_
  .rw [Qf] at ha
   rw[if_pos ha] at h8;refine Ap rfl ?_;simp;refine Ap rfl ?_;simp[a0,c0];exact⟨i+1,zy,zy,AJ [] [] (by simp[h8])⟩
  .rw [Qd] at ha
   rw[if_neg ha] at h8;refine AN (Ap rfl ?_);simp[a0];exact⟨i+1,zy,zy,AJ [] [] (by simp[h8])⟩
 rw[Qd] at h9;obtain rfl:i=k.length:=zy
 have a1:(DH S k k.length:Int)<=ls:=by
  unfold DH;rw[QW];exact he
 apply ax [4] [] [] 3000
 .simp
  refine A0 hy ?_;simp[a1];refine A0 hA ?_;simp;rfl
 exact Ca
end Go.Proofs.YtnaemfpgdmfmcaaGreatDoor
namespace Go.Proofs.YtnaemfpgdmfmcaaGreatDoor
open Go
abbrev Bk (k:IntKind) (l:List Int):List (List AV):=l.map λ x=>[AV.sc (.int k x)]
abbrev DI (l:List Int):AV:=.vs 1 false (Bk .u8 l)
theorem iM (k:IntKind) (l:List Int) (ρ sn h m):(Bk k l).map (List.map (conv ρ sn h (m+1)))=Bk k l:=by simp[AC]
theorem Le.K1 {st st':St} {k:IntKind} {l:List Int} (i j:Nat) (sn:List Nat) (q:st'.sz=st.sz) (hh:st'.h=[(j,some ⟨1,Bk k l,0⟩)]) (hi:j<st'.n) (hs:∀ j∈sn,j≠i) (h0:st.hp i=some ⟨1,Bk k l,0⟩) (ht:∀ p∈st'.t,Wk (conv [(i,j)] sn st.hp 4 (st.get p.1)) p.2):Le 0 st st' :=
 Le.ren1 i j sn q hh hi hs h0 (by simp only[Ab,iM]) (Qn _) ht
def EH (v:Int) (k:Nat):Int:=IntKind.u8.wrap (v.fdiv (2 ^ (min (8*k) 64)))
def EN (v:Int) (n:Nat):List Int:=(List.range n).map λ j=>EH v (7 - j)
def CA (v:Int):List Int:=EN v 8
theorem LX (v:Int) (n:Nat):(EN v n).length=n:=by simp[EN]
theorem Jz (v:Int):(CA v).length=8:=LX v 8
theorem P1 (v:Int) (n:Nat):EN v (n+1)=EN v n++[EH v (7 - n)]:=by simp[EN,Vh]
def Ee (s:ByteArray):List Int:=s.data.toList.map λ b=>(b.toNat:Int)
theorem Nj (s:ByteArray):(Ee s).length=s.size:=by
 show (s.data.toList.map _).length=s.data.size;simp
theorem uI (s:ByteArray):Dk s=Bk .u8 (Ee s):=by
 unfold Dk Ee;rw[Bk,Ub];rfl
def PC (s:ByteArray):List Int:=CA s.size++Ee s
def IA (l:List Int):List Int:=CA l.length++l.flatMap CA
theorem Ri (l:List Int):(l.flatMap CA).length=8*l.length:=by
 induction l with
 | nil=>rfl
 | cons x l ih=>rw[U4,Qm,ih,Jz];simp;omega
theorem YX (l:List Int):(IA l).length=8*l.length+8:=by rw[IA,Qm,Jz,Ri];omega
variable {a n:Int}
abbrev wd (x:Int):AV:=.sc (.int .u32 x)
def u2 (op:BinOp) (a b:Int):Int:=match Ae op (.int .u32 a) (.int .u32 b) with | some (.int _ n)=>n | _=>0
def sh (op:BinOp) (a n:Int):Int:=match Ae op (.int .u32 a) (.int .u64 n) with | some (.int _ n)=>n | _=>0
def nt (a:Int):Int:=match Hq .xor (.int .u32 a) with | some (.int _ n)=>n | _=>0
def Cb (x n:Int):Int:=u2 .or (sh .shr x n) (sh .shl x (32 - n))
section
variable {P:Program} {np id:Nat} {h:Nat->Option AD} {K:AV->List Nat->List (Nat × Option AD)->Prop}
theorem G4 (op:BinOp) (ho:op = .add∨op = .xor∨op = .and∨op = .or) {b:Int}:aK P np id (.bin op) [.sc (.int .u32 a),.sc (.int .u32 b)] h K=K (.sc (.int .u32 (u2 op a b))) [] []:=by
 refine propext ?_;rcases ho with rfl | rfl | rfl | rfl
 all_goals
  constructor
  .rintro ⟨v,hv,hk⟩
   cases hv;exact hk
  .exact λ hk=>⟨_,rfl,hk⟩
@[simp high] theorem zBB {a b:Int}:aK P np id (.bin .add) [.sc (.int .u32 a),.sc (.int .u32 b)] h K=K (.sc (.int .u32 (u2 .add a b))) [] []:=G4 _ (.inl rfl)
@[simp high] theorem w4 {a b:Int}:aK P np id (.bin .xor) [.sc (.int .u32 a),.sc (.int .u32 b)] h K=K (.sc (.int .u32 (u2 .xor a b))) [] []:=G4 _ (.inr (.inl rfl))
@[simp high] theorem zBd {a b:Int}:aK P np id (.bin .and) [.sc (.int .u32 a),.sc (.int .u32 b)] h K=K (.sc (.int .u32 (u2 .and a b))) [] []:=G4 _ (.inr (.inr (.inl rfl)))
@[simp high] theorem yN {a b:Int}:aK P np id (.bin .or) [.sc (.int .u32 a),.sc (.int .u32 b)] h K=K (.sc (.int .u32 (u2 .or a b))) [] []:=G4 _ (.inr (.inr (.inr rfl)))
theorem KI (op:BinOp) (ho:op = .shl∨op = .shr) (hn:0<=n):aK P np id (.bin op) [.sc (.int .u32 a),.sc (.int .u64 n)] h K=K (.sc (.int .u32 (sh op a n))) [] []:=by
 refine propext ?_
 have e:Ae op (.int .u32 a) (.int .u64 n)=some (.int .u32 (sh op a n)):=by
  rcases ho with rfl | rfl<;>simp[Ae,sh,hn]
 constructor
 .rintro ⟨v,hv,hk⟩
  rw[e] at hv
  cases hv;exact hk
 .exact λ hk=>⟨_,e,hk⟩
@[simp high] theorem zBc {a n:Int} (hn:0<=n):aK P np id (.bin .shl) [.sc (.int .u32 a),.sc (.int .u64 n)] h K=K (.sc (.int .u32 (sh .shl a n))) [] []:=KI _ (.inl rfl) hn
@[simp high] theorem zW {a n:Int} (hn:0<=n):aK P np id (.bin .shr) [.sc (.int .u32 a),.sc (.int .u64 n)] h K=K (.sc (.int .u32 (sh .shr a n))) [] []:=KI _ (.inr rfl) hn
@[simp high] theorem xX {a:Int}:aK P np id (.un .xor) [.sc (.int .u32 a)] h K=K (.sc (.int .u32 (nt a))) [] []:=by
 refine propext ⟨?_,λ hk=>⟨_,rfl,hk⟩⟩
 rintro⟨v,hv,hk⟩
 cases hv;exact hk
end
def B8:List Int:=[1116352408,1899447441,3049323471,3921009573,961987163,1508970993,2453635748,2870763221,3624381080,310598401,607225278,1426881987,1925078388,2162078206,2614888103,3248222580,3835390401,4022224774,264347078,604807628,770255983,1249150122,1555081692,1996064986,2554220882,2821834349,2952996808,3210313671,3336571891,3584528711,113926993,338241895,666307205,773529912,1294757372,1396182291,1695183700,1986661051,2177026350,2456956037,2730485921,2820302411,3259730800,3345764771,3516065817,3600352804,4094571909,275423344,430227734,506948616,659060556,883997877,958139571,1322822218,1537002063,1747873779,1955562222,2024104815,2227730452,2361852424,2428436474,2756734187,3204031479,3329325298]
theorem iD:B8.length=64:=rfl
abbrev gt (l:List Int) (i:Nat):Int:=l.getD i 0
theorem Is {l:List Int} {i n:Nat} (hl:l.length=n) (h:i<n):∃ (h:i<l.length),l[i]=gt l i:=by
 have h2:i<l.length:=zy
 exact⟨h2,by simp[gt,h2]⟩
def NB (a b c d:Int):Int:=u2 .or (u2 .or (u2 .or (sh .shl (IntKind.u32.wrap a) 24) (sh .shl (IntKind.u32.wrap b) 16)) (sh .shl (IntKind.u32.wrap c) 8)) (IntKind.u32.wrap d)
def Mz (x:Int):Int:=u2 .xor (u2 .xor (Cb x 7) (Cb x 18)) (sh .shr x 3)
def OI (x:Int):Int:=u2 .xor (u2 .xor (Cb x 17) (Cb x 19)) (sh .shr x 10)
def Db (B:List Int):Nat->List Int
 | 0=>List.replicate 64 0
 | i+1=>(Db B i).set i (NB (gt B (4*i)) (gt B (4*i+1)) (gt B (4*i+2)) (gt B (4*i+3)))
def B3 (B:List Int):Nat->List Int
 | 0=>Db B 16
 | i+1=>(B3 B i).set (i+16) (u2 .add (u2 .add (u2 .add (gt (B3 B i) i) (Mz (gt (B3 B i) (i+1)))) (gt (B3 B i) (i+9))) (OI (gt (B3 B i) (i+14))))
def r3 (x a b c:Int):Int:=u2 .xor (u2 .xor (Cb x a) (Cb x b)) (Cb x c)
def xF (v:List Int) (k w:Int):Int:=u2 .add (u2 .add (u2 .add (u2 .add (gt v 7) (r3 (gt v 4) 6 11 25)) (u2 .xor (u2 .and (gt v 4) (gt v 5)) (u2 .and (nt (gt v 4)) (gt v 6)))) k) w
def mF (v:List Int):Int:=u2 .xor (u2 .xor (u2 .and (gt v 0) (gt v 1)) (u2 .and (gt v 0) (gt v 2))) (u2 .and (gt v 1) (gt v 2))
def vF (H B C:List Int):Nat->List Int
 | 0=>H
 | i+1 =>
   let v:=vF H B C i
   let x:=xF v (gt C i) (gt (B3 B 48) i)
   [u2 .add (u2 .add x (r3 (gt v 0) 2 13 22)) (mF v),gt v 0,gt v 1,gt v 2,u2 .add (gt v 3) x,gt v 4,gt v 5,gt v 6]
def oF (H B C:List Int):Nat->List Int
 | 0=>vF H B C 64
 | i+1=>(oF H B C i).set i (u2 .add (gt (oF H B C i) i) (gt H i))
def Ho (H B C:List Int):List Int:=oF H B C 8
theorem ON (B:List Int):∀ i,(Db B i).length=64
 | 0=>by simp[Db]
 | i+1=>by rw[Db,UF,ON B i]
theorem Kk (B:List Int):∀ i,(B3 B i).length=64
 | 0=>ON B 16
 | i+1=>by rw[B3,UF,Kk B i]
theorem nY {H B C:List Int} (hH:H.length=8):∀ i,(vF H B C i).length=8
 | 0=>hH
 | i+1=>rfl
theorem YN {H B C:List Int} (hH:H.length=8):∀ i,(oF H B C i).length=8
 | 0=>nY hH 64
 | i+1=>by rw[oF,UF,YN hH i]
theorem Le.X1 {st st':St} {X:List (List AV)} (q:∀ ρ sn h m,X.map (List.map (conv ρ sn h (m+1)))=X) (i j:Nat) (sn:List Nat) (u:st'.sz=st.sz) (hh:st'.h=[(j,some ⟨1,X,0⟩)]) (hi:j<st'.n) (hs:∀ j∈sn,j≠i) (h0:st.hp i=some ⟨1,X,0⟩) (ht:∀ p∈st'.t,Wk (conv [(i,j)] sn st.hp 4 (st.get p.1)) p.2):Le 0 st st' :=
 Le.ren1 i j sn u hh hi hs h0 (by simp only[Ab,q]) (Qn _) ht
theorem jX (a b:Int):u2 .or a b=u2 .or b a:=by
 unfold u2 Ae;simp[Nat.or_comm]
theorem I2 (a b:Int):u2 .add a b=IntKind.u32.wrap (a+b):=rfl
theorem pZ (a b:Int):u2 .add a b=u2 .add b a:=by rw[I2,I2,Int.add_comm]
theorem qV (a b c:Int):u2 .add (u2 .add a b) c=u2 .add a (u2 .add b c):=by
 rw[I2,I2,I2,I2,IntKind.wrap_u32,IntKind.wrap_u32,IntKind.wrap_u32,IntKind.wrap_u32];omega
theorem GK (x n s:Int) (h1:IntKind.i64.wrap (-n) = -n) (h3:Ae .and (.int .u64 (IntKind.u64.wrap (-n))) (.int .u64 31)=some (.int .u64 s)) (h4:0<=s) (h5:IntKind.u64.wrap (32 - s)=n) (hn:0<=n) (hs:32 - n=s):AK 187 [wd x,.I n] [] (wd (Cb x n)) []:=by
 have q:AK 188 [wd x,.I (-n)] [] (wd (Cb x n)) []:=by
  refine jT.s.ai ?_;refine AB (AY ?_);apply ax [0,5] [] [] 100
  .simp [-Ae]
   refine⟨_,h3,?_⟩;rfl
  refine arc ⟨17,[(4,wd (Cb x n))],[],300⟩ ?_ ?_
  .simp [h4,h5,hn]
   exact A5 [] (by simp[Cb,hs];rw[jX];exact .refl _)
  exact Ca
 refine kY.s.ai ?_;refine rs [0,1] [] [] ?_;apply ax [4] [] [] 300
 .simp [h1]
  refine A0 q ?_;simp;rfl
 exact Ca
theorem nD (x:Int):AK 187 [wd x,.I 7] [] (wd (Cb x 7)) []:=GK x 7 25 rfl rfl zx rfl zx rfl
theorem dT (x:Int):AK 187 [wd x,.I 18] [] (wd (Cb x 18)) []:=GK x 18 14 rfl rfl zx rfl zx rfl
theorem iI (x:Int):AK 187 [wd x,.I 17] [] (wd (Cb x 17)) []:=GK x 17 15 rfl rfl zx rfl zx rfl
theorem eJ (x:Int):AK 187 [wd x,.I 19] [] (wd (Cb x 19)) []:=GK x 19 13 rfl rfl zx rfl zx rfl
theorem rG (x:Int):AK 187 [wd x,.I 6] [] (wd (Cb x 6)) []:=GK x 6 26 rfl rfl zx rfl zx rfl
theorem uJ (x:Int):AK 187 [wd x,.I 11] [] (wd (Cb x 11)) []:=GK x 11 21 rfl rfl zx rfl zx rfl
theorem oU (x:Int):AK 187 [wd x,.I 25] [] (wd (Cb x 25)) []:=GK x 25 7 rfl rfl zx rfl zx rfl
theorem qL (x:Int):AK 187 [wd x,.I 2] [] (wd (Cb x 2)) []:=GK x 2 30 rfl rfl zx rfl zx rfl
theorem aR (x:Int):AK 187 [wd x,.I 13] [] (wd (Cb x 13)) []:=GK x 13 19 rfl rfl zx rfl zx rfl
theorem qH (x:Int):AK 187 [wd x,.I 22] [] (wd (Cb x 22)) []:=GK x 22 10 rfl rfl zx rfl zx rfl
variable {l:List Int}
abbrev Aj (l:List Int):List AV:=l.map wd
theorem HA {i n:Nat} (hl:l.length=n) (h:i<n):(Aj l).drop i=wd (gt l i)::(Aj l).drop (i+1):=by
 have h2:i<(Aj l).length:=by simp[hl,h]
 rw[QQ h2];obtain⟨h3,h4⟩:=Is hl h;simp[h4]
theorem Nt {i:Nat} {z:Int} (h:i<l.length):Ax (Aj l) i [wd z]=Aj (l.set i z):=by
 unfold Ax;rw[Aj,Aj,List.map_set,List.set_eq_take_append_cons_drop,if_pos (by simpa using h)]
 simp
theorem Nl (h:l.length=8):∃ a b c d e f g k,l=[a,b,c,d,e,f,g,k]:=by
 match l,h with
 | [a,b,c,d,e,f,g,k],_=>exact⟨a,b,c,d,e,f,g,k,rfl⟩
def oS (H V:List Int):Nat->List Int
 | 0=>H
 | i+1=>(oS H V i).set i (u2 .add (gt H i) (gt V i))
theorem Ta (H V:List Int):∀ i,(oS H V i).length=H.length
 | 0=>rfl
 | i+1=>by rw[oS,UF];exact Ta H V i
theorem RP (H V:List Int):∀ i j,i<=j->gt (oS H V i) j=gt H j
 | 0,_,_=>rfl
 | i+1,j,h=>by
   rw[<- RP H V i j zy,oS,gt,gt,List.getD,List.getElem?_set_ne zy]
   rfl
theorem bI {H B C:List Int} (hH:H.length=8) (hV:(vF H B C 64).length=8):oS H (vF H B C 64) 8=oF H B C 8:=by
 have h0:oF H B C 0=vF H B C 64:=rfl;obtain⟨a,b,c,d,e,f,g,k,rfl⟩:=Nl hH;obtain⟨a',b',c',d',e',f',g',k',hv⟩:=Nl hV;generalize hO:oF [a,b,c,d,e,f,g,k] B C=O;have hs:∀ i,O (i+1)=(O i).set i (u2 .add (gt (O i) i) (gt [a,b,c,d,e,f,g,k] i)):=λ i=>by rw[<- hO];rfl
 rw[hO] at h0;rw[hv] at h0 ⊢;simp[hs,h0,oS,gt];simp[pZ]
theorem oT (H B C:List Int) (hH:H.length=8) (hB:B.length=64) (hC:C.length=64):AK 145 [.pt 0 0 0,DI B,.pv (Aj C)] [⟨8,[Aj H],0⟩] (.tup []) [some ⟨8,[Aj (Ho H B C)],0⟩]:=by
 refine kF.s.ai ?_;refine arc ⟨211,[(0,.pt 0 0 0),(1,DI B),(2,.pv (Aj C)),(6,.pt 24 0 0)],[(0,some ⟨8,[Aj H],0⟩),(24,some ⟨64,[Aj (Db B 0)],0⟩)],100⟩ ?_ ?_
 .simp
  exact AJ [(0,0),(16,24)] [] zz (by simp[Db])
 refine AB (A2 ⟨211,[(0,.pt 0 0 0),(1,DI B),(2,.pv (Aj C)),(6,.pt 24 0 0),(19,.I 0)],[(0,some ⟨8,[Aj H],0⟩),(24,some ⟨64,[Aj (Db B 0)],0⟩)],200⟩ [(0,0),(24,24)] [] ?_);refine AT (As (ι:=Nat) (λ i=>⟨211,[(0,.pt 0 0 0),(1,DI B),(2,.pv (Aj C)),(6,.pt 24 0 0),(19,.I i)],[(0,some ⟨8,[Aj H],0⟩),(24,some ⟨64,[Aj (Db B i)],0⟩)],300⟩) (λ i=>i<=16) (λ i=>16 - i) 0 zy (BP [(0,0),(24,24)] []) ?_)
 intro i hi;refine arc ⟨211,[(0,.pt 0 0 0),(1,DI B),(2,.pv (Aj C)),(6,.pt 24 0 0),(19,.I i),(20,.B (decide (i<16)))],[(0,some ⟨8,[Aj H],0⟩),(24,some ⟨64,[Aj (Db B i)],0⟩)],400⟩ ?_ ?_
 .simp
  exact AJ [(0,0),(24,24)] [] (by simp<;>exact BA (by rw[Qv];simp;omega))
 refine AB (AI _ rfl (λ h=>AN ?_) λ h=>Ar (hit ?_))
 .rw [Qf] at h
  refine CX ⟨211,[(0,.pt 0 0 0),(1,DI B),(2,.pv (Aj C)),(6,.pt 24 0 0),(19,.I i)],[(0,some ⟨8,[Aj H],0⟩),(24,some ⟨64,[Aj (Db B (i+1))],0⟩)],1000⟩ ?_ ?_
  .obtain ⟨p,hp⟩:=AR (4*i)
   obtain⟨p1,hw⟩:∃ q,q=p+1:=⟨_,rfl⟩;obtain⟨p2,hx⟩:∃ q,q=p+2:=⟨_,rfl⟩;obtain⟨p3,hy⟩:∃ q,q=p+3:=⟨_,rfl⟩;have a0:IntKind.i64.wrap (4*(i:Int))=(p:Int):=by rw[w6];omega
   have a1:IntKind.i64.wrap ((p:Int)+1)=(p1:Int):=by rw[w6];omega
   have h8:IntKind.i64.wrap ((p:Int)+2)=(p2:Int):=by rw[w6];omega
   have a3:IntKind.i64.wrap ((p:Int)+3)=(p3:Int):=by rw[w6];omega
   obtain⟨l0,g0⟩:=Is hB (show p<64 by omega)
   obtain⟨l1,g1⟩:=Is hB (show p1<64 by omega)
   obtain⟨l2,g2⟩:=Is hB (show p2<64 by omega)
   obtain⟨l3,g3⟩:=Is hB (show p3<64 by omega)
   have a4:(Db B i).length=64:=ON B i;obtain⟨z,hz⟩:=AR (NB (gt B p) (gt B p1) (gt B p2) (gt B p3))
   have hs:Ax (Aj (Db B i)) i [wd z]=Aj (Db B (i+1)):=by
    rw[Nt zy,Db,hz,hw,hx,hy,hp]
   rw[<- hs];have h4:(Aj (Db B i)).length=64:=by simp[a4]
   have u:∀ ρ sn h,(Aj (Db B i)).map (conv ρ sn h 4)=Aj (Db B i):=λ ρ sn h=>by simp[AC]
   generalize Aj (Db B i)=X at *;generalize b0:gt B p=c0 at *;generalize b1:gt B p1=c1 at *;generalize b2:gt B p2=c2 at *;generalize b3:gt B p3=c3 at *;refine AT (arc ⟨211,[(0,.pt 0 0 0),(1,DI B),(2,.pv (Aj C)),(6,.pt 24 0 0),(7,.I i),(19,.I i)],[(0,some ⟨8,[Aj H],0⟩),(24,some ⟨64,[X],0⟩)],500⟩ ?_ ?_)
   .simp
    exact AJ [(0,0),(24,24)] [] zz (by simp[u])
   refine ET rfl ?_;simp[-Ax,a0,a1,h8,a3,l0,l1,l2,l3,g0,g1,g2,g3,show (i:Int)<64 by omega,h4]
   have hd:u2 .or (u2 .or (u2 .or (sh .shl (IntKind.u32.wrap c0) 24) (sh .shl (IntKind.u32.wrap c1) 16)) (sh .shl (IntKind.u32.wrap c2) 8)) (IntKind.u32.wrap c3)=z:=hz.symm;simp only[hd];refine⟨zy,rfl,?_⟩
   have h5:∀ ρ sn h,(Ax X i [wd z]).map (conv ρ sn h 4)=Ax X i [wd z]:=λ ρ sn h=>by unfold Ax;simp only[Ug,UX,Vi,u];simp
   exact AJ [(0,0),(24,24)] [] zz (by simp[-Ax,h5])
  have h1:=wq (k:=i);refine Ap rfl ?_;simp[h1];exact⟨i+1,zy,zy,BP [(0,0),(24,24)] []⟩
 rw[Qd] at h;obtain rfl:i=16:=zy
 refine arc ⟨211,[(0,.pt 0 0 0),(2,.pv (Aj C)),(6,.pt 24 0 0),(8,.fn (.func 187) [] [])],[(0,some ⟨8,[Aj H],0⟩),(24,some ⟨64,[Aj (B3 B 0)],0⟩)],2000⟩ ?_ ?_
 .simp
  exact AJ [(0,0),(24,24)] [] zz (by simp[B3])
 refine AB (A2 ⟨211,[(0,.pt 0 0 0),(2,.pv (Aj C)),(6,.pt 24 0 0),(8,.fn (.func 187) [] []),(9,.I ((0+16:Nat):Int))],[(0,some ⟨8,[Aj H],0⟩),(24,some ⟨64,[Aj (B3 B 0)],0⟩)],2100⟩ [(0,0),(24,24)] [] ?_);refine AT (As (ι:=Nat) (λ i=>⟨211,[(0,.pt 0 0 0),(2,.pv (Aj C)),(6,.pt 24 0 0),(8,.fn (.func 187) [] []),(9,.I ((i+16:Nat):Int))],[(0,some ⟨8,[Aj H],0⟩),(24,some ⟨64,[Aj (B3 B i)],0⟩)],2200⟩) (λ i=>i<=48) (λ i=>48 - i) 0 zy (BP [(0,0),(24,24)] []) ?_)
 intro i hi;obtain⟨m,hm⟩:=AR (i+16);rw[<- hm];refine AB (arc ⟨211,[(0,.pt 0 0 0),(2,.pv (Aj C)),(6,.pt 24 0 0),(8,.fn (.func 187) [] []),(9,.I m),(59,.B (decide (i<48)))],[(0,some ⟨8,[Aj H],0⟩),(24,some ⟨64,[Aj (B3 B i)],0⟩)],2300⟩ ?_ ?_)
 .simp
  exact AJ [(0,0),(24,24)] [] (by simp<;>exact BA (by rw[Qv];simp;omega))
 refine AI _ rfl (λ h=>AN ?_) λ h=>Ar (hit ?_)
 .rw [Qf] at h
  refine CX ⟨211,[(0,.pt 0 0 0),(2,.pv (Aj C)),(6,.pt 24 0 0),(8,.fn (.func 187) [] []),(9,.I m)],[(0,some ⟨8,[Aj H],0⟩),(24,some ⟨64,[Aj (B3 B (i+1))],0⟩)],4000⟩ ?_ ?_
  .have hb:IntKind.i64.wrap ((m:Int) - 15)=((i+1:Nat):Int):=by rw[w6];omega
   have h8:IntKind.i64.wrap ((m:Int) - 2)=((i+14:Nat):Int):=by rw[w6];omega
   have hg:IntKind.i64.wrap ((m:Int) - 16)=((i:Nat):Int):=by rw[w6];omega
   have hh:IntKind.i64.wrap ((m:Int) - 7)=((i+9:Nat):Int):=by rw[w6];omega
   have h0:=Kk B i;have d15:=HA h0 (show i+1<64 by omega)
   have d2:=HA h0 (show i+14<64 by omega)
   have d16:=HA h0 (show i<64 by omega)
   have d7:=HA h0 (show i+9<64 by omega)
   obtain⟨z,hz⟩:=AR (u2 .add (u2 .add (u2 .add (gt (B3 B i) i) (Mz (gt (B3 B i) (i+1)))) (gt (B3 B i) (i+9))) (OI (gt (B3 B i) (i+14))))
   have hs:Ax (Aj (B3 B i)) m [wd z]=Aj (B3 B (i+1)):=by
    rw[Nt zy,hz,hm]
    rfl
   rw[<- hs];have h4:(Aj (B3 B i)).length=64:=by simp[h0]
   have u:∀ ρ sn h,(Aj (B3 B i)).map (conv ρ sn h 4)=Aj (B3 B i):=λ ρ sn h=>by simp[AC]
   generalize gt (B3 B i) (i+1)=a15 at *;generalize gt (B3 B i) (i+14)=a2 at *;generalize gt (B3 B i) i=a16 at *;generalize gt (B3 B i) (i+9)=a7 at *;generalize Aj (B3 B i)=X at *;obtain⟨hj,hk⟩:∃ q,q=i+1:=⟨_,rfl⟩;obtain⟨q2,hq2⟩:∃ q,q=i+14:=⟨_,rfl⟩;obtain⟨q7,a5⟩:∃ q,q=i+9:=⟨_,rfl⟩;rw[<- hk] at hb d15;rw[<- hq2] at h8 d2;rw[<- a5] at hh d7;generalize List.drop (hj+1) X=R15 at d15;generalize List.drop (q2+1) X=R2 at d2;generalize List.drop (i+1) X=R16 at d16;generalize List.drop (q7+1) X=R7 at d7;refine AT (Cd ⟨211,[(0,.pt 0 0 0),(2,.pv (Aj C)),(6,.pt 24 0 0),(8,.fn (.func 187) [] []),(9,.I m),(10,wd a15),(11,wd a2)],[(0,some ⟨8,[Aj H],0⟩),(24,some ⟨64,[X],0⟩)],2600⟩ ?_ ?_)
   .simp [hb,h8,d15,d2,show (hj:Int)<64 by omega,show (q2:Int)<64 by omega]
    exact⟨rfl,AJ [(0,0),(24,24)] [] zz (by simp[u])⟩
   refine ET rfl ?_;simp[-Ax,hg,hh,d16,show (i:Int)<64 by omega,show (q7:Int)<64 by omega]
   refine A0 (nD a15) ?_;simp[-Ax];refine A0 (dT a15) ?_;simp[-Ax,d7];refine A0 (iI a2) ?_;simp[-Ax];refine A0 (eJ a2) ?_;simp[-Ax,h4,show (m:Int)<64 by omega]
   have hd:u2 .add (u2 .add (u2 .add a16 (u2 .xor (u2 .xor (Cb a15 7) (Cb a15 18)) (sh .shr a15 3))) a7) (u2 .xor (u2 .xor (Cb a2 17) (Cb a2 19)) (sh .shr a2 10))=z:=hz.symm;simp only[hd];refine⟨zy,rfl,?_⟩
   have h5:∀ ρ sn h,(Ax X m [wd z]).map (conv ρ sn h 4)=Ax X m [wd z]:=λ ρ sn h=>by unfold Ax;simp only[Ug,UX,Vi,u];simp
   exact AJ [(0,0),(24,24)] [] zz (by simp[-Ax,h5])
  have h1:IntKind.i64.wrap ((m:Int)+1)=((i+1+16:Nat):Int):=by rw[w6];omega
  refine Ap rfl ?_;simp[h1];exact⟨i+1,zy,zy,BP [(0,0),(24,24)] []⟩
 rw[Qd] at h;obtain rfl:i=48:=zy
 have he:(B3 B 48).length=64:=Kk B 48;have hf:∀ i,vF H B C (i+1)=[u2 .add (u2 .add (xF (vF H B C i) (gt C i) (gt (B3 B 48) i)) (r3 (gt (vF H B C i) 0) 2 13 22)) (mF (vF H B C i)),gt (vF H B C i) 0,gt (vF H B C i) 1,gt (vF H B C i) 2,u2 .add (gt (vF H B C i) 3) (xF (vF H B C i) (gt C i) (gt (B3 B 48) i)),gt (vF H B C i) 4,gt (vF H B C i) 5,gt (vF H B C i) 6]:=λ i=>rfl;obtain⟨W,hW⟩:=AR (B3 B 48);rw[<- hW] at he ⊢;simp only[<- hW] at hf;have hl:vF H B C 0=H:=rfl;have h9:∀ i,(vF H B C i).length=8:=λ i=>by cases i with | zero=>exact hH | succ i=>rfl
 have hn:Ho H B C=oS H (vF H B C 64) 8:=(bI hH (h9 64)).symm;rw[hn];obtain⟨V,hV⟩:=AR (vF H B C);rw[<- hV] at hf hl h9 hn ⊢;refine arc ⟨211,[(0,.pt 0 0 0),(2,.pv (Aj C)),(6,.pv (Aj W)),(8,.fn (.func 187) [] []),(12,.pt 40 0 0)],[(0,some ⟨8,[Aj H],0⟩),(40,some ⟨8,[Aj (V 0)],0⟩)],5000⟩ ?_ ?_
 .have ho:∀ f:Int->AV,(H.map f).take 8=H.map f:=λ f=>Qb (by simp[hH])
  simp[hH,Ax];exact AJ [(0,0),(2324,40)] [24] (by simp[AC]) (by simp[AC,hl,ho])
 refine AB (A2 ⟨211,[(0,.pt 0 0 0),(2,.pv (Aj C)),(6,.pv (Aj W)),(8,.fn (.func 187) [] []),(12,.pt 40 0 0),(106,.I 0)],[(0,some ⟨8,[Aj H],0⟩),(40,some ⟨8,[Aj (V 0)],0⟩)],5100⟩ [(0,0),(40,40)] [] ?_);refine AT (As (ι:=Nat) (λ i=>⟨211,[(0,.pt 0 0 0),(2,.pv (Aj C)),(6,.pv (Aj W)),(8,.fn (.func 187) [] []),(12,.pt 40 0 0),(106,.I i)],[(0,some ⟨8,[Aj H],0⟩),(40,some ⟨8,[Aj (V i)],0⟩)],5200⟩) (λ i=>i<=64) (λ i=>64 - i) 0 zy (CO [(0,0),(40,40)] []) ?_)
 intro i hi;refine arc ⟨211,[(0,.pt 0 0 0),(2,.pv (Aj C)),(6,.pv (Aj W)),(8,.fn (.func 187) [] []),(12,.pt 40 0 0),(106,.I i),(107,.B (decide (i<64)))],[(0,some ⟨8,[Aj H],0⟩),(40,some ⟨8,[Aj (V i)],0⟩)],5300⟩ ?_ ?_
 .simp
  exact AJ [(0,0),(40,40)] [] (by simp<;>exact BA (by rw[Qv];simp;omega)) (by simp[AC])
 refine AB (AI _ rfl (λ h=>AN ?_) λ h=>Ar (hit ?_))
 .rw [Qf] at h
  have h1:=wq (k:=i);have ha:=hf i;obtain⟨v0,v1,v2,v3,v4,v5,v6,v7,hv⟩:=Nl (h9 i);have dC:=HA hC h;have dW:=HA he h;have hq:(Aj C).length=64:=by simp[hC]
  have hc:(Aj W).length=64:=by simp[he]
  rw[hv] at ha ⊢;obtain⟨kc,a6⟩:=AR (gt C i);obtain⟨kw,a8⟩:=AR (gt W i);rw[<- a6] at ha dC;rw[<- a8] at ha dW;have a9:xF [v0,v1,v2,v3,v4,v5,v6,v7] kc kw=u2 .add (u2 .add (u2 .add (u2 .add v7 (u2 .xor (u2 .xor (Cb v4 6) (Cb v4 11)) (Cb v4 25))) (u2 .xor (u2 .and v4 v5) (u2 .and (nt v4) v6))) kc) kw:=rfl;have ag:mF [v0,v1,v2,v3,v4,v5,v6,v7]=u2 .xor (u2 .xor (u2 .and v0 v1) (u2 .and v0 v2)) (u2 .and v1 v2):=rfl;obtain⟨tt,h6⟩:=AR (xF [v0,v1,v2,v3,v4,v5,v6,v7] kc kw);obtain⟨uu,h7⟩:=AR (u2 .add (r3 v0 2 13 22) (mF [v0,v1,v2,v3,v4,v5,v6,v7]));have an:r3 v0 2 13 22=u2 .xor (u2 .xor (Cb v0 2) (Cb v0 13)) (Cb v0 22):=rfl
  have au:V (i+1)=[u2 .add tt uu,v0,v1,v2,u2 .add v3 tt,v4,v5,v6]:=by
   rw[ha,qV];rw[<- h6];rw[h7];rfl
  rw[a9] at h6;rw[an,ag] at h7;replace h6:=h6.symm;replace h7:=h7.symm;generalize List.drop (i+1) (Aj C)=RC at dC;generalize List.drop (i+1) (Aj W)=RW at dW;refine CX ⟨211,[(0,.pt 0 0 0),(2,.pv (Aj C)),(6,.pv (Aj W)),(8,.fn (.func 187) [] []),(12,.pt 40 0 0),(106,.I i)],[(0,some ⟨8,[Aj H],0⟩),(40,some ⟨8,[Aj (V (i+1))],0⟩)],8000⟩ ?_ ?_
  .rw [au]
   refine AT (ar [0,2,6,8,12,13,106] [(0,0),(40,40)] [] 5500 ?_);apply ay [0,2,6,8,12,13,14,15,106] [(0,0),(40,40)] [] 5600
   .simp
    exact⟨rfl,rfl⟩
   apply ay [0,2,6,8,12,14,16,106] [(0,0),(40,40)] [] 6000
   .simp [hq,hc,dC,dW,h,show (i:Int)<64 by omega]
    refine A0 (rG v4) ?_;simp[hq,hc,dC,dW,show (i:Int)<64 by omega]
    refine A0 (uJ v4) ?_;simp;refine A0 (oU v4) ?_;simp;simp only[h6];exact⟨rfl,rfl⟩
   apply ay [0,2,6,8,12,16,17,106] [(0,0),(40,40)] [] 7000
   .simp
    refine A0 (qL v0) ?_;simp;refine A0 (aR v0) ?_;simp;refine A0 (qH v0) ?_;simp;simp only[h7];exact⟨rfl,rfl⟩
   refine Ap rfl ?_;simp (maxSteps:=2000000) [F4,Ax];exact BB [(0,0),(40,40)] []
  refine Ap rfl ?_;simp[h1];exact⟨i+1,zy,zy,BB [(0,0),(40,40)] []⟩
 rw[Qd] at h;obtain rfl:i=64:=zy
 have h2:=h9 64;obtain⟨Z,hZ⟩:=AR (V 64);rw[<- hZ] at h2 ⊢;have hr:oS H Z 0=H:=rfl;have h3:=Ta H Z;rw[hH] at h3;have ht:=RP H Z;have hu:∀ i,oS H Z (i+1)=(oS H Z i).set i (u2 .add (gt H i) (gt Z i)):=λ i=>rfl;refine arc ⟨211,[(0,.pt 0 0 0),(12,.pv (Aj Z)),(196,.I 0)],[(0,some ⟨8,[Aj (oS H Z 0)],0⟩)],9000⟩ ?_ ?_
 .simp
  exact AJ [(0,0)] [40] (by simp[AC]) (by simp[AC,hr])
 refine AT (As (ι:=Nat) (λ i=>⟨211,[(0,.pt 0 0 0),(12,.pv (Aj Z)),(196,.I i)],[(0,some ⟨8,[Aj (oS H Z i)],0⟩)],9100⟩) (λ i=>i<=8) (λ i=>8 - i) 0 zy (BB [(0,0)] []) ?_)
 intro i hi;refine arc ⟨211,[(0,.pt 0 0 0),(12,.pv (Aj Z)),(196,.I i),(197,.B (decide (i<8)))],[(0,some ⟨8,[Aj (oS H Z i)],0⟩)],9200⟩ ?_ ?_
 .simp
  exact AJ [(0,0)] [] (by simp[AC]<;>exact BA (by rw[Qv];simp;omega)) (by simp[AC])
 refine AB (AI _ rfl (λ h=>AN ?_) λ h=>Ar (hit ?_))
 .rw [Qf] at h
  have h1:=wq (k:=i);refine CX ⟨211,[(0,.pt 0 0 0),(12,.pv (Aj Z)),(196,.I i)],[(0,some ⟨8,[Aj (oS H Z (i+1))],0⟩)],9900⟩ ?_ ?_
  .have dO:=HA (h3 i) h
   have dZ:=HA h2 h;rw[ht i i (Qk _)] at dO
   have hs:Ax (Aj (oS H Z i)) i [wd (u2 .add (gt H i) (gt Z i))]=Aj (oS H Z (i+1)):=by
    rw[Nt (by rw[h3];exact h),hu]
   rw[<- hs];have h4:(Aj (oS H Z i)).length=8:=by simp[h3]
   have av:(Aj Z).length=8:=by simp[h2]
   have u:∀ ρ sn h,(Aj (oS H Z i)).map (conv ρ sn h 4)=Aj (oS H Z i):=λ ρ sn h=>by simp[AC]
   generalize Aj (oS H Z i)=X at *;generalize gt H i=a at *;generalize gt Z i=b at *;generalize List.drop (i+1) X=RX at dO;generalize List.drop (i+1) (Aj Z)=RZ at dZ;obtain⟨z,hz⟩:=AR (u2 .add a b);rw[<- hz] at hs ⊢;refine AT (arc ⟨211,[(0,.pt 0 0 0),(12,.pv (Aj Z)),(18,.I i),(196,.I i)],[(0,some ⟨8,[X],0⟩)],9300⟩ ?_ ?_)
   .simp
    exact AJ [(0,0)] [] (by simp[AC]) (by simp[u])
   refine ET rfl ?_;simp[-Ax,dO,dZ,h4,av,h,show (i:Int)<8 by omega]
   simp only[<- hz];refine⟨zy,rfl,?_⟩
   have h5:∀ ρ sn h,(Ax X i [wd z]).map (conv ρ sn h 4)=Ax X i [wd z]:=λ ρ sn h=>by unfold Ax;simp only[Ug,UX,Vi,u];simp
   exact AJ [(0,0)] [] (by simp[AC]) (by simp[-Ax,h5])
  refine Ap rfl ?_;simp[h1];exact⟨i+1,zy,zy,BB [(0,0)] []⟩
 rw[Qd] at h;obtain rfl:i=8:=zy
 exact⟨.inl rfl,AW.k1 rfl zz (by simp[AC])⟩
section
variable {P:Program} {np id:Nat} {h:Nat->Option AD} {K:AV->List Nat->List (Nat × Option AD)->Prop} {s s':Nat} {f:Bool} {rows:List (List AV)} {k l:Nat}
@[simp] theorem zAP:aK P np id (.slc s true true false) [.vs s' f rows,.sc (.int .i64 (l:Int)),.sc (.int .i64 (k:Int))] h K=(l<=k/\k<=rows.length/\s'=s/\K (.vs s false ((rows.drop l).take (k - l))) [] []):=by
 rw[FT];refine propext ⟨?_,?_⟩
 .rintro ⟨l',r,m,n,h1,h2,h4,h5,h6,h7,h3,q,h8,h9⟩
  simp at h4 h1;subst h1;obtain⟨rfl,rfl⟩:l=l'/\k=r:=zy
  exact⟨h2,h3,h8,by simpa using h9⟩
 .rintro ⟨h1,h2,h3,h4⟩
  exact⟨l,k,0,rows.length,rfl,h1,zz,(λ h=>by cases h),(λ h=>by cases h),(λ h=>by cases h),h2,(λ h=>by cases h),h3,by simpa using h4⟩
end
theorem sH (l:List Int):Gd (Bk .u8 l)=some (l.map λ n=>UInt8.ofNat n.toNat):=by
 induction l with
 | nil=>rfl
 | cons x l ih =>
   show (Gd (Bk .u8 l)).map _=_;rw[ih];rfl
def Zu:List Int:=[1779033703,3144134277,1013904242,2773480762,1359893119,2600822924,528734635,1541459225]
def J3 (L:Nat):Nat:=(120 - (L+1) % 64) % 64
def PH (L:Nat):Int:=IntKind.u64.wrap (IntKind.u64.wrap (L:Int)*8)
def Dv (b:List Int):List Int:=b++[128]++List.replicate (J3 b.length) 0++CA (PH b.length)
def hF (M:List Int):Nat->List Int
 | 0=>Zu
 | i+1=>Ho (hF M i) ((M.drop (64*i)).take 64) B8
def Gg (x:Int):List Int:=[IntKind.u8.wrap (sh .shr x 24),IntKind.u8.wrap (sh .shr x 16),IntKind.u8.wrap (sh .shr x 8),IntKind.u8.wrap x]
def D1 (h:List Int):Nat->List Int
 | 0=>[]
 | i+1=>D1 h i++Gg (gt h i)
def DZ (b:List Int):ByteArray:=⟨((D1 (hF (Dv b) ((Dv b).length / 64)) 8).map λ n=>UInt8.ofNat n.toNat).toArray⟩
theorem M8 (h:List Int):∀ i,(D1 h i).length=4*i
 | 0=>rfl
 | i+1=>by rw[D1,Qm,M8 h i];simp[Gg];omega
theorem jZ (b:List Int):(DZ b).size=32:=by
 show ((D1 _ 8).map _).toArray.size=32;simp[M8]
theorem lQ {H B C:List Int} (hH:H.length=8):(Ho H B C).length=8:=YN hH 8
theorem OW (M:List Int):∀ i,(hF M i).length=8
 | 0=>rfl
 | i+1=>lQ (OW M i)
theorem dN (b:List Int):(Dv b).length=b.length+1+J3 b.length+8:=by simp[Dv,Jz];omega
theorem g7 (b:List Int):(Dv b).length % 64=0:=by rw[dN];unfold J3;omega
theorem qS:AK 144 [] [] (.agg (Aj B8)) []:=by
 refine dQ.s.ai ?_;refine rs [0] [16] [] ?_;apply ax [0] [(16,16)] [] 400
 .simp (maxSteps:=2000000) [F4,Ax]
  rfl
 exact A8 (AW.out [] [16] rfl zz zz (by simp[B8]) zz)
section
variable {P:Program} {np id:Nat} {h:Nat->Option AD} {K:AV->List Nat->List (Nat × Option AD)->Prop} {s s':Nat} {f:Bool} {rows:List (List AV)}
theorem gT:aK P np id (.slc s false true false) [.vs s' f rows,.sc (.int .i64 64)] h K=(64<=rows.length/\s'=s/\K (.vs s false (rows.take 64)) [] []):=cG (k:=64)
theorem jC:aK P np id (.slc s true false false) [.vs s' f rows,.sc (.int .i64 64)] h K=(64<=rows.length/\s'=s/\K (.vs s f (rows.drop 64)) [] []):=uD (k:=64)
end
theorem L4 (b:List Int) (hl:b.length<=1073741824):AK 95 [DI b] [] (.sc (.string (DZ b))) []:=by
 refine wV.s.ai ?_;obtain⟨L,hL⟩:=AR (b.length);obtain⟨Z,hZ⟩:=AR (J3 L);have an:Z=(120 - (L+1) % 64) % 64:=hZ;refine ar [0] [] [] 100 ?_
 let m:Nat->List Int:=λ z=>b++[128]++List.replicate z 0
 have h4:∀ z,(m z).length=L+1+z:=λ z=>by simp[m,hL];omega
 have hn:∀ z,m (z+1)=m z++[0]:=λ z=>by simp[m,List.replicate_succ']
 have h5:b++[128]++List.replicate (J3 b.length) 0=m Z:=by rw[hZ,hL]
 have h6:m 0=b++[128]:=by simp[m]
 have h1:∀ (l:List Int) (f:Int->List AV),(l.map f).take l.length=l.map f:=λ l f=>Qb zz
 refine arc ⟨69,[(0,DI b),(3,.rs 64 0 (m 0).length)],[(64,some ⟨1,Bk .u8 (m 0),0⟩)],200⟩ ?_ ?_
 .simp [<- hL]
  refine⟨zy,zy,?_⟩
  exact AJ [(124,64)] [] (by simp[h6,hL]) (by simp[h6,AC])
 clear_value m
 refine AB (AT (As (ι:=Nat) (λ z=>⟨69,[(0,DI b),(3,.rs 64 0 (m z).length)],[(64,some ⟨1,Bk .u8 (m z),0⟩)],300⟩) (λ z=>z<=Z) (λ z=>Z - z) 0 zy (BB [(64,64)] []) ?_))
 intro z hz;obtain⟨N,hN⟩:=AR (L+1+z);have h7:Int.tmod (N:Int) 64=((N % 64:Nat):Int):=rfl;have u:=h4 z;rw[<- hN] at u;rw[u];refine AB (arc ⟨69,[(0,DI b),(3,.rs 64 0 N),(18,.B (decide (z<Z)))],[(64,some ⟨1,Bk .u8 (m z),0⟩)],400⟩ ?_ ?_)
 .simp [h7,-Int.natCast_emod]
  exact AJ [(64,64)] [] (by simp[-Int.natCast_emod,AC]<;>exact BA (by rw[Qv];simp[-Int.natCast_emod];omega)) (by simp[AC])
 refine AI _ rfl (λ h=>AN ?_) λ h=>Ar (hit ?_)
 .rw [Qf] at h
  have hs:=hn z;have ho:=h4 (z+1);have h0:=h1 (m z);rw[u] at h0;refine AT (Ap rfl ?_);simp[u];refine⟨zy,z+1,zy,zy,?_⟩
  rw[ho,hs];exact AJ [(416,64)] [] (by simp[hN]<;>exact NQ zw) (by simp[AC,h0])
 rw[Qd] at h;obtain rfl:z=Z:=zy
 obtain⟨M0,hq⟩:=AR (m z);rw[<- hq] at u h5 ⊢;obtain⟨bt,h8⟩:=AR (PH L);refine arc ⟨69,[(3,.rs 64 0 N),(4,.sc (.int .u64 bt))],[(64,some ⟨1,Bk .u8 M0,0⟩)],500⟩ ?_ ?_
 .simp [<- hL]
  exact AJ [(64,64)] [] (by simp[h8,PH,AC]) (by simp[AC])
 let q:Nat->List Int:=λ j=>M0++EN bt j
 have h9:∀ j,(q j).length=N+j:=λ j=>by simp only[q];rw[Qm,LX,u]
 have hr:∀ j,q (j+1)=q j++[EH bt (7 - j)]:=λ j=>by simp only[q];rw[P1,QG]
 have ht:q 0=M0:=by simp[q,EN]
 have ha:q 8=Dv b:=by
  simp only[q];rw[Dv,h5,h8,hL];rfl
 refine AB (arc ⟨69,[(3,.rs 64 0 (N+0)),(4,.sc (.int .u64 bt)),(5,.I (56 - 8*((0:Nat):Int)))],[(64,some ⟨1,Bk .u8 (q 0),0⟩)],600⟩ ?_ ?_)
 .simp [ht]
  exact BB [(64,64)] []
 clear_value q
 refine AT (As (ι:=Nat) (λ j=>⟨69,[(3,.rs 64 0 (N+j)),(4,.sc (.int .u64 bt)),(5,.I (56 - 8*(j:Int)))],[(64,some ⟨1,Bk .u8 (q j),0⟩)],700⟩) (λ j=>j<=8) (λ j=>8 - j) 0 zy (BB [(64,64)] []) ?_)
 intro j hj;refine AB (arc ⟨69,[(3,.rs 64 0 (N+j)),(4,.sc (.int .u64 bt)),(5,.I (56 - 8*(j:Int))),(27,.B (decide (j<8)))],[(64,some ⟨1,Bk .u8 (q j),0⟩)],800⟩ ?_ ?_)
 .simp
  exact AJ [(64,64)] [] (by simp[AC]<;>exact BA (by rw[Qv];simp;omega)) (by simp[AC])
 refine AI _ rfl (λ h=>AN ?_) λ h=>Ar (hit ?_)
 .rw [Qf] at h
  refine CX ⟨69,[(3,.rs 64 0 (N+(j+1))),(4,.sc (.int .u64 bt)),(5,.I (56 - 8*(j:Int)))],[(64,some ⟨1,Bk .u8 (q (j+1)),0⟩)],1000⟩ ?_ ?_
  .have hs:=hr j
   have hc:=h9 j;have h0:=h1 (q j);rw[hc] at h0;rw[hs];generalize q j=Y at *;obtain⟨k,hk⟩:∃ k:Nat,k=7 - j:=⟨_,rfl⟩;obtain⟨s,hu⟩:∃ s:Nat,s=8*k:=⟨_,rfl⟩;have hv:56 - 8*(j:Int)=(s:Int):=zy
   have hw:IntKind.u64.wrap (s:Int)=(s:Int):=by rw[IntKind.wrap_u64];omega
   have hb:EH bt k=IntKind.u8.wrap (bt.fdiv (2 ^ (min (8*k) 64))):=rfl;rw[<- hk];generalize EH bt k=y at hb ⊢;rw[<- hu] at hb;rw[hv];refine AT (Ap rfl ?_);simp[hw,IntKind.bits,<- hb,hc];refine⟨zy,?_⟩
   exact AJ [(856,64)] [] (by simp<;>exact NQ zw) (by simp[AC,h0])
  have h3:IntKind.i64.wrap (56 - 8*(j:Int) - 8)=56 - 8*((j+1:Nat):Int):=by rw[w6];omega
  refine Ap rfl ?_;simp[h3];exact⟨j+1,zy,zy,BB [(64,64)] []⟩
 rw[Qd] at h;obtain rfl:j=8:=zy
 obtain⟨M,hM⟩:=AR (Dv b);have hx:M.length=N+8:=by rw[hM,<- ha];exact h9 8
 have ag:M.length % 64=0:=by rw[hM];exact g7 b
 obtain⟨nb,hy⟩:=AR (M.length / 64);have hd:DZ b=⟨((D1 (hF M nb) 8).map λ n=>UInt8.ofNat n.toNat).toArray⟩:=by rw[hy,hM];rfl
 have a0:M.length=64*nb:=zy
 rw[ha,<- hM,<- hx,hd];have a1:=h1 M;refine arc ⟨69,[(3,DI (M.drop (64*0))),(6,.pt 30 0 0),(7,.pv (Aj B8))],[(30,some ⟨8,[Aj (hF M 0)],0⟩)],2000⟩ ?_ ?_
 .simp (maxSteps:=2000000) [F4]
  refine A0 qS ?_;simp (maxSteps:=2000000) [Ax,iD];exact AJ [(816,30)] [64,824] (by simp[AC,a1]) (by simp[hF,Zu])
 have a2:∀ i,i<=nb->(M.drop (64*i)).length=64*(nb - i):=λ i hi=>by rw[UH,a0];omega
 refine AB (AT (As (ι:=Nat) (λ i=>⟨69,[(3,DI (M.drop (64*i))),(6,.pt 30 0 0),(7,.pv (Aj B8))],[(30,some ⟨8,[Aj (hF M i)],0⟩)],2100⟩) (λ i=>i<=nb) (λ i=>nb - i) 0 zy (BB [(30,30)] []) ?_))
 intro i hi;have he:=a2 i hi;obtain⟨D,hD⟩:=AR (M.drop (64*i));rw[<- hD] at he ⊢;refine AB (arc ⟨69,[(3,DI D),(6,.pt 30 0 0),(7,.pv (Aj B8)),(42,.B (decide (i<nb)))],[(30,some ⟨8,[Aj (hF M i)],0⟩)],2200⟩ ?_ ?_)
 .simp [he]
  exact AJ [(30,30)] [] (by simp[AC]<;>exact BA (by rw[Qv];simp;omega)) (by simp[AC])
 refine AI _ rfl (λ h=>AN ?_) λ h=>Ar (hit ?_)
 .rw [Qf] at h
  have a3:D.drop 64=M.drop (64*(i+1)):=by rw[hD,List.drop_drop];congr 1
  have hf:=oT (hF M i) (D.take 64) B8 (OW M i) (by rw[QU];omega) rfl
  have a4:Ho (hF M i) (D.take 64) B8=hF M (i+1):=by rw[hD];rfl
  rw[a4] at hf;have hg:64<=D.length:=zy
  have au:D.length<=1073742000:=by rw[hD,UH];omega
  refine CX ⟨69,[(3,DI D),(6,.pt 30 0 0),(7,.pv (Aj B8))],[(30,some ⟨8,[Aj (hF M (i+1))],0⟩)],3000⟩ ?_ ?_
  .refine AT (Ap rfl ?_)
   simp[gT,hg];refine B6 (i:=30) rfl (e':=⟨8,[Aj (hF M i)],0⟩) (by simp[AC]) hf zz (by simp[AC,UX]) ?_
   simp;exact BB [(30,30)] []
  refine Ap rfl ?_;simp[jC,hg];have a5:(Bk .u8 D).drop 64=Bk .u8 (D.drop 64):=by simp[Bk,Vi]
  exact⟨i+1,zy,zy,AJ [(30,30)] [] (by simp[AC];rw[<- a3];exact NQ (by rw[a5])) (by simp[AC])⟩
 rw[Qd] at h;obtain rfl:i=nb:=zy
 obtain⟨R,hR⟩:=AR (hF M i);have h2:R.length=8:=by rw[hR];exact OW M i
 rw[<- hR];have hh:D1 R 0=[]:=rfl;have a6:∀ j,D1 R (j+1)=D1 R j++Gg (gt R j):=λ j=>rfl;have a7:=M8 R;refine ar [6,8] [(30,30)] [] 4000 ?_;refine AB (arc ⟨69,[(8,.nilS),(48,.agg (Aj R)),(49,.I 0)],[],4100⟩ ?_ ?_)
 .have hm:∀ f:Int->AV,(R.map f).take 8=R.map f:=λ f=>Qb (by simp[h2])
  simp[h2];exact AJ [] [] (by simp[AC,hm]) (by simp[AC])
 refine AT ?_
 refine As (ι:=Nat) (λ j=>⟨69,[(8,.rs 50 0 (D1 R j).length),(48,.agg (Aj R)),(49,.I j)],[(50,some ⟨1,Bk .u8 (D1 R j),0⟩)],4200⟩) (λ j=>j<=8) (λ j=>8 - j) 0 zy
  (Le.lst [] [] [(50,1)] rfl zz zz zz zz zz zz zz (by simp[Up,hh,AC]) (by simp[hh])) ?_
 intro j hj;have av:=a7 j;refine arc ⟨69,[(8,.rs 50 0 (D1 R j).length),(48,.agg (Aj R)),(49,.I j),(50,.B (decide (j<8)))],[(50,some ⟨1,Bk .u8 (D1 R j),0⟩)],4300⟩ ?_ ?_
 .simp
  exact AJ [(50,50)] [] (by simp[AC]<;>exact BA (by rw[Qv];simp;omega)) (by simp[AC])
 refine AB (AI _ rfl (λ h=>AN ?_) λ h=>Ar (hit ?_))
 .rw [Qf] at h
  have h3:=wq (k:=j);have h0:=h1 (D1 R j);obtain⟨a8,hgt⟩:=Is h2 h;refine CX ⟨69,[(8,.rs 50 0 (D1 R (j+1)).length),(48,.agg (Aj R)),(49,.I j)],[(50,some ⟨1,Bk .u8 (D1 R (j+1)),0⟩)],5000⟩ ?_ ?_
  .rw [a6]
   have a9:Gg (gt R j)=[IntKind.u8.wrap (sh .shr (gt R j) 24),IntKind.u8.wrap (sh .shr (gt R j) 16),IntKind.u8.wrap (sh .shr (gt R j) 8),IntKind.u8.wrap (gt R j)]:=rfl;rw[a9];generalize D1 R j=Y at *;generalize gt R j=w at *;refine AT ?_;apply ax [8,10,48,49] [(50,50)] [] 4400
   .simp [h2,a8,hgt,h]
    refine⟨zy,?_⟩
    rfl
   refine Ap rfl ?_;simp;refine⟨zy,?_⟩
   exact AJ [(4504,50)] [] (by simp[AC]) (by simp[AC,h0])
  refine Ap rfl ?_;simp[h3];exact⟨j+1,zy,zy,BB [(50,50)] []⟩
 rw[Qd] at h;obtain rfl:j=8:=zy
 have h0:=h1 (D1 R 8);apply ax [2] [] [] 6000
 .simp
  refine⟨_,by rw[h0];exact sH _,?_⟩
  rfl
 exact Ca
theorem O4 (v:Int) (k:Nat) (hk:k<=7):IntKind.u8.wrap ((IntKind.u64.wrap v).fdiv (2 ^ (min (8*k) 64)))=EH v k:=by
 have q:k=0∨k=1∨k=2∨k=3∨k=4∨k=5∨k=6∨k=7:=zy
 unfold EH;rw[IntKind.wrap_u64];rcases q with rfl | rfl | rfl | rfl | rfl | rfl | rfl | rfl
 .rw [show (2:Int) ^ (min (8*0) 64)=1 from rfl,QN _ zx,QN _ zx,IntKind.wrap_u8,IntKind.wrap_u8]
  omega
 .rw [show (2:Int) ^ (min (8*1) 64)=256 from rfl,QN _ zx,QN _ zx,IntKind.wrap_u8,IntKind.wrap_u8]
  omega
 .rw [show (2:Int) ^ (min (8*2) 64)=65536 from rfl,QN _ zx,QN _ zx,IntKind.wrap_u8,IntKind.wrap_u8]
  omega
 .rw [show (2:Int) ^ (min (8*3) 64)=16777216 from rfl,QN _ zx,QN _ zx,IntKind.wrap_u8,IntKind.wrap_u8]
  omega
 .rw [show (2:Int) ^ (min (8*4) 64)=4294967296 from rfl,QN _ zx,QN _ zx,IntKind.wrap_u8,IntKind.wrap_u8]
  omega
 .rw [show (2:Int) ^ (min (8*5) 64)=1099511627776 from rfl,QN _ zx,QN _ zx,IntKind.wrap_u8,IntKind.wrap_u8]
  omega
 .rw [show (2:Int) ^ (min (8*6) 64)=281474976710656 from rfl,QN _ zx,QN _ zx,IntKind.wrap_u8,IntKind.wrap_u8]
  omega
 .rw [show (2:Int) ^ (min (8*7) 64)=72057594037927936 from rfl,QN _ zx,QN _ zx,IntKind.wrap_u8,IntKind.wrap_u8]
  omega
theorem Wj (Y:List Int) (v:Int) (j:Nat):Y++EN v (j+1)=(Y++EN v j)++[EH v (7 - j)]:=by rw[P1,QG]
theorem Yq (b l:List Int) (hg:b.length<=1000000) (hl:l.length<=1000):AK 143 [.rs 0 0 b.length,AA l] [⟨1,Bk .u8 b,0⟩] (.rs 1 0 (b.length+8*l.length)) [none,some ⟨1,Bk .u8 (b++l.flatMap CA),0⟩]:=by
 refine LL.s.ai ?_
 let q:Nat->List Int:=λ i=>b++(l.take i).flatMap CA
 have u:∀ i,i<=l.length->(q i).length=b.length+8*i:=λ i hi=>by simp only[q];rw[Qm,Ri,QU,UZ hi]
 have h5:∀ i (h:i<l.length),q (i+1)=q i++EN l[i] 8:=λ i h=>by simp only[q];rw[Ql h,List.flatMap_append,List.flatMap_singleton];simp only[QG];rfl
 have h0:q 0=b:=by simp[q]
 have h6:q l.length=b++l.flatMap CA:=by simp[q]
 rw[<- h6,<- u _ (Qk _)];refine ar [0,1] [(0,0)] [] 100 ?_;refine AB ?_;apply ax [0,8,9,10] [(0,0)] [] 200
 .simp [AC]
  rfl
 refine AT (As (ι:=Nat) (λ i=>⟨28,[(0,.rs 50 0 (q i).length),(8,AA l),(9,.I l.length),(10,.I i)],[(50,some ⟨1,Bk .u8 (q i),0⟩)],300⟩) (λ i=>i<=l.length) (λ i=>l.length - i) 0 zy (AJ [(0,50)] [] (by simp[h0]) (by simp[AC,h0])) ?_)
 clear_value q
 intro i hi;have h7:=u i hi;refine A2 ⟨28,[(0,.rs 50 0 (q i).length),(8,AA l),(9,.I l.length),(10,.I i),(11,.B (decide (i<l.length)))],[(50,some ⟨1,Bk .u8 (q i),0⟩)],400⟩ [(50,50)] [] ?_;refine AB (AI _ rfl (λ h=>AN ?_) λ h=>Ar (hit ?_))
 .rw [Qf] at h
  have hs:=h5 i h;have h1:l[i]? = some l[i]:=Qa h;obtain⟨v,hv⟩:=AR (l[i]);rw[<- hv] at h1 hs;have h9:=Gt h zy
  obtain⟨Y,hY⟩:=AR (q i);rw[<- hY] at hs h7 ⊢;obtain⟨V,hV⟩:=AR (IntKind.u64.wrap v);refine AB (AT ?_);apply ax [0,6,8,9,10] [(50,50)] [] 500
  .simp [h1,<- hv,h]
   rfl
  refine ar [0,6,7,8,9,10] [(50,50)] [] 600 ?_;refine AT ?_;obtain⟨r,hr⟩:∃ r:Nat->List Int,∀ j,r j=Y++EN v j:=⟨_,λ _=>rfl⟩;have h2:r 0=Y:=by rw[hr];simp[EN]
  have ha:Y++EN v 8=r 8:=(hr 8).symm;have hq1:∀ j,(r j).length=Y.length+j:=λ j=>by rw[hr,Qm,LX]
  have hb:∀ j,r (j+1)=r j++[EH v (7 - j)]:=λ j=>by rw[hr,hr,Wj]
  rw[ha] at hs;refine As (ι:=Nat) (λ j=>⟨28,[(0,.rs 50 0 (r j).length),(6,.I v),(7,.I (56 - 8*(j:Int))),(8,AA l),(9,.I l.length),(10,.I i)],[(50,some ⟨1,Bk .u8 (r j),0⟩)],700⟩) (λ j=>j<=8) (λ j=>8 - j) 0 zy (AJ [(50,50)] [] (by simp[h2]) (by simp[AC,h2])) ?_
  intro j hj;have hh:=hq1 j;refine AB (arc ⟨28,[(0,.rs 50 0 (r j).length),(6,.I v),(7,.I (56 - 8*(j:Int))),(8,AA l),(9,.I l.length),(10,.I i),(15,.B (decide (j<8)))],[(50,some ⟨1,Bk .u8 (r j),0⟩)],800⟩ ?_ ?_)
  .simp
   exact AJ [(50,50)] [] (by simp[AC]<;>exact BA (by rw[Qv];simp;omega)) (by simp[AC])
  refine AI _ rfl (λ h8=>AN ?_) λ h8=>Ar (hit ?_)
  .rw [Qf] at h8
   have h3:=hb j;obtain⟨k,hk⟩:∃ k:Nat,k=7 - j:=⟨_,rfl⟩;obtain⟨s,hc⟩:∃ s:Nat,s=8*k:=⟨_,rfl⟩;have hd:(56 - 8*(j:Int))=(s:Int):=zy
   have h4:IntKind.u8.wrap (V.fdiv (2 ^ (min s 64)))=EH v k:=by
    rw[hc,hV];exact O4 v k zy
   have he:IntKind.i64.wrap ((s:Int) - 8)=56 - 8*((j+1:Nat):Int):=by rw[w6];omega
   rw[hd];rw[<- hk] at h3;refine CX ⟨28,[(0,.rs 50 0 (r (j+1)).length),(6,.I v),(7,.I (s:Int)),(8,AA l),(9,.I l.length),(10,.I i)],[(50,some ⟨1,Bk .u8 (r (j+1)),0⟩)],1000⟩ ?_ ?_
   .rw [h3]
    generalize r j=Z at *;generalize EH v k=y at h4 ⊢;have hf:(Z.map λ x=>[AV.sc (.int .u8 x)]).take Z.length=Z.map λ x=>[AV.sc (.int .u8 x)]:=Qb zz
    refine AT (Ap rfl ?_);simp[<- hV,IntKind.bits,h4];refine⟨zy,?_⟩
    exact AJ [(856,50)] [] (by simp[AC]) (by simp[AC,hf])
   refine Ap rfl ?_;simp[he];exact⟨j+1,zy,zy,BB [(50,50)] []⟩
  rw[Qd] at h8;obtain rfl:j=8:=zy
  rw[<- hs];refine Ap rfl ?_;simp[h9];exact⟨i+1,zy,zy,BB [(50,50)] []⟩
 rw[Qd] at h;obtain rfl:i=l.length:=zy
 refine ar [4] [(50,50)] [] 2000 ?_;exact A8 (AW.m1 50 zx rfl zz zz (by simp[AC]))
theorem wM (b:List Int) (v:Int) (hb:b.length<=1000000):AK 143 [.vs 1 true (Bk .u8 b),AA [v]] [] (.rs 0 0 (b.length+8)) [some ⟨1,Bk .u8 (b++CA v),0⟩]:=by
 obtain⟨L,hL⟩:=AR ([v]);have h0:L.length=1:=by rw[hL];rfl
 have h3:∀ h:0<L.length,L[0]=v:=λ h=>by simp[hL]
 have h1:IntKind.i64.wrap 48=48:=w6;rw[<- hL];refine LL.s.ai ?_;obtain⟨r,hr⟩:∃ r:Nat->List Int,∀ j,r j=b++EN v j:=⟨_,λ _=>rfl⟩;have h4:r 0=b:=by rw[hr];simp[EN]
 have h5:b++CA v=r 8:=(hr 8).symm;have hq1:∀ j,(r j).length=b.length+j:=λ j=>by rw[hr,Qm,LX]
 have h2:∀ j,r (j+1)=r j++[EH v (7 - j)]:=λ j=>by rw[hr,hr,Wj]
 rw[h5,<- hq1 8];obtain⟨V,hV⟩:=AR (IntKind.u64.wrap v);refine ar [0,1] [] [] 100 ?_;refine AB ?_;apply ax [0,8,9,10] [] [] 200
 .simp [AC,h0]
  rfl
 refine AT (As (ι:=Bool) (λ c=>match c with | false=>⟨28,[(0,.vs 1 true (Bk .u8 b)),(8,AA L),(9,.I 1),(10,.I 0)],[],300⟩ | true=>⟨28,[(0,.rs 50 0 (r 8).length),(8,AA L),(9,.I 1),(10,.I 1)],[(50,some ⟨1,Bk .u8 (r 8),0⟩)],300⟩) (λ _=>True) (λ c=>match c with | false=>1 | true=>0) false trivial (BP [] []) ?_)
 intro c _
 cases c with
 | true =>
   simp only;refine A2 ⟨28,[(0,.rs 50 0 (r 8).length),(8,AA L),(9,.I 1),(10,.I 1),(11,.B false)],[(50,some ⟨1,Bk .u8 (r 8),0⟩)],400⟩ [(50,50)] [] ?_;refine AB (AI _ rfl (λ h=>by cases h) λ h=>Ar (hit ?_))
   refine ar [4] [(50,50)] [] 2000 ?_;exact Bx [50] []
 | false =>
   simp only;refine A2 ⟨28,[(0,.vs 1 true (Bk .u8 b)),(8,AA L),(9,.I 1),(10,.I 0),(11,.B true)],[],400⟩ [] [] ?_;refine AB (AI _ rfl (λ h=>AN ?_) λ h=>by cases h)
   refine AB (AT ?_);apply ax [0,6,8,9,10] [] [] 500
   .simp [h3,h0]
    rfl
   refine ar [0,6,7,8,9,10] [] [] 600 ?_;refine AT (As (ι:=Nat) (λ j=>match j with | 0=>⟨28,[(0,.vs 1 true (Bk .u8 b)),(6,.I v),(7,.I 56),(8,AA L),(9,.I 1),(10,.I 0)],[],700⟩ | j+1=>⟨28,[(0,.rs 50 0 (r (j+1)).length),(6,.I v),(7,.I (48 - 8*(j:Int))),(8,AA L),(9,.I 1),(10,.I 0)],[(50,some ⟨1,Bk .u8 (r (j+1)),0⟩)],700⟩) (λ j=>j<=8) (λ j=>8 - j) 0 zy (BP [] []) ?_)
   intro j hj
   cases j with
   | zero =>
     simp only;refine AB (A2 ⟨28,[(0,.vs 1 true (Bk .u8 b)),(6,.I v),(7,.I 56),(8,AA L),(9,.I 1),(10,.I 0),(15,.B true)],[],800⟩ [] [] ?_);refine AI _ rfl (λ h=>AN ?_) λ h=>by cases h
     have u:=h2 0;rw[h4] at u
     have q:IntKind.u8.wrap (V.fdiv (2 ^ (min 56 64)))=EH v 7:=by
      rw[hV];exact O4 v 7 zy
     refine CX ⟨28,[(0,.rs 50 0 (r 1).length),(6,.I v),(7,.I 56),(8,AA L),(9,.I 1),(10,.I 0)],[(50,some ⟨1,Bk .u8 (r 1),0⟩)],1000⟩ ?_ ?_
     .rw [show r 1=b++[EH v 7] from u]
      generalize EH v 7=y at q ⊢;refine AT (Ap rfl ?_);simp at q;simp[<- hV,IntKind.bits,q];refine⟨zy,?_⟩
      exact BB [(856,50)] []
     refine Ap rfl ?_;simp[h1];exact⟨1,zy,zy,BB [(50,50)] []⟩
   | succ j =>
     simp only;have hc:=hq1 (j+1);refine AB (arc ⟨28,[(0,.rs 50 0 (r (j+1)).length),(6,.I v),(7,.I (48 - 8*(j:Int))),(8,AA L),(9,.I 1),(10,.I 0),(15,.B (decide (j<7)))],[(50,some ⟨1,Bk .u8 (r (j+1)),0⟩)],800⟩ ?_ ?_)
     .simp
      exact AJ [(50,50)] [] (by simp[AC]<;>exact BA (by rw[Qv];simp;omega)) (by simp[AC])
     refine AI _ rfl (λ h8=>AN ?_) λ h8=>Ar (hit ?_)
     .rw [Qf] at h8
      have u:=h2 (j+1);obtain⟨k,hk⟩:∃ k:Nat,k=7 - (j+1):=⟨_,rfl⟩;obtain⟨s,h6⟩:∃ s:Nat,s=8*k:=⟨_,rfl⟩;have h7:(48 - 8*(j:Int))=(s:Int):=zy
      have q:IntKind.u8.wrap (V.fdiv (2 ^ (min s 64)))=EH v k:=by
       rw[h6,hV];exact O4 v k zy
      have h9:IntKind.i64.wrap ((s:Int) - 8)=48 - 8*((j+1:Nat):Int):=by rw[w6];omega
      rw[h7];rw[<- hk] at u;refine CX ⟨28,[(0,.rs 50 0 (r (j+1+1)).length),(6,.I v),(7,.I (s:Int)),(8,AA L),(9,.I 1),(10,.I 0)],[(50,some ⟨1,Bk .u8 (r (j+1+1)),0⟩)],1000⟩ ?_ ?_
      .rw [u]
       generalize r (j+1)=Z at *;generalize EH v k=y at q ⊢;have ha:(Z.map λ x=>[AV.sc (.int .u8 x)]).take Z.length=Z.map λ x=>[AV.sc (.int .u8 x)]:=Qb zz
       refine AT (Ap rfl ?_);simp[<- hV,IntKind.bits,q];refine⟨zy,?_⟩
       exact AJ [(856,50)] [] (by simp[AC]) (by simp[AC,ha])
      refine Ap rfl ?_;simp[h9];exact⟨j+1+1,zy,zy,BB [(50,50)] []⟩
     rw[Qd] at h8;obtain rfl:j=7:=zy
     refine Ap rfl ?_;simp[show IntKind.i64.wrap 1=1 from w6]
     exact BB [(50,50)] []
theorem uT (b l:List Int) (h0:b.length<=900000) (hl:l.length<=1000):AK 94 [.rs 0 0 b.length,AA l] [⟨1,Bk .u8 b,0⟩] (.rs 1 0 (b.length+8+8*l.length)) [none,some ⟨1,Bk .u8 (b++IA l),0⟩]:=by
 refine N8.s.ai ?_;have c1:=Yq b [(l.length:Int)] zy zz
 obtain⟨b1,q⟩:=AR (b++CA l.length);have l1:b1.length=b.length+8:=by rw[q,Qm,Jz]
 simp only[List.flatMap_singleton,QT,Nat.mul_one] at c1;rw[<- q,<- l1] at c1;have c2:=Yq b1 l zy hl
 obtain⟨b2,u⟩:=AR (b++IA l);have l2:b2.length=b1.length+8*l.length:=by rw[u,Qm,YX];omega
 have e2:b1++l.flatMap CA=b2:=by rw[q,u,IA,QG]
 rw[e2,<- l2] at c2;rw[<- u,show b.length+8+8*l.length=b2.length by omega]
 refine ar [0,1] [(0,0)] [] 100 ?_;apply ax [4] [(148,50)] [] 200
 .simp
  refine Kz (i:=0) (j:=124) zx zx rfl rfl (e':=⟨1,Bk .u8 b,0⟩) (by simp[AC]) c1 zz zz ?_
  simp;refine B6 (i:=132) rfl (e':=⟨1,Bk .u8 b1,0⟩) (by simp[AC]) c2 zz zz ?_
  simp;rfl
 exact A8 (AW.m1 50 zx rfl zz zz (by simp[AC]))
structure Pn where
 a:Int
 h:Int
 d:ByteArray
structure Au where
 au:Int
 nu:Int
 pr:ByteArray
 ti:Int
 ki:Int
 a:Int
 b:Int
 c:Int
 li:List Int
 pi:List Pn
 bo:ByteArray
 sk:Int
 sd:ByteArray
def Tl (s:Au):Prop:=s.pr.size<=5000/\s.bo.size<=5000/\s.li.length<=100/\s.pi.length<=100 /\ ∀ p∈s.pi,p.d.size<=5000
def N3 (p:Pn):List Int:=CA p.a++CA p.h++PC p.d
def i6 (l:List Pn):List Int:=l.flatMap N3
def dY (s:Au):List Int:=[s.ti,s.ki,s.a,s.b,s.c]
def vX (s:Au):List Int:=CA s.au++CA s.nu++PC s.pr
def qQ (s:Au):List Int:=vX s++(dY s).flatMap CA++IA s.li++CA s.pi.length++i6 s.pi++PC s.bo
def HU (s:Au):ByteArray:=DZ (qQ s)
def vL (l:List Pn) (i:Nat):Prop:=∀ h:i<l.length,(0<=l[i].a/\l[i].a<64)/\(0<i->l[i - 1].a<l[i].a)/\1<=l[i].h/\l[i].h<=200/\l[i].d.size=32
def dK (l:List Pn):Prop:=∀ i,vL l i
def K1 (s:Au):Prop:=(0<=s.a/\s.a<64)/\s.a≠s.au/\1<=s.b/\s.b<=3/\s.ti<=s.c/\s.c<=2147483648
def K2 (s:Au):Prop:=(0<=s.a/\s.a<=199)/\s.b=0/\s.c=0
def K3 (s:Au):Prop:=s.a=0/\s.b=0/\s.c=0
instance (s:Au):Decidable (K1 s):=by unfold K1;infer_instance
instance (s:Au):Decidable (K2 s):=by unfold K2;infer_instance
instance (s:Au):Decidable (K3 s):=by unfold K3;infer_instance
def NA (s:Au):Prop:=(s.ki=1->K1 s)/\(s.ki=2->K2 s)/\(s.ki=3->K3 s)
instance (s:Au):Decidable (NA s):=by unfold NA;infer_instance
def IL (x:Int):Prop:=0<=x/\x<=1099511627776
instance (x:Int):Decidable (IL x):=by unfold IL;infer_instance
def OQ (s:Au):Prop:=(0<=s.nu/\s.nu<=199)/\IL s.a/\IL s.b/\IL s.c/\(∀ x∈s.li,IL x)/\NA s
instance (s:Au):Decidable (OQ s):=by unfold OQ;infer_instance
def PY (s:Au):Prop:=s.li.length<=64/\s.pi.length<=64/\s.bo.size<=4096
def rJ (s:Au):Prop:=(s.nu=0->s.pr.toList=[])/\(0<s.nu->s.pr.size=32)/\dK s.pi
def PU (s:Au):Prop:=s.ki<=3->s.li.length=0/\s.pi.length=0/\s.bo.toList=[]
def NP (s:Au):Prop:=1<=s.ki/\(s.ki<=3∨10<=s.ki)/\s.ki<=31
def OC (s:Au):Prop:=0<=s.au/\s.au<64
def Mh (s:Au):Prop:=0<=s.ti/\s.ti<=2147483648
instance (s:Au):Decidable (OC s):=by unfold OC;infer_instance
instance (s:Au):Decidable (Mh s):=by unfold Mh;infer_instance
instance (s:Au):Decidable (NP s):=by unfold NP;infer_instance
instance (s:Au):Decidable (PY s):=by unfold PY;infer_instance
instance (s:Au):Decidable (PU s):=by unfold PU;infer_instance
def Ft (s:Au):Prop:=OC s/\NP s/\Mh s/\OQ s/\PY s/\rJ s/\PU s
structure KW (au:Int) (i:Nat) (s:Au):Prop where
 ok:Ft s
 b:Tl s
 au_:s.au=au
 nu_:s.nu=i
 sk_:s.sk=s.au
 sd_:s.sd.toList=(HU s).toList
structure JY (a b:Au):Prop where
 pr_:b.pr.toList=(HU a).toList
 ti_:a.ti<=b.ti
 ki_:a.ki≠3
def F2 (au:Int) (l:List Au):Prop:=(∀ i (h:i<l.length),KW au i l[i]) /\ ∀ i (h:i+1<l.length),JY l[i] l[i+1]
structure BE where
 fr:Int
 to:Int
 lv:Int
 nu:Int
 ti:Int
 en:Int
 re:Int
abbrev vC (v:BE):List AV:=[.I v.fr,.I v.to,.I v.lv,.I v.nu,.I v.ti,.I v.en,.I v.re]
abbrev eV (v:BE):AV:=.agg (vC v)
abbrev B4 (l:List BE):List (List AV):=l.map vC
def OA (aA:List AV):Prop:=∀ ρ sn h n,aA.map (conv ρ sn h (n+1))=aA
def E2 (c:BE->BE->Int):List BE->BE->List BE
 | [],x=>[x]
 | y::r,x=>if c x y<0 then y::E2 c r x else x::y::r
def GC (c:BE->BE->Int) (M:List BE):List BE:=M.foldl (E2 c) []
def GB (c:BE->BE->Int) (M:List BE):List BE:=(GC c M).reverse
theorem Tp (c:BE->BE->Int):∀ (r:List BE) (x:BE),(E2 c r x).Perm (x::r)
 | [],x=>.refl _
 | y::r,x=>by
   unfold E2;split
   .exact ((Tp c r x).cons y).trans (.swap _ _ _)
   .exact .refl _
theorem sY (c:BE->BE->Int) (M:List BE) (k:Nat) (h:k<M.length):GC c (M.take (k+1))=E2 c (GC c (M.take k)) M[k]:=by
 unfold GC;rw[<- Vc h,U9,UW];rfl
theorem Xr (c:BE->BE->Int) (M:List BE):(GC c M).Perm M:=by
 have key:∀ (M acc:List BE),(M.foldl (E2 c) acc).Perm (M++acc):=by
  intro M
  induction M with
  | nil=>intro acc;exact .refl _
  | cons x M ih =>
    intro acc;refine(ih _).trans ?_;refine((Tp c acc x).append_left M).trans ?_;simp only[Q6];exact List.perm_middle
 simpa [GC] using key M []
theorem nR (c:BE->BE->Int) (M:List BE):(GC c M).length=M.length:=(Xr c M).length_eq
theorem sE (c:BE->BE->Int) (x:BE):GC c [x]=[x]:=rfl
theorem Le.npV {st st':St} {D:List BE} (sn:List Nat) (q:st'.sz=st.sz) (hn:1<=st'.n) (hh:st'.h=[(0,some ⟨7,B4 D,0⟩)]) (hs:∀ k∈sn,1<=k) (he:st.hp 0=some ⟨7,B4 D,0⟩) (ht:∀ p∈st'.t,Wk (conv [(0,0)] sn st.hp 4 (st.get p.1)) p.2):Le 1 st st' :=
 Le.ents [(0,0)] sn q zz zz zw (λ k hk=>⟨hs k hk,by have:=hs k hk;simp;omega⟩) hn ht (λ p hp=>by
  rw[hh] at hp;simp at hp;subst hp
  exact⟨0,_,_,rfl,zz,he,An.eq (by simp[AC]) zz⟩)
theorem Xa {H T:List BE} {y x:BE} {h:Nat} (hh:H.length=h):(B4 (H++y::x::T))[h]? = some (vC y)/\(B4 (H++y::x::T))[h+1]? = some (vC x):=by
 subst hh;constructor
 .rw [QH,Qs zy]
  simp
 .rw [QH,Qs zy]
  simp
theorem fX {H T:List BE} {y x:BE} {h:Nat} (hh:H.length=h):((B4 (H++y::x::T)).set (h+1) (vC y)).set h (vC x)=B4 (H++x::y::T):=by
 subst hh;simp[B4]
theorem wI (f:FuncId) (aA:List AV) (c:BE->BE->Int) (A M B:List BE) (n a b:Nat) (hn:(A++M++B).length=n) (ha:A.length=a) (hb:a+M.length=b) (hl:n<=1000000) (hs:OA aA) (hc:∀ x∈M,∀ y∈M,AK f (eV x::eV y::aA) [] (.I (c x y)) []) :
  AK 457 [.rs 0 0 n,.I a,.I b,.fn (.func f) [] aA] [⟨7,B4 (A++M++B),0⟩] (.tup []) [some ⟨7,B4 (A++GB c M++B),0⟩]:=by
 have h7:∀ ρ sn h,aA.map (conv ρ sn h 2)=aA:=λ _ _ _=>hs _ _ _ 1
 have h8:∀ ρ sn h,aA.map (conv ρ sn h 3)=aA:=λ _ _ _=>hs _ _ _ 2
 have h3:∀ ρ sn h,aA.map (conv ρ sn h 4)=aA:=λ _ _ _=>hs _ _ _ 3
 refine OH.s.acalls (Bf rfl) (Bf rfl) (Bf rfl) ?_;show Ad _ 1 _ _ ⟨53,[(0,.rs 0 0 n),(1,.I a),(2,.I b),(3,.fn (.func f) [] aA)],[(0,some ⟨7,B4 (A++M++B),0⟩)],16⟩
 have a9:a+(M.length+B.length)=n:=by
  simp only[Qm] at hn;omega
 have ai:b<=n:=zy
 have hw:=wq (k:=a)
 let Lk:Nat->List BE:=λ k=>A++((GC c (M.take k)).reverse++(M.drop k++B))
 have a0:A++M++B=Lk 1:=by
  cases M with
  | nil=>simp[Lk,GC]
  | cons m M=>simp[Lk,sE]
 rw[a0];refine arc ⟨53,[(0,.rs 0 0 n),(1,.I a),(2,.I b),(3,.fn (.func f) [] aA),(8,.I (a+1:Nat))],[(0,some ⟨7,B4 (Lk 1),0⟩)],40⟩ ?_ ?_
 .simp [hw]
  exact Cp
 refine AT (As (ι:=Nat) (λ k=>⟨53,[(0,.rs 0 0 n),(1,.I a),(2,.I b),(3,.fn (.func f) [] aA),(8,.I (a+k:Nat))],[(0,some ⟨7,B4 (Lk k),0⟩)],40⟩) (λ k=>1<=k/\k<=M.length+1/\(M.length<=k->B4 (Lk k)=B4 (A++GB c M++B))) (λ k=>M.length+1 - k) 1 ?_ (Le.refl _ _) ?_)
 .refine ⟨Qk _,zy,λ h=>?_⟩
  simp only[Lk];rw[Qb h,Um h];simp[GB]
 rintro k ⟨an,au,a1⟩
 refine AB (arc ⟨53,[(0,.rs 0 0 n),(1,.I a),(2,.I b),(3,.fn (.func f) [] aA),(8,.I (a+k:Nat)),(14,.B (decide (k<M.length)))],[(0,some ⟨7,B4 (Lk k),0⟩)],64⟩ ?_ ?_)
 .simp
  exact Le.keep rfl (Qk _) (by simp<;>omega) zz
 refine AI _ rfl (λ h=>AN ?_) λ h=>Ar (hit ?_)
 .simp only[Qf] at h
  refine CX ⟨53,[(0,.rs 0 0 n),(1,.I a),(2,.I b),(3,.fn (.func f) [] aA),(8,.I (a+k:Nat))],[(0,some ⟨7,B4 (Lk (k+1)),0⟩)],64⟩ ?_ ?_
  .have hx:M[k]∈M:=Qj h
   have hd:M.drop k=M[k]::M.drop (k+1):=QQ h;have hf:=sY c M k h;generalize M[k]=x at *;obtain⟨D,hD⟩:=AR (M.drop (k+1)++B);obtain⟨R,hR⟩:=AR (GC c (M.take k))
   have a2:∀ y∈R,y∈M:=λ y hy=>by
    rw[hR] at hy;exact QR ((Xr c _).mem_iff.1 hy)
   have hm:R.length=k:=by rw[hR,nR];simp;omega
   have av:D.length+k+1=M.length+B.length:=by rw[hD];simp;omega
   have a3:Lk k=A++R.reverse++x::D:=by simp only[Lk];rw[hd,<- hR,hD];simp
   have ho:Lk (k+1)=A++(E2 c R x).reverse++D:=by simp only[Lk];rw[hf,<- hR,hD];simp
   rw[a3,ho];refine AT (arc ⟨53,[(0,.rs 0 0 n),(1,.I a),(2,.I b),(3,.fn (.func f) [] aA),(8,.I (a+k:Nat)),(9,.I (a+k:Nat))],[(0,some ⟨7,B4 (A++R.reverse++x::D),0⟩)],80⟩ ?_ ?_)
   .simp
    exact Cp
   refine AT ?_
   let C:List BE × List BE->St:=λ p=>⟨53,[(0,.rs 0 0 n),(1,.I a),(2,.I b),(3,.fn (.func f) [] aA),(8,.I (a+k:Nat)),(9,.I (a+p.2.length:Nat))],[(0,some ⟨7,B4 (A++p.2.reverse++x::(p.1++D)),0⟩)],80⟩
   refine As C (λ p:List BE × List BE=>E2 c R x=p.1.reverse++E2 c p.2 x/\p.1.length+p.2.length=k /\ ∀ y∈p.2,y∈M) (λ p:List BE × List BE=>p.2.length) ([],R) ⟨rfl,by simpa using hm,a2⟩ ?_ ?_
   .simp only[C,hm,Uu]
    exact Le.refl _ _
   rintro⟨U,V⟩ ⟨u,h0,h1⟩
   simp only at u h0 h1
   match V,u,h0,h1 with
   | [],u,h0,h1 =>
     have hC:C (U,[])=⟨53,[(0,.rs 0 0 n),(1,.I a),(2,.I b),(3,.fn (.func f) [] aA),(8,.I (a+k:Nat)),(9,.I a)],[(0,some ⟨7,B4 (A++x::(U++D)),0⟩)],80⟩:=by simp[C]
     rw[hC];refine AB (Cd ⟨53,[(0,.rs 0 0 n),(1,.I a),(2,.I b),(3,.fn (.func f) [] aA),(8,.I (a+k:Nat)),(34,.B false)],[(0,some ⟨7,B4 (A++x::(U++D)),0⟩)],216⟩ ?_ ?_)
     .simp
      exact⟨rfl,Cp⟩
     refine AI _ rfl (λ h=>by cases h) λ h=>Ar (hit ?_)
     have e:A++x::(U++D)=A++(E2 c R x).reverse++D:=by rw[u];simp[E2]
     rw[<- e];exact Le.npV [] rfl zz rfl zz rfl (by simp[h7,h8,h3])
   | y::V',u,h0,h1 =>
     obtain⟨H,hH⟩:=AR (A++V'.reverse);obtain⟨T,hT⟩:=AR (U++D);obtain⟨q,hq⟩:=AR (a+V'.length);obtain⟨j,hj⟩:=AR (q+1);have h4:H.length=q:=by rw[hH,hq];simp;omega
     have hr:(H++y::x::T).length=n:=by
      have e:(H++y::x::T).length=H.length+(T.length+2):=zz
      rw[e,h4,hT,Qm];simp at h0;omega
     have hg:=(Xa (T:=T) (y:=y) (x:=x) h4).1;have hh:=(Xa (T:=T) (y:=y) (x:=x) h4).2;have h6:=fX (T:=T) (y:=y) (x:=x) h4;rw[<- hj] at hh h6
     have hC:C (U,y::V')=⟨53,[(0,.rs 0 0 n),(1,.I a),(2,.I b),(3,.fn (.func f) [] aA),(8,.I (a+k:Nat)),(9,.I j)],[(0,some ⟨7,B4 (H++y::x::T),0⟩)],80⟩:=by
      simp[C,hH,hT,hj,hq,UG]
     rw[hC];have a4:=hc x hx y (h1 y Qi);have ht:j<n:=by rw[<- hr,hj,<- h4];simp
     have hi:IntKind.i64.wrap ((j:Int) - 1)=(q:Int):=by rw[w6];omega
     have hu:q<n:=zy
     have a5:a<j:=zy
     have ag:(B4 (H++y::x::T)).length=n:=by rw[B4,QB,hr]
     generalize hX:B4 (H++y::x::T)=X at *;have hk:∀ ρ sn h m,X.map (List.map (conv ρ sn h (m+1)))=X:=λ ρ sn h m=>by rw[<- hX];simp[AC]
     refine AB (Cd ⟨53,[(0,.rs 0 0 n),(1,.I a),(2,.I b),(3,.fn (.func f) [] aA),(8,.I (a+k:Nat)),(9,.I j),(34,.B (decide (c x y<0)))],[(0,some ⟨7,X,0⟩)],216⟩ ?_ ?_)
     .simp [a5,ht,hu,hg,hh,hi]
      refine A4 a4 ?_ ?_
      .simp [h3]
      simp;exact⟨rfl,Cp⟩
     refine AI _ rfl (λ h5=>AN ?_) λ h5=>Ar (hit ?_)
     .simp only[Qf] at h5
      have a6:(X.set j (vC y))[q]? = some (vC y):=by
       rw[List.getElem?_set,if_neg zy]
       exact hg
      generalize hY:B4 (H++x::y::T)=Y at h6;refine CX ⟨53,[(0,.rs 0 0 n),(1,.I a),(2,.I b),(3,.fn (.func f) [] aA),(8,.I (a+k:Nat)),(9,.I j)],[(0,some ⟨7,Y,0⟩)],360⟩ ?_ ?_
      .refine AT (ET rfl ?_)
       simp[ht,hu,hg,hh,a6,hi,Ax];exact⟨rfl,Le.keep rfl (Qk _) zz (by simp;exact h6)⟩
      refine Ap rfl ?_;simp[hi];refine⟨y::U,V',⟨?_,?_,?_⟩,?_,?_⟩
      .rw [u,E2,if_pos h5];simp
      .simp at h0 ⊢;omega
      .exact λ z hz=>h1 z (Qg _ hz)
      .simp
      .have a7:C (y::U,V')=⟨53,[(0,.rs 0 0 n),(1,.I a),(2,.I b),(3,.fn (.func f) [] aA),(8,.I (a+k:Nat)),(9,.I q)],[(0,some ⟨7,Y,0⟩)],80⟩:=by rw[<- hY];simp[C,hH,hT,hq]
       rw[a7];have h9:∀ ρ sn h m,Y.map (List.map (conv ρ sn h (m+1)))=Y:=λ ρ sn h m=>by rw[<- hY];simp[AC]
       exact Le.ents [(0,0)] [] rfl zz zz zz zz zz (by simp[h7,h8,h3]) λ p hp=>by
        simp at hp;subst hp;exact⟨0,_,_,rfl,zz,rfl,An.eq (by simp only[Ab,h9]) zz⟩
     .simp only[Qd] at h5
      have e:H++y::x::T=A++(E2 c R x).reverse++D:=by rw[u,E2,if_neg h5,hH,hT];simp
      rw[<- e,hX]
      exact Le.ents [(0,0)] [] rfl zz zz zz zz zz (by simp[h7,h8,h3]) λ p hp=>by
       simp at hp;subst hp;exact⟨0,_,_,rfl,zz,rfl,An.eq (by simp only[Ab,hk]) zz⟩
  have a8:IntKind.i64.wrap (((a+k:Nat):Int)+1)=((a+(k+1):Nat):Int):=by rw[w6];omega
  refine Ap rfl ?_;have hv:IntKind.i64.wrap ((a:Int)+(k:Int)+1)=((a+(k+1):Nat):Int):=by rw[<- a8];congr 1
  simp[hv];refine⟨k+1,⟨zy,zy,λ h2=>?_⟩,zy,?_⟩
  .have he:M.length=k+1:=zy
   simp only[Lk];rw[Qb zy,Um zy]
   simp[GB]
  .exact Le.npV [] rfl zz rfl zz rfl (by simp[h7,h8,h3])
 simp only[Qd] at h;rw[a1 zy]
 exact⟨.inl rfl,⟨[],rfl,[],[],by simp[List.range,List.range.loop],zz,zz,zz,by simp[List.range,List.range.loop,AC]⟩⟩
theorem mC (f:FuncId) (aA:List AV) (c:BE->BE->Int) (l:List BE) (n:Nat) (hn:l.length=n) (hl:n<20) (hs:OA aA) (hc:∀ x∈l,∀ y∈l,AK f (eV x::eV y::aA) [] (.I (c x y)) []) :
  AK 455 [.rs 0 0 n,.I n,.fn (.func f) [] aA] [⟨7,B4 l,0⟩] (.tup []) [some ⟨7,B4 (GB c l),0⟩]:=by
 have u:∀ ρ sn h,aA.map (conv ρ sn h 2)=aA:=λ _ _ _=>hs _ _ _ 1
 have h0:∀ ρ sn h,aA.map (conv ρ sn h 3)=aA:=λ _ _ _=>hs _ _ _ 2
 have h1:∀ ρ sn h,aA.map (conv ρ sn h 4)=aA:=λ _ _ _=>hs _ _ _ 3
 refine Mt.s.acalls (Bf rfl) (Bf rfl) (Bf rfl) ?_;show Ad _ 1 _ _ ⟨63,[(0,.rs 0 0 n),(1,.I n),(2,.fn (.func f) [] aA)],[(0,some ⟨7,B4 l,0⟩)],16⟩;have q:=wI f aA c [] l [] n 0 n (by simpa using hn) rfl (by simpa using hn) zy hs hc
 simp only[Uu,Q0] at q;refine AB (AY ?_);refine arc ⟨63,[(0,.rs 0 0 n),(1,.I n),(2,.fn (.func f) [] aA),(6,.I 20),(7,.I 0),(8,.I 20)],[(0,some ⟨7,B4 l,0⟩)],48⟩ ?_ ?_
 .simp
  exact Cp
 refine AB (AT (As (ι:=Unit) (λ _=>⟨63,[(0,.rs 0 0 n),(1,.I n),(2,.fn (.func f) [] aA),(6,.I 20),(7,.I 0),(8,.I 20)],[(0,some ⟨7,B4 l,0⟩)],48⟩) (λ _=>True) (λ _=>0) () trivial (Le.refl _ _) ?_));intro _ _;refine AB (arc ⟨63,[(0,.rs 0 0 n),(1,.I n),(2,.fn (.func f) [] aA),(6,.I 20),(7,.I 0),(8,.I 20),(13,.B false)],[(0,some ⟨7,B4 l,0⟩)],72⟩ ?_ ?_)
 .simp
  exact Le.keep rfl (Qk _) zw zz
 refine AI _ rfl (λ h=>by cases h) λ _=>Ar (hit ?_)
 refine arc ⟨63,[(1,.I n),(6,.I 20)],[(0,some ⟨7,B4 (GB c l),0⟩)],112⟩ ?_ ?_
 .simp
  refine B6 (i:=0) rfl (e':=⟨7,B4 l,0⟩) (by simp[AC]) q zz ?_ ?_
  .simp [u,h0,h1]
  simp[AC];exact Cp
 refine AT (As (ι:=Unit) (λ _=>⟨63,[(1,.I n),(6,.I 20)],[(0,some ⟨7,B4 (GB c l),0⟩)],112⟩) (λ _=>True) (λ _=>0) () trivial (Le.refl _ _) ?_);intro _ _;refine AB (arc ⟨63,[(1,.I n),(6,.I 20),(30,.B false)],[(0,some ⟨7,B4 (GB c l),0⟩)],136⟩ ?_ ?_)
 .simp
  exact Le.keep rfl (Qk _) zw zz
 refine AI _ rfl (λ h=>by cases h) λ _=>Ar (hit ?_)
 exact⟨.inl rfl,⟨[],rfl,[],[],by simp[List.range,List.range.loop],zz,zz,zz,by simp[List.range,List.range.loop,AC]⟩⟩
theorem gK (f:FuncId) (aA:List AV) (c:BE->BE->Int) (l:List BE) (n:Nat) (hn:l.length=n) (hl:n<20) (hs:OA aA) (hc:∀ x∈l,∀ y∈l,AK f (eV x::eV y::aA) [] (.I (c x y)) []) :
  AK 451 [.rs 0 0 n,.fn (.func f) [] aA] [⟨7,B4 l,0⟩] (.tup []) [some ⟨7,B4 (GB c l),0⟩]:=by
 have q:∀ ρ sn h,aA.map (conv ρ sn h 2)=aA:=λ _ _ _=>hs _ _ _ 1
 have u:∀ ρ sn h,aA.map (conv ρ sn h 3)=aA:=λ _ _ _=>hs _ _ _ 2
 have h0:∀ ρ sn h,aA.map (conv ρ sn h 4)=aA:=λ _ _ _=>hs _ _ _ 3
 refine PM.s.acalls (Bf rfl) (Bf rfl) (Bf rfl) ?_;show Ad _ 1 _ _ ⟨9,[(0,.rs 0 0 n),(1,.fn (.func f) [] aA)],[(0,some ⟨7,B4 l,0⟩)],16⟩;refine Al (s:=?s1) rfl ?o1 ?q1
 case o1 =>
  simp;refine B6 (i:=0) rfl (e':=⟨7,B4 l,0⟩) (by simp[AC]) (mC f aA c l n hn hl hs hc) zz ?_ ?_
  .simp [q,u,h0]
  simp[AC];rfl
 exact⟨.inl rfl,⟨[],rfl,[],[],by simp[List.range,List.range.loop],zz,zz,zz,by simp[List.range,List.range.loop,AC]⟩⟩
def FL (v s:Au) (p:Int × Int):Prop:=s.au=v.au/\s.ki=2/\s.a=v.nu/\v.nu<s.nu/\(p.2<0∨s.nu<p.2)
instance (v s:Au) (p:Int × Int):Decidable (FL v s p):=by unfold FL;infer_instance
def Ic (v:Au) (p:Int × Int) (s:Au):Int × Int:=if FL v s p then (s.ti,s.nu) else p
def NR (l:List Au) (v:Au):Int × Int:=l.foldl (Ic v) (-1,-1)
def KN (l:List Au) (v:Au):Int:=(NR l v).1
def F9 (a b:BE):Int:=([CG a.fr b.fr,CG a.to b.to,CG a.nu b.nu].find? (· != 0)).getD 0
theorem vM (a b:BE):AK 452 [eV a,eV b] [] (.I (F9 a b)) []:=by
 refine tK.s.ac ?_;show Ad _ 0 _ _ ⟨22,[(0,eV a),(1,eV b)],[],16⟩;refine arc ⟨22,[(2,.pv (vC a)),(3,.pv (vC b))],[],40⟩ ?_ ?_
 .simp
  exact A5 [16,24] zz
 refine Cd ⟨22,[(4,.I (F9 a b))],[],184⟩ ?_ ?_
 .simp
  refine A4 (Ib a.fr b.fr) rfl ?_;simp;refine A4 (Ib a.to b.to) rfl ?_;simp;refine A4 (Ib a.nu b.nu) rfl ?_;simp;refine F6 [160] (TK [CG a.fr b.fr,CG a.to b.to,CG a.nu b.nu] zz) zz (.sc _) ?_
  simp;exact⟨rfl,A5 [] (by simp;exact .refl _)⟩
 exact Ca
def ZP (l:List Au) (s:Au):BE:=⟨s.au,s.a,s.b,s.nu,s.ti,s.c,KN l s⟩
def Eb (l m:List Au):List BE:=(m.filter λ s=>decide (s.ki=1)).map (ZP l)
def MG (l:List Au):List BE:=GB F9 (Eb l l)
def RH (l:List Au):Prop:=AK 451 [.rs 0 0 (Eb l l).length,.fn (.func 452) [] []] [⟨7,B4 (Eb l l),0⟩] (.tup []) [some ⟨7,B4 (MG l),0⟩]
theorem RH.few {l:List Au} (hn:(Eb l l).length<20):RH l:=gK 452 [] F9 (Eb l l) _ rfl hn (λ ρ sn h n=>rfl) λ x _ y _=>vM x y
def Je (t:Int) (s:Au):Prop:=s.ki=3/\s.ti<=t
instance (t:Int) (s:Au):Decidable (Je t s):=by unfold Je;infer_instance
def Ly (l:List Au) (t:Int):List Int:=(l.filter λ s=>decide (Je t s)).map (·.au)
def Gp (v x:Au):Prop:=x.au=v.au/\v.nu<x.nu/\x.ki=2/\x.a=v.nu
instance (v x:Au):Decidable (Gp v x):=by unfold Gp;infer_instance
def JL (l:List Au) (v:Au):Int:=match l.find? λ x=>decide (Gp v x) with | some x=>x.ti | none=>-1
def JZ (l:List Au) (s:Au):BE:=⟨s.au,s.a,s.b,s.nu,s.ti,s.c,JL l s⟩
def IG (l m:List Au):List BE:=(m.filter λ s=>decide (s.ki=1)).map (JZ l)
def YG (l:List Au):List BE:=GB F9 (IG l l)
def KL (t:Int) (k:Int) (s:Au):Prop:=s.au=k/\Je t s
instance (t k:Int) (s:Au):Decidable (KL t k s):=by unfold KL;infer_instance
def No (l:List Au) (t:Int) (k:Int):Bool:=l.any λ s=>decide (KL t k s)
def IB (l:List Au) (t:Int):Nat->List Int
 | 0=>[]
 | n+1=>IB l t n++if No l t n then [(n:Int)] else []
variable {l:List Au}
def J6 (x y:Au):Prop:=x.au<y.au∨(x.au=y.au/\x.nu<y.nu/\x.ti<=y.ti/\x.ki≠3)
structure EQ (l:List Au):Prop where
 ord:l.Pairwise J6
 rng:∀ s∈l,0<=s.au/\s.au<64/\0<=s.ti/\0<=s.nu
theorem TR {v x:Au} {p:Int × Int} (h:¬ FL v x p):Ic v p x=p:=if_neg h
theorem WF (v:Au) (p:Int × Int) (h0:0<=p.2):∀ l:List Au,(∀ s∈l,s.au=v.au->p.2<s.nu)->l.foldl (Ic v) p=p
 | [],_=>rfl
 | s::l,h=>by
   have hn:¬ FL v s p:=λ hq=>by
    have h1:=h s (Qi ..) hq.1;rcases hq.2.2.2.2 with h2 | h2<;>omega
   rw[List.foldl_cons,TR hn];exact WF v p h0 l λ s hs=>h s (Qg _ hs)
theorem XN (v:Au):∀ l:List Au,l.Pairwise J6->(∀ s∈l,0<=s.nu)->(l.foldl (Ic v) (-1,-1)).1=JL l v
 | [],_,_=>rfl
 | s::l,ho,hr=>by
   rw[Uq] at ho;rw[List.foldl_cons]
   by_cases hm:Gp v s
   .have hp:FL v s (-1,-1):=⟨hm.1,hm.2.2.1,hm.2.2.2,hm.2.1,.inl zx⟩
    have q:Ic v (-1,-1) s=(s.ti,s.nu):=if_pos hp
    rw[q,WF v (s.ti,s.nu) (hr s (Qi ..)) l λ x hx u=>by
     rcases ho.1 x hx with h1 | h1
     .have:=hm.1;omega
     .exact h1.2.1]
    unfold JL;rw[List.find?_cons_of_pos (by simpa using hm)]
   .have q:Ic v (-1,-1) s=(-1,-1):=TR λ hq=>hm ⟨hq.1,hq.2.2.2.1,hq.2.1,hq.2.2.1⟩
    rw[q,XN v l ho.2 λ x hx=>hr x (Qg _ hx)];unfold JL;rw[List.find?_cons_of_neg (by simpa using hm)]
theorem EQ.rev (h:EQ l) (v:Au):KN l v=JL l v:=XN v l h.ord λ s hs=>(h.rng s hs).2.2.2
theorem EQ.raw (h:EQ l):Eb l l=IG l l:=by
 unfold Eb IG;refine congrArg (λ f=>List.map f _) ?_
 funext s
 unfold ZP JZ;rw[h.rev]
theorem EQ.of (h:EQ l):MG l=YG l:=by unfold MG YG;rw[h.raw]
theorem EQ.asc (h:EQ l) (t:Int):(Ly l t).Pairwise (· < ·):=by
 unfold Ly;rw[US];refine List.Pairwise.imp_of_mem ?_ (h.ord.filter _);intro a b ha hb q;have h1:Je t a:=by simpa using (Qz.1 ha).2
 rcases q with h2 | h2
 .exact h2
 .exact absurd h1.1 h2.2.2.2
theorem S0:∀ {a b:List Int},a.Pairwise (· < ·)->b.Pairwise (· < ·)->(∀ x,x∈a↔x∈b)->a=b
 | [],[],_,_,_=>rfl
 | [],y::b,_,_,h=>by have:=(h y).2 (Qi ..);simp at this
 | x::a,[],_,_,h=>by have:=(h x).1 (Qi ..);simp at this
 | x::a,y::b,ha,hb,h=>by
   rw[Uq] at ha hb
   have q:x=y:=by
    rcases Qw.1 ((h x).1 (Qi ..)) with h1 | h1
    .exact h1
    .rcases Qw.1 ((h y).2 (Qi ..)) with h2 | h2
     .exact h2.symm
     .have h3:=hb.1 x h1
      have h4:=ha.1 y h2;omega
   subst q;refine congrArg _ (S0 ha.2 hb.2 λ z=>⟨λ hz=>?_,λ hz=>?_⟩)
   .rcases Qw.1 ((h z).1 (Qg _ hz)) with h1 | h1
    .have:=ha.1 z hz;omega
    .exact h1
   .rcases Qw.1 ((h z).2 (Qg _ hz)) with h1 | h1
    .have:=hb.1 z hz;omega
    .exact h1
theorem MH (l:List Au) (t x:Int):∀ n:Nat,x∈IB l t n↔0<=x/\x<n/\No l t x=true
 | 0=>by simp[IB];omega
 | n+1=>by
   unfold IB;rw[Qo,MH l t x n];constructor
   .rintro (h | h)
    .exact ⟨h.1,zy,h.2.2⟩
    .split at h
     .rename_i hb
      rw[Qt] at h;subst h;exact⟨zy,zy,hb⟩
     .simp at h
   .rintro ⟨h1,h2,h3⟩
    by_cases h4:x<n
    .exact .inl ⟨h1,h4,h3⟩
    .have h5:x=(n:Int):=zy
     subst h5;rw[if_pos h3];exact .inr (Qt.2 rfl)
theorem Wb (l:List Au) (t:Int):∀ n:Nat,(IB l t n).Pairwise (· < ·)
 | 0=>List.Pairwise.nil
 | n+1=>by
   unfold IB;rw[List.pairwise_append];refine⟨Wb l t n,by split<;>simp,λ a ha b hb=>?_⟩
   have h1:=(MH l t a n).1 ha;split at hb
   .rw [Qt] at hb
    omega
   .simp at hb
theorem EQ.gone (h:EQ l) (t:Int):Ly l t=IB l t 64:=by
 refine S0 (h.asc t) (Wb l t 64) λ x=>?_;rw[MH];unfold Ly No;rw[Qh,UB];constructor
 .rintro ⟨s,hs,rfl⟩
  have q:=Qz.1 hs;have hr:=h.rng s q.1;exact⟨hr.1,hr.2.1,s,q.1,by simpa [KL] using q.2⟩
 .rintro ⟨_,_,s,hs,hg⟩
  have u:KL t x s:=by simpa using hg
  exact⟨s,Qz.2 ⟨hs,by simpa using u.2⟩,u.1⟩
theorem EQ.two (h:EQ l) {x y:Au} (hx:x∈l) (hy:y∈l) (ha:x.au=y.au) (hn:x.nu<=y.nu):x.ti<=y.ti:=by
 obtain⟨i,hi,rfl⟩:=QA.1 hx;obtain⟨j,hj,rfl⟩:=QA.1 hy;have hp:=QM.1 h.ord;rcases Vf i j with h1 | h1 | h1
 .rcases hp i j hi hj h1 with h2 | h2
  .omega
  .exact h2.2.2.1
 .subst h1
  exact Uw _
 .rcases hp j i hj hi h1 with h2 | h2
  .omega
  .omega
theorem EQ.append {a b:List Au} (ha:EQ a) (hb:EQ b) (h:∀ x∈a,∀ y∈b,x.au<y.au):EQ (a++b) where
 ord:=by
  rw[List.pairwise_append];exact⟨ha.ord,hb.ord,λ x hx y hy=>.inl (h x hx y hy)⟩
 rng:=λ s hs=>(Qo.1 hs).elim (ha.rng s) (hb.rng s)
variable {s:Au}
theorem Ft.b (h:Ft s):Tl s:=by
 obtain⟨_,_,_,⟨⟨q,_⟩,_⟩,⟨h1,h2,h3⟩,⟨h4,h5,h6⟩,_⟩:=h;refine⟨?_,zy,zy,zy,λ p hp=>?_⟩
 .by_cases hn:0<s.nu
  .have:=h5 hn;omega
  .by_cases h0:s.nu=0
   .have:=h4 h0
    have h7:s.pr.toList.length=0:=by rw[this];rfl
    have h8:s.pr.toList.length=s.pr.size:=by rw[ByteArray.toList_eq];simp
    omega
   .omega
 .obtain ⟨i,hi,rfl⟩:=QA.1 hp
  have:=(h6 i hi).2.2.2.2;omega
structure JR (s:Au):Prop where
 ok:Ft s
 sk_:s.sk=s.au
 sd_:s.sd.toList=(HU s).toList
def Im (au:Int) (l o:List Au):Prop:=(o.Pairwise λ a b=>a.nu<=b.nu) /\ ∀ x∈l,x.au=au->JR x -> ∃ y∈o,y.nu=x.nu
theorem Im.skip {au:Int} {l o:List Au} (h:Im au l o) (hs:¬ (s.au=au/\JR s)):Im au (l++[s]) o :=
 ⟨h.1,λ x hx h1 h2=>(Qo.1 hx).elim (λ hx=>h.2 x hx h1 h2) λ hx=>by rw[Qt] at hx;subst hx;exact absurd ⟨h1,h2⟩ hs⟩
theorem Im.same {au:Int} {l o:List Au} {y:Au} (h:Im au l o) (hy:y∈o) (hn:y.nu=s.nu):Im au (l++[s]) o :=
 ⟨h.1,λ x hx h1 h2=>(Qo.1 hx).elim (λ hx=>h.2 x hx h1 h2) λ hx=>by rw[Qt] at hx;subst hx;exact⟨y,hy,hn⟩⟩
theorem F2.snoc {au:Int} {c:List Au} {s:Au} (hc:F2 au c) (hs:KW au c.length s) (hn:∀ p,c[c.length - 1]? = some p->JY p s):F2 au (c++[s]):=by
 refine⟨λ i h=>?_,λ i h=>?_⟩
 .by_cases hi:i<c.length
  .rw [Q2 hi];exact hc.1 i hi
  .have:i=c.length:=by simp at h;omega
   subst this;rw[List.getElem_append_right (Qk _)]
   simpa using hs
 .by_cases hi:i+1<c.length
  .rw [Q2 zy,Q2 hi];exact hc.2 i hi
  .have:i+1=c.length:=by simp at h;omega
   rw[Q2 zy,List.getElem_append_right zy]
   have h2:=hn (c[i]' zy) (by rw[show c.length - 1=i by omega];exact Qa zy)
   simpa [this] using h2
theorem F2.nil (au:Int):F2 au []:=⟨λ i h=>by simp at h,λ i h=>by simp at h⟩
theorem F2.few {au:Int} {c:List Au} (hc:F2 au c):c.length<=200:=by
 rcases Ui 200 c.length with h | h
 .have h1:=hc.1 200 h
  have h2:=h1.ok.2.2.2.1.1.2;have h3:=h1.nu_;omega
 .exact h
section
variable {P:Program} {np id:Nat} {h:Nat->Option AD} {K:AV->List Nat->List (Nat × Option AD)->Prop} {f:FuncId} {first aA args aB:List AV} {res:AV}
theorem nA (sn:List Nat) {e:AD} (q:∀ i∈sn,np<=i) (hc:Bz P f aB [] res [some e]) (he:C7 ((first++args++aA).map (conv [] sn h 4)) aB) (hk:K (conv (CL [] id) [] (λ _=>none) 4 res) sn ((id,some (Ab (CL [] id) [] (λ _=>none) 4 e))::sn.filterMap λ i=>(h i).map λ e=>(i,some { e with ro:=e.rows.length }))):aK P np id .call (.fn (.func f) first aA::args) h K :=
 ⟨[],sn,true,aB,[],res,[some e],zz,zz,λ _=>q,by rw[U8];exact he,rfl,hc,zz,.inl rfl,by simpa [CL] using hk⟩
end
theorem F2.ok {a:Int} {c:List Au} (hc:F2 a c) {s:Au} (hs:s∈c):Ft s:=by
 obtain⟨i,hi,rfl⟩:=QA.1 hs;exact(hc.1 i hi).ok
theorem F2.au {a:Int} {c:List Au} (hc:F2 a c) {s:Au} (hs:s∈c):s.au=a:=by
 obtain⟨i,hi,rfl⟩:=QA.1 hs;exact(hc.1 i hi).au_
theorem lF {a b:Nat} (ha:a<1099511627776) (hb:b<1099511627776):Ae .or (.int .i64 (a:Int)) (.int .i64 (b:Int))=some (.int .i64 ((a ||| b:Nat):Int)):=by
 have h1:(BitVec.ofInt IntKind.i64.bits (a:Int) ||| BitVec.ofInt IntKind.i64.bits (b:Int)).toNat=a ||| b:=by
  rw[BitVec.toNat_or,BitVec.ofInt_natCast,BitVec.ofInt_natCast,BitVec.toNat_ofNat,BitVec.toNat_ofNat];rw[show IntKind.i64.bits=64 from rfl,Nat.mod_eq_of_lt zy,Nat.mod_eq_of_lt zy]
 have h2:a ||| b<2 ^ 40:=Nat.or_lt_two_pow zy zy
 simp only[Ae,UM];rw[h1,w6]
theorem jH {a:Nat} (ha:a<1099511627776):Ae .shl (.int .i64 (a:Int)) (.int .u64 8)=some (.int .i64 ((a*256:Nat):Int)):=by
 simp only[Ae];rw[if_pos zx,show (2:Int) ^ (min (8:Int).toNat IntKind.i64.bits)=256 from rfl,w6]
 congr 2
theorem rB {j x c:Nat} (hj:j<4) (hx:x<256 ^ j) (hc:c<256):(x*256 ||| c)<256 ^ (j+1):=by
 have e:∀ k,256 ^ k=2 ^ (8*k):=λ k=>by rw[Nat.pow_mul]
 rw[e] at hx ⊢;refine Nat.or_lt_two_pow ?_ ?_
 .rw [show 8*(j+1)=8*j+8 by omega,Nat.pow_add]
  omega
 .refine Ux hc ?_
  rw[show 8*(j+1)=8+8*j by omega,Nat.pow_add]
  have:=Nat.two_pow_pos (8*j);omega
theorem RL {j x:Nat} (hj:j<=4) (hx:x<256 ^ j):x<1099511627776:=by
 refine Ux hx (QF (Nat.pow_le_pow_right zx hj) zx)
theorem JG {P:Program} {np id:Nat} {h:Nat->Option AD} {K:AV->List Nat->List (Nat × Option AD)->Prop} {s r:Nat} {f:Bool} {rows:List (List AV)} (hr:r<=rows.length) (hk:K (.vs s true (rows.take r)) [] []):aK P np id (.slc s false true true) [.vs s f rows,.I r,.I r] h K :=
 ⟨0,r,r,rows.length,rfl,Qn _,rfl,λ _=>rfl,λ h=>(by cases h),λ _=>rfl,hr,λ _=>rfl,rfl,by simpa using hk⟩
theorem SX {P:Program} {np id:Nat} {h:Nat->Option AD} {K:AV->List Nat->List (Nat × Option AD)->Prop} {f:FuncId} {first aA args aB:List AV} {res:AV} (sn:List Nat) (q:∀ i∈sn,np<=i) (hc:Bz P f aB [] res []) (he:C7 ((first++args++aA).map (conv [] sn h 4)) aB) (hk:K (conv (CL [] id) [] (λ _=>none) 4 res) sn (sn.filterMap λ i=>(h i).map λ e=>(i,some { e with ro:=e.rows.length }))):aK P np id .call (.fn (.func f) first aA::args) h K :=
 ⟨[],sn,true,aB,[],res,[],zz,zz,λ _=>q,by rw[U8];exact he,rfl,hc,zz,.inl rfl,by simpa [CL] using hk⟩
structure PV where
 j:Nat
 x:Nat
theorem iQ (s:ByteArray) (u:List Int) (n:Nat) (hs:s.size=32) (ht:u.length<=64) (hn:n<=64) :
  ∃ l:List Int,(l.length=n /\ ∀ x∈l,0<=x)/\AK 242 [.sc (.string s),AA u,.I n] [] (.tup [AA l,.I 0]) []:=by
 refine qW.s.acallsX (args:=[.sc (.string s),AA u,.I n]) (hs:=[]) (λ l=>.tup [AA l,.I 0]) (λ _=>[]) (λ l:List Int=>l.length=n /\ ∀ x∈l,0<=x) (Bf rfl) (Bf rfl) (λ _=>zz) ?_
 show Ad _ 0 _ _ ⟨64,[(0,.sc (.string s)),(1,AA u),(2,.I n)],[],16⟩;have h6:¬ (64:Int)<(u.length:Int):=zy
 have h7:¬ (n:Int)<0:=zy
 have h8:¬ (64:Int)<(n:Int):=zy
 refine ar [0,1,2] [] [] 100 ?_;refine AB (AT (arc ⟨64,[(0,.sc (.string s)),(1,AA u),(2,.I n),(14,.B false)],[],200⟩ ?_ ?_))
 .simp [hs]
  exact BP [] []
 refine AI _ rfl (λ h=>by cases h) λ _=>?_
 refine arc ⟨64,[(0,.sc (.string s)),(1,AA u),(2,.I n),(18,.B false)],[],300⟩ ?_ ?_
 .simp [h6]
  exact BP [] []
 refine AI _ rfl (λ h=>by cases h) λ _=>?_
 refine arc ⟨64,[(0,.sc (.string s)),(1,AA u),(2,.I n),(22,.B false)],[],400⟩ ?_ ?_
 .simp [h7,h8]
  exact BP [] []
 refine AI _ rfl (λ h=>by cases h) λ _=>AN ?_
 have c1:=uT (Ee s) u (by rw[Nj];omega) zy
 obtain⟨b1,h1⟩:=AR (Ee s++IA u);have l1:b1.length=s.size+8+8*u.length:=by rw[h1,Qm,YX,Nj];omega
 rw[<- h1,Nj,<- l1] at c1;refine ar [0,1,2,8] [] [] 500 ?_;refine arc ⟨64,[(2,.I n),(8,.nilS),(9,DI b1)],[],600⟩ ?_ ?_
 .simp [uI]
  refine B6 (i:=508) rfl (e':=⟨1,Bk .u8 (Ee s),0⟩) (by simp[AC]) c1 zz zz ?_
  simp;exact AJ [] [524] (by simp[AC,JP])
 refine AB (ar [8,9,33,34] [] [] 700 ?_);refine AT (As (ι:=List Int) (λ o=>⟨64,[(8,.rs 50 0 o.length),(9,DI b1),(33,.I n),(34,.I o.length)],[(50,some ⟨1,AE o,0⟩)],800⟩) (λ o=>o.length<=n /\ ∀ x∈o,0<=x) (λ o=>n - o.length) [] zz (Le.nw [] [(50,1)]) ?_)
 intro o ho;refine A2 ⟨64,[(8,.rs 50 0 o.length),(9,DI b1),(33,.I n),(34,.I o.length),(35,.B (decide (o.length<n)))],[(50,some ⟨1,AE o,0⟩)],900⟩ [(50,50)] [] ?_;refine AB (AI _ rfl (λ h=>AN ?_) λ h=>Ar (hit ?_))
 .rw [Qf] at h
  have c2:AK 143 [.vs 1 true (Bk .u8 b1),.vs 1 false [[.I o.length]]] [] _ _:=wM b1 o.length zy
  obtain⟨b2,h2⟩:=AR (b1++CA o.length);have l2:b2.length=b1.length+8:=by rw[h2,Qm,Jz]
  rw[<- h2,<- l2] at c2;have c3:=L4 b2 zy
  have hz:=jZ b2;generalize DZ b2=Z at c3 hz;have hg:Z.data.toList.length=32:=by rw[<- hz];rfl
  have h9:=Gt (k:=o.length) (N:=n) h zy
  refine AB (AT (ar [8,9,10,33,34] [(50,50)] [] 1000 ?_));refine arc ⟨64,[(8,.rs 50 0 o.length),(9,DI b1),(11,.sc (.string Z)),(33,.I n),(34,.I o.length)],[(50,some ⟨1,AE o,0⟩)],1100⟩ ?_ ?_
  .simp
   refine JG zz ?_
   simp[JP];refine nA [1056] zz c2 (by simp[AC]) ?_
   simp;refine SX [1064] zz c3 (by simp[AC,JP]) ?_
   simp;exact BB [(50,50)] []
  refine ar [8,9,11,12,33,34] [(50,50)] [] 1200 ?_;refine AB (ar [8,9,11,12,33,34,47] [(50,50)] [] 1300 ?_);refine AT (As (ι:=PV) (λ q=>⟨64,[(8,.rs 50 0 o.length),(9,DI b1),(11,.sc (.string Z)),(12,.I q.x),(33,.I n),(34,.I o.length),(47,.I q.j)],[(50,some ⟨1,AE o,0⟩)],1400⟩) (λ q=>q.j<=4/\q.x<256 ^ q.j) (λ q=>4 - q.j) ⟨0,0⟩ ⟨zz,zz⟩ (CO [(50,50)] []) ?_)
  rintro⟨j,x⟩ ⟨hj,hx⟩
  simp only at hj hx ⊢;refine arc ⟨64,[(8,.rs 50 0 o.length),(9,DI b1),(11,.sc (.string Z)),(12,.I x),(33,.I n),(34,.I o.length),(47,.I j),(48,.B (decide (j<4)))],[(50,some ⟨1,AE o,0⟩)],1500⟩ ?_ ?_
  .simp
   exact AJ [(50,50)] [] (by simp[AC]<;>exact BA (by rw[Qv];simp;omega)) (by simp[AC])
  refine AB (AI _ rfl (λ h4=>AN ?_) λ h4=>Ar (hit ?_))
  .rw [Qf] at h4
   obtain⟨z,ha⟩:∃ z,Z.data.toList[j]? = some z:=⟨_,Qa zy⟩
   have hb:z.toNat<256:=z.toNat_lt;have h0:=RL hj hx
   have hf:x<4294967296:=by
    refine Ux hx (QF (Nat.pow_le_pow_right zx hj) zx)
   have hc:Ae .shl (.int .i64 (x:Int)) (.int .u64 8)=some (.int .i64 ((x:Int)*256)):=jH h0;have h3:Ae .or (.int .i64 ((x:Int)*256)) (.int .i64 (z.toNat:Int))=_:=lF (a:=x*256) (b:=z.toNat) zy zy
   have h5:=rB h4 hx hb;have hd:=w6 (x:=(z.toNat:Int));generalize (x*256 ||| z.toNat)=y at h3 h5;have he:=Gt (k:=j) (N:=4) h4;refine CX ⟨64,[(8,.rs 50 0 o.length),(9,DI b1),(11,.sc (.string Z)),(12,.I y),(33,.I n),(34,.I o.length),(47,.I j)],[(50,some ⟨1,AE o,0⟩)],1700⟩ ?_ ?_
   .refine AT (ar [8,9,11,12,13,33,34,47] [(50,50)] [] 1600 ?_)
    refine Ap rfl ?_;simp[-Ae,hc,ha,hd,h3];exact BB [(50,50)] []
   refine Ap rfl ?_;simp[he];exact⟨⟨j+1,y⟩,⟨by simp only;omega,h5⟩,by simp only;omega,BB [(50,50)] []⟩
  rw[Qd] at h4;have h0:=RL hj hx;refine Ap rfl ?_;simp;refine⟨zy,zy,?_⟩
  refine Ap rfl ?_;simp[h9]
  exact⟨o++[(x:Int)],⟨zw,λ y hy=>by
   rcases Qo.1 hy with hy | hy
   .exact ho.2 y hy
   .rw [Qt.1 hy];omega⟩,zw,AJ [(1524,50)] [] zz (by simp[AC,JP])⟩
 rw[Qd] at h;refine ar [6,7] [(50,50)] [] 3000 ?_;refine A9 (FF.mk (.inr rfl) o ⟨zy,ho.2⟩ ?_)
 exact AW.out [] [50] rfl zz zz (by simp[AC,JP]) zz
theorem Np {P:Program} {np id:Nat} {h:Nat->Option AD} {K:AV->List Nat->List (Nat × Option AD)->Prop} {s:Nat} {f:Bool} {rows:List (List AV)} (r:Nat) (hr:r<=rows.length) (hk:K (.vs s false (rows.take r)) [] []):aK P np id (.slc s false true false) [.vs s f rows,.I r] h K :=
 ⟨0,r,0,rows.length,rfl,Qn _,rfl,λ _=>rfl,λ h=>(by cases h),λ h=>(by cases h),hr,λ h=>(by cases h),rfl,by simpa using hk⟩
theorem PR {P:Program} {np id:Nat} {h:Nat->Option AD} {K:AV->List Nat->List (Nat × Option AD)->Prop} {s:Nat} {f:Bool} {rows:List (List AV)} (l:Nat) (hl:l<=rows.length) (hk:K (.vs s f (rows.drop l)) [] []):aK P np id (.slc s true false false) [.vs s f rows,.I l] h K :=
 ⟨l,rows.length,0,rows.length,rfl,hl,rfl,λ h=>(by cases h),λ _=>rfl,λ h=>(by cases h),Qk _,λ h=>(by cases h),rfl,by rw[Qb zz];simpa using hk⟩
abbrev A3:AV:=.vs 1 false [[.I 0]]
abbrev FM:AV:=.agg [A3,A3,.vs 1 false [[.I 2]],.I 1,.I 1,.I 5,.I 0]
theorem cV (hV:AK 93 [A3] [] (.B true) []) (x:Int) (N:List Int) (h2:N.length<=64) (h0:0<=x):AK 243 [A3,AA (x::N),.I 1] [] (.tup [.rs 0 0 1,.I 0]) [some ⟨1,[[.I 0]],0⟩]:=by
 refine sW.s.ai ?_;have u:AK 48 [A3] [] (.rs 0 0 1) [some ⟨1,[[.I 0]],0⟩]:=Gy [0] zz
 have h1:¬ (N.length:Int)+1<1:=zy
 have hx:¬ x<0:=zy
 have q:IntKind.i64.wrap 1=1:=w6;refine ar [0,1,2] [] [] 100 ?_;refine AB ?_;apply ax [0,1,2,16] [] [] 200
 .simp
  refine A0 hV ?_;simp;rfl
 refine AI _ rfl (λ h=>by simp at h) λ _=>AN ?_
 apply ax [0,1,2,8] [] [] 300
 .simp
  rfl
 refine AB ?_;apply ax [0,1,8,32] [] [] 400
 .simp [h1]
  rfl
 refine AI _ rfl (λ h=>by simp at h) λ _=>AN ?_
 apply ax [1,8,9] [] [408] 500
 .simp
  refine Ct u ?_;simp;rfl
 refine ar [1,8,9,10] [] [] 600 ?_;refine AB ?_;apply ax [9,10,37,38,39] [] [] 700
 .simp
  refine Np 1 zz ?_
  simp;rfl
 refine AT (As (ι:=Bool) (λ c=>match c with | false=>⟨67,[(9,A3),(10,.nilS),(37,.vs 1 false [[.I x]]),(38,.I 1),(39,.I 0)],[],800⟩ | true=>⟨67,[(10,.rs 50 0 1),(37,.vs 1 false [[.I x]]),(38,.I 1),(39,.I 1)],[(50,some ⟨1,[[.I 0]],0⟩)],800⟩) (λ _=>True) (λ c=>match c with | false=>1 | true=>0) false trivial (BP [] []) ?_)
 intro c _
 cases c with
 | true =>
   simp only;refine A2 ⟨67,[(10,.rs 50 0 1),(37,.vs 1 false [[.I x]]),(38,.I 1),(39,.I 1),(40,.B false)],[(50,some ⟨1,[[.I 0]],0⟩)],900⟩ [(50,50)] [] ?_;refine AB (AI _ rfl (λ h=>by cases h) λ _=>Ar (hit ?_))
   refine ar [6,7] [(50,50)] [] 2000 ?_;exact Bx [50] []
 | false =>
   simp only;refine A2 ⟨67,[(9,A3),(10,.nilS),(37,.vs 1 false [[.I x]]),(38,.I 1),(39,.I 0),(40,.B true)],[],900⟩ [] [] ?_;refine AB (AI _ rfl (λ _=>AN ?_) λ h=>by cases h)
   refine CX ⟨67,[(10,.rs 50 0 1),(37,.vs 1 false [[.I x]]),(38,.I 1),(39,.I 0)],[(50,some ⟨1,[[.I 0]],0⟩)],1900⟩ ?_ ?_
   .refine AT ?_
    apply ax [9,10,12,37,38,39] [] [] 1000
    .simp
     rfl
    refine AB (arc ⟨67,[(9,A3),(10,.nilS),(12,.I x),(37,.vs 1 false [[.I x]]),(38,.I 1),(39,.I 0),(44,.B false)],[],1100⟩ ?_ ?_)
    .simp [hx]
     exact BP [] []
    refine AI _ rfl (λ h=>by cases h) λ _=>AN ?_
    apply ax [9,10,13,37,38,39] [] [] 1200
    .simp
     rfl
    apply ax [9,10,13,37,38,39] [(1248,50)] [] 1300
    .simp
     rfl
    refine ET rfl ?_;simp[q];refine JG (r:=0) zz ?_
    simp;refine PR 1 zz ?_
    simp;refine⟨rfl,?_⟩;exact BP [(50,50)] []
   refine Ap rfl ?_;simp[q];exact BP [(50,50)] []
theorem lA (hV:AK 93 [A3] [] (.B true) []) (N:List Int) (h1:1<=N.length) (h2:N.length<=64) (h0:∀ x∈N,0<=x):AK 243 [A3,AA N,.I 1] [] (.tup [.rs 0 0 1,.I 0]) [some ⟨1,[[.I 0]],0⟩]:=by
 cases N with
 | nil=>simp at h1
 | cons x N=>exact cV hV x N (by simp at h2;omega) (h0 x (Qi ..))
theorem uL (hV:AK 93 [A3] [] (.B true) []) (s:ByteArray) (hs:s.size=32) (a b c d r:Int):AK 190 [FM,.sc (.string s),A3,.agg [.I a,.I b,.I c,.I d],.I r] [] (.tup [.rs 0 0 1,.I 0]) [some ⟨1,[[.I 0]],0⟩]:=by
 obtain⟨l,⟨hl,h0⟩,hN⟩:=iQ s [a,b,c,r] 9 hs zz zy
 have hN:AK 242 [.sc (.string s),.vs 1 false [[.I a],[.I b],[.I c],[.I r]],.I 9] [] (.tup [AA l,.I 0]) []:=hN;have hD:=lA hV l zy zy h0
 refine gG.s.ai ?_;apply ax [1,2,4,5,8] [(16,50),(24,60)] [] 100
 .simp
  rfl
 apply ax [2,5,12,13] [(50,50)] [] 200
 .simp
  refine SX [164] zz hN zz ?_
  simp;rfl
 refine AB ?_;apply ax [2,5,12,28] [(50,50)] [] 300
 .simp
  rfl
 refine AI _ rfl (λ h=>by simp at h) λ _=>AN ?_
 apply ax [10,11] [(332,50)] [] 400
 .simp
  refine Ct hD ?_;simp;rfl
 exact Bx [50] []
variable {γ:Type}
def F3 {γ:Type} (x:Int) (k:Int->γ):γ :=
 Int.rec (motive:=λ _=>γ) (λ n=>Nat.rec (motive:=λ _=>γ) (k (Int.ofNat 0)) (λ m _=>k (Int.ofNat (m+1))) n) (λ n=>k (Int.negSucc n)) x
theorem Ji (x:Int) (k:Int->γ):F3 x k=k x:=by
 cases x with
 | ofNat n=>cases n<;>rfl
 | negSucc n=>rfl
def Iw (v:List Int) (k w:Int):List Int :=
 [u2 .add (u2 .add (xF v k w) (r3 (gt v 0) 2 13 22)) (mF v),gt v 0,gt v 1,gt v 2,u2 .add (gt v 3) (xF v k w),gt v 4,gt v 5,gt v 6]
theorem Tg (H B:List Int):∀ i,vF H B B8 i=(List.range i).foldl (λ v j=>Iw v (gt B8 j) (gt (B3 B 48) j)) H
 | 0=>rfl
 | i+1=>by rw[Vh,UW,<- Tg H B i];rfl
def vS {γ:Type} (l:List (Int × Int)) (k:Int->Int->Int->Int->Int->Int->Int->Int->γ):Int->Int->Int->Int->Int->Int->Int->Int->γ :=
 List.rec (motive:=λ _=>Int->Int->Int->Int->Int->Int->Int->Int->γ) k (λ p _ ih a b c d e f g h =>
  F3 (u2 .add (u2 .add (u2 .add (u2 .add h (r3 e 6 11 25)) (u2 .xor (u2 .and e f) (u2 .and (nt e) g))) p.1) p.2) λ x =>
  F3 (u2 .add (u2 .add x (r3 a 2 13 22)) (u2 .xor (u2 .xor (u2 .and a b) (u2 .and a c)) (u2 .and b c))) λ y =>
  F3 (u2 .add d x) λ z=>ih y a b c z e f g) l
theorem tY (k:Int->Int->Int->Int->Int->Int->Int->Int->γ) (p:Int × Int) (l:List (Int × Int)) (a b c d e f g h:Int) :
  vS (p::l) k a b c d e f g h=vS l k (u2 .add (u2 .add (u2 .add (u2 .add (u2 .add (u2 .add h (r3 e 6 11 25)) (u2 .xor (u2 .and e f) (u2 .and (nt e) g))) p.1) p.2) (r3 a 2 13 22)) (u2 .xor (u2 .xor (u2 .and a b) (u2 .and a c)) (u2 .and b c))) a b c
   (u2 .add d (u2 .add (u2 .add (u2 .add (u2 .add h (r3 e 6 11 25)) (u2 .xor (u2 .and e f) (u2 .and (nt e) g))) p.1) p.2)) e f g:=by
 have h0:vS (p::l) k a b c d e f g h=F3 (u2 .add (u2 .add (u2 .add (u2 .add h (r3 e 6 11 25)) (u2 .xor (u2 .and e f) (u2 .and (nt e) g))) p.1) p.2) λ x =>
  F3 (u2 .add (u2 .add x (r3 a 2 13 22)) (u2 .xor (u2 .xor (u2 .and a b) (u2 .and a c)) (u2 .and b c))) λ y =>
  F3 (u2 .add d x) λ z=>vS l k y a b c z e f g:=rfl
 rw[h0,Ji,Ji,Ji]
theorem YT {γ:Type} (k:Int->Int->Int->Int->Int->Int->Int->Int->γ):∀ (l:List (Int × Int)) (a b c d e f g h:Int),
  ∃ a' b' c' d' e' f' g' h',l.foldl (λ v p=>Iw v p.1 p.2) [a,b,c,d,e,f,g,h]=[a',b',c',d',e',f',g',h']/\vS l k a b c d e f g h=k a' b' c' d' e' f' g' h'
 | [],a,b,c,d,e,f,g,h=>⟨a,b,c,d,e,f,g,h,rfl,rfl⟩
 | p::l,a,b,c,d,e,f,g,h=>by
   obtain⟨a',b',c',d',e',f',g',h',h1,h2⟩:=YT k l (gt (Iw [a,b,c,d,e,f,g,h] p.1 p.2) 0) a b c (gt (Iw [a,b,c,d,e,f,g,h] p.1 p.2) 4) e f g;refine⟨a',b',c',d',e',f',g',h',h1,?_⟩;rw[<- h2,tY];rfl
def Hl (B:List Int) (i:Nat):Int:=NB (gt B (4*i)) (gt B (4*i+1)) (gt B (4*i+2)) (gt B (4*i+3))
def H7 (r:List Int):Int:=u2 .add (u2 .add (u2 .add (gt r 15) (Mz (gt r 14))) (gt r 6)) (OI (gt r 1))
def FD:Nat->List Int->List Int
 | 0,r=>r
 | n+1,r=>H7 (FD n r)::FD n r
theorem Tk:∀ (n:Nat) (r:List Int),FD n (H7 r::r)=FD (n+1) r
 | 0,_=>rfl
 | n+1,r=>by
   show H7 (FD n (H7 r::r))::FD n (H7 r::r)=_;rw[Tk n r];rfl
def Ga {γ:Type} (n:Nat):List Int->(List Int->γ)->γ :=
 Nat.rec (motive:=λ _=>List Int->(List Int->γ)->γ) (λ r k=>k r) (λ _ ih r k=>F3 (H7 r) λ x=>ih (x::r) k) n
theorem TU {γ:Type}:∀ (n:Nat) (r:List Int) (k:List Int->γ),Ga n r k=k (FD n r)
 | 0,_,_=>rfl
 | n+1,r,k=>by
   have h0:Ga (n+1) r k=F3 (H7 r) λ x=>Ga n (x::r) k:=rfl;rw[h0,Ji,TU n,Tk]
def Li {γ:Type} (B:List Int) (n:Nat):List Int->(List Int->γ)->γ :=
 Nat.rec (motive:=λ _=>List Int->(List Int->γ)->γ) (λ r k=>k r) (λ i ih r k=>ih r λ r'=>F3 (Hl B i) λ x=>k (x::r')) n
theorem P6 {γ:Type} (B:List Int):∀ (n:Nat) (k:List Int->γ),Li B n [] k=k ((List.range n).map (Hl B)).reverse
 | 0,_=>rfl
 | n+1,k=>by
   have h0:Li B (n+1) [] k=Li B n [] λ r'=>F3 (Hl B n) λ x=>k (x::r'):=rfl;rw[h0,P6 B n,Ji,Vh,Ug,List.reverse_append];rfl
theorem Xi (B:List Int):∀ i,i<=64->Db B i=(List.range i).map (Hl B)++List.replicate (64 - i) 0
 | 0,_=>rfl
 | i+1,h=>by
   rw[Db,Xi B i zy,Vh,Ug]
   have e:64 - i=(64 - (i+1))+1:=zy
   rw[e,List.replicate_succ,List.set_append_right _ _ zz,QB,UP,Nat.sub_self,List.set_cons_zero]
   simp[Hl]
theorem ZQ:∀ (n:Nat) (r:List Int),(FD n r).length=r.length+n
 | 0,_=>rfl
 | n+1,r=>by rw[FD,QV,ZQ n r];omega
theorem Lx (r z:List Int) (j i:Nat) (h:j+i+1=r.length):gt (r.reverse++z) j=gt r i:=by
 simp only[gt,Qe];rw[QC zw,List.getElem?_reverse zy]
 congr 2
 omega
theorem Zr (B:List Int):∀ i,i<=48->B3 B i=(FD i ((List.range 16).map (Hl B)).reverse).reverse++List.replicate (48 - i) 0
 | 0,_=>by rw[B3,Xi B 16 zy,FD,List.reverse_reverse]
 | i+1,h=>by
   obtain⟨r,hr⟩:=AR (FD i ((List.range 16).map (Hl B)).reverse);have hl:r.length=16+i:=by rw[hr,ZQ];simp
   rw[B3,Zr B i zy,<- hr]
   rw[Lx r _ i 15 zy,Lx r _ (i+1) 14 zy,Lx r _ (i+9) 6 zy,Lx r _ (i+14) 1 zy]
   have e:48 - i=(48 - (i+1))+1:=zy
   rw[e,List.replicate_succ,List.set_append_right _ _ zw,show i+16 - r.reverse.length=0 by simp;omega,List.set_cons_zero]
   rw[FD,<- hr,List.reverse_cons,QG];rfl
theorem gZ {C W:List Int} {n:Nat} (hc:C.length=n) (hw:W.length=n):C.zip W=(List.range n).map λ j=>(gt C j,gt W j):=by
 refine List.ext_getElem (by simp[hc,hw]) λ i u q=>?_
 simp only[QB,UP] at q;rw[List.getElem_zip,List.getElem_map,List.getElem_range];refine Prod.ext ?_ ?_
 .simp only[gt,Qe]
  rw[Qa zy]
  rfl
 .simp only[gt,Qe]
  rw[Qa zy]
  rfl
def Hh (B:List Int) (o:Int->Int->Int->Int->Int->Int->Int->Int->Bool) (a b c d e f g h:Int):Bool :=
 Li B 16 [] λ r=>Ga 48 r λ r=>vS (B8.zip r.reverse) (λ a' b' c' d' e' f' g' h' =>
  o (u2 .add a' a) (u2 .add b' b) (u2 .add c' c) (u2 .add d' d) (u2 .add e' e) (u2 .add f' f) (u2 .add g' g) (u2 .add h' h)) a b c d e f g h
def Pd (a b c d e f g h a' b' c' d' e' f' g' h':Int):Bool:=a == a' && b == b' && c == c' && d == d' && e == e' && f == f' && g == g' && h == h'
theorem aY {B C:List Int} {a b c d e f g h x0 x1 x2 x3 x4 x5 x6 x7:Int} (hv:vF [a,b,c,d,e,f,g,h] B C 64=[x0,x1,x2,x3,x4,x5,x6,x7]) :
  oF [a,b,c,d,e,f,g,h] B C 8=[u2 .add x0 a,u2 .add x1 b,u2 .add x2 c,u2 .add x3 d,u2 .add x4 e,u2 .add x5 f,u2 .add x6 g,u2 .add x7 h]:=by
 have h0:oF [a,b,c,d,e,f,g,h] B C 0=[x0,x1,x2,x3,x4,x5,x6,x7]:=hv;have h1:oF [a,b,c,d,e,f,g,h] B C 1=[u2 .add x0 a,x1,x2,x3,x4,x5,x6,x7]:=by rw[oF,h0];rfl
 have h2:oF [a,b,c,d,e,f,g,h] B C 2=[u2 .add x0 a,u2 .add x1 b,x2,x3,x4,x5,x6,x7]:=by rw[oF,h1];rfl
 have h3:oF [a,b,c,d,e,f,g,h] B C 3=[u2 .add x0 a,u2 .add x1 b,u2 .add x2 c,x3,x4,x5,x6,x7]:=by rw[oF,h2];rfl
 have h4:oF [a,b,c,d,e,f,g,h] B C 4=[u2 .add x0 a,u2 .add x1 b,u2 .add x2 c,u2 .add x3 d,x4,x5,x6,x7]:=by rw[oF,h3];rfl
 have h5:oF [a,b,c,d,e,f,g,h] B C 5=[u2 .add x0 a,u2 .add x1 b,u2 .add x2 c,u2 .add x3 d,u2 .add x4 e,x5,x6,x7]:=by rw[oF,h4];rfl
 have h6:oF [a,b,c,d,e,f,g,h] B C 6=[u2 .add x0 a,u2 .add x1 b,u2 .add x2 c,u2 .add x3 d,u2 .add x4 e,u2 .add x5 f,x6,x7]:=by rw[oF,h5];rfl
 have h7:oF [a,b,c,d,e,f,g,h] B C 7=[u2 .add x0 a,u2 .add x1 b,u2 .add x2 c,u2 .add x3 d,u2 .add x4 e,u2 .add x5 f,u2 .add x6 g,x7]:=by rw[oF,h6];rfl
 rw[oF,h7];rfl
theorem Io {B:List Int} {a b c d e f g h a' b' c' d' e' f' g' h':Int} (hb:Hh B (Pd a' b' c' d' e' f' g' h') a b c d e f g h=true) :
  Ho [a,b,c,d,e,f,g,h] B B8=[a',b',c',d',e',f',g',h']:=by
 have hw:=Zr B 48 zy
 rw[Nat.sub_self,List.replicate_zero,Q0] at hw
 have hu:∀ o,Hh B o a b c d e f g h=vS (B8.zip (B3 B 48)) (λ p0 p1 p2 p3 p4 p5 p6 p7=>o (u2 .add p0 a) (u2 .add p1 b) (u2 .add p2 c) (u2 .add p3 d) (u2 .add p4 e) (u2 .add p5 f) (u2 .add p6 g) (u2 .add p7 h)) a b c d e f g h:=λ o=>by
  unfold Hh;rw[P6,TU,hw]
 rw[hu] at hb;obtain⟨Z,hZ⟩:=AR (B8.zip (B3 B 48));rw[<- hZ] at hb;obtain⟨x0,x1,x2,x3,x4,x5,x6,x7,h1,h2⟩:=YT (λ p0 p1 p2 p3 p4 p5 p6 p7=>Pd a' b' c' d' e' f' g' h' (u2 .add p0 a) (u2 .add p1 b) (u2 .add p2 c) (u2 .add p3 d) (u2 .add p4 e) (u2 .add p5 f) (u2 .add p6 g) (u2 .add p7 h)) Z a b c d e f g h;rw[h2] at hb;have hz:B8.zip (B3 B 48)=(List.range 64).map λ j=>(gt B8 j,gt (B3 B 48) j):=gZ zx (Kk B 48)
 have hv:=Tg [a,b,c,d,e,f,g,h] B 64
 have h3:(List.range 64).foldl (λ v j=>Iw v (gt B8 j) (gt (B3 B 48) j)) [a,b,c,d,e,f,g,h]=Z.foldl (λ v p=>Iw v p.1 p.2) [a,b,c,d,e,f,g,h]:=by
  rw[hZ,hz,List.foldl_map]
 rw[h3,h1] at hv;have he:=aY hv;unfold Pd at hb;simp only[QD,beq_iff_eq] at hb;obtain⟨⟨⟨⟨⟨⟨⟨q0,q1⟩,q2⟩,q3⟩,q4⟩,q5⟩,q6⟩,q7⟩:=hb;rw[<- q0,<- q1,<- q2,<- q3,<- q4,<- q5,<- q6,<- q7] at he;exact he
section
variable {β:Type}
def Ci (n:Nat) (k:Nat->β):β:=match n with | 0=>k 0 | p+1=>k (p+1)
def Oi (n:Int) (k:Int->β):β:=match n with | .ofNat m=>Ci m λ m=>k (.ofNat m) | .negSucc m=>Ci m λ m=>k (.negSucc m)
def nT (b:Bool) (k:Value->β):β:=match b with | true=>k (.bool true) | false=>k (.bool false)
def PS (v:Value) (k:Value->β):β:=match v with
 | .int d n=>Oi n λ n=>k (.int d n)
 | .bool b=>nT b k
 | v=>k v
def DL {α:Type} (f:α->(α->β)->β) (l:List α):(List α->β)->β :=
 List.rec (motive:=λ _=>(List α->β)->β) (λ k=>k []) (λ x _ ih k=>f x λ x=>ih λ xs=>k (x::xs)) l
def NY (deep:Bool) (ih:AV->(AV->β)->β) (x:AV) (k:AV->β):β:=match x with
 | .dead=>k .dead
 | .sc v=>PS v λ v=>k (.sc v)
 | .agg cs=>DL ih cs λ cs=>k (.agg cs)
 | .tup cs=>DL ih cs λ cs=>k (.tup cs)
 | .vs s f rows=>match deep with | true=>Ci s λ s=>DL (DL ih) rows λ rows=>k (.vs s f rows) | false=>k (.vs s f rows)
 | .rs a b c=>Ci a λ a=>Ci b λ b=>Ci c λ c=>k (.rs a b c)
 | .rk a b c d=>Ci a λ a=>Ci b λ b=>Ci c λ c=>Ci d λ d=>k (.rk a b c d)
 | .pv cs=>match deep with | true=>DL ih cs λ cs=>k (.pv cs) | false=>k (.pv cs)
 | .pt a b c=>Ci a λ a=>Ci b λ b=>Ci c λ c=>k (.pt a b c)
 | .mp a=>Ci a λ a=>k (.mp a)
 | .it a=>Ci a λ a=>k (.it a)
 | .fn f a b=>DL ih a λ a=>DL ih b λ b=>k (.fn f a b)
 | .ifc t v=>ih v λ v=>k (.ifc t v)
def Iz (deep:Bool) (n:Nat):AV->(AV->β)->β :=
 Nat.rec (motive:=λ _=>AV->(AV->β)->β) (λ x k=>k x) (λ _ ih=>NY deep ih) n
def KV (deep:Bool) (e:AD) (k:AD->β):β:=match e with | ⟨s,rows,ro⟩=>Ci s λ s=>Ci ro λ ro=>DL (DL (Iz deep 5)) rows λ rows=>k ⟨s,rows,ro⟩
def MA (deep:Bool) (p:Nat × Option AD) (k:Nat × Option AD->β):β:=match p with
 | (i,none)=>Ci i λ i=>k (i,none)
 | (i,some e)=>Ci i λ i=>KV deep e λ e=>k (i,some e)
end
def CP (k:IntKind):Nat:=match k with
 | .i8=>256 | .u8=>256 | .i16=>65536 | .u16=>65536 | .i32=>4294967296 | .u32=>4294967296 | .i64=>18446744073709551616 | .u64=>18446744073709551616
def EL (k:IntKind):Nat:=match k with
 | .i8=>128 | .u8=>128 | .i16=>32768 | .u16=>32768 | .i32=>2147483648 | .u32=>2147483648 | .i64=>9223372036854775808 | .u64=>9223372036854775808
def FI (sg:Bool) (M H r:Nat):Int:=cond (sg && Nat.ble H r) (Int.negSucc (M - r - 1)) (Int.ofNat r)
def Fo (k:IntKind) (n:Int):Int:=match n with
 | .ofNat m=>cond (Nat.blt m (EL k)) (.ofNat m) (FI k.signed (CP k) (EL k) (m % CP k))
 | .negSucc m=>FI k.signed (CP k) (EL k) (CP k - 1 - m % CP k)
def Cq (k:IntKind) (n:Int):Nat:=match n with
 | .ofNat m=>m % CP k
 | .negSucc m=>CP k - 1 - m % CP k
def kN (k:IntKind):Nat:=match k with | .i8=>0 | .u8=>1 | .i16=>2 | .u16=>3 | .i32=>4 | .u32=>5 | .i64=>6 | .u64=>7
def Hr (a b:Int):Bool:=match a with
 | .ofNat m=>(match b with | .ofNat n=>Nat.blt m n | .negSucc _=>false)
 | .negSucc m=>(match b with | .ofNat _=>true | .negSucc n=>Nat.blt n m)
def J2 (a b:Int):Bool:=match a with
 | .ofNat m=>(match b with | .ofNat n=>Nat.beq m n | .negSucc _=>false)
 | .negSucc m=>(match b with | .ofNat _=>false | .negSucc n=>Nat.beq n m)
def Fy (m n:Nat):Nat:=cond (Nat.ble m n) m n
def Gl (k:IntKind) (a b:Int):Option Value:=match b with
 | .ofNat n=>some (.int k (Fo k (a*Int.ofNat (Nat.pow 2 (Fy n k.bits)))))
 | .negSucc _=>none
def Ge (k:IntKind) (a b:Int):Option Value:=match b with
 | .ofNat n=>some (.int k (match a with | .ofNat m=>.ofNat (Nat.div m (Nat.pow 2 (Fy n k.bits))) | .negSucc m=>(Int.negSucc m).fdiv (Int.ofNat (Nat.pow 2 (Fy n k.bits)))))
 | .negSucc _=>none
def Hi (k:IntKind) (a b:Int):Option Value:=match b with
 | .ofNat (n+1)=>some (.int k (Fo k (match a with | .ofNat m=>.ofNat (Nat.div m (n+1)) | .negSucc m=>(Int.negSucc m).tdiv (.ofNat (n+1)))))
 | b=>Ae .quo (.int k a) (.int k b)
def HW (k:IntKind) (a b:Int):Option Value:=match b with
 | .ofNat (n+1)=>some (.int k (match a with | .ofNat m=>.ofNat (Nat.mod m (n+1)) | .negSucc m=>(Int.negSucc m).tmod (.ofNat (n+1))))
 | b=>Ae .rem (.int k a) (.int k b)
def IE (op:BinOp) (k:IntKind) (a b:Int):Option Value:=match op with
 | .shl=>Gl k a b
 | .shr=>Ge k a b
 | .add=>some (.int k (Fo k (a+b)))
 | .sub=>some (.int k (Fo k (a - b)))
 | .mul=>some (.int k (Fo k (a*b)))
 | .quo=>Hi k a b
 | .rem=>HW k a b
 | .and=>some (.int k (Fo k (Int.ofNat (Nat.land (Cq k a) (Cq k b)))))
 | .or=>some (.int k (Fo k (Int.ofNat (Nat.lor (Cq k a) (Cq k b)))))
 | .xor=>some (.int k (Fo k (Int.ofNat (Nat.xor (Cq k a) (Cq k b)))))
 | .eql=>some (.bool (J2 a b))
 | .neq=>some (.bool (!J2 a b))
 | .lss=>some (.bool (Hr a b))
 | .gtr=>some (.bool (Hr b a))
 | .leq=>some (.bool (!Hr b a))
 | .geq=>some (.bool (!Hr a b))
 | op=>Ae op (.int k a) (.int k b)
def JC (op:BinOp) (k k':IntKind) (a b:Int):Option Value:=match op with
 | .shl=>Gl k a b
 | .shr=>Ge k a b
 | op=>Ae op (.int k a) (.int k' b)
def IF (op:BinOp) (x y:Value):Option Value:=match x with
 | .int k a=>(match y with
   | .int k' b=>cond (Nat.beq (kN k) (kN k')) (IE op k a b) (JC op k k' a b)
   | y=>Ae op (.int k a) y)
 | x=>Ae op x y
inductive TS where
 | lf
 | nd (v:AV) (l r:TS)
structure RS where
 sz:Nat
 t:TS
 h:List (Nat × Option AD)
 n:Nat
def Bp (t:TS):Nat->AV :=
 TS.rec (motive:=λ _=>Nat->AV) (λ _=>.dead) (λ v _ _ l r i=>Nat.rec (motive:=λ _=>AV) v (λ j _=>Bool.rec (motive:=λ _=>AV) (r (Nat.div j 2)) (l (Nat.div j 2)) (Nat.beq (Nat.mod j 2) 0)) i) t
def KT (n:Nat):TS:=Nat.rec (motive:=λ _=>TS) .lf (λ _ t=>.nd .dead t t) n
def La {α:Type} (l:List (Nat × α)) (j:Nat):Option α :=
 List.rec (motive:=λ _=>Option α) none (λ p _ ih=>Bool.rec (motive:=λ _=>Option α) ih (some p.2) (Nat.beq p.1 j)) l
def Yc {α:Type}:Option (Option α)->Option α | some x=>x | none=>none
def Kh (h:List (Nat × Option AD)) (id:Nat):Option AD:=Yc (La h id)
def RS.get (s:RS) (i:Nat):AV:=Bp s.t i
def RS.hp (s:RS) (id:Nat):Option AD:=Kh s.h id
abbrev Rr:=Option (Dy × RS)
def DY {γ:Type} (v:AV) (t:TS):Nat->(TS->Option γ)->Option γ :=
 TS.rec (motive:=λ _=>Nat->(TS->Option γ)->Option γ) (λ _ _=>none)
  (λ x tl tr l r i k=>Nat.rec (motive:=λ _=>Option γ) (k (.nd v tl tr)) (λ j _=>Bool.rec (motive:=λ _=>Option γ) (r (Nat.div j 2) λ tr'=>k (.nd x tl tr')) (l (Nat.div j 2) λ tl'=>k (.nd x tl' tr)) (Nat.beq (Nat.mod j 2) 0)) i) t
def HY {γ:Type} (xs:List AV):Nat->TS->(TS->Option γ)->Option γ :=
 List.rec (motive:=λ _=>Nat->TS->(TS->Option γ)->Option γ) (λ _ t k=>k t) (λ x _ ih i t k=>DY x t i λ t'=>ih (i+1) t' k) xs
def Ef (i:Nat) (l:List (Nat × Option AD)):(List (Nat × Option AD)->Rr)->Rr :=
 List.rec (motive:=λ _=>(List (Nat × Option AD)->Rr)->Rr) (λ k=>k []) (λ p _ ih k=>Bool.rec (motive:=λ _=>Rr) (ih λ l'=>k (p::l')) (ih k) (Nat.beq p.1 i)) l
def IK (p:Nat × Option AD) (k:List (Nat × Option AD)->Rr) (h:List (Nat × Option AD)):Rr:=match p with
 | (_,none)=>k h
 | (i,some e)=>k ((i,some e)::h)
def GW (up h:List (Nat × Option AD)):(List (Nat × Option AD)->Rr)->Rr :=
 List.rec (motive:=λ _=>(List (Nat × Option AD)->Rr)->Rr) (λ k=>k h) (λ p _ ih k=>ih λ h=>Ef p.1 h (IK p k)) up
def H5 (t:TS) (xs:List DB):List AV :=
 List.rec (motive:=λ _=>List AV) [] (λ x _ ih=>x.ev (Bp t)::ih) xs
def EC:Nat->AV->List Nat
 | 0,_=>[]
 | n+1,x=>match x with
   | .rs a _ _=>[a]
   | .rk a _ _ _=>[a]
   | .pt a _ _=>[a]
   | .mp a=>[a]
   | .it a=>[a]
   | .agg cs=>cs.flatMap (EC n)
   | .tup cs=>cs.flatMap (EC n)
   | .fn _ a b=>a.flatMap (EC n)++b.flatMap (EC n)
   | .ifc _ v=>EC n v
   | _=>[]
def FR (l:List Nat):List Nat->List Nat
 | []=>l
 | i::is=>if l.contains i then FR l is else FR (l++[i]) is
def OX (h:Nat->Option AD) (i:Nat):List Nat:=match h i with | some e=>e.rows.flatMap (·.flatMap (EC 4)) | none=>[]
def Nu (h:Nat->Option AD):Nat->List Nat->List Nat
 | 0,l=>l
 | n+1,l=>let l':=FR l (l.flatMap (OX h));if l'.length=l.length then l else Nu h n l'
def HP:Nat->AV->Bool
 | 0,_=>false
 | n+1,x=>match x with
   | .dead=>true
   | .sc _=>true
   | .agg xs=>xs.all (HP n)
   | .tup xs=>xs.all (HP n)
   | .rs _ _ _=>true
   | .pt _ _ _=>true
   | .mp _=>true
   | .it _=>true
   | _=>false
def YC:Option AD->Bool
 | none=>true
 | some e=>e.rows.all (·.all (HP 4))
def JO:List Nat->Bool
 | []=>true
 | i::is=>!is.contains i && JO is
def MC:List (Option AD)->Option (List AD)
 | []=>some []
 | none::_=>none
 | some e::l=>match MC l with | some es=>some (e::es) | none=>none
abbrev Cf:=FuncId->List AV->List AD->Option (AV × List (Option AD))
abbrev BI:=Option (AV × List Nat × List (Nat × Option AD))
def Kr (x:AV):Bool:=match x with | .sc _=>true | _=>false
def LK (xs:List AV):Bool:=List.rec (motive:=λ _=>Bool) true (λ x _ ih=>Bool.rec (motive:=λ _=>Bool) false ih (Kr x)) xs
def TI (ids:List Nat) (id:Nat):List (Nat × Nat):=(ids++(List.range 8).map (id + ·)).zipIdx.map λ (a,b)=>(b,a)
def LR (ids sn:List Nat) (id:Nat) (h:Nat->Option AD) (raise:Bool) (hs':List (Option AD)):List (Nat × Option AD) :=
 (hs'.zipIdx.map λ (e,k)=>((ids++(List.range 8).map (id + ·)).getD k 0,e.map (Ab (TI ids id) [] (λ _=>none) 4)))++(if raise then sn.filterMap (λ i=>(h i).map λ e=>(i,some { e with ro:=e.rows.length })) else [])
def Oj (ids sn:List Nat) (np nh:Nat) (raise:Bool) (hs':List (Option AD)):Bool :=
 JO ids && ((sn.all λ i=>!ids.contains i) && ((!raise || sn.all λ i=>Nat.ble np i) && Nat.ble hs'.length (nh+8)))
def Kl (ids sn:List Nat) (np id nh:Nat) (h:Nat->Option AD) (res:AV) (hs':List (Option AD)) (raise:Bool):BI :=
 cond (Oj ids sn np nh raise hs') (some (conv (TI ids id) [] (λ _=>none) 4 res,ids++sn,LR ids sn id h raise hs')) none
def Rg (ids sn:List Nat) (np id nh:Nat) (h:Nat->Option AD):Option (AV × List (Option AD))->BI
 | none=>none
 | some (res,hs')=>Kl ids sn np id nh h res hs' (match sn with | []=>true | _=>!(HP 5 res && hs'.all YC))
def VS (id:Nat):Option (AV × List (Option AD))->BI
 | some (.sc v,[])=>some (.sc v,[],[])
 | some (res,hs')=>Kl [] [] 0 id 0 (λ _=>none) res hs' true
 | none=>none
def KX (cf:Cf) (np id:Nat) (h:Nat->Option AD) (f:FuncId) (xs:List AV) (deep:Bool) (ids sn:List Nat):BI :=
 DL (Iz deep 6) (xs.map (conv ids.zipIdx sn h 4)) λ args =>
 match MC (ids.map λ i=>(h i).map (Ab ids.zipIdx sn h 4)) with
 | none=>none
 | some hs0=>DL (KV deep) hs0 λ hs=>Rg ids sn np id hs.length h (cf f args hs)
def Lb (sp:List FuncId) (cf:Cf) (np id:Nat) (h:Nat->Option AD) (f:FuncId) (xs:List AV):BI :=
 match LK xs with
 | true=>VS id (cf f xs [])
 | false =>
   DL Ci (FR [] (xs.flatMap (EC 4))) λ top =>
   DL Ci (Nu h 4 top) λ all =>
   match sp.contains f with
   | true=>KX cf np id h f xs true [] all
   | false=>match Nat.ble all.length 16 with
     | true=>KX cf np id h f xs false all []
     | false=>DL Ci (all.filter λ i=>!top.contains i) λ sn=>KX cf np id h f xs true top sn
def Nf:Bool->Bool->Nat->List AV->Option (Nat × Nat)
 | false,false,n,[]=>some (0,n)
 | true,false,n,[.sc (.int .i64 l)]=>if 0<=l then some (l.toNat,n) else none
 | false,true,_,[.sc (.int .i64 r)]=>if 0<=r then some (0,r.toNat) else none
 | true,true,_,[.sc (.int .i64 l),.sc (.int .i64 r)]=>if 0<=l/\0<=r then some (l.toNat,r.toNat) else none
 | _,_,_,_=>none
def SN (h:Nat->Option AD) (s l r:Nat) (hi:Bool):AV->BI
 | .vs s' f rows=>if s'=s then some (.vs s (f && !hi) ((rows.drop l).take (r - l)),[],[]) else none
 | .rs i off _=>match h i with | some e=>if e.s=s then some (.rs i (off+l) (r - l),[i],[]) else none | none=>none
 | .sc (.slice none 0 0)=>some (.nilS,[],[])
 | _=>none
def Kb:List AV->BI
 | [x]=>some (x,[],[])
 | _=>none
def YK:List AV->BI
 | [.sc (.bool t),a,b]=>some (if t then a else b,[],[])
 | _=>none
def ZE (id:Nat) (z:List Value):List AV->BI
 | []=>some (.pt id 0 0,[],[(id,some { s:=z.length,rows:=[z.map .sc] })])
 | _=>none
def ZD (id:Nat) (s:Nat):List AV->BI
 | [x]=>match cellsOf x with
   | some cs=>if cs.length=s then some (.pt id 0 0,[],[(id,some { s:=s,rows:=[cs] })]) else none
   | none=>none
 | _=>none
def XF (z:List Value) (ps:List (Nat × Nat)):List AV->BI
 | xs=>match F4 (z.map .sc) ps xs with | some cs=>some (.agg cs,[],[]) | none=>none
def SF (id:Nat) (s:Nat) (len:Nat) (z:List Value) (ps:List Nat):List AV->BI
 | xs=>match FV s (List.replicate len (z.map .sc)) ps xs with
   | some rows=>if z.length=s then some (.rs id 0 len,[],[(id,some { s:=s,rows:=rows })]) else none
   | none=>none
def Jw (h:Nat->Option AD) (ag:Bool) (s:Nat):List AV->BI
 | [x]=>match En h x with
   | some cs=>if s<=cs.length then some (if ag then .agg (cs.take s) else cs.headD .dead,Be x,[]) else none
   | none=>none
 | _=>none
def KK (h:Nat->Option AD) (s:Nat):List AV->BI
 | [.pt i k j,x]=>match h i with
   | some e=>match e.rows[k]?,cellsOf x with
     | some row,some cs=>if e.ro<=k/\cs.length=s/\j+s<=row.length then some (.dead,[i],[(i,some { e with rows:=e.rows.set k (Ax row j cs) })]) else none
     | _,_=>none
   | none=>none
 | _=>none
def YV:List AV->BI
 | [.pt a b c]=>some (.pt a b c,[],[])
 | [.pv cs]=>some (.pv cs,[],[])
 | [.ifc t v]=>some (.ifc t v,[],[])
 | _=>none
def Sv (op:BinOp):List AV->BI
 | [.sc a,.sc b]=>match IF op a b with | some v=>some (.sc v,[],[]) | none=>none
 | _=>none
def YE (neg:Bool):List AV->BI
 | [.sc (.bool a),.sc (.bool b)]=>some (.sc (.bool ((a == b) != neg)),[],[])
 | _=>none
def Vu (neg:Bool) (ks:List Nat):List AV->BI
 | [.agg xs,.agg ys]=>match Cw ks xs ys with | some b=>some (.sc (.bool (b != neg)),[],[]) | none=>none
 | _=>none
def Xd (neg:Bool):List AV->BI
 | [.vs _ _ (_::_)]=>some (.sc (.bool neg),[],[])
 | [.sc (.slice a _ _)]=>some (.sc (.bool (a.isNone != neg)),[],[])
 | _=>none
def JX (op:UnOp):List AV->BI
 | [.sc a]=>match Hq op a with | some v=>some (.sc v,[],[]) | none=>none
 | _=>none
def Xx (k:IntKind):List AV->BI
 | [.sc (.int _ n)]=>some (.sc (.int k (Fo k n)),[],[])
 | _=>none
def YA (h:Nat->Option AD):List AV->BI
 | [x]=>match CJ 1 h x with
   | some rows=>match Gd rows with | some bs=>some (.sc (.string ⟨bs.toArray⟩),Be x,[]) | none=>none
   | none=>none
 | _=>none
def TZ (f:FuncId):List AV->BI
 | xs=>some (.fn (.func f) [] xs,[],[])
def Wd (f:FuncId):List AV->BI
 | xs=>some (.fn (.func f) xs [],[],[])
def Wm (id:Nat) (s:Nat) (bytes:Nat) (z:List Value):List AV->BI
 | [.sc (.int _ l),.sc (.int _ c)]=>if 0<=l/\l<=c/\c*bytes<=140737488355328/\c<=140737488355328/\z.length=s then some (.rs id 0 l.toNat,[],[(id,some { s:=s,rows:=List.replicate l.toNat (z.map .sc) })]) else none
 | _=>none
def WE (h:Nat->Option AD) (s:Nat) (lo:Bool) (hi:Bool):List AV->BI
 | x::bs=>match lenOf x with
   | none=>none
   | some n=>match Nf lo hi n bs with
     | none=>none
     | some (l,r)=>if l<=r/\r<=n then SN h s l r hi x else none
 | _=>none
def Za (off:Nat):List AV->BI
 | [.pv cs]=>if off<=cs.length then some (.pv (cs.drop off),[],[]) else none
 | [.pt i k j]=>some (.pt i k (j+off),[],[])
 | _=>none
def WI (ag:Bool) (off:Nat) (s:Nat):List AV->BI
 | [.agg cs]=>if off+s<=cs.length then some (if ag then .agg ((cs.drop off).take s) else cs.getD off .dead,[],[]) else none
 | _=>none
def ZM (h:Nat->Option AD) (s:Nat):List AV->BI
 | [.vs s' _ rows,.sc (.int _ n)]=>if s'=s/\0<=n then match rows[n.toNat]? with | some row=>some (.pv row,[],[]) | none=>none else none
 | [.rs i off len,.sc (.int _ n)]=>match h i with | some e=>if 0<=n/\n<len/\e.s=s then some (.pt i (off+n.toNat) 0,[i],[]) else none | none=>none
 | _=>none
def VV (l:Nat) (s:Nat):List AV->BI
 | [.pt i k j,.sc (.int _ n)]=>if 0<=n/\n<l then some (.pt i k (j+n.toNat*s),[],[]) else none
 | [.pv cs,.sc (.int _ n)]=>if 0<=n/\n<l/\l*s<=cs.length then some (.pv (cs.drop (n.toNat*s)),[],[]) else none
 | _=>none
def Tw:List AV->BI
 | [.sc (.string b),.sc (.int _ n)]=>if 0<=n then match b.data.toList[n.toNat]? with | some c=>some (.sc (.int .u8 c.toNat),[],[]) | none=>none else none
 | _=>none
def Vt (i:Nat):List AV->BI
 | [.tup vs]=>match vs[i]? with | some v=>some (v,[],[]) | none=>none
 | _=>none
def Yy (sp:List FuncId) (cf:Cf) (np id:Nat) (h:Nat->Option AD):List AV->BI
 | .fn (.func f) first aA::args=>Lb sp cf np id h f (first++args++aA)
 | _=>none
def Vv (sp:List FuncId) (cf:Cf) (np id:Nat) (h:Nat->Option AD) (tbl:List (TypeId × FuncId)):List AV->BI
 | .ifc t x::args=>match AQ tbl t with | some f=>Lb sp cf np id h f (x::args) | none=>none
 | _=>none
def Sd (id:Nat) (h:Nat->Option AD) (s:Nat) (bytes:Nat):List AV->BI
 | [x,y]=>match x with
   | .rk _ _ _ _=>none
   | x=>match CJ s h y with
     | some new=>match DN s h new x with
       | some old=>if (old.1.length+new.length)*bytes<=140737488355328/\old.1.length+new.length<=140737488355328 then some (.rs id 0 (old.1.length+new.length),Be x++Be y,(id,some { s:=s,rows:=old.1++new,ro:=old.2.1 })::old.2.2) else none
       | none=>none
     | none=>none
 | _=>none
def SP (id:Nat) (h:Nat->Option AD):List AV->BI
 | [x,.sc (.string b)]=>match DN 1 h (Dk b) x with
   | some old=>if old.1.length+b.size<=140737488355328 then some (.rs id 0 (old.1.length+b.size),Be x,(id,some { s:=1,rows:=old.1++Dk b,ro:=old.2.1 })::old.2.2) else none
   | none=>none
 | _=>none
def VO (id:Nat) (s:Nat) (bytes:Nat) (z:List Value):List AV->BI
 | [.sc (.slice none 0 0),.sc (.int _ n)]=>if z.length=s/\0<n/\n.toNat*bytes<=140737488355328/\n.toNat<=140737488355328 then some (.rs id 0 n.toNat,[],[(id,some { s:=s,rows:=List.replicate n.toNat (z.map .sc) })]) else none
 | _=>none
def WX:List AV->BI
 | [x]=>match lenOf x with | some n=>some (AV.I n,[],[]) | none=>none
 | _=>none
def Xo:List AV->BI
 | [.sc (.string b)]=>some (AV.I b.size,[],[])
 | _=>none
def ZK:List AV->BI
 | [.rk _ _ _ c]=>some (AV.I c,[],[])
 | [.sc (.slice none 0 0)]=>some (AV.I 0,[],[])
 | _=>none
def Rj (h:Nat->Option AD) (s:Nat):List AV->BI
 | [.rs i off len,y]=>match h i,CJ s h y with
   | some e,some new=>if e.s=s/\e.ro<=off/\off+len<=e.rows.length then some (AV.I (min new.length len:Nat),i::Be y,[(i,some { e with rows:=e.rows.take off++new.take (min new.length len)++e.rows.drop (off+min new.length len) })]) else none
   | _,_=>none
 | _=>none
def SE (h:Nat->Option AD) (s:Nat) (z:List Value):List AV->BI
 | [.rs i off len]=>match h i with
   | some e=>if e.s=s/\z.length=s/\e.ro<=off/\off+len<=e.rows.length then some (.dead,[i],[(i,some { e with rows:=e.rows.take off++List.replicate len (z.map .sc)++e.rows.drop (off+len) })]) else none
   | none=>none
 | _=>none
def Zo:List AV->BI
 | [.sc (.int k a),.sc (.int _ b)]=>some (.sc (.int k (if a<b then b else a)),[],[])
 | _=>none
def Rv:List AV->BI
 | [.sc (.int k a),.sc (.int _ b)]=>some (.sc (.int k (if b<a then b else a)),[],[])
 | _=>none
def RK (t:TypeId):List AV->BI
 | [x]=>some (.ifc t x,[],[])
 | _=>none
def Re (id:Nat):List AV->BI
 | []=>some (.mp id,[],[(id,some { s:=0,rows:=[] })])
 | _=>none
def Xf (h:Nat->Option AD) (z:Value) (ok:Bool):List AV->BI
 | [.mp i,.sc (.int .i64 n)]=>match h i with
   | some e=>if e.s=0 then some (if ok then .tup [(Ce n e.rows).getD (Bb z),.sc (.bool (Ce n e.rows).isSome)] else (Ce n e.rows).getD (Bb z),[i],[]) else none
   | none=>none
 | _=>none
def YZ (h:Nat->Option AD):List AV->BI
 | [.mp i,.sc (.int .i64 n),x]=>match h i with
   | some e=>if e.s=0 then some (.dead,[i],[(i,some { e with rows:=A7 n x e.rows })]) else none
   | none=>none
 | _=>none
def VK (h:Nat->Option AD):List AV->BI
 | [.mp i,.sc (.int .i64 n)]=>match h i with
   | some e=>if e.s=0 then some (.tup [],[i],[(i,some { e with rows:=Bn n e.rows,ro:=0 })]) else none
   | none=>none
 | _=>none
def Hn (l:List (List AV)):Bool:=match l with | []=>true | _=>false
theorem S2 {l:List (List AV)} (h:Hn l=true):l=[]:=by
 cases l with
 | nil=>rfl
 | cons _ _=>cases h
def Mn (h:Nat->Option AD) (z:Value) (ok:Bool):List AV->BI
 | [.mp i,.sc (.string _)]=>match h i with
   | some e=>if e.s=0/\Hn e.rows=true then some (if ok then .tup [Bb z,.sc (.bool false)] else Bb z,[i],[]) else none
   | none=>none
 | _=>none
def NF (h:Nat->Option AD):List AV->BI
 | [.mp i,.sc (.string _),_]=>match h i with
   | some e=>if e.s=0/\Hn e.rows=true then some (.dead,[i],[(i,none)]) else none
   | none=>none
 | _=>none
def Nw (id:Nat):List AV->BI
 | [.sc (.string b)]=>some (.rs id 0 b.size,[],[(id,some { s:=1,rows:=Dk b,ro:=0 })])
 | _=>none
def PQ (id:Nat):List AV->BI
 | [.sc (.string s)]=>some (.it id,[],[(id,some { s:=0,rows:=[[.sc (.string s),.sc (.int .i64 0)]] })])
 | _=>none
def KP (i:Nat) (e:AD):List (List AV)->BI
 | [[.sc (.string s),.sc (.int .i64 q)]]=>match q with
   | .ofNat p=>if p<s.size then (match s.data.toList[p]? with
     | some c=>if c.toNat<128 then some (.tup [.sc (.bool true),.sc (.int .i64 (.ofNat p)),.sc (.int .i32 c.toNat)],[i],[(i,some { e with rows:=[[.sc (.string s),.sc (.int .i64 (.ofNat (p+1)))]] })]) else none
     | none=>none) else some (.tup [.sc (.bool false)],[i],[])
   | _=>none
 | _=>none
def PI (h:Nat->Option AD):List AV->BI
 | [.it i]=>match h i with
   | some e=>if e.s=0 then KP i e e.rows else none
   | none=>none
 | _=>none
def HV (id:Nat) (h:Nat->Option AD) (op:Er) (xs:List AV):BI:=match op with
 | .mle z ok=>Mn h z ok xs
 | .mue=>NF h xs
 | .s2b=>Nw id xs
 | .rng=>PQ id xs
 | .nxt=>PI h xs
theorem uB {id:Nat} {h:Nat->Option AD} {op:Er} {xs:List AV} {v:AV} {rd:List Nat} {up:List (Nat × Option AD)} (e:HV id h op xs=some (v,rd,up)) {K:AV->List Nat->List (Nat × Option AD)->Prop} (hk:K v rd up):aX id op xs h K:=by
 cases op with
 | mle z ok =>
   have e:Mn h z ok xs=_:=e;unfold Mn at e;split at e
   .split at e
    .rename_i h1
     split at e
     .rename_i hc;cases e;exact⟨_,h1,hc.1,S2 hc.2,hk⟩
     .cases e
    .cases e
   .cases e
 | mue =>
   have e:NF h xs=_:=e;unfold NF at e;split at e
   .split at e
    .rename_i h1
     split at e
     .rename_i hc;cases e;exact⟨_,h1,hc.1,S2 hc.2,hk⟩
     .cases e
    .cases e
   .cases e
 | s2b =>
   have e:Nw id xs=_:=e;unfold Nw at e;split at e
   .cases e;exact hk
   .cases e
 | rng =>
   have e:PQ id xs=_:=e;unfold PQ at e;split at e
   .cases e;exact hk
   .cases e
 | nxt =>
   have e:PI h xs=_:=e;unfold PI at e;split at e
   .split at e
    .rename_i e0 h1
     split at e
     .rename_i hc
      unfold KP at e;split at e
      .rename_i s q hr
       split at e
       .rename_i p
        split at e
        .rename_i hp
         split at e
         .rename_i c u
          split at e
          .rename_i h8
           cases e;refine⟨_,h1,hc,s,p,hr,?_⟩;rw[if_pos hp];exact⟨c,u,h8,hk⟩
          .cases e
         .cases e
        .rename_i hp
         cases e;refine⟨_,h1,hc,s,p,hr,?_⟩;rw[if_neg hp];exact hk
       .cases e
      .cases e
     .cases e
    .cases e
   .cases e
def Pk (l:Nat):List AV->BI
 | [.agg cs,.sc (.int _ n)]=>if 0<=n/\n<l/\l<=cs.length then some (cs.getD n.toNat .dead,[],[]) else none
 | _=>none
def NN (sp:List FuncId) (cf:Cf) (np id:Nat) (h:Nat->Option AD) (op:ER) (xs:List AV):BI:=match op with
 | .mv=>Kb xs
 | .pick=>YK xs
 | .alloc z'=>ZE id z' xs
 | .box s'=>ZD id s' xs
 | .build z' ps'=>XF z' ps' xs
 | .bsl s' len' z' ps'=>SF id s' len' z' ps' xs
 | .ld ag' s'=>Jw h ag' s' xs
 | .st s'=>KK h s' xs
 | .nil=>YV xs
 | .bin op'=>Sv op' xs
 | .beq neg'=>YE neg' xs
 | .aeq neg' ks'=>Vu neg' ks' xs
 | .snil neg'=>Xd neg' xs
 | .un op'=>JX op' xs
 | .cvt k'=>Xx k' xs
 | .b2s=>YA h xs
 | .mkf f'=>TZ f' xs
 | .mkb f'=>Wd f' xs
 | .mks s' bytes' z'=>Wm id s' bytes' z' xs
 | .slc s' lo' hi' mx'=>match mx' with | false=>WE h s' lo' hi' xs | true=>none
 | .fad off'=>Za off' xs
 | .fld ag' off' s'=>WI ag' off' s' xs
 | .iad s'=>ZM h s' xs
 | .iaa l' s'=>VV l' s' xs
 | .ixs=>Tw xs
 | .ixv l'=>Pk l' xs
 | .ext i'=>Vt i' xs
 | .call=>Yy sp cf np id h xs
 | .inv tbl'=>Vv sp cf np id h tbl' xs
 | .app s' bytes'=>Sd id h s' bytes' xs
 | .apps=>SP id h xs
 | .apz s' bytes' z'=>VO id s' bytes' z' xs
 | .len=>WX xs
 | .lens=>Xo xs
 | .cap=>ZK xs
 | .cpy s'=>Rj h s' xs
 | .clr s' z'=>SE h s' z' xs
 | .mx2=>Zo xs
 | .mn2=>Rv xs
 | .mki t'=>RK t' xs
 | .mkm=>Re id xs
 | .mlk z' ok'=>Xf h z' ok' xs
 | .mup=>YZ h xs
 | .mdl=>VK h xs
 | .x2 o'=>HV id h o' xs
 | _=>none
def Ou (next:TS->List (Nat × Option AD)->List (List Nat × List Nat)->Rr) (h:List (Nat × Option AD)) (tr:List (List Nat × List Nat)) (t:TS):Rr:=next t h tr
def Yr (sz:Nat) (dst:Option Nat) (next:TS->List (Nat × Option AD)->List (List Nat × List Nat)->Rr) (t:TS) (tr:List (List Nat × List Nat)) (v:AV) (h:List (Nat × Option AD)):Rr :=
 match dst with
 | none=>next t h tr
 | some d=>match Nat.blt d sz with
   | true=>Iz false 6 v λ v=>DY v t d (Ou next h tr)
   | false=>none
def Xw (sz:Nat) (dst:Option Nat) (next:TS->List (Nat × Option AD)->List (List Nat × List Nat)->Rr) (t:TS) (h:List (Nat × Option AD)) (tr:List (List Nat × List Nat)) (v:AV) (rd:List Nat) (up:List (Nat × Option AD)):Rr :=
 GW up h (Yr sz dst next t (tr++[(rd,up.map (·.1))]) v)
def YI (sz:Nat) (dst:Option Nat) (next:TS->List (Nat × Option AD)->List (List Nat × List Nat)->Rr) (t:TS) (h:List (Nat × Option AD)) (tr:List (List Nat × List Nat)):BI->Rr
 | none=>none
 | some (v,rd,up)=>DL (MA false) up (Xw sz dst next t h tr v rd)
def Gc (sp:List FuncId) (cf:Cf) (sz np id:Nat) (o:Bl) (next:TS->List (Nat × Option AD)->List (List Nat × List Nat)->Rr) (t:TS) (h:List (Nat × Option AD)) (tr:List (List Nat × List Nat)):Rr :=
 YI sz o.dst next t h tr (NN sp cf np id (Kh h) o.op (H5 t o.xs))
def Jr:Option Bool->Bool->Bool
 | some true,true=>true
 | some false,false=>true
 | _,_=>false
def R9 (sz:Nat) (dst:Option Nat) (next:TS->List (Nat × Option AD)->List (List Nat × List Nat)->Rr) (t:TS) (h:List (Nat × Option AD)) (tr:List (List Nat × List Nat)):Rr :=
 match dst with
 | none=>next t h (tr++[([],[])])
 | some d=>match Nat.blt d sz with
   | true=>DY (.tup []) t d (Ou next h (tr++[([],[])]))
   | false=>none
def Ja (sp:List FuncId) (cf:Cf) (sz np id:Nat) (o:Bl) (next:TS->List (Nat × Option AD)->List (List Nat × List Nat)->Rr) (t:TS) (h:List (Nat × Option AD)) (tr:List (List Nat × List Nat)) (want:Bool):Option (Option Bool)->Rr
 | none=>none
 | some b=>match Jr b want with
   | true=>Gc sp cf sz np id o next t h tr
   | false=>R9 sz o.dst next t h tr
def Mv (sp:List FuncId) (cf:Cf) (sz np id:Nat) (o:Bl) (next:TS->List (Nat × Option AD)->List (List Nat × List Nat)->Rr) (t:TS) (h:List (Nat × Option AD)) (tr:List (List Nat × List Nat)):Rr :=
 match o.guard with
 | none=>Gc sp cf sz np id o next t h tr
 | some (g,want)=>Ja sp cf sz np id o next t h tr want (GG (Bp t g))
def Gk (sp:List FuncId) (cf:Cf) (sz np:Nat) (ops:List Bl):Nat->(Nat->TS->List (Nat × Option AD)->List (List Nat × List Nat)->Rr)->TS->List (Nat × Option AD)->List (List Nat × List Nat)->Rr :=
 List.rec (motive:=λ _=>Nat->(Nat->TS->List (Nat × Option AD)->List (List Nat × List Nat)->Rr)->TS->List (Nat × Option AD)->List (List Nat × List Nat)->Rr)
  (λ id k t h tr=>k id t h tr)
  (λ o _ ih id k t h tr=>Ci (id+8) λ id'=>Mv sp cf sz np id o (ih id' k) t h tr) ops
def Lg (body:RS->Rr) (n:Nat):RS->Rr :=
 Nat.rec (motive:=λ _=>RS->Rr) (λ _=>none) (λ _ ih s=>match body s with
  | some (.normal,s')=>ih s'
  | r=>r) n
def Oy (draw:Bool) (ops:List Bl) (after:List (List Nat)) (sz n:Nat) (t:TS) (h:List (Nat × Option AD)) (tr:List (List Nat × List Nat)):Rr :=
 match draw with
 | false=>some (.normal,⟨sz,t,h,n⟩)
 | true=>match FE ops after tr with
   | true=>some (.normal,⟨sz,t,h,n⟩)
   | false=>none
def Ha (b:RS->Rr):Rr->Rr
 | some (.normal,s)=>b s
 | r=>r
def Mm (a b:RS->Rr) (s:RS):AV->Rr
 | .sc (.bool true)=>a s
 | .sc (.bool false)=>b s
 | _=>none
def Mf (id:Nat):Rr->Rr
 | some (.exit i,s)=>match Nat.beq i id with | true=>some (.normal,s) | false=>some (.exit i,s)
 | r=>r
def NO (sp:List FuncId) (cf:Cf) (np:Nat) (draw:Bool) (ops:List Bl) (after:List (List Nat)):RS->Rr
 | ⟨sz,t,h,n⟩=>Gk sp cf sz np ops n (Oy draw ops after sz) t h []
def Ff (sp:List FuncId) (cf:Cf) (np lf:Nat) (c:CS):RS->Rr :=
 CS.rec (motive:=λ _=>RS->Rr)
  (λ s=>some (.normal,s))
  (λ draw ops after=>NO sp cf np draw ops after)
  (λ _ _ a b s=>Ha b (a s))
  (λ c _ _ a b s=>Mm a b s (c.ev (Bp s.t)))
  (λ id _ a s=>Mf id (a s))
  (λ _ a s=>Lg a lf s)
  (λ id s=>some (.exit id,s))
  (λ s=>some (.ret,s))
  (λ _=>none) c
def MO (s:RS) (r:Nat × Option (Bool × Nat)):Option AV :=
 match r with
 | (t,none)=>some (s.get t)
 | (t,some (ag,n))=>match En s.hp (s.get t) with
   | some cs=>if n<=cs.length/\(ag=true∨n=1) then some (if ag then .agg (cs.take n) else cs.headD .dead) else none
   | none=>none
def Kc (s:RS):List (Nat × Option (Bool × Nat))->Option (List AV)
 | []=>some []
 | r::rs=>match MO s r,Kc s rs with
   | some v,some vs=>some (v::vs)
   | _,_=>none
def LW (np:Nat) (s:RS) (vs:List AV) (small:Bool) (ex sn:List Nat):Option (AV × List (Option AD)) :=
 match JO (List.range np++ex) && ((ex.all λ i=>Nat.ble np i) && sn.all λ i=>!ex.contains i && Nat.ble np i) with
 | true =>
   Iz (!small) 6 (conv (List.range np++ex).zipIdx sn s.hp 4 (C2 vs)) λ r =>
   DL (λ (o:Option AD) k=>match o with | none=>k none | some e=>KV (!small) e λ e=>k (some e)) ((List.range np++ex).map λ i=>(s.hp i).map (Ab (List.range np++ex).zipIdx sn s.hp 4)) λ es=>some (r,es)
 | false=>none
def KG (rs:List (Nat × Option (Bool × Nat))) (np:Nat) (s:RS):Option (AV × List (Option AD)) :=
 match Kc s rs with
 | none=>none
 | some vs =>
   DL Ci (FR [] (EC 5 (C2 vs))) λ top =>
   DL Ci ((Nu s.hp 4 (FR (List.range np) top)).filter λ i=>Nat.ble np i) λ new =>
   match Nat.ble new.length 8 with
   | true=>LW np s vs true new []
   | false =>
     DL Ci (top.filter λ i=>Nat.ble np i) λ ex =>
     DL Ci (new.filter λ i=>!ex.contains i) λ sn=>LW np s vs false ex sn
def RB (rs:List (Nat × Option (Bool × Nat))) (np:Nat):Rr->Option (AV × List (Option AD))
 | some (.normal,s)=>KG rs np s
 | some (.ret,s)=>KG rs np s
 | _=>none
def Lw (sp:List FuncId) (cf:Cf) (lf:Nat) (af:BW) (args:List AV) (hs:List AD):Option (AV × List (Option AD)) :=
 match Nat.ble args.length af.nt && Nat.ble hs.length 16 with
 | true =>
   DL (Iz false 6) args λ args =>
   HY args 0 (KT 9) λ t =>
   DL (MA false) (hs.zipIdx.map λ (e,k)=>(k,some e)) λ h =>
   Ci hs.length λ np=>RB af.res np (Ff sp cf np lf af.code ⟨af.nt,t,h,16⟩)
 | false=>none
def Me (tbl:List (FuncId × BW)) (k:BW->Option (AV × List (Option AD))) (f:FuncId):Option (AV × List (Option AD)) :=
 match La tbl f with
 | some af=>k af
 | none=>none
def MZ (x y:Option (AV × List (Option AD))):Option (AV × List (Option AD)):=match x with
 | some r=>some r
 | none=>y
def Fg (sp:List FuncId) (ext:Cf) (tbl:List (FuncId × BW)) (lf d:Nat):Cf :=
 Nat.rec (motive:=λ _=>Cf) (λ _ _ _=>none) (λ _ ih f args hs=>MZ (ext f args hs) (Me tbl (λ af=>Lw sp ih lf af args hs) f)) d
end Go.Proofs.YtnaemfpgdmfmcaaGreatDoor
