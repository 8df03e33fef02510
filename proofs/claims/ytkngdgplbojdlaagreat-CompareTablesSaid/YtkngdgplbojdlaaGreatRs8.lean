/- Texts of this claim,merged. -/
import Derived.Test.YtkngdgplbojdlaaGreatRs7
import Derived.Test.YtkngdgplbojdlaaGreatRs3
import Derived.Test.YtkngdgplbojdlaaGreatRs6
set_option linter.unusedSimpArgs false
set_option linter.unusedVariables false
set_option linter.unusedSectionVars false
set_option maxRecDepth 100000
set_option maxHeartbeats 8000000
noncomputable section
namespace Go.Proofs.YtkngdgplbojdlaaGreat
open Go
section
variable (g:Gr) (p:Al) (r:Int) (hg:AI g) (hp:BT g.size p) (hr:1<=r) (aA:r<=5) (hs:p.seeds.length<=64) (ht:p.table.length<=8)
include hg hp hr aA hs ht
theorem fT:∀ s∈p.seeds,CM (AM g p.lv) s:=λ s h=>by
 have hR:=hp.2.1;obtain⟨i,hi,rfl⟩:=Uq h;have:=hR i hi;exact⟨this.1,by show p.seeds[i]<g.size;omega⟩
theorem wE:AcP 47 [eG g,eP p] [] (.I 0) []:=by
 have h0:=hg.edges_le;have h1:=hg.gone_le;have h:=MZ g p (by omega) (by omega) (by omega) (by omega)
 rwa [if_pos hg,if_pos hp] at h
theorem jX:AcP 48 [eG g,eP p,.I r] [] (.tup [AA (EV (AM g p.lv) p.seeds r).1,.I (EV (AM g p.lv) p.seeds r).2]) []:=by
 refine vR.s.ai ?_;have a6:=wE g p r hg hp hr aA hs ht;have hb:=sR g p r hg hr aA hs;have h5:=hg.level p.lv;have hS:=fT g p r hg hp hr aA hs ht;have bs:(AM g p.lv).size=g.size:=rfl;obtain⟨G,bt⟩:=AG (AM g p.lv);rw[<- bt] at hb h5 hS bs ⊢
 have a7:∀ i (h:i<(Ai G p.seeds).length),AcP 103 [AA (CG G p.seeds r (Da G p.seeds i))] [] (.I (FE G p.seeds r (Da G p.seeds i))) []:=λ i h=>zsY _ (λ x hx=>by
  obtain⟨y,_,rfl⟩:=Qi.1 hx
  exact IH h5 hr aA _ y) (by
   have:=K9 (g:=G) (S:=p.seeds);have:=h5.1.2.1;simp[CG]
   omega)
 have hd:∀ (h9:(Ai G p.seeds).length<=9) i (h:i<(Ai G p.seeds).length),AcP 102 [BJ (Dl G p.seeds r),.I i] [] (.I (G4 G p.seeds r i)) []:=λ h9 i h=>by
  obtain⟨N,hN⟩:∃ N,(Ai G p.seeds).length=N+1:=⟨(Ai G p.seeds).length - 1,by omega⟩
  have c0:(Ai G p.seeds).length - 1=N:=by omega
  have hu:=zsC h5 hr aA hS h9 (r:=r) h;have c1:∀ j,BP (N+1) (Fe G p.seeds r j)=FE G p.seeds r (Da G p.seeds j):=λ j=>by rw[<- hN];exact L2
  unfold G4 at hu ⊢;rw[c0] at hu ⊢;refine Y8 (Dl G p.seeds r) (Fe G p.seeds r) N i (by simp[Dl,hN]) (by omega) (by omega) (λ j hj=>?_) (λ a b=>IH h5 hr aA _ _) (λ j hj=>?_) hu
  .rw [L6 (by omega),zqH hN]
  .rw [c1]
   have h1:=Kj h5 hr aA (S:=p.seeds) (Da G p.seeds j)
   have h2:Fe G p.seeds r j j<=FE G p.seeds r (Da G p.seeds j):=Ko (λ v hv=>by
    obtain⟨y,_,rfl⟩:=Qi.1 hv
    exact(IH h5 hr aA _ y).1) (Qi.2 ⟨Da G p.seeds j,zlG (by omega),rfl⟩)
   omega
 have a8:∀ i (h:i<(Dl G p.seeds r).length),(Dl G p.seeds r)[i]=CG G p.seeds r (Da G p.seeds i):=λ i h=>by
  have:=L6 (G:=G) (S:=p.seeds) (r:=r) (i:=i) (by simpa [Dl] using h)
  rw[Qc h] at this;exact Qf this
 have c2:(Dl G p.seeds r).length=(Ai G p.seeds).length:=by simp[Dl]
 have he:=λ (h9:(Ai G p.seeds).length<=9) i (h:i<(Ai G p.seeds).length)=>OB h5 hr aA hS h9 (r:=r) (i:=i) h;have a9:=λ (h9:(Ai G p.seeds).length<=9) (h:0<(Ai G p.seeds).length)=>ztR h5 hr aA hS h9 (r:=r) h;have hw:=λ i (h:i<(Ai G p.seeds).length)=>Iu.1 (Qj h)
 have ad:(Ai G p.seeds).length<=64:=by
  have:=K9 (g:=G) (S:=p.seeds);have:=h5.1.2.1;omega
 have d4:=hg.1.1;have d7:=hg.1.2.1;have ag:=λ i y (h:i<(Ai G p.seeds).length) h2=>Se (G:=G) (S:=p.seeds) (r:=r) (i:=i) (y:=y) h h2;have a0:=λ i y (h:i<(Ai G p.seeds).length) h2=>Ss (G:=G) (S:=p.seeds) (r:=r) (i:=i) (y:=y) h h2;have am:=λ i y (h:i<(Ai G p.seeds).length) h2 h3=>TS (G:=G) (S:=p.seeds) (r:=r) (i:=i) (y:=y) h h2 h3;have an:=λ i y (h:i<(Ai G p.seeds).length) h2 h3=>Wa (G:=G) (S:=p.seeds) (r:=r) (i:=i) (y:=y) h h2 h3;obtain⟨K,ha⟩:=AG (Ai G p.seeds);obtain⟨L,c3⟩:=AG (Dl G p.seeds r);have c4:EV G p.seeds r=if K=[] then ([],11) else if 9<K.length then ([],3) else (Cj G p.seeds r,0):=by rw[ha];rfl
 rw[c4];have au:oA G p.seeds r K.length=oB G p.seeds r 0:=by rw[ha];exact zzQ
 have a1:oB G p.seeds r K.length=Cj G p.seeds r:=by rw[ha];exact RN
 rw[<- ha] at ad;simp only[<- ha,<- c3] at hb a7 hd a8 c2 he a9 hw ag a0 am an;refine ar [2,3,4,6,7] [] [16,24] 100 ?_;refine AC (rx (s:=?z2) [2,3,4,8] [] [] rfl ?p2 ?r2)
 case p2=>simp;refine Aq a6 (by simp) ?_;simp;rfl
 refine rs [2,3,4,19] [] [] ?_;refine AE _ rfl (λ h=>by simp at h) λ _=>?_
 refine AJ (AC (arc ⟨90,[(2,.I r),(3,.pv (gC g)),(4,.pv (pC p)),(26,.B false)],[],300⟩ ?_ ?_))
 .have h1:¬ r<1:=by omega
  have h2:¬ 5<r:=by omega
  simp[h1];exact AF [] [] (by simp[h2])
 refine AE _ rfl (λ h=>by simp at h) λ _=>?_
 refine AJ ?_;apply ax [3,9,10] [] [] 400
 .simp
  refine Aj hb ?_;simp;rfl
 refine AC (arc ⟨90,[(3,.pv (gC g)),(9,AA K),(10,BJ L),(36,.B (decide (K=[])))],[],500⟩ ?_ ?_)
 .simp
  exact AF [] [] (by simp<;>exact Aw (by rw[Qp];simp[UJ]))
 refine AE _ rfl (λ h=>?_) λ h=>?_
 .rw [Qd] at h
  rw[if_pos h];refine rs [6,7] [] [] ?_;exact A9 (AS.out [] [] rfl (by simp) (by simp) (by simp;exact Db (.nil 1 false) (.refl _)) (by simp))
 rw[Qa] at h;rw[if_neg h];refine AJ (AC (arc ⟨90,[(3,.pv (gC g)),(9,AA K),(10,BJ L),(39,.B (decide (9<K.length)))],[],600⟩ ?_ ?_))
 .simp
  exact AF [] [] (by simp<;>exact Aw (by rw[Qp];simp;omega))
 refine AE _ rfl (λ h2=>?_) λ h2=>?_
 .rw [Qd] at h2
  rw[if_pos h2];refine rs [6,7] [] [] ?_;exact A9 (AS.out [] [] rfl (by simp) (by simp) (by simp;exact Db (.nil 1 false) (.refl _)) (by simp))
 rw[Qa] at h2;refine AJ ?_;have av:=h;have hf:K.length<=9:=by omega
 have cb:0<K.length:=Uy.2 av;rw[if_neg (by omega)]
 obtain⟨n,hn⟩:=AG (K.length);obtain⟨N,hh⟩:=AG (G.size.toNat);have cd:g.size=N:=by omega
 have b1:∀ i,(oA G p.seeds r i).length=N:=λ i=>by rw[zzS,hh]
 have b2:∀ i,(oB G p.seeds r i).length=N:=λ i=>by rw[XO,hh]
 have hz:AD (oA G p.seeds r 0)=List.replicate N [AV.I 0]:=by rw[Wt,hh]
 refine arc ⟨90,[(9,AA K),(10,BJ L),(11,.rs 50 0 N)],[(50,some ⟨1,AD (oA G p.seeds r 0),0⟩)],1000⟩ ?_ ?_
 .simp [cd]
  exact⟨by omega,by omega,AF [(616,50)] [] (by simp) (by simp[hz,AB])⟩
 refine rx (s:=?z8) [9,10,11,12] [50] [] rfl ?p8 ?r8
 case p8=>simp[AB];rfl
 refine Ao ⟨90,[(9,AA K),(11,.rs 50 0 N),(12,.I (BI (G9 G p.seeds r):Nat))],[(50,some ⟨1,AD (oB G p.seeds r 0),0⟩)],4000⟩ ?_ ?_
 .refine rx (s:=?z9) [9,10,11,12,13] [50] [] rfl ?p9 ?r9
  case p9=>simp[AB];rfl
  refine AL (Ae (ι:=Nat) (λ i=>⟨90,[(9,AA K),(10,BJ L),(11,.rs 50 0 N),(12,.I (BI ((List.range i).map (BB G p.seeds r)):Nat)),(13,.I i)],[(50,some ⟨1,AD (oA G p.seeds r i),0⟩)],1200⟩) (λ i=>i<=n) (λ i=>n - i) 0 (Qh _) (AF [(50,50)] [] (by simp[BI]) (by simp[AB])) ?_)
  intro i hi;refine AC (rx (s:=?z10) [9,10,11,12,13,46] [50] [] rfl ?p10 ?r10)
  case p10=>simp[<- hn,AB];rfl
  refine AE _ rfl (λ hc=>?_) λ hc=>?_
  .simp at hc
   have h0:i<K.length:=by omega
   have b3:i<L.length:=by omega
   have a2:=w6 (x:=(i:Int)+1);have h6:=(hw i h0).1;obtain⟨y,hy⟩:∃ y:Nat,K[i]=(y:Int):=⟨K[i].toNat,by have:=h6.1;omega⟩
   have hk:y<N:=by have:=h6.2;rw[hy] at this;omega
   obtain⟨b4,ck,b5⟩:=he hf i h0;have h7:=ag i y h0 hy;have h4:=am i y h0 hy (by omega)
   have hm:=a7 i h0;have cl:=a8 i b3;have cp:=hd hf i h0;have b6:IntKind.i64.wrap (G4 G p.seeds r i*FE G p.seeds r (Da G p.seeds i))=((BB G p.seeds r i:Nat):Int):=by rw[Int.mul_comm,<- b4];exact w6
   have ho:=jI (BB G p.seeds r i) (BI ((List.range i).map (BB G p.seeds r)))
   have bf:BI ((List.range (i+1)).map (BB G p.seeds r))=Nat.gcd (BB G p.seeds r i) (BI ((List.range i).map (BB G p.seeds r))):=by
    rw[Uk,QT,Nat.gcd_comm];exact zlO _ _
   rw[<- bf] at ho;obtain⟨q1,hq1⟩:∃ q,q=BI ((List.range i).map (BB G p.seeds r)):=⟨_,rfl⟩;obtain⟨q2,hq2⟩:∃ q,q=BI ((List.range (i+1)).map (BB G p.seeds r)):=⟨_,rfl⟩;rw[<- hq1,<- hq2] at ho;obtain⟨w,a3⟩:=AG (BB G p.seeds r i);rw[<- a3] at b6 h7 h4 ho
   have a4:∀ h:y<(oA G p.seeds r (i+1)).length,(oA G p.seeds r (i+1))[y]=((w:Nat):Int):=λ h=>by
    rw[Qc h] at h4;exact Qf h4
   refine AJ (Ao ⟨90,[(9,AA K),(10,BJ L),(11,.rs 50 0 N),(12,.I (q2:Nat)),(13,.I i)],[(50,some ⟨1,AD (oA G p.seeds r (i+1)),0⟩)],3000⟩ ?_ ?_)
   .refine AL (CW ⟨90,[(9,AA K),(10,BJ L),(11,.rs 50 0 N),(12,.I (q1:Nat)),(13,.I i)],[(50,some ⟨1,AD (oA G p.seeds r (i+1)),0⟩)],1800⟩ ?_ ?_)
    .simp [h0,hy]
     refine Aj cp ?_;simp[b3,cl];refine Aj hm ?_;simp[b6,hk,b1,h7];exact⟨rfl,AF [(50,50)] [] (by simp[hq1]) (by simp[AB])⟩
    refine Ac rfl ?_;simp[h0,hy,hk,b1,a4];refine Aj ho ?_;simp;exact Av [(50,50)] []
   refine Ag (s:=?z12) rfl ?p12 ?r12
   case p12=>simp[a2];rfl
   refine⟨i+1,by omega,by omega,?_⟩
   rw[<- hq2];exact Av [(50,50)] []
  .simp at hc
   obtain rfl:i=n:=by omega
   have cq:BI ((List.range i).map (BB G p.seeds r))=BI (G9 G p.seeds r):=by unfold G9;rw[hn,ha]
   refine Aa (hit ?_);rw[cq,<- au,<- hn];exact Av [(50,50)] []
 have d0:=a9 hf cb;obtain⟨d,a5⟩:=AG (BI (G9 G p.seeds r));rw[<- a5] at d0;simp only[<- a5] at a0;refine Ao ⟨90,[(11,.rs 50 0 N)],[(50,some ⟨1,AD (Cj G p.seeds r),0⟩)],8000⟩ ?_ ?_
 .refine arc ⟨90,[(9,AA K),(11,.rs 50 0 N),(12,.I (d:Nat)),(14,.I 0)],[(50,some ⟨1,AD (oB G p.seeds r 0),0⟩)],4500⟩ ?_ ?_
  .simp
   exact AF [(50,50)] [] (by simp[a5]) (by simp[AB])
  refine AL (Ae (ι:=Nat) (λ i=>⟨90,[(9,AA K),(11,.rs 50 0 N),(12,.I (d:Nat)),(14,.I i)],[(50,some ⟨1,AD (oB G p.seeds r i),0⟩)],5000⟩) (λ i=>i<=n) (λ i=>n - i) 0 (Qh _) (Av [(50,50)] []) ?_);intro i hi;refine AC (rx (s:=?z20) [9,11,12,14,76] [50] [] rfl ?p20 ?r20)
  case p20=>simp[<- hn,AB];rfl
  refine AE _ rfl (λ hc=>?_) λ hc=>?_
  .simp at hc
   have h0:i<K.length:=by omega
   have a2:=w6 (x:=(i:Int)+1);have h6:=(hw i h0).1;obtain⟨y,hy⟩:∃ y:Nat,K[i]=(y:Int):=⟨K[i].toNat,by have:=h6.1;omega⟩
   have hk:y<N:=by have:=h6.2;rw[hy] at this;omega
   obtain⟨b4,ck,b5⟩:=he hf i h0;have h7:=a0 i y h0 hy;have h4:=an i y h0 hy (by omega)
   obtain⟨w,a3⟩:=AG (BB G p.seeds r i);rw[<- a3] at b5 h7 h4
   have a4:∀ h:y<(oB G p.seeds r i).length,(oB G p.seeds r i)[y]=((w:Nat):Int):=λ h=>by
    rw[Qc h] at h4;exact Qf h4
   have d1:=Nat.div_le_self w d
   have hq:AH .quo (.int .i64 (w:Int)) (.int .i64 (d:Int))=some (.int .i64 ((w / d:Nat):Int)):=by
    show (if (d:Int)=0 then none else some (Value.int .i64 (IntKind.i64.wrap ((w:Int).tdiv d))))=_
    have d2:IntKind.i64.wrap ((w / d:Nat):Int)=((w / d:Nat):Int):=by
     obtain⟨z,hz⟩:=AG (w / d);rw[<- hz] at d1 ⊢;exact w6
    rw[if_neg (by omega),show ((w:Int).tdiv d)=((w / d:Nat):Int) by simp,d2]
   refine AJ (AC (AL (Ac rfl ?_)));simp[-AH,-Int.natCast_ediv,h0,hy,hk,b2,a4,hq,h7];refine Ag (s:=?z22) rfl ?p22 ?r22
   case p22=>simp[a2];rfl
   exact⟨i+1,by omega,by omega,Av [(50,50)] []⟩
  .simp at hc
   obtain rfl:i=n:=by omega
   refine Aa (hit ?_);rw[<- a1,<- hn];exact Av [(50,50)] []
 have bo:(Cj G p.seeds r).length=N:=by simp[Cj,hh]
 have d3:∀ f:Int->List AV,((Cj G p.seeds r).map f).take N=(Cj G p.seeds r).map f:=λ f=>Qb (by simp[bo])
 refine arc ⟨90,[(6,AA (Cj G p.seeds r)),(7,.I 0)],[],9000⟩ ?_ ?_
 .simp
  exact AF [] [50] (by simp[bo,d3,AB])
 exact B7 [] []
end
def E8 (l:List Int) (q:Int->Bool) (m:Nat):Int:=((l.drop m).find? q).getD (-1)
theorem i4 (l:List Int) (q:Int->Bool):E8 l q l.length = -1:=by unfold E8;rw[List.drop_length];rfl
theorem lX {l:List Int} {q:Int->Bool} {m:Nat} (h:m<l.length):E8 l q m=if q l[m]=true then l[m] else E8 l q (m+1):=by
 unfold E8;rw[QP h,List.find?_cons]
 cases q l[m]<;>rfl
theorem uV (g:Gr) (p:Al) (salt:ByteArray) (n r:Int) (hg:AI g) (hp:BT g.size p) (c3:g.size<=12) (c4:salt.size<=100000) (e6:1<=n) (e7:n<=100) (cb:1<=r) (cd:r<=5) :
  AcP 15 [eG g,eP p,sB salt,.I n,.I r] [] (.tup [D6 (FH g p salt n r),.I 0]) []:=by
 refine zge.s.ai ?_;have a0:=LI hg hp;have ck:p.table.length<=8:=hp.2.2.2.1;have e8:=hg.edges_le;have e9:=hg.gone_le;have ea:=hg.1.1;have a1:=Nh g p (by omega) (by omega) (by omega) (by omega)
 rw[Jo.2 ⟨hg,hp⟩] at a1;obtain⟨⟨R,f⟩,_,ha⟩:=Zc g p hg hp a0;have a2:=KG g p.lv (by omega) (by omega)
 have h3:=LC (AM g p.lv) p.seeds (hg.level p.lv) (by omega)
 have h4:=XS (g:=AM g p.lv) (S:=p.seeds) (hg.level p.lv) (by omega)
 have a3:=jX g p r hg hp cb cd a0 ck;have a9:(Bj (AM g p.lv) p.seeds).length=g.size.toNat:=KE
 have hh:∀ (x:Nat) (h:x<(Bj (AM g p.lv) p.seeds).length),(Bj (AM g p.lv) p.seeds)[x]=AN (AM g p.lv) p.seeds x:=λ x h=>by
  have:=zlH (g:=AM g p.lv) (S:=p.seeds) (k:=x) (show x<g.size.toNat by omega)
  rw[<- this,List.getD,Qc h];rfl
 rw[show (AM g p.lv).size.toNat=(Bj (AM g p.lv) p.seeds).length from a9.symm] at h3
 have ad:∀ k∈Dk g p,0<=k/\k<g.size:=λ k hk=>IA (g:=AM g p.lv) hk;have b1:∀ s∈p.seeds,0<=s/\s<g.size:=λ s hs=>by have:=hp.2.1.nodup.2 s hs;omega
 have b2:(Dk g p).length<=64:=Mw hg p
 have b3:(Es g p).length<=64:=by
  have:(Es g p).Sublist (Dk g p):=IC _ _ rfl;exact QH this.length_le b2
 have h7:Dc g p=CU g.size.toNat λ x=>!decide (x∈Es g p):=rfl;have hc:(Dc g p).length<=g.size.toNat:=Ig _ _;have b4:=SS g p r;have ag:(EV (AM g p.lv) p.seeds r).2=0->DK g p r=(EV (AM g p.lv) p.seeds r).1:=λ h=>if_pos h;have ho:(EV (AM g p.lv) p.seeds r).2≠0->DK g p r=List.replicate g.size.toNat 0:=λ h=>if_neg h;have am:=λ a b=>mS g p.lv a b hg;have he:=λ x=>I2 (Es g p) x (by omega)
 obtain⟨n,rfl⟩:∃ m:Nat,n=(m:Int):=⟨n.toNat,by omega⟩
 have a4:=λ x=>gN g salt x n (Dc g p) (by omega) c4 (by omega) (by omega) (by omega)
 have b5:FH g p salt n r=(Dk g p).map (GC g p salt n r):=rfl;have a5:∀ x∈Dk g p,Dy g p=(Dk g p).headD 0:=λ x hx=>(pA hg hp hx).1;have b6:Dy g p=E8 p.seeds (λ s=>decide (0<=AN (AM g p.lv) p.seeds s)) 0:=rfl;have h0:∀ x,GC g p salt n r x=⟨x,AN (AM g p.lv) p.seeds x,Ea g p.lv ((Dk g p).headD 0) x,Di g.edges salt x n (Dc g p),(DK g p r).getD x.toNat 0,decide (x∈Es g p)⟩:=λ _=>rfl;change AK _ _ _ _ (.tup [Fl (Es g p) f R,.I 0]) [] at ha;change AK _ _ _ _ (.rs 0 0 (Dk g p).length) [some ⟨1,AD (Dk g p),0⟩] at h4;rw[b5];obtain⟨ρ,hρ⟩:=AG (GC g p salt n r);rw[<- hρ] at h0 ⊢;obtain⟨S1,bf⟩:∃ S,S=(EV (AM g p.lv) p.seeds r).1:=⟨_,rfl⟩;obtain⟨S2,an⟩:∃ S,S=(EV (AM g p.lv) p.seeds r).2:=⟨_,rfl⟩;rw[<- bf,<- an] at a3;rw[<- bf,<- an] at ag;rw[<- an] at ho;obtain⟨q,hq⟩:∃ q:Int->Bool,q=λ s=>decide (0<=AN (AM g p.lv) p.seeds s):=⟨_,rfl⟩;rw[<- hq] at b6;have bo:∀ s,q s=decide (0<=AN (AM g p.lv) p.seeds s):=λ s=>by rw[hq]
 obtain⟨D,hD⟩:=AG (Bj (AM g p.lv) p.seeds);rw[<- hD] at h3 a9;simp only[<- hD] at hh;obtain⟨O,hO⟩:=AG (Dk g p);rw[<- hO] at ad b2 h4 a5 ⊢;simp only[<- hO] at h0;obtain⟨A,hA⟩:=AG (Es g p);simp only[<- hA] at ha he h0 b3 h7;obtain⟨Z,hZ⟩:=AG (Dc g p);simp only[<- hZ] at a4 h0 h7 hc;obtain⟨W,hW⟩:=AG (DK g p r);simp only[<- hW] at b4 ag ho h0;obtain⟨V,hV⟩:=AG (AM g p.lv);rw[<- hV] at a2 h3 h4;simp only[<- hV] at hh h0 bo;have cl:∀ f:Int->List AV,(D.map f).take D.length=D.map f:=λ f=>Qb (by simp)
 have bs:∀ f:Int->List AV,(O.map f).take O.length=O.map f:=λ f=>Qb (by simp)
 obtain⟨N,hN⟩:∃ N:Nat,g.size=(N:Int):=⟨g.size.toNat,by omega⟩
 rw[hN,Uu] at a9 hc b4 h7 ho;rw[hN] at ad b1 c3;have cp:¬ ((n:Int)<1):=by omega
 have cq:¬ ((100:Int)<n):=by omega
 have d0:¬ (r<1):=by omega
 have d1:¬ (5<r):=by omega
 refine ar [2,3,4,5,6] [] [16,24] 50 ?_;refine AC ?_;apply ax [2,3,4,5,6,12] [] [] 100
 .simp
  refine Aj a1 ?_;simp;rfl
 refine ar [2,3,4,5,6,32] [] [] 200 ?_;refine AE _ rfl (λ h=>by cases h) λ _=>AJ ?_
 refine AC ?_;apply ax [2,3,4,5,6,47] [] [] 300
 .simp [cp,cq,d0,d1]
  rfl
 refine AE _ rfl (λ h=>by cases h) λ _=>AJ ?_
 apply ax [2,3,4,5,6,13] [] [332] 400
 .simp
  refine Aj a2 ?_;simp[Ay];rfl
 refine CW ⟨154,[(2,sB salt),(3,.I n),(4,.I r),(5,.pv (gC g)),(6,.pv (pC p)),(14,AA D),(15,AA O)],[],600⟩ ?_ ?_
 .simp
  refine CV h3 ?_;simp;refine CV h4 ?_;simp;exact⟨rfl,AF [] [424,456] (by simp[AB,cl,bs])⟩
 refine arc ⟨154,[(2,sB salt),(3,.I n),(4,.I r),(5,.pv (gC g)),(6,.pv (pC p)),(14,AA D),(15,AA O),(16,BV A f R)],[],700⟩ ?_ ?_
 .simp
  refine Aj ha ?_;simp[Ay];exact BF [] [648]
 refine arc ⟨154,[(2,sB salt),(3,.I n),(5,.pv (gC g)),(6,.pv (pC p)),(14,AA D),(15,AA O),(16,BV A f R),(18,AA S1),(19,.I S2)],[],800⟩ ?_ ?_
 .simp
  refine Aj a3 ?_;simp;exact A5 [] (by simp[AB])
 refine rx (s:=?s8) [2,3,5,6,14,15,16,18,19,20] [] [] rfl ?o8 ?q8
 case o8=>simp[AB];rfl
 refine Ao ⟨154,[(2,sB salt),(3,.I n),(5,.pv (gC g)),(6,.pv (pC p)),(14,AA D),(15,AA O),(16,BV A f R),(18,AA S1),(19,.I S2),(20,AA Z)],[],2000⟩ ?_ ?_
 .refine arc ⟨154,[(2,sB salt),(3,.I n),(5,.pv (gC g)),(6,.pv (pC p)),(14,AA D),(15,AA O),(16,BV A f R),(18,AA S1),(19,.I S2),(20,.nilS),(21,.I (0:Nat))],[],900⟩ ?_ ?_
  .simp
   exact A5 [] (by simp[AB])
  obtain⟨Y,hY⟩:∃ Y:Nat->List Int,Y=λ i=>CU i λ x=>!decide (x∈A):=⟨_,rfl⟩;have bt:Y 0=[]:=by rw[hY];rfl
  have d2:∀ i,Y (i+1)=Y i++if (!decide ((i:Int)∈A))=true then [(i:Int)] else []:=λ i=>by rw[hY];exact Pj _ _
  have d3:∀ i,(Y i).length<=i:=λ i=>by rw[hY];exact Ig _ _
  have d4:Y N=Z:=by rw[hY,h7]
  refine AL ?_
  refine Ae (ι:=Nat) (λ i=>⟨154,[(2,sB salt),(3,.I n),(5,.pv (gC g)),(6,.pv (pC p)),(14,AA D),(15,AA O),(16,BV A f R),(18,AA S1),(19,.I S2),(20,.rs 40 0 (Y i).length),(21,.I i)],[(40,some ⟨1,AD (Y i),0⟩)],1000⟩) (λ i=>i<=N) (λ i=>N - i) 0 (Qh _)
   (Le.lst [] [] [(40,1)] rfl (by simp) (by simp) (by simp) (by simp) (by simp) (by simp) (by simp) (by simp[Up,AB,bt]) (by simp[bt])) ?_
  intro i hi;have d7:=d3 i;have h9:=d2 i;obtain⟨y,hy⟩:=AG (Y i);rw[<- hy] at d7 h9 ⊢;have au:∀ f:Int->List AV,(y.map f).take y.length=y.map f:=λ f=>Qb (by simp)
  refine AC ?_;apply ax [2,3,5,6,14,15,16,18,19,20,21,76] [(40,40)] [] 1100
  .simp [hN]
   rfl
  refine AE _ rfl (λ h=>AJ ?_) λ h=>Aa (hit ?_)
  .rw [Qd] at h
   have hu:=Iz h (by omega)
   have h2:=he i;rw[show A.contains (i:Int)=decide ((i:Int)∈A) by rw[Qp];simp] at h2
   obtain⟨b,hb⟩:=AG (decide ((i:Int)∈A));rw[<- hb] at h2 h9;refine AC (AL ?_);apply ax [2,3,5,6,14,15,16,18,19,20,21,83] [(40,40)] [] 1200
   .simp
    refine Aq h2 (by simp[AB]) ?_
    simp;rfl
   refine AE _ rfl (λ h6=>?_) λ h6=>?_
   .rw [if_pos h6] at h9
    refine Ac rfl ?_;simp[Dn];refine⟨by omega,by omega,?_⟩
    refine Ac rfl ?_;simp[hu];refine⟨i+1,by omega,by omega,?_⟩
    rw[h9];exact AF [(1224,40)] [] (by simp[AB]) (by simp[AB,au])
   .rw [if_neg (by rw[h6];decide),QW] at h9
    refine AJ (Ac rfl ?_);simp[hu];refine⟨i+1,by omega,by omega,?_⟩
    rw[h9];exact AF [(40,40)] [] (by simp[AB]) (by simp[AB,au])
  rw[Qa] at h;obtain rfl:i=N:=by omega
  rw[d4] at hy;subst hy;exact AF [] [40] (by simp[AB,au])
 refine rx (s:=?s9) [2,3,5,6,14,15,16,18,19,20,22] [] [] rfl ?o9 ?q9
 case o9=>simp[AB];rfl
 refine Ao ⟨154,[(2,sB salt),(3,.I n),(5,.pv (gC g)),(6,.pv (pC p)),(14,AA D),(15,AA O),(16,BV A f R),(18,AA S1),(19,.I S2),(20,AA Z),(22,.I (Dy g p))],[],4000⟩ ?_ ?_
 .obtain ⟨m0,dd⟩:∃ m,m=p.seeds.length:=⟨_,rfl⟩
  have df:IntKind.i64.wrap ((p.seeds.length:Int) - 1)=(m0:Int) - 1:=by rw[w6];omega
  apply ax [2,3,5,6,14,15,16,18,19,20,22,23] [] [] 2200
  .simp [df]
   rfl
  refine AL ?_
  refine Ae (ι:=Nat) (λ m=>⟨154,[(2,sB salt),(3,.I n),(5,.pv (gC g)),(6,.pv (pC p)),(14,AA D),(15,AA O),(16,BV A f R),(18,AA S1),(19,.I S2),(20,AA Z),(22,.I (E8 p.seeds q m)),(23,.I ((m:Int) - 1))],[],2300⟩) (λ m=>m<=m0) (λ m=>m) m0 (Qk _)
   (A5 [] (by simp[AB,dd,i4])) ?_
  intro m hm;refine AC (arc ⟨154,[(2,sB salt),(3,.I n),(5,.pv (gC g)),(6,.pv (pC p)),(14,AA D),(15,AA O),(16,BV A f R),(18,AA S1),(19,.I S2),(20,AA Z),(22,.I (E8 p.seeds q m)),(23,.I ((m:Int) - 1)),(93,.B (decide (0<m)))],[],2400⟩ ?_ ?_)
  .simp
   exact A5 [] (by simp[AB]<;>exact Aw (by rw[Qp];simp;omega))
  refine AE _ rfl (λ h=>AJ ?_) λ h=>Aa (hit ?_)
  .rw [Qd] at h
   obtain⟨j,rfl⟩:∃ j,m=j+1:=⟨m - 1,by omega⟩
   have hj:j<p.seeds.length:=by omega
   have hf:=lX (q:=q) hj;obtain⟨dn,ds⟩:=b1 p.seeds[j] (Qj hj);obtain⟨s,hs⟩:∃ s:Nat,p.seeds[j]=(s:Int):=⟨p.seeds[j].toNat,by omega⟩
   rw[hs] at hf dn ds;have c0:s<D.length:=by omega
   have dt:=hh s c0;have c1:=bo s;rw[<- dt] at c1;have c2:=w6 (x:=(j:Int) - 1);refine AC (AL (arc ⟨154,[(2,sB salt),(3,.I n),(5,.pv (gC g)),(6,.pv (pC p)),(14,AA D),(15,AA O),(16,BV A f R),(18,AA S1),(19,.I S2),(20,AA Z),(22,.I (E8 p.seeds q (j+1))),(23,.I j),(104,.B (q s))],[],2600⟩ ?_ ?_))
   .simp [hj,hs,c0]
    exact A5 [] (by simp[AB,c1])
   refine AE _ rfl (λ h6=>?_) λ h6=>?_
   .rw [if_pos h6] at hf
    refine Ac rfl ?_;simp[hj,hs];refine Ac rfl ?_;simp[c2];exact⟨j,by omega,by omega,A5 [] (by simp[AB,hf])⟩
   .rw [if_neg (by rw[h6];decide)] at hf
    refine AJ (Ac rfl ?_);simp[c2];exact⟨j,by omega,by omega,A5 [] (by simp[AB,hf])⟩
  rw[Qa] at h;obtain rfl:m=0:=by omega
  exact A5 [] (by simp[AB,b6])
 refine rx (s:=?s10) [2,3,5,6,14,15,16,18,19,20,22,24] [] [] rfl ?o10 ?q10
 case o10=>simp[AB];rfl
 refine AC (ar [2,3,5,6,14,15,16,18,19,20,22,24,25] [] [] 4200 ?_);refine AL ?_
 refine Ae (ι:=Nat) (λ i=>⟨154,[(2,sB salt),(3,.I n),(5,.pv (gC g)),(6,.pv (pC p)),(14,AA D),(15,AA O),(16,BV A f R),(18,AA S1),(19,.I S2),(20,AA Z),(22,.I (Dy g p)),(24,.rs 40 0 i),(25,.I i)],[(40,some ⟨6,Gk ((O.take i).map ρ),0⟩)],4300⟩) (λ i=>i<=O.length) (λ i=>O.length - i) 0 (Qh _)
  (Le.lst [] [] [(40,6)] rfl (by simp) (by simp) (by simp) (by simp) (by simp) (by simp) (by simp) (by simp[Up,AB]) (by simp)) ?_
 intro i hi;refine AC (Dw ⟨154,[(2,sB salt),(3,.I n),(5,.pv (gC g)),(6,.pv (pC p)),(14,AA D),(15,AA O),(16,BV A f R),(18,AA S1),(19,.I S2),(20,AA Z),(22,.I (Dy g p)),(24,.rs 40 0 i),(25,.I i),(113,.B (decide (i<O.length)))],[(40,some ⟨6,Gk ((O.take i).map ρ),0⟩)],4400⟩ [(40,40)] [] ?_);refine AE _ rfl (λ h=>AJ ?_) λ h=>Aa (hit ?_)
 .rw [Qd] at h
  have hu:=Iz h (by omega)
  have hv:(O.take (i+1)).map ρ=(O.take i).map ρ++[ρ O[i]]:=by rw[Qm h,QT];rfl
  obtain⟨e0,e1⟩:=ad O[i] (Qj h);have e2:=a5 O[i] (Qj h);obtain⟨x,hx⟩:∃ x:Nat,O[i]=(x:Int):=⟨O[i].toNat,by omega⟩
  rw[hx] at hv e0 e1;have h1:=h0 x;rw[<- e2,Uu] at h1;have a6:x<D.length:=by omega
  have a7:x<W.length:=by omega
  have e3:=hh x a6;rw[<- e3] at h1;rw[Qe,Qc a7,QB] at h1;obtain⟨d,hd⟩:=AG (D[x]);obtain⟨w,hw⟩:=AG (W[x]);rw[<- hd] at h1;rw[<- hw] at h1;have a8:=a4 x;obtain⟨s,hs⟩:=AG (Di g.edges salt x n Z);rw[<- hs] at a8 h1;have h2:=he x;rw[show A.contains (x:Int)=decide ((x:Int)∈A) by rw[Qp];simp] at h2
  obtain⟨b,hb⟩:=AG (decide ((x:Int)∈A));rw[<- hb] at h2 h1;have av:=am (Dy g p) x;obtain⟨m,hm⟩:=AG (Ea g p.lv (Dy g p) x);rw[<- hm] at av h1;rw[h1] at hv;obtain⟨F,hF⟩:=AG (Dy g p);rw[<- hF] at av ⊢;have hz:((O.take i).map ρ).length=i:=by rw[Qr,QV];omega
  obtain⟨T,hT⟩:=AG ((O.take i).map ρ);rw[<- hT] at hz hv ⊢;have e4:∀ f:Rw->List AV,(T.map f).take i=T.map f:=λ f=>Qb (by simp[hz])
  refine Ao ⟨154,[(2,sB salt),(3,.I n),(5,.pv (gC g)),(6,.pv (pC p)),(14,AA D),(15,AA O),(16,BV A f R),(18,AA S1),(19,.I S2),(20,AA Z),(22,.I F),(24,.rs 40 0 (i+1)),(25,.I i)],[(40,some ⟨6,Gk (T++[⟨x,d,m,s,w,b⟩]),0⟩)],7000⟩ ?_ ?_
  .refine AL ?_
   apply ax [2,3,5,6,14,15,16,18,19,20,22,24,25,26] [(40,40)] [] 4600
   .simp [h,hx]
    rfl
   refine CW ⟨154,[(2,sB salt),(3,.I n),(5,.pv (gC g)),(6,.pv (pC p)),(14,AA D),(15,AA O),(16,BV A f R),(18,AA S1),(19,.I S2),(20,AA Z),(22,.I F),(24,.rs 40 0 i),(25,.I i),(26,.I x),(27,.pt 50 0 0)],[(40,some ⟨6,Gk T,0⟩),(50,some ⟨6,[IN ⟨x,d,m,s,0,b⟩],0⟩)],5000⟩ ?_ ?_
   .simp [a6,<- hd]
    refine Aq h2 (by simp[AB]) ?_
    simp;refine Aq av (by simp[AB]) ?_
    simp;refine Aq a8 (by simp[AB]) ?_
    simp[E7,Ay];exact⟨rfl,AF [(40,40),(4776,50)] [] (by simp[AB]) (by simp[AB,<- hd])⟩
   refine Ao ⟨154,[(2,sB salt),(3,.I n),(5,.pv (gC g)),(6,.pv (pC p)),(14,AA D),(15,AA O),(16,BV A f R),(18,AA S1),(19,.I S2),(20,AA Z),(22,.I F),(24,.rs 40 0 i),(25,.I i),(27,.pt 50 0 0)],[(40,some ⟨6,Gk T,0⟩),(50,some ⟨6,[IN ⟨x,d,m,s,w,b⟩],0⟩)],5400⟩ ?_ ?_
   .refine arc ⟨154,[(2,sB salt),(3,.I n),(5,.pv (gC g)),(6,.pv (pC p)),(14,AA D),(15,AA O),(16,BV A f R),(18,AA S1),(19,.I S2),(20,AA Z),(22,.I F),(24,.rs 40 0 i),(25,.I i),(26,.I x),(27,.pt 50 0 0),(143,.B (decide (S2=0)))],[(40,some ⟨6,Gk T,0⟩),(50,some ⟨6,[IN ⟨x,d,m,s,0,b⟩],0⟩)],5200⟩ ?_ ?_
    .simp
     exact AF [(40,40),(50,50)] [] (by simp[AB]<;>exact Aw (by rw[Qp];simp)) (by simp[AB])
    refine AE _ rfl (λ h5=>?_) λ h5=>?_
    .rw [Qd] at h5
     rw[<- ag h5];refine Ac rfl ?_;simp[a7,<- hw,Ay];exact AF [(40,40),(50,50)] [] (by simp[AB]) (by simp[AB,<- hw])
    .rw [Qa] at h5
     have e5:w=0:=by simp only[hw,ho h5,List.getElem_replicate]
     rw[e5];exact AJ (BF [(40,40),(50,50)] [])
   refine Ac rfl ?_;simp[Dn,hz];refine⟨by omega,by omega,?_⟩
   exact AF [(5424,40)] [50] (by simp[AB]) (by simp[AB,hz,e4])
  refine Ac rfl ?_;simp[hu,-List.map_take,-List.map_map];refine⟨i+1,by omega,by omega,?_⟩
  rw[hv];exact BF [(40,40)] []
 rw[Qa] at h;obtain rfl:i=O.length:=by omega
 rw[QO];refine ar [10,11] [(40,40)] [] 8000 ?_;refine BG ?_;exact⟨.inr rfl,AS.out [] [40] rfl (by simp) (by simp) (by simp[AB,bs]<;>exact GI (by show AV.tup [AV.vs 6 false _,_]=AV.tup [AV.vs 6 false (List.map IN (List.map ρ O)),_];rw[List.map_map];rfl)) (by simp)⟩
section
variable {g:Gr} {p:Al} {salt:ByteArray} {n r:Int}
theorem rY (he:Co g p≠0) (hl:g.edges.length<=100000) (h2:g.gone.length<=100000) (hs:p.seeds.length<=100000) (ht:p.table.length<=100000) :
  AcP 14 [eG g,eP p,sB salt,.I n,.I r] [] (.tup [D6 [],.I (Co g p)]) []:=by
 refine PI.s.ai ?_;have h0:=tC he (by omega) (by omega) (by omega) (by omega)
 obtain⟨e,h1⟩:=AG (Co g p);rw[<- h1] at he h0 ⊢;refine ar [2,3,4,5,6] [] [16,24] 50 ?_;apply ax [13] [] [] 200
 .simp
  refine Aj h0 ?_;simp;rfl
 refine AC (AL (arc ⟨115,[(13,.I e),(29,.B true)],[],300⟩ ?_ ?_))
 .simp
  exact AF [] [] (by simp<;>exact Aw (by simp[he]))
 refine AE _ rfl (λ _=>?_) λ h=>by cases h
 refine ar [10,11] [] [] 400 ?_;refine BG ?_;exact⟨.inr rfl,AS.out [] [] rfl (by simp) (by simp) (by simp<;>exact Db (.nil _ _) (.refl _)) (by simp)⟩
def Nv (n r:Int):Prop:=(1<=n/\n<=100)/\1<=r/\r<=5
theorem iP (hg:AI g) (hp:BT g.size p) (h4:g.size<=12) (hb:¬ Nv n r) :
  AcP 14 [eG g,eP p,sB salt,.I n,.I r] [] (.tup [D6 [],.I 2]) []:=by
 refine PI.s.ai ?_;obtain⟨f,_,h3⟩:=Mz g p hg hp (LI hg hp) (by omega)
 have h0:=Ev n 1 100;have h2:=Ev r 1 5;refine ar [2,3,4,5,6] [] [16,24] 50 ?_;apply ax [3,4,13] [] [] 200
 .simp
  refine Aj h3 ?_;simp;rfl
 refine AC (AL (ar [3,4,29] [] [] 300 ?_));refine AE _ rfl (λ h=>by cases h) λ _=>?_
 refine arc ⟨115,[(33,.B true)],[],400⟩ ?_ ?_
 .by_cases h1:1<=n/\n<=100
  .rw [show (decide (1<=n) && decide (n<=100))=true by simp[h1.1,h1.2]] at h0
   rw[show (decide (1<=r) && decide (r<=5))=false by
    cases hc:(decide (1<=r) && decide (r<=5))
    .rfl
    .exact absurd ⟨h1,by simpa using hc⟩ hb] at h2
   simp;refine Aj h0 ?_;simp;refine Aj h2 ?_;simp;exact Bk [] []
  .rw [show (decide (1<=n) && decide (n<=100))=false by
    cases hc:(decide (1<=n) && decide (n<=100))
    .rfl
    .exact absurd (by simpa using hc) h1] at h0
   simp;refine Aj h0 ?_;simp;exact Bk [] []
 refine AE _ rfl (λ _=>?_) λ h=>by cases h
 refine ar [10,11] [] [] 500 ?_;refine BG ?_;exact⟨.inr rfl,AS.out [] [] rfl (by simp) (by simp) (by simp<;>exact Db (.nil _ _) (.refl _)) (by simp)⟩
theorem wU (he:Co g p≠0) (hl:g.edges.length<=100000) (h2:g.gone.length<=100000) (hs:p.seeds.length<=100000) (ht:p.table.length<=100000) :
  AcP 15 [eG g,eP p,sB salt,.I n,.I r] [] (.tup [D6 [],.I (Co g p)]) []:=by
 refine zge.s.ai ?_;have h0:=Nh g p (by omega) (by omega) (by omega) (by omega)
 obtain⟨e,h1⟩:=AG (Co g p);rw[<- h1] at he h0 ⊢;refine ar [2,3,4,5,6] [] [16,24] 50 ?_;refine AC ?_;apply ax [12] [] [] 100
 .simp
  refine Aj h0 ?_;simp;rfl
 refine arc ⟨154,[(12,.I e),(32,.B true)],[],200⟩ ?_ ?_
 .simp
  exact AF [] [] (by simp<;>exact Aw (by simp[he]))
 refine AE _ rfl (λ _=>?_) λ h=>by cases h
 refine ar [10,11] [] [] 400 ?_;refine BG ?_;exact⟨.inr rfl,AS.out [] [] rfl (by simp) (by simp) (by simp<;>exact Db (.nil _ _) (.refl _)) (by simp)⟩
theorem pK (hg:AI g) (hp:BT g.size p) (hb:¬ Nv n r) :
  AcP 15 [eG g,eP p,sB salt,.I n,.I r] [] (.tup [D6 [],.I 2]) []:=by
 refine zge.s.ai ?_;have h5:=LI hg hp;have h6:p.table.length<=8:=hp.2.2.2.1;have h7:=hg.edges_le;have h9:=hg.gone_le;have h0:=Nh g p (by omega) (by omega) (by omega) (by omega)
 rw[Jo.2 ⟨hg,hp⟩] at h0;refine ar [2,3,4,5,6] [] [16,24] 50 ?_;refine AC ?_;apply ax [3,4,12] [] [] 100
 .simp
  refine Aj h0 ?_;simp;rfl
 refine ar [3,4,32] [] [] 200 ?_;refine AE _ rfl (λ h=>by cases h) λ _=>AJ ?_
 refine AC (arc ⟨154,[(47,.B true)],[],300⟩ ?_ ?_)
 .by_cases h1:n<1
  .simp [h1]
   exact AF [] [] (by simp[h1])
  .by_cases h2:100<n
   .simp [h1,h2]
    exact AF [] [] (by simp[h1,h2])
   .by_cases h3:r<1
    .simp [h1,h2,h3]
     exact AF [] [] (by simp[h1,h2,h3])
    .have h4:5<r:=Q6 λ h4=>hb ⟨by omega,by omega⟩
     simp[h1,h2,h3,h4];exact AF [] [] (by simp[h1,h2,h3,h4])
 refine AE _ rfl (λ _=>?_) λ h=>by cases h
 refine ar [10,11] [] [] 500 ?_;refine BG ?_;exact⟨.inr rfl,AS.out [] [] rfl (by simp) (by simp) (by simp<;>exact Db (.nil _ _) (.refl _)) (by simp)⟩
theorem zhG (hg:AI g) (h0:g.size<=12) (h1:salt.size<=100000) (hs:p.seeds.length<=100000) (ht:p.table.length<=100000) :
  ∃ (T:List Rw) (e:Int),T.length<=64/\AcP 14 [eG g,eP p,sB salt,.I n,.I r] [] (.tup [D6 T,.I e]) []/\AcP 15 [eG g,eP p,sB salt,.I n,.I r] [] (.tup [D6 T,.I e]) []:=by
 have h2:=hg.edges_le;have h3:=hg.gone_le
 by_cases he:Co g p=0
 .have hp:=(Jo.1 he).2
  by_cases hr:Nv n r
  .exact ⟨_,_,by rw[FH,Qr];exact Mw hg p,zqS g p salt n r hg hp h0 h1 hr.1.1 hr.1.2 hr.2.1 hr.2.2,uV g p salt n r hg hp h0 h1 hr.1.1 hr.1.2 hr.2.1 hr.2.2⟩
  .exact ⟨_,_,by simp,iP hg hp h0 hr,pK hg hp hr⟩
 .exact ⟨_,_,by simp,rY he (by omega) (by omega) hs ht,wU he (by omega) (by omega) hs ht⟩
end
theorem Pp (T:List Rw) (hT:T.length<=100000):AcP 18 [D6 T,D6 T] [] (.B true) []:=by
 refine c5.ai ?_;refine rs [0,1] [] [] ?_;refine AC (ar [0,1,10] [] [] 100 ?_);refine AE _ rfl (λ h=>by cases h) λ _=>AJ ?_
 refine AC (ar [0,1,5] [] [] 200 ?_);refine AL (Ae (ι:=Nat) (λ i=>⟨26,[(0,D6 T),(1,D6 T),(5,.I i)],[],200⟩) (λ i=>i<=T.length) (λ i=>T.length - i) 0 (Qh _) (BF [] []) ?_);intro i hi;refine AC (ar [0,1,5,14] [] [] 300 ?_);refine AE _ rfl (λ h=>AJ ?_) λ h=>Aa (hit ?_)
 .rw [Qd] at h
  have h0:=Iz h (by omega)
  obtain⟨⟨k,d,m,e,w,a⟩,hx⟩:∃ x,T[i]=x:=⟨_,rfl⟩;have hg:T[i]? = some ⟨k,d,m,e,w,a⟩:=by rw[Qc h,hx]
  refine AC (AL ?_);apply ay [0,1,5,25] [] [] 500
  .simp [hg,Dp]
   exact⟨rfl,rfl⟩
  refine AE _ rfl (λ h=>by cases h) λ _=>AJ ?_
  refine Ac rfl ?_;simp[h0];exact⟨i+1,by omega,by omega,BF [] []⟩
 refine rs [4] [] [] ?_;exact Bl
def gS:Gr:=⟨12,[⟨0,1,1⟩],[]⟩
def pS:Al:=⟨[0],[5,4],1⟩
theorem I1:AI gS:=AI.of (by decide) (by decide) (by decide) (λ i h=>by simp at h) (by decide) (by decide)
theorem Hi:BT 12 pS:=by
 refine⟨by decide +revert,λ i h=>?_,by decide +revert,by decide +revert,by decide +revert,by decide +revert,λ i h=>?_⟩
 .obtain rfl:i=0:=by simp[pS] at h;omega
  exact⟨by decide +revert,by decide +revert,λ h=>by cases h⟩
 .have:i=0∨i=1:=by simp[pS] at h;omega
  rcases this with rfl | rfl
  .exact ⟨by decide +revert,by decide +revert,λ h=>by cases h⟩
  .exact ⟨by decide +revert,by decide +revert,λ h=>by decide +revert⟩
theorem JX {g:Gr} {p:Al} (hg:AI g) (hp:BT g.size p) {ks f:List Int} (hr:∀ x∈ks,0<=x/\x<g.size) (hf:BN (BD g) (Ar g p ks) f) (hv:AZ (Ar g p ks) f=ks.length):BZ g p ks:=by
 have h1:=Lc (p:=p) hg hp hr;have h2:=T9 (Kk hg hp hr) (f:=f) hf;rw[hv] at h2;unfold BZ;omega
theorem Li:AY (AM gS pS.lv) pS.seeds=[0,1]:=by decide
theorem K5:AR gS pS [0,1]=[0,1]/\B9 gS pS [0,1]=[]:=by
 have c0:BZ gS pS [0]:=JX (f:=[1,0,0,1,0]) I1 Hi (by decide) (Jb (by decide)) (by decide)
 have c1:BZ gS pS [0,1]:=JX (f:=[2,1,0,1,1,1]) I1 Hi (by decide) (Jb (by decide)) (by decide)
 have h0:AR gS pS [0]=[0]:=Fo (o:=[]) (k:=0) c0;have r0:B9 gS pS [0]=[]:=Jw (o:=[]) (k:=0) c0;have h:=Fo (g:=gS) (p:=pS) (o:=[0]) (k:=1) (by rw[h0];exact c1)
 have h':=Jw (g:=gS) (p:=pS) (o:=[0]) (k:=1) (by rw[h0];exact c1)
 rw[h0] at h;rw[r0] at h';exact⟨h,h'⟩
def hS:Gr:=⟨12,[⟨0,1,1⟩,⟨1,2,3⟩,⟨1,3,3⟩,⟨1,4,3⟩,⟨1,5,3⟩,⟨1,6,3⟩,⟨1,7,3⟩,⟨1,8,3⟩,⟨1,9,3⟩,⟨1,10,3⟩,⟨1,11,3⟩,⟨2,1,3⟩,⟨2,3,3⟩,⟨3,1,3⟩,⟨3,4,3⟩,⟨4,1,3⟩,⟨4,5,3⟩,⟨5,1,3⟩,⟨5,6,3⟩,⟨6,1,3⟩,⟨6,7,3⟩,⟨7,1,3⟩,⟨7,8,3⟩,⟨8,1,3⟩,⟨8,9,3⟩,⟨9,1,3⟩,⟨9,10,3⟩,⟨10,1,3⟩,⟨10,11,3⟩,⟨11,1,3⟩,⟨11,2,3⟩],[]⟩
def lS:List Int:=[2,3,4,5,6,7,8,9,10,11]
theorem OQ:HA gS pS 1=lS:=by decide
theorem JN:AI hS:=AI.of (by decide) (by decide) (by decide) (λ i h=>by simp at h) (by decide +kernel) (by decide +kernel)
theorem SF:Hg gS pS 1 lS:=by
 have h:=NZ (g:=gS) (p:=pS) (x:=1) 10;rw[OQ] at h;exact h
theorem zA5:DG gS 1 lS=hS:=by
 have hr:AI (DG gS 1 lS):=Xa I1 SF (by decide) (by decide) (by decide)
 refine Yy hr JN rfl rfl λ e=>?_;rw[Ju];have hp:(gS.edges++DS 1 lS).Perm hS.edges:=by decide +kernel
 rw[<- Qq,hp.mem_iff]
theorem LJ:Co gS pS=0:=Jo.2 ⟨I1,Hi⟩
theorem nW:FX gS pS 1 10=(hS,lS,0):=by
 unfold FX;rw[if_neg (by rw[LJ];decide),if_neg (by decide),if_neg (by decide),OQ,if_neg (by decide)]
 have h:List.take (10:Int).toNat lS=lS:=by decide
 rw[h,if_neg (by decide),zA5]
theorem aV:∃ h:Gr,FX gS pS 1 2=(h,[2,3],0)/\h.edges.length=7:=by
 refine⟨DG gS 1 [2,3],?_,by rw[Vt];decide⟩
 unfold FX;rw[if_neg (by rw[LJ];decide),if_neg (by decide),if_neg (by decide),OQ,if_neg (by decide)]
 have h:List.take (2:Int).toNat lS=[2,3]:=by decide
 rw[h,if_neg (by decide)]
theorem LK:AY (AM hS pS.lv) pS.seeds=[0,1]++lS:=by decide +kernel
theorem accH:AR hS pS ([0,1]++lS)=[0,1,2,3,4]:=by
 have c0:BZ hS pS [0]:=JX (f:=[1,0,0,0,0,0,0,0,0,0,0,0,0,1,0,0,0,0,0,0,0,0,0,0,0,0,0,0,0,0,0,0,0,0,0,0,0,0,0,0,0,0,0,0,0]) JN Hi (by decide) (Jb (by decide +kernel)) (by decide +kernel)
 have c1:BZ hS pS [0,1]:=JX (f:=[2,1,0,0,0,0,0,0,0,0,0,0,0,1,1,1,0,0,0,0,0,0,0,0,0,0,0,0,0,0,0,0,0,0,0,0,0,0,0,0,0,0,0,0,0,0]) JN Hi (by decide) (Jb (by decide +kernel)) (by decide +kernel)
 have c2:BZ hS pS [0,1,2]:=JX (f:=[3,2,1,0,0,0,0,0,0,0,0,0,0,1,1,1,2,1,0,0,0,0,0,0,0,0,0,0,0,0,0,0,0,0,0,0,0,0,0,0,0,0,0,0,0,0,0]) JN Hi (by decide) (Jb (by decide +kernel)) (by decide +kernel)
 have c3:BZ hS pS [0,1,2,3]:=JX (f:=[4,3,2,0,0,0,0,0,0,0,0,0,0,1,1,1,1,3,1,1,0,0,0,0,0,0,0,0,0,0,0,0,0,0,0,0,0,0,0,0,0,0,0,0,0,0,0,0]) JN Hi (by decide) (Jb (by decide +kernel)) (by decide +kernel)
 have c4:BZ hS pS [0,1,2,3,4]:=JX (f:=[5,4,3,0,0,0,0,0,0,0,0,0,0,1,1,1,1,1,4,1,1,1,0,0,0,0,0,0,0,0,0,0,0,0,0,0,0,0,0,0,0,0,0,0,0,0,0,0,0]) JN Hi (by decide) (Jb (by decide +kernel)) (by decide +kernel)
 have h0:AR hS pS [0]=[0]:=Fo (o:=[]) (k:=0) c0
 have h1:AR hS pS [0,1]=[0,1]:=by
  have h:=Fo (g:=hS) (p:=pS) (o:=[0]) (k:=1) (by rw[h0];exact c1)
  rw[h0] at h;exact h
 have h2:AR hS pS [0,1,2]=[0,1,2]:=by
  have h:=Fo (g:=hS) (p:=pS) (o:=[0,1]) (k:=2) (by rw[h1];exact c2)
  rw[h1] at h;exact h
 have h3:AR hS pS [0,1,2,3]=[0,1,2,3]:=by
  have h:=Fo (g:=hS) (p:=pS) (o:=[0,1,2]) (k:=3) (by rw[h2];exact c3)
  rw[h2] at h;exact h
 have h4:AR hS pS [0,1,2,3,4]=[0,1,2,3,4]:=by
  have h:=Fo (g:=hS) (p:=pS) (o:=[0,1,2,3]) (k:=4) (by rw[h3];exact c4)
  rw[h3] at h;exact h
 obtain⟨t,ht,hm⟩:=Ol (g:=hS) (p:=pS) [5,6,7,8,9,10,11] [0,1,2,3,4];rw[h4] at ht;have hb:=sI (g:=gS) (p:=pS) (x:=1) (l:=lS) I1 Hi (by decide) ⟨by decide,by decide⟩ SF (by rw[zA5];exact JN)
 have hc:max 0 ((A1 gS pS).getD (1:Int).toNat 0 - 1)=3:=by decide +kernel
 have e:[0,1]++lS=[0,1,2,3,4]++[5,6,7,8,9,10,11]:=rfl;unfold MO IB at hb;rw[hc,zA5,LK,e,ht,Ug,Qg] at hb;have h5:([0,1,2,3,4].filter λ k=>decide (k∈lS)).length=3:=by decide
 have h6:t.filter (λ k=>decide (k∈lS))=t:=Vh.2 λ k hk=>by
  have:=hm k hk;have h7:∀ k∈([5,6,7,8,9,10,11]:List Int),decide (k∈lS)=true:=by decide
  exact h7 k this
 rw[h5,h6] at hb;have:t=[]:=QL (by omega)
 rw[e,ht,this,QW]
theorem rM:JR gS pS 1 10=(3,0,0):=by
 unfold JR GO;rw[nW];simp only;rw[if_neg (by decide),Li,LK,K5.1,accH]
 decide +kernel
theorem AK.wk {P:Program} {f:FuncId} {args args':List AV} {hs:List AQ} {res:AV} {hs':List (Option AQ)} (h:AK P f args' hs res hs') (hw:Ez args args'):AK P f args hs res hs':=by
 refine⟨h.1,h.2.1,λ T M w vs h1 h2 h3 hr=>h.2.2 T M w vs h1 h2 h3 ⟨hr.1.trans hw.length,λ i hi=>?_⟩⟩;have hi':i<args.length:=by rw[hw.length];exact hi
 exact(hw.get i hi').rep (hr.2 i hi')
abbrev gSv:AV:=.agg [.I 12,.vs 3 false [[.I 0,.I 1,.I 1]],.nilS]
abbrev Sv:AV:=.agg [.vs 1 false [[.I 0]],.vs 1 false [[.I 5],[.I 4]],.I 1]
theorem cY:Ea gS 1 0 1=1:=by
 have h1:1<=Ea gS 1 0 1:=uL I1 (by decide) ⟨by decide,by decide⟩ ⟨by decide,by decide⟩ (by decide)
 have h2:=Rh (HH (MT (lv:=1) (a:=0) (b:=1) I1)) (S:=λ x=>decide (x=0)) (by decide) (by decide)
 have h3:Ea gS 1 0 1=CC (2+2*gS.size.toNat) (BX gS 1 0 1):=if_pos (by decide)
 have h4:BQ (λ x=>decide (x=0)) (BX gS 1 0 1)=1:=by decide
 simp only at h2;omega
theorem tabS (salt:ByteArray):∃ s w s' w',FH gS pS salt 3 1=[⟨0,0,0,s,w,true⟩,⟨1,1,1,s',w',true⟩]:=by
 have ho:Dk gS pS=[0,1]:=Li;have ha:Es gS pS=[0,1]:=by unfold Es;rw[ho];exact K5.1
 have h0:AN (AM gS pS.lv) pS.seeds 0=0:=by decide
 have h1:AN (AM gS pS.lv) pS.seeds 1=1:=by decide
 have h2:Ea gS pS.lv (List.headD [0,1] 0) 0=0:=Sg;have h3:Ea gS pS.lv (List.headD [0,1] 0) 1=1:=cY;have e:FH gS pS salt 3 1=[GC gS pS salt 3 1 0,GC gS pS salt 3 1 1]:=by unfold FH;rw[ho];rfl
 have r0:GC gS pS salt 3 1 0=⟨0,0,0,Di gS.edges salt 0 3 (Dc gS pS),(DK gS pS 1).getD (0:Int).toNat 0,true⟩:=by
  unfold GC;rw[ho,ha,h0,h2];rfl
 have r1:GC gS pS salt 3 1 1=⟨1,1,1,Di gS.edges salt 1 3 (Dc gS pS),(DK gS pS 1).getD (1:Int).toNat 0,true⟩:=by
  unfold GC;rw[ho,ha,h1,h3];rfl
 exact⟨_,_,_,_,by rw[e,r0,r1]⟩
theorem Yo:AcP 32 [] [] (.tup [gSv,Sv]) []:=by
 refine vC.s.ai ?_;refine rs [0,1] [16,24] [] ?_;refine ar [0,1] [(16,16),(24,24)] [40,56,64] 300 ?_;exact A9 (AS.out [] [16,24] rfl (by simp) (by simp) (.refl _) (by simp))
theorem VQ:AcP 9 [] [] (.B true) []:=by
 have h3:∀ l:List AV,Ez (gSv::Sv::l) (eG gS::eP pS::l):=λ l=>⟨FM (.refl _) (.refl _) (.nil _ _),.refl _,F8 _⟩;have h0:=(xD gS pS 1 10 (by decide) (by decide) (by decide) (by decide) (λ _=>by decide)).wk (h3 _)
 rw[rM] at h0;have h1:=(Xo gS pS 1 2 (by decide) (by decide) (by decide) (by decide)).wk (h3 _)
 obtain⟨h,hr,h7⟩:=aV;rw[hr] at h1;have h2:=(zqS gS pS ⟨#[115]⟩ 3 1 I1 Hi (by decide) (by decide) (by decide) (by decide) (by decide) (by decide)).wk (h3 _)
 obtain⟨s,w,s',w',ht⟩:=tabS ⟨#[115]⟩;rw[ht] at h2;refine kJ.s.ai ?_;refine rs [] [] [] ?_;apply ax [1,2] [] [56,64] 200
 .simp
  refine Aj Yo ?_;simp[Ay];rfl
 apply ax [1,2,3,4,5] [] [] 300
 .simp
  refine Aj h0 ?_;simp;rfl
 apply ax [1,2,3,4,5,6,7,8] [] [356] 400
 .simp
  refine Aj h1 ?_;simp[Ay];rfl
 apply ax [3,4,5,6,7,8,9,10] [] [] 500
 .simp
  refine Aj h2 ?_;simp;rfl
 apply ax [0] [] [] 2000
 .simp [h7]
  rfl
 exact Bl
theorem oN (L:List Int) (salt:ByteArray) (a b:Int):AcP 3 [AA L,sB salt,.agg [.I a,.I b]] [] (.B true) []:=by
 refine qU.s.ai ?_;have h0:=iX L;refine ar [0,1,5] [] [16] 50 ?_;refine AC (arc ⟨141,[(0,AA L),(1,sB salt),(5,.pv [.I a,.I b]),(31,.B (!decide (L.length<=400/\salt.size<=60)))],[],150⟩ ?_ ?_)
 .by_cases hL:L.length<=400
  .rw [UK hL] at h0
   simp;refine Aj h0 ?_;simp;exact AF [] [] (by simp[AB]<;>exact Aw (by rw[Qp];simp;omega))
  .rw [UI hL] at h0
   simp;refine Aj h0 ?_;simp;exact AF [] [] (by simp[AB]<;>exact Aw (by rw[Qp];simp;omega))
 refine AE _ rfl (λ h3=>?_) λ h3=>?_
 .refine rx (s:=?s4) [6] [] [] rfl ?o4 ?q4
  case o4=>simp;refine Aq VQ (by simp) ?_;simp;rfl
  exact Bl
 have h3:L.length<=400/\salt.size<=60:=Q6 λ hh=>by rw[UI hh] at h3;cases h3
 obtain⟨h3,a5⟩:=h3;obtain⟨g,b1,⟨hg,a6,a7,ha⟩,hb⟩:=eT L h3;obtain⟨⟨p,b2⟩,⟨hc,hd,he,h2⟩,h4⟩:=ZL L b1 g h3 ha (by omega) (by omega)
 simp only at hc hd he h2 h4;obtain⟨x1,b3,⟨hf,a8⟩,hi⟩:=Jt L b2 4 h3 h2 (by omega) (by omega)
 obtain⟨x2,b4,⟨hj,hx2⟩,hk⟩:=Jt L b3 5 h3 hf (by omega) (by omega)
 obtain⟨n2,b5,⟨ho,_⟩,hq⟩:=H3 L b4 [0,1,101,2] h3 hj (by simp) (by simp)
 obtain⟨r2,b6,⟨a9,_⟩,hu⟩:=H3 L b5 [0,6,1] h3 ho (by simp) (by simp)
 have h5:=w6 (x:=1+(x1:Int));have h6:=w6 (x:=1+(x2:Int));obtain⟨n1,h7⟩:∃ n:Int,n=1+(x1:Int):=⟨_,rfl⟩;obtain⟨r1,h9⟩:∃ n:Int,n=1+(x2:Int):=⟨_,rfl⟩;rw[<- h7] at h5;rw[<- h9] at h6;have h1:=Ry a 6 (by omega)
 obtain⟨lv,hv⟩:=AG (Er a 6);rw[<- hv] at h1;obtain⟨T1,e1,ad,hw,hx⟩:=zhG (p:=p) (n:=n1) (r:=r1) (salt:=salt) hg (by omega) (by omega) (by omega) (by omega)
 obtain⟨T2,e2,ag,hy,hz⟩:=zhG (p:=p) (n:=n2) (r:=r2) (salt:=salt) hg (by omega) (by omega) (by omega) (by omega)
 obtain⟨T3,e3,am,a0,a1⟩:=zhG (p:=⟨p.seeds,p.table,lv⟩) (n:=2) (r:=b) (salt:=salt) hg (by omega) (by omega) (by simp only;omega) (by simp only;omega)
 refine AJ ?_;apply ax [1,5,7] [(158,20)] [] 250
 .simp
  refine E2 (qV L) (by simp[AB]) ?_
  simp;rfl
 apply ax [1,5,7,8] [(20,20)] [266] 350
 .simp
  refine Cq (i:=20) rfl (e':=As L 0) (by simp) hb (by simp) (by simp) ?_
  simp;rfl
 apply ax [1,5,7,8,9] [(20,20),(374,40)] [] 450
 .simp
  refine Cq (i:=20) rfl (e':=As L b1) (by simp) h4 (by simp) (by simp) ?_
  simp[Ay];rfl
 apply ax [1,5,7,8,9,10,11] [(20,20),(40,40)] [] 550
 .simp
  refine Cq (i:=20) rfl (e':=As L b2) (by simp) hi (by simp) (by simp) ?_
  simp;refine Cq (i:=20) rfl (e':=As L b3) (by simp) hk (by simp) (by simp) ?_
  simp[<- h7,<- h9,h5,h6];rfl
 apply ax [1,5,7,8,9,10,11,12,13] [(20,20),(40,40)] [] 650
 .simp
  refine Aq hw (by simp[AB]) ?_
  simp;rfl
 apply ax [1,5,7,8,9,12,13,14,15] [(20,20),(40,40)] [] 750
 .simp
  refine Aq hx (by simp[AB]) ?_
  simp;rfl
 apply ax [1,5,8,9,10,11,12,13,14,15] [(40,40)] [] 850
 .simp [Dn]
  refine KQ (i:=20) (j:=758) (by decide) (by decide) rfl rfl (e':=As L b4) (by simp) hq (by simp) (by simp) ?_
  simp;refine KQ (i:=20) (j:=782) (by decide) (by decide) rfl rfl (e':=As L b5) (by simp) hu (by simp) (by simp) ?_
  simp;rfl
 apply ax [1,5,8,9,10,11,12,13,14,15,16,17] [(40,40)] [] 950
 .simp
  refine Aq hy (by simp[AB]) ?_
  simp;rfl
 apply ax [1,5,8,9,12,13,14,15,16,17,18,19] [(40,40)] [] 1050
 .simp
  refine Aq hz (by simp[AB]) ?_
  simp;rfl
 apply ax [1,5,8,9,12,13,14,15,16,17,18,19] [(40,40)] [] 1150
 .simp
  refine Aj h1 ?_;simp[Ay];rfl
 apply ax [1,5,8,9,12,13,14,15,16,17,18,19,20,21] [(40,40)] [] 1250
 .simp
  refine Aq a0 (by simp[AB]) ?_
  simp;rfl
 apply ax [12,13,14,15,16,17,18,19,20,21,22,23] [] [] 1350
 .simp
  refine Aq a1 (by simp[AB]) ?_
  simp;rfl
 have a2:=Pp T1 (by omega)
 have a3:=Pp T2 (by omega)
 have a4:=Pp T3 (by omega)
 refine D9 ⟨141,[(6,.B true)],[],2000⟩ rfl ?_ (BG ⟨.inr rfl,AS.one (by simp)⟩)
 simp;refine Aj VQ ?_;simp;refine Aq a2 (by simp[AB]) ?_
 simp;refine Aq a3 (by simp[AB]) ?_
 simp;refine Aq a4 (by simp[AB]) ?_
 simp;exact Bk [] []
end Go.Proofs.YtkngdgplbojdlaaGreat
namespace Go.Proofs.YtkngdgplbojdlaaGreat
open Go Go.ChangeShapes Go.WideShapes Go.ChangeAt Go.RowKit
theorem eX {H:Type} {P:Program} {tS:TypeId} {n:Nat} (hS:P.underlying tS=some .string) {d:DataW H} {cs:List AV} (h:Dx P (n+1) tS d=some cs):∃ s:ByteArray,cs=[.sc (.string s)]:=by
 cases d<;>simp[Dx,hS] at h
 rename_i l
 cases l<;>simp at h
 exact⟨_,h.symm⟩
theorem vZ {H:Type} {P:Program} {tS:TypeId} {n:Nat} (hS:P.underlying tS=some .string) {d:DataW H} {x:AV} (h:FD P (n+1) tS d=some x):∃ s:ByteArray,x = .sc (.string s):=by
 simp only[FD,hS,Ul] at h;obtain⟨cs,h1,h2⟩:=h;obtain⟨s,rfl⟩:=eX hS h1;simp at h2;exact⟨s,h2.symm⟩
end Go.Proofs.YtkngdgplbojdlaaGreat
