/- Texts of this claim,merged. -/
import Derived.Test.YtkabgnlcllmleaaGreatRb5
import Derived.Test.YtkabgnlcllmleaaGreatRb3
import Derived.Test.YtkabgnlcllmleaaGreatRb2
import Derived.Test.YtkabgnlcllmleaaGreatRb4
set_option linter.unusedSimpArgs false
set_option linter.unusedVariables false
set_option linter.unusedSectionVars false
set_option maxRecDepth 100000
set_option maxHeartbeats 8000000
noncomputable section
namespace Go.Proofs.YtkabgnlcllmleaaGreat
open Go
variable {α:Type}
def ET (c:List Int) (x:Int):List Ed:=if 0<c.getD x.toNat 0 then [⟨0,2+2*x,c.getD x.toNat 0⟩] else []
def ES (c:List Int) (i:Nat):List Ed:=if 0<c.getD i 0 then [⟨2+2*(i:Int),3+2*(i:Int),c.getD i 0 - 1⟩] else []
def EP (c:List Int) (x:Int):List Ed:=if 0<c.getD x.toNat 0 then [⟨2+2*x,1,1⟩] else []
def EY (c:List Int) (e:Ed):List Ed:=if 0<c.getD e.f.toNat 0 then [⟨3+2*e.f,2+2*e.t,64⟩] else []
theorem L6 (q:α->Bool) (f:α->Ed) (l:List α):(l.filter q).map f=l.flatMap λ x=>if q x=true then [f x] else []:=by
 induction l with
 | nil=>rfl
 | cons x l ih=>by_cases h:q x=true<;>simp[h,ih]
theorem Xh (g:Gr) (p:A9) (c sinks:List Int):Df g p c sinks=p.seeds.flatMap (ET c)++(List.range c.length).flatMap (ES c)++sinks.flatMap (EP c)++(Ao g p.lv).edges.flatMap (EY c):=by
 unfold Df;rw[L6,L6,L6,L6];simp only[Qa];rfl
theorem LY (f:α->List Ed) (l:List α) (i:Nat) (h:i<l.length):(l.take (i+1)).flatMap f=(l.take i).flatMap f++f l[i]:=by
 rw[Qp h,U6];simp
theorem HQ (f:α->List Ed) (hf:∀ x,(f x).length<=1) (l:List α):(l.flatMap f).length<=l.length:=by
 induction l with
 | nil=>simp
 | cons x l ih=>rw[U3,Qe,QS];have:=hf x;omega
theorem Pi (c:List Int) (x:Int):(ET c x).length<=1:=by unfold ET;split<;>simp
theorem NB (c:List Int) (x:Nat):(ES c x).length<=1:=by unfold ES;split<;>simp
theorem RJ (c:List Int) (x:Int):(EP c x).length<=1:=by unfold EP;split<;>simp
theorem Ou (c:List Int) (x:Ed):(EY c x).length<=1:=by unfold EY;split<;>simp
theorem MM (f:α->List Ed) (hf:∀ x,(f x).length<=1) (l:List α) (i:Nat):((l.take i).flatMap f).length<=l.length:=QR (HQ f hf _) (List.length_take_le' i l)
theorem lC (g:Gr) (p:A9) (sinks:List Int) (hg:AH g) (hp:CI g.size p) (hr:CJ sinks 0 (g.size - 1)) (hs:p.seeds.length<=64) (a3:sinks.length<=64) :
  AF 102 [eG g,eP p,AA sinks] [] (.tup [eN ⟨2+2*g.size,Df g p (Bk g p) sinks⟩,.I 0]) []:=by
 refine uL.s.ai ?_;have a4:=hg.1.1;have am:=hg.1.2.1;have a5:=hg.edges_le;have aq:=hg.gone_le;have ha:=Mw g p zy zy zy (by have:=hp.2.2.2.1;omega)
 rw[if_pos hg,if_pos hp] at ha;have h5:=c8 g p hg zy
 have ht:=oV (g:=g) hp;have hv:(Bk g p).length=g.size.toNat:=HV;rw[<- hv] at h5;have hb:=MX g p.lv zy zy
 rw[Xh];obtain⟨C,hC⟩:=AJ (Bk g p);rw[<- hC] at h5 hv ht ⊢;have hy:∀ e∈(Ao g p.lv).edges,e∈g.edges:=λ e he=>(QF.1 he).1;have hz:(Ao g p.lv).edges.length<=500:=QR (QV ..) a5;obtain⟨G,hG⟩:=AJ (Ao g p.lv);rw[<- hG] at hb hy hz ⊢;have a6:=w6 (x:=g.size - 1)
 have a0:∀ e∈G.edges,(0<=e.f/\e.f<g.size)/\(0<=e.t/\e.t<g.size):=λ e he=>by
  have:=hg.fits e (hy e he);unfold CT at this;omega
 have h3:∀ k:Int,0<=k->k<g.size -> ∃ j:Nat,k=j/\j<C.length/\j<64:=λ k h0 h1=>⟨k.toNat,zy,zy,zy⟩
 have hd:∀ k∈p.seeds,∃ j:Nat,k=j/\j<C.length/\j<64:=λ k hk=>by
  obtain⟨i,hi,rfl⟩:=UB hk;have:=hp.2.1 i hi;exact h3 _ zy zy
 have hf:∀ k∈sinks,∃ j:Nat,k=j/\j<C.length/\j<64:=λ k hk=>by
  obtain⟨i,hi,rfl⟩:=UB hk;have:=hr i hi;exact h3 _ zy zy
 refine ar [2,3,4,6] [(32,32)] [16,24] 48 ?_;refine AB (rk (s:=?s2) [2,3,4,6,8] [32] rfl ?o2 ?q2)
 case o2=>simp;refine Ah ha zz ?_;simp;rfl
 refine rk (s:=?s3) [2,3,4,6,24] [32] rfl ?o3 ?q3
 case o3=>simp;rfl
 refine AE _ rfl (λ h4=>?_) λ h4=>AG ?_
 .simp at h4
 refine AB (rk (s:=?s5) [2,3,4,6,32] [32] rfl ?o5 ?q5)
 case o5=>simp[a6];refine Ah (Po sinks 0 (g.size - 1) zy) zz ?_;simp[hr];rfl
 refine AE _ rfl (λ h6=>?_) λ h6=>AG ?_
 .simp at h6
 refine rk (s:=?s7) [2,3,4,6,9] [32,176] rfl ?o7 ?q7
 case o7=>simp;refine Ah (I8 g.size a4 zy) zz ?_;simp;rfl
 obtain⟨N,hN⟩:∃ N:Int,N=2+2*g.size:=⟨_,rfl⟩;simp only[<- hN];refine rk (s:=?s8) [2,3,4,6,9,10] [32,176] rfl ?o8 ?q8
 case o8=>simp;rfl
 refine arc ⟨123,[(2,AA sinks),(3,.pv (gC g)),(4,.pv (pC p)),(6,.pt 32 0 0),(9,.pt 176 0 0),(10,.fn (.func 156) [] [.pt 176 0 0]),(11,AA C)],[(32,some ⟨2,[[.I 0,.nilS]],0⟩),(176,some ⟨2,[[.I N,.nilS]],0⟩)],240⟩ ?_ ?_
 .simp
  refine C3 h5 ?_;simp[AC];exact AN [(32,32),(176,176)] [224] (by simp[AC,DX])
 have a7:(p.seeds.flatMap (ET C)).length<=64:=QR (HQ _ (Pi C) _) hs;have a8:((List.range C.length).flatMap (ES C)).length<=64:=QR (HQ _ (NB C) _) (by rw[UD];omega)
 have a9:(sinks.flatMap (EP C)).length<=64:=QR (HQ _ (RJ C) _) a3;have ag:(G.edges.flatMap (EY C)).length<=500:=QR (HQ _ (Ou C) _) hz;obtain⟨X1,hh⟩:∃ X,X=p.seeds.flatMap (ET C):=⟨_,rfl⟩;obtain⟨X2,hj⟩:∃ X,X=(List.range C.length).flatMap (ES C):=⟨_,rfl⟩;obtain⟨X3,hl⟩:∃ X,X=sinks.flatMap (EP C):=⟨_,rfl⟩;obtain⟨X4,hm⟩:∃ X,X=G.edges.flatMap (EY C):=⟨_,rfl⟩;obtain⟨Z2,hn⟩:∃ Z,Z=X1++X2:=⟨_,rfl⟩;obtain⟨Z3,ho⟩:∃ Z,Z=Z2++X3:=⟨_,rfl⟩;obtain⟨Z4,a1⟩:∃ Z,Z=Z3++X4:=⟨_,rfl⟩;rw[<- hh] at a7;rw[<- hj] at a8;rw[<- hl] at a9;rw[<- hm] at ag;rw[<- hh,<- hj,<- hl,<- hm,<- hn,<- ho,<- a1];have au:Z2.length<=128:=by rw[hn,Qe];omega
 have av:Z3.length<=192:=by rw[ho,Qe];omega
 refine AB (rk (s:=?sa1) [2,3,4,6,9,10,11,43,44,45] [32,176] rfl ?oa1 ?qa1)
 case oa1=>simp;rfl
 refine AI ?_
 obtain⟨Fa,Fa0,Fas,Fal,FaN⟩:∃ F:Nat->List Ed,F 0=[]/\(∀ i (h:i<(p.seeds).length),F (i+1)=F i++ET C (p.seeds)[i])/\(∀ i,(F i).length<=64)/\F (p.seeds).length=(p.seeds).flatMap (ET C) :=
  ⟨λ i=>((p.seeds).take i).flatMap (ET C),zz,λ i h=>by simp only[LY _ _ i h,Qq],λ i=>by have:=MM _ (Pi C) (p.seeds) i;exact QR this hs,zz⟩
 rw[<- hh] at FaN;refine An (ι:=Nat) (λ i=>⟨123,[(2,AA sinks),(3,.pv (gC g)),(4,.pv (pC p)),(6,.pt 32 0 0),(9,.pt 176 0 0),(10,.fn (.func 156) [] [.pt 176 0 0]),(11,AA C),(43,AA p.seeds),(44,.I p.seeds.length),(45,.I i)],[(32,some ⟨2,[[.I 0,.nilS]],0⟩),(176,some (DA N 16 (Fa i).length)),(16,some ⟨3,Cm (Fa i),0⟩)],272⟩) (λ i=>i<=p.seeds.length) (λ i=>p.seeds.length - i) 0 (Qk _) (Le.lst [(32,32),(176,176)] [] [(16,3)] rfl zz zz zz zz zz zz zz (by simp[Up]) (by simp[Fa0];refine⟨A7.rfl' zz,A7.row rfl zy (by simp[E8,Up])⟩)) ?_
 intro i hi;refine rk (s:=?sa2) [2,3,4,6,9,10,11,43,44,45,46] [32,176,16] rfl ?oa2 ?qa2
 case oa2=>simp;rfl
 refine AB (AE _ rfl (λ h7=>?_) λ h7=>?_)
 .simp at h7
  have hw:=w6 (x:=(i:Int)+1);have hq:=Fal i;obtain⟨k,hk,h2,hc⟩:=hd _ (Qi h7)
  have q:Fa (i+1)=Fa i++if 0<C[k] then [⟨0,2+2*(k:Int),C[k]⟩] else []:=by
   rw[Fas i h7,hk];unfold ET;simp[h2]
  refine AG (Bm ⟨123,[(2,AA sinks),(3,.pv (gC g)),(4,.pv (pC p)),(6,.pt 32 0 0),(9,.pt 176 0 0),(10,.fn (.func 156) [] [.pt 176 0 0]),(11,AA C),(43,AA p.seeds),(44,.I p.seeds.length),(45,.I i)],[(32,some ⟨2,[[.I 0,.nilS]],0⟩),(176,some (DA N 16 (Fa (i+1)).length)),(16,some ⟨3,Cm (Fa (i+1)),0⟩)],700⟩ ?_ ?_)
  .refine AI (rk (s:=?sa3) [2,3,4,6,9,10,11,13,43,44,45] [32,176,16] rfl ?oa3 ?qa3)
   case oa3=>simp[h7,hk];rfl
   refine rk (s:=?sa4) [2,3,4,6,9,10,11,13,43,44,45,53] [32,176,16] rfl ?oa4 ?qa4
   case oa4=>simp[h2];rfl
   refine AE _ rfl (λ h8=>?_) λ h8=>?_
   .simp at h8
    rw[if_pos h8] at q;refine Cx rfl ?_;simp[h2];refine Au (I8 k zy zy) ?_
    simp[h2];refine JT (i:=176) (j:=16) zx rfl rfl (e1':=DA N 1 (Fa i).length) (e2':=⟨3,Cm (Fa i),0⟩) zz (by simp[AC]) (L9 N 0 (2+2*(k:Int)) C[k] (Fa i) _ rfl zy) zz zz ?_
    simp[AC];exact⟨rfl,AN [(32,32),(176,176),(400,16)] [] (by simp[q]) (by simp[q,AC])⟩
   .simp at h8
    rw[if_neg zy] at q
    exact AG (AN [(32,32),(176,176),(16,16)] [] (by simp[q]) (by simp[q,AC]))
  refine AT ?_;exact⟨i+1,zy,zy,AN [(32,32),(176,176),(16,16)] [] (by simp[hw]) (by simp[AC])⟩
 simp at h7;obtain rfl:i=p.seeds.length:=zy
 rw[FaN];refine Ak (Al ?_);refine AB (rk (s:=?sb1) [2,3,4,6,9,10,11,63,64,65] [32,176,16] rfl ?ob1 ?qb1)
 case ob1=>simp;rfl
 refine AI ?_
 obtain⟨Fb,Fb0,Fbs,Fbl,FbN⟩:∃ F:Nat->List Ed,F 0=X1/\(∀ i (h:i<(List.range C.length).length),F (i+1)=F i++ES C (List.range C.length)[i])/\(∀ i,(F i).length<=200)/\F (List.range C.length).length=X1++(List.range C.length).flatMap (ES C) :=
  ⟨λ i=>X1++((List.range C.length).take i).flatMap (ES C),zz,λ i h=>by simp only[LY _ _ i h,Qq],λ i=>by have:=MM _ (NB C) (List.range C.length) i;rw[UD] at this;rw[Qe];omega,zz⟩
 rw[UD,<- hj,<- hn] at FbN;refine An (ι:=Nat) (λ i=>⟨123,[(2,AA sinks),(3,.pv (gC g)),(4,.pv (pC p)),(6,.pt 32 0 0),(9,.pt 176 0 0),(10,.fn (.func 156) [] [.pt 176 0 0]),(11,AA C),(63,AA C),(64,.I C.length),(65,.I i)],[(32,some ⟨2,[[.I 0,.nilS]],0⟩),(176,some (DA N 16 (Fb i).length)),(16,some ⟨3,Cm (Fb i),0⟩)],304⟩) (λ i=>i<=C.length) (λ i=>C.length - i) 0 (Qk _) (AN [(32,32),(176,176),(16,16)] [] (by simp[Fb0]) (by simp[Fb0,AC])) ?_
 intro i hi;refine rk (s:=?sb2) [2,3,4,6,9,10,11,63,64,65,66] [32,176,16] rfl ?ob2 ?qb2
 case ob2=>simp;rfl
 refine AB (AE _ rfl (λ h7=>?_) λ h7=>?_)
 .simp at h7
  have hw:=w6 (x:=(i:Int)+1);have hq:=Fbl i;have h2:=h7
  have q:Fb (i+1)=Fb i++if 0<C[i] then [⟨2+2*(i:Int),3+2*(i:Int),C[i] - 1⟩] else []:=by
   rw[Fbs i (by simpa using h7)]
   unfold ES;simp[h2]
  have b0:=ht _ (Qi h7);have a2:=w6 (x:=C[i] - 1);refine AG (Bm ⟨123,[(2,AA sinks),(3,.pv (gC g)),(4,.pv (pC p)),(6,.pt 32 0 0),(9,.pt 176 0 0),(10,.fn (.func 156) [] [.pt 176 0 0]),(11,AA C),(63,AA C),(64,.I C.length),(65,.I i)],[(32,some ⟨2,[[.I 0,.nilS]],0⟩),(176,some (DA N 16 (Fb (i+1)).length)),(16,some ⟨3,Cm (Fb (i+1)),0⟩)],700⟩ ?_ ?_)
  .refine AI (rk (s:=?sb3) [2,3,4,6,9,10,11,14,15,63,64,65] [32,176,16] rfl ?ob3 ?qb3)
   case ob3=>simp[h7];rfl
   refine rk (s:=?sb4) [2,3,4,6,9,10,11,14,15,63,64,65,71] [32,176,16] rfl ?ob4 ?qb4
   case ob4=>simp[h2];rfl
   refine AE _ rfl (λ h8=>?_) λ h8=>?_
   .simp at h8
    rw[if_pos h8] at q;refine Ab rfl ?_;simp[h2];refine Au (I8 i zy zy) ?_
    simp[a2];refine Au (XW i zy zy) ?_
    simp[a2];refine JT (i:=176) (j:=16) zx rfl rfl (e1':=DA N 1 (Fb i).length) (e2':=⟨3,Cm (Fb i),0⟩) zz (by simp[AC]) (L9 N (2+2*(i:Int)) (3+2*(i:Int)) (C[i] - 1) (Fb i) _ rfl zy) zz zz ?_
    simp[AC];exact AN [(32,32),(176,176),(424,16)] [] (by simp[q]) (by simp[q,AC])
   .simp at h8
    rw[if_neg zy] at q
    exact AG (AN [(32,32),(176,176),(16,16)] [] (by simp[q]) (by simp[q,AC]))
  refine AT ?_;exact⟨i+1,zy,zy,AN [(32,32),(176,176),(16,16)] [] (by simp[hw]) (by simp[AC])⟩
 simp at h7;obtain rfl:i=C.length:=zy
 rw[FbN];refine Ak (Al ?_);refine AB (rk (s:=?sc1) [3,4,6,9,10,11,81,82,83] [32,176,16] rfl ?oc1 ?qc1)
 case oc1=>simp;rfl
 refine AI ?_
 obtain⟨Fc,Fc0,Fcs,Fcl,FcN⟩:∃ F:Nat->List Ed,F 0=Z2/\(∀ i (h:i<(sinks).length),F (i+1)=F i++EP C (sinks)[i])/\(∀ i,(F i).length<=300)/\F (sinks).length=Z2++(sinks).flatMap (EP C) :=
  ⟨λ i=>Z2++((sinks).take i).flatMap (EP C),zz,λ i h=>by simp only[LY _ _ i h,Qq],λ i=>by have:=MM _ (RJ C) (sinks) i;simp only[Qe];omega,zz⟩
 rw[<- hl,<- ho] at FcN;refine An (ι:=Nat) (λ i=>⟨123,[(3,.pv (gC g)),(4,.pv (pC p)),(6,.pt 32 0 0),(9,.pt 176 0 0),(10,.fn (.func 156) [] [.pt 176 0 0]),(11,AA C),(81,AA sinks),(82,.I sinks.length),(83,.I i)],[(32,some ⟨2,[[.I 0,.nilS]],0⟩),(176,some (DA N 16 (Fc i).length)),(16,some ⟨3,Cm (Fc i),0⟩)],336⟩) (λ i=>i<=sinks.length) (λ i=>sinks.length - i) 0 (Qk _) (AN [(32,32),(176,176),(16,16)] [] (by simp[Fc0]) (by simp[Fc0,AC])) ?_
 intro i hi;refine rk (s:=?sc2) [3,4,6,9,10,11,81,82,83,84] [32,176,16] rfl ?oc2 ?qc2
 case oc2=>simp;rfl
 refine AB (AE _ rfl (λ h7=>?_) λ h7=>?_)
 .simp at h7
  have hw:=w6 (x:=(i:Int)+1);have hq:=Fcl i;obtain⟨k,hk,h2,hc⟩:=hf _ (Qi h7)
  have q:Fc (i+1)=Fc i++if 0<C[k] then [⟨2+2*(k:Int),1,1⟩] else []:=by
   rw[Fcs i h7,hk];unfold EP;simp[h2]
  refine AG (Bm ⟨123,[(3,.pv (gC g)),(4,.pv (pC p)),(6,.pt 32 0 0),(9,.pt 176 0 0),(10,.fn (.func 156) [] [.pt 176 0 0]),(11,AA C),(81,AA sinks),(82,.I sinks.length),(83,.I i)],[(32,some ⟨2,[[.I 0,.nilS]],0⟩),(176,some (DA N 16 (Fc (i+1)).length)),(16,some ⟨3,Cm (Fc (i+1)),0⟩)],700⟩ ?_ ?_)
  .refine AI (rk (s:=?sc3) [3,4,6,9,10,11,17,81,82,83] [32,176,16] rfl ?oc3 ?qc3)
   case oc3=>simp[h7,hk];rfl
   refine rk (s:=?sc4) [3,4,6,9,10,11,17,81,82,83,91] [32,176,16] rfl ?oc4 ?qc4
   case oc4=>simp[h2];rfl
   refine AE _ rfl (λ h8=>?_) λ h8=>?_
   .simp at h8
    rw[if_pos h8] at q;refine Ab rfl ?_;simp[h2];refine Au (I8 k zy zy) ?_
    simp;refine JT (i:=176) (j:=16) zx rfl rfl (e1':=DA N 1 (Fc i).length) (e2':=⟨3,Cm (Fc i),0⟩) zz (by simp[AC]) (L9 N (2+2*(k:Int)) 1 1 (Fc i) _ rfl zy) zz zz ?_
    simp[AC];exact AN [(32,32),(176,176),(432,16)] [] (by simp[q]) (by simp[q,AC])
   .simp at h8
    rw[if_neg zy] at q
    exact AG (AN [(32,32),(176,176),(16,16)] [] (by simp[q]) (by simp[q,AC]))
  refine AT ?_;exact⟨i+1,zy,zy,AN [(32,32),(176,176),(16,16)] [] (by simp[hw]) (by simp[AC])⟩
 simp at h7;obtain rfl:i=sinks.length:=zy
 rw[FcN];refine Ak (Al ?_);refine AB (rk (s:=?sd1) [6,9,10,11,101,102,103] [32,176,16] rfl ?od1 ?qd1)
 case od1=>simp;refine Ah hb zz ?_;simp;rfl
 refine AI ?_
 obtain⟨Fd,Fd0,Fds,Fdl,FdN⟩:∃ F:Nat->List Ed,F 0=Z3/\(∀ i (h:i<(G.edges).length),F (i+1)=F i++EY C (G.edges)[i])/\(∀ i,(F i).length<=900)/\F (G.edges).length=Z3++(G.edges).flatMap (EY C) :=
  ⟨λ i=>Z3++((G.edges).take i).flatMap (EY C),zz,λ i h=>by simp only[LY _ _ i h,Qq],λ i=>by have:=MM _ (Ou C) (G.edges) i;simp only[Qe];omega,zz⟩
 rw[<- hm,<- a1] at FdN;refine An (ι:=Nat) (λ i=>⟨123,[(6,.pt 32 0 0),(9,.pt 176 0 0),(10,.fn (.func 156) [] [.pt 176 0 0]),(11,AA C),(101,BE G.edges),(102,.I G.edges.length),(103,.I i)],[(32,some ⟨2,[[.I 0,.nilS]],0⟩),(176,some (DA N 16 (Fd i).length)),(16,some ⟨3,Cm (Fd i),0⟩)],400⟩) (λ i=>i<=G.edges.length) (λ i=>G.edges.length - i) 0 (Qk _) (AN [(32,32),(176,176),(16,16)] [] (by simp[Fd0]) (by simp[Fd0,AC])) ?_
 intro i hi;refine rk (s:=?sd2) [6,9,10,11,101,102,103,104] [32,176,16] rfl ?od2 ?qd2
 case od2=>simp;rfl
 refine AB (AE _ rfl (λ h7=>?_) λ h7=>?_)
 .simp at h7
  have hw:=w6 (x:=(i:Int)+1);have hq:=Fdl i;obtain⟨x,hx⟩:=AJ (G.edges[i]);have h9:=a0 _ (Qi h7);rw[<- hx] at h9;obtain⟨k,hk,h2,hc⟩:=h3 x.f h9.1.1 h9.1.2;obtain⟨u,hu,b1,an⟩:=h3 x.t h9.2.1 h9.2.2
  have q:Fd (i+1)=Fd i++if 0<C[k] then [⟨3+2*(k:Int),2+2*(u:Int),64⟩] else []:=by
   rw[Fds i h7,<- hx];unfold EY;rw[hk,hu];simp[h2]
  refine AG (Bm ⟨123,[(6,.pt 32 0 0),(9,.pt 176 0 0),(10,.fn (.func 156) [] [.pt 176 0 0]),(11,AA C),(101,BE G.edges),(102,.I G.edges.length),(103,.I i)],[(32,some ⟨2,[[.I 0,.nilS]],0⟩),(176,some (DA N 16 (Fd (i+1)).length)),(16,some ⟨3,Cm (Fd (i+1)),0⟩)],700⟩ ?_ ?_)
  .refine AI ?_
   apply ax [6,9,10,11,19,101,102,103] [(32,32),(176,176),(16,16)] [424] 440
   .simp [h7,<- hx]
    rfl
   refine rk (s:=?sd4) [6,9,10,11,19,101,102,103,112] [32,176,16] rfl ?od4 ?qd4
   case od4=>simp[hk,h2];rfl
   refine AE _ rfl (λ h8=>?_) λ h8=>?_
   .simp at h8
    rw[if_pos h8] at q;refine Cx rfl ?_;simp[hk,hu];refine Au (XW k zy zy) ?_
    simp[h2];refine Au (I8 u zy zy) ?_
    simp;refine JT (i:=176) (j:=16) zx rfl rfl (e1':=DA N 1 (Fd i).length) (e2':=⟨3,Cm (Fd i),0⟩) zz (by simp[AC]) (L9 N (3+2*(k:Int)) (2+2*(u:Int)) 64 (Fd i) _ rfl zy) zz zz ?_
    simp[AC];exact⟨rfl,AN [(32,32),(176,176),(544,16)] [] (by simp[q]) (by simp[q,AC])⟩
   .simp at h8
    rw[if_neg zy] at q
    exact AG (AN [(32,32),(176,176),(16,16)] [] (by simp[q]) (by simp[q,AC]))
  refine AT ?_;exact⟨i+1,zy,zy,AN [(32,32),(176,176),(16,16)] [] (by simp[hw]) (by simp[AC])⟩
 simp at h7;obtain rfl:i=G.edges.length:=zy
 rw[FdN];refine Ak (Al (rk (s:=?sz) [6,7] [32,16] rfl ?oz ?qz))
 case oz=>simp;rfl
 exact BR (AO.out [] [16] rfl zz zz (by simp[hN,AC,DX]) zz)
instance (g:Gr) (lv f t:Int):Decidable (Mf g lv f t):=by unfold Mf;infer_instance
theorem Kc {a:List Int} {n:Int} (h:∀ k∈a,0<=k/\k<n):CJ (Az a) 0 (n - 1):=by
 intro i hi;have hm:=JP.1 (Qi hi);have:=h _ hm.1;refine⟨zy,zy,λ hp=>?_⟩
 exact(QK.1 (Lq a)) (i - 1) i zy hi zy
theorem J4 (a:List Int):(Az a).length<=64:=QR (QV ..) zz
theorem dF (g:Gr) (p:A9) (sinks:List Int) (hg:AH g) (hs:p.seeds.length<=64) (q:sinks.length<=64):(Df g p (Bk g p) sinks).length<=1000:=by
 rw[Xh];have h1:=HQ _ (Pi (Bk g p)) p.seeds;have h2:=HQ _ (NB (Bk g p)) (List.range (Bk g p).length);have h3:=HQ _ (RJ (Bk g p)) sinks;have h4:=HQ _ (Ou (Bk g p)) (Ao g p.lv).edges;have h5:(Ao g p.lv).edges.length<=g.edges.length:=QV ..;have h6:=hg.edges_le;have h7:=hg.1.2.1;have h8:=hg.1.1;rw[UD] at h2;have h9:(Bk g p).length=g.size.toNat:=HV;simp only[Qe];omega
variable {g:Gr}
def A8 (g:Gr):Nat:=(2+2*g.size).toNat
theorem L4 (hg:AH g):((A8 g:Nat):Int)=2+2*g.size:=by unfold A8;have:=hg.1.1;omega
abbrev Av (g:Gr) (p:A9) (ks:List Int):List Ed:=Df g p (Bk g p) ks
def CE (g:Gr) (p:A9) (ks:List Int):Prop:=Co (A8 g) (Av g p ks)=ks.length
theorem Kl {p:A9} {ks:List Int} (hg:AH g) (hp:CI g.size p) (hk:∀ x∈ks,0<=x/\x<g.size):Ds (A8 g) (Av g p ks):=bB hg hp hk
theorem LA {p:A9} {ks:List Int} (hg:AH g) (hp:CI g.size p) (hk:∀ x∈ks,0<=x/\x<g.size) (hs:p.seeds.length<=64) (u:ks.length<=64):DS ⟨A8 g,Av g p ks⟩:=by
 have h1:=Kl hg hp hk;have h2:(Av g p ks).length<=1000:=dF g p ks hg hs u;have h3:=hg.1.2.1;have hN:=L4 hg;have h0:=hg.1.1
 have q:∀ i:Nat,(Bk g p).getD i 0<=1000:=λ i=>by
  rw[Qn]
  cases h:(Bk g p)[i]? with
  | none=>simp
  | some v =>
    have hm:=Um h;unfold Bk at hm;obtain⟨d,_,rfl⟩:=Ql.1 hm;exact(Nk hp d).2
 refine⟨by simp only;omega,by simp only;omega,by simp only;omega,λ a ha=>?_⟩
 obtain⟨q1,q2,q3,q4,q5,q6,q7,q8⟩:=h1.arc a ha;refine⟨q1,by simp only;omega,q3,by simp only;omega,q5,q6,q7,q8,?_⟩
 simp only[Av,Df] at ha;rcases Qm.1 ha with ha | ha
 .rcases Qm.1 ha with ha | ha
  .rcases Qm.1 ha with ha | ha
   .obtain ⟨x,hx,rfl⟩:=Ql.1 ha
    have:=q x.toNat;simp only;omega
   .obtain ⟨i,hx,rfl⟩:=Ql.1 ha
    have:=q i;simp only;omega
  .obtain ⟨x,hx,rfl⟩:=Ql.1 ha
   simp
 .obtain ⟨e,hx,rfl⟩:=Ql.1 ha
  simp
structure FS (g:Gr) (p:A9) (ks f:List Int):Prop where
 ok:BQ (A8 g) (Av g p ks) f
 most:∀ f',BQ (A8 g) (Av g p ks) f'->Ai (Av g p ks) f'<=Ai (Av g p ks) f
 val:Ai (Av g p ks) f=Co (A8 g) (Av g p ks)
theorem KI {ks:List Int} {n:Int} (h:CJ ks 0 (n - 1)):∀ x∈ks,0<=x/\x<n:=λ x hx=>by
 have:=h.nodup.2 x hx;omega
theorem SJ (side:List Int):∀ A:List Ed,CA A side=Ba (λ x=>decide (x∈side)) A
 | []=>rfl
 | e::A=>by
   have h1:CA (e::A) side=(if e.f∈side/\e.t∉side then e.v else 0)+CA A side:=by simp[CA]
   have h2:Ba (λ x=>decide (x∈side)) (e::A)=(if decide (e.f∈side)=true/\decide (e.t∈side)=false then e.v else 0)+Ba (λ x=>decide (x∈side)) A:=rfl
   rw[h1,h2,SJ side A];simp
theorem d9 {l:List Int} {n:Int} (h:l.Pairwise (· < ·)) (hr:∀ k∈l,0<=k/\k<n):CJ l 0 (n - 1):=by
 intro i hi;have:=hr _ (Qi hi);refine⟨zy,zy,λ hp=>?_⟩
 exact(QK.1 h) (i - 1) i zy hi zy
variable {k:Int} {o:List Int}
open Classical in
def Aa (g:Gr) (p:A9) (o:List Int):List Int:=o.foldl (λ acc k=>if CE g p (Az (acc++[k])) then acc++[k] else acc) []
variable {g:Gr} {p:A9}
theorem Wf:Aa g p []=[]:=rfl
open Classical in
theorem HK {o:List Int} {k:Int} (h:CE g p (Az (Aa g p o++[k]))):Aa g p (o++[k])=Aa g p o++[k]:=by
 have h2:Aa g p (o++[k])=if CE g p (Az (Aa g p o++[k])) then Aa g p o++[k] else Aa g p o:=by unfold Aa;rw[UU];rfl
 rw[h2,if_pos h]
open Classical in
theorem JY {o:List Int} {k:Int} (h:¬ CE g p (Az (Aa g p o++[k]))):Aa g p (o++[k])=Aa g p o:=by
 have h2:Aa g p (o++[k])=if CE g p (Az (Aa g p o++[k])) then Aa g p o++[k] else Aa g p o:=by unfold Aa;rw[UU];rfl
 rw[h2,if_neg h]
theorem WU (o:List Int) (k:Int):Aa g p (o++[k])=Aa g p o∨Aa g p (o++[k])=Aa g p o++[k]:=by
 by_cases h:CE g p (Az (Aa g p o++[k]))
 .exact .inr (HK h)
 .exact .inl (JY h)
theorem IG:∀ (n:Nat) (o:List Int),o.length=n->(Aa g p o).Sublist o
 | 0,o,h=>by
   obtain rfl:=Qx h;exact List.nil_sublist _
 | n+1,o,h=>by
   have q:o≠[]:=λ e=>by rw[e] at h;cases h
   rw[<- UZ q];have ih:=IG n o.dropLast (by rw[List.length_dropLast,h];rfl)
   rcases WU (g:=g) (p:=p) o.dropLast (o.getLast q) with e | e
   .rw [e];exact ih.trans (List.sublist_append_left _ _)
   .rw [e];exact ih.append (List.Sublist.refl _)
theorem IC {x:Int} (h:x∈Aa g p o):x∈o:=(IG _ o rfl).subset h
theorem XH (o:List Int):(Aa g p o).length<=o.length:=(IG _ o rfl).length_le
open Classical in
def EX (N:Nat) (A:List Ed):List Int:=((List.range N).map λ k:Nat=>(k:Int)).filter λ k=>decide (∀ S:Int->Bool,S 0=true->S 1=false->Ba S A=Co N A->S k=true)
theorem S7 {N:Nat} {A:List Ed} {f D:List Int} {by_:Int->BS} (hn:Ds N A) (hf:BQ N A f) (hm:∀ f',BQ N A f'->Ai A f'<=Ai A f) (ht:Ik A f D by_) (h0:(0:Int)∈D) (h1:(1:Int)∉D) (hc:Hy A f D) :
  ((List.range N).map λ k:Nat=>(k:Int)).filter (λ k=>decide (k∈D))=EX N A:=by
 unfold EX;refine List.filter_congr λ k _=>?_;rw[decide_eq_decide];have q:=Ja hf hm;constructor
 .intro hk S s0 s1 hS
  exact XF hn hf ht s0 s1 (hS.trans q) k hk
 .intro h
  have:=h (λ x=>decide (x∈D)) (by simpa using h0) (by simpa using h1) (by rw[q];exact(Ln hn hf h0 h1 hc).1.symm)
  simpa using this
open Classical in
def ED (g:Gr) (p:A9) (o:List Int):List Int × List (Int × List Int) :=
 o.foldl (λ s k=>if CE g p (Az (s.1++[k])) then (s.1++[k],s.2) else (s.1,s.2++[(k,EX (A8 g) (Av g p (Az (s.1++[k]))))])) ([],[])
def CS (g:Gr) (p:A9) (o:List Int):List (Int × List Int):=(ED g p o).2
open Classical in
theorem RL (o:List Int) (k:Int):ED g p (o++[k])=if CE g p (Az ((ED g p o).1++[k])) then ((ED g p o).1++[k],(ED g p o).2) else ((ED g p o).1,(ED g p o).2++[(k,EX (A8 g) (Av g p (Az ((ED g p o).1++[k]))))]):=by
 unfold ED;rw[UU];rfl
theorem OS:∀ (n:Nat) (o:List Int),o.length=n->(ED g p o).1=Aa g p o
 | 0,o,h=>by
   obtain rfl:=Qx h;rfl
 | n+1,o,h=>by
   have q:o≠[]:=λ e=>by rw[e] at h;cases h
   rw[<- UZ q];have ih:=OS n o.dropLast (by rw[List.length_dropLast,h];rfl)
   rw[RL,ih];split
   .rename_i h1
    rw[HK h1]
   .rename_i h1
    rw[JY h1]
theorem Js (h:CE g p (Az (Aa g p o++[k]))):CS g p (o++[k])=CS g p o:=by
 unfold CS;rw[RL,OS _ o rfl,if_pos h]
theorem KX (h:¬ CE g p (Az (Aa g p o++[k]))):CS g p (o++[k])=CS g p o++[(k,EX (A8 g) (Av g p (Az (Aa g p o++[k]))))]:=by
 unfold CS;rw[RL,OS _ o rfl,if_neg h]
structure Sy (g:Gr) (p:A9) (acc:List Int) (k:Int) (side:List Int):Prop where
 no:¬ CE g p (Az (acc++[k]))
 ok:Gv ⟨A8 g,Av g p (Az (acc++[k]))⟩ side
 cut:CA (Av g p (Az (acc++[k]))) side=Co (A8 g) (Av g p (Az (acc++[k])))
 len:side.length<=130
 eq:side=EX (A8 g) (Av g p (Az (acc++[k])))
structure Hb (g:Gr) (p:A9) (o:List Int) (R:List (Int × List Int)):Prop where
 all:∀ i (h:i<o.length),o[i]∉Aa g p (o.take (i+1)) -> ∃ side,(o[i],side)∈R
 right:∀ r∈R,∃ i,∃ h:i<o.length,o[i]=r.1/\Sy g p (Aa g p (o.take i)) r.1 r.2
 len:R.length<=o.length
 eq:R=CS g p o
theorem Hb.nil:Hb g p [] []:=⟨λ i h=>absurd h (UW _),(λ r h=>nomatch h),Qf _,rfl⟩
theorem Hb.yes {R:List (Int × List Int)} (hr:Hb g p o R) (h:CE g p (Az (Aa g p o++[k]))):Hb g p (o++[k]) R:=by
 refine⟨λ i hi hn=>?_,λ r u=>?_,QR hr.len zz,by rw[Js h];exact hr.eq⟩
 .rw [Qe,Q8] at hi
  by_cases q:i<o.length
  .rw [Q5 q] at hn ⊢
   rw[Q3 zy] at hn
   exact hr.all i q hn
  .obtain rfl:i=o.length:=zy
   refine absurd ?_ hn;rw[Qd zz,HK h]
   simp
 .obtain ⟨i,hi,h1,h2⟩:=hr.right r u
  refine⟨i,zw,by rw[Q5 hi];exact h1,?_⟩
  rw[Q3 zy]
  exact h2
theorem Hb.no {R:List (Int × List Int)} {side:List Int} (hr:Hb g p o R) (h:Sy g p (Aa g p o) k side):Hb g p (o++[k]) (R++[(k,side)]):=by
 refine⟨λ i hi hn=>?_,λ r u=>?_,by have:=hr.len;simp;omega,by rw[KX h.no,<- hr.eq,<- h.eq]⟩
 .rw [Qe,Q8] at hi
  by_cases q:i<o.length
  .rw [Q5 q] at hn ⊢
   rw[Q3 zy] at hn
   obtain⟨s,hs⟩:=hr.all i q hn;exact⟨s,Q4 _ hs⟩
  .obtain rfl:i=o.length:=zy
   exact⟨side,zz⟩
 .rcases Qm.1 u with h3 | h3
  .obtain ⟨i,hi,h1,h2⟩:=hr.right r h3
   refine⟨i,zw,by rw[Q5 hi];exact h1,?_⟩
   rw[Q3 zy]
   exact h2
  .rw [Qv] at h3
   subst h3;refine⟨o.length,zz,zz,?_⟩
   rw[Q3 (Qf _),Ua];exact h
def Dp (D:List Int) (n:Nat):List Int:=((List.range n).map λ k:Nat=>(k:Int)).filter λ k=>decide (k∈D)
theorem fE (D:List Int) (n:Nat):Dp D (n+1)=Dp D n++if (n:Int)∈D then [(n:Int)] else []:=by
 unfold Dp;rw[List.range_succ,QN,Uz];simp only[QA,Vb,List.filter_cons,List.filter_nil];split<;>simp_all
theorem R4 {D:List Int} {n:Nat} {x:Int}:x∈Dp D n↔(0<=x/\x<n)/\x∈D:=by
 unfold Dp;rw[QF,Ql];constructor
 .rintro ⟨⟨k,hk,rfl⟩,h⟩
  have:=Q1.1 hk;exact⟨zy,by simpa using h⟩
 .rintro ⟨h,h2⟩
  exact⟨⟨x.toNat,Q1.2 zy,zy⟩,by simpa using h2⟩
theorem lP (D:List Int) (n:Nat):(Dp D n).Pairwise (· < ·):=by
 unfold Dp;refine List.Pairwise.filter _ ?_;rw[UM];exact List.pairwise_lt_range.imp λ h=>zy
theorem eB (D:List Int) (n:Nat):(Dp D n).length<=n:=by
 unfold Dp;refine QR (QV ..) zz
abbrev CC (R:List (Int × List Int)):List (List AV):=R.map λ r=>[.I r.1,AA r.2]
abbrev Cj (acc flow:List Int) (R:List (Int × List Int)):AV:=.agg [AA acc,AA flow,.vs 2 false (CC R)]
theorem CO.mem {A:List Ed}:∀ {l:List Nat} {u w:Int},CO A u l w -> ∀ j∈l,j<A.length
 | i::l,u,w,hw,j,hj=>by
   rcases Qu.1 hj with rfl | hj
   .exact hw.1
   .exact CO.mem hw.2.2 j hj
theorem Gb.few {N:Nat} {A:List Ed} {f g:List Int} {l:List Nat} {w:Int} (hn:Ds N A) (h:Gb A f g l w):l.length+1<=N:=by
 have:=HY (b:=(List.range N).map λ i:Nat=>(i:Int)) h.met λ x hx=>by
  rcases Qu.1 hx with rfl | hx
  .have:=hn.two
   exact Ql.2 ⟨0,Q1.2 zy,rfl⟩
  .obtain ⟨j,hj,rfl⟩:=Ql.1 hx
   have ha:=hn.arc _ (IK (h.way.mem j hj));exact Ql.2 ⟨(AQ A j).t.toNat,Q1.2 zy,zy⟩
 simpa [B7] using this
def E2 (l:List (Int × AV)):List (List AV):=l.map λ p=>[.sc (.int .i64 p.1),p.2]
theorem RG (n:Int):∀ l:List (Int × AV),DT n (E2 l)=(l.find? (λ p=>p.1=n)).map (·.2)
 | []=>rfl
 | (k,x)::l=>by
   have ih:=RG n l;simp only[E2] at ih;simp only[E2,QA,DT,List.find?_cons]
   by_cases h:n=k
   .simp [h]
   .have h':¬ k=n:=λ e=>h e.symm
    simp[h,h',ih]
def D8 (rows:List (List AV)) (φ:Int->Option AV):Prop:=∃ l:List (Int × AV),rows=E2 l/\(l.map (·.1)).Nodup /\ ∀ n,DT n rows=φ n
theorem D8.find {rows:List (List AV)} {φ:Int->Option AV} (h:D8 rows φ) (n:Int):DT n rows=φ n:=by
 obtain⟨_,_,_,h⟩:=h;exact h n
theorem D8.nil:D8 [] λ _=>none:=⟨[],rfl,zz,λ _=>rfl⟩
theorem YO (n:Int) (y:AV):∀ l:List (Int × AV),∃ l',Bb n y (E2 l)=E2 l'/\(∀ k,k∈l'.map (·.1)↔k=n∨k∈l.map (·.1))/\((l.map (·.1)).Nodup->(l'.map (·.1)).Nodup) /\ ∀ k,DT k (E2 l')=if k=n then some y else DT k (E2 l)
 | []=>⟨[(n,y)],rfl,zz,zz,λ k=>by simp[E2,DT]⟩
 | (i,x)::l=>by
   by_cases h:n=i
   .subst h
    refine⟨(n,y)::l,by simp[E2,Bb],zz,zz,λ k=>?_⟩
    simp only[E2,QA,DT];split<;>rfl
   .obtain ⟨l',h1,h2,h3,h4⟩:=YO n y l
    refine⟨(i,x)::l',?_,λ k=>?_,λ hn=>?_,λ k=>?_⟩
    .simp only[E2] at h1
     simp[E2,Bb,h,h1]
    .simp only[QA,Qu,h2]
     constructor
     .rintro (h | h | h)<;>simp[h]
     .rintro (h | h | h)<;>simp[h]
    .rw [QA,Uh] at hn ⊢
     exact⟨λ hm=>((h2 i).1 hm).elim (λ e=>h e.symm) hn.1,h3 hn.2⟩
    .have h4:=h4 k
     simp only[E2] at h4;simp only[E2,QA,DT,h4]
     by_cases hk:k=i
     .subst hk
      simp[show ¬ k=n from λ e=>h e.symm]
     .simp [hk]
theorem D8.set {rows:List (List AV)} {φ:Int->Option AV} (h:D8 rows φ) (n:Int) (y:AV):D8 (Bb n y rows) λ k=>if k=n then some y else φ k:=by
 obtain⟨l,rfl,hn,hf⟩:=h;obtain⟨l',h1,_,h3,h4⟩:=YO n y l;exact⟨l',h1,h3 hn,λ k=>by rw[h1,h4,hf]⟩
variable {E:Nat->List (List AV)} {L:List Nat} {N a j k m np o s:Nat} {st st':St} {α:Type}
def Et (s N:Nat) (E:Nat->List (List AV)):List (Nat × Option AD):=(List.range N).map λ k=>(k+1000,some ⟨s,E k,0⟩)
def D9 (E:Nat->List (List AV)) (k:Nat):AV:=.rs (k+1000) 0 (E k).length
def CD (N:Nat) (E:Nat->List (List AV)):List (List AV):=(List.range N).map λ k=>[D9 E k]
theorem Ks (N:Nat) (E:Nat->List (List AV)):(CD N E).length=N:=by simp[CD]
theorem Kh (h:k<N):(CD N E)[k]? = some [D9 E k]:=by simp[CD,h]
@[simp] theorem zzQ (h:k<(CD N E).length):(CD N E)[k]=[D9 E k]:=by simp[CD]
theorem Iz {α β:Type} {f:α->β} (hf:∀ i j,f i=f j->i=j):∀ {l:List α},l.Nodup->(l.map f).Nodup
 | [],_=>List.nodup_nil
 | x::l,h=>by
   rw[Uh] at h;rw[QA,Uh];refine⟨λ hx=>?_,Iz hf h.2⟩;obtain⟨y,hy,e⟩:=Ql.1 hx;exact h.1 (hf _ _ e ▸ hy)
theorem K9 (f:Nat->Nat) (hf:∀ i j,f i=f j->i=j) (g:Nat->α) (l:List Nat) (k:Nat):AW (l.map λ k=>(f k,g k)) (f k)=if k∈l then some (g k) else none:=by
 induction l with
 | nil=>simp
 | cons i l ih =>
   simp only[QA,AW]
   by_cases h:i=k
   .subst h;simp
   .have h1:f i≠f k:=λ e=>h (hf _ _ e)
    have h2:¬ k=i:=λ e=>h e.symm;simp[h1,ih,h2]
theorem vT (f:Nat->Nat) (g:Nat->α) (l:List Nat) (j:Nat) (h:∀ k∈l,f k≠j):AW (l.map λ k=>(f k,g k)) j=none:=by
 induction l with
 | nil=>simp
 | cons i l ih =>
   simp only[QA,AW];rw[if_neg (h i zz),ih λ k hk=>h k (by simp[hk])]
theorem m8 {r:List (Nat × Option AD)} (h:k<N):AW (Et s N E++r) (k+1000)=some (some ⟨s,E k,0⟩):=by
 rw[KB,Et,K9 (λ k=>k+1000) (λ i j h=>by simpa using h)]
 simp[h]
theorem Tk {r:List (Nat × Option AD)} (h:j<1000∨1000+N<=j):AW (Et s N E++r) j=AW r j:=by
 rw[KB,Et,vT (λ k=>k+1000) _ _ _ (λ k hk e=>by have:=Q1.1 hk;omega)]
 simp
section
variable {sz n s N:Nat} {t:List (Nat × AV)} {E:Nat->List (List AV)} {r:List (Nat × Option AD)}
theorem cX (h:k<N):(⟨sz,t,Et s N E++r,n⟩:St).hp (k+1000)=some ⟨s,E k,0⟩:=by
 show (AW _ _).getD none=_;rw[m8 h];rfl
theorem KM (h:j<1000):(⟨sz,t,Et s N E++r,n⟩:St).hp j=(⟨sz,t,r,n⟩:St).hp j:=by
 show (AW _ _).getD none=(AW _ _).getD none;rw[Tk (.inl h)]
theorem qC (h:1000+N<=j):(⟨sz,t,Et s N E++r,n⟩:St).hp j=(⟨sz,t,r,n⟩:St).hp j:=by
 show (AW _ _).getD none=(AW _ _).getD none;rw[Tk (.inr h)]
end
def Bq (m a N:Nat) (L:List Nat):List (Nat × Nat):=(m,a+1000)::(L++((List.range N).filter (· ≠ a)).map (· + 1000)).map λ j=>(j,j)
theorem oL (hL:L.Nodup) (h1:∀ j∈L,j<1000) (hm:m∉L) (q:m<1000∨1000+N<=m):((Bq m a N L).map (·.1)).Nodup:=by
 simp only[Bq,QA,Us,AC,List.map_id',Uh,Qm,Ql,QF,Q1];refine⟨?_,?_⟩
 .rintro (h | ⟨k,⟨h,_⟩,e⟩)
  .exact hm h
  .omega
 .refine Uf.2 ⟨hL,?_,?_⟩
  .exact Iz (λ i j h=>by simpa using h) (List.nodup_range.filter _)
  .intro x hx y hy e
   simp only[Ql] at hy;obtain⟨k,_,e2⟩:=hy;have:=h1 x hx;omega
theorem Z8 (hL:L.Nodup) (h1:∀ j∈L,j<1000):((Bq m a N L).map (·.2)).Nodup:=by
 simp only[Bq,QA,Us,AC,List.map_id',Uh,Qm,Ql,QF,Q1];refine⟨?_,?_⟩
 .rintro (h | ⟨k,⟨_,h⟩,e⟩)
  .have:=h1 _ h;omega
  .simp at h;omega
 .refine Uf.2 ⟨hL,?_,?_⟩
  .exact Iz (λ i j h=>by simpa using h) (List.nodup_range.filter _)
  .intro x hx y hy e
   simp only[Ql] at hy;obtain⟨k,_,e2⟩:=hy;have:=h1 x hx;omega
theorem kO:AW (Bq m a N L) m=some (a+1000):=by simp[Bq]
theorem ID (hm:m≠j) (h:j∈L ∨ ∃ k<N,k≠a/\j=k+1000):AW (Bq m a N L) j=some j:=by
 rw[Bq,AW,if_neg hm,K9 (λ j=>j) (λ i j h=>h) (λ j=>j),if_pos];rcases h with h | ⟨k,h1,h2,rfl⟩
 .simp [h]
 .simp [h1,h2]
def grow {α:Type} (E:Nat->List α) (a:Nat) (r:α):Nat->List α:=λ k=>if k=a then E a++[r] else E k
theorem H8 (f:AV->AV) (hf:∀ v,f (.sc v) = .sc v) (rows:List (List AV)) (hr:∀ r∈rows,∀ x∈r,∃ v,x = .sc v):rows.map (·.map f)=rows:=by
 conv=>rhs;rw[<- List.map_id rows]
 refine Ur λ r q=>?_
 conv=>rhs;rw[id,<- List.map_id r]
 refine Ur λ x hx=>?_;obtain⟨v,rfl⟩:=hr r q x hx;exact hf v
theorem Zn {row:List AV} {h:Nat->Option AD} {len:Nat} (ha:a<N) (hm:m<1000∨1000+N<=m) (u:len=(E a).length+1) :
  ((CD N E).set a [.rs m 0 len]).map (·.map (conv (Bq m a N L) [] h 4))=CD N (grow E a row):=by
 apply List.ext_getElem?;intro j;rw[QB,UE,Ks]
 by_cases hj:a=j
 .subst hj
  rw[if_pos rfl,if_pos ha,Kh ha];simp[kO,D9,grow,u]
 .rw [if_neg hj]
  by_cases q:j<N
  .rw [Kh q,Kh q]
   have h1:AW (Bq m a N L) (j+1000)=some (j+1000):=ID zy (.inr ⟨j,q,λ e=>hj e.symm,rfl⟩)
   have h2:j≠a:=λ e=>hj e.symm;simp[D9,h1,grow,h2]
  .simp [CD,q]
theorem Le.fam {row:List AV} (L:List Nat) (h5:st'.sz=st.sz) (ha:a<N) (hL:L.Nodup) (h1:∀ j∈L,j<1000) (h6:1000+N<=m) (hn:1000+N<=st'.n) (h8:np<=1000) (hE:∀ k<N,∀ r∈E k,∀ x∈r,∃ v,x = .sc v) (u:∀ x∈row,∃ v,x = .sc v) (hst:∀ k<N,k≠a->st.hp (k+1000)=some ⟨s,E k,0⟩) (h7:st.hp m=some ⟨s,E a++[row],0⟩) (h0:∀ k<N,st'.hp (k+1000)=some ⟨s,grow E a row k,0⟩) (h4:∀ j,j∉L->(j<1000∨1000+N<=j)->st'.hp j=none) (ht:∀ p∈st'.t,Wk (conv (Bq m a N L) [] st.hp 4 (st.get p.1)) p.2) (hb:∀ j∈L,∀ e',st'.hp j=some e' -> ∃ e,st.hp j=some e/\A7 [] (AX (Bq m a N L) [] st.hp 4 e) e'):Le np st st':=by
 have hm:m∉L:=λ h=>by have:=h1 m h;omega
 refine Le.mk (Bq m a N L) [] [] h5 (oL hL h1 hm (.inr h6)) (Z8 hL h1) ?_ zz zz zy zz (λ i=>?_) ?_
 .intro p hp
  simp only[Bq,Qu,Ql,Qm,QF,Q1] at hp;rcases hp with rfl | ⟨j,h | ⟨k,⟨h2,_⟩,rfl⟩,rfl⟩
  .exact ⟨by simp only;omega,λ h=>by simp only at h;omega⟩
  .have:=h1 j h
   exact⟨by simp only;omega,λ _=>rfl⟩
  .exact ⟨by simp only;omega,λ _=>rfl⟩
 .unfold St.get at *
  cases hl:AW st'.t i with
  | none=>exact .inl (.dead _)
  | some v=>exact .inl (ht _ (DW hl))
 .intro j e' he
  left
  by_cases hj:j∈L
  .obtain ⟨e,h2,h3⟩:=hb j hj e' he
   refine⟨j,e,?_,h2,h3⟩;simp only[Bq,Qu,Ql,Qm];exact .inr ⟨j,.inl hj,rfl⟩
  .by_cases hr:j<1000∨1000+N<=j
   .rw [h4 j hj hr] at he;cases he
   .obtain ⟨k,rfl⟩:∃ k,j=k+1000:=⟨j - 1000,zy⟩
    have hk:k<N:=zy
    rw[h0 k hk] at he
    cases he
    by_cases q:k=a
    .subst q
     rw[show grow E k row k=E k++[row] from if_pos rfl]
     refine⟨m,_,by simp[Bq],h7,?_⟩
     have:AX (Bq m k N L) [] st.hp 4 ⟨s,E k++[row],0⟩=⟨s,E k++[row],0⟩:=by
      simp only[AX];rw[H8 _ λ v=>by simp[conv]]
      intro r hr x hx;rcases Qm.1 hr with h | h
      .exact hE k hk r h x hx
      .rw [Qv.1 h] at hx;exact u x hx
     rw[this];exact A7.rfl' (Qk _)
    .simp only[grow,if_neg q]
     refine⟨k+1000,_,?_,hst k hk q,?_⟩
     .simp only[Bq,Qu,Ql,Qm,QF,Q1]
      exact .inr ⟨k+1000,.inr ⟨k,⟨hk,by simpa using q⟩,rfl⟩,rfl⟩
     .have:AX (Bq m a N L) [] st.hp 4 ⟨s,E k,0⟩=⟨s,E k,0⟩:=by
       simp only[AX];rw[H8 _ (λ v=>by simp[conv]) _ (hE k hk)]
      rw[this];exact A7.rfl' (Qk _)
theorem Le.fam0 (L:List Nat) (h6:st'.sz=st.sz) (hs:s≠0) (hL:(o::L).Nodup) (h1:∀ j∈o::L,j<1000/\np<=1000) (hn:1000+N<=st'.n) (ho:st.hp o=some ⟨1,(List.range N).map λ _=>[.nilS],0⟩) (h7:st'.hp o=some ⟨1,CD N λ _=>[],0⟩) (h0:∀ k<N,st'.hp (k+1000)=some ⟨s,[],0⟩) (h4:∀ j,j∉o::L->(j<1000∨1000+N<=j)->st'.hp j=none) (ht:∀ p∈st'.t,Wk (conv ((o::L).map λ j=>(j,j)) [] st.hp 4 (st.get p.1)) p.2) (hb:∀ j∈L,∀ e',st'.hp j=some e' -> ∃ e,st.hp j=some e/\A7 [] (AX ((o::L).map λ j=>(j,j)) [] st.hp 4 e) e'):Le np st st':=by
 have u:∀ p,p∈(List.range N).map (λ k=>(k+1000,s)) ↔ ∃ k<N,p=(k+1000,s):=λ p=>by
  rw[Ql];exact⟨λ ⟨k,h,e⟩=>⟨k,Q1.1 h,e.symm⟩,λ ⟨k,h,e⟩=>⟨k,Q1.2 h,e.symm⟩⟩
 have hid:((o::L).map λ j=>(j,j)).map (·.1)=o::L:=by simp[AC]
 have q:((o::L).map λ j=>(j,j)).map (·.2)=o::L:=by simp[AC]
 refine Le.mk ((o::L).map λ j=>(j,j)) [] ((List.range N).map λ k=>(k+1000,s)) h6 (by rw[hid];exact hL) (by rw[q];exact hL) ?_ ?_ zz (by have:=h1 o zz;omega) ?_ (λ i=>?_) ?_
 .intro p hp
  obtain⟨j,hj,rfl⟩:=Ql.1 hp;have:=h1 j hj;exact⟨by simp only;omega,λ _=>rfl⟩
 .intro p hp
  obtain⟨k,hk,rfl⟩:=(u p).1 hp;have:=h1 o zz
  refine⟨by simp only;omega,by simp only;omega,?_,hs⟩
  rw[q];intro h;have:=h1 _ h;omega
 .rw [Us]
  exact Iz (λ i j h=>by simpa using h) List.nodup_range
 .unfold St.get at *
  cases hl:AW st'.t i with
  | none=>exact .inl (.dead _)
  | some v=>exact .inl (ht _ (DW hl))
 .intro j e' he
  by_cases h5:j=o
  .subst h5
   left
   rw[h7] at he
   cases he;refine⟨j,_,zz,ho,rfl,Qf _,Qk _,.inr ⟨by simp[AX],by simp[AX,CD],λ i=>?_⟩⟩
   by_cases hi:i<N
   .simp only[AX,Us,AC,QA,Vb,Qn,QB,List.getElem?_range hi,Ug,QZ,CD,D9,UN]
    exact⟨.inr ⟨by simp[conv],i+1000,s,rfl,(u _).2 ⟨i,hi,rfl⟩⟩,trivial⟩
   .simp [AX,CD,Qn,hi,E8]
  .by_cases hj:j∈L
   .left
    obtain⟨e,h2,h3⟩:=hb j hj e' he;refine⟨j,e,by simp[hj],h2,h3.1,h3.2.1,h3.2.2.1,?_⟩
    rcases h3.2.2.2 with h | ⟨q1,q2,q3⟩
    .exact .inl h
    .refine .inr ⟨q1,q2,λ i=>?_⟩
     have key:∀ {xs ys:List AV},E8 [] xs ys->E8 ((List.range N).map λ k=>(k+1000,s)) xs ys:=by
      intro xs
      induction xs with
      | nil=>intro ys h;cases ys<;>exact h
      | cons x xs ih =>
        intro ys h
        cases ys with
        | nil=>exact h
        | cons y ys =>
          refine⟨?_,ih h.2⟩;rcases h.1 with h | ⟨_,_,_,_,h⟩
          .exact .inl h
          .simp at h
     exact key (q3 i)
   .by_cases hr:j<1000∨1000+N<=j
    .rw [h4 j (by simp[h5,hj]) hr] at he;cases he
    .obtain ⟨k,rfl⟩:∃ k,j=k+1000:=⟨j - 1000,zy⟩
     have hk:k<N:=zy
     rw[h0 k hk] at he
     cases he;exact .inr ⟨(u _).2 ⟨k,hk,rfl⟩,rfl,rfl⟩
def Dk (N:Nat):List Nat:=(List.range N).map (· + 1000)
theorem H7:j∈Dk N↔1000<=j/\j<1000+N:=by
 simp only[Dk,Ql,Q1];exact⟨λ ⟨k,h,e⟩=>zy,λ h=>⟨j - 1000,zy,zy⟩⟩
theorem nR {ρ:List (Nat × Nat)} {sn:List Nat} {hp:Nat->Option AD} (hE:∀ k<N,∀ r∈E k,∀ x∈r,∃ v,x = .sc v) (hρ:AW ρ o=none) (q:o∈sn) (hf:∀ k<N,k+1000∈sn) (ho:hp o=some ⟨1,CD N E,0⟩) (hh:∀ k<N,hp (k+1000)=some ⟨s,E k,0⟩) :
  conv ρ sn hp 4 (.rs o 0 N) = .vs 1 false ((List.range N).map λ k=>[.vs s false (E k)]):=by
 simp only[conv,hρ,q,UP,ho,Ks,Q9,Qf,List.drop_zero]
 rw[Qd (by rw[Ks];exact Qf _),CD,Us]
 congr 1
 refine Ur λ k hk=>?_;have hk:=Q1.1 hk;simp only[AC,QA,Vb,D9,AW,hf k hk,UP,hh k hk,Q9,Qf,List.drop_zero,Ua];rw[H8 _ (λ v=>zz) _ (hE k hk)]
theorem Le.famOut (h0:st'.sz=st.sz) (hL:L.Nodup) (h1:∀ j∈L,j<1000) (h4:o∉L) (hn:1000<=st'.n) (h5:np<=o) (h6:np<=1000) (q:∀ j,j∉L->st'.hp j=none) (ht:∀ p∈st'.t,Wk (conv (L.map λ j=>(j,j)) (o::Dk N) st.hp 4 (st.get p.1)) p.2) (hb:∀ j∈L,∀ e',st'.hp j=some e' -> ∃ e,st.hp j=some e/\A7 [] (AX (L.map λ j=>(j,j)) (o::Dk N) st.hp 4 e) e'):Le np st st':=by
 have hid:(L.map λ j=>(j,j)).map (·.1)=L:=by simp[AC]
 have u:(L.map λ j=>(j,j)).map (·.2)=L:=by simp[AC]
 refine Le.mk (L.map λ j=>(j,j)) (o::Dk N) [] h0 (by rw[hid];exact hL) (by rw[u];exact hL) ?_ zz ?_ zy zz (λ i=>?_) ?_
 .intro p hp
  obtain⟨j,hj,rfl⟩:=Ql.1 hp;have:=h1 j hj;exact⟨by simp only;omega,λ _=>rfl⟩
 .intro i hi
  rw[hid];rcases Qu.1 hi with rfl | hi
  .exact ⟨h5,h4⟩
  .have:=H7.1 hi
   exact⟨zy,λ h=>by have:=h1 i h;omega⟩
 .unfold St.get at *
  cases hl:AW st'.t i with
  | none=>exact .inl (.dead _)
  | some v=>exact .inl (ht _ (DW hl))
 .intro j e' he
  left
  by_cases hj:j∈L
  .obtain ⟨e,h2,h3⟩:=hb j hj e' he
   exact⟨j,e,by simp[hj],h2,h3⟩
  .rw [q j hj] at he;cases he
def JQ (s:BS):AV:=.agg [.I s.1,.sc (.bool s.2)]
open Classical in
def BY (D b:List Int):Int->Option AV:=λ x=>if x∈D then some (if x=0 then .agg [.I (-1),.sc (.bool false)] else JQ (Fo (b.getD x.toNat 0))) else none
theorem qB (b:List Int):BY [0] b=λ x=>if x=0 then some (.agg [.I (-1),.sc (.bool false)]) else none:=by
 funext x
 by_cases h:x=0<;>simp[BY,h]
theorem aY {N:Nat} {A:List Ed} {f D b:List Int} (h:DK N A f D b) {s:BS} (hT:BA A s∉D) (h0:0<=BA A s) (h1:BA A s<N) :
  BY (D++[BA A s]) (b.set (BA A s).toNat (DI s))=λ x=>if x=BA A s then some (JQ s) else BY D b x:=by
 have hb:(BA A s).toNat<b.length:=by rw[h.len];omega
 have q:BA A s≠0:=λ e=>hT (e ▸ h.mem0)
 funext x
 by_cases hx:x=BA A s
 .subst hx
  simp only[BY,Qm,Qv,or_true,UP,if_neg q];rw[Qn,List.getElem?_set_self hb,QZ,Rt]
 .simp only[BY,Qm,Qv,hx,or_false,UA]
  by_cases hD:x∈D
  .have hr:=h.rng x hD
   rw[if_pos hD,if_pos hD,Qn,List.getElem?_set_ne zy,Qn]
  .rw [if_neg hD,if_neg hD]
theorem NZ (D b:List Int) (x:Int):(BY D b x).isSome=decide (x∈D):=by
 by_cases h:x∈D<;>simp[BY,h]
variable {E:Nat->List (List AV)} {L:List Nat} {N:Nat}
abbrev Cv (s:BS):List AV:=[.I s.1,.B s.2]
def Hn (A:List Ed):Nat->Nat->List BS
 | 0,_=>[]
 | i+1,k=>Hn A i k++(if (AQ A i).f=k then [(i,false)] else [])++(if (AQ A i).t=k then [(i,true)] else [])
theorem V0 {A:List Ed} {s:BS} {k:Nat}:∀ {i:Nat},s∈Hn A i k↔s.1<i/\C7 A s=k
 | 0=>by simp[Hn]
 | i+1=>by
   obtain⟨j,c⟩:=s;have ih:=V0 (A:=A) (s:=(j,c)) (k:=k) (i:=i);simp only[Hn,Qm,ih];unfold C7;simp only;constructor
   .rintro ((h | h) | h)
    .exact ⟨zy,h.2⟩
    .split at h
     .rename_i e
      simp at h;obtain⟨rfl,rfl⟩:=h;exact⟨zy,by simpa using e⟩
     .simp at h
    .split at h
     .rename_i e
      simp at h;obtain⟨rfl,rfl⟩:=h;exact⟨zy,by simpa using e⟩
     .simp at h
   .rintro ⟨h1,h2⟩
    rcases Q2.1 h1 with h | h
    .exact .inl (.inl ⟨h,h2⟩)
    .subst h
     cases c
     .have:(AQ A j).f=k:=by simpa using h2
      rw[if_pos this];exact .inl (.inr zz)
     .have:(AQ A j).t=k:=by simpa using h2
      rw[if_pos this];exact .inr zz
theorem OE (A:List Ed) (k:Nat):∀ i,(Hn A i k).length<=2*i
 | 0=>Qf _
 | i+1=>by
   have ih:=OE A k i;simp only[Hn,Qe];split<;>split<;>simp<;>omega
def DM (A:List Ed) (i:Nat):Nat->List (List AV):=λ k=>(Hn A i k).map Cv
theorem T5 (A:List Ed) (i k:Nat):∀ r∈DM A i k,∀ x∈r,∃ v,x = .sc v:=by
 intro r hr x hx;obtain⟨s,_,rfl⟩:=Ql.1 hr;simp only[Cv,Qu,QT,or_false] at hx;rcases hx with rfl | rfl
 .exact ⟨_,rfl⟩
 .exact ⟨_,rfl⟩
theorem u6 (A:List Ed) (i k:Nat):(DM A i k).length<=2*i:=by unfold DM;rw[Qs];exact OE A k i
theorem bW {a:Nat} {row:List AV} (hE:∀ k,∀ r∈E k,∀ x∈r,∃ v,x=AV.sc v) (hr:∀ x∈row,∃ v,x=AV.sc v) (k:Nat):∀ r∈grow E a row k,∀ x∈r,∃ v,x=AV.sc v:=by
 unfold grow;intro r h;split at h
 .rcases Qm.1 h with h | h
  .exact hE a r h
  .rw [Qv.1 h];exact hr
 .exact hE k r h
theorem nP {A:List Ed} {i a b:Nat} (ha:(AQ A i).f=a) (hb:(AQ A i).t=b) (q:a≠b):DM A (i+1)=grow (grow (DM A i) a (Cv (i,false))) b (Cv (i,true)):=by
 funext k
 simp only[DM,Hn,grow,ha,hb,QN,Int.natCast_inj]
 by_cases h1:k=a
 .subst h1
  simp[q,q.symm]
 .by_cases h2:k=b
  .subst h2
   simp[q,h1]
  .have h3:¬ a=k:=λ e=>h1 e.symm
   have h4:¬ b=k:=λ e=>h2 e.symm;simp[h1,h2,h3,h4]
theorem NH (s:BS):∀ x∈Cv s,∃ v,x=AV.sc v:=by
 intro x hx;simp only[Cv,Qu,QT,or_false] at hx;rcases hx with rfl | rfl
 .exact ⟨_,rfl⟩
 .exact ⟨_,rfl⟩
abbrev Lg (N:Nat) (A:List Ed):AV:=.vs 1 false ((List.range N).map λ k=>[.vs 2 false (DM A A.length k)])
theorem Le.slot {np sz n n':Nat} {t t':List (Nat × AV)} {h:List (Nat × Option AD)} (hn:n<=n') (ht:∀ p∈t',(⟨sz,t,h,n⟩:St).get p.1=p.2):Le np ⟨sz,t,h,n⟩ ⟨sz,t',h,n'⟩:=by
 intro T0 M0 w0 T M a w ok q;refine⟨T,M,⟨ok.sz,ok.df,λ i=>?_,ok.hs,λ id g hg=>Nat.lt_of_lt_of_le (ok.dom id g hg) hn,ok.after⟩,QR q hn⟩;show Aj T w M ((AW t' i).getD .dead) _
 cases hl:AW t' i with
 | none=>exact .dead _ _
 | some v =>
   have:=ht _ (DW hl);simp only at this;show Aj T w M v _;rw[<- this];exact ok.tm i
def famS (N:Nat) (L:List Nat):List (Nat × Nat):=(L++Dk N).map λ j=>(j,j)
theorem Jv {j:Nat} (h:j∈L ∨ ∃ k<N,j=k+1000):AW (famS N L) j=some j:=by
 rw[famS,K9 (λ j=>j) (λ i j h=>h) (λ j=>j),if_pos];rcases h with h | ⟨k,h1,rfl⟩
 .simp [h]
 .exact Uo _ (H7.2 zy)
theorem iC {j:Nat} (h:j∉L) (h2:1000+N<=j):AW (famS N L) j=none:=by
 rw[famS,K9 (λ j=>j) (λ i j h=>h) (λ j=>j),if_neg];rw[Qm,not_or];exact⟨h,λ hm=>by have:=H7.1 hm;omega⟩
theorem Zl {sn:List Nat} {h:Nat->Option AD}:(CD N E).map (·.map (conv (famS N L) sn h 4))=CD N E:=by
 conv=>rhs;rw[<- List.map_id (CD N E)]
 refine Ur λ r hr=>?_;obtain⟨k,hk,rfl⟩:=Ql.1 hr;have:=Jv (N:=N) (L:=L) (j:=k+1000) (.inr ⟨k,Q1.1 hk,rfl⟩);simp[D9,this]
theorem Le.famS {np s:Nat} (L sn:List Nat) {st st':St} (h6:st'.sz=st.sz) (hL:L.Nodup) (h1:∀ j∈L,j<1000) (hn:1000+N<=st'.n) (h8:np<=1000) (h7:∀ j∈sn,1000+N<=j) (hE:∀ k<N,∀ r∈E k,∀ x∈r,∃ v,x = .sc v) (hst:∀ k<N,st.hp (k+1000)=some ⟨s,E k,0⟩) (u:∀ k<N,st'.hp (k+1000)=some ⟨s,E k,0⟩) (h0:∀ j,j∉L->(j<1000∨1000+N<=j)->st'.hp j=none) (ht:∀ p∈st'.t,Wk (conv (famS N L) sn st.hp 4 (st.get p.1)) p.2) (hb:∀ j∈L,∀ e',st'.hp j=some e' -> ∃ e,st.hp j=some e/\A7 [] (AX (famS N L) sn st.hp 4 e) e'):Le np st st':=by
 have hid:(Go.Proofs.YtkabgnlcllmleaaGreat.famS N L).map (·.1)=L++Dk N:=by simp[Go.Proofs.YtkabgnlcllmleaaGreat.famS,AC]
 have h4:(Go.Proofs.YtkabgnlcllmleaaGreat.famS N L).map (·.2)=L++Dk N:=by simp[Go.Proofs.YtkabgnlcllmleaaGreat.famS,AC]
 have h5:(L++Dk N).Nodup:=Uf.2 ⟨hL,Iz (λ i j h=>by simpa using h) List.nodup_range,λ x hx y hy e=>by
  have:=h1 x hx;have:=H7.1 hy
  omega⟩
 have q:∀ j,(j,j)∈Go.Proofs.YtkabgnlcllmleaaGreat.famS N L↔j∈L∨j∈Dk N:=λ j=>by simp[Go.Proofs.YtkabgnlcllmleaaGreat.famS]
 refine Le.mk (Go.Proofs.YtkabgnlcllmleaaGreat.famS N L) sn [] h6 (by rw[hid];exact h5) (by rw[h4];exact h5) ?_ zz ?_ zy zz (λ i=>?_) ?_
 .intro p hp
  obtain⟨j,hj,rfl⟩:=Ql.1 hp;rcases Qm.1 hj with h | h
  .have:=h1 j h
   exact⟨by simp only;omega,λ _=>rfl⟩
  .have:=H7.1 h
   exact⟨by simp only;omega,λ _=>rfl⟩
 .intro j hj
  have:=h7 j hj;refine⟨zy,?_⟩
  rw[hid,Qm,not_or];exact⟨λ h=>by have:=h1 j h;omega,λ h=>by have:=H7.1 h;omega⟩
 .unfold St.get at *
  cases hl:AW st'.t i with
  | none=>exact .inl (.dead _)
  | some v=>exact .inl (ht _ (DW hl))
 .intro j e' he
  left
  by_cases hj:j∈L
  .obtain ⟨e,h2,h3⟩:=hb j hj e' he
   exact⟨j,e,(q j).2 (.inl hj),h2,h3⟩
  .by_cases hr:j<1000∨1000+N<=j
   .rw [h0 j hj hr] at he;cases he
   .obtain ⟨k,rfl⟩:∃ k,j=k+1000:=⟨j - 1000,zy⟩
    have hk:k<N:=zy
    rw[u k hk] at he
    cases he;refine⟨k+1000,_,(q _).2 (.inr (H7.2 zy)),hst k hk,?_⟩
    have:AX (Go.Proofs.YtkabgnlcllmleaaGreat.famS N L) sn st.hp 4 ⟨s,E k,0⟩=⟨s,E k,0⟩:=by
     simp only[AX];rw[H8 _ (λ v=>by simp[conv]) _ (hE k hk)]
    rw[this];exact A7.rfl' (Qk _)
variable {A:List Ed} {E:Nat->List (List AV)} {N m n sz:Nat} {f:List Int} {t:List (Nat × AV)}
abbrev oH (N:Nat) (A:List Ed) (m:Nat) (f:List Int) (E:Nat->List (List AV)):List (Nat × Option AD) :=
 Et 2 N E++[(0,some ⟨1,AP f,0⟩),(24,some ⟨4,[[.I 0,.nilS,.nilS,.nilS]],0⟩),(64,some ⟨1,CD N E,0⟩),(80,some ⟨4,[[.I N,BE A,.rs 0 0 m,.rs 64 0 N]],0⟩)]
theorem C4 {i j:Nat} {h:List (Nat × Option AD)} {v:Option AD} (hij:i≠j):(⟨sz,t,(i,v)::h,n⟩:St).hp j=(⟨sz,t,h,n⟩:St).hp j:=by
 rw[LQ,if_neg hij]
theorem Hx {k:Nat} (h:k<N):(⟨sz,t,oH N A m f E,n⟩:St).hp (k+1000)=some ⟨2,E k,0⟩:=cX h
theorem Nd {j:Nat} (hj:j∉[0,24,64,80]) (hr:j<1000∨1000+N<=j):(⟨sz,t,oH N A m f E,n⟩:St).hp j=none:=by
 have q:j≠0/\j≠24/\j≠64/\j≠80:=by simpa using hj
 rcases hr with hr | hr
 .rw [KM hr]
  simp[q.1.symm,q.2.1.symm,q.2.2.1.symm,q.2.2.2.symm]
 .rw [qC hr]
  simp[q.1.symm,q.2.1.symm,q.2.2.1.symm,q.2.2.2.symm]
section
variable {sz n N m:Nat} {t:List (Nat × AV)} {A:List Ed} {f:List Int} {E:Nat->List (List AV)}
theorem Fy:(⟨sz,t,oH N A m f E,n⟩:St).hp 0=some ⟨1,AP f,0⟩:=by rw[KM zy];simp
theorem JX:(⟨sz,t,oH N A m f E,n⟩:St).hp 24=some ⟨4,[[.I 0,.nilS,.nilS,.nilS]],0⟩:=by rw[KM zy];simp
theorem IH:(⟨sz,t,oH N A m f E,n⟩:St).hp 64=some ⟨1,CD N E,0⟩:=by rw[KM zy];simp
theorem H1:(⟨sz,t,oH N A m f E,n⟩:St).hp 80=some ⟨4,[[.I N,BE A,.rs 0 0 m,.rs 64 0 N]],0⟩:=by rw[KM zy];simp
end
theorem Le.oStep {a x y n':Nat} {row:List AV} {t':List (Nat × AV)} {h:List (Nat × Option AD)} (ha:a<N) (hx:1000+N<=x) (hy:1000+N<=y) (h0:x≠y) (hN:N<=900) (u:1000+N<=n') (hE:∀ k,∀ r∈E k,∀ z∈r,∃ v,z = .sc v) (q:∀ z∈row,∃ v,z = .sc v) (hh:h=(64,some ⟨1,(CD N E).set a [.rs x 0 ((E a).length+1)],0⟩)::(x,some ⟨2,E a++[row],0⟩)::(a+1000,none)::(y,some ⟨2,[row],0⟩)::oH N A m f E) (ht:∀ p∈t',Wk (conv (Bq x a N [0,24,64,80]) [] (⟨54,t,h,n⟩:St).hp 4 ((⟨54,t,h,n⟩:St).get p.1)) p.2):Le 1 ⟨54,t,h,n⟩ ⟨54,t',oH N A m f (grow E a row),n'⟩:=by
 have e64:(⟨54,t,h,n⟩:St).hp 64=some ⟨1,(CD N E).set a [.rs x 0 ((E a).length+1)],0⟩:=by rw[hh,LQ,if_pos rfl]
 have e0:(⟨54,t,h,n⟩:St).hp 0=some ⟨1,AP f,0⟩:=by rw[hh,C4 zy,C4 zy,C4 zy,C4 zy,Fy]
 have e24:(⟨54,t,h,n⟩:St).hp 24=some ⟨4,[[.I 0,.nilS,.nilS,.nilS]],0⟩:=by rw[hh,C4 zy,C4 zy,C4 zy,C4 zy,JX]
 have e80:(⟨54,t,h,n⟩:St).hp 80=some ⟨4,[[.I N,BE A,.rs 0 0 m,.rs 64 0 N]],0⟩:=by rw[hh,C4 zy,C4 zy,C4 zy,C4 zy,H1]
 have l0:AW (Bq x a N [0,24,64,80]) 0=some 0:=ID zy (.inl zz)
 have l64:AW (Bq x a N [0,24,64,80]) 64=some 64:=ID zy (.inl zz)
 refine Le.fam (s:=2) (N:=N) (a:=a) (m:=x) (E:=E) (row:=row) [0,24,64,80] rfl ha zx zz hx u zy (λ k _=>hE k) q ?_ ?_ (λ k hk=>Hx hk) (λ j hj hr=>Nd hj hr) ht ?_
 .intro k hk h1
  rw[hh,C4 zy,C4 zy,C4 zy,C4 zy,Hx hk]
 .rw [hh,C4 zy,LQ,if_pos rfl]
 .intro j hj e' he
  simp only[Qu,QT,or_false] at hj;rcases hj with rfl | rfl | rfl | rfl
  .rw [Fy] at he
   cases he;exact⟨_,e0,by simp only[AX];rw[H8 _ (λ v=>by simp[conv]) _ zz];exact A7.rfl' (Qk _)⟩
  .rw [JX] at he
   cases he;exact⟨_,e24,by simp[AX];exact A7.rfl' (Qk _)⟩
  .rw [IH] at he
   cases he;refine⟨_,e64,?_⟩;simp only[AX];rw[Zn ha (.inr hx) rfl];exact A7.rfl' (Qk _)
  .rw [H1] at he
   cases he;refine⟨_,e80,?_⟩;simp[AX,l0,l64];exact A7.rfl' (Qk _)
theorem Xq (N:Nat) (A:List Ed) (f:List Int) (m:Nat) (hn:DS ⟨N,A⟩):AF 105 [eN ⟨N,A⟩,.rs 0 0 m] [⟨1,AP f,0⟩] (.agg [.I N,BE A,.rs 0 0 m,Lg N A]) [some ⟨1,AP f,0⟩]:=by
 refine iJ.s.ai ?_;obtain⟨hm,ho,hq,ha⟩:=hn;simp only at hm ho hq ha;refine ar [1,2,4] [(0,0),(24,24)] [16] 32 ?_;refine Bi ⟨54,[(2,.pv (nC ⟨N,A⟩)),(4,.pt 24 0 0),(5,.pt 80 0 0)],[(0,some ⟨1,AP f,0⟩),(24,some ⟨4,[[.I 0,.nilS,.nilS,.nilS]],0⟩),(64,some ⟨1,(List.range N).map λ _=>[.nilS],0⟩),(80,some ⟨4,[[.I N,BE A,.rs 0 0 m,.rs 64 0 N]],0⟩)],96⟩ ?_ ?_
 .simp [List.map_const']
  refine⟨zy,zy,rfl,?_⟩
  exact DU [(0,0),(24,24),(64,64),(80,80)] []
 refine AB (ar [4,5,15,16,17] [(0,0),(24,24),(64,64),(80,80)] [] 128 ?_);refine AI (An (ι:=Nat) (λ i=>⟨54,[(4,.pt 24 0 0),(5,.pt 80 0 0),(15,BE A),(16,.I A.length),(17,.I i)],oH N A m f (DM A i),2000⟩) (λ i=>i<=A.length) (λ i=>A.length - i) 0 (Qk _) ?_ ?_)
 .refine Le.fam0 (s:=2) (N:=N) (o:=64) [0,24,80] rfl zy zx zz (by simp only;omega) zz IH (λ k hk=>Hx hk) (λ j hj hr=>Nd (by simpa [and_comm,and_left_comm,and_assoc,or_comm,or_left_comm] using hj) hr) zz ?_
  intro j hj e' he;simp only[Qu,QT,or_false] at hj;rcases hj with rfl | rfl | rfl
  .rw [Fy] at he
   cases he;exact⟨⟨1,AP f,0⟩,zz,by simp only[AX];rw[H8 _ (λ v=>by simp[conv]) _ zz];exact A7.rfl' (Qk _)⟩
  .rw [JX] at he
   cases he;exact⟨⟨4,[[.I 0,.nilS,.nilS,.nilS]],0⟩,zz,by simp[AX];exact A7.rfl' (Qk _)⟩
  .rw [H1] at he
   cases he;exact⟨⟨4,[[.I N,BE A,.rs 0 0 m,.rs 64 0 N]],0⟩,zz,by simp[AX];exact A7.rfl' (Qk _)⟩
 intro i hi;refine arc ⟨54,[(4,.pt 24 0 0),(5,.pt 80 0 0),(15,BE A),(16,.I A.length),(17,.I i),(18,.B (decide (i<A.length)))],oH N A m f (DM A i),2008⟩ ?_ ?_
 .simp
  exact Le.slot zy zz
 refine AB (AE _ rfl (λ h5=>?_) λ h5=>?_)
 .simp at h5
  have hs:=w6 (x:=(i:Int)+1);have hb:=ha _ (Qi h5);have h0:AQ A i=A[i]:=by unfold AQ;rw[Qn,Qc h5,QZ]
  obtain⟨e,he⟩:=AJ (A[i]);rw[<- he] at hb h0;obtain⟨q1,q2,q3,q4,q5,_⟩:=hb;obtain⟨a,hc,h3⟩:∃ a:Nat,e.f=a/\a<N:=⟨e.f.toNat,zy,zy⟩
  obtain⟨b,hd,h4⟩:∃ b:Nat,e.t=b/\b<N:=⟨e.t.toNat,zy,zy⟩
  have hf:a≠b:=λ h=>q5 zy
  have u:=nP (A:=A) (i:=i) (a:=a) (b:=b) (by rw[h0];exact hc) (by rw[h0];exact hd) hf
  have h6:=T5 A i;have h8:=λ k=>u6 A i k;obtain⟨E,hE⟩:=AJ (DM A i);rw[<- hE] at u h6 h8 ⊢;refine AG (AB (AI (arc ⟨54,[(4,.pt 24 0 0),(5,.pt 80 0 0),(6,.I i),(7,.pv [.I a,.I b,.I e.v]),(15,BE A),(16,.I A.length),(17,.I i)],oH N A m f E,3000⟩ ?_ ?_)))
  .simp [h5,<- he,hc,hd]
   have l24:AW (famS N [0,24,64,80]) 24=some 24:=Jv (.inl zz)
   have l80:AW (famS N [0,24,64,80]) 80=some 80:=Jv (.inl zz)
   have l0:AW (famS N [0,24,64,80]) 0=some 0:=Jv (.inl zz)
   have l64:AW (famS N [0,24,64,80]) 64=some 64:=Jv (.inl zz)
   have lno:AW (famS N [0,24,64,80]) 2032=none:=iC zz zy
   refine Le.famS (s:=2) (N:=N) (E:=E) [0,24,64,80] [2032] rfl zx zz (by simp only;omega) zy zw (λ k _=>h6 k) ?_ (λ k hk=>Hx hk) (λ j hj hr=>Nd hj hr) ?_ ?_
   .intro k hk
    rw[C4 zy,C4 zy,Hx hk]
   .simp [l24,l80,lno]
   .intro j hj e' q
    simp only[Qu,QT,or_false] at hj;rcases hj with rfl | rfl | rfl | rfl
    .rw [Fy] at q
     cases q;exact⟨_,by rw[C4 zy,C4 zy,Fy],by simp only[AX];rw[H8 _ (λ v=>by simp[conv]) _ zz];exact A7.rfl' (Qk _)⟩
    .rw [JX] at q
     cases q;exact⟨_,by rw[C4 zy,C4 zy,JX],by simp[AX];exact A7.rfl' (Qk _)⟩
    .rw [IH] at q
     cases q;refine⟨_,by rw[C4 zy,C4 zy,IH],?_⟩
     simp only[AX];rw[Zl];exact A7.rfl' (Qk _)
    .rw [H1] at q
     cases q;exact⟨_,by rw[C4 zy,C4 zy,H1],by simp[AX,l0,l64];exact A7.rfl' (Qk _)⟩
  refine Bi ⟨54,[(4,.pt 24 0 0),(5,.pt 80 0 0),(6,.I i),(7,.pv [.I a,.I b,.I e.v]),(15,BE A),(16,.I A.length),(17,.I i)],oH N A m f (grow E a (Cv (i,false))),4000⟩ ?_ ?_
  .have hl:=h8 a
   have h9:¬ a=2096:=zy
   simp[H1,IH,Hx h3,h3,Kh h3,Ks,D9,h9];refine⟨zy,zy,rfl,?_⟩
   have l24:AW (Bq 3104 a N [0,24,64,80]) 24=some 24:=ID zy (.inl zz)
   have l80:AW (Bq 3104 a N [0,24,64,80]) 80=some 80:=ID zy (.inl zz)
   refine Le.oStep (x:=3104) (y:=3096) h3 zy zy zy zy zy h6 (NH _) ?_ ?_
   .simp
   .simp [l24,l80]
  have h7:=bW (a:=a) h6 (NH (i,false))
  have hg:(grow E a (Cv (i,false)) b).length<=2*i:=by
   have:=h8 b;simp only[grow,if_neg hf.symm];exact this
  obtain⟨E1,ht⟩:=AJ (grow E a (Cv (i,false)));rw[<- ht] at h7 hg u ⊢;refine Cx rfl ?_;have h9:¬ b=3096:=zy
  simp[H1,IH,Hx h4,h4,Kh h4,Ks,D9,h9];refine⟨zy,zy,rfl,?_⟩
  refine Ab rfl ?_;simp;have l24:AW (Bq 4104 b N [0,24,64,80]) 24=some 24:=ID zy (.inl zz)
  have l80:AW (Bq 4104 b N [0,24,64,80]) 80=some 80:=ID zy (.inl zz)
  refine⟨i+1,zy,zy,?_⟩
  rw[u];refine Le.oStep (x:=4104) (y:=4096) h4 zy zy zy zy zy h7 (NH _) ?_ ?_
  .simp
  .simp [l24,l80,hs]
 simp at h5;obtain rfl:i=A.length:=zy
 refine Ak (Al (arc ⟨54,[(4,.pt 24 0 0)],[(0,some ⟨1,AP f,0⟩),(24,some ⟨4,[[.I N,BE A,.rs 0 0 m,Lg N A]],0⟩)],5000⟩ ?_ ?_))
 .simp [H1,JX]
  have hu:∀ {h:Nat->Option AD},h 64=some ⟨1,CD N (DM A A.length),0⟩->(∀ k<N,h (k+1000)=some ⟨2,DM A A.length k,0⟩)->conv [(0,0),(24,24)] (64::Dk N) h 4 (.rs 64 0 N)=Lg N A:=λ h1 h2 =>
   nR (λ k _=>T5 A A.length k) zz zz (λ k hk=>by simp[H7];omega) h1 h2
  refine Le.famOut (N:=N) (o:=64) (L:=[0,24]) rfl zx zz zz zz zy zy ?_ ?_ ?_
  .intro j hj
   have hh:j≠0/\j≠24:=by simpa using hj
   simp[hh.1.symm,hh.2.symm]
  .simp
  .intro j hj e' q
   simp only[Qu,QT,or_false] at hj;rcases hj with rfl | rfl
   .simp at q
    subst q;refine⟨_,by rw[C4 zy,Fy],?_⟩
    simp only[AX];rw[H8 _ (λ v=>by simp[conv]) _ zz]
    exact A7.rfl' (Qk _)
   .simp at q
    subst q;refine⟨_,by rw[LQ,if_pos rfl],?_⟩
    refine A7.eq ?_ (Qk _);simp only[AX,QA,Vb];rw[hu (by rw[C4 zy,IH]) (λ k hk=>by rw[C4 zy,Hx hk])]
    simp
 exact BR (AO.k1 rfl zz (by simp[AC]))
variable {rows:List (List AV)} {φ:Int->Option AV}
abbrev rC (N:Nat) (A:List Ed) (f:AV):List AV:=[.I N,BE A,f,Lg N A]
abbrev eR (N:Nat) (A:List Ed) (f:AV):AV:=.agg (rC N A f)
theorem Ry {A:List Ed} {i:Nat} (h:i<A.length):A[i]? = some (AQ A i):=by
 unfold AQ;rw[Qn,Qc h,QZ]
theorem XX (N:Nat) (A:List Ed) (f:List Int) (s:BS) (hn:DS ⟨N,A⟩) (hf:CL A f) (hs:s.1<A.length):AF 162 [eR N A (AA f),.agg (Cv s)] [] (.tup [.I (Ci A f s),.I (BA A s)]) []:=by
 refine nB.s.ai ?_;obtain⟨i,c⟩:=s;simp only at hs;obtain⟨h6,h3⟩:=IA.1 hf;have hA:=Ry hs;have hi:=h3 i hs;have u:=hn.2.2.2 _ (IK hs);have q:i<f.length:=zy
 obtain⟨e,he⟩:=AJ (AQ A i);obtain⟨w,hw⟩:=AJ (f.getD i 0);have hg:f[i]? = some w:=by rw[hw,Qn,Qc q,QZ]
 have hge:A[i]=e:=by rw[Qc hs,<- he] at hA;exact Qh hA
 have h0:f[i]=w:=by rw[Qc q] at hg;exact Qh hg
 rw[<- he] at u;rw[<- hw,<- he] at hi;obtain⟨_,_,_,_,_,_,_,h8,h9⟩:=u;have h5:=w6 (x:=e.v - w);refine ar [2,3] [] [16,24] 48 ?_;apply ax [2,3,6] [] [104] 200
 .simp [hs,hge]
  rfl
 refine AB (rs [2,3,6,15] [] [] ?_);refine AE _ rfl (λ h4=>?_) λ h4=>?_
 .have hc:c=true:=h4
  subst hc;have h1:Ci A f (i,true)=w:=by unfold Ci;simp[hw]
  have h2:BA A (i,true)=e.f:=by unfold BA;simp[he]
  rw[h1,h2];apply ay [4,5] [] [] 400
  .simp [q,h0]
   exact⟨rfl,rfl⟩
  exact B3 [] []
 have hc:c=false:=h4;subst hc;have h1:Ci A f (i,false)=e.v - w:=by unfold Ci;simp[hw,he]
 have h2:BA A (i,false)=e.t:=by unfold BA;simp[he]
 rw[h1,h2];refine AG ?_;apply ay [4,5] [] [] 400
 .simp [q,h0,h5]
  exact⟨rfl,rfl⟩
 exact B3 [] []
theorem Oo:∀ {l:List (Int × AV)} {q:Int × AV},(l.map (·.1)).Nodup->q∈l->DT q.1 (E2 l)=some q.2
 | (k,x)::l,q,hn,h=>by
   rw[QA,Uh] at hn;rw[RG,List.find?_cons];rcases Qu.1 h with rfl | h
   .simp
   .have u:¬ k=q.1:=λ e=>hn.1 (e ▸ Ql.2 ⟨q,h,rfl⟩)
    have ih:=Oo hn.2 h;rw[RG] at ih
    simpa [u] using ih
structure Cg (rows:List (List AV)) (φ:Int->Option AV):Prop where
 is:D8 rows φ
 flat:∀ n x,φ n=some x -> ∃ u v,x = .agg [.sc u,.sc v]
theorem Cg.mem (h:Cg rows φ) {r:List AV} (hr:r∈rows):∃ k u v,r=[.sc k,.agg [.sc u,.sc v]]:=by
 obtain⟨⟨l,rfl,hn,hf⟩,h0⟩:=h;obtain⟨q,hq,rfl⟩:=Ql.1 hr;obtain⟨u,v,e⟩:=h0 q.1 q.2 (by rw[<- hf];exact Oo hn hq)
 exact⟨_,u,v,by rw[e]⟩
theorem Cg.conv (h:Cg rows φ) (ρ:List (Nat × Nat)) (sn:List Nat) (g:Nat->Option AD):rows.map (·.map (conv ρ sn g 4))=rows:=by
 conv=>rhs;rw[<- List.map_id rows]
 refine Ur λ r hr=>?_;obtain⟨k,u,v,rfl⟩:=h.mem hr;simp
theorem Cg.conv' (h:Cg rows φ) (ρ:List (Nat × Nat)) (sn:List Nat) (g:Nat->Option AD):rows.map (List.map (Go.Proofs.YtkabgnlcllmleaaGreat.conv ρ sn g 4))=rows:=h.conv ρ sn g
theorem Cg.plain (h:Cg rows φ) (s ro:Nat):GB ⟨s,rows,ro⟩:=by
 intro r hr x hx;obtain⟨k,u,v,rfl⟩:=h.mem hr;simp only[Qu,QT,or_false] at hx;rcases hx with rfl | rfl
 .exact .sc _
 .refine .agg _ λ i=>?_
  match i with
  | 0=>exact .sc _
  | 1=>exact .sc _
  | i+2=>exact .dead
theorem Jt (D b:List Int) (n:Int) (x:AV) (h:BY D b n=some x):∃ u v,x = .agg [.sc u,.sc v]:=by
 unfold BY at h;split at h
 .split at h
  .cases h;exact⟨_,_,rfl⟩
  .cases h;exact⟨_,_,rfl⟩
 .cases h
theorem Cg.set {D b D' b':List Int} (h:Cg rows (BY D b)) (n:Int) (y:AV) (he:BY D' b'=λ k=>if k=n then some y else BY D b k):Cg (Bb n y rows) (BY D' b') :=
 ⟨by rw[he];exact h.is.set n y,Jt D' b'⟩
theorem jB {N:Nat} {A:List Ed} (hn:DS ⟨N,A⟩) {s:BS} (hs:s.1<A.length):0<=BA A s/\BA A s<N:=by
 have:HL N (AQ A s.1):=hn.2.2.2 _ (IK hs);obtain⟨q1,q2,q3,q4,_⟩:=this;unfold BA;split<;>omega
variable {rows:List (List AV)} {φ:Int->Option AV}
structure FB (rows:List (List AV)) (φ:Int->Option AV):Prop where
 is:D8 rows φ
 flat:∀ n x,φ n=some x -> ∃ v,x = .sc v
theorem FB.mem (h:FB rows φ) {r:List AV} (hr:r∈rows):∃ k v,r=[.sc k,.sc v]:=by
 obtain⟨⟨l,rfl,hn,hf⟩,u⟩:=h;obtain⟨q,hq,rfl⟩:=Ql.1 hr;obtain⟨v,e⟩:=u q.1 q.2 (by rw[<- hf];exact Oo hn hq)
 exact⟨_,v,by rw[e]⟩
theorem FB.conv' (h:FB rows φ) (ρ:List (Nat × Nat)) (sn:List Nat) (g:Nat->Option AD):rows.map (List.map (Go.Proofs.YtkabgnlcllmleaaGreat.conv ρ sn g 4))=rows:=by
 conv=>rhs;rw[<- List.map_id rows]
 refine Ur λ r hr=>?_;obtain⟨k,v,rfl⟩:=h.mem hr;simp
theorem FB.set {ψ:Int->Option AV} (h:FB rows φ) (n v:Int) (he:ψ=λ k=>if k=n then some (.I v) else φ k):FB (Bb n (.I v) rows) ψ:=by
 subst he;refine⟨h.is.set n (.I v),λ k x hx=>?_⟩;split at hx
 .cases hx;exact⟨_,rfl⟩
 .exact h.flat k x hx
theorem Pz (S:Int->Bool):∀ A:List Ed,Ba S A=(A.map λ e=>if S e.f=true/\S e.t=false then e.v else 0).sum
 | []=>rfl
 | e::A=>by
   have ih:=Pz S A;unfold Ba at ih ⊢;simp only[QA,Ap,List.sum_cons];rw[ih]
theorem Lb {α:Type} {h:α->Int}:∀ {l:List α},(∀ x∈l,h x=0)->(l.map h).sum=0
 | [],_=>rfl
 | x::l,hx=>by
   rw[QA,List.sum_cons,hx x (Qo ..),Lb λ y hy=>hx y (Qj _ hy)];rfl
theorem Sn {α:Type} {h:α->Int}:∀ {l:List α},(∀ x∈l,h x<=1)->(l.map h).sum<=l.length
 | [],_=>Int.le_refl _
 | x::l,hx=>by
   have ih:=Sn (l:=l) λ y hy=>hx y (Qj _ hy);have h1:=hx x (Qo ..);rw[QA,List.sum_cons,QS];omega
theorem Kx {g:Gr} {p:A9} {ks:List Int} (hg:AH g) (hp:CI g.size p) (hk:∀ x∈ks,0<=x/\x<g.size):Co (A8 g) (Av g p ks)<=ks.length:=by
 have q:=Kl hg hp hk;obtain⟨f,hf,hv⟩:=S4 q;rw[<- hv];refine Int.le_trans (Kr (S:=λ x=>decide (x≠1)) q hf zz zz) ?_
 rw[Pz];simp only[Av,Df,QN,List.sum_append,Us];have u:=Ob hg p.lv;rw[Lb,Lb,Lb (l:=(Ao g p.lv).edges.filter _)]
 .have h1:=Sn (h:=(λ e:Ed=>if (decide (e.f≠1))=true/\(decide (e.t≠1))=false then e.v else 0)∘λ x:Int=>(⟨2+2*x,1,1⟩:Ed)) (l:=ks.filter λ x=>decide (0<(Bk g p).getD x.toNat 0)) λ x _=>by
   simp only[Function.comp];split<;>omega
  have h2:=QV (λ x=>decide (0<(Bk g p).getD x.toNat 0)) ks;omega
 .intro e he
  have:=u.2 e (QF.1 he).1;simp only[Function.comp];rw[if_neg];simp;omega
 .intro i _
  simp only[Function.comp];rw[if_neg];simp;omega
 .intro x _
  simp only[Function.comp];rw[if_neg];simp;omega
theorem bA {N:Nat} {A:List Ed} {f:List Int} (hn:Ds N A):Cl A f 0=Ai A f:=by
 unfold Cl Ai;rw[PF hn];omega
def Tz (g:Gr) (p:A9) (ks:List Int) (W:List (List Nat)):Prop :=
 ∃ f g',FS g p (Az ks) f/\JF (A8 g) (Av g p (Az ks)) f g' W/\(W.length:Int)=Co (A8 g) (Av g p (Az ks)) /\ ∀ w∈W,w.length<=130
def Fk (o acc:List Int) (i:Nat):List Int:=(o.take i).filter λ k=>decide (k∈acc)
theorem vA {o acc:List Int} {i:Nat} (h:i<o.length):Fk o acc (i+1)=Fk o acc i++if o[i]∈acc then [o[i]] else []:=by
 unfold Fk;rw[Qp h,Uz];simp only[List.filter_cons,List.filter_nil,Qa]
structure Dn (g:Gr) (p:A9) (o:List Int) (key:Int) (x:Fr):Prop where
 key_:x.key=key
 bef:∃ i,∃ h:i<o.length,o[i]=key/\x.before=Fk o (Aa g p o) i
 yes:key∈Aa g p o->x.acc=true/\x.side=[] /\ ∃ W,Tz g p (x.before++[key]) W/\x.paths=W.map (C5 (Av g p (Az (x.before++[key]))))
 no:key∉Aa g p o->x.acc=false/\x.paths=[] /\ ∃ R,Hb g p o R/\(key,x.side)∈R
def Be (A:List Ed) (f:List Int) (i:Nat) (x:Int):Int:=- EA A f i x
variable {N:Nat} {A:List Ed} {f:List Int}
theorem Zc (hl:f.length=A.length) (x:Int):Be A f A.length x=Cl A f x:=by
 unfold Be;rw[uV hl];omega
theorem V5 (hn:DS ⟨N,A⟩) (h0:f.length=A.length) (h6:∀ j (h:j<f.length),0<=f[j]/\f[j]<=1048576):AF 110 [eN ⟨N,A⟩,AA f] [] (.rs 0 0 N) [some ⟨1,AP (BX N (Cl A f)),0⟩]:=by
 refine qY.s.ai ?_;obtain⟨hk,hl,hm,h7⟩:=hn;simp only at hk hl hm h7;have ho:=Vq h0 h6;refine rs [1,2] [] [16] ?_;refine arc ⟨43,[(1,AA f),(2,.pv (nC ⟨N,A⟩)),(5,.rs 48 0 N)],[(48,some ⟨1,AP (BX N (Be A f 0)),0⟩)],64⟩ ?_ ?_
 .simp
  refine⟨zy,zy,?_⟩
  have:BX N (Be A f 0)=List.replicate N 0:=by
   unfold BX Be;simp only[Yx];simp[List.map_const']
  rw[this];exact CK [(48,48)] []
 refine AB (BM ⟨43,[(1,AA f),(5,.rs 48 0 N),(12,BE A),(13,.I A.length),(14,.I 0)],[(48,some ⟨1,AP (BX N (Be A f 0)),0⟩)],96⟩ [(48,48)] [] ?_);refine AI (An (ι:=Nat) (λ i=>⟨43,[(1,AA f),(5,.rs 48 0 N),(12,BE A),(13,.I A.length),(14,.I i)],[(48,some ⟨1,AP (BX N (Be A f i)),0⟩)],96⟩) (λ i=>i<=A.length) (λ i=>A.length - i) 0 (Qk _) (DU [(48,48)] []) ?_);intro i hi;refine BM ⟨43,[(1,AA f),(5,.rs 48 0 N),(12,BE A),(13,.I A.length),(14,.I i),(15,.B (decide (i<A.length)))],[(48,some ⟨1,AP (BX N (Be A f i)),0⟩)],104⟩ [(48,48)] [] ?_;refine AB (AE _ rfl (λ h5=>?_) λ h5=>?_)
 .simp at h5
  have h8:i<f.length:=zy
  have hq:=w6 (x:=(i:Int)+1);obtain⟨b1,b3⟩:=h6 i h8;have h9:=h7 _ (Qi h5);have u:=Xw h5 h8;have ha:=λ x=>ho x i zy
  obtain⟨e,he⟩:=AJ (A[i]);obtain⟨w,hw⟩:=AJ (f[i]);rw[<- he,<- hw] at u;rw[<- hw] at b1 b3;rw[<- he] at h9;obtain⟨e1,e2,e3,e4,e5,_⟩:=h9;have hu:A[i]? = some e:=by rw[Qc h5,he]
  have hv:f[i]? = some w:=by rw[Qc h8,hw]
  have hb:e.f<(N:Int)/\e.t<(N:Int):=zy
  have h1:=ha e.f;have h2:=ha e.t;have hr:IntKind.i64.wrap (Be A f i e.f+w)=Be A f i e.f+w:=I4 (by unfold Be;omega) (by unfold Be;omega)
  have hs:IntKind.i64.wrap (Be A f i e.t - w)=Be A f i e.t - w:=I4 (by unfold Be;omega) (by unfold Be;omega)
  have ht:=KZ (N:=N) (g:=Be A f i) (x:=e.f) e1 zy
  have hc:=Wh (N:=N) (g:=Be A f i) (x:=e.f) (v:=Be A f i e.f+w) e1 zy
  obtain⟨g1,q⟩:∃ g1:Int->Int,g1=λ y=>if y=e.f then Be A f i e.f+w else Be A f i y:=⟨_,rfl⟩
  rw[<- q] at hc;have hd:g1 e.t=Be A f i e.t:=by rw[q];exact if_neg λ h=>e5 h.symm
  have hf:=KZ (N:=N) (g:=g1) (x:=e.t) e3 zy
  rw[hd] at hf;have hg:=Wh (N:=N) (g:=g1) (x:=e.t) (v:=Be A f i e.t - w) e3 zy
  have hh:(BX N λ y=>if y=e.t then Be A f i e.t - w else g1 y)=BX N (Be A f (i+1)):=Tp λ x=>by
   unfold Be at q ⊢;rw[u,q];simp only
   by_cases h3:x=e.t
   .rw [h3,if_pos rfl,if_pos rfl,if_neg e5]
    omega
   .by_cases h4:x=e.f
    .rw [if_neg h3,if_pos h4,if_neg λ h=>h3 h.symm,if_pos h4.symm,h4]
     omega
    .rw [if_neg h3,if_neg h4,if_neg λ h=>h3 h.symm,if_neg λ h=>h4 h.symm]
     omega
  rw[hh] at hg;refine AG (AB (AI (arc ⟨43,[(1,AA f),(5,.rs 48 0 N),(6,.I i),(7,.pv (eC e)),(12,BE A),(13,.I A.length),(14,.I i)],[(48,some ⟨1,AP (BX N (Be A f i)),0⟩)],152⟩ ?_ ?_)))
  .simp [h5,<- he]
   exact DU [(48,48)] [128]
  refine Bi ⟨43,[(1,AA f),(5,.rs 48 0 N),(6,.I i),(7,.pv (eC e)),(12,BE A),(13,.I A.length),(14,.I i)],[(48,some ⟨1,AP (BX N g1),0⟩)],400⟩ ?_ ?_
  .simp [h8,<- hw,ht,e1,hb,hr,Ae]
   exact⟨rfl,AN [(48,48)] [] zz (by simp[AC,<- hc])⟩
  refine Cx rfl ?_;simp[h8,<- hw,hf,e3,hb,hs,Ae];refine⟨rfl,?_⟩;refine Ab rfl ?_;simp;exact⟨i+1,zy,zy,AN [(48,48)] [] (by simp[hq]) (by simp[AC,<- hg])⟩
 simp at h5;obtain rfl:i=A.length:=zy
 refine Ak (Al ?_);have hj:BX N (Be A f A.length)=BX N (Cl A f):=Tp λ x=>Zc h0 x;rw[hj];refine BM ⟨43,[(4,.rs 48 0 N)],[(48,some ⟨1,AP (BX N (Cl A f)),0⟩)],200⟩ [(48,48)] [] ?_;exact B3 [48] []
def Kv (A:List Ed) (f:List Int) (i:Nat):Prop:=0<=f.getD i 0/\f.getD i 0<=(AQ A i).v
theorem L8:BQ N A f↔f.length=A.length/\(∀ i,i<A.length->Kv A f i) /\ ∀ x:Nat,2<=x->x<N->Cl A f x=0:=by
 constructor
 .intro h
  have h1:=IA.1 h.fit;exact⟨h1.1,h1.2,λ x h2 h3=>by have:=h.bal x h2 h3;unfold Cl;omega⟩
 .rintro ⟨h1,h2,h3⟩
  exact⟨IA.2 ⟨h1,h2⟩,λ x h4 h5=>by have:=h3 x h4 h5;unfold Cl at this;omega⟩
theorem vU (g:Int->Int) (N:Nat):((BX N g).drop 2).any (λ x=>!decide (x=0))=true↔¬ ∀ x:Nat,2<=x->x<N->g x=0:=by
 rw[UC];constructor
 .rintro ⟨y,hy,h⟩ q
  obtain⟨j,hj,rfl⟩:=Qt.1 hy;rw[QY,IX] at hj;have:=q (2+j) zy zy
  simp[BX] at h;exact h (by simpa using this)
 .intro h
  obtain⟨x,hx⟩:=Classical.not_forall.1 h;obtain⟨h1,hx⟩:=Classical.not_imp.1 hx;obtain⟨h2,hx⟩:=Classical.not_imp.1 hx;refine⟨g x,Qt.2 ⟨x - 2,by rw[QY,IX];omega,?_⟩,by simpa using hx⟩
  simp[BX,show 2+(x - 2)=x by omega]
theorem tF (x:Int):AF 111 [.I x] [] (.B (!decide (x=0))) []:=by
 refine iV.s.ai ?_;refine rs [0] [] [] ?_;refine arc ⟨5,[(2,.B (!decide (x=0)))],[],100⟩ ?_ ?_
 .simp
  exact AN [] [] (by simp<;>exact A0 (by rw[Qg];simp))
 exact Bg
open Classical in
theorem Yy (hn:DS ⟨N,A⟩) (hl:f.length<=1099511627776):AF 56 [eN ⟨N,A⟩,AA f] [] (.B (decide (BQ N A f))) []:=by
 refine jP.s.ai ?_;have h0:=P3 ⟨N,A⟩ (by have:=hn.2.2.1;simp only at this ⊢;omega)
 rw[if_pos hn] at h0;have hd:=hn;obtain⟨hf,hg,hh,h8⟩:=hn;simp only at hf hg hh h8;refine rs [1,2] [] [16] ?_;refine AB (arc ⟨41,[(1,AA f),(2,.pv (nC ⟨N,A⟩)),(17,.B (!decide (f.length=A.length)))],[],120⟩ ?_ ?_)
 .simp
  refine Au h0 ?_;simp;exact AN [] [] (by simp<;>exact A0 (by rw[Qg];simp<;>omega))
 refine AE _ rfl (λ h3=>?_) λ h3=>?_
 .simp at h3
  refine rs [4] [] [] ?_;refine Am ?_;have h5:¬ BQ N A f:=λ h=>h3 (L8.1 h).1;exact⟨.inr rfl,AO.one (by simp[h5])⟩
 simp at h3;refine AG (AB (rs [1,2,19,20,21] [] [] ?_));refine AI (An (ι:=Nat) (λ i=>⟨41,[(1,AA f),(2,.pv (nC ⟨N,A⟩)),(19,BE A),(20,.I A.length),(21,.I i)],[],152⟩) (λ i=>i<=A.length /\ ∀ k,k<i->Kv A f k) (λ i=>A.length - i) 0 zz (CK [] []) ?_)
 rintro i ⟨hi,hp⟩
 refine rs [1,2,19,20,21,22] [] [] ?_;refine AB (AE _ rfl (λ h7=>?_) λ h7=>?_)
 .simp at h7
  have hm:=w6 (x:=(i:Int)+1);have h9:i<f.length:=zy
  obtain⟨e,he⟩:=AJ (A[i]);obtain⟨w,hw⟩:=AJ (f[i])
  have ha:Kv A f i↔0<=w/\w<=e.v:=by
   unfold Kv AQ;rw[Qn,Qc h9,QZ,Qn,Qc h7,QZ,he,hw]
  refine AG (AB (AI ?_));apply ax [1,2,5,6,19,20,21] [] [184] 300
  .simp [h7,<- he]
   rfl
  refine Bi ⟨41,[(1,AA f),(2,.pv (nC ⟨N,A⟩)),(19,BE A),(20,.I A.length),(21,.I i),(33,.B (!decide (0<=w/\w<=e.v)))],[],400⟩ ?_ ?_
  .simp [h9,<- hw]
   refine Au (Dw w 0 e.v) ?_;simp;exact⟨rfl,AN [] [] (by simp<;>exact A0 (by rw[Qg];simp))⟩
  refine AE _ rfl (λ h6=>?_) λ h6=>?_
  .have q:¬ (0<=w/\w<=e.v):=by simp at h6;omega
   refine rs [4] [] [] ?_;refine Am ?_;have h5:¬ BQ N A f:=λ h=>q (ha.1 ((L8.1 h).2.1 i h7));exact⟨.inr rfl,AO.one (by simp[h5])⟩
  have q:0<=w/\w<=e.v:=by simpa using h6
  refine AG (Ab rfl ?_);simp;refine⟨i+1,⟨zy,λ k hk=>?_⟩,zy,AN [] [] (by simp[hm])⟩
  rcases Q2.1 hk with h | h
  .exact hp k h
  .rw [h];exact ha.2 q
 simp at h7;obtain rfl:i=A.length:=zy
 have ho:∀ j (h:j<f.length),0<=f[j]/\f[j]<=1048576:=λ j hj=>by
  have h1:=hp j zy
  unfold Kv at h1;have e1:f.getD j 0=f[j]:=by rw[Qn,Qc hj,QZ]
  have e2:AQ A j=A[j]' zy:=by unfold AQ;rw[Qn,Qc zy,QZ]
  rw[e1,e2] at h1;have h2:=(h8 _ (Qi (show j<A.length by omega))).2.2.2.2.2.2.2.2
  omega
 refine Ak (Al ?_);have h4:=V5 hd h3 ho;have hcf:=VG 111 [] (λ x=>!decide (x=0)) ((BX N (Cl A f)).drop 2) (by rw[QY,IX];omega) (λ ρ sn h k=>zz) (λ e _=>tF e)
 have u:BQ N A f↔((BX N (Cl A f)).drop 2).any (λ x=>!decide (x=0))=false:=by
  rw[<- Bool.not_eq_true,vU,Classical.not_not,L8];exact⟨λ h=>h.2.2,λ h=>⟨h3,hp,h⟩⟩
 obtain⟨l,hc⟩:=AJ (BX N (Cl A f));have hq:l.length=N:=by rw[hc,IX]
 rw[<- hc] at h4 hcf u;obtain⟨b,hb⟩:=AJ ((l.drop 2).any (λ x=>!decide (x=0)));rw[<- hb] at hcf u;apply ax [4] [] [] 300
 .simp
  refine C3 h4 ?_;simp;refine XJ 2 (i:=176) rfl rfl zy ?_
  simp;have hr:2+(N - 2)<=N:=zy
  refine FZ [176] hcf (by simp[AC,hq,hr];exact Qd zw) (.sc _) ?_
  simp;rfl
 exact BR (AO.one (by simp[u]))
open Classical in
theorem Wv (hn:DS ⟨N,A⟩) (hl:f.length<=1099511627776):AF 57 [eN ⟨N,A⟩,AA f] [] (.I (if BQ N A f then Ai A f else 0)) []:=by
 refine qG.s.ai ?_;have h4:=Yy hn hl;refine rs [1,2] [] [16] ?_;refine AB (rx (s:=?s2) [1,2,8] [] [] rfl ?o2 ?q2)
 case o2=>simp;refine Ah h4 zz ?_;simp;rfl
 refine AE _ rfl (λ h3=>?_) λ h3=>?_
 .simp at h3
  refine rs [4] [] [] ?_;exact BR (AO.one (by simp[h3]))
 simp at h3;have u:=IA.1 h3.fit;have h0:=hn.2.2.2;simp only at h0
 have h5:∀ j (h:j<f.length),0<=f[j]/\f[j]<=1048576:=λ j hj=>by
  have h1:=u.2 j zy
  have e1:f.getD j 0=f[j]:=by rw[Qn,Qc hj,QZ]
  have e2:AQ A j=A[j]' zy:=by unfold AQ;rw[Qn,Qc zy,QZ]
  rw[e1,e2] at h1;have h2:=(h0 _ (Qi (show j<A.length by omega))).2.2.2.2.2.2.2.2
  omega
 have q:=V5 hn u.1 h5;have hv:=bA (f:=f) (Jl hn);have h6:=hn.1;simp only at h6;have hr:=KZ (N:=N) (g:=Cl A f) (x:=0) (Int.le_refl _) zy
 rw[hv] at hr;obtain⟨l,h7⟩:=AJ (BX N (Cl A f));rw[<- h7] at q hr;simp only[Int.toNat_zero] at hr;refine AG (arc ⟨14,[(4,.I (Ai A f))],[],300⟩ ?_ ?_)
 .simp
  refine C3 q ?_;have h8:0<(N:Int):=zy
  simp[hr,h8];exact⟨zy,CK [] []⟩
 exact BR (AO.one (by simp[h3]))
structure VS where
 s:OX
 R:List (List AV)
 m:Nat
 i:Nat
def J8 (A:List Ed) (f D:List Int) (l:List BS):Prop:=∀ s∈l,0<Ci A f s->BA A s∈D
theorem J8.nil {A:List Ed} {f D:List Int}:J8 A f D []:=λ s h=>by simp at h
theorem YY (N:Nat) (A:List Ed) (f:List Int) (hn:DS ⟨N,A⟩) (hf:CL A f) :
  ∃ x:List Int × List Int × List (List AV),(DK N A f x.1 x.2.1/\Hy A f x.1/\Cg x.2.2 (BY x.1 x.2.1))/\AF 106 [eR N A (AA f)] [] (.mp 0) [some ⟨0,x.2.2,0⟩]:=by
 refine mO.s.acallsX (args:=[eR N A (AA f)]) (hs:=[]) (λ x=>.mp 0) (λ x=>[some ⟨0,x.2.2,0⟩]) (λ x:List Int × List Int × List (List AV)=>DK N A f x.1 x.2.1/\Hy A f x.1/\Cg x.2.2 (BY x.1 x.2.1)) (Ar rfl) (Ar rfl) (λ _=>zz) ?_
 show AY _ 0 _ _ ⟨59,[(0,eR N A (AA f))],[],16⟩;have hj:=λ s hs=>XX N A f s hn hf hs;have hx:=λ (s:BS) (hs:s.1<A.length)=>jB hn hs;obtain⟨ai,am,an,aq⟩:=hn;simp only at ai am an aq;have hl:Cg ([[.I 0,.agg [.I (-1),.B false]]]) (BY [0] (List.replicate N 0)):=⟨by rw[qB];exact D8.nil.set 0 (.agg [.I (-1),.B false]),Jt _ _⟩
 refine ar [1] [] [16] 32 ?_;apply ax [1,3] [(32,32)] [] 72
 .simp [Bb]
  rfl
 obtain⟨R0,hy⟩:∃ R0:List (List AV),R0=[[.I 0,.agg [.I (-1),.B false]]]:=⟨_,rfl⟩;rw[<- hy] at hl ⊢;refine AB (ar [1,3,4] [(32,32),(72,72)] [] 88 ?_);refine AI ?_
 refine An (ι:=VS) (λ t=>⟨59,[(1,.pv (rC N A (AA f))),(3,.mp 32),(4,.rs 72 t.s.off t.s.q)],[(32,some ⟨0,t.R,0⟩),(72,some ⟨1,AP t.s.Z,0⟩)],88⟩)
  (λ t=>EE N A f t.s t.m/\Ig A f t.s.D t.m/\Cg t.R (BY t.s.D t.s.b)) (λ t=>N - t.m) ⟨⟨[0],List.replicate N 0,[0],0,1⟩,R0,0,0⟩
  ⟨⟨DK.start zy,rfl,rfl,rfl⟩,λ s _ h=>by simp at h,hl⟩ (AN [(32,32),(72,72)] [] zz (by simp[hl.conv'])) ?_
 rintro⟨s,R,m,_⟩ ⟨hb,hd,hR⟩
 simp only at hb hd hR;have b4:=hb.bfs.few;have b7:=hb.d;have b8:=hb.z;refine AB (ar [1,3,4,17] [(32,32),(72,72)] [] 112 ?_);refine AE _ rfl (λ h5=>?_) λ h5=>?_
 .simp at h5
  obtain⟨he,hk⟩:=hb.head h5;have b5:s.off<s.Z.length:=zy
  obtain⟨k,hm⟩:=AJ (s.D[m]);rw[<- hm] at hk;have hz:k∈s.D:=hm ▸ Qi he;have b9:=hb.bfs.rng k hz;obtain⟨kn,a0,a1⟩:∃ kn:Nat,k=kn/\kn<N:=⟨k.toNat,zy,zy⟩
  obtain⟨L,hL⟩:=AJ (Hn A A.length kn);have a2:∀ st:BS,st∈L↔st.1<A.length/\C7 A st=k:=λ st=>by rw[hL,a0];exact V0
  have bb:L.length<=2*A.length:=by rw[hL];exact OE A kn A.length
  have a3:DM A A.length kn=L.map Cv:=by rw[hL];rfl
  refine AG (AB (AI (Bi ⟨59,[(1,.pv (rC N A (AA f))),(3,.mp 32),(4,.rs 72 s.off s.q),(26,.vs 2 false (L.map Cv)),(27,.I L.length),(28,.I 0)],[(32,some ⟨0,R,0⟩),(72,some ⟨1,AP s.Z,0⟩)],184⟩ ?_ ?_)))
  .simp [hk,h5,a0,a1,a3]
   exact⟨rfl,AN [(32,32),(72,72)] [] (by simp[a3]) (by simp[hR.conv',AC])⟩
  refine AI ?_
  refine An (ι:=VS) (λ t=>⟨59,[(1,.pv (rC N A (AA f))),(3,.mp 32),(4,.rs 72 t.s.off t.s.q),(26,.vs 2 false (L.map Cv)),(27,.I L.length),(28,.I t.i)],[(32,some ⟨0,t.R,0⟩),(72,some ⟨1,AP t.s.Z,0⟩)],184⟩)
   (λ t=>EE N A f t.s m/\Cg t.R (BY t.s.D t.s.b)/\t.i<=L.length/\J8 A f t.s.D (L.take t.i) /\ ∃ l,t.s.D=s.D++l) (λ t=>L.length - t.i) ⟨s,R,m,0⟩
   ⟨hb,hR,Qk _,by rw[List.take_zero];exact J8.nil,[],zz⟩ (AN [(32,32),(72,72)] [] zz (by simp[hR.conv',AC])) ?_
  rintro⟨t,R,_,i⟩ ⟨ht,hR,hi,ho,l,h6⟩
  simp only at ht hR hi ho h6;have bo:=ht.z;have bp:=ht.d;have bs:=ht.bfs.few;refine ar [1,3,4,26,27,28,29] [(32,32),(72,72)] [] 192 ?_;refine AB (AE _ rfl (λ h8=>?_) λ h8=>?_)
  .simp at h8
   have hw:=w6 (x:=(i:Int)+1);obtain⟨st,hst⟩:=AJ (L[i]);obtain⟨hu,au⟩:=(a2 st).1 (hst ▸ Qi h8);have a4:=hj st hu;obtain⟨a5,a6⟩:=hx st hu;have h7:=λ (h1:0<Ci A f st) (h2:BA A st∉t.D)=>ht.bfs.push (s:=st) hu (by rw[au,h6];exact Q4 _ hz) h1 h2 a5 a6
   have hh:=λ (h2:BA A st∉t.D)=>aY ht.bfs h2 a5 a6;have h9:=NZ t.D t.b (BA A st);have ha:=hR.is.find (BA A st)
   have h0:∀ D',(∃ l,D'=t.D++l)->BA A st∈D'∨¬ 0<Ci A f st->J8 A f D' (L.take (i+1)):=λ D' av h s' hs' hr=>by
    rw[Qp h8,<- hst] at hs';obtain⟨l',rfl⟩:=av;rcases Qm.1 hs' with h' | h'
    .exact Q4 _ (ho s' h' hr)
    .rw [Qv] at h'
     subst h';exact h.resolve_right λ hn=>hn hr
   obtain⟨T,hT⟩:=AJ (BA A st);obtain⟨rm,a7⟩:=AJ (Ci A f st);rw[<- hT,<- a7] at a4 h7 h0;rw[<- hT] at hh h9 ha;refine AG (AB (AI (arc ⟨59,[(1,.pv (rC N A (AA f))),(3,.mp 32),(4,.rs 72 t.off t.q),(6,.pv (Cv st)),(26,.vs 2 false (L.map Cv)),(27,.I L.length),(28,.I i)],[(32,some ⟨0,R,0⟩),(72,some ⟨1,AP t.Z,0⟩)],232⟩ ?_ ?_)))
   .simp [h8,<- hst]
    exact AN [(32,32),(72,72)] [208] zz (by simp[hR.conv',AC])
   refine arc ⟨59,[(1,.pv (rC N A (AA f))),(3,.mp 32),(4,.rs 72 t.off t.q),(6,.pv (Cv st)),(7,.I rm),(8,.I T),(26,.vs 2 false (L.map Cv)),(27,.I L.length),(28,.I i)],[(32,some ⟨0,R,0⟩),(72,some ⟨1,AP t.Z,0⟩)],300⟩ ?_ ?_
   .simp
    refine Au a4 ?_;simp;exact AN [(32,32),(72,72)] [] zz (by simp[hR.conv',AC])
   refine arc ⟨59,[(1,.pv (rC N A (AA f))),(3,.mp 32),(4,.rs 72 t.off t.q),(6,.pv (Cv st)),(7,.I rm),(8,.I T),(10,.B (decide (T∈t.D))),(26,.vs 2 false (L.map Cv)),(27,.I L.length),(28,.I i)],[(32,some ⟨0,R,0⟩),(72,some ⟨1,AP t.Z,0⟩)],400⟩ ?_ ?_
   .have b0:∃ u v,(BY t.D t.b T).getD (Cc (Value.agg #[Value.int IntKind.i64 0,Value.bool false])) = .agg [.sc u,.sc v]:=by
     cases hc:BY t.D t.b T with
     | none=>exact⟨.int .i64 0,.bool false,by simp[Cc,Value.oneCell']⟩
     | some x =>
       obtain⟨u,v,rfl⟩:=Jt _ _ _ _ hc;exact⟨u,v,rfl⟩
    obtain⟨u,v,b1⟩:=b0;simp[ha,h9,b1];exact AN [(32,32),(72,72)] [] zz (by simp[hR.conv',AC])
   refine arc ⟨59,[(1,.pv (rC N A (AA f))),(3,.mp 32),(4,.rs 72 t.off t.q),(6,.pv (Cv st)),(8,.I T),(26,.vs 2 false (L.map Cv)),(27,.I L.length),(28,.I i),(49,.B (decide (0<rm/\T∉t.D)))],[(32,some ⟨0,R,0⟩),(72,some ⟨1,AP t.Z,0⟩)],500⟩ ?_ ?_
   .simp
    refine DC (λ hb=>?_) (λ hb=>?_)<;>(try rw[hb])<;>(try simp at hb)<;>simp[hb]
    .exact AN [(32,32),(72,72)] [] (by simp[hb]) (by simp[hR.conv',AC])
    .exact AN [(32,32),(72,72)] [] (by simp[hb]) (by simp[hR.conv',AC])
   refine AE _ rfl (λ h4=>?_) λ h4=>?_
   .rw [Qa] at h4
    have a8:=h7 h4.1 h4.2;have hg:=hR.set T (JQ st) (hh h4.2);have hv:=ht.more a8;have b2:=a8.few;rw[Qe,Q8] at b2;have b3:∀ g:Int->List AV,List.take t.q (List.drop t.off (List.map g t.Z))=List.map g (t.Z.drop t.off):=λ g=>by rw[<- UI,Qd zw]
    obtain⟨R',a9⟩:∃ R',R'=Bb T (JQ st) R:=⟨_,rfl⟩;rw[<- a9] at hg;refine arc ⟨59,[(1,.pv (rC N A (AA f))),(3,.mp 32),(4,.rs 72 t.off t.q),(8,.I T),(26,.vs 2 false (L.map Cv)),(27,.I L.length),(28,.I i)],[(32,some ⟨0,R',0⟩),(72,some ⟨1,AP t.Z,0⟩)],600⟩ ?_ ?_
    .simp
     rw[show Bb T (.agg [.I st.1,.B st.2]) R=R' from a9.symm]
     exact AN [(32,32),(72,72)] [] zz (by simp[hg.conv',AC])
    refine Ab rfl ?_;simp[b3];refine⟨zy,zy,zy,?_⟩
    refine Ab rfl ?_;simp;refine⟨⟨⟨t.D++[T],t.b.set T.toNat (DI st),t.Z.drop t.off++[T],0,t.q+1⟩,R',m,i+1⟩,⟨hv,hg,h8,h0 _ ⟨[T],rfl⟩ (.inl zz),l++[T],by simp only[h6,Qq]⟩,by simp only;omega,?_⟩
    exact AN [(32,32),(624,72)] [] (by simp[hw]) (by simp[hg.conv',AC])
   .rw [Qb] at h4
    refine AG (Ab rfl ?_);simp;refine⟨⟨t,R,m,i+1⟩,⟨ht,hR,h8,h0 _ ⟨[],zz⟩ ?_,l,h6⟩,by simp only;omega,AN [(32,32),(72,72)] [] (by simp[hw]) (by simp[hR.conv',AC])⟩
    by_cases h:0<rm
    .exact .inl (Decidable.byContradiction λ hn=>h4 ⟨h,hn⟩)
    .exact .inr h
  simp at h8;obtain rfl:i=L.length:=zy
  refine Ak (Al ?_);have b6:t.D.length=s.D.length+l.length:=by rw[h6,Qe]
  have hq:0<t.q:=zy
  have ag:Vi A f t.D s.D[m] A.length:=λ st h1 h2 h3=>by
   refine ho st ?_ h3;rw[Ua];exact(a2 st).2 ⟨h1,by rw[hm];exact h2⟩
  refine Ab rfl ?_;simp;refine XJ 1 (i:=72) rfl rfl hq ?_;simp;exact⟨⟨{ t with off:=t.off+1,q:=t.q - 1 },R,m+1,0⟩,⟨ht.pop hq,Ig.next he hd ag h6,hR⟩,by simp only;omega,AN [(32,32),(72,72)] [] zz (by simp[hR.conv',AC])⟩
 simp at h5;have he:m=s.D.length:=zy
 refine Ak (Al (arc ⟨59,[(2,.mp 32)],[(32,some ⟨0,R,0⟩)],200⟩ ?_ ?_))
 .simp
  exact AN [(32,32)] [] zz (by simp[hR.conv'])
 exact Am (Bu.mk (.inr rfl) (s.D,s.b,R) ⟨hb.bfs,by rw[he] at hd;exact hd.all,hR⟩ (AO.out [32] [] rfl zz zz zz (by simp[hR.conv'])))
theorem YL:Cc (Value.agg #[Value.int IntKind.i64 0,Value.bool false]) = .agg [.sc (.int .i64 0),.sc (.bool false)]:=by simp[Cc,Value.oneCell']
theorem eO {a b:Int}:Plain (.tup [.I a,.I b]):=.tup _ λ i=>match i with
 | 0=>.sc _
 | 1=>.sc _
 | _+2=>.dead
structure mE where
 j:Nat
 v:Int
def DO (l:List BS) (j:Nat):List BS:=(l.drop j).reverse
theorem XE (l:List BS) (j:Nat):(DO l j).length=l.length - j:=by simp[DO]
theorem oI {l:List BS} {j:Nat} (h:j<l.length):DO l j=DO l (j+1)++[l[j]]:=by
 unfold DO;rw[QO h,List.reverse_cons]
theorem Zg (l:List BS):DO l l.length=[]:=by simp[DO]
theorem eJ {N:Nat} {A:List Ed} {f D b:List Int} {l:List BS} (hb:DK N A f D b) (hl:I9 N A f b l) {j:Nat} (hj:j<l.length):BY D b (BA A l[j])=some (JQ l[j]):=by
 obtain⟨q1,q2,q3,q4,q5,q6⟩:=hl.at_ j hj;have hD:BA A l[j]∈D:=Decidable.byContradiction λ h=>Y7 l[j] (by rw[<- q6];exact hb.out _ q4 h)
 unfold BY;rw[if_pos hD,if_neg q3,q6,Rt]
theorem i9 (N:Nat) (A:List Ed) (f:List Int) (hn:DS ⟨N,A⟩) (hf:BQ N A f) :
  ∃ x:Bool × List Int,(if x.1 then BQ N A x.2/\Ai A f+1<=Ai A x.2 else x.2=f /\ ∀ f',BQ N A f'->Ai A f'<=Ai A f)/\AF 205 [eR N A (.rs 0 0 A.length)] [⟨1,AP f,0⟩] (.B x.1) [some ⟨1,AP x.2,0⟩]:=by
 refine rH.s.acallsX (args:=[eR N A (.rs 0 0 A.length)]) (hs:=[⟨1,AP f,0⟩]) (λ x=>.B x.1) (λ x=>[some ⟨1,AP x.2,0⟩]) (λ x:Bool × List Int=>if x.1 then BQ N A x.2/\Ai A f+1<=Ai A x.2 else x.2=f /\ ∀ f',BQ N A f'->Ai A f'<=Ai A f) (Ar rfl) (Ar rfl) (λ _=>zz) ?_
 show AY _ 1 _ _ ⟨86,[(0,eR N A (.rs 0 0 A.length))],[(0,some ⟨1,AP f,0⟩)],16⟩;have av:=Jl hn;have a2:=hf.fit.len;have hu:=IA.1 hf.fit;obtain⟨⟨D,b,R⟩,⟨hb,b0,hR⟩,h8⟩:=YY N A f hn hf.fit;simp only at hb b0 hR h8;have a3:=λ s hs=>XX N A f s hn hf.fit hs;obtain⟨bp,bs,bt,a4⟩:=hn;simp only at bp bs bt a4;have h9:∀ g:Int->List AV,List.take A.length (List.map g f)=List.map g f:=λ g=>Qd zw
 have ha:=hR.is.find;have a5:=NZ D b 1;refine ar [1] [(0,0),(16,16)] [] 32 ?_;refine arc ⟨86,[(1,.pt 16 0 0),(3,.mp 60)],[(0,some ⟨1,AP f,0⟩),(16,some ⟨4,[rC N A (.rs 0 0 A.length)],0⟩),(60,some ⟨0,R,0⟩)],100⟩ ?_ ?_
 .simp
  refine K0 [0] h8 (by simp[AC,h9,a2]) (.mp _) (hR.plain _ _) ?_
  simp;exact AN [(0,0),(16,16),(40,60)] [] zz (by simp[AC,hR.conv'])
 refine AB ?_
 have c0:∃ u v,(BY D b 1).getD (Cc (Value.agg #[Value.int IntKind.i64 0,Value.bool false])) = .agg [.sc u,.sc v]:=by
  cases hc:BY D b 1 with
  | none=>exact⟨_,_,YL⟩
  | some x =>
    obtain⟨u,v,rfl⟩:=Jt _ _ _ _ hc;exact⟨u,v,rfl⟩
 refine arc ⟨86,[(1,.pt 16 0 0),(3,.mp 60),(5,.B (decide ((1:Int)∈D)))],[(0,some ⟨1,AP f,0⟩),(16,some ⟨4,[rC N A (.rs 0 0 A.length)],0⟩),(60,some ⟨0,R,0⟩)],200⟩ ?_ ?_
 .obtain ⟨u,v,c1⟩:=c0
  simp[ha,a5,c1];exact AN [(0,0),(16,16),(60,60)] [] zz (by simp[AC,hR.conv'])
 refine arc ⟨86,[(1,.pt 16 0 0),(3,.mp 60),(22,.B (!decide ((1:Int)∈D)))],[(0,some ⟨1,AP f,0⟩),(16,some ⟨4,[rC N A (.rs 0 0 A.length)],0⟩),(60,some ⟨0,R,0⟩)],300⟩ ?_ ?_
 .simp
  exact AN [(0,0),(16,16),(60,60)] [] zz (by simp[AC,hR.conv'])
 refine AE _ rfl (λ h5=>?_) λ h5=>?_
 .have a6:(1:Int)∉D:=by simpa using h5
  refine ar [2] [(0,0)] [] 400 ?_;exact Am (Bu.mk (.inr rfl) (false,f) ⟨rfl,(Ln av hf hb.mem0 a6 b0).2⟩ (AO.k1 rfl zz (by simp[AC])))
 have a6:(1:Int)∈D:=by simpa using h5
 obtain⟨l,hl⟩:=hb.chain a6;have a7:=T8 hl.way
 have b1:∀ s∈l,s.1<f.length:=λ s hs=>by
  obtain⟨i,hi,rfl⟩:=Qt.1 hs;have:=(hl.at_ i hi).1;omega
 have ch:0<l.length:=by
  cases c2:l with
  | nil=>rw[c2] at a7;cases a7
  | cons=>simp
 have ck:l.length<=A.length:=by
  have:=HY (a:=l.map λ s=>(s.1:Int)) (b:=(List.range A.length).map λ i:Nat=>(i:Int)) (by
   have:=hl.nodup;have e:(l.map λ s=>(s.1:Int))=(l.map (·.1)).map λ i:Nat=>(i:Int):=zz
   rw[e]
   exact Iz (λ i j h=>by have h2:(i:Int)=j:=h;omega) this) λ x hx=>by
   obtain⟨s,hs,rfl⟩:=Ql.1 hx;exact Ql.2 ⟨s.1,Q1.2 (by have:=b1 s hs;omega),rfl⟩
  rw[Qs,Qs,UD] at this;exact this
 have b2:=λ j (hj:j<l.length)=>eJ hb hl hj;refine AG (arc ⟨86,[(1,.pt 16 0 0),(3,.mp 60),(6,.rs 61 0 0)],[(0,some ⟨1,AP f,0⟩),(16,some ⟨4,[rC N A (.rs 0 0 A.length)],0⟩),(60,some ⟨0,R,0⟩),(61,some ⟨2,[],0⟩)],400⟩ ?_ ?_)
 .simp
  refine Le.lst [(0,0),(16,16),(60,60)] [] [(61,2)] rfl zz zz zz zz zz zz zz (by simp[Up]) ?_
  simp[AC,hR.conv']
  exact⟨A7.rfl' (Qk _),A7.rfl' (Qk _),A7.rfl' (Qk _)⟩
 refine ar [1,3,6,7] [(0,0),(16,16),(60,60),(61,61)] [] 500 ?_;refine EL (ι:=Int) (λ v=>⟨86,[(1,.pt 16 0 0),(6,.rs 61 0 l.length),(7,.I v)],[(0,some ⟨1,AP f,0⟩),(16,some ⟨4,[rC N A (.rs 0 0 A.length)],0⟩),(61,some ⟨2,(DO l 0).map Cv,0⟩)],600⟩) (λ v=>1<=v/\v<=1048576/\Kb A f l 0 v) ?_ λ v hv=>?_
 .refine arc ⟨86,[(1,.pt 16 0 0),(3,.mp 60),(6,.rs 61 0 0),(7,.I 1048576),(8,.I 1)],[(0,some ⟨1,AP f,0⟩),(16,some ⟨4,[rC N A (.rs 0 0 A.length)],0⟩),(60,some ⟨0,R,0⟩),(61,some ⟨2,[],0⟩)],600⟩ ?_ ?_
  .simp
   exact AN [(0,0),(16,16),(60,60),(61,61)] [] zz (by simp[AC,hR.conv'])
  refine AI ?_
  refine An (ι:=mE) (λ s=>⟨86,[(1,.pt 16 0 0),(3,.mp 60),(6,.rs 61 0 (l.length - s.j)),(7,.I s.v),(8,.I (D6 A 0 l s.j))],[(0,some ⟨1,AP f,0⟩),(16,some ⟨4,[rC N A (.rs 0 0 A.length)],0⟩),(60,some ⟨0,R,0⟩),(61,some ⟨2,(DO l s.j).map Cv,0⟩)],600⟩)
   (λ s=>s.j<=l.length/\1<=s.v/\s.v<=1048576/\Kb A f l s.j s.v) (λ s=>s.j) ⟨l.length,1048576⟩ ⟨Qf _,zz,zz,by simp[Kb]⟩ (AN [(0,0),(16,16),(60,60),(61,61)] [] (by simp[a7]) (by simp[AC,hR.conv',Zg])) ?_
  rintro⟨j,v⟩ ⟨hj,a8,a9,hd⟩
  simp only at hj a8 a9 hd;refine AB (arc ⟨86,[(1,.pt 16 0 0),(3,.mp 60),(6,.rs 61 0 (l.length - j)),(7,.I v),(8,.I (D6 A 0 l j)),(24,.B (!decide (D6 A 0 l j=0)))],[(0,some ⟨1,AP f,0⟩),(16,some ⟨4,[rC N A (.rs 0 0 A.length)],0⟩),(60,some ⟨0,R,0⟩),(61,some ⟨2,(DO l j).map Cv,0⟩)],700⟩ ?_ ?_)
  .simp
   exact AN [(0,0),(16,16),(60,60),(61,61)] [] (by simp<;>exact A0 (by rw[Qg];simp)) (by simp[AC,hR.conv'])
  refine AE _ rfl (λ h7=>?_) λ h7=>?_
  .simp at h7
   obtain⟨i,rfl⟩:∃ i,j=i+1:=by
    cases j with
    | zero=>exact absurd rfl h7
    | succ i=>exact⟨i,rfl⟩
   have hi:i<l.length:=zy
   obtain⟨q1,q2,q3,q4,q5,q6⟩:=hl.at_ i hi;have ag:=hl.from_ i hi;have ai:=b2 i hi;have hh:=oI hi;have c3:=XE l (i+1);obtain⟨s,hs⟩:=AJ (l[i])
   have hk:D6 A 0 l (i+1)=BA A s:=by
    show BA A (l.getD i (0,false))=_;rw[Qn,Qc hi,hs];rfl
   have b3:∀ v':Int,v'<=v->v'<=Ci A f s->Kb A f l i v':=λ v' h1 h2 t ht=>by
    rw[QO hi,<- hs] at ht;rcases Qu.1 ht with rfl | ht
    .exact h2
    .exact Int.le_trans h1 (hd t ht)
   rw[<- hs] at q1 q2 q3 q4 q5 q6 ag ai hh;have am:=a3 s q1
   have b4:Ci A f s<=1048576:=by
    have h1:=hu.2 s.1 q1;have h2:=(a4 _ (IK q1)).2.2.2.2.2.2.2.2;unfold Ci;split<;>omega
   rw[hk];obtain⟨k,c4⟩:=AJ (BA A s);obtain⟨rm,c5⟩:=AJ (Ci A f s);obtain⟨W,hW⟩:=AJ (DO l (i+1));rw[<- c4] at q3 q4 q5 q6 ai am ⊢;rw[<- c5] at q2 am b4 b3;rw[<- hW] at hh c3;have hm:=Ry q1;have b5:l.length - (i+1)=W.length:=zy
   rw[b5,<- hW];refine AG (AI ?_);apply ax [1,3,6,7,9] [(0,0),(16,16),(60,60),(61,61)] [724] 800
   .simp [ha,ai,JQ]
    rfl
   refine arc ⟨86,[(1,.pt 16 0 0),(3,.mp 60),(6,.rs 61 0 W.length),(7,.I v),(9,.pv (Cv s)),(10,.I rm)],[(0,some ⟨1,AP f,0⟩),(16,some ⟨4,[rC N A (.rs 0 0 A.length)],0⟩),(60,some ⟨0,R,0⟩),(61,some ⟨2,W.map Cv,0⟩)],900⟩ ?_ ?_
   .simp
    refine FZ [0] am (by simp[AC,h9,a2]) eO ?_
    simp;exact AN [(0,0),(16,16),(60,60),(61,61)] [] zz (by simp[AC,hR.conv'])
   refine arc ⟨86,[(1,.pt 16 0 0),(3,.mp 60),(6,.rs 62 0 (W.length+1)),(7,.I (if rm<v then rm else v)),(9,.pv (Cv s))],[(0,some ⟨1,AP f,0⟩),(16,some ⟨4,[rC N A (.rs 0 0 A.length)],0⟩),(60,some ⟨0,R,0⟩),(62,some ⟨2,(W++[s]).map Cv,0⟩)],1000⟩ ?_ ?_
   .have an:∀ g:BS->List AV,List.take W.length (List.map g W)=List.map g W:=λ g=>Qd zz
    simp[an];exact⟨zy,zy,AN [(0,0),(16,16),(60,60),(924,62)] [] zz (by simp[AC,hR.conv'])⟩
   have hst:C7 A s=if s.2 then (AQ A s.1).t else (AQ A s.1).f:=rfl
   have cl:(s.1:Int)<A.length:=zy
   apply ax [1,3,6,7,8,9] [(0,0),(16,16),(60,60),(62,62)] [] 1100
   .have he:A[s.1]=AQ A s.1:=by rw[Qc q1] at hm;exact Qh hm
    simp[q1,he];rfl
   refine arc ⟨86,[(1,.pt 16 0 0),(3,.mp 60),(6,.rs 62 0 (W.length+1)),(7,.I (if rm<v then rm else v)),(8,.I (AQ A s.1).f),(9,.pv (Cv s)),(50,.B s.2)],[(0,some ⟨1,AP f,0⟩),(16,some ⟨4,[rC N A (.rs 0 0 A.length)],0⟩),(60,some ⟨0,R,0⟩),(62,some ⟨2,(W++[s]).map Cv,0⟩)],1200⟩ ?_ ?_
   .simp
    exact AN [(0,0),(16,16),(60,60),(62,62)] [] zz (by simp[AC,hR.conv'])
   have hy:l.length - i=W.length+1:=zy
   have hz:i<=l.length/\1<=(if rm<v then rm else v)/\(if rm<v then rm else v)<=1048576/\Kb A f l i (if rm<v then rm else v):=⟨zy,by split<;>omega,by split<;>omega,b3 _ (by split<;>omega) (by split<;>omega)⟩
   refine AE _ rfl (λ q=>?_) λ q=>?_
   .have he:A[s.1]=AQ A s.1:=by rw[Qc q1] at hm;exact Qh hm
    rw[if_pos q] at hst;refine Ab rfl ?_;simp[q1,he];exact⟨⟨i,if rm<v then rm else v⟩,hz,Nat.lt_succ_self i,AN [(0,0),(16,16),(60,60),(62,61)] [] (by simp[hy,<- ag,hst]) (by simp[AC,hR.conv',hh])⟩
   .rw [if_neg (by simp[q])] at hst
    exact AG ⟨⟨i,if rm<v then rm else v⟩,hz,Nat.lt_succ_self i,AN [(0,0),(16,16),(60,60),(62,61)] [] (by simp[hy,<- ag,hst]) (by simp[AC,hR.conv',hh])⟩
  simp at h7
  obtain rfl:j=0:=by
   cases j with
   | zero=>rfl
   | succ i =>
     have h2:=(hl.at_ i zy).2.2.1
     refine absurd ?_ h2;have h3:D6 A 0 l (i+1)=BA A (l.getD i (0,false)):=rfl;rw[h3,Qn,Qc zy] at h7
     exact h7
  exact Ak (Al ⟨v,⟨a8,a9,hd⟩,DU [(0,0),(16,16),(61,61)] []⟩)
 obtain⟨a8,a9,hd⟩:=hv;have a0:∀ s∈l,v<=Ci A f s:=λ s hs=>hd s (by simpa using hs)
 obtain⟨cb,b6⟩:=hl.push av hf zy a0
 have aq:=XE l 0;obtain⟨W,hW⟩:=AJ (DO l 0);rw[<- hW] at aq ⊢;have aq:l.length=W.length:=zy
 refine AB (arc ⟨86,[(1,.pt 16 0 0),(7,.I v),(59,.vs 2 false (W.map Cv)),(60,.I W.length),(61,.I 0)],[(0,some ⟨1,AP f,0⟩),(16,some ⟨4,[rC N A (.rs 0 0 A.length)],0⟩)],700⟩ ?_ ?_)
 .have an:∀ g:BS->List AV,List.take W.length (List.map g W)=List.map g W:=λ g=>Qd zz
  simp;exact AN [(0,0),(16,16)] [61] (by simp[aq,an,AC]) (by simp[AC])
 refine AI (An (ι:=Nat) (λ i=>⟨86,[(1,.pt 16 0 0),(7,.I v),(59,.vs 2 false (W.map Cv)),(60,.I W.length),(61,.I i)],[(0,some ⟨1,AP (E7 v f l (l.length - i)),0⟩),(16,some ⟨4,[rC N A (.rs 0 0 A.length)],0⟩)],700⟩) (λ i=>i<=W.length) (λ i=>W.length - i) 0 (Qk _) (AN [(0,0),(16,16)] [] zz (by simp[AC,fZ])) ?_)
 intro i hi;have a1:(E7 v f l (l.length - i)).length=A.length:=by rw[nV,a2]
 refine ar [1,7,59,60,61,62] [(0,0),(16,16)] [] 800 ?_;refine AB (AE _ rfl (λ hg=>?_) λ hg=>?_)
 .simp at hg
  have b7:=w6 (x:=(i:Int)+1);obtain⟨j,hj⟩:∃ j,l.length - i=j+1:=⟨l.length - i - 1,zy⟩
  have ho:j<l.length:=zy
  have b8:l.length - (i+1)=j:=zy
  have b9:W[i]=l[j]:=by
   have:W[i]? = some l[j]:=by
    rw[hW];unfold DO;rw[List.drop_zero,List.getElem?_reverse zy,Qc zy]
    congr 1
    congr 1
    omega
   rw[Qc hg] at this;exact Qh this
  rw[hj] at a1 ⊢;obtain⟨q1,q2,q3,q4,q5,q6⟩:=hl.at_ j ho;have h0:=bU (v:=v) (f:=f) j ho;have h4:=mL (v:=v) hl.nodup b1 j ho;have hq:=a0 _ (Qi ho);obtain⟨s,hs⟩:=AJ (l[j]);rw[<- hs] at q1 h0 h4 hq b9;obtain⟨F,hF⟩:=AJ (E7 v f l (j+1));rw[<- hF] at a1 h4 h0 ⊢;have cd:=hu.2 s.1 q1;have cm:=(a4 _ (IK q1)).2.2.2.2.2.2.2.2;obtain⟨w,hw⟩:=AJ (f.getD s.1 0);have hr:s.1<F.length:=zy
  have bb:F[s.1]=w:=by
   have:F[s.1]? = some w:=by rw[hw,<- h4,Qn,Qc hr,QZ]
   rw[Qc hr] at this;exact Qh this
  rw[<- hw] at cd;have h6:E7 v f l j=F.set s.1 (w+if s.2 then -v else v):=by rw[h0];unfold FR;rw[h4,<- hw]
  have bo:Ci A f s=if s.2 then w else (AQ A s.1).v - w:=by unfold Ci;rw[<- hw]
  refine AG (AB (AI ?_));apply ax [1,7,13,59,60,61] [(0,0),(16,16)] [816] 900
  .simp [hg,b9]
   rfl
  refine ar [1,7,13,59,60,61,66] [(0,0),(16,16)] [] 1000 ?_;have cp:(s.1:Int)<A.length:=zy
  refine AE _ rfl (λ q=>?_) λ q=>?_
  .rw [if_pos q] at h6 bo
   have au:IntKind.i64.wrap (w - v)=w + -v:=by rw[w6];omega
   refine Ab rfl ?_;simp[q1,hr,bb,au,Ae];refine Ab rfl ?_;simp;exact⟨i+1,zy,zy,AN [(0,0),(16,16)] [] (by simp[b7]) (by simp[AC,b8,h6])⟩
  .rw [if_neg (by simp[q])] at h6 bo
   have au:=w6 (x:=w+v);refine Ab rfl ?_;simp[q1,hr,bb,au,Ae];refine Ab rfl ?_;simp;exact⟨i+1,zy,zy,AN [(0,0),(16,16)] [] (by simp[b7]) (by simp[AC,b8,h6])⟩
 simp at hg;obtain rfl:i=W.length:=zy
 rw[show l.length - W.length=0 by omega]
 refine Ak (Al (ar [2] [(0,0)] [] 900 ?_));exact Am (Bu.mk (.inr rfl) (true,E7 v f l 0) ⟨cb,by rw[b6];omega⟩ (AO.k1 rfl zz (by simp[AC])))
theorem AO.k2n {rs:List (Nat × Option (Bool × Nat))} {st:St} {vs:List AV} {res:AV} {e0 e1 e:AD} (i:Nat) (hi:2<=i) (h1:EJ st rs=some vs) (hw:Wk (conv [(0,0),(1,1),(i,2)] [] st.hp 4 (DE vs)) res) (h0:(st.hp 0).map (AX [(0,0),(1,1),(i,2)] [] st.hp 4)=some e0) (h2:(st.hp 1).map (AX [(0,0),(1,1),(i,2)] [] st.hp 4)=some e1) (he:(st.hp i).map (AX [(0,0),(1,1),(i,2)] [] st.hp 4)=some e):AO rs 2 st res [some e0,some e1,some e]:=by
 have e2:List.range 2++[i]=[0,1,i]:=rfl;refine⟨vs,h1,[i],[],?_,by simpa using hi,zz,?_,?_⟩
 .rw [e2]
  simp;omega
 .rw [e2]
  exact hw
 .rw [e2]
  show [_,_,_]=_;have q:Option.map (AX (([0,1,i]:List Nat).zipIdx) [] st.hp 4) (st.hp 0)=some e0:=h0;have u:Option.map (AX (([0,1,i]:List Nat).zipIdx) [] st.hp 4) (st.hp 1)=some e1:=h2;have h3:Option.map (AX (([0,1,i]:List Nat).zipIdx) [] st.hp 4) (st.hp i)=some e:=he;simp only[QA,Vb,q,u,h3]
theorem AO.k2 {rs:List (Nat × Option (Bool × Nat))} {st:St} {vs:List AV} {res:AV} {e0 e1:AD} (h1:EJ st rs=some vs) (hw:Wk (conv [(0,0),(1,1)] [] st.hp 4 (DE vs)) res) (h0:(st.hp 0).map (AX [(0,0),(1,1)] [] st.hp 4)=some e0) (h2:(st.hp 1).map (AX [(0,0),(1,1)] [] st.hp 4)=some e1):AO rs 2 st res [some e0,some e1] :=
 ⟨vs,h1,[],[],zx,zz,zz,hw,by
  show [_,_]=_;have q:Option.map (AX ((List.range 2++[]:List Nat).zipIdx) [] st.hp 4) (st.hp 0)=some e0:=h0;have u:Option.map (AX ((List.range 2++[]:List Nat).zipIdx) [] st.hp 4) (st.hp 1)=some e1:=h2
  simp only[q,u]⟩
theorem jR {N:Nat} {D b:List Int} {R:List (List AV)} (hR:Cg R (BY D b)) (k:Int):AF 108 [.I k,.pt 0 0 0] [⟨1,[[.mp 1]],0⟩,⟨0,R,0⟩] (.B (decide (k∈D))) [some ⟨1,[[.mp 1]],0⟩,some ⟨0,R,0⟩]:=by
 refine cO.s.ai ?_;have q:=hR.is.find;have h0:=NZ D b k
 have h1:∃ u v,(BY D b k).getD (Cc (Value.agg #[Value.int IntKind.i64 0,Value.bool false])) = .agg [.sc u,.sc v]:=by
  cases hc:BY D b k with
  | none=>exact⟨_,_,YL⟩
  | some x =>
    obtain⟨u,v,rfl⟩:=Jt _ _ _ _ hc;exact⟨u,v,rfl⟩
 obtain⟨u,v,h2⟩:=h1;refine rk (s:=?s1) [0,1] [0,1] rfl ?o1 ?q1
 case o1=>simp;rfl
 apply ax [5] [(0,0),(1,1)] [] 200
 .simp [q,h0,h2]
  rfl
 refine arc ⟨13,[(3,.B (decide (k∈D)))],[(0,some ⟨1,[[.mp 1]],0⟩),(1,some ⟨0,R,0⟩)],300⟩ ?_ ?_
 .simp
  exact AN [(0,0),(1,1)] [] zz (by simp[hR.conv'])
 exact BR (AO.k2 rfl zz zz (by simp[hR.conv']))
theorem iG {D b:List Int} {R:List (List AV)} (hR:Cg R (BY D b)) (N:Nat) (hN:N<=1000000) :
  AF 107 [.I N,.fn (.func 108) [] [.pt 0 0 0]] [⟨1,[[.mp 1]],0⟩,⟨0,R,0⟩] (.rs 2 0 (Dp D N).length) [some ⟨1,[[.mp 1]],0⟩,some ⟨0,R,0⟩,some ⟨1,AP (Dp D N),0⟩]:=by
 refine Te.s.ai ?_;refine ar [0,1] [(0,0),(1,1)] [] 24 ?_;refine arc ⟨20,[(0,.I N),(1,.fn (.func 108) [] [.pt 0 0 0]),(5,.rs 50 0 0)],[(0,some ⟨1,[[.mp 1]],0⟩),(1,some ⟨0,R,0⟩),(50,some ⟨1,[],0⟩)],100⟩ ?_ ?_
 .simp
  refine Le.lst [(0,0),(1,1)] [] [(50,1)] rfl zz zz zz zz zz zz zz (by simp[Up,conv]) ?_
  simp[hR.conv']
  exact⟨A7.rfl' (Qk _),A7.rfl' (Qk _)⟩
 refine AB (ar [1,5,7,8] [(0,0),(1,1),(50,50)] [] 200 ?_);refine AI (An (ι:=Nat) (λ k=>⟨20,[(1,.fn (.func 108) [] [.pt 0 0 0]),(5,.rs 50 0 (Dp D k).length),(7,.I N),(8,.I k)],[(0,some ⟨1,[[.mp 1]],0⟩),(1,some ⟨0,R,0⟩),(50,some ⟨1,AP (Dp D k),0⟩)],200⟩) (λ k=>k<=N) (λ k=>N - k) 0 (Qk _) (AN [(0,0),(1,1),(50,50)] [] (by simp[conv,Dp]) (by simp[hR.conv',Dp])) ?_)
 intro k hk;have h0:=eB D k;refine ar [1,5,7,8,9] [(0,0),(1,1),(50,50)] [] 300 ?_;refine AB (AE _ rfl (λ h=>?_) λ h=>?_)
 .simp at h
  have u:=w6 (x:=(k:Int)+1);have q:=fE D k;refine AG (Bm ⟨20,[(1,.fn (.func 108) [] [.pt 0 0 0]),(5,.rs 50 0 (Dp D (k+1)).length),(7,.I N),(8,.I k)],[(0,some ⟨1,[[.mp 1]],0⟩),(1,some ⟨0,R,0⟩),(50,some ⟨1,AP (Dp D (k+1)),0⟩)],1000⟩ ?_ ?_)
  .rw [q]
   obtain⟨W,hW⟩:=AJ (Dp D k);rw[<- hW] at h0 ⊢;refine AI (arc ⟨20,[(1,.fn (.func 108) [] [.pt 0 0 0]),(5,.rs 50 0 W.length),(6,.I k),(7,.I N),(8,.I k)],[(0,some ⟨1,[[.mp 1]],0⟩),(1,some ⟨0,R,0⟩),(50,some ⟨1,AP W,0⟩)],400⟩ ?_ ?_)
   .simp
    exact AN [(0,0),(1,1),(50,50)] [] (by simp[conv]) (by simp[hR.conv',AC])
   refine arc ⟨20,[(1,.fn (.func 108) [] [.pt 0 0 0]),(5,.rs 50 0 W.length),(6,.I k),(7,.I N),(8,.I k),(13,.B (decide ((k:Int)∈D)))],[(0,some ⟨1,[[.mp 1]],0⟩),(1,some ⟨0,R,0⟩),(50,some ⟨1,AP W,0⟩)],500⟩ ?_ ?_
   .simp
    refine JT (i:=0) (j:=1) zx rfl rfl zz (by simp[hR.conv']) (jR (N:=N) hR k) zz zz ?_
    simp[hR.conv']
    exact AN [(0,0),(1,1),(50,50)] [] (by simp[conv]) (by simp[hR.conv',AC])
   refine AE _ rfl (λ h5=>?_) λ h5=>?_
   .rw [Qa] at h5
    rw[if_pos h5];have h1:∀ g:Int->List AV,List.take W.length (List.map g W)=List.map g W:=λ g=>Qd zz
    refine Ab rfl ?_;simp[h1];exact⟨zy,zy,AN [(0,0),(1,1),(524,50)] [] (by simp[conv]) (by simp[hR.conv',AC])⟩
   .rw [Qb] at h5
    rw[if_neg h5,QU];exact AG (AN [(0,0),(1,1),(50,50)] [] (by simp[conv]) (by simp[hR.conv',AC]))
  refine Ab rfl ?_;simp[u];exact⟨k+1,zy,zy,AN [(0,0),(1,1),(50,50)] [] (by simp[conv,u]) (by simp[hR.conv',AC])⟩
 simp at h;obtain rfl:k=N:=zy
 refine Ak (Al (arc ⟨20,[(4,.rs 50 0 (Dp D k).length)],[(0,some ⟨1,[[.mp 1]],0⟩),(1,some ⟨0,R,0⟩),(50,some ⟨1,AP (Dp D k),0⟩)],400⟩ ?_ ?_))
 .simp
  exact AN [(0,0),(1,1),(50,50)] [] zz (by simp[hR.conv',AC])
 exact BR (AO.k2n 50 zy rfl zz zz (by simp[hR.conv']) (by simp[AC]))
variable {a:List Int}
section
variable {N:Nat} {A:List Ed} {f:List Int}
theorem Zx (hn:Ds N A) {s:BS} (hs:s.1<A.length):0<=BA A s/\BA A s<N:=by
 have:=hn.arc _ (IK hs);unfold BA;split<;>omega
theorem DK.grow (hn:Ds N A):∀ (n:Nat) (D b:List Int),DK N A f D b->N - D.length<=n -> ∃ D' b',DK N A f D' b'/\Hy A f D'
 | n,D,b,h,hl=>by
   by_cases hc:Hy A f D
   .exact ⟨D,b,h,hc⟩
   .unfold Hy at hc
    obtain⟨s,hs⟩:=Classical.not_forall.1 hc;obtain⟨h1,hs⟩:=Classical.not_imp.1 hs;obtain⟨h2,hs⟩:=Classical.not_imp.1 hs;obtain⟨h3,h4⟩:=Classical.not_imp.1 hs;have hr:=Zx hn h1;have hp:=h.push h1 h2 h3 h4 hr.1 hr.2;have hf:=hp.few;rw[Qe,Q8] at hf
    match n,hl with
    | 0,hl=>omega
    | n+1,hl=>exact DK.grow hn n _ _ hp (by rw[Qe,Q8];omega)
theorem NM (hn:Ds N A) {D b:List Int} (q:BQ N A f) (u:∀ f',BQ N A f'->Ai A f'<=Ai A f) (hb:DK N A f D b):(1:Int)∉D:=λ hm=>by
 obtain⟨l,hl⟩:=hb.chain hm
 have h1:=hl.push hn q (v:=1) zy λ s hs=>by
  obtain⟨i,hi,rfl⟩:=Qt.1 hs;have:=(hl.at_ i hi).2.1;omega
 have h2:=u _ h1.1;omega
theorem vV (hn:Ds N A) {S:Int->Bool} (h0:S 0=true) (h1:S 1=false):Co N A<=Ba S A:=by
 obtain⟨f,hf,hv⟩:=S4 hn;rw[<- hv];exact Kr hn hf h0 h1
theorem kZ (hn:Ds N A):∃ X:Int->Bool,X 0=true/\X 1=false/\Ba X A=Co N A /\ ∀ S:Int->Bool,S 0=true->S 1=false->Ba S A=Co N A -> ∀ x,X x=true->S x=true:=by
 obtain⟨f,hf,hm⟩:=K7 hn;obtain⟨D,b,hb,hc⟩:=DK.grow hn N [0] _ (DK.start (f:=f) (by have:=hn.two;omega)) zy
 have h1:=NM hn hf hm hb;have q:=Ja hf hm;refine⟨λ x=>decide (x∈D),by simpa using hb.mem0,by simpa using h1,?_,λ S s0 s1 hS x hx=>?_⟩
 .rw [q]
  exact(Ln hn hf hb.mem0 h1 hc).1.symm
 .exact XF hn hf hb.tree s0 s1 (hS.trans q) x (by simpa using hx)
end
def O0 (g:Gr) (p:A9) (S:Int->Bool):Int:=Ba S (Av g p [])
def GD (S:Int->Bool) (ks:List Int):Int:=(ks.map λ k=>if S (2+2*k)=true then 1 else 0).sum
variable {g:Gr} {p:A9}
def Vj (g:Gr) (p:A9) (k:Int):Prop:=0<(Bk g p).getD k.toNat 0
theorem Sc {S:Int->Bool} (h1:S 1=false) {ks:List Int} (hk:∀ k∈ks,Vj g p k):Ba S (Av g p ks)=O0 g p S+GD S ks:=by
 have hf:ks.filter (λ x=>decide (0<(Bk g p).getD x.toNat 0))=ks:=List.filter_eq_self.2 λ x hx=>QX (hk x hx);unfold O0 GD;simp only[Pz,Av,Df,QN,List.sum_append,Us,hf]
 have e:((λ e:Ed=>if S e.f=true/\S e.t=false then e.v else 0)∘λ x:Int=>(⟨2+2*x,1,1⟩:Ed))=λ k=>if S (2+2*k)=true then 1 else 0:=by
  funext k
  simp only[Function.comp,h1,and_true]
 rw[e];simp only[List.filter_nil,Vb,List.sum_nil];omega
theorem YS (S:Int->Bool):∀ ks:List Int,GD S ks<=ks.length
 | []=>Int.le_refl _
 | k::ks=>by
   have ih:=YS S ks;unfold GD at ih ⊢;simp only[QA,List.sum_cons,QS];split<;>omega
theorem fO (S:Int->Bool) (a b:List Int):GD S (a++b)=GD S a+GD S b:=by simp[GD]
theorem j7 (S:Int->Bool) {b:List Int} (h:a.Perm b):GD S a=GD S b:=by
 unfold GD
 induction h with
 | nil=>rfl
 | cons x _ ih=>simp only[QA,List.sum_cons,ih]
 | swap x y l=>simp only[QA,List.sum_cons];omega
 | trans _ _ ih1 ih2=>exact ih1.trans ih2
structure D1 (g:Gr) (p:A9) (ks:List Int):Prop where
 rng:∀ x∈ks,0<=x/\x<g.size
 reach:∀ x∈ks,Vj g p x
theorem D1.sub {b:List Int} (h:D1 g p b) (hs:∀ x∈a,x∈b):D1 g p a:=⟨λ x hx=>h.rng x (hs x hx),λ x hx=>h.reach x (hs x hx)⟩
theorem D1.nil:D1 g p []:=⟨λ _ h=>(QT h).elim,λ _ h=>(QT h).elim⟩
theorem D1.append {b:List Int} (h:D1 g p a) (h':D1 g p b):D1 g p (a++b) :=
 ⟨λ x hx=>(Qm.1 hx).elim (h.rng x) (h'.rng x),λ x hx=>(Qm.1 hx).elim (h.reach x) (h'.reach x)⟩
theorem Ll (hg:AH g) (hp:CI g.size p) {ks:List Int} (hk:D1 g p ks):CE g p ks ↔ ∀ S:Int->Bool,S 0=true->S 1=false->(ks.length:Int)<=O0 g p S+GD S ks:=by
 have hn:=Kl hg hp hk.rng;unfold CE;constructor
 .intro h S h0 h1
  rw[<- Sc h1 hk.reach,<- h];exact vV hn h0 h1
 .intro h
  obtain⟨X,h0,h1,hc,_⟩:=kZ hn;have h2:=h X h0 h1;rw[<- Sc h1 hk.reach,hc] at h2;have h3:=Kx (p:=p) hg hp hk.rng;omega
theorem CE.perm (hg:AH g) (hp:CI g.size p) {b:List Int} (ha:D1 g p a) (h:CE g p a) (hp':a.Perm b):CE g p b:=by
 have hb:D1 g p b:=ha.sub λ x hx=>hp'.mem_iff.2 hx;rw[Ll hg hp hb];rw[Ll hg hp ha] at h;intro S h0 h1;rw[<- j7 S hp',<- hp'.length_eq];exact h S h0 h1
theorem CE.left (hg:AH g) (hp:CI g.size p) {b:List Int} (hk:D1 g p (a++b)) (h:CE g p (a++b)):CE g p a:=by
 have ha:D1 g p a:=hk.sub λ x hx=>Q4 _ hx;rw[Ll hg hp ha];rw[Ll hg hp hk] at h;intro S h0 h1;have:=h S h0 h1;rw[fO,Qe] at this;have:=YS S b;omega
theorem CE.sublist (hg:AH g) (hp:CI g.size p) {b:List Int} (hk:D1 g p b) (h:CE g p b) (hs:a.Sublist b):CE g p a:=by
 obtain⟨c,hc⟩:∃ c,(a++c).Perm b:=by
  induction hs with
  | slnil=>exact⟨[],.refl _⟩
  | cons x hs ih =>
    obtain⟨c,hc⟩:=ih (hk.sub λ y hy=>Qj _ hy) (by
     have h2:CE g p (_++[x]):=h.perm hg hp hk (List.perm_append_comm (l₁:=[x]))
     exact h2.left hg hp (hk.sub λ y hy=>by simpa [or_comm] using hy))
    exact⟨x::c,List.perm_middle.trans (hc.cons x)⟩
  | cons_cons x hs ih =>
    obtain⟨c,hc⟩:=ih (hk.sub λ y hy=>Qj _ hy) (by
     have h2:CE g p (_++[x]):=h.perm hg hp hk (List.perm_append_comm (l₁:=[x]))
     exact h2.left hg hp (hk.sub λ y hy=>by simpa [or_comm] using hy))
    exact⟨c,hc.cons x⟩
 exact(h.perm hg hp hk hc.symm).left hg hp (hk.sub λ x hx=>hc.mem_iff.1 hx)
theorem CE.nil (hg:AH g) (hp:CI g.size p):CE g p []:=by
 have h1:=Kx (p:=p) (ks:=[]) hg hp zz
 have hn:=Kl (p:=p) (ks:=[]) hg hp zz
 have h2:=Xl hn (Nl hn)
 have h3:Ai (Av g p []) ((Av g p []).map λ _=>0)=0:=by
  unfold Ai DH
  have:∀ A:List Ed,Ap (λ e v=>if e.f=0 then v else 0) A (A.map λ _=>0)=0:=by
   intro A
   induction A with
   | nil=>rfl
   | cons e A ih=>simp only[QA,Ap,ih];split<;>rfl
  exact this _
 unfold CE;simp at h1 ⊢;omega
theorem AO.k1n {rs:List (Nat × Option (Bool × Nat))} {st:St} {vs:List AV} {res:AV} {e0 e:AD} (i:Nat) (hi:1<=i) (h1:EJ st rs=some vs) (hw:Wk (conv [(0,0),(i,1)] [] st.hp 4 (DE vs)) res) (h0:(st.hp 0).map (AX [(0,0),(i,1)] [] st.hp 4)=some e0) (he:(st.hp i).map (AX [(0,0),(i,1)] [] st.hp 4)=some e):AO rs 1 st res [some e0,some e] :=
 ⟨vs,h1,[i],[],by simp[List.range,List.range.loop];omega,by simpa using hi,zz,by simpa [List.range,List.range.loop] using hw,by simpa [List.range,List.range.loop] using ⟨by simpa using h0,by simpa using he⟩⟩
@[simp] theorem zxq {i:Nat}:cellsOf (.mp i)=some [.mp i]:=(rfl)
theorem fR (N:Nat) (A:List Ed) (f0:List Int) (hn:DS ⟨N,A⟩) (h1:BQ N A f0) :
  ∃ f:List Int,(BQ N A f /\ ∀ f',BQ N A f'->Ai A f'<=Ai A f)/\AF 161 [eN ⟨N,A⟩,AA f0] [] (.rs 0 0 A.length) [some ⟨1,AP f,0⟩]:=by
 refine bQ.s.acallsX (args:=[eN ⟨N,A⟩,AA f0]) (hs:=[]) (λ f=>.rs 0 0 A.length) (λ f=>[some ⟨1,AP f,0⟩]) (λ f:List Int=>BQ N A f /\ ∀ f',BQ N A f'->Ai A f'<=Ai A f) (Ar rfl) (Ar rfl) (λ _=>zz) ?_
 show AY _ 0 _ _ ⟨14,[(0,eN ⟨N,A⟩),(1,AA f0)],[],16⟩;have h3:=Jl hn;have h5:=h1.fit.len;have u:=λ (f:List Int)=>Xq N A f A.length hn;have h0:=λ (f:List Int) (hf:BQ N A f)=>i9 N A f hn hf;have h6:=hn.2.2.1;simp only at h6;have h2:=Hr f0 zy
 rw[h5] at h2;have h7:∀ g:Int->List AV,List.take A.length (List.map g f0)=List.map g f0:=λ g=>Qd zw
 refine rs [1,2] [] [16] ?_;apply ay [5] [(48,48),(64,64)] [] 80
 .simp
  refine C3 h2 ?_;simp;refine BZ (i:=48) rfl (by simp[AC]) (u f0) zz zz ?_
  simp;exact⟨rfl,rfl⟩
 refine AB (AI (An (ι:=List Int) (λ f=>⟨14,[(5,.pt 64 0 0)],[(48,some ⟨1,AP f,0⟩),(64,some ⟨4,[rC N A (.rs 48 0 A.length)],0⟩)],80⟩) (λ f=>BQ N A f) (λ f=>(Ba (λ x=>decide (x=0)) A - Ai A f).toNat) f0 h1 (DU [(48,48),(64,64)] []) ?_));intro f hf;obtain⟨⟨c,f'⟩,hx,q⟩:=h0 f hf;simp only at hx q;refine AB ?_;apply ax [5,11] [(48,48),(64,64)] [] 100
 .simp
  refine BZ (i:=48) rfl (by simp[AC]) q zz zz ?_
  simp;rfl
 refine AE _ rfl (λ h4=>?_) λ h4=>?_
 .have hc:c=true:=h4
  subst hc;simp only[UP] at hx;have h8:=Kr (S:=λ x=>decide (x=0)) h3 hx.1 zz zz
  exact AG (AI (AG ⟨f',hx.1,by have:=hx.2;omega,DU [(48,48),(64,64)] []⟩))
 have hc:c=false:=h4;subst hc;simp only[Uk,UA] at hx;obtain⟨rfl,hm⟩:=hx;refine Ak (Al (ar [4] [(48,48)] [] 200 ?_));exact Am (Bu.mk (.inr rfl) f' ⟨hf,hm⟩ (AO.out [48] [] rfl zz zz zz (by simp[AC])))
theorem pU (N:Nat) (A:List Ed) (hn:DS ⟨N,A⟩) :
  ∃ f:List Int,(BQ N A f /\ ∀ f',BQ N A f'->Ai A f'<=Ai A f)/\AF 104 [eN ⟨N,A⟩] [] (.tup [.rs 0 0 A.length,.I 0]) [some ⟨1,AP f,0⟩]:=by
 have u:=Jl hn;obtain⟨f,hf,hg⟩:=fR N A _ hn (Nl u);refine⟨f,hf,?_⟩;have q:=P3 ⟨N,A⟩ (by have:=hn.2.2.1;simp only at this ⊢;omega)
 rw[if_pos hn] at q;have h0:=hn.2.2.1;simp only at h0;have h1:=hf.1.fit.len;refine fX.s.ai ?_;refine rs [1] [] [16] ?_;refine AB (rx (s:=?s2) [1,4] [] [] rfl ?o2 ?q2)
 case o2=>simp;refine Ah q zz ?_;simp;rfl
 refine rs [1,4,8] [] [] ?_;refine AE _ rfl (λ h4=>by cases h4) λ h4=>?_
 refine AG ?_;apply ay [2,3] [(120,48)] [] 300
 .simp
  refine⟨zy,zy,?_⟩
  refine K0 [112] hg (by simp[List.map_const']) (.rs _ _ _) WI ?_
  simp;exact⟨rfl,rfl⟩
 exact B3 [48] []
theorem sP (N:Nat) (A:List Ed) (f:List Int) (hn:DS ⟨N,A⟩) (hf:BQ N A f) (hm:∀ f',BQ N A f'->Ai A f'<=Ai A f) :
  AF 54 [eN ⟨N,A⟩,.rs 0 0 A.length] [⟨1,AP f,0⟩] (.rs 1 0 (EX N A).length) [some ⟨1,AP f,0⟩,some ⟨1,AP (EX N A),0⟩]:=by
 have h2:=Jl hn;obtain⟨⟨D,b,R⟩,⟨hb,h3,hR⟩,q⟩:=YY N A f hn hf.fit;simp only at hb h3 hR q;have u:=Xq N A f A.length hn;have h0:Dp D N=EX N A:=S7 h2 hf hm hb.tree hb.mem0 (NM h2 hf hm hb) h3;have h4:=iG hR N (by have:=hn.2.1;simp only at this;omega)
 rw[h0] at h4;have h5:=hf.fit.len;have h1:∀ g:Int->List AV,List.take A.length (List.map g f)=List.map g f:=λ g=>Qd zw
 refine i7.s.ai ?_;refine ar [1,2] [(0,0)] [16] 32 ?_;refine arc ⟨14,[(2,.pv (nC ⟨N,A⟩)),(5,.pt 64 0 0)],[(0,some ⟨1,AP f,0⟩),(64,some ⟨1,[[.mp 56]],0⟩),(56,some ⟨0,R,0⟩)],100⟩ ?_ ?_
 .simp
  refine BZ (i:=0) rfl (by simp[AC]) u zz zz ?_
  simp;refine K0 [0] q (by simp[AC,h1,h5]) (.mp _) (hR.plain _ _) ?_
  simp;exact AN [(0,0),(64,64),(56,56)] [] zz (by simp[AC,hR.conv'])
 refine arc ⟨14,[(4,.rs 57 0 (EX N A).length)],[(0,some ⟨1,AP f,0⟩),(57,some ⟨1,AP (EX N A),0⟩)],200⟩ ?_ ?_
 .simp
  refine JT (i:=64) (j:=56) zx rfl rfl zz (by simp[hR.conv']) h4 zz (by simp[conv]) ?_
  simp;exact DU [(0,0),(124,57)] []
 exact BR (AO.k1n 57 zy rfl zz (by simp[AC]) (by simp[AC]))
variable {key:Int} {o:List Int} {x:Fr}
variable {g:Gr} {p:A9}
theorem VP:∀ (b a:List Int),∃ l,Aa g p (a++b)=Aa g p a++l /\ ∀ x∈l,x∈b
 | [],a=>⟨[],zz,zz⟩
 | x::b,a=>by
   obtain⟨l,hl,hm⟩:=VP b (a++[x]);have e:a++x::b=a++[x]++b:=zz
   rw[e,hl];rcases WU (g:=g) (p:=p) a x with h | h
   .exact ⟨l,by rw[h],λ y hy=>Qj _ (hm y hy)⟩
   .refine ⟨[x]++l,by rw[h,Qq],λ y hy=>?_⟩
    rcases Qm.1 hy with h | h
    .rw [Qv.1 h];exact Qo
    .exact Qj _ (hm y h)
theorem Nq (hn:o.Nodup) {i:Nat} (h:i<o.length):o[i]∈Aa g p o↔CE g p (Az (Aa g p (o.take i)++[o[i]])):=by
 have hs:o.take (i+1)=o.take i++[o[i]]:=Qp h;obtain⟨l,hl,hm⟩:=VP (g:=g) (p:=p) (o.drop (i+1)) (o.take (i+1));rw[QQ] at hl
 have q:o[i]∉o.take i:=λ hx=>by
  obtain⟨j,hj,e⟩:=List.mem_take_iff_getElem.1 hx;have:=(List.getElem_inj hn).1 e;omega
 have u:o[i]∉o.drop (i+1):=λ hx=>by
  obtain⟨j,hj,e⟩:=List.mem_drop_iff_getElem.1 hx;have:=(List.getElem_inj hn).1 e;omega
 constructor
 .intro hx
  by_cases hc:CE g p (Az (Aa g p (o.take i)++[o[i]]))
  .exact hc
  .rw [hl,hs,JY hc] at hx
   rcases Qm.1 hx with h1 | h1
   .exact absurd (IC h1) q
   .exact absurd (hm _ h1) u
 .intro hc
  rw[hl,hs,HK hc];exact Q4 _ (Uo _ (Qv.2 rfl))
theorem VE {o:List Int} (hn:o.Nodup):∀ i,i<=o.length->Fk o (Aa g p o) i=Aa g p (o.take i)
 | 0,_=>by simp[Fk,Wf]
 | i+1,h=>by
   have hi:i<o.length:=h;rw[vA hi,VE hn i zy,Qp hi]
   by_cases hc:CE g p (Az (Aa g p (o.take i)++[o[i]]))
   .rw [if_pos ((Nq hn hi).2 hc),HK hc]
   .rw [if_neg (λ h=>hc ((Nq hn hi).1 h)),JY hc,QU]
theorem lF {l:List Int} (h:l.Pairwise (· < ·)):l.Nodup:=h.imp λ h=>zy
theorem Sx {a:List Int} (hn:a.Nodup) (hr:∀ k∈a,0<=k/\k<64):a.Perm (Az a):=by
 rw[<- O2 hn hr];exact(JB a).symm
theorem Lu {a:List Int} (hn:a.Nodup) (hr:∀ k∈a,0<=k/\k<64):(Az a).length=a.length:=(Sx hn hr).length_eq.symm
structure Ls (g:Gr) (p:A9) (key:Int) (before:List Int):Prop where
 mem:key∈Ag (Ao g p.lv) p.seeds
 bef:H6 (Ag (Ao g p.lv) p.seeds) before key
 nodup:(before++[key]).Nodup
 range:∀ k∈before++[key],0<=k/\k<g.size
 serve:key∈Aa g p (Ag (Ao g p.lv) p.seeds)↔CE g p (Az (before++[key]))
theorem jY (hn:o.Nodup) {i:Nat} (h:i<o.length):Hk o o[i]=o.take i:=by
 unfold Hk;rw[List.takeWhile_eq_take_findIdx_not]
 congr 1
 rw[List.findIdx_eq h];refine⟨zz,λ j hj=>?_⟩
 have:o[j]≠o[i]:=λ e=>by have:=(List.getElem_inj hn).1 e;omega
 simp[this]
theorem Dn.at_ (h:Dn g p (Ag (Ao g p.lv) p.seeds) key x) (hg:AH g):x.key=key/\Ls g p key x.before /\ ∃ i,∃ hi:i<(Ag (Ao g p.lv) p.seeds).length,(Ag (Ao g p.lv) p.seeds)[i]=key/\x.before=Aa g p ((Ag (Ao g p.lv) p.seeds).take i):=by
 have hn:=Gl (Ao g p.lv) p.seeds;have hr:∀ k∈Ag (Ao g p.lv) p.seeds,0<=k/\k<g.size:=λ k hk=>by have h:=Iq hk;exact h
 obtain⟨o,ho⟩:=AJ (Ag (Ao g p.lv) p.seeds);rw[<- ho] at h hn hr ⊢;obtain⟨i,hi,hk,hb⟩:=h.bef;rw[VE hn i zy] at hb
 refine⟨h.key_,?_,i,hi,hk,hb⟩
 have q:x.before.Sublist (Hk o key):=by
  rw[hb,<- hk,jY hn hi];exact IG _ _ rfl
 refine⟨by rw[<- ho,<- hk];exact Qi hi,by rw[<- ho];exact q,H6.nodup (order:=o) q hn,λ k u=>?_,?_⟩
 .rcases Qm.1 u with h1 | h1
  .refine hr k ?_
   rw[hb] at h1;exact QM (IC h1)
  .rw [Qv.1 h1,<- hk];exact hr _ (Qi hi)
 .rw [<- ho,hb,<- hk]
  exact Nq hn hi
theorem Ls.joined {before:List Int} (h:Ls g p key before) (hg:AH g):(Az (before++[key])).Nodup/\(before++[key]).Perm (Az (before++[key]))/\(∀ x∈Az (before++[key]),0<=x/\x<g.size):=by
 have h64:=hg.1.2.1;have hr:∀ k∈before++[key],0<=k/\k<64:=λ k hk=>⟨(h.range k hk).1,by have:=(h.range k hk).2;omega⟩
 exact⟨lF (Lq _),Sx h.nodup hr,λ x hx=>h.range x (JP.1 hx).1⟩
theorem qH {before:List Int} {W:List (List Nat)} (hg:AH g) (hp:CI g.size p) (ha:Ls g p key before) (hc:CE g p (Az (before++[key]))) (hW:Tz g p (before++[key]) W) :
  J7 g p.lv p.seeds (Ag (Ao g p.lv) p.seeds) (Bk g p) (W.map (C5 (Av g p (Az (before++[key]))))) (before++[key]):=by
 obtain⟨f,g',q,ht,hl,_⟩:=hW;obtain⟨j1,j2,j3⟩:=ha.joined hg;refine fQ hg hp j1 (λ x hx=>(j3 x hx).1) j2 q.ok.fit ht.ways (λ i _=>?_) ?_
 .have h1:=ht.used i
  have h2:=ht.bal.nonneg i;omega
 .have:Co (A8 g) (Av g p (Az (before++[key])))=(Az (before++[key])).length:=hc
  omega
theorem Dn.yes_serves (h:Dn g p (Ag (Ao g p.lv) p.seeds) key x) (hg:AH g) (hp:CI g.size p) (hk:key∈Aa g p (Ag (Ao g p.lv) p.seeds)) :
  J7 g p.lv p.seeds (Ag (Ao g p.lv) p.seeds) (Bk g p) x.paths (x.before++[key]):=by
 obtain⟨_,ha,_⟩:=h.at_ hg;obtain⟨_,_,W,hW,q⟩:=h.yes hk;rw[q];exact qH hg hp ha (ha.serve.1 hk) hW
theorem Dn.no_proves (h:Dn g p (Ag (Ao g p.lv) p.seeds) key x) (hg:AH g) (hp:CI g.size p) (hk:key∉Aa g p (Ag (Ao g p.lv) p.seeds)) :
  HD ⟨2+2*g.size,Df g p (Bk g p) (Az (x.before++[key]))⟩ x.side x.before.length:=by
 obtain⟨_,ha,i,hi,h2,h3⟩:=h.at_ hg;obtain⟨_,_,R,hR,hs⟩:=h.no hk;obtain⟨i',hi',q,hn⟩:=hR.right _ hs;simp only at q hn;have h4:i'=i:=(List.getElem_inj (Gl (Ao g p.lv) p.seeds)).1 (q.trans h2.symm);subst h4;rw[<- h3] at hn;obtain⟨j1,j2,j3⟩:=ha.joined hg;have h5:=Kx hg hp j3;have h6:Co (A8 g) (Av g p (Az (x.before++[key])))≠(Az (x.before++[key])).length:=hn.no;have u:=j2.length_eq;rw[Qe,Q8] at u;have h0:=hn.cut;have h1:=hn.ok;rw[L4 hg] at h1;exact⟨h1,by rw[h0];omega⟩
theorem Dn.checked (h:Dn g p (Ag (Ao g p.lv) p.seeds) key x) (hg:AH g) (hp:CI g.size p):RQ g p x=0:=by
 rw[Zb hg.1.2.1];obtain⟨hk,ha,_⟩:=h.at_ hg;unfold NP;simp only;rw[hk,if_neg (by simpa using ha.mem)]
 by_cases q:key∈Aa g p (Ag (Ao g p.lv) p.seeds)
 .obtain ⟨h1,h2,_⟩:=h.yes q
  rw[if_neg (by rw[h1,h2];simpa using ha.bef),if_pos h1,if_pos (h.yes_serves hg hp q)]
 .obtain ⟨h1,h2,_⟩:=h.no q
  rw[if_neg (by rw[h1,h2];simpa using ha.bef),if_neg (by rw[h1];simp),if_pos (h.no_proves hg hp q)]
theorem RU (l:List Int) (hl:l.length<=1099511627776):AF 103 [AA l] [] (.rs 0 0 l.length) [some ⟨1,AP (E0 l),0⟩]:=by
 refine pV.s.ai ?_;have hs:AF 159 [HU l] [] (.rs 0 0 l.length) [some ⟨1,AP (E0 l),0⟩]:=vW l hl;refine rs [0] [] [] ?_;apply ax [2] [(40,50)] [] 100
 .simp
  refine Au (lL l) ?_;simp;refine Di hs (by simp[conv]) ?_
  simp;rfl
 exact B3 [50] []
theorem YP (g:Gr) (p:A9) (hg:AH g) (hN:g.size<20∨(Ag (Ao g p.lv) p.seeds).length<20) (hs:p.seeds.length<=1099511627776):AF 50 [eG g,eP p] [] (.rs 0 0 (Ag (Ao g p.lv) p.seeds).length) [some ⟨1,AP (Ag (Ao g p.lv) p.seeds),0⟩]:=by
 refine pN.s.ai ?_;have h0:=hg.edges_le;have h1:=hg.gone_le;have h2:=hg.1.2.1;have u:=MX g p.lv zy zy
 have q:=vG (g:=Ao g p.lv) (S:=p.seeds) (hg.level p.lv) hN hs;obtain⟨o,ho⟩:=AJ (Ag (Ao g p.lv) p.seeds);rw[<- ho] at q ⊢;refine rs [2,3] [] [16,24] ?_;apply ay [4] [(88,50)] [] 200
 .simp
  refine Au u ?_;simp;refine C3 q ?_;simp;exact⟨rfl,rfl⟩
 exact B3 [50] []
theorem WT (l:List Int) (x:Int) (hl:l.length<=1000000):AF 51 [AA l,.I x] [] (.rs 0 0 (l.length+1)) [some ⟨1,AP (l++[x]),0⟩]:=by
 refine ZK.s.ai ?_;refine rs [0,1] [] [] ?_;refine arc ⟨14,[(4,.rs 50 0 (l.length+1))],[(50,some ⟨1,AP (l++[x]),0⟩)],200⟩ ?_ ?_
 .have q:∀ {id:Nat} {h:Nat->Option AD} {K:AV->List Nat->List (Nat × Option AD)->Prop},K (.vs 1 true (l.map λ n=>[AV.I n])) [] []->aK Tryz.prog 0 id (.slc 1 false true true) [AA l,.I (l.length:Nat),.I (l.length:Nat)] h K:=λ hK=>by
   rw[GU];refine⟨0,l.length,l.length,l.length,zz,Qk _,rfl,zz,zz,zz,Qf _,λ _=>rfl,rfl,?_⟩
   rw[List.drop_zero,Nat.sub_zero,Qd zz]
   exact hK
  simp;refine q ?_;simp;exact⟨zy,zy,DU [(88,50)] []⟩
 exact B3 [50] []
theorem MO (g:Gr) (p:A9) (ks:List Int) (hg:AH g) (hp:CI g.size p) (hk:ks.Nodup) (hr:∀ k∈ks,0<=k/\k<g.size) (hs:p.seeds.length<=64):AF 52 [eG g,eP p,AA ks] [] (eN ⟨A8 g,Av g p (Az ks)⟩) []:=by
 refine fB.s.ai ?_;have h3:=hg.1.2.1;have h0:∀ k∈ks,0<=k/\k<64:=λ k h=>by have:=hr k h;omega
 have h1:=Lu hk h0;have h2:=J4 ks;have q:=RU ks zy
 rw[O2 hk h0,<- h1] at q;have u:=lC g p (Az ks) hg hp (Kc hr) hs h2;rw[<- L4 hg,show Df g p (Bk g p) (Az ks)=Av g p (Az ks) from rfl] at u
 obtain⟨J,hJ⟩:=AJ (Az ks);obtain⟨A,hA⟩:=AJ (Av g p (Az ks));rw[<- hA] at u ⊢;rw[<- hJ] at u q;refine rs [2,3,4,6] [32] [16,24] ?_;apply ay [6,7] [(32,32)] [104] 300
 .simp
  refine C3 q ?_;simp;refine To [64] zz u (by simp[AC,DX]) ?_
  simp;exact⟨rfl,rfl⟩
 apply ax [6] [(32,32)] [] 400
 .simp [Ae]
  rfl
 exact B3 [] [32]
def gH (N:Nat) (A:List Ed) (f:List Int):Prop:=BQ N A f /\ ∀ f',BQ N A f'->Ai A f'<=Ai A f
theorem kH (N:Nat) (A:List Ed) (k:Int) (hn:DS ⟨N,A⟩) :
  ∃ f:List Int,gH N A f/\AF 53 [eN ⟨N,A⟩,.I k] [] (.tup [.rs 0 0 A.length,.B (decide (Ai A f=k))]) [some ⟨1,AP f,0⟩]:=by
 obtain⟨f,hf,h0⟩:=pU N A hn;refine⟨f,hf,?_⟩;have h1:=hf.1.fit.len;have h2:=hn.2.2.1;simp only at h2;have q:=Wv (f:=f) hn zy
 rw[if_pos hf.1] at q;have u:∀ g:Int->List AV,List.take A.length (List.map g f)=List.map g f:=λ g=>Qd zw
 refine uQ.s.ai ?_;refine rs [1,2] [] [16] ?_;apply ax [1,2,6] [(48,50)] [] 100
 .simp
  refine C3 h0 ?_;simp;rfl
 refine arc ⟨19,[(4,.rs 50 0 A.length),(5,.B (decide (Ai A f=k)))],[(50,some ⟨1,AP f,0⟩)],200⟩ ?_ ?_
 .simp
  refine FZ [50] q (by simp[AC,u,h1]) (.sc _) ?_
  simp;exact AN [(50,50)] [] (by simp<;>exact A0 (by rw[Qg];simp)) (by simp[AC])
 exact B3 [50] []
theorem Ns (g:Gr) (p:A9):∀ (n:Nat) (o:List Int),o.length=n->(CS g p o).length<=n
 | 0,o,h=>by
   obtain rfl:=Qx h;exact Qf _
 | n+1,o,h=>by
   have q:o≠[]:=λ e=>by rw[e] at h;cases h
   rw[<- UZ q];have ih:=Ns g p n o.dropLast (by rw[List.length_dropLast,h];rfl)
   by_cases hc:CE g p (Az (Aa g p o.dropLast++[o.getLast q]))
   .rw [Js hc];omega
   .rw [KX hc,Qe,Q8];omega
theorem ZG (N:Nat) (A:List Ed):(EX N A).length<=N:=by
 unfold EX;exact QR (QV ..) zz
theorem WS (g:Gr) (p:A9) (hg:AH g) (hp:CI g.size p) (hs:p.seeds.length<=64) (hN:g.size<20∨(Ag (Ao g p.lv) p.seeds).length<20) :
  ∃ f:List Int,FS g p (Az (Aa g p (Ag (Ao g p.lv) p.seeds))) f /\
    AF 20 [eG g,eP p] [] (.tup [Cj (Aa g p (Ag (Ao g p.lv) p.seeds)) f (CS g p (Ag (Ao g p.lv) p.seeds)),.I 0]) []:=by
 have bp:=hg.1.1;have b9:=hg.1.2.1;have bs:=hg.edges_le;have bt:=hg.gone_le;have hm:=Mw g p zy zy zy (by have:=hp.2.2.2.1;omega)
 rw[if_pos hg,if_pos hp] at hm;have hn:=YP g p hg hN zy
 obtain⟨o,ho⟩:=AJ (Ag (Ao g p.lv) p.seeds);have hr:∀ k∈o,0<=k/\k<g.size:=λ k hk=>by rw[ho] at hk;have h:=Iq hk;exact h
 have ht:o.Nodup:=by rw[ho];exact Gl _ _
 rw[<- ho] at hn ⊢
 have au:o.length<=64:=by
  have:=HY (b:=(List.range g.size.toNat).map λ i:Nat=>(i:Int)) ht λ x hx=>by
   have:=hr x hx;exact Ql.2 ⟨x.toNat,Q1.2 zy,zy⟩
  simp at this;omega
 have h64:∀ a:List Int,(∀ x∈a,0<=x/\x<g.size) -> ∀ x∈a,0<=x/\x<64:=λ a h x hx=>by have:=h x hx;omega
 have a5:∀ a:List Int,(∀ x∈a,0<=x/\x<g.size)->DS ⟨A8 g,Av g p (Az a)⟩:=λ a h=>LA hg hp (KI (Kc h)) hs (J4 a)
 have he:∀ a:List Int,a.Nodup->(∀ x∈a,0<=x/\x<g.size) -> ∃ f,FS g p (Az a) f/\AF 53 [eN ⟨A8 g,Av g p (Az a)⟩,.I (a.length:Nat)] [] (.tup [.rs 0 0 (Av g p (Az a)).length,.B (@decide (CE g p (Az a)) (Classical.propDecidable _))]) [some ⟨1,AP f,0⟩]:=λ a h1 h2=>by
  obtain⟨f,hf,hc⟩:=kH _ _ (a.length:Nat) (a5 a h2);have a6:=Ja hf.1 hf.2;refine⟨f,⟨hf.1,hf.2,a6.symm⟩,?_⟩;have av:=Lu h1 (h64 a h2)
  have:decide (Ai (Av g p (Az a)) f=(a.length:Nat)) = @decide (CE g p (Az a)) (Classical.propDecidable _):=by
   rw[decide_eq_decide];unfold CE;rw[a6,av]
  rw[this] at hc;exact hc
 have h6:∀ i,(Aa g p (o.take i)).Nodup:=λ i=>(ht.sublist ((IG _ _ rfl).trans (List.take_sublist _ _)));have h7:∀ i,∀ x∈Aa g p (o.take i),0<=x/\x<g.size:=λ i x hx=>hr x (QM (IC hx));obtain⟨f,hf,h8⟩:=he (Aa g p o) (by have:=h6 o.length;rwa [Ua] at this) (by have:=h7 o.length;rwa [Ua] at this)
 refine⟨f,hf,?_⟩;have hu:=MO g p (Aa g p o) hg hp (by have:=h6 o.length;rwa [Ua] at this) (by have:=h7 o.length;rwa [Ua] at this) hs
 have hv:=hf.ok.fit.len;refine uD.s.ai ?_;refine rs [2,3,4] [32] [16,24] ?_;refine AB (rx (s:=?s2) [2,3,4,6] [32] [] rfl ?o2 ?q2)
 case o2=>simp;refine Ah hm zz ?_;simp;rfl
 refine rs [2,3,4,18] [32] [] ?_;refine AE _ rfl (λ h=>by cases h) λ _=>?_
 refine AG (ar [2,3,4,7] [(32,32),(96,40)] [] 200 ?_);refine AB (arc ⟨72,[(2,.pv (gC g)),(3,.pv (pC p)),(4,.pt 32 0 0),(7,.pt 40 0 0),(23,AA o),(24,.I o.length),(25,.I 0)],[(32,some ⟨3,[[.nilS,.nilS,.nilS]],0⟩),(40,some ⟨3,[[.nilS,.nilS,.nilS]],0⟩)],400⟩ ?_ ?_)
 .simp
  refine C3 hn ?_;simp;exact AN [(32,32),(40,40)] [216] (by simp[AC,DX])
 refine AI ?_;have b0:CS g p []=[]:=rfl
 refine An (ι:=Nat) (λ i=>⟨72,[(2,.pv (gC g)),(3,.pv (pC p)),(4,.pt 32 0 0),(7,.pt 40 0 0),(23,AA o),(24,.I o.length),(25,.I i)],
   [(32,some ⟨3,[[.nilS,.nilS,.nilS]],0⟩),(40,some ⟨3,[[AA (Aa g p (o.take i)),.nilS,.rs 42 0 (CS g p (o.take i)).length]],0⟩),(42,some ⟨2,CC (CS g p (o.take i)),0⟩)],500⟩)
  (λ i=>i<=o.length) (λ i=>o.length - i) 0 (Qk _)
  (Le.lst [(32,32),(40,40)] [] [(42,2)] rfl zz zz zz zz zz zz zz (by simp[Up]) (by simp[Wf,b0,AC];exact⟨A7.rfl' zz,A7.row rfl zy (by simp[E8,Up,Wk.refl];exact Wk.nil _ _)⟩)) ?_
 intro i hi;have a7:=h6 i;have a8:=h7 i;have b1:(Aa g p (o.take i)).length<=64:=QR (XH _) (QR (List.length_take_le' i o) au);have b2:=Ns g p _ (o.take i) rfl;have bb:=List.length_take_le' i o;have h0:=λ k=>HK (g:=g) (p:=p) (o:=o.take i) (k:=k);have hh:=λ k=>JY (g:=g) (p:=p) (o:=o.take i) (k:=k);have q:=λ k=>Js (g:=g) (p:=p) (o:=o.take i) (k:=k);have u:=λ k=>KX (g:=g) (p:=p) (o:=o.take i) (k:=k);have hq:∀ x∈Aa g p (o.take i),x∈o.take i:=λ x hx=>IC hx;obtain⟨acc,h4⟩:=AJ (Aa g p (o.take i));obtain⟨R,hR⟩:=AJ (CS g p (o.take i));rw[<- h4] at a7 a8 b1 hq h0 hh q u;rw[<- hR] at b2 q u;rw[<- h4,<- hR]
 refine Bv ⟨72,[(2,.pv (gC g)),(3,.pv (pC p)),(4,.pt 32 0 0),(7,.pt 40 0 0),(23,AA o),(24,.I o.length),(25,.I i),(26,.B (decide (i<o.length)))],
   [(32,some ⟨3,[[.nilS,.nilS,.nilS]],0⟩),(40,some ⟨3,[[AA acc,.nilS,.rs 42 0 R.length]],0⟩),(42,some ⟨2,CC R,0⟩)],600⟩ rfl ?_ ?_
 .simp
  exact DU [(32,32),(40,40),(42,42)] []
 refine AB (AE _ rfl (λ h9=>?_) λ h9=>?_)
 .simp at h9
  have a9:=w6 (x:=(i:Int)+1);obtain⟨k,hk⟩:=AJ (o[i]);have ag:=hr _ (Qi h9);rw[<- hk] at ag;have b3:o.take (i+1)=o.take i++[k]:=by rw[Qp h9,hk]
  have hw:k∉acc:=λ h=>by
   have h2:=hq k h;obtain⟨j,hj,am⟩:=Qt.1 h2;rw[Ux] at am;rw[QC] at hj;have:=(QK.1 ht) j i zy h9 zy
   exact this (am.trans hk)
  have hz:∀ x∈acc++[k],0<=x/\x<g.size:=λ x hx=>by
   rcases Qm.1 hx with h | h
   .exact a8 x h
   .rw [Qv] at h;subst h;exact ag
  have an:(acc++[k]).Nodup:=Uf.2 ⟨a7,zz,λ a ha b hb=>by
   rw[Qv] at hb;subst hb
   rintro rfl
   exact hw ha⟩
  have hd:=WT acc k zy
  have hl:=MO g p (acc++[k]) hg hp an hz hs;obtain⟨fl,a0,a1⟩:=he (acc++[k]) an hz;have h3:=sP _ _ fl (a5 _ hz) a0.ok a0.most;have a2:=a0.ok.fit.len;have bo:=ZG (A8 g) (Av g p (Az (acc++[k])));have h0:=h0 k;have hh:=hh k;have q:=q k;have u:=u k;rw[<- b3] at h0 hh q u;obtain⟨A,hA⟩:=AJ (Av g p (Az (acc++[k])));obtain⟨side,a3⟩:=AJ (EX (A8 g) A);rw[<- hA] at hl a1 h3 a2 u;rw[<- a3] at h3 u;have aq:∀ h:Int->List AV,List.take A.length (List.map h fl)=List.map h fl:=λ h=>Qd zw
  obtain⟨W,hW⟩:=AJ (acc++[k]);have b4:W.length=acc.length+1:=by rw[hW];simp
  rw[<- hW] at hd hl a1 h0 hh q u;rw[<- b4] at hd;refine AG ?_
  refine Bm ⟨72,[(2,.pv (gC g)),(3,.pv (pC p)),(4,.pt 32 0 0),(7,.pt 40 0 0),(23,AA o),(24,.I o.length),(25,.I i)],
   [(32,some ⟨3,[[.nilS,.nilS,.nilS]],0⟩),(40,some ⟨3,[[AA (Aa g p (o.take (i+1))),.nilS,.rs 42 0 (CS g p (o.take (i+1))).length]],0⟩),(42,some ⟨2,CC (CS g p (o.take (i+1))),0⟩)],3000⟩ ?_ ?_
  .refine AI ?_
   refine Bv ⟨72,[(2,.pv (gC g)),(3,.pv (pC p)),(4,.pt 32 0 0),(7,.pt 40 0 0),(9,.I k),(23,AA o),(24,.I o.length),(25,.I i)],
    [(32,some ⟨3,[[.nilS,.nilS,.nilS]],0⟩),(40,some ⟨3,[[AA acc,.nilS,.rs 42 0 R.length]],0⟩),(42,some ⟨2,CC R,0⟩)],700⟩ rfl ?_ ?_
   .simp [h9,<- hk]
    exact DU [(32,32),(40,40),(42,42)] []
   refine Bv ⟨72,[(2,.pv (gC g)),(3,.pv (pC p)),(4,.pt 32 0 0),(7,.pt 40 0 0),(9,.I k),(10,AA W),(23,AA o),(24,.I o.length),(25,.I i)],
    [(32,some ⟨3,[[.nilS,.nilS,.nilS]],0⟩),(40,some ⟨3,[[AA acc,.nilS,.rs 42 0 R.length]],0⟩),(42,some ⟨2,CC R,0⟩)],800⟩ rfl ?_ ?_
   .simp
    refine C3 hd ?_;simp;exact AN [(32,32),(40,40),(42,42)] [724] (by simp[AC,DX]) (by simp[AC])
   refine Bv ⟨72,[(2,.pv (gC g)),(3,.pv (pC p)),(4,.pt 32 0 0),(7,.pt 40 0 0),(9,.I k),(10,AA W),(11,.pv (nC ⟨A8 g,A⟩)),(23,AA o),(24,.I o.length),(25,.I i)],
    [(32,some ⟨3,[[.nilS,.nilS,.nilS]],0⟩),(40,some ⟨3,[[AA acc,.nilS,.rs 42 0 R.length]],0⟩),(42,some ⟨2,CC R,0⟩)],900⟩ rfl ?_ ?_
   .simp
    refine Au hl ?_;simp;exact DU [(32,32),(40,40),(42,42)] [832]
   refine Bv ⟨72,[(2,.pv (gC g)),(3,.pv (pC p)),(4,.pt 32 0 0),(7,.pt 40 0 0),(9,.I k),(10,AA W),(11,.pv (nC ⟨A8 g,A⟩)),(12,.rs 43 0 A.length),(13,.B (@decide (CE g p (Az W)) (Classical.propDecidable _))),(23,AA o),(24,.I o.length),(25,.I i)],
    [(32,some ⟨3,[[.nilS,.nilS,.nilS]],0⟩),(40,some ⟨3,[[AA acc,.nilS,.rs 42 0 R.length]],0⟩),(42,some ⟨2,CC R,0⟩),(43,some ⟨1,AP fl,0⟩)],1000⟩ rfl ?_ ?_
   .simp
    refine C3 a1 ?_;simp;exact DU [(32,32),(40,40),(42,42),(924,43)] []
   refine AB ?_
   refine Bv ⟨72,[(2,.pv (gC g)),(3,.pv (pC p)),(4,.pt 32 0 0),(7,.pt 40 0 0),(9,.I k),(10,AA W),(11,.pv (nC ⟨A8 g,A⟩)),(12,.rs 43 0 A.length),(44,.B (@decide (CE g p (Az W)) (Classical.propDecidable _))),(23,AA o),(24,.I o.length),(25,.I i)],
    [(32,some ⟨3,[[.nilS,.nilS,.nilS]],0⟩),(40,some ⟨3,[[AA acc,.nilS,.rs 42 0 R.length]],0⟩),(42,some ⟨2,CC R,0⟩),(43,some ⟨1,AP fl,0⟩)],1100⟩ rfl ?_ ?_
   .simp
    exact DU [(32,32),(40,40),(42,42),(43,43)] []
   refine AE _ rfl (λ a4=>?_) λ a4=>?_
   .have h5:CE g p (Az W):=@of_decide_eq_true _ (Classical.propDecidable _) a4
    have hy:=h0 h5;have b5:=q h5
    refine Bv ⟨72,[(2,.pv (gC g)),(3,.pv (pC p)),(4,.pt 32 0 0),(7,.pt 40 0 0),(23,AA o),(24,.I o.length),(25,.I i)],
     [(32,some ⟨3,[[.nilS,.nilS,.nilS]],0⟩),(40,some ⟨3,[[AA W,.nilS,.rs 42 0 R.length]],0⟩),(42,some ⟨2,CC R,0⟩)],1200⟩ rfl ?_ ?_
    .simp [Ae]
     exact DU [(32,32),(40,40),(42,42)] []
    exact Ak (Al (AN [(32,32),(40,40),(42,42)] [] zz (by simp[hy,b5,AC])))
   .have h5:¬ CE g p (Az W):=@of_decide_eq_false _ (Classical.propDecidable _) a4
    have b6:=hh h5;have b7:=u h5;have b8:∀ h:Int × List Int->List AV,List.take R.length (List.map h R)=List.map h R:=λ h=>Qd zz
    refine AG (Cx rfl ?_);simp;refine BZ (i:=43) rfl (by simp[AC]) h3 zz zz ?_
    simp[b8,Ae];exact⟨zy,zy,rfl,AN [(32,32),(40,40),(1164,42)] [1140] zz (by simp[b6,b7,AC,DX])⟩
  refine Ab rfl ?_;simp[a9];exact⟨i+1,zy,zy,AN [(32,32),(40,40),(42,42)] [] (by simp[a9]) (by simp[AC])⟩
 simp at h9;obtain rfl:i=o.length:=zy
 rw[Ua] at h4 hR;rw[<- h4] at h8 hu hv;have c0:((acc.length:Nat):Int)=acc.length:=rfl;obtain⟨A,hA⟩:=AJ (Av g p (Az acc));rw[<- hA] at hu h8 hv;have aq:∀ h:Int->List AV,List.take A.length (List.map h f)=List.map h f:=λ h=>Qd zw
 refine Ak (Al ?_)
 refine Lp ⟨72,[(4,.pt 32 0 0),(7,.pt 40 0 0)],
   [(32,some ⟨3,[[.nilS,.nilS,.nilS]],0⟩),(40,some ⟨3,[[AA acc,AA f,.vs 2 false (CC R)]],0⟩)],1200⟩ rfl ?_ ?_
 .simp
  refine Au hu ?_;simp;refine C3 h8 ?_;simp[Ae];exact⟨rfl,AN [(32,32),(40,40)] [42,664] zz (by simp[AC,DX,aq,hv])⟩
 apply ax [4,5] [(32,32)] [] 1400
 .simp [Ae]
  rfl
 refine Am ?_;rw[<- h4,<- hR];exact⟨.inr rfl,AO.out [] [32] rfl zz zz zz zz⟩
variable {g:Gr} {p:A9}
theorem CJ.pair {l:List Int} {lo hi:Int} (h:CJ l lo hi):l.Pairwise (· < ·):=by
 have q:∀ (j i:Nat) (hj:j<l.length) (hij:i<j),l[i]<l[j]:=by
  intro j
  induction j with
  | zero=>intro i _ hij;omega
  | succ j ih =>
    intro i hj hij;have h1:=(h (j+1) hj).2.2 zy
    simp only[Nat.add_sub_cancel] at h1;rcases Ub i j with h2 | h2
    .have:=ih i zy h2
     omega
    .have:i=j:=zy
     subst this;exact h1
 exact QK.2 λ i j hi hj hij=>q j i hj hij
def B8:List Int->List Int->List Int->Bool
 | [],a,r=>a.isEmpty && r.isEmpty
 | x::o,a,r=>if a.head? = some x then B8 o a.tail r else if r.head? = some x then B8 o a r.tail else false
def DP:Nat->List Int->List Int->List Int->List Nat
 | _,[],_,_=>[]
 | c,x::o,a,r=>if a.head? = some x then DP (c+1) o a.tail r else if r.head? = some x then c::DP c o a r.tail else []
theorem O5:∀ {o a r:List Int},B8 o a r=true->a.Sublist o/\r.Sublist o
 | [],a,r,h=>by
   simp[B8] at h;rw[h.1,h.2];exact⟨List.nil_sublist _,List.nil_sublist _⟩
 | x::o,a,r,h=>by
   simp only[B8] at h;split at h
   .rename_i h1
    obtain⟨h2,h3⟩:=O5 h
    cases a with
    | nil=>cases h1
    | cons y a =>
      have:y=x:=by simpa using h1
      subst this;exact⟨h2.cons_cons _,h3.cons _⟩
   .split at h
    .rename_i h1
     obtain⟨h2,h3⟩:=O5 h
     cases r with
     | nil=>cases h1
     | cons y r =>
       have:y=x:=by simpa using h1
       subst this;exact⟨h2.cons _,h3.cons_cons _⟩
    .cases h
theorem PZ:∀ {o a r:List Int},B8 o a r=true -> ∀ x∈o,x∈a∨x∈r
 | [],a,r,_,x,hx=>by simp at hx
 | x::o,a,r,h,y,hy=>by
   simp only[B8] at h;split at h
   .rename_i h1
    cases a with
    | nil=>cases h1
    | cons z a =>
      have:z=x:=by simpa using h1
      subst this;rcases Qu.1 hy with rfl | hy
      .exact .inl zz
      .rcases PZ h y hy with h2 | h2
       .exact .inl (Qj _ h2)
       .exact .inr h2
   .split at h
    .rename_i h1
     cases r with
     | nil=>cases h1
     | cons z r =>
       have:z=x:=by simpa using h1
       subst this;rcases Qu.1 hy with rfl | hy
       .exact .inr zz
       .rcases PZ h y hy with h2 | h2
        .exact .inl h2
        .exact .inr (Qj _ h2)
    .cases h
theorem NA:∀ {o a r:List Int},B8 o a r=true->o.length=a.length+r.length
 | [],a,r,h=>by
   simp[B8] at h;rw[h.1,h.2];rfl
 | x::o,a,r,h=>by
   simp only[B8] at h;split at h
   .rename_i h1
    cases a with
    | nil=>cases h1
    | cons z a =>
      have:=NA h;simp at this ⊢;omega
   .split at h
    .rename_i h1
     cases r with
     | nil=>cases h1
     | cons z r =>
       have:=NA h;simp at this ⊢;omega
    .cases h
theorem L1:∀ {o a r:List Int} {c:Nat},B8 o a r=true->(DP c o a r).length=r.length
 | [],a,r,c,h=>by
   simp[B8] at h;rw[h.2];rfl
 | x::o,a,r,c,h=>by
   simp only[B8] at h;simp only[DP];split at h
   .rename_i h1
    rw[if_pos h1];exact L1 h
   .rename_i h1
    rw[if_neg h1];split at h
    .rename_i h2
     rw[if_pos h2,QS,L1 h]
     cases r with
     | nil=>cases h2
     | cons y r=>rfl
    .cases h
theorem LB:∀ {o a r:List Int} {c m:Nat},m∈DP c o a r->c<=m/\m<=c+a.length
 | [],a,r,c,m,h=>by simp[DP] at h
 | x::o,a,r,c,m,h=>by
   simp only[DP] at h;split at h
   .rename_i h1
    have:=LB h
    cases a with
    | nil=>cases h1
    | cons y a=>simp at this ⊢;omega
   .split at h
    .rcases Qu.1 h with rfl | h
     .omega
     .exact LB h
    .simp at h
theorem Nu:∀ {o a r:List Int} {k:Int},B8 o a r=true->k∉o->B8 (o++[k]) (a++[k]) r=true
 | [],a,r,k,h,_=>by
   simp[B8] at h;rw[h.1,h.2];simp[B8]
 | x::o,a,r,k,h,hk=>by
   have u:k≠x:=λ e=>hk (by simp[e])
   have q:k∉o:=λ e=>hk (Qj _ e);simp only[B8] at h;simp only[Uc,B8];split at h
   .rename_i h1
    cases a with
    | nil=>cases h1
    | cons y a =>
      have:y=x:=by simpa using h1
      subst this
      simpa using Nu h q
   .rename_i h1
    split at h
    .rename_i h2
     have h3:(a++[k]).head? ≠ some x:=by
      cases a with
      | nil=>simpa using u
      | cons y a=>simpa using h1
     rw[if_neg h3,if_pos h2];exact Nu h q
    .cases h
theorem P4:∀ {o a r:List Int} {k:Int},B8 o a r=true->k∉o->B8 (o++[k]) a (r++[k])=true
 | [],a,r,k,h,_=>by
   simp[B8] at h;rw[h.1,h.2];simp[B8]
 | x::o,a,r,k,h,hk=>by
   have u:k≠x:=λ e=>hk (by simp[e])
   have q:k∉o:=λ e=>hk (Qj _ e);simp only[B8] at h;simp only[Uc,B8];split at h
   .rename_i h1
    rw[if_pos h1];exact P4 h q
   .rename_i h1
    rw[if_neg h1];split at h
    .rename_i h2
     cases r with
     | nil=>cases h2
     | cons y r =>
       have:y=x:=by simpa using h2
       subst this
       simpa using P4 h q
    .cases h
def GR (g:Gr) (p:A9) (b:List Int) (r:Int × List Int):Prop:=HD ⟨A8 g,Av g p (Az (b++[r.1]))⟩ r.2 b.length
def EM (g:Gr) (p:A9):List Int->List Int->List Int->List (Int × List Int)->Prop
 | _,[],_,_=>True
 | b,x::o,a,R=>if a.head? = some x then EM g p (b++[x]) o a.tail R else match R with
   | []=>True
   | r::R=>GR g p b r/\EM g p b o a R
def B4 (R:List (Int × List Int)):List Int:=R.map (·.1)
theorem OA {g:Gr} {p:A9}:∀ {o b a:List Int} {R:List (Int × List Int)},B8 o a (B4 R)=true ->
  (EM g p b o a R ↔ ∀ i (h:i<R.length),GR g p (b++a.take ((DP b.length o a (B4 R)).getD i 0 - b.length)) R[i])
 | [],b,a,R,h=>by
   simp[B8,B4] at h;obtain⟨_,rfl⟩:=h;simp[EM]
 | x::o,b,a,R,h=>by
   simp only[B8] at h;simp only[EM,DP];split at h
   .rename_i h1
    rw[if_pos h1,if_pos h1];have ih:=OA (g:=g) (p:=p) (b:=b++[x]) h;rw[Qe,Q8] at ih;rw[ih]
    cases a with
    | nil=>cases h1
    | cons y a =>
      have:y=x:=by simpa using h1
      subst this;simp only[List.tail_cons] at h ih ⊢
      have key:∀ i (hi:i<R.length),b++[y]++a.take ((DP (b.length+1) o a (B4 R)).getD i 0 - (b.length+1))=b++(y::a).take ((DP (b.length+1) o a (B4 R)).getD i 0 - b.length):=λ i hi=>by
       have hl:i<(DP (b.length+1) o a (B4 R)).length:=by
        rw[L1 h,B4,Qs];exact hi
       have hm:=LB (Qi hl);have e:(DP (b.length+1) o a (B4 R)).getD i 0=(DP (b.length+1) o a (B4 R))[i]:=by rw[Qn,Qc hl,QZ]
       rw[e];obtain⟨q,hq⟩:∃ q,(DP (b.length+1) o a (B4 R))[i]=b.length+1+q:=⟨_,(Nat.add_sub_cancel' hm.1).symm⟩;rw[hq,show b.length+1+q - (b.length+1)=q by omega,show b.length+1+q - b.length=q+1 by omega,List.take_succ_cons,Qq]
       rfl
      constructor
      .intro h2 i hi
       rw[<- key i hi];exact h2 i hi
      .intro h2 i hi
       have:=h2 i hi;rw[<- key i hi] at this;exact this
   .rename_i h1
    rw[if_neg h1,if_neg h1];split at h
    .rename_i h2
     cases R with
     | nil=>cases h2
     | cons r R =>
       rw[if_pos h2];have ih:=OA (g:=g) (p:=p) (b:=b) (R:=R) h;simp only;rw[ih];constructor
       .rintro ⟨h3,h4⟩ i hi
        cases i with
        | zero=>simpa using h3
        | succ i=>exact h4 i (by simpa using hi)
       .intro h3
        refine⟨by
         have h4:=h3 0 (Nat.zero_lt_succ _);simp only[UR,Nat.sub_self,List.take_zero,QU] at h4
         exact h4,λ i hi=>h3 (i+1) (by simpa using hi)⟩
    .cases h
open Classical in
def JA (g:Gr) (p:A9) (acc flow:List Int) (R:List (Int × List Int)):Int :=
 if B8 (Ag (Ao g p.lv) p.seeds) acc (B4 R)=true then
  if BQ (A8 g) (Av g p (Az acc)) flow/\Ai (Av g p (Az acc)) flow=acc.length then
   if EM g p [] (Ag (Ao g p.lv) p.seeds) acc R then 0 else 18
  else 17
 else 1
theorem mK {N:Nat} {A:List Ed} (hn:DS ⟨N,A⟩):Gv ⟨N,A⟩ (EX N A)/\CA A (EX N A)=Co N A:=by
 have q:=Jl hn;obtain⟨f,hf,hm⟩:=K7 q;obtain⟨D,b,hb,hc⟩:=DK.grow q N [0] _ (DK.start (f:=f) (by have:=q.two;omega)) zy
 have h1:=NM q hf hm hb;have h0:=Ja hf hm;have he:Dp D N=EX N A:=S7 q hf hm hb.tree hb.mem0 h1 hc;have h2:=(Ln q hf hb.mem0 h1 hc).1
 have u:∀ x,x∈Dp D N↔x∈D:=λ x=>by
  rw[R4];exact⟨λ h=>h.2,λ h=>⟨hb.rng x h,h⟩⟩
 rw[<- he];refine⟨⟨hn,d9 (lP D N) λ k hk=>by have:=(R4.1 hk).1;simp only;omega,(u 0).2 hb.mem0,λ h=>h1 ((u 1).1 h)⟩,?_⟩
 rw[SJ,h0,h2]
 congr 1
 funext x
 exact decide_eq_decide.2 (u x)
section
variable {g:Gr} {p:A9}
theorem PR:∀ {o b a:List Int} {R:List (Int × List Int)} {k:Int},B8 o a (B4 R)=true->k∉o->EM g p b o a R->EM g p b (o++[k]) (a++[k]) R
 | [],b,a,R,k,h,_,_=>by
   simp[B8,B4] at h;obtain⟨rfl,rfl⟩:=h;simp[EM]
 | x::o,b,a,R,k,h,hk,hc=>by
   have u:k≠x:=λ e=>hk (by simp[e])
   have q:k∉o:=λ e=>hk (Qj _ e);simp only[B8] at h;simp only[EM] at hc;simp only[Uc,EM];split at h
   .rename_i h1
    rw[if_pos h1] at hc
    cases a with
    | nil=>cases h1
    | cons y a =>
      have:y=x:=by simpa using h1
      subst this
      simpa using PR h q hc
   .rename_i h1
    rw[if_neg h1] at hc
    have h3:(a++[k]).head? ≠ some x:=by
     cases a with
     | nil=>simpa using u
     | cons y a=>simpa using h1
    rw[if_neg h3];split at h
    .cases R with
     | nil=>trivial
     | cons r R=>exact⟨hc.1,PR h q hc.2⟩
    .cases h
theorem RH:∀ {o b a:List Int} {R:List (Int × List Int)} {r:Int × List Int},B8 o a (B4 R)=true->r.1∉o->GR g p (b++a) r->EM g p b o a R->EM g p b (o++[r.1]) a (R++[r])
 | [],b,a,R,r,h,_,hr,_=>by
   simp[B8,B4] at h;obtain⟨rfl,rfl⟩:=h;rw[QU] at hr;simp[EM,hr]
 | x::o,b,a,R,r,h,hk,hr,hc=>by
   have u:r.1∉o:=λ e=>hk (Qj _ e);simp only[B8] at h;simp only[EM] at hc;simp only[Uc,EM];split at h
   .rename_i h1
    rw[if_pos h1] at hc;rw[if_pos h1]
    cases a with
    | nil=>cases h1
    | cons y a =>
      have:y=x:=by simpa using h1
      subst this;exact RH h u (by simpa using hr) hc
   .rename_i h1
    rw[if_neg h1] at hc;rw[if_neg h1];split at h
    .rename_i h2
     cases R with
     | nil=>cases h2
     | cons q R=>exact⟨hc.1,RH h u hr hc.2⟩
    .cases h
theorem kX (hg:AH g) (hp:CI g.size p) {a:List Int} (h:∀ x∈a,x∈Ag (Ao g p.lv) p.seeds):D1 g p a:=by
 refine⟨λ x hx=>?_,λ x hx=>?_⟩
 .have h2:=Iq (h x hx)
  exact h2
 .have h2:=(LX (hg.level p.lv)).1 (h x hx)
  exact(Rb hp h2.1.1).2 ⟨h2.1.2,h2.2⟩
theorem D1.join {a:List Int} (h:D1 g p a):D1 g p (Az a):=h.sub λ _ hx=>(JP.1 hx).1
theorem Y3 (hg:AH g) (hp:CI g.size p) (hs:p.seeds.length<=64):∀ (n:Nat) (o:List Int),o.length=n->o.Nodup->D1 g p o ->
  CE g p (Az (Aa g p o))/\B8 o (Aa g p o) (B4 (CS g p o))=true/\EM g p [] o (Aa g p o) (CS g p o)
 | 0,o,h,_,_=>by
   obtain rfl:=Qx h;exact⟨CE.nil hg hp,rfl,trivial⟩
 | n+1,o,h,h3,h4=>by
   have h5:o≠[]:=λ e=>by rw[e] at h;cases h
   obtain⟨q,hq⟩:=AJ (o.dropLast);obtain⟨k,hk⟩:=AJ (o.getLast h5);have ho:o=q++[k]:=by rw[hq,hk];exact(UZ h5).symm
   have hd:q.length=n:=by rw[hq,List.length_dropLast,h];rfl
   rw[ho] at h3 h4 ⊢;have h6:q.Nodup:=(Uf.1 h3).1;have u:k∉q:=λ hm=>(Uf.1 h3).2.2 k hm k zz rfl
   have h7:D1 g p q:=h4.sub λ x hx=>Q4 _ hx;obtain⟨ih1,ih2,ih3⟩:=Y3 hg hp hs n q hd h6 h7
   by_cases hc:CE g p (Az (Aa g p q++[k]))
   .rw [HK hc,Js hc]
    exact⟨hc,Nu ih2 u,PR ih2 u ih3⟩
   .rw [JY hc,KX hc]
    have hi:=hg.1.2.1
    have h0:∀ x∈Aa g p q++[k],0<=x/\x<g.size:=λ x hx=>h4.rng x (by
     rcases Qm.1 hx with h2 | h2
     .exact Q4 _ (IC h2)
     .exact Uo _ h2)
    have he:(Aa g p q++[k]).Nodup:=Uf.2 ⟨h6.sublist (IG _ _ rfl),zz,λ a ha b hb=>by
     rw[Qv] at hb;subst hb
     rintro rfl
     exact u (IC ha)⟩
    have hf:=Lu he λ x hx=>by have:=h0 x hx;omega
    have hh:=LA hg hp (KI (Kc h0)) hs (J4 (Aa g p q++[k]));have h1:=mK hh;have h8:=Kx (p:=p) (ks:=Az (Aa g p q++[k])) hg hp (KI (Kc h0))
    have h9:GR g p (Aa g p q) (k,EX (A8 g) (Av g p (Az (Aa g p q++[k])))):=by
     refine⟨h1.1,?_⟩;simp only;rw[h1.2];have:Co (A8 g) (Av g p (Az (Aa g p q++[k])))≠(Az (Aa g p q++[k])).length:=hc;rw[hf,Qe,Q8] at this h8;omega
    refine⟨ih1,?_,?_⟩
    .have:=P4 (r:=B4 (CS g p q)) ih2 u
     simpa [B4] using this
    .exact RH (r:=(k,EX (A8 g) (Av g p (Az (Aa g p q++[k]))))) ih2 u (by rw[Uq];exact h9) ih3
theorem S3 (hg:AH g) (hp:CI g.size p):D1 g p (Ag (Ao g p.lv) p.seeds):=kX hg hp λ _ h=>h
theorem Zf (hg:AH g) (hp:CI g.size p) (hs:p.seeds.length<=64) {f:List Int} (hf:FS g p (Az (Aa g p (Ag (Ao g p.lv) p.seeds))) f) :
  JA g p (Aa g p (Ag (Ao g p.lv) p.seeds)) f (CS g p (Ag (Ao g p.lv) p.seeds))=0:=by
 have q:=Gl (Ao g p.lv) p.seeds;obtain⟨h1,h2,h3⟩:=Y3 hg hp hs _ _ rfl q (S3 hg hp);have h0:=hg.1.2.1
 have u:=Lu (q.sublist (IG (g:=g) (p:=p) _ _ rfl)) λ x hx=>by
  have:=(S3 hg hp).rng x (IC hx);omega
 unfold JA;rw[if_pos h2,if_pos ⟨hf.ok,by rw[hf.val,<- u];exact h1⟩,if_pos h3]
end
def gF:Gr:=⟨3,[⟨0,1,1⟩,⟨0,2,1⟩],[]⟩
theorem WR {N:Nat} {A:List Ed} {f:List Int} (h:(decide (f.length=A.length) && ((List.range A.length).all λ i=>decide (0<=f.getD i 0/\f.getD i 0<=(AQ A i).v)) && ((List.range N).all λ x=>decide (x<2∨Cl A f x=0)))=true):BQ N A f:=by
 simp only[QH,Qa,Ut,Q1] at h;exact L8.2 ⟨h.1.1,λ i hi=>h.1.2 i hi,λ x h1 h2=>(h.2 x h2).resolve_left zy⟩
variable {g:Gr} {p:A9}
theorem h64 (hg:AH g) {a:List Int} (h:∀ x∈a,0<=x/\x<g.size):∀ x∈a,0<=x/\x<64:=λ x hx=>by
 have:=h x hx;have:=hg.1.2.1;omega
variable {g:Gr} {p:A9}
variable {g:Gr} {p:A9}
theorem Dn.uniq {key:Int} {x y:Fr} (hg:AH g) (hx:Dn g p (Ag (Ao g p.lv) p.seeds) key x) (hy:Dn g p (Ag (Ao g p.lv) p.seeds) key y) :
  x.key=y.key/\x.acc=y.acc/\x.before=y.before/\x.side=y.side/\x.paths.length=y.paths.length:=by
 obtain⟨h5,hx2,i,hi,u,h6⟩:=hx.at_ hg;obtain⟨h7,hd,j,hj,h8,h9⟩:=hy.at_ hg;have hij:i=j:=(List.getElem_inj (Gl (Ao g p.lv) p.seeds)).1 (u.trans h8.symm);subst hij;have hb:x.before=y.before:=h6.trans h9.symm;refine⟨h5.trans h7.symm,?_⟩
 by_cases q:key∈Aa g p (Ag (Ao g p.lv) p.seeds)
 .obtain ⟨x1,x2,W,⟨f,g',_,_,hl,_⟩,x3⟩:=hx.yes q
  obtain⟨y1,y2,V,⟨f',g'',_,_,he,_⟩,y3⟩:=hy.yes q;refine⟨x1.trans y1.symm,hb,x2.trans y2.symm,?_⟩;rw[x3,y3,Qs,Qs];rw[hb] at hl;omega
 .obtain ⟨x1,x2,R,hR,hs⟩:=hx.no q
  obtain⟨y1,y2,R',hc,hs'⟩:=hy.no q;refine⟨x1.trans y1.symm,hb,?_,by rw[x2,y2]⟩
  obtain⟨a,ha,h0,hn⟩:=hR.right _ hs;obtain⟨b,hf,h3,h4⟩:=hc.right _ hs';simp only at h0 h3 hn h4;have h1:a=i:=(List.getElem_inj (Gl (Ao g p.lv) p.seeds)).1 (h0.trans u.symm);have h2:b=i:=(List.getElem_inj (Gl (Ao g p.lv) p.seeds)).1 (h3.trans u.symm);subst h1;subst h2;rw[hn.eq,h4.eq]
def g1:Gr:=⟨1,[],[]⟩
def p1:A9:=⟨[0],[2],1⟩
variable {g:Gr} {p:A9}
theorem fI {l:List Int} {i:Nat} (h:i<l.length):(l.drop i).head? = some l[i]:=by rw[List.head?_drop,Qc h]
theorem Ww {l:List Int} {i:Nat} (h:¬ i<l.length):(l.drop i).head? = none:=by rw[List.head?_drop,Q6 zy]
structure N5 where
 n:Nat
 i:Nat
 k:Nat
 L:List Int
theorem u9 (o acc f:List Int) (R:List (Int × List Int)) (hf:o.length<=100) (ha:acc.length<=1000) (hR:R.length<=1000) :
  ∃ L:List Int,(B8 o acc (B4 R)=true->L=(DP 0 o acc (B4 R)).map λ (n:Nat)=>(n:Int))/\AF 55 [AA o,Cj acc f R] [] (.tup [AA L,.B (B8 o acc (B4 R))]) []:=by
 refine sO.s.acallsX (args:=[AA o,Cj acc f R]) (hs:=[]) (λ L=>.tup [AA L,.B (B8 o acc (B4 R))]) (λ _=>[]) (λ L:List Int=>B8 o acc (B4 R)=true->L=(DP 0 o acc (B4 R)).map λ (n:Nat)=>(n:Int)) (Ar rfl) (Ar rfl) (λ _=>Qf _) ?_;show AY _ 0 _ _ ⟨70,[(0,AA o),(1,Cj acc f R)],[],16⟩;have hg:(B4 R).length=R.length:=by simp[B4]
 obtain⟨b,hb⟩:=AJ (B8 o acc (B4 R));rw[<- hb];refine BM ⟨70,[(0,AA o),(3,.pv [AA acc,AA f,.vs 2 false (CC R)])],[],40⟩ [] [16] ?_;refine arc ⟨70,[(0,AA o),(3,.pv [AA acc,AA f,.vs 2 false (CC R)]),(6,.rs 50 0 0)],[(50,some ⟨1,[],0⟩)],100⟩ ?_ ?_
 .simp
  exact Le.lst [] [] [(50,1)] rfl zz zz zz zz zz zz zz (by simp[Up]) zz
 refine BM ⟨70,[(0,AA o),(3,.pv [AA acc,AA f,.vs 2 false (CC R)]),(6,.rs 50 0 0),(7,.I 0),(8,.I 0)],[(50,some ⟨1,[],0⟩)],200⟩ [(50,50)] [] ?_;refine AB (BM ⟨70,[(3,.pv [AA acc,AA f,.vs 2 false (CC R)]),(6,.rs 50 0 0),(7,.I 0),(8,.I 0),(11,AA o),(12,.I o.length),(13,.I 0)],[(50,some ⟨1,[],0⟩)],300⟩ [(50,50)] [] ?_);refine AI ?_
 refine An (ι:=N5) (λ s=>⟨70,[(3,.pv [AA acc,AA f,.vs 2 false (CC R)]),(6,.rs 50 0 s.L.length),(7,.I s.i),(8,.I s.k),(11,AA o),(12,.I o.length),(13,.I s.n)],[(50,some ⟨1,AP s.L,0⟩)],300⟩)
  (λ s=>s.n<=o.length/\s.i<=acc.length/\s.k<=R.length/\s.L.length<=s.n/\b=B8 (o.drop s.n) (acc.drop s.i) ((B4 R).drop s.k)/\s.L++(DP s.i (o.drop s.n) (acc.drop s.i) ((B4 R).drop s.k)).map (λ (n:Nat)=>(n:Int))=(DP 0 o acc (B4 R)).map (λ (n:Nat)=>(n:Int)))
  (λ s=>o.length - s.n) ⟨0,0,0,[]⟩ ⟨Qk _,Qk _,Qk _,Qf _,by simpa using hb,zz⟩ (CK [(50,50)] []) ?_
 rintro⟨n,i,k,L⟩ ⟨hn,hi,hk,hL,hp,u⟩
 simp only at hn hi hk hL hp u;refine BM ⟨70,[(3,.pv [AA acc,AA f,.vs 2 false (CC R)]),(6,.rs 50 0 L.length),(7,.I i),(8,.I k),(11,AA o),(12,.I o.length),(13,.I n),(14,.B (decide (n<o.length)))],[(50,some ⟨1,AP L,0⟩)],400⟩ [(50,50)] [] ?_;refine AB (AE _ rfl (λ h6=>?_) λ h6=>?_)
 .simp at h6
  have h4:=w6 (x:=(n:Int)+1);have hc:=w6 (x:=(i:Int)+1);have hd:=w6 (x:=(k:Int)+1);obtain⟨x,hx⟩:=AJ (o[n]);have he:o.drop n=x::o.drop (n+1):=by rw[QO h6,hx]
  rw[he] at hp u;simp only[B8,DP,List.tail_drop] at hp u;refine AG (AB (AI (arc ⟨70,[(3,.pv [AA acc,AA f,.vs 2 false (CC R)]),(6,.rs 50 0 L.length),(7,.I i),(8,.I k),(10,.I x),(11,AA o),(12,.I o.length),(13,.I n)],[(50,some ⟨1,AP L,0⟩)],500⟩ ?_ ?_)))
  .simp [h6,<- hx]
   exact DU [(50,50)] []
  refine AI (arc ⟨70,[(3,.pv [AA acc,AA f,.vs 2 false (CC R)]),(6,.rs 50 0 L.length),(7,.I i),(8,.I k),(10,.I x),(11,AA o),(12,.I o.length),(13,.I n),(17,.B (decide ((acc.drop i).head? = some x)))],[(50,some ⟨1,AP L,0⟩)],700⟩ ?_ ?_)
  .by_cases q:i<acc.length
   .have hh:=fI q
    simp[q];exact AN [(50,50)] [] (by simp<;>exact A0 (by rw[Qg];simp[q])) (by simp[AC])
   .have hh:=Ww q
    have hj:acc.length<=i:=zy
    simp[q];exact AN [(50,50)] [] (by simp[q]) (by simp[AC])
  refine AE _ rfl (λ h9=>?_) λ h9=>?_
  .rw [Qa] at h9
   rw[if_pos h9] at hp u;have q:i<acc.length:=Decidable.byContradiction λ h=>by rw[Ww h] at h9;cases h9
   refine Ab rfl ?_;simp;refine Ab rfl ?_;simp;exact⟨⟨n+1,i+1,k,L⟩,⟨by simp only;omega,by simp only;omega,hk,by simp only;omega,hp,u⟩,by simp only;omega,AN [(50,50)] [] (by simp[h4,hc]) (by simp[AC])⟩
  rw[Qb] at h9;rw[if_neg h9] at hp u;refine arc ⟨70,[(3,.pv [AA acc,AA f,.vs 2 false (CC R)]),(6,.rs 50 0 L.length),(7,.I i),(8,.I k),(11,AA o),(12,.I o.length),(13,.I n),(34,.B (decide (((B4 R).drop k).head? = some x)))],[(50,some ⟨1,AP L,0⟩)],900⟩ ?_ ?_
  .by_cases h1:k<R.length
   .have hh:((B4 R).drop k).head? = some R[k].1:=by rw[List.head?_drop,B4,QB,Qc h1];rfl
    have h3:(B4 R)[k]? = some R[k].1:=by rw[<- List.head?_drop];exact hh
    simp[h1];exact AN [(50,50)] [] (by simp[h3]<;>exact A0 (by rw[Qg];simp)) (by simp[AC])
   .have hh:((B4 R).drop k).head? = none:=by rw[List.head?_drop,Q6 zy]
    have h3:(B4 R)[k]? = none:=by rw[<- List.head?_drop];exact hh
    simp[h1];exact AN [(50,50)] [] (by simp[h3,h1]) (by simp[AC])
  refine AE _ rfl (λ h0=>?_) λ h0=>?_
  .rw [Qa] at h0
   rw[if_pos h0] at hp u;have h1:k<R.length:=Decidable.byContradiction λ h=>by rw[List.head?_drop,Q6 zy] at h0;cases h0
   refine arc ⟨70,[(3,.pv [AA acc,AA f,.vs 2 false (CC R)]),(6,.rs 50 0 L.length),(7,.I i),(8,.I (k+1:Nat)),(11,AA o),(12,.I o.length),(13,.I n)],[(50,some ⟨1,AP L,0⟩)],1000⟩ ?_ ?_
   .simp
    exact AN [(50,50)] [] (by simp[hd]) (by simp[AC])
   have h2:∀ h:Int->List AV,List.take L.length (List.map h L)=List.map h L:=λ h=>Qd zz
   refine Ab rfl ?_;simp[h2];refine⟨zy,zy,?_⟩
   refine Ab rfl ?_;simp;exact⟨⟨n+1,i,k+1,L++[(i:Int)]⟩,⟨by simp only;omega,hi,h1,zw,hp,by simpa using u⟩,by simp only;omega,AN [(1024,50)] [] (by simp[h4]) (by simp[AC])⟩
  rw[Qb] at h0;rw[if_neg h0] at hp;subst hp;refine arc ⟨70,[(4,AA []),(5,.B false)],[],1000⟩ ?_ ?_
  .simp
   exact AN [] [] (by simp;exact Wk.nil _ _)
  exact Am (Bu.mk (.inr rfl) [] (λ h=>by cases h) (AO.out [] [] rfl zz zz (by simp;exact .refl _) zz))
 simp at h6;obtain rfl:n=o.length:=zy
 rw[List.drop_length] at hp u
 have h5:b=(decide (i=acc.length) && decide (k=R.length)):=by
  rw[hp];simp only[B8];rw[Qg];simp[List.isEmpty_iff];omega
 refine Ak (Al ?_);have h2:∀ h:Int->List AV,List.take L.length (List.map h L)=List.map h L:=λ h=>Qd zz
 refine Bi ⟨70,[(4,AA L),(5,.B b)],[],1000⟩ ?_ ?_
 .by_cases q:i=acc.length
  .simp [q]
   exact⟨rfl,AN [] [50] (by simp[h5,q,AC,h2]<;>exact A0 (by rw[Qg];simp;omega))⟩
  .have h7:¬ (i:Int)=acc.length:=zy
   have h8:((i:Int) == (acc.length:Int))=false:=by simpa using h7
   simp[h8];exact⟨rfl,AN [] [50] (by simp[h5,q,AC,h2])⟩
 exact Am (Bu.mk (.inr rfl) L (λ _=>by simpa [DP] using u) (AO.out [] [] rfl zz zz zz zz))
theorem tJ {o a r:List Int} (hn:o.Nodup) (h:B8 o a r=true):o.Perm (a++r) :=
 MY hn (λ x hx=>Qm.2 (PZ h x hx)) (by rw[NA h,Qe];exact Qf _)
theorem Np {g:Gr} (hg:AH g) (p:A9):(Ag (Ao g p.lv) p.seeds).length<=64:=by
 have u:=hg.1.1;have q:=hg.1.2.1;have hr:∀ x∈Ag (Ao g p.lv) p.seeds,0<=x/\x<g.size:=λ x hx=>by have h:=Iq hx;exact h
 have:=HY (b:=(List.range g.size.toNat).map λ i:Nat=>(i:Int)) (Gl (Ao g p.lv) p.seeds) λ x hx=>by
  have:=hr x hx;exact Ql.2 ⟨x.toNat,Q1.2 zy,zy⟩
 rw[Qs,UD] at this;omega
open Classical in
theorem uZ (g:Gr) (p:A9) (acc f:List Int) (R:List (Int × List Int)) (hg:AH g) (hp:CI g.size p) (hs:p.seeds.length<=64) (hN:g.size<20∨(Ag (Ao g p.lv) p.seeds).length<20) (ha:acc.length<=1000) (hR:R.length<=1000) (hf:f.length<=1099511627776) (au:∀ r∈R,r.2.length<=9223372036854775807) :
  AF 21 [eG g,eP p,Cj acc f R] [] (.I (JA g p acc f R)) []:=by
 have bo:=hg.1.1;have bb:=hg.1.2.1;have bp:=hg.edges_le;have bs:=hg.gone_le;have hl:=Mw g p zy zy zy (by have:=hp.2.2.2.1;omega)
 rw[if_pos hg,if_pos hp] at hl;have hn:=YP g p hg hN zy
 have av:=Np hg p;unfold JA;obtain⟨o,ho⟩:=AJ (Ag (Ao g p.lv) p.seeds);have a4:∀ k∈o,0<=k/\k<g.size:=λ k hk=>by rw[ho] at hk;have h:=Iq hk;exact h
 have a5:o.Nodup:=by rw[ho];exact Gl _ _
 rw[<- ho] at hn av ⊢;obtain⟨L,hL,hy⟩:=u9 o acc f R zy ha hR
 refine iK.s.ac ?_;show AY _ 0 _ _ ⟨80,[(0,eG g),(1,eP p),(2,Cj acc f R)],[],16⟩;refine BM ⟨80,[(3,.pv (gC g)),(4,.pv (pC p)),(5,.pv [AA acc,AA f,.vs 2 false (CC R)])],[],60⟩ [] [16,24,32] ?_;refine AB (rx (s:=?s2) [3,4,5,7] [] [] rfl ?o2 ?q2)
 case o2=>simp;refine Ah hl zz ?_;simp;rfl
 refine rs [3,4,5,18] [] [] ?_;refine AE _ rfl (λ h=>by cases h) λ _=>?_
 refine AG (Bi ⟨80,[(3,.pv (gC g)),(4,.pv (pC p)),(5,.pv [AA acc,AA f,.vs 2 false (CC R)]),(8,AA L),(9,.B (B8 o acc (B4 R)))],[],300⟩ ?_ ?_)
 .simp
  refine C3 hn ?_;simp;refine To [124] zz hy (by simp[AC,DX]) ?_
  simp;exact⟨rfl,CK [] []⟩
 refine AB (BM ⟨80,[(3,.pv (gC g)),(4,.pv (pC p)),(5,.pv [AA acc,AA f,.vs 2 false (CC R)]),(8,AA L),(29,.B (!B8 o acc (B4 R)))],[],400⟩ [] [] ?_);refine AE _ rfl (λ h8=>?_) λ h8=>?_
 .have h0:¬ B8 o acc (B4 R)=true:=by simpa using h8
  rw[if_neg h0];refine rs [6] [] [] ?_;exact Bg
 have h0:B8 o acc (B4 R)=true:=by simpa using h8
 rw[if_pos h0];have hL:=hL h0;have hq:=O5 h0;have h6:=(tJ a5 h0).nodup_iff.1 a5;have b0:(B4 R).length=R.length:=by simp[B4]
 have b1:∀ k∈B4 R,0<=k/\k<g.size:=λ k hk=>a4 k (hq.2.subset hk);have he:∀ k∈acc,0<=k/\k<g.size:=λ k hk=>a4 k (hq.1.subset hk);have a6:acc.Nodup:=(Uf.1 h6).1;have ht:=MO g p acc hg hp a6 he hs;have hz:∀ a:List Int,(∀ x∈a,0<=x/\x<g.size)->DS ⟨A8 g,Av g p (Az a)⟩:=λ a h=>LA hg hp (KI (Kc h)) hs (J4 a);have h1:=Yy (f:=f) (hz acc he) hf;have a0:=Wv (f:=f) (hz acc he) hf;have hu:=OA (g:=g) (p:=p) (b:=[]) h0;obtain⟨A,hA⟩:=AJ (Av g p (Az acc));rw[<- hA] at ht h1 a0;rw[<- hA];refine AG (AB (arc ⟨80,[(3,.pv (gC g)),(4,.pv (pC p)),(5,.pv [AA acc,AA f,.vs 2 false (CC R)]),(8,AA L),(10,.pv (nC ⟨A8 g,A⟩))],[],500⟩ ?_ ?_))
 .simp
  refine Au ht ?_;simp;exact CK [] [440]
 refine Bi ⟨80,[(3,.pv (gC g)),(4,.pv (pC p)),(5,.pv [AA acc,AA f,.vs 2 false (CC R)]),(8,AA L),(49,.B (!decide (BQ (A8 g) A f/\Ai A f=acc.length)))],[],700⟩ ?_ ?_
 .by_cases h7:BQ (A8 g) A f
  .rw [QX h7] at h1
   rw[if_pos h7] at a0;simp;refine Au h1 ?_;simp;refine Au a0 ?_;simp;exact⟨rfl,AN [] [] (by simp[h7]<;>exact A0 (by rw[Qg];simp))⟩
  .rw [QJ h7] at h1
   simp;refine Au h1 ?_;simp;exact⟨rfl,AN [] [] (by simp[h7])⟩
 refine AE _ rfl (λ hh=>?_) λ hh=>?_
 .have h9:¬ (BQ (A8 g) A f/\Ai A f=acc.length):=λ h=>by rw[QX h] at hh;cases hh
  rw[if_neg h9];refine rs [6] [] [] ?_;exact Bg
 have h9:BQ (A8 g) A f/\Ai A f=acc.length:=by simpa using hh
 rw[if_pos h9];refine AG (AB (rs [3,4,5,8,51,52,53] [] [] ?_));refine AI ?_
 refine An (ι:=Nat) (λ i=>⟨80,[(3,.pv (gC g)),(4,.pv (pC p)),(5,.pv [AA acc,AA f,.vs 2 false (CC R)]),(8,AA L),(51,.vs 2 false (CC R)),(52,.I R.length),(53,.I i)],[],800⟩)
  (λ i=>i<=R.length /\ ∀ j (h:j<R.length),j<i->GR g p ([]++acc.take ((DP 0 o acc (B4 R)).getD j 0 - 0)) R[j]) (λ i=>R.length - i) 0 ⟨Qk _,λ j _ h=>absurd h (UW _)⟩ (CK [] []) ?_
 rintro i ⟨hi,hv⟩
 refine rs [3,4,5,8,51,52,53,54] [] [] ?_;refine AB (AE _ rfl (λ q=>?_) λ q=>?_)
 .simp at q
  have b2:=w6 (x:=(i:Int)+1);have hc:i<(DP 0 o acc (B4 R)).length:=by rw[L1 h0,b0];exact q
  have a7:=LB (Qi hc);have a8:(DP 0 o acc (B4 R)).getD i 0=(DP 0 o acc (B4 R))[i]:=by rw[Qn,Qc hc,QZ]
  obtain⟨m,hm⟩:=AJ ((DP 0 o acc (B4 R))[i]);rw[<- hm] at a7 a8;have a1:L[i]? = some (m:Int):=by rw[hL,QB,Qc hc,<- hm];rfl
  have a9:i<L.length:=(Qz.1 a1).1;have ag:L[i]=(m:Int):=by rw[Qc a9] at a1;exact Qh a1
  have h2:GR g p ([]++acc.take ((DP 0 o acc (B4 R)).getD i 0 - 0)) R[i]↔GR g p (acc.take m) R[i]:=by rw[a8,Nat.sub_zero,Uq]
  have hw:=au _ (Qi q);obtain⟨r,hr⟩:=AJ (R[i]);have ai:r.1∈B4 R:=by rw[hr];exact Ql.2 ⟨_,Qi q,rfl⟩
  rw[<- hr] at h2 hw;have a2:(acc.take m).length=m:=by rw[QC];omega
  have am:∀ x∈acc.take m++[r.1],0<=x/\x<g.size:=λ x hx=>by
   rcases Qm.1 hx with h | h
   .exact he x (QM h)
   .rw [Qv] at h;subst h;exact b1 _ ai
  have b3:(acc.take m++[r.1]).Nodup:=Uf.2 ⟨a6.sublist (List.take_sublist _ _),zz,λ a ha b hb=>by
   rw[Qv] at hb;subst hb
   exact(Uf.1 h6).2.2 a (QM ha) _ ai⟩
  have u:=WT (acc.take m) r.1 zy
  have h3:=MO g p (acc.take m++[r.1]) hg hp b3 am hs;have h4:=bX ⟨A8 g,Av g p (Az (acc.take m++[r.1]))⟩ r.2 m (by have:=(hz _ am).2.2.1;simp only at this ⊢;omega) hw
  have b4:decide (HD ⟨A8 g,Av g p (Az (acc.take m++[r.1]))⟩ r.2 m)=decide (GR g p (acc.take m) r):=by
   unfold GR;rw[a2]
  rw[b4] at h4;rw[a2] at u;obtain⟨W,hW⟩:=AJ (acc.take m++[r.1]);have an:W.length=m+1:=by rw[hW,Qe,a2];rfl
  rw[<- hW] at u h3 h4;rw[<- an] at u;obtain⟨A2,b5⟩:=AJ (Av g p (Az W));rw[<- b5] at h3 h4;have b6:IntKind.i64.wrap ((W.length:Int) - 1)=(m:Int):=by rw[an,w6];omega
  have b7:m<=acc.length:=zy
  refine AG (AB (AI (arc ⟨80,[(3,.pv (gC g)),(4,.pv (pC p)),(5,.pv [AA acc,AA f,.vs 2 false (CC R)]),(8,AA L),(11,.I i),(12,.pv [.I r.1,AA r.2]),(51,.vs 2 false (CC R)),(52,.I R.length),(53,.I i)],[],1000⟩ ?_ ?_)))
  .simp [q,<- hr]
   exact CK [] [832]
  refine Bi ⟨80,[(3,.pv (gC g)),(4,.pv (pC p)),(5,.pv [AA acc,AA f,.vs 2 false (CC R)]),(8,AA L),(12,.pv [.I r.1,AA r.2]),(13,AA W),(51,.vs 2 false (CC R)),(52,.I R.length),(53,.I i)],[],1200⟩ ?_ ?_
  .simp [a9,ag,b7]
   refine Di u (by simp[UH]) ?_
   simp;exact⟨rfl,AN [] [1072] (by simp[AC,DX])⟩
  refine Bi ⟨80,[(3,.pv (gC g)),(4,.pv (pC p)),(5,.pv [AA acc,AA f,.vs 2 false (CC R)]),(8,AA L),(51,.vs 2 false (CC R)),(52,.I R.length),(53,.I i),(78,.B (!decide (GR g p (acc.take m) r)))],[],1400⟩ ?_ ?_
  .simp
   refine Au h3 ?_;simp[b6];refine Au h4 ?_;simp;exact⟨rfl,CK [] []⟩
  refine AE _ rfl (λ a3=>?_) λ a3=>?_
  .have hd:¬ GR g p (acc.take m) r:=by simpa using a3
   have b8:¬ EM g p [] o acc R:=λ h=>hd (h2.1 (by rw[hr];exact hu.1 h i q))
   rw[if_neg b8];refine rs [6] [] [] ?_;exact Bg
  have hd:GR g p (acc.take m) r:=by simpa using a3
  refine AG (Ab rfl ?_);simp;refine⟨i+1,⟨q,λ j hj b9=>?_⟩,zy,AN [] [] (by simp[b2])⟩
  rcases Q2.1 b9 with h | h
  .exact hv j hj h
  .subst h
   have h5:=h2.2 hd;rw[hr] at h5;exact h5
 simp at q;obtain rfl:i=R.length:=zy
 have aq:EM g p [] o acc R:=hu.2 λ j hj=>hv j hj hj;rw[if_pos aq];refine Ak (Al (rs [6] [] [] ?_));exact Bg
open Classical in
theorem qD (g:Gr) (p:A9) (acc f:List Int) (R:List (Int × List Int)) (hg:AH g) (hp:CI g.size p) (hs:p.seeds.length<=64) (hN:g.size<20∨(Ag (Ao g p.lv) p.seeds).length<20) (ha:acc.length<=1000) (hR:R.length<=1000) (hf:f.length<=1099511627776) (q:∀ r∈R,r.2.length<=140737488355328):AF 21 [eG g,eP p,Cj acc f R] [] (.I (JA g p acc f R)) [] :=
 uZ g p acc f R hg hp hs hN ha hR hf (λ r hr=>by have:=q r hr;omega)
variable {N:Nat} {A:List Ed} {f:List Int}
end Go.Proofs.YtkabgnlcllmleaaGreat
namespace Go.Proofs.YtkabgnlcllmleaaGreat
open Go
variable {g:Gr}
theorem mN (R S:List (Int × List Int)) (hR:R.length<=1000) (hS:S.length<=1000) (hr:∀ r∈R,r.2.length<=140737488355328):AF 97 [.vs 2 false (CC R),.vs 2 false (CC S)] [] (.B (decide (R=S))) []:=by
 refine tW.s.ac ?_;show AY _ 0 _ _ ⟨42,[(0,.vs 2 false (CC R)),(1,.vs 2 false (CC S))],[],16⟩;refine rs [0,1] [] [] ?_;refine AB (arc ⟨42,[(0,.vs 2 false (CC R)),(1,.vs 2 false (CC S)),(10,.B (!decide (R.length=S.length)))],[],100⟩ ?_ ?_)
 .simp
  exact AN [] [] (by simp<;>exact A0 (by rw[Qg];simp<;>omega))
 refine AE _ rfl (λ h3=>?_) λ h3=>?_
 .have h4:¬ R.length=S.length:=by simpa using h3
  have h5:¬ R=S:=λ h=>h4 (by rw[h])
  refine rs [4] [] [] ?_;exact BR (AO.one (by simp[h5]))
 have h4:R.length=S.length:=by simpa using h3
 refine AG (AB (rs [0,1,5] [] [] ?_));refine AI (An (ι:=Nat) (λ i=>⟨42,[(0,.vs 2 false (CC R)),(1,.vs 2 false (CC S)),(5,.I i)],[],200⟩) (λ i=>i<=R.length /\ ∀ k (h:k<R.length) (h':k<S.length),k<i->R[k]=S[k]) (λ i=>R.length - i) 0 ⟨Qk _,λ k _ _ h=>absurd h (UW _)⟩ (CK [] []) ?_)
 rintro i ⟨hi,hp⟩
 refine AB (rs [0,1,5,14] [] [] ?_);refine AE _ rfl (λ h7=>?_) λ h7=>?_
 .simp at h7
  have h8:i<S.length:=zy
  have hc:=w6 (x:=(i:Int)+1);have ha:=hr _ (Qi h7);obtain⟨⟨k1,s1⟩,u⟩:∃ r,r=R[i]:=⟨_,rfl⟩;obtain⟨⟨k2,s2⟩,q⟩:∃ r,r=S[i]:=⟨_,rfl⟩;rw[<- u] at ha;have h6:=Jm s1 s2 ha;refine AG (AB (AI (Bi ⟨42,[(0,.vs 2 false (CC R)),(1,.vs 2 false (CC S)),(5,.I i),(41,.B (!decide (k1=k2/\s1=s2)))],[],600⟩ ?_ ?_)))
  .by_cases hk:k1=k2
   .subst hk
    simp[h7,h8,<- u,<- q];refine Au h6 ?_;simp;exact⟨rfl,CK [] []⟩
   .have hd:(k1 == k2)=false:=by simpa using hk
    simp[h7,h8,<- u,<- q,hd,bne];exact⟨rfl,AN [] [] (by simp[hk])⟩
  refine AE _ rfl (λ h9=>?_) λ h9=>?_
  .have h0:¬ (k1=k2/\s1=s2):=λ h=>by rw[QX h] at h9;cases h9
   have h5:¬ R=S:=λ h=>by
    subst h;rw[<- u] at q;exact h0 ⟨(congrArg Prod.fst q).symm,(congrArg Prod.snd q).symm⟩
   refine rs [4] [] [] ?_;exact BR (AO.one (by simp[h5]))
  have h0:k1=k2/\s1=s2:=by simpa using h9
  refine AG (Ab rfl ?_);simp;refine⟨i+1,⟨zy,λ k h h' he=>?_⟩,zy,AN [] [] (by simp[hc])⟩
  rcases Q2.1 he with h2 | h2
  .exact hp k h h' h2
  .subst h2
   rw[<- u,<- q,h0.1,h0.2]
 simp at h7;have hb:R=S:=List.ext_getElem h4 λ k h1 h2=>hp k h1 h2 zy
 refine Ak (Al (rs [4] [] [] ?_));exact BR (AO.one (by simp[hb]))
theorem pH (a f b f':List Int) (R S:List (Int × List Int)) (ha:a.length<=140737488355328) (hR:R.length<=1000) (hS:S.length<=1000) (hr:∀ r∈R,r.2.length<=140737488355328):AF 44 [Cj a f R,Cj b f' S] [] (.B (decide (a=b/\R=S))) []:=by
 refine gO.s.ac ?_;show AY _ 0 _ _ ⟨17,[(0,Cj a f R),(1,Cj b f' S)],[],16⟩;have h1:=Jm a b ha;have h2:=mN R S hR hS hr;refine BM ⟨17,[(2,.pv [AA a,AA f,.vs 2 false (CC R)]),(3,.pv [AA b,AA f',.vs 2 false (CC S)])],[],60⟩ [] [16,24] ?_;refine arc ⟨17,[(4,.B (decide (a=b/\R=S)))],[],300⟩ ?_ ?_
 .by_cases q:a=b
  .rw [QX q] at h1
   simp;refine Au h1 ?_;simp;refine Au h2 ?_;simp;exact AN [] [] (by simp[q])
  .rw [QJ q] at h1
   simp;refine Au h1 ?_;simp;exact AN [] [] (by simp[q])
 exact Bg
theorem X7 (g:Gr) (p:A9):∀ (n:Nat) (o:List Int),o.length=n -> ∀ r∈CS g p o,r.2.length<=A8 g
 | 0,o,h,r,hr=>by
   obtain rfl:=Qx h
   cases hr
 | n+1,o,h,r,hr=>by
   have q:o≠[]:=λ e=>by rw[e] at h;cases h
   rw[<- UZ q] at hr;have ih:=X7 g p n o.dropLast (by rw[List.length_dropLast,h];rfl)
   by_cases hc:CE g p (Az (Aa g p o.dropLast++[o.getLast q]))
   .rw [Js hc] at hr;exact ih r hr
   .rw [KX hc] at hr
    rcases Qm.1 hr with h2 | h2
    .exact ih r h2
    .rw [Qv] at h2
     rw[h2];exact ZG _ _
abbrev BK (g:Gr) (p:A9):List Int:=Aa g p (Ag (Ao g p.lv) p.seeds)
abbrev CQ (g:Gr) (p:A9):List (Int × List Int):=CS g p (Ag (Ao g p.lv) p.seeds)
theorem Yk (hg:AH g) (p:A9):(BK g p).length<=64:=QR (XH _) (Np hg p)
theorem dK (hg:AH g) (p:A9):(CQ g p).length<=64:=QR (Ns _ _ _ _ rfl) (Np hg p)
theorem nS (hg:AH g) (p:A9):∀ r∈CQ g p,r.2.length<=130:=λ r hr=>by
 have h1:=X7 g p _ _ rfl r hr;have h2:=L4 hg;have h3:=hg.1.2.1;omega
theorem uG {p:A9} {ks f:List Int} (hg:AH g) (hp:CI g.size p) (hr:∀ x∈ks,0<=x/\x<g.size) (hs:p.seeds.length<=64) (hl:ks.length<=64) (hf:FS g p ks f):f.length<=1200:=by
 have h1:=LA hg hp hr hs hl;have h2:=hf.ok.fit.len;have h3:=h1.2.2.1;simp only at h3;omega
theorem sV (p:A9):∀ x∈BK g p,0<=x/\x<g.size:=λ x hx=>by
 have h:=Iq (IC hx);exact h
section
variable {g:Gr} {p:A9}
theorem RA (hg:AH g) (hp:CI g.size p):(p.seeds.length:Int)<=g.size:=by
 have h:=hp.2.1;have q:=hg.1.1;rcases UF p.seeds.length with h0 | h0
 .omega
 have h1:=OC h (p.seeds.length - 1) zy
 have h2:=KI h (p.seeds[p.seeds.length - 1]' zy) (Qi _)
 omega
end
structure Bd where
 gone:Bool
 e:Ed
variable {s:Bd}
open Classical in
def BI (g:Gr) (s:Bd):Gr × Int:=if s.gone=true then Ey g s.e.f s.e.t else De g s.e
def EZ (g:Gr) (f t:Int):Prop:=∃ x∈g.edges,x.f=f/\x.t=t
theorem B9.asymm {a b:Ed} (h:B9 a b):¬ B9 b a:=by unfold B9 at *;omega
theorem B9.irrefl (a:Ed):¬ B9 a a:=by unfold B9;omega
theorem AH.of {s:Int} {E:List Ed} {go:List Int} (h0:0<=s) (h1:s<=64) (hl:E.length<=500) (hg:CJ go 0 (s - 1)) (hp:E.Pairwise B9) (hf:∀ e∈E,CT ⟨s,E,go⟩ e/\1<=e.v/\e.v<=3):AH ⟨s,E,go⟩ :=
 ⟨⟨h0,h1,hl,hg⟩,λ i hi=>⟨(hf _ (Qi hi)).1,(hf _ (Qi hi)).2.1,(hf _ (Qi hi)).2.2,λ h0=>IB.2 (QK.1 hp (i - 1) i (by simp only at hi;omega) hi zy)⟩⟩
variable {g:Gr} {f t:Int} {e:Ed}
theorem AH.val (hg:AH g):∀ e∈g.edges,1<=e.v/\e.v<=3:=λ e he=>by
 obtain⟨i,hi,rfl⟩:=UB he;exact⟨(hg.2 i hi).2.1,(hg.2 i hi).2.2.1⟩
theorem AH.uniq (hg:AH g) {x y:Ed} (hx:x∈g.edges) (hy:y∈g.edges) (hf:x.f=y.f) (ht:x.t=y.t):x=y:=by
 obtain⟨i,hi,rfl⟩:=UB hx;obtain⟨j,hj,rfl⟩:=UB hy;rcases Nat.lt_trichotomy i j with h | h | h
 .have:=hg.lt j i hi hj h
  unfold B9 at this;omega
 .subst h;rfl
 .have:=hg.lt i j hj hi h
  unfold B9 at this;omega
theorem rP {k:Nat} (h:GA g.edges k f t):EZ g f t:=by
 obtain⟨h1,h2,h3⟩:=h;exact⟨_,Qi h1,h2,h3⟩
theorem Ym (hg:AH g) {i:Nat} (hi:i<g.edges.length) (hf:g.edges[i].f=f) (ht:g.edges[i].t=t):BN g.edges ⟨f,t,0⟩=i :=
 SP zy (λ j hj q=>by
  have:=hg.lt i j zy hi hj
  unfold B9 at this ⊢;rw[hf,ht] at this;exact this) (λ _ hb=>by
  unfold B9 at hb;simp only at hb
  omega)
theorem L0 (hg:AH g):GA g.edges (BN g.edges ⟨f,t,0⟩) f t↔EZ g f t:=by
 refine⟨rP,?_⟩
 rintro⟨x,hx,hf,ht⟩
 obtain⟨i,hi,rfl⟩:=UB hx;rw[Ym hg hi hf ht];exact⟨hi,hf,ht⟩
theorem Pg (hg:AH g) (h:EZ g f t):Ey g f t=(F2 g f t,0)/\AH (F2 g f t) /\ ∀ x,x∈(F2 g f t).edges↔x∈g.edges/\¬ (x.f=f/\x.t=t):=by
 have h5:=(L0 hg).2 h;obtain⟨x,hx,h0,h3⟩:=h;obtain⟨i,hi,rfl⟩:=UB hx;have h4:=Ym hg hi h0 h3;have hE:(F2 g f t).edges=g.edges.take i++g.edges.drop (i+1):=by unfold F2;rw[h4]
 have q:(g.edges.take i++g.edges.drop (i+1)).Sublist g.edges:=by
  have h1:(g.edges.drop (i+1)).Sublist (g.edges.drop i):=by
   rw[QO hi];exact List.sublist_cons_self _ _
  have h2:=(List.Sublist.refl (g.edges.take i)).append h1
  rwa [QQ] at h2
 have u:∀ y,y∈(F2 g f t).edges↔y∈g.edges/\¬ (y.f=f/\y.t=t):=by
  intro y;rw[hE];constructor
  .intro hy
   refine⟨q.subset hy,λ hc=>?_⟩;have:y=g.edges[i]:=hg.uniq (q.subset hy) (Qi hi) (hc.1.trans h0.symm) (hc.2.trans h3.symm);rcases Qm.1 hy with h | h
   .obtain ⟨j,hj,e⟩:=List.mem_take_iff_getElem.1 h
    have h6:j<g.edges.length:=zy
    have:=hg.lt i j h6 hi zy
    rw[e,‹y=_›] at this;exact B9.irrefl _ this
   .obtain ⟨j,hj,e⟩:=List.mem_drop_iff_getElem.1 h
    have:=hg.lt (i+1+j) i hi zy zy
    rw[e,‹y=_›] at this;exact B9.irrefl _ this
  .rintro ⟨hy,hn⟩
   obtain⟨j,hj,rfl⟩:=UB hy;rcases Nat.lt_trichotomy j i with h | h | h
   .exact Q4 _ (List.mem_take_iff_getElem.2 ⟨j,zy,rfl⟩)
   .subst h;exact absurd ⟨h0,h3⟩ hn
   .refine Uo _ (List.mem_drop_iff_getElem.2 ⟨j - (i+1),zy,?_⟩)
    congr 1
    omega
 refine⟨?_,?_,u⟩
 .unfold Ey
  rw[if_neg (λ h=>h hg),if_neg (λ h=>h h5)]
 .have hl:=q.length_le
  have hp:(F2 g f t).edges.Pairwise B9:=by rw[hE];exact hg.pair.sublist q
  exact AH.of hg.1.1 hg.1.2.1 (by have:=hg.1.2.2.1;simp only[h4];omega) hg.1.2.2.2 hp λ y hy=>⟨hg.fits y ((u y).1 hy).1,hg.val y ((u y).1 hy).1⟩
theorem SX (hg:AH g):(Ey g f t).2=0↔EZ g f t:=by
 refine⟨λ h=>?_,λ h=>by rw[(Pg hg h).1]⟩
 refine(L0 hg).1 (Classical.byContradiction λ hn=>?_);unfold Ey at h;rw[if_neg (λ h=>h hg),if_pos hn] at h;simp at h
theorem WF (g:Gr) (e:Ed):∀ x,x∈(Gk g e).edges↔x=e∨x∈g.edges:=by
 intro x
 have h:x∈g.edges↔x∈g.edges.take (BN g.edges ⟨e.f,e.t,0⟩)∨x∈g.edges.drop (BN g.edges ⟨e.f,e.t,0⟩):=by
  rw[<- Qm,QQ]
 rw[h];simp only[Gk,Qm,Qu];constructor<;>rintro(h | h | h)<;>simp[h]
theorem SD (hg:AH g) (hl:g.edges.length<500):(De g e).2=0↔CT g e/\(1<=e.v/\e.v<=3)/\¬ EZ g e.f e.t:=by
 constructor
 .intro h
  obtain⟨_,h2,h3,h4,_⟩:=MR h;exact⟨h2,h3,λ h=>h4 ((L0 hg).2 h)⟩
 .rintro ⟨h1,h2,h3⟩
  unfold De;rw[if_neg (λ h=>h hg),if_neg (λ h=>h h1),if_neg (λ h=>h h2),if_neg (λ h=>h3 ((L0 hg).1 h)),if_neg zy]
theorem Yd:∀ {a b:List Ed},a.Pairwise B9->b.Pairwise B9->(∀ x,x∈a↔x∈b)->a=b
 | [],[],_,_,_=>rfl
 | [],y::b,_,_,h=>absurd ((h y).2 Qo) zz
 | x::a,[],_,_,h=>absurd ((h x).1 Qo) zz
 | x::a,y::b,ha,hb,h=>by
   rw[Q7] at ha hb
   have q:x=y:=by
    rcases Qu.1 ((h x).1 Qo) with h1 | h1
    .exact h1
    rcases Qu.1 ((h y).2 Qo) with h2 | h2
    .exact h2.symm
    exact absurd (ha.1 y h2) (hb.1 x h1).asymm
   subst q;rw[Yd ha.2 hb.2 λ z=>⟨λ hz=>?_,λ hz=>?_⟩]
   .rcases Qu.1 ((h z).1 (Qj _ hz)) with h1 | h1
    .subst h1;exact absurd (ha.1 z hz) (B9.irrefl z)
    .exact h1
   .rcases Qu.1 ((h z).2 (Qj _ hz)) with h1 | h1
    .subst h1;exact absurd (hb.1 z hz) (B9.irrefl z)
    .exact h1
theorem gI {a b:Gr} (ha:AH a) (hb:AH b) (hs:a.size=b.size) (hg:a.gone=b.gone) (h:∀ x,x∈a.edges↔x∈b.edges):a=b:=by
 obtain⟨s,E,go⟩:=a;obtain⟨s',E',go'⟩:=b;have:=Yd ha.pair hb.pair h;simp only at hs hg this;subst hs hg this;rfl
def Jc (g:Gr) (s:Bd):Prop:=if s.gone=true then EZ g s.e.f s.e.t else CT g s.e/\(1<=s.e.v/\s.e.v<=3)/\¬ EZ g s.e.f s.e.t
structure PI (g g':Gr) (s:Bd):Prop where
 ok:AH g'
 size:g'.size=g.size
 gone:g'.gone=g.gone
 len:g'.edges.length<=g.edges.length+1
 mem:∀ x,x∈g'.edges↔(s.gone=false/\x=s.e)∨(x∈g.edges/\¬ (s.gone=true/\x.f=s.e.f/\x.t=s.e.t))
theorem YR (hg:AH g) (hl:g.edges.length<500) (s:Bd):(BI g s).2=0↔Jc g s:=by
 unfold BI Jc
 by_cases h:s.gone=true
 .rw [if_pos h,if_pos h];exact SX hg
 .rw [if_neg h,if_neg h];exact SD hg hl
theorem Pl (hg:AH g) (hl:g.edges.length<500) (h:Jc g s):(BI g s).2=0/\PI g (BI g s).1 s:=by
 refine⟨(YR hg hl s).2 h,?_⟩;unfold Jc at h;unfold BI
 by_cases hs:s.gone=true
 .rw [if_pos hs] at h
  rw[if_pos hs];obtain⟨h1,h2,h3⟩:=Pg hg h;rw[h1];refine⟨h2,rfl,rfl,?_,λ x=>?_⟩
  .simp only[F2,Qe,QC,QY];omega
  .simp only[h3,hs];simp
 .rw [if_neg hs] at h
  rw[if_neg hs];obtain⟨h1,h2,h3⟩:=h;obtain⟨_,_,_,_,_,h4,h5⟩:=MR ((SD hg hl).2 ⟨h1,h2,h3⟩);rw[h4];refine⟨h5,rfl,rfl,?_,λ x=>?_⟩
  .simp only[Gk,Qe,QC,QS,QY];omega
  .rw [WF];simp[hs]
theorem PI.has {g':Gr} (h:PI g g' s) {f t:Int} (q:¬ (s.e.f=f/\s.e.t=t)):EZ g' f t↔EZ g f t:=by
 constructor
 .rintro ⟨x,hx,hf,ht⟩
  rcases(h.mem x).1 hx with h1 | h1
  .obtain ⟨_,rfl⟩:=h1
   exact absurd ⟨hf,ht⟩ q
  .exact ⟨x,h1.1,hf,ht⟩
 .rintro ⟨x,hx,hf,ht⟩
  refine⟨x,(h.mem x).2 (.inr ⟨hx,λ hc=>q ?_⟩),hf,ht⟩;exact⟨hc.2.1.symm.trans hf,hc.2.2.symm.trans ht⟩
def BO:Gr->List Bd->Gr × Nat × Int
 | g,[]=>(g,0,0)
 | g,s::l=>if (BI g s).2=0 then ((BO (BI g s).1 l).1,(BO (BI g s).1 l).2.1+1,(BO (BI g s).1 l).2.2) else (g,0,(BI g s).2)
theorem Nh {l:List Bd} (h:(BI g s).2=0):BO g (s::l)=((BO (BI g s).1 l).1,(BO (BI g s).1 l).2.1+1,(BO (BI g s).1 l).2.2):=by simp only[BO];rw[if_pos h]
theorem fY {l:List Bd} (h:(BI g s).2≠0):BO g (s::l)=(g,0,(BI g s).2):=by simp only[BO];rw[if_neg h]
theorem MN (hg:AH g) (h:(BI g s).2=0):AH (BI g s).1/\(BI g s).1.size=g.size/\(BI g s).1.gone=g.gone/\(BI g s).1.edges.length<=g.edges.length+1:=by
 have key:g.edges.length<500∨s.gone=true:=by
  by_cases hs:s.gone=true
  .exact .inr hs
  .unfold BI at h
   rw[if_neg hs] at h;exact .inl (MR h).2.2.2.2.1
 by_cases hs:s.gone=true
 .unfold BI at h ⊢
  rw[if_pos hs] at h ⊢;obtain⟨h1,h2,h3⟩:=Pg hg ((SX hg).1 h);rw[h1];refine⟨h2,rfl,rfl,?_⟩;simp only[F2,Qe,QC,QY];omega
 .have hl:g.edges.length<500:=key.elim id λ h=>absurd h hs
  have:=(Pl hg hl ((YR hg hl s).1 h)).2;exact⟨this.ok,this.size,this.gone,this.len⟩
theorem RN:∀ {a b:List Ed},a.Nodup->(∀ x∈a,x∈b)->a.length<=b.length
 | [],_,_,_=>Qk _
 | x::a,b,hn,h=>by
   rw[Uh] at hn;obtain⟨s,t,rfl⟩:=List.append_of_mem (h x Qo)
   have:=RN (a:=a) (b:=s++t) hn.2 λ y hy=>by
    have:=h y (Qj _ hy);simp only[Qm,Qu] at this ⊢;rcases this with h | h | h
    .exact .inl h
    .subst h;exact absurd hy hn.1
    .exact .inr h
   simp only[Qe,QS] at this ⊢;omega
theorem AH.nodup (hg:AH g):g.edges.Nodup:=hg.pair.imp λ h he=>by subst he;exact B9.irrefl _ h
theorem VH:∀ (D:List Ed) {g:Gr},AH g->g.edges.length<500->D.Nodup->(∀ x∈D,x∈g.edges) -> ∃ g',AH g'/\g'.size=g.size/\g'.gone=g.gone/\(∀ x,x∈g'.edges↔x∈g.edges/\x∉D) /\
  ∀ r,BO g (D.map (⟨true,·⟩)++r)=((BO g' r).1,(BO g' r).2.1+D.length,(BO g' r).2.2)
 | [],g,hg,_,_,_=>⟨g,hg,rfl,rfl,zz,λ r=>zz⟩
 | e::D,g,hg,hl,hn,hs=>by
   rw[Uh] at hn;have hh:Jc g ⟨true,e⟩:=⟨e,hs e Qo,rfl,rfl⟩;obtain⟨h1,h2⟩:=Pl hg hl hh
   have hm:∀ x,x∈(BI g ⟨true,e⟩).1.edges↔x∈g.edges/\x≠e:=λ x=>by
    rw[h2.mem];simp only[Bool.true_eq_false,false_and,false_or,true_and];refine and_congr_right λ hx=>not_congr ⟨λ h=>hg.uniq hx (hs e Qo) h.1 h.2,λ h=>by subst h;exact⟨rfl,rfl⟩⟩
   have q:(BI g ⟨true,e⟩).1.edges.length<500:=by
    have:=RN h2.ok.nodup λ x hx=>((hm x).1 hx).1;omega
   obtain⟨g',k1,k2,k3,k4,k5⟩:=VH D h2.ok q hn.2 λ x hx=>(hm x).2 ⟨hs x (Qj _ hx),λ h=>hn.1 (h ▸ hx)⟩;refine⟨g',k1,k2.trans h2.size,k3.trans h2.gone,λ x=>?_,λ r=>?_⟩
   .rw [k4,hm];simp[and_assoc]
   .rw [QA,Uc,Nh h1,k5]
    simp only[QS];rw[Uy]
theorem Yr {b:Gr} (hb:AH b):∀ (C:List Ed) {g:Gr},AH g->g.size=b.size->g.gone=b.gone->C.Nodup->(∀ x∈C,x∈b.edges/\x∉g.edges)->(∀ x∈g.edges,x∈b.edges) -> ∃ g',AH g'/\g'.size=b.size/\g'.gone=b.gone/\(∀ x,x∈g'.edges↔x∈g.edges∨x∈C) /\
  ∀ r,BO g (C.map (⟨false,·⟩)++r)=((BO g' r).1,(BO g' r).2.1+C.length,(BO g' r).2.2)
 | [],g,hg,hz,ho,_,_,_=>⟨g,hg,hz,ho,zz,λ r=>zz⟩
 | e::C,g,hg,hz,ho,hn,hs,q=>by
   rw[Uh] at hn;obtain⟨u,h0⟩:=hs e Qo
   have hl:g.edges.length<500:=by
    have:=RN (a:=e::g.edges) (b:=b.edges) (Uh.2 ⟨h0,hg.nodup⟩) λ x hx=>by
     rcases Qu.1 hx with h | h
     .subst h;exact u
     .exact q x h
    have h3:=hb.1.2.2.1;simp only[QS] at this;omega
   have hh:Jc g ⟨false,e⟩:=by
    refine⟨?_,hb.val e u,?_⟩
    .have:=hb.fits e u
     unfold CT at this ⊢;rw[hz,ho];exact this
    .rintro ⟨x,hx,h1,h2⟩
     have:=hb.uniq (q x hx) u h1 h2;subst this;exact h0 hx
   obtain⟨h1,h2⟩:=Pl hg hl hh
   have hm:∀ x,x∈(BI g ⟨false,e⟩).1.edges↔x=e∨x∈g.edges:=λ x=>by
    rw[h2.mem];simp
   obtain⟨g',k1,k2,k3,k4,k5⟩:=Yr hb C h2.ok (h2.size.trans hz) (h2.gone.trans ho) hn.2 (λ x hx=>⟨(hs x (Qj _ hx)).1,λ h=>by
    rcases(hm x).1 h with h | h
    .exact hn.1 (h ▸ hx)
    .exact (hs x (Qj _ hx)).2 h⟩) λ x hx=>by
    rcases(hm x).1 hx with h | h
    .subst h;exact u
    .exact q x h
   refine⟨g',k1,k2,k3,λ x=>?_,λ r=>?_⟩
   .rw [k4,hm,Qu]
    constructor
    .rintro ((h | h) | h)<;>simp[h]
    .rintro (h | h | h)<;>simp[h]
   .rw [QA,Uc,Nh h1,k5]
    simp only[QS];rw[Uy]
open Classical in
def Hu (a b:Gr):List Bd:=(a.edges.filter λ e=>decide (e∉b.edges)).map (⟨true,·⟩)++(b.edges.filter λ e=>decide (e∉a.edges)).map (⟨false,·⟩)
theorem g8 (a b:Gr):(Hu a b).length<=a.edges.length+b.edges.length:=by
 unfold Hu;simp only[Qe,Qs];have h1:=QV (λ e=>decide (e∉b.edges)) a.edges;have h2:=QV (λ e=>decide (e∉a.edges)) b.edges;omega
theorem jM {a b:Gr} (ha:AH a) (hb:AH b) (hl:a.edges.length<500) (hs:a.size=b.size) (hg:a.gone=b.gone):BO a (Hu a b)=(b,(Hu a b).length,0):=by
 unfold Hu;obtain⟨c,c1,c2,c3,c4,c5⟩:=VH (a.edges.filter λ e=>decide (e∉b.edges)) ha hl (ha.nodup.sublist List.filter_sublist) λ x hx=>(QF.1 hx).1
 have hc:∀ x,x∈c.edges↔x∈a.edges/\x∈b.edges:=λ x=>by
  rw[c4,QF,Qa];constructor
  .rintro ⟨h1,h2⟩;exact⟨h1,Classical.byContradiction λ h=>h2 ⟨h1,h⟩⟩
  .rintro ⟨h1,h2⟩;exact⟨h1,λ h=>h.2 h2⟩
 obtain⟨d,d1,d2,d3,d4,d5⟩:=Yr hb (b.edges.filter λ e=>decide (e∉a.edges)) c1 (c2.trans hs) (c3.trans hg) (hb.nodup.sublist List.filter_sublist) (λ x hx=>by
  obtain⟨h1,h2⟩:=QF.1 hx;rw[Qa] at h2
  exact⟨h1,λ h=>h2 ((hc x).1 h).1⟩) λ x hx=>((hc x).1 hx).2
 have q:d=b:=gI d1 hb d2 d3 λ x=>by
  rw[d4,hc,QF,Qa];constructor
  .rintro (h | h)
   .exact h.2
   .exact h.1
  .intro h
   by_cases h2:x∈a.edges
   .exact .inl ⟨h2,h⟩
   .exact .inr ⟨h,h2⟩
 subst q;have h5:=d5 [];rw[QU] at h5;rw[c5,h5];simp only[BO,Qe,Qs];refine Prod.ext rfl (Prod.ext ?_ rfl);simp only;omega
abbrev tC (g:Gr) (p:A9) (acc f:List Int) (R:List (Int × List Int)):List AV:=[.I g.size,BE g.edges,AA g.gone,AA p.seeds,AA p.table,.I p.lv,AA acc,AA f,.vs 2 false (CC R)]
abbrev eT (g:Gr) (p:A9) (acc f:List Int) (R:List (Int × List Int)):AV:=.agg (tC g p acc f R)
abbrev D0 (s:Bd):List AV:=[.B s.gone,.I s.e.f,.I s.e.t,.I s.e.v]
abbrev G2 (s:Bd):AV:=.agg (D0 s)
abbrev CN (l:List Bd):AV:=.vs 4 false (l.map λ s=>D0 s)
@[simp] theorem yW {ρ:List (Nat × Nat)} {sn:List Nat} {h:Nat->Option AD} {n:Nat} {t:TypeId} {v:AV}:conv ρ sn h (n+1) (.ifc t v) = .ifc t (conv ρ sn h n v):=(rfl)
def H2 (a b:List Int):List Int:=E0 (a.filter λ x=>!decide (x∈b))
section
variable {P:Program} {np id:Nat} {h:Nat->Option AD} {K:AV->List Nat->List (Nat × Option AD)->Prop} {args aA:List AV} {res:AV}
theorem Tw {q:List (TypeId × FuncId)} {t:TypeId} {f:FuncId} {x:AV} (hl:AW q t=some f) (hc:CF P f aA [] res []) (he:(x::args).map (conv [] [] h 4)=aA) (hk:K (conv (Cb [] id) [] (λ _=>none) 4 res) [] []):aK P np id (.inv q) (.ifc t x::args) h K :=
 ⟨f,[],[],true,aA,[],res,[],hl,zz,zz,zz,by rw[UO,he];exact FT _,rfl,hc,zz,.inl rfl,by simpa [Cb] using hk⟩
end
theorem jA (p:A9) (hs:p.seeds.length<=1000000) (ht:p.table.length<=1000000):AF 37 [eP p] [] (eP p) []:=by
 refine n6.s.ac ?_;show AY _ 0 _ _ ⟨12,[(0,eP p)],[],16⟩;refine BM ⟨12,[(1,.pv (pC p)),(2,.pt 24 0 0)],[(24,some ⟨3,[[.nilS,.nilS,.I 0]],0⟩)],100⟩ [(24,24)] [16] ?_;refine Bi ⟨12,[(2,.pt 24 0 0)],[(24,some ⟨3,[pC p],0⟩)],300⟩ ?_ ?_
 .simp
  refine C3 (Hr p.seeds zy) ?_
  simp;refine C3 (Hr p.table zy) ?_
  simp[Ae];exact⟨rfl,AN [(24,24)] [116,140] zz (by simp[AC,DX])⟩
 exact B3 [] [24]
theorem nX (b:List Int) (x:Int) (hb:b.length<=1000000):AF 142 [.I x,.pv [AA b]] [] (.B (decide (x∈b))) []:=by
 refine nG.s.ac ?_;show AY _ 0 _ _ ⟨7,[(0,.I x),(1,.pv [AA b])],[],16⟩;refine rs [0,1] [] [] ?_;refine rx (s:=?s2) [3] [] [] rfl ?o2 ?q2
 case o2=>simp;refine Ah (I7 b x zy) zz ?_;simp;rfl
 exact Bg
theorem WO (a b:List Int) (ha:a.length<=1000000) (hb:b.length<=1000000):AF 96 [AA a,AA b] [] (AA (H2 a b)) []:=by
 obtain⟨F,hF⟩:=AJ (a.filter λ x=>!decide (x∈b));have h2:F.length<=a.length:=by rw[hF];exact QV _ _
 have q:=SS 142 [.pv [AA b]] (λ x=>decide (x∈b)) a a.length F.length rfl (by rw[hF]) zy (λ ρ sn h n=>zz) (λ e _=>nX b e hb)
 rw[<- hF] at q;have u:=RU F zy
 have h0:(E0 F).length=F.length:=List.length_mergeSort F;have h1:∀ h:Int->List AV,List.take F.length (List.map h (E0 F))=List.map h (E0 F):=λ h=>Qd (by rw[Qs,h0];exact Qf _)
 unfold H2;rw[<- hF];refine Z6.s.ac ?_;show AY _ 0 _ _ ⟨10,[(0,AA a),(1,AA b)],[],16⟩;refine BM ⟨10,[(0,AA a),(3,.pv [AA b])],[],100⟩ [] [16] ?_;refine arc ⟨10,[(4,AA (E0 F))],[],300⟩ ?_ ?_
 .simp
  refine C3 (Hr a zy) ?_
  simp;refine BZ (i:=108) rfl (e':=⟨1,AP a,0⟩) (by simp[AC]) q zz zz ?_
  simp[AC];refine K0 [108] u (by simp[AC]) (.rs _ _ _) WI ?_
  simp[AC];exact AN [] [132] (by simp[h0,h1,AC])
 exact Bg
theorem bD {g:Gr} (hg:AH g):Ao g 0=g:=by
 obtain⟨s,E,go⟩:=g;unfold Ao
 congr 1
 refine List.filter_eq_self.2 λ e he=>?_;have:=(hg.val e he).1;simp;omega
theorem Rq (g:Gr) (p:A9) (hg:AH g) (hp:CI g.size p) (hN:g.size<20∨(Ag (Ao g p.lv) p.seeds).length<20) :
  ∃ f,FS g p (Az (BK g p)) f/\AF 11 [eG g,eP p] [] (.tup [eT g p (BK g p) f (CQ g p),.I 0]) []:=by
 have h2:=RA hg hp;have h1:=hg.1.2.1;have h3:=hg.edges_le;have h4:=hg.gone_le;have h5:=hp.2.2.2.1;obtain⟨f,hf,q⟩:=WS g p hg hp zy hN
 refine⟨f,hf,?_⟩;have u:=MX g 0 zy zy
 rw[bD hg] at u;have h0:=jA p zy zy
 have q:AF 20 [eG g,eP p] [] (.tup [Cj (BK g p) f (CQ g p),.I 0]) []:=q;generalize BK g p=acc at *;generalize CQ g p=R at *;refine lD.s.ac ?_;show AY _ 0 _ _ ⟨24,[(0,eG g),(1,eP p)],[],16⟩;refine BM ⟨24,[(2,.pv (gC g)),(3,.pv (pC p)),(4,.pt 32 0 0)],[(32,some ⟨9,[[.I 0,.nilS,.nilS,.nilS,.nilS,.I 0,.nilS,.nilS,.nilS]],0⟩)],100⟩ [(32,32)] [16,24] ?_;refine arc ⟨24,[(2,.pv (gC g)),(3,.pv (pC p)),(4,.pt 32 0 0),(6,.pv [AA acc,AA f,.vs 2 false (CC R)]),(7,.I 0)],[(32,some ⟨9,[[.I 0,.nilS,.nilS,.nilS,.nilS,.I 0,.nilS,.nilS,.nilS]],0⟩)],200⟩ ?_ ?_
 .simp
  refine Au q ?_;simp;exact CK [(32,32)] [148]
 refine AB (BM ⟨24,[(2,.pv (gC g)),(3,.pv (pC p)),(4,.pt 32 0 0),(6,.pv [AA acc,AA f,.vs 2 false (CC R)]),(15,.B false)],[(32,some ⟨9,[[.I 0,.nilS,.nilS,.nilS,.nilS,.I 0,.nilS,.nilS,.nilS]],0⟩)],300⟩ [(32,32)] [] ?_);refine AE _ rfl (λ h=>by cases h) λ _=>?_
 refine AG (Bi ⟨24,[(4,.pt 32 0 0),(5,.I 0)],[(32,some ⟨9,[tC g p acc f R],0⟩)],500⟩ ?_ ?_)
 .simp
  refine Au u ?_;simp;refine Au h0 ?_;simp[Ae];exact⟨rfl,CK [(32,32)] []⟩
 exact B3 [] [32]
theorem dT (e:Ed) (g:Gr) (hl:g.edges.length<=1000000) (q:g.gone.length<=1000000):AF 284 [eE e,eG g] [] (.tup [eG (De g e).1,.I (De g e).2]) []:=by
 have hw:=vN g e zy zy
 generalize De g e=r at *;obtain⟨g',x⟩:=r;refine wB.s.ac ?_;show AY _ 0 _ _ ⟨11,[(0,eE e),(1,eG g)],[],16⟩;refine BM ⟨11,[(2,.pv (eC e)),(3,.pv (gC g)),(4,.pt 32 0 0)],[(32,some ⟨3,[[.I 0,.nilS,.nilS]],0⟩)],100⟩ [(32,32)] [16,24] ?_;refine arc ⟨11,[(4,.pt 32 0 0),(5,.I x)],[(32,some ⟨3,[gC g'],0⟩)],300⟩ ?_ ?_
 .simp
  refine Au hw ?_;simp[Ae];exact CK [(32,32)] []
 exact B3 [] [32]
theorem iY (e:Ed) (g:Gr) (hl:g.edges.length<=1000000) (q:g.gone.length<=1000000):AF 280 [eE e,eG g] [] (.tup [eG (Ey g e.f e.t).1,.I (Ey g e.f e.t).2]) []:=by
 have hw:=jS g e.f e.t zy zy
 generalize Ey g e.f e.t=r at *;obtain⟨g',x⟩:=r;refine uX.s.ac ?_;show AY _ 0 _ _ ⟨14,[(0,eE e),(1,eG g)],[],16⟩;refine BM ⟨14,[(2,.pv (eC e)),(3,.pv (gC g)),(4,.pt 32 0 0)],[(32,some ⟨3,[[.I 0,.nilS,.nilS]],0⟩)],100⟩ [(32,32)] [16,24] ?_;refine arc ⟨14,[(4,.pt 32 0 0),(5,.I x)],[(32,some ⟨3,[gC g'],0⟩)],300⟩ ?_ ?_
 .simp
  refine Au hw ?_;simp[Ae];exact CK [(32,32)] []
 exact B3 [] [32]
theorem WG (s:Bd):AF 140 [G2 s] [] (.ifc (if s.gone=true then 258 else 259) (eE s.e)) []:=by
 obtain⟨go,e⟩:=s;refine cW.s.ac ?_;show AY _ 0 _ _ ⟨11,[(0,G2 ⟨go,e⟩)],[],16⟩;refine BM ⟨11,[(1,.pv (D0 ⟨go,e⟩))],[],100⟩ [] [16] ?_;refine AB (BM ⟨11,[(1,.pv (D0 ⟨go,e⟩)),(4,.B go)],[],200⟩ [] [] ?_);refine AE _ rfl (λ h=>?_) λ h=>?_
 .subst h
  refine BM ⟨11,[(2,.ifc 258 (eE e))],[],300⟩ [] [] ?_;exact Bg
 .subst h
  refine AG (BM ⟨11,[(2,.ifc 259 (eE e))],[],300⟩ [] [] ?_);exact Bg
theorem Vp (g:Gr) (s:Bd) (hl:g.edges.length<=1000000) (q:g.gone.length<=1000000):∃ f,AW [(258,280),(259,284)] (if s.gone=true then 258 else 259)=some f /\
  AF f [eE s.e,eG g] [] (.tup [eG (BI g s).1,.I (BI g s).2]) []:=by
 obtain⟨go,e⟩:=s
 cases go
 .exact ⟨284,rfl,dT e g hl q⟩
 .exact ⟨280,rfl,iY e g hl q⟩
section
variable {g:Gr} {p:A9} {acc f:List Int} {R:List (Int × List Int)} {s:Bd}
theorem lK (hl:g.edges.length<=1000000) (u:g.gone.length<=1000000) (h:(BI g s).2≠0):AF 95 [eT g p acc f R,G2 s] [] (.tup [eT g p acc f R,.I (BI g s).2]) []:=by
 obtain⟨fm,h0,q⟩:=Vp g s hl u;have h1:=WG s;generalize h3:(if s.gone=true then (258:Nat) else 259)=ty at *
 generalize BI g s=r at *;obtain⟨g',x⟩:=r;simp only at h q;have h2:(x != 0)=true:=by simp[h]
 refine Vw.s.ac ?_;show AY _ 0 _ _ ⟨26,[(0,eT g p acc f R),(1,G2 s)],[],16⟩;refine BM ⟨26,[(2,.pv (tC g p acc f R)),(3,.pv (D0 s)),(4,.pt 32 0 0)],[(32,some ⟨9,[[.I 0,.nilS,.nilS,.nilS,.nilS,.I 0,.nilS,.nilS,.nilS]],0⟩)],100⟩ [(32,32)] [16,24] ?_;refine Bi ⟨26,[(2,.pv (tC g p acc f R)),(4,.pt 32 0 0),(7,.I x)],[(32,some ⟨9,[[.I 0,.nilS,.nilS,.nilS,.nilS,.I 0,.nilS,.nilS,.nilS]],0⟩)],200⟩ ?_ ?_
 .simp
  refine Au h1 ?_;simp;refine Tw h0 q zz ?_
  simp[Ae];exact⟨rfl,CK [(32,32)] []⟩
 refine AB (arc ⟨26,[(2,.pv (tC g p acc f R)),(4,.pt 32 0 0),(7,.I x),(17,.B true)],[(32,some ⟨9,[[.I 0,.nilS,.nilS,.nilS,.nilS,.I 0,.nilS,.nilS,.nilS]],0⟩)],300⟩ ?_ ?_)
 .simp
  exact AN [(32,32)] [] (by simp[h2])
 refine AE _ rfl (λ _=>?_) λ h=>by cases h
 refine arc ⟨26,[(4,.pt 32 0 0),(5,.I x)],[(32,some ⟨9,[tC g p acc f R],0⟩)],400⟩ ?_ ?_
 .simp [Ae]
  exact CK [(32,32)] []
 refine Am ?_;exact⟨.inr rfl,AO.out [] [32] rfl zz zz (by simp<;>exact .refl _) zz⟩
theorem vQ (hg:AH g) (hp:CI g.size p) (hN:(BI g s).1.size<20∨(Ag (Ao (BI g s).1 p.lv) p.seeds).length<20) (h:(BI g s).2=0) :
  ∃ f',FS (BI g s).1 p (Az (BK (BI g s).1 p)) f'/\AF 95 [eT g p acc f R,G2 s] [] (.tup [eT (BI g s).1 p (BK (BI g s).1 p) f' (CQ (BI g s).1 p),.I 0]) []:=by
 have h2:=hg.edges_le;have h3:=hg.gone_le;obtain⟨k1,k2,k3,k4⟩:=MN hg h;obtain⟨fm,u,q⟩:=Vp g s zy zy
 have h0:=WG s;generalize h4:(if s.gone=true then (258:Nat) else 259)=ty at *
 rw[h] at q;generalize (BI g s).1=g' at *;obtain⟨f',h1,hst⟩:=Rq g' p k1 (by rw[k2];exact hp) hN
 refine⟨f',h1,?_⟩;generalize BK g' p=acc' at *;generalize CQ g' p=R' at *;refine Vw.s.ac ?_;show AY _ 0 _ _ ⟨26,[(0,eT g p acc f R),(1,G2 s)],[],16⟩;refine BM ⟨26,[(2,.pv (tC g p acc f R)),(3,.pv (D0 s)),(4,.pt 32 0 0)],[(32,some ⟨9,[[.I 0,.nilS,.nilS,.nilS,.nilS,.I 0,.nilS,.nilS,.nilS]],0⟩)],100⟩ [(32,32)] [16,24] ?_;refine Bi ⟨26,[(2,.pv (tC g p acc f R)),(4,.pt 32 0 0),(6,.pv (gC g')),(7,.I 0)],[(32,some ⟨9,[[.I 0,.nilS,.nilS,.nilS,.nilS,.I 0,.nilS,.nilS,.nilS]],0⟩)],200⟩ ?_ ?_
 .simp
  refine Au h0 ?_;simp;refine Tw u q zz ?_
  simp[Ae];exact⟨rfl,CK [(32,32)] [164]⟩
 refine AB (BM ⟨26,[(2,.pv (tC g p acc f R)),(4,.pt 32 0 0),(6,.pv (gC g')),(17,.B false)],[(32,some ⟨9,[[.I 0,.nilS,.nilS,.nilS,.nilS,.I 0,.nilS,.nilS,.nilS]],0⟩)],300⟩ [(32,32)] [] ?_);refine AE _ rfl (λ h=>by cases h) λ _=>?_
 refine AG (arc ⟨26,[(4,.pt 32 0 0),(5,.I 0)],[(32,some ⟨9,[tC g' p acc' f' R'],0⟩)],400⟩ ?_ ?_)
 .simp
  refine Au hst ?_;simp[Ae];exact CK [(32,32)] []
 refine Am ?_;exact⟨.inr rfl,AO.out [] [32] rfl zz zz (by simp<;>exact .refl _) zz⟩
variable {e:Int}
theorem pA (hc:AF 21 [eG g,eP p,Cj acc f R] [] (.I 0) []) (hl:g.edges.length<=1000000) (q:g.gone.length<=1000000) (h:(BI g s).2≠0) :
  AF 42 [eT g p acc f R,G2 s] [] (.tup [eT g p acc f R,AA [],AA [],.I (BI g s).2]) []:=by
 have u:=lK (p:=p) (acc:=acc) (f:=f) (R:=R) hl q h;generalize (BI g s).2=x at *;have h0:(x != 0)=true:=by simp[h]
 refine SH.s.ac ?_;show AY _ 0 _ _ ⟨44,[(0,eT g p acc f R),(1,G2 s)],[],16⟩;refine BM ⟨44,[(2,.pv (tC g p acc f R)),(3,.pv (D0 s)),(4,.pt 32 0 0)],[(32,some ⟨9,[[.I 0,.nilS,.nilS,.nilS,.nilS,.I 0,.nilS,.nilS,.nilS]],0⟩)],100⟩ [(32,32)] [16,24] ?_;refine AB (arc ⟨44,[(2,.pv (tC g p acc f R)),(3,.pv (D0 s)),(4,.pt 32 0 0),(19,.B false)],[(32,some ⟨9,[[.I 0,.nilS,.nilS,.nilS,.nilS,.I 0,.nilS,.nilS,.nilS]],0⟩)],200⟩ ?_ ?_)
 .simp
  refine Au hc ?_;simp;exact CK [(32,32)] []
 refine AE _ rfl (λ h=>by cases h) λ _=>?_
 refine AG (arc ⟨44,[(2,.pv (tC g p acc f R)),(4,.pt 32 0 0),(9,.I x)],[(32,some ⟨9,[[.I 0,.nilS,.nilS,.nilS,.nilS,.I 0,.nilS,.nilS,.nilS]],0⟩)],300⟩ ?_ ?_)
 .simp
  refine Au u ?_;simp[Ae];exact CK [(32,32)] []
 refine AB (arc ⟨44,[(2,.pv (tC g p acc f R)),(4,.pt 32 0 0),(9,.I x),(28,.B true)],[(32,some ⟨9,[[.I 0,.nilS,.nilS,.nilS,.nilS,.I 0,.nilS,.nilS,.nilS]],0⟩)],400⟩ ?_ ?_)
 .simp
  exact AN [(32,32)] [] (by simp[h0])
 refine AE _ rfl (λ _=>?_) λ h=>by cases h
 refine arc ⟨44,[(4,.pt 32 0 0),(5,.vs 1 false []),(6,.vs 1 false []),(7,.I x)],[(32,some ⟨9,[tC g p acc f R],0⟩)],500⟩ ?_ ?_
 .simp [Ae]
  exact CK [(32,32)] []
 refine Am ?_;exact⟨.inr rfl,AO.out [] [32] rfl zz zz (by simp<;>exact .refl _) zz⟩
theorem Za (hc:AF 21 [eG g,eP p,Cj acc f R] [] (.I 0) []) (hg:AH g) (hp:CI g.size p) (hN:(BI g s).1.size<20∨(Ag (Ao (BI g s).1 p.lv) p.seeds).length<20) (ha:acc.length<=1000) (h:(BI g s).2=0) :
  ∃ f',FS (BI g s).1 p (Az (BK (BI g s).1 p)) f'/\AF 42 [eT g p acc f R,G2 s] [] (.tup [eT (BI g s).1 p (BK (BI g s).1 p) f' (CQ (BI g s).1 p),AA (H2 (BK (BI g s).1 p) acc),AA (H2 acc (BK (BI g s).1 p)),.I 0]) []:=by
 obtain⟨f',q,u⟩:=vQ (acc:=acc) (f:=f) (R:=R) hg hp hN h;refine⟨f',q,?_⟩;have h2:=Yk (MN hg h).1 p;generalize (BI g s).1=g' at *;generalize BK g' p=acc' at *;generalize CQ g' p=R' at *;have h0:=WO acc' acc zy zy
 have h1:=WO acc acc' zy zy
 generalize H2 acc' acc=gi at *;generalize H2 acc acc'=lo at *;refine SH.s.ac ?_;show AY _ 0 _ _ ⟨44,[(0,eT g p acc f R),(1,G2 s)],[],16⟩;refine BM ⟨44,[(2,.pv (tC g p acc f R)),(3,.pv (D0 s)),(4,.pt 32 0 0)],[(32,some ⟨9,[[.I 0,.nilS,.nilS,.nilS,.nilS,.I 0,.nilS,.nilS,.nilS]],0⟩)],100⟩ [(32,32)] [16,24] ?_;refine AB (arc ⟨44,[(2,.pv (tC g p acc f R)),(3,.pv (D0 s)),(4,.pt 32 0 0),(19,.B false)],[(32,some ⟨9,[[.I 0,.nilS,.nilS,.nilS,.nilS,.I 0,.nilS,.nilS,.nilS]],0⟩)],200⟩ ?_ ?_)
 .simp
  refine Au hc ?_;simp;exact CK [(32,32)] []
 refine AE _ rfl (λ h=>by cases h) λ _=>?_
 refine AG (arc ⟨44,[(2,.pv (tC g p acc f R)),(4,.pt 32 0 0),(8,.pv (tC g' p acc' f' R')),(9,.I 0)],[(32,some ⟨9,[[.I 0,.nilS,.nilS,.nilS,.nilS,.I 0,.nilS,.nilS,.nilS]],0⟩)],300⟩ ?_ ?_)
 .simp
  refine Au u ?_;simp[Ae];exact CK [(32,32)] [248]
 refine AB (BM ⟨44,[(2,.pv (tC g p acc f R)),(4,.pt 32 0 0),(8,.pv (tC g' p acc' f' R')),(28,.B false)],[(32,some ⟨9,[[.I 0,.nilS,.nilS,.nilS,.nilS,.I 0,.nilS,.nilS,.nilS]],0⟩)],400⟩ [(32,32)] [] ?_);refine AE _ rfl (λ h=>by cases h) λ _=>?_
 refine AG (Bi ⟨44,[(4,.pt 32 0 0),(8,.pv (tC g' p acc' f' R')),(10,AA acc),(11,AA acc')],[(32,some ⟨9,[[.I 0,.nilS,.nilS,.nilS,.nilS,.I 0,.nilS,.nilS,.nilS]],0⟩)],500⟩ ?_ ?_)
 .simp
  exact⟨rfl,CK [(32,32)] []⟩
 refine Bi ⟨44,[(4,.pt 32 0 0),(5,AA gi),(6,AA lo),(7,.I 0)],[(32,some ⟨9,[tC g' p acc' f' R'],0⟩)],700⟩ ?_ ?_
 .simp
  refine Au h0 ?_;simp;refine Au h1 ?_;simp[Ae];exact⟨rfl,CK [(32,32)] []⟩
 refine Am ?_;exact⟨.inr rfl,AO.out [] [32] rfl zz zz (by simp<;>exact .refl _) zz⟩
end
structure HX (g:Gr) (p:A9) (acc f:List Int) (R:List (Int × List Int)):Prop where
 e:g.edges.length<=1000000
 o:g.gone.length<=1000000
 s:p.seeds.length<=1000000
 t:p.table.length<=1000000
 a:acc.length<=1000
 f:f.length<=2000
 r:R.length<=1000
 d:∀ r∈R,r.2.length<=1000
section
variable {g:Gr} {p:A9} {acc f:List Int} {R:List (Int × List Int)} {s:Bd} {e:Int}
theorem vR {f f':List Int} (he:g.edges.length<=1000000) (ho:g.gone.length<=1000000) (hs:p.seeds.length<=1000000) (ht:p.table.length<=1000000) (ha:acc.length<=1000000) (hR:R.length<=1000) (hd:∀ r∈R,r.2.length<=140737488355328) :
  AF 17 [eT g p acc f R,eT g p acc f' R] [] (.B true) []:=by
 have h1:=mC g g zy zy
 rw[QX (show HO g g from ⟨rfl,rfl,rfl⟩)] at h1
 have h2:=Jm p.seeds p.seeds zy
 rw[QX rfl] at h2;have h3:=Jm p.table p.table zy
 rw[QX rfl] at h3;have h4:=pH acc f acc f' R R zy hR hR hd
 rw[QX (show acc=acc/\R=R from ⟨rfl,rfl⟩)] at h4
 refine Zo.s.ac ?_;show AY _ 0 _ _ ⟨44,[(0,eT g p acc f R),(1,eT g p acc f' R)],[],16⟩;refine BM ⟨44,[(2,.pv (tC g p acc f R)),(3,.pv (tC g p acc f' R))],[],100⟩ [] [16,24] ?_;refine arc ⟨44,[(4,.B true)],[],600⟩ ?_ ?_
 .simp
  refine Au h1 ?_;simp;refine Au h2 ?_;simp;refine Au h3 ?_;simp;refine Au h4 ?_;simp;exact CK [] []
 exact Bg
theorem Me {f:List Int} (hg:AH g) (hp:CI g.size p) (hf:FS g p (Az (BK g p)) f):HX g p (BK g p) f (CQ g p):=by
 have h1:=RA hg hp;have h2:=hg.edges_le;have h3:=hg.gone_le;have h4:=hp.2.2.2.1;have h5:=Yk hg p;have h6:=dK hg p;have h8:=hg.1.2.1;have h7:=uG hg hp (λ x hx=>sV p x (JP.1 hx).1) (by have:=hg.1.2.1;omega) (J4 _) hf
 exact⟨zy,zy,zy,zy,zy,zy,zy,λ r hr=>by have:=nS hg p r hr;omega⟩
end
end Go.Proofs.YtkabgnlcllmleaaGreat
