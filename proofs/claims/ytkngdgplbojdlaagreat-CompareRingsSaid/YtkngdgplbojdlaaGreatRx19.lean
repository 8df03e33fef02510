/- Texts of this claim,merged. -/
import Derived.Test.YtkngdgplbojdlaaGreatRx18
import Derived.Test.YtkngdgplbojdlaaGreatRx14
import Derived.Test.YtkngdgplbojdlaaGreatRx7
import Derived.Test.YtkngdgplbojdlaaGreatRx10
set_option linter.unusedSimpArgs false
set_option linter.unusedVariables false
set_option linter.unusedSectionVars false
namespace Go.Proofs.YtkngdgplbojdlaaGreat
open Go
def outI (a b : List Int) (i : Nat) : Nat:=((a.take i).filter λ k=>!decide (k∈b)).length
theorem zve {a b : List Int} {i : Nat} (h : i<a.length) : outI a b (i+1)=outI a b i+if a[i]∈b then 0 else 1:=by
 unfold outI;rw [List.take_succ_eq_append_getElem h,List.filter_append,List.length_append,List.filter_cons]
 by_cases h2 : a[i]∈b <;> simp [h2]
theorem zyA (a b : List Int) (i : Nat) : outI a b i<=a.length:=by
 unfold outI;have h1:=List.length_filter_le (λ k=>!decide (k∈b)) (a.take i);have h2:=List.length_take_le' i a;omega
set_option maxRecDepth 100000 in
set_option maxHeartbeats 8000000 in
theorem zoD (g : Gr) (p : Pol) (x n : Int) (hg : GrOk g) (hp : zbu g.size p) (h20 : g.size<20) (he9 : g.edges.length<=81) :
  zaj Tryz.prog zjD [eG g,eP p,.I x,.I n] [] (.tup [.I (zeY g p x n).1,.I (zeY g p x n).2.1,.I (zeY g p x n).2.2]) []:=by
 refine zrp.ac ?_;show awp _ 0 _ _ ⟨81,[(0,eG g),(1,eP p),(2,.I x),(3,.I n)],[],16⟩;have hring:=zkm g p x n hg hp h20 he9;have hright:=zoi (g:=g) (p:=p) (x:=x) (n:=n);have hs64:=zrt hg hp;generalize hres : zeY g p x n=res;unfold zeY at hres;replace hres:=hres.symm;obtain ⟨r,hr⟩ : ∃ r,r=zbL g p x n:=⟨_,rfl⟩;rw [<- hr] at hring hright hres;refine zaa ⟨81,[(2,.I x),(3,.I n),(4,.pv (gC g)),(5,.pv (pC p))],[],100⟩ rfl ?_ ?_
 .simp
  exact LeH [] [16,24]
 refine zaa ⟨81,[(4,.pv (gC g)),(5,.pv (pC p)),(11,.pv (gC r.1)),(12,ints r.2.1),(13,.I r.2.2)],[],200⟩ rfl ?_ ?_
 .simp
  refine zap hring (by simp) ?_
  simp [zat];exact Le.go [] [172] rfl rfl (by simp [fcd,zac]) (by simp)
 refine zab ?_;refine zaa ⟨81,[(4,.pv (gC g)),(5,.pv (pC p)),(11,.pv (gC r.1)),(12,ints r.2.1),(13,.I r.2.2),(32,.B (decide (r.2.2≠0)))],[],300⟩ rfl ?_ ?_
 .simp
  exact Le.go [] [] rfl rfl (by simp [fcd,zac] <;> exact wkB (by rw [Bool.eq_iff_iff]; simp)) (by simp)
 refine zad _ rfl (λ h4=>?_) λ h4=>?_
 .rw [decide_eq_true_eq] at h4
  rw [if_pos h4] at hres;refine zaa ⟨81,[(8,.I 0),(9,.I 0),(10,.I r.2.2)],[],400⟩ rfl ?_ ?_
  .simp
   exact LeH [] []
  refine zai ?_;rw [hres];exact ⟨.inr rfl,zao.out [] [] rfl (by simp) (by simp) (.refl _) (by simp)⟩
 rw [decide_eq_false_iff_not] at h4;replace h4:=Decidable.not_not.1 h4;rw [if_neg (by rw [h4]; decide)] at hres
 obtain ⟨_,_,hx,hxg,hn1,l,hl,hln,hfk,hro,hrr⟩:=hright h4;rw [hrr] at hres;rw [hrr];simp only at hres ⊢;have hpH : zbu (zce g x l).size p:=hp;obtain ⟨⟨R0,f0⟩,_,hrun0⟩:=zAc g p hg hp hs64;obtain ⟨⟨R1,f1⟩,_,hrun1⟩:=zAc (zce g x l) p hro hpH hs64;simp only at hrun0 hrun1;have ha1:=zlQ hg p;have hb1:=zlQ hro p;have hac:=zwS (g:=g) p
 have e1 : inC g.size.toNat l (accG (zce g x l) p)=cntI (accG (zce g x l) p) l l.length:=by
  unfold inC cntI;rw [List.take_length,zyn hfk.nodup (λ k hk=>by have:=hfk.rng k hk; omega)]
 have e2 : outC g.size.toNat (accG g p) (accG (zce g x l) p)=outI (accG g p) (accG (zce g x l) p) (accG g p).length:=by
  unfold outC outI;rw [List.take_length,zyD (ztP g p) (λ k hk=>by have:=hac k hk; omega)]
 rw [e1,e2] at hres
 have hl20 : l.length<=64:=by
  have h1:=zbm hfk.nodup (b:=(List.range 64).map λ i : Nat=>(i : Int)) λ k hk=>List.mem_map.2 ⟨k.toNat,List.mem_range.2 (by have:=hfk.rng k hk; omega),by have:=hfk.rng k hk; omega⟩
  simpa using h1
 obtain ⟨acc,hacc⟩ : ∃ acc,acc=accG g p:=⟨_,rfl⟩;obtain ⟨bcc,hbcc⟩ : ∃ bcc,bcc=accG (zce g x l) p:=⟨_,rfl⟩;obtain ⟨G,hG⟩ : ∃ G,G=zce g x l:=⟨_,rfl⟩;rw [show accR g p (ordL (zal g p.lv) p.seeds)=acc from hacc.symm] at hrun0
 rw [show accR (zce g x l) p (ordL (zal (zce g x l) p.lv) p.seeds)=bcc from hbcc.symm] at hrun1
 rw [<- hacc] at ha1;rw [<- hbcc] at hb1;rw [<- hacc,<- hbcc] at hres;rw [<- hG] at hrun1 ⊢;have hhas:=λ k=>znd bcc k (by omega)
 refine zae ?_;refine zaa ⟨81,[(5,.pv (pC p)),(11,.pv (gC G)),(12,ints l),(14,.pv [ints acc,ints f0,.vs 2 false (zbo R0)])],[],500⟩ rfl ?_ ?_
 .simp
  refine zap hrun0 (by simp) ?_
  simp [zat];exact Le.go [] [348] rfl rfl (by simp [fcd,zac]) (by simp)
 refine zaa ⟨81,[(12,ints l),(14,.pv [ints acc,ints f0,.vs 2 false (zbo R0)]),(16,.pv [ints bcc,ints f1,.vs 2 false (zbo R1)])],[],600⟩ rfl ?_ ?_
 .simp
  refine zap hrun1 (by simp) ?_
  simp [zat];exact Le.go [] [548] rfl rfl (by simp [fcd,zac]) (by simp)
 refine zaa ⟨81,[(12,ints l),(14,.pv [ints acc,ints f0,.vs 2 false (zbo R0)]),(16,.pv [ints bcc,ints f1,.vs 2 false (zbo R1)]),(18,.I 0),(19,.I 0)],[],700⟩ rfl ?_ ?_
 .simp
  exact Le.go [] [] rfl rfl (by simp [fcd,zac]) (by simp)
 have hc0 : cntI bcc l 0=0:=rfl;have ho0 : outI acc bcc 0=0:=rfl;refine zaO (ι:=Unit) (λ _=>⟨81,[(14,.pv [ints acc,ints f0,.vs 2 false (zbo R0)]),(16,.pv [ints bcc,ints f1,.vs 2 false (zbo R1)]),(18,.I (cntI bcc l l.length)),(19,.I 0)],[],3000⟩) (λ _=>True) ?_ λ _ _=>?_
 .refine zaa ⟨81,[(12,ints l),(14,.pv [ints acc,ints f0,.vs 2 false (zbo R0)]),(16,.pv [ints bcc,ints f1,.vs 2 false (zbo R1)]),(18,.I 0),(19,.I 0),(20,.I 0)],[],800⟩ rfl ?_ ?_
  .simp
   exact Le.go [] [] rfl rfl (by simp [fcd,zac]) (by simp)
  refine zaf ?_
  refine zas (ι:=Nat) (λ i=>⟨81,[(12,ints l),(14,.pv [ints acc,ints f0,.vs 2 false (zbo R0)]),(16,.pv [ints bcc,ints f1,.vs 2 false (zbo R1)]),(18,.I (cntI bcc l i)),(19,.I 0),(20,.I i)],[],900⟩) (λ i=>i<=l.length) (λ i=>l.length - i) 0 (Nat.zero_le _)
   (Le.go [] [] rfl rfl (by simp [fcd,zac,hc0]) (by simp)) ?_
  intro i hi;have hcle:=zyg bcc l i;refine zab ?_;refine zaa ⟨81,[(12,ints l),(14,.pv [ints acc,ints f0,.vs 2 false (zbo R0)]),(16,.pv [ints bcc,ints f1,.vs 2 false (zbo R1)]),(18,.I (cntI bcc l i)),(19,.I 0),(20,.I i),(49,.B (decide (i<l.length)))],[],1000⟩ rfl ?_ ?_
  .simp
   exact Le.go [] [] rfl rfl (by simp [fcd,zac]) (by simp)
  refine zad _ rfl (λ h17=>?_) λ h17=>?_
  .rw [decide_eq_true_eq] at h17
   have hwi : IntKind.i64.wrap ((i : Int)+1)=((i+1 : Nat) : Int):=by rw [w6]; omega
   have hwk : IntKind.i64.wrap ((cntI bcc l i : Int)+1)=((cntI bcc l i+1 : Nat) : Int):=by rw [w6]; omega
   have hsc:=zu8 (a:=bcc) h17;obtain ⟨k,hk⟩ : ∃ k,k=l[i]:=⟨_,rfl⟩;rw [<- hk] at hsc;have hhk:=hhas k;refine zae ?_;refine zaO (ι:=Unit) (λ _=>⟨81,[(12,ints l),(14,.pv [ints acc,ints f0,.vs 2 false (zbo R0)]),(16,.pv [ints bcc,ints f1,.vs 2 false (zbo R1)]),(18,.I (cntI bcc l (i+1))),(19,.I 0),(20,.I i)],[],1500⟩) (λ _=>True) ?_ λ _ _=>?_
   .refine zaf ?_
    refine zaC ⟨81,[(12,ints l),(14,.pv [ints acc,ints f0,.vs 2 false (zbo R0)]),(16,.pv [ints bcc,ints f1,.vs 2 false (zbo R1)]),(18,.I (cntI bcc l i)),(19,.I 0),(20,.I i),(58,.B (bcc.contains k))],[],1400⟩ rfl ?_ ?_
    .simp [h17,<- hk]
     refine zap hhk (by simp [fcd,zac]) ?_
     simp;exact ⟨rfl,Le.go [] [] rfl rfl (by simp [fcd,zac]) (by simp)⟩
    refine zad _ rfl (λ hd=>?_) λ hd=>?_
    .rw [if_pos (by simpa using hd)] at hsc
     refine zav rfl ?_;simp [hwk];rw [hsc];exact Le.go [] [] rfl rfl (by simp [fcd,zac]) (by simp)
    .rw [if_neg (by simpa using hd),Nat.add_zero] at hsc
     refine zae ?_;refine ⟨(),trivial,?_⟩;rw [hsc];exact Le.go [] [] rfl rfl (by simp [fcd,zac]) (by simp)
   refine zav rfl ?_;simp [hwi];exact ⟨i+1,by omega,by omega,Le.go [] [] rfl rfl (by simp [fcd,zac]) (by simp)⟩
  rw [decide_eq_false_iff_not] at h17;obtain rfl : i=l.length:=by omega
  refine zaq ?_;refine hit ?_;exact ⟨(),trivial,Le.go [] [] rfl rfl (by simp [fcd,zac]) (by simp)⟩
 obtain ⟨I,hI⟩ : ∃ I,I=cntI bcc l l.length:=⟨_,rfl⟩;rw [<- hI] at hres ⊢;refine zaO (ι:=Unit) (λ _=>⟨81,[(18,.I I),(19,.I (outI acc bcc acc.length))],[],6000⟩) (λ _=>True) ?_ λ _ _=>?_
 .refine zaa ⟨81,[(14,.pv [ints acc,ints f0,.vs 2 false (zbo R0)]),(16,.pv [ints bcc,ints f1,.vs 2 false (zbo R1)]),(18,.I I),(19,.I 0),(21,.I 0)],[],3800⟩ rfl ?_ ?_
  .simp
   exact Le.go [] [] rfl rfl (by simp [fcd,zac]) (by simp)
  refine zaf ?_
  refine zas (ι:=Nat) (λ i=>⟨81,[(14,.pv [ints acc,ints f0,.vs 2 false (zbo R0)]),(16,.pv [ints bcc,ints f1,.vs 2 false (zbo R1)]),(18,.I I),(19,.I (outI acc bcc i)),(21,.I i)],[],3900⟩) (λ i=>i<=acc.length) (λ i=>acc.length - i) 0 (Nat.zero_le _)
   (Le.go [] [] rfl rfl (by simp [fcd,zac,ho0]) (by simp)) ?_
  intro i hi;have hcle:=zyA acc bcc i;refine zab ?_;refine zaa ⟨81,[(14,.pv [ints acc,ints f0,.vs 2 false (zbo R0)]),(16,.pv [ints bcc,ints f1,.vs 2 false (zbo R1)]),(18,.I I),(19,.I (outI acc bcc i)),(21,.I i),(65,.B (decide (i<acc.length)))],[],4000⟩ rfl ?_ ?_
  .simp
   exact Le.go [] [] rfl rfl (by simp [fcd,zac]) (by simp)
  refine zad _ rfl (λ h17=>?_) λ h17=>?_
  .rw [decide_eq_true_eq] at h17
   have hwi : IntKind.i64.wrap ((i : Int)+1)=((i+1 : Nat) : Int):=by rw [w6]; omega
   have hwk : IntKind.i64.wrap ((outI acc bcc i : Int)+1)=((outI acc bcc i+1 : Nat) : Int):=by rw [w6]; omega
   have hsc:=zve (b:=bcc) h17;obtain ⟨k,hk⟩ : ∃ k,k=acc[i]:=⟨_,rfl⟩;rw [<- hk] at hsc;have hhk:=hhas k;refine zae ?_;refine zaO (ι:=Unit) (λ _=>⟨81,[(14,.pv [ints acc,ints f0,.vs 2 false (zbo R0)]),(16,.pv [ints bcc,ints f1,.vs 2 false (zbo R1)]),(18,.I I),(19,.I (outI acc bcc (i+1))),(21,.I i)],[],4500⟩) (λ _=>True) ?_ λ _ _=>?_
   .refine zaf ?_
    refine zaC ⟨81,[(14,.pv [ints acc,ints f0,.vs 2 false (zbo R0)]),(16,.pv [ints bcc,ints f1,.vs 2 false (zbo R1)]),(18,.I I),(19,.I (outI acc bcc i)),(21,.I i),(76,.B (!bcc.contains k))],[],4400⟩ rfl ?_ ?_
    .simp [h17,<- hk]
     refine zap hhk (by simp [fcd,zac]) ?_
     simp;exact ⟨rfl,Le.go [] [] rfl rfl (by simp [fcd,zac]) (by simp)⟩
    refine zad _ rfl (λ hd=>?_) λ hd=>?_
    .rw [if_neg (by simpa using hd)] at hsc
     refine zav rfl ?_;simp [hwk];rw [hsc];exact Le.go [] [] rfl rfl (by simp [fcd,zac]) (by simp)
    .rw [if_pos (by simpa using hd),Nat.add_zero] at hsc
     refine zae ?_;refine ⟨(),trivial,?_⟩;rw [hsc];exact Le.go [] [] rfl rfl (by simp [fcd,zac]) (by simp)
   refine zav rfl ?_;simp [hwi];exact ⟨i+1,by omega,by omega,Le.go [] [] rfl rfl (by simp [fcd,zac]) (by simp)⟩
  rw [decide_eq_false_iff_not] at h17;obtain rfl : i=acc.length:=by omega
  refine zaq ?_;refine hit ?_;exact ⟨(),trivial,Le.go [] [] rfl rfl (by simp [fcd,zac]) (by simp)⟩
 refine zaa ⟨81,[(8,.I I),(9,.I (outI acc bcc acc.length)),(10,.I 0)],[],7000⟩ rfl ?_ ?_
 .simp
  exact LeH [] []
 refine zai ?_;rw [hres];exact ⟨.inr rfl,zao.out [] [] rfl (by simp) (by simp) (.refl _) (by simp)⟩
abbrev rowV (v : Int × Int) : List AV:=[.I v.1,.I v.2]
theorem ztB {g : Gr} {p : Pol} {x n : Int} (h1 : g.size<=64) (h2 : g.gone.length<=64) : (zbL g p x n).1.edges.length<=500/\(zbL g p x n).1.gone.length<=64/\(zbL g p x n).2.1.length<=64:=by
 unfold zbL;split
 .simp [zcK]
 split
 .simp [zcK]
 split
 .simp [zcK]
 split
 .simp [zcK]
 split
 .simp [zcK]
 refine ⟨?_,h2,?_⟩
 .rw [show (zce g x ((zge g p x).take n.toNat),(zge g p x).take n.toNat,(0 : Int)).1=zce g x ((zge g p x).take n.toNat) from rfl,zov]
  omega
 .have h3:=zfQ g.size.toNat (zh7 g p x)
  have h4 : (zge g p x).length<=g.size.toNat:=h3;have h5:=List.length_take_le' n.toNat (zge g p x);show ((zge g p x).take n.toNat).length<=64;omega
set_option maxRecDepth 100000 in
set_option maxHeartbeats 8000000 in
theorem zh6 (L : List Int) (x0 n0 : Int) : zaj Tryz.prog zfZ [ints L,.I x0,.I n0] [] (.B true) []:=by
 refine zjn.ac ?_;show awp _ 0 _ _ ⟨156,[(0,ints L),(1,.I x0),(2,.I n0)],[],16⟩;have hlight:=zwB L;refine rs [0,1,2] [] [] ?_;refine zab ?_;refine zaa ⟨156,[(0,ints L),(1,.I x0),(2,.I n0),(29,.B (!decide (L.length<=400)))],[],100⟩ rfl ?_ ?_
 .simp
  refine zap hlight (by simp) ?_
  simp;exact Le.go [] [] rfl rfl (by simp <;> exact wkB (by rw [Bool.eq_iff_iff]; simp)) (by simp)
 refine zad _ rfl (λ h3=>?_) λ h3=>?_
 .refine rx (s:=?s4) [6] [] [] rfl ?o4 ?q4
  case o4=>simp; refine zap znP (by simp) ?_; simp; rfl
  refine zai ?_;exact ⟨.inr rfl,zao.one (by simp)⟩
 have h3 : L.length<=400:=by simpa using h3
 obtain ⟨g,b1,⟨hg,hg2,hg9,hb1⟩,hcg⟩:=zzn L h3;obtain ⟨⟨p,b2⟩,⟨hp1,hp2,hp3,hb2⟩,hcp⟩:=zwQ L b1 g h3 hb1 (by omega) (by omega)
 simp only at hp1 hp2 hp3 hb2 hcp;have hel:=hg.edges_le;have hgl:=hg.gone_le;refine zae ?_;refine zaa ⟨156,[(1,.I x0),(2,.I n0),(7,.pt 20 0 0)],[(20,some (dice L 0))],200⟩ rfl ?_ ?_
 .simp
  refine zbz (zx0 L) (by simp) ?_
  simp;exact LeH [(108,20)] []
 refine zaa ⟨156,[(1,.I x0),(2,.I n0),(7,.pt 20 0 0),(8,.pt 30 0 0)],[(20,some (dice L b1)),(30,some ⟨3,[gC g],0⟩)],300⟩ rfl ?_ ?_
 .simp
  refine zcz (i:=20) rfl (e':=dice L 0) (by simp) hcg (by simp) (by simp) ?_
  simp;exact Le.go [(20,20),(216,30)] [] rfl rfl (by simp) (by simp [zat])
 refine zaa ⟨156,[(1,.I x0),(2,.I n0),(7,.pt 20 0 0),(8,.pt 30 0 0),(9,.pt 31 0 0)],[(20,some (dice L b2)),(30,some ⟨3,[gC g],0⟩),(31,some ⟨3,[pC p],0⟩)],400⟩ rfl ?_ ?_
 .simp
  refine zcz (i:=20) rfl (e':=dice L b1) (by simp) hcp (by simp) (by simp) ?_
  simp;exact Le.go [(20,20),(30,30),(324,31)] [] rfl rfl (by simp) (by simp [zat])
 have hed:=ztO hg hg9;obtain ⟨y,b3,⟨hb3,hy⟩,hny⟩:=znh L b2 8 h3 hb2 (by omega) (by omega)
 have hwy : IntKind.i64.wrap (g.size+(y : Int))=g.size+y:=w6;have hg' : GrOk (zsd g y):=zwG hg (by omega) (by omega)
 have hp' : zbu (zsd g y).size p:=zwY hp1 (by omega)
 have hGs : (zsd g y).size=g.size+y:=rfl;have hGe : (zsd g y).edges.length<=81:=hed;have hGo : (zsd g y).gone.length<=64:=hgl;obtain ⟨g2,hg2d⟩ : ∃ g2,g2=zsd g y:=⟨_,rfl⟩;rw [<- hg2d] at hg' hp' hGs hGe hGo;have hg2c : gC g2=[.I (g.size+y),eEs g.edges,ints g.gone]:=by rw [hg2d]; rfl
 refine zaC ⟨156,[(1,.I x0),(2,.I n0),(7,.pt 20 0 0),(8,.pv (gC g2)),(9,.pt 31 0 0)],[(20,some (dice L b3)),(31,some ⟨3,[pC p],0⟩)],500⟩ rfl ?_ ?_
 .simp
  refine zcz (i:=20) rfl (e':=dice L b2) (by simp) hny (by simp) (by simp) ?_
  simp [hwy,zat];exact ⟨rfl,Le.go [(20,20),(31,31)] [30] rfl rfl (by simp [fcd,zac,zat,hg2c]) (by simp [zat])⟩
 obtain ⟨x1,b4,⟨hb4,hx1⟩,hnx⟩:=znh L b3 g2.size h3 hb3 (by omega) (by omega)
 obtain ⟨q,b5,⟨hb5,hq⟩,hnq⟩:=znh L b4 6 h3 hb4 (by omega) (by omega)
 have hwq : IntKind.i64.wrap (1+(q : Int))=1+q:=w6;have hm1:=zuZ n0 9 (by omega)
 have hm2:=zuZ x0 g2.size (by omega)
 obtain ⟨V,hV⟩ : ∃ V : List (Int × Int),V=[((x1 : Int),1+(q : Int)),(x0,modI n0 9),(modI x0 g2.size,n0)]:=⟨_,rfl⟩;have hV3 : V.length=3:=by rw [hV]; rfl
 have hVr : V.map rowV=[[.I x1,.I (1+(q : Int))],[.I x0,.I (modI n0 9)],[.I (modI x0 g2.size),.I n0]]:=by rw [hV]; rfl
 have hring:=λ a b=>zew g2 p a b (by omega) (by omega) (by omega) (by omega)
 have hring2:=λ a b=>zkm g2 p a b hg' hp' (by omega) hGe
 have hharm:=λ a b=>ziB g2 p a b (by omega) (by omega) (by omega) (by omega) (λ _=>by omega)
 have hharm2:=λ a b=>zoD g2 p a b hg' hp' (by omega) hGe
 refine zab ?_;refine zaC ⟨156,[(8,.pv (gC g2)),(9,.pt 31 0 0),(62,.vs 2 false (V.map rowV)),(63,.I V.length),(64,.I 0)],[(31,some ⟨3,[pC p],0⟩)],700⟩ rfl ?_ ?_
 .simp
  refine zcz (i:=20) rfl (e':=dice L b3) (by simp) hnx (by simp) (by simp) ?_
  simp;refine zcz (i:=20) rfl (e':=dice L b4) (by simp) hnq (by simp) (by simp) ?_
  simp [hwq];refine zap hm1 (by simp) ?_
  simp;refine zap hm2 (by simp) ?_
  simp [zhf,zoV];exact ⟨rfl,Le.go [(31,31)] [644] rfl rfl (by simp [hVr,hV3,fcd,zac]) (by simp [zat])⟩
 refine zaf ?_
 refine zas (ι:=Nat) (λ i=>⟨156,[(8,.pv (gC g2)),(9,.pt 31 0 0),(62,.vs 2 false (V.map rowV)),(63,.I V.length),(64,.I i)],[(31,some ⟨3,[pC p],0⟩)],800⟩) (λ i=>i<=V.length) (λ i=>V.length - i) 0 (Nat.zero_le _)
  (Le.go [(31,31)] [] rfl rfl (by simp [fcd,zac]) (by simp [fcd,zac,zat])) ?_
 intro i hi;refine zaa ⟨156,[(8,.pv (gC g2)),(9,.pt 31 0 0),(62,.vs 2 false (V.map rowV)),(63,.I V.length),(64,.I i),(65,.B (decide (i<V.length)))],[(31,some ⟨3,[pC p],0⟩)],900⟩ rfl ?_ ?_
 .simp
  exact Le.go [(31,31)] [] rfl rfl (by simp [fcd,zac]) (by simp [fcd,zac,zat])
 refine zab ?_;refine zad _ rfl (λ h17=>?_) λ h17=>?_
 .rw [decide_eq_true_eq] at h17
  have hwi : IntKind.i64.wrap ((i : Int)+1)=((i+1 : Nat) : Int):=by rw [w6]; omega
  obtain ⟨⟨a,b⟩,hab⟩ : ∃ ab,ab=V[i]:=⟨_,rfl⟩;have hr1:=hring a b;have hr2:=hring2 a b;have hh1:=hharm a b;have hh2:=hharm2 a b;obtain ⟨hb1,hb2,hb3⟩:=ztB (g:=g2) (p:=p) (x:=a) (n:=b) (by omega) hGo
  obtain ⟨⟨H,l,e⟩,hr⟩ : ∃ r,r=zbL g2 p a b:=⟨_,rfl⟩;obtain ⟨⟨u,v,w⟩,hh⟩ : ∃ h,h=zeY g2 p a b:=⟨_,rfl⟩;rw [<- hr] at hr1 hr2 hb1 hb2 hb3;rw [<- hh] at hh1 hh2;simp only at hr1 hr2 hh1 hh2 hb1 hb2 hb3;have hsame:=zpf H H (by omega) (by omega)
  rw [decide_eq_true (EqG.rfl' H)] at hsame;have hints:=znc l l (by omega)
  rw [decide_eq_true rfl] at hints;refine zae ?_;refine zab ?_;refine zaf ?_;refine zaa ⟨156,[(8,.pv (gC g2)),(9,.pt 31 0 0),(11,.pv [.I a,.I b]),(62,.vs 2 false (V.map rowV)),(63,.I V.length),(64,.I i)],[(31,some ⟨3,[pC p],0⟩)],1000⟩ rfl ?_ ?_
  .simp [h17,<- hab,zat]
   exact Le.go [(31,31)] [916] rfl rfl (by simp [fcd,zac,<- hab]) (by simp [fcd,zac,zat])
  refine zaa ⟨156,[(8,.pv (gC g2)),(9,.pt 31 0 0),(11,.pv [.I a,.I b]),(12,.pv (gC H)),(13,ints l),(14,.I e),(62,.vs 2 false (V.map rowV)),(63,.I V.length),(64,.I i)],[(31,some ⟨3,[pC p],0⟩)],1200⟩ rfl ?_ ?_
  .simp
   refine zap hr1 (by simp [fcd,zac,zat]) ?_
   simp [zat];exact Le.go [(31,31)] [1088] rfl rfl (by simp [fcd,zac]) (by simp [fcd,zac,zat])
  refine zaa ⟨156,[(8,.pv (gC g2)),(9,.pt 31 0 0),(11,.pv [.I a,.I b]),(12,.pv (gC H)),(13,ints l),(14,.I e),(15,.pv (gC H)),(16,ints l),(17,.I e),(62,.vs 2 false (V.map rowV)),(63,.I V.length),(64,.I i)],[(31,some ⟨3,[pC p],0⟩)],1400⟩ rfl ?_ ?_
  .simp
   refine zap hr2 (by simp [fcd,zac,zat]) ?_
   simp [zat];exact Le.go [(31,31)] [1288] rfl rfl (by simp [fcd,zac]) (by simp [fcd,zac,zat])
  refine zaa ⟨156,[(8,.pv (gC g2)),(9,.pt 31 0 0),(11,.pv [.I a,.I b]),(12,.pv (gC H)),(13,ints l),(14,.I e),(15,.pv (gC H)),(16,ints l),(17,.I e),(18,.I u),(19,.I v),(20,.I w),(62,.vs 2 false (V.map rowV)),(63,.I V.length),(64,.I i)],[(31,some ⟨3,[pC p],0⟩)],1600⟩ rfl ?_ ?_
  .simp
   refine zap hh1 (by simp [fcd,zac,zat]) ?_
   simp;exact Le.go [(31,31)] [] rfl rfl (by simp [fcd,zac]) (by simp [fcd,zac,zat])
  refine zaa ⟨156,[(8,.pv (gC g2)),(9,.pt 31 0 0),(11,.pv [.I a,.I b]),(12,.pv (gC H)),(13,ints l),(14,.I e),(15,.pv (gC H)),(16,ints l),(17,.I e),(18,.I u),(19,.I v),(20,.I w),(21,.I u),(22,.I v),(23,.I w),(62,.vs 2 false (V.map rowV)),(63,.I V.length),(64,.I i)],[(31,some ⟨3,[pC p],0⟩)],1800⟩ rfl ?_ ?_
  .simp
   refine zap hh2 (by simp [fcd,zac,zat]) ?_
   simp;exact Le.go [(31,31)] [] rfl rfl (by simp [fcd,zac]) (by simp [fcd,zac,zat])
  refine zaa ⟨156,[(8,.pv (gC g2)),(9,.pt 31 0 0),(62,.vs 2 false (V.map rowV)),(63,.I V.length),(64,.I i),(141,.B false)],[(31,some ⟨3,[pC p],0⟩)],2200⟩ rfl ?_ ?_
  .simp
   refine zap hsame (by simp [fcd,zac,zat]) ?_
   simp;refine zap hints (by simp [fcd,zac,zat]) ?_
   simp;exact Le.go [(31,31)] [] rfl rfl (by simp [fcd,zac]) (by simp [fcd,zac,zat])
  refine zad _ rfl (λ h=>by cases h) λ _=>?_
  refine zae ?_;refine zav rfl ?_;simp [hwi];exact ⟨i+1,by omega,by omega,Le.go [(31,31)] [] rfl rfl (by simp [fcd,zac]) (by simp [fcd,zac,zat])⟩
 have hchk : chkE g2 ⟨p.seeds,[],p.lv⟩=15:=by
  unfold chkE;rw [if_pos hg',if_neg];intro h;have:=h.2.2.1;simp at this
 have hlast : zbL g2 ⟨p.seeds,[],p.lv⟩ 0 1=(zcK,[],15):=by
  unfold zbL;rw [hchk,if_pos (by decide)]
 have hrl:=zew g2 ⟨p.seeds,[],p.lv⟩ 0 1 (by omega) (by omega) (by show p.seeds.length<=_; omega) (by simp)
 rw [hlast] at hrl;refine zaq ?_;refine hit ?_;refine zaa ⟨156,[(8,.pv (gC g2)),(9,.pv [ints p.seeds,.nilS,.I p.lv])],[],3000⟩ rfl ?_ ?_
 .simp [zat]
  exact Le.go [] [31] rfl rfl (by simp [fcd,zac]) (by simp)
 have hwk : WkL [eG g2,.agg [ints p.seeds,.nilS,.I p.lv],.I 0,.I 1] [eG g2,eP ⟨p.seeds,[],p.lv⟩,.I 0,.I 1]:=⟨.refl _,wkA3 (.refl _) (.nil _ _) (.refl _),.refl _,.refl _,trivial⟩;replace hrl:=hrl.wk hwk;refine zaa ⟨156,[(26,.I 15)],[],4000⟩ rfl ?_ ?_
 .simp
  refine zap hrl (by simp [fcd,zac,zat]) ?_
  simp [zat];exact LeH [] []
 refine zaa ⟨156,[(6,.B true)],[],5000⟩ rfl ?_ ?_
 .simp
  refine zap znP (by simp) ?_
  simp;exact LeH [] []
 refine zai ?_;exact ⟨.inr rfl,zao.one (by simp)⟩
end Go.Proofs.YtkngdgplbojdlaaGreat
