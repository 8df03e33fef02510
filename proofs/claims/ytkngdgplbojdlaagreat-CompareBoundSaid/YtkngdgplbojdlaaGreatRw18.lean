/- Texts of this claim,merged. -/
import Derived.Test.YtkngdgplbojdlaaGreatRw17
import Derived.Test.YtkngdgplbojdlaaGreatRw13
import Derived.Test.YtkngdgplbojdlaaGreatRw15
import Derived.Test.YtkngdgplbojdlaaGreatRw11
import Derived.Test.YtkngdgplbojdlaaGreatRw6
set_option linter.unusedSimpArgs false
set_option linter.unusedVariables false
set_option linter.unusedSectionVars false
namespace Go.Proofs.YtkngdgplbojdlaaGreat
open Go
def cntI (a l : List Int) (i : Nat) : Nat:=((l.take i).filter λ k=>decide (k∈a)).length
theorem zvg {a l : List Int} {i : Nat} (h : i<l.length) : cntI a l (i+1)=cntI a l i+if l[i]∈a then 1 else 0:=by
 unfold cntI;rw [List.take_succ_eq_append_getElem h,List.filter_append,List.length_append,List.filter_cons]
 by_cases h2 : l[i]∈a <;> simp [h2]
theorem zyD (a l : List Int) (i : Nat) : cntI a l i<=l.length:=by
 unfold cntI;have h1:=List.length_filter_le (λ k=>decide (k∈a)) (l.take i);have h2:=List.length_take_le' i l;omega
theorem zu5 {g : Gr} {p : Pol} {x : Int} {n : Nat} (hg : GrOk g) (hp : zbe g.size p) (hx : Key g x) (h1 : 1<=n) (h2 : n<=(zb5 g p x).length) (h3 : g.edges.length+3*n<=500) :
  (x∈g.gone/\zcx g p x n=(zdA,[],4))∨(x∉g.gone/\zcx g p x n=(za9 g x ((zb5 g p x).take n),(zb5 g p x).take n,0)):=by
 by_cases hxg : x∈g.gone
 .refine .inl ⟨hxg,?_⟩
  unfold zcx;rw [if_neg (by rw [zgT.2 ⟨hg,hp⟩]; decide),if_pos (.inr hxg)]
 .refine .inr ⟨hxg,?_⟩
  have hll : ((zb5 g p x).take n).length=n:=by rw [List.length_take]; omega
  have htl : g.edges.length+(tieL x ((zb5 g p x).take n)).length<=500:=by
   have h4:=zkg g x ((zb5 g p x).take n) ((zb5 g p x).take n).length;have h5 : tieF g x ((zb5 g p x).take n) ((zb5 g p x).take n).length=g.edges++tieL x ((zb5 g p x).take n):=rfl;rw [h5,List.length_append,hll] at h4;omega
  unfold zcx
  rw [if_neg (by rw [zgT.2 ⟨hg,hp⟩]; decide),if_neg (by
   rintro (h | h)
   .exact h ⟨hx.1,by have:=hx.2; omega⟩
   .exact hxg h),if_neg (by omega),if_neg (by omega),Int.toNat_natCast,if_neg (by omega)]
set_option maxRecDepth 100000 in
set_option maxHeartbeats 8000000 in
theorem zii (L : List Int) : zaj Tryz.prog zfX [ints L] [] (.B true) []:=by
 refine zjB.ac ?_;show awp _ 0 _ _ ⟨154,[(0,ints L)],[],16⟩;have hlight:=zwE L;refine rs [0] [] [] ?_;refine zab ?_;refine zaa ⟨154,[(0,ints L),(21,.B (!decide (L.length<=400)))],[],100⟩ rfl ?_ ?_
 .simp
  refine zaq hlight (by simp) ?_
  simp;exact Le.go [] [] rfl rfl (by simp <;> exact wkB (by rw [Bool.eq_iff_iff]; simp)) (by simp)
 refine zac _ rfl (λ h3=>?_) λ h3=>?_
 .refine rx (s:=?s4) [2] [] [] rfl ?o4 ?q4
  case o4=>simp; refine zaq zkE (by simp) ?_; simp; rfl
  refine zah ?_;exact ⟨.inr rfl,zao.one (by simp)⟩
 have h3 : L.length<=400:=by simpa using h3
 obtain ⟨g,b1,⟨hg,hg2,hg9,hb1⟩,hcg⟩:=zAs L h3;obtain ⟨⟨p,b2⟩,⟨hp1,hp2,hp3,hb2⟩,hcp⟩:=zxg L b1 g h3 hb1 (by omega) (by omega)
 simp only at hp1 hp2 hp3 hb2 hcp;have hel:=hg.edges_le;have hgl:=hg.gone_le;refine zad ?_;refine zaa ⟨154,[(3,.pt 20 0 0)],[(20,some (dice L 0))],200⟩ rfl ?_ ?_
 .simp
  refine zbx (zyt L) (by simp) ?_
  simp;exact LeH [(108,20)] []
 refine zaa ⟨154,[(3,.pt 20 0 0),(4,.pt 30 0 0)],[(20,some (dice L b1)),(30,some ⟨3,[gC g],0⟩)],300⟩ rfl ?_ ?_
 .simp
  refine zcO (i:=20) rfl (e':=dice L 0) (by simp) hcg (by simp) (by simp) ?_
  simp;exact Le.go [(20,20),(216,30)] [] rfl rfl (by simp) (by simp [zaO])
 refine zaa ⟨154,[(3,.pt 20 0 0),(4,.pt 30 0 0),(5,.pv (pC p))],[(20,some (dice L b2)),(30,some ⟨3,[gC g],0⟩)],400⟩ rfl ?_ ?_
 .simp
  refine zcO (i:=20) rfl (e':=dice L b1) (by simp) hcp (by simp) (by simp) ?_
  simp;exact Le.go [(20,20),(30,30)] [324] rfl rfl (by simp) (by simp [zaO])
 have hw6 : IntKind.i64.wrap (g.size+6)=g.size+6:=w6;have hg' : GrOk (zcc g 6):=zwO hg (by decide) (by omega)
 have hp' : zbe (zcc g 6).size p:=zxu hp1 (by decide)
 have hed:=zt9 hg hg9;refine zaa ⟨154,[(3,.pt 20 0 0),(4,.pv (gC (zcc g 6))),(5,.pv (pC p))],[(20,some (dice L b2))],500⟩ rfl ?_ ?_
 .simp [hw6,zaO]
  exact Le.go [(20,20)] [30] rfl rfl (by simp [fcd,zak,zaO,zcc]) (by simp)
 obtain ⟨x,b3,⟨hb3,hx⟩,hnx⟩:=znT L b2 g.size h3 hb2 (by omega) (by omega)
 obtain ⟨q,b4,⟨hb4,hq⟩,hnq⟩:=znT L b3 6 h3 hb3 (by omega) (by omega)
 have hkx : Key g x:=⟨by omega,hx⟩
 have hkx' : Key (zcc g 6) x:=⟨by omega,by show (x : Int)<g.size+6; omega⟩
 have hroom : 6<=(zb5 (zcc g 6) p x).length:=zwr (m:=6) hg hp1 hkx;obtain ⟨n,hn⟩ : ∃ n : Nat,n=1+q:=⟨_,rfl⟩;have hwm : IntKind.i64.wrap (g.size+6 - 6)=g.size:=by rw [w6]; omega
 have hwn : IntKind.i64.wrap (1+(q : Int))=(n : Int):=by rw [w6]; omega
 have hwm2 : IntKind.i64.wrap g.size=g.size:=w6;refine zaa ⟨154,[(4,.pv (gC (zcc g 6))),(5,.pv (pC p)),(6,.I x),(7,.I (n : Int))],[],600⟩ rfl ?_ ?_
 .simp [zcc,hwm,hwm2]
  refine zcO (i:=20) rfl (e':=dice L b2) (by simp) hnx (by simp) (by simp) ?_
  simp;refine zcO (i:=20) rfl (e':=dice L b3) (by simp) hnq (by simp) (by simp) ?_
  simp [hwn];exact Le.go [] [] rfl rfl (by simp [fcd,zak,zcc]) (by simp)
 have hring:=zf4 (zcc g 6) p x n (show g.edges.length<=_ by omega) (show g.gone.length<=_ by omega) (by omega) (by omega)
 rcases zu5 hg' hp' hkx' (n:=n) (by omega) (by omega) (show g.edges.length+3*n<=500 by omega) with ⟨hxg,hres⟩ | ⟨hxg,hres⟩
 .rw [hres] at hring
  refine zaa ⟨154,[(4,.pv (gC (zcc g 6))),(5,.pv (pC p)),(10,.I 4)],[],700⟩ rfl ?_ ?_
  .simp
   refine zaq hring (by simp) ?_
   simp [zaO];exact Le.go [] [] rfl rfl (by simp [fcd,zak]) (by simp)
  refine zab ?_;refine zaa ⟨154,[(10,.I 4),(52,.B true)],[],800⟩ rfl ?_ ?_
  .simp
   exact LeH [] []
  refine zac _ rfl (λ _=>?_) λ h=>by cases h
  refine zaa ⟨154,[(2,.B true)],[],900⟩ rfl ?_ ?_
  .simp
   refine zaq zkE (by simp) ?_
   simp;exact LeH [] []
  refine zah ?_;exact ⟨.inr rfl,zao.one (by simp)⟩
 rw [hres] at hring;obtain ⟨hro,hharm0,_⟩:=zvd hg' hp' hkx' hxg (n:=n) (by omega) (by omega) (show g.edges.length+3*n<=500 by omega)
 have hharm:=zin (zcc g 6) p x n (show g.edges.length<=_ by omega) (show g.gone.length<=_ by omega) (by omega) (by omega) (λ _=>by show g.size+6<20; omega)
 rw [hharm0] at hharm;simp only at hring hharm;have hfk : zfh (zcc g 6) p x ((zb5 (zcc g 6) p x).take n):=zg8 n;have hbnd:=ztb hg' hp' (zrA hg' hp') hkx' hfk hro;have hcr:=(zkk hg' hp' hkx' hfk).1 x (by omega) λ h=>hfk.ne _ h rfl
 rw [<- hcr] at hbnd;have hmost:=λ s k hs hsx hk=>zwk (lv:=p.lv) (s:=s) (k:=k) hg' hfk hro (by omega) hs hsx hk
 have hin : inN (zcc g 6) p x ((zb5 (zcc g 6) p x).take n)=cntI (accG (za9 (zcc g 6) x ((zb5 (zcc g 6) p x).take n)) p) ((zb5 (zcc g 6) p x).take n) ((zb5 (zcc g 6) p x).take n).length:=by
  rw [<- zzA hfk];unfold inC cntI;rw [List.take_length,zvO hfk.nodup (λ k hk=>by have:=hfk.rng k hk; omega)]
 have hll : ((zb5 (zcc g 6) p x).take n).length=n:=by rw [List.length_take]; omega
 obtain ⟨O,hO⟩ : ∃ O,O=outC (zcc g 6).size.toNat (accG (zcc g 6) p) (accG (za9 (zcc g 6) x ((zb5 (zcc g 6) p x).take n)) p):=⟨_,rfl⟩;obtain ⟨I,hI⟩ : ∃ I,I=inN (zcc g 6) p x ((zb5 (zcc g 6) p x).take n):=⟨_,rfl⟩;rw [<- hO,<- hI] at hharm;rw [<- hI] at hbnd hin;obtain ⟨l,hl⟩ : ∃ l,l=(zb5 (zcc g 6) p x).take n:=⟨_,rfl⟩;rw [<- hl] at hring hro hbnd hin hll hcr;simp only [<- hl] at hmost;have hHs : (za9 (zcc g 6) x l).size=g.size+6:=rfl;obtain ⟨H,hH⟩ : ∃ H,H=za9 (zcc g 6) x l:=⟨_,rfl⟩;rw [<- hH] at hring hro hbnd hin hcr hHs;simp only [<- hH] at hmost;have hpH : zbe H.size p:=by rw [hHs]; exact hp'
 obtain ⟨⟨RR,fl⟩,_,hrun⟩:=zBr H p hro hpH (zrA hro hpH);simp only at hrun;have hcap:=zlt H p hro (by omega)
 have hcl : (zax H p).length=H.size.toNat:=zca;rw [<- hcl] at hcap;have hxc : x<(zax H p).length:=by omega
 have hcb:=zjp (g:=H) hp1 _ (List.getElem_mem hxc);rw [Int.toNat_natCast,List.getD,List.getElem?_eq_getElem hxc,Option.getD_some] at hbnd;have hm:=λ s k=>zoz H p.lv s k hro;have hal:=zpb hro p;obtain ⟨acc,hacc⟩ : ∃ acc,acc=accG H p:=⟨_,rfl⟩;rw [<- hacc] at hin hal;rw [show accR H p (ordL (zai H p.lv) p.seeds)=acc from hacc.symm] at hrun
 obtain ⟨C,hC⟩ : ∃ C,C=zax H p:=⟨_,rfl⟩;simp only [<- hC] at hcap hbnd hcb hxc;obtain ⟨c,hc⟩ : ∃ c,c=C[x]:=⟨_,rfl⟩;rw [<- hc] at hcb hbnd;have hwc : IntKind.i64.wrap (c - 1)=c - 1:=w6;have hhas:=λ k=>zp7 acc k (by omega)
 have hcI0 : cntI acc l 0=0:=rfl;refine zaa ⟨154,[(4,.pv (gC (zcc g 6))),(5,.pv (pC p)),(6,.I x),(7,.I (n : Int)),(8,.pv (gC H)),(9,ints l),(10,.I 0)],[],700⟩ rfl ?_ ?_
 .simp
  refine zaq hring (by simp) ?_
  simp [zaO];exact Le.go [] [672] rfl rfl (by simp [fcd,zak]) (by simp)
 refine zab ?_;refine zaa ⟨154,[(4,.pv (gC (zcc g 6))),(5,.pv (pC p)),(6,.I x),(7,.I (n : Int)),(8,.pv (gC H)),(9,ints l),(52,.B false)],[],800⟩ rfl ?_ ?_
 .simp
  exact Le.go [] [] rfl rfl (by simp [fcd,zak]) (by simp)
 refine zac _ rfl (λ h=>by cases h) λ _=>?_
 refine zad ?_;refine zaa ⟨154,[(4,.pv (gC (zcc g 6))),(5,.pv (pC p)),(6,.I x),(7,.I (n : Int)),(8,.pv (gC H)),(9,ints l),(11,.pv [ints acc,ints fl,.vs 2 false (zce RR)]),(12,.I 0)],[],900⟩ rfl ?_ ?_
 .simp
  refine zaq hrun (by simp) ?_
  simp [zaO];exact Le.go [] [848] rfl rfl (by simp [fcd,zak]) (by simp)
 refine zaa ⟨154,[(4,.pv (gC (zcc g 6))),(5,.pv (pC p)),(6,.I x),(7,.I (n : Int)),(8,.pv (gC H)),(9,ints l),(11,.pv [ints acc,ints fl,.vs 2 false (zce RR)]),(12,.I 0),(13,.I 0)],[],1000⟩ rfl ?_ ?_
 .simp
  exact Le.go [] [] rfl rfl (by simp [fcd,zak]) (by simp)
 refine zab ?_;refine zaa ⟨154,[(4,.pv (gC (zcc g 6))),(5,.pv (pC p)),(6,.I x),(7,.I (n : Int)),(8,.pv (gC H)),(9,ints l),(11,.pv [ints acc,ints fl,.vs 2 false (zce RR)]),(12,.I 0),(13,.I 0),(14,.I 0)],[],1100⟩ rfl ?_ ?_
 .simp
  exact Le.go [] [] rfl rfl (by simp [fcd,zak]) (by simp)
 refine zae ?_
 refine zat (ι:=Nat) (λ i=>⟨154,[(4,.pv (gC (zcc g 6))),(5,.pv (pC p)),(6,.I x),(7,.I (n : Int)),(8,.pv (gC H)),(9,ints l),(11,.pv [ints acc,ints fl,.vs 2 false (zce RR)]),(12,.I 0),(13,.I (cntI acc l i)),(14,.I i)],[],1200⟩) (λ i=>i<=l.length) (λ i=>l.length - i) 0 (Nat.zero_le _)
  (Le.go [] [] rfl rfl (by simp [fcd,zak,hcI0]) (by simp)) ?_
 intro i hi;have hcle:=zyD acc l i;refine zab ?_;refine zaa ⟨154,[(4,.pv (gC (zcc g 6))),(5,.pv (pC p)),(6,.I x),(7,.I (n : Int)),(8,.pv (gC H)),(9,ints l),(11,.pv [ints acc,ints fl,.vs 2 false (zce RR)]),(12,.I 0),(13,.I (cntI acc l i)),(14,.I i),(71,.B (decide (i<l.length)))],[],1300⟩ rfl ?_ ?_
 .simp
  exact Le.go [] [] rfl rfl (by simp [fcd,zak]) (by simp)
 refine zac _ rfl (λ h17=>?_) λ h17=>?_
 .rw [decide_eq_true_eq] at h17
  have hwi : IntKind.i64.wrap ((i : Int)+1)=((i+1 : Nat) : Int):=by rw [w6]; omega
  have hwk : IntKind.i64.wrap ((cntI acc l i : Int)+1)=((cntI acc l i+1 : Nat) : Int):=by rw [w6]; omega
  have hsc:=zvg (a:=acc) h17;have hkl:=List.getElem_mem h17;obtain ⟨k,hk⟩ : ∃ k,k=l[i]:=⟨_,rfl⟩;rw [<- hk] at hsc hkl;have hhk:=hhas k;refine zad ?_;refine zab ?_;refine zae ?_;refine zaT (ι:=Unit) (λ _=>⟨154,[(4,.pv (gC (zcc g 6))),(5,.pv (pC p)),(6,.I x),(7,.I (n : Int)),(8,.pv (gC H)),(9,ints l),(11,.pv [ints acc,ints fl,.vs 2 false (zce RR)]),(12,.I 0),(13,.I (cntI acc l (i+1))),(14,.I i)],[],1500⟩) (λ _=>True) ?_ λ _ _=>?_
  .refine zaE ⟨154,[(4,.pv (gC (zcc g 6))),(5,.pv (pC p)),(6,.I x),(7,.I (n : Int)),(8,.pv (gC H)),(9,ints l),(11,.pv [ints acc,ints fl,.vs 2 false (zce RR)]),(12,.I 0),(13,.I (cntI acc l i)),(14,.I i),(80,.B (acc.contains k))],[],1400⟩ rfl ?_ ?_
   .simp [h17,<- hk]
    refine zaq hhk (by simp [fcd,zak]) ?_
    simp;exact ⟨rfl,Le.go [] [] rfl rfl (by simp [fcd,zak]) (by simp)⟩
   refine zac _ rfl (λ hd=>?_) λ hd=>?_
   .rw [if_pos (by simpa using hd)] at hsc
    refine zay rfl ?_;simp [hwk];rw [hsc];exact Le.go [] [] rfl rfl (by simp [fcd,zak]) (by simp)
   .rw [if_neg (by simpa using hd),Nat.add_zero] at hsc
    refine zad ?_;refine ⟨(),trivial,?_⟩;rw [hsc];exact Le.go [] [] rfl rfl (by simp [fcd,zak]) (by simp)
  refine zaa ⟨154,[(4,.pv (gC (zcc g 6))),(5,.pv (pC p)),(6,.I x),(7,.I (n : Int)),(8,.pv (gC H)),(9,ints l),(11,.pv [ints acc,ints fl,.vs 2 false (zce RR)]),(12,.I 0),(13,.I (cntI acc l (i+1))),(14,.I i),(15,.I 0)],[],1600⟩ rfl ?_ ?_
  .simp
   exact Le.go [] [] rfl rfl (by simp [fcd,zak]) (by simp)
  refine zae ?_
  refine zat (ι:=Nat) (λ j=>⟨154,[(4,.pv (gC (zcc g 6))),(5,.pv (pC p)),(6,.I x),(7,.I (n : Int)),(8,.pv (gC H)),(9,ints l),(11,.pv [ints acc,ints fl,.vs 2 false (zce RR)]),(12,.I 0),(13,.I (cntI acc l (i+1))),(14,.I i),(15,.I j)],[],1700⟩) (λ j=>j<=p.seeds.length) (λ j=>p.seeds.length - j) 0 (Nat.zero_le _)
   (Le.go [] [] rfl rfl (by simp [fcd,zak]) (by simp)) ?_
  intro j hj;refine zab ?_;refine zaa ⟨154,[(4,.pv (gC (zcc g 6))),(5,.pv (pC p)),(6,.I x),(7,.I (n : Int)),(8,.pv (gC H)),(9,ints l),(11,.pv [ints acc,ints fl,.vs 2 false (zce RR)]),(12,.I 0),(13,.I (cntI acc l (i+1))),(14,.I i),(15,.I j),(87,.B (decide (j<p.seeds.length)))],[],1800⟩ rfl ?_ ?_
  .simp
   exact Le.go [] [] rfl rfl (by simp [fcd,zak]) (by simp)
  refine zac _ rfl (λ h18=>?_) λ h18=>?_
  .rw [decide_eq_true_eq] at h18
   have hwj : IntKind.i64.wrap ((j : Int)+1)=((j+1 : Nat) : Int):=by rw [w6]; omega
   have hsm:=List.getElem_mem h18;obtain ⟨s,hs⟩ : ∃ s,s=p.seeds[j]:=⟨_,rfl⟩;rw [<- hs] at hsm;have hmo:=hm s k;refine zad ?_;refine zab ?_;refine zae ?_;refine zaE ⟨154,[(4,.pv (gC (zcc g 6))),(5,.pv (pC p)),(6,.I x),(7,.I (n : Int)),(8,.pv (gC H)),(9,ints l),(11,.pv [ints acc,ints fl,.vs 2 false (zce RR)]),(12,.I 0),(13,.I (cntI acc l (i+1))),(14,.I i),(15,.I j),(112,.B false)],[],2000⟩ rfl ?_ ?_
   .by_cases hsx : s=x
    .simp [h17,<- hk,h18,<- hs,hsx]
     exact ⟨rfl,Le.go [] [] rfl rfl (by simp [fcd,zak]) (by simp)⟩
    .have hmle:=hmost s k hsm hsx hkl
     have hmn : ¬ 1<zt8 H p.lv s k:=by omega
     have hne : (s != (x : Int))=true:=by simpa using hsx
     simp [h17,<- hk,h18,<- hs,hne];refine zaq hmo (by simp [fcd,zak]) ?_
     simp [hmn];exact ⟨rfl,Le.go [] [] rfl rfl (by simp [fcd,zak]) (by simp)⟩
   refine zac _ rfl (λ h=>by cases h) λ _=>?_
   refine zad ?_;refine zay rfl ?_;simp [hwj];exact ⟨j+1,by omega,by omega,Le.go [] [] rfl rfl (by simp [fcd,zak]) (by simp)⟩
  refine zar ?_;refine hit ?_;refine zay rfl ?_;simp [hwi];exact ⟨i+1,by omega,by omega,Le.go [] [] rfl rfl (by simp [fcd,zak]) (by simp)⟩
 rw [decide_eq_false_iff_not] at h17;obtain rfl : i=l.length:=by omega
 rw [<- hin];refine zar ?_;refine hit ?_;refine zaa ⟨154,[(4,.pv (gC (zcc g 6))),(5,.pv (pC p)),(6,.I x),(7,.I (n : Int)),(8,.pv (gC H)),(9,ints l),(11,.pv [ints acc,ints fl,.vs 2 false (zce RR)]),(12,.I 0),(13,.I I),(16,.I I),(17,.I O),(18,.I 0)],[],3000⟩ rfl ?_ ?_
 .simp
  refine zaq hharm (by simp) ?_
  simp;exact Le.go [] [] rfl rfl (by simp [fcd,zak]) (by simp)
 refine zaa ⟨154,[(2,.B true)],[],5000⟩ rfl ?_ ?_
 .simp
  refine zaq zkE (by simp) ?_
  simp [hll];refine zbx hcap (by simp) ?_
  simp [hxc,<- hc,hwc];exact Le.go [] [] rfl rfl (by simp <;> exact wkB (by rw [Bool.eq_iff_iff]; simp; split <;> omega)) (by simp)
 refine zah ?_;exact ⟨.inr rfl,zao.one (by simp)⟩
end Go.Proofs.YtkngdgplbojdlaaGreat
