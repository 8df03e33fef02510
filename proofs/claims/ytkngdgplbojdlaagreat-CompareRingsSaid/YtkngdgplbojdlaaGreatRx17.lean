/- Texts of this claim,merged. -/
import Derived.Test.YtkngdgplbojdlaaGreatRx16
import Derived.Test.YtkngdgplbojdlaaGreatRx13
import Derived.Test.YtkngdgplbojdlaaGreatRx15
import Derived.Test.YtkngdgplbojdlaaGreatRx10
import Derived.Test.YtkngdgplbojdlaaGreatRx7
set_option linter.unusedSimpArgs false
set_option linter.unusedVariables false
set_option linter.unusedSectionVars false
namespace Go.Proofs.YtkngdgplbojdlaaGreat
open Go
open Classical in
noncomputable def chkE (g : Gr) (p : Pol) : Int:=if GrOk g then if zbu g.size p then 0 else 15 else 14
theorem ziy {g : Gr} {p : Pol} : chkE g p=0↔GrOk g/\zbu g.size p:=by
 unfold chkE
 by_cases h1 : GrOk g
 .by_cases h2 : zbu g.size p
  .simp [h1,h2]
  .simp [h1,h2]
 .simp [h1]
theorem zqX (g : Gr) (p : Pol) (hl : g.edges.length<=140737488355328) (hl2 : g.gone.length<=140737488355328) (hs : p.seeds.length<=140737488355328) (ht : p.table.length<=140737488355328) :
  zaj Tryz.prog zbU [eG g,eP p] [] (.I (chkE g p)) []:=zeO g p hl hl2 hs ht
theorem zvK (g : Gr) (p : Pol) (hl : g.edges.length<=140737488355328) (hl2 : g.gone.length<=140737488355328) (hs : p.seeds.length<=140737488355328) (ht : p.table.length<=140737488355328) :
  zaj Tryz.prog zeh [eG g,eP p] [] (.I (chkE g p)) []:=zgz g p hl hl2 hs ht
variable {g : Gr} {p : Pol}
open Classical in
noncomputable def zbL (g : Gr) (p : Pol) (x n : Int) : Gr × List Int × Int :=
 if chkE g p≠0 then (zcK,[],chkE g p)
 else if ¬ (0<=x/\x<=g.size - 1)∨x∈g.gone then (zcK,[],4)
 else if n<1 then (zcK,[],2)
 else if ((zge g p x).length : Int)<n then (zcK,[],3)
 else if 500<g.edges.length+(tieL x ((zge g p x).take n.toNat)).length then (zcK,[],3)
 else (zce g x ((zge g p x).take n.toNat),(zge g p x).take n.toNat,0)
theorem wkT3 {a b c a' b' c' : AV} (h1 : Wk a a') (h2 : Wk b b') (h3 : Wk c c') : Wk (.tup [a,b,c]) (.tup [a',b',c']) :=
 .tup _ _ rfl λ i=>match i with | 0=>h1 | 1=>h2 | 2=>h3 | _+3=>.refl _
abbrev zwC (r : Gr × List Int × Int) : AV:=.tup [eG r.1,ints r.2.1,.I r.2.2]
theorem zur {g : Gr} (hg : GrOk g) : zal g 0=g:=by
 unfold zal
 have : (g.edges.filter λ e=>!decide (e.v<0))=g.edges:=List.filter_eq_self.2 λ e he=>by
  have:=hg.val e he;simp;omega
 rw [this]
def tieF (g : Gr) (x : Int) (l : List Int) (i : Nat) : List Ed:=g.edges++(List.range i).flatMap (tieI x l)
theorem zqo (g : Gr) (x : Int) (l : List Int) (i : Nat) : tieF g x l (i+1)=tieF g x l i++tieI x l i:=by
 unfold tieF;rw [List.range_succ,List.flatMap_append,List.append_assoc];simp
theorem zwV (x : Int) (l : List Int) (i : Nat) : (tieI x l i).length<=3:=by
 unfold tieI;split <;> simp
theorem zo3 (g : Gr) (x : Int) (l : List Int) : ∀ i,(tieF g x l i).length<=g.edges.length+3*i
 | 0=>by simp [tieF]
 | i+1=>by
   rw [zqo,List.length_append];have h1:=zo3 g x l i;have h2:=zwV x l i;omega
set_option maxRecDepth 100000 in
set_option maxHeartbeats 4000000 in
theorem zew (g : Gr) (p : Pol) (x n : Int) (hl : g.edges.length<=1000000) (hl2 : g.gone.length<=1000000) (hs : p.seeds.length<=1000000) (ht : p.table.length<=1000000) :
  zaj Tryz.prog zdu [eG g,eP p,.I x,.I n] [] (zwC (zbL g p x n)) []:=by
 refine zpm.ac ?_;show awp _ 0 _ _ ⟨96,[(0,eG g),(1,eP p),(2,.I x),(3,.I n)],[],16⟩;have hchk:=zqX g p (by omega) (by omega) (by omega) (by omega)
 generalize hring : zbL g p x n=r;unfold zbL at hring;replace hring:=hring.symm;have hcz:=ziy (g:=g) (p:=p);obtain ⟨c,hc⟩ : ∃ c,c=chkE g p:=⟨_,rfl⟩;rw [<- hc] at hchk hring hcz
 have herr : ∀ (e : Int) (m : Nat),r=(zcK,[],e)->zao [(8,some (true,3)),(9,none),(10,none)] 0 ⟨96,[(8,.pt 40 0 0),(9,.nilS),(10,.I e)],[(40,some zG)],m⟩ (zwC r) []:=by
  intro e m he;rw [he];exact zao.out [] [40] rfl (by simp) (by simp) (wkT3 (by simp; exact wkA3 (.refl _) (.nil _ _) (.nil _ _)) (.nil _ _) (.refl _)) (by simp)
 refine zaa ⟨96,[(3,.I n),(4,.pv (gC g)),(5,.pv (pC p)),(6,.pv [.I x]),(8,.pt 40 0 0)],[(40,some zG)],100⟩ rfl ?_ ?_
 .simp
  exact LeH [(40,40)] [16,24,32]
 refine zab ?_;refine zaa ⟨96,[(3,.I n),(4,.pv (gC g)),(5,.pv (pC p)),(6,.pv [.I x]),(8,.pt 40 0 0),(11,.I c)],[(40,some zG)],200⟩ rfl ?_ ?_
 .simp
  refine zap hchk (by simp) ?_
  simp;exact LeH [(40,40)] []
 refine zaf ?_;refine zaa ⟨96,[(3,.I n),(4,.pv (gC g)),(5,.pv (pC p)),(6,.pv [.I x]),(8,.pt 40 0 0),(11,.I c),(20,.B (decide (c≠0)))],[(40,some zG)],300⟩ rfl ?_ ?_
 .simp
  exact Le.go [(40,40)] [] rfl rfl (by simp <;> exact wkB (by rw [Bool.eq_iff_iff]; simp)) (by simp)
 refine zad _ rfl (λ h4=>?_) λ h4=>?_
 .rw [decide_eq_true_eq] at h4
  rw [if_pos h4] at hring;refine zaa ⟨96,[(8,.pt 40 0 0),(9,.nilS),(10,.I c)],[(40,some zG)],400⟩ rfl ?_ ?_
  .simp [zat]
   exact LeH [(40,40)] []
  refine zai ?_;exact ⟨.inr rfl,herr c _ hring⟩
 rw [decide_eq_false_iff_not] at h4;rw [if_neg h4] at hring;obtain ⟨hg,hp⟩:=hcz.1 (Decidable.byContradiction h4);have hsz:=hg.1.1;have hsz2:=hg.1.2.1;have hel:=hg.edges_le;have hw1 : IntKind.i64.wrap (g.size - 1)=g.size - 1:=w6;have hcon:=zdj g.gone x (by omega)
 refine zaa ⟨96,[(3,.I n),(4,.pv (gC g)),(5,.pv (pC p)),(6,.pv [.I x]),(8,.pt 40 0 0),(25,.B (decide (¬ (0<=x/\x<=g.size - 1)∨x∈g.gone)))],[(40,some zG)],600⟩ rfl ?_ ?_
 .simp [hw1]
  refine zap (zcl x 0 (g.size - 1)) (by simp) ?_
  by_cases hin : 0<=x/\x<=g.size - 1
  .simp [hin]
   refine zap hcon (by simp) ?_
   simp;exact Le.go [(40,40)] [] rfl rfl (by simp <;> exact wkB (by simp [hin]; intro h; omega)) (by simp)
  .have hin2 : (decide (0<=x) && decide (x<=g.size - 1))=false:=by
    rw [<- Bool.decide_and];exact decide_eq_false hin
   simp [hin2];exact Le.go [(40,40)] [] rfl rfl (by simp <;> exact wkB (by simp; exact .inl (by omega))) (by simp)
 refine zad _ rfl (λ h7=>?_) λ h7=>?_
 .rw [decide_eq_true_eq] at h7
  rw [if_pos h7] at hring;refine zaa ⟨96,[(8,.pt 40 0 0),(9,.nilS),(10,.I 4)],[(40,some zG)],700⟩ rfl ?_ ?_
  .simp [zat]
   exact LeH [(40,40)] []
  refine zai ?_;exact ⟨.inr rfl,herr 4 _ hring⟩
 rw [decide_eq_false_iff_not] at h7;rw [if_neg h7] at hring
 have hx : 0<=x/\x<g.size:=by
  have : ¬ ¬ (0<=x/\x<=g.size - 1):=λ h=>h7 (.inl h);omega
 have hxg : x∉g.gone:=λ h=>h7 (.inr h);refine zaa ⟨96,[(3,.I n),(4,.pv (gC g)),(5,.pv (pC p)),(6,.pv [.I x]),(8,.pt 40 0 0),(39,.B (decide (n<1)))],[(40,some zG)],800⟩ rfl ?_ ?_
 .simp
  exact LeH [(40,40)] []
 refine zad _ rfl (λ h10=>?_) λ h10=>?_
 .rw [decide_eq_true_eq] at h10
  rw [if_pos h10] at hring;refine zaa ⟨96,[(8,.pt 40 0 0),(9,.nilS),(10,.I 2)],[(40,some zG)],900⟩ rfl ?_ ?_
  .simp [zat]
   exact LeH [(40,40)] []
  refine zai ?_;exact ⟨.inr rfl,herr 2 _ hring⟩
 rw [decide_eq_false_iff_not] at h10;rw [if_neg h10] at hring;have hwh:=zkc zdT [.pv (gC g),.pv (pC p),.pv [.I x]] (zh7 g p x) g.size (by omega) (λ ρ sn h k=>by simp) λ k _=>ztv g p x k (by omega) (by omega) (by omega)
 have hL : za7 g.size.toNat (zh7 g p x)=zge g p x:=rfl;rw [hL] at hwh;obtain ⟨L,hLd⟩ : ∃ L,L=zge g p x:=⟨_,rfl⟩;rw [<- hLd] at hwh hring
 have hLlen : L.length<=64:=by
  have h1 : (za7 g.size.toNat (zh7 g p x)).length<=g.size.toNat:=by
   unfold za7;have:=List.length_filter_le (zh7 g p x) ((List.range g.size.toNat).map λ (i : Nat)=>(i : Int))
   simpa using this
  rw [hLd,<- hL];omega
 refine zae ?_;refine zaa ⟨96,[(3,.I n),(4,.pv (gC g)),(6,.pv [.I x]),(8,.pt 40 0 0),(12,ints L)],[(40,some zG)],1000⟩ rfl ?_ ?_
 .simp
  refine zbz hwh (by simp) ?_
  simp;exact Le.go [(40,40)] [824] rfl rfl (by simp [fcd,zac]) (by simp)
 refine zab ?_;refine zaa ⟨96,[(3,.I n),(4,.pv (gC g)),(6,.pv [.I x]),(8,.pt 40 0 0),(12,ints L),(50,.B (decide ((L.length : Int)<n)))],[(40,some zG)],1100⟩ rfl ?_ ?_
 .simp
  exact LeH [(40,40)] []
 refine zad _ rfl (λ h14=>?_) λ h14=>?_
 .rw [decide_eq_true_eq] at h14
  rw [if_pos h14] at hring;refine zaa ⟨96,[(8,.pt 40 0 0),(9,.nilS),(10,.I 3)],[(40,some zG)],1200⟩ rfl ?_ ?_
  .simp [zat]
   exact LeH [(40,40)] []
  refine zai ?_;exact ⟨.inr rfl,herr 3 _ hring⟩
 rw [decide_eq_false_iff_not] at h14;rw [if_neg h14] at hring;obtain ⟨N,rfl⟩ : ∃ N : Nat,n=N:=⟨n.toNat,by omega⟩
 rw [Int.toNat_natCast] at hring;obtain ⟨l,hld⟩ : ∃ l,l=L.take N:=⟨_,rfl⟩;rw [<- hld] at hring;have hll : l.length=N:=by rw [hld,List.length_take]; omega
 have hl64 : N<=64:=by omega
 have hfk : zk5 g p x l:=by rw [hld,hLd]; exact zhW _
 have hlz : zal g 0=g:=zur hg;have hlev:=zm2 g 0 hlz (by omega) (by omega)
 refine zae ?_;refine zaa ⟨96,[(3,.I N),(4,.pv (gC g)),(6,.pv [.I x]),(8,.pt 40 0 0),(12,ints l)],[(40,some zG)],1300⟩ rfl ?_ ?_
 .simp
  refine ⟨by omega,?_⟩
  exact Le.go [(40,40)] [] rfl rfl (by simp [hld]; exact List.map_take ▸ .refl _) (by simp)
 refine zaa ⟨96,[(3,.I N),(6,.pv [.I x]),(8,.pt 40 0 0),(12,ints l),(13,.pt 50 0 0)],[(40,some zG),(50,some (outG g.size g.gone 60 g.edges.length)),(60,some ⟨3,zaT g.edges,0⟩)],1400⟩ rfl ?_ ?_
 .simp
  refine zbz hlev (by simp) ?_
  simp [zat,fcd];exact Le.go [(40,40),(1316,50),(1308,60)] [] rfl rfl (by simp) (by simp [fcd,zat])
 refine zaa ⟨96,[(3,.I N),(6,.pv [.I x]),(8,.pt 40 0 0),(12,ints l),(13,.pt 50 0 0),(14,.fn (.func za3) [] [.pt 50 0 0])],[(40,some zG),(50,some (outG g.size g.gone 60 g.edges.length)),(60,some ⟨3,zaT g.edges,0⟩)],1500⟩ rfl ?_ ?_
 .simp
  exact LeI [(40,40),(50,50),(60,60)] []
 refine zab ?_;refine zaa ⟨96,[(3,.I N),(6,.pv [.I x]),(8,.pt 40 0 0),(12,ints l),(13,.pt 50 0 0),(14,.fn (.func za3) [] [.pt 50 0 0]),(58,ints l),(59,.I l.length),(60,.I 0)],[(40,some zG),(50,some (outG g.size g.gone 60 g.edges.length)),(60,some ⟨3,zaT g.edges,0⟩)],1600⟩ rfl ?_ ?_
 .simp
  exact LeI [(40,40),(50,50),(60,60)] []
 have hF0 : tieF g x l 0=g.edges:=by simp [tieF]
 refine zaf ?_;refine zas (ι:=Nat) (λ i=>⟨96,[(3,.I N),(6,.pv [.I x]),(8,.pt 40 0 0),(12,ints l),(13,.pt 50 0 0),(14,.fn (.func za3) [] [.pt 50 0 0]),(58,ints l),(59,.I l.length),(60,.I i)],[(40,some zG),(50,some (outG g.size g.gone 60 (tieF g x l i).length)),(60,some ⟨3,zaT (tieF g x l i),0⟩)],1700⟩) (λ i=>i<=l.length) (λ i=>l.length - i) 0 (Nat.zero_le _) (Le.go [(40,40),(50,50),(60,60)] [] rfl rfl (by simp [hF0]) (by simp [hF0,fcd])) ?_
 intro i hi;have hFl:=zo3 g x l i;refine zaa ⟨96,[(3,.I N),(6,.pv [.I x]),(8,.pt 40 0 0),(12,ints l),(13,.pt 50 0 0),(14,.fn (.func za3) [] [.pt 50 0 0]),(58,ints l),(59,.I l.length),(60,.I i),(61,.B (decide (i<l.length)))],[(40,some zG),(50,some (outG g.size g.gone 60 (tieF g x l i).length)),(60,some ⟨3,zaT (tieF g x l i),0⟩)],1800⟩ rfl ?_ ?_
 .simp
  exact LeI [(40,40),(50,50),(60,60)] []
 refine zab ?_;refine zad _ rfl (λ h21=>?_) λ h21=>?_
 .rw [decide_eq_true_eq] at h21
  have hFs:=zqo g x l i;obtain ⟨k,hk⟩ : ∃ k,k=l.getD i 0:=⟨_,rfl⟩;have hki : l[i]=k:=by rw [hk,List.getD_eq_getElem?_getD,List.getElem?_eq_getElem h21,Option.getD_some]
  have hw2 : IntKind.i64.wrap ((i : Int)+1)=(i : Int)+1:=w6;obtain ⟨F,hF⟩ : ∃ F,F=tieF g x l i:=⟨_,rfl⟩;rw [<- hF] at hFs hFl ⊢;have hti : tieI x l i=[⟨x,k,3⟩,⟨k,x,3⟩]++(if 1<l.length then [⟨k,l.getD ((i+1) % l.length) 0,3⟩] else []):=by rw [hk]; rfl
  rw [hti] at hFs;refine zae ?_;refine zaO (ι:=Unit) (λ _=>⟨96,[(3,.I N),(6,.pv [.I x]),(8,.pt 40 0 0),(12,ints l),(13,.pt 50 0 0),(14,.fn (.func za3) [] [.pt 50 0 0]),(58,ints l),(59,.I l.length),(60,.I i)],[(40,some zG),(50,some (outG g.size g.gone 60 (tieF g x l (i+1)).length)),(60,some ⟨3,zaT (tieF g x l (i+1)),0⟩)],4000⟩) (λ _=>True) ?_ λ _ _=>?_
  .refine zaf ?_
   refine zaa ⟨96,[(3,.I N),(6,.pv [.I x]),(8,.pt 40 0 0),(12,ints l),(13,.pt 50 0 0),(14,.fn (.func za3) [] [.pt 50 0 0]),(15,.I i),(16,.I k),(58,ints l),(59,.I l.length),(60,.I i)],[(40,some zG),(50,some (outG g.size g.gone 60 F.length)),(60,some ⟨3,zaT F,0⟩)],2000⟩ rfl ?_ ?_
   .simp [h21,hki]
    exact LeI [(40,40),(50,50),(60,60)] []
   refine zaa ⟨96,[(3,.I N),(6,.pv [.I x]),(8,.pt 40 0 0),(12,ints l),(13,.pt 50 0 0),(14,.fn (.func za3) [] [.pt 50 0 0]),(15,.I i),(16,.I k),(58,ints l),(59,.I l.length),(60,.I i)],[(40,some zG),(50,some (outG g.size g.gone 60 (F.length+1))),(60,some ⟨3,zaT (F++[⟨x,k,3⟩]),0⟩)],2200⟩ rfl ?_ ?_
   .simp
    refine zjX (i:=50) (j:=60) (by decide) rfl rfl (e1':=outG g.size g.gone 1 F.length) (e2':=⟨3,zaT F,0⟩) (by simp) (by simp [fcd]) (zuj g.size g.gone x k F _ rfl (by omega)) (by simp) (by simp) ?_
    simp [fcd];exact LeI [(40,40),(50,50),(2024,60)] []
   refine zaa ⟨96,[(3,.I N),(6,.pv [.I x]),(8,.pt 40 0 0),(12,ints l),(13,.pt 50 0 0),(14,.fn (.func za3) [] [.pt 50 0 0]),(15,.I i),(16,.I k),(58,ints l),(59,.I l.length),(60,.I i)],[(40,some zG),(50,some (outG g.size g.gone 60 (F.length+1+1))),(60,some ⟨3,zaT (F++[⟨x,k,3⟩]++[⟨k,x,3⟩]),0⟩)],2400⟩ rfl ?_ ?_
   .simp
    refine zjX (i:=50) (j:=60) (by decide) rfl rfl (e1':=outG g.size g.gone 1 (F.length+1)) (e2':=⟨3,zaT (F++[⟨x,k,3⟩]),0⟩) (by simp) (by simp [fcd]) (zuj g.size g.gone k x (F++[⟨x,k,3⟩]) _ (by simp) (by omega)) (by simp) (by simp) ?_
    simp [fcd];exact LeI [(40,40),(50,50),(2224,60)] []
   obtain ⟨F2,hF2⟩ : ∃ F2,F2=F++[⟨x,k,3⟩]++[⟨k,x,3⟩]:=⟨_,rfl⟩;have hF2l : F.length+1+1=F2.length:=by rw [hF2]; simp
   rw [<- hF2,hF2l];refine zaa ⟨96,[(3,.I N),(6,.pv [.I x]),(8,.pt 40 0 0),(12,ints l),(13,.pt 50 0 0),(14,.fn (.func za3) [] [.pt 50 0 0]),(15,.I i),(16,.I k),(58,ints l),(59,.I l.length),(60,.I i),(74,.B (decide ((1 : Int)<N)))],[(40,some zG),(50,some (outG g.size g.gone 60 F2.length)),(60,some ⟨3,zaT F2,0⟩)],2600⟩ rfl ?_ ?_
   .simp
    exact LeI [(40,40),(50,50),(60,60)] []
   refine zad _ rfl (λ h26=>?_) λ h26=>?_
   .rw [decide_eq_true_eq] at h26
    rw [if_pos (by omega),<- List.append_assoc,show F++[⟨x,k,3⟩,⟨k,x,3⟩]=F2 by rw [hF2]; simp] at hFs
    have hrem : ((i : Int)+1).tmod (N : Int)=(((i+1) % l.length : Nat) : Int):=by rw [hll]; exact (Int.ofNat_tmod (i+1) N).symm
    have hj : (i+1) % l.length<l.length:=Nat.mod_lt _ (by omega)
    obtain ⟨j,hjd⟩ : ∃ j,j=(i+1) % l.length:=⟨_,rfl⟩;rw [<- hjd] at hrem hj hFs;have hkj : l[j]=l.getD j 0:=by rw [List.getD_eq_getElem?_getD,List.getElem?_eq_getElem hj,Option.getD_some]
    obtain ⟨k2,hk2⟩ : ∃ k2,k2=l.getD j 0:=⟨_,rfl⟩;rw [<- hk2] at hkj hFs;have hN0 : ¬ N=0:=by omega
    refine zav rfl ?_;simp [hw2,hrem,hj,hkj];refine ⟨_,⟨hN0,rfl⟩,?_⟩;simp [hj,hkj];refine zjX (i:=50) (j:=60) (by decide) rfl rfl (e1':=outG g.size g.gone 1 F2.length) (e2':=⟨3,zaT F2,0⟩) (by simp) (by simp [fcd]) (zuj g.size g.gone k k2 F2 _ rfl (by omega)) (by simp) (by simp) ?_
    simp [fcd];exact Le.go [(40,40),(50,50),(2672,60)] [] rfl rfl (by simp [hFs]) (by simp [hFs,fcd])
   .rw [decide_eq_false_iff_not] at h26
    rw [if_neg (by omega),List.append_nil,show F++[⟨x,k,3⟩,⟨k,x,3⟩]=F2 by rw [hF2]; simp] at hFs
    refine zae ?_;exact ⟨(),trivial,Le.go [(40,40),(50,50),(60,60)] [] rfl rfl (by simp [hFs]) (by simp [hFs,fcd])⟩
  refine zav rfl ?_;simp;exact ⟨i+1,by omega,by omega,Le.go [(40,40),(50,50),(60,60)] [] rfl rfl (by simp [hw2]) (by simp [fcd])⟩
 rw [decide_eq_false_iff_not] at h21;obtain rfl : i=l.length:=by omega
 have hFt : tieF g x l l.length=g.edges++tieL x l:=rfl;refine zaq ?_;refine hit ?_;refine zab ?_;obtain ⟨A,hA⟩ : ∃ A,A=g.edges++tieL x l:=⟨_,rfl⟩;rw [hFt,<- hA];have hAl : g.edges.length+(tieL x l).length=A.length:=by rw [hA,List.length_append]
 have hAle : A.length<=1000000:=by rw [hA,<- hFt]; have:=zo3 g x l l.length; omega
 rw [hAl] at hring;refine zaa ⟨96,[(8,.pt 40 0 0),(12,ints l),(13,.pt 50 0 0),(89,.B (decide ((500 : Int)<A.length)))],[(40,some zG),(50,some (outG g.size g.gone 60 A.length)),(60,some ⟨3,zaT A,0⟩)],5000⟩ rfl ?_ ?_
 .simp
  exact LeI [(40,40),(50,50),(60,60)] []
 refine zad _ rfl (λ h28=>?_) λ h28=>?_
 .rw [decide_eq_true_eq] at h28
  rw [if_pos (by omega)] at hring
  refine zaa ⟨96,[(8,.pt 40 0 0),(9,.nilS),(10,.I 3)],[(40,some zG)],5100⟩ rfl ?_ ?_
  .simp [zat]
   exact LeH [(40,40)] []
  refine zai ?_;exact ⟨.inr rfl,herr 3 _ hring⟩
 rw [decide_eq_false_iff_not] at h28;rw [if_neg (by omega)] at hring
 have hAp : A.Pairwise zkS:=by
  rw [hA,List.pairwise_append];refine ⟨hg.pair.imp λ {a b} h=>?_,zmv hfk.nodup λ h=>hfk.ne x h rfl,λ a ha b hb=>?_⟩
  .unfold Bef at h; unfold zkS; omega
  .have h1:=(zof hb).2
   rintro ⟨e1,e2⟩
   rcases h1 with ⟨_,h⟩ | ⟨_,h⟩ | ⟨h,_⟩
   .exact (hfk.edge _ h a ha).2 e2
   .exact (hfk.edge _ h a ha).1 e1
   .exact (hfk.edge _ h a ha).1 e1
 have hA0 : A≠[]:=by
  have h1 : 0<l.length:=by omega
  have h2:=zv5 (x:=x) (l:=l) (List.getElem_mem h1);intro h;rw [hA,List.append_eq_nil_iff] at h;rw [h.2] at h2;exact List.not_mem_nil h2
 have hsort:=ztr A hA0 (by omega) hAp
 have hrg : zce g x l=⟨g.size,zkK A,g.gone⟩:=by rw [hA]; rfl
 have hsl : (zkK A).length=A.length:=(zfJ A).length_eq;obtain ⟨Z,hZ⟩ : ∃ Z,Z=zkK A:=⟨_,rfl⟩;rw [<- hZ] at hsort hrg hsl;have htz : ∀ f : Ed->List AV,List.take A.length (List.map f Z)=List.map f Z:=λ f=>List.take_of_length_le (by simp [hsl])
 refine zae ?_;refine zaa ⟨96,[(8,.pt 40 0 0),(12,ints l),(13,.pt 50 0 0)],[(40,some zG),(50,some (outG g.size g.gone 60 A.length)),(60,some ⟨3,zaT Z,0⟩)],6000⟩ rfl ?_ ?_
 .simp
  refine zcz (i:=60) rfl (by simp [fcd]) hsort (by simp) (by simp) ?_
  simp [fcd];exact LeI [(40,40),(50,50),(60,60)] []
 refine zaa ⟨96,[(8,.pt 40 0 0),(9,ints l),(10,.I 0)],[(40,some ⟨3,[[.I g.size,eEs Z,ints g.gone]],0⟩)],7000⟩ rfl ?_ ?_
 .simp [zat]
  exact Le.go [(40,40)] [60] rfl rfl (by simp) (by simp [fcd,zat,htz,hsl])
 refine zai ?_;rw [hring,hrg];exact ⟨.inr rfl,zao.out [] [40] rfl (by simp) (by simp) (wkT3 (by simp) (.refl _) (.refl _)) (by simp)⟩
theorem zyf {g : Gr} (hg : GrOk g) (p : Pol) : (ordL (zal g p.lv) p.seeds).length<=64:=by
 have hsz:=hg.1.1;have hsz2:=hg.1.2.1;have hr : ∀ x∈ordL (zal g p.lv) p.seeds,0<=x/\x<g.size:=λ x hx=>by have h:=zeV hx; exact h
 have:=zbm (b:=(List.range g.size.toNat).map λ i : Nat=>(i : Int)) (zcv (zal g p.lv) p.seeds) λ x hx=>by
  have:=hr x hx;exact List.mem_map.2 ⟨x.toNat,List.mem_range.2 (by omega),by omega⟩
 rw [List.length_map,List.length_range] at this;omega
variable {N : Nat} {A : List Ed} {f : List Int}
end Go.Proofs.YtkngdgplbojdlaaGreat
namespace Go.Proofs.YtkngdgplbojdlaaGreat
open Go
noncomputable abbrev accG (g : Gr) (p : Pol) : List Int:=accR g p (ordL (zal g p.lv) p.seeds)
theorem zlQ {g : Gr} (hg : GrOk g) (p : Pol) : (accG g p).length<=64:=Nat.le_trans (zoL _) (zyf hg p)
theorem zwS {g : Gr} (p : Pol) : ∀ x∈accG g p,0<=x/\x<g.size:=λ x hx=>by
 have h:=zeV (zfF hx);exact h
def inC (N : Nat) (l a : List Int) : Nat:=(za7 N λ k=>decide (k∈l) && decide (k∈a)).length
def outC (N : Nat) (l a : List Int) : Nat:=(za7 N λ k=>decide (k∈l) && !decide (k∈a)).length
noncomputable def zeY (g : Gr) (p : Pol) (x n : Int) : Int × Int × Int :=
 if (zbL g p x n).2.2≠0 then (0,0,(zbL g p x n).2.2)
 else ((inC g.size.toNat (zbL g p x n).2.1 (accG (zbL g p x n).1 p) : Int),(outC g.size.toNat (accG g p) (accG (zbL g p x n).1 p) : Int),0)
theorem zoi {g : Gr} {p : Pol} {x n : Int} (h : (zbL g p x n).2.2=0) :
  GrOk g/\zbu g.size p/\(0<=x/\x<g.size)/\x∉g.gone/\1<=n /\ ∃ l,l=(zge g p x).take n.toNat/\(l.length : Int)=n/\zk5 g p x l/\GrOk (zce g x l)/\zbL g p x n=(zce g x l,l,0):=by
 have hcz:=ziy (g:=g) (p:=p);unfold zbL at h ⊢
 by_cases h1 : chkE g p≠0
 .rw [if_pos h1] at h; exact absurd h h1
 rw [if_neg h1] at h ⊢
 by_cases h2 : ¬ (0<=x/\x<=g.size - 1)∨x∈g.gone
 .rw [if_pos h2] at h; cases h
 rw [if_neg h2] at h ⊢
 by_cases h3 : n<1
 .rw [if_pos h3] at h; cases h
 rw [if_neg h3] at h ⊢
 by_cases h4 : ((zge g p x).length : Int)<n
 .rw [if_pos h4] at h; cases h
 rw [if_neg h4] at h ⊢
 by_cases h5 : 500<g.edges.length+(tieL x ((zge g p x).take n.toNat)).length
 .rw [if_pos h5] at h; cases h
 rw [if_neg h5] at h ⊢;obtain ⟨hg,hp⟩:=hcz.1 (Decidable.byContradiction h1)
 have hx : 0<=x/\x<g.size:=by
  have : ¬ ¬ (0<=x/\x<=g.size - 1):=λ h=>h2 (.inl h);omega
 have hxg : x∉g.gone:=λ h=>h2 (.inr h);refine ⟨hg,hp,hx,hxg,by omega,_,rfl,?_,zhW _,zpC hg (zhW _) hx hxg (by omega),rfl⟩
 rw [List.length_take];omega
theorem zua (l acc f : List Int) (R : List (Int × List Int)) (k : Int) (hl : l.length<=1000000) (ha : acc.length<=1000000) : zaj Tryz.prog zdY [.I k,.pv [ints l],.pv [ints acc,ints f,.vs 2 false (zbo R)]] [] (.B (decide (k∈l) && decide (k∈acc))) []:=by
 refine zlD.ac ?_;show awp _ 0 _ _ ⟨13,[(0,.I k),(1,.pv [ints l]),(2,.pv [ints acc,ints f,.vs 2 false (zbo R)])],[],16⟩;refine rs [0,1,2] [] [] ?_;refine zaa ⟨13,[(4,.B (decide (k∈l) && decide (k∈acc)))],[],200⟩ rfl ?_ ?_
 .simp
  refine zap (zdj l k (by omega)) (by simp) ?_
  by_cases h : k∈l
  .simp [h]
   refine zap (zeZ acc f R k (by omega)) (by simp) ?_
   simp;exact LeH [] []
  .simp [h]
   exact LeH [] []
 refine zai ?_;exact ⟨.inr rfl,zao.one (by simp)⟩
theorem zts (a1 f1 a2 f2 : List Int) (R1 R2 : List (Int × List Int)) (k : Int) (h1 : a1.length<=1000000) (h2 : a2.length<=1000000) : zaj Tryz.prog zdW [.I k,.pv [ints a1,ints f1,.vs 2 false (zbo R1)],.pv [ints a2,ints f2,.vs 2 false (zbo R2)]] [] (.B (decide (k∈a1) && !decide (k∈a2))) []:=by
 refine zlK.ac ?_;show awp _ 0 _ _ ⟨14,[(0,.I k),(1,.pv [ints a1,ints f1,.vs 2 false (zbo R1)]),(2,.pv [ints a2,ints f2,.vs 2 false (zbo R2)])],[],16⟩;refine rs [0,1,2] [] [] ?_;refine zaa ⟨14,[(4,.B (decide (k∈a1) && !decide (k∈a2)))],[],200⟩ rfl ?_ ?_
 .simp
  refine zap (zeZ a1 f1 R1 k (by omega)) (by simp) ?_
  by_cases h : k∈a1
  .simp [h]
   refine zap (zeZ a2 f2 R2 k (by omega)) (by simp) ?_
   simp;exact LeH [] []
  .simp [h]
   exact LeH [] []
 refine zai ?_;exact ⟨.inr rfl,zao.one (by simp)⟩
theorem zrt {g : Gr} {p : Pol} (hg : GrOk g) (hp : zbu g.size p) : p.seeds.length<=64:=by
 have:=zbm (a:=p.seeds) (b:=(List.range 64).map Int.ofNat) hp.2.1.nodup.1 λ x hx=>by
  have h1:=hp.2.1.nodup.2 x hx;have h2:=hg.1.2.1;exact List.mem_map.2 ⟨x.toNat,List.mem_range.2 (by omega),by simp; omega⟩
 simpa using this
set_option maxRecDepth 100000 in
set_option maxHeartbeats 4000000 in
theorem ziB (g : Gr) (p : Pol) (x n : Int) (hl : g.edges.length<=1000000) (hl2 : g.gone.length<=1000000) (hs : p.seeds.length<=1000000) (ht : p.table.length<=1000000) (hN : GrOk g->g.size<20) :
  zaj Tryz.prog zfG [eG g,eP p,.I x,.I n] [] (.tup [.I (zeY g p x n).1,.I (zeY g p x n).2.1,.I (zeY g p x n).2.2]) []:=by
 refine zps.ac ?_;show awp _ 0 _ _ ⟨56,[(0,eG g),(1,eP p),(2,.I x),(3,.I n)],[],16⟩;have hring:=zew g p x n hl hl2 hs ht;have hright:=zoi (g:=g) (p:=p) (x:=x) (n:=n);generalize hres : zeY g p x n=res;unfold zeY at hres;replace hres:=hres.symm;generalize zbL g p x n=r at *;obtain ⟨h,l,e⟩:=r;simp only at *;refine zaa ⟨56,[(2,.I x),(3,.I n),(4,.pv (gC g)),(5,.pv (pC p))],[],100⟩ rfl ?_ ?_
 .simp
  exact LeH [] [16,24]
 refine zaa ⟨56,[(4,.pv (gC g)),(5,.pv (pC p)),(11,.pv (gC h)),(12,.pv [ints l]),(13,.I e)],[],300⟩ rfl ?_ ?_
 .simp
  refine zap hring (by simp) ?_
  simp [zat];exact LeH [] [172,180]
 refine zab ?_;refine zaa ⟨56,[(4,.pv (gC g)),(5,.pv (pC p)),(11,.pv (gC h)),(12,.pv [ints l]),(13,.I e),(30,.B (decide (e≠0)))],[],400⟩ rfl ?_ ?_
 .simp
  exact Le.go [] [] rfl rfl (by simp <;> exact wkB (by rw [Bool.eq_iff_iff]; simp)) (by simp)
 refine zad _ rfl (λ h4=>?_) λ h4=>?_
 .rw [decide_eq_true_eq] at h4
  rw [if_pos h4] at hres;refine zaa ⟨56,[(8,.I 0),(9,.I 0),(10,.I e)],[],500⟩ rfl ?_ ?_
  .simp
   exact LeH [] []
  refine zai ?_;rw [hres];exact ⟨.inr rfl,zao.out [] [] rfl (by simp) (by simp) (wkT3 (.refl _) (.refl _) (.refl _)) (by simp)⟩
 rw [decide_eq_false_iff_not] at h4;rw [if_neg h4] at hres;obtain ⟨hg,hp,hx,hxg,hn1,l',hl',hll,hfk,hro,hrr⟩:=hright (Decidable.byContradiction h4);injection hrr with e1 e2;injection e2 with e2 e3;subst e2 e3;have hp1 : zbu h.size p:=by rw [e1]; exact hp
 rw [<- e1] at hro;have hsz : h.size=g.size:=by rw [e1]; rfl
 have hlen : l.length<=64:=by
  have:=zbm (a:=l) (b:=(List.range 64).map Int.ofNat) hfk.nodup λ x hx=>by
   have h1:=hfk.rng x hx;have h2:=hg.1.2.1;exact List.mem_map.2 ⟨x.toNat,List.mem_range.2 (by omega),by simp; omega⟩
  simpa using this
 have hs64:=zrt hg hp;obtain ⟨f1,hf1,hrun1⟩:=zim g p hg hp hs64 (hN hg);obtain ⟨f2,hf2,hrun2⟩:=zim h p hro hp1 hs64 (by rw [hsz]; exact hN hg)
 have ha1:=zlQ hg p;have ha2:=zlQ hro p;simp only [accG] at ha1 ha2 hres;obtain ⟨a1,hA1⟩ : ∃ a,a=accR g p (ordL (zal g p.lv) p.seeds):=⟨_,rfl⟩;obtain ⟨a2,hA2⟩ : ∃ a,a=accR h p (ordL (zal h p.lv) p.seeds):=⟨_,rfl⟩;obtain ⟨R1,hR1⟩ : ∃ R,R=refR g p (ordL (zal g p.lv) p.seeds):=⟨_,rfl⟩;obtain ⟨R2,hR2⟩ : ∃ R,R=refR h p (ordL (zal h p.lv) p.seeds):=⟨_,rfl⟩;rw [<- hA1,<- hR1] at hrun1;rw [<- hA2,<- hR2] at hrun2;rw [<- hA1] at ha1;rw [<- hA2] at ha2;rw [<- hA1,<- hA2] at hres;have hw1:=zkc zdY [.pv [ints l],.pv [ints a2,ints f2,.vs 2 false (zbo R2)]] (λ k=>decide (k∈l) && decide (k∈a2)) g.size (by have:=hg.1.2.1; omega) (λ ρ sn h k=>by simp) λ k _=>zua l a2 f2 R2 k (by omega) (by omega)
 have hw2:=zkc zdW [.pv [ints a1,ints f1,.vs 2 false (zbo R1)],.pv [ints a2,ints f2,.vs 2 false (zbo R2)]] (λ k=>decide (k∈a1) && !decide (k∈a2)) g.size (by have:=hg.1.2.1; omega) (λ ρ sn h k=>by simp) λ k _=>zts a1 f1 a2 f2 R1 R2 k (by omega) (by omega)
 unfold inC outC at hres;obtain ⟨W1,hW1⟩ : ∃ W,W=za7 g.size.toNat λ k=>decide (k∈l) && decide (k∈a2):=⟨_,rfl⟩;obtain ⟨W2,hW2⟩ : ∃ W,W=za7 g.size.toNat λ k=>decide (k∈a1) && !decide (k∈a2):=⟨_,rfl⟩;rw [<- hW1] at hw1 hres;rw [<- hW2] at hw2 hres;refine zae ?_;refine zaa ⟨56,[(4,.pv (gC g)),(5,.pv (pC p)),(11,.pv (gC h)),(12,.pv [ints l]),(14,.pv [ints a1,ints f1,.vs 2 false (zbo R1)])],[],600⟩ rfl ?_ ?_
 .simp
  refine zap hrun1 (by simp) ?_
  simp [zat];exact LeH [] [448]
 refine zaa ⟨56,[(4,.pv (gC g)),(12,.pv [ints l]),(14,.pv [ints a1,ints f1,.vs 2 false (zbo R1)]),(16,.pv [ints a2,ints f2,.vs 2 false (zbo R2)])],[],700⟩ rfl ?_ ?_
 .simp
  refine zap hrun2 (by simp) ?_
  simp [zat];exact LeH [] [648]
 refine zaa ⟨56,[(4,.pv (gC g)),(14,.pv [ints a1,ints f1,.vs 2 false (zbo R1)]),(16,.pv [ints a2,ints f2,.vs 2 false (zbo R2)]),(18,ints W1)],[],800⟩ rfl ?_ ?_
 .simp
  refine zbz hw1 (by simp) ?_
  simp;exact Le.go [] [724] rfl rfl (by simp [fcd,zac]) (by simp)
 refine zaa ⟨56,[(18,ints W1),(19,ints W2)],[],900⟩ rfl ?_ ?_
 .simp
  refine zbz hw2 (by simp) ?_
  simp;exact Le.go [] [824] rfl rfl (by simp [fcd,zac]) (by simp)
 refine zaa ⟨56,[(8,.I W1.length),(9,.I W2.length),(10,.I 0)],[],1000⟩ rfl ?_ ?_
 .simp
  exact LeH [] []
 refine zai ?_;rw [hres];exact ⟨.inr rfl,zao.out [] [] rfl (by simp) (by simp) (wkT3 (.refl _) (.refl _) (.refl _)) (by simp)⟩
def gS : Gr:=⟨12,[⟨0,1,1⟩],[]⟩
def pS : Pol:=⟨[0],[5,4],1⟩
theorem ztu : GrOk gS:=GrOk.of (by decide) (by decide) (by decide) (λ i h=>by simp at h) (by decide) (by decide)
theorem znw : zbu 12 pS:=by
 refine ⟨by decide +revert,λ i h=>?_,by decide +revert,by decide +revert,by decide +revert,by decide +revert,λ i h=>?_⟩
 .obtain rfl : i=0:=by simp [pS] at h; omega
  exact ⟨by decide +revert,by decide +revert,λ h=>by cases h⟩
 .have : i=0∨i=1:=by simp [pS] at h; omega
  rcases this with rfl | rfl
  .exact ⟨by decide +revert,by decide +revert,λ h=>by cases h⟩
  .exact ⟨by decide +revert,by decide +revert,λ h=>by decide +revert⟩
theorem zhk {g : Gr} {p : Pol} (hg : GrOk g) (hp : zbu g.size p) {ks f : List Int} (hr : ∀ x∈ks,0<=x/\x<g.size) (hf : zaJ (netN g) (netA g p ks) f) (hv : valF (netA g p ks) f=ks.length) : zau g p ks:=by
 have h1:=zjF (p:=p) hg hp hr;have h2:=zvs (zmH hg hp hr) (f:=f) hf;rw [hv] at h2;unfold zau;omega
theorem ordS : ordL (zal gS pS.lv) pS.seeds=[0,1]:=by decide
theorem accS : accR gS pS [0,1]=[0,1]/\refR gS pS [0,1]=[]:=by
 have c0 : zau gS pS [0]:=zhk (f:=[1,0,0,1,0]) ztu znw (by decide) (zrA (by decide)) (by decide)
 have c1 : zau gS pS [0,1]:=zhk (f:=[2,1,0,1,1,1]) ztu znw (by decide) (zrA (by decide)) (by decide)
 have h0 : accR gS pS [0]=[0]:=zc3 (o:=[]) (k:=0) c0;have r0 : refR gS pS [0]=[]:=ziL (o:=[]) (k:=0) c0;have h:=zc3 (g:=gS) (p:=pS) (o:=[0]) (k:=1) (by rw [h0]; exact c1)
 have h':=ziL (g:=gS) (p:=pS) (o:=[0]) (k:=1) (by rw [h0]; exact c1)
 rw [h0] at h;rw [r0] at h';exact ⟨h,h'⟩
def hS : Gr:=⟨12,[⟨0,1,1⟩,⟨1,2,3⟩,⟨1,3,3⟩,⟨1,4,3⟩,⟨1,5,3⟩,⟨1,6,3⟩,⟨1,7,3⟩,⟨1,8,3⟩,⟨1,9,3⟩,⟨1,10,3⟩,⟨1,11,3⟩,⟨2,1,3⟩,⟨2,3,3⟩,⟨3,1,3⟩,⟨3,4,3⟩,⟨4,1,3⟩,⟨4,5,3⟩,⟨5,1,3⟩,⟨5,6,3⟩,⟨6,1,3⟩,⟨6,7,3⟩,⟨7,1,3⟩,⟨7,8,3⟩,⟨8,1,3⟩,⟨8,9,3⟩,⟨9,1,3⟩,⟨9,10,3⟩,⟨10,1,3⟩,⟨10,11,3⟩,⟨11,1,3⟩,⟨11,2,3⟩],[]⟩
def lS : List Int:=[2,3,4,5,6,7,8,9,10,11]
theorem zye : zge gS pS 1=lS:=by decide
set_option maxRecDepth 100000 in
theorem zrM : GrOk hS:=GrOk.of (by decide) (by decide) (by decide) (λ i h=>by simp at h) (by decide +kernel) (by decide +kernel)
theorem fkS : zk5 gS pS 1 lS:=by
 have h:=zhW (g:=gS) (p:=pS) (x:=1) 10;rw [zye] at h;exact h
theorem zyq : zce gS 1 lS=hS:=by
 have hr : GrOk (zce gS 1 lS):=zpC ztu fkS (by decide) (by decide) (by decide)
 refine zxt hr zrM rfl rfl λ e=>?_;rw [zgv];have hp : (gS.edges++tieL 1 lS).Perm hS.edges:=by decide +kernel
 rw [<- List.mem_append,hp.mem_iff]
theorem chkS : chkE gS pS=0:=ziy.2 ⟨ztu,znw⟩
theorem zw2 : zbL gS pS 1 10=(hS,lS,0):=by
 unfold zbL;rw [if_neg (by rw [chkS]; decide),if_neg (by decide),if_neg (by decide),zye,if_neg (by decide)]
 have h : List.take (10 : Int).toNat lS=lS:=by decide
 rw [h,if_neg (by decide),zyq]
theorem zvW : ∃ h : Gr,zbL gS pS 1 2=(h,[2,3],0)/\h.edges.length=7:=by
 refine ⟨zce gS 1 [2,3],?_,by rw [zov]; decide⟩
 unfold zbL;rw [if_neg (by rw [chkS]; decide),if_neg (by decide),if_neg (by decide),zye,if_neg (by decide)]
 have h : List.take (2 : Int).toNat lS=[2,3]:=by decide
 rw [h,if_neg (by decide)]
set_option maxRecDepth 100000 in
theorem ordH : ordL (zal hS pS.lv) pS.seeds=[0,1]++lS:=by decide +kernel
set_option maxRecDepth 100000 in
set_option maxHeartbeats 4000000 in
theorem accH : accR hS pS ([0,1]++lS)=[0,1,2,3,4]:=by
 have c0 : zau hS pS [0]:=zhk (f:=[1,0,0,0,0,0,0,0,0,0,0,0,0,1,0,0,0,0,0,0,0,0,0,0,0,0,0,0,0,0,0,0,0,0,0,0,0,0,0,0,0,0,0,0,0]) zrM znw (by decide) (zrA (by decide +kernel)) (by decide +kernel)
 have c1 : zau hS pS [0,1]:=zhk (f:=[2,1,0,0,0,0,0,0,0,0,0,0,0,1,1,1,0,0,0,0,0,0,0,0,0,0,0,0,0,0,0,0,0,0,0,0,0,0,0,0,0,0,0,0,0,0]) zrM znw (by decide) (zrA (by decide +kernel)) (by decide +kernel)
 have c2 : zau hS pS [0,1,2]:=zhk (f:=[3,2,1,0,0,0,0,0,0,0,0,0,0,1,1,1,2,1,0,0,0,0,0,0,0,0,0,0,0,0,0,0,0,0,0,0,0,0,0,0,0,0,0,0,0,0,0]) zrM znw (by decide) (zrA (by decide +kernel)) (by decide +kernel)
 have c3 : zau hS pS [0,1,2,3]:=zhk (f:=[4,3,2,0,0,0,0,0,0,0,0,0,0,1,1,1,1,3,1,1,0,0,0,0,0,0,0,0,0,0,0,0,0,0,0,0,0,0,0,0,0,0,0,0,0,0,0,0]) zrM znw (by decide) (zrA (by decide +kernel)) (by decide +kernel)
 have c4 : zau hS pS [0,1,2,3,4]:=zhk (f:=[5,4,3,0,0,0,0,0,0,0,0,0,0,1,1,1,1,1,4,1,1,1,0,0,0,0,0,0,0,0,0,0,0,0,0,0,0,0,0,0,0,0,0,0,0,0,0,0,0]) zrM znw (by decide) (zrA (by decide +kernel)) (by decide +kernel)
 have h0 : accR hS pS [0]=[0]:=zc3 (o:=[]) (k:=0) c0
 have h1 : accR hS pS [0,1]=[0,1]:=by
  have h:=zc3 (g:=hS) (p:=pS) (o:=[0]) (k:=1) (by rw [h0]; exact c1)
  rw [h0] at h;exact h
 have h2 : accR hS pS [0,1,2]=[0,1,2]:=by
  have h:=zc3 (g:=hS) (p:=pS) (o:=[0,1]) (k:=2) (by rw [h1]; exact c2)
  rw [h1] at h;exact h
 have h3 : accR hS pS [0,1,2,3]=[0,1,2,3]:=by
  have h:=zc3 (g:=hS) (p:=pS) (o:=[0,1,2]) (k:=3) (by rw [h2]; exact c3)
  rw [h2] at h;exact h
 have h4 : accR hS pS [0,1,2,3,4]=[0,1,2,3,4]:=by
  have h:=zc3 (g:=hS) (p:=pS) (o:=[0,1,2,3]) (k:=4) (by rw [h3]; exact c4)
  rw [h3] at h;exact h
 obtain ⟨t,ht,hm⟩:=zpH (g:=hS) (p:=pS) [5,6,7,8,9,10,11] [0,1,2,3,4];rw [h4] at ht;have hb:=zwx (g:=gS) (p:=pS) (x:=1) (l:=lS) ztu znw (by decide) ⟨by decide,by decide⟩ fkS (by rw [zyq]; exact zrM)
 have hc : max 0 ((zaQ gS pS).getD (1 : Int).toNat 0 - 1)=3:=by decide +kernel
 have e : [0,1]++lS=[0,1,2,3,4]++[5,6,7,8,9,10,11]:=rfl;unfold inN ordR at hb;rw [hc,zyq,ordH,e,ht,List.filter_append,List.length_append] at hb;have h5 : ([0,1,2,3,4].filter λ k=>decide (k∈lS)).length=3:=by decide
 have h6 : t.filter (λ k=>decide (k∈lS))=t:=List.filter_eq_self.2 λ k hk=>by
  have:=hm k hk;have h7 : ∀ k∈([5,6,7,8,9,10,11] : List Int),decide (k∈lS)=true:=by decide
  exact h7 k this
 rw [h5,h6] at hb;have : t=[]:=List.eq_nil_of_length_eq_zero (by omega)
 rw [e,ht,this,List.append_nil]
theorem zBc : zeY gS pS 1 10=(3,0,0):=by
 unfold zeY accG;rw [zw2];simp only;rw [if_neg (by decide),ordS,ordH,accS.1,accH]
 decide +kernel
section
variable {β : Type}
def fcN (n : Nat) (k : Nat->β) : β:=match n with | 0=>k 0 | p+1=>k (p+1)
def fcI (n : Int) (k : Int->β) : β:=match n with | .ofNat m=>fcN m λ m=>k (.ofNat m) | .negSucc m=>fcN m λ m=>k (.negSucc m)
def fcB (b : Bool) (k : Value->β) : β:=match b with | true=>k (.bool true) | false=>k (.bool false)
def fcV (v : Value) (k : Value->β) : β:=match v with
 | .int d n=>fcI n λ n=>k (.int d n)
 | .bool b=>fcB b k
 | v=>k v
noncomputable def fcL {α : Type} (f : α->(α->β)->β) (l : List α) : (List α->β)->β :=
 List.rec (motive:=λ _=>(List α->β)->β) (λ k=>k []) (λ x _ ih k=>f x λ x=>ih λ xs=>k (x::xs)) l
noncomputable def fcX (deep : Bool) (ih : AV->(AV->β)->β) (x : AV) (k : AV->β) : β:=match x with
 | .dead=>k .dead
 | .sc v=>fcV v λ v=>k (.sc v)
 | .agg cs=>fcL ih cs λ cs=>k (.agg cs)
 | .tup cs=>fcL ih cs λ cs=>k (.tup cs)
 | .vs s f rows=>match deep with | true=>fcN s λ s=>fcL (fcL ih) rows λ rows=>k (.vs s f rows) | false=>k (.vs s f rows)
 | .rs a b c=>fcN a λ a=>fcN b λ b=>fcN c λ c=>k (.rs a b c)
 | .rk a b c d=>fcN a λ a=>fcN b λ b=>fcN c λ c=>fcN d λ d=>k (.rk a b c d)
 | .pv cs=>match deep with | true=>fcL ih cs λ cs=>k (.pv cs) | false=>k (.pv cs)
 | .pt a b c=>fcN a λ a=>fcN b λ b=>fcN c λ c=>k (.pt a b c)
 | .mp a=>fcN a λ a=>k (.mp a)
 | .fn f a b=>fcL ih a λ a=>fcL ih b λ b=>k (.fn f a b)
 | .ifc t v=>ih v λ v=>k (.ifc t v)
noncomputable def fcA (deep : Bool) (n : Nat) : AV->(AV->β)->β :=
 Nat.rec (motive:=λ _=>AV->(AV->β)->β) (λ x k=>k x) (λ _ ih=>fcX deep ih) n
noncomputable def fcE (deep : Bool) (e : Ent) (k : Ent->β) : β:=match e with | ⟨s,rows,ro⟩=>fcN s λ s=>fcN ro λ ro=>fcL (fcL (fcA deep 5)) rows λ rows=>k ⟨s,rows,ro⟩
noncomputable def fcO (deep : Bool) (p : Nat × Option Ent) (k : Nat × Option Ent->β) : β:=match p with
 | (i,none)=>fcN i λ i=>k (i,none)
 | (i,some e)=>fcN i λ i=>fcE deep e λ e=>k (i,some e)
end
def modF (k : IntKind) : Nat:=match k with
 | .i8=>256 | .u8=>256 | .i16=>65536 | .u16=>65536 | .i32=>4294967296 | .u32=>4294967296 | .i64=>18446744073709551616 | .u64=>18446744073709551616
def ziY (k : IntKind) : Nat:=match k with
 | .i8=>128 | .u8=>128 | .i16=>32768 | .u16=>32768 | .i32=>2147483648 | .u32=>2147483648 | .i64=>9223372036854775808 | .u64=>9223372036854775808
def cutF (sg : Bool) (M H r : Nat) : Int:=cond (sg && Nat.ble H r) (Int.negSucc (M - r - 1)) (Int.ofNat r)
def zm5 (k : IntKind) (n : Int) : Int:=match n with
 | .ofNat m=>cond (Nat.blt m (ziY k)) (.ofNat m) (cutF k.signed (modF k) (ziY k) (m % modF k))
 | .negSucc m=>cutF k.signed (modF k) (ziY k) (modF k - 1 - m % modF k)
def natF (k : IntKind) (n : Int) : Nat:=match n with
 | .ofNat m=>m % modF k
 | .negSucc m=>modF k - 1 - m % modF k
def kN (k : IntKind) : Nat:=match k with | .i8=>0 | .u8=>1 | .i16=>2 | .u16=>3 | .i32=>4 | .u32=>5 | .i64=>6 | .u64=>7
def ltF (a b : Int) : Bool:=match a with
 | .ofNat m=>(match b with | .ofNat n=>Nat.blt m n | .negSucc _=>false)
 | .negSucc m=>(match b with | .ofNat _=>true | .negSucc n=>Nat.blt n m)
def eqF (a b : Int) : Bool:=match a with
 | .ofNat m=>(match b with | .ofNat n=>Nat.beq m n | .negSucc _=>false)
 | .negSucc m=>(match b with | .ofNat _=>false | .negSucc n=>Nat.beq n m)
def minF (m n : Nat) : Nat:=cond (Nat.ble m n) m n
def shlF (k : IntKind) (a b : Int) : Option Value:=match b with
 | .ofNat n=>some (.int k (zm5 k (a*Int.ofNat (Nat.pow 2 (minF n k.bits)))))
 | .negSucc _=>none
def shrF (k : IntKind) (a b : Int) : Option Value:=match b with
 | .ofNat n=>some (.int k (match a with | .ofNat m=>.ofNat (Nat.div m (Nat.pow 2 (minF n k.bits))) | .negSucc m=>(Int.negSucc m).fdiv (Int.ofNat (Nat.pow 2 (minF n k.bits)))))
 | .negSucc _=>none
def quoF (k : IntKind) (a b : Int) : Option Value:=match b with
 | .ofNat (n+1)=>some (.int k (zm5 k (match a with | .ofNat m=>.ofNat (Nat.div m (n+1)) | .negSucc m=>(Int.negSucc m).tdiv (.ofNat (n+1)))))
 | b=>binV .quo (.int k a) (.int k b)
def remF (k : IntKind) (a b : Int) : Option Value:=match b with
 | .ofNat (n+1)=>some (.int k (match a with | .ofNat m=>.ofNat (Nat.mod m (n+1)) | .negSucc m=>(Int.negSucc m).tmod (.ofNat (n+1))))
 | b=>binV .rem (.int k a) (.int k b)
def intF (op : BinOp) (k : IntKind) (a b : Int) : Option Value:=match op with
 | .shl=>shlF k a b
 | .shr=>shrF k a b
 | .add=>some (.int k (zm5 k (a+b)))
 | .sub=>some (.int k (zm5 k (a - b)))
 | .mul=>some (.int k (zm5 k (a*b)))
 | .quo=>quoF k a b
 | .rem=>remF k a b
 | .and=>some (.int k (zm5 k (Int.ofNat (Nat.land (natF k a) (natF k b)))))
 | .or=>some (.int k (zm5 k (Int.ofNat (Nat.lor (natF k a) (natF k b)))))
 | .xor=>some (.int k (zm5 k (Int.ofNat (Nat.xor (natF k a) (natF k b)))))
 | .eql=>some (.bool (eqF a b))
 | .neq=>some (.bool (!eqF a b))
 | .lss=>some (.bool (ltF a b))
 | .gtr=>some (.bool (ltF b a))
 | .leq=>some (.bool (!ltF b a))
 | .geq=>some (.bool (!ltF a b))
 | op=>binV op (.int k a) (.int k b)
def mixF (op : BinOp) (k k' : IntKind) (a b : Int) : Option Value:=match op with
 | .shl=>shlF k a b
 | .shr=>shrF k a b
 | op=>binV op (.int k a) (.int k' b)
def binF (op : BinOp) (x y : Value) : Option Value:=match x with
 | .int k a=>(match y with
   | .int k' b=>cond (Nat.beq (kN k) (kN k')) (intF op k a b) (mixF op k k' a b)
   | y=>binV op (.int k a) y)
 | x=>binV op x y
inductive TS where
 | lf
 | nd (v : AV) (l r : TS)
structure RS where
 sz : Nat
 t : TS
 h : List (Nat × Option Ent)
 n : Nat
noncomputable def nthA (t : TS) : Nat->AV :=
 TS.rec (motive:=λ _=>Nat->AV) (λ _=>.dead) (λ v _ _ l r i=>Nat.rec (motive:=λ _=>AV) v (λ j _=>Bool.rec (motive:=λ _=>AV) (r (Nat.div j 2)) (l (Nat.div j 2)) (Nat.beq (Nat.mod j 2) 0)) i) t
noncomputable def zuw (n : Nat) : TS:=Nat.rec (motive:=λ _=>TS) .lf (λ _ t=>.nd .dead t t) n
noncomputable def lkB {α : Type} (l : List (Nat × α)) (j : Nat) : Option α :=
 List.rec (motive:=λ _=>Option α) none (λ p _ ih=>Bool.rec (motive:=λ _=>Option α) ih (some p.2) (Nat.beq p.1 j)) l
def zAe {α : Type} : Option (Option α)->Option α | some x=>x | none=>none
noncomputable def hpB (h : List (Nat × Option Ent)) (id : Nat) : Option Ent:=zAe (lkB h id)
noncomputable def RS.get (s : RS) (i : Nat) : AV:=nthA s.t i
noncomputable def RS.hp (s : RS) (id : Nat) : Option Ent:=hpB s.h id
abbrev Rr:=Option (zdH × RS)
noncomputable def setA {γ : Type} (v : AV) (t : TS) : Nat->(TS->Option γ)->Option γ :=
 TS.rec (motive:=λ _=>Nat->(TS->Option γ)->Option γ) (λ _ _=>none)
  (λ x tl tr l r i k=>Nat.rec (motive:=λ _=>Option γ) (k (.nd v tl tr)) (λ j _=>Bool.rec (motive:=λ _=>Option γ) (r (Nat.div j 2) λ tr'=>k (.nd x tl tr')) (l (Nat.div j 2) λ tl'=>k (.nd x tl' tr)) (Nat.beq (Nat.mod j 2) 0)) i) t
noncomputable def argT {γ : Type} (xs : List AV) : Nat->TS->(TS->Option γ)->Option γ :=
 List.rec (motive:=λ _=>Nat->TS->(TS->Option γ)->Option γ) (λ _ t k=>k t) (λ x _ ih i t k=>setA x t i λ t'=>ih (i+1) t' k) xs
noncomputable def ersH (i : Nat) (l : List (Nat × Option Ent)) : (List (Nat × Option Ent)->Rr)->Rr :=
 List.rec (motive:=λ _=>(List (Nat × Option Ent)->Rr)->Rr) (λ k=>k []) (λ p _ ih k=>Bool.rec (motive:=λ _=>Rr) (ih λ l'=>k (p::l')) (ih k) (Nat.beq p.1 i)) l
def updK (p : Nat × Option Ent) (k : List (Nat × Option Ent)->Rr) (h : List (Nat × Option Ent)) : Rr:=match p with
 | (_,none)=>k h
 | (i,some e)=>k ((i,some e)::h)
noncomputable def updH (up h : List (Nat × Option Ent)) : (List (Nat × Option Ent)->Rr)->Rr :=
 List.rec (motive:=λ _=>(List (Nat × Option Ent)->Rr)->Rr) (λ k=>k h) (λ p _ ih k=>ih λ h=>ersH p.1 h (updK p k)) up
noncomputable def evXs (t : TS) (xs : List Opd) : List AV :=
 List.rec (motive:=λ _=>List AV) [] (λ x _ ih=>x.ev (nthA t)::ih) xs
def idsI : Nat->AV->List Nat
 | 0,_=>[]
 | n+1,x=>match x with
   | .rs a _ _=>[a]
   | .rk a _ _ _=>[a]
   | .pt a _ _=>[a]
   | .mp a=>[a]
   | .agg cs=>cs.flatMap (idsI n)
   | .tup cs=>cs.flatMap (idsI n)
   | .fn _ a b=>a.flatMap (idsI n)++b.flatMap (idsI n)
   | .ifc _ v=>idsI n v
   | _=>[]
def addI (l : List Nat) : List Nat->List Nat
 | []=>l
 | i::is=>if l.contains i then addI l is else addI (l++[i]) is
def idsE (h : Nat->Option Ent) (i : Nat) : List Nat:=match h i with | some e=>e.rows.flatMap (·.flatMap (idsI 4)) | none=>[]
def zyE (h : Nat->Option Ent) : Nat->List Nat->List Nat
 | 0,l=>l
 | n+1,l=>let l':=addI l (l.flatMap (idsE h)); if l'.length=l.length then l else zyE h n l'
def zli : Nat->AV->Bool
 | 0,_=>false
 | n+1,x=>match x with
   | .dead=>true
   | .sc _=>true
   | .agg xs=>xs.all (zli n)
   | .tup xs=>xs.all (zli n)
   | .rs _ _ _=>true
   | .pt _ _ _=>true
   | .mp _=>true
   | _=>false
def zxB : Option Ent->Bool
 | none=>true
 | some e=>e.rows.all (·.all (zli 4))
def zqE : List Nat->Bool
 | []=>true
 | i::is=>!is.contains i && zqE is
def zw6 : List (Option Ent)->Option (List Ent)
 | []=>some []
 | none::_=>none
 | some e::l=>match zw6 l with | some es=>some (e::es) | none=>none
abbrev Cf:=FuncId->List AV->List Ent->Option (AV × List (Option Ent))
abbrev Rs3:=Option (AV × List Nat × List (Nat × Option Ent))
def scB (x : AV) : Bool:=match x with | .sc _=>true | _=>false
noncomputable def zwN (xs : List AV) : Bool:=List.rec (motive:=λ _=>Bool) true (λ x _ ih=>Bool.rec (motive:=λ _=>Bool) false ih (scB x)) xs
def zz1 (ids : List Nat) (id : Nat) : List (Nat × Nat):=(ids++(List.range 8).map (id + ·)).zipIdx.map λ (a,b)=>(b,a)
def zs5 (ids sn : List Nat) (id : Nat) (h : Nat->Option Ent) (raise : Bool) (hs' : List (Option Ent)) : List (Nat × Option Ent) :=
 (hs'.zipIdx.map λ (e,k)=>((ids++(List.range 8).map (id + ·)).getD k 0,e.map (zay (zz1 ids id) [] (λ _=>none) 4)))++(if raise then sn.filterMap (λ i=>(h i).map λ e=>(i,some { e with ro:=e.rows.length })) else [])
def zr3 (ids sn : List Nat) (np nh : Nat) (raise : Bool) (hs' : List (Option Ent)) : Bool :=
 zqE ids && ((sn.all λ i=>!ids.contains i) && ((!raise || sn.all λ i=>Nat.ble np i) && Nat.ble hs'.length (nh+8)))
def zoY (ids sn : List Nat) (np id nh : Nat) (h : Nat->Option Ent) (res : AV) (hs' : List (Option Ent)) (raise : Bool) : Rs3 :=
 cond (zr3 ids sn np nh raise hs') (some (conv (zz1 ids id) [] (λ _=>none) 4 res,ids++sn,zs5 ids sn id h raise hs')) none
def zvz (ids sn : List Nat) (np id nh : Nat) (h : Nat->Option Ent) : Option (AV × List (Option Ent))->Rs3
 | none=>none
 | some (res,hs')=>zoY ids sn np id nh h res hs' (match sn with | []=>true | _=>!(zli 5 res && hs'.all zxB))
def zsy (id : Nat) : Option (AV × List (Option Ent))->Rs3
 | some (.sc v,[])=>some (.sc v,[],[])
 | some (res,hs')=>zoY [] [] 0 id 0 (λ _=>none) res hs' true
 | none=>none
noncomputable def zp5 (cf : Cf) (np id : Nat) (h : Nat->Option Ent) (f : FuncId) (xs : List AV) (deep : Bool) (ids sn : List Nat) : Rs3 :=
 fcL (fcA deep 6) (xs.map (conv ids.zipIdx sn h 4)) λ args =>
 match zw6 (ids.map λ i=>(h i).map (zay ids.zipIdx sn h 4)) with
 | none=>none
 | some hs0=>fcL (fcE deep) hs0 λ hs=>zvz ids sn np id hs.length h (cf f args hs)
noncomputable def zsS (sp : List FuncId) (cf : Cf) (np id : Nat) (h : Nat->Option Ent) (f : FuncId) (xs : List AV) : Rs3 :=
 match zwN xs with
 | true=>zsy id (cf f xs [])
 | false =>
   fcL fcN (addI [] (xs.flatMap (idsI 4))) λ top =>
   fcL fcN (zyE h 4 top) λ all =>
   match sp.contains f with
   | true=>zp5 cf np id h f xs true [] all
   | false=>match Nat.ble all.length 16 with
     | true=>zp5 cf np id h f xs false all []
     | false=>fcL fcN (all.filter λ i=>!top.contains i) λ sn=>zp5 cf np id h f xs true top sn
def zri : Bool->Bool->Nat->List AV->Option (Nat × Nat)
 | false,false,n,[]=>some (0,n)
 | true,false,n,[.sc (.int .i64 l)]=>if 0<=l then some (l.toNat,n) else none
 | false,true,_,[.sc (.int .i64 r)]=>if 0<=r then some (0,r.toNat) else none
 | true,true,_,[.sc (.int .i64 l),.sc (.int .i64 r)]=>if 0<=l/\0<=r then some (l.toNat,r.toNat) else none
 | _,_,_,_=>none
def zAw (h : Nat->Option Ent) (s l r : Nat) (hi : Bool) : AV->Rs3
 | .vs s' f rows=>if s'=s then some (.vs s (f && !hi) ((rows.drop l).take (r - l)),[],[]) else none
 | .rs i off _=>match h i with | some e=>if e.s=s then some (.rs i (off+l) (r - l),[i],[]) else none | none=>none
 | .sc (.slice none 0 0)=>some (.nilS,[],[])
 | _=>none
def e_mv : List AV->Rs3
 | [x]=>some (x,[],[])
 | _=>none
def zxF : List AV->Rs3
 | [.sc (.bool t),a,b]=>some (if t then a else b,[],[])
 | _=>none
def zvt (id : Nat) (z : List Value) : List AV->Rs3
 | []=>some (.pt id 0 0,[],[(id,some { s:=z.length,rows:=[z.map .sc] })])
 | _=>none
def zzS (id : Nat) (s : Nat) : List AV->Rs3
 | [x]=>match cellsOf x with
   | some cs=>if cs.length=s then some (.pt id 0 0,[],[(id,some { s:=s,rows:=[cs] })]) else none
   | none=>none
 | _=>none
def zvJ (z : List Value) (ps : List (Nat × Nat)) : List AV->Rs3
 | xs=>match zoV (z.map .sc) ps xs with | some cs=>some (.agg cs,[],[]) | none=>none
def zAd (id : Nat) (s : Nat) (len : Nat) (z : List Value) (ps : List Nat) : List AV->Rs3
 | xs=>match zhf s (List.replicate len (z.map .sc)) ps xs with
   | some rows=>if z.length=s then some (.rs id 0 len,[],[(id,some { s:=s,rows:=rows })]) else none
   | none=>none
def e_ld (h : Nat->Option Ent) (ag : Bool) (s : Nat) : List AV->Rs3
 | [x]=>match zd2 h x with
   | some cs=>if s<=cs.length then some (if ag then .agg (cs.take s) else cs.headD .dead,zb1 x,[]) else none
   | none=>none
 | _=>none
def e_st (h : Nat->Option Ent) (s : Nat) : List AV->Rs3
 | [.pt i k j,x]=>match h i with
   | some e=>match e.rows[k]?,cellsOf x with
     | some row,some cs=>if e.ro<=k/\cs.length=s/\j+s<=row.length then some (.dead,[i],[(i,some { e with rows:=e.rows.set k (zat row j cs) })]) else none
     | _,_=>none
   | none=>none
 | _=>none
def zy5 : List AV->Rs3
 | [.pt a b c]=>some (.pt a b c,[],[])
 | [.pv cs]=>some (.pv cs,[],[])
 | [.ifc t v]=>some (.ifc t v,[],[])
 | _=>none
def zzV (op : BinOp) : List AV->Rs3
 | [.sc a,.sc b]=>match binF op a b with | some v=>some (.sc v,[],[]) | none=>none
 | _=>none
def zzu (neg : Bool) : List AV->Rs3
 | [.sc (.bool a),.sc (.bool b)]=>some (.sc (.bool ((a == b) != neg)),[],[])
 | _=>none
def zzB (neg : Bool) (ks : List Nat) : List AV->Rs3
 | [.agg xs,.agg ys]=>match eqs ks xs ys with | some b=>some (.sc (.bool (b != neg)),[],[]) | none=>none
 | _=>none
def zxH (neg : Bool) : List AV->Rs3
 | [.vs _ _ (_::_)]=>some (.sc (.bool neg),[],[])
 | [.sc (.slice a _ _)]=>some (.sc (.bool (a.isNone != neg)),[],[])
 | _=>none
def e_un (op : UnOp) : List AV->Rs3
 | [.sc a]=>match unV op a with | some v=>some (.sc v,[],[]) | none=>none
 | _=>none
def zy4 (k : IntKind) : List AV->Rs3
 | [.sc (.int _ n)]=>some (.sc (.int k (zm5 k n)),[],[])
 | _=>none
def zy3 (h : Nat->Option Ent) : List AV->Rs3
 | [x]=>match zbG 1 h x with
   | some rows=>match zd9 rows with | some bs=>some (.sc (.string ⟨bs.toArray⟩),zb1 x,[]) | none=>none
   | none=>none
 | _=>none
def zzv (f : FuncId) : List AV->Rs3
 | xs=>some (.fn (.func f) [] xs,[],[])
def zAs (f : FuncId) : List AV->Rs3
 | xs=>some (.fn (.func f) xs [],[],[])
def zzO (id : Nat) (s : Nat) (bytes : Nat) (z : List Value) : List AV->Rs3
 | [.sc (.int _ l),.sc (.int _ c)]=>if 0<=l/\l<=c/\c*bytes<=140737488355328/\c<=140737488355328/\z.length=s then some (.rs id 0 l.toNat,[],[(id,some { s:=s,rows:=List.replicate l.toNat (z.map .sc) })]) else none
 | _=>none
def zz3 (h : Nat->Option Ent) (s : Nat) (lo : Bool) (hi : Bool) : List AV->Rs3
 | x::bs=>match lenOf x with
   | none=>none
   | some n=>match zri lo hi n bs with
     | none=>none
     | some (l,r)=>if l<=r/\r<=n then zAw h s l r hi x else none
 | _=>none
def zAx (off : Nat) : List AV->Rs3
 | [.pv cs]=>if off<=cs.length then some (.pv (cs.drop off),[],[]) else none
 | [.pt i k j]=>some (.pt i k (j+off),[],[])
 | _=>none
def zzC (ag : Bool) (off : Nat) (s : Nat) : List AV->Rs3
 | [.agg cs]=>if off+s<=cs.length then some (if ag then .agg ((cs.drop off).take s) else cs.getD off .dead,[],[]) else none
 | _=>none
def zzU (h : Nat->Option Ent) (s : Nat) : List AV->Rs3
 | [.vs s' _ rows,.sc (.int _ n)]=>if s'=s/\0<=n then match rows[n.toNat]? with | some row=>some (.pv row,[],[]) | none=>none else none
 | [.rs i off len,.sc (.int _ n)]=>match h i with | some e=>if 0<=n/\n<len/\e.s=s then some (.pt i (off+n.toNat) 0,[i],[]) else none | none=>none
 | _=>none
def zy1 (l : Nat) (s : Nat) : List AV->Rs3
 | [.pt i k j,.sc (.int _ n)]=>if 0<=n/\n<l then some (.pt i k (j+n.toNat*s),[],[]) else none
 | [.pv cs,.sc (.int _ n)]=>if 0<=n/\n<l/\l*s<=cs.length then some (.pv (cs.drop (n.toNat*s)),[],[]) else none
 | _=>none
def zzh : List AV->Rs3
 | [.sc (.string b),.sc (.int _ n)]=>if 0<=n then match b.data.toList[n.toNat]? with | some c=>some (.sc (.int .u8 c.toNat),[],[]) | none=>none else none
 | _=>none
def zAt (i : Nat) : List AV->Rs3
 | [.tup vs]=>match vs[i]? with | some v=>some (v,[],[]) | none=>none
 | _=>none
noncomputable def zxn (sp : List FuncId) (cf : Cf) (np id : Nat) (h : Nat->Option Ent) : List AV->Rs3
 | .fn (.func f) first capt::args=>zsS sp cf np id h f (first++args++capt)
 | _=>none
noncomputable def zzT (sp : List FuncId) (cf : Cf) (np id : Nat) (h : Nat->Option Ent) (tbl : List (TypeId × FuncId)) : List AV->Rs3
 | .ifc t x::args=>match lkp tbl t with | some f=>zsS sp cf np id h f (x::args) | none=>none
 | _=>none
def zy6 (id : Nat) (h : Nat->Option Ent) (s : Nat) (bytes : Nat) : List AV->Rs3
 | [x,y]=>match x with
   | .rk _ _ _ _=>none
   | x=>match zbG s h y with
     | some new=>match zcj s h new x with
       | some old=>if (old.1.length+new.length)*bytes<=140737488355328/\old.1.length+new.length<=140737488355328 then some (.rs id 0 (old.1.length+new.length),zb1 x++zb1 y,(id,some { s:=s,rows:=old.1++new,ro:=old.2.1 })::old.2.2) else none
       | none=>none
     | none=>none
 | _=>none
def zxu (id : Nat) (h : Nat->Option Ent) : List AV->Rs3
 | [x,.sc (.string b)]=>match zcj 1 h (zeD b) x with
   | some old=>if old.1.length+b.size<=140737488355328 then some (.rs id 0 (old.1.length+b.size),zb1 x,(id,some { s:=1,rows:=old.1++zeD b,ro:=old.2.1 })::old.2.2) else none
   | none=>none
 | _=>none
def zz4 (id : Nat) (s : Nat) (bytes : Nat) (z : List Value) : List AV->Rs3
 | [.sc (.slice none 0 0),.sc (.int _ n)]=>if z.length=s/\0<n/\n.toNat*bytes<=140737488355328/\n.toNat<=140737488355328 then some (.rs id 0 n.toNat,[],[(id,some { s:=s,rows:=List.replicate n.toNat (z.map .sc) })]) else none
 | _=>none
def zzg : List AV->Rs3
 | [x]=>match lenOf x with | some n=>some (AV.I n,[],[]) | none=>none
 | _=>none
def zxm : List AV->Rs3
 | [.sc (.string b)]=>some (AV.I b.size,[],[])
 | _=>none
def zzG : List AV->Rs3
 | [.rk _ _ _ c]=>some (AV.I c,[],[])
 | [.sc (.slice none 0 0)]=>some (AV.I 0,[],[])
 | _=>none
def zAm (h : Nat->Option Ent) (s : Nat) : List AV->Rs3
 | [.rs i off len,y]=>match h i,zbG s h y with
   | some e,some new=>if e.s=s/\e.ro<=off/\off+len<=e.rows.length then some (AV.I (min new.length len : Nat),i::zb1 y,[(i,some { e with rows:=e.rows.take off++new.take (min new.length len)++e.rows.drop (off+min new.length len) })]) else none
   | _,_=>none
 | _=>none
def zz9 (h : Nat->Option Ent) (s : Nat) (z : List Value) : List AV->Rs3
 | [.rs i off len]=>match h i with
   | some e=>if e.s=s/\z.length=s/\e.ro<=off/\off+len<=e.rows.length then some (.dead,[i],[(i,some { e with rows:=e.rows.take off++List.replicate len (z.map .sc)++e.rows.drop (off+len) })]) else none
   | none=>none
 | _=>none
def zAb : List AV->Rs3
 | [.sc (.int k a),.sc (.int _ b)]=>some (.sc (.int k (if a<b then b else a)),[],[])
 | _=>none
def zz6 : List AV->Rs3
 | [.sc (.int k a),.sc (.int _ b)]=>some (.sc (.int k (if b<a then b else a)),[],[])
 | _=>none
def zzZ (t : TypeId) : List AV->Rs3
 | [x]=>some (.ifc t x,[],[])
 | _=>none
def zzo (id : Nat) : List AV->Rs3
 | []=>some (.mp id,[],[(id,some { s:=0,rows:=[] })])
 | _=>none
def zz2 (h : Nat->Option Ent) (z : Value) (ok : Bool) : List AV->Rs3
 | [.mp i,.sc (.int .i64 n)]=>match h i with
   | some e=>if e.s=0 then some (if ok then .tup [(zfh n e.rows).getD (toAV z),.sc (.bool (zfh n e.rows).isSome)] else (zfh n e.rows).getD (toAV z),[i],[]) else none
   | none=>none
 | _=>none
def zzX (h : Nat->Option Ent) : List AV->Rs3
 | [.mp i,.sc (.int .i64 n),x]=>match h i with
   | some e=>if e.s=0 then some (.dead,[i],[(i,some { e with rows:=mset n x e.rows })]) else none
   | none=>none
 | _=>none
def zzY (h : Nat->Option Ent) : List AV->Rs3
 | [.mp i,.sc (.int .i64 n)]=>match h i with
   | some e=>if e.s=0 then some (.tup [],[i],[(i,some { e with rows:=mdel n e.rows,ro:=0 })]) else none
   | none=>none
 | _=>none
def zzI (l : Nat) : List AV->Rs3
 | [.agg cs,.sc (.int _ n)]=>if 0<=n/\n<l/\l<=cs.length then some (cs.getD n.toNat .dead,[],[]) else none
 | _=>none
noncomputable def aEv (sp : List FuncId) (cf : Cf) (np id : Nat) (h : Nat->Option Ent) (op : AOp) (xs : List AV) : Rs3:=match op with
 | .mv=>e_mv xs
 | .pick=>zxF xs
 | .alloc z'=>zvt id z' xs
 | .box s'=>zzS id s' xs
 | .build z' ps'=>zvJ z' ps' xs
 | .bsl s' len' z' ps'=>zAd id s' len' z' ps' xs
 | .ld ag' s'=>e_ld h ag' s' xs
 | .st s'=>e_st h s' xs
 | .nil=>zy5 xs
 | .bin op'=>zzV op' xs
 | .beq neg'=>zzu neg' xs
 | .aeq neg' ks'=>zzB neg' ks' xs
 | .snil neg'=>zxH neg' xs
 | .un op'=>e_un op' xs
 | .cvt k'=>zy4 k' xs
 | .b2s=>zy3 h xs
 | .mkf f'=>zzv f' xs
 | .mkb f'=>zAs f' xs
 | .mks s' bytes' z'=>zzO id s' bytes' z' xs
 | .slc s' lo' hi' mx'=>match mx' with | false=>zz3 h s' lo' hi' xs | true=>none
 | .fad off'=>zAx off' xs
 | .fld ag' off' s'=>zzC ag' off' s' xs
 | .iad s'=>zzU h s' xs
 | .iaa l' s'=>zy1 l' s' xs
 | .ixs=>zzh xs
 | .ixv l'=>zzI l' xs
 | .ext i'=>zAt i' xs
 | .call=>zxn sp cf np id h xs
 | .inv tbl'=>zzT sp cf np id h tbl' xs
 | .app s' bytes'=>zy6 id h s' bytes' xs
 | .apps=>zxu id h xs
 | .apz s' bytes' z'=>zz4 id s' bytes' z' xs
 | .len=>zzg xs
 | .lens=>zxm xs
 | .cap=>zzG xs
 | .cpy s'=>zAm h s' xs
 | .clr s' z'=>zz9 h s' z' xs
 | .mx2=>zAb xs
 | .mn2=>zz6 xs
 | .mki t'=>zzZ t' xs
 | .mkm=>zzo id xs
 | .mlk z' ok'=>zz2 h z' ok' xs
 | .mup=>zzX h xs
 | .mdl=>zzY h xs
 | _=>none
def zyF (next : TS->List (Nat × Option Ent)->List (List Nat × List Nat)->Rr) (h : List (Nat × Option Ent)) (tr : List (List Nat × List Nat)) (t : TS) : Rr:=next t h tr
noncomputable def zxI (sz : Nat) (dst : Option Nat) (next : TS->List (Nat × Option Ent)->List (List Nat × List Nat)->Rr) (t : TS) (tr : List (List Nat × List Nat)) (v : AV) (h : List (Nat × Option Ent)) : Rr :=
 match dst with
 | none=>next t h tr
 | some d=>match Nat.blt d sz with
   | true=>fcA false 6 v λ v=>setA v t d (zyF next h tr)
   | false=>none
noncomputable def zxq (sz : Nat) (dst : Option Nat) (next : TS->List (Nat × Option Ent)->List (List Nat × List Nat)->Rr) (t : TS) (h : List (Nat × Option Ent)) (tr : List (List Nat × List Nat)) (v : AV) (rd : List Nat) (up : List (Nat × Option Ent)) : Rr :=
 updH up h (zxI sz dst next t (tr++[(rd,up.map (·.1))]) v)
noncomputable def zAg (sz : Nat) (dst : Option Nat) (next : TS->List (Nat × Option Ent)->List (List Nat × List Nat)->Rr) (t : TS) (h : List (Nat × Option Ent)) (tr : List (List Nat × List Nat)) : Rs3->Rr
 | none=>none
 | some (v,rd,up)=>fcL (fcO false) up (zxq sz dst next t h tr v rd)
noncomputable def opGo (sp : List FuncId) (cf : Cf) (sz np id : Nat) (o : zb0) (next : TS->List (Nat × Option Ent)->List (List Nat × List Nat)->Rr) (t : TS) (h : List (Nat × Option Ent)) (tr : List (List Nat × List Nat)) : Rr :=
 zAg sz o.dst next t h tr (aEv sp cf np id (hpB h) o.op (evXs t o.xs))
def eqOB : Option Bool->Bool->Bool
 | some true,true=>true
 | some false,false=>true
 | _,_=>false
noncomputable def zxO (sz : Nat) (dst : Option Nat) (next : TS->List (Nat × Option Ent)->List (List Nat × List Nat)->Rr) (t : TS) (h : List (Nat × Option Ent)) (tr : List (List Nat × List Nat)) : Rr :=
 match dst with
 | none=>next t h (tr++[([],[])])
 | some d=>match Nat.blt d sz with
   | true=>setA (.tup []) t d (zyF next h (tr++[([],[])]))
   | false=>none
noncomputable def opGd (sp : List FuncId) (cf : Cf) (sz np id : Nat) (o : zb0) (next : TS->List (Nat × Option Ent)->List (List Nat × List Nat)->Rr) (t : TS) (h : List (Nat × Option Ent)) (tr : List (List Nat × List Nat)) (want : Bool) : Option (Option Bool)->Rr
 | none=>none
 | some b=>match eqOB b want with
   | true=>opGo sp cf sz np id o next t h tr
   | false=>zxO sz o.dst next t h tr
noncomputable def zv8 (sp : List FuncId) (cf : Cf) (sz np id : Nat) (o : zb0) (next : TS->List (Nat × Option Ent)->List (List Nat × List Nat)->Rr) (t : TS) (h : List (Nat × Option Ent)) (tr : List (List Nat × List Nat)) : Rr :=
 match o.guard with
 | none=>opGo sp cf sz np id o next t h tr
 | some (g,want)=>opGd sp cf sz np id o next t h tr want (gdV (nthA t g))
noncomputable def zpd (sp : List FuncId) (cf : Cf) (sz np : Nat) (ops : List zb0) : Nat->(Nat->TS->List (Nat × Option Ent)->List (List Nat × List Nat)->Rr)->TS->List (Nat × Option Ent)->List (List Nat × List Nat)->Rr :=
 List.rec (motive:=λ _=>Nat->(Nat->TS->List (Nat × Option Ent)->List (List Nat × List Nat)->Rr)->TS->List (Nat × Option Ent)->List (List Nat × List Nat)->Rr)
  (λ id k t h tr=>k id t h tr)
  (λ o _ ih id k t h tr=>fcN (id+8) λ id'=>zv8 sp cf sz np id o (ih id' k) t h tr) ops
noncomputable def zsY (body : RS->Rr) (n : Nat) : RS->Rr :=
 Nat.rec (motive:=λ _=>RS->Rr) (λ _=>none) (λ _ ih s=>match body s with
  | some (.normal,s')=>ih s'
  | r=>r) n
def zu3 (draw : Bool) (ops : List zb0) (after : List (List Nat)) (sz n : Nat) (t : TS) (h : List (Nat × Option Ent)) (tr : List (List Nat × List Nat)) : Rr :=
 match draw with
 | false=>some (.normal,⟨sz,t,h,n⟩)
 | true=>match zeL ops after tr with
   | true=>some (.normal,⟨sz,t,h,n⟩)
   | false=>none
def seqK (b : RS->Rr) : Rr->Rr
 | some (.normal,s)=>b s
 | r=>r
def zx7 (a b : RS->Rr) (s : RS) : AV->Rr
 | .sc (.bool true)=>a s
 | .sc (.bool false)=>b s
 | _=>none
def zvE (id : Nat) : Rr->Rr
 | some (.exit i,s)=>match Nat.beq i id with | true=>some (.normal,s) | false=>some (.exit i,s)
 | r=>r
noncomputable def regK (sp : List FuncId) (cf : Cf) (np : Nat) (draw : Bool) (ops : List zb0) (after : List (List Nat)) : RS->Rr
 | ⟨sz,t,h,n⟩=>zpd sp cf sz np ops n (zu3 draw ops after sz) t h []
noncomputable def zlx (sp : List FuncId) (cf : Cf) (np lf : Nat) (c : zfj) : RS->Rr :=
 zfj.rec (motive:=λ _=>RS->Rr)
  (λ s=>some (.normal,s))
  (λ draw ops after=>regK sp cf np draw ops after)
  (λ _ _ a b s=>seqK b (a s))
  (λ c _ _ a b s=>zx7 a b s (c.ev (nthA s.t)))
  (λ id _ a s=>zvE id (a s))
  (λ _ a s=>zsY a lf s)
  (λ id s=>some (.exit id,s))
  (λ s=>some (.ret,s))
  (λ _=>none) c
noncomputable def zrl (s : RS) (r : Nat × Option (Bool × Nat)) : Option AV :=
 match r with
 | (t,none)=>some (s.get t)
 | (t,some (ag,n))=>match zd2 s.hp (s.get t) with
   | some cs=>if n<=cs.length/\(ag=true∨n=1) then some (if ag then .agg (cs.take n) else cs.headD .dead) else none
   | none=>none
noncomputable def zmL (s : RS) : List (Nat × Option (Bool × Nat))->Option (List AV)
 | []=>some []
 | r::rs=>match zrl s r,zmL s rs with
   | some v,some vs=>some (v::vs)
   | _,_=>none
noncomputable def zsM (np : Nat) (s : RS) (vs : List AV) (small : Bool) (ex sn : List Nat) : Option (AV × List (Option Ent)) :=
 match zqE (List.range np++ex) && ((ex.all λ i=>Nat.ble np i) && sn.all λ i=>!ex.contains i && Nat.ble np i) with
 | true =>
   fcA (!small) 6 (conv (List.range np++ex).zipIdx sn s.hp 4 (resV vs)) λ r =>
   fcL (λ (o : Option Ent) k=>match o with | none=>k none | some e=>fcE (!small) e λ e=>k (some e)) ((List.range np++ex).map λ i=>(s.hp i).map (zay (List.range np++ex).zipIdx sn s.hp 4)) λ es=>some (r,es)
 | false=>none
noncomputable def zvV (rs : List (Nat × Option (Bool × Nat))) (np : Nat) (s : RS) : Option (AV × List (Option Ent)) :=
 match zmL s rs with
 | none=>none
 | some vs =>
   fcL fcN (addI [] (idsI 5 (resV vs))) λ top =>
   fcL fcN ((zyE s.hp 4 (addI (List.range np) top)).filter λ i=>Nat.ble np i) λ new =>
   match Nat.ble new.length 8 with
   | true=>zsM np s vs true new []
   | false =>
     fcL fcN (top.filter λ i=>Nat.ble np i) λ ex =>
     fcL fcN (new.filter λ i=>!ex.contains i) λ sn=>zsM np s vs false ex sn
noncomputable def zxw (rs : List (Nat × Option (Bool × Nat))) (np : Nat) : Rr->Option (AV × List (Option Ent))
 | some (.normal,s)=>zvV rs np s
 | some (.ret,s)=>zvV rs np s
 | _=>none
noncomputable def zwZ (sp : List FuncId) (cf : Cf) (lf : Nat) (af : AFun) (args : List AV) (hs : List Ent) : Option (AV × List (Option Ent)) :=
 match Nat.ble args.length af.nt && Nat.ble hs.length 16 with
 | true =>
   fcL (fcA false 6) args λ args =>
   argT args 0 (zuw 9) λ t =>
   fcL (fcO false) (hs.zipIdx.map λ (e,k)=>(k,some e)) λ h =>
   fcN hs.length λ np=>zxw af.res np (zlx sp cf np lf af.code ⟨af.nt,t,h,16⟩)
 | false=>none
noncomputable def evT (tbl : List (FuncId × AFun)) (k : AFun->Option (AV × List (Option Ent))) (f : FuncId) : Option (AV × List (Option Ent)) :=
 match lkB tbl f with
 | some af=>k af
 | none=>none
noncomputable def evX (x y : Option (AV × List (Option Ent))) : Option (AV × List (Option Ent)):=match x with
 | some r=>some r
 | none=>y
noncomputable def evN (sp : List FuncId) (ext : Cf) (tbl : List (FuncId × AFun)) (lf d : Nat) : Cf :=
 Nat.rec (motive:=λ _=>Cf) (λ _ _ _=>none) (λ _ ih f args hs=>evX (ext f args hs) (evT tbl (λ af=>zwZ sp ih lf af args hs) f)) d
end Go.Proofs.YtkngdgplbojdlaaGreat
