/- Texts of this claim,merged. -/
import Derived.Test.YtkngdgplbojdlaaGreatRv13
import Derived.Test.YtkngdgplbojdlaaGreatRv12
import Derived.Test.YtkngdgplbojdlaaGreatRv9
import Derived.Test.YtkngdgplbojdlaaGreatRv7
import Derived.Shelf.SlSortCmp.WholeK
import Derived.Test.YtkngdgplbojdlaaGreatProg
import Derived.LoopN
import Derived.BigQuiet
import Derived.Deep.RegionHeld3
import Derived.Deep.DrawnRows
import Derived.Test.YtkngdgplbojdlaaGreatRv5
import Derived.Test.YtkngdgplbojdlaaGreatRv6
set_option linter.unusedSimpArgs false
set_option linter.unusedVariables false
set_option linter.unusedSectionVars false
namespace Go.Proofs.YtkngdgplbojdlaaGreat
open Go
theorem zhA (l : List Int) (hl : l.length≤1099511627776) : zak Tryz.prog zcS [ints l] [] (.rs 0 0 l.length) [some ⟨1,zai (srt l),0⟩]:=by
 refine zoA.acalls (nbz rfl) (nbz rfl) (Nat.zero_le _) ?_
 show awp _ 0 _ _ ⟨6,[(0,ints l)],[],16⟩
 have hs : zak Tryz.prog zda [seqF l] [] (.rs 0 0 l.length) [some ⟨1,zai (srt l),0⟩]:=zsZ l hl
 refine rx (s:=?s1) [0] [] [] rfl ?o1 ?q1
 case o1=>simp; rfl
 refine zab ⟨6,[(2,.rs 50 0 l.length)],[(50,some ⟨1,zai (srt l),0⟩)],100⟩ rfl ?_ ?_
 ·simp
  refine zaq (ztu l) (by simp) ?_
  simp
  refine zcq hs (by simp [conv]) ?_
  simp
  exact LeI [(40,50)] []
 refine zag ?_
 exact ⟨.inr rfl,zan.out [50] [] rfl (by simp) (by simp) (by simp) (by simp [fcd])⟩
theorem zlZ (g : Gr) (p : Pol) (hg : GrOk g) (hN : g.size<20) (hs : p.seeds.length≤1099511627776) : zak Tryz.prog zgR [eG g,eP p] [] (.rs 0 0 (ordL (zaj g p.lv) p.seeds).length) [some ⟨1,zai (ordL (zaj g p.lv) p.seeds),0⟩]:=by
 refine znG.acalls (nbz rfl) (nbz rfl) (Nat.zero_le _) ?_
 show awp _ 0 _ _ ⟨12,[(0,eG g),(1,eP p)],[],16⟩
 have hel:=hg.edges_le
 have hgl:=hg.gone_le
 have hsz:=hg.1.2.1
 have hlev:=zgi g p.lv (by omega) (by omega)
 have hord:=zjY (g:=zaj g p.lv) (S:=p.seeds) (hg.level p.lv) hN hs
 obtain ⟨o,ho⟩ : ∃ o,o=ordL (zaj g p.lv) p.seeds:=⟨_,rfl⟩
 rw [← ho] at hord ⊢
 refine rx (s:=?s1) [2,3] [] [16,24] rfl ?o1 ?q1
 case o1=>simp; rfl
 refine zba ⟨12,[(4,.rs 50 0 o.length)],[(50,some ⟨1,zai o,0⟩)],200⟩ rfl ?_ ?_
 ·simp
  refine zaq hlev (by simp) ?_
  simp
  refine zcq hord (by simp) ?_
  simp
  exact ⟨rfl,LeI [(88,50)] []⟩
 refine zag ?_
 exact ⟨.inr rfl,zan.out [50] [] rfl (by simp) (by simp) (by simp) (by simp [fcd])⟩
theorem zmG (l : List Int) (x : Int) (hl : l.length≤1000000) : zak Tryz.prog zhG [ints l,.I x] [] (.rs 0 0 (l.length+1)) [some ⟨1,zai (l++[x]),0⟩]:=by
 refine zoX.acalls (nbz rfl) (nbz rfl) (Nat.zero_le _) ?_
 show awp _ 0 _ _ ⟨14,[(0,ints l),(1,.I x)],[],16⟩
 refine rx (s:=?s1) [0,1] [] [] rfl ?o1 ?q1
 case o1=>simp; rfl
 refine zab ⟨14,[(4,.rs 50 0 (l.length+1))],[(50,some ⟨1,zai (l++[x]),0⟩)],200⟩ rfl ?_ ?_
 ·have hsl : ∀ {id : Nat} {h : Nat→Option Ent} {K : AV→List Nat→List (Nat × Option Ent)→Prop},K (.vs 1 true (l.map fun n=>[AV.I n])) [] []→aK Tryz.prog 0 id (.slc 1 false true true) [ints l,.I (l.length : Nat),.I (l.length : Nat)] h K:=fun hK=>by
   rw [zl9]
   refine ⟨0,l.length,l.length,l.length,by simp,Nat.zero_le _,rfl,by simp,by simp,by simp,Nat.le_refl _,fun _=>rfl,rfl,?_⟩
   rw [List.drop_zero,Nat.sub_zero,List.take_of_length_le (by simp)]
   exact hK
  simp
  refine hsl ?_
  simp
  exact ⟨by omega,by omega,LeI [(88,50)] []⟩
 refine zag ?_
 exact ⟨.inr rfl,zan.out [50] [] rfl (by simp) (by simp) (by simp) (by simp [fcd])⟩
theorem zgE (g : Gr) (p : Pol) (ks : List Int) (hg : GrOk g) (hp : zbl g.size p) (hk : ks.Nodup) (hr : ∀ k∈ks,0≤k∧k<g.size) (hs : p.seeds.length≤64) : zak Tryz.prog zel [eG g,eP p,ints ks] [] (eN ⟨netN g,netA g p (za0 ks)⟩) []:=by
 refine zll.acalls (nbz rfl) (nbz rfl) (Nat.zero_le _) ?_
 show awp _ 0 _ _ ⟨18,[(0,eG g),(1,eP p),(2,ints ks)],[],16⟩
 have hsz:=hg.1.2.1
 have hr64 : ∀ k∈ks,0≤k∧k<64:=fun k h=>by have:=hr k h; omega
 have hlen:=znX hk hr64
 have hJl:=zmt ks
 have hsort:=zhA ks (by omega)
 rw [zot hk hr64,← hlen] at hsort
 have hnet:=zkW g p (za0 ks) hg hp (zjm hr) hs hJl
 rw [← znO hg,show zbR g p (zaz g p) (za0 ks)=netA g p (za0 ks) from rfl] at hnet
 obtain ⟨J,hJ⟩ : ∃ J,J=za0 ks:=⟨_,rfl⟩
 obtain ⟨A,hA⟩ : ∃ A,A=netA g p (za0 ks):=⟨_,rfl⟩
 rw [← hA] at hnet ⊢
 rw [← hJ] at hnet hsort
 refine rx (s:=?s1) [2,3,4,6] [32] [16,24] rfl ?o1 ?q1
 case o1=>simp; rfl
 refine zba ⟨18,[(6,.pt 32 0 0),(7,.pv (nC ⟨netN g,A⟩))],[(32,some ⟨2,[[.I 0,.nilS]],0⟩)],300⟩ rfl ?_ ?_
 ·simp
  refine zcq hsort (by simp) ?_
  simp
  refine zym [64] (by simp) hnet (by simp [fcd,zao]) ?_
  simp
  exact ⟨rfl,LeH [(32,32)] [104]⟩
 refine zab ⟨18,[(6,.pt 32 0 0)],[(32,some ⟨2,[nC ⟨netN g,A⟩],0⟩)],400⟩ rfl ?_ ?_
 ·simp [zaZ]
  exact LeH [(32,32)] []
 refine zag ?_
 exact ⟨.inr rfl,zan.out [] [32] rfl (by simp) (by simp) (by simp) (by simp)⟩
def zyW (N : Nat) (A : List Ed) (f : List Int) : Prop:=zaO N A f ∧ ∀ f',zaO N A f'→valF A f'≤valF A f
theorem zmH (N : Nat) (A : List Ed) (k : Int) (hn : zdd ⟨N,A⟩) :
  ∃ f : List Int,zyW N A f∧zak Tryz.prog zep [eN ⟨N,A⟩,.I k] [] (.tup [.rs 0 0 A.length,.B (decide (valF A f=k))]) [some ⟨1,zai f,0⟩]:=by
 obtain ⟨f,hf,hmax⟩:=zsK N A hn
 refine ⟨f,hf,?_⟩
 have hfl:=hf.1.fit.len
 have hal:=hn.2.2.1
 simp only at hal
 have hval:=zn8 (f:=f) hn (by omega)
 rw [if_pos hf.1] at hval
 have htake : ∀ g : Int→List AV,List.take A.length (List.map g f)=List.map g f:=fun g=>List.take_of_length_le (by simp; omega)
 refine zn2.acalls (nbz rfl) (nbz rfl) (Nat.zero_le _) ?_
 show awp _ 0 _ _ ⟨19,[(0,eN ⟨N,A⟩),(1,.I k)],[],16⟩
 refine rx (s:=?s1) [1,2] [] [16] rfl ?o1 ?q1
 case o1=>simp; rfl
 refine zab ⟨19,[(1,.I k),(2,.pv (nC ⟨N,A⟩)),(6,.rs 50 0 A.length)],[(50,some ⟨1,zai f,0⟩)],100⟩ rfl ?_ ?_
 ·simp
  refine zcq hmax (by simp) ?_
  simp
  exact LeI [(48,50)] []
 refine zab ⟨19,[(4,.rs 50 0 A.length),(5,.B (decide (valF A f=k)))],[(50,some ⟨1,zai f,0⟩)],200⟩ rfl ?_ ?_
 ·simp
  refine zlC [50] hval (by simp [fcd,htake,hfl]) (.sc _) ?_
  simp
  exact Le.go [(50,50)] [] rfl rfl (by simp <;> exact wkB (by rw [Bool.eq_iff_iff]; simp)) (by simp [fcd])
 refine zag ?_
 exact ⟨.inr rfl,zan.out [50] [] rfl (by simp) (by simp) (by simp) (by simp [fcd])⟩
theorem zq3 (g : Gr) (p : Pol) : ∀ (n : Nat) (o : List Int),o.length=n→(refR g p o).length≤n
 | 0,o,h=>by
   obtain rfl:=List.eq_nil_of_length_eq_zero h
   exact Nat.le_refl _
 | n+1,o,h=>by
   have hne : o≠[]:=fun e=>by rw [e] at h; cases h
   rw [← List.dropLast_concat_getLast hne]
   have ih:=zq3 g p n o.dropLast (by rw [List.length_dropLast,h]; rfl)
   by_cases hc : zap g p (za0 (accR g p o.dropLast++[o.getLast hne]))
   ·rw [zh9 hc]; omega
   ·rw [zn9 hc,List.length_append,List.length_singleton]; omega
theorem zty (N : Nat) (A : List Ed) : (zgX N A).length≤N:=by
 unfold zgX
 exact Nat.le_trans (List.length_filter_le ..) (by simp)
set_option maxRecDepth 100000 in
set_option maxHeartbeats 8000000 in
theorem zhs (g : Gr) (p : Pol) (hg : GrOk g) (hp : zbl g.size p) (hs : p.seeds.length≤64) (hN : g.size<20) :
  ∃ f : List Int,ztY g p (za0 (accR g p (ordL (zaj g p.lv) p.seeds))) f ∧
    zak Tryz.prog zdV [eG g,eP p] [] (.tup [eAcc (accR g p (ordL (zaj g p.lv) p.seeds)) f (refR g p (ordL (zaj g p.lv) p.seeds)),.I 0]) []:=by
 have hsz:=hg.1.1
 have hsz2:=hg.1.2.1
 have hel:=hg.edges_le
 have hgl:=hg.gone_le
 have hchk:=zeO g p (by omega) (by omega) (by omega) (by have:=hp.2.2.2.1; omega)
 rw [if_pos hg,if_pos hp] at hchk
 have hord:=zlZ g p hg hN (by omega)
 obtain ⟨o,ho⟩ : ∃ o,o=ordL (zaj g p.lv) p.seeds:=⟨_,rfl⟩
 have hor : ∀ k∈o,0≤k∧k<g.size:=fun k hk=>by rw [ho] at hk; have h:=zgv hk; exact h
 have hon : o.Nodup:=by rw [ho]; exact zct _ _
 rw [← ho] at hord ⊢
 have hol : o.length≤64:=by
  have:=zbt (b:=(List.range g.size.toNat).map fun i : Nat=>(i : Int)) hon fun x hx=>by
   have:=hor x hx
   exact List.mem_map.2 ⟨x.toNat,List.mem_range.2 (by omega),by omega⟩
  simp at this
  omega
 have h64 : ∀ a : List Int,(∀ x∈a,0≤x∧x<g.size) → ∀ x∈a,0≤x∧x<64:=fun a h x hx=>by have:=h x hx; omega
 have hnv : ∀ a : List Int,(∀ x∈a,0≤x∧x<g.size)→zdd ⟨netN g,netA g p (za0 a)⟩:=fun a h=>zrT hg hp (zqO (zjm h)) hs (zmt a)
 have hserve : ∀ a : List Int,a.Nodup→(∀ x∈a,0≤x∧x<g.size) → ∃ f,ztY g p (za0 a) f∧zak Tryz.prog zep [eN ⟨netN g,netA g p (za0 a)⟩,.I (a.length : Nat)] [] (.tup [.rs 0 0 (netA g p (za0 a)).length,.B (@decide (zap g p (za0 a)) (Classical.propDecidable _))]) [some ⟨1,zai f,0⟩]:=fun a h1 h2=>by
  obtain ⟨f,hf,hc⟩:=zmH _ _ (a.length : Nat) (hnv a h2)
  have hmf:=zkl hf.1 hf.2
  refine ⟨f,⟨hf.1,hf.2,hmf.symm⟩,?_⟩
  have hjl:=znX h1 (h64 a h2)
  have : decide (valF (netA g p (za0 a)) f=(a.length : Nat)) = @decide (zap g p (za0 a)) (Classical.propDecidable _):=by
   rw [decide_eq_decide]
   unfold zap
   rw [hmf,hjl]
  rw [this] at hc
  exact hc
 have haccn : ∀ i,(accR g p (o.take i)).Nodup:=fun i=>(hon.sublist ((zf2 _ _ rfl).trans (List.take_sublist _ _)))
 have haccr : ∀ i,∀ x∈accR g p (o.take i),0≤x∧x<g.size:=fun i x hx=>hor x (List.mem_of_mem_take (zfs hx))
 obtain ⟨f,hf,hlast⟩:=hserve (accR g p o) (by have:=haccn o.length; rwa [List.take_length] at this) (by have:=haccr o.length; rwa [List.take_length] at this)
 refine ⟨f,hf,?_⟩
 have hnl:=zgE g p (accR g p o) hg hp (by have:=haccn o.length; rwa [List.take_length] at this) (by have:=haccr o.length; rwa [List.take_length] at this) hs
 have hlf:=hf.ok.fit.len
 refine zqn.acalls (nbz rfl) (nbz rfl) (Nat.zero_le _) ?_
 show awp _ 0 _ _ ⟨72,[(0,eG g),(1,eP p)],[],16⟩
 refine rx (s:=?s1) [2,3,4] [32] [16,24] rfl ?o1 ?q1
 case o1=>simp; rfl
 refine zaa ?_
 refine rx (s:=?s2) [2,3,4,6] [32] [] rfl ?o2 ?q2
 case o2=>simp; refine zaq hchk (by simp) ?_; simp; rfl
 refine rx (s:=?s3) [2,3,4,18] [32] [] rfl ?o3 ?q3
 case o3=>simp; rfl
 refine zae _ rfl (fun h=>by cases h) fun _=>?_
 refine zaf ?_
 refine zab ⟨72,[(2,.pv (gC g)),(3,.pv (pC p)),(4,.pt 32 0 0),(7,.pt 40 0 0)],[(32,some ⟨3,[[.nilS,.nilS,.nilS]],0⟩),(40,some ⟨3,[[.nilS,.nilS,.nilS]],0⟩)],200⟩ rfl ?_ ?_
 ·simp
  exact LeH [(32,32),(96,40)] []
 refine zaa ?_
 refine zab ⟨72,[(2,.pv (gC g)),(3,.pv (pC p)),(4,.pt 32 0 0),(7,.pt 40 0 0),(23,ints o),(24,.I o.length),(25,.I 0)],[(32,some ⟨3,[[.nilS,.nilS,.nilS]],0⟩),(40,some ⟨3,[[.nilS,.nilS,.nilS]],0⟩)],400⟩ rfl ?_ ?_
 ·simp
  refine zcq hord (by simp) ?_
  simp
  exact Le.go [(32,32),(40,40)] [216] rfl rfl (by simp [fcd,zao]) (by simp)
 refine zah ?_
 have hR0 : refR g p []=[]:=rfl
 refine zav (ι:=Nat) (fun i=>⟨72,[(2,.pv (gC g)),(3,.pv (pC p)),(4,.pt 32 0 0),(7,.pt 40 0 0),(23,ints o),(24,.I o.length),(25,.I i)],
   [(32,some ⟨3,[[.nilS,.nilS,.nilS]],0⟩),(40,some ⟨3,[[ints (accR g p (o.take i)),.nilS,.rs 42 0 (refR g p (o.take i)).length]],0⟩),(42,some ⟨2,zeF (refR g p (o.take i)),0⟩)],500⟩)
  (fun i=>i≤o.length) (fun i=>o.length - i) 0 (Nat.zero_le _)
  (Le.lst [(32,32),(40,40)] [] [(42,2)] rfl (by simp) (by simp) (by simp) (by simp) (by simp) (by simp) (by simp) (by simp [Up]) (by simp [zq5,hR0,fcd]; exact ⟨zaM.rfl' (by simp),zaM.row rfl (by omega) (by simp [UpL,Up,Wk.refl]; exact Wk.nil _ _)⟩)) ?_
 intro i hi
 have haN:=haccn i
 have haR:=haccr i
 have hal : (accR g p (o.take i)).length≤64:=Nat.le_trans (zrV _) (Nat.le_trans (List.length_take_le' i o) hol)
 have hRl:=zq3 g p _ (o.take i) rfl
 have hRl2:=List.length_take_le' i o
 have hyes:=fun k=>zcG (g:=g) (p:=p) (o:=o.take i) (k:=k)
 have hno:=fun k=>zhz (g:=g) (p:=p) (o:=o.take i) (k:=k)
 have hryes:=fun k=>zh9 (g:=g) (p:=p) (o:=o.take i) (k:=k)
 have hrno:=fun k=>zn9 (g:=g) (p:=p) (o:=o.take i) (k:=k)
 have hmem : ∀ x∈accR g p (o.take i),x∈o.take i:=fun x hx=>zfs hx
 obtain ⟨acc,hacc⟩ : ∃ acc,acc=accR g p (o.take i):=⟨_,rfl⟩
 obtain ⟨R,hR⟩ : ∃ R,R=refR g p (o.take i):=⟨_,rfl⟩
 rw [← hacc] at haN haR hal hmem hyes hno hryes hrno
 rw [← hR] at hRl hryes hrno
 rw [← hacc,← hR]
 refine zab ⟨72,[(2,.pv (gC g)),(3,.pv (pC p)),(4,.pt 32 0 0),(7,.pt 40 0 0),(23,ints o),(24,.I o.length),(25,.I i),(26,.B (decide (i<o.length)))],
   [(32,some ⟨3,[[.nilS,.nilS,.nilS]],0⟩),(40,some ⟨3,[[ints acc,.nilS,.rs 42 0 R.length]],0⟩),(42,some ⟨2,zeF R,0⟩)],600⟩ rfl ?_ ?_
 ·simp
  exact LeI [(32,32),(40,40),(42,42)] []
 refine zaa ?_
 refine zae _ rfl (fun h11=>?_) fun h11=>?_
 ·simp at h11
  have hw1 : IntKind.i64.wrap ((i : Int)+1)=(i : Int)+1:=w64 (by omega) (by omega)
  obtain ⟨k,hk⟩ : ∃ k,k=o[i]:=⟨_,rfl⟩
  have hkr:=hor _ (List.getElem_mem h11)
  rw [← hk] at hkr
  have hts : o.take (i+1)=o.take i++[k]:=by rw [List.take_succ_eq_append_getElem h11,hk]
  have hkacc : k∉acc:=fun h=>by
   have h2:=hmem k h
   obtain ⟨j,hj,hjk⟩:=List.mem_iff_getElem.1 h2
   rw [List.getElem_take] at hjk
   rw [List.length_take] at hj
   have:=(List.pairwise_iff_getElem.1 hon) j i (by omega) h11 (by omega)
   exact this (hjk.trans hk)
  have hks : ∀ x∈acc++[k],0≤x∧x<g.size:=fun x hx=>by
   rcases List.mem_append.1 hx with h | h
   ·exact haR x h
   ·rw [List.mem_singleton] at h; subst h; exact hkr
  have hkn : (acc++[k]).Nodup:=List.nodup_append.2 ⟨haN,by simp,fun a ha b hb=>by
   rw [List.mem_singleton] at hb
   subst hb
   rintro rfl
   exact hkacc ha⟩
  have hwith:=zmG acc k (by omega)
  have hnet:=zgE g p (acc++[k]) hg hp hkn hks hs
  obtain ⟨fl,hfl,hsv⟩:=hserve (acc++[k]) hkn hks
  have hreach:=zlx _ _ fl (hnv _ hks) hfl.ok hfl.most
  have hflen:=hfl.ok.fit.len
  have hnl2:=zty (netN g) (netA g p (za0 (acc++[k])))
  have hyes:=hyes k
  have hno:=hno k
  have hryes:=hryes k
  have hrno:=hrno k
  rw [← hts] at hyes hno hryes hrno
  obtain ⟨A,hA⟩ : ∃ A,A=netA g p (za0 (acc++[k])):=⟨_,rfl⟩
  obtain ⟨side,hside⟩ : ∃ side,side=zgX (netN g) A:=⟨_,rfl⟩
  rw [← hA] at hnet hsv hreach hflen hrno
  rw [← hside] at hreach hrno
  have htf : ∀ h : Int→List AV,List.take A.length (List.map h fl)=List.map h fl:=fun h=>List.take_of_length_le (by simp; omega)
  obtain ⟨W,hW⟩ : ∃ W,W=acc++[k]:=⟨_,rfl⟩
  have hWl : W.length=acc.length+1:=by rw [hW]; simp
  rw [← hW] at hwith hnet hsv hyes hno hryes hrno
  rw [← hWl] at hwith
  refine zaf ?_
  refine zbH (ι:=Unit) (fun _=>⟨72,[(2,.pv (gC g)),(3,.pv (pC p)),(4,.pt 32 0 0),(7,.pt 40 0 0),(23,ints o),(24,.I o.length),(25,.I i)],
   [(32,some ⟨3,[[.nilS,.nilS,.nilS]],0⟩),(40,some ⟨3,[[ints (accR g p (o.take (i+1))),.nilS,.rs 42 0 (refR g p (o.take (i+1))).length]],0⟩),(42,some ⟨2,zeF (refR g p (o.take (i+1))),0⟩)],3000⟩) (fun _=>True) ?_ fun _ _=>?_
  ·refine zah ?_
   refine zab ⟨72,[(2,.pv (gC g)),(3,.pv (pC p)),(4,.pt 32 0 0),(7,.pt 40 0 0),(9,.I k),(23,ints o),(24,.I o.length),(25,.I i)],
    [(32,some ⟨3,[[.nilS,.nilS,.nilS]],0⟩),(40,some ⟨3,[[ints acc,.nilS,.rs 42 0 R.length]],0⟩),(42,some ⟨2,zeF R,0⟩)],700⟩ rfl ?_ ?_
   ·simp [h11,← hk]
    exact LeI [(32,32),(40,40),(42,42)] []
   refine zab ⟨72,[(2,.pv (gC g)),(3,.pv (pC p)),(4,.pt 32 0 0),(7,.pt 40 0 0),(9,.I k),(10,ints W),(23,ints o),(24,.I o.length),(25,.I i)],
    [(32,some ⟨3,[[.nilS,.nilS,.nilS]],0⟩),(40,some ⟨3,[[ints acc,.nilS,.rs 42 0 R.length]],0⟩),(42,some ⟨2,zeF R,0⟩)],800⟩ rfl ?_ ?_
   ·simp
    refine zcq hwith (by simp) ?_
    simp
    exact Le.go [(32,32),(40,40),(42,42)] [724] rfl rfl (by simp [fcd,zao]) (by simp [fcd])
   refine zab ⟨72,[(2,.pv (gC g)),(3,.pv (pC p)),(4,.pt 32 0 0),(7,.pt 40 0 0),(9,.I k),(10,ints W),(11,.pv (nC ⟨netN g,A⟩)),(23,ints o),(24,.I o.length),(25,.I i)],
    [(32,some ⟨3,[[.nilS,.nilS,.nilS]],0⟩),(40,some ⟨3,[[ints acc,.nilS,.rs 42 0 R.length]],0⟩),(42,some ⟨2,zeF R,0⟩)],900⟩ rfl ?_ ?_
   ·simp
    refine zaq hnet (by simp) ?_
    simp
    exact LeI [(32,32),(40,40),(42,42)] [832]
   refine zab ⟨72,[(2,.pv (gC g)),(3,.pv (pC p)),(4,.pt 32 0 0),(7,.pt 40 0 0),(9,.I k),(10,ints W),(11,.pv (nC ⟨netN g,A⟩)),(12,.rs 43 0 A.length),(13,.B (@decide (zap g p (za0 W)) (Classical.propDecidable _))),(23,ints o),(24,.I o.length),(25,.I i)],
    [(32,some ⟨3,[[.nilS,.nilS,.nilS]],0⟩),(40,some ⟨3,[[ints acc,.nilS,.rs 42 0 R.length]],0⟩),(42,some ⟨2,zeF R,0⟩),(43,some ⟨1,zai fl,0⟩)],1000⟩ rfl ?_ ?_
   ·simp
    refine zcq hsv (by simp) ?_
    simp
    exact LeI [(32,32),(40,40),(42,42),(924,43)] []
   refine zaa ?_
   refine zab ⟨72,[(2,.pv (gC g)),(3,.pv (pC p)),(4,.pt 32 0 0),(7,.pt 40 0 0),(9,.I k),(10,ints W),(11,.pv (nC ⟨netN g,A⟩)),(12,.rs 43 0 A.length),(44,.B (@decide (zap g p (za0 W)) (Classical.propDecidable _))),(23,ints o),(24,.I o.length),(25,.I i)],
    [(32,some ⟨3,[[.nilS,.nilS,.nilS]],0⟩),(40,some ⟨3,[[ints acc,.nilS,.rs 42 0 R.length]],0⟩),(42,some ⟨2,zeF R,0⟩),(43,some ⟨1,zai fl,0⟩)],1100⟩ rfl ?_ ?_
   ·simp
    exact LeI [(32,32),(40,40),(42,42),(43,43)] []
   refine zae _ rfl (fun h15=>?_) fun h15=>?_
   ·have h15' : zap g p (za0 W):=@of_decide_eq_true _ (Classical.propDecidable _) h15
    have hy:=hyes h15'
    have hry:=hryes h15'
    refine zab ⟨72,[(2,.pv (gC g)),(3,.pv (pC p)),(4,.pt 32 0 0),(7,.pt 40 0 0),(23,ints o),(24,.I o.length),(25,.I i)],
     [(32,some ⟨3,[[.nilS,.nilS,.nilS]],0⟩),(40,some ⟨3,[[ints W,.nilS,.rs 42 0 R.length]],0⟩),(42,some ⟨2,zeF R,0⟩)],1200⟩ rfl ?_ ?_
    ·simp [zaZ]
     exact LeI [(32,32),(40,40),(42,42)] []
    refine zas ?_
    refine hit ?_
    exact ⟨(),trivial,Le.go [(32,32),(40,40),(42,42)] [] rfl rfl (by simp) (by simp [hy,hry,fcd])⟩
   ·have h15' : ¬ zap g p (za0 W):=@of_decide_eq_false _ (Classical.propDecidable _) h15
    have hn':=hno h15'
    have hrn:=hrno h15'
    have htR : ∀ h : Int × List Int→List AV,List.take R.length (List.map h R)=List.map h R:=fun h=>List.take_of_length_le (by simp)
    refine zaf ?_
    refine zfe rfl ?_
    simp
    refine zcJ (i:=43) rfl (by simp [fcd]) hreach (by simp) (by simp) ?_
    simp [htR,zaZ]
    exact ⟨by omega,by omega,rfl,Le.go [(32,32),(40,40),(1164,42)] [1140] rfl rfl (by simp) (by simp [hn',hrn,fcd,zao])⟩
  refine zaL rfl ?_
  simp [hw1]
  exact ⟨i+1,by omega,by omega,Le.go [(32,32),(40,40),(42,42)] [] rfl rfl (by simp [hw1]) (by simp [fcd])⟩
 simp at h11
 obtain rfl : i=o.length:=by omega
 rw [List.take_length] at hacc hR
 rw [← hacc] at hlast hnl hlf
 have hl1 : ((acc.length : Nat) : Int)=acc.length:=rfl
 obtain ⟨A,hA⟩ : ∃ A,A=netA g p (za0 acc):=⟨_,rfl⟩
 rw [← hA] at hnl hlast hlf
 have htf : ∀ h : Int→List AV,List.take A.length (List.map h f)=List.map h f:=fun h=>List.take_of_length_le (by simp; omega)
 refine zas ?_
 refine hit ?_
 refine zba ⟨72,[(4,.pt 32 0 0),(7,.pt 40 0 0)],
   [(32,some ⟨3,[[.nilS,.nilS,.nilS]],0⟩),(40,some ⟨3,[[ints acc,ints f,.vs 2 false (zeF R)]],0⟩)],1200⟩ rfl ?_ ?_
 ·simp
  refine zaq hnl (by simp) ?_
  simp
  refine zcq hlast (by simp) ?_
  simp [zaZ]
  exact ⟨rfl,Le.go [(32,32),(40,40)] [42,664] rfl rfl (by simp) (by simp [fcd,zao,htf,hlf])⟩
 refine zab ⟨72,[(4,.pt 32 0 0),(5,.I 0)],[(32,some ⟨3,[[ints acc,ints f,.vs 2 false (zeF R)]],0⟩)],1400⟩ rfl ?_ ?_
 ·simp [zaZ]
  exact LeI [(32,32)] []
 refine zag ?_
 rw [← hacc,← hR]
 exact ⟨.inr rfl,zan.out [] [32] rfl (by simp) (by simp) (by simp) (by simp)⟩
section
variable {P : Program} {np id : Nat} {h : Nat→Option Ent} {K : AV→List Nat→List (Nat × Option Ent)→Prop} {f : FuncId} {first capt args args' : List AV} {res : AV}
end
theorem zy1 (L : List Int) (hl : L.length≤400) : ∃ (g : Gr) (b : Nat),(GrOk g∧2≤g.size∧g.size≤9∧b≤L.length)∧zak Tryz.prog zdM [.pt 0 0 0] [dice L 0] (eG g) [some (dice L b)] :=
 have h:=zqx L 0 (Nat.zero_le _)
 ⟨_,_,⟨h.ok,h.lo,h.hi,h.at_⟩,zvI L 0 hl (Nat.zero_le _)⟩
variable {g : Gr} {p : Pol}
theorem Rise.pair {l : List Int} {lo hi : Int} (h : Rise l lo hi) : l.Pairwise (· < ·):=by
 have hlt : ∀ (j i : Nat) (hj : j<l.length) (hij : i<j),l[i]<l[j]:=by
  intro j
  induction j with
  | zero=>intro i _ hij; omega
  | succ j ih =>
    intro i hj hij
    have h1:=(h (j+1) hj).2.2 (by omega)
    simp only [Nat.add_sub_cancel] at h1
    rcases Nat.lt_or_ge i j with h2 | h2
    ·have:=ih i (by omega) h2
     omega
    ·have : i=j:=by omega
     subst this
     exact h1
 exact List.pairwise_iff_getElem.2 fun i j hi hj hij=>hlt j i hj hij
theorem zeB (acc f : List Int) (R : List (Int × List Int)) (k : Int) (hl : acc.length≤140737488355328) : zak Tryz.prog zbP [eAcc acc f R,.I k] [] (.B (decide (k∈acc))) []:=by
 refine zhQ.acalls (nbz rfl) (nbz rfl) (Nat.zero_le _) ?_
 show awp _ 0 _ _ ⟨9,[(0,eAcc acc f R),(1,.I k)],[],16⟩
 refine zab ⟨9,[(1,.I k),(2,.pv [ints acc,ints f,.vs 2 false (zeF R)])],[],100⟩ rfl ?_ ?_
 ·simp
  exact LeH [] [16]
 refine zab ⟨9,[(4,.B (decide (k∈acc)))],[],200⟩ rfl ?_ ?_
 ·simp
  refine zaq (zdm acc k hl) (by simp) ?_
  simp
  exact LeH [] []
 refine zag ?_
 exact ⟨.inr rfl,zan.one (by simp)⟩
variable {g : Gr} {p : Pol}
theorem zr8 (g : Gr) (p : Pol) : (accR g p (ordL (zaj g p.lv) p.seeds)).Nodup:=(zct _ _).sublist (zf2 _ _ rfl)
theorem h64 (hg : GrOk g) {a : List Int} (h : ∀ x∈a,0≤x∧x<g.size) : ∀ x∈a,0≤x∧x<64:=fun x hx=>by
 have:=h x hx
 have:=hg.1.2.1
 omega
variable {g : Gr} {p : Pol}
theorem ztt (w : Int→Int) (hw : ∀ x,0≤w x) : ∀ {s a : List Int},s.Nodup→(∀ x∈s,x∈a)→(s.map w).sum≤(a.map w).sum
 | [],a,_,_=>by
   have : ∀ a : List Int,0≤(a.map w).sum:=fun a=>by
    induction a with
    | nil=>exact Int.le_refl _
    | cons x a ih=>simp only [List.map_cons,List.sum_cons]; have:=hw x; omega
   exact this a
 | x::s,a,hn,h=>by
   rw [List.nodup_cons] at hn
   have h1:=List.perm_cons_erase (h x (List.mem_cons_self ..))
   have ih:=ztt w hw (s:=s) (a:=a.erase x) hn.2 fun y hy=>(List.mem_erase_of_ne (by rintro rfl; exact hn.1 hy)).2 (h y (List.mem_cons_of_mem _ hy))
   have h2 : (a.map w).sum=((x::a.erase x).map w).sum:=by
    have hp : ∀ {a b : List Int},a.Perm b→(a.map w).sum=(b.map w).sum:=fun h=>by
     induction h with
     | nil=>rfl
     | cons x _ ih=>simp only [List.map_cons,List.sum_cons,ih]
     | swap x y l=>simp only [List.map_cons,List.sum_cons]; omega
     | trans _ _ i1 i2=>exact i1.trans i2
    exact hp h1
   rw [h2]
   simp only [List.map_cons,List.sum_cons]
   omega
variable {g : Gr} {p : Pol}
def zwU (p : Pol) (S : List Int) (k : Int) (e : Ed) : Bool:=decide (e.f=k) && (decide (p.lv≤e.v) && S.contains e.t)
def decv (g : Gr) (p : Pol) (S : List Int) (k : Int) : Bool:=g.edges.any (zwU p S k)
def totK (g : Gr) (p : Pol) (S : List Int) (k : Int) : Int:=if S.contains k && p.seeds.contains k then (zaz g p).getD k.toNat 0 else if !S.contains k && decv g p S k then max 0 ((zaz g p).getD k.toNat 0 - 1) else 0
def totB (g : Gr) (p : Pol) (S : List Int) (n : Nat) : Int:=((List.range n).map fun (i : Nat)=>totK g p S i).sum
theorem zuq (S : List Int) (n : Nat) : totB g p S (n+1)=totB g p S n+totK g p S n:=by
 unfold totB
 rw [List.range_succ,List.map_append,List.sum_append]
 simp
theorem zi4 {α : Type} {q : α→Bool} {f w : α→Int} : ∀ {l : List α},(∀ x∈l,q x=true→f x≤w x)→(∀ x∈l,0≤w x)→((l.filter q).map f).sum≤(l.map w).sum
 | [],_,_=>Int.le_refl _
 | x::l,h1,h2=>by
   have ih:=zi4 (l:=l) (q:=q) (f:=f) (w:=w) (fun y hy=>h1 y (List.mem_cons_of_mem _ hy)) fun y hy=>h2 y (List.mem_cons_of_mem _ hy)
   have h3:=h2 x (List.mem_cons_self ..)
   have h4:=h1 x (List.mem_cons_self ..)
   rw [List.filter_cons]
   by_cases hq : q x=true
   ·rw [if_pos hq]
    have:=h4 hq
    simp only [List.map_cons,List.sum_cons]
    omega
   ·rw [if_neg hq]
    simp only [List.map_cons,List.sum_cons]
    omega
theorem ziL {α : Type} (f w : α→Int) : ∀ l : List α,(l.map fun x=>f x+w x).sum=(l.map f).sum+(l.map w).sum
 | []=>rfl
 | x::l=>by
   have:=ziL f w l
   simp only [List.map_cons,List.sum_cons,this]
   omega
def zhO (g : Gr) (p : Pol) (S : List Int) (x : Int) : Bool :=
 decide (x=0) || (decide (2≤x) && (if x % 2=0 then !S.contains ((x - 2) / 2) else !S.contains ((x - 3) / 2) && !decv g p S ((x - 3) / 2)))
theorem zk8 {S : List Int} {k : Int} (h : 0≤k) : zhO g p S (2+2*k) = !S.contains k:=by
 unfold zhO
 rw [decide_eq_false (by omega),decide_eq_true (by omega),if_pos (by omega),show (2+2*k - 2) / 2=k by omega]
 rfl
theorem zpP {S : List Int} {k : Int} (h : 0≤k) : zhO g p S (3+2*k)=(!S.contains k && !decv g p S k):=by
 unfold zhO
 rw [decide_eq_false (by omega),decide_eq_true (by omega),if_neg (by omega),show (3+2*k - 3) / 2=k by omega]
 rfl
theorem zyw (hg : GrOk g) (hp : zbl g.size p) (S : List Int) : zoB g p (zhO g p S)≤totB g p S g.size.toNat:=by
 have hcn:=zkv (g:=g) hp
 have hc0 : ∀ x : Int,0≤(zaz g p).getD x.toNat 0:=fun x=>by
  rw [List.getD_eq_getElem?_getD]
  cases hh : (zaz g p)[x.toNat]? with
  | none=>simp
  | some v=>exact hcn v (List.mem_of_getElem? hh)
 obtain ⟨wA,hwA⟩ : ∃ wA : Int→Int,∀ k,wA k=if S.contains k && p.seeds.contains k then (zaz g p).getD k.toNat 0 else 0:=⟨_,fun _=>rfl⟩
 obtain ⟨wB,hwB⟩ : ∃ wB : Int→Int,∀ k,wB k=if !S.contains k && decv g p S k then max 0 ((zaz g p).getD k.toNat 0 - 1) else 0:=⟨_,fun _=>rfl⟩
 have hwA0 : ∀ k,0≤wA k:=fun k=>by
  have:=hc0 k
  rw [hwA]; split <;> omega
 have hwB0 : ∀ k,0≤wB k:=fun k=>by
  rw [hwB]; split <;> omega
 have htot : ∀ k,totK g p S k=wA k+wB k:=fun k=>by
  unfold totK
  rw [hwA,hwB]
  cases S.contains k <;> cases p.seeds.contains k <;> simp
 have hsum : totB g p S g.size.toNat=(((List.range g.size.toNat).map fun (i : Nat)=>(i : Int)).map wA).sum+((List.range g.size.toNat).map fun (i : Nat)=>wB (i : Int)).sum:=by
  unfold totB
  rw [List.map_map,← ziL]
  congr 1
  exact List.map_congr_left fun x _=>htot _
 have hcl : (zaz g p).length=g.size.toNat:=zce
 unfold zoB
 simp only [zi3,netA,zbR,List.map_append,List.sum_append,List.map_map,List.filter_nil,List.map_nil,List.sum_nil]
 have hs0 : ∀ x∈p.seeds,0≤x∧x<g.size:=fun x hx=>by have:=hp.2.1.nodup.2 x hx; omega
 have h1 : ((p.seeds.filter fun x=>decide (0<(zaz g p).getD x.toNat 0)).map ((fun e : Ed=>if zhO g p S e.f=true∧zhO g p S e.t=false then e.v else 0)∘fun x : Int=>(⟨0,2+2*x,(zaz g p).getD x.toNat 0⟩ : Ed))).sum≤(((List.range g.size.toNat).map fun (i : Nat)=>(i : Int)).map wA).sum:=by
  have e1 : ((p.seeds.filter fun x=>decide (0<(zaz g p).getD x.toNat 0)).map ((fun e : Ed=>if zhO g p S e.f=true∧zhO g p S e.t=false then e.v else 0)∘fun x : Int=>(⟨0,2+2*x,(zaz g p).getD x.toNat 0⟩ : Ed)))=(p.seeds.filter fun x=>decide (0<(zaz g p).getD x.toNat 0)).map wA:=by
   refine List.map_congr_left fun x hx=>?_
   have hx1:=(List.mem_filter.1 hx).1
   have h2:=(hs0 x hx1).1
   have h3 : p.seeds.contains x=true:=List.contains_iff_mem.2 hx1
   simp only [Function.comp]
   rw [hwA,h3,zk8 h2,show zhO g p S 0=true from rfl]
   cases S.contains x <;> simp
  rw [e1]
  refine ztt wA hwA0 ((zdG hp.2.1.pair).filter _) fun x hx=>?_
  have h2:=hs0 x (List.mem_filter.1 hx).1
  exact List.mem_map.2 ⟨x.toNat,List.mem_range.2 (by omega),by omega⟩
 have h2 : (((List.range (zaz g p).length).filter fun i=>decide (0<(zaz g p).getD i 0)).map ((fun e : Ed=>if zhO g p S e.f=true∧zhO g p S e.t=false then e.v else 0)∘fun i : Nat=>(⟨2+2*(i : Int),3+2*(i : Int),(zaz g p).getD i 0 - 1⟩ : Ed))).sum≤((List.range g.size.toNat).map fun (i : Nat)=>wB (i : Int)).sum:=by
  rw [hcl]
  refine zi4 (fun i hi hq=>?_) fun i _=>hwB0 _
  simp only [Function.comp]
  rw [hwB,zk8 (by omega),zpP (by omega),Int.toNat_natCast]
  cases S.contains (i : Int) <;> cases decv g p S (i : Int) <;> simp <;> omega
 have h3 : (((zaj g p.lv).edges.filter fun e=>decide (0<(zaz g p).getD e.f.toNat 0)).map ((fun e : Ed=>if zhO g p S e.f=true∧zhO g p S e.t=false then e.v else 0)∘fun e : Ed=>(⟨3+2*e.f,2+2*e.t,64⟩ : Ed))).sum≤0:=by
  have e1 : ∀ l : List Ed,(∀ e∈l,e∈(zaj g p.lv).edges)→(l.map ((fun e : Ed=>if zhO g p S e.f=true∧zhO g p S e.t=false then e.v else 0)∘fun e : Ed=>(⟨3+2*e.f,2+2*e.t,64⟩ : Ed))).sum≤0:=by
   intro l
   induction l with
   | nil=>intro _; exact Int.le_refl _
   | cons e l ih =>
     intro h
     have ih:=ih fun y hy=>h y (List.mem_cons_of_mem _ hy)
     have he:=List.mem_filter.1 (h e (List.mem_cons_self ..))
     have hf:=hg.fits e he.1
     have hlv : p.lv≤e.v:=by have:=he.2; simp at this; omega
     unfold Fits at hf
     simp only [List.map_cons,List.sum_cons,Function.comp] at ih ⊢
     rw [zk8 (by omega),zpP (by omega)]
     have hno : ¬ ((!S.contains e.f && !decv g p S e.f)=true∧(!S.contains e.t)=false):=by
      rintro ⟨a,b⟩
      simp only [Bool.and_eq_true,Bool.not_eq_true',Bool.not_eq_false'] at a b
      have hd : decv g p S e.f=true:=by
       unfold decv
       rw [List.any_eq_true]
       exact ⟨e,he.1,by unfold zwU; rw [decide_eq_true rfl,decide_eq_true hlv,b]; rfl⟩
      rw [hd] at a
      exact absurd a.2 (by simp)
     rw [if_neg hno]
     omega
  exact e1 _ fun e he=>(List.mem_filter.1 he).1
 omega
theorem zuf (hg : GrOk g) (hp : zbl g.size p) {a : List Int} (hk : zb4 g p a) (ha : zap g p a) (S : List Int) : ((a.filter fun x=>S.contains x).length : Int)≤totB g p S g.size.toNat:=by
 have hsub : (a.filter fun x=>S.contains x).Sublist a:=List.filter_sublist
 have h1:=ha.sublist hg hp hk hsub
 have hk1 : zb4 g p (a.filter fun x=>S.contains x):=hk.sub fun x hx=>hsub.subset hx
 have h2:=(zdk hg hp hk1).1 h1 (zhO g p S) rfl rfl
 rw [znr fun k hk2=>by
  have h3:=List.mem_filter.1 hk2
  have h4:=hk.rng k h3.1
  rw [zk8 h4.1,h3.2]
  rfl] at h2
 have:=zyw hg hp S
 omega
variable {g : Gr} {p : Pol} {S : List Int} {l : Int}
theorem zm3 {g' : Gr} (hz : g.size=g'.size) (h : ∀ k,dist g S k=dist g' S k) : ∀ m,ordN g S m=ordN g' S m
 | 0=>rfl
 | m+1=>by
   rw [ordN,ordN,zm3 hz h m,hz]
   congr 2
   funext k
   rw [h k]
theorem zgz {α : Type} {f w : α→Int} : ∀ {L : List α},(∀ x∈L,f x≤w x)→(L.map f).sum≤(L.map w).sum
 | [],_=>Int.le_refl _
 | x::L,h=>by
   have ih:=zgz (L:=L) (f:=f) (w:=w) fun y hy=>h y (List.mem_cons_of_mem _ hy)
   have h1:=h x (List.mem_cons_self ..)
   simp only [List.map_cons,List.sum_cons]
   omega
theorem zc1 {α : Type} (q : α→Bool) (f : α→Int) : ∀ L : List α,((L.filter q).map f).sum=(L.map fun x=>if q x=true then f x else 0).sum
 | []=>rfl
 | x::L=>by
   have ih:=zc1 q f L
   rw [List.filter_cons]
   by_cases h : q x=true
   ·rw [if_pos h]
    simp only [List.map_cons,List.sum_cons,ih,if_pos h]
   ·rw [if_neg h]
    simp only [List.map_cons,List.sum_cons,ih,if_neg h]
    omega
section
variable {C : Int→Bool}
theorem zru (g : Gr) (p : Pol) (C : Int→Bool) : zoB g p C =
  (p.seeds.map fun x=>if decide (0<(zaz g p).getD x.toNat 0)=true then (if C 0=true∧C (2+2*x)=false then (zaz g p).getD x.toNat 0 else 0) else 0).sum
  + ((List.range (zaz g p).length).map fun (i : Nat)=>if decide (0<(zaz g p).getD i 0)=true then (if C (2+2*(i : Int))=true∧C (3+2*(i : Int))=false then (zaz g p).getD i 0 - 1 else 0) else 0).sum
  + ((zaj g p.lv).edges.map fun e=>if decide (0<(zaz g p).getD e.f.toNat 0)=true then (if C (3+2*e.f)=true∧C (2+2*e.t)=false then 64 else 0) else 0).sum:=by
 unfold zoB
 simp only [zi3,netA,zbR,List.map_append,List.sum_append,List.map_map,List.filter_nil,List.map_nil,List.sum_nil]
 rw [zc1,zc1,zc1]
 simp only [Function.comp]
 omega
end
structure GStp where
 gone : Bool
 e : Ed
def HasE (g : Gr) (f t : Int) : Prop:=∃ x∈g.edges,x.f=f∧x.t=t
theorem Bef.asymm {a b : Ed} (h : Bef a b) : ¬ Bef b a:=by unfold Bef at *; omega
theorem Bef.irrefl (a : Ed) : ¬ Bef a a:=by unfold Bef; omega
theorem GrOk.of {s : Int} {E : List Ed} {go : List Int} (h0 : 0≤s) (h1 : s≤64) (hl : E.length≤500) (hg : Rise go 0 (s - 1)) (hp : E.Pairwise Bef) (hf : ∀ e∈E,Fits ⟨s,E,go⟩ e∧1≤e.v∧e.v≤3) : GrOk ⟨s,E,go⟩ :=
 ⟨⟨h0,h1,hl,hg⟩,fun i hi=>⟨(hf _ (List.getElem_mem hi)).1,(hf _ (List.getElem_mem hi)).2.1,(hf _ (List.getElem_mem hi)).2.2,fun h0=>zj3.2 (List.pairwise_iff_getElem.1 hp (i - 1) i (by simp only at hi; omega) hi (by omega))⟩⟩
variable {g : Gr} {f t : Int} {e : Ed}
theorem GrOk.val (hg : GrOk g) : ∀ e∈g.edges,1≤e.v∧e.v≤3:=fun e he=>by
 obtain ⟨i,hi,rfl⟩:=List.getElem_of_mem he
 exact ⟨(hg.2 i hi).2.1,(hg.2 i hi).2.2.1⟩
theorem GrOk.uniq (hg : GrOk g) {x y : Ed} (hx : x∈g.edges) (hy : y∈g.edges) (hf : x.f=y.f) (ht : x.t=y.t) : x=y:=by
 obtain ⟨i,hi,rfl⟩:=List.getElem_of_mem hx
 obtain ⟨j,hj,rfl⟩:=List.getElem_of_mem hy
 rcases Nat.lt_trichotomy i j with h | h | h
 ·have:=hg.lt j i hi hj h
  unfold Bef at this
  omega
 ·subst h; rfl
 ·have:=hg.lt i j hj hi h
  unfold Bef at this
  omega
theorem zob : ∀ {a b : List Ed},a.Pairwise Bef→b.Pairwise Bef→(∀ x,x∈a↔x∈b)→a=b
 | [],[],_,_,_=>rfl
 | [],y::b,_,_,h=>absurd ((h y).2 List.mem_cons_self) (by simp)
 | x::a,[],_,_,h=>absurd ((h x).1 List.mem_cons_self) (by simp)
 | x::a,y::b,ha,hb,h=>by
   rw [List.pairwise_cons] at ha hb
   have hxy : x=y:=by
    rcases List.mem_cons.1 ((h x).1 List.mem_cons_self) with h1 | h1
    ·exact h1
    rcases List.mem_cons.1 ((h y).2 List.mem_cons_self) with h2 | h2
    ·exact h2.symm
    exact absurd (ha.1 y h2) (hb.1 x h1).asymm
   subst hxy
   rw [zob ha.2 hb.2 fun z=>⟨fun hz=>?_,fun hz=>?_⟩]
   ·rcases List.mem_cons.1 ((h z).1 (List.mem_cons_of_mem _ hz)) with h1 | h1
    ·subst h1; exact absurd (ha.1 z hz) (Bef.irrefl z)
    ·exact h1
   ·rcases List.mem_cons.1 ((h z).2 (List.mem_cons_of_mem _ hz)) with h1 | h1
    ·subst h1; exact absurd (hb.1 z hz) (Bef.irrefl z)
    ·exact h1
theorem zxE {a b : Gr} (ha : GrOk a) (hb : GrOk b) (hs : a.size=b.size) (hg : a.gone=b.gone) (h : ∀ x,x∈a.edges↔x∈b.edges) : a=b:=by
 obtain ⟨s,E,go⟩:=a
 obtain ⟨s',E',go'⟩:=b
 have:=zob ha.pair hb.pair h
 simp only at hs hg this
 subst hs hg this
 rfl
def OkS (g : Gr) (s : GStp) : Prop:=if s.gone=true then HasE g s.e.f s.e.t else Fits g s.e∧(1≤s.e.v∧s.e.v≤3)∧¬ HasE g s.e.f s.e.t
structure zri (g g' : Gr) (s : GStp) : Prop where
 ok : GrOk g'
 size : g'.size=g.size
 gone : g'.gone=g.gone
 len : g'.edges.length≤g.edges.length+1
 mem : ∀ x,x∈g'.edges↔(s.gone=false∧x=s.e)∨(x∈g.edges∧¬ (s.gone=true∧x.f=s.e.f∧x.t=s.e.t))
theorem zri.has {g' : Gr} {s : GStp} (h : zri g g' s) {f t : Int} (hne : ¬ (s.e.f=f∧s.e.t=t)) : HasE g' f t↔HasE g f t:=by
 constructor
 ·rintro ⟨x,hx,hf,ht⟩
  rcases (h.mem x).1 hx with h1 | h1
  ·obtain ⟨_,rfl⟩:=h1
   exact absurd ⟨hf,ht⟩ hne
  ·exact ⟨x,h1.1,hf,ht⟩
 ·rintro ⟨x,hx,hf,ht⟩
  refine ⟨x,(h.mem x).2 (.inr ⟨hx,fun hc=>hne ?_⟩),hf,ht⟩
  exact ⟨hc.2.1.symm.trans hf,hc.2.2.symm.trans ht⟩
theorem zri.okS {g' : Gr} {s u : GStp} (h : zri g g' s) (hne : ¬ (s.e.f=u.e.f∧s.e.t=u.e.t)) : OkS g' u↔OkS g u:=by
 unfold OkS
 have hf : Fits g' u.e↔Fits g u.e:=by unfold Fits; rw [h.size,h.gone]
 rw [h.has hne,hf]
theorem GrOk.nodup (hg : GrOk g) : g.edges.Nodup:=hg.pair.imp fun h he=>by subst he; exact Bef.irrefl _ h
variable {g : Gr} {p : Pol} {x : Int} {l : List Int}
def zlq (g : Gr) (p : Pol) (x k : Int) : Bool:=!decide (k=x) && (!(g.edges.any fun e=>decide (e.f=k) || decide (e.t=k)) && (!decide (k∈g.gone) && !decide (k∈p.seeds)))
def zcC (g : Gr) (p : Pol) (x : Int) : List Int:=zbp g.size.toNat (zlq g p x)
structure zeD (g : Gr) (p : Pol) (x : Int) (l : List Int) : Prop where
 rng : ∀ k∈l,0≤k∧k<g.size
 ne : ∀ k∈l,k≠x
 edge : ∀ k∈l,∀ e∈g.edges,e.f≠k∧e.t≠k
 gone : ∀ k∈l,k∉g.gone
 seed : ∀ k∈l,k∉p.seeds
 pair : l.Pairwise (· < ·)
theorem zfB (n : Nat) : zeD g p x ((zcC g p x).take n):=by
 have hm : ∀ k∈(zcC g p x).take n,(0≤k∧k<g.size)∧k≠x∧(∀ e∈g.edges,e.f≠k∧e.t≠k)∧k∉g.gone∧k∉p.seeds:=fun k hk=>by
  have h1:=zc3.1 (List.mem_of_mem_take hk)
  have h2:=h1.2
  simp only [zlq,Bool.and_eq_true,Bool.not_eq_true',decide_eq_false_iff_not,List.any_eq_false,Bool.or_eq_true,decide_eq_true_eq,not_or] at h2
  exact ⟨by omega,h2⟩
 exact ⟨fun k hk=>(hm k hk).1,fun k hk=>(hm k hk).2.1,fun k hk=>(hm k hk).2.2.1,fun k hk=>(hm k hk).2.2.2.1,fun k hk=>(hm k hk).2.2.2.2,(zg1 _ _).sublist (List.take_sublist _ _)⟩
theorem zeD.nodup (h : zeD g p x l) : l.Nodup:=zdG h.pair
def tieI (x : Int) (l : List Int) (i : Nat) : List Ed:=[⟨x,l.getD i 0,3⟩,⟨l.getD i 0,x,3⟩]++(if 1<l.length then [⟨l.getD i 0,l.getD ((i+1) % l.length) 0,3⟩] else [])
def tieL (x : Int) (l : List Int) : List Ed:=(List.range l.length).flatMap (tieI x l)
theorem zfn {i : Nat} (h : i<l.length) : l.getD i 0∈l:=by
 rw [List.getD_eq_getElem?_getD,List.getElem?_eq_getElem h,Option.getD_some]
 exact List.getElem_mem h
theorem zlf {e : Ed} (h : e∈tieL x l) : e.v=3∧((e.f=x∧e.t∈l)∨(e.t=x∧e.f∈l)∨(e.f∈l∧e.t∈l)):=by
 obtain ⟨i,hi,h⟩:=List.mem_flatMap.1 h
 have hi:=List.mem_range.1 hi
 have h1:=zfn hi
 unfold tieI at h
 simp only [List.cons_append,List.nil_append,List.mem_cons] at h
 rcases h with rfl | rfl | h
 ·exact ⟨rfl,.inl ⟨rfl,h1⟩⟩
 ·exact ⟨rfl,.inr (.inl ⟨rfl,h1⟩)⟩
 ·split at h
  ·rw [List.mem_singleton] at h
   subst h
   exact ⟨rfl,.inr (.inr ⟨h1,zfn (Nat.mod_lt _ (by omega))⟩)⟩
  ·exact (List.not_mem_nil h).elim
theorem zqX {k : Int} (h : k∈l) : (⟨x,k,3⟩ : Ed)∈tieL x l:=by
 obtain ⟨i,hi,rfl⟩:=List.mem_iff_getElem.1 h
 refine List.mem_flatMap.2 ⟨i,List.mem_range.2 hi,?_⟩
 unfold tieI
 rw [List.getD_eq_getElem?_getD,List.getElem?_eq_getElem hi,Option.getD_some]
 simp
def zl2 (a b : Ed) : Prop:=¬ (a.f=b.f∧a.t=b.t)
theorem zrv (hn : l.Nodup) {i j : Nat} (hi : i<l.length) (hj : j<l.length) (h : l.getD i 0=l.getD j 0) : i=j:=by
 rw [List.getD_eq_getElem?_getD,List.getElem?_eq_getElem hi,Option.getD_some,List.getD_eq_getElem?_getD,List.getElem?_eq_getElem hj,Option.getD_some] at h
 exact (List.getElem_inj hn).1 h
theorem zoP (hn : l.Nodup) (hx : x∉l) : (tieL x l).Pairwise zl2:=by
 unfold tieL
 rw [List.pairwise_flatMap]
 have hm : ∀ i,i∈List.range l.length → ∀ e∈tieI x l i,(e.f=x∧e.t=l.getD i 0)∨(e.f=l.getD i 0∧(e.t=x∨e.t∈l)):=fun i hi e he=>by
  unfold tieI at he
  simp only [List.cons_append,List.nil_append,List.mem_cons] at he
  rcases he with rfl | rfl | h
  ·exact .inl ⟨rfl,rfl⟩
  ·exact .inr ⟨rfl,.inl rfl⟩
  ·split at h
   ·rw [List.mem_singleton] at h
    subst h
    exact .inr ⟨rfl,.inr (zfn (Nat.mod_lt _ (by omega)))⟩
   ·exact (List.not_mem_nil h).elim
 constructor
 ·intro i hi
  have h1:=zfn (List.mem_range.1 hi)
  have h2 : x≠l.getD i 0:=fun e=>hx (e ▸ h1)
  unfold tieI
  simp only [List.cons_append,List.nil_append,List.pairwise_cons,List.mem_cons]
  refine ⟨fun e he=>?_,fun e he=>?_,?_⟩
  ·rcases he with rfl | h
   ·exact fun h=>h2 h.1
   ·split at h
    ·rw [List.mem_singleton] at h; subst h; exact fun h=>h2 h.1
    ·exact (List.not_mem_nil h).elim
  ·split at he
   ·rename_i h3
    rw [List.mem_singleton] at he
    subst he
    exact fun h=>hx ((show x=_ from h.2) ▸ zfn (Nat.mod_lt _ (by omega)))
   ·exact (List.not_mem_nil he).elim
  ·split
   ·exact List.pairwise_singleton _ _
   ·exact .nil
 ·refine List.pairwise_lt_range.imp_of_mem fun {i j} hi hj hij a ha b hb=>?_
  have h1:=hm i hi a ha
  have h2:=hm j hj b hb
  have mi:=zfn (List.mem_range.1 hi)
  have mj:=zfn (List.mem_range.1 hj)
  have hne : l.getD i 0≠l.getD j 0:=fun e=>by have:=zrv hn (List.mem_range.1 hi) (List.mem_range.1 hj) e; omega
  have xi : x≠l.getD i 0:=fun e=>hx (e ▸ mi)
  have xj : x≠l.getD j 0:=fun e=>hx (e ▸ mj)
  rintro ⟨e1,e2⟩
  rcases h1 with ⟨q1,q2⟩ | ⟨q1,q2⟩ <;> rcases h2 with ⟨r1,r2⟩ | ⟨r1,r2⟩
  ·exact hne (by rw [← q2,← r2,e2])
  ·exact xj (by rw [← q1,← r1,e1])
  ·exact xi (by rw [← r1,← q1,e1])
  ·exact hne (by rw [← q1,← r1,e1])
def zjA (L : List Ed) : List Ed:=L.mergeSort fun a b=>!decide (Bef b a)
theorem zfw (L : List Ed) : (zjA L).Perm L:=List.mergeSort_perm _ _
theorem zm1 {L : List Ed} (h : L.Pairwise zl2) : (zjA L).Pairwise Bef:=by
 have h1 : (zjA L).Pairwise fun a b=>(!decide (Bef b a))=true:=List.pairwise_mergeSort (fun a b c h1 h2=>by
  simp only [Bool.not_eq_true',decide_eq_false_iff_not] at *
  unfold Bef at *
  omega) (fun a b=>by
  simp only [Bool.or_eq_true,Bool.not_eq_true',decide_eq_false_iff_not]
  unfold Bef
  omega) L
 have h2 : (zjA L).Pairwise zl2:=((zfw L).pairwise_iff fun {a b} h=>fun e=>h ⟨e.1.symm,e.2.symm⟩).2 h
 refine (List.pairwise_and_iff.2 ⟨h1,h2⟩).imp fun {a b} h=>?_
 have ha:=h.1
 have hb:=h.2
 simp only [Bool.not_eq_true',decide_eq_false_iff_not] at ha
 unfold zl2 at hb
 unfold Bef at *
 omega
def za6 (g : Gr) (x : Int) (l : List Int) : Gr:=⟨g.size,zjA (g.edges++tieL x l),g.gone⟩
theorem zeS {e : Ed} : e∈(za6 g x l).edges↔e∈g.edges∨e∈tieL x l:=by
 unfold za6
 rw [(zfw _).mem_iff,List.mem_append]
theorem zrQ : (za6 g x l).edges.length=g.edges.length+(tieL x l).length:=by
 unfold za6
 rw [(zfw _).length_eq,List.length_append]
theorem zom (hg : GrOk g) (hf : zeD g p x l) (hx : 0≤x∧x<g.size) (hxg : x∉g.gone) (hl : g.edges.length+(tieL x l).length≤500) : GrOk (za6 g x l):=by
 have hxl : x∉l:=fun h=>hf.ne x h rfl
 refine GrOk.of hg.1.1 hg.1.2.1 (by have:=zrQ (g:=g) (x:=x) (l:=l); unfold za6 at this; simp only at this; omega) hg.1.2.2.2 (zm1 ?_) fun e he=>?_
 ·rw [List.pairwise_append]
  refine ⟨hg.pair.imp fun {a b} h=>?_,zoP hf.nodup hxl,fun a ha b hb=>?_⟩
  ·unfold Bef at h; unfold zl2; omega
  ·have h1:=(zlf hb).2
   rintro ⟨e1,e2⟩
   rcases h1 with ⟨_,h⟩ | ⟨_,h⟩ | ⟨h,_⟩
   ·exact (hf.edge _ h a ha).2 e2
   ·exact (hf.edge _ h a ha).1 e1
   ·exact (hf.edge _ h a ha).1 e1
 ·rcases (zeS (g:=g) (x:=x) (l:=l)).1 he with h | h
  ·exact ⟨hg.fits e h,hg.val e h⟩
  ·obtain ⟨hv,h⟩:=zlf h
   refine ⟨?_,by omega⟩
   unfold Fits
   rcases h with ⟨h1,h2⟩ | ⟨h1,h2⟩ | ⟨h1,h2⟩
   ·have r:=hf.rng _ h2
    have n:=hf.ne _ h2
    exact ⟨by omega,by simp only; omega,by omega,by simp only; omega,by omega,by rw [h1]; exact hxg,hf.gone _ h2⟩
   ·have r:=hf.rng _ h2
    have n:=hf.ne _ h2
    exact ⟨by omega,by simp only; omega,by omega,by simp only; omega,by omega,hf.gone _ h2,by rw [h1]; exact hxg⟩
   ·have r:=hf.rng _ h1
    have r2:=hf.rng _ h2
    refine ⟨by omega,by simp only; omega,by omega,by simp only; omega,?_,hf.gone _ h1,hf.gone _ h2⟩
    obtain ⟨i,hi,h⟩:=List.mem_flatMap.1 (by assumption : e∈tieL x l)
    have hi:=List.mem_range.1 hi
    unfold tieI at h
    simp only [List.cons_append,List.nil_append,List.mem_cons] at h
    rcases h with rfl | rfl | h
    ·exact fun e=>hxl ((show x=_ from e) ▸ zfn hi)
    ·exact fun e=>hxl ((show _=x from e) ▸ zfn hi)
    ·split at h
     ·rename_i h3
      rw [List.mem_singleton] at h
      subst h
      intro e
      have:=zrv hf.nodup hi (Nat.mod_lt _ (by omega)) e
      rcases Nat.lt_or_ge (i+1) l.length with h4 | h4
      ·rw [Nat.mod_eq_of_lt h4] at this; omega
      ·have h5 : i+1=l.length:=by omega
       rw [h5,Nat.mod_self] at this
       omega
     ·exact (List.not_mem_nil h).elim
structure ztg (G H : Gr) (S : List Int) (x : Int) (l : List Int) : Prop where
 size : H.size=G.size
 gone : H.gone=G.gone
 ne : x∉l
 seed : ∀ k∈l,zet G S k=false
 off : ∀ e∈G.edges,e.f∉l∧e.t∉l
 sub : ∀ e∈G.edges,e∈H.edges
 new : ∀ e∈H.edges,e∈G.edges∨(e.f=x∧e.t∈l)∨(e.t=x∧e.f∈l)∨(e.f∈l∧e.t∈l)
 has : ∀ k∈l,(⟨x,k,3⟩ : Ed)∈H.edges
theorem zwE (hf : zeD g p x l) {lv : Int} (h3 : lv≤3) : ztg (zaj g lv) (zaj (za6 g x l) lv) p.seeds x l:=by
 refine ⟨rfl,rfl,fun h=>hf.ne x h rfl,fun k hk=>?_,fun e he=>?_,fun e he=>?_,fun e he=>?_,fun k hk=>?_⟩
 ·unfold zet
  have : p.seeds.contains k=false:=by
   cases h : p.seeds.contains k with
   | false=>rfl
   | true=>exact absurd (List.contains_iff_mem.1 h) (hf.seed k hk)
  rw [this]
  rfl
 ·have:=(List.mem_filter.1 he).1
  exact ⟨fun h=>(hf.edge _ h e this).1 rfl,fun h=>(hf.edge _ h e this).2 rfl⟩
 ·have:=List.mem_filter.1 he
  exact List.mem_filter.2 ⟨zeS.2 (.inl this.1),this.2⟩
 ·have:=List.mem_filter.1 he
  rcases zeS.1 this.1 with h | h
  ·exact .inl (List.mem_filter.2 ⟨h,this.2⟩)
  ·exact .inr (zlf h).2
 ·exact List.mem_filter.2 ⟨zeS.2 (.inr (zqX hk)),by simp only [Bool.not_eq_true',decide_eq_false_iff_not]; omega⟩
theorem ztL {G H : Gr} {S : List Int} (h : ztg G H S x l) : ∀ n : Nat,(∀ k,k∉l→dl H S n k=dl G S n k)∧(∀ k,k∈l→dl H S n k=if 0≤dl G S n x∧dl G S n x<n then dl G S n x+1 else -1)
 | 0=>by
   have hs : ∀ k,zet H S k=zet G S k:=fun k=>by unfold zet; rw [h.gone]
   refine ⟨fun k _=>by rw [dl,dl,hs],fun k hk=>?_⟩
   rw [if_neg (by omega),dl,hs,h.seed k hk]
   rfl
 | n+1=>by
   obtain ⟨i1,i2⟩:=ztL h n
   have hrx:=zcn (g:=G) (S:=S) n x
   constructor
   ·intro k hk
    rw [dl,dl,i1 k hk]
    by_cases h2 : 0≤dl G S n k
    ·rw [if_pos h2,if_pos h2]
    ·rw [if_neg h2,if_neg h2]
     have e1 : H.edges.any (fun e=>decide (e.t=k) && decide (dl H S n e.f=n))=G.edges.any (fun e=>decide (e.t=k) && decide (dl G S n e.f=n)):=by
      rw [Bool.eq_iff_iff,List.any_eq_true,List.any_eq_true]
      constructor
      ·rintro ⟨e,he,h3⟩
       simp only [Bool.and_eq_true,decide_eq_true_eq] at h3
       rcases h.new e he with h4 | h4 | h4 | h4
       ·rw [i1 e.f (h.off e h4).1] at h3
        exact ⟨e,h4,by simp [h3.1,h3.2]⟩
       ·exact absurd (h3.1 ▸ h4.2) hk
       ·rw [i2 e.f h4.2] at h3
        split at h3
        ·rename_i h5
         rw [← h3.1,h4.1] at h2
         exact absurd h5.1 h2
        ·omega
       ·exact absurd (h3.1 ▸ h4.2) hk
      ·rintro ⟨e,he,h3⟩
       exact ⟨e,h.sub e he,by rw [i1 e.f (h.off e he).1]; exact h3⟩
     rw [e1]
   ·intro k hk
    rw [dl,i2 k hk]
    by_cases h5 : 0≤dl G S n x∧dl G S n x<n
    ·rw [if_pos h5,if_pos (by omega),zfW h5.1,if_pos (by omega)]
    ·rw [if_neg h5,if_neg (by omega)]
     by_cases h6 : dl G S n x=n
     ·rw [if_pos,zfW (by omega),if_pos (by omega),h6]
      rw [List.any_eq_true]
      exact ⟨_,h.has k hk,by simp [i1 x h.ne,h6]⟩
     ·have h7 : ¬ 0≤dl G S n x:=by omega
      rw [if_neg,if_neg]
      ·rw [dl,if_neg h7]
       split <;> omega
      ·rw [List.any_eq_true]
       rintro ⟨e,he,h3⟩
       simp only [Bool.and_eq_true,decide_eq_true_eq] at h3
       rcases h.new e he with h4 | h4 | h4 | h4
       ·exact (h.off e h4).2 (h3.1 ▸ hk)
       ·rw [h4.1,i1 x h.ne] at h3
        exact h6 h3.2
       ·exact h.ne (by rw [← h4.1,h3.1]; exact hk)
       ·rw [i2 e.f h4.1,if_neg h5] at h3
        omega
theorem ztd {G H : Gr} {S : List Int} (hG : GrOk G) (hx : Key G x) (h : ztg G H S x l) : (∀ k,k∉l→dist H S k=dist G S k)∧(∀ k,k∈l→dist H S k=if 0≤dist G S x then dist G S x+1 else -1):=by
 have h1:=ztL h G.size.toNat
 unfold dist
 rw [h.size]
 refine ⟨h1.1,fun k hk=>?_⟩
 rw [h1.2 k hk]
 have h2:=zqv hG (S:=S) hx
 have h3:=hx.1
 have h4:=hx.2
 unfold dist at h2
 by_cases h5 : 0≤dl G S G.size.toNat x
 ·rw [if_pos ⟨h5,by omega⟩,if_pos h5]
 ·rw [if_neg (fun h=>h5 h.1),if_neg h5]
variable {g : Gr} {p : Pol} {x : Int} {l : List Int}
open Classical in
theorem zrf {α : Type} (w : α→Int) (hw : ∀ x,0≤w x) : ∀ {s a : List α},s.Nodup→(∀ x∈s,x∈a)→(s.map w).sum≤(a.map w).sum
 | [],a,_,_=>by
   have : ∀ a : List α,0≤(a.map w).sum:=fun a=>by
    induction a with
    | nil=>exact Int.le_refl _
    | cons x a ih=>simp only [List.map_cons,List.sum_cons]; have:=hw x; omega
   exact this a
 | x::s,a,hn,h=>by
   rw [List.nodup_cons] at hn
   have h1:=List.perm_cons_erase (h x (List.mem_cons_self ..))
   have ih:=zrf w hw (s:=s) (a:=a.erase x) hn.2 fun y hy=>(List.mem_erase_of_ne (by rintro rfl; exact hn.1 hy)).2 (h y (List.mem_cons_of_mem _ hy))
   have h2 : (a.map w).sum=((x::a.erase x).map w).sum:=by
    have hp : ∀ {u v : List α},u.Perm v→(u.map w).sum=(v.map w).sum:=fun hp=>by
     induction hp with
     | nil=>rfl
     | cons x _ ih=>simp only [List.map_cons,List.sum_cons,ih]
     | swap x y l=>simp only [List.map_cons,List.sum_cons]; omega
     | trans _ _ ih1 ih2=>exact ih1.trans ih2
    exact hp h1
   rw [h2]
   simp only [List.map_cons,List.sum_cons]
   omega
structure zqT (h h' : Gr) (p : Pol) (x : Int) (T ks : List Int) : Prop where
 size : h.size=h'.size
 x0 : 0≤x
 ne : x∉T
 seed : ∀ k∈T,k∉p.seeds
 pos : ∀ k∈T,0≤k
 cap : ∀ k : Int,0≤k→k∉T→(zaz h p).getD k.toNat 0=(zaz h' p).getD k.toNat 0
 m1 : ∀ e∈(zaj h p.lv).edges,e.f∉T→e.t∉T→e∈(zaj h' p.lv).edges
 m2 : ∀ e∈(zaj h p.lv).edges,e.f∈T∨e.t∈T→(e.f=x∨e.f∈T)∧(e.t=x∨e.t∈T)
 m3 : ∀ k∈ks,k∈T→(⟨x,k,3⟩ : Ed)∈(zaj h' p.lv).edges∧0<(zaz h' p).getD x.toNat 0
def ze4 (C : Int→Bool) (x : Int) (T : List Int) (y : Int) : Bool :=
 if y=3+2*x ∨ ∃ t∈T,y=2+2*t∨y=3+2*t then C (3+2*x) && C (2+2*x) else C y
section
variable {C : Int→Bool} {T : List Int}
theorem zlJ {k : Int} (h : k∉T) : ze4 C x T (2+2*k)=C (2+2*k):=by
 unfold ze4
 rw [if_neg]
 rintro (h1 | ⟨t,ht,h1⟩)
 ·omega
 ·exact h (by have : k=t:=by omega
              rw [this]; exact ht)
theorem zrb {k : Int} (h : k∉T) (hx : k≠x) : ze4 C x T (3+2*k)=C (3+2*k):=by
 unfold ze4
 rw [if_neg]
 rintro (h1 | ⟨t,ht,h1⟩)
 ·omega
 ·exact h (by have : k=t:=by omega
              rw [this]; exact ht)
theorem ztH : ze4 C x T (3+2*x)=(C (3+2*x) && C (2+2*x)):=by unfold ze4; rw [if_pos (.inl rfl)]
theorem zp3 {k : Int} (h : k∈T) : ze4 C x T (2+2*k)=(C (3+2*x) && C (2+2*x)):=by unfold ze4; rw [if_pos (.inr ⟨k,h,.inl rfl⟩)]
theorem zs3 {k : Int} (h : k∈T) : ze4 C x T (3+2*k)=(C (3+2*x) && C (2+2*x)):=by unfold ze4; rw [if_pos (.inr ⟨k,h,.inr rfl⟩)]
theorem znx {y : Int} (h0 : 0≤x) (hp : ∀ k∈T,0≤k) (hy : y≤1) : ze4 C x T y=C y:=by
 unfold ze4
 rw [if_neg]
 rintro (h1 | ⟨t,ht,h1⟩)
 ·omega
 ·have:=hp t ht
  omega
end
open Classical in
theorem zuY {h h' : Gr} {T ks : List Int} (hg : GrOk h) (hp : zbl h.size p) (hR : zqT h h' p x T ks) (hn : ks.Nodup) (C : Int→Bool) :
  zoB h p (ze4 C x T)+zg0 (ze4 C x T) ks≤zoB h' p C+zg0 C ks:=by
 rw [zru,zru]
 have hlen : (zaz h p).length=(zaz h' p).length:=by rw [zce,zce,hR.size]
 have h0 : ze4 C x T 0=C 0:=znx hR.x0 hR.pos (by omega)
 have h1 : (p.seeds.map fun y=>if decide (0<(zaz h p).getD y.toNat 0)=true then (if ze4 C x T 0=true∧ze4 C x T (2+2*y)=false then (zaz h p).getD y.toNat 0 else 0) else 0).sum≤(p.seeds.map fun y=>if decide (0<(zaz h' p).getD y.toNat 0)=true then (if C 0=true∧C (2+2*y)=false then (zaz h' p).getD y.toNat 0 else 0) else 0).sum:=by
  refine zgz fun y hy=>?_
  have h2:=hp.2.1.nodup.2 y hy
  have h3 : y∉T:=fun h=>hR.seed y h hy
  rw [hR.cap y h2.1 h3,h0,zlJ h3]
  exact Int.le_refl _
 have h2 : ((List.range (zaz h p).length).map fun (i : Nat)=>if decide (0<(zaz h p).getD i 0)=true then (if ze4 C x T (2+2*(i : Int))=true∧ze4 C x T (3+2*(i : Int))=false then (zaz h p).getD i 0 - 1 else 0) else 0).sum≤((List.range (zaz h' p).length).map fun (i : Nat)=>if decide (0<(zaz h' p).getD i 0)=true then (if C (2+2*(i : Int))=true∧C (3+2*(i : Int))=false then (zaz h' p).getD i 0 - 1 else 0) else 0).sum:=by
  rw [hlen]
  refine zgz fun i _=>?_
  by_cases hi : (i : Int)∈T
  ·rw [zp3 hi,zs3 hi]
   have e : ¬ ((C (3+2*x) && C (2+2*x))=true∧(C (3+2*x) && C (2+2*x))=false):=fun h=>by rw [h.1] at h; exact absurd h.2 (by simp)
   rw [if_neg e,ite_self]
   split
   ·rename_i h
    have:=of_decide_eq_true h
    split <;> omega
   ·exact Int.le_refl _
  ·have:=hR.cap i (by omega) hi
   rw [Int.toNat_natCast] at this
   rw [this,zlJ hi]
   by_cases hx : (i : Int)=x
   ·rw [hx,ztH]
    split
    ·cases C (3+2*x) <;> cases C (2+2*x) <;> simp
    ·exact Int.le_refl _
   ·rw [zrb hi hx]
    exact Int.le_refl _
 obtain ⟨w,hw⟩ : ∃ w : Ed→Int,∀ e,w e=if decide (0<(zaz h' p).getD e.f.toNat 0)=true then (if C (3+2*e.f)=true∧C (2+2*e.t)=false then 64 else 0) else 0:=⟨_,fun _=>rfl⟩
 have hw0 : ∀ e,0≤w e:=fun e=>by
  rw [hw]
  split
  ·split <;> omega
  ·omega
 have h3 : ((zaj h p.lv).edges.map fun e=>if decide (0<(zaz h p).getD e.f.toNat 0)=true then (if ze4 C x T (3+2*e.f)=true∧ze4 C x T (2+2*e.t)=false then (64 : Int) else 0) else 0).sum≤(((zaj h p.lv).edges.filter fun e=>decide (e.f∉T∧e.t∉T)).map w).sum:=by
  rw [zc1]
  refine zgz fun e he=>?_
  have hf:=hg.fits e (List.mem_filter.1 he).1
  unfold Fits at hf
  by_cases hT : e.f∉T∧e.t∉T
  ·rw [if_pos (decide_eq_true hT),hw,hR.cap e.f hf.1 hT.1,zlJ hT.2]
   by_cases hx : e.f=x
   ·rw [hx,ztH]
    split
    ·cases C (3+2*x) <;> cases C (2+2*x) <;> cases C (2+2*e.t) <;> simp
    ·exact Int.le_refl _
   ·rw [zrb hT.1 hx]
    exact Int.le_refl _
  ·rw [show (if decide (e.f∉T∧e.t∉T)=true then w e else 0)=0 from if_neg (by rw [decide_eq_false hT]; simp)]
   have hT' : e.f∈T∨e.t∈T:=by
    by_cases h4 : e.f∈T
    ·exact .inl h4
    ·exact .inr (Classical.byContradiction fun h5=>hT ⟨h4,h5⟩)
   obtain ⟨m1,m2⟩:=hR.m2 e he hT'
   have ef : ze4 C x T (3+2*e.f)=(C (3+2*x) && C (2+2*x)):=m1.elim (fun h=>by rw [h]; exact ztH) zs3
   have et : ze4 C x T (3+2*e.f)=true→ze4 C x T (2+2*e.t)=true:=fun h=>by
    rw [ef] at h
    rcases m2 with h6 | h6
    ·rw [h6,zlJ hR.ne]
     simp only [Bool.and_eq_true] at h
     exact h.2
    ·rw [zp3 h6]
     exact h
   split
   ·rw [if_neg]
    ·exact Int.le_refl _
    ·rintro ⟨a,b⟩
     rw [et a] at b
     cases b
   ·exact Int.le_refl _
 have h4 : zg0 (ze4 C x T) ks≤zg0 C ks+(((ks.filter fun k=>decide (k∈T)).map fun k=>(⟨x,k,3⟩ : Ed)).map w).sum:=by
  rw [List.map_map,zc1]
  unfold zg0
  rw [← ziL]
  refine zgz fun k hk=>?_
  by_cases hT : k∈T
  ·rw [if_pos (decide_eq_true hT),zp3 hT]
   have h5:=(hR.m3 k hk hT).2
   simp only [Function.comp]
   rw [hw]
   simp only [h5,decide_true,if_true]
   cases C (3+2*x) <;> cases C (2+2*x) <;> cases C (2+2*k) <;> simp
  ·rw [zlJ hT,decide_eq_false hT]
   simp
 have h5 : ((((zaj h p.lv).edges.filter fun e=>decide (e.f∉T∧e.t∉T))++(ks.filter fun k=>decide (k∈T)).map fun k=>(⟨x,k,3⟩ : Ed)).map w).sum≤((zaj h' p.lv).edges.map w).sum:=by
  refine zrf w hw0 ?_ fun e he=>?_
  ·rw [List.nodup_append]
   refine ⟨((hg.level p.lv).nodup).filter _,?_,fun a ha b hb=>?_⟩
   ·refine List.pairwise_map.2 ((hn.filter _).imp fun {a b} h e=>h ?_)
    injection e
   ·rintro rfl
    have h6:=of_decide_eq_true (List.mem_filter.1 ha).2
    obtain ⟨k,hk,rfl⟩:=List.mem_map.1 hb
    exact h6.2 (of_decide_eq_true (List.mem_filter.1 hk).2)
  ·rcases List.mem_append.1 he with h6 | h6
   ·have h7:=List.mem_filter.1 h6
    have h8:=of_decide_eq_true h7.2
    exact hR.m1 e h7.1 h8.1 h8.2
   ·obtain ⟨k,hk,rfl⟩:=List.mem_map.1 h6
    have h7:=List.mem_filter.1 hk
    exact (hR.m3 k h7.1 (of_decide_eq_true h7.2)).1
 rw [List.map_append,List.sum_append] at h5
 have h6 : ((zaj h' p.lv).edges.map w).sum=((zaj h' p.lv).edges.map fun e=>if decide (0<(zaz h' p).getD e.f.toNat 0)=true then (if C (3+2*e.f)=true∧C (2+2*e.t)=false then (64 : Int) else 0) else 0).sum:=by
  congr 1
  exact List.map_congr_left fun e _=>hw e
 omega
theorem zvl {h h' : Gr} {T ks : List Int} (hg : GrOk h) (hg' : GrOk h') (hp : zbl h.size p) (hR : zqT h h' p x T ks) (hn : ks.Nodup) (hk : zb4 h p ks) (hk' : zb4 h' p ks) (hc : zap h p ks) : zap h' p ks:=by
 rw [zdk hg hp hk] at hc
 rw [zdk hg' (by rw [← hR.size]; exact hp) hk']
 intro C c0 c1
 have h1:=hc (ze4 C x T) (by rw [znx hR.x0 hR.pos (by omega)]; exact c0) (by rw [znx hR.x0 hR.pos (by omega)]; exact c1)
 have h2:=zuY hg hp hR hn C
 omega
theorem zj7 {g' : Gr} {o' : List Int} (h : ∀ ks : List Int,ks.Nodup→(∀ x∈ks,x∈o')→(zap g p ks↔zap g' p ks)) : ∀ (n : Nat) (o : List Int),o.length=n→(∀ x∈o,x∈o')→accR g p o=accR g' p o
 | 0,o,hn,_=>by
   obtain rfl:=List.eq_nil_of_length_eq_zero hn
   rfl
 | n+1,o,hn,ho=>by
   have hne : o≠[]:=fun e=>by rw [e] at hn; cases hn
   rw [← List.dropLast_concat_getLast hne]
   have ih:=zj7 h n o.dropLast (by rw [List.length_dropLast,hn]; rfl) fun x hx=>ho x (List.dropLast_subset _ hx)
   have hsub : ∀ x∈za0 (accR g p o.dropLast++[o.getLast hne]),x∈o':=fun x hx=>by
    rcases List.mem_append.1 (zgw.1 hx).1 with h1 | h1
    ·exact ho x (List.dropLast_subset _ (zfs h1))
    ·rw [List.mem_singleton] at h1
     rw [h1]
     exact ho _ (List.getLast_mem hne)
   have hnd : (za0 (accR g p o.dropLast++[o.getLast hne])).Nodup:=zdG (zi6 _)
   by_cases hc : zap g p (za0 (accR g p o.dropLast++[o.getLast hne]))
   ·rw [zcG hc,zcG (by rw [← ih]; exact (h _ hnd hsub).1 hc),ih]
   ·rw [zhz hc,zhz (by rw [← ih]; exact fun h1=>hc ((h _ hnd hsub).2 h1)),ih]
variable {g : Gr} {p : Pol} {x : Int} {l l1 l2 T : List Int}
theorem zo0 {n : Int} (hp : zbl n p) : p.lv≤3:=hp.2.2.2.2.2.1
theorem zmg (hg : GrOk g) (hf : zeD g p x l) {k : Int} (hk : k∈l) : dist (zaj g p.lv) p.seeds k = -1:=by
 have hG:=hg.level p.lv
 have hr:=zki (g:=zaj g p.lv) (S:=p.seeds) k
 refine Classical.byContradiction fun hne=>?_
 obtain ⟨n,hn⟩ : ∃ n : Nat,dist (zaj g p.lv) p.seeds k=n:=⟨(dist (zaj g p.lv) p.seeds k).toNat,by omega⟩
 cases n with
 | zero =>
   have h1:=(zuc hG).1 (by rw [hn]; rfl)
   unfold zet at h1
   simp only [Bool.and_eq_true] at h1
   exact hf.seed k hk (List.contains_iff_mem.1 h1.1)
 | succ n =>
   obtain ⟨e,he,ht,_⟩:=zs7 hG (k:=k) (n:=n) (by rw [hn]; omega)
   exact (hf.edge k hk e (List.mem_filter.1 he).1).2 ht
theorem zhW (hg : GrOk g) (hp : zbl g.size p) (hx : Key g x) (hf : zeD g p x l) :
  (∀ k,k∉l→dist (zaj (za6 g x l) p.lv) p.seeds k=dist (zaj g p.lv) p.seeds k) ∧
  (∀ k,k∈l→dist (zaj (za6 g x l) p.lv) p.seeds k=if 0≤dist (zaj g p.lv) p.seeds x then dist (zaj g p.lv) p.seeds x+1 else -1) :=
 ztd (hg.level p.lv) (show Key (zaj g p.lv) x from hx) (zwE hf (zo0 hp))
theorem zmu (hg : GrOk g) (hp : zbl g.size p) (hx : Key g x) (hf : zeD g p x l) :
  (∀ k : Int,0≤k→k∉l→(zaz (za6 g x l) p).getD k.toNat 0=(zaz g p).getD k.toNat 0) ∧
  (∀ k : Int,k∈l→0<(zaz (za6 g x l) p).getD k.toNat 0→0≤dist (zaj g p.lv) p.seeds x):=by
 have hd:=zhW hg hp hx hf
 constructor
 ·intro k h0 hk
  by_cases h1 : k<g.size
  ·rw [zjo h0 (show k<(za6 g x l).size from h1),zjo h0 h1,hd.1 k hk]
  ·rw [zmq (show (za6 g x l).size≤k by show g.size≤k; omega),zmq (by omega)]
 ·intro k hk h
  have hr:=hf.rng k hk
  rw [zjo hr.1 (show k<(za6 g x l).size from hr.2),hd.2 k hk] at h
  refine Classical.byContradiction fun hn=>?_
  rw [if_neg hn] at h
  have:=zhH (p:=p) (d:=-1) (by omega)
  omega
theorem zvb (hg : GrOk g) (hp : zbl g.size p) (hx : Key g x) (h1 : zeD g p x l1) (h2 : zeD g p x l2) (hT : zeD g p x T) (s1 : ∀ k∈l1,k∈T) (s2 : ∀ k∈l2,k∈T)
  {ks : List Int} (hks : ∀ k∈ks,k∈T→k∈l2) (hk : zb4 (za6 g x l2) p ks) : zqT (za6 g x l1) (za6 g x l2) p x T ks:=by
 have c1:=zmu hg hp hx h1
 have c2:=zmu hg hp hx h2
 have hxT : x∉T:=fun h=>hT.ne x h rfl
 have hl3:=zo0 hp
 refine ⟨rfl,hx.1,hxT,hT.seed,fun k hk=>(hT.rng k hk).1,fun k h0 hk=>?_,fun e he hf ht=>?_,fun e he h=>?_,fun k hkk hkT=>?_⟩
 ·rw [c1.1 k h0 fun h=>hk (s1 k h),c2.1 k h0 fun h=>hk (s2 k h)]
 ·have hm:=List.mem_filter.1 he
  refine List.mem_filter.2 ⟨zeS.2 ?_,hm.2⟩
  rcases zeS.1 hm.1 with h | h
  ·exact .inl h
  ·rcases (zlf h).2 with ⟨_,h⟩ | ⟨_,h⟩ | ⟨h,_⟩
   ·exact absurd (s1 _ h) ht
   ·exact absurd (s1 _ h) hf
   ·exact absurd (s1 _ h) hf
 ·have hm:=List.mem_filter.1 he
  rcases zeS.1 hm.1 with h' | h'
  ·rcases h with h | h
   ·exact absurd rfl (hT.edge _ h e h').1
   ·exact absurd rfl (hT.edge _ h e h').2
  ·rcases (zlf h').2 with ⟨a,b⟩ | ⟨a,b⟩ | ⟨a,b⟩
   ·exact ⟨.inl a,.inr (s1 _ b)⟩
   ·exact ⟨.inr (s1 _ b),.inl a⟩
   ·exact ⟨.inr (s1 _ a),.inr (s1 _ b)⟩
 ·have hk2:=hks k hkk hkT
  have hd:=c2.2 k hk2 (hk.reach k hkk)
  refine ⟨List.mem_filter.2 ⟨zeS.2 (.inr (zqX hk2)),by simp only [Bool.not_eq_true',decide_eq_false_iff_not]; omega⟩,?_⟩
  rw [c2.1 x hx.1 fun h=>h2.ne x h rfl]
  exact (zib hp hx.1).2 ⟨hx.2,hd⟩
theorem zjO (hg : GrOk g) (hp : zbl g.size p) (hx : Key g x) (g1 : GrOk (za6 g x l1)) (g2 : GrOk (za6 g x l2)) (h1 : zeD g p x l1) (h2 : zeD g p x l2) (hT : zeD g p x T) (s1 : ∀ k∈l1,k∈T) (s2 : ∀ k∈l2,k∈T)
  {ks : List Int} (hn : ks.Nodup) (hks : ∀ k∈ks,k∈T→k∈l2) (k1 : zb4 (za6 g x l1) p ks) (k2 : zb4 (za6 g x l2) p ks) (hc : zap (za6 g x l1) p ks) : zap (za6 g x l2) p ks :=
 zvl g1 g2 (show zbl g.size p from hp) (zvb hg hp hx h1 h2 hT s1 s2 hks k2) hn k1 k2 hc
theorem zvT (hg : GrOk g) : za6 g x []=g:=by
 have h : zjA (g.edges++tieL x [])=g.edges:=by
  show (g.edges++[]).mergeSort _=g.edges
  rw [List.append_nil]
  refine List.mergeSort_of_pairwise (hg.pair.imp fun {a b} h=>?_)
  have:=h.asymm
  simp [this]
 unfold za6
 rw [h]
abbrev ordR (g : Gr) (p : Pol) (x : Int) (l : List Int) : List Int:=ordL (zaj (za6 g x l) p.lv) p.seeds
theorem zod (hg : GrOk g) (hp : zbl g.size p) (hx : Key g x) (hf : zeD g p x l) (hr : GrOk (za6 g x l)) {k : Int} : k∈ordR g p x l↔Key g k∧0≤dist (zaj g p.lv) p.seeds (if k∈l then x else k):=by
 have hd:=zhW hg hp hx hf
 rw [zjI (hr.level p.lv)]
 have e : Key (zaj (za6 g x l) p.lv) k↔Key g k:=Iff.rfl
 rw [e]
 by_cases hk : k∈l
 ·rw [if_pos hk,hd.2 k hk]
  constructor
  ·rintro ⟨a,b⟩
   refine ⟨a,?_⟩
   split at b
   ·assumption
   ·omega
  ·rintro ⟨a,b⟩
   rw [if_pos b]
   exact ⟨a,by omega⟩
 ·rw [if_neg hk,hd.1 k hk]
theorem zn3 (hg : GrOk g) (hp : zbl g.size p) (hx : Key g x) (hf : zeD g p x l) (hr : GrOk (za6 g x l)) (hd : dist (zaj g p.lv) p.seeds x<0) :
  ordR g p x l=ordL (zaj g p.lv) p.seeds∧accR (za6 g x l) p (ordR g p x l)=accR g p (ordL (zaj g p.lv) p.seeds):=by
 have hdd:=zhW hg hp hx hf
 have ho : ordR g p x l=ordL (zaj g p.lv) p.seeds:=by
  refine zm3 (g:=zaj (za6 g x l) p.lv) (g':=zaj g p.lv) rfl (fun k=>?_) _
  by_cases hk : k∈l
  ·rw [hdd.2 k hk,if_neg (by omega),zmg hg hf hk]
  ·exact hdd.1 k hk
 refine ⟨ho,?_⟩
 rw [ho]
 have hno : ∀ k∈l,k∉ordL (zaj g p.lv) p.seeds:=fun k hk h=>by
  have:=((zjI (hg.level p.lv)).1 h).2
  rw [zmg hg hf hk] at this
  omega
 have h0 : zeD g p x []:=⟨by simp,by simp,by simp,by simp,by simp,.nil⟩
 have e0 : za6 g x []=g:=zvT hg
 refine zj7 (o':=ordL (zaj g p.lv) p.seeds) (fun ks hn hks=>?_) _ _ rfl fun _ h=>h
 have k1 : zb4 (za6 g x l) p ks:=zfv hr hp fun k hk=>by rw [show ordL (zaj (za6 g x l) p.lv) p.seeds=ordL (zaj g p.lv) p.seeds from ho]; exact hks k hk
 have k2 : zb4 g p ks:=zfv hg hp hks
 constructor
 ·intro h
  have:=zjO (l2:=[]) (T:=l) hg hp hx hr (by rw [e0]; exact hg) hf h0 hf (fun _ h=>h) (by simp) hn (fun k hk hkl=>absurd (hks k hk) (hno k hkl)) k1 (by rw [e0]; exact k2) h
  rwa [e0] at this
 ·intro h
  exact zjO (l1:=[]) (T:=l) hg hp hx (by rw [e0]; exact hg) hr h0 hf hf (by simp) (fun _ h=>h) hn (fun k hk hkl=>absurd (hks k hk) (hno k hkl)) (by rw [e0]; exact k2) k1 (by rw [e0]; exact h)
theorem zoQ {h h' : Gr} {S : List Int} {a : Int} (hz : h'.size=h.size) (h1 : dist h' S a = -1) (h2 : ∀ k,k≠a→dist h' S k=dist h S k) : ∀ m,ordN h' S m=(ordN h S m).filter fun x=>!decide (x=a)
 | 0=>rfl
 | m+1=>by
   rw [ordN,ordN,zoQ hz h1 h2 m,List.filter_append,hz]
   congr 1
   unfold zbp
   rw [List.filter_filter]
   refine List.filter_congr fun x _=>?_
   by_cases hx : x=a
   ·subst hx
    rw [h1]
    simp
   ·rw [h2 x hx]
    simp [hx]
noncomputable def inN (g : Gr) (p : Pol) (x : Int) (l : List Int) : Nat:=((accR (za6 g x l) p (ordR g p x l)).filter fun k=>decide (k∈l)).length
theorem zkA (hg : GrOk g) (hp : zbl g.size p) (hx : Key g x) (hf : zeD g p x l) (hr : GrOk (za6 g x l)) (hd : dist (zaj g p.lv) p.seeds x<0) : inN g p x l=0:=by
 unfold inN
 rw [List.length_eq_zero_iff,List.filter_eq_nil_iff]
 intro k hk hkl
 have h1:=(zod hg hp hx hf hr).1 (zfs hk)
 rw [if_pos (of_decide_eq_true hkl)] at h1
 omega
theorem zw6 (hg : GrOk g) (hp : zbl g.size p) (hx : Key g x) {a : Int} (hf : zeD g p x (l++[a])) (g1 : GrOk (za6 g x l)) (g2 : GrOk (za6 g x (l++[a]))) : inN g p x l≤inN g p x (l++[a]):=by
 have hpa:=List.pairwise_append.1 hf.pair
 have hf1 : zeD g p x l:=⟨fun k h=>hf.rng k (List.mem_append_left _ h),fun k h=>hf.ne k (List.mem_append_left _ h),fun k h=>hf.edge k (List.mem_append_left _ h),fun k h=>hf.gone k (List.mem_append_left _ h),fun k h=>hf.seed k (List.mem_append_left _ h),hpa.1⟩
 have hla : ∀ k∈l,k<a:=fun k h=>hpa.2.2 k h a (by simp)
 have hal : a∉l:=fun h=>by have:=hla a h; omega
 by_cases hd : dist (zaj g p.lv) p.seeds x<0
 ·rw [zkA hg hp hx hf1 g1 hd]
  exact Nat.zero_le _
 have d1:=zhW hg hp hx hf1
 have d2:=zhW hg hp hx hf
 have ham : a∈l++[a]:=by simp
 have hdrop : ordR g p x l=(ordR g p x (l++[a])).filter fun y=>!decide (y=a):=by
  refine zoQ (h:=zaj (za6 g x (l++[a])) p.lv) (h':=zaj (za6 g x l) p.lv) rfl ?_ (fun k hk=>?_) _
  ·rw [d1.1 a hal,zmg hg hf ham]
  ·by_cases hkl : k∈l
   ·rw [d1.2 k hkl,d2.2 k (List.mem_append_left _ hkl)]
   ·rw [d1.1 k hkl,d2.1 k fun h=>by
     rcases List.mem_append.1 h with h | h
     ·exact hkl h
     ·exact hk (List.mem_singleton.1 h)]
 have hao : a∈ordR g p x (l++[a]):=(zod hg hp hx hf g2).2 ⟨⟨(hf.rng a ham).1,(hf.rng a ham).2⟩,by rw [if_pos ham]; omega⟩
 obtain ⟨A,B,hAB⟩:=List.append_of_mem hao
 have hnd : (A++a::B).Nodup:=by rw [← hAB]; exact zct _ _
 have hnd2:=List.nodup_append.1 hnd
 have haA : a∉A:=fun h=>hnd2.2.2 a h a (by simp) rfl
 have haB : a∉B:=(List.nodup_cons.1 hnd2.2.1).1
 have hflt : ∀ M : List Int,a∉M→M.filter (fun y=>!decide (y=a))=M:=fun M h=>List.filter_eq_self.2 fun y hy=>by
  have : y≠a:=fun e=>h (e ▸ hy)
  simp [this]
 have ho1 : ordR g p x l=A++B:=by
  rw [hdrop,hAB,List.filter_append,hflt A haA,List.filter_cons]
  simp [hflt B haB]
 have hlA : ∀ k∈l,k∈A:=fun k hk=>by
  have h1 : k∈ordR g p x (l++[a]):=(zod hg hp hx hf g2).2 ⟨⟨(hf1.rng k hk).1,(hf1.rng k hk).2⟩,by rw [if_pos (List.mem_append_left _ hk)]; omega⟩
  rw [hAB] at h1
  rcases List.mem_append.1 h1 with h | h
  ·exact h
  ·rcases List.mem_cons.1 h with h | h
   ·have:=hla k hk; omega
   ·have hp2 : (A++a::B).Pairwise (Lt (zaj (za6 g x (l++[a])) p.lv) p.seeds):=by rw [← hAB]; exact zms _
    have h2:=(List.pairwise_cons.1 (List.pairwise_append.1 hp2).2.1).1 k h
    unfold Lt at h2
    rw [d2.2 a ham,d2.2 k (List.mem_append_left _ hk)] at h2
    have:=hla k hk
    omega
 have hlB : ∀ k∈l,k∉B:=fun k hk h=>hnd2.2.2 k (hlA k hk) k (List.mem_cons_of_mem _ h) rfl
 have hs2 : ∀ k∈l,k∈l++[a]:=fun k h=>List.mem_append_left _ h
 have hacc : accR (za6 g x l) p A=accR (za6 g x (l++[a])) p A:=by
  refine zj7 (o':=A) (fun ks hn hks=>?_) _ _ rfl fun _ h=>h
  have k1 : zb4 (za6 g x l) p ks:=zfv g1 hp fun k hk=>by
   show k∈ordR g p x l
   rw [ho1]; exact List.mem_append_left _ (hks k hk)
  have k2 : zb4 (za6 g x (l++[a])) p ks:=zfv g2 hp fun k hk=>by
   show k∈ordR g p x (l++[a])
   rw [hAB]; exact List.mem_append_left _ (hks k hk)
  constructor
  ·exact zjO hg hp hx g1 g2 hf1 hf hf hs2 (fun _ h=>h) hn (fun _ _ h=>h) k1 k2
  ·exact zjO hg hp hx g2 g1 hf hf1 hf (fun _ h=>h) hs2 hn (fun k hk h=>by
    rcases List.mem_append.1 h with h | h
    ·exact h
    ·exact absurd (List.mem_singleton.1 h ▸ hks k hk) haA) k2 k1
 obtain ⟨t1,e1,m1⟩:=zi9 (g:=za6 g x l) (p:=p) B A
 obtain ⟨t2,e2,m2⟩:=zi9 (g:=za6 g x (l++[a])) (p:=p) (a::B) A
 unfold inN
 rw [ho1,hAB,e1,e2,← hacc,List.filter_append,List.filter_append,List.length_append,List.length_append]
 have hz : t1.filter (fun k=>decide (k∈l))=[]:=List.filter_eq_nil_iff.2 fun k hk h=>hlB k (of_decide_eq_true h) (m1 k hk)
 rw [hz,List.length_nil]
 have hm : ((accR (za6 g x l) p A).filter fun k=>decide (k∈l)).length≤((accR (za6 g x l) p A).filter fun k=>decide (k∈l++[a])).length:=by
  rw [← List.countP_eq_length_filter,← List.countP_eq_length_filter]
  exact List.countP_mono_left fun k _ h=>decide_eq_true (hs2 k (of_decide_eq_true h))
 omega
theorem zrr (hg : GrOk g) (hp : zbl g.size p) (hs : p.seeds.length≤64) (hx : Key g x) (hf : zeD g p x l) (hr : GrOk (za6 g x l)) : (inN g p x l : Int)≤max 0 ((zaz g p).getD x.toNat 0 - 1):=by
 have hc:=zmu hg hp hx hf
 have hxl : x∉l:=fun h=>hf.ne x h rfl
 have hok : zb4 (za6 g x l) p (accR (za6 g x l) p (ordR g p x l)):=zfv hr hp fun k hk=>zfs hk
 have h1:=zuf hr (show zbl g.size p from hp) hok ((zt6 hr (show zbl g.size p from hp) hs _ _ rfl (zct _ _) (zfv hr hp fun k hk=>hk)).1.perm hr hp hok.join (zmv ((zct _ _).sublist (zf2 _ _ rfl)) (h64 hr hok.rng)).symm) l
 have hfil : ((accR (za6 g x l) p (ordR g p x l)).filter fun x=>l.contains x).length=inN g p x l:=by
  unfold inN
  congr 1
  exact List.filter_congr fun k _=>by simp
 rw [hfil] at h1
 have hk0 : ∀ k : Nat,(k : Int)≠x→totK (za6 g x l) p l k=0:=fun k hk=>by
  unfold totK
  by_cases hkl : (k : Int)∈l
  ·have e1 : l.contains (k : Int)=true:=List.contains_iff_mem.2 hkl
   have e2 : p.seeds.contains (k : Int)=false:=by
    cases h : p.seeds.contains (k : Int) with
    | false=>rfl
    | true=>exact absurd (List.contains_iff_mem.1 h) (hf.seed _ hkl)
   rw [e1,e2]
   simp
  ·have e1 : l.contains (k : Int)=false:=by
    cases h : l.contains (k : Int) with
    | false=>rfl
    | true=>exact absurd (List.contains_iff_mem.1 h) hkl
   have e2 : decv (za6 g x l) p l k=false:=by
    unfold decv
    rw [List.any_eq_false]
    intro e he
    unfold zwU
    simp only [Bool.and_eq_true,decide_eq_true_eq,not_and]
    intro hef _ hct
    have het:=List.contains_iff_mem.1 hct
    rcases zeS.1 he with h | h
    ·exact (hf.edge _ het e h).2 rfl
    ·rcases (zlf h).2 with ⟨a,_⟩ | ⟨a,_⟩ | ⟨a,_⟩
     ·exact hk (by rw [← hef,a])
     ·exact hxl (a ▸ het)
     ·exact hkl (hef ▸ a)
   rw [e1,e2]
   simp
 have hkx : totK (za6 g x l) p l x≤max 0 ((zaz g p).getD x.toNat 0 - 1):=by
  unfold totK
  have e1 : l.contains x=false:=by
   cases h : l.contains x with
   | false=>rfl
   | true=>exact absurd (List.contains_iff_mem.1 h) hxl
  rw [e1,hc.1 x hx.1 hxl]
  simp only [Bool.false_and,Bool.false_eq_true,if_false]
  split <;> omega
 have hsum : ∀ n : Nat,totB (za6 g x l) p l n≤max 0 ((zaz g p).getD x.toNat 0 - 1)∧((n : Int)≤x→totB (za6 g x l) p l n≤0):=by
  intro n
  induction n with
  | zero=>exact ⟨by show (0 : Int)≤_; omega,fun _=>Int.le_refl _⟩
  | succ n ih =>
    rw [zuq]
    by_cases hn : (n : Int)=x
    ·rw [hn]
     exact ⟨by have:=ih.2 (by omega); omega,fun h=>by omega⟩
    ·rw [hk0 n hn]
     exact ⟨by omega,fun h=>by have:=ih.2 (by omega); omega⟩
 have:=(hsum (za6 g x l).size.toNat).1
 omega
theorem zxm {a b : List Int} (ha : a.Nodup) (hb : b.Nodup) : (a.filter fun k=>decide (k∈b)).length=(b.filter fun k=>decide (k∈a)).length:=by
 refine List.Perm.length_eq ((List.perm_ext_iff_of_nodup (ha.filter _) (hb.filter _)).2 fun k=>?_)
 simp only [List.mem_filter,decide_eq_true_eq]
 exact And.comm
theorem zpG (n : Nat) (q : Int→Bool) : (zbp n q).Nodup:=zdG (zg1 n q)
theorem zwB {a b : List Int} {n : Nat} (ha : a.Nodup) (hr : ∀ k∈a,0≤k∧k<n) : (zbp n fun k=>decide (k∈a) && decide (k∈b)).length=(a.filter fun k=>decide (k∈b)).length:=by
 refine List.Perm.length_eq ((List.perm_ext_iff_of_nodup (zpG _ _) (ha.filter _)).2 fun k=>?_)
 simp only [zc3,List.mem_filter,Bool.and_eq_true,decide_eq_true_eq]
 exact ⟨fun h=>h.2,fun h=>⟨hr k h.1,h⟩⟩
end Go.Proofs.YtkngdgplbojdlaaGreat
namespace Go.Proofs
open Go.Shelf
def Tryz.sortEd_ren : Go.Shelf.Ren:=⟨fun | 6=>55 | 15=>113 | 14=>112 | 28=>154 | 29=>155 | 20=>146 | 21=>147 | 22=>148 | 23=>149 | 24=>150 | 25=>151 | 26=>152 | 27=>153 | 46=>180 | 47=>181 | 48=>182 | 49=>183 | 50=>184 | 57=>203 | n=>n,fun | 22=>28 | 24=>72 | 25=>84 | 3=>3 | 39=>134 | 0=>0 | 53=>175 | 55=>158 | 4=>4 | 46=>169 | 45=>168 | 50=>100 | 5=>5 | 9=>9 | 66=>198 | 70=>202 | 76=>214 | 77=>183 | n=>n,fun | n=>n⟩
theorem Tryz.sortEd : Go.Proofs.SlLaysF0.n6 Tryz.prog Tryz.sortEd_ren:={
 mixed:=by kernel_rfl
 f6:=⟨Tryz.f55.name,by decide,Tryz.func55.trans (congrArg some (by kernel_rfl))⟩
 f14:=⟨Tryz.f112.name,by decide,Tryz.func112.trans (congrArg some (by kernel_rfl))⟩
 f15:=Tryz.func113.trans (congrArg some (by kernel_rfl))
 f20:=⟨Tryz.f146.name,by decide,Tryz.func146.trans (congrArg some (by kernel_rfl))⟩
 f21:=⟨Tryz.f147.name,by decide,Tryz.func147.trans (congrArg some (by kernel_rfl))⟩
 f22:=⟨Tryz.f148.name,by decide,Tryz.func148.trans (congrArg some (by kernel_rfl))⟩
 f23:=⟨Tryz.f149.name,by decide,Tryz.func149.trans (congrArg some (by kernel_rfl))⟩
 f24:=⟨Tryz.f150.name,by decide,Tryz.func150.trans (congrArg some (by kernel_rfl))⟩
 f25:=⟨Tryz.f151.name,by decide,Tryz.func151.trans (congrArg some (by kernel_rfl))⟩
 f26:=⟨Tryz.f152.name,by decide,Tryz.func152.trans (congrArg some (by kernel_rfl))⟩
 f27:=⟨Tryz.f153.name,by decide,Tryz.func153.trans (congrArg some (by kernel_rfl))⟩
 f28:=Tryz.func154.trans (congrArg some (by kernel_rfl))
 f29:=Tryz.func155.trans (congrArg some (by kernel_rfl))
 f46:=⟨Tryz.f180.name,by decide,Tryz.func180.trans (congrArg some (by kernel_rfl))⟩
 f47:=Tryz.func181.trans (congrArg some (by kernel_rfl))
 f48:=Tryz.func182.trans (congrArg some (by kernel_rfl))
 f49:=⟨Tryz.f183.name,by decide,Tryz.func183.trans (congrArg some (by kernel_rfl))⟩
 f50:=⟨Tryz.f184.name,by decide,Tryz.func184.trans (congrArg some (by kernel_rfl))⟩
 f57:=⟨Tryz.f203.name,by decide,Tryz.func203.trans (congrArg some (by kernel_rfl))⟩
 t0:=Tryz.underlying0
 a0:=Tryz.isAgg0
 z0:=Tryz.sizeOf0
 v0:=Tryz.zeroValue0
 t3:=Tryz.underlying3
 a3:=Tryz.isAgg3
 z3:=Tryz.sizeOf3
 v3:=Tryz.zeroValue3
 t4:=Tryz.underlying4
 a4:=Tryz.isAgg4
 z4:=Tryz.sizeOf4
 v4:=Tryz.zeroValue4
 t5:=Tryz.underlying5
 a5:=Tryz.isAgg5
 z5:=Tryz.sizeOf5
 v5:=Tryz.zeroValue5
 t9:=Tryz.underlying9
 a9:=Tryz.isAgg9
 z9:=Tryz.sizeOf9
 v9:=Tryz.zeroValue9
 t22:=Tryz.underlying28
 a22:=Tryz.isAgg28
 z22:=Tryz.sizeOf28
 v22:=Tryz.zeroValue28
 t25:=Tryz.underlying84
 a25:=Tryz.isAgg84
 z25:=Tryz.sizeOf84
 v25:=Tryz.zeroValue84
 t39:=Tryz.underlying134
 a39:=Tryz.isAgg134
 z39:=Tryz.sizeOf134
 v39:=Tryz.zeroValue134
 t45:=Tryz.underlying168
 a45:=Tryz.isAgg168
 z45:=Tryz.sizeOf168
 v45:=Tryz.zeroValue168
 t46:=Tryz.underlying169
 a46:=Tryz.isAgg169
 z46:=Tryz.sizeOf169
 v46:=Tryz.zeroValue169
 t50:=Tryz.underlying100
 a50:=Tryz.isAgg100
 z50:=Tryz.sizeOf100
 v50:=Tryz.zeroValue100
 t53:=Tryz.underlying175
 a53:=Tryz.isAgg175
 z53:=Tryz.sizeOf175
 v53:=Tryz.zeroValue175
 t55:=Tryz.underlying158
 a55:=Tryz.isAgg158
 z55:=Tryz.sizeOf158
 v55:=Tryz.zeroValue158
 t66:=Tryz.underlying198
 a66:=Tryz.isAgg198
 z66:=Tryz.sizeOf198
 v66:=Tryz.zeroValue198
 t70:=Tryz.underlying202
 a70:=Tryz.isAgg202
 z70:=Tryz.sizeOf202
 v70:=Tryz.zeroValue202
 t76:=Tryz.underlying214
 a76:=Tryz.isAgg214
 z76:=Tryz.sizeOf214
 v76:=Tryz.zeroValue214
 t77:=Tryz.underlying183
 a77:=Tryz.isAgg183
 z77:=Tryz.sizeOf183
 v77:=Tryz.zeroValue183 }
end Go.Proofs
namespace Go.Proofs.YtkngdgplbojdlaaGreat
open Go Go.Shelf Go.RowKit Go.Lib Go.Sort Go.Proofs
theorem zuJ (x : Int) (W : World) : Calls Tryz.prog zb8 #[.int .i64 x] W fun e w'=>e = .returned (.bool false)∧w'=W:=by
 go_enter Tryz.func114,Tryz.ntmps114
 go_wp2
 go_ret
 simp
theorem zxg (x y : Int) (W : World) : Calls Tryz.prog zbv #[.int .i64 x,.int .i64 y] W fun e w'=>e = .returned (.int .i64 (Lib.compareInt x y))∧w'=W:=by
 have hn:=zuJ
 change ∀ x W,Calls Tryz.prog 114 _ _ _ at hn
 have hr : Lib.compareInt x y=if x<y then -1 else if x > y then 1 else 0:=rfl
 rw [hr]
 by_cases h1 : x<y
 ·rw [if_pos h1]
  go_enter Tryz.func58,Tryz.ntmps58
  go_wp2_with (go_at_call 114; refine (hn _ _).mono ?_; rintro e w' ⟨rfl,rfl⟩)
  all_goals first
   | (go_ret; exact ⟨rfl,rfl⟩)
   | omega
   | (exfalso; omega)
 ·rw [if_neg h1]
  by_cases h2 : x > y
  ·rw [if_pos h2]
   go_enter Tryz.func58,Tryz.ntmps58
   go_wp2_with (go_at_call 114; refine (hn _ _).mono ?_; rintro e w' ⟨rfl,rfl⟩)
   all_goals first
    | (go_ret; exact ⟨rfl,rfl⟩)
    | omega
    | trace_state
  ·rw [if_neg h2]
   go_enter Tryz.func58,Tryz.ntmps58
   go_wp2_with (go_at_call 114; refine (hn _ _).mono ?_; rintro e w' ⟨rfl,rfl⟩)
   all_goals first
    | (go_ret; exact ⟨rfl,rfl⟩)
    | omega
    | trace_state
theorem zyy (b : Nat) (x y : Int) (W : World) (h0 : W.heap[b]? = some (.cells #[.int .i64 x,.int .i64 y] 3 (0,0))) : Calls Tryz.prog zeR #[.slice (some ⟨b,0,none⟩) 2 2] W fun e w'=>e = .returned (.int .i64 (if x≠0 then x else y))∧w'=W:=by
 have c0 : W.cell? ⟨b,0,none⟩=some (.int .i64 x):=by simp [World.cell?,h0]
 have c1 : W.cell? ⟨b,1,none⟩=some (.int .i64 y):=by simp [World.cell?,h0]
 by_cases hx : x=0
 ·rw [if_neg (by simpa using hx)]
  go_enter Tryz.func57,Tryz.ntmps57
  go_wp2
  refine wp_loop_rounds 3 ?_
  rw [rounds_succ]
  go_wp2
  rw [rounds_succ]
  by_cases hy : y=0
  ·subst hy
   go_wp2
   rw [rounds_succ]
   go_wp2
   go_ret
   exact ⟨rfl,rfl⟩
  ·go_wp2
   all_goals first
    | (go_ret; exact ⟨rfl,rfl⟩)
    | contradiction
    | trace_state
 ·rw [if_pos (by simpa using hx)]
  go_enter Tryz.func57,Tryz.ntmps57
  go_wp2
  refine wp_loop_rounds 3 ?_
  rw [rounds_succ]
  go_wp2
  all_goals first
   | (go_ret; exact ⟨rfl,rfl⟩)
   | contradiction
   | trace_state
def orV (x y : Int) : Int:=if x≠0 then x else y
def cmpL (a b : Ed) : Int:=orV (Lib.compareInt a.f b.f) (Lib.compareInt a.t b.t)
theorem zxf (b : Nat) (x y : Int) (W : World) (h0 : W.heap[b]? = some (.cells #[.int .i64 x,.int .i64 y] 3 (0,0))) : Calls Tryz.prog zeR #[.slice (some ⟨b,0,none⟩) 2 2] W fun e w'=>e = .returned (.int .i64 (orV x y))∧w'=W:=zyy b x y W h0
theorem zuI (W : World) (a b c : Obj) : (((W.alloc a).alloc b).alloc c).drew.heap[W.heap.size+1+1]? = some c:=by
 show (((W.heap.push a).push b).push c)[W.heap.size+1+1]? = some c
 rw [Array.getElem?_push,if_pos (by simp)]
attribute [local go_sem ↓] Go.wp_at_zero Go.wp_at_succ
set_option maxHeartbeats 4000000 in
theorem zqF (a b : Ed) (W : World) : Calls Tryz.prog zff #[.agg #[.int .i64 a.f,.int .i64 a.t,.int .i64 a.v],.agg #[.int .i64 b.f,.int .i64 b.t,.int .i64 b.v]] W fun e w'=>e = .returned (.int .i64 (cmpL a b)) ∧ ∃ q os',w'=Go.Sort.grow (W.drewN q) os':=by
 have hc:=zxg
 change ∀ x y W,Calls Tryz.prog 58 _ _ _ at hc
 have ho:=zxf
 change ∀ b x y W h,Calls Tryz.prog 57 _ _ _ at ho
 unfold cmpL
 generalize hr1 : Lib.compareInt a.f b.f=r1 at *
 generalize hr2 : Lib.compareInt a.t b.t=r2 at *
 obtain ⟨af,at_,av⟩:=a
 obtain ⟨bf,bt,bv⟩:=b
 simp only at *
 go_enter Tryz.func56,Tryz.ntmps56
 go_wp2
 go_region_held3 (fun w'=>w'.cell? ⟨W.heap.size,0,none⟩=some (.int .i64 af)∧w'.cell? ⟨W.heap.size,1,none⟩=some (.int .i64 at_)∧w'.cell? ⟨W.heap.size+1,0,none⟩=some (.int .i64 bf)∧w'.cell? ⟨W.heap.size+1,1,none⟩=some (.int .i64 bt)) (go_keep)
  (first | (go_at_call 58; refine (hc _ _ _).mono ?_; rintro e w' ⟨rfl,rfl⟩) | (go_at_call 57; refine (ho _ r1 r2 _ (zuI ..)).mono ?_; rintro e w' ⟨rfl,rfl⟩))
 go_wp2
 go_ret
 refine ⟨rfl,1,#[.cells #[.int .i64 af,.int .i64 at_,.int .i64 av] 72,.cells #[.int .i64 bf,.int .i64 bt,.int .i64 bv] 72,.cells #[.int .i64 r1,.int .i64 r2] 3],?_⟩
 rw [alloc_eq_grow,alloc_eq_grow,alloc_eq_grow,grow_grow,grow_grow]
 rfl
def encE (e : Ed) : List Value:=[.int .i64 e.f,.int .i64 e.t,.int .i64 e.v]
theorem znW (a b : Ed) : cmpL a b<0↔Bef a b:=by
 unfold cmpL orV Lib.compareInt Bef
 by_cases h1 : a.f<b.f
 ·simp [h1]
 ·by_cases h2 : b.f<a.f
  ·have : ¬ a.f=b.f:=by omega
   simp [h1,h2,this]
  ·have : a.f=b.f:=by omega
   simp [this]
   by_cases h3 : a.t<b.t
   ·simp [h3]
   ·by_cases h4 : b.t<a.t <;> simp [h3,h4]
theorem zvc : Go.Sort.SWO (Go.Proofs.ltOf cmpL) where
 irrefl x:=by unfold Go.Proofs.ltOf; rw [decide_eq_false_iff_not,znW]; exact Bef.irrefl x
 trans x y z h1 h2:=by
  unfold Go.Proofs.ltOf at *
  rw [decide_eq_true_eq,znW] at *
  unfold Bef at *
  omega
 ntrans x y z h1 h2:=by
  unfold Go.Proofs.ltOf at *
  rw [decide_eq_false_iff_not,znW] at *
  unfold Bef at *
  omega
theorem ztE {L : List Ed} {d : Array Ed} (hA : L.Pairwise zl2) (hp : Go.Sort.PermIn 0 L.toArray.size L.toArray d) (hs : Go.Sort.SortedIn (Go.Proofs.ltOf cmpL) 0 L.toArray.size d) : d.toList=zjA L:=by
 obtain ⟨p1,_,p3⟩:=hp
 have e1 : d.extract 0 L.toArray.size=d:=by rw [← p1]; exact Array.extract_size
 rw [e1,Array.extract_size] at p3
 have p3 : d.toList.Perm L:=p3
 have hAd : d.toList.Pairwise zl2:=(p3.pairwise_iff fun {a b} h=>fun e=>h ⟨e.1.symm,e.2.symm⟩).2 hA
 refine zob ?_ (zm1 hA) fun x=>by rw [p3.mem_iff,(zfw L).mem_iff]
 rw [List.pairwise_iff_getElem]
 intro i j hi hj hij
 have h1:=List.pairwise_iff_getElem.1 hAd i j hi hj hij
 have hi' : i<d.size:=by simpa using hi
 have hj' : j<d.size:=by simpa using hj
 have h2:=hs i j (Nat.zero_le _) hij (by rw [← p1]; exact hj')
 rw [getElem!_pos d j hj',getElem!_pos d i hi'] at h2
 unfold Go.Proofs.ltOf at h2
 rw [decide_eq_false_iff_not,znW] at h2
 simp only [Array.getElem_toList]
 unfold zl2 at h1
 simp only [Array.getElem_toList] at h1
 unfold Bef at *
 omega
theorem zrO (L : List Ed) (i j : Nat) (hi : i<L.length) (hj : j<3) : (Go.Sort.flatK encE 3 L.toArray)[i*3+j]! = (encE L[i])[j]!:=by
 have ht : i*3+j<L.toArray.size*3:=by simp; omega
 rw [Go.Sort.get_flatK _ _ _ _ ht]
 have e1 : (i*3+j) / 3=i:=by omega
 have e2 : (i*3+j) % 3=j:=by omega
 rw [e1,e2]
 simp [hi]
theorem zsz (zs : List Ed) (h0 : zs≠[]) (hl : zs.length<4611686018427387904) (hA : zs.Pairwise zl2) :
  zak Tryz.prog zbn [.rs 0 0 zs.length,.fn (.func zff) [] []] [{ s:=3,rows:=za3 zs }] (.tup []) ([{ s:=3,rows:=za3 (zjA zs) }].map some):=by
 refine ⟨zd2.body,by simp,fun T M w vs htok hhs hdom hrep=>?_⟩
 have hpos : 0<zs.length:=List.length_pos_iff.2 h0
 obtain ⟨hsz,hr⟩:=hrep
 have hr0:=hr 0 (by simp)
 have hr1:=hr 1 (by simp)
 simp only [List.getD_cons_zero,List.getD_cons_succ] at hr0 hr1
 have hvs : vs = #[vs.getD 0 undef,vs.getD 1 undef]:=by
  apply Array.ext
  ·simpa using hsz
  ·intro i h1 h2
   have h3 : vs.size=2:=by simpa using hsz
   have : i=0∨i=1:=by simp at h2; omega
   rcases this with rfl | rfl <;> simp [Array.getD,h3]
 rw [hvs]
 generalize vs.getD 0 undef=v at hr0
 generalize vs.getD 1 undef=fv at hr1
 cases hr1 with
 | fn _ _ _ _ us us' hx hy hq hq' =>
 have hus : us = #[]:=Array.eq_empty_of_size_eq_zero (by simpa using hx)
 have hus' : us' = #[]:=Array.eq_empty_of_size_eq_zero (by simpa using hy)
 subst hus hus'
 cases hr0 with
 | rs _ _ _ _ cap a g hg hgz hlc hn hb =>
 obtain ⟨g',hg',ent⟩:=hhs.ent 0 _ rfl
 rw [hg] at hg'
 obtain rfl:=Option.some.inj hg'
 have hrl : (za3 zs).length=zs.length:=by simp
 have hgs : g.s=3:=ent.s
 cases hblk : g.blk with
 | none =>
   have:=ent.none hblk
   simp at this
   exact absurd this h0
 | some b =>
 obtain ⟨hcap,c0,t0,f0,hc0,hle0⟩:=hb b hblk
 obtain ⟨cells,ty,hw,htb,hlen,hrows⟩:=ent.blk (Nat.succ_ne_zero 2) b hblk
 have ha : a=some ⟨b,g.base+0*g.s,none⟩:=by
  rcases hcap with h | h
  ·omega
  ·exact h
 subst ha
 simp only [Nat.zero_mul,Nat.add_zero] at *
 have hcell : ∀ i,(hi : i<zs.length) → ∀ j,j<3→cells[g.base+(i*3+j)]? = some ((encE zs[i])[j]!):=by
  intro i hi j hj
  obtain ⟨u,hu,_,hru⟩:=hrows i j (by rw [hrl]; exact hi) hj
  rw [← Nat.add_assoc]
  rw [hu]
  have : ((za3 zs).getD i [])=[AV.I zs[i].f,AV.I zs[i].t,AV.I zs[i].v]:=by simp [List.getD,hi]
  rw [this] at hru
  have h3 : j=0∨j=1∨j=2:=by omega
  rcases h3 with rfl | rfl | rfl
  ·cases hru; rfl
  ·cases hru; rfl
  ·cases hru; rfl
 have hb' : b<w.heap.size:=(Array.getElem?_eq_some_iff.1 hw).1
 have hfs : ∀ L : List Ed,(Go.Sort.flatK encE 3 L.toArray).size=L.length*3:=fun L=>by simp
 refine (Go.Proofs.AnyQ.slices_SortFunc Tryz.sortEd 3 Tryz.isAgg72 Tryz.sizeOf72 encE (fun _=>rfl) (fun x v hv=>by simp [encE] at hv; rcases hv with rfl | rfl | rfl <;> rfl) cmpL zvc 56 #[] b g.base cap zs.toArray w
  (Go.Proofs.enters_of Tryz.func56 (by kernel_rfl) rfl) (fun _ _ _ _ x y=>zqF x y _) ?_ hb' (by simpa using hl)).mono ?_
 ·intro t ht
  rw [hfs] at ht
  have h3 : t=t / 3*3+t % 3:=by omega
  have hti : t / 3<zs.length:=by omega
  have hv:=zrO zs (t / 3) (t % 3) hti (by omega)
  rw [← h3] at hv
  rw [hv]
  have hc:=hcell (t / 3) hti (t % 3) (by omega)
  rw [← h3] at hc
  constructor
  ·show w.cell? _=_
   unfold World.cell?
   simp only [hw]
   rw [hc]
   rfl
  ·unfold World.frozen?
   simp only [hw]
   simp
 ·rintro e w' ⟨rfl,d',n,os,hp,hs,rfl⟩
  have hd:=ztE hA hp hs
  obtain rfl : d'=(zjA zs).toArray:=by rw [← hd]
  have hsl : (zjA zs).length=zs.length:=(zfw zs).length_eq
  generalize zjA zs=ys at hsl
  have hFs:=hfs ys
  have hFg:=fun i j hi hj=>zrO ys i j hi hj
  show ∃ v T' M',Ending.returned _ = .returned v∧_
  have hw0 : Go.Proofs.sortWorldK encE 3 w b g.base n ys.toArray os=Go.Sort.grow (Go.Sort.putRow id (Go.Sort.ahead w n) b g.base (Go.Sort.flatK encE 3 ys.toArray)) os:=rfl
  rw [hw0]
  generalize Go.Sort.flatK encE 3 ys.toArray=F at hFs hFg
  have hh : ∀ b',b'<w.heap.size→(Go.Sort.grow (Go.Sort.putRow id (Go.Sort.ahead w n) b g.base F) os).heap[b']? = if b'=b then some (.cells (Go.Sort.putCells id g.base F cells) ty (0,0)) else w.heap[b']?:=by
   intro b' hb1
   have hsz' : (w.heap.modify b (Go.Sort.onCells (Go.Sort.putCells id g.base F))).size=w.heap.size:=Array.size_modify
   show ((w.heap.modify b (Go.Sort.onCells (Go.Sort.putCells id g.base F)))++os)[b']? = _
   rw [Array.getElem?_append_left (by rw [hsz']; exact hb1),Array.getElem?_modify]
   by_cases hbb : b=b'
   ·subst hbb
    rw [if_pos rfl,if_pos rfl,hw]
    rfl
   ·rw [if_neg hbb,if_neg (Ne.symm hbb)]
  have hput : ∀ o,(o<g.base∨g.base+ys.length*3≤o)→(Go.Sort.putCells id g.base F cells)[o]? = cells[o]?:=by
   intro o ho
   unfold Go.Sort.putCells
   rw [Array.getElem?_mapIdx]
   cases hc : cells[o]? with
   | none=>rfl
   | some u =>
     simp only [Option.map_some]
     rw [if_neg]
     rw [hFs]
     omega
  have hput2 : ∀ i,(hi : i<ys.length) → ∀ j,j<3→(Go.Sort.putCells id g.base F cells)[g.base+i*3+j]? = some ((encE ys[i])[j]!):=by
   intro i hi j hj
   unfold Go.Sort.putCells
   rw [Nat.add_assoc,Array.getElem?_mapIdx,hcell i (by omega) j hj]
   simp only [Option.map_some]
   rw [if_pos (by rw [hFs]; omega),show g.base+(i*3+j) - g.base=i*3+j by omega,hFg i j hi hj]
   rfl
  have hcs : (Go.Sort.putCells id g.base F cells).size=cells.size:=by
   unfold Go.Sort.putCells
   exact Array.size_mapIdx
  have hbig : w.heap.size≤(Go.Sort.grow (Go.Sort.putRow id (Go.Sort.ahead w n) b g.base F) os).heap.size:=by
   show w.heap.size≤((w.heap.modify b _)++os).size
   rw [Array.size_append,Array.size_modify]
   omega
  have htb' : T b≤g.base:=by simpa using htb
  generalize hw' : (Go.Sort.grow (Go.Sort.putRow id (Go.Sort.ahead w n) b g.base F) os)=w' at hh hbig
  have hlt : ∀ b' o,w.heap[b']? = some o→b'<w.heap.size:=fun b' o h=>(Array.getElem?_eq_some_iff.1 h).1
  have hpr : Pres T w T w':=by
   refine ⟨fun _=>Nat.le_refl _,fun b' cs' ty' fz' h=>?_⟩
   rw [hh b' (hlt _ _ h)]
   by_cases hbb : b'=b
   ·subst hbb
    rw [hw] at h
    cases h
    exact ⟨_,_,if_pos rfl,hcs,fun o ho=>hput o (.inl (by omega))⟩
   ·exact ⟨cs',fz',by rw [if_neg hbb]; exact h,rfl,fun _ _=>rfl⟩
  rw [zia]
  refine ⟨_,T,M,rfl,.tup M [] #[] rfl (fun i hi=>by simp at hi),⟨fun id e he=>?_,fun id id' e e' g1 g2 b' h1 h2 h3 h4 h5 h6=>?_⟩,⟨fun b' hb1=>?_,fun _ _ _=>rfl,fun _ _=>rfl,?_,?_,?_,hbig,fun b' hb1 hb2=>?_,hpr,fun k g1 b' hk hg1 _=>?_⟩⟩
  ·have hid : id=0:=by
    cases id with
    | zero=>rfl
    | succ k=>simp [hpOf] at he
   subst hid
   simp only [hpOf,List.getElem?_cons_zero,Option.some.injEq] at he
   subst he
   refine ⟨g,hg,⟨ent.s,Nat.zero_le _,fun _ row hr=>?_,fun hn=>(by rw [hblk] at hn; cases hn),fun hz=>absurd hz (Nat.succ_ne_zero 2),fun _ b' hb1=>?_⟩⟩
   ·simp at hr
    obtain ⟨x,_,rfl⟩:=hr
    rfl
   ·rw [hblk] at hb1
    obtain rfl:=Option.some.inj hb1
    refine ⟨_,ty,by rw [hh _ hb',if_pos rfl],by simpa using htb',by rw [hcs]; simp only [List.length_map] at hlen ⊢; rw [hsl]; exact hlen,fun i j hi hj=>?_⟩
    have hi' : i<ys.length:=by simpa using hi
    have hj' : j<3:=hj
    refine ⟨(encE ys[i])[j]!,hput2 i hi' j hj',?_,?_⟩
    ·have h3 : j=0∨j=1∨j=2:=by omega
     rcases h3 with rfl | rfl | rfl <;> rfl
    ·have : ((za3 ys).getD i [])=[AV.I ys[i].f,AV.I ys[i].t,AV.I ys[i].v]:=by simp [List.getD,hi']
     show Rep T w' M (((za3 ys).getD i []).getD j .dead) _
     rw [this]
     have h3 : j=0∨j=1∨j=2:=by omega
     rcases h3 with rfl | rfl | rfl <;> exact .sc _ _ rfl
  ·have h0 : ∀ id e,hpOf [({ s:=3,rows:=za3 ys } : Ent)] id=some e→id=0:=by
    intro id e he
    cases id with
    | zero=>rfl
    | succ k=>simp [hpOf] at he
   rw [h0 _ _ h1,h0 _ _ h2]
  ·obtain ⟨c1,ty1,fz1,h1,h2⟩:=htok b' hb1
   obtain ⟨c2,fz2,h3,h4,_⟩:=hpr.cell b' c1 ty1 fz1 h1
   exact ⟨c2,ty1,fz2,h3,by omega⟩
  ·rw [← hw']; rfl
  ·rw [← hw']; rfl
  ·rw [← hw']; rfl
  ·rw [hh b' hb1,if_neg]
   intro hbb
   exact hb2 ⟨0,g,by simp,hg,by rw [hblk,hbb]⟩
  ·rw [hdom k hk] at hg1
   cases hg1
end Go.Proofs.YtkngdgplbojdlaaGreat
