/- Texts of this claim,merged. -/
import Derived.Test.YtkngdgplbojdlaaGreatRz6
import Derived.Test.YtkngdgplbojdlaaGreatRz5
import Derived.Test.YtkngdgplbojdlaaGreatRz3
import Derived.Shelf.SlSortCmp.WholeK
import Derived.Test.YtkngdgplbojdlaaGreatProg
import Derived.LoopN
import Derived.BigQuiet
import Derived.Deep.RegionHeld3
import Derived.Deep.DrawnRows
import Derived.Test.YtkngdgplbojdlaaGreatRz2
import Derived.Test.YtkngdgplbojdlaaGreatRz4
set_option linter.unusedSimpArgs false
set_option linter.unusedVariables false
set_option linter.unusedSectionVars false
set_option maxRecDepth 100000
set_option maxHeartbeats 8000000
noncomputable section
namespace Go.Proofs.YtkngdgplbojdlaaGreat
open Go
theorem zp7 {N : Nat} {A : List Ed} (hn : zaT ⟨N,A⟩) : zmC ⟨N,A⟩ (zdq N A)/\cutV A (zdq N A)=maxF N A:=by
 have hno:=zbR hn;obtain ⟨f,hf,hm⟩:=zdF hno;obtain ⟨D,b,hb,hc⟩:=Bfs.grow hno N [0] _ (Bfs.start (f:=f) (by have:=hno.two; omega)) (by omega)
 have h1:=znx hno hf hm hb;have hmf:=zd1 hf hm;have he : inD D N=zdq N A:=zkz hno hf hm hb.tree hb.mem0 h1 hc;have hgr:=(zeM hno hf hb.mem0 h1 hc).1
 have hmD : ∀ x,x∈inD D N↔x∈D:=λ x=>by
  rw [zlr];exact ⟨λ h=>h.2,λ h=>⟨hb.rng x h,h⟩⟩
 rw [<- he];refine ⟨⟨hn,zey (zoL D N) λ k hk=>by have:=(zlr.1 hk).1; simp only; omega,(hmD 0).2 hb.mem0,λ h=>h1 ((hmD 1).1 h)⟩,?_⟩
 rw [zhZ,hmf,hgr]
 congr 1
 funext x
 exact decide_eq_decide.2 (hmD x)
section
variable {g : Gr} {p : Pol}
theorem zin : ∀ {o b a : List Int} {R : List (Int × List Int)} {k : Int},zdi o a (znm R)=true->k∉o->zgt g p b o a R->zgt g p b (o++[k]) (a++[k]) R
 | [],b,a,R,k,h,_,_=>by
   simp [zdi,znm] at h;obtain ⟨rfl,rfl⟩:=h;simp [zgt]
 | x::o,b,a,R,k,h,hk,hc=>by
   have hkx : k≠x:=λ e=>hk (by simp [e])
   have hko : k∉o:=λ e=>hk (Qk _ e);simp only [zdi] at h;simp only [zgt] at hc;simp only [QO,zgt];split at h
   .rename_i h1
    rw [if_pos h1] at hc
    cases a with
    | nil=>cases h1
    | cons y a =>
      have : y=x:=by simpa using h1
      subst this
      simpa using zin h hko hc
   .rename_i h1
    rw [if_neg h1] at hc
    have h3 : (a++[k]).head? ≠ some x:=by
     cases a with
     | nil=>simpa using hkx
     | cons y a=>simpa using h1
    rw [if_neg h3];split at h
    .cases R with
     | nil=>trivial
     | cons r R=>exact ⟨hc.1,zin h hko hc.2⟩
    .cases h
theorem ziz : ∀ {o b a : List Int} {R : List (Int × List Int)} {r : Int × List Int},zdi o a (znm R)=true->r.1∉o->zv6 g p (b++a) r->zgt g p b o a R->zgt g p b (o++[r.1]) a (R++[r])
 | [],b,a,R,r,h,_,hr,_=>by
   simp [zdi,znm] at h;obtain ⟨rfl,rfl⟩:=h;rw [QX] at hr;simp [zgt,hr]
 | x::o,b,a,R,r,h,hk,hr,hc=>by
   have hko : r.1∉o:=λ e=>hk (Qk _ e);simp only [zdi] at h;simp only [zgt] at hc;simp only [QO,zgt];split at h
   .rename_i h1
    rw [if_pos h1] at hc;rw [if_pos h1]
    cases a with
    | nil=>cases h1
    | cons y a =>
      have : y=x:=by simpa using h1
      subst this;exact ziz h hko (by simpa using hr) hc
   .rename_i h1
    rw [if_neg h1] at hc;rw [if_neg h1];split at h
    .rename_i h2
     cases R with
     | nil=>cases h2
     | cons q R=>exact ⟨hc.1,ziz h hko hr hc.2⟩
    .cases h
theorem zjX (hg : GrOk g) (hp : zaN g.size p) {a : List Int} (h : ∀ x∈a,x∈ordL (zag g p.lv) p.seeds) : zbt g p a:=by
 refine ⟨λ x hx=>?_,λ x hx=>?_⟩
 .have h2:=zbD (h x hx)
  exact h2
 .have h2:=(zeB (hg.level p.lv)).1 (h x hx)
  exact (zgn hp h2.1.1).2 ⟨h2.1.2,h2.2⟩
theorem zbt.join {a : List Int} (h : zbt g p a) : zbt g p (zaG a):=h.sub λ _ hx=>(zcX.1 hx).1
theorem zsw (hg : GrOk g) (hp : zaN g.size p) (hs : p.seeds.length<=64) : ∀ (n : Nat) (o : List Int),o.length=n->o.Nodup->zbt g p o ->
  zar g p (zaG (accR g p o))/\zdi o (accR g p o) (znm (refR g p o))=true/\zgt g p [] o (accR g p o) (refR g p o)
 | 0,o,h,_,_=>by
   obtain rfl:=QK h;exact ⟨zar.nil hg hp,rfl,trivial⟩
 | n+1,o,h,hon,hok=>by
   have hne : o≠[]:=λ e=>by rw [e] at h; cases h
   obtain ⟨q,hq⟩ : ∃ q,q=o.dropLast:=⟨_,rfl⟩;obtain ⟨k,hk⟩ : ∃ k,k=o.getLast hne:=⟨_,rfl⟩;have ho : o=q++[k]:=by rw [hq,hk]; exact (List.dropLast_concat_getLast hne).symm
   have hql : q.length=n:=by rw [hq,List.length_dropLast,h]; rfl
   rw [ho] at hon hok ⊢;have hqn : q.Nodup:=(Ue.1 hon).1;have hkq : k∉q:=λ hm=>(Ue.1 hon).2.2 k hm k (by simp) rfl
   have hqok : zbt g p q:=hok.sub λ x hx=>QU _ hx;obtain ⟨ih1,ih2,ih3⟩:=zsw hg hp hs n q hql hqn hqok
   by_cases hc : zar g p (zaG (accR g p q++[k]))
   .rw [zbk hc,zeD hc]
    exact ⟨hc,zhU ih2 hkq,zin ih2 hkq ih3⟩
   .rw [zfg hc,zkT hc]
    have hsz2:=hg.1.2.1
    have hrng : ∀ x∈accR g p q++[k],0<=x/\x<g.size:=λ x hx=>hok.rng x (by
     rcases Qo.1 hx with h2 | h2
     .exact QU _ (zdb h2)
     .exact UD _ h2)
    have hnd : (accR g p q++[k]).Nodup:=Ue.2 ⟨hqn.sublist (zcG _ _ rfl),by simp,λ a ha b hb=>by
     rw [QB] at hb;subst hb
     rintro rfl
     exact hkq (zdb ha)⟩
    have hjl:=zlw hnd λ x hx=>by have:=hrng x hx; omega
    have hnv:=zhC hg hp (ziP (zeq hrng)) hs (zdr (accR g p q++[k]));have hside:=zp7 hnv;have hfew:=zf9 (p:=p) (ks:=zaG (accR g p q++[k])) hg hp (ziP (zeq hrng))
    have hcut : zv6 g p (accR g p q) (k,zdq (netN g) (netA g p (zaG (accR g p q++[k])))):=by
     refine ⟨hside.1,?_⟩;simp only;rw [hside.2];have : maxF (netN g) (netA g p (zaG (accR g p q++[k])))≠(zaG (accR g p q++[k])).length:=hc;rw [hjl,Qh,QZ] at this hfew;omega
    refine ⟨ih1,?_,?_⟩
    .have:=ziU (r:=znm (refR g p q)) ih2 hkq
     simpa [znm] using this
    .exact ziz (r:=(k,zdq (netN g) (netA g p (zaG (accR g p q++[k]))))) ih2 hkq (by rw [Q5]; exact hcut) ih3
end
theorem znZ {N : Nat} {A : List Ed} {f : List Int} (h : (decide (f.length=A.length) && ((List.range A.length).all λ i=>decide (0<=f.getD i 0/\f.getD i 0<=(arcD A i).v)) && ((List.range N).all λ x=>decide (x<2∨exF A f x=0)))=true) : zaF N A f:=by
 simp only [QT,Qe,List.all_eq_true,QA] at h;exact zeE.2 ⟨h.1.1,λ i hi=>h.1.2 i hi,λ x h1 h2=>(h.2 x h2).resolve_left (by omega)⟩
theorem zpb (g : Gr) (p : Pol) : ∀ (n : Nat) (o : List Int),o.length=n->(refR g p o).length<=n
 | 0,o,h=>by
   obtain rfl:=QK h;exact Ql _
 | n+1,o,h=>by
   have hne : o≠[]:=λ e=>by rw [e] at h; cases h
   rw [<- List.dropLast_concat_getLast hne];have ih:=zpb g p n o.dropLast (by rw [List.length_dropLast,h]; rfl)
   by_cases hc : zar g p (zaG (accR g p o.dropLast++[o.getLast hne]))
   .rw [zeD hc]; omega
   .rw [zkT hc,Qh,QZ]; omega
theorem zs3 (N : Nat) (A : List Ed) : (zdq N A).length<=N:=by
 unfold zdq;exact QH (QV ..) (by simp)
theorem zet (g : Gr) (p : Pol) (hg : GrOk g) (hp : zaN g.size p) (hs : p.seeds.length<=64) (hN : g.size<20) :
  ∃ f : List Int,zj7 g p (zaG (accR g p (ordL (zag g p.lv) p.seeds))) f /\
    AcP 36 [eG g,eP p] [] (.tup [eAcc (accR g p (ordL (zag g p.lv) p.seeds)) f (refR g p (ordL (zag g p.lv) p.seeds)),.I 0]) []:=by
 have hsz:=hg.1.1;have hsz2:=hg.1.2.1;have hel:=hg.edges_le;have hgl:=hg.gone_le;have hchk:=zbA g p (by omega) (by omega) (by omega) (by have:=hp.2.2.2.1; omega)
 rw [if_pos hg,if_pos hp] at hchk;have hord:=zi0 g p hg hN (by omega)
 obtain ⟨o,ho⟩ : ∃ o,o=ordL (zag g p.lv) p.seeds:=⟨_,rfl⟩;have hor : ∀ k∈o,0<=k/\k<g.size:=λ k hk=>by rw [ho] at hk; have h:=zbD hk; exact h
 have hon : o.Nodup:=by rw [ho]; exact za3 _ _
 rw [<- ho] at hord ⊢
 have hol : o.length<=64:=by
  have:=zaL (b:=(List.range g.size.toNat).map λ i : Nat=>(i : Int)) hon λ x hx=>by
   have:=hor x hx;exact Qg.2 ⟨x.toNat,QA.2 (by omega),by omega⟩
  simp at this;omega
 have h64 : ∀ a : List Int,(∀ x∈a,0<=x/\x<g.size) -> ∀ x∈a,0<=x/\x<64:=λ a h x hx=>by have:=h x hx; omega
 have hnv : ∀ a : List Int,(∀ x∈a,0<=x/\x<g.size)->zaT ⟨netN g,netA g p (zaG a)⟩:=λ a h=>zhC hg hp (ziP (zeq h)) hs (zdr a)
 have hserve : ∀ a : List Int,a.Nodup->(∀ x∈a,0<=x/\x<g.size) -> ∃ f,zj7 g p (zaG a) f/\AcP 73 [eN ⟨netN g,netA g p (zaG a)⟩,.I (a.length : Nat)] [] (.tup [.rs 0 0 (netA g p (zaG a)).length,.B (@decide (zar g p (zaG a)) (Classical.propDecidable _))]) [some ⟨1,zaf f,0⟩]:=λ a h1 h2=>by
  obtain ⟨f,hf,hc⟩:=zjn _ _ (a.length : Nat) (hnv a h2);have hmf:=zd1 hf.1 hf.2;refine ⟨f,⟨hf.1,hf.2,hmf.symm⟩,?_⟩;have hjl:=zlw h1 (h64 a h2)
  have : decide (valF (netA g p (zaG a)) f=(a.length : Nat)) = @decide (zar g p (zaG a)) (Classical.propDecidable _):=by
   rw [decide_eq_decide];unfold zar;rw [hmf,hjl]
  rw [this] at hc;exact hc
 have haccn : ∀ i,(accR g p (o.take i)).Nodup:=λ i=>(hon.sublist ((zcG _ _ rfl).trans (List.take_sublist _ _)));have haccr : ∀ i,∀ x∈accR g p (o.take i),0<=x/\x<g.size:=λ i x hx=>hor x (QY (zdb hx));obtain ⟨f,hf,hlast⟩:=hserve (accR g p o) (by have:=haccn o.length; rwa [Q1] at this) (by have:=haccr o.length; rwa [Q1] at this)
 refine ⟨f,hf,?_⟩;have hnl:=zdC g p (accR g p o) hg hp (by have:=haccn o.length; rwa [Q1] at this) (by have:=haccr o.length; rwa [Q1] at this) hs
 have hlf:=hf.ok.fit.len;refine zop.s.ac ?_;show awp _ 0 _ _ ⟨72,[(0,eG g),(1,eP p)],[],16⟩;refine rs [2,3,4] [32] [16,24] ?_;refine zab (rx (s:=?s2) [2,3,4,6] [32] [] rfl ?o2 ?q2)
 case o2=>simp; refine zau hchk (by simp) ?_; simp; rfl
 refine rs [2,3,4,18] [32] [] ?_;refine zac _ rfl (λ h=>by cases h) λ _=>?_
 refine zae (zaa ⟨72,[(2,.pv (gC g)),(3,.pv (pC p)),(4,.pt 32 0 0),(7,.pt 40 0 0)],[(32,some ⟨3,[[.nilS,.nilS,.nilS]],0⟩),(40,some ⟨3,[[.nilS,.nilS,.nilS]],0⟩)],200⟩ rfl ?_ ?_)
 .simp
  exact LeH [(32,32),(96,40)] []
 refine zab (zaa ⟨72,[(2,.pv (gC g)),(3,.pv (pC p)),(4,.pt 32 0 0),(7,.pt 40 0 0),(23,ints o),(24,.I o.length),(25,.I 0)],[(32,some ⟨3,[[.nilS,.nilS,.nilS]],0⟩),(40,some ⟨3,[[.nilS,.nilS,.nilS]],0⟩)],400⟩ rfl ?_ ?_)
 .simp
  refine cn1 hord ?_;simp;exact Le.go [(32,32),(40,40)] [216] rfl rfl (by simp [fcd,zaq]) (by simp)
 refine zad ?_;have hR0 : refR g p []=[]:=rfl
 refine zaj (ι:=Nat) (λ i=>⟨72,[(2,.pv (gC g)),(3,.pv (pC p)),(4,.pt 32 0 0),(7,.pt 40 0 0),(23,ints o),(24,.I o.length),(25,.I i)],
   [(32,some ⟨3,[[.nilS,.nilS,.nilS]],0⟩),(40,some ⟨3,[[ints (accR g p (o.take i)),.nilS,.rs 42 0 (refR g p (o.take i)).length]],0⟩),(42,some ⟨2,zbm (refR g p (o.take i)),0⟩)],500⟩)
  (λ i=>i<=o.length) (λ i=>o.length - i) 0 (Qi _)
  (Le.lst [(32,32),(40,40)] [] [(42,2)] rfl (by simp) (by simp) (by simp) (by simp) (by simp) (by simp) (by simp) (by simp [Up]) (by simp [zhF,hR0,fcd]; exact ⟨zaA.rfl' (by simp),zaA.row rfl (by omega) (by simp [UpL,Up,Wk.refl]; exact Wk.nil _ _)⟩)) ?_
 intro i hi;have haN:=haccn i;have haR:=haccr i;have hal : (accR g p (o.take i)).length<=64:=QH (zkx _) (QH (Ve i o) hol);have hRl:=zpb g p _ (o.take i) rfl;have hRl2:=Ve i o;have hyes:=λ k=>zbk (g:=g) (p:=p) (o:=o.take i) (k:=k);have hno:=λ k=>zfg (g:=g) (p:=p) (o:=o.take i) (k:=k);have hryes:=λ k=>zeD (g:=g) (p:=p) (o:=o.take i) (k:=k);have hrno:=λ k=>zkT (g:=g) (p:=p) (o:=o.take i) (k:=k);have hmem : ∀ x∈accR g p (o.take i),x∈o.take i:=λ x hx=>zdb hx;obtain ⟨acc,hacc⟩ : ∃ acc,acc=accR g p (o.take i):=⟨_,rfl⟩;obtain ⟨R,hR⟩ : ∃ R,R=refR g p (o.take i):=⟨_,rfl⟩;rw [<- hacc] at haN haR hal hmem hyes hno hryes hrno;rw [<- hR] at hRl hryes hrno;rw [<- hacc,<- hR]
 refine zaa ⟨72,[(2,.pv (gC g)),(3,.pv (pC p)),(4,.pt 32 0 0),(7,.pt 40 0 0),(23,ints o),(24,.I o.length),(25,.I i),(26,.B (decide (i<o.length)))],
   [(32,some ⟨3,[[.nilS,.nilS,.nilS]],0⟩),(40,some ⟨3,[[ints acc,.nilS,.rs 42 0 R.length]],0⟩),(42,some ⟨2,zbm R,0⟩)],600⟩ rfl ?_ ?_
 .simp
  exact LeI [(32,32),(40,40),(42,42)] []
 refine zab (zac _ rfl (λ h11=>?_) λ h11=>?_)
 .simp at h11
  have hw1 : IntKind.i64.wrap ((i : Int)+1)=(i : Int)+1:=w6;obtain ⟨k,hk⟩ : ∃ k,k=o[i]:=⟨_,rfl⟩;have hkr:=hor _ (Qj h11);rw [<- hk] at hkr;have hts : o.take (i+1)=o.take i++[k]:=by rw [Qp h11,hk]
  have hkacc : k∉acc:=λ h=>by
   have h2:=hmem k h;obtain ⟨j,hj,hjk⟩:=QF.1 h2;rw [UT] at hjk;rw [QW] at hj;have:=(QR.1 hon) j i (by omega) h11 (by omega)
   exact this (hjk.trans hk)
  have hks : ∀ x∈acc++[k],0<=x/\x<g.size:=λ x hx=>by
   rcases Qo.1 hx with h | h
   .exact haR x h
   .rw [QB] at h; subst h; exact hkr
  have hkn : (acc++[k]).Nodup:=Ue.2 ⟨haN,by simp,λ a ha b hb=>by
   rw [QB] at hb;subst hb
   rintro rfl
   exact hkacc ha⟩
  have hwith:=zjg acc k (by omega)
  have hnet:=zdC g p (acc++[k]) hg hp hkn hks hs;obtain ⟨fl,hfl,hsv⟩:=hserve (acc++[k]) hkn hks;have hreach:=zhS _ _ fl (hnv _ hks) hfl.ok hfl.most;have hflen:=hfl.ok.fit.len;have hnl2:=zs3 (netN g) (netA g p (zaG (acc++[k])));have hyes:=hyes k;have hno:=hno k;have hryes:=hryes k;have hrno:=hrno k;rw [<- hts] at hyes hno hryes hrno;obtain ⟨A,hA⟩ : ∃ A,A=netA g p (zaG (acc++[k])):=⟨_,rfl⟩;obtain ⟨side,hside⟩ : ∃ side,side=zdq (netN g) A:=⟨_,rfl⟩;rw [<- hA] at hnet hsv hreach hflen hrno;rw [<- hside] at hreach hrno;have htf : ∀ h : Int->List AV,List.take A.length (List.map h fl)=List.map h fl:=λ h=>Qb (by simp; omega)
  obtain ⟨W,hW⟩ : ∃ W,W=acc++[k]:=⟨_,rfl⟩;have hWl : W.length=acc.length+1:=by rw [hW]; simp
  rw [<- hW] at hwith hnet hsv hyes hno hryes hrno;rw [<- hWl] at hwith;refine zae ?_
  refine zap (ι:=Unit) (λ _=>⟨72,[(2,.pv (gC g)),(3,.pv (pC p)),(4,.pt 32 0 0),(7,.pt 40 0 0),(23,ints o),(24,.I o.length),(25,.I i)],
   [(32,some ⟨3,[[.nilS,.nilS,.nilS]],0⟩),(40,some ⟨3,[[ints (accR g p (o.take (i+1))),.nilS,.rs 42 0 (refR g p (o.take (i+1))).length]],0⟩),(42,some ⟨2,zbm (refR g p (o.take (i+1))),0⟩)],3000⟩) (λ _=>True) ?_ λ _ _=>?_
  .refine zad ?_
   refine zaa ⟨72,[(2,.pv (gC g)),(3,.pv (pC p)),(4,.pt 32 0 0),(7,.pt 40 0 0),(9,.I k),(23,ints o),(24,.I o.length),(25,.I i)],
    [(32,some ⟨3,[[.nilS,.nilS,.nilS]],0⟩),(40,some ⟨3,[[ints acc,.nilS,.rs 42 0 R.length]],0⟩),(42,some ⟨2,zbm R,0⟩)],700⟩ rfl ?_ ?_
   .simp [h11,<- hk]
    exact LeI [(32,32),(40,40),(42,42)] []
   refine zaa ⟨72,[(2,.pv (gC g)),(3,.pv (pC p)),(4,.pt 32 0 0),(7,.pt 40 0 0),(9,.I k),(10,ints W),(23,ints o),(24,.I o.length),(25,.I i)],
    [(32,some ⟨3,[[.nilS,.nilS,.nilS]],0⟩),(40,some ⟨3,[[ints acc,.nilS,.rs 42 0 R.length]],0⟩),(42,some ⟨2,zbm R,0⟩)],800⟩ rfl ?_ ?_
   .simp
    refine cn1 hwith ?_;simp;exact Le.go [(32,32),(40,40),(42,42)] [724] rfl rfl (by simp [fcd,zaq]) (by simp [fcd])
   refine zaa ⟨72,[(2,.pv (gC g)),(3,.pv (pC p)),(4,.pt 32 0 0),(7,.pt 40 0 0),(9,.I k),(10,ints W),(11,.pv (nC ⟨netN g,A⟩)),(23,ints o),(24,.I o.length),(25,.I i)],
    [(32,some ⟨3,[[.nilS,.nilS,.nilS]],0⟩),(40,some ⟨3,[[ints acc,.nilS,.rs 42 0 R.length]],0⟩),(42,some ⟨2,zbm R,0⟩)],900⟩ rfl ?_ ?_
   .simp
    refine cl0 hnet ?_;simp;exact LeI [(32,32),(40,40),(42,42)] [832]
   refine zaa ⟨72,[(2,.pv (gC g)),(3,.pv (pC p)),(4,.pt 32 0 0),(7,.pt 40 0 0),(9,.I k),(10,ints W),(11,.pv (nC ⟨netN g,A⟩)),(12,.rs 43 0 A.length),(13,.B (@decide (zar g p (zaG W)) (Classical.propDecidable _))),(23,ints o),(24,.I o.length),(25,.I i)],
    [(32,some ⟨3,[[.nilS,.nilS,.nilS]],0⟩),(40,some ⟨3,[[ints acc,.nilS,.rs 42 0 R.length]],0⟩),(42,some ⟨2,zbm R,0⟩),(43,some ⟨1,zaf fl,0⟩)],1000⟩ rfl ?_ ?_
   .simp
    refine cn1 hsv ?_;simp;exact LeI [(32,32),(40,40),(42,42),(924,43)] []
   refine zab ?_
   refine zaa ⟨72,[(2,.pv (gC g)),(3,.pv (pC p)),(4,.pt 32 0 0),(7,.pt 40 0 0),(9,.I k),(10,ints W),(11,.pv (nC ⟨netN g,A⟩)),(12,.rs 43 0 A.length),(44,.B (@decide (zar g p (zaG W)) (Classical.propDecidable _))),(23,ints o),(24,.I o.length),(25,.I i)],
    [(32,some ⟨3,[[.nilS,.nilS,.nilS]],0⟩),(40,some ⟨3,[[ints acc,.nilS,.rs 42 0 R.length]],0⟩),(42,some ⟨2,zbm R,0⟩),(43,some ⟨1,zaf fl,0⟩)],1100⟩ rfl ?_ ?_
   .simp
    exact LeI [(32,32),(40,40),(42,42),(43,43)] []
   refine zac _ rfl (λ h15=>?_) λ h15=>?_
   .have h15' : zar g p (zaG W):=@of_decide_eq_true _ (Classical.propDecidable _) h15
    have hy:=hyes h15';have hry:=hryes h15'
    refine zaa ⟨72,[(2,.pv (gC g)),(3,.pv (pC p)),(4,.pt 32 0 0),(7,.pt 40 0 0),(23,ints o),(24,.I o.length),(25,.I i)],
     [(32,some ⟨3,[[.nilS,.nilS,.nilS]],0⟩),(40,some ⟨3,[[ints W,.nilS,.rs 42 0 R.length]],0⟩),(42,some ⟨2,zbm R,0⟩)],1200⟩ rfl ?_ ?_
    .simp [zat]
     exact LeI [(32,32),(40,40),(42,42)] []
    exact zai (hit ⟨(),trivial,Le.go [(32,32),(40,40),(42,42)] [] rfl rfl (by simp) (by simp [hy,hry,fcd])⟩)
   .have h15' : ¬ zar g p (zaG W):=@of_decide_eq_false _ (Classical.propDecidable _) h15
    have hn':=hno h15';have hrn:=hrno h15';have htR : ∀ h : Int × List Int->List AV,List.take R.length (List.map h R)=List.map h R:=λ h=>Qb (by simp)
    refine zae (zaP rfl ?_);simp;refine zaS (i:=43) rfl (by simp [fcd]) hreach (by simp) (by simp) ?_
    simp [htR,zat];exact ⟨by omega,by omega,rfl,Le.go [(32,32),(40,40),(1164,42)] [1140] rfl rfl (by simp) (by simp [hn',hrn,fcd,zaq])⟩
  refine zan rfl ?_;simp [hw1];exact ⟨i+1,by omega,by omega,Le.go [(32,32),(40,40),(42,42)] [] rfl rfl (by simp [hw1]) (by simp [fcd])⟩
 simp at h11;obtain rfl : i=o.length:=by omega
 rw [Q1] at hacc hR;rw [<- hacc] at hlast hnl hlf;have hl1 : ((acc.length : Nat) : Int)=acc.length:=rfl;obtain ⟨A,hA⟩ : ∃ A,A=netA g p (zaG acc):=⟨_,rfl⟩;rw [<- hA] at hnl hlast hlf;have htf : ∀ h : Int->List AV,List.take A.length (List.map h f)=List.map h f:=λ h=>Qb (by simp; omega)
 refine zai (hit ?_)
 refine zas ⟨72,[(4,.pt 32 0 0),(7,.pt 40 0 0)],
   [(32,some ⟨3,[[.nilS,.nilS,.nilS]],0⟩),(40,some ⟨3,[[ints acc,ints f,.vs 2 false (zbm R)]],0⟩)],1200⟩ rfl ?_ ?_
 .simp
  refine cl0 hnl ?_;simp;refine cn1 hlast ?_;simp [zat];exact ⟨rfl,Le.go [(32,32),(40,40)] [42,664] rfl rfl (by simp) (by simp [fcd,zaq,htf,hlf])⟩
 refine zaa ⟨72,[(4,.pt 32 0 0),(5,.I 0)],[(32,some ⟨3,[[ints acc,ints f,.vs 2 false (zbm R)]],0⟩)],1400⟩ rfl ?_ ?_
 .simp [zat]
  exact LeI [(32,32)] []
 refine zah ?_;rw [<- hacc,<- hR];exact ⟨.inr rfl,zao.out [] [32] rfl (by simp) (by simp) (by simp) (by simp)⟩
section
variable {P : Program} {np id : Nat} {h : Nat->Option Ent} {K : AV->List Nat->List (Nat × Option Ent)->Prop} {f : FuncId} {first capt args args' : List AV} {res : AV}
end
theorem zxE (L : List Int) (hl : L.length<=400) : ∃ (g : Gr) (b : Nat),(GrOk g/\2<=g.size/\g.size<=9/\b<=L.length)/\AcP 11 [.pt 0 0 0] [dice L 0] (eG g) [some (dice L b)] :=
 have h:=znH L 0 (Qi _)
 ⟨_,_,⟨h.ok,h.lo,h.hi,h.at_⟩,zuK L 0 hl (Qi _)⟩
variable {g : Gr} {p : Pol}
theorem Rise.pair {l : List Int} {lo hi : Int} (h : Rise l lo hi) : l.Pairwise (· < ·):=by
 have hlt : ∀ (j i : Nat) (hj : j<l.length) (hij : i<j),l[i]<l[j]:=by
  intro j
  induction j with
  | zero=>intro i _ hij; omega
  | succ j ih =>
    intro i hj hij;have h1:=(h (j+1) hj).2.2 (by omega)
    simp only [Nat.add_sub_cancel] at h1;rcases Ug i j with h2 | h2
    .have:=ih i (by omega) h2
     omega
    .have : i=j:=by omega
     subst this;exact h1
 exact QR.2 λ i j hi hj hij=>hlt j i hj hij
theorem zbf (acc f : List Int) (R : List (Int × List Int)) (k : Int) (hl : acc.length<=140737488355328) : AcP 43 [eAcc acc f R,.I k] [] (.B (decide (k∈acc))) []:=by
 refine zhX.s.ac ?_;show awp _ 0 _ _ ⟨9,[(0,eAcc acc f R),(1,.I k)],[],16⟩;refine zaa ⟨9,[(1,.I k),(2,.pv [ints acc,ints f,.vs 2 false (zbm R)])],[],100⟩ rfl ?_ ?_
 .simp
  exact LeH [] [16]
 refine zaa ⟨9,[(4,.B (decide (k∈acc)))],[],200⟩ rfl ?_ ?_
 .simp
  refine cl0 (zbb acc k hl) ?_;simp;exact LeH [] []
 exact zaI
variable {g : Gr} {p : Pol}
theorem h64 (hg : GrOk g) {a : List Int} (h : ∀ x∈a,0<=x/\x<g.size) : ∀ x∈a,0<=x/\x<64:=λ x hx=>by
 have:=h x hx;have:=hg.1.2.1;omega
variable {g : Gr} {p : Pol}
def zds (g : Gr) (p : Pol) : List Int:=p.seeds.filter λ k=>!g.gone.contains k
theorem zsO (w : Int->Int) (hw : ∀ x,0<=w x) : ∀ {s a : List Int},s.Nodup->(∀ x∈s,x∈a)->(s.map w).sum<=(a.map w).sum
 | [],a,_,_=>by
   have : ∀ a : List Int,0<=(a.map w).sum:=λ a=>by
    induction a with
    | nil=>exact UI _
    | cons x a ih=>simp only [Qn,Uv]; have:=hw x; omega
   exact this a
 | x::s,a,hn,h=>by
   rw [Q6] at hn;have h1:=List.perm_cons_erase (h x (Qm ..));have ih:=zsO w hw (s:=s) (a:=a.erase x) hn.2 λ y hy=>(List.mem_erase_of_ne (by rintro rfl; exact hn.1 hy)).2 (h y (Qk _ hy))
   have h2 : (a.map w).sum=((x::a.erase x).map w).sum:=by
    have hp : ∀ {a b : List Int},a.Perm b->(a.map w).sum=(b.map w).sum:=λ h=>by
     induction h with
     | nil=>rfl
     | cons x _ ih=>simp only [Qn,Uv,ih]
     | swap x y l=>simp only [Qn,Uv]; omega
     | trans _ _ i1 i2=>exact i1.trans i2
    exact hp h1
   rw [h2];simp only [Qn,Uv];omega
theorem zoJ (g : Gr) (S : List Int) : ∀ n,0<n -> ∃ l,ordN g S n=ordN g S 1++l
 | 1,_=>⟨[],(QX _).symm⟩
 | n+2,_=>by
   obtain ⟨l,hl⟩:=zoJ g S (n+1) (by omega)
   exact ⟨l++zaK g.size.toNat λ k=>decide (dist g S k=((n+1 : Nat) : Int)),by rw [ordN,hl,Qx]⟩
theorem zsC (hg : GrOk g) (hp : zaN g.size p) : ∃ l,ordL (zag g p.lv) p.seeds=zds g p++l:=by
 by_cases hn : 0<g.size.toNat
 .obtain ⟨l,hl⟩:=zoJ (zag g p.lv) p.seeds g.size.toNat hn
  refine ⟨l,?_⟩
  have h1 : ordN (zag g p.lv) p.seeds 1=zds g p:=by
   refine zeG ?_ ?_ λ x=>?_
   .exact zdQ g.size.toNat _
   .exact (hp.2.1.pair).filter _
   .rw [zfT]
    have h2 : (0<=dist (zag g p.lv) p.seeds x/\dist (zag g p.lv) p.seeds x<(1 : Nat))↔za4 g p.seeds x=true:=by
     rw [show za4 g p.seeds x=za4 (zag g p.lv) p.seeds x from rfl,<- zb7 (hg.level p.lv)]
     omega
    rw [h2];unfold za4 zds;rw [Qw];simp only [QT,US];constructor
    .exact λ h=>h.2
    .intro h
     have h3:=hp.2.1.nodup.2 x h.1;exact ⟨⟨by omega,by show x<g.size.toNat; omega⟩,h⟩
  rw [<- h1];exact hl
 .have h0 : g.size.toNat=0:=by omega
  refine ⟨[],?_⟩
  have h1 : zds g p=[]:=by
   unfold zds;rw [List.filter_eq_nil_iff];intro x hx;have h3:=hp.2.1.nodup.2 x hx;omega
  rw [h1];show ordN _ _ (g.size.toNat)=_;rw [h0];rfl
theorem zrj {φ : Ed->Int->Int} : ∀ {A : List Ed} {e : Ed},(∀ a∈A,0<=φ a 0)->e∈A->φ e 0<=sumF φ A (A.map λ _=>0)
 | [],_,_,h=>absurd h Uk
 | a::A,e,h,he=>by
   have hz : 0<=sumF φ A (A.map λ _=>0):=by
    have key : ∀ B : List Ed,(∀ a∈B,0<=φ a 0)->0<=sumF φ B (B.map λ _=>0):=by
     intro B
     induction B with
     | nil=>intro _; simp [sumF]
     | cons b B ih =>
       intro h;have h1:=ih λ x hx=>h x (Qk _ hx);have h2:=h b Qm;simp only [Qn,sumF];omega
    exact key A λ x hx=>h x (Qk _ hx)
   have h0:=h a Qm;simp only [Qn,sumF];rcases Qu.1 he with rfl | he
   .omega
   .have:=zrj (λ x hx=>h x (Qk _ hx)) he
    omega
theorem ztd {S : Int->Bool} {A : List Ed} {e : Ed} (h0 : ∀ a∈A,0<=a.v) (he : e∈A) (h1 : S e.f=true) (h2 : S e.t=false) : e.v<=capS S A:=by
 have:=zrj (φ:=λ e _=>if S e.f=true/\S e.t=false then e.v else 0) (A:=A) (e:=e) (λ a ha=>by
  have:=h0 a ha;show 0<=if S a.f=true/\S a.t=false then a.v else 0
  split <;> omega) he
 rw [if_pos ⟨h1,h2⟩] at this;exact this
theorem znu {g : Gr} {lv a b : Int} (hg : GrOk g) : 0<=zc5 g lv a b:=by
 unfold zc5;split
 .obtain ⟨f,hf,hv⟩:=zlm (zbR (zhM (lv:=lv) (a:=a) (b:=b) hg))
  rw [<- hv];unfold valF outF
  have h:=zlj (φ:=λ _ _=>0) (ψ:=λ e v=>if e.f=0 then v else 0) hf.fit λ e _ v hv _=>by
   show 0<=if e.f=0 then v else 0
   split <;> omega
  rwa [zdE] at h
 .exact UI _
theorem zuN {a b k : Int} {n : Nat} (h0 : 0<=k) (h1 : k<n) (ha : k≠a) (hb : k≠b) : (⟨2+2*k,3+2*k,1⟩ : Ed)∈innA a b n:=by
 unfold innA;refine List.mem_flatMap.2 ⟨k.toNat,QA.2 (by omega),?_⟩
 have e : ((k.toNat : Nat) : Int)=k:=by omega
 rw [e,if_pos ⟨ha,hb⟩];exact QB.2 rfl
theorem zj6 {g : Gr} {lv s x : Int} (hg : GrOk g) (hlv : 1<=lv/\lv<=3) (hs : Key g s) (hx : Key g x) (hd : 0<dist (zag g lv) [s] x) : 1<=zc5 g lv s x:=by
 have hL:=hg.level lv
 have hst : ∀ k,dist (zag g lv) [s] k=0->k=s:=λ k hk=>by
  have:=(zb7 hL).1 hk;unfold za4 at this;simp at this;exact this.1
 obtain ⟨m,hm⟩ : ∃ m : Nat,dist (zag g lv) [s] x=(m : Int)+1:=⟨(dist (zag g lv) [s] x - 1).toNat,by omega⟩
 have hsx : s≠x:=λ e=>by
  subst e;obtain ⟨e,he,_,h2⟩:=zcw hL hm
  have key : ∀ n : Nat,∀ k,dist (zag g lv) [s] k=n->dist (zag g lv) [s] s=0:=by
   intro n
   induction n with
   | zero =>
     intro k hk;have hk0 : dist (zag g lv) [s] k=0:=hk;have:=hst k hk0
     rwa [this] at hk0
   | succ n ih =>
     intro k hk;obtain ⟨e,_,_,h2⟩:=zcw hL (n:=n) (by rw [hk]; omega)
     exact ih e.f h2
  have:=key _ _ h2;omega
 have hA : zdp g lv s x:=⟨hlv,⟨hs.1,by have:=hs.2; omega⟩,⟨hx.1,by have:=hx.2; omega⟩,hsx⟩
 unfold zc5;rw [if_pos hA];have hnv:=zhM (lv:=lv) (a:=s) (b:=x) hg;obtain ⟨X,x0,x1,hc,_⟩:=zoO (zbR hnv);replace hc : capS X (netP g lv s x)=maxF (2+2*g.size.toNat) (netP g lv s x):=hc;refine Uh λ hlt=>?_;have hv0 : ∀ a∈netP g lv s x,0<=a.v:=λ a ha=>((zbR hnv).arc a ha).2.2.2.2.2.2.2
 have hcl : ∀ e∈netP g lv s x,e.v=1->X e.f=true->X e.t=true:=λ e he h1 h2=>by
  cases h3 : X e.t
  .have:=ztd hv0 he h2 h3
   omega
  .rfl
 have hed : ∀ e∈(zag g lv).edges,e.t≠s->e.f≠x->(⟨if e.f=s then 0 else 3+2*e.f,if e.t=x then 1 else 2+2*e.t,1⟩ : Ed)∈netP g lv s x:=λ e he h1 h2=>by
  have he2:=Qw.1 he;have h3 : ¬ e.v<lv:=by simpa using he2.2
  unfold netP;refine UD _ (List.mem_flatMap.2 ⟨e,he2.1,?_⟩);unfold arcP;rw [if_neg (by omega)]
  exact QB.2 rfl
 have hkey : ∀ e∈(zag g lv).edges,Key g e.t:=λ e he=>by
  have hf:=hg.fits e (Qw.1 he).1;unfold Fits at hf;exact ⟨hf.2.2.1,by omega⟩
 have key : ∀ n : Nat,n<=m -> ∀ k,dist (zag g lv) [s] k=n->X (if k=s then 0 else 3+2*k)=true:=by
  intro n
  induction n with
  | zero =>
    intro _ k hk;rw [if_pos (hst k hk)];exact x0
  | succ n ih =>
    intro hn k hk
    by_cases hks : k=s
    .rw [if_pos hks]; exact x0
    obtain ⟨e,he,h1,h2⟩:=zcw hL (n:=n) (by rw [hk]; omega)
    have h3:=ih (by omega) e.f h2
    have hkx : k≠x:=λ e=>by subst e; omega
    have hfx : e.f≠x:=λ h=>by rw [h] at h2; omega
    have h4:=hcl _ (hed e he (by rw [h1]; exact hks) hfx) rfl h3
    simp only [h1,if_neg hkx] at h4;have hkk:=hkey e he;rw [h1] at hkk;have h5:=hcl ⟨2+2*k,3+2*k,1⟩ (QU _ (zuN hkk.1 (by have:=hkk.1; have:=hkk.2; omega) hks hkx)) rfl h4
    rw [if_neg hks];exact h5
 obtain ⟨e,he,h1,h2⟩:=zcw hL hm;have h3:=key m (Ql _) e.f h2;have hfx : e.f≠x:=λ h=>by rw [h] at h2; omega
 have h4:=hcl _ (hed e he (by rw [h1]; exact Ne.symm hsx) hfx) rfl h3
 simp only [h1,UY] at h4;rw [h4] at x1
 cases x1
structure Rw where
 k : Int
 d : Int
 m : Int
 e : Int
 w : Int
 a : Bool
abbrev rwC (r : Rw) : List AV:=[.I r.k,.I r.d,.I r.m,.I r.e,.I r.w,.B r.a]
abbrev zh9 (l : List Rw) : List (List AV):=l.map rwC
abbrev rwsV (l : List Rw) : AV:=.vs 6 false (zh9 l)
def orG (g : Gr) (p : Pol) : List Int:=ordL (zag g p.lv) p.seeds
def acG (g : Gr) (p : Pol) : List Int:=accR g p (orG g p)
def othG (g : Gr) (p : Pol) : List Int:=zaK g.size.toNat λ x=>!decide (x∈acG g p)
def wtsG (g : Gr) (p : Pol) (r : Int) : List Int:=if (ze8 (zag g p.lv) p.seeds r).2=0 then (ze8 (zag g p.lv) p.seeds r).1 else List.replicate g.size.toNat 0
def zhj (g : Gr) (p : Pol) (salt : ByteArray) (n r x : Int) : Rw :=
 ⟨x,dist (zag g p.lv) p.seeds x,zc5 g p.lv ((orG g p).headD 0) x,escL g.edges salt x n (othG g p),(wtsG g p r).getD x.toNat 0,decide (x∈acG g p)⟩
def tabG (g : Gr) (p : Pol) (salt : ByteArray) (n r : Int) : List Rw:=(orG g p).map (zhj g p salt n r)
theorem zl4 {g : Gr} {lv x : Int} : zc5 g lv x x=0:=by
 unfold zc5;rw [if_neg λ h=>h.2.2.2 rfl]
theorem zok (l : List Ed) (salt : ByteArray) (k n : Int) (keys : List Int) : 0<=escL l salt k n keys:=by
 unfold escL;split <;> omega
theorem zjJ (g : Gr) (p : Pol) (r : Int) : wtsG g p r=List.replicate g.size.toNat 0 ∨ ∃ h : (ze8 (zag g p.lv) p.seeds r).2=0,wtsG g p r=(ze8 (zag g p.lv) p.seeds r).1:=by
 unfold wtsG
 by_cases h : (ze8 (zag g p.lv) p.seeds r).2=0
 .rw [if_pos h]; exact .inr ⟨h,rfl⟩
 .rw [if_neg h]; exact .inl rfl
theorem zow (g : Gr) (p : Pol) (r : Int) : (wtsG g p r).length=g.size.toNat:=by
 rcases zjJ g p r with h | ⟨h,h2⟩
 .rw [h,List.length_replicate]
 .rw [h2]
  unfold ze8 at h ⊢
  by_cases h3 : zaD (zag g p.lv) p.seeds=[]
  .rw [if_pos h3] at h; cases h
  .rw [if_neg h3] at h ⊢
   split
   .rename_i h4; rw [if_pos h4] at h; cases h
   .simp [outK,zag]
theorem zns (g : Gr) (p : Pol) (r : Int) : ∀ x∈wtsG g p r,0<=x:=by
 intro x hx;rcases zjJ g p r with h | ⟨h,h2⟩
 .rw [h] at hx
  have:=List.eq_of_mem_replicate hx;omega
 .rw [h2] at hx
  unfold ze8 at h hx
  by_cases h3 : zaD (zag g p.lv) p.seeds=[]
  .rw [if_pos h3] at h; cases h
  .rw [if_neg h3] at h hx
   split at hx
   .rename_i h4; rw [if_pos h4] at h; cases h
   .simp only [outK,Qg] at hx
    obtain ⟨k,_,rfl⟩:=hx;split
    .exact Int.ediv_nonneg (Int.natCast_nonneg _) (Int.natCast_nonneg _)
    .exact UI _
theorem ziq {g : Gr} {S : List Int} (hg : GrOk g) : ∀ (n : Nat) (x : Int),dist g S x=n -> ∃ k,dist g S k=0
 | 0,x,h=>⟨x,h⟩
 | n+1,x,h=>by
   obtain ⟨e,_,_,h2⟩:=zcw hg (n:=n) (by rw [h]; omega)
   exact ziq hg n e.f h2
theorem zrX {g : Gr} {p : Pol} (hg : GrOk g) {s : Int} (hs : s∈p.seeds) : 0<=dist (zag g p.lv) p.seeds s↔s∉g.gone:=by
 have hL:=hg.level p.lv;constructor
 .intro h hgo
  by_cases h0 : dist (zag g p.lv) p.seeds s=0
  .have:=(zb7 hL).1 h0
   unfold za4 at this;simp at this;exact this.2 hgo
  .obtain ⟨n,hn⟩ : ∃ n : Nat,dist (zag g p.lv) p.seeds s=(n : Int)+1:=⟨(dist (zag g p.lv) p.seeds s - 1).toNat,by omega⟩
   obtain ⟨e,he,h1,_⟩:=zcw hL hn;have hf:=hL.fits e he;unfold Fits at hf;rw [h1] at hf;exact hf.2.2.2.2.2.2 hgo
 .intro h
  have : dist (zag g p.lv) p.seeds s=0:=(zb7 hL).2 (by unfold za4; simp; exact ⟨hs,h⟩)
  omega
def fstS (g : Gr) (p : Pol) : Int:=(p.seeds.find? λ s=>decide (0<=dist (zag g p.lv) p.seeds s)).getD (-1)
theorem zvf {g : Gr} {p : Pol} (hg : GrOk g) (hp : zaN g.size p) {x : Int} (hx : x∈orG g p) : fstS g p=(orG g p).headD 0/\fstS g p∈p.seeds/\Key g (fstS g p):=by
 have hL:=hg.level p.lv;obtain ⟨_,hx0⟩:=(zeB hL).1 hx;obtain ⟨n,hn⟩ : ∃ n : Nat,dist (zag g p.lv) p.seeds x=n:=⟨(dist (zag g p.lv) p.seeds x).toNat,by omega⟩
 obtain ⟨k,hk⟩:=ziq hL n x hn;have hst:=(zb7 hL).1 hk;unfold za4 at hst;simp at hst;obtain ⟨l,hl⟩:=zsC hg hp;have hf : (λ s=>decide (0<=dist (zag g p.lv) p.seeds s))=(λ s=>decide (0<=dist (zag g p.lv) p.seeds s)):=rfl
 have hsg : zds g p=p.seeds.filter λ s=>decide (0<=dist (zag g p.lv) p.seeds s):=by
  unfold zds;refine List.filter_congr λ s hs=>?_;rw [QE,Qe,zrX hg hs];simp
 have hkm : k∈zds g p:=by
  unfold zds;rw [Qw];exact ⟨hst.1,by simpa using (show k∉g.gone from hst.2)⟩
 have hh : (zds g p).head? = p.seeds.find? λ s=>decide (0<=dist (zag g p.lv) p.seeds s):=by rw [hsg,List.head?_filter]
 cases hc : zds g p with
 | nil=>rw [hc] at hkm; simp at hkm
 | cons a b =>
   rw [hc] at hh
   have h1 : fstS g p=a:=by
    unfold fstS;rw [<- hh];rfl
   have h2 : orG g p=a::(b++l):=by
    unfold orG;rw [hl,hc];rfl
   have h3 : a∈p.seeds:=by
    have : a∈zds g p:=by rw [hc]; exact Qm
    unfold zds at this;exact (Qw.1 this).1
   refine ⟨by rw [h1,h2]; rfl,by rw [h1]; exact h3,?_⟩
   rw [h1];have:=hp.2.1.nodup.2 a h3;exact ⟨this.1,by omega⟩
theorem zuG {g : Gr} {p : Pol} (hg : GrOk g) (hp : zaN g.size p) {x : Int} (hx : x∈orG g p) (h1 : p.seeds.length=1) (hd : 0<dist (zag g p.lv) p.seeds x) : 1<=zc5 g p.lv ((orG g p).headD 0) x:=by
 obtain ⟨h2,h3,h4⟩:=zvf hg hp hx;rw [<- h2]
 have hs : p.seeds=[fstS g p]:=by
  match hc : p.seeds,h1 with
  | [a],_=>rw [hc] at h3; simp at h3; rw [h3]
 have hk:=((zeB (hg.level p.lv)).1 hx).1;rw [hs] at hd;exact zj6 hg ⟨hp.2.2.2.2.1,hp.2.2.2.2.2.1⟩ h4 hk hd
theorem zrv (g : Gr) (lv a b : Int) (hg : GrOk g) (ha : 0<=a) (hb : 0<=b) : AcP 97 [eG g,.I lv,.I a,.I b] [] (eN ⟨2+2*g.size.toNat,netP g lv a b⟩) []:=by
 refine zji.s.ac ?_;show awp _ 0 _ _ ⟨92,[(0,eG g),(1,.I lv),(2,.I a),(3,.I b)],[],16⟩;have hs0:=hg.1.1;have hs1:=hg.1.2.1;have hel:=hg.edges_le;obtain ⟨n,hn⟩ : ∃ n : Nat,g.size=n:=⟨g.size.toNat,by omega⟩
 have hnn : g.size.toNat=n:=by omega
 have hen:=zkM n (by omega) (by omega)
 refine zaa ⟨92,[(1,.I lv),(2,.I a),(3,.I b),(4,.pv (gC g)),(8,.pt 24 0 0)],[(24,some ⟨2,[[.I 0,.nilS]],0⟩)],100⟩ rfl ?_ ?_
 .simp
  exact LeH [(24,24)] [16]
 refine zaa ⟨92,[(1,.I lv),(2,.I a),(3,.I b),(4,.pv (gC g)),(8,.pt 24 0 0),(9,.pt 50 0 0)],[(24,some ⟨2,[[.I 0,.nilS]],0⟩),(50,some ⟨2,[[.I (2+2*(n : Int)),.nilS]],0⟩)],200⟩ rfl ?_ ?_
 .simp [hn]
  refine cl0 hen ?_;simp [zeQ];exact LeH [(24,24),(132,50)] []
 have hIT : ∀ (k : Nat) (f : Ed->List AV),((innA a b k).map f).take (innA a b k).length=(innA a b k).map f:=λ k f=>Qb (by simp)
 refine zap (ι:=Unit) (λ _=>⟨92,[(1,.I lv),(2,.I a),(3,.I b),(4,.pv (gC g)),(8,.pt 24 0 0),(9,.pt 50 0 0)],[(24,some ⟨2,[[.I 0,.nilS]],0⟩),(50,some ⟨2,[[.I (2+2*(n : Int)),.rs 51 0 (innA a b n).length]],0⟩),(51,some ⟨3,zaC (innA a b n),0⟩)],5000⟩) (λ _=>True) ?_ λ _ _=>?_
 .refine zaa ⟨92,[(1,.I lv),(2,.I a),(3,.I b),(4,.pv (gC g)),(8,.pt 24 0 0),(9,.pt 50 0 0),(19,.I n),(20,.I 0)],[(24,some ⟨2,[[.I 0,.nilS]],0⟩),(50,some ⟨2,[[.I (2+2*(n : Int)),.nilS]],0⟩)],300⟩ rfl ?_ ?_
  .simp [hn]
   exact LeH [(24,24),(50,50)] []
  refine zad (zaj (ι:=Nat) (λ i=>⟨92,[(1,.I lv),(2,.I a),(3,.I b),(4,.pv (gC g)),(8,.pt 24 0 0),(9,.pt 50 0 0),(19,.I n),(20,.I i)],[(24,some ⟨2,[[.I 0,.nilS]],0⟩),(50,some ⟨2,[[.I (2+2*(n : Int)),.rs 51 0 (innA a b i).length]],0⟩),(51,some ⟨3,zaC (innA a b i),0⟩)],1000⟩) (λ i=>i<=n) (λ i=>n - i) 0 (Qi _) ?_ ?_)
  .exact Le.lst [(24,24),(50,50)] [] [(51,3)] rfl (by simp) (by simp) (by simp) (by simp) (by simp) (by simp) (by simp) (by simp [Up]) (by simp [fcd,innA]; exact ⟨zaA.rfl' (by simp),zaA.row rfl (by omega) (by simp [UpL,Up,Wk.refl])⟩)
  intro i hi;refine zaa ⟨92,[(1,.I lv),(2,.I a),(3,.I b),(4,.pv (gC g)),(8,.pt 24 0 0),(9,.pt 50 0 0),(19,.I n),(20,.I i),(21,.B (decide (i<n)))],[(24,some ⟨2,[[.I 0,.nilS]],0⟩),(50,some ⟨2,[[.I (2+2*(n : Int)),.rs 51 0 (innA a b i).length]],0⟩),(51,some ⟨3,zaC (innA a b i),0⟩)],1100⟩ rfl ?_ ?_
  .simp
   exact LeI [(24,24),(50,50),(51,51)] []
  refine zab (zac _ rfl (λ hc=>?_) λ hc=>?_)
  .rw [Qe] at hc
   have hwi : IntKind.i64.wrap ((i : Int)+1)=(i : Int)+1:=w6;have hent:=zkM i (by omega) (by omega)
   have hw3 : IntKind.i64.wrap (2+2*(i : Int)+1)=3+2*i:=by rw [w6]; omega
   have hsu:=zl7 (a:=a) (b:=b) i;have hle:=zkt (a:=a) (b:=b) i;have hIT2:=hIT i;obtain ⟨I,hI⟩ : ∃ I,I=innA a b i:=⟨_,rfl⟩;rw [<- hI] at hsu hle hIT2;refine zae (zap (ι:=Unit) (λ _=>⟨92,[(1,.I lv),(2,.I a),(3,.I b),(4,.pv (gC g)),(8,.pt 24 0 0),(9,.pt 50 0 0),(19,.I n),(20,.I i)],[(24,some ⟨2,[[.I 0,.nilS]],0⟩),(50,some ⟨2,[[.I (2+2*(n : Int)),.rs 51 0 (innA a b (i+1)).length]],0⟩),(51,some ⟨3,zaC (innA a b (i+1)),0⟩)],4000⟩) (λ _=>True) ?_ λ _ _=>?_)
   .refine zad (zaa ⟨92,[(1,.I lv),(2,.I a),(3,.I b),(4,.pv (gC g)),(8,.pt 24 0 0),(9,.pt 50 0 0),(10,.I i),(19,.I n),(20,.I i)],[(24,some ⟨2,[[.I 0,.nilS]],0⟩),(50,some ⟨2,[[.I (2+2*(n : Int)),.rs 51 0 I.length]],0⟩),(51,some ⟨3,zaC I,0⟩)],1300⟩ rfl ?_ ?_)
    .simp
     exact Le.go [(24,24),(50,50),(51,51)] [] rfl rfl (by simp) (by simp [fcd,hI])
    refine zaa ⟨92,[(1,.I lv),(2,.I a),(3,.I b),(4,.pv (gC g)),(8,.pt 24 0 0),(9,.pt 50 0 0),(10,.I i),(19,.I n),(20,.I i),(30,.B (decide ((i : Int)≠a/\(i : Int)≠b)))],[(24,some ⟨2,[[.I 0,.nilS]],0⟩),(50,some ⟨2,[[.I (2+2*(n : Int)),.rs 51 0 I.length]],0⟩),(51,some ⟨3,zaC I,0⟩)],1500⟩ rfl ?_ ?_
    .by_cases h1 : (i : Int)=a
     .have hb1 : ((i : Int) != a)=false:=by simp [h1]
      simp [hb1];exact Le.go [(24,24),(50,50),(51,51)] [] rfl rfl (by simp [h1]) (by simp [fcd])
     .have hb1 : ((i : Int) != a)=true:=by simp [h1]
      simp [hb1];exact Le.go [(24,24),(50,50),(51,51)] [] rfl rfl (by simp [h1] <;> exact wkB (by rw [QE]; simp)) (by simp [fcd])
    refine zac _ rfl (λ hq=>?_) λ hq=>?_
    .rw [Qe] at hq
     rw [if_pos hq] at hsu;refine zaP rfl ?_;simp;refine cl0 hent ?_;simp;refine cl0 hent ?_;simp [zeQ,zdm,hw3];refine ⟨by omega,by omega,rfl,?_⟩
     rw [hsu];exact Le.go [(24,24),(50,50),(1572,51)] [] rfl rfl (by simp) (by simp [fcd,hIT2])
    .rw [Qc] at hq
     rw [if_neg hq,QX] at hsu;refine zae ⟨(),trivial,?_⟩;rw [hsu];exact LeI [(24,24),(50,50),(51,51)] []
   refine zal (s:=?z42) rfl ?p42 ?r42
   case p42=>simp [hwi]; rfl
   exact ⟨i+1,by omega,by omega,LeI [(24,24),(50,50),(51,51)] []⟩
  .rw [Qc] at hc
   obtain rfl : i=n:=by omega
   exact zai (hit ⟨(),trivial,LeI [(24,24),(50,50),(51,51)] []⟩)
 obtain ⟨J,hJ⟩ : ∃ J,J=λ i=>innA a b n++(g.edges.take i).flatMap (arcP lv a b):=⟨_,rfl⟩;have hJ0 : J 0=innA a b n:=by rw [hJ]; simp
 have hJn : J g.edges.length=netP g lv a b:=by rw [hJ]; unfold netP; simp only [Q1,hnn]
 have hJl : ∀ i,(J i).length<=1000:=λ i=>by
  rw [hJ];have h1:=zkt (a:=a) (b:=b) n;have h2:=ziA (lv:=lv) (a:=a) (b:=b) (g.edges.take i);have h3:=Ve i g.edges;simp only [Qh];omega
 have hJs : ∀ i (h : i<g.edges.length),J (i+1)=J i++arcP lv a b g.edges[i]:=λ i h=>by
  rw [hJ];simp only;rw [zpU h,Qx]
 refine zap (ι:=Unit) (λ _=>⟨92,[(8,.pt 24 0 0),(9,.pt 50 0 0)],[(24,some ⟨2,[[.I 0,.nilS]],0⟩),(50,some ⟨2,[[.I (2+2*(n : Int)),.rs 51 0 (J g.edges.length).length]],0⟩),(51,some ⟨3,zaC (J g.edges.length),0⟩)],20000⟩) (λ _=>True) ?_ λ _ _=>?_
 .refine zaa ⟨92,[(1,.I lv),(2,.I a),(3,.I b),(8,.pt 24 0 0),(9,.pt 50 0 0),(44,eEs g.edges),(45,.I g.edges.length),(46,.I 0)],[(24,some ⟨2,[[.I 0,.nilS]],0⟩),(50,some ⟨2,[[.I (2+2*(n : Int)),.rs 51 0 (J 0).length]],0⟩),(51,some ⟨3,zaC (J 0),0⟩)],5300⟩ rfl ?_ ?_
  .simp
   exact Le.go [(24,24),(50,50),(51,51)] [] rfl rfl (by simp) (by simp [fcd,hJ0])
  refine zad (zaj (ι:=Nat) (λ i=>⟨92,[(1,.I lv),(2,.I a),(3,.I b),(8,.pt 24 0 0),(9,.pt 50 0 0),(44,eEs g.edges),(45,.I g.edges.length),(46,.I i)],[(24,some ⟨2,[[.I 0,.nilS]],0⟩),(50,some ⟨2,[[.I (2+2*(n : Int)),.rs 51 0 (J i).length]],0⟩),(51,some ⟨3,zaC (J i),0⟩)],6000⟩) (λ i=>i<=g.edges.length) (λ i=>g.edges.length - i) 0 (Qi _) (LeI [(24,24),(50,50),(51,51)] []) ?_);intro i hi;refine zaa ⟨92,[(1,.I lv),(2,.I a),(3,.I b),(8,.pt 24 0 0),(9,.pt 50 0 0),(44,eEs g.edges),(45,.I g.edges.length),(46,.I i),(47,.B (decide (i<g.edges.length)))],[(24,some ⟨2,[[.I 0,.nilS]],0⟩),(50,some ⟨2,[[.I (2+2*(n : Int)),.rs 51 0 (J i).length]],0⟩),(51,some ⟨3,zaC (J i),0⟩)],6100⟩ rfl ?_ ?_
  .simp
   exact LeI [(24,24),(50,50),(51,51)] []
  refine zab (zac _ rfl (λ hc=>?_) λ hc=>?_)
  .rw [Qe] at hc
   have hwi : IntKind.i64.wrap ((i : Int)+1)=(i : Int)+1:=w6;have hfit:=hg.fits g.edges[i] (Qj hc);have hsu:=hJs i hc;have hle:=hJl i;obtain ⟨e,he⟩ : ∃ e,e=g.edges[i]:=⟨_,rfl⟩;rw [<- he] at hfit hsu;unfold Fits at hfit;obtain ⟨I,hI⟩ : ∃ I,I=J i:=⟨_,rfl⟩;rw [<- hI] at hsu hle;have hIT2 : ∀ f : Ed->List AV,(I.map f).take I.length=I.map f:=λ f=>Qb (by simp)
   have hef:=zkM e.f (by omega) (by omega)
   have het:=zkM e.t (by omega) (by omega)
   have hw3 : IntKind.i64.wrap (2+2*e.f+1)=3+2*e.f:=by rw [w6]; omega
   refine zae (zap (ι:=Unit) (λ _=>⟨92,[(1,.I lv),(2,.I a),(3,.I b),(8,.pt 24 0 0),(9,.pt 50 0 0),(44,eEs g.edges),(45,.I g.edges.length),(46,.I i)],[(24,some ⟨2,[[.I 0,.nilS]],0⟩),(50,some ⟨2,[[.I (2+2*(n : Int)),.rs 51 0 (J (i+1)).length]],0⟩),(51,some ⟨3,zaC (J (i+1)),0⟩)],18000⟩) (λ _=>True) ?_ λ _ _=>?_)
   .refine zad (zaa ⟨92,[(1,.I lv),(2,.I a),(3,.I b),(8,.pt 24 0 0),(9,.pt 50 0 0),(44,eEs g.edges),(45,.I g.edges.length),(46,.I i),(12,.pv (eC e))],[(24,some ⟨2,[[.I 0,.nilS]],0⟩),(50,some ⟨2,[[.I (2+2*(n : Int)),.rs 51 0 (I).length]],0⟩),(51,some ⟨3,zaC (I),0⟩)],6300⟩ rfl ?_ ?_)
    .simp [hc,<- he]
     exact Le.go [(24,24),(50,50),(51,51)] [6116] rfl rfl (by simp) (by simp [fcd,hI])
    refine zab (zaa ⟨92,[(1,.I lv),(2,.I a),(3,.I b),(8,.pt 24 0 0),(9,.pt 50 0 0),(44,eEs g.edges),(45,.I g.edges.length),(46,.I i),(12,.pv (eC e)),(65,.B (decide (e.v<lv∨e.t=a∨e.f=b)))],[(24,some ⟨2,[[.I 0,.nilS]],0⟩),(50,some ⟨2,[[.I (2+2*(n : Int)),.rs 51 0 (I).length]],0⟩),(51,some ⟨3,zaC (I),0⟩)],6500⟩ rfl ?_ ?_)
    .by_cases h1 : e.v<lv
     .simp [h1]
      exact Le.go [(24,24),(50,50),(51,51)] [] rfl rfl (by simp [h1]) (by simp [fcd])
     .by_cases h2 : e.t=a
      .have hb2 : (e.t == a)=true:=by simp [h2]
       simp [h1,hb2];exact Le.go [(24,24),(50,50),(51,51)] [] rfl rfl (by simp [h1,h2]) (by simp [fcd])
      .have hb2 : (e.t == a)=false:=by simp [h2]
       simp [h1,hb2];exact Le.go [(24,24),(50,50),(51,51)] [] rfl rfl (by simp [h1,h2] <;> exact wkB (by rw [QE]; simp)) (by simp [fcd])
    refine zac _ rfl (λ hq=>?_) λ hq=>?_
    .rw [Qe] at hq
     have hap : arcP lv a b e=[]:=by unfold arcP; rw [if_pos hq]
     rw [hap,QX] at hsu;refine zai (hit ⟨(),trivial,?_⟩);rw [hsu];exact LeI [(24,24),(50,50),(51,51)] []
    rw [Qc] at hq;have hap : arcP lv a b e=[⟨if e.f=a then 0 else 3+2*e.f,if e.t=b then 1 else 2+2*e.t,1⟩]:=by unfold arcP; rw [if_neg hq]
    rw [hap] at hsu;obtain ⟨u,hu⟩ : ∃ u,u=if e.f=a then 0 else 3+2*e.f:=⟨_,rfl⟩
    obtain ⟨w,hw⟩ : ∃ w,w=if e.t=b then 1 else 2+2*e.t:=⟨_,rfl⟩
    rw [<- hu,<- hw] at hsu;refine zae (zas ⟨92,[(1,.I lv),(2,.I a),(3,.I b),(8,.pt 24 0 0),(9,.pt 50 0 0),(44,eEs g.edges),(45,.I g.edges.length),(46,.I i),(12,.pv (eC e)),(13,.pt 60 0 0)],[(24,some ⟨2,[[.I 0,.nilS]],0⟩),(50,some ⟨2,[[.I (2+2*(n : Int)),.rs 51 0 (I).length]],0⟩),(51,some ⟨3,zaC (I),0⟩),(60,some ⟨3,[[.I (3+2*e.f),.I (2+2*e.t),.I 1]],0⟩)],7000⟩ rfl ?_ ?_)
    .simp
     refine cl0 hef ?_;simp;refine cl0 het ?_;simp [zeQ,hw3];exact ⟨rfl,LeI [(24,24),(50,50),(51,51),(6564,60)] []⟩
    refine zap (ι:=Unit) (λ _=>⟨92,[(1,.I lv),(2,.I a),(3,.I b),(8,.pt 24 0 0),(9,.pt 50 0 0),(44,eEs g.edges),(45,.I g.edges.length),(46,.I i),(12,.pv (eC e)),(13,.pt 60 0 0)],[(24,some ⟨2,[[.I 0,.nilS]],0⟩),(50,some ⟨2,[[.I (2+2*(n : Int)),.rs 51 0 (I).length]],0⟩),(51,some ⟨3,zaC (I),0⟩),(60,some ⟨3,[[.I (u),.I (2+2*e.t),.I 1]],0⟩)],9000⟩) (λ _=>True) ?_ λ _ _=>?_
    .refine zaa ⟨92,[(1,.I lv),(2,.I a),(3,.I b),(8,.pt 24 0 0),(9,.pt 50 0 0),(44,eEs g.edges),(45,.I g.edges.length),(46,.I i),(12,.pv (eC e)),(13,.pt 60 0 0),(77,.B (decide (e.f=a)))],[(24,some ⟨2,[[.I 0,.nilS]],0⟩),(50,some ⟨2,[[.I (2+2*(n : Int)),.rs 51 0 (I).length]],0⟩),(51,some ⟨3,zaC (I),0⟩),(60,some ⟨3,[[.I (3+2*e.f),.I (2+2*e.t),.I 1]],0⟩)],7200⟩ rfl ?_ ?_
     .simp
      exact Le.go [(24,24),(50,50),(51,51),(60,60)] [] rfl rfl (by simp <;> exact wkB (by rw [QE]; simp)) (by simp [fcd])
     refine zac _ rfl (λ h1=>?_) λ h1=>?_
     .rw [Qe] at h1
      rw [if_pos h1] at hu;subst hu;refine zan rfl ?_;simp;exact LeI [(24,24),(50,50),(51,51),(60,60)] []
     .rw [Qc] at h1
      rw [if_neg h1] at hu;subst hu;exact zae ⟨(),trivial,LeI [(24,24),(50,50),(51,51),(60,60)] []⟩
    refine zap (ι:=Unit) (λ _=>⟨92,[(1,.I lv),(2,.I a),(3,.I b),(8,.pt 24 0 0),(9,.pt 50 0 0),(44,eEs g.edges),(45,.I g.edges.length),(46,.I i),(12,.pv (eC e)),(13,.pt 60 0 0)],[(24,some ⟨2,[[.I 0,.nilS]],0⟩),(50,some ⟨2,[[.I (2+2*(n : Int)),.rs 51 0 (I).length]],0⟩),(51,some ⟨3,zaC (I),0⟩),(60,some ⟨3,[[.I (u),.I (w),.I 1]],0⟩)],12000⟩) (λ _=>True) ?_ λ _ _=>?_
    .refine zaa ⟨92,[(1,.I lv),(2,.I a),(3,.I b),(8,.pt 24 0 0),(9,.pt 50 0 0),(44,eEs g.edges),(45,.I g.edges.length),(46,.I i),(12,.pv (eC e)),(13,.pt 60 0 0),(82,.B (decide (e.t=b)))],[(24,some ⟨2,[[.I 0,.nilS]],0⟩),(50,some ⟨2,[[.I (2+2*(n : Int)),.rs 51 0 (I).length]],0⟩),(51,some ⟨3,zaC (I),0⟩),(60,some ⟨3,[[.I (u),.I (2+2*e.t),.I 1]],0⟩)],9200⟩ rfl ?_ ?_
     .simp
      exact Le.go [(24,24),(50,50),(51,51),(60,60)] [] rfl rfl (by simp <;> exact wkB (by rw [QE]; simp)) (by simp [fcd])
     refine zac _ rfl (λ h1=>?_) λ h1=>?_
     .rw [Qe] at h1
      rw [if_pos h1] at hw;subst hw;refine zan rfl ?_;simp;exact LeI [(24,24),(50,50),(51,51),(60,60)] []
     .rw [Qc] at h1
      rw [if_neg h1] at hw;subst hw;exact zae ⟨(),trivial,LeI [(24,24),(50,50),(51,51),(60,60)] []⟩
    refine zan rfl ?_;simp [zdm];refine ⟨by omega,by omega,?_⟩
    rw [hsu];exact Le.go [(24,24),(50,50),(12032,51)] [] rfl rfl (by simp) (by simp [fcd,hIT2])
   refine zal (s:=?z90) rfl ?p90 ?r90
   case p90=>simp [hwi]; rfl
   exact ⟨i+1,by omega,by omega,LeI [(24,24),(50,50),(51,51)] []⟩
  .rw [Qc] at hc
   obtain rfl : i=g.edges.length:=by omega
   exact zai (hit ⟨(),trivial,LeI [(24,24),(50,50),(51,51)] []⟩)
 rw [hJn,hnn];have hNT : ∀ f : Ed->List AV,((netP g lv a b).map f).take (netP g lv a b).length=(netP g lv a b).map f:=λ f=>Qb (by simp)
 refine zaa ⟨92,[(8,.pt 24 0 0)],[(24,some ⟨2,[nC ⟨2+2*(n : Int),netP g lv a b⟩],0⟩)],30000⟩ rfl ?_ ?_
 .simp
  exact Le.go [(24,24)] [51] rfl rfl (by simp) (by simp [fcd,hNT])
 exact zah ⟨.inr rfl,zao.out [] [24] rfl (by simp) (by simp) (by simp) (by simp)⟩
theorem zk5 (g : Gr) (lv a b : Int) (hg : GrOk g) : AcP 46 [eG g,.I lv,.I a,.I b] [] (.I (zc5 g lv a b)) []:=by
 refine zn5.s.ac ?_;show awp _ 0 _ _ ⟨31,[(0,eG g),(1,.I lv),(2,.I a),(3,.I b)],[],16⟩;have hask:=zuf g lv a b hg.1.1 hg.1.2.1;refine rs [1,2,3,4] [] [16] ?_;refine zab (zaa ⟨31,[(1,.I lv),(2,.I a),(3,.I b),(4,.pv (gC g)),(17,.B (!decide (zdp g lv a b)))],[],300⟩ rfl ?_ ?_)
 .simp
  refine cl0 hask ?_;simp;exact LeH [] []
 refine zac _ rfl (λ hc=>?_) λ hc=>?_
 .have hno : ¬ zdp g lv a b:=by simpa using hc
  have hm : zc5 g lv a b=0:=if_neg hno;refine rs [8] [] [] ?_;exact zah ⟨.inr rfl,zao.one (by simp [hm])⟩
 have hy : zdp g lv a b:=by simpa using hc
 have hm : zc5 g lv a b=maxF (2+2*g.size.toNat) (netP g lv a b):=if_pos hy;have hnet:=zrv g lv a b hg hy.2.1.1 hy.2.2.1.1;have hval:=zhM (lv:=lv) (a:=a) (b:=b) hg
 have hval2 : zaT ⟨((2+2*g.size.toNat : Nat) : Int),netP g lv a b⟩:=by
  have e : ((2+2*g.size.toNat : Nat) : Int)=2+2*(g.size.toNat : Int):=by omega
  rw [e]; exact hval
 obtain ⟨f,⟨hf1,hf2⟩,hmax⟩:=zjU (2+2*g.size.toNat) (netP g lv a b) hval2
 have hfl : f.length<=1099511627776:=by
  have:=hf1.fit.len;have h2:=hval.2.2.1;simp only at h2;omega
 have hfv:=zfx (f:=f) hval2 hfl;rw [if_pos hf1,<- zd1 hf1 hf2,<- hm] at hfv;have e : ((2+2*g.size.toNat : Nat) : Int)=2+2*(g.size.toNat : Int):=by omega
 rw [e] at hmax hfv;have hfn : f.length=(netP g lv a b).length:=hf1.fit.len;obtain ⟨A,hA⟩ : ∃ A,A=netP g lv a b:=⟨_,rfl⟩;rw [<- hA] at hnet hmax hfv hfn;have hfT : ∀ F : Int->List AV,(f.map F).take A.length=f.map F:=λ F=>Qb (by simp [hfn])
 refine zae (zaa ⟨31,[(9,.pv (nC ⟨2+2*g.size.toNat,A⟩))],[],500⟩ rfl ?_ ?_)
 .simp
  refine cl0 hnet ?_;simp;exact LeH [] [340]
 refine zaa ⟨31,[(9,.pv (nC ⟨2+2*g.size.toNat,A⟩)),(10,ints f)],[],700⟩ rfl ?_ ?_
 .simp
  refine cn1 hmax ?_;simp;exact Le.go [] [508] rfl rfl (by simp [fcd,hfT,hfn]) (by simp)
 refine rx (s:=?z6) [8] [] [] rfl ?p6 ?r6
 case p6=>simp; refine zau hfv (by simp) ?_; simp; rfl
 exact zaI
section
variable (g : Gr) (p : Pol) (r : Int) (hg : GrOk g) (hp : zaN g.size p) (hN : g.size<20) (hr : 1<=r) (hr5 : r<=5) (hs : p.seeds.length<=64) (ht : p.table.length<=8)
include hg hp hN hr hr5 hs ht
theorem zts : ∀ s∈p.seeds,Key (zag g p.lv) s:=λ s h=>by
 have hR:=hp.2.1;obtain ⟨i,hi,rfl⟩:=Ut h;have:=hR i hi;exact ⟨this.1,by show p.seeds[i]<g.size; omega⟩
theorem zpL : AcP 40 [eG g,eP p,.I r] [] (.tup [ints (ze8 (zag g p.lv) p.seeds r).1,.I (ze8 (zag g p.lv) p.seeds r).2]) []:=by
 refine ze3.s.ac ?_;show awp _ 0 _ _ ⟨81,[(0,eG g),(1,eP p),(2,.I r)],[],16⟩;have hgiv:=ztO g p r hg hp hN hr hr5 hs ht;have hGg:=hg.level p.lv;have hS:=zts g p r hg hp hN hr hr5 hs ht;have hsz : (zag g p.lv).size=g.size:=rfl;obtain ⟨G,hGd⟩ : ∃ G,G=zag g p.lv:=⟨_,rfl⟩;rw [<- hGd] at hgiv hGg hS hsz ⊢;have hmass:=λ i (h : i<(zaD G p.seeds).length)=>zmR G p.seeds r hGg hr hr5 (i:=i) h;have htree:=λ (h9 : (zaD G p.seeds).length<=9) i (h : i<(zaD G p.seeds).length)=>zsB G p.seeds r hGg hr hr5 hS h9 (i:=i) h;have hraw:=λ (h9 : (zaD G p.seeds).length<=9) i (h : i<(zaD G p.seeds).length)=>zry hGg hr hr5 hS h9 (i:=i) h;have hgp:=λ (h9 : (zaD G p.seeds).length<=9) (h : 0<(zaD G p.seeds).length)=>ztF hGg hr hr5 hS h9 h;have hin:=λ i (h : i<(zaD G p.seeds).length)=>zc1.1 (Qj h)
 have hK64 : (zaD G p.seeds).length<=64:=by
  have:=zmh (g:=G) (S:=p.seeds);have:=hGg.1.2.1;omega
 have hs0:=hg.1.1;have hs1:=hg.1.2.1;have hoA:=λ i y (h : i<(zaD G p.seeds).length) h2=>zw1 (G:=G) (S:=p.seeds) (r:=r) (i:=i) (y:=y) h h2;have hoB:=λ i y (h : i<(zaD G p.seeds).length) h2=>zxh (G:=G) (S:=p.seeds) (r:=r) (i:=i) (y:=y) h h2;have hoG:=λ i y (h : i<(zaD G p.seeds).length) h2 h3=>zwv (G:=G) (S:=p.seeds) (r:=r) (i:=i) (y:=y) h h2 h3;have hoH:=λ i y (h : i<(zaD G p.seeds).length) h2 h3=>zw9 (G:=G) (S:=p.seeds) (r:=r) (i:=i) (y:=y) h h2 h3;obtain ⟨K,hKd⟩ : ∃ K,K=zaD G p.seeds:=⟨_,rfl⟩;obtain ⟨L,hLd⟩ : ∃ L,L=zfi G p.seeds r:=⟨_,rfl⟩;have hsg : ze8 G p.seeds r=if K=[] then ([],11) else if 9<K.length then ([],3) else (outK G p.seeds r,0):=by rw [hKd]; rfl
 rw [hsg];have hall : oA G p.seeds r K.length=oB G p.seeds r 0:=by rw [hKd]; exact zw2
 have hall2 : oB G p.seeds r K.length=outK G p.seeds r:=by rw [hKd]; exact zxe
 rw [<- hKd] at hK64;simp only [<- hKd,<- hLd] at hgiv hmass htree hraw hgp hin hoA hoB hoG hoH;refine zaa ⟨81,[(2,.I r),(3,.pv (gC g)),(4,.pv (pC p)),(6,.nilS),(7,.I 0)],[],100⟩ rfl ?_ ?_
 .simp
  exact LeH [] [16,24]
 refine zaa ⟨81,[(3,.pv (gC g)),(6,.nilS),(7,.I 0),(8,.pv [ints K,zbn L]),(9,.I 0)],[],200⟩ rfl ?_ ?_
 .simp
  refine cl0 hgiv ?_;simp;exact LeH [] [156]
 refine zap (ι:=Unit) (λ _=>⟨81,[(3,.pv (gC g)),(8,.pv [ints K,zbn L])],[],900⟩) (λ _=>K≠[]/\K.length<=9) ?_ λ _ hK=>?_
 .refine zad (rs [3,6,7,8,9,23] [] [] ?_)
  refine zac _ rfl (λ h=>by simp at h) λ _=>?_
  refine zaa ⟨81,[(3,.pv (gC g)),(6,.nilS),(7,.I 0),(8,.pv [ints K,zbn L]),(27,.B (decide (K=[])))],[],400⟩ rfl ?_ ?_
  .simp
   exact Le.go [] [] rfl rfl (by simp <;> exact wkB (by rw [QE]; simp [UU])) (by simp)
  refine zac _ rfl (λ h=>?_) λ h=>?_
  .rw [Qe] at h
   rw [if_pos h];refine rs [6,7] [] [] ?_;exact zah ⟨.inr rfl,zao.out [] [] rfl (by simp) (by simp) (by simp; exact wkT2 (.nil 1 false) (.refl _)) (by simp)⟩
  rw [Qc] at h;rw [if_neg h];refine zaa ⟨81,[(3,.pv (gC g)),(6,.nilS),(7,.I 0),(8,.pv [ints K,zbn L]),(32,.B (decide (9<K.length)))],[],500⟩ rfl ?_ ?_
  .simp
   exact Le.go [] [] rfl rfl (by simp <;> exact wkB (by rw [QE]; simp; omega)) (by simp)
  refine zac _ rfl (λ h2=>?_) λ h2=>?_
  .rw [Qe] at h2
   rw [if_pos h2];refine rs [6,7] [] [] ?_;exact zah ⟨.inr rfl,zao.out [] [] rfl (by simp) (by simp) (by simp; exact wkT2 (.nil 1 false) (.refl _)) (by simp)⟩
  rw [Qc] at h2;exact zae ⟨(),⟨h,by omega⟩,LeH [] []⟩
 obtain ⟨hKne,hK9⟩:=hK;have hK0 : 0<K.length:=Ux.2 hKne;rw [if_neg hKne,if_neg (by omega)]
 obtain ⟨n,hn⟩ : ∃ n,n=K.length:=⟨_,rfl⟩;obtain ⟨N,hNd⟩ : ∃ N,N=G.size.toNat:=⟨_,rfl⟩;have hgs : g.size=N:=by omega
 have hNl : ∀ i,(oA G p.seeds r i).length=N:=λ i=>by rw [zxb,hNd]
 have hNl2 : ∀ i,(oB G p.seeds r i).length=N:=λ i=>by rw [zxP,hNd]
 have hz : zaf (oA G p.seeds r 0)=List.replicate N [AV.I 0]:=by rw [zve,hNd]
 refine zaa ⟨81,[(8,.pv [ints K,zbn L]),(10,.rs 50 0 N)],[(50,some ⟨1,zaf (oA G p.seeds r 0),0⟩)],1000⟩ rfl ?_ ?_
 .simp [hgs]
  exact ⟨by omega,by omega,Le.go [(916,50)] [] rfl rfl (by simp) (by simp [hz,fcd])⟩
 refine rx (s:=?z8) [8,10,11] [50] [] rfl ?p8 ?r8
 case p8=>simp [fcd]; rfl
 have hg0 : gcdL ((List.range 0).map (rawK G p.seeds r))=0:=rfl;refine zap (ι:=Unit) (λ _=>⟨81,[(8,.pv [ints K,zbn L]),(10,.rs 50 0 N),(11,.I (gcdL (zmP G p.seeds r) : Nat))],[(50,some ⟨1,zaf (oB G p.seeds r 0),0⟩)],4000⟩) (λ _=>True) ?_ λ _ _=>?_
 .refine rx (s:=?z9) [8,10,11,41,42,43] [50] [] rfl ?p9 ?r9
  case p9=>simp [<- hn,fcd]; rfl
  refine zad (zaj (ι:=Nat) (λ i=>⟨81,[(8,.pv [ints K,zbn L]),(10,.rs 50 0 N),(11,.I (gcdL ((List.range i).map (rawK G p.seeds r)) : Nat)),(41,ints K),(42,.I n),(43,.I i)],[(50,some ⟨1,zaf (oA G p.seeds r i),0⟩)],1200⟩) (λ i=>i<=n) (λ i=>n - i) 0 (Qi _) (Le.go [(50,50)] [] rfl rfl (by simp [gcdL]) (by simp [fcd])) ?_)
  intro i hi;refine rx (s:=?z10) [8,10,11,41,42,43,44] [50] [] rfl ?p10 ?r10
  case p10=>simp [fcd]; rfl
  refine zab (zac _ rfl (λ hc=>?_) λ hc=>?_)
  .simp at hc
   have hiK : i<K.length:=by omega
   have hw1 : IntKind.i64.wrap ((i : Int)+1)=(i : Int)+1:=w6;have hkey:=(hin i hiK).1;obtain ⟨y,hy⟩ : ∃ y : Nat,K[i]=(y : Int):=⟨K[i].toNat,by have:=hkey.1; omega⟩
   have hyN : y<N:=by have:=hkey.2; rw [hy] at this; omega
   obtain ⟨hr1,hr2,hr3⟩:=hraw hK9 i hiK;have hset:=hoA i y hiK hy;have hget:=hoG i y hiK hy (by omega)
   have hm:=hmass i hiK;have htr:=htree hK9 i hiK;have hwr : IntKind.i64.wrap (zfI G p.seeds r (zc4 G p.seeds i)*zkE G p.seeds r i)=((rawK G p.seeds r i : Nat) : Int):=by rw [<- hr1]; exact w6
   have hcm:=zrl (gcdL ((List.range i).map (rawK G p.seeds r))) (rawK G p.seeds r i)
   have hgs2 : gcdL ((List.range (i+1)).map (rawK G p.seeds r))=Nat.gcd (gcdL ((List.range i).map (rawK G p.seeds r))) (rawK G p.seeds r i):=by
    rw [UL,Q4];exact zly _ _
   rw [<- hgs2] at hcm;obtain ⟨q1,hq1⟩ : ∃ q,q=gcdL ((List.range i).map (rawK G p.seeds r)):=⟨_,rfl⟩;obtain ⟨q2,hq2⟩ : ∃ q,q=gcdL ((List.range (i+1)).map (rawK G p.seeds r)):=⟨_,rfl⟩;rw [<- hq1,<- hq2] at hcm;obtain ⟨w,hwd⟩ : ∃ w,w=rawK G p.seeds r i:=⟨_,rfl⟩;rw [<- hwd] at hwr hset hget hcm
   have hga : ∀ h : y<(oA G p.seeds r (i+1)).length,(oA G p.seeds r (i+1))[y]=((w : Nat) : Int):=λ h=>by
    rw [Qa h] at hget;exact Qf hget
   refine zae (zap (ι:=Unit) (λ _=>⟨81,[(8,.pv [ints K,zbn L]),(10,.rs 50 0 N),(11,.I (q2 : Nat)),(41,ints K),(42,.I n),(43,.I i)],[(50,some ⟨1,zaf (oA G p.seeds r (i+1)),0⟩)],3000⟩) (λ _=>True) ?_ λ _ _=>?_)
   .refine zad (zaa ⟨81,[(8,.pv [ints K,zbn L]),(10,.rs 50 0 N),(11,.I (q1 : Nat)),(12,.I i),(13,.I y),(41,ints K),(42,.I n),(43,.I i)],[(50,some ⟨1,zaf (oA G p.seeds r i),0⟩)],1500⟩ rfl ?_ ?_)
    .simp [hiK,hy]
     exact Le.go [(50,50)] [] rfl rfl (by simp [hq1]) (by simp [fcd])
    refine zas ⟨81,[(8,.pv [ints K,zbn L]),(10,.rs 50 0 N),(11,.I (q1 : Nat)),(12,.I i),(13,.I y),(41,ints K),(42,.I n),(43,.I i)],[(50,some ⟨1,zaf (oA G p.seeds r (i+1)),0⟩)],1800⟩ rfl ?_ ?_
    .simp
     refine cl0 hm ?_;simp;refine cl0 htr ?_;simp [hwr,hyN,hNl,hset];exact ⟨rfl,LeI [(50,50)] []⟩
    refine zan rfl ?_;simp [hyN,hNl,hga];refine cl0 hcm ?_;simp;exact LeI [(50,50)] []
   refine zal (s:=?z12) rfl ?p12 ?r12
   case p12=>simp [hw1]; rfl
   refine ⟨i+1,by omega,by omega,?_⟩
   rw [<- hq2];exact LeI [(50,50)] []
  .simp at hc
   obtain rfl : i=n:=by omega
   have hgf : gcdL ((List.range i).map (rawK G p.seeds r))=gcdL (zmP G p.seeds r):=by unfold zmP; rw [hn,hKd]
   refine zai (hit ⟨(),trivial,?_⟩);rw [hgf,<- hall,<- hn];exact LeI [(50,50)] []
 have hd0:=hgp hK9 hK0;obtain ⟨d,hdd⟩ : ∃ d,d=gcdL (zmP G p.seeds r):=⟨_,rfl⟩;rw [<- hdd] at hd0;simp only [<- hdd] at hoB;refine zap (ι:=Unit) (λ _=>⟨81,[(10,.rs 50 0 N)],[(50,some ⟨1,zaf (outK G p.seeds r),0⟩)],8000⟩) (λ _=>True) ?_ λ _ _=>?_
 .refine zaa ⟨81,[(10,.rs 50 0 N),(11,.I (d : Nat)),(66,ints K),(67,.I n),(68,.I 0)],[(50,some ⟨1,zaf (oB G p.seeds r 0),0⟩)],4500⟩ rfl ?_ ?_
  .simp [<- hn]
   exact Le.go [(50,50)] [] rfl rfl (by simp [hdd]) (by simp [fcd])
  refine zad (zaj (ι:=Nat) (λ i=>⟨81,[(10,.rs 50 0 N),(11,.I (d : Nat)),(66,ints K),(67,.I n),(68,.I i)],[(50,some ⟨1,zaf (oB G p.seeds r i),0⟩)],5000⟩) (λ i=>i<=n) (λ i=>n - i) 0 (Qi _) (LeI [(50,50)] []) ?_);intro i hi;refine rx (s:=?z20) [10,11,66,67,68,69] [50] [] rfl ?p20 ?r20
  case p20=>simp [fcd]; rfl
  refine zab (zac _ rfl (λ hc=>?_) λ hc=>?_)
  .simp at hc
   have hiK : i<K.length:=by omega
   have hw1 : IntKind.i64.wrap ((i : Int)+1)=(i : Int)+1:=w6;have hkey:=(hin i hiK).1;obtain ⟨y,hy⟩ : ∃ y : Nat,K[i]=(y : Int):=⟨K[i].toNat,by have:=hkey.1; omega⟩
   have hyN : y<N:=by have:=hkey.2; rw [hy] at this; omega
   obtain ⟨hr1,hr2,hr3⟩:=hraw hK9 i hiK;have hset:=hoB i y hiK hy;have hget:=hoH i y hiK hy (by omega)
   obtain ⟨w,hwd⟩ : ∃ w,w=rawK G p.seeds r i:=⟨_,rfl⟩;rw [<- hwd] at hr3 hset hget
   have hga : ∀ h : y<(oB G p.seeds r i).length,(oB G p.seeds r i)[y]=((w : Nat) : Int):=λ h=>by
    rw [Qa h] at hget;exact Qf hget
   have hdl:=Nat.div_le_self w d
   have hq : binV .quo (.int .i64 (w : Int)) (.int .i64 (d : Int))=some (.int .i64 ((w / d : Nat) : Int)):=by
    show (if (d : Int)=0 then none else some (Value.int .i64 (IntKind.i64.wrap ((w : Int).tdiv d))))=_
    have hwz : IntKind.i64.wrap ((w / d : Nat) : Int)=((w / d : Nat) : Int):=by
     obtain ⟨z,hz⟩ : ∃ z,z=w / d:=⟨_,rfl⟩;rw [<- hz] at hdl ⊢;exact w6
    rw [if_neg (by omega),show ((w : Int).tdiv d)=((w / d : Nat) : Int) by simp,hwz]
   refine zae (zap (ι:=Unit) (λ _=>⟨81,[(10,.rs 50 0 N),(11,.I (d : Nat)),(66,ints K),(67,.I n),(68,.I i)],[(50,some ⟨1,zaf (oB G p.seeds r (i+1)),0⟩)],7000⟩) (λ _=>True) ?_ λ _ _=>?_)
   .refine zad (zaa ⟨81,[(10,.rs 50 0 N),(11,.I (d : Nat)),(15,.I y),(66,ints K),(67,.I n),(68,.I i)],[(50,some ⟨1,zaf (oB G p.seeds r i),0⟩)],5500⟩ rfl ?_ ?_)
    .simp [hiK,hy]
     exact LeI [(50,50)] []
    refine zan rfl ?_;simp [-binV,-Int.natCast_ediv,hyN,hNl2,hga,hq,hset];exact LeI [(50,50)] []
   refine zal (s:=?z22) rfl ?p22 ?r22
   case p22=>simp [hw1]; rfl
   exact ⟨i+1,by omega,by omega,LeI [(50,50)] []⟩
  .simp at hc
   obtain rfl : i=n:=by omega
   refine zai (hit ⟨(),trivial,?_⟩);rw [<- hall2,<- hn];exact LeI [(50,50)] []
 have hol : (outK G p.seeds r).length=N:=by simp [outK,hNd]
 have hoT : ∀ f : Int->List AV,((outK G p.seeds r).map f).take N=(outK G p.seeds r).map f:=λ f=>Qb (by simp [hol])
 refine zaa ⟨81,[(6,ints (outK G p.seeds r)),(7,.I 0)],[],9000⟩ rfl ?_ ?_
 .simp
  exact Le.go [] [50] rfl rfl (by simp [hol,hoT,fcd]) (by simp)
 exact zah ⟨.inr rfl,zao.out [] [] rfl (by simp) (by simp) (by simp) (by simp)⟩
end
variable {g : Gr} {p : Pol}
def zv5 (p : Pol) (S : List Int) (k : Int) (e : Ed) : Bool:=decide (e.f=k) && (decide (p.lv<=e.v) && S.contains e.t)
def decv (g : Gr) (p : Pol) (S : List Int) (k : Int) : Bool:=g.edges.any (zv5 p S k)
def totK (g : Gr) (p : Pol) (S : List Int) (k : Int) : Int:=if S.contains k && p.seeds.contains k then (zaH g p).getD k.toNat 0 else if !S.contains k && decv g p S k then max 0 ((zaH g p).getD k.toNat 0 - 1) else 0
def totB (g : Gr) (p : Pol) (S : List Int) (n : Nat) : Int:=((List.range n).map λ (i : Nat)=>totK g p S i).sum
theorem zsk (S : List Int) (n : Nat) : totB g p S (n+1)=totB g p S n+totK g p S n:=by
 unfold totB;rw [UL,Q4,List.sum_append];simp
theorem zfA {α : Type} {q : α->Bool} {f w : α->Int} : ∀ {l : List α},(∀ x∈l,q x=true->f x<=w x)->(∀ x∈l,0<=w x)->((l.filter q).map f).sum<=(l.map w).sum
 | [],_,_=>UI _
 | x::l,h1,h2=>by
   have ih:=zfA (l:=l) (q:=q) (f:=f) (w:=w) (λ y hy=>h1 y (Qk _ hy)) λ y hy=>h2 y (Qk _ hy);have h3:=h2 x (Qm ..);have h4:=h1 x (Qm ..);rw [List.filter_cons]
   by_cases hq : q x=true
   .rw [if_pos hq]
    have:=h4 hq;simp only [Qn,Uv];omega
   .rw [if_neg hq]
    simp only [Qn,Uv];omega
theorem zij {α : Type} (f w : α->Int) : ∀ l : List α,(l.map λ x=>f x+w x).sum=(l.map f).sum+(l.map w).sum
 | []=>rfl
 | x::l=>by
   have:=zij f w l;simp only [Qn,Uv,this];omega
def zeg (g : Gr) (p : Pol) (S : List Int) (x : Int) : Bool :=
 decide (x=0) || (decide (2<=x) && (if x % 2=0 then !S.contains ((x - 2) / 2) else !S.contains ((x - 3) / 2) && !decv g p S ((x - 3) / 2)))
theorem zhy {S : List Int} {k : Int} (h : 0<=k) : zeg g p S (2+2*k) = !S.contains k:=by
 unfold zeg;rw [UX (by omega),U3 (by omega),if_pos (by omega),show (2+2*k - 2) / 2=k by omega]
 rfl
theorem zlU {S : List Int} {k : Int} (h : 0<=k) : zeg g p S (3+2*k)=(!S.contains k && !decv g p S k):=by
 unfold zeg;rw [UX (by omega),U3 (by omega),if_neg (by omega),show (3+2*k - 3) / 2=k by omega]
 rfl
theorem zxi (hg : GrOk g) (hp : zaN g.size p) (S : List Int) : zqW g p (zeg g p S)<=totB g p S g.size.toNat:=by
 have hcn:=zgV (g:=g) hp
 have hc0 : ∀ x : Int,0<=(zaH g p).getD x.toNat 0:=λ x=>by
  rw [Qd]
  cases hh : (zaH g p)[x.toNat]? with
  | none=>simp
  | some v=>exact hcn v (Uf hh)
 obtain ⟨wA,hwA⟩ : ∃ wA : Int->Int,∀ k,wA k=if S.contains k && p.seeds.contains k then (zaH g p).getD k.toNat 0 else 0:=⟨_,λ _=>rfl⟩
 obtain ⟨wB,hwB⟩ : ∃ wB : Int->Int,∀ k,wB k=if !S.contains k && decv g p S k then max 0 ((zaH g p).getD k.toNat 0 - 1) else 0:=⟨_,λ _=>rfl⟩
 have hwA0 : ∀ k,0<=wA k:=λ k=>by
  have:=hc0 k;rw [hwA]; split <;> omega
 have hwB0 : ∀ k,0<=wB k:=λ k=>by
  rw [hwB]; split <;> omega
 have htot : ∀ k,totK g p S k=wA k+wB k:=λ k=>by
  unfold totK;rw [hwA,hwB]
  cases S.contains k <;> cases p.seeds.contains k <;> simp
 have hsum : totB g p S g.size.toNat=(((List.range g.size.toNat).map λ (i : Nat)=>(i : Int)).map wA).sum+((List.range g.size.toNat).map λ (i : Nat)=>wB (i : Int)).sum:=by
  unfold totB;rw [List.map_map,<- zij]
  congr 1
  exact QG λ x _=>htot _
 have hcl : (zaH g p).length=g.size.toNat:=zbe;unfold zqW;simp only [zhE,netA,zaQ,Q4,List.sum_append,List.map_map,List.filter_nil,Uz,List.sum_nil];have hs0 : ∀ x∈p.seeds,0<=x/\x<g.size:=λ x hx=>by have:=hp.2.1.nodup.2 x hx; omega
 have h1 : ((p.seeds.filter λ x=>decide (0<(zaH g p).getD x.toNat 0)).map ((λ e : Ed=>if zeg g p S e.f=true/\zeg g p S e.t=false then e.v else 0)∘λ x : Int=>(⟨0,2+2*x,(zaH g p).getD x.toNat 0⟩ : Ed))).sum<=(((List.range g.size.toNat).map λ (i : Nat)=>(i : Int)).map wA).sum:=by
  have e1 : ((p.seeds.filter λ x=>decide (0<(zaH g p).getD x.toNat 0)).map ((λ e : Ed=>if zeg g p S e.f=true/\zeg g p S e.t=false then e.v else 0)∘λ x : Int=>(⟨0,2+2*x,(zaH g p).getD x.toNat 0⟩ : Ed)))=(p.seeds.filter λ x=>decide (0<(zaH g p).getD x.toNat 0)).map wA:=by
   refine QG λ x hx=>?_;have hx1:=(Qw.1 hx).1;have h2:=(hs0 x hx1).1;have h3 : p.seeds.contains x=true:=US.2 hx1;simp only [Function.comp];rw [hwA,h3,zhy h2,show zeg g p S 0=true from rfl]
   cases S.contains x <;> simp
  rw [e1];refine zsO wA hwA0 ((zcr hp.2.1.pair).filter _) λ x hx=>?_;have h2:=hs0 x (Qw.1 hx).1;exact Qg.2 ⟨x.toNat,QA.2 (by omega),by omega⟩
 have h2 : (((List.range (zaH g p).length).filter λ i=>decide (0<(zaH g p).getD i 0)).map ((λ e : Ed=>if zeg g p S e.f=true/\zeg g p S e.t=false then e.v else 0)∘λ i : Nat=>(⟨2+2*(i : Int),3+2*(i : Int),(zaH g p).getD i 0 - 1⟩ : Ed))).sum<=((List.range g.size.toNat).map λ (i : Nat)=>wB (i : Int)).sum:=by
  rw [hcl];refine zfA (λ i hi hq=>?_) λ i _=>hwB0 _;simp only [Function.comp];rw [hwB,zhy (by omega),zlU (by omega),UC]
  cases S.contains (i : Int) <;> cases decv g p S (i : Int) <;> simp <;> omega
 have h3 : (((zag g p.lv).edges.filter λ e=>decide (0<(zaH g p).getD e.f.toNat 0)).map ((λ e : Ed=>if zeg g p S e.f=true/\zeg g p S e.t=false then e.v else 0)∘λ e : Ed=>(⟨3+2*e.f,2+2*e.t,64⟩ : Ed))).sum<=0:=by
  have e1 : ∀ l : List Ed,(∀ e∈l,e∈(zag g p.lv).edges)->(l.map ((λ e : Ed=>if zeg g p S e.f=true/\zeg g p S e.t=false then e.v else 0)∘λ e : Ed=>(⟨3+2*e.f,2+2*e.t,64⟩ : Ed))).sum<=0:=by
   intro l
   induction l with
   | nil=>intro _; exact UI _
   | cons e l ih =>
     intro h;have ih:=ih λ y hy=>h y (Qk _ hy);have he:=Qw.1 (h e (Qm ..));have hf:=hg.fits e he.1;have hlv : p.lv<=e.v:=by have:=he.2; simp at this; omega
     unfold Fits at hf;simp only [Qn,Uv,Function.comp] at ih ⊢;rw [zhy (by omega),zlU (by omega)]
     have hno : ¬ ((!S.contains e.f && !decv g p S e.f)=true/\(!S.contains e.t)=false):=by
      rintro ⟨a,b⟩
      simp only [QT,UA,Bool.not_eq_false'] at a b
      have hd : decv g p S e.f=true:=by
       unfold decv;rw [Uq];exact ⟨e,he.1,by unfold zv5; rw [U3 rfl,U3 hlv,b]; rfl⟩
      rw [hd] at a;exact absurd a.2 (by simp)
     rw [if_neg hno];omega
  exact e1 _ λ e he=>(Qw.1 he).1
 omega
theorem zsR (hg : GrOk g) (hp : zaN g.size p) {a : List Int} (hk : zbt g p a) (ha : zar g p a) (S : List Int) : ((a.filter λ x=>S.contains x).length : Int)<=totB g p S g.size.toNat:=by
 have hsub : (a.filter λ x=>S.contains x).Sublist a:=List.filter_sublist;have h1:=ha.sublist hg hp hk hsub;have hk1 : zbt g p (a.filter λ x=>S.contains x):=hk.sub λ x hx=>hsub.subset hx;have h2:=(zcy hg hp hk1).1 h1 (zeg g p S) rfl rfl
 rw [zjZ λ k hk2=>by
  have h3:=Qw.1 hk2;have h4:=hk.rng k h3.1;rw [zhy h4.1,h3.2]
  rfl] at h2
 have:=zxi hg hp S;omega
variable {g : Gr} {p : Pol} {S : List Int} {l : Int}
section
variable {C : Int->Bool}
end
variable {g : Gr} {p : Pol} {x : Int} {l : List Int}
def zjk (g : Gr) (p : Pol) (x k : Int) : Bool:=!decide (k=x) && (!(g.edges.any λ e=>decide (e.f=k) || decide (e.t=k)) && (!decide (k∈g.gone) && !decide (k∈p.seeds)))
def zhr (g : Gr) (p : Pol) (x : Int) : List Int:=zaK g.size.toNat (zjk g p x)
structure ziv (g : Gr) (p : Pol) (x : Int) (l : List Int) : Prop where
 rng : ∀ k∈l,0<=k/\k<g.size
 ne : ∀ k∈l,k≠x
 edge : ∀ k∈l,∀ e∈g.edges,e.f≠k/\e.t≠k
 gone : ∀ k∈l,k∉g.gone
 seed : ∀ k∈l,k∉p.seeds
 pair : l.Pairwise (· < ·)
theorem zfX (n : Nat) : ziv g p x ((zhr g p x).take n):=by
 have hm : ∀ k∈(zhr g p x).take n,(0<=k/\k<g.size)/\k≠x/\(∀ e∈g.edges,e.f≠k/\e.t≠k)/\k∉g.gone/\k∉p.seeds:=λ k hk=>by
  have h1:=zcl.1 (QY hk);have h2:=h1.2;simp only [zjk,QT,UA,Qc,List.any_eq_false,UK,Qe,not_or] at h2;exact ⟨by omega,h2⟩
 exact ⟨λ k hk=>(hm k hk).1,λ k hk=>(hm k hk).2.1,λ k hk=>(hm k hk).2.2.1,λ k hk=>(hm k hk).2.2.2.1,λ k hk=>(hm k hk).2.2.2.2,(zdQ _ _).sublist (List.take_sublist _ _)⟩
theorem ziv.nodup (h : ziv g p x l) : l.Nodup:=zcr h.pair
def tieI (x : Int) (l : List Int) (i : Nat) : List Ed:=[⟨x,l.getD i 0,3⟩,⟨l.getD i 0,x,3⟩]++(if 1<l.length then [⟨l.getD i 0,l.getD ((i+1) % l.length) 0,3⟩] else [])
def tieL (x : Int) (l : List Int) : List Ed:=(List.range l.length).flatMap (tieI x l)
theorem zcH {i : Nat} (h : i<l.length) : l.getD i 0∈l:=by
 rw [Qd,Qa h,Qz];exact Qj h
theorem zmH {e : Ed} (h : e∈tieL x l) : e.v=3/\((e.f=x/\e.t∈l)∨(e.t=x/\e.f∈l)∨(e.f∈l/\e.t∈l)):=by
 obtain ⟨i,hi,h⟩:=List.mem_flatMap.1 h;have hi:=QA.1 hi;have h1:=zcH hi;unfold tieI at h;simp only [QO,Q5,Qu] at h;rcases h with rfl | rfl | h
 .exact ⟨rfl,.inl ⟨rfl,h1⟩⟩
 .exact ⟨rfl,.inr (.inl ⟨rfl,h1⟩)⟩
 .split at h
  .rw [QB] at h
   subst h;exact ⟨rfl,.inr (.inr ⟨h1,zcH (Uj _ (by omega))⟩)⟩
  .exact (Uk h).elim
theorem zrY {k : Int} (h : k∈l) : (⟨x,k,3⟩ : Ed)∈tieL x l:=by
 obtain ⟨i,hi,rfl⟩:=QF.1 h;refine List.mem_flatMap.2 ⟨i,QA.2 hi,?_⟩;unfold tieI;rw [Qd,Qa hi,Qz];simp
def ziM (a b : Ed) : Prop:=¬ (a.f=b.f/\a.t=b.t)
theorem zpc (hn : l.Nodup) {i j : Nat} (hi : i<l.length) (hj : j<l.length) (h : l.getD i 0=l.getD j 0) : i=j:=by
 rw [Qd,Qa hi,Qz,Qd,Qa hj,Qz] at h;exact (U0 hn).1 h
theorem zlK (hn : l.Nodup) (hx : x∉l) : (tieL x l).Pairwise ziM:=by
 unfold tieL;rw [List.pairwise_flatMap]
 have hm : ∀ i,i∈List.range l.length -> ∀ e∈tieI x l i,(e.f=x/\e.t=l.getD i 0)∨(e.f=l.getD i 0/\(e.t=x∨e.t∈l)):=λ i hi e he=>by
  unfold tieI at he;simp only [QO,Q5,Qu] at he;rcases he with rfl | rfl | h
  .exact .inl ⟨rfl,rfl⟩
  .exact .inr ⟨rfl,.inl rfl⟩
  .split at h
   .rw [QB] at h
    subst h;exact .inr ⟨rfl,.inr (zcH (Uj _ (by omega)))⟩
   .exact (Uk h).elim
 constructor
 .intro i hi
  have h1:=zcH (QA.1 hi);have h2 : x≠l.getD i 0:=λ e=>hx (e ▸ h1);unfold tieI;simp only [QO,Q5,Ur,Qu];refine ⟨λ e he=>?_,λ e he=>?_,?_⟩
  .rcases he with rfl | h
   .exact λ h=>h2 h.1
   .split at h
    .rw [QB] at h; subst h; exact λ h=>h2 h.1
    .exact (Uk h).elim
  .split at he
   .rename_i h3
    rw [QB] at he;subst he;exact λ h=>hx ((show x=_ from h.2) ▸ zcH (Uj _ (by omega)))
   .exact (Uk he).elim
  .split
   .exact List.pairwise_singleton _ _
   .exact .nil
 .refine List.pairwise_lt_range.imp_of_mem λ {i j} hi hj hij a ha b hb=>?_
  have h1:=hm i hi a ha;have h2:=hm j hj b hb;have mi:=zcH (QA.1 hi);have mj:=zcH (QA.1 hj);have hne : l.getD i 0≠l.getD j 0:=λ e=>by have:=zpc hn (QA.1 hi) (QA.1 hj) e; omega
  have xi : x≠l.getD i 0:=λ e=>hx (e ▸ mi);have xj : x≠l.getD j 0:=λ e=>hx (e ▸ mj)
  rintro ⟨e1,e2⟩
  rcases h1 with ⟨q1,q2⟩ | ⟨q1,q2⟩ <;> rcases h2 with ⟨r1,r2⟩ | ⟨r1,r2⟩
  .exact hne (by rw [<- q2,<- r2,e2])
  .exact xj (by rw [<- q1,<- r1,e1])
  .exact xi (by rw [<- r1,<- q1,e1])
  .exact hne (by rw [<- q1,<- r1,e1])
def zgS (L : List Ed) : List Ed:=L.mergeSort λ a b=>!decide (Bef b a)
theorem zcK (L : List Ed) : (zgS L).Perm L:=List.mergeSort_perm _ _
theorem zjY {L : List Ed} (h : L.Pairwise ziM) : (zgS L).Pairwise Bef:=by
 have h1 : (zgS L).Pairwise λ a b=>(!decide (Bef b a))=true:=List.pairwise_mergeSort (λ a b c h1 h2=>by
  simp only [UA,Qc] at *;unfold Bef at *;omega) (λ a b=>by
  simp only [UK,UA,Qc];unfold Bef
  omega) L
 have h2 : (zgS L).Pairwise ziM:=((zcK L).pairwise_iff λ {a b} h=>λ e=>h ⟨e.1.symm,e.2.symm⟩).2 h;refine (List.pairwise_and_iff.2 ⟨h1,h2⟩).imp λ {a b} h=>?_;have ha:=h.1;have hb:=h.2;simp only [UA,Qc] at ha;unfold ziM at hb;unfold Bef at *;omega
def zbI (g : Gr) (x : Int) (l : List Int) : Gr:=⟨g.size,zgS (g.edges++tieL x l),g.gone⟩
theorem zeL {e : Ed} : e∈(zbI g x l).edges↔e∈g.edges∨e∈tieL x l:=by
 unfold zbI;rw [(zcK _).mem_iff,Qo]
theorem zo8 : (zbI g x l).edges.length=g.edges.length+(tieL x l).length:=by
 unfold zbI;rw [(zcK _).length_eq,Qh]
theorem zpr (hg : GrOk g) (hf : ziv g p x l) (hx : 0<=x/\x<g.size) (hxg : x∉g.gone) (hl : g.edges.length+(tieL x l).length<=500) : GrOk (zbI g x l):=by
 have hxl : x∉l:=λ h=>hf.ne x h rfl;refine GrOk.of hg.1.1 hg.1.2.1 (by have:=zo8 (g:=g) (x:=x) (l:=l); unfold zbI at this; simp only at this; omega) hg.1.2.2.2 (zjY ?_) λ e he=>?_
 .rw [Vd]
  refine ⟨hg.pair.imp λ {a b} h=>?_,zlK hf.nodup hxl,λ a ha b hb=>?_⟩
  .unfold Bef at h; unfold ziM; omega
  .have h1:=(zmH hb).2
   rintro ⟨e1,e2⟩
   rcases h1 with ⟨_,h⟩ | ⟨_,h⟩ | ⟨h,_⟩
   .exact (hf.edge _ h a ha).2 e2
   .exact (hf.edge _ h a ha).1 e1
   .exact (hf.edge _ h a ha).1 e1
 .rcases (zeL (g:=g) (x:=x) (l:=l)).1 he with h | h
  .exact ⟨hg.fits e h,hg.val e h⟩
  .obtain ⟨hv,h⟩:=zmH h
   refine ⟨?_,by omega⟩
   unfold Fits;rcases h with ⟨h1,h2⟩ | ⟨h1,h2⟩ | ⟨h1,h2⟩
   .have r:=hf.rng _ h2
    have n:=hf.ne _ h2;exact ⟨by omega,by simp only; omega,by omega,by simp only; omega,by omega,by rw [h1]; exact hxg,hf.gone _ h2⟩
   .have r:=hf.rng _ h2
    have n:=hf.ne _ h2;exact ⟨by omega,by simp only; omega,by omega,by simp only; omega,by omega,hf.gone _ h2,by rw [h1]; exact hxg⟩
   .have r:=hf.rng _ h1
    have r2:=hf.rng _ h2;refine ⟨by omega,by simp only; omega,by omega,by simp only; omega,?_,hf.gone _ h1,hf.gone _ h2⟩
    obtain ⟨i,hi,h⟩:=List.mem_flatMap.1 (by assumption : e∈tieL x l)
    have hi:=QA.1 hi;unfold tieI at h;simp only [QO,Q5,Qu] at h;rcases h with rfl | rfl | h
    .exact λ e=>hxl ((show x=_ from e) ▸ zcH hi)
    .exact λ e=>hxl ((show _=x from e) ▸ zcH hi)
    .split at h
     .rename_i h3
      rw [QB] at h;subst h;intro e;have:=zpc hf.nodup hi (Uj _ (by omega)) e
      rcases Ug (i+1) l.length with h4 | h4
      .rw [Va h4] at this; omega
      .have h5 : i+1=l.length:=by omega
       rw [h5,Nat.mod_self] at this;omega
     .exact (Uk h).elim
structure zsy (G H : Gr) (S : List Int) (x : Int) (l : List Int) : Prop where
 size : H.size=G.size
 gone : H.gone=G.gone
 ne : x∉l
 seed : ∀ k∈l,za4 G S k=false
 off : ∀ e∈G.edges,e.f∉l/\e.t∉l
 sub : ∀ e∈G.edges,e∈H.edges
 new : ∀ e∈H.edges,e∈G.edges∨(e.f=x/\e.t∈l)∨(e.t=x/\e.f∈l)∨(e.f∈l/\e.t∈l)
 has : ∀ k∈l,(⟨x,k,3⟩ : Ed)∈H.edges
theorem zv7 (hf : ziv g p x l) {lv : Int} (h3 : lv<=3) : zsy (zag g lv) (zag (zbI g x l) lv) p.seeds x l:=by
 refine ⟨rfl,rfl,λ h=>hf.ne x h rfl,λ k hk=>?_,λ e he=>?_,λ e he=>?_,λ e he=>?_,λ k hk=>?_⟩
 .unfold za4
  have : p.seeds.contains k=false:=by
   cases h : p.seeds.contains k with
   | false=>rfl
   | true=>exact absurd (US.1 h) (hf.seed k hk)
  rw [this];rfl
 .have:=(Qw.1 he).1
  exact ⟨λ h=>(hf.edge _ h e this).1 rfl,λ h=>(hf.edge _ h e this).2 rfl⟩
 .have:=Qw.1 he
  exact Qw.2 ⟨zeL.2 (.inl this.1),this.2⟩
 .have:=Qw.1 he
  rcases zeL.1 this.1 with h | h
  .exact .inl (Qw.2 ⟨h,this.2⟩)
  .exact .inr (zmH h).2
 .exact Qw.2 ⟨zeL.2 (.inr (zrY hk)),by simp only [UA,Qc]; omega⟩
theorem zs2 {G H : Gr} {S : List Int} (h : zsy G H S x l) : ∀ n : Nat,(∀ k,k∉l->dl H S n k=dl G S n k)/\(∀ k,k∈l->dl H S n k=if 0<=dl G S n x/\dl G S n x<n then dl G S n x+1 else -1)
 | 0=>by
   have hs : ∀ k,za4 H S k=za4 G S k:=λ k=>by unfold za4; rw [h.gone]
   refine ⟨λ k _=>by rw [dl,dl,hs],λ k hk=>?_⟩
   rw [if_neg (by omega),dl,hs,h.seed k hk]
   rfl
 | n+1=>by
   obtain ⟨i1,i2⟩:=zs2 h n;have hrx:=za6 (g:=G) (S:=S) n x;constructor
   .intro k hk
    rw [dl,dl,i1 k hk]
    by_cases h2 : 0<=dl G S n k
    .rw [if_pos h2,if_pos h2]
    .rw [if_neg h2,if_neg h2]
     have e1 : H.edges.any (λ e=>decide (e.t=k) && decide (dl H S n e.f=n))=G.edges.any (λ e=>decide (e.t=k) && decide (dl G S n e.f=n)):=by
      rw [QE,Uq,Uq];constructor
      .rintro ⟨e,he,h3⟩
       simp only [QT,Qe] at h3;rcases h.new e he with h4 | h4 | h4 | h4
       .rw [i1 e.f (h.off e h4).1] at h3
        exact ⟨e,h4,by simp [h3.1,h3.2]⟩
       .exact absurd (h3.1 ▸ h4.2) hk
       .rw [i2 e.f h4.2] at h3
        split at h3
        .rename_i h5
         rw [<- h3.1,h4.1] at h2;exact absurd h5.1 h2
        .omega
       .exact absurd (h3.1 ▸ h4.2) hk
      .rintro ⟨e,he,h3⟩
       exact ⟨e,h.sub e he,by rw [i1 e.f (h.off e he).1]; exact h3⟩
     rw [e1]
   .intro k hk
    rw [dl,i2 k hk]
    by_cases h5 : 0<=dl G S n x/\dl G S n x<n
    .rw [if_pos h5,if_pos (by omega),zcZ h5.1,if_pos (by omega)]
    .rw [if_neg h5,if_neg (by omega)]
     by_cases h6 : dl G S n x=n
     .rw [if_pos,zcZ (by omega),if_pos (by omega),h6]
      rw [Uq];exact ⟨_,h.has k hk,by simp [i1 x h.ne,h6]⟩
     .have h7 : ¬ 0<=dl G S n x:=by omega
      rw [if_neg,if_neg]
      .rw [dl,if_neg h7]
       split <;> omega
      .rw [Uq]
       rintro ⟨e,he,h3⟩
       simp only [QT,Qe] at h3;rcases h.new e he with h4 | h4 | h4 | h4
       .exact (h.off e h4).2 (h3.1 ▸ hk)
       .rw [h4.1,i1 x h.ne] at h3
        exact h6 h3.2
       .exact h.ne (by rw [<- h4.1,h3.1]; exact hk)
       .rw [i2 e.f h4.1,if_neg h5] at h3
        omega
theorem zs4 {G H : Gr} {S : List Int} (hG : GrOk G) (hx : Key G x) (h : zsy G H S x l) : (∀ k,k∉l->dist H S k=dist G S k)/\(∀ k,k∈l->dist H S k=if 0<=dist G S x then dist G S x+1 else -1):=by
 have h1:=zs2 h G.size.toNat;unfold dist;rw [h.size];refine ⟨h1.1,λ k hk=>?_⟩;rw [h1.2 k hk];have h2:=zn2 hG (S:=S) hx;have h3:=hx.1;have h4:=hx.2;unfold dist at h2
 by_cases h5 : 0<=dl G S G.size.toNat x
 .rw [if_pos ⟨h5,by omega⟩,if_pos h5]
 .rw [if_neg (λ h=>h5 h.1),if_neg h5]
variable {g : Gr} {p : Pol} {x : Int} {l : List Int}
section
variable {C : Int->Bool} {T : List Int}
end
variable {g : Gr} {p : Pol} {x : Int} {l l1 l2 T : List Int}
theorem zq9 {n : Int} (hp : zaN n p) : p.lv<=3:=hp.2.2.2.2.2.1
theorem zs1 (hg : GrOk g) (hp : zaN g.size p) (hx : Key g x) (hf : ziv g p x l) :
  (∀ k,k∉l->dist (zag (zbI g x l) p.lv) p.seeds k=dist (zag g p.lv) p.seeds k) /\
  (∀ k,k∈l->dist (zag (zbI g x l) p.lv) p.seeds k=if 0<=dist (zag g p.lv) p.seeds x then dist (zag g p.lv) p.seeds x+1 else -1) :=
 zs4 (hg.level p.lv) (show Key (zag g p.lv) x from hx) (zv7 hf (zq9 hp))
theorem zrr (hg : GrOk g) (hp : zaN g.size p) (hx : Key g x) (hf : ziv g p x l) :
  (∀ k : Int,0<=k->k∉l->(zaH (zbI g x l) p).getD k.toNat 0=(zaH g p).getD k.toNat 0) /\
  (∀ k : Int,k∈l->0<(zaH (zbI g x l) p).getD k.toNat 0->0<=dist (zag g p.lv) p.seeds x):=by
 have hd:=zs1 hg hp hx hf;constructor
 .intro k h0 hk
  by_cases h1 : k<g.size
  .rw [zgh h0 (show k<(zbI g x l).size from h1),zgh h0 h1,hd.1 k hk]
  .rw [zhW (show (zbI g x l).size<=k by show g.size<=k; omega),zhW (by omega)]
 .intro k hk h
  have hr:=hf.rng k hk;rw [zgh hr.1 (show k<(zbI g x l).size from hr.2),hd.2 k hk] at h
  refine Classical.byContradiction λ hn=>?_;rw [if_neg hn] at h;have:=zex (p:=p) (d:=-1) (by omega)
  omega
abbrev ordR (g : Gr) (p : Pol) (x : Int) (l : List Int) : List Int:=ordL (zag (zbI g x l) p.lv) p.seeds
def inN (g : Gr) (p : Pol) (x : Int) (l : List Int) : Nat:=((accR (zbI g x l) p (ordR g p x l)).filter λ k=>decide (k∈l)).length
theorem zuq (hg : GrOk g) (hp : zaN g.size p) (hs : p.seeds.length<=64) (hx : Key g x) (hf : ziv g p x l) (hr : GrOk (zbI g x l)) : (inN g p x l : Int)<=max 0 ((zaH g p).getD x.toNat 0 - 1):=by
 have hc:=zrr hg hp hx hf;have hxl : x∉l:=λ h=>hf.ne x h rfl;have hok : zbt (zbI g x l) p (accR (zbI g x l) p (ordR g p x l)):=zjX hr hp λ k hk=>zdb hk;have h1:=zsR hr (show zaN g.size p from hp) hok ((zsw hr (show zaN g.size p from hp) hs _ _ rfl (za3 _ _) (zjX hr hp λ k hk=>hk)).1.perm hr hp hok.join (zii ((za3 _ _).sublist (zcG _ _ rfl)) (h64 hr hok.rng)).symm) l
 have hfil : ((accR (zbI g x l) p (ordR g p x l)).filter λ x=>l.contains x).length=inN g p x l:=by
  unfold inN
  congr 1
  exact List.filter_congr λ k _=>by simp
 rw [hfil] at h1
 have hk0 : ∀ k : Nat,(k : Int)≠x->totK (zbI g x l) p l k=0:=λ k hk=>by
  unfold totK
  by_cases hkl : (k : Int)∈l
  .have e1 : l.contains (k : Int)=true:=US.2 hkl
   have e2 : p.seeds.contains (k : Int)=false:=by
    cases h : p.seeds.contains (k : Int) with
    | false=>rfl
    | true=>exact absurd (US.1 h) (hf.seed _ hkl)
   rw [e1,e2];simp
  .have e1 : l.contains (k : Int)=false:=by
    cases h : l.contains (k : Int) with
    | false=>rfl
    | true=>exact absurd (US.1 h) hkl
   have e2 : decv (zbI g x l) p l k=false:=by
    unfold decv;rw [List.any_eq_false];intro e he;unfold zv5;simp only [QT,Qe,not_and];intro hef _ hct;have het:=US.1 hct;rcases zeL.1 he with h | h
    .exact (hf.edge _ het e h).2 rfl
    .rcases (zmH h).2 with ⟨a,_⟩ | ⟨a,_⟩ | ⟨a,_⟩
     .exact hk (by rw [<- hef,a])
     .exact hxl (a ▸ het)
     .exact hkl (hef ▸ a)
   rw [e1,e2];simp
 have hkx : totK (zbI g x l) p l x<=max 0 ((zaH g p).getD x.toNat 0 - 1):=by
  unfold totK
  have e1 : l.contains x=false:=by
   cases h : l.contains x with
   | false=>rfl
   | true=>exact absurd (US.1 h) hxl
  rw [e1,hc.1 x hx.1 hxl];simp only [Bool.false_and,Ub,Us];split <;> omega
 have hsum : ∀ n : Nat,totB (zbI g x l) p l n<=max 0 ((zaH g p).getD x.toNat 0 - 1)/\((n : Int)<=x->totB (zbI g x l) p l n<=0):=by
  intro n
  induction n with
  | zero=>exact ⟨by show (0 : Int)<=_; omega,λ _=>UI _⟩
  | succ n ih =>
    rw [zsk]
    by_cases hn : (n : Int)=x
    .rw [hn]
     exact ⟨by have:=ih.2 (by omega); omega,λ h=>by omega⟩
    .rw [hk0 n hn]
     exact ⟨by omega,λ h=>by have:=ih.2 (by omega); omega⟩
 have:=(hsum (zbI g x l).size.toNat).1;omega
end Go.Proofs.YtkngdgplbojdlaaGreat
namespace Go.Proofs
open Go.Shelf
def Tryz.sortEd_ren : Go.Shelf.Ren:=⟨fun | 6=>55 | 15=>113 | 14=>112 | 28=>154 | 29=>155 | 20=>146 | 21=>147 | 22=>148 | 23=>149 | 24=>150 | 25=>151 | 26=>152 | 27=>153 | 46=>180 | 47=>181 | 48=>182 | 49=>183 | 50=>184 | 57=>203 | n=>n,fun | 22=>28 | 24=>72 | 25=>84 | 3=>3 | 39=>134 | 0=>0 | 53=>175 | 55=>158 | 4=>4 | 46=>169 | 45=>168 | 50=>100 | 5=>5 | 9=>9 | 66=>198 | 70=>202 | 76=>214 | 77=>183 | n=>n,fun | n=>n⟩
theorem Tryz.sortEd : Go.Proofs.SlLaysF0.n6 Tryz.prog Tryz.sortEd_ren:={
 mixed:=by kernel_rfl
 f6:=⟨Tryz.f55.name,by decide,Tryz.func55.trans (congrArg some (by kernel_rfl))⟩
 f14:=⟨Tryz.f112.name,by decide,Tryz.func112.trans (congrArg some (by kernel_rfl))⟩
 f15:=Tryz.func113.trans (congrArg some (by kernel_rfl))
 f20:=⟨Tryz.f146.name,by decide,Tryz.func146.trans (congrArg some (by kernel_rfl))⟩
 f21:=⟨Tryz.f147.name,by decide,Tryz.func147.trans (congrArg some (by kernel_rfl))⟩
 f22:=⟨Tryz.f148.name,by decide,Tryz.func148.trans (congrArg some (by kernel_rfl))⟩
 f23:=⟨Tryz.f149.name,by decide,Tryz.func149.trans (congrArg some (by kernel_rfl))⟩
 f24:=⟨Tryz.f150.name,by decide,Tryz.func150.trans (congrArg some (by kernel_rfl))⟩
 f25:=⟨Tryz.f151.name,by decide,Tryz.func151.trans (congrArg some (by kernel_rfl))⟩
 f26:=⟨Tryz.f152.name,by decide,Tryz.func152.trans (congrArg some (by kernel_rfl))⟩
 f27:=⟨Tryz.f153.name,by decide,Tryz.func153.trans (congrArg some (by kernel_rfl))⟩
 f28:=Tryz.func154.trans (congrArg some (by kernel_rfl))
 f29:=Tryz.func155.trans (congrArg some (by kernel_rfl))
 f46:=⟨Tryz.f180.name,by decide,Tryz.func180.trans (congrArg some (by kernel_rfl))⟩
 f47:=Tryz.func181.trans (congrArg some (by kernel_rfl))
 f48:=Tryz.func182.trans (congrArg some (by kernel_rfl))
 f49:=⟨Tryz.f183.name,by decide,Tryz.func183.trans (congrArg some (by kernel_rfl))⟩
 f50:=⟨Tryz.f184.name,by decide,Tryz.func184.trans (congrArg some (by kernel_rfl))⟩
 f57:=⟨Tryz.f203.name,by decide,Tryz.func203.trans (congrArg some (by kernel_rfl))⟩
 t0:=Tryz.underlying0
 a0:=Tryz.isAgg0
 z0:=Tryz.sizeOf0
 v0:=Tryz.zeroValue0
 t3:=Tryz.underlying3
 a3:=Tryz.isAgg3
 z3:=Tryz.sizeOf3
 v3:=Tryz.zeroValue3
 t4:=Tryz.underlying4
 a4:=Tryz.isAgg4
 z4:=Tryz.sizeOf4
 v4:=Tryz.zeroValue4
 t5:=Tryz.underlying5
 a5:=Tryz.isAgg5
 z5:=Tryz.sizeOf5
 v5:=Tryz.zeroValue5
 t9:=Tryz.underlying9
 a9:=Tryz.isAgg9
 z9:=Tryz.sizeOf9
 v9:=Tryz.zeroValue9
 t22:=Tryz.underlying28
 a22:=Tryz.isAgg28
 z22:=Tryz.sizeOf28
 v22:=Tryz.zeroValue28
 t25:=Tryz.underlying84
 a25:=Tryz.isAgg84
 z25:=Tryz.sizeOf84
 v25:=Tryz.zeroValue84
 t39:=Tryz.underlying134
 a39:=Tryz.isAgg134
 z39:=Tryz.sizeOf134
 v39:=Tryz.zeroValue134
 t45:=Tryz.underlying168
 a45:=Tryz.isAgg168
 z45:=Tryz.sizeOf168
 v45:=Tryz.zeroValue168
 t46:=Tryz.underlying169
 a46:=Tryz.isAgg169
 z46:=Tryz.sizeOf169
 v46:=Tryz.zeroValue169
 t50:=Tryz.underlying100
 a50:=Tryz.isAgg100
 z50:=Tryz.sizeOf100
 v50:=Tryz.zeroValue100
 t53:=Tryz.underlying175
 a53:=Tryz.isAgg175
 z53:=Tryz.sizeOf175
 v53:=Tryz.zeroValue175
 t55:=Tryz.underlying158
 a55:=Tryz.isAgg158
 z55:=Tryz.sizeOf158
 v55:=Tryz.zeroValue158
 t66:=Tryz.underlying198
 a66:=Tryz.isAgg198
 z66:=Tryz.sizeOf198
 v66:=Tryz.zeroValue198
 t70:=Tryz.underlying202
 a70:=Tryz.isAgg202
 z70:=Tryz.sizeOf202
 v70:=Tryz.zeroValue202
 t76:=Tryz.underlying214
 a76:=Tryz.isAgg214
 z76:=Tryz.sizeOf214
 v76:=Tryz.zeroValue214
 t77:=Tryz.underlying183
 a77:=Tryz.isAgg183
 z77:=Tryz.sizeOf183
 v77:=Tryz.zeroValue183 }
end Go.Proofs
namespace Go.Proofs.YtkngdgplbojdlaaGreat
open Go Go.Shelf Go.RowKit Go.Lib Go.Sort Go.Proofs
theorem zsp (x : Int) (W : World) : Calls Tryz.prog 114 #[.int .i64 x] W λ e w'=>e = .returned (.bool false)/\w'=W:=by
 go_enter Tryz.func114,Tryz.ntmps114
 go_wp2
 go_ret
 simp
theorem zvV (x y : Int) (W : World) : Calls Tryz.prog 58 #[.int .i64 x,.int .i64 y] W λ e w'=>e = .returned (.int .i64 (Lib.compareInt x y))/\w'=W:=by
 have hn:=zsp;change ∀ x W,Calls Tryz.prog 114 _ _ _ at hn;have hr : Lib.compareInt x y=if x<y then -1 else if x > y then 1 else 0:=rfl
 rw [hr]
 by_cases h1 : x<y
 .rw [if_pos h1]
  go_enter Tryz.func58,Tryz.ntmps58
  go_wp2_with (go_at_call 114; refine (hn _ _).mono ?_; rintro e w' ⟨rfl,rfl⟩)
  all_goals first
   | (go_ret; exact ⟨rfl,rfl⟩)
   | omega
   | (exfalso; omega)
 .rw [if_neg h1]
  by_cases h2 : x > y
  .rw [if_pos h2]
   go_enter Tryz.func58,Tryz.ntmps58
   go_wp2_with (go_at_call 114; refine (hn _ _).mono ?_; rintro e w' ⟨rfl,rfl⟩)
   all_goals first
    | (go_ret; exact ⟨rfl,rfl⟩)
    | omega
    | trace_state
  .rw [if_neg h2]
   go_enter Tryz.func58,Tryz.ntmps58
   go_wp2_with (go_at_call 114; refine (hn _ _).mono ?_; rintro e w' ⟨rfl,rfl⟩)
   all_goals first
    | (go_ret; exact ⟨rfl,rfl⟩)
    | omega
    | trace_state
theorem zxF (b : Nat) (x y : Int) (W : World) (h0 : W.heap[b]? = some (.cells #[.int .i64 x,.int .i64 y] 3 (0,0))) : Calls Tryz.prog 57 #[.slice (some ⟨b,0,none⟩) 2 2] W λ e w'=>e = .returned (.int .i64 (if x≠0 then x else y))/\w'=W:=by
 have c0 : W.cell? ⟨b,0,none⟩=some (.int .i64 x):=by simp [World.cell?,h0]
 have c1 : W.cell? ⟨b,1,none⟩=some (.int .i64 y):=by simp [World.cell?,h0]
 by_cases hx : x=0
 .rw [if_neg (by simpa using hx)]
  go_enter Tryz.func57,Tryz.ntmps57
  go_wp2
  refine wp_loop_rounds 3 ?_;rw [rounds_succ]
  go_wp2
  rw [rounds_succ]
  by_cases hy : y=0
  .subst hy
   go_wp2
   rw [rounds_succ]
   go_wp2
   go_ret
   exact ⟨rfl,rfl⟩
  .go_wp2
   all_goals first
    | (go_ret; exact ⟨rfl,rfl⟩)
    | contradiction
    | trace_state
 .rw [if_pos (by simpa using hx)]
  go_enter Tryz.func57,Tryz.ntmps57
  go_wp2
  refine wp_loop_rounds 3 ?_;rw [rounds_succ]
  go_wp2
  all_goals first
   | (go_ret; exact ⟨rfl,rfl⟩)
   | contradiction
   | trace_state
def orV (x y : Int) : Int:=if x≠0 then x else y
def cmpL (a b : Ed) : Int:=orV (Lib.compareInt a.f b.f) (Lib.compareInt a.t b.t)
theorem zvA (b : Nat) (x y : Int) (W : World) (h0 : W.heap[b]? = some (.cells #[.int .i64 x,.int .i64 y] 3 (0,0))) : Calls Tryz.prog 57 #[.slice (some ⟨b,0,none⟩) 2 2] W λ e w'=>e = .returned (.int .i64 (orV x y))/\w'=W:=zxF b x y W h0
theorem zrq (W : World) (a b c : Obj) : (((W.alloc a).alloc b).alloc c).drew.heap[W.heap.size+1+1]? = some c:=by
 show (((W.heap.push a).push b).push c)[W.heap.size+1+1]? = some c;rw [U1,if_pos (by simp)]
attribute [local go_sem ↓] Go.wp_at_zero Go.wp_at_succ
theorem znJ (a b : Ed) (W : World) : Calls Tryz.prog 56 #[.agg #[.int .i64 a.f,.int .i64 a.t,.int .i64 a.v],.agg #[.int .i64 b.f,.int .i64 b.t,.int .i64 b.v]] W λ e w'=>e = .returned (.int .i64 (cmpL a b)) /\ ∃ q os',w'=Go.Sort.grow (W.drewN q) os':=by
 have hc:=zvV;change ∀ x y W,Calls Tryz.prog 58 _ _ _ at hc;have ho:=zvA;change ∀ b x y W h,Calls Tryz.prog 57 _ _ _ at ho;unfold cmpL;generalize hr1 : Lib.compareInt a.f b.f=r1 at *;generalize hr2 : Lib.compareInt a.t b.t=r2 at *;obtain ⟨af,at_,av⟩:=a;obtain ⟨bf,bt,bv⟩:=b;simp only at *
 go_enter Tryz.func56,Tryz.ntmps56
 go_wp2
 go_region_held3 (λ w'=>w'.cell? ⟨W.heap.size,0,none⟩=some (.int .i64 af)/\w'.cell? ⟨W.heap.size,1,none⟩=some (.int .i64 at_)/\w'.cell? ⟨W.heap.size+1,0,none⟩=some (.int .i64 bf)/\w'.cell? ⟨W.heap.size+1,1,none⟩=some (.int .i64 bt)) (go_keep)
  (first | (go_at_call 58; refine (hc _ _ _).mono ?_; rintro e w' ⟨rfl,rfl⟩) | (go_at_call 57; refine (ho _ r1 r2 _ (zrq ..)).mono ?_; rintro e w' ⟨rfl,rfl⟩))
 go_wp2
 go_ret
 refine ⟨rfl,1,#[.cells #[.int .i64 af,.int .i64 at_,.int .i64 av] 72,.cells #[.int .i64 bf,.int .i64 bt,.int .i64 bv] 72,.cells #[.int .i64 r1,.int .i64 r2] 3],?_⟩;rw [alloc_eq_grow,alloc_eq_grow,alloc_eq_grow,grow_grow,grow_grow];rfl
def encE (e : Ed) : List Value:=[.int .i64 e.f,.int .i64 e.t,.int .i64 e.v]
theorem zk3 (a b : Ed) : cmpL a b<0↔Bef a b:=by
 unfold cmpL orV Lib.compareInt Bef
 by_cases h1 : a.f<b.f
 .simp [h1]
 .by_cases h2 : b.f<a.f
  .have : ¬ a.f=b.f:=by omega
   simp [h1,h2,this]
  .have : a.f=b.f:=by omega
   simp [this]
   by_cases h3 : a.t<b.t
   .simp [h3]
   .by_cases h4 : b.t<a.t <;> simp [h3,h4]
theorem ztL : Go.Sort.SWO (Go.Proofs.ltOf cmpL) where
 irrefl x:=by unfold Go.Proofs.ltOf; rw [Qc,zk3]; exact Bef.irrefl x
 trans x y z h1 h2:=by
  unfold Go.Proofs.ltOf at *;rw [Qe,zk3] at *;unfold Bef at *;omega
 ntrans x y z h1 h2:=by
  unfold Go.Proofs.ltOf at *;rw [Qc,zk3] at *;unfold Bef at *;omega
theorem zsI {L : List Ed} {d : Array Ed} (hA : L.Pairwise ziM) (hp : Go.Sort.PermIn 0 L.toArray.size L.toArray d) (hs : Go.Sort.SortedIn (Go.Proofs.ltOf cmpL) 0 L.toArray.size d) : d.toList=zgS L:=by
 obtain ⟨p1,_,p3⟩:=hp;have e1 : d.extract 0 L.toArray.size=d:=by rw [<- p1]; exact Array.extract_size
 rw [e1,Array.extract_size] at p3;have p3 : d.toList.Perm L:=p3;have hAd : d.toList.Pairwise ziM:=(p3.pairwise_iff λ {a b} h=>λ e=>h ⟨e.1.symm,e.2.symm⟩).2 hA;refine zk4 ?_ (zjY hA) λ x=>by rw [p3.mem_iff,(zcK L).mem_iff]
 rw [QR];intro i j hi hj hij;have h1:=QR.1 hAd i j hi hj hij;have hi' : i<d.size:=by simpa using hi
 have hj' : j<d.size:=by simpa using hj
 have h2:=hs i j (Qi _) hij (by rw [<- p1]; exact hj')
 rw [getElem!_pos d j hj',getElem!_pos d i hi'] at h2;unfold Go.Proofs.ltOf at h2;rw [Qc,zk3] at h2;simp only [Array.getElem_toList];unfold ziM at h1;simp only [Array.getElem_toList] at h1;unfold Bef at *;omega
theorem zpn (L : List Ed) (i j : Nat) (hi : i<L.length) (hj : j<3) : (Go.Sort.flatK encE 3 L.toArray)[i*3+j]! = (encE L[i])[j]!:=by
 have ht : i*3+j<L.toArray.size*3:=by simp; omega
 rw [Go.Sort.get_flatK _ _ _ _ ht];have e1 : (i*3+j) / 3=i:=by omega
 have e2 : (i*3+j) % 3=j:=by omega
 rw [e1,e2];simp [hi]
theorem zqr (zs : List Ed) (h0 : zs≠[]) (hl : zs.length<4611686018427387904) (hA : zs.Pairwise ziM) :
  AcP 55 [.rs 0 0 zs.length,.fn (.func 56) [] []] [{ s:=3,rows:=zaC zs }] (.tup []) ([{ s:=3,rows:=zaC (zgS zs) }].map some):=by
 refine ⟨zbT.s.body,by simp,λ T M w vs htok hhs hdom hrep=>?_⟩
 have hpos : 0<zs.length:=Ux.2 h0;obtain ⟨hsz,hr⟩:=hrep;have hr0:=hr 0 (by simp)
 have hr1:=hr 1 (by simp)
 simp only [UO,List.getD_cons_succ] at hr0 hr1
 have hvs : vs = #[vs.getD 0 undef,vs.getD 1 undef]:=by
  apply Array.ext
  .simpa using hsz
  .intro i h1 h2
   have h3 : vs.size=2:=by simpa using hsz
   have : i=0∨i=1:=by simp at h2; omega
   rcases this with rfl | rfl <;> simp [Array.getD,h3]
 rw [hvs];generalize vs.getD 0 undef=v at hr0;generalize vs.getD 1 undef=fv at hr1
 cases hr1 with
 | fn _ _ _ _ us us' hx hy hq hq' =>
 have hus : us = #[]:=Array.eq_empty_of_size_eq_zero (by simpa using hx)
 have hus' : us' = #[]:=Array.eq_empty_of_size_eq_zero (by simpa using hy)
 subst hus hus'
 cases hr0 with
 | rs _ _ _ _ cap a g hg hgz hlc hn hb =>
 obtain ⟨g',hg',ent⟩:=hhs.ent 0 _ rfl;rw [hg] at hg';obtain rfl:=Qf hg';have hrl : (zaC zs).length=zs.length:=by simp
 have hgs : g.s=3:=ent.s
 cases hblk : g.blk with
 | none =>
   have:=ent.none hblk;simp at this;exact absurd this h0
 | some b =>
 obtain ⟨hcap,c0,t0,f0,hc0,hle0⟩:=hb b hblk;obtain ⟨cells,ty,hw,htb,hlen,hrows⟩:=ent.blk (UN 2) b hblk
 have ha : a=some ⟨b,g.base+0*g.s,none⟩:=by
  rcases hcap with h | h
  .omega
  .exact h
 subst ha;simp only [Nat.zero_mul,Ua] at *
 have hcell : ∀ i,(hi : i<zs.length) -> ∀ j,j<3->cells[g.base+(i*3+j)]? = some ((encE zs[i])[j]!):=by
  intro i hi j hj;obtain ⟨u,hu,_,hru⟩:=hrows i j (by rw [hrl]; exact hi) hj
  rw [<- UE];rw [hu];have : ((zaC zs).getD i [])=[AV.I zs[i].f,AV.I zs[i].t,AV.I zs[i].v]:=by simp [List.getD,hi]
  rw [this] at hru;have h3 : j=0∨j=1∨j=2:=by omega
  rcases h3 with rfl | rfl | rfl
  .cases hru; rfl
  .cases hru; rfl
  .cases hru; rfl
 have hb' : b<w.heap.size:=(QN.1 hw).1;have hfs : ∀ L : List Ed,(Go.Sort.flatK encE 3 L.toArray).size=L.length*3:=λ L=>by simp
 refine (Go.Proofs.AnyQ.slices_SortFunc Tryz.sortEd 3 Tryz.isAgg72 Tryz.sizeOf72 encE (λ _=>rfl) (λ x v hv=>by simp [encE] at hv; rcases hv with rfl | rfl | rfl <;> rfl) cmpL ztL 56 #[] b g.base cap zs.toArray w
  (Go.Proofs.enters_of Tryz.func56 (by kernel_rfl) rfl) (λ _ _ _ _ x y=>znJ x y _) ?_ hb' (by simpa using hl)).mono ?_
 .intro t ht
  rw [hfs] at ht;have h3 : t=t / 3*3+t % 3:=by omega
  have hti : t / 3<zs.length:=by omega
  have hv:=zpn zs (t / 3) (t % 3) hti (by omega)
  rw [<- h3] at hv;rw [hv];have hc:=hcell (t / 3) hti (t % 3) (by omega)
  rw [<- h3] at hc;constructor
  .show w.cell? _=_
   unfold World.cell?;simp only [hw];rw [hc];rfl
  .unfold World.frozen?
   simp only [hw];simp
 .rintro e w' ⟨rfl,d',n,os,hp,hs,rfl⟩
  have hd:=zsI hA hp hs;obtain rfl : d'=(zgS zs).toArray:=by rw [<- hd]
  have hsl : (zgS zs).length=zs.length:=(zcK zs).length_eq;generalize zgS zs=ys at hsl;have hFs:=hfs ys;have hFg:=λ i j hi hj=>zpn ys i j hi hj;show ∃ v T' M',Ending.returned _ = .returned v/\_;have hw0 : Go.Proofs.sortWorldK encE 3 w b g.base n ys.toArray os=Go.Sort.grow (Go.Sort.putRow id (Go.Sort.ahead w n) b g.base (Go.Sort.flatK encE 3 ys.toArray)) os:=rfl;rw [hw0];generalize Go.Sort.flatK encE 3 ys.toArray=F at hFs hFg
  have hh : ∀ b',b'<w.heap.size->(Go.Sort.grow (Go.Sort.putRow id (Go.Sort.ahead w n) b g.base F) os).heap[b']? = if b'=b then some (.cells (Go.Sort.putCells id g.base F cells) ty (0,0)) else w.heap[b']?:=by
   intro b' hb1;have hsz' : (w.heap.modify b (Go.Sort.onCells (Go.Sort.putCells id g.base F))).size=w.heap.size:=Array.size_modify;show ((w.heap.modify b (Go.Sort.onCells (Go.Sort.putCells id g.base F)))++os)[b']? = _;rw [Q9 (by rw [hsz']; exact hb1),Array.getElem?_modify]
   by_cases hbb : b=b'
   .subst hbb
    rw [if_pos rfl,if_pos rfl,hw];rfl
   .rw [if_neg hbb,if_neg (Ne.symm hbb)]
  have hput : ∀ o,(o<g.base∨g.base+ys.length*3<=o)->(Go.Sort.putCells id g.base F cells)[o]? = cells[o]?:=by
   intro o ho;unfold Go.Sort.putCells;rw [Array.getElem?_mapIdx]
   cases hc : cells[o]? with
   | none=>rfl
   | some u =>
     simp only [Q7];rw [if_neg];rw [hFs];omega
  have hput2 : ∀ i,(hi : i<ys.length) -> ∀ j,j<3->(Go.Sort.putCells id g.base F cells)[g.base+i*3+j]? = some ((encE ys[i])[j]!):=by
   intro i hi j hj;unfold Go.Sort.putCells;rw [UE,Array.getElem?_mapIdx,hcell i (by omega) j hj]
   simp only [Q7];rw [if_pos (by rw [hFs]; omega),show g.base+(i*3+j) - g.base=i*3+j by omega,hFg i j hi hj]
   rfl
  have hcs : (Go.Sort.putCells id g.base F cells).size=cells.size:=by
   unfold Go.Sort.putCells;exact Array.size_mapIdx
  have hbig : w.heap.size<=(Go.Sort.grow (Go.Sort.putRow id (Go.Sort.ahead w n) b g.base F) os).heap.size:=by
   show w.heap.size<=((w.heap.modify b _)++os).size;rw [UG,Array.size_modify];omega
  have htb' : T b<=g.base:=by simpa using htb
  generalize hw' : (Go.Sort.grow (Go.Sort.putRow id (Go.Sort.ahead w n) b g.base F) os)=w' at hh hbig;have hlt : ∀ b' o,w.heap[b']? = some o->b'<w.heap.size:=λ b' o h=>(QN.1 h).1
  have hpr : Pres T w T w':=by
   refine ⟨λ _=>Ql _,λ b' cs' ty' fz' h=>?_⟩;rw [hh b' (hlt _ _ h)]
   by_cases hbb : b'=b
   .subst hbb
    rw [hw] at h
    cases h;exact ⟨_,_,if_pos rfl,hcs,λ o ho=>hput o (.inl (by omega))⟩
   .exact ⟨cs',fz',by rw [if_neg hbb]; exact h,rfl,λ _ _=>rfl⟩
  rw [zeN];refine ⟨_,T,M,rfl,.tup M [] #[] rfl (λ i hi=>by simp at hi),⟨λ id e he=>?_,λ id id' e e' g1 g2 b' h1 h2 h3 h4 h5 h6=>?_⟩,⟨λ b' hb1=>?_,λ _ _ _=>rfl,λ _ _=>rfl,?_,?_,?_,hbig,λ b' hb1 hb2=>?_,hpr,λ k g1 b' hk hg1 _=>?_⟩⟩
  .have hid : id=0:=by
    cases id with
    | zero=>rfl
    | succ k=>simp [hpOf] at he
   subst hid;simp only [hpOf,List.getElem?_cons_zero,Qq] at he;subst he;refine ⟨g,hg,⟨ent.s,Qi _,λ _ row hr=>?_,λ hn=>(by rw [hblk] at hn; cases hn),λ hz=>absurd hz (UN 2),λ _ b' hb1=>?_⟩⟩
   .simp at hr
    obtain ⟨x,_,rfl⟩:=hr;rfl
   .rw [hblk] at hb1
    obtain rfl:=Qf hb1;refine ⟨_,ty,by rw [hh _ hb',if_pos rfl],by simpa using htb',by rw [hcs]; simp only [Qt] at hlen ⊢; rw [hsl]; exact hlen,λ i j hi hj=>?_⟩
    have hi' : i<ys.length:=by simpa using hi
    have hj' : j<3:=hj;refine ⟨(encE ys[i])[j]!,hput2 i hi' j hj',?_,?_⟩
    .have h3 : j=0∨j=1∨j=2:=by omega
     rcases h3 with rfl | rfl | rfl <;> rfl
    .have : ((zaC ys).getD i [])=[AV.I ys[i].f,AV.I ys[i].t,AV.I ys[i].v]:=by simp [List.getD,hi']
     show Rep T w' M (((zaC ys).getD i []).getD j .dead) _;rw [this];have h3 : j=0∨j=1∨j=2:=by omega
     rcases h3 with rfl | rfl | rfl <;> exact .sc _ _ rfl
  .have h0 : ∀ id e,hpOf [({ s:=3,rows:=zaC ys } : Ent)] id=some e->id=0:=by
    intro id e he
    cases id with
    | zero=>rfl
    | succ k=>simp [hpOf] at he
   rw [h0 _ _ h1,h0 _ _ h2]
  .obtain ⟨c1,ty1,fz1,h1,h2⟩:=htok b' hb1
   obtain ⟨c2,fz2,h3,h4,_⟩:=hpr.cell b' c1 ty1 fz1 h1;exact ⟨c2,ty1,fz2,h3,by omega⟩
  .rw [<- hw']; rfl
  .rw [<- hw']; rfl
  .rw [<- hw']; rfl
  .rw [hh b' hb1,if_neg]
   intro hbb;exact hb2 ⟨0,g,by simp,hg,by rw [hblk,hbb]⟩
  .rw [hdom k hk] at hg1
   cases hg1
theorem zqw (e : Ed) (k : Int) : AcP 111 [eE e,.pv [.I k]] [] (.B (decide (e.f=k) || decide (e.t=k))) []:=by
 refine zhi.s.ac ?_;show awp _ 0 _ _ ⟨14,[(0,eE e),(1,.pv [.I k])],[],16⟩;refine rs [1,2] [] [16] ?_;refine zaa ⟨14,[(3,.B (decide (e.f=k) || decide (e.t=k)))],[],200⟩ rfl ?_ ?_
 .simp
  repeat' first
   | (refine zcb (λ hb=>?_) (λ hb=>?_) <;> (try rw [hb]) <;> (try simp at hb) <;> simp [hb])
  all_goals exact Le.snap [] rfl rfl (by simp <;> exact wkB (by (try simp at *); grind))
 exact zaI
theorem zhl (f : FuncId) (capt : List AV) (q : Ed->Bool) (l : List Ed) (hl : l.length<=1099511627776) (hs : zhk capt) (hc : ∀ e∈l,AcP f (eE e::capt) [] (.B (q e)) []) : AcP 110 [eEs l,.fn (.func f) [] capt] [] (.B (l.any q)) []:=by
 have hs2 : ∀ ρ sn h,capt.map (conv ρ sn h 2)=capt:=λ _ _ _=>hs _ _ _ 1
 have hs3 : ∀ ρ sn h,capt.map (conv ρ sn h 3)=capt:=λ _ _ _=>hs _ _ _ 2
 have hs4 : ∀ ρ sn h,capt.map (conv ρ sn h 4)=capt:=λ _ _ _=>hs _ _ _ 3
 refine zbw.s.ac ?_;show awp _ 0 _ _ ⟨9,[(0,eEs l),(1,.fn (.func f) [] capt)],[],16⟩;refine zab (zam ?_)
 have hi : decide (0<=idxQ l q)=l.any q:=by
  unfold idxQ
  by_cases h : l.findIdx q<l.length
  .rw [if_pos h]
   have:=Vc (w:=h);have h2 : l.any q=true:=Uq.2 ⟨_,Qj h,this⟩;rw [h2];simp
  .rw [if_neg h]
   have : l.findIdx q=l.length:=by have:=U8 (xs:=l) (p:=q); omega
   rw [UZ] at this
   have h2 : l.any q=false:=by
    rw [List.any_eq_false];intro x hx;simp [this x hx]
   rw [h2];simp
 refine zaa ⟨9,[(4,.B (l.any q))],[],16⟩ rfl ?_ ?_
 .simp
  refine zau (zfQ f capt q l hl hs hc) ?_ ?_
  .simp [hs2,hs3,hs4]
  simp;exact Le.snap [] rfl rfl (by simp; exact wkB hi)
 exact zaI
theorem zvw (g : Gr) (p : Pol) (x k : Int) (hl : g.edges.length<=1099511627776) (hl2 : g.gone.length<=1099511627776) (hs : p.seeds.length<=1099511627776) : AcP 53 [eG g,eP p,.I x,.I k] [] (.B (zjk g p x k)) []:=by
 refine zks.s.ac ?_;show awp _ 0 _ _ ⟨35,[(0,eG g),(1,eP p),(2,.I x),(3,.I k)],[],16⟩;have hcf:=zhl 111 [.pv [.I k]] (λ e=>decide (e.f=k) || decide (e.t=k)) g.edges hl (λ ρ sn h n=>by simp) λ e _=>zqw e k
 have hc1:=zbb g.gone k (by omega)
 have hc2:=zbb p.seeds k (by omega)
 refine zaa ⟨35,[(2,.I x),(4,.pv (gC g)),(5,.pv (pC p)),(7,.pt 32 0 0)],[(32,some ⟨1,[[.I k]],0⟩)],100⟩ rfl ?_ ?_
 .simp
  exact LeH [(32,32)] [16,24]
 obtain ⟨b,hb0⟩ : ∃ b,b=g.edges.any λ e=>decide (e.f=k) || decide (e.t=k):=⟨_,rfl⟩;rw [<- hb0] at hcf;refine zaa ⟨35,[(2,.I x),(4,.pv (gC g)),(5,.pv (pC p)),(7,.pv [.I k]),(9,.B b)],[],200⟩ rfl ?_ ?_
 .simp
  refine zfE [32] hcf (by simp) (.sc _) ?_
  simp;exact LeH [] [32]
 have hq : zjk g p x k=(!decide (k=x) && (!b && (!decide (k∈g.gone) && !decide (k∈p.seeds)))):=by rw [hb0]; rfl
 rw [hq];refine zaa ⟨35,[(8,.B (!decide (k=x) && (!b && (!decide (k∈g.gone) && !decide (k∈p.seeds)))))],[],400⟩ rfl ?_ ?_
 .by_cases h1 : k=x
  .have hne : (k != x)=false:=by simp [h1]
   simp [h1,hne];exact LeH [] []
  have hne : (k != x)=true:=by simp [h1]
  cases b with
  | true =>
    simp [h1,hne];exact LeH [] []
  | false =>
    simp [h1,hne];refine cl0 hc1 ?_
    by_cases h3 : k∈g.gone
    .simp [h3]
     exact LeH [] []
    .simp [h3]
     refine cl0 hc2 ?_;simp;exact LeH [] []
 exact zaI
theorem zqi (g : Gr) (p : Pol) (x k : Int) (hl : g.edges.length<=1099511627776) (hl2 : g.gone.length<=1099511627776) (hs : p.seeds.length<=1099511627776) : AcP 52 [.I k,.pv (gC g),.pv (pC p),.pv [.I x]] [] (.B (zjk g p x k)) []:=by
 refine zhp.s.ac ?_;show awp _ 0 _ _ ⟨11,[(0,.I k),(1,.pv (gC g)),(2,.pv (pC p)),(3,.pv [.I x])],[],16⟩;refine rs [0,1,2,3] [] [] ?_;refine zaa ⟨11,[(5,.B (zjk g p x k))],[],200⟩ rfl ?_ ?_
 .simp
  refine cl0 (zvw g p x k hl hl2 hs) ?_;simp;exact LeH [] []
 exact zaI
abbrev outG (N : Int) (go : List Int) (B n : Nat) : Ent:=⟨3,[[.I N,.rs B 0 n,ints go]],0⟩
theorem zsU (N : Int) (go : List Int) (f t : Int) (L : List Ed) (n : Nat) (hL : L.length=n) (hn : n<=1000000) : AcP 54 [.I f,.I t,.pt 0 0 0] [outG N go 1 n,⟨3,zaC L,0⟩] (.tup []) [some (outG N go 2 (n+1)),none,some ⟨3,zaC (L++[⟨f,t,3⟩]),0⟩]:=by
 refine zhc.s.acalls (nbz rfl) (nbz rfl) (nbz rfl) ?_;show awp _ 2 _ _ ⟨13,[(0,.I f),(1,.I t),(2,.pt 0 0 0)],[(0,some (outG N go 1 n)),(1,some ⟨3,zaC L,0⟩)],16⟩;have htl : ∀ f : Ed->List AV,List.take n (List.map f L)=List.map f L:=λ f=>Qb (by simp [hL])
 refine zal (s:=?s1) rfl ?o1 ?q1
 case o1=>simp [hL,htl]; refine ⟨by omega,by omega,?_⟩; rfl
 refine ⟨.inl rfl,⟨[],rfl,[64],[],by simp [List.range,List.range.loop],by simp,by simp,by simp,?_⟩⟩
 simp [List.range,List.range.loop]
theorem ziV (g : Gr) (v : Int) (hall : zag g v=g) (hl : g.edges.length<=1099511627776) (hl2 : g.gone.length<=1099511627776) : AcP 38 [eG g,.I v] [] (.agg [.I g.size,.rs 0 0 g.edges.length,ints g.gone]) [some ⟨3,zaC g.edges,0⟩]:=by
 refine zg0.s.ac ?_;show awp _ 0 _ _ ⟨14,[(0,eG g),(1,.I v)],[],16⟩;have hee : (g.edges.filter λ e=>!decide (e.v<v))=g.edges:=congrArg Gr.edges hall;obtain ⟨E,hE⟩ : ∃ E,E=g.edges.filter λ e=>!decide (e.v<v):=⟨_,rfl⟩;have hEl : E.length<=g.edges.length:=by rw [hE]; exact QV _ _
 have hdel:=ze0 77 [.pv [.I v]] (λ e=>decide (e.v<v)) g.edges g.edges.length E.length rfl (by rw [hE]) hl (λ ρ sn h n=>by simp) (λ e _=>zdB e v)
 rw [<- hE] at hdel;have hEg : E=g.edges:=hE.trans hee;refine zaa ⟨14,[(2,.pv (gC g)),(3,.pt 24 0 0),(4,.pt 32 0 0)],[(24,some ⟨1,[[.I v]],0⟩),(32,some zG)],40⟩ rfl ?_ ?_
 .simp
  refine Le.ents [(24,24),(32,32)] [16] rfl (by simp) (by simp) (by simp) (by simp) (by simp) (by simp) λ p hp=>?_
  simp at hp;rcases hp with rfl | rfl
  .exact ⟨24,_,_,rfl,by simp,rfl,zaA.eq (by simp) (by simp)⟩
  .exact ⟨32,_,_,rfl,by simp,rfl,zaA.eq (by simp) (by simp)⟩
 refine zaa ⟨14,[(3,.pt 24 0 0),(4,.pt 32 0 0),(5,.pt 56 0 0)],[(24,some ⟨1,[[.I v]],0⟩),(32,some zG),(56,some ⟨3,[[.I g.size,.rs 48 0 g.edges.length,.rs 49 0 g.gone.length]],0⟩),(48,some ⟨3,zaC g.edges,0⟩),(49,some ⟨1,g.gone.map λ n=>[AV.I n],0⟩)],72⟩ rfl ?_ ?_
 .simp
  refine zoP (zen g (by omega) (by omega)) rfl ?_
  simp [fcd];exact LeK
 refine zaa ⟨14,[(4,.pt 32 0 0),(5,.pt 56 0 0)],[(32,some zG),(56,some ⟨3,[[.I g.size,.rs 48 0 E.length,.rs 49 0 g.gone.length]],0⟩),(48,some ⟨3,zaC E++List.replicate (g.edges.length - E.length) [.I 0,.I 0,.I 0],0⟩),(49,some ⟨1,g.gone.map λ n=>[AV.I n],0⟩)],120⟩ rfl ?_ ?_
 .simp
  refine zki (i:=48) (j:=24) (by decide) (Qi _) rfl rfl ?_ hdel (by simp) ?_ ?_
  .simp [fcd]
  .simp
  simp [fcd];exact LeK
 refine zab (zam ?_);refine zah ⟨.inr rfl,?_⟩;show zao [(4,some (true,3))] 0 _ _ _;subst hEg;refine zao.out (vs:=[.agg [.I g.size,.rs 48 0 g.edges.length,.rs 49 0 g.gone.length]]) [48] [49] (by simp) (by simp) (by simp) ?_ (by simp [fcd])
 simp [fcd,zaq]
structure MapI (rows : List (List AV)) (φ : Int->Option AV) : Prop where
 is : MapR rows φ
 flat : ∀ n x,φ n=some x -> ∃ v,x = .sc v
theorem MapI.mem {rows : List (List AV)} {φ : Int->Option AV} (h : MapI rows φ) {r : List AV} (hr : r∈rows) : ∃ k v,r=[.sc k,.sc v]:=by
 obtain ⟨⟨l,rfl,hn,hf⟩,hfl⟩:=h;obtain ⟨q,hq,rfl⟩:=Qg.1 hr;obtain ⟨v,e⟩:=hfl q.1 q.2 (by rw [<- hf]; exact ziy hn hq)
 exact ⟨_,v,by rw [e]⟩
theorem MapI.conv' {rows : List (List AV)} {φ : Int->Option AV} (h : MapI rows φ) (ρ : List (Nat × Nat)) (sn : List Nat) (g : Nat->Option Ent) : rows.map (List.map (Go.Proofs.YtkngdgplbojdlaaGreat.conv ρ sn g 4))=rows:=by
 conv=>rhs; rw [<- List.map_id rows]
 refine QG λ r hr=>?_;obtain ⟨k,v,rfl⟩:=h.mem hr;simp
theorem MapI.set {rows : List (List AV)} {φ ψ : Int->Option AV} (h : MapI rows φ) (n v : Int) (he : ψ=λ k=>if k=n then some (.I v) else φ k) : MapI (mset n (.I v) rows) ψ:=by
 subst he;refine ⟨h.is.set n (.I v),λ k x hx=>?_⟩;split at hx
 .cases hx; exact ⟨_,rfl⟩
 .exact h.flat k x hx
theorem MapI.del {rows : List (List AV)} {φ ψ : Int->Option AV} (h : MapI rows φ) (n : Int) (he : ψ=λ k=>if k=n then none else φ k) : MapI (mdel n rows) ψ:=by
 subst he;refine ⟨h.is.del n,λ k x hx=>?_⟩;split at hx
 .cases hx
 .exact h.flat k x hx
variable {g : Gr} {p : Pol}
theorem ForR.uniq {key : Int} {x y : Expl} (hg : GrOk g) (hx : ForR g p (ordL (zag g p.lv) p.seeds) key x) (hy : ForR g p (ordL (zag g p.lv) p.seeds) key y) :
  x.key=y.key/\x.acc=y.acc/\x.before=y.before/\x.side=y.side/\x.paths.length=y.paths.length:=by
 obtain ⟨hx1,hx2,i,hi,hik,hib⟩:=hx.at_ hg;obtain ⟨hy1,hy2,j,hj,hjk,hjb⟩:=hy.at_ hg;have hij : i=j:=(U0 (za3 (zag g p.lv) p.seeds)).1 (hik.trans hjk.symm);subst hij;have hb : x.before=y.before:=hib.trans hjb.symm;refine ⟨hx1.trans hy1.symm,?_⟩
 by_cases hacc : key∈accR g p (ordL (zag g p.lv) p.seeds)
 .obtain ⟨x1,x2,W,⟨f,g',_,_,hl,_⟩,x3⟩:=hx.yes hacc
  obtain ⟨y1,y2,V,⟨f',g'',_,_,hl',_⟩,y3⟩:=hy.yes hacc;refine ⟨x1.trans y1.symm,hb,x2.trans y2.symm,?_⟩;rw [x3,y3,Qt,Qt];rw [hb] at hl;omega
 .obtain ⟨x1,x2,R,hR,hs⟩:=hx.no hacc
  obtain ⟨y1,y2,R',hR',hs'⟩:=hy.no hacc;refine ⟨x1.trans y1.symm,hb,?_,by rw [x2,y2]⟩
  obtain ⟨a,ha,hak,hn⟩:=hR.right _ hs;obtain ⟨b,hb',hbk,hn'⟩:=hR'.right _ hs';simp only at hak hbk hn hn';have h1 : a=i:=(U0 (za3 (zag g p.lv) p.seeds)).1 (hak.trans hik.symm);have h2 : b=i:=(U0 (za3 (zag g p.lv) p.seeds)).1 (hbk.trans hik.symm);subst h1;subst h2;rw [hn.eq,hn'.eq]
def g1 : Gr:=⟨1,[],[]⟩
def p1 : Pol:=⟨[0],[2],1⟩
section
variable {P : Program} {np id : Nat} {h : Nat->Option Ent} {K : AV->List Nat->List (Nat × Option Ent)->Prop} {f : FuncId} {first capt args args' : List AV} {res : AV}
end
open Classical in
def chkE (g : Gr) (p : Pol) : Int:=if GrOk g then if zaN g.size p then 0 else 15 else 14
theorem zh0 {g : Gr} {p : Pol} : chkE g p=0↔GrOk g/\zaN g.size p:=by
 unfold chkE
 by_cases h1 : GrOk g
 .by_cases h2 : zaN g.size p
  .simp [h1,h2]
  .simp [h1,h2]
 .simp [h1]
theorem zmd (g : Gr) (p : Pol) (hl : g.edges.length<=140737488355328) (hl2 : g.gone.length<=140737488355328) (hs : p.seeds.length<=140737488355328) (ht : p.table.length<=140737488355328) :
  AcP 50 [eG g,eP p] [] (.I (chkE g p)) []:=zbA g p hl hl2 hs ht
variable {g : Gr} {p : Pol}
open Classical in
def zbF (g : Gr) (p : Pol) (x n : Int) : Gr × List Int × Int :=
 if chkE g p≠0 then (zbJ,[],chkE g p)
 else if ¬ (0<=x/\x<=g.size - 1)∨x∈g.gone then (zbJ,[],4)
 else if n<1 then (zbJ,[],2)
 else if ((zhr g p x).length : Int)<n then (zbJ,[],3)
 else if 500<g.edges.length+(tieL x ((zhr g p x).take n.toNat)).length then (zbJ,[],3)
 else (zbI g x ((zhr g p x).take n.toNat),(zhr g p x).take n.toNat,0)
theorem wkT3 {a b c a' b' c' : AV} (h1 : Wk a a') (h2 : Wk b b') (h3 : Wk c c') : Wk (.tup [a,b,c]) (.tup [a',b',c']) :=
 .tup _ _ rfl λ i=>match i with | 0=>h1 | 1=>h2 | 2=>h3 | _+3=>.refl _
abbrev zwt (r : Gr × List Int × Int) : AV:=.tup [eG r.1,ints r.2.1,.I r.2.2]
theorem zsz {g : Gr} (hg : GrOk g) : zag g 0=g:=by
 unfold zag
 have : (g.edges.filter λ e=>!decide (e.v<0))=g.edges:=List.filter_eq_self.2 λ e he=>by
  have:=hg.val e he;simp;omega
 rw [this]
def tieF (g : Gr) (x : Int) (l : List Int) (i : Nat) : List Ed:=g.edges++(List.range i).flatMap (tieI x l)
theorem zm5 (g : Gr) (x : Int) (l : List Int) (i : Nat) : tieF g x l (i+1)=tieF g x l i++tieI x l i:=by
 unfold tieF;rw [UL,List.flatMap_append,Qx];simp
theorem zs8 (x : Int) (l : List Int) (i : Nat) : (tieI x l i).length<=3:=by
 unfold tieI;split <;> simp
theorem zkC (g : Gr) (x : Int) (l : List Int) : ∀ i,(tieF g x l i).length<=g.edges.length+3*i
 | 0=>by simp [tieF]
 | i+1=>by
   rw [zm5,Qh];have h1:=zkC g x l i;have h2:=zs8 x l i;omega
theorem zeh (g : Gr) (p : Pol) (x n : Int) (hl : g.edges.length<=1000000) (hl2 : g.gone.length<=1000000) (hs : p.seeds.length<=1000000) (ht : p.table.length<=1000000) :
  AcP 19 [eG g,eP p,.I x,.I n] [] (zwt (zbF g p x n)) []:=by
 refine zk9.s.ac ?_;show awp _ 0 _ _ ⟨96,[(0,eG g),(1,eP p),(2,.I x),(3,.I n)],[],16⟩;have hchk:=zmd g p (by omega) (by omega) (by omega) (by omega)
 generalize hring : zbF g p x n=r;unfold zbF at hring;replace hring:=hring.symm;have hcz:=zh0 (g:=g) (p:=p);obtain ⟨c,hc⟩ : ∃ c,c=chkE g p:=⟨_,rfl⟩;rw [<- hc] at hchk hring hcz
 have herr : ∀ (e : Int) (m : Nat),r=(zbJ,[],e)->zao [(8,some (true,3)),(9,none),(10,none)] 0 ⟨96,[(8,.pt 40 0 0),(9,.nilS),(10,.I e)],[(40,some zG)],m⟩ (zwt r) []:=by
  intro e m he;rw [he];exact zao.out [] [40] rfl (by simp) (by simp) (wkT3 (by simp; exact wkA3 (.refl _) (.nil _ _) (.nil _ _)) (.nil _ _) (.refl _)) (by simp)
 refine zaa ⟨96,[(3,.I n),(4,.pv (gC g)),(5,.pv (pC p)),(6,.pv [.I x]),(8,.pt 40 0 0)],[(40,some zG)],100⟩ rfl ?_ ?_
 .simp
  exact LeH [(40,40)] [16,24,32]
 refine zab (zaa ⟨96,[(3,.I n),(4,.pv (gC g)),(5,.pv (pC p)),(6,.pv [.I x]),(8,.pt 40 0 0),(11,.I c)],[(40,some zG)],200⟩ rfl ?_ ?_)
 .simp
  refine cl0 hchk ?_;simp;exact LeH [(40,40)] []
 refine zad (zaa ⟨96,[(3,.I n),(4,.pv (gC g)),(5,.pv (pC p)),(6,.pv [.I x]),(8,.pt 40 0 0),(11,.I c),(20,.B (decide (c≠0)))],[(40,some zG)],300⟩ rfl ?_ ?_)
 .simp
  exact Le.go [(40,40)] [] rfl rfl (by simp <;> exact wkB (by rw [QE]; simp)) (by simp)
 refine zac _ rfl (λ h4=>?_) λ h4=>?_
 .rw [Qe] at h4
  rw [if_pos h4] at hring;refine zaa ⟨96,[(8,.pt 40 0 0),(9,.nilS),(10,.I c)],[(40,some zG)],400⟩ rfl ?_ ?_
  .simp [zat]
   exact LeH [(40,40)] []
  exact zah ⟨.inr rfl,herr c _ hring⟩
 rw [Qc] at h4;rw [if_neg h4] at hring;obtain ⟨hg,hp⟩:=hcz.1 (Uh h4);have hsz:=hg.1.1;have hsz2:=hg.1.2.1;have hel:=hg.edges_le;have hw1 : IntKind.i64.wrap (g.size - 1)=g.size - 1:=w6;have hcon:=zbb g.gone x (by omega)
 refine zaa ⟨96,[(3,.I n),(4,.pv (gC g)),(5,.pv (pC p)),(6,.pv [.I x]),(8,.pt 40 0 0),(25,.B (decide (¬ (0<=x/\x<=g.size - 1)∨x∈g.gone)))],[(40,some zG)],600⟩ rfl ?_ ?_
 .simp [hw1]
  refine cl0 (zaJ x 0 (g.size - 1)) ?_
  by_cases hin : 0<=x/\x<=g.size - 1
  .simp [hin]
   refine cl0 hcon ?_;simp;exact Le.go [(40,40)] [] rfl rfl (by simp <;> exact wkB (by simp [hin]; intro h; omega)) (by simp)
  .have hin2 : (decide (0<=x) && decide (x<=g.size - 1))=false:=by
    rw [<- Bool.decide_and];exact UX hin
   simp [hin2];exact Le.go [(40,40)] [] rfl rfl (by simp <;> exact wkB (by simp; exact .inl (by omega))) (by simp)
 refine zac _ rfl (λ h7=>?_) λ h7=>?_
 .rw [Qe] at h7
  rw [if_pos h7] at hring;refine zaa ⟨96,[(8,.pt 40 0 0),(9,.nilS),(10,.I 4)],[(40,some zG)],700⟩ rfl ?_ ?_
  .simp [zat]
   exact LeH [(40,40)] []
  exact zah ⟨.inr rfl,herr 4 _ hring⟩
 rw [Qc] at h7;rw [if_neg h7] at hring
 have hx : 0<=x/\x<g.size:=by
  have : ¬ ¬ (0<=x/\x<=g.size - 1):=λ h=>h7 (.inl h);omega
 have hxg : x∉g.gone:=λ h=>h7 (.inr h);refine zaa ⟨96,[(3,.I n),(4,.pv (gC g)),(5,.pv (pC p)),(6,.pv [.I x]),(8,.pt 40 0 0),(39,.B (decide (n<1)))],[(40,some zG)],800⟩ rfl ?_ ?_
 .simp
  exact LeH [(40,40)] []
 refine zac _ rfl (λ h10=>?_) λ h10=>?_
 .rw [Qe] at h10
  rw [if_pos h10] at hring;refine zaa ⟨96,[(8,.pt 40 0 0),(9,.nilS),(10,.I 2)],[(40,some zG)],900⟩ rfl ?_ ?_
  .simp [zat]
   exact LeH [(40,40)] []
  exact zah ⟨.inr rfl,herr 2 _ hring⟩
 rw [Qc] at h10;rw [if_neg h10] at hring;have hwh:=zeH 52 [.pv (gC g),.pv (pC p),.pv [.I x]] (zjk g p x) g.size (by omega) (λ ρ sn h k=>by simp) λ k _=>zqi g p x k (by omega) (by omega) (by omega)
 have hL : zaK g.size.toNat (zjk g p x)=zhr g p x:=rfl;rw [hL] at hwh;obtain ⟨L,hLd⟩ : ∃ L,L=zhr g p x:=⟨_,rfl⟩;rw [<- hLd] at hwh hring
 have hLlen : L.length<=64:=by
  have h1 : (zaK g.size.toNat (zjk g p x)).length<=g.size.toNat:=by
   unfold zaK;have:=QV (zjk g p x) ((List.range g.size.toNat).map λ (i : Nat)=>(i : Int))
   simpa using this
  rw [hLd,<- hL];omega
 refine zae (zaa ⟨96,[(3,.I n),(4,.pv (gC g)),(6,.pv [.I x]),(8,.pt 40 0 0),(12,ints L)],[(40,some zG)],1000⟩ rfl ?_ ?_)
 .simp
  refine cn1 hwh ?_;simp;exact Le.go [(40,40)] [824] rfl rfl (by simp [fcd,zaq]) (by simp)
 refine zab (zaa ⟨96,[(3,.I n),(4,.pv (gC g)),(6,.pv [.I x]),(8,.pt 40 0 0),(12,ints L),(50,.B (decide ((L.length : Int)<n)))],[(40,some zG)],1100⟩ rfl ?_ ?_)
 .simp
  exact LeH [(40,40)] []
 refine zac _ rfl (λ h14=>?_) λ h14=>?_
 .rw [Qe] at h14
  rw [if_pos h14] at hring;refine zaa ⟨96,[(8,.pt 40 0 0),(9,.nilS),(10,.I 3)],[(40,some zG)],1200⟩ rfl ?_ ?_
  .simp [zat]
   exact LeH [(40,40)] []
  exact zah ⟨.inr rfl,herr 3 _ hring⟩
 rw [Qc] at h14;rw [if_neg h14] at hring;obtain ⟨N,rfl⟩ : ∃ N : Nat,n=N:=⟨n.toNat,by omega⟩
 rw [UC] at hring;obtain ⟨l,hld⟩ : ∃ l,l=L.take N:=⟨_,rfl⟩;rw [<- hld] at hring;have hll : l.length=N:=by rw [hld,QW]; omega
 have hl64 : N<=64:=by omega
 have hfk : ziv g p x l:=by rw [hld,hLd]; exact zfX _
 have hlz : zag g 0=g:=zsz hg;have hlev:=ziV g 0 hlz (by omega) (by omega)
 refine zae (zaa ⟨96,[(3,.I N),(4,.pv (gC g)),(6,.pv [.I x]),(8,.pt 40 0 0),(12,ints l)],[(40,some zG)],1300⟩ rfl ?_ ?_)
 .simp
  refine ⟨by omega,?_⟩
  exact Le.go [(40,40)] [] rfl rfl (by simp [hld]; exact List.map_take ▸ .refl _) (by simp)
 refine zaa ⟨96,[(3,.I N),(6,.pv [.I x]),(8,.pt 40 0 0),(12,ints l),(13,.pt 50 0 0)],[(40,some zG),(50,some (outG g.size g.gone 60 g.edges.length)),(60,some ⟨3,zaC g.edges,0⟩)],1400⟩ rfl ?_ ?_
 .simp
  refine cn1 hlev ?_;simp [zat,fcd];exact Le.go [(40,40),(1316,50),(1308,60)] [] rfl rfl (by simp) (by simp [fcd,zat])
 refine zaa ⟨96,[(3,.I N),(6,.pv [.I x]),(8,.pt 40 0 0),(12,ints l),(13,.pt 50 0 0),(14,.fn (.func 54) [] [.pt 50 0 0])],[(40,some zG),(50,some (outG g.size g.gone 60 g.edges.length)),(60,some ⟨3,zaC g.edges,0⟩)],1500⟩ rfl ?_ ?_
 .simp
  exact LeI [(40,40),(50,50),(60,60)] []
 refine zab (zaa ⟨96,[(3,.I N),(6,.pv [.I x]),(8,.pt 40 0 0),(12,ints l),(13,.pt 50 0 0),(14,.fn (.func 54) [] [.pt 50 0 0]),(58,ints l),(59,.I l.length),(60,.I 0)],[(40,some zG),(50,some (outG g.size g.gone 60 g.edges.length)),(60,some ⟨3,zaC g.edges,0⟩)],1600⟩ rfl ?_ ?_)
 .simp
  exact LeI [(40,40),(50,50),(60,60)] []
 have hF0 : tieF g x l 0=g.edges:=by simp [tieF]
 refine zad (zaj (ι:=Nat) (λ i=>⟨96,[(3,.I N),(6,.pv [.I x]),(8,.pt 40 0 0),(12,ints l),(13,.pt 50 0 0),(14,.fn (.func 54) [] [.pt 50 0 0]),(58,ints l),(59,.I l.length),(60,.I i)],[(40,some zG),(50,some (outG g.size g.gone 60 (tieF g x l i).length)),(60,some ⟨3,zaC (tieF g x l i),0⟩)],1700⟩) (λ i=>i<=l.length) (λ i=>l.length - i) 0 (Qi _) (Le.go [(40,40),(50,50),(60,60)] [] rfl rfl (by simp [hF0]) (by simp [hF0,fcd])) ?_)
 intro i hi;have hFl:=zkC g x l i;refine zaa ⟨96,[(3,.I N),(6,.pv [.I x]),(8,.pt 40 0 0),(12,ints l),(13,.pt 50 0 0),(14,.fn (.func 54) [] [.pt 50 0 0]),(58,ints l),(59,.I l.length),(60,.I i),(61,.B (decide (i<l.length)))],[(40,some zG),(50,some (outG g.size g.gone 60 (tieF g x l i).length)),(60,some ⟨3,zaC (tieF g x l i),0⟩)],1800⟩ rfl ?_ ?_
 .simp
  exact LeI [(40,40),(50,50),(60,60)] []
 refine zab (zac _ rfl (λ h21=>?_) λ h21=>?_)
 .rw [Qe] at h21
  have hFs:=zm5 g x l i;obtain ⟨k,hk⟩ : ∃ k,k=l.getD i 0:=⟨_,rfl⟩;have hki : l[i]=k:=by rw [hk,Qd,Qa h21,Qz]
  have hw2 : IntKind.i64.wrap ((i : Int)+1)=(i : Int)+1:=w6;obtain ⟨F,hF⟩ : ∃ F,F=tieF g x l i:=⟨_,rfl⟩;rw [<- hF] at hFs hFl ⊢;have hti : tieI x l i=[⟨x,k,3⟩,⟨k,x,3⟩]++(if 1<l.length then [⟨k,l.getD ((i+1) % l.length) 0,3⟩] else []):=by rw [hk]; rfl
  rw [hti] at hFs;refine zae (zap (ι:=Unit) (λ _=>⟨96,[(3,.I N),(6,.pv [.I x]),(8,.pt 40 0 0),(12,ints l),(13,.pt 50 0 0),(14,.fn (.func 54) [] [.pt 50 0 0]),(58,ints l),(59,.I l.length),(60,.I i)],[(40,some zG),(50,some (outG g.size g.gone 60 (tieF g x l (i+1)).length)),(60,some ⟨3,zaC (tieF g x l (i+1)),0⟩)],4000⟩) (λ _=>True) ?_ λ _ _=>?_)
  .refine zad (zaa ⟨96,[(3,.I N),(6,.pv [.I x]),(8,.pt 40 0 0),(12,ints l),(13,.pt 50 0 0),(14,.fn (.func 54) [] [.pt 50 0 0]),(15,.I i),(16,.I k),(58,ints l),(59,.I l.length),(60,.I i)],[(40,some zG),(50,some (outG g.size g.gone 60 F.length)),(60,some ⟨3,zaC F,0⟩)],2000⟩ rfl ?_ ?_)
   .simp [h21,hki]
    exact LeI [(40,40),(50,50),(60,60)] []
   refine zaa ⟨96,[(3,.I N),(6,.pv [.I x]),(8,.pt 40 0 0),(12,ints l),(13,.pt 50 0 0),(14,.fn (.func 54) [] [.pt 50 0 0]),(15,.I i),(16,.I k),(58,ints l),(59,.I l.length),(60,.I i)],[(40,some zG),(50,some (outG g.size g.gone 60 (F.length+1))),(60,some ⟨3,zaC (F++[⟨x,k,3⟩]),0⟩)],2200⟩ rfl ?_ ?_
   .simp
    refine zfs (i:=50) (j:=60) (by decide) rfl rfl (e1':=outG g.size g.gone 1 F.length) (e2':=⟨3,zaC F,0⟩) (by simp) (by simp [fcd]) (zsU g.size g.gone x k F _ rfl (by omega)) (by simp) (by simp) ?_
    simp [fcd];exact LeI [(40,40),(50,50),(2024,60)] []
   refine zaa ⟨96,[(3,.I N),(6,.pv [.I x]),(8,.pt 40 0 0),(12,ints l),(13,.pt 50 0 0),(14,.fn (.func 54) [] [.pt 50 0 0]),(15,.I i),(16,.I k),(58,ints l),(59,.I l.length),(60,.I i)],[(40,some zG),(50,some (outG g.size g.gone 60 (F.length+1+1))),(60,some ⟨3,zaC (F++[⟨x,k,3⟩]++[⟨k,x,3⟩]),0⟩)],2400⟩ rfl ?_ ?_
   .simp
    refine zfs (i:=50) (j:=60) (by decide) rfl rfl (e1':=outG g.size g.gone 1 (F.length+1)) (e2':=⟨3,zaC (F++[⟨x,k,3⟩]),0⟩) (by simp) (by simp [fcd]) (zsU g.size g.gone k x (F++[⟨x,k,3⟩]) _ (by simp) (by omega)) (by simp) (by simp) ?_
    simp [fcd];exact LeI [(40,40),(50,50),(2224,60)] []
   obtain ⟨F2,hF2⟩ : ∃ F2,F2=F++[⟨x,k,3⟩]++[⟨k,x,3⟩]:=⟨_,rfl⟩;have hF2l : F.length+1+1=F2.length:=by rw [hF2]; simp
   rw [<- hF2,hF2l];refine zaa ⟨96,[(3,.I N),(6,.pv [.I x]),(8,.pt 40 0 0),(12,ints l),(13,.pt 50 0 0),(14,.fn (.func 54) [] [.pt 50 0 0]),(15,.I i),(16,.I k),(58,ints l),(59,.I l.length),(60,.I i),(74,.B (decide ((1 : Int)<N)))],[(40,some zG),(50,some (outG g.size g.gone 60 F2.length)),(60,some ⟨3,zaC F2,0⟩)],2600⟩ rfl ?_ ?_
   .simp
    exact LeI [(40,40),(50,50),(60,60)] []
   refine zac _ rfl (λ h26=>?_) λ h26=>?_
   .rw [Qe] at h26
    rw [if_pos (by omega),<- Qx,show F++[⟨x,k,3⟩,⟨k,x,3⟩]=F2 by rw [hF2]; simp] at hFs
    have hrem : ((i : Int)+1).tmod (N : Int)=(((i+1) % l.length : Nat) : Int):=by rw [hll]; exact (Int.ofNat_tmod (i+1) N).symm
    have hj : (i+1) % l.length<l.length:=Uj _ (by omega)
    obtain ⟨j,hjd⟩ : ∃ j,j=(i+1) % l.length:=⟨_,rfl⟩;rw [<- hjd] at hrem hj hFs;have hkj : l[j]=l.getD j 0:=by rw [Qd,Qa hj,Qz]
    obtain ⟨k2,hk2⟩ : ∃ k2,k2=l.getD j 0:=⟨_,rfl⟩;rw [<- hk2] at hkj hFs;have hN0 : ¬ N=0:=by omega
    refine zan rfl ?_;simp [hw2,hrem,hj,hkj];refine ⟨_,⟨hN0,rfl⟩,?_⟩;simp [hj,hkj];refine zfs (i:=50) (j:=60) (by decide) rfl rfl (e1':=outG g.size g.gone 1 F2.length) (e2':=⟨3,zaC F2,0⟩) (by simp) (by simp [fcd]) (zsU g.size g.gone k k2 F2 _ rfl (by omega)) (by simp) (by simp) ?_
    simp [fcd];exact Le.go [(40,40),(50,50),(2672,60)] [] rfl rfl (by simp [hFs]) (by simp [hFs,fcd])
   .rw [Qc] at h26
    rw [if_neg (by omega),QX,show F++[⟨x,k,3⟩,⟨k,x,3⟩]=F2 by rw [hF2]; simp] at hFs
    exact zae ⟨(),trivial,Le.go [(40,40),(50,50),(60,60)] [] rfl rfl (by simp [hFs]) (by simp [hFs,fcd])⟩
  refine zan rfl ?_;simp;exact ⟨i+1,by omega,by omega,Le.go [(40,40),(50,50),(60,60)] [] rfl rfl (by simp [hw2]) (by simp [fcd])⟩
 rw [Qc] at h21;obtain rfl : i=l.length:=by omega
 have hFt : tieF g x l l.length=g.edges++tieL x l:=rfl;refine zai (hit (zab ?_));obtain ⟨A,hA⟩ : ∃ A,A=g.edges++tieL x l:=⟨_,rfl⟩;rw [hFt,<- hA];have hAl : g.edges.length+(tieL x l).length=A.length:=by rw [hA,Qh]
 have hAle : A.length<=1000000:=by rw [hA,<- hFt]; have:=zkC g x l l.length; omega
 rw [hAl] at hring;refine zaa ⟨96,[(8,.pt 40 0 0),(12,ints l),(13,.pt 50 0 0),(89,.B (decide ((500 : Int)<A.length)))],[(40,some zG),(50,some (outG g.size g.gone 60 A.length)),(60,some ⟨3,zaC A,0⟩)],5000⟩ rfl ?_ ?_
 .simp
  exact LeI [(40,40),(50,50),(60,60)] []
 refine zac _ rfl (λ h28=>?_) λ h28=>?_
 .rw [Qe] at h28
  rw [if_pos (by omega)] at hring
  refine zaa ⟨96,[(8,.pt 40 0 0),(9,.nilS),(10,.I 3)],[(40,some zG)],5100⟩ rfl ?_ ?_
  .simp [zat]
   exact LeH [(40,40)] []
  exact zah ⟨.inr rfl,herr 3 _ hring⟩
 rw [Qc] at h28;rw [if_neg (by omega)] at hring
 have hAp : A.Pairwise ziM:=by
  rw [hA,Vd];refine ⟨hg.pair.imp λ {a b} h=>?_,zlK hfk.nodup λ h=>hfk.ne x h rfl,λ a ha b hb=>?_⟩
  .unfold Bef at h; unfold ziM; omega
  .have h1:=(zmH hb).2
   rintro ⟨e1,e2⟩
   rcases h1 with ⟨_,h⟩ | ⟨_,h⟩ | ⟨h,_⟩
   .exact (hfk.edge _ h a ha).2 e2
   .exact (hfk.edge _ h a ha).1 e1
   .exact (hfk.edge _ h a ha).1 e1
 have hA0 : A≠[]:=by
  have h1 : 0<l.length:=by omega
  have h2:=zrY (x:=x) (l:=l) (Qj h1);intro h;rw [hA,List.append_eq_nil_iff] at h;rw [h.2] at h2;exact Uk h2
 have hsort:=zqr A hA0 (by omega) hAp
 have hrg : zbI g x l=⟨g.size,zgS A,g.gone⟩:=by rw [hA]; rfl
 have hsl : (zgS A).length=A.length:=(zcK A).length_eq;obtain ⟨Z,hZ⟩ : ∃ Z,Z=zgS A:=⟨_,rfl⟩;rw [<- hZ] at hsort hrg hsl;have htz : ∀ f : Ed->List AV,List.take A.length (List.map f Z)=List.map f Z:=λ f=>Qb (by simp [hsl])
 refine zae (zaa ⟨96,[(8,.pt 40 0 0),(12,ints l),(13,.pt 50 0 0)],[(40,some zG),(50,some (outG g.size g.gone 60 A.length)),(60,some ⟨3,zaC Z,0⟩)],6000⟩ rfl ?_ ?_)
 .simp
  refine zaS (i:=60) rfl (by simp [fcd]) hsort (by simp) (by simp) ?_
  simp [fcd];exact LeI [(40,40),(50,50),(60,60)] []
 refine zaa ⟨96,[(8,.pt 40 0 0),(9,ints l),(10,.I 0)],[(40,some ⟨3,[[.I g.size,eEs Z,ints g.gone]],0⟩)],7000⟩ rfl ?_ ?_
 .simp [zat]
  exact Le.go [(40,40)] [60] rfl rfl (by simp) (by simp [fcd,zat,htz,hsl])
 refine zah ?_;rw [hring,hrg];exact ⟨.inr rfl,zao.out [] [40] rfl (by simp) (by simp) (wkT3 (by simp) (.refl _) (.refl _)) (by simp)⟩
theorem zn7 {g : Gr} (hg : GrOk g) (p : Pol) : (ordL (zag g p.lv) p.seeds).length<=64:=by
 have hsz:=hg.1.1;have hsz2:=hg.1.2.1;have hr : ∀ x∈ordL (zag g p.lv) p.seeds,0<=x/\x<g.size:=λ x hx=>by have h:=zbD hx; exact h
 have:=zaL (b:=(List.range g.size.toNat).map λ i : Nat=>(i : Int)) (za3 (zag g p.lv) p.seeds) λ x hx=>by
  have:=hr x hx;exact Qg.2 ⟨x.toNat,QA.2 (by omega),by omega⟩
 rw [Qt,UB] at this;omega
end Go.Proofs.YtkngdgplbojdlaaGreat
namespace Go.Proofs.YtkngdgplbojdlaaGreat
open Go
abbrev accG (g : Gr) (p : Pol) : List Int:=accR g p (ordL (zag g p.lv) p.seeds)
theorem zps {g : Gr} (hg : GrOk g) (p : Pol) : (accG g p).length<=64:=QH (zkx _) (zn7 hg p)
def inC (N : Nat) (l a : List Int) : Nat:=(zaK N λ k=>decide (k∈l) && decide (k∈a)).length
def outC (N : Nat) (l a : List Int) : Nat:=(zaK N λ k=>decide (k∈l) && !decide (k∈a)).length
def ze6 (g : Gr) (p : Pol) (x n : Int) : Int × Int × Int :=
 if (zbF g p x n).2.2≠0 then (0,0,(zbF g p x n).2.2)
 else ((inC g.size.toNat (zbF g p x n).2.1 (accG (zbF g p x n).1 p) : Int),(outC g.size.toNat (accG g p) (accG (zbF g p x n).1 p) : Int),0)
theorem zqE {g : Gr} {p : Pol} {x n : Int} (h : (zbF g p x n).2.2=0) :
  GrOk g/\zaN g.size p/\(0<=x/\x<g.size)/\x∉g.gone/\1<=n /\ ∃ l,l=(zhr g p x).take n.toNat/\(l.length : Int)=n/\ziv g p x l/\GrOk (zbI g x l)/\zbF g p x n=(zbI g x l,l,0):=by
 have hcz:=zh0 (g:=g) (p:=p);unfold zbF at h ⊢
 by_cases h1 : chkE g p≠0
 .rw [if_pos h1] at h; exact absurd h h1
 rw [if_neg h1] at h ⊢
 by_cases h2 : ¬ (0<=x/\x<=g.size - 1)∨x∈g.gone
 .rw [if_pos h2] at h; cases h
 rw [if_neg h2] at h ⊢
 by_cases h3 : n<1
 .rw [if_pos h3] at h; cases h
 rw [if_neg h3] at h ⊢
 by_cases h4 : ((zhr g p x).length : Int)<n
 .rw [if_pos h4] at h; cases h
 rw [if_neg h4] at h ⊢
 by_cases h5 : 500<g.edges.length+(tieL x ((zhr g p x).take n.toNat)).length
 .rw [if_pos h5] at h; cases h
 rw [if_neg h5] at h ⊢;obtain ⟨hg,hp⟩:=hcz.1 (Uh h1)
 have hx : 0<=x/\x<g.size:=by
  have : ¬ ¬ (0<=x/\x<=g.size - 1):=λ h=>h2 (.inl h);omega
 have hxg : x∉g.gone:=λ h=>h2 (.inr h);refine ⟨hg,hp,hx,hxg,by omega,_,rfl,?_,zfX _,zpr hg (zfX _) hx hxg (by omega),rfl⟩
 rw [QW];omega
theorem zqt (l acc f : List Int) (R : List (Int × List Int)) (k : Int) (hl : l.length<=1000000) (ha : acc.length<=1000000) : AcP 60 [.I k,.pv [ints l],.pv [ints acc,ints f,.vs 2 false (zbm R)]] [] (.B (decide (k∈l) && decide (k∈acc))) []:=by
 refine zhd.s.ac ?_;show awp _ 0 _ _ ⟨13,[(0,.I k),(1,.pv [ints l]),(2,.pv [ints acc,ints f,.vs 2 false (zbm R)])],[],16⟩;refine rs [0,1,2] [] [] ?_;refine zaa ⟨13,[(4,.B (decide (k∈l) && decide (k∈acc)))],[],200⟩ rfl ?_ ?_
 .simp
  refine cl0 (zbb l k (by omega)) ?_
  by_cases h : k∈l
  .simp [h]
   refine cl0 (zbf acc f R k (by omega)) ?_
   simp;exact LeH [] []
  .simp [h]
   exact LeH [] []
 exact zaI
theorem zqA (a1 f1 a2 f2 : List Int) (R1 R2 : List (Int × List Int)) (k : Int) (h1 : a1.length<=1000000) (h2 : a2.length<=1000000) : AcP 61 [.I k,.pv [ints a1,ints f1,.vs 2 false (zbm R1)],.pv [ints a2,ints f2,.vs 2 false (zbm R2)]] [] (.B (decide (k∈a1) && !decide (k∈a2))) []:=by
 refine zhg.s.ac ?_;show awp _ 0 _ _ ⟨14,[(0,.I k),(1,.pv [ints a1,ints f1,.vs 2 false (zbm R1)]),(2,.pv [ints a2,ints f2,.vs 2 false (zbm R2)])],[],16⟩;refine rs [0,1,2] [] [] ?_;refine zaa ⟨14,[(4,.B (decide (k∈a1) && !decide (k∈a2)))],[],200⟩ rfl ?_ ?_
 .simp
  refine cl0 (zbf a1 f1 R1 k (by omega)) ?_
  by_cases h : k∈a1
  .simp [h]
   refine cl0 (zbf a2 f2 R2 k (by omega)) ?_
   simp;exact LeH [] []
  .simp [h]
   exact LeH [] []
 exact zaI
theorem zov {g : Gr} {p : Pol} (hg : GrOk g) (hp : zaN g.size p) : p.seeds.length<=64:=by
 have:=zaL (a:=p.seeds) (b:=(List.range 64).map Int.ofNat) hp.2.1.nodup.1 λ x hx=>by
  have h1:=hp.2.1.nodup.2 x hx;have h2:=hg.1.2.1;exact Qg.2 ⟨x.toNat,QA.2 (by omega),by simp; omega⟩
 simpa using this
theorem zhT (g : Gr) (p : Pol) (x n : Int) (hl : g.edges.length<=1000000) (hl2 : g.gone.length<=1000000) (hs : p.seeds.length<=1000000) (ht : p.table.length<=1000000) (hN : GrOk g->g.size<20) :
  AcP 21 [eG g,eP p,.I x,.I n] [] (.tup [.I (ze6 g p x n).1,.I (ze6 g p x n).2.1,.I (ze6 g p x n).2.2]) []:=by
 refine zlc.s.ac ?_;show awp _ 0 _ _ ⟨56,[(0,eG g),(1,eP p),(2,.I x),(3,.I n)],[],16⟩;have hring:=zeh g p x n hl hl2 hs ht;have hright:=zqE (g:=g) (p:=p) (x:=x) (n:=n);generalize hres : ze6 g p x n=res;unfold ze6 at hres;replace hres:=hres.symm;generalize zbF g p x n=r at *;obtain ⟨h,l,e⟩:=r;simp only at *;refine zaa ⟨56,[(2,.I x),(3,.I n),(4,.pv (gC g)),(5,.pv (pC p))],[],100⟩ rfl ?_ ?_
 .simp
  exact LeH [] [16,24]
 refine zaa ⟨56,[(4,.pv (gC g)),(5,.pv (pC p)),(11,.pv (gC h)),(12,.pv [ints l]),(13,.I e)],[],300⟩ rfl ?_ ?_
 .simp
  refine cl0 hring ?_;simp [zat];exact LeH [] [172,180]
 refine zab (zaa ⟨56,[(4,.pv (gC g)),(5,.pv (pC p)),(11,.pv (gC h)),(12,.pv [ints l]),(13,.I e),(30,.B (decide (e≠0)))],[],400⟩ rfl ?_ ?_)
 .simp
  exact Le.go [] [] rfl rfl (by simp <;> exact wkB (by rw [QE]; simp)) (by simp)
 refine zac _ rfl (λ h4=>?_) λ h4=>?_
 .rw [Qe] at h4
  rw [if_pos h4] at hres;refine zaa ⟨56,[(8,.I 0),(9,.I 0),(10,.I e)],[],500⟩ rfl ?_ ?_
  .simp
   exact LeH [] []
  refine zah ?_;rw [hres];exact ⟨.inr rfl,zao.out [] [] rfl (by simp) (by simp) (wkT3 (.refl _) (.refl _) (.refl _)) (by simp)⟩
 rw [Qc] at h4;rw [if_neg h4] at hres;obtain ⟨hg,hp,hx,hxg,hn1,l',hl',hll,hfk,hro,hrr⟩:=hright (Uh h4);injection hrr with e1 e2;injection e2 with e2 e3;subst e2 e3;have hp1 : zaN h.size p:=by rw [e1]; exact hp
 rw [<- e1] at hro;have hsz : h.size=g.size:=by rw [e1]; rfl
 have hlen : l.length<=64:=by
  have:=zaL (a:=l) (b:=(List.range 64).map Int.ofNat) hfk.nodup λ x hx=>by
   have h1:=hfk.rng x hx;have h2:=hg.1.2.1;exact Qg.2 ⟨x.toNat,QA.2 (by omega),by simp; omega⟩
  simpa using this
 have hs64:=zov hg hp;obtain ⟨f1,hf1,hrun1⟩:=zet g p hg hp hs64 (hN hg);obtain ⟨f2,hf2,hrun2⟩:=zet h p hro hp1 hs64 (by rw [hsz]; exact hN hg)
 have ha1:=zps hg p;have ha2:=zps hro p;simp only [accG] at ha1 ha2 hres;obtain ⟨a1,hA1⟩ : ∃ a,a=accR g p (ordL (zag g p.lv) p.seeds):=⟨_,rfl⟩;obtain ⟨a2,hA2⟩ : ∃ a,a=accR h p (ordL (zag h p.lv) p.seeds):=⟨_,rfl⟩;obtain ⟨R1,hR1⟩ : ∃ R,R=refR g p (ordL (zag g p.lv) p.seeds):=⟨_,rfl⟩;obtain ⟨R2,hR2⟩ : ∃ R,R=refR h p (ordL (zag h p.lv) p.seeds):=⟨_,rfl⟩;rw [<- hA1,<- hR1] at hrun1;rw [<- hA2,<- hR2] at hrun2;rw [<- hA1] at ha1;rw [<- hA2] at ha2;rw [<- hA1,<- hA2] at hres;have hw1:=zeH 60 [.pv [ints l],.pv [ints a2,ints f2,.vs 2 false (zbm R2)]] (λ k=>decide (k∈l) && decide (k∈a2)) g.size (by have:=hg.1.2.1; omega) (λ ρ sn h k=>by simp) λ k _=>zqt l a2 f2 R2 k (by omega) (by omega)
 have hw2:=zeH 61 [.pv [ints a1,ints f1,.vs 2 false (zbm R1)],.pv [ints a2,ints f2,.vs 2 false (zbm R2)]] (λ k=>decide (k∈a1) && !decide (k∈a2)) g.size (by have:=hg.1.2.1; omega) (λ ρ sn h k=>by simp) λ k _=>zqA a1 f1 a2 f2 R1 R2 k (by omega) (by omega)
 unfold inC outC at hres;obtain ⟨W1,hW1⟩ : ∃ W,W=zaK g.size.toNat λ k=>decide (k∈l) && decide (k∈a2):=⟨_,rfl⟩;obtain ⟨W2,hW2⟩ : ∃ W,W=zaK g.size.toNat λ k=>decide (k∈a1) && !decide (k∈a2):=⟨_,rfl⟩;rw [<- hW1] at hw1 hres;rw [<- hW2] at hw2 hres;refine zae (zaa ⟨56,[(4,.pv (gC g)),(5,.pv (pC p)),(11,.pv (gC h)),(12,.pv [ints l]),(14,.pv [ints a1,ints f1,.vs 2 false (zbm R1)])],[],600⟩ rfl ?_ ?_)
 .simp
  refine cl0 hrun1 ?_;simp [zat];exact LeH [] [448]
 refine zaa ⟨56,[(4,.pv (gC g)),(12,.pv [ints l]),(14,.pv [ints a1,ints f1,.vs 2 false (zbm R1)]),(16,.pv [ints a2,ints f2,.vs 2 false (zbm R2)])],[],700⟩ rfl ?_ ?_
 .simp
  refine cl0 hrun2 ?_;simp [zat];exact LeH [] [648]
 refine zaa ⟨56,[(4,.pv (gC g)),(14,.pv [ints a1,ints f1,.vs 2 false (zbm R1)]),(16,.pv [ints a2,ints f2,.vs 2 false (zbm R2)]),(18,ints W1)],[],800⟩ rfl ?_ ?_
 .simp
  refine cn1 hw1 ?_;simp;exact Le.go [] [724] rfl rfl (by simp [fcd,zaq]) (by simp)
 refine zaa ⟨56,[(18,ints W1),(19,ints W2)],[],900⟩ rfl ?_ ?_
 .simp
  refine cn1 hw2 ?_;simp;exact Le.go [] [824] rfl rfl (by simp [fcd,zaq]) (by simp)
 refine zaa ⟨56,[(8,.I W1.length),(9,.I W2.length),(10,.I 0)],[],1000⟩ rfl ?_ ?_
 .simp
  exact LeH [] []
 refine zah ?_;rw [hres];exact ⟨.inr rfl,zao.out [] [] rfl (by simp) (by simp) (wkT3 (.refl _) (.refl _) (.refl _)) (by simp)⟩
theorem zwr {g : Gr} {salt : ByteArray} (hg : GrOk g) (h9 : g.size<=12) (hs : salt.size<=100000) : Sml g salt:=by
 refine ⟨by have:=hg.edges_le; omega,hs,λ k=>?_⟩
 have hn : (nbL g.edges k).Nodup:=zcr (zro _ _)
 have:=zaL (b:=(List.range 12).map λ i : Nat=>(i : Int)) hn λ x hx=>by
  obtain ⟨e,he,h⟩:=zkN.1 hx;have hf:=hg.fits e he;unfold Fits at hf;refine Qg.2 ⟨x.toNat,QA.2 ?_,?_⟩
  .rcases h with ⟨_,h⟩ | ⟨_,h⟩ <;> omega
  .rcases h with ⟨_,h⟩ | ⟨_,h⟩ <;> omega
 simpa using this
abbrev accV (acc f : List Int) (R : List (Int × List Int)) : AV:=.pv [ints acc,ints f,.vs 2 false (zbm R)]
theorem zlR (acc f : List Int) (R : List (Int × List Int)) (k : Int) (hl : acc.length<=140737488355328) : AcP 42 [.I k,accV acc f R] [] (.B (!decide (k∈acc))) []:=by
 refine zgE.s.ac ?_;show awp _ 0 _ _ ⟨8,[(0,.I k),(1,accV acc f R)],[],16⟩;refine zaa ⟨8,[(0,.I k),(1,accV acc f R)],[],50⟩ rfl ?_ ?_
 .simp
  exact Le.go [] [] rfl rfl (by simp [fcd]) (by simp)
 refine zaa ⟨8,[(3,.B (!decide (k∈acc)))],[],100⟩ rfl ?_ ?_
 .simp
  refine zau (zbf acc f R k hl) (by simp [fcd]) ?_
  simp;exact LeH [] []
 exact zaI
theorem zlJ (g : Gr) (p : Pol) (salt : ByteArray) (n r : Int) (hg : GrOk g) (hp : zaN g.size p) (h12 : g.size<=12) (hsa : salt.size<=100000) (hn1 : 1<=n) (hn2 : n<=100) (hr1 : 1<=r) (hr2 : r<=5) :
  AcP 14 [eG g,eP p,sB salt,.I n,.I r] [] (.tup [rwsV (tabG g p salt n r),.I 0]) []:=by
 refine zje.s.ac ?_;show awp _ 0 _ _ ⟨115,[(0,eG g),(1,eP p),(2,sB salt),(3,.I n),(4,.I r)],[],16⟩;have hs64:=zov hg hp;have ht8 : p.table.length<=8:=hp.2.2.2.1;have hel:=hg.edges_le;have hgl:=hg.gone_le;have hsz:=hg.1.1;obtain ⟨f,_,hrun⟩:=zet g p hg hp hs64 (by omega)
 have hlev:=zbO g p.lv (by omega) (by omega)
 have hall:=zcP (zag g p.lv) p.seeds (hg.level p.lv) (by omega)
 have hord:=zcj (g:=zag g p.lv) (S:=p.seeds) (hg.level p.lv) (show g.size<20 by omega) (by omega)
 have hwts:=zpL g p r hg hp (by omega) hr1 hr2 hs64 ht8
 have hDl : (zaW (zag g p.lv) p.seeds).length=g.size.toNat:=zdt
 have hDx : ∀ (x : Nat) (h : x<(zaW (zag g p.lv) p.seeds).length),(zaW (zag g p.lv) p.seeds)[x]=dist (zag g p.lv) p.seeds x:=λ x h=>by
  have:=ziF (g:=zag g p.lv) (S:=p.seeds) (k:=x) (show x<g.size.toNat by omega)
  rw [<- this,List.getD,Qa h];rfl
 rw [show (zag g p.lv).size.toNat=(zaW (zag g p.lv) p.seeds).length from hDl.symm] at hall
 have hsml:=zwr hg h12 hsa;have hor : ∀ k∈orG g p,0<=k/\k<g.size:=λ k hk=>zbD (g:=zag g p.lv) hk;have hol : (orG g p).length<=64:=zn7 hg p
 have hacl : (acG g p).length<=64:=by
  have : (acG g p).Sublist (orG g p):=zcG _ _ rfl;exact QH this.length_le hol
 have hoth : (othG g p).length<=g.size.toNat:=zdz _ _;have hWl:=zow g p r;have hwS : (ze8 (zag g p.lv) p.seeds r).2=0->wtsG g p r=(ze8 (zag g p.lv) p.seeds r).1:=λ h=>if_pos h;have hwE : (ze8 (zag g p.lv) p.seeds r).2≠0->wtsG g p r=List.replicate g.size.toNat 0:=λ h=>if_neg h;have hmost:=λ a b=>zk5 g p.lv a b hg;have hself : ∀ x,zc5 g p.lv x x=0:=λ x=>zl4;have hwhere:=λ R=>zeH 42 [accV (acG g p) f R] (λ x=>!decide (x∈acG g p)) g.size (by omega) (λ _ _ _ _=>by simp [fcd]) λ k _=>zlR (acG g p) f R k (by omega)
 have hesc:=λ x=>zpJ hsml x n (othG g p) (by omega)
 have hacc:=λ R x=>zbf (acG g p) f R x (by omega)
 have htab : tabG g p salt n r=(orG g p).map (zhj g p salt n r):=rfl;have hrow : ∀ x,zhj g p salt n r x=⟨x,dist (zag g p.lv) p.seeds x,zc5 g p.lv ((orG g p).headD 0) x,escL g.edges salt x n (othG g p),(wtsG g p r).getD x.toNat 0,decide (x∈acG g p)⟩:=λ _=>rfl;change zaU _ _ _ _ (.tup [eAcc (acG g p) f (refR g p (orG g p)),.I 0]) [] at hrun;change zaU _ _ _ _ (.rs 0 0 (orG g p).length) [some ⟨1,zaf (orG g p),0⟩] at hord;change ∀ R,zaU _ _ _ _ (.rs 0 0 (othG g p).length) [some ⟨1,zaf (othG g p),0⟩] at hwhere;rw [htab];obtain ⟨ρ,hρ⟩ : ∃ ρ,ρ=zhj g p salt n r:=⟨_,rfl⟩;rw [<- hρ] at hrow ⊢;obtain ⟨R,hR⟩ : ∃ R,R=refR g p (orG g p):=⟨_,rfl⟩;rw [<- hR] at hrun;replace hwhere:=hwhere R;replace hacc:=λ x=>hacc R x;obtain ⟨S1,hS1⟩ : ∃ S,S=(ze8 (zag g p.lv) p.seeds r).1:=⟨_,rfl⟩;obtain ⟨S2,hS2⟩ : ∃ S,S=(ze8 (zag g p.lv) p.seeds r).2:=⟨_,rfl⟩;rw [<- hS1,<- hS2] at hwts;rw [<- hS1,<- hS2] at hwS;rw [<- hS2] at hwE;obtain ⟨D,hD⟩ : ∃ D,D=zaW (zag g p.lv) p.seeds:=⟨_,rfl⟩;rw [<- hD] at hall hDl;simp only [<- hD] at hDx;obtain ⟨O,hO⟩ : ∃ O,O=orG g p:=⟨_,rfl⟩;rw [<- hO] at hor hol hord ⊢;simp only [<- hO] at hrow;obtain ⟨A,hA⟩ : ∃ A,A=acG g p:=⟨_,rfl⟩;simp only [<- hA] at hrun hwhere hacc hrow hacl;obtain ⟨Z,hZ⟩ : ∃ Z,Z=othG g p:=⟨_,rfl⟩;simp only [<- hZ] at hwhere hesc hrow hoth;obtain ⟨W,hW⟩ : ∃ W,W=wtsG g p r:=⟨_,rfl⟩;simp only [<- hW] at hWl hwS hwE hrow;obtain ⟨V,hV⟩ : ∃ V,V=zag g p.lv:=⟨_,rfl⟩;have hVs : V.size=g.size:=by rw [hV]; rfl
 rw [<- hV] at hlev hall hord;simp only [<- hV] at hDx hrow;have hDt : ∀ f : Int->List AV,(D.map f).take D.length=D.map f:=λ f=>Qb (by simp)
 have hOt : ∀ f : Int->List AV,(O.map f).take O.length=O.map f:=λ f=>Qb (by simp)
 have hZt : ∀ f : Int->List AV,(Z.map f).take Z.length=Z.map f:=λ f=>Qb (by simp)
 have hin1 : AcP 37 [.I n,.I 1,.I 100] [] (.B true) []:=by
  have:=zaJ n 1 100
  rwa [show (decide (1<=n) && decide (n<=100))=true by simp [hn1,hn2]] at this
 have hin2 : AcP 37 [.I r,.I 1,.I 5] [] (.B true) []:=by
  have:=zaJ r 1 5
  rwa [show (decide (1<=r) && decide (r<=5))=true by simp [hr1,hr2]] at this
 clear hsml hDl
 refine zaa ⟨115,[(2,sB salt),(3,.I n),(4,.I r),(5,.pv (gC g)),(6,.pv (pC p))],[],50⟩ rfl ?_ ?_
 .simp
  exact LeH [] [16,24]
 refine zaa ⟨115,[(2,sB salt),(3,.I n),(4,.I r),(5,.pv (gC g)),(6,.pv (pC p)),(12,accV A f R),(13,.I 0)],[],200⟩ rfl ?_ ?_
 .simp
  refine cl0 hrun ?_;simp [zat];exact Le.go [] [98] rfl rfl (by simp [fcd]) (by simp)
 refine zab (zad (zaa ⟨115,[(2,sB salt),(3,.I n),(4,.I r),(5,.pv (gC g)),(6,.pv (pC p)),(12,accV A f R),(29,.B false)],[],300⟩ rfl ?_ ?_))
 .simp
  exact Le.go [] [] rfl rfl (by simp [fcd]) (by simp)
 refine zac _ rfl (λ h=>by cases h) λ _=>?_
 refine zaa ⟨115,[(2,sB salt),(3,.I n),(4,.I r),(5,.pv (gC g)),(6,.pv (pC p)),(12,accV A f R),(33,.B false)],[],400⟩ rfl ?_ ?_
 .simp
  refine cl0 hin1 ?_;simp;refine cl0 hin2 ?_;simp;exact Le.go [] [] rfl rfl (by simp [fcd]) (by simp)
 refine zac _ rfl (λ h=>by cases h) λ _=>?_
 refine zae (zaa ⟨115,[(2,sB salt),(3,.I n),(4,.I r),(5,.pv (gC g)),(6,.pv (pC p)),(12,accV A f R),(14,.pv (gC V))],[],500⟩ rfl ?_ ?_)
 .simp
  refine cl0 hlev ?_;simp [zat];exact Le.go [] [432] rfl rfl (by simp [fcd]) (by simp)
 refine zaa ⟨115,[(2,sB salt),(3,.I n),(4,.I r),(5,.pv (gC g)),(6,.pv (pC p)),(12,accV A f R),(14,.pv (gC V)),(15,ints D)],[],600⟩ rfl ?_ ?_
 .simp
  refine cn1 hall ?_;simp;exact Le.go [] [524] rfl rfl (by simp [fcd,hDt]) (by simp)
 refine zaa ⟨115,[(2,sB salt),(3,.I n),(5,.pv (gC g)),(6,.pv (pC p)),(12,accV A f R),(13,.I S2),(14,.pv (gC V)),(15,ints D),(16,ints S1)],[],700⟩ rfl ?_ ?_
 .simp
  refine cl0 hwts ?_;simp;exact Le.go [] [] rfl rfl (by simp [fcd]) (by simp)
 refine zap (ι:=Unit) (λ _=>⟨115,[(2,sB salt),(3,.I n),(5,.pv (gC g)),(6,.pv (pC p)),(12,accV A f R),(14,.pv (gC V)),(15,ints D),(16,ints W)],[],1000⟩) (λ _=>True) ?_ λ _ _=>?_
 .refine zaa ⟨115,[(2,sB salt),(3,.I n),(5,.pv (gC g)),(6,.pv (pC p)),(12,accV A f R),(14,.pv (gC V)),(15,ints D),(16,ints S1),(58,.B (decide (S2≠0)))],[],800⟩ rfl ?_ ?_
  .simp
   exact Le.go [] [] rfl rfl (by simp [fcd] <;> exact wkB (by rw [QE]; simp)) (by simp)
  refine zac _ rfl (λ h=>?_) λ h=>?_
  .rw [Qe] at h
   rw [hwE h];refine zan rfl ?_;simp;refine ⟨by omega,by omega,by omega,?_⟩
   exact Le.go [] [816] rfl rfl (by simp [fcd] <;> exact wkE (by show AV.vs 1 false _=AV.vs 1 false _; rw [List.map_replicate])) (by simp)
  .rw [Qc] at h
   rw [hwS (Decidable.not_not.1 h)];exact zae ⟨(),trivial,Le.go [] [] rfl rfl (by simp [fcd]) (by simp)⟩
 refine zaa ⟨115,[(2,sB salt),(3,.I n),(5,.pv (gC g)),(6,.pv (pC p)),(12,accV A f R),(14,.pv (gC V)),(15,ints D),(16,ints W),(17,ints Z)],[],1100⟩ rfl ?_ ?_
 .simp
  refine zdg hwhere (by simp [fcd]) ?_
  simp;exact Le.go [] [1024] rfl rfl (by simp [fcd,hZt]) (by simp)
 refine zaa ⟨115,[(2,sB salt),(3,.I n),(5,.pv (gC g)),(6,.pv (pC p)),(12,accV A f R),(14,.pv (gC V)),(15,ints D),(16,ints W),(17,ints Z),(18,.nilS)],[],1200⟩ rfl ?_ ?_
 .simp
  exact Le.go [] [] rfl rfl (by simp [fcd]) (by simp)
 refine zaa ⟨115,[(2,sB salt),(3,.I n),(5,.pv (gC g)),(6,.pv (pC p)),(12,accV A f R),(15,ints D),(16,ints W),(17,ints Z),(18,.nilS),(19,ints O)],[],1300⟩ rfl ?_ ?_
 .simp
  refine cn1 hord ?_;simp;exact Le.go [] [1224] rfl rfl (by simp [fcd,hOt]) (by simp)
 refine zab (zaa ⟨115,[(2,sB salt),(3,.I n),(5,.pv (gC g)),(6,.pv (pC p)),(12,accV A f R),(15,ints D),(16,ints W),(17,ints Z),(18,.nilS),(19,ints O),(70,ints O),(71,.I O.length),(72,.I (0 : Nat))],[],1400⟩ rfl ?_ ?_)
 .simp
  exact Le.go [] [] rfl rfl (by simp [fcd]) (by simp)
 refine zad ?_
 refine zaj (ι:=Nat) (λ i=>⟨115,[(2,sB salt),(3,.I n),(5,.pv (gC g)),(6,.pv (pC p)),(12,accV A f R),(15,ints D),(16,ints W),(17,ints Z),(18,.rs 40 0 i),(19,ints O),(70,ints O),(71,.I O.length),(72,.I i)],[(40,some ⟨6,zh9 ((O.take i).map ρ),0⟩)],1400⟩) (λ i=>i<=O.length) (λ i=>O.length - i) 0 (Qi _)
  (Le.lst [] [] [(40,6)] rfl (by simp) (by simp) (by simp) (by simp) (by simp) (by simp) (by simp) (by simp [Up,fcd]) (by simp)) ?_
 intro i hi;refine zaa ⟨115,[(2,sB salt),(3,.I n),(5,.pv (gC g)),(6,.pv (pC p)),(12,accV A f R),(15,ints D),(16,ints W),(17,ints Z),(18,.rs 40 0 i),(19,ints O),(70,ints O),(71,.I O.length),(72,.I i),(73,.B (decide (i<O.length)))],[(40,some ⟨6,zh9 ((O.take i).map ρ),0⟩)],1500⟩ rfl ?_ ?_
 .simp
  exact Le.go [(40,40)] [] rfl rfl (by simp [fcd]) (by simp [fcd])
 refine zab (zac _ rfl (λ h=>zae ?_) λ h=>zai (hit ?_))
 .rw [Qe] at h
  have hwi : IntKind.i64.wrap ((i : Int)+1)=((i+1 : Nat) : Int):=by rw [w6]; omega
  have hOs : (O.take (i+1)).map ρ=(O.take i).map ρ++[ρ O[i]]:=by rw [Qp h,Q4]; rfl
  obtain ⟨hx0,hxs⟩:=hor O[i] (Qj h);obtain ⟨x,hx⟩ : ∃ x : Nat,O[i]=(x : Int):=⟨O[i].toNat,by omega⟩
  rw [hx] at hOs hx0 hxs;have hOg : (O.map λ n=>[AV.I n])[i]? = some [AV.I x]:=by rw [Qs,Qa h,<- hx]; rfl
  obtain ⟨o,O',hOo⟩ : ∃ o O',O=o::O':=by
   cases hc : O with
   | nil=>rw [hc] at h; simp at h
   | cons a b=>exact ⟨a,b,rfl⟩
  have hO0 : (O.map λ n=>[AV.I n])[0]? = some [AV.I o]:=by rw [hOo]; rfl
  have hOh : O.headD 0=o:=by rw [hOo]; rfl
  have hrx:=hrow x;rw [hOh,UC] at hrx;have hDxl : x<D.length:=by rw [hD,zdt]; show x<g.size.toNat; omega
  have hWxl : x<W.length:=by omega
  have hDg:=hDx x hDxl;rw [<- hDg] at hrx;rw [Qd,Qa hWxl,Qz] at hrx;have hDr : (D.map λ n=>[AV.I n])[x]? = some [AV.I D[x]]:=by rw [Qs,Qa hDxl]; rfl
  have hWr : (W.map λ n=>[AV.I n])[x]? = some [AV.I W[x]]:=by rw [Qs,Qa hWxl]; rfl
  obtain ⟨d,hd⟩ : ∃ d,d=D[x]:=⟨_,rfl⟩;obtain ⟨w,hw⟩ : ∃ w,w=W[x]:=⟨_,rfl⟩;rw [<- hd] at hrx hDr;rw [<- hw] at hrx hWr;have hesx:=hesc x;obtain ⟨s,hs⟩ : ∃ s,s=escL g.edges salt x n Z:=⟨_,rfl⟩;rw [<- hs] at hesx hrx;have hacx:=hacc x;obtain ⟨b,hb⟩ : ∃ b,b=decide ((x : Int)∈A):=⟨_,rfl⟩;rw [<- hb] at hacx hrx;have hmx:=hmost o x;have hmo:=hself x;obtain ⟨m,hm⟩ : ∃ m,m=zc5 g p.lv o x:=⟨_,rfl⟩;rw [<- hm] at hmx hrx;have hTl : ((O.take i).map ρ).length=i:=by rw [Qt,QW]; omega
  rw [hrx] at hOs;obtain ⟨T,hT⟩ : ∃ T,T=(O.take i).map ρ:=⟨_,rfl⟩;rw [<- hT] at hTl hOs ⊢;have hTt : ∀ f : Rw->List AV,(T.map f).take i=T.map f:=λ f=>Qb (by simp [hTl])
  refine zap (ι:=Unit) (λ _=>⟨115,[(2,sB salt),(3,.I n),(5,.pv (gC g)),(6,.pv (pC p)),(12,accV A f R),(15,ints D),(16,ints W),(17,ints Z),(18,.rs 40 0 (i+1)),(19,ints O),(70,ints O),(71,.I O.length),(72,.I i)],[(40,some ⟨6,zh9 (T++[⟨x,d,m,s,w,b⟩]),0⟩)],3000⟩) (λ _=>True) ?_ λ _ _=>?_
  .refine zad (zaa ⟨115,[(2,sB salt),(3,.I n),(5,.pv (gC g)),(6,.pv (pC p)),(12,accV A f R),(15,ints D),(16,ints W),(17,ints Z),(18,.rs 40 0 i),(19,ints O),(21,.I x),(70,ints O),(71,.I O.length),(72,.I i)],[(40,some ⟨6,zh9 T,0⟩)],1600⟩ rfl ?_ ?_)
   .simp [h,hOg,hx]
    exact Le.go [(40,40)] [] rfl rfl (by simp [fcd]) (by simp [fcd])
   refine zas ⟨115,[(2,sB salt),(3,.I n),(5,.pv (gC g)),(6,.pv (pC p)),(12,accV A f R),(15,ints D),(16,ints W),(17,ints Z),(18,.rs 40 0 i),(19,ints O),(21,.I x),(22,.pt 50 0 0),(70,ints O),(71,.I O.length),(72,.I i)],[(40,some ⟨6,zh9 T,0⟩),(50,some ⟨6,[rwC ⟨x,d,0,s,w,b⟩],0⟩)],1900⟩ rfl ?_ ?_
   .simp [hDr,hWr,hDxl,hWxl]
    refine zau hesx (by simp [fcd]) ?_
    simp [hDr,hWr,hDxl,hWxl];refine zau hacx (by simp [fcd]) ?_
    simp [zeQ,zat];exact ⟨rfl,Le.go [(40,40),(1752,50)] [] rfl rfl (by simp [fcd]) (by simp [fcd,<- hd,<- hw])⟩
   refine zap (ι:=Unit) (λ _=>⟨115,[(2,sB salt),(3,.I n),(5,.pv (gC g)),(6,.pv (pC p)),(12,accV A f R),(15,ints D),(16,ints W),(17,ints Z),(18,.rs 40 0 i),(19,ints O),(22,.pt 50 0 0),(70,ints O),(71,.I O.length),(72,.I i)],[(40,some ⟨6,zh9 T,0⟩),(50,some ⟨6,[rwC ⟨x,d,m,s,w,b⟩],0⟩)],2200⟩) (λ _=>True) ?_ λ _ _=>?_
   .refine zaa ⟨115,[(2,sB salt),(3,.I n),(5,.pv (gC g)),(6,.pv (pC p)),(12,accV A f R),(15,ints D),(16,ints W),(17,ints Z),(18,.rs 40 0 i),(19,ints O),(21,.I x),(22,.pt 50 0 0),(70,ints O),(71,.I O.length),(72,.I i),(99,.B (decide ((x : Int)≠o)))],[(40,some ⟨6,zh9 T,0⟩),(50,some ⟨6,[rwC ⟨x,d,0,s,w,b⟩],0⟩)],2000⟩ rfl ?_ ?_
    .simp [hO0]
     exact Le.go [(40,40),(50,50)] [] rfl rfl (by simp [fcd] <;> exact wkB (by rw [QE]; simp)) (by simp [fcd])
    refine zac _ rfl (λ h5=>?_) λ h5=>?_
    .refine zaP rfl ?_
     simp [hO0];refine cl0 hmx ?_;simp [zat];exact ⟨rfl,Le.go [(40,40),(50,50)] [] rfl rfl (by simp [fcd]) (by simp [fcd])⟩
    .rw [Qc] at h5
     have hxo : (x : Int)=o:=Decidable.not_not.1 h5;have hm0 : m=0:=by rw [hm,<- hxo,hmo]
     rw [hm0];exact zae ⟨(),trivial,Le.go [(40,40),(50,50)] [] rfl rfl (by simp [fcd]) (by simp [fcd])⟩
   refine zan rfl ?_;simp [zdm,hTl];refine ⟨by omega,by omega,?_⟩
   exact Le.go [(2224,40)] [50] rfl rfl (by simp [fcd]) (by simp [fcd,hTl,hTt])
  refine zan rfl ?_;simp [hwi,-List.map_take,-List.map_map];refine ⟨i+1,by omega,by omega,?_⟩
  rw [hOs];exact Le.go [(40,40)] [] rfl rfl (by simp [fcd]) (by simp [fcd])
 rw [Qc] at h;obtain rfl : i=O.length:=by omega
 have hTk : O.take O.length=O:=Q1;rw [hTk];have hLt : ∀ f : Int->List AV,(O.map f).take O.length=O.map f:=hOt;refine zaa ⟨115,[(10,.rs 40 0 O.length),(11,.I 0)],[(40,some ⟨6,zh9 (O.map ρ),0⟩)],3200⟩ rfl ?_ ?_
 .simp
  exact LeI [(40,40)] []
 refine zah ?_;exact ⟨.inr rfl,zao.out [] [40] rfl (by simp) (by simp) (by simp [fcd,hLt] <;> exact wkE (by show AV.tup [AV.vs 6 false _,_]=AV.tup [AV.vs 6 false (List.map rwC (List.map ρ O)),_]; rw [List.map_map]; rfl)) (by simp)⟩
def gS : Gr:=⟨12,[⟨0,1,1⟩],[]⟩
def pS : Pol:=⟨[0],[5,4],1⟩
theorem zmI : GrOk gS:=GrOk.of (by decide) (by decide) (by decide) (λ i h=>by simp at h) (by decide) (by decide)
theorem zi5 : zaN 12 pS:=by
 refine ⟨by decide +revert,λ i h=>?_,by decide +revert,by decide +revert,by decide +revert,by decide +revert,λ i h=>?_⟩
 .obtain rfl : i=0:=by simp [pS] at h; omega
  exact ⟨by decide +revert,by decide +revert,λ h=>by cases h⟩
 .have : i=0∨i=1:=by simp [pS] at h; omega
  rcases this with rfl | rfl
  .exact ⟨by decide +revert,by decide +revert,λ h=>by cases h⟩
  .exact ⟨by decide +revert,by decide +revert,λ h=>by decide +revert⟩
theorem zdI {g : Gr} {p : Pol} (hg : GrOk g) (hp : zaN g.size p) {ks f : List Int} (hr : ∀ x∈ks,0<=x/\x<g.size) (hf : zaF (netN g) (netA g p ks) f) (hv : valF (netA g p ks) f=ks.length) : zar g p ks:=by
 have h1:=zf9 (p:=p) hg hp hr;have h2:=zsH (ziW hg hp hr) (f:=f) hf;rw [hv] at h2;unfold zar;omega
theorem ordS : ordL (zag gS pS.lv) pS.seeds=[0,1]:=by decide
theorem accS : accR gS pS [0,1]=[0,1]/\refR gS pS [0,1]=[]:=by
 have c0 : zar gS pS [0]:=zdI (f:=[1,0,0,1,0]) zmI zi5 (by decide) (znZ (by decide)) (by decide)
 have c1 : zar gS pS [0,1]:=zdI (f:=[2,1,0,1,1,1]) zmI zi5 (by decide) (znZ (by decide)) (by decide)
 have h0 : accR gS pS [0]=[0]:=zbk (o:=[]) (k:=0) c0;have r0 : refR gS pS [0]=[]:=zeD (o:=[]) (k:=0) c0;have h:=zbk (g:=gS) (p:=pS) (o:=[0]) (k:=1) (by rw [h0]; exact c1)
 have h':=zeD (g:=gS) (p:=pS) (o:=[0]) (k:=1) (by rw [h0]; exact c1)
 rw [h0] at h;rw [r0] at h';exact ⟨h,h'⟩
def hS : Gr:=⟨12,[⟨0,1,1⟩,⟨1,2,3⟩,⟨1,3,3⟩,⟨1,4,3⟩,⟨1,5,3⟩,⟨1,6,3⟩,⟨1,7,3⟩,⟨1,8,3⟩,⟨1,9,3⟩,⟨1,10,3⟩,⟨1,11,3⟩,⟨2,1,3⟩,⟨2,3,3⟩,⟨3,1,3⟩,⟨3,4,3⟩,⟨4,1,3⟩,⟨4,5,3⟩,⟨5,1,3⟩,⟨5,6,3⟩,⟨6,1,3⟩,⟨6,7,3⟩,⟨7,1,3⟩,⟨7,8,3⟩,⟨8,1,3⟩,⟨8,9,3⟩,⟨9,1,3⟩,⟨9,10,3⟩,⟨10,1,3⟩,⟨10,11,3⟩,⟨11,1,3⟩,⟨11,2,3⟩],[]⟩
def lS : List Int:=[2,3,4,5,6,7,8,9,10,11]
theorem zvW : zhr gS pS 1=lS:=by decide
theorem zol : GrOk hS:=GrOk.of (by decide) (by decide) (by decide) (λ i h=>by simp at h) (by decide +kernel) (by decide +kernel)
theorem fkS : ziv gS pS 1 lS:=by
 have h:=zfX (g:=gS) (p:=pS) (x:=1) 10;rw [zvW] at h;exact h
theorem zvy : zbI gS 1 lS=hS:=by
 have hr : GrOk (zbI gS 1 lS):=zpr zmI fkS (by decide) (by decide) (by decide)
 refine zxx hr zol rfl rfl λ e=>?_;rw [zeL];have hp : (gS.edges++tieL 1 lS).Perm hS.edges:=by decide +kernel
 rw [<- Qo,hp.mem_iff]
theorem chkS : chkE gS pS=0:=zh0.2 ⟨zmI,zi5⟩
theorem zuI : zbF gS pS 1 10=(hS,lS,0):=by
 unfold zbF;rw [if_neg (by rw [chkS]; decide),if_neg (by decide),if_neg (by decide),zvW,if_neg (by decide)]
 have h : List.take (10 : Int).toNat lS=lS:=by decide
 rw [h,if_neg (by decide),zvy]
theorem zsf : ∃ h : Gr,zbF gS pS 1 2=(h,[2,3],0)/\h.edges.length=7:=by
 refine ⟨zbI gS 1 [2,3],?_,by rw [zo8]; decide⟩
 unfold zbF;rw [if_neg (by rw [chkS]; decide),if_neg (by decide),if_neg (by decide),zvW,if_neg (by decide)]
 have h : List.take (2 : Int).toNat lS=[2,3]:=by decide
 rw [h,if_neg (by decide)]
theorem ordH : ordL (zag hS pS.lv) pS.seeds=[0,1]++lS:=by decide +kernel
theorem accH : accR hS pS ([0,1]++lS)=[0,1,2,3,4]:=by
 have c0 : zar hS pS [0]:=zdI (f:=[1,0,0,0,0,0,0,0,0,0,0,0,0,1,0,0,0,0,0,0,0,0,0,0,0,0,0,0,0,0,0,0,0,0,0,0,0,0,0,0,0,0,0,0,0]) zol zi5 (by decide) (znZ (by decide +kernel)) (by decide +kernel)
 have c1 : zar hS pS [0,1]:=zdI (f:=[2,1,0,0,0,0,0,0,0,0,0,0,0,1,1,1,0,0,0,0,0,0,0,0,0,0,0,0,0,0,0,0,0,0,0,0,0,0,0,0,0,0,0,0,0,0]) zol zi5 (by decide) (znZ (by decide +kernel)) (by decide +kernel)
 have c2 : zar hS pS [0,1,2]:=zdI (f:=[3,2,1,0,0,0,0,0,0,0,0,0,0,1,1,1,2,1,0,0,0,0,0,0,0,0,0,0,0,0,0,0,0,0,0,0,0,0,0,0,0,0,0,0,0,0,0]) zol zi5 (by decide) (znZ (by decide +kernel)) (by decide +kernel)
 have c3 : zar hS pS [0,1,2,3]:=zdI (f:=[4,3,2,0,0,0,0,0,0,0,0,0,0,1,1,1,1,3,1,1,0,0,0,0,0,0,0,0,0,0,0,0,0,0,0,0,0,0,0,0,0,0,0,0,0,0,0,0]) zol zi5 (by decide) (znZ (by decide +kernel)) (by decide +kernel)
 have c4 : zar hS pS [0,1,2,3,4]:=zdI (f:=[5,4,3,0,0,0,0,0,0,0,0,0,0,1,1,1,1,1,4,1,1,1,0,0,0,0,0,0,0,0,0,0,0,0,0,0,0,0,0,0,0,0,0,0,0,0,0,0,0]) zol zi5 (by decide) (znZ (by decide +kernel)) (by decide +kernel)
 have h0 : accR hS pS [0]=[0]:=zbk (o:=[]) (k:=0) c0
 have h1 : accR hS pS [0,1]=[0,1]:=by
  have h:=zbk (g:=hS) (p:=pS) (o:=[0]) (k:=1) (by rw [h0]; exact c1)
  rw [h0] at h;exact h
 have h2 : accR hS pS [0,1,2]=[0,1,2]:=by
  have h:=zbk (g:=hS) (p:=pS) (o:=[0,1]) (k:=2) (by rw [h1]; exact c2)
  rw [h1] at h;exact h
 have h3 : accR hS pS [0,1,2,3]=[0,1,2,3]:=by
  have h:=zbk (g:=hS) (p:=pS) (o:=[0,1,2]) (k:=3) (by rw [h2]; exact c3)
  rw [h2] at h;exact h
 have h4 : accR hS pS [0,1,2,3,4]=[0,1,2,3,4]:=by
  have h:=zbk (g:=hS) (p:=pS) (o:=[0,1,2,3]) (k:=4) (by rw [h3]; exact c4)
  rw [h3] at h;exact h
 obtain ⟨t,ht,hm⟩:=zk2 (g:=hS) (p:=pS) [5,6,7,8,9,10,11] [0,1,2,3,4];rw [h4] at ht;have hb:=zuq (g:=gS) (p:=pS) (x:=1) (l:=lS) zmI zi5 (by decide) ⟨by decide,by decide⟩ fkS (by rw [zvy]; exact zol)
 have hc : max 0 ((zaH gS pS).getD (1 : Int).toNat 0 - 1)=3:=by decide +kernel
 have e : [0,1]++lS=[0,1,2,3,4]++[5,6,7,8,9,10,11]:=rfl;unfold inN ordR at hb;rw [hc,zvy,ordH,e,ht,UJ,Qh] at hb;have h5 : ([0,1,2,3,4].filter λ k=>decide (k∈lS)).length=3:=by decide
 have h6 : t.filter (λ k=>decide (k∈lS))=t:=List.filter_eq_self.2 λ k hk=>by
  have:=hm k hk;have h7 : ∀ k∈([5,6,7,8,9,10,11] : List Int),decide (k∈lS)=true:=by decide
  exact h7 k this
 rw [h5,h6] at hb;have : t=[]:=QK (by omega)
 rw [e,ht,this,QX]
theorem zyx : ze6 gS pS 1 10=(3,0,0):=by
 unfold ze6 accG;rw [zuI];simp only;rw [if_neg (by decide),ordS,ordH,accS.1,accH]
 decide +kernel
theorem zaU.wk {P : Program} {f : FuncId} {args args' : List AV} {hs : List Ent} {res : AV} {hs' : List (Option Ent)} (h : zaU P f args' hs res hs') (hw : WkL args args') : zaU P f args hs res hs':=by
 refine ⟨h.1,h.2.1,λ T M w vs h1 h2 h3 hr=>h.2.2 T M w vs h1 h2 h3 ⟨hr.1.trans hw.length,λ i hi=>?_⟩⟩;have hi' : i<args.length:=by rw [hw.length]; exact hi
 exact (hw.get i hi').rep (hr.2 i hi')
abbrev gSv : AV:=.agg [.I 12,.vs 3 false [[.I 0,.I 1,.I 1]],.nilS]
abbrev pSv : AV:=.agg [.vs 1 false [[.I 0]],.vs 1 false [[.I 5],[.I 4]],.I 1]
theorem zyQ : zc5 gS 1 0 1=1:=by
 have h1 : 1<=zc5 gS 1 0 1:=zj6 zmI (by decide) ⟨by decide,by decide⟩ ⟨by decide,by decide⟩ (by decide)
 have h2:=zsD (zbR (zhM (lv:=1) (a:=0) (b:=1) zmI)) (S:=λ x=>decide (x=0)) (by decide) (by decide)
 have h3 : zc5 gS 1 0 1=maxF (2+2*gS.size.toNat) (netP gS 1 0 1):=if_pos (by decide)
 have h4 : capS (λ x=>decide (x=0)) (netP gS 1 0 1)=1:=by decide
 simp only at h2;omega
theorem tabS (salt : ByteArray) : ∃ s w s' w',tabG gS pS salt 3 1=[⟨0,0,0,s,w,true⟩,⟨1,1,1,s',w',true⟩]:=by
 have ho : orG gS pS=[0,1]:=ordS;have ha : acG gS pS=[0,1]:=by unfold acG; rw [ho]; exact accS.1
 have h0 : dist (zag gS pS.lv) pS.seeds 0=0:=by decide
 have h1 : dist (zag gS pS.lv) pS.seeds 1=1:=by decide
 have h2 : zc5 gS pS.lv (List.headD [0,1] 0) 0=0:=zl4;have h3 : zc5 gS pS.lv (List.headD [0,1] 0) 1=1:=zyQ;have e : tabG gS pS salt 3 1=[zhj gS pS salt 3 1 0,zhj gS pS salt 3 1 1]:=by unfold tabG; rw [ho]; rfl
 have r0 : zhj gS pS salt 3 1 0=⟨0,0,0,escL gS.edges salt 0 3 (othG gS pS),(wtsG gS pS 1).getD (0 : Int).toNat 0,true⟩:=by
  unfold zhj;rw [ho,ha,h0,h2];rfl
 have r1 : zhj gS pS salt 3 1 1=⟨1,1,1,escL gS.edges salt 1 3 (othG gS pS),(wtsG gS pS 1).getD (1 : Int).toNat 0,true⟩:=by
  unfold zhj;rw [ho,ha,h1,h3];rfl
 exact ⟨_,_,_,_,by rw [e,r0,r1]⟩
theorem zv4 : AcP 32 [] [] (.tup [gSv,pSv]) []:=by
 refine znL.s.ac ?_;show awp _ 0 _ _ ⟨8,[],[],16⟩;refine rs [0,1] [16,24] [] ?_;refine zaa ⟨8,[(0,.pt 16 0 0),(1,.pt 24 0 0)],[(16,some ⟨3,[[.I 12,.vs 3 false [[.I 0,.I 1,.I 1]],.nilS]],0⟩),(24,some ⟨3,[[.vs 1 false [[.I 0]],.vs 1 false [[.I 5],[.I 4]],.I 1]],0⟩)],300⟩ rfl ?_ ?_
 .simp
  exact Le.go [(16,16),(24,24)] [40,56,64] rfl rfl (by simp) (by simp [zat])
 exact zah ⟨.inr rfl,zao.out [] [16,24] rfl (by simp) (by simp) (.refl _) (by simp)⟩
theorem zjS : AcP 9 [] [] (.B true) []:=by
 have hwk : ∀ l : List AV,WkL (gSv::pSv::l) (eG gS::eP pS::l):=λ l=>⟨wkA3 (.refl _) (.refl _) (.nil _ _),.refl _,zbu _⟩;have hharm:=(zhT gS pS 1 10 (by decide) (by decide) (by decide) (by decide) (λ _=>by decide)).wk (hwk _)
 rw [zyx] at hharm;have hring:=(zeh gS pS 1 2 (by decide) (by decide) (by decide) (by decide)).wk (hwk _)
 obtain ⟨h,hr,h7⟩:=zsf;rw [hr] at hring;have htab:=(zlJ gS pS ⟨#[115]⟩ 3 1 zmI zi5 (by decide) (by decide) (by decide) (by decide) (by decide) (by decide)).wk (hwk _)
 obtain ⟨s,w,s',w',ht⟩:=tabS ⟨#[115]⟩;rw [ht] at htab;refine zmU.s.ac ?_;show awp _ 0 _ _ ⟨102,[],[],16⟩;refine rs [] [] [] ?_;refine zaa ⟨102,[(1,.pv [.I 12,.vs 3 false [[.I 0,.I 1,.I 1]],.nilS]),(2,.pv [.vs 1 false [[.I 0]],.vs 1 false [[.I 5],[.I 4]],.I 1])],[],200⟩ rfl ?_ ?_
 .simp
  refine cl0 zv4 ?_;simp [zat];exact LeH [] [56,64]
 refine zaa ⟨102,[(1,.pv [.I 12,.vs 3 false [[.I 0,.I 1,.I 1]],.nilS]),(2,.pv [.vs 1 false [[.I 0]],.vs 1 false [[.I 5],[.I 4]],.I 1]),(3,.I 3),(4,.I 0),(5,.I 0)],[],300⟩ rfl ?_ ?_
 .simp
  refine cl0 hharm ?_;simp;exact LeH [] []
 refine zaa ⟨102,[(1,.pv [.I 12,.vs 3 false [[.I 0,.I 1,.I 1]],.nilS]),(2,.pv [.vs 1 false [[.I 0]],.vs 1 false [[.I 5],[.I 4]],.I 1]),(3,.I 3),(4,.I 0),(5,.I 0),(6,.pv (gC h)),(7,.vs 1 false [[.I 2],[.I 3]]),(8,.I 0)],[],400⟩ rfl ?_ ?_
 .simp
  refine cl0 hring ?_;simp [zat];exact LeH [] [356]
 refine zaa ⟨102,[(3,.I 3),(4,.I 0),(5,.I 0),(6,.pv (gC h)),(7,.vs 1 false [[.I 2],[.I 3]]),(8,.I 0),(9,.vs 6 false [[.I 0,.I 0,.I 0,.I s,.I w,.B true],[.I 1,.I 1,.I 1,.I s',.I w',.B true]]),(10,.I 0)],[],500⟩ rfl ?_ ?_
 .simp
  refine cl0 htab ?_;simp;exact LeH [] []
 refine zaa ⟨102,[(0,.B true)],[],2000⟩ rfl ?_ ?_
 .simp [h7]
  exact LeH [] []
 exact zaI
theorem zeP (L : List Int) : AcP 6 [ints L] [] (.B true) []:=by
 refine zfz.s.ac ?_;show awp _ 0 _ _ ⟨151,[(0,ints L)],[],16⟩;have hlight:=zt2 L;refine rs [0] [] [] ?_;refine zab (zaa ⟨151,[(0,ints L),(16,.B (!decide (L.length<=400)))],[],100⟩ rfl ?_ ?_)
 .simp
  refine cl0 hlight ?_;simp;exact Le.go [] [] rfl rfl (by simp <;> exact wkB (by rw [QE]; simp)) (by simp)
 refine zac _ rfl (λ h3=>?_) λ h3=>?_
 .refine rx (s:=?s4) [2] [] [] rfl ?o4 ?q4
  case o4=>simp; refine zau zjS (by simp) ?_; simp; rfl
  exact zaI
 have h3 : L.length<=400:=by simpa using h3
 obtain ⟨g,b1,⟨hg,hg2,hg9,hb1⟩,hcg⟩:=zxE L h3;obtain ⟨⟨p,b2⟩,⟨hp1,hp2,hp3,hb2⟩,hcp⟩:=zuh L b1 g h3 hb1 (by omega) (by omega)
 simp only at hp1 hp2 hp3 hb2 hcp;have hel:=hg.edges_le;have hgl:=hg.gone_le;refine zae (zaa ⟨151,[(3,.pt 20 0 0)],[(20,some (dice L 0))],200⟩ rfl ?_ ?_)
 .simp
  refine cn1 (zvp L) ?_;simp;exact LeH [(108,20)] []
 refine zaa ⟨151,[(3,.pt 20 0 0),(4,.pv (gC g))],[(20,some (dice L b1))],300⟩ rfl ?_ ?_
 .simp
  refine zaS (i:=20) rfl (e':=dice L 0) (by simp) hcg (by simp) (by simp) ?_
  simp;exact LeH [(20,20)] [216]
 refine zaa ⟨151,[(3,.pt 20 0 0),(4,.pv (gC g)),(5,.pv (pC p))],[(20,some (dice L b2))],400⟩ rfl ?_ ?_
 .simp
  refine zaS (i:=20) rfl (e':=dice L b1) (by simp) hcp (by simp) (by simp) ?_
  simp;exact LeH [(20,20)] [324]
 have hlv3 : p.lv<=3:=hp1.2.2.2.2.2.1;have hs64:=zov hg hp1;obtain ⟨salt,hsalt⟩ : ∃ s : ByteArray,s=⟨#[115,97,108,116]⟩:=⟨_,rfl⟩;have hssz : salt.size<=100000:=by rw [hsalt]; decide
 have htab:=zlJ g p salt 3 1 hg hp1 (by omega) hssz (by decide) (by decide) (by decide) (by decide)
 have hlev:=zct g p.lv (by omega) (by omega)
 have hall:=zdc (zag g p.lv) p.seeds (hg.level p.lv) (by omega)
 have hord:=zeX (g:=zag g p.lv) (S:=p.seeds) (hg.level p.lv) (by omega)
 obtain ⟨⟨R,f⟩,_,hrun⟩:=zyc g p hg hp1 hs64;have hDl : (zaW (zag g p.lv) p.seeds).length=g.size.toNat:=zdt
 have hDx : ∀ (x : Nat) (h : x<(zaW (zag g p.lv) p.seeds).length),(zaW (zag g p.lv) p.seeds)[x]=dist (zag g p.lv) p.seeds x:=λ x h=>by
  have:=ziF (g:=zag g p.lv) (S:=p.seeds) (k:=x) (show x<g.size.toNat by omega)
  rw [<- this,List.getD,Qa h];rfl
 rw [show (zag g p.lv).size.toNat=(zaW (zag g p.lv) p.seeds).length from hDl.symm] at hall
 have hor : ∀ k∈orG g p,0<=k/\k<g.size:=λ k hk=>zbD (g:=zag g p.lv) hk;have hol : (orG g p).length<=64:=zn7 hg p
 have hacl : (acG g p).length<=64:=by
  have : (acG g p).Sublist (orG g p):=zcG _ _ rfl;exact QH this.length_le hol
 change zaU _ _ _ _ (.tup [eAcc (acG g p) f R,.I 0]) [] at hrun;change zaU _ _ _ _ (.rs 0 0 (orG g p).length) [some ⟨1,zaf (orG g p),0⟩] at hord;have hone:=λ x hx=>zuG (x:=x) hg hp1 hx
 have hrow : ∀ i (h : i<(orG g p).length),(tabG g p salt 3 1)[i]? = some (zhj g p salt 3 1 (orG g p)[i]):=λ i h=>by
  unfold tabG;rw [Qs,Qa h];rfl
 have hTl : (tabG g p salt 3 1).length=(orG g p).length:=by simp [tabG]
 have hwn:=zns g p 1;have hwl:=zow g p 1;have hhas:=λ x=>zmf (acG g p) x (by omega)
 have hrw : ∀ x,zhj g p salt 3 1 x=⟨x,dist (zag g p.lv) p.seeds x,zc5 g p.lv ((orG g p).headD 0) x,escL g.edges salt x 3 (othG g p),(wtsG g p 1).getD x.toNat 0,decide (x∈acG g p)⟩:=λ _=>rfl;have hm0 : ∀ x,0<=zc5 g p.lv ((orG g p).headD 0) x:=λ x=>znu hg;have he0 : ∀ x,0<=escL g.edges salt x 3 (othG g p):=λ x=>zok _ _ _ _ _;obtain ⟨V,hV⟩ : ∃ V,V=zag g p.lv:=⟨_,rfl⟩;rw [<- hV] at hlev hall hord;simp only [<- hV] at hDx hrw hone hDl;obtain ⟨D,hD⟩ : ∃ D,D=zaW V p.seeds:=⟨_,rfl⟩;rw [<- hD] at hall hDl;simp only [<- hD] at hDx;obtain ⟨O,hO⟩ : ∃ O,O=orG g p:=⟨_,rfl⟩;simp only [<- hO] at hor hol hord hrow hTl hone hrw hm0;obtain ⟨A,hA⟩ : ∃ A,A=acG g p:=⟨_,rfl⟩;simp only [<- hA] at hrun hacl hhas hrw;obtain ⟨T,hT⟩ : ∃ T,T=tabG g p salt 3 1:=⟨_,rfl⟩;simp only [<- hT] at htab hrow hTl;have hOt : ∀ f : Int->List AV,(O.map f).take O.length=O.map f:=λ f=>Qb (by simp)
 have hDt : ∀ f : Int->List AV,(D.map f).take D.length=D.map f:=λ f=>Qb (by simp)
 refine zaa ⟨151,[(4,.pv (gC g)),(5,.pv (pC p)),(6,rwsV T),(7,.I 0)],[],500⟩ rfl ?_ ?_
 .simp
  refine zau htab (by simp [hsalt]) ?_
  simp;exact Le.go [] [] rfl rfl (by simp [fcd]) (by simp)
 refine zaa ⟨151,[(4,.pv (gC g)),(5,.pv (pC p)),(6,rwsV T),(7,.I 0),(8,.pv (gC V))],[],600⟩ rfl ?_ ?_
 .simp
  refine cl0 hlev ?_;simp [zat];exact Le.go [] [532] rfl rfl (by simp [fcd]) (by simp)
 refine zas ⟨151,[(4,.pv (gC g)),(5,.pv (pC p)),(6,rwsV T),(7,.I 0),(9,ints O),(10,ints D)],[],700⟩ rfl ?_ ?_
 .simp
  refine cn1 hord ?_;simp;refine cn1 hall ?_;simp;exact ⟨rfl,Le.go [] [624,656] rfl rfl (by simp [fcd,hOt,hDt]) (by simp)⟩
 refine zaa ⟨151,[(5,.pv (pC p)),(6,rwsV T),(9,ints O),(10,ints D),(11,accV A f R),(7,.I 0)],[],800⟩ rfl ?_ ?_
 .simp
  refine cl0 hrun ?_;simp [zat];exact Le.go [] [748] rfl rfl (by simp [fcd]) (by simp)
 refine zab (zaa ⟨151,[(5,.pv (pC p)),(6,rwsV T),(9,ints O),(10,ints D),(11,accV A f R),(57,.B false)],[],900⟩ rfl ?_ ?_)
 .simp [hTl]
  exact Le.go [] [] rfl rfl (by simp [fcd]) (by simp)
 refine zac _ rfl (λ h=>by cases h) λ _=>?_
 refine zae (zab (zaa ⟨151,[(5,.pv (pC p)),(6,rwsV T),(9,ints O),(10,ints D),(11,accV A f R),(13,.I (0 : Nat))],[],1000⟩ rfl ?_ ?_))
 .simp
  exact Le.go [] [] rfl rfl (by simp [fcd]) (by simp)
 refine zad ?_
 refine zaj (ι:=Nat) (λ i=>⟨151,[(5,.pv (pC p)),(6,rwsV T),(9,ints O),(10,ints D),(11,accV A f R),(13,.I i)],[],1000⟩) (λ i=>i<=O.length) (λ i=>O.length - i) 0 (Qi _)
  (Le.go [] [] rfl rfl (by simp [fcd]) (by simp)) ?_
 intro i hi;refine zab (zaa ⟨151,[(5,.pv (pC p)),(6,rwsV T),(9,ints O),(10,ints D),(11,accV A f R),(13,.I i),(61,.B (decide (i<O.length)))],[],1100⟩ rfl ?_ ?_)
 .simp [hTl]
  exact Le.go [] [] rfl rfl (by simp [fcd]) (by simp)
 refine zac _ rfl (λ h=>zae ?_) λ h=>zai (hit ?_)
 .rw [Qe] at h
  have hwi : IntKind.i64.wrap ((i : Int)+1)=((i+1 : Nat) : Int):=by rw [w6]; omega
  obtain ⟨hx0,hxs⟩:=hor O[i] (Qj h);have hxm : O[i]∈O:=Qj h;obtain ⟨x,hx⟩ : ∃ x : Nat,O[i]=(x : Int):=⟨O[i].toNat,by omega⟩
  rw [hx] at hx0 hxs hxm;have hOg : (O.map λ n=>[AV.I n])[i]? = some [AV.I x]:=by rw [Qs,Qa h,<- hx]; rfl
  have hrx:=hrow i h;rw [hx,hrw x,UC] at hrx;have hox:=hone x hxm;have hDxl : x<D.length:=by omega
  have hWxl : x<(wtsG g p 1).length:=by omega
  have hDg:=hDx x hDxl;rw [<- hDg] at hrx hox;rw [Qd,Qa hWxl,Qz] at hrx;have hw0:=hwn _ (Qj hWxl);have hmx:=hm0 x;have hex:=he0 x;have hDr : (D.map λ n=>[AV.I n])[x]? = some [AV.I D[x]]:=by rw [Qs,Qa hDxl]; rfl
  obtain ⟨d,hd⟩ : ∃ d,d=D[x]:=⟨_,rfl⟩;obtain ⟨w,hw⟩ : ∃ w,w=(wtsG g p 1)[x]:=⟨_,rfl⟩;obtain ⟨s,hs⟩ : ∃ s,s=escL g.edges salt x 3 (othG g p):=⟨_,rfl⟩;obtain ⟨m,hm⟩ : ∃ m,m=zc5 g p.lv (O.headD 0) x:=⟨_,rfl⟩;have hhx:=hhas x;rw [show A.contains (x : Int)=decide ((x : Int)∈A) by rw [QE]; simp] at hhx
  obtain ⟨b,hb⟩ : ∃ b,b=decide ((x : Int)∈A):=⟨_,rfl⟩;rw [<- hb] at hrx hhx;rw [<- hd] at hrx hDr hox;rw [<- hw] at hrx hw0;rw [<- hs] at hrx hex;rw [<- hm] at hrx hmx hox;have hTg : (zh9 T)[i]? = some [.I x,.I d,.I m,.I s,.I w,.B b]:=by rw [zh9,Qs,hrx]; rfl
  have n1 : ¬ w<0:=by omega
  have n2 : ¬ s<0:=by omega
  have n3 : ¬ m<0:=by omega
  refine zap (ι:=Unit) (λ _=>⟨151,[(5,.pv (pC p)),(6,rwsV T),(9,ints O),(10,ints D),(11,accV A f R),(13,.I i)],[],3000⟩) (λ _=>True) ?_ λ _ _=>?_
  .refine zad (zas ⟨151,[(5,.pv (pC p)),(6,rwsV T),(9,ints O),(10,ints D),(11,accV A f R),(13,.I i),(149,.B false)],[],2900⟩ rfl ?_ ?_)
   .by_cases hd0 : 0<d
    .by_cases hs1 : p.seeds.length=1
     .have n4 : ¬ m<1:=by have:=hox hs1 hd0; omega
      simp [h,hrx,hx,hDxl,<- hd];refine zau hhx (by simp [fcd]) ?_
      simp [h,hrx,hx,hDxl,<- hd,n1,n2,n3,n4,hd0,hs1];exact ⟨rfl,Le.go [] [] rfl rfl (by simp [fcd]) (by simp)⟩
     .have hs2 : ((p.seeds.length : Int) == 1)=false:=by rw [beq_eq_false_iff_ne]; omega
      simp [h,hrx,hx,hDxl,<- hd];refine zau hhx (by simp [fcd]) ?_
      simp [h,hrx,hx,hDxl,<- hd,n1,n2,n3,hd0,hs1,hs2];exact ⟨rfl,Le.go [] [] rfl rfl (by simp [fcd]) (by simp)⟩
    .simp [h,hrx,hx,hDxl,<- hd]
     refine zau hhx (by simp [fcd]) ?_
     simp [h,hrx,hx,hDxl,<- hd,n1,n2,n3,hd0];exact ⟨rfl,Le.go [] [] rfl rfl (by simp [fcd]) (by simp)⟩
   refine zac _ rfl (λ h=>by cases h) λ _=>?_
   exact zae ⟨(),trivial,Le.go [] [] rfl rfl (by simp [fcd]) (by simp)⟩
  refine zan rfl ?_;simp [hwi];exact ⟨i+1,by omega,by omega,Le.go [] [] rfl rfl (by simp [fcd]) (by simp)⟩
 refine rx (s:=?s21) [2] [] [] rfl ?o21 ?q21
 case o21=>simp; refine zau zjS (by simp) ?_; simp; rfl
 exact zaI
end Go.Proofs.YtkngdgplbojdlaaGreat
