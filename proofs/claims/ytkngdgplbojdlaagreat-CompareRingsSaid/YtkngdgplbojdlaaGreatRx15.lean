/- Texts of this claim,merged. -/
import Derived.Test.YtkngdgplbojdlaaGreatRx14
import Derived.Test.YtkngdgplbojdlaaGreatRx13
import Derived.Test.YtkngdgplbojdlaaGreatRx10
import Derived.Test.YtkngdgplbojdlaaGreatRx12
set_option linter.unusedSimpArgs false
set_option linter.unusedVariables false
set_option linter.unusedSectionVars false
namespace Go.Proofs.YtkngdgplbojdlaaGreat
open Go
def surG (A : List Ed) (f : List Int) (i : Nat) (x : Int) : Int:=- netG A f i x
variable {N : Nat} {A : List Ed} {f : List Int}
theorem zwK (hl : f.length=A.length) (x : Int) : surG A f A.length x=exF A f x:=by
 unfold surG;rw [ztf hl];omega
set_option maxRecDepth 100000 in
set_option maxHeartbeats 4000000 in
theorem zn3 (hn : zbX ⟨N,A⟩) (hfl : f.length=A.length) (hfb : ∀ j (h : j<f.length),0<=f[j]/\f[j]<=1048576) : zaj Tryz.prog zen [eN ⟨N,A⟩,ints f] [] (.rs 0 0 N) [some ⟨1,zag (rowR N (exF A f)),0⟩]:=by
 refine zjK.ac ?_;show awp _ 0 _ _ ⟨43,[(0,eN ⟨N,A⟩),(1,ints f)],[],16⟩;obtain ⟨hn0,hn1,hal,hav⟩:=hn;simp only at hn0 hn1 hal hav;have hbd:=zkW hfl hfb;refine rs [1,2] [] [16] ?_;refine zaa ⟨43,[(1,ints f),(2,.pv (nC ⟨N,A⟩)),(5,.rs 48 0 N)],[(48,some ⟨1,zag (rowR N (surG A f 0)),0⟩)],64⟩ rfl ?_ ?_
 .simp
  refine ⟨by omega,by omega,?_⟩
  have : rowR N (surG A f 0)=List.replicate N 0:=by
   unfold rowR surG;simp only [zmX];simp [List.map_const']
  rw [this];exact LeH [(48,48)] []
 refine zab ?_;refine zaa ⟨43,[(1,ints f),(5,.rs 48 0 N),(12,eEs A),(13,.I A.length),(14,.I 0)],[(48,some ⟨1,zag (rowR N (surG A f 0)),0⟩)],96⟩ rfl ?_ ?_
 .simp
  exact LeI [(48,48)] []
 refine zaf ?_;refine zas (ι:=Nat) (λ i=>⟨43,[(1,ints f),(5,.rs 48 0 N),(12,eEs A),(13,.I A.length),(14,.I i)],[(48,some ⟨1,zag (rowR N (surG A f i)),0⟩)],96⟩) (λ i=>i<=A.length) (λ i=>A.length - i) 0 (Nat.zero_le _) (LeI [(48,48)] []) ?_;intro i hi;refine zaa ⟨43,[(1,ints f),(5,.rs 48 0 N),(12,eEs A),(13,.I A.length),(14,.I i),(15,.B (decide (i<A.length)))],[(48,some ⟨1,zag (rowR N (surG A f i)),0⟩)],104⟩ rfl ?_ ?_
 .simp
  exact LeI [(48,48)] []
 refine zab ?_;refine zad _ rfl (λ h5=>?_) λ h5=>?_
 .simp at h5
  have h8 : i<f.length:=by omega
  have hw1 : IntKind.i64.wrap ((i : Int)+1)=(i : Int)+1:=w6;obtain ⟨b1,b3⟩:=hfb i h8;have heo:=hav _ (List.getElem_mem h5);have hsucc:=zmV h5 h8;have hbe:=λ x=>hbd x i (by omega)
  obtain ⟨e,he⟩ : ∃ e,e=A[i]:=⟨_,rfl⟩;obtain ⟨w,hw⟩ : ∃ w,w=f[i]:=⟨_,rfl⟩;rw [<- he,<- hw] at hsucc;rw [<- hw] at b1 b3;rw [<- he] at heo;obtain ⟨e1,e2,e3,e4,e5,_⟩:=heo;have hg1 : A[i]? = some e:=by rw [List.getElem?_eq_getElem h5,he]
  have hg2 : f[i]? = some w:=by rw [List.getElem?_eq_getElem h8,hw]
  have h2N : e.f<(N : Int)/\e.t<(N : Int):=by omega
  have h1:=hbe e.f;have h2:=hbe e.t;have hwx : IntKind.i64.wrap (surG A f i e.f+w)=surG A f i e.f+w:=w64 (by unfold surG; omega) (by unfold surG; omega)
  have hwy : IntKind.i64.wrap (surG A f i e.t - w)=surG A f i e.t - w:=w64 (by unfold surG; omega) (by unfold surG; omega)
  have hr1:=zgq (N:=N) (g:=surG A f i) (x:=e.f) e1 (by omega)
  have hs1:=zlX (N:=N) (g:=surG A f i) (x:=e.f) (v:=surG A f i e.f+w) e1 (by omega)
  obtain ⟨g1,hg1d⟩ : ∃ g1 : Int->Int,g1=λ y=>if y=e.f then surG A f i e.f+w else surG A f i y:=⟨_,rfl⟩
  rw [<- hg1d] at hs1;have hg1t : g1 e.t=surG A f i e.t:=by rw [hg1d]; exact if_neg λ h=>e5 h.symm
  have hr2:=zgq (N:=N) (g:=g1) (x:=e.t) e3 (by omega)
  rw [hg1t] at hr2;have hs2:=zlX (N:=N) (g:=g1) (x:=e.t) (v:=surG A f i e.t - w) e3 (by omega)
  have hend : (rowR N λ y=>if y=e.t then surG A f i e.t - w else g1 y)=rowR N (surG A f (i+1)):=zkQ λ x=>by
   unfold surG at hg1d ⊢;rw [hsucc,hg1d];simp only
   by_cases h3 : x=e.t
   .rw [h3,if_pos rfl,if_pos rfl,if_neg e5]
    omega
   .by_cases h4 : x=e.f
    .rw [if_neg h3,if_pos h4,if_neg λ h=>h3 h.symm,if_pos h4.symm,h4]
     omega
    .rw [if_neg h3,if_neg h4,if_neg λ h=>h3 h.symm,if_neg λ h=>h4 h.symm]
     omega
  rw [hend] at hs2;refine zae ?_;refine zab ?_;refine zaf ?_;refine zaa ⟨43,[(1,ints f),(5,.rs 48 0 N),(6,.I i),(7,.pv (eC e)),(12,eEs A),(13,.I A.length),(14,.I i)],[(48,some ⟨1,zag (rowR N (surG A f i)),0⟩)],152⟩ rfl ?_ ?_
  .simp [h5,<- he]
   exact LeI [(48,48)] [128]
  refine zaC ⟨43,[(1,ints f),(5,.rs 48 0 N),(6,.I i),(7,.pv (eC e)),(12,eEs A),(13,.I A.length),(14,.I i)],[(48,some ⟨1,zag (rowR N g1),0⟩)],400⟩ rfl ?_ ?_
  .simp [hg2,h8,<- hw,hr1,e1,h2N,hwx,zat]
   exact ⟨rfl,Le.go [(48,48)] [] rfl rfl (by simp) (by simp [fcd,<- hs1])⟩
  refine zcP rfl ?_;simp [hg2,h8,<- hw,hr2,e3,h2N,hwy,zat];refine ⟨rfl,?_⟩;refine zav rfl ?_;simp;exact ⟨i+1,by omega,by omega,Le.go [(48,48)] [] rfl rfl (by simp [hw1]) (by simp [fcd,<- hs2])⟩
 simp at h5;obtain rfl : i=A.length:=by omega
 refine zaq ?_;refine hit ?_;have hfin : rowR N (surG A f A.length)=rowR N (exF A f):=zkQ λ x=>zwK hfl x;rw [hfin];refine zaa ⟨43,[(4,.rs 48 0 N)],[(48,some ⟨1,zag (rowR N (exF A f)),0⟩)],200⟩ rfl ?_ ?_
 .simp
  exact LeI [(48,48)] []
 refine zai ?_;exact ⟨.inr rfl,zao.out [48] [] rfl (by simp) (by simp) (by simp) (by simp [fcd])⟩
def zvA (A : List Ed) (f : List Int) (i : Nat) : Prop:=0<=f.getD i 0/\f.getD i 0<=(arcD A i).v
theorem ziT : zaJ N A f↔f.length=A.length/\(∀ i,i<A.length->zvA A f i) /\ ∀ x : Nat,2<=x->x<N->exF A f x=0:=by
 constructor
 .intro h
  have h1:=zeB.1 h.fit;exact ⟨h1.1,h1.2,λ x h2 h3=>by have:=h.bal x h2 h3; unfold exF; omega⟩
 .rintro ⟨h1,h2,h3⟩
  exact ⟨zeB.2 ⟨h1,h2⟩,λ x h4 h5=>by have:=h3 x h4 h5; unfold exF at this; omega⟩
theorem zxT (g : Int->Int) (N : Nat) : ((rowR N g).drop 2).any (λ x=>!decide (x=0))=true↔¬ ∀ x : Nat,2<=x->x<N->g x=0:=by
 rw [List.any_eq_true];constructor
 .rintro ⟨y,hy,h⟩ hall
  obtain ⟨j,hj,rfl⟩:=List.mem_iff_getElem.1 hy;rw [List.length_drop,zhi] at hj;have:=hall (2+j) (by omega) (by omega)
  simp [rowR] at h;exact h (by simpa using this)
 .intro h
  obtain ⟨x,hx⟩:=Classical.not_forall.1 h;obtain ⟨h1,hx⟩:=Classical.not_imp.1 hx;obtain ⟨h2,hx⟩:=Classical.not_imp.1 hx;refine ⟨g x,List.mem_iff_getElem.2 ⟨x - 2,by rw [List.length_drop,zhi]; omega,?_⟩,by simpa using hx⟩
  simp [rowR,show 2+(x - 2)=x by omega]
theorem zlA (x : Int) : zaj Tryz.prog zdF [.I x] [] (.B (!decide (x=0))) []:=by
 refine zja.ac ?_;show awp _ 0 _ _ ⟨5,[(0,.I x)],[],16⟩;refine rs [0] [] [] ?_;refine zaa ⟨5,[(2,.B (!decide (x=0)))],[],100⟩ rfl ?_ ?_
 .simp
  exact Le.go [] [] rfl rfl (by simp <;> exact wkB (by rw [Bool.eq_iff_iff]; simp)) (by simp)
 refine zai ?_;exact ⟨.inr rfl,zao.one (by simp)⟩
set_option maxRecDepth 100000 in
set_option maxHeartbeats 4000000 in
open Classical in
theorem zoJ (hn : zbX ⟨N,A⟩) (hl : f.length<=1099511627776) : zaj Tryz.prog zhC [eN ⟨N,A⟩,ints f] [] (.B (decide (zaJ N A f))) []:=by
 refine zmA.ac ?_;show awp _ 0 _ _ ⟨41,[(0,eN ⟨N,A⟩),(1,ints f)],[],16⟩;have hchk:=zkg ⟨N,A⟩ (by have:=hn.2.2.1; simp only at this ⊢; omega)
 rw [if_pos hn] at hchk;have hn':=hn;obtain ⟨hn0,hn1,hal,hav⟩:=hn;simp only at hn0 hn1 hal hav;refine rs [1,2] [] [16] ?_;refine zab ?_;refine zaa ⟨41,[(1,ints f),(2,.pv (nC ⟨N,A⟩)),(17,.B (!decide (f.length=A.length)))],[],120⟩ rfl ?_ ?_
 .simp
  refine zap hchk (by simp) ?_
  simp;exact Le.go [] [] rfl rfl (by simp <;> exact wkB (by rw [Bool.eq_iff_iff]; simp <;> omega)) (by simp)
 refine zad _ rfl (λ h3=>?_) λ h3=>?_
 .simp at h3
  refine rs [4] [] [] ?_;refine zai ?_;have hno : ¬ zaJ N A f:=λ h=>h3 (ziT.1 h).1;exact ⟨.inr rfl,zao.one (by simp [hno])⟩
 simp at h3;refine zae ?_;refine zab ?_;refine rs [1,2,19,20,21] [] [] ?_;refine zaf ?_;refine zas (ι:=Nat) (λ i=>⟨41,[(1,ints f),(2,.pv (nC ⟨N,A⟩)),(19,eEs A),(20,.I A.length),(21,.I i)],[],152⟩) (λ i=>i<=A.length /\ ∀ k,k<i->zvA A f k) (λ i=>A.length - i) 0 (by simp) (LeH [] []) ?_
 rintro i ⟨hi,hp⟩
 refine rs [1,2,19,20,21,22] [] [] ?_;refine zab ?_;refine zad _ rfl (λ h7=>?_) λ h7=>?_
 .simp at h7
  have hw1 : IntKind.i64.wrap ((i : Int)+1)=(i : Int)+1:=w6;have hif : i<f.length:=by omega
  obtain ⟨e,he⟩ : ∃ e,e=A[i]:=⟨_,rfl⟩;obtain ⟨w,hw⟩ : ∃ w,w=f[i]:=⟨_,rfl⟩
  have hfa : zvA A f i↔0<=w/\w<=e.v:=by
   unfold zvA arcD;rw [List.getD_eq_getElem?_getD,List.getElem?_eq_getElem hif,Option.getD_some,List.getD_eq_getElem?_getD,List.getElem?_eq_getElem h7,Option.getD_some,he,hw]
  refine zae ?_;refine zab ?_;refine zaf ?_;refine zaa ⟨41,[(1,ints f),(2,.pv (nC ⟨N,A⟩)),(5,.I i),(6,.pv (eC e)),(19,eEs A),(20,.I A.length),(21,.I i)],[],300⟩ rfl ?_ ?_
  .simp [h7,<- he]
   exact LeH [] [184]
  refine zaC ⟨41,[(1,ints f),(2,.pv (nC ⟨N,A⟩)),(19,eEs A),(20,.I A.length),(21,.I i),(33,.B (!decide (0<=w/\w<=e.v)))],[],400⟩ rfl ?_ ?_
  .simp [hif,<- hw]
   refine zap (zcl w 0 e.v) (by simp) ?_
   simp;exact ⟨rfl,Le.go [] [] rfl rfl (by simp <;> exact wkB (by rw [Bool.eq_iff_iff]; simp)) (by simp)⟩
  refine zad _ rfl (λ h10=>?_) λ h10=>?_
  .have h10' : ¬ (0<=w/\w<=e.v):=by simp at h10; omega
   refine rs [4] [] [] ?_;refine zai ?_;have hno : ¬ zaJ N A f:=λ h=>h10' (hfa.1 ((ziT.1 h).2.1 i h7));exact ⟨.inr rfl,zao.one (by simp [hno])⟩
  have h10' : 0<=w/\w<=e.v:=by simpa using h10
  refine zae ?_;refine zav rfl ?_;simp;refine ⟨i+1,⟨by omega,λ k hk=>?_⟩,by omega,Le.go [] [] rfl rfl (by simp [hw1]) (by simp)⟩
  rcases Nat.lt_succ_iff_lt_or_eq.1 hk with h | h
  .exact hp k h
  .rw [h]; exact hfa.2 h10'
 simp at h7;obtain rfl : i=A.length:=by omega
 have hfb : ∀ j (h : j<f.length),0<=f[j]/\f[j]<=1048576:=λ j hj=>by
  have h1:=hp j (by omega)
  unfold zvA at h1;have e1 : f.getD j 0=f[j]:=by rw [List.getD_eq_getElem?_getD,List.getElem?_eq_getElem hj,Option.getD_some]
  have e2 : arcD A j=A[j]'(by omega):=by unfold arcD; rw [List.getD_eq_getElem?_getD,List.getElem?_eq_getElem (by omega),Option.getD_some]
  rw [e1,e2] at h1;have h2:=(hav _ (List.getElem_mem (show j<A.length by omega))).2.2.2.2.2.2.2.2
  omega
 refine zaq ?_;refine hit ?_;have hsur:=zn3 hn' h3 hfb;have hcf:=zlG zdF [] (λ x=>!decide (x=0)) ((rowR N (exF A f)).drop 2) (by rw [List.length_drop,zhi]; omega) (λ ρ sn h k=>by simp) (λ e _=>zlA e)
 have hiff : zaJ N A f↔((rowR N (exF A f)).drop 2).any (λ x=>!decide (x=0))=false:=by
  rw [<- Bool.not_eq_true,zxT,Classical.not_not,ziT];exact ⟨λ h=>h.2.2,λ h=>⟨h3,hp,h⟩⟩
 obtain ⟨l,hld⟩ : ∃ l,l=rowR N (exF A f):=⟨_,rfl⟩;have hll : l.length=N:=by rw [hld,zhi]
 rw [<- hld] at hsur hcf hiff;obtain ⟨b,hb⟩ : ∃ b,b=(l.drop 2).any (λ x=>!decide (x=0)):=⟨_,rfl⟩;rw [<- hb] at hcf hiff;refine zaa ⟨41,[(4,.B (!b))],[],300⟩ rfl ?_ ?_
 .simp
  refine zbz hsur (by simp) ?_
  simp;refine zyJ 2 (i:=176) rfl rfl (by omega) ?_
  simp;have h2N : 2+(N - 2)<=N:=by omega
  refine zi1 [176] hcf (by simp [fcd,hll,h2N]; exact List.take_of_length_le (by simp; omega)) (.sc _) ?_
  simp;exact LeH [] []
 refine zai ?_;exact ⟨.inr rfl,zao.one (by simp [hiff])⟩
set_option maxRecDepth 100000 in
open Classical in
theorem zoK (hn : zbX ⟨N,A⟩) (hl : f.length<=1099511627776) : zaj Tryz.prog zfK [eN ⟨N,A⟩,ints f] [] (.I (if zaJ N A f then valF A f else 0)) []:=by
 refine zl2.ac ?_;show awp _ 0 _ _ ⟨14,[(0,eN ⟨N,A⟩),(1,ints f)],[],16⟩;have hvl:=zoJ hn hl;refine rs [1,2] [] [16] ?_;refine zab ?_;refine rx (s:=?s2) [1,2,8] [] [] rfl ?o2 ?q2
 case o2=>simp; refine zap hvl (by simp) ?_; simp; rfl
 refine zad _ rfl (λ h3=>?_) λ h3=>?_
 .simp at h3
  refine rs [4] [] [] ?_;refine zai ?_;exact ⟨.inr rfl,zao.one (by simp [h3])⟩
 simp at h3;have h31:=zeB.1 h3.fit;have hav:=hn.2.2.2;simp only at hav
 have hfb : ∀ j (h : j<f.length),0<=f[j]/\f[j]<=1048576:=λ j hj=>by
  have h1:=h31.2 j (by omega)
  have e1 : f.getD j 0=f[j]:=by rw [List.getD_eq_getElem?_getD,List.getElem?_eq_getElem hj,Option.getD_some]
  have e2 : arcD A j=A[j]'(by omega):=by unfold arcD; rw [List.getD_eq_getElem?_getD,List.getElem?_eq_getElem (by omega),Option.getD_some]
  rw [e1,e2] at h1;have h2:=(hav _ (List.getElem_mem (show j<A.length by omega))).2.2.2.2.2.2.2.2
  omega
 have hsur:=zn3 hn h31.1 hfb;have hv:=zxW (f:=f) (zgx hn);have hn0:=hn.1;simp only at hn0;have hr:=zgq (N:=N) (g:=exF A f) (x:=0) (Int.le_refl _) (by omega)
 rw [hv] at hr;obtain ⟨l,hld⟩ : ∃ l,l=rowR N (exF A f):=⟨_,rfl⟩;rw [<- hld] at hsur hr;simp only [Int.toNat_zero] at hr;refine zae ?_;refine zaa ⟨14,[(4,.I (valF A f))],[],300⟩ rfl ?_ ?_
 .simp
  refine zbz hsur (by simp) ?_
  have h0N : 0<(N : Int):=by omega
  simp [hr,h0N];exact ⟨by omega,LeH [] []⟩
 refine zai ?_;exact ⟨.inr rfl,zao.one (by simp [h3])⟩
theorem ztJ {N : Nat} {A : List Ed} (hn : zbX ⟨N,A⟩) : zqK ⟨N,A⟩ (zgT N A)/\cutV A (zgT N A)=maxF N A:=by
 have hno:=zgx hn;obtain ⟨f,hf,hm⟩:=zhF hno;obtain ⟨D,b,hb,hc⟩:=Bfs.grow hno N [0] _ (Bfs.start (f:=f) (by have:=hno.two; omega)) (by omega)
 have h1:=zrv hno hf hm hb;have hmf:=ziw hf hm;have he : inD D N=zgT N A:=zo8 hno hf hm hb.tree hb.mem0 h1 hc;have hgr:=(ziF hno hf hb.mem0 h1 hc).1
 have hmD : ∀ x,x∈inD D N↔x∈D:=λ x=>by
  rw [zoN];exact ⟨λ h=>h.2,λ h=>⟨hb.rng x h,h⟩⟩
 rw [<- he];refine ⟨⟨hn,zh3 (zsG D N) λ k hk=>by have:=(zoN.1 hk).1; simp only; omega,(hmD 0).2 hb.mem0,λ h=>h1 ((hmD 1).1 h)⟩,?_⟩
 rw [zl6,hmf,hgr]
 congr 1
 funext x
 exact decide_eq_decide.2 (hmD x)
section
variable {g : Gr} {p : Pol}
theorem zmz : ∀ {o b a : List Int} {R : List (Int × List Int)} {k : Int},zgP o a (zrS R)=true->k∉o->zkV g p b o a R->zkV g p b (o++[k]) (a++[k]) R
 | [],b,a,R,k,h,_,_=>by
   simp [zgP,zrS] at h;obtain ⟨rfl,rfl⟩:=h;simp [zkV]
 | x::o,b,a,R,k,h,hk,hc=>by
   have hkx : k≠x:=λ e=>hk (by simp [e])
   have hko : k∉o:=λ e=>hk (List.mem_cons_of_mem _ e);simp only [zgP] at h;simp only [zkV] at hc;simp only [List.cons_append,zkV];split at h
   .rename_i h1
    rw [if_pos h1] at hc
    cases a with
    | nil=>cases h1
    | cons y a =>
      have : y=x:=by simpa using h1
      subst this
      simpa using zmz h hko hc
   .rename_i h1
    rw [if_neg h1] at hc
    have h3 : (a++[k]).head? ≠ some x:=by
     cases a with
     | nil=>simpa using hkx
     | cons y a=>simpa using h1
    rw [if_neg h3];split at h
    .cases R with
     | nil=>trivial
     | cons r R=>exact ⟨hc.1,zmz h hko hc.2⟩
    .cases h
theorem zmI : ∀ {o b a : List Int} {R : List (Int × List Int)} {r : Int × List Int},zgP o a (zrS R)=true->r.1∉o->zyl g p (b++a) r->zkV g p b o a R->zkV g p b (o++[r.1]) a (R++[r])
 | [],b,a,R,r,h,_,hr,_=>by
   simp [zgP,zrS] at h;obtain ⟨rfl,rfl⟩:=h;rw [List.append_nil] at hr;simp [zkV,hr]
 | x::o,b,a,R,r,h,hk,hr,hc=>by
   have hko : r.1∉o:=λ e=>hk (List.mem_cons_of_mem _ e);simp only [zgP] at h;simp only [zkV] at hc;simp only [List.cons_append,zkV];split at h
   .rename_i h1
    rw [if_pos h1] at hc;rw [if_pos h1]
    cases a with
    | nil=>cases h1
    | cons y a =>
      have : y=x:=by simpa using h1
      subst this;exact zmI h hko (by simpa using hr) hc
   .rename_i h1
    rw [if_neg h1] at hc;rw [if_neg h1];split at h
    .rename_i h2
     cases R with
     | nil=>cases h2
     | cons q R=>exact ⟨hc.1,zmI h hko hr hc.2⟩
    .cases h
theorem zon (hg : GrOk g) (hp : zbu g.size p) {a : List Int} (h : ∀ x∈a,x∈ordL (zal g p.lv) p.seeds) : zdg g p a:=by
 refine ⟨λ x hx=>?_,λ x hx=>?_⟩
 .have h2:=zeV (h x hx)
  exact h2
 .have h2:=(zo2 (hg.level p.lv)).1 (h x hx)
  exact (zkJ hp h2.1.1).2 ⟨h2.1.2,h2.2⟩
theorem zdg.join {a : List Int} (h : zdg g p a) : zdg g p (zaM a):=h.sub λ _ hx=>(zfL.1 hx).1
theorem zwf (hg : GrOk g) (hp : zbu g.size p) (hs : p.seeds.length<=64) : ∀ (n : Nat) (o : List Int),o.length=n->o.Nodup->zdg g p o ->
  zau g p (zaM (accR g p o))/\zgP o (accR g p o) (zrS (refR g p o))=true/\zkV g p [] o (accR g p o) (refR g p o)
 | 0,o,h,_,_=>by
   obtain rfl:=List.eq_nil_of_length_eq_zero h;exact ⟨zau.nil hg hp,rfl,trivial⟩
 | n+1,o,h,hon,hok=>by
   have hne : o≠[]:=λ e=>by rw [e] at h; cases h
   obtain ⟨q,hq⟩ : ∃ q,q=o.dropLast:=⟨_,rfl⟩;obtain ⟨k,hk⟩ : ∃ k,k=o.getLast hne:=⟨_,rfl⟩;have ho : o=q++[k]:=by rw [hq,hk]; exact (List.dropLast_concat_getLast hne).symm
   have hql : q.length=n:=by rw [hq,List.length_dropLast,h]; rfl
   rw [ho] at hon hok ⊢;have hqn : q.Nodup:=(List.nodup_append.1 hon).1;have hkq : k∉q:=λ hm=>(List.nodup_append.1 hon).2.2 k hm k (by simp) rfl
   have hqok : zdg g p q:=hok.sub λ x hx=>List.mem_append_left _ hx;obtain ⟨ih1,ih2,ih3⟩:=zwf hg hp hs n q hql hqn hqok
   by_cases hc : zau g p (zaM (accR g p q++[k]))
   .rw [zc3 hc,ziL hc]
    exact ⟨hc,zmh ih2 hkq,zmz ih2 hkq ih3⟩
   .rw [zjE hc,zpy hc]
    have hsz2:=hg.1.2.1
    have hrng : ∀ x∈accR g p q++[k],0<=x/\x<g.size:=λ x hx=>hok.rng x (by
     rcases List.mem_append.1 hx with h2 | h2
     .exact List.mem_append_left _ (zfF h2)
     .exact List.mem_append_right _ h2)
    have hnd : (accR g p q++[k]).Nodup:=List.nodup_append.2 ⟨hqn.sublist (zgp _ _ rfl),by simp,λ a ha b hb=>by
     rw [List.mem_singleton] at hb;subst hb
     rintro rfl
     exact hkq (zfF ha)⟩
    have hjl:=zou hnd λ x hx=>by have:=hrng x hx; omega
    have hnv:=zlU hg hp (zmg (ziq hrng)) hs (zgS (accR g p q++[k]));have hside:=ztJ hnv;have hfew:=zjF (p:=p) (ks:=zaM (accR g p q++[k])) hg hp (zmg (ziq hrng))
    have hcut : zyl g p (accR g p q) (k,zgT (netN g) (netA g p (zaM (accR g p q++[k])))):=by
     refine ⟨hside.1,?_⟩;simp only;rw [hside.2];have : maxF (netN g) (netA g p (zaM (accR g p q++[k])))≠(zaM (accR g p q++[k])).length:=hc;rw [hjl,List.length_append,List.length_singleton] at this hfew;omega
    refine ⟨ih1,?_,?_⟩
    .have:=zm1 (r:=zrS (refR g p q)) ih2 hkq
     simpa [zrS] using this
    .exact zmI (r:=(k,zgT (netN g) (netA g p (zaM (accR g p q++[k]))))) ih2 hkq (by rw [List.nil_append]; exact hcut) ih3
end
theorem zrA {N : Nat} {A : List Ed} {f : List Int} (h : (decide (f.length=A.length) && ((List.range A.length).all λ i=>decide (0<=f.getD i 0/\f.getD i 0<=(arcD A i).v)) && ((List.range N).all λ x=>decide (x<2∨exF A f x=0)))=true) : zaJ N A f:=by
 simp only [Bool.and_eq_true,decide_eq_true_eq,List.all_eq_true,List.mem_range] at h;exact ziT.2 ⟨h.1.1,λ i hi=>h.1.2 i hi,λ x h1 h2=>(h.2 x h2).resolve_left (by omega)⟩
def famH (s N : Nat) (E : Nat->List (List AV)) : List (Nat × Option Ent):=(List.range N).map λ k=>(k+1000,some ⟨s,E k,0⟩)
def famV (E : Nat->List (List AV)) (k : Nat) : AV:=.rs (k+1000) 0 (E k).length
def famO (N : Nat) (E : Nat->List (List AV)) : List (List AV):=(List.range N).map λ k=>[famV E k]
theorem zjP (N : Nat) (E : Nat->List (List AV)) : (famO N E).length=N:=by simp [famO]
theorem zj9 {N k : Nat} {E : Nat->List (List AV)} (h : k<N) : (famO N E)[k]? = some [famV E k]:=by simp [famO,h]
@[simp] theorem zAW {N k : Nat} {E : Nat->List (List AV)} (h : k<(famO N E).length) : (famO N E)[k]=[famV E k]:=by simp [famO]
theorem zfI {α β : Type} {f : α->β} (hf : ∀ i j,f i=f j->i=j) : ∀ {l : List α},l.Nodup->(l.map f).Nodup
 | [],_=>List.nodup_nil
 | x::l,h=>by
   rw [List.nodup_cons] at h;rw [List.map_cons,List.nodup_cons];refine ⟨λ hx=>?_,zfI hf h.2⟩;obtain ⟨y,hy,e⟩:=List.mem_map.1 hx;exact h.1 (hf _ _ e ▸ hy)
theorem zpi {α : Type} (f : Nat->Nat) (hf : ∀ i j,f i=f j->i=j) (g : Nat->α) (l : List Nat) (k : Nat) : lkp (l.map λ k=>(f k,g k)) (f k)=if k∈l then some (g k) else none:=by
 induction l with
 | nil=>simp [lkp]
 | cons i l ih =>
   simp only [List.map_cons,lkp]
   by_cases h : i=k
   .subst h; simp
   .have h1 : f i≠f k:=λ e=>h (hf _ _ e)
    have h2 : ¬ k=i:=λ e=>h e.symm;simp [h1,ih,h2]
theorem zqA {α : Type} (f : Nat->Nat) (g : Nat->α) (l : List Nat) (j : Nat) (h : ∀ k∈l,f k≠j) : lkp (l.map λ k=>(f k,g k)) j=none:=by
 induction l with
 | nil=>simp [lkp]
 | cons i l ih =>
   simp only [List.map_cons,lkp];rw [if_neg (h i (by simp)),ih λ k hk=>h k (by simp [hk])]
theorem zym {s N : Nat} {E : Nat->List (List AV)} {r : List (Nat × Option Ent)} {k : Nat} (h : k<N) : lkp (famH s N E++r) (k+1000)=some (some ⟨s,E k,0⟩):=by
 rw [zg2,famH,zpi (λ k=>k+1000) (λ i j h=>by simpa using h)]
 simp [h]
theorem zth {s N : Nat} {E : Nat->List (List AV)} {r : List (Nat × Option Ent)} {j : Nat} (h : j<1000∨1000+N<=j) : lkp (famH s N E++r) j=lkp r j:=by
 rw [zg2,famH,zqA (λ k=>k+1000) _ _ _ (λ k hk e=>by have:=List.mem_range.1 hk; omega)]
 simp
section
variable {sz n s N : Nat} {t : List (Nat × AV)} {E : Nat->List (List AV)} {r : List (Nat × Option Ent)}
theorem zzR {k : Nat} (h : k<N) : (⟨sz,t,famH s N E++r,n⟩ : St).hp (k+1000)=some ⟨s,E k,0⟩:=by
 show (lkp _ _).getD none=_;rw [zym h];rfl
theorem zmY {j : Nat} (h : j<1000) : (⟨sz,t,famH s N E++r,n⟩ : St).hp j=(⟨sz,t,r,n⟩ : St).hp j:=by
 show (lkp _ _).getD none=(lkp _ _).getD none;rw [zth (.inl h)]
theorem zys {j : Nat} (h : 1000+N<=j) : (⟨sz,t,famH s N E++r,n⟩ : St).hp j=(⟨sz,t,r,n⟩ : St).hp j:=by
 show (lkp _ _).getD none=(lkp _ _).getD none;rw [zth (.inr h)]
end
def famR (m a N : Nat) (L : List Nat) : List (Nat × Nat):=(m,a+1000)::(L++((List.range N).filter (· ≠ a)).map (· + 1000)).map λ j=>(j,j)
theorem zwH {m a N : Nat} {L : List Nat} (hL : L.Nodup) (h1 : ∀ j∈L,j<1000) (hm : m∉L) (hm1 : m<1000∨1000+N<=m) : ((famR m a N L).map (·.1)).Nodup:=by
 simp only [famR,List.map_cons,List.map_map,fcd,List.map_id',List.nodup_cons,List.mem_append,List.mem_map,List.mem_filter,List.mem_range];refine ⟨?_,?_⟩
 .rintro (h | ⟨k,⟨h,_⟩,e⟩)
  .exact hm h
  .omega
 .refine List.nodup_append.2 ⟨hL,?_,?_⟩
  .exact zfI (λ i j h=>by simpa using h) (List.nodup_range.filter _)
  .intro x hx y hy e
   simp only [List.mem_map] at hy;obtain ⟨k,_,e2⟩:=hy;have:=h1 x hx;omega
theorem zw7 {m a N : Nat} {L : List Nat} (hL : L.Nodup) (h1 : ∀ j∈L,j<1000) : ((famR m a N L).map (·.2)).Nodup:=by
 simp only [famR,List.map_cons,List.map_map,fcd,List.map_id',List.nodup_cons,List.mem_append,List.mem_map,List.mem_filter,List.mem_range];refine ⟨?_,?_⟩
 .rintro (h | ⟨k,⟨_,h⟩,e⟩)
  .have:=h1 _ h; omega
  .simp at h; omega
 .refine List.nodup_append.2 ⟨hL,?_,?_⟩
  .exact zfI (λ i j h=>by simpa using h) (List.nodup_range.filter _)
  .intro x hx y hy e
   simp only [List.mem_map] at hy;obtain ⟨k,_,e2⟩:=hy;have:=h1 x hx;omega
theorem zqJ {m a N : Nat} {L : List Nat} : lkp (famR m a N L) m=some (a+1000):=by simp [famR,lkp]
theorem zht {m a N j : Nat} {L : List Nat} (hm : m≠j) (h : j∈L ∨ ∃ k<N,k≠a/\j=k+1000) : lkp (famR m a N L) j=some j:=by
 rw [famR,lkp,if_neg hm,zpi (λ j=>j) (λ i j h=>h) (λ j=>j),if_pos];rcases h with h | ⟨k,h1,h2,rfl⟩
 .simp [h]
 .simp [h1,h2]
def grow {α : Type} (E : Nat->List α) (a : Nat) (r : α) : Nat->List α:=λ k=>if k=a then E a++[r] else E k
theorem zir (f : AV->AV) (hf : ∀ v,f (.sc v) = .sc v) (rows : List (List AV)) (hr : ∀ r∈rows,∀ x∈r,∃ v,x = .sc v) : rows.map (·.map f)=rows:=by
 conv=>rhs; rw [<- List.map_id rows]
 refine List.map_congr_left λ r hr'=>?_
 conv=>rhs; rw [id,<- List.map_id r]
 refine List.map_congr_left λ x hx=>?_;obtain ⟨v,rfl⟩:=hr r hr' x hx;exact hf v
theorem zv2 {m a N : Nat} {L : List Nat} {E : Nat->List (List AV)} {row : List AV} {h : Nat->Option Ent} {len : Nat} (ha : a<N) (hm : m<1000∨1000+N<=m) (hlen : len=(E a).length+1) :
  ((famO N E).set a [.rs m 0 len]).map (·.map (conv (famR m a N L) [] h 4))=famO N (grow E a row):=by
 apply List.ext_getElem?;intro j;rw [List.getElem?_map,List.getElem?_set,zjP]
 by_cases hj : a=j
 .subst hj
  rw [if_pos rfl,if_pos ha,zj9 ha];simp [zqJ,famV,grow,hlen]
 .rw [if_neg hj]
  by_cases hjN : j<N
  .rw [zj9 hjN,zj9 hjN]
   have h1 : lkp (famR m a N L) (j+1000)=some (j+1000):=zht (by omega) (.inr ⟨j,hjN,λ e=>hj e.symm,rfl⟩)
   have h2 : j≠a:=λ e=>hj e.symm;simp [famV,h1,grow,h2]
  .simp [famO,hjN]
theorem Le.fam {np s N a m : Nat} {E : Nat->List (List AV)} {row : List AV} (L : List Nat) {st st' : St} (hsz : st'.sz=st.sz)
  (ha : a<N) (hL : L.Nodup) (h1 : ∀ j∈L,j<1000) (hm1 : 1000+N<=m) (hn : 1000+N<=st'.n) (hnp : np<=1000)
  (hE : ∀ k<N,∀ r∈E k,∀ x∈r,∃ v,x = .sc v) (hrow : ∀ x∈row,∃ v,x = .sc v)
  (hst : ∀ k<N,k≠a->st.hp (k+1000)=some ⟨s,E k,0⟩) (hsm : st.hp m=some ⟨s,E a++[row],0⟩)
  (hst' : ∀ k<N,st'.hp (k+1000)=some ⟨s,grow E a row k,0⟩)
  (hout : ∀ j,j∉L->(j<1000∨1000+N<=j)->st'.hp j=none)
  (ht : ∀ p∈st'.t,Wk (conv (famR m a N L) [] st.hp 4 (st.get p.1)) p.2)
  (hb : ∀ j∈L,∀ e',st'.hp j=some e' -> ∃ e,st.hp j=some e/\zaN [] (zay (famR m a N L) [] st.hp 4 e) e') : Le np st st':=by
 have hm : m∉L:=λ h=>by have:=h1 m h; omega
 refine Le.mk (famR m a N L) [] [] hsz (zwH hL h1 hm (.inr hm1)) (zw7 hL h1) ?_ (by simp) (by simp) (by omega) (by simp) (λ i=>?_) ?_
 .intro p hp
  simp only [famR,List.mem_cons,List.mem_map,List.mem_append,List.mem_filter,List.mem_range] at hp;rcases hp with rfl | ⟨j,h | ⟨k,⟨h2,_⟩,rfl⟩,rfl⟩
  .exact ⟨by simp only; omega,λ h=>by simp only at h; omega⟩
  .have:=h1 j h
   exact ⟨by simp only; omega,λ _=>rfl⟩
  .exact ⟨by simp only; omega,λ _=>rfl⟩
 .unfold St.get at *
  cases hl : lkp st'.t i with
  | none=>exact .inl (.dead _)
  | some v=>exact .inl (ht _ (zb7 hl))
 .intro j e' he
  left
  by_cases hj : j∈L
  .obtain ⟨e,h2,h3⟩:=hb j hj e' he
   refine ⟨j,e,?_,h2,h3⟩;simp only [famR,List.mem_cons,List.mem_map,List.mem_append];exact .inr ⟨j,.inl hj,rfl⟩
  .by_cases hr : j<1000∨1000+N<=j
   .rw [hout j hj hr] at he; cases he
   .obtain ⟨k,rfl⟩ : ∃ k,j=k+1000:=⟨j - 1000,by omega⟩
    have hk : k<N:=by omega
    rw [hst' k hk] at he
    cases he
    by_cases hka : k=a
    .subst hka
     rw [show grow E k row k=E k++[row] from if_pos rfl]
     refine ⟨m,_,by simp [famR],hsm,?_⟩
     have : zay (famR m k N L) [] st.hp 4 ⟨s,E k++[row],0⟩=⟨s,E k++[row],0⟩:=by
      simp only [zay];rw [zir _ λ v=>by simp [conv]]
      intro r hr x hx;rcases List.mem_append.1 hr with h | h
      .exact hE k hk r h x hx
      .rw [List.mem_singleton.1 h] at hx; exact hrow x hx
     rw [this];exact zaN.rfl' (Nat.zero_le _)
    .simp only [grow,if_neg hka]
     refine ⟨k+1000,_,?_,hst k hk hka,?_⟩
     .simp only [famR,List.mem_cons,List.mem_map,List.mem_append,List.mem_filter,List.mem_range]
      exact .inr ⟨k+1000,.inr ⟨k,⟨hk,by simpa using hka⟩,rfl⟩,rfl⟩
     .have : zay (famR m a N L) [] st.hp 4 ⟨s,E k,0⟩=⟨s,E k,0⟩:=by
       simp only [zay];rw [zir _ (λ v=>by simp [conv]) _ (hE k hk)]
      rw [this];exact zaN.rfl' (Nat.zero_le _)
theorem Le.fam0 {np s N o : Nat} (L : List Nat) {st st' : St} (hsz : st'.sz=st.sz) (hs : s≠0) (hL : (o::L).Nodup) (h1 : ∀ j∈o::L,j<1000/\np<=1000) (hn : 1000+N<=st'.n)
  (ho : st.hp o=some ⟨1,(List.range N).map λ _=>[.nilS],0⟩) (ho' : st'.hp o=some ⟨1,famO N λ _=>[],0⟩)
  (hst' : ∀ k<N,st'.hp (k+1000)=some ⟨s,[],0⟩)
  (hout : ∀ j,j∉o::L->(j<1000∨1000+N<=j)->st'.hp j=none)
  (ht : ∀ p∈st'.t,Wk (conv ((o::L).map λ j=>(j,j)) [] st.hp 4 (st.get p.1)) p.2)
  (hb : ∀ j∈L,∀ e',st'.hp j=some e' -> ∃ e,st.hp j=some e/\zaN [] (zay ((o::L).map λ j=>(j,j)) [] st.hp 4 e) e') : Le np st st':=by
 have hnl : ∀ p,p∈(List.range N).map (λ k=>(k+1000,s)) ↔ ∃ k<N,p=(k+1000,s):=λ p=>by
  rw [List.mem_map];exact ⟨λ ⟨k,h,e⟩=>⟨k,List.mem_range.1 h,e.symm⟩,λ ⟨k,h,e⟩=>⟨k,List.mem_range.2 h,e.symm⟩⟩
 have hid : ((o::L).map λ j=>(j,j)).map (·.1)=o::L:=by simp [fcd]
 have hid2 : ((o::L).map λ j=>(j,j)).map (·.2)=o::L:=by simp [fcd]
 refine Le.mk ((o::L).map λ j=>(j,j)) [] ((List.range N).map λ k=>(k+1000,s)) hsz (by rw [hid]; exact hL) (by rw [hid2]; exact hL) ?_ ?_ (by simp) (by have:=h1 o (by simp); omega) ?_ (λ i=>?_) ?_
 .intro p hp
  obtain ⟨j,hj,rfl⟩:=List.mem_map.1 hp;have:=h1 j hj;exact ⟨by simp only; omega,λ _=>rfl⟩
 .intro p hp
  obtain ⟨k,hk,rfl⟩:=(hnl p).1 hp;have:=h1 o (by simp)
  refine ⟨by simp only; omega,by simp only; omega,?_,hs⟩
  rw [hid2];intro h;have:=h1 _ h;omega
 .rw [List.map_map]
  exact zfI (λ i j h=>by simpa using h) List.nodup_range
 .unfold St.get at *
  cases hl : lkp st'.t i with
  | none=>exact .inl (.dead _)
  | some v=>exact .inl (ht _ (zb7 hl))
 .intro j e' he
  by_cases hjo : j=o
  .subst hjo
   left
   rw [ho'] at he
   cases he;refine ⟨j,_,by simp,ho,rfl,Nat.le_refl _,Nat.zero_le _,.inr ⟨by simp [zay],by simp [zay,famO],λ i=>?_⟩⟩
   by_cases hi : i<N
   .simp only [zay,List.map_map,fcd,List.map_cons,List.map_nil,List.getD_eq_getElem?_getD,List.getElem?_map,List.getElem?_range hi,Option.map_some,Option.getD_some,famO,famV,List.length_nil]
    exact ⟨.inr ⟨by simp [conv],i+1000,s,rfl,(hnl _).2 ⟨i,hi,rfl⟩⟩,trivial⟩
   .simp [zay,famO,List.getD_eq_getElem?_getD,hi,UpL]
  .by_cases hj : j∈L
   .left
    obtain ⟨e,h2,h3⟩:=hb j hj e' he;refine ⟨j,e,by simp [hj],h2,h3.1,h3.2.1,h3.2.2.1,?_⟩
    rcases h3.2.2.2 with h | ⟨q1,q2,q3⟩
    .exact .inl h
    .refine .inr ⟨q1,q2,λ i=>?_⟩
     have key : ∀ {xs ys : List AV},UpL [] xs ys->UpL ((List.range N).map λ k=>(k+1000,s)) xs ys:=by
      intro xs
      induction xs with
      | nil=>intro ys h; cases ys <;> exact h
      | cons x xs ih =>
        intro ys h
        cases ys with
        | nil=>exact h
        | cons y ys =>
          refine ⟨?_,ih h.2⟩;rcases h.1 with h | ⟨_,_,_,_,h⟩
          .exact .inl h
          .simp at h
     exact key (q3 i)
   .by_cases hr : j<1000∨1000+N<=j
    .rw [hout j (by simp [hjo,hj]) hr] at he; cases he
    .obtain ⟨k,rfl⟩ : ∃ k,j=k+1000:=⟨j - 1000,by omega⟩
     have hk : k<N:=by omega
     rw [hst' k hk] at he
     cases he;exact .inr ⟨(hnl _).2 ⟨k,hk,rfl⟩,rfl,rfl⟩
def famI (N : Nat) : List Nat:=(List.range N).map (· + 1000)
theorem zgg {N j : Nat} : j∈famI N↔1000<=j/\j<1000+N:=by
 simp only [famI,List.mem_map,List.mem_range];exact ⟨λ ⟨k,h,e⟩=>by omega,λ h=>⟨j - 1000,by omega,by omega⟩⟩
theorem zw4 {s N o : Nat} {ρ : List (Nat × Nat)} {sn : List Nat} {hp : Nat->Option Ent} {E : Nat->List (List AV)} (hE : ∀ k<N,∀ r∈E k,∀ x∈r,∃ v,x = .sc v)
  (hρ : lkp ρ o=none) (hsn : o∈sn) (hf : ∀ k<N,k+1000∈sn) (ho : hp o=some ⟨1,famO N E,0⟩) (hh : ∀ k<N,hp (k+1000)=some ⟨s,E k,0⟩) :
  conv ρ sn hp 4 (.rs o 0 N) = .vs 1 false ((List.range N).map λ k=>[.vs s false (E k)]):=by
 simp only [conv,hρ,hsn,if_true,ho,zjP,Nat.zero_add,Nat.le_refl,List.drop_zero]
 rw [List.take_of_length_le (by rw [zjP]; exact Nat.le_refl _),famO,List.map_map]
 congr 1
 refine List.map_congr_left λ k hk=>?_;have hk:=List.mem_range.1 hk;simp only [fcd,List.map_cons,List.map_nil,famV,conv,lkp,hf k hk,if_true,hh k hk,Nat.zero_add,Nat.le_refl,List.drop_zero,List.take_length]
 rw [zir _ (λ v=>by simp [conv]) _ (hE k hk)]
theorem Le.famOut {np N o : Nat} {L : List Nat} {st st' : St} (hsz : st'.sz=st.sz) (hL : L.Nodup) (h1 : ∀ j∈L,j<1000) (hoL : o∉L) (hn : 1000<=st'.n) (hnp : np<=o) (hnp2 : np<=1000)
  (hout : ∀ j,j∉L->st'.hp j=none)
  (ht : ∀ p∈st'.t,Wk (conv (L.map λ j=>(j,j)) (o::famI N) st.hp 4 (st.get p.1)) p.2)
  (hb : ∀ j∈L,∀ e',st'.hp j=some e' -> ∃ e,st.hp j=some e/\zaN [] (zay (L.map λ j=>(j,j)) (o::famI N) st.hp 4 e) e') : Le np st st':=by
 have hid : (L.map λ j=>(j,j)).map (·.1)=L:=by simp [fcd]
 have hid2 : (L.map λ j=>(j,j)).map (·.2)=L:=by simp [fcd]
 refine Le.mk (L.map λ j=>(j,j)) (o::famI N) [] hsz (by rw [hid]; exact hL) (by rw [hid2]; exact hL) ?_ (by simp) ?_ (by omega) (by simp) (λ i=>?_) ?_
 .intro p hp
  obtain ⟨j,hj,rfl⟩:=List.mem_map.1 hp;have:=h1 j hj;exact ⟨by simp only; omega,λ _=>rfl⟩
 .intro i hi
  rw [hid];rcases List.mem_cons.1 hi with rfl | hi
  .exact ⟨hnp,hoL⟩
  .have:=zgg.1 hi
   exact ⟨by omega,λ h=>by have:=h1 i h; omega⟩
 .unfold St.get at *
  cases hl : lkp st'.t i with
  | none=>exact .inl (.dead _)
  | some v=>exact .inl (ht _ (zb7 hl))
 .intro j e' he
  left
  by_cases hj : j∈L
  .obtain ⟨e,h2,h3⟩:=hb j hj e' he
   exact ⟨j,e,by simp [hj],h2,h3⟩
  .rw [hout j hj] at he; cases he
def ziW (l : List (Int × AV)) : List (List AV):=l.map λ p=>[.sc (.int .i64 p.1),p.2]
theorem zjx (n : Int) : ∀ l : List (Int × AV),zfh n (ziW l)=(l.find? (λ p=>p.1=n)).map (·.2)
 | []=>rfl
 | (k,x)::l=>by
   have ih:=zjx n l;simp only [ziW] at ih;simp only [ziW,List.map_cons,zfh,List.find?_cons]
   by_cases h : n=k
   .simp [h]
   .have h' : ¬ k=n:=λ e=>h e.symm
    simp [h,h',ih]
def MapR (rows : List (List AV)) (φ : Int->Option AV) : Prop:=∃ l : List (Int × AV),rows=ziW l/\(l.map (·.1)).Nodup /\ ∀ n,zfh n rows=φ n
theorem MapR.find {rows : List (List AV)} {φ : Int->Option AV} (h : MapR rows φ) (n : Int) : zfh n rows=φ n:=by
 obtain ⟨_,_,_,h⟩:=h;exact h n
theorem MapR.nil : MapR [] λ _=>none:=⟨[],rfl,by simp,λ _=>rfl⟩
theorem znS (n : Int) (y : AV) : ∀ l : List (Int × AV),∃ l',mset n y (ziW l)=ziW l'/\(∀ k,k∈l'.map (·.1)↔k=n∨k∈l.map (·.1))/\((l.map (·.1)).Nodup->(l'.map (·.1)).Nodup) /\ ∀ k,zfh k (ziW l')=if k=n then some y else zfh k (ziW l)
 | []=>⟨[(n,y)],rfl,by simp,by simp,λ k=>by simp [ziW,zfh]⟩
 | (i,x)::l=>by
   by_cases h : n=i
   .subst h
    refine ⟨(n,y)::l,by simp [ziW,mset],by simp,by simp,λ k=>?_⟩
    simp only [ziW,List.map_cons,zfh];split <;> rfl
   .obtain ⟨l',h1,h2,h3,h4⟩:=znS n y l
    refine ⟨(i,x)::l',?_,λ k=>?_,λ hn=>?_,λ k=>?_⟩
    .simp only [ziW] at h1
     simp [ziW,mset,h,h1]
    .simp only [List.map_cons,List.mem_cons,h2]
     constructor
     .rintro (h | h | h) <;> simp [h]
     .rintro (h | h | h) <;> simp [h]
    .rw [List.map_cons,List.nodup_cons] at hn ⊢
     exact ⟨λ hm=>((h2 i).1 hm).elim (λ e=>h e.symm) hn.1,h3 hn.2⟩
    .have h4:=h4 k
     simp only [ziW] at h4;simp only [ziW,List.map_cons,zfh,h4]
     by_cases hk : k=i
     .subst hk
      simp [show ¬ k=n from λ e=>h e.symm]
     .simp [hk]
theorem MapR.set {rows : List (List AV)} {φ : Int->Option AV} (h : MapR rows φ) (n : Int) (y : AV) : MapR (mset n y rows) λ k=>if k=n then some y else φ k:=by
 obtain ⟨l,rfl,hn,hf⟩:=h;obtain ⟨l',h1,_,h3,h4⟩:=znS n y l;exact ⟨l',h1,h3 hn,λ k=>by rw [h1,h4,hf]⟩
def ztS (s : Stp) : AV:=.agg [.I s.1,.sc (.bool s.2)]
open Classical in
noncomputable def camF (D b : List Int) : Int->Option AV:=λ x=>if x∈D then some (if x=0 then .agg [.I (-1),.sc (.bool false)] else ztS (decS (b.getD x.toNat 0))) else none
theorem ztT (b : List Int) : camF [0] b=λ x=>if x=0 then some (.agg [.I (-1),.sc (.bool false)]) else none:=by
 funext x
 by_cases h : x=0 <;> simp [camF,h]
theorem zvx {N : Nat} {A : List Ed} {f D b : List Int} (h : Bfs N A f D b) {s : Stp} (hT : stT A s∉D) (h0 : 0<=stT A s) (h1 : stT A s<N) :
  camF (D++[stT A s]) (b.set (stT A s).toNat (encS s))=λ x=>if x=stT A s then some (ztS s) else camF D b x:=by
 have hb : (stT A s).toNat<b.length:=by rw [h.len]; omega
 have hn0 : stT A s≠0:=λ e=>hT (e ▸ h.mem0)
 funext x
 by_cases hx : x=stT A s
 .subst hx
  simp only [camF,List.mem_append,List.mem_singleton,or_true,if_true,if_neg hn0];rw [List.getD_eq_getElem?_getD,List.getElem?_set_self hb,Option.getD_some,zr5]
 .simp only [camF,List.mem_append,List.mem_singleton,hx,or_false,if_false]
  by_cases hD : x∈D
  .have hr:=h.rng x hD
   rw [if_pos hD,if_pos hD,List.getD_eq_getElem?_getD,List.getElem?_set_ne (by omega),List.getD_eq_getElem?_getD]
  .rw [if_neg hD,if_neg hD]
theorem zjC (D b : List Int) (x : Int) : (camF D b x).isSome=decide (x∈D):=by
 by_cases h : x∈D <;> simp [camF,h]
abbrev zcy (s : Stp) : List AV:=[.I s.1,.B s.2]
def zj7 (A : List Ed) : Nat->Nat->List Stp
 | 0,_=>[]
 | i+1,k=>zj7 A i k++(if (arcD A i).f=k then [(i,false)] else [])++(if (arcD A i).t=k then [(i,true)] else [])
theorem zoa {A : List Ed} {s : Stp} {k : Nat} : ∀ {i : Nat},s∈zj7 A i k↔s.1<i/\stF A s=k
 | 0=>by simp [zj7]
 | i+1=>by
   obtain ⟨j,c⟩:=s;have ih:=zoa (A:=A) (s:=(j,c)) (k:=k) (i:=i);simp only [zj7,List.mem_append,ih];unfold stF;simp only;constructor
   .rintro ((h | h) | h)
    .exact ⟨by omega,h.2⟩
    .split at h
     .rename_i e
      simp at h;obtain ⟨rfl,rfl⟩:=h;exact ⟨by omega,by simpa using e⟩
     .simp at h
    .split at h
     .rename_i e
      simp at h;obtain ⟨rfl,rfl⟩:=h;exact ⟨by omega,by simpa using e⟩
     .simp at h
   .rintro ⟨h1,h2⟩
    rcases Nat.lt_succ_iff_lt_or_eq.1 h1 with h | h
    .exact .inl (.inl ⟨h,h2⟩)
    .subst h
     cases c
     .have : (arcD A j).f=k:=by simpa using h2
      rw [if_pos this];exact .inl (.inr (by simp))
     .have : (arcD A j).t=k:=by simpa using h2
      rw [if_pos this];exact .inr (by simp)
theorem zkD (A : List Ed) (k : Nat) : ∀ i,(zj7 A i k).length<=2*i
 | 0=>Nat.le_refl _
 | i+1=>by
   have ih:=zkD A k i;simp only [zj7,List.length_append];split <;> split <;> simp <;> omega
def famE (A : List Ed) (i : Nat) : Nat->List (List AV):=λ k=>(zj7 A i k).map zcy
theorem zsA (A : List Ed) (i k : Nat) : ∀ r∈famE A i k,∀ x∈r,∃ v,x = .sc v:=by
 intro r hr x hx;obtain ⟨s,_,rfl⟩:=List.mem_map.1 hr;simp only [zcy,List.mem_cons,List.not_mem_nil,or_false] at hx;rcases hx with rfl | rfl
 .exact ⟨_,rfl⟩
 .exact ⟨_,rfl⟩
theorem zwz (A : List Ed) (i k : Nat) : (famE A i k).length<=2*i:=by unfold famE; rw [List.length_map]; exact zkD A k i
theorem zwr {E : Nat->List (List AV)} {a : Nat} {row : List AV} (hE : ∀ k,∀ r∈E k,∀ x∈r,∃ v,x=AV.sc v) (hr : ∀ x∈row,∃ v,x=AV.sc v) (k : Nat) : ∀ r∈grow E a row k,∀ x∈r,∃ v,x=AV.sc v:=by
 unfold grow;intro r h;split at h
 .rcases List.mem_append.1 h with h | h
  .exact hE a r h
  .rw [List.mem_singleton.1 h]; exact hr
 .exact hE k r h
theorem zvh {A : List Ed} {i a b : Nat} (ha : (arcD A i).f=a) (hb : (arcD A i).t=b) (hab : a≠b) : famE A (i+1)=grow (grow (famE A i) a (zcy (i,false))) b (zcy (i,true)):=by
 funext k
 simp only [famE,zj7,grow,ha,hb,List.map_append,Int.natCast_inj]
 by_cases h1 : k=a
 .subst h1
  simp [hab,hab.symm]
 .by_cases h2 : k=b
  .subst h2
   simp [hab,h1]
  .have h3 : ¬ a=k:=λ e=>h1 e.symm
   have h4 : ¬ b=k:=λ e=>h2 e.symm;simp [h1,h2,h3,h4]
theorem zmt (s : Stp) : ∀ x∈zcy s,∃ v,x=AV.sc v:=by
 intro x hx;simp only [zcy,List.mem_cons,List.not_mem_nil,or_false] at hx;rcases hx with rfl | rfl
 .exact ⟨_,rfl⟩
 .exact ⟨_,rfl⟩
abbrev atV (N : Nat) (A : List Ed) : AV:=.vs 1 false ((List.range N).map λ k=>[.vs 2 false (famE A A.length k)])
theorem Le.slot {np sz n n' : Nat} {t t' : List (Nat × AV)} {h : List (Nat × Option Ent)} (hn : n<=n') (ht : ∀ p∈t',(⟨sz,t,h,n⟩ : St).get p.1=p.2) : Le np ⟨sz,t,h,n⟩ ⟨sz,t',h,n'⟩:=by
 intro T0 M0 w0 T M a w ok hnp;refine ⟨T,M,⟨ok.sz,ok.df,λ i=>?_,ok.hs,λ id g hg=>Nat.lt_of_lt_of_le (ok.dom id g hg) hn,ok.after⟩,Nat.le_trans hnp hn⟩;show Rep T w M ((lkp t' i).getD .dead) _
 cases hl : lkp t' i with
 | none=>exact .dead _ _
 | some v =>
   have:=ht _ (zb7 hl);simp only at this;show Rep T w M v _;rw [<- this];exact ok.tm i
def famS (N : Nat) (L : List Nat) : List (Nat × Nat):=(L++famI N).map λ j=>(j,j)
theorem zjY {N j : Nat} {L : List Nat} (h : j∈L ∨ ∃ k<N,j=k+1000) : lkp (famS N L) j=some j:=by
 rw [famS,zpi (λ j=>j) (λ i j h=>h) (λ j=>j),if_pos];rcases h with h | ⟨k,h1,rfl⟩
 .simp [h]
 .exact List.mem_append_right _ (zgg.2 (by omega))
theorem zrD {N j : Nat} {L : List Nat} (h : j∉L) (h2 : 1000+N<=j) : lkp (famS N L) j=none:=by
 rw [famS,zpi (λ j=>j) (λ i j h=>h) (λ j=>j),if_neg];rw [List.mem_append,not_or];exact ⟨h,λ hm=>by have:=zgg.1 hm; omega⟩
theorem zvr {N : Nat} {L sn : List Nat} {E : Nat->List (List AV)} {h : Nat->Option Ent} : (famO N E).map (·.map (conv (famS N L) sn h 4))=famO N E:=by
 conv=>rhs; rw [<- List.map_id (famO N E)]
 refine List.map_congr_left λ r hr=>?_;obtain ⟨k,hk,rfl⟩:=List.mem_map.1 hr;have:=zjY (N:=N) (L:=L) (j:=k+1000) (.inr ⟨k,List.mem_range.1 hk,rfl⟩);simp [famV,this]
theorem Le.famS {np s N : Nat} {E : Nat->List (List AV)} (L sn : List Nat) {st st' : St} (hsz : st'.sz=st.sz)
  (hL : L.Nodup) (h1 : ∀ j∈L,j<1000) (hn : 1000+N<=st'.n) (hnp : np<=1000) (hsn : ∀ j∈sn,1000+N<=j)
  (hE : ∀ k<N,∀ r∈E k,∀ x∈r,∃ v,x = .sc v)
  (hst : ∀ k<N,st.hp (k+1000)=some ⟨s,E k,0⟩) (hst' : ∀ k<N,st'.hp (k+1000)=some ⟨s,E k,0⟩)
  (hout : ∀ j,j∉L->(j<1000∨1000+N<=j)->st'.hp j=none)
  (ht : ∀ p∈st'.t,Wk (conv (famS N L) sn st.hp 4 (st.get p.1)) p.2)
  (hb : ∀ j∈L,∀ e',st'.hp j=some e' -> ∃ e,st.hp j=some e/\zaN [] (zay (famS N L) sn st.hp 4 e) e') : Le np st st':=by
 have hid : (Go.Proofs.YtkngdgplbojdlaaGreat.famS N L).map (·.1)=L++famI N:=by simp [Go.Proofs.YtkngdgplbojdlaaGreat.famS,fcd]
 have hid2 : (Go.Proofs.YtkngdgplbojdlaaGreat.famS N L).map (·.2)=L++famI N:=by simp [Go.Proofs.YtkngdgplbojdlaaGreat.famS,fcd]
 have hnd : (L++famI N).Nodup:=List.nodup_append.2 ⟨hL,zfI (λ i j h=>by simpa using h) List.nodup_range,λ x hx y hy e=>by
  have:=h1 x hx;have:=zgg.1 hy
  omega⟩
 have hmem : ∀ j,(j,j)∈Go.Proofs.YtkngdgplbojdlaaGreat.famS N L↔j∈L∨j∈famI N:=λ j=>by simp [Go.Proofs.YtkngdgplbojdlaaGreat.famS]
 refine Le.mk (Go.Proofs.YtkngdgplbojdlaaGreat.famS N L) sn [] hsz (by rw [hid]; exact hnd) (by rw [hid2]; exact hnd) ?_ (by simp) ?_ (by omega) (by simp) (λ i=>?_) ?_
 .intro p hp
  obtain ⟨j,hj,rfl⟩:=List.mem_map.1 hp;rcases List.mem_append.1 hj with h | h
  .have:=h1 j h
   exact ⟨by simp only; omega,λ _=>rfl⟩
  .have:=zgg.1 h
   exact ⟨by simp only; omega,λ _=>rfl⟩
 .intro j hj
  have:=hsn j hj;refine ⟨by omega,?_⟩
  rw [hid,List.mem_append,not_or];exact ⟨λ h=>by have:=h1 j h; omega,λ h=>by have:=zgg.1 h; omega⟩
 .unfold St.get at *
  cases hl : lkp st'.t i with
  | none=>exact .inl (.dead _)
  | some v=>exact .inl (ht _ (zb7 hl))
 .intro j e' he
  left
  by_cases hj : j∈L
  .obtain ⟨e,h2,h3⟩:=hb j hj e' he
   exact ⟨j,e,(hmem j).2 (.inl hj),h2,h3⟩
  .by_cases hr : j<1000∨1000+N<=j
   .rw [hout j hj hr] at he; cases he
   .obtain ⟨k,rfl⟩ : ∃ k,j=k+1000:=⟨j - 1000,by omega⟩
    have hk : k<N:=by omega
    rw [hst' k hk] at he
    cases he;refine ⟨k+1000,_,(hmem _).2 (.inr (zgg.2 (by omega))),hst k hk,?_⟩
    have : zay (Go.Proofs.YtkngdgplbojdlaaGreat.famS N L) sn st.hp 4 ⟨s,E k,0⟩=⟨s,E k,0⟩:=by
     simp only [zay];rw [zir _ (λ v=>by simp [conv]) _ (hE k hk)]
    rw [this];exact zaN.rfl' (Nat.zero_le _)
abbrev oH (N : Nat) (A : List Ed) (m : Nat) (f : List Int) (E : Nat->List (List AV)) : List (Nat × Option Ent) :=
 famH 2 N E++[(0,some ⟨1,zag f,0⟩),(24,some ⟨4,[[.I 0,.nilS,.nilS,.nilS]],0⟩),(64,some ⟨1,famO N E,0⟩),(80,some ⟨4,[[.I N,eEs A,.rs 0 0 m,.rs 64 0 N]],0⟩)]
theorem zej {sz n i j : Nat} {t : List (Nat × AV)} {h : List (Nat × Option Ent)} {v : Option Ent} (hij : i≠j) : (⟨sz,t,(i,v)::h,n⟩ : St).hp j=(⟨sz,t,h,n⟩ : St).hp j:=by
 rw [zte,if_neg hij]
theorem zla {sz n N m : Nat} {t : List (Nat × AV)} {A : List Ed} {f : List Int} {E : Nat->List (List AV)} {k : Nat} (h : k<N) : (⟨sz,t,oH N A m f E,n⟩ : St).hp (k+1000)=some ⟨2,E k,0⟩:=zzR h
theorem zry {sz n N m j : Nat} {t : List (Nat × AV)} {A : List Ed} {f : List Int} {E : Nat->List (List AV)} (hj : j∉[0,24,64,80]) (hr : j<1000∨1000+N<=j) : (⟨sz,t,oH N A m f E,n⟩ : St).hp j=none:=by
 have hj' : j≠0/\j≠24/\j≠64/\j≠80:=by simpa using hj
 rcases hr with hr | hr
 .rw [zmY hr]
  simp [hj'.1.symm,hj'.2.1.symm,hj'.2.2.1.symm,hj'.2.2.2.symm]
 .rw [zys hr]
  simp [hj'.1.symm,hj'.2.1.symm,hj'.2.2.1.symm,hj'.2.2.2.symm]
section
variable {sz n N m : Nat} {t : List (Nat × AV)} {A : List Ed} {f : List Int} {E : Nat->List (List AV)}
theorem oH_0 : (⟨sz,t,oH N A m f E,n⟩ : St).hp 0=some ⟨1,zag f,0⟩:=by rw [zmY (by omega)]; simp
theorem ztZ : (⟨sz,t,oH N A m f E,n⟩ : St).hp 24=some ⟨4,[[.I 0,.nilS,.nilS,.nilS]],0⟩:=by rw [zmY (by omega)]; simp
theorem zrL : (⟨sz,t,oH N A m f E,n⟩ : St).hp 64=some ⟨1,famO N E,0⟩:=by rw [zmY (by omega)]; simp
theorem zpU : (⟨sz,t,oH N A m f E,n⟩ : St).hp 80=some ⟨4,[[.I N,eEs A,.rs 0 0 m,.rs 64 0 N]],0⟩:=by rw [zmY (by omega)]; simp
end
theorem Le.oStep {N a m x y n n' : Nat} {A : List Ed} {f : List Int} {E : Nat->List (List AV)} {row : List AV} {t t' : List (Nat × AV)} {h : List (Nat × Option Ent)} (ha : a<N) (hx : 1000+N<=x) (hy : 1000+N<=y) (hxy : x≠y) (hN : N<=900) (hn' : 1000+N<=n')
  (hE : ∀ k,∀ r∈E k,∀ z∈r,∃ v,z = .sc v) (hrow : ∀ z∈row,∃ v,z = .sc v)
  (hh : h=(64,some ⟨1,(famO N E).set a [.rs x 0 ((E a).length+1)],0⟩)::(x,some ⟨2,E a++[row],0⟩)::(a+1000,none)::(y,some ⟨2,[row],0⟩)::oH N A m f E)
  (ht : ∀ p∈t',Wk (conv (famR x a N [0,24,64,80]) [] (⟨54,t,h,n⟩ : St).hp 4 ((⟨54,t,h,n⟩ : St).get p.1)) p.2) : Le 1 ⟨54,t,h,n⟩ ⟨54,t',oH N A m f (grow E a row),n'⟩:=by
 have e64 : (⟨54,t,h,n⟩ : St).hp 64=some ⟨1,(famO N E).set a [.rs x 0 ((E a).length+1)],0⟩:=by rw [hh,zte,if_pos rfl]
 have e0 : (⟨54,t,h,n⟩ : St).hp 0=some ⟨1,zag f,0⟩:=by rw [hh,zej (by omega),zej (by omega),zej (by omega),zej (by omega),oH_0]
 have e24 : (⟨54,t,h,n⟩ : St).hp 24=some ⟨4,[[.I 0,.nilS,.nilS,.nilS]],0⟩:=by rw [hh,zej (by omega),zej (by omega),zej (by omega),zej (by omega),ztZ]
 have e80 : (⟨54,t,h,n⟩ : St).hp 80=some ⟨4,[[.I N,eEs A,.rs 0 0 m,.rs 64 0 N]],0⟩:=by rw [hh,zej (by omega),zej (by omega),zej (by omega),zej (by omega),zpU]
 have l0 : lkp (famR x a N [0,24,64,80]) 0=some 0:=zht (by omega) (.inl (by simp))
 have l64 : lkp (famR x a N [0,24,64,80]) 64=some 64:=zht (by omega) (.inl (by simp))
 refine Le.fam (s:=2) (N:=N) (a:=a) (m:=x) (E:=E) (row:=row) [0,24,64,80] rfl ha (by decide) (by simp) hx hn' (by omega) (λ k _=>hE k) hrow ?_ ?_ (λ k hk=>zla hk) (λ j hj hr=>zry hj hr) ht ?_
 .intro k hk hka
  rw [hh,zej (by omega),zej (by omega),zej (by omega),zej (by omega),zla hk]
 .rw [hh,zej (by omega),zte,if_pos rfl]
 .intro j hj e' he
  simp only [List.mem_cons,List.not_mem_nil,or_false] at hj;rcases hj with rfl | rfl | rfl | rfl
  .rw [oH_0] at he
   cases he;exact ⟨_,e0,by simp only [zay]; rw [zir _ (λ v=>by simp [conv]) _ (by simp)]; exact zaN.rfl' (Nat.zero_le _)⟩
  .rw [ztZ] at he
   cases he;exact ⟨_,e24,by simp [zay]; exact zaN.rfl' (Nat.zero_le _)⟩
  .rw [zrL] at he
   cases he;refine ⟨_,e64,?_⟩;simp only [zay];rw [zv2 ha (.inr hx) rfl];exact zaN.rfl' (Nat.zero_le _)
  .rw [zpU] at he
   cases he;refine ⟨_,e80,?_⟩;simp [zay,l0,l64];exact zaN.rfl' (Nat.zero_le _)
set_option maxRecDepth 100000 in
set_option maxHeartbeats 4000000 in
theorem zuK (N : Nat) (A : List Ed) (f : List Int) (m : Nat) (hn : zbX ⟨N,A⟩) : zaj Tryz.prog zgQ [eN ⟨N,A⟩,.rs 0 0 m] [⟨1,zag f,0⟩] (.agg [.I N,eEs A,.rs 0 0 m,atV N A]) [some ⟨1,zag f,0⟩]:=by
 refine zn6.ac ?_;show awp _ 1 _ _ ⟨54,[(0,eN ⟨N,A⟩),(1,.rs 0 0 m)],[(0,some ⟨1,zag f,0⟩)],16⟩;obtain ⟨hn0,hn1,hal,hav⟩:=hn;simp only at hn0 hn1 hal hav;refine zaa ⟨54,[(1,.rs 0 0 m),(2,.pv (nC ⟨N,A⟩)),(4,.pt 24 0 0)],[(0,some ⟨1,zag f,0⟩),(24,some ⟨4,[[.I 0,.nilS,.nilS,.nilS]],0⟩)],32⟩ rfl ?_ ?_
 .simp
  exact LeI [(0,0),(24,24)] [16]
 refine zaC ⟨54,[(2,.pv (nC ⟨N,A⟩)),(4,.pt 24 0 0),(5,.pt 80 0 0)],[(0,some ⟨1,zag f,0⟩),(24,some ⟨4,[[.I 0,.nilS,.nilS,.nilS]],0⟩),(64,some ⟨1,(List.range N).map λ _=>[.nilS],0⟩),(80,some ⟨4,[[.I N,eEs A,.rs 0 0 m,.rs 64 0 N]],0⟩)],96⟩ rfl ?_ ?_
 .simp [List.map_const']
  refine ⟨by omega,by omega,rfl,?_⟩
  exact LeI [(0,0),(24,24),(64,64),(80,80)] []
 refine zab ?_;refine zaa ⟨54,[(4,.pt 24 0 0),(5,.pt 80 0 0),(15,eEs A),(16,.I A.length),(17,.I 0)],[(0,some ⟨1,zag f,0⟩),(24,some ⟨4,[[.I 0,.nilS,.nilS,.nilS]],0⟩),(64,some ⟨1,(List.range N).map λ _=>[.nilS],0⟩),(80,some ⟨4,[[.I N,eEs A,.rs 0 0 m,.rs 64 0 N]],0⟩)],128⟩ rfl ?_ ?_
 .simp
  exact Le.go [(0,0),(24,24),(64,64),(80,80)] [] rfl rfl (by simp) (by simp [fcd,List.map_const'])
 refine zaf ?_;refine zas (ι:=Nat) (λ i=>⟨54,[(4,.pt 24 0 0),(5,.pt 80 0 0),(15,eEs A),(16,.I A.length),(17,.I i)],oH N A m f (famE A i),2000⟩) (λ i=>i<=A.length) (λ i=>A.length - i) 0 (Nat.zero_le _) ?_ ?_
 .refine Le.fam0 (s:=2) (N:=N) (o:=64) [0,24,80] rfl (by omega) (by decide) (by simp) (by simp only; omega) (by simp) zrL (λ k hk=>zla hk) (λ j hj hr=>zry (by simpa [and_comm,and_left_comm,and_assoc,or_comm,or_left_comm] using hj) hr) (by simp) ?_
  intro j hj e' he;simp only [List.mem_cons,List.not_mem_nil,or_false] at hj;rcases hj with rfl | rfl | rfl
  .rw [oH_0] at he
   cases he;exact ⟨⟨1,zag f,0⟩,by simp,by simp only [zay]; rw [zir _ (λ v=>by simp [conv]) _ (by simp)]; exact zaN.rfl' (Nat.zero_le _)⟩
  .rw [ztZ] at he
   cases he;exact ⟨⟨4,[[.I 0,.nilS,.nilS,.nilS]],0⟩,by simp,by simp [zay]; exact zaN.rfl' (Nat.zero_le _)⟩
  .rw [zpU] at he
   cases he;exact ⟨⟨4,[[.I N,eEs A,.rs 0 0 m,.rs 64 0 N]],0⟩,by simp,by simp [zay]; exact zaN.rfl' (Nat.zero_le _)⟩
 intro i hi;refine zaa ⟨54,[(4,.pt 24 0 0),(5,.pt 80 0 0),(15,eEs A),(16,.I A.length),(17,.I i),(18,.B (decide (i<A.length)))],oH N A m f (famE A i),2008⟩ rfl ?_ ?_
 .simp
  exact Le.slot (by omega) (by simp)
 refine zab ?_;refine zad _ rfl (λ h5=>?_) λ h5=>?_
 .simp at h5
  have hw1 : IntKind.i64.wrap ((i : Int)+1)=(i : Int)+1:=w6;have heo:=hav _ (List.getElem_mem h5);have harc : arcD A i=A[i]:=by unfold arcD; rw [List.getD_eq_getElem?_getD,List.getElem?_eq_getElem h5,Option.getD_some]
  obtain ⟨e,he⟩ : ∃ e,e=A[i]:=⟨_,rfl⟩;rw [<- he] at heo harc;obtain ⟨q1,q2,q3,q4,q5,_⟩:=heo;obtain ⟨a,haf,haN⟩ : ∃ a : Nat,e.f=a/\a<N:=⟨e.f.toNat,by omega,by omega⟩
  obtain ⟨b,hbt,hbN⟩ : ∃ b : Nat,e.t=b/\b<N:=⟨e.t.toNat,by omega,by omega⟩
  have hab : a≠b:=λ h=>q5 (by omega)
  have hsucc:=zvh (A:=A) (i:=i) (a:=a) (b:=b) (by rw [harc]; exact haf) (by rw [harc]; exact hbt) hab
  have hEs:=zsA A i;have hEl:=λ k=>zwz A i k;obtain ⟨E,hE⟩ : ∃ E,E=famE A i:=⟨_,rfl⟩;rw [<- hE] at hsucc hEs hEl ⊢;refine zae ?_;refine zab ?_;refine zaf ?_;refine zaa ⟨54,[(4,.pt 24 0 0),(5,.pt 80 0 0),(6,.I i),(7,.pv [.I a,.I b,.I e.v]),(15,eEs A),(16,.I A.length),(17,.I i)],oH N A m f E,3000⟩ rfl ?_ ?_
  .simp [h5,<- he,haf,hbt]
   have l24 : lkp (famS N [0,24,64,80]) 24=some 24:=zjY (.inl (by simp))
   have l80 : lkp (famS N [0,24,64,80]) 80=some 80:=zjY (.inl (by simp))
   have l0 : lkp (famS N [0,24,64,80]) 0=some 0:=zjY (.inl (by simp))
   have l64 : lkp (famS N [0,24,64,80]) 64=some 64:=zjY (.inl (by simp))
   have lno : lkp (famS N [0,24,64,80]) 2032=none:=zrD (by simp) (by omega)
   refine Le.famS (s:=2) (N:=N) (E:=E) [0,24,64,80] [2032] rfl (by decide) (by simp) (by simp only; omega) (by omega) (by simp; omega) (λ k _=>hEs k) ?_ (λ k hk=>zla hk) (λ j hj hr=>zry hj hr) ?_ ?_
   .intro k hk
    rw [zej (by omega),zej (by omega),zla hk]
   .simp [l24,l80,lno]
   .intro j hj e' he'
    simp only [List.mem_cons,List.not_mem_nil,or_false] at hj;rcases hj with rfl | rfl | rfl | rfl
    .rw [oH_0] at he'
     cases he';exact ⟨_,by rw [zej (by omega),zej (by omega),oH_0],by simp only [zay]; rw [zir _ (λ v=>by simp [conv]) _ (by simp)]; exact zaN.rfl' (Nat.zero_le _)⟩
    .rw [ztZ] at he'
     cases he';exact ⟨_,by rw [zej (by omega),zej (by omega),ztZ],by simp [zay]; exact zaN.rfl' (Nat.zero_le _)⟩
    .rw [zrL] at he'
     cases he';refine ⟨_,by rw [zej (by omega),zej (by omega),zrL],?_⟩
     simp only [zay];rw [zvr];exact zaN.rfl' (Nat.zero_le _)
    .rw [zpU] at he'
     cases he';exact ⟨_,by rw [zej (by omega),zej (by omega),zpU],by simp [zay,l0,l64]; exact zaN.rfl' (Nat.zero_le _)⟩
  refine zaC ⟨54,[(4,.pt 24 0 0),(5,.pt 80 0 0),(6,.I i),(7,.pv [.I a,.I b,.I e.v]),(15,eEs A),(16,.I A.length),(17,.I i)],oH N A m f (grow E a (zcy (i,false))),4000⟩ rfl ?_ ?_
  .have hl:=hEl a
   have hne : ¬ a=2096:=by omega
   simp [zpU,zrL,zla haN,haN,zj9 haN,zjP,famV,hne];refine ⟨by omega,by omega,rfl,?_⟩
   have l24 : lkp (famR 3104 a N [0,24,64,80]) 24=some 24:=zht (by omega) (.inl (by simp))
   have l80 : lkp (famR 3104 a N [0,24,64,80]) 80=some 80:=zht (by omega) (.inl (by simp))
   refine Le.oStep (x:=3104) (y:=3096) haN (by omega) (by omega) (by omega) (by omega) (by omega) hEs (zmt _) ?_ ?_
   .simp
   .simp [l24,l80]
  have hEs1:=zwr (a:=a) hEs (zmt (i,false))
  have hEl1 : (grow E a (zcy (i,false)) b).length<=2*i:=by
   have:=hEl b;simp only [grow,if_neg hab.symm];exact this
  obtain ⟨E1,hE1⟩ : ∃ E1,E1=grow E a (zcy (i,false)):=⟨_,rfl⟩;rw [<- hE1] at hEs1 hEl1 hsucc ⊢;refine zcP rfl ?_;have hne : ¬ b=3096:=by omega
  simp [zpU,zrL,zla hbN,hbN,zj9 hbN,zjP,famV,hne];refine ⟨by omega,by omega,rfl,?_⟩
  refine zav rfl ?_;simp;have l24 : lkp (famR 4104 b N [0,24,64,80]) 24=some 24:=zht (by omega) (.inl (by simp))
  have l80 : lkp (famR 4104 b N [0,24,64,80]) 80=some 80:=zht (by omega) (.inl (by simp))
  refine ⟨i+1,by omega,by omega,?_⟩
  rw [hsucc];refine Le.oStep (x:=4104) (y:=4096) hbN (by omega) (by omega) (by omega) (by omega) (by omega) hEs1 (zmt _) ?_ ?_
  .simp
  .simp [l24,l80,hw1]
 simp at h5;obtain rfl : i=A.length:=by omega
 refine zaq ?_;refine hit ?_;refine zaa ⟨54,[(4,.pt 24 0 0)],[(0,some ⟨1,zag f,0⟩),(24,some ⟨4,[[.I N,eEs A,.rs 0 0 m,atV N A]],0⟩)],5000⟩ rfl ?_ ?_
 .simp [zpU,ztZ]
  have hcv : ∀ {h : Nat->Option Ent},h 64=some ⟨1,famO N (famE A A.length),0⟩->(∀ k<N,h (k+1000)=some ⟨2,famE A A.length k,0⟩)->conv [(0,0),(24,24)] (64::famI N) h 4 (.rs 64 0 N)=atV N A:=λ h1 h2 =>
   zw4 (λ k _=>zsA A A.length k) (by simp) (by simp) (λ k hk=>by simp [zgg]; omega) h1 h2
  refine Le.famOut (N:=N) (o:=64) (L:=[0,24]) rfl (by decide) (by simp) (by simp) (by simp) (by omega) (by omega) ?_ ?_ ?_
  .intro j hj
   have hj' : j≠0/\j≠24:=by simpa using hj
   simp [hj'.1.symm,hj'.2.symm]
  .simp
  .intro j hj e' he'
   simp only [List.mem_cons,List.not_mem_nil,or_false] at hj;rcases hj with rfl | rfl
   .simp at he'
    subst he';refine ⟨_,by rw [zej (by omega),oH_0],?_⟩
    simp only [zay];rw [zir _ (λ v=>by simp [conv]) _ (by simp)]
    exact zaN.rfl' (Nat.zero_le _)
   .simp at he'
    subst he';refine ⟨_,by rw [zte,if_pos rfl],?_⟩
    refine zaN.eq ?_ (Nat.zero_le _);simp only [zay,List.map_cons,List.map_nil];rw [hcv (by rw [zej (by omega),zrL]) (λ k hk=>by rw [zej (by omega),zla hk])]
    simp
 refine zai ?_;exact ⟨.inr rfl,zao.k1 rfl (by simp) (by simp [fcd])⟩
abbrev rC (N : Nat) (A : List Ed) (f : AV) : List AV:=[.I N,eEs A,f,atV N A]
abbrev eR (N : Nat) (A : List Ed) (f : AV) : AV:=.agg (rC N A f)
theorem zqk {A : List Ed} {i : Nat} (h : i<A.length) : A[i]? = some (arcD A i):=by
 unfold arcD;rw [List.getD_eq_getElem?_getD,List.getElem?_eq_getElem h,Option.getD_some]
set_option maxRecDepth 100000 in
theorem zvY (N : Nat) (A : List Ed) (f : List Int) (s : Stp) (hn : zbX ⟨N,A⟩) (hf : Fit2 A f) (hs : s.1<A.length) : zaj Tryz.prog zci [eR N A (ints f),.agg (zcy s)] [] (.tup [.I (zca A f s),.I (stT A s)]) []:=by
 refine zfV.ac ?_;show awp _ 0 _ _ ⟨35,[(0,eR N A (ints f)),(1,.agg (zcy s))],[],16⟩;obtain ⟨i,c⟩:=s;simp only at hs;obtain ⟨hfl,hfa⟩:=zeB.1 hf;have hA:=zqk hs;have hi:=hfa i hs;have hav:=hn.2.2.2 _ (zfz hs);have hif : i<f.length:=by omega
 obtain ⟨e,he⟩ : ∃ e,e=arcD A i:=⟨_,rfl⟩;obtain ⟨w,hw⟩ : ∃ w,w=f.getD i 0:=⟨_,rfl⟩;have hg : f[i]? = some w:=by rw [hw,List.getD_eq_getElem?_getD,List.getElem?_eq_getElem hif,Option.getD_some]
 have hge : A[i]=e:=by rw [List.getElem?_eq_getElem hs,<- he] at hA; exact Option.some.inj hA
 have hgf : f[i]=w:=by rw [List.getElem?_eq_getElem hif] at hg; exact Option.some.inj hg
 rw [<- he] at hav;rw [<- hw,<- he] at hi;obtain ⟨_,_,_,_,_,_,_,h8,h9⟩:=hav;have hwr : IntKind.i64.wrap (e.v - w)=e.v - w:=w6;refine zaa ⟨35,[(2,.pv (rC N A (ints f))),(3,.pv [.I i,.B c])],[],48⟩ rfl ?_ ?_
 .simp
  exact LeH [] [16,24]
 refine zaa ⟨35,[(2,.pv (rC N A (ints f))),(3,.pv [.I i,.B c]),(6,.pv (eC e))],[],200⟩ rfl ?_ ?_
 .simp [hs,hge]
  exact LeH [] [104]
 refine zab ?_;refine rs [2,3,6,15] [] [] ?_;refine zad _ rfl (λ h4=>?_) λ h4=>?_
 .have hc : c=true:=h4
  subst hc;have h1 : zca A f (i,true)=w:=by unfold zca; simp [hw]
  have h2 : stT A (i,true)=e.f:=by unfold stT; simp [he]
  rw [h1,h2];refine zaC ⟨35,[(4,.I w),(5,.I e.f)],[],400⟩ rfl ?_ ?_
  .simp [hif,hgf]
   exact ⟨rfl,LeH [] []⟩
  refine zai ?_;exact ⟨.inr rfl,zao.out [] [] rfl (by simp) (by simp) (by simp) (by simp)⟩
 have hc : c=false:=h4;subst hc;have h1 : zca A f (i,false)=e.v - w:=by unfold zca; simp [hw,he]
 have h2 : stT A (i,false)=e.t:=by unfold stT; simp [he]
 rw [h1,h2];refine zae ?_;refine zaC ⟨35,[(4,.I (e.v - w)),(5,.I e.t)],[],400⟩ rfl ?_ ?_
 .simp [hif,hgf,hwr]
  exact ⟨rfl,LeH [] []⟩
 refine zai ?_;exact ⟨.inr rfl,zao.out [] [] rfl (by simp) (by simp) (by simp) (by simp)⟩
theorem zms : ∀ {l : List (Int × AV)} {q : Int × AV},(l.map (·.1)).Nodup->q∈l->zfh q.1 (ziW l)=some q.2
 | (k,x)::l,q,hn,h=>by
   rw [List.map_cons,List.nodup_cons] at hn;rw [zjx,List.find?_cons];rcases List.mem_cons.1 h with rfl | h
   .simp
   .have hne : ¬ k=q.1:=λ e=>hn.1 (e ▸ List.mem_map.2 ⟨q,h,rfl⟩)
    have ih:=zms hn.2 h;rw [zjx] at ih
    simpa [hne] using ih
structure MapF (rows : List (List AV)) (φ : Int->Option AV) : Prop where
 is : MapR rows φ
 flat : ∀ n x,φ n=some x -> ∃ u v,x = .agg [.sc u,.sc v]
theorem MapF.mem {rows : List (List AV)} {φ : Int->Option AV} (h : MapF rows φ) {r : List AV} (hr : r∈rows) : ∃ k u v,r=[.sc k,.agg [.sc u,.sc v]]:=by
 obtain ⟨⟨l,rfl,hn,hf⟩,hfl⟩:=h;obtain ⟨q,hq,rfl⟩:=List.mem_map.1 hr;obtain ⟨u,v,e⟩:=hfl q.1 q.2 (by rw [<- hf]; exact zms hn hq)
 exact ⟨_,u,v,by rw [e]⟩
theorem MapF.conv {rows : List (List AV)} {φ : Int->Option AV} (h : MapF rows φ) (ρ : List (Nat × Nat)) (sn : List Nat) (g : Nat->Option Ent) : rows.map (·.map (conv ρ sn g 4))=rows:=by
 conv=>rhs; rw [<- List.map_id rows]
 refine List.map_congr_left λ r hr=>?_;obtain ⟨k,u,v,rfl⟩:=h.mem hr;simp
theorem MapF.conv' {rows : List (List AV)} {φ : Int->Option AV} (h : MapF rows φ) (ρ : List (Nat × Nat)) (sn : List Nat) (g : Nat->Option Ent) : rows.map (List.map (Go.Proofs.YtkngdgplbojdlaaGreat.conv ρ sn g 4))=rows:=h.conv ρ sn g
theorem MapF.plain {rows : List (List AV)} {φ : Int->Option AV} (h : MapF rows φ) (s ro : Nat) : zi5 ⟨s,rows,ro⟩:=by
 intro r hr x hx;obtain ⟨k,u,v,rfl⟩:=h.mem hr;simp only [List.mem_cons,List.not_mem_nil,or_false] at hx;rcases hx with rfl | rfl
 .exact .sc _
 .refine .agg _ λ i=>?_
  match i with
  | 0=>exact .sc _
  | 1=>exact .sc _
  | i+2=>exact .dead
theorem zh4 (D b : List Int) (n : Int) (x : AV) (h : camF D b n=some x) : ∃ u v,x = .agg [.sc u,.sc v]:=by
 unfold camF at h;split at h
 .split at h
  .cases h; exact ⟨_,_,rfl⟩
  .cases h; exact ⟨_,_,rfl⟩
 .cases h
theorem MapF.set {rows : List (List AV)} {D b D' b' : List Int} (h : MapF rows (camF D b)) (n : Int) (y : AV) (he : camF D' b'=λ k=>if k=n then some y else camF D b k) : MapF (mset n y rows) (camF D' b') :=
 ⟨by rw [he]; exact h.is.set n y,zh4 D' b'⟩
theorem znI {N : Nat} {A : List Ed} (hn : zbX ⟨N,A⟩) {s : Stp} (hs : s.1<A.length) : 0<=stT A s/\stT A s<N:=by
 have : zmb N (arcD A s.1):=hn.2.2.2 _ (zfz hs);obtain ⟨q1,q2,q3,q4,_⟩:=this;unfold stT;split <;> omega
structure SSt where
 s : BSt
 R : List (List AV)
 m : Nat
 i : Nat
def zmE (A : List Ed) (f D : List Int) (l : List Stp) : Prop:=∀ s∈l,0<zca A f s->stT A s∈D
theorem zmE.nil {A : List Ed} {f D : List Int} : zmE A f D []:=λ s h=>by simp at h
set_option maxRecDepth 100000 in
set_option maxHeartbeats 4000000 in
theorem ztd (N : Nat) (A : List Ed) (f : List Int) (hn : zbX ⟨N,A⟩) (hf : Fit2 A f) :
  ∃ x : List Int × List Int × List (List AV),(Bfs N A f x.1 x.2.1/\zgA A f x.1/\MapF x.2.2 (camF x.1 x.2.1))/\zaj Tryz.prog zbR [eR N A (ints f)] [] (.mp 0) [some ⟨0,x.2.2,0⟩]:=by
 refine zfc.acallsX (args:=[eR N A (ints f)]) (hs:=[]) (λ x=>.mp 0) (λ x=>[some ⟨0,x.2.2,0⟩]) (λ x : List Int × List Int × List (List AV)=>Bfs N A f x.1 x.2.1/\zgA A f x.1/\MapF x.2.2 (camF x.1 x.2.1)) (nbz rfl) (nbz rfl) (λ _=>by simp) ?_
 show awp _ 0 _ _ ⟨59,[(0,eR N A (ints f))],[],16⟩;have hroom:=λ s hs=>zvY N A f s hn hf hs;have hrng:=λ (s : Stp) (hs : s.1<A.length)=>znI hn hs;obtain ⟨hn0,hn1,hal,hav⟩:=hn;simp only at hn0 hn1 hal hav;have hR0 : MapF ([[.I 0,.agg [.I (-1),.B false]]]) (camF [0] (List.replicate N 0)):=⟨by rw [ztT]; exact MapR.nil.set 0 (.agg [.I (-1),.B false]),zh4 _ _⟩
 refine zaa ⟨59,[(1,.pv (rC N A (ints f)))],[],32⟩ rfl ?_ ?_
 .simp
  exact LeH [] [16]
 refine zaa ⟨59,[(1,.pv (rC N A (ints f))),(3,.mp 32)],[(32,some ⟨0,[[.I 0,.agg [.I (-1),.B false]]],0⟩)],72⟩ rfl ?_ ?_
 .simp [mset]
  exact LeH [(32,32)] []
 obtain ⟨R0,hR0d⟩ : ∃ R0 : List (List AV),R0=[[.I 0,.agg [.I (-1),.B false]]]:=⟨_,rfl⟩;rw [<- hR0d] at hR0 ⊢;refine zab ?_;refine zaa ⟨59,[(1,.pv (rC N A (ints f))),(3,.mp 32),(4,.rs 72 0 1)],[(32,some ⟨0,R0,0⟩),(72,some ⟨1,zag [0],0⟩)],88⟩ rfl ?_ ?_
 .simp
  exact Le.go [(32,32),(72,72)] [] rfl rfl (by simp) (by simp [hR0.conv'])
 refine zaf ?_
 refine zas (ι:=SSt) (λ t=>⟨59,[(1,.pv (rC N A (ints f))),(3,.mp 32),(4,.rs 72 t.s.off t.s.q)],[(32,some ⟨0,t.R,0⟩),(72,some ⟨1,zag t.s.Z,0⟩)],88⟩)
  (λ t=>BInv N A f t.s t.m/\zhd A f t.s.D t.m/\MapF t.R (camF t.s.D t.s.b)) (λ t=>N - t.m) ⟨⟨[0],List.replicate N 0,[0],0,1⟩,R0,0,0⟩
  ⟨⟨Bfs.start (by omega),rfl,rfl,rfl⟩,λ s _ h=>by simp at h,hR0⟩ (Le.go [(32,32),(72,72)] [] rfl rfl (by simp) (by simp [hR0.conv'])) ?_
 rintro ⟨s,R,m,_⟩ ⟨hb,hcl,hR⟩
 simp only at hb hcl hR;have hfew:=hb.bfs.few;have hbd:=hb.d;have hbz:=hb.z;refine zab ?_;refine zaa ⟨59,[(1,.pv (rC N A (ints f))),(3,.mp 32),(4,.rs 72 s.off s.q),(17,.B (decide (0<s.q)))],[(32,some ⟨0,R,0⟩),(72,some ⟨1,zag s.Z,0⟩)],112⟩ rfl ?_ ?_
 .simp
  exact Le.go [(32,32),(72,72)] [] rfl rfl (by simp) (by simp [hR.conv',fcd])
 refine zad _ rfl (λ h5=>?_) λ h5=>?_
 .simp at h5
  obtain ⟨hmD,hk⟩:=hb.head h5;have hoff : s.off<s.Z.length:=by omega
  obtain ⟨k,hkd⟩ : ∃ k,k=s.D[m]:=⟨_,rfl⟩;rw [<- hkd] at hk;have hkD : k∈s.D:=hkd ▸ List.getElem_mem hmD;have hkr:=hb.bfs.rng k hkD;obtain ⟨kn,hkn,hknN⟩ : ∃ kn : Nat,k=kn/\kn<N:=⟨k.toNat,by omega,by omega⟩
  obtain ⟨L,hL⟩ : ∃ L,L=zj7 A A.length kn:=⟨_,rfl⟩;have hLm : ∀ st : Stp,st∈L↔st.1<A.length/\stF A st=k:=λ st=>by rw [hL,hkn]; exact zoa
  have hLl : L.length<=2*A.length:=by rw [hL]; exact zkD A kn A.length
  have hfe : famE A A.length kn=L.map zcy:=by rw [hL]; rfl
  refine zae ?_;refine zab ?_;refine zaf ?_;refine zaC ⟨59,[(1,.pv (rC N A (ints f))),(3,.mp 32),(4,.rs 72 s.off s.q),(26,.vs 2 false (L.map zcy)),(27,.I L.length),(28,.I 0)],[(32,some ⟨0,R,0⟩),(72,some ⟨1,zag s.Z,0⟩)],184⟩ rfl ?_ ?_
  .simp [hk,h5,hkn,hknN,hfe]
   exact ⟨rfl,Le.go [(32,32),(72,72)] [] rfl rfl (by simp [hfe]) (by simp [hR.conv',fcd])⟩
  refine zaf ?_
  refine zas (ι:=SSt) (λ t=>⟨59,[(1,.pv (rC N A (ints f))),(3,.mp 32),(4,.rs 72 t.s.off t.s.q),(26,.vs 2 false (L.map zcy)),(27,.I L.length),(28,.I t.i)],[(32,some ⟨0,t.R,0⟩),(72,some ⟨1,zag t.s.Z,0⟩)],184⟩)
   (λ t=>BInv N A f t.s m/\MapF t.R (camF t.s.D t.s.b)/\t.i<=L.length/\zmE A f t.s.D (L.take t.i) /\ ∃ l,t.s.D=s.D++l) (λ t=>L.length - t.i) ⟨s,R,m,0⟩
   ⟨hb,hR,Nat.zero_le _,by rw [List.take_zero]; exact zmE.nil,[],by simp⟩ (Le.go [(32,32),(72,72)] [] rfl rfl (by simp) (by simp [hR.conv',fcd])) ?_
  rintro ⟨t,R,_,i⟩ ⟨ht,hR,hi,htc,l,htl⟩
  simp only at ht hR hi htc htl;have htz:=ht.z;have htd:=ht.d;have htf:=ht.bfs.few;refine zaa ⟨59,[(1,.pv (rC N A (ints f))),(3,.mp 32),(4,.rs 72 t.off t.q),(26,.vs 2 false (L.map zcy)),(27,.I L.length),(28,.I i),(29,.B (decide (i<L.length)))],[(32,some ⟨0,R,0⟩),(72,some ⟨1,zag t.Z,0⟩)],192⟩ rfl ?_ ?_
  .simp
   exact Le.go [(32,32),(72,72)] [] rfl rfl (by simp) (by simp [hR.conv',fcd])
  refine zab ?_;refine zad _ rfl (λ h8=>?_) λ h8=>?_
  .simp at h8
   have hw : IntKind.i64.wrap ((i : Int)+1)=(i : Int)+1:=w6;obtain ⟨st,hst⟩ : ∃ st,st=L[i]:=⟨_,rfl⟩;obtain ⟨hs1,hs2⟩:=(hLm st).1 (hst ▸ List.getElem_mem h8);have hrm:=hroom st hs1;obtain ⟨hr1,hr2⟩:=hrng st hs1;have hpush:=λ (h1 : 0<zca A f st) (h2 : stT A st∉t.D)=>ht.bfs.push (s:=st) hs1 (by rw [hs2,htl]; exact List.mem_append_left _ hkD) h1 h2 hr1 hr2
   have hcam:=λ (h2 : stT A st∉t.D)=>zvx ht.bfs h2 hr1 hr2;have hsome:=zjC t.D t.b (stT A st);have hfind:=hR.is.find (stT A st)
   have htake : ∀ D',(∃ l,D'=t.D++l)->stT A st∈D'∨¬ 0<zca A f st->zmE A f D' (L.take (i+1)):=λ D' hD' h s' hs' hr=>by
    rw [List.take_succ_eq_append_getElem h8,<- hst] at hs';obtain ⟨l',rfl⟩:=hD';rcases List.mem_append.1 hs' with h' | h'
    .exact List.mem_append_left _ (htc s' h' hr)
    .rw [List.mem_singleton] at h'
     subst h';exact h.resolve_right λ hn=>hn hr
   obtain ⟨T,hT⟩ : ∃ T,T=stT A st:=⟨_,rfl⟩;obtain ⟨rm,hrmd⟩ : ∃ rm,rm=zca A f st:=⟨_,rfl⟩;rw [<- hT,<- hrmd] at hrm hpush htake;rw [<- hT] at hcam hsome hfind;refine zae ?_;refine zab ?_;refine zaf ?_;refine zaa ⟨59,[(1,.pv (rC N A (ints f))),(3,.mp 32),(4,.rs 72 t.off t.q),(6,.pv (zcy st)),(26,.vs 2 false (L.map zcy)),(27,.I L.length),(28,.I i)],[(32,some ⟨0,R,0⟩),(72,some ⟨1,zag t.Z,0⟩)],232⟩ rfl ?_ ?_
   .simp [h8,<- hst]
    exact Le.go [(32,32),(72,72)] [208] rfl rfl (by simp) (by simp [hR.conv',fcd])
   refine zaa ⟨59,[(1,.pv (rC N A (ints f))),(3,.mp 32),(4,.rs 72 t.off t.q),(6,.pv (zcy st)),(7,.I rm),(8,.I T),(26,.vs 2 false (L.map zcy)),(27,.I L.length),(28,.I i)],[(32,some ⟨0,R,0⟩),(72,some ⟨1,zag t.Z,0⟩)],300⟩ rfl ?_ ?_
   .simp
    refine zap hrm (by simp) ?_
    simp;exact Le.go [(32,32),(72,72)] [] rfl rfl (by simp) (by simp [hR.conv',fcd])
   refine zaa ⟨59,[(1,.pv (rC N A (ints f))),(3,.mp 32),(4,.rs 72 t.off t.q),(6,.pv (zcy st)),(7,.I rm),(8,.I T),(10,.B (decide (T∈t.D))),(26,.vs 2 false (L.map zcy)),(27,.I L.length),(28,.I i)],[(32,some ⟨0,R,0⟩),(72,some ⟨1,zag t.Z,0⟩)],400⟩ rfl ?_ ?_
   .have hgd : ∃ u v,(camF t.D t.b T).getD (toAV (Value.agg #[Value.int IntKind.i64 0,Value.bool false])) = .agg [.sc u,.sc v]:=by
     cases hc : camF t.D t.b T with
     | none=>exact ⟨.int .i64 0,.bool false,by simp [toAV,Value.oneCell']⟩
     | some x =>
       obtain ⟨u,v,rfl⟩:=zh4 _ _ _ _ hc;exact ⟨u,v,rfl⟩
    obtain ⟨u,v,huv⟩:=hgd;simp [hfind,hsome,huv];exact Le.go [(32,32),(72,72)] [] rfl rfl (by simp) (by simp [hR.conv',fcd])
   refine zaa ⟨59,[(1,.pv (rC N A (ints f))),(3,.mp 32),(4,.rs 72 t.off t.q),(6,.pv (zcy st)),(8,.I T),(26,.vs 2 false (L.map zcy)),(27,.I L.length),(28,.I i),(49,.B (decide (0<rm/\T∉t.D)))],[(32,some ⟨0,R,0⟩),(72,some ⟨1,zag t.Z,0⟩)],500⟩ rfl ?_ ?_
   .simp
    refine zem (λ hb=>?_) (λ hb=>?_) <;> (try rw [hb]) <;> (try simp at hb) <;> simp [hb]
    .exact Le.go [(32,32),(72,72)] [] rfl rfl (by simp [hb]) (by simp [hR.conv',fcd])
    .exact Le.go [(32,32),(72,72)] [] rfl rfl (by simp [hb]) (by simp [hR.conv',fcd])
   refine zad _ rfl (λ h13=>?_) λ h13=>?_
   .rw [decide_eq_true_eq] at h13
    have hbu:=hpush h13.1 h13.2;have hRu:=hR.set T (ztS st) (hcam h13.2);have hmore:=ht.more hbu;have hfw:=hbu.few;rw [List.length_append,List.length_singleton] at hfw;have hbt : ∀ g : Int->List AV,List.take t.q (List.drop t.off (List.map g t.Z))=List.map g (t.Z.drop t.off):=λ g=>by rw [<- List.map_drop,List.take_of_length_le (by simp; omega)]
    obtain ⟨R',hR'⟩ : ∃ R',R'=mset T (ztS st) R:=⟨_,rfl⟩;rw [<- hR'] at hRu;refine zaa ⟨59,[(1,.pv (rC N A (ints f))),(3,.mp 32),(4,.rs 72 t.off t.q),(8,.I T),(26,.vs 2 false (L.map zcy)),(27,.I L.length),(28,.I i)],[(32,some ⟨0,R',0⟩),(72,some ⟨1,zag t.Z,0⟩)],600⟩ rfl ?_ ?_
    .simp
     rw [show mset T (.agg [.I st.1,.B st.2]) R=R' from hR'.symm]
     exact Le.go [(32,32),(72,72)] [] rfl rfl (by simp) (by simp [hRu.conv',fcd])
    refine zav rfl ?_;simp [hbt];refine ⟨by omega,by omega,by omega,?_⟩
    refine zav rfl ?_;simp;refine ⟨⟨⟨t.D++[T],t.b.set T.toNat (encS st),t.Z.drop t.off++[T],0,t.q+1⟩,R',m,i+1⟩,⟨hmore,hRu,h8,htake _ ⟨[T],rfl⟩ (.inl (by simp)),l++[T],by simp only [htl,List.append_assoc]⟩,by simp only; omega,?_⟩
    exact Le.go [(32,32),(624,72)] [] rfl rfl (by simp [hw]) (by simp [hRu.conv',fcd])
   .rw [decide_eq_false_iff_not] at h13
    refine zae ?_;refine zav rfl ?_;simp;refine ⟨⟨t,R,m,i+1⟩,⟨ht,hR,h8,htake _ ⟨[],by simp⟩ ?_,l,htl⟩,by simp only; omega,Le.go [(32,32),(72,72)] [] rfl rfl (by simp [hw]) (by simp [hR.conv',fcd])⟩
    by_cases h : 0<rm
    .exact .inl (Decidable.byContradiction λ hn=>h13 ⟨h,hn⟩)
    .exact .inr h
  simp at h8;obtain rfl : i=L.length:=by omega
  refine zaq ?_;refine hit ?_;have hlen : t.D.length=s.D.length+l.length:=by rw [htl,List.length_append]
  have hq : 0<t.q:=by omega
  have htc' : zhw A f t.D s.D[m] A.length:=λ st h1 h2 h3=>by
   refine htc st ?_ h3;rw [List.take_length];exact (hLm st).2 ⟨h1,by rw [hkd]; exact h2⟩
  refine zav rfl ?_;simp;refine zyJ 1 (i:=72) rfl rfl hq ?_;simp;exact ⟨⟨{ t with off:=t.off+1,q:=t.q - 1 },R,m+1,0⟩,⟨ht.pop hq,zhd.next hmD hcl htc' htl,hR⟩,by simp only; omega,Le.go [(32,32),(72,72)] [] rfl rfl (by simp) (by simp [hR.conv',fcd])⟩
 simp at h5;have hmD : m=s.D.length:=by omega
 refine zaq ?_;refine hit ?_;refine zaa ⟨59,[(2,.mp 32)],[(32,some ⟨0,R,0⟩)],200⟩ rfl ?_ ?_
 .simp
  exact Le.go [(32,32)] [] rfl rfl (by simp) (by simp [hR.conv'])
 refine zai ?_;exact zm0.mk (.inr rfl) (s.D,s.b,R) ⟨hb.bfs,by rw [hmD] at hcl; exact hcl.all,hR⟩ (zao.out [32] [] rfl (by simp) (by simp) (by simp) (by simp [hR.conv']))
theorem ztc : toAV (Value.agg #[Value.int IntKind.i64 0,Value.bool false]) = .agg [.sc (.int .i64 0),.sc (.bool false)]:=by simp [toAV,Value.oneCell']
theorem zzi {a b : Int} : Plain (.tup [.I a,.I b]):=.tup _ λ i=>match i with
 | 0=>.sc _
 | 1=>.sc _
 | _+2=>.dead
structure zAh where
 j : Nat
 v : Int
def wayB (l : List Stp) (j : Nat) : List Stp:=(l.drop j).reverse
theorem zs7 (l : List Stp) (j : Nat) : (wayB l j).length=l.length - j:=by simp [wayB]
theorem zuz {l : List Stp} {j : Nat} (h : j<l.length) : wayB l j=wayB l (j+1)++[l[j]]:=by
 unfold wayB;rw [List.drop_eq_getElem_cons h,List.reverse_cons]
theorem zwv (l : List Stp) : wayB l l.length=[]:=by simp [wayB]
theorem zt1 {N : Nat} {A : List Ed} {f D b : List Int} {l : List Stp} (hb : Bfs N A f D b) (hl : zn5 N A f b l) {j : Nat} (hj : j<l.length) : camF D b (stT A l[j])=some (ztS l[j]):=by
 obtain ⟨q1,q2,q3,q4,q5,q6⟩:=hl.at_ j hj;have hD : stT A l[j]∈D:=Decidable.byContradiction λ h=>zxs l[j] (by rw [<- q6]; exact hb.out _ q4 h)
 unfold camF;rw [if_pos hD,if_neg q3,q6,zr5]
set_option maxRecDepth 100000 in
set_option maxHeartbeats 8000000 in
theorem zAp (N : Nat) (A : List Ed) (f : List Int) (hn : zbX ⟨N,A⟩) (hf : zaJ N A f) :
  ∃ x : Bool × List Int,(if x.1 then zaJ N A x.2/\valF A f+1<=valF A x.2 else x.2=f /\ ∀ f',zaJ N A f'->valF A f'<=valF A f)/\zaj Tryz.prog zcV [eR N A (.rs 0 0 A.length)] [⟨1,zag f,0⟩] (.B x.1) [some ⟨1,zag x.2,0⟩]:=by
 refine zfS.acallsX (args:=[eR N A (.rs 0 0 A.length)]) (hs:=[⟨1,zag f,0⟩]) (λ x=>.B x.1) (λ x=>[some ⟨1,zag x.2,0⟩]) (λ x : Bool × List Int=>if x.1 then zaJ N A x.2/\valF A f+1<=valF A x.2 else x.2=f /\ ∀ f',zaJ N A f'->valF A f'<=valF A f) (nbz rfl) (nbz rfl) (λ _=>by simp) ?_
 show awp _ 1 _ _ ⟨86,[(0,eR N A (.rs 0 0 A.length))],[(0,some ⟨1,zag f,0⟩)],16⟩;have hno:=zgx hn;have hfl:=hf.fit.len;have hfit:=zeB.1 hf.fit;obtain ⟨⟨D,b,R⟩,⟨hb,hcl,hR⟩,hcall⟩:=ztd N A f hn hf.fit;simp only at hb hcl hR hcall;have hroom:=λ s hs=>zvY N A f s hn hf.fit hs;obtain ⟨hn0,hn1,hal,hav⟩:=hn;simp only at hn0 hn1 hal hav;have htake : ∀ g : Int->List AV,List.take A.length (List.map g f)=List.map g f:=λ g=>List.take_of_length_le (by simp; omega)
 have hfind:=hR.is.find;have hsome:=zjC D b 1;refine zaa ⟨86,[(1,.pt 16 0 0)],[(0,some ⟨1,zag f,0⟩),(16,some ⟨4,[rC N A (.rs 0 0 A.length)],0⟩)],32⟩ rfl ?_ ?_
 .simp
  exact LeI [(0,0),(16,16)] []
 refine zaa ⟨86,[(1,.pt 16 0 0),(3,.mp 60)],[(0,some ⟨1,zag f,0⟩),(16,some ⟨4,[rC N A (.rs 0 0 A.length)],0⟩),(60,some ⟨0,R,0⟩)],100⟩ rfl ?_ ?_
 .simp
  refine zm4 [0] hcall (by simp [fcd,htake,hfl]) (.mp _) (hR.plain _ _) ?_
  simp;exact Le.go [(0,0),(16,16),(40,60)] [] rfl rfl (by simp) (by simp [fcd,hR.conv'])
 refine zab ?_
 have hgd : ∃ u v,(camF D b 1).getD (toAV (Value.agg #[Value.int IntKind.i64 0,Value.bool false])) = .agg [.sc u,.sc v]:=by
  cases hc : camF D b 1 with
  | none=>exact ⟨_,_,ztc⟩
  | some x =>
    obtain ⟨u,v,rfl⟩:=zh4 _ _ _ _ hc;exact ⟨u,v,rfl⟩
 refine zaa ⟨86,[(1,.pt 16 0 0),(3,.mp 60),(5,.B (decide ((1 : Int)∈D)))],[(0,some ⟨1,zag f,0⟩),(16,some ⟨4,[rC N A (.rs 0 0 A.length)],0⟩),(60,some ⟨0,R,0⟩)],200⟩ rfl ?_ ?_
 .obtain ⟨u,v,huv⟩:=hgd
  simp [hfind,hsome,huv];exact Le.go [(0,0),(16,16),(60,60)] [] rfl rfl (by simp) (by simp [fcd,hR.conv'])
 refine zaa ⟨86,[(1,.pt 16 0 0),(3,.mp 60),(22,.B (!decide ((1 : Int)∈D)))],[(0,some ⟨1,zag f,0⟩),(16,some ⟨4,[rC N A (.rs 0 0 A.length)],0⟩),(60,some ⟨0,R,0⟩)],300⟩ rfl ?_ ?_
 .simp
  exact Le.go [(0,0),(16,16),(60,60)] [] rfl rfl (by simp) (by simp [fcd,hR.conv'])
 refine zad _ rfl (λ h5=>?_) λ h5=>?_
 .have h1D : (1 : Int)∉D:=by simpa using h5
  refine zaa ⟨86,[(2,.B false)],[(0,some ⟨1,zag f,0⟩)],400⟩ rfl ?_ ?_
  .simp
   exact LeI [(0,0)] []
  refine zai ?_;exact zm0.mk (.inr rfl) (false,f) ⟨rfl,(ziF hno hf hb.mem0 h1D hcl).2⟩ (zao.k1 rfl (by simp) (by simp [fcd]))
 have h1D : (1 : Int)∈D:=by simpa using h5
 obtain ⟨l,hl⟩:=hb.chain h1D;have hle:=zro hl.way
 have hlr : ∀ s∈l,s.1<f.length:=λ s hs=>by
  obtain ⟨i,hi,rfl⟩:=List.mem_iff_getElem.1 hs;have:=(hl.at_ i hi).1;omega
 have hl0 : 0<l.length:=by
  cases hll : l with
  | nil=>rw [hll] at hle; cases hle
  | cons=>simp
 have hlA : l.length<=A.length:=by
  have:=zbm (a:=l.map λ s=>(s.1 : Int)) (b:=(List.range A.length).map λ i : Nat=>(i : Int)) (by
   have:=hl.nodup;have e : (l.map λ s=>(s.1 : Int))=(l.map (·.1)).map λ i : Nat=>(i : Int):=by simp
   rw [e]
   exact zfI (λ i j h=>by have h2 : (i : Int)=j:=h; omega) this) λ x hx=>by
   obtain ⟨s,hs,rfl⟩:=List.mem_map.1 hx;exact List.mem_map.2 ⟨s.1,List.mem_range.2 (by have:=hlr s hs; omega),rfl⟩
  rw [List.length_map,List.length_map,List.length_range] at this;exact this
 have hcam:=λ j (hj : j<l.length)=>zt1 hb hl hj;refine zae ?_;refine zaa ⟨86,[(1,.pt 16 0 0),(3,.mp 60),(6,.rs 61 0 0)],[(0,some ⟨1,zag f,0⟩),(16,some ⟨4,[rC N A (.rs 0 0 A.length)],0⟩),(60,some ⟨0,R,0⟩),(61,some ⟨2,[],0⟩)],400⟩ rfl ?_ ?_
 .simp
  refine Le.lst [(0,0),(16,16),(60,60)] [] [(61,2)] rfl (by simp) (by simp) (by simp) (by simp) (by simp) (by simp) (by simp) (by simp [Up]) ?_
  simp [fcd,hR.conv']
  exact ⟨zaN.rfl' (Nat.zero_le _),zaN.rfl' (Nat.zero_le _),zaN.rfl' (Nat.zero_le _)⟩
 refine zaa ⟨86,[(1,.pt 16 0 0),(3,.mp 60),(6,.rs 61 0 0),(7,.I 1048576)],[(0,some ⟨1,zag f,0⟩),(16,some ⟨4,[rC N A (.rs 0 0 A.length)],0⟩),(60,some ⟨0,R,0⟩),(61,some ⟨2,[],0⟩)],500⟩ rfl ?_ ?_
 .simp
  exact Le.go [(0,0),(16,16),(60,60),(61,61)] [] rfl rfl (by simp) (by simp [fcd,hR.conv'])
 refine zaO (ι:=Int) (λ v=>⟨86,[(1,.pt 16 0 0),(6,.rs 61 0 l.length),(7,.I v)],[(0,some ⟨1,zag f,0⟩),(16,some ⟨4,[rC N A (.rs 0 0 A.length)],0⟩),(61,some ⟨2,(wayB l 0).map zcy,0⟩)],600⟩) (λ v=>1<=v/\v<=1048576/\zo4 A f l 0 v) ?_ λ v hv=>?_
 .refine zaa ⟨86,[(1,.pt 16 0 0),(3,.mp 60),(6,.rs 61 0 0),(7,.I 1048576),(8,.I 1)],[(0,some ⟨1,zag f,0⟩),(16,some ⟨4,[rC N A (.rs 0 0 A.length)],0⟩),(60,some ⟨0,R,0⟩),(61,some ⟨2,[],0⟩)],600⟩ rfl ?_ ?_
  .simp
   exact Le.go [(0,0),(16,16),(60,60),(61,61)] [] rfl rfl (by simp) (by simp [fcd,hR.conv'])
  refine zaf ?_
  refine zas (ι:=zAh) (λ s=>⟨86,[(1,.pt 16 0 0),(3,.mp 60),(6,.rs 61 0 (l.length - s.j)),(7,.I s.v),(8,.I (endW A 0 l s.j))],[(0,some ⟨1,zag f,0⟩),(16,some ⟨4,[rC N A (.rs 0 0 A.length)],0⟩),(60,some ⟨0,R,0⟩),(61,some ⟨2,(wayB l s.j).map zcy,0⟩)],600⟩)
   (λ s=>s.j<=l.length/\1<=s.v/\s.v<=1048576/\zo4 A f l s.j s.v) (λ s=>s.j) ⟨l.length,1048576⟩ ⟨Nat.le_refl _,by simp,by simp,by simp [zo4]⟩ (Le.go [(0,0),(16,16),(60,60),(61,61)] [] rfl rfl (by simp [hle]) (by simp [fcd,hR.conv',zwv])) ?_
  rintro ⟨j,v⟩ ⟨hj,hv1,hv2,hv3⟩
  simp only at hj hv1 hv2 hv3;refine zab ?_;refine zaa ⟨86,[(1,.pt 16 0 0),(3,.mp 60),(6,.rs 61 0 (l.length - j)),(7,.I v),(8,.I (endW A 0 l j)),(24,.B (!decide (endW A 0 l j=0)))],[(0,some ⟨1,zag f,0⟩),(16,some ⟨4,[rC N A (.rs 0 0 A.length)],0⟩),(60,some ⟨0,R,0⟩),(61,some ⟨2,(wayB l j).map zcy,0⟩)],700⟩ rfl ?_ ?_
  .simp
   exact Le.go [(0,0),(16,16),(60,60),(61,61)] [] rfl rfl (by simp <;> exact wkB (by rw [Bool.eq_iff_iff]; simp)) (by simp [fcd,hR.conv'])
  refine zad _ rfl (λ h13=>?_) λ h13=>?_
  .simp at h13
   obtain ⟨i,rfl⟩ : ∃ i,j=i+1:=by
    cases j with
    | zero=>exact absurd rfl h13
    | succ i=>exact ⟨i,rfl⟩
   have hi : i<l.length:=by omega
   obtain ⟨q1,q2,q3,q4,q5,q6⟩:=hl.at_ i hi;have hfr:=hl.from_ i hi;have hca:=hcam i hi;have hws:=zuz hi;have hwl:=zs7 l (i+1);obtain ⟨s,hs⟩ : ∃ s,s=l[i]:=⟨_,rfl⟩
   have hk : endW A 0 l (i+1)=stT A s:=by
    show stT A (l.getD i (0,false))=_;rw [List.getD_eq_getElem?_getD,List.getElem?_eq_getElem hi,hs];rfl
   have hvn : ∀ v' : Int,v'<=v->v'<=zca A f s->zo4 A f l i v':=λ v' h1 h2 t ht=>by
    rw [List.drop_eq_getElem_cons hi,<- hs] at ht;rcases List.mem_cons.1 ht with rfl | ht
    .exact h2
    .exact Int.le_trans h1 (hv3 t ht)
   rw [<- hs] at q1 q2 q3 q4 q5 q6 hfr hca hws;have hrm:=hroom s q1
   have hrmb : zca A f s<=1048576:=by
    have h1:=hfit.2 s.1 q1;have h2:=(hav _ (zfz q1)).2.2.2.2.2.2.2.2;unfold zca;split <;> omega
   rw [hk];obtain ⟨k,hkd⟩ : ∃ k,k=stT A s:=⟨_,rfl⟩;obtain ⟨rm,hrd⟩ : ∃ rm,rm=zca A f s:=⟨_,rfl⟩;obtain ⟨W,hW⟩ : ∃ W,W=wayB l (i+1):=⟨_,rfl⟩;rw [<- hkd] at q3 q4 q5 q6 hca hrm ⊢;rw [<- hrd] at q2 hrm hrmb hvn;rw [<- hW] at hws hwl;have hAe:=zqk q1;have hlen : l.length - (i+1)=W.length:=by omega
   rw [hlen,<- hW];refine zae ?_;refine zaf ?_;refine zaa ⟨86,[(1,.pt 16 0 0),(3,.mp 60),(6,.rs 61 0 W.length),(7,.I v),(9,.pv (zcy s))],[(0,some ⟨1,zag f,0⟩),(16,some ⟨4,[rC N A (.rs 0 0 A.length)],0⟩),(60,some ⟨0,R,0⟩),(61,some ⟨2,W.map zcy,0⟩)],800⟩ rfl ?_ ?_
   .simp [hfind,hca,ztS]
    exact Le.go [(0,0),(16,16),(60,60),(61,61)] [724] rfl rfl (by simp) (by simp [fcd,hR.conv'])
   refine zaa ⟨86,[(1,.pt 16 0 0),(3,.mp 60),(6,.rs 61 0 W.length),(7,.I v),(9,.pv (zcy s)),(10,.I rm)],[(0,some ⟨1,zag f,0⟩),(16,some ⟨4,[rC N A (.rs 0 0 A.length)],0⟩),(60,some ⟨0,R,0⟩),(61,some ⟨2,W.map zcy,0⟩)],900⟩ rfl ?_ ?_
   .simp
    refine zi1 [0] hrm (by simp [fcd,htake,hfl]) zzi ?_
    simp;exact Le.go [(0,0),(16,16),(60,60),(61,61)] [] rfl rfl (by simp) (by simp [fcd,hR.conv'])
   refine zaa ⟨86,[(1,.pt 16 0 0),(3,.mp 60),(6,.rs 62 0 (W.length+1)),(7,.I (if rm<v then rm else v)),(9,.pv (zcy s))],[(0,some ⟨1,zag f,0⟩),(16,some ⟨4,[rC N A (.rs 0 0 A.length)],0⟩),(60,some ⟨0,R,0⟩),(62,some ⟨2,(W++[s]).map zcy,0⟩)],1000⟩ rfl ?_ ?_
   .have hmw : ∀ g : Stp->List AV,List.take W.length (List.map g W)=List.map g W:=λ g=>List.take_of_length_le (by simp)
    simp [hmw];exact ⟨by omega,by omega,Le.go [(0,0),(16,16),(60,60),(924,62)] [] rfl rfl (by simp) (by simp [fcd,hR.conv'])⟩
   have hst : stF A s=if s.2 then (arcD A s.1).t else (arcD A s.1).f:=rfl
   have hqi : (s.1 : Int)<A.length:=by omega
   refine zaa ⟨86,[(1,.pt 16 0 0),(3,.mp 60),(6,.rs 62 0 (W.length+1)),(7,.I (if rm<v then rm else v)),(8,.I (arcD A s.1).f),(9,.pv (zcy s))],[(0,some ⟨1,zag f,0⟩),(16,some ⟨4,[rC N A (.rs 0 0 A.length)],0⟩),(60,some ⟨0,R,0⟩),(62,some ⟨2,(W++[s]).map zcy,0⟩)],1100⟩ rfl ?_ ?_
   .have hAe' : A[s.1]=arcD A s.1:=by rw [List.getElem?_eq_getElem q1] at hAe; exact Option.some.inj hAe
    simp [q1,hAe'];exact Le.go [(0,0),(16,16),(60,60),(62,62)] [] rfl rfl (by simp) (by simp [fcd,hR.conv'])
   refine zaa ⟨86,[(1,.pt 16 0 0),(3,.mp 60),(6,.rs 62 0 (W.length+1)),(7,.I (if rm<v then rm else v)),(8,.I (arcD A s.1).f),(9,.pv (zcy s)),(50,.B s.2)],[(0,some ⟨1,zag f,0⟩),(16,some ⟨4,[rC N A (.rs 0 0 A.length)],0⟩),(60,some ⟨0,R,0⟩),(62,some ⟨2,(W++[s]).map zcy,0⟩)],1200⟩ rfl ?_ ?_
   .simp
    exact Le.go [(0,0),(16,16),(60,60),(62,62)] [] rfl rfl (by simp) (by simp [fcd,hR.conv'])
   have hwl2 : l.length - i=W.length+1:=by omega
   have hinv : i<=l.length/\1<=(if rm<v then rm else v)/\(if rm<v then rm else v)<=1048576/\zo4 A f l i (if rm<v then rm else v):=⟨by omega,by split <;> omega,by split <;> omega,hvn _ (by split <;> omega) (by split <;> omega)⟩
   refine zad _ rfl (λ h16=>?_) λ h16=>?_
   .have hAe' : A[s.1]=arcD A s.1:=by rw [List.getElem?_eq_getElem q1] at hAe; exact Option.some.inj hAe
    rw [if_pos h16] at hst;refine zav rfl ?_;simp [q1,hAe'];exact ⟨⟨i,if rm<v then rm else v⟩,hinv,Nat.lt_succ_self i,Le.go [(0,0),(16,16),(60,60),(62,61)] [] rfl rfl (by simp [hwl2,<- hfr,hst]) (by simp [fcd,hR.conv',hws])⟩
   .rw [if_neg (by simp [h16])] at hst
    refine zae ?_;exact ⟨⟨i,if rm<v then rm else v⟩,hinv,Nat.lt_succ_self i,Le.go [(0,0),(16,16),(60,60),(62,61)] [] rfl rfl (by simp [hwl2,<- hfr,hst]) (by simp [fcd,hR.conv',hws])⟩
  simp at h13
  obtain rfl : j=0:=by
   cases j with
   | zero=>rfl
   | succ i =>
     have h2:=(hl.at_ i (by omega)).2.2.1
     refine absurd ?_ h2;have h3 : endW A 0 l (i+1)=stT A (l.getD i (0,false)):=rfl;rw [h3,List.getD_eq_getElem?_getD,List.getElem?_eq_getElem (by omega)] at h13
     exact h13
  refine zaq ?_;refine hit ?_;exact ⟨v,⟨hv1,hv2,hv3⟩,LeI [(0,0),(16,16),(61,61)] []⟩
 obtain ⟨hv1,hv2,hv3⟩:=hv;have hv3' : ∀ s∈l,v<=zca A f s:=λ s hs=>hv3 s (by simpa using hs)
 obtain ⟨hf2,hval⟩:=hl.push hno hf (by omega) hv3'
 have hWl:=zs7 l 0;obtain ⟨W,hW⟩ : ∃ W,W=wayB l 0:=⟨_,rfl⟩;rw [<- hW] at hWl ⊢;have hWl : l.length=W.length:=by omega
 refine zab ?_;refine zaa ⟨86,[(1,.pt 16 0 0),(7,.I v),(59,.vs 2 false (W.map zcy)),(60,.I W.length),(61,.I 0)],[(0,some ⟨1,zag f,0⟩),(16,some ⟨4,[rC N A (.rs 0 0 A.length)],0⟩)],700⟩ rfl ?_ ?_
 .have hmw : ∀ g : Stp->List AV,List.take W.length (List.map g W)=List.map g W:=λ g=>List.take_of_length_le (by simp)
  simp;exact Le.go [(0,0),(16,16)] [61] rfl rfl (by simp [hWl,hmw,fcd]) (by simp [fcd])
 refine zaf ?_;refine zas (ι:=Nat) (λ i=>⟨86,[(1,.pt 16 0 0),(7,.I v),(59,.vs 2 false (W.map zcy)),(60,.I W.length),(61,.I i)],[(0,some ⟨1,zag (zfD v f l (l.length - i)),0⟩),(16,some ⟨4,[rC N A (.rs 0 0 A.length)],0⟩)],700⟩) (λ i=>i<=W.length) (λ i=>W.length - i) 0 (Nat.zero_le _) (Le.go [(0,0),(16,16)] [] rfl rfl (by simp) (by simp [fcd,zq6])) ?_
 intro i hi;have hFl0 : (zfD v f l (l.length - i)).length=A.length:=by rw [zq3,hfl]
 refine zaa ⟨86,[(1,.pt 16 0 0),(7,.I v),(59,.vs 2 false (W.map zcy)),(60,.I W.length),(61,.I i),(62,.B (decide (i<W.length)))],[(0,some ⟨1,zag (zfD v f l (l.length - i)),0⟩),(16,some ⟨4,[rC N A (.rs 0 0 A.length)],0⟩)],800⟩ rfl ?_ ?_
 .simp
  exact LeI [(0,0),(16,16)] []
 refine zab ?_;refine zad _ rfl (λ h20=>?_) λ h20=>?_
 .simp at h20
  have hw1 : IntKind.i64.wrap ((i : Int)+1)=(i : Int)+1:=w6;obtain ⟨j,hj⟩ : ∃ j,l.length - i=j+1:=⟨l.length - i - 1,by omega⟩
  have hjl : j<l.length:=by omega
  have hj2 : l.length - (i+1)=j:=by omega
  have hWi : W[i]=l[j]:=by
   have : W[i]? = some l[j]:=by
    rw [hW];unfold wayB;rw [List.drop_zero,List.getElem?_reverse (by omega),List.getElem?_eq_getElem (by omega)]
    congr 1
    congr 1
    omega
   rw [List.getElem?_eq_getElem h20] at this;exact Option.some.inj this
  rw [hj] at hFl0 ⊢;obtain ⟨q1,q2,q3,q4,q5,q6⟩:=hl.at_ j hjl;have hstep:=zop (v:=v) (f:=f) j hjl;have hget:=zq9 (v:=v) hl.nodup hlr j hjl;have hroomj:=hv3' _ (List.getElem_mem hjl);obtain ⟨s,hs⟩ : ∃ s,s=l[j]:=⟨_,rfl⟩;rw [<- hs] at q1 hstep hget hroomj hWi;obtain ⟨F,hF⟩ : ∃ F,F=zfD v f l (j+1):=⟨_,rfl⟩;rw [<- hF] at hFl0 hget hstep ⊢;have hfa:=hfit.2 s.1 q1;have heo:=(hav _ (zfz q1)).2.2.2.2.2.2.2.2;obtain ⟨w,hw⟩ : ∃ w,w=f.getD s.1 0:=⟨_,rfl⟩;have haf : s.1<F.length:=by omega
  have hg2 : F[s.1]=w:=by
   have : F[s.1]? = some w:=by rw [hw,<- hget,List.getD_eq_getElem?_getD,List.getElem?_eq_getElem haf,Option.getD_some]
   rw [List.getElem?_eq_getElem haf] at this;exact Option.some.inj this
  rw [<- hw] at hfa;have hset : zfD v f l j=F.set s.1 (w+if s.2 then -v else v):=by rw [hstep]; unfold zji; rw [hget,<- hw]
  have hro : zca A f s=if s.2 then w else (arcD A s.1).v - w:=by unfold zca; rw [<- hw]
  refine zae ?_;refine zab ?_;refine zaf ?_;refine zaa ⟨86,[(1,.pt 16 0 0),(7,.I v),(13,.pv (zcy s)),(59,.vs 2 false (W.map zcy)),(60,.I W.length),(61,.I i)],[(0,some ⟨1,zag F,0⟩),(16,some ⟨4,[rC N A (.rs 0 0 A.length)],0⟩)],900⟩ rfl ?_ ?_
  .simp [h20,hWi]
   exact LeI [(0,0),(16,16)] [816]
  refine zaa ⟨86,[(1,.pt 16 0 0),(7,.I v),(13,.pv (zcy s)),(59,.vs 2 false (W.map zcy)),(60,.I W.length),(61,.I i),(66,.B s.2)],[(0,some ⟨1,zag F,0⟩),(16,some ⟨4,[rC N A (.rs 0 0 A.length)],0⟩)],1000⟩ rfl ?_ ?_
  .simp
   exact LeI [(0,0),(16,16)] []
  have hsA : (s.1 : Int)<A.length:=by omega
  refine zad _ rfl (λ h16=>?_) λ h16=>?_
  .rw [if_pos h16] at hset hro
   have hw2 : IntKind.i64.wrap (w - v)=w + -v:=by rw [w6]; omega
   refine zav rfl ?_;simp [q1,haf,hg2,hw2,zat];refine zav rfl ?_;simp;exact ⟨i+1,by omega,by omega,Le.go [(0,0),(16,16)] [] rfl rfl (by simp [hw1]) (by simp [fcd,hj2,hset])⟩
  .rw [if_neg (by simp [h16])] at hset hro
   have hw2 : IntKind.i64.wrap (w+v)=w+v:=w6;refine zav rfl ?_;simp [q1,haf,hg2,hw2,zat];refine zav rfl ?_;simp;exact ⟨i+1,by omega,by omega,Le.go [(0,0),(16,16)] [] rfl rfl (by simp [hw1]) (by simp [fcd,hj2,hset])⟩
 simp at h20;obtain rfl : i=W.length:=by omega
 rw [show l.length - W.length=0 by omega]
 refine zaq ?_;refine hit ?_;refine zaa ⟨86,[(2,.B true)],[(0,some ⟨1,zag (zfD v f l 0),0⟩)],900⟩ rfl ?_ ?_
 .simp
  exact LeI [(0,0)] []
 refine zai ?_;exact zm0.mk (.inr rfl) (true,zfD v f l 0) ⟨hf2,by rw [hval]; omega⟩ (zao.k1 rfl (by simp) (by simp [fcd]))
end Go.Proofs.YtkngdgplbojdlaaGreat
