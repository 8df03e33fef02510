/- Texts of this claim,merged. -/
import Derived.Test.YtkngdgplbojdlaaGreatRz5
import Derived.Test.YtkngdgplbojdlaaGreatRz4
import Derived.Test.YtkngdgplbojdlaaGreatRz3
import Derived.Test.YtkngdgplbojdlaaGreatRz2
import Derived.Test.YtkngdgplbojdlaaGreatRz1
import Derived.Lib.Mul64
set_option linter.unusedSimpArgs false
set_option linter.unusedVariables false
set_option linter.unusedSectionVars false
set_option maxRecDepth 100000
set_option maxHeartbeats 8000000
noncomputable section
namespace Go.Proofs.YtkngdgplbojdlaaGreat
open Go
variable {g : Gr} {p : Pol}
theorem zk2 : ∀ (b a : List Int),∃ l,accR g p (a++b)=accR g p a++l /\ ∀ x∈l,x∈b
 | [],a=>⟨[],by simp,by simp⟩
 | x::b,a=>by
   obtain ⟨l,hl,hm⟩:=zk2 b (a++[x]);have e : a++x::b=a++[x]++b:=by simp
   rw [e,hl];rcases zlP (g:=g) (p:=p) a x with h | h
   .exact ⟨l,by rw [h],λ y hy=>Qk _ (hm y hy)⟩
   .refine ⟨[x]++l,by rw [h,Qx],λ y hy=>?_⟩
    rcases Qo.1 hy with h | h
    .rw [QB.1 h]; exact Qm
    .exact Qk _ (hm y h)
theorem zkn {o : List Int} (hn : o.Nodup) {i : Nat} (h : i<o.length) : o[i]∈accR g p o↔zar g p (zaG (accR g p (o.take i)++[o[i]])):=by
 have hs : o.take (i+1)=o.take i++[o[i]]:=Qp h;obtain ⟨l,hl,hm⟩:=zk2 (g:=g) (p:=p) (o.drop (i+1)) (o.take (i+1));rw [UR] at hl
 have hni : o[i]∉o.take i:=λ hx=>by
  obtain ⟨j,hj,e⟩:=List.mem_take_iff_getElem.1 hx;have:=(U0 hn).1 e;omega
 have hnd : o[i]∉o.drop (i+1):=λ hx=>by
  obtain ⟨j,hj,e⟩:=List.mem_drop_iff_getElem.1 hx;have:=(U0 hn).1 e;omega
 constructor
 .intro hx
  by_cases hc : zar g p (zaG (accR g p (o.take i)++[o[i]]))
  .exact hc
  .rw [hl,hs,zfg hc] at hx
   rcases Qo.1 hx with h1 | h1
   .exact absurd (zdb h1) hni
   .exact absurd (hm _ h1) hnd
 .intro hc
  rw [hl,hs,zbk hc];exact QU _ (UD _ (QB.2 rfl))
theorem zoW {o : List Int} (hn : o.Nodup) : ∀ i,i<=o.length->befL o (accR g p o) i=accR g p (o.take i)
 | 0,_=>by simp [befL,zhF]
 | i+1,h=>by
   have hi : i<o.length:=h;rw [zsY hi,zoW hn i (by omega),Qp hi]
   by_cases hc : zar g p (zaG (accR g p (o.take i)++[o[i]]))
   .rw [if_pos ((zkn hn hi).2 hc),zbk hc]
   .rw [if_neg (λ h=>hc ((zkn hn hi).1 h)),zfg hc,QX]
theorem zcr {l : List Int} (h : l.Pairwise (· < ·)) : l.Nodup:=h.imp λ h=>by omega
theorem zii {a : List Int} (hn : a.Nodup) (hr : ∀ k∈a,0<=k/\k<64) : a.Perm (zaG a):=by
 rw [<- zk7 hn hr];exact (zbs a).symm
theorem zlw {a : List Int} (hn : a.Nodup) (hr : ∀ k∈a,0<=k/\k<64) : (zaG a).length=a.length:=(zii hn hr).length_eq.symm
structure AtO (g : Gr) (p : Pol) (key : Int) (before : List Int) : Prop where
 mem : key∈ordL (zag g p.lv) p.seeds
 bef : zeo (ordL (zag g p.lv) p.seeds) before key
 nodup : (before++[key]).Nodup
 range : ∀ k∈before++[key],0<=k/\k<g.size
 serve : key∈accR g p (ordL (zag g p.lv) p.seeds)↔zar g p (zaG (before++[key]))
theorem znn {o : List Int} (hn : o.Nodup) {i : Nat} (h : i<o.length) : zfO o o[i]=o.take i:=by
 unfold zfO;rw [List.takeWhile_eq_take_findIdx_not]
 congr 1
 rw [List.findIdx_eq h];refine ⟨by simp,λ j hj=>?_⟩
 have : o[j]≠o[i]:=λ e=>by have:=(U0 hn).1 e; omega
 simp [this]
theorem ForR.at_ {key : Int} {x : Expl} (h : ForR g p (ordL (zag g p.lv) p.seeds) key x) (hg : GrOk g) : x.key=key/\AtO g p key x.before /\ ∃ i,∃ hi : i<(ordL (zag g p.lv) p.seeds).length,(ordL (zag g p.lv) p.seeds)[i]=key/\x.before=accR g p ((ordL (zag g p.lv) p.seeds).take i):=by
 have hn:=za3 (zag g p.lv) p.seeds;have hr : ∀ k∈ordL (zag g p.lv) p.seeds,0<=k/\k<g.size:=λ k hk=>by have h:=zbD hk; exact h
 obtain ⟨o,ho⟩ : ∃ o,o=ordL (zag g p.lv) p.seeds:=⟨_,rfl⟩;rw [<- ho] at h hn hr ⊢;obtain ⟨i,hi,hk,hb⟩:=h.bef;rw [zoW hn i (by omega)] at hb
 refine ⟨h.key_,?_,i,hi,hk,hb⟩
 have hsub : x.before.Sublist (zfO o key):=by
  rw [hb,<- hk,znn hn hi];exact zcG _ _ rfl
 refine ⟨by rw [<- ho,<- hk]; exact Qj hi,by rw [<- ho]; exact hsub,zeo.nodup (order:=o) hsub hn,λ k hkm=>?_,?_⟩
 .rcases Qo.1 hkm with h1 | h1
  .refine hr k ?_
   rw [hb] at h1;exact QY (zdb h1)
  .rw [QB.1 h1,<- hk]; exact hr _ (Qj hi)
 .rw [<- ho,hb,<- hk]
  exact zkn hn hi
theorem AtO.joined {key : Int} {before : List Int} (h : AtO g p key before) (hg : GrOk g) : (zaG (before++[key])).Nodup/\(before++[key]).Perm (zaG (before++[key]))/\(∀ x∈zaG (before++[key]),0<=x/\x<g.size):=by
 have h64:=hg.1.2.1;have hr : ∀ k∈before++[key],0<=k/\k<64:=λ k hk=>⟨(h.range k hk).1,by have:=(h.range k hk).2; omega⟩
 exact ⟨zcr (zeF _),zii h.nodup hr,λ x hx=>h.range x (zcX.1 hx).1⟩
theorem znU {key : Int} {before : List Int} {W : List (List Nat)} (hg : GrOk g) (hp : zaN g.size p) (ha : AtO g p key before) (hc : zar g p (zaG (before++[key]))) (hW : zu3 g p (before++[key]) W) :
  zi1 g p.lv p.seeds (ordL (zag g p.lv) p.seeds) (zaH g p) (W.map (zb5 (netA g p (zaG (before++[key]))))) (before++[key]):=by
 obtain ⟨f,g',hgf,ht,hl,_⟩:=hW;obtain ⟨j1,j2,j3⟩:=ha.joined hg;refine zlG hg hp j1 (λ x hx=>(j3 x hx).1) j2 hgf.ok.fit ht.ways (λ i _=>?_) ?_
 .have h1:=ht.used i
  have h2:=ht.bal.nonneg i;omega
 .have : maxF (netN g) (netA g p (zaG (before++[key])))=(zaG (before++[key])).length:=hc
  omega
theorem ForR.yes_serves {key : Int} {x : Expl} (h : ForR g p (ordL (zag g p.lv) p.seeds) key x) (hg : GrOk g) (hp : zaN g.size p) (hk : key∈accR g p (ordL (zag g p.lv) p.seeds)) :
  zi1 g p.lv p.seeds (ordL (zag g p.lv) p.seeds) (zaH g p) x.paths (x.before++[key]):=by
 obtain ⟨_,ha,_⟩:=h.at_ hg;obtain ⟨_,_,W,hW,hpa⟩:=h.yes hk;rw [hpa];exact znU hg hp ha (ha.serve.1 hk) hW
theorem ForR.no_proves {key : Int} {x : Expl} (h : ForR g p (ordL (zag g p.lv) p.seeds) key x) (hg : GrOk g) (hp : zaN g.size p) (hk : key∉accR g p (ordL (zag g p.lv) p.seeds)) :
  zlp ⟨2+2*g.size,zaQ g p (zaH g p) (zaG (x.before++[key]))⟩ x.side x.before.length:=by
 obtain ⟨_,ha,i,hi,hik,hib⟩:=h.at_ hg;obtain ⟨_,_,R,hR,hs⟩:=h.no hk;obtain ⟨i',hi',hik',hn⟩:=hR.right _ hs;simp only at hik' hn;have hii : i'=i:=(U0 (za3 (zag g p.lv) p.seeds)).1 (hik'.trans hik.symm);subst hii;rw [<- hib] at hn;obtain ⟨j1,j2,j3⟩:=ha.joined hg;have hfew:=zf9 hg hp j3;have hno : maxF (netN g) (netA g p (zaG (x.before++[key])))≠(zaG (x.before++[key])).length:=hn.no;have hlen:=j2.length_eq;rw [Qh,QZ] at hlen;have hcut:=hn.cut;have hok:=hn.ok;rw [zhN hg] at hok;exact ⟨hok,by rw [hcut]; omega⟩
theorem ForR.checked {key : Int} {x : Expl} (h : ForR g p (ordL (zag g p.lv) p.seeds) key x) (hg : GrOk g) (hp : zaN g.size p) : zrs g p x=0:=by
 rw [zp0 hg.1.2.1];obtain ⟨hk,ha,_⟩:=h.at_ hg;unfold zsK;simp only;rw [hk,if_neg (by simpa using ha.mem)]
 by_cases hacc : key∈accR g p (ordL (zag g p.lv) p.seeds)
 .obtain ⟨h1,h2,_⟩:=h.yes hacc
  rw [if_neg (by rw [h1,h2]; simpa using ha.bef),if_pos h1,if_pos (h.yes_serves hg hp hacc)]
 .obtain ⟨h1,h2,_⟩:=h.no hacc
  rw [if_neg (by rw [h1,h2]; simpa using ha.bef),if_neg (by rw [h1]; simp),if_pos (h.no_proves hg hp hacc)]
theorem zcU (l : List Int) (hl : l.length<=1099511627776) : AcP 122 [ints l] [] (.rs 0 0 l.length) [some ⟨1,zaf (srt l),0⟩]:=by
 refine zke.s.ac ?_;show awp _ 0 _ _ ⟨6,[(0,ints l)],[],16⟩;have hs : AcP 162 [seqF l] [] (.rs 0 0 l.length) [some ⟨1,zaf (srt l),0⟩]:=zqN l hl;refine rs [0] [] [] ?_;refine zaa ⟨6,[(2,.rs 50 0 l.length)],[(50,some ⟨1,zaf (srt l),0⟩)],100⟩ rfl ?_ ?_
 .simp
  refine cl0 (zrb l) ?_;simp;refine zdg hs (by simp [conv]) ?_
  simp;exact LeI [(40,50)] []
 exact zah ⟨.inr rfl,zao.out [50] [] rfl (by simp) (by simp) (by simp) (by simp [fcd])⟩
theorem zi0 (g : Gr) (p : Pol) (hg : GrOk g) (hN : g.size<20) (hs : p.seeds.length<=1099511627776) : AcP 70 [eG g,eP p] [] (.rs 0 0 (ordL (zag g p.lv) p.seeds).length) [some ⟨1,zaf (ordL (zag g p.lv) p.seeds),0⟩]:=by
 refine zln.s.ac ?_;show awp _ 0 _ _ ⟨12,[(0,eG g),(1,eP p)],[],16⟩;have hel:=hg.edges_le;have hgl:=hg.gone_le;have hsz:=hg.1.2.1;have hlev:=zbO g p.lv (by omega) (by omega)
 have hord:=zcj (g:=zag g p.lv) (S:=p.seeds) (hg.level p.lv) hN hs;obtain ⟨o,ho⟩ : ∃ o,o=ordL (zag g p.lv) p.seeds:=⟨_,rfl⟩;rw [<- ho] at hord ⊢;refine rs [2,3] [] [16,24] ?_;refine zas ⟨12,[(4,.rs 50 0 o.length)],[(50,some ⟨1,zaf o,0⟩)],200⟩ rfl ?_ ?_
 .simp
  refine cl0 hlev ?_;simp;refine cn1 hord ?_;simp;exact ⟨rfl,LeI [(88,50)] []⟩
 exact zah ⟨.inr rfl,zao.out [50] [] rfl (by simp) (by simp) (by simp) (by simp [fcd])⟩
theorem zjg (l : List Int) (x : Int) (hl : l.length<=1000000) : AcP 71 [ints l,.I x] [] (.rs 0 0 (l.length+1)) [some ⟨1,zaf (l++[x]),0⟩]:=by
 refine zmT.s.ac ?_;show awp _ 0 _ _ ⟨14,[(0,ints l),(1,.I x)],[],16⟩;refine rs [0,1] [] [] ?_;refine zaa ⟨14,[(4,.rs 50 0 (l.length+1))],[(50,some ⟨1,zaf (l++[x]),0⟩)],200⟩ rfl ?_ ?_
 .have hsl : ∀ {id : Nat} {h : Nat->Option Ent} {K : AV->List Nat->List (Nat × Option Ent)->Prop},K (.vs 1 true (l.map λ n=>[AV.I n])) [] []->aK Tryz.prog 0 id (.slc 1 false true true) [ints l,.I (l.length : Nat),.I (l.length : Nat)] h K:=λ hK=>by
   rw [zfR];refine ⟨0,l.length,l.length,l.length,by simp,Qi _,rfl,by simp,by simp,by simp,Ql _,λ _=>rfl,rfl,?_⟩
   rw [List.drop_zero,Nat.sub_zero,Qb (by simp)]
   exact hK
  simp;refine hsl ?_;simp;exact ⟨by omega,by omega,LeI [(88,50)] []⟩
 exact zah ⟨.inr rfl,zao.out [50] [] rfl (by simp) (by simp) (by simp) (by simp [fcd])⟩
theorem zdC (g : Gr) (p : Pol) (ks : List Int) (hg : GrOk g) (hp : zaN g.size p) (hk : ks.Nodup) (hr : ∀ k∈ks,0<=k/\k<g.size) (hs : p.seeds.length<=64) : AcP 72 [eG g,eP p,ints ks] [] (eN ⟨netN g,netA g p (zaG ks)⟩) []:=by
 refine zib.s.ac ?_;show awp _ 0 _ _ ⟨18,[(0,eG g),(1,eP p),(2,ints ks)],[],16⟩;have hsz:=hg.1.2.1;have hr64 : ∀ k∈ks,0<=k/\k<64:=λ k h=>by have:=hr k h; omega
 have hlen:=zlw hk hr64;have hJl:=zdr ks;have hsort:=zcU ks (by omega)
 rw [zk7 hk hr64,<- hlen] at hsort;have hnet:=zhe g p (zaG ks) hg hp (zeq hr) hs hJl;rw [<- zhN hg,show zaQ g p (zaH g p) (zaG ks)=netA g p (zaG ks) from rfl] at hnet
 obtain ⟨J,hJ⟩ : ∃ J,J=zaG ks:=⟨_,rfl⟩;obtain ⟨A,hA⟩ : ∃ A,A=netA g p (zaG ks):=⟨_,rfl⟩;rw [<- hA] at hnet ⊢;rw [<- hJ] at hnet hsort;refine rs [2,3,4,6] [32] [16,24] ?_;refine zas ⟨18,[(6,.pt 32 0 0),(7,.pv (nC ⟨netN g,A⟩))],[(32,some ⟨2,[[.I 0,.nilS]],0⟩)],300⟩ rfl ?_ ?_
 .simp
  refine cn1 hsort ?_;simp;refine zxj [64] (by simp) hnet (by simp [fcd,zaq]) ?_
  simp;exact ⟨rfl,LeH [(32,32)] [104]⟩
 refine zaa ⟨18,[(6,.pt 32 0 0)],[(32,some ⟨2,[nC ⟨netN g,A⟩],0⟩)],400⟩ rfl ?_ ?_
 .simp [zat]
  exact LeH [(32,32)] []
 exact zah ⟨.inr rfl,zao.out [] [32] rfl (by simp) (by simp) (by simp) (by simp)⟩
def zwy (N : Nat) (A : List Ed) (f : List Int) : Prop:=zaF N A f /\ ∀ f',zaF N A f'->valF A f'<=valF A f
theorem zjn (N : Nat) (A : List Ed) (k : Int) (hn : zaT ⟨N,A⟩) :
  ∃ f : List Int,zwy N A f/\AcP 73 [eN ⟨N,A⟩,.I k] [] (.tup [.rs 0 0 A.length,.B (decide (valF A f=k))]) [some ⟨1,zaf f,0⟩]:=by
 obtain ⟨f,hf,hmax⟩:=zjU N A hn;refine ⟨f,hf,?_⟩;have hfl:=hf.1.fit.len;have hal:=hn.2.2.1;simp only at hal;have hval:=zfx (f:=f) hn (by omega)
 rw [if_pos hf.1] at hval;have htake : ∀ g : Int->List AV,List.take A.length (List.map g f)=List.map g f:=λ g=>Qb (by simp; omega)
 refine zkF.s.ac ?_;show awp _ 0 _ _ ⟨19,[(0,eN ⟨N,A⟩),(1,.I k)],[],16⟩;refine rs [1,2] [] [16] ?_;refine zaa ⟨19,[(1,.I k),(2,.pv (nC ⟨N,A⟩)),(6,.rs 50 0 A.length)],[(50,some ⟨1,zaf f,0⟩)],100⟩ rfl ?_ ?_
 .simp
  refine cn1 hmax ?_;simp;exact LeI [(48,50)] []
 refine zaa ⟨19,[(4,.rs 50 0 A.length),(5,.B (decide (valF A f=k)))],[(50,some ⟨1,zaf f,0⟩)],200⟩ rfl ?_ ?_
 .simp
  refine zfE [50] hval (by simp [fcd,htake,hfl]) (.sc _) ?_
  simp;exact Le.go [(50,50)] [] rfl rfl (by simp <;> exact wkB (by rw [QE]; simp)) (by simp [fcd])
 exact zah ⟨.inr rfl,zao.out [50] [] rfl (by simp) (by simp) (by simp) (by simp [fcd])⟩
section
variable {P : Program} {np id : Nat} {h : Nat->Option Ent} {K : AV->List Nat->List (Nat × Option Ent)->Prop} {s : Nat}
theorem zwS (hK : K .nilS [] []) : aK P np id (.slc s false true false) [.nilS,.I 0] h K:=by
 rw [zfR];exact ⟨0,0,0,0,rfl,Ql _,by simp,λ _=>rfl,(λ h=>by cases h),(λ h=>by cases h),Ql _,(λ h=>by cases h),hK⟩
end
theorem zq0 : AcP 200 [.nilS,.I 0] [] .nilS []:=by
 refine zcu.s.ac ?_;show awp _ 0 _ _ ⟨27,[(0,.nilS),(1,.I 0)],[],16⟩;refine rs [0,1] [] [] ?_;refine zab (zaa ⟨27,[(0,.nilS),(1,.I 0),(6,.B false)],[],100⟩ rfl ?_ ?_)
 .simp
  exact LeH [] []
 refine zac _ rfl (λ h=>by cases h) λ _=>?_
 refine zae (zab ?_);have h0w : IntKind.i64.wrap 0=0:=w6;refine zaa ⟨27,[(0,.nilS),(1,.I 0)],[],200⟩ rfl ?_ ?_
 .simp [h0w]
  exact LeH [] []
 refine zaa ⟨27,[(0,.nilS),(16,.B false)],[],300⟩ rfl ?_ ?_
 .simp [h0w]
  exact LeH [] []
 refine zac _ rfl (λ h=>by cases h) λ _=>?_
 refine zae (rs [4] [] [] ?_);exact zaI
theorem zux (n : Nat) (h0 : 0<n) (hl : n<=1000000) : AcP 200 [.nilS,.I n] [] (.rs 0 0 0) [some ⟨1,List.replicate n [.I 0],0⟩]:=by
 refine zcu.s.ac ?_;show awp _ 0 _ _ ⟨27,[(0,.nilS),(1,.I n)],[],16⟩;refine rs [0,1] [] [] ?_;refine zab (zaa ⟨27,[(0,.nilS),(1,.I n),(6,.B false)],[],100⟩ rfl ?_ ?_)
 .simp
  exact Le.go [] [] rfl rfl (by simp <;> exact wkB (by rw [Qc]; omega)) (by simp)
 refine zac _ rfl (λ h=>by cases h) λ _=>?_
 refine zae ?_;have h0w : IntKind.i64.wrap 0=0:=w6;have hw : IntKind.i64.wrap (n : Int)=(n : Int):=w6;refine zap (ι:=Unit) (λ _=>⟨27,[(0,.rs 50 0 0)],[(50,some ⟨1,List.replicate n [.I 0],0⟩)],400⟩) (λ _=>True) ?_ λ _ _=>?_
 .refine zaa ⟨27,[(0,.nilS),(1,.I n)],[],200⟩ rfl ?_ ?_
  .simp [hw,h0w]
   exact LeH [] []
  refine zaa ⟨27,[(0,.nilS),(1,.I n),(16,.B true)],[],300⟩ rfl ?_ ?_
  .simp [h0]
   exact Le.go [] [] rfl rfl (by simp [h0]) (by simp)
  refine zac _ rfl (λ _=>?_) λ h=>by cases h
  refine zan rfl ?_;simp;refine zwS ?_;simp [h0];refine ⟨by omega,by omega,zyr 0 rfl rfl (Qi _) ?_⟩
  exact LeH [(340,50)] []
 refine zaa ⟨27,[(4,.rs 50 0 0)],[(50,some ⟨1,List.replicate n [.I 0],0⟩)],500⟩ rfl ?_ ?_
 .simp
  exact LeH [(50,50)] []
 exact zah ⟨.inr rfl,zao.out [50] [] rfl (by simp) (by simp) (by simp) (by simp)⟩
theorem zj2 {P : List (List Int)} {i : Nat} (h : i<P.length) : (P.take (i+1)).flatten=(P.take i).flatten++P[i]:=by
 rw [Qp h,List.flatten_append];simp
theorem zvE {P : List (List Int)} (i : Nat) : (P.take i).flatten.length<=P.flatten.length:=by
 have h : P.flatten=(P.take i).flatten++(P.drop i).flatten:=by rw [<- List.flatten_append,UR]
 rw [h,Qh];omega
theorem zqM (P : List (List Int)) (hP : P≠[]) (hl : P.flatten.length<=1000000) (hpl : P.length<=1000000) :
  AcP 173 [zbz P] [] (.rs 0 0 P.flatten.length) [some ⟨1,zaf P.flatten,0⟩]:=by
 refine zdP.s.ac ?_;show awp _ 0 _ _ ⟨36,[(0,zbz P)],[],16⟩;have hfl:=λ i=>zvE (P:=P) i;refine rs [0] [] [] ?_;refine zaa ⟨36,[(0,zbz P),(3,.I 0)],[],50⟩ rfl ?_ ?_
 .simp
  exact Le.go [] [] rfl rfl (by simp [fcd]) (by simp)
 refine zab (zaa ⟨36,[(0,zbz P),(3,.I 0),(9,zbz P),(10,.I P.length),(11,.I (0 : Nat))],[],100⟩ rfl ?_ ?_)
 .simp
  exact Le.go [] [] rfl rfl (by simp [fcd]) (by simp)
 refine zad ?_
 refine zaj (ι:=Nat) (λ i=>⟨36,[(0,zbz P),(3,.I ((P.take i).flatten.length : Nat)),(9,zbz P),(10,.I P.length),(11,.I i)],[],100⟩) (λ i=>i<=P.length) (λ i=>P.length - i) 0 (Qi _)
  (Le.go [] [] rfl rfl (by simp [fcd]) (by simp)) ?_
 intro i hi;refine zaa ⟨36,[(0,zbz P),(3,.I ((P.take i).flatten.length : Nat)),(9,zbz P),(10,.I P.length),(11,.I i),(12,.B (decide (i<P.length)))],[],200⟩ rfl ?_ ?_
 .simp
  exact Le.go [] [] rfl rfl (by simp [fcd]) (by simp)
 refine zab (zac _ rfl (λ h=>zae ?_) λ h=>zai (hit ?_))
 .rw [Qe] at h
  have hwi : IntKind.i64.wrap ((i : Int)+1)=((i+1 : Nat) : Int):=by rw [w6]; omega
  have hsu:=zj2 h;have hle:=hfl (i+1);rw [hsu] at hle;obtain ⟨w,hw⟩ : ∃ w,w=P[i]:=⟨_,rfl⟩;rw [<- hw] at hsu hle;obtain ⟨F,hF⟩ : ∃ F,F=(P.take i).flatten:=⟨_,rfl⟩;rw [<- hF] at hsu hle ⊢;rw [Qh] at hle;have hgw : (P.map λ w=>[ints w])[i]? = some [ints w]:=by rw [Qs,Qa h,<- hw]; rfl
  have hww : IntKind.i64.wrap ((F.length : Int)+(w.length : Int))=((F.length+w.length : Nat) : Int):=by rw [w6]; omega
  refine zap (ι:=Unit) (λ _=>⟨36,[(0,zbz P),(3,.I ((F.length+w.length : Nat) : Int)),(9,zbz P),(10,.I P.length),(11,.I i)],[],400⟩) (λ _=>True) ?_ λ _ _=>?_
  .refine zad (zaa ⟨36,[(0,zbz P),(3,.I (F.length : Nat)),(5,ints w),(9,zbz P),(10,.I P.length),(11,.I i)],[],260⟩ rfl ?_ ?_)
   .simp [h,<- hw]
    exact Le.go [] [] rfl rfl (by simp [fcd]) (by simp)
   refine zaa ⟨36,[(0,zbz P),(3,.I ((F.length+w.length : Nat) : Int)),(9,zbz P),(10,.I P.length),(11,.I i)],[],300⟩ rfl ?_ ?_
   .simp [hww]
    exact Le.go [] [] rfl rfl (by simp [fcd]) (by simp)
   refine zaa ⟨36,[(0,zbz P),(3,.I ((F.length+w.length : Nat) : Int)),(9,zbz P),(10,.I P.length),(11,.I i),(20,.B false)],[],340⟩ rfl ?_ ?_
   .simp
    exact Le.go [] [] rfl rfl (by simp [fcd] <;> exact wkB (by simp; omega)) (by simp)
   refine zac _ rfl (λ h=>by cases h) λ _=>zae ?_
   exact ⟨(),trivial,Le.go [] [] rfl rfl (by simp [fcd]) (by simp)⟩
  refine zan rfl ?_;simp [hwi,-List.length_flatten,-List.map_flatten];refine ⟨i+1,by omega,by omega,?_⟩
  rw [hsu];exact Le.go [] [] rfl rfl (by simp [fcd]) (by simp)
 rw [Qc] at h;obtain rfl : i=P.length:=by omega
 rw [Q1];obtain ⟨n,hn⟩ : ∃ n,n=P.flatten.length:=⟨_,rfl⟩;rw [<- hn] at hl ⊢;refine zaa ⟨36,[(0,zbz P),(6,.rs 40 0 0)],[(40,some ⟨1,List.replicate n [.I 0],0⟩)],500⟩ rfl ?_ ?_
 .rcases Ui n with h0 | h0
  .subst h0
   simp;refine cl0 zq0 ?_;simp;exact Le.lst [] [] [(40,1)] rfl (by simp) (by simp) (by simp) (by simp) (by simp) (by simp) (by simp) (by simp [Up,fcd]) (by simp)
  .simp
   refine cn1 (zux n h0 hl) ?_;simp;exact Le.go [(208,40)] [] rfl rfl (by simp [fcd]) (by simp)
 obtain ⟨tl,htl⟩ : ∃ tl : Nat->List (List AV),tl=λ i=>if i=0 then List.replicate n [.I 0] else []:=⟨_,rfl⟩
 have ht0 : tl 0=List.replicate n [.I 0]:=by rw [htl]; rfl
 have htS : ∀ i,tl (i+1)=[]:=λ i=>by rw [htl]; rfl
 have htf : ∀ i ρ sn h m,(tl i).map (List.map (conv ρ sn h (m+1)))=tl i:=λ i ρ sn h m=>by rw [htl]; simp only; split <;> simp
 refine zab (zaa ⟨36,[(6,.rs 40 0 0),(25,zbz P),(26,.I P.length),(27,.I (0 : Nat))],[(40,some ⟨1,List.replicate n [.I 0],0⟩)],600⟩ rfl ?_ ?_)
 .simp
  exact Le.go [(40,40)] [] rfl rfl (by simp [fcd]) (by simp)
 refine zad ?_
 refine zaj (ι:=Nat) (λ i=>⟨36,[(6,.rs 40 0 (P.take i).flatten.length),(25,zbz P),(26,.I P.length),(27,.I i)],[(40,some ⟨1,zaf (P.take i).flatten++tl i,0⟩)],600⟩) (λ i=>i<=P.length) (λ i=>P.length - i) 0 (Qi _)
  (Le.go [(40,40)] [] rfl rfl (by simp [fcd]) (by simp [ht0])) ?_
 intro i hi;have htf:=htf i;refine zaa ⟨36,[(6,.rs 40 0 (P.take i).flatten.length),(25,zbz P),(26,.I P.length),(27,.I i),(28,.B (decide (i<P.length)))],[(40,some ⟨1,zaf (P.take i).flatten++tl i,0⟩)],700⟩ rfl ?_ ?_
 .simp
  exact Le.go [(40,40)] [] rfl rfl (by simp [fcd]) (by simp [fcd,htf])
 refine zab (zac _ rfl (λ h=>zae ?_) λ h=>zai (hit ?_))
 .rw [Qe] at h
  have hwi : IntKind.i64.wrap ((i : Int)+1)=((i+1 : Nat) : Int):=by rw [w6]; omega
  have hsu:=zj2 h;have hle:=hfl (i+1);rw [hsu] at hle;obtain ⟨w,hw⟩ : ∃ w,w=P[i]:=⟨_,rfl⟩;rw [<- hw] at hsu hle;obtain ⟨F,hF⟩ : ∃ F,F=(P.take i).flatten:=⟨_,rfl⟩;rw [<- hF] at hsu hle ⊢;rw [Qh] at hle;have hTk : ∀ X : List (List AV),(zaf F++X).take F.length=zaf F:=λ X=>List.take_left' (by simp)
  refine zap (ι:=Unit) (λ _=>⟨36,[(6,.rs 40 0 (F.length+w.length)),(25,zbz P),(26,.I P.length),(27,.I i)],[(40,some ⟨1,zaf (F++w),0⟩)],900⟩) (λ _=>True) ?_ λ _ _=>?_
  .refine zad (zaa ⟨36,[(6,.rs 40 0 F.length),(8,ints w),(25,zbz P),(26,.I P.length),(27,.I i)],[(40,some ⟨1,zaf F++tl i,0⟩)],800⟩ rfl ?_ ?_)
   .simp [h,<- hw]
    exact Le.go [(40,40)] [] rfl rfl (by simp [fcd]) (by simp [fcd,htf])
   refine zan rfl ?_;simp [hTk];refine ⟨by omega,by omega,?_⟩
   exact Le.go [(816,40)] [] rfl rfl (by simp [fcd]) (by simp [fcd])
  refine zan rfl ?_;simp [hwi,-List.length_flatten,-List.map_flatten];refine ⟨i+1,by omega,by omega,?_⟩
  rw [hsu];exact Le.go [(40,40)] [] rfl rfl (by simp [fcd]) (by simp [fcd,htS])
 rw [Qc] at h;obtain rfl : i=P.length:=by omega
 have htl0 : tl P.length=[]:=by
  obtain ⟨m,hm⟩ : ∃ m,P.length=m+1:=⟨P.length - 1,by have:=Ux.2 hP; omega⟩
  rw [hm,htS]
 rw [Q1,htl0,QX,<- hn];refine zaa ⟨36,[(2,.rs 40 0 n)],[(40,some ⟨1,zaf P.flatten,0⟩)],1000⟩ rfl ?_ ?_
 .simp
  exact Le.go [(40,40)] [] rfl rfl (by simp [fcd]) (by simp [fcd])
 exact zah ⟨.inr rfl,zao.out [40] [] rfl (by simp) (by simp) (by simp) (by simp [fcd])⟩
def nbZ (l : List Ed) (k : Int) : Nat:=(outs l k).length+(inns l k).length - (nbL l k).length
theorem zfM (g : Gr) (k : Int) (hl : g.edges.length<=100000) : AcP 136 [eG g,.I k] [] (.rs 0 0 (nbL g.edges k).length) [some ⟨1,zaf (nbL g.edges k)++List.replicate (nbZ g.edges k) [.I 0],0⟩]:=by
 refine zfn.s.ac ?_;show awp _ 0 _ _ ⟨15,[(0,eG g),(1,.I k)],[],16⟩;have hol:=ztI g.edges k;have hil:=ztP g.edges k;obtain ⟨O,hO⟩ : ∃ O,O=srt (outs g.edges k):=⟨_,rfl⟩;obtain ⟨I,hI⟩ : ∃ I,I=srt (inns g.edges k):=⟨_,rfl⟩;have hOl : O.length=(outs g.edges k).length:=by rw [hO]; exact (zbs _).length_eq
 have hIl : I.length=(inns g.edges k).length:=by rw [hI]; exact (zbs _).length_eq
 have hout : AcP 81 [eG g,.I k] [] (.rs 0 0 O.length) [some ⟨1,zaf O,0⟩]:=by rw [hOl,hO]; exact zg1 g k (by omega)
 have hin : AcP 174 [eG g,.I k] [] (.rs 0 0 I.length) [some ⟨1,zaf I,0⟩]:=by rw [hIl,hI]; exact znl g k (by omega)
 have hcat:=zqM [O,I] (by simp) (by simp; omega) (by simp)
 have hfl : [O,I].flatten=O++I:=by simp
 rw [hfl] at hcat;have hsort:=zcU (O++I) (by simp; omega)
 have hSl : (srt (O++I)).length=(O++I).length:=(zbs _).length_eq;have hcomp:=zp1 (srt (O++I)) (O++I).length hSl (by simp; omega)
 have hded : dedF (srt (O++I))=nbL g.edges k:=by rw [hO,hI]; exact zxB g.edges k
 have hz : (O++I).length - (nbL g.edges k).length=nbZ g.edges k:=by rw [nbZ,Qh,hOl,hIl]
 rw [hded,hz] at hcomp;obtain ⟨N,hN⟩ : ∃ N,N=nbL g.edges k:=⟨_,rfl⟩;obtain ⟨z,hz'⟩ : ∃ z,z=nbZ g.edges k:=⟨_,rfl⟩;rw [<- hN,<- hz'] at hcomp;rw [<- hN,<- hz'];obtain ⟨S,hS⟩ : ∃ S,S=srt (O++I):=⟨_,rfl⟩;rw [<- hS] at hsort hcomp hSl;obtain ⟨C,hC⟩ : ∃ C,C=O++I:=⟨_,rfl⟩;rw [<- hC] at hsort hcomp hSl hcat;have hCt : ∀ f : Int->List AV,(C.map f).take C.length=C.map f:=λ f=>Qb (by simp)
 have hOt : ∀ f : Int->List AV,(O.map f).take O.length=O.map f:=λ f=>Qb (by simp)
 have hIt : ∀ f : Int->List AV,(I.map f).take I.length=I.map f:=λ f=>Qb (by simp)
 refine zaa ⟨15,[(1,.I k),(2,.pv (gC g))],[],100⟩ rfl ?_ ?_
 .simp
  exact LeH [] [16]
 refine zas ⟨15,[(4,.rs 50 0 N.length)],[(50,some ⟨1,zaf N++List.replicate z [.I 0],0⟩)],200⟩ rfl ?_ ?_
 .simp
  refine cn1 hout ?_;simp;refine cn1 hin ?_;simp [zdm];refine zdO [116,140,148] hcat (by simp [fcd,hOt,hIt]) (.rs _ _ _) zm9 ?_
  simp;refine zdO [156] hsort (by simp [fcd,hCt]) (.rs _ _ _) zm9 ?_
  simp;refine zaS (i:=164) rfl (e':=⟨1,rwI S,0⟩) (by simp [fcd]) hcomp (by simp) (by simp) ?_
  simp;exact ⟨rfl,LeI [(164,50)] []⟩
 exact zah ⟨.inr rfl,zao.out [50] [] rfl (by simp) (by simp) (by simp) (by simp [fcd])⟩
theorem zox {α : Type} {a b : List α} {n : Nat} (h : a.length=n) : (a++b).take n=a:=List.take_left' h
theorem zte (l : List Ed) (salt : ByteArray) (k : Int) : (plcs l salt k).length=(nbL l k).length:=by simp [plcs]
theorem zuA (g : Gr) (salt : ByteArray) (k : Int) (hl : g.edges.length<=100000) (hs : salt.size<=100000) (h12 : (nbL g.edges k).length<=12) :
  AcP 199 [eG g,sB salt,.I k] [] (.rs 0 0 (tabL g.edges salt k).length) [some ⟨1,zaf (tabL g.edges salt k),0⟩]:=by
 refine zlg.s.ac ?_;show awp _ 0 _ _ ⟨49,[(0,eG g),(1,sB salt),(2,.I k)],[],16⟩;have hnb:=zfM g k hl;have hMl:=zte g.edges salt k;have hMg : ∀ i (h : i<(nbL g.edges k).length),(plcs g.edges salt k)[i]'(by rw [hMl]; exact h)=⟨(nbL g.edges k)[i],rkS salt k (nbL g.edges k)[i]⟩:=λ i h=>by simp [plcs]
 have htab : tabL g.edges salt k=(zdf cmpP (plcs g.edges salt k)).map (·.k):=rfl
 obtain ⟨z,hz⟩ : ∃ z,z=nbZ g.edges k:=⟨_,rfl⟩;obtain ⟨N,hN⟩ : ∃ N,N=nbL g.edges k:=⟨_,rfl⟩;obtain ⟨M,hM⟩ : ∃ M,M=plcs g.edges salt k:=⟨_,rfl⟩;rw [<- hz] at hnb;simp only [<- hN] at hnb h12 hMl hMg;simp only [<- hM] at hMl hMg htab;obtain ⟨n,hn⟩ : ∃ n,n=N.length:=⟨_,rfl⟩;simp only [<- hn] at hnb h12 hMl;have hTk : ∀ X,List.take n (List.map (λ n=>[AV.I n]) N++X)=List.map (λ n=>[AV.I n]) N:=λ X=>zox (by simp [hn])
 refine zaa ⟨49,[(1,sB salt),(2,.I k),(3,.pv (gC g))],[],50⟩ rfl ?_ ?_
 .simp
  exact LeH [] [16]
 refine zaa ⟨49,[(1,sB salt),(2,.I k),(3,.pv (gC g)),(7,.nilS)],[],100⟩ rfl ?_ ?_
 .simp
  exact LeH [] []
 refine zab (zaa ⟨49,[(1,sB salt),(2,.I k),(7,.nilS),(15,ints N),(16,.I n),(17,.I (0 : Nat))],[],200⟩ rfl ?_ ?_)
 .simp
  refine cn1 hnb ?_;simp;exact Le.go [] [116] rfl rfl (by simp [fcd,hTk,<- hn]) (by simp)
 refine zad ?_
 refine zaj (ι:=Nat) (λ i=>⟨49,[(1,sB salt),(2,.I k),(7,.rs 40 0 i),(15,ints N),(16,.I n),(17,.I i)],[(40,some ⟨2,zaX (M.take i),0⟩)],200⟩) (λ i=>i<=n) (λ i=>n - i) 0 (Qi _)
  (Le.lst [] [] [(40,2)] rfl (by simp) (by simp) (by simp) (by simp) (by simp) (by simp) (by simp) (by simp [Up,fcd]) (by simp)) ?_
 intro i hi;refine zaa ⟨49,[(1,sB salt),(2,.I k),(7,.rs 40 0 i),(15,ints N),(16,.I n),(17,.I i),(18,.B (decide (i<n)))],[(40,some ⟨2,zaX (M.take i),0⟩)],300⟩ rfl ?_ ?_
 .simp
  exact Le.go [(40,40)] [] rfl rfl (by simp [fcd]) (by simp [fcd])
 refine zab (zac _ rfl (λ h=>zae ?_) λ h=>zai (hit ?_))
 .rw [Qe] at h
  have hwi : IntKind.i64.wrap ((i : Int)+1)=((i+1 : Nat) : Int):=by rw [w6]; omega
  have hiN : i<N.length:=by omega
  have hg:=hMg i hiN;have hMs : M.take (i+1)=M.take i++[M[i]]:=by rw [Qp (by omega)]
  rw [hg] at hMs;obtain ⟨x,hx⟩ : ∃ x,x=N[i]:=⟨_,rfl⟩;rw [<- hx] at hMs;have hMil : (M.take i).length=i:=by rw [QW]; omega
  obtain ⟨m,hm⟩ : ∃ m,m=M.take i:=⟨_,rfl⟩;rw [<- hm] at hMil hMs ⊢;have hmt : ∀ f : Plc->List AV,(m.map f).take i=m.map f:=λ f=>Qb (by simp [hMil])
  have htx:=zkd salt (by omega)
  have hTl : (zez salt).length=salt.size+8:=zqX salt;have hTne : zez salt≠[]:=λ e=>by rw [e] at hTl; simp at hTl
  have hi1:=zio (zez salt) k hTne (by omega)
  have hne2 : zez salt++intY k≠[]:=λ e=>hTne (List.append_eq_nil_iff.1 e).1;have hYk : (intY k).length=8:=zfD _;have hYx : (intY x).length=8:=zfD _;have hi2:=zio (zez salt++intY k) x hne2 (by rw [Qh]; omega)
  have hsum:=zkK (zez salt++intY k++intY x) (by rw [Qh,Qh]; omega)
  have hrk : sumB (zez salt++intY k++intY x)=rkS salt k x:=rfl;rw [hrk] at hsum;have hB2l : (zez salt++intY k).length=salt.size+16:=by rw [Qh]; omega
  have hB3l : (zez salt++intY k++intY x).length=salt.size+24:=by rw [Qh]; omega
  rw [hTl] at hi1;rw [hB2l] at hi2;obtain ⟨B1,hB1⟩ : ∃ B,B=zez salt:=⟨_,rfl⟩;obtain ⟨B2,hB2⟩ : ∃ B,B=zez salt++intY k:=⟨_,rfl⟩;obtain ⟨B3,hB3⟩ : ∃ B,B=zez salt++intY k++intY x:=⟨_,rfl⟩;rw [<- hB3] at hsum hi2 hB3l;rw [<- hB2] at hi2 hi1 hB2l;rw [<- hB1] at hi1 htx hTl;have hk1 : ∀ f : Int->List AV,(B1.map f).take (salt.size+8)=B1.map f:=λ f=>Qb (by simp [hTl])
  have hk2 : ∀ f : Int->List AV,(B2.map f).take (salt.size+8+8)=B2.map f:=λ f=>Qb (by simp [hB2l])
  have hk3 : ∀ f : Int->List AV,(B3.map f).take (salt.size+16+8)=B3.map f:=λ f=>Qb (by simp [hB3l])
  obtain ⟨d,hd⟩ : ∃ d,d=rkS salt k x:=⟨_,rfl⟩;rw [<- hd] at hsum hMs;refine zap (ι:=Unit) (λ _=>⟨49,[(1,sB salt),(2,.I k),(7,.rs 40 0 (i+1)),(15,ints N),(16,.I n),(17,.I i)],[(40,some ⟨2,zaX (m++[⟨x,d⟩]),0⟩)],2000⟩) (λ _=>True) ?_ λ _ _=>?_
  .refine zad (zaa ⟨49,[(1,sB salt),(2,.I k),(7,.rs 40 0 i),(9,.I x),(15,ints N),(16,.I n),(17,.I i)],[(40,some ⟨2,zaX m,0⟩)],400⟩ rfl ?_ ?_)
   .simp [hiN,<- hx]
    exact Le.go [(40,40)] [] rfl rfl (by simp [fcd]) (by simp [fcd])
   refine zan rfl ?_;simp;refine cn1 htx ?_;simp;refine zdO [424] hi1 (by simp [fcd,hk1,hTl]) (.rs _ _ _) zuO ?_
   simp;refine zdO [440] hi2 (by simp [fcd,hk2,hB2l]) (.rs _ _ _) zuO ?_
   simp;refine zfE [456] hsum (by simp [fcd,hk3,hB3l]) (.sc _) ?_
   simp [zeQ,zdm,hMil];refine ⟨by omega,by omega,?_⟩
   exact Le.go [(488,40)] [] rfl rfl (by simp [fcd]) (by simp [fcd,hMil,hmt])
  refine zan rfl ?_;simp [hwi,-List.map_take];refine ⟨i+1,by omega,by omega,?_⟩
  rw [hMs];exact Le.go [(40,40)] [] rfl rfl (by simp [fcd]) (by simp [fcd])
 rw [Qc] at h;obtain rfl : i=n:=by omega
 rw [Qb (by omega)]
 have hsort:=ztg 213 cmpP M i hMl h12 λ x _ y _=>zof x y;have hSl : (zdf cmpP M).length=i:=by rw [zqB,hMl]
 rw [htab];rw [Qt,hSl];obtain ⟨S,hS⟩ : ∃ S,S=zdf cmpP M:=⟨_,rfl⟩;rw [<- hS] at hsort hSl ⊢;have hSt : ∀ f : Plc->List AV,(S.map f).take i=S.map f:=λ f=>Qb (by simp [hSl])
 refine zaa ⟨49,[(7,.rs 40 0 i)],[(40,some ⟨2,zaX S,0⟩)],2100⟩ rfl ?_ ?_
 .simp
  refine zaS (i:=40) rfl (e':=⟨2,zaX M,0⟩) (by simp [fcd]) hsort (by simp) (by simp) ?_
  simp;exact LeI [(40,40)] []
 refine zaa ⟨49,[(7,.rs 40 0 i),(10,.nilS)],[(40,some ⟨2,zaX S,0⟩)],2200⟩ rfl ?_ ?_
 .simp
  exact LeI [(40,40)] []
 refine zab (zaa ⟨49,[(10,.nilS),(36,.vs 2 false (zaX S)),(37,.I i),(38,.I (0 : Nat))],[],2300⟩ rfl ?_ ?_)
 .simp
  exact Le.go [] [40] rfl rfl (by simp [fcd,hSt,hSl]) (by simp)
 refine zad ?_
 refine zaj (ι:=Nat) (λ j=>⟨49,[(10,.rs 41 0 j),(36,.vs 2 false (zaX S)),(37,.I i),(38,.I j)],[(41,some ⟨1,zaf ((S.take j).map (·.k)),0⟩)],2300⟩) (λ j=>j<=i) (λ j=>i - j) 0 (Qi _)
  (Le.lst [] [] [(41,1)] rfl (by simp) (by simp) (by simp) (by simp) (by simp) (by simp) (by simp) (by simp [Up,fcd]) (by simp)) ?_
 intro j hj;refine zaa ⟨49,[(10,.rs 41 0 j),(36,.vs 2 false (zaX S)),(37,.I i),(38,.I j),(39,.B (decide (j<i)))],[(41,some ⟨1,zaf ((S.take j).map (·.k)),0⟩)],2400⟩ rfl ?_ ?_
 .simp
  exact Le.go [(41,41)] [] rfl rfl (by simp [fcd]) (by simp [fcd])
 refine zab (zac _ rfl (λ h=>zae ?_) λ h=>zai (hit ?_))
 .rw [Qe] at h
  have hwj : IntKind.i64.wrap ((j : Int)+1)=((j+1 : Nat) : Int):=by rw [w6]; omega
  have hjS : j<S.length:=by omega
  have hSs : (S.take (j+1)).map (·.k)=(S.take j).map (·.k)++[S[j].k]:=by rw [Qp hjS,Q4]; rfl
  obtain ⟨y,hy⟩ : ∃ y,y=S[j]:=⟨_,rfl⟩;rw [<- hy] at hSs;have hTl : ((S.take j).map (·.k)).length=j:=by rw [Qt,QW]; omega
  obtain ⟨T,hT⟩ : ∃ T,T=(S.take j).map (·.k):=⟨_,rfl⟩
  rw [<- hT] at hTl hSs ⊢;have hTt : ∀ f : Int->List AV,(T.map f).take j=T.map f:=λ f=>Qb (by simp [hTl])
  refine zap (ι:=Unit) (λ _=>⟨49,[(10,.rs 41 0 (j+1)),(36,.vs 2 false (zaX S)),(37,.I i),(38,.I j)],[(41,some ⟨1,zaf (T++[y.k]),0⟩)],2700⟩) (λ _=>True) ?_ λ _ _=>?_
  .refine zad (zaa ⟨49,[(10,.rs 41 0 j),(12,.pv (pcC y)),(36,.vs 2 false (zaX S)),(37,.I i),(38,.I j)],[(41,some ⟨1,zaf T,0⟩)],2500⟩ rfl ?_ ?_)
   .simp [hjS,<- hy,zat]
    exact Le.go [(41,41)] [2416] rfl rfl (by simp [fcd]) (by simp [fcd])
   refine zan rfl ?_;simp [zdm,hTl];refine ⟨by omega,by omega,?_⟩
   exact Le.go [(2532,41)] [] rfl rfl (by simp [fcd]) (by simp [fcd,hTl,hTt])
  refine zan rfl ?_;simp [hwj,-List.map_take,-List.map_map];refine ⟨j+1,by omega,by omega,?_⟩
  rw [hSs];exact Le.go [(41,41)] [] rfl rfl (by simp [fcd]) (by simp [fcd])
 rw [Qc] at h;obtain rfl : j=i:=by omega
 rw [Qb (by omega)]
 refine zaa ⟨49,[(6,.rs 41 0 j)],[(41,some ⟨1,zaf (S.map (·.k)),0⟩)],2800⟩ rfl ?_ ?_
 .simp
  exact LeI [(41,41)] []
 exact zah ⟨.inr rfl,zao.out [41] [] rfl (by simp) (by simp) (by simp) (by simp [fcd])⟩
abbrev wkC (g : Gr) (salt : ByteArray) (m : Nat) : List AV:=[.I g.size,eEs g.edges,ints g.gone,sB salt,.mp m]
abbrev wkA (g : Gr) (salt : ByteArray) (m : Nat) : AV:=.agg (wkC g salt m)
def visK (T : Int->List Int) (k x : Int) (ks : List Int) : Nat->List Int
 | 0=>ks
 | i+1=>addK (visK T k x ks i) (rtP T k x i).2
def allK (T : Int->List Int) (k : Int) (n : Nat) (ks : List Int) : List Int->List Int
 | []=>ks
 | x::l=>allK T k n (visK T k x ks (n - 1)) l
theorem zl3 (T : Int->List Int) (k : Int) (n : Nat) : ∀ (l : List Int) (ks : List Int) (x : Int),allK T k n ks (l++[x])=visK T k x (allK T k n ks l) (n - 1)
 | [],_,_=>rfl
 | y::l,ks,x=>zl3 T k n l _ x
structure Sml (g : Gr) (salt : ByteArray) : Prop where
 e : g.edges.length<=100000
 s : salt.size<=100000
 n : ∀ k,(nbL g.edges k).length<=12
section
variable {g : Gr} {salt : ByteArray}
theorem zqK (hg : Sml g salt) (ks : List Int) (key : Int) :
  AcP 171 [wkA g salt 0,.I key] [⟨0,mapT (tabL g.edges salt) ks,0⟩] (ints (tabL g.edges salt key)) [some ⟨0,mapT (tabL g.edges salt) (addK ks key),0⟩]:=by
 refine zeS.s.acalls (nbz rfl) (nbz rfl) (nbz rfl) ?_;show awp _ 1 _ _ ⟨27,[(0,wkA g salt 0),(1,.I key)],[(0,some ⟨0,mapT (tabL g.edges salt) ks,0⟩)],16⟩;have htab:=zuA g salt key hg.e hg.s (hg.n key);obtain ⟨T,hT⟩ : ∃ T,T=tabL g.edges salt:=⟨_,rfl⟩;rw [<- hT] at htab ⊢;have hfind:=zmy T key ks;have hset:=zoM T key ks;have hcv:=zef T ks;have hcv2:=zef T (ks++[key]);obtain ⟨X,hX⟩ : ∃ X,X=mapT T ks:=⟨_,rfl⟩;rw [<- hX] at hfind hset hcv ⊢;have hTt : ∀ f : Int->List AV,((T key).map f).take (T key).length=(T key).map f:=λ f=>Qb (by simp)
 refine zaa ⟨27,[(1,.I key),(2,.pt 16 0 0)],[(0,some ⟨0,X,0⟩),(16,some ⟨5,[wkC g salt 0],0⟩)],50⟩ rfl ?_ ?_
 .simp
  exact Le.go [(0,0),(16,16)] [] rfl rfl (by simp) (by simp [fcd,hcv])
 by_cases hk : key∈ks
 .rw [if_pos hk] at hfind
  have hadd : addK ks key=ks:=if_pos hk;rw [hadd,<- hX];refine zaa ⟨27,[(5,ints (T key)),(6,.B true)],[(0,some ⟨0,X,0⟩)],150⟩ rfl ?_ ?_
  .simp [hfind]
   exact Le.go [(0,0)] [] rfl rfl (by simp [fcd]) (by simp [fcd,hcv])
  refine zab (zaa ⟨27,[(5,ints (T key)),(15,.B false)],[(0,some ⟨0,X,0⟩)],250⟩ rfl ?_ ?_)
  .simp
   exact Le.go [(0,0)] [] rfl rfl (by simp [fcd]) (by simp [fcd,hcv])
  refine zac _ rfl (λ h=>by cases h) λ _=>?_
  refine zae (zaa ⟨27,[(4,ints (T key))],[(0,some ⟨0,X,0⟩)],350⟩ rfl ?_ ?_)
  .simp
   exact Le.go [(0,0)] [] rfl rfl (by simp [fcd]) (by simp [fcd,hcv])
  exact zah ⟨.inr rfl,zao.k1 rfl (by simp [fcd]) (by simp [fcd,hcv])⟩
 .rw [if_neg hk] at hfind
  have hset:=hset hk;have hadd : addK ks key=ks++[key]:=if_neg hk;rw [hadd];obtain ⟨Y,hY⟩ : ∃ Y,Y=mapT T (ks++[key]):=⟨_,rfl⟩;rw [<- hY] at hset hcv2 ⊢;refine zaa ⟨27,[(1,.I key),(2,.pt 16 0 0),(6,.B false)],[(0,some ⟨0,X,0⟩),(16,some ⟨5,[wkC g salt 0],0⟩)],150⟩ rfl ?_ ?_
  .simp [hfind]
   exact Le.go [(0,0),(16,16)] [] rfl rfl (by simp [fcd]) (by simp [fcd,hcv])
  refine zap (ι:=Unit) (λ _=>⟨27,[(5,ints (T key))],[(0,some ⟨0,Y,0⟩)],500⟩) (λ _=>True) ?_ λ _ _=>?_
  .refine zaa ⟨27,[(1,.I key),(2,.pt 16 0 0),(15,.B true)],[(0,some ⟨0,X,0⟩),(16,some ⟨5,[wkC g salt 0],0⟩)],250⟩ rfl ?_ ?_
   .simp
    exact Le.go [(0,0),(16,16)] [] rfl rfl (by simp [fcd]) (by simp [fcd,hcv])
   refine zac _ rfl (λ _=>?_) λ h=>by cases h
   refine zaa ⟨27,[(1,.I key),(2,.pt 16 0 0),(5,ints (T key))],[(0,some ⟨0,X,0⟩),(16,some ⟨5,[wkC g salt 0],0⟩)],350⟩ rfl ?_ ?_
   .simp
    refine zdg htab (by simp [fcd]) ?_
    simp;exact Le.go [(0,0),(16,16)] [290] rfl rfl (by simp [fcd,hTt]) (by simp [fcd,hcv])
   refine zan rfl ?_;simp;rw [show mset key (ints (T key)) X=Y from hset]
   exact Le.go [(0,0)] [] rfl rfl (by simp [fcd]) (by simp [fcd,hcv2])
  refine zaa ⟨27,[(4,ints (T key))],[(0,some ⟨0,Y,0⟩)],550⟩ rfl ?_ ?_
  .simp
   exact Le.go [(0,0)] [] rfl rfl (by simp [fcd]) (by simp [fcd,hcv2])
  exact zah ⟨.inr rfl,zao.k1 rfl (by simp [fcd]) (by simp [fcd,hcv2])⟩
theorem zw7 {l : List Int} {x : Int} (h : x∈l) : idxI l x=(l.idxOf x : Int):=if_pos h
theorem zso (hg : Sml g salt) (ks : List Int) (key x : Int) (n : Nat) (h1 : 1<=n) (hn : n<=100) (hx : x∈nbL g.edges key) :
  AcP 135 [wkA g salt 0,.I key,.I x,.I n] [⟨0,mapT (tabL g.edges salt) ks,0⟩] (.rs 1 0 (n+1))
   [some ⟨0,mapT (tabL g.edges salt) (visK (tabL g.edges salt) key x ks (n - 1)),0⟩,some ⟨1,zaf (rtL (tabL g.edges salt) key x n),0⟩]:=by
 refine zeT.s.acalls (nbz rfl) (nbz rfl) (by simp) ?_
 show awp _ 1 _ _ ⟨49,[(0,wkA g salt 0),(1,.I key),(2,.I x),(3,.I n)],[(0,some ⟨0,mapT (tabL g.edges salt) ks,0⟩)],16⟩;have htab:=λ ks key=>zqK hg ks key;have hfrom:=λ i=>zvK (salt:=salt) hx i;have hTl : ∀ k,(tabL g.edges salt k).length<=12:=λ k=>by rw [(zne _ _ _).length_eq]; exact hg.n k
 obtain ⟨T,hT⟩ : ∃ T,T=tabL g.edges salt:=⟨_,rfl⟩;simp only [<- hT] at htab hfrom hTl ⊢;have hcv:=λ ks=>zef T ks;refine zaa ⟨49,[(1,.I key),(2,.I x),(3,.I n),(4,.pt 16 0 0)],[(0,some ⟨0,mapT T ks,0⟩),(16,some ⟨5,[wkC g salt 0],0⟩)],50⟩ rfl ?_ ?_
 .simp
  exact Le.go [(0,0),(16,16)] [] rfl rfl (by simp) (by simp [fcd,hcv])
 refine zaa ⟨49,[(3,.I n),(4,.pt 16 0 0),(9,.rs 40 0 2)],[(0,some ⟨0,mapT T ks,0⟩),(16,some ⟨5,[wkC g salt 0],0⟩),(40,some ⟨1,zaf [key,x],0⟩)],150⟩ rfl ?_ ?_
 .simp [zdm]
  exact Le.go [(0,0),(16,16),(66,40)] [] rfl rfl (by simp) (by simp [fcd,hcv])
 refine zab (zad ?_)
 refine zaj (ι:=Nat) (λ j=>⟨49,[(3,.I n),(4,.pt 16 0 0),(9,.rs 40 0 (j+2))],[(0,some ⟨0,mapT T (visK T key x ks j),0⟩),(16,some ⟨5,[wkC g salt 0],0⟩),(40,some ⟨1,zaf (rtL T key x (j+1)),0⟩)],150⟩) (λ j=>j+1<=n) (λ j=>n - j) 0 (by omega)
  (Le.go [(0,0),(16,16),(40,40)] [] rfl rfl (by simp) (by simp [fcd,hcv,visK,zv3])) ?_
 intro j hj;obtain ⟨ksj,hksj⟩ : ∃ k,k=visK T key x ks j:=⟨_,rfl⟩;have hksS : visK T key x ks (j+1)=addK ksj (rtP T key x j).2:=by rw [hksj]; rfl
 rw [<- hksj];have hRl:=zog T key x (j+1);obtain ⟨hR1,hR2⟩:=zwL T key x j;have hRs:=ztR T key x (j+1);have hrt : (rtP T key x (j+1)).2=nxtT (T (rtP T key x j).2) (rtP T key x j).1:=rfl;rw [hrt] at hRs;have hin:=hfrom j;have hTa:=hTl (rtP T key x j).2;obtain ⟨from_,hfr⟩ : ∃ a,a=(rtP T key x j).1:=⟨_,rfl⟩;obtain ⟨at_,hat⟩ : ∃ a,a=(rtP T key x j).2:=⟨_,rfl⟩;rw [<- hfr,<- hat] at hRs hin;rw [<- hfr] at hR1;rw [<- hat] at hR2 hksS hTa;obtain ⟨R,hR⟩ : ∃ R,R=rtL T key x (j+1):=⟨_,rfl⟩;rw [<- hR] at hRl hR1 hR2 hRs ⊢;have hg1 : (R.map λ n=>[AV.I n])[j]? = some [AV.I from_]:=by rw [Qs,hR1]; rfl
 have hg2 : (R.map λ n=>[AV.I n])[j+1]? = some [AV.I at_]:=by rw [Qs,hR2]; rfl
 refine zab (zaa ⟨49,[(3,.I n),(4,.pt 16 0 0),(9,.rs 40 0 (j+2)),(19,.B (decide (j+2<=n)))],[(0,some ⟨0,mapT T ksj,0⟩),(16,some ⟨5,[wkC g salt 0],0⟩),(40,some ⟨1,zaf R,0⟩)],250⟩ rfl ?_ ?_)
 .simp
  exact Le.go [(0,0),(16,16),(40,40)] [] rfl rfl (by simp <;> exact wkB (by rw [QE]; simp; omega)) (by simp [fcd,hcv])
 refine zac _ rfl (λ h=>zae ?_) λ h=>zai (hit ?_)
 .rw [Qe] at h
  have hw1 : IntKind.i64.wrap (((j : Int)+2) - 2)=(j : Int):=by rw [w6]; omega
  have hw2 : IntKind.i64.wrap (((j : Int)+2) - 1)=((j+1 : Nat) : Int):=by rw [w6]; omega
  obtain ⟨t,ht⟩ : ∃ t,t=T at_:=⟨_,rfl⟩;rw [<- ht] at hin hTa hRs;obtain ⟨i,hi⟩ : ∃ i,i=t.idxOf from_:=⟨_,rfl⟩;have hil : i<t.length:=by rw [hi]; exact List.idxOf_lt_length_of_mem hin
  have hidx:=zb0 t from_ (by omega)
  rw [zw7 hin,<- hi] at hidx;have hwi : IntKind.i64.wrap ((i : Int)+1)=((i+1 : Nat) : Int):=by rw [w6]; omega
  obtain ⟨q,hq⟩ : ∃ q,q=(i+1) % t.length:=⟨_,rfl⟩;have hql : q<t.length:=by rw [hq]; exact Uj _ (by omega)
  have hrem : Int.tmod ((i : Int)+1) (t.length : Int)=(q : Int):=by
   show Int.tmod ((i+1 : Nat) : Int) (t.length : Int)=(q : Int);rw [hq];rfl
  have hwj : IntKind.i64.wrap (j : Int)=(j : Int):=w6;obtain ⟨y,hy⟩ : ∃ y,y=nxtT t from_:=⟨_,rfl⟩
  have hty : t[q]=y:=by
   rw [hy,nxtT,<- hi,<- hq,Qd,Qa hql];rfl
  have htq : (t.map λ n=>[AV.I n])[q]? = some [AV.I y]:=by rw [Qs,Qa hql,hty]; rfl
  rw [<- hy] at hRs;have htl0 : ¬ t.length=0:=by omega
  have hRt : ∀ f : Int->List AV,(R.map f).take (j+2)=R.map f:=λ f=>Qb (by simp [hRl])
  have htab:=htab ksj at_;rw [<- ht] at htab;refine zad (zas ⟨49,[(3,.I n),(4,.pt 16 0 0),(9,.rs 40 0 (j+2)),(10,.I from_),(11,.I at_)],[(0,some ⟨0,mapT T ksj,0⟩),(16,some ⟨5,[wkC g salt 0],0⟩),(40,some ⟨1,zaf R,0⟩)],350⟩ rfl ?_ ?_)
  .have hl1 : (j : Int)<(j : Int)+2:=by omega
   have hl2 : (j : Int)+1<(j : Int)+2:=by omega
   have hl3 : 0<=(j : Int)+1:=by omega
   have ht1 : ((j : Int)+1).toNat=j+1:=by omega
   simp [hw1,hw2,hwj,hg1,hg2,hl1,hl2,hl3,ht1];exact ⟨rfl,Le.go [(0,0),(16,16),(40,40)] [] rfl rfl (by simp) (by simp [fcd,hcv])⟩
  refine zaa ⟨49,[(3,.I n),(4,.pt 16 0 0),(9,.rs 40 0 (j+2)),(10,.I from_),(12,ints t)],[(0,some ⟨0,mapT T (addK ksj at_),0⟩),(16,some ⟨5,[wkC g salt 0],0⟩),(40,some ⟨1,zaf R,0⟩)],450⟩ rfl ?_ ?_
  .simp
   refine zaS (i:=0) rfl (e':=⟨0,mapT T ksj,0⟩) (by simp [hcv]) htab (by simp) (by simp [fcd]) ?_
   simp [fcd,hcv];exact Le.go [(0,0),(16,16),(40,40)] [] rfl rfl (by simp [fcd]) (by simp [fcd,hcv])
  refine zan rfl ?_;simp;refine zau hidx (by simp [fcd]) ?_
  simp [hwi,hrem,htl0,hql,htq,hty,zdm,hRl];refine ⟨by omega,by omega,j+1,by omega,by omega,?_⟩
  rw [hRs,hksS];exact Le.go [(0,0),(16,16),(546,40)] [] rfl rfl (by simp) (by simp [fcd,hcv,hRl,hRt])
 rw [Qc] at h;obtain rfl : n=j+1:=by omega
 rw [Nat.add_sub_cancel,<- hksj,<- hR];refine zaa ⟨49,[(8,.rs 40 0 (j+2))],[(0,some ⟨0,mapT T ksj,0⟩),(40,some ⟨1,zaf R,0⟩)],2000⟩ rfl ?_ ?_
 .simp
  exact Le.go [(0,0),(40,40)] [] rfl rfl (by simp) (by simp [fcd,hcv])
 exact zah ⟨.inr rfl,zao.k1n 40 (by omega) rfl (by simp) (by simp [fcd,hcv]) (by simp [fcd])⟩
theorem zu7 (hg : Sml g salt) (ks : List Int) (key : Int) (n : Nat) (h1 : 1<=n) (hn : n<=100) :
  AcP 93 [wkA g salt 0,.I key,.I n] [⟨0,mapT (tabL g.edges salt) ks,0⟩] (.rs 1 0 (nbL g.edges key).length)
   [some ⟨0,mapT (tabL g.edges salt) (allK (tabL g.edges salt) key n ks (nbL g.edges key)),0⟩,some ⟨1,(nbL g.edges key).map λ x=>[ints (rtL (tabL g.edges salt) key x n)],0⟩]:=by
 refine zfZ.s.acalls (nbz rfl) (nbz rfl) (by simp) ?_
 show awp _ 1 _ _ ⟨32,[(0,wkA g salt 0),(1,.I key),(2,.I n)],[(0,some ⟨0,mapT (tabL g.edges salt) ks,0⟩)],16⟩;have hroute:=λ ks x hx=>zso hg ks key x n h1 hn hx;have hnb:=zfM g key hg.e;have hNl:=hg.n key;obtain ⟨T,hT⟩ : ∃ T,T=tabL g.edges salt:=⟨_,rfl⟩;simp only [<- hT] at hroute ⊢;have hcv:=λ ks=>zef T ks;obtain ⟨z,hz⟩ : ∃ z,z=nbZ g.edges key:=⟨_,rfl⟩;obtain ⟨N,hN⟩ : ∃ N,N=nbL g.edges key:=⟨_,rfl⟩;rw [<- hz] at hnb;simp only [<- hN] at hnb hroute hNl ⊢;obtain ⟨q,hq⟩ : ∃ q,q=N.length:=⟨_,rfl⟩;simp only [<- hq] at hnb hNl ⊢;have hTk : ∀ X,List.take q (List.map (λ n=>[AV.I n]) N++X)=List.map (λ n=>[AV.I n]) N:=λ X=>zox (by simp [hq])
 refine zaa ⟨32,[(1,.I key),(2,.I n),(3,.pt 16 0 0)],[(0,some ⟨0,mapT T ks,0⟩),(16,some ⟨5,[wkC g salt 0],0⟩)],50⟩ rfl ?_ ?_
 .simp
  exact Le.go [(0,0),(16,16)] [] rfl rfl (by simp) (by simp [fcd,hcv])
 refine zaa ⟨32,[(1,.I key),(2,.I n),(3,.pt 16 0 0),(7,.nilS)],[(0,some ⟨0,mapT T ks,0⟩),(16,some ⟨5,[wkC g salt 0],0⟩)],100⟩ rfl ?_ ?_
 .simp
  exact Le.go [(0,0),(16,16)] [] rfl rfl (by simp) (by simp [fcd,hcv])
 refine zaa ⟨32,[(1,.I key),(2,.I n),(3,.pt 16 0 0),(7,.nilS),(8,.fn (.func 135) [wkA g salt 0] [])],[(0,some ⟨0,mapT T ks,0⟩),(16,some ⟨5,[wkC g salt 0],0⟩)],150⟩ rfl ?_ ?_
 .simp
  exact Le.go [(0,0),(16,16)] [] rfl rfl (by simp [fcd]) (by simp [fcd,hcv])
 refine zab (zaa ⟨32,[(1,.I key),(2,.I n),(7,.nilS),(8,.fn (.func 135) [wkA g salt 0] []),(16,ints N),(17,.I q),(18,.I (0 : Nat))],[(0,some ⟨0,mapT T ks,0⟩)],250⟩ rfl ?_ ?_)
 .simp
  refine zdg hnb (by simp [fcd]) ?_
  simp;exact Le.go [(0,0)] [174] rfl rfl (by simp [fcd,hTk,<- hq]) (by simp [fcd,hcv])
 refine zad ?_
 refine zaj (ι:=Nat) (λ i=>⟨32,[(1,.I key),(2,.I n),(7,.rs 40 0 i),(8,.fn (.func 135) [wkA g salt 0] []),(16,ints N),(17,.I q),(18,.I i)],[(0,some ⟨0,mapT T (allK T key n ks (N.take i)),0⟩),(40,some ⟨1,(N.take i).map λ x=>[ints (rtL T key x n)],0⟩)],250⟩) (λ i=>i<=q) (λ i=>q - i) 0 (Qi _)
  (Le.lst [(0,0)] [] [(40,1)] rfl (by simp) (by simp) (by simp) (by simp) (by simp) (by simp) (by simp) (by simp [Up,fcd]) (by simp [fcd,hcv,allK,zaA.eq])) ?_
 intro i hi;obtain ⟨ksi,hksi⟩ : ∃ k,k=allK T key n ks (N.take i):=⟨_,rfl⟩;rw [<- hksi];refine zaa ⟨32,[(1,.I key),(2,.I n),(7,.rs 40 0 i),(8,.fn (.func 135) [wkA g salt 0] []),(16,ints N),(17,.I q),(18,.I i),(19,.B (decide (i<q)))],[(0,some ⟨0,mapT T ksi,0⟩),(40,some ⟨1,(N.take i).map λ x=>[ints (rtL T key x n)],0⟩)],350⟩ rfl ?_ ?_
 .simp
  exact Le.go [(0,0),(40,40)] [] rfl rfl (by simp [fcd]) (by simp [fcd,hcv])
 refine zab (zac _ rfl (λ h=>zae ?_) λ h=>zai (hit ?_))
 .rw [Qe] at h
  have hwi : IntKind.i64.wrap ((i : Int)+1)=((i+1 : Nat) : Int):=by rw [w6]; omega
  have hiN : i<N.length:=by omega
  have hNs : N.take (i+1)=N.take i++[N[i]]:=by rw [Qp hiN]
  have hxm : N[i]∈N:=Qj hiN;obtain ⟨x,hx⟩ : ∃ x,x=N[i]:=⟨_,rfl⟩;rw [<- hx] at hNs hxm;have hcall:=hroute ksi x hxm;have hal : allK T key n ks (N.take (i+1))=visK T key x ksi (n - 1):=by rw [hNs,zl3,<- hksi]
  rw [hNs] at hal;have hml : (N.take i).length=i:=by rw [QW]; omega
  obtain ⟨m,hm⟩ : ∃ m,m=N.take i:=⟨_,rfl⟩;rw [<- hm] at hml hal hNs ⊢;have hmt : ∀ f : Int->List AV,(m.map f).take i=m.map f:=λ f=>Qb (by simp [hml])
  have hrl:=zog T key x n;obtain ⟨R,hR⟩ : ∃ R,R=rtL T key x n:=⟨_,rfl⟩;rw [<- hR] at hcall hrl;have hRt : ∀ f : Int->List AV,(R.map f).take (n+1)=R.map f:=λ f=>Qb (by simp [hrl])
  refine zap (ι:=Unit) (λ _=>⟨32,[(1,.I key),(2,.I n),(7,.rs 40 0 (i+1)),(8,.fn (.func 135) [wkA g salt 0] []),(16,ints N),(17,.I q),(18,.I i)],[(0,some ⟨0,mapT T (visK T key x ksi (n - 1)),0⟩),(40,some ⟨1,(m++[x]).map λ x=>[ints (rtL T key x n)],0⟩)],1000⟩) (λ _=>True) ?_ λ _ _=>?_
  .refine zad (zaa ⟨32,[(1,.I key),(2,.I n),(7,.rs 40 0 i),(8,.fn (.func 135) [wkA g salt 0] []),(10,.I x),(16,ints N),(17,.I q),(18,.I i)],[(0,some ⟨0,mapT T ksi,0⟩),(40,some ⟨1,m.map λ x=>[ints (rtL T key x n)],0⟩)],450⟩ rfl ?_ ?_)
   .simp [hiN,<- hx]
    exact Le.go [(0,0),(40,40)] [] rfl rfl (by simp [fcd]) (by simp [fcd,hcv])
   refine zan rfl ?_;simp;refine zaS (i:=0) rfl (e':=⟨0,mapT T ksi,0⟩) (by simp [hcv]) hcall (by simp) (by simp [fcd]) ?_
   simp [fcd,hcv,zdm,hml];refine ⟨by omega,by omega,?_⟩
   exact Le.go [(0,0),(506,40)] [490] rfl rfl (by simp [fcd]) (by simp [fcd,hcv,hml,hmt,hRt,hrl,<- hR])
  refine zan rfl ?_;simp [hwi,-List.map_take];refine ⟨i+1,by omega,by omega,?_⟩
  rw [hNs,hal];exact Le.go [(0,0),(40,40)] [] rfl rfl (by simp [fcd]) (by simp [fcd,hcv])
 rw [Qc] at h;obtain rfl : i=q:=by omega
 have hNt : N.take i=N:=Qb (by omega)
 rw [hNt] at hksi;rw [hNt,<- hksi];refine zaa ⟨32,[(6,.rs 40 0 i)],[(0,some ⟨0,mapT T ksi,0⟩),(40,some ⟨1,N.map λ x=>[ints (rtL T key x n)],0⟩)],2000⟩ rfl ?_ ?_
 .simp
  exact Le.go [(0,0),(40,40)] [] rfl rfl (by simp) (by simp [fcd,hcv])
 exact zah ⟨.inr rfl,zao.k1n 40 (by omega) rfl (by simp) (by simp [fcd,hcv]) (by simp [fcd])⟩
theorem zqG (n : Int) : AcP 91 [.I n] [] (.B (decide (1<=n/\n<=100))) []:=by
 refine zjl.s.ac ?_;show awp _ 0 _ _ ⟨5,[(0,.I n)],[],16⟩;refine rs [0] [] [] ?_;refine zaa ⟨5,[(2,.B (decide (1<=n/\n<=100)))],[],100⟩ rfl ?_ ?_
 .simp
  refine cl0 (zaJ n 1 100) ?_;simp;exact LeH [] []
 exact zaI
theorem zsq : AcP 92 [eG g,sB salt] [] (wkA g salt 0) [some ⟨0,[],0⟩]:=by
 refine zkR.s.ac ?_;show awp _ 0 _ _ ⟨9,[(0,eG g),(1,sB salt)],[],16⟩;refine zaa ⟨9,[(1,sB salt),(2,.pv (gC g)),(4,.pt 24 0 0)],[(24,some ⟨5,[[.I 0,.nilS,.nilS,.sc (.string ⟨#[]⟩),.sc (.map none)]],0⟩)],50⟩ rfl ?_ ?_
 .simp
  exact LeH [(24,24)] [16]
 refine zaa ⟨9,[(4,.pt 24 0 0)],[(24,some ⟨5,[wkC g salt 66],0⟩),(66,some ⟨0,[],0⟩)],150⟩ rfl ?_ ?_
 .simp [zeQ,zat]
  exact LeI [(24,24),(66,66)] []
 exact zah ⟨.inr rfl,zao.out [66] [24] rfl (by simp) (by simp) (by simp [fcd]) (by simp)⟩
theorem zkJ (keys : List Int) (hk : keys.length<=100000) (x : Int) : AcP 95 [.I x,.pv [ints keys]] [] (.B (decide (x∈keys))) []:=by
 refine zf5.s.ac ?_;show awp _ 0 _ _ ⟨7,[(0,.I x),(1,.pv [ints keys])],[],16⟩;refine rs [0,1] [] [] ?_;refine zaa ⟨7,[(3,.B (decide (x∈keys)))],[],100⟩ rfl ?_ ?_
 .simp
  refine zau (zbb keys x (by omega)) (by simp [fcd]) ?_
  simp;exact LeH [] []
 exact zaI
def escN (T : Int->List Int) (k : Int) (n : Nat) (keys N : List Int) (i : Nat) : Nat:=((N.take i).filter λ x=>(rtL T k x n).any λ y=>decide (y∈keys)).length
theorem zsA (T : Int->List Int) (k : Int) (n : Nat) (keys N : List Int) {i : Nat} (h : i<N.length) : escN T k n keys N (i+1)=escN T k n keys N i+if (rtL T k N[i] n).any (λ y=>decide (y∈keys))=true then 1 else 0:=by
 unfold escN;rw [Qp h,UJ,Qh,List.filter_cons];split <;> simp
theorem zva (T : Int->List Int) (k : Int) (n : Nat) (keys N : List Int) (i : Nat) : escN T k n keys N i<=N.length:=by
 unfold escN;exact QH (QV _ _) (by rw [QW]; omega)
theorem zpJ (hg : Sml g salt) (key n : Int) (keys : List Int) (hk : keys.length<=100000) :
  AcP 45 [eG g,sB salt,.I key,.I n,ints keys] [] (.I (escL g.edges salt key n keys)) []:=by
 refine zh2.s.ac ?_;show awp _ 0 _ _ ⟨35,[(0,eG g),(1,sB salt),(2,.I key),(3,.I n),(4,ints keys)],[],16⟩;refine zaa ⟨35,[(1,sB salt),(2,.I key),(3,.I n),(5,.pv (gC g)),(9,.pv [ints keys])],[],50⟩ rfl ?_ ?_
 .simp
  exact Le.go [] [16,24] rfl rfl (by simp [fcd]) (by simp)
 refine zab (zaa ⟨35,[(1,sB salt),(2,.I key),(3,.I n),(5,.pv (gC g)),(9,.pv [ints keys]),(16,.B (!decide (1<=n/\n<=100)))],[],150⟩ rfl ?_ ?_)
 .simp
  refine cl0 (zqG n) ?_;simp;exact Le.go [] [] rfl rfl (by simp [fcd]) (by simp)
 refine zac _ rfl (λ h=>?_) λ h=>?_
 .have h : ¬ (1<=n/\n<=100):=λ hh=>by rw [U3 hh] at h; cases h
  have he : escL g.edges salt key n keys=0:=if_neg h;rw [he];refine rs [10] [] [] ?_;exact zaI
 have h : 1<=n/\n<=100:=Uh λ hh=>by rw [UX hh] at h; cases h
 obtain ⟨m,rfl⟩ : ∃ m : Nat,n=(m : Int):=⟨n.toNat,by omega⟩
 have he : escL g.edges salt key (m : Int) keys=(escN (tabL g.edges salt) key m keys (nbL g.edges key) (nbL g.edges key).length : Nat):=by
  unfold escL escN;rw [if_pos h,Q1,UC]
 have hall:=zu7 hg [] key m (by omega) (by omega)
 have hes:=λ i h=>zsA (tabL g.edges salt) key m keys (nbL g.edges key) (i:=i) h;have hel:=λ i=>zva (tabL g.edges salt) key m keys (nbL g.edges key) i;have hN12:=hg.n key;rw [he];obtain ⟨T,hT⟩ : ∃ T,T=tabL g.edges salt:=⟨_,rfl⟩;simp only [<- hT] at hall hes hel ⊢;have hcv:=λ ks=>zef T ks;have hm0 : mapT T []=[]:=rfl;rw [hm0] at hall;obtain ⟨N,hN⟩ : ∃ N,N=nbL g.edges key:=⟨_,rfl⟩;simp only [<- hN] at hall hes hel hN12 ⊢;obtain ⟨q,hq⟩ : ∃ q,q=N.length:=⟨_,rfl⟩;simp only [<- hq] at hall hel hN12 ⊢;obtain ⟨V,hV⟩ : ∃ V : List (List AV),V=N.map λ x=>[ints (rtL T key x m)]:=⟨_,rfl⟩;have hVl : V.length=q:=by rw [hV,Qt,hq]
 have hVt : V.take q=V:=Qb (by omega)
 have hVf : ∀ ρ sn h m,V.map (List.map (conv ρ sn h (m+2)))=V:=λ ρ sn h m=>by rw [hV]; simp [fcd]
 have hVg : ∀ i (h : i<N.length),V[i]? = some [ints (rtL T key N[i] m)]:=λ i h=>by rw [hV,Qs,Qa h]; rfl
 rw [<- hV] at hall;obtain ⟨E,hE⟩ : ∃ E : Nat->Nat,E=escN T key m keys N:=⟨_,rfl⟩;rw [<- hE] at hes hel ⊢;have hE0 : E 0=0:=by rw [hE]; rfl
 refine zae (zaa ⟨35,[(1,sB salt),(2,.I key),(3,.I m),(5,.pv (gC g)),(9,.pv [ints keys]),(11,.I 0)],[],200⟩ rfl ?_ ?_)
 .simp
  exact Le.go [] [] rfl rfl (by simp [fcd]) (by simp)
 refine zab (zaa ⟨35,[(9,.pv [ints keys]),(11,.I 0),(22,.vs 1 false V),(23,.I q),(24,.I (0 : Nat))],[],300⟩ rfl ?_ ?_)
 .simp
  refine zdg (zsq (g:=g) (salt:=salt)) (by simp [fcd]) ?_
  simp;refine zaS (i:=216) rfl (e':=⟨0,[],0⟩) (by simp) hall (by simp) (by simp [fcd]) ?_
  simp;exact Le.go [] [240] rfl rfl (by simp [fcd,hVf,hVt,hVl]) (by simp)
 refine zad ?_
 refine zaj (ι:=Nat) (λ i=>⟨35,[(9,.pv [ints keys]),(11,.I (E i)),(22,.vs 1 false V),(23,.I q),(24,.I i)],[],300⟩) (λ i=>i<=q) (λ i=>q - i) 0 (Qi _)
  (Le.go [] [] rfl rfl (by simp [fcd,hVf,hE0]) (by simp)) ?_
 intro i hi;refine zaa ⟨35,[(9,.pv [ints keys]),(11,.I (E i)),(22,.vs 1 false V),(23,.I q),(24,.I i),(25,.B (decide (i<q)))],[],400⟩ rfl ?_ ?_
 .simp
  exact Le.go [] [] rfl rfl (by simp [fcd,hVf]) (by simp)
 refine zab (zac _ rfl (λ h=>zae ?_) λ h=>zai (hit ?_))
 .rw [Qe] at h
  have hwi : IntKind.i64.wrap ((i : Int)+1)=((i+1 : Nat) : Int):=by rw [w6]; omega
  have hiN : i<N.length:=by omega
  have hg1:=hVg i hiN;have hsu:=hes i hiN;have hEi:=hel i;have hrl:=zog T key N[i] m;obtain ⟨R,hR⟩ : ∃ R,R=rtL T key N[i] m:=⟨_,rfl⟩;rw [<- hR] at hg1 hsu hrl;have hany:=zd5 95 [.pv [ints keys]] (λ y=>decide (y∈keys)) R (by omega) (λ _ _ _ _=>by simp [fcd]) λ y _=>zkJ keys hk y
  obtain ⟨b,hb⟩ : ∃ b,b=R.any λ y=>decide (y∈keys):=⟨_,rfl⟩;rw [<- hb] at hany hsu;have hwe : IntKind.i64.wrap ((E i : Int)+1)=((E i+1 : Nat) : Int):=by rw [w6]; omega
  refine zap (ι:=Unit) (λ _=>⟨35,[(9,.pv [ints keys]),(11,.I (E (i+1))),(22,.vs 1 false V),(23,.I q),(24,.I i)],[],1000⟩) (λ _=>True) ?_ λ _ _=>?_
  .refine zad (zaa ⟨35,[(9,.pv [ints keys]),(11,.I (E i)),(13,ints R),(22,.vs 1 false V),(23,.I q),(24,.I i)],[],500⟩ rfl ?_ ?_)
   .simp [hg1]
    exact Le.go [] [] rfl rfl (by simp [fcd,hVf]) (by simp)
   refine zaa ⟨35,[(9,.pv [ints keys]),(11,.I (E i)),(22,.vs 1 false V),(23,.I q),(24,.I i),(30,.B b)],[],600⟩ rfl ?_ ?_
   .simp
    refine zau hany (by simp [fcd]) ?_
    simp;exact Le.go [] [] rfl rfl (by simp [fcd,hVf]) (by simp)
   refine zac _ rfl (λ h5=>?_) λ h5=>?_
   .rw [hsu,if_pos h5]
    refine zan rfl ?_;simp [hwe];exact Le.go [] [] rfl rfl (by simp [fcd,hVf]) (by simp)
   .rw [hsu,if_neg (by rw [h5]; decide)]
    exact zae ⟨(),trivial,Le.go [] [] rfl rfl (by simp [fcd,hVf]) (by simp)⟩
  refine zan rfl ?_;simp [hwi];exact ⟨i+1,by omega,by omega,Le.go [] [] rfl rfl (by simp [fcd,hVf]) (by simp)⟩
 rw [Qc] at h;obtain rfl : i=q:=by omega
 refine zaa ⟨35,[(10,.I (E i))],[],2000⟩ rfl ?_ ?_
 .simp
  exact LeH [] []
 exact zaI
end
variable {N : Nat} {A : List Ed} {f : List Int}
structure GStp where
 gone : Bool
 e : Ed
def HasE (g : Gr) (f t : Int) : Prop:=∃ x∈g.edges,x.f=f/\x.t=t
theorem Bef.asymm {a b : Ed} (h : Bef a b) : ¬ Bef b a:=by unfold Bef at *; omega
theorem Bef.irrefl (a : Ed) : ¬ Bef a a:=by unfold Bef; omega
theorem GrOk.of {s : Int} {E : List Ed} {go : List Int} (h0 : 0<=s) (h1 : s<=64) (hl : E.length<=500) (hg : Rise go 0 (s - 1)) (hp : E.Pairwise Bef) (hf : ∀ e∈E,Fits ⟨s,E,go⟩ e/\1<=e.v/\e.v<=3) : GrOk ⟨s,E,go⟩ :=
 ⟨⟨h0,h1,hl,hg⟩,λ i hi=>⟨(hf _ (Qj hi)).1,(hf _ (Qj hi)).2.1,(hf _ (Qj hi)).2.2,λ h0=>zgK.2 (QR.1 hp (i - 1) i (by simp only at hi; omega) hi (by omega))⟩⟩
variable {g : Gr} {f t : Int} {e : Ed}
theorem GrOk.val (hg : GrOk g) : ∀ e∈g.edges,1<=e.v/\e.v<=3:=λ e he=>by
 obtain ⟨i,hi,rfl⟩:=Ut he;exact ⟨(hg.2 i hi).2.1,(hg.2 i hi).2.2.1⟩
theorem GrOk.uniq (hg : GrOk g) {x y : Ed} (hx : x∈g.edges) (hy : y∈g.edges) (hf : x.f=y.f) (ht : x.t=y.t) : x=y:=by
 obtain ⟨i,hi,rfl⟩:=Ut hx;obtain ⟨j,hj,rfl⟩:=Ut hy;rcases Nat.lt_trichotomy i j with h | h | h
 .have:=hg.lt j i hi hj h
  unfold Bef at this;omega
 .subst h; rfl
 .have:=hg.lt i j hj hi h
  unfold Bef at this;omega
theorem zk4 : ∀ {a b : List Ed},a.Pairwise Bef->b.Pairwise Bef->(∀ x,x∈a↔x∈b)->a=b
 | [],[],_,_,_=>rfl
 | [],y::b,_,_,h=>absurd ((h y).2 Qm) (by simp)
 | x::a,[],_,_,h=>absurd ((h x).1 Qm) (by simp)
 | x::a,y::b,ha,hb,h=>by
   rw [Ur] at ha hb
   have hxy : x=y:=by
    rcases Qu.1 ((h x).1 Qm) with h1 | h1
    .exact h1
    rcases Qu.1 ((h y).2 Qm) with h2 | h2
    .exact h2.symm
    exact absurd (ha.1 y h2) (hb.1 x h1).asymm
   subst hxy;rw [zk4 ha.2 hb.2 λ z=>⟨λ hz=>?_,λ hz=>?_⟩]
   .rcases Qu.1 ((h z).1 (Qk _ hz)) with h1 | h1
    .subst h1; exact absurd (ha.1 z hz) (Bef.irrefl z)
    .exact h1
   .rcases Qu.1 ((h z).2 (Qk _ hz)) with h1 | h1
    .subst h1; exact absurd (hb.1 z hz) (Bef.irrefl z)
    .exact h1
theorem zxx {a b : Gr} (ha : GrOk a) (hb : GrOk b) (hs : a.size=b.size) (hg : a.gone=b.gone) (h : ∀ x,x∈a.edges↔x∈b.edges) : a=b:=by
 obtain ⟨s,E,go⟩:=a;obtain ⟨s',E',go'⟩:=b;have:=zk4 ha.pair hb.pair h;simp only at hs hg this;subst hs hg this;rfl
structure zuR (g g' : Gr) (s : GStp) : Prop where
 ok : GrOk g'
 size : g'.size=g.size
 gone : g'.gone=g.gone
 len : g'.edges.length<=g.edges.length+1
 mem : ∀ x,x∈g'.edges↔(s.gone=false/\x=s.e)∨(x∈g.edges/\¬ (s.gone=true/\x.f=s.e.f/\x.t=s.e.t))
theorem zuR.has {g' : Gr} {s : GStp} (h : zuR g g' s) {f t : Int} (hne : ¬ (s.e.f=f/\s.e.t=t)) : HasE g' f t↔HasE g f t:=by
 constructor
 .rintro ⟨x,hx,hf,ht⟩
  rcases (h.mem x).1 hx with h1 | h1
  .obtain ⟨_,rfl⟩:=h1
   exact absurd ⟨hf,ht⟩ hne
  .exact ⟨x,h1.1,hf,ht⟩
 .rintro ⟨x,hx,hf,ht⟩
  refine ⟨x,(h.mem x).2 (.inr ⟨hx,λ hc=>hne ?_⟩),hf,ht⟩;exact ⟨hc.2.1.symm.trans hf,hc.2.2.symm.trans ht⟩
theorem GrOk.nodup (hg : GrOk g) : g.edges.Nodup:=hg.pair.imp λ h he=>by subst he; exact Bef.irrefl _ h
def innA (a b : Int) (i : Nat) : List Ed:=(List.range i).flatMap λ (x : Nat)=>if (x : Int)≠a/\(x : Int)≠b then [⟨2+2*x,3+2*x,1⟩] else []
def arcP (lv a b : Int) (e : Ed) : List Ed:=if e.v<lv∨e.t=a∨e.f=b then [] else [⟨if e.f=a then 0 else 3+2*e.f,if e.t=b then 1 else 2+2*e.t,1⟩]
def netP (g : Gr) (lv a b : Int) : List Ed:=innA a b g.size.toNat++g.edges.flatMap (arcP lv a b)
def zdp (g : Gr) (lv a b : Int) : Prop:=(1<=lv/\lv<=3)/\(0<=a/\a<=g.size - 1)/\(0<=b/\b<=g.size - 1)/\a≠b
instance (g : Gr) (lv a b : Int) : Decidable (zdp g lv a b):=by unfold zdp; infer_instance
def zc5 (g : Gr) (lv a b : Int) : Int:=if zdp g lv a b then maxF (2+2*g.size.toNat) (netP g lv a b) else 0
section
variable {g : Gr} {lv a b : Int}
theorem zl7 (i : Nat) : innA a b (i+1)=innA a b i++if (i : Int)≠a/\(i : Int)≠b then [⟨2+2*i,3+2*i,1⟩] else []:=by
 unfold innA;rw [UL,List.flatMap_append];simp
theorem zkt (i : Nat) : (innA a b i).length<=i:=by
 induction i with
 | zero=>simp [innA]
 | succ i ih=>rw [zl7,Qh]; split <;> simp <;> omega
theorem ztD (e : Ed) : (arcP lv a b e).length<=1:=by unfold arcP; split <;> simp
theorem ziA : ∀ l : List Ed,(l.flatMap (arcP lv a b)).length<=l.length
 | []=>by simp
 | e::l=>by
   have:=ziA l;have:=ztD (lv:=lv) (a:=a) (b:=b) e;simp only [Vh,Qh,QM];omega
theorem zpU {l : List Ed} {i : Nat} (h : i<l.length) : (l.take (i+1)).flatMap (arcP lv a b)=(l.take i).flatMap (arcP lv a b)++arcP lv a b l[i]:=by
 rw [Qp h,List.flatMap_append];simp
theorem zhM (hg : GrOk g) : zaT ⟨2+2*g.size.toNat,netP g lv a b⟩:=by
 have h0:=hg.1.1;have h1:=hg.1.2.1;have h2:=hg.edges_le;have h3:=zkt (a:=a) (b:=b) g.size.toNat;have h4:=ziA (lv:=lv) (a:=a) (b:=b) g.edges;refine ⟨by simp only; omega,by simp only; omega,by simp only [netP,Qh]; omega,λ x hx=>?_⟩
 unfold netP at hx;rcases Qo.1 hx with hx | hx
 .unfold innA at hx
  obtain ⟨k,hk,hx⟩:=List.mem_flatMap.1 hx;have hk:=QA.1 hk;split at hx
  .simp at hx
   subst hx;unfold zgy;simp only;omega
  .simp at hx
 .obtain ⟨e,he,hx⟩:=List.mem_flatMap.1 hx
  have hf:=hg.fits e he;unfold Fits at hf;unfold arcP at hx;split at hx
  .simp at hx
  .simp at hx
   subst hx;unfold zgy;simp only;split <;> split <;> omega
end
theorem zkM (k : Int) (h0 : 0<=k) (h : k<=1000) : AcP 137 [.I k] [] (.I (2+2*k)) []:=by
 refine zmW.s.ac ?_;show awp _ 0 _ _ ⟨6,[(0,.I k)],[],16⟩;have h1 : IntKind.i64.wrap (2*k)=2*k:=w6;have h2 : IntKind.i64.wrap (2+2*k)=2+2*k:=w6;refine rs [0] [] [] ?_;refine rx (s:=?z2) [2] [] [] rfl ?p2 ?r2
 case p2=>simp [h1,h2]; rfl
 exact zaI
theorem zuf (g : Gr) (lv a b : Int) (hg0 : 0<=g.size) (hg1 : g.size<=64) : AcP 96 [eG g,.I lv,.I a,.I b] [] (.B (decide (zdp g lv a b))) []:=by
 refine zmz.s.ac ?_;show awp _ 0 _ _ ⟨30,[(0,eG g),(1,.I lv),(2,.I a),(3,.I b)],[],16⟩;have hw : IntKind.i64.wrap (g.size - 1)=g.size - 1:=w6;refine rs [1,2,3,4] [] [16] ?_;refine zaa ⟨30,[(8,.B (decide (zdp g lv a b)))],[],900⟩ rfl ?_ ?_
 .simp
  refine cl0 (zaJ lv 1 3) ?_
  by_cases h1 : 1<=lv/\lv<=3
  .simp [h1,hw]
   refine cl0 (zaJ a 0 (g.size - 1)) ?_
   by_cases h2 : 0<=a/\a<=g.size - 1
   .simp [h2,hw]
    refine cl0 (zaJ b 0 (g.size - 1)) ?_
    by_cases h3 : 0<=b/\b<=g.size - 1
    .simp [h3]
     exact Le.go [] [] rfl rfl (by simp <;> exact wkB (by rw [QE]; simp [zdp,h1,h2,h3])) (by simp)
    .have hb : (decide (0<=b) && decide (b<=g.size - 1))=false:=by simpa using λ h=>by omega
     simp [hb];exact Le.go [] [] rfl rfl (by simp [zdp,h3]) (by simp)
   .have hb : (decide (0<=a) && decide (a<=g.size - 1))=false:=by simpa using λ h=>by omega
    simp [hb];exact Le.go [] [] rfl rfl (by simp [zdp,h2]) (by simp)
  .have hb : (decide (1<=lv) && decide (lv<=3))=false:=by simpa using λ h=>by omega
   simp [hb];exact Le.go [] [] rfl rfl (by simp [zdp,h1]) (by simp)
 exact zaI
def sg (k : Nat) : Int:=if k % 2=0 then 1 else -1
theorem zv8 (k : Nat) : sg (k+1) = - sg k:=by
 unfold sg;rcases Nat.mod_two_eq_zero_or_one k with h | h
 .have h' : ¬ (k+1) % 2=0:=by omega
  rw [if_pos h,if_neg h']
 .have h' : (k+1) % 2=0:=by omega
  have h'' : ¬ k % 2=0:=by omega
  rw [if_neg h'',if_pos h'];rfl
abbrev Vec:=Nat->Int
def lapS (F : List Vec->Int) (r : Nat) : List Vec->List Vec->Int
 | _,[]=>0
 | pre,c::rest=>sg pre.length*c r*F (pre++rest)+lapS F r (pre++[c]) rest
def detC : Nat->Nat->List Vec->Int
 | 0,_,_=>1
 | n+1,r,cs=>lapS (detC n (r+1)) r [] cs
def LinC (n : Nat) (F : List Vec->Int) : Prop:=∀ (x y : Int) (u v : Vec) (pre post : List Vec),pre.length+1+post.length=n->F (pre++(λ i=>x*u i+y*v i)::post)=x*F (pre++u::post)+y*F (pre++v::post)
def Alt (n : Nat) (F : List Vec->Int) : Prop:=∀ (u : Vec) (pre post : List Vec),pre.length+2+post.length=n->F (pre++u::u::post)=0
section
variable {F : List Vec->Int} {n r : Nat} {u v w : Vec} {x y : Int}
theorem zlS (hF : LinC n F) : ∀ (rest p1 p2 : List Vec),p1.length+1+p2.length+rest.length=n+1->lapS F r (p1++(λ i=>x*u i+y*v i)::p2) rest=x*lapS F r (p1++u::p2) rest+y*lapS F r (p1++v::p2) rest
 | [],_,_,_=>by simp [lapS]
 | c::rest,p1,p2,hl=>by
   simp only [QM] at hl;have h1:=zlS hF rest p1 (p2++[c]) (by simp; omega)
   have h2:=hF x y u v p1 (p2++rest) (by simp; omega)
   simp only [lapS,Qx,QO,Qh,QM] at *;rw [h1,h2]
   grind
theorem zmA (hF : LinC n F) : ∀ (pre pre0 post : List Vec),pre0.length+pre.length+1+post.length=n+1->lapS F r pre0 (pre++(λ i=>x*u i+y*v i)::post)=x*lapS F r pre0 (pre++u::post)+y*lapS F r pre0 (pre++v::post)
 | [],pre0,post,hl=>by
   simp only [UW] at hl;have h1:=zlS (r:=r) (x:=x) (y:=y) (u:=u) (v:=v) hF post pre0 [] (by simp; omega)
   simp only [lapS,Q5];rw [h1]
   grind
 | c::pre,pre0,post,hl=>by
   simp only [QM] at hl;have h1:=zmA hF pre (pre0++[c]) post (by simp; omega)
   have h2:=hF x y u v (pre0++pre) post (by simp; omega)
   simp only [lapS,Qx,QO] at *;rw [h1,h2]
   grind
theorem zm6 (hF : Alt n F) : ∀ (rest p1 p2 : List Vec),p1.length+2+p2.length+rest.length=n+1->lapS F r (p1++u::u::p2) rest=0
 | [],_,_,_=>by simp [lapS]
 | c::rest,p1,p2,hl=>by
   simp only [QM] at hl;have h1:=zm6 hF rest p1 (p2++[c]) (by simp; omega)
   have h2:=hF u p1 (p2++rest) (by simp; omega)
   simp only [lapS,Qx,QO,Qh,QM] at *;rw [h1,h2];simp
theorem zlD (hF : Alt n F) : ∀ (pre pre0 post : List Vec),pre0.length+pre.length+2+post.length=n+1->lapS F r pre0 (pre++u::u::post)=0
 | [],pre0,post,hl=>by
   simp only [UW] at hl;have h1:=zm6 (r:=r) (u:=u) hF post pre0 [] (by simp; omega)
   simp only [lapS,Q5,Qx,QO,Qh,QM,UW,Q0] at *;rw [h1,zv8]
   grind
 | c::pre,pre0,post,hl=>by
   simp only [QM] at hl;have h1:=zlD hF pre (pre0++[c]) post (by simp; omega)
   have h2:=hF u (pre0++pre) post (by simp; omega)
   simp only [lapS,Qx,QO] at *;rw [h1,h2];simp
end
theorem zpo : ∀ (n r : Nat),LinC n (detC n r)
 | 0,_=>λ _ _ _ _ pre post h=>by omega
 | n+1,r=>λ x y u v pre post h=>zmA (zpo n (r+1)) pre [] post (by simpa using h)
theorem zoH : ∀ (n r : Nat),Alt n (detC n r)
 | 0,_=>λ _ pre post h=>by omega
 | n+1,r=>λ u pre post h=>zlD (zoH n (r+1)) pre [] post (by simpa using h)
section
variable {F : List Vec->Int} {n : Nat}
theorem ztc (hL : LinC n F) (hA : Alt n F) (u v : Vec) (pre post : List Vec) (h : pre.length+2+post.length=n) : F (pre++u::v::post) = - F (pre++v::u::post):=by
 have e1:=hA (λ i=>1*u i+1*v i) pre post h;have e2:=hL 1 1 u v pre ((λ i=>1*u i+1*v i)::post) (by simp; omega)
 have e3:=hL 1 1 u v (pre++[u]) post (by simp; omega)
 have e4:=hL 1 1 u v (pre++[v]) post (by simp; omega)
 have e5:=hA u pre post h;have e6:=hA v pre post h;simp only [Qx,QO,Q5] at *;rw [e2,e3,e4,e5,e6] at e1;omega
theorem zrT (hL : LinC n F) (hA : Alt n F) (u : Vec) : ∀ (mid pre post : List Vec),pre.length+2+mid.length+post.length=n->F (pre++u::mid++u::post)=0
 | [],pre,post,h=>by
   have:=hA u pre post (by simpa using h)
   simpa using this
 | c::mid,pre,post,h=>by
   simp only [QM] at h;have h1:=zrT hL hA u mid (pre++[c]) post (by simp; omega)
   have h2:=ztc hL hA u c pre (mid++u::post) (by simp; omega)
   simp only [Qx,QO,Q5] at *;rw [h2,h1];rfl
theorem zoX (hL : LinC n F) (hA : Alt n F) (c : Vec) (a : Int) (lam : Vec->Int) : ∀ (rest pre : List Vec),pre.length+1+rest.length=n ->
  F (c::pre++rest.map λ v=>λ i=>a*v i + - lam v*c i)=a ^ rest.length*F (c::pre++rest)
 | [],pre,_=>by simp
 | v::rest,pre,h=>by
   simp only [QM] at h;have h1:=zoX hL hA c a lam rest (pre++[λ i=>a*v i + - lam v*c i]) (by simp; omega)
   have h2:=hL a (- lam v) v c (c::pre) rest (by simp; omega)
   have h3:=zrT hL hA c pre [] rest (by simp; omega)
   simp only [Qx,QO,Q5,Qn,QM] at *;rw [h1,h2,h3]
   grind
end
theorem zmc {F : List Vec->Int} {r : Nat} : ∀ (rest pre : List Vec),(∀ v∈rest,v r=0)->lapS F r pre rest=0
 | [],_,_=>rfl
 | c::rest,pre,h=>by
   simp only [lapS];rw [h c (by simp),zmc rest (pre++[c]) λ v hv=>h v (by simp [hv])]
   simp
theorem zsZ (n r : Nat) (c : Vec) (cs : List Vec) (h : cs.length=n) : c r ^ n*detC (n+1) r (c::cs)=c r*detC n (r+1) (cs.map λ v=>λ i=>c r*v i + - v r*c i):=by
 have h1:=zoX (zpo (n+1) r) (zoH (n+1) r) c (c r) (λ v=>v r) cs [] (by simp; omega)
 simp only [QO,Q5] at h1;rw [h] at h1;rw [<- h1];simp only [detC,lapS,UW,Q5]
 rw [zmc _ [c] λ v hv=>by
  obtain ⟨w,_,rfl⟩:=Qg.1 hv
  grind]
 simp [sg]
theorem zj1 {F G : List Vec->Int} {r : Nat} (s : Vec->Vec) (hs : ∀ v,v (r+1)=s v r) : ∀ (rest pre : List Vec),(∀ l : List Vec,l.length+1=pre.length+rest.length->F l=G (l.map s))->lapS F (r+1) pre rest=lapS G r (pre.map s) (rest.map s)
 | [],_,_=>rfl
 | c::rest,pre,h=>by
   simp only [QM] at h;have h1:=zj1 s hs rest (pre++[c]) (λ l hl=>h l (by simp at hl; omega))
   have h2:=h (pre++rest) (by simp; omega)
   simp only [lapS,Qn,Qt];rw [h1,h2,hs c];simp
theorem zjv : ∀ (n r : Nat) (cs : List Vec),detC n (r+1) cs=detC n r (cs.map λ v=>λ i=>v (i+1))
 | 0,_,_=>rfl
 | n+1,r,cs=>by
   simp only [detC];exact zj1 (λ v=>λ i=>v (i+1)) (λ _=>rfl) cs [] λ l _=>zjv n (r+1) l
abbrev Mat:=Nat->Nat->Int
def detM (n : Nat) (A : Mat) : Int:=detC n 0 ((List.range n).map λ j=>λ i=>A i j)
def chio (A : Mat) : Mat:=λ i j=>A 0 0*A (i+1) (j+1) - A 0 (j+1)*A (i+1) 0
theorem ziS (n : Nat) (A : Mat) : A 0 0 ^ n*detM (n+1) A=A 0 0*detM n (chio A):=by
 unfold detM;rw [List.range_succ_eq_map,Qn];have h:=zsZ n 0 (λ i=>A i 0) (((List.range n).map Nat.succ).map λ j=>λ i=>A i j) (by simp)
 rw [h,zjv]
 congr 2
 rw [List.map_map,List.map_map,List.map_map];refine QG λ j _=>?_
 funext i
 simp only [Function.comp_apply,chio,Nat.succ_eq_add_one]
 grind
def smN : Nat->(Nat->Int)->Int
 | 0,_=>0
 | n+1,f=>f 0+smN n λ i=>f (i+1)
theorem zbp : ∀ (n : Nat) {f g : Nat->Int},(∀ i,i<n->f i=g i)->smN n f=smN n g
 | 0,_,_,_=>rfl
 | n+1,f,g,h=>by
   simp only [smN];rw [h 0 (by omega),zbp n λ i hi=>h (i+1) (by omega)]
theorem zkX (a b : Int) : ∀ (n : Nat) (f g : Nat->Int),smN n (λ j=>a*f j - b*g j)=a*smN n f - b*smN n g
 | 0,_,_=>by simp [smN]
 | n+1,f,g=>by
   simp only [smN];rw [zkX a b n]
   grind
theorem zhA : ∀ (n : Nat),smN n (λ _=>0)=0
 | 0=>rfl
 | n+1=>by simp only [smN]; rw [zhA n]; rfl
def zc7 : Nat->(Nat->Int)->Int
 | 0,_=>1
 | n+1,f=>f 0*zc7 n λ i=>f (i+1)
def inR (n : Nat) (A : Mat) (S : Nat->Bool) (i : Nat) : Int:=smN n λ j=>if S j then A i j else 0
structure MM (n : Nat) (A : Mat) : Prop where
 off : ∀ i j,i<n->j<n->i≠j->A i j<=0
 non : ∀ (S : Nat->Bool) (i : Nat),i<n->S i=true->0<=inR n A S i
 leak : ∀ S : Nat->Bool,(∃ i,i<n/\S i=true) -> ∃ i,i<n/\S i=true/\0<inR n A S i
def zgv (b : Bool) (S : Nat->Bool) : Nat->Bool
 | 0=>b
 | j+1=>S j
section
variable {n : Nat} {A : Mat}
theorem zhH (S : Nat->Bool) (i : Nat) : inR (n+1) A (zgv true S) i=A i 0+smN n λ j=>if S j then A i (j+1) else 0:=by
 rfl
theorem zsW (S : Nat->Bool) (i : Nat) : inR (n+1) A (zgv false S) i=smN n λ j=>if S j then A i (j+1) else 0:=by
 show (0 : Int)+smN n (λ j=>if S j then A i (j+1) else 0)=_
 rw [Int.zero_add]
theorem MM.pos (h : MM (n+1) A) : 0<A 0 0:=by
 obtain ⟨i,hi,hs,hp⟩:=h.leak (zgv true λ _=>false) ⟨0,by omega,rfl⟩
 cases i with
 | zero =>
   rw [zhH] at hp;simp [zhA] at hp;exact hp
 | succ i=>simp [zgv] at hs
theorem zhK (S : Nat->Bool) (i : Nat) : inR n (chio A) S i=A 0 0*inR (n+1) A (zgv true S) (i+1) - A (i+1) 0*inR (n+1) A (zgv true S) 0:=by
 rw [zhH,zhH];have h:=zkX (A 0 0) (A (i+1) 0) n (λ j=>if S j then A (i+1) (j+1) else 0) (λ j=>if S j then A 0 (j+1) else 0)
 have h2 : inR n (chio A) S i=smN n (λ j=>A 0 0*(if S j then A (i+1) (j+1) else 0) - A (i+1) 0*(if S j then A 0 (j+1) else 0)):=by
  unfold inR;refine zbp n λ j _=>?_
  cases S j
  .simp
  .simp [chio]; grind
 rw [h2,h]
 grind
theorem MM.chio (h : MM (n+1) A) : MM n (chio A):=by
 have h0:=h.pos;refine ⟨λ i j hi hj hne=>?_,λ S i hi hs=>?_,λ S hS=>?_⟩
 .have h1:=h.off (i+1) (j+1) (by omega) (by omega) (by omega)
  have h2:=h.off 0 (j+1) (by omega) (by omega) (by omega)
  have h3:=h.off (i+1) 0 (by omega) (by omega) (by omega)
  have h4:=Int.mul_nonneg_of_nonpos_of_nonpos h2 h3;have h5:=Int.mul_nonneg (Int.le_of_lt h0) (Int.neg_nonneg_of_nonpos h1);rw [Int.mul_neg] at h5;unfold Go.Proofs.YtkngdgplbojdlaaGreat.chio;omega
 .rw [zhK]
  have h1:=h.non (zgv true S) (i+1) (by omega) hs
  have h2:=h.non (zgv true S) 0 (by omega) rfl
  have h3:=h.off (i+1) 0 (by omega) (by omega) (by omega)
  have h4:=Int.mul_nonneg (Int.le_of_lt h0) h1;have h5:=Int.mul_nonneg (Int.neg_nonneg_of_nonpos h3) h2;rw [Int.neg_mul] at h5;omega
 .obtain ⟨k,hk,hks⟩:=hS
  obtain ⟨i,hi,hs,hp⟩:=h.leak (zgv true S) ⟨0,by omega,rfl⟩
  have h2:=h.non (zgv true S) 0 (by omega) rfl
  cases i with
  | succ i =>
    refine ⟨i,by omega,hs,?_⟩
    rw [zhK];have h3:=h.off (i+1) 0 (by omega) (by omega) (by omega)
    have h4:=Int.mul_pos h0 hp;have h5:=Int.mul_nonneg (Int.neg_nonneg_of_nonpos h3) h2;rw [Int.neg_mul] at h5;omega
  | zero =>
    by_cases hex : ∃ j,j<n/\S j=true/\A (j+1) 0≠0
    .obtain ⟨j,hj,hjs,hjn⟩:=hex
     refine ⟨j,hj,hjs,?_⟩;rw [zhK];have h1:=h.non (zgv true S) (j+1) (by omega) hjs
     have h3:=h.off (j+1) 0 (by omega) (by omega) (by omega)
     have h4:=Int.mul_nonneg (Int.le_of_lt h0) h1;have h5:=Int.mul_pos (a:=- A (j+1) 0) (by omega) hp
     rw [Int.neg_mul] at h5;omega
    .obtain ⟨i,hi,hs,hp⟩:=h.leak (zgv false S) ⟨k+1,by omega,hks⟩
     cases i with
     | zero=>simp [zgv] at hs
     | succ i =>
       refine ⟨i,by omega,hs,?_⟩
       have hz : A (i+1) 0=0:=Classical.byContradiction λ hz=>hex ⟨i,by omega,hs,hz⟩
       rw [zhK,hz,zhH,hz];rw [zsW] at hp;have h4:=Int.mul_pos h0 hp
       simpa using h4
theorem zhG : ∀ (n : Nat) {A : Mat},MM n A->0<detM n A
 | 0,_,_=>by show (0 : Int)<1; decide
 | n+1,A,h=>by
   have h0:=h.pos;have h1:=zhG n h.chio;have h2:=ziS n A;have h3 : 0<A 0 0 ^ n:=Int.pow_pos h0;have h4:=Int.mul_pos h0 h1;rw [<- h2] at h4;exact Int.pos_of_mul_pos_right h4 h3
theorem zgq : ∀ (n : Nat) (f : Nat->Int) (i : Nat),i<n->(smN n λ j=>if decide (j=i) then f j else 0)=f i
 | n+1,f,0,_=>by
   have h:=zbp n (f:=λ j=>if decide (j+1=0) then f (j+1) else 0) (g:=λ _=>0) λ j _=>by simp
   simp only [smN];rw [h,zhA];simp
 | n+1,f,i+1,hi=>by
   have h:=zgq n (λ j=>f (j+1)) i (by omega)
   have h2:=zbp n (f:=λ j=>if decide (j+1=i+1) then f (j+1) else 0) (g:=λ j=>if decide (j=i) then f (j+1) else 0) λ j _=>by simp
   simp only [smN];rw [h2,h];simp
theorem MM.diag (h : MM n A) : ∀ i,i<n->0<=A i i:=λ i hi=>by
 have h1:=h.non (λ j=>decide (j=i)) i hi (by simp)
 unfold inR at h1;rw [zgq n (λ j=>A i j) i hi] at h1;exact h1
theorem zek : ∀ (n : Nat) {f : Nat->Int},(∀ i,i<n->0<=f i)->0<=zc7 n f
 | 0,_,_=>by show (0 : Int)<=1; decide
 | n+1,f,h=>Int.mul_nonneg (h 0 (by omega)) (zek n λ i hi=>h (i+1) (by omega))
theorem zjW : ∀ (n : Nat) {f g : Nat->Int},(∀ i,i<n->0<=f i/\f i<=g i)->zc7 n f<=zc7 n g
 | 0,_,_,_=>UI _
 | n+1,f,g,h=>by
   have h0:=h 0 (by omega)
   have h1:=zjW n (f:=λ i=>f (i+1)) (g:=λ i=>g (i+1)) λ i hi=>h (i+1) (by omega)
   have h2:=zek n (f:=λ i=>f (i+1)) λ i hi=>(h (i+1) (by omega)).1
   exact Int.mul_le_mul h0.2 h1 h2 (by omega)
theorem zh6 (a : Int) : ∀ (n : Nat) (f : Nat->Int),zc7 n (λ i=>a*f i)=a ^ n*zc7 n f
 | 0,_=>by simp [zc7]
 | n+1,f=>by
   simp only [zc7];rw [zh6 a n]
   grind
theorem zkh : ∀ (n : Nat) {A : Mat},MM n A->detM n A<=zc7 n λ i=>A i i
 | 0,_,_=>UI _
 | n+1,A,h=>by
   have h0:=h.pos;have h1:=zkh n h.chio;have h2:=ziS n A;have h3 : 0<A 0 0 ^ n:=Int.pow_pos h0;have hd:=h.chio.diag
   have hm : (zc7 n λ i=>Go.Proofs.YtkngdgplbojdlaaGreat.chio A i i)<=zc7 n λ i=>A 0 0*A (i+1) (i+1):=zjW n λ i hi=>by
    refine ⟨hd i hi,?_⟩;have h4:=h.off 0 (i+1) (by omega) (by omega) (by omega)
    have h5:=h.off (i+1) 0 (by omega) (by omega) (by omega)
    have h6:=Int.mul_nonneg_of_nonpos_of_nonpos h4 h5;unfold Go.Proofs.YtkngdgplbojdlaaGreat.chio;omega
   rw [zh6 (A 0 0) n λ i=>A (i+1) (i+1)] at hm
   have h7 : A 0 0 ^ n*detM (n+1) A<=A 0 0 ^ n*(A 0 0*zc7 n λ i=>A (i+1) (i+1)):=by
    rw [h2];have h8:=Int.mul_le_mul_of_nonneg_left (Int.le_trans h1 hm) (Int.le_of_lt h0)
    grind
   exact Int.le_of_mul_le_mul_left h7 h3
end
def Cg (p x y : Int) : Prop:=p∣x - y
section
variable {p x y z u v : Int}
theorem Cg.refl (x : Int) : Cg p x x:=by unfold Cg; rw [Int.sub_self]; exact Int.dvd_zero p
theorem Cg.symm (h : Cg p x y) : Cg p y x:=by
 unfold Cg at *;obtain ⟨k,hk⟩:=h;exact ⟨-k,by grind⟩
theorem Cg.trans (h : Cg p x y) (h2 : Cg p y z) : Cg p x z:=by
 unfold Cg at *;obtain ⟨k,hk⟩:=h;obtain ⟨l,hl⟩:=h2;exact ⟨k+l,by grind⟩
theorem Cg.add (h : Cg p x y) (h2 : Cg p u v) : Cg p (x+u) (y+v):=by
 unfold Cg at *;obtain ⟨k,hk⟩:=h;obtain ⟨l,hl⟩:=h2;exact ⟨k+l,by grind⟩
theorem Cg.sub (h : Cg p x y) (h2 : Cg p u v) : Cg p (x - u) (y - v):=by
 unfold Cg at *;obtain ⟨k,hk⟩:=h;obtain ⟨l,hl⟩:=h2;exact ⟨k - l,by grind⟩
theorem Cg.mul (h : Cg p x y) (h2 : Cg p u v) : Cg p (x*u) (y*v):=by
 unfold Cg at *;obtain ⟨k,hk⟩:=h;obtain ⟨l,hl⟩:=h2;exact ⟨k*u+y*l,by grind⟩
theorem Cg.pow (h : Cg p x y) : ∀ n : Nat,Cg p (x ^ n) (y ^ n)
 | 0=>by rw [Int.pow_zero,Int.pow_zero]; exact .refl 1
 | n+1=>by rw [Int.pow_succ,Int.pow_succ]; exact (h.pow n).mul h
theorem Cg.emod (x : Int) : Cg p (x % p) x:=by
 unfold Cg;exact ⟨- (x / p),by have:=Int.mul_ediv_add_emod x p; grind⟩
theorem Cg.eq (h : Cg p x y) (hx : 0<=x) (hxp : x<p) (hy : 0<=y) (hyp : y<p) : x=y:=by
 unfold Cg at h;have h1:=(Int.emod_emod_of_dvd x (Int.dvd_refl p));have h2 : x % p=y % p:=Int.emod_eq_emod_iff_emod_sub_eq_zero.2 (Int.emod_eq_zero_of_dvd h)
 rwa [Int.emod_eq_of_lt hx hxp,Int.emod_eq_of_lt hy hyp] at h2
end
section
variable {p : Int} {F G : List Vec->Int} {f g : Nat->Vec} {r : Nat}
theorem zm4 (hF : ∀ l : List Nat,Cg p (F (l.map f)) (G (l.map g))) (hfg : ∀ j i,Cg p (f j i) (g j i)) : ∀ rest pre : List Nat,Cg p (lapS F r (pre.map f) (rest.map f)) (lapS G r (pre.map g) (rest.map g))
 | [],_=>.refl 0
 | c::rest,pre=>by
   have h1:=zm4 hF hfg rest (pre++[c]);have h2:=hF (pre++rest);simp only [Q4,Qn,Uz] at h1 h2;simp only [lapS,Qn,Qt];exact (((Cg.refl _).mul (hfg c r)).mul h2).add h1
theorem zmG (hfg : ∀ j i,Cg p (f j i) (g j i)) : ∀ (n r : Nat) (l : List Nat),Cg p (detC n r (l.map f)) (detC n r (l.map g))
 | 0,_,_=>.refl 1
 | n+1,r,l=>by
   have:=zm4 (r:=r) (zmG hfg n (r+1)) hfg l []
   simpa only [detC,Uz] using this
theorem zka (a : Int) {n : Nat} (hF : ∀ l : List Nat,l.length=n->F (l.map λ j=>λ i=>a*f j i)=a ^ n*F (l.map f)) : ∀ rest pre : List Nat,pre.length+rest.length=n+1 ->
  lapS F r (pre.map λ j=>λ i=>a*f j i) (rest.map λ j=>λ i=>a*f j i)=a ^ (n+1)*lapS F r (pre.map f) (rest.map f)
 | [],_,_=>by simp [lapS]
 | c::rest,pre,h=>by
   simp only [QM] at h;have h1:=zka a hF rest (pre++[c]) (by simp; omega)
   have h2:=hF (pre++rest) (by simp; omega)
   simp only [Q4,Qn,Uz] at h1 h2;simp only [lapS,Qn,Qt];rw [h1,h2]
   grind
theorem zjK (a : Int) : ∀ (n r : Nat) (l : List Nat),l.length=n->detC n r (l.map λ j=>λ i=>a*f j i)=a ^ n*detC n r (l.map f)
 | 0,_,_,_=>by simp [detC]
 | n+1,r,l,h=>by
   have:=zka (r:=r) a (zjK a n (r+1)) l [] (by simpa using h)
   simpa only [detC,Uz] using this
end
theorem zlO {p : Int} {A B : Mat} (h : ∀ i j,Cg p (A i j) (B i j)) (n : Nat) : Cg p (detM n A) (detM n B) :=
 zmG (f:=λ j=>λ i=>A i j) (g:=λ j=>λ i=>B i j) (λ j i=>h i j) n 0 (List.range n)
theorem zqD (a : Int) (n : Nat) (A : Mat) : detM n (λ i j=>a*A i j)=a ^ n*detM n A :=
 zjK (f:=λ j=>λ i=>A i j) a n 0 (List.range n) (by simp)
theorem zud (A : Mat) : detM 1 A=A 0 0:=by
 simp [detM,detC,lapS,UL,sg]
theorem zrH (A : Mat) : detM 0 A=1:=rfl
theorem zr6 {p inv : Int} {B S : Mat} (hi : Cg p (B 0 0*inv) 1) (hS : ∀ i j,Cg p (S i j) (B (i+1) (j+1) - B (i+1) 0*inv*B 0 (j+1))) (m : Nat) : Cg p (detM (m+1) B) (B 0 0*detM m S):=by
 have h1 : ∀ i j,Cg p (chio B i j) (B 0 0*S i j):=λ i j=>by
  have e1:=(Cg.refl (p:=p) (B 0 0)).mul (hS i j);refine Cg.trans ?_ e1.symm;unfold chio;have e2 : Cg p (B (i+1) 0*(B 0 0*inv)*B 0 (j+1)) (B (i+1) 0*1*B 0 (j+1)):=((Cg.refl _).mul hi).mul (Cg.refl _);have e3:=(Cg.refl (p:=p) (B 0 0*B (i+1) (j+1))).sub e2.symm;have e4 : B 0 0*B (i+1) (j+1) - B (i+1) 0*1*B 0 (j+1)=B 0 0*B (i+1) (j+1) - B 0 (j+1)*B (i+1) 0:=by grind
  have e5 : B 0 0*B (i+1) (j+1) - B (i+1) 0*(B 0 0*inv)*B 0 (j+1)=B 0 0*(B (i+1) (j+1) - B (i+1) 0*inv*B 0 (j+1)):=by grind
  rwa [e4,e5] at e3
 have h2:=zlO h1 m;rw [zqD] at h2;have h3:=ziS m B;have h4:=(Cg.refl (p:=p) (B 0 0)).mul h2;rw [<- h3] at h4;have h5:=(Cg.refl (p:=p) (inv ^ m)).mul h4;have hp:=hi.pow m;rw [Int.one_pow,Int.mul_pow] at hp;have h6:=hp.mul (Cg.refl (p:=p) (detM (m+1) B));have h7:=hp.mul (Cg.refl (p:=p) (B 0 0*detM m S));have e1 : inv ^ m*(B 0 0 ^ m*detM (m+1) B)=B 0 0 ^ m*inv ^ m*detM (m+1) B:=by grind
 have e2 : inv ^ m*(B 0 0*(B 0 0 ^ m*detM m S))=B 0 0 ^ m*inv ^ m*(B 0 0*detM m S):=by grind
 rw [e1,e2] at h5;rw [Int.one_mul] at h6 h7;exact (h6.symm.trans h5).trans h7
theorem zrK (S : Nat->Bool) : ∀ (n m : Nat) (f : Nat->Int),m<=n->(smN n λ j=>if (S j && decide (j<m)) then f j else 0)=smN m λ j=>if S j then f j else 0
 | n,0,f,_=>by
   have h:=zbp n (f:=λ j=>if (S j && decide (j<0)) then f j else 0) (g:=λ _=>0) λ j _=>by simp
   rw [h,zhA];rfl
 | n+1,m+1,f,h=>by
   have h1:=zrK (λ j=>S (j+1)) n m (λ j=>f (j+1)) (by omega)
   have h2:=zbp n (f:=λ j=>if (S (j+1) && decide (j+1<m+1)) then f (j+1) else 0) (g:=λ j=>if (S (j+1) && decide (j<m)) then f (j+1) else 0) λ j _=>by simp
   simp only [smN];rw [h2,h1];simp
theorem MM.lead {n m : Nat} {A : Mat} (h : MM n A) (hm : m<=n) : MM m A:=by
 have hin : ∀ (S : Nat->Bool) i,inR n A (λ j=>S j && decide (j<m)) i=inR m A S i:=λ S i=>zrK S n m (λ j=>A i j) hm;refine ⟨λ i j hi hj hne=>h.off i j (by omega) (by omega) hne,λ S i hi hs=>?_,λ S hS=>?_⟩
 .have:=h.non (λ j=>S j && decide (j<m)) i (by omega) (by simp [hs,hi])
  rwa [hin] at this
 .obtain ⟨k,hk,hks⟩:=hS
  obtain ⟨i,hi,hs,hp⟩:=h.leak (λ j=>S j && decide (j<m)) ⟨k,by omega,by simp [hks,hk]⟩
  simp at hs;rw [hin] at hp;exact ⟨i,hs.2,hs.1,hp⟩
structure Elim (p : Int) (A : Mat) (k : Nat) (o : Int) (B : Mat) : Prop where
 det : ∀ m,Cg p (detM (k+m) A) (o*detM m B)
theorem Elim.start (p : Int) (A : Mat) : Elim p A 0 1 A:=⟨λ m=>by rw [Q0,Int.one_mul]; exact .refl _⟩
theorem Elim.next {p inv o : Int} {A B S : Mat} {k : Nat} (h : Elim p A k o B) (hi : Cg p (B 0 0*inv) 1) (hS : ∀ i j,Cg p (S i j) (B (i+1) (j+1) - B (i+1) 0*inv*B 0 (j+1))) {o' : Int} (ho : Cg p o' (o*B 0 0)) : Elim p A (k+1) o' S:=⟨λ m=>by
 have h1:=h.det (m+1);rw [show k+1+m=k+(m+1) by omega]
 refine h1.trans ?_;have h2:=(Cg.refl (p:=p) o).mul (zr6 hi hS m);have h3:=ho.mul (Cg.refl (p:=p) (detM m S));rw [show o*(B 0 0*detM m S)=o*B 0 0*detM m S by grind] at h2
 exact h2.trans h3.symm⟩
theorem Elim.piv {p o : Int} {A B : Mat} {k n : Nat} (h : Elim p A k o B) (hA : MM n A) (hk : k<n) (hp : (zc7 (k+1) λ i=>A i i)<p) : ¬ Cg p (B 0 0) 0:=λ hz=>by
 have h1:=h.det 1;rw [zud] at h1;have h2:=h1.trans ((Cg.refl o).mul hz);rw [Int.mul_zero] at h2;have h3:=zhG (k+1) (hA.lead (by omega))
 have h4:=zkh (k+1) (hA.lead (by omega))
 have h5:=h2.eq (by omega) (by omega) (UI 0) (by omega)
 omega
theorem Elim.done {p o : Int} {A B : Mat} {n : Nat} (h : Elim p A n o B) (hA : MM n A) (hp : (zc7 n λ i=>A i i)<p) (ho : 0<=o) (hop : o<p) : o=detM n A:=by
 have h1:=h.det 0;rw [zrH,Int.mul_one,Ua] at h1;have h3:=zhG n hA;have h4:=zkh n hA;exact (h1.eq (by omega) (by omega) ho hop).symm
def Prm (q : Nat) : Prop:=1<q /\ ∀ d,d∣q->d=1∨d=q
theorem Prm.cop {q a : Nat} (h : Prm q) (ha : ¬ q∣a) : Nat.Coprime q a:=by
 rcases h.2 (Nat.gcd q a) (Nat.gcd_dvd_left q a) with h1 | h1
 .exact h1
 .exact absurd (h1 ▸ Nat.gcd_dvd_right q a) ha
theorem Prm.euclid {q a b : Nat} (h : Prm q) (hd : q∣a*b) : q∣a∨q∣b:=by
 by_cases ha : q∣a
 .exact .inl ha
 .exact .inr ((h.cop ha).dvd_of_dvd_mul_left hd)
theorem zoq {q x y : Nat} (h : y % q=x % q) : q∣y - x:=Nat.dvd_of_mod_eq_zero (Nat.sub_mod_eq_zero_of_mod_eq h)
theorem zvU {q x y : Nat} (hxy : x<=y) (h : q∣y - x) : y % q=x % q:=by
 obtain ⟨t,ht⟩:=h;rw [show y=x+q*t by omega,Nat.add_mul_mod_self_left]
theorem ziR : ∀ {a b : List Nat},a.Nodup->(∀ x∈a,x∈b)->a.length=b.length->a.Perm b
 | [],b,_,_,hl=>by
   have : b=[]:=UU.1 hl.symm;rw [this]
 | x::a,b,hn,hs,hl=>by
   have hx:=hs x (by simp)
   have h1:=List.perm_cons_erase hx;rw [Q6] at hn
   have h2 : a.Perm (b.erase x):=by
    refine ziR hn.2 (λ y hy=>?_) ?_
    .have hne : y≠x:=λ h=>hn.1 (h ▸ hy)
     exact (List.mem_erase_of_ne hne).2 (hs y (by simp [hy]))
    .rw [List.length_erase_of_mem hx]
     simp only [QM] at hl;omega
   exact (h2.cons x).trans h1.symm
def mulL : List Nat->Nat
 | []=>1
 | x::l=>x*mulL l
theorem zrp {a b : List Nat} (h : a.Perm b) : mulL a=mulL b:=by
 induction h with
 | nil=>rfl
 | cons x _ ih=>simp only [mulL]; rw [ih]
 | swap x y l=>simp only [mulL]; grind
 | trans _ _ ih1 ih2=>exact ih1.trans ih2
theorem zoK (q a : Nat) : ∀ l : List Nat,mulL (l.map λ x=>a*x % q) % q=a ^ l.length*mulL l % q
 | []=>by simp [mulL]
 | x::l=>by
   have h:=zoK q a l;simp only [Qn,mulL,QM];rw [Vj,h,Nat.mod_mod,<- Vj]
   congr 1
   grind
theorem zo4 {q : Nat} (h : Prm q) : ∀ l : List Nat,q∣mulL l -> ∃ x∈l,q∣x
 | [],hd=>by
   have:=Vk (by decide) hd
   have:=h.1;simp only [mulL] at *;omega
 | x::l,hd=>by
   rcases h.euclid hd with h1 | h1
   .exact ⟨x,by simp,h1⟩
   .obtain ⟨y,hy,h2⟩:=zo4 h l h1
    exact ⟨y,by simp [hy],h2⟩
theorem zu1 {q a : Nat} (h : Prm q) (ha : ¬ q∣a) : a ^ (q - 1) % q=1:=by
 have h1:=h.1
 let l:=List.range' 1 (q - 1)
 have hlen : l.length=q - 1:=by simp [l]
 have hml : ∀ x∈l,1<=x/\x<q:=λ x hx=>by
  have:=List.mem_range'_1.1 hx;omega
 have hnod : l.Nodup:=List.nodup_range';have hcop:=h.cop ha
 have hp : (l.map λ x=>a*x % q).Perm l:=by
  refine ziR ?_ (λ y hy=>?_) (by simp)
  .rw [List.Nodup,U2]
   refine hnod.imp_of_mem λ {x y} hx hy hne he=>hne ?_;have hx':=hml x hx;have hy':=hml y hy
   have key : ∀ x y : Nat,x<=y->y<q->a*x % q=a*y % q->x=y:=λ x y hxy hyq he=>by
    have h2 : q∣a*y - a*x:=zoq he.symm;rw [<- Nat.mul_sub] at h2;have h3 : q∣y - x:=hcop.dvd_of_dvd_mul_left h2;rcases Ui (y - x) with h4 | h4
    .omega
    .have:=Vk h4 h3
     omega
   rcases Nat.le_total x y with h5 | h5
   .exact key x y h5 hy'.2 he
   .exact (key y x h5 hx'.2 he.symm).symm
  .obtain ⟨x,hx,rfl⟩:=Qg.1 hy
   have hx':=hml x hx;refine List.mem_range'_1.2 ?_;have h3 : a*x % q<q:=Uj _ (by omega)
   have h4 : a*x % q≠0:=λ h0=>by
    have h5:=Nat.dvd_of_mod_eq_zero h0;have h6:=hcop.dvd_of_dvd_mul_left h5;have:=Vk (by omega) h6
    omega
   omega
 have h2:=zoK q a l;rw [zrp hp,hlen] at h2
 have hnd : ¬ q∣mulL l:=λ hd=>by
  obtain ⟨x,hx,h3⟩:=zo4 h l hd;have h4:=hml x hx;have:=Vk (by omega) h3
  omega
 have hpos : 1<=a ^ (q - 1):=Nat.pow_pos (Nat.pos_of_ne_zero λ h0=>ha (h0 ▸ Nat.dvd_zero q))
 have h3 : q∣a ^ (q - 1)*mulL l - 1*mulL l:=by
  refine zoq ?_;rw [Nat.one_mul];exact h2.symm
 rw [<- Nat.sub_mul] at h3;have h4:=(h.cop hnd).dvd_of_dvd_mul_right h3;rw [zvU hpos h4,Va h1]
theorem zqg : ∀ (n : Nat),1<n -> ∃ q,Prm q/\q∣n:=by
 intro n
 induction n using Nat.strongRecOn with
 | _ n ih =>
   intro hn
   by_cases h : Prm n
   .exact ⟨n,h,Nat.dvd_refl n⟩
   .have : ∃ d,d∣n/\d≠1/\d≠n:=Classical.byContradiction λ hc=>h ⟨hn,λ d hd=>by
     by_cases h1 : d=1
     .exact .inl h1
     .by_cases h2 : d=n
      .exact .inr h2
      .exact absurd ⟨d,hd,h1,h2⟩ hc⟩
    obtain ⟨d,hd,h1,h2⟩:=this;have h3:=Vk (by omega) hd
    have h4 : d≠0:=λ h0=>by subst h0; have:=Nat.eq_zero_of_zero_dvd hd; omega
    obtain ⟨q,hq,h5⟩:=ih d (by omega) (by omega)
    exact ⟨q,hq,Nat.dvd_trans h5 hd⟩
def P61 : Nat:=2305843009213693951
def powm (m : Nat) : Nat->Nat->Nat->Nat->Nat
 | 0,_,_,acc=>acc
 | f+1,a,n,acc=>powm m f (a*a % m) (n / 2) (if n % 2=1 then acc*a % m else acc)
theorem zr1 (m : Nat) : ∀ (f a n acc : Nat),n<2 ^ f->powm m f a n acc % m=acc*a ^ n % m
 | 0,a,n,acc,h=>by
   have : n=0:=by simpa using h
   subst this;simp [powm]
 | f+1,a,n,acc,h=>by
   have h1:=zr1 m f (a*a % m) (n / 2) (if n % 2=1 then acc*a % m else acc) (by rw [Nat.pow_succ] at h; omega)
   simp only [powm];rw [h1];have h2 : (a*a % m) ^ (n / 2) % m=(a*a) ^ (n / 2) % m:=(Nat.pow_mod _ _ _).symm;have h3 : (a*a) ^ (n / 2)=a ^ (2*(n / 2)):=by rw [Nat.pow_mul,Nat.pow_two]
   rw [Vj,h2,h3];split
   .rename_i h4
    rw [Nat.mod_mod,<- Vj,Nat.mul_assoc,U5 a,<- Nat.pow_succ]
    congr 3
    omega
   .rename_i h4
    rw [<- Vj]
    congr 3
    omega
theorem zvX {q h : Nat} (hq : 1<q) (m n : Nat) : h ^ m % q=1->h ^ n % q=1->h ^ Nat.gcd m n % q=1:=by
 induction m,n using Nat.gcd.induction with
 | H0 n=>intro _ h2; simpa using h2
 | H1 m n hm ih =>
   intro h1 h2;rw [Nat.gcd_rec];refine ih ?_ h1
   have e : h ^ n=(h ^ m) ^ (n / m)*h ^ (n % m):=by
    rw [<- Nat.pow_mul,<- Nat.pow_add,Nat.div_add_mod]
   rw [e,Vj,Nat.pow_mod,h1,Nat.one_pow,Va hq,Nat.one_mul,Nat.mod_mod] at h2;exact h2
theorem zlu {q r h u : Nat} (hq : Prm q) (hr : Prm r) (hd : q∣P61) (hr2 : r<2 ^ 11) (hp : powm P61 11 h r 1 % P61=1) (h2 : (h - 1)*u % P61=1) : r∣q - 1:=Classical.byContradiction λ hn=>by
 have hq1:=hq.1
 have h1 : h ^ r % P61=1:=by
  rw [zr1 P61 11 h r 1 hr2,Nat.one_mul] at hp;exact hp
 have hmod : ∀ x,x % P61=1->x % q=1:=λ x hx=>by
  rw [<- Nat.mod_mod_of_dvd x hd,hx,Va hq1]
 have e1:=hmod _ h1
 have hqh : ¬ q∣h:=λ hdv=>by
  obtain ⟨k,hk⟩ : ∃ k,r=k+1:=⟨r - 1,by have:=hr.1; omega⟩
  have : q∣h ^ r:=by rw [hk,Nat.pow_succ]; exact Nat.dvd_trans hdv (Nat.dvd_mul_left h (h ^ k))
  rw [Nat.mod_eq_zero_of_dvd this] at e1;omega
 have e2:=zu1 hq hqh;have hc : Nat.gcd r (q - 1)=1:=hr.cop hn;have e3:=zvX hq1 r (q - 1) e1 e2;rw [hc,Nat.pow_one] at e3;have e4:=hmod _ h2;have e5 : q∣h - 1:=zoq (by rw [e3,Va hq1])
 have e6 : q∣(h - 1)*u:=Nat.dvd_trans e5 (Nat.dvd_mul_right _ _);rw [Nat.mod_eq_zero_of_dvd e6] at e4;omega
theorem zlk {r : Nat} (h1 : 1<r) (h : ∀ d,d<r->d<=1∨¬ d∣r) : Prm r:=⟨h1,λ d hd=>by
 have h2:=Vk (by omega) hd
 by_cases h3 : d=r
 .exact .inr h3
 .rcases h d (by omega) with h4 | h4
  .have : d≠0:=λ h0=>by subst h0; have:=Nat.eq_zero_of_zero_dvd hd; omega
   exact .inl (by omega)
  .exact absurd hd h4⟩
def zvS (r : Nat) : Nat->Bool
 | 0=>true
 | d+1=>(d<=1 || r % d != 0) && zvS r d
theorem zf3 {r : Nat} : ∀ n,zvS r n=true -> ∀ d,d<n->d<=1∨¬ d∣r
 | n+1,h,d,hd=>by
   simp only [zvS,QT,UK,Qe] at h
   by_cases he : d=n
   .subst he
    rcases h.1 with h1 | h1
    .exact .inl h1
    .exact .inr λ hdv=>by simp [Nat.mod_eq_zero_of_dvd hdv] at h1
   .exact zf3 n h.2 d (by omega)
theorem zvO {q : Nat} (hq : Prm q) (hd : q∣P61) : 1321∣q - 1:=by
 exact zlu (h:=30210013857155493) (u:=2165998172066445805) hq (zlk (by decide) (zf3 1321 (by decide +kernel))) hd (by decide) (by decide +kernel) (by decide +kernel)
theorem zxH {q : Nat} (hq : Prm q) (hd : q∣P61) : 331∣q - 1:=by
 exact zlu (h:=185945230422323302) (u:=1960352316127796739) hq (zlk (by decide) (zf3 331 (by decide +kernel))) hd (by decide) (by decide +kernel) (by decide +kernel)
theorem zxp {q : Nat} (hq : Prm q) (hd : q∣P61) : 151∣q - 1:=by
 exact zlu (h:=1433721343585656393) (u:=68233547637592170) hq (zlk (by decide) (zf3 151 (by decide +kernel))) hd (by decide) (by decide +kernel) (by decide +kernel)
theorem zye {q : Nat} (hq : Prm q) (hd : q∣P61) : 61∣q - 1:=by
 exact zlu (h:=35184372088832) (u:=329365932848850065) hq (zlk (by decide) (zf3 61 (by decide +kernel))) hd (by decide) (by decide +kernel) (by decide +kernel)
theorem zqp {P : Nat} (hP : 1<P) (key : ∀ m,1<m->m∣P->P<m*m) : Prm P:=⟨hP,λ d hd=>Classical.byContradiction λ hc=>by
 have hc1 : d≠1:=λ h=>hc (.inl h);have hc2 : d≠P:=λ h=>hc (.inr h);obtain ⟨e,he⟩:=hd;have hd0 : d≠0:=λ h=>by rw [h,Nat.zero_mul] at he; omega
 have he0 : e≠0:=λ h=>by rw [h,Nat.mul_zero] at he; omega
 have he1 : e≠1:=λ h=>by rw [h,Nat.mul_one] at he; exact hc2 he.symm
 have k1:=key d (by omega) ⟨e,he⟩
 have k2:=key e (by omega) ⟨d,by rw [U5]; exact he⟩
 rcases Nat.le_total d e with h | h
 .have:=Nat.mul_le_mul_left d h
  omega
 .have:=QC e h
  omega⟩
theorem zyn {q : Nat} (hq1 : 1<q) (h1 : 1321∣q - 1) (h2 : 331∣q - 1) (h3 : 151∣q - 1) (h4 : 61∣q - 1) : 4027518961<=q - 1:=by
 have h5 : 1321*331∣q - 1:=Nat.Coprime.mul_dvd_of_dvd_of_dvd (by decide +kernel : Nat.Coprime 1321 331) h1 h2
 have h6 : 1321*331*151∣q - 1:=Nat.Coprime.mul_dvd_of_dvd_of_dvd (by decide +kernel : Nat.Coprime (1321*331) 151) h5 h3
 have h7 : 1321*331*151*61∣q - 1:=Nat.Coprime.mul_dvd_of_dvd_of_dvd (by decide +kernel : Nat.Coprime (1321*331*151) 61) h6 h4
 have h0 : 0<q - 1:=Nat.sub_pos_of_lt hq1;exact Vk h0 h7
theorem zyz {m : Nat} (h : 4027518961<=m) : P61<m*m:=U7 (by decide +kernel : P61<4027518961*4027518961) (Nat.mul_le_mul h h)
theorem zyK (m : Nat) (hm : 1<m) (hmd : m∣P61) : P61<m*m:=by
 obtain ⟨q,hq,hqm⟩:=zqg m hm;have hqd:=Nat.dvd_trans hqm hmd;have h8:=zyn hq.1 (zvO hq hqd) (zxH hq hqd) (zxp hq hqd) (zye hq hqd);have h9 : q<=m:=Vk (Nat.lt_trans Nat.zero_lt_one hm) hqm;exact zyz (QH h8 (QH (Nat.sub_le q 1) h9))
theorem zx9 : Prm P61:=zqp (by decide +kernel) zyK
theorem zyF {a : Nat} (h0 : 0<a) (h : a<P61) : a*a ^ (P61 - 2) % P61=1:=by
 have h1:=zu1 zx9 (a:=a) λ hd=>by
  have:=Vk h0 hd;omega
 rw [U5,<- Nat.pow_succ];exact h1
def skp (r j : Nat) : Nat:=if j<r then j else j+1
theorem zwu (r j : Nat) : skp r j≠r:=by unfold skp; split <;> omega
theorem zd2 {r j N : Nat} (hr : r<N+1) (hj : j<N) : skp r j<N+1:=by unfold skp; split <;> omega
theorem zqT {r k N : Nat} (hk : k<N+1) (hne : k≠r) (hr : r<N+1) : ∃ j,j<N/\skp r j=k:=by
 rcases Ug k r with h | h
 .exact ⟨k,by omega,by unfold skp; rw [if_pos h]⟩
 .exact ⟨k - 1,by omega,by unfold skp; rw [if_neg (by omega)]; omega⟩
theorem znp : ∀ (n : Nat) (f g : Nat->Int),smN n (λ j=>f j+g j)=smN n f+smN n g
 | 0,_,_=>rfl
 | n+1,f,g=>by
   simp only [smN];rw [znp n];omega
theorem zeK : ∀ (n : Nat) {f : Nat->Int},(∀ i,i<n->0<=f i)->0<=smN n f
 | 0,_,_=>UI _
 | n+1,f,h=>by
   simp only [smN];have h1:=h 0 (by omega)
   have h2:=zeK n (f:=λ i=>f (i+1)) λ i hi=>h (i+1) (by omega)
   omega
theorem zra : ∀ (n : Nat) {f : Nat->Int},(∀ i,i<n->0<=f i)->(∃ i,i<n/\0<f i)->0<smN n f
 | 0,_,_,h=>by obtain ⟨i,hi,_⟩:=h; omega
 | n+1,f,h,he=>by
   simp only [smN];have h1:=h 0 (by omega)
   have h2:=zeK n (f:=λ i=>f (i+1)) λ i hi=>h (i+1) (by omega)
   obtain ⟨i,hi,hp⟩:=he
   cases i with
   | zero=>omega
   | succ i =>
     have h3:=zra n (f:=λ i=>f (i+1)) (λ i hi=>h (i+1) (by omega)) ⟨i,by omega,hp⟩
     omega
theorem zqP : ∀ (N r : Nat) (f : Nat->Int),r<N+1->smN (N+1) f=f r+smN N λ j=>f (skp r j)
 | N,0,f,_=>by
   have:=zbp N (f:=λ j=>f (skp 0 j)) (g:=λ j=>f (j+1)) λ j _=>by simp [skp]
   rw [this];rfl
 | 0,r+1,f,h=>by omega
 | N+1,r+1,f,h=>by
   have h1:=zqP N r (λ j=>f (j+1)) (by omega)
   have h2 : smN (N+1) (λ j=>f (skp (r+1) j))=f 0+smN N λ j=>f (skp r j+1):=by
    simp only [smN]
    congr 1
    refine zbp N λ j _=>?_
    congr 1
    unfold skp;split <;> split <;> omega
   rw [h2];show f 0+smN (N+1) (λ j=>f (j+1))=_;rw [h1];omega
def redM (W : Mat) (N r : Nat) : Mat:=λ i j=>if i=j then smN (N+1) (W (skp r i)) - W (skp r i) (skp r i) else - W (skp r i) (skp r j)
structure Walk (W : Mat) (N r : Nat) : Prop where
 root : r<N+1
 non : ∀ i j,i<N+1->j<N+1->0<=W i j
 out : ∀ S : Nat->Bool,S r=false->(∃ i,i<N+1/\S i=true) -> ∃ i j,i<N+1/\j<N+1/\S i=true/\S j=false/\0<W i j
section
variable {W : Mat} {N r : Nat}
theorem zr7 (hr : r<N+1) (S : Nat->Bool) {i : Nat} (hi : i<N) (hs : S i=true) : inR N (redM W N r) S i=W (skp r i) r+smN N λ j=>if S j then 0 else W (skp r i) (skp r j):=by
 have h1:=zqP N r (W (skp r i)) hr;have h2:=zgq N (λ _=>smN (N+1) (W (skp r i))) i hi
 have h3 : inR N (redM W N r) S i=smN N λ j=>(if decide (j=i) then smN (N+1) (W (skp r i)) else 0)+(if S j then - W (skp r i) (skp r j) else 0):=by
  unfold inR;refine zbp N λ j _=>?_;unfold redM
  by_cases hj : j=i
  .subst hj
   simp [hs];omega
  .have hj' : ¬ i=j:=λ h=>hj h.symm
   cases hsj : S j <;> simp [hj,hj']
 rw [h3,znp,h2,h1,Int.add_assoc,<- znp]
 congr 1
 refine zbp N λ j _=>?_
 cases S j <;> simp <;> omega
theorem zoV (h : Walk W N r) : MM N (redM W N r):=by
 have hr:=h.root;refine ⟨λ i j hi hj hne=>?_,λ S i hi hs=>?_,λ S hS=>?_⟩
 .have:=h.non (skp r i) (skp r j) (zd2 hr hi) (zd2 hr hj)
  unfold redM;rw [if_neg hne];omega
 .rw [zr7 hr S hi hs]
  have h1:=h.non (skp r i) r (zd2 hr hi) hr
  have h2:=zeK N (f:=λ j=>if S j then 0 else W (skp r i) (skp r j)) λ j hj=>by
   have:=h.non (skp r i) (skp r j) (zd2 hr hi) (zd2 hr hj);split <;> omega
  omega
 .obtain ⟨k,hk,hks⟩:=hS
  let T : Nat->Bool:=λ x=>decide (x≠r) && S (if x<r then x else x - 1)
  have hT : ∀ j,T (skp r j)=S j:=λ j=>by
   have h1:=zwu r j
   have e : (if skp r j<r then skp r j else skp r j - 1)=j:=by
    by_cases hj : j<r
    .have e1 : skp r j=j:=by unfold skp; rw [if_pos hj]
     rw [e1,if_pos hj]
    .have e1 : skp r j=j+1:=by unfold skp; rw [if_neg hj]
     have e2 : ¬ j+1<r:=by omega
     rw [e1,if_neg e2,Nat.add_sub_cancel]
   show (decide (skp r j≠r) && S (if skp r j<r then skp r j else skp r j - 1))=S j
   rw [e,U3 h1,Bool.true_and]
  obtain ⟨i,j,hi,hj,hTi,hTj,hp⟩:=h.out T (by simp [T]) ⟨skp r k,zd2 hr hk,by rw [hT]; exact hks⟩
  have hir : i≠r:=λ he=>by subst he; simp [T] at hTi
  obtain ⟨a,ha,rfl⟩:=zqT hi hir hr;rw [hT] at hTi;refine ⟨a,ha,hTi,?_⟩;rw [zr7 hr S ha hTi];have h1:=h.non (skp r a) r (zd2 hr ha) hr
  have h0 : ∀ j,j<N->0<=(if S j then 0 else W (skp r a) (skp r j)):=λ j hj=>by
   have:=h.non (skp r a) (skp r j) (zd2 hr ha) (zd2 hr hj);split <;> omega
  have h2:=zeK N h0
  by_cases hjr : j=r
  .subst hjr
   omega
  .obtain ⟨b,hb,rfl⟩:=zqT hj hjr hr
   rw [hT] at hTj;have h3:=zra N h0 ⟨b,hb,by rw [hTj]; exact hp⟩
   omega
theorem zpx (c : Int) (hc : 0<=c) : ∀ (n : Nat) {f : Nat->Int},(∀ i,i<n->0<=f i/\f i<=c)->zc7 n f<=c ^ n
 | 0,_,_=>by simp [zc7]
 | n+1,f,h=>by
   have h0:=h 0 (by omega)
   have h1:=zpx c hc n (f:=λ i=>f (i+1)) λ i hi=>h (i+1) (by omega)
   have h2:=zek n (f:=λ i=>f (i+1)) λ i hi=>(h (i+1) (by omega)).1
   simp only [zc7];have h3:=Int.mul_le_mul h0.2 h1 h2 hc
   grind
theorem zmu (h : Walk W N r) {c : Int} (hc : ∀ i,i<N+1->smN (N+1) (W i)<=c) (hc0 : 0<=c) {k : Nat} (hk : k<=N) : (zc7 k λ i=>redM W N r i i)<=c ^ k:=by
 refine zpx c hc0 k λ i hi=>?_;have hm:=zoV h;have h1:=hm.diag i (by omega)
 refine ⟨h1,?_⟩;have h2:=hc (skp r i) (zd2 h.root (by omega))
 have h3:=h.non (skp r i) (skp r i) (zd2 h.root (by omega)) (zd2 h.root (by omega))
 unfold redM;rw [if_pos rfl];omega
end
def del (L : Mat) (x : Nat) : Mat:=λ i j=>L (skp x i) (skp x j)
def trs (n : Nat) (L : Mat) (x : Nat) : Int:=detM n (del L x)
theorem zuE (L : Mat) (x : Nat) : chio (del L (x+1))=del (chio L) x:=by
 have h0 : skp (x+1) 0=0:=by simp [skp]
 have h1 : ∀ i,skp (x+1) (i+1)=skp x i+1:=λ i=>by
  unfold skp
  by_cases h : i<x
  .rw [if_pos h,if_pos (by omega)]
  .rw [if_neg h,if_neg (by omega)]
 funext i j
 simp only [chio,del,h0,h1]
structure Lp (n : Nat) (L : Mat) : Prop where
 off : ∀ i j,i<n+1->j<n+1->i≠j->L i j<=0
 sum : ∀ i,i<n+1->smN (n+1) (L i)=0
 red : ∀ x,x<n+1->MM n (del L x)
def bal (n : Nat) (L : Mat) (y : Nat) : Int:=smN (n+1) λ x=>trs n L x*L x y
section
variable {n : Nat} {L : Mat}
theorem Lp.pos (h : Lp (n+1) L) : 0<L 0 0:=(h.red 1 (by omega)).pos
theorem Lp.chio (h : Lp (n+1) L) : Lp n (chio L):=by
 have h0:=h.pos;refine ⟨λ i j hi hj hne=>?_,λ i hi=>?_,λ x hx=>?_⟩
 .have h1:=h.off (i+1) (j+1) (by omega) (by omega) (by omega)
  have h2:=h.off 0 (j+1) (by omega) (by omega) (by omega)
  have h3:=h.off (i+1) 0 (by omega) (by omega) (by omega)
  have h4:=Int.mul_nonneg_of_nonpos_of_nonpos h2 h3;have h5:=Int.mul_nonneg (Int.le_of_lt h0) (Int.neg_nonneg_of_nonpos h1);rw [Int.mul_neg] at h5;unfold Go.Proofs.YtkngdgplbojdlaaGreat.chio;omega
 .have h1:=h.sum (i+1) (by omega)
  have h2:=h.sum 0 (by omega)
  have h3:=zkX (L 0 0) (L (i+1) 0) (n+1) (λ j=>L (i+1) (j+1)) (λ j=>L 0 (j+1))
  have h4:=zbp (n+1) (f:=Go.Proofs.YtkngdgplbojdlaaGreat.chio L i) (g:=λ j=>L 0 0*L (i+1) (j+1) - L (i+1) 0*L 0 (j+1)) λ j _=>by
   simp only [Go.Proofs.YtkngdgplbojdlaaGreat.chio]
   grind
  rw [h4,h3];have e1 : L (i+1) 0+smN (n+1) (λ j=>L (i+1) (j+1))=0:=h1;have e2 : L 0 0+smN (n+1) (λ j=>L 0 (j+1))=0:=h2;have e3 : smN (n+1) (λ j=>L (i+1) (j+1)) = - L (i+1) 0:=by omega
  have e4 : smN (n+1) (λ j=>L 0 (j+1)) = - L 0 0:=by omega
  rw [e3,e4]
  grind
 .rw [<- zuE]
  exact (h.red (x+1) (by omega)).chio
end
section
variable {W : Mat} {N : Nat}
def zp9 (W : Mat) (N x : Nat) : Int:=detM N (redM W N x)
theorem zrW {x : Nat} (h : Walk W N x) : 0<zp9 W N x:=zhG N (zoV h)
theorem zuc {x : Nat} (h : Walk W N x) {c : Int} (hc : ∀ i,i<N+1->smN (N+1) (W i)<=c) (hc0 : 0<=c) : zp9 W N x<=c ^ N :=
 Int.le_trans (zkh N (zoV h)) (zmu h hc hc0 (Ql N))
end
section
variable {g : Gr} {S : List Int}
theorem zjG (h : GrOk g) (T : Int->Bool) (hT : ∀ k,za4 g S k=true->T k=true) : ∀ (n : Nat) (k : Int),dist g S k=n->T k=false -> ∃ e∈g.edges,T e.f=true/\T e.t=false/\0<=dist g S e.f/\0<=dist g S e.t
 | 0,k,hd,hk=>by
   have:=hT k ((zb7 h).1 hd);rw [hk] at this
   cases this
 | n+1,k,hd,hk=>by
   obtain ⟨e,he,h1,h2⟩:=zcw h (by rw [hd]; omega : dist g S k=(n : Int)+1)
   cases hf : T e.f
   .exact zjG h T hT n e.f h2 hf
   .exact ⟨e,he,hf,by rw [h1]; exact hk,by omega,by rw [h1]; omega⟩
def edW (g : Gr) (x y : Int) : Int:=((g.edges.filter λ e=>decide (e.f=x) && decide (e.t=y)).map λ e=>e.v).sum
def wayW (g : Gr) (S : List Int) (restart : Int) (x y : Int) : Int:=(if S.contains y then restart else 0)+edW g x y
def zp5 (g : Gr) (S : List Int) (restart : Int) (K : List Int) : Mat:=λ i j=>wayW g S restart (K.getD i 0) (K.getD j 0)
theorem zcT : ∀ {l : List Int},(∀ x∈l,0<=x)->0<=l.sum
 | [],_=>by simp
 | x::l,h=>by
   have h1:=h x (by simp)
   have h2:=zcT (l:=l) λ y hy=>h y (by simp [hy])
   rw [Uv];omega
theorem zoS : ∀ {l : List Int} {y : Int},(∀ x∈l,0<=x)->y∈l->y<=l.sum
 | x::l,y,h,hy=>by
   have h1:=h x (by simp)
   have h2:=zcT (l:=l) λ y hy=>h y (by simp [hy])
   rw [Uv];rcases Qu.1 hy with rfl | hy
   .omega
   .have:=zoS (l:=l) (λ y hy=>h y (by simp [hy])) hy
    omega
theorem zjL (hv : ∀ e∈g.edges,0<=e.v) (x y : Int) : 0<=edW g x y:=zcT λ v hv'=>by
 obtain ⟨e,he,rfl⟩:=Qg.1 hv';exact hv e (Qw.1 he).1
theorem zvQ (hv : ∀ e∈g.edges,1<=e.v) {e : Ed} (he : e∈g.edges) : 0<edW g e.f e.t:=by
 have h1 : e.v<=edW g e.f e.t:=zoS (λ v hv'=>by
  obtain ⟨e,he,rfl⟩:=Qg.1 hv';have:=hv e (Qw.1 he).1
  omega) (Qg.2 ⟨e,Qw.2 ⟨he,by simp⟩,rfl⟩)
 have:=hv e he;omega
theorem zvG (h : GrOk g) (hv : ∀ e∈g.edges,1<=e.v) {restart : Int} (hr : 1<=restart) {K : List Int} (hK : ∀ k,k∈K↔Key g k/\0<=dist g S k) (hn : K.Nodup) (hS : ∀ s∈S,Key g s) {N : Nat} (hN : K.length=N+1) {r : Nat} (hrN : r<N+1) : Walk (zp5 g S restart K) N r:=by
 have hnn : ∀ x y,0<=wayW g S restart x y:=λ x y=>by
  have:=zjL (λ e he=>by have:=hv e he; omega) x y
  unfold wayW;split <;> omega
 refine ⟨hrN,λ i j _ _=>hnn _ _,λ A hA hex=>?_⟩;obtain ⟨i,hi,hAi⟩:=hex
 by_cases hst : ∃ s,s<N+1/\S.contains (K.getD s 0)=true/\A s=false
 .obtain ⟨s,hs,h1,h2⟩:=hst
  refine ⟨i,s,hi,hs,hAi,h2,?_⟩;have:=zjL (λ e he=>by have:=hv e he; omega) (K.getD i 0) (K.getD s 0)
  unfold zp5 wayW;rw [if_pos h1];omega
 .
  have hat : ∀ {k : Int},k∈K->K.idxOf k<N+1/\K.getD (K.idxOf k) 0=k:=λ {k} hk=>by
   have h1:=List.idxOf_lt_length_iff.2 hk;refine ⟨by omega,?_⟩
   simp [h1]
  let T : Int->Bool:=λ k=>decide (k∈K) && A (K.idxOf k)
  have hT : ∀ k,za4 g S k=true->T k=true:=λ k hk=>by
   have hd:=(zb7 h).2 hk
   have hs : S.contains k=true:=by
    unfold za4 at hk;simp only [QT] at hk;exact hk.1
   have hkK : k∈K:=(hK k).2 ⟨hS k (by simpa using hs),by omega⟩
   obtain ⟨h1,h2⟩:=hat hkK
   have h3 : A (K.idxOf k)=true:=by
    cases h4 : A (K.idxOf k)
    .exact absurd ⟨K.idxOf k,h1,by rw [h2]; exact hs,h4⟩ hst
    .rfl
   simp [T,hkK,h3]
  have hrl : r<K.length:=by omega
  have hkr : K[r]∈K:=Qj hrl;have hdr:=((hK K[r]).1 hkr).2;have hir : K.idxOf K[r]=r:=hn.idxOf_getElem r hrl;obtain ⟨e,he,h1,h2,h3,h4⟩:=zjG h T hT (dist g S K[r]).toNat K[r] (by omega) (by simp [T,hir,hA])
  have hef : e.f∈K/\A (K.idxOf e.f)=true:=by simpa [T] using h1
  have het : e.t∈K:=(hK e.t).2 ⟨by have:=h.fits e he; unfold Fits at this; unfold Key; omega,h4⟩
  have hat2 : A (K.idxOf e.t)=false:=by simpa [T,het] using h2
  obtain ⟨q1,q2⟩:=hat hef.1;obtain ⟨q3,q4⟩:=hat het;refine ⟨K.idxOf e.f,K.idxOf e.t,q1,q3,hef.2,hat2,?_⟩;unfold zp5 wayW;rw [q2,q4];have:=zvQ hv he;split <;> omega
end
def gcdL : List Nat->Nat
 | []=>0
 | x::l=>Nat.gcd x (gcdL l)
theorem zo6 : ∀ {l : List Nat} {x : Nat},x∈l->gcdL l∣x
 | y::l,x,hx=>by
   rcases Qu.1 hx with rfl | hx
   .exact Nat.gcd_dvd_left _ _
   .exact Nat.dvd_trans (Nat.gcd_dvd_right _ _) (zo6 hx)
theorem zuw : ∀ {l : List Nat},(∃ x∈l,0<x)->0<gcdL l
 | [],h=>by obtain ⟨x,hx,_⟩:=h; cases hx
 | y::l,h=>by
   obtain ⟨x,hx,hp⟩:=h;have hd:=zo6 hx;rcases Ui (gcdL (y::l)) with h0 | h0
   .rw [h0] at hd
    have:=Nat.eq_zero_of_zero_dvd hd;omega
   .exact h0
structure DigG (b y1 y0 u3 u1 q r : Nat) : Prop where
 eq : q*y1+r=u3
 ge : (u3*b+u1) / (y1*b+y0)<=q
section
variable {b y1 y0 u3 u1 q r : Nat}
theorem DigG.start (hy : 0<y1) (hu : u1<b) : DigG b y1 y0 u3 u1 (u3 / y1) (u3 - u3 / y1*y1):=by
 have h1:=Nat.div_mul_le_self u3 y1;refine ⟨by omega,?_⟩
 have hb : 0<b:=by omega
 have h2 : (u3*b+u1) / (y1*b)<=u3 / y1:=by
  rw [U5 y1 b,<- Nat.div_div_eq_div_mul,U5 u3 b,Nat.mul_add_div hb,Nat.div_eq_of_lt hu,Ua];exact Ql _
 refine QH ?_ h2;exact Nat.div_le_div_left (by omega) (Nat.mul_pos hy hb)
theorem DigG.fits (h : DigG b y1 y0 u3 u1 q r) (hy : 0<y1) (hb : 0<b) (hq : q*y0<=b*r+u1) : q=(u3*b+u1) / (y1*b+y0):=by
 refine Nat.le_antisymm ?_ h.ge;have hp : 0<y1*b+y0:=by have:=Nat.mul_pos hy hb; omega
 rw [Nat.le_div_iff_mul_le hp];have h1:=h.eq;have h2 : q*(y1*b+y0)=q*y1*b+q*y0:=by rw [Nat.mul_add,Nat.mul_assoc]
 have h3 : u3*b=q*y1*b+r*b:=by rw [<- h1,QI]
 have h4 : b*r=r*b:=U5 _ _;omega
theorem DigG.big (h : DigG b y1 y0 u3 u1 q r) (hy : 0<y1) (hb : 0<b) (hq : q<b) (hy0 : y0<b) (hr : b<=r) : q=(u3*b+u1) / (y1*b+y0):=by
 refine h.fits hy hb ?_;have h1 : q*y0<=b*b:=Nat.mul_le_mul (by omega) (by omega)
 have h2 : b*b<=b*r:=Nat.mul_le_mul_left b hr;omega
theorem DigG.less (h : DigG b y1 y0 u3 u1 q r) (hy : 0<y1) (hb : 0<b) (hU : u3*b+u1<(y1*b+y0)*b) (hq : b<=q∨b*r+u1<q*y0) : 1<=q/\DigG b y1 y0 u3 u1 (q - 1) (r+y1):=by
 have h1:=h.eq;have hp : 0<y1*b+y0:=by have:=Nat.mul_pos hy hb; omega
 have hlt : (u3*b+u1) / (y1*b+y0)<q:=by
  rcases hq with h2 | h2
  .have:=Nat.div_lt_of_lt_mul hU
   omega
  .rw [Nat.div_lt_iff_lt_mul hp]
   have h3 : q*(y1*b+y0)=q*y1*b+q*y0:=by rw [Nat.mul_add,Nat.mul_assoc]
   have h4 : u3*b=q*y1*b+r*b:=by rw [<- h1,QI]
   have h5 : b*r=r*b:=U5 _ _;omega
 have hq1 : 0<q:=Nat.lt_of_le_of_lt (Qi _) hlt;refine ⟨hq1,?_,Nat.le_sub_one_of_lt hlt⟩
 clear hlt
 obtain ⟨k,rfl⟩ : ∃ k,q=k+1:=⟨q - 1,by omega⟩
 rw [QI,Nat.one_mul] at h1;simp only [Nat.add_sub_cancel];omega
end
theorem zpO {b y u3 u1 u0 : Nat} (hy : 0<y) : ((u3*b+u1) % y*b+u0) % y=((u3*b+u1)*b+u0) % y:=by
 rw [Nat.add_mod,Vj,Nat.mod_mod,<- Vj,<- Nat.add_mod]
theorem zrz {s x y : Nat} : (2 ^ s*x) % (2 ^ s*y) / 2 ^ s=x % y:=by
 rw [Nat.mul_mod_mul_left,Nat.mul_div_cancel_left _ (Nat.two_pow_pos s)]
section
variable {used n c : Nat}
end
section
variable {A : Mat} {n row used c : Nat}
end
theorem ztB (P a n out : Nat) : (if n % 2=1 then out*a % P else out)*(a*a % P) ^ (n / 2) % P=out*a ^ n % P:=by
 have h2 : (a*a % P) ^ (n / 2) % P=(a*a) ^ (n / 2) % P:=(Nat.pow_mod _ _ _).symm;have h3 : (a*a) ^ (n / 2)=a ^ (2*(n / 2)):=by rw [Nat.pow_mul,Nat.pow_two]
 rw [Vj,h2,h3];split
 .rename_i h4
  rw [Nat.mod_mod,<- Vj,Nat.mul_assoc,U5 a,<- Nat.pow_succ]
  congr 3
  omega
 .rename_i h4
  rw [<- Vj]
  congr 3
  omega
def zaD (g : Gr) (S : List Int) : List Int:=((List.range g.size.toNat).map Int.ofNat).filter λ k=>decide (0<=dist g S k)
def zcc (g : Gr) (S : List Int) (r : Int) (x : Int) : List Int:=(zaD g S).map λ y=>wayW g S r x y
def zfi (g : Gr) (S : List Int) (r : Int) : List (List Int):=(zaD g S).map (zcc g S r)
def zfI (g : Gr) (S : List Int) (r : Int) (x : Int) : Int:=(zcc g S r x).sum
def zc4 (g : Gr) (S : List Int) (i : Nat) : Int:=(zaD g S).getD i 0
def zhn (g : Gr) (S : List Int) (r : Int) : Mat:=zp5 g S r (zaD g S)
def zkE (g : Gr) (S : List Int) (r : Int) (i : Nat) : Int:=zp9 (zhn g S r) ((zaD g S).length - 1) i
def rawK (g : Gr) (S : List Int) (r : Int) (i : Nat) : Nat:=(zfI g S r (zc4 g S i)*zkE g S r i).toNat
def zmP (g : Gr) (S : List Int) (r : Int) : List Nat:=(List.range (zaD g S).length).map (rawK g S r)
def outK (g : Gr) (S : List Int) (r : Int) : List Int:=(List.range g.size.toNat).map λ (k : Nat) =>
 if (k : Int)∈zaD g S then ((rawK g S r ((zaD g S).idxOf (k : Int)) / gcdL (zmP g S r) : Nat) : Int) else 0
section
variable {g : Gr} {S : List Int} {r : Int}
theorem zc1 {k : Int} : k∈zaD g S↔Key g k/\0<=dist g S k:=by
 unfold zaD Key;simp only [Qw,Qg,QA,Qe];constructor
 .rintro ⟨⟨i,hi,rfl⟩,h⟩
  exact ⟨by simp only [Int.ofNat_eq_natCast]; omega,h⟩
 .rintro ⟨h,h2⟩
  exact ⟨⟨k.toNat,by omega,by simp only [Int.ofNat_eq_natCast]; omega⟩,h2⟩
theorem zpf : (zaD g S).Pairwise (· < ·):=by
 unfold zaD;refine List.Pairwise.filter _ ?_;rw [U2];exact List.pairwise_lt_range.imp λ {a b} h=>by simp only [Int.ofNat_eq_natCast]; omega
theorem za5 : (zaD g S).Nodup:=zpf.imp λ {a b} h=>by omega
theorem zmh : (zaD g S).length<=g.size.toNat:=by
 unfold zaD;exact QH (QV _ _) (by simp)
theorem zo7 (h : GrOk g) : srt (ordL g S)=zaD g S:=by
 have h1 : (ordL g S).Perm (zaD g S):=(List.perm_ext_iff_of_nodup (za3 g S) za5).2 λ k=>by rw [zeB h,zc1]
 rw [zdu.2 h1];exact List.Perm.eq_of_pairwise (le:=(· <= ·)) (λ x y _ _ h1 h2=>by omega) (zmV _) (zpf.imp λ {a b} h=>by omega) (zbs _)
theorem zmO {i : Nat} (h : i<(zaD g S).length) : zc4 g S i=(zaD g S)[i]:=by simp [zc4,h]
theorem zlZ {i : Nat} (h : i<(zaD g S).length) : zc4 g S i∈zaD g S:=by rw [zmO h]; exact Qj h
theorem zrJ : ∀ l : List Int,l.sum=smN l.length λ j=>l.getD j 0
 | []=>rfl
 | x::l=>by
   simp only [Uv,QM,smN,UO,List.getD_cons_succ];rw [zrJ l]
theorem zoh {i : Nat} : smN (zaD g S).length (zhn g S r i)=zfI g S r (zc4 g S i):=by
 unfold zfI;rw [zrJ];simp only [zcc,Qt];refine zbp _ λ j hj=>?_;rw [Qd,Qs,Qa hj];simp [zhn,zp5,zc4,hj]
theorem zsT (hg : GrOk g) (x y : Int) : 0<=edW g x y/\edW g x y<=3:=by
 have hp:=hg.pair.filter λ e=>decide (e.f=x) && decide (e.t=y)
 have hm : ∀ e∈g.edges.filter (λ e=>decide (e.f=x) && decide (e.t=y)),e.f=x/\e.t=y/\1<=e.v/\e.v<=3:=λ e he=>by
  have h1:=Qw.1 he;simp only [QT,Qe] at h1;exact ⟨h1.2.1,h1.2.2,hg.val e h1.1⟩
 unfold edW;generalize g.edges.filter (λ e=>decide (e.f=x) && decide (e.t=y))=l at hp hm
 match l,hp,hm with
 | [],_,_=>simp
 | [e],_,hm=>have:=hm e (by simp); simp; omega
 | a::b::l,hp,hm =>
   have h1:=hm a (by simp)
   have h2:=hm b (by simp)
   have h3 : Bef a b:=by simp only [Ur] at hp; exact hp.1 b (by simp)
   unfold Bef at h3;omega
theorem zh7 (hg : GrOk g) (hr : 1<=r) (hr5 : r<=5) (x y : Int) : 0<=wayW g S r x y/\wayW g S r x y<=8:=by
 have:=zsT hg x y;unfold wayW;split <;> omega
theorem zqU (c : Int) : ∀ {l : List Int},(∀ x∈l,0<=x/\x<=c)->0<=l.sum/\l.sum<=c*l.length
 | [],_=>by simp
 | x::l,h=>by
   have h1:=h x (by simp)
   have h2:=zqU c (l:=l) λ y hy=>h y (by simp [hy])
   simp only [Uv,QM];have e : c*((l.length+1 : Nat) : Int)=c*l.length+c:=by rw [Int.natCast_add]; exact Int.mul_add _ _ _ ▸ by simp
   omega
theorem zhI (hg : GrOk g) (hr : 1<=r) (hr5 : r<=5) (x : Int) : 0<=zfI g S r x/\zfI g S r x<=8*(zaD g S).length:=by
 have h:=zqU 8 (l:=zcc g S r x) λ v hv=>by
  obtain ⟨y,_,rfl⟩:=Qg.1 hv;exact zh7 hg hr hr5 x y
 have e : (zcc g S r x).length=(zaD g S).length:=by simp [zcc]
 rw [e] at h;exact h
theorem zwa (hg : GrOk g) (hr : 1<=r) (hS : ∀ s∈S,Key g s) {i : Nat} (hi : i<(zaD g S).length) : Walk (zhn g S r) ((zaD g S).length - 1) i :=
 zvG hg (λ e he=>(hg.val e he).1) hr (λ _=>zc1) za5 hS (N:=(zaD g S).length - 1) (by omega) (by omega)
theorem pow9 {m : Int} {n : Nat} (h0 : 0<=m) (hm : m<=72) (hn : n<=8) : m ^ n<=722204136308736:=by
 have h1 : m ^ n<=72 ^ n:=by
  obtain ⟨k,rfl⟩ : ∃ k : Nat,m=k:=⟨m.toNat,by omega⟩
  have:=Nat.pow_le_pow_left (n:=k) (m:=72) (by omega) n
  have e : ((k ^ n : Nat) : Int)<=((72 ^ n : Nat) : Int):=by omega
  simpa using e
 have h2 : (72 : Nat) ^ n<=72 ^ 8:=Nat.pow_le_pow_right (by omega) hn
 have e : ((72 ^ n : Nat) : Int)<=((72 ^ 8 : Nat) : Int):=by omega
 have e2 : ((72 ^ 8 : Nat) : Int)=722204136308736:=by decide
 have e3 : ((72 ^ n : Nat) : Int)=(72 : Int) ^ n:=by simp
 omega
theorem ztr (hg : GrOk g) (hr : 1<=r) (hr5 : r<=5) (hS : ∀ s∈S,Key g s) (h9 : (zaD g S).length<=9) {i : Nat} (hi : i<(zaD g S).length) : 0<zkE g S r i/\zkE g S r i<=722204136308736:=by
 have hw:=zwa hg hr hS hi;refine ⟨zrW hw,Int.le_trans (zuc hw (c:=72) (λ j hj=>?_) (by omega)) (pow9 (by omega) (by omega) (by omega))⟩
 rw [show (zaD g S).length - 1+1=(zaD g S).length by omega,zoh]
 have:=zhI hg hr hr5 (S:=S) (zc4 g S j);omega
theorem zxs (hg : GrOk g) (hr : 1<=r) (hr5 : r<=5) (hS : ∀ s∈S,Key g s) (h9 : (zaD g S).length<=9) {i k : Nat} (hi : i<(zaD g S).length) (hk : k<=(zaD g S).length - 1) : (zc7 k λ j=>redM (zhn g S r) ((zaD g S).length - 1) i j j)<=722204136308736:=by
 have hw:=zwa hg hr hS hi;refine Int.le_trans (zmu hw (c:=72) (λ j hj=>?_) (by omega) hk) (pow9 (by omega) (by omega) (by omega))
 rw [show (zaD g S).length - 1+1=(zaD g S).length by omega,zoh]
 have:=zhI hg hr hr5 (S:=S) (zc4 g S j);omega
theorem zt3 (hg : GrOk g) (hr : 1<=r) (hr5 : r<=5) (hS : ∀ s∈S,Key g s) {k : Int} (hk : k∈zaD g S) (x : Int) : 0<zfI g S r x:=by
 have hd:=(zc1.1 hk).2
 obtain ⟨s,hs⟩ : ∃ s,za4 g S s=true:=by
  obtain ⟨n,hn⟩ : ∃ n : Nat,dist g S k=n:=⟨(dist g S k).toNat,by omega⟩
  clear hk hd
  induction n generalizing k with
  | zero=>exact ⟨k,(zb7 hg).1 hn⟩
  | succ n ih =>
    obtain ⟨e,_,h1,h2⟩:=zcw hg (by rw [hn]; omega : dist g S k=(n : Int)+1)
    exact ih h2
 have hsS : S.contains s=true:=by
  unfold za4 at hs;simp only [QT] at hs;exact hs.1
 have hsm : s∈S:=by simpa using hsS
 have hsk : s∈zaD g S:=zc1.2 ⟨hS s hsm,by rw [(zb7 hg).2 hs]; omega⟩
 have h1 : wayW g S r x s<=zfI g S r x:=zoS (λ v hv=>by
  obtain ⟨y,_,rfl⟩:=Qg.1 hv
  exact (zh7 hg hr hr5 x y).1) (Qg.2 ⟨s,hsk,rfl⟩)
 have h2:=zsT hg x s;unfold wayW at h1;rw [if_pos hsS] at h1;omega
theorem zry (hg : GrOk g) (hr : 1<=r) (hr5 : r<=5) (hS : ∀ s∈S,Key g s) (h9 : (zaD g S).length<=9) {i : Nat} (hi : i<(zaD g S).length) :
  ((rawK g S r i : Nat) : Int)=zfI g S r (zc4 g S i)*zkE g S r i/\0<rawK g S r i/\rawK g S r i<=51998697814228992:=by
 have h1:=ztr hg hr hr5 hS h9 hi;have h2:=zhI hg hr hr5 (S:=S) (zc4 g S i);have h3:=zt3 hg hr hr5 hS (zlZ hi) (zc4 g S i);have h4 : 0<zfI g S r (zc4 g S i)*zkE g S r i:=Int.mul_pos h3 h1.1;have h5 : zfI g S r (zc4 g S i)*zkE g S r i<=72*722204136308736:=Int.mul_le_mul (by omega) h1.2 (by omega) (by omega)
 unfold rawK;omega
end
theorem ztj {a b x y : Nat} (h : Nat.gcd x y=Nat.gcd a b) : Nat.gcd y (x % y)=Nat.gcd a b:=by
 rw [<- h,Nat.gcd_comm x y,Nat.gcd_rec y x,Nat.gcd_comm]
theorem zrl (a b : Nat) : AcP 87 [.I a,.I b] [] (.I (Nat.gcd a b : Nat)) []:=by
 refine zfU.s.ac ?_;show awp _ 0 _ _ ⟨12,[(0,.I a),(1,.I b)],[],16⟩;refine rs [0,1] [] [] ?_;refine zab (zad (zaj (ι:=Nat × Nat) (λ i=>⟨12,[(0,.I i.1),(1,.I i.2)],[],100⟩) (λ i=>Nat.gcd i.1 i.2=Nat.gcd a b) (λ i=>i.2) (a,b) rfl (LeH [] []) ?_))
 rintro ⟨x,y⟩ hxy
 simp only at hxy;refine zab (rs [0,1,6] [] [] ?_);refine zac _ rfl (λ hc=>?_) λ hc=>?_
 .simp at hc
  have f1 : binV .rem (.int .i64 (x : Int)) (.int .i64 (y : Int))=some (.int .i64 ((x % y : Nat) : Int)):=by
   show (if (y : Int)=0 then none else some (Value.int .i64 ((x : Int).tmod y)))=_
   rw [if_neg (by omega)]
   simp [Int.tmod_eq_emod_of_nonneg]
  refine zae (zad (zaP rfl ?_));simp [-binV,f1,-Int.natCast_emod];exact ⟨rfl,y,x % y,ztj hxy,Uj _ (by omega),LeH [] []⟩
 .simp at hc
  subst hc;rw [Nat.gcd_zero_right] at hxy;refine zai (hit (rs [4] [] [] ?_));exact zah ⟨.inr rfl,zao.one (by simp [hxy])⟩
theorem ztS {l : List Int} {i : Nat} (h : i<l.length) : (l.take (i+1)).sum=(l.take i).sum+l[i]:=by
 rw [Qp h,List.sum_append];simp
abbrev zbn (L : List (List Int)) : AV:=.vs 1 false (L.map λ l=>[ints l])
abbrev eWk (K : List Int) (L : List (List Int)) : AV:=.agg [ints K,zbn L]
theorem zvr (K : List Int) (L : List (List Int)) (i : Nat) (R : List Int) (hi : L[i]? = some R) (hR : ∀ x∈R,0<=x/\x<=8) (hl : R.length<=1000) : AcP 85 [eWk K L,.I i] [] (.I R.sum) []:=by
 refine zej.s.ac ?_;show awp _ 0 _ _ ⟨23,[(0,eWk K L),(1,.I i)],[],16⟩;have hil : i<L.length:=(Qy.1 hi).1;have hie : L[i]=R:=(Qy.1 hi).2;refine rs [1,2] [] [16] ?_;refine rs [1,2,5] [] [] ?_;refine zab (rx (s:=?z3) [5,12,13,14] [] [] rfl ?p3 ?r3)
 case p3=>simp [hil,hie]; rfl
 refine zad (zaj (ι:=Nat) (λ k=>⟨23,[(5,.I (R.take k).sum),(12,ints R),(13,.I R.length),(14,.I k)],[],300⟩) (λ k=>k<=R.length) (λ k=>R.length - k) 0 (Qi _) (LeH [] []) ?_);intro k hk;have hb:=zqU 8 (l:=R.take k) λ x hx=>hR x (QY hx);have htl : (R.take k).length=k:=by simp; omega
 rw [htl] at hb;refine rs [5,12,13,14,15] [] [] ?_;refine zab (zac _ rfl (λ hc=>?_) λ hc=>?_)
 .simp at hc
  have hx:=hR R[k] (Qj hc);have hw : IntKind.i64.wrap ((k : Int)+1)=(k : Int)+1:=w6;have hs:=ztS hc;have hw2 : IntKind.i64.wrap ((R.take k).sum+R[k])=(R.take (k+1)).sum:=by rw [w6,hs]
  refine zae (zab (zad (rx (s:=?z5) [5,7,12,13,14] [] [] rfl ?p5 ?r5)))
  case p5=>simp [hc]; rfl
  refine zal (s:=?z6) rfl ?p6 ?r6
  case p6=>simp [hw2]; rfl
  refine zal (s:=?z7) rfl ?p7 ?r7
  case p7=>simp [hw]; rfl
  exact ⟨k+1,by omega,by omega,LeH [] []⟩
 .simp at hc
  have hkl : R.take k=R:=Qb (by omega)
  rw [hkl];refine zai (hit (rs [4] [] [] ?_));exact zaI
theorem zle {α : Type} (n k : Nat) (f : Nat->α) (v : α) : ((List.range n).map f).set k v=(List.range n).map λ j=>if j=k then v else f j:=by
 apply U9;intro i;rw [UF]
 by_cases hi : i<n
 .by_cases hk : k=i
  .subst hk; simp [hi]
  .have : ¬ i=k:=λ e=>hk e.symm
   simp [hi,hk,this]
 .by_cases hk : k=i
  .subst hk; simp [hi]
  .simp [hi,hk]
theorem zrm {α : Type} (K : List Int) (f : Int->α) : ((List.range K.length).map λ j=>f (K.getD j 0))=K.map f:=by
 apply U9;intro i
 by_cases hi : i<K.length
 .simp [hi]
 .simp [hi]
theorem zgb {l : List Int} {k : Nat} {v : Int} : (zaf l).set k [AV.I v]=zaf (l.set k v):=by
 show (l.map λ n=>[AV.I n]).set k ((λ n : Int=>[AV.I n]) v)=(l.set k v).map λ n=>[AV.I n];rw [List.map_set]
def edWl (l : List Ed) (x y : Int) : Int:=((l.filter λ e=>decide (e.f=x) && decide (e.t=y)).map λ e=>e.v).sum
theorem zmb {l : List Ed} {m : Nat} (h : m<l.length) (x y : Int) : edWl (l.take (m+1)) x y=edWl (l.take m) x y+if l[m].f=x/\l[m].t=y then l[m].v else 0:=by
 unfold edWl;rw [Qp h,UJ,Q4,List.sum_append]
 congr 1
 by_cases h1 : l[m].f=x/\l[m].t=y
 .simp [h1]
 .rw [if_neg h1]
  have : (decide (l[m].f=x) && decide (l[m].t=y))=false:=by simpa using λ a b=>h1 ⟨a,b⟩
  simp [this]
theorem zvk {g : Gr} (hg : GrOk g) (m : Nat) (x y : Int) : 0<=edWl (g.edges.take m) x y/\edWl (g.edges.take m) x y<=3:=by
 have h2 : ∀ k,0<=edWl (g.edges.drop k) x y:=λ k=>zcT λ v hv=>by
  obtain ⟨e,he,rfl⟩:=Qg.1 hv;have:=(hg.val e (UV (Qw.1 he).1)).1;omega
 have h3 : 0<=edWl (g.edges.take m) x y:=zcT λ v hv=>by
  obtain ⟨e,he,rfl⟩:=Qg.1 hv;have:=(hg.val e (QY (Qw.1 he).1)).1;omega
 have h4 : edW g x y=edWl (g.edges.take m) x y+edWl (g.edges.drop m) x y:=by
  unfold edW edWl;rw [<- List.sum_append,<- Q4,<- UJ,UR]
 have:=zsT hg x y;have:=h2 m;omega
def rowA (S K : List Int) (r : Int) (k : Nat) : List Int:=(List.range K.length).map λ j=>if j<k/\S.contains (K.getD j 0)=true then r else 0
def rowP (E : List Ed) (S K : List Int) (r x : Int) (m : Nat) : List Int:=(List.range K.length).map λ j=>(if S.contains (K.getD j 0) then r else 0)+edWl (E.take m) x (K.getD j 0)
section
variable {E : List Ed} {S K : List Int} {r x : Int}
theorem ztq (k : Nat) : (rowA S K r k).length=K.length:=by simp [rowA]
theorem zky (m : Nat) : (rowP E S K r x m).length=K.length:=by simp [rowP]
theorem zr9 : zaf (rowA S K r 0)=List.replicate K.length [AV.I 0]:=by
 simp [rowA,fcd,Vi]
theorem zre {k : Nat} (hk : k<K.length) (h : K[k]∈S) : (zaf (rowA S K r k)).set k [AV.I r]=zaf (rowA S K r (k+1)):=by
 rw [zgb]
 congr 1
 unfold rowA;rw [zle];refine QG λ j hj=>?_
 by_cases hjk : j=k
 .subst hjk
  rw [if_pos rfl,if_pos ⟨by omega,by simpa [hk] using h⟩]
 .rw [if_neg hjk]
  by_cases h1 : j<k
  .by_cases h2 : S.contains (K.getD j 0)=true
   .rw [if_pos ⟨h1,h2⟩,if_pos ⟨by omega,h2⟩]
   .rw [if_neg (λ q=>h2 q.2),if_neg (λ q=>h2 q.2)]
  .rw [if_neg (λ q=>h1 q.1),if_neg (λ q=>by have:=q.1; omega)]
theorem zq6 {k : Nat} (hk : k<K.length) (h : ¬ K[k]∈S) : rowA S K r (k+1)=rowA S K r k:=by
 unfold rowA;refine QG λ j hj=>?_
 by_cases hjk : j=k
 .subst hjk
  have : ¬ S.contains (K.getD j 0)=true:=by simpa [hk] using h
  rw [if_neg (λ q=>this q.2),if_neg (λ q=>this q.2)]
 .by_cases h2 : S.contains (K.getD j 0)=true
  .by_cases h1 : j<k
   .rw [if_pos ⟨by omega,h2⟩,if_pos ⟨h1,h2⟩]
   .rw [if_neg (λ q=>by have:=q.1; omega),if_neg (λ q=>h1 q.1)]
  .rw [if_neg (λ q=>h2 q.2),if_neg (λ q=>h2 q.2)]
theorem zt4 : rowA S K r K.length=rowP E S K r x 0:=by
 unfold rowA rowP;refine QG λ j hj=>?_;have:=QA.1 hj
 by_cases h2 : S.contains (K.getD j 0)=true
 .rw [if_pos ⟨this,h2⟩,if_pos h2]; simp [edWl]
 .rw [if_neg (λ q=>h2 q.2),if_neg h2]; simp [edWl]
theorem zuB {m j : Nat} (h : j<(rowP E S K r x m).length) : (rowP E S K r x m)[j]=(if S.contains (K.getD j 0) then r else 0)+edWl (E.take m) x (K.getD j 0):=by simp [rowP]
theorem zrh {m : Nat} (hm : m<E.length) (h : ¬ E[m].f=x) : rowP E S K r x (m+1)=rowP E S K r x m:=by
 unfold rowP;refine QG λ j hj=>?_;have he:=zmb hm x (K.getD j 0);rw [if_neg (λ q=>h q.1),Int.add_zero] at he;rw [he]
theorem zt6 {m k : Nat} (hn : K.Nodup) (hm : m<E.length) (h : E[m].f=x) (hk : k<K.length) (hkt : K[k]=E[m].t) : (zaf (rowP E S K r x m)).set k [AV.I ((if S.contains (K.getD k 0) then r else 0)+edWl (E.take m) x (K.getD k 0)+E[m].v)]=zaf (rowP E S K r x (m+1)):=by
 rw [zgb]
 congr 1
 unfold rowP;rw [zle];refine QG λ j hj=>?_;have hjl:=QA.1 hj;have he:=zmb hm x (K.getD j 0)
 by_cases hjk : j=k
 .subst hjk
  have : K.getD j 0=E[m].t:=by simp [hk,hkt]
  rw [this,if_pos ⟨h,rfl⟩] at he;rw [if_pos rfl,this,he,Int.add_assoc]
 .have : ¬ E[m].t=K.getD j 0:=λ e=>by
   have e2 : K[j]=K[k]:=by rw [hkt,e]; simp [hjl]
   exact hjk ((U0 hn).1 e2)
  rw [if_neg (λ q=>this q.2),Int.add_zero] at he;rw [if_neg hjk,he]
end
theorem zuL (G : Gr) (S : List Int) (r x : Int) : rowP G.edges S (zaD G S) r x G.edges.length=zcc G S r x:=by
 unfold rowP zcc;rw [Q1];exact zrm (zaD G S) (λ y=>(if S.contains y then r else 0)+edWl G.edges x y)
abbrev zdy (L : List (List Int)) : List (List AV):=L.map λ l=>[ints l]
section
variable (g : Gr) (p : Pol) (r : Int) (hg : GrOk g) (hp : zaN g.size p) (hN : g.size<20) (hr : 1<=r) (hr5 : r<=5) (hs : p.seeds.length<=64) (ht : p.table.length<=8)
include hg hp hN hr hr5 hs ht
theorem ztO : AcP 84 [eG g,eP p,.I r] [] (.tup [eWk (zaD (zag g p.lv) p.seeds) (zfi (zag g p.lv) p.seeds r),.I 0]) []:=by
 refine zgj.s.ac ?_;show awp _ 0 _ _ ⟨99,[(0,eG g),(1,eP p),(2,.I r)],[],16⟩;have hel:=hg.edges_le;have hgl:=hg.gone_le;have hchk:=zbA g p (by omega) (by omega) (by omega) (by omega)
 rw [if_pos hg,if_pos hp] at hchk;have hlev:=zbO g p.lv (by omega) (by omega)
 have hGg:=hg.level p.lv;have hord:=zcj (g:=zag g p.lv) (S:=p.seeds) hGg hN (by omega)
 have hol : (ordL (zag g p.lv) p.seeds).length<=64:=by
  have:=zt5 (S:=p.seeds) hGg.1.1;have:=hGg.1.2.1;omega
 have hsrt:=zcU (ordL (zag g p.lv) p.seeds) (by omega)
 rw [zo7 hGg] at hsrt
 have hKo : (ordL (zag g p.lv) p.seeds).length=(zaD (zag g p.lv) p.seeds).length:=by
  have:=(zbs (ordL (zag g p.lv) p.seeds)).length_eq;rw [zo7 hGg] at this;exact this.symm
 rw [hKo] at hsrt;have hGe:=hGg.edges_le;obtain ⟨G,hGd⟩ : ∃ G,G=zag g p.lv:=⟨_,rfl⟩;rw [<- hGd] at hlev hGg hord hol hsrt hKo hGe ⊢;obtain ⟨O,hOd⟩ : ∃ O,O=ordL G p.seeds:=⟨_,rfl⟩;rw [<- hOd] at hord hsrt hol hKo;have hKlen : (zaD G p.seeds).length<=64:=by omega
 refine zaa ⟨99,[(2,.I r),(3,.pv (gC g)),(4,.pv (pC p)),(6,.pt 32 0 0)],[(32,some ⟨2,[[.nilS,.nilS]],0⟩)],100⟩ rfl ?_ ?_
 .simp
  exact LeH [(32,32)] [16,24]
 refine zab (rx (s:=?z2) [2,3,4,6,8] [32] [] rfl ?p2 ?r2)
 case p2=>simp; refine zau hchk (by simp) ?_; simp; rfl
 refine rs [2,3,4,6,22] [32] [] ?_;refine zac _ rfl (λ h=>by simp at h) λ _=>?_
 refine zae (zab (zaa ⟨99,[(2,.I r),(3,.pv (gC g)),(4,.pv (pC p)),(6,.pt 32 0 0),(27,.B false)],[(32,some ⟨2,[[.nilS,.nilS]],0⟩)],400⟩ rfl ?_ ?_))
 .simp
  refine cl0 (zaJ r 1 5) ?_;simp;exact Le.go [(32,32)] [] rfl rfl (by simp [hr,hr5]) (by simp)
 refine zac _ rfl (λ h=>by simp at h) λ _=>?_
 refine zae (zaa ⟨99,[(2,.I r),(4,.pv (pC p)),(6,.pt 32 0 0),(9,.pv (gC G))],[(32,some ⟨2,[[.nilS,.nilS]],0⟩)],500⟩ rfl ?_ ?_)
 .simp
  refine cl0 hlev ?_;simp;exact LeH [(32,32)] [432]
 obtain ⟨K,hKd⟩ : ∃ K,K=zaD G p.seeds:=⟨_,rfl⟩;rw [<- hKd] at hsrt hKo hKlen ⊢;have hO2 : ∀ f : Int->List AV,(O.map f).take K.length=O.map f:=λ f=>Qb (by simp [hKo])
 have hK2 : ∀ f : Int->List AV,(K.map f).take K.length=K.map f:=λ f=>Qb (by simp)
 refine zaa ⟨99,[(2,.I r),(4,.pv (pC p)),(6,.pt 32 0 0),(9,.pv (gC G)),(10,.pt 50 0 0)],[(32,some ⟨2,[[.nilS,.nilS]],0⟩),(50,some ⟨2,[[ints K,.nilS]],0⟩)],800⟩ rfl ?_ ?_
 .simp
  refine cn1 hord ?_;simp;refine zq5 (j:=524) (by omega) (by simp; rfl) hsrt (by simp [fcd,hKo,hO2]) ?_
  simp;exact Le.go [(32,32),(548,50)] [532] rfl rfl (by simp) (by simp [fcd,hK2])
 have hwn : IntKind.i64.wrap (K.length : Int)=K.length:=w6;have hKn : K.Nodup:=by rw [hKd]; exact za5
 have hrl : zfi G p.seeds r=K.map (zcc G p.seeds r):=by rw [hKd]; rfl
 have hst : ∀ x,rowP G.edges p.seeds K r x G.edges.length=zcc G p.seeds r x:=λ x=>by rw [hKd]; exact zuL G p.seeds r x
 obtain ⟨n,hn⟩ : ∃ n,n=K.length:=⟨_,rfl⟩;refine zap (ι:=Unit) (λ _=>⟨99,[(6,.pt 32 0 0),(10,.pt 50 0 0)],[(32,some ⟨2,[[.nilS,.nilS]],0⟩),(50,some ⟨2,[[ints K,.rs 51 0 n]],0⟩),(51,some ⟨1,zdy (zfi G p.seeds r),0⟩)],9000⟩) (λ _=>True) ?_ λ _ _=>?_
 .refine rx (s:=?z7) [2,4,6,9,10,40,41,42] [32,50] [] rfl ?p7 ?r7
  case p7=>simp [<- hn]; rfl
  refine zad (zaj (ι:=Nat) (λ i=>⟨99,[(2,.I r),(4,.pv (pC p)),(6,.pt 32 0 0),(9,.pv (gC G)),(10,.pt 50 0 0),(40,ints K),(41,.I n),(42,.I i)],[(32,some ⟨2,[[.nilS,.nilS]],0⟩),(50,some ⟨2,[[ints K,.rs 51 0 i]],0⟩),(51,some ⟨1,zdy ((K.take i).map (zcc G p.seeds r)),0⟩)],1000⟩) (λ i=>i<=n) (λ i=>n - i) 0 (Qi _) ?_ ?_)
  .exact Le.lst [(32,32),(50,50)] [] [(51,1)] rfl (by simp) (by simp) (by simp) (by simp) (by simp) (by simp) (by simp) (by simp [Up]) (by simp [fcd]; exact ⟨zaA.rfl' (by simp),zaA.row rfl (by omega) (by simp [UpL,Up,Wk.refl])⟩)
  intro i hi;refine rx (s:=?z8) [2,4,6,9,10,40,41,42,43] [32,50,51] [] rfl ?p8 ?r8
  case p8=>simp [fcd]; rfl
  refine zab (zac _ rfl (λ hc=>?_) λ hc=>?_)
  .simp at hc
   have hw1 : IntKind.i64.wrap ((i : Int)+1)=(i : Int)+1:=w6;have hiK : i<K.length:=by omega
   have hR3 : ∀ f : List Int->List AV,(((K.take i).map (zcc G p.seeds r)).map f).take i=((K.take i).map (zcc G p.seeds r)).map f:=λ f=>Qb (by simp; omega)
   have hsucc : (K.take (i+1)).map (zcc G p.seeds r)=(K.take i).map (zcc G p.seeds r)++[zcc G p.seeds r K[i]]:=by
    rw [Qp hiK,Q4];rfl
   obtain ⟨x,hx⟩ : ∃ x,x=K[i]:=⟨_,rfl⟩;have hxK : x∈zaD G p.seeds:=by rw [<- hKd,hx]; exact Qj hiK
   rw [<- hx] at hsucc;obtain ⟨D,hD⟩ : ∃ D,D=(K.take i).map (zcc G p.seeds r):=⟨_,rfl⟩;have hDl : D.length=i:=by rw [hD]; simp; omega
   rw [<- hD] at hR3 hsucc;refine zae (zap (ι:=Unit) (λ _=>⟨99,[(2,.I r),(4,.pv (pC p)),(6,.pt 32 0 0),(9,.pv (gC G)),(10,.pt 50 0 0),(40,ints K),(41,.I n),(42,.I i)],[(32,some ⟨2,[[.nilS,.nilS]],0⟩),(50,some ⟨2,[[ints K,.rs 51 0 (i+1)]],0⟩),(51,some ⟨1,zdy ((K.take (i+1)).map (zcc G p.seeds r)),0⟩)],8000⟩) (λ _=>True) ?_ λ _ _=>?_)
   .refine zad (zaa ⟨99,[(2,.I r),(4,.pv (pC p)),(6,.pt 32 0 0),(9,.pv (gC G)),(10,.pt 50 0 0),(12,.I x),(40,ints K),(41,.I n),(42,.I i)],[(32,some ⟨2,[[.nilS,.nilS]],0⟩),(50,some ⟨2,[[ints K,.rs 51 0 i]],0⟩),(51,some ⟨1,zdy D,0⟩)],1200⟩ rfl ?_ ?_)
    .simp [hiK,<- hx,fcd]
     exact Le.go [(32,32),(50,50),(51,51)] [] rfl rfl (by simp) (by simp [fcd,hD])
    refine zaa ⟨99,[(2,.I r),(4,.pv (pC p)),(6,.pt 32 0 0),(9,.pv (gC G)),(10,.pt 50 0 0),(12,.I x),(13,.rs 52 0 n),(40,ints K),(41,.I n),(42,.I i)],[(32,some ⟨2,[[.nilS,.nilS]],0⟩),(50,some ⟨2,[[ints K,.rs 51 0 i]],0⟩),(51,some ⟨1,zdy D,0⟩),(52,some ⟨1,zaf (rowA p.seeds K r 0),0⟩)],1400⟩ rfl ?_ ?_
    .simp [<- hn]
     exact ⟨by omega,by omega,Le.go [(32,32),(50,50),(51,51),(1224,52)] [] rfl rfl (by simp) (by simp [fcd,zr9,<- hn])⟩
    refine zap (ι:=Unit) (λ _=>⟨99,[(2,.I r),(4,.pv (pC p)),(6,.pt 32 0 0),(9,.pv (gC G)),(10,.pt 50 0 0),(12,.I x),(13,.rs 52 0 n),(40,ints K),(41,.I n),(42,.I i)],[(32,some ⟨2,[[.nilS,.nilS]],0⟩),(50,some ⟨2,[[ints K,.rs 51 0 i]],0⟩),(51,some ⟨1,zdy D,0⟩),(52,some ⟨1,zaf (rowP G.edges p.seeds K r x 0),0⟩)],3000⟩) (λ _=>True) ?_ λ _ _=>?_
    .refine rx (s:=?z11) [2,4,6,9,10,12,13,40,41,42,51,52,53] [32,50,51,52] [] rfl ?p11 ?r11
     case p11=>simp [<- hn,fcd]; rfl
     refine zad (zaj (ι:=Nat) (λ k=>⟨99,[(2,.I r),(4,.pv (pC p)),(6,.pt 32 0 0),(9,.pv (gC G)),(10,.pt 50 0 0),(12,.I x),(13,.rs 52 0 n),(40,ints K),(41,.I n),(42,.I i),(51,ints K),(52,.I n),(53,.I k)],[(32,some ⟨2,[[.nilS,.nilS]],0⟩),(50,some ⟨2,[[ints K,.rs 51 0 i]],0⟩),(51,some ⟨1,zdy D,0⟩),(52,some ⟨1,zaf (rowA p.seeds K r k),0⟩)],1600⟩) (λ k=>k<=n) (λ k=>n - k) 0 (Qi _) (LeI [(32,32),(50,50),(51,51),(52,52)] []) ?_);intro k hkl;refine rx (s:=?z12) [2,4,6,9,10,12,13,40,41,42,51,52,53,54] [32,50,51,52] [] rfl ?p12 ?r12
     case p12=>simp [fcd]; rfl
     refine zab (zac _ rfl (λ hk=>?_) λ hk=>?_)
     .simp at hk
      have hkK : k<K.length:=by omega
      have hw2 : IntKind.i64.wrap ((k : Int)+1)=(k : Int)+1:=w6;have hcon:=zbb p.seeds K[k] (by omega)
      refine zae (zap (ι:=Unit) (λ _=>⟨99,[(2,.I r),(4,.pv (pC p)),(6,.pt 32 0 0),(9,.pv (gC G)),(10,.pt 50 0 0),(12,.I x),(13,.rs 52 0 n),(40,ints K),(41,.I n),(42,.I i),(51,ints K),(52,.I n),(53,.I k)],[(32,some ⟨2,[[.nilS,.nilS]],0⟩),(50,some ⟨2,[[ints K,.rs 51 0 i]],0⟩),(51,some ⟨1,zdy D,0⟩),(52,some ⟨1,zaf (rowA p.seeds K r (k+1)),0⟩)],2500⟩) (λ _=>True) ?_ λ _ _=>?_)
      .refine zad (rx (s:=?z13) [2,4,6,9,10,12,13,14,15,40,41,42,51,52,53] [32,50,51,52] [] rfl ?p13 ?r13)
       case p13=>simp [hkK,fcd]; rfl
       refine rx (s:=?z14) [2,4,6,9,10,12,13,14,15,40,41,42,51,52,53,61] [32,50,51,52] [] rfl ?p14 ?r14
       case p14=>simp; refine zau hcon (by simp) ?_; simp [fcd]; rfl
       refine zac _ rfl (λ hin=>?_) λ hin=>?_
       .rw [Qe] at hin
        have hset:=zre (r:=r) hkK hin;refine zan rfl ?_;simp [ztq,<- hn,hk,hset];exact LeI [(32,32),(50,50),(51,51),(52,52)] []
       .rw [Qc] at hin
        rw [zq6 hkK hin];exact zae ⟨(),trivial,LeI [(32,32),(50,50),(51,51),(52,52)] []⟩
      refine zal (s:=?z15) rfl ?p15 ?r15
      case p15=>simp [hw2]; rfl
      exact ⟨k+1,by omega,by omega,LeI [(32,32),(50,50),(51,51),(52,52)] []⟩
     .simp at hk
      obtain rfl : k=n:=by omega
      refine zai (hit ⟨(),trivial,?_⟩);rw [<- zt4 (E:=G.edges) (x:=x),<- hn];exact LeI [(32,32),(50,50),(51,51),(52,52)] []
    refine zap (ι:=Unit) (λ _=>⟨99,[(2,.I r),(4,.pv (pC p)),(6,.pt 32 0 0),(9,.pv (gC G)),(10,.pt 50 0 0),(12,.I x),(13,.rs 52 0 n),(40,ints K),(41,.I n),(42,.I i)],[(32,some ⟨2,[[.nilS,.nilS]],0⟩),(50,some ⟨2,[[ints K,.rs 51 0 i]],0⟩),(51,some ⟨1,zdy D,0⟩),(52,some ⟨1,zaf (zcc G p.seeds r x),0⟩)],6000⟩) (λ _=>True) ?_ λ _ _=>?_
    .refine rx (s:=?z21) [2,4,6,9,10,12,13,40,41,42,68,69,70] [32,50,51,52] [] rfl ?p21 ?r21
     case p21=>simp [fcd]; rfl
     refine zad (zaj (ι:=Nat) (λ m=>⟨99,[(2,.I r),(4,.pv (pC p)),(6,.pt 32 0 0),(9,.pv (gC G)),(10,.pt 50 0 0),(12,.I x),(13,.rs 52 0 n),(40,ints K),(41,.I n),(42,.I i),(68,eEs G.edges),(69,.I G.edges.length),(70,.I m)],[(32,some ⟨2,[[.nilS,.nilS]],0⟩),(50,some ⟨2,[[ints K,.rs 51 0 i]],0⟩),(51,some ⟨1,zdy D,0⟩),(52,some ⟨1,zaf (rowP G.edges p.seeds K r x m),0⟩)],3500⟩) (λ m=>m<=G.edges.length) (λ m=>G.edges.length - m) 0 (Qi _) (LeI [(32,32),(50,50),(51,51),(52,52)] []) ?_);intro m hml;refine rx (s:=?z22) [2,4,6,9,10,12,13,40,41,42,68,69,70,71] [32,50,51,52] [] rfl ?p22 ?r22
     case p22=>simp [fcd]; rfl
     refine zab (zac _ rfl (λ hm=>?_) λ hm=>?_)
     .simp at hm
      have hw2 : IntKind.i64.wrap ((m : Int)+1)=(m : Int)+1:=w6;obtain ⟨e,he⟩ : ∃ e,e=G.edges[m]:=⟨_,rfl⟩;refine zae (zap (ι:=Unit) (λ _=>⟨99,[(2,.I r),(4,.pv (pC p)),(6,.pt 32 0 0),(9,.pv (gC G)),(10,.pt 50 0 0),(12,.I x),(13,.rs 52 0 n),(40,ints K),(41,.I n),(42,.I i),(68,eEs G.edges),(69,.I G.edges.length),(70,.I m)],[(32,some ⟨2,[[.nilS,.nilS]],0⟩),(50,some ⟨2,[[ints K,.rs 51 0 i]],0⟩),(51,some ⟨1,zdy D,0⟩),(52,some ⟨1,zaf (rowP G.edges p.seeds K r x (m+1)),0⟩)],5000⟩) (λ _=>True) ?_ λ _ _=>?_)
      .refine zad (zaa ⟨99,[(2,.I r),(4,.pv (pC p)),(6,.pt 32 0 0),(9,.pv (gC G)),(10,.pt 50 0 0),(12,.I x),(13,.rs 52 0 n),(17,.pv (eC e)),(40,ints K),(41,.I n),(42,.I i),(68,eEs G.edges),(69,.I G.edges.length),(70,.I m)],[(32,some ⟨2,[[.nilS,.nilS]],0⟩),(50,some ⟨2,[[ints K,.rs 51 0 i]],0⟩),(51,some ⟨1,zdy D,0⟩),(52,some ⟨1,zaf (rowP G.edges p.seeds K r x m),0⟩)],3700⟩ rfl ?_ ?_)
       .simp [hm,<- he]
        exact LeI [(32,32),(50,50),(51,51),(52,52)] [3524]
       refine rx (s:=?z24) [2,4,6,9,10,12,13,17,40,41,42,68,69,70,77] [32,50,51,52] [] rfl ?p24 ?r24
       case p24=>simp [fcd]; rfl
       refine zac _ rfl (λ hf=>?_) λ hf=>?_
       .simp at hf
        have hem : e∈G.edges:=by rw [he]; exact Qj hm
        have htk : e.t∈K:=by
         rw [hKd,zc1];have h1:=zlQ hGg hem (S:=p.seeds) (by rw [hf]; exact (zc1.1 hxK).2)
         have h2:=hGg.fits e hem;unfold Fits at h2;exact ⟨⟨by omega,by omega⟩,h1.1⟩
        have hidx:=zb0 K e.t (by omega)
        obtain ⟨q,hq⟩ : ∃ q : Nat,q=K.idxOf e.t:=⟨_,rfl⟩;have hqn : q<K.length:=by rw [hq]; exact List.idxOf_lt_length_iff.2 htk
        have hqe : K[q]=e.t:=by subst hq; exact List.getElem_idxOf hqn
        have hxi : idxI K e.t=(q : Int):=by unfold idxI; rw [if_pos htk,hq]
        rw [hxi] at hidx;have hset:=zt6 (E:=G.edges) (S:=p.seeds) (r:=r) (x:=x) hKn hm (by rw [<- he]; exact hf) hqn (by rw [<- he]; exact hqe)
        have hb:=zvk hGg m x (K.getD q 0);have hv:=hGg.val e hem;obtain ⟨b,hbd⟩ : ∃ b,b=(if p.seeds.contains (K.getD q 0) then r else 0)+edWl (G.edges.take m) x (K.getD q 0):=⟨_,rfl⟩
        have hbb : 0<=b/\b<=8:=by rw [hbd]; split <;> omega
        rw [<- hbd,<- he] at hset;have hwb : IntKind.i64.wrap (b+e.v)=b+e.v:=w6;have hget : ∀ h : q<(rowP G.edges p.seeds K r x m).length,(rowP G.edges p.seeds K r x m)[q]=b:=λ h=>by rw [zuB h,hbd]
        have hqn2 : q<n:=by omega
        have hget2 : (rowP G.edges p.seeds K r x m)[q]? = some b:=by rw [Qa (by rw [zky]; exact hqn),hget]
        refine zaP rfl ?_;simp;refine cl0 hidx ?_;simp [zky,<- hn,hqn2,hget2,hget,hwb,hset];refine ⟨rfl,?_⟩;exact LeI [(32,32),(50,50),(51,51),(52,52)] []
       .simp at hf
        refine zae ⟨(),trivial,?_⟩;rw [zrh hm (by rw [<- he]; exact hf)]
        exact LeI [(32,32),(50,50),(51,51),(52,52)] []
      refine zal (s:=?z25) rfl ?p25 ?r25
      case p25=>simp [hw2]; rfl
      exact ⟨m+1,by omega,by omega,LeI [(32,32),(50,50),(51,51),(52,52)] []⟩
     .simp at hm
      obtain rfl : m=G.edges.length:=by omega
      refine zai (hit ⟨(),trivial,?_⟩);rw [hst x];exact LeI [(32,32),(50,50),(51,51),(52,52)] []
    have hRl : (zcc G p.seeds r x).length=n:=by rw [<- hst x,zky,hn]
    have hR4 : ∀ f : Int->List AV,((zcc G p.seeds r x).map f).take n=(zcc G p.seeds r x).map f:=λ f=>Qb (by simp [hRl])
    have hD4 : ∀ f : List Int->List AV,(D.map f).take i=D.map f:=λ f=>Qb (by simp [hDl])
    refine zan rfl ?_
    have hS5 : List.take (i+1) (List.map ((λ l=>[ints l])∘zcc G p.seeds r) K)=zdy D++[[ints (zcc G p.seeds r x)]]:=by
     rw [<- List.map_take,<- List.map_map,hsucc];simp
    simp [hDl];refine ⟨by omega,by omega,?_⟩
    rw [hS5];exact Le.go [(32,32),(50,50),(6032,51)] [52] rfl rfl (by simp) (by simp [fcd,hD4,hR4,hRl])
   refine zal (s:=?z16) rfl ?p16 ?r16
   case p16=>simp [hw1]; rfl
   exact ⟨i+1,by omega,by omega,LeI [(32,32),(50,50),(51,51)] []⟩
  .simp at hc
   obtain rfl : i=n:=by omega
   exact zai (hit ⟨(),trivial,Le.go [(32,32),(50,50),(51,51)] [] rfl rfl (by simp) (by simp [fcd,hn,hrl,hK2])⟩)
 have hR2 : ∀ f : List Int->List AV,((zfi G p.seeds r).map f).take (zfi G p.seeds r).length=(zfi G p.seeds r).map f:=λ f=>Qb (by simp)
 have hrll : (zfi G p.seeds r).length=n:=by rw [hrl,Qt,hn]
 refine zaa ⟨99,[(6,.pt 32 0 0),(7,.I 0)],[(32,some ⟨2,[[ints K,zbn (zfi G p.seeds r)]],0⟩)],9900⟩ rfl ?_ ?_
 .simp
  exact Le.go [(32,32)] [51] rfl rfl (by simp) (by simp [fcd,<- hrll,hR2])
 exact zah ⟨.inr rfl,zao.out [] [] rfl (by simp) (by simp) (by simp) (by simp)⟩
end
abbrev za2 (s N : Nat) (E : Nat->List (List AV)) : List (Nat × Option Ent):=famH s N E++[(50,some ⟨1,famO N E,0⟩)]
def famN (m x N : Nat) : List (Nat × Nat):=(m,N+1000)::(x,50)::(famI N).map λ j=>(j,j)
theorem hpN {sz n i j : Nat} {t : List (Nat × AV)} {h : List (Nat × Option Ent)} {v : Option Ent} (hij : i≠j) : (⟨sz,t,(i,v)::h,n⟩ : St).hp j=(⟨sz,t,h,n⟩ : St).hp j:=by
 rw [zc0,if_neg hij]
theorem beqN (a b : Nat) : ((a : Int) == (b : Int))=decide (a=b):=by
 by_cases h : a=b
 .subst h; simp
 .have : ¬ (a : Int)=b:=by omega
  rw [UX h]
  simpa using this
section
variable {sz n N s : Nat} {t : List (Nat × AV)} {E : Nat->List (List AV)}
theorem zda {k : Nat} (h : k<N) : (⟨sz,t,za2 s N E,n⟩ : St).hp (k+1000)=some ⟨s,E k,0⟩:=zuQ h
theorem zgD : (⟨sz,t,za2 s N E,n⟩ : St).hp 50=some ⟨1,famO N E,0⟩:=by rw [zfc (by omega)]; simp
theorem zqI {j : Nat} (hj : j≠50) (hr : j<1000∨1000+N<=j) : (⟨sz,t,za2 s N E,n⟩ : St).hp j=none:=by
 rcases hr with hr | hr
 .rw [zfc hr]
  simp [Ne.symm hj]
 .rw [zsJ hr]
  simp [Ne.symm hj]
theorem znW {j : Nat} {e : Ent} (h : (⟨sz,t,za2 s N E,n⟩ : St).hp j=some e) : (j=50/\e=⟨1,famO N E,0⟩) ∨ ∃ k,k<N/\j=k+1000/\e=⟨s,E k,0⟩:=by
 by_cases hj : j=50
 .subst hj
  rw [zgD] at h
  cases h;exact .inl ⟨rfl,rfl⟩
 .by_cases hr : j<1000∨1000+N<=j
  .rw [zqI hj hr] at h; cases h
  .obtain ⟨k,rfl⟩ : ∃ k,j=k+1000:=⟨j - 1000,by omega⟩
   have hk : k<N:=by omega
   rw [zda hk] at h
   cases h;exact .inr ⟨k,hk,rfl,rfl⟩
end
theorem zqu {m x N : Nat} : lkp (famN m x N) m=some (N+1000):=by simp [famN,lkp]
theorem ztv {m x N k : Nat} (hk : k<N) (hm : m≠k+1000) (hx : x≠k+1000) : lkp (famN m x N) (k+1000)=some (k+1000):=by
 rw [famN,lkp,if_neg hm,lkp,if_neg hx,zgN (λ j=>j) (λ i j h=>h) (λ j=>j),if_pos (zaV.2 (by omega))]
theorem Le.famNew {sz n n' N m x s : Nat} {E E' : Nat->List (List AV)} {R : List (List AV)} {t t' : List (Nat × AV)} {h : List (Nat × Option Ent)} (hmx : m≠x) (hm : m<1000∨1000+N<m) (hx : 1000+N<x) (hn : 1000+N<n')
  (hE : ∀ k<N,∀ r∈E k,∀ z∈r,∃ v,z = .sc v) (hR : ∀ r∈R,∀ z∈r,∃ v,z = .sc v) (hEE : ∀ k<N,E' k=E k) (hEN : E' N=R)
  (hst : ∀ k<N,(⟨sz,t,h,n⟩ : St).hp (k+1000)=some ⟨s,E k,0⟩) (hsm : (⟨sz,t,h,n⟩ : St).hp m=some ⟨s,R,0⟩)
  (hsx : (⟨sz,t,h,n⟩ : St).hp x=some ⟨1,famO N E++[[.rs m 0 R.length]],0⟩)
  (ht : ∀ p∈t',Wk (conv (famN m x N) [] (⟨sz,t,h,n⟩ : St).hp 4 ((⟨sz,t,h,n⟩ : St).get p.1)) p.2) : Le 0 ⟨sz,t,h,n⟩ ⟨sz,t',za2 s (N+1) E',n'⟩:=by
 have hf1 : (famN m x N).map (·.1)=m::x::famI N:=by simp [famN,fcd]
 have hf2 : (famN m x N).map (·.2)=(N+1000)::50::famI N:=by simp [famN,fcd]
 have hnd : (famI N).Nodup:=zbZ (λ i j h=>by simpa using h) List.nodup_range
 have cnv : ∀ (ρ : List (Nat × Nat)) (hp : Nat->Option Ent) (Z : List (List AV)),(∀ r∈Z,∀ z∈r,∃ v,z=AV.sc v)->zaw ρ [] hp 4 ⟨s,Z,0⟩=⟨s,Z,0⟩:=λ ρ hp Z hZ=>by
  simp only [zaw];rw [zcS _ (λ v=>by simp [conv]) _ hZ]
 refine Le.mk (famN m x N) [] [] rfl ?_ ?_ ?_ (by simp) (by simp) (Qi _) (by simp) (λ i=>?_) ?_
 .rw [hf1]
  refine Q6.2 ⟨?_,Q6.2 ⟨?_,hnd⟩⟩
  .rw [Qu,not_or]
   exact ⟨hmx,λ hh=>by have:=zaV.1 hh; omega⟩
  .exact λ hh=>by have:=zaV.1 hh; omega
 .rw [hf2]
  refine Q6.2 ⟨?_,Q6.2 ⟨?_,hnd⟩⟩
  .rw [Qu,not_or]
   exact ⟨by omega,λ hh=>by have:=zaV.1 hh; omega⟩
  .exact λ hh=>by have:=zaV.1 hh; omega
 .intro p hp
  have h2 : p.2∈(famN m x N).map (·.2):=Qg.2 ⟨p,hp,rfl⟩
  rw [hf2,Qu,Qu] at h2;refine ⟨?_,λ h0=>absurd h0 (U4 _)⟩;show p.2<n';rcases h2 with h2 | h2 | h2
  .omega
  .omega
  .have:=zaV.1 h2; omega
 .show Up [] _ ((lkp t' i).getD .dead)
  cases hl : lkp t' i with
  | none=>exact .inl (.dead _)
  | some v=>exact .inl (ht _ (zaR hl))
 .intro j e' he
  left
  rcases znW he with ⟨rfl,rfl⟩ | ⟨k,hk,rfl,rfl⟩
  .refine ⟨x,_,by simp [famN],hsx,?_⟩
   refine zaA.eq ?_ (Qi _);simp only [zaw]
   congr 1
   rw [Q4]
   have e1 : famO (N+1) E'=famO N E++[[famV E' N]]:=by
    simp only [famO,UL,Q4,Qn,Uz]
    congr 1
    refine QG λ k hk=>?_;simp only [famV,hEE k (QA.1 hk)]
   rw [e1]
   congr 1
   .conv=>rhs; rw [<- List.map_id (famO N E)]
    refine QG λ r hr=>?_;obtain ⟨k,hk,rfl⟩:=Qg.1 hr;have hk:=QA.1 hk;have:=ztv (m:=m) (x:=x) hk (by omega) (by omega)
    simp [famV,this]
   .simp [famV,zqu,hEN]
  .by_cases hkN : k=N
   .subst hkN
    refine ⟨m,_,by simp [famN],hsm,?_⟩
    rw [cnv _ _ _ hR,hEN];exact zaA.rfl' (Qi _)
   .have hk2 : k<N:=by omega
    refine ⟨k+1000,_,?_,hst k hk2,?_⟩
    .simp only [famN,Qu,Qg]
     exact .inr (.inr ⟨k+1000,zaV.2 (by omega),rfl⟩)
    .rw [cnv _ _ _ (hE k hk2),hEE k hk2]
     exact zaA.rfl' (Qi _)
theorem Le.keepF {np : Nat} {st st' : St} (hsz : st'.sz=st.sz) (hn : st.n<=st'.n) (ht : ∀ p∈st'.t,st.get p.1=p.2) (hh : ∀ j e,st'.hp j=some e->st.hp j=some e) : Le np st st':=by
 intro T0 M0 w0 T M a w ok hnp;refine ⟨T,M,⟨ok.sz.trans hsz.symm,ok.df,λ i=>?_,⟨λ id e he=>ok.hs.ent id e (hh id e he),λ id id' e e' g g' b h1 h2=>ok.hs.inj id id' e e' g g' b (hh _ _ h1) (hh _ _ h2)⟩,λ id g hg=>U7 (ok.dom id g hg) hn,ok.after⟩,QH hnp hn⟩;unfold St.get at *
 cases hl : lkp st'.t i with
 | none=>exact .dead _ _
 | some v =>
   have:=ht _ (zaR hl);simp only at this;show Rep T w M v _;rw [<- this];exact ok.tm i
theorem zlB {N : Nat} {E E' : Nat->List (List AV)} (h : ∀ k<N,(E k).length=(E' k).length) : famO N E=famO N E':=by
 unfold famO;refine QG λ k hk=>?_;simp only [famV,h k (QA.1 hk)]
def famG (ρ : List (Nat × Nat)) (N : Nat) : List (Nat × Nat):=ρ++(famI N).map λ j=>(j,j)
theorem zug {ρ : List (Nat × Nat)} {N k : Nat} (h : ∀ p∈ρ,p.1<1000∨1000+N<=p.1) (hk : k<N) : lkp (famG ρ N) (k+1000)=some (k+1000):=by
 unfold famG
 induction ρ with
 | nil =>
   rw [Q5,zgN (λ j=>j) (λ i j h=>h) (λ j=>j),if_pos (zaV.2 (by omega))]
 | cons p ρ ih =>
   rw [QO,lkp,if_neg (by have:=h p (by simp); omega)]
   exact ih λ q hq=>h q (by simp [hq])
theorem zqC {N : Nat} {ρ : List (Nat × Nat)} {sn : List Nat} {E : Nat->List (List AV)} {hp : Nat->Option Ent} (h : ∀ p∈ρ,p.1<1000∨1000+N<=p.1) : (famO N E).map (·.map (conv (famG ρ N) sn hp 4))=famO N E:=by
 conv=>rhs; rw [<- List.map_id (famO N E)]
 refine QG λ r hr=>?_;obtain ⟨k,hk,rfl⟩:=Qg.1 hr;have:=zug (k:=k) h (QA.1 hk);simp [famV,this]
theorem Le.famX {sz n n' N m s : Nat} {E : Nat->List (List AV)} {x : Option Ent} {t t' : List (Nat × AV)} {h : List (Nat × Option Ent)} (nl : Bool) (hm : m≠50/\(m<1000∨1000+N<=m)) (hn : 1000+N<=n')
  (hE : ∀ k<N,∀ r∈E k,∀ z∈r,∃ v,z = .sc v)
  (hst : ∀ k<N,(⟨sz,t,h,n⟩ : St).hp (k+1000)=some ⟨s,E k,0⟩) (h50 : (⟨sz,t,h,n⟩ : St).hp 50=some ⟨1,famO N E,0⟩)
  (hx : x=none∨(nl=true/\x=some ⟨1,[],0⟩)∨(nl=false /\ ∃ R,(∀ r∈R,∀ z∈r,∃ v,z=AV.sc v)/\x=some ⟨1,R,0⟩/\(⟨sz,t,h,n⟩ : St).hp m=some ⟨1,R,0⟩))
  (ht : ∀ p∈t',Up (if nl then [(60,1)] else []) (conv (famG (if nl then [(50,50)] else [(m,60),(50,50)]) N) [] (⟨sz,t,h,n⟩ : St).hp 4 ((⟨sz,t,h,n⟩ : St).get p.1)) p.2) : Le 0 ⟨sz,t,h,n⟩ ⟨sz,t',(60,x)::za2 s N E,n'⟩:=by
 obtain ⟨ρ,hρ⟩ : ∃ ρ,ρ=(if nl then [(50,50)] else [(m,60),(50,50)]):=⟨_,rfl⟩
 rw [<- hρ] at ht
 have hcase : ∀ p∈ρ,(p.1=50/\p.2=50)∨(nl=false/\p.1=m/\p.2=60):=λ p hp=>by
  rw [hρ] at hp
  cases nl <;> simp at hp
  .rcases hp with rfl | rfl
   .exact .inr ⟨rfl,rfl,rfl⟩
   .exact .inl ⟨rfl,rfl⟩
  .subst hp; exact .inl ⟨rfl,rfl⟩
 have hlow : ∀ p∈ρ,p.1<1000∨1000+N<=p.1:=λ p hp=>by
  rcases hcase p hp with h | h <;> omega
 have h5050 : (50,50)∈ρ:=by rw [hρ]; cases nl <;> simp
 have hnd : (famI N).Nodup:=zbZ (λ i j h=>by simpa using h) List.nodup_range
 have hf1 : (famG ρ N).map (·.1)=ρ.map (·.1)++famI N:=by simp [famG,fcd]
 have hf2 : (famG ρ N).map (·.2)=ρ.map (·.2)++famI N:=by simp [famG,fcd]
 have hr1 : (ρ.map (·.1)).Nodup:=by rw [hρ]; cases nl <;> simp [hm.1]
 have hr2 : (ρ.map (·.2)).Nodup:=by rw [hρ]; cases nl <;> simp
 refine Le.mk (famG ρ N) [] (if nl then [(60,1)] else []) rfl ?_ ?_ ?_ ?_ (by simp) (Qi _) (by cases nl <;> simp) (λ i=>?_) ?_
 .rw [hf1]
  refine Ue.2 ⟨hr1,hnd,λ a ha b hb e=>?_⟩;obtain ⟨p,hp,rfl⟩:=Qg.1 ha;have:=zaV.1 hb;have:=hlow p hp;omega
 .rw [hf2]
  refine Ue.2 ⟨hr2,hnd,λ a ha b hb e=>?_⟩;obtain ⟨p,hp,rfl⟩:=Qg.1 ha;have:=zaV.1 hb;rcases hcase p hp with h | h <;> omega
 .intro p hp
  refine ⟨?_,λ h0=>absurd h0 (U4 _)⟩;show p.2<n';unfold famG at hp;rcases Qo.1 hp with hp | hp
  .rcases hcase p hp with h | h <;> omega
  .obtain ⟨j,hj,rfl⟩:=Qg.1 hp
   have:=zaV.1 hj;simp only;omega
 .intro p hp
  cases nl
  .simp at hp
  .simp at hp
   subst hp;refine ⟨Qi _,by simp only; omega,?_,by simp⟩
   rw [hf2,Qo,not_or];refine ⟨λ hh=>?_,λ hh=>by have:=zaV.1 hh; simp only at this; omega⟩
   obtain ⟨p,hp,e⟩:=Qg.1 hh;rcases hcase p hp with h | h
   .omega
   .exact absurd h.1 (by simp)
 .show Up _ _ ((lkp t' i).getD .dead)
  cases hl : lkp t' i with
  | none=>exact .inl (.dead _)
  | some v=>exact ht _ (zaR hl)
 .intro j e' he
  by_cases hj : j=60
  .subst hj
   rw [zc0,if_pos rfl] at he;rcases hx with hx | ⟨h1,hx⟩ | ⟨h1,R,hR,hx,hsm⟩
   .rw [hx] at he; cases he
   .rw [hx] at he
    cases he
    right
    subst h1;exact ⟨by simp,rfl,rfl⟩
   .rw [hx] at he
    cases he
    left
    subst h1;refine ⟨m,_,?_,hsm,?_⟩
    .rw [hρ]; simp [famG]
    .simp only [zaw]
     rw [zcS _ (λ v=>by simp [conv]) _ hR]
     exact zaA.rfl' (Qi _)
  .rw [zc0,if_neg (λ e=>hj e.symm)] at he
   left
   rcases znW he with ⟨rfl,rfl⟩ | ⟨k,hk,rfl,rfl⟩
   .refine ⟨50,_,QU _ h5050,h50,?_⟩
    refine zaA.eq ?_ (Qi _);simp only [zaw];rw [zqC hlow]
   .refine ⟨k+1000,_,?_,hst k hk,?_⟩
    .refine UD _ ?_
     exact Qg.2 ⟨k+1000,zaV.2 (by omega),rfl⟩
    .simp only [zaw]
     rw [zcS _ (λ v=>by simp [conv]) _ (hE k hk)]
     exact zaA.rfl' (Qi _)
theorem Le.lessH {np sz n : Nat} {t : List (Nat × AV)} {h h' : List (Nat × Option Ent)} (hh : ∀ j e,(⟨sz,t,h',n⟩ : St).hp j=some e->(⟨sz,t,h,n⟩ : St).hp j=some e) : Le np ⟨sz,t,h,n⟩ ⟨sz,t,h',n⟩:=by
 intro T0 M0 w0 T M a w ok hnp;exact ⟨T,M,⟨ok.sz,ok.df,ok.tm,⟨λ id e he=>ok.hs.ent id e (hh id e he),λ id id' e e' g g' b h1 h2=>ok.hs.inj id id' e e' g g' b (hh _ _ h1) (hh _ _ h2)⟩,ok.dom,ok.after⟩,hnp⟩
theorem Le.famK {sz n n' N s : Nat} {E : Nat->List (List AV)} {t t' : List (Nat × AV)} (hn : 1000+N<=n')
  (hE : ∀ k<N,∀ r∈E k,∀ z∈r,∃ v,z = .sc v)
  (ht : ∀ p∈t',Up [(60,1)] (conv (famG [(50,50)] N) [] (⟨sz,t,za2 s N E,n⟩ : St).hp 4 ((⟨sz,t,za2 s N E,n⟩ : St).get p.1)) p.2) : Le 0 ⟨sz,t,za2 s N E,n⟩ ⟨sz,t',za2 s N E,n'⟩:=by
 refine Le.trans' (Le.famX (m:=0) (x:=none) (t':=t') (n':=n') true ⟨by omega,.inl (by omega)⟩ hn hE (λ k hk=>zda hk) zgD (.inl rfl) ht) ?_
 refine Le.lessH λ j e he=>?_;rw [hpN]
 .exact he
 .rintro rfl
  rw [zqI (by omega) (.inl (by omega))] at he
  cases he
theorem Le.famSet {np sz n n' N s a : Nat} {E E' : Nat->List (List AV)} {t t' : List (Nat × AV)} (hn : n<=n') (hE : ∀ k<N,k≠a->E' k=E k) (hl : (E' a).length=(E a).length)
  (ht : ∀ p∈t',(⟨sz,t,(a+1000,some ⟨s,E' a,0⟩)::za2 s N E,n⟩ : St).get p.1=p.2) : Le np ⟨sz,t,(a+1000,some ⟨s,E' a,0⟩)::za2 s N E,n⟩ ⟨sz,t',za2 s N E',n'⟩:=by
 refine Le.keepF rfl hn ht λ j e he=>?_;rcases znW he with ⟨rfl,rfl⟩ | ⟨k,hk,rfl,rfl⟩
 .rw [zc0,if_neg (by omega),zgD]
  congr 2
  refine zlB λ k hk=>?_
  by_cases hka : k=a
  .subst hka; exact hl.symm
  .rw [hE k hk hka]
 .by_cases hka : k=a
  .subst hka
   rw [zc0,if_pos rfl]
  .rw [zc0,if_neg (by omega),zda hk,hE k hk hka]
def uRow (B : Nat->Nat->Nat) (M k : Nat) : List (List AV):=(List.range M).map λ j=>[U (B k j : Nat)]
theorem zbC (B : Nat->Nat->Nat) (M k : Nat) : ∀ r∈uRow B M k,∀ z∈r,∃ v,z=AV.sc v:=by
 intro r hr z hz;obtain ⟨j,_,rfl⟩:=Qg.1 hr;exact ⟨_,QB.1 hz⟩
theorem zbv (B : Nat->Nat->Nat) (M k : Nat) : (uRow B M k).length=M:=by simp [uRow]
theorem zd0 {B : Nat->Nat->Nat} {M k j : Nat} (h : j<M) : (uRow B M k)[j]? = some [U (B k j : Nat)]:=by simp [uRow,h]
theorem zh5 {B : Nat->Nat->Nat} {M k j : Nat} (h : j<(uRow B M k).length) : (uRow B M k)[j]=[U (B k j : Nat)]:=by simp [uRow]
theorem zmQ (B : Nat->Nat->Nat) (M k : Nat) : uRow B (M+1) k=uRow B M k++[[U (B k M : Nat)]]:=by simp [uRow,UL]
theorem zs7 {B B' : Nat->Nat->Nat} {M k j : Nat} {v : Nat} (h : ∀ i,i<M->B' k i=if i=j then v else B k i) : (uRow B M k).set j [U (v : Nat)]=uRow B' M k:=by
 apply U9;intro i;rw [UF]
 by_cases hi : i<M
 .rw [zd0 hi,zd0 hi,zbv,h i hi]
  by_cases hij : j=i
  .subst hij; simp [hi]
  .have : ¬ i=j:=λ e=>hij e.symm
   simp [hij,this]
 .have h1 : (uRow B M k)[i]? = none:=by simp [uRow,hi]
  have h2 : (uRow B' M k)[i]? = none:=by simp [uRow,hi]
  rw [h1,h2];split
  .rw [if_neg (by rw [zbv]; omega)]
  .rfl
section
variable {a b : Nat}
theorem unw {x : Int} {n : Nat} (h : x=n) (h2 : n<18446744073709551616) : IntKind.u64.wrap x=n:=by rw [h]; exact wu64 (by omega) (by omega)
theorem bofn (a : Nat) (h : a<18446744073709551616) : (BitVec.ofInt 64 (a : Int)).toNat=a:=by rw [BitVec.toNat_ofInt]; omega
theorem uand (a : Nat) (h : a<18446744073709551616) : binV .and (.int .u64 (a : Int)) (.int .u64 4294967295)=some (.int .u64 ((a % 4294967296 : Nat) : Int)):=by
 have h2 : (BitVec.ofInt 64 (4294967295 : Int)).toNat=2 ^ 32 - 1:=rfl;show some (Value.int .u64 (IntKind.u64.wrap ((BitVec.ofInt 64 (a : Int) &&& BitVec.ofInt 64 4294967295).toNat : Int)))=_;rw [BitVec.toNat_and,bofn a h,h2,Nat.and_two_pow_sub_one_eq_mod,unw (n:=a % 4294967296) rfl (by omega)]
theorem zyH (a : Nat) (h : a<18446744073709551616) : binV .and (.int .u64 (a : Int)) (.int .u64 1)=some (.int .u64 ((a % 2 : Nat) : Int)):=by
 have h2 : (BitVec.ofInt 64 (1 : Int)).toNat=2 ^ 1 - 1:=rfl;show some (Value.int .u64 (IntKind.u64.wrap ((BitVec.ofInt 64 (a : Int) &&& BitVec.ofInt 64 1).toNat : Int)))=_;rw [BitVec.toNat_and,bofn a h,h2,Nat.and_two_pow_sub_one_eq_mod,unw (n:=a % 2) rfl (by omega)]
theorem ushr (a s : Nat) (hs : s<=64) : binV .shr (.int .u64 (a : Int)) (.int .u64 (s : Int))=some (.int .u64 ((a / 2 ^ s : Nat) : Int)):=by
 show (if (0 : Int)<=s then some (Value.int .u64 ((a : Int).fdiv (2 ^ (min (s : Int).toNat 64)))) else none)=_
 rw [if_pos (by omega)]
 have : min (s : Int).toNat 64=s:=by omega
 have h0 : (0 : Int)<=2 ^ s:=by have:=Int.pow_pos (n:=2) (m:=s) (by omega); omega
 rw [this,QL _ h0]
 congr 2
theorem umul (a b : Nat) (h : a*b<18446744073709551616) : binV .mul (.int .u64 (a : Int)) (.int .u64 (b : Int))=some (.int .u64 ((a*b : Nat) : Int)):=by
 show some (Value.int .u64 (IntKind.u64.wrap ((a : Int)*b)))=_;rw [unw (n:=a*b) (by simp) h]
theorem uadd (a b : Nat) (h : a+b<18446744073709551616) : binV .add (.int .u64 (a : Int)) (.int .u64 (b : Int))=some (.int .u64 ((a+b : Nat) : Int)):=by
 show some (Value.int .u64 (IntKind.u64.wrap ((a : Int)+b)))=_;rw [unw (n:=a+b) (by simp) h]
theorem usub (a b : Nat) (h : b<=a) (h2 : a<18446744073709551616) : binV .sub (.int .u64 (a : Int)) (.int .u64 (b : Int))=some (.int .u64 ((a - b : Nat) : Int)):=by
 show some (Value.int .u64 (IntKind.u64.wrap ((a : Int) - b)))=_;rw [unw (n:=a - b) (by omega) (by omega)]
theorem uquo (a b : Nat) (h : a<18446744073709551616) (hb : 0<b) : binV .quo (.int .u64 (a : Int)) (.int .u64 (b : Int))=some (.int .u64 ((a / b : Nat) : Int)):=by
 show (if (b : Int)=0 then none else some (Value.int .u64 (IntKind.u64.wrap ((a : Int).tdiv b))))=_
 rw [if_neg (by omega)]
 have:=Nat.div_le_self a b;rw [unw (n:=a / b) (by simp) (by omega)]
theorem urem (a b : Nat) (hb : 0<b) : binV .rem (.int .u64 (a : Int)) (.int .u64 (b : Int))=some (.int .u64 ((a % b : Nat) : Int)):=by
 show (if (b : Int)=0 then none else some (Value.int .u64 ((a : Int).tmod b)))=_
 rw [if_neg (by omega)]
 simp [Int.tmod_eq_emod_of_nonneg]
theorem wmod (x : Int) : IntKind.u64.wrap x=x % 18446744073709551616:=IntKind.wrap_u64 x
end
theorem zqZ (x y : Nat) (hx : x<18446744073709551616) (hy : y<18446744073709551616) : AcP 166 [U x,U y] [] (.tup [U ((x*y / 18446744073709551616 : Nat) : Int),U ((x*y % 18446744073709551616 : Nat) : Int)]) []:=by
 refine zd4.s.ac ?_;show awp _ 0 _ _ ⟨51,[(0,U x),(1,U y)],[],16⟩;have a1:=uand x hx;have a2:=uand y hy;have s1 : binV .shr (.int .u64 (x : Int)) (.int .u64 32)=some (.int .u64 ((x / 2 ^ 32 : Nat) : Int)):=ushr x 32 (by omega)
 have s2 : binV .shr (.int .u64 (y : Int)) (.int .u64 32)=some (.int .u64 ((y / 2 ^ 32 : Nat) : Int)):=ushr y 32 (by omega)
 obtain ⟨g1,g2,g3,g4⟩:=Go.Lib.mul64_hi x y hx hy
 have hlt : x*y / 18446744073709551616<18446744073709551616:=by
  have : x*y<=x*18446744073709551616:=Nat.mul_le_mul_left x (by omega)
  rw [Nat.div_lt_iff_lt_mul (by omega)]
  have h2 : x*18446744073709551616<18446744073709551616*18446744073709551616:=Nat.mul_lt_mul_of_pos_right hx (by omega)
  omega
 have e32 : (2 : Nat) ^ 32=4294967296:=rfl;rw [e32] at s1 s2;have b00 : x % 4294967296<4294967296:=Uj _ (by omega)
 have b01 : x / 4294967296<4294967296:=by omega
 have b10 : y % 4294967296<4294967296:=Uj _ (by omega)
 have b11 : y / 4294967296<4294967296:=by omega
 obtain ⟨x0,hx0⟩ : ∃ z,z=x % 4294967296:=⟨_,rfl⟩;obtain ⟨x1,hx1⟩ : ∃ z,z=x / 4294967296:=⟨_,rfl⟩;obtain ⟨y0,hy0⟩ : ∃ z,z=y % 4294967296:=⟨_,rfl⟩;obtain ⟨y1,hy1⟩ : ∃ z,z=y / 4294967296:=⟨_,rfl⟩;rw [<- hx0] at a1 g1 g2 g3 g4 b00;rw [<- hx1] at s1 g2 g3 g4 b01;rw [<- hy0] at a2 g1 g2 g3 g4 b10;rw [<- hy1] at s2 g3 g4 b11;have m1:=umul x0 y0 g1;have m2:=umul x1 y0 (by have:=Nat.mul_le_mul (Nat.le_of_lt b01) (Nat.le_of_lt b10); have:=Go.Lib.half_mul_le (a:=x1) (b:=y0) (by omega) (by omega); omega)
 have m3:=umul x0 y1 (by have:=Go.Lib.half_mul_le (a:=x0) (b:=y1) (by omega) (by omega); omega)
 have m4:=umul x1 y1 (by have:=Go.Lib.half_mul_le (a:=x1) (b:=y1) (by omega) (by omega); omega)
 obtain ⟨w0,hw0⟩ : ∃ z,z=x0*y0:=⟨_,rfl⟩;rw [<- hw0] at m1 g1 g2 g3 g4;have s3 : binV .shr (.int .u64 (w0 : Int)) (.int .u64 32)=some (.int .u64 ((w0 / 2 ^ 32 : Nat) : Int)):=ushr w0 32 (by omega)
 rw [e32] at s3;have d1:=uadd (x1*y0) (w0 / 4294967296) g2;obtain ⟨t,ht⟩ : ∃ z,z=x1*y0+w0 / 4294967296:=⟨_,rfl⟩;rw [<- ht] at d1 g2 g3 g4;have a3:=uand t g2;have s4 : binV .shr (.int .u64 (t : Int)) (.int .u64 32)=some (.int .u64 ((t / 2 ^ 32 : Nat) : Int)):=ushr t 32 (by omega)
 rw [e32] at s4;have d2:=uadd (t % 4294967296) (x0*y1) g3;obtain ⟨w1,hw1⟩ : ∃ z,z=t % 4294967296+x0*y1:=⟨_,rfl⟩;rw [<- hw1] at d2 g3 g4;have s5 : binV .shr (.int .u64 (w1 : Int)) (.int .u64 32)=some (.int .u64 ((w1 / 2 ^ 32 : Nat) : Int)):=ushr w1 32 (by omega)
 rw [e32] at s5;have d3:=uadd (x1*y1) (t / 4294967296) (by omega)
 have d4:=uadd (x1*y1+t / 4294967296) (w1 / 4294967296) (by omega)
 rw [g4] at d4
 have m5 : binV .mul (.int .u64 (x : Int)) (.int .u64 (y : Int))=some (.int .u64 ((x*y % 18446744073709551616 : Nat) : Int)):=by
  show some (Value.int .u64 (IntKind.u64.wrap ((x : Int)*y)))=_;rw [wmod];simp
 refine rs [0,1] [] [] ?_;refine rx (s:=?z2) [0,1,6] [] [] rfl ?p2 ?r2
 case p2=>simp [-binV,-Int.natCast_mul,-Int.natCast_add,-Int.natCast_ediv,-Int.natCast_emod,a1]; rfl
 refine rx (s:=?z3) [0,1,6,7] [] [] rfl ?p3 ?r3
 case p3=>simp [-binV,-Int.natCast_mul,-Int.natCast_add,-Int.natCast_ediv,-Int.natCast_emod,s1]; rfl
 refine rx (s:=?z4) [0,1,6,7,8] [] [] rfl ?p4 ?r4
 case p4=>simp [-binV,-Int.natCast_mul,-Int.natCast_add,-Int.natCast_ediv,-Int.natCast_emod,a2]; rfl
 refine rx (s:=?z5) [0,1,6,7,8,9] [] [] rfl ?p5 ?r5
 case p5=>simp [-binV,-Int.natCast_mul,-Int.natCast_add,-Int.natCast_ediv,-Int.natCast_emod,s2]; rfl
 refine rx (s:=?z6) [0,1,6,7,8,9,10] [] [] rfl ?p6 ?r6
 case p6=>simp [-binV,-Int.natCast_mul,-Int.natCast_add,-Int.natCast_ediv,-Int.natCast_emod,m1]; rfl
 refine rx (s:=?z7) [0,1,6,7,9,11] [] [] rfl ?p7 ?r7
 case p7=>simp [-binV,-Int.natCast_mul,-Int.natCast_add,-Int.natCast_ediv,-Int.natCast_emod,m2,s3,d1]; rfl
 refine rx (s:=?z8) [0,1,6,7,9,11,12] [] [] rfl ?p8 ?r8
 case p8=>simp [-binV,-Int.natCast_mul,-Int.natCast_add,-Int.natCast_ediv,-Int.natCast_emod,a3]; rfl
 refine rx (s:=?z9) [0,1,6,7,9,12,13] [] [] rfl ?p9 ?r9
 case p9=>simp [-binV,-Int.natCast_mul,-Int.natCast_add,-Int.natCast_ediv,-Int.natCast_emod,s4]; rfl
 refine rx (s:=?z10) [0,1,7,9,12,13] [] [] rfl ?p10 ?r10
 case p10=>simp [-binV,-Int.natCast_mul,-Int.natCast_add,-Int.natCast_ediv,-Int.natCast_emod,m3,d2]; rfl
 refine rx (s:=?z11) [0,1,4] [] [] rfl ?p11 ?r11
 case p11=>simp [-binV,-Int.natCast_mul,-Int.natCast_add,-Int.natCast_ediv,-Int.natCast_emod,m4,d3,s5,d4]; rfl
 refine rx (s:=?z12) [4,5] [] [] rfl ?p12 ?r12
 case p12=>simp [-binV,-Int.natCast_mul,-Int.natCast_add,-Int.natCast_ediv,-Int.natCast_emod,m5]; rfl
 exact zah ⟨.inr rfl,zao.out [] [] rfl (by simp) (by simp) (by simp) (by simp)⟩
theorem zus : AcP 155 [U 2305843009213693951] [] (.I 61) []:=by
 refine zd7.s.ac ?_;show awp _ 0 _ _ ⟨25,[(0,U 2305843009213693951)],[],16⟩;have s1 : binV .shr (.int .u64 2305843009213693951) (.int .u64 32)=some (.int .u64 536870911):=ushr 2305843009213693951 32 (by omega)
 have s2 : binV .shr (.int .u64 536870911) (.int .u64 16)=some (.int .u64 8191):=ushr 536870911 16 (by omega)
 have s3 : binV .shr (.int .u64 8191) (.int .u64 8)=some (.int .u64 31):=ushr 8191 8 (by omega)
 refine rs [0,2] [] [] ?_;refine zab (rs [0,2,4] [] [] ?_);refine zac _ rfl (λ _=>?_) λ h=>by simp at h
 refine rx (s:=?z3) [0,2] [] [] rfl ?p3 ?r3
 case p3=>simp [-binV,-Int.natCast_mul,-Int.natCast_add,-Int.natCast_ediv,-Int.natCast_emod,s1]; rfl
 refine zam ?_;refine zab (rs [0,2,8] [] [] ?_);refine zac _ rfl (λ _=>?_) λ h=>by simp at h
 refine rx (s:=?z6) [0,2] [] [] rfl ?p6 ?r6
 case p6=>simp [-binV,-Int.natCast_mul,-Int.natCast_add,-Int.natCast_ediv,-Int.natCast_emod,s2]; rfl
 refine zam ?_;refine zab (rs [0,2,14] [] [] ?_);refine zac _ rfl (λ _=>?_) λ h=>by simp at h
 refine rx (s:=?z9) [0,2] [] [] rfl ?p9 ?r9
 case p9=>simp [-binV,-Int.natCast_mul,-Int.natCast_add,-Int.natCast_ediv,-Int.natCast_emod,s3]; rfl
 refine zam ?_;refine zaa ⟨25,[(2,.I 61)],[],2000⟩ rfl ?_ ?_
 .simp
  exact ⟨by decide,5,rfl,Le.go [] [] rfl rfl (by simp <;> exact .refl _) (by simp)⟩
 exact zaI
theorem zgM : AcP 197 [U 2305843009213693951] [] (.I 3) []:=by
 refine zdh.s.ac ?_;show awp _ 0 _ _ ⟨6,[(0,U 2305843009213693951)],[],16⟩;refine rs [0] [] [] ?_;refine rx (s:=?z2) [2] [] [] rfl ?p2 ?r2
 case p2=>simp; refine zau zus (by simp) ?_; simp [show IntKind.i64.wrap 3=3 from rfl]; rfl
 exact zaI
theorem zsj {hi lo : Nat} (h : hi<2305843009213693951) (hl : lo<18446744073709551616) :
  (hi*8+lo / 2305843009213693952)*18446744073709551616+lo*8 % 18446744073709551616=8*(hi*18446744073709551616+lo)/\hi*8+lo / 2305843009213693952<18446744073709551608:=by omega
theorem zyh (hi lo : Nat) (h : hi<2305843009213693951) (hl : lo<18446744073709551616) : binV .or (.int .u64 ((hi*8 : Nat) : Int)) (.int .u64 ((lo / 2305843009213693952 : Nat) : Int))=some (.int .u64 ((hi*8+lo / 2305843009213693952 : Nat) : Int)):=by
 show some (Value.int .u64 (IntKind.u64.wrap ((BitVec.ofInt 64 ((hi*8 : Nat) : Int) ||| BitVec.ofInt 64 ((lo / 2305843009213693952 : Nat) : Int)).toNat : Int)))=_;rw [BitVec.toNat_or,bofn _ (by omega),bofn _ (by omega)]
 have e : hi*8 ||| lo / 2305843009213693952=hi*8+lo / 2305843009213693952:=by
  have h1 : lo / 2305843009213693952<2 ^ 3:=by omega
  have h2:=Nat.shiftLeft_add_eq_or_of_lt h1 hi;rw [Nat.shiftLeft_eq] at h2;exact h2.symm
 rw [e,unw (n:=hi*8+lo / 2305843009213693952) rfl (by omega)]
theorem zq1 {q y0 r u1 : Nat} (hr : r<4294967296) (hu : u1<4294967296) (hq : q<4294967296) (hy : y0<4294967296) :
  q*y0<18446744073709551616/\4294967296*r<18446744073709551616/\4294967296*r+u1<18446744073709551616:=by
 have h1 : q*y0<=4294967295*4294967295:=Nat.mul_le_mul (by omega) (by omega)
 omega
theorem zo2 {u3 u1 q Y : Nat} (hY : 0<Y) (hq : q=(u3*4294967296+u1) / Y) (hYl : Y<18446744073709551616) :
  IntKind.u64.wrap (IntKind.u64.wrap (IntKind.u64.wrap ((u3 : Int)*4294967296)+u1) - IntKind.u64.wrap ((q : Int)*Y))=(((u3*4294967296+u1) % Y : Nat) : Int):=by
 have h1:=Nat.div_add_mod (u3*4294967296+u1) Y;rw [<- hq] at h1;have h2:=Uj (u3*4294967296+u1) hY;obtain ⟨m,hm⟩ : ∃ m,m=(u3*4294967296+u1) % Y:=⟨_,rfl⟩;rw [<- hm] at h1 h2 ⊢;have h3 : ((q : Int)*Y)=((Y*q : Nat) : Int):=by rw [Int.natCast_mul,Int.mul_comm]
 obtain ⟨z,hz⟩ : ∃ z,z=Y*q:=⟨_,rfl⟩;rw [h3,<- hz];rw [<- hz] at h1;rw [wmod,wmod,wmod,wmod];omega
theorem ushl (a : Nat) : binV .shl (.int .u64 (a : Int)) (.int .u64 3)=some (.int .u64 ((a*8 % 18446744073709551616 : Nat) : Int)):=by
 show (if (0 : Int)<=3 then some (Value.int .u64 (IntKind.u64.wrap ((a : Int)*2 ^ (min (3 : Int).toNat 64)))) else none)=_
 rw [if_pos (by omega),wmod]
 have : (2 : Int) ^ (min (3 : Int).toNat 64)=8:=rfl;rw [this]
 congr 2
theorem zv9 {hi lo : Nat} (h : hi<2305843009213693951) (hl : lo<18446744073709551616) :
  (((hi*8+lo / 2305843009213693952)*4294967296+lo*8 % 18446744073709551616 / 4294967296) % 18446744073709551608*4294967296+lo*8 % 18446744073709551616 % 4294967296) % 18446744073709551608 / 8=(hi*18446744073709551616+lo) % 2305843009213693951:=by
 rw [zpO (by omega)]
 have e : ((hi*8+lo / 2305843009213693952)*4294967296+lo*8 % 18446744073709551616 / 4294967296)*4294967296+lo*8 % 18446744073709551616 % 4294967296=2 ^ 3*(hi*18446744073709551616+lo):=by omega
 rw [e];exact zrz (s:=3) (y:=2305843009213693951)
theorem zrc {u3 u1 q r : Nat} (hd : DigG 4294967296 4294967295 4294967288 u3 u1 q r) (h3 : u3<18446744073709551608) (hr : 4294967296<=r) : q<4294967296:=by
 have:=hd.eq;omega
theorem ztf {hi lo : Nat} (h : hi<2305843009213693951) (hl : lo<18446744073709551616) : ∃ u3 u10 u1 u0 : Nat,
  binV .shl (.int .u64 (hi : Int)) (.int .u64 3)=some (.int .u64 ((hi*8 : Nat) : Int)) /\
  binV .shr (.int .u64 (lo : Int)) (.int .u64 61)=some (.int .u64 ((lo / 2305843009213693952 : Nat) : Int)) /\
  binV .or (.int .u64 ((hi*8 : Nat) : Int)) (.int .u64 ((lo / 2305843009213693952 : Nat) : Int))=some (.int .u64 (u3 : Int)) /\
  binV .shl (.int .u64 (lo : Int)) (.int .u64 3)=some (.int .u64 (u10 : Int)) /\
  binV .shr (.int .u64 (u10 : Int)) (.int .u64 32)=some (.int .u64 (u1 : Int)) /\
  binV .and (.int .u64 (u10 : Int)) (.int .u64 4294967295)=some (.int .u64 (u0 : Int)) /\
  u1<4294967296/\u0<4294967296/\u3<18446744073709551608 /\
  (Unit->((u3*4294967296+u1) % 18446744073709551608*4294967296+u0) % 18446744073709551608 / 8=(hi*18446744073709551616+lo) % 2305843009213693951):=by
 have hu10l : lo*8 % 18446744073709551616<18446744073709551616:=Uj _ (by decide)
 refine ⟨hi*8+lo / 2305843009213693952,lo*8 % 18446744073709551616,lo*8 % 18446744073709551616 / 4294967296,lo*8 % 18446744073709551616 % 4294967296,?_,ushr lo 61 (by omega),zyh hi lo h hl,ushl lo,ushr _ 32 (by omega),uand _ hu10l,?_,Uj _ (by decide),(zsj h hl).2,λ _=>zv9 h hl⟩
 .rw [ushl hi,Va (by omega)]
 .exact Nat.div_lt_of_lt_mul hu10l
theorem ztY (hi lo : Nat) (h : hi<2305843009213693951) (hl : lo<18446744073709551616) : AcP 168 [U hi,U lo,U 2305843009213693951] [] (.tup [.dead,U (((hi*18446744073709551616+lo) % 2305843009213693951 : Nat) : Int)]) []:=by
 refine zhf.s.ac ?_;show awp _ 0 _ _ ⟨135,[(0,U hi),(1,U lo),(2,U 2305843009213693951)],[],16⟩;refine rs [0,1,2] [] [] ?_;refine zab (rs [0,1,2,20] [] [] ?_);refine zac _ rfl (λ h=>by simp at h) λ _=>?_
 refine zae (zab (zaa ⟨135,[(0,U hi),(1,U lo),(2,U 2305843009213693951),(24,.B false)],[],100⟩ rfl ?_ ?_))
 .simp
  exact Le.go [] [] rfl rfl (by simp <;> exact wkB (by simp; omega)) (by simp)
 refine zac _ rfl (λ h=>by simp at h) λ _=>?_
 refine zae (zab (zaa ⟨135,[(0,U hi),(1,U lo),(2,U 2305843009213693951),(27,.B (decide (hi=0)))],[],200⟩ rfl ?_ ?_))
 .simp
  exact Le.go [] [] rfl rfl (by simp <;> exact wkB (by rw [QE]; simp)) (by simp)
 refine zac _ rfl (λ h0=>?_) λ h0=>?_
 .simp at h0
  subst h0;have f1 : binV .quo (.int .u64 (lo : Int)) (.int .u64 2305843009213693951)=some (.int .u64 ((lo / 2305843009213693951 : Nat) : Int)):=uquo lo 2305843009213693951 hl (by omega)
  have f2 : binV .rem (.int .u64 (lo : Int)) (.int .u64 2305843009213693951)=some (.int .u64 ((lo % 2305843009213693951 : Nat) : Int)):=urem lo 2305843009213693951 (by omega)
  refine rxd (s:=?z5) [7] [] [] rfl ?p5 ?r5
  case p5=>simp [-binV,-Int.natCast_mul,-Int.natCast_add,-Int.natCast_ediv,-Int.natCast_emod,f1,f2]; refine ⟨rfl,?_⟩; rfl
  exact zah ⟨.inr rfl,zao.out [] [] rfl (by simp) (by simp) (by simp [conv]) (by simp)⟩
 refine zae ?_
 clear h0
 refine zaa ⟨135,[(0,U hi),(1,U lo),(2,U 2305843009213693951),(8,U 3)],[],300⟩ rfl ?_ ?_
 .simp
  refine cl0 zgM ?_;simp;exact Le.go [] [] rfl rfl (by simp <;> exact .refl _) (by simp)
 have e1 : binV .shl (.int .u64 2305843009213693951) (.int .u64 3)=some (.int .u64 18446744073709551608):=ushl 2305843009213693951;have e2 : binV .shr (.int .u64 18446744073709551608) (.int .u64 32)=some (.int .u64 4294967295):=ushr 18446744073709551608 32 (by omega)
 have e3 : binV .and (.int .u64 18446744073709551608) (.int .u64 4294967295)=some (.int .u64 4294967288):=uand 18446744073709551608 (by omega)
 obtain ⟨u3,u10,u1,u0,e4,e5,e6,e8,e9,e10,hu1l,hu0l,hU3,hend⟩:=ztf h hl;have e7 : binV .sub (.int .u64 64) (.int .u64 3)=some (.int .u64 61):=rfl;have htop : u3*4294967296+u1<(4294967295*4294967296+4294967288)*4294967296:=by omega
 refine rx (s:=?z6) [0,1,2,8] [] [] rfl ?p6 ?r6
 case p6=>simp [-binV,-Int.natCast_mul,-Int.natCast_add,-Int.natCast_ediv,-Int.natCast_emod,e1]; rfl
 refine rx (s:=?z7) [0,1,2,8,9] [] [] rfl ?p7 ?r7
 case p7=>simp [-binV,-Int.natCast_mul,-Int.natCast_add,-Int.natCast_ediv,-Int.natCast_emod,e2]; rfl
 refine rx (s:=?z8) [0,1,2,8,9,10] [] [] rfl ?p8 ?r8
 case p8=>simp [-binV,-Int.natCast_mul,-Int.natCast_add,-Int.natCast_ediv,-Int.natCast_emod,e3]; rfl
 refine rx (s:=?z9) [1,2,8,9,10,11] [] [] rfl ?p9 ?r9
 case p9=>simp [-binV,-Int.natCast_mul,-Int.natCast_add,-Int.natCast_ediv,-Int.natCast_emod,e4,e7,e5,e6]; rfl
 refine rx (s:=?z10) [2,8,9,10,11,12] [] [] rfl ?p10 ?r10
 case p10=>simp [-binV,-Int.natCast_mul,-Int.natCast_add,-Int.natCast_ediv,-Int.natCast_emod,e8]; rfl
 refine rx (s:=?z11) [2,8,9,10,11,12,13] [] [] rfl ?p11 ?r11
 case p11=>simp [-binV,-Int.natCast_mul,-Int.natCast_add,-Int.natCast_ediv,-Int.natCast_emod,e9]; rfl
 refine rx (s:=?z12) [2,8,9,10,11,13,14] [] [] rfl ?p12 ?r12
 case p12=>simp [-binV,-Int.natCast_mul,-Int.natCast_add,-Int.natCast_ediv,-Int.natCast_emod,e10]; rfl
 have hq0 : u3 / 4294967295*4294967295<=u3:=Nat.div_mul_le_self _ _;have hr0 : u3 - u3 / 4294967295*4294967295<4294967296:=by omega
 have f1 : binV .quo (.int .u64 (u3 : Int)) (.int .u64 4294967295)=some (.int .u64 ((u3 / 4294967295 : Nat) : Int)):=uquo u3 4294967295 (by omega) (by omega)
 have f2 : binV .mul (.int .u64 ((u3 / 4294967295 : Nat) : Int)) (.int .u64 4294967295)=some (.int .u64 ((u3 / 4294967295*4294967295 : Nat) : Int)):=by
  have h9:=umul (u3 / 4294967295) 4294967295 (Nat.lt_of_le_of_lt hq0 (by omega))
  exact h9
 have f3:=usub u3 (u3 / 4294967295*4294967295) (by omega) (by omega)
 have hst:=DigG.start (b:=4294967296) (y1:=4294967295) (y0:=4294967288) (u3:=u3) (u1:=u1) (by omega) hu1l
 have hqs : u3 / 4294967295<=u3:=Nat.div_le_self _ _;obtain ⟨q,hq⟩ : ∃ z,z=u3 / 4294967295:=⟨_,rfl⟩;rw [<- hq] at hq0 hr0 f1 f2 f3 hst hqs;refine rx (s:=?z13) [2,8,9,10,11,13,14,15] [] [] rfl ?p13 ?r13
 case p13=>simp [-binV,-Int.natCast_mul,-Int.natCast_add,-Int.natCast_ediv,-Int.natCast_emod,f1]; rfl
 refine rx (s:=?z14) [2,8,9,10,11,13,14,15,16] [] [] rfl ?p14 ?r14
 case p14=>simp [-binV,-Int.natCast_mul,-Int.natCast_add,-Int.natCast_ediv,-Int.natCast_emod,f2,f3]; rfl
 obtain ⟨r,hr⟩ : ∃ z,z=u3 - q*4294967295:=⟨_,rfl⟩;rw [<- hr] at hst hr0 ⊢
 clear f1 f2 f3 hr hq hq0
 obtain ⟨Q,hQ⟩ : ∃ z,z=(u3*4294967296+u1) / (4294967295*4294967296+4294967288):=⟨_,rfl⟩;refine zap (ι:=Unit) (λ _=>⟨135,[(2,U 18446744073709551608),(8,U 3),(9,U 4294967295),(10,U 4294967288),(11,U u3),(13,U u1),(14,U u0),(15,U Q)],[],3000⟩) (λ _=>True) ?_ λ _ _=>?_
 .refine zad ?_
  refine zaj (ι:=Nat × Nat) (λ i=>⟨135,[(2,U 18446744073709551608),(8,U 3),(9,U 4294967295),(10,U 4294967288),(11,U u3),(13,U u1),(14,U u0),(15,U i.1),(16,U i.2)],[],2000⟩)
   (λ i=>DigG 4294967296 4294967295 4294967288 u3 u1 i.1 i.2/\i.2<4294967296/\i.1<=u3) (λ i=>i.1) (q,r) ⟨hst,hr0,hqs⟩ (LeH [] []) ?_
  rintro ⟨q,r⟩ ⟨hd,hrl,hql⟩
  clear hst hr0 hqs
  simp only at hd hrl hql;have hcond : ∀ {b : Bool},(4294967296<=q∨4294967296*r+u1<q*4294967288↔b=true)->True:=λ _=>trivial;refine zab (zaa ⟨135,[(2,U 18446744073709551608),(8,U 3),(9,U 4294967295),(10,U 4294967288),(11,U u3),(13,U u1),(14,U u0),(15,U q),(16,U r),(78,.B (decide (4294967296<=q∨4294967296*r+u1<q*4294967288)))],[],2200⟩ rfl ?_ ?_)
  .by_cases hb : 4294967296<=q
   .have g0 : binV .geq (.int .u64 (q : Int)) (.int .u64 4294967296)=some (.bool true):=by simp; omega
    simp [-binV,-Int.natCast_mul,-Int.natCast_add,-Int.natCast_ediv,-Int.natCast_emod,g0];exact Le.go [] [] rfl rfl (by simp [hb]) (by simp)
   .have g0 : binV .geq (.int .u64 (q : Int)) (.int .u64 4294967296)=some (.bool false):=by simp; omega
    obtain ⟨k1,k2,k3⟩:=zq1 (q:=q) (y0:=4294967288) hrl hu1l (by omega) (by omega)
    have g1:=umul q 4294967288 k1;have g2:=umul 4294967296 r k2;have g3:=uadd (4294967296*r) u1 k3
    have g4 : binV .gtr (.int .u64 ((q*4294967288 : Nat) : Int)) (.int .u64 ((4294967296*r+u1 : Nat) : Int))=some (.bool (decide (4294967296*r+u1<q*4294967288))):=by
     simp only [binV];simp;omega
    have g1' : binV .mul (.int .u64 (q : Int)) (.int .u64 4294967288)=some (.int .u64 ((q*4294967288 : Nat) : Int)):=g1;have g2' : binV .mul (.int .u64 4294967296) (.int .u64 (r : Int))=some (.int .u64 ((4294967296*r : Nat) : Int)):=g2;simp [-binV,-Int.natCast_mul,-Int.natCast_add,-Int.natCast_ediv,-Int.natCast_emod,g0,g1',g2',g3,g4];exact Le.go [] [] rfl rfl (by simp [hb]) (by simp)
  refine zac _ rfl (λ hc=>?_) λ hc=>?_
  .rw [Qe] at hc
   obtain ⟨hq1,hd2⟩:=hd.less (by omega) (by omega) htop hc
   have g1:=usub q 1 hq1 (by omega)
   have g2:=uadd r 4294967295 (by omega)
   have g1' : binV .sub (.int .u64 (q : Int)) (.int .u64 1)=some (.int .u64 ((q - 1 : Nat) : Int)):=g1;have g2' : binV .add (.int .u64 (r : Int)) (.int .u64 4294967295)=some (.int .u64 ((r+4294967295 : Nat) : Int)):=g2;refine zae (zad (rx (s:=?z15) [2,8,9,10,11,13,14,15,16] [] [] rfl ?p15 ?r15))
   case p15=>simp [-binV,-Int.natCast_mul,-Int.natCast_add,-Int.natCast_ediv,-Int.natCast_emod,g1']; rfl
   refine rx (s:=?z16) [2,8,9,10,11,13,14,15,16] [] [] rfl ?p16 ?r16
   case p16=>simp [-binV,-Int.natCast_mul,-Int.natCast_add,-Int.natCast_ediv,-Int.natCast_emod,g2']; rfl
   have g3 : binV .geq (.int .u64 ((r+4294967295 : Nat) : Int)) (.int .u64 4294967296)=some (.bool (decide (4294967296<=r+4294967295))):=by simp only [binV]; simp; omega
   refine rx (s:=?z17) [2,8,9,10,11,13,14,15,16,85] [] [] rfl ?p17 ?r17
   case p17=>simp [-binV,-Int.natCast_mul,-Int.natCast_add,-Int.natCast_ediv,-Int.natCast_emod,g3]; rfl
   refine zac _ rfl (λ hc2=>?_) λ hc2=>?_
   .rw [Qe] at hc2
    have hc2 : 4294967296<=r+4294967295:=by omega
    have hqQ:=hd2.big (by omega) (by omega) (zrc hd2 hU3 hc2) (by omega) hc2
    rw [<- hQ] at hqQ;refine zai (miss (by decide) ?_)
    exact hit ⟨(),trivial,Le.go [] [] rfl rfl (by simp [<- hqQ]) (by simp)⟩
   .rw [Qc] at hc2
    exact zae ⟨(q - 1,r+4294967295),⟨hd2,by omega,by simp only; omega⟩,by simp only; omega,LeH [] []⟩
  .rw [Qc] at hc
   have hqQ:=hd.fits (by omega) (by omega) (by omega)
   rw [<- hQ] at hqQ;subst hqQ;exact zai (hit ⟨(),trivial,LeH [] []⟩)
 clear htop
 have hl1 : IntKind.u64.wrap (IntKind.u64.wrap (IntKind.u64.wrap ((u3 : Int)*4294967296)+u1) - IntKind.u64.wrap ((Q : Int)*18446744073709551608))=(((u3*4294967296+u1) % 18446744073709551608 : Nat) : Int):=zo2 (Y:=18446744073709551608) (by omega) hQ (by omega)
 have hv : (u3*4294967296+u1) % 18446744073709551608<18446744073709551608:=Uj _ (by omega)
 obtain ⟨v,hvd⟩ : ∃ z,z=(u3*4294967296+u1) % 18446744073709551608:=⟨_,rfl⟩;rw [<- hvd] at hl1 hv;have hend : Unit->(v*4294967296+u0) % 18446744073709551608 / 8=(hi*18446744073709551616+lo) % 2305843009213693951:=λ x=>by rw [hvd]; exact hend x
 refine zaa ⟨135,[(2,U 18446744073709551608),(8,U 3),(9,U 4294967295),(10,U 4294967288),(14,U u0),(15,U Q),(17,U v)],[],3200⟩ rfl ?_ ?_
 .simp [hl1]
  exact LeH [] []
 clear hl1 hQ hvd hU3
 have htop2 : v*4294967296+u0<(4294967295*4294967296+4294967288)*4294967296:=by omega
 have hq0 : v / 4294967295*4294967295<=v:=Nat.div_mul_le_self _ _;have hr0 : v - v / 4294967295*4294967295<4294967296:=by omega
 have f1 : binV .quo (.int .u64 (v : Int)) (.int .u64 4294967295)=some (.int .u64 ((v / 4294967295 : Nat) : Int)):=uquo v 4294967295 (by omega) (by omega)
 have f2 : binV .mul (.int .u64 ((v / 4294967295 : Nat) : Int)) (.int .u64 4294967295)=some (.int .u64 ((v / 4294967295*4294967295 : Nat) : Int)):=by
  have h9:=umul (v / 4294967295) 4294967295 (Nat.lt_of_le_of_lt hq0 (by omega))
  exact h9
 have f3:=usub v (v / 4294967295*4294967295) (by omega) (by omega)
 have hst:=DigG.start (b:=4294967296) (y1:=4294967295) (y0:=4294967288) (u3:=v) (u1:=u0) (by omega) hu0l
 have hqs : v / 4294967295<=v:=Nat.div_le_self _ _;obtain ⟨q,hq⟩ : ∃ z,z=v / 4294967295:=⟨_,rfl⟩;rw [<- hq] at hq0 hr0 f1 f2 f3 hst hqs;refine rx (s:=?z23) [2,8,9,10,14,15,17,18] [] [] rfl ?p23 ?r23
 case p23=>simp [-binV,-Int.natCast_mul,-Int.natCast_add,-Int.natCast_ediv,-Int.natCast_emod,f1]; rfl
 refine rx (s:=?z24) [2,8,9,10,14,15,17,18,16] [] [] rfl ?p24 ?r24
 case p24=>simp [-binV,-Int.natCast_mul,-Int.natCast_add,-Int.natCast_ediv,-Int.natCast_emod,f2,f3]; rfl
 obtain ⟨r,hr⟩ : ∃ z,z=v - q*4294967295:=⟨_,rfl⟩;rw [<- hr] at hst hr0 ⊢
 clear f1 f2 f3 hr hq hq0
 obtain ⟨Q2,hQ2⟩ : ∃ z,z=(v*4294967296+u0) / (4294967295*4294967296+4294967288):=⟨_,rfl⟩;refine zap (ι:=Unit) (λ _=>⟨135,[(2,U 18446744073709551608),(8,U 3),(14,U u0),(15,U Q),(17,U v),(18,U Q2)],[],6000⟩) (λ _=>True) ?_ λ _ _=>?_
 .refine zad ?_
  refine zaj (ι:=Nat × Nat) (λ i=>⟨135,[(2,U 18446744073709551608),(8,U 3),(9,U 4294967295),(10,U 4294967288),(14,U u0),(15,U Q),(17,U v),(18,U i.1),(16,U i.2)],[],2000⟩)
   (λ i=>DigG 4294967296 4294967295 4294967288 v u0 i.1 i.2/\i.2<4294967296/\i.1<=v) (λ i=>i.1) (q,r) ⟨hst,hr0,hqs⟩ (LeH [] []) ?_
  rintro ⟨q,r⟩ ⟨hd,hrl,hql⟩
  clear hst hr0 hqs
  simp only at hd hrl hql;have hcond : ∀ {b : Bool},(4294967296<=q∨4294967296*r+u0<q*4294967288↔b=true)->True:=λ _=>trivial;refine zab (zaa ⟨135,[(2,U 18446744073709551608),(8,U 3),(9,U 4294967295),(10,U 4294967288),(14,U u0),(15,U Q),(17,U v),(18,U q),(16,U r),(113,.B (decide (4294967296<=q∨4294967296*r+u0<q*4294967288)))],[],2200⟩ rfl ?_ ?_)
  .by_cases hb : 4294967296<=q
   .have g0 : binV .geq (.int .u64 (q : Int)) (.int .u64 4294967296)=some (.bool true):=by simp; omega
    simp [-binV,-Int.natCast_mul,-Int.natCast_add,-Int.natCast_ediv,-Int.natCast_emod,g0];exact Le.go [] [] rfl rfl (by simp [hb]) (by simp)
   .have g0 : binV .geq (.int .u64 (q : Int)) (.int .u64 4294967296)=some (.bool false):=by simp; omega
    obtain ⟨k1,k2,k3⟩:=zq1 (q:=q) (y0:=4294967288) hrl hu0l (by omega) (by omega)
    have g1:=umul q 4294967288 k1;have g2:=umul 4294967296 r k2;have g3:=uadd (4294967296*r) u0 k3
    have g4 : binV .gtr (.int .u64 ((q*4294967288 : Nat) : Int)) (.int .u64 ((4294967296*r+u0 : Nat) : Int))=some (.bool (decide (4294967296*r+u0<q*4294967288))):=by
     simp only [binV];simp;omega
    have g1' : binV .mul (.int .u64 (q : Int)) (.int .u64 4294967288)=some (.int .u64 ((q*4294967288 : Nat) : Int)):=g1;have g2' : binV .mul (.int .u64 4294967296) (.int .u64 (r : Int))=some (.int .u64 ((4294967296*r : Nat) : Int)):=g2;simp [-binV,-Int.natCast_mul,-Int.natCast_add,-Int.natCast_ediv,-Int.natCast_emod,g0,g1',g2',g3,g4];exact Le.go [] [] rfl rfl (by simp [hb]) (by simp)
  refine zac _ rfl (λ hc=>?_) λ hc=>?_
  .rw [Qe] at hc
   obtain ⟨hq1,hd2⟩:=hd.less (by omega) (by omega) htop2 hc
   have g1:=usub q 1 hq1 (by omega)
   have g2:=uadd r 4294967295 (by omega)
   have g1' : binV .sub (.int .u64 (q : Int)) (.int .u64 1)=some (.int .u64 ((q - 1 : Nat) : Int)):=g1;have g2' : binV .add (.int .u64 (r : Int)) (.int .u64 4294967295)=some (.int .u64 ((r+4294967295 : Nat) : Int)):=g2;refine zae (zad (rx (s:=?z35) [2,8,9,10,14,15,16,17,18] [] [] rfl ?p35 ?r35))
   case p35=>simp [-binV,-Int.natCast_mul,-Int.natCast_add,-Int.natCast_ediv,-Int.natCast_emod,g1']; rfl
   refine rx (s:=?z36) [2,8,9,10,14,15,16,17,18] [] [] rfl ?p36 ?r36
   case p36=>simp [-binV,-Int.natCast_mul,-Int.natCast_add,-Int.natCast_ediv,-Int.natCast_emod,g2']; rfl
   have g3 : binV .geq (.int .u64 ((r+4294967295 : Nat) : Int)) (.int .u64 4294967296)=some (.bool (decide (4294967296<=r+4294967295))):=by simp only [binV]; simp; omega
   refine rx (s:=?z37) [2,8,9,10,14,15,16,17,18,120] [] [] rfl ?p37 ?r37
   case p37=>simp [-binV,-Int.natCast_mul,-Int.natCast_add,-Int.natCast_ediv,-Int.natCast_emod,g3]; rfl
   refine zac _ rfl (λ hc2=>?_) λ hc2=>?_
   .rw [Qe] at hc2
    have hc2 : 4294967296<=r+4294967295:=by omega
    have hqQ:=hd2.big (by omega) (by omega) (zrc hd2 hv hc2) (by omega) hc2
    rw [<- hQ2] at hqQ;refine zai (miss (by decide) ?_)
    exact hit ⟨(),trivial,Le.go [] [] rfl rfl (by simp [<- hqQ]) (by simp)⟩
   .rw [Qc] at hc2
    exact zae ⟨(q - 1,r+4294967295),⟨hd2,by omega,by simp only; omega⟩,by simp only; omega,LeH [] []⟩
  .rw [Qc] at hc
   have hqQ:=hd.fits (by omega) (by omega) (by omega)
   rw [<- hQ2] at hqQ;subst hqQ;exact zai (hit ⟨(),trivial,LeH [] []⟩)
 have hl2 : IntKind.u64.wrap (IntKind.u64.wrap (IntKind.u64.wrap ((v : Int)*4294967296)+u0) - IntKind.u64.wrap ((Q2 : Int)*18446744073709551608))=(((v*4294967296+u0) % 18446744073709551608 : Nat) : Int):=zo2 (Y:=18446744073709551608) (by omega) hQ2 (by omega)
 have m1 : ∀ a b : Int,binV .mul (.int .u64 a) (.int .u64 b)=some (.int .u64 (IntKind.u64.wrap (a*b))):=λ _ _=>rfl;have m2 : ∀ a b : Int,binV .add (.int .u64 a) (.int .u64 b)=some (.int .u64 (IntKind.u64.wrap (a+b))):=λ _ _=>rfl;have m3 : ∀ a b : Int,binV .sub (.int .u64 a) (.int .u64 b)=some (.int .u64 (IntKind.u64.wrap (a - b))):=λ _ _=>rfl;have m4 : binV .shr (.int .u64 (((v*4294967296+u0) % 18446744073709551608 : Nat) : Int)) (.int .u64 3)=some (.int .u64 (((v*4294967296+u0) % 18446744073709551608 / 8 : Nat) : Int)):=ushr _ 3 (by omega)
 rw [hend ()] at m4;refine rx (s:=?z40) [7] [] [] rfl ?p40 ?r40
 case p40=>simp [-binV,-Int.natCast_mul,-Int.natCast_add,-Int.natCast_ediv,-Int.natCast_emod,m1,m2,m3,hl2,m4]; rfl
 exact zah ⟨.inr rfl,zao.out [] [] rfl (by simp) (by simp) (by simp [conv]) (by simp)⟩
theorem zhP (a b : Nat) (ha : a<P61) (hb : b<P61) : AcP 132 [U a,U b] [] (U ((a*b % P61 : Nat) : Int)) []:=by
 refine zgL.s.ac ?_;show awp _ 0 _ _ ⟨22,[(0,U a),(1,U b)],[],16⟩;have hp : P61=2305843009213693951:=rfl;rw [hp] at ha hb ⊢;have hm:=zqZ a b (by omega) (by omega)
 have hh : a*b / 18446744073709551616<2305843009213693951:=by
  rw [Nat.div_lt_iff_lt_mul (by omega)]
  have h1 : a*b<=a*2305843009213693951:=Nat.mul_le_mul_left a (by omega)
  have h2 : a*2305843009213693951<=2305843009213693951*2305843009213693951:=QC _ (by omega)
  omega
 have hd:=ztY (a*b / 18446744073709551616) (a*b % 18446744073709551616) hh (Uj _ (by omega))
 rw [U5 (a*b / 18446744073709551616),Nat.div_add_mod] at hd;obtain ⟨m,hmm⟩ : ∃ m,m=a*b:=⟨_,rfl⟩;rw [<- hmm] at hm hd ⊢;refine rs [0,1] [] [] ?_;refine rx (s:=?z2) [5,6] [] [] rfl ?p2 ?r2
 case p2=>simp; refine zau hm (by simp) ?_; simp; rfl
 refine rx (s:=?z3) [8] [] [] rfl ?p3 ?r3
 case p3=>simp; refine zau hd (by simp) ?_; simp; rfl
 refine rs [4] [] [] ?_;exact zaI
theorem zpI (a : Nat) (ha : a<P61) : AcP 133 [U a] [] (U ((a ^ (P61 - 2) % P61 : Nat) : Int)) []:=by
 refine zfa.s.ac ?_;show awp _ 0 _ _ ⟨19,[(0,U a)],[],16⟩;obtain ⟨P,hP⟩ : ∃ P,P=P61:=⟨_,rfl⟩;obtain ⟨E,hE⟩ : ∃ E,E=P61 - 2:=⟨_,rfl⟩;have hE2 : E=2305843009213693949:=hE;have hP2 : P=2305843009213693951:=hP;have ht : ∀ x y : Nat,x<P->y<P->AcP 132 [U x,U y] [] (U ((x*y % P : Nat) : Int)) []:=λ x y hx hy=>by rw [hP] at *; exact zhP x y hx hy
 rw [<- hE,<- hP];rw [<- hP] at ha
 clear hE hP
 refine rs [0] [] [] ?_;refine rs [0,3] [] [] ?_;refine zab (rs [0,3,4] [] [] ?_);refine zad (zaj (ι:=Nat × Nat × Nat) (λ i=>⟨19,[(0,U (i.1 : Int)),(3,U (i.2.1 : Int)),(4,U (i.2.2 : Int))],[],300⟩) (λ i=>i.1<P/\i.2.1<P/\i.2.2<=E/\i.2.1*i.1 ^ i.2.2 % P=a ^ E % P) (λ i=>i.2.2) (a,1,E) ⟨ha,by simp only; omega,Ql _,by simp⟩ (Le.go [] [] rfl rfl (by simp [hE2]) (by simp)) ?_)
 rintro ⟨x,o,n⟩ ⟨hx,ho,hn,hv⟩
 simp only at hx ho hn hv;refine zab (rs [0,3,4,6] [] [] ?_);refine zac _ rfl (λ hc=>?_) λ hc=>?_
 .simp at hc
  have f1:=zyH n (by omega)
  have f2 : binV .shr (.int .u64 (n : Int)) (.int .u64 1)=some (.int .u64 ((n / 2 : Nat) : Int)):=ushr n 1 (by omega)
  have f3 : ∀ k : Nat,binV .eql (.int .u64 (k : Int)) (.int .u64 1)=some (.bool (decide (k=1))):=λ k=>by
   show some (Value.bool ((k : Int) == 1))=_
   by_cases hk : k=1
   .subst hk; rfl
   .have h2 : ¬ (k : Int)=1:=by omega
    simp [hk,h2]
  have hturn:=ztB P x n o;rw [hv] at hturn;obtain ⟨o2,ho2⟩ : ∃ o2,o2=if n % 2=1 then o*x % P else o:=⟨_,rfl⟩
  rw [<- ho2] at hturn;have hP0 : 0<P:=by omega
  have ho2l : o2<P:=by
   rw [ho2];split
   .exact Uj _ hP0
   .exact ho
  refine zae (zab (zad (zap (ι:=Unit) (λ _=>⟨19,[(0,U x),(3,U o2),(4,U n)],[],500⟩) (λ _=>True) ?_ λ _ _=>?_)))
  .refine rx (s:=?z5) [0,3,4,11] [] [] rfl ?p5 ?r5
   case p5=>simp [-binV,-Int.natCast_mul,-Int.natCast_add,-Int.natCast_ediv,-Int.natCast_emod,f1,f3]; rfl
   refine zac _ rfl (λ hb=>?_) λ hb=>?_
   .rw [Qe] at hb
    rw [if_pos hb] at ho2;have hto:=ht o x ho hx;rw [<- ho2] at hto;refine zal (s:=?z6) rfl ?p6 ?r6
    case p6=>simp; refine zau hto (by simp) ?_; simp; rfl
    exact ⟨(),trivial,LeH [] []⟩
   .rw [Qc] at hb
    rw [if_neg hb] at ho2;subst ho2;exact zae ⟨(),trivial,LeH [] []⟩
  have htx:=ht x x hx hx;have hx2 : x*x % P<P:=Uj _ hP0;obtain ⟨x2,hxd⟩ : ∃ x2,x2=x*x % P:=⟨_,rfl⟩;rw [<- hxd] at htx hx2 hturn;refine zal (s:=?z7) rfl ?p7 ?r7
  case p7=>simp; refine zau htx (by simp) ?_; simp; rfl
  refine zal (s:=?z8) rfl ?p8 ?r8
  case p8=>simp [-binV,-Int.natCast_mul,-Int.natCast_add,-Int.natCast_ediv,-Int.natCast_emod,f2]; rfl
  exact ⟨(x2,o2,n / 2),⟨hx2,ho2l,by simp only; omega,hturn⟩,by simp only; omega,LeH [] []⟩
 .simp at hc
  subst hc
  have hov : o=a ^ E % P:=by
   rw [Nat.pow_zero,Nat.mul_one,Va ho] at hv;exact hv
  rw [<- hov];refine zai (hit (rs [2] [] [] ?_));exact zaI
def cntS (r i : Nat) : Nat:=if i<=r then i else i - 1
theorem zfP (r : Nat) : cntS r 0=0:=by simp [cntS]
theorem zlA (r : Nat) : cntS r (r+1)=cntS r r:=by simp [cntS]
theorem zlx {r i : Nat} (h : i≠r) : cntS r (i+1)=cntS r i+1:=by unfold cntS; split <;> split <;> omega
theorem zlb {r i : Nat} (h : i≠r) : skp r (cntS r i)=i:=by unfold cntS skp; split <;> split <;> omega
theorem zpe {r N : Nat} (h : r<N+1) : cntS r (N+1)=N:=by unfold cntS; split <;> omega
theorem zqJ {r i N : Nat} (h : i≠r) (hr : r<N+1) (hi : i<N+1) : cntS r i<N:=by unfold cntS; split <;> omega
theorem zua {r i j : Nat} (hi : i≠r) (hj : j≠r) : cntS r i=cntS r j↔i=j:=by unfold cntS; split <;> split <;> omega
def b0 (W : Mat) (N r a c : Nat) : Nat:=(redM W N r a c % 2305843009213693951).toNat
theorem zyJ (W : Mat) (N r a c : Nat) : b0 W N r a c<2305843009213693951:=by
 unfold b0;have h1:=Int.emod_nonneg (redM W N r a c) (show (2305843009213693951 : Int)≠0 by decide)
 have h2:=Int.emod_lt_of_pos (redM W N r a c) (show (0 : Int)<2305843009213693951 by decide)
 omega
theorem zyG (W : Mat) (N r a c : Nat) : Cg 2305843009213693951 (b0 W N r a c : Int) (redM W N r a c):=by
 unfold b0;have h1:=Int.emod_nonneg (redM W N r a c) (show (2305843009213693951 : Int)≠0 by decide)
 rw [Int.toNat_of_nonneg h1];exact Cg.emod _
theorem zvT {W : Mat} {N r i : Nat} (hi : i≠r) {m w : Int} (hm : m=smN (N+1) (W i)) (hw : w=W i i) (h0 : 0<=m - w) (h1 : m - w<2305843009213693951) : ((b0 W N r (cntS r i) (cntS r i) : Nat) : Int)=m - w:=by
 unfold b0 redM;rw [if_pos rfl,zlb hi,<- hm,<- hw,Int.emod_eq_of_lt h0 h1];omega
theorem zwJ {W : Mat} {N r i c : Nat} (hi : i≠r) (hc : c≠r) (hic : i≠c) {w : Int} (hw : w=W i c) (h0 : 0<=w) (h1 : w<=8) : ((b0 W N r (cntS r i) (cntS r c) : Nat) : Int)=(2305843009213693951 - w) % 2305843009213693951:=by
 unfold b0 redM;rw [if_neg (λ h=>hic ((zua hi hc).1 h)),zlb hi,zlb hc,<- hw];omega
def newB (P k inv : Nat) (B : Nat->Nat->Nat) (a c : Nat) : Nat:=if k<a/\k<=c then (B a c+P - (B a k*inv % P)*B k c % P) % P else B a c
def midB (P k inv : Nat) (B : Nat->Nat->Nat) (i j a c : Nat) : Nat:=if a<i∨a=i/\c<j then newB P k inv B a c else B a c
section
variable {P k inv i j a c N : Nat} {B : Nat->Nat->Nat}
theorem zvL (h : a<=k) : midB P k inv B i j a c=B a c:=by
 unfold midB newB;split
 .rw [if_neg (by omega)]
 .rfl
theorem zrU : midB P k inv B (k+1) k=B:=by
 funext a c
 unfold midB newB;split
 .rw [if_neg (by omega)]
 .rfl
theorem zuu (h : c<N) : midB P k inv B i N a c=midB P k inv B (i+1) k a c:=by
 unfold midB
 by_cases h1 : a<i∨a=i/\c<N
 .have h2 : a<i+1∨a=i+1/\c<k:=by omega
  rw [if_pos h1,if_pos h2]
 .rw [if_neg h1]
  by_cases h2 : a<i+1∨a=i+1/\c<k
  .rw [if_pos h2]
   unfold newB;rw [if_neg (by omega)]
  .rw [if_neg h2]
theorem zvu (h : a<N) : midB P k inv B N k a c=newB P k inv B a c:=by
 unfold midB;rw [if_pos (.inl h)]
theorem zhO (hk : k<i) (hj : k<=j) : midB P k inv B i j i c=if c<j then newB P k inv B i c else B i c:=by
 unfold midB
 by_cases h : c<j
 .rw [if_pos (.inr ⟨rfl,h⟩),if_pos h]
 .rw [if_neg (by omega),if_neg h]
theorem zvj (hk : k<i) : midB P k inv B i k i k=B i k:=by rw [zhO hk (Ql k),if_neg (by omega)]
theorem zvx (hk : k<i) (hj : k<=j) : midB P k inv B i j i j=B i j:=by rw [zhO hk hj,if_neg (by omega)]
theorem zuj (hk : k<i) (hj : k<=j) : midB P k inv B i (j+1) i c=if c=j then (B i j+P - (B i k*inv % P)*B k j % P) % P else midB P k inv B i j i c:=by
 rw [zhO hk (by omega),zhO hk hj]
 by_cases h : c=j
 .subst h
  rw [if_pos (by omega),if_pos rfl]
  unfold newB;rw [if_pos ⟨hk,hj⟩]
 .rw [if_neg h]
  by_cases h2 : c<j
  .rw [if_pos h2,if_pos (by omega)]
  .rw [if_neg h2,if_neg (by omega)]
theorem zse (h : a≠i) : midB P k inv B i (j+1) a c=midB P k inv B i j a c:=by
 unfold midB
 by_cases h2 : a<i
 .rw [if_pos (.inl h2),if_pos (.inl h2)]
 .rw [if_neg (by omega),if_neg (by omega)]
theorem zxC (hP : 0<P) (h : B a c<P) : newB P k inv B a c<P:=by
 unfold newB;split
 .exact Uj _ hP
 .exact h
theorem zxQ (hP : 0<P) (hk : k<a) (hc : k<=c) (hB : B a c<P) : Cg (P : Int) (newB P k inv B a c : Int) (B a c - B a k*inv*B k c):=by
 unfold newB;rw [if_pos ⟨hk,hc⟩];have h1 : (B a k*inv % P)*B k c % P<P:=Uj _ hP
 have e : (((B a c+P - (B a k*inv % P)*B k c % P) % P : Nat) : Int)=((B a c : Int)+P - (((B a k : Int)*inv % P)*B k c) % P) % P:=by
  rw [Int.natCast_emod,Int.natCast_sub (by omega),Int.natCast_add,Int.natCast_emod,Int.natCast_mul,Int.natCast_emod,Int.natCast_mul]
 rw [e];have h2 : Cg (P : Int) ((((B a k : Int)*inv % P)*B k c) % P) (B a k*inv*B k c):=(Cg.emod _).trans ((Cg.emod _).mul (.refl _));have h3 : Cg (P : Int) ((B a c : Int)+P) (B a c):=⟨1,by omega⟩
 exact (Cg.emod _).trans (h3.sub h2)
end
structure zhQ (A : Mat) (N k o : Nat) (B : Nat->Nat->Nat) : Prop where
 le : k<=N
 lt : ∀ i j,B i j<2305843009213693951
 olt : o<2305843009213693951
 el : Elim 2305843009213693951 A k o λ i j=>(B (i+k) (j+k) : Int)
theorem zhQ.start (W : Mat) (N r : Nat) : zhQ (redM W N r) N 0 1 (b0 W N r):=⟨Qi _,λ i j=>zyJ ..,by omega,⟨λ m=>by
 rw [Q0];refine (zlO (λ i j=>(zyG W N r i j).symm) m).trans ?_;have:=Cg.refl (p:=2305843009213693951) (detM m λ i j=>(b0 W N r i j : Int))
 simpa using this⟩⟩
theorem zhQ.piv {A : Mat} {N k o : Nat} {B : Nat->Nat->Nat} (h : zhQ A N k o B) (hA : MM N A) (hk : k<N) (hp : (zc7 (k+1) λ i=>A i i)<=722204136308736) : 0<B k k:=by
 have h1:=h.el.piv hA hk (Int.lt_of_le_of_lt hp (by decide))
 rcases Ui (B k k) with h0 | h0
 .exfalso
  apply h1;show Cg _ ((B (0+k) (0+k) : Nat) : Int) 0;rw [Q0,h0];exact .refl _
 .exact h0
theorem zhQ.next {A : Mat} {N k o inv : Nat} {B : Nat->Nat->Nat} (h : zhQ A N k o B) (hk : k<N) (hi : B k k*inv % 2305843009213693951=1) : zhQ A N (k+1) (o*B k k % 2305843009213693951) (newB 2305843009213693951 k inv B):=by
 refine ⟨hk,λ i j=>zxC (by omega) (h.lt i j),Uj _ (by omega),?_⟩
 refine h.el.next (inv:=(inv : Int)) ?_ (λ i j=>?_) ?_
 .show Cg _ (((B (0+k) (0+k) : Nat) : Int)*inv) 1
  rw [Q0];have e : (((B k k*inv % 2305843009213693951 : Nat)) : Int)=1:=by rw [hi]; rfl
  rw [Int.natCast_emod,Int.natCast_mul] at e;have h1:=Cg.emod (p:=((2305843009213693951 : Nat) : Int)) ((B k k : Int)*inv);rw [e] at h1;exact h1.symm
 .have h1:=zxQ (P:=2305843009213693951) (k:=k) (inv:=inv) (B:=B) (a:=i+(k+1)) (c:=j+(k+1)) (by omega) (by omega) (by omega) (h.lt _ _)
  show Cg _ _ (((B (i+1+k) (j+1+k) : Nat) : Int) - ((B (i+1+k) (0+k) : Nat) : Int)*inv*((B (0+k) (j+1+k) : Nat) : Int));rw [Q0,show i+1+k=i+(k+1) by omega,show j+1+k=j+(k+1) by omega]
  exact h1
 .show Cg _ _ ((o : Int)*((B (0+k) (0+k) : Nat) : Int))
  rw [Q0,Int.natCast_emod,Int.natCast_mul];exact Cg.emod _
theorem zhQ.done {A : Mat} {N o : Nat} {B : Nat->Nat->Nat} (h : zhQ A N N o B) (hA : MM N A) (hp : (zc7 N λ i=>A i i)<=722204136308736) : (o : Int)=detM N A :=
 h.el.done hA (Int.lt_of_le_of_lt hp (by decide)) (by omega) (by have:=h.olt; omega)
theorem zul {x t : Nat} (hx : x<2305843009213693951) (ht : t<2305843009213693951) : (IntKind.u64.wrap (IntKind.u64.wrap ((x : Int)+2305843009213693951) - t)).tmod 2305843009213693951=(((x+2305843009213693951 - t) % 2305843009213693951 : Nat) : Int):=by
 have h1 : IntKind.u64.wrap ((x : Int)+2305843009213693951)=((x+2305843009213693951 : Nat) : Int):=unw (by omega) (by omega)
 have h2 : IntKind.u64.wrap (((x+2305843009213693951 : Nat) : Int) - t)=((x+2305843009213693951 - t : Nat) : Int):=unw (by omega) (by omega)
 rw [h1,h2,Int.tmod_eq_emod_of_nonneg (by omega)]
 omega
theorem znt {s N : Nat} {E E' : Nat->List (List AV)} (h : ∀ k<N,E k=E' k) : za2 s N E=za2 s N E':=by
 unfold za2;rw [zlB (E:=E) (E':=E') λ k hk=>by rw [h k hk]]
 congr 1
 unfold famH;refine QG λ k hk=>?_;rw [h k (QA.1 hk)]
theorem zgB {B B' : Nat->Nat->Nat} {M k : Nat} (h : ∀ j,j<M->B k j=B' k j) : uRow B M k=uRow B' M k:=by
 unfold uRow;refine QG λ j hj=>?_;rw [h j (QA.1 hj)]
def rowW (W : Mat) (N i : Nat) : List Int:=(List.range (N+1)).map λ j=>W i j
theorem zpg (W : Mat) (N i : Nat) : (rowW W N i).length=N+1:=by simp [rowW]
theorem zvN {W : Mat} {N i c : Nat} (h : c<(rowW W N i).length) : (rowW W N i)[c]=W i c:=by simp [rowW]
section
variable (K : List Int) (L : List (List Int)) (W : Mat) (N root : Nat) (hl : L.length=N+1) (h8 : N<=8) (hr : root<N+1)
 (hL : ∀ i,i<N+1->L[i]? = some (rowW W N i)) (hW : ∀ i j,0<=W i j/\W i j<=8)
 (hm : ∀ i,i<N+1->AcP 85 [eWk K L,.I i] [] (.I (smN (N+1) (W i))) [])
 (hs : ∀ i,i<N+1->0<=smN (N+1) (W i) - W i i/\smN (N+1) (W i)<=100)
 (hA : MM N (redM W N root)) (hp : ∀ k,k<=N->(zc7 k λ i=>redM W N root i i)<=722204136308736)
include hl h8 hr hL hW hm hs hA hp
theorem ztk : AcP 86 [eWk K L,.I root] [] (.I (zp9 W N root)) []:=by
 refine zd9.s.ac ?_;show awp _ 0 _ _ ⟨139,[(0,eWk K L),(1,.I root)],[],16⟩;have hlz : ∀ i : Nat,i<N+1->i<L.length:=λ i hi=>by omega
 have hLg : ∀ (i : Nat) (h : i<L.length),L[i]=rowW W N i:=λ i h=>by
  have:=hL i (by omega)
  rw [Qa h] at this;exact Qf this
 refine rs [1,2] [] [16] ?_;refine rs [1,2,5] [] [] ?_;refine zap (ι:=Unit) (λ _=>⟨139,[(5,.rs 50 0 N)],za2 1 N (uRow (b0 W N root) N),9000⟩) (λ _=>True) ?_ λ _ _=>?_
 .refine rx (s:=?z3) [1,2,5,18,19,20] [] [] rfl ?p3 ?r3
  case p3=>simp [hl]; rfl
  refine zad (zaj (ι:=Nat) (λ i=>⟨139,[(1,.I root),(2,.pv [ints K,zbn L]),(5,.rs 50 0 (cntS root i)),(18,zbn L),(19,.I (N+1 : Nat)),(20,.I i)],za2 1 (cntS root i) (uRow (b0 W N root) N),3000⟩) (λ i=>i<=N+1) (λ i=>N+1 - i) 0 (Qi _) ?_ ?_)
  .refine Le.lst [] [] [(50,1)] rfl (by simp) (by simp) (by simp) (by simp) (by simp) (by simp) (by simp) (by simp [Up,zfP]) (by simp [zfP,famH,famO])
  intro i hi;refine zaa ⟨139,[(1,.I root),(2,.pv [ints K,zbn L]),(5,.rs 50 0 (cntS root i)),(18,zbn L),(19,.I (N+1 : Nat)),(20,.I i),(21,.B (decide (i<N+1)))],za2 1 (cntS root i) (uRow (b0 W N root) N),3100⟩ rfl ?_ ?_
  .simp
   exact Le.slot (by omega) (by simp [beqN] <;> omega)
  refine zab (zac _ rfl (λ hc=>?_) λ hc=>?_)
  .rw [Qe] at hc
   have hw1 : IntKind.i64.wrap ((i : Int)+1)=(i : Int)+1:=w6;have hil:=hlz i hc;have hLi:=hLg i hil;refine zae (zap (ι:=Unit) (λ _=>⟨139,[(1,.I root),(2,.pv [ints K,zbn L]),(5,.rs 50 0 (cntS root (i+1))),(18,zbn L),(19,.I (N+1 : Nat)),(20,.I i)],za2 1 (cntS root (i+1)) (uRow (b0 W N root) N),8000⟩) (λ _=>True) ?_ λ _ _=>?_)
   .refine zad (zaa ⟨139,[(1,.I root),(2,.pv [ints K,zbn L]),(5,.rs 50 0 (cntS root i)),(6,.I i),(7,ints (rowW W N i)),(18,zbn L),(19,.I (N+1 : Nat)),(20,.I i)],za2 1 (cntS root i) (uRow (b0 W N root) N),3200⟩ rfl ?_ ?_)
    .simp [hil,hLi]
     exact Le.slot (by omega) (by simp)
    refine zab (zaa ⟨139,[(1,.I root),(2,.pv [ints K,zbn L]),(5,.rs 50 0 (cntS root i)),(6,.I i),(7,ints (rowW W N i)),(18,zbn L),(19,.I (N+1 : Nat)),(20,.I i),(27,.B (decide (i=root)))],za2 1 (cntS root i) (uRow (b0 W N root) N),3300⟩ rfl ?_ ?_)
    .simp
     exact Le.slot (by omega) (by simp [beqN] <;> omega)
    refine zac _ rfl (λ he=>?_) λ he=>?_
    .rw [Qe] at he
     subst he;refine zai (hit ⟨(),trivial,?_⟩);rw [zlA];exact Le.slot (by omega) (by simp)
    rw [Qc] at he;have hML:=zqJ he hr hc;have hms:=zlx he;refine zae (zaa ⟨139,[(1,.I root),(2,.pv [ints K,zbn L]),(5,.rs 50 0 (cntS root i)),(6,.I i),(7,ints (rowW W N i)),(8,.nilS),(18,zbn L),(19,.I (N+1 : Nat)),(20,.I i)],za2 1 (cntS root i) (uRow (b0 W N root) N),3400⟩ rfl ?_ ?_)
    .simp
     exact Le.slot (by omega) (by simp)
    refine zab (zaa ⟨139,[(1,.I root),(2,.pv [ints K,zbn L]),(5,.rs 50 0 (cntS root i)),(6,.I i),(8,.nilS),(18,zbn L),(19,.I (N+1 : Nat)),(20,.I i),(28,ints (rowW W N i)),(29,.I (N+1 : Nat)),(30,.I 0)],za2 1 (cntS root i) (uRow (b0 W N root) N),3500⟩ rfl ?_ ?_)
    .simp [zpg]
     exact Le.slot (by omega) (by simp)
    refine zad (zaj (ι:=Nat) (λ c=>⟨139,[(1,.I root),(2,.pv [ints K,zbn L]),(5,.rs 50 0 (cntS root i)),(6,.I i),(8,.rs 60 0 (cntS root c)),(18,zbn L),(19,.I (N+1 : Nat)),(20,.I i),(28,ints (rowW W N i)),(29,.I (N+1 : Nat)),(30,.I c)],(60,some ⟨1,uRow (b0 W N root) (cntS root c) (cntS root i),0⟩)::za2 1 (cntS root i) (uRow (b0 W N root) N),4000⟩) (λ c=>c<=N+1) (λ c=>N+1 - c) 0 (Qi _) ?_ ?_)
    .exact Le.famX (m:=0) true ⟨by omega,.inl (by omega)⟩ (by omega) (λ k _=>zbC _ _ k) (λ k hk=>zda hk) zgD (.inr (.inl ⟨rfl,by simp [zfP,uRow]⟩)) (by simp [Up,famG,lkp,zfP])
    intro c hcl;refine zaa ⟨139,[(1,.I root),(2,.pv [ints K,zbn L]),(5,.rs 50 0 (cntS root i)),(6,.I i),(8,.rs 60 0 (cntS root c)),(18,zbn L),(19,.I (N+1 : Nat)),(20,.I i),(28,ints (rowW W N i)),(29,.I (N+1 : Nat)),(30,.I c),(31,.B (decide (c<N+1)))],(60,some ⟨1,uRow (b0 W N root) (cntS root c) (cntS root i),0⟩)::za2 1 (cntS root i) (uRow (b0 W N root) N),4100⟩ rfl ?_ ?_
    .simp
     exact Le.slot (by omega) (by simp [beqN] <;> omega)
    refine zab (zac _ rfl (λ hcc=>?_) λ hcc=>?_)
    .rw [Qe] at hcc
     have hw2 : IntKind.i64.wrap ((c : Int)+1)=(c : Int)+1:=w6;have hWic:=hW i c;have hsi:=hs i hc
     have hfam : ∀ {a b d e : Nat × Option Ent} {t : List (Nat × AV)} {n k : Nat},k<cntS root i->a.1≠k+1000->b.1≠k+1000->d.1≠k+1000->e.1≠k+1000->(⟨139,t,a::b::d::e::za2 1 (cntS root i) (uRow (b0 W N root) N),n⟩ : St).hp (k+1000)=some ⟨1,uRow (b0 W N root) N k,0⟩:=λ {a b d e t n k} hk h1 h2 h3 h4=>by
      obtain ⟨a1,a2⟩:=a; obtain ⟨b1,b2⟩:=b; obtain ⟨d1,d2⟩:=d; obtain ⟨e1,e2⟩:=e;rw [hpN h1,hpN h2,hpN h3,hpN h4,zda hk]
     refine zae (zap (ι:=Unit) (λ _=>⟨139,[(1,.I root),(2,.pv [ints K,zbn L]),(5,.rs 50 0 (cntS root i)),(6,.I i),(8,.rs 60 0 (cntS root (c+1))),(18,zbn L),(19,.I (N+1 : Nat)),(20,.I i),(28,ints (rowW W N i)),(29,.I (N+1 : Nat)),(30,.I c)],(60,some ⟨1,uRow (b0 W N root) (cntS root (c+1)) (cntS root i),0⟩)::za2 1 (cntS root i) (uRow (b0 W N root) N),7000⟩) (λ _=>True) ?_ λ _ _=>?_)
     .refine zad (zaa ⟨139,[(1,.I root),(2,.pv [ints K,zbn L]),(5,.rs 50 0 (cntS root i)),(6,.I i),(8,.rs 60 0 (cntS root c)),(9,.I c),(10,.I (W i c)),(18,zbn L),(19,.I (N+1 : Nat)),(20,.I i),(28,ints (rowW W N i)),(29,.I (N+1 : Nat)),(30,.I c)],(60,some ⟨1,uRow (b0 W N root) (cntS root c) (cntS root i),0⟩)::za2 1 (cntS root i) (uRow (b0 W N root) N),4200⟩ rfl ?_ ?_)
      .simp [hcc,zpg,zvN]
       exact Le.slot (by omega) (by simp)
      refine zad (zaa ⟨139,[(1,.I root),(2,.pv [ints K,zbn L]),(5,.rs 50 0 (cntS root i)),(6,.I i),(8,.rs 60 0 (cntS root c)),(9,.I c),(10,.I (W i c)),(18,zbn L),(19,.I (N+1 : Nat)),(20,.I i),(28,ints (rowW W N i)),(29,.I (N+1 : Nat)),(30,.I c),(42,.B (decide (c=root)))],(60,some ⟨1,uRow (b0 W N root) (cntS root c) (cntS root i),0⟩)::za2 1 (cntS root i) (uRow (b0 W N root) N),4300⟩ rfl ?_ ?_)
      .simp
       exact Le.slot (by omega) (by simp [beqN] <;> omega)
      refine zac _ rfl (λ h1=>?_) λ h1=>?_
      .rw [Qe] at h1
       subst h1;refine zae ⟨(),trivial,?_⟩;rw [zlA];exact Le.slot (by omega) (by simp)
      rw [Qc] at h1;have hcs:=zlx h1;have hcl2:=zqJ h1 hr hcc;refine zaa ⟨139,[(1,.I root),(2,.pv [ints K,zbn L]),(5,.rs 50 0 (cntS root i)),(6,.I i),(8,.rs 60 0 (cntS root c)),(9,.I c),(10,.I (W i c)),(18,zbn L),(19,.I (N+1 : Nat)),(20,.I i),(28,ints (rowW W N i)),(29,.I (N+1 : Nat)),(30,.I c),(46,.B (decide (c=i)))],(60,some ⟨1,uRow (b0 W N root) (cntS root c) (cntS root i),0⟩)::za2 1 (cntS root i) (uRow (b0 W N root) N),4500⟩ rfl ?_ ?_
      .simp
       exact Le.slot (by omega) (by simp [beqN] <;> omega)
      refine zac _ rfl (λ h2=>?_) λ h2=>?_
      .rw [Qe] at h2
       subst h2;have hv:=zvT (W:=W) (N:=N) he rfl rfl hsi.1 (by omega)
       have hwa : IntKind.i64.wrap (smN (N+1) (W c) - W c c)=smN (N+1) (W c) - W c c:=w6;have hwb : IntKind.u64.wrap (smN (N+1) (W c) - W c c)=((b0 W N root (cntS root c) (cntS root c) : Nat) : Int):=by rw [hv]; exact wu64 (by omega) (by omega)
       refine zan rfl ?_;simp;refine cl0 (hm c hc) ?_;simp [hwa,hwb,zbv];refine ⟨by omega,by omega,?_⟩
       refine Le.famX (m:=4564) false ⟨by omega,.inr (by omega)⟩ (by omega) (λ k _=>zbC _ _ k) (λ k hk=>hfam hk (by simp only; omega) (by simp only; omega) (by simp only; omega) (by simp only; omega)) (by simp [zgD]) (.inr (.inr ⟨rfl,_,zbC _ _ _,rfl,?_⟩)) (by simp [Up,famG,lkp,hcs])
       rw [zc0,if_pos rfl,hcs,zmQ,Qb (by rw [zbv]; exact Ql _)]
      .rw [Qc] at h2
       have hv:=zwJ (W:=W) (N:=N) he h1 (λ e=>h2 e.symm) rfl hWic.1 hWic.2;have hwa : IntKind.u64.wrap (W i c)=W i c:=wu64 (by omega) (by omega)
       have hwb : IntKind.u64.wrap (2305843009213693951 - W i c)=2305843009213693951 - W i c:=wu64 (by omega) (by omega)
       have hwc : (2305843009213693951 - W i c).tmod 2305843009213693951=((b0 W N root (cntS root i) (cntS root c) : Nat) : Int):=by rw [hv,Int.tmod_eq_emod_of_nonneg (by omega)]
       refine zan rfl ?_;simp [hwa,hwb,hwc,zbv];refine ⟨by omega,by omega,?_⟩
       refine Le.famX (m:=4548) false ⟨by omega,.inr (by omega)⟩ (by omega) (λ k _=>zbC _ _ k) (λ k hk=>hfam hk (by simp only; omega) (by simp only; omega) (by simp only; omega) (by simp only; omega)) (by simp [zgD]) (.inr (.inr ⟨rfl,_,zbC _ _ _,rfl,?_⟩)) (by simp [Up,famG,lkp,hcs])
       rw [zc0,if_pos rfl,hcs,zmQ,Qb (by rw [zbv]; exact Ql _)]
     refine zal (s:=?z59) rfl ?o59 ?q59
     case o59=>simp [hw2]; rfl
     exact ⟨c+1,by omega,by omega,Le.famX (m:=60) false ⟨by omega,.inl (by omega)⟩ (by omega) (λ k _=>zbC _ _ k) (λ k hk=>by rw [hpN (by omega),zda hk]) (by simp [zgD]) (.inr (.inr ⟨rfl,_,zbC _ _ _,rfl,by rw [zc0,if_pos rfl]⟩)) (by simp [Up,famG,lkp])⟩
    rw [Qc] at hcc;obtain rfl : c=N+1:=by omega
    refine zai (hit (zan rfl ?_));simp [zgD,zdT];refine ⟨by omega,by omega,?_⟩
    rw [hms];refine Le.famNew (m:=60) (x:=4124) (E:=uRow (b0 W N root) N) (R:=uRow (b0 W N root) (cntS root (N+1)) (cntS root i)) (by omega) (.inl (by omega)) (by omega) (by omega) (λ k _=>zbC _ _ k) (zbC _ _ _) (λ _ _=>rfl) (by rw [zpe hr]) (λ k hk=>?_) ?_ ?_ ?_
    .rw [hpN (by omega),hpN (by omega),hpN (by omega),hpN (by omega),zda hk]
    .rw [hpN (by omega),hpN (by omega),hpN (by omega),zc0,if_pos rfl]
    .rw [zc0,if_pos rfl,zbv,Qb (by rw [zdT]; exact Ql _)]
    .simp [famN,lkp]
   have hcb : cntS root (i+1)<=i+1:=by unfold cntS; split <;> omega
   refine zal (s:=?z64) rfl ?o64 ?q64
   case o64=>simp [hw1]; rfl
   exact ⟨i+1,by omega,by omega,Le.famK (by omega) (λ k _=>zbC _ _ k) (by simp [Up,famG,lkp])⟩
  .rw [Qc] at hc
   obtain rfl : i=N+1:=by omega
   refine zai (hit ⟨(),trivial,?_⟩);rw [zpe hr];exact Le.slot (by omega) (by simp)
 refine zaa ⟨139,[(5,.rs 50 0 N),(11,U 1)],za2 1 N (uRow (b0 W N root) N),9100⟩ rfl ?_ ?_
 .simp
  exact Le.slot (by omega) (by simp)
 refine zab (zaa ⟨139,[(5,.rs 50 0 N),(11,U 1),(66,.I N),(67,.I 0)],za2 1 N (uRow (b0 W N root) N),9200⟩ rfl ?_ ?_)
 .simp
  exact Le.slot (by omega) (by simp)
 refine zad (zaj (ι:=Nat × Nat × (Nat->Nat->Nat)) (λ x=>⟨139,[(5,.rs 50 0 N),(11,U (x.2.1 : Int)),(66,.I N),(67,.I x.1)],za2 1 N (uRow x.2.2 N),10000⟩) (λ x=>zhQ (redM W N root) N x.1 x.2.1 x.2.2) (λ x=>N - x.1) (0,1,b0 W N root) (zhQ.start W N root) (Le.slot (by omega) (by simp)) ?_)
 rintro ⟨k,o,B⟩ hE
 simp only at hE;refine zaa ⟨139,[(5,.rs 50 0 N),(11,U o),(66,.I N),(67,.I k),(68,.B (decide (k<N)))],za2 1 N (uRow B N),10100⟩ rfl ?_ ?_
 .simp
  exact Le.slot (by omega) (by simp [beqN] <;> omega)
 refine zab (zac _ rfl (λ hk=>?_) λ hk=>?_)
 .rw [Qe] at hk
  have hw1 : IntKind.i64.wrap ((k : Int)+1)=(k : Int)+1:=w6;have hpiv:=hE.piv hA hk (hp (k+1) hk);have hlt:=hE.lt;have holt:=hE.olt;have hP : (2305843009213693951 : Nat)=P61:=rfl;obtain ⟨inv,hinv⟩ : ∃ z,z=B k k ^ (P61 - 2) % P61:=⟨_,rfl⟩;have hic:=zpI (B k k) (hlt k k);rw [<- hinv] at hic;have hinvl : inv<2305843009213693951:=by rw [hinv]; exact Uj _ (by decide)
  have hone : B k k*inv % 2305843009213693951=1:=by
   have h1:=zyF hpiv (hlt k k);rw [hinv,hP,Nat.mul_mod_mod];exact h1
  have hnx:=hE.next hk hone
  have htc:=zhP o (B k k) holt (hlt k k);rw [<- hP] at htc;obtain ⟨o2,ho2⟩ : ∃ z,z=o*B k k % 2305843009213693951:=⟨_,rfl⟩;rw [<- ho2] at htc hnx;refine zae (zap (ι:=Unit) (λ _=>⟨139,[(5,.rs 50 0 N),(11,U o2),(66,.I N),(67,.I k)],za2 1 N (uRow (newB 2305843009213693951 k inv B) N),18000⟩) (λ _=>True) ?_ λ _ _=>?_)
  .refine zad (zaa ⟨139,[(5,.rs 50 0 N),(11,U o),(12,.I k),(66,.I N),(67,.I k)],za2 1 N (uRow B N),10200⟩ rfl ?_ ?_)
   .simp
    exact Le.slot (by omega) (by simp)
   refine zaa ⟨139,[(5,.rs 50 0 N),(11,U o2),(12,.I k),(66,.I N),(67,.I k)],za2 1 N (uRow B N),10400⟩ rfl ?_ ?_
   .simp [zgD,zda hk,zbQ hk,famV,zbv,zh5,zd0 hk,hk]
    refine cl0 htc ?_;simp;exact Le.slot (by omega) (by simp)
   refine zaa ⟨139,[(5,.rs 50 0 N),(11,U o2),(12,.I k),(13,U inv),(66,.I N),(67,.I k)],za2 1 N (uRow B N),10600⟩ rfl ?_ ?_
   .simp [zgD,zda hk,zbQ hk,famV,zbv,zh5,zd0 hk,hk]
    refine cl0 hic ?_;simp;exact Le.slot (by omega) (by simp)
   refine zaa ⟨139,[(5,.rs 50 0 N),(11,U o2),(12,.I k),(13,U inv),(14,.I (k+1 : Nat)),(66,.I N),(67,.I k)],za2 1 N (uRow B N),10700⟩ rfl ?_ ?_
   .simp [hw1]
    exact Le.slot (by omega) (by simp)
   refine zad (zaj (ι:=Nat) (λ i=>⟨139,[(5,.rs 50 0 N),(11,U o2),(12,.I k),(13,U inv),(14,.I i),(66,.I N),(67,.I k)],za2 1 N (uRow (midB 2305843009213693951 k inv B i k) N),11000⟩) (λ i=>k<i/\i<=N) (λ i=>N - i) (k+1) ⟨by omega,by omega⟩ (by rw [zrU]; exact Le.slot (by omega) (by simp)) ?_)
   rintro i ⟨hki,hiN⟩
   refine zab (zaa ⟨139,[(5,.rs 50 0 N),(11,U o2),(12,.I k),(13,U inv),(14,.I i),(66,.I N),(67,.I k),(92,.B (decide (i<N)))],za2 1 N (uRow (midB 2305843009213693951 k inv B i k) N),11100⟩ rfl ?_ ?_)
   .simp
    exact Le.slot (by omega) (by simp [beqN] <;> omega)
   refine zac _ rfl (λ hi=>?_) λ hi=>?_
   .rw [Qe] at hi
    have hw2 : IntKind.i64.wrap ((i : Int)+1)=(i : Int)+1:=w6;have hsc:=zhP (B i k) inv (hlt i k) hinvl;rw [<- hP] at hsc;have hshl : B i k*inv % 2305843009213693951<2305843009213693951:=Uj _ (by decide)
    obtain ⟨sh,hsh⟩ : ∃ z,z=B i k*inv % 2305843009213693951:=⟨_,rfl⟩;rw [<- hsh] at hsc hshl;refine zae (zap (ι:=Unit) (λ _=>⟨139,[(5,.rs 50 0 N),(11,U o2),(12,.I k),(13,U inv),(14,.I i),(66,.I N),(67,.I k)],za2 1 N (uRow (midB 2305843009213693951 k inv B i N) N),16000⟩) (λ _=>True) ?_ λ _ _=>?_)
    .refine zad (zaa ⟨139,[(5,.rs 50 0 N),(11,U o2),(12,.I k),(13,U inv),(14,.I i),(15,U sh),(66,.I N),(67,.I k)],za2 1 N (uRow (midB 2305843009213693951 k inv B i k) N),11400⟩ rfl ?_ ?_)
     .simp [zgD,zda hi,zbQ hi,famV,zbv,zh5,zd0 hk,hi,hk,zvj hki]
      refine cl0 hsc ?_;simp;exact Le.slot (by omega) (by simp)
     refine zaa ⟨139,[(5,.rs 50 0 N),(11,U o2),(12,.I k),(13,U inv),(14,.I i),(15,U sh),(16,.I k),(66,.I N),(67,.I k)],za2 1 N (uRow (midB 2305843009213693951 k inv B i k) N),11500⟩ rfl ?_ ?_
     .simp
      exact Le.slot (by omega) (by simp)
     refine zad (zaj (ι:=Nat) (λ j=>⟨139,[(5,.rs 50 0 N),(11,U o2),(12,.I k),(13,U inv),(14,.I i),(15,U sh),(16,.I j),(66,.I N),(67,.I k)],za2 1 N (uRow (midB 2305843009213693951 k inv B i j) N),12000⟩) (λ j=>k<=j/\j<=N) (λ j=>N - j) k ⟨by omega,by omega⟩ (Le.slot (by omega) (by simp)) ?_)
     rintro j ⟨hkj,hjN⟩
     refine zab (zaa ⟨139,[(5,.rs 50 0 N),(11,U o2),(12,.I k),(13,U inv),(14,.I i),(15,U sh),(16,.I j),(66,.I N),(67,.I k),(108,.B (decide (j<N)))],za2 1 N (uRow (midB 2305843009213693951 k inv B i j) N),12100⟩ rfl ?_ ?_)
     .simp
      exact Le.slot (by omega) (by simp [beqN] <;> omega)
     refine zac _ rfl (λ hj=>?_) λ hj=>?_
     .rw [Qe] at hj
      have hw3 : IntKind.i64.wrap ((j : Int)+1)=(j : Int)+1:=w6;have htt:=zhP sh (B k j) hshl (hlt k j);rw [<- hP] at htt;have htl : sh*B k j % 2305843009213693951<2305843009213693951:=Uj _ (by decide)
      have hval:=zul (hlt i j) htl;have hset : ∀ c,c<N->midB 2305843009213693951 k inv B i (j+1) i c=if c=j then (B i j+2305843009213693951 - sh*B k j % 2305843009213693951) % 2305843009213693951 else midB 2305843009213693951 k inv B i j i c:=λ c _=>by rw [hsh]; exact zuj hki hkj
      have hrow:=zs7 (M:=N) hset;obtain ⟨tt,htd⟩ : ∃ z,z=sh*B k j % 2305843009213693951:=⟨_,rfl⟩;rw [<- htd] at htt hval hrow;obtain ⟨vv,hvd⟩ : ∃ z,z=(B i j+2305843009213693951 - tt) % 2305843009213693951:=⟨_,rfl⟩;rw [<- hvd] at hval hrow;have hcu:=zvx (P:=2305843009213693951) (inv:=inv) (B:=B) hki hkj;have hlow : midB 2305843009213693951 k inv B i j k j=B k j:=zvL (Ql k);refine zae (zap (ι:=Unit) (λ _=>⟨139,[(5,.rs 50 0 N),(11,U o2),(12,.I k),(13,U inv),(14,.I i),(15,U sh),(16,.I j),(66,.I N),(67,.I k)],za2 1 N (uRow (midB 2305843009213693951 k inv B i (j+1)) N),14000⟩) (λ _=>True) ?_ λ _ _=>?_)
      .refine zad (zaP rfl ?_)
       simp [zgD,zda hi,zda hk,zbQ hi,zbQ hk,famV,zbv,zh5,zd0 hj,hi,hk,hj,hcu,hlow];refine cl0 htt ?_;simp [hval,zgD,zda hi,zda hk,zbQ hi,zbQ hk,famV,zbv,zh5,zd0 hj,hi,hk,hj,hcu,hlow,hrow];refine ⟨rfl,?_⟩;refine Le.famSet (a:=i) (by omega) (λ a _ ha=>?_) (by rw [zbv,zbv]) (by simp)
       exact zgB λ c _=>zse ha
      refine zal (s:=?z109) rfl ?o109 ?q109
      case o109=>simp [hw3]; rfl
      exact ⟨j+1,⟨by omega,by omega⟩,by omega,Le.famK (by omega) (λ k _=>zbC _ _ k) (by simp [Up,famG,lkp])⟩
     .rw [Qc] at hj
      obtain rfl : j=N:=by omega
      exact zai (hit ⟨(),trivial,Le.slot (by omega) (by simp)⟩)
    refine zal (s:=?z93) rfl ?o93 ?q93
    case o93=>simp [hw2]; rfl
    have hE2 : uRow (midB 2305843009213693951 k inv B i N) N=uRow (midB 2305843009213693951 k inv B (i+1) k) N:=by
     funext a
     exact zgB λ c hc=>zuu hc
    refine ⟨i+1,⟨by omega,by omega⟩,by omega,?_⟩
    rw [hE2];exact Le.famK (by omega) (λ k _=>zbC _ _ k) (by simp [Up,famG,lkp])
   .rw [Qc] at hi
    obtain rfl : i=N:=by omega
    refine zai (hit ⟨(),trivial,?_⟩);rw [znt (E:=uRow (newB 2305843009213693951 k inv B) i) (E':=uRow (midB 2305843009213693951 k inv B i k) i) λ a ha=>zgB λ c _=>(zvu ha).symm];exact Le.slot (by omega) (by simp)
  refine zal (s:=?z136) rfl ?o136 ?q136
  case o136=>simp [hw1]; rfl
  exact ⟨(k+1,o2,newB 2305843009213693951 k inv B),hnx,by simp only; omega,Le.famK (by omega) (λ k _=>zbC _ _ k) (by simp [Up,famG,lkp])⟩
 .rw [Qc] at hk
  have hkN : k=N:=by have:=hE.le; omega
  subst hkN;have hdone:=hE.done hA (hp k (Ql k));have ho:=hE.olt;refine zai (hit ?_)
  have hw : IntKind.i64.wrap (o : Int)=zp9 W k root:=by
   rw [w6,hdone];rfl
  refine zaa ⟨139,[(4,.I (zp9 W k root))],[],20000⟩ rfl ?_ ?_
  .simp [hw]
   exact Le.keepF rfl (by simp) (by simp) (λ j e h=>by simp at h)
  exact zaI
end
theorem zly : ∀ (l : List Nat) (x : Nat),gcdL (l++[x])=Nat.gcd (gcdL l) x
 | [],x=>by simp [gcdL]
 | y::l,x=>by
   simp only [QO,gcdL];rw [zly l x,Nat.gcd_assoc]
def ze8 (G : Gr) (S : List Int) (r : Int) : List Int × Int:=if zaD G S=[] then ([],11) else if 9<(zaD G S).length then ([],3) else (outK G S r,0)
def oA (G : Gr) (S : List Int) (r : Int) (i : Nat) : List Int:=(List.range G.size.toNat).map λ (k : Nat)=>if (k : Int)∈(zaD G S).take i then ((rawK G S r ((zaD G S).idxOf (k : Int)) : Nat) : Int) else 0
def oB (G : Gr) (S : List Int) (r : Int) (j : Nat) : List Int:=(List.range G.size.toNat).map λ (k : Nat)=>if (k : Int)∈zaD G S then (if (k : Int)∈(zaD G S).take j then ((rawK G S r ((zaD G S).idxOf (k : Int)) / gcdL (zmP G S r) : Nat) : Int) else ((rawK G S r ((zaD G S).idxOf (k : Int)) : Nat) : Int)) else 0
section
variable {G : Gr} {S : List Int} {r : Int}
theorem zxb (i : Nat) : (oA G S r i).length=G.size.toNat:=by simp [oA]
theorem zxP (i : Nat) : (oB G S r i).length=G.size.toNat:=by simp [oB]
theorem zve : zaf (oA G S r 0)=List.replicate G.size.toNat [AV.I 0]:=by simp [oA,fcd,Vi]
theorem zw2 : oA G S r (zaD G S).length=oB G S r 0:=by
 unfold oA oB;refine QG λ k _=>?_;rw [Q1];simp
theorem zxe : oB G S r (zaD G S).length=outK G S r:=by
 unfold oB outK;refine QG λ k _=>?_;rw [Q1]
 by_cases h : (k : Int)∈zaD G S
 .rw [if_pos h,if_pos h,if_pos h]
 .rw [if_neg h,if_neg h]
theorem zir {K : List Int} (hn : K.Nodup) {i y : Nat} (hi : i<K.length) (hy : K[i]=(y : Int)) (k : Nat) : (k : Int)∈K.take (i+1)↔(k : Int)∈K.take i∨k=y:=by
 rw [Qp hi,Qo,QB,hy];constructor
 .rintro (h | h)
  .exact .inl h
  .exact .inr (by omega)
 .rintro (h | h)
  .exact .inl h
  .exact .inr (by omega)
theorem ztZ {K : List Int} (hn : K.Nodup) {i : Nat} (hi : i<K.length) : K[i]∉K.take i:=λ h=>by
 obtain ⟨j,hj,e⟩:=QF.1 h;simp at hj;rw [UT] at e;have:=(U0 hn).1 e;omega
theorem zw1 {i y : Nat} (hi : i<(zaD G S).length) (hy : (zaD G S)[i]=(y : Int)) : (zaf (oA G S r i)).set y [AV.I ((rawK G S r i : Nat) : Int)]=zaf (oA G S r (i+1)):=by
 rw [zgb]
 congr 1
 unfold oA;rw [zle];refine QG λ k _=>?_;have h:=zir za5 hi hy k
 by_cases hk : k=y
 .subst hk
  rw [if_pos rfl,if_pos (h.2 (.inr rfl)),<- hy,za5.idxOf_getElem i hi]
 .rw [if_neg hk]
  by_cases h1 : (k : Int)∈(zaD G S).take i
  .rw [if_pos h1,if_pos (h.2 (.inl h1))]
  .rw [if_neg h1,if_neg λ q=>by rcases h.1 q with q | q; exact h1 q; exact hk q]
theorem zwv {i y : Nat} (hi : i<(zaD G S).length) (hy : (zaD G S)[i]=(y : Int)) (hyl : y<G.size.toNat) : (oA G S r (i+1))[y]? = some ((rawK G S r i : Nat) : Int):=by
 unfold oA;rw [Qs,List.getElem?_range hyl,Q7,if_pos ((zir za5 hi hy y).2 (.inr rfl)),<- hy,za5.idxOf_getElem i hi]
theorem zw9 {i y : Nat} (hi : i<(zaD G S).length) (hy : (zaD G S)[i]=(y : Int)) (hyl : y<G.size.toNat) : (oB G S r i)[y]? = some ((rawK G S r i : Nat) : Int):=by
 unfold oB;have h1 : (y : Int)∈zaD G S:=by rw [<- hy]; exact Qj hi
 have h2 : ¬ (y : Int)∈(zaD G S).take i:=by rw [<- hy]; exact ztZ za5 hi
 rw [Qs,List.getElem?_range hyl,Q7,if_pos h1,if_neg h2,<- hy,za5.idxOf_getElem i hi]
theorem zxh {i y : Nat} (hi : i<(zaD G S).length) (hy : (zaD G S)[i]=(y : Int)) : (zaf (oB G S r i)).set y [AV.I ((rawK G S r i / gcdL (zmP G S r) : Nat) : Int)]=zaf (oB G S r (i+1)):=by
 rw [zgb]
 congr 1
 unfold oB;rw [zle];refine QG λ k _=>?_;have h:=zir za5 hi hy k
 by_cases hk : k=y
 .subst hk
  have h1 : (k : Int)∈zaD G S:=by rw [<- hy]; exact Qj hi
  rw [if_pos rfl,if_pos h1,if_pos (h.2 (.inr rfl)),<- hy,za5.idxOf_getElem i hi]
 .rw [if_neg hk]
  by_cases h1 : (k : Int)∈(zaD G S).take i
  .rw [if_pos h1,if_pos (h.2 (.inl h1))]
  .have h2 : ¬ (k : Int)∈(zaD G S).take (i+1):=λ q=>by rcases h.1 q with q | q; exact h1 q; exact hk q
   rw [if_neg h1,if_neg h2]
theorem zma {i : Nat} (h : i<(zaD G S).length) : (zfi G S r)[i]? = some (zcc G S r (zc4 G S i)):=by
 unfold zfi;rw [Qs,Qa h,zmO h];rfl
theorem zq2 {i N : Nat} (hN : (zaD G S).length=N+1) : rowW (zhn G S r) N i=zcc G S r (zc4 G S i):=by
 unfold rowW zcc zhn zp5;rw [<- hN];exact zrm (zaD G S) λ y=>wayW G S r (zc4 G S i) y
theorem ztF (hg : GrOk G) (hr : 1<=r) (hr5 : r<=5) (hS : ∀ s∈S,Key G s) (h9 : (zaD G S).length<=9) (h0 : 0<(zaD G S).length) : 0<gcdL (zmP G S r) :=
 zuw ⟨_,Qg.2 ⟨0,QA.2 h0,rfl⟩,(zry hg hr hr5 hS h9 h0).2.1⟩
end
section
variable (G : Gr) (S : List Int) (r : Int) (hg : GrOk G) (hr : 1<=r) (hr5 : r<=5) (hS : ∀ s∈S,Key G s)
include hg hr hr5
theorem zmR {i : Nat} (h : i<(zaD G S).length) : AcP 85 [eWk (zaD G S) (zfi G S r),.I i] [] (.I (zfI G S r (zc4 G S i))) []:=by
 refine zvr _ _ _ _ (zma h) (λ x hx=>?_) ?_
 .obtain ⟨y,_,rfl⟩:=Qg.1 hx
  exact zh7 hg hr hr5 _ y
 .have:=zmh (g:=G) (S:=S)
  have:=hg.1.2.1;simp [zcc];omega
include hS
theorem zsB (h9 : (zaD G S).length<=9) {i : Nat} (h : i<(zaD G S).length) : AcP 86 [eWk (zaD G S) (zfi G S r),.I i] [] (.I (zkE G S r i)) []:=by
 obtain ⟨N,hN⟩ : ∃ N,(zaD G S).length=N+1:=⟨(zaD G S).length - 1,by omega⟩
 have hw:=zwa hg hr hS h;have hms : ∀ j,smN (N+1) (zhn G S r j)=zfI G S r (zc4 G S j):=λ j=>by rw [<- hN]; exact zoh
 have hW : ∀ i j,0<=zhn G S r i j/\zhn G S r i j<=8:=λ i j=>zh7 hg hr hr5 _ _;have hN1 : (zaD G S).length - 1=N:=by omega
 unfold zkE;rw [hN1] at hw ⊢;refine ztk (zaD G S) (zfi G S r) (zhn G S r) N i (by simp [zfi,hN]) (by omega) (by omega) (λ j hj=>?_) hW (λ j hj=>?_) (λ j hj=>?_) (zoV hw) (λ k hk=>?_)
 .rw [zma (by omega),zq2 hN]
 .rw [hms]
  exact zmR G S r hg hr hr5 (by omega)
 .rw [hms]
  have h1:=zhI hg hr hr5 (S:=S) (zc4 G S j)
  have h2 : zhn G S r j j<=zfI G S r (zc4 G S j):=zoS (λ v hv=>by
   obtain ⟨y,_,rfl⟩:=Qg.1 hv
   exact (zh7 hg hr hr5 _ y).1) (Qg.2 ⟨zc4 G S j,zlZ (by omega),rfl⟩)
  omega
 .have:=zxs hg hr hr5 hS h9 (i:=i) (k:=k) (by omega) (by omega)
  rw [hN1] at this;exact this
end
def zdi : List Int->List Int->List Int->Bool
 | [],a,r=>a.isEmpty && r.isEmpty
 | x::o,a,r=>if a.head? = some x then zdi o a.tail r else if r.head? = some x then zdi o a r.tail else false
theorem zhU : ∀ {o a r : List Int} {k : Int},zdi o a r=true->k∉o->zdi (o++[k]) (a++[k]) r=true
 | [],a,r,k,h,_=>by
   simp [zdi] at h;rw [h.1,h.2];simp [zdi]
 | x::o,a,r,k,h,hk=>by
   have hkx : k≠x:=λ e=>hk (by simp [e])
   have hko : k∉o:=λ e=>hk (Qk _ e);simp only [zdi] at h;simp only [QO,zdi];split at h
   .rename_i h1
    cases a with
    | nil=>cases h1
    | cons y a =>
      have : y=x:=by simpa using h1
      subst this
      simpa using zhU h hko
   .rename_i h1
    split at h
    .rename_i h2
     have h3 : (a++[k]).head? ≠ some x:=by
      cases a with
      | nil=>simpa using hkx
      | cons y a=>simpa using h1
     rw [if_neg h3,if_pos h2];exact zhU h hko
    .cases h
theorem ziU : ∀ {o a r : List Int} {k : Int},zdi o a r=true->k∉o->zdi (o++[k]) a (r++[k])=true
 | [],a,r,k,h,_=>by
   simp [zdi] at h;rw [h.1,h.2];simp [zdi]
 | x::o,a,r,k,h,hk=>by
   have hkx : k≠x:=λ e=>hk (by simp [e])
   have hko : k∉o:=λ e=>hk (Qk _ e);simp only [zdi] at h;simp only [QO,zdi];split at h
   .rename_i h1
    rw [if_pos h1];exact ziU h hko
   .rename_i h1
    rw [if_neg h1];split at h
    .rename_i h2
     cases r with
     | nil=>cases h2
     | cons y r =>
       have : y=x:=by simpa using h2
       subst this
       simpa using ziU h hko
    .cases h
def zv6 (g : Gr) (p : Pol) (b : List Int) (r : Int × List Int) : Prop:=zlp ⟨netN g,netA g p (zaG (b++[r.1]))⟩ r.2 b.length
def zgt (g : Gr) (p : Pol) : List Int->List Int->List Int->List (Int × List Int)->Prop
 | _,[],_,_=>True
 | b,x::o,a,R=>if a.head? = some x then zgt g p (b++[x]) o a.tail R else match R with
   | []=>True
   | r::R=>zv6 g p b r/\zgt g p b o a R
def znm (R : List (Int × List Int)) : List Int:=R.map (·.1)
end Go.Proofs.YtkngdgplbojdlaaGreat
