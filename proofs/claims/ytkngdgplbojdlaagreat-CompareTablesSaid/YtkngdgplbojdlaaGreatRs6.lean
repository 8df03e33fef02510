/- Texts of this claim,merged. -/
import Derived.Test.YtkngdgplbojdlaaGreatRs5
import Derived.Test.YtkngdgplbojdlaaGreatRs3
import Derived.Test.YtkngdgplbojdlaaGreatRs4
import Derived.Test.YtkngdgplbojdlaaGreatRs1
import Derived.Lib.Mul64
set_option linter.unusedSimpArgs false
set_option linter.unusedVariables false
set_option linter.unusedSectionVars false
set_option maxRecDepth 100000
set_option maxHeartbeats 8000000
noncomputable section
namespace Go.Proofs.YtkngdgplbojdlaaGreat
open Go
abbrev Dv (R:List (Int × List Int)):List (List AV):=R.map λ r=>[.I r.1,AA r.2]
abbrev Fl (acc flow:List Int) (R:List (Int × List Int)):AV:=.agg [AA acc,AA flow,.vs 2 false (Dv R)]
structure X5 where
 i:Nat
 R:List (Int × List Int)
open Classical in
theorem Zc (g:Gr) (p:Al) (hg:AI g) (hp:BT g.size p) (hs:p.seeds.length<=64) :
  ∃ x:List (Int × List Int) × List Int,(F1 g p (AY (AM g p.lv) p.seeds) x.1/\Js g p (Az (AR g p (AY (AM g p.lv) p.seeds))) x.2) /\
    AcP 25 [eG g,eP p] [] (.tup [Fl (AR g p (AY (AM g p.lv) p.seeds)) x.2 x.1,.I 0]) []:=by
 refine mQ.s.acallsX (args:=[eG g,eP p]) (hs:=[]) (λ x=>.tup [Fl (AR g p (AY (AM g p.lv) p.seeds)) x.2 x.1,.I 0]) (λ _=>[]) (λ x:List (Int × List Int) × List Int=>F1 g p (AY (AM g p.lv) p.seeds) x.1/\Js g p (Az (AR g p (AY (AM g p.lv) p.seeds))) x.2) (CL rfl) (CL rfl) (λ _=>Qk _) ?_;show A2 _ 0 _ _ ⟨84,[(0,eG g),(1,eP p)],[],16⟩;have b2:=hg.1.1;have av:=hg.1.2.1;have b3:=hg.edges_le;have b4:=hg.gone_le;have ha:=MZ g p (by omega) (by omega) (by omega) (by have:=hp.2.2.2.1;omega)
 rw[if_pos hg,if_pos hp] at ha;have hw:=KG g p.lv (by omega) (by omega)
 have hb:=XS (g:=AM g p.lv) (S:=p.seeds) (hg.level p.lv) (by omega)
 obtain⟨o,ho⟩:=AG (AY (AM g p.lv) p.seeds);have hh:∀ k∈o,0<=k/\k<g.size:=λ k hk=>by rw[ho] at hk;have h:=IA hk;exact h
 have a8:o.Nodup:=by rw[ho];exact Gj _ _
 rw[<- ho] at hb ⊢
 have a9:o.length<=64:=by
  have:=Gw (b:=(List.range g.size.toNat).map λ i:Nat=>(i:Int)) a8 λ x hx=>by
   have:=hh x hx;exact Qi.2 ⟨x.toNat,Qy.2 (by omega),by omega⟩
  simp at this;omega
 have hz:∀ a:List Int,(∀ x∈a,0<=x/\x<g.size)->Bu (Az a) 0 (g.size - 1):=λ a h=>Ka h;have hj0:Az []=[]:=rfl;refine rs [2,3,4] [32] [16,24] ?_;refine AC (rx (s:=?s2) [2,3,4,6] [32] [] rfl ?o2 ?q2)
 case o2=>simp;refine Aq ha (by simp) ?_;simp;rfl
 refine rs [2,3,4,6,21] [32] [] ?_;refine AE _ rfl (λ h=>by cases h) λ _=>?_
 refine AJ (ar [2,3,4,7] [(32,32),(96,40)] [] 200 ?_);refine ar [2,3,4,7,8] [(32,32),(40,40)] [] 300 ?_;refine CW ⟨84,[(2,.pv (gC g)),(3,.pv (pC p)),(4,.pt 32 0 0),(7,.pt 40 0 0),(8,.vs 1 false []),(9,AA o)],[(32,some ⟨3,[[.nilS,.nilS,.nilS]],0⟩),(40,some ⟨3,[[.nilS,.nilS,.nilS]],0⟩)],400⟩ ?_ ?_
 .simp
  refine Aj hw ?_;simp;refine CV hb ?_;simp;exact⟨rfl,AF [(32,32),(40,40)] [348] (by simp[AB,Cz])⟩
 refine AC (Dw ⟨84,[(2,.pv (gC g)),(3,.pv (pC p)),(4,.pt 32 0 0),(7,.pt 40 0 0),(8,.vs 1 false []),(9,AA o),(10,.I 0)],[(32,some ⟨3,[[.nilS,.nilS,.nilS]],0⟩),(40,some ⟨3,[[.nilS,.nilS,.nilS]],0⟩)],500⟩ [(32,32),(40,40)] [] ?_);refine AL ?_
 refine Ae (ι:=X5) (λ s=>⟨84,[(2,.pv (gC g)),(3,.pv (pC p)),(4,.pt 32 0 0),(7,.pt 40 0 0),(8,AA (Az (AR g p (o.take s.i)))),(9,AA o),(10,.I s.i)],
   [(32,some ⟨3,[[.nilS,.nilS,.nilS]],0⟩),(40,some ⟨3,[[.rs 41 0 (AR g p (o.take s.i)).length,.nilS,.rs 42 0 s.R.length]],0⟩),(41,some ⟨1,AD (AR g p (o.take s.i)),0⟩),(42,some ⟨2,Dv s.R,0⟩)],500⟩)
  (λ s=>s.i<=o.length/\F1 g p (o.take s.i) s.R) (λ s=>o.length - s.i) ⟨0,[]⟩ ⟨Qh _,F1.nil⟩
  (Le.lst [(32,32),(40,40)] [] [(41,1),(42,2)] rfl (by simp) (by simp) (by simp) (by simp) (by simp) (by simp) (by simp) (by simp[Up,Lr,hj0];exact .refl _) (by simp[Lr,AB];exact⟨Am.rfl' (by simp),Am.row rfl (by omega) (by simp[Eg,Up,Wk.refl])⟩)) ?_
 rintro⟨i,R⟩ ⟨hi,hR⟩
 simp only at hi hR;obtain⟨acc,h0⟩:=AG (AR g p (o.take i));have a0:∀ x∈acc,0<=x/\x<g.size:=λ x hx=>hh x (QZ (Im (h0 ▸ hx)))
 have b5:acc.length<=64:=by
  have h1:=Ob (g:=g) (p:=p) (o.take i);rw[<- h0] at h1;exact QH h1 (QH (Va i o) a9)
 have b6:=hR.len;have b1:=Va i o;rw[<- h0];refine AC ?_
 refine D9 ⟨84,[(2,.pv (gC g)),(3,.pv (pC p)),(4,.pt 32 0 0),(7,.pt 40 0 0),(8,AA (Az acc)),(9,AA o),(10,.I i),(34,.B (decide (i<o.length)))],
   [(32,some ⟨3,[[.nilS,.nilS,.nilS]],0⟩),(40,some ⟨3,[[.rs 41 0 acc.length,.nilS,.rs 42 0 R.length]],0⟩),(41,some ⟨1,AD acc,0⟩),(42,some ⟨2,Dv R,0⟩)],600⟩ rfl ?_ ?_
 .simp
  exact Av [(32,32),(40,40),(41,41),(42,42)] []
 refine AE _ rfl (λ h2=>?_) λ h2=>?_
 .simp at h2
  have ad:=w6 (x:=(i:Int)+1);obtain⟨k,hk⟩:=AG (o[i]);have hj:=hh _ (Qj h2);rw[<- hk] at hj;have a1:o.take (i+1)=o.take i++[k]:=by rw[Qm h2,hk]
  have h4:=L1 (Az acc) k (by have:=KR acc;omega)
  rw[iF hj.1 (by omega)] at h4
  have ag:∀ x∈acc++[k],0<=x/\x<g.size:=λ x hx=>by
   rcases Qq.1 hx with h | h
   .exact a0 x h
   .rw [QC] at h;subst h;exact hj
  have h5:=hz _ ag;have a2:=KR (acc++[k]);obtain⟨f,hf,h9⟩:=RP g p (Az (acc++[k])) hg hp h5 hs a2;have ai:=NH hg hp (Kw h5) hs a2;obtain⟨side,⟨hc,hd,a3,he⟩,h6⟩:=bY _ _ ai;have h7:=Fo (g:=g) (p:=p) (o:=o.take i) (k:=k);have hq:=JZ (g:=g) (p:=p) (o:=o.take i) (k:=k);rw[<- h0,<- a1] at h7 hq;have hu:=hR.yes (k:=k);have a4:=λ h=>hR.no (k:=k) (side:=side) h;rw[<- h0,<- a1] at hu a4;obtain⟨J,hJ⟩:=AG (Az (acc++[k]));rw[<- hJ] at h4 h9 h6 hc hd he h7 hq hu hf;refine AJ ?_
  refine FO (ι:=X5) (λ s=>⟨84,[(2,.pv (gC g)),(3,.pv (pC p)),(4,.pt 32 0 0),(7,.pt 40 0 0),(8,AA (Az (AR g p (o.take (i+1))))),(9,AA o),(10,.I i)],
   [(32,some ⟨3,[[.nilS,.nilS,.nilS]],0⟩),(40,some ⟨3,[[.rs 41 0 (AR g p (o.take (i+1))).length,.nilS,.rs 42 0 s.R.length]],0⟩),(41,some ⟨1,AD (AR g p (o.take (i+1))),0⟩),(42,some ⟨2,Dv s.R,0⟩)],3000⟩)
   (λ s=>F1 g p (o.take (i+1)) s.R) ?_ λ s hs'=>?_
  .refine AL ?_
   refine D9 ⟨84,[(2,.pv (gC g)),(3,.pv (pC p)),(4,.pt 32 0 0),(7,.pt 40 0 0),(8,AA (Az acc)),(9,AA o),(10,.I i),(11,.I k)],
    [(32,some ⟨3,[[.nilS,.nilS,.nilS]],0⟩),(40,some ⟨3,[[.rs 41 0 acc.length,.nilS,.rs 42 0 R.length]],0⟩),(41,some ⟨1,AD acc,0⟩),(42,some ⟨2,Dv R,0⟩)],700⟩ rfl ?_ ?_
   .simp [h2,<- hk]
    exact Av [(32,32),(40,40),(41,41),(42,42)] []
   refine KF ⟨84,[(2,.pv (gC g)),(3,.pv (pC p)),(4,.pt 32 0 0),(7,.pt 40 0 0),(8,AA (Az acc)),(9,AA o),(10,.I i),(11,.I k),(12,.pv (nC ⟨BD g,Ar g p J⟩)),(14,.B (decide (BZ g p J)))],
    [(32,some ⟨3,[[.nilS,.nilS,.nilS]],0⟩),(40,some ⟨3,[[.rs 41 0 acc.length,.nilS,.rs 42 0 R.length]],0⟩),(41,some ⟨1,AD acc,0⟩),(42,some ⟨2,Dv R,0⟩)],900⟩ rfl ?_ ?_
   .simp
    refine CV h4 ?_;simp;refine XB (j:=732) (by decide) rfl h9 (by simp[AB,Cz]) ?_
    simp;exact⟨rfl,AF [(32,32),(40,40),(41,41),(42,42)] [780,732,740] (by simp[Cz]) (by simp[AB])⟩
   refine AC ?_
   refine D9 ⟨84,[(2,.pv (gC g)),(3,.pv (pC p)),(4,.pt 32 0 0),(7,.pt 40 0 0),(8,AA (Az acc)),(9,AA o),(10,.I i),(11,.I k),(12,.pv (nC ⟨BD g,Ar g p J⟩)),(51,.B (decide (BZ g p J)))],
    [(32,some ⟨3,[[.nilS,.nilS,.nilS]],0⟩),(40,some ⟨3,[[.rs 41 0 acc.length,.nilS,.rs 42 0 R.length]],0⟩),(41,some ⟨1,AD acc,0⟩),(42,some ⟨2,Dv R,0⟩)],1000⟩ rfl ?_ ?_
   .simp
    exact Av [(32,32),(40,40),(41,41),(42,42)] []
   refine AE _ rfl (λ hv=>?_) λ hv=>?_
   .have h3:BZ g p J:=of_decide_eq_true hv
    have hy:=h7 h3;have a5:=hu h3
    refine D9 ⟨84,[(2,.pv (gC g)),(3,.pv (pC p)),(4,.pt 32 0 0),(7,.pt 40 0 0),(8,AA J),(9,AA o),(10,.I i)],
     [(32,some ⟨3,[[.nilS,.nilS,.nilS]],0⟩),(40,some ⟨3,[[.rs 41 0 (acc++[k]).length,.nilS,.rs 42 0 R.length]],0⟩),(41,some ⟨1,AD (acc++[k]),0⟩),(42,some ⟨2,Dv R,0⟩)],1200⟩ rfl ?_ ?_
    .simp [Cz]
     refine⟨by omega,by omega,?_⟩
     refine CV h4 ?_;simp[Ay];exact AF [(32,32),(40,40),(1032,41),(42,42)] [1056] (by simp[AB,Cz]) (by simp[AB])
    exact Aa (hit ⟨⟨i,R⟩,a5,AF [(32,32),(40,40),(41,41),(42,42)] [] (by simp[hy,<- hJ]) (by simp[hy,AB])⟩)
   .have h3:¬ BZ g p J:=of_decide_eq_false hv
    have a6:=hq h3;have a7:=a4 ⟨by rw[<- hJ];exact h3,by rw[<- hJ];exact hc,by rw[<- hJ];exact hd,a3,by rw[<- hJ];exact he⟩
    refine AJ ?_
    refine D9 ⟨84,[(2,.pv (gC g)),(3,.pv (pC p)),(4,.pt 32 0 0),(7,.pt 40 0 0),(8,AA (Az acc)),(9,AA o),(10,.I i),(11,.I k),(15,AA side)],
     [(32,some ⟨3,[[.nilS,.nilS,.nilS]],0⟩),(40,some ⟨3,[[.rs 41 0 acc.length,.nilS,.rs 42 0 R.length]],0⟩),(41,some ⟨1,AD acc,0⟩),(42,some ⟨2,Dv R,0⟩)],1200⟩ rfl ?_ ?_
    .simp
     refine CV h6 ?_;simp;exact AF [(32,32),(40,40),(41,41),(42,42)] [1008] (by simp[AB,Cz]) (by simp[AB])
    have am:∀ h:Int × List Int->List AV,List.take R.length (List.map h R)=List.map h R:=λ h=>Qb (by simp)
    refine Ac rfl ?_;simp[am,Ay];exact⟨by omega,by omega,⟨i,R++[(k,side)]⟩,a7,AF [(32,32),(40,40),(41,41),(1248,42)] [] (by simp[a6]) (by simp[a6,AB])⟩
  refine AX ?_;exact⟨⟨i+1,s.R⟩,⟨h2,hs'⟩,Nat.sub_lt_sub_left h2 (Nat.lt_succ_self i),AF [(32,32),(40,40),(41,41),(42,42)] [] (by simp[ad]) (by simp[AB])⟩
 simp at h2;obtain rfl:i=o.length:=by omega
 rw[QO] at h0 hR;obtain⟨f,hf,h9⟩:=RP g p (Az acc) hg hp (hz _ a0) hs (KR acc);refine Aa (hit ?_);have an:=hf.ok.fit.len;have au:∀ h:Int->List AV,List.take (Ar g p (Az acc)).length (List.map h f)=List.map h f:=λ h=>Qb (by simp;omega)
 refine D9 ⟨84,[(4,.pt 32 0 0),(7,.pt 40 0 0)],
   [(32,some ⟨3,[[.nilS,.nilS,.nilS]],0⟩),(40,some ⟨3,[[AA acc,AA f,.vs 2 false (Dv R)]],0⟩)],1200⟩ rfl ?_ ?_
 .simp
  refine CV h9 ?_;simp[Ay];exact AF [(32,32),(40,40)] [41,42,624] (by simp) (by simp[AB,Cz,au,an])
 apply ax [4,5] [(32,32)] [] 1400
 .simp
  rfl
 exact BG (F4.mk (.inr rfl) (R,f) ⟨hR,by rw[<- h0];exact hf⟩ (AS.out [] [] rfl (by simp) (by simp) (by simp[<- h0]) (by simp)))
theorem Ca.mem {A:List Ed}:∀ {l:List Nat} {u w:Int},Ca A u l w -> ∀ j∈l,j<A.length
 | i::l,u,w,hw,j,hj=>by
   rcases Qs.1 hj with rfl | hj
   .exact hw.1
   .exact Ca.mem hw.2.2 j hj
theorem Hc.few {N:Nat} {A:List Ed} {f g:List Int} {l:List Nat} {w:Int} (hn:EK N A) (h:Hc A f g l w):l.length+1<=N:=by
 have:=Gw (b:=(List.range N).map λ i:Nat=>(i:Int)) h.met λ x hx=>by
  rcases Qs.1 hx with rfl | hx
  .have:=hn.two
   exact Qi.2 ⟨0,Qy.2 (by omega),rfl⟩
  .obtain ⟨j,hj,rfl⟩:=Qi.1 hx
   have ha:=hn.arc _ (H5 (h.way.mem j hj));exact Qi.2 ⟨(AP A j).t.toNat,Qy.2 (by omega),by omega⟩
 simpa [CA] using this
section
variable {P:Program} {np id:Nat} {h:Nat->Option AQ} {K:AV->List Nat->List (Nat × Option AQ)->Prop} {f:FuncId} {first aC args aB:List AV} {res:AV}
end
def VP (g:Gr) (p:Al) (ks:List Int) (W:List (List Nat)):Prop :=
 ∃ f g',Js g p (Az ks) f/\J1 (BD g) (Ar g p (Az ks)) f g' W/\(W.length:Int)=CC (BD g) (Ar g p (Az ks)) /\ ∀ w∈W,w.length<=130
def Gc (o acc:List Int) (i:Nat):List Int:=(o.take i).filter λ k=>decide (k∈acc)
theorem dU {o acc:List Int} {i:Nat} (h:i<o.length):Gc o acc (i+1)=Gc o acc i++if o[i]∈acc then [o[i]] else []:=by
 unfold Gc;rw[Qm h,Ug];simp only[Vk,List.filter_nil,Qd]
structure EF (g:Gr) (p:Al) (o:List Int) (key:Int) (x:GJ):Prop where
 key_:x.key=key
 bef:∃ i,∃ h:i<o.length,o[i]=key/\x.before=Gc o (AR g p o) i
 yes:key∈AR g p o->x.acc=true/\x.side=[] /\ ∃ W,VP g p (x.before++[key]) W/\x.paths=W.map (DY (Ar g p (Az (x.before++[key]))))
 no:key∉AR g p o->x.acc=false/\x.paths=[] /\ ∃ R,F1 g p o R/\(key,x.side)∈R
variable {key:Int} {o:List Int} {x:GJ}
variable {g:Gr} {p:Al}
theorem Ol:∀ (b a:List Int),∃ l,AR g p (a++b)=AR g p a++l /\ ∀ x∈l,x∈b
 | [],a=>⟨[],by simp,by simp⟩
 | x::b,a=>by
   obtain⟨l,hl,hm⟩:=Ol b (a++[x]);have e:a++x::b=a++[x]++b:=by simp
   rw[e,hl];rcases RS (g:=g) (p:=p) a x with h | h
   .exact ⟨l,by rw[h],λ y hy=>Ql _ (hm y hy)⟩
   .refine ⟨[x]++l,by rw[h,Qu],λ y hy=>?_⟩
    rcases Qq.1 hy with h | h
    .rw [QC.1 h];exact Qn
    .exact Ql _ (hm y h)
theorem OL (hn:o.Nodup) {i:Nat} (h:i<o.length):o[i]∈AR g p o↔BZ g p (Az (AR g p (o.take i)++[o[i]])):=by
 have hs:o.take (i+1)=o.take i++[o[i]]:=Qm h;obtain⟨l,hl,hm⟩:=Ol (g:=g) (p:=p) (o.drop (i+1)) (o.take (i+1));rw[UG] at hl
 have h0:o[i]∉o.take i:=λ hx=>by
  obtain⟨j,hj,e⟩:=List.mem_take_iff_getElem.1 hx;have:=(U0 hn).1 e;omega
 have h2:o[i]∉o.drop (i+1):=λ hx=>by
  obtain⟨j,hj,e⟩:=List.mem_drop_iff_getElem.1 hx;have:=(U0 hn).1 e;omega
 constructor
 .intro hx
  by_cases hc:BZ g p (Az (AR g p (o.take i)++[o[i]]))
  .exact hc
  .rw [hl,hs,JZ hc] at hx
   rcases Qq.1 hx with h1 | h1
   .exact absurd (Im h1) h0
   .exact absurd (hm _ h1) h2
 .intro hc
  rw[hl,hs,Fo hc];exact Q0 _ (UH _ (QC.2 rfl))
theorem Sw {o:List Int} (hn:o.Nodup):∀ i,i<=o.length->Gc o (AR g p o) i=AR g p (o.take i)
 | 0,_=>by simp[Gc,Lr]
 | i+1,h=>by
   have hi:i<o.length:=h;rw[dU hi,Sw hn i (by omega),Qm hi]
   by_cases hc:BZ g p (Az (AR g p (o.take i)++[o[i]]))
   .rw [if_pos ((OL hn hi).2 hc),Fo hc]
   .rw [if_neg (λ h=>hc ((OL hn hi).1 h)),JZ hc,QW]
theorem NP {l:List Int} (h:l.Pairwise (· < ·)):l.Nodup:=h.imp λ h=>by omega
theorem Pw {a:List Int} (hn:a.Nodup) (hr:∀ k∈a,0<=k/\k<64):a.Perm (Az a):=by
 rw[<- P3 hn hr];exact(GB a).symm
theorem zo4 {a:List Int} (hn:a.Nodup) (hr:∀ k∈a,0<=k/\k<64):(Az a).length=a.length:=(Pw hn hr).length_eq.symm
structure NG (g:Gr) (p:Al) (key:Int) (before:List Int):Prop where
 mem:key∈AY (AM g p.lv) p.seeds
 bef:Ij (AY (AM g p.lv) p.seeds) before key
 nodup:(before++[key]).Nodup
 range:∀ k∈before++[key],0<=k/\k<g.size
 serve:key∈AR g p (AY (AM g p.lv) p.seeds)↔BZ g p (Az (before++[key]))
theorem Y4 (hn:o.Nodup) {i:Nat} (h:i<o.length):H2 o o[i]=o.take i:=by
 unfold H2;rw[List.takeWhile_eq_take_findIdx_not]
 congr 1
 rw[List.findIdx_eq h];refine⟨by simp,λ j hj=>?_⟩
 have:o[j]≠o[i]:=λ e=>by have:=(U0 hn).1 e;omega
 simp[this]
theorem EF.at_ (h:EF g p (AY (AM g p.lv) p.seeds) key x) (hg:AI g):x.key=key/\NG g p key x.before /\ ∃ i,∃ hi:i<(AY (AM g p.lv) p.seeds).length,(AY (AM g p.lv) p.seeds)[i]=key/\x.before=AR g p ((AY (AM g p.lv) p.seeds).take i):=by
 have hn:=Gj (AM g p.lv) p.seeds;have hr:∀ k∈AY (AM g p.lv) p.seeds,0<=k/\k<g.size:=λ k hk=>by have h:=IA hk;exact h
 obtain⟨o,ho⟩:=AG (AY (AM g p.lv) p.seeds);rw[<- ho] at h hn hr ⊢;obtain⟨i,hi,hk,hb⟩:=h.bef;rw[Sw hn i (by omega)] at hb
 refine⟨h.key_,?_,i,hi,hk,hb⟩
 have h0:x.before.Sublist (H2 o key):=by
  rw[hb,<- hk,Y4 hn hi];exact IC _ _ rfl
 refine⟨by rw[<- ho,<- hk];exact Qj hi,by rw[<- ho];exact h0,Ij.nodup (order:=o) h0 hn,λ k h2=>?_,?_⟩
 .rcases Qq.1 h2 with h1 | h1
  .refine hr k ?_
   rw[hb] at h1;exact QZ (Im h1)
  .rw [QC.1 h1,<- hk];exact hr _ (Qj hi)
 .rw [<- ho,hb,<- hk]
  exact OL hn hi
theorem NG.joined {before:List Int} (h:NG g p key before) (hg:AI g):(Az (before++[key])).Nodup/\(before++[key]).Perm (Az (before++[key]))/\(∀ x∈Az (before++[key]),0<=x/\x<g.size):=by
 have h64:=hg.1.2.1;have hr:∀ k∈before++[key],0<=k/\k<64:=λ k hk=>⟨(h.range k hk).1,by have:=(h.range k hk).2;omega⟩
 exact⟨NP (KL _),Pw h.nodup hr,λ x hx=>h.range x (JD.1 hx).1⟩
theorem Zb {before:List Int} {W:List (List Nat)} (hg:AI g) (hp:BT g.size p) (ha:NG g p key before) (hc:BZ g p (Az (before++[key]))) (hW:VP g p (before++[key]) W) :
  Ki g p.lv p.seeds (AY (AM g p.lv) p.seeds) (A1 g p) (W.map (DY (Ar g p (Az (before++[key]))))) (before++[key]):=by
 obtain⟨f,g',h0,ht,hl,_⟩:=hW;obtain⟨j1,j2,j3⟩:=ha.joined hg;refine fE hg hp j1 (λ x hx=>(j3 x hx).1) j2 h0.ok.fit ht.ways (λ i _=>?_) ?_
 .have h1:=ht.used i
  have h2:=ht.bal.nonneg i;omega
 .have:CC (BD g) (Ar g p (Az (before++[key])))=(Az (before++[key])).length:=hc
  omega
theorem EF.yes_serves (h:EF g p (AY (AM g p.lv) p.seeds) key x) (hg:AI g) (hp:BT g.size p) (hk:key∈AR g p (AY (AM g p.lv) p.seeds)) :
  Ki g p.lv p.seeds (AY (AM g p.lv) p.seeds) (A1 g p) x.paths (x.before++[key]):=by
 obtain⟨_,ha,_⟩:=h.at_ hg;obtain⟨_,_,W,hW,h0⟩:=h.yes hk;rw[h0];exact Zb hg hp ha (ha.serve.1 hk) hW
theorem EF.no_proves (h:EF g p (AY (AM g p.lv) p.seeds) key x) (hg:AI g) (hp:BT g.size p) (hk:key∉AR g p (AY (AM g p.lv) p.seeds)) :
  NA ⟨2+2*g.size,D3 g p (A1 g p) (Az (x.before++[key]))⟩ x.side x.before.length:=by
 obtain⟨_,ha,i,hi,h4,h5⟩:=h.at_ hg;obtain⟨_,_,R,hR,hs⟩:=h.no hk;obtain⟨i',hi',h0,hn⟩:=hR.right _ hs;simp only at h0 hn;have h6:i'=i:=(U0 (Gj (AM g p.lv) p.seeds)).1 (h0.trans h4.symm);subst h6;rw[<- h5] at hn;obtain⟨j1,j2,j3⟩:=ha.joined hg;have h7:=Lc hg hp j3;have h9:CC (BD g) (Ar g p (Az (x.before++[key])))≠(Az (x.before++[key])).length:=hn.no;have h1:=j2.length_eq;rw[Qg,Q3] at h1;have h2:=hn.cut;have h3:=hn.ok;rw[MU hg] at h3;exact⟨h3,by rw[h2];omega⟩
theorem EF.checked (h:EF g p (AY (AM g p.lv) p.seeds) key x) (hg:AI g) (hp:BT g.size p):OC g p x=0:=by
 rw[gO hg.1.2.1];obtain⟨hk,ha,_⟩:=h.at_ hg;unfold zvR;simp only;rw[hk,if_neg (by simpa using ha.mem)]
 by_cases h0:key∈AR g p (AY (AM g p.lv) p.seeds)
 .obtain ⟨h1,h2,_⟩:=h.yes h0
  rw[if_neg (by rw[h1,h2];simpa using ha.bef),if_pos h1,if_pos (h.yes_serves hg hp h0)]
 .obtain ⟨h1,h2,_⟩:=h.no h0
  rw[if_neg (by rw[h1,h2];simpa using ha.bef),if_neg (by rw[h1];simp),if_pos (h.no_proves hg hp h0)]
theorem O9 (l:List Int) (hl:l.length<=1099511627776):AcP 122 [AA l] [] (.rs 0 0 l.length) [some ⟨1,AD (Ew l),0⟩]:=by
 refine fU.s.ai ?_;have hs:AcP 162 [IT l] [] (.rs 0 0 l.length) [some ⟨1,AD (Ew l),0⟩]:=gZ l hl;refine rs [0] [] [] ?_;apply ax [2] [(40,50)] [] 100
 .simp
  refine Aj (aW l) ?_;simp;refine E2 hs (by simp[conv]) ?_
  simp;rfl
 exact B7 [50] []
theorem aM (g:Gr) (p:Al) (hg:AI g) (hN:g.size<20) (hs:p.seeds.length<=1099511627776):AcP 70 [eG g,eP p] [] (.rs 0 0 (AY (AM g p.lv) p.seeds).length) [some ⟨1,AD (AY (AM g p.lv) p.seeds),0⟩]:=by
 refine jR.s.ai ?_;have h2:=hg.edges_le;have h3:=hg.gone_le;have h4:=hg.1.2.1;have h1:=Kp g p.lv (by omega) (by omega)
 have h0:=Oe (g:=AM g p.lv) (S:=p.seeds) (hg.level p.lv) hN hs;obtain⟨o,ho⟩:=AG (AY (AM g p.lv) p.seeds);rw[<- ho] at h0 ⊢;refine rs [2,3] [] [16,24] ?_;apply ay [4] [(88,50)] [] 200
 .simp
  refine Aj h1 ?_;simp;refine CV h0 ?_;simp;exact⟨rfl,rfl⟩
 exact B7 [50] []
theorem Ya (l:List Int) (x:Int) (hl:l.length<=1000000):AcP 71 [AA l,.I x] [] (.rs 0 0 (l.length+1)) [some ⟨1,AD (l++[x]),0⟩]:=by
 refine Y5.s.ai ?_;refine rs [0,1] [] [] ?_;refine arc ⟨14,[(4,.rs 50 0 (l.length+1))],[(50,some ⟨1,AD (l++[x]),0⟩)],200⟩ ?_ ?_
 .have h0:∀ {id:Nat} {h:Nat->Option AQ} {K:AV->List Nat->List (Nat × Option AQ)->Prop},K (.vs 1 true (l.map λ n=>[AV.I n])) [] []->aK Tryz.prog 0 id (.slc 1 false true true) [AA l,.I (l.length:Nat),.I (l.length:Nat)] h K:=λ hK=>by
   rw[GA];refine⟨0,l.length,l.length,l.length,by simp,Qh _,rfl,by simp,by simp,by simp,Qk _,λ _=>rfl,rfl,?_⟩
   rw[List.drop_zero,Nat.sub_zero,Qb (by simp)]
   exact hK
  simp;refine h0 ?_;simp;exact⟨by omega,by omega,Av [(88,50)] []⟩
 exact B7 [50] []
theorem T6 (g:Gr) (p:Al) (ks:List Int) (hg:AI g) (hp:BT g.size p) (hk:ks.Nodup) (hr:∀ k∈ks,0<=k/\k<g.size) (hs:p.seeds.length<=64):AcP 72 [eG g,eP p,AA ks] [] (eN ⟨BD g,Ar g p (Az ks)⟩) []:=by
 refine YU.s.ai ?_;have h5:=hg.1.2.1;have h2:∀ k∈ks,0<=k/\k<64:=λ k h=>by have:=hr k h;omega
 have h3:=zo4 hk h2;have h4:=KR ks;have h0:=O9 ks (by omega)
 rw[P3 hk h2,<- h3] at h0;have h1:=n7 g p (Az ks) hg hp (Ka hr) hs h4;rw[<- MU hg,show D3 g p (A1 g p) (Az ks)=Ar g p (Az ks) from rfl] at h1
 obtain⟨J,hJ⟩:=AG (Az ks);obtain⟨A,hA⟩:=AG (Ar g p (Az ks));rw[<- hA] at h1 ⊢;rw[<- hJ] at h1 h0;refine rs [2,3,4,6] [32] [16,24] ?_;apply ay [6,7] [(32,32)] [104] 300
 .simp
  refine CV h0 ?_;simp;refine uN [64] (by simp) h1 (by simp[AB,Cz]) ?_
  simp;exact⟨rfl,rfl⟩
 apply ax [6] [(32,32)] [] 400
 .simp [Ay]
  rfl
 exact B7 [] [32]
def uH (N:Nat) (A:List Ed) (f:List Int):Prop:=BN N A f /\ ∀ f',BN N A f'->AZ A f'<=AZ A f
theorem nK (N:Nat) (A:List Ed) (k:Int) (hn:Cu ⟨N,A⟩) :
  ∃ f:List Int,uH N A f/\AcP 73 [eN ⟨N,A⟩,.I k] [] (.tup [.rs 0 0 A.length,.B (decide (AZ A f=k))]) [some ⟨1,AD f,0⟩]:=by
 obtain⟨f,hf,h2⟩:=znY N A hn;refine⟨f,hf,?_⟩;have h3:=hf.1.fit.len;have h4:=hn.2.2.1;simp only at h4;have h0:=ziQ (f:=f) hn (by omega)
 rw[if_pos hf.1] at h0;have h1:∀ g:Int->List AV,List.take A.length (List.map g f)=List.map g f:=λ g=>Qb (by simp;omega)
 refine qA.s.ai ?_;refine rs [1,2] [] [16] ?_;apply ax [1,2,6] [(48,50)] [] 100
 .simp
  refine CV h2 ?_;simp;rfl
 refine arc ⟨19,[(4,.rs 50 0 A.length),(5,.B (decide (AZ A f=k)))],[(50,some ⟨1,AD f,0⟩)],200⟩ ?_ ?_
 .simp
  refine Hk [50] h0 (by simp[AB,h1,h3]) (.sc _) ?_
  simp;exact AF [(50,50)] [] (by simp<;>exact Aw (by rw[Qp];simp)) (by simp[AB])
 exact B7 [50] []
section
variable {P:Program} {np id:Nat} {h:Nat->Option AQ} {K:AV->List Nat->List (Nat × Option AQ)->Prop} {s:Nat}
theorem bT (hK:K .nilS [] []):aK P np id (.slc s false true false) [.nilS,.I 0] h K:=by
 rw[GA];exact⟨0,0,0,0,rfl,Qk _,by simp,λ _=>rfl,(λ h=>by cases h),(λ h=>by cases h),Qk _,(λ h=>by cases h),hK⟩
end
theorem gF:AcP 200 [.nilS,.I 0] [] .nilS []:=by
 refine T7.s.ai ?_;refine rs [0,1] [] [] ?_;refine AC (ar [0,1,6] [] [] 100 ?_);refine AE _ rfl (λ h=>by cases h) λ _=>?_
 refine AJ (AC ?_);have h0:IntKind.i64.wrap 0=0:=w6;apply ax [0,1] [] [] 200
 .simp [h0]
  rfl
 apply ax [0,16] [] [] 300
 .simp [h0]
  rfl
 refine AE _ rfl (λ h=>by cases h) λ _=>?_
 refine AJ (rs [4] [] [] ?_);exact Bl
theorem vB (n:Nat) (h0:0<n) (hl:n<=1000000):AcP 200 [.nilS,.I n] [] (.rs 0 0 0) [some ⟨1,List.replicate n [.I 0],0⟩]:=by
 refine T7.s.ai ?_;refine rs [0,1] [] [] ?_;refine AC (arc ⟨27,[(0,.nilS),(1,.I n),(6,.B false)],[],100⟩ ?_ ?_)
 .simp
  exact AF [] [] (by simp<;>exact Aw (by rw[Qa];omega))
 refine AE _ rfl (λ h=>by cases h) λ _=>?_
 refine AJ ?_;have h1:IntKind.i64.wrap 0=0:=w6;have hw:=w6 (x:=(n:Int));refine Ao ⟨27,[(0,.rs 50 0 0)],[(50,some ⟨1,List.replicate n [.I 0],0⟩)],400⟩ ?_ ?_
 .apply ax [0,1] [] [] 200
  .simp [hw,h1]
   rfl
  apply ax [0,1,16] [] [] 300
  .simp [h0]
   rfl
  refine AE _ rfl (λ _=>?_) λ h=>by cases h
  refine Ac rfl ?_;simp;refine bT ?_;simp[h0];refine⟨by omega,by omega,pT 0 rfl rfl (Qh _) ?_⟩
  exact Bk [(340,50)] []
 refine ar [4] [(50,50)] [] 500 ?_;exact B7 [50] []
theorem SL {P:List (List Int)} {i:Nat} (h:i<P.length):(P.take (i+1)).flatten=(P.take i).flatten++P[i]:=by
 rw[Qm h,List.flatten_append];simp
theorem oQ {P:List (List Int)} (i:Nat):(P.take i).flatten.length<=P.flatten.length:=by
 have h:P.flatten=(P.take i).flatten++(P.drop i).flatten:=by rw[<- List.flatten_append,UG]
 rw[h,Qg];omega
theorem ZD (P:List (List Int)) (hP:P≠[]) (hl:P.flatten.length<=1000000) (hpl:P.length<=1000000) :
  AcP 173 [FW P] [] (.rs 0 0 P.flatten.length) [some ⟨1,AD P.flatten,0⟩]:=by
 refine fX.s.ai ?_;have h6:=λ i=>oQ (P:=P) i;refine rs [0] [] [] ?_;refine ar [0,3] [] [] 50 ?_;refine AC (ar [0,3,9,10,11] [] [] 100 ?_);refine AL ?_
 refine Ae (ι:=Nat) (λ i=>⟨36,[(0,FW P),(3,.I ((P.take i).flatten.length:Nat)),(9,FW P),(10,.I P.length),(11,.I i)],[],100⟩) (λ i=>i<=P.length) (λ i=>P.length - i) 0 (Qh _)
  (BF [] []) ?_
 intro i hi;refine Dw ⟨36,[(0,FW P),(3,.I ((P.take i).flatten.length:Nat)),(9,FW P),(10,.I P.length),(11,.I i),(12,.B (decide (i<P.length)))],[],200⟩ [] [] ?_;refine AC (AE _ rfl (λ h=>AJ ?_) λ h=>Aa (hit ?_))
 .rw [Qd] at h
  have h4:=wq (k:=i);have h1:=SL h;have h2:=h6 (i+1);rw[h1] at h2;obtain⟨w,hw⟩:=AG (P[i]);rw[<- hw] at h1 h2;obtain⟨F,hF⟩:=AG ((P.take i).flatten);rw[<- hF] at h1 h2 ⊢;rw[Qg] at h2;have hd:(P.map λ w=>[AA w])[i]? = some [AA w]:=by rw[QA,Qc h,<- hw];rfl
  have ha:IntKind.i64.wrap ((F.length:Int)+(w.length:Int))=((F.length+w.length:Nat):Int):=by rw[w6];omega
  refine Ao ⟨36,[(0,FW P),(3,.I ((F.length+w.length:Nat):Int)),(9,FW P),(10,.I P.length),(11,.I i)],[],400⟩ ?_ ?_
  .refine AL ?_
   apply ax [0,3,5,9,10,11] [] [] 260
   .simp [h,<- hw]
    rfl
   refine arc ⟨36,[(0,FW P),(3,.I ((F.length+w.length:Nat):Int)),(9,FW P),(10,.I P.length),(11,.I i)],[],300⟩ ?_ ?_
   .simp [ha]
    exact BF [] []
   refine arc ⟨36,[(0,FW P),(3,.I ((F.length+w.length:Nat):Int)),(9,FW P),(10,.I P.length),(11,.I i),(20,.B false)],[],340⟩ ?_ ?_
   .simp
    exact AF [] [] (by simp[AB]<;>exact Aw (by simp;omega))
   refine AE _ rfl (λ h=>by cases h) λ _=>AJ ?_
   exact BF [] []
  refine Ac rfl ?_;simp[h4,-List.length_flatten,-List.map_flatten];refine⟨i+1,by omega,by omega,?_⟩
  rw[h1];exact BF [] []
 rw[Qa] at h;obtain rfl:i=P.length:=by omega
 rw[QO];obtain⟨n,hn⟩:=AG (P.flatten.length);rw[<- hn] at hl ⊢;refine arc ⟨36,[(0,FW P),(6,.rs 40 0 0)],[(40,some ⟨1,List.replicate n [.I 0],0⟩)],500⟩ ?_ ?_
 .rcases Un n with h0 | h0
  .subst h0
   simp;refine Aj gF ?_;simp;exact Le.lst [] [] [(40,1)] rfl (by simp) (by simp) (by simp) (by simp) (by simp) (by simp) (by simp) (by simp[Up,AB]) (by simp)
  .simp
   refine CV (vB n h0 hl) ?_;simp;exact BF [(208,40)] []
 obtain⟨tl,h5⟩:∃ tl:Nat->List (List AV),tl=λ i=>if i=0 then List.replicate n [.I 0] else []:=⟨_,rfl⟩
 have hb:tl 0=List.replicate n [.I 0]:=by rw[h5];rfl
 have h7:∀ i,tl (i+1)=[]:=λ i=>by rw[h5];rfl
 have h3:∀ i ρ sn h m,(tl i).map (List.map (conv ρ sn h (m+1)))=tl i:=λ i ρ sn h m=>by rw[h5];simp only;split<;>simp
 refine AC (ar [6,25,26,27] [(40,40)] [] 600 ?_);refine AL ?_
 refine Ae (ι:=Nat) (λ i=>⟨36,[(6,.rs 40 0 (P.take i).flatten.length),(25,FW P),(26,.I P.length),(27,.I i)],[(40,some ⟨1,AD (P.take i).flatten++tl i,0⟩)],600⟩) (λ i=>i<=P.length) (λ i=>P.length - i) 0 (Qh _)
  (AF [(40,40)] [] (by simp[AB]) (by simp[hb])) ?_
 intro i hi;have h3:=h3 i;refine arc ⟨36,[(6,.rs 40 0 (P.take i).flatten.length),(25,FW P),(26,.I P.length),(27,.I i),(28,.B (decide (i<P.length)))],[(40,some ⟨1,AD (P.take i).flatten++tl i,0⟩)],700⟩ ?_ ?_
 .simp
  exact AF [(40,40)] [] (by simp[AB]) (by simp[AB,h3])
 refine AC (AE _ rfl (λ h=>AJ ?_) λ h=>Aa (hit ?_))
 .rw [Qd] at h
  have h4:=wq (k:=i);have h1:=SL h;have h2:=h6 (i+1);rw[h1] at h2;obtain⟨w,hw⟩:=AG (P[i]);rw[<- hw] at h1 h2;obtain⟨F,hF⟩:=AG ((P.take i).flatten);rw[<- hF] at h1 h2 ⊢;rw[Qg] at h2;have hc:∀ X:List (List AV),(AD F++X).take F.length=AD F:=λ X=>List.take_left' (by simp)
  refine Ao ⟨36,[(6,.rs 40 0 (F.length+w.length)),(25,FW P),(26,.I P.length),(27,.I i)],[(40,some ⟨1,AD (F++w),0⟩)],900⟩ ?_ ?_
  .refine AL (arc ⟨36,[(6,.rs 40 0 F.length),(8,AA w),(25,FW P),(26,.I P.length),(27,.I i)],[(40,some ⟨1,AD F++tl i,0⟩)],800⟩ ?_ ?_)
   .simp [h,<- hw]
    exact AF [(40,40)] [] (by simp[AB]) (by simp[AB,h3])
   refine Ac rfl ?_;simp[hc];refine⟨by omega,by omega,?_⟩
   exact BF [(816,40)] []
  refine Ac rfl ?_;simp[h4,-List.length_flatten,-List.map_flatten];refine⟨i+1,by omega,by omega,?_⟩
  rw[h1];exact AF [(40,40)] [] (by simp[AB]) (by simp[AB,h7])
 rw[Qa] at h;obtain rfl:i=P.length:=by omega
 have h9:tl P.length=[]:=by
  obtain⟨m,hm⟩:∃ m,P.length=m+1:=⟨P.length - 1,by have:=Uy.2 hP;omega⟩
  rw[hm,h7]
 rw[QO,h9,QW,<- hn];refine ar [2] [(40,40)] [] 1000 ?_;exact B7 [40] []
def KS (l:List Ed) (k:Int):Nat:=(A7 l k).length+(CK l k).length - (Bb l k).length
theorem ziI (g:Gr) (k:Int) (hl:g.edges.length<=100000):AcP 136 [eG g,.I k] [] (.rs 0 0 (Bb g.edges k).length) [some ⟨1,AD (Bb g.edges k)++List.replicate (KS g.edges k) [.I 0],0⟩]:=by
 refine sM.s.ai ?_;have hf:=lC g.edges k;have hh:=oO g.edges k;obtain⟨O,hO⟩:=AG (Ew (A7 g.edges k));obtain⟨I,hI⟩:=AG (Ew (CK g.edges k));have h4:O.length=(A7 g.edges k).length:=by rw[hO];exact(GB _).length_eq
 have h5:I.length=(CK g.edges k).length:=by rw[hI];exact(GB _).length_eq
 have h6:AcP 81 [eG g,.I k] [] (.rs 0 0 O.length) [some ⟨1,AD O,0⟩]:=by rw[h4,hO];exact Vw g k (by omega)
 have ha:AcP 174 [eG g,.I k] [] (.rs 0 0 I.length) [some ⟨1,AD I,0⟩]:=by rw[h5,hI];exact eY g k (by omega)
 have h2:=ZD [O,I] (by simp) (by simp;omega) (by simp)
 have hb:[O,I].flatten=O++I:=by simp
 rw[hb] at h2;have h1:=O9 (O++I) (by simp;omega)
 have h3:(Ew (O++I)).length=(O++I).length:=(GB _).length_eq;have h0:=jH (Ew (O++I)) (O++I).length h3 (by simp;omega)
 have h7:Bt (Ew (O++I))=Bb g.edges k:=by rw[hO,hI];exact iI g.edges k
 have hz:(O++I).length - (Bb g.edges k).length=KS g.edges k:=by rw[KS,Qg,h4,h5]
 rw[h7,hz] at h0;obtain⟨N,hN⟩:=AG (Bb g.edges k);obtain⟨z,h9⟩:∃ z,z=KS g.edges k:=⟨_,rfl⟩;rw[<- hN,<- h9] at h0;rw[<- hN,<- h9];obtain⟨S,hS⟩:=AG (Ew (O++I));rw[<- hS] at h1 h0 h3;obtain⟨C,hC⟩:=AG (O++I);rw[<- hC] at h1 h0 h3 h2;have hc:∀ f:Int->List AV,(C.map f).take C.length=C.map f:=λ f=>Qb (by simp)
 have hd:∀ f:Int->List AV,(O.map f).take O.length=O.map f:=λ f=>Qb (by simp)
 have he:∀ f:Int->List AV,(I.map f).take I.length=I.map f:=λ f=>Qb (by simp)
 refine ar [1,2] [] [16] 100 ?_;apply ay [4] [(164,50)] [] 200
 .simp
  refine CV h6 ?_;simp;refine CV ha ?_;simp[Dn];refine HY [116,140,148] h2 (by simp[AB,hd,he]) (.rs _ _ _) K4 ?_
  simp;refine HY [156] h1 (by simp[AB,hc]) (.rs _ _ _) K4 ?_
  simp;refine Cq (i:=164) rfl (e':=⟨1,DI S,0⟩) (by simp[AB]) h0 (by simp) (by simp) ?_
  simp;exact⟨rfl,rfl⟩
 exact B7 [50] []
theorem VJ {α:Type} {a b:List α} {n:Nat} (h:a.length=n):(a++b).take n=a:=List.take_left' h
theorem qN (l:List Ed) (salt:ByteArray) (k:Int):(C5 l salt k).length=(Bb l k).length:=by simp[C5]
theorem l9 (g:Gr) (salt:ByteArray) (k:Int) (hl:g.edges.length<=100000) (hs:salt.size<=100000) (hh:(Bb g.edges k).length<=12) :
  AcP 199 [eG g,sB salt,.I k] [] (.rs 0 0 (A0 g.edges salt k).length) [some ⟨1,AD (A0 g.edges salt k),0⟩]:=by
 refine wQ.s.ai ?_;have h9:=ziI g k hl;have h4:=qN g.edges salt k;have hk:∀ i (h:i<(Bb g.edges k).length),(C5 g.edges salt k)[i]'(by rw[h4];exact h)=⟨(Bb g.edges k)[i],IQ salt k (Bb g.edges k)[i]⟩:=λ i h=>by simp[C5]
 have he:A0 g.edges salt k=(F9 Cf (C5 g.edges salt k)).map (·.k):=rfl
 obtain⟨z,hz⟩:=AG (KS g.edges k);obtain⟨N,hN⟩:=AG (Bb g.edges k);obtain⟨M,hM⟩:=AG (C5 g.edges salt k);rw[<- hz] at h9;simp only[<- hN] at h9 hh h4 hk;simp only[<- hM] at h4 hk he;obtain⟨n,hn⟩:=AG (N.length);simp only[<- hn] at h9 hh h4;have a0:∀ X,List.take n (List.map (λ n=>[AV.I n]) N++X)=List.map (λ n=>[AV.I n]) N:=λ X=>VJ (by simp[hn])
 refine ar [1,2,3] [] [16] 50 ?_;refine ar [1,2,3,7] [] [] 100 ?_;refine AC (arc ⟨49,[(1,sB salt),(2,.I k),(7,.nilS),(15,AA N),(16,.I n),(17,.I (0:Nat))],[],200⟩ ?_ ?_)
 .simp
  refine CV h9 ?_;simp;exact AF [] [116] (by simp[AB,a0,<- hn])
 refine AL ?_
 refine Ae (ι:=Nat) (λ i=>⟨49,[(1,sB salt),(2,.I k),(7,.rs 40 0 i),(15,AA N),(16,.I n),(17,.I i)],[(40,some ⟨2,Cc (M.take i),0⟩)],200⟩) (λ i=>i<=n) (λ i=>n - i) 0 (Qh _)
  (Le.lst [] [] [(40,2)] rfl (by simp) (by simp) (by simp) (by simp) (by simp) (by simp) (by simp) (by simp[Up,AB]) (by simp)) ?_
 intro i hi;refine Dw ⟨49,[(1,sB salt),(2,.I k),(7,.rs 40 0 i),(15,AA N),(16,.I n),(17,.I i),(18,.B (decide (i<n)))],[(40,some ⟨2,Cc (M.take i),0⟩)],300⟩ [(40,40)] [] ?_;refine AC (AE _ rfl (λ h=>AJ ?_) λ h=>Aa (hit ?_))
 .rw [Qd] at h
  have a1:=wq (k:=i);have hq:i<N.length:=by omega
  have hg:=hk i hq;have h5:M.take (i+1)=M.take i++[M[i]]:=by rw[Qm (by omega)]
  rw[hg] at h5;obtain⟨x,hx⟩:=AG (N[i]);rw[<- hx] at h5;have h1:(M.take i).length=i:=by rw[QV];omega
  obtain⟨m,hm⟩:=AG (M.take i);rw[<- hm] at h1 h5 ⊢;have a2:∀ f:BE->List AV,(m.map f).take i=m.map f:=λ f=>Qb (by simp[h1])
  have hu:=kN salt (by omega)
  have h0:(DV salt).length=salt.size+8:=Tx salt;have hf:DV salt≠[]:=λ e=>by rw[e] at h0;simp at h0
  have ha:=Sb (DV salt) k hf (by omega)
  have hv:DV salt++A4 k≠[]:=λ e=>hf (List.append_eq_nil_iff.1 e).1;have an:(A4 k).length=8:=Ic _;have au:(A4 x).length=8:=Ic _;have hb:=Sb (DV salt++A4 k) x hv (by rw[Qg];omega)
  have h2:=nV (DV salt++A4 k++A4 x) (by rw[Qg,Qg];omega)
  have a3:Fm (DV salt++A4 k++A4 x)=IQ salt k x:=rfl;rw[a3] at h2;have h3:(DV salt++A4 k).length=salt.size+16:=by rw[Qg];omega
  have h6:(DV salt++A4 k++A4 x).length=salt.size+24:=by rw[Qg];omega
  rw[h0] at ha;rw[h3] at hb;obtain⟨B1,a4⟩:∃ B,B=DV salt:=⟨_,rfl⟩;obtain⟨B2,a5⟩:∃ B,B=DV salt++A4 k:=⟨_,rfl⟩;obtain⟨B3,a6⟩:∃ B,B=DV salt++A4 k++A4 x:=⟨_,rfl⟩;rw[<- a6] at h2 hb h6;rw[<- a5] at hb ha h3;rw[<- a4] at ha hu h0;have a7:∀ f:Int->List AV,(B1.map f).take (salt.size+8)=B1.map f:=λ f=>Qb (by simp[h0])
  have a8:∀ f:Int->List AV,(B2.map f).take (salt.size+8+8)=B2.map f:=λ f=>Qb (by simp[h3])
  have a9:∀ f:Int->List AV,(B3.map f).take (salt.size+16+8)=B3.map f:=λ f=>Qb (by simp[h6])
  obtain⟨d,hd⟩:=AG (IQ salt k x);rw[<- hd] at h2 h5;refine Ao ⟨49,[(1,sB salt),(2,.I k),(7,.rs 40 0 (i+1)),(15,AA N),(16,.I n),(17,.I i)],[(40,some ⟨2,Cc (m++[⟨x,d⟩]),0⟩)],2000⟩ ?_ ?_
  .refine AL (arc ⟨49,[(1,sB salt),(2,.I k),(7,.rs 40 0 i),(9,.I x),(15,AA N),(16,.I n),(17,.I i)],[(40,some ⟨2,Cc m,0⟩)],400⟩ ?_ ?_)
   .simp [hq,<- hx]
    exact BF [(40,40)] []
   refine Ac rfl ?_;simp;refine CV hu ?_;simp;refine HY [424] ha (by simp[AB,a7,h0]) (.rs _ _ _) Mq ?_
   simp;refine HY [440] hb (by simp[AB,a8,h3]) (.rs _ _ _) Mq ?_
   simp;refine Hk [456] h2 (by simp[AB,a9,h6]) (.sc _) ?_
   simp[E7,Dn,h1];refine⟨by omega,by omega,?_⟩
   exact AF [(488,40)] [] (by simp[AB]) (by simp[AB,h1,a2])
  refine Ac rfl ?_;simp[a1,-List.map_take];refine⟨i+1,by omega,by omega,?_⟩
  rw[h5];exact BF [(40,40)] []
 rw[Qa] at h;obtain rfl:i=n:=by omega
 rw[Qb (by omega)]
 have h7:=sT 213 Cf M i h4 hh λ x _ y _=>Ys x y;have hc:(F9 Cf M).length=i:=by rw[wH,h4]
 rw[he];rw[Qr,hc];obtain⟨S,hS⟩:=AG (F9 Cf M);rw[<- hS] at h7 hc ⊢;have ad:∀ f:BE->List AV,(S.map f).take i=S.map f:=λ f=>Qb (by simp[hc])
 apply ax [7] [(40,40)] [] 2100
 .simp
  refine Cq (i:=40) rfl (e':=⟨2,Cc M,0⟩) (by simp[AB]) h7 (by simp) (by simp) ?_
  simp;rfl
 refine ar [7,10] [(40,40)] [] 2200 ?_;refine AC (arc ⟨49,[(10,.nilS),(36,.vs 2 false (Cc S)),(37,.I i),(38,.I (0:Nat))],[],2300⟩ ?_ ?_)
 .simp
  exact AF [] [40] (by simp[AB,ad,hc])
 refine AL ?_
 refine Ae (ι:=Nat) (λ j=>⟨49,[(10,.rs 41 0 j),(36,.vs 2 false (Cc S)),(37,.I i),(38,.I j)],[(41,some ⟨1,AD ((S.take j).map (·.k)),0⟩)],2300⟩) (λ j=>j<=i) (λ j=>i - j) 0 (Qh _)
  (Le.lst [] [] [(41,1)] rfl (by simp) (by simp) (by simp) (by simp) (by simp) (by simp) (by simp) (by simp[Up,AB]) (by simp)) ?_
 intro j hj;refine Dw ⟨49,[(10,.rs 41 0 j),(36,.vs 2 false (Cc S)),(37,.I i),(38,.I j),(39,.B (decide (j<i)))],[(41,some ⟨1,AD ((S.take j).map (·.k)),0⟩)],2400⟩ [(41,41)] [] ?_
 refine AC (AE _ rfl (λ h=>AJ ?_) λ h=>Aa (hit ?_))
 .rw [Qd] at h
  have ag:=wq (k:=j);have hw:j<S.length:=by omega
  have ho:(S.take (j+1)).map (·.k)=(S.take j).map (·.k)++[S[j].k]:=by rw[Qm hw,QT];rfl
  obtain⟨y,hy⟩:=AG (S[j]);rw[<- hy] at ho;have h0:((S.take j).map (·.k)).length=j:=by rw[Qr,QV];omega
  obtain⟨T,hT⟩:=AG ((S.take j).map (·.k))
  rw[<- hT] at h0 ho ⊢;have am:∀ f:Int->List AV,(T.map f).take j=T.map f:=λ f=>Qb (by simp[h0])
  refine Ao ⟨49,[(10,.rs 41 0 (j+1)),(36,.vs 2 false (Cc S)),(37,.I i),(38,.I j)],[(41,some ⟨1,AD (T++[y.k]),0⟩)],2700⟩ ?_ ?_
  .refine AL (arc ⟨49,[(10,.rs 41 0 j),(12,.pv (Hz y)),(36,.vs 2 false (Cc S)),(37,.I i),(38,.I j)],[(41,some ⟨1,AD T,0⟩)],2500⟩ ?_ ?_)
   .simp [hw,<- hy,Ay]
    exact BF [(41,41)] [2416]
   refine Ac rfl ?_;simp[Dn,h0];refine⟨by omega,by omega,?_⟩
   exact AF [(2532,41)] [] (by simp[AB]) (by simp[AB,h0,am])
  refine Ac rfl ?_;simp[ag,-List.map_take,-List.map_map];refine⟨j+1,by omega,by omega,?_⟩
  rw[ho];exact BF [(41,41)] []
 rw[Qa] at h;obtain rfl:j=i:=by omega
 rw[Qb (by omega)]
 refine ar [6] [(41,41)] [] 2800 ?_;exact B7 [41] []
abbrev Hr (g:Gr) (salt:ByteArray) (m:Nat):List AV:=[.I g.size,CB g.edges,AA g.gone,sB salt,.mp m]
abbrev Hs (g:Gr) (salt:ByteArray) (m:Nat):AV:=.agg (Hr g salt m)
def Ej (T:Int->List Int) (k x:Int) (ks:List Int):Nat->List Int
 | 0=>ks
 | i+1=>HE (Ej T k x ks i) (Dg T k x i).2
def FQ (T:Int->List Int) (k:Int) (n:Nat) (ks:List Int):List Int->List Int
 | []=>ks
 | x::l=>FQ T k n (Ej T k x ks (n - 1)) l
theorem zqZ (T:Int->List Int) (k:Int) (n:Nat):∀ (l:List Int) (ks:List Int) (x:Int),FQ T k n ks (l++[x])=Ej T k x (FQ T k n ks l) (n - 1)
 | [],_,_=>rfl
 | y::l,ks,x=>zqZ T k n l _ x
structure Kq (g:Gr) (salt:ByteArray):Prop where
 e:g.edges.length<=100000
 s:salt.size<=100000
 n:∀ k,(Bb g.edges k).length<=12
section
variable {g:Gr} {salt:ByteArray}
theorem k8 (hg:Kq g salt) (ks:List Int) (key:Int) :
  AcP 171 [Hs g salt 0,.I key] [⟨0,BU (A0 g.edges salt) ks,0⟩] (AA (A0 g.edges salt key)) [some ⟨0,BU (A0 g.edges salt) (HE ks key),0⟩]:=by
 refine mX.s.ai ?_;have h5:=l9 g salt key hg.e hg.s (hg.n key);obtain⟨T,hT⟩:=AG (A0 g.edges salt);rw[<- hT] at h5 ⊢;have h0:=Vy T key ks;have h2:=WY T key ks;have h1:=Km T ks;have h3:=Km T (ks++[key]);obtain⟨X,hX⟩:=AG (BU T ks);rw[<- hX] at h0 h2 h1 ⊢;have h6:∀ f:Int->List AV,((T key).map f).take (T key).length=(T key).map f:=λ f=>Qb (by simp)
 refine arc ⟨27,[(1,.I key),(2,.pt 16 0 0)],[(0,some ⟨0,X,0⟩),(16,some ⟨5,[Hr g salt 0],0⟩)],50⟩ ?_ ?_
 .simp
  exact AF [(0,0),(16,16)] [] (by simp) (by simp[h1])
 by_cases hk:key∈ks
 .rw [if_pos hk] at h0
  have h4:HE ks key=ks:=if_pos hk;rw[h4,<- hX];refine arc ⟨27,[(5,AA (T key)),(6,.B true)],[(0,some ⟨0,X,0⟩)],150⟩ ?_ ?_
  .simp [h0]
   exact AF [(0,0)] [] (by simp) (by simp[h1])
  refine AC (arc ⟨27,[(5,AA (T key)),(15,.B false)],[(0,some ⟨0,X,0⟩)],250⟩ ?_ ?_)
  .simp
   exact AF [(0,0)] [] (by simp) (by simp[h1])
  refine AE _ rfl (λ h=>by cases h) λ _=>?_
  refine AJ (arc ⟨27,[(4,AA (T key))],[(0,some ⟨0,X,0⟩)],350⟩ ?_ ?_)
  .simp
   exact AF [(0,0)] [] (by simp) (by simp[h1])
  exact A9 (AS.k1 rfl (by simp) (by simp[h1]))
 .rw [if_neg hk] at h0
  have h2:=h2 hk;have h4:HE ks key=ks++[key]:=if_neg hk;rw[h4];obtain⟨Y,hY⟩:=AG (BU T (ks++[key]));rw[<- hY] at h2 h3 ⊢;refine arc ⟨27,[(1,.I key),(2,.pt 16 0 0),(6,.B false)],[(0,some ⟨0,X,0⟩),(16,some ⟨5,[Hr g salt 0],0⟩)],150⟩ ?_ ?_
  .simp [h0]
   exact AF [(0,0),(16,16)] [] (by simp) (by simp[h1])
  refine Ao ⟨27,[(5,AA (T key))],[(0,some ⟨0,Y,0⟩)],500⟩ ?_ ?_
  .refine arc ⟨27,[(1,.I key),(2,.pt 16 0 0),(15,.B true)],[(0,some ⟨0,X,0⟩),(16,some ⟨5,[Hr g salt 0],0⟩)],250⟩ ?_ ?_
   .simp
    exact AF [(0,0),(16,16)] [] (by simp) (by simp[h1])
   refine AE _ rfl (λ _=>?_) λ h=>by cases h
   refine arc ⟨27,[(1,.I key),(2,.pt 16 0 0),(5,AA (T key))],[(0,some ⟨0,X,0⟩),(16,some ⟨5,[Hr g salt 0],0⟩)],350⟩ ?_ ?_
   .simp
    refine CV h5 ?_;simp;exact AF [(0,0),(16,16)] [290] (by simp[AB,h6]) (by simp[AB,h1])
   refine Ac rfl ?_;simp;rw[show Bc key (AA (T key)) X=Y from h2]
   exact AF [(0,0)] [] (by simp) (by simp[h3])
  refine ar [4] [(0,0)] [] 550 ?_;exact A9 (AS.k1 rfl (by simp[AB]) (by simp[AB,h3]))
theorem jT {l:List Int} {x:Int} (h:x∈l):E5 l x=(l.idxOf x:Int):=if_pos h
theorem qI (hg:Kq g salt) (ks:List Int) (key x:Int) (n:Nat) (h1:1<=n) (hn:n<=100) (hx:x∈Bb g.edges key) :
  AcP 135 [Hs g salt 0,.I key,.I x,.I n] [⟨0,BU (A0 g.edges salt) ks,0⟩] (.rs 1 0 (n+1))
   [some ⟨0,BU (A0 g.edges salt) (Ej (A0 g.edges salt) key x ks (n - 1)),0⟩,some ⟨1,AD (Dj (A0 g.edges salt) key x n),0⟩]:=by
 refine mI.s.ai ?_;have h0:=λ ks key=>k8 hg ks key;have h4:=λ i=>Tg (salt:=salt) hx i;have he:∀ k,(A0 g.edges salt k).length<=12:=λ k=>by rw[(Pm _ _ _).length_eq];exact hg.n k
 obtain⟨T,hT⟩:=AG (A0 g.edges salt);simp only[<- hT] at h0 h4 he ⊢;have h2:=λ ks=>Km T ks;refine ar [1,2,3,4] [(0,0),(16,16)] [] 50 ?_;refine arc ⟨49,[(3,.I n),(4,.pt 16 0 0),(9,.rs 40 0 2)],[(0,some ⟨0,BU T ks,0⟩),(16,some ⟨5,[Hr g salt 0],0⟩),(40,some ⟨1,AD [key,x],0⟩)],150⟩ ?_ ?_
 .simp [Dn]
  exact AF [(0,0),(16,16),(66,40)] [] (by simp) (by simp[AB,h2])
 refine AC (AL ?_)
 refine Ae (ι:=Nat) (λ j=>⟨49,[(3,.I n),(4,.pt 16 0 0),(9,.rs 40 0 (j+2))],[(0,some ⟨0,BU T (Ej T key x ks j),0⟩),(16,some ⟨5,[Hr g salt 0],0⟩),(40,some ⟨1,AD (Dj T key x (j+1)),0⟩)],150⟩) (λ j=>j+1<=n) (λ j=>n - j) 0 (by omega)
  (AF [(0,0),(16,16),(40,40)] [] (by simp) (by simp[AB,h2,Ej,Rj])) ?_
 intro j hj;obtain⟨ksj,h5⟩:∃ k,k=Ej T key x ks j:=⟨_,rfl⟩;have h9:Ej T key x ks (j+1)=HE ksj (Dg T key x j).2:=by rw[h5];rfl
 rw[<- h5];have h6:=LZ T key x (j+1);obtain⟨hb,hc⟩:=XF T key x j;have h3:=ztj T key x (j+1);have hw:(Dg T key x (j+1)).2=EQ (T (Dg T key x j).2) (Dg T key x j).1:=rfl;rw[hw] at h3;have h7:=h4 j;have hf:=he (Dg T key x j).2;obtain⟨from_,hh⟩:∃ a,a=(Dg T key x j).1:=⟨_,rfl⟩;obtain⟨at_,hk⟩:∃ a,a=(Dg T key x j).2:=⟨_,rfl⟩;rw[<- hh,<- hk] at h3 h7;rw[<- hh] at hb;rw[<- hk] at hc h9 hf;obtain⟨R,hR⟩:=AG (Dj T key x (j+1));rw[<- hR] at h6 hb hc h3 ⊢;have hz:(R.map λ n=>[AV.I n])[j]? = some [AV.I from_]:=by rw[QA,hb];rfl
 have a0:(R.map λ n=>[AV.I n])[j+1]? = some [AV.I at_]:=by rw[QA,hc];rfl
 refine AC (arc ⟨49,[(3,.I n),(4,.pt 16 0 0),(9,.rs 40 0 (j+2)),(19,.B (decide (j+2<=n)))],[(0,some ⟨0,BU T ksj,0⟩),(16,some ⟨5,[Hr g salt 0],0⟩),(40,some ⟨1,AD R,0⟩)],250⟩ ?_ ?_)
 .simp
  exact AF [(0,0),(16,16),(40,40)] [] (by simp<;>exact Aw (by rw[Qp];simp;omega)) (by simp[AB,h2])
 refine AE _ rfl (λ h=>AJ ?_) λ h=>Aa (hit ?_)
 .rw [Qd] at h
  have a1:IntKind.i64.wrap (((j:Int)+2) - 2)=(j:Int):=by rw[w6];omega
  have a2:IntKind.i64.wrap (((j:Int)+2) - 1)=((j+1:Nat):Int):=by rw[w6];omega
  obtain⟨t,ht⟩:=AG (T at_);rw[<- ht] at h7 hf h3;obtain⟨i,hi⟩:=AG (t.idxOf from_);have ag:i<t.length:=by rw[hi];exact List.idxOf_lt_length_of_mem h7
  have ha:=TX t from_ (by omega)
  rw[jT h7,<- hi] at ha;have a3:=wq (k:=i);obtain⟨q,hq⟩:=AG ((i+1) % t.length);have hd:q<t.length:=by rw[hq];exact Uf _ (by omega)
  have ho:Int.tmod ((i:Int)+1) (t.length:Int)=(q:Int):=by
   show Int.tmod ((i+1:Nat):Int) (t.length:Int)=(q:Int);rw[hq];rfl
  have a4:=w6 (x:=(j:Int));obtain⟨y,hy⟩:=AG (EQ t from_)
  have hu:t[q]=y:=by
   rw[hy,EQ,<- hi,<- hq,Qe,Qc hd];rfl
  have a5:(t.map λ n=>[AV.I n])[q]? = some [AV.I y]:=by rw[QA,Qc hd,hu];rfl
  rw[<- hy] at h3;have hv:¬ t.length=0:=by omega
  have a6:∀ f:Int->List AV,(R.map f).take (j+2)=R.map f:=λ f=>Qb (by simp[h6])
  have h0:=h0 ksj at_;rw[<- ht] at h0;refine AL ?_;apply ay [3,4,9,10,11] [(0,0),(16,16),(40,40)] [] 350
  .have a7:(j:Int)<(j:Int)+2:=by omega
   have a8:(j:Int)+1<(j:Int)+2:=by omega
   have a9:0<=(j:Int)+1:=by omega
   have ad:((j:Int)+1).toNat=j+1:=by omega
   simp[a1,a2,a4,hz,a0,a7,a8,a9,ad];exact⟨rfl,rfl⟩
  apply ax [3,4,9,10,12] [(0,0),(16,16),(40,40)] [] 450
  .simp
   refine Cq (i:=0) rfl (e':=⟨0,BU T ksj,0⟩) (by simp[h2]) h0 (by simp) (by simp[AB]) ?_
   simp[AB,h2];rfl
  refine Ac rfl ?_;simp;refine Aq ha (by simp[AB]) ?_
  simp[a3,ho,hv,hd,a5,hu,Dn,h6];refine⟨by omega,by omega,j+1,by omega,by omega,?_⟩
  rw[h3,h9];exact AF [(0,0),(16,16),(546,40)] [] (by simp) (by simp[AB,h2,h6,a6])
 rw[Qa] at h;obtain rfl:n=j+1:=by omega
 rw[Nat.add_sub_cancel,<- h5,<- hR];refine ar [8] [(0,0),(40,40)] [] 2000 ?_;exact A9 (AS.k1n 40 (by omega) rfl (by simp) (by simp[AB,h2]) (by simp[AB]))
theorem nF (hg:Kq g salt) (ks:List Int) (key:Int) (n:Nat) (h1:1<=n) (hn:n<=100) :
  AcP 93 [Hs g salt 0,.I key,.I n] [⟨0,BU (A0 g.edges salt) ks,0⟩] (.rs 1 0 (Bb g.edges key).length)
   [some ⟨0,BU (A0 g.edges salt) (FQ (A0 g.edges salt) key n ks (Bb g.edges key)),0⟩,some ⟨1,(Bb g.edges key).map λ x=>[AA (Dj (A0 g.edges salt) key x n)],0⟩]:=by
 refine dQ.s.ai ?_;have h2:=λ ks x hx=>qI hg ks key x n h1 hn hx;have h6:=ziI g key hg.e;have hc:=hg.n key;obtain⟨T,hT⟩:=AG (A0 g.edges salt);simp only[<- hT] at h2 ⊢;have h0:=λ ks=>Km T ks;obtain⟨z,hz⟩:=AG (KS g.edges key);obtain⟨N,hN⟩:=AG (Bb g.edges key);rw[<- hz] at h6;simp only[<- hN] at h6 h2 hc ⊢;obtain⟨q,hq⟩:=AG (N.length);simp only[<- hq] at h6 hc ⊢;have hf:∀ X,List.take q (List.map (λ n=>[AV.I n]) N++X)=List.map (λ n=>[AV.I n]) N:=λ X=>VJ (by simp[hq])
 refine ar [1,2,3] [(0,0),(16,16)] [] 50 ?_;refine arc ⟨32,[(1,.I key),(2,.I n),(3,.pt 16 0 0),(7,.nilS)],[(0,some ⟨0,BU T ks,0⟩),(16,some ⟨5,[Hr g salt 0],0⟩)],100⟩ ?_ ?_
 .simp
  exact AF [(0,0),(16,16)] [] (by simp) (by simp[AB,h0])
 refine arc ⟨32,[(1,.I key),(2,.I n),(3,.pt 16 0 0),(7,.nilS),(8,.fn (.func 135) [Hs g salt 0] [])],[(0,some ⟨0,BU T ks,0⟩),(16,some ⟨5,[Hr g salt 0],0⟩)],150⟩ ?_ ?_
 .simp
  exact AF [(0,0),(16,16)] [] (by simp[AB]) (by simp[AB,h0])
 refine AC (arc ⟨32,[(1,.I key),(2,.I n),(7,.nilS),(8,.fn (.func 135) [Hs g salt 0] []),(16,AA N),(17,.I q),(18,.I (0:Nat))],[(0,some ⟨0,BU T ks,0⟩)],250⟩ ?_ ?_)
 .simp
  refine E2 h6 (by simp[AB]) ?_
  simp;exact AF [(0,0)] [174] (by simp[AB,hf,<- hq]) (by simp[AB,h0])
 refine AL ?_
 refine Ae (ι:=Nat) (λ i=>⟨32,[(1,.I key),(2,.I n),(7,.rs 40 0 i),(8,.fn (.func 135) [Hs g salt 0] []),(16,AA N),(17,.I q),(18,.I i)],[(0,some ⟨0,BU T (FQ T key n ks (N.take i)),0⟩),(40,some ⟨1,(N.take i).map λ x=>[AA (Dj T key x n)],0⟩)],250⟩) (λ i=>i<=q) (λ i=>q - i) 0 (Qh _)
  (Le.lst [(0,0)] [] [(40,1)] rfl (by simp) (by simp) (by simp) (by simp) (by simp) (by simp) (by simp) (by simp[Up,AB]) (by simp[AB,h0,FQ,Am.eq])) ?_
 intro i hi;obtain⟨ksi,h3⟩:∃ k,k=FQ T key n ks (N.take i):=⟨_,rfl⟩;rw[<- h3];refine arc ⟨32,[(1,.I key),(2,.I n),(7,.rs 40 0 i),(8,.fn (.func 135) [Hs g salt 0] []),(16,AA N),(17,.I q),(18,.I i),(19,.B (decide (i<q)))],[(0,some ⟨0,BU T ksi,0⟩),(40,some ⟨1,(N.take i).map λ x=>[AA (Dj T key x n)],0⟩)],350⟩ ?_ ?_
 .simp
  exact AF [(0,0),(40,40)] [] (by simp[AB]) (by simp[AB,h0])
 refine AC (AE _ rfl (λ h=>AJ ?_) λ h=>Aa (hit ?_))
 .rw [Qd] at h
  have hh:=wq (k:=i);have h9:i<N.length:=by omega
  have h4:N.take (i+1)=N.take i++[N[i]]:=by rw[Qm h9]
  have hd:N[i]∈N:=Qj h9;obtain⟨x,hx⟩:=AG (N[i]);rw[<- hx] at h4 hd;have h5:=h2 ksi x hd;have ha:FQ T key n ks (N.take (i+1))=Ej T key x ksi (n - 1):=by rw[h4,zqZ,<- h3]
  rw[h4] at ha;have h7:(N.take i).length=i:=by rw[QV];omega
  obtain⟨m,hm⟩:=AG (N.take i);rw[<- hm] at h7 ha h4 ⊢;have hj:∀ f:Int->List AV,(m.map f).take i=m.map f:=λ f=>Qb (by simp[h7])
  have hb:=LZ T key x n;obtain⟨R,hR⟩:=AG (Dj T key x n);rw[<- hR] at h5 hb;have hk:∀ f:Int->List AV,(R.map f).take (n+1)=R.map f:=λ f=>Qb (by simp[hb])
  refine Ao ⟨32,[(1,.I key),(2,.I n),(7,.rs 40 0 (i+1)),(8,.fn (.func 135) [Hs g salt 0] []),(16,AA N),(17,.I q),(18,.I i)],[(0,some ⟨0,BU T (Ej T key x ksi (n - 1)),0⟩),(40,some ⟨1,(m++[x]).map λ x=>[AA (Dj T key x n)],0⟩)],1000⟩ ?_ ?_
  .refine AL (arc ⟨32,[(1,.I key),(2,.I n),(7,.rs 40 0 i),(8,.fn (.func 135) [Hs g salt 0] []),(10,.I x),(16,AA N),(17,.I q),(18,.I i)],[(0,some ⟨0,BU T ksi,0⟩),(40,some ⟨1,m.map λ x=>[AA (Dj T key x n)],0⟩)],450⟩ ?_ ?_)
   .simp [h9,<- hx]
    exact AF [(0,0),(40,40)] [] (by simp[AB]) (by simp[AB,h0])
   refine Ac rfl ?_;simp;refine Cq (i:=0) rfl (e':=⟨0,BU T ksi,0⟩) (by simp[h0]) h5 (by simp) (by simp[AB]) ?_
   simp[AB,h0,Dn,h7];refine⟨by omega,by omega,?_⟩
   exact AF [(0,0),(506,40)] [490] (by simp[AB]) (by simp[AB,h0,h7,hj,hk,hb,<- hR])
  refine Ac rfl ?_;simp[hh,-List.map_take];refine⟨i+1,by omega,by omega,?_⟩
  rw[h4,ha];exact AF [(0,0),(40,40)] [] (by simp[AB]) (by simp[AB,h0])
 rw[Qa] at h;obtain rfl:i=q:=by omega
 have he:N.take i=N:=Qb (by omega)
 rw[he] at h3;rw[he,<- h3];refine ar [6] [(0,0),(40,40)] [] 2000 ?_;exact A9 (AS.k1n 40 (by omega) rfl (by simp) (by simp[AB,h0]) (by simp[AB]))
theorem kI (n:Int):AcP 91 [.I n] [] (.B (decide (1<=n/\n<=100))) []:=by
 refine pY.s.ai ?_;refine rs [0] [] [] ?_;apply ax [2] [] [] 100
 .simp
  refine Aj (Ev n 1 100) ?_;simp;rfl
 exact Bl
theorem kK:AcP 92 [eG g,sB salt] [] (Hs g salt 0) [some ⟨0,[],0⟩]:=by
 refine Zt.s.ai ?_;refine ar [1,2,4] [(24,24)] [16] 50 ?_;apply ax [4] [(24,24),(66,66)] [] 150
 .simp [E7,Ay]
  rfl
 exact A9 (AS.out [66] [24] rfl (by simp) (by simp) (by simp[AB]) (by simp))
theorem wY (h0:List Int) (hk:h0.length<=100000) (x:Int):AcP 95 [.I x,.pv [AA h0]] [] (.B (decide (x∈h0))) []:=by
 refine ZN.s.ai ?_;refine rs [0,1] [] [] ?_;apply ax [3] [] [] 100
 .simp
  refine Aq (Ht h0 x (by omega)) (by simp[AB]) ?_
  simp;rfl
 exact Bl
def ES (T:Int->List Int) (k:Int) (n:Nat) (keys N:List Int) (i:Nat):Nat:=((N.take i).filter λ x=>(Dj T k x n).any λ y=>decide (y∈keys)).length
theorem XK (T:Int->List Int) (k:Int) (n:Nat) (h0 N:List Int) {i:Nat} (h:i<N.length):ES T k n h0 N (i+1)=ES T k n h0 N i+if (Dj T k N[i] n).any (λ y=>decide (y∈h0))=true then 1 else 0:=by
 unfold ES;rw[Qm h,Ug,Qg,Vk];split<;>simp
theorem RF (T:Int->List Int) (k:Int) (n:Nat) (h0 N:List Int) (i:Nat):ES T k n h0 N i<=N.length:=by
 unfold ES;exact QH (QU _ _) (by rw[QV];omega)
theorem bC (hg:Kq g salt) (key n:Int) (h0:List Int) (hk:h0.length<=100000) :
  AcP 45 [eG g,sB salt,.I key,.I n,AA h0] [] (.I (Di g.edges salt key n h0)) []:=by
 refine ZQ.s.ai ?_;refine ar [1,2,3,5,9] [] [16,24] 50 ?_;refine AC (arc ⟨35,[(1,sB salt),(2,.I key),(3,.I n),(5,.pv (gC g)),(9,.pv [AA h0]),(16,.B (!decide (1<=n/\n<=100)))],[],150⟩ ?_ ?_)
 .simp
  refine Aj (kI n) ?_;simp;exact BF [] []
 refine AE _ rfl (λ h=>?_) λ h=>?_
 .have h:¬ (1<=n/\n<=100):=λ hh=>by rw[UK hh] at h;cases h
  have he:Di g.edges salt key n h0=0:=if_neg h;rw[he];refine rs [10] [] [] ?_;exact Bl
 have h:1<=n/\n<=100:=Q6 λ hh=>by rw[UI hh] at h;cases h
 obtain⟨m,rfl⟩:∃ m:Nat,n=(m:Int):=⟨n.toNat,by omega⟩
 have he:Di g.edges salt key (m:Int) h0=(ES (A0 g.edges salt) key m h0 (Bb g.edges key) (Bb g.edges key).length:Nat):=by
  unfold Di ES;rw[if_pos h,QO,Uu]
 have h1:=nF hg [] key m (by omega) (by omega)
 have h4:=λ i h=>XK (A0 g.edges salt) key m h0 (Bb g.edges key) (i:=i) h;have h2:=λ i=>RF (A0 g.edges salt) key m h0 (Bb g.edges key) i;have h7:=hg.n key;rw[he];obtain⟨T,hT⟩:=AG (A0 g.edges salt);simp only[<- hT] at h1 h4 h2 ⊢;have hy:=λ ks=>Km T ks;have hd:BU T []=[]:=rfl;rw[hd] at h1;obtain⟨N,hN⟩:=AG (Bb g.edges key);simp only[<- hN] at h1 h4 h2 h7 ⊢;obtain⟨q,hq⟩:=AG (N.length);simp only[<- hq] at h1 h2 h7 ⊢;obtain⟨V,hV⟩:∃ V:List (List AV),V=N.map λ x=>[AA (Dj T key x m)]:=⟨_,rfl⟩;have hf:V.length=q:=by rw[hV,Qr,hq]
 have hj:V.take q=V:=Qb (by omega)
 have h3:∀ ρ sn h m,V.map (List.map (conv ρ sn h (m+2)))=V:=λ ρ sn h m=>by rw[hV];simp[AB]
 have ho:∀ i (h:i<N.length),V[i]? = some [AA (Dj T key N[i] m)]:=λ i h=>by rw[hV,QA,Qc h];rfl
 rw[<- hV] at h1;obtain⟨E,hE⟩:∃ E:Nat->Nat,E=ES T key m h0 N:=⟨_,rfl⟩;rw[<- hE] at h4 h2 ⊢;have hu:E 0=0:=by rw[hE];rfl
 refine AJ (ar [1,2,3,5,9,11] [] [] 200 ?_);refine AC (arc ⟨35,[(9,.pv [AA h0]),(11,.I 0),(22,.vs 1 false V),(23,.I q),(24,.I (0:Nat))],[],300⟩ ?_ ?_)
 .simp
  refine E2 (kK (g:=g) (salt:=salt)) (by simp[AB]) ?_
  simp;refine Cq (i:=216) rfl (e':=⟨0,[],0⟩) (by simp) h1 (by simp) (by simp[AB]) ?_
  simp;exact AF [] [240] (by simp[AB,h3,hj,hf])
 refine AL ?_
 refine Ae (ι:=Nat) (λ i=>⟨35,[(9,.pv [AA h0]),(11,.I (E i)),(22,.vs 1 false V),(23,.I q),(24,.I i)],[],300⟩) (λ i=>i<=q) (λ i=>q - i) 0 (Qh _)
  (AF [] [] (by simp[AB,h3,hu]) (by simp)) ?_
 intro i hi;refine ar [9,11,22,23,24,25] [] [] 400 ?_;refine AC (AE _ rfl (λ h=>AJ ?_) λ h=>Aa (hit ?_))
 .rw [Qd] at h
  have hv:=wq (k:=i);have ha:i<N.length:=by omega
  have hc:=ho i ha;have h6:=h4 i ha;have hz:=h2 i;have hw:=LZ T key N[i] m;obtain⟨R,hR⟩:=AG (Dj T key N[i] m);rw[<- hR] at hc h6 hw;have h9:=RJ 95 [.pv [AA h0]] (λ y=>decide (y∈h0)) R (by omega) (λ _ _ _ _=>by simp[AB]) λ y _=>wY h0 hk y
  obtain⟨b,hb⟩:=AG (R.any λ y=>decide (y∈h0));rw[<- hb] at h9 h6;have hx:IntKind.i64.wrap ((E i:Int)+1)=((E i+1:Nat):Int):=by rw[w6];omega
  refine Ao ⟨35,[(9,.pv [AA h0]),(11,.I (E (i+1))),(22,.vs 1 false V),(23,.I q),(24,.I i)],[],1000⟩ ?_ ?_
  .refine AL ?_
   apply ax [9,11,13,22,23,24] [] [] 500
   .simp [hc]
    rfl
   apply ax [9,11,22,23,24,30] [] [] 600
   .simp
    refine Aq h9 (by simp[AB]) ?_
    simp;rfl
   refine AE _ rfl (λ h5=>?_) λ h5=>?_
   .rw [h6,if_pos h5]
    refine Ac rfl ?_;simp[hx];exact AF [] [] (by simp[AB,h3])
   .rw [h6,if_neg (by rw[h5];decide)]
    exact AJ (AF [] [] (by simp[AB,h3]))
  refine Ac rfl ?_;simp[hv];exact⟨i+1,by omega,by omega,AF [] [] (by simp[AB,h3])⟩
 rw[Qa] at h;obtain rfl:i=q:=by omega
 refine ar [10] [] [] 2000 ?_;exact Bl
end
theorem WB {x:Int}:∀ {l:List Int} {i:Nat} (_:i<l.idxOf x) (hl:i<l.length),l[i]≠x
 | a::l,0,h,_=>λ e=>by
   simp only[List.getElem_cons_zero] at e;rw[e,List.idxOf_cons_self] at h;omega
 | a::l,i+1,h,hl=>by
   rw[List.idxOf_cons] at h
   by_cases ha:(a == x)=true
   .rw [ha] at h;simp at h
   .have h0:(a == x)=false:=by simpa using ha
    rw[h0] at h;simp only[List.getElem_cons_succ];exact WB (by simpa using h) _
theorem qW (g:Gr) (salt:ByteArray) (k from_:Int) (hl:g.edges.length<=100000) (hs:salt.size<=100000) (h2:from_∈A0 g.edges salt k):AcP 143 [eG g,sB salt,.I from_,.I k] [] (.I (EQ (A0 g.edges salt k) from_)) []:=by
 refine gP.s.ai ?_;have h1:=vD g salt k hl hs
 have h6:(A0 g.edges salt k).length<=200000:=by
  rw[(Pm g.edges salt k).length_eq];have:=Kc g.edges k;omega
 obtain⟨t,ht⟩:=AG (A0 g.edges salt k);rw[<- ht] at h1 h6 h2 ⊢;obtain⟨a,ha⟩:=AG (t.idxOf from_);have he:a<t.length:=by rw[ha];exact List.idxOf_lt_length_of_mem h2
 have h7:t[a]=from_:=by simp only[ha];exact List.getElem_idxOf _
 have h9:∀ i (h:i<a) (hl:i<t.length),t[i]≠from_:=λ i h hl=>WB (by rw[<- ha];exact h) hl
 obtain⟨q,hq⟩:=AG ((a+1) % t.length);have h3:q<t.length:=by rw[hq];exact Uf _ (by omega)
 have h4:Int.tmod ((a:Int)+1) (t.length:Int)=(q:Int):=by
  show Int.tmod ((a+1:Nat):Int) (t.length:Int)=(q:Int);rw[hq];rfl
 obtain⟨y,hy⟩:=AG (EQ t from_)
 have hb:t[q]=y:=by
  rw[hy,EQ,<- ha,<- hq,Qe,Qc h3];rfl
 rw[<- hy];refine ar [1,2,3,4] [] [16] 50 ?_;apply ax [2,9] [] [] 100
 .simp
  refine Aj h1 ?_;simp;rfl
 refine AC (rx (s:=?s3) [2,9,10] [] [] rfl ?o3 ?q3)
 case o3=>simp[AB];rfl
 refine AL (Ae (ι:=Nat) (λ i=>⟨35,[(2,.I from_),(9,AA t),(10,.I i)],[],200⟩) (λ i=>i<=a) (λ i=>a - i) 0 (Qh _) (A5 [] (by simp[AB])) ?_)
 intro i hi;have h0:i<t.length:=by omega
 have hw:=Iz h0 (by omega)
 refine AC (arc ⟨35,[(2,.I from_),(9,AA t),(10,.I i),(18,.B true)],[],300⟩ ?_ ?_)
 .simp
  exact A5 [] (by simp[AB]<;>exact Aw (by rw[Qd];omega))
 refine AE _ rfl (λ _=>AJ ?_) λ h=>by cases h
 refine AC (AL (arc ⟨35,[(2,.I from_),(9,AA t),(10,.I i),(26,.B (decide (i=a)))],[],400⟩ ?_ ?_))
 .simp [h0]
  exact A5 [] (by simp[AB]<;>exact Aw (by
   rw[Qp,Qd];simp only[beq_iff_eq];constructor
   .intro h
    exact Q6 λ hc=>h9 i (by omega) h0 h
   .intro h
    subst h
    exact h7))
 refine AE _ rfl (λ h=>?_) λ h=>?_
 .rw [Qd] at h
  subst h;have hd:=w6 (x:=(i:Int)+1);have h5:¬ t.length=0:=by omega
  refine D9 ⟨35,[(8,.I y)],[],500⟩ rfl ?_ (BG ⟨.inr rfl,AS.one (by simp)⟩)
  simp[hd,h4,h5,h3,hb];exact A5 [] (by simp)
 .rw [Qa] at h
  refine AJ (Ac rfl ?_);simp[hw];exact⟨i+1,by omega,by omega,A5 [] (by simp[AB])⟩
theorem j5 (g:Gr) (salt:ByteArray) (key x:Int) (n:Nat) (hl:g.edges.length<=100000) (hs:salt.size<=100000) (h1:1<=n) (hn:n<=100) (hx:x∈Bb g.edges key) :
  AcP 106 [eG g,sB salt,.I key,.I x,.I n] [] (.rs 0 0 (n+1)) [some ⟨1,AD (Dj (A0 g.edges salt) key x n),0⟩]:=by
 refine gJ.s.ai ?_;have h9:=OR g key hl;have hv:=Kc g.edges key;have h0:=I2 (Bb g.edges key) x (by omega)
 have hc:(Bb g.edges key).contains x=true:=Uv.2 hx;rw[hc] at h0;have h2:=λ j=>qW g salt (Dg (A0 g.edges salt) key x j).2 (Dg (A0 g.edges salt) key x j).1 hl hs (Tg hx j);obtain⟨N,hN⟩:=AG (Bb g.edges key);rw[<- hN] at h9 h0;obtain⟨T,hT⟩:=AG (A0 g.edges salt);simp only[<- hT] at h2 ⊢;have hd:¬ ((n:Int)<1):=by omega
 have he:¬ ((100:Int)<n):=by omega
 refine ar [1,2,3,4,5] [] [16] 50 ?_;refine AC ?_;apply ax [1,2,3,4,5,26] [] [] 200
 .simp [hd,he]
  refine Aj h9 ?_;simp;refine Aq h0 (by simp[AB]) ?_
  simp;rfl
 refine AE _ rfl (λ h=>by cases h) λ _=>AJ ?_
 apply ax [1,4,5,11] [(216,40)] [] 300
 .simp [Dn]
  rfl
 refine AC (ar [1,4,5,11,12] [(40,40)] [] 400 ?_);refine AL ?_
 refine Ae (ι:=Nat) (λ j=>⟨51,[(1,sB salt),(4,.I n),(5,.pv (gC g)),(11,.rs 40 0 (j+2)),(12,.I (j+1:Nat))],[(40,some ⟨1,AD (Dj T key x (j+1)),0⟩)],500⟩) (λ j=>j+1<=n) (λ j=>n - j) 0 (by omega)
  (AF [(40,40)] [] (by simp) (by simp[AB,Rj])) ?_
 intro j hj;have h5:=LZ T key x (j+1);obtain⟨h6,h4⟩:=XF T key x j;have h3:=ztj T key x (j+1);have hf:(Dg T key x (j+1)).2=EQ (T (Dg T key x j).2) (Dg T key x j).1:=rfl;rw[hf] at h3;have h7:=h2 j;obtain⟨from_,ha⟩:∃ a,a=(Dg T key x j).1:=⟨_,rfl⟩;obtain⟨at_,hb⟩:∃ a,a=(Dg T key x j).2:=⟨_,rfl⟩;rw[<- ha,<- hb] at h3 h7;rw[<- ha] at h6;rw[<- hb] at h4;obtain⟨y,hy⟩:=AG (EQ (T at_) from_);rw[<- hy] at h3 h7;obtain⟨R,hR⟩:=AG (Dj T key x (j+1));rw[<- hR] at h5 h6 h4 h3 ⊢;obtain⟨m,hm⟩:=AG (j+1);rw[<- hm] at h4;have hh:∀ f:Int->List AV,(R.map f).take (j+2)=R.map f:=λ f=>Qb (by simp[h5])
 refine AC (arc ⟨51,[(1,sB salt),(4,.I n),(5,.pv (gC g)),(11,.rs 40 0 (j+2)),(12,.I m),(32,.B (decide (m<n)))],[(40,some ⟨1,AD R,0⟩)],600⟩ ?_ ?_)
 .simp
  exact AF [(40,40)] [] (by simp[hm]<;>exact Aw (by rw[Qp];simp;omega)) (by simp[AB])
 refine AE _ rfl (λ h=>AJ ?_) λ h=>Aa (hit ?_)
 .rw [Qd] at h
  have hi:IntKind.i64.wrap ((m:Int) - 1)=(j:Int):=by rw[w6];omega
  have hk:=wq (k:=m);have ho:(j:Int)<(j:Int)+2:=by omega
  have hq:(m:Int)<(j:Int)+2:=by omega
  have hw:m<j+2:=by omega
  refine Ao ⟨51,[(1,sB salt),(4,.I n),(5,.pv (gC g)),(11,.rs 40 0 (j+3)),(12,.I m)],[(40,some ⟨1,AD (R++[y]),0⟩)],900⟩ ?_ ?_
  .refine AL (zpL ⟨51,[(1,sB salt),(4,.I n),(5,.pv (gC g)),(11,.rs 40 0 (j+3)),(12,.I m)],[(40,some ⟨1,AD (R++[y]),0⟩)],900⟩ rfl ?_ λ st' hu=>hu)
   simp[hi,h6,h4,ho,hq];refine Aj h7 ?_;simp[Dn,h5];refine⟨by omega,by omega,rfl,AF [(712,40)] [] (by simp) (by simp[AB,hh])⟩
  refine Ac rfl ?_;simp[hk];refine⟨j+1,by omega,by omega,?_⟩
  rw[h3];exact AF [(40,40)] [] (by simp[hm]) (by simp[AB])
 rw[Qa] at h;obtain rfl:n=j+1:=by omega
 rw[<- hR];refine ar [10] [(40,40)] [] 2000 ?_;exact B7 [40] []
theorem gN (g:Gr) (salt:ByteArray) (key:Int) (n:Nat) (h0:List Int) (hl:g.edges.length<=100000) (hs:salt.size<=100000) (h1:1<=n) (hn:n<=100) (hk:h0.length<=100000) :
  AcP 49 [eG g,sB salt,.I key,.I n,AA h0] [] (.I (Di g.edges salt key n h0)) []:=by
 refine bX.s.ai ?_;have hh:=OR g key hl;have hu:=Kc g.edges key;have h2:=λ x hx=>j5 g salt key x n hl hs h1 hn hx;have ho:=λ x=>I2 h0 x (by omega)
 have he:Di g.edges salt key (n:Int) h0=(ES (A0 g.edges salt) key n h0 (Bb g.edges key) (Bb g.edges key).length:Nat):=by
  unfold Di ES;rw[if_pos (by omega),QO,Uu]
 have h7:=λ i h=>XK (A0 g.edges salt) key n h0 (Bb g.edges key) (i:=i) h;have h9:=λ i=>RF (A0 g.edges salt) key n h0 (Bb g.edges key) i;rw[he];obtain⟨T,hT⟩:=AG (A0 g.edges salt);simp only[<- hT] at h2 h7 h9 ⊢;obtain⟨N,hN⟩:=AG (Bb g.edges key);simp only[<- hN] at hh hu h2 h7 h9 ⊢;obtain⟨E,hE⟩:∃ E:Nat->Nat,E=ES T key n h0 N:=⟨_,rfl⟩;rw[<- hE] at h7 h9 ⊢;have hv:E 0=0:=by rw[hE];rfl
 refine ar [1,2,3,4,5] [] [16] 50 ?_;apply ax [1,2,3,4,5,11] [] [] 100
 .simp
  refine Aj hh ?_;simp;rfl
 refine rx (s:=?s3) [1,2,3,4,5,11,12] [] [] rfl ?o3 ?q3
 case o3=>simp[AB];rfl
 refine AC (rx (s:=?s4) [1,2,3,4,5,11,12,13] [] [] rfl ?o4 ?q4)
 case o4=>simp[AB];rfl
 refine AL (Ae (ι:=Nat) (λ i=>⟨49,[(1,sB salt),(2,.I key),(3,.I n),(4,AA h0),(5,.pv (gC g)),(11,AA N),(12,.I (E i)),(13,.I i)],[],300⟩) (λ i=>i<=N.length) (λ i=>N.length - i) 0 (Qh _) (A5 [] (by simp[AB,hv])) ?_)
 intro i hi;refine AC (ar [1,2,3,4,5,11,12,13,22] [] [] 400 ?_);refine AE _ rfl (λ h=>AJ ?_) λ h=>Aa (hit ?_)
 .rw [Qd] at h
  have hw:=Iz h (by omega)
  have a0:N[i]∈N:=Qj h;have h3:=h7 i h;have a6:=h9 i;have ha:=LZ T key N[i] n;have hd:=h2 N[i] a0;obtain⟨x,hx⟩:=AG (N[i]);rw[<- hx] at h3 ha hd;obtain⟨R,hR⟩:=AG (Dj T key x n);rw[<- hR] at h3 ha hd;have a1:∀ f:Int->List AV,(R.map f).take (n+1)=R.map f:=λ f=>Qb (by simp[ha])
  have a2:IntKind.i64.wrap ((E i:Int)+1)=((E i+1:Nat):Int):=by rw[w6];omega
  refine Ao ⟨49,[(1,sB salt),(2,.I key),(3,.I n),(4,AA h0),(5,.pv (gC g)),(11,AA N),(12,.I (E (i+1))),(13,.I i)],[],3000⟩ ?_ ?_
  .refine AL (CW ⟨49,[(1,sB salt),(2,.I key),(3,.I n),(4,AA h0),(5,.pv (gC g)),(11,AA N),(12,.I (E i)),(13,.I i),(14,AA R)],[],600⟩ ?_ ?_)
   .simp [h,<- hx]
    refine CV hd ?_;simp;exact⟨rfl,AF [] [464] (by simp[AB,a1,ha])⟩
   refine rx (s:=?s5) [1,2,3,4,5,11,12,13,14,15] [] [] rfl ?o5 ?q5
   case o5=>simp[AB];rfl
   refine AL (Ae (ι:=Nat) (λ j=>⟨49,[(1,sB salt),(2,.I key),(3,.I n),(4,AA h0),(5,.pv (gC g)),(11,AA N),(12,.I (E i)),(13,.I i),(14,AA R),(15,.I j)],[],700⟩) (λ j=>j<=R.length /\ ∀ m (h:m<R.length),m<j->R[m]∉h0) (λ j=>R.length - j) 0 ⟨Qh _,λ _ _ h=>by omega⟩ (A5 [] (by simp[AB])) ?_)
   rintro j ⟨hj,hq⟩
   refine AC (ar [1,2,3,4,5,11,12,13,14,15,37] [] [] 800 ?_);refine AE _ rfl (λ h5=>AJ ?_) λ h5=>Aa (hit ?_)
   .rw [Qd] at h5
    have a3:=Iz h5 (by omega)
    have hf:=ho R[j];obtain⟨b,hb⟩:=AG (h0.contains R[j]);rw[<- hb] at hf;obtain⟨y,hy⟩:=AG (R[j]);rw[<- hy] at hf;refine AC (AL ?_);apply ax [1,2,3,4,5,11,12,13,14,15,45] [] [] 900
    .simp [h5,<- hy]
     refine Aq hf (by simp[AB]) ?_
     simp;rfl
    refine AE _ rfl (λ h6=>?_) λ h6=>?_
    .have h4:(R.any λ y=>decide (y∈h0))=true:=by
      rw[Ui];refine⟨R[j],Qj h5,UK ?_⟩;rw[hb] at h6;exact Uv.1 h6
     rw[if_pos h4] at h3;refine D9 ⟨49,[(1,sB salt),(2,.I key),(3,.I n),(4,AA h0),(5,.pv (gC g)),(11,AA N),(12,.I (E (i+1))),(13,.I i)],[],1000⟩ rfl ?_ (Aa (I9 (by decide) (hit ?_)))
     .simp [a2]
      exact A5 [] (by simp[AB,h3])
     exact A5 [] (by simp[AB])
    .refine AJ (Ac rfl ?_)
     simp[a3];refine⟨j+1,⟨by omega,λ m hm a7=>?_⟩,by omega,A5 [] (by simp[AB])⟩
     by_cases a4:m=j
     .subst a4
      intro hc;rw[hb,Uv.2 hc] at h6
      cases h6
     .exact hq m hm (by omega)
   .rw [Qa] at h5
    have h4:¬ (R.any λ y=>decide (y∈h0))=true:=by
     rw[Ui]
     rintro⟨z,hz,a5⟩
     obtain⟨m,hm,rfl⟩:=QG.1 hz;exact hq m hm (by omega) (by simpa using a5)
    rw[if_neg h4,Ua] at h3;exact A5 [] (by simp[AB,h3])
  refine Ac rfl ?_;simp[hw];exact⟨i+1,by omega,by omega,A5 [] (by simp[AB])⟩
 rw[Qa] at h;obtain rfl:i=N.length:=by omega
 refine rs [10] [] [] ?_;exact Bl
variable {N:Nat} {A:List Ed} {f:List Int}
structure Kb where
 gone:Bool
 e:Ed
def K6 (g:Gr) (f t:Int):Prop:=∃ x∈g.edges,x.f=f/\x.t=t
theorem Bd.asymm {a b:Ed} (h:Bd a b):¬ Bd b a:=by unfold Bd at *;omega
theorem Bd.irrefl (a:Ed):¬ Bd a a:=by unfold Bd;omega
theorem AI.of {s:Int} {E:List Ed} {go:List Int} (h0:0<=s) (h1:s<=64) (hl:E.length<=500) (hg:Bu go 0 (s - 1)) (hp:E.Pairwise Bd) (hf:∀ e∈E,BO ⟨s,E,go⟩ e/\1<=e.v/\e.v<=3):AI ⟨s,E,go⟩ :=
 ⟨⟨h0,h1,hl,hg⟩,λ i hi=>⟨(hf _ (Qj hi)).1,(hf _ (Qj hi)).2.1,(hf _ (Qj hi)).2.2,λ h0=>KH.2 (QX.1 hp (i - 1) i (by simp only at hi;omega) hi (by omega))⟩⟩
variable {g:Gr} {f t:Int} {e:Ed}
theorem AI.val (hg:AI g):∀ e∈g.edges,1<=e.v/\e.v<=3:=λ e he=>by
 obtain⟨i,hi,rfl⟩:=Uq he;exact⟨(hg.2 i hi).2.1,(hg.2 i hi).2.2.1⟩
theorem AI.uniq (hg:AI g) {x y:Ed} (hx:x∈g.edges) (hy:y∈g.edges) (hf:x.f=y.f) (ht:x.t=y.t):x=y:=by
 obtain⟨i,hi,rfl⟩:=Uq hx;obtain⟨j,hj,rfl⟩:=Uq hy;rcases Nat.lt_trichotomy i j with h | h | h
 .have:=hg.lt j i hi hj h
  unfold Bd at this;omega
 .subst h;rfl
 .have:=hg.lt i j hj hi h
  unfold Bd at this;omega
theorem zpo:∀ {a b:List Ed},a.Pairwise Bd->b.Pairwise Bd->(∀ x,x∈a↔x∈b)->a=b
 | [],[],_,_,_=>rfl
 | [],y::b,_,_,h=>absurd ((h y).2 Qn) (by simp)
 | x::a,[],_,_,h=>absurd ((h x).1 Qn) (by simp)
 | x::a,y::b,ha,hb,h=>by
   rw[Uw] at ha hb
   have h0:x=y:=by
    rcases Qs.1 ((h x).1 Qn) with h1 | h1
    .exact h1
    rcases Qs.1 ((h y).2 Qn) with h2 | h2
    .exact h2.symm
    exact absurd (ha.1 y h2) (hb.1 x h1).asymm
   subst h0;rw[zpo ha.2 hb.2 λ z=>⟨λ hz=>?_,λ hz=>?_⟩]
   .rcases Qs.1 ((h z).1 (Ql _ hz)) with h1 | h1
    .subst h1;exact absurd (ha.1 z hz) (Bd.irrefl z)
    .exact h1
   .rcases Qs.1 ((h z).2 (Ql _ hz)) with h1 | h1
    .subst h1;exact absurd (hb.1 z hz) (Bd.irrefl z)
    .exact h1
theorem Yy {a b:Gr} (ha:AI a) (hb:AI b) (hs:a.size=b.size) (hg:a.gone=b.gone) (h:∀ x,x∈a.edges↔x∈b.edges):a=b:=by
 obtain⟨s,E,go⟩:=a;obtain⟨s',E',go'⟩:=b;have:=zpo ha.pair hb.pair h;simp only at hs hg this;subst hs hg this;rfl
structure Wg (g g':Gr) (s:Kb):Prop where
 ok:AI g'
 size:g'.size=g.size
 gone:g'.gone=g.gone
 len:g'.edges.length<=g.edges.length+1
 mem:∀ x,x∈g'.edges↔(s.gone=false/\x=s.e)∨(x∈g.edges/\¬ (s.gone=true/\x.f=s.e.f/\x.t=s.e.t))
theorem Wg.has {g':Gr} {s:Kb} (h:Wg g g' s) {f t:Int} (h0:¬ (s.e.f=f/\s.e.t=t)):K6 g' f t↔K6 g f t:=by
 constructor
 .rintro ⟨x,hx,hf,ht⟩
  rcases(h.mem x).1 hx with h1 | h1
  .obtain ⟨_,rfl⟩:=h1
   exact absurd ⟨hf,ht⟩ h0
  .exact ⟨x,h1.1,hf,ht⟩
 .rintro ⟨x,hx,hf,ht⟩
  refine⟨x,(h.mem x).2 (.inr ⟨hx,λ hc=>h0 ?_⟩),hf,ht⟩;exact⟨hc.2.1.symm.trans hf,hc.2.2.symm.trans ht⟩
theorem AI.nodup (hg:AI g):g.edges.Nodup:=hg.pair.imp λ h he=>by subst he;exact Bd.irrefl _ h
def BH (a b:Int) (i:Nat):List Ed:=(List.range i).flatMap λ (x:Nat)=>if (x:Int)≠a/\(x:Int)≠b then [⟨2+2*x,3+2*x,1⟩] else []
def B8 (lv a b:Int) (e:Ed):List Ed:=if e.v<lv∨e.t=a∨e.f=b then [] else [⟨if e.f=a then 0 else 3+2*e.f,if e.t=b then 1 else 2+2*e.t,1⟩]
def BX (g:Gr) (lv a b:Int):List Ed:=BH a b g.size.toNat++g.edges.flatMap (B8 lv a b)
def FJ (g:Gr) (lv a b:Int):Prop:=(1<=lv/\lv<=3)/\(0<=a/\a<=g.size - 1)/\(0<=b/\b<=g.size - 1)/\a≠b
instance (g:Gr) (lv a b:Int):Decidable (FJ g lv a b):=by unfold FJ;infer_instance
def Ea (g:Gr) (lv a b:Int):Int:=if FJ g lv a b then CC (2+2*g.size.toNat) (BX g lv a b) else 0
section
variable {g:Gr} {lv a b:Int}
theorem Ni (i:Nat):BH a b (i+1)=BH a b i++if (i:Int)≠a/\(i:Int)≠b then [⟨2+2*i,3+2*i,1⟩] else []:=by
 unfold BH;rw[Uk,List.flatMap_append];simp
theorem KW (i:Nat):(BH a b i).length<=i:=by
 induction i with
 | zero=>simp[BH]
 | succ i ih=>rw[Ni,Qg];split<;>simp<;>omega
theorem bI (e:Ed):(B8 lv a b e).length<=1:=by unfold B8;split<;>simp
theorem Ma:∀ l:List Ed,(l.flatMap (B8 lv a b)).length<=l.length
 | []=>by simp
 | e::l=>by
   have:=Ma l;have:=bI (lv:=lv) (a:=a) (b:=b) e;simp only[Vf,Qg,QN];omega
theorem Sr {l:List Ed} {i:Nat} (h:i<l.length):(l.take (i+1)).flatMap (B8 lv a b)=(l.take i).flatMap (B8 lv a b)++B8 lv a b l[i]:=by
 rw[Qm h,List.flatMap_append];simp
theorem uP (g:Gr) (lv a b:Int):(AM g lv).edges.flatMap (B8 lv a b)=g.edges.flatMap (B8 lv a b):=by
 unfold AM;simp only
 induction g.edges with
 | nil=>rfl
 | cons e l ih =>
   rw[Vk,Vf]
   by_cases h:e.v<lv
   .have h2:B8 lv a b e=[]:=by unfold B8;rw[if_pos (.inl h)]
    simp[h,h2,ih]
   .simp [h,ih]
theorem MT (hg:AI g):Cu ⟨2+2*g.size.toNat,BX g lv a b⟩:=by
 have h0:=hg.1.1;have h1:=hg.1.2.1;have h2:=hg.edges_le;have h3:=KW (a:=a) (b:=b) g.size.toNat;have h4:=Ma (lv:=lv) (a:=a) (b:=b) g.edges;refine⟨by simp only;omega,by simp only;omega,by simp only[BX,Qg];omega,λ x hx=>?_⟩
 unfold BX at hx;rcases Qq.1 hx with hx | hx
 .unfold BH at hx
  obtain⟨k,hk,hx⟩:=List.mem_flatMap.1 hx;have hk:=Qy.1 hk;split at hx
  .simp at hx
   subst hx;unfold GF;simp only;omega
  .simp at hx
 .obtain ⟨e,he,hx⟩:=List.mem_flatMap.1 hx
  have hf:=hg.fits e he;unfold BO at hf;unfold B8 at hx;split at hx
  .simp at hx
  .simp at hx
   subst hx;unfold GF;simp only;split<;>split<;>omega
end
theorem ML (k:Int) (h0:0<=k) (h:k<=1000):AcP 137 [.I k] [] (.I (2+2*k)) []:=by
 refine c6.s.ai ?_;have h1:=w6 (x:=2*k);have h2:=w6 (x:=2+2*k);refine rs [0] [] [] ?_;refine rx (s:=?z2) [2] [] [] rfl ?p2 ?r2
 case p2=>simp[h1,h2];rfl
 exact Bl
theorem uI (g:Gr) (lv a b:Int) (h0:0<=g.size) (h4:g.size<=64):AcP 96 [eG g,.I lv,.I a,.I b] [] (.B (decide (FJ g lv a b))) []:=by
 refine uR.s.ai ?_;have hw:=w6 (x:=g.size - 1);refine rs [1,2,3,4] [] [16] ?_;refine arc ⟨30,[(8,.B (decide (FJ g lv a b)))],[],900⟩ ?_ ?_
 .simp
  refine Aj (Ev lv 1 3) ?_
  by_cases h1:1<=lv/\lv<=3
  .simp [h1,hw]
   refine Aj (Ev a 0 (g.size - 1)) ?_
   by_cases h2:0<=a/\a<=g.size - 1
   .simp [h2,hw]
    refine Aj (Ev b 0 (g.size - 1)) ?_
    by_cases h3:0<=b/\b<=g.size - 1
    .simp [h3]
     exact AF [] [] (by simp<;>exact Aw (by rw[Qp];simp[FJ,h1,h2,h3]))
    .have hb:(decide (0<=b) && decide (b<=g.size - 1))=false:=by simpa using λ h=>by omega
     simp[hb];exact AF [] [] (by simp[FJ,h3])
   .have hb:(decide (0<=a) && decide (a<=g.size - 1))=false:=by simpa using λ h=>by omega
    simp[hb];exact AF [] [] (by simp[FJ,h2])
  .have hb:(decide (1<=lv) && decide (lv<=3))=false:=by simpa using λ h=>by omega
   simp[hb];exact AF [] [] (by simp[FJ,h1])
 exact Bl
def sg (k:Nat):Int:=if k % 2=0 then 1 else -1
theorem TY (k:Nat):sg (k+1) = - sg k:=by
 unfold sg;rcases Nat.mod_two_eq_zero_or_one k with h | h
 .have h':¬ (k+1) % 2=0:=by omega
  rw[if_pos h,if_neg h']
 .have h':(k+1) % 2=0:=by omega
  have h0:¬ k % 2=0:=by omega
  rw[if_neg h0,if_pos h'];rfl
abbrev C0:=Nat->Int
def BL (F:List C0->Int) (r:Nat):List C0->List C0->Int
 | _,[]=>0
 | pre,c::rest=>sg pre.length*c r*F (pre++rest)+BL F r (pre++[c]) rest
def Ci:Nat->Nat->List C0->Int
 | 0,_,_=>1
 | n+1,r,cs=>BL (Ci n (r+1)) r [] cs
def Gb (n:Nat) (F:List C0->Int):Prop:=∀ (x y:Int) (u v:C0) (pre post:List C0),pre.length+1+post.length=n->F (pre++(λ i=>x*u i+y*v i)::post)=x*F (pre++u::post)+y*F (pre++v::post)
def KM (n:Nat) (F:List C0->Int):Prop:=∀ (u:C0) (pre post:List C0),pre.length+2+post.length=n->F (pre++u::u::post)=0
section
variable {F:List C0->Int} {n r:Nat} {u v w:C0} {x y:Int}
theorem VU (hF:Gb n F):∀ (h0 p1 p2:List C0),p1.length+1+p2.length+h0.length=n+1->BL F r (p1++(λ i=>x*u i+y*v i)::p2) h0=x*BL F r (p1++u::p2) h0+y*BL F r (p1++v::p2) h0
 | [],_,_,_=>by simp[BL]
 | c::h0,p1,p2,hl=>by
   simp only[QN] at hl;have h1:=VU hF h0 p1 (p2++[c]) (by simp;omega)
   have h2:=hF x y u v p1 (p2++h0) (by simp;omega)
   simp only[BL,Qu,QR,Qg,QN] at *;rw[h1,h2]
   grind
theorem VE (hF:Gb n F):∀ (pre h0 h3:List C0),h0.length+pre.length+1+h3.length=n+1->BL F r h0 (pre++(λ i=>x*u i+y*v i)::h3)=x*BL F r h0 (pre++u::h3)+y*BL F r h0 (pre++v::h3)
 | [],h0,h3,hl=>by
   simp only[UP] at hl;have h1:=VU (r:=r) (x:=x) (y:=y) (u:=u) (v:=v) hF h3 h0 [] (by simp;omega)
   simp only[BL,Q5];rw[h1]
   grind
 | c::pre,h0,h3,hl=>by
   simp only[QN] at hl;have h1:=VE hF pre (h0++[c]) h3 (by simp;omega)
   have h2:=hF x y u v (h0++pre) h3 (by simp;omega)
   simp only[BL,Qu,QR] at *;rw[h1,h2]
   grind
theorem RL (hF:KM n F):∀ (h0 p1 p2:List C0),p1.length+2+p2.length+h0.length=n+1->BL F r (p1++u::u::p2) h0=0
 | [],_,_,_=>by simp[BL]
 | c::h0,p1,p2,hl=>by
   simp only[QN] at hl;have h1:=RL hF h0 p1 (p2++[c]) (by simp;omega)
   have h2:=hF u p1 (p2++h0) (by simp;omega)
   simp only[BL,Qu,QR,Qg,QN] at *;rw[h1,h2];simp
theorem Sz (hF:KM n F):∀ (pre h0 h3:List C0),h0.length+pre.length+2+h3.length=n+1->BL F r h0 (pre++u::u::h3)=0
 | [],h0,h3,hl=>by
   simp only[UP] at hl;have h1:=RL (r:=r) (u:=u) hF h3 h0 [] (by simp;omega)
   simp only[BL,Q5,Qu,QR,Qg,QN,UP,Q1] at *;rw[h1,TY]
   grind
 | c::pre,h0,h3,hl=>by
   simp only[QN] at hl;have h1:=Sz hF pre (h0++[c]) h3 (by simp;omega)
   have h2:=hF u (h0++pre) h3 (by simp;omega)
   simp only[BL,Qu,QR] at *;rw[h1,h2];simp
end
theorem RH:∀ (n r:Nat),Gb n (Ci n r)
 | 0,_=>λ _ _ _ _ pre post h=>by omega
 | n+1,r=>λ x y u v pre post h=>VE (RH n (r+1)) pre [] post (by simpa using h)
theorem Wq:∀ (n r:Nat),KM n (Ci n r)
 | 0,_=>λ _ pre post h=>by omega
 | n+1,r=>λ u pre post h=>Sz (Wq n (r+1)) pre [] post (by simpa using h)
section
variable {F:List C0->Int} {n:Nat}
theorem rR (hL:Gb n F) (hA:KM n F) (u v:C0) (pre h0:List C0) (h:pre.length+2+h0.length=n):F (pre++u::v::h0) = - F (pre++v::u::h0):=by
 have e1:=hA (λ i=>1*u i+1*v i) pre h0 h;have e2:=hL 1 1 u v pre ((λ i=>1*u i+1*v i)::h0) (by simp;omega)
 have e3:=hL 1 1 u v (pre++[u]) h0 (by simp;omega)
 have e4:=hL 1 1 u v (pre++[v]) h0 (by simp;omega)
 have e5:=hA u pre h0 h;have e6:=hA v pre h0 h;simp only[Qu,QR,Q5] at *;rw[e2,e3,e4,e5,e6] at e1;omega
theorem W7 (hL:Gb n F) (hA:KM n F) (u:C0):∀ (mid pre h0:List C0),pre.length+2+mid.length+h0.length=n->F (pre++u::mid++u::h0)=0
 | [],pre,h0,h=>by
   have:=hA u pre h0 (by simpa using h)
   simpa using this
 | c::mid,pre,h0,h=>by
   simp only[QN] at h;have h1:=W7 hL hA u mid (pre++[c]) h0 (by simp;omega)
   have h2:=rR hL hA u c pre (mid++u::h0) (by simp;omega)
   simp only[Qu,QR,Q5] at *;rw[h2,h1];rfl
theorem RU (hL:Gb n F) (hA:KM n F) (c:C0) (a:Int) (h4:C0->Int):∀ (h0 pre:List C0),pre.length+1+h0.length=n ->
  F (c::pre++h0.map λ v=>λ i=>a*v i + - h4 v*c i)=a ^ h0.length*F (c::pre++h0)
 | [],pre,_=>by simp
 | v::h0,pre,h=>by
   simp only[QN] at h;have h1:=RU hL hA c a h4 h0 (pre++[λ i=>a*v i + - h4 v*c i]) (by simp;omega)
   have h2:=hL a (- h4 v) v c (c::pre) h0 (by simp;omega)
   have h3:=W7 hL hA c pre [] h0 (by simp;omega)
   simp only[Qu,QR,Q5,Qo,QN] at *;rw[h1,h2,h3]
   grind
end
theorem R5 {F:List C0->Int} {r:Nat}:∀ (h0 pre:List C0),(∀ v∈h0,v r=0)->BL F r pre h0=0
 | [],_,_=>rfl
 | c::h0,pre,h=>by
   simp only[BL];rw[h c (by simp),R5 h0 (pre++[c]) λ v hv=>h v (by simp[hv])]
   simp
theorem oI (n r:Nat) (c:C0) (cs:List C0) (h:cs.length=n):c r ^ n*Ci (n+1) r (c::cs)=c r*Ci n (r+1) (cs.map λ v=>λ i=>c r*v i + - v r*c i):=by
 have h1:=RU (RH (n+1) r) (Wq (n+1) r) c (c r) (λ v=>v r) cs [] (by simp;omega)
 simp only[QR,Q5] at h1;rw[h] at h1;rw[<- h1];simp only[Ci,BL,UP,Q5]
 rw[R5 _ [c] λ v hv=>by
  obtain⟨w,_,rfl⟩:=Qi.1 hv
  grind]
 simp[sg]
theorem R6 {F G:List C0->Int} {r:Nat} (s:C0->C0) (hs:∀ v,v (r+1)=s v r):∀ (h0 pre:List C0),(∀ l:List C0,l.length+1=pre.length+h0.length->F l=G (l.map s))->BL F (r+1) pre h0=BL G r (pre.map s) (h0.map s)
 | [],_,_=>rfl
 | c::h0,pre,h=>by
   simp only[QN] at h;have h1:=R6 s hs h0 (pre++[c]) (λ l hl=>h l (by simp at hl;omega))
   have h2:=h (pre++h0) (by simp;omega)
   simp only[BL,Qo,Qr];rw[h1,h2,hs c];simp
theorem Ra:∀ (n r:Nat) (cs:List C0),Ci n (r+1) cs=Ci n r (cs.map λ v=>λ i=>v (i+1))
 | 0,_,_=>rfl
 | n+1,r,cs=>by
   simp only[Ci];exact R6 (λ v=>λ i=>v (i+1)) (λ _=>rfl) cs [] λ l _=>Ra n (r+1) l
abbrev BS:=Nat->Nat->Int
def BM (n:Nat) (A:BS):Int:=Ci n 0 ((List.range n).map λ j=>λ i=>A i j)
def chio (A:BS):BS:=λ i j=>A 0 0*A (i+1) (j+1) - A 0 (j+1)*A (i+1) 0
theorem Ph (n:Nat) (A:BS):A 0 0 ^ n*BM (n+1) A=A 0 0*BM n (chio A):=by
 unfold BM;rw[List.range_succ_eq_map,Qo];have h:=oI n 0 (λ i=>A i 0) (((List.range n).map Nat.succ).map λ j=>λ i=>A i j) (by simp)
 rw[h,Ra]
 congr 2
 rw[List.map_map,List.map_map,List.map_map];refine QF λ j _=>?_
 funext i
 simp only[Function.comp_apply,chio,Nat.succ_eq_add_one]
 grind
def BP:Nat->(Nat->Int)->Int
 | 0,_=>0
 | n+1,f=>f 0+BP n λ i=>f (i+1)
theorem GX:∀ (n:Nat) {f g:Nat->Int},(∀ i,i<n->f i=g i)->BP n f=BP n g
 | 0,_,_,_=>rfl
 | n+1,f,g,h=>by
   simp only[BP];rw[h 0 (by omega),GX n λ i hi=>h (i+1) (by omega)]
theorem Po (a b:Int):∀ (n:Nat) (f g:Nat->Int),BP n (λ j=>a*f j - b*g j)=a*BP n f - b*BP n g
 | 0,_,_=>by simp[BP]
 | n+1,f,g=>by
   simp only[BP];rw[Po a b n]
   grind
theorem MR:∀ (n:Nat),BP n (λ _=>0)=0
 | 0=>rfl
 | n+1=>by simp only[BP];rw[MR n];rfl
def EX:Nat->(Nat->Int)->Int
 | 0,_=>1
 | n+1,f=>f 0*EX n λ i=>f (i+1)
def Ft (n:Nat) (A:BS) (S:Nat->Bool) (i:Nat):Int:=BP n λ j=>if S j then A i j else 0
structure MM (n:Nat) (A:BS):Prop where
 off:∀ i j,i<n->j<n->i≠j->A i j<=0
 non:∀ (S:Nat->Bool) (i:Nat),i<n->S i=true->0<=Ft n A S i
 leak:∀ S:Nat->Bool,(∃ i,i<n/\S i=true) -> ∃ i,i<n/\S i=true/\0<Ft n A S i
def GG (b:Bool) (S:Nat->Bool):Nat->Bool
 | 0=>b
 | j+1=>S j
section
variable {n:Nat} {A:BS}
theorem L5 (S:Nat->Bool) (i:Nat):Ft (n+1) A (GG true S) i=A i 0+BP n λ j=>if S j then A i (j+1) else 0:=by
 rfl
theorem rZ (S:Nat->Bool) (i:Nat):Ft (n+1) A (GG false S) i=BP n λ j=>if S j then A i (j+1) else 0:=by
 show (0:Int)+BP n (λ j=>if S j then A i (j+1) else 0)=_
 rw[Int.zero_add]
theorem MM.pos (h:MM (n+1) A):0<A 0 0:=by
 obtain⟨i,hi,hs,hp⟩:=h.leak (GG true λ _=>false) ⟨0,by omega,rfl⟩
 cases i with
 | zero =>
   rw[L5] at hp;simp[MR] at hp;exact hp
 | succ i=>simp[GG] at hs
theorem MB (S:Nat->Bool) (i:Nat):Ft n (chio A) S i=A 0 0*Ft (n+1) A (GG true S) (i+1) - A (i+1) 0*Ft (n+1) A (GG true S) 0:=by
 rw[L5,L5];have h:=Po (A 0 0) (A (i+1) 0) n (λ j=>if S j then A (i+1) (j+1) else 0) (λ j=>if S j then A 0 (j+1) else 0)
 have h2:Ft n (chio A) S i=BP n (λ j=>A 0 0*(if S j then A (i+1) (j+1) else 0) - A (i+1) 0*(if S j then A 0 (j+1) else 0)):=by
  unfold Ft;refine GX n λ j _=>?_
  cases S j
  .simp
  .simp [chio];grind
 rw[h2,h]
 grind
theorem MM.chio (h:MM (n+1) A):MM n (chio A):=by
 have h0:=h.pos;refine⟨λ i j hi hj ha=>?_,λ S i hi hs=>?_,λ S hS=>?_⟩
 .have h1:=h.off (i+1) (j+1) (by omega) (by omega) (by omega)
  have h2:=h.off 0 (j+1) (by omega) (by omega) (by omega)
  have h3:=h.off (i+1) 0 (by omega) (by omega) (by omega)
  have h4:=Int.mul_nonneg_of_nonpos_of_nonpos h2 h3;have h5:=Int.mul_nonneg (Int.le_of_lt h0) (Int.neg_nonneg_of_nonpos h1);rw[Int.mul_neg] at h5;unfold Go.Proofs.YtkngdgplbojdlaaGreat.chio;omega
 .rw [MB]
  have h1:=h.non (GG true S) (i+1) (by omega) hs
  have h2:=h.non (GG true S) 0 (by omega) rfl
  have h3:=h.off (i+1) 0 (by omega) (by omega) (by omega)
  have h4:=Int.mul_nonneg (Int.le_of_lt h0) h1;have h5:=Int.mul_nonneg (Int.neg_nonneg_of_nonpos h3) h2;rw[Int.neg_mul] at h5;omega
 .obtain ⟨k,hk,h9⟩:=hS
  obtain⟨i,hi,hs,hp⟩:=h.leak (GG true S) ⟨0,by omega,rfl⟩
  have h2:=h.non (GG true S) 0 (by omega) rfl
  cases i with
  | succ i =>
    refine⟨i,by omega,hs,?_⟩
    rw[MB];have h3:=h.off (i+1) 0 (by omega) (by omega) (by omega)
    have h4:=Int.mul_pos h0 hp;have h5:=Int.mul_nonneg (Int.neg_nonneg_of_nonpos h3) h2;rw[Int.neg_mul] at h5;omega
  | zero =>
    by_cases h6:∃ j,j<n/\S j=true/\A (j+1) 0≠0
    .obtain ⟨j,hj,h7,hb⟩:=h6
     refine⟨j,hj,h7,?_⟩;rw[MB];have h1:=h.non (GG true S) (j+1) (by omega) h7
     have h3:=h.off (j+1) 0 (by omega) (by omega) (by omega)
     have h4:=Int.mul_nonneg (Int.le_of_lt h0) h1;have h5:=Int.mul_pos (a:=- A (j+1) 0) (by omega) hp
     rw[Int.neg_mul] at h5;omega
    .obtain ⟨i,hi,hs,hp⟩:=h.leak (GG false S) ⟨k+1,by omega,h9⟩
     cases i with
     | zero=>simp[GG] at hs
     | succ i =>
       refine⟨i,by omega,hs,?_⟩
       have hz:A (i+1) 0=0:=Classical.byContradiction λ hz=>h6 ⟨i,by omega,hs,hz⟩
       rw[MB,hz,L5,hz];rw[rZ] at hp;have h4:=Int.mul_pos h0 hp
       simpa using h4
theorem Mi:∀ (n:Nat) {A:BS},MM n A->0<BM n A
 | 0,_,_=>by show (0:Int)<1;decide
 | n+1,A,h=>by
   have h0:=h.pos;have h1:=Mi n h.chio;have h2:=Ph n A;have h3:0<A 0 0 ^ n:=Int.pow_pos h0;have h4:=Int.mul_pos h0 h1;rw[<- h2] at h4;exact Int.pos_of_mul_pos_right h4 h3
theorem O2:∀ (n:Nat) (f:Nat->Int) (i:Nat),i<n->(BP n λ j=>if decide (j=i) then f j else 0)=f i
 | n+1,f,0,_=>by
   have h:=GX n (f:=λ j=>if decide (j+1=0) then f (j+1) else 0) (g:=λ _=>0) λ j _=>by simp
   simp only[BP];rw[h,MR];simp
 | n+1,f,i+1,hi=>by
   have h:=O2 n (λ j=>f (j+1)) i (by omega)
   have h2:=GX n (f:=λ j=>if decide (j+1=i+1) then f (j+1) else 0) (g:=λ j=>if decide (j=i) then f (j+1) else 0) λ j _=>by simp
   simp only[BP];rw[h2,h];simp
theorem MM.diag (h:MM n A):∀ i,i<n->0<=A i i:=λ i hi=>by
 have h1:=h.non (λ j=>decide (j=i)) i hi (by simp)
 unfold Ft at h1;rw[O2 n (λ j=>A i j) i hi] at h1;exact h1
theorem PF:∀ (n:Nat) {f:Nat->Int},(∀ i,i<n->0<=f i)->0<=EX n f
 | 0,_,_=>by show (0:Int)<=1;decide
 | n+1,f,h=>Int.mul_nonneg (h 0 (by omega)) (PF n λ i hi=>h (i+1) (by omega))
theorem YC:∀ (n:Nat) {f g:Nat->Int},(∀ i,i<n->0<=f i/\f i<=g i)->EX n f<=EX n g
 | 0,_,_,_=>UX _
 | n+1,f,g,h=>by
   have h0:=h 0 (by omega)
   have h1:=YC n (f:=λ i=>f (i+1)) (g:=λ i=>g (i+1)) λ i hi=>h (i+1) (by omega)
   have h2:=PF n (f:=λ i=>f (i+1)) λ i hi=>(h (i+1) (by omega)).1
   exact Int.mul_le_mul h0.2 h1 h2 (by omega)
theorem Tn (a:Int):∀ (n:Nat) (f:Nat->Int),EX n (λ i=>a*f i)=a ^ n*EX n f
 | 0,_=>by simp[EX]
 | n+1,f=>by
   simp only[EX];rw[Tn a n]
   grind
theorem MF:∀ (n:Nat) {A:BS},MM n A->BM n A<=EX n λ i=>A i i
 | 0,_,_=>UX _
 | n+1,A,h=>by
   have h0:=h.pos;have h1:=MF n h.chio;have h2:=Ph n A;have h3:0<A 0 0 ^ n:=Int.pow_pos h0;have hd:=h.chio.diag
   have hm:(EX n λ i=>Go.Proofs.YtkngdgplbojdlaaGreat.chio A i i)<=EX n λ i=>A 0 0*A (i+1) (i+1):=YC n λ i hi=>by
    refine⟨hd i hi,?_⟩;have h4:=h.off 0 (i+1) (by omega) (by omega) (by omega)
    have h5:=h.off (i+1) 0 (by omega) (by omega) (by omega)
    have h6:=Int.mul_nonneg_of_nonpos_of_nonpos h4 h5;unfold Go.Proofs.YtkngdgplbojdlaaGreat.chio;omega
   rw[Tn (A 0 0) n λ i=>A (i+1) (i+1)] at hm
   have h7:A 0 0 ^ n*BM (n+1) A<=A 0 0 ^ n*(A 0 0*EX n λ i=>A (i+1) (i+1)):=by
    rw[h2];have h8:=Int.mul_le_mul_of_nonneg_left (Int.le_trans h1 hm) (Int.le_of_lt h0)
    grind
   exact Int.le_of_mul_le_mul_left h7 h3
end
variable {A:BS} {n:Nat} {o p:Int}
def Cg (p x y:Int):Prop:=p∣x - y
section
variable {p x y z u v:Int}
theorem Cg.refl (x:Int):Cg p x x:=by unfold Cg;rw[Int.sub_self];exact Int.dvd_zero p
theorem Cg.symm (h:Cg p x y):Cg p y x:=by
 unfold Cg at *;obtain⟨k,hk⟩:=h;exact⟨-k,by grind⟩
theorem Cg.trans (h:Cg p x y) (h2:Cg p y z):Cg p x z:=by
 unfold Cg at *;obtain⟨k,hk⟩:=h;obtain⟨l,hl⟩:=h2;exact⟨k+l,by grind⟩
theorem Cg.add (h:Cg p x y) (h2:Cg p u v):Cg p (x+u) (y+v):=by
 unfold Cg at *;obtain⟨k,hk⟩:=h;obtain⟨l,hl⟩:=h2;exact⟨k+l,by grind⟩
theorem Cg.sub (h:Cg p x y) (h2:Cg p u v):Cg p (x - u) (y - v):=by
 unfold Cg at *;obtain⟨k,hk⟩:=h;obtain⟨l,hl⟩:=h2;exact⟨k - l,by grind⟩
theorem Cg.mul (h:Cg p x y) (h2:Cg p u v):Cg p (x*u) (y*v):=by
 unfold Cg at *;obtain⟨k,hk⟩:=h;obtain⟨l,hl⟩:=h2;exact⟨k*u+y*l,by grind⟩
theorem Cg.pow (h:Cg p x y):∀ n:Nat,Cg p (x ^ n) (y ^ n)
 | 0=>by rw[Int.pow_zero,Int.pow_zero];exact .refl 1
 | n+1=>by rw[Int.pow_succ,Int.pow_succ];exact(h.pow n).mul h
theorem Cg.emod (x:Int):Cg p (x % p) x:=by
 unfold Cg;exact⟨- (x / p),by have:=Int.mul_ediv_add_emod x p;grind⟩
theorem Cg.eq (h:Cg p x y) (hx:0<=x) (h0:x<p) (hy:0<=y) (h3:y<p):x=y:=by
 unfold Cg at h;have h1:=(Int.emod_emod_of_dvd x (Int.dvd_refl p));have h2:x % p=y % p:=Int.emod_eq_emod_iff_emod_sub_eq_zero.2 (Int.emod_eq_zero_of_dvd h)
 rwa [Int.emod_eq_of_lt hx h0,Int.emod_eq_of_lt hy h3] at h2
end
section
variable {p:Int} {F G:List C0->Int} {f g:Nat->C0} {r:Nat}
theorem VS (hF:∀ l:List Nat,Cg p (F (l.map f)) (G (l.map g))) (h0:∀ j i,Cg p (f j i) (g j i)):∀ rest pre:List Nat,Cg p (BL F r (pre.map f) (rest.map f)) (BL G r (pre.map g) (rest.map g))
 | [],_=>.refl 0
 | c::rest,pre=>by
   have h1:=VS hF h0 rest (pre++[c]);have h2:=hF (pre++rest);simp only[QT,Qo,UE] at h1 h2;simp only[BL,Qo,Qr];exact(((Cg.refl _).mul (h0 c r)).mul h2).add h1
theorem S9 (h0:∀ j i,Cg p (f j i) (g j i)):∀ (n r:Nat) (l:List Nat),Cg p (Ci n r (l.map f)) (Ci n r (l.map g))
 | 0,_,_=>.refl 1
 | n+1,r,l=>by
   have:=VS (r:=r) (S9 h0 n (r+1)) h0 l []
   simpa only[Ci,UE] using this
theorem Re (a:Int) {n:Nat} (hF:∀ l:List Nat,l.length=n->F (l.map λ j=>λ i=>a*f j i)=a ^ n*F (l.map f)):∀ rest pre:List Nat,pre.length+rest.length=n+1 ->
  BL F r (pre.map λ j=>λ i=>a*f j i) (rest.map λ j=>λ i=>a*f j i)=a ^ (n+1)*BL F r (pre.map f) (rest.map f)
 | [],_,_=>by simp[BL]
 | c::rest,pre,h=>by
   simp only[QN] at h;have h1:=Re a hF rest (pre++[c]) (by simp;omega)
   have h2:=hF (pre++rest) (by simp;omega)
   simp only[QT,Qo,UE] at h1 h2;simp only[BL,Qo,Qr];rw[h1,h2]
   grind
theorem VM (a:Int):∀ (n r:Nat) (l:List Nat),l.length=n->Ci n r (l.map λ j=>λ i=>a*f j i)=a ^ n*Ci n r (l.map f)
 | 0,_,_,_=>by simp[Ci]
 | n+1,r,l,h=>by
   have:=Re (r:=r) a (VM a n (r+1)) l [] (by simpa using h)
   simpa only[Ci,UE] using this
end
theorem WA {B:BS} (h:∀ i j,Cg p (A i j) (B i j)) (n:Nat):Cg p (BM n A) (BM n B) :=
 S9 (f:=λ j=>λ i=>A i j) (g:=λ j=>λ i=>B i j) (λ j i=>h i j) n 0 (List.range n)
theorem oU (a:Int) (n:Nat) (A:BS):BM n (λ i j=>a*A i j)=a ^ n*BM n A :=
 VM (f:=λ j=>λ i=>A i j) a n 0 (List.range n) (by simp)
theorem mA (A:BS):BM 1 A=A 0 0:=by
 simp[BM,Ci,BL,Uk,sg]
theorem uW (A:BS):BM 0 A=1:=rfl
theorem gV {inv:Int} {B S:BS} (hi:Cg p (B 0 0*inv) 1) (hS:∀ i j,Cg p (S i j) (B (i+1) (j+1) - B (i+1) 0*inv*B 0 (j+1))) (m:Nat):Cg p (BM (m+1) B) (B 0 0*BM m S):=by
 have h1:∀ i j,Cg p (chio B i j) (B 0 0*S i j):=λ i j=>by
  have e1:=(Cg.refl (p:=p) (B 0 0)).mul (hS i j);refine Cg.trans ?_ e1.symm;unfold chio;have e2:Cg p (B (i+1) 0*(B 0 0*inv)*B 0 (j+1)) (B (i+1) 0*1*B 0 (j+1)):=((Cg.refl _).mul hi).mul (Cg.refl _);have e3:=(Cg.refl (p:=p) (B 0 0*B (i+1) (j+1))).sub e2.symm;have e4:B 0 0*B (i+1) (j+1) - B (i+1) 0*1*B 0 (j+1)=B 0 0*B (i+1) (j+1) - B 0 (j+1)*B (i+1) 0:=by grind
  have e5:B 0 0*B (i+1) (j+1) - B (i+1) 0*(B 0 0*inv)*B 0 (j+1)=B 0 0*(B (i+1) (j+1) - B (i+1) 0*inv*B 0 (j+1)):=by grind
  rwa [e4,e5] at e3
 have h2:=WA h1 m;rw[oU] at h2;have h3:=Ph m B;have h4:=(Cg.refl (p:=p) (B 0 0)).mul h2;rw[<- h3] at h4;have h5:=(Cg.refl (p:=p) (inv ^ m)).mul h4;have hp:=hi.pow m;rw[Int.one_pow,Int.mul_pow] at hp;have h6:=hp.mul (Cg.refl (p:=p) (BM (m+1) B));have h7:=hp.mul (Cg.refl (p:=p) (B 0 0*BM m S));have e1:inv ^ m*(B 0 0 ^ m*BM (m+1) B)=B 0 0 ^ m*inv ^ m*BM (m+1) B:=by grind
 have e2:inv ^ m*(B 0 0*(B 0 0 ^ m*BM m S))=B 0 0 ^ m*inv ^ m*(B 0 0*BM m S):=by grind
 rw[e1,e2] at h5;rw[Int.one_mul] at h6 h7;exact(h6.symm.trans h5).trans h7
theorem WU (S:Nat->Bool):∀ (n m:Nat) (f:Nat->Int),m<=n->(BP n λ j=>if (S j && decide (j<m)) then f j else 0)=BP m λ j=>if S j then f j else 0
 | n,0,f,_=>by
   have h:=GX n (f:=λ j=>if (S j && decide (j<0)) then f j else 0) (g:=λ _=>0) λ j _=>by simp
   rw[h,MR];rfl
 | n+1,m+1,f,h=>by
   have h1:=WU (λ j=>S (j+1)) n m (λ j=>f (j+1)) (by omega)
   have h2:=GX n (f:=λ j=>if (S (j+1) && decide (j+1<m+1)) then f (j+1) else 0) (g:=λ j=>if (S (j+1) && decide (j<m)) then f (j+1) else 0) λ j _=>by simp
   simp only[BP];rw[h2,h1];simp
theorem MM.lead {m:Nat} (h:MM n A) (hm:m<=n):MM m A:=by
 have h0:∀ (S:Nat->Bool) i,Ft n A (λ j=>S j && decide (j<m)) i=Ft m A S i:=λ S i=>WU S n m (λ j=>A i j) hm;refine⟨λ i j hi hj h1=>h.off i j (by omega) (by omega) h1,λ S i hi hs=>?_,λ S hS=>?_⟩
 .have:=h.non (λ j=>S j && decide (j<m)) i (by omega) (by simp[hs,hi])
  rwa [h0] at this
 .obtain ⟨k,hk,h2⟩:=hS
  obtain⟨i,hi,hs,hp⟩:=h.leak (λ j=>S j && decide (j<m)) ⟨k,by omega,by simp[h2,hk]⟩
  simp at hs;rw[h0] at hp;exact⟨i,hs.2,hs.1,hp⟩
structure Ei (p:Int) (A:BS) (k:Nat) (o:Int) (B:BS):Prop where
 det:∀ m,Cg p (BM (k+m) A) (o*BM m B)
theorem Ei.start (p:Int) (A:BS):Ei p A 0 1 A:=⟨λ m=>by rw[Q1,Int.one_mul];exact .refl _⟩
theorem Ei.next {inv:Int} {B S:BS} {k:Nat} (h:Ei p A k o B) (hi:Cg p (B 0 0*inv) 1) (hS:∀ i j,Cg p (S i j) (B (i+1) (j+1) - B (i+1) 0*inv*B 0 (j+1))) {o':Int} (ho:Cg p o' (o*B 0 0)):Ei p A (k+1) o' S:=⟨λ m=>by
 have h1:=h.det (m+1);rw[show k+1+m=k+(m+1) by omega]
 refine h1.trans ?_;have h2:=(Cg.refl (p:=p) o).mul (gV hi hS m);have h3:=ho.mul (Cg.refl (p:=p) (BM m S));rw[show o*(B 0 0*BM m S)=o*B 0 0*BM m S by grind] at h2
 exact h2.trans h3.symm⟩
theorem Ei.piv {B:BS} {k:Nat} (h:Ei p A k o B) (hA:MM n A) (hk:k<n) (hp:(EX (k+1) λ i=>A i i)<p):¬ Cg p (B 0 0) 0:=λ hz=>by
 have h1:=h.det 1;rw[mA] at h1;have h2:=h1.trans ((Cg.refl o).mul hz);rw[Int.mul_zero] at h2;have h3:=Mi (k+1) (hA.lead (by omega))
 have h4:=MF (k+1) (hA.lead (by omega))
 have h5:=h2.eq (by omega) (by omega) (UX 0) (by omega)
 omega
theorem Ei.done {B:BS} (h:Ei p A n o B) (hA:MM n A) (hp:(EX n λ i=>A i i)<p) (ho:0<=o) (h0:o<p):o=BM n A:=by
 have h1:=h.det 0;rw[uW,Int.mul_one,Ua] at h1;have h3:=Mi n hA;have h4:=MF n hA;exact(h1.eq (by omega) (by omega) ho h0).symm
variable {a q:Nat}
def FR (q:Nat):Prop:=1<q /\ ∀ d,d∣q->d=1∨d=q
theorem FR.cop (h:FR q) (ha:¬ q∣a):Nat.Coprime q a:=by
 rcases h.2 (Nat.gcd q a) (Nat.gcd_dvd_left q a) with h1 | h1
 .exact h1
 .exact absurd (h1 ▸ Nat.gcd_dvd_right q a) ha
theorem FR.euclid {b:Nat} (h:FR q) (hd:q∣a*b):q∣a∨q∣b:=by
 by_cases ha:q∣a
 .exact .inl ha
 .exact .inr ((h.cop ha).dvd_of_dvd_mul_left hd)
theorem OY {x y:Nat} (h:y % q=x % q):q∣y - x:=Nat.dvd_of_mod_eq_zero (Nat.sub_mod_eq_zero_of_mod_eq h)
theorem d6 {x y:Nat} (h0:x<=y) (h:q∣y - x):y % q=x % q:=by
 obtain⟨t,ht⟩:=h;rw[show y=x+q*t by omega,Nat.add_mul_mod_self_left]
theorem Xx:∀ {a b:List Nat},a.Nodup->(∀ x∈a,x∈b)->a.length=b.length->a.Perm b
 | [],b,_,_,hl=>by
   have:b=[]:=UJ.1 hl.symm;rw[this]
 | x::a,b,hn,hs,hl=>by
   have hx:=hs x (by simp)
   have h1:=List.perm_cons_erase hx;rw[Q7] at hn
   have h2:a.Perm (b.erase x):=by
    refine Xx hn.2 (λ y hy=>?_) ?_
    .have h0:y≠x:=λ h=>hn.1 (h ▸ hy)
     exact(List.mem_erase_of_ne h0).2 (hs y (by simp[hy]))
    .rw [List.length_erase_of_mem hx]
     simp only[QN] at hl;omega
   exact(h2.cons x).trans h1.symm
def Dh:List Nat->Nat
 | []=>1
 | x::l=>x*Dh l
theorem eZ {a b:List Nat} (h:a.Perm b):Dh a=Dh b:=by
 induction h with
 | nil=>rfl
 | cons x _ ih=>simp only[Dh];rw[ih]
 | swap x y l=>simp only[Dh];grind
 | trans _ _ ih1 ih2=>exact ih1.trans ih2
theorem Te (q a:Nat):∀ l:List Nat,Dh (l.map λ x=>a*x % q) % q=a ^ l.length*Dh l % q
 | []=>by simp[Dh]
 | x::l=>by
   have h:=Te q a l;simp only[Qo,Dh,QN];rw[Vr,h,Nat.mod_mod,<- Vr]
   congr 1
   grind
theorem zsK {q:Nat} (h:FR q):∀ l:List Nat,q∣Dh l -> ∃ x∈l,q∣x
 | [],hd=>by
   have:=Vs (by decide) hd
   have:=h.1;simp only[Dh] at *;omega
 | x::l,hd=>by
   rcases h.euclid hd with h1 | h1
   .exact ⟨x,by simp,h1⟩
   .obtain ⟨y,hy,h2⟩:=zsK h l h1
    exact⟨y,by simp[hy],h2⟩
theorem WE (h:FR q) (ha:¬ q∣a):a ^ (q - 1) % q=1:=by
 have h1:=h.1
 let l:=List.range' 1 (q - 1)
 have hb:l.length=q - 1:=by simp[l]
 have h7:∀ x∈l,1<=x/\x<q:=λ x hx=>by
  have:=List.mem_range'_1.1 hx;omega
 have hc:l.Nodup:=List.nodup_range';have h9:=h.cop ha
 have hp:(l.map λ x=>a*x % q).Perm l:=by
  refine Xx ?_ (λ y hy=>?_) (by simp)
  .rw [List.Nodup,U4]
   refine hc.imp_of_mem λ {x y} hx hy hi he=>hi ?_;have hf:=h7 x hx;have hj:=h7 y hy
   have key:∀ x y:Nat,x<=y->y<q->a*x % q=a*y % q->x=y:=λ x y ho hq he=>by
    have h2:q∣a*y - a*x:=OY he.symm;rw[<- Nat.mul_sub] at h2;have h3:q∣y - x:=h9.dvd_of_dvd_mul_left h2;rcases Un (y - x) with h4 | h4
    .omega
    .have:=Vs h4 h3
     omega
   rcases Nat.le_total x y with h5 | h5
   .exact key x y h5 hj.2 he
   .exact (key y x h5 hf.2 he.symm).symm
  .obtain ⟨x,hx,rfl⟩:=Qi.1 hy
   have hf:=h7 x hx;refine List.mem_range'_1.2 ?_;have h3:a*x % q<q:=Uf _ (by omega)
   have h4:a*x % q≠0:=λ h0=>by
    have h5:=Nat.dvd_of_mod_eq_zero h0;have h6:=h9.dvd_of_dvd_mul_left h5;have:=Vs (by omega) h6
    omega
   omega
 have h2:=Te q a l;rw[eZ hp,hb] at h2
 have hk:¬ q∣Dh l:=λ hd=>by
  obtain⟨x,hx,h3⟩:=zsK h l hd;have h4:=h7 x hx;have:=Vs (by omega) h3
  omega
 have hh:1<=a ^ (q - 1):=Nat.pow_pos (Nat.pos_of_ne_zero λ h0=>ha (h0 ▸ Nat.dvd_zero q))
 have h3:q∣a ^ (q - 1)*Dh l - 1*Dh l:=by
  refine OY ?_;rw[Nat.one_mul];exact h2.symm
 rw[<- Nat.sub_mul] at h3;have h4:=(h.cop hk).dvd_of_dvd_mul_right h3;rw[d6 hh h4,Vi h1]
theorem bA:∀ (n:Nat),1<n -> ∃ q,FR q/\q∣n:=by
 intro n
 induction n using Nat.strongRecOn with
 | _ n ih =>
   intro hn
   by_cases h:FR n
   .exact ⟨n,h,Nat.dvd_refl n⟩
   .have:∃ d,d∣n/\d≠1/\d≠n:=Classical.byContradiction λ hc=>h ⟨hn,λ d hd=>by
     by_cases h1:d=1
     .exact .inl h1
     .by_cases h2:d=n
      .exact .inr h2
      .exact absurd ⟨d,hd,h1,h2⟩ hc⟩
    obtain⟨d,hd,h1,h2⟩:=this;have h3:=Vs (by omega) hd
    have h4:d≠0:=λ h0=>by subst h0;have:=Nat.eq_zero_of_zero_dvd hd;omega
    obtain⟨q,hq,h5⟩:=ih d (by omega) (by omega)
    exact⟨q,hq,Nat.dvd_trans h5 hd⟩
variable {q r:Nat}
def DQ:Nat:=2305843009213693951
def HS (m:Nat):Nat->Nat->Nat->Nat->Nat
 | 0,_,_,acc=>acc
 | f+1,a,n,acc=>HS m f (a*a % m) (n / 2) (if n % 2=1 then acc*a % m else acc)
theorem XL (m:Nat):∀ (f a n acc:Nat),n<2 ^ f->HS m f a n acc % m=acc*a ^ n % m
 | 0,a,n,acc,h=>by
   have:n=0:=by simpa using h
   subst this;simp[HS]
 | f+1,a,n,acc,h=>by
   have h1:=XL m f (a*a % m) (n / 2) (if n % 2=1 then acc*a % m else acc) (by rw[Nat.pow_succ] at h;omega)
   simp only[HS];rw[h1];have h2:(a*a % m) ^ (n / 2) % m=(a*a) ^ (n / 2) % m:=(Nat.pow_mod _ _ _).symm;have h3:(a*a) ^ (n / 2)=a ^ (2*(n / 2)):=by rw[Nat.pow_mul,Nat.pow_two]
   rw[Vr,h2,h3];split
   .rename_i h4
    rw[Nat.mod_mod,<- Vr,Nat.mul_assoc,U6 a,<- Nat.pow_succ]
    congr 3
    omega
   .rename_i h4
    rw[<- Vr]
    congr 3
    omega
theorem tM {h:Nat} (hq:1<q) (m n:Nat):h ^ m % q=1->h ^ n % q=1->h ^ Nat.gcd m n % q=1:=by
 induction m,n using Nat.gcd.induction with
 | H0 n=>intro _ h2;simpa using h2
 | H1 m n hm ih =>
   intro h1 h2;rw[Nat.gcd_rec];refine ih ?_ h1
   have e:h ^ n=(h ^ m) ^ (n / m)*h ^ (n % m):=by
    rw[<- Nat.pow_mul,<- Nat.pow_add,Nat.div_add_mod]
   rw[e,Vr,Nat.pow_mod,h1,Nat.one_pow,Vi hq,Nat.one_mul,Nat.mod_mod] at h2;exact h2
theorem MW {h u:Nat} (hq:FR q) (hr:FR r) (hd:q∣DQ) (h3:r<2 ^ 11) (hp:HS DQ 11 h r 1 % DQ=1) (h2:(h - 1)*u % DQ=1):r∣q - 1:=Classical.byContradiction λ hn=>by
 have hq1:=hq.1
 have h1:h ^ r % DQ=1:=by
  rw[XL DQ 11 h r 1 h3,Nat.one_mul] at hp;exact hp
 have h0:∀ x,x % DQ=1->x % q=1:=λ x hx=>by
  rw[<- Nat.mod_mod_of_dvd x hd,hx,Vi hq1]
 have e1:=h0 _ h1
 have h4:¬ q∣h:=λ h5=>by
  obtain⟨k,hk⟩:∃ k,r=k+1:=⟨r - 1,by have:=hr.1;omega⟩
  have:q∣h ^ r:=by rw[hk,Nat.pow_succ];exact Nat.dvd_trans h5 (Nat.dvd_mul_left h (h ^ k))
  rw[Nat.mod_eq_zero_of_dvd this] at e1;omega
 have e2:=WE hq h4;have hc:Nat.gcd r (q - 1)=1:=hr.cop hn;have e3:=tM hq1 r (q - 1) e1 e2;rw[hc,Nat.pow_one] at e3;have e4:=h0 _ h2;have e5:q∣h - 1:=OY (by rw[e3,Vi hq1])
 have e6:q∣(h - 1)*u:=Nat.dvd_trans e5 (Nat.dvd_mul_right _ _);rw[Nat.mod_eq_zero_of_dvd e6] at e4;omega
theorem Mv (h1:1<r) (h:∀ d,d<r->d<=1∨¬ d∣r):FR r:=⟨h1,λ d hd=>by
 have h2:=Vs (by omega) hd
 by_cases h3:d=r
 .exact .inr h3
 .rcases h d (by omega) with h4 | h4
  .have:d≠0:=λ h0=>by subst h0;have:=Nat.eq_zero_of_zero_dvd hd;omega
   exact .inl (by omega)
  .exact absurd hd h4⟩
def O0 (r:Nat):Nat->Bool
 | 0=>true
 | d+1=>(d<=1 || r % d != 0) && O0 r d
theorem Lb {r:Nat}:∀ n,O0 r n=true -> ∀ d,d<n->d<=1∨¬ d∣r
 | n+1,h,d,hd=>by
   simp only[O0,QM,UO,Qd] at h
   by_cases he:d=n
   .subst he
    rcases h.1 with h1 | h1
    .exact .inl h1
    .exact .inr λ h0=>by simp[Nat.mod_eq_zero_of_dvd h0] at h1
   .exact Lb n h.2 d (by omega)
theorem bJ (hq:FR q) (hd:q∣DQ):1321∣q - 1:=by
 exact MW (h:=30210013857155493) (u:=2165998172066445805) hq (Mv (by decide) (Lb 1321 (by decide +kernel))) hd (by decide) (by decide +kernel) (by decide +kernel)
theorem dR (hq:FR q) (hd:q∣DQ):331∣q - 1:=by
 exact MW (h:=185945230422323302) (u:=1960352316127796739) hq (Mv (by decide) (Lb 331 (by decide +kernel))) hd (by decide) (by decide +kernel) (by decide +kernel)
theorem nD (hq:FR q) (hd:q∣DQ):151∣q - 1:=by
 exact MW (h:=1433721343585656393) (u:=68233547637592170) hq (Mv (by decide) (Lb 151 (by decide +kernel))) hd (by decide) (by decide +kernel) (by decide +kernel)
theorem wL (hq:FR q) (hd:q∣DQ):61∣q - 1:=by
 exact MW (h:=35184372088832) (u:=329365932848850065) hq (Mv (by decide) (Lb 61 (by decide +kernel))) hd (by decide) (by decide +kernel) (by decide +kernel)
theorem aT {P:Nat} (hP:1<P) (key:∀ m,1<m->m∣P->P<m*m):FR P:=⟨hP,λ d hd=>Classical.byContradiction λ hc=>by
 have h1:d≠1:=λ h=>hc (.inl h);have h0:d≠P:=λ h=>hc (.inr h);obtain⟨e,he⟩:=hd;have h2:d≠0:=λ h=>by rw[h,Nat.zero_mul] at he;omega
 have h3:e≠0:=λ h=>by rw[h,Nat.mul_zero] at he;omega
 have h4:e≠1:=λ h=>by rw[h,Nat.mul_one] at he;exact h0 he.symm
 have k1:=key d (by omega) ⟨e,he⟩
 have k2:=key e (by omega) ⟨d,by rw[U6];exact he⟩
 rcases Nat.le_total d e with h | h
 .have:=Nat.mul_le_mul_left d h
  omega
 .have:=QD e h
  omega⟩
theorem eM (hq1:1<q) (h1:1321∣q - 1) (h2:331∣q - 1) (h3:151∣q - 1) (h4:61∣q - 1):4027518961<=q - 1:=by
 have h5:1321*331∣q - 1:=Nat.Coprime.mul_dvd_of_dvd_of_dvd (by decide +kernel:Nat.Coprime 1321 331) h1 h2
 have h6:1321*331*151∣q - 1:=Nat.Coprime.mul_dvd_of_dvd_of_dvd (by decide +kernel:Nat.Coprime (1321*331) 151) h5 h3
 have h7:1321*331*151*61∣q - 1:=Nat.Coprime.mul_dvd_of_dvd_of_dvd (by decide +kernel:Nat.Coprime (1321*331*151) 61) h6 h4
 have h0:0<q - 1:=Nat.sub_pos_of_lt hq1;exact Vs h0 h7
theorem gL {m:Nat} (h:4027518961<=m):DQ<m*m:=U9 (by decide +kernel:DQ<4027518961*4027518961) (Nat.mul_le_mul h h)
theorem kQ (m:Nat) (hm:1<m) (h2:m∣DQ):DQ<m*m:=by
 obtain⟨q,hq,h1⟩:=bA m hm;have h0:=Nat.dvd_trans h1 h2;have h8:=eM hq.1 (bJ hq h0) (dR hq h0) (nD hq h0) (wL hq h0);have h9:q<=m:=Vs (Nat.lt_trans Nat.zero_lt_one hm) h1;exact gL (QH h8 (QH (Nat.sub_le q 1) h9))
theorem j6:FR DQ:=aT (by decide +kernel) kQ
theorem Y1 {a:Nat} (h0:0<a) (h:a<DQ):a*a ^ (DQ - 2) % DQ=1:=by
 have h1:=WE j6 (a:=a) λ hd=>by
  have:=Vs h0 hd;omega
 rw[U6,<- Nat.pow_succ];exact h1
def BY (r j:Nat):Nat:=if j<r then j else j+1
theorem YV (r j:Nat):BY r j≠r:=by unfold BY;split<;>omega
theorem G2 {r j N:Nat} (hr:r<N+1) (hj:j<N):BY r j<N+1:=by unfold BY;split<;>omega
theorem TL {r k N:Nat} (hk:k<N+1) (h0:k≠r) (hr:r<N+1):∃ j,j<N/\BY r j=k:=by
 rcases Um k r with h | h
 .exact ⟨k,by omega,by unfold BY;rw[if_pos h]⟩
 .exact ⟨k - 1,by omega,by unfold BY;rw[if_neg (by omega)];omega⟩
theorem Nw:∀ (n:Nat) (f g:Nat->Int),BP n (λ j=>f j+g j)=BP n f+BP n g
 | 0,_,_=>rfl
 | n+1,f,g=>by
   simp only[BP];rw[Nw n];omega
theorem Ly:∀ (n:Nat) {f:Nat->Int},(∀ i,i<n->0<=f i)->0<=BP n f
 | 0,_,_=>UX _
 | n+1,f,h=>by
   simp only[BP];have h1:=h 0 (by omega)
   have h2:=Ly n (f:=λ i=>f (i+1)) λ i hi=>h (i+1) (by omega)
   omega
theorem XM:∀ (n:Nat) {f:Nat->Int},(∀ i,i<n->0<=f i)->(∃ i,i<n/\0<f i)->0<BP n f
 | 0,_,_,h=>by obtain⟨i,hi,_⟩:=h;omega
 | n+1,f,h,he=>by
   simp only[BP];have h1:=h 0 (by omega)
   have h2:=Ly n (f:=λ i=>f (i+1)) λ i hi=>h (i+1) (by omega)
   obtain⟨i,hi,hp⟩:=he
   cases i with
   | zero=>omega
   | succ i =>
     have h3:=XM n (f:=λ i=>f (i+1)) (λ i hi=>h (i+1) (by omega)) ⟨i,by omega,hp⟩
     omega
theorem Su:∀ (N r:Nat) (f:Nat->Int),r<N+1->BP (N+1) f=f r+BP N λ j=>f (BY r j)
 | N,0,f,_=>by
   have:=GX N (f:=λ j=>f (BY 0 j)) (g:=λ j=>f (j+1)) λ j _=>by simp[BY]
   rw[this];rfl
 | 0,r+1,f,h=>by omega
 | N+1,r+1,f,h=>by
   have h1:=Su N r (λ j=>f (j+1)) (by omega)
   have h2:BP (N+1) (λ j=>f (BY (r+1) j))=f 0+BP N λ j=>f (BY r j+1):=by
    simp only[BP]
    congr 1
    refine GX N λ j _=>?_
    congr 1
    unfold BY;split<;>split<;>omega
   rw[h2];show f 0+BP (N+1) (λ j=>f (j+1))=_;rw[h1];omega
def BW (W:BS) (N r:Nat):BS:=λ i j=>if i=j then BP (N+1) (W (BY r i)) - W (BY r i) (BY r i) else - W (BY r i) (BY r j)
structure Ga (W:BS) (N r:Nat):Prop where
 root:r<N+1
 non:∀ i j,i<N+1->j<N+1->0<=W i j
 out:∀ S:Nat->Bool,S r=false->(∃ i,i<N+1/\S i=true) -> ∃ i j,i<N+1/\j<N+1/\S i=true/\S j=false/\0<W i j
section
variable {W:BS} {N r:Nat}
theorem Sm (hr:r<N+1) (S:Nat->Bool) {i:Nat} (hi:i<N) (hs:S i=true):Ft N (BW W N r) S i=W (BY r i) r+BP N λ j=>if S j then 0 else W (BY r i) (BY r j):=by
 have h1:=Su N r (W (BY r i)) hr;have h2:=O2 N (λ _=>BP (N+1) (W (BY r i))) i hi
 have h3:Ft N (BW W N r) S i=BP N λ j=>(if decide (j=i) then BP (N+1) (W (BY r i)) else 0)+(if S j then - W (BY r i) (BY r j) else 0):=by
  unfold Ft;refine GX N λ j _=>?_;unfold BW
  by_cases hj:j=i
  .subst hj
   simp[hs];omega
  .have h0:¬ i=j:=λ h=>hj h.symm
   cases h4:S j<;>simp[hj,h0]
 rw[h3,Nw,h2,h1,Int.add_assoc,<- Nw]
 congr 1
 refine GX N λ j _=>?_
 cases S j<;>simp<;>omega
theorem NU (h:Ga W N r):MM N (BW W N r):=by
 have hr:=h.root;refine⟨λ i j hi hj h7=>?_,λ S i hi hs=>?_,λ S hS=>?_⟩
 .have:=h.non (BY r i) (BY r j) (G2 hr hi) (G2 hr hj)
  unfold BW;rw[if_neg h7];omega
 .rw [Sm hr S hi hs]
  have h1:=h.non (BY r i) r (G2 hr hi) hr
  have h2:=Ly N (f:=λ j=>if S j then 0 else W (BY r i) (BY r j)) λ j hj=>by
   have:=h.non (BY r i) (BY r j) (G2 hr hi) (G2 hr hj);split<;>omega
  omega
 .obtain ⟨k,hk,h9⟩:=hS
  let T:Nat->Bool:=λ x=>decide (x≠r) && S (if x<r then x else x - 1)
  have hT:∀ j,T (BY r j)=S j:=λ j=>by
   have h1:=YV r j
   have e:(if BY r j<r then BY r j else BY r j - 1)=j:=by
    by_cases hj:j<r
    .have e1:BY r j=j:=by unfold BY;rw[if_pos hj]
     rw[e1,if_pos hj]
    .have e1:BY r j=j+1:=by unfold BY;rw[if_neg hj]
     have e2:¬ j+1<r:=by omega
     rw[e1,if_neg e2,Nat.add_sub_cancel]
   show (decide (BY r j≠r) && S (if BY r j<r then BY r j else BY r j - 1))=S j
   rw[e,UK h1,Bool.true_and]
  obtain⟨i,j,hi,hj,h4,h5,hp⟩:=h.out T (by simp[T]) ⟨BY r k,G2 hr hk,by rw[hT];exact h9⟩
  have hc:i≠r:=λ he=>by subst he;simp[T] at h4
  obtain⟨a,ha,rfl⟩:=TL hi hc hr;rw[hT] at h4;refine⟨a,ha,h4,?_⟩;rw[Sm hr S ha h4];have h1:=h.non (BY r a) r (G2 hr ha) hr
  have h0:∀ j,j<N->0<=(if S j then 0 else W (BY r a) (BY r j)):=λ j hj=>by
   have:=h.non (BY r a) (BY r j) (G2 hr ha) (G2 hr hj);split<;>omega
  have h2:=Ly N h0
  by_cases h6:j=r
  .subst h6
   omega
  .obtain ⟨b,hb,rfl⟩:=TL hj h6 hr
   rw[hT] at h5;have h3:=XM N h0 ⟨b,hb,by rw[h5];exact hp⟩
   omega
theorem X7 (c:Int) (hc:0<=c):∀ (n:Nat) {f:Nat->Int},(∀ i,i<n->0<=f i/\f i<=c)->EX n f<=c ^ n
 | 0,_,_=>by simp[EX]
 | n+1,f,h=>by
   have h0:=h 0 (by omega)
   have h1:=X7 c hc n (f:=λ i=>f (i+1)) λ i hi=>h (i+1) (by omega)
   have h2:=PF n (f:=λ i=>f (i+1)) λ i hi=>(h (i+1) (by omega)).1
   simp only[EX];have h3:=Int.mul_le_mul h0.2 h1 h2 hc
   grind
theorem SR (h:Ga W N r) {c:Int} (hc:∀ i,i<N+1->BP (N+1) (W i)<=c) (h0:0<=c) {k:Nat} (hk:k<=N):(EX k λ i=>BW W N r i i)<=c ^ k:=by
 refine X7 c h0 k λ i hi=>?_;have hm:=NU h;have h1:=hm.diag i (by omega)
 refine⟨h1,?_⟩;have h2:=hc (BY r i) (G2 h.root (by omega))
 have h3:=h.non (BY r i) (BY r i) (G2 h.root (by omega)) (G2 h.root (by omega))
 unfold BW;rw[if_pos rfl];omega
end
def del (L:BS) (x:Nat):BS:=λ i j=>L (BY x i) (BY x j)
def Za (n:Nat) (L:BS) (x:Nat):Int:=BM n (del L x)
theorem lT (L:BS) (x:Nat):chio (del L (x+1))=del (chio L) x:=by
 have h0:BY (x+1) 0=0:=by simp[BY]
 have h1:∀ i,BY (x+1) (i+1)=BY x i+1:=λ i=>by
  unfold BY
  by_cases h:i<x
  .rw [if_pos h,if_pos (by omega)]
  .rw [if_neg h,if_neg (by omega)]
 funext i j
 simp only[chio,del,h0,h1]
structure Lp (n:Nat) (L:BS):Prop where
 off:∀ i j,i<n+1->j<n+1->i≠j->L i j<=0
 sum:∀ i,i<n+1->BP (n+1) (L i)=0
 red:∀ x,x<n+1->MM n (del L x)
def bal (n:Nat) (L:BS) (y:Nat):Int:=BP (n+1) λ x=>Za n L x*L x y
section
variable {n:Nat} {L:BS}
theorem Lp.pos (h:Lp (n+1) L):0<L 0 0:=(h.red 1 (by omega)).pos
theorem Lp.chio (h:Lp (n+1) L):Lp n (chio L):=by
 have h0:=h.pos;refine⟨λ i j hi hj h6=>?_,λ i hi=>?_,λ x hx=>?_⟩
 .have h1:=h.off (i+1) (j+1) (by omega) (by omega) (by omega)
  have h2:=h.off 0 (j+1) (by omega) (by omega) (by omega)
  have h3:=h.off (i+1) 0 (by omega) (by omega) (by omega)
  have h4:=Int.mul_nonneg_of_nonpos_of_nonpos h2 h3;have h5:=Int.mul_nonneg (Int.le_of_lt h0) (Int.neg_nonneg_of_nonpos h1);rw[Int.mul_neg] at h5;unfold Go.Proofs.YtkngdgplbojdlaaGreat.chio;omega
 .have h1:=h.sum (i+1) (by omega)
  have h2:=h.sum 0 (by omega)
  have h3:=Po (L 0 0) (L (i+1) 0) (n+1) (λ j=>L (i+1) (j+1)) (λ j=>L 0 (j+1))
  have h4:=GX (n+1) (f:=Go.Proofs.YtkngdgplbojdlaaGreat.chio L i) (g:=λ j=>L 0 0*L (i+1) (j+1) - L (i+1) 0*L 0 (j+1)) λ j _=>by
   simp only[Go.Proofs.YtkngdgplbojdlaaGreat.chio]
   grind
  rw[h4,h3];have e1:L (i+1) 0+BP (n+1) (λ j=>L (i+1) (j+1))=0:=h1;have e2:L 0 0+BP (n+1) (λ j=>L 0 (j+1))=0:=h2;have e3:BP (n+1) (λ j=>L (i+1) (j+1)) = - L (i+1) 0:=by omega
  have e4:BP (n+1) (λ j=>L 0 (j+1)) = - L 0 0:=by omega
  rw[e3,e4]
  grind
 .rw [<- lT]
  exact(h.red (x+1) (by omega)).chio
end
section
variable {W:BS} {N:Nat}
def GV (W:BS) (N x:Nat):Int:=BM N (BW W N x)
theorem kD {x:Nat} (h:Ga W N x):0<GV W N x:=Mi N (NU h)
theorem mK {x:Nat} (h:Ga W N x) {c:Int} (hc:∀ i,i<N+1->BP (N+1) (W i)<=c) (h0:0<=c):GV W N x<=c ^ N :=
 Int.le_trans (MF N (NU h)) (SR h hc h0 (Qk N))
end
section
variable {g:Gr} {S:List Int}
theorem znH (h:AI g) (T:Int->Bool) (hT:∀ k,DO g S k=true->T k=true):∀ (n:Nat) (k:Int),AN g S k=n->T k=false -> ∃ e∈g.edges,T e.f=true/\T e.t=false/\0<=AN g S e.f/\0<=AN g S e.t
 | 0,k,hd,hk=>by
   have:=hT k ((H6 h).1 hd);rw[hk] at this
   cases this
 | n+1,k,hd,hk=>by
   obtain⟨e,he,h1,h2⟩:=Iq h (by rw[hd];omega:AN g S k=(n:Int)+1)
   cases hf:T e.f
   .exact znH h T hT n e.f h2 hf
   .exact ⟨e,he,hf,by rw[h1];exact hk,by omega,by rw[h1];omega⟩
def GP (g:Gr) (x y:Int):Int:=((g.edges.filter λ e=>decide (e.f=x) && decide (e.t=y)).map λ e=>e.v).sum
def C1 (g:Gr) (S:List Int) (restart:Int) (x y:Int):Int:=(if S.contains y then restart else 0)+GP g x y
def KO (g:Gr) (S:List Int) (restart:Int) (K:List Int):BS:=λ i j=>C1 g S restart (K.getD i 0) (K.getD j 0)
theorem K3:∀ {l:List Int},(∀ x∈l,0<=x)->0<=l.sum
 | [],_=>by simp
 | x::l,h=>by
   have h1:=h x (by simp)
   have h2:=K3 (l:=l) λ y hy=>h y (by simp[hy])
   rw[UA];omega
theorem Ko:∀ {l:List Int} {y:Int},(∀ x∈l,0<=x)->y∈l->y<=l.sum
 | x::l,y,h,hy=>by
   have h1:=h x (by simp)
   have h2:=K3 (l:=l) λ y hy=>h y (by simp[hy])
   rw[UA];rcases Qs.1 hy with rfl | hy
   .omega
   .have:=Ko (l:=l) (λ y hy=>h y (by simp[hy])) hy
    omega
theorem Rr (hv:∀ e∈g.edges,0<=e.v) (x y:Int):0<=GP g x y:=K3 λ v h0=>by
 obtain⟨e,he,rfl⟩:=Qi.1 h0;exact hv e (Qx.1 he).1
theorem rJ (hv:∀ e∈g.edges,1<=e.v) {e:Ed} (he:e∈g.edges):0<GP g e.f e.t:=by
 have h1:e.v<=GP g e.f e.t:=Ko (λ v h0=>by
  obtain⟨e,he,rfl⟩:=Qi.1 h0;have:=hv e (Qx.1 he).1
  omega) (Qi.2 ⟨e,Qx.2 ⟨he,by simp⟩,rfl⟩)
 have:=hv e he;omega
theorem mB (h:AI g) (hv:∀ e∈g.edges,1<=e.v) {h0:Int} (hr:1<=h0) {K:List Int} (hK:∀ k,k∈K↔CM g k/\0<=AN g S k) (hn:K.Nodup) (hS:∀ s∈S,CM g s) {N:Nat} (hN:K.length=N+1) {r:Nat} (hf:r<N+1):Ga (KO g S h0 K) N r:=by
 have hh:∀ x y,0<=C1 g S h0 x y:=λ x y=>by
  have:=Rr (λ e he=>by have:=hv e he;omega) x y
  unfold C1;split<;>omega
 refine⟨hf,λ i j _ _=>hh _ _,λ A hA hj=>?_⟩;obtain⟨i,hi,ho⟩:=hj
 by_cases h6:∃ s,s<N+1/\S.contains (K.getD s 0)=true/\A s=false
 .obtain ⟨s,hs,h1,h2⟩:=h6
  refine⟨i,s,hi,hs,ho,h2,?_⟩;have:=Rr (λ e he=>by have:=hv e he;omega) (K.getD i 0) (K.getD s 0)
  unfold KO C1;rw[if_pos h1];omega
 .
  have h5:∀ {k:Int},k∈K->K.idxOf k<N+1/\K.getD (K.idxOf k) 0=k:=λ {k} hk=>by
   have h1:=List.idxOf_lt_length_iff.2 hk;refine⟨by omega,?_⟩
   simp[h1]
  let T:Int->Bool:=λ k=>decide (k∈K) && A (K.idxOf k)
  have hT:∀ k,DO g S k=true->T k=true:=λ k hk=>by
   have hd:=(H6 h).2 hk
   have hs:S.contains k=true:=by
    unfold DO at hk;simp only[QM] at hk;exact hk.1
   have h7:k∈K:=(hK k).2 ⟨hS k (by simpa using hs),by omega⟩
   obtain⟨h1,h2⟩:=h5 h7
   have h3:A (K.idxOf k)=true:=by
    cases h4:A (K.idxOf k)
    .exact absurd ⟨K.idxOf k,h1,by rw[h2];exact hs,h4⟩ h6
    .rfl
   simp[T,h7,h3]
  have h9:r<K.length:=by omega
  have hq:K[r]∈K:=Qj h9;have hw:=((hK K[r]).1 hq).2;have hu:K.idxOf K[r]=r:=hn.idxOf_getElem r h9;obtain⟨e,he,h1,h2,h3,h4⟩:=znH h T hT (AN g S K[r]).toNat K[r] (by omega) (by simp[T,hu,hA])
  have ha:e.f∈K/\A (K.idxOf e.f)=true:=by simpa [T] using h1
  have hb:e.t∈K:=(hK e.t).2 ⟨by have:=h.fits e he;unfold BO at this;unfold CM;omega,h4⟩
  have hc:A (K.idxOf e.t)=false:=by simpa [T,hb] using h2
  obtain⟨q1,q2⟩:=h5 ha.1;obtain⟨q3,q4⟩:=h5 hb;refine⟨K.idxOf e.f,K.idxOf e.t,q1,q3,ha.2,hc,?_⟩;unfold KO C1;rw[q2,q4];have:=rJ hv he;split<;>omega
end
def BI:List Nat->Nat
 | []=>0
 | x::l=>Nat.gcd x (BI l)
theorem ztz:∀ {l:List Nat} {x:Nat},x∈l->BI l∣x
 | y::l,x,hx=>by
   rcases Qs.1 hx with rfl | hx
   .exact Nat.gcd_dvd_left _ _
   .exact Nat.dvd_trans (Nat.gcd_dvd_right _ _) (ztz hx)
theorem Zn:∀ {l:List Nat},(∃ x∈l,0<x)->0<BI l
 | [],h=>by obtain⟨x,hx,_⟩:=h;cases hx
 | y::l,h=>by
   obtain⟨x,hx,hp⟩:=h;have hd:=ztz hx;rcases Un (BI (y::l)) with h0 | h0
   .rw [h0] at hd
    have:=Nat.eq_zero_of_zero_dvd hd;omega
   .exact h0
structure De (b y1 y0 u3 u1 q r:Nat):Prop where
 eq:q*y1+r=u3
 ge:(u3*b+u1) / (y1*b+y0)<=q
section
variable {b y1 y0 u3 u1 q r:Nat}
theorem De.start (hy:0<y1) (hu:u1<b):De b y1 y0 u3 u1 (u3 / y1) (u3 - u3 / y1*y1):=by
 have h1:=Nat.div_mul_le_self u3 y1;refine⟨by omega,?_⟩
 have hb:0<b:=by omega
 have h2:(u3*b+u1) / (y1*b)<=u3 / y1:=by
  rw[U6 y1 b,<- Nat.div_div_eq_div_mul,U6 u3 b,Nat.mul_add_div hb,Nat.div_eq_of_lt hu,Ua];exact Qk _
 refine QH ?_ h2;exact Nat.div_le_div_left (by omega) (Nat.mul_pos hy hb)
theorem De.fits (h:De b y1 y0 u3 u1 q r) (hy:0<y1) (hb:0<b) (hq:q*y0<=b*r+u1):q=(u3*b+u1) / (y1*b+y0):=by
 refine Nat.le_antisymm ?_ h.ge;have hp:0<y1*b+y0:=by have:=Nat.mul_pos hy hb;omega
 rw[Nat.le_div_iff_mul_le hp];have h1:=h.eq;have h2:q*(y1*b+y0)=q*y1*b+q*y0:=by rw[Nat.mul_add,Nat.mul_assoc]
 have h3:u3*b=q*y1*b+r*b:=by rw[<- h1,QI]
 have h4:b*r=r*b:=U6 _ _;omega
theorem De.big (h:De b y1 y0 u3 u1 q r) (hy:0<y1) (hb:0<b) (hq:q<b) (h0:y0<b) (hr:b<=r):q=(u3*b+u1) / (y1*b+y0):=by
 refine h.fits hy hb ?_;have h1:q*y0<=b*b:=Nat.mul_le_mul (by omega) (by omega)
 have h2:b*b<=b*r:=Nat.mul_le_mul_left b hr;omega
theorem De.less (h:De b y1 y0 u3 u1 q r) (hy:0<y1) (hb:0<b) (hU:u3*b+u1<(y1*b+y0)*b) (hq:b<=q∨b*r+u1<q*y0):1<=q/\De b y1 y0 u3 u1 (q - 1) (r+y1):=by
 have h1:=h.eq;have hp:0<y1*b+y0:=by have:=Nat.mul_pos hy hb;omega
 have h0:(u3*b+u1) / (y1*b+y0)<q:=by
  rcases hq with h2 | h2
  .have:=Nat.div_lt_of_lt_mul hU
   omega
  .rw [Nat.div_lt_iff_lt_mul hp]
   have h3:q*(y1*b+y0)=q*y1*b+q*y0:=by rw[Nat.mul_add,Nat.mul_assoc]
   have h4:u3*b=q*y1*b+r*b:=by rw[<- h1,QI]
   have h5:b*r=r*b:=U6 _ _;omega
 have hq1:0<q:=Nat.lt_of_le_of_lt (Qh _) h0;refine⟨hq1,?_,Nat.le_sub_one_of_lt h0⟩
 clear h0
 obtain⟨k,rfl⟩:∃ k,q=k+1:=⟨q - 1,by omega⟩
 rw[QI,Nat.one_mul] at h1;simp only[Nat.add_sub_cancel];omega
end
theorem oW {b y u3 u1 u0:Nat} (hy:0<y):((u3*b+u1) % y*b+u0) % y=((u3*b+u1)*b+u0) % y:=by
 rw[Nat.add_mod,Vr,Nat.mod_mod,<- Vr,<- Nat.add_mod]
theorem tL {s x y:Nat}:(2 ^ s*x) % (2 ^ s*y) / 2 ^ s=x % y:=by
 rw[Nat.mul_mod_mul_left,Nat.mul_div_cancel_left _ (Nat.two_pow_pos s)]
def CR (used:Nat) (c:Nat):Bool:=!used.testBit c
def Cy (used c:Nat):List Nat:=(List.range c).filter (CR used)
def Fs (used n c:Nat):List Nat:=(List.range' c (n - c)).filter (CR used)
section
variable {used n c:Nat}
theorem S7 (h:CR used c=true):Cy used (c+1)=Cy used c++[c]:=by
 unfold Cy;rw[Uk,Ug];simp[h]
theorem TK (h:CR used c=false):Cy used (c+1)=Cy used c:=by
 unfold Cy;rw[Uk,Ug];simp[h]
theorem OF (hc:c<n):List.range' c (n - c)=c::List.range' (c+1) (n - (c+1)):=by
 rw[show n - c=(n - (c+1))+1 by omega,List.range'_succ]
theorem SM (hc:c<n) (h:CR used c=true):Fs used n c=c::Fs used n (c+1):=by
 unfold Fs;rw[OF hc,Vk,if_pos h]
theorem Yf (hc:c<n) (h:CR used c=false):Fs used n c=Fs used n (c+1):=by
 unfold Fs;rw[OF hc,Vk,if_neg (by simp[h])]
theorem mJ:Fs used n n=[]:=by
 unfold Fs;rw[Nat.sub_self];rfl
theorem wD:Cy used n=Fs used n 0:=by
 unfold Cy Fs;rw[UV,Nat.sub_zero]
theorem WX (x:Nat):CR (used ||| 2 ^ c) x=(CR used x && decide (x≠c)):=by
 unfold CR;rw[Nat.testBit_or,Nat.testBit_two_pow]
 by_cases h:c=x
 .subst h
  simp
 .have h':¬ x=c:=λ he=>h he.symm
  simp[h,h']
theorem WL (hc:c<n) (h:CR used c=true):Cy (used ||| 2 ^ c) n=Cy used c++Fs used n (c+1):=by
 have h1:∀ l:List Nat,(∀ x∈l,x≠c)->l.filter (CR (used ||| 2 ^ c))=l.filter (CR used):=λ l hl=>List.filter_congr λ x hx=>by
  rw[WX,UK (hl x hx),Bool.and_true]
 have h2:List.range n=List.range c++c::List.range' (c+1) (n - (c+1)):=by
  have e:List.range' 0 c++List.range' (0+c) (n - c)=List.range' 0 (c+(n - c)):=List.range'_append_1;rw[Q1,show c+(n - c)=n by omega] at e
  rw[<- OF hc,UV,UV,e]
 unfold Cy Fs;rw[h2,Ug,Vk,if_neg (by rw[WX];simp),h1 _ (λ x hx=>by have:=Qy.1 hx;omega),h1 _ (λ x hx=>by have:=List.mem_range'_1.1 hx;omega)]
end
def CI (A:BS) (n row used:Nat):Int:=Ci (n - row) row ((Cy used n).map λ j=>λ i=>A i j)
theorem Yz (A:BS) (n:Nat):CI A n 0 0=BM n A:=by
 unfold CI BM;rw[Nat.sub_zero]
 congr 2
 unfold Cy;rw[Vh];intro x _;simp[CR]
theorem YS (A:BS) (n used:Nat):CI A n n used=1:=by
 unfold CI;rw[Nat.sub_self];rfl
def FP (A:BS) (n row used c:Nat):Int:=BL (Ci (n - (row+1)) (row+1)) row ((Cy used c).map λ j=>λ i=>A i j) ((Fs used n c).map λ j=>λ i=>A i j)
section
variable {A:BS} {n row used c:Nat}
theorem Zd (h:row<n):FP A n row used 0=CI A n row used:=by
 unfold FP CI;rw[wD (used:=used) (n:=n),show n - row=(n - (row+1))+1 by omega]
 rfl
theorem nR:FP A n row used n=0:=by
 unfold FP;rw[mJ];rfl
theorem cW (hc:c<n) (h:CR used c=false):FP A n row used c=FP A n row used (c+1):=by
 unfold FP;rw[Yf hc h,TK h]
theorem mL (hc:c<n) (h:CR used c=true):FP A n row used c=sg (Cy used c).length*A row c*CI A n (row+1) (used ||| 2 ^ c)+FP A n row used (c+1):=by
 unfold FP CI;rw[SM hc h,S7 h,WL hc h];simp[BL]
end
theorem Z1 (P a n out:Nat):(if n % 2=1 then out*a % P else out)*(a*a % P) ^ (n / 2) % P=out*a ^ n % P:=by
 have h2:(a*a % P) ^ (n / 2) % P=(a*a) ^ (n / 2) % P:=(Nat.pow_mod _ _ _).symm;have h3:(a*a) ^ (n / 2)=a ^ (2*(n / 2)):=by rw[Nat.pow_mul,Nat.pow_two]
 rw[Vr,h2,h3];split
 .rename_i h4
  rw[Nat.mod_mod,<- Vr,Nat.mul_assoc,U6 a,<- Nat.pow_succ]
  congr 3
  omega
 .rename_i h4
  rw[<- Vr]
  congr 3
  omega
def Ai (g:Gr) (S:List Int):List Int:=((List.range g.size.toNat).map Int.ofNat).filter λ k=>decide (0<=AN g S k)
def CG (g:Gr) (S:List Int) (r:Int) (x:Int):List Int:=(Ai g S).map λ y=>C1 g S r x y
def Dl (g:Gr) (S:List Int) (r:Int):List (List Int):=(Ai g S).map (CG g S r)
def FE (g:Gr) (S:List Int) (r:Int) (x:Int):Int:=(CG g S r x).sum
def Da (g:Gr) (S:List Int) (i:Nat):Int:=(Ai g S).getD i 0
def Fe (g:Gr) (S:List Int) (r:Int):BS:=KO g S r (Ai g S)
def G4 (g:Gr) (S:List Int) (r:Int) (i:Nat):Int:=GV (Fe g S r) ((Ai g S).length - 1) i
def BB (g:Gr) (S:List Int) (r:Int) (i:Nat):Nat:=(FE g S r (Da g S i)*G4 g S r i).toNat
def G9 (g:Gr) (S:List Int) (r:Int):List Nat:=(List.range (Ai g S).length).map (BB g S r)
def Cj (g:Gr) (S:List Int) (r:Int):List Int:=(List.range g.size.toNat).map λ (k:Nat) =>
 if (k:Int)∈Ai g S then ((BB g S r ((Ai g S).idxOf (k:Int)) / BI (G9 g S r):Nat):Int) else 0
section
variable {g:Gr} {S:List Int} {r:Int}
theorem Iu {k:Int}:k∈Ai g S↔CM g k/\0<=AN g S k:=by
 unfold Ai CM;simp only[Qx,Qi,Qy,Qd];constructor
 .rintro ⟨⟨i,hi,rfl⟩,h⟩
  exact⟨by simp only[Int.ofNat_eq_natCast];omega,h⟩
 .rintro ⟨h,h2⟩
  exact⟨⟨k.toNat,by omega,by simp only[Int.ofNat_eq_natCast];omega⟩,h2⟩
theorem Sc:(Ai g S).Pairwise (· < ·):=by
 unfold Ai;refine List.Pairwise.filter _ ?_;rw[U4];exact List.pairwise_lt_range.imp λ {a b} h=>by simp only[Int.ofNat_eq_natCast];omega
theorem HG:(Ai g S).Nodup:=Sc.imp λ {a b} h=>by omega
theorem K9:(Ai g S).length<=g.size.toNat:=by
 unfold Ai;exact QH (QU _ _) (by simp)
theorem ztA (h:AI g):Ew (AY g S)=Ai g S:=by
 have h1:(AY g S).Perm (Ai g S):=(List.perm_ext_iff_of_nodup (Gj g S) HG).2 λ k=>by rw[LV h,Iu]
 rw[Ln.2 h1];exact List.Perm.eq_of_pairwise (le:=(· <= ·)) (λ x y _ _ h1 h2=>by omega) (Kr _) (Sc.imp λ {a b} h=>by omega) (GB _)
theorem YK {i:Nat} (h:i<(Ai g S).length):Da g S i=(Ai g S)[i]:=by simp[Da,h]
theorem zlG {i:Nat} (h:i<(Ai g S).length):Da g S i∈Ai g S:=by rw[YK h];exact Qj h
theorem OU:∀ l:List Int,l.sum=BP l.length λ j=>l.getD j 0
 | []=>rfl
 | x::l=>by
   simp only[UA,QN,BP,US,List.getD_cons_succ];rw[OU l]
theorem L2 {i:Nat}:BP (Ai g S).length (Fe g S r i)=FE g S r (Da g S i):=by
 unfold FE;rw[OU];simp only[CG,Qr];refine GX _ λ j hj=>?_;rw[Qe,QA,Qc hj];simp[Fe,KO,Da,hj]
theorem Mx (hg:AI g) (x y:Int):0<=GP g x y/\GP g x y<=3:=by
 have hp:=hg.pair.filter λ e=>decide (e.f=x) && decide (e.t=y)
 have hm:∀ e∈g.edges.filter (λ e=>decide (e.f=x) && decide (e.t=y)),e.f=x/\e.t=y/\1<=e.v/\e.v<=3:=λ e he=>by
  have h1:=Qx.1 he;simp only[QM,Qd] at h1;exact⟨h1.2.1,h1.2.2,hg.val e h1.1⟩
 unfold GP;generalize g.edges.filter (λ e=>decide (e.f=x) && decide (e.t=y))=l at hp hm
 match l,hp,hm with
 | [],_,_=>simp
 | [e],_,hm=>have:=hm e (by simp);simp;omega
 | a::b::l,hp,hm =>
   have h1:=hm a (by simp)
   have h2:=hm b (by simp)
   have h3:Bd a b:=by simp only[Uw] at hp;exact hp.1 b (by simp)
   unfold Bd at h3;omega
theorem IH (hg:AI g) (hr:1<=r) (aA:r<=5) (x y:Int):0<=C1 g S r x y/\C1 g S r x y<=8:=by
 have:=Mx hg x y;unfold C1;split<;>omega
theorem My (c:Int):∀ {l:List Int},(∀ x∈l,0<=x/\x<=c)->0<=l.sum/\l.sum<=c*l.length
 | [],_=>by simp
 | x::l,h=>by
   have h1:=h x (by simp)
   have h2:=My c (l:=l) λ y hy=>h y (by simp[hy])
   simp only[UA,QN];have e:c*((l.length+1:Nat):Int)=c*l.length+c:=by rw[Int.natCast_add];exact Int.mul_add _ _ _ ▸ by simp
   omega
theorem Kj (hg:AI g) (hr:1<=r) (aA:r<=5) (x:Int):0<=FE g S r x/\FE g S r x<=8*(Ai g S).length:=by
 have h:=My 8 (l:=CG g S r x) λ v hv=>by
  obtain⟨y,_,rfl⟩:=Qi.1 hv;exact IH hg hr aA x y
 have e:(CG g S r x).length=(Ai g S).length:=by simp[CG]
 rw[e] at h;exact h
theorem PA (hg:AI g) (hr:1<=r) (hS:∀ s∈S,CM g s) {i:Nat} (hi:i<(Ai g S).length):Ga (Fe g S r) ((Ai g S).length - 1) i :=
 mB hg (λ e he=>(hg.val e he).1) hr (λ _=>Iu) HG hS (N:=(Ai g S).length - 1) (by omega) (by omega)
theorem La {m:Int} {n:Nat} (h0:0<=m) (hm:m<=72) (hn:n<=8):m ^ n<=722204136308736:=by
 have h1:m ^ n<=72 ^ n:=by
  obtain⟨k,rfl⟩:∃ k:Nat,m=k:=⟨m.toNat,by omega⟩
  have:=Nat.pow_le_pow_left (n:=k) (m:=72) (by omega) n
  have e:((k ^ n:Nat):Int)<=((72 ^ n:Nat):Int):=by omega
  simpa using e
 have h2:(72:Nat) ^ n<=72 ^ 8:=Nat.pow_le_pow_right (by omega) hn
 have e:((72 ^ n:Nat):Int)<=((72 ^ 8:Nat):Int):=by omega
 have e2:((72 ^ 8:Nat):Int)=722204136308736:=by decide
 have e3:((72 ^ n:Nat):Int)=(72:Int) ^ n:=by simp
 omega
theorem zsC (hg:AI g) (hr:1<=r) (aA:r<=5) (hS:∀ s∈S,CM g s) (h9:(Ai g S).length<=9) {i:Nat} (hi:i<(Ai g S).length):0<G4 g S r i/\G4 g S r i<=722204136308736:=by
 have hw:=PA hg hr hS hi;refine⟨kD hw,Int.le_trans (mK hw (c:=72) (λ j hj=>?_) (by omega)) (La (by omega) (by omega) (by omega))⟩
 rw[show (Ai g S).length - 1+1=(Ai g S).length by omega,L2]
 have:=Kj hg hr aA (S:=S) (Da g S j);omega
theorem mV (hg:AI g) (hr:1<=r) (aA:r<=5) (hS:∀ s∈S,CM g s) (h9:(Ai g S).length<=9) {i k:Nat} (hi:i<(Ai g S).length) (hk:k<=(Ai g S).length - 1):(EX k λ j=>BW (Fe g S r) ((Ai g S).length - 1) i j j)<=722204136308736:=by
 have hw:=PA hg hr hS hi;refine Int.le_trans (SR hw (c:=72) (λ j hj=>?_) (by omega) hk) (La (by omega) (by omega) (by omega))
 rw[show (Ai g S).length - 1+1=(Ai g S).length by omega,L2]
 have:=Kj hg hr aA (S:=S) (Da g S j);omega
theorem i9 (hg:AI g) (hr:1<=r) (aA:r<=5) (hS:∀ s∈S,CM g s) {k:Int} (hk:k∈Ai g S) (x:Int):0<FE g S r x:=by
 have hd:=(Iu.1 hk).2
 obtain⟨s,hs⟩:∃ s,DO g S s=true:=by
  obtain⟨n,hn⟩:∃ n:Nat,AN g S k=n:=⟨(AN g S k).toNat,by omega⟩
  clear hk hd
  induction n generalizing k with
  | zero=>exact⟨k,(H6 hg).1 hn⟩
  | succ n ih =>
    obtain⟨e,_,h1,h2⟩:=Iq hg (by rw[hn];omega:AN g S k=(n:Int)+1)
    exact ih h2
 have h0:S.contains s=true:=by
  unfold DO at hs;simp only[QM] at hs;exact hs.1
 have h3:s∈S:=by simpa using h0
 have h4:s∈Ai g S:=Iu.2 ⟨hS s h3,by rw[(H6 hg).2 hs];omega⟩
 have h1:C1 g S r x s<=FE g S r x:=Ko (λ v hv=>by
  obtain⟨y,_,rfl⟩:=Qi.1 hv
  exact(IH hg hr aA x y).1) (Qi.2 ⟨s,h4,rfl⟩)
 have h2:=Mx hg x s;unfold C1 at h1;rw[if_pos h0] at h1;omega
theorem OB (hg:AI g) (hr:1<=r) (aA:r<=5) (hS:∀ s∈S,CM g s) (h9:(Ai g S).length<=9) {i:Nat} (hi:i<(Ai g S).length) :
  ((BB g S r i:Nat):Int)=FE g S r (Da g S i)*G4 g S r i/\0<BB g S r i/\BB g S r i<=51998697814228992:=by
 have h1:=zsC hg hr aA hS h9 hi;have h2:=Kj hg hr aA (S:=S) (Da g S i);have h3:=i9 hg hr aA hS (zlG hi) (Da g S i);have h4:0<FE g S r (Da g S i)*G4 g S r i:=Int.mul_pos h3 h1.1;have h5:FE g S r (Da g S i)*G4 g S r i<=72*722204136308736:=Int.mul_le_mul (by omega) h1.2 (by omega) (by omega)
 unfold BB;omega
end
theorem V5 {a b x y:Nat} (h:Nat.gcd x y=Nat.gcd a b):Nat.gcd y (x % y)=Nat.gcd a b:=by
 rw[<- h,Nat.gcd_comm x y,Nat.gcd_rec y x,Nat.gcd_comm]
theorem uG (a b:Nat):AcP 87 [.I a,.I b] [] (.I (Nat.gcd a b:Nat)) []:=by
 refine lE.s.ai ?_;refine rs [0,1] [] [] ?_;refine AC (AL (Ae (ι:=Nat × Nat) (λ i=>⟨12,[(0,.I i.1),(1,.I i.2)],[],100⟩) (λ i=>Nat.gcd i.1 i.2=Nat.gcd a b) (λ i=>i.2) (a,b) rfl (Bk [] []) ?_))
 rintro⟨x,y⟩ h0
 simp only at h0;refine AC (rs [0,1,6] [] [] ?_);refine AE _ rfl (λ hc=>?_) λ hc=>?_
 .simp at hc
  have f1:AH .rem (.int .i64 (x:Int)) (.int .i64 (y:Int))=some (.int .i64 ((x % y:Nat):Int)):=by
   show (if (y:Int)=0 then none else some (Value.int .i64 ((x:Int).tmod y)))=_
   rw[if_neg (by omega)]
   simp[Vg]
  refine AJ (AL (Cr rfl ?_));simp[-AH,f1,-Int.natCast_emod];exact⟨rfl,y,x % y,V5 h0,Uf _ (by omega),Bk [] []⟩
 .simp at hc
  subst hc;rw[Nat.gcd_zero_right] at h0;refine Aa (hit (rs [4] [] [] ?_));exact A9 (AS.one (by simp[h0]))
theorem Sy {l:List Int} {i:Nat} (h:i<l.length):(l.take (i+1)).sum=(l.take i).sum+l[i]:=by
 rw[Qm h,List.sum_append];simp
abbrev BJ (L:List (List Int)):AV:=.vs 1 false (L.map λ l=>[AA l])
abbrev KP (K:List Int) (L:List (List Int)):AV:=.agg [AA K,BJ L]
theorem ZA (K:List Int) (L:List (List Int)) (i:Nat) (R:List Int) (hi:L[i]? = some R) (hR:∀ x∈R,0<=x/\x<=8) (hl:R.length<=1000):AcP 85 [KP K L,.I i] [] (.I R.sum) []:=by
 refine kZ.s.ai ?_;have h0:i<L.length:=(Qz.1 hi).1;have h1:L[i]=R:=(Qz.1 hi).2;refine rs [1,2] [] [16] ?_;refine rs [1,2,5] [] [] ?_;refine AC (rx (s:=?z3) [5,12,13,14] [] [] rfl ?p3 ?r3)
 case p3=>simp[h0,h1];rfl
 refine AL (Ae (ι:=Nat) (λ k=>⟨23,[(5,.I (R.take k).sum),(12,AA R),(13,.I R.length),(14,.I k)],[],300⟩) (λ k=>k<=R.length) (λ k=>R.length - k) 0 (Qh _) (Bk [] []) ?_);intro k hk;have hb:=My 8 (l:=R.take k) λ x hx=>hR x (QZ hx);have h2:(R.take k).length=k:=by simp;omega
 rw[h2] at hb;refine rs [5,12,13,14,15] [] [] ?_;refine AC (AE _ rfl (λ hc=>?_) λ hc=>?_)
 .simp at hc
  have hx:=hR R[k] (Qj hc);have hw:=w6 (x:=(k:Int)+1);have hs:=Sy hc;have h3:IntKind.i64.wrap ((R.take k).sum+R[k])=(R.take (k+1)).sum:=by rw[w6,hs]
  refine AJ (AC (AL (rx (s:=?z5) [5,7,12,13,14] [] [] rfl ?p5 ?r5)))
  case p5=>simp[hc];rfl
  refine Ag (s:=?z6) rfl ?p6 ?r6
  case p6=>simp[h3];rfl
  refine Ag (s:=?z7) rfl ?p7 ?r7
  case p7=>simp[hw];rfl
  exact⟨k+1,by omega,by omega,Bk [] []⟩
 .simp at hc
  have h4:R.take k=R:=Qb (by omega)
  rw[h4];refine Aa (hit (rs [4] [] [] ?_));exact Bl
variable {k m:Nat}
theorem Lo {α:Type} (n k:Nat) (f:Nat->α) (v:α):((List.range n).map f).set k v=(List.range n).map λ j=>if j=k then v else f j:=by
 apply Vd;intro i;rw[U3]
 by_cases hi:i<n
 .by_cases hk:k=i
  .subst hk;simp[hi]
  .have:¬ i=k:=λ e=>hk e.symm
   simp[hi,hk,this]
 .by_cases hk:k=i
  .subst hk;simp[hi]
  .simp [hi,hk]
theorem OG {α:Type} (K:List Int) (f:Int->α):((List.range K.length).map λ j=>f (K.getD j 0))=K.map f:=by
 apply Vd;intro i
 by_cases hi:i<K.length
 .simp [hi]
 .simp [hi]
theorem KI {l:List Int} {v:Int}:(AD l).set k [AV.I v]=AD (l.set k v):=by
 show (l.map λ n=>[AV.I n]).set k ((λ n:Int=>[AV.I n]) v)=(l.set k v).map λ n=>[AV.I n];rw[U8]
def CN (l:List Ed) (x y:Int):Int:=((l.filter λ e=>decide (e.f=x) && decide (e.t=y)).map λ e=>e.v).sum
theorem PG {l:List Ed} (h:m<l.length) (x y:Int):CN (l.take (m+1)) x y=CN (l.take m) x y+if l[m].f=x/\l[m].t=y then l[m].v else 0:=by
 unfold CN;rw[Qm h,Ug,QT,List.sum_append]
 congr 1
 by_cases h1:l[m].f=x/\l[m].t=y
 .simp [h1]
 .rw [if_neg h1]
  have:(decide (l[m].f=x) && decide (l[m].t=y))=false:=by simpa using λ a b=>h1 ⟨a,b⟩
  simp[this]
theorem RE {g:Gr} (hg:AI g) (m:Nat) (x y:Int):0<=CN (g.edges.take m) x y/\CN (g.edges.take m) x y<=3:=by
 have h2:∀ k,0<=CN (g.edges.drop k) x y:=λ k=>K3 λ v hv=>by
  obtain⟨e,he,rfl⟩:=Qi.1 hv;have:=(hg.val e (UW (Qx.1 he).1)).1;omega
 have h3:0<=CN (g.edges.take m) x y:=K3 λ v hv=>by
  obtain⟨e,he,rfl⟩:=Qi.1 hv;have:=(hg.val e (QZ (Qx.1 he).1)).1;omega
 have h4:GP g x y=CN (g.edges.take m) x y+CN (g.edges.drop m) x y:=by
  unfold GP CN;rw[<- List.sum_append,<- QT,<- Ug,UG]
 have:=Mx hg x y;have:=h2 m;omega
def DP (S K:List Int) (r:Int) (k:Nat):List Int:=(List.range K.length).map λ j=>if j<k/\S.contains (K.getD j 0)=true then r else 0
def CS (E:List Ed) (S K:List Int) (r x:Int) (m:Nat):List Int:=(List.range K.length).map λ j=>(if S.contains (K.getD j 0) then r else 0)+CN (E.take m) x (K.getD j 0)
section
variable {E:List Ed} {S K:List Int} {r x:Int}
theorem Z7 (k:Nat):(DP S K r k).length=K.length:=by simp[DP]
theorem Pc (m:Nat):(CS E S K r x m).length=K.length:=by simp[CS]
theorem mO:AD (DP S K r 0)=List.replicate K.length [AV.I 0]:=by
 simp[DP,Vq]
theorem fW (hk:k<K.length) (h:K[k]∈S):(AD (DP S K r k)).set k [AV.I r]=AD (DP S K r (k+1)):=by
 rw[KI]
 congr 1
 unfold DP;rw[Lo];refine QF λ j hj=>?_
 by_cases h0:j=k
 .subst h0
  rw[if_pos rfl,if_pos ⟨by omega,by simpa [hk] using h⟩]
 .rw [if_neg h0]
  by_cases h1:j<k
  .by_cases h2:S.contains (K.getD j 0)=true
   .rw [if_pos ⟨h1,h2⟩,if_pos ⟨by omega,h2⟩]
   .rw [if_neg (λ q=>h2 q.2),if_neg (λ q=>h2 q.2)]
  .rw [if_neg (λ q=>h1 q.1),if_neg (λ q=>by have:=q.1;omega)]
theorem ZZ (hk:k<K.length) (h:¬ K[k]∈S):DP S K r (k+1)=DP S K r k:=by
 unfold DP;refine QF λ j hj=>?_
 by_cases h0:j=k
 .subst h0
  have:¬ S.contains (K.getD j 0)=true:=by simpa [hk] using h
  rw[if_neg (λ q=>this q.2),if_neg (λ q=>this q.2)]
 .by_cases h2:S.contains (K.getD j 0)=true
  .by_cases h1:j<k
   .rw [if_pos ⟨by omega,h2⟩,if_pos ⟨h1,h2⟩]
   .rw [if_neg (λ q=>by have:=q.1;omega),if_neg (λ q=>h1 q.1)]
  .rw [if_neg (λ q=>h2 q.2),if_neg (λ q=>h2 q.2)]
theorem jB:DP S K r K.length=CS E S K r x 0:=by
 unfold DP CS;refine QF λ j hj=>?_;have:=Qy.1 hj
 by_cases h2:S.contains (K.getD j 0)=true
 .rw [if_pos ⟨this,h2⟩,if_pos h2];simp[CN]
 .rw [if_neg (λ q=>h2 q.2),if_neg h2];simp[CN]
theorem Zx {j:Nat} (h:j<(CS E S K r x m).length):(CS E S K r x m)[j]=(if S.contains (K.getD j 0) then r else 0)+CN (E.take m) x (K.getD j 0):=by simp[CS]
theorem iZ (hm:m<E.length) (h:¬ E[m].f=x):CS E S K r x (m+1)=CS E S K r x m:=by
 unfold CS;refine QF λ j hj=>?_;have he:=PG hm x (K.getD j 0);rw[if_neg (λ q=>h q.1),Int.add_zero] at he;rw[he]
theorem k9 (hn:K.Nodup) (hm:m<E.length) (h:E[m].f=x) (hk:k<K.length) (h1:K[k]=E[m].t):(AD (CS E S K r x m)).set k [AV.I ((if S.contains (K.getD k 0) then r else 0)+CN (E.take m) x (K.getD k 0)+E[m].v)]=AD (CS E S K r x (m+1)):=by
 rw[KI]
 congr 1
 unfold CS;rw[Lo];refine QF λ j hj=>?_;have h2:=Qy.1 hj;have he:=PG hm x (K.getD j 0)
 by_cases h0:j=k
 .subst h0
  have:K.getD j 0=E[m].t:=by simp[hk,h1]
  rw[this,if_pos ⟨h,rfl⟩] at he;rw[if_pos rfl,this,he,Int.add_assoc]
 .have:¬ E[m].t=K.getD j 0:=λ e=>by
   have e2:K[j]=K[k]:=by rw[h1,e];simp[h2]
   exact h0 ((U0 hn).1 e2)
  rw[if_neg (λ q=>this q.2),Int.add_zero] at he;rw[if_neg h0,he]
end
theorem Yk (G:Gr) (S:List Int) (r x:Int):CS G.edges S (Ai G S) r x G.edges.length=CG G S r x:=by
 unfold CS CG;rw[QO];exact OG (Ai G S) (λ y=>(if S.contains y then r else 0)+CN G.edges x y)
abbrev C4 (L:List (List Int)):List (List AV):=L.map λ l=>[AA l]
section
variable (g:Gr) (p:Al) (r:Int) (hg:AI g) (hp:BT g.size p) (hN:g.size<20) (hr:1<=r) (aA:r<=5) (hs:p.seeds.length<=64) (ht:p.table.length<=8)
include hg hp hN hr aA hs ht
theorem mE:AcP 84 [eG g,eP p,.I r] [] (.tup [KP (Ai (AM g p.lv) p.seeds) (Dl (AM g p.lv) p.seeds r),.I 0]) []:=by
 refine j9.s.ai ?_;have c3:=hg.edges_le;have c4:=hg.gone_le;have hd:=Mm g p (by omega) (by omega) (by omega) (by omega)
 rw[if_pos hg,if_pos hp] at hd;have hh:=Kp g p.lv (by omega) (by omega)
 have h0:=hg.level p.lv;have h9:=Oe (g:=AM g p.lv) (S:=p.seeds) h0 hN (by omega)
 have a4:(AY (AM g p.lv) p.seeds).length<=64:=by
  have:=tQ (S:=p.seeds) h0.1.1;have:=h0.1.2.1;omega
 have h3:=O9 (AY (AM g p.lv) p.seeds) (by omega)
 rw[ztA h0] at h3
 have h6:(AY (AM g p.lv) p.seeds).length=(Ai (AM g p.lv) p.seeds).length:=by
  have:=(GB (AY (AM g p.lv) p.seeds)).length_eq;rw[ztA h0] at this;exact this.symm
 rw[h6] at h3;have au:=h0.edges_le;obtain⟨G,av⟩:=AG (AM g p.lv);rw[<- av] at hh h0 h9 a4 h3 h6 au ⊢;obtain⟨O,b1⟩:=AG (AY G p.seeds);rw[<- b1] at h9 h3 a4 h6;have hu:(Ai G p.seeds).length<=64:=by omega
 refine ar [2,3,4,6] [(32,32)] [16,24] 100 ?_;refine AC (rx (s:=?z2) [2,3,4,6,8] [32] [] rfl ?p2 ?r2)
 case p2=>simp;refine Aq hd (by simp) ?_;simp;rfl
 refine rs [2,3,4,6,22] [32] [] ?_;refine AE _ rfl (λ h=>by simp at h) λ _=>?_
 refine AJ (AC (arc ⟨99,[(2,.I r),(3,.pv (gC g)),(4,.pv (pC p)),(6,.pt 32 0 0),(27,.B false)],[(32,some ⟨2,[[.nilS,.nilS]],0⟩)],400⟩ ?_ ?_))
 .simp
  refine Aj (Ev r 1 5) ?_;simp;exact AF [(32,32)] [] (by simp[hr,aA])
 refine AE _ rfl (λ h=>by simp at h) λ _=>?_
 refine AJ ?_;apply ax [2,4,6,9] [(32,32)] [432] 500
 .simp
  refine Aj hh ?_;simp;rfl
 obtain⟨K,h7⟩:=AG (Ai G p.seeds);rw[<- h7] at h3 h6 hu ⊢;have b2:∀ f:Int->List AV,(O.map f).take K.length=O.map f:=λ f=>Qb (by simp[h6])
 have a5:∀ f:Int->List AV,(K.map f).take K.length=K.map f:=λ f=>Qb (by simp)
 refine arc ⟨99,[(2,.I r),(4,.pv (pC p)),(6,.pt 32 0 0),(9,.pv (gC G)),(10,.pt 50 0 0)],[(32,some ⟨2,[[.nilS,.nilS]],0⟩),(50,some ⟨2,[[AA K,.nilS]],0⟩)],800⟩ ?_ ?_
 .simp
  refine CV h9 ?_;simp;refine N7 (j:=524) (by omega) (by simp;rfl) h3 (by simp[AB,h6,b2]) ?_
  simp;exact AF [(32,32),(548,50)] [532] (by simp) (by simp[AB,a5])
 have cb:IntKind.i64.wrap (K.length:Int)=K.length:=w6;have b3:K.Nodup:=by rw[h7];exact HG
 have a6:Dl G p.seeds r=K.map (CG G p.seeds r):=by rw[h7];rfl
 have a7:∀ x,CS G.edges p.seeds K r x G.edges.length=CG G p.seeds r x:=λ x=>by rw[h7];exact Yk G p.seeds r x
 obtain⟨n,hn⟩:=AG (K.length);refine Ao ⟨99,[(6,.pt 32 0 0),(10,.pt 50 0 0)],[(32,some ⟨2,[[.nilS,.nilS]],0⟩),(50,some ⟨2,[[AA K,.rs 51 0 n]],0⟩),(51,some ⟨1,C4 (Dl G p.seeds r),0⟩)],9000⟩ ?_ ?_
 .refine rx (s:=?z7) [2,4,6,9,10,40,41,42] [32,50] [] rfl ?p7 ?r7
  case p7=>simp[<- hn];rfl
  refine AL (Ae (ι:=Nat) (λ i=>⟨99,[(2,.I r),(4,.pv (pC p)),(6,.pt 32 0 0),(9,.pv (gC G)),(10,.pt 50 0 0),(40,AA K),(41,.I n),(42,.I i)],[(32,some ⟨2,[[.nilS,.nilS]],0⟩),(50,some ⟨2,[[AA K,.rs 51 0 i]],0⟩),(51,some ⟨1,C4 ((K.take i).map (CG G p.seeds r)),0⟩)],1000⟩) (λ i=>i<=n) (λ i=>n - i) 0 (Qh _) ?_ ?_)
  .exact Le.lst [(32,32),(50,50)] [] [(51,1)] rfl (by simp) (by simp) (by simp) (by simp) (by simp) (by simp) (by simp) (by simp[Up]) (by simp[AB];exact⟨Am.rfl' (by simp),Am.row rfl (by omega) (by simp[Eg,Up,Wk.refl])⟩)
  intro i hi;refine rx (s:=?z8) [2,4,6,9,10,40,41,42,43] [32,50,51] [] rfl ?p8 ?r8
  case p8=>simp[AB];rfl
  refine AC (AE _ rfl (λ hc=>?_) λ hc=>?_)
  .simp at hc
   have b4:=w6 (x:=(i:Int)+1);have hw:i<K.length:=by omega
   have b5:∀ f:List Int->List AV,(((K.take i).map (CG G p.seeds r)).map f).take i=((K.take i).map (CG G p.seeds r)).map f:=λ f=>Qb (by simp;omega)
   have h4:(K.take (i+1)).map (CG G p.seeds r)=(K.take i).map (CG G p.seeds r)++[CG G p.seeds r K[i]]:=by
    rw[Qm hw,QT];rfl
   obtain⟨x,hx⟩:=AG (K[i]);have b6:x∈Ai G p.seeds:=by rw[<- h7,hx];exact Qj hw
   rw[<- hx] at h4;obtain⟨D,hD⟩:=AG ((K.take i).map (CG G p.seeds r));have a8:D.length=i:=by rw[hD];simp;omega
   rw[<- hD] at b5 h4;refine AJ (Ao ⟨99,[(2,.I r),(4,.pv (pC p)),(6,.pt 32 0 0),(9,.pv (gC G)),(10,.pt 50 0 0),(40,AA K),(41,.I n),(42,.I i)],[(32,some ⟨2,[[.nilS,.nilS]],0⟩),(50,some ⟨2,[[AA K,.rs 51 0 (i+1)]],0⟩),(51,some ⟨1,C4 ((K.take (i+1)).map (CG G p.seeds r)),0⟩)],8000⟩ ?_ ?_)
   .refine AL (arc ⟨99,[(2,.I r),(4,.pv (pC p)),(6,.pt 32 0 0),(9,.pv (gC G)),(10,.pt 50 0 0),(12,.I x),(40,AA K),(41,.I n),(42,.I i)],[(32,some ⟨2,[[.nilS,.nilS]],0⟩),(50,some ⟨2,[[AA K,.rs 51 0 i]],0⟩),(51,some ⟨1,C4 D,0⟩)],1200⟩ ?_ ?_)
    .simp [hw,<- hx,AB]
     exact AF [(32,32),(50,50),(51,51)] [] (by simp) (by simp[AB,hD])
    refine arc ⟨99,[(2,.I r),(4,.pv (pC p)),(6,.pt 32 0 0),(9,.pv (gC G)),(10,.pt 50 0 0),(12,.I x),(13,.rs 52 0 n),(40,AA K),(41,.I n),(42,.I i)],[(32,some ⟨2,[[.nilS,.nilS]],0⟩),(50,some ⟨2,[[AA K,.rs 51 0 i]],0⟩),(51,some ⟨1,C4 D,0⟩),(52,some ⟨1,AD (DP p.seeds K r 0),0⟩)],1400⟩ ?_ ?_
    .simp [<- hn]
     exact⟨by omega,by omega,AF [(32,32),(50,50),(51,51),(1224,52)] [] (by simp) (by simp[AB,mO,<- hn])⟩
    refine Ao ⟨99,[(2,.I r),(4,.pv (pC p)),(6,.pt 32 0 0),(9,.pv (gC G)),(10,.pt 50 0 0),(12,.I x),(13,.rs 52 0 n),(40,AA K),(41,.I n),(42,.I i)],[(32,some ⟨2,[[.nilS,.nilS]],0⟩),(50,some ⟨2,[[AA K,.rs 51 0 i]],0⟩),(51,some ⟨1,C4 D,0⟩),(52,some ⟨1,AD (CS G.edges p.seeds K r x 0),0⟩)],3000⟩ ?_ ?_
    .refine rx (s:=?z11) [2,4,6,9,10,12,13,40,41,42,51,52,53] [32,50,51,52] [] rfl ?p11 ?r11
     case p11=>simp[<- hn,AB];rfl
     refine AL (Ae (ι:=Nat) (λ k=>⟨99,[(2,.I r),(4,.pv (pC p)),(6,.pt 32 0 0),(9,.pv (gC G)),(10,.pt 50 0 0),(12,.I x),(13,.rs 52 0 n),(40,AA K),(41,.I n),(42,.I i),(51,AA K),(52,.I n),(53,.I k)],[(32,some ⟨2,[[.nilS,.nilS]],0⟩),(50,some ⟨2,[[AA K,.rs 51 0 i]],0⟩),(51,some ⟨1,C4 D,0⟩),(52,some ⟨1,AD (DP p.seeds K r k),0⟩)],1600⟩) (λ k=>k<=n) (λ k=>n - k) 0 (Qh _) (Av [(32,32),(50,50),(51,51),(52,52)] []) ?_);intro k cd;refine rx (s:=?z12) [2,4,6,9,10,12,13,40,41,42,51,52,53,54] [32,50,51,52] [] rfl ?p12 ?r12
     case p12=>simp[AB];rfl
     refine AC (AE _ rfl (λ hk=>?_) λ hk=>?_)
     .simp at hk
      have hy:k<K.length:=by omega
      have hz:=w6 (x:=(k:Int)+1);have a9:=Ht p.seeds K[k] (by omega)
      refine AJ (Ao ⟨99,[(2,.I r),(4,.pv (pC p)),(6,.pt 32 0 0),(9,.pv (gC G)),(10,.pt 50 0 0),(12,.I x),(13,.rs 52 0 n),(40,AA K),(41,.I n),(42,.I i),(51,AA K),(52,.I n),(53,.I k)],[(32,some ⟨2,[[.nilS,.nilS]],0⟩),(50,some ⟨2,[[AA K,.rs 51 0 i]],0⟩),(51,some ⟨1,C4 D,0⟩),(52,some ⟨1,AD (DP p.seeds K r (k+1)),0⟩)],2500⟩ ?_ ?_)
      .refine AL (rx (s:=?z13) [2,4,6,9,10,12,13,14,15,40,41,42,51,52,53] [32,50,51,52] [] rfl ?p13 ?r13)
       case p13=>simp[hy,AB];rfl
       refine rx (s:=?z14) [2,4,6,9,10,12,13,14,15,40,41,42,51,52,53,61] [32,50,51,52] [] rfl ?p14 ?r14
       case p14=>simp;refine Aq a9 (by simp) ?_;simp[AB];rfl
       refine AE _ rfl (λ ha=>?_) λ ha=>?_
       .rw [Qd] at ha
        have h5:=fW (r:=r) hy ha;refine Ac rfl ?_;simp[Z7,<- hn,hk,h5];exact Av [(32,32),(50,50),(51,51),(52,52)] []
       .rw [Qa] at ha
        rw[ZZ hy ha];exact AJ (Av [(32,32),(50,50),(51,51),(52,52)] [])
      refine Ag (s:=?z15) rfl ?p15 ?r15
      case p15=>simp[hz];rfl
      exact⟨k+1,by omega,by omega,Av [(32,32),(50,50),(51,51),(52,52)] []⟩
     .simp at hk
      obtain rfl:k=n:=by omega
      refine Aa (hit ?_);rw[<- jB (E:=G.edges) (x:=x),<- hn];exact Av [(32,32),(50,50),(51,51),(52,52)] []
    refine Ao ⟨99,[(2,.I r),(4,.pv (pC p)),(6,.pt 32 0 0),(9,.pv (gC G)),(10,.pt 50 0 0),(12,.I x),(13,.rs 52 0 n),(40,AA K),(41,.I n),(42,.I i)],[(32,some ⟨2,[[.nilS,.nilS]],0⟩),(50,some ⟨2,[[AA K,.rs 51 0 i]],0⟩),(51,some ⟨1,C4 D,0⟩),(52,some ⟨1,AD (CG G p.seeds r x),0⟩)],6000⟩ ?_ ?_
    .refine rx (s:=?z21) [2,4,6,9,10,12,13,40,41,42,68,69,70] [32,50,51,52] [] rfl ?p21 ?r21
     case p21=>simp[AB];rfl
     refine AL (Ae (ι:=Nat) (λ m=>⟨99,[(2,.I r),(4,.pv (pC p)),(6,.pt 32 0 0),(9,.pv (gC G)),(10,.pt 50 0 0),(12,.I x),(13,.rs 52 0 n),(40,AA K),(41,.I n),(42,.I i),(68,CB G.edges),(69,.I G.edges.length),(70,.I m)],[(32,some ⟨2,[[.nilS,.nilS]],0⟩),(50,some ⟨2,[[AA K,.rs 51 0 i]],0⟩),(51,some ⟨1,C4 D,0⟩),(52,some ⟨1,AD (CS G.edges p.seeds K r x m),0⟩)],3500⟩) (λ m=>m<=G.edges.length) (λ m=>G.edges.length - m) 0 (Qh _) (Av [(32,32),(50,50),(51,51),(52,52)] []) ?_);intro m ck;refine rx (s:=?z22) [2,4,6,9,10,12,13,40,41,42,68,69,70,71] [32,50,51,52] [] rfl ?p22 ?r22
     case p22=>simp[AB];rfl
     refine AC (AE _ rfl (λ hm=>?_) λ hm=>?_)
     .simp at hm
      have hz:=w6 (x:=(m:Int)+1);obtain⟨e,he⟩:=AG (G.edges[m]);refine AJ (Ao ⟨99,[(2,.I r),(4,.pv (pC p)),(6,.pt 32 0 0),(9,.pv (gC G)),(10,.pt 50 0 0),(12,.I x),(13,.rs 52 0 n),(40,AA K),(41,.I n),(42,.I i),(68,CB G.edges),(69,.I G.edges.length),(70,.I m)],[(32,some ⟨2,[[.nilS,.nilS]],0⟩),(50,some ⟨2,[[AA K,.rs 51 0 i]],0⟩),(51,some ⟨1,C4 D,0⟩),(52,some ⟨1,AD (CS G.edges p.seeds K r x (m+1)),0⟩)],5000⟩ ?_ ?_)
      .refine AL ?_
       apply ax [2,4,6,9,10,12,13,17,40,41,42,68,69,70] [(32,32),(50,50),(51,51),(52,52)] [3524] 3700
       .simp [hm,<- he]
        rfl
       refine rx (s:=?z24) [2,4,6,9,10,12,13,17,40,41,42,68,69,70,77] [32,50,51,52] [] rfl ?p24 ?r24
       case p24=>simp[AB];rfl
       refine AE _ rfl (λ hf=>?_) λ hf=>?_
       .simp at hf
        have a0:e∈G.edges:=by rw[he];exact Qj hm
        have ad:e.t∈K:=by
         rw[h7,Iu];have h1:=TN h0 a0 (S:=p.seeds) (by rw[hf];exact(Iu.1 b6).2)
         have h2:=h0.fits e a0;unfold BO at h2;exact⟨⟨by omega,by omega⟩,h1.1⟩
        have hj:=TX K e.t (by omega)
        obtain⟨q,hq⟩:∃ q:Nat,q=K.idxOf e.t:=⟨_,rfl⟩;have a1:q<K.length:=by rw[hq];exact List.idxOf_lt_length_iff.2 ad
        have bf:K[q]=e.t:=by subst hq;exact List.getElem_idxOf a1
        have bo:E5 K e.t=(q:Int):=by unfold E5;rw[if_pos ad,hq]
        rw[bo] at hj;have h5:=k9 (E:=G.edges) (S:=p.seeds) (r:=r) (x:=x) b3 hm (by rw[<- he];exact hf) a1 (by rw[<- he];exact bf)
        have hb:=RE h0 m x (K.getD q 0);have hv:=h0.val e a0;obtain⟨b,a2⟩:=AG ((if p.seeds.contains (K.getD q 0) then r else 0)+CN (G.edges.take m) x (K.getD q 0))
        have cl:0<=b/\b<=8:=by rw[a2];split<;>omega
        rw[<- a2,<- he] at h5;have bs:=w6 (x:=b+e.v);have ho:∀ h:q<(CS G.edges p.seeds K r x m).length,(CS G.edges p.seeds K r x m)[q]=b:=λ h=>by rw[Zx h,a2]
        have ag:q<n:=by omega
        have a3:(CS G.edges p.seeds K r x m)[q]? = some b:=by rw[Qc (by rw[Pc];exact a1),ho]
        refine Cr rfl ?_;simp;refine Aj hj ?_;simp[Pc,<- hn,ag,a3,ho,bs,h5];refine⟨rfl,?_⟩;exact Av [(32,32),(50,50),(51,51),(52,52)] []
       .simp at hf
        refine AJ ?_;rw[iZ hm (by rw[<- he];exact hf)]
        exact Av [(32,32),(50,50),(51,51),(52,52)] []
      refine Ag (s:=?z25) rfl ?p25 ?r25
      case p25=>simp[hz];rfl
      exact⟨m+1,by omega,by omega,Av [(32,32),(50,50),(51,51),(52,52)] []⟩
     .simp at hm
      obtain rfl:m=G.edges.length:=by omega
      refine Aa (hit ?_);rw[a7 x];exact Av [(32,32),(50,50),(51,51),(52,52)] []
    have am:(CG G p.seeds r x).length=n:=by rw[<- a7 x,Pc,hn]
    have bt:∀ f:Int->List AV,((CG G p.seeds r x).map f).take n=(CG G p.seeds r x).map f:=λ f=>Qb (by simp[am])
    have c0:∀ f:List Int->List AV,(D.map f).take i=D.map f:=λ f=>Qb (by simp[a8])
    refine Ac rfl ?_
    have c1:List.take (i+1) (List.map ((λ l=>[AA l])∘CG G p.seeds r) K)=C4 D++[[AA (CG G p.seeds r x)]]:=by
     rw[<- List.map_take,<- List.map_map,h4];simp
    simp[a8];refine⟨by omega,by omega,?_⟩
    rw[c1];exact AF [(32,32),(50,50),(6032,51)] [52] (by simp) (by simp[AB,c0,bt,am])
   refine Ag (s:=?z16) rfl ?p16 ?r16
   case p16=>simp[b4];rfl
   exact⟨i+1,by omega,by omega,Av [(32,32),(50,50),(51,51)] []⟩
  .simp at hc
   obtain rfl:i=n:=by omega
   exact Aa (hit (AF [(32,32),(50,50),(51,51)] [] (by simp) (by simp[AB,hn,a6,a5])))
 have c2:∀ f:List Int->List AV,((Dl G p.seeds r).map f).take (Dl G p.seeds r).length=(Dl G p.seeds r).map f:=λ f=>Qb (by simp)
 have an:(Dl G p.seeds r).length=n:=by rw[a6,Qr,hn]
 refine arc ⟨99,[(6,.pt 32 0 0),(7,.I 0)],[(32,some ⟨2,[[AA K,BJ (Dl G p.seeds r)]],0⟩)],9900⟩ ?_ ?_
 .simp
  exact AF [(32,32)] [51] (by simp) (by simp[AB,<- an,c2])
 exact B7 [] []
end
variable {N j m x:Nat}
abbrev CF (s N:Nat) (E:Nat->List (List AV)):List (Nat × Option AQ):=ER s N E++[(50,some ⟨1,A8 N E,0⟩)]
def DJ (m x N:Nat):List (Nat × Nat):=(m,N+1000)::(x,50)::(Cn N).map λ j=>(j,j)
theorem Gg {sz n i:Nat} {t:List (Nat × AV)} {h:List (Nat × Option AQ)} {v:Option AQ} (h0:i≠j):(⟨sz,t,(i,v)::h,n⟩:St).hp j=(⟨sz,t,h,n⟩:St).hp j:=by
 rw[Fg,if_neg h0]
theorem Gp (a b:Nat):((a:Int) == (b:Int))=decide (a=b):=by
 by_cases h:a=b
 .subst h;simp
 .have:¬ (a:Int)=b:=by omega
  rw[UI h]
  simpa using this
section
variable {sz n N s:Nat} {t:List (Nat × AV)} {E:Nat->List (List AV)}
theorem GN {k:Nat} (h:k<N):(⟨sz,t,CF s N E,n⟩:St).hp (k+1000)=some ⟨s,E k,0⟩:=Ws h
theorem Gx:(⟨sz,t,CF s N E,n⟩:St).hp 50=some ⟨1,A8 N E,0⟩:=by rw[JG (by omega)];simp
theorem zvt (hj:j≠50) (hr:j<1000∨1000+N<=j):(⟨sz,t,CF s N E,n⟩:St).hp j=none:=by
 rcases hr with hr | hr
 .rw [JG hr]
  simp[Ne.symm hj]
 .rw [SD hr]
  simp[Ne.symm hj]
theorem PQ {e:AQ} (h:(⟨sz,t,CF s N E,n⟩:St).hp j=some e):(j=50/\e=⟨1,A8 N E,0⟩) ∨ ∃ k,k<N/\j=k+1000/\e=⟨s,E k,0⟩:=by
 by_cases hj:j=50
 .subst hj
  rw[Gx] at h
  cases h;exact .inl ⟨rfl,rfl⟩
 .by_cases hr:j<1000∨1000+N<=j
  .rw [zvt hj hr] at h;cases h
  .obtain ⟨k,rfl⟩:∃ k,j=k+1000:=⟨j - 1000,by omega⟩
   have hk:k<N:=by omega
   rw[GN hk] at h
   cases h;exact .inr ⟨k,hk,rfl,rfl⟩
end
theorem wR:AW (DJ m x N) m=some (N+1000):=by simp[DJ]
theorem tD {k:Nat} (hk:k<N) (hm:m≠k+1000) (hx:x≠k+1000):AW (DJ m x N) (k+1000)=some (k+1000):=by
 rw[DJ,AW,if_neg hm,AW,if_neg hx,Jk (λ j=>j) (λ i j h=>h) (λ j=>j),if_pos (Ee.2 (by omega))]
theorem Le.famNew {sz n n' s:Nat} {E E':Nat->List (List AV)} {R:List (List AV)} {t t':List (Nat × AV)} {h:List (Nat × Option AQ)} (h7:m≠x) (hm:m<1000∨1000+N<m) (hx:1000+N<x) (hn:1000+N<n') (hE:∀ k<N,∀ r∈E k,∀ z∈r,∃ v,z = .sc v) (hR:∀ r∈R,∀ z∈r,∃ v,z = .sc v) (h3:∀ k<N,E' k=E k) (h4:E' N=R) (h9:∀ k<N,(⟨sz,t,h,n⟩:St).hp (k+1000)=some ⟨s,E k,0⟩) (ha:(⟨sz,t,h,n⟩:St).hp m=some ⟨s,R,0⟩) (hb:(⟨sz,t,h,n⟩:St).hp x=some ⟨1,A8 N E++[[.rs m 0 R.length]],0⟩) (ht:∀ p∈t',Wk (conv (DJ m x N) [] (⟨sz,t,h,n⟩:St).hp 4 ((⟨sz,t,h,n⟩:St).get p.1)) p.2):Le 0 ⟨sz,t,h,n⟩ ⟨sz,t',CF s (N+1) E',n'⟩:=by
 have hc:(DJ m x N).map (·.1)=m::x::Cn N:=by simp[DJ,AB]
 have h5:(DJ m x N).map (·.2)=(N+1000)::50::Cn N:=by simp[DJ,AB]
 have h6:(Cn N).Nodup:=IY (λ i j h=>by simpa using h) List.nodup_range
 have cnv:∀ (ρ:List (Nat × Nat)) (hp:Nat->Option AQ) (Z:List (List AV)),(∀ r∈Z,∀ z∈r,∃ v,z=AV.sc v)->Ab ρ [] hp 4 ⟨s,Z,0⟩=⟨s,Z,0⟩:=λ ρ hp Z hZ=>by
  simp only[Ab];rw[HX _ (λ v=>by simp[conv]) _ hZ]
 refine Le.mk (DJ m x N) [] [] rfl ?_ ?_ ?_ (by simp) (by simp) (Qh _) (by simp) (λ i=>?_) ?_
 .rw [hc]
  refine Q7.2 ⟨?_,Q7.2 ⟨?_,h6⟩⟩
  .rw [Qs,not_or]
   exact⟨h7,λ hh=>by have:=Ee.1 hh;omega⟩
  .exact λ hh=>by have:=Ee.1 hh;omega
 .rw [h5]
  refine Q7.2 ⟨?_,Q7.2 ⟨?_,h6⟩⟩
  .rw [Qs,not_or]
   exact⟨by omega,λ hh=>by have:=Ee.1 hh;omega⟩
  .exact λ hh=>by have:=Ee.1 hh;omega
 .intro p hp
  have h2:p.2∈(DJ m x N).map (·.2):=Qi.2 ⟨p,hp,rfl⟩
  rw[h5,Qs,Qs] at h2;refine⟨?_,λ h0=>absurd h0 (U5 _)⟩;show p.2<n';rcases h2 with h2 | h2 | h2
  .omega
  .omega
  .have:=Ee.1 h2;omega
 .show Up [] _ ((AW t' i).getD .dead)
  cases hl:AW t' i with
  | none=>exact .inl (.dead _)
  | some v=>exact .inl (ht _ (D1 hl))
 .intro j e' he
  left
  rcases PQ he with ⟨rfl,rfl⟩ | ⟨k,hk,rfl,rfl⟩
  .refine ⟨x,_,by simp[DJ],hb,?_⟩
   refine Am.eq ?_ (Qh _);simp only[Ab]
   congr 1
   rw[QT]
   have e1:A8 (N+1) E'=A8 N E++[[Ch E' N]]:=by
    simp only[A8,Uk,QT,Qo,UE]
    congr 1
    refine QF λ k hk=>?_;simp only[Ch,h3 k (Qy.1 hk)]
   rw[e1]
   congr 1
   .conv=>rhs;rw[<- List.map_id (A8 N E)]
    refine QF λ r hr=>?_;obtain⟨k,hk,rfl⟩:=Qi.1 hr;have hk:=Qy.1 hk;have:=tD (m:=m) (x:=x) hk (by omega) (by omega)
    simp[Ch,this]
   .simp [Ch,wR,h4]
  .by_cases hd:k=N
   .subst hd
    refine⟨m,_,by simp[DJ],ha,?_⟩
    rw[cnv _ _ _ hR,h4];exact Am.rfl' (Qh _)
   .have h1:k<N:=by omega
    refine⟨k+1000,_,?_,h9 k h1,?_⟩
    .simp only[DJ,Qs,Qi]
     exact .inr (.inr ⟨k+1000,Ee.2 (by omega),rfl⟩)
    .rw [cnv _ _ _ (hE k h1),h3 k h1]
     exact Am.rfl' (Qh _)
theorem Le.keepF {np:Nat} {st st':St} (h0:st'.sz=st.sz) (hn:st.n<=st'.n) (ht:∀ p∈st'.t,st.get p.1=p.2) (hh:∀ j e,st'.hp j=some e->st.hp j=some e):Le np st st':=by
 intro T0 M0 w0 T M a w ok h3;refine⟨T,M,⟨ok.sz.trans h0.symm,ok.df,λ i=>?_,⟨λ id e he=>ok.hs.ent id e (hh id e he),λ id id' e e' g g' b h1 h2=>ok.hs.inj id id' e e' g g' b (hh _ _ h1) (hh _ _ h2)⟩,λ id g hg=>U9 (ok.dom id g hg) hn,ok.after⟩,QH h3 hn⟩;unfold St.get at *
 cases hl:AW st'.t i with
 | none=>exact .dead _ _
 | some v =>
   have:=ht _ (D1 hl);simp only at this;show Ad T w M v _;rw[<- this];exact ok.tm i
variable {E:Nat->List (List AV)} {M N j k n n' s sz:Nat} {t t':List (Nat × AV)}
theorem XV {E':Nat->List (List AV)} (h:∀ k<N,(E k).length=(E' k).length):A8 N E=A8 N E':=by
 unfold A8;refine QF λ k hk=>?_;simp only[Ch,h k (Qy.1 hk)]
def Ce (ρ:List (Nat × Nat)) (N:Nat):List (Nat × Nat):=ρ++(Cn N).map λ j=>(j,j)
theorem ZO {ρ:List (Nat × Nat)} (h:∀ p∈ρ,p.1<1000∨1000+N<=p.1) (hk:k<N):AW (Ce ρ N) (k+1000)=some (k+1000):=by
 unfold Ce
 induction ρ with
 | nil =>
   rw[Q5,Jk (λ j=>j) (λ i j h=>h) (λ j=>j),if_pos (Ee.2 (by omega))]
 | cons p ρ ih =>
   rw[QR,AW,if_neg (by have:=h p (by simp);omega)]
   exact ih λ q hq=>h q (by simp[hq])
theorem dD {ρ:List (Nat × Nat)} {sn:List Nat} {hp:Nat->Option AQ} (h:∀ p∈ρ,p.1<1000∨1000+N<=p.1):(A8 N E).map (·.map (conv (Ce ρ N) sn hp 4))=A8 N E:=by
 conv=>rhs;rw[<- List.map_id (A8 N E)]
 refine QF λ r hr=>?_;obtain⟨k,hk,rfl⟩:=Qi.1 hr;have:=ZO (k:=k) h (Qy.1 hk);simp[Ch,this]
theorem Le.famX {m:Nat} {x:Option AQ} {h:List (Nat × Option AQ)} (nl:Bool) (hm:m≠50/\(m<1000∨1000+N<=m)) (hn:1000+N<=n') (hE:∀ k<N,∀ r∈E k,∀ z∈r,∃ v,z = .sc v) (h7:∀ k<N,(⟨sz,t,h,n⟩:St).hp (k+1000)=some ⟨s,E k,0⟩) (h9:(⟨sz,t,h,n⟩:St).hp 50=some ⟨1,A8 N E,0⟩) (hx:x=none∨(nl=true/\x=some ⟨1,[],0⟩)∨(nl=false /\ ∃ R,(∀ r∈R,∀ z∈r,∃ v,z=AV.sc v)/\x=some ⟨1,R,0⟩/\(⟨sz,t,h,n⟩:St).hp m=some ⟨1,R,0⟩)) (ht:∀ p∈t',Up (if nl then [(60,1)] else []) (conv (Ce (if nl then [(50,50)] else [(m,60),(50,50)]) N) [] (⟨sz,t,h,n⟩:St).hp 4 ((⟨sz,t,h,n⟩:St).get p.1)) p.2):Le 0 ⟨sz,t,h,n⟩ ⟨sz,t',(60,x)::CF s N E,n'⟩:=by
 obtain⟨ρ,hρ⟩:=AG ((if nl then [(50,50)] else [(m,60),(50,50)]))
 rw[<- hρ] at ht
 have h2:∀ p∈ρ,(p.1=50/\p.2=50)∨(nl=false/\p.1=m/\p.2=60):=λ p hp=>by
  rw[hρ] at hp
  cases nl<;>simp at hp
  .rcases hp with rfl | rfl
   .exact .inr ⟨rfl,rfl,rfl⟩
   .exact .inl ⟨rfl,rfl⟩
  .subst hp;exact .inl ⟨rfl,rfl⟩
 have h3:∀ p∈ρ,p.1<1000∨1000+N<=p.1:=λ p hp=>by
  rcases h2 p hp with h | h<;>omega
 have h4:(50,50)∈ρ:=by rw[hρ];cases nl<;>simp
 have h5:(Cn N).Nodup:=IY (λ i j h=>by simpa using h) List.nodup_range
 have hc:(Ce ρ N).map (·.1)=ρ.map (·.1)++Cn N:=by simp[Ce,AB]
 have h6:(Ce ρ N).map (·.2)=ρ.map (·.2)++Cn N:=by simp[Ce,AB]
 have hd:(ρ.map (·.1)).Nodup:=by rw[hρ];cases nl<;>simp[hm.1]
 have hf:(ρ.map (·.2)).Nodup:=by rw[hρ];cases nl<;>simp
 refine Le.mk (Ce ρ N) [] (if nl then [(60,1)] else []) rfl ?_ ?_ ?_ ?_ (by simp) (Qh _) (by cases nl<;>simp) (λ i=>?_) ?_
 .rw [hc]
  refine Uh.2 ⟨hd,h5,λ a ha b hb e=>?_⟩;obtain⟨p,hp,rfl⟩:=Qi.1 ha;have:=Ee.1 hb;have:=h3 p hp;omega
 .rw [h6]
  refine Uh.2 ⟨hf,h5,λ a ha b hb e=>?_⟩;obtain⟨p,hp,rfl⟩:=Qi.1 ha;have:=Ee.1 hb;rcases h2 p hp with h | h<;>omega
 .intro p hp
  refine⟨?_,λ h0=>absurd h0 (U5 _)⟩;show p.2<n';unfold Ce at hp;rcases Qq.1 hp with hp | hp
  .rcases h2 p hp with h | h<;>omega
  .obtain ⟨j,hj,rfl⟩:=Qi.1 hp
   have:=Ee.1 hj;simp only;omega
 .intro p hp
  cases nl
  .simp at hp
  .simp at hp
   subst hp;refine⟨Qh _,by simp only;omega,?_,by simp⟩
   rw[h6,Qq,not_or];refine⟨λ hh=>?_,λ hh=>by have:=Ee.1 hh;simp only at this;omega⟩
   obtain⟨p,hp,e⟩:=Qi.1 hh;rcases h2 p hp with h | h
   .omega
   .exact absurd h.1 (by simp)
 .show Up _ _ ((AW t' i).getD .dead)
  cases hl:AW t' i with
  | none=>exact .inl (.dead _)
  | some v=>exact ht _ (D1 hl)
 .intro j e' he
  by_cases hj:j=60
  .subst hj
   rw[Fg,if_pos rfl] at he;rcases hx with hx | ⟨h1,hx⟩ | ⟨h1,R,hR,hx,hi⟩
   .rw [hx] at he;cases he
   .rw [hx] at he
    cases he
    right
    subst h1;exact⟨by simp,rfl,rfl⟩
   .rw [hx] at he
    cases he
    left
    subst h1;refine⟨m,_,?_,hi,?_⟩
    .rw [hρ];simp[Ce]
    .simp only[Ab]
     rw[HX _ (λ v=>by simp[conv]) _ hR]
     exact Am.rfl' (Qh _)
  .rw [Fg,if_neg (λ e=>hj e.symm)] at he
   left
   rcases PQ he with ⟨rfl,rfl⟩ | ⟨k,hk,rfl,rfl⟩
   .refine ⟨50,_,Q0 _ h4,h9,?_⟩
    refine Am.eq ?_ (Qh _);simp only[Ab];rw[dD h3]
   .refine ⟨k+1000,_,?_,h7 k hk,?_⟩
    .refine UH _ ?_
     exact Qi.2 ⟨k+1000,Ee.2 (by omega),rfl⟩
    .simp only[Ab]
     rw[HX _ (λ v=>by simp[conv]) _ (hE k hk)]
     exact Am.rfl' (Qh _)
theorem Le.lessH {np:Nat} {h h':List (Nat × Option AQ)} (hh:∀ j e,(⟨sz,t,h',n⟩:St).hp j=some e->(⟨sz,t,h,n⟩:St).hp j=some e):Le np ⟨sz,t,h,n⟩ ⟨sz,t,h',n⟩:=by
 intro T0 M0 w0 T M a w ok h0;exact⟨T,M,⟨ok.sz,ok.df,ok.tm,⟨λ id e he=>ok.hs.ent id e (hh id e he),λ id id' e e' g g' b h1 h2=>ok.hs.inj id id' e e' g g' b (hh _ _ h1) (hh _ _ h2)⟩,ok.dom,ok.after⟩,h0⟩
theorem Le.famK (hn:1000+N<=n') (hE:∀ k<N,∀ r∈E k,∀ z∈r,∃ v,z = .sc v) (ht:∀ p∈t',Up [(60,1)] (conv (Ce [(50,50)] N) [] (⟨sz,t,CF s N E,n⟩:St).hp 4 ((⟨sz,t,CF s N E,n⟩:St).get p.1)) p.2):Le 0 ⟨sz,t,CF s N E,n⟩ ⟨sz,t',CF s N E,n'⟩:=by
 refine Le.trans' (Le.famX (m:=0) (x:=none) (t':=t') (n':=n') true ⟨by omega,.inl (by omega)⟩ hn hE (λ k hk=>GN hk) Gx (.inl rfl) ht) ?_
 refine Le.lessH λ j e he=>?_;rw[Gg]
 .exact he
 .rintro rfl
  rw[zvt (by omega) (.inl (by omega))] at he
  cases he
theorem Le.famSet {np a:Nat} {E':Nat->List (List AV)} (hn:n<=n') (hE:∀ k<N,k≠a->E' k=E k) (hl:(E' a).length=(E a).length) (ht:∀ p∈t',(⟨sz,t,(a+1000,some ⟨s,E' a,0⟩)::CF s N E,n⟩:St).get p.1=p.2):Le np ⟨sz,t,(a+1000,some ⟨s,E' a,0⟩)::CF s N E,n⟩ ⟨sz,t',CF s N E',n'⟩:=by
 refine Le.keepF rfl hn ht λ j e he=>?_;rcases PQ he with ⟨rfl,rfl⟩ | ⟨k,hk,rfl,rfl⟩
 .rw [Fg,if_neg (by omega),Gx]
  congr 2
  refine XV λ k hk=>?_
  by_cases h0:k=a
  .subst h0;exact hl.symm
  .rw [hE k hk h0]
 .by_cases h0:k=a
  .subst h0
   rw[Fg,if_pos rfl]
  .rw [Fg,if_neg (by omega),GN hk,hE k hk h0]
def Af (B:Nat->Nat->Nat) (M k:Nat):List (List AV):=(List.range M).map λ j=>[U (B k j:Nat)]
theorem GU (B:Nat->Nat->Nat) (M k:Nat):∀ r∈Af B M k,∀ z∈r,∃ v,z=AV.sc v:=by
 intro r hr z hz;obtain⟨j,_,rfl⟩:=Qi.1 hr;exact⟨_,QC.1 hz⟩
theorem Fz (B:Nat->Nat->Nat) (M k:Nat):(Af B M k).length=M:=by simp[Af]
theorem W4 {B:Nat->Nat->Nat} (h:j<M):(Af B M k)[j]? = some [U (B k j:Nat)]:=by simp[Af,h]
theorem Kh {B:Nat->Nat->Nat} (h:j<(Af B M k).length):(Af B M k)[j]=[U (B k j:Nat)]:=by simp[Af]
theorem Ro (B:Nat->Nat->Nat) (M k:Nat):Af B (M+1) k=Af B M k++[[U (B k M:Nat)]]:=by simp[Af,Uk]
theorem vN {B B':Nat->Nat->Nat} {v:Nat} (h:∀ i,i<M->B' k i=if i=j then v else B k i):(Af B M k).set j [U (v:Nat)]=Af B' M k:=by
 apply Vd;intro i;rw[U3]
 by_cases hi:i<M
 .rw [W4 hi,W4 hi,Fz,h i hi]
  by_cases h0:j=i
  .subst h0;simp[hi]
  .have:¬ i=j:=λ e=>h0 e.symm
   simp[h0,this]
 .have h1:(Af B M k)[i]? = none:=by simp[Af,hi]
  have h2:(Af B' M k)[i]? = none:=by simp[Af,hi]
  rw[h1,h2];split
  .rw [if_neg (by rw[Fz];omega)]
  .rfl
section
variable {a b:Nat}
theorem II {x:Int} {n:Nat} (h:x=n) (h2:n<18446744073709551616):IntKind.u64.wrap x=n:=by rw[h];exact E0 (by omega) (by omega)
theorem HU (a:Nat) (h:a<18446744073709551616):(BitVec.ofInt 64 (a:Int)).toNat=a:=by rw[BitVec.toNat_ofInt];omega
theorem HM (a:Nat) (h:a<18446744073709551616):AH .and (.int .u64 (a:Int)) (.int .u64 4294967295)=some (.int .u64 ((a % 4294967296:Nat):Int)):=by
 have h2:(BitVec.ofInt 64 (4294967295:Int)).toNat=2 ^ 32 - 1:=rfl;show some (Value.int .u64 (IntKind.u64.wrap ((BitVec.ofInt 64 (a:Int) &&& BitVec.ofInt 64 4294967295).toNat:Int)))=_;rw[BitVec.toNat_and,HU a h,h2,Nat.and_two_pow_sub_one_eq_mod,II (n:=a % 4294967296) rfl (by omega)]
theorem wZ (a:Nat) (h:a<18446744073709551616):AH .and (.int .u64 (a:Int)) (.int .u64 1)=some (.int .u64 ((a % 2:Nat):Int)):=by
 have h2:(BitVec.ofInt 64 (1:Int)).toNat=2 ^ 1 - 1:=rfl;show some (Value.int .u64 (IntKind.u64.wrap ((BitVec.ofInt 64 (a:Int) &&& BitVec.ofInt 64 1).toNat:Int)))=_;rw[BitVec.toNat_and,HU a h,h2,Nat.and_two_pow_sub_one_eq_mod,II (n:=a % 2) rfl (by omega)]
theorem Dr (a s:Nat) (hs:s<=64):AH .shr (.int .u64 (a:Int)) (.int .u64 (s:Int))=some (.int .u64 ((a / 2 ^ s:Nat):Int)):=by
 show (if (0:Int)<=s then some (Value.int .u64 ((a:Int).fdiv (2 ^ (min (s:Int).toNat 64)))) else none)=_
 rw[if_pos (by omega)]
 have:min (s:Int).toNat 64=s:=by omega
 have h0:(0:Int)<=2 ^ s:=by have:=Int.pow_pos (n:=2) (m:=s) (by omega);omega
 rw[this,QK _ h0]
 congr 2
theorem EZ (a b:Nat) (h:a*b<18446744073709551616):AH .mul (.int .u64 (a:Int)) (.int .u64 (b:Int))=some (.int .u64 ((a*b:Nat):Int)):=by
 show some (Value.int .u64 (IntKind.u64.wrap ((a:Int)*b)))=_;rw[II (n:=a*b) (by simp) h]
theorem FT (a b:Nat) (h:a+b<18446744073709551616):AH .add (.int .u64 (a:Int)) (.int .u64 (b:Int))=some (.int .u64 ((a+b:Nat):Int)):=by
 show some (Value.int .u64 (IntKind.u64.wrap ((a:Int)+b)))=_;rw[II (n:=a+b) (by simp) h]
theorem IF (a b:Nat) (h:b<=a) (h2:a<18446744073709551616):AH .sub (.int .u64 (a:Int)) (.int .u64 (b:Int))=some (.int .u64 ((a - b:Nat):Int)):=by
 show some (Value.int .u64 (IntKind.u64.wrap ((a:Int) - b)))=_;rw[II (n:=a - b) (by omega) (by omega)]
theorem JM (a b:Nat) (h:a<18446744073709551616) (hb:0<b):AH .quo (.int .u64 (a:Int)) (.int .u64 (b:Int))=some (.int .u64 ((a / b:Nat):Int)):=by
 show (if (b:Int)=0 then none else some (Value.int .u64 (IntKind.u64.wrap ((a:Int).tdiv b))))=_
 rw[if_neg (by omega)]
 have:=Nat.div_le_self a b;rw[II (n:=a / b) (by simp) (by omega)]
theorem PH (a b:Nat) (hb:0<b):AH .rem (.int .u64 (a:Int)) (.int .u64 (b:Int))=some (.int .u64 ((a % b:Nat):Int)):=by
 show (if (b:Int)=0 then none else some (Value.int .u64 ((a:Int).tmod b)))=_
 rw[if_neg (by omega)]
 simp[Vg]
theorem GR (x:Int):IntKind.u64.wrap x=x % 18446744073709551616:=IntKind.wrap_u64 x
end
theorem oM (x y:Nat) (hx:x<18446744073709551616) (hy:y<18446744073709551616):AcP 166 [U x,U y] [] (.tup [U ((x*y / 18446744073709551616:Nat):Int),U ((x*y % 18446744073709551616:Nat):Int)]) []:=by
 refine RY.s.ai ?_;have a1:=HM x hx;have a2:=HM y hy;have s1:AH .shr (.int .u64 (x:Int)) (.int .u64 32)=some (.int .u64 ((x / 2 ^ 32:Nat):Int)):=Dr x 32 (by omega)
 have s2:AH .shr (.int .u64 (y:Int)) (.int .u64 32)=some (.int .u64 ((y / 2 ^ 32:Nat):Int)):=Dr y 32 (by omega)
 obtain⟨g1,g2,g3,g4⟩:=Go.Lib.mul64_hi x y hx hy
 have h7:x*y / 18446744073709551616<18446744073709551616:=by
  have:x*y<=x*18446744073709551616:=Nat.mul_le_mul_left x (by omega)
  rw[Nat.div_lt_iff_lt_mul (by omega)]
  have h2:x*18446744073709551616<18446744073709551616*18446744073709551616:=Nat.mul_lt_mul_of_pos_right hx (by omega)
  omega
 have e32:(2:Nat) ^ 32=4294967296:=rfl;rw[e32] at s1 s2;have b00:x % 4294967296<4294967296:=Uf _ (by omega)
 have b01:x / 4294967296<4294967296:=by omega
 have b10:y % 4294967296<4294967296:=Uf _ (by omega)
 have b11:y / 4294967296<4294967296:=by omega
 obtain⟨x0,h0⟩:∃ z,z=x % 4294967296:=⟨_,rfl⟩;obtain⟨x1,h1⟩:∃ z,z=x / 4294967296:=⟨_,rfl⟩;obtain⟨y0,h3⟩:∃ z,z=y % 4294967296:=⟨_,rfl⟩;obtain⟨y1,h4⟩:∃ z,z=y / 4294967296:=⟨_,rfl⟩;rw[<- h0] at a1 g1 g2 g3 g4 b00;rw[<- h1] at s1 g2 g3 g4 b01;rw[<- h3] at a2 g1 g2 g3 g4 b10;rw[<- h4] at s2 g3 g4 b11;have m1:=EZ x0 y0 g1;have m2:=EZ x1 y0 (by have:=Nat.mul_le_mul (Nat.le_of_lt b01) (Nat.le_of_lt b10);have:=Go.Lib.half_mul_le (a:=x1) (b:=y0) (by omega) (by omega);omega)
 have m3:=EZ x0 y1 (by have:=Go.Lib.half_mul_le (a:=x0) (b:=y1) (by omega) (by omega);omega)
 have m4:=EZ x1 y1 (by have:=Go.Lib.half_mul_le (a:=x1) (b:=y1) (by omega) (by omega);omega)
 obtain⟨w0,h5⟩:∃ z,z=x0*y0:=⟨_,rfl⟩;rw[<- h5] at m1 g1 g2 g3 g4;have s3:AH .shr (.int .u64 (w0:Int)) (.int .u64 32)=some (.int .u64 ((w0 / 2 ^ 32:Nat):Int)):=Dr w0 32 (by omega)
 rw[e32] at s3;have d1:=FT (x1*y0) (w0 / 4294967296) g2;obtain⟨t,ht⟩:∃ z,z=x1*y0+w0 / 4294967296:=⟨_,rfl⟩;rw[<- ht] at d1 g2 g3 g4;have a3:=HM t g2;have s4:AH .shr (.int .u64 (t:Int)) (.int .u64 32)=some (.int .u64 ((t / 2 ^ 32:Nat):Int)):=Dr t 32 (by omega)
 rw[e32] at s4;have d2:=FT (t % 4294967296) (x0*y1) g3;obtain⟨w1,h6⟩:∃ z,z=t % 4294967296+x0*y1:=⟨_,rfl⟩;rw[<- h6] at d2 g3 g4;have s5:AH .shr (.int .u64 (w1:Int)) (.int .u64 32)=some (.int .u64 ((w1 / 2 ^ 32:Nat):Int)):=Dr w1 32 (by omega)
 rw[e32] at s5;have d3:=FT (x1*y1) (t / 4294967296) (by omega)
 have d4:=FT (x1*y1+t / 4294967296) (w1 / 4294967296) (by omega)
 rw[g4] at d4
 have m5:AH .mul (.int .u64 (x:Int)) (.int .u64 (y:Int))=some (.int .u64 ((x*y % 18446744073709551616:Nat):Int)):=by
  show some (Value.int .u64 (IntKind.u64.wrap ((x:Int)*y)))=_;rw[GR];simp
 refine rs [0,1] [] [] ?_;refine rx (s:=?z2) [0,1,6] [] [] rfl ?p2 ?r2
 case p2=>simp[-AH,-Int.natCast_mul,-Int.natCast_add,-Int.natCast_ediv,-Int.natCast_emod,a1];rfl
 refine rx (s:=?z3) [0,1,6,7] [] [] rfl ?p3 ?r3
 case p3=>simp[-AH,-Int.natCast_mul,-Int.natCast_add,-Int.natCast_ediv,-Int.natCast_emod,s1];rfl
 refine rx (s:=?z4) [0,1,6,7,8] [] [] rfl ?p4 ?r4
 case p4=>simp[-AH,-Int.natCast_mul,-Int.natCast_add,-Int.natCast_ediv,-Int.natCast_emod,a2];rfl
 refine rx (s:=?z5) [0,1,6,7,8,9] [] [] rfl ?p5 ?r5
 case p5=>simp[-AH,-Int.natCast_mul,-Int.natCast_add,-Int.natCast_ediv,-Int.natCast_emod,s2];rfl
 refine rx (s:=?z6) [0,1,6,7,8,9,10] [] [] rfl ?p6 ?r6
 case p6=>simp[-AH,-Int.natCast_mul,-Int.natCast_add,-Int.natCast_ediv,-Int.natCast_emod,m1];rfl
 refine rx (s:=?z7) [0,1,6,7,9,11] [] [] rfl ?p7 ?r7
 case p7=>simp[-AH,-Int.natCast_mul,-Int.natCast_add,-Int.natCast_ediv,-Int.natCast_emod,m2,s3,d1];rfl
 refine rx (s:=?z8) [0,1,6,7,9,11,12] [] [] rfl ?p8 ?r8
 case p8=>simp[-AH,-Int.natCast_mul,-Int.natCast_add,-Int.natCast_ediv,-Int.natCast_emod,a3];rfl
 refine rx (s:=?z9) [0,1,6,7,9,12,13] [] [] rfl ?p9 ?r9
 case p9=>simp[-AH,-Int.natCast_mul,-Int.natCast_add,-Int.natCast_ediv,-Int.natCast_emod,s4];rfl
 refine rx (s:=?z10) [0,1,7,9,12,13] [] [] rfl ?p10 ?r10
 case p10=>simp[-AH,-Int.natCast_mul,-Int.natCast_add,-Int.natCast_ediv,-Int.natCast_emod,m3,d2];rfl
 refine rx (s:=?z11) [0,1,4] [] [] rfl ?p11 ?r11
 case p11=>simp[-AH,-Int.natCast_mul,-Int.natCast_add,-Int.natCast_ediv,-Int.natCast_emod,m4,d3,s5,d4];rfl
 refine rx (s:=?z12) [4,5] [] [] rfl ?p12 ?r12
 case p12=>simp[-AH,-Int.natCast_mul,-Int.natCast_add,-Int.natCast_ediv,-Int.natCast_emod,m5];rfl
 exact B7 [] []
theorem cO:AcP 155 [U 2305843009213693951] [] (.I 61) []:=by
 refine TC.s.ai ?_;have s1:AH .shr (.int .u64 2305843009213693951) (.int .u64 32)=some (.int .u64 536870911):=Dr 2305843009213693951 32 (by omega)
 have s2:AH .shr (.int .u64 536870911) (.int .u64 16)=some (.int .u64 8191):=Dr 536870911 16 (by omega)
 have s3:AH .shr (.int .u64 8191) (.int .u64 8)=some (.int .u64 31):=Dr 8191 8 (by omega)
 refine rs [0,2] [] [] ?_;refine AC (rs [0,2,4] [] [] ?_);refine AE _ rfl (λ _=>?_) λ h=>by simp at h
 refine rx (s:=?z3) [0,2] [] [] rfl ?p3 ?r3
 case p3=>simp[-AH,-Int.natCast_mul,-Int.natCast_add,-Int.natCast_ediv,-Int.natCast_emod,s1];rfl
 refine AX ?_;refine AC (rs [0,2,8] [] [] ?_);refine AE _ rfl (λ _=>?_) λ h=>by simp at h
 refine rx (s:=?z6) [0,2] [] [] rfl ?p6 ?r6
 case p6=>simp[-AH,-Int.natCast_mul,-Int.natCast_add,-Int.natCast_ediv,-Int.natCast_emod,s2];rfl
 refine AX ?_;refine AC (rs [0,2,14] [] [] ?_);refine AE _ rfl (λ _=>?_) λ h=>by simp at h
 refine rx (s:=?z9) [0,2] [] [] rfl ?p9 ?r9
 case p9=>simp[-AH,-Int.natCast_mul,-Int.natCast_add,-Int.natCast_ediv,-Int.natCast_emod,s3];rfl
 refine AX ?_;refine arc ⟨25,[(2,.I 61)],[],2000⟩ ?_ ?_
 .simp
  exact⟨by decide,5,rfl,AF [] [] (by simp<;>exact .refl _)⟩
 exact Bl
theorem kE:AcP 197 [U 2305843009213693951] [] (.I 3) []:=by
 refine gW.s.ai ?_;refine rs [0] [] [] ?_;refine rx (s:=?z2) [2] [] [] rfl ?p2 ?r2
 case p2=>simp;refine Aq cO (by simp) ?_;simp[show IntKind.i64.wrap 3=3 from rfl];rfl
 exact Bl
theorem cJ {hi lo:Nat} (h:hi<2305843009213693951) (hl:lo<18446744073709551616) :
  (hi*8+lo / 2305843009213693952)*18446744073709551616+lo*8 % 18446744073709551616=8*(hi*18446744073709551616+lo)/\hi*8+lo / 2305843009213693952<18446744073709551608:=by omega
theorem pE (hi lo:Nat) (h:hi<2305843009213693951) (hl:lo<18446744073709551616):AH .or (.int .u64 ((hi*8:Nat):Int)) (.int .u64 ((lo / 2305843009213693952:Nat):Int))=some (.int .u64 ((hi*8+lo / 2305843009213693952:Nat):Int)):=by
 show some (Value.int .u64 (IntKind.u64.wrap ((BitVec.ofInt 64 ((hi*8:Nat):Int) ||| BitVec.ofInt 64 ((lo / 2305843009213693952:Nat):Int)).toNat:Int)))=_;rw[BitVec.toNat_or,HU _ (by omega),HU _ (by omega)]
 have e:hi*8 ||| lo / 2305843009213693952=hi*8+lo / 2305843009213693952:=by
  have h1:lo / 2305843009213693952<2 ^ 3:=by omega
  have h2:=Nat.shiftLeft_add_eq_or_of_lt h1 hi;rw[Nat.shiftLeft_eq] at h2;exact h2.symm
 rw[e,II (n:=hi*8+lo / 2305843009213693952) rfl (by omega)]
theorem Si {q y0 r u1:Nat} (hr:r<4294967296) (hu:u1<4294967296) (hq:q<4294967296) (hy:y0<4294967296) :
  q*y0<18446744073709551616/\4294967296*r<18446744073709551616/\4294967296*r+u1<18446744073709551616:=by
 have h1:q*y0<=4294967295*4294967295:=Nat.mul_le_mul (by omega) (by omega)
 omega
theorem Rg {u3 u1 q Y:Nat} (hY:0<Y) (hq:q=(u3*4294967296+u1) / Y) (h0:Y<18446744073709551616) :
  IntKind.u64.wrap (IntKind.u64.wrap (IntKind.u64.wrap ((u3:Int)*4294967296)+u1) - IntKind.u64.wrap ((q:Int)*Y))=(((u3*4294967296+u1) % Y:Nat):Int):=by
 have h1:=Nat.div_add_mod (u3*4294967296+u1) Y;rw[<- hq] at h1;have h2:=Uf (u3*4294967296+u1) hY;obtain⟨m,hm⟩:=AG ((u3*4294967296+u1) % Y);rw[<- hm] at h1 h2 ⊢;have h3:((q:Int)*Y)=((Y*q:Nat):Int):=by rw[Int.natCast_mul,Int.mul_comm]
 obtain⟨z,hz⟩:=AG (Y*q);rw[h3,<- hz];rw[<- hz] at h1;rw[GR,GR,GR,GR];omega
theorem JK (a:Nat):AH .shl (.int .u64 (a:Int)) (.int .u64 3)=some (.int .u64 ((a*8 % 18446744073709551616:Nat):Int)):=by
 show (if (0:Int)<=3 then some (Value.int .u64 (IntKind.u64.wrap ((a:Int)*2 ^ (min (3:Int).toNat 64)))) else none)=_
 rw[if_pos (by omega),GR]
 have:(2:Int) ^ (min (3:Int).toNat 64)=8:=rfl;rw[this]
 congr 2
theorem rW {hi lo:Nat} (h:hi<2305843009213693951) (hl:lo<18446744073709551616) :
  (((hi*8+lo / 2305843009213693952)*4294967296+lo*8 % 18446744073709551616 / 4294967296) % 18446744073709551608*4294967296+lo*8 % 18446744073709551616 % 4294967296) % 18446744073709551608 / 8=(hi*18446744073709551616+lo) % 2305843009213693951:=by
 rw[oW (by omega)]
 have e:((hi*8+lo / 2305843009213693952)*4294967296+lo*8 % 18446744073709551616 / 4294967296)*4294967296+lo*8 % 18446744073709551616 % 4294967296=2 ^ 3*(hi*18446744073709551616+lo):=by omega
 rw[e];exact tL (s:=3) (y:=2305843009213693951)
theorem TQ {u3 u1 q r:Nat} (hd:De 4294967296 4294967295 4294967288 u3 u1 q r) (h3:u3<18446744073709551608) (hr:4294967296<=r):q<4294967296:=by
 have:=hd.eq;omega
theorem Yj {hi lo:Nat} (h:hi<2305843009213693951) (hl:lo<18446744073709551616):∃ u3 h1 u1 u0:Nat,
  AH .shl (.int .u64 (hi:Int)) (.int .u64 3)=some (.int .u64 ((hi*8:Nat):Int)) /\
  AH .shr (.int .u64 (lo:Int)) (.int .u64 61)=some (.int .u64 ((lo / 2305843009213693952:Nat):Int)) /\
  AH .or (.int .u64 ((hi*8:Nat):Int)) (.int .u64 ((lo / 2305843009213693952:Nat):Int))=some (.int .u64 (u3:Int)) /\
  AH .shl (.int .u64 (lo:Int)) (.int .u64 3)=some (.int .u64 (h1:Int)) /\
  AH .shr (.int .u64 (h1:Int)) (.int .u64 32)=some (.int .u64 (u1:Int)) /\
  AH .and (.int .u64 (h1:Int)) (.int .u64 4294967295)=some (.int .u64 (u0:Int)) /\
  u1<4294967296/\u0<4294967296/\u3<18446744073709551608 /\
  (Unit->((u3*4294967296+u1) % 18446744073709551608*4294967296+u0) % 18446744073709551608 / 8=(hi*18446744073709551616+lo) % 2305843009213693951):=by
 have h0:lo*8 % 18446744073709551616<18446744073709551616:=Uf _ (by decide)
 refine⟨hi*8+lo / 2305843009213693952,lo*8 % 18446744073709551616,lo*8 % 18446744073709551616 / 4294967296,lo*8 % 18446744073709551616 % 4294967296,?_,Dr lo 61 (by omega),pE hi lo h hl,JK lo,Dr _ 32 (by omega),HM _ h0,?_,Uf _ (by decide),(cJ h hl).2,λ _=>rW h hl⟩
 .rw [JK hi,Vi (by omega)]
 .exact Nat.div_lt_of_lt_mul h0
theorem tX (hi lo:Nat) (h:hi<2305843009213693951) (hl:lo<18446744073709551616):AcP 168 [U hi,U lo,U 2305843009213693951] [] (.tup [.dead,U (((hi*18446744073709551616+lo) % 2305843009213693951:Nat):Int)]) []:=by
 refine vI.s.ai ?_;refine rs [0,1,2] [] [] ?_;refine AC (rs [0,1,2,20] [] [] ?_);refine AE _ rfl (λ h=>by simp at h) λ _=>?_
 refine AJ (AC (arc ⟨135,[(0,U hi),(1,U lo),(2,U 2305843009213693951),(24,.B false)],[],100⟩ ?_ ?_))
 .simp
  exact AF [] [] (by simp<;>exact Aw (by simp;omega))
 refine AE _ rfl (λ h=>by simp at h) λ _=>?_
 refine AJ (AC (arc ⟨135,[(0,U hi),(1,U lo),(2,U 2305843009213693951),(27,.B (decide (hi=0)))],[],200⟩ ?_ ?_))
 .simp
  exact AF [] [] (by simp<;>exact Aw (by rw[Qp];simp))
 refine AE _ rfl (λ h0=>?_) λ h0=>?_
 .simp at h0
  subst h0;have f1:AH .quo (.int .u64 (lo:Int)) (.int .u64 2305843009213693951)=some (.int .u64 ((lo / 2305843009213693951:Nat):Int)):=JM lo 2305843009213693951 hl (by omega)
  have f2:AH .rem (.int .u64 (lo:Int)) (.int .u64 2305843009213693951)=some (.int .u64 ((lo % 2305843009213693951:Nat):Int)):=PH lo 2305843009213693951 (by omega)
  refine kF (s:=?z5) [7] [] [] rfl ?p5 ?r5
  case p5=>simp[-AH,-Int.natCast_mul,-Int.natCast_add,-Int.natCast_ediv,-Int.natCast_emod,f1,f2];refine⟨rfl,?_⟩;rfl
  exact A9 (AS.out [] [] rfl (by simp) (by simp) (by simp[conv]) (by simp))
 refine AJ ?_
 clear h0
 refine arc ⟨135,[(0,U hi),(1,U lo),(2,U 2305843009213693951),(8,U 3)],[],300⟩ ?_ ?_
 .simp
  refine Aj kE ?_;simp;exact AF [] [] (by simp<;>exact .refl _)
 have e1:AH .shl (.int .u64 2305843009213693951) (.int .u64 3)=some (.int .u64 18446744073709551608):=JK 2305843009213693951;have e2:AH .shr (.int .u64 18446744073709551608) (.int .u64 32)=some (.int .u64 4294967295):=Dr 18446744073709551608 32 (by omega)
 have e3:AH .and (.int .u64 18446744073709551608) (.int .u64 4294967295)=some (.int .u64 4294967288):=HM 18446744073709551608 (by omega)
 obtain⟨u3,u10,u1,u0,e4,e5,e6,e8,e9,e10,hf,hh,hz,ha⟩:=Yj h hl;have e7:AH .sub (.int .u64 64) (.int .u64 3)=some (.int .u64 61):=rfl;have hj:u3*4294967296+u1<(4294967295*4294967296+4294967288)*4294967296:=by omega
 refine rx (s:=?z6) [0,1,2,8] [] [] rfl ?p6 ?r6
 case p6=>simp[-AH,-Int.natCast_mul,-Int.natCast_add,-Int.natCast_ediv,-Int.natCast_emod,e1];rfl
 refine rx (s:=?z7) [0,1,2,8,9] [] [] rfl ?p7 ?r7
 case p7=>simp[-AH,-Int.natCast_mul,-Int.natCast_add,-Int.natCast_ediv,-Int.natCast_emod,e2];rfl
 refine rx (s:=?z8) [0,1,2,8,9,10] [] [] rfl ?p8 ?r8
 case p8=>simp[-AH,-Int.natCast_mul,-Int.natCast_add,-Int.natCast_ediv,-Int.natCast_emod,e3];rfl
 refine rx (s:=?z9) [1,2,8,9,10,11] [] [] rfl ?p9 ?r9
 case p9=>simp[-AH,-Int.natCast_mul,-Int.natCast_add,-Int.natCast_ediv,-Int.natCast_emod,e4,e7,e5,e6];rfl
 refine rx (s:=?z10) [2,8,9,10,11,12] [] [] rfl ?p10 ?r10
 case p10=>simp[-AH,-Int.natCast_mul,-Int.natCast_add,-Int.natCast_ediv,-Int.natCast_emod,e8];rfl
 refine rx (s:=?z11) [2,8,9,10,11,12,13] [] [] rfl ?p11 ?r11
 case p11=>simp[-AH,-Int.natCast_mul,-Int.natCast_add,-Int.natCast_ediv,-Int.natCast_emod,e9];rfl
 refine rx (s:=?z12) [2,8,9,10,11,13,14] [] [] rfl ?p12 ?r12
 case p12=>simp[-AH,-Int.natCast_mul,-Int.natCast_add,-Int.natCast_ediv,-Int.natCast_emod,e10];rfl
 have h5:u3 / 4294967295*4294967295<=u3:=Nat.div_mul_le_self _ _;have h3:u3 - u3 / 4294967295*4294967295<4294967296:=by omega
 have f1:AH .quo (.int .u64 (u3:Int)) (.int .u64 4294967295)=some (.int .u64 ((u3 / 4294967295:Nat):Int)):=JM u3 4294967295 (by omega) (by omega)
 have f2:AH .mul (.int .u64 ((u3 / 4294967295:Nat):Int)) (.int .u64 4294967295)=some (.int .u64 ((u3 / 4294967295*4294967295:Nat):Int)):=by
  have h9:=EZ (u3 / 4294967295) 4294967295 (Nat.lt_of_le_of_lt h5 (by omega))
  exact h9
 have f3:=IF u3 (u3 / 4294967295*4294967295) (by omega) (by omega)
 have h4:=De.start (b:=4294967296) (y1:=4294967295) (y0:=4294967288) (u3:=u3) (u1:=u1) (by omega) hf
 have h6:u3 / 4294967295<=u3:=Nat.div_le_self _ _;obtain⟨q,hq⟩:∃ z,z=u3 / 4294967295:=⟨_,rfl⟩;rw[<- hq] at h5 h3 f1 f2 f3 h4 h6;refine rx (s:=?z13) [2,8,9,10,11,13,14,15] [] [] rfl ?p13 ?r13
 case p13=>simp[-AH,-Int.natCast_mul,-Int.natCast_add,-Int.natCast_ediv,-Int.natCast_emod,f1];rfl
 refine rx (s:=?z14) [2,8,9,10,11,13,14,15,16] [] [] rfl ?p14 ?r14
 case p14=>simp[-AH,-Int.natCast_mul,-Int.natCast_add,-Int.natCast_ediv,-Int.natCast_emod,f2,f3];rfl
 obtain⟨r,hr⟩:∃ z,z=u3 - q*4294967295:=⟨_,rfl⟩;rw[<- hr] at h4 h3 ⊢
 clear f1 f2 f3 hr hq h5
 obtain⟨Q,hQ⟩:∃ z,z=(u3*4294967296+u1) / (4294967295*4294967296+4294967288):=⟨_,rfl⟩;refine Ao ⟨135,[(2,U 18446744073709551608),(8,U 3),(9,U 4294967295),(10,U 4294967288),(11,U u3),(13,U u1),(14,U u0),(15,U Q)],[],3000⟩ ?_ ?_
 .refine AL ?_
  refine Ae (ι:=Nat × Nat) (λ i=>⟨135,[(2,U 18446744073709551608),(8,U 3),(9,U 4294967295),(10,U 4294967288),(11,U u3),(13,U u1),(14,U u0),(15,U i.1),(16,U i.2)],[],2000⟩)
   (λ i=>De 4294967296 4294967295 4294967288 u3 u1 i.1 i.2/\i.2<4294967296/\i.1<=u3) (λ i=>i.1) (q,r) ⟨h4,h3,h6⟩ (Bk [] []) ?_
  rintro⟨q,r⟩ ⟨hd,he,hk⟩
  clear h4 h3 h6
  simp only at hd he hk;have ho:∀ {b:Bool},(4294967296<=q∨4294967296*r+u1<q*4294967288↔b=true)->True:=λ _=>trivial;refine AC (arc ⟨135,[(2,U 18446744073709551608),(8,U 3),(9,U 4294967295),(10,U 4294967288),(11,U u3),(13,U u1),(14,U u0),(15,U q),(16,U r),(78,.B (decide (4294967296<=q∨4294967296*r+u1<q*4294967288)))],[],2200⟩ ?_ ?_)
  .by_cases hb:4294967296<=q
   .have g0:AH .geq (.int .u64 (q:Int)) (.int .u64 4294967296)=some (.bool true):=by simp;omega
    simp[-AH,-Int.natCast_mul,-Int.natCast_add,-Int.natCast_ediv,-Int.natCast_emod,g0];exact AF [] [] (by simp[hb])
   .have g0:AH .geq (.int .u64 (q:Int)) (.int .u64 4294967296)=some (.bool false):=by simp;omega
    obtain⟨k1,k2,k3⟩:=Si (q:=q) (y0:=4294967288) he hf (by omega) (by omega)
    have g1:=EZ q 4294967288 k1;have g2:=EZ 4294967296 r k2;have g3:=FT (4294967296*r) u1 k3
    have g4:AH .gtr (.int .u64 ((q*4294967288:Nat):Int)) (.int .u64 ((4294967296*r+u1:Nat):Int))=some (.bool (decide (4294967296*r+u1<q*4294967288))):=by
     simp only[AH];simp;omega
    have g1':AH .mul (.int .u64 (q:Int)) (.int .u64 4294967288)=some (.int .u64 ((q*4294967288:Nat):Int)):=g1;have g2':AH .mul (.int .u64 4294967296) (.int .u64 (r:Int))=some (.int .u64 ((4294967296*r:Nat):Int)):=g2;simp[-AH,-Int.natCast_mul,-Int.natCast_add,-Int.natCast_ediv,-Int.natCast_emod,g0,g1',g2',g3,g4];exact AF [] [] (by simp[hb])
  refine AE _ rfl (λ hc=>?_) λ hc=>?_
  .rw [Qd] at hc
   obtain⟨hq1,h7⟩:=hd.less (by omega) (by omega) hj hc
   have g1:=IF q 1 hq1 (by omega)
   have g2:=FT r 4294967295 (by omega)
   have g1':AH .sub (.int .u64 (q:Int)) (.int .u64 1)=some (.int .u64 ((q - 1:Nat):Int)):=g1;have g2':AH .add (.int .u64 (r:Int)) (.int .u64 4294967295)=some (.int .u64 ((r+4294967295:Nat):Int)):=g2;refine AJ (AL (rx (s:=?z15) [2,8,9,10,11,13,14,15,16] [] [] rfl ?p15 ?r15))
   case p15=>simp[-AH,-Int.natCast_mul,-Int.natCast_add,-Int.natCast_ediv,-Int.natCast_emod,g1'];rfl
   refine rx (s:=?z16) [2,8,9,10,11,13,14,15,16] [] [] rfl ?p16 ?r16
   case p16=>simp[-AH,-Int.natCast_mul,-Int.natCast_add,-Int.natCast_ediv,-Int.natCast_emod,g2'];rfl
   have g3:AH .geq (.int .u64 ((r+4294967295:Nat):Int)) (.int .u64 4294967296)=some (.bool (decide (4294967296<=r+4294967295))):=by simp only[AH];simp;omega
   refine rx (s:=?z17) [2,8,9,10,11,13,14,15,16,85] [] [] rfl ?p17 ?r17
   case p17=>simp[-AH,-Int.natCast_mul,-Int.natCast_add,-Int.natCast_ediv,-Int.natCast_emod,g3];rfl
   refine AE _ rfl (λ h1=>?_) λ h1=>?_
   .rw [Qd] at h1
    have h1:4294967296<=r+4294967295:=by omega
    have h2:=h7.big (by omega) (by omega) (TQ h7 hz h1) (by omega) h1
    rw[<- hQ] at h2;refine Aa (I9 (by decide) ?_)
    exact hit (AF [] [] (by simp[<- h2]))
   .rw [Qa] at h1
    exact AJ ⟨(q - 1,r+4294967295),⟨h7,by omega,by simp only;omega⟩,by simp only;omega,Bk [] []⟩
  .rw [Qa] at hc
   have h2:=hd.fits (by omega) (by omega) (by omega)
   rw[<- hQ] at h2;subst h2;exact Aa (hit (Bk [] []))
 clear hj
 have hu:IntKind.u64.wrap (IntKind.u64.wrap (IntKind.u64.wrap ((u3:Int)*4294967296)+u1) - IntKind.u64.wrap ((Q:Int)*18446744073709551608))=(((u3*4294967296+u1) % 18446744073709551608:Nat):Int):=Rg (Y:=18446744073709551608) (by omega) hQ (by omega)
 have hv:(u3*4294967296+u1) % 18446744073709551608<18446744073709551608:=Uf _ (by omega)
 obtain⟨v,hw⟩:∃ z,z=(u3*4294967296+u1) % 18446744073709551608:=⟨_,rfl⟩;rw[<- hw] at hu hv;have ha:Unit->(v*4294967296+u0) % 18446744073709551608 / 8=(hi*18446744073709551616+lo) % 2305843009213693951:=λ x=>by rw[hw];exact ha x
 apply ax [2,8,9,10,14,15,17] [] [] 3200
 .simp [hu]
  rfl
 clear hu hQ hw hz
 have hx:v*4294967296+u0<(4294967295*4294967296+4294967288)*4294967296:=by omega
 have h5:v / 4294967295*4294967295<=v:=Nat.div_mul_le_self _ _;have h3:v - v / 4294967295*4294967295<4294967296:=by omega
 have f1:AH .quo (.int .u64 (v:Int)) (.int .u64 4294967295)=some (.int .u64 ((v / 4294967295:Nat):Int)):=JM v 4294967295 (by omega) (by omega)
 have f2:AH .mul (.int .u64 ((v / 4294967295:Nat):Int)) (.int .u64 4294967295)=some (.int .u64 ((v / 4294967295*4294967295:Nat):Int)):=by
  have h9:=EZ (v / 4294967295) 4294967295 (Nat.lt_of_le_of_lt h5 (by omega))
  exact h9
 have f3:=IF v (v / 4294967295*4294967295) (by omega) (by omega)
 have h4:=De.start (b:=4294967296) (y1:=4294967295) (y0:=4294967288) (u3:=v) (u1:=u0) (by omega) hh
 have h6:v / 4294967295<=v:=Nat.div_le_self _ _;obtain⟨q,hq⟩:∃ z,z=v / 4294967295:=⟨_,rfl⟩;rw[<- hq] at h5 h3 f1 f2 f3 h4 h6;refine rx (s:=?z23) [2,8,9,10,14,15,17,18] [] [] rfl ?p23 ?r23
 case p23=>simp[-AH,-Int.natCast_mul,-Int.natCast_add,-Int.natCast_ediv,-Int.natCast_emod,f1];rfl
 refine rx (s:=?z24) [2,8,9,10,14,15,17,18,16] [] [] rfl ?p24 ?r24
 case p24=>simp[-AH,-Int.natCast_mul,-Int.natCast_add,-Int.natCast_ediv,-Int.natCast_emod,f2,f3];rfl
 obtain⟨r,hr⟩:∃ z,z=v - q*4294967295:=⟨_,rfl⟩;rw[<- hr] at h4 h3 ⊢
 clear f1 f2 f3 hr hq h5
 obtain⟨Q2,hy⟩:∃ z,z=(v*4294967296+u0) / (4294967295*4294967296+4294967288):=⟨_,rfl⟩;refine Ao ⟨135,[(2,U 18446744073709551608),(8,U 3),(14,U u0),(15,U Q),(17,U v),(18,U Q2)],[],6000⟩ ?_ ?_
 .refine AL ?_
  refine Ae (ι:=Nat × Nat) (λ i=>⟨135,[(2,U 18446744073709551608),(8,U 3),(9,U 4294967295),(10,U 4294967288),(14,U u0),(15,U Q),(17,U v),(18,U i.1),(16,U i.2)],[],2000⟩)
   (λ i=>De 4294967296 4294967295 4294967288 v u0 i.1 i.2/\i.2<4294967296/\i.1<=v) (λ i=>i.1) (q,r) ⟨h4,h3,h6⟩ (Bk [] []) ?_
  rintro⟨q,r⟩ ⟨hd,he,hk⟩
  clear h4 h3 h6
  simp only at hd he hk;have ho:∀ {b:Bool},(4294967296<=q∨4294967296*r+u0<q*4294967288↔b=true)->True:=λ _=>trivial;refine AC (arc ⟨135,[(2,U 18446744073709551608),(8,U 3),(9,U 4294967295),(10,U 4294967288),(14,U u0),(15,U Q),(17,U v),(18,U q),(16,U r),(113,.B (decide (4294967296<=q∨4294967296*r+u0<q*4294967288)))],[],2200⟩ ?_ ?_)
  .by_cases hb:4294967296<=q
   .have g0:AH .geq (.int .u64 (q:Int)) (.int .u64 4294967296)=some (.bool true):=by simp;omega
    simp[-AH,-Int.natCast_mul,-Int.natCast_add,-Int.natCast_ediv,-Int.natCast_emod,g0];exact AF [] [] (by simp[hb])
   .have g0:AH .geq (.int .u64 (q:Int)) (.int .u64 4294967296)=some (.bool false):=by simp;omega
    obtain⟨k1,k2,k3⟩:=Si (q:=q) (y0:=4294967288) he hh (by omega) (by omega)
    have g1:=EZ q 4294967288 k1;have g2:=EZ 4294967296 r k2;have g3:=FT (4294967296*r) u0 k3
    have g4:AH .gtr (.int .u64 ((q*4294967288:Nat):Int)) (.int .u64 ((4294967296*r+u0:Nat):Int))=some (.bool (decide (4294967296*r+u0<q*4294967288))):=by
     simp only[AH];simp;omega
    have g1':AH .mul (.int .u64 (q:Int)) (.int .u64 4294967288)=some (.int .u64 ((q*4294967288:Nat):Int)):=g1;have g2':AH .mul (.int .u64 4294967296) (.int .u64 (r:Int))=some (.int .u64 ((4294967296*r:Nat):Int)):=g2;simp[-AH,-Int.natCast_mul,-Int.natCast_add,-Int.natCast_ediv,-Int.natCast_emod,g0,g1',g2',g3,g4];exact AF [] [] (by simp[hb])
  refine AE _ rfl (λ hc=>?_) λ hc=>?_
  .rw [Qd] at hc
   obtain⟨hq1,h7⟩:=hd.less (by omega) (by omega) hx hc
   have g1:=IF q 1 hq1 (by omega)
   have g2:=FT r 4294967295 (by omega)
   have g1':AH .sub (.int .u64 (q:Int)) (.int .u64 1)=some (.int .u64 ((q - 1:Nat):Int)):=g1;have g2':AH .add (.int .u64 (r:Int)) (.int .u64 4294967295)=some (.int .u64 ((r+4294967295:Nat):Int)):=g2;refine AJ (AL (rx (s:=?z35) [2,8,9,10,14,15,16,17,18] [] [] rfl ?p35 ?r35))
   case p35=>simp[-AH,-Int.natCast_mul,-Int.natCast_add,-Int.natCast_ediv,-Int.natCast_emod,g1'];rfl
   refine rx (s:=?z36) [2,8,9,10,14,15,16,17,18] [] [] rfl ?p36 ?r36
   case p36=>simp[-AH,-Int.natCast_mul,-Int.natCast_add,-Int.natCast_ediv,-Int.natCast_emod,g2'];rfl
   have g3:AH .geq (.int .u64 ((r+4294967295:Nat):Int)) (.int .u64 4294967296)=some (.bool (decide (4294967296<=r+4294967295))):=by simp only[AH];simp;omega
   refine rx (s:=?z37) [2,8,9,10,14,15,16,17,18,120] [] [] rfl ?p37 ?r37
   case p37=>simp[-AH,-Int.natCast_mul,-Int.natCast_add,-Int.natCast_ediv,-Int.natCast_emod,g3];rfl
   refine AE _ rfl (λ h1=>?_) λ h1=>?_
   .rw [Qd] at h1
    have h1:4294967296<=r+4294967295:=by omega
    have h2:=h7.big (by omega) (by omega) (TQ h7 hv h1) (by omega) h1
    rw[<- hy] at h2;refine Aa (I9 (by decide) ?_)
    exact hit (AF [] [] (by simp[<- h2]))
   .rw [Qa] at h1
    exact AJ ⟨(q - 1,r+4294967295),⟨h7,by omega,by simp only;omega⟩,by simp only;omega,Bk [] []⟩
  .rw [Qa] at hc
   have h2:=hd.fits (by omega) (by omega) (by omega)
   rw[<- hy] at h2;subst h2;exact Aa (hit (Bk [] []))
 have a0:IntKind.u64.wrap (IntKind.u64.wrap (IntKind.u64.wrap ((v:Int)*4294967296)+u0) - IntKind.u64.wrap ((Q2:Int)*18446744073709551608))=(((v*4294967296+u0) % 18446744073709551608:Nat):Int):=Rg (Y:=18446744073709551608) (by omega) hy (by omega)
 have m1:∀ a b:Int,AH .mul (.int .u64 a) (.int .u64 b)=some (.int .u64 (IntKind.u64.wrap (a*b))):=λ _ _=>rfl;have m2:∀ a b:Int,AH .add (.int .u64 a) (.int .u64 b)=some (.int .u64 (IntKind.u64.wrap (a+b))):=λ _ _=>rfl;have m3:∀ a b:Int,AH .sub (.int .u64 a) (.int .u64 b)=some (.int .u64 (IntKind.u64.wrap (a - b))):=λ _ _=>rfl;have m4:AH .shr (.int .u64 (((v*4294967296+u0) % 18446744073709551608:Nat):Int)) (.int .u64 3)=some (.int .u64 (((v*4294967296+u0) % 18446744073709551608 / 8:Nat):Int)):=Dr _ 3 (by omega)
 rw[ha ()] at m4;refine rx (s:=?z40) [7] [] [] rfl ?p40 ?r40
 case p40=>simp[-AH,-Int.natCast_mul,-Int.natCast_add,-Int.natCast_ediv,-Int.natCast_emod,m1,m2,m3,a0,m4];rfl
 exact A9 (AS.out [] [] rfl (by simp) (by simp) (by simp[conv]) (by simp))
theorem L8 (a b:Nat) (ha:a<DQ) (hb:b<DQ):AcP 132 [U a,U b] [] (U ((a*b % DQ:Nat):Int)) []:=by
 refine rT.s.ai ?_;have hp:DQ=2305843009213693951:=rfl;rw[hp] at ha hb ⊢;have hm:=oM a b (by omega) (by omega)
 have hh:a*b / 18446744073709551616<2305843009213693951:=by
  rw[Nat.div_lt_iff_lt_mul (by omega)]
  have h1:a*b<=a*2305843009213693951:=Nat.mul_le_mul_left a (by omega)
  have h2:a*2305843009213693951<=2305843009213693951*2305843009213693951:=QD _ (by omega)
  omega
 have hd:=tX (a*b / 18446744073709551616) (a*b % 18446744073709551616) hh (Uf _ (by omega))
 rw[U6 (a*b / 18446744073709551616),Nat.div_add_mod] at hd;obtain⟨m,h0⟩:=AG (a*b);rw[<- h0] at hm hd ⊢;refine rs [0,1] [] [] ?_;refine rx (s:=?z2) [5,6] [] [] rfl ?p2 ?r2
 case p2=>simp;refine Aq hm (by simp) ?_;simp;rfl
 refine rx (s:=?z3) [8] [] [] rfl ?p3 ?r3
 case p3=>simp;refine Aq hd (by simp) ?_;simp;rfl
 refine rs [4] [] [] ?_;exact Bl
theorem eS (a:Nat) (ha:a<DQ):AcP 133 [U a] [] (U ((a ^ (DQ - 2) % DQ:Nat):Int)) []:=by
 refine pZ.s.ai ?_;obtain⟨P,hP⟩:=AG (DQ);obtain⟨E,hE⟩:=AG (DQ - 2);have h7:E=2305843009213693949:=hE;have he:P=2305843009213693951:=hP;have ht:∀ x y:Nat,x<P->y<P->AcP 132 [U x,U y] [] (U ((x*y % P:Nat):Int)) []:=λ x y hx hy=>by rw[hP] at *;exact L8 x y hx hy
 rw[<- hE,<- hP];rw[<- hP] at ha
 clear hE hP
 refine rs [0] [] [] ?_;refine rs [0,3] [] [] ?_;refine AC (rs [0,3,4] [] [] ?_);refine AL (Ae (ι:=Nat × Nat × Nat) (λ i=>⟨19,[(0,U (i.1:Int)),(3,U (i.2.1:Int)),(4,U (i.2.2:Int))],[],300⟩) (λ i=>i.1<P/\i.2.1<P/\i.2.2<=E/\i.2.1*i.1 ^ i.2.2 % P=a ^ E % P) (λ i=>i.2.2) (a,1,E) ⟨ha,by simp only;omega,Qk _,by simp⟩ (AF [] [] (by simp[h7]) (by simp)) ?_)
 rintro⟨x,o,n⟩ ⟨hx,ho,hn,hv⟩
 simp only at hx ho hn hv;refine AC (rs [0,3,4,6] [] [] ?_);refine AE _ rfl (λ hc=>?_) λ hc=>?_
 .simp at hc
  have f1:=wZ n (by omega)
  have f2:AH .shr (.int .u64 (n:Int)) (.int .u64 1)=some (.int .u64 ((n / 2:Nat):Int)):=Dr n 1 (by omega)
  have f3:∀ k:Nat,AH .eql (.int .u64 (k:Int)) (.int .u64 1)=some (.bool (decide (k=1))):=λ k=>by
   show some (Value.bool ((k:Int) == 1))=_
   by_cases hk:k=1
   .subst hk;rfl
   .have h2:¬ (k:Int)=1:=by omega
    simp[hk,h2]
  have h0:=Z1 P x n o;rw[hv] at h0;obtain⟨o2,h1⟩:∃ o2,o2=if n % 2=1 then o*x % P else o:=⟨_,rfl⟩
  rw[<- h1] at h0;have h3:0<P:=by omega
  have h4:o2<P:=by
   rw[h1];split
   .exact Uf _ h3
   .exact ho
  refine AJ (AC (AL (Ao ⟨19,[(0,U x),(3,U o2),(4,U n)],[],500⟩ ?_ ?_)))
  .refine rx (s:=?z5) [0,3,4,11] [] [] rfl ?p5 ?r5
   case p5=>simp[-AH,-Int.natCast_mul,-Int.natCast_add,-Int.natCast_ediv,-Int.natCast_emod,f1,f3];rfl
   refine AE _ rfl (λ hb=>?_) λ hb=>?_
   .rw [Qd] at hb
    rw[if_pos hb] at h1;have h5:=ht o x ho hx;rw[<- h1] at h5;refine Ag (s:=?z6) rfl ?p6 ?r6
    case p6=>simp;refine Aq h5 (by simp) ?_;simp;rfl
    exact Bk [] []
   .rw [Qa] at hb
    rw[if_neg hb] at h1;subst h1;exact AJ (Bk [] [])
  have h6:=ht x x hx hx;have hx2:x*x % P<P:=Uf _ h3;obtain⟨x2,h9⟩:=AG (x*x % P);rw[<- h9] at h6 hx2 h0;refine Ag (s:=?z7) rfl ?p7 ?r7
  case p7=>simp;refine Aq h6 (by simp) ?_;simp;rfl
  refine Ag (s:=?z8) rfl ?p8 ?r8
  case p8=>simp[-AH,-Int.natCast_mul,-Int.natCast_add,-Int.natCast_ediv,-Int.natCast_emod,f2];rfl
  exact⟨(x2,o2,n / 2),⟨hx2,h4,by simp only;omega,h0⟩,by simp only;omega,Bk [] []⟩
 .simp at hc
  subst hc
  have hd:o=a ^ E % P:=by
   rw[Nat.pow_zero,Nat.mul_one,Vi ho] at hv;exact hv
  rw[<- hd];refine Aa (hit (rs [2] [] [] ?_));exact Bl
variable {A:BS} {N o r:Nat}
def AO (r i:Nat):Nat:=if i<=r then i else i - 1
theorem I7 (r:Nat):AO r 0=0:=by simp[AO]
theorem NB (r:Nat):AO r (r+1)=AO r r:=by simp[AO]
theorem Mg {i:Nat} (h:i≠r):AO r (i+1)=AO r i+1:=by unfold AO;split<;>split<;>omega
theorem Jh {i:Nat} (h:i≠r):BY r (AO r i)=i:=by unfold AO BY;split<;>split<;>omega
theorem L7 (h:r<N+1):AO r (N+1)=N:=by unfold AO;split<;>omega
theorem MX {i:Nat} (h:i≠r) (hr:r<N+1) (hi:i<N+1):AO r i<N:=by unfold AO;split<;>omega
theorem Xr {i j:Nat} (hi:i≠r) (hj:j≠r):AO r i=AO r j↔i=j:=by unfold AO;split<;>split<;>omega
def b0 (W:BS) (N r a c:Nat):Nat:=(BW W N r a c % 2305843009213693951).toNat
theorem rO (W:BS) (N r a c:Nat):b0 W N r a c<2305843009213693951:=by
 unfold b0;have h1:=Int.emod_nonneg (BW W N r a c) (show (2305843009213693951:Int)≠0 by decide)
 have h2:=Int.emod_lt_of_pos (BW W N r a c) (show (0:Int)<2305843009213693951 by decide)
 omega
theorem n9 (W:BS) (N r a c:Nat):Cg 2305843009213693951 (b0 W N r a c:Int) (BW W N r a c):=by
 unfold b0;have h1:=Int.emod_nonneg (BW W N r a c) (show (2305843009213693951:Int)≠0 by decide)
 rw[Int.toNat_of_nonneg h1];exact Cg.emod _
theorem kW {W:BS} {i:Nat} (hi:i≠r) {m w:Int} (hm:m=BP (N+1) (W i)) (hw:w=W i i) (h0:0<=m - w) (h1:m - w<2305843009213693951):((b0 W N r (AO r i) (AO r i):Nat):Int)=m - w:=by
 unfold b0 BW;rw[if_pos rfl,Jh hi,<- hm,<- hw,Int.emod_eq_of_lt h0 h1];omega
theorem f7 {W:BS} {i c:Nat} (hi:i≠r) (hc:c≠r) (h2:i≠c) {w:Int} (hw:w=W i c) (h0:0<=w) (h1:w<=8):((b0 W N r (AO r i) (AO r c):Nat):Int)=(2305843009213693951 - w) % 2305843009213693951:=by
 unfold b0 BW;rw[if_neg (λ h=>h2 ((Xr hi hc).1 h)),Jh hi,Jh hc,<- hw];omega
def DU (P k inv:Nat) (B:Nat->Nat->Nat) (a c:Nat):Nat:=if k<a/\k<=c then (B a c+P - (B a k*inv % P)*B k c % P) % P else B a c
def BR (P k inv:Nat) (B:Nat->Nat->Nat) (i j a c:Nat):Nat:=if a<i∨a=i/\c<j then DU P k inv B a c else B a c
section
variable {P k inv i j a c N:Nat} {B:Nat->Nat->Nat}
theorem pH (h:a<=k):BR P k inv B i j a c=B a c:=by
 unfold BR DU;split
 .rw [if_neg (by omega)]
 .rfl
theorem jP:BR P k inv B (k+1) k=B:=by
 funext a c
 unfold BR DU;split
 .rw [if_neg (by omega)]
 .rfl
theorem pJ (h:c<N):BR P k inv B i N a c=BR P k inv B (i+1) k a c:=by
 unfold BR
 by_cases h1:a<i∨a=i/\c<N
 .have h2:a<i+1∨a=i+1/\c<k:=by omega
  rw[if_pos h1,if_pos h2]
 .rw [if_neg h1]
  by_cases h2:a<i+1∨a=i+1/\c<k
  .rw [if_pos h2]
   unfold DU;rw[if_neg (by omega)]
  .rw [if_neg h2]
theorem b9 (h:a<N):BR P k inv B N k a c=DU P k inv B a c:=by
 unfold BR;rw[if_pos (.inl h)]
theorem Mj (hk:k<i) (hj:k<=j):BR P k inv B i j i c=if c<j then DU P k inv B i c else B i c:=by
 unfold BR
 by_cases h:c<j
 .rw [if_pos (.inr ⟨rfl,h⟩),if_pos h]
 .rw [if_neg (by omega),if_neg h]
theorem eD (hk:k<i):BR P k inv B i k i k=B i k:=by rw[Mj hk (Qk k),if_neg (by omega)]
theorem zA2 (hk:k<i) (hj:k<=j):BR P k inv B i j i j=B i j:=by rw[Mj hk hj,if_neg (by omega)]
theorem nL (hk:k<i) (hj:k<=j):BR P k inv B i (j+1) i c=if c=j then (B i j+P - (B i k*inv % P)*B k j % P) % P else BR P k inv B i j i c:=by
 rw[Mj hk (by omega),Mj hk hj]
 by_cases h:c=j
 .subst h
  rw[if_pos (by omega),if_pos rfl]
  unfold DU;rw[if_pos ⟨hk,hj⟩]
 .rw [if_neg h]
  by_cases h2:c<j
  .rw [if_pos h2,if_pos (by omega)]
  .rw [if_neg h2,if_neg (by omega)]
theorem cV (h:a≠i):BR P k inv B i (j+1) a c=BR P k inv B i j a c:=by
 unfold BR
 by_cases h2:a<i
 .rw [if_pos (.inl h2),if_pos (.inl h2)]
 .rw [if_neg (by omega),if_neg (by omega)]
theorem ZE (hP:0<P) (h:B a c<P):DU P k inv B a c<P:=by
 unfold DU;split
 .exact Uf _ hP
 .exact h
theorem wV (hP:0<P) (hk:k<a) (hc:k<=c) (hB:B a c<P):Cg (P:Int) (DU P k inv B a c:Int) (B a c - B a k*inv*B k c):=by
 unfold DU;rw[if_pos ⟨hk,hc⟩];have h1:(B a k*inv % P)*B k c % P<P:=Uf _ hP
 have e:(((B a c+P - (B a k*inv % P)*B k c % P) % P:Nat):Int)=((B a c:Int)+P - (((B a k:Int)*inv % P)*B k c) % P) % P:=by
  rw[Int.natCast_emod,Int.natCast_sub (by omega),Int.natCast_add,Int.natCast_emod,Int.natCast_mul,Int.natCast_emod,Int.natCast_mul]
 rw[e];have h2:Cg (P:Int) ((((B a k:Int)*inv % P)*B k c) % P) (B a k*inv*B k c):=(Cg.emod _).trans ((Cg.emod _).mul (.refl _));have h3:Cg (P:Int) ((B a c:Int)+P) (B a c):=⟨1,by omega⟩
 exact(Cg.emod _).trans (h3.sub h2)
end
structure HO (A:BS) (N k o:Nat) (B:Nat->Nat->Nat):Prop where
 le:k<=N
 lt:∀ i j,B i j<2305843009213693951
 olt:o<2305843009213693951
 el:Ei 2305843009213693951 A k o λ i j=>(B (i+k) (j+k):Int)
theorem HO.start (W:BS) (N r:Nat):HO (BW W N r) N 0 1 (b0 W N r):=⟨Qh _,λ i j=>rO ..,by omega,⟨λ m=>by
 rw[Q1];refine(WA (λ i j=>(n9 W N r i j).symm) m).trans ?_;have:=Cg.refl (p:=2305843009213693951) (BM m λ i j=>(b0 W N r i j:Int))
 simpa using this⟩⟩
theorem HO.piv {k:Nat} {B:Nat->Nat->Nat} (h:HO A N k o B) (hA:MM N A) (hk:k<N) (hp:(EX (k+1) λ i=>A i i)<=722204136308736):0<B k k:=by
 have h1:=h.el.piv hA hk (Int.lt_of_le_of_lt hp (by decide))
 rcases Un (B k k) with h0 | h0
 .exfalso
  apply h1;show Cg _ ((B (0+k) (0+k):Nat):Int) 0;rw[Q1,h0];exact .refl _
 .exact h0
theorem HO.next {k inv:Nat} {B:Nat->Nat->Nat} (h:HO A N k o B) (hk:k<N) (hi:B k k*inv % 2305843009213693951=1):HO A N (k+1) (o*B k k % 2305843009213693951) (DU 2305843009213693951 k inv B):=by
 refine⟨hk,λ i j=>ZE (by omega) (h.lt i j),Uf _ (by omega),?_⟩
 refine h.el.next (inv:=(inv:Int)) ?_ (λ i j=>?_) ?_
 .show Cg _ (((B (0+k) (0+k):Nat):Int)*inv) 1
  rw[Q1];have e:(((B k k*inv % 2305843009213693951:Nat)):Int)=1:=by rw[hi];rfl
  rw[Int.natCast_emod,Int.natCast_mul] at e;have h1:=Cg.emod (p:=((2305843009213693951:Nat):Int)) ((B k k:Int)*inv);rw[e] at h1;exact h1.symm
 .have h1:=wV (P:=2305843009213693951) (k:=k) (inv:=inv) (B:=B) (a:=i+(k+1)) (c:=j+(k+1)) (by omega) (by omega) (by omega) (h.lt _ _)
  show Cg _ _ (((B (i+1+k) (j+1+k):Nat):Int) - ((B (i+1+k) (0+k):Nat):Int)*inv*((B (0+k) (j+1+k):Nat):Int));rw[Q1,show i+1+k=i+(k+1) by omega,show j+1+k=j+(k+1) by omega]
  exact h1
 .show Cg _ _ ((o:Int)*((B (0+k) (0+k):Nat):Int))
  rw[Q1,Int.natCast_emod,Int.natCast_mul];exact Cg.emod _
theorem HO.done {B:Nat->Nat->Nat} (h:HO A N N o B) (hA:MM N A) (hp:(EX N λ i=>A i i)<=722204136308736):(o:Int)=BM N A :=
 h.el.done hA (Int.lt_of_le_of_lt hp (by decide)) (by omega) (by have:=h.olt;omega)
theorem cU {x t:Nat} (hx:x<2305843009213693951) (ht:t<2305843009213693951):(IntKind.u64.wrap (IntKind.u64.wrap ((x:Int)+2305843009213693951) - t)).tmod 2305843009213693951=(((x+2305843009213693951 - t) % 2305843009213693951:Nat):Int):=by
 have h1:IntKind.u64.wrap ((x:Int)+2305843009213693951)=((x+2305843009213693951:Nat):Int):=II (by omega) (by omega)
 have h2:IntKind.u64.wrap (((x+2305843009213693951:Nat):Int) - t)=((x+2305843009213693951 - t:Nat):Int):=II (by omega) (by omega)
 rw[h1,h2,Vg (by omega)]
 omega
end Go.Proofs.YtkngdgplbojdlaaGreat
