/- Texts of this claim,merged. -/
import Derived.Test.YtkngdgplbojdlaaGreatRs1
import Derived.MapKept
import Derived.Laws.BytesArg
import Derived.Laws.Externs
import Derived.Scope
import Derived.ChangeArms
import Derived.Carry
import Derived.OpenShut
import Derived.WalkKit
import Derived.ProofKit
import Derived.Test.YtkngdgplbojdlaaGreatProg
import Derived.KernelRfl
set_option linter.unusedSimpArgs false
set_option linter.unusedVariables false
set_option linter.unusedSectionVars false
set_option maxRecDepth 100000
set_option maxHeartbeats 8000000
noncomputable section
namespace Go.Proofs.YtkngdgplbojdlaaGreat
open Go
theorem D1 {α:Type}:∀ {l:List (Nat × α)} {i:Nat} {a:α},AW l i=some a->(i,a)∈l
 | (j,b)::l,i,a,h=>by
   simp only[AW] at h;split at h
   .rename_i e;subst e;cases h;exact Qn
   .exact Ql _ (D1 h)
theorem Kl {α:Type}:∀ {l:List (Nat × α)} {i:Nat},AW l i=none -> ∀ a,(i,a)∉l
 | [],_,_,_=>by simp
 | (j,b)::l,i,h,a=>by
   simp only[AW] at h;split at h
   .cases h
   .rename_i e
    intro hm;rcases Qs.1 hm with h1 | h1
    .cases h1;exact e rfl
    .exact Kl h a h1
theorem W9 {l:List Nat} {id k:Nat} (h:AW l.zipIdx id=some k):l[k]? = some id:=by
 have:=D1 h;rw[U7] at this;exact this
theorem jE {l:List Nat} {k id:Nat} (h:AW (l.zipIdx.map λ (a,b)=>(b,a)) k=some id):l[k]? = some id:=by
 have:=D1 h;simp only[Qi,Prod.mk.injEq] at this;obtain⟨⟨a,b⟩,h1,rfl,rfl⟩:=this;rw[U7] at h1;exact h1
section
variable {P:Program} {np:Nat} {T0:Nat->Nat} {M0:GM} {w0:World} {aB:Nat->Prop} {st:St} {T:Nat->Nat} {M:GM} {a:Act} {w:World} {idb:Nat}
variable (tm:∀ i,Ad T w M (st.get i) (a.tmps.getD i undef)) (m:Bw np T0 M0 w0 aB st.hp T M w) (aC:∀ k,k<8->¬ aB (idb+k)) (aG:np<=idb)
include tm m aC aG
theorem YB (o:Oper) (d4:FuncId) (xs:List AV) (av:Array Value) (a0:(∃ fn c,P.funcs[d4]? = some fn/\fn.body=some c/\fn.name ≠ "runtime.NumGoroutine")->(execOp a.eval o).run P w = .ok (.enter d4 av) w) (b1:GD T w M xs av) {K:AV->List Nat->List (Nat × Option AQ)->Prop} {h0 sn:List Nat} {h9:Bool} {aA:List AV} {hs:List AQ} {res:AV} {aE:List (Option AQ)} (ed:h0.Nodup) (f9:∀ i∈sn,i∉h0) (g7:h9=true -> ∀ i∈sn,np<=i) (eg:Ez (xs.map (conv h0.zipIdx sn st.hp 4)) aA) (d0:h0.map (λ i=>(st.hp i).map (Ab h0.zipIdx sn st.hp 4))=hs.map some) (a9:AK P d4 aA hs res aE) (fb:aE.length<=hs.length+8) (hpl:h9=true∨(Plain res /\ ∀ e,some e∈aE->IG e)) (hk:K (conv ((h0++(List.range 8).map (idb + ·)).zipIdx.map λ (a,b)=>(b,a)) [] (λ _=>none) 4 res) (h0++sn)
     ((aE.zipIdx.map λ (e,k)=>((h0++(List.range 8).map (idb + ·)).getD k 0,e.map (Ab ((h0++(List.range 8).map (idb + ·)).zipIdx.map λ (a,b)=>(b,a)) [] (λ _=>none) 4))) ++
      (if h9 then sn.filterMap (λ i=>(st.hp i).map λ e=>(i,some { e with ro:=e.rows.length })) else []))) :
  ∃ v rd up,K v rd up/\FL P np T0 M0 w0 aB idb (st.upd up).hp T M w v ((execOp a.eval o).run P w):=by
 obtain⟨fd,g5,a9⟩:=a9;have a0:=a0 fd
 have am:h0.length=hs.length:=by
  have:=congrArg List.length d0
  simpa using this
 have hy:∀ (k i:Nat),h0[k]? = some i -> ∃ e,st.hp i=some e/\hs[k]? = some (Ab h0.zipIdx sn st.hp 4 e):=by
  intro k i ha;have h1:=congrArg (·[k]?) d0
  simp only[QA,ha,Q8] at h1
  cases hq:hs[k]? with
  | none=>rw[hq] at h1;simp at h1
  | some e' =>
    rw[hq] at h1;simp only[Q8,Qt] at h1
    cases hp:st.hp i with
    | none=>rw[hp] at h1;simp at h1
    | some e =>
      rw[hp] at h1;simp only[Q8,Qt] at h1;exact⟨e,rfl,by rw[h1]⟩
 obtain⟨T1,d7,dd,b2,ad⟩:=P5 m.hs m.after.tok sn
 let Mc:GM:=λ k=>match h0[k]? with | some i=>M i | none=>none
 have ag:∀ (k i:Nat),h0[k]? = some i->Mc k=M i:=λ k i ha=>by show (match h0[k]? with | some i=>M i | none=>none)=_;rw[ha]
 have ej:∀ k,hs.length<=k->Mc k=none:=λ k hk=>by
  show (match h0[k]? with | some i=>M i | none=>none)=none
  rw[Q4 (by omega)]
 have b3:∀ id k,AW h0.zipIdx id=some k->Mc k=M id:=λ id k hl=>ag k id (W9 hl);have df:=λ x v hr=>Lj (Mc:=Mc) (x:=x) (v:=v) m.hs sn d7 b2 4 h0.zipIdx b3 hr
 have nodupI:∀ (k k' i:Nat),h0[k]? = some i->h0[k']? = some i->k=k':=by
  intro k k' i h1 h2;have hf:k<h0.length:=(Qz.1 h1).1;exact(List.getElem?_inj hf ed).1 (h1.trans h2.symm)
 have an:∀ (k i:Nat) e g b,h0[k]? = some i->st.hp i=some e->M i=some g->g.blk=some b->T1 b=T b:=by
  intro k i e g b h1 h2 h3 h4;refine ad b λ i' hi' e' g' h5 h6 h7=>?_;have:=m.hs.inj i i' e e' g g' b h2 h5 h3 h6 h4 h7;subst this;exact f9 i hi' (Uj h1)
 have fi:EN T1 w Mc (Cs hs):=by
  refine⟨λ k e' el=>?_,λ k k' e1 e2 g g' b h1 h2 h3 h4 h5 h6=>?_⟩
  .have hf:k<h0.length:=by rw[am];exact(Qz.1 el).1
   have ha:h0[k]? = some h0[k]:=Qc hf;obtain⟨e,he,heq⟩:=hy k _ ha;obtain rfl:=Qf (el.symm.trans heq);obtain⟨g,hg,ent⟩:=m.hs.ent _ e he;refine⟨g,(ag k _ ha).trans hg,ent.s,by simpa [Ab] using ent.ro,λ hz r hr=>?_,λ hn=>by simp[Ab,ent.none hn],λ hz=>?_,λ hz b ai=>?_⟩
   .simp only[Ab,Qi] at hr
    obtain⟨r0,dn,rfl⟩:=hr;rw[Qr];exact ent.wide hz r0 dn
   .obtain ⟨b,es,clock,hd,q1,q2,q3,q4⟩:=ent.mp hz
    exact⟨b,es,clock,hd,q1,by rw[an k _ e g b ha he hg hd];exact q2,q3,q4.map (λ _=>rfl) λ row _ x _ v hr=>df x v hr⟩
   .obtain ⟨cells,ty,h1,h2,h3,h4⟩:=ent.blk hz b ai
    refine⟨cells,ty,h1,by rw[an k _ e g b ha he hg ai];exact h2,by simpa [Ab] using h3,λ i j hi hj=>?_⟩
    simp only[Ab,Qr] at hi hj ⊢;obtain⟨u,hu,ho,b4⟩:=h4 i j hi hj;refine⟨u,hu,ho,?_⟩
    have e1:(e.rows.map (·.map (conv h0.zipIdx sn st.hp 4))).getD i []=(e.rows.getD i []).map (conv h0.zipIdx sn st.hp 4):=by
     simp only[List.getD,QA]
     cases e.rows[i]?<;>rfl
    rw[e1,G8 _ (Gy _ _ _ _)];exact df _ _ b4
  .have hf:k<h0.length:=by rw[am];exact(Qz.1 h1).1
   have em:k'<h0.length:=by rw[am];exact(Qz.1 h2).1
   have ha:h0[k]? = some h0[k]:=Qc hf;have b5:h0[k']? = some h0[k']:=Qc em;obtain⟨ea,fl,_⟩:=hy k _ ha;obtain⟨eb,fs,_⟩:=hy k' _ b5;have:=m.hs.inj _ _ ea eb g g' b fl fs ((ag k _ ha).symm.trans h3) ((ag k' _ b5).symm.trans h4) h5 h6;exact nodupI k k' _ ha (by rw[b5,this])
 have ev:GD T1 w Mc aA av:=by
  have hl:=eg.length;simp only[Qr] at hl;refine⟨b1.1.trans hl,λ i hi=>?_⟩;have h1:=eg.get i (by rw[Qr,hl];exact hi)
  rw[G8 _ (Gy _ _ _ _)] at h1;exact h1.rep (df _ _ (b1.2 i (hl ▸ hi)))
 have c3:=a9 T1 Mc w _ dd fi ej ev;refine⟨_,_,_,hk,?_⟩;rw[a0];refine⟨rfl,c3.mono ?_⟩
 rintro e w' ⟨v,T',M',rfl,ew,d1,hv⟩
 let T2:Nat->Nat:=λ b=>if h9 then T' b else if b<w.heap.size then T b else T' b
 let M2:GM:=λ i=>if idb<=i/\i<idb+8 then M' (hs.length+(i - idb)) else M i
 have c4:∀ i g,M i=some g->¬ (idb<=i/\i<idb+8):=λ i g hg hc=>aC (i - idb) (by omega) (by rw[show idb+(i - idb)=i by omega];exact m.dom i g hg)
 have a5:∀ i g,M i=some g->M2 i=some g:=λ i g hg=>by
  show (if _ then _ else _)=_
  rw[if_neg (c4 i g hg)];exact hg
 have a1:∀ b,b<w.heap.size->¬ HZ hs.length Mc b->T' b=T1 b:=hv.old;have b6:∀ b,T b<=T' b:=λ b=>QH (d7 b) (hv.pres.le b)
 have au:∀ i e g b,(∀ k:Nat,h0[k]? ≠ some i)->st.hp i=some e->M i=some g->g.blk=some b->¬ HZ hs.length Mc b:=by
  rintro i e g b h1 h2 h3 h4 ⟨k,gk,ex,a6,ds⟩
  have hf:k<h0.length:=by omega
  have ha:h0[k]? = some h0[k]:=Qc hf;obtain⟨ek,cb,_⟩:=hy k _ ha;rw[ag k _ ha] at a6;have:=m.hs.inj i _ e ek g gk b h2 cb h3 a6 h4 ds;exact h1 k (by rw[ha,this])
 have cd:∀ b,w.heap.size<=b->T b=0:=λ b hb=>m.T_zero hb
 have fv:∀ b,T b<=T2 b:=by
  intro b;show T b<=if h9 then T' b else if b<w.heap.size then T b else T' b
  split
  .exact b6 b
  .split
   .exact Qk _
   .rw [cd b (by omega)];exact Qh _
 have d2:∀ b,T2 b<=T' b:=by
  intro b;show (if h9 then T' b else if b<w.heap.size then T b else T' b)<=T' b
  split
  .exact Qk _
  .split
   .exact b6 b
   .exact Qk _
 have dt:∀ b,w.heap.size<=b->T2 b=T' b:=by
  intro b hb;show (if h9 then T' b else if b<w.heap.size then T b else T' b)=T' b
  rw[if_neg (show ¬ b<w.heap.size by omega)]
  simp
 have hw:Au T w T2 w':=by
  refine⟨fv,λ b cells ty fz g0=>?_⟩;obtain⟨c',f',h1,h2,h3⟩:=hv.pres.cell b cells ty fz g0;exact⟨c',f',h1,h2,λ o ho=>h3 o (U9 ho (d7 b))⟩
 have e3:Hw T2 w':=by
  intro b hb
  by_cases hr:h9=true
  .have e:T2 b=T' b:=by show (if h9 then T' b else _)=_;rw[hr];rfl
   rw[e] at hb ⊢;exact hv.tok b hb
  .by_cases g2:b<w.heap.size
   .have e:T2 b=T b:=by show (if h9 then T' b else if b<w.heap.size then T b else T' b)=_;rw[if_neg hr,if_pos g2]
    rw[e] at hb ⊢;obtain⟨cells,ty,fz,h1,h2⟩:=m.after.tok b hb;obtain⟨c',f',h3,h4,_⟩:=hw.cell b cells ty fz h1;exact⟨c',ty,f',h3,by omega⟩
   .rw [dt b (by omega)] at hb ⊢
    exact hv.tok b hb
 let nm:List Nat:=h0++(List.range 8).map (idb + ·)
 have f0:∀ (k i:Nat),h0[k]? = some i->nm[k]? = some i:=λ k i ha=>by
  show (h0++_)[k]? = _;rw[QJ (Qz.1 ha).1];exact ha
 have d3:∀ (k i:Nat),nm[k]? = some i->h0[k]? = some i∨(hs.length<=k/\k<hs.length+8/\i=idb+(k - hs.length)):=by
  intro k i ha
  by_cases hf:k<h0.length
  .have:nm[k]? = h0[k]?:=QJ hf
   exact .inl (this.symm.trans ha)
  .have:nm[k]? = ((List.range 8).map (idb + ·))[k - h0.length]?:=Qv (by omega)
   rw[this] at ha;simp only[QA,Qw] at ha;obtain⟨q,hq,rfl⟩:=ha;obtain⟨hq1,hq2⟩:=Qz.1 hq;simp only[UB] at hq1;simp only[List.getElem_range] at hq2;exact .inr ⟨by omega,by omega,by omega⟩
 have bf:∀ (k i:Nat),nm[k]? = some i->M2 i=M' k:=by
  intro k i ha;rcases d3 k i ha with h1 | ⟨h1,h2,rfl⟩
  .obtain ⟨e,he,_⟩:=hy k i h1
   obtain⟨g,hg,_⟩:=m.hs.ent i e he;rw[a5 i g hg,hv.same k (by rw[<- am];exact(Qz.1 h1).1),ag k i h1,hg]
  .show (if idb<=idb+(k - hs.length)/\idb+(k - hs.length)<idb+8 then M' (hs.length+(idb+(k - hs.length) - idb)) else M _)=_
   rw[if_pos (by omega)]
   congr 1
   omega
 have e4:∀ k id,AW (nm.zipIdx.map λ (a,b)=>(b,a)) k=some id->M2 id=M' k:=λ k id hl=>bf k id (jE hl)
 have bo:∀ x v,Ad T2 w' M' x v->Ad T2 w' M2 (conv (nm.zipIdx.map λ (a,b)=>(b,a)) [] (λ _=>none) 4 x) v:=by
  intro x v hr;refine Lj (M:=M') (hp:=λ _=>none) ⟨λ id e he=>(by cases he),λ i i' e e' g g' b h1=>(by cases h1)⟩ [] (λ _=>Qk _) (λ i hi=>by cases hi) 4 _ M2 x v e4 hr
 have bs:∀ x v,Ad T' w' M' x v->(h9=true∨Plain x)->Ad T2 w' M' x v:=by
  intro x v hr hp;rcases hp with hp | hp
  .have e:T2=T':=by funext b;show (if h9 then T' b else _)=_;rw[hp];rfl
   rw[e];exact hr
  .exact hr.plain hp T2
 have a2:∀ i e2,(st.upd ((aE.zipIdx.map λ (e,k)=>((h0++(List.range 8).map (idb + ·)).getD k 0,e.map (Ab ((h0++(List.range 8).map (idb + ·)).zipIdx.map λ (a,b)=>(b,a)) [] (λ _=>none) 4))) ++
   (if h9 then sn.filterMap (λ i=>(st.hp i).map λ e=>(i,some { e with ro:=e.rows.length })) else []))).hp i=some e2 ->
   (∃ (k:Nat) (e:AQ),aE[k]? = some (some e)/\nm[k]? = some i/\e2=Ab (nm.zipIdx.map λ (a,b)=>(b,a)) [] (λ _=>none) 4 e) ∨
   (h9=true/\i∈sn/\(∀ k:Nat,h0[k]? ≠ some i) /\ ∃ e,st.hp i=some e/\e2={ e with ro:=e.rows.length }) ∨
   ((∀ k:Nat,h0[k]? ≠ some i)/\st.hp i=some e2/\(h9=true->i∉sn)):=by
  intro i e2 hh;rw[St.hp_upd] at hh
  cases ck:AW (aE.zipIdx.map λ (e,k)=>((h0++(List.range 8).map (idb + ·)).getD k 0,e.map (Ab ((h0++(List.range 8).map (idb + ·)).zipIdx.map λ (a,b)=>(b,a)) [] (λ _=>none) 4))) i with
  | some r =>
    rw[LX,ck] at hh;have hh:r=some e2:=hh;subst hh;have hm:=D1 ck;simp only[Qi,Prod.mk.injEq] at hm;obtain⟨⟨e0,k⟩,h1,h2,h3⟩:=hm;rw[U7] at h1;simp only[Qw] at h3;obtain⟨e,rfl,h3⟩:=h3;have f1:k<aE.length:=(Qz.1 h1).1;have f2:k<nm.length:=by show k<(h0++_).length;simp;omega
    refine .inl ⟨k,e,h1,?_,h3.symm⟩;have:nm.getD k 0=i:=h2;rw[Qc f2,<- this];simp[List.getD,f2]
  | none =>
    rw[LX,ck,Option.none_or] at hh
    have a3:∀ k:Nat,h0[k]? ≠ some i:=by
     intro k ha;have f1:k<aE.length:=by have:=(Qz.1 ha).1;omega
     refine Kl ck (aE[k].map (Ab (nm.zipIdx.map λ (a,b)=>(b,a)) [] (λ _=>none) 4)) (Qi.2 ⟨(aE[k],k),by rw[U7];exact Qc f1,?_⟩)
     have h5:=f0 k i ha;have h6:nm.getD k 0=i:=by simp[List.getD,h5]
     show (nm.getD k 0,_)=_;rw[h6]
    by_cases hr:h9=true
    .rw [if_pos hr] at hh
     cases cl:AW (sn.filterMap λ i=>(st.hp i).map λ e=>(i,some { e with ro:=e.rows.length })) i with
     | some r =>
       rw[cl] at hh;have hh:r=some e2:=hh;subst hh;have hm:=D1 cl;simp only[Vj,Qw,Prod.mk.injEq,Qt] at hm;obtain⟨i',h1,e,h2,rfl,h3⟩:=hm;exact .inr (.inl ⟨hr,h1,a3,e,h2,h3.symm⟩)
     | none =>
       rw[cl] at hh;refine .inr (.inr ⟨a3,hh,λ _ e6=>?_⟩);have f3:st.hp i=some e2:=hh;exact Kl cl (some { e2 with ro:=e2.rows.length }) (Vj.2 ⟨i,e6,by rw[f3];rfl⟩)
    .rw [if_neg hr] at hh
     exact .inr (.inr ⟨a3,hh,λ h=>absurd h hr⟩)
 have bt:∀ i e g b,(∀ k:Nat,h0[k]? ≠ some i)->st.hp i=some e->M i=some g->g.blk=some b->w'.heap[b]? = w.heap[b]?:=by
  intro i e g b h1 h2 h3 h4;exact hv.keep b (m.block_lt h2 h3 h4) (au i e g b h1 h2 h3 h4)
 have c0:∀ (k:Nat) e,aE[k]? = some (some e)->Ha aE k=some e:=λ k e h=>by simp[Ha,h]
 have e7:∀ (k:Nat) e (i:Nat),aE[k]? = some (some e)->nm[k]? = some i -> ∃ g,M' k=some g/\M2 i=some g/\Ir T2 w' M2 (Ab (nm.zipIdx.map λ (a,b)=>(b,a)) [] (λ _=>none) 4 e) g:=by
  intro k e i h1 h2;obtain⟨g,hg,ent⟩:=d1.ent k e (c0 k e h1);refine⟨g,hg,(bf k i h2).trans hg,ent.s,by simpa [Ab] using ent.ro,λ hz r hr=>?_,λ hn=>by simp[Ab,ent.none hn],λ hz=>?_,λ hz b ai=>?_⟩
  .simp only[Ab,Qi] at hr
   obtain⟨r0,dn,rfl⟩:=hr;rw[Qr];exact ent.wide hz r0 dn
  .obtain ⟨b,es,clock,hd,q1,q2,q3,q4⟩:=ent.mp hz
   refine⟨b,es,clock,hd,q1,Nat.le_zero.1 (q2 ▸ d2 b),q3,q4.map (λ _=>rfl) λ row c1 x hx v hr=>bo _ _ (bs _ _ hr ?_)⟩;rcases hpl with hpl | hpl
   .exact .inl hpl
   .exact .inr (hpl.2 e (Uj h1) row c1 x hx)
  .obtain ⟨cells,ty,h3,h4,h5,h6⟩:=ent.blk hz b ai
   refine⟨cells,ty,h3,QH (d2 b) h4,by simpa [Ab] using h5,λ i' j hi hj=>?_⟩
   simp only[Ab,Qr] at hi hj ⊢;obtain⟨u,hu,ho,b4⟩:=h6 i' j hi hj;refine⟨u,hu,ho,?_⟩
   have e1:(e.rows.map (·.map (conv (nm.zipIdx.map λ (a,b)=>(b,a)) [] (λ _=>none) 4))).getD i' []=(e.rows.getD i' []).map (conv (nm.zipIdx.map λ (a,b)=>(b,a)) [] (λ _=>none) 4):=by
    simp only[List.getD,QA]
    cases e.rows[i']?<;>rfl
   rw[e1,G8 _ (Gy _ _ _ _)];refine bo _ _ (bs _ _ b4 ?_);rcases hpl with hpl | hpl
   .exact .inl hpl
   .right
    have c1:e.rows.getD i' []=e.rows[i']:=by simp[List.getD,hi]
    have g6:=ent.wide hz _ (Qj hi);have f4:j<e.rows[i'].length:=by omega
    rw[c1];have cp:e.rows[i'].getD j .dead=e.rows[i'][j]:=by simp[List.getD,f4]
    rw[cp];exact hpl.2 e (Uj h1) _ (Qj hi) _ (Qj f4)
 have f5:∀ i e g b,(∀ k:Nat,h0[k]? ≠ some i)->st.hp i=some e->M i=some g->g.blk=some b->(h9=true->i∉sn)->T2 b=T b:=by
  intro i e g b h1 h2 h3 h4 h5;have hf:=m.block_lt h2 h3 h4;show (if h9 then T' b else if b<w.heap.size then T b else T' b)=T b
  by_cases hr:h9=true
  .rw [if_pos hr,a1 b hf (au i e g b h1 h2 h3 h4)]
   refine ad b λ i' hi' e' g' h6 h7 h8=>?_;have:=m.hs.inj i i' e e' g g' b h2 h6 h3 h7 h4 h8;subst this;exact h5 hr hi'
  .rw [if_neg hr,if_pos hf]
 have a7:∀ {e:AQ} {g:GE},Ir T w M e g -> ∀ ro',e.ro<=ro'->ro'<=e.rows.length->(∀ b,g.blk=some b->w'.heap[b]? = w.heap[b]? /\ T2 b<=g.base+ro'*e.s)->Ir T2 w' M2 { e with ro:=ro' } g:=by
  intro e g ent ro' gc g3 ai;refine⟨ent.s,g3,ent.wide,ent.none,λ hz=>?_,λ hz b hd=>?_⟩
  .have f6:e.s=0:=hz
   obtain⟨b,es,clock,hd,q1,q2,q3,q4⟩:=ent.mp f6;obtain⟨p1,p2⟩:=ai b hd;rw[q3,f6] at p2;exact⟨b,es,clock,hd,by rw[p1];exact q1,by omega,q3,q4.mono hw a5⟩
  obtain⟨cells,ty,h3,h4,h5,h6⟩:=ent.blk hz b hd;obtain⟨q1,q2⟩:=ai b hd;refine⟨cells,ty,by rw[q1];exact h3,q2,h5,λ i' j hi hj=>?_⟩
  obtain⟨u,hu,ho,b4⟩:=h6 i' j hi hj;exact⟨u,hu,ho,b4.mono hw a5⟩
 refine⟨v,T2,M2,rfl,⟨⟨λ i e2 hh=>?_,λ i i' e1 e2 g g' b h1 h2 h3 h4 h5 h6=>?_⟩,λ i g hg=>?_,?_⟩,hw,a5,bo _ _ (bs _ _ ew (hpl.imp id λ h=>h.1))⟩
 .rcases a2 i e2 hh with ⟨k,e,h1,h2,rfl⟩ | ⟨hr,e6,a3,e,he,rfl⟩ | ⟨a3,he,g4⟩
  .obtain ⟨g,_,h3,h4⟩:=e7 k e i h1 h2
   exact⟨g,h3,h4⟩
  .obtain ⟨g,hg,ent⟩:=m.hs.ent i e he
   refine⟨g,a5 i g hg,a7 ent _ ent.ro (Qk _) λ b hd=>⟨bt i e g b a3 he hg hd,?_⟩⟩;have hf:=m.block_lt he hg hd;have e5:T2 b=T' b:=by show (if h9 then T' b else _)=_;rw[hr];rfl
   rw[e5,a1 b hf (au i e g b a3 he hg hd),b2 i e6 e g b he hg hd];exact Qk _
  .obtain ⟨g,hg,ent⟩:=m.hs.ent i e2 he
   refine⟨g,a5 i g hg,a7 ent e2.ro (Qk _) ent.ro λ b hd=>⟨bt i e2 g b a3 he hg hd,?_⟩⟩;rw[f5 i e2 g b a3 he hg hd g4]
   by_cases hz:e2.s=0
   .obtain ⟨b',es,clock,a8,q1,q2,q3,q4⟩:=ent.mp hz
    obtain rfl:=Qf (a8.symm.trans hd);omega
   obtain⟨cells,ty,_,h4,_⟩:=ent.blk hz b hd;exact h4
 .
  have c2:∀ i e2 g b,((h9=true/\i∈sn/\(∀ k:Nat,h0[k]? ≠ some i) /\ ∃ e,st.hp i=some e/\e2={ e with ro:=e.rows.length })∨((∀ k:Nat,h0[k]? ≠ some i)/\st.hp i=some e2/\(h9=true->i∉sn)))->M2 i=some g->g.blk=some b ->
    (∀ k:Nat,h0[k]? ≠ some i) /\ ∃ e,st.hp i=some e/\M i=some g/\b<w.heap.size:=by
   intro i e2 g b hq hg hd
   have:(∀ k:Nat,h0[k]? ≠ some i) /\ ∃ e,st.hp i=some e:=by
    rcases hq with ⟨_,_,h1,e,h2,_⟩ | ⟨h1,h2,_⟩
    .exact ⟨h1,e,h2⟩
    .exact ⟨h1,e2,h2⟩
   obtain⟨h1,e,h2⟩:=this;obtain⟨g1,e8,_⟩:=m.hs.ent i e h2;have:=a5 i g1 e8;rw[hg] at this;obtain rfl:=Qf this;exact⟨h1,e,h2,e8,m.block_lt h2 e8 hd⟩
  have cross:∀ (i i' k:Nat) e g g' e2' b,aE[k]? = some (some e)->nm[k]? = some i->M2 i=some g->g.blk=some b ->
    ((h9=true/\i'∈sn/\(∀ k:Nat,h0[k]? ≠ some i') /\ ∃ e,st.hp i'=some e/\e2'={ e with ro:=e.rows.length })∨((∀ k:Nat,h0[k]? ≠ some i')/\st.hp i'=some e2'/\(h9=true->i'∉sn)))->M2 i'=some g'->g'.blk=some b->False:=by
   intro i i' k e g g' e2' b ex a6 hg hd hq a4 a8;obtain⟨q1,e',q2,q3,q4⟩:=c2 i' e2' g' b hq a4 a8;rcases d3 k i a6 with ha | ⟨r1,r2,r3⟩
   .obtain ⟨ek,cb,_⟩:=hy k i ha
    obtain⟨gk,cq,_⟩:=m.hs.ent i ek cb;have:=a5 i gk cq;rw[hg] at this;obtain rfl:=Qf this;have:=m.hs.inj i i' ek e' g g' b cb q2 cq q3 hd a8;subst this;exact q1 k ha
   .have cq:M' k=some g:=(bf k i a6).symm.trans hg
    rcases hv.new k g b r1 cq hd with h | h
    .exact au i' e' g' b q1 q2 q3 a8 h
    .omega
  rcases a2 i e1 h1 with ⟨k,e,p1,p2,rfl⟩ | hq1
  .rcases a2 i' e2 h2 with ⟨k',e',p1',p2',rfl⟩ | hq2
   .have q1:M' k=some g:=(bf k i p2).symm.trans h3
    have q2:M' k'=some g':=(bf k' i' p2').symm.trans h4;have:=d1.inj k k' e e' g g' b (c0 k e p1) (c0 k' e' p1') q1 q2 h5 h6;subst this;exact Qf (p2.symm.trans p2')
   .exact (cross i i' k e g g' _ b p1 p2 h3 h5 hq2 h4 h6).elim
  .rcases a2 i' e2 h2 with ⟨k',e',p1',p2',rfl⟩ | hq2
   .exact (cross i' i k' e' g' g _ b p1' p2' h4 h6 hq1 h3 h5).elim
   .obtain ⟨_,ea,q2,q3,_⟩:=c2 i e1 g b hq1 h3 h5
    obtain⟨_,eb,r2,r3,_⟩:=c2 i' e2 g' b hq2 h4 h6;exact m.hs.inj i i' ea eb g g' b q2 r2 q3 r3 h5 h6
 .have a4:(if idb<=i/\i<idb+8 then M' (hs.length+(i - idb)) else M i)=some g:=hg
  by_cases hc:idb<=i/\i<idb+8
  .exact .inr hc
  .rw [if_neg hc] at a4
   exact .inl (m.dom i g a4)
 .have e9:∀ b,HZ hs.length Mc b->HZ np M0 b∨w0.heap.size<=b:=by
   rintro b ⟨k,g,ex,a6,ds⟩
   have hf:k<h0.length:=by omega
   have ha:h0[k]? = some h0[k]:=Qc hf;rw[ag k _ ha] at a6;exact m.after.blk a6 ds
  refine m.after.step e3 (λ b hb f8=>?_) (λ k hk=>?_) hv.os hv.tape hv.output hv.size (λ b hb hn=>?_) hw λ k g b hk hg hd=>?_
  .have hf:b<w.heap.size:=U9 hb m.after.size
   show (if h9 then T' b else if b<w.heap.size then T b else T' b)=T b
   by_cases hr:h9=true
   .rw [if_pos hr,a1 b hf (λ h=>(e9 b h).elim f8 (by omega))]
    refine ad b λ i hi e g h1 h2 h3=>?_;exact(m.after.blk h2 h3).elim f8 (by omega)
   .rw [if_neg hr,if_pos hf]
  .show (if idb<=k/\k<idb+8 then _ else M k)=M k
   rw[if_neg (by omega)]
  .exact hv.keep b (U9 hb m.after.size) λ h=>(e9 b h).elim hn (by omega)
  .have a4:(if idb<=k/\k<idb+8 then M' (hs.length+(k - idb)) else M k)=some g:=hg
   by_cases hc:idb<=k/\k<idb+8
   .rw [if_pos hc] at a4
    rcases hv.new _ g b (by omega) a4 hd with h | h
    .exact e9 b h
    .have:=m.after.size
     exact .inr (by omega)
   .rw [if_neg hc] at a4
    exact m.after.new k g b hk a4 hd
theorem wG (o:Oper) (c:Call) (f:Operand) (h:o.op = .call c) (hb:c.callee = .value f) (he:Gs P f=none):BC P np T0 M0 w0 aB st T M a w idb o:=by
 intro K hk;have hc:BA P o=(.call,AU f::c.args.toList.map AU):=by simp[BA,h,hb,he]
 rw[hc] at hk;simp only[Qo,List.map_map] at hk;have hf:=Bq tm f;generalize hX:(AU f).ev st.get=X at *;generalize hh:a.eval f=fv at *
 cases X<;>(try (simp only[aK] at hk;done))
 rename_i fn first aF
 cases fn<;>(try (simp only[aK] at hk;done))
 rename_i fid;simp only[aK] at hk;obtain⟨ids,sn,raise,aA,hs,res,aE,h9,hj,ho,hq,ha,h3,h4,hpl,hk⟩:=hk
 cases hf with
 | fn _ _ _ _ us vs hd hx hu hv =>
 have h0:(∃ fn c,P.funcs[fid]? = some fn/\fn.body=some c/\fn.name ≠ "runtime.NumGoroutine")->(execOp a.eval o).run P w = .ok (.enter fid (us++c.args.map a.eval++vs)) w:=by
  rintro⟨fnc,cd,hw,h5,h6⟩
  simp[execOp,h,resolve,hb,hh,Deferred.ofValue,invoke,callFunc,hw,h5,h6]
 have h7:GD T w M (first++c.args.toList.map ((λ x=>x.ev st.get)∘AU)++aF) (us++c.args.map a.eval++vs):=by
  refine⟨by simp;omega,λ i hi=>?_⟩
  simp only[Qg,Qr,Uo] at hi;simp only[List.getD,QE]
  by_cases h1:i<first.length
  .rw [Qu,QJ h1,Array.append_assoc,Uc (by omega)]
   simpa [List.getD,QE] using hu i h1
  .by_cases h2:i<first.length+c.args.size
   .rw [Qu,Qv (by omega),QJ (by simp;omega),Array.append_assoc,Array.getElem?_append_right (by omega),Uc (by simp;omega),hd]
    have hi':i - first.length<c.args.size:=by omega
    have:=Bq tm c.args[i - first.length]
    simpa [hi'] using this
   .rw [Qv (by simp;omega),Array.getElem?_append_right (by simp;omega)]
    have:=hv (i - (first.length+c.args.size)) (by omega)
    simp only[List.getD,QE] at this
    simpa [hd] using this
 exact YB tm m aC aG o fid _ _ h0 h7 h9 hj ho hq ha h3 h4 hpl hk
omit tm m aC aG in
theorem w7 {h0:String} {t:TypeId} {f:FuncId} (h:AW (NQ P h0) t=some f):LS P h0 t=some (t,f):=by
 have h1:=D1 h;unfold NQ at h1;rw[Vj] at h1;obtain⟨u,_,h2⟩:=h1
 have:u=t:=by
  unfold LS at h2;split at h2
  .split at h2
   .split at h2
    .cases h2;rfl
    .cases h2
   .cases h2
  .cases h2
 subst this;exact h2
omit tm m aC aG in
theorem pP {h0:String} {t:TypeId} {f:FuncId} (h:LS P h0 t=some (t,f)) (n:Nat) (v:Value):(method (n+1) t v h0).run P w = .ok (f,v) w:=by
 unfold LS at h;split at h
 case h_2=>cases h
 rename_i i fs hi hu;split at h
 case h_2=>cases h
 rename_i mt hm;split at h
 case h_2=>cases h
 rename_i hp hf
 cases h
 have hp':mt.path.toList=[]:=by
  have:mt.path = #[]:=by simpa using hp
  rw[this]
 have h1:mt.path.isEmpty=true:=hp;unfold method;simp[typeInfo,hi,hm,hp',follow,hf,receiverAt,run_underlying hu,Place.get]
theorem pM (o:Oper) (c:Call) (r:Operand) (h1:String) (h:o.op = .call c) (hb:c.callee = .invoke r h1):BC P np T0 M0 w0 aB st T M a w idb o:=by
 intro K hk;have hc:BA P o=(.inv (NQ P h1),AU r::c.args.toList.map AU):=by simp[BA,h,hb]
 rw[hc] at hk;simp only[Qo,List.map_map] at hk;have hf:=Bq tm r;generalize hX:(AU r).ev st.get=X at *;generalize hh:a.eval r=fv at *
 cases X<;>(try (simp only[aK] at hk;done))
 rename_i t x;simp only[aK] at hk;obtain⟨fid,ids,sn,raise,aA,hs,res,aE,h7,h9,hj,ho,hq,ha,h2,h3,hpl,hk⟩:=hk;have he:=w7 h7
 cases hf with
 | ifc _ _ _ v hv =>
 have h0:(∃ fn c,P.funcs[fid]? = some fn/\fn.body=some c/\fn.name ≠ "runtime.NumGoroutine")->(execOp a.eval o).run P w = .ok (.enter fid (#[v]++c.args.map a.eval)) w:=by
  rintro⟨fnc,cd,hu,h4,h5⟩
  have hw:=λ n=>pP (w:=w) he n v
  have hd:∃ n,P.types.size+Made.depth=n+1:=by
   have:Made.depth=1+(Made.depth - 1):=by decide
   exact⟨P.types.size+(Made.depth - 1),by omega⟩
  obtain⟨n,hn⟩:=hd
  have e0:((#[Value.iface t v]++Array.map a.eval c.args)[0]? : Option Value)=some (.iface t v):=by
   rw[Uc (by simp)];rfl
  have ex:(#[Value.iface t v]++Array.map a.eval c.args).extract 1 (#[Value.iface t v]++Array.map a.eval c.args).size=Array.map a.eval c.args:=by
   apply Array.ext';simp;exact Qb (by simp)
  simp only[execOp,h,resolve,hb,hh,pure_bind,invoke,e0,ex,callMethod];simp[run_program,hn,hw,callFunc,hu,h4,h5]
 have h6:GD T w M (x::c.args.toList.map ((λ x=>x.ev st.get)∘AU)) (#[v]++c.args.map a.eval):=by
  refine⟨by simp;omega,λ i hi=>?_⟩
  cases i with
  | zero =>
    simp only[List.getD,QE];rw[Uc (by simp)]
    simpa using hv
  | succ i =>
    simp only[QN,Qr,Uo] at hi;have hi':i<c.args.size:=by omega
    have:=Bq tm c.args[i];simp only[List.getD,QE];rw[Array.getElem?_append_right (by simp)]
    simpa [hi'] using this
 exact YB tm m aC aG o fid _ _ h0 h6 h9 hj ho hq ha h2 h3 hpl hk
end
end Go.Proofs.YtkngdgplbojdlaaGreat
namespace Go.Proofs.YtkngdgplbojdlaaGreat
open Go Go.MapKept
section
variable {T:Nat->Nat} {w:World} {M:GM}
theorem Ds.length:∀ {rows:List (List AV)} {es:List MapEntry},Ds T w M rows es->rows.length=es.length
 | [],[],_=>rfl
 | _::_,_::_,h=>by simp[Ds.length h.2]
 | [],_::_,h=>False.elim h
 | _::_,[],h=>False.elim h
theorem Ds.keys:∀ {rows:List (List AV)} {es:List MapEntry},Ds T w M rows es -> ∀ e∈es,IsKey (.int .i64) e.key
 | [],[],_,_,h=>nomatch h
 | _::_,e::es,h,x,hx=>by
   rcases Qs.1 hx with rfl | hx
   .obtain ⟨n,_,_,h2,_⟩:=h.1
    rw[h2];rfl
   .exact Ds.keys h.2 x hx
 | [],_::_,h,_,_=>False.elim h
 | _::_,[],h,_,_=>False.elim h
theorem Ds.find (n:Int):∀ {rows:List (List AV)} {es:List MapEntry} (i:Nat),Ds T w M rows es ->
  (∃ j e x,Instr.findNow (.int .i64) (.int .i64 n) es i=some (some (i+j,e.val))/\es[j]? = some e/\e.key = .int .i64 n/\DW n rows=some x/\Ad T w M x e.val /\
   (∀ y v',Ad T w M y v'->Ds T w M (Bc n y rows) (es.modify j λ e=>{ e with key:=.int .i64 n,val:=v' }))/\Ds T w M (Cm n rows) (es.eraseIdx j)) ∨
  (Instr.findNow (.int .i64) (.int .i64 n) es i=some none/\DW n rows=none/\(∀ y v' c,Ad T w M y v'->Ds T w M (Bc n y rows) (es++[{ key:=.int .i64 n,val:=v',born:=c }]))/\Ds T w M (Cm n rows) es)
 | [],[],i,_=>.inr ⟨rfl,rfl,λ y v' c hr=>⟨⟨n,y,rfl,rfl,hr⟩,trivial⟩,trivial⟩
 | row::rows,e::es,i,h=>by
   obtain⟨⟨k,x,h1,h2,h3⟩,h4⟩:=h;subst h1
   by_cases h0:n=k
   .subst h0
    refine .inl ⟨0,e,x,by simp[Instr.findNow,h2,Instr.sameNow],rfl,h2,by simp[DW],h3,λ y v' hr=>?_,?_⟩
    .simp only[Bc,UY,List.modify_zero_cons]
     exact⟨⟨n,y,rfl,rfl,hr⟩,h4⟩
    .simp only[Cm,UY,List.eraseIdx_cons_zero]
     exact h4
   .have hf:Instr.findNow (.int .i64) (.int .i64 n) (e::es) i=Instr.findNow (.int .i64) (.int .i64 n) es (i+1):=by
     have:(n == k)=false:=by simpa using h0
     simp[Instr.findNow,h2,Instr.sameNow,this]
    have hm:DW n ([.sc (.int .i64 k),x]::rows)=DW n rows:=by simp[DW,h0]
    have hs:∀ y,Bc n y ([.sc (.int .i64 k),x]::rows)=[.sc (.int .i64 k),x]::Bc n y rows:=λ y=>by simp[Bc,h0]
    have hd:Cm n ([.sc (.int .i64 k),x]::rows)=[.sc (.int .i64 k),x]::Cm n rows:=by simp[Cm,h0]
    rcases Ds.find n (i+1) h4 with ⟨j,e',x',q1,q2,q3,q4,q5,q6,q7⟩ | ⟨q1,q2,q3,q4⟩
    .refine .inl ⟨j+1,e',x',by rw[hf,q1];congr 3;omega,q2,q3,by rw[hm,q4],q5,λ y v' hr=>?_,?_⟩
     .rw [hs]
      exact⟨⟨k,x,rfl,h2,h3⟩,q6 y v' hr⟩
     .rw [hd]
      exact⟨⟨k,x,rfl,h2,h3⟩,q7⟩
    .refine .inr ⟨by rw[hf,q1],by rw[hm,q2],λ y v' c hr=>?_,?_⟩
     .rw [hs]
      exact⟨⟨k,x,rfl,h2,h3⟩,q3 y v' c hr⟩
     .rw [hd]
      exact⟨⟨k,x,rfl,h2,h3⟩,q4⟩
 | [],_::_,_,h=>False.elim h
 | _::_,[],_,h=>False.elim h
theorem Ds.set_len {rows:List (List AV)} {es:List MapEntry} (n:Int) (y:AV):Ds T w M rows es->rows.length<=(Bc n y rows).length:=by
 intro h
 induction rows generalizing es with
 | nil=>simp
 | cons row rows ih =>
   cases es with
   | nil=>exact False.elim h
   | cons e es =>
     obtain⟨⟨k,x,h1,_,_⟩,h4⟩:=h;subst h1
     by_cases h0:n=k
     .simp [Bc,h0]
     .simp only[Bc,if_neg h0,QN]
      exact Nat.succ_le_succ (ih h4)
end
section
variable {np:Nat} {T0:Nat->Nat} {M0:GM} {w0:World} {aB:Nat->Prop} {hp:Nat->Option AQ} {T:Nat->Nat} {M:GM} {w:World}
theorem Bw.newMap (h:Bw np T0 M0 w0 aB hp T M w) {id:Nat} (hid:¬ aB id) (hc:np<=id) {w1:World} (hh:w1.heap=w.heap.push (.map #[] 0)) (os:w1.os=w.os) (tape:w1.tape=w.tape) (output:w1.output=w.output) {hp':Nat->Option AQ} (ha:hp' id=some { s:=0,rows:=[] }) (h0:∀ i e',i≠id->hp' i=some e'->hp i=some e') :
  ∃ M':GM,M' id=some ⟨some w.heap.size,0,0⟩/\(∀ i g,M i=some g->M' i=some g)/\Bw np T0 M0 w0 (λ i=>aB i∨i=id) hp' T M' w1/\Au T w T w1:=by
 have old:∀ b o,w.heap[b]? = some o->w1.heap[b]? = some o:=λ b o hb=>by
  have:b<w.heap.size:=(QQ.1 hb).1;rw[hh,U1,if_neg (by omega)];exact hb
 have p:Au T w T w1:=⟨λ _=>Qk _,λ b cells ty fz hb=>⟨cells,fz,old _ _ hb,rfl,λ _ _=>rfl⟩⟩
 have h7:M id=none:=by
  cases hm:M id with
  | none=>rfl
  | some g=>exact absurd (h.dom id g hm) hid
 have mm:∀ i g,M i=some g->(λ i=>if i=id then some (GE.mk (some w.heap.size) 0 0) else M i) i=some g:=by
  intro i g hg;have:i≠id:=by rintro rfl;rw[h7] at hg;cases hg
  simp only[this,Ux];exact hg
 refine⟨λ i=>if i=id then some ⟨some w.heap.size,0,0⟩ else M i,by simp,mm,⟨⟨λ i e' he=>?_,λ i i' e1 e2 g g' b h1 h2 h3 h4 h5 h6=>?_⟩,λ i g hg=>?_,?_⟩,p⟩
 .by_cases hi:i=id
  .subst hi
   obtain rfl:=Qf (ha.symm.trans he);exact⟨⟨some w.heap.size,0,0⟩,if_pos rfl,rfl,Qk _,(λ h=>absurd rfl h),(λ e=>by simp at e),(λ _=>⟨w.heap.size,#[],0,rfl,by rw[hh];simp,h.T_zero (Qk _),rfl,trivial⟩),λ h=>absurd rfl h⟩
  .have h9:=h0 i e' hi he
   obtain⟨g,h1,h2⟩:=h.hs.ent i e' h9;refine⟨g,by simp only[hi,Ux];exact h1,h2.mono p mm λ b hb=>⟨?_,rfl⟩⟩
   have:=h.block_lt h9 h1 hb;rw[hh,U1,if_neg (by omega)]
 .by_cases hi:i=id<;>by_cases hi':i'=id
  .rw [hi,hi']
  .rw [if_pos hi] at h3;rw[if_neg hi'] at h4
   obtain rfl:=Qf h3;have:=h.block_lt (h0 i' e2 hi' h2) h4 h6;simp at h5;omega
  .rw [if_neg hi] at h3;rw[if_pos hi'] at h4
   obtain rfl:=Qf h4;have:=h.block_lt (h0 i e1 hi h1) h3 h5;simp at h6;omega
  .rw [if_neg hi] at h3;rw[if_neg hi'] at h4
   exact h.hs.inj i i' e1 e2 g g' b (h0 i e1 hi h1) (h0 i' e2 hi' h2) h3 h4 h5 h6
 .by_cases hi:i=id
  .exact .inr hi
  .rw [if_neg hi] at hg;exact .inl (h.dom i g hg)
 .refine h.after.step (λ b hb=>?_) (λ _ _ _=>rfl) (λ k hk=>?_) os tape output (by rw[hh];simp) (λ b hb _=>?_) p λ k g b hk hg hb=>?_
  .obtain ⟨c,ty',fz,h1,h2⟩:=h.after.tok b hb
   exact⟨c,ty',fz,old _ _ h1,h2⟩
  .have:k≠id:=by omega
   simp only[this,Ux]
  .have:=h.after.size
   rw[hh,U1,if_neg (by omega)]
  .by_cases hi:k=id
   .rw [if_pos hi] at hg
    obtain rfl:=Qf hg;obtain rfl:=Qf hb;exact .inr h.after.size
   .rw [if_neg hi] at hg
    exact h.after.new k g b hk hg hb
theorem Bw.writeMap (h:Bw np T0 M0 w0 aB hp T M w) {id:Nat} {e0 e:AQ} {g:GE} {b:Nat} {es es':Array MapEntry} {h7 clock':Nat} (h9:hp id=some e0) (hg:M id=some g) (hb:g.blk=some b) (hd:e0.s=0) (hw:w.heap[b]? = some (.map es h7)) (hz:e.s=0) (ro:e.ro<=e.rows.length) (hm:Ds T w M e.rows es'.toList) {hp':Nat->Option AQ} (ho:hp' id=some e) (hf:∀ i e',i≠id->hp' i=some e'->hp i=some e') :
  Bw np T0 M0 w0 aB hp' T M { w with heap:=w.heap.setIfInBounds b (.map es' clock') }/\Au T w T { w with heap:=w.heap.setIfInBounds b (.map es' clock') }:=by
 have h0:=heap_set (o':=.map es' clock') hw
 have p:Au T w T { w with heap:=w.heap.setIfInBounds b (.map es' clock') }:=by
  refine⟨λ _=>Qk _,λ k c t f hk=>⟨c,f,?_,rfl,λ _ _=>rfl⟩⟩;have hq:k≠b:=by rintro rfl;rw[hw] at hk;cases hk
  show (w.heap.setIfInBounds b _)[k]? = _;rw[h0.2 k hq];exact hk
 obtain⟨g1,ha,ent0⟩:=h.hs.ent id e0 h9;obtain rfl:=Qf (hg.symm.trans ha);obtain⟨b',es0,clock0,hu,q1,q2,q3,q4⟩:=ent0.mp hd;obtain rfl:=Qf (hb.symm.trans hu)
 have hh:∀ i e' g1 b1,i≠id->hp i=some e'->M i=some g1->g1.blk=some b1->b1≠b:=by
  rintro i e' g1 b1 hi h1 h2 h3 rfl
  exact hi (h.hs.inj i id e' e0 g1 g b1 h1 h9 h2 hg h3 hb)
 refine⟨⟨⟨λ i e' he=>?_,λ i i' e1 e2 g1 g2 b1 h1 h2 h3 h4 h5 h6=>?_⟩,h.dom,?_⟩,p⟩
 .by_cases hi:i=id
  .subst hi
   obtain rfl:e=e':=Qf (ho.symm.trans he);exact⟨g,hg,ent0.s.trans (hd.trans hz.symm),ro,(λ h=>absurd hz h),(λ hn=>by rw[hb] at hn;cases hn),(λ _=>⟨b,es',clock',hb,h0.1,q2,q3,hm.mono p λ _ _ h=>h⟩),λ h=>absurd hz h⟩
  .have hj:=hf i e' hi he
   obtain⟨g1,h1,h2⟩:=h.hs.ent i e' hj;exact⟨g1,h1,h2.mono p (λ _ _ h=>h) λ b1 hc=>⟨h0.2 b1 (hh i e' g1 b1 hi hj h1 hc),rfl⟩⟩
 .have back:∀ i e1,hp' i=some e1 -> ∃ e2,hp i=some e2:=λ i e1 hv=>by
   by_cases hi:i=id
   .exact ⟨e0,by rw[hi];exact h9⟩
   .exact ⟨e1,hf i e1 hi hv⟩
  obtain⟨f1,hx⟩:=back i e1 h1;obtain⟨f2,hy⟩:=back i' e2 h2;exact h.hs.inj i i' f1 f2 g1 g2 b1 hx hy h3 h4 h5 h6
 .refine h.after.step (λ k hk=>?_) (λ _ _ _=>rfl) (λ k hk=>rfl) rfl rfl rfl (by simp) (λ k hk hn=>?_) p λ k g1 b1 hk ha hc=>h.after.new k g1 b1 hk ha hc
  .obtain ⟨c,t,f,h1,h2⟩:=h.after.tok k hk
   obtain⟨c',f',e1,e2,_⟩:=p.cell k c t f h1;exact⟨c',t,f',e1,by omega⟩
  .refine h0.2 k ?_
   rintro rfl
   rcases h.after.blk hg hb with h1 | h1
   .exact hn h1
   .omega
end
end Go.Proofs.YtkngdgplbojdlaaGreat
namespace Go.Proofs.YtkngdgplbojdlaaGreat
open Go Go.MapKept
theorem zhE {P:Program} {t:TypeId} {z:Value} (h:H9 P t=some z):∃ k v i,P.underlying t=some (.map k v)/\P.underlying k=some (.int .i64)/\P.info? v=some i/\i.zero=some z:=by
 unfold H9 at h;split at h
 case h_2=>cases h
 rename_i k v hu;split at h
 case h_2=>cases h
 rename_i i hk hi;exact⟨k,v,i,hu,hk,hi,h⟩
section
variable {P:Program} {np:Nat} {T0:Nat->Nat} {M0:GM} {w0:World} {aB:Nat->Prop} {st:St} {T:Nat->Nat} {M:GM} {a:Act} {w:World} {idb:Nat}
variable (tm:∀ i,Ad T w M (st.get i) (a.tmps.getD i undef)) (m:Bw np T0 M0 w0 aB st.hp T M w) (aC:∀ k,k<8->¬ aB (idb+k)) (aG:np<=idb)
include m
theorem Ps {i:Nat} {e:AQ} {v:Value} (hr:Ad T w M (.mp i) v) (he:st.hp i=some e) (hz:e.s=0) :
  ∃ b es clock g,v = .map (some b)/\M i=some g/\g.blk=some b/\w.heap[b]? = some (.map es clock)/\Ds T w M e.rows es.toList:=by
 cases hr with
 | mp _ _ g b hg h2 hb =>
   obtain⟨g',h0,ent⟩:=m.hs.ent i e he;obtain rfl:=Qf (hg.symm.trans h0);obtain⟨b',es,clock,h1,q1,q2,q3,q4⟩:=ent.mp hz;obtain rfl:=Qf (hb.symm.trans h1);exact⟨_,es,clock,g,rfl,hg,hb,q1,q4⟩
include aC aG in
theorem w5 (o:Oper) (t:TypeId) (h:o.op = .makeMap t none):BC P np T0 M0 w0 aB st T M a w idb o:=by
 intro K hk;simp only[BA,h] at hk;split at hk
 case h_2=>exact False.elim hk
 simp only[List.map,aK] at hk;refine⟨_,_,_,hk,?_⟩
 have h0:(execOp a.eval o).run P w = .ok (.value (.map (some w.heap.size))) (w.alloc (.map #[] 0)):=by
  have:(Instr.makeMap t none).run P w = .ok (.map (some w.heap.size)) (w.alloc (.map #[] 0)):=rfl;simp[execOp,h,this]
 rw[h0]
 obtain⟨M',h1,h2,h3,h4⟩:=m.newMap (aC 0 (by omega)) aG (w1:=w.alloc (.map #[] 0)) rfl rfl rfl rfl (hp':=(st.upd [(idb,some { s:=0,rows:=[] })]).hp) (by rw[St.hp_upd,Ua];simp[AW]) (λ i e' hi he=>by
  rw[St.hp_upd] at he;rw[Ua] at hi
  simpa [AW,Ne.symm hi] using he)
 exact⟨T,M',h3.wider (λ i hi=>hi.elim .inl λ hi=>.inr (by omega)),h4,h2,.mp _ _ _ _ (by simpa using h1) rfl rfl⟩
include tm
theorem uK (o:Oper) (t:TypeId) (x y:Operand) (ok:Bool) (h:o.op = .lookup t x y ok):BC P np T0 M0 w0 aB st T M a w idb o:=by
 intro K hk;simp only[BA,h] at hk;split at hk
 case h_2=>exact False.elim hk
 rename_i z hz;obtain⟨kt,vt,inf,hu,h2,hi,h5⟩:=zhE hz;simp only[List.map] at hk;have hr:=Bq tm x;have h6:=Bq tm y;generalize hv:a.eval x=v at *;generalize (AU x).ev st.get=X at *;generalize h4:a.eval y=v' at *;generalize (AU y).ev st.get=Y at *
 cases X<;>(try (simp only[aK] at hk;done))
 cases Y<;>(try (simp only[aK] at hk;done))
 rename_i i q
 cases q<;>(try (simp only[aK] at hk;done))
 rename_i kd n
 cases kd<;>(try (simp only[aK] at hk;done))
 simp only[aK] at hk;obtain⟨e,he,h7,hk⟩:=hk;obtain rfl:=DB h6 rfl;obtain⟨b,es,clock,g,rfl,hg,hb,hw,hm⟩:=Ps m hr he h7;have h3:IsKey (.int .i64) (.int .i64 n):=rfl;rcases hm.find n 0 with ⟨j,en,xv,q1,q2,q3,q4,q5,-,-⟩ | ⟨q1,q2,-,-⟩
 .refine ⟨_,_,_,hk,?_⟩
  rw[q4]
  have h0:(Instr.lookup t (.map (some b)) (.int .i64 n) ok).run P w = .ok (if ok then .tuple #[en.val,.bool true] else en.val) w:=by
   simp[Instr.lookup,run_underlying hu,Go.MapKept.run_getObj_map hw,run_checkKey h2 h3,run_findKey h2 q1,Result.andThen]
  have h1:(execOp a.eval o).run P w = .ok (.value (if ok then .tuple #[en.val,.bool true] else en.val)) w:=by simp[execOp,h,hv,h4,h0]
  cases ok with
  | false=>exact Ck m (by simpa using q5) h1
  | true =>
    refine Ck m (v':=.tuple #[en.val,.bool true]) ?_ h1;refine .tup _ _ _ rfl λ i hi=>?_
    match i,hi with
    | 0,_=>exact q5
    | 1,_=>exact .sc _ _ rfl
 .refine ⟨_,_,_,hk,?_⟩
  rw[q2]
  have h0:(Instr.lookup t (.map (some b)) (.int .i64 n) ok).run P w = .ok (if ok then .tuple #[z,.bool false] else z) w:=by
   simp[Instr.lookup,run_underlying hu,Go.MapKept.run_getObj_map hw,run_checkKey h2 h3,run_findKey h2 q1,Result.andThen,zeroValue,typeInfo,hi,h5]
  have h1:(execOp a.eval o).run P w = .ok (.value (if ok then .tuple #[z,.bool false] else z)) w:=by simp[execOp,h,hv,h4,h0]
  cases ok with
  | false=>exact Ck m (by simpa using Ny z) h1
  | true =>
    refine Ck m (v':=.tuple #[z,.bool false]) ?_ h1;refine .tup _ _ _ rfl λ i hi=>?_
    match i,hi with
    | 0,_=>exact Ny z
    | 1,_=>exact .sc _ _ rfl
theorem RG (o:Oper) (t:TypeId) (x y u:Operand) (h:o.op = .mapUpdate t x y u∨o.op = .insert t x y u):BC P np T0 M0 w0 aB st T M a w idb o:=by
 intro K hk;have hc:BA P o=(match H9 P t with | some _=>(.mup,[AU x,AU y,AU u]) | none=>(.bad,[])):=by rcases h with h | h<;>(unfold BA;rw[h];rfl)
 rw[hc] at hk
 cases hz:H9 P t with
 | none=>rw[hz] at hk;exact False.elim hk
 | some z =>
 rw[hz] at hk;obtain⟨kt,vt,inf,hu,h3,hi,hx⟩:=zhE hz;simp only[List.map] at hk;have hr:=Bq tm x;have ho:=Bq tm y;have h5:=Bq tm u;generalize hv:a.eval x=v at *;generalize (AU x).ev st.get=X at *;generalize h6:a.eval y=v' at *;generalize (AU y).ev st.get=Y at *;generalize h7:a.eval u=v2 at *;generalize (AU u).ev st.get=U at *
 cases X<;>(try (simp only[aK] at hk;done))
 cases Y<;>(try (simp only[aK] at hk;done))
 rename_i i q
 cases q<;>(try (simp only[aK] at hk;done))
 rename_i kd n
 cases kd<;>(try (simp only[aK] at hk;done))
 simp only[aK] at hk;obtain⟨e,he,h0,hk⟩:=hk;obtain rfl:=DB ho rfl;obtain⟨b,es,clock,g,rfl,hg,hb,hw,hm⟩:=Ps m hr he h0;have h1:IsKey (.int .i64) (.int .i64 n):=rfl;obtain⟨g',hy,ent⟩:=m.hs.ent i e he;have h9:=hm.set_len n U;have ha:e.ro<=(Bc n U e.rows).length:=QH ent.ro h9;have hd:(st.upd [(i,some { e with rows:=Bc n U e.rows })]).hp i=some { e with rows:=Bc n U e.rows }:=by rw[St.hp_upd];simp[AW]
 have hf:∀ i' e',i'≠i->(st.upd [(i,some { e with rows:=Bc n U e.rows })]).hp i'=some e'->st.hp i'=some e':=λ i' e' hq hh=>by
  rw[St.hp_upd] at hh
  simpa [AW,Ne.symm hq] using hh
 refine⟨_,_,_,hk,?_⟩;rcases hm.find n 0 with ⟨j,en,xv,q1,q2,q3,q4,q5,q6,-⟩ | ⟨q1,q2,q6,-⟩
 .have hj:es[j]? = some en:=by simpa using q2
  have h2:(Instr.mapUpdate t (.map (some b)) (.int .i64 n) v2).run P w = .ok () { w with heap:=w.heap.setIfInBounds b (.map (es.modify j λ e=>{ e with key:=.int .i64 n,val:=v2 }) clock) }:=by
   rw[show (0+j)=j from Q1 j] at q1
   simp[Instr.mapUpdate,run_underlying hu,Go.MapKept.run_getObj_map hw,run_checkKey h3 h1,run_findKey h3 q1,hj,q3,run_keyThatStays h1,Go.MapKept.run_setObj_map _ hw,Result.andThen]
  have h4:(execOp a.eval o).run P w = .ok .skip { w with heap:=w.heap.setIfInBounds b (.map (es.modify j λ e=>{ e with key:=.int .i64 n,val:=v2 }) clock) }:=by
   rcases h with h | h<;>simp[execOp,h,hv,h6,h7,h2]
  rw[h4];obtain⟨m1,m2⟩:=m.writeMap he hg hb h0 hw (e:={ e with rows:=Bc n U e.rows }) h0 ha (es':=es.modify j λ e=>{ e with key:=.int .i64 n,val:=v2 }) (clock':=clock) (by simpa using q6 U v2 h5) hd hf
  exact⟨T,M,m1.wider λ _ h=>.inl h,m2,λ _ _ h=>h,rfl⟩
 .have h2:(Instr.mapUpdate t (.map (some b)) (.int .i64 n) v2).run P w = .ok () { w with heap:=w.heap.setIfInBounds b (.map (es.push { key:=.int .i64 n,val:=v2,born:=clock }) (clock+1)) }:=by
   simp[Instr.mapUpdate,run_underlying hu,Go.MapKept.run_getObj_map hw,run_checkKey h3 h1,run_findKey h3 q1,Go.MapKept.run_setObj_map _ hw,Result.andThen]
  have h4:(execOp a.eval o).run P w = .ok .skip { w with heap:=w.heap.setIfInBounds b (.map (es.push { key:=.int .i64 n,val:=v2,born:=clock }) (clock+1)) }:=by
   rcases h with h | h<;>simp[execOp,h,hv,h6,h7,h2]
  rw[h4];obtain⟨m1,m2⟩:=m.writeMap he hg hb h0 hw (e:={ e with rows:=Bc n U e.rows }) h0 ha (es':=es.push { key:=.int .i64 n,val:=v2,born:=clock }) (clock':=clock+1) (by simpa using q6 U v2 clock h5) hd hf
  exact⟨T,M,m1.wider λ _ h=>.inl h,m2,λ _ _ h=>h,rfl⟩
theorem wS (o:Oper) (c:Call) (h:o.op = .call c) (h4:c.callee = .builtin .delete):BC P np T0 M0 w0 aB st T M a w idb o:=by
 intro K hk;simp only[BA,h,h4] at hk;split at hk
 case h_2=>exact False.elim hk
 rename_i t ts x y ht hx;have h6:c.args = #[x,y]:=by rw[<- QS (xs:=c.args),hx]
 have h7:c.argTypes[0]? = some t:=by rw[<- Array.getElem?_toList,ht];rfl
 split at hk
 case h_2=>exact False.elim hk
 rename_i z hz;obtain⟨kt,vt,inf,hu,h1,hi,hj⟩:=zhE hz;simp only[List.map] at hk;have hr:=Bq tm x;have hf:=Bq tm y;generalize hv:a.eval x=v at *;generalize (AU x).ev st.get=X at *;generalize h9:a.eval y=v' at *;generalize (AU y).ev st.get=Y at *
 cases X<;>(try (simp only[aK] at hk;done))
 cases Y<;>(try (simp only[aK] at hk;done))
 rename_i i q
 cases q<;>(try (simp only[aK] at hk;done))
 rename_i kd n
 cases kd<;>(try (simp only[aK] at hk;done))
 simp only[aK] at hk;obtain⟨e,he,h0,hk⟩:=hk;obtain rfl:=DB hf rfl;obtain⟨b,es,clock,g,rfl,hg,hb,hw,hm⟩:=Ps m hr he h0;have h2:IsKey (.int .i64) (.int .i64 n):=rfl;have ha:(st.upd [(i,some { e with rows:=Cm n e.rows,ro:=0 })]).hp i=some { e with rows:=Cm n e.rows,ro:=0 }:=by rw[St.hp_upd];simp[AW]
 have hc:∀ i' e',i'≠i->(st.upd [(i,some { e with rows:=Cm n e.rows,ro:=0 })]).hp i'=some e'->st.hp i'=some e':=λ i' e' hh hd=>by
  rw[St.hp_upd] at hd
  simpa [AW,Ne.symm hh] using hd
 refine⟨_,_,_,hk,?_⟩;have h3:∀ {w':World},Ad T w' M (.tup []) (.tuple #[]):=.tup _ _ _ rfl λ i hi=>absurd hi (U5 _);rcases hm.find n 0 with ⟨j,en,xv,q1,q2,q3,q4,q5,-,q7⟩ | ⟨q1,q2,-,q7⟩
 .have h5:(execOp a.eval o).run P w = .ok (.value (.tuple #[])) { w with heap:=w.heap.setIfInBounds b (.map (es.eraseIdxIfInBounds j) clock) }:=by
   rw[show (0+j)=j from Q1 j] at q1
   simp[execOp,h,resolve,h4,invoke,builtin,Builtin.delete_,h7,h6,hv,h9,run_underlying hu,Go.MapKept.run_getObj_map hw,run_checkKey h1 h2,run_findKey h1 q1,Go.MapKept.run_setObj_map _ hw,Result.andThen]
  rw[h5];obtain⟨m1,m2⟩:=m.writeMap he hg hb h0 hw (e:={ e with rows:=Cm n e.rows,ro:=0 }) h0 (Qh _) (es':=es.eraseIdxIfInBounds j) (clock':=clock) (by simpa using q7) ha hc
  exact⟨T,M,m1.wider λ _ h=>.inl h,m2,λ _ _ h=>h,h3⟩
 .have h5:(execOp a.eval o).run P w = .ok (.value (.tuple #[])) { w with heap:=w.heap.setIfInBounds b (.map es clock) }:=by
   simp[execOp,h,resolve,h4,invoke,builtin,Builtin.delete_,h7,h6,hv,h9,run_underlying hu,Go.MapKept.run_getObj_map hw,run_checkKey h1 h2,run_findKey h1 q1,Go.MapKept.run_setObj_map _ hw,Result.andThen]
  rw[h5];obtain⟨m1,m2⟩:=m.writeMap he hg hb h0 hw (e:={ e with rows:=Cm n e.rows,ro:=0 }) h0 (Qh _) (es':=es) (clock':=clock) q7 ha hc;exact⟨T,M,m1.wider λ _ h=>.inl h,m2,λ _ _ h=>h,h3⟩
end
theorem W6:∀ {rows:List (List AV)} {bs:List UInt8},Is rows=some bs -> ∃ ns:List Int,rows=ns.map (λ n=>[AV.sc (.int .u8 n)])/\bs=ns.map λ n=>UInt8.ofNat n.toNat
 | [],bs,h=>by simp[Is] at h;exact⟨[],rfl,h⟩
 | r::rows,bs,h=>by
   unfold Is at h;split at h
   .rename_i e;cases e
   .rename_i n rest e
    cases e;simp only[Qw] at h;obtain⟨bs',h1,rfl⟩:=h;obtain⟨ns,rfl,rfl⟩:=W6 h1;exact⟨n::ns,rfl,rfl⟩
   .cases h
theorem i6 {P:Program} {fn:Func} {s:Nat} (h:JO P fn=some s):fn.body.isNone=true/\(fn.name == "runtime.NumGoroutine")=false/\Extern.findNext fn=none /\
  Extern.find fn=some (Extern.SlicesOverlaps.overlaps fn.params fn.resultTypes) /\ ∃ t u e,fn.params = #[t,u]/\P.underlying t=some (.slice e)/\Cl P e=some s:=by
 unfold JO at h;split at h
 case isFalse=>cases h
 rename_i hc;simp only[QM,bne_iff_ne,ne_eq,beq_iff_eq,Option.isNone_iff_eq_none] at hc;obtain⟨⟨⟨⟨⟨⟨h1,h2⟩,h3⟩,h4⟩,h5⟩,h6⟩,h7⟩:=hc;have e1:Extern.allNextRows.lookup "slices.overlaps" = none:=rfl;have e2:Extern.allGenericRows.lookup "slices.overlaps" = none:=rfl;have e3:Extern.allTypedRows.lookup "slices.overlaps" = some Extern.SlicesOverlaps.overlaps:=rfl;refine⟨by simp[h1],by simpa using h2,by simp[Extern.findNext,h3,h4,e1],by simp[Extern.find,h3,h5,h6,h7,e2,e3],?_⟩
 split at h
 case h_2=>cases h
 rename_i t u hp;split at h
 case h_2=>cases h
 rename_i e hu;exact⟨t,u,e,by rw[<- QS (xs:=fn.params),hp],hu,h⟩
theorem Je:∃ (q:Question) (s1 s2:String),∀ (t u:TypeId) (R:Array TypeId) (a b:Option Addr) (la ca lb cb:Nat),Extern.SlicesOverlaps.overlaps #[t,u] R #[.slice a la ca,.slice b lb cb]=(do
  let some t:=(#[t,u]:Array TypeId)[0]? | stuck s1
  let .slice elem <- underlying t | stuck s2
  let size <- sizeOf elem
  match a,b with
  | some a,some b =>
    if la=0∨lb=0∨size=0 then pure (Value.bool false)
    else if a.block != b.block && (<- frozen a) && (<- frozen b) then unsupported .addressObserved
    else do
     if a.block != b.block then do
      noView a;noView b
      if <- mayBeOne a b then return Value.bool ((<- choose q) == 1)
     pure (Value.bool (a.block == b.block && a.off<b.off+lb*size && b.off<a.off+la*size))
  | _,_=>pure (Value.bool false):Sem Value):=⟨_,"none",_,λ _ _ _ _ _ _ _ _ _=>rfl⟩
section
variable {P:Program} {np:Nat} {T0:Nat->Nat} {M0:GM} {w0:World} {aB:Nat->Prop} {st:St} {T:Nat->Nat} {M:GM} {a:Act} {w:World} {idb:Nat}
variable (tm:∀ i,Ad T w M (st.get i) (a.tmps.getD i undef)) (m:Bw np T0 M0 w0 aB st.hp T M w) (aC:∀ k,k<8->¬ aB (idb+k)) (aG:np<=idb)
include tm m
theorem c9 (o:Oper) (t u:TypeId) (x:Operand) (h:o.op = .convert t u x) (e:TypeId) (h1:P.underlying t=some (.slice e)) (h2:P.underlying u=some .string):BC P np T0 M0 w0 aB st T M a w idb o:=by
 intro K hk;have hr:=Bq tm x;simp only[BA,h,h1,h2] at hk;split at hk
 case h_2=>exact False.elim hk
 rename_i he;simp only[List.map,aK] at hk;obtain⟨rows,bs,h4,h7,hk⟩:=hk;obtain⟨ad,cap,us,hv,hb,h6,h9,ha⟩:=I4 m.hs hr h4;obtain⟨ns,rfl,rfl⟩:=W6 h7;refine⟨_,_,_,hk,Ck m (.sc _ _ rfl) ?_⟩
 have h3:us=ns.map (Value.int .u8):=by
  apply List.ext_getElem
  .rw [h6.size];simp
  .intro i hi hi'
   have hl:i<ns.length:=by simpa using hi'
   have:=h6.cell i 0 (by simpa using hl) (by omega)
   have e1:(ns.map λ n=>[AV.sc (.int .u8 n)]).getD i []=[AV.sc (.int .u8 ns[i])]:=by simp[List.getD,hl]
   have e2:us.getD (i*1+0) undef=us[i]:=by simp[List.getD,hi]
   rw[e1,e2] at this;have:=DB this rfl;rw[this];simp
 have h5:(convert t u (a.eval x)).run P w = .ok (.string ⟨(ns.map λ n=>UInt8.ofNat n.toNat).toArray⟩) w:=by
  rw[hv,run_convert_bytes_string w t u e _ _ _ h1 he h2]
  cases ad with
  | none =>
    have h0:=h9 rfl;rw[h3] at h0;have:ns=[]:=by simpa using h0
    subst this;simp[Conv.bytesToString];rfl
  | some ad =>
    have hl:(loadCells ad (ns.map λ n=>[AV.sc (.int .u8 n)]).length).run P w = .ok (ns.map (Value.int .u8)).toArray w:=by
     have:=run_loadCells_list (P:=P) w ad us (ha ad rfl);rw[h3] at this
     simpa using this
    rw[run_bytesToString w ad _ cap ns hl,foldl_push_bytes]
    congr 3
    have h0:ByteArray.empty.data = #[]:=rfl;rw[h0];simp
 simp[execOp,h,h5]
theorem nQ (o:Oper) (c:Call) (f:Operand) (h:o.op = .call c) (hb:c.callee = .value f) {s:Nat} (h4:Gs P f=some s):BC P np T0 M0 w0 aB st T M a w idb o:=by
 intro K hk;have hc:BA P o=(.ovl s,c.args.toList.map AU):=by simp[BA,h,hb,h4]
 rw[hc] at hk
 cases f<;>(try (simp[Gs] at h4;done))
 rename_i g0;simp only[Gs] at h4;split at h4
 case h_2=>cases h4
 rename_i fn a4;obtain⟨h9,ha,hd,he,t,u,e,hh,h5,hj⟩:=i6 h4
 have h2:∀ w,(sizeOf e).run P w = .ok s w:=by
  intro w;simp only[Cl,Qw] at hj;obtain⟨i,hi,hs⟩:=hj;simp[sizeOf,typeInfo,hi,hs]
 cases hx:c.args.toList with
 | nil=>rw[hx] at hk;simp[aK] at hk
 | cons x xs =>
 cases xs with
 | nil=>rw[hx] at hk;simp[aK] at hk
 | cons y ys =>
 cases ys with
 | cons z zs=>rw[hx] at hk;simp[aK] at hk
 | nil =>
 have a5:c.args = #[x,y]:=by rw[<- QS (xs:=c.args),hx]
 rw[hx] at hk;simp only[Qo,UE] at hk;have a6:=Bq tm x;have a7:=Bq tm y;generalize a8:a.eval x=v1 at *;generalize a9:a.eval y=v2 at *;generalize (AU x).ev st.get=X at *;generalize (AU y).ev st.get=Y at *
 cases X<;>(try (simp only[aK] at hk;done))
 cases Y<;>(try (simp only[aK] at hk;done))
 rename_i s1 full rows id off len cap2;simp only[aK] at hk;obtain⟨en,ad,ho,hq,ag,hk⟩:=hk;have hu:s=s1:=ho.symm
 clear ho
 subst hu;refine⟨_,_,_,hk,Ck m (.sc _ _ rfl) ?_⟩
 cases a6 with
 | vs _ _ _ _ a1 cap1 c1 cl cb cp ai cq d0 =>
 cases a7 with
 | rk _ _ _ _ _ a2 g hg hz d1 am an =>
 obtain⟨g',au,ent⟩:=m.hs.ent id en ad;obtain rfl:=Qf (hg.symm.trans au);have hS:g.s=s:=ent.s.trans hq
 have hf:∀ n,n=rows.length->(Extern.SlicesOverlaps.overlaps fn.params fn.resultTypes #[.slice a1 n cap1,.slice a2 len cap2]).run P w = .ok (.bool false) w:=by
  intro n hn;obtain⟨q,s1,s2,Je⟩:=Je;rw[hh]
  cases a1 with
  | none=>simp[Je,run_underlying h5,h2]
  | some x1 =>
  cases a2 with
  | none=>simp[Je,run_underlying h5,h2]
  | some x2 =>
  by_cases h0:n=0∨len=0∨s=0
  .simp [Je,run_underlying h5,h2,h0]
  .have av:rows≠[]:=by rintro rfl;simp at hn;omega
   obtain⟨b,o1,cells,ty,fz,b1,h6,d2,-⟩:=ai av;have cd:0<rows.length*s:=Nat.mul_pos (by omega) (by omega)
   obtain⟨cA,tA,fA,hA,d3⟩:=m.after.tok b (by omega)
   rw[h6] at hA;injection hA with hA;injection hA with b3 b4 b5;subst b3 b4 b5
   cases h7:g.blk with
   | none=>have:=am h7;omega
   | some b2 =>
   obtain⟨b6,-⟩:=an b2 h7;obtain⟨cB,tB,hB,bf,ck,-⟩:=ent.blk (ent.s ▸ hz) b2 h7
   have hv:x2=⟨b2,g.base+off*g.s,none⟩:=by
    rcases b6 with h | h
    .omega
    .exact Qf h
   obtain rfl:=Qf b1;subst hv;have hw:en.ro*en.s<=off*en.s:=QD _ ag;rw[hq] at hw bf;have bo:w.frozen? ⟨b2,g.base+off*g.s,none⟩=false:=by simp[World.frozen?,hB]
   have hy:w.frozen? ⟨b2,cB.size,none⟩=false:=by simp[World.frozen?,hB]
   have bs:w.shape? b=some (ty,cells.size):=by simp[World.shape?,h6]
   have bt:w.shape? b2=some (tB,cB.size):=by simp[World.shape?,hB]
   by_cases a0:b=b2
   .subst a0
    simp[Je,run_underlying h5,h2,h0];intro h1;rw[hS,hn];omega
   .have c0:cells.size≠0:=by omega
    generalize d4:cells.size=kA at *
    cases kA with
    | zero=>exact absurd rfl c0
    | succ kA =>
      cases c2:w.frozen? ⟨b,o1,none⟩<;>cases c3:w.frozen? ⟨b,kA+1,none⟩ <;>
      simp[Je,run_underlying h5,h2,h0,a0,frozen,noView,viewAt,mayBeOne,stringish,shape,Sem.run,bs,bt,bo,hy,c2,c3]
 have a3:=hf _ rfl;have h3:=run_callFunc_extern a4 ha h9 hd he #[.slice a1 rows.length cap1,.slice a2 len cap2] w;rw[a3] at h3;simp only[Result.andThen] at h3;have c4:a.eval (.func g0) = .func (.func g0) #[] #[]:=rfl;simp[execOp,h,resolve,hb,c4,Deferred.ofValue,invoke,a5,a8,a9,h3]
include aC aG
theorem SP (o:Oper):BC P np T0 M0 w0 aB st T M a w idb o:=by
 have bad:(BA P o).1 = .bad->BC P np T0 M0 w0 aB st T M a w idb o:=by
  intro hb K hk;rw[hb] at hk;exact False.elim (by cases h:(BA P o).2.map (·.ev st.get)<;>(rw[h] at hk;exact hk))
 cases h0:o.op with
 | move x=>exact W5 tm m o x (.inl h0)
 | assign x=>exact W5 tm m o x (.inr h0)
 | pick c x y=>exact oK tm m o c x y h0
 | alloc t=>exact lB m aC aG o t h0
 | box t x=>exact vG tm m aC aG o t x h0
 | build t ps=>exact ZB tm m o t ps h0
 | buildSlice t n ps=>exact iL tm m aC aG o t n ps h0
 | load t x=>exact m8 tm m o t x h0
 | store t x y=>exact iW tm m o t x y h0
 | nilCheck x=>exact jM tm m o x h0
 | binOp op t x y u=>exact cR tm m o op t u x y h0
 | unOp op t x=>exact bQ tm m o op t x h0
 | convert t u x =>
   cases h1:P.underlying t with
   | none=>exact bad (by simp[BA,h0,h1])
   | some d1 =>
     cases h2:P.underlying u with
     | none=>exact bad (by simp[BA,h0,h1,h2])
     | some d2 =>
       by_cases q1:∃ k k',d1 = .int k/\d2 = .int k'
       .obtain ⟨k,k',rfl,rfl⟩:=q1
        exact iA tm m o t u x h0 k k' h1 h2
       .by_cases q2:∃ e,d1 = .slice e/\d2 = .string
        .obtain ⟨e,rfl,rfl⟩:=q2
         exact c9 tm m o t u x h0 e h1 h2
        .refine bad ?_
         simp only[BA,h0,h1,h2];split
         .rename_i e1 e2;cases e1;cases e2;exact absurd ⟨_,_,rfl,rfl⟩ q1
         .rename_i e1 e2;cases e1;cases e2;exact absurd ⟨_,rfl,rfl⟩ q2
         .rfl
 | makeFunc f first aF =>
   cases f with
   | func f=>exact Zq tm m o f first aF h0
   | _=>exact bad (by simp[BA,h0])
 | makeSlice t x y=>exact vP tm m aC aG o t x y h0
 | slice t x lo hi mx=>exact kS tm m o t x lo hi mx h0
 | fieldAddr t x f=>exact iO tm m o t x f h0
 | field t x f=>exact jF tm m o t x f h0
 | indexAddr t x y=>exact Y7 tm m o t x y h0
 | index t x y=>exact uY tm m o t x y h0
 | extract x i=>exact lW tm m o x i h0
 | call c =>
   cases hc:c.callee with
   | value f =>
     cases h3:Gs P f with
     | none=>exact wG tm m aC aG o c f h0 hc h3
     | some s=>exact nQ tm m o c f h0 hc h3
   | invoke r n=>exact pM tm m aC aG o c r n h0 hc
   | builtin b =>
     cases b with
     | append=>exact kX tm m aC aG o c h0 hc
     | copy=>exact w4 tm m o c h0 hc
     | clear=>exact l6 tm m o c h0 hc
     | cap=>exact sN tm m o c h0 hc
     | len =>
       cases ht:c.argTypes.toList with
       | nil=>exact bad (by simp[BA,h0,hc,ht])
       | cons t ts =>
         cases ts with
         | cons t' ts=>exact bad (by simp[BA,h0,hc,ht])
         | nil =>
           cases hx:c.args.toList with
           | nil=>exact bad (by simp[BA,h0,hc,ht,hx])
           | cons x xs =>
             cases xs with
             | cons x' xs=>exact bad (by simp[BA,h0,hc,ht,hx])
             | nil=>exact Z5 tm m o c h0 hc t x ht hx
     | max=>exact Xy tm m o c h0 true (by simpa using hc)
     | min=>exact Xy tm m o c h0 false (by simpa using hc)
     | delete=>exact wS tm m o c h0 hc
     | _=>exact bad (by simp[BA,h0,hc])
 | makeInterface t x=>exact pQ tm m o t x h0
 | makeMap t r =>
   cases r with
   | none=>exact w5 m aC aG o t h0
   | some r=>exact bad (by simp[BA,h0])
 | lookup t x y ok=>exact uK tm m o t x y ok h0
 | mapUpdate t x y u=>exact RG tm m o t x y u (.inl h0)
 | insert t x y u=>exact RG tm m o t x y u (.inr h0)
 | _=>exact bad (by simp[BA,h0])
end
variable {o:Oper} {ops:Array Oper}
section
variable {P:Program} {np:Nat} {T0:Nat->Nat} {M0:GM} {w0:World} {aB:Nat->Prop} {st:St} {T:Nat->Nat} {M:GM} {a:Act} {w:World}
theorem Ok.mem (ok:Ok np T0 M0 w0 aB st T M a w):Bw np T0 M0 w0 aB st.hp T M w:=⟨ok.hs,ok.dom,ok.after⟩
theorem Ok.wider (ok:Ok np T0 M0 w0 aB st T M a w) {h0:Nat->Prop} (h:∀ i,aB i->h0 i):Ok np T0 M0 w0 h0 st T M a w :=
 ⟨ok.sz,ok.df,ok.tm,ok.hs,λ id g hg=>h _ (ok.dom id g hg),ok.after⟩
theorem Ok.ext (ok:Ok np T0 M0 w0 aB st T M a w) {st':St} (h1:st'.sz=st.sz) (h2:∀ i,st'.get i=st.get i) (h3:∀ i,st'.hp i=st.hp i):Ok np T0 M0 w0 aB st' T M a w:=by
 have e:st'.hp=st.hp:=funext h3;exact⟨ok.sz.trans h1.symm,ok.df,λ i=>by rw[h2];exact ok.tm i,by rw[e];exact ok.hs,ok.dom,ok.after⟩
theorem St.sz_put (st:St) (d:Option Nat) (v:AV):(st.put d v).sz=st.sz:=by cases d<;>rfl
theorem zoH (a:Act) (d:Option Nat) (v:Value):(a.put d v).tmps.size=a.tmps.size:=by
 cases d<;>simp[Act.put]
theorem Oz (a:Act) (d:Option Nat) (v:Value):(a.put d v).defers=a.defers:=by cases d<;>rfl
theorem Vv (ok:Ok np T0 M0 w0 aB st T M a w) (hd:o.dst.all (· < st.sz)=true) {id:Nat} {v:AV} {up:List (Nat × Option AQ)} (he:FL P np T0 M0 w0 aB id (st.upd up).hp T M w v ((execOp a.eval o).run P w)) {next:Act->World->Prop} {Q:Exit->Act->World->Prop} (hn:∀ T' M' a' w',Ok np T0 M0 w0 (λ i=>aB i∨(id<=i/\i<id+8)) ((st.put o.dst v).upd up) T' M' a' w'->next a' w'):o.wp P a w next Q:=by
 have fin:∀ T' M' w' v',Bw np T0 M0 w0 (λ i=>aB i∨(id<=i/\i<id+8)) (st.upd up).hp T' M' w'->Au T w T' w'->(∀ i g,M i=some g->M' i=some g)->Ad T' w' M' v v'->next (a.put o.dst v') w':=by
  intro T' M' w' v' hm hp hM hr;refine hn T' M' _ w' ⟨?_,?_,?_,?_,hm.dom,hm.after⟩
  .rw [zoH]
   exact ok.sz.trans (St.sz_put _ _ _).symm
  .rw [Oz];exact ok.df
  .exact PW ok.sz (λ i=>(ok.tm i).mono hp hM) hd hr
  .have e:((st.put o.dst v).upd up).hp=(st.upd up).hp:=by
    funext i
    rw[St.hp_upd,St.hp_upd,St.hp_put]
   rw[e];exact hm.hs
 unfold Oper.wp;generalize h0:(execOp a.eval o).run P w=r at *
 cases r with
 | halt h w'=>exact False.elim he
 | ok n w' =>
   cases n with
   | value v' =>
     obtain⟨T',M',h1,h2,h3,h4⟩:=he;exact fin T' M' w' v' h1 h2 h3 h4
   | skip =>
     obtain⟨T',M',h1,h2,h3,rfl⟩:=he;exact fin T' M' w' undef h1 h2 h3 (.dead _ _)
   | enter f args =>
     obtain⟨rfl,hc⟩:=he;refine hc.mono ?_
     rintro e w'' ⟨v',T',M',rfl,h1,h2,h3,h4⟩
     exact fin T' M' w'' v' h1 h2 h3 h4
   | _=>exact False.elim he
theorem Td (tm:∀ i,Ad T w M (st.get i) (a.tmps.getD i undef)) {j d:Nat} {h0:Bool} {b:Option Bool} (hg:o.guard=some (j,h0)) (hj:(ops[j]?).bind (·.dst)=some d) (hb:Ie (st.get d)=some b) :
  Region.wanted o (yielded ops a.tmps)=(b == some h0):=by
 have h1:=tm d;unfold Ie at hb;split at hb
 .rename_i b' heq
  obtain rfl:=Qf hb;rw[heq] at h1;have h2:=DB h1 rfl
  have h3:a.tmps[d]? = some (.bool b'):=by
   rw[QE] at h2
   cases h:a.tmps[d]? with
   | none=>rw[h] at h2;cases h2
   | some v=>rw[h] at h2;simp at h2;rw[h2]
  simp only[Region.wanted,hg,yielded,hj,Option.bind_some,h3]
 .rename_i heq
  obtain rfl:=Qf hb;rw[heq] at h1
  have h3:a.tmps[d]? = none ∨ ∃ vs,a.tmps[d]? = some (.tuple vs):=by
   rw[QE] at h1
   cases h:a.tmps[d]? with
   | none=>exact .inl rfl
   | some v =>
     rw[h] at h1;simp only[QB] at h1
     cases h1;exact .inr ⟨_,rfl⟩
  rcases h3 with h3 | ⟨vs,h3⟩<;>simp only[Region.wanted,hg,yielded,hj,Option.bind_some,h3]<;>rfl
 .cases hb
theorem MV:(B5 P ops o).dst=o.dst/\((o.guard=none/\(B5 P ops o).guard=none/\(B5 P ops o).op=(BA P o).1/\(B5 P ops o).xs=(BA P o).2) ∨
  (∃ j want d,o.guard=some (j,want)/\(ops[j]?).bind (·.dst)=some d/\(B5 P ops o).guard=some (d,want)/\(B5 P ops o).op=(BA P o).1/\(B5 P ops o).xs=(BA P o).2) ∨
  ((B5 P ops o).guard=none/\(B5 P ops o).op = .bad/\(B5 P ops o).xs=[])):=by
 unfold B5
 cases hg:o.guard with
 | none=>exact⟨rfl,.inl ⟨rfl,rfl,rfl,rfl⟩⟩
 | some p =>
   obtain⟨j,want⟩:=p;simp only
   cases hj:(ops[j]?).bind (·.dst) with
   | none=>exact⟨rfl,.inr (.inr ⟨rfl,rfl,rfl⟩)⟩
   | some d=>exact⟨rfl,.inr (.inl ⟨j,want,d,rfl,hj,rfl,rfl,rfl⟩)⟩
theorem PE {ops:Array Oper} {n:Nat} (h6:np<=n) {Q:Exit->Act->World->Prop} {K:St->List (List Nat × List Nat)->Prop} (hQ:∀ st tr T M a w,K st tr->Ok np T0 M0 w0 (Hm (n+8*ops.size)) st T M a w->Q .normal a w) :
  ∀ (k i:Nat) (st:St) (tr:List (List Nat × List Nat)) (T:Nat->Nat) (M:GM) (a:Act) (w:World),i+k=ops.size->(∀ o∈ops,o.dst.all (· < st.sz)=true) ->
    Ok np T0 M0 w0 (Hm (n+8*i)) st T M a w->CE P np n i ((ops.toList.map (B5 P ops)).drop i) st tr K->wpOps P ops Q (List.range' i k) a w
 | 0,i,st,tr,T,M,a,w,hi,hd,ok,h=>by
   have e:(ops.toList.map (B5 P ops)).drop i=[]:=by rw[List.drop_eq_nil_iff];simp;omega
   rw[e] at h;obtain rfl:i=ops.size:=by omega
   exact hQ st tr T M a w h ok
 | k+1,i,st,tr,T,M,a,w,hi,hd,ok,h=>by
   have h3:i<ops.size:=by omega
   have e:(ops.toList.map (B5 P ops)).drop i=B5 P ops ops[i]::(ops.toList.map (B5 P ops)).drop (i+1):=by
    rw[QP (by simpa using h3)]
    simp
   rw[e] at h;have ho:ops[i]? = some ops[i]:=Array.getElem?_eq_getElem h3;have h7:=hd _ (Array.getElem_mem h3);rw[List.range'_succ,wpOps_cons];simp only[wpOp,ho]
   have run:(aK P np (n+8*i) (BA P ops[i]).1 ((BA P ops[i]).2.map (·.ev st.get)) st.hp λ v rd up=>CE P np n (i+1) ((ops.toList.map (B5 P ops)).drop (i+1)) ((st.put ops[i].dst v).upd up) (tr++[(rd,up.map (·.1))]) K) ->
     ops[i].wp P a w (wpOps P ops Q (List.range' (i+1) k)) Q:=by
    intro hk;obtain⟨v,rd,up,h1,h2⟩:=SP ok.tm ok.mem (idb:=n+8*i) (λ q hq hl=>by have:n+8*i+q<n+8*i:=hl;omega) (by omega) ops[i] _ hk
    refine Vv ok h7 h2 λ T' M' a' w' ok'=>?_;refine PE h6 hQ k (i+1) _ _ T' M' a' w' (by omega) (λ o ho=>?_) (ok'.wider λ j hj=>?_) h1
    .show o.dst.all (· < (st.put _ _).sz)=true
     rw[St.sz_put];exact hd o ho
    .rcases hj with hj | hj
     .have:j<n+8*i:=hj
      show j<n+8*(i+1);omega
     .show j<n+8*(i+1)
      omega
   simp only[CE] at h;obtain⟨h0,hc⟩:=MV (P:=P) (ops:=ops) (o:=ops[i]);rcases hc with ⟨g1,g2,g3,g4⟩ | ⟨j,want,d,g1,g2,g3,g4,g5⟩ | ⟨g1,g2,g3⟩
   .rw [g2] at h
    simp only[g3,g4,h0] at h;have h4:Region.wanted ops[i] (yielded ops a.tmps)=true:=by simp[Region.wanted,g1]
    rw[if_pos h4];exact .inl (run h)
   .rw [g3] at h
    simp only[g4,g5,h0] at h;obtain⟨b,hb,h⟩:=h;have h4:=Td ok.tm g1 g2 hb;rw[h4]
    by_cases h5:b=some want
    .subst h5
     simp only[UY,beq_self_eq_true] at h ⊢;exact .inl (run h)
    .rw [if_neg h5] at h
     rw[if_neg (by simpa using h5)]
     refine PE h6 hQ k (i+1) (st.put ops[i].dst (.tup [])) _ T M (a.put ops[i].dst undef) w (by omega) (λ o ho=>by rw[St.sz_put];exact hd o ho) ?_ h
     refine⟨by rw[zoH,St.sz_put];exact ok.sz,by rw[Oz];exact ok.df,PW ok.sz ok.tm h7 (.tup _ [] #[] rfl (λ i hi=>by simp at hi)),?_,λ id g hg=>?_,ok.after⟩
     .have e:(st.put ops[i].dst (.tup [])).hp=st.hp:=by funext q;rw[St.hp_put]
      rw[e];exact ok.hs
     .have:id<n+8*i:=ok.dom id g hg
      show id<n+8*(i+1);omega
   .rw [g1] at h
    simp only[g2,g3] at h;exact False.elim h
end
variable {x:AV}
theorem P2 {α β:Type} {f g:α->Option β}:∀ {l:List α},(∀ x∈l,f x=g x)->l.filterMap f=l.filterMap g
 | [],_=>rfl
 | x::l,h=>by
   rw[U2,U2,h x Qn,P2 λ y hy=>h y (Ql _ hy)]
section
variable {P:Program} {np id:Nat} {op:F3} {xs:List AV} {h:Nat->Option AQ}
theorem zrW {K:AV->List Nat->List (Nat × Option AQ)->Prop} (hk:aK P np id op xs h K) :
  ∃ v rd up,K v rd up/\aK P np id op xs h λ v' rd' up'=>v'=v/\rd'=rd/\up'=up:=by
 by_cases h0:∃ s b x y,op = .app s b/\xs=[x,y]/\¬ ∃ i o l c,x=AV.rk i o l c
 .obtain ⟨s,b,x,y,rfl,rfl,hx⟩:=h0
  simp only[LU hx] at hk ⊢;obtain⟨a,b,c,d,e,f,hk⟩:=hk;exact⟨_,_,_,hk,a,b,c,d,e,f,rfl,rfl,rfl⟩
 unfold aK at hk ⊢;split at hk
 all_goals first
  | exact False.elim hk
  | exact⟨_,_,_,hk,rfl,rfl,rfl⟩
  | (exfalso;exact h0 ⟨_,_,_,_,rfl,rfl,λ ⟨_,_,_,_,e⟩=>by subst e;simp_all⟩)
  | (obtain⟨a,b,c,d,e,f,g,i,j,hk⟩:=hk
     split at hk
     .rename_i hc
      exact⟨_,_,_,hk,a,b,c,d,e,f,g,i,j,by rw[if_pos hc];exact⟨rfl,rfl,rfl⟩⟩
     .rename_i hc
      exact⟨_,_,_,hk,a,b,c,d,e,f,g,i,j,by rw[if_neg hc];exact⟨rfl,rfl,rfl⟩⟩)
  | (obtain⟨a,b,hk⟩:=hk;exact⟨_,_,_,hk,a,b,rfl,rfl,rfl⟩)
  | (obtain⟨a,hk⟩:=hk;exact⟨_,_,_,hk,a,rfl,rfl,rfl⟩)
  | (obtain⟨a,b,c,hk⟩:=hk;exact⟨_,_,_,hk,a,b,c,rfl,rfl,rfl⟩)
  | (obtain⟨a,b,c,d,hk⟩:=hk;exact⟨_,_,_,hk,a,b,c,d,rfl,rfl,rfl⟩)
  | (obtain⟨a,b,c,d,e,hk⟩:=hk;exact⟨_,_,_,hk,a,b,c,d,e,rfl,rfl,rfl⟩)
  | (obtain⟨a,b,c,d,e,f,hk⟩:=hk;exact⟨_,_,_,hk,a,b,c,d,e,f,rfl,rfl,rfl⟩)
  | (obtain⟨a,b,c,d,e,f,g,hk⟩:=hk;exact⟨_,_,_,hk,a,b,c,d,e,f,g,rfl,rfl,rfl⟩)
  | (obtain⟨a,b,c,d,e,f,g,i,hk⟩:=hk;exact⟨_,_,_,hk,a,b,c,d,e,f,g,i,rfl,rfl,rfl⟩)
  | (obtain⟨a,b,c,d,e,f,g,i,j,hk⟩:=hk;exact⟨_,_,_,hk,a,b,c,d,e,f,g,i,j,rfl,rfl,rfl⟩)
  | (obtain⟨a,b,c,d,e,f,g,i,j,k,l,m,n,o,p,hk⟩:=hk;exact⟨_,_,_,hk,a,b,c,d,e,f,g,i,j,k,l,m,n,o,p,rfl,rfl,rfl⟩)
  | (obtain⟨a,b,c,d,e,f,g,i,j,k,l,m,n,o,p,q,r,hk⟩:=hk;exact⟨_,_,_,hk,a,b,c,d,e,f,g,i,j,k,l,m,n,o,p,q,r,rfl,rfl,rfl⟩)
  | (obtain⟨l,r,n,a,b,c,d,e,f,g,hk⟩:=hk
     split at hk
     .obtain ⟨i,j,k,hk⟩:=hk;exact⟨_,_,_,hk,l,r,n,a,b,c,d,e,f,g,i,j,k,rfl,rfl,rfl⟩
     .obtain ⟨i,j,k,hk⟩:=hk;exact⟨_,_,_,hk,l,r,n,a,b,c,d,e,f,g,i,j,k,rfl,rfl,rfl⟩
     .obtain ⟨i,j,k,q,hk⟩:=hk;exact⟨_,_,_,hk,l,r,n,a,b,c,d,e,f,g,i,j,k,q,rfl,rfl,rfl⟩
     .obtain ⟨i,j,hk⟩:=hk;exact⟨_,_,_,hk,l,r,n,a,b,c,d,e,f,g,i,j,rfl,rfl,rfl⟩
     .exact False.elim hk)
variable {h':Nat->Option AQ}
theorem dE (hh:∀ i∈CQ x,h' i=h i):Gf h' x=Gf h x:=by
 cases x with
 | pt i j k =>
   simp only[Gf];rw[hh i (by simp[CQ])]
 | _=>rfl
theorem Jq {s:Nat} (hh:∀ i∈CQ x,h' i=h i):C8 s h' x=C8 s h x:=by
 cases x with
 | rs i j k =>
   simp only[C8];rw[hh i (by simp[CQ])]
 | rk i j k c =>
   simp only[C8];rw[hh i (by simp[CQ])]
 | sc k =>
   unfold C8;split<;>first | rfl | (rename_i e;cases e) | simp_all
 | _=>rfl
theorem iD {n:Nat}:CQ (Ec n x)=CQ x:=by cases x<;>rfl
theorem RR {s:Nat} {new:List (List AV)} (hh:∀ i∈CQ x,h' i=h i):Em s h' new x=Em s h new x:=by
 cases x with
 | rs i j k =>
   simp only[Em];rw[hh i (by simp[CQ])]
 | sc k =>
   unfold Em;split<;>first | rfl | (rename_i e;cases e) | simp_all
 | vs s' f rows=>cases f<;>rfl
 | _=>rfl
theorem N2 {sn:List Nat} (hh:∀ i∈sn,h' i=h i):∀ (n:Nat) (ρ:List (Nat × Nat)) (x:AV),conv ρ sn h' n x=conv ρ sn h n x
 | 0,_,_=>rfl
 | n+1,ρ,x=>by
   have ih:=λ ρ=>funext (N2 hh n ρ);have ih':∀ ρ,conv ρ sn h' n=conv ρ sn h n:=ih
   cases x with
   | rs id off len =>
     simp only[conv,ih']
     split
     .rfl
     .split
      .rename_i h0;rw[hh id h0]
      .rfl
   | rk id off len cap =>
     simp only[conv,ih']
     split
     .rfl
     .split
      .rename_i h0;rw[hh id h0]
      .rfl
   | pt id i j =>
     simp only[conv,ih']
     split
     .rfl
     .split
      .rename_i h0;rw[hh id h0]
      .rfl
   | _=>simp only[conv,ih']
theorem gK {v:AV} {rd:List Nat} {up:List (Nat × Option AQ)} (hk:aK P np id op xs h λ v' rd' up'=>v'=v/\rd'=rd/\up'=up) (hh:∀ i∈rd,h' i=h i) :
  aK P np id op xs h' λ v' rd' up'=>v'=v/\rd'=rd/\up'=up:=by
 by_cases hb:∃ s b x y,op = .app s b/\xs=[x,y]/\¬ ∃ i o l c,x=AV.rk i o l c
 .obtain ⟨s,b,x,y,rfl,rfl,hx⟩:=hb
  simp only[LU hx] at hk ⊢;obtain⟨new,old,h1,h2,h3,h4,rfl,rfl,rfl⟩:=hk;exact⟨new,old,by rw[Jq λ i hi=>hh i (UH _ hi)];exact h1,by rw[RR λ i hi=>hh i (Q0 _ hi)];exact h2,h3,h4,rfl,rfl,rfl⟩
 unfold aK at hk ⊢;split at hk
 all_goals try exact hk
 .
  obtain⟨cs,h1,h2,rfl,rfl,rfl⟩:=hk;exact⟨cs,by rw[dE hh];exact h1,h2,rfl,rfl,rfl⟩
 .obtain ⟨e,row,cs,h1,h2,h3,h4,h5,h6,rfl,rfl,rfl⟩:=hk
  exact⟨e,row,cs,by rw[hh _ (by simp)];exact h1,h2,h3,h4,h5,h6,rfl,rfl,rfl⟩
 .obtain ⟨rows,bs,h1,h2,rfl,rfl,rfl⟩:=hk
  exact⟨rows,bs,by rw[Jq hh];exact h1,h2,rfl,rfl,rfl⟩
 .obtain ⟨l,r,n,a,b,c,d,e,f,g,hk⟩:=hk
  refine⟨l,r,n,a,b,c,d,e,f,g,?_⟩;split at hk
  .exact hk
  .obtain ⟨h0,h1,⟨en,h2,h3⟩,rfl,rfl,rfl⟩:=hk
   exact⟨h0,h1,⟨en,by rw[hh _ (by simp)];exact h2,h3⟩,rfl,rfl,rfl⟩
  .obtain ⟨h0,h1,h4,⟨en,h2,h3⟩,rfl,rfl,rfl⟩:=hk
   exact⟨h0,h1,h4,⟨en,by rw[hh _ (by simp)];exact h2,h3⟩,rfl,rfl,rfl⟩
  .exact hk
  .exact False.elim hk
 .obtain ⟨h1,h2,⟨en,h3,h4⟩,rfl,rfl,rfl⟩:=hk
  exact⟨h1,h2,⟨en,by rw[hh _ (by simp)];exact h3,h4⟩,rfl,rfl,rfl⟩
 .obtain ⟨ids,sn,raise,aA,hs,res,aE,q1,q2,q3,q4,q5,q6,q7,q8,rfl,rfl,rfl⟩:=hk
  have h9:∀ i∈sn,h' i=h i:=λ i hi=>hh i (UH _ hi);have hid:∀ i∈ids,h' i=h i:=λ i hi=>hh i (Q0 _ hi);have ha:∀ n ρ,conv ρ sn h' n=conv ρ sn h n:=λ n ρ=>funext (N2 h9 n ρ)
  refine⟨ids,sn,raise,aA,hs,res,aE,q1,q2,q3,by rw[ha];exact q4,?_,q6,q7,q8,rfl,rfl,?_⟩
  .rw [<- q5]
   refine QF λ i hi=>?_;rw[hid i hi];have:Ab ids.zipIdx sn h' 4=Ab ids.zipIdx sn h 4:=by funext e;simp only[Ab,ha]
   rw[this]
  .congr 1
   split
   .refine P2 λ i hi=>?_
    rw[h9 i hi]
   .rfl
 .obtain ⟨new,e,h1,h2,h3,h4,h5,h6,h7,hk⟩:=hk
  have hd:∀ i∈rd,h' i=h i:=hh;split at hk<;>rename_i hc<;>obtain⟨rfl,rfl,rfl⟩:=hk
  .exact ⟨new,e,by rw[Jq λ i hi=>hh i (Ql _ hi)];exact h1,by rw[hh _ (Qn)];exact h2,h3,h4,h5,h6,h7,by rw[if_pos hc];exact⟨rfl,rfl,rfl⟩⟩
  .exact ⟨new,e,by rw[Jq λ i hi=>hh i (Ql _ hi)];exact h1,by rw[hh _ (Qn)];exact h2,h3,h4,h5,h6,h7,by rw[if_neg hc];exact⟨rfl,rfl,rfl⟩⟩
 .exfalso;exact hb ⟨_,_,_,_,rfl,rfl,λ ⟨_,_,_,_,e⟩=>by subst e;simp_all⟩
 .obtain ⟨old,h2,h3,rfl,rfl,rfl⟩:=hk
  exact⟨old,by rw[RR hh];exact h2,h3,rfl,rfl,rfl⟩
 .obtain ⟨e,h1,h2,h3,h4,h5,h6,h7,h8,rfl,rfl,rfl⟩:=hk
  exact⟨e,by rw[hh _ (by simp)];exact h1,h2,h3,h4,h5,h6,h7,h8,rfl,rfl,rfl⟩
 .obtain ⟨e,new,h1,h2,h3,h4,h5,rfl,rfl,rfl⟩:=hk
  exact⟨e,new,by rw[hh _ (Qn)];exact h1,h2,h3,h4,by rw[Jq λ i hi=>hh i (Ql _ hi)];exact h5,rfl,rfl,rfl⟩
 .obtain ⟨e,new,m,h1,h2,h3,h4,h5,h6,rfl,rfl,rfl⟩:=hk
  exact⟨e,new,m,by rw[hh _ (Qn)];exact h1,h2,h3,h4,h5,by rw[Jq λ i hi=>hh i (Ql _ (by rw[iD] at hi;exact hi))];exact h6,rfl,rfl,rfl⟩
 .obtain ⟨e,h1,h2,h3,h4,h5,rfl,rfl,rfl⟩:=hk
  exact⟨e,by rw[hh _ (Qn)];exact h1,h2,h3,h4,h5,rfl,rfl,rfl⟩
 .obtain ⟨e,h1,h2,h3,h4,rfl,rfl,rfl⟩:=hk
  exact⟨e,by rw[hh _ (Qn)];exact h1,h2,h3,h4,rfl,rfl,rfl⟩
 .obtain ⟨e,h1,h2,h3,h4,h5,rfl,rfl,rfl⟩:=hk
  exact⟨e,by rw[hh _ (Qn)];exact h1,h2,h3,h4,h5,rfl,rfl,rfl⟩
 .obtain ⟨f,ids,sn,raise,aA,hs,res,aE,q0,q1,q2,q3,q4,q5,q6,q7,q8,rfl,rfl,rfl⟩:=hk
  have h9:∀ i∈sn,h' i=h i:=λ i hi=>hh i (UH _ hi);have hid:∀ i∈ids,h' i=h i:=λ i hi=>hh i (Q0 _ hi);have ha:∀ n ρ,conv ρ sn h' n=conv ρ sn h n:=λ n ρ=>funext (N2 h9 n ρ)
  refine⟨f,ids,sn,raise,aA,hs,res,aE,q0,q1,q2,q3,by rw[ha];exact q4,?_,q6,q7,q8,rfl,rfl,?_⟩
  .rw [<- q5]
   refine QF λ i hi=>?_;rw[hid i hi];have:Ab ids.zipIdx sn h' 4=Ab ids.zipIdx sn h 4:=by funext e;simp only[Ab,ha]
   rw[this]
  .congr 1
   split
   .refine P2 λ i hi=>?_
    rw[h9 i hi]
   .rfl
 .obtain ⟨e,h1,h2,rfl,rfl,rfl⟩:=hk
  exact⟨e,by rw[hh _ (Qn)];exact h1,h2,rfl,rfl,rfl⟩
 .obtain ⟨e,h1,h2,rfl,rfl,rfl⟩:=hk
  exact⟨e,by rw[hh _ (Qn)];exact h1,h2,rfl,rfl,rfl⟩
 .obtain ⟨e,h1,h2,rfl,rfl,rfl⟩:=hk
  exact⟨e,by rw[hh _ (Qn)];exact h1,h2,rfl,rfl,rfl⟩
end
structure CZ where
 dst:Option Nat
 v:AV
 rd:List Nat
 up:List (Nat × Option AQ)
def St.app (st:St) (x:CZ):St:=(st.put x.dst x.v).upd x.up
def St.some (D:Nat->Bool):Nat->List CZ->St->St
 | _,[],st=>st
 | i,x::xs,st=>St.some D (i+1) xs (if D i then st.app x else st)
theorem St.app_sz (st:St) (x:CZ):(st.app x).sz=st.sz:=St.sz_put _ _ _
theorem St.some_sz (D:Nat->Bool):∀ (xs:List CZ) (i:Nat) (st:St),(St.some D i xs st).sz=st.sz
 | [],_,_=>rfl
 | x::xs,i,st=>by
   rw[St.some,St.some_sz D xs];split
   .exact St.app_sz _ _
   .rfl
theorem St.get_app (st:St) (x:CZ) (j:Nat):(st.app x).get j=if x.dst=Option.some j then x.v else st.get j:=by
 unfold St.app;rw[St.get_upd]
 cases h:x.dst with
 | none=>simp[St.put]
 | some d =>
   rw[St.get_put];simp
theorem St.hp_app (st:St) (x:CZ) (j:Nat):(st.app x).hp j=(AW x.up j).elim (st.hp j) id:=by
 unfold St.app;rw[St.hp_upd,St.hp_put]
theorem St.some_get_congr (D D':Nat->Bool) (j:Nat):∀ (xs:List CZ) (i:Nat) (st st':St),(∀ k x,xs[k]? = Option.some x->x.dst=Option.some j->D (i+k)=D' (i+k))->st.get j=st'.get j ->
  (St.some D i xs st).get j=(St.some D' i xs st').get j
 | [],_,_,_,_,h=>h
 | x::xs,i,st,st',hk,h=>by
   rw[St.some,St.some];refine St.some_get_congr D D' j xs (i+1) _ _ (λ k y hy hd=>by have:=hk (k+1) y (by simpa using hy) hd;rwa [show i+(k+1)=i+1+k by omega] at this) ?_
   by_cases hx:x.dst=Option.some j
   .have:=hk 0 x rfl hx
    rw[Ua] at this;rw[this];split
    .rw [St.get_app,St.get_app,if_pos hx,if_pos hx]
    .exact h
   .have e:∀ s:St,∀ b:Bool,(if b then s.app x else s).get j=s.get j:=by
     intro s b
     cases b
     .rfl
     .simp [St.get_app,hx]
    rw[e,e];exact h
theorem St.some_hp_congr (D D':Nat->Bool) (j:Nat):∀ (xs:List CZ) (i:Nat) (st st':St),(∀ k x,xs[k]? = Option.some x->AW x.up j≠none->D (i+k)=D' (i+k))->st.hp j=st'.hp j ->
  (St.some D i xs st).hp j=(St.some D' i xs st').hp j
 | [],_,_,_,_,h=>h
 | x::xs,i,st,st',hk,h=>by
   rw[St.some,St.some];refine St.some_hp_congr D D' j xs (i+1) _ _ (λ k y hy hd=>by have:=hk (k+1) y (by simpa using hy) hd;rwa [show i+(k+1)=i+1+k by omega] at this) ?_
   by_cases hx:AW x.up j=none
   .have e:∀ s:St,∀ b:Bool,(if b then s.app x else s).hp j=s.hp j:=by
     intro s b
     cases b
     .rfl
     .simp [St.hp_app,hx]
    rw[e,e];exact h
   .have:=hk 0 x rfl hx
    rw[Ua] at this;rw[this];split
    .rw [St.hp_app,St.hp_app]
     cases hl:AW x.up j with
     | none=>exact absurd hl hx
     | some r=>rfl
    .exact h
theorem St.some_get_last (D:Nat->Bool) (j:Nat):∀ (xs:List CZ) (i:Nat) (st:St) (k:Nat) (x:CZ),xs[k]? = Option.some x->x.dst=Option.some j->D (i+k)=true ->
  (∀ k' y,k<k'->xs[k']? = Option.some y->y.dst=Option.some j->D (i+k')=false)->(St.some D i xs st).get j=x.v
 | [],_,_,_,_,h,_,_,_=>by simp at h
 | y::xs,i,st,0,x,h,hd,hD,h0=>by
   obtain rfl:y=x:=by simpa using h
   rw[St.some];rw[St.some_get_congr D (λ _=>false) j xs (i+1) _ (st.app y) (λ k z hz h1=>by have:=h0 (k+1) z (by omega) (by simpa using hz) h1;rwa [show i+(k+1)=i+1+k by omega] at this) (by rw[Ua] at hD;rw[if_pos hD])]
   have:∀ (xs:List CZ) (i:Nat) (s:St),St.some (λ _=>false) i xs s=s:=by
    intro xs
    induction xs with
    | nil=>intro i s;rfl
    | cons z zs ih=>intro i s;rw[St.some];exact ih _ _
   rw[this,St.get_app,if_pos hd]
 | y::xs,i,st,k+1,x,h,hd,hD,h0=>by
   rw[St.some]
   exact St.some_get_last D j xs (i+1) _ k x (by simpa using h) hd (by rwa [show i+1+k=i+(k+1) by omega]) λ k' z h2 hz h1=>by
    have:=h0 (k'+1) z (by omega) (by simpa using hz) h1
    rwa [show i+(k'+1)=i+1+k' by omega] at this
theorem St.some_false:∀ (xs:List CZ) (i:Nat) (s:St),St.some (λ _=>false) i xs s=s
 | [],_,_=>rfl
 | _::zs,i,s=>by rw[St.some];exact St.some_false zs _ _
theorem St.some_hp_last (D:Nat->Bool) (j:Nat):∀ (xs:List CZ) (i:Nat) (st:St) (k:Nat) (x:CZ) (r:Option AQ),xs[k]? = Option.some x->AW x.up j=Option.some r->D (i+k)=true ->
  (∀ k' y,k<k'->xs[k']? = Option.some y->AW y.up j≠none->D (i+k')=false)->(St.some D i xs st).hp j=r
 | [],_,_,_,_,_,h,_,_,_=>by simp at h
 | y::xs,i,st,0,x,r,h,hd,hD,h0=>by
   obtain rfl:y=x:=by simpa using h
   rw[St.some];rw[St.some_hp_congr D (λ _=>false) j xs (i+1) _ (st.app y) (λ k z hz h1=>by have:=h0 (k+1) z (by omega) (by simpa using hz) h1;rwa [show i+(k+1)=i+1+k by omega] at this) (by rw[Ua] at hD;rw[if_pos hD])]
   rw[St.some_false,St.hp_app,hd];rfl
 | y::xs,i,st,k+1,x,r,h,hd,hD,h0=>by
   rw[St.some]
   exact St.some_hp_last D j xs (i+1) _ k x r (by simpa using h) hd (by rwa [show i+1+k=i+(k+1) by omega]) λ k' z h2 hz h1=>by
    have:=h0 (k'+1) z (by omega) (by simpa using hz) h1
    rwa [show i+(k'+1)=i+1+k' by omega] at this
theorem St.some_take (k:Nat):∀ (xs:List CZ) (i:Nat) (s:St),St.some (λ j=>decide (j<k)) i xs s=St.some (λ _=>true) i (xs.take (k - i)) s
 | [],i,s=>by simp[St.some]
 | x::xs,i,s=>by
   by_cases h:i<k
   .rw [show k - i=(k - (i+1))+1 by omega,List.take_succ_cons,St.some,St.some,St.some_take k xs (i+1)]
    simp[h]
   .rw [show k - i=0 by omega,List.take_zero,St.some,St.some]
    have e:(if decide (i<k)=true then s.app x else s)=s:=by simp[h]
    rw[e,St.some_take k xs (i+1),show k - (i+1)=0 by omega,List.take_zero]
    rfl
inductive Reach (after:List (List Nat)):Nat->Nat->Prop where
 | one (i j:Nat) (h:i∈after.getD j []):Reach after i j
 | more (i k j:Nat) (h:Reach after i k) (h':k∈after.getD j []):Reach after i j
theorem SO (acc:List Nat) (q:Nat->Prop):∀ (aS:List Nat) (s:Nat),(∀ i,s.testBit i=true->q i)->(∀ a∈aS,q a /\ ∀ i,(acc.getD a 0).testBit i=true->q i) ->
  ∀ i,(aS.foldl (λ s a=>s ||| (2 ^ a ||| acc.getD a 0)) s).testBit i=true->q i
 | [],s,hs,_,i,h=>hs i h
 | a::aS,s,hs,ha,i,h=>by
   refine SO acc q aS _ (λ i hi=>?_) (λ b hb=>ha b (Ql _ hb)) i h;simp only[Nat.testBit_or,UO,Nat.testBit_two_pow,Qd] at hi;rcases hi with hi | hi | hi
   .exact hs i hi
   .subst hi;exact(ha a Qn).1
   .exact (ha a Qn).2 i hi
theorem TB (after:List (List Nat)):∀ (j i:Nat),((V4 after).getD j 0).testBit i=true->Reach after i j:=by
 have key:∀ (h0 pre:List (List Nat)) (acc:List Nat),after=pre++h0->acc.length=pre.length->(∀ j i,(acc.getD j 0).testBit i=true->Reach after i j) ->
   ∀ j i,((h0.foldl (λ acc aS=>acc++[aS.foldl (λ s a=>s ||| (2 ^ a ||| acc.getD a 0)) 0]) acc).getD j 0).testBit i=true->Reach after i j:=by
  intro h0
  induction h0 with
  | nil=>intro pre acc _ _ h;exact h
  | cons aS h0 ih =>
    intro pre acc he hl h;refine ih (pre++[aS]) _ (by rw[he];simp) (by simp[hl]) λ j i h1=>?_
    by_cases hj:j<acc.length
    .have:(acc++[aS.foldl (λ s a=>s ||| (2 ^ a ||| acc.getD a 0)) 0]).getD j 0=acc.getD j 0:=by simp[List.getD,QJ hj]
     rw[this] at h1;exact h j i h1
    .by_cases h2:j=acc.length
     .subst h2
      have:(acc++[aS.foldl (λ s a=>s ||| (2 ^ a ||| acc.getD a 0)) 0]).getD acc.length 0=aS.foldl (λ s a=>s ||| (2 ^ a ||| acc.getD a 0)) 0:=by simp[List.getD]
      rw[this] at h1;have has:after.getD acc.length []=aS:=by rw[he,hl];simp[List.getD]
      refine SO acc (λ i=>Reach after i acc.length) aS 0 (λ i hi=>by simp at hi) (λ a ha=>⟨.one _ _ (by rw[has];exact ha),λ i hi=>.more _ a _ (h a i hi) (by rw[has];exact ha)⟩) i h1
     .have:(acc++[aS.foldl (λ s a=>s ||| (2 ^ a ||| acc.getD a 0)) 0]).getD j 0=0:=by
       simp only[List.getD];rw[Q4 (by simp;omega)]
       rfl
      rw[this] at h1;simp at h1
 exact key after [] [] rfl rfl λ j i h=>by simp[List.getD] at h
section
variable {P:Program} {np:Nat} {T0:Nat->Nat} {M0:GM} {w0:World}
def Ms (P:Program) (np n i:Nat) (o:Cp) (st:St) (x:CZ):Prop :=
 x.dst=o.dst /\
 match o.guard with
 | none=>aK P np (n+8*i) o.op (o.xs.map (·.ev st.get)) st.hp λ v' rd' up'=>v'=x.v/\rd'=x.rd/\up'=x.up
 | some (g,want)=>∃ b,Ie (st.get g)=some b/\if b=some want then aK P np (n+8*i) o.op (o.xs.map (·.ev st.get)) st.hp (λ v' rd' up'=>v'=x.v/\rd'=x.rd/\up'=x.up) else x.v = .tup []/\x.rd=[]/\x.up=[]
theorem St.some_true (i j:Nat):∀ (xs:List CZ) (s:St),St.some (λ _=>true) i xs s=St.some (λ _=>true) j xs s
 | [],_=>rfl
 | x::xs,s=>by rw[St.some,St.some];exact St.some_true (i+1) (j+1) xs _
theorem Kn {n:Nat} {K:St->List (List Nat × List Nat)->Prop}:∀ (os:List Cp) (i:Nat) (st:St) (tr:List (List Nat × List Nat)),CE P np n i os st tr K ->
  ∃ xs:List CZ,xs.length=os.length/\(∀ (k:Nat) o x,os[k]? = some o->xs[k]? = some x->Ms P np n (i+k) o (St.some (λ _=>true) 0 (xs.take k) st) x) /\
    K (St.some (λ _=>true) 0 xs st) (tr++xs.map λ x=>(x.rd,x.up.map (·.1)))
 | [],i,st,tr,h=>⟨[],rfl,λ k o x h=>by simp at h,by simpa [St.some,CE] using h⟩
 | o::os,i,st,tr,h=>by
   have fin:∀ x:CZ,Ms P np n i o st x->CE P np n (i+1) os (st.app x) (tr++[(x.rd,x.up.map (·.1))]) K ->
     ∃ xs:List CZ,xs.length=(o::os).length/\(∀ (k:Nat) o' x,(o::os)[k]? = some o'->xs[k]? = some x->Ms P np n (i+k) o' (St.some (λ _=>true) 0 (xs.take k) st) x) /\
       K (St.some (λ _=>true) 0 xs st) (tr++xs.map λ x=>(x.rd,x.up.map (·.1))):=by
    intro x hx hk;obtain⟨xs,h1,h2,h3⟩:=Kn os (i+1) _ _ hk;refine⟨x::xs,by simp[h1],λ k o' x' ho h4=>?_,?_⟩
    .cases k with
     | zero =>
       simp at ho h4;subst ho h4;exact hx
     | succ k =>
       have:=h2 k o' x' (by simpa using ho) (by simpa using h4)
       rw[show i+1+k=i+(k+1) by omega] at this
       rw[List.take_succ_cons,St.some,if_pos rfl,St.some_true 1 0];exact this
    .rw [St.some,if_pos rfl,St.some_true 1 0]
     simpa using h3
   simp only[CE] at h
   cases hg:o.guard with
   | none =>
     rw[hg] at h;obtain⟨v,rd,up,h1,h2⟩:=zrW h;exact fin ⟨o.dst,v,rd,up⟩ ⟨rfl,by rw[hg];exact h2⟩ h1
   | some p =>
     obtain⟨g,want⟩:=p;rw[hg] at h;obtain⟨b,hb,h⟩:=h
     by_cases h0:b=some want
     .rw [if_pos h0] at h
      obtain⟨v,rd,up,h1,h2⟩:=zrW h;exact fin ⟨o.dst,v,rd,up⟩ ⟨rfl,by rw[hg];exact⟨b,hb,by rw[if_pos h0];exact h2⟩⟩ h1
     .rw [if_neg h0] at h
      exact fin ⟨o.dst,.tup [],[],[]⟩ ⟨rfl,by rw[hg];exact⟨b,hb,by rw[if_neg h0];exact⟨rfl,rfl,rfl⟩⟩⟩ h
theorem Yb {ops:Array Oper} {n:Nat} (dn:np<=n) {st:St} {Q:Exit->Act->World->Prop} {xs:List CZ} (ds:xs.length=ops.size) (hQ:∀ st' T M a w,(∀ j,st'.get j=(St.some (λ _=>true) 0 xs st).get j)->(∀ j,st'.hp j=(St.some (λ _=>true) 0 xs st).hp j)->st'.sz=st.sz->Ok np T0 M0 w0 (Hm (n+8*ops.size)) st' T M a w->Q .normal a w) (hd:∀ o∈ops,o.dst.all (· < st.sz)=true) (b5:∀ (k:Nat) o x,(ops.toList.map (B5 P ops))[k]? = some o->xs[k]? = some x->Ms P np n k o (St.some (λ _=>true) 0 (xs.take k) st) x) (b6:Hf (ops.toList.map (B5 P ops)) (ops.toList.map λ o=>(o.after.toList.filter (Region.binds .any)).map (·.on)) (xs.map λ x=>(x.rd,x.up.map (·.1)))=true) :
  ∀ (h6:Nat) (h0:Array Bool) (T:Nat->Nat) (M:GM) (a:Act) (w:World),h0.size=ops.size->h0.toList.countP (· == false)<=h6 ->
    (∀ j,h0.getD j false=true -> ∀ i∈(ops.toList.map λ o=>(o.after.toList.filter (Region.binds .any)).map (·.on)).getD j [],h0.getD i false=true) ->
    Ok np T0 M0 w0 (λ id=>id<n ∨ ∃ i,h0.getD i false=true/\n+8*i<=id/\id<n+8*i+8) (St.some (λ i=>h0.getD i false) 0 xs st) T M a w ->
    wpAny P .any ops Q h6 h0 a w:=by
 generalize hA:(ops.toList.map λ o=>(o.after.toList.filter (Region.binds .any)).map (·.on))=after at *
 simp only[Hf,QM,List.all_eq_true,beq_iff_eq,Qr,Uo,Qd,Qy,UO] at b6;obtain⟨⟨dt,c0⟩,a4⟩:=b6
 have hu:∀ j,∀ i∈after.getD j [],i<j:=by
  intro j i hi
  by_cases hj:j<after.length
  .have e:after.getD j []=after[j]:=by simp[List.getD,hj]
   rw[e] at hi;exact c0 (after[j],j) (by rw[U7];exact Qc hj) i hi
  .have e:after.getD j []=[]:=by simp[List.getD,hj]
   rw[e] at hi;simp at hi
 have bf:∀ k (h:k<ops.size),(ops.toList.map (B5 P ops))[k]? = some (B5 P ops ops[k]):=λ k h=>by simp[h]
 have am:∀ i j,i<ops.size->j<ops.size->i≠j->(Reach after i j∨Reach after j i) ∨
   (∀ (hi:i<ops.size) (hj:j<ops.size),Gd (B5 P ops ops[i]) (B5 P ops ops[j]) ((xs.getD i ⟨none,.dead,[],[]⟩).rd,(xs.getD i ⟨none,.dead,[],[]⟩).up.map (·.1)) ((xs.getD j ⟨none,.dead,[],[]⟩).rd,(xs.getD j ⟨none,.dead,[],[]⟩).up.map (·.1))=true ∨
    Gd (B5 P ops ops[j]) (B5 P ops ops[i]) ((xs.getD j ⟨none,.dead,[],[]⟩).rd,(xs.getD j ⟨none,.dead,[],[]⟩).up.map (·.1)) ((xs.getD i ⟨none,.dead,[],[]⟩).rd,(xs.getD i ⟨none,.dead,[],[]⟩).up.map (·.1))=true):=by
  intro i j hi hj cb
  have getx:∀ k,k<ops.size->(xs.map λ x=>(x.rd,x.up.map (·.1))).getD k ([],[])=((xs.getD k ⟨none,.dead,[],[]⟩).rd,(xs.getD k ⟨none,.dead,[],[]⟩).up.map (·.1)):=λ k hk=>by
   have:k<xs.length:=by omega
   simp[List.getD,this]
  have geto:∀ k (hk:k<ops.size),(ops.toList.map (B5 P ops)).getD k default=B5 P ops ops[k]:=λ k hk=>by simp[List.getD,hk]
  rcases Um i j with h | h
  .have:=a4 j hj i h
   rcases this with this | this
   .exact .inl (.inl (TB after j i this))
   .rw [getx i hi,getx j hj,geto i hi,geto j hj] at this
    exact .inr λ _ _=>.inl this
  .have:=a4 i hi j (by omega)
   rcases this with this | this
   .exact .inl (.inr (TB after i j this))
   .rw [getx i hi,getx j hj,geto i hi,geto j hj] at this
    exact .inr λ _ _=>.inr this
 have c1:∀ (k:Nat) x,xs[k]? = some x->xs.getD k ⟨none,.dead,[],[]⟩=x:=λ k x h=>by simp[List.getD,h]
 have h7:∀ (k:Nat) x (hk:k<ops.size),xs[k]? = some x->x.dst=(B5 P ops ops[k]).dst:=λ k x hk h=>(b5 k _ x (bf k hk) h).1;have a2:∀ (o:Oper),(B5 P ops o).dst=o.dst:=λ o=>MV.1;intro h6
 induction h6 with
 | zero =>
   intro h0 T M a w cd an h5 ok
   have hf:∀ i,i<ops.size->h0.getD i false=true:=by
    intro i hi
    cases hb:h0.getD i false with
    | true=>rfl
    | false =>
      have:0<h0.toList.countP (· == false):=by
       rw[List.countP_pos_iff];refine⟨false,?_,rfl⟩;have hi':i<h0.size:=by omega
       have:h0[i]=false:=by simpa [Array.getD,hi'] using hb
       rw[<- this];simp
      omega
   refine⟨?_,?_⟩
   .simp only[Region.ready,List.filter_eq_nil_iff,Qy]
    intro i hi;have h1:=hf i hi;have hi':i<h0.size:=by omega
    have h2:h0.getD i true=true:=by
     simp only[Array.getD,hi',dite_true] at h1 ⊢;exact h1
    rw[h2];simp
   .refine hQ _ T M a w (λ j=>?_) (λ j=>?_) (St.some_sz _ _ _ _) (ok.wider λ id hid=>?_)
    .refine St.some_get_congr _ _ j xs 0 st st (λ k x hk hx=>?_) rfl
     have:=(Qz.1 hk).1;rw[Q1];exact hf k (by omega)
    .refine St.some_hp_congr _ _ j xs 0 st st (λ k x hk hx=>?_) rfl
     have:=(Qz.1 hk).1;rw[Q1];exact hf k (by omega)
    .show id<n+8*ops.size
     rcases hid with hid | ⟨i,h1,h2,h3⟩
     .omega
     .have:i<ops.size:=by
       rcases Um i ops.size with h | h
       .exact h
       .have:h0.getD i false=false:=by simp[Array.getD,show ¬ i<h0.size by omega]
        rw[this] at h1;cases h1
      omega
 | succ h6 ih =>
   intro h0 T M a w cd an h5 ok;refine⟨λ au=>?_,λ k hk=>?_⟩
   .
    have hf:∀ i,i<ops.size->h0.getD i false=true:=by
     intro i
     induction i using Nat.strongRecOn with
     | _ i ihi =>
       intro hi
       cases hb:h0.getD i false with
       | true=>rfl
       | false =>
         exfalso
         have hi':i<h0.size:=by omega
         have cp:h0[i]=false:=by simpa [Array.getD,hi'] using hb
         have:i∈Region.ready .any ops h0:=by
          simp only[Region.ready,Qx,Qy,QM,UF];refine⟨hi,by simp[Array.getD,hi',cp],?_⟩
          rw[Array.getElem?_eq_getElem hi];simp only[Q8,QB,Array.all_eq_true_iff_forall_mem];intro e he
          by_cases hb:Region.binds .any e=true
          .have a1:e.on∈after.getD i []:=by
            rw[<- hA];have:(ops.toList.map λ o=>(o.after.toList.filter (Region.binds .any)).map (·.on)).getD i []=(ops[i].after.toList.filter (Region.binds .any)).map (·.on):=by simp[List.getD,hi]
            rw[this];exact Qi.2 ⟨e,Qx.2 ⟨by simpa using he,hb⟩,rfl⟩
           have a3:=hu i _ a1;simp[ihi _ a3 (by omega)]
          .simp [hb]
         rw[au] at this;simp at this
    refine hQ _ T M a w (λ j=>?_) (λ j=>?_) (St.some_sz _ _ _ _) (ok.wider λ id hid=>?_)
    .refine St.some_get_congr _ _ j xs 0 st st (λ k x hk hx=>?_) rfl
     have:=(Qz.1 hk).1;rw[Q1];exact hf k (by omega)
    .refine St.some_hp_congr _ _ j xs 0 st st (λ k x hk hx=>?_) rfl
     have:=(Qz.1 hk).1;rw[Q1];exact hf k (by omega)
    .show id<n+8*ops.size
     rcases hid with hid | ⟨i,h1,h2,h3⟩
     .omega
     .have:i<ops.size:=by
       rcases Um i ops.size with h | h
       .exact h
       .have:h0.getD i false=false:=by simp[Array.getD,show ¬ i<h0.size by omega]
        rw[this] at h1;cases h1
      omega
   .
    simp only[Region.ready,Qx,Qy,QM,UF] at hk;obtain⟨ha,cq,c2⟩:=hk;have a5:k<h0.size:=by omega
    have bo:h0[k]=false:=by simpa [Array.getD,a5] using cq
    have a6:h0.getD k false=false:=by simp[Array.getD,a5,bo]
    rw[Array.getElem?_eq_getElem ha] at c2;simp only[Q8,QB,Array.all_eq_true_iff_forall_mem] at c2
    have hv:∀ i∈after.getD k [],h0.getD i false=true:=by
     intro i hi;rw[<- hA] at hi;have e:(ops.toList.map λ o=>(o.after.toList.filter (Region.binds .any)).map (·.on)).getD k []=(ops[k].after.toList.filter (Region.binds .any)).map (·.on):=by simp[List.getD,ha]
     rw[e] at hi;obtain⟨ed,h1,rfl⟩:=Qi.1 hi;obtain⟨h2,h3⟩:=Qx.1 h1;have:=c2 ed (by simpa using h2)
     simpa [h3] using this
    have hz:∀ i j,Reach after i j->(h0.getD j false=true∨j=k)->h0.getD i false=true:=by
     intro i j hr
     induction hr with
     | one j h =>
       rintro(h1 | rfl)
       .exact h5 j h1 i h
       .exact hv i h
     | more m j h1 h2 ihr =>
       rintro(h3 | rfl)
       .exact ihr (.inl (h5 j h3 m h2))
       .exact ihr (.inl (hv m h2))
    have a7:∀ j,Reach after k j->h0.getD j false=false:=by
     intro j hr
     cases hb:h0.getD j false with
     | false=>rfl
     | true=>rw[hz k j hr (.inl hb)] at a6;cases a6
    have hh:∀ i j,Reach after i j->i<j:=by
     intro i j hr
     induction hr with
     | one j h=>exact hu j i h
     | more m j h1 h2 ihr=>have:=hu j m h2;omega
    have a0:∀ i x,i≠k->xs[i]? = some x->(∀ hi:i<ops.size,Gd (B5 P ops ops[i]) (B5 P ops ops[k]) (x.rd,x.up.map (·.1)) ((xs.getD k ⟨none,.dead,[],[]⟩).rd,(xs.getD k ⟨none,.dead,[],[]⟩).up.map (·.1))=false /\
      Gd (B5 P ops ops[k]) (B5 P ops ops[i]) ((xs.getD k ⟨none,.dead,[],[]⟩).rd,(xs.getD k ⟨none,.dead,[],[]⟩).up.map (·.1)) (x.rd,x.up.map (·.1))=false)->h0.getD i false=decide (i<k):=by
     intro i x cb hx d0;have hi:i<ops.size:=by have:=(Qz.1 hx).1;omega
     obtain⟨p1,p2⟩:=d0 hi;rcases am i k hi ha cb with (h | h) | h
     .have a3:=hh _ _ h
      rw[hz i k h (.inr rfl)];simp[a3]
     .have a3:=hh _ _ h
      rw[a7 i h];simp;omega
     .rcases h hi ha with h | h
      .rw [c1 i x hx] at h;rw[h] at p1;cases p1
      .rw [c1 i x hx] at h;rw[h] at p2;cases p2
    obtain⟨xk,hw⟩:∃ xk,xs[k]? = some xk:=⟨_,Qc (by omega)⟩
    have ck:=c1 k xk hw;have hO:=b5 k _ xk (bf k ha) hw;rw[ck] at a0
    have av:∀ t,t∈(B5 P ops ops[k]).names->(St.some (λ i=>h0.getD i false) 0 xs st).get t=(St.some (λ _=>true) 0 (xs.take k) st).get t∨(B5 P ops ops[k]).dst=some t/\False ∨
      (St.some (λ i=>h0.getD i false) 0 xs st).get t=(St.some (λ _=>true) 0 (xs.take k) st).get t:=by
     intro t ht
     left
     have e:=St.some_take k xs 0 st;rw[Nat.sub_zero] at e;rw[<- e];refine St.some_get_congr _ _ t xs 0 st st (λ i x hx a8=>?_) rfl;rw[Q1]
     by_cases hy:i=k
     .subst hy;rw[a6];simp
     .refine a0 i x hy hx λ hi=>?_
      have a9:(B5 P ops ops[i]).dst=some t:=by rw[<- h7 i x hi hx];exact a8
      constructor
      .simp [Gd,a9,ht]
      .simp [Gd,a9,ht]
    have ad:∀ t,t∈(B5 P ops ops[k]).names->(St.some (λ i=>h0.getD i false) 0 xs st).get t=(St.some (λ _=>true) 0 (xs.take k) st).get t:=λ t ht=>by
     rcases av t ht with h | h | h
     .exact h
     .exact h.2.elim
     .exact h
    have b1:∀ id∈xk.rd,(St.some (λ i=>h0.getD i false) 0 xs st).hp id=(St.some (λ _=>true) 0 (xs.take k) st).hp id:=by
     intro id hid;have e:=St.some_take k xs 0 st;rw[Nat.sub_zero] at e;rw[<- e];refine St.some_hp_congr _ _ id xs 0 st st (λ i x hx ag=>?_) rfl;rw[Q1]
     by_cases hy:i=k
     .subst hy;rw[a6];simp
     .refine a0 i x hy hx λ hi=>?_
      have a1:id∈x.up.map (·.1):=by
       cases hl:AW x.up id with
       | none=>exact absurd hl ag
       | some r=>exact Qi.2 ⟨_,D1 hl,rfl⟩
      constructor
      .have:H4 (x.rd,x.up.map (·.1)) (xk.rd,xk.up.map (·.1))=true:=by
        simp only[H4,UO,Ui];exact .inl ⟨id,a1,.inl (by simpa using hid)⟩
       simp[Gd,this]
      .have:H4 (xk.rd,xk.up.map (·.1)) (x.rd,x.up.map (·.1))=true:=by
        simp only[H4,UO,Ui];exact .inr ⟨id,hid,by simpa using a1⟩
       simp[Gd,this]
    have h4:∀ i,(h0.setIfInBounds k true).getD i false=if i=k then true else h0.getD i false:=by
     intro i
     by_cases hy:i=k
     .subst hy;simp[Array.getD,a5]
     .rw [if_neg hy]
      simp only[QE];rw[Array.getElem?_setIfInBounds_ne (Ne.symm hy)]
    have ai:∀ T' M' a' w',Ok np T0 M0 w0 (λ id=>(id<n ∨ ∃ i,h0.getD i false=true/\n+8*i<=id/\id<n+8*i+8)∨(n+8*k<=id/\id<n+8*k+8)) ((St.some (λ i=>h0.getD i false) 0 xs st).app xk) T' M' a' w' ->
      wpAny P .any ops Q h6 (h0.setIfInBounds k true) a' w':=by
     intro T' M' a' w' ok';refine ih (h0.setIfInBounds k true) T' M' a' w' (by simpa using cd) ?_ (λ j hj i hi=>?_) ?_
     .rw [Array.toList_setIfInBounds,List.countP_set (by simpa using a5)]
      have:h0.toList[k]'(by simpa using a5)=false:=by simpa using bo
      rw[this];show h0.toList.countP (· == false) - 1+0<=h6
      omega
     .rw [h4] at hj ⊢
      split
      .rfl
      .split at hj
       .rename_i d1;subst d1;exact hv i hi
       .exact h5 j hj i hi
     .refine (ok'.ext (St.some_sz _ _ _ _ |>.trans (St.app_sz _ _ |>.trans (St.some_sz _ _ _ _)).symm) (λ t=>?_) (λ id=>?_)).wider λ id hid=>?_
      .rw [St.get_app]
       split
       .rename_i b2
        refine St.some_get_last _ t xs 0 st k xk hw b2 (by rw[Q1,h4,if_pos rfl]) λ i x a3 hx a8=>?_
        rw[Q1,h4,if_neg (by omega)]
        have b3:(B5 P ops ops[k]).dst=some t:=by rw[<- h7 k xk ha hw];exact b2
        have:=a0 i x (by omega) hx λ hi=>by
         have a9:(B5 P ops ops[i]).dst=some t:=by rw[<- h7 i x hi hx];exact a8
         have bs:t∈(B5 P ops ops[k]).names:=by simp[Cp.names,b3]
         constructor
         .simp [Gd,a9,bs]
         .simp [Gd,a9,bs]
        rw[this];simp;omega
       .rename_i b2
        refine St.some_get_congr _ _ t xs 0 st st (λ i x hx a8=>?_) rfl;rw[Q1,h4,if_neg]
        rintro rfl
        rw[hw] at hx
        cases hx;exact b2 a8
      .rw [St.hp_app]
       cases hl:AW xk.up id with
       | some r =>
         refine St.some_hp_last _ id xs 0 st k xk r hw hl (by rw[Q1,h4,if_pos rfl]) λ i x a3 hx ag=>?_
         rw[Q1,h4,if_neg (by omega)]
         have a1:id∈x.up.map (·.1):=by
          cases hl:AW x.up id with
          | none=>exact absurd hl ag
          | some r=>exact Qi.2 ⟨_,D1 hl,rfl⟩
         have bt:id∈xk.up.map (·.1):=Qi.2 ⟨_,D1 hl,rfl⟩
         have:=a0 i x (by omega) hx λ hi=>by
          constructor
          .have:H4 (x.rd,x.up.map (·.1)) (xk.rd,xk.up.map (·.1))=true:=by
            simp only[H4,UO,Ui];exact .inl ⟨id,a1,.inr (by simpa using bt)⟩
           simp[Gd,this]
          .have:H4 (xk.rd,xk.up.map (·.1)) (x.rd,x.up.map (·.1))=true:=by
            simp only[H4,UO,Ui];exact .inl ⟨id,bt,.inr (by simpa using a1)⟩
           simp[Gd,this]
         rw[this];simp;omega
       | none =>
         refine St.some_hp_congr _ _ id xs 0 st st (λ i x hx ag=>?_) rfl;rw[Q1,h4,if_neg]
         rintro rfl
         rw[hw] at hx
         cases hx;exact ag hl
      .rcases hid with (hid | ⟨i,h1,h2⟩) | hid
       .exact .inl hid
       .refine .inr ⟨i,?_,h2⟩
        rw[h4];split
        .rfl
        .exact h1
       .exact .inr ⟨k,by rw[h4,if_pos rfl],hid⟩
    have b4:∀ q,q<8->¬ (n+8*k+q<n ∨ ∃ i,h0.getD i false=true/\n+8*i<=n+8*k+q/\n+8*k+q<n+8*i+8):=by
     rintro q hq (h | ⟨i,h1,h2,h3⟩)
     .omega
     .have:i=k:=by omega
      subst this;rw[a6] at h1
      cases h1
    have ho:ops[k]? = some ops[k]:=Array.getElem?_eq_getElem ha;have b3:ops[k].dst.all (· < (St.some (λ i=>h0.getD i false) 0 xs st).sz)=true:=by rw[St.some_sz];exact hd _ (Array.getElem_mem ha)
    simp only[wpOp,ho]
    have d2:(B5 P ops ops[k]).xs.map (·.ev (St.some (λ i=>h0.getD i false) 0 xs st).get)=(B5 P ops ops[k]).xs.map (·.ev (St.some (λ _=>true) 0 (xs.take k) st).get):=by
     refine QF λ x hx=>?_
     cases x with
     | t i =>
       refine ad i ?_;simp only[Cp.names,Qq,Vj];exact .inl (.inl ⟨_,hx,rfl⟩)
     | _=>rfl
    have run:(aK P np (n+8*k) (B5 P ops ops[k]).op ((B5 P ops ops[k]).xs.map (·.ev (St.some (λ _=>true) 0 (xs.take k) st).get)) (St.some (λ _=>true) 0 (xs.take k) st).hp λ v' rd' up'=>v'=xk.v/\rd'=xk.rd/\up'=xk.up) ->
      (B5 P ops ops[k]).op=(BA P ops[k]).1->(B5 P ops ops[k]).xs=(BA P ops[k]).2->ops[k].wp P a w (wpAny P .any ops Q h6 (h0.setIfInBounds k true)) Q:=by
     intro hk d3 d4;have cl:=gK (h':=(St.some (λ i=>h0.getD i false) 0 xs st).hp) hk b1;rw[<- d2,d3,d4] at cl;obtain⟨v,rd,up,⟨rfl,rfl,rfl⟩,h2⟩:=SP ok.tm ok.mem (idb:=n+8*k) b4 (by omega) ops[k] _ cl
     refine Vv ok b3 h2 λ T' M' a' w' ok'=>?_;refine ai T' M' a' w' ?_
     have e:(St.some (λ i=>h0.getD i false) 0 xs st).app xk=((St.some (λ i=>h0.getD i false) 0 xs st).put ops[k].dst xk.v).upd xk.up:=by
      unfold St.app;rw[h7 k xk ha hw,a2]
     rw[e];exact ok'
    obtain⟨dd,hc⟩:=MV (P:=P) (ops:=ops) (o:=ops[k]);obtain⟨e0,h9⟩:=hO;rcases hc with ⟨g1,g2,g3,g4⟩ | ⟨j,want,d,g1,g2,g3,g4,g5⟩ | ⟨g1,g2,g3⟩
    .rw [g2] at h9
     have c3:Region.wanted ops[k] (yielded ops a.tmps)=true:=by simp[Region.wanted,g1]
     rw[if_pos c3];exact .inl (run h9 g3 g4)
    .rw [g3] at h9
     obtain⟨b,hb,h9⟩:=h9
     have d7:Ie ((St.some (λ i=>h0.getD i false) 0 xs st).get d)=some b:=by
      rw[ad d (by simp[Cp.names,g3])]
      exact hb
     have c3:=Td ok.tm g1 g2 d7;rw[c3]
     by_cases c4:b=some want
     .subst c4
      simp only[UY,beq_self_eq_true] at h9 ⊢;exact .inl (run h9 g4 g5)
     .rw [if_neg c4] at h9
      rw[if_neg (by simpa using c4)]
      obtain⟨e1,e2,e3⟩:=h9;refine ai T M (a.put ops[k].dst undef) w ?_
      have e:(St.some (λ i=>h0.getD i false) 0 xs st).app xk=(St.some (λ i=>h0.getD i false) 0 xs st).put ops[k].dst (.tup []):=by
       unfold St.app;rw[h7 k xk ha hw,a2,e1,e3];rfl
      rw[e];refine⟨by rw[zoH,St.sz_put];exact ok.sz,by rw[Oz];exact ok.df,PW ok.sz ok.tm b3 (.tup _ [] #[] rfl (λ i hi=>by simp at hi)),?_,λ id g hg=>.inl (ok.dom id g hg),ok.after⟩
      have e:((St.some (λ i=>h0.getD i false) 0 xs st).put ops[k].dst (.tup [])).hp=(St.some (λ i=>h0.getD i false) 0 xs st).hp:=by funext q;rw[St.hp_put]
      rw[e];exact ok.hs
    .rw [g1,g2,g3] at h9
     exact False.elim h9
end
def iE:Exit->Gm->Prop
 | .normal,.normal=>True
 | .exit i,.exit j=>i=j
 | .ret,.ret=>True
 | _,_=>False
section
variable {P:Program} {np:Nat} {T0:Nat->Nat} {M0:GM} {w0:World}
def JI (np:Nat) (T0:Nat->Nat) (M0:GM) (w0:World) (Q:Gm->St->Prop):Exit->Act->World->Prop :=
 λ e a w=>∃ e' st T M,iE e e'/\Ok np T0 M0 w0 (Hm st.n) st T M a w/\np<=st.n/\Q e' st
theorem It (hm:P.follows .mixedOrders=true):∀ (c:Code) (Q:Gm->St->Prop) (st:St) (T:Nat->Nat) (M:GM) (a:Act) (w:World),
  A2 P np (comp P c) Q st->Ok np T0 M0 w0 (Hm st.n) st T M a w->np<=st.n->c.wp P (JI np T0 M0 w0 Q) a w
 | .skip,Q,st,T,M,a,w,h,ok,hn=>wp_skip ⟨.normal,st,T,M,trivial,ok,hn,h⟩
 | .exit id,Q,st,T,M,a,w,h,ok,hn=>wp_exit ⟨.exit id,st,T,M,rfl,ok,hn,h⟩
 | .ret,Q,st,T,M,a,w,h,ok,hn=>wp_ret ⟨.ret,st,T,M,trivial,ok,hn,h⟩
 | .seq x y,Q,st,T,M,a,w,h,ok,hn=>by
   refine wp_seq (wp_mono (It hm x _ st T M a w h ok hn) ?_)
   rintro e a' w' ⟨e',st',T',M',he,ok',h0,hq⟩
   cases e<;>cases e'<;>(try (exact False.elim he))
   .obtain ⟨st2,hb,h2⟩:=hq
    obtain⟨T2,M2,ok2,h6⟩:=hb _ _ _ _ _ _ _ ok' h0;exact It hm y Q st2 T2 M2 a' w' h2 ok2 h6
   .exact ⟨_,st',T',M',he,ok',h0,hq⟩
   .exact ⟨_,st',T',M',he,ok',h0,hq⟩
 | .cond c x y,Q,st,T,M,a,w,h,ok,hn=>by
   obtain⟨t,ht,h⟩:=h;have hc:=DB (Bq ok.tm c) ht;refine wp_cond hc ?_
   cases t
   .exact It hm y Q st T M a w h ok hn
   .exact It hm x Q st T M a w h ok hn
 | .block id x,Q,st,T,M,a,w,h,ok,hn=>by
   refine wp_block (wp_mono (It hm x _ st T M a w h ok hn) ?_)
   rintro e a' w' ⟨e',st',T',M',he,ok',h0,hq⟩
   cases e<;>cases e'<;>(try (exact False.elim he))
   .exact ⟨_,st',T',M',he,ok',h0,hq⟩
   .rename_i i j
    have he:i=j:=he;subst he
    by_cases hid:i=id
    .simp only[Exit.inBlock,if_pos hid]
     simp only[if_pos hid] at hq;exact⟨.normal,st',T',M',trivial,ok',h0,hq⟩
    .simp only[Exit.inBlock,if_neg hid]
     simp only[if_neg hid] at hq;exact⟨.exit i,st',T',M',rfl,ok',h0,hq⟩
   .exact ⟨_,st',T',M',he,ok',h0,hq⟩
 | .loop x,Q,st,T,M,a,w,h,ok,hn=>by
   obtain⟨I,⟨st0,k0,hb,hI⟩,h9⟩:=h;obtain⟨T1,M1,ok1,hv⟩:=hb _ _ _ _ _ _ _ ok hn;refine wp_loop_ghost (λ k a w=>∃ s T M,I k s/\Ok np T0 M0 w0 (Hm s.n) s T M a w/\np<=s.n) k0 ⟨st0,T1,M1,hI,ok1,hv⟩ ?_
   rintro k a' w' ⟨s,T',M',hw,ok',h0⟩
   refine wp_mono (It hm x _ s T' M' a' w' (h9 k s hw) ok' h0) ?_
   rintro e a2 w2 ⟨e',st',T2,M2,he,ok2,h6,hq⟩
   cases e<;>cases e'<;>(try (exact False.elim he))
   .obtain ⟨st2,k2,hh,hy,hz⟩:=hq
    obtain⟨T3,M3,ok3,a0⟩:=hh _ _ _ _ _ _ _ ok2 h6;exact⟨k2,hz,st2,T3,M3,hy,ok3,a0⟩
   .exact ⟨_,st',T2,M2,he,ok2,h6,hq⟩
   .exact ⟨_,st',T2,M2,he,ok2,h6,hq⟩
 | .region id ops draw,Q,st,T,M,a,w,h,ok,hn=>by
   obtain⟨hd,h⟩:=h
   have hi:∀ o∈ops,o.dst.all (· < st.sz)=true:=by
    intro o ho;have:=List.all_eq_true.1 hd (B5 P ops o) (Qi.2 ⟨o,by simpa using ho,rfl⟩)
    rwa [MV.1] at this
   have ha:(ops.toList.map (B5 P ops)).length=ops.size:=by simp
   cases draw with
   | false =>
     refine wp_region ?_;rw[UV]
     refine PE (n:=st.n) hn (Q:=JI np T0 M0 w0 Q) (K:=λ st' tr=>(false=true->Hf (ops.toList.map (B5 P ops)) [] tr=true)/\Q .normal { st' with n:=st.n+8*(ops.toList.map (B5 P ops)).length })
      (λ st' tr T' M' a' w' hk ok'=>?_) ops.size 0 st [] T M a w (by omega) hi (by simpa using ok) h
     rw[ha] at hk;refine⟨.normal,{ st' with n:=st.n+8*ops.size },T',M',trivial,?_,by show np<=st.n+8*ops.size;omega,hk.2⟩
     exact⟨ok'.sz,ok'.df,ok'.tm,ok'.hs,ok'.dom,ok'.after⟩
   | true =>
     refine wp_region_any hm ?_;obtain⟨xs,h1,h2,h3⟩:=Kn _ 0 st [] h;obtain⟨h4,h5⟩:=h3;rw[ha] at h1 h5;have hu:=h4 rfl;obtain⟨h7,hf⟩:=ok.mem.draw (w1:={ w with drawn:=w.drawn+1 }) rfl rfl rfl rfl
     have okd:Ok np T0 M0 w0 (Hm st.n) st T M a { w with drawn:=w.drawn+1 } :=
      ⟨ok.sz,ok.df,λ i=>(ok.tm i).mono hf λ _ _ e=>e,h7.hs,h7.dom,h7.after⟩
     refine Yb (T0:=T0) (M0:=M0) (w0:=w0) (n:=st.n) hn h1 (Q:=JI np T0 M0 w0 Q) (λ st' T' M' a' w' g1 g2 g3 ok'=>?_) hi (λ k o x ho hx=>by have:=h2 k o x ho hx;rwa [Q1] at this) (by simpa using hu) ops.size _ T M a _ (by simp) ?_ (λ j hj=>?_) ?_
     .refine ⟨.normal,{ (St.some (λ _=>true) 0 xs st) with n:=st.n+8*ops.size },T',M',trivial,?_,by show np<=st.n+8*ops.size;omega,h5⟩
      have:=ok'.ext (st':={ (St.some (λ _=>true) 0 xs st) with n:=st.n+8*ops.size }) ((St.some_sz _ _ _ _).trans g3.symm) (λ i=>(g1 i).symm) (λ i=>(g2 i).symm);exact⟨this.sz,this.df,this.tm,this.hs,this.dom,this.after⟩
     .have:(Array.replicate ops.size false).toList.countP (· == false)<=(Array.replicate ops.size false).toList.length:=List.countP_le_length
      simpa using this
     .have:(Array.replicate ops.size false).getD j false=false:=by simp only[QE,Array.getElem?_replicate];split<;>rfl
      rw[this] at hj
      cases hj
     .have e:St.some (λ i=>(Array.replicate ops.size false).getD i false) 0 xs st=st:=by
       have:(λ i=>(Array.replicate ops.size false).getD i false)=λ _=>false:=by
        funext j
        simp only[QE,Array.getElem?_replicate];split<;>rfl
       rw[this,St.some_false]
      rw[e];exact okd.wider λ id hid=>.inl hid
 | .rangeFunc ..,Q,st,T,M,a,w,h,ok,hn=>False.elim h
 | .scope x,Q,st,T,M,a,w,h,ok,hn=>by
   refine wp_scope_straight (wp_mono (It hm x Q st T M a w h ok hn) ?_)
   rintro e a' w' ⟨e',st',T',M',he,ok',h0,hq⟩
   cases e<;>cases e'<;>(try (exact False.elim he))<;>exact⟨_,st',T',M',he,ok',h0,hq⟩
 | .label _,Q,st,T,M,a,w,h,ok,hn=>wp_label ⟨.normal,st,T,M,trivial,ok,hn,h⟩
 | .goto _,Q,st,T,M,a,w,h,ok,hn=>False.elim h
 | .refuse _,Q,st,T,M,a,w,h,ok,hn=>False.elim h
end
variable {M:GM} {T:Nat->Nat} {w:World}
section
variable {P:Program} {np:Nat} {T0:Nat->Nat} {M0:GM} {w0:World}
theorem eF {t:TypeId} {ag:Bool} {s:Nat} {cs:List AV} {b off:Nat} {c:Nat->Value} (h2:(isAgg t).run P w = .ok ag w) (h3:(sizeOf t).run P w = .ok s w) (h6:s<=cs.length) (h4:ag=true∨s=1) (h1:∀ j,j<cs.length->w.cell? ⟨b,off+j,none⟩=some (c j)/\(c j).oneCell'=true/\Ad T w M (cs.getD j .dead) (c j)) :
  ∃ u,(loadVar t ⟨b,off,none⟩).run P w = .ok u w/\Ad T w M (if ag then .agg (cs.take s) else cs.headD .dead) u:=by
 cases ag with
 | true =>
   have hl:=run_loadCells (P:=P) w ⟨b,off,none⟩ s c (λ j hj=>by rw[Addr.add_none];exact(h1 j (by omega)).1)
   refine⟨.agg ((List.range s).map c).toArray,by simp[loadVar,h2,h3,hl],?_⟩
   refine .agg _ _ _ (by simp;omega) (λ i hi=>?_) λ i hi=>?_
   .simp at hi
    have e:((List.range s).map c).toArray.getD i undef=c i:=by simp[Array.getD,show i<s by omega]
    rw[e];exact(h1 i (by omega)).2.1
   .simp at hi
    have e:((List.range s).map c).toArray.getD i undef=c i:=by simp[Array.getD,show i<s by omega]
    have e2:(cs.take s).getD i .dead=cs.getD i .dead:=by
     simp only[List.getD,UC];rw[if_pos (by omega)]
    rw[e,e2];exact(h1 i (by omega)).2.2
 | false =>
   obtain rfl:s=1:=by simpa using h4
   have h0:=h1 0 (by omega)
   have e:cs.headD .dead=cs.getD 0 .dead:=by cases cs<;>rfl
   simp only[Ud,Ux];rw[e];refine⟨c 0,?_,h0.2.2⟩;simp only[loadVar,Sem.run_bind,h2,Result.andThen_ok];have h5:w.cell? ⟨b,off,none⟩=some (c 0):=by simpa using h0.1
   simp[h5]
def KT (a:Act) (r:ResultVar):Sem Value :=
 match r with
 | .tmp t=>pure (a.tmps.getD t undef)
 | .cell b t=>do loadVar t (<- asAddr (a.tmps.getD b undef))
theorem i5 {st:St} {a:Act} {aB:Nat->Prop} (tm:∀ i,Ad T w M (st.get i) (a.tmps.getD i undef)) (m:Bw np T0 M0 w0 aB st.hp T M w) {r:ResultVar} {v:AV} (h:JA st (IK P r)=some v):∃ u,(KT a r).run P w = .ok u w/\Ad T w M v u:=by
 cases r with
 | tmp t =>
   simp only[IK,JA,Qt] at h;subst h;exact⟨_,rfl,tm t⟩
 | cell b t =>
   simp only[IK] at h
   have bad:JA st (b,some (false,0))=some v->False:=by
    intro h;simp only[JA] at h;split at h
    .simp at h
    .cases h
   cases h0:E4 P t with
   | none=>rw[h0] at h;exact(bad h).elim
   | some ag =>
     rw[h0] at h
     cases h1:Cl P t with
     | none=>rw[h1] at h;exact(bad h).elim
     | some s =>
       rw[h1] at h;simp only[JA] at h;split at h
       case h_2=>cases h
       rename_i cs h5;split at h
       case isFalse=>cases h
       rename_i hc;simp only[Qt] at h;subst h;obtain⟨blk,off,hv,c,h2⟩:=XE m (tm b) h5
       have h3:(sizeOf t).run P w = .ok s w:=by
        simp only[Cl,Qw] at h1;obtain⟨i,hi,hs⟩:=h1;simp[sizeOf,typeInfo,hi,hs]
       have h4:(isAgg t).run P w = .ok ag w:=by
        unfold E4 at h0;split at h0<;>(try (cases h0;done))
        .rename_i e;cases h0;simp[isAgg,Cd e]
        .rename_i e;cases h0;simp[isAgg,Cd e]
        .rename_i d e n1 n2
         cases h0;simp only[isAgg,Sem.run_bind,Cd n2];simp
       obtain⟨u,hu,h6⟩:=eF (P:=P) h4 h3 hc.1 hc.2 h2;refine⟨u,?_,h6⟩;simp[KT,hv,asAddr,hu]
theorem znk {st:St} {T:Nat->Nat} {M:GM} {a:Act} {w:World} {aB:Nat->Prop} (tm:∀ i,Ad T w M (st.get i) (a.tmps.getD i undef)) (m:Bw np T0 M0 w0 aB st.hp T M w) :
  ∀ (rs:List ResultVar) (vs:List AV),Gn st (rs.map (IK P))=some vs -> ∃ us:List Value,(rs.mapM (KT a)).run P w = .ok us w/\us.length=vs.length /\ ∀ i,i<vs.length->Ad T w M (vs.getD i .dead) (us.getD i undef)
 | [],vs,h=>by
   simp[Gn] at h;subst h;exact⟨[],by simp,rfl,λ i hi=>absurd hi (by simp)⟩
 | r::rs,vs,h=>by
   simp only[Qo,Gn] at h;split at h
   case h_2=>cases h
   rename_i v vs' h1 h2;simp only[Qt] at h;subst h;obtain⟨u,hu,h0⟩:=i5 tm m h1;obtain⟨us,h3,hl,hr⟩:=znk tm m rs vs' h2;refine⟨u::us,by simp[Vl,hu,h3],by simp[hl],λ i hi=>?_⟩
   cases i with
   | zero=>simpa using h0
   | succ i=>simpa using hr i (by simpa using hi)
theorem dN {α:Type} (l:List α) (k:Nat):AW (l.zipIdx.map λ (a,i)=>(i,a)) k=l[k]?:=by
 have key:∀ (l:List α) (q k:Nat),AW ((l.zipIdx q).map λ (a,i)=>(i,a)) (q+k)=l[k]?:=by
  intro l
  induction l with
  | nil=>intro q k;rfl
  | cons x l ih =>
    intro q k;simp only[List.zipIdx_cons,Qo,AW]
    cases k with
    | zero=>simp
    | succ k =>
      rw[if_neg (by omega),show q+(k+1)=q+1+k by omega,ih]
      simp
 have:=key l 0 k
 rwa [Q1] at this
theorem Zr (l:List AQ) (k:Nat):AW (l.zipIdx.map λ (e,i)=>(i,some e)) k=(l[k]?).map some:=by
 have key:∀ (l:List AQ) (q k:Nat),AW ((l.zipIdx q).map λ (e,i)=>(i,some e)) (q+k)=(l[k]?).map some:=by
  intro l
  induction l with
  | nil=>intro q k;rfl
  | cons x l ih =>
    intro q k;simp only[List.zipIdx_cons,Qo,AW]
    cases k with
    | zero=>simp
    | succ k =>
      rw[if_neg (by omega),show q+(k+1)=q+1+k by omega,ih]
      simp
 have:=key l 0 k
 rwa [Q1] at this
theorem cZ (hm:P.follows .mixedOrders=true) {f:FuncId} {fn:Func} {af:D4} (hf:P.funcs[f]? = some fn) (hc:Jg P fn=some af) (a8:fn.name ≠ "runtime.NumGoroutine") {args:List AV} {hs:List AQ} {res:AV} {aE:List (Option AQ)} (bs:args.length<=af.nt) (au:hs.length<=16) (a9:hs.length<=aE.length) (h:A2 P hs.length af.code (λ e st=>(e = .normal∨e = .ret)/\AS af.res hs.length st res aE) (HN af args hs)):AK P f args hs res aE:=by
 unfold Jg at hc
 cases hb:fn.body with
 | none=>rw[hb] at hc;cases hc
 | some c =>
   rw[hb] at hc;simp only[Qt] at hc;subst hc;refine⟨⟨fn,c,hf,hb,a8⟩,a9,λ T M w vs av bt a6 hy=>?_⟩;refine calls_of_wp hf hb ?_
   have hg:∀ i,(HN { nt:=fn.ntmps,res:=fn.results.toList.map (IK P),code:=comp P c } args hs).get i=args.getD i .dead:=by
    intro i;unfold St.get HN;simp only[dN];rfl
   have hh:∀ i,(HN { nt:=fn.ntmps,res:=fn.results.toList.map (IK P),code:=comp P c } args hs).hp i=hs[i]?:=by
    intro i;unfold St.hp HN;simp only[Zr]
    cases hs[i]?<;>rfl
   have ok:Ok hs.length T M w (Hm 16) (HN { nt:=fn.ntmps,res:=fn.results.toList.map (IK P),code:=comp P c } args hs) T M { tmps:=vs++Array.replicate (fn.ntmps - vs.size) undef,defers:=[] } w:=by
    refine⟨?_,rfl,λ i=>?_,?_,λ id g hg=>?_,?_⟩
    .simp only[UM,Array.size_replicate,HN]
     have:=hy.1;simp only at bs;omega
    .rw [hg]
     by_cases hi:i<args.length
     .have:=hy.2 i hi
      have e:(vs++Array.replicate (fn.ntmps - vs.size) undef).getD i undef=vs.getD i undef:=by
       simp only[QE];rw[Uc (by rw[hy.1];exact hi)]
      rw[e];exact this
     .have:args.getD i .dead = .dead:=by simp[List.getD,show ¬ i<args.length by omega]
      rw[this];exact .dead _ _
    .have e:(HN { nt:=fn.ntmps,res:=fn.results.toList.map (IK P),code:=comp P c } args hs).hp=Cs hs:=funext hh
     rw[e];exact bt
    .show id<16
     rcases Um id hs.length with h | h
     .omega
     .rw [a6 id h] at hg;cases hg
    .exact ⟨av,λ _ _ _=>rfl,λ _ _=>rfl,rfl,rfl,rfl,Qk _,λ _ _ _=>rfl,Au.refl _ _,λ k g b hk hg=>by rw[a6 k hk] at hg;cases hg⟩
   refine wp_mono (It hm c _ _ T M _ w h ok au) ?_
   rintro e a' w' ⟨e',st',T',M',he,ok',d0,hq,vs',c0,ex,sn,b1,c1,b2,c2,a7⟩
   have a0:a'.defers=[] /\ ∃ v,(results fn a'.tmps).run P w' = .ok v w' /\ ∃ v2 T2 M2,Ending.returned v = .returned v2/\Ad T2 w' M2 res v2/\EN T2 w' M2 (Ha aE)/\GW hs.length T M w T2 M2 w':=by
    refine⟨ok'.df,?_⟩;obtain⟨us,c3,b3,a3⟩:=znk (P:=P) ok'.tm ok'.mem fn.results.toList vs' c0
    have b4:(results fn a'.tmps).run P w' = .ok (if h:us.toArray.size=1 then us.toArray[0] else .tuple us.toArray) w':=by
     have e0:results fn a'.tmps=(do let vs <- fn.results.mapM (KT a');pure (if h:vs.size=1 then vs[0] else .tuple vs)):=by
      have e2:(λ r:ResultVar=>match r with | ResultVar.tmp t=>(pure (a'.tmps.getD t undef):Sem Value) | ResultVar.cell a t=>do loadVar t (<- asAddr (a'.tmps.getD a undef)))=KT a':=by
       funext r;cases r<;>rfl
      rw[<- e2];rfl
     have e:(fn.results.mapM (KT a')).run P w' = .ok us.toArray w':=by
      rw[Array.mapM_eq_mapM_toList];simp[c3]
     rw[e0,Sem.run_bind,e];rfl
    have c4:Ad T' w' M' (EH vs') (if h:us.toArray.size=1 then us.toArray[0] else .tuple us.toArray):=by
     by_cases h1:vs'.length=1
     .match vs',us,h1,b3,a3 with
      | [v],[u],_,_,a3=>exact a3 0 (by simp)
     .have e:EH vs' = .tup vs':=by
       match vs',h1 with
       | [],_=>rfl
       | [_],h=>simp at h
       | _::_::_,_=>rfl
      rw[e,dif_neg (by simp;omega)]
      exact .tup _ _ _ (by simpa using b3) λ i hi=>by simpa [List.getD,QE] using a3 i hi
    refine⟨_,b4,(if h:us.toArray.size=1 then us.toArray[0] else .tuple us.toArray),?_⟩
    let nm:List Nat:=List.range hs.length++ex
    obtain⟨T1,b5,ad,ag,a1⟩:=P5 ok'.hs ok'.after.tok sn
    let Mr:GM:=λ k=>match nm[k]? with | some i=>M' i | none=>none
    have hx:∀ (k i:Nat),nm[k]? = some i->Mr k=M' i:=λ k i h0=>by show (match nm[k]? with | some i=>M' i | none=>none)=_;rw[h0]
    have b6:∀ k,k<hs.length->nm[k]? = some k:=λ k hk=>by
     show (List.range hs.length++ex)[k]? = _;rw[QJ (by simpa using hk)]
     simp[hk]
    have ai:∀ (k i:Nat),hs.length<=k->nm[k]? = some i->hs.length<=i:=λ k i hk h0=>by
     have e:nm[k]? = ex[k - hs.length]?:=by
      show (List.range hs.length++ex)[k]? = _;rw[Qv (by simpa using hk)]
      simp
     rw[e] at h0;exact c1 i (Uj h0)
    have am:=λ x v hr=>Lj (Mc:=Mr) (x:=x) (v:=v) ok'.hs sn b5 ag 4 nm.zipIdx (λ id k hl=>hx k id (W9 hl)) hr
    have an:∀ i∈sn,i∉nm:=by
     intro i hi cb;rcases Qq.1 cb with h | h
     .have:=(b2 i hi).2
      simp at h;omega
     .exact (b2 i hi).1 h
    have ha:∀ (k i:Nat) e',nm[k]? = some i->Ha aE k=some e' -> ∃ e,st'.hp i=some e/\e'=Ab nm.zipIdx sn st'.hp 4 e:=by
     intro k i e' h0 hd;have h1:=congrArg (·[k]?) a7
     simp only[QA] at h1;have h9:(List.range hs.length++ex)[k]? = some i:=h0;rw[h9] at h1;simp only[Q8] at h1;unfold Ha at hd;rw[<- h1] at hd;simp only[Option.join_some,Qw] at hd;obtain⟨e,h2,h3⟩:=hd;exact⟨e,h2,h3.symm⟩
    have hv:∀ k e',Ha aE k=some e'->k<aE.length:=by
     intro k e' h;unfold Ha at h
     cases hq:aE[k]? with
     | none=>rw[hq] at h;simp at h
     | some _=>exact(Qz.1 hq).1
    have a2:nm.length=aE.length:=by
     have h1:=congrArg List.length a7;rw[Qr] at h1;exact h1
    have hw:∀ i e g b,i∈nm->st'.hp i=some e->M' i=some g->g.blk=some b->T1 b=T' b:=by
     intro i e g b h1 h2 h3 h4;refine a1 b λ i' hi' e' g' h5 h6 h7=>?_;have:=ok'.hs.inj i i' e e' g g' b h2 h5 h3 h6 h4 h7;subst this;exact an i hi' h1
    refine⟨T1,Mr,rfl,c2.rep (am _ _ c4),⟨λ k e' hd=>?_,λ k k' e1 e2 g g' b h1 h2 h3 h4 h5 h6=>?_⟩,?_⟩
    .have a4:k<nm.length:=by rw[a2];exact hv k e' hd
     have h0:nm[k]? = some nm[k]:=Qc a4;obtain⟨e,he,rfl⟩:=ha k _ e' h0 hd;obtain⟨g,hg,ent⟩:=ok'.hs.ent _ e he;refine⟨g,(hx k _ h0).trans hg,ent.s,by simpa [Ab] using ent.ro,λ hz r hr=>?_,λ hn=>by simp[Ab,ent.none hn],λ hz=>?_,λ hz b bf=>?_⟩
     .simp only[Ab,Qi] at hr
      obtain⟨r0,cd,rfl⟩:=hr;rw[Qr];exact ent.wide hz r0 cd
     .obtain ⟨b,es,clock,a5,q1,q2,q3,q4⟩:=ent.mp hz
      exact⟨b,es,clock,a5,q1,by rw[hw _ e g b (Uj h0) he hg a5];exact q2,q3,q4.map (λ _=>rfl) λ row _ x _ v hr=>am x v hr⟩
     .obtain ⟨cells,ty,h1,h2,h3,h4⟩:=ent.blk hz b bf
      refine⟨cells,ty,h1,by rw[hw _ e g b (Uj h0) he hg bf];exact h2,by simpa [Ab] using h3,λ i j hi hj=>?_⟩
      simp only[Ab,Qr] at hi hj ⊢;obtain⟨u,hu,ho,ck⟩:=h4 i j hi hj;refine⟨u,hu,ho,?_⟩
      have e1:(e.rows.map (·.map (conv nm.zipIdx sn st'.hp 4))).getD i []=(e.rows.getD i []).map (conv nm.zipIdx sn st'.hp 4):=by
       simp only[List.getD,QA]
       cases e.rows[i]?<;>rfl
      rw[e1,G8 _ (Gy _ _ _ _)];exact am _ _ ck
    .have a4:k<nm.length:=by rw[a2];exact hv k e1 h1
     have bo:k'<nm.length:=by rw[a2];exact hv k' e2 h2
     have h0:nm[k]? = some nm[k]:=Qc a4;have h9:nm[k']? = some nm[k']:=Qc bo;obtain⟨ea,cl,_⟩:=ha k _ e1 h0 h1;obtain⟨eb,cp,_⟩:=ha k' _ e2 h9 h2;have:=ok'.hs.inj _ _ ea eb g g' b cl cp ((hx k _ h0).symm.trans h3) ((hx k' _ h9).symm.trans h4) h5 h6;exact(List.getElem?_inj a4 b1).1 (by rw[h0,h9,this])
    .refine ok'.after.step ad (λ b hb cq=>?_) (λ k hk=>?_) rfl rfl rfl (Qk _) (λ _ _ _=>rfl) ⟨b5,λ b cells ty fz h=>⟨cells,fz,h,rfl,λ _ _=>rfl⟩⟩ λ k g b hk hg a5=>?_
     .refine a1 b λ i hi e g h1 h2 h3=>?_
      exact(ok'.after.blk h2 h3).elim cq (by omega)
     .exact hx k k (b6 k hk)
     .cases h0:nm[k]? with
      | none =>
        have:Mr k=none:=by show (match nm[k]? with | some i=>M' i | none=>none)=none;rw[h0]
        rw[this] at hg;cases hg
      | some i =>
        rw[hx k i h0] at hg;exact ok'.after.new i g b (ai k i hk h0) hg a5
   rcases hq with rfl | rfl
   .cases e<;>first | exact a0 | exact False.elim he
   .cases e<;>first | exact a0 | exact False.elim he
end
def Up (nl:List (Nat × Nat)) (x y:AV):Prop:=Wk x y∨(x = .nilS /\ ∃ id s,y = .rs id 0 0/\(id,s)∈nl)
def Eg (nl:List (Nat × Nat)):List AV->List AV->Prop
 | [],[]=>True
 | x::xs,y::ys=>Up nl x y/\Eg nl xs ys
 | _,_=>False
theorem Eg.length {nl:List (Nat × Nat)}:∀ {xs ys:List AV},Eg nl xs ys->xs.length=ys.length
 | [],[],_=>rfl
 | _::_,_::_,h=>by simp[Eg.length h.2]
 | [],_::_,h=>False.elim h
 | _::_,[],h=>False.elim h
theorem Eg.get {nl:List (Nat × Nat)}:∀ {xs ys:List AV},Eg nl xs ys -> ∀ i:Nat,i<xs.length->Up nl (xs.getD i .dead) (ys.getD i .dead)
 | x::xs,y::ys,h,0,_=>h.1
 | x::xs,y::ys,h,i+1,hi=>by simpa using Eg.get h.2 i (by simpa using hi)
 | [],[],_,i,hi=>absurd hi (by simp)
 | [],_::_,h,_,_=>False.elim h
 | _::_,[],h,_,_=>False.elim h
def Am (nl:List (Nat × Nat)) (e e':AQ):Prop :=
 e'.s=e.s/\e.ro<=e'.ro/\e'.ro<=e'.rows.length/\(e'.rows=e.rows∨(e.s≠0/\e.rows.length=e'.rows.length /\ ∀ i,Eg nl (e.rows.getD i []) (e'.rows.getD i [])))
theorem Le.mk {np:Nat} {st st':St} (ρ:List (Nat × Nat)) (sn:List Nat) (nl:List (Nat × Nat)) (b5:st'.sz=st.sz) (h0:(ρ.map (·.1)).Nodup) (h1:(ρ.map (·.2)).Nodup) (h2:∀ p∈ρ,p.2<st'.n/\(p.2<np->p.1=p.2)) (h3:∀ p∈nl,np<=p.1/\p.1<st'.n/\p.1∉ρ.map (·.2)/\p.2≠0) (h4:∀ i∈sn,np<=i/\i∉ρ.map (·.1)) (h5:np<=st'.n) (h6:(nl.map (·.1)).Nodup) (ht:∀ i,Up nl (conv ρ sn st.hp 4 (st.get i)) (st'.get i)) (hh:∀ id' e',st'.hp id'=some e'->(∃ id e,(id,id')∈ρ/\st.hp id=some e/\Am nl (Ab ρ sn st.hp 4 e) e')∨((id',e'.s)∈nl/\e'.rows=[]/\e'.ro=0)):Le np st st':=by
 intro T0 M0 w0 T M a w ok hn;obtain⟨T1,an,a7,a8,a0⟩:=P5 ok.hs ok.after.tok sn
 let M':GM:=λ j=>if j<np then M j else match AW nl j with
  | some s=>some ⟨none,0,s⟩
  | none=>match AW (ρ.map λ p=>(p.2,p.1)) j with
    | some i=>M i
    | none=>none
 have a4:∀ j,j<np->M' j=M j:=λ j hj=>if_pos hj
 have a1:∀ j s,(j,s)∈nl->M' j=some ⟨none,0,s⟩:=by
  intro j s a9;have au:=(h3 _ a9).1
  have hl:AW nl j=some s:=by
   cases hl:AW nl j with
   | none=>exact absurd a9 (Kl hl s)
   | some s' =>
     have:=D1 hl
     have key:∀ (l:List (Nat × Nat)),(l.map (·.1)).Nodup->(j,s)∈l->(j,s')∈l->s=s':=by
      intro l
      induction l with
      | nil=>intro _ h;simp at h
      | cons p l ih =>
        intro h9 ha hb;simp only[Qo,Q7,Qi,not_exists,not_and] at h9;rcases Qs.1 ha with ha | ha<;>rcases Qs.1 hb with hb | hb
        .rw [<- ha] at hb;cases hb;rfl
        .exact absurd (by rw[<- ha]) (h9.1 _ hb)
        .exact absurd (by rw[<- hb]) (h9.1 _ ha)
        .exact ih h9.2 ha hb
     rw[key nl h6 a9 this]
  show (if j<np then M j else _)=_
  rw[if_neg (by omega),hl]
 have a2:∀ i j,(i,j)∈ρ->M' j=M i:=by
  intro i j a3
  by_cases hj:j<np
  .have h:=(h2 _ a3).2 hj
   simp only at h;rw[a4 j hj,h]
  .have b6:AW nl j=none:=by
    cases hl:AW nl j with
    | none=>rfl
    | some s=>exact absurd (Qi.2 ⟨_,a3,rfl⟩) (h3 _ (D1 hl)).2.2.1
   have av:AW (ρ.map λ p=>(p.2,p.1)) j=some i:=by
    cases hl:AW (ρ.map λ p=>(p.2,p.1)) j with
    | none=>exact absurd (Qi.2 ⟨_,a3,rfl⟩) (Kl hl i)
    | some i' =>
      have:=D1 hl;simp only[Qi,Prod.mk.injEq] at this;obtain⟨⟨p1,p2⟩,hp,rfl,rfl⟩:=this
      have key:∀ (l:List (Nat × Nat)),(l.map (·.2)).Nodup->(p1,p2)∈l->(i,p2)∈l->p1=i:=by
       intro l
       induction l with
       | nil=>intro _ h;simp at h
       | cons p l ih =>
         intro h9 ha hb;simp only[Qo,Q7,Qi,not_exists,not_and] at h9;rcases Qs.1 ha with ha | ha<;>rcases Qs.1 hb with hb | hb
         .rw [<- ha] at hb;cases hb;rfl
         .exact absurd (by rw[<- ha]) (h9.1 _ hb)
         .exact absurd (by rw[<- hb]) (h9.1 _ ha)
         .exact ih h9.2 ha hb
      rw[key ρ h1 hp a3]
   show (if j<np then M j else _)=_
   rw[if_neg hj,b6,av]
 have hf:∀ j g,M' j=some g->j<np∨(∃ s,(j,s)∈nl/\g=⟨none,0,s⟩) ∨ ∃ i,(i,j)∈ρ/\M i=some g:=by
  intro j g hg
  by_cases hj:j<np
  .exact .inl hj
  .right
   have hq:(if j<np then M j else match AW nl j with
    | some s=>some ⟨none,0,s⟩
    | none=>match AW (ρ.map λ p=>(p.2,p.1)) j with
      | some i=>M i
      | none=>none)=some g:=hg
   rw[if_neg hj] at hq
   cases hl:AW nl j with
   | some s =>
     rw[hl] at hq;exact .inl ⟨s,D1 hl,(Qf hq).symm⟩
   | none =>
     rw[hl] at hq
     cases hr:AW (ρ.map λ p=>(p.2,p.1)) j with
     | none=>rw[hr] at hq;cases hq
     | some i =>
       rw[hr] at hq;have:=D1 hr;simp only[Qi,Prod.mk.injEq] at this;obtain⟨⟨p1,p2⟩,hp,rfl,rfl⟩:=this;exact .inr ⟨_,hp,hq⟩
 have ad:=λ x v hr=>Lj (Mc:=M') (x:=x) (v:=v) ok.hs sn an a8 4 ρ (λ id k hl=>a2 id k (D1 hl)) hr
 have b1:∀ x y v,Up nl x y->Ad T1 w M' x v->Ad T1 w M' y v:=by
  rintro x y v (h | ⟨rfl,id,s,rfl,hc⟩) hr
  .exact h.rep hr
  .cases hr
   exact .rs _ _ 0 0 0 none _ (a1 id s hc) (h3 _ hc).2.2.2 (Qk _) (λ _=>⟨rfl,rfl⟩) λ b hb=>by cases hb
 have hv:∀ id e g b,id∉sn->st.hp id=some e->M id=some g->g.blk=some b->T1 b=T b:=by
  intro id e g b h1 h2 h3 h4;refine a0 b λ i hi e' g' h5 h6 h7=>?_;have:=ok.hs.inj id i e e' g g' b h2 h5 h3 h6 h4 h7;subst this;exact h1 hi
 refine⟨T1,M',⟨ok.sz.trans b5.symm,ok.df,λ i=>b1 _ _ _ (ht i) (ad _ _ (ok.tm i)),⟨λ id' e' bf=>?_,λ i i' e1 e2 g g' b q1 q2 q3 q4 q5 q6=>?_⟩,λ j g hg=>?_,?_⟩,h5⟩
 .rcases hh id' e' bf with ⟨id,e,hc,he,u1,u2,u3,u4⟩ | ⟨hc,hr,bo⟩
  .obtain ⟨g,hg,ent⟩:=ok.hs.ent id e he
   have a5:id∉sn:=λ hi=>(h4 id hi).2 (Qi.2 ⟨_,hc,rfl⟩)
   have hx:e'.rows.length=e.rows.length:=by
    rcases u4 with u4 | ⟨_,v1,_⟩
    .rw [u4];simp[Ab]
    .rw [<- v1];simp[Ab]
   have hw:∀ i,(Ab ρ sn st.hp 4 e).rows.getD i []=(e.rows.getD i []).map (conv ρ sn st.hp 4):=λ i=>by
    simp only[Ab,List.getD,QA]
    cases e.rows[i]?<;>rfl
   have ag:e.s≠0 -> ∀ r∈e'.rows,r.length=e.s:=λ hz r hr=>by
    rcases u4 with u4 | ⟨_,v1,v3⟩
    .rw [u4] at hr
     simp only[Ab,Qi] at hr;obtain⟨r0,bs,rfl⟩:=hr;rw[Qr];exact ent.wide hz r0 bs
    .obtain ⟨i,hi,rfl⟩:=QG.1 hr
     have h1:=(v3 i).length;rw[hw,Qr] at h1;have e1:e'.rows.getD i []=e'.rows[i]:=by simp[List.getD,hi]
     have hi':i<e.rows.length:=by omega
     have e2:e.rows.getD i []=e.rows[i]:=by simp[List.getD,hi']
     rw[e1,e2] at h1;rw[<- h1];exact ent.wide hz _ (Qj hi')
   have ai:e.s≠0 -> ∀ i j,i<e.rows.length->j<e.s->Up nl (conv ρ sn st.hp 4 ((e.rows.getD i []).getD j .dead)) ((e'.rows.getD i []).getD j .dead):=by
    intro hz i j hi hj
    have e1:((Ab ρ sn st.hp 4 e).rows.getD i []).getD j .dead=conv ρ sn st.hp 4 ((e.rows.getD i []).getD j .dead):=by
     rw[hw,G8 _ (Gy _ _ _ _)]
    rcases u4 with u4 | ⟨_,v1,v3⟩
    .rw [u4,e1];exact .inl (.refl _)
    .rw [<- e1]
     refine(v3 i).get j ?_;rw[hw,Qr];have e2:e.rows.getD i []=e.rows[i]:=by simp[List.getD,hi]
     rw[e2,ent.wide hz _ (Qj hi)];exact hj
   have hd:e'.s=e.s:=u1;refine⟨g,(a2 id id' hc).trans hg,ent.s.trans (by rw[u1];rfl),u3,λ hz r hr=>?_,λ hn=>?_,λ hz=>?_,λ hz b b2=>?_⟩
   .rw [hd]
    exact ag (hd ▸ hz) r hr
   .have:=ent.none hn
    rw[this] at hx;exact QL (by simpa using hx)
   .obtain ⟨b,es,clock,hy,q1,q2,q3,q4⟩:=ent.mp (hd ▸ hz)
    have am:e'.rows=(Ab ρ sn st.hp 4 e).rows:=by
     rcases u4 with u4 | ⟨v0,_⟩
     .exact u4
     .exact absurd (hd ▸ hz) v0
    refine⟨b,es,clock,hy,q1,by rw[hv id e g b a5 he hg hy];exact q2,q3,?_⟩
    rw[am];exact q4.map (λ _=>rfl) λ row _ x _ v hr=>ad x v hr
   .obtain ⟨cells,ty,p1,p2,p3,p4⟩:=ent.blk (hd ▸ hz) b b2
    refine⟨cells,ty,p1,?_,by rw[hx,hd];exact p3,λ i j hi hj=>?_⟩
    .rw [hv id e g b a5 he hg b2,hd]
     have:e.ro*e.s<=e'.ro*e.s:=QD _ u2;omega
    .rw [hx] at hi
     rw[hd] at hj ⊢;obtain⟨u,hu,ho,bt⟩:=p4 i j hi hj;exact⟨u,hu,ho,b1 _ _ _ (ai (hd ▸ hz) i j hi hj) (ad _ _ bt)⟩
  .refine ⟨_,a1 _ _ hc,rfl,by rw[bo];exact Qh _,(λ _=>by rw[hr];simp),(λ _=>hr),(λ hz=>absurd hz (h3 _ hc).2.2.2),λ _ b hb=>by cases hb⟩
 .have a6:∀ i e1 g b,st'.hp i=some e1->M' i=some g->g.blk=some b -> ∃ id e,(id,i)∈ρ/\st.hp id=some e/\M id=some g:=by
   intro i e1 g b p1 p2 p3;rcases hh i e1 p1 with ⟨id,e,hc,he,_⟩ | ⟨hc,_⟩
   .exact ⟨id,e,hc,he,(a2 id i hc).symm.trans p2⟩
   .rw [a1 _ _ hc] at p2
    obtain rfl:=Qf p2
    cases p3
  obtain⟨i1,ea,r1,r2,r3⟩:=a6 i e1 g b q1 q3 q5;obtain⟨i2,eb,s1,s2,s3⟩:=a6 i' e2 g' b q2 q4 q6;have:=ok.hs.inj i1 i2 ea eb g g' b r2 s2 r3 s3 q5 q6;subst this
  .
   have key:∀ (l:List (Nat × Nat)),(l.map (·.1)).Nodup->(i1,i)∈l->(i1,i')∈l->i=i':=by
    intro l
    induction l with
    | nil=>intro _ h;simp at h
    | cons p l ih =>
      intro h9 ha hb;simp only[Qo,Q7,Qi,not_exists,not_and] at h9;rcases Qs.1 ha with ha | ha<;>rcases Qs.1 hb with hb | hb
      .rw [<- ha] at hb;cases hb;rfl
      .exact absurd (by rw[<- ha]) (h9.1 _ hb)
      .exact absurd (by rw[<- hb]) (h9.1 _ ha)
      .exact ih h9.2 ha hb
   exact key ρ h0 r1 s1
 .rcases hf j g hg with h | ⟨s,h,_⟩ | ⟨i,h,_⟩
  .show j<st'.n;omega
  .exact (h3 _ h).2.1
  .exact (h2 _ h).1
 .refine ok.after.step a7 (λ b hb au=>?_) (λ k hk=>a4 k hk) rfl rfl rfl (Qk _) (λ _ _ _=>rfl) ⟨an,λ b cells ty fz h=>⟨cells,fz,h,rfl,λ _ _=>rfl⟩⟩ λ k g b hk hg hy=>?_
  .refine a0 b λ i hi e g q1 q2 q3=>?_
   exact(ok.after.blk q2 q3).elim au (by omega)
  .rcases hf k g hg with h | ⟨s,h,rfl⟩ | ⟨i,h,b3⟩
   .omega
   .cases hy
   .rcases Um i np with b4 | hge
    .exact .inl ⟨i,g,b4,(ok.after.same i b4).symm.trans b3,hy⟩
    .exact ok.after.new i g b hge b3 hy
theorem Le.refl (np:Nat) (st:St):Le np st st:=λ _ _ _ T M _ _ ok hn=>⟨T,M,ok,hn⟩
variable {P:Program} {Q:Gm->St->Prop} {a b:Ey} {af:List (List Nat)} {h:List (Nat × Option AQ)} {aE:List (Option AQ)} {n np sz:Nat} {ops:List Cp} {res:AV} {st:St} {t:List (Nat × AV)}
theorem YH {id:Nat} {op:F3} {xs:List AV} {h:Nat->Option AQ} {K1 K2:AV->List Nat->List (Nat × Option AQ)->Prop} (hk:∀ a b c,K1 a b c->K2 a b c):aK P np id op xs h K1->aK P np id op xs h K2:=by
 by_cases h0:∃ s b x y,op = .app s b/\xs=[x,y]/\¬ ∃ i o l c,x=AV.rk i o l c
 .obtain ⟨s,b,x,y,rfl,rfl,hx⟩:=h0
  simp only[LU hx]
  rintro⟨a,b,c,d,e,f,ha⟩
  exact⟨a,b,c,d,e,f,hk _ _ _ ha⟩
 unfold aK;split<;>intro hx
 all_goals first
  | (exfalso;exact h0 ⟨_,_,_,_,rfl,rfl,λ ⟨_,_,_,_,e⟩=>by subst e;simp_all⟩)
  | exact hx
  | exact hk _ _ _ hx
  | skip
 all_goals try (obtain⟨a1,hx⟩:=hx;first | exact⟨a1,hk _ _ _ hx⟩ | skip)
 all_goals try (obtain⟨a2,hx⟩:=hx;first | exact⟨a1,a2,hk _ _ _ hx⟩ | skip)
 all_goals try (obtain⟨a3,hx⟩:=hx;first | exact⟨a1,a2,a3,hk _ _ _ hx⟩ | skip)
 all_goals try (obtain⟨a4,hx⟩:=hx;first | exact⟨a1,a2,a3,a4,hk _ _ _ hx⟩ | skip)
 all_goals try (obtain⟨a5,hx⟩:=hx;first | exact⟨a1,a2,a3,a4,a5,hk _ _ _ hx⟩ | skip)
 all_goals try (obtain⟨a6,hx⟩:=hx;first | exact⟨a1,a2,a3,a4,a5,a6,hk _ _ _ hx⟩ | skip)
 all_goals try (obtain⟨a7,hx⟩:=hx;first | exact⟨a1,a2,a3,a4,a5,a6,a7,hk _ _ _ hx⟩ | skip)
 all_goals try (obtain⟨a8,hx⟩:=hx;first | exact⟨a1,a2,a3,a4,a5,a6,a7,a8,hk _ _ _ hx⟩ | skip)
 all_goals try exact⟨a1,a2,a3,a4,a5,a6,a7,a8,hx.1,hk _ _ _ hx.2⟩
 .obtain ⟨h1,h2,hx⟩:=hx
  refine⟨a1,a2,a3,a4,a5,a6,a7,a8,h1,h2,?_⟩;split at hx
  .exact ⟨hx.1,hx.2.1,hx.2.2.1,hk _ _ _ hx.2.2.2⟩
  .exact ⟨hx.1,hx.2.1,hx.2.2.1,hk _ _ _ hx.2.2.2⟩
  .exact ⟨hx.1,hx.2.1,hx.2.2.1,hx.2.2.2.1,hk _ _ _ hx.2.2.2.2⟩
  .exact ⟨hx.1,hx.2.1,hk _ _ _ hx.2.2⟩
  .exact hx
 .obtain ⟨h1,h2,h3,h4,h5,h6,h7,hx⟩:=hx
  exact⟨a1,a2,a3,a4,a5,a6,a7,a8,h1,h2,h3,h4,h5,h6,h7,hk _ _ _ hx⟩
 rotate_left
 .obtain ⟨h1,h2,h3,h4,h5,h6,h7,h8,h9,hx⟩:=hx
  exact⟨a1,a2,a3,a4,a5,a6,a7,a8,h1,h2,h3,h4,h5,h6,h7,h8,h9,hk _ _ _ hx⟩
 .obtain ⟨h1,hx⟩:=hx
  refine⟨a1,a2,a3,a4,a5,a6,a7,a8,h1,?_⟩;split at hx<;>rename_i hc
  .rw [if_pos hc];exact hk _ _ _ hx
  .rw [if_neg hc];exact hk _ _ _ hx
theorem F5:∀ (ops:List Cp) (n i:Nat) (st:St) (tr:List (List Nat × List Nat)) (K K':St->List (List Nat × List Nat)->Prop),(∀ s t,K s t->K' s t)->CE P np n i ops st tr K->CE P np n i ops st tr K':=by
 intro ops
 induction ops with
 | nil=>intro n i st tr K K' hK h;exact hK _ _ h
 | cons o os ih =>
   intro n i st tr K K' hK h
   have h0:∀ (op:F3) (xs:List AV) (h:Nat->Option AQ) (K1 K2:AV->List Nat->List (Nat × Option AQ)->Prop),(∀ a b c,K1 a b c->K2 a b c)->aK P np (n+8*i) op xs h K1->aK P np (n+8*i) op xs h K2:=by
    intro op xs h K1 K2 hk hx;exact YH hk hx
   unfold CE at h ⊢
   cases hg:o.guard with
   | none =>
     simp only[hg] at h ⊢;exact h0 _ _ _ _ _ (λ v rd up hh=>ih _ _ _ _ _ _ hK hh) h
   | some gw =>
     obtain⟨g,want⟩:=gw;simp only[hg] at h ⊢;obtain⟨b,hb,h⟩:=h;refine⟨b,hb,?_⟩
     by_cases h1:b=some want
     .rw [if_pos h1] at h ⊢
      exact h0 _ _ _ _ _ (λ v rd up hh=>ih _ _ _ _ _ _ hK hh) h
     .rw [if_neg h1] at h ⊢
      exact ih _ _ _ _ _ _ hK h
theorem Hl:∀ {c:Ey} {Q Q':Gm->St->Prop} {st:St},(∀ e s,Q e s->Q' e s)->A2 P np c Q st->A2 P np c Q' st:=by
 intro c
 induction c with
 | skip=>intro Q Q' st h;exact h _ _
 | reg draw ops after =>
   intro Q Q' st h hw;refine⟨hw.1,?_⟩;exact F5 _ _ _ _ _ _ _ (λ s t h2=>⟨h2.1,h _ _ h2.2⟩) hw.2
 | seq a b iha ihb =>
   intro Q Q' st h hw;refine iha (λ e s hs=>?_) hw
   cases e with
   | normal=>obtain⟨st2,h0,h2⟩:=hs;exact⟨st2,h0,ihb h h2⟩
   | exit id=>exact h _ _ hs
   | ret=>exact h _ _ hs
 | cond c a b iha ihb =>
   intro Q Q' st h hw;obtain⟨t,ht,hw⟩:=hw;refine⟨t,ht,?_⟩
   cases t
   .exact ihb h hw
   .exact iha h hw
 | block id a iha =>
   intro Q Q' st h hw;refine iha (λ e s hs=>?_) hw
   cases e with
   | normal=>exact h _ _ hs
   | exit id' =>
     simp only at hs ⊢
     by_cases hi:id'=id
     .rw [if_pos hi] at hs ⊢;exact h _ _ hs
     .rw [if_neg hi] at hs ⊢;exact h _ _ hs
   | ret=>exact h _ _ hs
 | loop a iha =>
   intro Q Q' st h hw;obtain⟨I,hI,hb⟩:=hw;refine⟨I,hI,λ k s hk=>iha (λ e s hs=>?_) (hb k s hk)⟩
   cases e with
   | normal=>exact hs
   | exit id=>exact h _ _ hs
   | ret=>exact h _ _ hs
 | exit id=>intro Q Q' st h;exact h _ _
 | ret=>intro Q Q' st h;exact h _ _
 | bad=>intro Q Q' st _ h;exact h
theorem AC (h:A2 P np a (λ e st'=>match e with | .normal=>A2 P np b Q st' | e=>Q e st') st):A2 P np (.seq a b) Q st:=by
 show A2 P np a _ st;refine Hl (λ e s hs=>?_) h
 cases e with
 | normal=>exact⟨s,Le.refl _ _,hs⟩
 | exit id=>exact hs
 | ret=>exact hs
theorem Ae {ι:Type} (C:ι->St) (I:ι->Prop) (m:ι->Nat) (i0:ι) (h0:I i0) (h1:Le np st (C i0)) (hb:∀ i,I i->A2 P np a (λ e st'=>match e with | .normal=>∃ j,I j/\m j<m i/\Le np st' (C j) | e=>Q e st') (C i)):A2 P np (.loop a) Q st:=by
 refine⟨λ k s=>∃ i,I i/\m i=k/\s=C i,⟨_,_,h1,i0,h0,rfl,rfl⟩,?_⟩
 rintro k s ⟨i,hi,rfl,rfl⟩
 refine Hl (λ e s hs=>?_) (hb i hi)
 cases e with
 | normal=>obtain⟨j,hj,hm,hl⟩:=hs;exact⟨_,_,hl,⟨j,hj,rfl,rfl⟩,hm⟩
 | exit id=>exact hs
 | ret=>exact hs
theorem Le.lst {st':St} (ρ:List (Nat × Nat)) (sn:List Nat) (nl:List (Nat × Nat)) (h9:st'.sz=st.sz) (h0:(ρ.map (·.1)).Nodup) (h1:(ρ.map (·.2)).Nodup) (h2:∀ p∈ρ,p.2<st'.n/\(p.2<np->p.1=p.2)) (h3:∀ p∈nl,np<=p.1/\p.1<st'.n/\p.1∉ρ.map (·.2)/\p.2≠0) (h4:∀ i∈sn,np<=i/\i∉ρ.map (·.1)) (h5:np<=st'.n) (h6:(nl.map (·.1)).Nodup) (ht:∀ p∈st'.t,Up nl (conv ρ sn st.hp 4 (st.get p.1)) p.2) (hh:∀ p∈st'.h,∀ e',p.2=some e'->(∃ q∈ρ,q.2=p.1 /\ ∃ e,st.hp q.1=some e/\Am nl (Ab ρ sn st.hp 4 e) e')∨((p.1,e'.s)∈nl/\e'.rows=[]/\e'.ro=0)):Le np st st':=by
 refine Le.mk ρ sn nl h9 h0 h1 h2 h3 h4 h5 h6 (λ i=>?_) λ id' e' h7=>?_
 .unfold St.get at *
  cases hl:AW st'.t i with
  | none=>exact .inl (.dead _)
  | some v=>exact ht _ (D1 hl)
 .unfold St.hp at h7
  cases hl:AW st'.h id' with
  | none=>rw[hl] at h7;cases h7
  | some v =>
    rw[hl] at h7;rcases hh _ (D1 hl) e' h7 with ⟨q,hq,hq2,e,he,h⟩ | h
    .obtain ⟨q1,q2⟩:=q
     simp only at hq2;subst hq2;exact .inl ⟨q1,e,hq,he,h⟩
    .exact .inr h
theorem Le.slots {st':St} (h0:st'.sz=st.sz) (hh:st'.h=[]) (ht:∀ p∈st'.t,Wk (conv [] [] st.hp 4 (st.get p.1)) p.2):Le 0 st st' :=
 Le.lst [] [] [] h0 (by simp) (by simp) (by simp) (by simp) (by simp) (Qh _) (by simp) (λ p hp=>.inl (ht p hp)) (by simp[hh])
def Src (P:Program) (f:FuncId) (af:D4):Prop:=P.follows .mixedOrders=true /\ ∃ fn,P.funcs[f]? = some fn/\Jg P fn=some af/\fn.name ≠ "runtime.NumGoroutine"
theorem Src.acalls {f:FuncId} {af:D4} (s:Src P f af) {args:List AV} {hs:List AQ} (h2:args.length<=af.nt) (h1:hs.length<=16) (h0:hs.length<=aE.length) (h:A2 P hs.length af.code (λ e st=>(e = .normal∨e = .ret)/\AS af.res hs.length st res aE) (HN af args hs)):AK P f args hs res aE:=by
 obtain⟨hm,fn,hf,hc,hn⟩:=s;exact cZ hm hf hc hn h2 h1 h0 h
theorem AS.one {t:Nat} (h:Wk (conv [] [] st.hp 4 (st.get t)) res):AS [(t,none)] 0 st res [] :=
 ⟨[st.get t],rfl,[],[],by simp,by simp,by simp,h,rfl⟩
theorem Src.ac {f:FuncId} {af:D4} (s:Src P f af) {args:List AV} {hs:List AQ} (h:A2 P hs.length af.code (λ e st=>(e = .normal∨e = .ret)/\AS af.res hs.length st res aE) (HN af args hs)) (h2:args.length<=af.nt:=by exact CL rfl) (h1:hs.length<=16:=by exact CL rfl) (h0:hs.length<=aE.length:=by first | exact Qk _ | exact Qh _):AK P f args hs res aE:=s.acalls h2 h1 h0 h
theorem Bl {t:Nat} (h:Wk (conv [] [] st.hp 4 (st.get t)) res:=by simp):A2 Tryz.prog 0 .ret (λ e st=>(e = .normal∨e = .ret)/\AS [(t,none)] 0 st res []) st:=⟨.inr rfl,AS.one h⟩
theorem Ac (hd:(ops.all λ o=>o.dst.all (· < sz))=true) (ho:CE P np n 0 ops ⟨sz,t,h,n⟩ [] λ st' _=>Q .normal ⟨st'.sz,st'.t,st'.h,n+8*ops.length⟩):A2 P np (.reg false ops af) Q ⟨sz,t,h,n⟩:=by
 refine⟨hd,?_⟩
 have:(λ (st':St) (tr:List (List Nat × List Nat))=>Q .normal ⟨st'.sz,st'.t,st'.h,n+8*ops.length⟩)=λ st' tr=>(false=true->Hf ops af tr=true)/\Q .normal { st' with n:=(⟨sz,t,h,n⟩:St).n+8*ops.length }:=by
  funext st' tr
  simp
 rw[<- this];exact ho
theorem Ag (s:St) (hd:(ops.all λ o=>o.dst.all (· < sz))=true) (ho:CE P np n 0 ops ⟨sz,t,h,n⟩ [] λ st' _=>(⟨st'.sz,st'.t,st'.h,n+8*ops.length⟩:St)=s) (hq:Q .normal s):A2 P np (.reg false ops af) Q ⟨sz,t,h,n⟩:=by
 refine Ac hd (F5 _ _ _ _ _ (λ st' _=>(⟨st'.sz,st'.t,st'.h,n+8*ops.length⟩:St)=s) _ (λ st' _ h=>?_) ho);subst h;exact hq
theorem AX {s:St} (hq:Q .normal s) (hd:(ops.all λ o=>o.dst.all (· < sz))=true:=by rfl) (ho:CE P np n 0 ops ⟨sz,t,h,n⟩ [] (λ st' _=>(⟨st'.sz,st'.t,st'.h,n+8*ops.length⟩:St)=s):=by simp;rfl):A2 P np (.reg false ops af) Q ⟨sz,t,h,n⟩:=Ag s hd ho hq
theorem Cr (hd:(ops.all λ o=>o.dst.all (· < sz))=true) (ho:CE P np n 0 ops ⟨sz,t,h,n⟩ [] λ st' tr=>Hf ops af tr=true/\Q .normal ⟨st'.sz,st'.t,st'.h,n+8*ops.length⟩):A2 P np (.reg true ops af) Q ⟨sz,t,h,n⟩:=by
 refine⟨hd,?_⟩
 have:(λ (st':St) (tr:List (List Nat × List Nat))=>Hf ops af tr=true/\Q .normal ⟨st'.sz,st'.t,st'.h,n+8*ops.length⟩)=λ st' tr=>(true=true->Hf ops af tr=true)/\Q .normal { st' with n:=(⟨sz,t,h,n⟩:St).n+8*ops.length }:=by
  funext st' tr
  simp
 rw[<- this];exact ho
theorem AE {c:EG} (t:Bool) (hc:c.ev st.get = .sc (.bool t)) (h1:t=true->A2 P np a Q st) (h2:t=false->A2 P np b Q st):A2 P np (.cond c a b) Q st:=by
 refine⟨t,hc,?_⟩
 cases t
 .exact h2 rfl
 .exact h1 rfl
theorem JE {s:St} {tr:List (List Nat × List Nat)} (hd:(ops.all λ o=>o.dst.all (· < sz))=true) (ho:CE P np n 0 ops ⟨sz,t,h,n⟩ [] λ st' tr'=>(⟨st'.sz,st'.t,st'.h,n+8*ops.length⟩:St)=s/\tr'=tr) (hr:Hf ops af tr=true) (hq:Q .normal s):A2 P np (.reg true ops af) Q ⟨sz,t,h,n⟩:=by
 refine Cr hd (F5 _ _ _ _ _ (λ st' tr'=>(⟨st'.sz,st'.t,st'.h,n+8*ops.length⟩:St)=s/\tr'=tr) _ (λ st' tr' h=>?_) ho);obtain⟨rfl,rfl⟩:=h;exact⟨hr,hq⟩
theorem AJ (h:Q .normal st):A2 P np .skip Q st:=h
theorem BG (h:Q .ret st):A2 P np .ret Q st:=h
theorem Aa {id:Nat} (h:Q (.exit id) st):A2 P np (.exit id) Q st:=h
theorem hit {i:Nat} {a b:Prop} (h:a):if i=i then a else b:=by rw[if_pos rfl];exact h
theorem I9 {i j:Nat} {a b:Prop} (hn:i≠j) (h:b):if i=j then a else b:=by rw[if_neg hn];exact h
theorem AL {id:Nat} (h:A2 P np a (λ e st'=>match e with | .exit id'=>if id'=id then Q .normal st' else Q (.exit id') st' | e=>Q e st') st):A2 P np (.block id a) Q st:=h
theorem FO {ι:Type} (C:ι->St) (I:ι->Prop) (ha:A2 P np a (λ e st'=>match e with | .normal=>∃ j,I j/\Le np st' (C j) | e=>Q e st') st) (hb:∀ j,I j->A2 P np b Q (C j)):A2 P np (.seq a b) Q st:=by
 show A2 P np a _ st;refine Hl (λ e s hs=>?_) ha
 cases e with
 | normal=>obtain⟨j,hj,hl⟩:=hs;exact⟨C j,hl,hb j hj⟩
 | exit id=>exact hs
 | ret=>exact hs
theorem Ao (C:St) (ha:A2 P np a (λ e st'=>match e with | .normal=>Le np st' C | e=>Q e st') st) (hb:A2 P np b Q C):A2 P np (.seq a b) Q st :=
 FO (ι:=Unit) (λ _=>C) (λ _=>True) (Hl (λ e s h=>by cases e with | normal=>exact⟨(),trivial,h⟩ | exit i=>exact h | ret=>exact h) ha) λ _ _=>hb
theorem A9 {rs:List (Nat × Option (Bool × Nat))} (h:AS rs np st res aE):A2 Tryz.prog np .ret (λ e st=>(e = .normal∨e = .ret)/\AS rs np st res aE) st:=⟨.inr rfl,h⟩
variable {K:AV->List Nat->List (Nat × Option AQ)->Prop} {P:Program} {Q:Gm->St->Prop} {af:List (List Nat)} {args aA aF cs first xs:List AV} {b aI:Bool} {aD c j l np off s sz:Nat} {f:FuncId} {g:Nat->AV} {h:List (Nat × Option AQ)} {k k':IntKind} {n:Int} {ops:List Cp} {res v x y:AV} {rows:List (List AV)} {t:List (Nat × AV)} {z:List Value}
section
variable {P:Program} {np id:Nat} {h:Nat->Option AQ} {K:AV->List Nat->List (Nat × Option AQ)->Prop}
@[simp] theorem pU:aK P np id .mv [x] h K=K x [] []:=(rfl)
@[simp] theorem xY {t:Bool} {a b:AV}:aK P np id .pick [.sc (.bool t),a,b] h K=K (if t then a else b) [] []:=by
 refine propext ⟨?_,λ hk=>⟨t,rfl,hk⟩⟩
 rintro⟨t',ht,hk⟩
 cases ht;exact hk
@[simp] theorem zI:aK P np id (.alloc z) [] h K=K (.pt id 0 0) [] [(id,some { s:=z.length,rows:=[z.map .sc] })]:=(rfl)
@[simp] theorem y6:aK P np id (.box s) [x] h K = ∃ cs,cellsOf x=some cs/\cs.length=s/\K (.pt id 0 0) [] [(id,some { s:=s,rows:=[cs] })]:=(rfl)
@[simp] theorem yX {z ps xs}:aK P np id (.build z ps) xs h K = ∃ cs,E7 (z.map .sc) ps xs=some cs/\K (.agg cs) [] []:=(rfl)
@[simp] theorem zEC {s len z ps xs}:aK P np id (.bsl s len z ps) xs h K = ∃ rows,Dn s (List.replicate len (z.map .sc)) ps xs=some rows/\z.length=s/\K (.rs id 0 len) [] [(id,some { s:=s,rows:=rows })]:=(rfl)
@[simp] theorem yB:aK P np id (.ld true s) [x] h K = ∃ cs,Gf h x=some cs/\s<=cs.length/\K (.agg (cs.take s)) (CQ x) []:=(rfl)
@[simp] theorem xQ:aK P np id (.ld false s) [x] h K = ∃ cs,Gf h x=some cs/\s<=cs.length/\K (cs.headD .dead) (CQ x) []:=(rfl)
@[simp] theorem rV {i k:Nat}:aK P np id (.st s) [.pt i k j,x] h K = ∃ e row cs,h i=some e/\e.rows[k]? = some row/\e.ro<=k/\cellsOf x=some cs/\cs.length=s/\j+s<=row.length /\
   K .dead [i] [(i,some { e with rows:=e.rows.set k (Ay row j cs) })]:=(rfl)
@[simp] theorem zDg {i k:Nat}:aK P np id .nil [.pt i k j] h K=K (.pt i k j) [] []:=propext ⟨λ h=>h.2,λ h=>⟨trivial,h⟩⟩
@[simp] theorem zZ:aK P np id .nil [.pv cs] h K=K (.pv cs) [] []:=propext ⟨λ h=>h.2,λ h=>⟨trivial,h⟩⟩
@[simp] theorem zEt {op:BinOp} {a b:Value}:aK P np id (.bin op) [.sc a,.sc b] h K = ∃ v,AH op a b=some v/\K (.sc v) [] []:=(rfl)
@[simp] theorem zER {a:Bool}:aK P np id (.beq aI) [.sc (.bool a),.sc (.bool b)] h K=K (.sc (.bool ((a == b) != aI))) [] []:=(rfl)
def JV (o:Option Bool) (aI:Bool) (K:AV->List Nat->List (Nat × Option AQ)->Prop):Prop:=∃ b,o=some b/\K (.sc (.bool (b != aI))) [] []
@[simp] theorem x5 {ks:List Nat} {ys:List AV}:aK P np id (.aeq aI ks) [.agg xs,.agg ys] h K=JV (Dp ks xs ys) aI K:=(rfl)
@[simp] theorem zCa:JV (some b) aI K=K (.sc (.bool (b != aI))) [] []:=by simp[JV]
@[simp] theorem zDD {f:Bool} {row:List AV}:aK P np id (.snil aI) [.vs s f (row::rows)] h K=K (.sc (.bool aI)) [] []:=(rfl)
@[simp] theorem y9 {a:Option Addr}:aK P np id (.snil aI) [.sc (.slice a l c)] h K=K (.sc (.bool (a.isNone != aI))) [] []:=(rfl)
@[simp] theorem zEx {i len:Nat}:aK P np id (.clr s z) [.rs i off len] h K = ∃ e,h i=some e/\e.s=s/\z.length=s/\e.ro<=off/\off+len<=e.rows.length /\
   K .dead [i] [(i,some { e with rows:=e.rows.take off++List.replicate len (z.map .sc)++e.rows.drop (off+len) })]:=(rfl)
@[simp] theorem dT {op:UnOp} {a:Value}:aK P np id (.un op) [.sc a] h K = ∃ v,J3 op a=some v/\K (.sc v) [] []:=(rfl)
@[simp] theorem x6:aK P np id (.cvt k) [.sc (.int k' n)] h K=K (.sc (.int k (k.wrap n))) [] []:=(rfl)
@[simp] theorem zJ:aK P np id .b2s [x] h K = ∃ rows bs,C8 1 h x=some rows/\Is rows=some bs/\K (.sc (.string ⟨bs.toArray⟩)) (CQ x) []:=(rfl)
@[simp] theorem zK {t:TypeId}:aK P np id (.mki t) [x] h K=K (.ifc t x) [] []:=(rfl)
@[simp] theorem zCD {t:TypeId}:aK P np id .nil [.ifc t x] h K=K (.ifc t x) [] []:=propext ⟨λ h=>h.2,λ h=>⟨trivial,h⟩⟩
@[simp] theorem xS:aK P np id (.mkf f) xs h K=K (.fn (.func f) [] xs) [] []:=(rfl)
@[simp] theorem zES:aK P np id (.mkb f) xs h K=K (.fn (.func f) xs []) [] []:=(rfl)
@[simp] theorem zQ {s aD z k k' l c}:aK P np id (.mks s aD z) [.sc (.int k l),.sc (.int k' c)] h K=(0<=l/\l<=c/\c*aD<=140737488355328/\c<=140737488355328/\z.length=s /\
   K (.rs id 0 l.toNat) [] [(id,some { s:=s,rows:=List.replicate l.toNat (z.map .sc) })]):=(rfl)
theorem GA {lo hi mx:Bool} {bs:List AV}:aK P np id (.slc s lo hi mx) (x::bs) h K = ∃ l r m:Nat,∃ n,lenOf x=some n/\l<=r /\
        bs=(if lo then [AV.I l] else [])++(if hi then [AV.I r] else [])++(if mx then [AV.I m] else [])/\(lo=false->l=0)/\(hi=false->r=n)/\(mx=true->hi=true) /\
        match x with
        | .vs s' f rows=>r<=n/\(mx=true->m=r)/\s'=s/\K (.vs s (mx || (f && !hi)) ((rows.drop l).take (r - l))) [] []
        | .rs i off _=>r<=n/\mx=false/\(∃ e,h i=some e/\e.s=s)/\K (.rs i (off+l) (r - l)) [i] []
        | .rk i off _ c=>r<=m/\m<=c/\(mx=false->m=c)/\(∃ e,h i=some e/\e.s=s)/\K (.rk i (off+l) (r - l) (m - l)) [i] []
        | .sc (.slice none 0 0)=>r<=n/\(mx=true->m=r)/\K .nilS [] []
        | _=>False:=(rfl)
@[simp] theorem xO {i len:Nat}:aK P np id .cap [.rk i off len c] h K=K (AV.I c) [] []:=(rfl)
@[simp] theorem yJ {i len:Nat}:aK P np id (.app s aD) [.rk i off len c,y] h K = ∃ new e,C8 s h y=some new/\h i=some e/\e.s=s/\off+len<=e.rows.length/\e.ro<=off+len/\(len+new.length)*aD<=140737488355328/\len+new.length<=140737488355328 /\
   if len+new.length<=c then K (.rk i off (len+new.length) c) (i::CQ y) [(i,some { e with rows:=e.rows.take (off+len)++new++e.rows.drop (off+len+new.length) })]
   else K (.rs id 0 (len+new.length)) (i::CQ y) [(id,some { s:=s,rows:=(e.rows.drop off).take len++new,ro:=0 })]:=(rfl)
@[simp] theorem yT {i len:Nat}:aK P np id (.cpy s) [.rk i off len c,y] h K = ∃ e new m,h i=some e/\e.s=s/\e.ro<=off/\off<=e.rows.length/\lenOf y=some m/\C8 s h (Ec (min m len) y)=some new /\
   K (AV.I (min m len:Nat)) (i::CQ y) [(i,some { e with rows:=e.rows.take off++new++e.rows.drop (off+min m len) })]:=(rfl)
@[simp] theorem zN {i len:Nat}:aK P np id (.clr s z) [.rk i off len c] h K = ∃ e,h i=some e/\e.s=s/\z.length=s/\e.ro<=off/\off+len<=e.rows.length /\
   K .dead [i] [(i,some { e with rows:=e.rows.take off++List.replicate len (z.map .sc)++e.rows.drop (off+len) })]:=(rfl)
@[simp] theorem zD0:aK P np id .cap [.sc (.slice none 0 0)] h K=K (AV.I 0) [] []:=(rfl)
@[simp] theorem zDW:aK P np id (.apz s aD z) [.sc (.slice none 0 0),.sc (.int k n)] h K=(z.length=s/\0<n/\n.toNat*aD<=140737488355328/\n.toNat<=140737488355328 /\
   K (.rs id 0 n.toNat) [] [(id,some { s:=s,rows:=List.replicate n.toNat (z.map .sc),ro:=0 })]):=(rfl)
@[simp] theorem zEu {i len:Nat}:aK P np id (.apz s aD z) [.rk i off len c,.sc (.int k n)] h K = ∃ e,h i=some e/\e.s=s/\z.length=s/\off+len<=e.rows.length/\0<n/\c<len+n.toNat/\(len+n.toNat)*aD<=140737488355328/\len+n.toNat<=140737488355328 /\
   K (.rs id 0 (len+n.toNat)) [i] [(id,some { s:=s,rows:=(e.rows.drop off).take len++List.replicate n.toNat (z.map .sc),ro:=0 })]:=(rfl)
@[simp] theorem zE1 {s' i len:Nat} {f:Bool}:aK P np id (.ovl s) [.vs s' f rows,.rk i off len c] h K = ∃ e,h i=some e/\s'=s/\e.s=s/\e.ro<=off/\K (.sc (.bool false)) [i] []:=(rfl)
@[simp] theorem yU {n:Nat} {f:Bool}:Ec n (.vs s f rows) = .vs s false (rows.take n):=(rfl)
@[simp] theorem xL {n id len:Nat}:Ec n (.rs id off len) = .rs id off (min n len):=(rfl)
@[simp] theorem yG {n id len:Nat}:Ec n (.rk id off len c) = .rk id off (min n len) c:=(rfl)
@[simp] theorem zD2:aK P np id (.fad off) [.pv cs] h K=(off<=cs.length/\K (.pv (cs.drop off)) [] []):=(rfl)
@[simp] theorem zT {i k:Nat}:aK P np id (.fad off) [.pt i k j] h K=K (.pt i k (j+off)) [] []:=(rfl)
@[simp] theorem zD1:aK P np id (.fld true off s) [.agg cs] h K=(off+s<=cs.length/\K (.agg ((cs.drop off).take s)) [] []):=(rfl)
@[simp] theorem yS:aK P np id (.fld false off s) [.agg cs] h K=(off+s<=cs.length/\K (cs.getD off .dead) [] []):=(rfl)
@[simp] theorem xM {s':Nat} {f:Bool}:aK P np id (.iad s) [.vs s' f rows,.sc (.int k n)] h K=(s'=s/\0<=n /\ ∃ row,rows[n.toNat]? = some row/\K (.pv row) [] []):=(rfl)
@[simp] theorem zDX {i len:Nat}:aK P np id (.iad s) [.rs i off len,.sc (.int k n)] h K=(0<=n/\n<len/\(∃ e,h i=some e/\e.s=s)/\K (.pt i (off+n.toNat) 0) [i] []):=(rfl)
@[simp] theorem zDZ {i k:Nat} {kd:IntKind}:aK P np id (.iaa l s) [.pt i k j,.sc (.int kd n)] h K=(0<=n/\n<l/\K (.pt i k (j+n.toNat*s)) [] []):=(rfl)
@[simp] theorem xG {kd:IntKind}:aK P np id (.iaa l s) [.pv cs,.sc (.int kd n)] h K=(0<=n/\n<l/\l*s<=cs.length/\K (.pv (cs.drop (n.toNat*s))) [] []):=(rfl)
@[simp] theorem zEF {b:ByteArray}:aK P np id .ixs [.sc (.string b),.sc (.int k n)] h K=(0<=n /\ ∃ c,b.data.toList[n.toNat]? = some c/\K (.sc (.int .u8 c.toNat)) [] []):=(rfl)
@[simp] theorem xH:aK P np id (.ixv l) [.agg cs,.sc (.int k n)] h K=(0<=n/\n<l/\l<=cs.length/\K (cs.getD n.toNat .dead) [] []):=(rfl)
@[simp] theorem zC {i:Nat} {vs:List AV}:aK P np id (.ext i) [.tup vs] h K = ∃ v,vs[i]? = some v/\K v [] []:=(rfl)
theorem P9 (hx:¬ ∃ i o l c,x = .rk i o l c):aK P np id (.app s aD) [x,y] h K=(∃ new old,C8 s h y=some new/\Em s h new x=some old/\(old.1.length+new.length)*aD<=140737488355328 /\
   old.1.length+new.length<=140737488355328 /\
   K (.rs id 0 (old.1.length+new.length)) (CQ x++CQ y) ((id,some { s:=s,rows:=old.1++new,ro:=old.2.1 })::old.2.2)):=LU hx
@[simp] theorem zS:aK P np id (.app s aD) [.nilS,y] h K = ∃ new,C8 s h y=some new/\new.length*aD<=140737488355328/\new.length<=140737488355328/\K (.rs id 0 new.length) (CQ y) [(id,some { s:=s,rows:=new,ro:=0 })]:=by
 rw[P9 (by simp)]
 refine propext ⟨?_,?_⟩
 .rintro ⟨new,old,h1,h2,h3,h4,h5⟩
  cases h2;exact⟨new,h1,by simpa using h3,by simpa using h4,by simpa [CQ] using h5⟩
 .rintro ⟨new,h1,h3,h4,h5⟩
  exact⟨new,_,h1,rfl,by simpa using h3,by simpa using h4,by simpa [CQ] using h5⟩
@[simp] theorem zO {i len:Nat}:aK P np id (.app s aD) [.rs i off len,y] h K = ∃ new e,C8 s h y=some new/\h i=some e/\e.s=s/\off+len<=e.rows.length/\e.ro<=off+len/\(len+new.length)*aD<=140737488355328/\len+new.length<=140737488355328 /\
  K (.rs id 0 (len+new.length)) (i::CQ y) [(id,some { s:=s,rows:=(e.rows.drop off).take len++new,ro:=e.ro - off }),(i,none)]:=by
 rw[P9 (by simp)]
 refine propext ⟨?_,?_⟩
 .rintro ⟨new,old,h1,h2,h3,h4,h5⟩
  simp only[Em,Ul] at h2;obtain⟨e,he,h2⟩:=h2;split at h2
  case isFalse=>cases h2
  rename_i hc
  cases h2;have hl:((e.rows.drop off).take len).length=len:=by simp;omega
  simp only[hl] at h3 h4 h5;exact⟨new,e,h1,he,hc.1,hc.2.1,hc.2.2,h3,h4,by simpa [CQ] using h5⟩
 .rintro ⟨new,e,h1,he,c1,c2,c3,h3,h4,h5⟩
  have hl:((e.rows.drop off).take len).length=len:=by simp;omega
  refine⟨new,((e.rows.drop off).take len,e.ro - off,[(i,none)]),h1,by simp[Em,he,c1,c2,c3],by simpa only[hl] using h3,by simpa only[hl] using h4,?_⟩
  simpa [CQ,hl] using h5
@[simp] theorem zEc:aK P np id (.app s aD) [.vs s true rows,y] h K = ∃ new,C8 s h y=some new/\(rows=[]∨new≠[])/\(rows.length+new.length)*aD<=140737488355328/\rows.length+new.length<=140737488355328 /\
  K (.rs id 0 (rows.length+new.length)) (CQ y) [(id,some { s:=s,rows:=rows++new,ro:=0 })]:=by
 rw[P9 (by simp)]
 refine propext ⟨?_,?_⟩
 .rintro ⟨new,old,h1,h2,h3,h4,h5⟩
  simp only[Em] at h2;split at h2
  case isFalse=>cases h2
  rename_i hc
  cases h2;exact⟨new,h1,hc.2,h3,h4,by simpa [CQ] using h5⟩
 .rintro ⟨new,h1,hc,h3,h4,h5⟩
  exact⟨new,(rows,0,[]),h1,by show (if s=s/\_ then _ else _)=_;rw[if_pos ⟨rfl,hc⟩],h3,h4,by simpa [CQ] using h5⟩
@[simp] theorem zD9 {b:ByteArray}:aK P np id .apps [x,.sc (.string b)] h K=(∃ old,Em 1 h (HQ b) x=some old/\old.1.length+b.size<=140737488355328 /\
   K (.rs id 0 (old.1.length+b.size)) (CQ x) ((id,some { s:=1,rows:=old.1++HQ b,ro:=old.2.1 })::old.2.2)):=(rfl)
@[simp] theorem x8:aK P np id .len [x] h K = ∃ n:Nat,lenOf x=some n/\K (AV.I n) [] []:=(rfl)
@[simp] theorem zA {b:ByteArray}:aK P np id .lens [.sc (.string b)] h K=K (AV.I b.size) [] []:=(rfl)
@[simp] theorem xJ {i len:Nat}:aK P np id (.cpy s) [.rs i off len,y] h K = ∃ e new,h i=some e/\e.s=s/\e.ro<=off/\off+len<=e.rows.length/\C8 s h y=some new /\
   K (AV.I (min new.length len:Nat)) (i::CQ y) [(i,some { e with rows:=e.rows.take off++new.take (min new.length len)++e.rows.drop (off+min new.length len) })]:=(rfl)
@[simp] theorem zEz:aK P np id .mkm [] h K=K (.mp id) [] [(id,some { s:=0,rows:=[] })]:=(rfl)
@[simp] theorem zB {z:Value} {i:Nat}:aK P np id (.mlk z false) [.mp i,.sc (.int .i64 n)] h K = ∃ e,h i=some e/\e.s=0/\K ((DW n e.rows).getD (C3 z)) [i] []:=(rfl)
@[simp] theorem xE {z:Value} {i:Nat}:aK P np id (.mlk z true) [.mp i,.sc (.int .i64 n)] h K = ∃ e,h i=some e/\e.s=0/\K (.tup [(DW n e.rows).getD (C3 z),.sc (.bool (DW n e.rows).isSome)]) [i] []:=(rfl)
@[simp] theorem yQ {i:Nat}:aK P np id .mup [.mp i,.sc (.int .i64 n),x] h K = ∃ e,h i=some e/\e.s=0/\K .dead [i] [(i,some { e with rows:=Bc n x e.rows })]:=(rfl)
@[simp] theorem zEY {i:Nat}:aK P np id .mdl [.mp i,.sc (.int .i64 n)] h K = ∃ e,h i=some e/\e.s=0/\K (.tup []) [i] [(i,some { e with rows:=Cm n e.rows,ro:=0 })]:=(rfl)
@[simp] theorem zEP {a b:Int}:aK P np id .mx2 [.sc (.int k a),.sc (.int k' b)] h K=K (.sc (.int k (if a<b then b else a))) [] []:=(rfl)
@[simp] theorem zY {a b:Int}:aK P np id .mn2 [.sc (.int k a),.sc (.int k' b)] h K=K (.sc (.int k (if b<a then b else a))) [] []:=(rfl)
end
section
variable {P:Program} {np n i:Nat} {os:List Cp} {st:St} {tr:List (List Nat × List Nat)} {K:St->List (List Nat × List Nat)->Prop}
@[simp] theorem zF:CE P np n i [] st tr K=K st tr:=(rfl)
@[simp] theorem aU {d:Option Nat} {op:F3} {xs:List EG}:CE P np n i (⟨d,op,xs,none⟩::os) st tr K=aK P np (n+8*i) op (xs.map (·.ev st.get)) st.hp λ v rd up=>CE P np n (i+1) os ((st.put d v).upd up) (tr++[(rd,up.map (·.1))]) K:=(rfl)
def Fx (P:Program) (np n i:Nat) (b:Option (Option Bool)) (want:Bool) (d:Option Nat) (op:F3) (xs:List EG) (os:List Cp) (st:St) (tr:List (List Nat × List Nat)) (K:St->List (List Nat × List Nat)->Prop):Prop :=
 ∃ c,b=some c/\if c=some want then aK P np (n+8*i) op (xs.map (·.ev st.get)) st.hp λ v rd up=>CE P np n (i+1) os ((st.put d v).upd up) (tr++[(rd,up.map (·.1))]) K else CE P np n (i+1) os (st.put d (.tup [])) (tr++[([],[])]) K
section
variable {d:Option Nat} {op:F3} {xs:List EG} {os:List Cp}
@[simp] theorem zL {g:Nat} {h0:Bool}:CE P np n i (⟨d,op,xs,some (g,h0)⟩::os) st tr K=Fx P np n i (Ie (st.get g)) h0 d op xs os st tr K:=(rfl)
@[simp] theorem jN:Fx P np n i (some (some true)) true d op xs os st tr K=aK P np (n+8*i) op (xs.map (·.ev st.get)) st.hp λ v rd up=>CE P np n (i+1) os ((st.put d v).upd up) (tr++[(rd,up.map (·.1))]) K:=by simp[Fx]
@[simp] theorem oJ:Fx P np n i (some (some false)) false d op xs os st tr K=aK P np (n+8*i) op (xs.map (·.ev st.get)) st.hp λ v rd up=>CE P np n (i+1) os ((st.put d v).upd up) (tr++[(rd,up.map (·.1))]) K:=by simp[Fx]
@[simp] theorem u9:Fx P np n i (some (some true)) false d op xs os st tr K=CE P np n (i+1) os (st.put d (.tup [])) (tr++[([],[])]) K:=by simp[Fx]
@[simp] theorem iB:Fx P np n i (some (some false)) true d op xs os st tr K=CE P np n (i+1) os (st.put d (.tup [])) (tr++[([],[])]) K:=by simp[Fx]
@[simp] theorem Zj {h0:Bool}:Fx P np n i (some none) h0 d op xs os st tr K=CE P np n (i+1) os (st.put d (.tup [])) (tr++[([],[])]) K:=by simp[Fx]
theorem Dd {w:Bool} (h1:b=true->Fx P np n i (some (some true)) w d op xs os st tr K) (h2:b=false->Fx P np n i (some (some false)) w d op xs os st tr K):Fx P np n i (some (some b)) w d op xs os st tr K:=by
 cases b
 .exact h2 rfl
 .exact h1 rfl
@[simp] theorem yZ:Ie (.sc (.bool b))=some (some b):=(rfl)
@[simp] theorem zEy:Ie (.tup [])=some none:=(rfl)
end
@[simp] theorem xU {n:Nat} {i:Nat}:(⟨sz,[],h,n⟩:St).get i = .dead:=(rfl)
@[simp] theorem y4 {n:Nat} {i:Nat}:(⟨sz,(j,v)::t,h,n⟩:St).get i=if j=i then v else (⟨sz,t,h,n⟩:St).get i:=by
 show (if j=i then some v else AW t i).getD .dead=if j=i then v else (AW t i).getD .dead
 split<;>rfl
@[simp] theorem zEs {n:Nat} {i:Nat}:(⟨sz,t,[],n⟩:St).hp i=none:=(rfl)
@[simp] theorem Fg {n:Nat} {i:Nat} {v:Option AQ}:(⟨sz,t,(j,v)::h,n⟩:St).hp i=if j=i then v else (⟨sz,t,h,n⟩:St).hp i:=by
 show (if j=i then some v else AW h i).getD none=if j=i then v else (AW h i).getD none
 split<;>rfl
@[simp] theorem yL {n d:Nat}:(⟨sz,t,h,n⟩:St).put (some d) v=⟨sz,(d,v)::t,h,n⟩:=(rfl)
@[simp] theorem zEo:st.put none v=st:=(rfl)
@[simp] theorem zET {n:Nat}:(⟨sz,t,h,n⟩:St).upd []=⟨sz,t,h,n⟩:=(rfl)
@[simp] theorem xR {n:Nat} {us:List (Nat × Option AQ)}:(⟨sz,t,h,n⟩:St).upd us=⟨sz,t,us++h,n⟩:=(rfl)
@[simp] theorem xX {i:Nat}:EG.ev g (.t i)=g i:=(rfl)
@[simp] theorem e_i {n:Int}:EG.ev g (.c (.int k n)) = .sc (.int k n):=(rfl)
@[simp] theorem zP:EG.ev g (.c (.bool b)) = .sc (.bool b):=(rfl)
@[simp] theorem e_f:EG.ev g (.f f) = .fn (.func f) [] []:=(rfl)
end
theorem F8:∀ (xs:List AV),Ez xs xs
 | []=>trivial
 | x::xs=>⟨.refl x,F8 xs⟩
theorem lP {id:Nat} {h:Nat->Option AQ} (hc:AK P f aA [] res []) (hw:Ez ((first++args++aF).map (conv [] [] h 4)) aA) (hk:K (conv (((List.range 8).map (id + ·)).zipIdx.map λ (a,b)=>(b,a)) [] (λ _=>none) 4 res) [] []):aK P np id .call (.fn (.func f) first aF::args) h K :=
 ⟨[],[],true,aA,[],res,[],by simp,by simp,by simp,hw,rfl,hc,by simp,.inl rfl,hk⟩
theorem EU {id:Nat} {h:Nat->Option AQ} (f0:Nat) (hf:Nat.beq f f0=true) (hk:aK P np id .call (.fn (.func f0) first aF::args) h K):aK P np id .call (.fn (.func f) first aF::args) h K:=by
 have e:f=f0:=Nat.eq_of_beq_eq_true hf;rw[e];exact hk
theorem Aq {id:Nat} {h:Nat->Option AQ} (hc:AK P f aA [] res []) (he:(first++args++aF).map (conv [] [] h 4)=aA) (hk:K (conv (((List.range 8).map (id + ·)).zipIdx.map λ (a,b)=>(b,a)) [] (λ _=>none) 4 res) [] []):aK P np id .call (.fn (.func f) first aF::args) h K :=
 lP hc (by rw[he];exact F8 _) hk
theorem Hk {id:Nat} {h:Nat->Option AQ} (sn:List Nat) (hc:AK P f aA [] res []) (he:(first++args++aF).map (conv [] sn h 4)=aA) (hp:Plain res) (hk:K (conv (((List.range 8).map (id + ·)).zipIdx.map λ (a,b)=>(b,a)) [] (λ _=>none) 4 res) sn []):aK P np id .call (.fn (.func f) first aF::args) h K :=
 ⟨[],sn,false,aA,[],res,[],by simp,by simp,by simp,by rw[Vp,he];exact F8 _,rfl,hc,by simp,.inr ⟨hp,by simp⟩,hk⟩
@[simp] theorem zDh:Ez [] []=True:=(rfl)
@[simp] theorem zCX {ys:List AV}:Ez (x::xs) (y::ys)=(Wk x y/\Ez xs ys):=(rfl)
attribute [simp] Wk.nil Wk.dead Wk.full
theorem Jz {x:Int} (h1 : -9223372036854775808<=x) (h2:x<9223372036854775808):IntKind.i64.wrap x=x:=by rw[IntKind.wrap_i64];omega
theorem Aj {id:Nat} {h:Nat->Option AQ} (hc:AK P f aA [] res []) (hk:K (conv (((List.range 8).map (id + ·)).zipIdx.map λ (a,b)=>(b,a)) [] (λ _=>none) 4 res) [] []) (he:(first++args++aF).map (conv [] [] h 4)=aA:=by simp):aK P np id .call (.fn (.func f) first aF::args) h K:=Aq hc he hk
theorem wq {k:Nat} (h:k<9223372036854775807:=by omega):IntKind.i64.wrap ((k:Int)+1)=((k+1:Nat):Int):=by rw[Jz (by omega) (by omega)];omega
theorem w6 {x:Int} (h1 : -9223372036854775808<=x:=by omega) (h2:x<9223372036854775808:=by omega):IntKind.i64.wrap x=x:=Jz h1 h2
attribute [simp] AH J3 Wk.refl Ay Dp
section
variable {s s' id i j off len n:Nat} {f:Bool} {rows new:List (List AV)} {cs xs ys:List AV} {h:Nat->Option AQ} {ρ:List (Nat × Nat)} {sn:List Nat} {v:Value}
@[simp] theorem zCS:lenOf (.vs s f rows)=some rows.length:=(rfl)
@[simp] theorem zCV:lenOf (.rs id off len)=some len:=(rfl)
@[simp] theorem yP:lenOf (.rk id off len c)=some len:=(rfl)
@[simp] theorem zM:CQ (.rk id off len c)=[id]:=(rfl)
@[simp] theorem zA7:cellsOf (.rk id off len c)=some [.rk id off len c]:=(rfl)
@[simp] theorem yY:C8 s h (.rk id off len c)=(h id).bind λ e=>if e.s=s/\off+len<=e.rows.length then some ((e.rows.drop off).take len) else none:=(rfl)
@[simp] theorem zBs:lenOf .nilS=some 0:=(rfl)
@[simp] theorem zBd:Gf h (.pv cs)=some cs:=(rfl)
@[simp] theorem yI:Gf h (.pt id i j)=(h id).bind λ e=>(e.rows[i]?).map (·.drop j):=(rfl)
@[simp] theorem zAP:cellsOf (.agg cs)=some cs:=(rfl)
@[simp] theorem zBg:cellsOf (.vs s f rows)=some [.vs s f rows]:=(rfl)
@[simp] theorem zBb:cellsOf (.rs id off len)=some [.rs id off len]:=(rfl)
@[simp] theorem zU:cellsOf (.pt id i j)=some [.pt id i j]:=(rfl)
@[simp] theorem x7:cellsOf (.pv cs)=some [.pv cs]:=(rfl)
@[simp] theorem zAU {n:Int}:cellsOf (.sc (.int k n))=some [.sc (.int k n)]:=(rfl)
@[simp] theorem zR:cellsOf (.sc (.bool b))=some [.sc (.bool b)]:=(rfl)
@[simp] theorem zxO {b:ByteArray}:cellsOf (.sc (.string b))=some [.sc (.string b)]:=(rfl)
@[simp] theorem zAT:cellsOf .nilS=some [.nilS]:=(rfl)
@[simp] theorem zD {g:Fn}:cellsOf (.fn g xs ys)=some [.fn g xs ys]:=(rfl)
@[simp] theorem zCQ:CQ (.vs s f rows)=[]:=(rfl)
@[simp] theorem zV:CQ (.rs id off len)=[id]:=(rfl)
@[simp] theorem xV:CQ (.pt id i j)=[id]:=(rfl)
@[simp] theorem zCW:CQ (.pv cs)=[]:=(rfl)
@[simp] theorem zCP:CQ (.sc v)=[]:=(rfl)
@[simp] theorem xN:C8 s h (.vs s f rows)=some rows:=if_pos rfl
@[simp] theorem xZ:C8 s h (.rs id off len)=(h id).bind λ e=>if e.s=s/\off+len<=e.rows.length then some ((e.rows.drop off).take len) else none:=(rfl)
@[simp] theorem yV:C8 s h .nilS=some []:=(rfl)
@[simp] theorem zE:Em s h new .nilS=some ([],0,[]):=(rfl)
@[simp] theorem zBe:Em s h new (.rs id off len)=(h id).bind λ e=>if e.s=s/\off+len<=e.rows.length/\e.ro<=off+len then some ((e.rows.drop off).take len,e.ro - off,[(id,none)]) else none:=(rfl)
@[simp] theorem zCK {n:Int}:C3 (.int k n) = .sc (.int k n):=(rfl)
@[simp] theorem zCj:C3 (.bool b) = .sc (.bool b):=(rfl)
@[simp] theorem zAS {b:ByteArray}:C3 (.string b) = .sc (.string b):=(rfl)
@[simp] theorem zA9 {a:Option Addr}:C3 (.slice a l c) = .sc (.slice a l c):=(rfl)
@[simp] theorem yM:conv ρ sn h (n+1) (.vs s f rows) = .vs s f rows:=(rfl)
@[simp] theorem zDa:conv ρ sn h (n+1) (.sc v) = .sc v:=(rfl)
@[simp] theorem yA:conv ρ sn h (n+1) (.pv cs) = .pv cs:=(rfl)
@[simp] theorem zEh {α:Type} {i:Nat}:AW ([]:List (Nat × α)) i=none:=(rfl)
@[simp] theorem zEn {α:Type} {i j:Nat} {a:α} {l:List (Nat × α)}:AW ((j,a)::l) i=if j=i then some a else AW l i:=(rfl)
@[simp] theorem zDE:conv ρ sn h (n+1) (.rs id off len)=(match AW ρ id with
   | some k=>.rs k off len
   | none =>
     if id∈sn then
      match h id with
      | some e=>if off+len<=e.rows.length then .vs e.s false (((e.rows.drop off).take len).map (·.map (conv [] sn h n))) else .dead
      | none=>.dead
     else .dead):=(rfl)
@[simp] theorem zDy:conv ρ sn h (n+1) (.rk id off len c)=(match AW ρ id with
   | some k=>.rs k off len
   | none =>
     if id∈sn then
      match h id with
      | some e=>if off+len<=e.rows.length then .vs e.s false (((e.rows.drop off).take len).map (·.map (conv [] sn h n))) else .dead
      | none=>.dead
     else .dead):=(rfl)
@[simp] theorem xK:conv ρ sn h (n+1) (.pt id i j)=(match AW ρ id with
   | some k=>.pt k i j
   | none =>
     if id∈sn then
      match h id with
      | some e=>match e.rows[i]? with | some row=>if j<=row.length then .pv ((row.drop j).map (conv [] sn h n)) else .dead | none=>.dead
      | none=>.dead
     else .dead):=(rfl)
@[simp] theorem yR {i:Nat}:conv ρ sn h (n+1) (.mp i)=(match AW ρ i with
 | some k=>.mp k
 | none=>.dead):=(rfl)
@[simp] theorem yK:conv ρ sn h (n+1) (.agg cs) = .agg (cs.map (conv ρ sn h n)):=(rfl)
@[simp] theorem zCI:conv ρ sn h (n+1) (.tup cs) = .tup (cs.map (conv ρ sn h n)):=(rfl)
end
def Jp (ops:List Cp) (af:List (List Nat)) (tr:List (List Nat × List Nat)):Prop:=Hf ops af tr=true
theorem D9 {n:Nat} {b:Ey} (s:St) (hd:(ops.all λ o=>o.dst.all (· < sz))=true) (ho:CE P np n 0 ops ⟨sz,t,h,n⟩ [] λ st' _=>Le np ⟨st'.sz,st'.t,st'.h,n+8*ops.length⟩ s) (hq:A2 P np b Q s):A2 P np (.seq (.reg false ops af) b) Q ⟨sz,t,h,n⟩:=by
 show A2 P np (.reg false ops af) (λ e st'=>match e with | .normal=>∃ st2,Le np st' st2/\A2 P np b Q st2 | e=>Q e st') _
 exact Ac hd (F5 _ _ _ _ _ _ _ (λ st' _ h=>⟨s,h,hq⟩) ho)
theorem KF {n:Nat} {b:Ey} (s:St) (hd:(ops.all λ o=>o.dst.all (· < sz))=true) (ho:CE P np n 0 ops ⟨sz,t,h,n⟩ [] λ st' tr=>Jp ops af tr/\Le np ⟨st'.sz,st'.t,st'.h,n+8*ops.length⟩ s) (hq:A2 P np b Q s):A2 P np (.seq (.reg true ops af) b) Q ⟨sz,t,h,n⟩:=by
 show A2 P np (.reg true ops af) (λ e st'=>match e with | .normal=>∃ st2,Le np st' st2/\A2 P np b Q st2 | e=>Q e st') _
 exact Cr hd (F5 _ _ _ _ _ _ _ (λ st' _ h=>⟨h.1,s,h.2,hq⟩) ho)
theorem arc {n:Nat} {b:Ey} (s:St) (ho:CE P np n 0 ops ⟨sz,t,h,n⟩ [] λ st' _=>Le np ⟨st'.sz,st'.t,st'.h,n+8*ops.length⟩ s) (hq:A2 P np b Q s) (hd:(ops.all λ o=>o.dst.all (· < sz))=true:=by rfl):A2 P np (.seq (.reg false ops af) b) Q ⟨sz,t,h,n⟩:=D9 s hd ho hq
theorem CW {n:Nat} {b:Ey} (s:St) (ho:CE P np n 0 ops ⟨sz,t,h,n⟩ [] λ st' tr=>Jp ops af tr/\Le np ⟨st'.sz,st'.t,st'.h,n+8*ops.length⟩ s) (hq:A2 P np b Q s) (hd:(ops.all λ o=>o.dst.all (· < sz))=true:=by rfl):A2 P np (.seq (.reg true ops af) b) Q ⟨sz,t,h,n⟩:=KF s hd ho hq
theorem Le.snap {st st':St} (sn:List Nat) (h0:st'.sz=st.sz) (hh:st'.h=[]) (ht:∀ p∈st'.t,Wk (conv [] sn st.hp 4 (st.get p.1)) p.2):Le 0 st st' :=
 Le.lst [] sn [] h0 (by simp) (by simp) (by simp) (by simp) (by simp) (Qh _) (by simp) (λ p hp=>.inl (ht p hp)) (by simp[hh])
theorem A5 {st st':St} (sn:List Nat) (ht:∀ p∈st'.t,Wk (conv [] sn st.hp 4 (st.get p.1)) p.2) (h0:st'.sz=st.sz:=by rfl) (hh:st'.h=[]:=by rfl):Le 0 st st':=Le.snap sn h0 hh ht
variable {a b res:AV} {e:AQ} {aE:List (Option AQ)} {st:St}
attribute [simp] E7 Dn Gn JA EH Ab Nat.succ_eq_add_one
@[simp] theorem y5 {g:Nat->AV} {a:Option Addr} {l c:Nat}:EG.ev g (.c (.slice a l c)) = .sc (.slice a l c):=(rfl)
@[simp] theorem yN {g:Nat->AV} {b:ByteArray}:EG.ev g (.c (.string b)) = .sc (.string b):=(rfl)
theorem AS.out {rs:List (Nat × Option (Bool × Nat))} {vs:List AV} (ex sn:List Nat) (h1:Gn st rs=some vs) (h2:ex.Nodup) (h3:∀ i∈sn,i∉ex) (hw:Wk (conv ex.zipIdx sn st.hp 4 (EH vs)) res) (he:ex.map (λ i=>(st.hp i).map (Ab ex.zipIdx sn st.hp 4))=aE):AS rs 0 st res aE:=by
 refine⟨vs,h1,ex,sn,by simpa using h2,by simp,λ i hi=>⟨h3 i hi,Qh _⟩,?_,?_⟩
 .simpa using hw
 .simpa using he
theorem B7 {rs:List (Nat × Option (Bool × Nat))} {vs:List AV} (ex sn:List Nat) (h1:Gn st rs=some vs:=by rfl) (h2:ex.Nodup:=by simp) (h3:∀ i∈sn,i∉ex:=by simp) (hw:Wk (conv ex.zipIdx sn st.hp 4 (EH vs)) res:=by simp) (he:ex.map (λ i=>(st.hp i).map (Ab ex.zipIdx sn st.hp 4))=aE:=by simp[AB]):A2 Tryz.prog 0 .ret (λ e st=>(e = .normal∨e = .ret)/\AS rs 0 st res aE) st:=⟨.inr rfl,AS.out ex sn h1 h2 h3 hw he⟩
theorem Db {a' b':AV} (h1:Wk a a') (h2:Wk b b'):Wk (.tup [a,b]) (.tup [a',b']) :=
 .tup _ _ rfl λ i=>match i with | 0=>h1 | 1=>h2 | _+2=>.refl _
theorem Aw {a b:Bool} (h:a=b):Wk (.B a) (.B b):=by subst h;exact .refl _
theorem GI (h:a=b):Wk a b:=by subst h;exact .refl _
theorem zpQ {P:Program} {f:FuncId} {s:Nat} {b:Bool} {hs:List AQ} (h:∀ a c,AK P f [.sc (.slice a 0 c)] hs res aE):AK P f [.vs s b []] hs res aE:=by
 refine⟨(h none 0).1,(h none 0).2.1,λ T M w vs h1 h2 h3 hr=>?_⟩;have h0:=hr.2 0 (by simp)
 have hv:∃ a c,vs.getD 0 undef = .slice a 0 c:=by
  generalize vs.getD 0 undef=v at h0
  cases h0;exact⟨_,_,rfl⟩
 obtain⟨a,c,hv⟩:=hv;refine(h a c).2.2 T M w vs h1 h2 h3 ⟨hr.1,λ i hi=>?_⟩;have:i=0:=by simpa using hi
 subst this;rw[hv];exact .sc _ _ rfl
theorem MK (hs:List AQ):Ha (hs.map some)=Cs hs:=by
 funext k
 simp only[Ha,Cs,QA]
 cases hs[k]?<;>rfl
def C9 (ids:List Nat) (id:Nat):List (Nat × Nat):=(ids++(List.range 8).map (id + ·)).zipIdx.map λ (a,b)=>(b,a)
@[simp] theorem Z6 {id:Nat}:C9 [] id=[(0,id),(1,id+1),(2,id+2),(3,id+3),(4,id+4),(5,id+5),(6,id+6),(7,id+7)]:=(rfl)
@[simp] theorem YX {a id:Nat}:C9 [a] id=[(0,a),(1,id),(2,id+1),(3,id+2),(4,id+3),(5,id+4),(6,id+5),(7,id+6),(8,id+7)]:=(rfl)
@[simp] theorem Yt {a b id:Nat}:C9 [a,b] id=[(0,a),(1,b),(2,id),(3,id+1),(4,id+2),(5,id+3),(6,id+4),(7,id+5),(8,id+6),(9,id+7)]:=(rfl)
section
variable {P:Program} {np id:Nat} {h:Nat->Option AQ} {K:AV->List Nat->List (Nat × Option AQ)->Prop} {s s':Nat} {f:Bool} {rows:List (List AV)} {k l:Nat}
@[simp] theorem fH:aK P np id (.slc s false true false) [.vs s' f rows,.sc (.int .i64 (k:Int))] h K=(k<=rows.length/\s'=s/\K (.vs s false (rows.take k)) [] []):=by
 rw[GA];refine propext ⟨?_,?_⟩
 .rintro ⟨l,r,m,n,h1,h2,h4,h5,h6,h7,h3,h0,h8,h9⟩
  obtain rfl:=h5 rfl;simp at h4 h1;subst h1;have:k=r:=by omega
  subst this;exact⟨h3,h8,by simpa using h9⟩
 .rintro ⟨h1,h2,h3⟩
  exact⟨0,k,0,rows.length,rfl,Qh _,by simp,λ _=>rfl,(λ h=>by cases h),(λ h=>by cases h),h1,(λ h=>by cases h),h2,by simpa using h3⟩
@[simp] theorem vK:aK P np id (.slc s true false false) [.vs s' f rows,.sc (.int .i64 (k:Int))] h K=(k<=rows.length/\s'=s/\K (.vs s f (rows.drop k)) [] []):=by
 rw[GA];refine propext ⟨?_,?_⟩
 .rintro ⟨l,r,m,n,h1,h2,h4,h5,h6,h7,h3,h0,h8,h9⟩
  obtain rfl:=h6 rfl;simp at h4 h1;subst h1;have:k=l:=by omega
  subst this;refine⟨h2,h8,?_⟩;have e:(rows.drop k).take (rows.length - k)=rows.drop k:=Qb (by simp)
  simpa [e] using h9
 .rintro ⟨h1,h2,h3⟩
  have e:(rows.drop k).take (rows.length - k)=rows.drop k:=Qb (by simp)
  exact⟨k,rows.length,0,rows.length,rfl,h1,by simp,(λ h=>by cases h),λ _=>rfl,(λ h=>by cases h),Qk _,(λ h=>by cases h),h2,by simpa [e] using h3⟩
end
section
variable {P:Program} {np id:Nat} {h:Nat->Option AQ} {K:AV->List Nat->List (Nat × Option AQ)->Prop} {f:FuncId} {first aF args aA:List AV} {res:AV}
theorem E2 (hc:AK P f aA [] res [some e]) (he:(first++args++aF).map (conv [] [] h 4)=aA) (hk:K (conv (C9 [] id) [] (λ _=>none) 4 res) [] [(id,some (Ab (C9 [] id) [] (λ _=>none) 4 e))]):aK P np id .call (.fn (.func f) first aF::args) h K :=
 ⟨[],[],true,aA,[],res,[some e],by simp,by simp,by simp,by rw[Vp,he];exact F8 _,rfl,hc,by simp,.inl rfl,hk⟩
theorem CV (hc:AK P f aA [] res [some e]) (hk:K (conv (C9 [] id) [] (λ _=>none) 4 res) [] [(id,some (Ab (C9 [] id) [] (λ _=>none) 4 e))]) (he:(first++args++aF).map (conv [] [] h 4)=aA:=by simp):aK P np id .call (.fn (.func f) first aF::args) h K:=E2 hc he hk
theorem NJ {e2:AQ} (hc:AK P f aA [] res [some e,some e2]) (he:(first++args++aF).map (conv [] [] h 4)=aA) (hk:K (conv (C9 [] id) [] (λ _=>none) 4 res) [] [(id,some (Ab (C9 [] id) [] (λ _=>none) 4 e)),(id+1,some (Ab (C9 [] id) [] (λ _=>none) 4 e2))]):aK P np id .call (.fn (.func f) first aF::args) h K :=
 ⟨[],[],true,aA,[],res,[some e,some e2],by simp,by simp,by simp,by rw[Vp,he];exact F8 _,rfl,hc,by simp,.inl rfl,hk⟩
theorem Cq {i:Nat} {e':AQ} (hi:h i=some e) (h0:Ab [(i,0)] [] h 4 e=e') (hc:AK P f aA [e'] res aE) (h8:aE.length<=9) (he:(first++args++aF).map (conv [(i,0)] [] h 4)=aA) (hk:K (conv (C9 [i] id) [] (λ _=>none) 4 res) [i] (aE.zipIdx.map λ (e,k)=>((i::(List.range 8).map (id + ·)).getD k 0,e.map (Ab (C9 [i] id) [] (λ _=>none) 4)))):aK P np id .call (.fn (.func f) first aF::args) h K :=
 ⟨[i],[],true,aA,[e'],res,aE,by simp,by simp,by simp,by rw[show [i].zipIdx=[(i,0)] from rfl,he];exact F8 _,by rw[show [i].zipIdx=[(i,0)] from rfl];simpa [hi] using h0,hc,by simpa using h8,.inl rfl,by simpa [C9] using hk⟩
end
theorem Am.rfl' {nl:List (Nat × Nat)} (h:e.ro<=e.rows.length):Am nl e e:=⟨rfl,Qk _,h,.inl rfl⟩
theorem Le.var1 {st':St} (i:Nat) (sn:List Nat) {e0:AQ} (h1:st'.sz=st.sz) (hh:st'.h=[(i,some e)]) (hi:i<st'.n) (hs:∀ j∈sn,j≠i) (h0:st.hp i=some e0) (he:Ab [(i,i)] sn st.hp 4 e0=e) (hr:e.ro<=e.rows.length) (ht:∀ p∈st'.t,Wk (conv [(i,i)] sn st.hp 4 (st.get p.1)) p.2):Le 0 st st' :=
 Le.lst [(i,i)] sn [] h1 (by simp) (by simp) (by simp[hi]) (by simp) (λ j hj=>⟨Qh _,by simpa using hs j hj⟩) (Qh _) (by simp) (λ p hp=>.inl (ht p hp)) (λ p hp e' h2=>by
  rw[hh] at hp;simp at hp;subst hp
  cases h2
  exact .inl ⟨(i,i),by simp,rfl,e0,h0,by rw[he];exact Am.rfl' hr⟩)
theorem Le.ren1 {st':St} (i j:Nat) (sn:List Nat) {e0:AQ} (h1:st'.sz=st.sz) (hh:st'.h=[(j,some e)]) (hi:j<st'.n) (hs:∀ j∈sn,j≠i) (h0:st.hp i=some e0) (he:Ab [(i,j)] sn st.hp 4 e0=e) (hr:e.ro<=e.rows.length) (ht:∀ p∈st'.t,Wk (conv [(i,j)] sn st.hp 4 (st.get p.1)) p.2):Le 0 st st' :=
 Le.lst [(i,j)] sn [] h1 (by simp) (by simp) (by simp[hi]) (by simp) (λ j hj=>⟨Qh _,by simpa using hs j hj⟩) (Qh _) (by simp) (λ p hp=>.inl (ht p hp)) (λ p hp e' h2=>by
  rw[hh] at hp;simp at hp;subst hp
  cases h2
  exact .inl ⟨(i,j),by simp,rfl,e0,h0,by rw[he];exact Am.rfl' hr⟩)
theorem FM {c a' b' c':AV} (h1:Wk a a') (h2:Wk b b') (h3:Wk c c'):Wk (.agg [a,b,c]) (.agg [a',b',c']) :=
 .agg _ _ rfl λ i=>match i with | 0=>h1 | 1=>h2 | 2=>h3 | _+3=>.refl _
section
variable {H:Type} {P:Program}
def Dx (P:Program):Nat->TypeId->DataW H->Option (List AV)
 | 0,_,_=>none
 | n+1,t,d =>
   match P.underlying t,d with
   | some .bool,.lit (.bool b)=>some [.sc (.bool b)]
   | some (.int k),.lit (.int k' x)=>if k'=k/\(Lit.int k' x).wf=true then some [.sc (.int k' x)] else none
   | some .string,.lit (.string l)=>some [.sc (.string ⟨l.toArray⟩)]
   | some (.slice _),.nil=>some [.nilS]
   | some (.slice e),.slice es _=>if es.length<=9223372036854775807 then (es.mapM (Dx P n e)).map λ rows=>[.vs (P.cellsOf e) false rows] else none
   | some (.struct fs),.agg ds=>if ds.length=fs.size then ((fs.toList.zip ds).mapM λ (x:Field × DataW H)=>Dx P n x.1.type x.2).map List.flatten else none
   | some (.array m e),.agg ds=>if ds.length=m then (ds.mapM (Dx P n e)).map List.flatten else none
   | _,_=>none
def Hd (P:Program) (p:TypeId->Bool):Nat->List Field->Option Nat
 | o,[]=>some o
 | o,f::fs=>if f.offset=o/\p f.type=true then Hd P p (o+P.cellsOf f.type) fs else none
def G7 (P:Program):Nat->TypeId->Bool
 | 0,_=>false
 | n+1,t =>
   match P.underlying t with
   | some .bool=>true
   | some (.int _)=>true
   | some .string=>true
   | some (.slice e)=>decide (0<P.cellsOf e) && G7 P n e
   | some (.struct fs)=>Hd P (G7 P n) 0 fs.toList == some (P.cellsOf t)
   | some (.array m e)=>G7 P n e && decide (m*P.cellsOf e=P.cellsOf t)
   | _=>false
def TF (w:World) (b:Nat):Nat:=match w.heap[b]? with | some (.cells cells _ _)=>cells.size | _=>0
theorem fM (w:World):Hw (TF w) w:=by
 intro b hb;unfold TF at hb ⊢;split at hb
 .rename_i cells ty fz h
  exact⟨cells,ty,fz,h,Qk _⟩
 .exact absurd hb (Nat.lt_irrefl _)
def EC (w:World) (xs:List AV) (cs:List Value):Prop :=
 xs.length=cs.length /\ ∀ i,i<xs.length->(cs.getD i undef).oneCell'=true/\Ad (TF w) w (λ _=>none) (xs.getD i .dead) (cs.getD i undef)
theorem EC.one {w:World} {x:AV} {v:Value} (h1:v.oneCell'=true) (h:Ad (TF w) w (λ _=>none) x v):EC w [x] [v]:=by
 refine⟨rfl,λ i hi=>?_⟩;obtain rfl:i=0:=by simpa using hi
 exact⟨h1,h⟩
theorem EC.append {w:World} {xs ys:List AV} {cs ds:List Value} (h1:EC w xs cs) (h2:EC w ys ds):EC w (xs++ys) (cs++ds):=by
 refine⟨by simp[h1.1,h2.1],λ i hi=>?_⟩
 rcases Um i xs.length with h | h
 .have:=h1.2 i h
  simpa [List.getD,QJ h,QJ (show i<cs.length from h1.1 ▸ h)] using this
 .have h3:i - xs.length<ys.length:=by simp at hi;omega
  have:=h2.2 (i - xs.length) h3
  simpa [List.getD,Qv h,Qv (show cs.length<=i from h1.1 ▸ h),<- h1.1] using this
theorem RQ {α β:Type} {f:α->Option β}:∀ {l:List α},(∀ a∈l,∃ b,f a=some b) -> ∃ bs,l.mapM f=some bs/\bs.length=l.length /\ ∀ (i:Nat) a,l[i]? = some a -> ∃ b,bs[i]? = some b/\f a=some b
 | [],_=>⟨[],rfl,rfl,by simp⟩
 | a::l,h=>by
   obtain⟨b,hb⟩:=h a Qn;obtain⟨bs,h1,h2,h3⟩:=RQ (l:=l) λ x hx=>h x (Ql _ hx);refine⟨b::bs,by rw[Vl,hb,h1];rfl,by simp[h2],λ i x hi=>?_⟩
   cases i with
   | zero=>simp at hi;subst hi;exact⟨b,rfl,hb⟩
   | succ i=>simpa using h3 i x (by simpa using hi)
variable {enc:TypeId × Value->H} {w:World} {sp:Nat->Bool} {aH:Bool}
theorem LR:∀ (n:Nat) (t:TypeId),G7 P n t=true -> ∀ (m:Nat) (cs:List Value) (x:DataW H × List MemPlace),DataW.trod enc P w 0 sp aH m t cs=some x -> ∃ xs,Dx P n t x.1=some xs/\EC w xs cs
 | 0,_,h,_,_,_,_=>by cases h
 | n+1,t,h,0,cs,x,hx=>by simp[DataW.trod] at hx
 | n+1,t,h,m+1,cs,x,hx=>by
   simp only[G7] at h
   cases hu:P.underlying t with
   | none=>rw[hu] at h;cases h
   | some td =>
     rw[hu] at h
     cases td<;>simp only at h<;>(try (cases h;done))
     case slice e =>
      simp only[QM,Qd] at h;rcases DataW.trod_slice hu hx with ⟨rfl,rfl⟩ | ⟨a,len,cap,elems,rest,k,_,rfl,rfl,_,hl,a7,hq,h7,_,_⟩
      .exact ⟨[.nilS],by simp[Dx,hu],.one rfl (.sc _ _ rfl)⟩
      .obtain ⟨bs,h1,h2,h3⟩:=RQ (f:=Dx P n e) (l:=elems.map (·.1)) (λ d hd=>by
        obtain⟨y,hy,rfl⟩:=Qi.1 hd;obtain⟨i,hi,rfl⟩:=QG.1 hy;have:=h7 i (by omega)
        rw[Qc hi] at this
        cases hc:w.cells? 0 (a.add (i*P.cellsOf e)) (P.cellsOf e) with
        | none=>rw[hc] at this;cases this
        | some rc =>
          rw[hc] at this;obtain⟨xs,ha,_⟩:=LR n e h.2 _ _ _ this
          exact⟨xs,ha⟩)
       have h9:∀ i,i<len -> ∃ row rc,bs[i]? = some row/\w.cells? 0 (a.add (i*P.cellsOf e)) (P.cellsOf e)=some rc/\EC w row rc:=by
        intro i hi;have hi':i<elems.length:=by omega
        have:=h7 i hi;rw[Qc hi'] at this
        cases hc:w.cells? 0 (a.add (i*P.cellsOf e)) (P.cellsOf e) with
        | none=>rw[hc] at this;cases this
        | some rc =>
          rw[hc] at this;obtain⟨xs,ha,hx2⟩:=LR n e h.2 _ _ _ this;obtain⟨row,a2,h4⟩:=h3 i elems[i].1 (by simp[hi'])
          rw[ha] at h4;obtain rfl:=Qf h4;exact⟨_,rc,a2,rfl,hx2⟩
       have he:bs.length=len:=by simpa [hq] using h2
       have hw:elems.length<=9223372036854775807:=by
        have e:maxLen=9223372036854775807:=by decide
        omega
       refine⟨[.vs (P.cellsOf e) false bs],by simp[Dx,hu,h1,hw],.one rfl ?_⟩
       rw[<- he]
       have h0:∀ i j,i<len->j<P.cellsOf e -> ∃ v,w.cell? (a.add (i*P.cellsOf e+j))=some v/\v.oneCell'=true/\Ad (TF w) w (λ _=>none) ((bs.getD i []).getD j .dead) v:=by
        intro i j hi hj;obtain⟨row,rc,q1,q2,q3⟩:=h9 i hi;obtain⟨_,q4,q5⟩:=World.cells?_some q2;have q6:=q5 j hj;have q7:=q3.2 j (by rw[q3.1,q4];exact hj)
        have e1:bs.getD i []=row:=by simp[List.getD,q1]
        have e2:rc[j]? = some (rc.getD j undef):=by
         have:j<rc.length:=by omega
         simp[List.getD,this]
        have e3:(a.add (i*P.cellsOf e)).add j=a.add (i*P.cellsOf e+j):=by
         unfold Addr.add
         by_cases c1:i*P.cellsOf e=0<;>by_cases c2:j=0<;>simp[c1,c2]<;>omega
        rw[e3] at q6;exact⟨_,by rw[q6,e2],q7.1,by rw[e1];exact q7.2⟩
       refine .vs _ _ _ _ (some a) cap (λ i j=>(w.cell? (a.add (i*P.cellsOf e+j))).getD undef) (λ h=>by cases h) (by omega) (λ row hr=>?_) (λ a3=>?_) (λ i j hi hj=>?_) λ i j hi hj=>?_
       .obtain ⟨i,hi,rfl⟩:=QG.1 hr
        obtain⟨row,rc,q1,q2,q3⟩:=h9 i (by omega)
        obtain⟨_,q4,_⟩:=World.cells?_some q2;rw[Qc hi] at q1;obtain rfl:=Qf q1;rw[q3.1,q4]
       .have a0:0<len:=by
         rw[<- he]
         cases bs with
         | nil=>exact absurd rfl a3
         | cons _ _=>simp
        obtain⟨v0,h5,_⟩:=h0 0 0 a0 h.1;obtain⟨b,off,spot⟩:=a;have hh:spot=none:=by simpa [Addr.add] using World.cell?_spot h5
        subst hh;have h6:∀ k,(⟨b,off,none⟩:Addr).add k=⟨b,off+k,none⟩:=λ k=>by unfold Addr.add;split<;>simp_all
        cases hb:w.heap[b]? with
        | none=>rw[h6] at h5;simp[World.cell?,hb] at h5
        | some o =>
          cases o with
          | cells cells ty fz =>
            have hc:∀ i j,i<len->j<P.cellsOf e -> ∃ v,cells[off+i*P.cellsOf e+j]? = some v/\w.cell? ((⟨b,off,none⟩:Addr).add (i*P.cellsOf e+j))=some v:=by
             intro i j hi hj;obtain⟨v,hv,_⟩:=h0 i j hi hj;refine⟨v,?_,hv⟩;rw[h6] at hv
             simpa [World.cell?,hb,UL] using hv
            refine⟨b,off,cells,ty,fz,rfl,hb,?_,λ i j hi hj=>?_⟩
            .obtain ⟨v,hv,_⟩:=hc (len - 1) (P.cellsOf e - 1) (by omega) (by omega)
             have:=(QQ.1 hv).1
             have e5:bs.length*P.cellsOf e=(len - 1)*P.cellsOf e+P.cellsOf e:=by
              rw[he];obtain⟨q,rfl⟩:∃ q,len=q+1:=⟨len - 1,by omega⟩
              simp[QI]
             have e6:TF w b=cells.size:=by simp[TF,hb]
             omega
            .obtain ⟨v,hv,a4⟩:=hc i j (by omega) hj
             rw[hv,a4];rfl
          | _=>rw[h6] at h5;simp[World.cell?,hb] at h5
       .obtain ⟨v,hv,ho,_⟩:=h0 i j (by omega) hj
        rw[hv];exact ho
       .obtain ⟨v,hv,_,hr⟩:=h0 i j (by omega) hj
        rw[hv];exact hr
     case struct fs =>
      simp only[beq_iff_eq] at h;obtain⟨ys,k,_,rfl,hk,a1,h7⟩:=DataW.trod_struct hu hx
      have key:∀ (fl:List Field) (o e:Nat) (zs:List (DataW H × List MemPlace)),Hd P (G7 P n) o fl=some e->zs.length=fl.length ->
        (∀ (i:Nat) f,fl[i]? = some f->DataW.trod enc P w 0 sp aH k f.type ((cs.drop f.offset).take (P.cellsOf f.type))=zs[i]?) ->
        ∃ l,((fl.zip (zs.map (·.1))).mapM λ (x:Field × DataW H)=>Dx P n x.1.type x.2)=some l/\EC w l.flatten ((cs.drop o).take (e - o))/\o<=e:=by
       intro fl
       induction fl with
       | nil =>
         intro o e zs h1 h2 _;simp only[Hd,Qt] at h1;subst h1;exact⟨[],rfl,by simp[EC],Qk _⟩
       | cons f fl ih =>
         intro o e zs h1 h2 h3
         cases zs with
         | nil=>simp at h2
         | cons z zs =>
           simp only[Hd] at h1;split at h1
           case isFalse=>cases h1
           rename_i hc;obtain⟨rfl,hp⟩:=hc;have hz:=h3 0 f rfl;simp only[List.getElem?_cons_zero] at hz;obtain⟨row,r1,r2⟩:=LR n f.type hp _ _ _ hz;obtain⟨l,l1,l2,l3⟩:=ih _ e zs h1 (by simpa using h2) λ i g hg=>by simpa using h3 (i+1) g (by simpa using hg)
           refine⟨row::l,by simp[Vl,r1,l1],?_,by omega⟩
           have e1:(cs.drop f.offset).take (e - f.offset)=(cs.drop f.offset).take (P.cellsOf f.type)++(cs.drop (f.offset+P.cellsOf f.type)).take (e - (f.offset+P.cellsOf f.type)):=by
            rw[show e - f.offset=P.cellsOf f.type+(e - (f.offset+P.cellsOf f.type)) by omega,List.take_add,List.drop_drop]
           rw[e1,List.flatten_cons];exact r2.append l2
      obtain⟨l,l1,l2,_⟩:=key fs.toList 0 _ ys h (by simpa using a1) (λ i f hf=>h7 i f (by simpa using hf))
      refine⟨l.flatten,by simp[Dx,hu,l1,a1],?_⟩
      rw[List.drop_zero,Nat.sub_zero,<- hk,QO] at l2;exact l2
     case array q e =>
      simp only[QM,Qd] at h;rw[DataW.trod_step] at hx;unfold DataW.trodStep at hx;simp only[hu] at hx;split at hx
      case isFalse=>cases hx
      rename_i hk;simp only[Qw] at hx;obtain⟨zs,a5,rfl⟩:=hx
      have key:∀ (m' k:Nat) (zs:List (DataW H × List MemPlace)),((List.range' k m').mapM λ i=>DataW.trod enc P w 0 sp aH m e ((cs.drop (i*P.cellsOf e)).take (P.cellsOf e)))=some zs ->
        ∃ l,(zs.map (·.1)).mapM (Dx P n e)=some l/\EC w l.flatten ((cs.drop (k*P.cellsOf e)).take (m'*P.cellsOf e))/\zs.length=m':=by
       intro m'
       induction m' with
       | zero =>
         intro k zs h1;simp at h1;subst h1;exact⟨[],rfl,by simp[EC],rfl⟩
       | succ m' ih =>
         intro k zs h1;rw[List.range'_succ,Vl] at h1
         cases hz:DataW.trod enc P w 0 sp aH m e ((cs.drop (k*P.cellsOf e)).take (P.cellsOf e)) with
         | none=>rw[hz] at h1;simp at h1
         | some z =>
           rw[hz] at h1
           cases hr:((List.range' (k+1) m').mapM λ i=>DataW.trod enc P w 0 sp aH m e ((cs.drop (i*P.cellsOf e)).take (P.cellsOf e))) with
           | none=>rw[hr] at h1;simp at h1
           | some zs' =>
             rw[hr] at h1;simp at h1;subst h1;obtain⟨row,r1,r2⟩:=LR n e h.1 _ _ _ hz;obtain⟨l,l1,l2,l3⟩:=ih (k+1) zs' hr;refine⟨row::l,by simp[Vl,r1,l1],?_,by simp[l3]⟩
             have e1:(cs.drop (k*P.cellsOf e)).take ((m'+1)*P.cellsOf e)=(cs.drop (k*P.cellsOf e)).take (P.cellsOf e)++(cs.drop ((k+1)*P.cellsOf e)).take (m'*P.cellsOf e):=by
              rw[show (m'+1)*P.cellsOf e=P.cellsOf e+m'*P.cellsOf e by rw[QI,Nat.one_mul,Nat.add_comm],List.take_add,List.drop_drop,show k*P.cellsOf e+P.cellsOf e=(k+1)*P.cellsOf e by rw[QI,Nat.one_mul]]
             rw[e1,List.flatten_cons];exact r2.append l2
      obtain⟨l,l1,l2,l3⟩:=key q 0 zs (by rw[<- UV];exact a5)
      refine⟨l.flatten,by simp[Dx,hu,l1,l3],?_⟩
      rw[Nat.zero_mul,List.drop_zero,h.2,<- hk,QO] at l2;exact l2
     all_goals
      rw[DataW.trod_step] at hx;unfold DataW.trodStep at hx;simp only[hu] at hx
     case bool =>
      rcases cs with _ | ⟨c,_ | ⟨c2,cs⟩⟩<;>(try (simp at hx;done))
      cases c<;>simp at hx
      subst hx;exact⟨_,by simp[Dx,hu],.one rfl (.sc _ _ rfl)⟩
     case int k =>
      rcases cs with _ | ⟨c,_ | ⟨c2,cs⟩⟩<;>(try (simp at hx;done))
      cases c<;>simp at hx
      obtain⟨⟨rfl,a6⟩,rfl⟩:=hx;exact⟨_,by simp[Dx,hu,a6],.one rfl (.sc _ _ rfl)⟩
     case string =>
      rcases cs with _ | ⟨c,_ | ⟨c2,cs⟩⟩<;>(try (simp at hx;done))
      cases c<;>simp at hx
      obtain⟨_,rfl⟩:=hx;rename_i s _;exact⟨[.sc (.string s)],by simp[Dx,hu],.one rfl (.sc _ _ rfl)⟩
end
end Go.Proofs.YtkngdgplbojdlaaGreat
namespace Go.Proofs.YtkngdgplbojdlaaGreat
open Go Go.ChangeShapes Go.WideShapes Go.ChangeAt Go.RowKit
variable {base n:Nat} {r:Go.Reach}
section
variable {H:Type} {P:Program}
def FD (P:Program) (n:Nat) (t:TypeId) (d:DataW H):Option AV :=
 match P.underlying t with
 | some (.struct _)=>(Dx P n t d).map .agg
 | some (.array _ _)=>(Dx P n t d).map .agg
 | _=>(Dx P n t d).bind fun | [x]=>some x | _=>none
variable {enc:TypeId × Value->H} {W:World} {sp:Nat->Bool} {aH:Bool}
theorem iM {t:TypeId} (hp:G7 P n t=true) {v:Value} {d:DataW H} {p:List MemPlace} (h0:Value.okWide P W r base t v) (h:DataW.Trod enc P W 0 sp aH t v d p) :
  ∃ x,FD P n t d=some x/\Ad (TF W) W (λ _=>none) x v:=by
 obtain⟨m,hm⟩:=h;obtain⟨xs,h1,h2⟩:=LR n t hp m _ _ hm;simp only at h1
 cases n with
 | zero=>cases hp
 | succ n =>
   simp only[G7] at hp
   cases hu:P.underlying t with
   | none=>rw[hu] at hp;cases hp
   | some td =>
     rw[hu] at hp
     have one:(∀ cs,v ≠ .agg cs)->(∀ fs,td ≠ .struct fs)->(∀ m e,td ≠ .array m e) -> ∃ x,FD P (n+1) t d=some x/\Ad (TF W) W (λ _=>none) x v:=by
      intro hv ht h4
      have hc:v.cells = #[v]:=by
       cases v<;>first | rfl | exact absurd rfl (hv _)
      rw[hc] at h2;obtain⟨hl,h3⟩:=h2
      match xs,hl with
      | [x],_ =>
        refine⟨x,?_,?_⟩
        .simp only[FD,hu]
         cases td<;>first | exact absurd rfl (ht _) | exact absurd rfl (h4 _ _) | simp[h1]
        .simpa using (h3 0 (by simp)).2
     cases td<;>simp only at hp<;>(try (cases hp;done))
     case struct fs =>
      simp only[Value.okWide,hu] at h0;obtain⟨cs,rfl,_,_⟩:=h0;refine⟨.agg xs,by simp[FD,hu,h1],?_⟩
      simp only[Value.cells] at h2;refine .agg _ _ _ (by simpa using h2.1.symm) (λ i hi=>?_) λ i hi=>?_
      .have:=(h2.2 i hi).1
       simpa [List.getD,QE] using this
      .have:=(h2.2 i hi).2
       simpa [List.getD,QE] using this
     case array m e =>
      simp only[Value.okWide,hu] at h0;obtain⟨cs,rfl,_,_⟩:=h0;refine⟨.agg xs,by simp[FD,hu,h1],?_⟩
      simp only[Value.cells] at h2;refine .agg _ _ _ (by simpa using h2.1.symm) (λ i hi=>?_) λ i hi=>?_
      .have:=(h2.2 i hi).1
       simpa [List.getD,QE] using this
      .have:=(h2.2 i hi).2
       simpa [List.getD,QE] using this
     all_goals
      refine one (λ cs hc=>?_) (λ fs hf=>by cases hf) (λ m e hf=>by cases hf)
      subst hc;simp[Value.okWide,hu,Cell.okWide,Cell.ok] at h0
def IX (P:Program) (n:Nat):List TypeId->List (DataW H)->Option (List AV)
 | [],[]=>some []
 | t::ts,d::ds=>match FD P n t d,IX P n ts ds with
   | some x,some xs=>some (x::xs)
   | _,_=>none
 | _,_=>none
theorem Ty {n:Nat} {r:Go.Reach} {base:Nat}:∀ {ts:List TypeId} {vs:List Value} {ds:List (DataW H)} {p:List MemPlace},(∀ t∈ts,G7 P n t=true)->(∀ (j:Nat) t v,ts[j]? = some t->vs[j]? = some v->Value.okWide P W r base t v) ->
  DataW.TrodAll enc P W 0 sp aH ts vs ds p -> ∃ xs,IX P n ts ds=some xs/\xs.length=vs.length /\ ∀ i,i<xs.length->Ad (TF W) W (λ _=>none) (xs.getD i .dead) (vs.getD i undef)
 | [],[],[],_,_,_,_=>⟨[],rfl,rfl,λ i hi=>absurd hi (by simp)⟩
 | t::ts,v::vs,d::ds,_,hp,hv,⟨p,q,h1,h2,_⟩=>by
   obtain⟨x,x1,x2⟩:=iM (hp t Qn) (hv 0 t v rfl rfl) h1;obtain⟨xs,y1,y2,y3⟩:=Ty (λ t ht=>hp t (Ql _ ht)) (λ j t v h3 h4=>hv (j+1) t v (by simpa using h3) (by simpa using h4)) h2
   refine⟨x::xs,by simp[IX,x1,y1],by simp[y2],λ i hi=>?_⟩
   cases i with
   | zero=>simpa using x2
   | succ i=>simpa using y3 i (by simpa using hi)
theorem Rd (hl:laidOutB P=true) {W':World} (hb:Below W.heap.size W W'):∀ {ts:List TypeId} {vs:List Value} {ds:List (DataW H)} {p:List MemPlace},(∀ t∈ts,P.readableRec t=true/\t<P.types.size)->(∀ x∈p,x.block<W.heap.size) ->
  DataW.TrodAll enc P W 0 (λ _=>true) true ts vs ds p->DataW.TrodAll enc P W' 0 (λ b=>decide (b<W.heap.size)) true ts vs ds p
 | [],[],[],_,_,_,h=>h
 | t::ts,v::vs,d::ds,_,hp,h0,⟨p,q,h1,h2,e⟩ =>
   ⟨p,q,Below.trod hl (hp t Qn).1 (hp t Qn).2 h1 hb (λ x hx=>h0 x (by rw[e];exact Q0 _ hx)),
    Rd hl hb (λ t ht=>hp t (Ql _ ht)) (λ x hx=>h0 x (by rw[e];exact UH _ hx)) h2,e⟩
def lM (P:Program) (n:Nat) (ts:List TypeId):Bool:=ts.all λ t=>P.readableRec t && decide (t<P.types.size) && G7 P n t
theorem dV {f:Func} {fi:FuncId} {s:ChangeSpec} {tb:TypeId} (hl:laidOutB P=true) {ts:List TypeId} (h5:f.params.toList=ts) (ha:lM P n ts=true) (h6:f.resultTypes = #[tb]) (hb:P.underlying tb=some .bool) (h0:s.vars=[]) {args:Array Value} {ds gs:List (DataW H)} {before:List MemPlace} (h7:∀ (j:Nat) t v,f.params[j]? = some t->args[j]? = some v->Value.okWide P W r base t v) (hW:DataW.Whole enc P f.params.toList s.vars false W args.toList ds gs before) (hd:(s.fn H (ds++[])).results=[.lit (.bool true)]) (hf:(s.fn H (ds++[])).args=ds) (hh:(s.fn H (ds++[])).vars=[]) (hc:∀ xs,IX P n ts ds=some xs->AK P fi xs [] (.B true) []) :
  Calls P fi args W λ e W'=>∃ v,e = .returned v/\s.post enc P f false true false false W args v W':=by
 have h4:∀ t∈ts,(P.readableRec t=true/\t<P.types.size)/\G7 P n t=true:=by
  intro t ht;have:=List.all_eq_true.1 ha t ht
  simpa only[QM,Qd] using this
 have hr:∀ t∈f.params.toList,P.readableRec t=true/\t<P.types.size:=λ t ht=>(h4 t (h5 ▸ ht)).1;have hp:∀ t∈f.params.toList,G7 P n t=true:=λ t ht=>(h4 t (h5 ▸ ht)).2;subst h5;have h9:=hW;obtain⟨p,q,hA,hV,rfl,hq,hu⟩:=hW;rw[h0] at hV;obtain⟨rfl,rfl⟩:=trodVars_none hV;have hj:∀ x∈p,x.block<W.heap.size:=λ x hx=>by simpa using h9.lt x (by simpa using hx)
 obtain⟨xs,x1,x2,x3⟩:=Ty hp (λ j t v h1 h2=>h7 j t v (by simpa using h1) (by simpa using h2)) hA
 have hR:GD (TF W) W (λ _=>none) xs args:=⟨by simpa using x2.symm,λ i hi=>by simpa [List.getD,QE] using x3 i hi⟩
 refine((hc xs x1).2.2 (TF W) (λ _=>none) W args (fM W) ⟨λ id e he=>by simp[Cs] at he,λ id id' e e' g g' b h1=>by simp[Cs] at h1⟩ (λ _ _=>rfl) hR).mono ?_
 rintro e W' ⟨v,T',M',rfl,hv,_,h3⟩
 have ho:v = .bool true:=by cases hv;rfl
 subst ho;have hB:Below W.heap.size W W':=⟨h3.os,h3.tape,h3.output,h3.size,λ k hk=>h3.keep k hk (by rintro⟨_,_,h,_⟩;exact absurd h (U5 _))⟩
 refine⟨_,rfl,ds,[],p++[],[],p,[],h9,?_,?_,?_,hB.frame _,λ h=>by cases h⟩
 .rw [h6,hd]
  exact trodAll_mk1 (shut_bool hb _)
 .rw [hf]
  exact Rd hl hB hr hj hA
 .rw [h0,hh]
  rfl
end
abbrev oo (d:Nat) (op:F3) (xs:List EG):Cp:=⟨some d,op,xs,none⟩
abbrev og (d:Nat) (op:F3) (xs:List EG) (g:Nat):Cp:=⟨some d,op,xs,some (g,true)⟩
abbrev oh (d:Nat) (op:F3) (xs:List EG) (g:Nat):Cp:=⟨some d,op,xs,some (g,false)⟩
abbrev ou (op:F3) (xs:List EG):Cp:=⟨none,op,xs,none⟩
abbrev vi (n:Int):Value:=.int .i64 n
abbrev v0:Value:=.int .i64 0
abbrev ve:Value:=.string ⟨#[]⟩
abbrev vn:Value:=.slice none 0 0
abbrev ki (n:Int):EG:=.c (.int .i64 n)
abbrev kn:EG:=.c (.slice none 0 0)
abbrev ma (d s:Nat):Cp:=⟨some d,.mv,[.t s],none⟩
abbrev mg (d s g:Nat):Cp:=⟨some d,.mv,[.t s],some (g,true)⟩
abbrev mh (d s g:Nat):Cp:=⟨some d,.mv,[.t s],some (g,false)⟩
abbrev fa (d k s:Nat):Cp:=⟨some d,.fad k,[.t s],none⟩
abbrev fg (d k s g:Nat):Cp:=⟨some d,.fad k,[.t s],some (g,true)⟩
abbrev fh (d k s g:Nat):Cp:=⟨some d,.fad k,[.t s],some (g,false)⟩
abbrev la (d s:Nat):Cp:=⟨some d,.ld false 1,[.t s],none⟩
abbrev lg (d s g:Nat):Cp:=⟨some d,.ld false 1,[.t s],some (g,true)⟩
abbrev lh (d s g:Nat):Cp:=⟨some d,.ld false 1,[.t s],some (g,false)⟩
abbrev ca (d:Nat) (f:FuncId) (xs:List EG):Cp:=⟨some d,.call,.f f::xs,none⟩
abbrev sr (l:List Cp) (c:Ey):Ey:=.seq (.reg false l []) c
abbrev rg (l:List Cp):Ey:=.reg false l []
end Go.Proofs.YtkngdgplbojdlaaGreat
namespace Go.Proofs.YtkngdgplbojdlaaGreat
abbrev AcP:=AK Tryz.prog
theorem mixed:Tryz.prog.follows .mixedOrders=true:=by kernel_rfl
structure SC (f:FuncId) where
 c:D4
 s:Src Tryz.prog f c
def AT {f:FuncId} (fn:Func) {c d:D4} (hc:Jg Tryz.prog fn=some d:=by conv=>lhs;reduce) (hd:d=c:=by simp only[Int.ofNat_eq_natCast,Int.cast_ofNat_Int,Int.reduceNegSucc];rfl) (hf:Tryz.prog.funcs[f]? = some fn:=by kernel_rfl) (hn:fn.name ≠ "runtime.NumGoroutine":=by decide):SC f:=⟨c,mixed,fn,hf,hd ▸ hc,hn⟩
theorem bF {f:FuncId} {af:D4} (fn:Func) (hf:Tryz.prog.funcs[f]? = some fn:=by kernel_rfl) (hc:Jg Tryz.prog fn=some af:=by kernel_rfl) (hn:fn.name ≠ "runtime.NumGoroutine":=by decide):Src Tryz.prog f af:=⟨mixed,fn,hf,hc,hn⟩
def sW:SC 8:=AT Tryz.f8
def iV:SC 10:=AT Tryz.f10
def oX:SC 11:=AT Tryz.f11
def aN:SC 13:=AT Tryz.f13
def tV:SC 16:=AT Tryz.f16
def cF:SC 17:=AT Tryz.f17
def mZ:SC 26:=AT Tryz.f26
def v8:SC 29:=AT Tryz.f29
def jO:SC 30:=AT Tryz.f30
def bL:SC 31:=AT Tryz.f31
def sY:SC 33:=AT Tryz.f33
def qR:SC 34:=AT Tryz.f34
def fB:SC 35:=AT Tryz.f35
def ZJ:SC 37:=AT Tryz.f37
def zjP:SC 38:=AT Tryz.f38
def tO:SC 39:=AT Tryz.f39
def Wv:SC 41:=AT Tryz.f41
def nA:SC 44:=AT Tryz.f44
def kO:SC 51:=AT Tryz.f51
def YW:SC 57:=AT Tryz.f57
def bS:SC 58:=AT Tryz.f58
def ZX:SC 59:=AT Tryz.f59
def iY:SC 68:=AT Tryz.f68
def YR:SC 69:=AT Tryz.f69
def YT:SC 75:=AT Tryz.f75
def bO:SC 76:=AT Tryz.f76
def dA:SC 77:=AT Tryz.f77
def nU:SC 78:=AT Tryz.f78
def dF:SC 79:=AT Tryz.f79
def uC:SC 80:=AT Tryz.f80
def kT:SC 81:=AT Tryz.f81
def d5:SC 82:=AT Tryz.f82
def rL:SC 83:=AT Tryz.f83
def nT:SC 88:=AT Tryz.f88
def l5:SC 89:=AT Tryz.f89
def oD:SC 90:=AT Tryz.f90
def dH:SC 94:=AT Tryz.f94
def wW:SC 107:=AT Tryz.f107
def iS:SC 108:=AT Tryz.f108
def gU:SC 109:=AT Tryz.f109
def ZG:SC 113:=AT Tryz.f113
def iU:SC 114:=AT Tryz.f114
def sK:SC 119:=AT Tryz.f119
def iJ:SC 120:=AT Tryz.f120
def zbw:SC 126:=AT Tryz.f126
def VA:SC 127:=AT Tryz.f127
def g8:SC 128:=AT Tryz.f128
def mW:SC 129:=AT Tryz.f129
def zdB:SC 130:=AT Tryz.f130
def tK:SC 131:=AT Tryz.f131
def tY:SC 134:=AT Tryz.f134
def fC:SC 144:=AT Tryz.f144
def qM:SC 145:=AT Tryz.f145
def TC:SC 155:=AT Tryz.f155
def RY:SC 166:=AT Tryz.f166
def jK:SC 169:=AT Tryz.f169
def uQ:SC 172:=AT Tryz.f172
def oR:SC 174:=AT Tryz.f174
def xC:SC 215:=AT Tryz.f215
def mD:SC 216:=AT Tryz.f216
def sX:SC 217:=AT Tryz.f217
def Ze:SC 225:=AT Tryz.f225
def Zu:SC 226:=AT Tryz.f226
def uO:SC 237:=AT Tryz.f237
variable {st:St}
section
variable {P:Program} {np id:Nat} {h:Nat->Option AQ} {K:AV->List Nat->List (Nat × Option AQ)->Prop} {s i off len c k l m:Nat}
@[simp] theorem zEp:aK P np id (.slc s true false false) [.rk i off len c,.sc (.int .i64 (k:Int))] h K=(k<=len/\len<=c/\(∃ e,h i=some e/\e.s=s)/\K (.rk i (off+k) (len - k) (c - k)) [i] []):=by
 rw[GA];refine propext ⟨?_,?_⟩
 .rintro ⟨l,r,m,n,h1,h2,h4,h5,h6,h7,h3,ha,h0,h8,h9⟩
  obtain rfl:=h6 rfl;simp at h4 h1;subst h1;have:k=l:=by omega
  subst this;obtain rfl:=h0 rfl;exact⟨h2,h3,h8,h9⟩
 .rintro ⟨h1,h2,h3,h4⟩
  exact⟨k,len,c,len,rfl,h1,by simp,(λ h=>by cases h),λ _=>rfl,(λ h=>by cases h),h2,Qk _,λ _=>rfl,h3,h4⟩
@[simp] theorem zD3:aK P np id (.slc s false true false) [.rk i off len c,.sc (.int .i64 (k:Int))] h K=(k<=c/\(∃ e,h i=some e/\e.s=s)/\K (.rk i off k c) [i] []):=by
 rw[GA];refine propext ⟨?_,?_⟩
 .rintro ⟨l,r,m,n,h1,h2,h4,h5,h6,h7,h3,ha,h0,h8,h9⟩
  obtain rfl:=h5 rfl;simp at h4 h1;have:k=r:=by omega
  subst this;obtain rfl:=h0 rfl;exact⟨h3,h8,by simpa using h9⟩
 .rintro ⟨h1,h3,h4⟩
  exact⟨0,k,c,len,rfl,Qh _,by simp,λ _=>rfl,(λ h=>by cases h),(λ h=>by cases h),h1,Qk _,λ _=>rfl,h3,by simpa using h4⟩
@[simp] theorem yW:aK P np id (.slc s true true false) [.rk i off len c,.sc (.int .i64 (l:Int)),.sc (.int .i64 (k:Int))] h K=(l<=k/\k<=c/\(∃ e,h i=some e/\e.s=s)/\K (.rk i (off+l) (k - l) (c - l)) [i] []):=by
 rw[GA];refine propext ⟨?_,?_⟩
 .rintro ⟨l',r,m,n,h1,h2,h4,h5,h6,h7,h3,ha,h0,h8,h9⟩
  simp at h4 h1;have:k=r:=by omega
  subst this;have:l=l':=by omega
  subst this;obtain rfl:=h0 rfl;exact⟨h2,h3,h8,h9⟩
 .rintro ⟨h1,h2,h3,h4⟩
  exact⟨l,k,c,len,rfl,h1,by simp,(λ h=>by cases h),(λ h=>by cases h),(λ h=>by cases h),h2,Qk _,λ _=>rfl,h3,h4⟩
@[simp] theorem zEj:aK P np id (.slc s true true true) [.rk i off len c,.sc (.int .i64 (l:Int)),.sc (.int .i64 (k:Int)),.sc (.int .i64 (m:Int))] h K=(l<=k/\k<=m/\m<=c/\(∃ e,h i=some e/\e.s=s)/\K (.rk i (off+l) (k - l) (m - l)) [i] []):=by
 rw[GA];refine propext ⟨?_,?_⟩
 .rintro ⟨l',r,m',n,h1,h2,h4,h5,h6,h7,h3,h0,ha,h8,h9⟩
  simp at h4 h1;have:k=r:=by omega
  subst this;have:l=l':=by omega
  subst this;have:m=m':=by omega
  subst this;exact⟨h2,h3,h0,h8,h9⟩
 .rintro ⟨h1,h2,h3,h4,h5⟩
  exact⟨l,k,m,len,rfl,h1,by simp,(λ h=>by cases h),(λ h=>by cases h),(λ _=>rfl),h2,h3,(λ h=>by cases h),h4,h5⟩
@[simp] theorem zH:aK P np id (.slc s true false false) [.rs i off len,.sc (.int .i64 (k:Int))] h K=(k<=len/\(∃ e,h i=some e/\e.s=s)/\K (.rs i (off+k) (len - k)) [i] []):=by
 rw[GA];refine propext ⟨?_,?_⟩
 .rintro ⟨l,r,m,n,h1,h2,h4,h5,h6,h7,h3,h0,h8,h9⟩
  obtain rfl:=h6 rfl;simp at h4 h1;subst h1;have:k=l:=by omega
  subst this;exact⟨h2,h8,h9⟩
 .rintro ⟨h1,h3,h4⟩
  exact⟨k,len,0,len,rfl,h1,by simp,(λ h=>by cases h),λ _=>rfl,(λ h=>by cases h),Qk _,rfl,h3,h4⟩
@[simp] theorem zEm:aK P np id (.slc s false true false) [.rs i off len,.sc (.int .i64 (k:Int))] h K=(k<=len/\(∃ e,h i=some e/\e.s=s)/\K (.rs i off k) [i] []):=by
 rw[GA];refine propext ⟨?_,?_⟩
 .rintro ⟨l,r,m,n,h1,h2,h4,h5,h6,h7,h3,h0,h8,h9⟩
  obtain rfl:=h5 rfl;simp at h4 h1;have:k=r:=by omega
  subst this;exact⟨by omega,h8,by simpa using h9⟩
 .rintro ⟨h1,h3,h4⟩
  exact⟨0,k,0,len,rfl,Qh _,by simp,λ _=>rfl,(λ h=>by cases h),(λ h=>by cases h),h1,rfl,h3,by simpa using h4⟩
end
theorem Le.keep {np:Nat} {st':St} (h0:st'.sz=st.sz) (hn:st.n<=st'.n) (ht:∀ p∈st'.t,st.get p.1=p.2) (hh:∀ p∈st'.h,∀ e,p.2=some e->st.hp p.1=some e):Le np st st':=by
 intro T0 M0 w0 T M a w ok h3
 have hp:∀ id e,st'.hp id=some e->st.hp id=some e:=by
  intro id e he;unfold St.hp at he
  cases hl:AW st'.h id with
  | none=>rw[hl] at he;cases he
  | some v =>
    rw[hl] at he;exact hh _ (D1 hl) e he
 refine⟨T,M,⟨ok.sz.trans h0.symm,ok.df,λ i=>?_,⟨λ id e he=>ok.hs.ent id e (hp id e he),λ id id' e e' g g' b h1 h2=>ok.hs.inj id id' e e' g g' b (hp _ _ h1) (hp _ _ h2)⟩,λ id g hg=>U9 (ok.dom id g hg) hn,ok.after⟩,QH h3 hn⟩;unfold St.get at *
 cases hl:AW st'.t i with
 | none=>exact .dead _ _
 | some v =>
   have:=ht _ (D1 hl);simp only at this;show Ad T w M v _;rw[<- this];exact ok.tm i
theorem Ek {np:Nat} {st':St} (h0:st'.sz=st.sz:=by rfl) (hn:st.n<=st'.n:=by exact Qk _) (ht:∀ p∈st'.t,st.get p.1=p.2:=by simp) (hh:∀ p∈st'.h,∀ e,p.2=some e->st.hp p.1=some e:=by simp):Le np st st':=Le.keep h0 hn ht hh
theorem AS.m1 {rs:List (Nat × Option (Bool × Nat))} {vs:List AV} {res:AV} {e:AQ} (i:Nat) (hi:1<=i) (h1:Gn st rs=some vs) (hw:Wk (conv [(0,0),(i,1)] [] st.hp 4 (EH vs)) res) (h0:st.hp 0=none) (he:(st.hp i).map (Ab [(0,0),(i,1)] [] st.hp 4)=some e):AS rs 1 st res [none,some e] :=
 ⟨vs,h1,[i],[],by simp[List.range,List.range.loop];omega,by simpa using hi,by simp,by simpa [List.range,List.range.loop] using hw,by simpa [List.range,List.range.loop,h0] using he⟩
variable {P:Program} {np:Nat} {α:Type}
theorem uU:∀ (ops:List Cp) (n i:Nat) (st:St) (tr:List (List Nat × List Nat)) (K:α->St->List (List Nat × List Nat)->Prop),CE P np n i ops st tr (λ s t=>∃ x,K x s t) -> ∃ x,CE P np n i ops st tr (K x):=by
 intro ops
 induction ops with
 | nil=>intro n i st tr K h;exact h
 | cons o os ih =>
   intro n i st tr K h
   have h3:∀ (op:F3) (xs:List AV) (h:Nat->Option AQ) (F:AV->List Nat->List (Nat × Option AQ)->(St->List (List Nat × List Nat)->Prop)->Prop),
     (∀ v rd up,F v rd up (λ s t=>∃ x,K x s t) -> ∃ x,F v rd up (K x))->aK P np (n+8*i) op xs h (λ v rd up=>F v rd up (λ s t=>∃ x,K x s t)) -> ∃ x,aK P np (n+8*i) op xs h (λ v rd up=>F v rd up (K x)):=by
    intro op xs h F hF hk;obtain⟨v,rd,up,h1,h2⟩:=zrW hk;obtain⟨x,hx⟩:=hF v rd up h1;refine⟨x,YH (λ a b c e=>?_) h2⟩;obtain⟨rfl,rfl,rfl⟩:=e;exact hx
   unfold CE at h ⊢
   cases hg:o.guard with
   | none =>
     simp only[hg] at h ⊢;exact h3 _ _ _ (λ v rd up K'=>CE P np n (i+1) os ((st.put o.dst v).upd up) (tr++[(rd,up.map (·.1))]) K') (λ v rd up=>ih _ _ _ _ _) h
   | some gw =>
     obtain⟨g,want⟩:=gw;simp only[hg] at h ⊢;obtain⟨b,hb,h⟩:=h
     by_cases h0:b=some want
     .rw [if_pos h0] at h
      obtain⟨x,hx⟩:=h3 _ _ _ (λ v rd up K'=>CE P np n (i+1) os ((st.put o.dst v).upd up) (tr++[(rd,up.map (·.1))]) K') (λ v rd up=>ih _ _ _ _ _) h
      exact⟨x,b,hb,by rw[if_pos h0];exact hx⟩
     .rw [if_neg h0] at h
      obtain⟨x,hx⟩:=ih _ _ _ _ _ h;exact⟨x,b,hb,by rw[if_neg h0];exact hx⟩
theorem Le.trans' {a b c:St} (h1:Le np a b) (h2:Le np b c):Le np a c:=by
 intro T0 M0 w0 T M ac w ok hn;obtain⟨T',M',ok',h0⟩:=h1 T0 M0 w0 T M ac w ok hn;exact h2 T0 M0 w0 T' M' ac w ok' h0
theorem ZI:∀ {c:Ey} {α:Type} {Q:α->Gm->St->Prop} {st:St},A2 P np c (λ e s=>∃ x,Q x e s) st -> ∃ x,A2 P np c (Q x) st:=by
 intro c
 induction c with
 | skip=>intro α Q st h;exact h
 | reg draw ops after =>
   intro α Q st hw
   obtain⟨x,hx⟩:=uU ops st.n 0 st [] (λ x st' tr=>(draw=true->Hf ops after tr=true)/\Q x .normal { st' with n:=st.n+8*ops.length })
    (F5 _ _ _ _ _ _ _ (λ s t h=>by obtain⟨h1,x,h2⟩:=h;exact⟨x,h1,h2⟩) hw.2)
   exact⟨x,hw.1,hx⟩
 | seq a b iha ihb =>
   intro α Q st hw;refine iha (Hl (λ e s hs=>?_) hw)
   cases e with
   | normal =>
     obtain⟨st2,h0,h2⟩:=hs;obtain⟨x,hx⟩:=ihb h2;exact⟨x,st2,h0,hx⟩
   | exit id=>exact hs
   | ret=>exact hs
 | cond c a b iha ihb =>
   intro α Q st hw;obtain⟨t,ht,hw⟩:=hw
   cases t
   .obtain ⟨x,hx⟩:=ihb hw
    exact⟨x,false,ht,hx⟩
   .obtain ⟨x,hx⟩:=iha hw
    exact⟨x,true,ht,hx⟩
 | block id a iha =>
   intro α Q st hw;refine iha (Hl (λ e s hs=>?_) hw)
   cases e with
   | normal=>exact hs
   | exit id' =>
     simp only at hs ⊢
     by_cases hi:id'=id
     .simp only[if_pos hi] at hs ⊢;exact hs
     .simp only[if_neg hi] at hs ⊢;exact hs
   | ret=>exact hs
 | loop a iha =>
   intro α Q st hw;obtain⟨I,⟨st0,k0,h0,hI⟩,hb⟩:=hw
   have key:∀ k s,I k s -> ∃ x,A2 P np (.loop a) (Q x) s:=by
    intro k
    induction k using Nat.strongRecOn with
    | ind k ihk =>
      intro s hs
      have h7:A2 P np a (λ e s'=>∃ y:{ y:α × Nat × (Nat->St->Prop) // ∀ k' s',y.2.2 k' s'->A2 P np a (λ e st'=>match e with | .normal=>∃ st2 k2,Le np st' st2/\y.2.2 k2 st2/\k2<k' | e=>Q y.1 e st') s' },
        match e with | .normal=>∃ st2,Le np s' st2/\y.1.2.2 y.1.2.1 st2 | e=>Q y.1.1 e s') s:=by
       refine Hl (λ e s' h=>?_) (hb k s hs)
       cases e with
       | normal =>
         obtain⟨st2,k2,h1,h2,h3⟩:=h;obtain⟨x,J,⟨st3,k3,h4,h5⟩,h6⟩:=ihk k2 h3 st2 h2;exact⟨⟨(x,k3,J),h6⟩,st3,Le.trans' h1 h4,h5⟩
       | exit id=>obtain⟨x,h⟩:=h;exact⟨⟨(x,0,λ _ _=>False),λ _ _ h=>h.elim⟩,h⟩
       | ret=>obtain⟨x,h⟩:=h;exact⟨⟨(x,0,λ _ _=>False),λ _ _ h=>h.elim⟩,h⟩
      obtain⟨⟨⟨x,q,J⟩,hJ⟩,hy⟩:=iha h7;simp only at hJ hy;refine⟨x,λ k' s'=>J k' s'∨(k'=q+1/\s'=s),⟨s,q+1,Le.refl _ _,.inr ⟨rfl,rfl⟩⟩,?_⟩
      rintro k' s' (h | ⟨rfl,rfl⟩)
      .refine Hl (λ e s2 h2=>?_) (hJ k' s' h)
       cases e with
       | normal=>obtain⟨st2,k2,h1,h2,h3⟩:=h2;exact⟨st2,k2,h1,.inl h2,h3⟩
       | exit id=>exact h2
       | ret=>exact h2
      .refine Hl (λ e s2 h2=>?_) hy
       cases e with
       | normal=>obtain⟨st2,h1,h2⟩:=h2;exact⟨st2,q,h1,.inl h2,Nat.lt_succ_self q⟩
       | exit id=>exact h2
       | ret=>exact h2
   obtain⟨x,hx⟩:=key k0 st0 hI;obtain⟨J,⟨s3,k3,h4,h5⟩,h6⟩:=hx;exact⟨x,J,⟨s3,k3,Le.trans' h0 h4,h5⟩,h6⟩
 | exit id=>intro α Q st h;exact h
 | ret=>intro α Q st h;exact h
 | bad=>intro α Q st h;exact h.elim
def F4 {α:Type} (rs:List (Nat × Option (Bool × Nat))) (np:Nat) (F:α->AV) (H:α->List (Option AQ)) (R:α->Prop) (e:Gm) (st:St):Prop:=(e = .normal∨e = .ret) /\ ∃ x,R x/\AS rs np st (F x) (H x)
theorem F4.mk {rs:List (Nat × Option (Bool × Nat))} {F:α->AV} {H:α->List (Option AQ)} {R:α->Prop} {e:Gm} {st:St} (he:e = .normal∨e = .ret) (x:α) (hx:R x) (h:AS rs np st (F x) (H x)):F4 rs np F H R e st:=⟨he,x,hx,h⟩
theorem Src.acallsX {f:FuncId} {af:D4} (s:Src P f af) (F:α->AV) (H:α->List (Option AQ)) (R:α->Prop) {args:List AV} {hs:List AQ} (h5:args.length<=af.nt) (h0:hs.length<=16) (h4:∀ x,hs.length<=(H x).length) (h:A2 P hs.length af.code (F4 af.res hs.length F H R) (HN af args hs)):∃ x,R x/\AK P f args hs (F x) (H x):=by
 obtain⟨⟨x,hx⟩,hw⟩:=ZI (α:={ x:α // R x }) (Q:=λ x e st=>(e = .normal∨e = .ret)/\AS af.res hs.length st (F x.1) (H x.1)) (Hl (λ e st h=>by
  obtain⟨h1,x,h2,h3⟩:=h
  exact⟨⟨x,h2⟩,h1,h3⟩) h)
 exact⟨x,hx,s.acalls h5 h0 (h4 x) hw⟩
end Go.Proofs.YtkngdgplbojdlaaGreat
