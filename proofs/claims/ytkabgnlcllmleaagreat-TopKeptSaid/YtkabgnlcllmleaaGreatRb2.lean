/- Texts of this claim,merged. -/
import Derived.Test.YtkabgnlcllmleaaGreatRb1
import Derived.MapKept
import Derived.Laws.BytesArg
import Derived.Laws.Externs
import Derived.Scope
import Derived.ChangeArms
import Derived.Carry
import Derived.OpenShut
import Derived.WalkKit
import Derived.ProofKit
import Derived.Test.YtkabgnlcllmleaaGreatProg
import Derived.KernelRfl
set_option linter.unusedSimpArgs false
set_option linter.unusedVariables false
set_option linter.unusedSectionVars false
set_option maxRecDepth 100000
set_option maxHeartbeats 8000000
noncomputable section
namespace Go.Proofs.YtkabgnlcllmleaaGreat
open Go
theorem DW {α:Type}:∀ {l:List (Nat × α)} {i:Nat} {a:α},AW l i=some a->(i,a)∈l
 | (j,b)::l,i,a,h=>by
   simp only[AW] at h;split at h
   .rename_i e;subst e;cases h;exact Qo
   .exact Qj _ (DW h)
theorem KC {α:Type}:∀ {l:List (Nat × α)} {i:Nat},AW l i=none -> ∀ a,(i,a)∉l
 | [],_,_,_=>zz
 | (j,b)::l,i,h,a=>by
   simp only[AW] at h;split at h
   .cases h
   .rename_i e
    intro hm;rcases Qu.1 hm with h1 | h1
    .cases h1;exact e rfl
    .exact KC h a h1
theorem Ts {l:List Nat} {id k:Nat} (h:AW l.zipIdx id=some k):l[k]? = some id:=by
 have:=DW h;rw[UY] at this;exact this
theorem fS {l:List Nat} {k id:Nat} (h:AW (l.zipIdx.map λ (a,b)=>(b,a)) k=some id):l[k]? = some id:=by
 have:=DW h;simp only[Ql,Prod.mk.injEq] at this;obtain⟨⟨a,b⟩,h1,rfl,rfl⟩:=this;rw[UY] at h1;exact h1
section
variable {P:Program} {np:Nat} {T0:Nat->Nat} {M0:GM} {w0:World} {aB:Nat->Prop} {st:St} {T:Nat->Nat} {M:GM} {a:Act} {w:World} {idb:Nat}
variable (tm:∀ i,Aj T w M (st.get i) (a.tmps.getD i undef)) (m:Bp np T0 M0 w0 aB st.hp T M w) (aC:∀ k,k<8->¬ aB (idb+k)) (aF:np<=idb)
include tm m aC aF
theorem X0 (o:Oper) (ck:FuncId) (xs:List AV) (au:Array Value) (hy:(∃ fn c,P.funcs[ck]? = some fn/\fn.body=some c/\fn.name ≠ "runtime.NumGoroutine")->(execOp a.eval o).run P w = .ok (.enter ck au) w) (av:Fs T w M xs au) {K:AV->List Nat->List (Nat × Option AD)->Prop} {h0 sn:List Nat} {h9:Bool} {aA:List AV} {hs:List AD} {res:AV} {hs':List (Option AD)} (df:h0.Nodup) (f2:∀ i∈sn,i∉h0) (fs:h9=true -> ∀ i∈sn,np<=i) (dg:DG (xs.map (conv h0.zipIdx sn st.hp 4)) aA) (c5:h0.map (λ i=>(st.hp i).map (AX h0.zipIdx sn st.hp 4))=hs.map some) (a8:CF P ck aA hs res hs') (f3:hs'.length<=hs.length+8) (hpl:h9=true∨(Plain res /\ ∀ e,some e∈hs'->GB e)) (hk:K (conv ((h0++(List.range 8).map (idb + ·)).zipIdx.map λ (a,b)=>(b,a)) [] (λ _=>none) 4 res) (h0++sn)
     ((hs'.zipIdx.map λ (e,k)=>((h0++(List.range 8).map (idb + ·)).getD k 0,e.map (AX ((h0++(List.range 8).map (idb + ·)).zipIdx.map λ (a,b)=>(b,a)) [] (λ _=>none) 4))) ++
      (if h9 then sn.filterMap (λ i=>(st.hp i).map λ e=>(i,some { e with ro:=e.rows.length })) else []))) :
  ∃ v rd up,K v rd up/\Ek P np T0 M0 w0 aB idb (st.upd up).hp T M w v ((execOp a.eval o).run P w):=by
 obtain⟨f4,fm,a8⟩:=a8;have hy:=hy f4
 have am:h0.length=hs.length:=by
  have:=congrArg List.length c5
  simpa using this
 have hw:∀ (k i:Nat),h0[k]? = some i -> ∃ e,st.hp i=some e/\hs[k]? = some (AX h0.zipIdx sn st.hp 4 e):=by
  intro k i ha;have h1:=congrArg (·[k]?) c5
  simp only[QB,ha,Ug] at h1
  cases hq:hs[k]? with
  | none=>rw[hq] at h1;simp at h1
  | some e' =>
    rw[hq] at h1;simp only[Ug,Qw] at h1
    cases hp:st.hp i with
    | none=>rw[hp] at h1;simp at h1
    | some e =>
      rw[hp] at h1;simp only[Ug,Qw] at h1;exact⟨e,rfl,by rw[h1]⟩
 obtain⟨T1,cl,cm,b0,a9⟩:=OW m.hs m.after.tok sn
 let Mc:GM:=λ k=>match h0[k]? with | some i=>M i | none=>none
 have ag:∀ (k i:Nat),h0[k]? = some i->Mc k=M i:=λ k i ha=>by show (match h0[k]? with | some i=>M i | none=>none)=_;rw[ha]
 have dn:∀ k,hs.length<=k->Mc k=none:=λ k hk=>by
  show (match h0[k]? with | some i=>M i | none=>none)=none
  rw[Q6 zy]
 have b1:∀ id k,AW h0.zipIdx id=some k->Mc k=M id:=λ id k hl=>ag k id (Ts hl);have cp:=λ x v hr=>KV (Mc:=Mc) (x:=x) (v:=v) m.hs sn cl b0 4 h0.zipIdx b1 hr
 have nodupI:∀ (k k' i:Nat),h0[k]? = some i->h0[k']? = some i->k=k':=by
  intro k k' i h1 h2;have hf:k<h0.length:=(Qz.1 h1).1;exact(List.getElem?_inj hf df).1 (h1.trans h2.symm)
 have an:∀ (k i:Nat) e g b,h0[k]? = some i->st.hp i=some e->M i=some g->g.blk=some b->T1 b=T b:=by
  intro k i e g b h1 h2 h3 h4;refine a9 b λ i' hi' e' g' h5 h6 h7=>?_;have:=m.hs.inj i i' e e' g g' b h2 h5 h3 h6 h4 h7;subst this;exact f2 i hi' (Um h1)
 have f5:Dl T1 w Mc (C9 hs):=by
  refine⟨λ k e' ds=>?_,λ k k' e1 e2 g g' b h1 h2 h3 h4 h5 h6=>?_⟩
  .have hf:k<h0.length:=by rw[am];exact(Qz.1 ds).1
   have ha:h0[k]? = some h0[k]:=Qc hf;obtain⟨e,he,heq⟩:=hw k _ ha;obtain rfl:=Qh (ds.symm.trans heq);obtain⟨g,hg,ent⟩:=m.hs.ent _ e he;refine⟨g,(ag k _ ha).trans hg,ent.s,by simpa [AX] using ent.ro,λ hz r hr=>?_,λ hn=>by simp[AX,ent.none hn],λ hz=>?_,λ hz b ai=>?_⟩
   .simp only[AX,Ql] at hr
    obtain⟨r0,cq,rfl⟩:=hr;rw[Qs];exact ent.wide hz r0 cq
   .obtain ⟨b,es,clock,hd,q1,q2,q3,q4⟩:=ent.mp hz
    exact⟨b,es,clock,hd,q1,by rw[an k _ e g b ha he hg hd];exact q2,q3,q4.map (λ _=>rfl) λ row _ x _ v hr=>cp x v hr⟩
   .obtain ⟨cells,ty,h1,h2,h3,h4⟩:=ent.blk hz b ai
    refine⟨cells,ty,h1,by rw[an k _ e g b ha he hg ai];exact h2,by simpa [AX] using h3,λ i j hi hj=>?_⟩
    simp only[AX,Qs] at hi hj ⊢;obtain⟨u,hu,ho,b2⟩:=h4 i j hi hj;refine⟨u,hu,ho,?_⟩
    have e1:(e.rows.map (·.map (conv h0.zipIdx sn st.hp 4))).getD i []=(e.rows.getD i []).map (conv h0.zipIdx sn st.hp 4):=by
     simp only[List.getD,QB]
     cases e.rows[i]?<;>rfl
    rw[e1,GQ _ (GL _ _ _ _)];exact cp _ _ b2
  .have hf:k<h0.length:=by rw[am];exact(Qz.1 h1).1
   have dz:k'<h0.length:=by rw[am];exact(Qz.1 h2).1
   have ha:h0[k]? = some h0[k]:=Qc hf;have b3:h0[k']? = some h0[k']:=Qc dz;obtain⟨ea,f6,_⟩:=hw k _ ha;obtain⟨eb,f7,_⟩:=hw k' _ b3;have:=m.hs.inj _ _ ea eb g g' b f6 f7 ((ag k _ ha).symm.trans h3) ((ag k' _ b3).symm.trans h4) h5 h6;exact nodupI k k' _ ha (by rw[b3,this])
 have e3:Fs T1 w Mc aA au:=by
  have hl:=dg.length;simp only[Qs] at hl;refine⟨av.1.trans hl,λ i hi=>?_⟩;have h1:=dg.get i (by rw[Qs,hl];exact hi)
  rw[GQ _ (GL _ _ _ _)] at h1;exact h1.rep (cp _ _ (av.2 i (hl ▸ hi)))
 have bp:=a8 T1 Mc w _ cm f5 dn e3;refine⟨_,_,_,hk,?_⟩;rw[hy];refine⟨rfl,bp.mono ?_⟩
 rintro e w' ⟨v,T',M',rfl,e4,cb,ht⟩
 let T2:Nat->Nat:=λ b=>if h9 then T' b else if b<w.heap.size then T b else T' b
 let M2:GM:=λ i=>if idb<=i/\i<idb+8 then M' (hs.length+(i - idb)) else M i
 have bs:∀ i g,M i=some g->¬ (idb<=i/\i<idb+8):=λ i g hg hc=>aC (i - idb) zy (by rw[show idb+(i - idb)=i by omega];exact m.dom i g hg)
 have a4:∀ i g,M i=some g->M2 i=some g:=λ i g hg=>by
  show (if _ then _ else _)=_
  rw[if_neg (bs i g hg)];exact hg
 have a0:∀ b,b<w.heap.size->¬ GV hs.length Mc b->T' b=T1 b:=ht.old;have b4:∀ b,T b<=T' b:=λ b=>QR (cl b) (ht.pres.le b)
 have aq:∀ i e g b,(∀ k:Nat,h0[k]? ≠ some i)->st.hp i=some e->M i=some g->g.blk=some b->¬ GV hs.length Mc b:=by
  rintro i e g b h1 h2 h3 h4 ⟨k,gk,e6,a5,d0⟩
  have hf:k<h0.length:=zy
  have ha:h0[k]? = some h0[k]:=Qc hf;obtain⟨ek,bt,_⟩:=hw k _ ha;rw[ag k _ ha] at a5;have:=m.hs.inj i _ e ek g gk b h2 bt h3 a5 h4 d0;exact h1 k (by rw[ha,this])
 have c0:∀ b,w.heap.size<=b->T b=0:=λ b hb=>m.T_zero hb
 have f8:∀ b,T b<=T2 b:=by
  intro b;show T b<=if h9 then T' b else if b<w.heap.size then T b else T' b
  split
  .exact b4 b
  .split
   .exact Qf _
   .rw [c0 b zy];exact Qk _
 have cd:∀ b,T2 b<=T' b:=by
  intro b;show (if h9 then T' b else if b<w.heap.size then T b else T' b)<=T' b
  split
  .exact Qf _
  .split
   .exact b4 b
   .exact Qf _
 have d1:∀ b,w.heap.size<=b->T2 b=T' b:=by
  intro b hb;show (if h9 then T' b else if b<w.heap.size then T b else T' b)=T' b
  rw[if_neg (show ¬ b<w.heap.size by omega)]
  simp
 have hv:Ax T w T2 w':=by
  refine⟨f8,λ b cells ty fz f9=>?_⟩;obtain⟨c',f',h1,h2,h3⟩:=ht.pres.cell b cells ty fz f9;exact⟨c',f',h1,h2,λ o ho=>h3 o (Nat.lt_of_lt_of_le ho (cl b))⟩
 have d2:Gy T2 w':=by
  intro b hb
  by_cases hr:h9=true
  .have e:T2 b=T' b:=by show (if h9 then T' b else _)=_;rw[hr];rfl
   rw[e] at hb ⊢;exact ht.tok b hb
  .by_cases fd:b<w.heap.size
   .have e:T2 b=T b:=by show (if h9 then T' b else if b<w.heap.size then T b else T' b)=_;rw[if_neg hr,if_pos fd]
    rw[e] at hb ⊢;obtain⟨cells,ty,fz,h1,h2⟩:=m.after.tok b hb;obtain⟨c',f',h3,h4,_⟩:=hv.cell b cells ty fz h1;exact⟨c',ty,f',h3,zy⟩
   .rw [d1 b zy] at hb ⊢
    exact ht.tok b hb
 let nm:List Nat:=h0++(List.range 8).map (idb + ·)
 have e7:∀ (k i:Nat),h0[k]? = some i->nm[k]? = some i:=λ k i ha=>by
  show (h0++_)[k]? = _;rw[QG (Qz.1 ha).1];exact ha
 have ch:∀ (k i:Nat),nm[k]? = some i->h0[k]? = some i∨(hs.length<=k/\k<hs.length+8/\i=idb+(k - hs.length)):=by
  intro k i ha
  by_cases hf:k<h0.length
  .have:nm[k]? = h0[k]?:=QG hf
   exact .inl (this.symm.trans ha)
  .have:nm[k]? = ((List.range 8).map (idb + ·))[k - h0.length]?:=Qr zy
   rw[this] at ha;simp only[QB,Qy] at ha;obtain⟨q,hq,rfl⟩:=ha;obtain⟨hq1,hq2⟩:=Qz.1 hq;simp only[UD] at hq1;simp only[List.getElem_range] at hq2;exact .inr ⟨zy,zy,zy⟩
 have b5:∀ (k i:Nat),nm[k]? = some i->M2 i=M' k:=by
  intro k i ha;rcases ch k i ha with h1 | ⟨h1,h2,rfl⟩
  .obtain ⟨e,he,_⟩:=hw k i h1
   obtain⟨g,hg,_⟩:=m.hs.ent i e he;rw[a4 i g hg,ht.same k (by rw[<- am];exact(Qz.1 h1).1),ag k i h1,hg]
  .show (if idb<=idb+(k - hs.length)/\idb+(k - hs.length)<idb+8 then M' (hs.length+(idb+(k - hs.length) - idb)) else M _)=_
   rw[if_pos zy]
   congr 1
   omega
 have d3:∀ k id,AW (nm.zipIdx.map λ (a,b)=>(b,a)) k=some id->M2 id=M' k:=λ k id hl=>b5 k id (fS hl)
 have b6:∀ x v,Aj T2 w' M' x v->Aj T2 w' M2 (conv (nm.zipIdx.map λ (a,b)=>(b,a)) [] (λ _=>none) 4 x) v:=by
  intro x v hr;refine KV (M:=M') (hp:=λ _=>none) ⟨λ id e he=>(by cases he),λ i i' e e' g g' b h1=>(by cases h1)⟩ [] (λ _=>Qf _) (λ i hi=>by cases hi) 4 _ M2 x v d3 hr
 have b7:∀ x v,Aj T' w' M' x v->(h9=true∨Plain x)->Aj T2 w' M' x v:=by
  intro x v hr hp;rcases hp with hp | hp
  .have e:T2=T':=by funext b;show (if h9 then T' b else _)=_;rw[hp];rfl
   rw[e];exact hr
  .exact hr.plain hp T2
 have a1:∀ i e2,(st.upd ((hs'.zipIdx.map λ (e,k)=>((h0++(List.range 8).map (idb + ·)).getD k 0,e.map (AX ((h0++(List.range 8).map (idb + ·)).zipIdx.map λ (a,b)=>(b,a)) [] (λ _=>none) 4))) ++
   (if h9 then sn.filterMap (λ i=>(st.hp i).map λ e=>(i,some { e with ro:=e.rows.length })) else []))).hp i=some e2 ->
   (∃ (k:Nat) (e:AD),hs'[k]? = some (some e)/\nm[k]? = some i/\e2=AX (nm.zipIdx.map λ (a,b)=>(b,a)) [] (λ _=>none) 4 e) ∨
   (h9=true/\i∈sn/\(∀ k:Nat,h0[k]? ≠ some i) /\ ∃ e,st.hp i=some e/\e2={ e with ro:=e.rows.length }) ∨
   ((∀ k:Nat,h0[k]? ≠ some i)/\st.hp i=some e2/\(h9=true->i∉sn)):=by
  intro i e2 hh;rw[St.hp_upd] at hh
  cases c1:AW (hs'.zipIdx.map λ (e,k)=>((h0++(List.range 8).map (idb + ·)).getD k 0,e.map (AX ((h0++(List.range 8).map (idb + ·)).zipIdx.map λ (a,b)=>(b,a)) [] (λ _=>none) 4))) i with
  | some r =>
    rw[KB,c1] at hh;have hh:r=some e2:=hh;subst hh;have hm:=DW c1;simp only[Ql,Prod.mk.injEq] at hm;obtain⟨⟨e0,k⟩,h1,h2,h3⟩:=hm;rw[UY] at h1;simp only[Qy] at h3;obtain⟨e,rfl,h3⟩:=h3;have ed:k<hs'.length:=(Qz.1 h1).1;have eg:k<nm.length:=by show k<(h0++_).length;simp;omega
    refine .inl ⟨k,e,h1,?_,h3.symm⟩;have:nm.getD k 0=i:=h2;rw[Qc eg,<- this];simp[List.getD,eg]
  | none =>
    rw[KB,c1,Option.none_or] at hh
    have a2:∀ k:Nat,h0[k]? ≠ some i:=by
     intro k ha;have ed:k<hs'.length:=by have:=(Qz.1 ha).1;omega
     refine KC c1 (hs'[k].map (AX (nm.zipIdx.map λ (a,b)=>(b,a)) [] (λ _=>none) 4)) (Ql.2 ⟨(hs'[k],k),by rw[UY];exact Qc ed,?_⟩)
     have h5:=e7 k i ha;have h6:nm.getD k 0=i:=by simp[List.getD,h5]
     show (nm.getD k 0,_)=_;rw[h6]
    by_cases hr:h9=true
    .rw [if_pos hr] at hh
     cases c2:AW (sn.filterMap λ i=>(st.hp i).map λ e=>(i,some { e with ro:=e.rows.length })) i with
     | some r =>
       rw[c2] at hh;have hh:r=some e2:=hh;subst hh;have hm:=DW c2;simp only[U8,Qy,Prod.mk.injEq,Qw] at hm;obtain⟨i',h1,e,h2,rfl,h3⟩:=hm;exact .inr (.inl ⟨hr,h1,a2,e,h2,h3.symm⟩)
     | none =>
       rw[c2] at hh;refine .inr (.inr ⟨a2,hh,λ _ d4=>?_⟩);have ej:st.hp i=some e2:=hh;exact KC c2 (some { e2 with ro:=e2.rows.length }) (U8.2 ⟨i,d4,by rw[ej];rfl⟩)
    .rw [if_neg hr] at hh
     exact .inr (.inr ⟨a2,hh,λ h=>absurd h hr⟩)
 have b8:∀ i e g b,(∀ k:Nat,h0[k]? ≠ some i)->st.hp i=some e->M i=some g->g.blk=some b->w'.heap[b]? = w.heap[b]?:=by
  intro i e g b h1 h2 h3 h4;exact ht.keep b (m.block_lt h2 h3 h4) (aq i e g b h1 h2 h3 h4)
 have b9:∀ (k:Nat) e,hs'[k]? = some (some e)->Gj hs' k=some e:=λ k e h=>by simp[Gj,h]
 have d5:∀ (k:Nat) e (i:Nat),hs'[k]? = some (some e)->nm[k]? = some i -> ∃ g,M' k=some g/\M2 i=some g/\H4 T2 w' M2 (AX (nm.zipIdx.map λ (a,b)=>(b,a)) [] (λ _=>none) 4 e) g:=by
  intro k e i h1 h2;obtain⟨g,hg,ent⟩:=cb.ent k e (b9 k e h1);refine⟨g,hg,(b5 k i h2).trans hg,ent.s,by simpa [AX] using ent.ro,λ hz r hr=>?_,λ hn=>by simp[AX,ent.none hn],λ hz=>?_,λ hz b ai=>?_⟩
  .simp only[AX,Ql] at hr
   obtain⟨r0,cq,rfl⟩:=hr;rw[Qs];exact ent.wide hz r0 cq
  .obtain ⟨b,es,clock,hd,q1,q2,q3,q4⟩:=ent.mp hz
   refine⟨b,es,clock,hd,q1,Nat.le_zero.1 (q2 ▸ cd b),q3,q4.map (λ _=>rfl) λ row bb x hx v hr=>b6 _ _ (b7 _ _ hr ?_)⟩;rcases hpl with hpl | hpl
   .exact .inl hpl
   .exact .inr (hpl.2 e (Um h1) row bb x hx)
  .obtain ⟨cells,ty,h3,h4,h5,h6⟩:=ent.blk hz b ai
   refine⟨cells,ty,h3,QR (cd b) h4,by simpa [AX] using h5,λ i' j hi hj=>?_⟩
   simp only[AX,Qs] at hi hj ⊢;obtain⟨u,hu,ho,b2⟩:=h6 i' j hi hj;refine⟨u,hu,ho,?_⟩
   have e1:(e.rows.map (·.map (conv (nm.zipIdx.map λ (a,b)=>(b,a)) [] (λ _=>none) 4))).getD i' []=(e.rows.getD i' []).map (conv (nm.zipIdx.map λ (a,b)=>(b,a)) [] (λ _=>none) 4):=by
    simp only[List.getD,QB]
    cases e.rows[i']?<;>rfl
   rw[e1,GQ _ (GL _ _ _ _)];refine b6 _ _ (b7 _ _ b2 ?_);rcases hpl with hpl | hpl
   .exact .inl hpl
   .right
    have bb:e.rows.getD i' []=e.rows[i']:=by simp[List.getD,hi]
    have fr:=ent.wide hz _ (Qi hi);have em:j<e.rows[i'].length:=zy
    rw[bb];have c3:e.rows[i'].getD j .dead=e.rows[i'][j]:=by simp[List.getD,em]
    rw[c3];exact hpl.2 e (Um h1) _ (Qi hi) _ (Qi em)
 have ev:∀ i e g b,(∀ k:Nat,h0[k]? ≠ some i)->st.hp i=some e->M i=some g->g.blk=some b->(h9=true->i∉sn)->T2 b=T b:=by
  intro i e g b h1 h2 h3 h4 h5;have hf:=m.block_lt h2 h3 h4;show (if h9 then T' b else if b<w.heap.size then T b else T' b)=T b
  by_cases hr:h9=true
  .rw [if_pos hr,a0 b hf (aq i e g b h1 h2 h3 h4)]
   refine a9 b λ i' hi' e' g' h6 h7 h8=>?_;have:=m.hs.inj i i' e e' g g' b h2 h6 h3 h7 h4 h8;subst this;exact h5 hr hi'
  .rw [if_neg hr,if_pos hf]
 have a6:∀ {e:AD} {g:GE},H4 T w M e g -> ∀ ro',e.ro<=ro'->ro'<=e.rows.length->(∀ b,g.blk=some b->w'.heap[b]? = w.heap[b]? /\ T2 b<=g.base+ro'*e.s)->H4 T2 w' M2 { e with ro:=ro' } g:=by
  intro e g ent ro' fv fi ai;refine⟨ent.s,fi,ent.wide,ent.none,λ hz=>?_,λ hz b hd=>?_⟩
  .have ex:e.s=0:=hz
   obtain⟨b,es,clock,hd,q1,q2,q3,q4⟩:=ent.mp ex;obtain⟨p1,p2⟩:=ai b hd;rw[q3,ex] at p2;exact⟨b,es,clock,hd,by rw[p1];exact q1,zy,q3,q4.mono hv a4⟩
  obtain⟨cells,ty,h3,h4,h5,h6⟩:=ent.blk hz b hd;obtain⟨q1,q2⟩:=ai b hd;refine⟨cells,ty,by rw[q1];exact h3,q2,h5,λ i' j hi hj=>?_⟩
  obtain⟨u,hu,ho,b2⟩:=h6 i' j hi hj;exact⟨u,hu,ho,b2.mono hv a4⟩
 refine⟨v,T2,M2,rfl,⟨⟨λ i e2 hh=>?_,λ i i' e1 e2 g g' b h1 h2 h3 h4 h5 h6=>?_⟩,λ i g hg=>?_,?_⟩,hv,a4,b6 _ _ (b7 _ _ e4 (hpl.imp id λ h=>h.1))⟩
 .rcases a1 i e2 hh with ⟨k,e,h1,h2,rfl⟩ | ⟨hr,d4,a2,e,he,rfl⟩ | ⟨a2,he,fl⟩
  .obtain ⟨g,_,h3,h4⟩:=d5 k e i h1 h2
   exact⟨g,h3,h4⟩
  .obtain ⟨g,hg,ent⟩:=m.hs.ent i e he
   refine⟨g,a4 i g hg,a6 ent _ ent.ro (Qf _) λ b hd=>⟨b8 i e g b a2 he hg hd,?_⟩⟩;have hf:=m.block_lt he hg hd;have e5:T2 b=T' b:=by show (if h9 then T' b else _)=_;rw[hr];rfl
   rw[e5,a0 b hf (aq i e g b a2 he hg hd),b0 i d4 e g b he hg hd];exact Qf _
  .obtain ⟨g,hg,ent⟩:=m.hs.ent i e2 he
   refine⟨g,a4 i g hg,a6 ent e2.ro (Qf _) ent.ro λ b hd=>⟨b8 i e2 g b a2 he hg hd,?_⟩⟩;rw[ev i e2 g b a2 he hg hd fl]
   by_cases hz:e2.s=0
   .obtain ⟨b',es,clock,a7,q1,q2,q3,q4⟩:=ent.mp hz
    obtain rfl:=Qh (a7.symm.trans hd);omega
   obtain⟨cells,ty,_,h4,_⟩:=ent.blk hz b hd;exact h4
 .
  have bo:∀ i e2 g b,((h9=true/\i∈sn/\(∀ k:Nat,h0[k]? ≠ some i) /\ ∃ e,st.hp i=some e/\e2={ e with ro:=e.rows.length })∨((∀ k:Nat,h0[k]? ≠ some i)/\st.hp i=some e2/\(h9=true->i∉sn)))->M2 i=some g->g.blk=some b ->
    (∀ k:Nat,h0[k]? ≠ some i) /\ ∃ e,st.hp i=some e/\M i=some g/\b<w.heap.size:=by
   intro i e2 g b hq hg hd
   have:(∀ k:Nat,h0[k]? ≠ some i) /\ ∃ e,st.hp i=some e:=by
    rcases hq with ⟨_,_,h1,e,h2,_⟩ | ⟨h1,h2,_⟩
    .exact ⟨h1,e,h2⟩
    .exact ⟨h1,e2,h2⟩
   obtain⟨h1,e,h2⟩:=this;obtain⟨g1,d7,_⟩:=m.hs.ent i e h2;have:=a4 i g1 d7;rw[hg] at this;obtain rfl:=Qh this;exact⟨h1,e,h2,d7,m.block_lt h2 d7 hd⟩
  have cross:∀ (i i' k:Nat) e g g' e2' b,hs'[k]? = some (some e)->nm[k]? = some i->M2 i=some g->g.blk=some b ->
    ((h9=true/\i'∈sn/\(∀ k:Nat,h0[k]? ≠ some i') /\ ∃ e,st.hp i'=some e/\e2'={ e with ro:=e.rows.length })∨((∀ k:Nat,h0[k]? ≠ some i')/\st.hp i'=some e2'/\(h9=true->i'∉sn)))->M2 i'=some g'->g'.blk=some b->False:=by
   intro i i' k e g g' e2' b e6 a5 hg hd hq a3 a7;obtain⟨q1,e',q2,q3,q4⟩:=bo i' e2' g' b hq a3 a7;rcases ch k i a5 with ha | ⟨r1,r2,r3⟩
   .obtain ⟨ek,bt,_⟩:=hw k i ha
    obtain⟨gk,c4,_⟩:=m.hs.ent i ek bt;have:=a4 i gk c4;rw[hg] at this;obtain rfl:=Qh this;have:=m.hs.inj i i' ek e' g g' b bt q2 c4 q3 hd a7;subst this;exact q1 k ha
   .have c4:M' k=some g:=(b5 k i a5).symm.trans hg
    rcases ht.new k g b r1 c4 hd with h | h
    .exact aq i' e' g' b q1 q2 q3 a7 h
    .omega
  rcases a1 i e1 h1 with ⟨k,e,p1,p2,rfl⟩ | hq1
  .rcases a1 i' e2 h2 with ⟨k',e',p1',p2',rfl⟩ | hq2
   .have q1:M' k=some g:=(b5 k i p2).symm.trans h3
    have q2:M' k'=some g':=(b5 k' i' p2').symm.trans h4;have:=cb.inj k k' e e' g g' b (b9 k e p1) (b9 k' e' p1') q1 q2 h5 h6;subst this;exact Qh (p2.symm.trans p2')
   .exact (cross i i' k e g g' _ b p1 p2 h3 h5 hq2 h4 h6).elim
  .rcases a1 i' e2 h2 with ⟨k',e',p1',p2',rfl⟩ | hq2
   .exact (cross i' i k' e' g' g _ b p1' p2' h4 h6 hq1 h3 h5).elim
   .obtain ⟨_,ea,q2,q3,_⟩:=bo i e1 g b hq1 h3 h5
    obtain⟨_,eb,r2,r3,_⟩:=bo i' e2 g' b hq2 h4 h6;exact m.hs.inj i i' ea eb g g' b q2 r2 q3 r3 h5 h6
 .have a3:(if idb<=i/\i<idb+8 then M' (hs.length+(i - idb)) else M i)=some g:=hg
  by_cases hc:idb<=i/\i<idb+8
  .exact .inr hc
  .rw [if_neg hc] at a3
   exact .inl (m.dom i g a3)
 .have dd:∀ b,GV hs.length Mc b->GV np M0 b∨w0.heap.size<=b:=by
   rintro b ⟨k,g,e6,a5,d0⟩
   have hf:k<h0.length:=zy
   have ha:h0[k]? = some h0[k]:=Qc hf;rw[ag k _ ha] at a5;exact m.after.blk a5 d0
  refine m.after.step d2 (λ b hb f1=>?_) (λ k hk=>?_) ht.os ht.tape ht.output ht.size (λ b hb hn=>?_) hv λ k g b hk hg hd=>?_
  .have hf:b<w.heap.size:=Nat.lt_of_lt_of_le hb m.after.size
   show (if h9 then T' b else if b<w.heap.size then T b else T' b)=T b
   by_cases hr:h9=true
   .rw [if_pos hr,a0 b hf (λ h=>(dd b h).elim f1 zy)]
    refine a9 b λ i hi e g h1 h2 h3=>?_;exact(m.after.blk h2 h3).elim f1 zy
   .rw [if_neg hr,if_pos hf]
  .show (if idb<=k/\k<idb+8 then _ else M k)=M k
   rw[if_neg zy]
  .exact ht.keep b (Nat.lt_of_lt_of_le hb m.after.size) λ h=>(dd b h).elim hn zy
  .have a3:(if idb<=k/\k<idb+8 then M' (hs.length+(k - idb)) else M k)=some g:=hg
   by_cases hc:idb<=k/\k<idb+8
   .rw [if_pos hc] at a3
    rcases ht.new _ g b zy a3 hd with h | h
    .exact dd b h
    .have:=m.after.size
     exact .inr zy
   .rw [if_neg hc] at a3
    exact m.after.new k g b hk a3 hd
theorem jQ (o:Oper) (c:Call) (f:Operand) (h:o.op = .call c) (hb:c.callee = .value f) (h9:Fx P f=none):BG P np T0 M0 w0 aB st T M a w idb o:=by
 intro K hk;have hc:BD P o=(.call,AU f::c.args.toList.map AU):=by simp[BD,h,hb,h9]
 rw[hc] at hk;simp only[QA,Us] at hk;have ha:=Bn tm f;generalize hX:(AU f).ev st.get=X at *;generalize hd:a.eval f=fv at *
 cases X<;>(try (simp only[aK] at hk;done))
 rename_i fn first aE
 cases fn<;>(try (simp only[aK] at hk;done))
 rename_i fid;simp only[aK] at hk;obtain⟨ids,sn,raise,aA,hs,res,hs',h6,he,hf,hg,h7,u,h0,hpl,hk⟩:=hk
 cases ha with
 | fn _ _ _ _ us vs h8 hm hh hj =>
 have q:(∃ fn c,P.funcs[fid]? = some fn/\fn.body=some c/\fn.name ≠ "runtime.NumGoroutine")->(execOp a.eval o).run P w = .ok (.enter fid (us++c.args.map a.eval++vs)) w:=by
  rintro⟨fnc,cd,hl,h3,h4⟩
  simp[execOp,h,resolve,hb,hd,Deferred.ofValue,invoke,callFunc,hl,h3,h4]
 have h5:Fs T w M (first++c.args.toList.map ((λ x=>x.ev st.get)∘AU)++aE) (us++c.args.map a.eval++vs):=by
  refine⟨zw,λ i hi=>?_⟩
  simp only[Qe,Qs,Ul] at hi;simp only[List.getD,QD]
  by_cases h1:i<first.length
  .rw [Qq,QG h1,Array.append_assoc,Ui zy]
   simpa [List.getD,QD] using hh i h1
  .by_cases h2:i<first.length+c.args.size
   .rw [Qq,Qr zy,QG zw,Array.append_assoc,Array.getElem?_append_right zy,Ui zw,h8]
    have hi':i - first.length<c.args.size:=zy
    have:=Bn tm c.args[i - first.length]
    simpa [hi'] using this
   .rw [Qr zw,Array.getElem?_append_right zw]
    have:=hj (i - (first.length+c.args.size)) zy
    simp only[List.getD,QD] at this
    simpa [h8] using this
 exact X0 tm m aC aF o fid _ _ q h5 h6 he hf hg h7 u h0 hpl hk
omit tm m aC aF in
theorem pF {q:String} {t:TypeId} {f:FuncId} (h:AW (MZ P q) t=some f):KY P q t=some (t,f):=by
 have h1:=DW h;unfold MZ at h1;rw[U8] at h1;obtain⟨u,_,h2⟩:=h1
 have:u=t:=by
  unfold KY at h2;split at h2
  .split at h2
   .split at h2
    .cases h2;rfl
    .cases h2
   .cases h2
  .cases h2
 subst this;exact h2
omit tm m aC aF in
theorem fL {q:String} {t:TypeId} {f:FuncId} (h:KY P q t=some (t,f)) (n:Nat) (v:Value):(method (n+1) t v q).run P w = .ok (f,v) w:=by
 unfold KY at h;split at h
 case h_2=>cases h
 rename_i i fs hi hu;split at h
 case h_2=>cases h
 rename_i mt hm;split at h
 case h_2=>cases h
 rename_i hp hf
 cases h
 have hp':mt.path.toList=[]:=by
  have:mt.path = #[]:=by simpa using hp
  rw[this]
 have u:mt.path.isEmpty=true:=hp;unfold method;simp[typeInfo,hi,hm,hp',follow,hf,receiverAt,run_underlying hu,Place.get]
theorem mX (o:Oper) (c:Call) (r:Operand) (u:String) (h:o.op = .call c) (hb:c.callee = .invoke r u):BG P np T0 M0 w0 aB st T M a w idb o:=by
 intro K hk;have hc:BD P o=(.inv (MZ P u),AU r::c.args.toList.map AU):=by simp[BD,h,hb]
 rw[hc] at hk;simp only[QA,Us] at hk;have h9:=Bn tm r;generalize hX:(AU r).ev st.get=X at *;generalize ha:a.eval r=fv at *
 cases X<;>(try (simp only[aK] at hk;done))
 rename_i t x;simp only[aK] at hk;obtain⟨fid,ids,sn,raise,aA,hs,res,hs',h5,h6,he,hf,hg,h7,h0,h1,hpl,hk⟩:=hk;have h8:=pF h5
 cases h9 with
 | ifc _ _ _ v hv =>
 have q:(∃ fn c,P.funcs[fid]? = some fn/\fn.body=some c/\fn.name ≠ "runtime.NumGoroutine")->(execOp a.eval o).run P w = .ok (.enter fid (#[v]++c.args.map a.eval)) w:=by
  rintro⟨fnc,cd,hh,h2,h3⟩
  have hj:=λ n=>fL (w:=w) h8 n v
  have hd:∃ n,P.types.size+Made.depth=n+1:=by
   have:Made.depth=1+(Made.depth - 1):=zx
   exact⟨P.types.size+(Made.depth - 1),zy⟩
  obtain⟨n,hn⟩:=hd
  have e0:((#[Value.iface t v]++Array.map a.eval c.args)[0]? : Option Value)=some (.iface t v):=by
   rw[Ui zz];rfl
  have ex:(#[Value.iface t v]++Array.map a.eval c.args).extract 1 (#[Value.iface t v]++Array.map a.eval c.args).size=Array.map a.eval c.args:=by
   apply Array.ext';simp;exact Qd zz
  simp only[execOp,h,resolve,hb,ha,pure_bind,invoke,e0,ex,callMethod];simp[run_program,hn,hj,callFunc,hh,h2,h3]
 have h4:Fs T w M (x::c.args.toList.map ((λ x=>x.ev st.get)∘AU)) (#[v]++c.args.map a.eval):=by
  refine⟨zw,λ i hi=>?_⟩
  cases i with
  | zero =>
    simp only[List.getD,QD];rw[Ui zz]
    simpa using hv
  | succ i =>
    simp only[QS,Qs,Ul] at hi;have hi':i<c.args.size:=zy
    have:=Bn tm c.args[i];simp only[List.getD,QD];rw[Array.getElem?_append_right zz]
    simpa [hi'] using this
 exact X0 tm m aC aF o fid _ _ q h4 h6 he hf hg h7 h0 h1 hpl hk
end
end Go.Proofs.YtkabgnlcllmleaaGreat
namespace Go.Proofs.YtkabgnlcllmleaaGreat
open Go Go.MapKept
section
variable {T:Nat->Nat} {w:World} {M:GM}
theorem DN.length:∀ {rows:List (List AV)} {es:List MapEntry},DN T w M rows es->rows.length=es.length
 | [],[],_=>rfl
 | _::_,_::_,h=>by simp[DN.length h.2]
 | [],_::_,h=>False.elim h
 | _::_,[],h=>False.elim h
theorem DN.keys:∀ {rows:List (List AV)} {es:List MapEntry},DN T w M rows es -> ∀ e∈es,IsKey (.int .i64) e.key
 | [],[],_,_,h=>nomatch h
 | _::_,e::es,h,x,hx=>by
   rcases Qu.1 hx with rfl | hx
   .obtain ⟨n,_,_,h2,_⟩:=h.1
    rw[h2];rfl
   .exact DN.keys h.2 x hx
 | [],_::_,h,_,_=>False.elim h
 | _::_,[],h,_,_=>False.elim h
theorem DN.find (n:Int):∀ {rows:List (List AV)} {es:List MapEntry} (i:Nat),DN T w M rows es ->
  (∃ j e x,Instr.findNow (.int .i64) (.int .i64 n) es i=some (some (i+j,e.val))/\es[j]? = some e/\e.key = .int .i64 n/\DT n rows=some x/\Aj T w M x e.val /\
   (∀ y v',Aj T w M y v'->DN T w M (Bb n y rows) (es.modify j λ e=>{ e with key:=.int .i64 n,val:=v' }))/\DN T w M (C1 n rows) (es.eraseIdx j)) ∨
  (Instr.findNow (.int .i64) (.int .i64 n) es i=some none/\DT n rows=none/\(∀ y v' c,Aj T w M y v'->DN T w M (Bb n y rows) (es++[{ key:=.int .i64 n,val:=v',born:=c }]))/\DN T w M (C1 n rows) es)
 | [],[],i,_=>.inr ⟨rfl,rfl,λ y v' c hr=>⟨⟨n,y,rfl,rfl,hr⟩,trivial⟩,trivial⟩
 | row::rows,e::es,i,h=>by
   obtain⟨⟨k,x,h1,h2,h3⟩,h4⟩:=h;subst h1
   by_cases q:n=k
   .subst q
    refine .inl ⟨0,e,x,by simp[Instr.findNow,h2,Instr.sameNow],rfl,h2,by simp[DT],h3,λ y v' hr=>?_,?_⟩
    .simp only[Bb,UP,List.modify_zero_cons]
     exact⟨⟨n,y,rfl,rfl,hr⟩,h4⟩
    .simp only[C1,UP,List.eraseIdx_cons_zero]
     exact h4
   .have hf:Instr.findNow (.int .i64) (.int .i64 n) (e::es) i=Instr.findNow (.int .i64) (.int .i64 n) es (i+1):=by
     have:(n == k)=false:=by simpa using q
     simp[Instr.findNow,h2,Instr.sameNow,this]
    have hm:DT n ([.sc (.int .i64 k),x]::rows)=DT n rows:=by simp[DT,q]
    have hs:∀ y,Bb n y ([.sc (.int .i64 k),x]::rows)=[.sc (.int .i64 k),x]::Bb n y rows:=λ y=>by simp[Bb,q]
    have hd:C1 n ([.sc (.int .i64 k),x]::rows)=[.sc (.int .i64 k),x]::C1 n rows:=by simp[C1,q]
    rcases DN.find n (i+1) h4 with ⟨j,e',x',q1,q2,q3,q4,q5,q6,q7⟩ | ⟨q1,q2,q3,q4⟩
    .refine .inl ⟨j+1,e',x',by rw[hf,q1];congr 3;omega,q2,q3,by rw[hm,q4],q5,λ y v' hr=>?_,?_⟩
     .rw [hs]
      exact⟨⟨k,x,rfl,h2,h3⟩,q6 y v' hr⟩
     .rw [hd]
      exact⟨⟨k,x,rfl,h2,h3⟩,q7⟩
    .refine .inr ⟨by rw[hf,q1],by rw[hm,q2],λ y v' c hr=>?_,?_⟩
     .rw [hs]
      exact⟨⟨k,x,rfl,h2,h3⟩,q3 y v' c hr⟩
     .rw [hd]
      exact⟨⟨k,x,rfl,h2,h3⟩,q4⟩
 | [],_::_,_,h=>False.elim h
 | _::_,[],_,h=>False.elim h
theorem DN.set_len {rows:List (List AV)} {es:List MapEntry} (n:Int) (y:AV):DN T w M rows es->rows.length<=(Bb n y rows).length:=by
 intro h
 induction rows generalizing es with
 | nil=>simp
 | cons row rows ih =>
   cases es with
   | nil=>exact False.elim h
   | cons e es =>
     obtain⟨⟨k,x,h1,_,_⟩,h4⟩:=h;subst h1
     by_cases q:n=k
     .simp [Bb,q]
     .simp only[Bb,if_neg q,QS]
      exact Nat.succ_le_succ (ih h4)
end
section
variable {np:Nat} {T0:Nat->Nat} {M0:GM} {w0:World} {aB:Nat->Prop} {hp:Nat->Option AD} {T:Nat->Nat} {M:GM} {w:World}
theorem Bp.newMap (h:Bp np T0 M0 w0 aB hp T M w) {id:Nat} (hid:¬ aB id) (h8:np<=id) {w1:World} (hh:w1.heap=w.heap.push (.map #[] 0)) (os:w1.os=w.os) (tape:w1.tape=w.tape) (output:w1.output=w.output) {hp':Nat->Option AD} (h7:hp' id=some { s:=0,rows:=[] }) (q:∀ i e',i≠id->hp' i=some e'->hp i=some e') :
  ∃ M':GM,M' id=some ⟨some w.heap.size,0,0⟩/\(∀ i g,M i=some g->M' i=some g)/\Bp np T0 M0 w0 (λ i=>aB i∨i=id) hp' T M' w1/\Ax T w T w1:=by
 have old:∀ b o,w.heap[b]? = some o->w1.heap[b]? = some o:=λ b o hb=>by
  have:b<w.heap.size:=(Q0.1 hb).1;rw[hh,U5,if_neg zy];exact hb
 have p:Ax T w T w1:=⟨λ _=>Qf _,λ b cells ty fz hb=>⟨cells,fz,old _ _ hb,rfl,λ _ _=>rfl⟩⟩
 have u:M id=none:=by
  cases hm:M id with
  | none=>rfl
  | some g=>exact absurd (h.dom id g hm) hid
 have mm:∀ i g,M i=some g->(λ i=>if i=id then some (GE.mk (some w.heap.size) 0 0) else M i) i=some g:=by
  intro i g hg;have:i≠id:=by rintro rfl;rw[u] at hg;cases hg
  simp only[this,UA];exact hg
 refine⟨λ i=>if i=id then some ⟨some w.heap.size,0,0⟩ else M i,zz,mm,⟨⟨λ i e' he=>?_,λ i i' e1 e2 g g' b h1 h2 h3 h4 h5 h6=>?_⟩,λ i g hg=>?_,?_⟩,p⟩
 .by_cases hi:i=id
  .subst hi
   obtain rfl:=Qh (h7.symm.trans he);exact⟨⟨some w.heap.size,0,0⟩,if_pos rfl,rfl,Qf _,(λ h=>absurd rfl h),(λ e=>by simp at e),(λ _=>⟨w.heap.size,#[],0,rfl,by rw[hh];simp,h.T_zero (Qf _),rfl,trivial⟩),λ h=>absurd rfl h⟩
  .have h0:=q i e' hi he
   obtain⟨g,h1,h2⟩:=h.hs.ent i e' h0;refine⟨g,by simp only[hi,UA];exact h1,h2.mono p mm λ b hb=>⟨?_,rfl⟩⟩
   have:=h.block_lt h0 h1 hb;rw[hh,U5,if_neg zy]
 .by_cases hi:i=id<;>by_cases hi':i'=id
  .rw [hi,hi']
  .rw [if_pos hi] at h3;rw[if_neg hi'] at h4
   obtain rfl:=Qh h3;have:=h.block_lt (q i' e2 hi' h2) h4 h6;simp at h5;omega
  .rw [if_neg hi] at h3;rw[if_pos hi'] at h4
   obtain rfl:=Qh h4;have:=h.block_lt (q i e1 hi h1) h3 h5;simp at h6;omega
  .rw [if_neg hi] at h3;rw[if_neg hi'] at h4
   exact h.hs.inj i i' e1 e2 g g' b (q i e1 hi h1) (q i' e2 hi' h2) h3 h4 h5 h6
 .by_cases hi:i=id
  .exact .inr hi
  .rw [if_neg hi] at hg;exact .inl (h.dom i g hg)
 .refine h.after.step (λ b hb=>?_) (λ _ _ _=>rfl) (λ k hk=>?_) os tape output (by rw[hh];simp) (λ b hb _=>?_) p λ k g b hk hg hb=>?_
  .obtain ⟨c,ty',fz,h1,h2⟩:=h.after.tok b hb
   exact⟨c,ty',fz,old _ _ h1,h2⟩
  .have:k≠id:=zy
   simp only[this,UA]
  .have:=h.after.size
   rw[hh,U5,if_neg zy]
  .by_cases hi:k=id
   .rw [if_pos hi] at hg
    obtain rfl:=Qh hg;obtain rfl:=Qh hb;exact .inr h.after.size
   .rw [if_neg hi] at hg
    exact h.after.new k g b hk hg hb
theorem Bp.writeMap (h:Bp np T0 M0 w0 aB hp T M w) {id:Nat} {e0 e:AD} {g:GE} {b:Nat} {es es':Array MapEntry} {u clock':Nat} (h0:hp id=some e0) (hg:M id=some g) (hb:g.blk=some b) (h9:e0.s=0) (hw:w.heap[b]? = some (.map es u)) (hz:e.s=0) (ro:e.ro<=e.rows.length) (hm:DN T w M e.rows es'.toList) {hp':Nat->Option AD} (hf:hp' id=some e) (ha:∀ i e',i≠id->hp' i=some e'->hp i=some e') :
  Bp np T0 M0 w0 aB hp' T M { w with heap:=w.heap.setIfInBounds b (.map es' clock') }/\Ax T w T { w with heap:=w.heap.setIfInBounds b (.map es' clock') }:=by
 have q:=heap_set (o':=.map es' clock') hw
 have p:Ax T w T { w with heap:=w.heap.setIfInBounds b (.map es' clock') }:=by
  refine⟨λ _=>Qf _,λ k c t f hk=>⟨c,f,?_,rfl,λ _ _=>rfl⟩⟩;have hh:k≠b:=by rintro rfl;rw[hw] at hk;cases hk
  show (w.heap.setIfInBounds b _)[k]? = _;rw[q.2 k hh];exact hk
 obtain⟨g1,h7,ent0⟩:=h.hs.ent id e0 h0;obtain rfl:=Qh (hg.symm.trans h7);obtain⟨b',es0,clock0,hj,q1,q2,q3,q4⟩:=ent0.mp h9;obtain rfl:=Qh (hb.symm.trans hj)
 have hc:∀ i e' g1 b1,i≠id->hp i=some e'->M i=some g1->g1.blk=some b1->b1≠b:=by
  rintro i e' g1 b1 hi h1 h2 h3 rfl
  exact hi (h.hs.inj i id e' e0 g1 g b1 h1 h0 h2 hg h3 hb)
 refine⟨⟨⟨λ i e' he=>?_,λ i i' e1 e2 g1 g2 b1 h1 h2 h3 h4 h5 h6=>?_⟩,h.dom,?_⟩,p⟩
 .by_cases hi:i=id
  .subst hi
   obtain rfl:e=e':=Qh (hf.symm.trans he);exact⟨g,hg,ent0.s.trans (h9.trans hz.symm),ro,(λ h=>absurd hz h),(λ hn=>by rw[hb] at hn;cases hn),(λ _=>⟨b,es',clock',hb,q.1,q2,q3,hm.mono p λ _ _ h=>h⟩),λ h=>absurd hz h⟩
  .have hd:=ha i e' hi he
   obtain⟨g1,h1,h2⟩:=h.hs.ent i e' hd;exact⟨g1,h1,h2.mono p (λ _ _ h=>h) λ b1 h8=>⟨q.2 b1 (hc i e' g1 b1 hi hd h1 h8),rfl⟩⟩
 .have back:∀ i e1,hp' i=some e1 -> ∃ e2,hp i=some e2:=λ i e1 hl=>by
   by_cases hi:i=id
   .exact ⟨e0,by rw[hi];exact h0⟩
   .exact ⟨e1,ha i e1 hi hl⟩
  obtain⟨f1,ho⟩:=back i e1 h1;obtain⟨f2,hq⟩:=back i' e2 h2;exact h.hs.inj i i' f1 f2 g1 g2 b1 ho hq h3 h4 h5 h6
 .refine h.after.step (λ k hk=>?_) (λ _ _ _=>rfl) (λ k hk=>rfl) rfl rfl rfl zz (λ k hk hn=>?_) p λ k g1 b1 hk h7 h8=>h.after.new k g1 b1 hk h7 h8
  .obtain ⟨c,t,f,h1,h2⟩:=h.after.tok k hk
   obtain⟨c',f',e1,e2,_⟩:=p.cell k c t f h1;exact⟨c',t,f',e1,zy⟩
  .refine q.2 k ?_
   rintro rfl
   rcases h.after.blk hg hb with h1 | h1
   .exact hn h1
   .omega
end
end Go.Proofs.YtkabgnlcllmleaaGreat
namespace Go.Proofs.YtkabgnlcllmleaaGreat
open Go Go.MapKept
theorem Rd {P:Program} {t:TypeId} {z:Value} (h:Hp P t=some z):∃ k v i,P.underlying t=some (.map k v)/\P.underlying k=some (.int .i64)/\P.info? v=some i/\i.zero=some z:=by
 unfold Hp at h;split at h
 case h_2=>cases h
 rename_i k v hu;split at h
 case h_2=>cases h
 rename_i i hk hi;exact⟨k,v,i,hu,hk,hi,h⟩
section
variable {P:Program} {np:Nat} {T0:Nat->Nat} {M0:GM} {w0:World} {aB:Nat->Prop} {st:St} {T:Nat->Nat} {M:GM} {a:Act} {w:World} {idb:Nat}
variable (tm:∀ i,Aj T w M (st.get i) (a.tmps.getD i undef)) (m:Bp np T0 M0 w0 aB st.hp T M w) (aC:∀ k,k<8->¬ aB (idb+k)) (aF:np<=idb)
include m
theorem Om {i:Nat} {e:AD} {v:Value} (hr:Aj T w M (.mp i) v) (he:st.hp i=some e) (hz:e.s=0) :
  ∃ b es clock g,v = .map (some b)/\M i=some g/\g.blk=some b/\w.heap[b]? = some (.map es clock)/\DN T w M e.rows es.toList:=by
 cases hr with
 | mp _ _ g b hg h0 hb =>
   obtain⟨g',q,ent⟩:=m.hs.ent i e he;obtain rfl:=Qh (hg.symm.trans q);obtain⟨b',es,clock,u,q1,q2,q3,q4⟩:=ent.mp hz;obtain rfl:=Qh (hb.symm.trans u);exact⟨_,es,clock,g,rfl,hg,hb,q1,q4⟩
include aC aF in
theorem nM (o:Oper) (t:TypeId) (h:o.op = .makeMap t none):BG P np T0 M0 w0 aB st T M a w idb o:=by
 intro K hk;simp only[BD,h] at hk;split at hk
 case h_2=>exact False.elim hk
 simp only[List.map,aK] at hk;refine⟨_,_,_,hk,?_⟩
 have q:(execOp a.eval o).run P w = .ok (.value (.map (some w.heap.size))) (w.alloc (.map #[] 0)):=by
  have:(Instr.makeMap t none).run P w = .ok (.map (some w.heap.size)) (w.alloc (.map #[] 0)):=rfl;simp[execOp,h,this]
 rw[q]
 obtain⟨M',h1,h2,h3,h4⟩:=m.newMap (aC 0 zy) aF (w1:=w.alloc (.map #[] 0)) rfl rfl rfl rfl (hp':=(st.upd [(idb,some { s:=0,rows:=[] })]).hp) (by rw[St.hp_upd,Uj];simp[AW]) (λ i e' hi he=>by
  rw[St.hp_upd] at he;rw[Uj] at hi
  simpa [AW,Ne.symm hi] using he)
 exact⟨T,M',h3.wider (λ i hi=>hi.elim .inl λ hi=>.inr zy),h4,h2,.mp _ _ _ _ (by simpa using h1) rfl rfl⟩
include tm
theorem dQ (o:Oper) (t:TypeId) (x y:Operand) (ok:Bool) (h:o.op = .lookup t x y ok):BG P np T0 M0 w0 aB st T M a w idb o:=by
 intro K hk;simp only[BD,h] at hk;split at hk
 case h_2=>exact False.elim hk
 rename_i z hz;obtain⟨kt,vt,inf,hu,h1,hi,h4⟩:=Rd hz;simp only[List.map] at hk;have hr:=Bn tm x;have h5:=Bn tm y;generalize hv:a.eval x=v at *;generalize (AU x).ev st.get=X at *;generalize h3:a.eval y=v' at *;generalize (AU y).ev st.get=Y at *
 cases X<;>(try (simp only[aK] at hk;done))
 cases Y<;>(try (simp only[aK] at hk;done))
 rename_i i q
 cases q<;>(try (simp only[aK] at hk;done))
 rename_i kd n
 cases kd<;>(try (simp only[aK] at hk;done))
 simp only[aK] at hk;obtain⟨e,he,h6,hk⟩:=hk;obtain rfl:=Cu h5 rfl;obtain⟨b,es,clock,g,rfl,hg,hb,hw,hm⟩:=Om m hr he h6;have h2:IsKey (.int .i64) (.int .i64 n):=rfl;rcases hm.find n 0 with ⟨j,en,xv,q1,q2,q3,q4,q5,-,-⟩ | ⟨q1,q2,-,-⟩
 .refine ⟨_,_,_,hk,?_⟩
  rw[q4]
  have u:(Instr.lookup t (.map (some b)) (.int .i64 n) ok).run P w = .ok (if ok then .tuple #[en.val,.bool true] else en.val) w:=by
   simp[Instr.lookup,run_underlying hu,Go.MapKept.run_getObj_map hw,run_checkKey h1 h2,run_findKey h1 q1,Result.andThen]
  have h0:(execOp a.eval o).run P w = .ok (.value (if ok then .tuple #[en.val,.bool true] else en.val)) w:=by simp[execOp,h,hv,h3,u]
  cases ok with
  | false=>exact Ca m (by simpa using q5) h0
  | true =>
    refine Ca m (v':=.tuple #[en.val,.bool true]) ?_ h0;refine .tup _ _ _ rfl λ i hi=>?_
    match i,hi with
    | 0,_=>exact q5
    | 1,_=>exact .sc _ _ rfl
 .refine ⟨_,_,_,hk,?_⟩
  rw[q2]
  have u:(Instr.lookup t (.map (some b)) (.int .i64 n) ok).run P w = .ok (if ok then .tuple #[z,.bool false] else z) w:=by
   simp[Instr.lookup,run_underlying hu,Go.MapKept.run_getObj_map hw,run_checkKey h1 h2,run_findKey h1 q1,Result.andThen,zeroValue,typeInfo,hi,h4]
  have h0:(execOp a.eval o).run P w = .ok (.value (if ok then .tuple #[z,.bool false] else z)) w:=by simp[execOp,h,hv,h3,u]
  cases ok with
  | false=>exact Ca m (by simpa using NL z) h0
  | true =>
    refine Ca m (v':=.tuple #[z,.bool false]) ?_ h0;refine .tup _ _ _ rfl λ i hi=>?_
    match i,hi with
    | 0,_=>exact NL z
    | 1,_=>exact .sc _ _ rfl
theorem Vz (o:Oper) (t:TypeId) (x y u:Operand) (h:o.op = .mapUpdate t x y u∨o.op = .insert t x y u):BG P np T0 M0 w0 aB st T M a w idb o:=by
 intro K hk;have hc:BD P o=(match Hp P t with | some _=>(.mup,[AU x,AU y,AU u]) | none=>(.bad,[])):=by rcases h with h | h<;>(unfold BD;rw[h];rfl)
 rw[hc] at hk
 cases hz:Hp P t with
 | none=>rw[hz] at hk;exact False.elim hk
 | some z =>
 rw[hz] at hk;obtain⟨kt,vt,inf,hu,h3,hi,hn⟩:=Rd hz;simp only[List.map] at hk;have hr:=Bn tm x;have hh:=Bn tm y;have h5:=Bn tm u;generalize hv:a.eval x=v at *;generalize (AU x).ev st.get=X at *;generalize h6:a.eval y=v' at *;generalize (AU y).ev st.get=Y at *;generalize h7:a.eval u=v2 at *;generalize (AU u).ev st.get=U at *
 cases X<;>(try (simp only[aK] at hk;done))
 cases Y<;>(try (simp only[aK] at hk;done))
 rename_i i q
 cases q<;>(try (simp only[aK] at hk;done))
 rename_i kd n
 cases kd<;>(try (simp only[aK] at hk;done))
 simp only[aK] at hk;obtain⟨e,he,h0,hk⟩:=hk;obtain rfl:=Cu hh rfl;obtain⟨b,es,clock,g,rfl,hg,hb,hw,hm⟩:=Om m hr he h0;have h1:IsKey (.int .i64) (.int .i64 n):=rfl;obtain⟨g',ho,ent⟩:=m.hs.ent i e he;have h8:=hm.set_len n U;have h9:e.ro<=(Bb n U e.rows).length:=QR ent.ro h8;have ha:(st.upd [(i,some { e with rows:=Bb n U e.rows })]).hp i=some { e with rows:=Bb n U e.rows }:=by rw[St.hp_upd];simp[AW]
 have hd:∀ i' e',i'≠i->(st.upd [(i,some { e with rows:=Bb n U e.rows })]).hp i'=some e'->st.hp i'=some e':=λ i' e' hl hf=>by
  rw[St.hp_upd] at hf
  simpa [AW,Ne.symm hl] using hf
 refine⟨_,_,_,hk,?_⟩;rcases hm.find n 0 with ⟨j,en,xv,q1,q2,q3,q4,q5,q6,-⟩ | ⟨q1,q2,q6,-⟩
 .have hj:es[j]? = some en:=by simpa using q2
  have h2:(Instr.mapUpdate t (.map (some b)) (.int .i64 n) v2).run P w = .ok () { w with heap:=w.heap.setIfInBounds b (.map (es.modify j λ e=>{ e with key:=.int .i64 n,val:=v2 }) clock) }:=by
   rw[show (0+j)=j from Q9 j] at q1
   simp[Instr.mapUpdate,run_underlying hu,Go.MapKept.run_getObj_map hw,run_checkKey h3 h1,run_findKey h3 q1,hj,q3,run_keyThatStays h1,Go.MapKept.run_setObj_map _ hw,Result.andThen]
  have h4:(execOp a.eval o).run P w = .ok .skip { w with heap:=w.heap.setIfInBounds b (.map (es.modify j λ e=>{ e with key:=.int .i64 n,val:=v2 }) clock) }:=by
   rcases h with h | h<;>simp[execOp,h,hv,h6,h7,h2]
  rw[h4];obtain⟨m1,m2⟩:=m.writeMap he hg hb h0 hw (e:={ e with rows:=Bb n U e.rows }) h0 h9 (es':=es.modify j λ e=>{ e with key:=.int .i64 n,val:=v2 }) (clock':=clock) (by simpa using q6 U v2 h5) ha hd
  exact⟨T,M,m1.wider λ _ h=>.inl h,m2,λ _ _ h=>h,rfl⟩
 .have h2:(Instr.mapUpdate t (.map (some b)) (.int .i64 n) v2).run P w = .ok () { w with heap:=w.heap.setIfInBounds b (.map (es.push { key:=.int .i64 n,val:=v2,born:=clock }) (clock+1)) }:=by
   simp[Instr.mapUpdate,run_underlying hu,Go.MapKept.run_getObj_map hw,run_checkKey h3 h1,run_findKey h3 q1,Go.MapKept.run_setObj_map _ hw,Result.andThen]
  have h4:(execOp a.eval o).run P w = .ok .skip { w with heap:=w.heap.setIfInBounds b (.map (es.push { key:=.int .i64 n,val:=v2,born:=clock }) (clock+1)) }:=by
   rcases h with h | h<;>simp[execOp,h,hv,h6,h7,h2]
  rw[h4];obtain⟨m1,m2⟩:=m.writeMap he hg hb h0 hw (e:={ e with rows:=Bb n U e.rows }) h0 h9 (es':=es.push { key:=.int .i64 n,val:=v2,born:=clock }) (clock':=clock+1) (by simpa using q6 U v2 clock h5) ha hd
  exact⟨T,M,m1.wider λ _ h=>.inl h,m2,λ _ _ h=>h,rfl⟩
theorem bG (o:Oper) (c:Call) (h:o.op = .call c) (h3:c.callee = .builtin .delete):BG P np T0 M0 w0 aB st T M a w idb o:=by
 intro K hk;simp only[BD,h,h3] at hk;split at hk
 case h_2=>exact False.elim hk
 rename_i t ts x y ht hx;have h5:c.args = #[x,y]:=by rw[<- QW (xs:=c.args),hx]
 have h6:c.argTypes[0]? = some t:=by rw[<- Array.getElem?_toList,ht];rfl
 split at hk
 case h_2=>exact False.elim hk
 rename_i z hz;obtain⟨kt,vt,inf,hu,h0,hi,hf⟩:=Rd hz;simp only[List.map] at hk;have hr:=Bn tm x;have hc:=Bn tm y;generalize hv:a.eval x=v at *;generalize (AU x).ev st.get=X at *;generalize h7:a.eval y=v' at *;generalize (AU y).ev st.get=Y at *
 cases X<;>(try (simp only[aK] at hk;done))
 cases Y<;>(try (simp only[aK] at hk;done))
 rename_i i q
 cases q<;>(try (simp only[aK] at hk;done))
 rename_i kd n
 cases kd<;>(try (simp only[aK] at hk;done))
 simp only[aK] at hk;obtain⟨e,he,u,hk⟩:=hk;obtain rfl:=Cu hc rfl;obtain⟨b,es,clock,g,rfl,hg,hb,hw,hm⟩:=Om m hr he u;have h1:IsKey (.int .i64) (.int .i64 n):=rfl;have h8:(st.upd [(i,some { e with rows:=C1 n e.rows,ro:=0 })]).hp i=some { e with rows:=C1 n e.rows,ro:=0 }:=by rw[St.hp_upd];simp[AW]
 have h9:∀ i' e',i'≠i->(st.upd [(i,some { e with rows:=C1 n e.rows,ro:=0 })]).hp i'=some e'->st.hp i'=some e':=λ i' e' hd ha=>by
  rw[St.hp_upd] at ha
  simpa [AW,Ne.symm hd] using ha
 refine⟨_,_,_,hk,?_⟩;have h2:∀ {w':World},Aj T w' M (.tup []) (.tuple #[]):=.tup _ _ _ rfl λ i hi=>absurd hi (UW _);rcases hm.find n 0 with ⟨j,en,xv,q1,q2,q3,q4,q5,-,q7⟩ | ⟨q1,q2,-,q7⟩
 .have h4:(execOp a.eval o).run P w = .ok (.value (.tuple #[])) { w with heap:=w.heap.setIfInBounds b (.map (es.eraseIdxIfInBounds j) clock) }:=by
   rw[show (0+j)=j from Q9 j] at q1
   simp[execOp,h,resolve,h3,invoke,builtin,Builtin.delete_,h6,h5,hv,h7,run_underlying hu,Go.MapKept.run_getObj_map hw,run_checkKey h0 h1,run_findKey h0 q1,Go.MapKept.run_setObj_map _ hw,Result.andThen]
  rw[h4];obtain⟨m1,m2⟩:=m.writeMap he hg hb u hw (e:={ e with rows:=C1 n e.rows,ro:=0 }) u (Qk _) (es':=es.eraseIdxIfInBounds j) (clock':=clock) (by simpa using q7) h8 h9
  exact⟨T,M,m1.wider λ _ h=>.inl h,m2,λ _ _ h=>h,h2⟩
 .have h4:(execOp a.eval o).run P w = .ok (.value (.tuple #[])) { w with heap:=w.heap.setIfInBounds b (.map es clock) }:=by
   simp[execOp,h,resolve,h3,invoke,builtin,Builtin.delete_,h6,h5,hv,h7,run_underlying hu,Go.MapKept.run_getObj_map hw,run_checkKey h0 h1,run_findKey h0 q1,Go.MapKept.run_setObj_map _ hw,Result.andThen]
  rw[h4];obtain⟨m1,m2⟩:=m.writeMap he hg hb u hw (e:={ e with rows:=C1 n e.rows,ro:=0 }) u (Qk _) (es':=es) (clock':=clock) q7 h8 h9;exact⟨T,M,m1.wider λ _ h=>.inl h,m2,λ _ _ h=>h,h2⟩
end
theorem TB:∀ {rows:List (List AV)} {bs:List UInt8},Hj rows=some bs -> ∃ ns:List Int,rows=ns.map (λ n=>[AV.sc (.int .u8 n)])/\bs=ns.map λ n=>UInt8.ofNat n.toNat
 | [],bs,h=>by simp[Hj] at h;exact⟨[],rfl,h⟩
 | r::rows,bs,h=>by
   unfold Hj at h;split at h
   .rename_i e;cases e
   .rename_i n rest e
    cases e;simp only[Qy] at h;obtain⟨bs',h1,rfl⟩:=h;obtain⟨ns,rfl,rfl⟩:=TB h1;exact⟨n::ns,rfl,rfl⟩
   .cases h
theorem tD {P:Program} {fn:Func} {s:Nat} (h:Ij P fn=some s):fn.body.isNone=true/\(fn.name == "runtime.NumGoroutine")=false/\Extern.findNext fn=none /\
  Extern.find fn=some (Extern.SlicesOverlaps.overlaps fn.params fn.resultTypes) /\ ∃ t u e,fn.params = #[t,u]/\P.underlying t=some (.slice e)/\CZ P e=some s:=by
 unfold Ij at h;split at h
 case isFalse=>cases h
 rename_i hc;simp only[QH,bne_iff_ne,ne_eq,beq_iff_eq,Option.isNone_iff_eq_none] at hc;obtain⟨⟨⟨⟨⟨⟨h1,h2⟩,h3⟩,h4⟩,h5⟩,h6⟩,h7⟩:=hc;have e1:Extern.allNextRows.lookup "slices.overlaps" = none:=rfl;have e2:Extern.allGenericRows.lookup "slices.overlaps" = none:=rfl;have e3:Extern.allTypedRows.lookup "slices.overlaps" = some Extern.SlicesOverlaps.overlaps:=rfl;refine⟨by simp[h1],by simpa using h2,by simp[Extern.findNext,h3,h4,e1],by simp[Extern.find,h3,h5,h6,h7,e2,e3],?_⟩
 split at h
 case h_2=>cases h
 rename_i t u hp;split at h
 case h_2=>cases h
 rename_i e hu;exact⟨t,u,e,by rw[<- QW (xs:=fn.params),hp],hu,h⟩
theorem Iv:∃ (q:Question) (s1 s2:String),∀ (t u:TypeId) (R:Array TypeId) (a b:Option Addr) (la ca lb cb:Nat),Extern.SlicesOverlaps.overlaps #[t,u] R #[.slice a la ca,.slice b lb cb]=(do
  let some t:=(#[t,u]:Array TypeId)[0]? | stuck s1
  let .slice elem <- underlying t | stuck s2
  let size <- sizeOf elem
  match a,b with
  | some a,some b =>
    if la=0∨lb=0∨size=0 then pure (Value.bool false)
    else if a.block != b.block && (<- frozen a) && (<- frozen b) then unsupported .addressObserved
    else do
     if a.block != b.block then do
      noView a;noView b
      if <- mayBeOne a b then return Value.bool ((<- choose q) == 1)
     pure (Value.bool (a.block == b.block && a.off<b.off+lb*size && b.off<a.off+la*size))
  | _,_=>pure (Value.bool false):Sem Value):=⟨_,"none",_,λ _ _ _ _ _ _ _ _ _=>rfl⟩
section
variable {P:Program} {np:Nat} {T0:Nat->Nat} {M0:GM} {w0:World} {aB:Nat->Prop} {st:St} {T:Nat->Nat} {M:GM} {a:Act} {w:World} {idb:Nat}
variable (tm:∀ i,Aj T w M (st.get i) (a.tmps.getD i undef)) (m:Bp np T0 M0 w0 aB st.hp T M w) (aC:∀ k,k<8->¬ aB (idb+k)) (aF:np<=idb)
include tm m
theorem cU (o:Oper) (t u:TypeId) (x:Operand) (h:o.op = .convert t u x) (e:TypeId) (h1:P.underlying t=some (.slice e)) (h2:P.underlying u=some .string):BG P np T0 M0 w0 aB st T M a w idb o:=by
 intro K hk;have hr:=Bn tm x;simp only[BD,h,h1,h2] at hk;split at hk
 case h_2=>exact False.elim hk
 rename_i he;simp only[List.map,aK] at hk;obtain⟨rows,bs,h3,h6,hk⟩:=hk;obtain⟨ad,cap,us,hv,h9,h5,h7,h8⟩:=Hq m.hs hr h3;obtain⟨ns,rfl,rfl⟩:=TB h6;refine⟨_,_,_,hk,Ca m (.sc _ _ rfl) ?_⟩
 have q:us=ns.map (Value.int .u8):=by
  apply List.ext_getElem
  .rw [h5.size];simp
  .intro i hi hi'
   have hl:i<ns.length:=by simpa using hi'
   have:=h5.cell i 0 (by simpa using hl) zy
   have e1:(ns.map λ n=>[AV.sc (.int .u8 n)]).getD i []=[AV.sc (.int .u8 ns[i])]:=by simp[List.getD,hl]
   have e2:us.getD (i*1+0) undef=us[i]:=by simp[List.getD,hi]
   rw[e1,e2] at this;have:=Cu this rfl;rw[this];simp
 have h4:(convert t u (a.eval x)).run P w = .ok (.string ⟨(ns.map λ n=>UInt8.ofNat n.toNat).toArray⟩) w:=by
  rw[hv,run_convert_bytes_string w t u e _ _ _ h1 he h2]
  cases ad with
  | none =>
    have h0:=h7 rfl;rw[q] at h0;have:ns=[]:=by simpa using h0
    subst this;simp[Conv.bytesToString];rfl
  | some ad =>
    have hl:(loadCells ad (ns.map λ n=>[AV.sc (.int .u8 n)]).length).run P w = .ok (ns.map (Value.int .u8)).toArray w:=by
     have:=run_loadCells_list (P:=P) w ad us (h8 ad rfl);rw[q] at this
     simpa using this
    rw[run_bytesToString w ad _ cap ns hl,foldl_push_bytes]
    congr 3
    have h0:ByteArray.empty.data = #[]:=rfl;rw[h0];simp
 simp[execOp,h,h4]
theorem tH (o:Oper) (c:Call) (f:Operand) (h:o.op = .call c) (hb:c.callee = .value f) {s:Nat} (h4:Fx P f=some s):BG P np T0 M0 w0 aB st T M a w idb o:=by
 intro K hk;have hc:BD P o=(.ovl s,c.args.toList.map AU):=by simp[BD,h,hb,h4]
 rw[hc] at hk
 cases f<;>(try (simp[Fx] at h4;done))
 rename_i g0;simp only[Fx] at h4;split at h4
 case h_2=>cases h4
 rename_i fn hv;obtain⟨h8,h9,ha,hd,t,u,e,hf,h5,hh⟩:=tD h4
 have h2:∀ w,(sizeOf e).run P w = .ok s w:=by
  intro w;simp only[CZ,Qy] at hh;obtain⟨i,hi,hs⟩:=hh;simp[sizeOf,typeInfo,hi,hs]
 cases hx:c.args.toList with
 | nil=>rw[hx] at hk;simp[aK] at hk
 | cons x xs =>
 cases xs with
 | nil=>rw[hx] at hk;simp[aK] at hk
 | cons y ys =>
 cases ys with
 | cons z zs=>rw[hx] at hk;simp[aK] at hk
 | nil =>
 have hw:c.args = #[x,y]:=by rw[<- QW (xs:=c.args),hx]
 rw[hx] at hk;simp only[QA,Vb] at hk;have hy:=Bn tm x;have a0:=Bn tm y;generalize a3:a.eval x=v1 at *;generalize a4:a.eval y=v2 at *;generalize (AU x).ev st.get=X at *;generalize (AU y).ev st.get=Y at *
 cases X<;>(try (simp only[aK] at hk;done))
 cases Y<;>(try (simp only[aK] at hk;done))
 rename_i s1 full rows id off len cap2;simp only[aK] at hk;obtain⟨en,a5,hj,hl,a6,hk⟩:=hk;have hm:s=s1:=hj.symm
 clear hj
 subst hm;refine⟨_,_,_,hk,Ca m (.sc _ _ rfl) ?_⟩
 cases hy with
 | vs _ _ _ _ a1 cap1 c1 bp b9 bs a7 bt c0 =>
 cases a0 with
 | rk _ _ _ _ _ a2 g hg hz c2 a8 a9 =>
 obtain⟨g',ag,ent⟩:=m.hs.ent id en a5;obtain rfl:=Qh (hg.symm.trans ag);have hS:g.s=s:=ent.s.trans hl
 have he:∀ n,n=rows.length->(Extern.SlicesOverlaps.overlaps fn.params fn.resultTypes #[.slice a1 n cap1,.slice a2 len cap2]).run P w = .ok (.bool false) w:=by
  intro n hn;obtain⟨q,s1,s2,Iv⟩:=Iv;rw[hf]
  cases a1 with
  | none=>simp[Iv,run_underlying h5,h2]
  | some x1 =>
  cases a2 with
  | none=>simp[Iv,run_underlying h5,h2]
  | some x2 =>
  by_cases h0:n=0∨len=0∨s=0
  .simp [Iv,run_underlying h5,h2,h0]
  .have ai:rows≠[]:=by rintro rfl;simp at hn;omega
   obtain⟨b,o1,cells,ty,fz,am,h6,c3,-⟩:=a7 ai;have bb:0<rows.length*s:=Nat.mul_pos zy zy
   obtain⟨cA,tA,fA,hA,c4⟩:=m.after.tok b zy
   rw[h6] at hA;injection hA with hA;injection hA with an aq au;subst an aq au
   cases h7:g.blk with
   | none=>have:=a8 h7;omega
   | some b2 =>
   obtain⟨av,-⟩:=a9 b2 h7;obtain⟨cB,tB,hB,b0,bo,-⟩:=ent.blk (ent.s ▸ hz) b2 h7
   have ho:x2=⟨b2,g.base+off*g.s,none⟩:=by
    rcases av with h | h
    .omega
    .exact Qh h
   obtain rfl:=Qh am;subst ho;have hq:en.ro*en.s<=off*en.s:=QE _ a6;rw[hl] at hq b0;have b1:w.frozen? ⟨b2,g.base+off*g.s,none⟩=false:=by simp[World.frozen?,hB]
   have hr:w.frozen? ⟨b2,cB.size,none⟩=false:=by simp[World.frozen?,hB]
   have b3:w.shape? b=some (ty,cells.size):=by simp[World.shape?,h6]
   have b4:w.shape? b2=some (tB,cB.size):=by simp[World.shape?,hB]
   by_cases ht:b=b2
   .subst ht
    simp[Iv,run_underlying h5,h2,h0];intro h1;rw[hS,hn];omega
   .have b5:cells.size≠0:=zy
    generalize c5:cells.size=kA at *
    cases kA with
    | zero=>exact absurd rfl b5
    | succ kA =>
      cases b6:w.frozen? ⟨b,o1,none⟩<;>cases b7:w.frozen? ⟨b,kA+1,none⟩ <;>
      simp[Iv,run_underlying h5,h2,h0,ht,frozen,noView,viewAt,mayBeOne,stringish,shape,Sem.run,b3,b4,b1,hr,b6,b7]
 have hu:=he _ rfl;have h3:=run_callFunc_extern hv h9 h8 ha hd #[.slice a1 rows.length cap1,.slice a2 len cap2] w;rw[hu] at h3;simp only[Result.andThen] at h3;have b8:a.eval (.func g0) = .func (.func g0) #[] #[]:=rfl;simp[execOp,h,resolve,hb,b8,Deferred.ofValue,invoke,hw,a3,a4,h3]
include aC aF
theorem WM (o:Oper):BG P np T0 M0 w0 aB st T M a w idb o:=by
 have bad:(BD P o).1 = .bad->BG P np T0 M0 w0 aB st T M a w idb o:=by
  intro hb K hk;rw[hb] at hk;exact False.elim (by cases h:(BD P o).2.map (·.ev st.get)<;>(rw[h] at hk;exact hk))
 cases q:o.op with
 | move x=>exact SQ tm m o x (.inl q)
 | assign x=>exact SQ tm m o x (.inr q)
 | pick c x y=>exact j5 tm m o c x y q
 | alloc t=>exact tP m aC aF o t q
 | box t x=>exact c6 tm m aC aF o t x q
 | build t ps=>exact nH tm m o t ps q
 | buildSlice t n ps=>exact rS tm m aC aF o t n ps q
 | load t x=>exact kW tm m o t x q
 | store t x y=>exact o0 tm m o t x y q
 | nilCheck x=>exact rF tm m o x q
 | binOp op t x y u=>exact bH tm m o op t u x y q
 | unOp op t x=>exact pJ tm m o op t x q
 | convert t u x =>
   cases h1:P.underlying t with
   | none=>exact bad (by simp[BD,q,h1])
   | some d1 =>
     cases h2:P.underlying u with
     | none=>exact bad (by simp[BD,q,h1,h2])
     | some d2 =>
       by_cases q1:∃ k k',d1 = .int k/\d2 = .int k'
       .obtain ⟨k,k',rfl,rfl⟩:=q1
        exact wA tm m o t u x q k k' h1 h2
       .by_cases q2:∃ e,d1 = .slice e/\d2 = .string
        .obtain ⟨e,rfl,rfl⟩:=q2
         exact cU tm m o t u x q e h1 h2
        .refine bad ?_
         simp only[BD,q,h1,h2];split
         .rename_i e1 e2;cases e1;cases e2;exact absurd ⟨_,_,rfl,rfl⟩ q1
         .rename_i e1 e2;cases e1;cases e2;exact absurd ⟨_,rfl,rfl⟩ q2
         .rfl
 | makeFunc f first aE =>
   cases f with
   | func f=>exact eX tm m o f first aE q
   | _=>exact bad (by simp[BD,q])
 | makeSlice t x y=>exact kG tm m aC aF o t x y q
 | slice t x lo hi mx=>exact eQ tm m o t x lo hi mx q
 | fieldAddr t x f=>exact Zz tm m o t x f q
 | field t x f=>exact ZS tm m o t x f q
 | indexAddr t x y=>exact Z5 tm m o t x y q
 | index t x y=>exact pL tm m o t x y q
 | extract x i=>exact eA tm m o x i q
 | call c =>
   cases hc:c.callee with
   | value f =>
     cases h0:Fx P f with
     | none=>exact jQ tm m aC aF o c f q hc h0
     | some s=>exact tH tm m o c f q hc h0
   | invoke r n=>exact mX tm m aC aF o c r n q hc
   | builtin b =>
     cases b with
     | append=>exact nI tm m aC aF o c q hc
     | copy=>exact ZM tm m o c q hc
     | clear=>exact oC tm m o c q hc
     | cap=>exact j0 tm m o c q hc
     | len =>
       cases ht:c.argTypes.toList with
       | nil=>exact bad (by simp[BD,q,hc,ht])
       | cons t ts =>
         cases ts with
         | cons t' ts=>exact bad (by simp[BD,q,hc,ht])
         | nil =>
           cases hx:c.args.toList with
           | nil=>exact bad (by simp[BD,q,hc,ht,hx])
           | cons x xs =>
             cases xs with
             | cons x' xs=>exact bad (by simp[BD,q,hc,ht,hx])
             | nil=>exact gL tm m o c q hc t x ht hx
     | max=>exact Td tm m o c q true (by simpa using hc)
     | min=>exact Td tm m o c q false (by simpa using hc)
     | delete=>exact bG tm m o c q hc
     | _=>exact bad (by simp[BD,q,hc])
 | makeInterface t x=>exact Zm tm m o t x q
 | makeMap t r =>
   cases r with
   | none=>exact nM m aC aF o t q
   | some r=>exact bad (by simp[BD,q])
 | lookup t x y ok=>exact dQ tm m o t x y ok q
 | mapUpdate t x y u=>exact Vz tm m o t x y u (.inl q)
 | insert t x y u=>exact Vz tm m o t x y u (.inr q)
 | _=>exact bad (by simp[BD,q])
end
variable {o:Oper} {ops:Array Oper}
section
variable {P:Program} {np:Nat} {T0:Nat->Nat} {M0:GM} {w0:World} {aB:Nat->Prop} {st:St} {T:Nat->Nat} {M:GM} {a:Act} {w:World}
theorem Ok.mem (ok:Ok np T0 M0 w0 aB st T M a w):Bp np T0 M0 w0 aB st.hp T M w:=⟨ok.hs,ok.dom,ok.after⟩
theorem Ok.wider (ok:Ok np T0 M0 w0 aB st T M a w) {q:Nat->Prop} (h:∀ i,aB i->q i):Ok np T0 M0 w0 q st T M a w :=
 ⟨ok.sz,ok.df,ok.tm,ok.hs,λ id g hg=>h _ (ok.dom id g hg),ok.after⟩
theorem Ok.ext (ok:Ok np T0 M0 w0 aB st T M a w) {st':St} (h1:st'.sz=st.sz) (h2:∀ i,st'.get i=st.get i) (h3:∀ i,st'.hp i=st.hp i):Ok np T0 M0 w0 aB st' T M a w:=by
 have e:st'.hp=st.hp:=funext h3;exact⟨ok.sz.trans h1.symm,ok.df,λ i=>by rw[h2];exact ok.tm i,by rw[e];exact ok.hs,ok.dom,ok.after⟩
theorem St.sz_put (st:St) (d:Option Nat) (v:AV):(st.put d v).sz=st.sz:=by cases d<;>rfl
theorem Nt (a:Act) (d:Option Nat) (v:Value):(a.put d v).tmps.size=a.tmps.size:=by
 cases d<;>simp[Act.put]
theorem Oa (a:Act) (d:Option Nat) (v:Value):(a.put d v).defers=a.defers:=by cases d<;>rfl
theorem VW (ok:Ok np T0 M0 w0 aB st T M a w) (hd:o.dst.all (· < st.sz)=true) {id:Nat} {v:AV} {up:List (Nat × Option AD)} (he:Ek P np T0 M0 w0 aB id (st.upd up).hp T M w v ((execOp a.eval o).run P w)) {next:Act->World->Prop} {Q:Exit->Act->World->Prop} (hn:∀ T' M' a' w',Ok np T0 M0 w0 (λ i=>aB i∨(id<=i/\i<id+8)) ((st.put o.dst v).upd up) T' M' a' w'->next a' w'):o.wp P a w next Q:=by
 have fin:∀ T' M' w' v',Bp np T0 M0 w0 (λ i=>aB i∨(id<=i/\i<id+8)) (st.upd up).hp T' M' w'->Ax T w T' w'->(∀ i g,M i=some g->M' i=some g)->Aj T' w' M' v v'->next (a.put o.dst v') w':=by
  intro T' M' w' v' hm hp hM hr;refine hn T' M' _ w' ⟨?_,?_,?_,?_,hm.dom,hm.after⟩
  .rw [Nt]
   exact ok.sz.trans (St.sz_put _ _ _).symm
  .rw [Oa];exact ok.df
  .exact Py ok.sz (λ i=>(ok.tm i).mono hp hM) hd hr
  .have e:((st.put o.dst v).upd up).hp=(st.upd up).hp:=by
    funext i
    rw[St.hp_upd,St.hp_upd,St.hp_put]
   rw[e];exact hm.hs
 unfold Oper.wp;generalize q:(execOp a.eval o).run P w=r at *
 cases r with
 | halt h w'=>exact False.elim he
 | ok n w' =>
   cases n with
   | value v' =>
     obtain⟨T',M',h1,h2,h3,h4⟩:=he;exact fin T' M' w' v' h1 h2 h3 h4
   | skip =>
     obtain⟨T',M',h1,h2,h3,rfl⟩:=he;exact fin T' M' w' undef h1 h2 h3 (.dead _ _)
   | enter f args =>
     obtain⟨rfl,hc⟩:=he;refine hc.mono ?_
     rintro e w'' ⟨v',T',M',rfl,h1,h2,h3,h4⟩
     exact fin T' M' w'' v' h1 h2 h3 h4
   | _=>exact False.elim he
theorem SL (tm:∀ i,Aj T w M (st.get i) (a.tmps.getD i undef)) {j d:Nat} {q:Bool} {b:Option Bool} (hg:o.guard=some (j,q)) (hj:(ops[j]?).bind (·.dst)=some d) (hb:G8 (st.get d)=some b) :
  Region.wanted o (yielded ops a.tmps)=(b == some q):=by
 have h1:=tm d;unfold G8 at hb;split at hb
 .rename_i b' heq
  obtain rfl:=Qh hb;rw[heq] at h1;have h2:=Cu h1 rfl
  have h3:a.tmps[d]? = some (.bool b'):=by
   rw[QD] at h2
   cases h:a.tmps[d]? with
   | none=>rw[h] at h2;cases h2
   | some v=>rw[h] at h2;simp at h2;rw[h2]
  simp only[Region.wanted,hg,yielded,hj,Option.bind_some,h3]
 .rename_i heq
  obtain rfl:=Qh hb;rw[heq] at h1
  have h3:a.tmps[d]? = none ∨ ∃ vs,a.tmps[d]? = some (.tuple vs):=by
   rw[QD] at h1
   cases h:a.tmps[d]? with
   | none=>exact .inl rfl
   | some v =>
     rw[h] at h1;simp only[QZ] at h1
     cases h1;exact .inr ⟨_,rfl⟩
  rcases h3 with h3 | ⟨vs,h3⟩<;>simp only[Region.wanted,hg,yielded,hj,Option.bind_some,h3]<;>rfl
 .cases hb
theorem MW:(Bx P ops o).dst=o.dst/\((o.guard=none/\(Bx P ops o).guard=none/\(Bx P ops o).op=(BD P o).1/\(Bx P ops o).xs=(BD P o).2) ∨
  (∃ j want d,o.guard=some (j,want)/\(ops[j]?).bind (·.dst)=some d/\(Bx P ops o).guard=some (d,want)/\(Bx P ops o).op=(BD P o).1/\(Bx P ops o).xs=(BD P o).2) ∨
  ((Bx P ops o).guard=none/\(Bx P ops o).op = .bad/\(Bx P ops o).xs=[])):=by
 unfold Bx
 cases hg:o.guard with
 | none=>exact⟨rfl,.inl ⟨rfl,rfl,rfl,rfl⟩⟩
 | some p =>
   obtain⟨j,want⟩:=p;simp only
   cases hj:(ops[j]?).bind (·.dst) with
   | none=>exact⟨rfl,.inr (.inr ⟨rfl,rfl,rfl⟩)⟩
   | some d=>exact⟨rfl,.inr (.inl ⟨j,want,d,rfl,hj,rfl,rfl,rfl⟩)⟩
theorem O4 {ops:Array Oper} {n:Nat} (h5:np<=n) {Q:Exit->Act->World->Prop} {K:St->List (List Nat × List Nat)->Prop} (hQ:∀ st tr T M a w,K st tr->Ok np T0 M0 w0 (G0 (n+8*ops.size)) st T M a w->Q .normal a w) :
  ∀ (k i:Nat) (st:St) (tr:List (List Nat × List Nat)) (T:Nat->Nat) (M:GM) (a:Act) (w:World),i+k=ops.size->(∀ o∈ops,o.dst.all (· < st.sz)=true) ->
    Ok np T0 M0 w0 (G0 (n+8*i)) st T M a w->Bt P np n i ((ops.toList.map (Bx P ops)).drop i) st tr K->wpOps P ops Q (List.range' i k) a w
 | 0,i,st,tr,T,M,a,w,hi,hd,ok,h=>by
   have e:(ops.toList.map (Bx P ops)).drop i=[]:=by rw[List.drop_eq_nil_iff];simp;omega
   rw[e] at h;obtain rfl:i=ops.size:=zy
   exact hQ st tr T M a w h ok
 | k+1,i,st,tr,T,M,a,w,hi,hd,ok,h=>by
   have h0:i<ops.size:=zy
   have e:(ops.toList.map (Bx P ops)).drop i=Bx P ops ops[i]::(ops.toList.map (Bx P ops)).drop (i+1):=by
    rw[QO (by simpa using h0)]
    simp
   rw[e] at h;have ho:ops[i]? = some ops[i]:=Array.getElem?_eq_getElem h0;have h6:=hd _ (Array.getElem_mem h0);rw[List.range'_succ,wpOps_cons];simp only[wpOp,ho]
   have run:(aK P np (n+8*i) (BD P ops[i]).1 ((BD P ops[i]).2.map (·.ev st.get)) st.hp λ v rd up=>Bt P np n (i+1) ((ops.toList.map (Bx P ops)).drop (i+1)) ((st.put ops[i].dst v).upd up) (tr++[(rd,up.map (·.1))]) K) ->
     ops[i].wp P a w (wpOps P ops Q (List.range' (i+1) k)) Q:=by
    intro hk;obtain⟨v,rd,up,h1,h2⟩:=WM ok.tm ok.mem (idb:=n+8*i) (λ q hq hl=>by have:n+8*i+q<n+8*i:=hl;omega) zy ops[i] _ hk
    refine VW ok h6 h2 λ T' M' a' w' ok'=>?_;refine O4 h5 hQ k (i+1) _ _ T' M' a' w' zy (λ o ho=>?_) (ok'.wider λ j hj=>?_) h1
    .show o.dst.all (· < (st.put _ _).sz)=true
     rw[St.sz_put];exact hd o ho
    .rcases hj with hj | hj
     .have:j<n+8*i:=hj
      show j<n+8*(i+1);omega
     .show j<n+8*(i+1)
      omega
   simp only[Bt] at h;obtain⟨u,hc⟩:=MW (P:=P) (ops:=ops) (o:=ops[i]);rcases hc with ⟨g1,g2,g3,g4⟩ | ⟨j,want,d,g1,g2,g3,g4,g5⟩ | ⟨g1,g2,g3⟩
   .rw [g2] at h
    simp only[g3,g4,u] at h;have h3:Region.wanted ops[i] (yielded ops a.tmps)=true:=by simp[Region.wanted,g1]
    rw[if_pos h3];exact .inl (run h)
   .rw [g3] at h
    simp only[g4,g5,u] at h;obtain⟨b,hb,h⟩:=h;have h3:=SL ok.tm g1 g2 hb;rw[h3]
    by_cases h4:b=some want
    .subst h4
     simp only[UP,beq_self_eq_true] at h ⊢;exact .inl (run h)
    .rw [if_neg h4] at h
     rw[if_neg (by simpa using h4)]
     refine O4 h5 hQ k (i+1) (st.put ops[i].dst (.tup [])) _ T M (a.put ops[i].dst undef) w zy (λ o ho=>by rw[St.sz_put];exact hd o ho) ?_ h
     refine⟨by rw[Nt,St.sz_put];exact ok.sz,by rw[Oa];exact ok.df,Py ok.sz ok.tm h6 (.tup _ [] #[] rfl (λ i hi=>by simp at hi)),?_,λ id g hg=>?_,ok.after⟩
     .have e:(st.put ops[i].dst (.tup [])).hp=st.hp:=by funext q;rw[St.hp_put]
      rw[e];exact ok.hs
     .have:id<n+8*i:=ok.dom id g hg
      show id<n+8*(i+1);omega
   .rw [g1] at h
    simp only[g2,g3] at h;exact False.elim h
end
variable {x:AV}
theorem PO {α β:Type} {f g:α->Option β}:∀ {l:List α},(∀ x∈l,f x=g x)->l.filterMap f=l.filterMap g
 | [],_=>rfl
 | x::l,h=>by
   rw[US,US,h x Qo,PO λ y hy=>h y (Qj _ hy)]
section
variable {P:Program} {np id:Nat} {op:E6} {xs:List AV} {h:Nat->Option AD}
theorem NN {K:AV->List Nat->List (Nat × Option AD)->Prop} (hk:aK P np id op xs h K) :
  ∃ v rd up,K v rd up/\aK P np id op xs h λ v' rd' up'=>v'=v/\rd'=rd/\up'=up:=by
 by_cases u:∃ s b x y,op = .app s b/\xs=[x,y]/\¬ ∃ i o l c,x=AV.rk i o l c
 .obtain ⟨s,b,x,y,rfl,rfl,hx⟩:=u
  simp only[JN hx] at hk ⊢;obtain⟨a,b,c,d,e,f,hk⟩:=hk;exact⟨_,_,_,hk,a,b,c,d,e,f,rfl,rfl,rfl⟩
 unfold aK at hk ⊢;split at hk
 all_goals first
  | exact False.elim hk
  | exact⟨_,_,_,hk,rfl,rfl,rfl⟩
  | (exfalso;exact u ⟨_,_,_,_,rfl,rfl,λ ⟨_,_,_,_,e⟩=>by subst e;simp_all⟩)
  | (obtain⟨a,b,c,d,e,f,g,i,j,hk⟩:=hk
     split at hk
     .rename_i hc
      exact⟨_,_,_,hk,a,b,c,d,e,f,g,i,j,by rw[if_pos hc];exact⟨rfl,rfl,rfl⟩⟩
     .rename_i hc
      exact⟨_,_,_,hk,a,b,c,d,e,f,g,i,j,by rw[if_neg hc];exact⟨rfl,rfl,rfl⟩⟩)
  | (obtain⟨a,b,hk⟩:=hk;exact⟨_,_,_,hk,a,b,rfl,rfl,rfl⟩)
  | (obtain⟨a,hk⟩:=hk;exact⟨_,_,_,hk,a,rfl,rfl,rfl⟩)
  | (obtain⟨a,b,c,hk⟩:=hk;exact⟨_,_,_,hk,a,b,c,rfl,rfl,rfl⟩)
  | (obtain⟨a,b,c,d,hk⟩:=hk;exact⟨_,_,_,hk,a,b,c,d,rfl,rfl,rfl⟩)
  | (obtain⟨a,b,c,d,e,hk⟩:=hk;exact⟨_,_,_,hk,a,b,c,d,e,rfl,rfl,rfl⟩)
  | (obtain⟨a,b,c,d,e,f,hk⟩:=hk;exact⟨_,_,_,hk,a,b,c,d,e,f,rfl,rfl,rfl⟩)
  | (obtain⟨a,b,c,d,e,f,g,hk⟩:=hk;exact⟨_,_,_,hk,a,b,c,d,e,f,g,rfl,rfl,rfl⟩)
  | (obtain⟨a,b,c,d,e,f,g,i,hk⟩:=hk;exact⟨_,_,_,hk,a,b,c,d,e,f,g,i,rfl,rfl,rfl⟩)
  | (obtain⟨a,b,c,d,e,f,g,i,j,hk⟩:=hk;exact⟨_,_,_,hk,a,b,c,d,e,f,g,i,j,rfl,rfl,rfl⟩)
  | (obtain⟨a,b,c,d,e,f,g,i,j,k,l,m,n,o,p,hk⟩:=hk;exact⟨_,_,_,hk,a,b,c,d,e,f,g,i,j,k,l,m,n,o,p,rfl,rfl,rfl⟩)
  | (obtain⟨a,b,c,d,e,f,g,i,j,k,l,m,n,o,p,q,r,hk⟩:=hk;exact⟨_,_,_,hk,a,b,c,d,e,f,g,i,j,k,l,m,n,o,p,q,r,rfl,rfl,rfl⟩)
  | (obtain⟨l,r,n,a,b,c,d,e,f,g,hk⟩:=hk
     split at hk
     .obtain ⟨i,j,k,hk⟩:=hk;exact⟨_,_,_,hk,l,r,n,a,b,c,d,e,f,g,i,j,k,rfl,rfl,rfl⟩
     .obtain ⟨i,j,k,hk⟩:=hk;exact⟨_,_,_,hk,l,r,n,a,b,c,d,e,f,g,i,j,k,rfl,rfl,rfl⟩
     .obtain ⟨i,j,k,q,hk⟩:=hk;exact⟨_,_,_,hk,l,r,n,a,b,c,d,e,f,g,i,j,k,q,rfl,rfl,rfl⟩
     .obtain ⟨i,j,hk⟩:=hk;exact⟨_,_,_,hk,l,r,n,a,b,c,d,e,f,g,i,j,rfl,rfl,rfl⟩
     .exact False.elim hk)
variable {h':Nat->Option AD}
theorem vI (hh:∀ i∈Bw x,h' i=h i):EQ h' x=EQ h x:=by
 cases x with
 | pt i j k =>
   simp only[EQ];rw[hh i (by simp[Bw])]
 | _=>rfl
theorem JM {s:Nat} (hh:∀ i∈Bw x,h' i=h i):Ch s h' x=Ch s h x:=by
 cases x with
 | rs i j k =>
   simp only[Ch];rw[hh i (by simp[Bw])]
 | rk i j k c =>
   simp only[Ch];rw[hh i (by simp[Bw])]
 | sc k =>
   unfold Ch;split<;>first | rfl | (rename_i e;cases e) | simp_all
 | _=>rfl
theorem fM {n:Nat}:Bw (D7 n x)=Bw x:=by cases x<;>rfl
theorem Vl {s:Nat} {new:List (List AV)} (hh:∀ i∈Bw x,h' i=h i):Dj s h' new x=Dj s h new x:=by
 cases x with
 | rs i j k =>
   simp only[Dj];rw[hh i (by simp[Bw])]
 | sc k =>
   unfold Dj;split<;>first | rfl | (rename_i e;cases e) | simp_all
 | vs s' f rows=>cases f<;>rfl
 | _=>rfl
theorem RY {sn:List Nat} (hh:∀ i∈sn,h' i=h i):∀ (n:Nat) (ρ:List (Nat × Nat)) (x:AV),conv ρ sn h' n x=conv ρ sn h n x
 | 0,_,_=>rfl
 | n+1,ρ,x=>by
   have ih:=λ ρ=>funext (RY hh n ρ);have ih':∀ ρ,conv ρ sn h' n=conv ρ sn h n:=ih
   cases x with
   | rs id off len =>
     simp only[conv,ih']
     split
     .rfl
     .split
      .rename_i q;rw[hh id q]
      .rfl
   | rk id off len cap =>
     simp only[conv,ih']
     split
     .rfl
     .split
      .rename_i q;rw[hh id q]
      .rfl
   | pt id i j =>
     simp only[conv,ih']
     split
     .rfl
     .split
      .rename_i q;rw[hh id q]
      .rfl
   | _=>simp only[conv,ih']
theorem gY {v:AV} {rd:List Nat} {up:List (Nat × Option AD)} (hk:aK P np id op xs h λ v' rd' up'=>v'=v/\rd'=rd/\up'=up) (hh:∀ i∈rd,h' i=h i) :
  aK P np id op xs h' λ v' rd' up'=>v'=v/\rd'=rd/\up'=up:=by
 by_cases h9:∃ s b x y,op = .app s b/\xs=[x,y]/\¬ ∃ i o l c,x=AV.rk i o l c
 .obtain ⟨s,b,x,y,rfl,rfl,hx⟩:=h9
  simp only[JN hx] at hk ⊢;obtain⟨new,old,h1,h2,h3,h4,rfl,rfl,rfl⟩:=hk;exact⟨new,old,by rw[JM λ i hi=>hh i (Uo _ hi)];exact h1,by rw[Vl λ i hi=>hh i (Q4 _ hi)];exact h2,h3,h4,rfl,rfl,rfl⟩
 unfold aK at hk ⊢;split at hk
 all_goals try exact hk
 .
  obtain⟨cs,h1,h2,rfl,rfl,rfl⟩:=hk;exact⟨cs,by rw[vI hh];exact h1,h2,rfl,rfl,rfl⟩
 .obtain ⟨e,row,cs,h1,h2,h3,h4,h5,h6,rfl,rfl,rfl⟩:=hk
  exact⟨e,row,cs,by rw[hh _ zz];exact h1,h2,h3,h4,h5,h6,rfl,rfl,rfl⟩
 .obtain ⟨rows,bs,h1,h2,rfl,rfl,rfl⟩:=hk
  exact⟨rows,bs,by rw[JM hh];exact h1,h2,rfl,rfl,rfl⟩
 .obtain ⟨l,r,n,a,b,c,d,e,f,g,hk⟩:=hk
  refine⟨l,r,n,a,b,c,d,e,f,g,?_⟩;split at hk
  .exact hk
  .obtain ⟨h0,h1,⟨en,h2,h3⟩,rfl,rfl,rfl⟩:=hk
   exact⟨h0,h1,⟨en,by rw[hh _ zz];exact h2,h3⟩,rfl,rfl,rfl⟩
  .obtain ⟨h0,h1,h4,⟨en,h2,h3⟩,rfl,rfl,rfl⟩:=hk
   exact⟨h0,h1,h4,⟨en,by rw[hh _ zz];exact h2,h3⟩,rfl,rfl,rfl⟩
  .exact hk
  .exact False.elim hk
 .obtain ⟨h1,h2,⟨en,h3,h4⟩,rfl,rfl,rfl⟩:=hk
  exact⟨h1,h2,⟨en,by rw[hh _ zz];exact h3,h4⟩,rfl,rfl,rfl⟩
 .obtain ⟨ids,sn,raise,aA,hs,res,hs',q1,q2,q3,q4,q5,q6,q7,q8,rfl,rfl,rfl⟩:=hk
  have q:∀ i∈sn,h' i=h i:=λ i hi=>hh i (Uo _ hi);have hid:∀ i∈ids,h' i=h i:=λ i hi=>hh i (Q4 _ hi);have u:∀ n ρ,conv ρ sn h' n=conv ρ sn h n:=λ n ρ=>funext (RY q n ρ)
  refine⟨ids,sn,raise,aA,hs,res,hs',q1,q2,q3,by rw[u];exact q4,?_,q6,q7,q8,rfl,rfl,?_⟩
  .rw [<- q5]
   refine Ur λ i hi=>?_;rw[hid i hi];have:AX ids.zipIdx sn h' 4=AX ids.zipIdx sn h 4:=by funext e;simp only[AX,u]
   rw[this]
  .congr 1
   split
   .refine PO λ i hi=>?_
    rw[q i hi]
   .rfl
 .obtain ⟨new,e,h1,h2,h3,h4,h5,h6,h7,hk⟩:=hk
  have ha:∀ i∈rd,h' i=h i:=hh;split at hk<;>rename_i hc<;>obtain⟨rfl,rfl,rfl⟩:=hk
  .exact ⟨new,e,by rw[JM λ i hi=>hh i (Qj _ hi)];exact h1,by rw[hh _ (Qo)];exact h2,h3,h4,h5,h6,h7,by rw[if_pos hc];exact⟨rfl,rfl,rfl⟩⟩
  .exact ⟨new,e,by rw[JM λ i hi=>hh i (Qj _ hi)];exact h1,by rw[hh _ (Qo)];exact h2,h3,h4,h5,h6,h7,by rw[if_neg hc];exact⟨rfl,rfl,rfl⟩⟩
 .exfalso;exact h9 ⟨_,_,_,_,rfl,rfl,λ ⟨_,_,_,_,e⟩=>by subst e;simp_all⟩
 .obtain ⟨old,h2,h3,rfl,rfl,rfl⟩:=hk
  exact⟨old,by rw[Vl hh];exact h2,h3,rfl,rfl,rfl⟩
 .obtain ⟨e,h1,h2,h3,h4,h5,h6,h7,h8,rfl,rfl,rfl⟩:=hk
  exact⟨e,by rw[hh _ zz];exact h1,h2,h3,h4,h5,h6,h7,h8,rfl,rfl,rfl⟩
 .obtain ⟨e,new,h1,h2,h3,h4,h5,rfl,rfl,rfl⟩:=hk
  exact⟨e,new,by rw[hh _ (Qo)];exact h1,h2,h3,h4,by rw[JM λ i hi=>hh i (Qj _ hi)];exact h5,rfl,rfl,rfl⟩
 .obtain ⟨e,new,m,h1,h2,h3,h4,h5,h6,rfl,rfl,rfl⟩:=hk
  exact⟨e,new,m,by rw[hh _ (Qo)];exact h1,h2,h3,h4,h5,by rw[JM λ i hi=>hh i (Qj _ (by rw[fM] at hi;exact hi))];exact h6,rfl,rfl,rfl⟩
 .obtain ⟨e,h1,h2,h3,h4,h5,rfl,rfl,rfl⟩:=hk
  exact⟨e,by rw[hh _ (Qo)];exact h1,h2,h3,h4,h5,rfl,rfl,rfl⟩
 .obtain ⟨e,h1,h2,h3,h4,rfl,rfl,rfl⟩:=hk
  exact⟨e,by rw[hh _ (Qo)];exact h1,h2,h3,h4,rfl,rfl,rfl⟩
 .obtain ⟨e,h1,h2,h3,h4,h5,rfl,rfl,rfl⟩:=hk
  exact⟨e,by rw[hh _ (Qo)];exact h1,h2,h3,h4,h5,rfl,rfl,rfl⟩
 .obtain ⟨f,ids,sn,raise,aA,hs,res,hs',q0,q1,q2,q3,q4,q5,q6,q7,q8,rfl,rfl,rfl⟩:=hk
  have q:∀ i∈sn,h' i=h i:=λ i hi=>hh i (Uo _ hi);have hid:∀ i∈ids,h' i=h i:=λ i hi=>hh i (Q4 _ hi);have u:∀ n ρ,conv ρ sn h' n=conv ρ sn h n:=λ n ρ=>funext (RY q n ρ)
  refine⟨f,ids,sn,raise,aA,hs,res,hs',q0,q1,q2,q3,by rw[u];exact q4,?_,q6,q7,q8,rfl,rfl,?_⟩
  .rw [<- q5]
   refine Ur λ i hi=>?_;rw[hid i hi];have:AX ids.zipIdx sn h' 4=AX ids.zipIdx sn h 4:=by funext e;simp only[AX,u]
   rw[this]
  .congr 1
   split
   .refine PO λ i hi=>?_
    rw[q i hi]
   .rfl
 .obtain ⟨e,h1,h2,rfl,rfl,rfl⟩:=hk
  exact⟨e,by rw[hh _ (Qo)];exact h1,h2,rfl,rfl,rfl⟩
 .obtain ⟨e,h1,h2,rfl,rfl,rfl⟩:=hk
  exact⟨e,by rw[hh _ (Qo)];exact h1,h2,rfl,rfl,rfl⟩
 .obtain ⟨e,h1,h2,rfl,rfl,rfl⟩:=hk
  exact⟨e,by rw[hh _ (Qo)];exact h1,h2,rfl,rfl,rfl⟩
end
structure CR where
 dst:Option Nat
 v:AV
 rd:List Nat
 up:List (Nat × Option AD)
def St.app (st:St) (x:CR):St:=(st.put x.dst x.v).upd x.up
def St.some (D:Nat->Bool):Nat->List CR->St->St
 | _,[],st=>st
 | i,x::xs,st=>St.some D (i+1) xs (if D i then st.app x else st)
theorem St.app_sz (st:St) (x:CR):(st.app x).sz=st.sz:=St.sz_put _ _ _
theorem St.some_sz (D:Nat->Bool):∀ (xs:List CR) (i:Nat) (st:St),(St.some D i xs st).sz=st.sz
 | [],_,_=>rfl
 | x::xs,i,st=>by
   rw[St.some,St.some_sz D xs];split
   .exact St.app_sz _ _
   .rfl
theorem St.get_app (st:St) (x:CR) (j:Nat):(st.app x).get j=if x.dst=Option.some j then x.v else st.get j:=by
 unfold St.app;rw[St.get_upd]
 cases h:x.dst with
 | none=>simp[St.put]
 | some d =>
   rw[St.get_put];simp
theorem St.hp_app (st:St) (x:CR) (j:Nat):(st.app x).hp j=(AW x.up j).elim (st.hp j) id:=by
 unfold St.app;rw[St.hp_upd,St.hp_put]
theorem St.some_get_congr (D D':Nat->Bool) (j:Nat):∀ (xs:List CR) (i:Nat) (st st':St),(∀ k x,xs[k]? = Option.some x->x.dst=Option.some j->D (i+k)=D' (i+k))->st.get j=st'.get j ->
  (St.some D i xs st).get j=(St.some D' i xs st').get j
 | [],_,_,_,_,h=>h
 | x::xs,i,st,st',hk,h=>by
   rw[St.some,St.some];refine St.some_get_congr D D' j xs (i+1) _ _ (λ k y hy hd=>by have:=hk (k+1) y (by simpa using hy) hd;rwa [show i+(k+1)=i+1+k by omega] at this) ?_
   by_cases hx:x.dst=Option.some j
   .have:=hk 0 x rfl hx
    rw[Uj] at this;rw[this];split
    .rw [St.get_app,St.get_app,if_pos hx,if_pos hx]
    .exact h
   .have e:∀ s:St,∀ b:Bool,(if b then s.app x else s).get j=s.get j:=by
     intro s b
     cases b
     .rfl
     .simp [St.get_app,hx]
    rw[e,e];exact h
theorem St.some_hp_congr (D D':Nat->Bool) (j:Nat):∀ (xs:List CR) (i:Nat) (st st':St),(∀ k x,xs[k]? = Option.some x->AW x.up j≠none->D (i+k)=D' (i+k))->st.hp j=st'.hp j ->
  (St.some D i xs st).hp j=(St.some D' i xs st').hp j
 | [],_,_,_,_,h=>h
 | x::xs,i,st,st',hk,h=>by
   rw[St.some,St.some];refine St.some_hp_congr D D' j xs (i+1) _ _ (λ k y hy hd=>by have:=hk (k+1) y (by simpa using hy) hd;rwa [show i+(k+1)=i+1+k by omega] at this) ?_
   by_cases hx:AW x.up j=none
   .have e:∀ s:St,∀ b:Bool,(if b then s.app x else s).hp j=s.hp j:=by
     intro s b
     cases b
     .rfl
     .simp [St.hp_app,hx]
    rw[e,e];exact h
   .have:=hk 0 x rfl hx
    rw[Uj] at this;rw[this];split
    .rw [St.hp_app,St.hp_app]
     cases hl:AW x.up j with
     | none=>exact absurd hl hx
     | some r=>rfl
    .exact h
theorem St.some_get_last (D:Nat->Bool) (j:Nat):∀ (xs:List CR) (i:Nat) (st:St) (k:Nat) (x:CR),xs[k]? = Option.some x->x.dst=Option.some j->D (i+k)=true ->
  (∀ k' y,k<k'->xs[k']? = Option.some y->y.dst=Option.some j->D (i+k')=false)->(St.some D i xs st).get j=x.v
 | [],_,_,_,_,h,_,_,_=>by simp at h
 | y::xs,i,st,0,x,h,hd,hD,q=>by
   obtain rfl:y=x:=by simpa using h
   rw[St.some];rw[St.some_get_congr D (λ _=>false) j xs (i+1) _ (st.app y) (λ k z hz u=>by have:=q (k+1) z zy (by simpa using hz) u;rwa [show i+(k+1)=i+1+k by omega] at this) (by rw[Uj] at hD;rw[if_pos hD])]
   have:∀ (xs:List CR) (i:Nat) (s:St),St.some (λ _=>false) i xs s=s:=by
    intro xs
    induction xs with
    | nil=>intro i s;rfl
    | cons z zs ih=>intro i s;rw[St.some];exact ih _ _
   rw[this,St.get_app,if_pos hd]
 | y::xs,i,st,k+1,x,h,hd,hD,q=>by
   rw[St.some]
   exact St.some_get_last D j xs (i+1) _ k x (by simpa using h) hd (by rwa [show i+1+k=i+(k+1) by omega]) λ k' z h0 hz u=>by
    have:=q (k'+1) z zy (by simpa using hz) u
    rwa [show i+(k'+1)=i+1+k' by omega] at this
theorem St.some_false:∀ (xs:List CR) (i:Nat) (s:St),St.some (λ _=>false) i xs s=s
 | [],_,_=>rfl
 | _::zs,i,s=>by rw[St.some];exact St.some_false zs _ _
theorem St.some_hp_last (D:Nat->Bool) (j:Nat):∀ (xs:List CR) (i:Nat) (st:St) (k:Nat) (x:CR) (r:Option AD),xs[k]? = Option.some x->AW x.up j=Option.some r->D (i+k)=true ->
  (∀ k' y,k<k'->xs[k']? = Option.some y->AW y.up j≠none->D (i+k')=false)->(St.some D i xs st).hp j=r
 | [],_,_,_,_,_,h,_,_,_=>by simp at h
 | y::xs,i,st,0,x,r,h,hd,hD,q=>by
   obtain rfl:y=x:=by simpa using h
   rw[St.some];rw[St.some_hp_congr D (λ _=>false) j xs (i+1) _ (st.app y) (λ k z hz u=>by have:=q (k+1) z zy (by simpa using hz) u;rwa [show i+(k+1)=i+1+k by omega] at this) (by rw[Uj] at hD;rw[if_pos hD])]
   rw[St.some_false,St.hp_app,hd];rfl
 | y::xs,i,st,k+1,x,r,h,hd,hD,q=>by
   rw[St.some]
   exact St.some_hp_last D j xs (i+1) _ k x r (by simpa using h) hd (by rwa [show i+1+k=i+(k+1) by omega]) λ k' z h0 hz u=>by
    have:=q (k'+1) z zy (by simpa using hz) u
    rwa [show i+(k'+1)=i+1+k' by omega] at this
theorem St.some_take (k:Nat):∀ (xs:List CR) (i:Nat) (s:St),St.some (λ j=>decide (j<k)) i xs s=St.some (λ _=>true) i (xs.take (k - i)) s
 | [],i,s=>by simp[St.some]
 | x::xs,i,s=>by
   by_cases h:i<k
   .rw [show k - i=(k - (i+1))+1 by omega,List.take_succ_cons,St.some,St.some,St.some_take k xs (i+1)]
    simp[h]
   .rw [show k - i=0 by omega,List.take_zero,St.some,St.some]
    have e:(if decide (i<k)=true then s.app x else s)=s:=by simp[h]
    rw[e,St.some_take k xs (i+1),show k - (i+1)=0 by omega,List.take_zero]
    rfl
inductive Reach (after:List (List Nat)):Nat->Nat->Prop where
 | one (i j:Nat) (h:i∈after.getD j []):Reach after i j
 | more (i k j:Nat) (h:Reach after i k) (h':k∈after.getD j []):Reach after i j
theorem Wp (acc:List Nat) (q:Nat->Prop):∀ (aS:List Nat) (s:Nat),(∀ i,s.testBit i=true->q i)->(∀ a∈aS,q a /\ ∀ i,(acc.getD a 0).testBit i=true->q i) ->
  ∀ i,(aS.foldl (λ s a=>s ||| (2 ^ a ||| acc.getD a 0)) s).testBit i=true->q i
 | [],s,hs,_,i,h=>hs i h
 | a::aS,s,hs,ha,i,h=>by
   refine Wp acc q aS _ (λ i hi=>?_) (λ b hb=>ha b (Qj _ hb)) i h;simp only[Nat.testBit_or,UX,Nat.testBit_two_pow,Qa] at hi;rcases hi with hi | hi | hi
   .exact hs i hi
   .subst hi;exact(ha a Qo).1
   .exact (ha a Qo).2 i hi
theorem TO (after:List (List Nat)):∀ (j i:Nat),((TA after).getD j 0).testBit i=true->Reach after i j:=by
 have key:∀ (q h0:List (List Nat)) (acc:List Nat),after=h0++q->acc.length=h0.length->(∀ j i,(acc.getD j 0).testBit i=true->Reach after i j) ->
   ∀ j i,((q.foldl (λ acc aS=>acc++[aS.foldl (λ s a=>s ||| (2 ^ a ||| acc.getD a 0)) 0]) acc).getD j 0).testBit i=true->Reach after i j:=by
  intro q
  induction q with
  | nil=>intro h0 acc _ _ h;exact h
  | cons aS q ih =>
    intro h0 acc he hl h;refine ih (h0++[aS]) _ (by rw[he];simp) (by simp[hl]) λ j i u=>?_
    by_cases hj:j<acc.length
    .have:(acc++[aS.foldl (λ s a=>s ||| (2 ^ a ||| acc.getD a 0)) 0]).getD j 0=acc.getD j 0:=by simp[List.getD,QG hj]
     rw[this] at u;exact h j i u
    .by_cases h2:j=acc.length
     .subst h2
      have:(acc++[aS.foldl (λ s a=>s ||| (2 ^ a ||| acc.getD a 0)) 0]).getD acc.length 0=aS.foldl (λ s a=>s ||| (2 ^ a ||| acc.getD a 0)) 0:=by simp[List.getD]
      rw[this] at u;have h1:after.getD acc.length []=aS:=by rw[he,hl];simp[List.getD]
      refine Wp acc (λ i=>Reach after i acc.length) aS 0 (λ i hi=>by simp at hi) (λ a ha=>⟨.one _ _ (by rw[h1];exact ha),λ i hi=>.more _ a _ (h a i hi) (by rw[h1];exact ha)⟩) i u
     .have:(acc++[aS.foldl (λ s a=>s ||| (2 ^ a ||| acc.getD a 0)) 0]).getD j 0=0:=by
       simp only[List.getD];rw[Q6 zw]
       rfl
      rw[this] at u;simp at u
 exact key after [] [] rfl rfl λ j i h=>by simp[List.getD] at h
section
variable {P:Program} {np:Nat} {T0:Nat->Nat} {M0:GM} {w0:World}
def LO (P:Program) (np n i:Nat) (o:CG) (st:St) (x:CR):Prop :=
 x.dst=o.dst /\
 match o.guard with
 | none=>aK P np (n+8*i) o.op (o.xs.map (·.ev st.get)) st.hp λ v' rd' up'=>v'=x.v/\rd'=x.rd/\up'=x.up
 | some (g,want)=>∃ b,G8 (st.get g)=some b/\if b=some want then aK P np (n+8*i) o.op (o.xs.map (·.ev st.get)) st.hp (λ v' rd' up'=>v'=x.v/\rd'=x.rd/\up'=x.up) else x.v = .tup []/\x.rd=[]/\x.up=[]
theorem St.some_true (i j:Nat):∀ (xs:List CR) (s:St),St.some (λ _=>true) i xs s=St.some (λ _=>true) j xs s
 | [],_=>rfl
 | x::xs,s=>by rw[St.some,St.some];exact St.some_true (i+1) (j+1) xs _
theorem Ky {n:Nat} {K:St->List (List Nat × List Nat)->Prop}:∀ (os:List CG) (i:Nat) (st:St) (tr:List (List Nat × List Nat)),Bt P np n i os st tr K ->
  ∃ xs:List CR,xs.length=os.length/\(∀ (k:Nat) o x,os[k]? = some o->xs[k]? = some x->LO P np n (i+k) o (St.some (λ _=>true) 0 (xs.take k) st) x) /\
    K (St.some (λ _=>true) 0 xs st) (tr++xs.map λ x=>(x.rd,x.up.map (·.1)))
 | [],i,st,tr,h=>⟨[],rfl,λ k o x h=>by simp at h,by simpa [St.some,Bt] using h⟩
 | o::os,i,st,tr,h=>by
   have fin:∀ x:CR,LO P np n i o st x->Bt P np n (i+1) os (st.app x) (tr++[(x.rd,x.up.map (·.1))]) K ->
     ∃ xs:List CR,xs.length=(o::os).length/\(∀ (k:Nat) o' x,(o::os)[k]? = some o'->xs[k]? = some x->LO P np n (i+k) o' (St.some (λ _=>true) 0 (xs.take k) st) x) /\
       K (St.some (λ _=>true) 0 xs st) (tr++xs.map λ x=>(x.rd,x.up.map (·.1))):=by
    intro x hx hk;obtain⟨xs,h1,h2,h3⟩:=Ky os (i+1) _ _ hk;refine⟨x::xs,by simp[h1],λ k o' x' ho u=>?_,?_⟩
    .cases k with
     | zero =>
       simp at ho u;subst ho u;exact hx
     | succ k =>
       have:=h2 k o' x' (by simpa using ho) (by simpa using u)
       rw[show i+1+k=i+(k+1) by omega] at this
       rw[List.take_succ_cons,St.some,if_pos rfl,St.some_true 1 0];exact this
    .rw [St.some,if_pos rfl,St.some_true 1 0]
     simpa using h3
   simp only[Bt] at h
   cases hg:o.guard with
   | none =>
     rw[hg] at h;obtain⟨v,rd,up,h1,h2⟩:=NN h;exact fin ⟨o.dst,v,rd,up⟩ ⟨rfl,by rw[hg];exact h2⟩ h1
   | some p =>
     obtain⟨g,want⟩:=p;rw[hg] at h;obtain⟨b,hb,h⟩:=h
     by_cases q:b=some want
     .rw [if_pos q] at h
      obtain⟨v,rd,up,h1,h2⟩:=NN h;exact fin ⟨o.dst,v,rd,up⟩ ⟨rfl,by rw[hg];exact⟨b,hb,by rw[if_pos q];exact h2⟩⟩ h1
     .rw [if_neg q] at h
      exact fin ⟨o.dst,.tup [],[],[]⟩ ⟨rfl,by rw[hg];exact⟨b,hb,by rw[if_neg q];exact⟨rfl,rfl,rfl⟩⟩⟩ h
theorem lM {ops:Array Oper} {n:Nat} (ck:np<=n) {st:St} {Q:Exit->Act->World->Prop} {xs:List CR} (cl:xs.length=ops.size) (hQ:∀ st' T M a w,(∀ j,st'.get j=(St.some (λ _=>true) 0 xs st).get j)->(∀ j,st'.hp j=(St.some (λ _=>true) 0 xs st).hp j)->st'.sz=st.sz->Ok np T0 M0 w0 (G0 (n+8*ops.size)) st' T M a w->Q .normal a w) (hd:∀ o∈ops,o.dst.all (· < st.sz)=true) (b0:∀ (k:Nat) o x,(ops.toList.map (Bx P ops))[k]? = some o->xs[k]? = some x->LO P np n k o (St.some (λ _=>true) 0 (xs.take k) st) x) (b1:F3 (ops.toList.map (Bx P ops)) (ops.toList.map λ o=>(o.after.toList.filter (Region.binds .any)).map (·.on)) (xs.map λ x=>(x.rd,x.up.map (·.1)))=true) :
  ∀ (h5:Nat) (u:Array Bool) (T:Nat->Nat) (M:GM) (a:Act) (w:World),u.size=ops.size->u.toList.countP (· == false)<=h5 ->
    (∀ j,u.getD j false=true -> ∀ i∈(ops.toList.map λ o=>(o.after.toList.filter (Region.binds .any)).map (·.on)).getD j [],u.getD i false=true) ->
    Ok np T0 M0 w0 (λ id=>id<n ∨ ∃ i,u.getD i false=true/\n+8*i<=id/\id<n+8*i+8) (St.some (λ i=>u.getD i false) 0 xs st) T M a w ->
    wpAny P .any ops Q h5 u a w:=by
 generalize hA:(ops.toList.map λ o=>(o.after.toList.filter (Region.binds .any)).map (·.on))=after at *
 simp only[F3,QH,Ut,beq_iff_eq,Qs,Ul,Qa,Q1,UX] at b1;obtain⟨⟨cm,b6⟩,a0⟩:=b1
 have hf:∀ j,∀ i∈after.getD j [],i<j:=by
  intro j i hi
  by_cases hj:j<after.length
  .have e:after.getD j []=after[j]:=by simp[List.getD,hj]
   rw[e] at hi;exact b6 (after[j],j) (by rw[UY];exact Qc hj) i hi
  .have e:after.getD j []=[]:=by simp[List.getD,hj]
   rw[e] at hi;simp at hi
 have b2:∀ k (h:k<ops.size),(ops.toList.map (Bx P ops))[k]? = some (Bx P ops ops[k]):=λ k h=>by simp[h]
 have a9:∀ i j,i<ops.size->j<ops.size->i≠j->(Reach after i j∨Reach after j i) ∨
   (∀ (hi:i<ops.size) (hj:j<ops.size),Fu (Bx P ops ops[i]) (Bx P ops ops[j]) ((xs.getD i ⟨none,.dead,[],[]⟩).rd,(xs.getD i ⟨none,.dead,[],[]⟩).up.map (·.1)) ((xs.getD j ⟨none,.dead,[],[]⟩).rd,(xs.getD j ⟨none,.dead,[],[]⟩).up.map (·.1))=true ∨
    Fu (Bx P ops ops[j]) (Bx P ops ops[i]) ((xs.getD j ⟨none,.dead,[],[]⟩).rd,(xs.getD j ⟨none,.dead,[],[]⟩).up.map (·.1)) ((xs.getD i ⟨none,.dead,[],[]⟩).rd,(xs.getD i ⟨none,.dead,[],[]⟩).up.map (·.1))=true):=by
  intro i j hi hj bo
  have getx:∀ k,k<ops.size->(xs.map λ x=>(x.rd,x.up.map (·.1))).getD k ([],[])=((xs.getD k ⟨none,.dead,[],[]⟩).rd,(xs.getD k ⟨none,.dead,[],[]⟩).up.map (·.1)):=λ k hk=>by
   have:k<xs.length:=zy
   simp[List.getD,this]
  have geto:∀ k (hk:k<ops.size),(ops.toList.map (Bx P ops)).getD k default=Bx P ops ops[k]:=λ k hk=>by simp[List.getD,hk]
  rcases Ub i j with h | h
  .have:=a0 j hj i h
   rcases this with this | this
   .exact .inl (.inl (TO after j i this))
   .rw [getx i hi,getx j hj,geto i hi,geto j hj] at this
    exact .inr λ _ _=>.inl this
  .have:=a0 i hi j zy
   rcases this with this | this
   .exact .inl (.inr (TO after i j this))
   .rw [getx i hi,getx j hj,geto i hi,geto j hj] at this
    exact .inr λ _ _=>.inr this
 have b7:∀ (k:Nat) x,xs[k]? = some x->xs.getD k ⟨none,.dead,[],[]⟩=x:=λ k x h=>by simp[List.getD,h]
 have h6:∀ (k:Nat) x (hk:k<ops.size),xs[k]? = some x->x.dst=(Bx P ops ops[k]).dst:=λ k x hk h=>(b0 k _ x (b2 k hk) h).1;have hy:∀ (o:Oper),(Bx P ops o).dst=o.dst:=λ o=>MW.1;intro h5
 induction h5 with
 | zero =>
   intro u T M a w bp ag h4 ok
   have h9:∀ i,i<ops.size->u.getD i false=true:=by
    intro i hi
    cases hb:u.getD i false with
    | true=>rfl
    | false =>
      have:0<u.toList.countP (· == false):=by
       rw[List.countP_pos_iff];refine⟨false,?_,rfl⟩;have hi':i<u.size:=zy
       have:u[i]=false:=by simpa [Array.getD,hi'] using hb
       rw[<- this];simp
      omega
   refine⟨?_,?_⟩
   .simp only[Region.ready,List.filter_eq_nil_iff,Q1]
    intro i hi;have h1:=h9 i hi;have hi':i<u.size:=zy
    have h2:u.getD i true=true:=by
     simp only[Array.getD,hi',dite_true] at h1 ⊢;exact h1
    rw[h2];simp
   .refine hQ _ T M a w (λ j=>?_) (λ j=>?_) (St.some_sz _ _ _ _) (ok.wider λ id hid=>?_)
    .refine St.some_get_congr _ _ j xs 0 st st (λ k x hk hx=>?_) rfl
     have:=(Qz.1 hk).1;rw[Q9];exact h9 k zy
    .refine St.some_hp_congr _ _ j xs 0 st st (λ k x hk hx=>?_) rfl
     have:=(Qz.1 hk).1;rw[Q9];exact h9 k zy
    .show id<n+8*ops.size
     rcases hid with hid | ⟨i,h1,h2,h3⟩
     .omega
     .have:i<ops.size:=by
       rcases Ub i ops.size with h | h
       .exact h
       .have:u.getD i false=false:=by simp[Array.getD,show ¬ i<u.size by omega]
        rw[this] at h1;cases h1
      omega
 | succ h5 ih =>
   intro u T M a w bp ag h4 ok;refine⟨λ ai=>?_,λ k hk=>?_⟩
   .
    have h9:∀ i,i<ops.size->u.getD i false=true:=by
     intro i
     induction i using Nat.strongRecOn with
     | _ i ihi =>
       intro hi
       cases hb:u.getD i false with
       | true=>rfl
       | false =>
         exfalso
         have hi':i<u.size:=zy
         have c0:u[i]=false:=by simpa [Array.getD,hi'] using hb
         have:i∈Region.ready .any ops u:=by
          simp only[Region.ready,QF,Q1,QH,UK];refine⟨hi,by simp[Array.getD,hi',c0],?_⟩
          rw[Array.getElem?_eq_getElem hi];simp only[Ug,QZ,Array.all_eq_true_iff_forall_mem];intro e he
          by_cases hb:Region.binds .any e=true
          .have hw:e.on∈after.getD i []:=by
            rw[<- hA];have:(ops.toList.map λ o=>(o.after.toList.filter (Region.binds .any)).map (·.on)).getD i []=(ops[i].after.toList.filter (Region.binds .any)).map (·.on):=by simp[List.getD,hi]
            rw[this];exact Ql.2 ⟨e,QF.2 ⟨by simpa using he,hb⟩,rfl⟩
           have hz:=hf i _ hw;simp[ihi _ hz zy]
          .simp [hb]
         rw[ai] at this;simp at this
    refine hQ _ T M a w (λ j=>?_) (λ j=>?_) (St.some_sz _ _ _ _) (ok.wider λ id hid=>?_)
    .refine St.some_get_congr _ _ j xs 0 st st (λ k x hk hx=>?_) rfl
     have:=(Qz.1 hk).1;rw[Q9];exact h9 k zy
    .refine St.some_hp_congr _ _ j xs 0 st st (λ k x hk hx=>?_) rfl
     have:=(Qz.1 hk).1;rw[Q9];exact h9 k zy
    .show id<n+8*ops.size
     rcases hid with hid | ⟨i,h1,h2,h3⟩
     .omega
     .have:i<ops.size:=by
       rcases Ub i ops.size with h | h
       .exact h
       .have:u.getD i false=false:=by simp[Array.getD,show ¬ i<u.size by omega]
        rw[this] at h1;cases h1
      omega
   .
    simp only[Region.ready,QF,Q1,QH,UK] at hk;obtain⟨h8,c1,b8⟩:=hk;have a1:k<u.size:=zy
    have b3:u[k]=false:=by simpa [Array.getD,a1] using c1
    have a2:u.getD k false=false:=by simp[Array.getD,a1,b3]
    rw[Array.getElem?_eq_getElem h8] at b8;simp only[Ug,QZ,Array.all_eq_true_iff_forall_mem] at b8
    have hh:∀ i∈after.getD k [],u.getD i false=true:=by
     intro i hi;rw[<- hA] at hi;have e:(ops.toList.map λ o=>(o.after.toList.filter (Region.binds .any)).map (·.on)).getD k []=(ops[k].after.toList.filter (Region.binds .any)).map (·.on):=by simp[List.getD,h8]
     rw[e] at hi;obtain⟨ed,h1,rfl⟩:=Ql.1 hi;obtain⟨h2,h3⟩:=QF.1 h1;have:=b8 ed (by simpa using h2)
     simpa [h3] using this
    have hu:∀ i j,Reach after i j->(u.getD j false=true∨j=k)->u.getD i false=true:=by
     intro i j hr
     induction hr with
     | one j h =>
       rintro(h1 | rfl)
       .exact h4 j h1 i h
       .exact hh i h
     | more m j h1 h2 ihr =>
       rintro(h3 | rfl)
       .exact ihr (.inl (h4 j h3 m h2))
       .exact ihr (.inl (hh m h2))
    have a3:∀ j,Reach after k j->u.getD j false=false:=by
     intro j hr
     cases hb:u.getD j false with
     | false=>rfl
     | true=>rw[hu k j hr (.inl hb)] at a2;cases a2
    have ha:∀ i j,Reach after i j->i<j:=by
     intro i j hr
     induction hr with
     | one j h=>exact hf j i h
     | more m j h1 h2 ihr=>have:=hf j m h2;omega
    have hv:∀ i x,i≠k->xs[i]? = some x->(∀ hi:i<ops.size,Fu (Bx P ops ops[i]) (Bx P ops ops[k]) (x.rd,x.up.map (·.1)) ((xs.getD k ⟨none,.dead,[],[]⟩).rd,(xs.getD k ⟨none,.dead,[],[]⟩).up.map (·.1))=false /\
      Fu (Bx P ops ops[k]) (Bx P ops ops[i]) ((xs.getD k ⟨none,.dead,[],[]⟩).rd,(xs.getD k ⟨none,.dead,[],[]⟩).up.map (·.1)) (x.rd,x.up.map (·.1))=false)->u.getD i false=decide (i<k):=by
     intro i x bo hx c2;have hi:i<ops.size:=by have:=(Qz.1 hx).1;omega
     obtain⟨p1,p2⟩:=c2 hi;rcases a9 i k hi h8 bo with (h | h) | h
     .have hz:=ha _ _ h
      rw[hu i k h (.inr rfl)];simp[hz]
     .have hz:=ha _ _ h
      rw[a3 i h];simp;omega
     .rcases h hi h8 with h | h
      .rw [b7 i x hx] at h;rw[h] at p1;cases p1
      .rw [b7 i x hx] at h;rw[h] at p2;cases p2
    obtain⟨xk,hm⟩:∃ xk,xs[k]? = some xk:=⟨_,Qc zy⟩
    have bs:=b7 k xk hm;have hO:=b0 k _ xk (b2 k h8) hm;rw[bs] at hv
    have am:∀ t,t∈(Bx P ops ops[k]).names->(St.some (λ i=>u.getD i false) 0 xs st).get t=(St.some (λ _=>true) 0 (xs.take k) st).get t∨(Bx P ops ops[k]).dst=some t/\False ∨
      (St.some (λ i=>u.getD i false) 0 xs st).get t=(St.some (λ _=>true) 0 (xs.take k) st).get t:=by
     intro t ht
     left
     have e:=St.some_take k xs 0 st;rw[Nat.sub_zero] at e;rw[<- e];refine St.some_get_congr _ _ t xs 0 st st (λ i x hx a4=>?_) rfl;rw[Q9]
     by_cases hn:i=k
     .subst hn;rw[a2];simp
     .refine hv i x hn hx λ hi=>?_
      have a5:(Bx P ops ops[i]).dst=some t:=by rw[<- h6 i x hi hx];exact a4
      constructor
      .simp [Fu,a5,ht]
      .simp [Fu,a5,ht]
    have a6:∀ t,t∈(Bx P ops ops[k]).names->(St.some (λ i=>u.getD i false) 0 xs st).get t=(St.some (λ _=>true) 0 (xs.take k) st).get t:=λ t ht=>by
     rcases am t ht with h | h | h
     .exact h
     .exact h.2.elim
     .exact h
    have an:∀ id∈xk.rd,(St.some (λ i=>u.getD i false) 0 xs st).hp id=(St.some (λ _=>true) 0 (xs.take k) st).hp id:=by
     intro id hid;have e:=St.some_take k xs 0 st;rw[Nat.sub_zero] at e;rw[<- e];refine St.some_hp_congr _ _ id xs 0 st st (λ i x hx a7=>?_) rfl;rw[Q9]
     by_cases hn:i=k
     .subst hn;rw[a2];simp
     .refine hv i x hn hx λ hi=>?_
      have hw:id∈x.up.map (·.1):=by
       cases hl:AW x.up id with
       | none=>exact absurd hl a7
       | some r=>exact Ql.2 ⟨_,DW hl,rfl⟩
      constructor
      .have:HI (x.rd,x.up.map (·.1)) (xk.rd,xk.up.map (·.1))=true:=by
        simp only[HI,UX,UC];exact .inl ⟨id,hw,.inl (by simpa using hid)⟩
       simp[Fu,this]
      .have:HI (xk.rd,xk.up.map (·.1)) (x.rd,x.up.map (·.1))=true:=by
        simp only[HI,UX,UC];exact .inr ⟨id,hid,by simpa using hw⟩
       simp[Fu,this]
    have h0:∀ i,(u.setIfInBounds k true).getD i false=if i=k then true else u.getD i false:=by
     intro i
     by_cases hn:i=k
     .subst hn;simp[Array.getD,a1]
     .rw [if_neg hn]
      simp only[QD];rw[Array.getElem?_setIfInBounds_ne (Ne.symm hn)]
    have a8:∀ T' M' a' w',Ok np T0 M0 w0 (λ id=>(id<n ∨ ∃ i,u.getD i false=true/\n+8*i<=id/\id<n+8*i+8)∨(n+8*k<=id/\id<n+8*k+8)) ((St.some (λ i=>u.getD i false) 0 xs st).app xk) T' M' a' w' ->
      wpAny P .any ops Q h5 (u.setIfInBounds k true) a' w':=by
     intro T' M' a' w' ok';refine ih (u.setIfInBounds k true) T' M' a' w' (by simpa using bp) ?_ (λ j hj i hi=>?_) ?_
     .rw [Array.toList_setIfInBounds,List.countP_set (by simpa using a1)]
      have:u.toList[k]'(by simpa using a1)=false:=by simpa using b3
      rw[this];show u.toList.countP (· == false) - 1+0<=h5
      omega
     .rw [h0] at hj ⊢
      split
      .rfl
      .split at hj
       .rename_i c3;subst c3;exact hh i hi
       .exact h4 j hj i hi
     .refine (ok'.ext (St.some_sz _ _ _ _ |>.trans (St.app_sz _ _ |>.trans (St.some_sz _ _ _ _)).symm) (λ t=>?_) (λ id=>?_)).wider λ id hid=>?_
      .rw [St.get_app]
       split
       .rename_i aq
        refine St.some_get_last _ t xs 0 st k xk hm aq (by rw[Q9,h0,if_pos rfl]) λ i x hz hx a4=>?_
        rw[Q9,h0,if_neg zy]
        have au:(Bx P ops ops[k]).dst=some t:=by rw[<- h6 k xk h8 hm];exact aq
        have:=hv i x zy hx λ hi=>by
         have a5:(Bx P ops ops[i]).dst=some t:=by rw[<- h6 i x hi hx];exact a4
         have b4:t∈(Bx P ops ops[k]).names:=by simp[CG.names,au]
         constructor
         .simp [Fu,a5,b4]
         .simp [Fu,a5,b4]
        rw[this];simp;omega
       .rename_i aq
        refine St.some_get_congr _ _ t xs 0 st st (λ i x hx a4=>?_) rfl;rw[Q9,h0,if_neg]
        rintro rfl
        rw[hm] at hx
        cases hx;exact aq a4
      .rw [St.hp_app]
       cases hl:AW xk.up id with
       | some r =>
         refine St.some_hp_last _ id xs 0 st k xk r hm hl (by rw[Q9,h0,if_pos rfl]) λ i x hz hx a7=>?_
         rw[Q9,h0,if_neg zy]
         have hw:id∈x.up.map (·.1):=by
          cases hl:AW x.up id with
          | none=>exact absurd hl a7
          | some r=>exact Ql.2 ⟨_,DW hl,rfl⟩
         have b5:id∈xk.up.map (·.1):=Ql.2 ⟨_,DW hl,rfl⟩
         have:=hv i x zy hx λ hi=>by
          constructor
          .have:HI (x.rd,x.up.map (·.1)) (xk.rd,xk.up.map (·.1))=true:=by
            simp only[HI,UX,UC];exact .inl ⟨id,hw,.inr (by simpa using b5)⟩
           simp[Fu,this]
          .have:HI (xk.rd,xk.up.map (·.1)) (x.rd,x.up.map (·.1))=true:=by
            simp only[HI,UX,UC];exact .inl ⟨id,b5,.inr (by simpa using hw)⟩
           simp[Fu,this]
         rw[this];simp;omega
       | none =>
         refine St.some_hp_congr _ _ id xs 0 st st (λ i x hx a7=>?_) rfl;rw[Q9,h0,if_neg]
         rintro rfl
         rw[hm] at hx
         cases hx;exact a7 hl
      .rcases hid with (hid | ⟨i,h1,h2⟩) | hid
       .exact .inl hid
       .refine .inr ⟨i,?_,h2⟩
        rw[h0];split
        .rfl
        .exact h1
       .exact .inr ⟨k,by rw[h0,if_pos rfl],hid⟩
    have av:∀ q,q<8->¬ (n+8*k+q<n ∨ ∃ i,u.getD i false=true/\n+8*i<=n+8*k+q/\n+8*k+q<n+8*i+8):=by
     rintro q hq (h | ⟨i,h1,h2,h3⟩)
     .omega
     .have:i=k:=zy
      subst this;rw[a2] at h1
      cases h1
    have ho:ops[k]? = some ops[k]:=Array.getElem?_eq_getElem h8;have au:ops[k].dst.all (· < (St.some (λ i=>u.getD i false) 0 xs st).sz)=true:=by rw[St.some_sz];exact hd _ (Array.getElem_mem h8)
    simp only[wpOp,ho]
    have c4:(Bx P ops ops[k]).xs.map (·.ev (St.some (λ i=>u.getD i false) 0 xs st).get)=(Bx P ops ops[k]).xs.map (·.ev (St.some (λ _=>true) 0 (xs.take k) st).get):=by
     refine Ur λ x hx=>?_
     cases x with
     | t i =>
       refine a6 i ?_;simp only[CG.names,Qm,U8];exact .inl (.inl ⟨_,hx,rfl⟩)
     | _=>rfl
    have run:(aK P np (n+8*k) (Bx P ops ops[k]).op ((Bx P ops ops[k]).xs.map (·.ev (St.some (λ _=>true) 0 (xs.take k) st).get)) (St.some (λ _=>true) 0 (xs.take k) st).hp λ v' rd' up'=>v'=xk.v/\rd'=xk.rd/\up'=xk.up) ->
      (Bx P ops ops[k]).op=(BD P ops[k]).1->(Bx P ops ops[k]).xs=(BD P ops[k]).2->ops[k].wp P a w (wpAny P .any ops Q h5 (u.setIfInBounds k true)) Q:=by
     intro hk c5 cb;have bt:=gY (h':=(St.some (λ i=>u.getD i false) 0 xs st).hp) hk an;rw[<- c4,c5,cb] at bt;obtain⟨v,rd,up,⟨rfl,rfl,rfl⟩,h2⟩:=WM ok.tm ok.mem (idb:=n+8*k) av zy ops[k] _ bt
     refine VW ok au h2 λ T' M' a' w' ok'=>?_;refine a8 T' M' a' w' ?_
     have e:(St.some (λ i=>u.getD i false) 0 xs st).app xk=((St.some (λ i=>u.getD i false) 0 xs st).put ops[k].dst xk.v).upd xk.up:=by
      unfold St.app;rw[h6 k xk h8 hm,hy]
     rw[e];exact ok'
    obtain⟨ch,hc⟩:=MW (P:=P) (ops:=ops) (o:=ops[k]);obtain⟨cp,h7⟩:=hO;rcases hc with ⟨g1,g2,g3,g4⟩ | ⟨j,want,d,g1,g2,g3,g4,g5⟩ | ⟨g1,g2,g3⟩
    .rw [g2] at h7
     have b9:Region.wanted ops[k] (yielded ops a.tmps)=true:=by simp[Region.wanted,g1]
     rw[if_pos b9];exact .inl (run h7 g3 g4)
    .rw [g3] at h7
     obtain⟨b,hb,h7⟩:=h7
     have cd:G8 ((St.some (λ i=>u.getD i false) 0 xs st).get d)=some b:=by
      rw[a6 d (by simp[CG.names,g3])]
      exact hb
     have b9:=SL ok.tm g1 g2 cd;rw[b9]
     by_cases bb:b=some want
     .subst bb
      simp only[UP,beq_self_eq_true] at h7 ⊢;exact .inl (run h7 g4 g5)
     .rw [if_neg bb] at h7
      rw[if_neg (by simpa using bb)]
      obtain⟨e1,e2,e3⟩:=h7;refine a8 T M (a.put ops[k].dst undef) w ?_
      have e:(St.some (λ i=>u.getD i false) 0 xs st).app xk=(St.some (λ i=>u.getD i false) 0 xs st).put ops[k].dst (.tup []):=by
       unfold St.app;rw[h6 k xk h8 hm,hy,e1,e3];rfl
      rw[e];refine⟨by rw[Nt,St.sz_put];exact ok.sz,by rw[Oa];exact ok.df,Py ok.sz ok.tm au (.tup _ [] #[] rfl (λ i hi=>by simp at hi)),?_,λ id g hg=>.inl (ok.dom id g hg),ok.after⟩
      have e:((St.some (λ i=>u.getD i false) 0 xs st).put ops[k].dst (.tup [])).hp=(St.some (λ i=>u.getD i false) 0 xs st).hp:=by funext q;rw[St.hp_put]
      rw[e];exact ok.hs
    .rw [g1,g2,g3] at h7
     exact False.elim h7
end
def sS:Exit->Ea->Prop
 | .normal,.normal=>True
 | .exit i,.exit j=>i=j
 | .ret,.ret=>True
 | _,_=>False
section
variable {P:Program} {np:Nat} {T0:Nat->Nat} {M0:GM} {w0:World}
def Ic (np:Nat) (T0:Nat->Nat) (M0:GM) (w0:World) (Q:Ea->St->Prop):Exit->Act->World->Prop :=
 λ e a w=>∃ e' st T M,sS e e'/\Ok np T0 M0 w0 (G0 st.n) st T M a w/\np<=st.n/\Q e' st
theorem Hw (hm:P.follows .mixedOrders=true):∀ (c:Code) (Q:Ea->St->Prop) (st:St) (T:Nat->Nat) (M:GM) (a:Act) (w:World),
  AY P np (comp P c) Q st->Ok np T0 M0 w0 (G0 st.n) st T M a w->np<=st.n->c.wp P (Ic np T0 M0 w0 Q) a w
 | .skip,Q,st,T,M,a,w,h,ok,hn=>wp_skip ⟨.normal,st,T,M,trivial,ok,hn,h⟩
 | .exit id,Q,st,T,M,a,w,h,ok,hn=>wp_exit ⟨.exit id,st,T,M,rfl,ok,hn,h⟩
 | .ret,Q,st,T,M,a,w,h,ok,hn=>wp_ret ⟨.ret,st,T,M,trivial,ok,hn,h⟩
 | .seq x y,Q,st,T,M,a,w,h,ok,hn=>by
   refine wp_seq (wp_mono (Hw hm x _ st T M a w h ok hn) ?_)
   rintro e a' w' ⟨e',st',T',M',he,ok',q,hq⟩
   cases e<;>cases e'<;>(try (exact False.elim he))
   .obtain ⟨st2,h8,h2⟩:=hq
    obtain⟨T2,M2,ok2,u⟩:=h8 _ _ _ _ _ _ _ ok' q;exact Hw hm y Q st2 T2 M2 a' w' h2 ok2 u
   .exact ⟨_,st',T',M',he,ok',q,hq⟩
   .exact ⟨_,st',T',M',he,ok',q,hq⟩
 | .cond c x y,Q,st,T,M,a,w,h,ok,hn=>by
   obtain⟨t,ht,h⟩:=h;have hc:=Cu (Bn ok.tm c) ht;refine wp_cond hc ?_
   cases t
   .exact Hw hm y Q st T M a w h ok hn
   .exact Hw hm x Q st T M a w h ok hn
 | .block id x,Q,st,T,M,a,w,h,ok,hn=>by
   refine wp_block (wp_mono (Hw hm x _ st T M a w h ok hn) ?_)
   rintro e a' w' ⟨e',st',T',M',he,ok',q,hq⟩
   cases e<;>cases e'<;>(try (exact False.elim he))
   .exact ⟨_,st',T',M',he,ok',q,hq⟩
   .rename_i i j
    have he:i=j:=he;subst he
    by_cases hid:i=id
    .simp only[Exit.inBlock,if_pos hid]
     simp only[if_pos hid] at hq;exact⟨.normal,st',T',M',trivial,ok',q,hq⟩
    .simp only[Exit.inBlock,if_neg hid]
     simp only[if_neg hid] at hq;exact⟨.exit i,st',T',M',rfl,ok',q,hq⟩
   .exact ⟨_,st',T',M',he,ok',q,hq⟩
 | .loop x,Q,st,T,M,a,w,h,ok,hn=>by
   obtain⟨I,⟨st0,k0,h8,hI⟩,h6⟩:=h;obtain⟨T1,M1,ok1,hg⟩:=h8 _ _ _ _ _ _ _ ok hn;refine wp_loop_ghost (λ k a w=>∃ s T M,I k s/\Ok np T0 M0 w0 (G0 s.n) s T M a w/\np<=s.n) k0 ⟨st0,T1,M1,hI,ok1,hg⟩ ?_
   rintro k a' w' ⟨s,T',M',hh,ok',q⟩
   refine wp_mono (Hw hm x _ s T' M' a' w' (h6 k s hh) ok' q) ?_
   rintro e a2 w2 ⟨e',st',T2,M2,he,ok2,u,hq⟩
   cases e<;>cases e'<;>(try (exact False.elim he))
   .obtain ⟨st2,k2,ha,hi,hl⟩:=hq
    obtain⟨T3,M3,ok3,hr⟩:=ha _ _ _ _ _ _ _ ok2 u;exact⟨k2,hl,st2,T3,M3,hi,ok3,hr⟩
   .exact ⟨_,st',T2,M2,he,ok2,u,hq⟩
   .exact ⟨_,st',T2,M2,he,ok2,u,hq⟩
 | .region id ops draw,Q,st,T,M,a,w,h,ok,hn=>by
   obtain⟨hd,h⟩:=h
   have hb:∀ o∈ops,o.dst.all (· < st.sz)=true:=by
    intro o ho;have:=Ut.1 hd (Bx P ops o) (Ql.2 ⟨o,by simpa using ho,rfl⟩)
    rwa [MW.1] at this
   have h7:(ops.toList.map (Bx P ops)).length=ops.size:=zz
   cases draw with
   | false =>
     refine wp_region ?_;rw[List.range_eq_range']
     refine O4 (n:=st.n) hn (Q:=Ic np T0 M0 w0 Q) (K:=λ st' tr=>(false=true->F3 (ops.toList.map (Bx P ops)) [] tr=true)/\Q .normal { st' with n:=st.n+8*(ops.toList.map (Bx P ops)).length })
      (λ st' tr T' M' a' w' hk ok'=>?_) ops.size 0 st [] T M a w zy hb (by simpa using ok) h
     rw[h7] at hk;refine⟨.normal,{ st' with n:=st.n+8*ops.size },T',M',trivial,?_,by show np<=st.n+8*ops.size;omega,hk.2⟩
     exact⟨ok'.sz,ok'.df,ok'.tm,ok'.hs,ok'.dom,ok'.after⟩
   | true =>
     refine wp_region_any hm ?_;obtain⟨xs,h1,h2,h3⟩:=Ky _ 0 st [] h;obtain⟨h4,h5⟩:=h3;rw[h7] at h1 h5;have hf:=h4 rfl;obtain⟨h0,h9⟩:=ok.mem.draw (w1:={ w with drawn:=w.drawn+1 }) rfl rfl rfl rfl
     have okd:Ok np T0 M0 w0 (G0 st.n) st T M a { w with drawn:=w.drawn+1 } :=
      ⟨ok.sz,ok.df,λ i=>(ok.tm i).mono h9 λ _ _ e=>e,h0.hs,h0.dom,h0.after⟩
     refine lM (T0:=T0) (M0:=M0) (w0:=w0) (n:=st.n) hn h1 (Q:=Ic np T0 M0 w0 Q) (λ st' T' M' a' w' g1 g2 g3 ok'=>?_) hb (λ k o x ho hx=>by have:=h2 k o x ho hx;rwa [Q9] at this) (by simpa using hf) ops.size _ T M a _ zz ?_ (λ j hj=>?_) ?_
     .refine ⟨.normal,{ (St.some (λ _=>true) 0 xs st) with n:=st.n+8*ops.size },T',M',trivial,?_,by show np<=st.n+8*ops.size;omega,h5⟩
      have:=ok'.ext (st':={ (St.some (λ _=>true) 0 xs st) with n:=st.n+8*ops.size }) ((St.some_sz _ _ _ _).trans g3.symm) (λ i=>(g1 i).symm) (λ i=>(g2 i).symm);exact⟨this.sz,this.df,this.tm,this.hs,this.dom,this.after⟩
     .have:(Array.replicate ops.size false).toList.countP (· == false)<=(Array.replicate ops.size false).toList.length:=List.countP_le_length
      simpa using this
     .have:(Array.replicate ops.size false).getD j false=false:=by simp only[QD,Array.getElem?_replicate];split<;>rfl
      rw[this] at hj
      cases hj
     .have e:St.some (λ i=>(Array.replicate ops.size false).getD i false) 0 xs st=st:=by
       have:(λ i=>(Array.replicate ops.size false).getD i false)=λ _=>false:=by
        funext j
        simp only[QD,Array.getElem?_replicate];split<;>rfl
       rw[this,St.some_false]
      rw[e];exact okd.wider λ id hid=>.inl hid
 | .rangeFunc ..,Q,st,T,M,a,w,h,ok,hn=>False.elim h
 | .scope x,Q,st,T,M,a,w,h,ok,hn=>by
   refine wp_scope_straight (wp_mono (Hw hm x Q st T M a w h ok hn) ?_)
   rintro e a' w' ⟨e',st',T',M',he,ok',q,hq⟩
   cases e<;>cases e'<;>(try (exact False.elim he))<;>exact⟨_,st',T',M',he,ok',q,hq⟩
 | .label _,Q,st,T,M,a,w,h,ok,hn=>wp_label ⟨.normal,st,T,M,trivial,ok,hn,h⟩
 | .goto _,Q,st,T,M,a,w,h,ok,hn=>False.elim h
 | .refuse _,Q,st,T,M,a,w,h,ok,hn=>False.elim h
end
variable {M:GM} {T:Nat->Nat} {w:World}
section
variable {P:Program} {np:Nat} {T0:Nat->Nat} {M0:GM} {w0:World}
theorem iT {t:TypeId} {ag:Bool} {s:Nat} {cs:List AV} {b off:Nat} {c:Nat->Value} (h1:(isAgg t).run P w = .ok ag w) (h2:(sizeOf t).run P w = .ok s w) (h5:s<=cs.length) (h3:ag=true∨s=1) (q:∀ j,j<cs.length->w.cell? ⟨b,off+j,none⟩=some (c j)/\(c j).oneCell'=true/\Aj T w M (cs.getD j .dead) (c j)) :
  ∃ u,(loadVar t ⟨b,off,none⟩).run P w = .ok u w/\Aj T w M (if ag then .agg (cs.take s) else cs.headD .dead) u:=by
 cases ag with
 | true =>
   have hl:=run_loadCells (P:=P) w ⟨b,off,none⟩ s c (λ j hj=>by rw[Addr.add_none];exact(q j zy).1)
   refine⟨.agg ((List.range s).map c).toArray,by simp[loadVar,h1,h2,hl],?_⟩
   refine .agg _ _ _ zw (λ i hi=>?_) λ i hi=>?_
   .simp at hi
    have e:((List.range s).map c).toArray.getD i undef=c i:=by simp[Array.getD,show i<s by omega]
    rw[e];exact(q i zy).2.1
   .simp at hi
    have e:((List.range s).map c).toArray.getD i undef=c i:=by simp[Array.getD,show i<s by omega]
    have e2:(cs.take s).getD i .dead=cs.getD i .dead:=by
     simp only[List.getD,Uu];rw[if_pos zy]
    rw[e,e2];exact(q i zy).2.2
 | false =>
   obtain rfl:s=1:=by simpa using h3
   have h0:=q 0 zy
   have e:cs.headD .dead=cs.getD 0 .dead:=by cases cs<;>rfl
   simp only[Uk,UA];rw[e];refine⟨c 0,?_,h0.2.2⟩;simp only[loadVar,Sem.run_bind,h1,Result.andThen_ok];have h4:w.cell? ⟨b,off,none⟩=some (c 0):=by simpa using h0.1
   simp[h4]
def Jd (a:Act) (r:ResultVar):Sem Value :=
 match r with
 | .tmp t=>pure (a.tmps.getD t undef)
 | .cell b t=>do loadVar t (<- asAddr (a.tmps.getD b undef))
theorem nA {st:St} {a:Act} {aB:Nat->Prop} (tm:∀ i,Aj T w M (st.get i) (a.tmps.getD i undef)) (m:Bp np T0 M0 w0 aB st.hp T M w) {r:ResultVar} {v:AV} (h:Fl st (HW P r)=some v):∃ u,(Jd a r).run P w = .ok u w/\Aj T w M v u:=by
 cases r with
 | tmp t =>
   simp only[HW,Fl,Qw] at h;subst h;exact⟨_,rfl,tm t⟩
 | cell b t =>
   simp only[HW] at h
   have bad:Fl st (b,some (false,0))=some v->False:=by
    intro h;simp only[Fl] at h;split at h
    .simp at h
    .cases h
   cases q:EN P t with
   | none=>rw[q] at h;exact(bad h).elim
   | some ag =>
     rw[q] at h
     cases h0:CZ P t with
     | none=>rw[h0] at h;exact(bad h).elim
     | some s =>
       rw[h0] at h;simp only[Fl] at h;split at h
       case h_2=>cases h
       rename_i cs h4;split at h
       case isFalse=>cases h
       rename_i hc;simp only[Qw] at h;subst h;obtain⟨blk,off,hv,c,h1⟩:=Sg m (tm b) h4
       have h2:(sizeOf t).run P w = .ok s w:=by
        simp only[CZ,Qy] at h0;obtain⟨i,hi,hs⟩:=h0;simp[sizeOf,typeInfo,hi,hs]
       have h3:(isAgg t).run P w = .ok ag w:=by
        unfold EN at q;split at q<;>(try (cases q;done))
        .rename_i e;cases q;simp[isAgg,CV e]
        .rename_i e;cases q;simp[isAgg,CV e]
        .rename_i d e n1 n2
         cases q;simp only[isAgg,Sem.run_bind,CV n2];simp
       obtain⟨u,hu,h5⟩:=iT (P:=P) h3 h2 hc.1 hc.2 h1;refine⟨u,?_,h5⟩;simp[Jd,hv,asAddr,hu]
theorem Tm {st:St} {T:Nat->Nat} {M:GM} {a:Act} {w:World} {aB:Nat->Prop} (tm:∀ i,Aj T w M (st.get i) (a.tmps.getD i undef)) (m:Bp np T0 M0 w0 aB st.hp T M w) :
  ∀ (rs:List ResultVar) (vs:List AV),EJ st (rs.map (HW P))=some vs -> ∃ us:List Value,(rs.mapM (Jd a)).run P w = .ok us w/\us.length=vs.length /\ ∀ i,i<vs.length->Aj T w M (vs.getD i .dead) (us.getD i undef)
 | [],vs,h=>by
   simp[EJ] at h;subst h;exact⟨[],zz,rfl,λ i hi=>absurd hi zz⟩
 | r::rs,vs,h=>by
   simp only[QA,EJ] at h;split at h
   case h_2=>cases h
   rename_i v vs' h1 h2;simp only[Qw] at h;subst h;obtain⟨u,hu,q⟩:=nA tm m h1;obtain⟨us,h0,hl,hr⟩:=Tm tm m rs vs' h2;refine⟨u::us,by simp[List.mapM_cons,hu,h0],by simp[hl],λ i hi=>?_⟩
   cases i with
   | zero=>simpa using q
   | succ i=>simpa using hr i (by simpa using hi)
theorem vJ {α:Type} (l:List α) (k:Nat):AW (l.zipIdx.map λ (a,i)=>(i,a)) k=l[k]?:=by
 have key:∀ (l:List α) (q k:Nat),AW ((l.zipIdx q).map λ (a,i)=>(i,a)) (q+k)=l[k]?:=by
  intro l
  induction l with
  | nil=>intro q k;rfl
  | cons x l ih =>
    intro q k;simp only[List.zipIdx_cons,QA,AW]
    cases k with
    | zero=>simp
    | succ k =>
      rw[if_neg zy,show q+(k+1)=q+1+k by omega,ih]
      simp
 have:=key l 0 k
 rwa [Q9] at this
theorem Zj (l:List AD) (k:Nat):AW (l.zipIdx.map λ (e,i)=>(i,some e)) k=(l[k]?).map some:=by
 have key:∀ (l:List AD) (q k:Nat),AW ((l.zipIdx q).map λ (e,i)=>(i,some e)) (q+k)=(l[k]?).map some:=by
  intro l
  induction l with
  | nil=>intro q k;rfl
  | cons x l ih =>
    intro q k;simp only[List.zipIdx_cons,QA,AW]
    cases k with
    | zero=>simp
    | succ k =>
      rw[if_neg zy,show q+(k+1)=q+1+k by omega,ih]
      simp
 have:=key l 0 k
 rwa [Q9] at this
theorem aJ (hm:P.follows .mixedOrders=true) {f:FuncId} {fn:Func} {af:B6} (hf:P.funcs[f]? = some fn) (hc:Jg P fn=some af) (a5:fn.name ≠ "runtime.NumGoroutine") {args:List AV} {hs:List AD} {res:AV} {hs':List (Option AD)} (b5:args.length<=af.nt) (am:hs.length<=16) (a6:hs.length<=hs'.length) (h:AY P hs.length af.code (λ e st=>(e = .normal∨e = .ret)/\AO af.res hs.length st res hs') (Fv af args hs)):CF P f args hs res hs':=by
 unfold Jg at hc
 cases hb:fn.body with
 | none=>rw[hb] at hc;cases hc
 | some c =>
   rw[hb] at hc;simp only[Qw] at hc;subst hc;refine⟨⟨fn,c,hf,hb,a5⟩,a6,λ T M w vs an b6 a3 hv=>?_⟩;refine calls_of_wp hf hb ?_
   have hg:∀ i,(Fv { nt:=fn.ntmps,res:=fn.results.toList.map (HW P),code:=comp P c } args hs).get i=args.getD i .dead:=by
    intro i;unfold St.get Fv;simp only[vJ];rfl
   have hh:∀ i,(Fv { nt:=fn.ntmps,res:=fn.results.toList.map (HW P),code:=comp P c } args hs).hp i=hs[i]?:=by
    intro i;unfold St.hp Fv;simp only[Zj]
    cases hs[i]?<;>rfl
   have ok:Ok hs.length T M w (G0 16) (Fv { nt:=fn.ntmps,res:=fn.results.toList.map (HW P),code:=comp P c } args hs) T M { tmps:=vs++Array.replicate (fn.ntmps - vs.size) undef,defers:=[] } w:=by
    refine⟨?_,rfl,λ i=>?_,?_,λ id g hg=>?_,?_⟩
    .simp only[UL,Array.size_replicate,Fv]
     have:=hv.1;simp only at b5;omega
    .rw [hg]
     by_cases hi:i<args.length
     .have:=hv.2 i hi
      have e:(vs++Array.replicate (fn.ntmps - vs.size) undef).getD i undef=vs.getD i undef:=by
       simp only[QD];rw[Ui (by rw[hv.1];exact hi)]
      rw[e];exact this
     .have:args.getD i .dead = .dead:=by simp[List.getD,show ¬ i<args.length by omega]
      rw[this];exact .dead _ _
    .have e:(Fv { nt:=fn.ntmps,res:=fn.results.toList.map (HW P),code:=comp P c } args hs).hp=C9 hs:=funext hh
     rw[e];exact b6
    .show id<16
     rcases Ub id hs.length with h | h
     .omega
     .rw [a3 id h] at hg;cases hg
    .exact ⟨an,λ _ _ _=>rfl,λ _ _=>rfl,rfl,rfl,rfl,Qf _,λ _ _ _=>rfl,Ax.refl _ _,λ k g b hk hg=>by rw[a3 k hk] at hg;cases hg⟩
   refine wp_mono (Hw hm c _ _ T M _ w h ok am) ?_
   rintro e a' w' ⟨e',st',T',M',he,ok',c3,hq,vs',b7,ex,sn,aq,b8,au,b9,a4⟩
   have hw:a'.defers=[] /\ ∃ v,(results fn a'.tmps).run P w' = .ok v w' /\ ∃ v2 T2 M2,Ending.returned v = .returned v2/\Aj T2 w' M2 res v2/\Dl T2 w' M2 (Gj hs')/\Fq hs.length T M w T2 M2 w':=by
    refine⟨ok'.df,?_⟩;obtain⟨us,bb,av,a0⟩:=Tm (P:=P) ok'.tm ok'.mem fn.results.toList vs' b7
    have b0:(results fn a'.tmps).run P w' = .ok (if h:us.toArray.size=1 then us.toArray[0] else .tuple us.toArray) w':=by
     have e0:results fn a'.tmps=(do let vs <- fn.results.mapM (Jd a');pure (if h:vs.size=1 then vs[0] else .tuple vs)):=by
      have e2:(λ r:ResultVar=>match r with | ResultVar.tmp t=>(pure (a'.tmps.getD t undef):Sem Value) | ResultVar.cell a t=>do loadVar t (<- asAddr (a'.tmps.getD a undef)))=Jd a':=by
       funext r;cases r<;>rfl
      rw[<- e2];rfl
     have e:(fn.results.mapM (Jd a')).run P w' = .ok us.toArray w':=by
      rw[Array.mapM_eq_mapM_toList];simp[bb]
     rw[e0,Sem.run_bind,e];rfl
    have bo:Aj T' w' M' (DE vs') (if h:us.toArray.size=1 then us.toArray[0] else .tuple us.toArray):=by
     by_cases h1:vs'.length=1
     .match vs',us,h1,av,a0 with
      | [v],[u],_,_,a0=>exact a0 0 zz
     .have e:DE vs' = .tup vs':=by
       match vs',h1 with
       | [],_=>rfl
       | [_],h=>simp at h
       | _::_::_,_=>rfl
      rw[e,dif_neg zw]
      exact .tup _ _ _ (by simpa using av) λ i hi=>by simpa [List.getD,QD] using a0 i hi
    refine⟨_,b0,(if h:us.toArray.size=1 then us.toArray[0] else .tuple us.toArray),?_⟩
    let nm:List Nat:=List.range hs.length++ex
    obtain⟨T1,b1,a7,a8,hx⟩:=OW ok'.hs ok'.after.tok sn
    let Mr:GM:=λ k=>match nm[k]? with | some i=>M' i | none=>none
    have ht:∀ (k i:Nat),nm[k]? = some i->Mr k=M' i:=λ k i q=>by show (match nm[k]? with | some i=>M' i | none=>none)=_;rw[q]
    have b2:∀ k,k<hs.length->nm[k]? = some k:=λ k hk=>by
     show (List.range hs.length++ex)[k]? = _;rw[QG (by simpa using hk)]
     simp[hk]
    have a9:∀ (k i:Nat),hs.length<=k->nm[k]? = some i->hs.length<=i:=λ k i hk q=>by
     have e:nm[k]? = ex[k - hs.length]?:=by
      show (List.range hs.length++ex)[k]? = _;rw[Qr (by simpa using hk)]
      simp
     rw[e] at q;exact b8 i (Um q)
    have ag:=λ x v hr=>KV (Mc:=Mr) (x:=x) (v:=v) ok'.hs sn b1 a8 4 nm.zipIdx (λ id k hl=>ht k id (Ts hl)) hr
    have ai:∀ i∈sn,i∉nm:=by
     intro i hi bp;rcases Qm.1 bp with h | h
     .have:=(au i hi).2
      simp at h;omega
     .exact (au i hi).1 h
    have h8:∀ (k i:Nat) e',nm[k]? = some i->Gj hs' k=some e' -> ∃ e,st'.hp i=some e/\e'=AX nm.zipIdx sn st'.hp 4 e:=by
     intro k i e' q h9;have h1:=congrArg (·[k]?) a4
     simp only[QB] at h1;have h0:(List.range hs.length++ex)[k]? = some i:=q;rw[h0] at h1;simp only[Ug] at h1;unfold Gj at h9;rw[<- h1] at h9;simp only[Option.join_some,Qy] at h9;obtain⟨e,h2,h3⟩:=h9;exact⟨e,h2,h3.symm⟩
    have ha:∀ k e',Gj hs' k=some e'->k<hs'.length:=by
     intro k e' h;unfold Gj at h
     cases hq:hs'[k]? with
     | none=>rw[hq] at h;simp at h
     | some _=>exact(Qz.1 hq).1
    have hy:nm.length=hs'.length:=by
     have h1:=congrArg List.length a4;rw[Qs] at h1;exact h1
    have hd:∀ i e g b,i∈nm->st'.hp i=some e->M' i=some g->g.blk=some b->T1 b=T' b:=by
     intro i e g b h1 h2 h3 h4;refine hx b λ i' hi' e' g' h5 h6 h7=>?_;have:=ok'.hs.inj i i' e e' g g' b h2 h5 h3 h6 h4 h7;subst this;exact ai i hi' h1
    refine⟨T1,Mr,rfl,b9.rep (ag _ _ bo),⟨λ k e' h9=>?_,λ k k' e1 e2 g g' b h1 h2 h3 h4 h5 h6=>?_⟩,?_⟩
    .have a1:k<nm.length:=by rw[hy];exact ha k e' h9
     have q:nm[k]? = some nm[k]:=Qc a1;obtain⟨e,he,rfl⟩:=h8 k _ e' q h9;obtain⟨g,hg,ent⟩:=ok'.hs.ent _ e he;refine⟨g,(ht k _ q).trans hg,ent.s,by simpa [AX] using ent.ro,λ hz r hr=>?_,λ hn=>by simp[AX,ent.none hn],λ hz=>?_,λ hz b b3=>?_⟩
     .simp only[AX,Ql] at hr
      obtain⟨r0,bs,rfl⟩:=hr;rw[Qs];exact ent.wide hz r0 bs
     .obtain ⟨b,es,clock,a2,q1,q2,q3,q4⟩:=ent.mp hz
      exact⟨b,es,clock,a2,q1,by rw[hd _ e g b (Um q) he hg a2];exact q2,q3,q4.map (λ _=>rfl) λ row _ x _ v hr=>ag x v hr⟩
     .obtain ⟨cells,ty,h1,h2,h3,h4⟩:=ent.blk hz b b3
      refine⟨cells,ty,h1,by rw[hd _ e g b (Um q) he hg b3];exact h2,by simpa [AX] using h3,λ i j hi hj=>?_⟩
      simp only[AX,Qs] at hi hj ⊢;obtain⟨u,hu,ho,bt⟩:=h4 i j hi hj;refine⟨u,hu,ho,?_⟩
      have e1:(e.rows.map (·.map (conv nm.zipIdx sn st'.hp 4))).getD i []=(e.rows.getD i []).map (conv nm.zipIdx sn st'.hp 4):=by
       simp only[List.getD,QB]
       cases e.rows[i]?<;>rfl
      rw[e1,GQ _ (GL _ _ _ _)];exact ag _ _ bt
    .have a1:k<nm.length:=by rw[hy];exact ha k e1 h1
     have b4:k'<nm.length:=by rw[hy];exact ha k' e2 h2
     have q:nm[k]? = some nm[k]:=Qc a1;have h0:nm[k']? = some nm[k']:=Qc b4;obtain⟨ea,c0,_⟩:=h8 k _ e1 q h1;obtain⟨eb,c1,_⟩:=h8 k' _ e2 h0 h2;have:=ok'.hs.inj _ _ ea eb g g' b c0 c1 ((ht k _ q).symm.trans h3) ((ht k' _ h0).symm.trans h4) h5 h6;exact(List.getElem?_inj a1 aq).1 (by rw[q,h0,this])
    .refine ok'.after.step a7 (λ b hb c2=>?_) (λ k hk=>?_) rfl rfl rfl (Qf _) (λ _ _ _=>rfl) ⟨b1,λ b cells ty fz h=>⟨cells,fz,h,rfl,λ _ _=>rfl⟩⟩ λ k g b hk hg a2=>?_
     .refine hx b λ i hi e g h1 h2 h3=>?_
      exact(ok'.after.blk h2 h3).elim c2 zy
     .exact ht k k (b2 k hk)
     .cases q:nm[k]? with
      | none =>
        have:Mr k=none:=by show (match nm[k]? with | some i=>M' i | none=>none)=none;rw[q]
        rw[this] at hg;cases hg
      | some i =>
        rw[ht k i q] at hg;exact ok'.after.new i g b (a9 k i hk q) hg a2
   rcases hq with rfl | rfl
   .cases e<;>first | exact hw | exact False.elim he
   .cases e<;>first | exact hw | exact False.elim he
end
def Up (nl:List (Nat × Nat)) (x y:AV):Prop:=Wk x y∨(x = .nilS /\ ∃ id s,y = .rs id 0 0/\(id,s)∈nl)
def E8 (nl:List (Nat × Nat)):List AV->List AV->Prop
 | [],[]=>True
 | x::xs,y::ys=>Up nl x y/\E8 nl xs ys
 | _,_=>False
theorem E8.length {nl:List (Nat × Nat)}:∀ {xs ys:List AV},E8 nl xs ys->xs.length=ys.length
 | [],[],_=>rfl
 | _::_,_::_,h=>by simp[E8.length h.2]
 | [],_::_,h=>False.elim h
 | _::_,[],h=>False.elim h
theorem E8.get {nl:List (Nat × Nat)}:∀ {xs ys:List AV},E8 nl xs ys -> ∀ i:Nat,i<xs.length->Up nl (xs.getD i .dead) (ys.getD i .dead)
 | x::xs,y::ys,h,0,_=>h.1
 | x::xs,y::ys,h,i+1,hi=>by simpa using E8.get h.2 i (by simpa using hi)
 | [],[],_,i,hi=>absurd hi zz
 | [],_::_,h,_,_=>False.elim h
 | _::_,[],h,_,_=>False.elim h
def A7 (nl:List (Nat × Nat)) (e e':AD):Prop :=
 e'.s=e.s/\e.ro<=e'.ro/\e'.ro<=e'.rows.length/\(e'.rows=e.rows∨(e.s≠0/\e.rows.length=e'.rows.length /\ ∀ i,E8 nl (e.rows.getD i []) (e'.rows.getD i [])))
theorem Le.mk {np:Nat} {st st':St} (ρ:List (Nat × Nat)) (sn:List Nat) (nl:List (Nat × Nat)) (b0:st'.sz=st.sz) (h0:(ρ.map (·.1)).Nodup) (h1:(ρ.map (·.2)).Nodup) (h2:∀ p∈ρ,p.2<st'.n/\(p.2<np->p.1=p.2)) (h3:∀ p∈nl,np<=p.1/\p.1<st'.n/\p.1∉ρ.map (·.2)/\p.2≠0) (h4:∀ i∈sn,np<=i/\i∉ρ.map (·.1)) (h5:np<=st'.n) (h6:(nl.map (·.1)).Nodup) (ht:∀ i,Up nl (conv ρ sn st.hp 4 (st.get i)) (st'.get i)) (hh:∀ id' e',st'.hp id'=some e'->(∃ id e,(id,id')∈ρ/\st.hp id=some e/\A7 nl (AX ρ sn st.hp 4 e) e')∨((id',e'.s)∈nl/\e'.rows=[]/\e'.ro=0)):Le np st st':=by
 intro T0 M0 w0 T M a w ok hn;obtain⟨T1,ag,a3,a4,hw⟩:=OW ok.hs ok.after.tok sn
 let M':GM:=λ j=>if j<np then M j else match AW nl j with
  | some s=>some ⟨none,0,s⟩
  | none=>match AW (ρ.map λ p=>(p.2,p.1)) j with
    | some i=>M i
    | none=>none
 have a0:∀ j,j<np->M' j=M j:=λ j hj=>if_pos hj
 have hx:∀ j s,(j,s)∈nl->M' j=some ⟨none,0,s⟩:=by
  intro j s a5;have ai:=(h3 _ a5).1
  have hl:AW nl j=some s:=by
   cases hl:AW nl j with
   | none=>exact absurd a5 (KC hl s)
   | some s' =>
     have:=DW hl
     have key:∀ (l:List (Nat × Nat)),(l.map (·.1)).Nodup->(j,s)∈l->(j,s')∈l->s=s':=by
      intro l
      induction l with
      | nil=>intro _ h;simp at h
      | cons p l ih =>
        intro q ha hb;simp only[QA,Uh,Ql,not_exists,not_and] at q;rcases Qu.1 ha with ha | ha<;>rcases Qu.1 hb with hb | hb
        .rw [<- ha] at hb;cases hb;rfl
        .exact absurd (by rw[<- ha]) (q.1 _ hb)
        .exact absurd (by rw[<- hb]) (q.1 _ ha)
        .exact ih q.2 ha hb
     rw[key nl h6 a5 this]
  show (if j<np then M j else _)=_
  rw[if_neg zy,hl]
 have hy:∀ i j,(i,j)∈ρ->M' j=M i:=by
  intro i j hij
  by_cases hj:j<np
  .have h:=(h2 _ hij).2 hj
   simp only at h;rw[a0 j hj,h]
  .have b1:AW nl j=none:=by
    cases hl:AW nl j with
    | none=>rfl
    | some s=>exact absurd (Ql.2 ⟨_,hij,rfl⟩) (h3 _ (DW hl)).2.2.1
   have am:AW (ρ.map λ p=>(p.2,p.1)) j=some i:=by
    cases hl:AW (ρ.map λ p=>(p.2,p.1)) j with
    | none=>exact absurd (Ql.2 ⟨_,hij,rfl⟩) (KC hl i)
    | some i' =>
      have:=DW hl;simp only[Ql,Prod.mk.injEq] at this;obtain⟨⟨p1,p2⟩,hp,rfl,rfl⟩:=this
      have key:∀ (l:List (Nat × Nat)),(l.map (·.2)).Nodup->(p1,p2)∈l->(i,p2)∈l->p1=i:=by
       intro l
       induction l with
       | nil=>intro _ h;simp at h
       | cons p l ih =>
         intro q ha hb;simp only[QA,Uh,Ql,not_exists,not_and] at q;rcases Qu.1 ha with ha | ha<;>rcases Qu.1 hb with hb | hb
         .rw [<- ha] at hb;cases hb;rfl
         .exact absurd (by rw[<- ha]) (q.1 _ hb)
         .exact absurd (by rw[<- hb]) (q.1 _ ha)
         .exact ih q.2 ha hb
      rw[key ρ h1 hp hij]
   show (if j<np then M j else _)=_
   rw[if_neg hj,b1,am]
 have hc:∀ j g,M' j=some g->j<np∨(∃ s,(j,s)∈nl/\g=⟨none,0,s⟩) ∨ ∃ i,(i,j)∈ρ/\M i=some g:=by
  intro j g hg
  by_cases hj:j<np
  .exact .inl hj
  .right
   have hd:(if j<np then M j else match AW nl j with
    | some s=>some ⟨none,0,s⟩
    | none=>match AW (ρ.map λ p=>(p.2,p.1)) j with
      | some i=>M i
      | none=>none)=some g:=hg
   rw[if_neg hj] at hd
   cases hl:AW nl j with
   | some s =>
     rw[hl] at hd;exact .inl ⟨s,DW hl,(Qh hd).symm⟩
   | none =>
     rw[hl] at hd
     cases hr:AW (ρ.map λ p=>(p.2,p.1)) j with
     | none=>rw[hr] at hd;cases hd
     | some i =>
       rw[hr] at hd;have:=DW hr;simp only[Ql,Prod.mk.injEq] at this;obtain⟨⟨p1,p2⟩,hp,rfl,rfl⟩:=this;exact .inr ⟨_,hp,hd⟩
 have a6:=λ x v hr=>KV (Mc:=M') (x:=x) (v:=v) ok.hs sn ag a4 4 ρ (λ id k hl=>hy id k (DW hl)) hr
 have an:∀ x y v,Up nl x y->Aj T1 w M' x v->Aj T1 w M' y v:=by
  rintro x y v (h | ⟨rfl,id,s,rfl,h8⟩) hr
  .exact h.rep hr
  .cases hr
   exact .rs _ _ 0 0 0 none _ (hx id s h8) (h3 _ h8).2.2.2 (Qf _) (λ _=>⟨rfl,rfl⟩) λ b hb=>by cases hb
 have hf:∀ id e g b,id∉sn->st.hp id=some e->M id=some g->g.blk=some b->T1 b=T b:=by
  intro id e g b h1 h2 h3 h4;refine hw b λ i hi e' g' h5 h6 h7=>?_;have:=ok.hs.inj id i e e' g g' b h2 h5 h3 h6 h4 h7;subst this;exact h1 hi
 refine⟨T1,M',⟨ok.sz.trans b0.symm,ok.df,λ i=>an _ _ _ (ht i) (a6 _ _ (ok.tm i)),⟨λ id' e' b2=>?_,λ i i' e1 e2 g g' b q1 q2 q3 q4 q5 q6=>?_⟩,λ j g hg=>?_,?_⟩,h5⟩
 .rcases hh id' e' b2 with ⟨id,e,h8,he,u1,u2,u3,u4⟩ | ⟨h8,hr,b3⟩
  .obtain ⟨g,hg,ent⟩:=ok.hs.ent id e he
   have a1:id∉sn:=λ hi=>(h4 id hi).2 (Ql.2 ⟨_,h8,rfl⟩)
   have hq:e'.rows.length=e.rows.length:=by
    rcases u4 with u4 | ⟨_,v1,_⟩
    .rw [u4];simp[AX]
    .rw [<- v1];simp[AX]
   have hm:∀ i,(AX ρ sn st.hp 4 e).rows.getD i []=(e.rows.getD i []).map (conv ρ sn st.hp 4):=λ i=>by
    simp only[AX,List.getD,QB]
    cases e.rows[i]?<;>rfl
   have a7:e.s≠0 -> ∀ r∈e'.rows,r.length=e.s:=λ hz r hr=>by
    rcases u4 with u4 | ⟨_,v1,v3⟩
    .rw [u4] at hr
     simp only[AX,Ql] at hr;obtain⟨r0,b4,rfl⟩:=hr;rw[Qs];exact ent.wide hz r0 b4
    .obtain ⟨i,hi,rfl⟩:=Qt.1 hr
     have h1:=(v3 i).length;rw[hm,Qs] at h1;have e1:e'.rows.getD i []=e'.rows[i]:=by simp[List.getD,hi]
     have hi':i<e.rows.length:=zy
     have e2:e.rows.getD i []=e.rows[i]:=by simp[List.getD,hi']
     rw[e1,e2] at h1;rw[<- h1];exact ent.wide hz _ (Qi hi')
   have a8:e.s≠0 -> ∀ i j,i<e.rows.length->j<e.s->Up nl (conv ρ sn st.hp 4 ((e.rows.getD i []).getD j .dead)) ((e'.rows.getD i []).getD j .dead):=by
    intro hz i j hi hj
    have e1:((AX ρ sn st.hp 4 e).rows.getD i []).getD j .dead=conv ρ sn st.hp 4 ((e.rows.getD i []).getD j .dead):=by
     rw[hm,GQ _ (GL _ _ _ _)]
    rcases u4 with u4 | ⟨_,v1,v3⟩
    .rw [u4,e1];exact .inl (.refl _)
    .rw [<- e1]
     refine(v3 i).get j ?_;rw[hm,Qs];have e2:e.rows.getD i []=e.rows[i]:=by simp[List.getD,hi]
     rw[e2,ent.wide hz _ (Qi hi)];exact hj
   have h9:e'.s=e.s:=u1;refine⟨g,(hy id id' h8).trans hg,ent.s.trans (by rw[u1];rfl),u3,λ hz r hr=>?_,λ hn=>?_,λ hz=>?_,λ hz b aq=>?_⟩
   .rw [h9]
    exact a7 (h9 ▸ hz) r hr
   .have:=ent.none hn
    rw[this] at hq;exact Qx (by simpa using hq)
   .obtain ⟨b,es,clock,hv,q1,q2,q3,q4⟩:=ent.mp (h9 ▸ hz)
    have a9:e'.rows=(AX ρ sn st.hp 4 e).rows:=by
     rcases u4 with u4 | ⟨v0,_⟩
     .exact u4
     .exact absurd (h9 ▸ hz) v0
    refine⟨b,es,clock,hv,q1,by rw[hf id e g b a1 he hg hv];exact q2,q3,?_⟩
    rw[a9];exact q4.map (λ _=>rfl) λ row _ x _ v hr=>a6 x v hr
   .obtain ⟨cells,ty,p1,p2,p3,p4⟩:=ent.blk (h9 ▸ hz) b aq
    refine⟨cells,ty,p1,?_,by rw[hq,h9];exact p3,λ i j hi hj=>?_⟩
    .rw [hf id e g b a1 he hg aq,h9]
     have:e.ro*e.s<=e'.ro*e.s:=QE _ u2;omega
    .rw [hq] at hi
     rw[h9] at hj ⊢;obtain⟨u,hu,ho,b5⟩:=p4 i j hi hj;exact⟨u,hu,ho,an _ _ _ (a8 (h9 ▸ hz) i j hi hj) (a6 _ _ b5)⟩
  .refine ⟨_,hx _ _ h8,rfl,by rw[b3];exact Qk _,(λ _=>by rw[hr];simp),(λ _=>hr),(λ hz=>absurd hz (h3 _ h8).2.2.2),λ _ b hb=>by cases hb⟩
 .have a2:∀ i e1 g b,st'.hp i=some e1->M' i=some g->g.blk=some b -> ∃ id e,(id,i)∈ρ/\st.hp id=some e/\M id=some g:=by
   intro i e1 g b p1 p2 p3;rcases hh i e1 p1 with ⟨id,e,h8,he,_⟩ | ⟨h8,_⟩
   .exact ⟨id,e,h8,he,(hy id i h8).symm.trans p2⟩
   .rw [hx _ _ h8] at p2
    obtain rfl:=Qh p2
    cases p3
  obtain⟨i1,ea,r1,r2,r3⟩:=a2 i e1 g b q1 q3 q5;obtain⟨i2,eb,s1,s2,s3⟩:=a2 i' e2 g' b q2 q4 q6;have:=ok.hs.inj i1 i2 ea eb g g' b r2 s2 r3 s3 q5 q6;subst this
  .
   have key:∀ (l:List (Nat × Nat)),(l.map (·.1)).Nodup->(i1,i)∈l->(i1,i')∈l->i=i':=by
    intro l
    induction l with
    | nil=>intro _ h;simp at h
    | cons p l ih =>
      intro q ha hb;simp only[QA,Uh,Ql,not_exists,not_and] at q;rcases Qu.1 ha with ha | ha<;>rcases Qu.1 hb with hb | hb
      .rw [<- ha] at hb;cases hb;rfl
      .exact absurd (by rw[<- ha]) (q.1 _ hb)
      .exact absurd (by rw[<- hb]) (q.1 _ ha)
      .exact ih q.2 ha hb
   exact key ρ h0 r1 s1
 .rcases hc j g hg with h | ⟨s,h,_⟩ | ⟨i,h,_⟩
  .show j<st'.n;omega
  .exact (h3 _ h).2.1
  .exact (h2 _ h).1
 .refine ok.after.step a3 (λ b hb ai=>?_) (λ k hk=>a0 k hk) rfl rfl rfl (Qf _) (λ _ _ _=>rfl) ⟨ag,λ b cells ty fz h=>⟨cells,fz,h,rfl,λ _ _=>rfl⟩⟩ λ k g b hk hg hv=>?_
  .refine hw b λ i hi e g q1 q2 q3=>?_
   exact(ok.after.blk q2 q3).elim ai zy
  .rcases hc k g hg with h | ⟨s,h,rfl⟩ | ⟨i,h,au⟩
   .omega
   .cases hv
   .rcases Ub i np with av | hge
    .exact .inl ⟨i,g,av,(ok.after.same i av).symm.trans au,hv⟩
    .exact ok.after.new i g b hge au hv
theorem Le.refl (np:Nat) (st:St):Le np st st:=λ _ _ _ T M _ _ ok hn=>⟨T,M,ok,hn⟩
variable {P:Program} {Q:Ea->St->Prop} {a:Cr} {af:List (List Nat)} {h:List (Nat × Option AD)} {hs':List (Option AD)} {n np sz:Nat} {ops:List CG} {res:AV} {st:St} {t:List (Nat × AV)}
theorem VI {id:Nat} {op:E6} {xs:List AV} {h:Nat->Option AD} {K1 K2:AV->List Nat->List (Nat × Option AD)->Prop} (hk:∀ a b c,K1 a b c->K2 a b c):aK P np id op xs h K1->aK P np id op xs h K2:=by
 by_cases q:∃ s b x y,op = .app s b/\xs=[x,y]/\¬ ∃ i o l c,x=AV.rk i o l c
 .obtain ⟨s,b,x,y,rfl,rfl,hx⟩:=q
  simp only[JN hx]
  rintro⟨a,b,c,d,e,f,u⟩
  exact⟨a,b,c,d,e,f,hk _ _ _ u⟩
 unfold aK;split<;>intro hx
 all_goals first
  | (exfalso;exact q ⟨_,_,_,_,rfl,rfl,λ ⟨_,_,_,_,e⟩=>by subst e;simp_all⟩)
  | exact hx
  | exact hk _ _ _ hx
  | skip
 all_goals try (obtain⟨a1,hx⟩:=hx;first | exact⟨a1,hk _ _ _ hx⟩ | skip)
 all_goals try (obtain⟨a2,hx⟩:=hx;first | exact⟨a1,a2,hk _ _ _ hx⟩ | skip)
 all_goals try (obtain⟨a3,hx⟩:=hx;first | exact⟨a1,a2,a3,hk _ _ _ hx⟩ | skip)
 all_goals try (obtain⟨a4,hx⟩:=hx;first | exact⟨a1,a2,a3,a4,hk _ _ _ hx⟩ | skip)
 all_goals try (obtain⟨a5,hx⟩:=hx;first | exact⟨a1,a2,a3,a4,a5,hk _ _ _ hx⟩ | skip)
 all_goals try (obtain⟨a6,hx⟩:=hx;first | exact⟨a1,a2,a3,a4,a5,a6,hk _ _ _ hx⟩ | skip)
 all_goals try (obtain⟨a7,hx⟩:=hx;first | exact⟨a1,a2,a3,a4,a5,a6,a7,hk _ _ _ hx⟩ | skip)
 all_goals try (obtain⟨a8,hx⟩:=hx;first | exact⟨a1,a2,a3,a4,a5,a6,a7,a8,hk _ _ _ hx⟩ | skip)
 all_goals try exact⟨a1,a2,a3,a4,a5,a6,a7,a8,hx.1,hk _ _ _ hx.2⟩
 .obtain ⟨h1,h2,hx⟩:=hx
  refine⟨a1,a2,a3,a4,a5,a6,a7,a8,h1,h2,?_⟩;split at hx
  .exact ⟨hx.1,hx.2.1,hx.2.2.1,hk _ _ _ hx.2.2.2⟩
  .exact ⟨hx.1,hx.2.1,hx.2.2.1,hk _ _ _ hx.2.2.2⟩
  .exact ⟨hx.1,hx.2.1,hx.2.2.1,hx.2.2.2.1,hk _ _ _ hx.2.2.2.2⟩
  .exact ⟨hx.1,hx.2.1,hk _ _ _ hx.2.2⟩
  .exact hx
 .obtain ⟨h1,h2,h3,h4,h5,h6,h7,hx⟩:=hx
  exact⟨a1,a2,a3,a4,a5,a6,a7,a8,h1,h2,h3,h4,h5,h6,h7,hk _ _ _ hx⟩
 rotate_left
 .obtain ⟨h1,h2,h3,h4,h5,h6,h7,h8,h9,hx⟩:=hx
  exact⟨a1,a2,a3,a4,a5,a6,a7,a8,h1,h2,h3,h4,h5,h6,h7,h8,h9,hk _ _ _ hx⟩
 .obtain ⟨h1,hx⟩:=hx
  refine⟨a1,a2,a3,a4,a5,a6,a7,a8,h1,?_⟩;split at hx<;>rename_i hc
  .rw [if_pos hc];exact hk _ _ _ hx
  .rw [if_neg hc];exact hk _ _ _ hx
theorem FD:∀ (ops:List CG) (n i:Nat) (st:St) (tr:List (List Nat × List Nat)) (K K':St->List (List Nat × List Nat)->Prop),(∀ s t,K s t->K' s t)->Bt P np n i ops st tr K->Bt P np n i ops st tr K':=by
 intro ops
 induction ops with
 | nil=>intro n i st tr K K' hK h;exact hK _ _ h
 | cons o os ih =>
   intro n i st tr K K' hK h
   have q:∀ (op:E6) (xs:List AV) (h:Nat->Option AD) (K1 K2:AV->List Nat->List (Nat × Option AD)->Prop),(∀ a b c,K1 a b c->K2 a b c)->aK P np (n+8*i) op xs h K1->aK P np (n+8*i) op xs h K2:=by
    intro op xs h K1 K2 hk hx;exact VI hk hx
   unfold Bt at h ⊢
   cases hg:o.guard with
   | none =>
     simp only[hg] at h ⊢;exact q _ _ _ _ _ (λ v rd up hh=>ih _ _ _ _ _ _ hK hh) h
   | some gw =>
     obtain⟨g,want⟩:=gw;simp only[hg] at h ⊢;obtain⟨b,hb,h⟩:=h;refine⟨b,hb,?_⟩
     by_cases u:b=some want
     .rw [if_pos u] at h ⊢
      exact q _ _ _ _ _ (λ v rd up hh=>ih _ _ _ _ _ _ hK hh) h
     .rw [if_neg u] at h ⊢
      exact ih _ _ _ _ _ _ hK h
theorem Ec:∀ {c:Cr} {Q Q':Ea->St->Prop} {st:St},(∀ e s,Q e s->Q' e s)->AY P np c Q st->AY P np c Q' st:=by
 intro c
 induction c with
 | skip=>intro Q Q' st h;exact h _ _
 | reg draw ops after =>
   intro Q Q' st h hw;refine⟨hw.1,?_⟩;exact FD _ _ _ _ _ _ _ (λ s t h2=>⟨h2.1,h _ _ h2.2⟩) hw.2
 | seq a b iha ihb =>
   intro Q Q' st h hw;refine iha (λ e s hs=>?_) hw
   cases e with
   | normal=>obtain⟨st2,q,h2⟩:=hs;exact⟨st2,q,ihb h h2⟩
   | exit id=>exact h _ _ hs
   | ret=>exact h _ _ hs
 | cond c a b iha ihb =>
   intro Q Q' st h hw;obtain⟨t,ht,hw⟩:=hw;refine⟨t,ht,?_⟩
   cases t
   .exact ihb h hw
   .exact iha h hw
 | block id a iha =>
   intro Q Q' st h hw;refine iha (λ e s hs=>?_) hw
   cases e with
   | normal=>exact h _ _ hs
   | exit id' =>
     simp only at hs ⊢
     by_cases hi:id'=id
     .rw [if_pos hi] at hs ⊢;exact h _ _ hs
     .rw [if_neg hi] at hs ⊢;exact h _ _ hs
   | ret=>exact h _ _ hs
 | loop a iha =>
   intro Q Q' st h hw;obtain⟨I,hI,hb⟩:=hw;refine⟨I,hI,λ k s hk=>iha (λ e s hs=>?_) (hb k s hk)⟩
   cases e with
   | normal=>exact hs
   | exit id=>exact h _ _ hs
   | ret=>exact h _ _ hs
 | exit id=>intro Q Q' st h;exact h _ _
 | ret=>intro Q Q' st h;exact h _ _
 | bad=>intro Q Q' st _ h;exact h
theorem AB {b:Cr} (h:AY P np a (λ e st'=>match e with | .normal=>AY P np b Q st' | e=>Q e st') st):AY P np (.seq a b) Q st:=by
 show AY P np a _ st;refine Ec (λ e s hs=>?_) h
 cases e with
 | normal=>exact⟨s,Le.refl _ _,hs⟩
 | exit id=>exact hs
 | ret=>exact hs
theorem An {ι:Type} (C:ι->St) (I:ι->Prop) (m:ι->Nat) (i0:ι) (h0:I i0) (q:Le np st (C i0)) (hb:∀ i,I i->AY P np a (λ e st'=>match e with | .normal=>∃ j,I j/\m j<m i/\Le np st' (C j) | e=>Q e st') (C i)):AY P np (.loop a) Q st:=by
 refine⟨λ k s=>∃ i,I i/\m i=k/\s=C i,⟨_,_,q,i0,h0,rfl,rfl⟩,?_⟩
 rintro k s ⟨i,hi,rfl,rfl⟩
 refine Ec (λ e s hs=>?_) (hb i hi)
 cases e with
 | normal=>obtain⟨j,hj,hm,hl⟩:=hs;exact⟨_,_,hl,⟨j,hj,rfl,rfl⟩,hm⟩
 | exit id=>exact hs
 | ret=>exact hs
theorem Le.lst {st':St} (ρ:List (Nat × Nat)) (sn:List Nat) (nl:List (Nat × Nat)) (h7:st'.sz=st.sz) (h0:(ρ.map (·.1)).Nodup) (h1:(ρ.map (·.2)).Nodup) (h2:∀ p∈ρ,p.2<st'.n/\(p.2<np->p.1=p.2)) (h3:∀ p∈nl,np<=p.1/\p.1<st'.n/\p.1∉ρ.map (·.2)/\p.2≠0) (h4:∀ i∈sn,np<=i/\i∉ρ.map (·.1)) (h5:np<=st'.n) (h6:(nl.map (·.1)).Nodup) (ht:∀ p∈st'.t,Up nl (conv ρ sn st.hp 4 (st.get p.1)) p.2) (hh:∀ p∈st'.h,∀ e',p.2=some e'->(∃ q∈ρ,q.2=p.1 /\ ∃ e,st.hp q.1=some e/\A7 nl (AX ρ sn st.hp 4 e) e')∨((p.1,e'.s)∈nl/\e'.rows=[]/\e'.ro=0)):Le np st st':=by
 refine Le.mk ρ sn nl h7 h0 h1 h2 h3 h4 h5 h6 (λ i=>?_) λ id' e' u=>?_
 .unfold St.get at *
  cases hl:AW st'.t i with
  | none=>exact .inl (.dead _)
  | some v=>exact ht _ (DW hl)
 .unfold St.hp at u
  cases hl:AW st'.h id' with
  | none=>rw[hl] at u;cases u
  | some v =>
    rw[hl] at u;rcases hh _ (DW hl) e' u with ⟨q,hq,hq2,e,he,h⟩ | h
    .obtain ⟨q1,q2⟩:=q
     simp only at hq2;subst hq2;exact .inl ⟨q1,e,hq,he,h⟩
    .exact .inr h
theorem Le.slots {st':St} (q:st'.sz=st.sz) (hh:st'.h=[]) (ht:∀ p∈st'.t,Wk (conv [] [] st.hp 4 (st.get p.1)) p.2):Le 0 st st' :=
 Le.lst [] [] [] q zz zz zz zz zz (Qk _) zz (λ p hp=>.inl (ht p hp)) (by simp[hh])
def Src (P:Program) (f:FuncId) (af:B6):Prop:=P.follows .mixedOrders=true /\ ∃ fn,P.funcs[f]? = some fn/\Jg P fn=some af/\fn.name ≠ "runtime.NumGoroutine"
theorem Src.acalls {f:FuncId} {af:B6} (s:Src P f af) {args:List AV} {hs:List AD} (h0:args.length<=af.nt) (u:hs.length<=16) (q:hs.length<=hs'.length) (h:AY P hs.length af.code (λ e st=>(e = .normal∨e = .ret)/\AO af.res hs.length st res hs') (Fv af args hs)):CF P f args hs res hs':=by
 obtain⟨hm,fn,hf,hc,hn⟩:=s;exact aJ hm hf hc hn h0 u q h
theorem AO.one {t:Nat} (h:Wk (conv [] [] st.hp 4 (st.get t)) res):AO [(t,none)] 0 st res [] :=
 ⟨[st.get t],rfl,[],[],zz,zz,zz,h,rfl⟩
theorem Src.ac {f:FuncId} {af:B6} (s:Src P f af) {args:List AV} {hs:List AD} (h:AY P hs.length af.code (λ e st=>(e = .normal∨e = .ret)/\AO af.res hs.length st res hs') (Fv af args hs)) (h0:args.length<=af.nt:=by exact Ar rfl) (u:hs.length<=16:=by exact Ar rfl) (q:hs.length<=hs'.length:=by first | exact Qf _ | exact Qk _):CF P f args hs res hs':=s.acalls h0 u q h
theorem Bg {t:Nat} (h:Wk (conv [] [] st.hp 4 (st.get t)) res:=by simp):AY Tryz.prog 0 .ret (λ e st=>(e = .normal∨e = .ret)/\AO [(t,none)] 0 st res []) st:=⟨.inr rfl,AO.one h⟩
theorem Ab (hd:(ops.all λ o=>o.dst.all (· < sz))=true) (ho:Bt P np n 0 ops ⟨sz,t,h,n⟩ [] λ st' _=>Q .normal ⟨st'.sz,st'.t,st'.h,n+8*ops.length⟩):AY P np (.reg false ops af) Q ⟨sz,t,h,n⟩:=by
 refine⟨hd,?_⟩
 have:(λ (st':St) (tr:List (List Nat × List Nat))=>Q .normal ⟨st'.sz,st'.t,st'.h,n+8*ops.length⟩)=λ st' tr=>(false=true->F3 ops af tr=true)/\Q .normal { st' with n:=(⟨sz,t,h,n⟩:St).n+8*ops.length }:=by
  funext st' tr
  simp
 rw[<- this];exact ho
theorem Ay (s:St) (hd:(ops.all λ o=>o.dst.all (· < sz))=true) (ho:Bt P np n 0 ops ⟨sz,t,h,n⟩ [] λ st' _=>(⟨st'.sz,st'.t,st'.h,n+8*ops.length⟩:St)=s) (hq:Q .normal s):AY P np (.reg false ops af) Q ⟨sz,t,h,n⟩:=by
 refine Ab hd (FD _ _ _ _ _ (λ st' _=>(⟨st'.sz,st'.t,st'.h,n+8*ops.length⟩:St)=s) _ (λ st' _ h=>?_) ho);subst h;exact hq
theorem AT {s:St} (hq:Q .normal s) (hd:(ops.all λ o=>o.dst.all (· < sz))=true:=by rfl) (ho:Bt P np n 0 ops ⟨sz,t,h,n⟩ [] (λ st' _=>(⟨st'.sz,st'.t,st'.h,n+8*ops.length⟩:St)=s):=by simp;rfl):AY P np (.reg false ops af) Q ⟨sz,t,h,n⟩:=Ay s hd ho hq
theorem Cx (hd:(ops.all λ o=>o.dst.all (· < sz))=true) (ho:Bt P np n 0 ops ⟨sz,t,h,n⟩ [] λ st' tr=>F3 ops af tr=true/\Q .normal ⟨st'.sz,st'.t,st'.h,n+8*ops.length⟩):AY P np (.reg true ops af) Q ⟨sz,t,h,n⟩:=by
 refine⟨hd,?_⟩
 have:(λ (st':St) (tr:List (List Nat × List Nat))=>F3 ops af tr=true/\Q .normal ⟨st'.sz,st'.t,st'.h,n+8*ops.length⟩)=λ st' tr=>(true=true->F3 ops af tr=true)/\Q .normal { st' with n:=(⟨sz,t,h,n⟩:St).n+8*ops.length }:=by
  funext st' tr
  simp
 rw[<- this];exact ho
theorem AE {c:Da} {b:Cr} (t:Bool) (hc:c.ev st.get = .sc (.bool t)) (h1:t=true->AY P np a Q st) (h2:t=false->AY P np b Q st):AY P np (.cond c a b) Q st:=by
 refine⟨t,hc,?_⟩
 cases t
 .exact h2 rfl
 .exact h1 rfl
theorem Hd {s:St} {tr:List (List Nat × List Nat)} (hd:(ops.all λ o=>o.dst.all (· < sz))=true) (ho:Bt P np n 0 ops ⟨sz,t,h,n⟩ [] λ st' tr'=>(⟨st'.sz,st'.t,st'.h,n+8*ops.length⟩:St)=s/\tr'=tr) (hr:F3 ops af tr=true) (hq:Q .normal s):AY P np (.reg true ops af) Q ⟨sz,t,h,n⟩:=by
 refine Cx hd (FD _ _ _ _ _ (λ st' tr'=>(⟨st'.sz,st'.t,st'.h,n+8*ops.length⟩:St)=s/\tr'=tr) _ (λ st' tr' h=>?_) ho);obtain⟨rfl,rfl⟩:=h;exact⟨hr,hq⟩
theorem AG (h:Q .normal st):AY P np .skip Q st:=h
theorem Am (h:Q .ret st):AY P np .ret Q st:=h
theorem Ak {id:Nat} (h:Q (.exit id) st):AY P np (.exit id) Q st:=h
theorem Al {i:Nat} {a b:Prop} (h:a):if i=i then a else b:=by rw[if_pos rfl];exact h
theorem IE {i j:Nat} {a b:Prop} (hn:i≠j) (h:b):if i=j then a else b:=by rw[if_neg hn];exact h
theorem AI {id:Nat} (h:AY P np a (λ e st'=>match e with | .exit id'=>if id'=id then Q .normal st' else Q (.exit id') st' | e=>Q e st') st):AY P np (.block id a) Q st:=h
theorem EL {b:Cr} {ι:Type} (C:ι->St) (I:ι->Prop) (ha:AY P np a (λ e st'=>match e with | .normal=>∃ j,I j/\Le np st' (C j) | e=>Q e st') st) (hb:∀ j,I j->AY P np b Q (C j)):AY P np (.seq a b) Q st:=by
 show AY P np a _ st;refine Ec (λ e s hs=>?_) ha
 cases e with
 | normal=>obtain⟨j,hj,hl⟩:=hs;exact⟨C j,hl,hb j hj⟩
 | exit id=>exact hs
 | ret=>exact hs
theorem Bm {b:Cr} (C:St) (ha:AY P np a (λ e st'=>match e with | .normal=>Le np st' C | e=>Q e st') st) (hb:AY P np b Q C):AY P np (.seq a b) Q st :=
 EL (ι:=Unit) (λ _=>C) (λ _=>True) (Ec (λ e s h=>by cases e with | normal=>exact⟨(),trivial,h⟩ | exit i=>exact h | ret=>exact h) ha) λ _ _=>hb
theorem BR {rs:List (Nat × Option (Bool × Nat))} (h:AO rs np st res hs'):AY Tryz.prog np .ret (λ e st=>(e = .normal∨e = .ret)/\AO rs np st res hs') st:=⟨.inr rfl,h⟩
variable {K:AV->List Nat->List (Nat × Option AD)->Prop} {P:Program} {Q:Ea->St->Prop} {af:List (List Nat)} {args aA aE cs first xs:List AV} {aD c j l np off s sz:Nat} {f:FuncId} {g:Nat->AV} {h:List (Nat × Option AD)} {k k':IntKind} {n:Int} {aH:Bool} {ops:List CG} {res v x y:AV} {rows:List (List AV)} {t:List (Nat × AV)} {z:List Value}
section
variable {P:Program} {np id:Nat} {h:Nat->Option AD} {K:AV->List Nat->List (Nat × Option AD)->Prop}
@[simp] theorem gX:aK P np id .mv [x] h K=K x [] []:=(rfl)
@[simp] theorem yK {t:Bool} {a b:AV}:aK P np id .pick [.sc (.bool t),a,b] h K=K (if t then a else b) [] []:=by
 refine propext ⟨?_,λ hk=>⟨t,rfl,hk⟩⟩
 rintro⟨t',ht,hk⟩
 cases ht;exact hk
@[simp] theorem zz6:aK P np id (.alloc z) [] h K=K (.pt id 0 0) [] [(id,some { s:=z.length,rows:=[z.map .sc] })]:=(rfl)
@[simp] theorem y7:aK P np id (.box s) [x] h K = ∃ cs,cellsOf x=some cs/\cs.length=s/\K (.pt id 0 0) [] [(id,some { s:=s,rows:=[cs] })]:=(rfl)
@[simp] theorem zAl {z ps xs}:aK P np id (.build z ps) xs h K = ∃ cs,GW (z.map .sc) ps xs=some cs/\K (.agg cs) [] []:=(rfl)
@[simp] theorem zBl {s len z ps xs}:aK P np id (.bsl s len z ps) xs h K = ∃ rows,GC s (List.replicate len (z.map .sc)) ps xs=some rows/\z.length=s/\K (.rs id 0 len) [] [(id,some { s:=s,rows:=rows })]:=(rfl)
@[simp] theorem w9:aK P np id (.ld true s) [x] h K = ∃ cs,EQ h x=some cs/\s<=cs.length/\K (.agg (cs.take s)) (Bw x) []:=(rfl)
@[simp] theorem xZ:aK P np id (.ld false s) [x] h K = ∃ cs,EQ h x=some cs/\s<=cs.length/\K (cs.headD .dead) (Bw x) []:=(rfl)
@[simp] theorem aW {i k:Nat}:aK P np id (.st s) [.pt i k j,x] h K = ∃ e row cs,h i=some e/\e.rows[k]? = some row/\e.ro<=k/\cellsOf x=some cs/\cs.length=s/\j+s<=row.length /\
   K .dead [i] [(i,some { e with rows:=e.rows.set k (Ae row j cs) })]:=(rfl)
@[simp] theorem xO {i k:Nat}:aK P np id .nil [.pt i k j] h K=K (.pt i k j) [] []:=propext ⟨λ h=>h.2,λ h=>⟨trivial,h⟩⟩
@[simp] theorem zzW:aK P np id .nil [.pv cs] h K=K (.pv cs) [] []:=propext ⟨λ h=>h.2,λ h=>⟨trivial,h⟩⟩
@[simp] theorem xV {op:BinOp} {a b:Value}:aK P np id (.bin op) [.sc a,.sc b] h K = ∃ v,Aq op a b=some v/\K (.sc v) [] []:=(rfl)
@[simp] theorem xI {a b:Bool}:aK P np id (.beq aH) [.sc (.bool a),.sc (.bool b)] h K=K (.sc (.bool ((a == b) != aH))) [] []:=(rfl)
def IR (o:Option Bool) (aH:Bool) (K:AV->List Nat->List (Nat × Option AD)->Prop):Prop:=∃ b,o=some b/\K (.sc (.bool (b != aH))) [] []
@[simp] theorem xE {ks:List Nat} {ys:List AV}:aK P np id (.aeq aH ks) [.agg xs,.agg ys] h K=IR (C6 ks xs ys) aH K:=(rfl)
@[simp] theorem yU {b:Bool}:IR (some b) aH K=K (.sc (.bool (b != aH))) [] []:=by simp[IR]
@[simp] theorem yM {f:Bool} {row:List AV}:aK P np id (.snil aH) [.vs s f (row::rows)] h K=K (.sc (.bool aH)) [] []:=(rfl)
@[simp] theorem zI {a:Option Addr}:aK P np id (.snil aH) [.sc (.slice a l c)] h K=K (.sc (.bool (a.isNone != aH))) [] []:=(rfl)
@[simp] theorem yX {i len:Nat}:aK P np id (.clr s z) [.rs i off len] h K = ∃ e,h i=some e/\e.s=s/\z.length=s/\e.ro<=off/\off+len<=e.rows.length /\
   K .dead [i] [(i,some { e with rows:=e.rows.take off++List.replicate len (z.map .sc)++e.rows.drop (off+len) })]:=(rfl)
@[simp] theorem oK {op:UnOp} {a:Value}:aK P np id (.un op) [.sc a] h K = ∃ v,It op a=some v/\K (.sc v) [] []:=(rfl)
@[simp] theorem w8:aK P np id (.cvt k) [.sc (.int k' n)] h K=K (.sc (.int k (k.wrap n))) [] []:=(rfl)
@[simp] theorem xA:aK P np id .b2s [x] h K = ∃ rows bs,Ch 1 h x=some rows/\Hj rows=some bs/\K (.sc (.string ⟨bs.toArray⟩)) (Bw x) []:=(rfl)
@[simp] theorem xC {t:TypeId}:aK P np id (.mki t) [x] h K=K (.ifc t x) [] []:=(rfl)
@[simp] theorem wW {t:TypeId}:aK P np id .nil [.ifc t x] h K=K (.ifc t x) [] []:=propext ⟨λ h=>h.2,λ h=>⟨trivial,h⟩⟩
@[simp] theorem w5:aK P np id (.mkf f) xs h K=K (.fn (.func f) [] xs) [] []:=(rfl)
@[simp] theorem y8:aK P np id (.mkb f) xs h K=K (.fn (.func f) xs []) [] []:=(rfl)
@[simp] theorem zP {s aD z k k' l c}:aK P np id (.mks s aD z) [.sc (.int k l),.sc (.int k' c)] h K=(0<=l/\l<=c/\c*aD<=140737488355328/\c<=140737488355328/\z.length=s /\
   K (.rs id 0 l.toNat) [] [(id,some { s:=s,rows:=List.replicate l.toNat (z.map .sc) })]):=(rfl)
theorem GU {lo hi mx:Bool} {bs:List AV}:aK P np id (.slc s lo hi mx) (x::bs) h K = ∃ l r m:Nat,∃ n,lenOf x=some n/\l<=r /\
        bs=(if lo then [AV.I l] else [])++(if hi then [AV.I r] else [])++(if mx then [AV.I m] else [])/\(lo=false->l=0)/\(hi=false->r=n)/\(mx=true->hi=true) /\
        match x with
        | .vs s' f rows=>r<=n/\(mx=true->m=r)/\s'=s/\K (.vs s (mx || (f && !hi)) ((rows.drop l).take (r - l))) [] []
        | .rs i off _=>r<=n/\mx=false/\(∃ e,h i=some e/\e.s=s)/\K (.rs i (off+l) (r - l)) [i] []
        | .rk i off _ c=>r<=m/\m<=c/\(mx=false->m=c)/\(∃ e,h i=some e/\e.s=s)/\K (.rk i (off+l) (r - l) (m - l)) [i] []
        | .sc (.slice none 0 0)=>r<=n/\(mx=true->m=r)/\K .nilS [] []
        | _=>False:=(rfl)
@[simp] theorem zY {i len:Nat}:aK P np id .cap [.rk i off len c] h K=K (AV.I c) [] []:=(rfl)
@[simp] theorem zJ {i len:Nat}:aK P np id (.app s aD) [.rk i off len c,y] h K = ∃ new e,Ch s h y=some new/\h i=some e/\e.s=s/\off+len<=e.rows.length/\e.ro<=off+len/\(len+new.length)*aD<=140737488355328/\len+new.length<=140737488355328 /\
   if len+new.length<=c then K (.rk i off (len+new.length) c) (i::Bw y) [(i,some { e with rows:=e.rows.take (off+len)++new++e.rows.drop (off+len+new.length) })]
   else K (.rs id 0 (len+new.length)) (i::Bw y) [(id,some { s:=s,rows:=(e.rows.drop off).take len++new,ro:=0 })]:=(rfl)
@[simp] theorem zAX {i len:Nat}:aK P np id (.cpy s) [.rk i off len c,y] h K = ∃ e new m,h i=some e/\e.s=s/\e.ro<=off/\off<=e.rows.length/\lenOf y=some m/\Ch s h (D7 (min m len) y)=some new /\
   K (AV.I (min m len:Nat)) (i::Bw y) [(i,some { e with rows:=e.rows.take off++new++e.rows.drop (off+min m len) })]:=(rfl)
@[simp] theorem zAx {i len:Nat}:aK P np id (.clr s z) [.rk i off len c] h K = ∃ e,h i=some e/\e.s=s/\z.length=s/\e.ro<=off/\off+len<=e.rows.length /\
   K .dead [i] [(i,some { e with rows:=e.rows.take off++List.replicate len (z.map .sc)++e.rows.drop (off+len) })]:=(rfl)
@[simp] theorem wR:aK P np id .cap [.sc (.slice none 0 0)] h K=K (AV.I 0) [] []:=(rfl)
@[simp] theorem zAS:aK P np id (.apz s aD z) [.sc (.slice none 0 0),.sc (.int k n)] h K=(z.length=s/\0<n/\n.toNat*aD<=140737488355328/\n.toNat<=140737488355328 /\
   K (.rs id 0 n.toNat) [] [(id,some { s:=s,rows:=List.replicate n.toNat (z.map .sc),ro:=0 })]):=(rfl)
@[simp] theorem zBd {i len:Nat}:aK P np id (.apz s aD z) [.rk i off len c,.sc (.int k n)] h K = ∃ e,h i=some e/\e.s=s/\z.length=s/\off+len<=e.rows.length/\0<n/\c<len+n.toNat/\(len+n.toNat)*aD<=140737488355328/\len+n.toNat<=140737488355328 /\
   K (.rs id 0 (len+n.toNat)) [i] [(id,some { s:=s,rows:=(e.rows.drop off).take len++List.replicate n.toNat (z.map .sc),ro:=0 })]:=(rfl)
@[simp] theorem yZ {s' i len:Nat} {f:Bool}:aK P np id (.ovl s) [.vs s' f rows,.rk i off len c] h K = ∃ e,h i=some e/\s'=s/\e.s=s/\e.ro<=off/\K (.sc (.bool false)) [i] []:=(rfl)
@[simp] theorem wU {n:Nat} {f:Bool}:D7 n (.vs s f rows) = .vs s false (rows.take n):=(rfl)
@[simp] theorem yB {n id len:Nat}:D7 n (.rs id off len) = .rs id off (min n len):=(rfl)
@[simp] theorem zz7 {n id len:Nat}:D7 n (.rk id off len c) = .rk id off (min n len) c:=(rfl)
@[simp] theorem zAM:aK P np id (.fad off) [.pv cs] h K=(off<=cs.length/\K (.pv (cs.drop off)) [] []):=(rfl)
@[simp] theorem yA {i k:Nat}:aK P np id (.fad off) [.pt i k j] h K=K (.pt i k (j+off)) [] []:=(rfl)
@[simp] theorem zAR:aK P np id (.fld true off s) [.agg cs] h K=(off+s<=cs.length/\K (.agg ((cs.drop off).take s)) [] []):=(rfl)
@[simp] theorem w7:aK P np id (.fld false off s) [.agg cs] h K=(off+s<=cs.length/\K (cs.getD off .dead) [] []):=(rfl)
@[simp] theorem zAO {s':Nat} {f:Bool}:aK P np id (.iad s) [.vs s' f rows,.sc (.int k n)] h K=(s'=s/\0<=n /\ ∃ row,rows[n.toNat]? = some row/\K (.pv row) [] []):=(rfl)
@[simp] theorem yE {i len:Nat}:aK P np id (.iad s) [.rs i off len,.sc (.int k n)] h K=(0<=n/\n<len/\(∃ e,h i=some e/\e.s=s)/\K (.pt i (off+n.toNat) 0) [i] []):=(rfl)
@[simp] theorem zO {i k:Nat} {kd:IntKind}:aK P np id (.iaa l s) [.pt i k j,.sc (.int kd n)] h K=(0<=n/\n<l/\K (.pt i k (j+n.toNat*s)) [] []):=(rfl)
@[simp] theorem zAp {kd:IntKind}:aK P np id (.iaa l s) [.pv cs,.sc (.int kd n)] h K=(0<=n/\n<l/\l*s<=cs.length/\K (.pv (cs.drop (n.toNat*s))) [] []):=(rfl)
@[simp] theorem xG {b:ByteArray}:aK P np id .ixs [.sc (.string b),.sc (.int k n)] h K=(0<=n /\ ∃ c,b.data.toList[n.toNat]? = some c/\K (.sc (.int .u8 c.toNat)) [] []):=(rfl)
@[simp] theorem zBr:aK P np id (.ixv l) [.agg cs,.sc (.int k n)] h K=(0<=n/\n<l/\l<=cs.length/\K (cs.getD n.toNat .dead) [] []):=(rfl)
@[simp] theorem zBm {i:Nat} {vs:List AV}:aK P np id (.ext i) [.tup vs] h K = ∃ v,vs[i]? = some v/\K v [] []:=(rfl)
theorem Oj (hx:¬ ∃ i o l c,x = .rk i o l c):aK P np id (.app s aD) [x,y] h K=(∃ new old,Ch s h y=some new/\Dj s h new x=some old/\(old.1.length+new.length)*aD<=140737488355328 /\
   old.1.length+new.length<=140737488355328 /\
   K (.rs id 0 (old.1.length+new.length)) (Bw x++Bw y) ((id,some { s:=s,rows:=old.1++new,ro:=old.2.1 })::old.2.2)):=JN hx
@[simp] theorem zAu:aK P np id (.app s aD) [.nilS,y] h K = ∃ new,Ch s h y=some new/\new.length*aD<=140737488355328/\new.length<=140737488355328/\K (.rs id 0 new.length) (Bw y) [(id,some { s:=s,rows:=new,ro:=0 })]:=by
 rw[Oj zz]
 refine propext ⟨?_,?_⟩
 .rintro ⟨new,old,h1,h2,h3,h4,h5⟩
  cases h2;exact⟨new,h1,by simpa using h3,by simpa using h4,by simpa [Bw] using h5⟩
 .rintro ⟨new,h1,h3,h4,h5⟩
  exact⟨new,_,h1,rfl,by simpa using h3,by simpa using h4,by simpa [Bw] using h5⟩
@[simp] theorem yG {i len:Nat}:aK P np id (.app s aD) [.rs i off len,y] h K = ∃ new e,Ch s h y=some new/\h i=some e/\e.s=s/\off+len<=e.rows.length/\e.ro<=off+len/\(len+new.length)*aD<=140737488355328/\len+new.length<=140737488355328 /\
  K (.rs id 0 (len+new.length)) (i::Bw y) [(id,some { s:=s,rows:=(e.rows.drop off).take len++new,ro:=e.ro - off }),(i,none)]:=by
 rw[Oj zz]
 refine propext ⟨?_,?_⟩
 .rintro ⟨new,old,h1,h2,h3,h4,h5⟩
  simp only[Dj,Un] at h2;obtain⟨e,he,h2⟩:=h2;split at h2
  case isFalse=>cases h2
  rename_i hc
  cases h2;have hl:((e.rows.drop off).take len).length=len:=zw
  simp only[hl] at h3 h4 h5;exact⟨new,e,h1,he,hc.1,hc.2.1,hc.2.2,h3,h4,by simpa [Bw] using h5⟩
 .rintro ⟨new,e,h1,he,c1,c2,c3,h3,h4,h5⟩
  have hl:((e.rows.drop off).take len).length=len:=zw
  refine⟨new,((e.rows.drop off).take len,e.ro - off,[(i,none)]),h1,by simp[Dj,he,c1,c2,c3],by simpa only[hl] using h3,by simpa only[hl] using h4,?_⟩
  simpa [Bw,hl] using h5
@[simp] theorem y6:aK P np id (.app s aD) [.vs s true rows,y] h K = ∃ new,Ch s h y=some new/\(rows=[]∨new≠[])/\(rows.length+new.length)*aD<=140737488355328/\rows.length+new.length<=140737488355328 /\
  K (.rs id 0 (rows.length+new.length)) (Bw y) [(id,some { s:=s,rows:=rows++new,ro:=0 })]:=by
 rw[Oj zz]
 refine propext ⟨?_,?_⟩
 .rintro ⟨new,old,h1,h2,h3,h4,h5⟩
  simp only[Dj] at h2;split at h2
  case isFalse=>cases h2
  rename_i hc
  cases h2;exact⟨new,h1,hc.2,h3,h4,by simpa [Bw] using h5⟩
 .rintro ⟨new,h1,hc,h3,h4,h5⟩
  exact⟨new,(rows,0,[]),h1,by show (if s=s/\_ then _ else _)=_;rw[if_pos ⟨rfl,hc⟩],h3,h4,by simpa [Bw] using h5⟩
@[simp] theorem z1 {b:ByteArray}:aK P np id .apps [x,.sc (.string b)] h K=(∃ old,Dj 1 h (F4 b) x=some old/\old.1.length+b.size<=140737488355328 /\
   K (.rs id 0 (old.1.length+b.size)) (Bw x) ((id,some { s:=1,rows:=old.1++F4 b,ro:=old.2.1 })::old.2.2)):=(rfl)
@[simp] theorem yC:aK P np id .len [x] h K = ∃ n:Nat,lenOf x=some n/\K (AV.I n) [] []:=(rfl)
@[simp] theorem zAG {b:ByteArray}:aK P np id .lens [.sc (.string b)] h K=K (AV.I b.size) [] []:=(rfl)
@[simp] theorem xK {i len:Nat}:aK P np id (.cpy s) [.rs i off len,y] h K = ∃ e new,h i=some e/\e.s=s/\e.ro<=off/\off+len<=e.rows.length/\Ch s h y=some new /\
   K (AV.I (min new.length len:Nat)) (i::Bw y) [(i,some { e with rows:=e.rows.take off++new.take (min new.length len)++e.rows.drop (off+min new.length len) })]:=(rfl)
@[simp] theorem xJ:aK P np id .mkm [] h K=K (.mp id) [] [(id,some { s:=0,rows:=[] })]:=(rfl)
@[simp] theorem zU {z:Value} {i:Nat}:aK P np id (.mlk z false) [.mp i,.sc (.int .i64 n)] h K = ∃ e,h i=some e/\e.s=0/\K ((DT n e.rows).getD (Cc z)) [i] []:=(rfl)
@[simp] theorem zF {z:Value} {i:Nat}:aK P np id (.mlk z true) [.mp i,.sc (.int .i64 n)] h K = ∃ e,h i=some e/\e.s=0/\K (.tup [(DT n e.rows).getD (Cc z),.sc (.bool (DT n e.rows).isSome)]) [i] []:=(rfl)
@[simp] theorem xL {i:Nat}:aK P np id .mup [.mp i,.sc (.int .i64 n),x] h K = ∃ e,h i=some e/\e.s=0/\K .dead [i] [(i,some { e with rows:=Bb n x e.rows })]:=(rfl)
@[simp] theorem zW {i:Nat}:aK P np id .mdl [.mp i,.sc (.int .i64 n)] h K = ∃ e,h i=some e/\e.s=0/\K (.tup []) [i] [(i,some { e with rows:=C1 n e.rows,ro:=0 })]:=(rfl)
@[simp] theorem zL {a b:Int}:aK P np id .mx2 [.sc (.int k a),.sc (.int k' b)] h K=K (.sc (.int k (if a<b then b else a))) [] []:=(rfl)
@[simp] theorem zBt {a b:Int}:aK P np id .mn2 [.sc (.int k a),.sc (.int k' b)] h K=K (.sc (.int k (if b<a then b else a))) [] []:=(rfl)
end
section
variable {P:Program} {np n i:Nat} {os:List CG} {st:St} {tr:List (List Nat × List Nat)} {K:St->List (List Nat × List Nat)->Prop}
@[simp] theorem zR:Bt P np n i [] st tr K=K st tr:=(rfl)
@[simp] theorem zAT {d:Option Nat} {op:E6} {xs:List Da}:Bt P np n i (⟨d,op,xs,none⟩::os) st tr K=aK P np (n+8*i) op (xs.map (·.ev st.get)) st.hp λ v rd up=>Bt P np n (i+1) os ((st.put d v).upd up) (tr++[(rd,up.map (·.1))]) K:=(rfl)
def Fh (P:Program) (np n i:Nat) (b:Option (Option Bool)) (want:Bool) (d:Option Nat) (op:E6) (xs:List Da) (os:List CG) (st:St) (tr:List (List Nat × List Nat)) (K:St->List (List Nat × List Nat)->Prop):Prop :=
 ∃ c,b=some c/\if c=some want then aK P np (n+8*i) op (xs.map (·.ev st.get)) st.hp λ v rd up=>Bt P np n (i+1) os ((st.put d v).upd up) (tr++[(rd,up.map (·.1))]) K else Bt P np n (i+1) os (st.put d (.tup [])) (tr++[([],[])]) K
section
variable {d:Option Nat} {op:E6} {xs:List Da} {os:List CG}
@[simp] theorem o_g {g:Nat} {q:Bool}:Bt P np n i (⟨d,op,xs,some (g,q)⟩::os) st tr K=Fh P np n i (G8 (st.get g)) q d op xs os st tr K:=(rfl)
@[simp] theorem kQ:Fh P np n i (some (some true)) true d op xs os st tr K=aK P np (n+8*i) op (xs.map (·.ev st.get)) st.hp λ v rd up=>Bt P np n (i+1) os ((st.put d v).upd up) (tr++[(rd,up.map (·.1))]) K:=by simp[Fh]
@[simp] theorem fF:Fh P np n i (some (some false)) false d op xs os st tr K=aK P np (n+8*i) op (xs.map (·.ev st.get)) st.hp λ v rd up=>Bt P np n (i+1) os ((st.put d v).upd up) (tr++[(rd,up.map (·.1))]) K:=by simp[Fh]
@[simp] theorem cZ:Fh P np n i (some (some true)) false d op xs os st tr K=Bt P np n (i+1) os (st.put d (.tup [])) (tr++[([],[])]) K:=by simp[Fh]
@[simp] theorem mJ:Fh P np n i (some (some false)) true d op xs os st tr K=Bt P np n (i+1) os (st.put d (.tup [])) (tr++[([],[])]) K:=by simp[Fh]
@[simp] theorem Z9 {q:Bool}:Fh P np n i (some none) q d op xs os st tr K=Bt P np n (i+1) os (st.put d (.tup [])) (tr++[([],[])]) K:=by simp[Fh]
theorem DC {b w:Bool} (h1:b=true->Fh P np n i (some (some true)) w d op xs os st tr K) (h2:b=false->Fh P np n i (some (some false)) w d op xs os st tr K):Fh P np n i (some (some b)) w d op xs os st tr K:=by
 cases b
 .exact h2 rfl
 .exact h1 rfl
@[simp] theorem zA {b:Bool}:G8 (.sc (.bool b))=some (some b):=(rfl)
@[simp] theorem zA4:G8 (.tup [])=some none:=(rfl)
end
@[simp] theorem zBq {n:Nat} {i:Nat}:(⟨sz,[],h,n⟩:St).get i = .dead:=(rfl)
@[simp] theorem yV {n:Nat} {i:Nat}:(⟨sz,(j,v)::t,h,n⟩:St).get i=if j=i then v else (⟨sz,t,h,n⟩:St).get i:=by
 show (if j=i then some v else AW t i).getD .dead=if j=i then v else (AW t i).getD .dead
 split<;>rfl
@[simp] theorem wQ {n:Nat} {i:Nat}:(⟨sz,t,[],n⟩:St).hp i=none:=(rfl)
@[simp] theorem LQ {n:Nat} {i:Nat} {v:Option AD}:(⟨sz,t,(j,v)::h,n⟩:St).hp i=if j=i then v else (⟨sz,t,h,n⟩:St).hp i:=by
 show (if j=i then some v else AW h i).getD none=if j=i then v else (AW h i).getD none
 split<;>rfl
@[simp] theorem yI {n d:Nat}:(⟨sz,t,h,n⟩:St).put (some d) v=⟨sz,(d,v)::t,h,n⟩:=(rfl)
@[simp] theorem zAB:st.put none v=st:=(rfl)
@[simp] theorem wN {n:Nat}:(⟨sz,t,h,n⟩:St).upd []=⟨sz,t,h,n⟩:=(rfl)
@[simp] theorem wT {n:Nat} {us:List (Nat × Option AD)}:(⟨sz,t,h,n⟩:St).upd us=⟨sz,t,us++h,n⟩:=(rfl)
@[simp] theorem x9 {i:Nat}:Da.ev g (.t i)=g i:=(rfl)
@[simp] theorem w4 {n:Int}:Da.ev g (.c (.int k n)) = .sc (.int k n):=(rfl)
@[simp] theorem zB {b:Bool}:Da.ev g (.c (.bool b)) = .sc (.bool b):=(rfl)
@[simp] theorem wJ:Da.ev g (.f f) = .fn (.func f) [] []:=(rfl)
end
theorem FT:∀ (xs:List AV),DG xs xs
 | []=>trivial
 | x::xs=>⟨.refl x,FT xs⟩
theorem rJ {id:Nat} {h:Nat->Option AD} (hc:CF P f aA [] res []) (hw:DG ((first++args++aE).map (conv [] [] h 4)) aA) (hk:K (conv (((List.range 8).map (id + ·)).zipIdx.map λ (a,b)=>(b,a)) [] (λ _=>none) 4 res) [] []):aK P np id .call (.fn (.func f) first aE::args) h K :=
 ⟨[],[],true,aA,[],res,[],zz,zz,zz,hw,rfl,hc,zz,.inl rfl,hk⟩
theorem Cs {id:Nat} {h:Nat->Option AD} (f0:Nat) (hf:Nat.beq f f0=true) (hk:aK P np id .call (.fn (.func f0) first aE::args) h K):aK P np id .call (.fn (.func f) first aE::args) h K:=by
 have e:f=f0:=U7 hf;rw[e];exact hk
theorem Ah {id:Nat} {h:Nat->Option AD} (hc:CF P f aA [] res []) (he:(first++args++aE).map (conv [] [] h 4)=aA) (hk:K (conv (((List.range 8).map (id + ·)).zipIdx.map λ (a,b)=>(b,a)) [] (λ _=>none) 4 res) [] []):aK P np id .call (.fn (.func f) first aE::args) h K :=
 rJ hc (by rw[he];exact FT _) hk
theorem FZ {id:Nat} {h:Nat->Option AD} (sn:List Nat) (hc:CF P f aA [] res []) (he:(first++args++aE).map (conv [] sn h 4)=aA) (hp:Plain res) (hk:K (conv (((List.range 8).map (id + ·)).zipIdx.map λ (a,b)=>(b,a)) [] (λ _=>none) 4 res) sn []):aK P np id .call (.fn (.func f) first aE::args) h K :=
 ⟨[],sn,false,aA,[],res,[],zz,zz,zz,by rw[UO,he];exact FT _,rfl,hc,zz,.inr ⟨hp,zz⟩,hk⟩
@[simp] theorem wH:DG [] []=True:=(rfl)
@[simp] theorem zK {ys:List AV}:DG (x::xs) (y::ys)=(Wk x y/\DG xs ys):=(rfl)
attribute [simp] Wk.nil Wk.dead Wk.full
theorem I4 {x:Int} (h1 : -9223372036854775808<=x) (h2:x<9223372036854775808):IntKind.i64.wrap x=x:=by rw[IntKind.wrap_i64];omega
theorem Au {id:Nat} {h:Nat->Option AD} (hc:CF P f aA [] res []) (hk:K (conv (((List.range 8).map (id + ·)).zipIdx.map λ (a,b)=>(b,a)) [] (λ _=>none) 4 res) [] []) (he:(first++args++aE).map (conv [] [] h 4)=aA:=by simp):aK P np id .call (.fn (.func f) first aE::args) h K:=Ah hc he hk
theorem wq {k:Nat} (h:k<9223372036854775807:=by omega):IntKind.i64.wrap ((k:Int)+1)=((k+1:Nat):Int):=by rw[I4 zy zy];omega
theorem w6 {x:Int} (h1 : -9223372036854775808<=x:=by omega) (h2:x<9223372036854775808:=by omega):IntKind.i64.wrap x=x:=I4 h1 h2
attribute [simp] Aq It Wk.refl Ae C6
section
variable {s s' id i j off len n:Nat} {f:Bool} {rows new:List (List AV)} {cs xs ys:List AV} {h:Nat->Option AD} {ρ:List (Nat × Nat)} {sn:List Nat} {v:Value}
@[simp] theorem y9:lenOf (.vs s f rows)=some rows.length:=(rfl)
@[simp] theorem y5:lenOf (.rs id off len)=some len:=(rfl)
@[simp] theorem yJ:lenOf (.rk id off len c)=some len:=(rfl)
@[simp] theorem x8:Bw (.rk id off len c)=[id]:=(rfl)
@[simp] theorem zZ:cellsOf (.rk id off len c)=some [.rk id off len c]:=(rfl)
@[simp] theorem xY:Ch s h (.rk id off len c)=(h id).bind λ e=>if e.s=s/\off+len<=e.rows.length then some ((e.rows.drop off).take len) else none:=(rfl)
@[simp] theorem xT:lenOf .nilS=some 0:=(rfl)
@[simp] theorem zxj:EQ h (.pv cs)=some cs:=(rfl)
@[simp] theorem zxu:EQ h (.pt id i j)=(h id).bind λ e=>(e.rows[i]?).map (·.drop j):=(rfl)
@[simp] theorem zH:cellsOf (.agg cs)=some cs:=(rfl)
@[simp] theorem wF:cellsOf (.vs s f rows)=some [.vs s f rows]:=(rfl)
@[simp] theorem zE:cellsOf (.rs id off len)=some [.rs id off len]:=(rfl)
@[simp] theorem zxs:cellsOf (.pt id i j)=some [.pt id i j]:=(rfl)
@[simp] theorem wL:cellsOf (.pv cs)=some [.pv cs]:=(rfl)
@[simp] theorem xQ {n:Int}:cellsOf (.sc (.int k n))=some [.sc (.int k n)]:=(rfl)
@[simp] theorem xM {b:Bool}:cellsOf (.sc (.bool b))=some [.sc (.bool b)]:=(rfl)
@[simp] theorem yY {b:ByteArray}:cellsOf (.sc (.string b))=some [.sc (.string b)]:=(rfl)
@[simp] theorem wS:cellsOf .nilS=some [.nilS]:=(rfl)
@[simp] theorem xN {g:Fn}:cellsOf (.fn g xs ys)=some [.fn g xs ys]:=(rfl)
@[simp] theorem zzw:Bw (.vs s f rows)=[]:=(rfl)
@[simp] theorem zzr:Bw (.rs id off len)=[id]:=(rfl)
@[simp] theorem zzA:Bw (.pt id i j)=[id]:=(rfl)
@[simp] theorem wM:Bw (.pv cs)=[]:=(rfl)
@[simp] theorem zzG:Bw (.sc v)=[]:=(rfl)
@[simp] theorem wX:Ch s h (.vs s f rows)=some rows:=if_pos rfl
@[simp] theorem xB:Ch s h (.rs id off len)=(h id).bind λ e=>if e.s=s/\off+len<=e.rows.length then some ((e.rows.drop off).take len) else none:=(rfl)
@[simp] theorem yL:Ch s h .nilS=some []:=(rfl)
@[simp] theorem wO:Dj s h new .nilS=some ([],0,[]):=(rfl)
@[simp] theorem yF:Dj s h new (.rs id off len)=(h id).bind λ e=>if e.s=s/\off+len<=e.rows.length/\e.ro<=off+len then some ((e.rows.drop off).take len,e.ro - off,[(id,none)]) else none:=(rfl)
@[simp] theorem xR {n:Int}:Cc (.int k n) = .sc (.int k n):=(rfl)
@[simp] theorem wG {b:Bool}:Cc (.bool b) = .sc (.bool b):=(rfl)
@[simp] theorem zwq {b:ByteArray}:Cc (.string b) = .sc (.string b):=(rfl)
@[simp] theorem yH {a:Option Addr}:Cc (.slice a l c) = .sc (.slice a l c):=(rfl)
@[simp] theorem zzU:conv ρ sn h (n+1) (.vs s f rows) = .vs s f rows:=(rfl)
@[simp] theorem xW:conv ρ sn h (n+1) (.sc v) = .sc v:=(rfl)
@[simp] theorem wK:conv ρ sn h (n+1) (.pv cs) = .pv cs:=(rfl)
@[simp] theorem xU {α:Type} {i:Nat}:AW ([]:List (Nat × α)) i=none:=(rfl)
@[simp] theorem zAy {α:Type} {i j:Nat} {a:α} {l:List (Nat × α)}:AW ((j,a)::l) i=if j=i then some a else AW l i:=(rfl)
@[simp] theorem yO:conv ρ sn h (n+1) (.rs id off len)=(match AW ρ id with
   | some k=>.rs k off len
   | none =>
     if id∈sn then
      match h id with
      | some e=>if off+len<=e.rows.length then .vs e.s false (((e.rows.drop off).take len).map (·.map (conv [] sn h n))) else .dead
      | none=>.dead
     else .dead):=(rfl)
@[simp] theorem zzM:conv ρ sn h (n+1) (.rk id off len c)=(match AW ρ id with
   | some k=>.rs k off len
   | none =>
     if id∈sn then
      match h id with
      | some e=>if off+len<=e.rows.length then .vs e.s false (((e.rows.drop off).take len).map (·.map (conv [] sn h n))) else .dead
      | none=>.dead
     else .dead):=(rfl)
@[simp] theorem yP:conv ρ sn h (n+1) (.pt id i j)=(match AW ρ id with
   | some k=>.pt k i j
   | none =>
     if id∈sn then
      match h id with
      | some e=>match e.rows[i]? with | some row=>if j<=row.length then .pv ((row.drop j).map (conv [] sn h n)) else .dead | none=>.dead
      | none=>.dead
     else .dead):=(rfl)
@[simp] theorem xD {i:Nat}:conv ρ sn h (n+1) (.mp i)=(match AW ρ i with
 | some k=>.mp k
 | none=>.dead):=(rfl)
@[simp] theorem zzq:conv ρ sn h (n+1) (.agg cs) = .agg (cs.map (conv ρ sn h n)):=(rfl)
@[simp] theorem wI:conv ρ sn h (n+1) (.tup cs) = .tup (cs.map (conv ρ sn h n)):=(rfl)
end
def KG (ops:List CG) (af:List (List Nat)) (tr:List (List Nat × List Nat)):Prop:=F3 ops af tr=true
theorem Bv {n:Nat} {b:Cr} (s:St) (hd:(ops.all λ o=>o.dst.all (· < sz))=true) (ho:Bt P np n 0 ops ⟨sz,t,h,n⟩ [] λ st' _=>Le np ⟨st'.sz,st'.t,st'.h,n+8*ops.length⟩ s) (hq:AY P np b Q s):AY P np (.seq (.reg false ops af) b) Q ⟨sz,t,h,n⟩:=by
 show AY P np (.reg false ops af) (λ e st'=>match e with | .normal=>∃ st2,Le np st' st2/\AY P np b Q st2 | e=>Q e st') _
 exact Ab hd (FD _ _ _ _ _ _ _ (λ st' _ h=>⟨s,h,hq⟩) ho)
theorem Lp {n:Nat} {b:Cr} (s:St) (hd:(ops.all λ o=>o.dst.all (· < sz))=true) (ho:Bt P np n 0 ops ⟨sz,t,h,n⟩ [] λ st' tr=>KG ops af tr/\Le np ⟨st'.sz,st'.t,st'.h,n+8*ops.length⟩ s) (hq:AY P np b Q s):AY P np (.seq (.reg true ops af) b) Q ⟨sz,t,h,n⟩:=by
 show AY P np (.reg true ops af) (λ e st'=>match e with | .normal=>∃ st2,Le np st' st2/\AY P np b Q st2 | e=>Q e st') _
 exact Cx hd (FD _ _ _ _ _ _ _ (λ st' _ h=>⟨h.1,s,h.2,hq⟩) ho)
theorem arc {n:Nat} {b:Cr} (s:St) (ho:Bt P np n 0 ops ⟨sz,t,h,n⟩ [] λ st' _=>Le np ⟨st'.sz,st'.t,st'.h,n+8*ops.length⟩ s) (hq:AY P np b Q s) (hd:(ops.all λ o=>o.dst.all (· < sz))=true:=by rfl):AY P np (.seq (.reg false ops af) b) Q ⟨sz,t,h,n⟩:=Bv s hd ho hq
theorem Bi {n:Nat} {b:Cr} (s:St) (ho:Bt P np n 0 ops ⟨sz,t,h,n⟩ [] λ st' tr=>KG ops af tr/\Le np ⟨st'.sz,st'.t,st'.h,n+8*ops.length⟩ s) (hq:AY P np b Q s) (hd:(ops.all λ o=>o.dst.all (· < sz))=true:=by rfl):AY P np (.seq (.reg true ops af) b) Q ⟨sz,t,h,n⟩:=Lp s hd ho hq
theorem Le.snap {st st':St} (sn:List Nat) (q:st'.sz=st.sz) (hh:st'.h=[]) (ht:∀ p∈st'.t,Wk (conv [] sn st.hp 4 (st.get p.1)) p.2):Le 0 st st' :=
 Le.lst [] sn [] q zz zz zz zz zz (Qk _) zz (λ p hp=>.inl (ht p hp)) (by simp[hh])
theorem AZ {st st':St} (sn:List Nat) (ht:∀ p∈st'.t,Wk (conv [] sn st.hp 4 (st.get p.1)) p.2) (q:st'.sz=st.sz:=by rfl) (hh:st'.h=[]:=by rfl):Le 0 st st':=Le.snap sn q hh ht
variable {a res:AV} {e:AD} {hs':List (Option AD)} {st:St}
attribute [simp] GW GC EJ Fl DE AX Nat.succ_eq_add_one
@[simp] theorem yQ {g:Nat->AV} {a:Option Addr} {l c:Nat}:Da.ev g (.c (.slice a l c)) = .sc (.slice a l c):=(rfl)
@[simp] theorem zBf {g:Nat->AV} {b:ByteArray}:Da.ev g (.c (.string b)) = .sc (.string b):=(rfl)
theorem AO.out {rs:List (Nat × Option (Bool × Nat))} {vs:List AV} (ex sn:List Nat) (h1:EJ st rs=some vs) (h2:ex.Nodup) (h3:∀ i∈sn,i∉ex) (hw:Wk (conv ex.zipIdx sn st.hp 4 (DE vs)) res) (he:ex.map (λ i=>(st.hp i).map (AX ex.zipIdx sn st.hp 4))=hs'):AO rs 0 st res hs':=by
 refine⟨vs,h1,ex,sn,by simpa using h2,zz,λ i hi=>⟨h3 i hi,Qk _⟩,?_,?_⟩
 .simpa using hw
 .simpa using he
theorem B3 {rs:List (Nat × Option (Bool × Nat))} {vs:List AV} (ex sn:List Nat) (h1:EJ st rs=some vs:=by rfl) (h2:ex.Nodup:=by simp) (h3:∀ i∈sn,i∉ex:=by simp) (hw:Wk (conv ex.zipIdx sn st.hp 4 (DE vs)) res:=by simp) (he:ex.map (λ i=>(st.hp i).map (AX ex.zipIdx sn st.hp 4))=hs':=by simp[AC]):AY Tryz.prog 0 .ret (λ e st=>(e = .normal∨e = .ret)/\AO rs 0 st res hs') st:=⟨.inr rfl,AO.out ex sn h1 h2 h3 hw he⟩
theorem D5 {b a' b':AV} (h1:Wk a a') (h2:Wk b b'):Wk (.tup [a,b]) (.tup [a',b']) :=
 .tup _ _ rfl λ i=>match i with | 0=>h1 | 1=>h2 | _+2=>.refl _
theorem A0 {a b:Bool} (h:a=b):Wk (.B a) (.B b):=by subst h;exact .refl _
theorem lS {a b:Int} (h:a=b):Wk (.I a) (.I b):=by subst h;exact .refl _
theorem Eh {b:AV} (h:a=b):Wk a b:=by subst h;exact .refl _
theorem LP {P:Program} {f:FuncId} {s:Nat} {b:Bool} {hs:List AD} (h:∀ a c,CF P f [.sc (.slice a 0 c)] hs res hs'):CF P f [.vs s b []] hs res hs':=by
 refine⟨(h none 0).1,(h none 0).2.1,λ T M w vs h1 h2 h3 hr=>?_⟩;have q:=hr.2 0 zz
 have hv:∃ a c,vs.getD 0 undef = .slice a 0 c:=by
  generalize vs.getD 0 undef=v at q
  cases q;exact⟨_,_,rfl⟩
 obtain⟨a,c,hv⟩:=hv;refine(h a c).2.2 T M w vs h1 h2 h3 ⟨hr.1,λ i hi=>?_⟩;have:i=0:=by simpa using hi
 subst this;rw[hv];exact .sc _ _ rfl
theorem Rh {P:Program} {f:FuncId} {i off len:Nat} {args:List AV} {hs:List AD} (h:∀ c,len<=c->CF P f (.rk i off len c::args) hs res hs'):CF P f (.rs i off len::args) hs res hs':=by
 refine⟨(h len (Qf _)).1,(h len (Qf _)).2.1,λ T M w vs h1 h2 h3 hr=>?_⟩;have q:=hr.2 0 zz
 have hv:∃ a c,vs.getD 0 undef = .slice a len c/\len<=c/\Aj T w M (.rk i off len c) (.slice a len c):=by
  have e:(AV.rs i off len::args).getD 0 .dead = .rs i off len:=rfl;rw[e] at q;generalize vs.getD 0 undef=v at q
  cases q with
  | rs _ _ _ _ c a g hg hz hl hn hb=>exact⟨_,_,rfl,hl,.rk _ _ _ _ _ _ g hg hz hl hn hb⟩
 obtain⟨a,c,hv,u,h0⟩:=hv;refine(h c u).2.2 T M w vs h1 h2 h3 ⟨hr.1,λ j hj=>?_⟩
 cases j with
 | zero=>rw[hv];exact h0
 | succ j=>exact hr.2 (j+1) hj
theorem OU (hs:List AD):Gj (hs.map some)=C9 hs:=by
 funext k
 simp only[Gj,C9,QB]
 cases hs[k]?<;>rfl
def Cb (ids:List Nat) (id:Nat):List (Nat × Nat):=(ids++(List.range 8).map (id + ·)).zipIdx.map λ (a,b)=>(b,a)
@[simp] theorem mB {id:Nat}:Cb [] id=[(0,id),(1,id+1),(2,id+2),(3,id+3),(4,id+4),(5,id+5),(6,id+6),(7,id+7)]:=(rfl)
@[simp] theorem rD {a id:Nat}:Cb [a] id=[(0,a),(1,id),(2,id+1),(3,id+2),(4,id+3),(5,id+4),(6,id+5),(7,id+6),(8,id+7)]:=(rfl)
@[simp] theorem fN {a b id:Nat}:Cb [a,b] id=[(0,a),(1,b),(2,id),(3,id+1),(4,id+2),(5,id+3),(6,id+4),(7,id+5),(8,id+6),(9,id+7)]:=(rfl)
section
variable {P:Program} {np id:Nat} {h:Nat->Option AD} {K:AV->List Nat->List (Nat × Option AD)->Prop} {s s':Nat} {f:Bool} {rows:List (List AV)} {k l:Nat}
@[simp] theorem mS:aK P np id (.slc s false true false) [.vs s' f rows,.sc (.int .i64 (k:Int))] h K=(k<=rows.length/\s'=s/\K (.vs s false (rows.take k)) [] []):=by
 rw[GU];refine propext ⟨?_,?_⟩
 .rintro ⟨l,r,m,n,h1,h2,h4,h5,h6,h7,h3,q,h8,h9⟩
  obtain rfl:=h5 rfl;simp at h4 h1;subst h1;have:k=r:=zy
  subst this;exact⟨h3,h8,by simpa using h9⟩
 .rintro ⟨h1,h2,h3⟩
  exact⟨0,k,0,rows.length,rfl,Qk _,zz,λ _=>rfl,(λ h=>by cases h),(λ h=>by cases h),h1,(λ h=>by cases h),h2,by simpa using h3⟩
@[simp] theorem ZT:aK P np id (.slc s true false false) [.vs s' f rows,.sc (.int .i64 (k:Int))] h K=(k<=rows.length/\s'=s/\K (.vs s f (rows.drop k)) [] []):=by
 rw[GU];refine propext ⟨?_,?_⟩
 .rintro ⟨l,r,m,n,h1,h2,h4,h5,h6,h7,h3,q,h8,h9⟩
  obtain rfl:=h6 rfl;simp at h4 h1;subst h1;have:k=l:=zy
  subst this;refine⟨h2,h8,?_⟩;have e:(rows.drop k).take (rows.length - k)=rows.drop k:=Qd zz
  simpa [e] using h9
 .rintro ⟨h1,h2,h3⟩
  have e:(rows.drop k).take (rows.length - k)=rows.drop k:=Qd zz
  exact⟨k,rows.length,0,rows.length,rfl,h1,zz,(λ h=>by cases h),λ _=>rfl,(λ h=>by cases h),Qf _,(λ h=>by cases h),h2,by simpa [e] using h3⟩
end
section
variable {P:Program} {np id:Nat} {h:Nat->Option AD} {K:AV->List Nat->List (Nat × Option AD)->Prop} {f:FuncId} {first aE args aA:List AV} {res:AV}
theorem Di (hc:CF P f aA [] res [some e]) (he:(first++args++aE).map (conv [] [] h 4)=aA) (hk:K (conv (Cb [] id) [] (λ _=>none) 4 res) [] [(id,some (AX (Cb [] id) [] (λ _=>none) 4 e))]):aK P np id .call (.fn (.func f) first aE::args) h K :=
 ⟨[],[],true,aA,[],res,[some e],zz,zz,zz,by rw[UO,he];exact FT _,rfl,hc,zz,.inl rfl,hk⟩
theorem C3 (hc:CF P f aA [] res [some e]) (hk:K (conv (Cb [] id) [] (λ _=>none) 4 res) [] [(id,some (AX (Cb [] id) [] (λ _=>none) 4 e))]) (he:(first++args++aE).map (conv [] [] h 4)=aA:=by simp):aK P np id .call (.fn (.func f) first aE::args) h K:=Di hc he hk
theorem P1 {e2:AD} (hc:CF P f aA [] res [some e,some e2]) (he:(first++args++aE).map (conv [] [] h 4)=aA) (hk:K (conv (Cb [] id) [] (λ _=>none) 4 res) [] [(id,some (AX (Cb [] id) [] (λ _=>none) 4 e)),(id+1,some (AX (Cb [] id) [] (λ _=>none) 4 e2))]):aK P np id .call (.fn (.func f) first aE::args) h K :=
 ⟨[],[],true,aA,[],res,[some e,some e2],zz,zz,zz,by rw[UO,he];exact FT _,rfl,hc,zz,.inl rfl,hk⟩
theorem BZ {i:Nat} {e':AD} (hi:h i=some e) (q:AX [(i,0)] [] h 4 e=e') (hc:CF P f aA [e'] res hs') (h8:hs'.length<=9) (he:(first++args++aE).map (conv [(i,0)] [] h 4)=aA) (hk:K (conv (Cb [i] id) [] (λ _=>none) 4 res) [i] (hs'.zipIdx.map λ (e,k)=>((i::(List.range 8).map (id + ·)).getD k 0,e.map (AX (Cb [i] id) [] (λ _=>none) 4)))):aK P np id .call (.fn (.func f) first aE::args) h K :=
 ⟨[i],[],true,aA,[e'],res,hs',zz,zz,zz,by rw[show [i].zipIdx=[(i,0)] from rfl,he];exact FT _,by rw[show [i].zipIdx=[(i,0)] from rfl];simpa [hi] using q,hc,by simpa using h8,.inl rfl,by simpa [Cb] using hk⟩
end
theorem A7.rfl' {nl:List (Nat × Nat)} (h:e.ro<=e.rows.length):A7 nl e e:=⟨rfl,Qf _,h,.inl rfl⟩
theorem Le.var1 {st':St} (i:Nat) (sn:List Nat) {e0:AD} (q:st'.sz=st.sz) (hh:st'.h=[(i,some e)]) (hi:i<st'.n) (hs:∀ j∈sn,j≠i) (h0:st.hp i=some e0) (he:AX [(i,i)] sn st.hp 4 e0=e) (hr:e.ro<=e.rows.length) (ht:∀ p∈st'.t,Wk (conv [(i,i)] sn st.hp 4 (st.get p.1)) p.2):Le 0 st st' :=
 Le.lst [(i,i)] sn [] q zz zz (by simp[hi]) zz (λ j hj=>⟨Qk _,by simpa using hs j hj⟩) (Qk _) zz (λ p hp=>.inl (ht p hp)) (λ p hp e' u=>by
  rw[hh] at hp;simp at hp;subst hp
  cases u
  exact .inl ⟨(i,i),zz,rfl,e0,h0,by rw[he];exact A7.rfl' hr⟩)
theorem Le.ren1 {st':St} (i j:Nat) (sn:List Nat) {e0:AD} (q:st'.sz=st.sz) (hh:st'.h=[(j,some e)]) (hi:j<st'.n) (hs:∀ j∈sn,j≠i) (h0:st.hp i=some e0) (he:AX [(i,j)] sn st.hp 4 e0=e) (hr:e.ro<=e.rows.length) (ht:∀ p∈st'.t,Wk (conv [(i,j)] sn st.hp 4 (st.get p.1)) p.2):Le 0 st st' :=
 Le.lst [(i,j)] sn [] q zz zz (by simp[hi]) zz (λ j hj=>⟨Qk _,by simpa using hs j hj⟩) (Qk _) zz (λ p hp=>.inl (ht p hp)) (λ p hp e' u=>by
  rw[hh] at hp;simp at hp;subst hp
  cases u
  exact .inl ⟨(i,j),zz,rfl,e0,h0,by rw[he];exact A7.rfl' hr⟩)
theorem Ej {b c a' b' c':AV} (h1:Wk a a') (h2:Wk b b') (h3:Wk c c'):Wk (.agg [a,b,c]) (.agg [a',b',c']) :=
 .agg _ _ rfl λ i=>match i with | 0=>h1 | 1=>h2 | 2=>h3 | _+3=>.refl _
section
variable {H:Type} {P:Program}
def Dz (P:Program):Nat->TypeId->DataW H->Option (List AV)
 | 0,_,_=>none
 | n+1,t,d =>
   match P.underlying t,d with
   | some .bool,.lit (.bool b)=>some [.sc (.bool b)]
   | some (.int k),.lit (.int k' x)=>if k'=k/\(Lit.int k' x).wf=true then some [.sc (.int k' x)] else none
   | some .string,.lit (.string l)=>some [.sc (.string ⟨l.toArray⟩)]
   | some (.slice _),.nil=>some [.nilS]
   | some (.slice e),.slice es _=>if es.length<=9223372036854775807 then (es.mapM (Dz P n e)).map λ rows=>[.vs (P.cellsOf e) false rows] else none
   | some (.struct fs),.agg ds=>if ds.length=fs.size then ((fs.toList.zip ds).mapM λ (x:Field × DataW H)=>Dz P n x.1.type x.2).map List.flatten else none
   | some (.array m e),.agg ds=>if ds.length=m then (ds.mapM (Dz P n e)).map List.flatten else none
   | _,_=>none
def Gp (P:Program) (p:TypeId->Bool):Nat->List Field->Option Nat
 | o,[]=>some o
 | o,f::fs=>if f.offset=o/\p f.type=true then Gp P p (o+P.cellsOf f.type) fs else none
def GO (P:Program):Nat->TypeId->Bool
 | 0,_=>false
 | n+1,t =>
   match P.underlying t with
   | some .bool=>true
   | some (.int _)=>true
   | some .string=>true
   | some (.slice e)=>decide (0<P.cellsOf e) && GO P n e
   | some (.struct fs)=>Gp P (GO P n) 0 fs.toList == some (P.cellsOf t)
   | some (.array m e)=>GO P n e && decide (m*P.cellsOf e=P.cellsOf t)
   | _=>false
def TF (w:World) (b:Nat):Nat:=match w.heap[b]? with | some (.cells cells _ _)=>cells.size | _=>0
theorem iR (w:World):Gy (TF w) w:=by
 intro b hb;unfold TF at hb ⊢;split at hb
 .rename_i cells ty fz h
  exact⟨cells,ty,fz,h,Qf _⟩
 .exact absurd hb (Nat.lt_irrefl _)
def DY (w:World) (xs:List AV) (cs:List Value):Prop :=
 xs.length=cs.length /\ ∀ i,i<xs.length->(cs.getD i undef).oneCell'=true/\Aj (TF w) w (λ _=>none) (xs.getD i .dead) (cs.getD i undef)
theorem DY.one {w:World} {x:AV} {v:Value} (h1:v.oneCell'=true) (h:Aj (TF w) w (λ _=>none) x v):DY w [x] [v]:=by
 refine⟨rfl,λ i hi=>?_⟩;obtain rfl:i=0:=by simpa using hi
 exact⟨h1,h⟩
theorem DY.append {w:World} {xs ys:List AV} {cs ds:List Value} (h1:DY w xs cs) (h2:DY w ys ds):DY w (xs++ys) (cs++ds):=by
 refine⟨by simp[h1.1,h2.1],λ i hi=>?_⟩
 rcases Ub i xs.length with h | h
 .have:=h1.2 i h
  simpa [List.getD,QG h,QG (show i<cs.length from h1.1 ▸ h)] using this
 .have h3:i - xs.length<ys.length:=by simp at hi;omega
  have:=h2.2 (i - xs.length) h3
  simpa [List.getD,Qr h,Qr (show cs.length<=i from h1.1 ▸ h),<- h1.1] using this
theorem XP {α β:Type} {f:α->Option β}:∀ {l:List α},(∀ a∈l,∃ b,f a=some b) -> ∃ bs,l.mapM f=some bs/\bs.length=l.length /\ ∀ (i:Nat) a,l[i]? = some a -> ∃ b,bs[i]? = some b/\f a=some b
 | [],_=>⟨[],rfl,rfl,zz⟩
 | a::l,h=>by
   obtain⟨b,hb⟩:=h a Qo;obtain⟨bs,h1,h2,h3⟩:=XP (l:=l) λ x hx=>h x (Qj _ hx);refine⟨b::bs,by rw[List.mapM_cons,hb,h1];rfl,by simp[h2],λ i x hi=>?_⟩
   cases i with
   | zero=>simp at hi;subst hi;exact⟨b,rfl,hb⟩
   | succ i=>simpa using h3 i x (by simpa using hi)
variable {enc:TypeId × Value->H} {w:World} {sp:Nat->Bool} {aG:Bool}
theorem Kk:∀ (n:Nat) (t:TypeId),GO P n t=true -> ∀ (m:Nat) (cs:List Value) (x:DataW H × List MemPlace),DataW.trod enc P w 0 sp aG m t cs=some x -> ∃ xs,Dz P n t x.1=some xs/\DY w xs cs
 | 0,_,h,_,_,_,_=>by cases h
 | n+1,t,h,0,cs,x,hx=>by simp[DataW.trod] at hx
 | n+1,t,h,m+1,cs,x,hx=>by
   simp only[GO] at h
   cases hu:P.underlying t with
   | none=>rw[hu] at h;cases h
   | some td =>
     rw[hu] at h
     cases td<;>simp only at h<;>(try (cases h;done))
     case slice e =>
      simp only[QH,Qa] at h;rcases DataW.trod_slice hu hx with ⟨rfl,rfl⟩ | ⟨a,len,cap,elems,rest,k,_,rfl,rfl,_,hl,a1,hh,h6,_,_⟩
      .exact ⟨[.nilS],by simp[Dz,hu],.one rfl (.sc _ _ rfl)⟩
      .obtain ⟨bs,h1,h2,h3⟩:=XP (f:=Dz P n e) (l:=elems.map (·.1)) (λ d hd=>by
        obtain⟨y,hy,rfl⟩:=Ql.1 hd;obtain⟨i,hi,rfl⟩:=Qt.1 hy;have:=h6 i zy
        rw[Qc hi] at this
        cases hc:w.cells? 0 (a.add (i*P.cellsOf e)) (P.cellsOf e) with
        | none=>rw[hc] at this;cases this
        | some rc =>
          rw[hc] at this;obtain⟨xs,h8,_⟩:=Kk n e h.2 _ _ _ this
          exact⟨xs,h8⟩)
       have h7:∀ i,i<len -> ∃ row rc,bs[i]? = some row/\w.cells? 0 (a.add (i*P.cellsOf e)) (P.cellsOf e)=some rc/\DY w row rc:=by
        intro i hi;have hi':i<elems.length:=zy
        have:=h6 i hi;rw[Qc hi'] at this
        cases hc:w.cells? 0 (a.add (i*P.cellsOf e)) (P.cellsOf e) with
        | none=>rw[hc] at this;cases this
        | some rc =>
          rw[hc] at this;obtain⟨xs,h8,hx2⟩:=Kk n e h.2 _ _ _ this;obtain⟨row,hq,h4⟩:=h3 i elems[i].1 (by simp[hi'])
          rw[h8] at h4;obtain rfl:=Qh h4;exact⟨_,rc,hq,rfl,hx2⟩
       have h9:bs.length=len:=by simpa [hh] using h2
       have hk:elems.length<=9223372036854775807:=by
        have e:maxLen=9223372036854775807:=zx
        omega
       refine⟨[.vs (P.cellsOf e) false bs],by simp[Dz,hu,h1,hk],.one rfl ?_⟩
       rw[<- h9]
       have u:∀ i j,i<len->j<P.cellsOf e -> ∃ v,w.cell? (a.add (i*P.cellsOf e+j))=some v/\v.oneCell'=true/\Aj (TF w) w (λ _=>none) ((bs.getD i []).getD j .dead) v:=by
        intro i j hi hj;obtain⟨row,rc,q1,q2,q3⟩:=h7 i hi;obtain⟨_,q4,q5⟩:=World.cells?_some q2;have q6:=q5 j hj;have q7:=q3.2 j (by rw[q3.1,q4];exact hj)
        have e1:bs.getD i []=row:=by simp[List.getD,q1]
        have e2:rc[j]? = some (rc.getD j undef):=by
         have:j<rc.length:=zy
         simp[List.getD,this]
        have e3:(a.add (i*P.cellsOf e)).add j=a.add (i*P.cellsOf e+j):=by
         unfold Addr.add
         by_cases c1:i*P.cellsOf e=0<;>by_cases c2:j=0<;>simp[c1,c2]<;>omega
        rw[e3] at q6;exact⟨_,by rw[q6,e2],q7.1,by rw[e1];exact q7.2⟩
       refine .vs _ _ _ _ (some a) cap (λ i j=>(w.cell? (a.add (i*P.cellsOf e+j))).getD undef) (λ h=>by cases h) zy (λ row hr=>?_) (λ hs=>?_) (λ i j hi hj=>?_) λ i j hi hj=>?_
       .obtain ⟨i,hi,rfl⟩:=Qt.1 hr
        obtain⟨row,rc,q1,q2,q3⟩:=h7 i zy
        obtain⟨_,q4,_⟩:=World.cells?_some q2;rw[Qc hi] at q1;obtain rfl:=Qh q1;rw[q3.1,q4]
       .have hm:0<len:=by
         rw[<- h9]
         cases bs with
         | nil=>exact absurd rfl hs
         | cons _ _=>simp
        obtain⟨v0,h0,_⟩:=u 0 0 hm h.1;obtain⟨b,off,spot⟩:=a;have ha:spot=none:=by simpa [Addr.add] using World.cell?_spot h0
        subst ha;have h5:∀ k,(⟨b,off,none⟩:Addr).add k=⟨b,off+k,none⟩:=λ k=>by unfold Addr.add;split<;>simp_all
        cases hb:w.heap[b]? with
        | none=>rw[h5] at h0;simp[World.cell?,hb] at h0
        | some o =>
          cases o with
          | cells cells ty fz =>
            have hc:∀ i j,i<len->j<P.cellsOf e -> ∃ v,cells[off+i*P.cellsOf e+j]? = some v/\w.cell? ((⟨b,off,none⟩:Addr).add (i*P.cellsOf e+j))=some v:=by
             intro i j hi hj;obtain⟨v,hv,_⟩:=u i j hi hj;refine⟨v,?_,hv⟩;rw[h5] at hv
             simpa [World.cell?,hb,Uy] using hv
            refine⟨b,off,cells,ty,fz,rfl,hb,?_,λ i j hi hj=>?_⟩
            .obtain ⟨v,hv,_⟩:=hc (len - 1) (P.cellsOf e - 1) zy zy
             have:=(Q0.1 hv).1
             have e5:bs.length*P.cellsOf e=(len - 1)*P.cellsOf e+P.cellsOf e:=by
              rw[h9];obtain⟨q,rfl⟩:∃ q,len=q+1:=⟨len - 1,zy⟩
              simp[QP]
             have e6:TF w b=cells.size:=by simp[TF,hb]
             omega
            .obtain ⟨v,hv,ht⟩:=hc i j zy hj
             rw[hv,ht];rfl
          | _=>rw[h5] at h0;simp[World.cell?,hb] at h0
       .obtain ⟨v,hv,ho,_⟩:=u i j zy hj
        rw[hv];exact ho
       .obtain ⟨v,hv,_,hr⟩:=u i j zy hj
        rw[hv];exact hr
     case struct fs =>
      simp only[beq_iff_eq] at h;obtain⟨ys,k,_,rfl,he,hn,h6⟩:=DataW.trod_struct hu hx
      have key:∀ (fl:List Field) (o e:Nat) (zs:List (DataW H × List MemPlace)),Gp P (GO P n) o fl=some e->zs.length=fl.length ->
        (∀ (i:Nat) f,fl[i]? = some f->DataW.trod enc P w 0 sp aG k f.type ((cs.drop f.offset).take (P.cellsOf f.type))=zs[i]?) ->
        ∃ l,((fl.zip (zs.map (·.1))).mapM λ (x:Field × DataW H)=>Dz P n x.1.type x.2)=some l/\DY w l.flatten ((cs.drop o).take (e - o))/\o<=e:=by
       intro fl
       induction fl with
       | nil =>
         intro o e zs h1 h2 _;simp only[Gp,Qw] at h1;subst h1;exact⟨[],rfl,by simp[DY],Qf _⟩
       | cons f fl ih =>
         intro o e zs h1 h2 h3
         cases zs with
         | nil=>simp at h2
         | cons z zs =>
           simp only[Gp] at h1;split at h1
           case isFalse=>cases h1
           rename_i hc;obtain⟨rfl,hp⟩:=hc;have hz:=h3 0 f rfl;simp only[List.getElem?_cons_zero] at hz;obtain⟨row,r1,r2⟩:=Kk n f.type hp _ _ _ hz;obtain⟨l,l1,l2,l3⟩:=ih _ e zs h1 (by simpa using h2) λ i g hg=>by simpa using h3 (i+1) g (by simpa using hg)
           refine⟨row::l,by simp[List.mapM_cons,r1,l1],?_,zy⟩
           have e1:(cs.drop f.offset).take (e - f.offset)=(cs.drop f.offset).take (P.cellsOf f.type)++(cs.drop (f.offset+P.cellsOf f.type)).take (e - (f.offset+P.cellsOf f.type)):=by
            rw[show e - f.offset=P.cellsOf f.type+(e - (f.offset+P.cellsOf f.type)) by omega,List.take_add,List.drop_drop]
           rw[e1,List.flatten_cons];exact r2.append l2
      obtain⟨l,l1,l2,_⟩:=key fs.toList 0 _ ys h (by simpa using hn) (λ i f hf=>h6 i f (by simpa using hf))
      refine⟨l.flatten,by simp[Dz,hu,l1,hn],?_⟩
      rw[List.drop_zero,Nat.sub_zero,<- he,Ua] at l2;exact l2
     case array q e =>
      simp only[QH,Qa] at h;rw[DataW.trod_step] at hx;unfold DataW.trodStep at hx;simp only[hu] at hx;split at hx
      case isFalse=>cases hx
      rename_i he;simp only[Qy] at hx;obtain⟨zs,hw,rfl⟩:=hx
      have key:∀ (m' k:Nat) (zs:List (DataW H × List MemPlace)),((List.range' k m').mapM λ i=>DataW.trod enc P w 0 sp aG m e ((cs.drop (i*P.cellsOf e)).take (P.cellsOf e)))=some zs ->
        ∃ l,(zs.map (·.1)).mapM (Dz P n e)=some l/\DY w l.flatten ((cs.drop (k*P.cellsOf e)).take (m'*P.cellsOf e))/\zs.length=m':=by
       intro m'
       induction m' with
       | zero =>
         intro k zs h1;simp at h1;subst h1;exact⟨[],rfl,by simp[DY],rfl⟩
       | succ m' ih =>
         intro k zs h1;rw[List.range'_succ,List.mapM_cons] at h1
         cases hz:DataW.trod enc P w 0 sp aG m e ((cs.drop (k*P.cellsOf e)).take (P.cellsOf e)) with
         | none=>rw[hz] at h1;simp at h1
         | some z =>
           rw[hz] at h1
           cases hr:((List.range' (k+1) m').mapM λ i=>DataW.trod enc P w 0 sp aG m e ((cs.drop (i*P.cellsOf e)).take (P.cellsOf e))) with
           | none=>rw[hr] at h1;simp at h1
           | some zs' =>
             rw[hr] at h1;simp at h1;subst h1;obtain⟨row,r1,r2⟩:=Kk n e h.1 _ _ _ hz;obtain⟨l,l1,l2,l3⟩:=ih (k+1) zs' hr;refine⟨row::l,by simp[List.mapM_cons,r1,l1],?_,by simp[l3]⟩
             have e1:(cs.drop (k*P.cellsOf e)).take ((m'+1)*P.cellsOf e)=(cs.drop (k*P.cellsOf e)).take (P.cellsOf e)++(cs.drop ((k+1)*P.cellsOf e)).take (m'*P.cellsOf e):=by
              rw[show (m'+1)*P.cellsOf e=P.cellsOf e+m'*P.cellsOf e by rw[QP,Nat.one_mul,Nat.add_comm],List.take_add,List.drop_drop,show k*P.cellsOf e+P.cellsOf e=(k+1)*P.cellsOf e by rw[QP,Nat.one_mul]]
             rw[e1,List.flatten_cons];exact r2.append l2
      obtain⟨l,l1,l2,l3⟩:=key q 0 zs (by rw[<- List.range_eq_range'];exact hw)
      refine⟨l.flatten,by simp[Dz,hu,l1,l3],?_⟩
      rw[Nat.zero_mul,List.drop_zero,h.2,<- he,Ua] at l2;exact l2
     all_goals
      rw[DataW.trod_step] at hx;unfold DataW.trodStep at hx;simp only[hu] at hx
     case bool =>
      rcases cs with _ | ⟨c,_ | ⟨c2,cs⟩⟩<;>(try (simp at hx;done))
      cases c<;>simp at hx
      subst hx;exact⟨_,by simp[Dz,hu],.one rfl (.sc _ _ rfl)⟩
     case int k =>
      rcases cs with _ | ⟨c,_ | ⟨c2,cs⟩⟩<;>(try (simp at hx;done))
      cases c<;>simp at hx
      obtain⟨⟨rfl,a0⟩,rfl⟩:=hx;exact⟨_,by simp[Dz,hu,a0],.one rfl (.sc _ _ rfl)⟩
     case string =>
      rcases cs with _ | ⟨c,_ | ⟨c2,cs⟩⟩<;>(try (simp at hx;done))
      cases c<;>simp at hx
      obtain⟨_,rfl⟩:=hx;rename_i s _;exact⟨[.sc (.string s)],by simp[Dz,hu],.one rfl (.sc _ _ rfl)⟩
end
end Go.Proofs.YtkabgnlcllmleaaGreat
namespace Go.Proofs.YtkabgnlcllmleaaGreat
open Go Go.ChangeShapes Go.WideShapes Go.ChangeAt Go.RowKit
variable {base n:Nat} {r:Go.Reach}
section
variable {H:Type} {P:Program}
def G1 (P:Program) (n:Nat) (t:TypeId) (d:DataW H):Option AV :=
 match P.underlying t with
 | some (.struct _)=>(Dz P n t d).map .agg
 | some (.array _ _)=>(Dz P n t d).map .agg
 | _=>(Dz P n t d).bind fun | [x]=>some x | _=>none
variable {enc:TypeId × Value->H} {W:World} {sp:Nat->Bool} {aG:Bool}
theorem rR {t:TypeId} (hp:GO P n t=true) {v:Value} {d:DataW H} {p:List MemPlace} (q:Value.okWide P W r base t v) (h:DataW.Trod enc P W 0 sp aG t v d p) :
  ∃ x,G1 P n t d=some x/\Aj (TF W) W (λ _=>none) x v:=by
 obtain⟨m,hm⟩:=h;obtain⟨xs,h1,h2⟩:=Kk n t hp m _ _ hm;simp only at h1
 cases n with
 | zero=>cases hp
 | succ n =>
   simp only[GO] at hp
   cases hu:P.underlying t with
   | none=>rw[hu] at hp;cases hp
   | some td =>
     rw[hu] at hp
     have one:(∀ cs,v ≠ .agg cs)->(∀ fs,td ≠ .struct fs)->(∀ m e,td ≠ .array m e) -> ∃ x,G1 P (n+1) t d=some x/\Aj (TF W) W (λ _=>none) x v:=by
      intro hv ht u
      have hc:v.cells = #[v]:=by
       cases v<;>first | rfl | exact absurd rfl (hv _)
      rw[hc] at h2;obtain⟨hl,h3⟩:=h2
      match xs,hl with
      | [x],_ =>
        refine⟨x,?_,?_⟩
        .simp only[G1,hu]
         cases td<;>first | exact absurd rfl (ht _) | exact absurd rfl (u _ _) | simp[h1]
        .simpa using (h3 0 zz).2
     cases td<;>simp only at hp<;>(try (cases hp;done))
     case struct fs =>
      simp only[Value.okWide,hu] at q;obtain⟨cs,rfl,_,_⟩:=q;refine⟨.agg xs,by simp[G1,hu,h1],?_⟩
      simp only[Value.cells] at h2;refine .agg _ _ _ (by simpa using h2.1.symm) (λ i hi=>?_) λ i hi=>?_
      .have:=(h2.2 i hi).1
       simpa [List.getD,QD] using this
      .have:=(h2.2 i hi).2
       simpa [List.getD,QD] using this
     case array m e =>
      simp only[Value.okWide,hu] at q;obtain⟨cs,rfl,_,_⟩:=q;refine⟨.agg xs,by simp[G1,hu,h1],?_⟩
      simp only[Value.cells] at h2;refine .agg _ _ _ (by simpa using h2.1.symm) (λ i hi=>?_) λ i hi=>?_
      .have:=(h2.2 i hi).1
       simpa [List.getD,QD] using this
      .have:=(h2.2 i hi).2
       simpa [List.getD,QD] using this
     all_goals
      refine one (λ cs hc=>?_) (λ fs hf=>by cases hf) (λ m e hf=>by cases hf)
      subst hc;simp[Value.okWide,hu,Cell.okWide,Cell.ok] at q
def Iw (P:Program) (n:Nat):List TypeId->List (DataW H)->Option (List AV)
 | [],[]=>some []
 | t::ts,d::ds=>match G1 P n t d,Iw P n ts ds with
   | some x,some xs=>some (x::xs)
   | _,_=>none
 | _,_=>none
theorem Sp {n:Nat} {r:Go.Reach} {base:Nat}:∀ {ts:List TypeId} {vs:List Value} {ds:List (DataW H)} {p:List MemPlace},(∀ t∈ts,GO P n t=true)->(∀ (j:Nat) t v,ts[j]? = some t->vs[j]? = some v->Value.okWide P W r base t v) ->
  DataW.TrodAll enc P W 0 sp aG ts vs ds p -> ∃ xs,Iw P n ts ds=some xs/\xs.length=vs.length /\ ∀ i,i<xs.length->Aj (TF W) W (λ _=>none) (xs.getD i .dead) (vs.getD i undef)
 | [],[],[],_,_,_,_=>⟨[],rfl,rfl,λ i hi=>absurd hi zz⟩
 | t::ts,v::vs,d::ds,_,hp,hv,⟨p,q,h1,h2,_⟩=>by
   obtain⟨x,x1,x2⟩:=rR (hp t Qo) (hv 0 t v rfl rfl) h1;obtain⟨xs,y1,y2,y3⟩:=Sp (λ t ht=>hp t (Qj _ ht)) (λ j t v h3 h4=>hv (j+1) t v (by simpa using h3) (by simpa using h4)) h2
   refine⟨x::xs,by simp[Iw,x1,y1],by simp[y2],λ i hi=>?_⟩
   cases i with
   | zero=>simpa using x2
   | succ i=>simpa using y3 i (by simpa using hi)
theorem YQ (hl:laidOutB P=true) {W':World} (hb:Below W.heap.size W W'):∀ {ts:List TypeId} {vs:List Value} {ds:List (DataW H)} {p:List MemPlace},(∀ t∈ts,P.readableRec t=true/\t<P.types.size)->(∀ x∈p,x.block<W.heap.size) ->
  DataW.TrodAll enc P W 0 (λ _=>true) true ts vs ds p->DataW.TrodAll enc P W' 0 (λ b=>decide (b<W.heap.size)) true ts vs ds p
 | [],[],[],_,_,_,h=>h
 | t::ts,v::vs,d::ds,_,hp,u,⟨p,q,h1,h2,e⟩ =>
   ⟨p,q,Below.trod hl (hp t Qo).1 (hp t Qo).2 h1 hb (λ x hx=>u x (by rw[e];exact Q4 _ hx)),
    YQ hl hb (λ t ht=>hp t (Qj _ ht)) (λ x hx=>u x (by rw[e];exact Uo _ hx)) h2,e⟩
def v8 (P:Program) (n:Nat) (ts:List TypeId):Bool:=ts.all λ t=>P.readableRec t && decide (t<P.types.size) && GO P n t
theorem rT {f:Func} {fi:FuncId} {s:ChangeSpec} {tb:TypeId} (hl:laidOutB P=true) {ts:List TypeId} (h4:f.params.toList=ts) (h8:v8 P n ts=true) (h5:f.resultTypes = #[tb]) (h9:P.underlying tb=some .bool) (u:s.vars=[]) {args:Array Value} {ds gs:List (DataW H)} {before:List MemPlace} (h6:∀ (j:Nat) t v,f.params[j]? = some t->args[j]? = some v->Value.okWide P W r base t v) (hW:DataW.Whole enc P f.params.toList s.vars false W args.toList ds gs before) (ha:(s.fn H (ds++[])).results=[.lit (.bool true)]) (hb:(s.fn H (ds++[])).args=ds) (hd:(s.fn H (ds++[])).vars=[]) (hc:∀ xs,Iw P n ts ds=some xs->CF P fi xs [] (.B true) []) :
  Calls P fi args W λ e W'=>∃ v,e = .returned v/\s.post enc P f false true false false W args v W':=by
 have h3:∀ t∈ts,(P.readableRec t=true/\t<P.types.size)/\GO P n t=true:=by
  intro t ht;have:=Ut.1 h8 t ht
  simpa only[QH,Qa] using this
 have hr:∀ t∈f.params.toList,P.readableRec t=true/\t<P.types.size:=λ t ht=>(h3 t (h4 ▸ ht)).1;have hp:∀ t∈f.params.toList,GO P n t=true:=λ t ht=>(h3 t (h4 ▸ ht)).2;subst h4;have h7:=hW;obtain⟨p,q,hA,hV,rfl,hh,hj⟩:=hW;rw[u] at hV;obtain⟨rfl,rfl⟩:=trodVars_none hV;have hf:∀ x∈p,x.block<W.heap.size:=λ x hx=>by simpa using h7.lt x (by simpa using hx)
 obtain⟨xs,x1,x2,x3⟩:=Sp hp (λ j t v h1 h2=>h6 j t v (by simpa using h1) (by simpa using h2)) hA
 have hR:Fs (TF W) W (λ _=>none) xs args:=⟨by simpa using x2.symm,λ i hi=>by simpa [List.getD,QD] using x3 i hi⟩
 refine((hc xs x1).2.2 (TF W) (λ _=>none) W args (iR W) ⟨λ id e he=>by simp[C9] at he,λ id id' e e' g g' b h1=>by simp[C9] at h1⟩ (λ _ _=>rfl) hR).mono ?_
 rintro e W' ⟨v,T',M',rfl,hv,_,h0⟩
 have hg:v = .bool true:=by cases hv;rfl
 subst hg;have hB:Below W.heap.size W W':=⟨h0.os,h0.tape,h0.output,h0.size,λ k hk=>h0.keep k hk (by rintro⟨_,_,h,_⟩;exact absurd h (UW _))⟩
 refine⟨_,rfl,ds,[],p++[],[],p,[],h7,?_,?_,?_,hB.frame _,λ h=>by cases h⟩
 .rw [h5,ha]
  exact trodAll_mk1 (shut_bool h9 _)
 .rw [hb]
  exact YQ hl hB hr hf hA
 .rw [u,hd]
  rfl
end
abbrev oo (d:Nat) (op:E6) (xs:List Da):CG:=⟨some d,op,xs,none⟩
abbrev og (d:Nat) (op:E6) (xs:List Da) (g:Nat):CG:=⟨some d,op,xs,some (g,true)⟩
abbrev oh (d:Nat) (op:E6) (xs:List Da) (g:Nat):CG:=⟨some d,op,xs,some (g,false)⟩
abbrev ou (op:E6) (xs:List Da):CG:=⟨none,op,xs,none⟩
abbrev vi (n:Int):Value:=.int .i64 n
abbrev v0:Value:=.int .i64 0
abbrev ve:Value:=.string ⟨#[]⟩
abbrev vn:Value:=.slice none 0 0
abbrev ki (n:Int):Da:=.c (.int .i64 n)
abbrev kn:Da:=.c (.slice none 0 0)
abbrev ma (d s:Nat):CG:=⟨some d,.mv,[.t s],none⟩
abbrev mg (d s g:Nat):CG:=⟨some d,.mv,[.t s],some (g,true)⟩
abbrev mh (d s g:Nat):CG:=⟨some d,.mv,[.t s],some (g,false)⟩
abbrev fa (d k s:Nat):CG:=⟨some d,.fad k,[.t s],none⟩
abbrev fg (d k s g:Nat):CG:=⟨some d,.fad k,[.t s],some (g,true)⟩
abbrev fh (d k s g:Nat):CG:=⟨some d,.fad k,[.t s],some (g,false)⟩
abbrev la (d s:Nat):CG:=⟨some d,.ld false 1,[.t s],none⟩
abbrev lg (d s g:Nat):CG:=⟨some d,.ld false 1,[.t s],some (g,true)⟩
abbrev lh (d s g:Nat):CG:=⟨some d,.ld false 1,[.t s],some (g,false)⟩
abbrev ca (d:Nat) (f:FuncId) (xs:List Da):CG:=⟨some d,.call,.f f::xs,none⟩
abbrev sr (l:List CG) (c:Cr):Cr:=.seq (.reg false l []) c
abbrev rg (l:List CG):Cr:=.reg false l []
end Go.Proofs.YtkabgnlcllmleaaGreat
namespace Go.Proofs.YtkabgnlcllmleaaGreat
def rK:B6:=⟨46,[(4,none)],
 (sr [oo 2 (.box 3) [.t 0],oo 3 (.box 3) [.t 1],oo 4 .mv [.c (.bool false)]]
 (.seq (.seq
 (rg [fa 6 0 2,la 7 6,fa 8 0 3,la 9 8,oo 10 (.bin .neq) [.t 7,.t 9],ma 11 10,fh 12 1 2 11,lh 13 12 11,oh 14 .len [.t 13] 11,fh 15 1 3 11,lh 16 15 11,oh 17 .len [.t 16] 11,oh 18 (.bin .neq) [.t 14,.t 17] 11,oo 19 .pick [.t 11,.c (.bool true),.t 18],ma 20 19,fh 21 2 2 20,lh 22 21 20,fh 23 2 3 20,lh 24 23 20,oh 25 .call [.f 15,.t 22,.t 24] 20,oh 26 (.un .not) [.t 25] 20,oo 27 .pick [.t 20,.c (.bool true),.t 26]])
 (.cond (.t 27)
 (sr [oo 4 .mv [.c (.bool false)]]
 .ret)
 .skip))
 (.seq (.seq
 (rg [oo 5 .mv [ki 0]])
 (.block 0 (.loop
 (.seq (.seq
 (rg [ma 28 5,fa 29 1 2,la 30 29,oo 31 .len [.t 30],oo 32 (.bin .lss) [.t 28,.t 31]])
 (.cond (.t 32)
 .skip
 (.exit 0)))
 (.seq (.block 1 (.seq (.reg true [fa 35 1 2,la 36 35,ma 37 5,oo 38 (.iad 3) [.t 36,.t 37],oo 39 (.ld true 3) [.t 38],fa 40 1 3,la 41 40,ma 42 5,oo 43 (.iad 3) [.t 41,.t 42],oo 44 (.ld true 3) [.t 43],oo 45 (.aeq true [0,0,0]) [.t 39,.t 44]] [[],[0],[],[1,2],[3],[],[5],[],[6,7],[8],[4,9]])
 (.cond (.t 45)
 (sr [oo 4 .mv [.c (.bool false)]]
 .ret)
 .skip)))
 (rg [ma 33 5,oo 34 (.bin .add) [.t 33,ki 1],ma 5 34]))))))
 (sr [oo 4 .mv [.c (.bool true)]]
 .ret))))⟩
abbrev AF:=CF Tryz.prog
theorem mixed:Tryz.prog.follows .mixedOrders=true:=by kernel_rfl
structure SC (f:FuncId) where
 c:B6
 s:Src Tryz.prog f c
def AM {f:FuncId} (fn:Func) {c d:B6} (hc:Jg Tryz.prog fn=some d:=by conv=>lhs;reduce) (hd:d=c:=by simp only[Int.ofNat_eq_natCast,Int.cast_ofNat_Int,Int.reduceNegSucc];rfl) (hf:Tryz.prog.funcs[f]? = some fn:=by kernel_rfl) (hn:fn.name ≠ "runtime.NumGoroutine":=by decide):SC f:=⟨c,mixed,fn,hf,hd ▸ hc,hn⟩
theorem nW {f:FuncId} {af:B6} (fn:Func) (hf:Tryz.prog.funcs[f]? = some fn:=by kernel_rfl) (hc:Jg Tryz.prog fn=some af:=by kernel_rfl) (hn:fn.name ≠ "runtime.NumGoroutine":=by decide):Src Tryz.prog f af:=⟨mixed,fn,hf,hc,hn⟩
def iN:SC 4:=AM Tryz.f4
def jK:SC 6:=AM Tryz.f6
def qF:SC 13:=AM Tryz.f13
def cF:SC 15:=AM Tryz.f15
def cS:SC 22:=AM Tryz.f22
def ZP:SC 23:=AM Tryz.f23
def fG:SC 25:=AM Tryz.f25
def NF:SC 33:=AM Tryz.f33
def l9:SC 34:=AM Tryz.f34
def sU:SC 35:=AM Tryz.f35
def qA:SC 36:=AM Tryz.f36
def mM:SC 38:=AM Tryz.f38
def vX:SC 39:=AM Tryz.f39
def O9:SC 40:=AM Tryz.f40
theorem uO:Src Tryz.prog 43 rK:=nW Tryz.f43
def dR:SC 64:=AM Tryz.f64
def uY:SC 65:=AM Tryz.f65
def rG:SC 66:=AM Tryz.f66
def cC:SC 67:=AM Tryz.f67
def oR:SC 68:=AM Tryz.f68
def Od:SC 72:=AM Tryz.f72
def LK:SC 78:=AM Tryz.f78
def S0:SC 84:=AM Tryz.f84
def bK:SC 85:=AM Tryz.f85
def aI:SC 86:=AM Tryz.f86
def uS:SC 87:=AM Tryz.f87
def gE:SC 88:=AM Tryz.f88
def mV:SC 89:=AM Tryz.f89
def bF:SC 90:=AM Tryz.f90
def oQ:SC 91:=AM Tryz.f91
def qT:SC 92:=AM Tryz.f92
def aL:SC 93:=AM Tryz.f93
def tR:SC 101:=AM Tryz.f101
def Te:SC 107:=AM Tryz.f107
def j6:SC 117:=AM Tryz.f117
def gK:SC 118:=AM Tryz.f118
def m5:SC 119:=AM Tryz.f119
def tM:SC 120:=AM Tryz.f120
def dV:SC 121:=AM Tryz.f121
def Mq:SC 122:=AM Tryz.f122
def Pb:SC 123:=AM Tryz.f123
def Ni:SC 125:=AM Tryz.f125
def Ox:SC 133:=AM Tryz.f133
def sH:SC 134:=AM Tryz.f134
def VQ:SC 135:=AM Tryz.f135
def oW:SC 136:=AM Tryz.f136
def dY:SC 137:=AM Tryz.f137
def R9:SC 138:=AM Tryz.f138
def kL:SC 139:=AM Tryz.f139
def jD:SC 141:=AM Tryz.f141
def sJ:SC 151:=AM Tryz.f151
def dU:SC 152:=AM Tryz.f152
def uK:SC 153:=AM Tryz.f153
def bO:SC 154:=AM Tryz.f154
def oE:SC 170:=AM Tryz.f170
def jX:SC 171:=AM Tryz.f171
def Rs:SC 172:=AM Tryz.f172
def Ps:SC 186:=AM Tryz.f186
def YW:SC 187:=AM Tryz.f187
def oZ:SC 188:=AM Tryz.f188
def n7:SC 196:=AM Tryz.f196
def nO:SC 197:=AM Tryz.f197
def kT:SC 198:=AM Tryz.f198
def rN:SC 199:=AM Tryz.f199
def oA:SC 200:=AM Tryz.f200
def oG:SC 201:=AM Tryz.f201
def qS:SC 211:=AM Tryz.f211
def rX:SC 212:=AM Tryz.f212
def aR:SC 213:=AM Tryz.f213
def mG:SC 214:=AM Tryz.f214
def qE:SC 215:=AM Tryz.f215
def lZ:SC 230:=AM Tryz.f230
def Rj:SC 231:=AM Tryz.f231
def lU:SC 244:=AM Tryz.f244
def bN:SC 245:=AM Tryz.f245
def bP:SC 248:=AM Tryz.f248
def kB:SC 253:=AM Tryz.f253
def lI:SC 259:=AM Tryz.f259
def j4:SC 262:=AM Tryz.f262
def jO:SC 281:=AM Tryz.f281
def vK:SC 282:=AM Tryz.f282
def dS:SC 283:=AM Tryz.f283
def uF:SC 285:=AM Tryz.f285
def iP:SC 286:=AM Tryz.f286
variable {st st':St}
section
variable {P:Program} {np id:Nat} {h:Nat->Option AD} {K:AV->List Nat->List (Nat × Option AD)->Prop} {s i off len c k l m:Nat}
@[simp] theorem zAw:aK P np id (.slc s true false false) [.rk i off len c,.sc (.int .i64 (k:Int))] h K=(k<=len/\len<=c/\(∃ e,h i=some e/\e.s=s)/\K (.rk i (off+k) (len - k) (c - k)) [i] []):=by
 rw[GU];refine propext ⟨?_,?_⟩
 .rintro ⟨l,r,m,n,h1,h2,h4,h5,h6,h7,h3,u,q,h8,h9⟩
  obtain rfl:=h6 rfl;simp at h4 h1;subst h1;have:k=l:=zy
  subst this;obtain rfl:=q rfl;exact⟨h2,h3,h8,h9⟩
 .rintro ⟨h1,h2,h3,h4⟩
  exact⟨k,len,c,len,rfl,h1,zz,(λ h=>by cases h),λ _=>rfl,(λ h=>by cases h),h2,Qf _,λ _=>rfl,h3,h4⟩
@[simp] theorem zD:aK P np id (.slc s false true false) [.rk i off len c,.sc (.int .i64 (k:Int))] h K=(k<=c/\(∃ e,h i=some e/\e.s=s)/\K (.rk i off k c) [i] []):=by
 rw[GU];refine propext ⟨?_,?_⟩
 .rintro ⟨l,r,m,n,h1,h2,h4,h5,h6,h7,h3,u,q,h8,h9⟩
  obtain rfl:=h5 rfl;simp at h4 h1;have:k=r:=zy
  subst this;obtain rfl:=q rfl;exact⟨h3,h8,by simpa using h9⟩
 .rintro ⟨h1,h3,h4⟩
  exact⟨0,k,c,len,rfl,Qk _,zz,λ _=>rfl,(λ h=>by cases h),(λ h=>by cases h),h1,Qf _,λ _=>rfl,h3,by simpa using h4⟩
@[simp] theorem zT:aK P np id (.slc s true true false) [.rk i off len c,.sc (.int .i64 (l:Int)),.sc (.int .i64 (k:Int))] h K=(l<=k/\k<=c/\(∃ e,h i=some e/\e.s=s)/\K (.rk i (off+l) (k - l) (c - l)) [i] []):=by
 rw[GU];refine propext ⟨?_,?_⟩
 .rintro ⟨l',r,m,n,h1,h2,h4,h5,h6,h7,h3,u,q,h8,h9⟩
  simp at h4 h1;have:k=r:=zy
  subst this;have:l=l':=zy
  subst this;obtain rfl:=q rfl;exact⟨h2,h3,h8,h9⟩
 .rintro ⟨h1,h2,h3,h4⟩
  exact⟨l,k,c,len,rfl,h1,zz,(λ h=>by cases h),(λ h=>by cases h),(λ h=>by cases h),h2,Qf _,λ _=>rfl,h3,h4⟩
@[simp] theorem zAN:aK P np id (.slc s true true true) [.rk i off len c,.sc (.int .i64 (l:Int)),.sc (.int .i64 (k:Int)),.sc (.int .i64 (m:Int))] h K=(l<=k/\k<=m/\m<=c/\(∃ e,h i=some e/\e.s=s)/\K (.rk i (off+l) (k - l) (m - l)) [i] []):=by
 rw[GU];refine propext ⟨?_,?_⟩
 .rintro ⟨l',r,m',n,h1,h2,h4,h5,h6,h7,h3,q,u,h8,h9⟩
  simp at h4 h1;have:k=r:=zy
  subst this;have:l=l':=zy
  subst this;have:m=m':=zy
  subst this;exact⟨h2,h3,q,h8,h9⟩
 .rintro ⟨h1,h2,h3,h4,h5⟩
  exact⟨l,k,m,len,rfl,h1,zz,(λ h=>by cases h),(λ h=>by cases h),(λ _=>rfl),h2,h3,(λ h=>by cases h),h4,h5⟩
@[simp] theorem xS:aK P np id (.slc s true false false) [.rs i off len,.sc (.int .i64 (k:Int))] h K=(k<=len/\(∃ e,h i=some e/\e.s=s)/\K (.rs i (off+k) (len - k)) [i] []):=by
 rw[GU];refine propext ⟨?_,?_⟩
 .rintro ⟨l,r,m,n,h1,h2,h4,h5,h6,h7,h3,q,h8,h9⟩
  obtain rfl:=h6 rfl;simp at h4 h1;subst h1;have:k=l:=zy
  subst this;exact⟨h2,h8,h9⟩
 .rintro ⟨h1,h3,h4⟩
  exact⟨k,len,0,len,rfl,h1,zz,(λ h=>by cases h),λ _=>rfl,(λ h=>by cases h),Qf _,rfl,h3,h4⟩
@[simp] theorem xH:aK P np id (.slc s false true false) [.rs i off len,.sc (.int .i64 (k:Int))] h K=(k<=len/\(∃ e,h i=some e/\e.s=s)/\K (.rs i off k) [i] []):=by
 rw[GU];refine propext ⟨?_,?_⟩
 .rintro ⟨l,r,m,n,h1,h2,h4,h5,h6,h7,h3,q,h8,h9⟩
  obtain rfl:=h5 rfl;simp at h4 h1;have:k=r:=zy
  subst this;exact⟨zy,h8,by simpa using h9⟩
 .rintro ⟨h1,h3,h4⟩
  exact⟨0,k,0,len,rfl,Qk _,zz,λ _=>rfl,(λ h=>by cases h),(λ h=>by cases h),h1,rfl,h3,by simpa using h4⟩
end
theorem Le.keep {np:Nat} (q:st'.sz=st.sz) (hn:st.n<=st'.n) (ht:∀ p∈st'.t,st.get p.1=p.2) (hh:∀ p∈st'.h,∀ e,p.2=some e->st.hp p.1=some e):Le np st st':=by
 intro T0 M0 w0 T M a w ok u
 have hp:∀ id e,st'.hp id=some e->st.hp id=some e:=by
  intro id e he;unfold St.hp at he
  cases hl:AW st'.h id with
  | none=>rw[hl] at he;cases he
  | some v =>
    rw[hl] at he;exact hh _ (DW hl) e he
 refine⟨T,M,⟨ok.sz.trans q.symm,ok.df,λ i=>?_,⟨λ id e he=>ok.hs.ent id e (hp id e he),λ id id' e e' g g' b h1 h2=>ok.hs.inj id id' e e' g g' b (hp _ _ h1) (hp _ _ h2)⟩,λ id g hg=>Nat.lt_of_lt_of_le (ok.dom id g hg) hn,ok.after⟩,QR u hn⟩;unfold St.get at *
 cases hl:AW st'.t i with
 | none=>exact .dead _ _
 | some v =>
   have:=ht _ (DW hl);simp only at this;show Aj T w M v _;rw[<- this];exact ok.tm i
theorem A5 {np:Nat} (q:st'.sz=st.sz:=by rfl) (hn:st.n<=st'.n:=by exact Qf _) (ht:∀ p∈st'.t,st.get p.1=p.2:=by simp) (hh:∀ p∈st'.h,∀ e,p.2=some e->st.hp p.1=some e:=by simp):Le np st st':=Le.keep q hn ht hh
theorem Le.mv1 (j i:Nat) {e0 e:AD} (q:st'.sz=st.sz) (hh:st'.h=[(i,some e)]) (hi:i<st'.n) (h1:1<=i) (h0:st.hp j=some e0) (he:AX [(j,i)] [] st.hp 4 e0=e) (hr:e.ro<=e.rows.length) (ht:∀ p∈st'.t,Wk (conv [(j,i)] [] st.hp 4 (st.get p.1)) p.2):Le 1 st st' :=
 Le.lst [(j,i)] [] [] q zz zz (by simp[hi];omega) zz zz zy zz (λ p hp=>.inl (ht p hp)) (λ p hp e' u=>by
  rw[hh] at hp;simp at hp;subst hp
  cases u
  exact .inl ⟨(j,i),zz,rfl,e0,h0,by rw[he];exact A7.rfl' hr⟩)
theorem AO.m1 {rs:List (Nat × Option (Bool × Nat))} {vs:List AV} {res:AV} {e:AD} (i:Nat) (hi:1<=i) (h1:EJ st rs=some vs) (hw:Wk (conv [(0,0),(i,1)] [] st.hp 4 (DE vs)) res) (h0:st.hp 0=none) (he:(st.hp i).map (AX [(0,0),(i,1)] [] st.hp 4)=some e):AO rs 1 st res [none,some e] :=
 ⟨vs,h1,[i],[],by simp[List.range,List.range.loop];omega,by simpa using hi,zz,by simpa [List.range,List.range.loop] using hw,by simpa [List.range,List.range.loop,h0] using he⟩
end Go.Proofs.YtkabgnlcllmleaaGreat
