/- Texts of this claim,merged. -/
import Derived.Test.YtklclphfcibagaaGreatRb1
import Derived.MapKept
import Derived.Laws.BytesArg
import Derived.Laws.Externs
import Derived.Scope
import Derived.ChangeArms
import Derived.Carry
import Derived.OpenShut
import Derived.WalkKit
import Derived.ProofKit
import Derived.Test.YtklclphfcibagaaGreatProg
import Derived.KernelRfl
set_option linter.unusedSimpArgs false
set_option linter.unusedVariables false
set_option linter.unusedSectionVars false
set_option maxRecDepth 100000
set_option maxHeartbeats 8000000
noncomputable section
namespace Go.Proofs.YtklclphfcibagaaGreat
open Go
theorem Ds {α:Type}:∀ {l:List (Nat × α)} {i:Nat} {a:α},Am l i=some a->(i,a)∈l
 | (j,b)::l,i,a,h=>by
   simp only[Am] at h;split at h
   .rename_i e;subst e;cases h;exact Qp
   .exact Qo _ (Ds h)
theorem Kk {α:Type}:∀ {l:List (Nat × α)} {i:Nat},Am l i=none -> ∀ a,(i,a)∉l
 | [],_,_,_=>zz
 | (j,b)::l,i,h,a=>by
   simp only[Am] at h;split at h
   .cases h
   .rename_i e
    intro hm;rcases Qv.1 hm with h1 | h1
    .cases h1;exact e rfl
    .exact Kk h a h1
theorem Sv {l:List Nat} {id k:Nat} (h:Am l.zipIdx id=some k):l[k]? = some id:=by
 have:=Ds h;rw[UV] at this;exact this
theorem cE {l:List Nat} {k id:Nat} (h:Am (l.zipIdx.map λ (a,b)=>(b,a)) k=some id):l[k]? = some id:=by
 have:=Ds h;simp only[Qm,Prod.mk.injEq] at this;obtain⟨⟨a,b⟩,h1,rfl,rfl⟩:=this;rw[UV] at h1;exact h1
section
variable {P:Program} {np:Nat} {T0:Nat->Nat} {M0:GM} {w0:World} {aB:Nat->Prop} {st:St} {T:Nat->Nat} {M:GM} {a:Act} {w:World} {idb:Nat}
variable (tm:∀ i,Ar T w M (st.get i) (a.tmps.getD i undef)) (m:B1 np T0 M0 w0 aB st.hp T M w) (aC:∀ k,k<8->¬ aB (idb+k)) (aF:np<=idb)
include tm m aC aF
theorem Sn (o:Oper) (cl:FuncId) (xs:List AV) (au:Array Value) (hy:(∃ fn c,P.funcs[cl]? = some fn/\fn.body=some c/\fn.name ≠ "runtime.NumGoroutine")->(execOp a.eval o).run P w = .ok (.enter cl au) w) (av:Fm T w M xs au) {K:AV->List Nat->List (Nat × Option AX)->Prop} {h0 sn:List Nat} {h9:Bool} {aA:List AV} {hs:List AX} {res:AV} {hs':List (Option AX)} (dt:h0.Nodup) (f2:∀ i∈sn,i∉h0) (g3:h9=true -> ∀ i∈sn,np<=i) (e3:Ec (xs.map (conv h0.zipIdx sn st.hp 4)) aA) (c5:h0.map (λ i=>(st.hp i).map (Ak h0.zipIdx sn st.hp 4))=hs.map some) (a8:Cq P cl aA hs res hs') (f3:hs'.length<=hs.length+8) (hpl:h9=true∨(Plain res /\ ∀ e,some e∈hs'->HJ e)) (hk:K (conv ((h0++(List.range 8).map (idb + ·)).zipIdx.map λ (a,b)=>(b,a)) [] (λ _=>none) 4 res) (h0++sn)
     ((hs'.zipIdx.map λ (e,k)=>((h0++(List.range 8).map (idb + ·)).getD k 0,e.map (Ak ((h0++(List.range 8).map (idb + ·)).zipIdx.map λ (a,b)=>(b,a)) [] (λ _=>none) 4))) ++
      (if h9 then sn.filterMap (λ i=>(st.hp i).map λ e=>(i,some { e with ro:=e.rows.length })) else []))) :
  ∃ v rd up,K v rd up/\E2 P np T0 M0 w0 aB idb (st.upd up).hp T M w v ((execOp a.eval o).run P w):=by
 obtain⟨f4,g0,a8⟩:=a8;have hy:=hy f4
 have am:h0.length=hs.length:=by
  have:=congrArg List.length c5
  simpa using this
 have hw:∀ (k i:Nat),h0[k]? = some i -> ∃ e,st.hp i=some e/\hs[k]? = some (Ak h0.zipIdx sn st.hp 4 e):=by
  intro k i ha;have h1:=congrArg (·[k]?) c5
  simp only[QG,ha,Um] at h1
  cases hq:hs[k]? with
  | none=>rw[hq] at h1;simp at h1
  | some e' =>
    rw[hq] at h1;simp only[Um,Qx] at h1
    cases hp:st.hp i with
    | none=>rw[hp] at h1;simp at h1
    | some e =>
      rw[hp] at h1;simp only[Um,Qx] at h1;exact⟨e,rfl,by rw[h1]⟩
 obtain⟨T1,co,cp,b0,a9⟩:=Nb m.hs m.after.tok sn
 let Mc:GM:=λ k=>match h0[k]? with | some i=>M i | none=>none
 have ag:∀ (k i:Nat),h0[k]? = some i->Mc k=M i:=λ k i ha=>by show (match h0[k]? with | some i=>M i | none=>none)=_;rw[ha]
 have e4:∀ k,hs.length<=k->Mc k=none:=λ k hk=>by
  show (match h0[k]? with | some i=>M i | none=>none)=none
  rw[QT zy]
 have b1:∀ id k,Am h0.zipIdx id=some k->Mc k=M id:=λ id k hl=>ag k id (Sv hl);have cq:=λ x v hr=>KQ (Mc:=Mc) (x:=x) (v:=v) m.hs sn co b0 4 h0.zipIdx b1 hr
 have nodupI:∀ (k k' i:Nat),h0[k]? = some i->h0[k']? = some i->k=k':=by
  intro k k' i h1 h2;have hf:k<h0.length:=(Qu.1 h1).1;exact(List.getElem?_inj hf dt).1 (h1.trans h2.symm)
 have an:∀ (k i:Nat) e g b,h0[k]? = some i->st.hp i=some e->M i=some g->g.blk=some b->T1 b=T b:=by
  intro k i e g b h1 h2 h3 h4;refine a9 b λ i' hi' e' g' h5 h6 h7=>?_;have:=m.hs.inj i i' e e' g g' b h2 h5 h3 h6 h4 h7;subst this;exact f2 i hi' (Ud h1)
 have f8:EB T1 w Mc (DR hs):=by
  refine⟨λ k e' e6=>?_,λ k k' e1 e2 g g' b h1 h2 h3 h4 h5 h6=>?_⟩
  .have hf:k<h0.length:=by rw[am];exact(Qu.1 e6).1
   have ha:h0[k]? = some h0[k]:=Qa hf;obtain⟨e,he,heq⟩:=hw k _ ha;obtain rfl:=Qj (e6.symm.trans heq);obtain⟨g,hg,ent⟩:=m.hs.ent _ e he;refine⟨g,(ag k _ ha).trans hg,ent.s,by simpa [Ak] using ent.ro,λ hz r hr=>?_,λ hn=>by simp[Ak,ent.none hn],λ hz=>?_,λ hz b ai=>?_⟩
   .simp only[Ak,Qm] at hr
    obtain⟨r0,d0,rfl⟩:=hr;rw[Qs];exact ent.wide hz r0 d0
   .obtain ⟨b,es,clock,hd,q1,q2,q3,q4⟩:=ent.mp hz
    exact⟨b,es,clock,hd,q1,by rw[an k _ e g b ha he hg hd];exact q2,q3,q4.map (λ _=>rfl) λ row _ x _ v hr=>cq x v hr⟩
   .obtain ⟨cells,ty,h1,h2,h3,h4⟩:=ent.blk hz b ai
    refine⟨cells,ty,h1,by rw[an k _ e g b ha he hg ai];exact h2,by simpa [Ak] using h3,λ i j hi hj=>?_⟩
    simp only[Ak,Qs] at hi hj ⊢;obtain⟨u,hu,ho,b2⟩:=h4 i j hi hj;refine⟨u,hu,ho,?_⟩
    have e1:(e.rows.map (·.map (conv h0.zipIdx sn st.hp 4))).getD i []=(e.rows.getD i []).map (conv h0.zipIdx sn st.hp 4):=by
     simp only[List.getD,QG]
     cases e.rows[i]?<;>rfl
    rw[e1,GI _ (GH _ _ _ _)];exact cq _ _ b2
  .have hf:k<h0.length:=by rw[am];exact(Qu.1 h1).1
   have e7:k'<h0.length:=by rw[am];exact(Qu.1 h2).1
   have ha:h0[k]? = some h0[k]:=Qa hf;have b3:h0[k']? = some h0[k']:=Qa e7;obtain⟨ea,f9,_⟩:=hw k _ ha;obtain⟨eb,fd,_⟩:=hw k' _ b3;have:=m.hs.inj _ _ ea eb g g' b f9 fd ((ag k _ ha).symm.trans h3) ((ag k' _ b3).symm.trans h4) h5 h6;exact nodupI k k' _ ha (by rw[b3,this])
 have e8:Fm T1 w Mc aA au:=by
  have hl:=e3.length;simp only[Qs] at hl;refine⟨av.1.trans hl,λ i hi=>?_⟩;have h1:=e3.get i (by rw[Qs,hl];exact hi)
  rw[GI _ (GH _ _ _ _)] at h1;exact h1.rep (cq _ _ (av.2 i (hl ▸ hi)))
 have bp:=a8 T1 Mc w _ cp f8 e4 e8;refine⟨_,_,_,hk,?_⟩;rw[hy];refine⟨rfl,bp.mono ?_⟩
 rintro e w' ⟨v,T',M',rfl,e9,cb,ht⟩
 let T2:Nat->Nat:=λ b=>if h9 then T' b else if b<w.heap.size then T b else T' b
 let M2:GM:=λ i=>if idb<=i/\i<idb+8 then M' (hs.length+(i - idb)) else M i
 have bs:∀ i g,M i=some g->¬ (idb<=i/\i<idb+8):=λ i g hg hc=>aC (i - idb) zy (by rw[show idb+(i - idb)=i by omega];exact m.dom i g hg)
 have a4:∀ i g,M i=some g->M2 i=some g:=λ i g hg=>by
  show (if _ then _ else _)=_
  rw[if_neg (bs i g hg)];exact hg
 have a0:∀ b,b<w.heap.size->¬ Gf hs.length Mc b->T' b=T1 b:=ht.old;have b4:∀ b,T b<=T' b:=λ b=>QI (co b) (ht.pres.le b)
 have aq:∀ i e g b,(∀ k:Nat,h0[k]? ≠ some i)->st.hp i=some e->M i=some g->g.blk=some b->¬ Gf hs.length Mc b:=by
  rintro i e g b h1 h2 h3 h4 ⟨k,gk,ed,a5,d1⟩
  have hf:k<h0.length:=zy
  have ha:h0[k]? = some h0[k]:=Qa hf;obtain⟨ek,bt,_⟩:=hw k _ ha;rw[ag k _ ha] at a5;have:=m.hs.inj i _ e ek g gk b h2 bt h3 a5 h4 d1;exact h1 k (by rw[ha,this])
 have c0:∀ b,w.heap.size<=b->T b=0:=λ b hb=>m.T_zero hb
 have fi:∀ b,T b<=T2 b:=by
  intro b;show T b<=if h9 then T' b else if b<w.heap.size then T b else T' b
  split
  .exact b4 b
  .split
   .exact Qg _
   .rw [c0 b zy];exact Qh _
 have cd:∀ b,T2 b<=T' b:=by
  intro b;show (if h9 then T' b else if b<w.heap.size then T b else T' b)<=T' b
  split
  .exact Qg _
  .split
   .exact b4 b
   .exact Qg _
 have d2:∀ b,w.heap.size<=b->T2 b=T' b:=by
  intro b hb;show (if h9 then T' b else if b<w.heap.size then T b else T' b)=T' b
  rw[if_neg (show ¬ b<w.heap.size by omega)]
  simp
 have hv:A4 T w T2 w':=by
  refine⟨fi,λ b cells ty fz fl=>?_⟩;obtain⟨c',f',h1,h2,h3⟩:=ht.pres.cell b cells ty fz fl;exact⟨c',f',h1,h2,λ o ho=>h3 o (Nat.lt_of_lt_of_le ho (co b))⟩
 have dd:HI T2 w':=by
  intro b hb
  by_cases hr:h9=true
  .have e:T2 b=T' b:=by show (if h9 then T' b else _)=_;rw[hr];rfl
   rw[e] at hb ⊢;exact ht.tok b hb
  .by_cases fr:b<w.heap.size
   .have e:T2 b=T b:=by show (if h9 then T' b else if b<w.heap.size then T b else T' b)=_;rw[if_neg hr,if_pos fr]
    rw[e] at hb ⊢;obtain⟨cells,ty,fz,h1,h2⟩:=m.after.tok b hb;obtain⟨c',f',h3,h4,_⟩:=hv.cell b cells ty fz h1;exact⟨c',ty,f',h3,zy⟩
   .rw [d2 b zy] at hb ⊢
    exact ht.tok b hb
 let nm:List Nat:=h0++(List.range 8).map (idb + ·)
 have eg:∀ (k i:Nat),h0[k]? = some i->nm[k]? = some i:=λ k i ha=>by
  show (h0++_)[k]? = _;rw[QJ (Qu.1 ha).1];exact ha
 have ck:∀ (k i:Nat),nm[k]? = some i->h0[k]? = some i∨(hs.length<=k/\k<hs.length+8/\i=idb+(k - hs.length)):=by
  intro k i ha
  by_cases hf:k<h0.length
  .have:nm[k]? = h0[k]?:=QJ hf
   exact .inl (this.symm.trans ha)
  .have:nm[k]? = ((List.range 8).map (idb + ·))[k - h0.length]?:=Qt zy
   rw[this] at ha;simp only[QG,Qz] at ha;obtain⟨q,hq,rfl⟩:=ha;obtain⟨hq1,hq2⟩:=Qu.1 hq;simp only[Uz] at hq1;simp only[List.getElem_range] at hq2;exact .inr ⟨zy,zy,zy⟩
 have b5:∀ (k i:Nat),nm[k]? = some i->M2 i=M' k:=by
  intro k i ha;rcases ck k i ha with h1 | ⟨h1,h2,rfl⟩
  .obtain ⟨e,he,_⟩:=hw k i h1
   obtain⟨g,hg,_⟩:=m.hs.ent i e he;rw[a4 i g hg,ht.same k (by rw[<- am];exact(Qu.1 h1).1),ag k i h1,hg]
  .show (if idb<=idb+(k - hs.length)/\idb+(k - hs.length)<idb+8 then M' (hs.length+(idb+(k - hs.length) - idb)) else M _)=_
   rw[if_pos zy]
   congr 1
   omega
 have de:∀ k id,Am (nm.zipIdx.map λ (a,b)=>(b,a)) k=some id->M2 id=M' k:=λ k id hl=>b5 k id (cE hl)
 have b6:∀ x v,Ar T2 w' M' x v->Ar T2 w' M2 (conv (nm.zipIdx.map λ (a,b)=>(b,a)) [] (λ _=>none) 4 x) v:=by
  intro x v hr;refine KQ (M:=M') (hp:=λ _=>none) ⟨λ id e he=>(by cases he),λ i i' e e' g g' b h1=>(by cases h1)⟩ [] (λ _=>Qg _) (λ i hi=>by cases hi) 4 _ M2 x v de hr
 have b7:∀ x v,Ar T' w' M' x v->(h9=true∨Plain x)->Ar T2 w' M' x v:=by
  intro x v hr hp;rcases hp with hp | hp
  .have e:T2=T':=by funext b;show (if h9 then T' b else _)=_;rw[hp];rfl
   rw[e];exact hr
  .exact hr.plain hp T2
 have a1:∀ i e2,(st.upd ((hs'.zipIdx.map λ (e,k)=>((h0++(List.range 8).map (idb + ·)).getD k 0,e.map (Ak ((h0++(List.range 8).map (idb + ·)).zipIdx.map λ (a,b)=>(b,a)) [] (λ _=>none) 4))) ++
   (if h9 then sn.filterMap (λ i=>(st.hp i).map λ e=>(i,some { e with ro:=e.rows.length })) else []))).hp i=some e2 ->
   (∃ (k:Nat) (e:AX),hs'[k]? = some (some e)/\nm[k]? = some i/\e2=Ak (nm.zipIdx.map λ (a,b)=>(b,a)) [] (λ _=>none) 4 e) ∨
   (h9=true/\i∈sn/\(∀ k:Nat,h0[k]? ≠ some i) /\ ∃ e,st.hp i=some e/\e2={ e with ro:=e.rows.length }) ∨
   ((∀ k:Nat,h0[k]? ≠ some i)/\st.hp i=some e2/\(h9=true->i∉sn)):=by
  intro i e2 hh;rw[St.hp_upd] at hh
  cases c1:Am (hs'.zipIdx.map λ (e,k)=>((h0++(List.range 8).map (idb + ·)).getD k 0,e.map (Ak ((h0++(List.range 8).map (idb + ·)).zipIdx.map λ (a,b)=>(b,a)) [] (λ _=>none) 4))) i with
  | some r =>
    rw[J9,c1] at hh;have hh:r=some e2:=hh;subst hh;have hm:=Ds c1;simp only[Qm,Prod.mk.injEq] at hm;obtain⟨⟨e0,k⟩,h1,h2,h3⟩:=hm;rw[UV] at h1;simp only[Qz] at h3;obtain⟨e,rfl,h3⟩:=h3;have ej:k<hs'.length:=(Qu.1 h1).1;have em:k<nm.length:=by show k<(h0++_).length;simp;omega
    refine .inl ⟨k,e,h1,?_,h3.symm⟩;have:nm.getD k 0=i:=h2;rw[Qa em,<- this];simp[List.getD,em]
  | none =>
    rw[J9,c1,Option.none_or] at hh
    have a2:∀ k:Nat,h0[k]? ≠ some i:=by
     intro k ha;have ej:k<hs'.length:=by have:=(Qu.1 ha).1;omega
     refine Kk c1 (hs'[k].map (Ak (nm.zipIdx.map λ (a,b)=>(b,a)) [] (λ _=>none) 4)) (Qm.2 ⟨(hs'[k],k),by rw[UV];exact Qa ej,?_⟩)
     have h5:=eg k i ha;have h6:nm.getD k 0=i:=by simp[List.getD,h5]
     show (nm.getD k 0,_)=_;rw[h6]
    by_cases hr:h9=true
    .rw [if_pos hr] at hh
     cases c2:Am (sn.filterMap λ i=>(st.hp i).map λ e=>(i,some { e with ro:=e.rows.length })) i with
     | some r =>
       rw[c2] at hh;have hh:r=some e2:=hh;subst hh;have hm:=Ds c2;simp only[U9,Qz,Prod.mk.injEq,Qx] at hm;obtain⟨i',h1,e,h2,rfl,h3⟩:=hm;exact .inr (.inl ⟨hr,h1,a2,e,h2,h3.symm⟩)
     | none =>
       rw[c2] at hh;refine .inr (.inr ⟨a2,hh,λ _ df=>?_⟩);have ep:st.hp i=some e2:=hh;exact Kk c2 (some { e2 with ro:=e2.rows.length }) (U9.2 ⟨i,df,by rw[ep];rfl⟩)
    .rw [if_neg hr] at hh
     exact .inr (.inr ⟨a2,hh,λ h=>absurd h hr⟩)
 have b8:∀ i e g b,(∀ k:Nat,h0[k]? ≠ some i)->st.hp i=some e->M i=some g->g.blk=some b->w'.heap[b]? = w.heap[b]?:=by
  intro i e g b h1 h2 h3 h4;exact ht.keep b (m.block_lt h2 h3 h4) (aq i e g b h1 h2 h3 h4)
 have bb:∀ (k:Nat) e,hs'[k]? = some (some e)->Ga hs' k=some e:=λ k e h=>by simp[Ga,h]
 have dn:∀ (k:Nat) e (i:Nat),hs'[k]? = some (some e)->nm[k]? = some i -> ∃ g,M' k=some g/\M2 i=some g/\Ie T2 w' M2 (Ak (nm.zipIdx.map λ (a,b)=>(b,a)) [] (λ _=>none) 4 e) g:=by
  intro k e i h1 h2;obtain⟨g,hg,ent⟩:=cb.ent k e (bb k e h1);refine⟨g,hg,(b5 k i h2).trans hg,ent.s,by simpa [Ak] using ent.ro,λ hz r hr=>?_,λ hn=>by simp[Ak,ent.none hn],λ hz=>?_,λ hz b ai=>?_⟩
  .simp only[Ak,Qm] at hr
   obtain⟨r0,d0,rfl⟩:=hr;rw[Qs];exact ent.wide hz r0 d0
  .obtain ⟨b,es,clock,hd,q1,q2,q3,q4⟩:=ent.mp hz
   refine⟨b,es,clock,hd,q1,Nat.le_zero.1 (q2 ▸ cd b),q3,q4.map (λ _=>rfl) λ row be x hx v hr=>b6 _ _ (b7 _ _ hr ?_)⟩;rcases hpl with hpl | hpl
   .exact .inl hpl
   .exact .inr (hpl.2 e (Ud h1) row be x hx)
  .obtain ⟨cells,ty,h3,h4,h5,h6⟩:=ent.blk hz b ai
   refine⟨cells,ty,h3,QI (cd b) h4,by simpa [Ak] using h5,λ i' j hi hj=>?_⟩
   simp only[Ak,Qs] at hi hj ⊢;obtain⟨u,hu,ho,b2⟩:=h6 i' j hi hj;refine⟨u,hu,ho,?_⟩
   have e1:(e.rows.map (·.map (conv (nm.zipIdx.map λ (a,b)=>(b,a)) [] (λ _=>none) 4))).getD i' []=(e.rows.getD i' []).map (conv (nm.zipIdx.map λ (a,b)=>(b,a)) [] (λ _=>none) 4):=by
    simp only[List.getD,QG]
    cases e.rows[i']?<;>rfl
   rw[e1,GI _ (GH _ _ _ _)];refine b6 _ _ (b7 _ _ b2 ?_);rcases hpl with hpl | hpl
   .exact .inl hpl
   .right
    have be:e.rows.getD i' []=e.rows[i']:=by simp[List.getD,hi]
    have g2:=ent.wide hz _ (Qi hi);have ev:j<e.rows[i'].length:=zy
    rw[be];have c3:e.rows[i'].getD j .dead=e.rows[i'][j]:=by simp[List.getD,ev]
    rw[c3];exact hpl.2 e (Ud h1) _ (Qi hi) _ (Qi ev)
 have ex:∀ i e g b,(∀ k:Nat,h0[k]? ≠ some i)->st.hp i=some e->M i=some g->g.blk=some b->(h9=true->i∉sn)->T2 b=T b:=by
  intro i e g b h1 h2 h3 h4 h5;have hf:=m.block_lt h2 h3 h4;show (if h9 then T' b else if b<w.heap.size then T b else T' b)=T b
  by_cases hr:h9=true
  .rw [if_pos hr,a0 b hf (aq i e g b h1 h2 h3 h4)]
   refine a9 b λ i' hi' e' g' h6 h7 h8=>?_;have:=m.hs.inj i i' e e' g g' b h2 h6 h3 h7 h4 h8;subst this;exact h5 hr hi'
  .rw [if_neg hr,if_pos hf]
 have a6:∀ {e:AX} {g:GE},Ie T w M e g -> ∀ ro',e.ro<=ro'->ro'<=e.rows.length->(∀ b,g.blk=some b->w'.heap[b]? = w.heap[b]? /\ T2 b<=g.base+ro'*e.s)->Ie T2 w' M2 { e with ro:=ro' } g:=by
  intro e g ent ro' g4 fs ai;refine⟨ent.s,fs,ent.wide,ent.none,λ hz=>?_,λ hz b hd=>?_⟩
  .have f0:e.s=0:=hz
   obtain⟨b,es,clock,hd,q1,q2,q3,q4⟩:=ent.mp f0;obtain⟨p1,p2⟩:=ai b hd;rw[q3,f0] at p2;exact⟨b,es,clock,hd,by rw[p1];exact q1,zy,q3,q4.mono hv a4⟩
  obtain⟨cells,ty,h3,h4,h5,h6⟩:=ent.blk hz b hd;obtain⟨q1,q2⟩:=ai b hd;refine⟨cells,ty,by rw[q1];exact h3,q2,h5,λ i' j hi hj=>?_⟩
  obtain⟨u,hu,ho,b2⟩:=h6 i' j hi hj;exact⟨u,hu,ho,b2.mono hv a4⟩
 refine⟨v,T2,M2,rfl,⟨⟨λ i e2 hh=>?_,λ i i' e1 e2 g g' b h1 h2 h3 h4 h5 h6=>?_⟩,λ i g hg=>?_,?_⟩,hv,a4,b6 _ _ (b7 _ _ e9 (hpl.imp id λ h=>h.1))⟩
 .rcases a1 i e2 hh with ⟨k,e,h1,h2,rfl⟩ | ⟨hr,df,a2,e,he,rfl⟩ | ⟨a2,he,fv⟩
  .obtain ⟨g,_,h3,h4⟩:=dn k e i h1 h2
   exact⟨g,h3,h4⟩
  .obtain ⟨g,hg,ent⟩:=m.hs.ent i e he
   refine⟨g,a4 i g hg,a6 ent _ ent.ro (Qg _) λ b hd=>⟨b8 i e g b a2 he hg hd,?_⟩⟩;have hf:=m.block_lt he hg hd;have e5:T2 b=T' b:=by show (if h9 then T' b else _)=_;rw[hr];rfl
   rw[e5,a0 b hf (aq i e g b a2 he hg hd),b0 i df e g b he hg hd];exact Qg _
  .obtain ⟨g,hg,ent⟩:=m.hs.ent i e2 he
   refine⟨g,a4 i g hg,a6 ent e2.ro (Qg _) ent.ro λ b hd=>⟨b8 i e2 g b a2 he hg hd,?_⟩⟩;rw[ex i e2 g b a2 he hg hd fv]
   by_cases hz:e2.s=0
   .obtain ⟨b',es,clock,a7,q1,q2,q3,q4⟩:=ent.mp hz
    obtain rfl:=Qj (a7.symm.trans hd);omega
   obtain⟨cells,ty,_,h4,_⟩:=ent.blk hz b hd;exact h4
 .
  have bo:∀ i e2 g b,((h9=true/\i∈sn/\(∀ k:Nat,h0[k]? ≠ some i) /\ ∃ e,st.hp i=some e/\e2={ e with ro:=e.rows.length })∨((∀ k:Nat,h0[k]? ≠ some i)/\st.hp i=some e2/\(h9=true->i∉sn)))->M2 i=some g->g.blk=some b ->
    (∀ k:Nat,h0[k]? ≠ some i) /\ ∃ e,st.hp i=some e/\M i=some g/\b<w.heap.size:=by
   intro i e2 g b hq hg hd
   have:(∀ k:Nat,h0[k]? ≠ some i) /\ ∃ e,st.hp i=some e:=by
    rcases hq with ⟨_,_,h1,e,h2,_⟩ | ⟨h1,h2,_⟩
    .exact ⟨h1,e,h2⟩
    .exact ⟨h1,e2,h2⟩
   obtain⟨h1,e,h2⟩:=this;obtain⟨g1,dr,_⟩:=m.hs.ent i e h2;have:=a4 i g1 dr;rw[hg] at this;obtain rfl:=Qj this;exact⟨h1,e,h2,dr,m.block_lt h2 dr hd⟩
  have cross:∀ (i i' k:Nat) e g g' e2' b,hs'[k]? = some (some e)->nm[k]? = some i->M2 i=some g->g.blk=some b ->
    ((h9=true/\i'∈sn/\(∀ k:Nat,h0[k]? ≠ some i') /\ ∃ e,st.hp i'=some e/\e2'={ e with ro:=e.rows.length })∨((∀ k:Nat,h0[k]? ≠ some i')/\st.hp i'=some e2'/\(h9=true->i'∉sn)))->M2 i'=some g'->g'.blk=some b->False:=by
   intro i i' k e g g' e2' b ed a5 hg hd hq a3 a7;obtain⟨q1,e',q2,q3,q4⟩:=bo i' e2' g' b hq a3 a7;rcases ck k i a5 with ha | ⟨r1,r2,r3⟩
   .obtain ⟨ek,bt,_⟩:=hw k i ha
    obtain⟨gk,c4,_⟩:=m.hs.ent i ek bt;have:=a4 i gk c4;rw[hg] at this;obtain rfl:=Qj this;have:=m.hs.inj i i' ek e' g g' b bt q2 c4 q3 hd a7;subst this;exact q1 k ha
   .have c4:M' k=some g:=(b5 k i a5).symm.trans hg
    rcases ht.new k g b r1 c4 hd with h | h
    .exact aq i' e' g' b q1 q2 q3 a7 h
    .omega
  rcases a1 i e1 h1 with ⟨k,e,p1,p2,rfl⟩ | hq1
  .rcases a1 i' e2 h2 with ⟨k',e',p1',p2',rfl⟩ | hq2
   .have q1:M' k=some g:=(b5 k i p2).symm.trans h3
    have q2:M' k'=some g':=(b5 k' i' p2').symm.trans h4;have:=cb.inj k k' e e' g g' b (bb k e p1) (bb k' e' p1') q1 q2 h5 h6;subst this;exact Qj (p2.symm.trans p2')
   .exact (cross i i' k e g g' _ b p1 p2 h3 h5 hq2 h4 h6).elim
  .rcases a1 i' e2 h2 with ⟨k',e',p1',p2',rfl⟩ | hq2
   .exact (cross i' i k' e' g' g _ b p1' p2' h4 h6 hq1 h3 h5).elim
   .obtain ⟨_,ea,q2,q3,_⟩:=bo i e1 g b hq1 h3 h5
    obtain⟨_,eb,r2,r3,_⟩:=bo i' e2 g' b hq2 h4 h6;exact m.hs.inj i i' ea eb g g' b q2 r2 q3 r3 h5 h6
 .have a3:(if idb<=i/\i<idb+8 then M' (hs.length+(i - idb)) else M i)=some g:=hg
  by_cases hc:idb<=i/\i<idb+8
  .exact .inr hc
  .rw [if_neg hc] at a3
   exact .inl (m.dom i g a3)
 .have ds:∀ b,Gf hs.length Mc b->Gf np M0 b∨w0.heap.size<=b:=by
   rintro b ⟨k,g,ed,a5,d1⟩
   have hf:k<h0.length:=zy
   have ha:h0[k]? = some h0[k]:=Qa hf;rw[ag k _ ha] at a5;exact m.after.blk a5 d1
  refine m.after.step dd (λ b hb f1=>?_) (λ k hk=>?_) ht.os ht.tape ht.output ht.size (λ b hb hn=>?_) hv λ k g b hk hg hd=>?_
  .have hf:b<w.heap.size:=Nat.lt_of_lt_of_le hb m.after.size
   show (if h9 then T' b else if b<w.heap.size then T b else T' b)=T b
   by_cases hr:h9=true
   .rw [if_pos hr,a0 b hf (λ h=>(ds b h).elim f1 zy)]
    refine a9 b λ i hi e g h1 h2 h3=>?_;exact(m.after.blk h2 h3).elim f1 zy
   .rw [if_neg hr,if_pos hf]
  .show (if idb<=k/\k<idb+8 then _ else M k)=M k
   rw[if_neg zy]
  .exact ht.keep b (Nat.lt_of_lt_of_le hb m.after.size) λ h=>(ds b h).elim hn zy
  .have a3:(if idb<=k/\k<idb+8 then M' (hs.length+(k - idb)) else M k)=some g:=hg
   by_cases hc:idb<=k/\k<idb+8
   .rw [if_pos hc] at a3
    rcases ht.new _ g b zy a3 hd with h | h
    .exact ds b h
    .have:=m.after.size
     exact .inr zy
   .rw [if_neg hc] at a3
    exact m.after.new k g b hk a3 hd
theorem ZQ (o:Oper) (c:Call) (f:Operand) (h:o.op = .call c) (hb:c.callee = .value f) (h9:F3 P f=none):BL P np T0 M0 w0 aB st T M a w idb o:=by
 intro K hk;have hc:BI P o=(.call,Ae f::c.args.toList.map Ae):=by simp[BI,h,hb,h9]
 rw[hc] at hk;simp only[List.map_cons,Un] at hk;have ha:=Bw tm f;generalize hX:(Ae f).ev st.get=X at *;generalize hd:a.eval f=fv at *
 cases X<;>(try (simp only[aK] at hk;done))
 rename_i fn first aE
 cases fn<;>(try (simp only[aK] at hk;done))
 rename_i fid;simp only[aK] at hk;obtain⟨ids,sn,raise,aA,hs,res,hs',h6,he,hf,hg,h7,u,h0,hpl,hk⟩:=hk
 cases ha with
 | fn _ _ _ _ us vs h8 hm hh hj =>
 have q:(∃ fn c,P.funcs[fid]? = some fn/\fn.body=some c/\fn.name ≠ "runtime.NumGoroutine")->(execOp a.eval o).run P w = .ok (.enter fid (us++c.args.map a.eval++vs)) w:=by
  rintro⟨fnc,cd,hl,h3,h4⟩
  simp[execOp,h,resolve,hb,hd,Deferred.ofValue,invoke,callFunc,hl,h3,h4]
 have h5:Fm T w M (first++c.args.toList.map ((λ x=>x.ev st.get)∘Ae)++aE) (us++c.args.map a.eval++vs):=by
  refine⟨zu,λ i hi=>?_⟩
  simp only[Qe,Qs,Ul] at hi;simp only[List.getD,QC]
  by_cases h1:i<first.length
  .rw [Qq,QJ h1,Array.append_assoc,Ui zy]
   simpa [List.getD,QC] using hh i h1
  .by_cases h2:i<first.length+c.args.size
   .rw [Qq,Qt zy,QJ zu,Array.append_assoc,Array.getElem?_append_right zy,Ui zu,h8]
    have hi':i - first.length<c.args.size:=zy
    have:=Bw tm c.args[i - first.length]
    simpa [hi'] using this
   .rw [Qt zu,Array.getElem?_append_right zu]
    have:=hj (i - (first.length+c.args.size)) zy
    simp only[List.getD,QC] at this
    simpa [h8] using this
 exact Sn tm m aC aF o fid _ _ q h5 h6 he hf hg h7 u h0 hpl hk
omit tm m aC aF in
theorem bN {q:String} {t:TypeId} {f:FuncId} (h:Am (L7 P q) t=some f):J0 P q t=some (t,f):=by
 have h1:=Ds h;unfold L7 at h1;rw[U9] at h1;obtain⟨u,_,h2⟩:=h1
 have:u=t:=by
  unfold J0 at h2;split at h2
  .split at h2
   .split at h2
    .cases h2;rfl
    .cases h2
   .cases h2
  .cases h2
 subst this;exact h2
omit tm m aC aF in
theorem Zv {q:String} {t:TypeId} {f:FuncId} (h:J0 P q t=some (t,f)) (n:Nat) (v:Value):(method (n+1) t v q).run P w = .ok (f,v) w:=by
 unfold J0 at h;split at h
 case h_2=>cases h
 rename_i i fs hi hu;split at h
 case h_2=>cases h
 rename_i mt hm;split at h
 case h_2=>cases h
 rename_i hp hf
 cases h
 have hp':mt.path.toList=[]:=by
  have:mt.path = #[]:=by simpa using hp
  rw[this]
 have u:mt.path.isEmpty=true:=hp;unfold method;simp[typeInfo,hi,hm,hp',follow,hf,receiverAt,run_underlying hu,Place.get]
theorem Yw (o:Oper) (c:Call) (r:Operand) (u:String) (h:o.op = .call c) (hb:c.callee = .invoke r u):BL P np T0 M0 w0 aB st T M a w idb o:=by
 intro K hk;have hc:BI P o=(.inv (L7 P u),Ae r::c.args.toList.map Ae):=by simp[BI,h,hb]
 rw[hc] at hk;simp only[List.map_cons,Un] at hk;have h9:=Bw tm r;generalize hX:(Ae r).ev st.get=X at *;generalize ha:a.eval r=fv at *
 cases X<;>(try (simp only[aK] at hk;done))
 rename_i t x;simp only[aK] at hk;obtain⟨fid,ids,sn,raise,aA,hs,res,hs',h5,h6,he,hf,hg,h7,h0,h1,hpl,hk⟩:=hk;have h8:=bN h5
 cases h9 with
 | ifc _ _ _ v hv =>
 have q:(∃ fn c,P.funcs[fid]? = some fn/\fn.body=some c/\fn.name ≠ "runtime.NumGoroutine")->(execOp a.eval o).run P w = .ok (.enter fid (#[v]++c.args.map a.eval)) w:=by
  rintro⟨fnc,cd,hh,h2,h3⟩
  have hj:=λ n=>Zv (w:=w) h8 n v
  have hd:∃ n,P.types.size+Made.depth=n+1:=by
   have:Made.depth=1+(Made.depth - 1):=zx
   exact⟨P.types.size+(Made.depth - 1),zy⟩
  obtain⟨n,hn⟩:=hd
  have e0:((#[Value.iface t v]++Array.map a.eval c.args)[0]? : Option Value)=some (.iface t v):=by
   rw[Ui zz];rfl
  have ex:(#[Value.iface t v]++Array.map a.eval c.args).extract 1 (#[Value.iface t v]++Array.map a.eval c.args).size=Array.map a.eval c.args:=by
   apply Array.ext';simp;exact Qc zz
  simp only[execOp,h,resolve,hb,ha,pure_bind,invoke,e0,ex,callMethod];simp[run_program,hn,hj,callFunc,hh,h2,h3]
 have h4:Fm T w M (x::c.args.toList.map ((λ x=>x.ev st.get)∘Ae)) (#[v]++c.args.map a.eval):=by
  refine⟨zu,λ i hi=>?_⟩
  cases i with
  | zero =>
    simp only[List.getD,QC];rw[Ui zz]
    simpa using hv
  | succ i =>
    simp only[QZ,Qs,Ul] at hi;have hi':i<c.args.size:=zy
    have:=Bw tm c.args[i];simp only[List.getD,QC];rw[Array.getElem?_append_right zz]
    simpa [hi'] using this
 exact Sn tm m aC aF o fid _ _ q h4 h6 he hf hg h7 h0 h1 hpl hk
end
end Go.Proofs.YtklclphfcibagaaGreat
namespace Go.Proofs.YtklclphfcibagaaGreat
open Go Go.MapKept
section
variable {T:Nat->Nat} {w:World} {M:GM}
theorem Da.length:∀ {rows:List (List AV)} {es:List MapEntry},Da T w M rows es->rows.length=es.length
 | [],[],_=>rfl
 | _::_,_::_,h=>by simp[Da.length h.2]
 | [],_::_,h=>False.elim h
 | _::_,[],h=>False.elim h
theorem Da.keys:∀ {rows:List (List AV)} {es:List MapEntry},Da T w M rows es -> ∀ e∈es,IsKey (.int .i64) e.key
 | [],[],_,_,h=>nomatch h
 | _::_,e::es,h,x,hx=>by
   rcases Qv.1 hx with rfl | hx
   .obtain ⟨n,_,_,h2,_⟩:=h.1
    rw[h2];rfl
   .exact Da.keys h.2 x hx
 | [],_::_,h,_,_=>False.elim h
 | _::_,[],h,_,_=>False.elim h
theorem Da.find (n:Int):∀ {rows:List (List AV)} {es:List MapEntry} (i:Nat),Da T w M rows es ->
  (∃ j e x,Instr.findNow (.int .i64) (.int .i64 n) es i=some (some (i+j,e.val))/\es[j]? = some e/\e.key = .int .i64 n/\EA n rows=some x/\Ar T w M x e.val /\
   (∀ y v',Ar T w M y v'->Da T w M (Bx n y rows) (es.modify j λ e=>{ e with key:=.int .i64 n,val:=v' }))/\Da T w M (DO n rows) (es.eraseIdx j)) ∨
  (Instr.findNow (.int .i64) (.int .i64 n) es i=some none/\EA n rows=none/\(∀ y v' c,Ar T w M y v'->Da T w M (Bx n y rows) (es++[{ key:=.int .i64 n,val:=v',born:=c }]))/\Da T w M (DO n rows) es)
 | [],[],i,_=>.inr ⟨rfl,rfl,λ y v' c hr=>⟨⟨n,y,rfl,rfl,hr⟩,trivial⟩,trivial⟩
 | row::rows,e::es,i,h=>by
   obtain⟨⟨k,x,h1,h2,h3⟩,h4⟩:=h;subst h1
   by_cases q:n=k
   .subst q
    refine .inl ⟨0,e,x,by simp[Instr.findNow,h2,Instr.sameNow],rfl,h2,by simp[EA],h3,λ y v' hr=>?_,?_⟩
    .simp only[Bx,UQ,List.modify_zero_cons]
     exact⟨⟨n,y,rfl,rfl,hr⟩,h4⟩
    .simp only[DO,UQ,List.eraseIdx_cons_zero]
     exact h4
   .have hf:Instr.findNow (.int .i64) (.int .i64 n) (e::es) i=Instr.findNow (.int .i64) (.int .i64 n) es (i+1):=by
     have:(n == k)=false:=by simpa using q
     simp[Instr.findNow,h2,Instr.sameNow,this]
    have hm:EA n ([.sc (.int .i64 k),x]::rows)=EA n rows:=by simp[EA,q]
    have hs:∀ y,Bx n y ([.sc (.int .i64 k),x]::rows)=[.sc (.int .i64 k),x]::Bx n y rows:=λ y=>by simp[Bx,q]
    have hd:DO n ([.sc (.int .i64 k),x]::rows)=[.sc (.int .i64 k),x]::DO n rows:=by simp[DO,q]
    rcases Da.find n (i+1) h4 with ⟨j,e',x',q1,q2,q3,q4,q5,q6,q7⟩ | ⟨q1,q2,q3,q4⟩
    .refine .inl ⟨j+1,e',x',by rw[hf,q1];congr 3;omega,q2,q3,by rw[hm,q4],q5,λ y v' hr=>?_,?_⟩
     .rw [hs]
      exact⟨⟨k,x,rfl,h2,h3⟩,q6 y v' hr⟩
     .rw [hd]
      exact⟨⟨k,x,rfl,h2,h3⟩,q7⟩
    .refine .inr ⟨by rw[hf,q1],by rw[hm,q2],λ y v' c hr=>?_,?_⟩
     .rw [hs]
      exact⟨⟨k,x,rfl,h2,h3⟩,q3 y v' c hr⟩
     .rw [hd]
      exact⟨⟨k,x,rfl,h2,h3⟩,q4⟩
 | [],_::_,_,h=>False.elim h
 | _::_,[],_,h=>False.elim h
theorem Da.set_len {rows:List (List AV)} {es:List MapEntry} (n:Int) (y:AV):Da T w M rows es->rows.length<=(Bx n y rows).length:=by
 intro h
 induction rows generalizing es with
 | nil=>simp
 | cons row rows ih =>
   cases es with
   | nil=>exact False.elim h
   | cons e es =>
     obtain⟨⟨k,x,h1,_,_⟩,h4⟩:=h;subst h1
     by_cases q:n=k
     .simp [Bx,q]
     .simp only[Bx,if_neg q,QZ]
      exact Nat.succ_le_succ (ih h4)
end
section
variable {np:Nat} {T0:Nat->Nat} {M0:GM} {w0:World} {aB:Nat->Prop} {hp:Nat->Option AX} {T:Nat->Nat} {M:GM} {w:World}
theorem B1.newMap (h:B1 np T0 M0 w0 aB hp T M w) {id:Nat} (hid:¬ aB id) (h8:np<=id) {w1:World} (hh:w1.heap=w.heap.push (.map #[] 0)) (os:w1.os=w.os) (tape:w1.tape=w.tape) (output:w1.output=w.output) {hp':Nat->Option AX} (h7:hp' id=some { s:=0,rows:=[] }) (q:∀ i e',i≠id->hp' i=some e'->hp i=some e') :
  ∃ M':GM,M' id=some ⟨some w.heap.size,0,0⟩/\(∀ i g,M i=some g->M' i=some g)/\B1 np T0 M0 w0 (λ i=>aB i∨i=id) hp' T M' w1/\A4 T w T w1:=by
 have old:∀ b o,w.heap[b]? = some o->w1.heap[b]? = some o:=λ b o hb=>by
  have:b<w.heap.size:=(Q0.1 hb).1;rw[hh,U4,if_neg zy];exact hb
 have p:A4 T w T w1:=⟨λ _=>Qg _,λ b cells ty fz hb=>⟨cells,fz,old _ _ hb,rfl,λ _ _=>rfl⟩⟩
 have u:M id=none:=by
  cases hm:M id with
  | none=>rfl
  | some g=>exact absurd (h.dom id g hm) hid
 have mm:∀ i g,M i=some g->(λ i=>if i=id then some (GE.mk (some w.heap.size) 0 0) else M i) i=some g:=by
  intro i g hg;have:i≠id:=by rintro rfl;rw[u] at hg;cases hg
  simp only[this,Uu];exact hg
 refine⟨λ i=>if i=id then some ⟨some w.heap.size,0,0⟩ else M i,zz,mm,⟨⟨λ i e' he=>?_,λ i i' e1 e2 g g' b h1 h2 h3 h4 h5 h6=>?_⟩,λ i g hg=>?_,?_⟩,p⟩
 .by_cases hi:i=id
  .subst hi
   obtain rfl:=Qj (h7.symm.trans he);exact⟨⟨some w.heap.size,0,0⟩,if_pos rfl,rfl,Qg _,(λ h=>absurd rfl h),(λ e=>by simp at e),(λ _=>⟨w.heap.size,#[],0,rfl,by rw[hh];simp,h.T_zero (Qg _),rfl,trivial⟩),λ h=>absurd rfl h⟩
  .have h0:=q i e' hi he
   obtain⟨g,h1,h2⟩:=h.hs.ent i e' h0;refine⟨g,by simp only[hi,Uu];exact h1,h2.mono p mm λ b hb=>⟨?_,rfl⟩⟩
   have:=h.block_lt h0 h1 hb;rw[hh,U4,if_neg zy]
 .by_cases hi:i=id<;>by_cases hi':i'=id
  .rw [hi,hi']
  .rw [if_pos hi] at h3;rw[if_neg hi'] at h4
   obtain rfl:=Qj h3;have:=h.block_lt (q i' e2 hi' h2) h4 h6;simp at h5;omega
  .rw [if_neg hi] at h3;rw[if_pos hi'] at h4
   obtain rfl:=Qj h4;have:=h.block_lt (q i e1 hi h1) h3 h5;simp at h6;omega
  .rw [if_neg hi] at h3;rw[if_neg hi'] at h4
   exact h.hs.inj i i' e1 e2 g g' b (q i e1 hi h1) (q i' e2 hi' h2) h3 h4 h5 h6
 .by_cases hi:i=id
  .exact .inr hi
  .rw [if_neg hi] at hg;exact .inl (h.dom i g hg)
 .refine h.after.step (λ b hb=>?_) (λ _ _ _=>rfl) (λ k hk=>?_) os tape output (by rw[hh];simp) (λ b hb _=>?_) p λ k g b hk hg hb=>?_
  .obtain ⟨c,ty',fz,h1,h2⟩:=h.after.tok b hb
   exact⟨c,ty',fz,old _ _ h1,h2⟩
  .have:k≠id:=zy
   simp only[this,Uu]
  .have:=h.after.size
   rw[hh,U4,if_neg zy]
  .by_cases hi:k=id
   .rw [if_pos hi] at hg
    obtain rfl:=Qj hg;obtain rfl:=Qj hb;exact .inr h.after.size
   .rw [if_neg hi] at hg
    exact h.after.new k g b hk hg hb
theorem B1.writeMap (h:B1 np T0 M0 w0 aB hp T M w) {id:Nat} {e0 e:AX} {g:GE} {b:Nat} {es es':Array MapEntry} {u clock':Nat} (h0:hp id=some e0) (hg:M id=some g) (hb:g.blk=some b) (h9:e0.s=0) (hw:w.heap[b]? = some (.map es u)) (hz:e.s=0) (ro:e.ro<=e.rows.length) (hm:Da T w M e.rows es'.toList) {hp':Nat->Option AX} (hh:hp' id=some e) (ha:∀ i e',i≠id->hp' i=some e'->hp i=some e') :
  B1 np T0 M0 w0 aB hp' T M { w with heap:=w.heap.setIfInBounds b (.map es' clock') }/\A4 T w T { w with heap:=w.heap.setIfInBounds b (.map es' clock') }:=by
 have q:=heap_set (o':=.map es' clock') hw
 have p:A4 T w T { w with heap:=w.heap.setIfInBounds b (.map es' clock') }:=by
  refine⟨λ _=>Qg _,λ k c t f hk=>⟨c,f,?_,rfl,λ _ _=>rfl⟩⟩;have hj:k≠b:=by rintro rfl;rw[hw] at hk;cases hk
  show (w.heap.setIfInBounds b _)[k]? = _;rw[q.2 k hj];exact hk
 obtain⟨g1,h7,ent0⟩:=h.hs.ent id e0 h0;obtain rfl:=Qj (hg.symm.trans h7);obtain⟨b',es0,clock0,hl,q1,q2,q3,q4⟩:=ent0.mp h9;obtain rfl:=Qj (hb.symm.trans hl)
 have hd:∀ i e' g1 b1,i≠id->hp i=some e'->M i=some g1->g1.blk=some b1->b1≠b:=by
  rintro i e' g1 b1 hi h1 h2 h3 rfl
  exact hi (h.hs.inj i id e' e0 g1 g b1 h1 h0 h2 hg h3 hb)
 refine⟨⟨⟨λ i e' he=>?_,λ i i' e1 e2 g1 g2 b1 h1 h2 h3 h4 h5 h6=>?_⟩,h.dom,?_⟩,p⟩
 .by_cases hi:i=id
  .subst hi
   obtain rfl:e=e':=Qj (hh.symm.trans he);exact⟨g,hg,ent0.s.trans (h9.trans hz.symm),ro,(λ h=>absurd hz h),(λ hn=>by rw[hb] at hn;cases hn),(λ _=>⟨b,es',clock',hb,q.1,q2,q3,hm.mono p λ _ _ h=>h⟩),λ h=>absurd hz h⟩
  .have hf:=ha i e' hi he
   obtain⟨g1,h1,h2⟩:=h.hs.ent i e' hf;exact⟨g1,h1,h2.mono p (λ _ _ h=>h) λ b1 h8=>⟨q.2 b1 (hd i e' g1 b1 hi hf h1 h8),rfl⟩⟩
 .have back:∀ i e1,hp' i=some e1 -> ∃ e2,hp i=some e2:=λ i e1 ho=>by
   by_cases hi:i=id
   .exact ⟨e0,by rw[hi];exact h0⟩
   .exact ⟨e1,ha i e1 hi ho⟩
  obtain⟨f1,hq⟩:=back i e1 h1;obtain⟨f2,hr⟩:=back i' e2 h2;exact h.hs.inj i i' f1 f2 g1 g2 b1 hq hr h3 h4 h5 h6
 .refine h.after.step (λ k hk=>?_) (λ _ _ _=>rfl) (λ k hk=>rfl) rfl rfl rfl zz (λ k hk hn=>?_) p λ k g1 b1 hk h7 h8=>h.after.new k g1 b1 hk h7 h8
  .obtain ⟨c,t,f,h1,h2⟩:=h.after.tok k hk
   obtain⟨c',f',e1,e2,_⟩:=p.cell k c t f h1;exact⟨c',t,f',e1,zy⟩
  .refine q.2 k ?_
   rintro rfl
   rcases h.after.blk hg hb with h1 | h1
   .exact hn h1
   .omega
end
end Go.Proofs.YtklclphfcibagaaGreat
namespace Go.Proofs.YtklclphfcibagaaGreat
open Go Go.MapKept
theorem Mg {P:Program} {t:TypeId} {z:Value} (h:Hk P t=some z):∃ k v i,P.underlying t=some (.map k v)/\P.underlying k=some (.int .i64)/\P.info? v=some i/\i.zero=some z:=by
 unfold Hk at h;split at h
 case h_2=>cases h
 rename_i k v hu;split at h
 case h_2=>cases h
 rename_i i hk hi;exact⟨k,v,i,hu,hk,hi,h⟩
section
variable {P:Program} {np:Nat} {T0:Nat->Nat} {M0:GM} {w0:World} {aB:Nat->Prop} {st:St} {T:Nat->Nat} {M:GM} {a:Act} {w:World} {idb:Nat}
variable (tm:∀ i,Ar T w M (st.get i) (a.tmps.getD i undef)) (m:B1 np T0 M0 w0 aB st.hp T M w) (aC:∀ k,k<8->¬ aB (idb+k)) (aF:np<=idb)
include m
theorem Nx {i:Nat} {e:AX} {v:Value} (hr:Ar T w M (.mp i) v) (he:st.hp i=some e) (hz:e.s=0) :
  ∃ b es clock g,v = .map (some b)/\M i=some g/\g.blk=some b/\w.heap[b]? = some (.map es clock)/\Da T w M e.rows es.toList:=by
 cases hr with
 | mp _ _ g b hg h0 hb =>
   obtain⟨g',q,ent⟩:=m.hs.ent i e he;obtain rfl:=Qj (hg.symm.trans q);obtain⟨b',es,clock,u,q1,q2,q3,q4⟩:=ent.mp hz;obtain rfl:=Qj (hb.symm.trans u);exact⟨_,es,clock,g,rfl,hg,hb,q1,q4⟩
include aC aF in
theorem dS (o:Oper) (t:TypeId) (h:o.op = .makeMap t none):BL P np T0 M0 w0 aB st T M a w idb o:=by
 intro K hk;simp only[BI,h] at hk;split at hk
 case h_2=>exact False.elim hk
 simp only[List.map,aK] at hk;refine⟨_,_,_,hk,?_⟩
 have q:(execOp a.eval o).run P w = .ok (.value (.map (some w.heap.size))) (w.alloc (.map #[] 0)):=by
  have:(Instr.makeMap t none).run P w = .ok (.map (some w.heap.size)) (w.alloc (.map #[] 0)):=rfl;simp[execOp,h,this]
 rw[q]
 obtain⟨M',h1,h2,h3,h4⟩:=m.newMap (aC 0 zy) aF (w1:=w.alloc (.map #[] 0)) rfl rfl rfl rfl (hp':=(st.upd [(idb,some { s:=0,rows:=[] })]).hp) (by rw[St.hp_upd,Uk];simp[Am]) (λ i e' hi he=>by
  rw[St.hp_upd] at he;rw[Uk] at hi
  simpa [Am,Ne.symm hi] using he)
 exact⟨T,M',h3.wider (λ i hi=>hi.elim .inl λ hi=>.inr zy),h4,h2,.mp _ _ _ _ (by simpa using h1) rfl rfl⟩
include tm
theorem Xn (o:Oper) (t:TypeId) (x y:Operand) (ok:Bool) (h:o.op = .lookup t x y ok):BL P np T0 M0 w0 aB st T M a w idb o:=by
 intro K hk;simp only[BI,h] at hk;split at hk
 case h_2=>exact False.elim hk
 rename_i z hz;obtain⟨kt,vt,inf,hu,h1,hi,h4⟩:=Mg hz;simp only[List.map] at hk;have hr:=Bw tm x;have h5:=Bw tm y;generalize hv:a.eval x=v at *;generalize (Ae x).ev st.get=X at *;generalize h3:a.eval y=v' at *;generalize (Ae y).ev st.get=Y at *
 cases X<;>(try (simp only[aK] at hk;done))
 cases Y<;>(try (simp only[aK] at hk;done))
 rename_i i q
 cases q<;>(try (simp only[aK] at hk;done))
 rename_i kd n
 cases kd<;>(try (simp only[aK] at hk;done))
 simp only[aK] at hk;obtain⟨e,he,h6,hk⟩:=hk;obtain rfl:=Cw h5 rfl;obtain⟨b,es,clock,g,rfl,hg,hb,hw,hm⟩:=Nx m hr he h6;have h2:IsKey (.int .i64) (.int .i64 n):=rfl;rcases hm.find n 0 with ⟨j,en,xv,q1,q2,q3,q4,q5,-,-⟩ | ⟨q1,q2,-,-⟩
 .refine ⟨_,_,_,hk,?_⟩
  rw[q4]
  have u:(Instr.lookup t (.map (some b)) (.int .i64 n) ok).run P w = .ok (if ok then .tuple #[en.val,.bool true] else en.val) w:=by
   simp[Instr.lookup,run_underlying hu,Go.MapKept.run_getObj_map hw,run_checkKey h1 h2,run_findKey h1 q1,Result.andThen]
  have h0:(execOp a.eval o).run P w = .ok (.value (if ok then .tuple #[en.val,.bool true] else en.val)) w:=by simp[execOp,h,hv,h3,u]
  cases ok with
  | false=>exact Cd m (by simpa using q5) h0
  | true =>
    refine Cd m (v':=.tuple #[en.val,.bool true]) ?_ h0;refine .tup _ _ _ rfl λ i hi=>?_
    match i,hi with
    | 0,_=>exact q5
    | 1,_=>exact .sc _ _ rfl
 .refine ⟨_,_,_,hk,?_⟩
  rw[q2]
  have u:(Instr.lookup t (.map (some b)) (.int .i64 n) ok).run P w = .ok (if ok then .tuple #[z,.bool false] else z) w:=by
   simp[Instr.lookup,run_underlying hu,Go.MapKept.run_getObj_map hw,run_checkKey h1 h2,run_findKey h1 q1,Result.andThen,zeroValue,typeInfo,hi,h4]
  have h0:(execOp a.eval o).run P w = .ok (.value (if ok then .tuple #[z,.bool false] else z)) w:=by simp[execOp,h,hv,h3,u]
  cases ok with
  | false=>exact Cd m (by simpa using Nt z) h0
  | true =>
    refine Cd m (v':=.tuple #[z,.bool false]) ?_ h0;refine .tup _ _ _ rfl λ i hi=>?_
    match i,hi with
    | 0,_=>exact Nt z
    | 1,_=>exact .sc _ _ rfl
theorem TR (o:Oper) (t:TypeId) (x y u:Operand) (h:o.op = .mapUpdate t x y u∨o.op = .insert t x y u):BL P np T0 M0 w0 aB st T M a w idb o:=by
 intro K hk;have hc:BI P o=(match Hk P t with | some _=>(.mup,[Ae x,Ae y,Ae u]) | none=>(.bad,[])):=by rcases h with h | h<;>(unfold BI;rw[h];rfl)
 rw[hc] at hk
 cases hz:Hk P t with
 | none=>rw[hz] at hk;exact False.elim hk
 | some z =>
 rw[hz] at hk;obtain⟨kt,vt,inf,hu,h3,hi,ho⟩:=Mg hz;simp only[List.map] at hk;have hr:=Bw tm x;have hh:=Bw tm y;have h5:=Bw tm u;generalize hv:a.eval x=v at *;generalize (Ae x).ev st.get=X at *;generalize h6:a.eval y=v' at *;generalize (Ae y).ev st.get=Y at *;generalize h7:a.eval u=v2 at *;generalize (Ae u).ev st.get=U at *
 cases X<;>(try (simp only[aK] at hk;done))
 cases Y<;>(try (simp only[aK] at hk;done))
 rename_i i q
 cases q<;>(try (simp only[aK] at hk;done))
 rename_i kd n
 cases kd<;>(try (simp only[aK] at hk;done))
 simp only[aK] at hk;obtain⟨e,he,h0,hk⟩:=hk;obtain rfl:=Cw hh rfl;obtain⟨b,es,clock,g,rfl,hg,hb,hw,hm⟩:=Nx m hr he h0;have h1:IsKey (.int .i64) (.int .i64 n):=rfl;obtain⟨g',hq,ent⟩:=m.hs.ent i e he;have h8:=hm.set_len n U;have h9:e.ro<=(Bx n U e.rows).length:=QI ent.ro h8;have ha:(st.upd [(i,some { e with rows:=Bx n U e.rows })]).hp i=some { e with rows:=Bx n U e.rows }:=by rw[St.hp_upd];simp[Am]
 have hd:∀ i' e',i'≠i->(st.upd [(i,some { e with rows:=Bx n U e.rows })]).hp i'=some e'->st.hp i'=some e':=λ i' e' hl hf=>by
  rw[St.hp_upd] at hf
  simpa [Am,Ne.symm hl] using hf
 refine⟨_,_,_,hk,?_⟩;rcases hm.find n 0 with ⟨j,en,xv,q1,q2,q3,q4,q5,q6,-⟩ | ⟨q1,q2,q6,-⟩
 .have hj:es[j]? = some en:=by simpa using q2
  have h2:(Instr.mapUpdate t (.map (some b)) (.int .i64 n) v2).run P w = .ok () { w with heap:=w.heap.setIfInBounds b (.map (es.modify j λ e=>{ e with key:=.int .i64 n,val:=v2 }) clock) }:=by
   rw[show (0+j)=j from Ug j] at q1
   simp[Instr.mapUpdate,run_underlying hu,Go.MapKept.run_getObj_map hw,run_checkKey h3 h1,run_findKey h3 q1,hj,q3,run_keyThatStays h1,Go.MapKept.run_setObj_map _ hw,Result.andThen]
  have h4:(execOp a.eval o).run P w = .ok .skip { w with heap:=w.heap.setIfInBounds b (.map (es.modify j λ e=>{ e with key:=.int .i64 n,val:=v2 }) clock) }:=by
   rcases h with h | h<;>simp[execOp,h,hv,h6,h7,h2]
  rw[h4];obtain⟨m1,m2⟩:=m.writeMap he hg hb h0 hw (e:={ e with rows:=Bx n U e.rows }) h0 h9 (es':=es.modify j λ e=>{ e with key:=.int .i64 n,val:=v2 }) (clock':=clock) (by simpa using q6 U v2 h5) ha hd
  exact⟨T,M,m1.wider λ _ h=>.inl h,m2,λ _ _ h=>h,rfl⟩
 .have h2:(Instr.mapUpdate t (.map (some b)) (.int .i64 n) v2).run P w = .ok () { w with heap:=w.heap.setIfInBounds b (.map (es.push { key:=.int .i64 n,val:=v2,born:=clock }) (clock+1)) }:=by
   simp[Instr.mapUpdate,run_underlying hu,Go.MapKept.run_getObj_map hw,run_checkKey h3 h1,run_findKey h3 q1,Go.MapKept.run_setObj_map _ hw,Result.andThen]
  have h4:(execOp a.eval o).run P w = .ok .skip { w with heap:=w.heap.setIfInBounds b (.map (es.push { key:=.int .i64 n,val:=v2,born:=clock }) (clock+1)) }:=by
   rcases h with h | h<;>simp[execOp,h,hv,h6,h7,h2]
  rw[h4];obtain⟨m1,m2⟩:=m.writeMap he hg hb h0 hw (e:={ e with rows:=Bx n U e.rows }) h0 h9 (es':=es.push { key:=.int .i64 n,val:=v2,born:=clock }) (clock':=clock+1) (by simpa using q6 U v2 clock h5) ha hd
  exact⟨T,M,m1.wider λ _ h=>.inl h,m2,λ _ _ h=>h,rfl⟩
theorem j6 (o:Oper) (c:Call) (h:o.op = .call c) (h3:c.callee = .builtin .delete):BL P np T0 M0 w0 aB st T M a w idb o:=by
 intro K hk;simp only[BI,h,h3] at hk;split at hk
 case h_2=>exact False.elim hk
 rename_i t ts x y ht hx;have h5:c.args = #[x,y]:=by rw[<- QU (xs:=c.args),hx]
 have h6:c.argTypes[0]? = some t:=by rw[<- Array.getElem?_toList,ht];rfl
 split at hk
 case h_2=>exact False.elim hk
 rename_i z hz;obtain⟨kt,vt,inf,hu,h0,hi,hh⟩:=Mg hz;simp only[List.map] at hk;have hr:=Bw tm x;have hd:=Bw tm y;generalize hv:a.eval x=v at *;generalize (Ae x).ev st.get=X at *;generalize h7:a.eval y=v' at *;generalize (Ae y).ev st.get=Y at *
 cases X<;>(try (simp only[aK] at hk;done))
 cases Y<;>(try (simp only[aK] at hk;done))
 rename_i i q
 cases q<;>(try (simp only[aK] at hk;done))
 rename_i kd n
 cases kd<;>(try (simp only[aK] at hk;done))
 simp only[aK] at hk;obtain⟨e,he,u,hk⟩:=hk;obtain rfl:=Cw hd rfl;obtain⟨b,es,clock,g,rfl,hg,hb,hw,hm⟩:=Nx m hr he u;have h1:IsKey (.int .i64) (.int .i64 n):=rfl;have h8:(st.upd [(i,some { e with rows:=DO n e.rows,ro:=0 })]).hp i=some { e with rows:=DO n e.rows,ro:=0 }:=by rw[St.hp_upd];simp[Am]
 have h9:∀ i' e',i'≠i->(st.upd [(i,some { e with rows:=DO n e.rows,ro:=0 })]).hp i'=some e'->st.hp i'=some e':=λ i' e' hf ha=>by
  rw[St.hp_upd] at ha
  simpa [Am,Ne.symm hf] using ha
 refine⟨_,_,_,hk,?_⟩;have h2:∀ {w':World},Ar T w' M (.tup []) (.tuple #[]):=.tup _ _ _ rfl λ i hi=>absurd hi (U6 _);rcases hm.find n 0 with ⟨j,en,xv,q1,q2,q3,q4,q5,-,q7⟩ | ⟨q1,q2,-,q7⟩
 .have h4:(execOp a.eval o).run P w = .ok (.value (.tuple #[])) { w with heap:=w.heap.setIfInBounds b (.map (es.eraseIdxIfInBounds j) clock) }:=by
   rw[show (0+j)=j from Ug j] at q1
   simp[execOp,h,resolve,h3,invoke,builtin,Builtin.delete_,h6,h5,hv,h7,run_underlying hu,Go.MapKept.run_getObj_map hw,run_checkKey h0 h1,run_findKey h0 q1,Go.MapKept.run_setObj_map _ hw,Result.andThen]
  rw[h4];obtain⟨m1,m2⟩:=m.writeMap he hg hb u hw (e:={ e with rows:=DO n e.rows,ro:=0 }) u (Qh _) (es':=es.eraseIdxIfInBounds j) (clock':=clock) (by simpa using q7) h8 h9
  exact⟨T,M,m1.wider λ _ h=>.inl h,m2,λ _ _ h=>h,h2⟩
 .have h4:(execOp a.eval o).run P w = .ok (.value (.tuple #[])) { w with heap:=w.heap.setIfInBounds b (.map es clock) }:=by
   simp[execOp,h,resolve,h3,invoke,builtin,Builtin.delete_,h6,h5,hv,h7,run_underlying hu,Go.MapKept.run_getObj_map hw,run_checkKey h0 h1,run_findKey h0 q1,Go.MapKept.run_setObj_map _ hw,Result.andThen]
  rw[h4];obtain⟨m1,m2⟩:=m.writeMap he hg hb u hw (e:={ e with rows:=DO n e.rows,ro:=0 }) u (Qh _) (es':=es) (clock':=clock) q7 h8 h9;exact⟨T,M,m1.wider λ _ h=>.inl h,m2,λ _ _ h=>h,h2⟩
end
theorem PZ:∀ {rows:List (List AV)} {bs:List UInt8},IP rows=some bs -> ∃ ns:List Int,rows=ns.map (λ n=>[AV.sc (.int .u8 n)])/\bs=ns.map λ n=>UInt8.ofNat n.toNat
 | [],bs,h=>by simp[IP] at h;exact⟨[],rfl,h⟩
 | r::rows,bs,h=>by
   unfold IP at h;split at h
   .rename_i e;cases e
   .rename_i n rest e
    cases e;simp only[Qz] at h;obtain⟨bs',h1,rfl⟩:=h;obtain⟨ns,rfl,rfl⟩:=PZ h1;exact⟨n::ns,rfl,rfl⟩
   .cases h
theorem bG {P:Program} {fn:Func} {s:Nat} (h:Il P fn=some s):fn.body.isNone=true/\(fn.name == "runtime.NumGoroutine")=false/\Extern.findNext fn=none /\
  Extern.find fn=some (Extern.SlicesOverlaps.overlaps fn.params fn.resultTypes) /\ ∃ t u e,fn.params = #[t,u]/\P.underlying t=some (.slice e)/\Ce P e=some s:=by
 unfold Il at h;split at h
 case isFalse=>cases h
 rename_i hc;simp only[QW,bne_iff_ne,ne_eq,beq_iff_eq,Option.isNone_iff_eq_none] at hc;obtain⟨⟨⟨⟨⟨⟨h1,h2⟩,h3⟩,h4⟩,h5⟩,h6⟩,h7⟩:=hc;have e1:Extern.allNextRows.lookup "slices.overlaps" = none:=rfl;have e2:Extern.allGenericRows.lookup "slices.overlaps" = none:=rfl;have e3:Extern.allTypedRows.lookup "slices.overlaps" = some Extern.SlicesOverlaps.overlaps:=rfl;refine⟨by simp[h1],by simpa using h2,by simp[Extern.findNext,h3,h4,e1],by simp[Extern.find,h3,h5,h6,h7,e2,e3],?_⟩
 split at h
 case h_2=>cases h
 rename_i t u hp;split at h
 case h_2=>cases h
 rename_i e hu;exact⟨t,u,e,by rw[<- QU (xs:=fn.params),hp],hu,h⟩
theorem Iv:∃ (q:Question) (s1 s2:String),∀ (t u:TypeId) (R:Array TypeId) (a b:Option Addr) (la ca lb cb:Nat),Extern.SlicesOverlaps.overlaps #[t,u] R #[.slice a la ca,.slice b lb cb]=(do
  let some t:=(#[t,u]:Array TypeId)[0]? | stuck s1
  let .slice elem <- underlying t | stuck s2
  let size <- sizeOf elem
  match a,b with
  | some a,some b =>
    if la=0∨lb=0∨size=0 then pure (Value.bool false)
    else if a.block != b.block && (<- frozen a) && (<- frozen b) then unsupported .addressObserved
    else do
     if a.block != b.block then do
      noView a;noView b
      if <- mayBeOne a b then return Value.bool ((<- choose q) == 1)
     pure (Value.bool (a.block == b.block && a.off<b.off+lb*size && b.off<a.off+la*size))
  | _,_=>pure (Value.bool false):Sem Value):=⟨_,"none",_,λ _ _ _ _ _ _ _ _ _=>rfl⟩
section
variable {P:Program} {np:Nat} {T0:Nat->Nat} {M0:GM} {w0:World} {aB:Nat->Prop} {st:St} {T:Nat->Nat} {M:GM} {a:Act} {w:World} {idb:Nat}
variable (tm:∀ i,Ar T w M (st.get i) (a.tmps.getD i undef)) (m:B1 np T0 M0 w0 aB st.hp T M w) (aC:∀ k,k<8->¬ aB (idb+k)) (aF:np<=idb)
include tm m
theorem kR (o:Oper) (t u:TypeId) (x:Operand) (h:o.op = .convert t u x) (e:TypeId) (h1:P.underlying t=some (.slice e)) (h2:P.underlying u=some .string):BL P np T0 M0 w0 aB st T M a w idb o:=by
 intro K hk;have hr:=Bw tm x;simp only[BI,h,h1,h2] at hk;split at hk
 case h_2=>exact False.elim hk
 rename_i he;simp only[List.map,aK] at hk;obtain⟨rows,bs,h3,h6,hk⟩:=hk;obtain⟨ad,cap,us,hv,h9,h5,h7,h8⟩:=Ic m.hs hr h3;obtain⟨ns,rfl,rfl⟩:=PZ h6;refine⟨_,_,_,hk,Cd m (.sc _ _ rfl) ?_⟩
 have q:us=ns.map (Value.int .u8):=by
  apply List.ext_getElem
  .rw [h5.size];simp
  .intro i hi hi'
   have hl:i<ns.length:=by simpa using hi'
   have:=h5.cell i 0 (by simpa using hl) zy
   have e1:(ns.map λ n=>[AV.sc (.int .u8 n)]).getD i []=[AV.sc (.int .u8 ns[i])]:=by simp[List.getD,hl]
   have e2:us.getD (i*1+0) undef=us[i]:=by simp[List.getD,hi]
   rw[e1,e2] at this;have:=Cw this rfl;rw[this];simp
 have h4:(convert t u (a.eval x)).run P w = .ok (.string ⟨(ns.map λ n=>UInt8.ofNat n.toNat).toArray⟩) w:=by
  rw[hv,run_convert_bytes_string w t u e _ _ _ h1 he h2]
  cases ad with
  | none =>
    have h0:=h7 rfl;rw[q] at h0;have:ns=[]:=by simpa using h0
    subst this;simp[Conv.bytesToString];rfl
  | some ad =>
    have hl:(loadCells ad (ns.map λ n=>[AV.sc (.int .u8 n)]).length).run P w = .ok (ns.map (Value.int .u8)).toArray w:=by
     have:=run_loadCells_list (P:=P) w ad us (h8 ad rfl);rw[q] at this
     simpa using this
    rw[run_bytesToString w ad _ cap ns hl,foldl_push_bytes]
    congr 3
    have h0:ByteArray.empty.data = #[]:=rfl;rw[h0];simp
 simp[execOp,h,h4]
theorem Wm (o:Oper) (c:Call) (f:Operand) (h:o.op = .call c) (hb:c.callee = .value f) {s:Nat} (h4:F3 P f=some s):BL P np T0 M0 w0 aB st T M a w idb o:=by
 intro K hk;have hc:BI P o=(.ovl s,c.args.toList.map Ae):=by simp[BI,h,hb,h4]
 rw[hc] at hk
 cases f<;>(try (simp[F3] at h4;done))
 rename_i g0;simp only[F3] at h4;split at h4
 case h_2=>cases h4
 rename_i fn hv;obtain⟨h8,h9,ha,hd,t,u,e,hf,h5,hh⟩:=bG h4
 have h2:∀ w,(sizeOf e).run P w = .ok s w:=by
  intro w;simp only[Ce,Qz] at hh;obtain⟨i,hi,hs⟩:=hh;simp[sizeOf,typeInfo,hi,hs]
 cases hx:c.args.toList with
 | nil=>rw[hx] at hk;simp[aK] at hk
 | cons x xs =>
 cases xs with
 | nil=>rw[hx] at hk;simp[aK] at hk
 | cons y ys =>
 cases ys with
 | cons z zs=>rw[hx] at hk;simp[aK] at hk
 | nil =>
 have hw:c.args = #[x,y]:=by rw[<- QU (xs:=c.args),hx]
 rw[hx] at hk;simp only[List.map_cons,UT] at hk;have hy:=Bw tm x;have a0:=Bw tm y;generalize a3:a.eval x=v1 at *;generalize a4:a.eval y=v2 at *;generalize (Ae x).ev st.get=X at *;generalize (Ae y).ev st.get=Y at *
 cases X<;>(try (simp only[aK] at hk;done))
 cases Y<;>(try (simp only[aK] at hk;done))
 rename_i s1 full rows id off len cap2;simp only[aK] at hk;obtain⟨en,a5,hj,hl,a6,hk⟩:=hk;have hm:s=s1:=hj.symm
 clear hj
 subst hm;refine⟨_,_,_,hk,Cd m (.sc _ _ rfl) ?_⟩
 cases hy with
 | vs _ _ _ _ a1 cap1 c1 bo bb bp a7 bs bt =>
 cases a0 with
 | rk _ _ _ _ _ a2 g hg hz c0 a8 a9 =>
 obtain⟨g',ag,ent⟩:=m.hs.ent id en a5;obtain rfl:=Qj (hg.symm.trans ag);have hS:g.s=s:=ent.s.trans hl
 have he:∀ n,n=rows.length->(Extern.SlicesOverlaps.overlaps fn.params fn.resultTypes #[.slice a1 n cap1,.slice a2 len cap2]).run P w = .ok (.bool false) w:=by
  intro n hn;obtain⟨q,s1,s2,Iv⟩:=Iv;rw[hf]
  cases a1 with
  | none=>simp[Iv,run_underlying h5,h2]
  | some x1 =>
  cases a2 with
  | none=>simp[Iv,run_underlying h5,h2]
  | some x2 =>
  by_cases h0:n=0∨len=0∨s=0
  .simp [Iv,run_underlying h5,h2,h0]
  .have ai:rows≠[]:=by rintro rfl;simp at hn;omega
   obtain⟨b,o1,cells,ty,fz,am,h6,c2,-⟩:=a7 ai;have hpos:0<rows.length*s:=Nat.mul_pos zy zy
   obtain⟨cA,tA,fA,hA,c3⟩:=m.after.tok b zy
   rw[h6] at hA;injection hA with hA;injection hA with an aq au;subst an aq au
   cases h7:g.blk with
   | none=>have:=a8 h7;omega
   | some b2 =>
   obtain⟨av,-⟩:=a9 b2 h7;obtain⟨cB,tB,hB,b0,be,-⟩:=ent.blk (ent.s ▸ hz) b2 h7
   have ho:x2=⟨b2,g.base+off*g.s,none⟩:=by
    rcases av with h | h
    .omega
    .exact Qj h
   obtain rfl:=Qj am;subst ho;have hq:en.ro*en.s<=off*en.s:=QF _ a6;rw[hl] at hq b0;have b1:w.frozen? ⟨b2,g.base+off*g.s,none⟩=false:=by simp[World.frozen?,hB]
   have hr:w.frozen? ⟨b2,cB.size,none⟩=false:=by simp[World.frozen?,hB]
   have b3:w.shape? b=some (ty,cells.size):=by simp[World.shape?,h6]
   have b4:w.shape? b2=some (tB,cB.size):=by simp[World.shape?,hB]
   by_cases ht:b=b2
   .subst ht
    simp[Iv,run_underlying h5,h2,h0];intro h1;rw[hS,hn];omega
   .have b5:cells.size≠0:=zy
    generalize c4:cells.size=kA at *
    cases kA with
    | zero=>exact absurd rfl b5
    | succ kA =>
      cases b6:w.frozen? ⟨b,o1,none⟩<;>cases b7:w.frozen? ⟨b,kA+1,none⟩ <;>
      simp[Iv,run_underlying h5,h2,h0,ht,frozen,noView,viewAt,mayBeOne,stringish,shape,Sem.run,b3,b4,b1,hr,b6,b7]
 have hu:=he _ rfl;have h3:=run_callFunc_extern hv h9 h8 ha hd #[.slice a1 rows.length cap1,.slice a2 len cap2] w;rw[hu] at h3;simp only[Result.andThen] at h3;have b8:a.eval (.func g0) = .func (.func g0) #[] #[]:=rfl;simp[execOp,h,resolve,hb,b8,Deferred.ofValue,invoke,hw,a3,a4,h3]
include aC aF
theorem RS (o:Oper):BL P np T0 M0 w0 aB st T M a w idb o:=by
 have bad:(BI P o).1 = .bad->BL P np T0 M0 w0 aB st T M a w idb o:=by
  intro hb K hk;rw[hb] at hk;exact False.elim (by cases h:(BI P o).2.map (·.ev st.get)<;>(rw[h] at hk;exact hk))
 cases q:o.op with
 | move x=>exact Pw tm m o x (.inl q)
 | assign x=>exact Pw tm m o x (.inr q)
 | pick c x y=>exact gJ tm m o c x y q
 | alloc t=>exact W4 m aC aF o t q
 | box t x=>exact Zh tm m aC aF o t x q
 | build t ps=>exact aM tm m o t ps q
 | buildSlice t n ps=>exact gQ tm m aC aF o t n ps q
 | load t x=>exact V7 tm m o t x q
 | store t x y=>exact Yk tm m o t x y q
 | nilCheck x=>exact X9 tm m o x q
 | binOp op t x y u=>exact dO tm m o op t u x y q
 | unOp op t x=>exact j7 tm m o op t x q
 | convert t u x =>
   cases h1:P.underlying t with
   | none=>exact bad (by simp[BI,q,h1])
   | some d1 =>
     cases h2:P.underlying u with
     | none=>exact bad (by simp[BI,q,h1,h2])
     | some d2 =>
       by_cases q1:∃ k k',d1 = .int k/\d2 = .int k'
       .obtain ⟨k,k',rfl,rfl⟩:=q1
        exact WR tm m o t u x q k k' h1 h2
       .by_cases q2:∃ e,d1 = .slice e/\d2 = .string
        .obtain ⟨e,rfl,rfl⟩:=q2
         exact kR tm m o t u x q e h1 h2
        .refine bad ?_
         simp only[BI,q,h1,h2];split
         .rename_i e1 e2;cases e1;cases e2;exact absurd ⟨_,_,rfl,rfl⟩ q1
         .rename_i e1 e2;cases e1;cases e2;exact absurd ⟨_,rfl,rfl⟩ q2
         .rfl
 | makeFunc f first aE =>
   cases f with
   | func f=>exact iG tm m o f first aE q
   | _=>exact bad (by simp[BI,q])
 | makeSlice t x y=>exact iN tm m aC aF o t x y q
 | slice t x lo hi mx=>exact YQ tm m o t x lo hi mx q
 | fieldAddr t x f=>exact Ya tm m o t x f q
 | field t x f=>exact jV tm m o t x f q
 | indexAddr t x y=>exact aZ tm m o t x y q
 | index t x y=>exact jT tm m o t x y q
 | extract x i=>exact iL tm m o x i q
 | call c =>
   cases hc:c.callee with
   | value f =>
     cases h0:F3 P f with
     | none=>exact ZQ tm m aC aF o c f q hc h0
     | some s=>exact Wm tm m o c f q hc h0
   | invoke r n=>exact Yw tm m aC aF o c r n q hc
   | builtin b =>
     cases b with
     | append=>exact YG tm m aC aF o c q hc
     | copy=>exact iU tm m o c q hc
     | clear=>exact iB tm m o c q hc
     | cap=>exact ZD tm m o c q hc
     | len =>
       cases ht:c.argTypes.toList with
       | nil=>exact bad (by simp[BI,q,hc,ht])
       | cons t ts =>
         cases ts with
         | cons t' ts=>exact bad (by simp[BI,q,hc,ht])
         | nil =>
           cases hx:c.args.toList with
           | nil=>exact bad (by simp[BI,q,hc,ht,hx])
           | cons x xs =>
             cases xs with
             | cons x' xs=>exact bad (by simp[BI,q,hc,ht,hx])
             | nil=>exact dI tm m o c q hc t x ht hx
     | max=>exact TV tm m o c q true (by simpa using hc)
     | min=>exact TV tm m o c q false (by simpa using hc)
     | delete=>exact j6 tm m o c q hc
     | _=>exact bad (by simp[BI,q,hc])
 | makeInterface t x=>exact bJ tm m o t x q
 | makeMap t r =>
   cases r with
   | none=>exact dS m aC aF o t q
   | some r=>exact bad (by simp[BI,q])
 | lookup t x y ok=>exact Xn tm m o t x y ok q
 | mapUpdate t x y u=>exact TR tm m o t x y u (.inl q)
 | insert t x y u=>exact TR tm m o t x y u (.inr q)
 | _=>exact bad (by simp[BI,q])
end
variable {o:Oper} {ops:Array Oper}
section
variable {P:Program} {np:Nat} {T0:Nat->Nat} {M0:GM} {w0:World} {aB:Nat->Prop} {st:St} {T:Nat->Nat} {M:GM} {a:Act} {w:World}
theorem Ok.mem (ok:Ok np T0 M0 w0 aB st T M a w):B1 np T0 M0 w0 aB st.hp T M w:=⟨ok.hs,ok.dom,ok.after⟩
theorem Ok.wider (ok:Ok np T0 M0 w0 aB st T M a w) {q:Nat->Prop} (h:∀ i,aB i->q i):Ok np T0 M0 w0 q st T M a w :=
 ⟨ok.sz,ok.df,ok.tm,ok.hs,λ id g hg=>h _ (ok.dom id g hg),ok.after⟩
theorem Ok.ext (ok:Ok np T0 M0 w0 aB st T M a w) {st':St} (h1:st'.sz=st.sz) (h2:∀ i,st'.get i=st.get i) (h3:∀ i,st'.hp i=st.hp i):Ok np T0 M0 w0 aB st' T M a w:=by
 have e:st'.hp=st.hp:=funext h3;exact⟨ok.sz.trans h1.symm,ok.df,λ i=>by rw[h2];exact ok.tm i,by rw[e];exact ok.hs,ok.dom,ok.after⟩
theorem St.sz_put (st:St) (d:Option Nat) (v:AV):(st.put d v).sz=st.sz:=by cases d<;>rfl
theorem PN (a:Act) (d:Option Nat) (v:Value):(a.put d v).tmps.size=a.tmps.size:=by
 cases d<;>simp[Act.put]
theorem NH (a:Act) (d:Option Nat) (v:Value):(a.put d v).defers=a.defers:=by cases d<;>rfl
theorem SV (ok:Ok np T0 M0 w0 aB st T M a w) (hd:o.dst.all (· < st.sz)=true) {id:Nat} {v:AV} {up:List (Nat × Option AX)} (he:E2 P np T0 M0 w0 aB id (st.upd up).hp T M w v ((execOp a.eval o).run P w)) {next:Act->World->Prop} {Q:Exit->Act->World->Prop} (hn:∀ T' M' a' w',Ok np T0 M0 w0 (λ i=>aB i∨(id<=i/\i<id+8)) ((st.put o.dst v).upd up) T' M' a' w'->next a' w'):o.wp P a w next Q:=by
 have fin:∀ T' M' w' v',B1 np T0 M0 w0 (λ i=>aB i∨(id<=i/\i<id+8)) (st.upd up).hp T' M' w'->A4 T w T' w'->(∀ i g,M i=some g->M' i=some g)->Ar T' w' M' v v'->next (a.put o.dst v') w':=by
  intro T' M' w' v' hm hp hM hr;refine hn T' M' _ w' ⟨?_,?_,?_,?_,hm.dom,hm.after⟩
  .rw [PN]
   exact ok.sz.trans (St.sz_put _ _ _).symm
  .rw [NH];exact ok.df
  .exact O5 ok.sz (λ i=>(ok.tm i).mono hp hM) hd hr
  .have e:((st.put o.dst v).upd up).hp=(st.upd up).hp:=by
    funext i
    rw[St.hp_upd,St.hp_upd,St.hp_put]
   rw[e];exact hm.hs
 unfold Oper.wp;generalize q:(execOp a.eval o).run P w=r at *
 cases r with
 | halt h w'=>exact False.elim he
 | ok n w' =>
   cases n with
   | value v' =>
     obtain⟨T',M',h1,h2,h3,h4⟩:=he;exact fin T' M' w' v' h1 h2 h3 h4
   | skip =>
     obtain⟨T',M',h1,h2,h3,rfl⟩:=he;exact fin T' M' w' undef h1 h2 h3 (.dead _ _)
   | enter f args =>
     obtain⟨rfl,hc⟩:=he;refine hc.mono ?_
     rintro e w'' ⟨v',T',M',rfl,h1,h2,h3,h4⟩
     exact fin T' M' w'' v' h1 h2 h3 h4
   | _=>exact False.elim he
theorem To (tm:∀ i,Ar T w M (st.get i) (a.tmps.getD i undef)) {j d:Nat} {q:Bool} {b:Option Bool} (hg:o.guard=some (j,q)) (hj:(ops[j]?).bind (·.dst)=some d) (hb:II (st.get d)=some b) :
  Region.wanted o (yielded ops a.tmps)=(b == some q):=by
 have h1:=tm d;unfold II at hb;split at hb
 .rename_i b' heq
  obtain rfl:=Qj hb;rw[heq] at h1;have h2:=Cw h1 rfl
  have h3:a.tmps[d]? = some (.bool b'):=by
   rw[QC] at h2
   cases h:a.tmps[d]? with
   | none=>rw[h] at h2;cases h2
   | some v=>rw[h] at h2;simp at h2;rw[h2]
  simp only[Region.wanted,hg,yielded,hj,Option.bind_some,h3]
 .rename_i heq
  obtain rfl:=Qj hb;rw[heq] at h1
  have h3:a.tmps[d]? = none ∨ ∃ vs,a.tmps[d]? = some (.tuple vs):=by
   rw[QC] at h1
   cases h:a.tmps[d]? with
   | none=>exact .inl rfl
   | some v =>
     rw[h] at h1;simp only[QH] at h1
     cases h1;exact .inr ⟨_,rfl⟩
  rcases h3 with h3 | ⟨vs,h3⟩<;>simp only[Region.wanted,hg,yielded,hj,Option.bind_some,h3]<;>rfl
 .cases hb
theorem Lo:(B7 P ops o).dst=o.dst/\((o.guard=none/\(B7 P ops o).guard=none/\(B7 P ops o).op=(BI P o).1/\(B7 P ops o).xs=(BI P o).2) ∨
  (∃ j want d,o.guard=some (j,want)/\(ops[j]?).bind (·.dst)=some d/\(B7 P ops o).guard=some (d,want)/\(B7 P ops o).op=(BI P o).1/\(B7 P ops o).xs=(BI P o).2) ∨
  ((B7 P ops o).guard=none/\(B7 P ops o).op = .bad/\(B7 P ops o).xs=[])):=by
 unfold B7
 cases hg:o.guard with
 | none=>exact⟨rfl,.inl ⟨rfl,rfl,rfl,rfl⟩⟩
 | some p =>
   obtain⟨j,want⟩:=p;simp only
   cases hj:(ops[j]?).bind (·.dst) with
   | none=>exact⟨rfl,.inr (.inr ⟨rfl,rfl,rfl⟩)⟩
   | some d=>exact⟨rfl,.inr (.inl ⟨j,want,d,rfl,hj,rfl,rfl,rfl⟩)⟩
theorem Nj {ops:Array Oper} {n:Nat} (h5:np<=n) {Q:Exit->Act->World->Prop} {K:St->List (List Nat × List Nat)->Prop} (hQ:∀ st tr T M a w,K st tr->Ok np T0 M0 w0 (G8 (n+8*ops.size)) st T M a w->Q .normal a w) :
  ∀ (k i:Nat) (st:St) (tr:List (List Nat × List Nat)) (T:Nat->Nat) (M:GM) (a:Act) (w:World),i+k=ops.size->(∀ o∈ops,o.dst.all (· < st.sz)=true) ->
    Ok np T0 M0 w0 (G8 (n+8*i)) st T M a w->B8 P np n i ((ops.toList.map (B7 P ops)).drop i) st tr K->wpOps P ops Q (List.range' i k) a w
 | 0,i,st,tr,T,M,a,w,hi,hd,ok,h=>by
   have e:(ops.toList.map (B7 P ops)).drop i=[]:=by rw[List.drop_eq_nil_iff];simp;omega
   rw[e] at h;obtain rfl:i=ops.size:=zy
   exact hQ st tr T M a w h ok
 | k+1,i,st,tr,T,M,a,w,hi,hd,ok,h=>by
   have h0:i<ops.size:=zy
   have e:(ops.toList.map (B7 P ops)).drop i=B7 P ops ops[i]::(ops.toList.map (B7 P ops)).drop (i+1):=by
    rw[QX (by simpa using h0)]
    simp
   rw[e] at h;have ho:ops[i]? = some ops[i]:=Array.getElem?_eq_getElem h0;have h6:=hd _ (Array.getElem_mem h0);rw[List.range'_succ,wpOps_cons];simp only[wpOp,ho]
   have run:(aK P np (n+8*i) (BI P ops[i]).1 ((BI P ops[i]).2.map (·.ev st.get)) st.hp λ v rd up=>B8 P np n (i+1) ((ops.toList.map (B7 P ops)).drop (i+1)) ((st.put ops[i].dst v).upd up) (tr++[(rd,up.map (·.1))]) K) ->
     ops[i].wp P a w (wpOps P ops Q (List.range' (i+1) k)) Q:=by
    intro hk;obtain⟨v,rd,up,h1,h2⟩:=RS ok.tm ok.mem (idb:=n+8*i) (λ q hq hl=>by have:n+8*i+q<n+8*i:=hl;omega) zy ops[i] _ hk
    refine SV ok h6 h2 λ T' M' a' w' ok'=>?_;refine Nj h5 hQ k (i+1) _ _ T' M' a' w' zy (λ o ho=>?_) (ok'.wider λ j hj=>?_) h1
    .show o.dst.all (· < (st.put _ _).sz)=true
     rw[St.sz_put];exact hd o ho
    .rcases hj with hj | hj
     .have:j<n+8*i:=hj
      show j<n+8*(i+1);omega
     .show j<n+8*(i+1)
      omega
   simp only[B8] at h;obtain⟨u,hc⟩:=Lo (P:=P) (ops:=ops) (o:=ops[i]);rcases hc with ⟨g1,g2,g3,g4⟩ | ⟨j,want,d,g1,g2,g3,g4,g5⟩ | ⟨g1,g2,g3⟩
   .rw [g2] at h
    simp only[g3,g4,u] at h;have h3:Region.wanted ops[i] (yielded ops a.tmps)=true:=by simp[Region.wanted,g1]
    rw[if_pos h3];exact .inl (run h)
   .rw [g3] at h
    simp only[g4,g5,u] at h;obtain⟨b,hb,h⟩:=h;have h3:=To ok.tm g1 g2 hb;rw[h3]
    by_cases h4:b=some want
    .subst h4
     simp only[UQ,beq_self_eq_true] at h ⊢;exact .inl (run h)
    .rw [if_neg h4] at h
     rw[if_neg (by simpa using h4)]
     refine Nj h5 hQ k (i+1) (st.put ops[i].dst (.tup [])) _ T M (a.put ops[i].dst undef) w zy (λ o ho=>by rw[St.sz_put];exact hd o ho) ?_ h
     refine⟨by rw[PN,St.sz_put];exact ok.sz,by rw[NH];exact ok.df,O5 ok.sz ok.tm h6 (.tup _ [] #[] rfl (λ i hi=>by simp at hi)),?_,λ id g hg=>?_,ok.after⟩
     .have e:(st.put ops[i].dst (.tup [])).hp=st.hp:=by funext q;rw[St.hp_put]
      rw[e];exact ok.hs
     .have:id<n+8*i:=ok.dom id g hg
      show id<n+8*(i+1);omega
   .rw [g1] at h
    simp only[g2,g3] at h;exact False.elim h
end
variable {x:AV}
theorem OA {α β:Type} {f g:α->Option β}:∀ {l:List α},(∀ x∈l,f x=g x)->l.filterMap f=l.filterMap g
 | [],_=>rfl
 | x::l,h=>by
   rw[UP,UP,h x Qp,OA λ y hy=>h y (Qo _ hy)]
section
variable {P:Program} {np id:Nat} {op:FY} {xs:List AV} {h:Nat->Option AX}
theorem Nn {K:AV->List Nat->List (Nat × Option AX)->Prop} (hk:aK P np id op xs h K) :
  ∃ v rd up,K v rd up/\aK P np id op xs h λ v' rd' up'=>v'=v/\rd'=rd/\up'=up:=by
 by_cases u:∃ s b x y,op = .app s b/\xs=[x,y]/\¬ ∃ i o l c,x=AV.rk i o l c
 .obtain ⟨s,b,x,y,rfl,rfl,hx⟩:=u
  simp only[KP hx] at hk ⊢;obtain⟨a,b,c,d,e,f,hk⟩:=hk;exact⟨_,_,_,hk,a,b,c,d,e,f,rfl,rfl,rfl⟩
 unfold aK at hk ⊢;split at hk
 all_goals first
  | exact False.elim hk
  | exact⟨_,_,_,hk,rfl,rfl,rfl⟩
  | (exfalso;exact u ⟨_,_,_,_,rfl,rfl,λ ⟨_,_,_,_,e⟩=>by subst e;simp_all⟩)
  | (obtain⟨a,b,c,d,e,f,g,i,j,hk⟩:=hk
     split at hk
     .rename_i hc
      exact⟨_,_,_,hk,a,b,c,d,e,f,g,i,j,by rw[if_pos hc];exact⟨rfl,rfl,rfl⟩⟩
     .rename_i hc
      exact⟨_,_,_,hk,a,b,c,d,e,f,g,i,j,by rw[if_neg hc];exact⟨rfl,rfl,rfl⟩⟩)
  | (obtain⟨a,b,hk⟩:=hk;exact⟨_,_,_,hk,a,b,rfl,rfl,rfl⟩)
  | (obtain⟨a,hk⟩:=hk;exact⟨_,_,_,hk,a,rfl,rfl,rfl⟩)
  | (obtain⟨a,b,c,hk⟩:=hk;exact⟨_,_,_,hk,a,b,c,rfl,rfl,rfl⟩)
  | (obtain⟨a,b,c,d,hk⟩:=hk;exact⟨_,_,_,hk,a,b,c,d,rfl,rfl,rfl⟩)
  | (obtain⟨a,b,c,d,e,hk⟩:=hk;exact⟨_,_,_,hk,a,b,c,d,e,rfl,rfl,rfl⟩)
  | (obtain⟨a,b,c,d,e,f,hk⟩:=hk;exact⟨_,_,_,hk,a,b,c,d,e,f,rfl,rfl,rfl⟩)
  | (obtain⟨a,b,c,d,e,f,g,hk⟩:=hk;exact⟨_,_,_,hk,a,b,c,d,e,f,g,rfl,rfl,rfl⟩)
  | (obtain⟨a,b,c,d,e,f,g,i,hk⟩:=hk;exact⟨_,_,_,hk,a,b,c,d,e,f,g,i,rfl,rfl,rfl⟩)
  | (obtain⟨a,b,c,d,e,f,g,i,j,hk⟩:=hk;exact⟨_,_,_,hk,a,b,c,d,e,f,g,i,j,rfl,rfl,rfl⟩)
  | (obtain⟨a,b,c,d,e,f,g,i,j,k,l,m,n,o,p,hk⟩:=hk;exact⟨_,_,_,hk,a,b,c,d,e,f,g,i,j,k,l,m,n,o,p,rfl,rfl,rfl⟩)
  | (obtain⟨a,b,c,d,e,f,g,i,j,k,l,m,n,o,p,q,r,hk⟩:=hk;exact⟨_,_,_,hk,a,b,c,d,e,f,g,i,j,k,l,m,n,o,p,q,r,rfl,rfl,rfl⟩)
  | (obtain⟨l,r,n,a,b,c,d,e,f,g,hk⟩:=hk
     split at hk
     .obtain ⟨i,j,k,hk⟩:=hk;exact⟨_,_,_,hk,l,r,n,a,b,c,d,e,f,g,i,j,k,rfl,rfl,rfl⟩
     .obtain ⟨i,j,k,hk⟩:=hk;exact⟨_,_,_,hk,l,r,n,a,b,c,d,e,f,g,i,j,k,rfl,rfl,rfl⟩
     .obtain ⟨i,j,k,q,hk⟩:=hk;exact⟨_,_,_,hk,l,r,n,a,b,c,d,e,f,g,i,j,k,q,rfl,rfl,rfl⟩
     .obtain ⟨i,j,hk⟩:=hk;exact⟨_,_,_,hk,l,r,n,a,b,c,d,e,f,g,i,j,rfl,rfl,rfl⟩
     .exact False.elim hk)
variable {h':Nat->Option AX}
theorem gA (hh:∀ i∈CP x,h' i=h i):Ft h' x=Ft h x:=by
 cases x with
 | pt i j k =>
   simp only[Ft];rw[hh i (by simp[CP])]
 | _=>rfl
theorem JL {s:Nat} (hh:∀ i∈CP x,h' i=h i):Cx s h' x=Cx s h x:=by
 cases x with
 | rs i j k =>
   simp only[Cx];rw[hh i (by simp[CP])]
 | rk i j k c =>
   simp only[Cx];rw[hh i (by simp[CP])]
 | sc k =>
   unfold Cx;split<;>first | rfl | (rename_i e;cases e) | simp_all
 | _=>rfl
theorem WJ {n:Nat}:CP (EN n x)=CP x:=by cases x<;>rfl
theorem P3 {s:Nat} {new:List (List AV)} (hh:∀ i∈CP x,h' i=h i):EL s h' new x=EL s h new x:=by
 cases x with
 | rs i j k =>
   simp only[EL];rw[hh i (by simp[CP])]
 | sc k =>
   unfold EL;split<;>first | rfl | (rename_i e;cases e) | simp_all
 | vs s' f rows=>cases f<;>rfl
 | _=>rfl
theorem PG {sn:List Nat} (hh:∀ i∈sn,h' i=h i):∀ (n:Nat) (ρ:List (Nat × Nat)) (x:AV),conv ρ sn h' n x=conv ρ sn h n x
 | 0,_,_=>rfl
 | n+1,ρ,x=>by
   have ih:=λ ρ=>funext (PG hh n ρ);have ih':∀ ρ,conv ρ sn h' n=conv ρ sn h n:=ih
   cases x with
   | rs id off len =>
     simp only[conv,ih']
     split
     .rfl
     .split
      .rename_i q;rw[hh id q]
      .rfl
   | rk id off len cap =>
     simp only[conv,ih']
     split
     .rfl
     .split
      .rename_i q;rw[hh id q]
      .rfl
   | pt id i j =>
     simp only[conv,ih']
     split
     .rfl
     .split
      .rename_i q;rw[hh id q]
      .rfl
   | _=>simp only[conv,ih']
theorem bO {v:AV} {rd:List Nat} {up:List (Nat × Option AX)} (hk:aK P np id op xs h λ v' rd' up'=>v'=v/\rd'=rd/\up'=up) (hh:∀ i∈rd,h' i=h i) :
  aK P np id op xs h' λ v' rd' up'=>v'=v/\rd'=rd/\up'=up:=by
 by_cases h9:∃ s b x y,op = .app s b/\xs=[x,y]/\¬ ∃ i o l c,x=AV.rk i o l c
 .obtain ⟨s,b,x,y,rfl,rfl,hx⟩:=h9
  simp only[KP hx] at hk ⊢;obtain⟨new,old,h1,h2,h3,h4,rfl,rfl,rfl⟩:=hk;exact⟨new,old,by rw[JL λ i hi=>hh i (UE _ hi)];exact h1,by rw[P3 λ i hi=>hh i (Q2 _ hi)];exact h2,h3,h4,rfl,rfl,rfl⟩
 unfold aK at hk ⊢;split at hk
 all_goals try exact hk
 .
  obtain⟨cs,h1,h2,rfl,rfl,rfl⟩:=hk;exact⟨cs,by rw[gA hh];exact h1,h2,rfl,rfl,rfl⟩
 .obtain ⟨e,row,cs,h1,h2,h3,h4,h5,h6,rfl,rfl,rfl⟩:=hk
  exact⟨e,row,cs,by rw[hh _ zz];exact h1,h2,h3,h4,h5,h6,rfl,rfl,rfl⟩
 .obtain ⟨rows,bs,h1,h2,rfl,rfl,rfl⟩:=hk
  exact⟨rows,bs,by rw[JL hh];exact h1,h2,rfl,rfl,rfl⟩
 .obtain ⟨l,r,n,a,b,c,d,e,f,g,hk⟩:=hk
  refine⟨l,r,n,a,b,c,d,e,f,g,?_⟩;split at hk
  .exact hk
  .obtain ⟨h0,h1,⟨en,h2,h3⟩,rfl,rfl,rfl⟩:=hk
   exact⟨h0,h1,⟨en,by rw[hh _ zz];exact h2,h3⟩,rfl,rfl,rfl⟩
  .obtain ⟨h0,h1,h4,⟨en,h2,h3⟩,rfl,rfl,rfl⟩:=hk
   exact⟨h0,h1,h4,⟨en,by rw[hh _ zz];exact h2,h3⟩,rfl,rfl,rfl⟩
  .exact hk
  .exact False.elim hk
 .obtain ⟨h1,h2,⟨en,h3,h4⟩,rfl,rfl,rfl⟩:=hk
  exact⟨h1,h2,⟨en,by rw[hh _ zz];exact h3,h4⟩,rfl,rfl,rfl⟩
 .obtain ⟨ids,sn,raise,aA,hs,res,hs',q1,q2,q3,q4,q5,q6,q7,q8,rfl,rfl,rfl⟩:=hk
  have q:∀ i∈sn,h' i=h i:=λ i hi=>hh i (UE _ hi);have hid:∀ i∈ids,h' i=h i:=λ i hi=>hh i (Q2 _ hi);have u:∀ n ρ,conv ρ sn h' n=conv ρ sn h n:=λ n ρ=>funext (PG q n ρ)
  refine⟨ids,sn,raise,aA,hs,res,hs',q1,q2,q3,by rw[u];exact q4,?_,q6,q7,q8,rfl,rfl,?_⟩
  .rw [<- q5]
   refine Ut λ i hi=>?_;rw[hid i hi];have:Ak ids.zipIdx sn h' 4=Ak ids.zipIdx sn h 4:=by funext e;simp only[Ak,u]
   rw[this]
  .congr 1
   split
   .refine OA λ i hi=>?_
    rw[q i hi]
   .rfl
 .obtain ⟨new,e,h1,h2,h3,h4,h5,h6,h7,hk⟩:=hk
  have ha:∀ i∈rd,h' i=h i:=hh;split at hk<;>rename_i hc<;>obtain⟨rfl,rfl,rfl⟩:=hk
  .exact ⟨new,e,by rw[JL λ i hi=>hh i (Qo _ hi)];exact h1,by rw[hh _ (Qp)];exact h2,h3,h4,h5,h6,h7,by rw[if_pos hc];exact⟨rfl,rfl,rfl⟩⟩
  .exact ⟨new,e,by rw[JL λ i hi=>hh i (Qo _ hi)];exact h1,by rw[hh _ (Qp)];exact h2,h3,h4,h5,h6,h7,by rw[if_neg hc];exact⟨rfl,rfl,rfl⟩⟩
 .exfalso;exact h9 ⟨_,_,_,_,rfl,rfl,λ ⟨_,_,_,_,e⟩=>by subst e;simp_all⟩
 .obtain ⟨old,h2,h3,rfl,rfl,rfl⟩:=hk
  exact⟨old,by rw[P3 hh];exact h2,h3,rfl,rfl,rfl⟩
 .obtain ⟨e,h1,h2,h3,h4,h5,h6,h7,h8,rfl,rfl,rfl⟩:=hk
  exact⟨e,by rw[hh _ zz];exact h1,h2,h3,h4,h5,h6,h7,h8,rfl,rfl,rfl⟩
 .obtain ⟨e,new,h1,h2,h3,h4,h5,rfl,rfl,rfl⟩:=hk
  exact⟨e,new,by rw[hh _ (Qp)];exact h1,h2,h3,h4,by rw[JL λ i hi=>hh i (Qo _ hi)];exact h5,rfl,rfl,rfl⟩
 .obtain ⟨e,new,m,h1,h2,h3,h4,h5,h6,rfl,rfl,rfl⟩:=hk
  exact⟨e,new,m,by rw[hh _ (Qp)];exact h1,h2,h3,h4,h5,by rw[JL λ i hi=>hh i (Qo _ (by rw[WJ] at hi;exact hi))];exact h6,rfl,rfl,rfl⟩
 .obtain ⟨e,h1,h2,h3,h4,h5,rfl,rfl,rfl⟩:=hk
  exact⟨e,by rw[hh _ (Qp)];exact h1,h2,h3,h4,h5,rfl,rfl,rfl⟩
 .obtain ⟨e,h1,h2,h3,h4,rfl,rfl,rfl⟩:=hk
  exact⟨e,by rw[hh _ (Qp)];exact h1,h2,h3,h4,rfl,rfl,rfl⟩
 .obtain ⟨e,h1,h2,h3,h4,h5,rfl,rfl,rfl⟩:=hk
  exact⟨e,by rw[hh _ (Qp)];exact h1,h2,h3,h4,h5,rfl,rfl,rfl⟩
 .obtain ⟨f,ids,sn,raise,aA,hs,res,hs',q0,q1,q2,q3,q4,q5,q6,q7,q8,rfl,rfl,rfl⟩:=hk
  have q:∀ i∈sn,h' i=h i:=λ i hi=>hh i (UE _ hi);have hid:∀ i∈ids,h' i=h i:=λ i hi=>hh i (Q2 _ hi);have u:∀ n ρ,conv ρ sn h' n=conv ρ sn h n:=λ n ρ=>funext (PG q n ρ)
  refine⟨f,ids,sn,raise,aA,hs,res,hs',q0,q1,q2,q3,by rw[u];exact q4,?_,q6,q7,q8,rfl,rfl,?_⟩
  .rw [<- q5]
   refine Ut λ i hi=>?_;rw[hid i hi];have:Ak ids.zipIdx sn h' 4=Ak ids.zipIdx sn h 4:=by funext e;simp only[Ak,u]
   rw[this]
  .congr 1
   split
   .refine OA λ i hi=>?_
    rw[q i hi]
   .rfl
 .obtain ⟨e,h1,h2,rfl,rfl,rfl⟩:=hk
  exact⟨e,by rw[hh _ (Qp)];exact h1,h2,rfl,rfl,rfl⟩
 .obtain ⟨e,h1,h2,rfl,rfl,rfl⟩:=hk
  exact⟨e,by rw[hh _ (Qp)];exact h1,h2,rfl,rfl,rfl⟩
 .obtain ⟨e,h1,h2,rfl,rfl,rfl⟩:=hk
  exact⟨e,by rw[hh _ (Qp)];exact h1,h2,rfl,rfl,rfl⟩
end
structure CT where
 dst:Option Nat
 v:AV
 rd:List Nat
 up:List (Nat × Option AX)
def St.app (st:St) (x:CT):St:=(st.put x.dst x.v).upd x.up
def St.some (D:Nat->Bool):Nat->List CT->St->St
 | _,[],st=>st
 | i,x::xs,st=>St.some D (i+1) xs (if D i then st.app x else st)
theorem St.app_sz (st:St) (x:CT):(st.app x).sz=st.sz:=St.sz_put _ _ _
theorem St.some_sz (D:Nat->Bool):∀ (xs:List CT) (i:Nat) (st:St),(St.some D i xs st).sz=st.sz
 | [],_,_=>rfl
 | x::xs,i,st=>by
   rw[St.some,St.some_sz D xs];split
   .exact St.app_sz _ _
   .rfl
theorem St.get_app (st:St) (x:CT) (j:Nat):(st.app x).get j=if x.dst=Option.some j then x.v else st.get j:=by
 unfold St.app;rw[St.get_upd]
 cases h:x.dst with
 | none=>simp[St.put]
 | some d =>
   rw[St.get_put];simp
theorem St.hp_app (st:St) (x:CT) (j:Nat):(st.app x).hp j=(Am x.up j).elim (st.hp j) id:=by
 unfold St.app;rw[St.hp_upd,St.hp_put]
theorem St.some_get_congr (D D':Nat->Bool) (j:Nat):∀ (xs:List CT) (i:Nat) (st st':St),(∀ k x,xs[k]? = Option.some x->x.dst=Option.some j->D (i+k)=D' (i+k))->st.get j=st'.get j ->
  (St.some D i xs st).get j=(St.some D' i xs st').get j
 | [],_,_,_,_,h=>h
 | x::xs,i,st,st',hk,h=>by
   rw[St.some,St.some];refine St.some_get_congr D D' j xs (i+1) _ _ (λ k y hy hd=>by have:=hk (k+1) y (by simpa using hy) hd;rwa [show i+(k+1)=i+1+k by omega] at this) ?_
   by_cases hx:x.dst=Option.some j
   .have:=hk 0 x rfl hx
    rw[Uk] at this;rw[this];split
    .rw [St.get_app,St.get_app,if_pos hx,if_pos hx]
    .exact h
   .have e:∀ s:St,∀ b:Bool,(if b then s.app x else s).get j=s.get j:=by
     intro s b
     cases b
     .rfl
     .simp [St.get_app,hx]
    rw[e,e];exact h
theorem St.some_hp_congr (D D':Nat->Bool) (j:Nat):∀ (xs:List CT) (i:Nat) (st st':St),(∀ k x,xs[k]? = Option.some x->Am x.up j≠none->D (i+k)=D' (i+k))->st.hp j=st'.hp j ->
  (St.some D i xs st).hp j=(St.some D' i xs st').hp j
 | [],_,_,_,_,h=>h
 | x::xs,i,st,st',hk,h=>by
   rw[St.some,St.some];refine St.some_hp_congr D D' j xs (i+1) _ _ (λ k y hy hd=>by have:=hk (k+1) y (by simpa using hy) hd;rwa [show i+(k+1)=i+1+k by omega] at this) ?_
   by_cases hx:Am x.up j=none
   .have e:∀ s:St,∀ b:Bool,(if b then s.app x else s).hp j=s.hp j:=by
     intro s b
     cases b
     .rfl
     .simp [St.hp_app,hx]
    rw[e,e];exact h
   .have:=hk 0 x rfl hx
    rw[Uk] at this;rw[this];split
    .rw [St.hp_app,St.hp_app]
     cases hl:Am x.up j with
     | none=>exact absurd hl hx
     | some r=>rfl
    .exact h
theorem St.some_get_last (D:Nat->Bool) (j:Nat):∀ (xs:List CT) (i:Nat) (st:St) (k:Nat) (x:CT),xs[k]? = Option.some x->x.dst=Option.some j->D (i+k)=true ->
  (∀ k' y,k<k'->xs[k']? = Option.some y->y.dst=Option.some j->D (i+k')=false)->(St.some D i xs st).get j=x.v
 | [],_,_,_,_,h,_,_,_=>by simp at h
 | y::xs,i,st,0,x,h,hd,hD,q=>by
   obtain rfl:y=x:=by simpa using h
   rw[St.some];rw[St.some_get_congr D (λ _=>false) j xs (i+1) _ (st.app y) (λ k z hz u=>by have:=q (k+1) z zy (by simpa using hz) u;rwa [show i+(k+1)=i+1+k by omega] at this) (by rw[Uk] at hD;rw[if_pos hD])]
   have:∀ (xs:List CT) (i:Nat) (s:St),St.some (λ _=>false) i xs s=s:=by
    intro xs
    induction xs with
    | nil=>intro i s;rfl
    | cons z zs ih=>intro i s;rw[St.some];exact ih _ _
   rw[this,St.get_app,if_pos hd]
 | y::xs,i,st,k+1,x,h,hd,hD,q=>by
   rw[St.some]
   exact St.some_get_last D j xs (i+1) _ k x (by simpa using h) hd (by rwa [show i+1+k=i+(k+1) by omega]) λ k' z h0 hz u=>by
    have:=q (k'+1) z zy (by simpa using hz) u
    rwa [show i+(k'+1)=i+1+k' by omega] at this
theorem St.some_false:∀ (xs:List CT) (i:Nat) (s:St),St.some (λ _=>false) i xs s=s
 | [],_,_=>rfl
 | _::zs,i,s=>by rw[St.some];exact St.some_false zs _ _
theorem St.some_hp_last (D:Nat->Bool) (j:Nat):∀ (xs:List CT) (i:Nat) (st:St) (k:Nat) (x:CT) (r:Option AX),xs[k]? = Option.some x->Am x.up j=Option.some r->D (i+k)=true ->
  (∀ k' y,k<k'->xs[k']? = Option.some y->Am y.up j≠none->D (i+k')=false)->(St.some D i xs st).hp j=r
 | [],_,_,_,_,_,h,_,_,_=>by simp at h
 | y::xs,i,st,0,x,r,h,hd,hD,q=>by
   obtain rfl:y=x:=by simpa using h
   rw[St.some];rw[St.some_hp_congr D (λ _=>false) j xs (i+1) _ (st.app y) (λ k z hz u=>by have:=q (k+1) z zy (by simpa using hz) u;rwa [show i+(k+1)=i+1+k by omega] at this) (by rw[Uk] at hD;rw[if_pos hD])]
   rw[St.some_false,St.hp_app,hd];rfl
 | y::xs,i,st,k+1,x,r,h,hd,hD,q=>by
   rw[St.some]
   exact St.some_hp_last D j xs (i+1) _ k x r (by simpa using h) hd (by rwa [show i+1+k=i+(k+1) by omega]) λ k' z h0 hz u=>by
    have:=q (k'+1) z zy (by simpa using hz) u
    rwa [show i+(k'+1)=i+1+k' by omega] at this
theorem St.some_take (k:Nat):∀ (xs:List CT) (i:Nat) (s:St),St.some (λ j=>decide (j<k)) i xs s=St.some (λ _=>true) i (xs.take (k - i)) s
 | [],i,s=>by simp[St.some]
 | x::xs,i,s=>by
   by_cases h:i<k
   .rw [show k - i=(k - (i+1))+1 by omega,List.take_succ_cons,St.some,St.some,St.some_take k xs (i+1)]
    simp[h]
   .rw [show k - i=0 by omega,List.take_zero,St.some,St.some]
    have e:(if decide (i<k)=true then s.app x else s)=s:=by simp[h]
    rw[e,St.some_take k xs (i+1),show k - (i+1)=0 by omega,List.take_zero]
    rfl
inductive Reach (after:List (List Nat)):Nat->Nat->Prop where
 | one (i j:Nat) (h:i∈after.getD j []):Reach after i j
 | more (i k j:Nat) (h:Reach after i k) (h':k∈after.getD j []):Reach after i j
theorem Th (acc:List Nat) (q:Nat->Prop):∀ (aS:List Nat) (s:Nat),(∀ i,s.testBit i=true->q i)->(∀ a∈aS,q a /\ ∀ i,(acc.getD a 0).testBit i=true->q i) ->
  ∀ i,(aS.foldl (λ s a=>s ||| (2 ^ a ||| acc.getD a 0)) s).testBit i=true->q i
 | [],s,hs,_,i,h=>hs i h
 | a::aS,s,hs,ha,i,h=>by
   refine Th acc q aS _ (λ i hi=>?_) (λ b hb=>ha b (Qo _ hb)) i h;simp only[Nat.testBit_or,UU,Nat.testBit_two_pow,Qb] at hi;rcases hi with hi | hi | hi
   .exact hs i hi
   .subst hi;exact(ha a Qp).1
   .exact (ha a Qp).2 i hi
theorem RY (after:List (List Nat)):∀ (j i:Nat),((VN after).getD j 0).testBit i=true->Reach after i j:=by
 have key:∀ (q h0:List (List Nat)) (acc:List Nat),after=h0++q->acc.length=h0.length->(∀ j i,(acc.getD j 0).testBit i=true->Reach after i j) ->
   ∀ j i,((q.foldl (λ acc aS=>acc++[aS.foldl (λ s a=>s ||| (2 ^ a ||| acc.getD a 0)) 0]) acc).getD j 0).testBit i=true->Reach after i j:=by
  intro q
  induction q with
  | nil=>intro h0 acc _ _ h;exact h
  | cons aS q ih =>
    intro h0 acc he hl h;refine ih (h0++[aS]) _ (by rw[he];simp) (by simp[hl]) λ j i u=>?_
    by_cases hj:j<acc.length
    .have:(acc++[aS.foldl (λ s a=>s ||| (2 ^ a ||| acc.getD a 0)) 0]).getD j 0=acc.getD j 0:=by simp[List.getD,QJ hj]
     rw[this] at u;exact h j i u
    .by_cases h2:j=acc.length
     .subst h2
      have:(acc++[aS.foldl (λ s a=>s ||| (2 ^ a ||| acc.getD a 0)) 0]).getD acc.length 0=aS.foldl (λ s a=>s ||| (2 ^ a ||| acc.getD a 0)) 0:=by simp[List.getD]
      rw[this] at u;have h1:after.getD acc.length []=aS:=by rw[he,hl];simp[List.getD]
      refine Th acc (λ i=>Reach after i acc.length) aS 0 (λ i hi=>by simp at hi) (λ a ha=>⟨.one _ _ (by rw[h1];exact ha),λ i hi=>.more _ a _ (h a i hi) (by rw[h1];exact ha)⟩) i u
     .have:(acc++[aS.foldl (λ s a=>s ||| (2 ^ a ||| acc.getD a 0)) 0]).getD j 0=0:=by
       simp only[List.getD];rw[QT zu]
       rfl
      rw[this] at u;simp at u
 exact key after [] [] rfl rfl λ j i h=>by simp[List.getD] at h
section
variable {P:Program} {np:Nat} {T0:Nat->Nat} {M0:GM} {w0:World}
def Ll (P:Program) (np n i:Nat) (o:Ca) (st:St) (x:CT):Prop :=
 x.dst=o.dst /\
 match o.guard with
 | none=>aK P np (n+8*i) o.op (o.xs.map (·.ev st.get)) st.hp λ v' rd' up'=>v'=x.v/\rd'=x.rd/\up'=x.up
 | some (g,want)=>∃ b,II (st.get g)=some b/\if b=some want then aK P np (n+8*i) o.op (o.xs.map (·.ev st.get)) st.hp (λ v' rd' up'=>v'=x.v/\rd'=x.rd/\up'=x.up) else x.v = .tup []/\x.rd=[]/\x.up=[]
theorem St.some_true (i j:Nat):∀ (xs:List CT) (s:St),St.some (λ _=>true) i xs s=St.some (λ _=>true) j xs s
 | [],_=>rfl
 | x::xs,s=>by rw[St.some,St.some];exact St.some_true (i+1) (j+1) xs _
theorem KM {n:Nat} {K:St->List (List Nat × List Nat)->Prop}:∀ (os:List Ca) (i:Nat) (st:St) (tr:List (List Nat × List Nat)),B8 P np n i os st tr K ->
  ∃ xs:List CT,xs.length=os.length/\(∀ (k:Nat) o x,os[k]? = some o->xs[k]? = some x->Ll P np n (i+k) o (St.some (λ _=>true) 0 (xs.take k) st) x) /\
    K (St.some (λ _=>true) 0 xs st) (tr++xs.map λ x=>(x.rd,x.up.map (·.1)))
 | [],i,st,tr,h=>⟨[],rfl,λ k o x h=>by simp at h,by simpa [St.some,B8] using h⟩
 | o::os,i,st,tr,h=>by
   have fin:∀ x:CT,Ll P np n i o st x->B8 P np n (i+1) os (st.app x) (tr++[(x.rd,x.up.map (·.1))]) K ->
     ∃ xs:List CT,xs.length=(o::os).length/\(∀ (k:Nat) o' x,(o::os)[k]? = some o'->xs[k]? = some x->Ll P np n (i+k) o' (St.some (λ _=>true) 0 (xs.take k) st) x) /\
       K (St.some (λ _=>true) 0 xs st) (tr++xs.map λ x=>(x.rd,x.up.map (·.1))):=by
    intro x hx hk;obtain⟨xs,h1,h2,h3⟩:=KM os (i+1) _ _ hk;refine⟨x::xs,by simp[h1],λ k o' x' ho u=>?_,?_⟩
    .cases k with
     | zero =>
       simp at ho u;subst ho u;exact hx
     | succ k =>
       have:=h2 k o' x' (by simpa using ho) (by simpa using u)
       rw[show i+1+k=i+(k+1) by omega] at this
       rw[List.take_succ_cons,St.some,if_pos rfl,St.some_true 1 0];exact this
    .rw [St.some,if_pos rfl,St.some_true 1 0]
     simpa using h3
   simp only[B8] at h
   cases hg:o.guard with
   | none =>
     rw[hg] at h;obtain⟨v,rd,up,h1,h2⟩:=Nn h;exact fin ⟨o.dst,v,rd,up⟩ ⟨rfl,by rw[hg];exact h2⟩ h1
   | some p =>
     obtain⟨g,want⟩:=p;rw[hg] at h;obtain⟨b,hb,h⟩:=h
     by_cases q:b=some want
     .rw [if_pos q] at h
      obtain⟨v,rd,up,h1,h2⟩:=Nn h;exact fin ⟨o.dst,v,rd,up⟩ ⟨rfl,by rw[hg];exact⟨b,hb,by rw[if_pos q];exact h2⟩⟩ h1
     .rw [if_neg q] at h
      exact fin ⟨o.dst,.tup [],[],[]⟩ ⟨rfl,by rw[hg];exact⟨b,hb,by rw[if_neg q];exact⟨rfl,rfl,rfl⟩⟩⟩ h
theorem Zq {ops:Array Oper} {n:Nat} (co:np<=n) {st:St} {Q:Exit->Act->World->Prop} {xs:List CT} (cp:xs.length=ops.size) (hQ:∀ st' T M a w,(∀ j,st'.get j=(St.some (λ _=>true) 0 xs st).get j)->(∀ j,st'.hp j=(St.some (λ _=>true) 0 xs st).hp j)->st'.sz=st.sz->Ok np T0 M0 w0 (G8 (n+8*ops.size)) st' T M a w->Q .normal a w) (hd:∀ o∈ops,o.dst.all (· < st.sz)=true) (b1:∀ (k:Nat) o x,(ops.toList.map (B7 P ops))[k]? = some o->xs[k]? = some x->Ll P np n k o (St.some (λ _=>true) 0 (xs.take k) st) x) (b2:Gp (ops.toList.map (B7 P ops)) (ops.toList.map λ o=>(o.after.toList.filter (Region.binds .any)).map (·.on)) (xs.map λ x=>(x.rd,x.up.map (·.1)))=true) :
  ∀ (h5:Nat) (u:Array Bool) (T:Nat->Nat) (M:GM) (a:Act) (w:World),u.size=ops.size->u.toList.countP (· == false)<=h5 ->
    (∀ j,u.getD j false=true -> ∀ i∈(ops.toList.map λ o=>(o.after.toList.filter (Region.binds .any)).map (·.on)).getD j [],u.getD i false=true) ->
    Ok np T0 M0 w0 (λ id=>id<n ∨ ∃ i,u.getD i false=true/\n+8*i<=id/\id<n+8*i+8) (St.some (λ i=>u.getD i false) 0 xs st) T M a w ->
    wpAny P .any ops Q h5 u a w:=by
 generalize hA:(ops.toList.map λ o=>(o.after.toList.filter (Region.binds .any)).map (·.on))=after at *
 simp only[Gp,QW,UL,beq_iff_eq,Qs,Ul,Qb,QS,UU] at b2;obtain⟨⟨cq,b7⟩,a1⟩:=b2
 have hf:∀ j,∀ i∈after.getD j [],i<j:=by
  intro j i hi
  by_cases hj:j<after.length
  .have e:after.getD j []=after[j]:=by simp[List.getD,hj]
   rw[e] at hi;exact b7 (after[j],j) (by rw[UV];exact Qa hj) i hi
  .have e:after.getD j []=[]:=by simp[List.getD,hj]
   rw[e] at hi;simp at hi
 have b3:∀ k (h:k<ops.size),(ops.toList.map (B7 P ops))[k]? = some (B7 P ops ops[k]):=λ k h=>by simp[h]
 have ag:∀ i j,i<ops.size->j<ops.size->i≠j->(Reach after i j∨Reach after j i) ∨
   (∀ (hi:i<ops.size) (hj:j<ops.size),GG (B7 P ops ops[i]) (B7 P ops ops[j]) ((xs.getD i ⟨none,.dead,[],[]⟩).rd,(xs.getD i ⟨none,.dead,[],[]⟩).up.map (·.1)) ((xs.getD j ⟨none,.dead,[],[]⟩).rd,(xs.getD j ⟨none,.dead,[],[]⟩).up.map (·.1))=true ∨
    GG (B7 P ops ops[j]) (B7 P ops ops[i]) ((xs.getD j ⟨none,.dead,[],[]⟩).rd,(xs.getD j ⟨none,.dead,[],[]⟩).up.map (·.1)) ((xs.getD i ⟨none,.dead,[],[]⟩).rd,(xs.getD i ⟨none,.dead,[],[]⟩).up.map (·.1))=true):=by
  intro i j hi hj bp
  have getx:∀ k,k<ops.size->(xs.map λ x=>(x.rd,x.up.map (·.1))).getD k ([],[])=((xs.getD k ⟨none,.dead,[],[]⟩).rd,(xs.getD k ⟨none,.dead,[],[]⟩).up.map (·.1)):=λ k hk=>by
   have:k<xs.length:=zy
   simp[List.getD,this]
  have geto:∀ k (hk:k<ops.size),(ops.toList.map (B7 P ops)).getD k default=B7 P ops ops[k]:=λ k hk=>by simp[List.getD,hk]
  rcases Ua i j with h | h
  .have:=a1 j hj i h
   rcases this with this | this
   .exact .inl (.inl (RY after j i this))
   .rw [getx i hi,getx j hj,geto i hi,geto j hj] at this
    exact .inr λ _ _=>.inl this
  .have:=a1 i hi j zy
   rcases this with this | this
   .exact .inl (.inr (RY after i j this))
   .rw [getx i hi,getx j hj,geto i hi,geto j hj] at this
    exact .inr λ _ _=>.inr this
 have b8:∀ (k:Nat) x,xs[k]? = some x->xs.getD k ⟨none,.dead,[],[]⟩=x:=λ k x h=>by simp[List.getD,h]
 have h6:∀ (k:Nat) x (hk:k<ops.size),xs[k]? = some x->x.dst=(B7 P ops ops[k]).dst:=λ k x hk h=>(b1 k _ x (b3 k hk) h).1;have hz:∀ (o:Oper),(B7 P ops o).dst=o.dst:=λ o=>Lo.1;intro h5
 induction h5 with
 | zero =>
   intro u T M a w bs ai h4 ok
   have h9:∀ i,i<ops.size->u.getD i false=true:=by
    intro i hi
    cases hb:u.getD i false with
    | true=>rfl
    | false =>
      have:0<u.toList.countP (· == false):=by
       rw[List.countP_pos_iff];refine⟨false,?_,rfl⟩;have hi':i<u.size:=zy
       have:u[i]=false:=by simpa [Array.getD,hi'] using hb
       rw[<- this];simp
      omega
   refine⟨?_,?_⟩
   .simp only[Region.ready,List.filter_eq_nil_iff,QS]
    intro i hi;have h1:=h9 i hi;have hi':i<u.size:=zy
    have h2:u.getD i true=true:=by
     simp only[Array.getD,hi',dite_true] at h1 ⊢;exact h1
    rw[h2];simp
   .refine hQ _ T M a w (λ j=>?_) (λ j=>?_) (St.some_sz _ _ _ _) (ok.wider λ id hid=>?_)
    .refine St.some_get_congr _ _ j xs 0 st st (λ k x hk hx=>?_) rfl
     have:=(Qu.1 hk).1;rw[Ug];exact h9 k zy
    .refine St.some_hp_congr _ _ j xs 0 st st (λ k x hk hx=>?_) rfl
     have:=(Qu.1 hk).1;rw[Ug];exact h9 k zy
    .show id<n+8*ops.size
     rcases hid with hid | ⟨i,h1,h2,h3⟩
     .omega
     .have:i<ops.size:=by
       rcases Ua i ops.size with h | h
       .exact h
       .have:u.getD i false=false:=by simp[Array.getD,show ¬ i<u.size by omega]
        rw[this] at h1;cases h1
      omega
 | succ h5 ih =>
   intro u T M a w bs ai h4 ok;refine⟨λ am=>?_,λ k hk=>?_⟩
   .
    have h9:∀ i,i<ops.size->u.getD i false=true:=by
     intro i
     induction i using Nat.strongRecOn with
     | _ i ihi =>
       intro hi
       cases hb:u.getD i false with
       | true=>rfl
       | false =>
         exfalso
         have hi':i<u.size:=zy
         have c1:u[i]=false:=by simpa [Array.getD,hi'] using hb
         have:i∈Region.ready .any ops u:=by
          simp only[Region.ready,QA,QS,QW,U0];refine⟨hi,by simp[Array.getD,hi',c1],?_⟩
          rw[Array.getElem?_eq_getElem hi];simp only[Um,QH,Array.all_eq_true_iff_forall_mem];intro e he
          by_cases hb:Region.binds .any e=true
          .have hy:e.on∈after.getD i []:=by
            rw[<- hA];have:(ops.toList.map λ o=>(o.after.toList.filter (Region.binds .any)).map (·.on)).getD i []=(ops[i].after.toList.filter (Region.binds .any)).map (·.on):=by simp[List.getD,hi]
            rw[this];exact Qm.2 ⟨e,QA.2 ⟨by simpa using he,hb⟩,rfl⟩
           have a0:=hf i _ hy;simp[ihi _ a0 zy]
          .simp [hb]
         rw[am] at this;simp at this
    refine hQ _ T M a w (λ j=>?_) (λ j=>?_) (St.some_sz _ _ _ _) (ok.wider λ id hid=>?_)
    .refine St.some_get_congr _ _ j xs 0 st st (λ k x hk hx=>?_) rfl
     have:=(Qu.1 hk).1;rw[Ug];exact h9 k zy
    .refine St.some_hp_congr _ _ j xs 0 st st (λ k x hk hx=>?_) rfl
     have:=(Qu.1 hk).1;rw[Ug];exact h9 k zy
    .show id<n+8*ops.size
     rcases hid with hid | ⟨i,h1,h2,h3⟩
     .omega
     .have:i<ops.size:=by
       rcases Ua i ops.size with h | h
       .exact h
       .have:u.getD i false=false:=by simp[Array.getD,show ¬ i<u.size by omega]
        rw[this] at h1;cases h1
      omega
   .
    simp only[Region.ready,QA,QS,QW,U0] at hk;obtain⟨h8,c2,bb⟩:=hk;have a2:k<u.size:=zy
    have b4:u[k]=false:=by simpa [Array.getD,a2] using c2
    have a3:u.getD k false=false:=by simp[Array.getD,a2,b4]
    rw[Array.getElem?_eq_getElem h8] at bb;simp only[Um,QH,Array.all_eq_true_iff_forall_mem] at bb
    have hh:∀ i∈after.getD k [],u.getD i false=true:=by
     intro i hi;rw[<- hA] at hi;have e:(ops.toList.map λ o=>(o.after.toList.filter (Region.binds .any)).map (·.on)).getD k []=(ops[k].after.toList.filter (Region.binds .any)).map (·.on):=by simp[List.getD,h8]
     rw[e] at hi;obtain⟨ed,h1,rfl⟩:=Qm.1 hi;obtain⟨h2,h3⟩:=QA.1 h1;have:=bb ed (by simpa using h2)
     simpa [h3] using this
    have hv:∀ i j,Reach after i j->(u.getD j false=true∨j=k)->u.getD i false=true:=by
     intro i j hr
     induction hr with
     | one j h =>
       rintro(h1 | rfl)
       .exact h4 j h1 i h
       .exact hh i h
     | more m j h1 h2 ihr =>
       rintro(h3 | rfl)
       .exact ihr (.inl (h4 j h3 m h2))
       .exact ihr (.inl (hh m h2))
    have a4:∀ j,Reach after k j->u.getD j false=false:=by
     intro j hr
     cases hb:u.getD j false with
     | false=>rfl
     | true=>rw[hv k j hr (.inl hb)] at a3;cases a3
    have ha:∀ i j,Reach after i j->i<j:=by
     intro i j hr
     induction hr with
     | one j h=>exact hf j i h
     | more m j h1 h2 ihr=>have:=hf j m h2;omega
    have hw:∀ i x,i≠k->xs[i]? = some x->(∀ hi:i<ops.size,GG (B7 P ops ops[i]) (B7 P ops ops[k]) (x.rd,x.up.map (·.1)) ((xs.getD k ⟨none,.dead,[],[]⟩).rd,(xs.getD k ⟨none,.dead,[],[]⟩).up.map (·.1))=false /\
      GG (B7 P ops ops[k]) (B7 P ops ops[i]) ((xs.getD k ⟨none,.dead,[],[]⟩).rd,(xs.getD k ⟨none,.dead,[],[]⟩).up.map (·.1)) (x.rd,x.up.map (·.1))=false)->u.getD i false=decide (i<k):=by
     intro i x bp hx c3;have hi:i<ops.size:=by have:=(Qu.1 hx).1;omega
     obtain⟨p1,p2⟩:=c3 hi;rcases ag i k hi h8 bp with (h | h) | h
     .have a0:=ha _ _ h
      rw[hv i k h (.inr rfl)];simp[a0]
     .have a0:=ha _ _ h
      rw[a4 i h];simp;omega
     .rcases h hi h8 with h | h
      .rw [b8 i x hx] at h;rw[h] at p1;cases p1
      .rw [b8 i x hx] at h;rw[h] at p2;cases p2
    obtain⟨xk,hm⟩:∃ xk,xs[k]? = some xk:=⟨_,Qa zy⟩
    have bt:=b8 k xk hm;have hO:=b1 k _ xk (b3 k h8) hm;rw[bt] at hw
    have an:∀ t,t∈(B7 P ops ops[k]).names->(St.some (λ i=>u.getD i false) 0 xs st).get t=(St.some (λ _=>true) 0 (xs.take k) st).get t∨(B7 P ops ops[k]).dst=some t/\False ∨
      (St.some (λ i=>u.getD i false) 0 xs st).get t=(St.some (λ _=>true) 0 (xs.take k) st).get t:=by
     intro t ht
     left
     have e:=St.some_take k xs 0 st;rw[Nat.sub_zero] at e;rw[<- e];refine St.some_get_congr _ _ t xs 0 st st (λ i x hx a5=>?_) rfl;rw[Ug]
     by_cases hu:i=k
     .subst hu;rw[a3];simp
     .refine hw i x hu hx λ hi=>?_
      have a6:(B7 P ops ops[i]).dst=some t:=by rw[<- h6 i x hi hx];exact a5
      constructor
      .simp [GG,a6,ht]
      .simp [GG,a6,ht]
    have a7:∀ t,t∈(B7 P ops ops[k]).names->(St.some (λ i=>u.getD i false) 0 xs st).get t=(St.some (λ _=>true) 0 (xs.take k) st).get t:=λ t ht=>by
     rcases an t ht with h | h | h
     .exact h
     .exact h.2.elim
     .exact h
    have aq:∀ id∈xk.rd,(St.some (λ i=>u.getD i false) 0 xs st).hp id=(St.some (λ _=>true) 0 (xs.take k) st).hp id:=by
     intro id hid;have e:=St.some_take k xs 0 st;rw[Nat.sub_zero] at e;rw[<- e];refine St.some_hp_congr _ _ id xs 0 st st (λ i x hx a8=>?_) rfl;rw[Ug]
     by_cases hu:i=k
     .subst hu;rw[a3];simp
     .refine hw i x hu hx λ hi=>?_
      have hy:id∈x.up.map (·.1):=by
       cases hl:Am x.up id with
       | none=>exact absurd hl a8
       | some r=>exact Qm.2 ⟨_,Ds hl,rfl⟩
      constructor
      .have:Hc (x.rd,x.up.map (·.1)) (xk.rd,xk.up.map (·.1))=true:=by
        simp only[Hc,UU,UM];exact .inl ⟨id,hy,.inl (by simpa using hid)⟩
       simp[GG,this]
      .have:Hc (xk.rd,xk.up.map (·.1)) (x.rd,x.up.map (·.1))=true:=by
        simp only[Hc,UU,UM];exact .inr ⟨id,hid,by simpa using hy⟩
       simp[GG,this]
    have h0:∀ i,(u.setIfInBounds k true).getD i false=if i=k then true else u.getD i false:=by
     intro i
     by_cases hu:i=k
     .subst hu;simp[Array.getD,a2]
     .rw [if_neg hu]
      simp only[QC];rw[Array.getElem?_setIfInBounds_ne (Ne.symm hu)]
    have a9:∀ T' M' a' w',Ok np T0 M0 w0 (λ id=>(id<n ∨ ∃ i,u.getD i false=true/\n+8*i<=id/\id<n+8*i+8)∨(n+8*k<=id/\id<n+8*k+8)) ((St.some (λ i=>u.getD i false) 0 xs st).app xk) T' M' a' w' ->
      wpAny P .any ops Q h5 (u.setIfInBounds k true) a' w':=by
     intro T' M' a' w' ok';refine ih (u.setIfInBounds k true) T' M' a' w' (by simpa using bs) ?_ (λ j hj i hi=>?_) ?_
     .rw [Array.toList_setIfInBounds,List.countP_set (by simpa using a2)]
      have:u.toList[k]'(by simpa using a2)=false:=by simpa using b4
      rw[this];show u.toList.countP (· == false) - 1+0<=h5
      omega
     .rw [h0] at hj ⊢
      split
      .rfl
      .split at hj
       .rename_i c4;subst c4;exact hh i hi
       .exact h4 j hj i hi
     .refine (ok'.ext (St.some_sz _ _ _ _ |>.trans (St.app_sz _ _ |>.trans (St.some_sz _ _ _ _)).symm) (λ t=>?_) (λ id=>?_)).wider λ id hid=>?_
      .rw [St.get_app]
       split
       .rename_i au
        refine St.some_get_last _ t xs 0 st k xk hm au (by rw[Ug,h0,if_pos rfl]) λ i x a0 hx a5=>?_
        rw[Ug,h0,if_neg zy]
        have av:(B7 P ops ops[k]).dst=some t:=by rw[<- h6 k xk h8 hm];exact au
        have:=hw i x zy hx λ hi=>by
         have a6:(B7 P ops ops[i]).dst=some t:=by rw[<- h6 i x hi hx];exact a5
         have b5:t∈(B7 P ops ops[k]).names:=by simp[Ca.names,av]
         constructor
         .simp [GG,a6,b5]
         .simp [GG,a6,b5]
        rw[this];simp;omega
       .rename_i au
        refine St.some_get_congr _ _ t xs 0 st st (λ i x hx a5=>?_) rfl;rw[Ug,h0,if_neg]
        rintro rfl
        rw[hm] at hx
        cases hx;exact au a5
      .rw [St.hp_app]
       cases hl:Am xk.up id with
       | some r =>
         refine St.some_hp_last _ id xs 0 st k xk r hm hl (by rw[Ug,h0,if_pos rfl]) λ i x a0 hx a8=>?_
         rw[Ug,h0,if_neg zy]
         have hy:id∈x.up.map (·.1):=by
          cases hl:Am x.up id with
          | none=>exact absurd hl a8
          | some r=>exact Qm.2 ⟨_,Ds hl,rfl⟩
         have b6:id∈xk.up.map (·.1):=Qm.2 ⟨_,Ds hl,rfl⟩
         have:=hw i x zy hx λ hi=>by
          constructor
          .have:Hc (x.rd,x.up.map (·.1)) (xk.rd,xk.up.map (·.1))=true:=by
            simp only[Hc,UU,UM];exact .inl ⟨id,hy,.inr (by simpa using b6)⟩
           simp[GG,this]
          .have:Hc (xk.rd,xk.up.map (·.1)) (x.rd,x.up.map (·.1))=true:=by
            simp only[Hc,UU,UM];exact .inl ⟨id,b6,.inr (by simpa using hy)⟩
           simp[GG,this]
         rw[this];simp;omega
       | none =>
         refine St.some_hp_congr _ _ id xs 0 st st (λ i x hx a8=>?_) rfl;rw[Ug,h0,if_neg]
         rintro rfl
         rw[hm] at hx
         cases hx;exact a8 hl
      .rcases hid with (hid | ⟨i,h1,h2⟩) | hid
       .exact .inl hid
       .refine .inr ⟨i,?_,h2⟩
        rw[h0];split
        .rfl
        .exact h1
       .exact .inr ⟨k,by rw[h0,if_pos rfl],hid⟩
    have b0:∀ q,q<8->¬ (n+8*k+q<n ∨ ∃ i,u.getD i false=true/\n+8*i<=n+8*k+q/\n+8*k+q<n+8*i+8):=by
     rintro q hq (h | ⟨i,h1,h2,h3⟩)
     .omega
     .have:i=k:=zy
      subst this;rw[a3] at h1
      cases h1
    have ho:ops[k]? = some ops[k]:=Array.getElem?_eq_getElem h8;have av:ops[k].dst.all (· < (St.some (λ i=>u.getD i false) 0 xs st).sz)=true:=by rw[St.some_sz];exact hd _ (Array.getElem_mem h8)
    simp only[wpOp,ho]
    have c5:(B7 P ops ops[k]).xs.map (·.ev (St.some (λ i=>u.getD i false) 0 xs st).get)=(B7 P ops ops[k]).xs.map (·.ev (St.some (λ _=>true) 0 (xs.take k) st).get):=by
     refine Ut λ x hx=>?_
     cases x with
     | t i =>
       refine a7 i ?_;simp only[Ca.names,Qn,U9];exact .inl (.inl ⟨_,hx,rfl⟩)
     | _=>rfl
    have run:(aK P np (n+8*k) (B7 P ops ops[k]).op ((B7 P ops ops[k]).xs.map (·.ev (St.some (λ _=>true) 0 (xs.take k) st).get)) (St.some (λ _=>true) 0 (xs.take k) st).hp λ v' rd' up'=>v'=xk.v/\rd'=xk.rd/\up'=xk.up) ->
      (B7 P ops ops[k]).op=(BI P ops[k]).1->(B7 P ops ops[k]).xs=(BI P ops[k]).2->ops[k].wp P a w (wpAny P .any ops Q h5 (u.setIfInBounds k true)) Q:=by
     intro hk cb cd;have c0:=bO (h':=(St.some (λ i=>u.getD i false) 0 xs st).hp) hk aq;rw[<- c5,cb,cd] at c0;obtain⟨v,rd,up,⟨rfl,rfl,rfl⟩,h2⟩:=RS ok.tm ok.mem (idb:=n+8*k) b0 zy ops[k] _ c0
     refine SV ok av h2 λ T' M' a' w' ok'=>?_;refine a9 T' M' a' w' ?_
     have e:(St.some (λ i=>u.getD i false) 0 xs st).app xk=((St.some (λ i=>u.getD i false) 0 xs st).put ops[k].dst xk.v).upd xk.up:=by
      unfold St.app;rw[h6 k xk h8 hm,hz]
     rw[e];exact ok'
    obtain⟨cl,hc⟩:=Lo (P:=P) (ops:=ops) (o:=ops[k]);obtain⟨d0,h7⟩:=hO;rcases hc with ⟨g1,g2,g3,g4⟩ | ⟨j,want,d,g1,g2,g3,g4,g5⟩ | ⟨g1,g2,g3⟩
    .rw [g2] at h7
     have be:Region.wanted ops[k] (yielded ops a.tmps)=true:=by simp[Region.wanted,g1]
     rw[if_pos be];exact .inl (run h7 g3 g4)
    .rw [g3] at h7
     obtain⟨b,hb,h7⟩:=h7
     have ck:II ((St.some (λ i=>u.getD i false) 0 xs st).get d)=some b:=by
      rw[a7 d (by simp[Ca.names,g3])]
      exact hb
     have be:=To ok.tm g1 g2 ck;rw[be]
     by_cases bo:b=some want
     .subst bo
      simp only[UQ,beq_self_eq_true] at h7 ⊢;exact .inl (run h7 g4 g5)
     .rw [if_neg bo] at h7
      rw[if_neg (by simpa using bo)]
      obtain⟨e1,e2,e3⟩:=h7;refine a9 T M (a.put ops[k].dst undef) w ?_
      have e:(St.some (λ i=>u.getD i false) 0 xs st).app xk=(St.some (λ i=>u.getD i false) 0 xs st).put ops[k].dst (.tup []):=by
       unfold St.app;rw[h6 k xk h8 hm,hz,e1,e3];rfl
      rw[e];refine⟨by rw[PN,St.sz_put];exact ok.sz,by rw[NH];exact ok.df,O5 ok.sz ok.tm av (.tup _ [] #[] rfl (λ i hi=>by simp at hi)),?_,λ id g hg=>.inl (ok.dom id g hg),ok.after⟩
      have e:((St.some (λ i=>u.getD i false) 0 xs st).put ops[k].dst (.tup [])).hp=(St.some (λ i=>u.getD i false) 0 xs st).hp:=by funext q;rw[St.hp_put]
      rw[e];exact ok.hs
    .rw [g1,g2,g3] at h7
     exact False.elim h7
end
def eM:Exit->Fl->Prop
 | .normal,.normal=>True
 | .exit i,.exit j=>i=j
 | .ret,.ret=>True
 | _,_=>False
section
variable {P:Program} {np:Nat} {T0:Nat->Nat} {M0:GM} {w0:World}
def I6 (np:Nat) (T0:Nat->Nat) (M0:GM) (w0:World) (Q:Fl->St->Prop):Exit->Act->World->Prop :=
 λ e a w=>∃ e' st T M,eM e e'/\Ok np T0 M0 w0 (G8 st.n) st T M a w/\np<=st.n/\Q e' st
theorem Ia (hm:P.follows .mixedOrders=true):∀ (c:Code) (Q:Fl->St->Prop) (st:St) (T:Nat->Nat) (M:GM) (a:Act) (w:World),
  AQ P np (comp P c) Q st->Ok np T0 M0 w0 (G8 st.n) st T M a w->np<=st.n->c.wp P (I6 np T0 M0 w0 Q) a w
 | .skip,Q,st,T,M,a,w,h,ok,hn=>wp_skip ⟨.normal,st,T,M,trivial,ok,hn,h⟩
 | .exit id,Q,st,T,M,a,w,h,ok,hn=>wp_exit ⟨.exit id,st,T,M,rfl,ok,hn,h⟩
 | .ret,Q,st,T,M,a,w,h,ok,hn=>wp_ret ⟨.ret,st,T,M,trivial,ok,hn,h⟩
 | .seq x y,Q,st,T,M,a,w,h,ok,hn=>by
   refine wp_seq (wp_mono (Ia hm x _ st T M a w h ok hn) ?_)
   rintro e a' w' ⟨e',st',T',M',he,ok',q,hq⟩
   cases e<;>cases e'<;>(try (exact False.elim he))
   .obtain ⟨st2,h8,h2⟩:=hq
    obtain⟨T2,M2,ok2,u⟩:=h8 _ _ _ _ _ _ _ ok' q;exact Ia hm y Q st2 T2 M2 a' w' h2 ok2 u
   .exact ⟨_,st',T',M',he,ok',q,hq⟩
   .exact ⟨_,st',T',M',he,ok',q,hq⟩
 | .cond c x y,Q,st,T,M,a,w,h,ok,hn=>by
   obtain⟨t,ht,h⟩:=h;have hc:=Cw (Bw ok.tm c) ht;refine wp_cond hc ?_
   cases t
   .exact Ia hm y Q st T M a w h ok hn
   .exact Ia hm x Q st T M a w h ok hn
 | .block id x,Q,st,T,M,a,w,h,ok,hn=>by
   refine wp_block (wp_mono (Ia hm x _ st T M a w h ok hn) ?_)
   rintro e a' w' ⟨e',st',T',M',he,ok',q,hq⟩
   cases e<;>cases e'<;>(try (exact False.elim he))
   .exact ⟨_,st',T',M',he,ok',q,hq⟩
   .rename_i i j
    have he:i=j:=he;subst he
    by_cases hid:i=id
    .simp only[Exit.inBlock,if_pos hid]
     simp only[if_pos hid] at hq;exact⟨.normal,st',T',M',trivial,ok',q,hq⟩
    .simp only[Exit.inBlock,if_neg hid]
     simp only[if_neg hid] at hq;exact⟨.exit i,st',T',M',rfl,ok',q,hq⟩
   .exact ⟨_,st',T',M',he,ok',q,hq⟩
 | .loop x,Q,st,T,M,a,w,h,ok,hn=>by
   obtain⟨I,⟨st0,k0,h8,hI⟩,h6⟩:=h;obtain⟨T1,M1,ok1,hg⟩:=h8 _ _ _ _ _ _ _ ok hn;refine wp_loop_ghost (λ k a w=>∃ s T M,I k s/\Ok np T0 M0 w0 (G8 s.n) s T M a w/\np<=s.n) k0 ⟨st0,T1,M1,hI,ok1,hg⟩ ?_
   rintro k a' w' ⟨s,T',M',hh,ok',q⟩
   refine wp_mono (Ia hm x _ s T' M' a' w' (h6 k s hh) ok' q) ?_
   rintro e a2 w2 ⟨e',st',T2,M2,he,ok2,u,hq⟩
   cases e<;>cases e'<;>(try (exact False.elim he))
   .obtain ⟨st2,k2,ha,hi,hl⟩:=hq
    obtain⟨T3,M3,ok3,hr⟩:=ha _ _ _ _ _ _ _ ok2 u;exact⟨k2,hl,st2,T3,M3,hi,ok3,hr⟩
   .exact ⟨_,st',T2,M2,he,ok2,u,hq⟩
   .exact ⟨_,st',T2,M2,he,ok2,u,hq⟩
 | .region id ops draw,Q,st,T,M,a,w,h,ok,hn=>by
   obtain⟨hd,h⟩:=h
   have hb:∀ o∈ops,o.dst.all (· < st.sz)=true:=by
    intro o ho;have:=UL.1 hd (B7 P ops o) (Qm.2 ⟨o,by simpa using ho,rfl⟩)
    rwa [Lo.1] at this
   have h7:(ops.toList.map (B7 P ops)).length=ops.size:=zz
   cases draw with
   | false =>
     refine wp_region ?_;rw[List.range_eq_range']
     refine Nj (n:=st.n) hn (Q:=I6 np T0 M0 w0 Q) (K:=λ st' tr=>(false=true->Gp (ops.toList.map (B7 P ops)) [] tr=true)/\Q .normal { st' with n:=st.n+8*(ops.toList.map (B7 P ops)).length })
      (λ st' tr T' M' a' w' hk ok'=>?_) ops.size 0 st [] T M a w zy hb (by simpa using ok) h
     rw[h7] at hk;refine⟨.normal,{ st' with n:=st.n+8*ops.size },T',M',trivial,?_,by show np<=st.n+8*ops.size;omega,hk.2⟩
     exact⟨ok'.sz,ok'.df,ok'.tm,ok'.hs,ok'.dom,ok'.after⟩
   | true =>
     refine wp_region_any hm ?_;obtain⟨xs,h1,h2,h3⟩:=KM _ 0 st [] h;obtain⟨h4,h5⟩:=h3;rw[h7] at h1 h5;have hf:=h4 rfl;obtain⟨h0,h9⟩:=ok.mem.draw (w1:={ w with drawn:=w.drawn+1 }) rfl rfl rfl rfl
     have okd:Ok np T0 M0 w0 (G8 st.n) st T M a { w with drawn:=w.drawn+1 } :=
      ⟨ok.sz,ok.df,λ i=>(ok.tm i).mono h9 λ _ _ e=>e,h0.hs,h0.dom,h0.after⟩
     refine Zq (T0:=T0) (M0:=M0) (w0:=w0) (n:=st.n) hn h1 (Q:=I6 np T0 M0 w0 Q) (λ st' T' M' a' w' g1 g2 g3 ok'=>?_) hb (λ k o x ho hx=>by have:=h2 k o x ho hx;rwa [Ug] at this) (by simpa using hf) ops.size _ T M a _ zz ?_ (λ j hj=>?_) ?_
     .refine ⟨.normal,{ (St.some (λ _=>true) 0 xs st) with n:=st.n+8*ops.size },T',M',trivial,?_,by show np<=st.n+8*ops.size;omega,h5⟩
      have:=ok'.ext (st':={ (St.some (λ _=>true) 0 xs st) with n:=st.n+8*ops.size }) ((St.some_sz _ _ _ _).trans g3.symm) (λ i=>(g1 i).symm) (λ i=>(g2 i).symm);exact⟨this.sz,this.df,this.tm,this.hs,this.dom,this.after⟩
     .have:(Array.replicate ops.size false).toList.countP (· == false)<=(Array.replicate ops.size false).toList.length:=List.countP_le_length
      simpa using this
     .have:(Array.replicate ops.size false).getD j false=false:=by simp only[QC,Array.getElem?_replicate];split<;>rfl
      rw[this] at hj
      cases hj
     .have e:St.some (λ i=>(Array.replicate ops.size false).getD i false) 0 xs st=st:=by
       have:(λ i=>(Array.replicate ops.size false).getD i false)=λ _=>false:=by
        funext j
        simp only[QC,Array.getElem?_replicate];split<;>rfl
       rw[this,St.some_false]
      rw[e];exact okd.wider λ id hid=>.inl hid
 | .rangeFunc ..,Q,st,T,M,a,w,h,ok,hn=>False.elim h
 | .scope x,Q,st,T,M,a,w,h,ok,hn=>by
   refine wp_scope_straight (wp_mono (Ia hm x Q st T M a w h ok hn) ?_)
   rintro e a' w' ⟨e',st',T',M',he,ok',q,hq⟩
   cases e<;>cases e'<;>(try (exact False.elim he))<;>exact⟨_,st',T',M',he,ok',q,hq⟩
 | .label _,Q,st,T,M,a,w,h,ok,hn=>wp_label ⟨.normal,st,T,M,trivial,ok,hn,h⟩
 | .goto _,Q,st,T,M,a,w,h,ok,hn=>False.elim h
 | .refuse _,Q,st,T,M,a,w,h,ok,hn=>False.elim h
end
variable {M:GM} {T:Nat->Nat} {w:World}
section
variable {P:Program} {np:Nat} {T0:Nat->Nat} {M0:GM} {w0:World}
theorem ZW {t:TypeId} {ag:Bool} {s:Nat} {cs:List AV} {b off:Nat} {c:Nat->Value} (h1:(isAgg t).run P w = .ok ag w) (h2:(sizeOf t).run P w = .ok s w) (h5:s<=cs.length) (h3:ag=true∨s=1) (q:∀ j,j<cs.length->w.cell? ⟨b,off+j,none⟩=some (c j)/\(c j).oneCell'=true/\Ar T w M (cs.getD j .dead) (c j)) :
  ∃ u,(loadVar t ⟨b,off,none⟩).run P w = .ok u w/\Ar T w M (if ag then .agg (cs.take s) else cs.headD .dead) u:=by
 cases ag with
 | true =>
   have hl:=run_loadCells (P:=P) w ⟨b,off,none⟩ s c (λ j hj=>by rw[Addr.add_none];exact(q j zy).1)
   refine⟨.agg ((List.range s).map c).toArray,by simp[loadVar,h1,h2,hl],?_⟩
   refine .agg _ _ _ zu (λ i hi=>?_) λ i hi=>?_
   .simp at hi
    have e:((List.range s).map c).toArray.getD i undef=c i:=by simp[Array.getD,show i<s by omega]
    rw[e];exact(q i zy).2.1
   .simp at hi
    have e:((List.range s).map c).toArray.getD i undef=c i:=by simp[Array.getD,show i<s by omega]
    have e2:(cs.take s).getD i .dead=cs.getD i .dead:=by
     simp only[List.getD,Q5];rw[if_pos zy]
    rw[e,e2];exact(q i zy).2.2
 | false =>
   obtain rfl:s=1:=by simpa using h3
   have h0:=q 0 zy
   have e:cs.headD .dead=cs.getD 0 .dead:=by cases cs<;>rfl
   simp only[Uh,Uu];rw[e];refine⟨c 0,?_,h0.2.2⟩;simp only[loadVar,Sem.run_bind,h1,Result.andThen_ok];have h4:w.cell? ⟨b,off,none⟩=some (c 0):=by simpa using h0.1
   simp[h4]
def Jb (a:Act) (r:ResultVar):Sem Value :=
 match r with
 | .tmp t=>pure (a.tmps.getD t undef)
 | .cell b t=>do loadVar t (<- asAddr (a.tmps.getD b undef))
theorem iW {st:St} {a:Act} {aB:Nat->Prop} (tm:∀ i,Ar T w M (st.get i) (a.tmps.getD i undef)) (m:B1 np T0 M0 w0 aB st.hp T M w) {r:ResultVar} {v:AV} (h:JB st (Hy P r)=some v):∃ u,(Jb a r).run P w = .ok u w/\Ar T w M v u:=by
 cases r with
 | tmp t =>
   simp only[Hy,JB,Qx] at h;subst h;exact⟨_,rfl,tm t⟩
 | cell b t =>
   simp only[Hy] at h
   have bad:JB st (b,some (false,0))=some v->False:=by
    intro h;simp only[JB] at h;split at h
    .simp at h
    .cases h
   cases q:Ea P t with
   | none=>rw[q] at h;exact(bad h).elim
   | some ag =>
     rw[q] at h
     cases h0:Ce P t with
     | none=>rw[h0] at h;exact(bad h).elim
     | some s =>
       rw[h0] at h;simp only[JB] at h;split at h
       case h_2=>cases h
       rename_i cs h4;split at h
       case isFalse=>cases h
       rename_i hc;simp only[Qx] at h;subst h;obtain⟨blk,off,hv,c,h1⟩:=TK m (tm b) h4
       have h2:(sizeOf t).run P w = .ok s w:=by
        simp only[Ce,Qz] at h0;obtain⟨i,hi,hs⟩:=h0;simp[sizeOf,typeInfo,hi,hs]
       have h3:(isAgg t).run P w = .ok ag w:=by
        unfold Ea at q;split at q<;>(try (cases q;done))
        .rename_i e;cases q;simp[isAgg,CW e]
        .rename_i e;cases q;simp[isAgg,CW e]
        .rename_i d e n1 n2
         cases q;simp only[isAgg,Sem.run_bind,CW n2];simp
       obtain⟨u,hu,h5⟩:=ZW (P:=P) h3 h2 hc.1 hc.2 h1;refine⟨u,?_,h5⟩;simp[Jb,hv,asAddr,hu]
theorem Re {st:St} {T:Nat->Nat} {M:GM} {a:Act} {w:World} {aB:Nat->Prop} (tm:∀ i,Ar T w M (st.get i) (a.tmps.getD i undef)) (m:B1 np T0 M0 w0 aB st.hp T M w) :
  ∀ (rs:List ResultVar) (vs:List AV),F2 st (rs.map (Hy P))=some vs -> ∃ us:List Value,(rs.mapM (Jb a)).run P w = .ok us w/\us.length=vs.length /\ ∀ i,i<vs.length->Ar T w M (vs.getD i .dead) (us.getD i undef)
 | [],vs,h=>by
   simp[F2] at h;subst h;exact⟨[],zz,rfl,λ i hi=>absurd hi zz⟩
 | r::rs,vs,h=>by
   simp only[List.map_cons,F2] at h;split at h
   case h_2=>cases h
   rename_i v vs' h1 h2;simp only[Qx] at h;subst h;obtain⟨u,hu,q⟩:=iW tm m h1;obtain⟨us,h0,hl,hr⟩:=Re tm m rs vs' h2;refine⟨u::us,by simp[List.mapM_cons,hu,h0],by simp[hl],λ i hi=>?_⟩
   cases i with
   | zero=>simpa using q
   | succ i=>simpa using hr i (by simpa using hi)
theorem YN {α:Type} (l:List α) (k:Nat):Am (l.zipIdx.map λ (a,i)=>(i,a)) k=l[k]?:=by
 have key:∀ (l:List α) (q k:Nat),Am ((l.zipIdx q).map λ (a,i)=>(i,a)) (q+k)=l[k]?:=by
  intro l
  induction l with
  | nil=>intro q k;rfl
  | cons x l ih =>
    intro q k;simp only[List.zipIdx_cons,List.map_cons,Am]
    cases k with
    | zero=>simp
    | succ k =>
      rw[if_neg zy,show q+(k+1)=q+1+k by omega,ih]
      simp
 have:=key l 0 k
 rwa [Ug] at this
theorem lB (l:List AX) (k:Nat):Am (l.zipIdx.map λ (e,i)=>(i,some e)) k=(l[k]?).map some:=by
 have key:∀ (l:List AX) (q k:Nat),Am ((l.zipIdx q).map λ (e,i)=>(i,some e)) (q+k)=(l[k]?).map some:=by
  intro l
  induction l with
  | nil=>intro q k;rfl
  | cons x l ih =>
    intro q k;simp only[List.zipIdx_cons,List.map_cons,Am]
    cases k with
    | zero=>simp
    | succ k =>
      rw[if_neg zy,show q+(k+1)=q+1+k by omega,ih]
      simp
 have:=key l 0 k
 rwa [Ug] at this
theorem YR (hm:P.follows .mixedOrders=true) {f:FuncId} {fn:Func} {af:DI} (hf:P.funcs[f]? = some fn) (hc:Jg P fn=some af) (a5:fn.name ≠ "runtime.NumGoroutine") {args:List AV} {hs:List AX} {res:AV} {hs':List (Option AX)} (b5:args.length<=af.nt) (am:hs.length<=16) (a6:hs.length<=hs'.length) (h:AQ P hs.length af.code (λ e st=>(e = .normal∨e = .ret)/\AG af.res hs.length st res hs') (GL af args hs)):Cq P f args hs res hs':=by
 unfold Jg at hc
 cases hb:fn.body with
 | none=>rw[hb] at hc;cases hc
 | some c =>
   rw[hb] at hc;simp only[Qx] at hc;subst hc;refine⟨⟨fn,c,hf,hb,a5⟩,a6,λ T M w vs an b6 a3 hv=>?_⟩;refine calls_of_wp hf hb ?_
   have hg:∀ i,(GL { nt:=fn.ntmps,res:=fn.results.toList.map (Hy P),code:=comp P c } args hs).get i=args.getD i .dead:=by
    intro i;unfold St.get GL;simp only[YN];rfl
   have hh:∀ i,(GL { nt:=fn.ntmps,res:=fn.results.toList.map (Hy P),code:=comp P c } args hs).hp i=hs[i]?:=by
    intro i;unfold St.hp GL;simp only[lB]
    cases hs[i]?<;>rfl
   have ok:Ok hs.length T M w (G8 16) (GL { nt:=fn.ntmps,res:=fn.results.toList.map (Hy P),code:=comp P c } args hs) T M { tmps:=vs++Array.replicate (fn.ntmps - vs.size) undef,defers:=[] } w:=by
    refine⟨?_,rfl,λ i=>?_,?_,λ id g hg=>?_,?_⟩
    .simp only[UG,Array.size_replicate,GL]
     have:=hv.1;simp only at b5;omega
    .rw [hg]
     by_cases hi:i<args.length
     .have:=hv.2 i hi
      have e:(vs++Array.replicate (fn.ntmps - vs.size) undef).getD i undef=vs.getD i undef:=by
       simp only[QC];rw[Ui (by rw[hv.1];exact hi)]
      rw[e];exact this
     .have:args.getD i .dead = .dead:=by simp[List.getD,show ¬ i<args.length by omega]
      rw[this];exact .dead _ _
    .have e:(GL { nt:=fn.ntmps,res:=fn.results.toList.map (Hy P),code:=comp P c } args hs).hp=DR hs:=funext hh
     rw[e];exact b6
    .show id<16
     rcases Ua id hs.length with h | h
     .omega
     .rw [a3 id h] at hg;cases hg
    .exact ⟨an,λ _ _ _=>rfl,λ _ _=>rfl,rfl,rfl,rfl,Qg _,λ _ _ _=>rfl,A4.refl _ _,λ k g b hk hg=>by rw[a3 k hk] at hg;cases hg⟩
   refine wp_mono (Ia hm c _ _ T M _ w h ok am) ?_
   rintro e a' w' ⟨e',st',T',M',he,ok',c3,hq,vs',b7,ex,sn,aq,b8,au,bb,a4⟩
   have hw:a'.defers=[] /\ ∃ v,(results fn a'.tmps).run P w' = .ok v w' /\ ∃ v2 T2 M2,Ending.returned v = .returned v2/\Ar T2 w' M2 res v2/\EB T2 w' M2 (Ga hs')/\Fz hs.length T M w T2 M2 w':=by
    refine⟨ok'.df,?_⟩;obtain⟨us,be,av,a0⟩:=Re (P:=P) ok'.tm ok'.mem fn.results.toList vs' b7
    have b0:(results fn a'.tmps).run P w' = .ok (if h:us.toArray.size=1 then us.toArray[0] else .tuple us.toArray) w':=by
     have e0:results fn a'.tmps=(do let vs <- fn.results.mapM (Jb a');pure (if h:vs.size=1 then vs[0] else .tuple vs)):=by
      have e2:(λ r:ResultVar=>match r with | ResultVar.tmp t=>(pure (a'.tmps.getD t undef):Sem Value) | ResultVar.cell a t=>do loadVar t (<- asAddr (a'.tmps.getD a undef)))=Jb a':=by
       funext r;cases r<;>rfl
      rw[<- e2];rfl
     have e:(fn.results.mapM (Jb a')).run P w' = .ok us.toArray w':=by
      rw[Array.mapM_eq_mapM_toList];simp[be]
     rw[e0,Sem.run_bind,e];rfl
    have bo:Ar T' w' M' (EE vs') (if h:us.toArray.size=1 then us.toArray[0] else .tuple us.toArray):=by
     by_cases h1:vs'.length=1
     .match vs',us,h1,av,a0 with
      | [v],[u],_,_,a0=>exact a0 0 zz
     .have e:EE vs' = .tup vs':=by
       match vs',h1 with
       | [],_=>rfl
       | [_],h=>simp at h
       | _::_::_,_=>rfl
      rw[e,dif_neg zu]
      exact .tup _ _ _ (by simpa using av) λ i hi=>by simpa [List.getD,QC] using a0 i hi
    refine⟨_,b0,(if h:us.toArray.size=1 then us.toArray[0] else .tuple us.toArray),?_⟩
    let nm:List Nat:=List.range hs.length++ex
    obtain⟨T1,b1,a7,a8,hx⟩:=Nb ok'.hs ok'.after.tok sn
    let Mr:GM:=λ k=>match nm[k]? with | some i=>M' i | none=>none
    have ht:∀ (k i:Nat),nm[k]? = some i->Mr k=M' i:=λ k i q=>by show (match nm[k]? with | some i=>M' i | none=>none)=_;rw[q]
    have b2:∀ k,k<hs.length->nm[k]? = some k:=λ k hk=>by
     show (List.range hs.length++ex)[k]? = _;rw[QJ (by simpa using hk)]
     simp[hk]
    have a9:∀ (k i:Nat),hs.length<=k->nm[k]? = some i->hs.length<=i:=λ k i hk q=>by
     have e:nm[k]? = ex[k - hs.length]?:=by
      show (List.range hs.length++ex)[k]? = _;rw[Qt (by simpa using hk)]
      simp
     rw[e] at q;exact b8 i (Ud q)
    have ag:=λ x v hr=>KQ (Mc:=Mr) (x:=x) (v:=v) ok'.hs sn b1 a8 4 nm.zipIdx (λ id k hl=>ht k id (Sv hl)) hr
    have ai:∀ i∈sn,i∉nm:=by
     intro i hi bp;rcases Qn.1 bp with h | h
     .have:=(au i hi).2
      simp at h;omega
     .exact (au i hi).1 h
    have h8:∀ (k i:Nat) e',nm[k]? = some i->Ga hs' k=some e' -> ∃ e,st'.hp i=some e/\e'=Ak nm.zipIdx sn st'.hp 4 e:=by
     intro k i e' q h9;have h1:=congrArg (·[k]?) a4
     simp only[QG] at h1;have h0:(List.range hs.length++ex)[k]? = some i:=q;rw[h0] at h1;simp only[Um] at h1;unfold Ga at h9;rw[<- h1] at h9;simp only[Option.join_some,Qz] at h9;obtain⟨e,h2,h3⟩:=h9;exact⟨e,h2,h3.symm⟩
    have ha:∀ k e',Ga hs' k=some e'->k<hs'.length:=by
     intro k e' h;unfold Ga at h
     cases hq:hs'[k]? with
     | none=>rw[hq] at h;simp at h
     | some _=>exact(Qu.1 hq).1
    have hy:nm.length=hs'.length:=by
     have h1:=congrArg List.length a4;rw[Qs] at h1;exact h1
    have hd:∀ i e g b,i∈nm->st'.hp i=some e->M' i=some g->g.blk=some b->T1 b=T' b:=by
     intro i e g b h1 h2 h3 h4;refine hx b λ i' hi' e' g' h5 h6 h7=>?_;have:=ok'.hs.inj i i' e e' g g' b h2 h5 h3 h6 h4 h7;subst this;exact ai i hi' h1
    refine⟨T1,Mr,rfl,bb.rep (ag _ _ bo),⟨λ k e' h9=>?_,λ k k' e1 e2 g g' b h1 h2 h3 h4 h5 h6=>?_⟩,?_⟩
    .have a1:k<nm.length:=by rw[hy];exact ha k e' h9
     have q:nm[k]? = some nm[k]:=Qa a1;obtain⟨e,he,rfl⟩:=h8 k _ e' q h9;obtain⟨g,hg,ent⟩:=ok'.hs.ent _ e he;refine⟨g,(ht k _ q).trans hg,ent.s,by simpa [Ak] using ent.ro,λ hz r hr=>?_,λ hn=>by simp[Ak,ent.none hn],λ hz=>?_,λ hz b b3=>?_⟩
     .simp only[Ak,Qm] at hr
      obtain⟨r0,bs,rfl⟩:=hr;rw[Qs];exact ent.wide hz r0 bs
     .obtain ⟨b,es,clock,a2,q1,q2,q3,q4⟩:=ent.mp hz
      exact⟨b,es,clock,a2,q1,by rw[hd _ e g b (Ud q) he hg a2];exact q2,q3,q4.map (λ _=>rfl) λ row _ x _ v hr=>ag x v hr⟩
     .obtain ⟨cells,ty,h1,h2,h3,h4⟩:=ent.blk hz b b3
      refine⟨cells,ty,h1,by rw[hd _ e g b (Ud q) he hg b3];exact h2,by simpa [Ak] using h3,λ i j hi hj=>?_⟩
      simp only[Ak,Qs] at hi hj ⊢;obtain⟨u,hu,ho,bt⟩:=h4 i j hi hj;refine⟨u,hu,ho,?_⟩
      have e1:(e.rows.map (·.map (conv nm.zipIdx sn st'.hp 4))).getD i []=(e.rows.getD i []).map (conv nm.zipIdx sn st'.hp 4):=by
       simp only[List.getD,QG]
       cases e.rows[i]?<;>rfl
      rw[e1,GI _ (GH _ _ _ _)];exact ag _ _ bt
    .have a1:k<nm.length:=by rw[hy];exact ha k e1 h1
     have b4:k'<nm.length:=by rw[hy];exact ha k' e2 h2
     have q:nm[k]? = some nm[k]:=Qa a1;have h0:nm[k']? = some nm[k']:=Qa b4;obtain⟨ea,c0,_⟩:=h8 k _ e1 q h1;obtain⟨eb,c1,_⟩:=h8 k' _ e2 h0 h2;have:=ok'.hs.inj _ _ ea eb g g' b c0 c1 ((ht k _ q).symm.trans h3) ((ht k' _ h0).symm.trans h4) h5 h6;exact(List.getElem?_inj a1 aq).1 (by rw[q,h0,this])
    .refine ok'.after.step a7 (λ b hb c2=>?_) (λ k hk=>?_) rfl rfl rfl (Qg _) (λ _ _ _=>rfl) ⟨b1,λ b cells ty fz h=>⟨cells,fz,h,rfl,λ _ _=>rfl⟩⟩ λ k g b hk hg a2=>?_
     .refine hx b λ i hi e g h1 h2 h3=>?_
      exact(ok'.after.blk h2 h3).elim c2 zy
     .exact ht k k (b2 k hk)
     .cases q:nm[k]? with
      | none =>
        have:Mr k=none:=by show (match nm[k]? with | some i=>M' i | none=>none)=none;rw[q]
        rw[this] at hg;cases hg
      | some i =>
        rw[ht k i q] at hg;exact ok'.after.new i g b (a9 k i hk q) hg a2
   rcases hq with rfl | rfl
   .cases e<;>first | exact hw | exact False.elim he
   .cases e<;>first | exact hw | exact False.elim he
end
def Up (nl:List (Nat × Nat)) (x y:AV):Prop:=Wk x y∨(x = .nilS /\ ∃ id s,y = .rs id 0 0/\(id,s)∈nl)
def El (nl:List (Nat × Nat)):List AV->List AV->Prop
 | [],[]=>True
 | x::xs,y::ys=>Up nl x y/\El nl xs ys
 | _,_=>False
theorem El.length {nl:List (Nat × Nat)}:∀ {xs ys:List AV},El nl xs ys->xs.length=ys.length
 | [],[],_=>rfl
 | _::_,_::_,h=>by simp[El.length h.2]
 | [],_::_,h=>False.elim h
 | _::_,[],h=>False.elim h
theorem El.get {nl:List (Nat × Nat)}:∀ {xs ys:List AV},El nl xs ys -> ∀ i:Nat,i<xs.length->Up nl (xs.getD i .dead) (ys.getD i .dead)
 | x::xs,y::ys,h,0,_=>h.1
 | x::xs,y::ys,h,i+1,hi=>by simpa using El.get h.2 i (by simpa using hi)
 | [],[],_,i,hi=>absurd hi zz
 | [],_::_,h,_,_=>False.elim h
 | _::_,[],h,_,_=>False.elim h
def Av (nl:List (Nat × Nat)) (e e':AX):Prop :=
 e'.s=e.s/\e.ro<=e'.ro/\e'.ro<=e'.rows.length/\(e'.rows=e.rows∨(e.s≠0/\e.rows.length=e'.rows.length /\ ∀ i,El nl (e.rows.getD i []) (e'.rows.getD i [])))
theorem Le.mk {np:Nat} {st st':St} (ρ:List (Nat × Nat)) (sn:List Nat) (nl:List (Nat × Nat)) (b1:st'.sz=st.sz) (h0:(ρ.map (·.1)).Nodup) (h1:(ρ.map (·.2)).Nodup) (h2:∀ p∈ρ,p.2<st'.n/\(p.2<np->p.1=p.2)) (h3:∀ p∈nl,np<=p.1/\p.1<st'.n/\p.1∉ρ.map (·.2)/\p.2≠0) (h4:∀ i∈sn,np<=i/\i∉ρ.map (·.1)) (h5:np<=st'.n) (h6:(nl.map (·.1)).Nodup) (ht:∀ i,Up nl (conv ρ sn st.hp 4 (st.get i)) (st'.get i)) (hh:∀ id' e',st'.hp id'=some e'->(∃ id e,(id,id')∈ρ/\st.hp id=some e/\Av nl (Ak ρ sn st.hp 4 e) e')∨((id',e'.s)∈nl/\e'.rows=[]/\e'.ro=0)):Le np st st':=by
 intro T0 M0 w0 T M a w ok hn;obtain⟨T1,ai,a4,a5,hx⟩:=Nb ok.hs ok.after.tok sn
 let M':GM:=λ j=>if j<np then M j else match Am nl j with
  | some s=>some ⟨none,0,s⟩
  | none=>match Am (ρ.map λ p=>(p.2,p.1)) j with
    | some i=>M i
    | none=>none
 have a1:∀ j,j<np->M' j=M j:=λ j hj=>if_pos hj
 have hy:∀ j s,(j,s)∈nl->M' j=some ⟨none,0,s⟩:=by
  intro j s a6;have am:=(h3 _ a6).1
  have hl:Am nl j=some s:=by
   cases hl:Am nl j with
   | none=>exact absurd a6 (Kk hl s)
   | some s' =>
     have:=Ds hl
     have key:∀ (l:List (Nat × Nat)),(l.map (·.1)).Nodup->(j,s)∈l->(j,s')∈l->s=s':=by
      intro l
      induction l with
      | nil=>intro _ h;simp at h
      | cons p l ih =>
        intro q ha hb;simp only[List.map_cons,Ur,Qm,not_exists,not_and] at q;rcases Qv.1 ha with ha | ha<;>rcases Qv.1 hb with hb | hb
        .rw [<- ha] at hb;cases hb;rfl
        .exact absurd (by rw[<- ha]) (q.1 _ hb)
        .exact absurd (by rw[<- hb]) (q.1 _ ha)
        .exact ih q.2 ha hb
     rw[key nl h6 a6 this]
  show (if j<np then M j else _)=_
  rw[if_neg zy,hl]
 have a0:∀ i j,(i,j)∈ρ->M' j=M i:=by
  intro i j hij
  by_cases hj:j<np
  .have h:=(h2 _ hij).2 hj
   simp only at h;rw[a1 j hj,h]
  .have b2:Am nl j=none:=by
    cases hl:Am nl j with
    | none=>rfl
    | some s=>exact absurd (Qm.2 ⟨_,hij,rfl⟩) (h3 _ (Ds hl)).2.2.1
   have an:Am (ρ.map λ p=>(p.2,p.1)) j=some i:=by
    cases hl:Am (ρ.map λ p=>(p.2,p.1)) j with
    | none=>exact absurd (Qm.2 ⟨_,hij,rfl⟩) (Kk hl i)
    | some i' =>
      have:=Ds hl;simp only[Qm,Prod.mk.injEq] at this;obtain⟨⟨p1,p2⟩,hp,rfl,rfl⟩:=this
      have key:∀ (l:List (Nat × Nat)),(l.map (·.2)).Nodup->(p1,p2)∈l->(i,p2)∈l->p1=i:=by
       intro l
       induction l with
       | nil=>intro _ h;simp at h
       | cons p l ih =>
         intro q ha hb;simp only[List.map_cons,Ur,Qm,not_exists,not_and] at q;rcases Qv.1 ha with ha | ha<;>rcases Qv.1 hb with hb | hb
         .rw [<- ha] at hb;cases hb;rfl
         .exact absurd (by rw[<- ha]) (q.1 _ hb)
         .exact absurd (by rw[<- hb]) (q.1 _ ha)
         .exact ih q.2 ha hb
      rw[key ρ h1 hp hij]
   show (if j<np then M j else _)=_
   rw[if_neg hj,b2,an]
 have hd:∀ j g,M' j=some g->j<np∨(∃ s,(j,s)∈nl/\g=⟨none,0,s⟩) ∨ ∃ i,(i,j)∈ρ/\M i=some g:=by
  intro j g hg
  by_cases hj:j<np
  .exact .inl hj
  .right
   have hf:(if j<np then M j else match Am nl j with
    | some s=>some ⟨none,0,s⟩
    | none=>match Am (ρ.map λ p=>(p.2,p.1)) j with
      | some i=>M i
      | none=>none)=some g:=hg
   rw[if_neg hj] at hf
   cases hl:Am nl j with
   | some s =>
     rw[hl] at hf;exact .inl ⟨s,Ds hl,(Qj hf).symm⟩
   | none =>
     rw[hl] at hf
     cases hr:Am (ρ.map λ p=>(p.2,p.1)) j with
     | none=>rw[hr] at hf;cases hf
     | some i =>
       rw[hr] at hf;have:=Ds hr;simp only[Qm,Prod.mk.injEq] at this;obtain⟨⟨p1,p2⟩,hp,rfl,rfl⟩:=this;exact .inr ⟨_,hp,hf⟩
 have a7:=λ x v hr=>KQ (Mc:=M') (x:=x) (v:=v) ok.hs sn ai a5 4 ρ (λ id k hl=>a0 id k (Ds hl)) hr
 have aq:∀ x y v,Up nl x y->Ar T1 w M' x v->Ar T1 w M' y v:=by
  rintro x y v (h | ⟨rfl,id,s,rfl,h8⟩) hr
  .exact h.rep hr
  .cases hr
   exact .rs _ _ 0 0 0 none _ (hy id s h8) (h3 _ h8).2.2.2 (Qg _) (λ _=>⟨rfl,rfl⟩) λ b hb=>by cases hb
 have hm:∀ id e g b,id∉sn->st.hp id=some e->M id=some g->g.blk=some b->T1 b=T b:=by
  intro id e g b h1 h2 h3 h4;refine hx b λ i hi e' g' h5 h6 h7=>?_;have:=ok.hs.inj id i e e' g g' b h2 h5 h3 h6 h4 h7;subst this;exact h1 hi
 refine⟨T1,M',⟨ok.sz.trans b1.symm,ok.df,λ i=>aq _ _ _ (ht i) (a7 _ _ (ok.tm i)),⟨λ id' e' b3=>?_,λ i i' e1 e2 g g' b q1 q2 q3 q4 q5 q6=>?_⟩,λ j g hg=>?_,?_⟩,h5⟩
 .rcases hh id' e' b3 with ⟨id,e,h8,he,u1,u2,u3,u4⟩ | ⟨h8,hr,b4⟩
  .obtain ⟨g,hg,ent⟩:=ok.hs.ent id e he
   have a2:id∉sn:=λ hi=>(h4 id hi).2 (Qm.2 ⟨_,h8,rfl⟩)
   have hv:e'.rows.length=e.rows.length:=by
    rcases u4 with u4 | ⟨_,v1,_⟩
    .rw [u4];simp[Ak]
    .rw [<- v1];simp[Ak]
   have hq:∀ i,(Ak ρ sn st.hp 4 e).rows.getD i []=(e.rows.getD i []).map (conv ρ sn st.hp 4):=λ i=>by
    simp only[Ak,List.getD,QG]
    cases e.rows[i]?<;>rfl
   have a8:e.s≠0 -> ∀ r∈e'.rows,r.length=e.s:=λ hz r hr=>by
    rcases u4 with u4 | ⟨_,v1,v3⟩
    .rw [u4] at hr
     simp only[Ak,Qm] at hr;obtain⟨r0,b5,rfl⟩:=hr;rw[Qs];exact ent.wide hz r0 b5
    .obtain ⟨i,hi,rfl⟩:=Qr.1 hr
     have h1:=(v3 i).length;rw[hq,Qs] at h1;have e1:e'.rows.getD i []=e'.rows[i]:=by simp[List.getD,hi]
     have hi':i<e.rows.length:=zy
     have e2:e.rows.getD i []=e.rows[i]:=by simp[List.getD,hi']
     rw[e1,e2] at h1;rw[<- h1];exact ent.wide hz _ (Qi hi')
   have a9:e.s≠0 -> ∀ i j,i<e.rows.length->j<e.s->Up nl (conv ρ sn st.hp 4 ((e.rows.getD i []).getD j .dead)) ((e'.rows.getD i []).getD j .dead):=by
    intro hz i j hi hj
    have e1:((Ak ρ sn st.hp 4 e).rows.getD i []).getD j .dead=conv ρ sn st.hp 4 ((e.rows.getD i []).getD j .dead):=by
     rw[hq,GI _ (GH _ _ _ _)]
    rcases u4 with u4 | ⟨_,v1,v3⟩
    .rw [u4,e1];exact .inl (.refl _)
    .rw [<- e1]
     refine(v3 i).get j ?_;rw[hq,Qs];have e2:e.rows.getD i []=e.rows[i]:=by simp[List.getD,hi]
     rw[e2,ent.wide hz _ (Qi hi)];exact hj
   have h9:e'.s=e.s:=u1;refine⟨g,(a0 id id' h8).trans hg,ent.s.trans (by rw[u1];rfl),u3,λ hz r hr=>?_,λ hn=>?_,λ hz=>?_,λ hz b au=>?_⟩
   .rw [h9]
    exact a8 (h9 ▸ hz) r hr
   .have:=ent.none hn
    rw[this] at hv;exact Qy (by simpa using hv)
   .obtain ⟨b,es,clock,hw,q1,q2,q3,q4⟩:=ent.mp (h9 ▸ hz)
    have ag:e'.rows=(Ak ρ sn st.hp 4 e).rows:=by
     rcases u4 with u4 | ⟨v0,_⟩
     .exact u4
     .exact absurd (h9 ▸ hz) v0
    refine⟨b,es,clock,hw,q1,by rw[hm id e g b a2 he hg hw];exact q2,q3,?_⟩
    rw[ag];exact q4.map (λ _=>rfl) λ row _ x _ v hr=>a7 x v hr
   .obtain ⟨cells,ty,p1,p2,p3,p4⟩:=ent.blk (h9 ▸ hz) b au
    refine⟨cells,ty,p1,?_,by rw[hv,h9];exact p3,λ i j hi hj=>?_⟩
    .rw [hm id e g b a2 he hg au,h9]
     have:e.ro*e.s<=e'.ro*e.s:=QF _ u2;omega
    .rw [hv] at hi
     rw[h9] at hj ⊢;obtain⟨u,hu,ho,b6⟩:=p4 i j hi hj;exact⟨u,hu,ho,aq _ _ _ (a9 (h9 ▸ hz) i j hi hj) (a7 _ _ b6)⟩
  .refine ⟨_,hy _ _ h8,rfl,by rw[b4];exact Qh _,(λ _=>by rw[hr];simp),(λ _=>hr),(λ hz=>absurd hz (h3 _ h8).2.2.2),λ _ b hb=>by cases hb⟩
 .have a3:∀ i e1 g b,st'.hp i=some e1->M' i=some g->g.blk=some b -> ∃ id e,(id,i)∈ρ/\st.hp id=some e/\M id=some g:=by
   intro i e1 g b p1 p2 p3;rcases hh i e1 p1 with ⟨id,e,h8,he,_⟩ | ⟨h8,_⟩
   .exact ⟨id,e,h8,he,(a0 id i h8).symm.trans p2⟩
   .rw [hy _ _ h8] at p2
    obtain rfl:=Qj p2
    cases p3
  obtain⟨i1,ea,r1,r2,r3⟩:=a3 i e1 g b q1 q3 q5;obtain⟨i2,eb,s1,s2,s3⟩:=a3 i' e2 g' b q2 q4 q6;have:=ok.hs.inj i1 i2 ea eb g g' b r2 s2 r3 s3 q5 q6;subst this
  .
   have key:∀ (l:List (Nat × Nat)),(l.map (·.1)).Nodup->(i1,i)∈l->(i1,i')∈l->i=i':=by
    intro l
    induction l with
    | nil=>intro _ h;simp at h
    | cons p l ih =>
      intro q ha hb;simp only[List.map_cons,Ur,Qm,not_exists,not_and] at q;rcases Qv.1 ha with ha | ha<;>rcases Qv.1 hb with hb | hb
      .rw [<- ha] at hb;cases hb;rfl
      .exact absurd (by rw[<- ha]) (q.1 _ hb)
      .exact absurd (by rw[<- hb]) (q.1 _ ha)
      .exact ih q.2 ha hb
   exact key ρ h0 r1 s1
 .rcases hd j g hg with h | ⟨s,h,_⟩ | ⟨i,h,_⟩
  .show j<st'.n;omega
  .exact (h3 _ h).2.1
  .exact (h2 _ h).1
 .refine ok.after.step a4 (λ b hb am=>?_) (λ k hk=>a1 k hk) rfl rfl rfl (Qg _) (λ _ _ _=>rfl) ⟨ai,λ b cells ty fz h=>⟨cells,fz,h,rfl,λ _ _=>rfl⟩⟩ λ k g b hk hg hw=>?_
  .refine hx b λ i hi e g q1 q2 q3=>?_
   exact(ok.after.blk q2 q3).elim am zy
  .rcases hd k g hg with h | ⟨s,h,rfl⟩ | ⟨i,h,av⟩
   .omega
   .cases hw
   .rcases Ua i np with b0 | hge
    .exact .inl ⟨i,g,b0,(ok.after.same i b0).symm.trans av,hw⟩
    .exact ok.after.new i g b hge av hw
theorem Le.refl (np:Nat) (st:St):Le np st st:=λ _ _ _ T M _ _ ok hn=>⟨T,M,ok,hn⟩
variable {P:Program} {Q:Fl->St->Prop} {a:C5} {af:List (List Nat)} {h:List (Nat × Option AX)} {hs':List (Option AX)} {n np sz:Nat} {ops:List Ca} {res:AV} {st:St} {t:List (Nat × AV)}
theorem S6 {id:Nat} {op:FY} {xs:List AV} {h:Nat->Option AX} {K1 K2:AV->List Nat->List (Nat × Option AX)->Prop} (hk:∀ a b c,K1 a b c->K2 a b c):aK P np id op xs h K1->aK P np id op xs h K2:=by
 by_cases q:∃ s b x y,op = .app s b/\xs=[x,y]/\¬ ∃ i o l c,x=AV.rk i o l c
 .obtain ⟨s,b,x,y,rfl,rfl,hx⟩:=q
  simp only[KP hx]
  rintro⟨a,b,c,d,e,f,u⟩
  exact⟨a,b,c,d,e,f,hk _ _ _ u⟩
 unfold aK;split<;>intro hx
 all_goals first
  | (exfalso;exact q ⟨_,_,_,_,rfl,rfl,λ ⟨_,_,_,_,e⟩=>by subst e;simp_all⟩)
  | exact hx
  | exact hk _ _ _ hx
  | skip
 all_goals try (obtain⟨a1,hx⟩:=hx;first | exact⟨a1,hk _ _ _ hx⟩ | skip)
 all_goals try (obtain⟨a2,hx⟩:=hx;first | exact⟨a1,a2,hk _ _ _ hx⟩ | skip)
 all_goals try (obtain⟨a3,hx⟩:=hx;first | exact⟨a1,a2,a3,hk _ _ _ hx⟩ | skip)
 all_goals try (obtain⟨a4,hx⟩:=hx;first | exact⟨a1,a2,a3,a4,hk _ _ _ hx⟩ | skip)
 all_goals try (obtain⟨a5,hx⟩:=hx;first | exact⟨a1,a2,a3,a4,a5,hk _ _ _ hx⟩ | skip)
 all_goals try (obtain⟨a6,hx⟩:=hx;first | exact⟨a1,a2,a3,a4,a5,a6,hk _ _ _ hx⟩ | skip)
 all_goals try (obtain⟨a7,hx⟩:=hx;first | exact⟨a1,a2,a3,a4,a5,a6,a7,hk _ _ _ hx⟩ | skip)
 all_goals try (obtain⟨a8,hx⟩:=hx;first | exact⟨a1,a2,a3,a4,a5,a6,a7,a8,hk _ _ _ hx⟩ | skip)
 all_goals try exact⟨a1,a2,a3,a4,a5,a6,a7,a8,hx.1,hk _ _ _ hx.2⟩
 .obtain ⟨h1,h2,hx⟩:=hx
  refine⟨a1,a2,a3,a4,a5,a6,a7,a8,h1,h2,?_⟩;split at hx
  .exact ⟨hx.1,hx.2.1,hx.2.2.1,hk _ _ _ hx.2.2.2⟩
  .exact ⟨hx.1,hx.2.1,hx.2.2.1,hk _ _ _ hx.2.2.2⟩
  .exact ⟨hx.1,hx.2.1,hx.2.2.1,hx.2.2.2.1,hk _ _ _ hx.2.2.2.2⟩
  .exact ⟨hx.1,hx.2.1,hk _ _ _ hx.2.2⟩
  .exact hx
 .obtain ⟨h1,h2,h3,h4,h5,h6,h7,hx⟩:=hx
  exact⟨a1,a2,a3,a4,a5,a6,a7,a8,h1,h2,h3,h4,h5,h6,h7,hk _ _ _ hx⟩
 rotate_left
 .obtain ⟨h1,h2,h3,h4,h5,h6,h7,h8,h9,hx⟩:=hx
  exact⟨a1,a2,a3,a4,a5,a6,a7,a8,h1,h2,h3,h4,h5,h6,h7,h8,h9,hk _ _ _ hx⟩
 .obtain ⟨h1,hx⟩:=hx
  refine⟨a1,a2,a3,a4,a5,a6,a7,a8,h1,?_⟩;split at hx<;>rename_i hc
  .rw [if_pos hc];exact hk _ _ _ hx
  .rw [if_neg hc];exact hk _ _ _ hx
theorem E7:∀ (ops:List Ca) (n i:Nat) (st:St) (tr:List (List Nat × List Nat)) (K K':St->List (List Nat × List Nat)->Prop),(∀ s t,K s t->K' s t)->B8 P np n i ops st tr K->B8 P np n i ops st tr K':=by
 intro ops
 induction ops with
 | nil=>intro n i st tr K K' hK h;exact hK _ _ h
 | cons o os ih =>
   intro n i st tr K K' hK h
   have q:∀ (op:FY) (xs:List AV) (h:Nat->Option AX) (K1 K2:AV->List Nat->List (Nat × Option AX)->Prop),(∀ a b c,K1 a b c->K2 a b c)->aK P np (n+8*i) op xs h K1->aK P np (n+8*i) op xs h K2:=by
    intro op xs h K1 K2 hk hx;exact S6 hk hx
   unfold B8 at h ⊢
   cases hg:o.guard with
   | none =>
     simp only[hg] at h ⊢;exact q _ _ _ _ _ (λ v rd up hh=>ih _ _ _ _ _ _ hK hh) h
   | some gw =>
     obtain⟨g,want⟩:=gw;simp only[hg] at h ⊢;obtain⟨b,hb,h⟩:=h;refine⟨b,hb,?_⟩
     by_cases u:b=some want
     .rw [if_pos u] at h ⊢
      exact q _ _ _ _ _ (λ v rd up hh=>ih _ _ _ _ _ _ hK hh) h
     .rw [if_neg u] at h ⊢
      exact ih _ _ _ _ _ _ hK h
theorem Gm:∀ {c:C5} {Q Q':Fl->St->Prop} {st:St},(∀ e s,Q e s->Q' e s)->AQ P np c Q st->AQ P np c Q' st:=by
 intro c
 induction c with
 | skip=>intro Q Q' st h;exact h _ _
 | reg draw ops after =>
   intro Q Q' st h hw;refine⟨hw.1,?_⟩;exact E7 _ _ _ _ _ _ _ (λ s t h2=>⟨h2.1,h _ _ h2.2⟩) hw.2
 | seq a b iha ihb =>
   intro Q Q' st h hw;refine iha (λ e s hs=>?_) hw
   cases e with
   | normal=>obtain⟨st2,q,h2⟩:=hs;exact⟨st2,q,ihb h h2⟩
   | exit id=>exact h _ _ hs
   | ret=>exact h _ _ hs
 | cond c a b iha ihb =>
   intro Q Q' st h hw;obtain⟨t,ht,hw⟩:=hw;refine⟨t,ht,?_⟩
   cases t
   .exact ihb h hw
   .exact iha h hw
 | block id a iha =>
   intro Q Q' st h hw;refine iha (λ e s hs=>?_) hw
   cases e with
   | normal=>exact h _ _ hs
   | exit id' =>
     simp only at hs ⊢
     by_cases hi:id'=id
     .rw [if_pos hi] at hs ⊢;exact h _ _ hs
     .rw [if_neg hi] at hs ⊢;exact h _ _ hs
   | ret=>exact h _ _ hs
 | loop a iha =>
   intro Q Q' st h hw;obtain⟨I,hI,hb⟩:=hw;refine⟨I,hI,λ k s hk=>iha (λ e s hs=>?_) (hb k s hk)⟩
   cases e with
   | normal=>exact hs
   | exit id=>exact h _ _ hs
   | ret=>exact h _ _ hs
 | exit id=>intro Q Q' st h;exact h _ _
 | ret=>intro Q Q' st h;exact h _ _
 | bad=>intro Q Q' st _ h;exact h
theorem AC {b:C5} (h:AQ P np a (λ e st'=>match e with | .normal=>AQ P np b Q st' | e=>Q e st') st):AQ P np (.seq a b) Q st:=by
 show AQ P np a _ st;refine Gm (λ e s hs=>?_) h
 cases e with
 | normal=>exact⟨s,Le.refl _ _,hs⟩
 | exit id=>exact hs
 | ret=>exact hs
theorem Ag {ι:Type} (C:ι->St) (I:ι->Prop) (m:ι->Nat) (i0:ι) (h0:I i0) (q:Le np st (C i0)) (hb:∀ i,I i->AQ P np a (λ e st'=>match e with | .normal=>∃ j,I j/\m j<m i/\Le np st' (C j) | e=>Q e st') (C i)):AQ P np (.loop a) Q st:=by
 refine⟨λ k s=>∃ i,I i/\m i=k/\s=C i,⟨_,_,q,i0,h0,rfl,rfl⟩,?_⟩
 rintro k s ⟨i,hi,rfl,rfl⟩
 refine Gm (λ e s hs=>?_) (hb i hi)
 cases e with
 | normal=>obtain⟨j,hj,hm,hl⟩:=hs;exact⟨_,_,hl,⟨j,hj,rfl,rfl⟩,hm⟩
 | exit id=>exact hs
 | ret=>exact hs
theorem Le.lst {st':St} (ρ:List (Nat × Nat)) (sn:List Nat) (nl:List (Nat × Nat)) (h7:st'.sz=st.sz) (h0:(ρ.map (·.1)).Nodup) (h1:(ρ.map (·.2)).Nodup) (h2:∀ p∈ρ,p.2<st'.n/\(p.2<np->p.1=p.2)) (h3:∀ p∈nl,np<=p.1/\p.1<st'.n/\p.1∉ρ.map (·.2)/\p.2≠0) (h4:∀ i∈sn,np<=i/\i∉ρ.map (·.1)) (h5:np<=st'.n) (h6:(nl.map (·.1)).Nodup) (ht:∀ p∈st'.t,Up nl (conv ρ sn st.hp 4 (st.get p.1)) p.2) (hh:∀ p∈st'.h,∀ e',p.2=some e'->(∃ q∈ρ,q.2=p.1 /\ ∃ e,st.hp q.1=some e/\Av nl (Ak ρ sn st.hp 4 e) e')∨((p.1,e'.s)∈nl/\e'.rows=[]/\e'.ro=0)):Le np st st':=by
 refine Le.mk ρ sn nl h7 h0 h1 h2 h3 h4 h5 h6 (λ i=>?_) λ id' e' u=>?_
 .unfold St.get at *
  cases hl:Am st'.t i with
  | none=>exact .inl (.dead _)
  | some v=>exact ht _ (Ds hl)
 .unfold St.hp at u
  cases hl:Am st'.h id' with
  | none=>rw[hl] at u;cases u
  | some v =>
    rw[hl] at u;rcases hh _ (Ds hl) e' u with ⟨q,hq,hq2,e,he,h⟩ | h
    .obtain ⟨q1,q2⟩:=q
     simp only at hq2;subst hq2;exact .inl ⟨q1,e,hq,he,h⟩
    .exact .inr h
theorem Le.slots {st':St} (q:st'.sz=st.sz) (hh:st'.h=[]) (ht:∀ p∈st'.t,Wk (conv [] [] st.hp 4 (st.get p.1)) p.2):Le 0 st st' :=
 Le.lst [] [] [] q zz zz zz zz zz (Qh _) zz (λ p hp=>.inl (ht p hp)) (by simp[hh])
def Src (P:Program) (f:FuncId) (af:DI):Prop:=P.follows .mixedOrders=true /\ ∃ fn,P.funcs[f]? = some fn/\Jg P fn=some af/\fn.name ≠ "runtime.NumGoroutine"
theorem Src.acalls {f:FuncId} {af:DI} (s:Src P f af) {args:List AV} {hs:List AX} (h0:args.length<=af.nt) (u:hs.length<=16) (q:hs.length<=hs'.length) (h:AQ P hs.length af.code (λ e st=>(e = .normal∨e = .ret)/\AG af.res hs.length st res hs') (GL af args hs)):Cq P f args hs res hs':=by
 obtain⟨hm,fn,hf,hc,hn⟩:=s;exact YR hm hf hc hn h0 u q h
theorem AG.one {t:Nat} (h:Wk (conv [] [] st.hp 4 (st.get t)) res):AG [(t,none)] 0 st res [] :=
 ⟨[st.get t],rfl,[],[],zz,zz,zz,h,rfl⟩
theorem Src.ac {f:FuncId} {af:DI} (s:Src P f af) {args:List AV} {hs:List AX} (h:AQ P hs.length af.code (λ e st=>(e = .normal∨e = .ret)/\AG af.res hs.length st res hs') (GL af args hs)) (h0:args.length<=af.nt:=by exact AW rfl) (u:hs.length<=16:=by exact AW rfl) (q:hs.length<=hs'.length:=by first | exact Qg _ | exact Qh _):Cq P f args hs res hs':=s.acalls h0 u q h
theorem Bv {t:Nat} (h:Wk (conv [] [] st.hp 4 (st.get t)) res:=by simp):AQ Tryz.prog 0 .ret (λ e st=>(e = .normal∨e = .ret)/\AG [(t,none)] 0 st res []) st:=⟨.inr rfl,AG.one h⟩
theorem AU (hd:(ops.all λ o=>o.dst.all (· < sz))=true) (ho:B8 P np n 0 ops ⟨sz,t,h,n⟩ [] λ st' _=>Q .normal ⟨st'.sz,st'.t,st'.h,n+8*ops.length⟩):AQ P np (.reg false ops af) Q ⟨sz,t,h,n⟩:=by
 refine⟨hd,?_⟩
 have:(λ (st':St) (tr:List (List Nat × List Nat))=>Q .normal ⟨st'.sz,st'.t,st'.h,n+8*ops.length⟩)=λ st' tr=>(false=true->Gp ops af tr=true)/\Q .normal { st' with n:=(⟨sz,t,h,n⟩:St).n+8*ops.length }:=by
  funext st' tr
  simp
 rw[<- this];exact ho
theorem BA (s:St) (hd:(ops.all λ o=>o.dst.all (· < sz))=true) (ho:B8 P np n 0 ops ⟨sz,t,h,n⟩ [] λ st' _=>(⟨st'.sz,st'.t,st'.h,n+8*ops.length⟩:St)=s) (hq:Q .normal s):AQ P np (.reg false ops af) Q ⟨sz,t,h,n⟩:=by
 refine AU hd (E7 _ _ _ _ _ (λ st' _=>(⟨st'.sz,st'.t,st'.h,n+8*ops.length⟩:St)=s) _ (λ st' _ h=>?_) ho);subst h;exact hq
theorem Ad {s:St} (hq:Q .normal s) (hd:(ops.all λ o=>o.dst.all (· < sz))=true:=by rfl) (ho:B8 P np n 0 ops ⟨sz,t,h,n⟩ [] (λ st' _=>(⟨st'.sz,st'.t,st'.h,n+8*ops.length⟩:St)=s):=by simp;rfl):AQ P np (.reg false ops af) Q ⟨sz,t,h,n⟩:=BA s hd ho hq
theorem Cn (hd:(ops.all λ o=>o.dst.all (· < sz))=true) (ho:B8 P np n 0 ops ⟨sz,t,h,n⟩ [] λ st' tr=>Gp ops af tr=true/\Q .normal ⟨st'.sz,st'.t,st'.h,n+8*ops.length⟩):AQ P np (.reg true ops af) Q ⟨sz,t,h,n⟩:=by
 refine⟨hd,?_⟩
 have:(λ (st':St) (tr:List (List Nat × List Nat))=>Gp ops af tr=true/\Q .normal ⟨st'.sz,st'.t,st'.h,n+8*ops.length⟩)=λ st' tr=>(true=true->Gp ops af tr=true)/\Q .normal { st' with n:=(⟨sz,t,h,n⟩:St).n+8*ops.length }:=by
  funext st' tr
  simp
 rw[<- this];exact ho
theorem AD {c:D8} {b:C5} (t:Bool) (hc:c.ev st.get = .sc (.bool t)) (h1:t=true->AQ P np a Q st) (h2:t=false->AQ P np b Q st):AQ P np (.cond c a b) Q st:=by
 refine⟨t,hc,?_⟩
 cases t
 .exact h2 rfl
 .exact h1 rfl
theorem IC {s:St} {tr:List (List Nat × List Nat)} (hd:(ops.all λ o=>o.dst.all (· < sz))=true) (ho:B8 P np n 0 ops ⟨sz,t,h,n⟩ [] λ st' tr'=>(⟨st'.sz,st'.t,st'.h,n+8*ops.length⟩:St)=s/\tr'=tr) (hr:Gp ops af tr=true) (hq:Q .normal s):AQ P np (.reg true ops af) Q ⟨sz,t,h,n⟩:=by
 refine Cn hd (E7 _ _ _ _ _ (λ st' tr'=>(⟨st'.sz,st'.t,st'.h,n+8*ops.length⟩:St)=s/\tr'=tr) _ (λ st' tr' h=>?_) ho);obtain⟨rfl,rfl⟩:=h;exact⟨hr,hq⟩
theorem AE (h:Q .normal st):AQ P np .skip Q st:=h
theorem AO (h:Q .ret st):AQ P np .ret Q st:=h
theorem Aa {id:Nat} (h:Q (.exit id) st):AQ P np (.exit id) Q st:=h
theorem Ab {i:Nat} {a b:Prop} (h:a):if i=i then a else b:=by rw[if_pos rfl];exact h
theorem Fw {i j:Nat} {a b:Prop} (hn:i≠j) (h:b):if i=j then a else b:=by rw[if_neg hn];exact h
theorem AI {id:Nat} (h:AQ P np a (λ e st'=>match e with | .exit id'=>if id'=id then Q .normal st' else Q (.exit id') st' | e=>Q e st') st):AQ P np (.block id a) Q st:=h
theorem Bn {b:C5} {ι:Type} (C:ι->St) (I:ι->Prop) (ha:AQ P np a (λ e st'=>match e with | .normal=>∃ j,I j/\Le np st' (C j) | e=>Q e st') st) (hb:∀ j,I j->AQ P np b Q (C j)):AQ P np (.seq a b) Q st:=by
 show AQ P np a _ st;refine Gm (λ e s hs=>?_) ha
 cases e with
 | normal=>obtain⟨j,hj,hl⟩:=hs;exact⟨C j,hl,hb j hj⟩
 | exit id=>exact hs
 | ret=>exact hs
theorem BO {b:C5} (C:St) (ha:AQ P np a (λ e st'=>match e with | .normal=>Le np st' C | e=>Q e st') st) (hb:AQ P np b Q C):AQ P np (.seq a b) Q st :=
 Bn (ι:=Unit) (λ _=>C) (λ _=>True) (Gm (λ e s h=>by cases e with | normal=>exact⟨(),trivial,h⟩ | exit i=>exact h | ret=>exact h) ha) λ _ _=>hb
theorem BG {rs:List (Nat × Option (Bool × Nat))} (h:AG rs np st res hs'):AQ Tryz.prog np .ret (λ e st=>(e = .normal∨e = .ret)/\AG rs np st res hs') st:=⟨.inr rfl,h⟩
variable {K:AV->List Nat->List (Nat × Option AX)->Prop} {P:Program} {Q:Fl->St->Prop} {af:List (List Nat)} {args aA aE cs first xs:List AV} {aD c j l np s sz:Nat} {f:FuncId} {g:Nat->AV} {h:List (Nat × Option AX)} {k':IntKind} {n:Int} {aH:Bool} {ops:List Ca} {res v x y:AV} {rows:List (List AV)} {t:List (Nat × AV)} {z:List Value}
section
variable {P:Program} {np id:Nat} {h:Nat->Option AX} {K:AV->List Nat->List (Nat × Option AX)->Prop}
@[simp] theorem g9:aK P np id .mv [x] h K=K x [] []:=(rfl)
@[simp] theorem qD {t:Bool} {a b:AV}:aK P np id .pick [.sc (.bool t),a,b] h K=K (if t then a else b) [] []:=by
 refine propext ⟨?_,λ hk=>⟨t,rfl,hk⟩⟩
 rintro⟨t',ht,hk⟩
 cases ht;exact hk
@[simp] theorem mR:aK P np id (.alloc z) [] h K=K (.pt id 0 0) [] [(id,some { s:=z.length,rows:=[z.map .sc] })]:=(rfl)
@[simp] theorem pE:aK P np id (.box s) [x] h K = ∃ cs,cellsOf x=some cs/\cs.length=s/\K (.pt id 0 0) [] [(id,some { s:=s,rows:=[cs] })]:=(rfl)
@[simp] theorem lT {z ps xs}:aK P np id (.build z ps) xs h K = ∃ cs,EQ (z.map .sc) ps xs=some cs/\K (.agg cs) [] []:=(rfl)
@[simp] theorem nY {s len z ps xs}:aK P np id (.bsl s len z ps) xs h K = ∃ rows,Ee s (List.replicate len (z.map .sc)) ps xs=some rows/\z.length=s/\K (.rs id 0 len) [] [(id,some { s:=s,rows:=rows })]:=(rfl)
@[simp] theorem oN:aK P np id (.ld true s) [x] h K = ∃ cs,Ft h x=some cs/\s<=cs.length/\K (.agg (cs.take s)) (CP x) []:=(rfl)
@[simp] theorem mQ:aK P np id (.ld false s) [x] h K = ∃ cs,Ft h x=some cs/\s<=cs.length/\K (cs.headD .dead) (CP x) []:=(rfl)
@[simp] theorem XD {i k:Nat}:aK P np id (.st s) [.pt i k j,x] h K = ∃ e row cs,h i=some e/\e.rows[k]? = some row/\e.ro<=k/\cellsOf x=some cs/\cs.length=s/\j+s<=row.length /\
   K .dead [i] [(i,some { e with rows:=e.rows.set k (AZ row j cs) })]:=(rfl)
@[simp] theorem lD {i k:Nat}:aK P np id .nil [.pt i k j] h K=K (.pt i k j) [] []:=propext ⟨λ h=>h.2,λ h=>⟨trivial,h⟩⟩
@[simp] theorem lZ:aK P np id .nil [.pv cs] h K=K (.pv cs) [] []:=propext ⟨λ h=>h.2,λ h=>⟨trivial,h⟩⟩
@[simp] theorem nQ {op:BinOp} {a b:Value}:aK P np id (.bin op) [.sc a,.sc b] h K = ∃ v,Aw op a b=some v/\K (.sc v) [] []:=(rfl)
@[simp] theorem pL {a b:Bool}:aK P np id (.beq aH) [.sc (.bool a),.sc (.bool b)] h K=K (.sc (.bool ((a == b) != aH))) [] []:=(rfl)
def Ik (o:Option Bool) (aH:Bool) (K:AV->List Nat->List (Nat × Option AX)->Prop):Prop:=∃ b,o=some b/\K (.sc (.bool (b != aH))) [] []
@[simp] theorem lF {ks:List Nat} {ys:List AV}:aK P np id (.aeq aH ks) [.agg xs,.agg ys] h K=Ik (DV ks xs ys) aH K:=(rfl)
@[simp] theorem oK {b:Bool}:Ik (some b) aH K=K (.sc (.bool (b != aH))) [] []:=by simp[Ik]
@[simp] theorem nR {f:Bool} {row:List AV}:aK P np id (.snil aH) [.vs s f (row::rows)] h K=K (.sc (.bool aH)) [] []:=(rfl)
@[simp] theorem nH {a:Option Addr}:aK P np id (.snil aH) [.sc (.slice a l c)] h K=K (.sc (.bool (a.isNone != aH))) [] []:=(rfl)
@[simp] theorem oG {i off len:Nat}:aK P np id (.clr s z) [.rs i off len] h K = ∃ e,h i=some e/\e.s=s/\z.length=s/\e.ro<=off/\off+len<=e.rows.length /\
   K .dead [i] [(i,some { e with rows:=e.rows.take off++List.replicate len (z.map .sc)++e.rows.drop (off+len) })]:=(rfl)
@[simp] theorem kJ {op:UnOp} {a:Value}:aK P np id (.un op) [.sc a] h K = ∃ v,JT op a=some v/\K (.sc v) [] []:=(rfl)
@[simp] theorem qO {k:IntKind}:aK P np id (.cvt k) [.sc (.int k' n)] h K=K (.sc (.int k (k.wrap n))) [] []:=(rfl)
@[simp] theorem mT:aK P np id .b2s [x] h K = ∃ rows bs,Cx 1 h x=some rows/\IP rows=some bs/\K (.sc (.string ⟨bs.toArray⟩)) (CP x) []:=(rfl)
@[simp] theorem mY {t:TypeId}:aK P np id (.mki t) [x] h K=K (.ifc t x) [] []:=(rfl)
@[simp] theorem l7 {t:TypeId}:aK P np id .nil [.ifc t x] h K=K (.ifc t x) [] []:=propext ⟨λ h=>h.2,λ h=>⟨trivial,h⟩⟩
@[simp] theorem qB:aK P np id (.mkf f) xs h K=K (.fn (.func f) [] xs) [] []:=(rfl)
@[simp] theorem pF:aK P np id (.mkb f) xs h K=K (.fn (.func f) xs []) [] []:=(rfl)
@[simp] theorem oC {s aD z k k' l c}:aK P np id (.mks s aD z) [.sc (.int k l),.sc (.int k' c)] h K=(0<=l/\l<=c/\c*aD<=140737488355328/\c<=140737488355328/\z.length=s /\
   K (.rs id 0 l.toNat) [] [(id,some { s:=s,rows:=List.replicate l.toNat (z.map .sc) })]):=(rfl)
theorem GS {lo hi mx:Bool} {bs:List AV}:aK P np id (.slc s lo hi mx) (x::bs) h K = ∃ l r m:Nat,∃ n,lenOf x=some n/\l<=r /\
        bs=(if lo then [AV.I l] else [])++(if hi then [AV.I r] else [])++(if mx then [AV.I m] else [])/\(lo=false->l=0)/\(hi=false->r=n)/\(mx=true->hi=true) /\
        match x with
        | .vs s' f rows=>r<=n/\(mx=true->m=r)/\s'=s/\K (.vs s (mx || (f && !hi)) ((rows.drop l).take (r - l))) [] []
        | .rs i off _=>r<=n/\mx=false/\(∃ e,h i=some e/\e.s=s)/\K (.rs i (off+l) (r - l)) [i] []
        | .rk i off _ c=>r<=m/\m<=c/\(mx=false->m=c)/\(∃ e,h i=some e/\e.s=s)/\K (.rk i (off+l) (r - l) (m - l)) [i] []
        | .sc (.slice none 0 0)=>r<=n/\(mx=true->m=r)/\K .nilS [] []
        | _=>False:=(rfl)
@[simp] theorem nF {i off len:Nat}:aK P np id .cap [.rk i off len c] h K=K (AV.I c) [] []:=(rfl)
@[simp] theorem mP {i off len:Nat}:aK P np id (.app s aD) [.rk i off len c,y] h K = ∃ new e,Cx s h y=some new/\h i=some e/\e.s=s/\off+len<=e.rows.length/\e.ro<=off+len/\(len+new.length)*aD<=140737488355328/\len+new.length<=140737488355328 /\
   if len+new.length<=c then K (.rk i off (len+new.length) c) (i::CP y) [(i,some { e with rows:=e.rows.take (off+len)++new++e.rows.drop (off+len+new.length) })]
   else K (.rs id 0 (len+new.length)) (i::CP y) [(id,some { s:=s,rows:=(e.rows.drop off).take len++new,ro:=0 })]:=(rfl)
@[simp] theorem nI {i off len:Nat}:aK P np id (.cpy s) [.rk i off len c,y] h K = ∃ e new m,h i=some e/\e.s=s/\e.ro<=off/\off<=e.rows.length/\lenOf y=some m/\Cx s h (EN (min m len) y)=some new /\
   K (AV.I (min m len:Nat)) (i::CP y) [(i,some { e with rows:=e.rows.take off++new++e.rows.drop (off+min m len) })]:=(rfl)
@[simp] theorem qH {i off len:Nat}:aK P np id (.clr s z) [.rk i off len c] h K = ∃ e,h i=some e/\e.s=s/\z.length=s/\e.ro<=off/\off+len<=e.rows.length /\
   K .dead [i] [(i,some { e with rows:=e.rows.take off++List.replicate len (z.map .sc)++e.rows.drop (off+len) })]:=(rfl)
@[simp] theorem oE:aK P np id .cap [.sc (.slice none 0 0)] h K=K (AV.I 0) [] []:=(rfl)
@[simp] theorem nJ {k:IntKind}:aK P np id (.apz s aD z) [.sc (.slice none 0 0),.sc (.int k n)] h K=(z.length=s/\0<n/\n.toNat*aD<=140737488355328/\n.toNat<=140737488355328 /\
   K (.rs id 0 n.toNat) [] [(id,some { s:=s,rows:=List.replicate n.toNat (z.map .sc),ro:=0 })]):=(rfl)
@[simp] theorem nD {i off len:Nat} {k:IntKind}:aK P np id (.apz s aD z) [.rk i off len c,.sc (.int k n)] h K = ∃ e,h i=some e/\e.s=s/\z.length=s/\off+len<=e.rows.length/\0<n/\c<len+n.toNat/\(len+n.toNat)*aD<=140737488355328/\len+n.toNat<=140737488355328 /\
   K (.rs id 0 (len+n.toNat)) [i] [(id,some { s:=s,rows:=(e.rows.drop off).take len++List.replicate n.toNat (z.map .sc),ro:=0 })]:=(rfl)
@[simp] theorem mX {s' i off len:Nat} {f:Bool}:aK P np id (.ovl s) [.vs s' f rows,.rk i off len c] h K = ∃ e,h i=some e/\s'=s/\e.s=s/\e.ro<=off/\K (.sc (.bool false)) [i] []:=(rfl)
@[simp] theorem oW {n:Nat} {f:Bool}:EN n (.vs s f rows) = .vs s false (rows.take n):=(rfl)
@[simp] theorem pK {n id off len:Nat}:EN n (.rs id off len) = .rs id off (min n len):=(rfl)
@[simp] theorem nG {n id off len:Nat}:EN n (.rk id off len c) = .rk id off (min n len) c:=(rfl)
@[simp] theorem nP {off:Nat}:aK P np id (.fad off) [.pv cs] h K=(off<=cs.length/\K (.pv (cs.drop off)) [] []):=(rfl)
@[simp] theorem nZ {off i k:Nat}:aK P np id (.fad off) [.pt i k j] h K=K (.pt i k (j+off)) [] []:=(rfl)
@[simp] theorem mM {off:Nat}:aK P np id (.fld true off s) [.agg cs] h K=(off+s<=cs.length/\K (.agg ((cs.drop off).take s)) [] []):=(rfl)
@[simp] theorem qI {off:Nat}:aK P np id (.fld false off s) [.agg cs] h K=(off+s<=cs.length/\K (cs.getD off .dead) [] []):=(rfl)
@[simp] theorem l8 {s':Nat} {f:Bool} {k:IntKind}:aK P np id (.iad s) [.vs s' f rows,.sc (.int k n)] h K=(s'=s/\0<=n /\ ∃ row,rows[n.toNat]? = some row/\K (.pv row) [] []):=(rfl)
@[simp] theorem lX {i off len:Nat} {k:IntKind}:aK P np id (.iad s) [.rs i off len,.sc (.int k n)] h K=(0<=n/\n<len/\(∃ e,h i=some e/\e.s=s)/\K (.pt i (off+n.toNat) 0) [i] []):=(rfl)
@[simp] theorem mN {i k:Nat} {kd:IntKind}:aK P np id (.iaa l s) [.pt i k j,.sc (.int kd n)] h K=(0<=n/\n<l/\K (.pt i k (j+n.toNat*s)) [] []):=(rfl)
@[simp] theorem oB {kd:IntKind}:aK P np id (.iaa l s) [.pv cs,.sc (.int kd n)] h K=(0<=n/\n<l/\l*s<=cs.length/\K (.pv (cs.drop (n.toNat*s))) [] []):=(rfl)
@[simp] theorem nA {b:ByteArray} {k:IntKind}:aK P np id .ixs [.sc (.string b),.sc (.int k n)] h K=(0<=n /\ ∃ c,b.data.toList[n.toNat]? = some c/\K (.sc (.int .u8 c.toNat)) [] []):=(rfl)
@[simp] theorem mA {k:IntKind}:aK P np id (.ixv l) [.agg cs,.sc (.int k n)] h K=(0<=n/\n<l/\l<=cs.length/\K (cs.getD n.toNat .dead) [] []):=(rfl)
@[simp] theorem lM {i:Nat} {vs:List AV}:aK P np id (.ext i) [.tup vs] h K = ∃ v,vs[i]? = some v/\K v [] []:=(rfl)
theorem NS (hx:¬ ∃ i o l c,x = .rk i o l c):aK P np id (.app s aD) [x,y] h K=(∃ new old,Cx s h y=some new/\EL s h new x=some old/\(old.1.length+new.length)*aD<=140737488355328 /\
   old.1.length+new.length<=140737488355328 /\
   K (.rs id 0 (old.1.length+new.length)) (CP x++CP y) ((id,some { s:=s,rows:=old.1++new,ro:=old.2.1 })::old.2.2)):=KP hx
@[simp] theorem pR:aK P np id (.app s aD) [.nilS,y] h K = ∃ new,Cx s h y=some new/\new.length*aD<=140737488355328/\new.length<=140737488355328/\K (.rs id 0 new.length) (CP y) [(id,some { s:=s,rows:=new,ro:=0 })]:=by
 rw[NS zz]
 refine propext ⟨?_,?_⟩
 .rintro ⟨new,old,h1,h2,h3,h4,h5⟩
  cases h2;exact⟨new,h1,by simpa using h3,by simpa using h4,by simpa [CP] using h5⟩
 .rintro ⟨new,h1,h3,h4,h5⟩
  exact⟨new,_,h1,rfl,by simpa using h3,by simpa using h4,by simpa [CP] using h5⟩
@[simp] theorem n9 {i off len:Nat}:aK P np id (.app s aD) [.rs i off len,y] h K = ∃ new e,Cx s h y=some new/\h i=some e/\e.s=s/\off+len<=e.rows.length/\e.ro<=off+len/\(len+new.length)*aD<=140737488355328/\len+new.length<=140737488355328 /\
  K (.rs id 0 (len+new.length)) (i::CP y) [(id,some { s:=s,rows:=(e.rows.drop off).take len++new,ro:=e.ro - off }),(i,none)]:=by
 rw[NS zz]
 refine propext ⟨?_,?_⟩
 .rintro ⟨new,old,h1,h2,h3,h4,h5⟩
  simp only[EL,Uj] at h2;obtain⟨e,he,h2⟩:=h2;split at h2
  case isFalse=>cases h2
  rename_i hc
  cases h2;have hl:((e.rows.drop off).take len).length=len:=zu
  simp only[hl] at h3 h4 h5;exact⟨new,e,h1,he,hc.1,hc.2.1,hc.2.2,h3,h4,by simpa [CP] using h5⟩
 .rintro ⟨new,e,h1,he,c1,c2,c3,h3,h4,h5⟩
  have hl:((e.rows.drop off).take len).length=len:=zu
  refine⟨new,((e.rows.drop off).take len,e.ro - off,[(i,none)]),h1,by simp[EL,he,c1,c2,c3],by simpa only[hl] using h3,by simpa only[hl] using h4,?_⟩
  simpa [CP,hl] using h5
@[simp] theorem oX:aK P np id (.app s aD) [.vs s true rows,y] h K = ∃ new,Cx s h y=some new/\(rows=[]∨new≠[])/\(rows.length+new.length)*aD<=140737488355328/\rows.length+new.length<=140737488355328 /\
  K (.rs id 0 (rows.length+new.length)) (CP y) [(id,some { s:=s,rows:=rows++new,ro:=0 })]:=by
 rw[NS zz]
 refine propext ⟨?_,?_⟩
 .rintro ⟨new,old,h1,h2,h3,h4,h5⟩
  simp only[EL] at h2;split at h2
  case isFalse=>cases h2
  rename_i hc
  cases h2;exact⟨new,h1,hc.2,h3,h4,by simpa [CP] using h5⟩
 .rintro ⟨new,h1,hc,h3,h4,h5⟩
  exact⟨new,(rows,0,[]),h1,by show (if s=s/\_ then _ else _)=_;rw[if_pos ⟨rfl,hc⟩],h3,h4,by simpa [CP] using h5⟩
@[simp] theorem nV {b:ByteArray}:aK P np id .apps [x,.sc (.string b)] h K=(∃ old,EL 1 h (GJ b) x=some old/\old.1.length+b.size<=140737488355328 /\
   K (.rs id 0 (old.1.length+b.size)) (CP x) ((id,some { s:=1,rows:=old.1++GJ b,ro:=old.2.1 })::old.2.2)):=(rfl)
@[simp] theorem oQ:aK P np id .len [x] h K = ∃ n:Nat,lenOf x=some n/\K (AV.I n) [] []:=(rfl)
@[simp] theorem pQ {b:ByteArray}:aK P np id .lens [.sc (.string b)] h K=K (AV.I b.size) [] []:=(rfl)
@[simp] theorem qJ {i off len:Nat}:aK P np id (.cpy s) [.rs i off len,y] h K = ∃ e new,h i=some e/\e.s=s/\e.ro<=off/\off+len<=e.rows.length/\Cx s h y=some new /\
   K (AV.I (min new.length len:Nat)) (i::CP y) [(i,some { e with rows:=e.rows.take off++new.take (min new.length len)++e.rows.drop (off+min new.length len) })]:=(rfl)
@[simp] theorem mL:aK P np id .mkm [] h K=K (.mp id) [] [(id,some { s:=0,rows:=[] })]:=(rfl)
@[simp] theorem oR {z:Value} {i:Nat}:aK P np id (.mlk z false) [.mp i,.sc (.int .i64 n)] h K = ∃ e,h i=some e/\e.s=0/\K ((EA n e.rows).getD (Ct z)) [i] []:=(rfl)
@[simp] theorem oY {z:Value} {i:Nat}:aK P np id (.mlk z true) [.mp i,.sc (.int .i64 n)] h K = ∃ e,h i=some e/\e.s=0/\K (.tup [(EA n e.rows).getD (Ct z),.sc (.bool (EA n e.rows).isSome)]) [i] []:=(rfl)
@[simp] theorem lY {i:Nat}:aK P np id .mup [.mp i,.sc (.int .i64 n),x] h K = ∃ e,h i=some e/\e.s=0/\K .dead [i] [(i,some { e with rows:=Bx n x e.rows })]:=(rfl)
@[simp] theorem mI {i:Nat}:aK P np id .mdl [.mp i,.sc (.int .i64 n)] h K = ∃ e,h i=some e/\e.s=0/\K (.tup []) [i] [(i,some { e with rows:=DO n e.rows,ro:=0 })]:=(rfl)
@[simp] theorem lC {k:IntKind} {a b:Int}:aK P np id .mx2 [.sc (.int k a),.sc (.int k' b)] h K=K (.sc (.int k (if a<b then b else a))) [] []:=(rfl)
@[simp] theorem lV {k:IntKind} {a b:Int}:aK P np id .mn2 [.sc (.int k a),.sc (.int k' b)] h K=K (.sc (.int k (if b<a then b else a))) [] []:=(rfl)
end
section
variable {P:Program} {np n i:Nat} {os:List Ca} {st:St} {tr:List (List Nat × List Nat)} {K:St->List (List Nat × List Nat)->Prop}
@[simp] theorem mD:B8 P np n i [] st tr K=K st tr:=(rfl)
@[simp] theorem Xc {d:Option Nat} {op:FY} {xs:List D8}:B8 P np n i (⟨d,op,xs,none⟩::os) st tr K=aK P np (n+8*i) op (xs.map (·.ev st.get)) st.hp λ v rd up=>B8 P np n (i+1) os ((st.put d v).upd up) (tr++[(rd,up.map (·.1))]) K:=(rfl)
def FX (P:Program) (np n i:Nat) (b:Option (Option Bool)) (want:Bool) (d:Option Nat) (op:FY) (xs:List D8) (os:List Ca) (st:St) (tr:List (List Nat × List Nat)) (K:St->List (List Nat × List Nat)->Prop):Prop :=
 ∃ c,b=some c/\if c=some want then aK P np (n+8*i) op (xs.map (·.ev st.get)) st.hp λ v rd up=>B8 P np n (i+1) os ((st.put d v).upd up) (tr++[(rd,up.map (·.1))]) K else B8 P np n (i+1) os (st.put d (.tup [])) (tr++[([],[])]) K
section
variable {d:Option Nat} {op:FY} {xs:List D8} {os:List Ca}
@[simp] theorem l5 {g:Nat} {q:Bool}:B8 P np n i (⟨d,op,xs,some (g,q)⟩::os) st tr K=FX P np n i (II (st.get g)) q d op xs os st tr K:=(rfl)
@[simp] theorem gH:FX P np n i (some (some true)) true d op xs os st tr K=aK P np (n+8*i) op (xs.map (·.ev st.get)) st.hp λ v rd up=>B8 P np n (i+1) os ((st.put d v).upd up) (tr++[(rd,up.map (·.1))]) K:=by simp[FX]
@[simp] theorem c7:FX P np n i (some (some false)) false d op xs os st tr K=aK P np (n+8*i) op (xs.map (·.ev st.get)) st.hp λ v rd up=>B8 P np n (i+1) os ((st.put d v).upd up) (tr++[(rd,up.map (·.1))]) K:=by simp[FX]
@[simp] theorem Wu:FX P np n i (some (some true)) false d op xs os st tr K=B8 P np n (i+1) os (st.put d (.tup [])) (tr++[([],[])]) K:=by simp[FX]
@[simp] theorem Wa:FX P np n i (some (some false)) true d op xs os st tr K=B8 P np n (i+1) os (st.put d (.tup [])) (tr++[([],[])]) K:=by simp[FX]
@[simp] theorem k9 {q:Bool}:FX P np n i (some none) q d op xs os st tr K=B8 P np n (i+1) os (st.put d (.tup [])) (tr++[([],[])]) K:=by simp[FX]
theorem BK {b w:Bool} (h1:b=true->FX P np n i (some (some true)) w d op xs os st tr K) (h2:b=false->FX P np n i (some (some false)) w d op xs os st tr K):FX P np n i (some (some b)) w d op xs os st tr K:=by
 cases b
 .exact h2 rfl
 .exact h1 rfl
@[simp] theorem nK {b:Bool}:II (.sc (.bool b))=some (some b):=(rfl)
@[simp] theorem mU:II (.tup [])=some none:=(rfl)
end
@[simp] theorem lR {n:Nat} {i:Nat}:(⟨sz,[],h,n⟩:St).get i = .dead:=(rfl)
@[simp] theorem lH {n:Nat} {i:Nat}:(⟨sz,(j,v)::t,h,n⟩:St).get i=if j=i then v else (⟨sz,t,h,n⟩:St).get i:=by
 show (if j=i then some v else Am t i).getD .dead=if j=i then v else (Am t i).getD .dead
 split<;>rfl
@[simp] theorem lN {n:Nat} {i:Nat}:(⟨sz,t,[],n⟩:St).hp i=none:=(rfl)
@[simp] theorem LQ {n:Nat} {i:Nat} {v:Option AX}:(⟨sz,t,(j,v)::h,n⟩:St).hp i=if j=i then v else (⟨sz,t,h,n⟩:St).hp i:=by
 show (if j=i then some v else Am h i).getD none=if j=i then v else (Am h i).getD none
 split<;>rfl
@[simp] theorem oV {n d:Nat}:(⟨sz,t,h,n⟩:St).put (some d) v=⟨sz,(d,v)::t,h,n⟩:=(rfl)
@[simp] theorem oU:st.put none v=st:=(rfl)
@[simp] theorem mE {n:Nat}:(⟨sz,t,h,n⟩:St).upd []=⟨sz,t,h,n⟩:=(rfl)
@[simp] theorem o0 {n:Nat} {us:List (Nat × Option AX)}:(⟨sz,t,h,n⟩:St).upd us=⟨sz,t,us++h,n⟩:=(rfl)
@[simp] theorem pG {i:Nat}:D8.ev g (.t i)=g i:=(rfl)
@[simp] theorem oM {k:IntKind} {n:Int}:D8.ev g (.c (.int k n)) = .sc (.int k n):=(rfl)
@[simp] theorem n8 {b:Bool}:D8.ev g (.c (.bool b)) = .sc (.bool b):=(rfl)
@[simp] theorem lO:D8.ev g (.f f) = .fn (.func f) [] []:=(rfl)
end
theorem FW:∀ (xs:List AV),Ec xs xs
 | []=>trivial
 | x::xs=>⟨.refl x,FW xs⟩
theorem kC {id:Nat} {h:Nat->Option AX} (hc:Cq P f aA [] res []) (hw:Ec ((first++args++aE).map (conv [] [] h 4)) aA) (hk:K (conv (((List.range 8).map (id + ·)).zipIdx.map λ (a,b)=>(b,a)) [] (λ _=>none) 4 res) [] []):aK P np id .call (.fn (.func f) first aE::args) h K :=
 ⟨[],[],true,aA,[],res,[],zz,zz,zz,hw,rfl,hc,zz,.inl rfl,hk⟩
theorem CC {id:Nat} {h:Nat->Option AX} (f0:Nat) (hf:Nat.beq f f0=true) (hk:aK P np id .call (.fn (.func f0) first aE::args) h K):aK P np id .call (.fn (.func f) first aE::args) h K:=by
 have e:f=f0:=Nat.eq_of_beq_eq_true hf;rw[e];exact hk
theorem AT {id:Nat} {h:Nat->Option AX} (hc:Cq P f aA [] res []) (he:(first++args++aE).map (conv [] [] h 4)=aA) (hk:K (conv (((List.range 8).map (id + ·)).zipIdx.map λ (a,b)=>(b,a)) [] (λ _=>none) 4 res) [] []):aK P np id .call (.fn (.func f) first aE::args) h K :=
 kC hc (by rw[he];exact FW _) hk
theorem G9 {id:Nat} {h:Nat->Option AX} (sn:List Nat) (hc:Cq P f aA [] res []) (he:(first++args++aE).map (conv [] sn h 4)=aA) (hp:Plain res) (hk:K (conv (((List.range 8).map (id + ·)).zipIdx.map λ (a,b)=>(b,a)) [] (λ _=>none) 4 res) sn []):aK P np id .call (.fn (.func f) first aE::args) h K :=
 ⟨[],sn,false,aA,[],res,[],zz,zz,zz,by rw[UK,he];exact FW _,rfl,hc,zz,.inr ⟨hp,zz⟩,hk⟩
@[simp] theorem nN:Ec [] []=True:=(rfl)
@[simp] theorem qE {ys:List AV}:Ec (x::xs) (y::ys)=(Wk x y/\Ec xs ys):=(rfl)
attribute [simp] Wk.nil Wk.dead Wk.full
theorem ME {x:Int} (h1 : -9223372036854775808<=x) (h2:x<9223372036854775808):IntKind.i64.wrap x=x:=by rw[IntKind.wrap_i64];omega
theorem Ay {id:Nat} {h:Nat->Option AX} (hc:Cq P f aA [] res []) (hk:K (conv (((List.range 8).map (id + ·)).zipIdx.map λ (a,b)=>(b,a)) [] (λ _=>none) 4 res) [] []) (he:(first++args++aE).map (conv [] [] h 4)=aA:=by simp):aK P np id .call (.fn (.func f) first aE::args) h K:=AT hc he hk
theorem wq {k:Nat} (h:k<9223372036854775807:=by omega):IntKind.i64.wrap ((k:Int)+1)=((k+1:Nat):Int):=by rw[ME zy zy];omega
theorem w6 {x:Int} (h1 : -9223372036854775808<=x:=by omega) (h2:x<9223372036854775808:=by omega):IntKind.i64.wrap x=x:=ME h1 h2
attribute [simp] Aw JT Wk.refl AZ DV
section
variable {s s' id i j off len n:Nat} {f:Bool} {rows new:List (List AV)} {cs xs ys:List AV} {h:Nat->Option AX} {ρ:List (Nat × Nat)} {sn:List Nat} {v:Value}
@[simp] theorem oA:lenOf (.vs s f rows)=some rows.length:=(rfl)
@[simp] theorem oZ:lenOf (.rs id off len)=some len:=(rfl)
@[simp] theorem qM:lenOf (.rk id off len c)=some len:=(rfl)
@[simp] theorem lW:CP (.rk id off len c)=[id]:=(rfl)
@[simp] theorem pM:cellsOf (.rk id off len c)=some [.rk id off len c]:=(rfl)
@[simp] theorem oL:Cx s h (.rk id off len c)=(h id).bind λ e=>if e.s=s/\off+len<=e.rows.length then some ((e.rows.drop off).take len) else none:=(rfl)
@[simp] theorem nB:lenOf .nilS=some 0:=(rfl)
@[simp] theorem mS:Ft h (.pv cs)=some cs:=(rfl)
@[simp] theorem lG:Ft h (.pt id i j)=(h id).bind λ e=>(e.rows[i]?).map (·.drop j):=(rfl)
@[simp] theorem nL:cellsOf (.agg cs)=some cs:=(rfl)
@[simp] theorem m8:cellsOf (.vs s f rows)=some [.vs s f rows]:=(rfl)
@[simp] theorem oD:cellsOf (.rs id off len)=some [.rs id off len]:=(rfl)
@[simp] theorem m5:cellsOf (.pt id i j)=some [.pt id i j]:=(rfl)
@[simp] theorem m6:cellsOf (.pv cs)=some [.pv cs]:=(rfl)
@[simp] theorem pW {k:IntKind} {n:Int}:cellsOf (.sc (.int k n))=some [.sc (.int k n)]:=(rfl)
@[simp] theorem mO {b:Bool}:cellsOf (.sc (.bool b))=some [.sc (.bool b)]:=(rfl)
@[simp] theorem nS {b:ByteArray}:cellsOf (.sc (.string b))=some [.sc (.string b)]:=(rfl)
@[simp] theorem oO:cellsOf .nilS=some [.nilS]:=(rfl)
@[simp] theorem pP {g:Fn}:cellsOf (.fn g xs ys)=some [.fn g xs ys]:=(rfl)
@[simp] theorem mJ:CP (.vs s f rows)=[]:=(rfl)
@[simp] theorem pJ:CP (.rs id off len)=[id]:=(rfl)
@[simp] theorem lS:CP (.pt id i j)=[id]:=(rfl)
@[simp] theorem pT:CP (.pv cs)=[]:=(rfl)
@[simp] theorem lK:CP (.sc v)=[]:=(rfl)
@[simp] theorem nW:Cx s h (.vs s f rows)=some rows:=if_pos rfl
@[simp] theorem oJ:Cx s h (.rs id off len)=(h id).bind λ e=>if e.s=s/\off+len<=e.rows.length then some ((e.rows.drop off).take len) else none:=(rfl)
@[simp] theorem pU:Cx s h .nilS=some []:=(rfl)
@[simp] theorem qF:EL s h new .nilS=some ([],0,[]):=(rfl)
@[simp] theorem pZ:EL s h new (.rs id off len)=(h id).bind λ e=>if e.s=s/\off+len<=e.rows.length/\e.ro<=off+len then some ((e.rows.drop off).take len,e.ro - off,[(id,none)]) else none:=(rfl)
@[simp] theorem oI {k:IntKind} {n:Int}:Ct (.int k n) = .sc (.int k n):=(rfl)
@[simp] theorem lP {b:Bool}:Ct (.bool b) = .sc (.bool b):=(rfl)
@[simp] theorem nU {b:ByteArray}:Ct (.string b) = .sc (.string b):=(rfl)
@[simp] theorem mG {a:Option Addr}:Ct (.slice a l c) = .sc (.slice a l c):=(rfl)
@[simp] theorem mK:conv ρ sn h (n+1) (.vs s f rows) = .vs s f rows:=(rfl)
@[simp] theorem mV:conv ρ sn h (n+1) (.sc v) = .sc v:=(rfl)
@[simp] theorem pO:conv ρ sn h (n+1) (.pv cs) = .pv cs:=(rfl)
@[simp] theorem lQ {α:Type} {i:Nat}:Am ([]:List (Nat × α)) i=none:=(rfl)
@[simp] theorem l6 {α:Type} {i j:Nat} {a:α} {l:List (Nat × α)}:Am ((j,a)::l) i=if j=i then some a else Am l i:=(rfl)
@[simp] theorem qA:conv ρ sn h (n+1) (.rs id off len)=(match Am ρ id with
   | some k=>.rs k off len
   | none =>
     if id∈sn then
      match h id with
      | some e=>if off+len<=e.rows.length then .vs e.s false (((e.rows.drop off).take len).map (·.map (conv [] sn h n))) else .dead
      | none=>.dead
     else .dead):=(rfl)
@[simp] theorem mZ:conv ρ sn h (n+1) (.rk id off len c)=(match Am ρ id with
   | some k=>.rs k off len
   | none =>
     if id∈sn then
      match h id with
      | some e=>if off+len<=e.rows.length then .vs e.s false (((e.rows.drop off).take len).map (·.map (conv [] sn h n))) else .dead
      | none=>.dead
     else .dead):=(rfl)
@[simp] theorem oP:conv ρ sn h (n+1) (.pt id i j)=(match Am ρ id with
   | some k=>.pt k i j
   | none =>
     if id∈sn then
      match h id with
      | some e=>match e.rows[i]? with | some row=>if j<=row.length then .pv ((row.drop j).map (conv [] sn h n)) else .dead | none=>.dead
      | none=>.dead
     else .dead):=(rfl)
@[simp] theorem m7 {i:Nat}:conv ρ sn h (n+1) (.mp i)=(match Am ρ i with
 | some k=>.mp k
 | none=>.dead):=(rfl)
@[simp] theorem qG:conv ρ sn h (n+1) (.agg cs) = .agg (cs.map (conv ρ sn h n)):=(rfl)
@[simp] theorem pV:conv ρ sn h (n+1) (.tup cs) = .tup (cs.map (conv ρ sn h n)):=(rfl)
end
def Ir (ops:List Ca) (af:List (List Nat)) (tr:List (List Nat × List Nat)):Prop:=Gp ops af tr=true
theorem BE {n:Nat} {b:C5} (s:St) (hd:(ops.all λ o=>o.dst.all (· < sz))=true) (ho:B8 P np n 0 ops ⟨sz,t,h,n⟩ [] λ st' _=>Le np ⟨st'.sz,st'.t,st'.h,n+8*ops.length⟩ s) (hq:AQ P np b Q s):AQ P np (.seq (.reg false ops af) b) Q ⟨sz,t,h,n⟩:=by
 show AQ P np (.reg false ops af) (λ e st'=>match e with | .normal=>∃ st2,Le np st' st2/\AQ P np b Q st2 | e=>Q e st') _
 exact AU hd (E7 _ _ _ _ _ _ _ (λ st' _ h=>⟨s,h,hq⟩) ho)
theorem H9 {n:Nat} {b:C5} (s:St) (hd:(ops.all λ o=>o.dst.all (· < sz))=true) (ho:B8 P np n 0 ops ⟨sz,t,h,n⟩ [] λ st' tr=>Ir ops af tr/\Le np ⟨st'.sz,st'.t,st'.h,n+8*ops.length⟩ s) (hq:AQ P np b Q s):AQ P np (.seq (.reg true ops af) b) Q ⟨sz,t,h,n⟩:=by
 show AQ P np (.reg true ops af) (λ e st'=>match e with | .normal=>∃ st2,Le np st' st2/\AQ P np b Q st2 | e=>Q e st') _
 exact Cn hd (E7 _ _ _ _ _ _ _ (λ st' _ h=>⟨h.1,s,h.2,hq⟩) ho)
theorem arc {n:Nat} {b:C5} (s:St) (ho:B8 P np n 0 ops ⟨sz,t,h,n⟩ [] λ st' _=>Le np ⟨st'.sz,st'.t,st'.h,n+8*ops.length⟩ s) (hq:AQ P np b Q s) (hd:(ops.all λ o=>o.dst.all (· < sz))=true:=by rfl):AQ P np (.seq (.reg false ops af) b) Q ⟨sz,t,h,n⟩:=BE s hd ho hq
theorem BM {n:Nat} {b:C5} (s:St) (ho:B8 P np n 0 ops ⟨sz,t,h,n⟩ [] λ st' tr=>Ir ops af tr/\Le np ⟨st'.sz,st'.t,st'.h,n+8*ops.length⟩ s) (hq:AQ P np b Q s) (hd:(ops.all λ o=>o.dst.all (· < sz))=true:=by rfl):AQ P np (.seq (.reg true ops af) b) Q ⟨sz,t,h,n⟩:=H9 s hd ho hq
theorem Le.snap {st st':St} (sn:List Nat) (q:st'.sz=st.sz) (hh:st'.h=[]) (ht:∀ p∈st'.t,Wk (conv [] sn st.hp 4 (st.get p.1)) p.2):Le 0 st st' :=
 Le.lst [] sn [] q zz zz zz zz zz (Qh _) zz (λ p hp=>.inl (ht p hp)) (by simp[hh])
theorem AM {st st':St} (sn:List Nat) (ht:∀ p∈st'.t,Wk (conv [] sn st.hp 4 (st.get p.1)) p.2) (q:st'.sz=st.sz:=by rfl) (hh:st'.h=[]:=by rfl):Le 0 st st':=Le.snap sn q hh ht
variable {a res:AV} {e:AX} {hs':List (Option AX)} {st:St}
attribute [simp] EQ Ee F2 JB EE Ak Nat.succ_eq_add_one
@[simp] theorem qL {g:Nat->AV} {a:Option Addr} {l c:Nat}:D8.ev g (.c (.slice a l c)) = .sc (.slice a l c):=(rfl)
@[simp] theorem mC {g:Nat->AV} {b:ByteArray}:D8.ev g (.c (.string b)) = .sc (.string b):=(rfl)
theorem AG.out {rs:List (Nat × Option (Bool × Nat))} {vs:List AV} (ex sn:List Nat) (h1:F2 st rs=some vs) (h2:ex.Nodup) (h3:∀ i∈sn,i∉ex) (hw:Wk (conv ex.zipIdx sn st.hp 4 (EE vs)) res) (he:ex.map (λ i=>(st.hp i).map (Ak ex.zipIdx sn st.hp 4))=hs'):AG rs 0 st res hs':=by
 refine⟨vs,h1,ex,sn,by simpa using h2,zz,λ i hi=>⟨h3 i hi,Qh _⟩,?_,?_⟩
 .simpa using hw
 .simpa using he
theorem CD {rs:List (Nat × Option (Bool × Nat))} {vs:List AV} (ex sn:List Nat) (h1:F2 st rs=some vs:=by rfl) (h2:ex.Nodup:=by simp) (h3:∀ i∈sn,i∉ex:=by simp) (hw:Wk (conv ex.zipIdx sn st.hp 4 (EE vs)) res:=by simp) (he:ex.map (λ i=>(st.hp i).map (Ak ex.zipIdx sn st.hp 4))=hs':=by simp[AB]):AQ Tryz.prog 0 .ret (λ e st=>(e = .normal∨e = .ret)/\AG rs 0 st res hs') st:=⟨.inr rfl,AG.out ex sn h1 h2 h3 hw he⟩
theorem Cs {b a' b':AV} (h1:Wk a a') (h2:Wk b b'):Wk (.tup [a,b]) (.tup [a',b']) :=
 .tup _ _ rfl λ i=>match i with | 0=>h1 | 1=>h2 | _+2=>.refl _
theorem An {a b:Bool} (h:a=b):Wk (.B a) (.B b):=by subst h;exact .refl _
theorem dC {a b:Int} (h:a=b):Wk (.I a) (.I b):=by subst h;exact .refl _
theorem Dy {b:AV} (h:a=b):Wk a b:=by subst h;exact .refl _
theorem VT {P:Program} {f:FuncId} {s:Nat} {b:Bool} {hs:List AX} (h:∀ a c,Cq P f [.sc (.slice a 0 c)] hs res hs'):Cq P f [.vs s b []] hs res hs':=by
 refine⟨(h none 0).1,(h none 0).2.1,λ T M w vs h1 h2 h3 hr=>?_⟩;have q:=hr.2 0 zz
 have hv:∃ a c,vs.getD 0 undef = .slice a 0 c:=by
  generalize vs.getD 0 undef=v at q
  cases q;exact⟨_,_,rfl⟩
 obtain⟨a,c,hv⟩:=hv;refine(h a c).2.2 T M w vs h1 h2 h3 ⟨hr.1,λ i hi=>?_⟩;have:i=0:=by simpa using hi
 subst this;rw[hv];exact .sc _ _ rfl
theorem MT (hs:List AX):Ga (hs.map some)=DR hs:=by
 funext k
 simp only[Ga,DR,QG]
 cases hs[k]?<;>rfl
def Cc (ids:List Nat) (id:Nat):List (Nat × Nat):=(ids++(List.range 8).map (id + ·)).zipIdx.map λ (a,b)=>(b,a)
@[simp] theorem dH {id:Nat}:Cc [] id=[(0,id),(1,id+1),(2,id+2),(3,id+3),(4,id+4),(5,id+5),(6,id+6),(7,id+7)]:=(rfl)
@[simp] theorem aL {a id:Nat}:Cc [a] id=[(0,a),(1,id),(2,id+1),(3,id+2),(4,id+3),(5,id+4),(6,id+5),(7,id+6),(8,id+7)]:=(rfl)
@[simp] theorem Zt {a b id:Nat}:Cc [a,b] id=[(0,a),(1,b),(2,id),(3,id+1),(4,id+2),(5,id+3),(6,id+4),(7,id+5),(8,id+6),(9,id+7)]:=(rfl)
section
variable {P:Program} {np id:Nat} {h:Nat->Option AX} {K:AV->List Nat->List (Nat × Option AX)->Prop} {s s':Nat} {f:Bool} {rows:List (List AV)} {k l:Nat}
@[simp] theorem pN:aK P np id (.slc s false true false) [.vs s' f rows,.sc (.int .i64 (k:Int))] h K=(k<=rows.length/\s'=s/\K (.vs s false (rows.take k)) [] []):=by
 rw[GS];refine propext ⟨?_,?_⟩
 .rintro ⟨l,r,m,n,h1,h2,h4,h5,h6,h7,h3,q,h8,h9⟩
  obtain rfl:=h5 rfl;simp at h4 h1;subst h1;have:k=r:=zy
  subst this;exact⟨h3,h8,by simpa using h9⟩
 .rintro ⟨h1,h2,h3⟩
  exact⟨0,k,0,rows.length,rfl,Qh _,zz,λ _=>rfl,(λ h=>by cases h),(λ h=>by cases h),h1,(λ h=>by cases h),h2,by simpa using h3⟩
@[simp] theorem oS:aK P np id (.slc s true false false) [.vs s' f rows,.sc (.int .i64 (k:Int))] h K=(k<=rows.length/\s'=s/\K (.vs s f (rows.drop k)) [] []):=by
 rw[GS];refine propext ⟨?_,?_⟩
 .rintro ⟨l,r,m,n,h1,h2,h4,h5,h6,h7,h3,q,h8,h9⟩
  obtain rfl:=h6 rfl;simp at h4 h1;subst h1;have:k=l:=zy
  subst this;refine⟨h2,h8,?_⟩;have e:(rows.drop k).take (rows.length - k)=rows.drop k:=Qc zz
  simpa [e] using h9
 .rintro ⟨h1,h2,h3⟩
  have e:(rows.drop k).take (rows.length - k)=rows.drop k:=Qc zz
  exact⟨k,rows.length,0,rows.length,rfl,h1,zz,(λ h=>by cases h),λ _=>rfl,(λ h=>by cases h),Qg _,(λ h=>by cases h),h2,by simpa [e] using h3⟩
end
section
variable {P:Program} {np id:Nat} {h:Nat->Option AX} {K:AV->List Nat->List (Nat × Option AX)->Prop} {f:FuncId} {first aE args aA:List AV} {res:AV}
theorem Cu (hc:Cq P f aA [] res [some e]) (he:(first++args++aE).map (conv [] [] h 4)=aA) (hk:K (conv (Cc [] id) [] (λ _=>none) 4 res) [] [(id,some (Ak (Cc [] id) [] (λ _=>none) 4 e))]):aK P np id .call (.fn (.func f) first aE::args) h K :=
 ⟨[],[],true,aA,[],res,[some e],zz,zz,zz,by rw[UK,he];exact FW _,rfl,hc,zz,.inl rfl,hk⟩
theorem C4 (hc:Cq P f aA [] res [some e]) (hk:K (conv (Cc [] id) [] (λ _=>none) 4 res) [] [(id,some (Ak (Cc [] id) [] (λ _=>none) 4 e))]) (he:(first++args++aE).map (conv [] [] h 4)=aA:=by simp):aK P np id .call (.fn (.func f) first aE::args) h K:=Cu hc he hk
theorem Po {e2:AX} (hc:Cq P f aA [] res [some e,some e2]) (he:(first++args++aE).map (conv [] [] h 4)=aA) (hk:K (conv (Cc [] id) [] (λ _=>none) 4 res) [] [(id,some (Ak (Cc [] id) [] (λ _=>none) 4 e)),(id+1,some (Ak (Cc [] id) [] (λ _=>none) 4 e2))]):aK P np id .call (.fn (.func f) first aE::args) h K :=
 ⟨[],[],true,aA,[],res,[some e,some e2],zz,zz,zz,by rw[UK,he];exact FW _,rfl,hc,zz,.inl rfl,hk⟩
theorem BX {i:Nat} {e':AX} (hi:h i=some e) (q:Ak [(i,0)] [] h 4 e=e') (hc:Cq P f aA [e'] res hs') (h8:hs'.length<=9) (he:(first++args++aE).map (conv [(i,0)] [] h 4)=aA) (hk:K (conv (Cc [i] id) [] (λ _=>none) 4 res) [i] (hs'.zipIdx.map λ (e,k)=>((i::(List.range 8).map (id + ·)).getD k 0,e.map (Ak (Cc [i] id) [] (λ _=>none) 4)))):aK P np id .call (.fn (.func f) first aE::args) h K :=
 ⟨[i],[],true,aA,[e'],res,hs',zz,zz,zz,by rw[show [i].zipIdx=[(i,0)] from rfl,he];exact FW _,by rw[show [i].zipIdx=[(i,0)] from rfl];simpa [hi] using q,hc,by simpa using h8,.inl rfl,by simpa [Cc] using hk⟩
end
theorem Av.rfl' {nl:List (Nat × Nat)} (h:e.ro<=e.rows.length):Av nl e e:=⟨rfl,Qg _,h,.inl rfl⟩
theorem Le.var1 {st':St} (i:Nat) (sn:List Nat) {e0:AX} (q:st'.sz=st.sz) (hh:st'.h=[(i,some e)]) (hi:i<st'.n) (hs:∀ j∈sn,j≠i) (h0:st.hp i=some e0) (he:Ak [(i,i)] sn st.hp 4 e0=e) (hr:e.ro<=e.rows.length) (ht:∀ p∈st'.t,Wk (conv [(i,i)] sn st.hp 4 (st.get p.1)) p.2):Le 0 st st' :=
 Le.lst [(i,i)] sn [] q zz zz (by simp[hi]) zz (λ j hj=>⟨Qh _,by simpa using hs j hj⟩) (Qh _) zz (λ p hp=>.inl (ht p hp)) (λ p hp e' u=>by
  rw[hh] at hp;simp at hp;subst hp
  cases u
  exact .inl ⟨(i,i),zz,rfl,e0,h0,by rw[he];exact Av.rfl' hr⟩)
theorem Le.ren1 {st':St} (i j:Nat) (sn:List Nat) {e0:AX} (q:st'.sz=st.sz) (hh:st'.h=[(j,some e)]) (hi:j<st'.n) (hs:∀ j∈sn,j≠i) (h0:st.hp i=some e0) (he:Ak [(i,j)] sn st.hp 4 e0=e) (hr:e.ro<=e.rows.length) (ht:∀ p∈st'.t,Wk (conv [(i,j)] sn st.hp 4 (st.get p.1)) p.2):Le 0 st st' :=
 Le.lst [(i,j)] sn [] q zz zz (by simp[hi]) zz (λ j hj=>⟨Qh _,by simpa using hs j hj⟩) (Qh _) zz (λ p hp=>.inl (ht p hp)) (λ p hp e' u=>by
  rw[hh] at hp;simp at hp;subst hp
  cases u
  exact .inl ⟨(i,j),zz,rfl,e0,h0,by rw[he];exact Av.rfl' hr⟩)
theorem Iw {b c a' b' c':AV} (h1:Wk a a') (h2:Wk b b') (h3:Wk c c'):Wk (.agg [a,b,c]) (.agg [a',b',c']) :=
 .agg _ _ rfl λ i=>match i with | 0=>h1 | 1=>h2 | 2=>h3 | _+3=>.refl _
section
variable {H:Type} {P:Program}
def D9 (P:Program):Nat->TypeId->DataW H->Option (List AV)
 | 0,_,_=>none
 | n+1,t,d =>
   match P.underlying t,d with
   | some .bool,.lit (.bool b)=>some [.sc (.bool b)]
   | some (.int k),.lit (.int k' x)=>if k'=k/\(Lit.int k' x).wf=true then some [.sc (.int k' x)] else none
   | some .string,.lit (.string l)=>some [.sc (.string ⟨l.toArray⟩)]
   | some (.slice _),.nil=>some [.nilS]
   | some (.slice e),.slice es _=>if es.length<=9223372036854775807 then (es.mapM (D9 P n e)).map λ rows=>[.vs (P.cellsOf e) false rows] else none
   | some (.struct fs),.agg ds=>if ds.length=fs.size then ((fs.toList.zip ds).mapM λ (x:Field × DataW H)=>D9 P n x.1.type x.2).map List.flatten else none
   | some (.array m e),.agg ds=>if ds.length=m then (ds.mapM (D9 P n e)).map List.flatten else none
   | _,_=>none
def Gj (P:Program) (p:TypeId->Bool):Nat->List Field->Option Nat
 | o,[]=>some o
 | o,f::fs=>if f.offset=o/\p f.type=true then Gj P p (o+P.cellsOf f.type) fs else none
def GR (P:Program):Nat->TypeId->Bool
 | 0,_=>false
 | n+1,t =>
   match P.underlying t with
   | some .bool=>true
   | some (.int _)=>true
   | some .string=>true
   | some (.slice e)=>decide (0<P.cellsOf e) && GR P n e
   | some (.struct fs)=>Gj P (GR P n) 0 fs.toList == some (P.cellsOf t)
   | some (.array m e)=>GR P n e && decide (m*P.cellsOf e=P.cellsOf t)
   | _=>false
def TF (w:World) (b:Nat):Nat:=match w.heap[b]? with | some (.cells cells _ _)=>cells.size | _=>0
theorem XH (w:World):HI (TF w) w:=by
 intro b hb;unfold TF at hb ⊢;split at hb
 .rename_i cells ty fz h
  exact⟨cells,ty,fz,h,Qg _⟩
 .exact absurd hb (Nat.lt_irrefl _)
def Dn (w:World) (xs:List AV) (cs:List Value):Prop :=
 xs.length=cs.length /\ ∀ i,i<xs.length->(cs.getD i undef).oneCell'=true/\Ar (TF w) w (λ _=>none) (xs.getD i .dead) (cs.getD i undef)
theorem Dn.one {w:World} {x:AV} {v:Value} (h1:v.oneCell'=true) (h:Ar (TF w) w (λ _=>none) x v):Dn w [x] [v]:=by
 refine⟨rfl,λ i hi=>?_⟩;obtain rfl:i=0:=by simpa using hi
 exact⟨h1,h⟩
theorem Dn.append {w:World} {xs ys:List AV} {cs ds:List Value} (h1:Dn w xs cs) (h2:Dn w ys ds):Dn w (xs++ys) (cs++ds):=by
 refine⟨by simp[h1.1,h2.1],λ i hi=>?_⟩
 rcases Ua i xs.length with h | h
 .have:=h1.2 i h
  simpa [List.getD,QJ h,QJ (show i<cs.length from h1.1 ▸ h)] using this
 .have h3:i - xs.length<ys.length:=by simp at hi;omega
  have:=h2.2 (i - xs.length) h3
  simpa [List.getD,Qt h,Qt (show cs.length<=i from h1.1 ▸ h),<- h1.1] using this
theorem RP {α β:Type} {f:α->Option β}:∀ {l:List α},(∀ a∈l,∃ b,f a=some b) -> ∃ bs,l.mapM f=some bs/\bs.length=l.length /\ ∀ (i:Nat) a,l[i]? = some a -> ∃ b,bs[i]? = some b/\f a=some b
 | [],_=>⟨[],rfl,rfl,zz⟩
 | a::l,h=>by
   obtain⟨b,hb⟩:=h a Qp;obtain⟨bs,h1,h2,h3⟩:=RP (l:=l) λ x hx=>h x (Qo _ hx);refine⟨b::bs,by rw[List.mapM_cons,hb,h1];rfl,by simp[h2],λ i x hi=>?_⟩
   cases i with
   | zero=>simp at hi;subst hi;exact⟨b,rfl,hb⟩
   | succ i=>simpa using h3 i x (by simpa using hi)
variable {enc:TypeId × Value->H} {w:World} {sp:Nat->Bool} {aG:Bool}
theorem Kf:∀ (n:Nat) (t:TypeId),GR P n t=true -> ∀ (m:Nat) (cs:List Value) (x:DataW H × List MemPlace),DataW.trod enc P w 0 sp aG m t cs=some x -> ∃ xs,D9 P n t x.1=some xs/\Dn w xs cs
 | 0,_,h,_,_,_,_=>by cases h
 | n+1,t,h,0,cs,x,hx=>by simp[DataW.trod] at hx
 | n+1,t,h,m+1,cs,x,hx=>by
   simp only[GR] at h
   cases hu:P.underlying t with
   | none=>rw[hu] at h;cases h
   | some td =>
     rw[hu] at h
     cases td<;>simp only at h<;>(try (cases h;done))
     case slice e =>
      simp only[QW,Qb] at h;rcases DataW.trod_slice hu hx with ⟨rfl,rfl⟩ | ⟨a,len,cap,elems,rest,k,_,rfl,rfl,_,hl,a1,hh,h6,_,_⟩
      .exact ⟨[.nilS],by simp[D9,hu],.one rfl (.sc _ _ rfl)⟩
      .obtain ⟨bs,h1,h2,h3⟩:=RP (f:=D9 P n e) (l:=elems.map (·.1)) (λ d hd=>by
        obtain⟨y,hy,rfl⟩:=Qm.1 hd;obtain⟨i,hi,rfl⟩:=Qr.1 hy;have:=h6 i zy
        rw[Qa hi] at this
        cases hc:w.cells? 0 (a.add (i*P.cellsOf e)) (P.cellsOf e) with
        | none=>rw[hc] at this;cases this
        | some rc =>
          rw[hc] at this;obtain⟨xs,h8,_⟩:=Kf n e h.2 _ _ _ this
          exact⟨xs,h8⟩)
       have h7:∀ i,i<len -> ∃ row rc,bs[i]? = some row/\w.cells? 0 (a.add (i*P.cellsOf e)) (P.cellsOf e)=some rc/\Dn w row rc:=by
        intro i hi;have hi':i<elems.length:=zy
        have:=h6 i hi;rw[Qa hi'] at this
        cases hc:w.cells? 0 (a.add (i*P.cellsOf e)) (P.cellsOf e) with
        | none=>rw[hc] at this;cases this
        | some rc =>
          rw[hc] at this;obtain⟨xs,h8,hx2⟩:=Kf n e h.2 _ _ _ this;obtain⟨row,hq,h4⟩:=h3 i elems[i].1 (by simp[hi'])
          rw[h8] at h4;obtain rfl:=Qj h4;exact⟨_,rc,hq,rfl,hx2⟩
       have h9:bs.length=len:=by simpa [hh] using h2
       have hk:elems.length<=9223372036854775807:=by
        have e:maxLen=9223372036854775807:=zx
        omega
       refine⟨[.vs (P.cellsOf e) false bs],by simp[D9,hu,h1,hk],.one rfl ?_⟩
       rw[<- h9]
       have u:∀ i j,i<len->j<P.cellsOf e -> ∃ v,w.cell? (a.add (i*P.cellsOf e+j))=some v/\v.oneCell'=true/\Ar (TF w) w (λ _=>none) ((bs.getD i []).getD j .dead) v:=by
        intro i j hi hj;obtain⟨row,rc,q1,q2,q3⟩:=h7 i hi;obtain⟨_,q4,q5⟩:=World.cells?_some q2;have q6:=q5 j hj;have q7:=q3.2 j (by rw[q3.1,q4];exact hj)
        have e1:bs.getD i []=row:=by simp[List.getD,q1]
        have e2:rc[j]? = some (rc.getD j undef):=by
         have:j<rc.length:=zy
         simp[List.getD,this]
        have e3:(a.add (i*P.cellsOf e)).add j=a.add (i*P.cellsOf e+j):=by
         unfold Addr.add
         by_cases c1:i*P.cellsOf e=0<;>by_cases c2:j=0<;>simp[c1,c2]<;>omega
        rw[e3] at q6;exact⟨_,by rw[q6,e2],q7.1,by rw[e1];exact q7.2⟩
       refine .vs _ _ _ _ (some a) cap (λ i j=>(w.cell? (a.add (i*P.cellsOf e+j))).getD undef) (λ h=>by cases h) zy (λ row hr=>?_) (λ hs=>?_) (λ i j hi hj=>?_) λ i j hi hj=>?_
       .obtain ⟨i,hi,rfl⟩:=Qr.1 hr
        obtain⟨row,rc,q1,q2,q3⟩:=h7 i zy
        obtain⟨_,q4,_⟩:=World.cells?_some q2;rw[Qa hi] at q1;obtain rfl:=Qj q1;rw[q3.1,q4]
       .have hpos:0<len:=by
         rw[<- h9]
         cases bs with
         | nil=>exact absurd rfl hs
         | cons _ _=>simp
        obtain⟨v0,h0,_⟩:=u 0 0 hpos h.1;obtain⟨b,off,spot⟩:=a;have ha:spot=none:=by simpa [Addr.add] using World.cell?_spot h0
        subst ha;have h5:∀ k,(⟨b,off,none⟩:Addr).add k=⟨b,off+k,none⟩:=λ k=>by unfold Addr.add;split<;>simp_all
        cases hb:w.heap[b]? with
        | none=>rw[h5] at h0;simp[World.cell?,hb] at h0
        | some o =>
          cases o with
          | cells cells ty fz =>
            have hc:∀ i j,i<len->j<P.cellsOf e -> ∃ v,cells[off+i*P.cellsOf e+j]? = some v/\w.cell? ((⟨b,off,none⟩:Addr).add (i*P.cellsOf e+j))=some v:=by
             intro i j hi hj;obtain⟨v,hv,_⟩:=u i j hi hj;refine⟨v,?_,hv⟩;rw[h5] at hv
             simpa [World.cell?,hb,UI] using hv
            refine⟨b,off,cells,ty,fz,rfl,hb,?_,λ i j hi hj=>?_⟩
            .obtain ⟨v,hv,_⟩:=hc (len - 1) (P.cellsOf e - 1) zy zy
             have:=(Q0.1 hv).1
             have e5:bs.length*P.cellsOf e=(len - 1)*P.cellsOf e+P.cellsOf e:=by
              rw[h9];obtain⟨q,rfl⟩:∃ q,len=q+1:=⟨len - 1,zy⟩
              simp[QM]
             have e6:TF w b=cells.size:=by simp[TF,hb]
             omega
            .obtain ⟨v,hv,ht⟩:=hc i j zy hj
             rw[hv,ht];rfl
          | _=>rw[h5] at h0;simp[World.cell?,hb] at h0
       .obtain ⟨v,hv,ho,_⟩:=u i j zy hj
        rw[hv];exact ho
       .obtain ⟨v,hv,_,hr⟩:=u i j zy hj
        rw[hv];exact hr
     case struct fs =>
      simp only[beq_iff_eq] at h;obtain⟨ys,k,_,rfl,he,hm,h6⟩:=DataW.trod_struct hu hx
      have key:∀ (fl:List Field) (o e:Nat) (zs:List (DataW H × List MemPlace)),Gj P (GR P n) o fl=some e->zs.length=fl.length ->
        (∀ (i:Nat) f,fl[i]? = some f->DataW.trod enc P w 0 sp aG k f.type ((cs.drop f.offset).take (P.cellsOf f.type))=zs[i]?) ->
        ∃ l,((fl.zip (zs.map (·.1))).mapM λ (x:Field × DataW H)=>D9 P n x.1.type x.2)=some l/\Dn w l.flatten ((cs.drop o).take (e - o))/\o<=e:=by
       intro fl
       induction fl with
       | nil =>
         intro o e zs h1 h2 _;simp only[Gj,Qx] at h1;subst h1;exact⟨[],rfl,by simp[Dn],Qg _⟩
       | cons f fl ih =>
         intro o e zs h1 h2 h3
         cases zs with
         | nil=>simp at h2
         | cons z zs =>
           simp only[Gj] at h1;split at h1
           case isFalse=>cases h1
           rename_i hc;obtain⟨rfl,hp⟩:=hc;have hz:=h3 0 f rfl;simp only[List.getElem?_cons_zero] at hz;obtain⟨row,r1,r2⟩:=Kf n f.type hp _ _ _ hz;obtain⟨l,l1,l2,l3⟩:=ih _ e zs h1 (by simpa using h2) λ i g hg=>by simpa using h3 (i+1) g (by simpa using hg)
           refine⟨row::l,by simp[List.mapM_cons,r1,l1],?_,zy⟩
           have e1:(cs.drop f.offset).take (e - f.offset)=(cs.drop f.offset).take (P.cellsOf f.type)++(cs.drop (f.offset+P.cellsOf f.type)).take (e - (f.offset+P.cellsOf f.type)):=by
            rw[show e - f.offset=P.cellsOf f.type+(e - (f.offset+P.cellsOf f.type)) by omega,List.take_add,List.drop_drop]
           rw[e1,List.flatten_cons];exact r2.append l2
      obtain⟨l,l1,l2,_⟩:=key fs.toList 0 _ ys h (by simpa using hm) (λ i f hf=>h6 i f (by simpa using hf))
      refine⟨l.flatten,by simp[D9,hu,l1,hm],?_⟩
      rw[List.drop_zero,Nat.sub_zero,<- he,QP] at l2;exact l2
     case array q e =>
      simp only[QW,Qb] at h;rw[DataW.trod_step] at hx;unfold DataW.trodStep at hx;simp only[hu] at hx;split at hx
      case isFalse=>cases hx
      rename_i he;simp only[Qz] at hx;obtain⟨zs,hw,rfl⟩:=hx
      have key:∀ (m' k:Nat) (zs:List (DataW H × List MemPlace)),((List.range' k m').mapM λ i=>DataW.trod enc P w 0 sp aG m e ((cs.drop (i*P.cellsOf e)).take (P.cellsOf e)))=some zs ->
        ∃ l,(zs.map (·.1)).mapM (D9 P n e)=some l/\Dn w l.flatten ((cs.drop (k*P.cellsOf e)).take (m'*P.cellsOf e))/\zs.length=m':=by
       intro m'
       induction m' with
       | zero =>
         intro k zs h1;simp at h1;subst h1;exact⟨[],rfl,by simp[Dn],rfl⟩
       | succ m' ih =>
         intro k zs h1;rw[List.range'_succ,List.mapM_cons] at h1
         cases hz:DataW.trod enc P w 0 sp aG m e ((cs.drop (k*P.cellsOf e)).take (P.cellsOf e)) with
         | none=>rw[hz] at h1;simp at h1
         | some z =>
           rw[hz] at h1
           cases hr:((List.range' (k+1) m').mapM λ i=>DataW.trod enc P w 0 sp aG m e ((cs.drop (i*P.cellsOf e)).take (P.cellsOf e))) with
           | none=>rw[hr] at h1;simp at h1
           | some zs' =>
             rw[hr] at h1;simp at h1;subst h1;obtain⟨row,r1,r2⟩:=Kf n e h.1 _ _ _ hz;obtain⟨l,l1,l2,l3⟩:=ih (k+1) zs' hr;refine⟨row::l,by simp[List.mapM_cons,r1,l1],?_,by simp[l3]⟩
             have e1:(cs.drop (k*P.cellsOf e)).take ((m'+1)*P.cellsOf e)=(cs.drop (k*P.cellsOf e)).take (P.cellsOf e)++(cs.drop ((k+1)*P.cellsOf e)).take (m'*P.cellsOf e):=by
              rw[show (m'+1)*P.cellsOf e=P.cellsOf e+m'*P.cellsOf e by rw[QM,Nat.one_mul,Nat.add_comm],List.take_add,List.drop_drop,show k*P.cellsOf e+P.cellsOf e=(k+1)*P.cellsOf e by rw[QM,Nat.one_mul]]
             rw[e1,List.flatten_cons];exact r2.append l2
      obtain⟨l,l1,l2,l3⟩:=key q 0 zs (by rw[<- List.range_eq_range'];exact hw)
      refine⟨l.flatten,by simp[D9,hu,l1,l3],?_⟩
      rw[Nat.zero_mul,List.drop_zero,h.2,<- he,QP] at l2;exact l2
     all_goals
      rw[DataW.trod_step] at hx;unfold DataW.trodStep at hx;simp only[hu] at hx
     case bool =>
      rcases cs with _ | ⟨c,_ | ⟨c2,cs⟩⟩<;>(try (simp at hx;done))
      cases c<;>simp at hx
      subst hx;exact⟨_,by simp[D9,hu],.one rfl (.sc _ _ rfl)⟩
     case int k =>
      rcases cs with _ | ⟨c,_ | ⟨c2,cs⟩⟩<;>(try (simp at hx;done))
      cases c<;>simp at hx
      obtain⟨⟨rfl,a0⟩,rfl⟩:=hx;exact⟨_,by simp[D9,hu,a0],.one rfl (.sc _ _ rfl)⟩
     case string =>
      rcases cs with _ | ⟨c,_ | ⟨c2,cs⟩⟩<;>(try (simp at hx;done))
      cases c<;>simp at hx
      obtain⟨_,rfl⟩:=hx;rename_i s _;exact⟨[.sc (.string s)],by simp[D9,hu],.one rfl (.sc _ _ rfl)⟩
end
end Go.Proofs.YtklclphfcibagaaGreat
namespace Go.Proofs.YtklclphfcibagaaGreat
open Go Go.ChangeShapes Go.WideShapes Go.ChangeAt Go.RowKit
variable {base n:Nat} {r:Go.Reach}
section
variable {H:Type} {P:Program}
def FZ (P:Program) (n:Nat) (t:TypeId) (d:DataW H):Option AV :=
 match P.underlying t with
 | some (.struct _)=>(D9 P n t d).map .agg
 | some (.array _ _)=>(D9 P n t d).map .agg
 | _=>(D9 P n t d).bind fun | [x]=>some x | _=>none
variable {enc:TypeId × Value->H} {W:World} {sp:Nat->Bool} {aG:Bool}
theorem dJ {t:TypeId} (hp:GR P n t=true) {v:Value} {d:DataW H} {p:List MemPlace} (q:Value.okWide P W r base t v) (h:DataW.Trod enc P W 0 sp aG t v d p) :
  ∃ x,FZ P n t d=some x/\Ar (TF W) W (λ _=>none) x v:=by
 obtain⟨m,hm⟩:=h;obtain⟨xs,h1,h2⟩:=Kf n t hp m _ _ hm;simp only at h1
 cases n with
 | zero=>cases hp
 | succ n =>
   simp only[GR] at hp
   cases hu:P.underlying t with
   | none=>rw[hu] at hp;cases hp
   | some td =>
     rw[hu] at hp
     have one:(∀ cs,v ≠ .agg cs)->(∀ fs,td ≠ .struct fs)->(∀ m e,td ≠ .array m e) -> ∃ x,FZ P (n+1) t d=some x/\Ar (TF W) W (λ _=>none) x v:=by
      intro hv ht u
      have hc:v.cells = #[v]:=by
       cases v<;>first | rfl | exact absurd rfl (hv _)
      rw[hc] at h2;obtain⟨hl,h3⟩:=h2
      match xs,hl with
      | [x],_ =>
        refine⟨x,?_,?_⟩
        .simp only[FZ,hu]
         cases td<;>first | exact absurd rfl (ht _) | exact absurd rfl (u _ _) | simp[h1]
        .simpa using (h3 0 zz).2
     cases td<;>simp only at hp<;>(try (cases hp;done))
     case struct fs =>
      simp only[Value.okWide,hu] at q;obtain⟨cs,rfl,_,_⟩:=q;refine⟨.agg xs,by simp[FZ,hu,h1],?_⟩
      simp only[Value.cells] at h2;refine .agg _ _ _ (by simpa using h2.1.symm) (λ i hi=>?_) λ i hi=>?_
      .have:=(h2.2 i hi).1
       simpa [List.getD,QC] using this
      .have:=(h2.2 i hi).2
       simpa [List.getD,QC] using this
     case array m e =>
      simp only[Value.okWide,hu] at q;obtain⟨cs,rfl,_,_⟩:=q;refine⟨.agg xs,by simp[FZ,hu,h1],?_⟩
      simp only[Value.cells] at h2;refine .agg _ _ _ (by simpa using h2.1.symm) (λ i hi=>?_) λ i hi=>?_
      .have:=(h2.2 i hi).1
       simpa [List.getD,QC] using this
      .have:=(h2.2 i hi).2
       simpa [List.getD,QC] using this
     all_goals
      refine one (λ cs hc=>?_) (λ fs hf=>by cases hf) (λ m e hf=>by cases hf)
      subst hc;simp[Value.okWide,hu,Cell.okWide,Cell.ok] at q
def H8 (P:Program) (n:Nat):List TypeId->List (DataW H)->Option (List AV)
 | [],[]=>some []
 | t::ts,d::ds=>match FZ P n t d,H8 P n ts ds with
   | some x,some xs=>some (x::xs)
   | _,_=>none
 | _,_=>none
theorem Tv {n:Nat} {r:Go.Reach} {base:Nat}:∀ {ts:List TypeId} {vs:List Value} {ds:List (DataW H)} {p:List MemPlace},(∀ t∈ts,GR P n t=true)->(∀ (j:Nat) t v,ts[j]? = some t->vs[j]? = some v->Value.okWide P W r base t v) ->
  DataW.TrodAll enc P W 0 sp aG ts vs ds p -> ∃ xs,H8 P n ts ds=some xs/\xs.length=vs.length /\ ∀ i,i<xs.length->Ar (TF W) W (λ _=>none) (xs.getD i .dead) (vs.getD i undef)
 | [],[],[],_,_,_,_=>⟨[],rfl,rfl,λ i hi=>absurd hi zz⟩
 | t::ts,v::vs,d::ds,_,hp,hv,⟨p,q,h1,h2,_⟩=>by
   obtain⟨x,x1,x2⟩:=dJ (hp t Qp) (hv 0 t v rfl rfl) h1;obtain⟨xs,y1,y2,y3⟩:=Tv (λ t ht=>hp t (Qo _ ht)) (λ j t v h3 h4=>hv (j+1) t v (by simpa using h3) (by simpa using h4)) h2
   refine⟨x::xs,by simp[H8,x1,y1],by simp[y2],λ i hi=>?_⟩
   cases i with
   | zero=>simpa using x2
   | succ i=>simpa using y3 i (by simpa using hi)
theorem Se (hl:laidOutB P=true) {W':World} (hb:Below W.heap.size W W'):∀ {ts:List TypeId} {vs:List Value} {ds:List (DataW H)} {p:List MemPlace},(∀ t∈ts,P.readableRec t=true/\t<P.types.size)->(∀ x∈p,x.block<W.heap.size) ->
  DataW.TrodAll enc P W 0 (λ _=>true) true ts vs ds p->DataW.TrodAll enc P W' 0 (λ b=>decide (b<W.heap.size)) true ts vs ds p
 | [],[],[],_,_,_,h=>h
 | t::ts,v::vs,d::ds,_,hp,u,⟨p,q,h1,h2,e⟩ =>
   ⟨p,q,Below.trod hl (hp t Qp).1 (hp t Qp).2 h1 hb (λ x hx=>u x (by rw[e];exact Q2 _ hx)),
    Se hl hb (λ t ht=>hp t (Qo _ ht)) (λ x hx=>u x (by rw[e];exact UE _ hx)) h2,e⟩
def sT (P:Program) (n:Nat) (ts:List TypeId):Bool:=ts.all λ t=>P.readableRec t && decide (t<P.types.size) && GR P n t
theorem TB {f:Func} {fi:FuncId} {s:ChangeSpec} {tb:TypeId} (hl:laidOutB P=true) {ts:List TypeId} (h4:f.params.toList=ts) (h8:sT P n ts=true) (h5:f.resultTypes = #[tb]) (h9:P.underlying tb=some .bool) (u:s.vars=[]) {args:Array Value} {ds gs:List (DataW H)} {before:List MemPlace} (h6:∀ (j:Nat) t v,f.params[j]? = some t->args[j]? = some v->Value.okWide P W r base t v) (hW:DataW.Whole enc P f.params.toList s.vars false W args.toList ds gs before) (ha:(s.fn H (ds++[])).results=[.lit (.bool true)]) (hb:(s.fn H (ds++[])).args=ds) (hd:(s.fn H (ds++[])).vars=[]) (hc:∀ xs,H8 P n ts ds=some xs->Cq P fi xs [] (.B true) []) :
  Calls P fi args W λ e W'=>∃ v,e = .returned v/\s.post enc P f false true false false W args v W':=by
 have h3:∀ t∈ts,(P.readableRec t=true/\t<P.types.size)/\GR P n t=true:=by
  intro t ht;have:=UL.1 h8 t ht
  simpa only[QW,Qb] using this
 have hr:∀ t∈f.params.toList,P.readableRec t=true/\t<P.types.size:=λ t ht=>(h3 t (h4 ▸ ht)).1;have hp:∀ t∈f.params.toList,GR P n t=true:=λ t ht=>(h3 t (h4 ▸ ht)).2;subst h4;have h7:=hW;obtain⟨p,q,hA,hV,rfl,hh,hj⟩:=hW;rw[u] at hV;obtain⟨rfl,rfl⟩:=trodVars_none hV;have hf:∀ x∈p,x.block<W.heap.size:=λ x hx=>by simpa using h7.lt x (by simpa using hx)
 obtain⟨xs,x1,x2,x3⟩:=Tv hp (λ j t v h1 h2=>h6 j t v (by simpa using h1) (by simpa using h2)) hA
 have hR:Fm (TF W) W (λ _=>none) xs args:=⟨by simpa using x2.symm,λ i hi=>by simpa [List.getD,QC] using x3 i hi⟩
 refine((hc xs x1).2.2 (TF W) (λ _=>none) W args (XH W) ⟨λ id e he=>by simp[DR] at he,λ id id' e e' g g' b h1=>by simp[DR] at h1⟩ (λ _ _=>rfl) hR).mono ?_
 rintro e W' ⟨v,T',M',rfl,hv,_,h0⟩
 have hg:v = .bool true:=by cases hv;rfl
 subst hg;have hB:Below W.heap.size W W':=⟨h0.os,h0.tape,h0.output,h0.size,λ k hk=>h0.keep k hk (by rintro⟨_,_,h,_⟩;exact absurd h (U6 _))⟩
 refine⟨_,rfl,ds,[],p++[],[],p,[],h7,?_,?_,?_,hB.frame _,λ h=>by cases h⟩
 .rw [h5,ha]
  exact trodAll_mk1 (shut_bool h9 _)
 .rw [hb]
  exact Se hl hB hr hf hA
 .rw [u,hd]
  rfl
end
abbrev oo (d:Nat) (op:FY) (xs:List D8):Ca:=⟨some d,op,xs,none⟩
abbrev og (d:Nat) (op:FY) (xs:List D8) (g:Nat):Ca:=⟨some d,op,xs,some (g,true)⟩
abbrev oh (d:Nat) (op:FY) (xs:List D8) (g:Nat):Ca:=⟨some d,op,xs,some (g,false)⟩
abbrev ou (op:FY) (xs:List D8):Ca:=⟨none,op,xs,none⟩
abbrev vi (n:Int):Value:=.int .i64 n
abbrev v0:Value:=.int .i64 0
abbrev ve:Value:=.string ⟨#[]⟩
abbrev vn:Value:=.slice none 0 0
abbrev ki (n:Int):D8:=.c (.int .i64 n)
abbrev kn:D8:=.c (.slice none 0 0)
abbrev ma (d s:Nat):Ca:=⟨some d,.mv,[.t s],none⟩
abbrev mg (d s g:Nat):Ca:=⟨some d,.mv,[.t s],some (g,true)⟩
abbrev mh (d s g:Nat):Ca:=⟨some d,.mv,[.t s],some (g,false)⟩
abbrev fa (d k s:Nat):Ca:=⟨some d,.fad k,[.t s],none⟩
abbrev fg (d k s g:Nat):Ca:=⟨some d,.fad k,[.t s],some (g,true)⟩
abbrev fh (d k s g:Nat):Ca:=⟨some d,.fad k,[.t s],some (g,false)⟩
abbrev la (d s:Nat):Ca:=⟨some d,.ld false 1,[.t s],none⟩
abbrev lg (d s g:Nat):Ca:=⟨some d,.ld false 1,[.t s],some (g,true)⟩
abbrev lh (d s g:Nat):Ca:=⟨some d,.ld false 1,[.t s],some (g,false)⟩
abbrev ca (d:Nat) (f:FuncId) (xs:List D8):Ca:=⟨some d,.call,.f f::xs,none⟩
abbrev sr (l:List Ca) (c:C5):C5:=.seq (.reg false l []) c
abbrev rg (l:List Ca):C5:=.reg false l []
end Go.Proofs.YtklclphfcibagaaGreat
namespace Go.Proofs.YtklclphfcibagaaGreat
def Zu:DI:=⟨87,[(4,none)],
 (sr [oo 2 (.box 13) [.t 0],oo 3 (.box 13) [.t 1],oo 4 .mv [.c (.bool false)]]
 (sr [fa 5 0 2,la 6 5,fa 7 0 3,la 8 7,oo 9 (.bin .eql) [.t 6,.t 8],ma 10 9,fg 11 1 2 10,lg 12 11 10,fg 13 1 3 10,lg 14 13 10,og 15 (.bin .eql) [.t 12,.t 14] 10,oo 16 .pick [.t 10,.t 15,.c (.bool false)],ma 17 16,fg 18 2 2 17,lg 19 18 17,fg 20 2 3 17,lg 21 20 17,og 22 (.bin .eql) [.t 19,.t 21] 17,oo 23 .pick [.t 17,.t 22,.c (.bool false)],ma 24 23,fg 25 3 2 24,lg 26 25 24,fg 27 3 3 24,lg 28 27 24,og 29 (.bin .eql) [.t 26,.t 28] 24,oo 30 .pick [.t 24,.t 29,.c (.bool false)],ma 31 30,fg 32 4 2 31,lg 33 32 31,fg 34 4 3 31,lg 35 34 31,og 36 (.bin .eql) [.t 33,.t 35] 31,oo 37 .pick [.t 31,.t 36,.c (.bool false)],ma 38 37,fg 39 5 2 38,lg 40 39 38,fg 41 5 3 38,lg 42 41 38,og 43 (.bin .eql) [.t 40,.t 42] 38,oo 44 .pick [.t 38,.t 43,.c (.bool false)],ma 45 44,fg 46 6 2 45,lg 47 46 45,fg 48 6 3 45,lg 49 48 45,og 50 (.bin .eql) [.t 47,.t 49] 45,oo 51 .pick [.t 45,.t 50,.c (.bool false)],ma 52 51,fg 53 7 2 52,lg 54 53 52,fg 55 7 3 52,lg 56 55 52,og 57 (.bin .eql) [.t 54,.t 56] 52,oo 58 .pick [.t 52,.t 57,.c (.bool false)],ma 59 58,fg 60 8 2 59,lg 61 60 59,fg 62 8 3 59,lg 63 62 59,og 64 .call [.f 68,.t 61,.t 63] 59,oo 65 .pick [.t 59,.t 64,.c (.bool false)],ma 66 65,fg 67 9 2 66,lg 68 67 66,fg 69 9 3 66,lg 70 69 66,og 71 .call [.f 108,.t 68,.t 70] 66,oo 72 .pick [.t 66,.t 71,.c (.bool false)],ma 73 72,fg 74 10 2 73,lg 75 74 73,fg 76 10 3 73,lg 77 76 73,og 78 (.bin .eql) [.t 75,.t 77] 73,oo 79 .pick [.t 73,.t 78,.c (.bool false)],ma 80 79,fg 81 11 2 80,og 82 (.ld true 2) [.t 81] 80,fg 83 11 3 80,og 84 (.ld true 2) [.t 83] 80,og 85 (.aeq false [0,2]) [.t 82,.t 84] 80,oo 86 .pick [.t 80,.t 85,.c (.bool false)],ma 4 86]
 .ret))⟩
def Zg:DI:=⟨26,[(4,none)],
 (sr [oo 4 .mv [.c (.bool false)]]
 (.seq (.seq
 (rg [ma 6 0,oo 7 .len [.t 6],ma 8 1,oo 9 .len [.t 8],oo 10 (.bin .neq) [.t 7,.t 9]])
 (.cond (.t 10)
 (sr [oo 4 .mv [.c (.bool false)]]
 .ret)
 .skip))
 (.seq (.seq
 (rg [oo 5 .mv [ki 0]])
 (.block 0 (.loop
 (.seq (.seq
 (rg [ma 11 5,ma 12 0,oo 13 .len [.t 12],oo 14 (.bin .lss) [.t 11,.t 13]])
 (.cond (.t 14)
 .skip
 (.exit 0)))
 (.seq (.block 1 (.seq (.reg true [ma 17 0,ma 18 5,oo 19 (.iad 3) [.t 17,.t 18],oo 20 (.ld true 3) [.t 19],ma 21 1,ma 22 5,oo 23 (.iad 3) [.t 21,.t 22],oo 24 (.ld true 3) [.t 23],oo 25 (.aeq true [0,0,2]) [.t 20,.t 24]] [[],[],[0,1],[2],[],[],[4,5],[6],[3,7]])
 (.cond (.t 25)
 (sr [oo 4 .mv [.c (.bool false)]]
 .ret)
 .skip)))
 (rg [ma 15 5,oo 16 (.bin .add) [.t 15,ki 1],ma 5 16]))))))
 (sr [oo 4 .mv [.c (.bool true)]]
 .ret))))⟩
abbrev AK:=Cq Tryz.prog
theorem mixed:Tryz.prog.follows .mixedOrders=true:=by kernel_rfl
structure SC (f:FuncId) where
 c:DI
 s:Src Tryz.prog f c
def A9 {f:FuncId} (fn:Func) {c d:DI} (hc:Jg Tryz.prog fn=some d:=by conv=>lhs;reduce) (hd:d=c:=by simp only[Int.ofNat_eq_natCast,Int.cast_ofNat_Int,Int.reduceNegSucc];rfl) (hf:Tryz.prog.funcs[f]? = some fn:=by kernel_rfl) (hn:fn.name ≠ "runtime.NumGoroutine":=by decide):SC f:=⟨c,mixed,fn,hf,hd ▸ hc,hn⟩
theorem VL {f:FuncId} {af:DI} (fn:Func) (hf:Tryz.prog.funcs[f]? = some fn:=by kernel_rfl) (hc:Jg Tryz.prog fn=some af:=by kernel_rfl) (hn:fn.name ≠ "runtime.NumGoroutine":=by decide):Src Tryz.prog f af:=⟨mixed,fn,hf,hc,hn⟩
def Wq:SC 12:=A9 Tryz.f12
def YI:SC 19:=A9 Tryz.f19
def Yt:SC 24:=A9 Tryz.f24
def Wb:SC 26:=A9 Tryz.f26
def gB:SC 39:=A9 Tryz.f39
def Mf:SC 43:=A9 Tryz.f43
def Yj:SC 44:=A9 Tryz.f44
def kM:SC 47:=A9 Tryz.f47
def eQ:SC 49:=A9 Tryz.f49
def kG:SC 50:=A9 Tryz.f50
def bH:SC 53:=A9 Tryz.f53
theorem Nq:Src Tryz.prog 62 Zu:=VL Tryz.f62
def fO:SC 68:=A9 Tryz.f68
def eK:SC 71:=A9 Tryz.f71
def XY:SC 72:=A9 Tryz.f72
def ZA:SC 73:=A9 Tryz.f73
def cG:SC 74:=A9 Tryz.f74
def ZJ:SC 75:=A9 Tryz.f75
def Ry:SC 81:=A9 Tryz.f81
def dF:SC 82:=A9 Tryz.f82
def WO:SC 83:=A9 Tryz.f83
def jW:SC 84:=A9 Tryz.f84
def kY:SC 85:=A9 Tryz.f85
def Yg:SC 86:=A9 Tryz.f86
def bL:SC 93:=A9 Tryz.f93
def f6:SC 94:=A9 Tryz.f94
def Yf:SC 95:=A9 Tryz.f95
def W5:SC 96:=A9 Tryz.f96
def Xa:SC 101:=A9 Tryz.f101
def eB:SC 106:=A9 Tryz.f106
theorem Sl:Src Tryz.prog 108 Zg:=VL Tryz.f108
def Yq:SC 110:=A9 Tryz.f110
def Wc:SC 111:=A9 Tryz.f111
def jC:SC 112:=A9 Tryz.f112
def YD:SC 114:=A9 Tryz.f114
def Zy:SC 117:=A9 Tryz.f117
def kK:SC 118:=A9 Tryz.f118
def WI:SC 119:=A9 Tryz.f119
def YU:SC 120:=A9 Tryz.f120
def dM:SC 122:=A9 Tryz.f122
def iZ:SC 123:=A9 Tryz.f123
def Zo:SC 124:=A9 Tryz.f124
def Vm:SC 125:=A9 Tryz.f125
def Vh:SC 126:=A9 Tryz.f126
def XU:SC 127:=A9 Tryz.f127
def PQ:SC 136:=A9 Tryz.f136
def eW:SC 137:=A9 Tryz.f137
def YE:SC 138:=A9 Tryz.f138
def kZ:SC 139:=A9 Tryz.f139
def aY:SC 140:=A9 Tryz.f140
def Wz:SC 141:=A9 Tryz.f141
def Zk:SC 142:=A9 Tryz.f142
def RH:SC 149:=A9 Tryz.f149
def kU:SC 154:=A9 Tryz.f154
def gF:SC 164:=A9 Tryz.f164
def eD:SC 165:=A9 Tryz.f165
def Z5:SC 170:=A9 Tryz.f170
def WS:SC 172:=A9 Tryz.f172
def kD:SC 173:=A9 Tryz.f173
def d6:SC 174:=A9 Tryz.f174
def kX:SC 175:=A9 Tryz.f175
def fF:SC 176:=A9 Tryz.f176
def dE:SC 177:=A9 Tryz.f177
def fB:SC 178:=A9 Tryz.f178
def Vk:SC 195:=A9 Tryz.f195
def Pd:SC 196:=A9 Tryz.f196
def Xu:SC 197:=A9 Tryz.f197
def gK:SC 198:=A9 Tryz.f198
def bV:SC 199:=A9 Tryz.f199
def V4:SC 200:=A9 Tryz.f200
def WU:SC 201:=A9 Tryz.f201
def gS:SC 202:=A9 Tryz.f202
def gR:SC 203:=A9 Tryz.f203
def Wv:SC 204:=A9 Tryz.f204
def PY:SC 227:=A9 Tryz.f227
def XS:SC 228:=A9 Tryz.f228
def Zr:SC 229:=A9 Tryz.f229
def YL:SC 234:=A9 Tryz.f234
def Zw:SC 235:=A9 Tryz.f235
def jE:SC 236:=A9 Tryz.f236
def gW:SC 237:=A9 Tryz.f237
def k7:SC 238:=A9 Tryz.f238
def TJ:SC 239:=A9 Tryz.f239
def XX:SC 240:=A9 Tryz.f240
def Y3:SC 241:=A9 Tryz.f241
def Vt:SC 242:=A9 Tryz.f242
def jH:SC 243:=A9 Tryz.f243
def ZB:SC 244:=A9 Tryz.f244
def eF:SC 245:=A9 Tryz.f245
def Tr:SC 268:=A9 Tryz.f268
def Y6:SC 269:=A9 Tryz.f269
def gO:SC 270:=A9 Tryz.f270
def iI:SC 281:=A9 Tryz.f281
def iK:SC 282:=A9 Tryz.f282
def jR:SC 295:=A9 Tryz.f295
def Mh:SC 296:=A9 Tryz.f296
def eI:SC 297:=A9 Tryz.f297
def ZT:SC 315:=A9 Tryz.f315
def Zi:SC 325:=A9 Tryz.f325
def fR:SC 341:=A9 Tryz.f341
variable {st:St}
section
variable {P:Program} {np id:Nat} {h:Nat->Option AX} {K:AV->List Nat->List (Nat × Option AX)->Prop} {s i off len c k l m:Nat}
@[simp] theorem lJ:aK P np id (.slc s true false false) [.rk i off len c,.sc (.int .i64 (k:Int))] h K=(k<=len/\len<=c/\(∃ e,h i=some e/\e.s=s)/\K (.rk i (off+k) (len - k) (c - k)) [i] []):=by
 rw[GS];refine propext ⟨?_,?_⟩
 .rintro ⟨l,r,m,n,h1,h2,h4,h5,h6,h7,h3,u,q,h8,h9⟩
  obtain rfl:=h6 rfl;simp at h4 h1;subst h1;have:k=l:=zy
  subst this;obtain rfl:=q rfl;exact⟨h2,h3,h8,h9⟩
 .rintro ⟨h1,h2,h3,h4⟩
  exact⟨k,len,c,len,rfl,h1,zz,(λ h=>by cases h),λ _=>rfl,(λ h=>by cases h),h2,Qg _,λ _=>rfl,h3,h4⟩
@[simp] theorem pB:aK P np id (.slc s false true false) [.rk i off len c,.sc (.int .i64 (k:Int))] h K=(k<=c/\(∃ e,h i=some e/\e.s=s)/\K (.rk i off k c) [i] []):=by
 rw[GS];refine propext ⟨?_,?_⟩
 .rintro ⟨l,r,m,n,h1,h2,h4,h5,h6,h7,h3,u,q,h8,h9⟩
  obtain rfl:=h5 rfl;simp at h4 h1;have:k=r:=zy
  subst this;obtain rfl:=q rfl;exact⟨h3,h8,by simpa using h9⟩
 .rintro ⟨h1,h3,h4⟩
  exact⟨0,k,c,len,rfl,Qh _,zz,λ _=>rfl,(λ h=>by cases h),(λ h=>by cases h),h1,Qg _,λ _=>rfl,h3,by simpa using h4⟩
@[simp] theorem pD:aK P np id (.slc s true true false) [.rk i off len c,.sc (.int .i64 (l:Int)),.sc (.int .i64 (k:Int))] h K=(l<=k/\k<=c/\(∃ e,h i=some e/\e.s=s)/\K (.rk i (off+l) (k - l) (c - l)) [i] []):=by
 rw[GS];refine propext ⟨?_,?_⟩
 .rintro ⟨l',r,m,n,h1,h2,h4,h5,h6,h7,h3,u,q,h8,h9⟩
  simp at h4 h1;have:k=r:=zy
  subst this;have:l=l':=zy
  subst this;obtain rfl:=q rfl;exact⟨h2,h3,h8,h9⟩
 .rintro ⟨h1,h2,h3,h4⟩
  exact⟨l,k,c,len,rfl,h1,zz,(λ h=>by cases h),(λ h=>by cases h),(λ h=>by cases h),h2,Qg _,λ _=>rfl,h3,h4⟩
@[simp] theorem p0:aK P np id (.slc s true true true) [.rk i off len c,.sc (.int .i64 (l:Int)),.sc (.int .i64 (k:Int)),.sc (.int .i64 (m:Int))] h K=(l<=k/\k<=m/\m<=c/\(∃ e,h i=some e/\e.s=s)/\K (.rk i (off+l) (k - l) (m - l)) [i] []):=by
 rw[GS];refine propext ⟨?_,?_⟩
 .rintro ⟨l',r,m',n,h1,h2,h4,h5,h6,h7,h3,q,u,h8,h9⟩
  simp at h4 h1;have:k=r:=zy
  subst this;have:l=l':=zy
  subst this;have:m=m':=zy
  subst this;exact⟨h2,h3,q,h8,h9⟩
 .rintro ⟨h1,h2,h3,h4,h5⟩
  exact⟨l,k,m,len,rfl,h1,zz,(λ h=>by cases h),(λ h=>by cases h),(λ _=>rfl),h2,h3,(λ h=>by cases h),h4,h5⟩
@[simp] theorem qN:aK P np id (.slc s true false false) [.rs i off len,.sc (.int .i64 (k:Int))] h K=(k<=len/\(∃ e,h i=some e/\e.s=s)/\K (.rs i (off+k) (len - k)) [i] []):=by
 rw[GS];refine propext ⟨?_,?_⟩
 .rintro ⟨l,r,m,n,h1,h2,h4,h5,h6,h7,h3,q,h8,h9⟩
  obtain rfl:=h6 rfl;simp at h4 h1;subst h1;have:k=l:=zy
  subst this;exact⟨h2,h8,h9⟩
 .rintro ⟨h1,h3,h4⟩
  exact⟨k,len,0,len,rfl,h1,zz,(λ h=>by cases h),λ _=>rfl,(λ h=>by cases h),Qg _,rfl,h3,h4⟩
@[simp] theorem l9:aK P np id (.slc s false true false) [.rs i off len,.sc (.int .i64 (k:Int))] h K=(k<=len/\(∃ e,h i=some e/\e.s=s)/\K (.rs i off k) [i] []):=by
 rw[GS];refine propext ⟨?_,?_⟩
 .rintro ⟨l,r,m,n,h1,h2,h4,h5,h6,h7,h3,q,h8,h9⟩
  obtain rfl:=h5 rfl;simp at h4 h1;have:k=r:=zy
  subst this;exact⟨zy,h8,by simpa using h9⟩
 .rintro ⟨h1,h3,h4⟩
  exact⟨0,k,0,len,rfl,Qh _,zz,λ _=>rfl,(λ h=>by cases h),(λ h=>by cases h),h1,rfl,h3,by simpa using h4⟩
end
theorem Le.keep {np:Nat} {st':St} (q:st'.sz=st.sz) (hn:st.n<=st'.n) (ht:∀ p∈st'.t,st.get p.1=p.2) (hh:∀ p∈st'.h,∀ e,p.2=some e->st.hp p.1=some e):Le np st st':=by
 intro T0 M0 w0 T M a w ok u
 have hp:∀ id e,st'.hp id=some e->st.hp id=some e:=by
  intro id e he;unfold St.hp at he
  cases hl:Am st'.h id with
  | none=>rw[hl] at he;cases he
  | some v =>
    rw[hl] at he;exact hh _ (Ds hl) e he
 refine⟨T,M,⟨ok.sz.trans q.symm,ok.df,λ i=>?_,⟨λ id e he=>ok.hs.ent id e (hp id e he),λ id id' e e' g g' b h1 h2=>ok.hs.inj id id' e e' g g' b (hp _ _ h1) (hp _ _ h2)⟩,λ id g hg=>Nat.lt_of_lt_of_le (ok.dom id g hg) hn,ok.after⟩,QI u hn⟩;unfold St.get at *
 cases hl:Am st'.t i with
 | none=>exact .dead _ _
 | some v =>
   have:=ht _ (Ds hl);simp only at this;show Ar T w M v _;rw[<- this];exact ok.tm i
theorem BD {np:Nat} {st':St} (q:st'.sz=st.sz:=by rfl) (hn:st.n<=st'.n:=by exact Qg _) (ht:∀ p∈st'.t,st.get p.1=p.2:=by simp) (hh:∀ p∈st'.h,∀ e,p.2=some e->st.hp p.1=some e:=by simp):Le np st st':=Le.keep q hn ht hh
theorem AG.m1 {rs:List (Nat × Option (Bool × Nat))} {vs:List AV} {res:AV} {e:AX} (i:Nat) (hi:1<=i) (h1:F2 st rs=some vs) (hw:Wk (conv [(0,0),(i,1)] [] st.hp 4 (EE vs)) res) (h0:st.hp 0=none) (he:(st.hp i).map (Ak [(0,0),(i,1)] [] st.hp 4)=some e):AG rs 1 st res [none,some e] :=
 ⟨vs,h1,[i],[],by simp[List.range,List.range.loop];omega,by simpa using hi,zz,by simpa [List.range,List.range.loop] using hw,by simpa [List.range,List.range.loop,h0] using he⟩
end Go.Proofs.YtklclphfcibagaaGreat
