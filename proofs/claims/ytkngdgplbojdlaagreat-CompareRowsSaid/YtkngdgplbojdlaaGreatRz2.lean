/- Texts of this claim,merged. -/
import Derived.Test.YtkngdgplbojdlaaGreatRz1
import Derived.MapKept
import Derived.Laws.BytesArg
import Derived.Laws.Externs
import Derived.Scope
import Derived.ChangeArms
import Derived.Carry
import Derived.OpenShut
import Derived.WalkKit
import Derived.ProofKit
import Derived.Test.YtkngdgplbojdlaaGreatProg
import Derived.KernelRfl
set_option linter.unusedSimpArgs false
set_option linter.unusedVariables false
set_option linter.unusedSectionVars false
set_option maxRecDepth 100000
set_option maxHeartbeats 8000000
noncomputable section
namespace Go.Proofs.YtkngdgplbojdlaaGreat
open Go
theorem zaR {α : Type} : ∀ {l : List (Nat × α)} {i : Nat} {a : α},lkp l i=some a->(i,a)∈l
 | (j,b)::l,i,a,h=>by
   simp only [lkp] at h;split at h
   .rename_i e; subst e; cases h; exact Qm
   .exact Qk _ (zaR h)
theorem zgg {α : Type} : ∀ {l : List (Nat × α)} {i : Nat},lkp l i=none -> ∀ a,(i,a)∉l
 | [],_,_,_=>by simp
 | (j,b)::l,i,h,a=>by
   simp only [lkp] at h;split at h
   .cases h
   .rename_i e
    intro hm;rcases Qu.1 hm with h1 | h1
    .cases h1; exact e rfl
    .exact zgg h a h1
theorem zr2 {l : List Nat} {id k : Nat} (h : lkp l.zipIdx id=some k) : l[k]? = some id:=by
 have:=zaR h;rw [U6] at this;exact this
theorem zup {l : List Nat} {k id : Nat} (h : lkp (l.zipIdx.map λ (a,b)=>(b,a)) k=some id) : l[k]? = some id:=by
 have:=zaR h;simp only [Qg,Prod.mk.injEq] at this;obtain ⟨⟨a,b⟩,h1,rfl,rfl⟩:=this;rw [U6] at h1;exact h1
section
variable {P : Program} {np : Nat} {T0 : Nat->Nat} {M0 : GM} {w0 : World} {live : Nat->Prop} {st : St} {T : Nat->Nat} {M : GM} {a : Act} {w : World} {idb : Nat}
variable (tm : ∀ i,Rep T w M (st.get i) (a.tmps.getD i undef)) (m : Mem np T0 M0 w0 live st.hp T M w) (fresh : ∀ k,k<8->¬ live (idb+k)) (npid : np<=idb)
include tm m fresh npid
theorem zmg (o : Oper) (fid : FuncId) (xs : List AV) (vals : Array Value)
  (henter : (∃ fn c,P.funcs[fid]? = some fn/\fn.body=some c/\fn.name ≠ "runtime.NumGoroutine")->(execOp a.eval o).run P w = .ok (.enter fid vals) w) (hargs : RepL T w M xs vals)
  {K : AV->List Nat->List (Nat × Option Ent)->Prop} {ids sn : List Nat} {raise : Bool} {args' : List AV} {hs : List Ent} {res : AV} {hs' : List (Option Ent)}
  (hnod : ids.Nodup) (hsi : ∀ i∈sn,i∉ids) (hrn : raise=true -> ∀ i∈sn,np<=i) (hwk : WkL (xs.map (conv ids.zipIdx sn st.hp 4)) args') (hids : ids.map (λ i=>(st.hp i).map (zaw ids.zipIdx sn st.hp 4))=hs.map some)
  (hcall : zaU P fid args' hs res hs') (hlen8 : hs'.length<=hs.length+8) (hpl : raise=true∨(Plain res /\ ∀ e,some e∈hs'->zf0 e))
  (hk : K (conv ((ids++(List.range 8).map (idb + ·)).zipIdx.map λ (a,b)=>(b,a)) [] (λ _=>none) 4 res) (ids++sn)
        ((hs'.zipIdx.map λ (e,k)=>((ids++(List.range 8).map (idb + ·)).getD k 0,e.map (zaw ((ids++(List.range 8).map (idb + ·)).zipIdx.map λ (a,b)=>(b,a)) [] (λ _=>none) 4))) ++
         (if raise then sn.filterMap (λ i=>(st.hp i).map λ e=>(i,some { e with ro:=e.rows.length })) else []))) :
  ∃ v rd up,K v rd up/\Eff P np T0 M0 w0 live idb (st.upd up).hp T M w v ((execOp a.eval o).run P w):=by
 obtain ⟨hfc,hlen,hcall⟩:=hcall;have henter:=henter hfc
 have hidl : ids.length=hs.length:=by
  have:=congrArg List.length hids
  simpa using this
 have hent : ∀ (k i : Nat),ids[k]? = some i -> ∃ e,st.hp i=some e/\hs[k]? = some (zaw ids.zipIdx sn st.hp 4 e):=by
  intro k i hki;have h1:=congrArg (·[k]?) hids
  simp only [Qs,hki,Q7] at h1
  cases hq : hs[k]? with
  | none=>rw [hq] at h1; simp at h1
  | some e' =>
    rw [hq] at h1;simp only [Q7,Qq] at h1
    cases hp : st.hp i with
    | none=>rw [hp] at h1; simp at h1
    | some e =>
      rw [hp] at h1;simp only [Q7,Qq] at h1;exact ⟨e,rfl,by rw [h1]⟩
 obtain ⟨T1,hT1,htok1,hsnap,hsame⟩:=zli m.hs m.after.tok sn
 let Mc : GM:=λ k=>match ids[k]? with | some i=>M i | none=>none
 have hMc : ∀ (k i : Nat),ids[k]? = some i->Mc k=M i:=λ k i hki=>by show (match ids[k]? with | some i=>M i | none=>none)=_; rw [hki]
 have hMcn : ∀ k,hs.length<=k->Mc k=none:=λ k hk=>by
  show (match ids[k]? with | some i=>M i | none=>none)=none
  rw [Q3 (by omega)]
 have hcompat : ∀ id k,lkp ids.zipIdx id=some k->Mc k=M id:=λ id k hl=>hMc k id (zr2 hl);have hcv:=λ x v hr=>zfq (Mc:=Mc) (x:=x) (v:=v) m.hs sn hT1 hsnap 4 ids.zipIdx hcompat hr
 have nodupI : ∀ (k k' i : Nat),ids[k]? = some i->ids[k']? = some i->k=k':=by
  intro k k' i h1 h2;have hlt : k<ids.length:=(Qy.1 h1).1;exact (List.getElem?_inj hlt hnod).1 (h1.trans h2.symm)
 have hpassT : ∀ (k i : Nat) e g b,ids[k]? = some i->st.hp i=some e->M i=some g->g.blk=some b->T1 b=T b:=by
  intro k i e g b h1 h2 h3 h4;refine hsame b λ i' hi' e' g' h5 h6 h7=>?_;have:=m.hs.inj i i' e e' g g' b h2 h5 h3 h6 h4 h7;subst this;exact hsi i hi' (Uf h1)
 have hhs : HsOk T1 w Mc (hpOf hs):=by
  refine ⟨λ k e' hk'=>?_,λ k k' e1 e2 g g' b h1 h2 h3 h4 h5 h6=>?_⟩
  .have hlt : k<ids.length:=by rw [hidl]; exact (Qy.1 hk').1
   have hki : ids[k]? = some ids[k]:=Qa hlt;obtain ⟨e,he,heq⟩:=hent k _ hki;obtain rfl:=Qf (hk'.symm.trans heq);obtain ⟨g,hg,ent⟩:=m.hs.ent _ e he;refine ⟨g,(hMc k _ hki).trans hg,ent.s,by simpa [zaw] using ent.ro,λ hz r hr=>?_,λ hn=>by simp [zaw,ent.none hn],λ hz=>?_,λ hz b hbk=>?_⟩
   .simp only [zaw,Qg] at hr
    obtain ⟨r0,hr0,rfl⟩:=hr;rw [Qt];exact ent.wide hz r0 hr0
   .obtain ⟨b,es,clock,hbb,q1,q2,q3,q4⟩:=ent.mp hz
    exact ⟨b,es,clock,hbb,q1,by rw [hpassT k _ e g b hki he hg hbb]; exact q2,q3,q4.map (λ _=>rfl) λ row _ x _ v hr=>hcv x v hr⟩
   .obtain ⟨cells,ty,h1,h2,h3,h4⟩:=ent.blk hz b hbk
    refine ⟨cells,ty,h1,by rw [hpassT k _ e g b hki he hg hbk]; exact h2,by simpa [zaw] using h3,λ i j hi hj=>?_⟩
    simp only [zaw,Qt] at hi hj ⊢;obtain ⟨u,hu,ho,hru⟩:=h4 i j hi hj;refine ⟨u,hu,ho,?_⟩
    have e1 : (e.rows.map (·.map (conv ids.zipIdx sn st.hp 4))).getD i []=(e.rows.getD i []).map (conv ids.zipIdx sn st.hp 4):=by
     simp only [List.getD,Qs]
     cases e.rows[i]? <;> rfl
    rw [e1,zaM _ (zbl _ _ _ _)];exact hcv _ _ hru
  .have hlt : k<ids.length:=by rw [hidl]; exact (Qy.1 h1).1
   have hlt' : k'<ids.length:=by rw [hidl]; exact (Qy.1 h2).1
   have hki : ids[k]? = some ids[k]:=Qa hlt;have hki' : ids[k']? = some ids[k']:=Qa hlt';obtain ⟨ea,hea,_⟩:=hent k _ hki;obtain ⟨eb,heb,_⟩:=hent k' _ hki';have:=m.hs.inj _ _ ea eb g g' b hea heb ((hMc k _ hki).symm.trans h3) ((hMc k' _ hki').symm.trans h4) h5 h6;exact nodupI k k' _ hki (by rw [hki',this])
 have hrep : RepL T1 w Mc args' vals:=by
  have hl:=hwk.length;simp only [Qt] at hl;refine ⟨hargs.1.trans hl,λ i hi=>?_⟩;have h1:=hwk.get i (by rw [Qt,hl]; exact hi)
  rw [zaM _ (zbl _ _ _ _)] at h1;exact h1.rep (hcv _ _ (hargs.2 i (hl ▸ hi)))
 have hcalls:=hcall T1 Mc w _ htok1 hhs hMcn hrep;refine ⟨_,_,_,hk,?_⟩;rw [henter];refine ⟨rfl,hcalls.mono ?_⟩
 rintro e w' ⟨v,T',M',rfl,hres,hhs',haf⟩
 let T2 : Nat->Nat:=λ b=>if raise then T' b else if b<w.heap.size then T b else T' b
 let M2 : GM:=λ i=>if idb<=i/\i<idb+8 then M' (hs.length+(i - idb)) else M i
 have hMlive : ∀ i g,M i=some g->¬ (idb<=i/\i<idb+8):=λ i g hg hc=>fresh (i - idb) (by omega) (by rw [show idb+(i - idb)=i by omega]; exact m.dom i g hg)
 have hM2 : ∀ i g,M i=some g->M2 i=some g:=λ i g hg=>by
  show (if _ then _ else _)=_
  rw [if_neg (hMlive i g hg)]; exact hg
 have hT'old : ∀ b,b<w.heap.size->¬ Pas hs.length Mc b->T' b=T1 b:=haf.old;have hT'ge : ∀ b,T b<=T' b:=λ b=>QH (hT1 b) (haf.pres.le b)
 have hpas : ∀ i e g b,(∀ k : Nat,ids[k]? ≠ some i)->st.hp i=some e->M i=some g->g.blk=some b->¬ Pas hs.length Mc b:=by
  rintro i e g b h1 h2 h3 h4 ⟨k,gk,hk1,hk2,hk3⟩
  have hlt : k<ids.length:=by omega
  have hki : ids[k]? = some ids[k]:=Qa hlt;obtain ⟨ek,hek,_⟩:=hent k _ hki;rw [hMc k _ hki] at hk2;have:=m.hs.inj i _ e ek g gk b h2 hek h3 hk2 h4 hk3;exact h1 k (by rw [hki,this])
 have hTzero : ∀ b,w.heap.size<=b->T b=0:=λ b hb=>m.T_zero hb
 have hT2 : ∀ b,T b<=T2 b:=by
  intro b;show T b<=if raise then T' b else if b<w.heap.size then T b else T' b
  split
  .exact hT'ge b
  .split
   .exact Ql _
   .rw [hTzero b (by omega)]; exact Qi _
 have hT2' : ∀ b,T2 b<=T' b:=by
  intro b;show (if raise then T' b else if b<w.heap.size then T b else T' b)<=T' b
  split
  .exact Ql _
  .split
   .exact hT'ge b
   .exact Ql _
 have hTnew : ∀ b,w.heap.size<=b->T2 b=T' b:=by
  intro b hb;show (if raise then T' b else if b<w.heap.size then T b else T' b)=T' b
  rw [if_neg (show ¬ b<w.heap.size by omega)]
  simp
 have hpres : Pres T w T2 w':=by
  refine ⟨hT2,λ b cells ty fz hw1=>?_⟩;obtain ⟨c',f',h1,h2,h3⟩:=haf.pres.cell b cells ty fz hw1;exact ⟨c',f',h1,h2,λ o ho=>h3 o (U7 ho (hT1 b))⟩
 have htok2 : TOk T2 w':=by
  intro b hb
  by_cases hr : raise=true
  .have e : T2 b=T' b:=by show (if raise then T' b else _)=_; rw [hr]; rfl
   rw [e] at hb ⊢;exact haf.tok b hb
  .by_cases hbs : b<w.heap.size
   .have e : T2 b=T b:=by show (if raise then T' b else if b<w.heap.size then T b else T' b)=_; rw [if_neg hr,if_pos hbs]
    rw [e] at hb ⊢;obtain ⟨cells,ty,fz,h1,h2⟩:=m.after.tok b hb;obtain ⟨c',f',h3,h4,_⟩:=hpres.cell b cells ty fz h1;exact ⟨c',ty,f',h3,by omega⟩
   .rw [hTnew b (by omega)] at hb ⊢
    exact haf.tok b hb
 let nm : List Nat:=ids++(List.range 8).map (idb + ·)
 have hnm1 : ∀ (k i : Nat),ids[k]? = some i->nm[k]? = some i:=λ k i hki=>by
  show (ids++_)[k]? = _;rw [QJ (Qy.1 hki).1]; exact hki
 have hnm2 : ∀ (k i : Nat),nm[k]? = some i->ids[k]? = some i∨(hs.length<=k/\k<hs.length+8/\i=idb+(k - hs.length)):=by
  intro k i hki
  by_cases hlt : k<ids.length
  .have : nm[k]? = ids[k]?:=QJ hlt
   exact .inl (this.symm.trans hki)
  .have : nm[k]? = ((List.range 8).map (idb + ·))[k - ids.length]?:=Qr (by omega)
   rw [this] at hki;simp only [Qs,Qv] at hki;obtain ⟨q,hq,rfl⟩:=hki;obtain ⟨hq1,hq2⟩:=Qy.1 hq;simp only [UB] at hq1;simp only [List.getElem_range] at hq2;exact .inr ⟨by omega,by omega,by omega⟩
 have hMk : ∀ (k i : Nat),nm[k]? = some i->M2 i=M' k:=by
  intro k i hki;rcases hnm2 k i hki with h1 | ⟨h1,h2,rfl⟩
  .obtain ⟨e,he,_⟩:=hent k i h1
   obtain ⟨g,hg,_⟩:=m.hs.ent i e he;rw [hM2 i g hg,haf.same k (by rw [<- hidl]; exact (Qy.1 h1).1),hMc k i h1,hg]
  .show (if idb<=idb+(k - hs.length)/\idb+(k - hs.length)<idb+8 then M' (hs.length+(idb+(k - hs.length) - idb)) else M _)=_
   rw [if_pos (by omega)]
   congr 1
   omega
 have hback : ∀ k id,lkp (nm.zipIdx.map λ (a,b)=>(b,a)) k=some id->M2 id=M' k:=λ k id hl=>hMk k id (zup hl)
 have hcvb : ∀ x v,Rep T2 w' M' x v->Rep T2 w' M2 (conv (nm.zipIdx.map λ (a,b)=>(b,a)) [] (λ _=>none) 4 x) v:=by
  intro x v hr;refine zfq (M:=M') (hp:=λ _=>none) ⟨λ id e he=>(by cases he),λ i i' e e' g g' b h1=>(by cases h1)⟩ [] (λ _=>Ql _) (λ i hi=>by cases hi) 4 _ M2 x v hback hr
 have hlow : ∀ x v,Rep T' w' M' x v->(raise=true∨Plain x)->Rep T2 w' M' x v:=by
  intro x v hr hp;rcases hp with hp | hp
  .have e : T2=T':=by funext b; show (if raise then T' b else _)=_; rw [hp]; rfl
   rw [e]; exact hr
  .exact hr.plain hp T2
 have hcase : ∀ i e2,(st.upd ((hs'.zipIdx.map λ (e,k)=>((ids++(List.range 8).map (idb + ·)).getD k 0,e.map (zaw ((ids++(List.range 8).map (idb + ·)).zipIdx.map λ (a,b)=>(b,a)) [] (λ _=>none) 4))) ++
   (if raise then sn.filterMap (λ i=>(st.hp i).map λ e=>(i,some { e with ro:=e.rows.length })) else []))).hp i=some e2 ->
   (∃ (k : Nat) (e : Ent),hs'[k]? = some (some e)/\nm[k]? = some i/\e2=zaw (nm.zipIdx.map λ (a,b)=>(b,a)) [] (λ _=>none) 4 e) ∨
   (raise=true/\i∈sn/\(∀ k : Nat,ids[k]? ≠ some i) /\ ∃ e,st.hp i=some e/\e2={ e with ro:=e.rows.length }) ∨
   ((∀ k : Nat,ids[k]? ≠ some i)/\st.hp i=some e2/\(raise=true->i∉sn)):=by
  intro i e2 he2;rw [St.hp_upd] at he2
  cases hl1 : lkp (hs'.zipIdx.map λ (e,k)=>((ids++(List.range 8).map (idb + ·)).getD k 0,e.map (zaw ((ids++(List.range 8).map (idb + ·)).zipIdx.map λ (a,b)=>(b,a)) [] (λ _=>none) 4))) i with
  | some r =>
    rw [zdx,hl1] at he2;have he2 : r=some e2:=he2;subst he2;have hm:=zaR hl1;simp only [Qg,Prod.mk.injEq] at hm;obtain ⟨⟨e0,k⟩,h1,h2,h3⟩:=hm;rw [U6] at h1;simp only [Qv] at h3;obtain ⟨e,rfl,h3⟩:=h3;have hkl : k<hs'.length:=(Qy.1 h1).1;have hkn : k<nm.length:=by show k<(ids++_).length; simp; omega
    refine .inl ⟨k,e,h1,?_,h3.symm⟩;have : nm.getD k 0=i:=h2;rw [Qa hkn,<- this];simp [List.getD,hkn]
  | none =>
    rw [zdx,hl1,Option.none_or] at he2
    have hnk : ∀ k : Nat,ids[k]? ≠ some i:=by
     intro k hki;have hkl : k<hs'.length:=by have:=(Qy.1 hki).1; omega
     refine zgg hl1 (hs'[k].map (zaw (nm.zipIdx.map λ (a,b)=>(b,a)) [] (λ _=>none) 4)) (Qg.2 ⟨(hs'[k],k),by rw [U6]; exact Qa hkl,?_⟩)
     have h5:=hnm1 k i hki;have h6 : nm.getD k 0=i:=by simp [List.getD,h5]
     show (nm.getD k 0,_)=_;rw [h6]
    by_cases hr : raise=true
    .rw [if_pos hr] at he2
     cases hl2 : lkp (sn.filterMap λ i=>(st.hp i).map λ e=>(i,some { e with ro:=e.rows.length })) i with
     | some r =>
       rw [hl2] at he2;have he2 : r=some e2:=he2;subst he2;have hm:=zaR hl2;simp only [Vb,Qv,Prod.mk.injEq,Qq] at hm;obtain ⟨i',h1,e,h2,rfl,h3⟩:=hm;exact .inr (.inl ⟨hr,h1,hnk,e,h2,h3.symm⟩)
     | none =>
       rw [hl2] at he2;refine .inr (.inr ⟨hnk,he2,λ _ hin=>?_⟩);have he2' : st.hp i=some e2:=he2;exact zgg hl2 (some { e2 with ro:=e2.rows.length }) (Vb.2 ⟨i,hin,by rw [he2']; rfl⟩)
    .rw [if_neg hr] at he2
     exact .inr (.inr ⟨hnk,he2,λ h=>absurd h hr⟩)
 have hkeep : ∀ i e g b,(∀ k : Nat,ids[k]? ≠ some i)->st.hp i=some e->M i=some g->g.blk=some b->w'.heap[b]? = w.heap[b]?:=by
  intro i e g b h1 h2 h3 h4;exact haf.keep b (m.block_lt h2 h3 h4) (hpas i e g b h1 h2 h3 h4)
 have hout : ∀ (k : Nat) e,hs'[k]? = some (some e)->ziN hs' k=some e:=λ k e h=>by simp [ziN,h]
 have hentA : ∀ (k : Nat) e (i : Nat),hs'[k]? = some (some e)->nm[k]? = some i -> ∃ g,M' k=some g/\M2 i=some g/\zms T2 w' M2 (zaw (nm.zipIdx.map λ (a,b)=>(b,a)) [] (λ _=>none) 4 e) g:=by
  intro k e i h1 h2;obtain ⟨g,hg,ent⟩:=hhs'.ent k e (hout k e h1);refine ⟨g,hg,(hMk k i h2).trans hg,ent.s,by simpa [zaw] using ent.ro,λ hz r hr=>?_,λ hn=>by simp [zaw,ent.none hn],λ hz=>?_,λ hz b hbk=>?_⟩
  .simp only [zaw,Qg] at hr
   obtain ⟨r0,hr0,rfl⟩:=hr;rw [Qt];exact ent.wide hz r0 hr0
  .obtain ⟨b,es,clock,hbb,q1,q2,q3,q4⟩:=ent.mp hz
   refine ⟨b,es,clock,hbb,q1,Nat.le_zero.1 (q2 ▸ hT2' b),q3,q4.map (λ _=>rfl) λ row hrow x hx v hr=>hcvb _ _ (hlow _ _ hr ?_)⟩;rcases hpl with hpl | hpl
   .exact .inl hpl
   .exact .inr (hpl.2 e (Uf h1) row hrow x hx)
  .obtain ⟨cells,ty,h3,h4,h5,h6⟩:=ent.blk hz b hbk
   refine ⟨cells,ty,h3,QH (hT2' b) h4,by simpa [zaw] using h5,λ i' j hi hj=>?_⟩
   simp only [zaw,Qt] at hi hj ⊢;obtain ⟨u,hu,ho,hru⟩:=h6 i' j hi hj;refine ⟨u,hu,ho,?_⟩
   have e1 : (e.rows.map (·.map (conv (nm.zipIdx.map λ (a,b)=>(b,a)) [] (λ _=>none) 4))).getD i' []=(e.rows.getD i' []).map (conv (nm.zipIdx.map λ (a,b)=>(b,a)) [] (λ _=>none) 4):=by
    simp only [List.getD,Qs]
    cases e.rows[i']? <;> rfl
   rw [e1,zaM _ (zbl _ _ _ _)];refine hcvb _ _ (hlow _ _ hru ?_);rcases hpl with hpl | hpl
   .exact .inl hpl
   .right
    have hrow : e.rows.getD i' []=e.rows[i']:=by simp [List.getD,hi]
    have hwid:=ent.wide hz _ (Qj hi);have hjl : j<e.rows[i'].length:=by omega
    rw [hrow];have hcellm : e.rows[i'].getD j .dead=e.rows[i'][j]:=by simp [List.getD,hjl]
    rw [hcellm];exact hpl.2 e (Uf h1) _ (Qj hi) _ (Qj hjl)
 have hT2b : ∀ i e g b,(∀ k : Nat,ids[k]? ≠ some i)->st.hp i=some e->M i=some g->g.blk=some b->(raise=true->i∉sn)->T2 b=T b:=by
  intro i e g b h1 h2 h3 h4 h5;have hlt:=m.block_lt h2 h3 h4;show (if raise then T' b else if b<w.heap.size then T b else T' b)=T b
  by_cases hr : raise=true
  .rw [if_pos hr,hT'old b hlt (hpas i e g b h1 h2 h3 h4)]
   refine hsame b λ i' hi' e' g' h6 h7 h8=>?_;have:=m.hs.inj i i' e e' g g' b h2 h6 h3 h7 h4 h8;subst this;exact h5 hr hi'
  .rw [if_neg hr,if_pos hlt]
 have hcellsM : ∀ {e : Ent} {g : GE},zms T w M e g -> ∀ ro',e.ro<=ro'->ro'<=e.rows.length->(∀ b,g.blk=some b->w'.heap[b]? = w.heap[b]? /\ T2 b<=g.base+ro'*e.s)->zms T2 w' M2 { e with ro:=ro' } g:=by
  intro e g ent ro' hr1 hr2 hbk;refine ⟨ent.s,hr2,ent.wide,ent.none,λ hz=>?_,λ hz b hbb=>?_⟩
  .have hz' : e.s=0:=hz
   obtain ⟨b,es,clock,hbb,q1,q2,q3,q4⟩:=ent.mp hz';obtain ⟨p1,p2⟩:=hbk b hbb;rw [q3,hz'] at p2;exact ⟨b,es,clock,hbb,by rw [p1]; exact q1,by omega,q3,q4.mono hpres hM2⟩
  obtain ⟨cells,ty,h3,h4,h5,h6⟩:=ent.blk hz b hbb;obtain ⟨q1,q2⟩:=hbk b hbb;refine ⟨cells,ty,by rw [q1]; exact h3,q2,h5,λ i' j hi hj=>?_⟩
  obtain ⟨u,hu,ho,hru⟩:=h6 i' j hi hj;exact ⟨u,hu,ho,hru.mono hpres hM2⟩
 refine ⟨v,T2,M2,rfl,⟨⟨λ i e2 he2=>?_,λ i i' e1 e2 g g' b h1 h2 h3 h4 h5 h6=>?_⟩,λ i g hg=>?_,?_⟩,hpres,hM2,hcvb _ _ (hlow _ _ hres (hpl.imp id λ h=>h.1))⟩
 .rcases hcase i e2 he2 with ⟨k,e,h1,h2,rfl⟩ | ⟨hr,hin,hnk,e,he,rfl⟩ | ⟨hnk,he,hns⟩
  .obtain ⟨g,_,h3,h4⟩:=hentA k e i h1 h2
   exact ⟨g,h3,h4⟩
  .obtain ⟨g,hg,ent⟩:=m.hs.ent i e he
   refine ⟨g,hM2 i g hg,hcellsM ent _ ent.ro (Ql _) λ b hbb=>⟨hkeep i e g b hnk he hg hbb,?_⟩⟩;have hlt:=m.block_lt he hg hbb;have e5 : T2 b=T' b:=by show (if raise then T' b else _)=_; rw [hr]; rfl
   rw [e5,hT'old b hlt (hpas i e g b hnk he hg hbb),hsnap i hin e g b he hg hbb];exact Ql _
  .obtain ⟨g,hg,ent⟩:=m.hs.ent i e2 he
   refine ⟨g,hM2 i g hg,hcellsM ent e2.ro (Ql _) ent.ro λ b hbb=>⟨hkeep i e2 g b hnk he hg hbb,?_⟩⟩;rw [hT2b i e2 g b hnk he hg hbb hns]
   by_cases hz : e2.s=0
   .obtain ⟨b',es,clock,hbb',q1,q2,q3,q4⟩:=ent.mp hz
    obtain rfl:=Qf (hbb'.symm.trans hbb);omega
   obtain ⟨cells,ty,_,h4,_⟩:=ent.blk hz b hbb;exact h4
 .
  have hold : ∀ i e2 g b,((raise=true/\i∈sn/\(∀ k : Nat,ids[k]? ≠ some i) /\ ∃ e,st.hp i=some e/\e2={ e with ro:=e.rows.length })∨((∀ k : Nat,ids[k]? ≠ some i)/\st.hp i=some e2/\(raise=true->i∉sn)))->M2 i=some g->g.blk=some b ->
    (∀ k : Nat,ids[k]? ≠ some i) /\ ∃ e,st.hp i=some e/\M i=some g/\b<w.heap.size:=by
   intro i e2 g b hq hg hbb
   have : (∀ k : Nat,ids[k]? ≠ some i) /\ ∃ e,st.hp i=some e:=by
    rcases hq with ⟨_,_,h1,e,h2,_⟩ | ⟨h1,h2,_⟩
    .exact ⟨h1,e,h2⟩
    .exact ⟨h1,e2,h2⟩
   obtain ⟨h1,e,h2⟩:=this;obtain ⟨g1,hg1,_⟩:=m.hs.ent i e h2;have:=hM2 i g1 hg1;rw [hg] at this;obtain rfl:=Qf this;exact ⟨h1,e,h2,hg1,m.block_lt h2 hg1 hbb⟩
  have cross : ∀ (i i' k : Nat) e g g' e2' b,hs'[k]? = some (some e)->nm[k]? = some i->M2 i=some g->g.blk=some b ->
    ((raise=true/\i'∈sn/\(∀ k : Nat,ids[k]? ≠ some i') /\ ∃ e,st.hp i'=some e/\e2'={ e with ro:=e.rows.length })∨((∀ k : Nat,ids[k]? ≠ some i')/\st.hp i'=some e2'/\(raise=true->i'∉sn)))->M2 i'=some g'->g'.blk=some b->False:=by
   intro i i' k e g g' e2' b hk1 hk2 hg hbb hq hg' hbb';obtain ⟨q1,e',q2,q3,q4⟩:=hold i' e2' g' b hq hg' hbb';rcases hnm2 k i hk2 with hki | ⟨r1,r2,r3⟩
   .obtain ⟨ek,hek,_⟩:=hent k i hki
    obtain ⟨gk,hgk,_⟩:=m.hs.ent i ek hek;have:=hM2 i gk hgk;rw [hg] at this;obtain rfl:=Qf this;have:=m.hs.inj i i' ek e' g g' b hek q2 hgk q3 hbb hbb';subst this;exact q1 k hki
   .have hgk : M' k=some g:=(hMk k i hk2).symm.trans hg
    rcases haf.new k g b r1 hgk hbb with h | h
    .exact hpas i' e' g' b q1 q2 q3 hbb' h
    .omega
  rcases hcase i e1 h1 with ⟨k,e,p1,p2,rfl⟩ | hq1
  .rcases hcase i' e2 h2 with ⟨k',e',p1',p2',rfl⟩ | hq2
   .have q1 : M' k=some g:=(hMk k i p2).symm.trans h3
    have q2 : M' k'=some g':=(hMk k' i' p2').symm.trans h4;have:=hhs'.inj k k' e e' g g' b (hout k e p1) (hout k' e' p1') q1 q2 h5 h6;subst this;exact Qf (p2.symm.trans p2')
   .exact (cross i i' k e g g' _ b p1 p2 h3 h5 hq2 h4 h6).elim
  .rcases hcase i' e2 h2 with ⟨k',e',p1',p2',rfl⟩ | hq2
   .exact (cross i' i k' e' g' g _ b p1' p2' h4 h6 hq1 h3 h5).elim
   .obtain ⟨_,ea,q2,q3,_⟩:=hold i e1 g b hq1 h3 h5
    obtain ⟨_,eb,r2,r3,_⟩:=hold i' e2 g' b hq2 h4 h6;exact m.hs.inj i i' ea eb g g' b q2 r2 q3 r3 h5 h6
 .have hg' : (if idb<=i/\i<idb+8 then M' (hs.length+(i - idb)) else M i)=some g:=hg
  by_cases hc : idb<=i/\i<idb+8
  .exact .inr hc
  .rw [if_neg hc] at hg'
   exact .inl (m.dom i g hg')
 .have hpp : ∀ b,Pas hs.length Mc b->Pas np M0 b∨w0.heap.size<=b:=by
   rintro b ⟨k,g,hk1,hk2,hk3⟩
   have hlt : k<ids.length:=by omega
   have hki : ids[k]? = some ids[k]:=Qa hlt;rw [hMc k _ hki] at hk2;exact m.after.blk hk2 hk3
  refine m.after.step htok2 (λ b hb hnp=>?_) (λ k hk=>?_) haf.os haf.tape haf.output haf.size (λ b hb hn=>?_) hpres λ k g b hk hg hbb=>?_
  .have hlt : b<w.heap.size:=U7 hb m.after.size
   show (if raise then T' b else if b<w.heap.size then T b else T' b)=T b
   by_cases hr : raise=true
   .rw [if_pos hr,hT'old b hlt (λ h=>(hpp b h).elim hnp (by omega))]
    refine hsame b λ i hi e g h1 h2 h3=>?_;exact (m.after.blk h2 h3).elim hnp (by omega)
   .rw [if_neg hr,if_pos hlt]
  .show (if idb<=k/\k<idb+8 then _ else M k)=M k
   rw [if_neg (by omega)]
  .exact haf.keep b (U7 hb m.after.size) λ h=>(hpp b h).elim hn (by omega)
  .have hg' : (if idb<=k/\k<idb+8 then M' (hs.length+(k - idb)) else M k)=some g:=hg
   by_cases hc : idb<=k/\k<idb+8
   .rw [if_pos hc] at hg'
    rcases haf.new _ g b (by omega) hg' hbb with h | h
    .exact hpp b h
    .have:=m.after.size
     exact .inr (by omega)
   .rw [if_neg hc] at hg'
    exact m.after.new k g b hk hg' hbb
theorem zvR (o : Oper) (c : Call) (f : Operand) (h : o.op = .call c) (hb : c.callee = .value f) (hov : ovlC P f=none) : Goal P np T0 M0 w0 live st T M a w idb o:=by
 intro K hk;have hc : zaz P o=(.call,opd f::c.args.toList.map opd):=by simp [zaz,h,hb,hov]
 rw [hc] at hk;simp only [Qn,List.map_map] at hk;have hrf:=zaB tm f;generalize hX : (opd f).ev st.get=X at *;generalize hfv : a.eval f=fv at *
 cases X <;> (try (simp only [aK] at hk; done))
 rename_i fn first capt
 cases fn <;> (try (simp only [aK] at hk; done))
 rename_i fid;simp only [aK] at hk;obtain ⟨ids,sn,raise,args',hs,res,hs',hnod,hsi,hrn,hwk,hids,hcall,hlen8,hpl,hk⟩:=hk
 cases hrf with
 | fn _ _ _ _ us vs hux hvy hhx hhy =>
 have henter : (∃ fn c,P.funcs[fid]? = some fn/\fn.body=some c/\fn.name ≠ "runtime.NumGoroutine")->(execOp a.eval o).run P w = .ok (.enter fid (us++c.args.map a.eval++vs)) w:=by
  rintro ⟨fnc,cd,hfn,hbody,hname⟩
  simp [execOp,h,resolve,hb,hfv,Deferred.ofValue,invoke,callFunc,hfn,hbody,hname]
 have hargs : RepL T w M (first++c.args.toList.map ((λ x=>x.ev st.get)∘opd)++capt) (us++c.args.map a.eval++vs):=by
  refine ⟨by simp; omega,λ i hi=>?_⟩
  simp only [Qh,Qt,Ul] at hi;simp only [List.getD,QD]
  by_cases h1 : i<first.length
  .rw [Qx,QJ h1,Array.append_assoc,Q9 (by omega)]
   simpa [List.getD,QD] using hhx i h1
  .by_cases h2 : i<first.length+c.args.size
   .rw [Qx,Qr (by omega),QJ (by simp; omega),Array.append_assoc,Array.getElem?_append_right (by omega),Q9 (by simp; omega),hux]
    have hi' : i - first.length<c.args.size:=by omega
    have:=zaB tm c.args[i - first.length]
    simpa [hi'] using this
   .rw [Qr (by simp; omega),Array.getElem?_append_right (by simp; omega)]
    have:=hhy (i - (first.length+c.args.size)) (by omega)
    simp only [List.getD,QD] at this
    simpa [hux] using this
 exact zmg tm m fresh npid o fid _ _ henter hargs hnod hsi hrn hwk hids hcall hlen8 hpl hk
omit tm m fresh npid in
theorem zn3 {name : String} {t : TypeId} {f : FuncId} (h : lkp (zkZ P name) t=some f) : zic P name t=some (t,f):=by
 have h1:=zaR h;unfold zkZ at h1;rw [Vb] at h1;obtain ⟨u,_,h2⟩:=h1
 have : u=t:=by
  unfold zic at h2;split at h2
  .split at h2
   .split at h2
    .cases h2; rfl
    .cases h2
   .cases h2
  .cases h2
 subst this;exact h2
omit tm m fresh npid in
theorem zpV {name : String} {t : TypeId} {f : FuncId} (h : zic P name t=some (t,f)) (n : Nat) (v : Value) : (method (n+1) t v name).run P w = .ok (f,v) w:=by
 unfold zic at h;split at h
 case h_2=>cases h
 rename_i i fs hi hu;split at h
 case h_2=>cases h
 rename_i mt hm;split at h
 case h_2=>cases h
 rename_i hp hf
 cases h
 have hp' : mt.path.toList=[]:=by
  have : mt.path = #[]:=by simpa using hp
  rw [this]
 have hie : mt.path.isEmpty=true:=hp;unfold method;simp [typeInfo,hi,hm,hp',follow,hf,receiverAt,run_underlying hu,Place.get]
theorem zwD (o : Oper) (c : Call) (r : Operand) (name : String) (h : o.op = .call c) (hb : c.callee = .invoke r name) : Goal P np T0 M0 w0 live st T M a w idb o:=by
 intro K hk;have hc : zaz P o=(.inv (zkZ P name),opd r::c.args.toList.map opd):=by simp [zaz,h,hb]
 rw [hc] at hk;simp only [Qn,List.map_map] at hk;have hrf:=zaB tm r;generalize hX : (opd r).ev st.get=X at *;generalize hfv : a.eval r=fv at *
 cases X <;> (try (simp only [aK] at hk; done))
 rename_i t x;simp only [aK] at hk;obtain ⟨fid,ids,sn,raise,args',hs,res,hs',htbl,hnod,hsi,hrn,hwk,hids,hcall,hlen8,hpl,hk⟩:=hk;have hrow:=zn3 htbl
 cases hrf with
 | ifc _ _ _ v hv =>
 have henter : (∃ fn c,P.funcs[fid]? = some fn/\fn.body=some c/\fn.name ≠ "runtime.NumGoroutine")->(execOp a.eval o).run P w = .ok (.enter fid (#[v]++c.args.map a.eval)) w:=by
  rintro ⟨fnc,cd,hfn,hbody,hname⟩
  have hmt:=λ n=>zpV (w:=w) hrow n v
  have hd : ∃ n,P.types.size+Made.depth=n+1:=by
   have : Made.depth=1+(Made.depth - 1):=by decide
   exact ⟨P.types.size+(Made.depth - 1),by omega⟩
  obtain ⟨n,hn⟩:=hd
  have e0 : ((#[Value.iface t v]++Array.map a.eval c.args)[0]? : Option Value)=some (.iface t v):=by
   rw [Q9 (by simp)]; rfl
  have ex : (#[Value.iface t v]++Array.map a.eval c.args).extract 1 (#[Value.iface t v]++Array.map a.eval c.args).size=Array.map a.eval c.args:=by
   apply Array.ext';simp;exact Qb (by simp)
  simp only [execOp,h,resolve,hb,hfv,pure_bind,invoke,e0,ex,callMethod];simp [run_program,hn,hmt,callFunc,hfn,hbody,hname]
 have hargs : RepL T w M (x::c.args.toList.map ((λ x=>x.ev st.get)∘opd)) (#[v]++c.args.map a.eval):=by
  refine ⟨by simp; omega,λ i hi=>?_⟩
  cases i with
  | zero =>
    simp only [List.getD,QD];rw [Q9 (by simp)]
    simpa using hv
  | succ i =>
    simp only [QM,Qt,Ul] at hi;have hi' : i<c.args.size:=by omega
    have:=zaB tm c.args[i];simp only [List.getD,QD];rw [Array.getElem?_append_right (by simp)]
    simpa [hi'] using this
 exact zmg tm m fresh npid o fid _ _ henter hargs hnod hsi hrn hwk hids hcall hlen8 hpl hk
end
end Go.Proofs.YtkngdgplbojdlaaGreat
namespace Go.Proofs.YtkngdgplbojdlaaGreat
open Go Go.MapKept
section
variable {T : Nat->Nat} {w : World} {M : GM}
theorem zco.length : ∀ {rows : List (List AV)} {es : List MapEntry},zco T w M rows es->rows.length=es.length
 | [],[],_=>rfl
 | _::_,_::_,h=>by simp [zco.length h.2]
 | [],_::_,h=>False.elim h
 | _::_,[],h=>False.elim h
theorem zco.keys : ∀ {rows : List (List AV)} {es : List MapEntry},zco T w M rows es -> ∀ e∈es,IsKey (.int .i64) e.key
 | [],[],_,_,h=>nomatch h
 | _::_,e::es,h,x,hx=>by
   rcases Qu.1 hx with rfl | hx
   .obtain ⟨n,_,_,h2,_⟩:=h.1
    rw [h2];rfl
   .exact zco.keys h.2 x hx
 | [],_::_,h,_,_=>False.elim h
 | _::_,[],h,_,_=>False.elim h
theorem zco.find (n : Int) : ∀ {rows : List (List AV)} {es : List MapEntry} (i : Nat),zco T w M rows es ->
  (∃ j e x,Instr.findNow (.int .i64) (.int .i64 n) es i=some (some (i+j,e.val))/\es[j]? = some e/\e.key = .int .i64 n/\zb3 n rows=some x/\Rep T w M x e.val /\
   (∀ y v',Rep T w M y v'->zco T w M (mset n y rows) (es.modify j λ e=>{ e with key:=.int .i64 n,val:=v' }))/\zco T w M (mdel n rows) (es.eraseIdx j)) ∨
  (Instr.findNow (.int .i64) (.int .i64 n) es i=some none/\zb3 n rows=none/\(∀ y v' c,Rep T w M y v'->zco T w M (mset n y rows) (es++[{ key:=.int .i64 n,val:=v',born:=c }]))/\zco T w M (mdel n rows) es)
 | [],[],i,_=>.inr ⟨rfl,rfl,λ y v' c hr=>⟨⟨n,y,rfl,rfl,hr⟩,trivial⟩,trivial⟩
 | row::rows,e::es,i,h=>by
   obtain ⟨⟨k,x,h1,h2,h3⟩,h4⟩:=h;subst h1
   by_cases hnk : n=k
   .subst hnk
    refine .inl ⟨0,e,x,by simp [Instr.findNow,h2,Instr.sameNow],rfl,h2,by simp [zb3],h3,λ y v' hr=>?_,?_⟩
    .simp only [mset,UY,List.modify_zero_cons]
     exact ⟨⟨n,y,rfl,rfl,hr⟩,h4⟩
    .simp only [mdel,UY,List.eraseIdx_cons_zero]
     exact h4
   .have hf : Instr.findNow (.int .i64) (.int .i64 n) (e::es) i=Instr.findNow (.int .i64) (.int .i64 n) es (i+1):=by
     have : (n == k)=false:=by simpa using hnk
     simp [Instr.findNow,h2,Instr.sameNow,this]
    have hm : zb3 n ([.sc (.int .i64 k),x]::rows)=zb3 n rows:=by simp [zb3,hnk]
    have hs : ∀ y,mset n y ([.sc (.int .i64 k),x]::rows)=[.sc (.int .i64 k),x]::mset n y rows:=λ y=>by simp [mset,hnk]
    have hd : mdel n ([.sc (.int .i64 k),x]::rows)=[.sc (.int .i64 k),x]::mdel n rows:=by simp [mdel,hnk]
    rcases zco.find n (i+1) h4 with ⟨j,e',x',q1,q2,q3,q4,q5,q6,q7⟩ | ⟨q1,q2,q3,q4⟩
    .refine .inl ⟨j+1,e',x',by rw [hf,q1]; congr 3; omega,q2,q3,by rw [hm,q4],q5,λ y v' hr=>?_,?_⟩
     .rw [hs]
      exact ⟨⟨k,x,rfl,h2,h3⟩,q6 y v' hr⟩
     .rw [hd]
      exact ⟨⟨k,x,rfl,h2,h3⟩,q7⟩
    .refine .inr ⟨by rw [hf,q1],by rw [hm,q2],λ y v' c hr=>?_,?_⟩
     .rw [hs]
      exact ⟨⟨k,x,rfl,h2,h3⟩,q3 y v' c hr⟩
     .rw [hd]
      exact ⟨⟨k,x,rfl,h2,h3⟩,q4⟩
 | [],_::_,_,h=>False.elim h
 | _::_,[],_,h=>False.elim h
theorem zco.set_len {rows : List (List AV)} {es : List MapEntry} (n : Int) (y : AV) : zco T w M rows es->rows.length<=(mset n y rows).length:=by
 intro h
 induction rows generalizing es with
 | nil=>simp
 | cons row rows ih =>
   cases es with
   | nil=>exact False.elim h
   | cons e es =>
     obtain ⟨⟨k,x,h1,_,_⟩,h4⟩:=h;subst h1
     by_cases hnk : n=k
     .simp [mset,hnk]
     .simp only [mset,if_neg hnk,QM]
      exact Nat.succ_le_succ (ih h4)
end
section
variable {np : Nat} {T0 : Nat->Nat} {M0 : GM} {w0 : World} {live : Nat->Prop} {hp : Nat->Option Ent} {T : Nat->Nat} {M : GM} {w : World}
theorem Mem.newMap (h : Mem np T0 M0 w0 live hp T M w) {id : Nat} (hid : ¬ live id) (hnp : np<=id) {w1 : World} (hh : w1.heap=w.heap.push (.map #[] 0)) (os : w1.os=w.os) (tape : w1.tape=w.tape)
  (output : w1.output=w.output) {hp' : Nat->Option Ent} (hp1 : hp' id=some { s:=0,rows:=[] }) (hp2 : ∀ i e',i≠id->hp' i=some e'->hp i=some e') :
  ∃ M' : GM,M' id=some ⟨some w.heap.size,0,0⟩/\(∀ i g,M i=some g->M' i=some g)/\Mem np T0 M0 w0 (λ i=>live i∨i=id) hp' T M' w1/\Pres T w T w1:=by
 have old : ∀ b o,w.heap[b]? = some o->w1.heap[b]? = some o:=λ b o hb=>by
  have : b<w.heap.size:=(QN.1 hb).1;rw [hh,U1,if_neg (by omega)]; exact hb
 have p : Pres T w T w1:=⟨λ _=>Ql _,λ b cells ty fz hb=>⟨cells,fz,old _ _ hb,rfl,λ _ _=>rfl⟩⟩
 have hMid : M id=none:=by
  cases hm : M id with
  | none=>rfl
  | some g=>exact absurd (h.dom id g hm) hid
 have mm : ∀ i g,M i=some g->(λ i=>if i=id then some (GE.mk (some w.heap.size) 0 0) else M i) i=some g:=by
  intro i g hg;have : i≠id:=by rintro rfl; rw [hMid] at hg; cases hg
  simp only [this,Us]; exact hg
 refine ⟨λ i=>if i=id then some ⟨some w.heap.size,0,0⟩ else M i,by simp,mm,⟨⟨λ i e' he=>?_,λ i i' e1 e2 g g' b h1 h2 h3 h4 h5 h6=>?_⟩,λ i g hg=>?_,?_⟩,p⟩
 .by_cases hi : i=id
  .subst hi
   obtain rfl:=Qf (hp1.symm.trans he);exact ⟨⟨some w.heap.size,0,0⟩,if_pos rfl,rfl,Ql _,(λ h=>absurd rfl h),(λ e=>by simp at e),(λ _=>⟨w.heap.size,#[],0,rfl,by rw [hh]; simp,h.T_zero (Ql _),rfl,trivial⟩),λ h=>absurd rfl h⟩
  .have he':=hp2 i e' hi he
   obtain ⟨g,h1,h2⟩:=h.hs.ent i e' he';refine ⟨g,by simp only [hi,Us]; exact h1,h2.mono p mm λ b hb=>⟨?_,rfl⟩⟩
   have:=h.block_lt he' h1 hb;rw [hh,U1,if_neg (by omega)]
 .by_cases hi : i=id <;> by_cases hi' : i'=id
  .rw [hi,hi']
  .rw [if_pos hi] at h3; rw [if_neg hi'] at h4
   obtain rfl:=Qf h3;have:=h.block_lt (hp2 i' e2 hi' h2) h4 h6;simp at h5;omega
  .rw [if_neg hi] at h3; rw [if_pos hi'] at h4
   obtain rfl:=Qf h4;have:=h.block_lt (hp2 i e1 hi h1) h3 h5;simp at h6;omega
  .rw [if_neg hi] at h3; rw [if_neg hi'] at h4
   exact h.hs.inj i i' e1 e2 g g' b (hp2 i e1 hi h1) (hp2 i' e2 hi' h2) h3 h4 h5 h6
 .by_cases hi : i=id
  .exact .inr hi
  .rw [if_neg hi] at hg; exact .inl (h.dom i g hg)
 .refine h.after.step (λ b hb=>?_) (λ _ _ _=>rfl) (λ k hk=>?_) os tape output (by rw [hh]; simp) (λ b hb _=>?_) p λ k g b hk hg hb=>?_
  .obtain ⟨c,ty',fz,h1,h2⟩:=h.after.tok b hb
   exact ⟨c,ty',fz,old _ _ h1,h2⟩
  .have : k≠id:=by omega
   simp only [this,Us]
  .have:=h.after.size
   rw [hh,U1,if_neg (by omega)]
  .by_cases hi : k=id
   .rw [if_pos hi] at hg
    obtain rfl:=Qf hg;obtain rfl:=Qf hb;exact .inr h.after.size
   .rw [if_neg hi] at hg
    exact h.after.new k g b hk hg hb
theorem Mem.writeMap (h : Mem np T0 M0 w0 live hp T M w) {id : Nat} {e0 e : Ent} {g : GE} {b : Nat} {es es' : Array MapEntry} {clock clock' : Nat} (he0 : hp id=some e0) (hg : M id=some g) (hb : g.blk=some b)
  (hz0 : e0.s=0) (hw : w.heap[b]? = some (.map es clock)) (hz : e.s=0) (ro : e.ro<=e.rows.length) (hm : zco T w M e.rows es'.toList)
  {hp' : Nat->Option Ent} (hp1 : hp' id=some e) (hp2 : ∀ i e',i≠id->hp' i=some e'->hp i=some e') :
  Mem np T0 M0 w0 live hp' T M { w with heap:=w.heap.setIfInBounds b (.map es' clock') }/\Pres T w T { w with heap:=w.heap.setIfInBounds b (.map es' clock') }:=by
 have hset:=heap_set (o':=.map es' clock') hw
 have p : Pres T w T { w with heap:=w.heap.setIfInBounds b (.map es' clock') }:=by
  refine ⟨λ _=>Ql _,λ k c t f hk=>⟨c,f,?_,rfl,λ _ _=>rfl⟩⟩;have hkb : k≠b:=by rintro rfl; rw [hw] at hk; cases hk
  show (w.heap.setIfInBounds b _)[k]? = _;rw [hset.2 k hkb]; exact hk
 obtain ⟨g1,hg1,ent0⟩:=h.hs.ent id e0 he0;obtain rfl:=Qf (hg.symm.trans hg1);obtain ⟨b',es0,clock0,hbb,q1,q2,q3,q4⟩:=ent0.mp hz0;obtain rfl:=Qf (hb.symm.trans hbb)
 have hblk : ∀ i e' g1 b1,i≠id->hp i=some e'->M i=some g1->g1.blk=some b1->b1≠b:=by
  rintro i e' g1 b1 hi h1 h2 h3 rfl
  exact hi (h.hs.inj i id e' e0 g1 g b1 h1 he0 h2 hg h3 hb)
 refine ⟨⟨⟨λ i e' he=>?_,λ i i' e1 e2 g1 g2 b1 h1 h2 h3 h4 h5 h6=>?_⟩,h.dom,?_⟩,p⟩
 .by_cases hi : i=id
  .subst hi
   obtain rfl : e=e':=Qf (hp1.symm.trans he);exact ⟨g,hg,ent0.s.trans (hz0.trans hz.symm),ro,(λ h=>absurd hz h),(λ hn=>by rw [hb] at hn; cases hn),(λ _=>⟨b,es',clock',hb,hset.1,q2,q3,hm.mono p λ _ _ h=>h⟩),λ h=>absurd hz h⟩
  .have he':=hp2 i e' hi he
   obtain ⟨g1,h1,h2⟩:=h.hs.ent i e' he';exact ⟨g1,h1,h2.mono p (λ _ _ h=>h) λ b1 hb1=>⟨hset.2 b1 (hblk i e' g1 b1 hi he' h1 hb1),rfl⟩⟩
 .have back : ∀ i e1,hp' i=some e1 -> ∃ e2,hp i=some e2:=λ i e1 he1=>by
   by_cases hi : i=id
   .exact ⟨e0,by rw [hi]; exact he0⟩
   .exact ⟨e1,hp2 i e1 hi he1⟩
  obtain ⟨f1,hf1⟩:=back i e1 h1;obtain ⟨f2,hf2⟩:=back i' e2 h2;exact h.hs.inj i i' f1 f2 g1 g2 b1 hf1 hf2 h3 h4 h5 h6
 .refine h.after.step (λ k hk=>?_) (λ _ _ _=>rfl) (λ k hk=>rfl) rfl rfl rfl (by simp) (λ k hk hn=>?_) p λ k g1 b1 hk hg1 hb1=>h.after.new k g1 b1 hk hg1 hb1
  .obtain ⟨c,t,f,h1,h2⟩:=h.after.tok k hk
   obtain ⟨c',f',e1,e2,_⟩:=p.cell k c t f h1;exact ⟨c',t,f',e1,by omega⟩
  .refine hset.2 k ?_
   rintro rfl
   rcases h.after.blk hg hb with h1 | h1
   .exact hn h1
   .omega
end
end Go.Proofs.YtkngdgplbojdlaaGreat
namespace Go.Proofs.YtkngdgplbojdlaaGreat
open Go Go.MapKept
theorem zfk {P : Program} {t : TypeId} {z : Value} (h : zfH P t=some z) : ∃ k v i,P.underlying t=some (.map k v)/\P.underlying k=some (.int .i64)/\P.info? v=some i/\i.zero=some z:=by
 unfold zfH at h;split at h
 case h_2=>cases h
 rename_i k v hu;split at h
 case h_2=>cases h
 rename_i i hk hi;exact ⟨k,v,i,hu,hk,hi,h⟩
section
variable {P : Program} {np : Nat} {T0 : Nat->Nat} {M0 : GM} {w0 : World} {live : Nat->Prop} {st : St} {T : Nat->Nat} {M : GM} {a : Act} {w : World} {idb : Nat}
variable (tm : ∀ i,Rep T w M (st.get i) (a.tmps.getD i undef)) (m : Mem np T0 M0 w0 live st.hp T M w) (fresh : ∀ k,k<8->¬ live (idb+k)) (npid : np<=idb)
include m
theorem zsn {i : Nat} {e : Ent} {v : Value} (hr : Rep T w M (.mp i) v) (he : st.hp i=some e) (hz : e.s=0) :
  ∃ b es clock g,v = .map (some b)/\M i=some g/\g.blk=some b/\w.heap[b]? = some (.map es clock)/\zco T w M e.rows es.toList:=by
 cases hr with
 | mp _ _ g b hg hgz hb =>
   obtain ⟨g',hg',ent⟩:=m.hs.ent i e he;obtain rfl:=Qf (hg.symm.trans hg');obtain ⟨b',es,clock,hbb,q1,q2,q3,q4⟩:=ent.mp hz;obtain rfl:=Qf (hb.symm.trans hbb);exact ⟨_,es,clock,g,rfl,hg,hb,q1,q4⟩
include fresh npid in
theorem zw4 (o : Oper) (t : TypeId) (h : o.op = .makeMap t none) : Goal P np T0 M0 w0 live st T M a w idb o:=by
 intro K hk;simp only [zaz,h] at hk;split at hk
 case h_2=>exact False.elim hk
 simp only [List.map,aK] at hk;refine ⟨_,_,_,hk,?_⟩
 have hrun : (execOp a.eval o).run P w = .ok (.value (.map (some w.heap.size))) (w.alloc (.map #[] 0)):=by
  have : (Instr.makeMap t none).run P w = .ok (.map (some w.heap.size)) (w.alloc (.map #[] 0)):=rfl;simp [execOp,h,this]
 rw [hrun]
 obtain ⟨M',h1,h2,h3,h4⟩:=m.newMap (fresh 0 (by omega)) npid (w1:=w.alloc (.map #[] 0)) rfl rfl rfl rfl (hp':=(st.upd [(idb,some { s:=0,rows:=[] })]).hp) (by rw [St.hp_upd,Ua]; simp [lkp]) (λ i e' hi he=>by
  rw [St.hp_upd] at he;rw [Ua] at hi
  simpa [lkp,Ne.symm hi] using he)
 exact ⟨T,M',h3.wider (λ i hi=>hi.elim .inl λ hi=>.inr (by omega)),h4,h2,.mp _ _ _ _ (by simpa using h1) rfl rfl⟩
include tm
theorem zw8 (o : Oper) (t : TypeId) (x y : Operand) (ok : Bool) (h : o.op = .lookup t x y ok) : Goal P np T0 M0 w0 live st T M a w idb o:=by
 intro K hk;simp only [zaz,h] at hk;split at hk
 case h_2=>exact False.elim hk
 rename_i z hz;obtain ⟨kt,vt,inf,hu,hku,hi,hzz⟩:=zfk hz;simp only [List.map] at hk;have hr:=zaB tm x;have hr':=zaB tm y;generalize hv : a.eval x=v at *;generalize (opd x).ev st.get=X at *;generalize hv' : a.eval y=v' at *;generalize (opd y).ev st.get=Y at *
 cases X <;> (try (simp only [aK] at hk; done))
 cases Y <;> (try (simp only [aK] at hk; done))
 rename_i i q
 cases q <;> (try (simp only [aK] at hk; done))
 rename_i kd n
 cases kd <;> (try (simp only [aK] at hk; done))
 simp only [aK] at hk;obtain ⟨e,he,hez,hk⟩:=hk;obtain rfl:=zaY hr' rfl;obtain ⟨b,es,clock,g,rfl,hg,hb,hw,hm⟩:=zsn m hr he hez;have hkey : IsKey (.int .i64) (.int .i64 n):=rfl;rcases hm.find n 0 with ⟨j,en,xv,q1,q2,q3,q4,q5,-,-⟩ | ⟨q1,q2,-,-⟩
 .refine ⟨_,_,_,hk,?_⟩
  rw [q4]
  have hrun : (Instr.lookup t (.map (some b)) (.int .i64 n) ok).run P w = .ok (if ok then .tuple #[en.val,.bool true] else en.val) w:=by
   simp [Instr.lookup,run_underlying hu,Go.MapKept.run_getObj_map hw,run_checkKey hku hkey,run_findKey hku q1,Result.andThen]
  have hex : (execOp a.eval o).run P w = .ok (.value (if ok then .tuple #[en.val,.bool true] else en.val)) w:=by simp [execOp,h,hv,hv',hrun]
  cases ok with
  | false=>exact zay m (by simpa using q5) hex
  | true =>
    refine zay m (v':=.tuple #[en.val,.bool true]) ?_ hex;refine .tup _ _ _ rfl λ i hi=>?_
    match i,hi with
    | 0,_=>exact q5
    | 1,_=>exact .sc _ _ rfl
 .refine ⟨_,_,_,hk,?_⟩
  rw [q2]
  have hrun : (Instr.lookup t (.map (some b)) (.int .i64 n) ok).run P w = .ok (if ok then .tuple #[z,.bool false] else z) w:=by
   simp [Instr.lookup,run_underlying hu,Go.MapKept.run_getObj_map hw,run_checkKey hku hkey,run_findKey hku q1,Result.andThen,zeroValue,typeInfo,hi,hzz]
  have hex : (execOp a.eval o).run P w = .ok (.value (if ok then .tuple #[z,.bool false] else z)) w:=by simp [execOp,h,hv,hv',hrun]
  cases ok with
  | false=>exact zay m (by simpa using zlv z) hex
  | true =>
    refine zay m (v':=.tuple #[z,.bool false]) ?_ hex;refine .tup _ _ _ rfl λ i hi=>?_
    match i,hi with
    | 0,_=>exact zlv z
    | 1,_=>exact .sc _ _ rfl
theorem zu4 (o : Oper) (t : TypeId) (x y u : Operand) (h : o.op = .mapUpdate t x y u∨o.op = .insert t x y u) : Goal P np T0 M0 w0 live st T M a w idb o:=by
 intro K hk;have hc : zaz P o=(match zfH P t with | some _=>(.mup,[opd x,opd y,opd u]) | none=>(.bad,[])):=by rcases h with h | h <;> (unfold zaz; rw [h]; rfl)
 rw [hc] at hk
 cases hz : zfH P t with
 | none=>rw [hz] at hk; exact False.elim hk
 | some z =>
 rw [hz] at hk;obtain ⟨kt,vt,inf,hu,hku,hi,hzz⟩:=zfk hz;simp only [List.map] at hk;have hr:=zaB tm x;have hr':=zaB tm y;have hr2:=zaB tm u;generalize hv : a.eval x=v at *;generalize (opd x).ev st.get=X at *;generalize hv' : a.eval y=v' at *;generalize (opd y).ev st.get=Y at *;generalize hv2 : a.eval u=v2 at *;generalize (opd u).ev st.get=U at *
 cases X <;> (try (simp only [aK] at hk; done))
 cases Y <;> (try (simp only [aK] at hk; done))
 rename_i i q
 cases q <;> (try (simp only [aK] at hk; done))
 rename_i kd n
 cases kd <;> (try (simp only [aK] at hk; done))
 simp only [aK] at hk;obtain ⟨e,he,hez,hk⟩:=hk;obtain rfl:=zaY hr' rfl;obtain ⟨b,es,clock,g,rfl,hg,hb,hw,hm⟩:=zsn m hr he hez;have hkey : IsKey (.int .i64) (.int .i64 n):=rfl;obtain ⟨g',hg',ent⟩:=m.hs.ent i e he;have hlen:=hm.set_len n U;have hro : e.ro<=(mset n U e.rows).length:=QH ent.ro hlen;have hp1 : (st.upd [(i,some { e with rows:=mset n U e.rows })]).hp i=some { e with rows:=mset n U e.rows }:=by rw [St.hp_upd]; simp [lkp]
 have hp2 : ∀ i' e',i'≠i->(st.upd [(i,some { e with rows:=mset n U e.rows })]).hp i'=some e'->st.hp i'=some e':=λ i' e' hne he'=>by
  rw [St.hp_upd] at he'
  simpa [lkp,Ne.symm hne] using he'
 refine ⟨_,_,_,hk,?_⟩;rcases hm.find n 0 with ⟨j,en,xv,q1,q2,q3,q4,q5,q6,-⟩ | ⟨q1,q2,q6,-⟩
 .have hj : es[j]? = some en:=by simpa using q2
  have hrun : (Instr.mapUpdate t (.map (some b)) (.int .i64 n) v2).run P w = .ok () { w with heap:=w.heap.setIfInBounds b (.map (es.modify j λ e=>{ e with key:=.int .i64 n,val:=v2 }) clock) }:=by
   rw [show (0+j)=j from Q0 j] at q1
   simp [Instr.mapUpdate,run_underlying hu,Go.MapKept.run_getObj_map hw,run_checkKey hku hkey,run_findKey hku q1,hj,q3,run_keyThatStays hkey,Go.MapKept.run_setObj_map _ hw,Result.andThen]
  have hex : (execOp a.eval o).run P w = .ok .skip { w with heap:=w.heap.setIfInBounds b (.map (es.modify j λ e=>{ e with key:=.int .i64 n,val:=v2 }) clock) }:=by
   rcases h with h | h <;> simp [execOp,h,hv,hv',hv2,hrun]
  rw [hex];obtain ⟨m1,m2⟩:=m.writeMap he hg hb hez hw (e:={ e with rows:=mset n U e.rows }) hez hro (es':=es.modify j λ e=>{ e with key:=.int .i64 n,val:=v2 }) (clock':=clock) (by simpa using q6 U v2 hr2) hp1 hp2
  exact ⟨T,M,m1.wider λ _ h=>.inl h,m2,λ _ _ h=>h,rfl⟩
 .have hrun : (Instr.mapUpdate t (.map (some b)) (.int .i64 n) v2).run P w = .ok () { w with heap:=w.heap.setIfInBounds b (.map (es.push { key:=.int .i64 n,val:=v2,born:=clock }) (clock+1)) }:=by
   simp [Instr.mapUpdate,run_underlying hu,Go.MapKept.run_getObj_map hw,run_checkKey hku hkey,run_findKey hku q1,Go.MapKept.run_setObj_map _ hw,Result.andThen]
  have hex : (execOp a.eval o).run P w = .ok .skip { w with heap:=w.heap.setIfInBounds b (.map (es.push { key:=.int .i64 n,val:=v2,born:=clock }) (clock+1)) }:=by
   rcases h with h | h <;> simp [execOp,h,hv,hv',hv2,hrun]
  rw [hex];obtain ⟨m1,m2⟩:=m.writeMap he hg hb hez hw (e:={ e with rows:=mset n U e.rows }) hez hro (es':=es.push { key:=.int .i64 n,val:=v2,born:=clock }) (clock':=clock+1) (by simpa using q6 U v2 clock hr2) hp1 hp2
  exact ⟨T,M,m1.wider λ _ h=>.inl h,m2,λ _ _ h=>h,rfl⟩
theorem zwW (o : Oper) (c : Call) (h : o.op = .call c) (hb0 : c.callee = .builtin .delete) : Goal P np T0 M0 w0 live st T M a w idb o:=by
 intro K hk;simp only [zaz,h,hb0] at hk;split at hk
 case h_2=>exact False.elim hk
 rename_i t ts x y ht hx;have hx' : c.args = #[x,y]:=by rw [<- QP (xs:=c.args),hx]
 have ht' : c.argTypes[0]? = some t:=by rw [<- Array.getElem?_toList,ht]; rfl
 split at hk
 case h_2=>exact False.elim hk
 rename_i z hz;obtain ⟨kt,vt,inf,hu,hku,hi,hzz⟩:=zfk hz;simp only [List.map] at hk;have hr:=zaB tm x;have hr':=zaB tm y;generalize hv : a.eval x=v at *;generalize (opd x).ev st.get=X at *;generalize hv' : a.eval y=v' at *;generalize (opd y).ev st.get=Y at *
 cases X <;> (try (simp only [aK] at hk; done))
 cases Y <;> (try (simp only [aK] at hk; done))
 rename_i i q
 cases q <;> (try (simp only [aK] at hk; done))
 rename_i kd n
 cases kd <;> (try (simp only [aK] at hk; done))
 simp only [aK] at hk;obtain ⟨e,he,hez,hk⟩:=hk;obtain rfl:=zaY hr' rfl;obtain ⟨b,es,clock,g,rfl,hg,hb,hw,hm⟩:=zsn m hr he hez;have hkey : IsKey (.int .i64) (.int .i64 n):=rfl;have hp1 : (st.upd [(i,some { e with rows:=mdel n e.rows,ro:=0 })]).hp i=some { e with rows:=mdel n e.rows,ro:=0 }:=by rw [St.hp_upd]; simp [lkp]
 have hp2 : ∀ i' e',i'≠i->(st.upd [(i,some { e with rows:=mdel n e.rows,ro:=0 })]).hp i'=some e'->st.hp i'=some e':=λ i' e' hne he'=>by
  rw [St.hp_upd] at he'
  simpa [lkp,Ne.symm hne] using he'
 refine ⟨_,_,_,hk,?_⟩;have htup : ∀ {w' : World},Rep T w' M (.tup []) (.tuple #[]):=.tup _ _ _ rfl λ i hi=>absurd hi (U4 _);rcases hm.find n 0 with ⟨j,en,xv,q1,q2,q3,q4,q5,-,q7⟩ | ⟨q1,q2,-,q7⟩
 .have hex : (execOp a.eval o).run P w = .ok (.value (.tuple #[])) { w with heap:=w.heap.setIfInBounds b (.map (es.eraseIdxIfInBounds j) clock) }:=by
   rw [show (0+j)=j from Q0 j] at q1
   simp [execOp,h,resolve,hb0,invoke,builtin,Builtin.delete_,ht',hx',hv,hv',run_underlying hu,Go.MapKept.run_getObj_map hw,run_checkKey hku hkey,run_findKey hku q1,Go.MapKept.run_setObj_map _ hw,Result.andThen]
  rw [hex];obtain ⟨m1,m2⟩:=m.writeMap he hg hb hez hw (e:={ e with rows:=mdel n e.rows,ro:=0 }) hez (Qi _) (es':=es.eraseIdxIfInBounds j) (clock':=clock) (by simpa using q7) hp1 hp2
  exact ⟨T,M,m1.wider λ _ h=>.inl h,m2,λ _ _ h=>h,htup⟩
 .have hex : (execOp a.eval o).run P w = .ok (.value (.tuple #[])) { w with heap:=w.heap.setIfInBounds b (.map es clock) }:=by
   simp [execOp,h,resolve,hb0,invoke,builtin,Builtin.delete_,ht',hx',hv,hv',run_underlying hu,Go.MapKept.run_getObj_map hw,run_checkKey hku hkey,run_findKey hku q1,Go.MapKept.run_setObj_map _ hw,Result.andThen]
  rw [hex];obtain ⟨m1,m2⟩:=m.writeMap he hg hb hez hw (e:={ e with rows:=mdel n e.rows,ro:=0 }) hez (Qi _) (es':=es) (clock':=clock) q7 hp1 hp2;exact ⟨T,M,m1.wider λ _ h=>.inl h,m2,λ _ _ h=>h,htup⟩
end
theorem zd6 : ∀ {rows : List (List AV)} {bs : List UInt8},zby rows=some bs -> ∃ ns : List Int,rows=ns.map (λ n=>[AV.sc (.int .u8 n)])/\bs=ns.map λ n=>UInt8.ofNat n.toNat
 | [],bs,h=>by simp [zby] at h; exact ⟨[],rfl,h⟩
 | r::rows,bs,h=>by
   unfold zby at h;split at h
   .rename_i e; cases e
   .rename_i n rest e
    cases e;simp only [Qv] at h;obtain ⟨bs',h1,rfl⟩:=h;obtain ⟨ns,rfl,rfl⟩:=zd6 h1;exact ⟨n::ns,rfl,rfl⟩
   .cases h
theorem ztu {P : Program} {fn : Func} {s : Nat} (h : ovlF P fn=some s) : fn.body.isNone=true/\(fn.name == "runtime.NumGoroutine")=false/\Extern.findNext fn=none /\
  Extern.find fn=some (Extern.SlicesOverlaps.overlaps fn.params fn.resultTypes) /\ ∃ t u e,fn.params = #[t,u]/\P.underlying t=some (.slice e)/\zbg P e=some s:=by
 unfold ovlF at h;split at h
 case isFalse=>cases h
 rename_i hc;simp only [QT,bne_iff_ne,ne_eq,beq_iff_eq,Option.isNone_iff_eq_none] at hc;obtain ⟨⟨⟨⟨⟨⟨h1,h2⟩,h3⟩,h4⟩,h5⟩,h6⟩,h7⟩:=hc;have e1 : Extern.allNextRows.lookup "slices.overlaps" = none:=rfl;have e2 : Extern.allGenericRows.lookup "slices.overlaps" = none:=rfl;have e3 : Extern.allTypedRows.lookup "slices.overlaps" = some Extern.SlicesOverlaps.overlaps:=rfl;refine ⟨by simp [h1],by simpa using h2,by simp [Extern.findNext,h3,h4,e1],by simp [Extern.find,h3,h5,h6,h7,e2,e3],?_⟩
 split at h
 case h_2=>cases h
 rename_i t u hp;split at h
 case h_2=>cases h
 rename_i e hu;exact ⟨t,u,e,by rw [<- QP (xs:=fn.params),hp],hu,h⟩
theorem zim : ∃ (q : Question) (s1 s2 : String),∀ (t u : TypeId) (R : Array TypeId) (a b : Option Addr) (la ca lb cb : Nat),Extern.SlicesOverlaps.overlaps #[t,u] R #[.slice a la ca,.slice b lb cb]=(do
  let some t:=(#[t,u] : Array TypeId)[0]? | stuck s1
  let .slice elem <- underlying t | stuck s2
  let size <- sizeOf elem
  match a,b with
  | some a,some b =>
    if la=0∨lb=0∨size=0 then pure (Value.bool false)
    else if a.block != b.block && (<- frozen a) && (<- frozen b) then unsupported .addressObserved
    else do
     if a.block != b.block then do
      noView a; noView b
      if <- mayBeOne a b then return Value.bool ((<- choose q) == 1)
     pure (Value.bool (a.block == b.block && a.off<b.off+lb*size && b.off<a.off+la*size))
  | _,_=>pure (Value.bool false) : Sem Value):=⟨_,"none",_,λ _ _ _ _ _ _ _ _ _=>rfl⟩
section
variable {P : Program} {np : Nat} {T0 : Nat->Nat} {M0 : GM} {w0 : World} {live : Nat->Prop} {st : St} {T : Nat->Nat} {M : GM} {a : Act} {w : World} {idb : Nat}
variable (tm : ∀ i,Rep T w M (st.get i) (a.tmps.getD i undef)) (m : Mem np T0 M0 w0 live st.hp T M w) (fresh : ∀ k,k<8->¬ live (idb+k)) (npid : np<=idb)
include tm m
theorem zwU (o : Oper) (t u : TypeId) (x : Operand) (h : o.op = .convert t u x) (e : TypeId) (h1 : P.underlying t=some (.slice e)) (h2 : P.underlying u=some .string) : Goal P np T0 M0 w0 live st T M a w idb o:=by
 intro K hk;have hr:=zaB tm x;simp only [zaz,h,h1,h2] at hk;split at hk
 case h_2=>exact False.elim hk
 rename_i he;simp only [List.map,aK] at hk;obtain ⟨rows,bs,hrows,hbs,hk⟩:=hk;obtain ⟨ad,cap,us,hv,hcap,hus,hun,huc⟩:=zb1 m.hs hr hrows;obtain ⟨ns,rfl,rfl⟩:=zd6 hbs;refine ⟨_,_,_,hk,zay m (.sc _ _ rfl) ?_⟩
 have hus' : us=ns.map (Value.int .u8):=by
  apply List.ext_getElem
  .rw [hus.size]; simp
  .intro i hi hi'
   have hl : i<ns.length:=by simpa using hi'
   have:=hus.cell i 0 (by simpa using hl) (by omega)
   have e1 : (ns.map λ n=>[AV.sc (.int .u8 n)]).getD i []=[AV.sc (.int .u8 ns[i])]:=by simp [List.getD,hl]
   have e2 : us.getD (i*1+0) undef=us[i]:=by simp [List.getD,hi]
   rw [e1,e2] at this;have:=zaY this rfl;rw [this];simp
 have hconv : (convert t u (a.eval x)).run P w = .ok (.string ⟨(ns.map λ n=>UInt8.ofNat n.toNat).toArray⟩) w:=by
  rw [hv,run_convert_bytes_string w t u e _ _ _ h1 he h2]
  cases ad with
  | none =>
    have h0:=hun rfl;rw [hus'] at h0;have : ns=[]:=by simpa using h0
    subst this;simp [Conv.bytesToString];rfl
  | some ad =>
    have hl : (loadCells ad (ns.map λ n=>[AV.sc (.int .u8 n)]).length).run P w = .ok (ns.map (Value.int .u8)).toArray w:=by
     have:=run_loadCells_list (P:=P) w ad us (huc ad rfl);rw [hus'] at this
     simpa using this
    rw [run_bytesToString w ad _ cap ns hl,foldl_push_bytes]
    congr 3
    have h0 : ByteArray.empty.data = #[]:=rfl;rw [h0];simp
 simp [execOp,h,hconv]
theorem zwT (o : Oper) (c : Call) (f : Operand) (h : o.op = .call c) (hb : c.callee = .value f) {s : Nat} (hov : ovlC P f=some s) : Goal P np T0 M0 w0 live st T M a w idb o:=by
 intro K hk;have hc : zaz P o=(.ovl s,c.args.toList.map opd):=by simp [zaz,h,hb,hov]
 rw [hc] at hk
 cases f <;> (try (simp [ovlC] at hov; done))
 rename_i g0;simp only [ovlC] at hov;split at hov
 case h_2=>cases hov
 rename_i fn hfn;obtain ⟨hbody,hname,hnext,hfind,t,u,e,hpar,hun,hsz⟩:=ztu hov
 have hsz' : ∀ w,(sizeOf e).run P w = .ok s w:=by
  intro w;simp only [zbg,Qv] at hsz;obtain ⟨i,hi,hs⟩:=hsz;simp [sizeOf,typeInfo,hi,hs]
 cases hx : c.args.toList with
 | nil=>rw [hx] at hk; simp [aK] at hk
 | cons x xs =>
 cases xs with
 | nil=>rw [hx] at hk; simp [aK] at hk
 | cons y ys =>
 cases ys with
 | cons z zs=>rw [hx] at hk; simp [aK] at hk
 | nil =>
 have hx' : c.args = #[x,y]:=by rw [<- QP (xs:=c.args),hx]
 rw [hx] at hk;simp only [Qn,Uz] at hk;have hr1:=zaB tm x;have hr2:=zaB tm y;generalize hv1 : a.eval x=v1 at *;generalize hv2 : a.eval y=v2 at *;generalize (opd x).ev st.get=X at *;generalize (opd y).ev st.get=Y at *
 cases X <;> (try (simp only [aK] at hk; done))
 cases Y <;> (try (simp only [aK] at hk; done))
 rename_i s1 full rows id off len cap2;simp only [aK] at hk;obtain ⟨en,hen,hss,hes,hro,hk⟩:=hk;have hss' : s=s1:=hss.symm
 clear hss
 subst hss';refine ⟨_,_,_,hk,zay m (.sc _ _ rfl) ?_⟩
 cases hr1 with
 | vs _ _ _ _ a1 cap1 c1 hf1 hle1 hw1 hb1 h11 hh1 =>
 cases hr2 with
 | rk _ _ _ _ _ a2 g hg hz hl2 hn2 hb2 =>
 obtain ⟨g',hg',ent⟩:=m.hs.ent id en hen;obtain rfl:=Qf (hg.symm.trans hg');have hS : g.s=s:=ent.s.trans hes
 have hrun0 : ∀ n,n=rows.length->(Extern.SlicesOverlaps.overlaps fn.params fn.resultTypes #[.slice a1 n cap1,.slice a2 len cap2]).run P w = .ok (.bool false) w:=by
  intro n hn;obtain ⟨q,s1,s2,zim⟩:=zim;rw [hpar]
  cases a1 with
  | none=>simp [zim,run_underlying hun,hsz']
  | some x1 =>
  cases a2 with
  | none=>simp [zim,run_underlying hun,hsz']
  | some x2 =>
  by_cases h0 : n=0∨len=0∨s=0
  .simp [zim,run_underlying hun,hsz',h0]
  .have hne : rows≠[]:=by rintro rfl; simp at hn; omega
   obtain ⟨b,o1,cells,ty,fz,ha1,hcell,hT1,-⟩:=hb1 hne;have hpos : 0<rows.length*s:=Nat.mul_pos (by omega) (by omega)
   obtain ⟨cA,tA,fA,hA,hTA⟩:=m.after.tok b (by omega)
   rw [hcell] at hA;injection hA with hA;injection hA with hA1 hA2 hA3;subst hA1 hA2 hA3
   cases hblk : g.blk with
   | none=>have:=hn2 hblk; omega
   | some b2 =>
   obtain ⟨ha2,-⟩:=hb2 b2 hblk;obtain ⟨cB,tB,hB,hTB,hszB,-⟩:=ent.blk (ent.s ▸ hz) b2 hblk
   have ha2' : x2=⟨b2,g.base+off*g.s,none⟩:=by
    rcases ha2 with h | h
    .omega
    .exact Qf h
   obtain rfl:=Qf ha1;subst ha2';have hroS : en.ro*en.s<=off*en.s:=QC _ hro;rw [hes] at hroS hTB;have hfb : w.frozen? ⟨b2,g.base+off*g.s,none⟩=false:=by simp [World.frozen?,hB]
   have hfb2 : w.frozen? ⟨b2,cB.size,none⟩=false:=by simp [World.frozen?,hB]
   have hsa : w.shape? b=some (ty,cells.size):=by simp [World.shape?,hcell]
   have hsb : w.shape? b2=some (tB,cB.size):=by simp [World.shape?,hB]
   by_cases hbb : b=b2
   .subst hbb
    simp [zim,run_underlying hun,hsz',h0];intro h1;rw [hS,hn];omega
   .have hcz : cells.size≠0:=by omega
    generalize hkA : cells.size=kA at *
    cases kA with
    | zero=>exact absurd rfl hcz
    | succ kA =>
      cases hfa : w.frozen? ⟨b,o1,none⟩ <;> cases hfe : w.frozen? ⟨b,kA+1,none⟩ <;>
      simp [zim,run_underlying hun,hsz',h0,hbb,frozen,noView,viewAt,mayBeOne,stringish,shape,Sem.run,hsa,hsb,hfb,hfb2,hfa,hfe]
 have hrun:=hrun0 _ rfl;have hcall:=run_callFunc_extern hfn hname hbody hnext hfind #[.slice a1 rows.length cap1,.slice a2 len cap2] w;rw [hrun] at hcall;simp only [Result.andThen] at hcall;have hf0 : a.eval (.func g0) = .func (.func g0) #[] #[]:=rfl;simp [execOp,h,resolve,hb,hf0,Deferred.ofValue,invoke,hx',hv1,hv2,hcall]
include fresh npid
theorem zoy (o : Oper) : Goal P np T0 M0 w0 live st T M a w idb o:=by
 have bad : (zaz P o).1 = .bad->Goal P np T0 M0 w0 live st T M a w idb o:=by
  intro hb K hk;rw [hb] at hk;exact False.elim (by cases h : (zaz P o).2.map (·.ev st.get) <;> (rw [h] at hk; exact hk))
 cases hop : o.op with
 | move x=>exact zxD tm m o x (.inl hop)
 | assign x=>exact zxD tm m o x (.inr hop)
 | pick c x y=>exact zvc tm m o c x y hop
 | alloc t=>exact ztb m fresh npid o t hop
 | box t x=>exact zwP tm m fresh npid o t x hop
 | build t ps=>exact ztE tm m o t ps hop
 | buildSlice t n ps=>exact zxo tm m fresh npid o t n ps hop
 | load t x=>exact zvz tm m o t x hop
 | store t x y=>exact zuo tm m o t x y hop
 | nilCheck x=>exact zwQ tm m o x hop
 | binOp op t x y u=>exact zxA tm m o op t u x y hop
 | unOp op t x=>exact zyT tm m o op t x hop
 | convert t u x =>
   cases h1 : P.underlying t with
   | none=>exact bad (by simp [zaz,hop,h1])
   | some d1 =>
     cases h2 : P.underlying u with
     | none=>exact bad (by simp [zaz,hop,h1,h2])
     | some d2 =>
       by_cases q1 : ∃ k k',d1 = .int k/\d2 = .int k'
       .obtain ⟨k,k',rfl,rfl⟩:=q1
        exact zwH tm m o t u x hop k k' h1 h2
       .by_cases q2 : ∃ e,d1 = .slice e/\d2 = .string
        .obtain ⟨e,rfl,rfl⟩:=q2
         exact zwU tm m o t u x hop e h1 h2
        .refine bad ?_
         simp only [zaz,hop,h1,h2];split
         .rename_i e1 e2; cases e1; cases e2; exact absurd ⟨_,_,rfl,rfl⟩ q1
         .rename_i e1 e2; cases e1; cases e2; exact absurd ⟨_,rfl,rfl⟩ q2
         .rfl
 | makeFunc f first capt =>
   cases f with
   | func f=>exact zya tm m o f first capt hop
   | _=>exact bad (by simp [zaz,hop])
 | makeSlice t x y=>exact zwB tm m fresh npid o t x y hop
 | slice t x lo hi mx=>exact zxq tm m o t x lo hi mx hop
 | fieldAddr t x f=>exact zxG tm m o t x f hop
 | field t x f=>exact zt9 tm m o t x f hop
 | indexAddr t x y=>exact zwM tm m o t x y hop
 | index t x y=>exact zxr tm m o t x y hop
 | extract x i=>exact zxn tm m o x i hop
 | call c =>
   cases hc : c.callee with
   | value f =>
     cases hov : ovlC P f with
     | none=>exact zvR tm m fresh npid o c f hop hc hov
     | some s=>exact zwT tm m o c f hop hc hov
   | invoke r n=>exact zwD tm m fresh npid o c r n hop hc
   | builtin b =>
     cases b with
     | append=>exact zsi tm m fresh npid o c hop hc
     | copy=>exact zvJ tm m o c hop hc
     | clear=>exact zxO tm m o c hop hc
     | cap=>exact zwF tm m o c hop hc
     | len =>
       cases ht : c.argTypes.toList with
       | nil=>exact bad (by simp [zaz,hop,hc,ht])
       | cons t ts =>
         cases ts with
         | cons t' ts=>exact bad (by simp [zaz,hop,hc,ht])
         | nil =>
           cases hx : c.args.toList with
           | nil=>exact bad (by simp [zaz,hop,hc,ht,hx])
           | cons x xs =>
             cases xs with
             | cons x' xs=>exact bad (by simp [zaz,hop,hc,ht,hx])
             | nil=>exact zxN tm m o c hop hc t x ht hx
     | max=>exact zxu tm m o c hop true (by simpa using hc)
     | min=>exact zxu tm m o c hop false (by simpa using hc)
     | delete=>exact zwW tm m o c hop hc
     | _=>exact bad (by simp [zaz,hop,hc])
 | makeInterface t x=>exact zw0 tm m o t x hop
 | makeMap t r =>
   cases r with
   | none=>exact zw4 m fresh npid o t hop
   | some r=>exact bad (by simp [zaz,hop])
 | lookup t x y ok=>exact zw8 tm m o t x y ok hop
 | mapUpdate t x y u=>exact zu4 tm m o t x y u (.inl hop)
 | insert t x y u=>exact zu4 tm m o t x y u (.inr hop)
 | _=>exact bad (by simp [zaz,hop])
end
section
variable {P : Program} {np : Nat} {T0 : Nat->Nat} {M0 : GM} {w0 : World} {live : Nat->Prop} {st : St} {T : Nat->Nat} {M : GM} {a : Act} {w : World}
theorem Ok.mem (ok : Ok np T0 M0 w0 live st T M a w) : Mem np T0 M0 w0 live st.hp T M w:=⟨ok.hs,ok.dom,ok.after⟩
theorem Ok.wider (ok : Ok np T0 M0 w0 live st T M a w) {live' : Nat->Prop} (h : ∀ i,live i->live' i) : Ok np T0 M0 w0 live' st T M a w :=
 ⟨ok.sz,ok.df,ok.tm,ok.hs,λ id g hg=>h _ (ok.dom id g hg),ok.after⟩
theorem Ok.ext (ok : Ok np T0 M0 w0 live st T M a w) {st' : St} (h1 : st'.sz=st.sz) (h2 : ∀ i,st'.get i=st.get i) (h3 : ∀ i,st'.hp i=st.hp i) : Ok np T0 M0 w0 live st' T M a w:=by
 have e : st'.hp=st.hp:=funext h3;exact ⟨ok.sz.trans h1.symm,ok.df,λ i=>by rw [h2]; exact ok.tm i,by rw [e]; exact ok.hs,ok.dom,ok.after⟩
theorem St.sz_put (st : St) (d : Option Nat) (v : AV) : (st.put d v).sz=st.sz:=by cases d <;> rfl
theorem zkp (a : Act) (d : Option Nat) (v : Value) : (a.put d v).tmps.size=a.tmps.size:=by
 cases d <;> simp [Act.put]
theorem zgo (a : Act) (d : Option Nat) (v : Value) : (a.put d v).defers=a.defers:=by cases d <;> rfl
theorem zuZ (ok : Ok np T0 M0 w0 live st T M a w) {o : Oper} (hd : o.dst.all (· < st.sz)=true) {id : Nat} {v : AV} {up : List (Nat × Option Ent)}
  (he : Eff P np T0 M0 w0 live id (st.upd up).hp T M w v ((execOp a.eval o).run P w)) {next : Act->World->Prop} {Q : Exit->Act->World->Prop}
  (hn : ∀ T' M' a' w',Ok np T0 M0 w0 (λ i=>live i∨(id<=i/\i<id+8)) ((st.put o.dst v).upd up) T' M' a' w'->next a' w') : o.wp P a w next Q:=by
 have fin : ∀ T' M' w' v',Mem np T0 M0 w0 (λ i=>live i∨(id<=i/\i<id+8)) (st.upd up).hp T' M' w'->Pres T w T' w'->(∀ i g,M i=some g->M' i=some g)->Rep T' w' M' v v'->next (a.put o.dst v') w':=by
  intro T' M' w' v' hm hp hM hr;refine hn T' M' _ w' ⟨?_,?_,?_,?_,hm.dom,hm.after⟩
  .rw [zkp]
   exact ok.sz.trans (St.sz_put _ _ _).symm
  .rw [zgo]; exact ok.df
  .exact zrV ok.sz (λ i=>(ok.tm i).mono hp hM) hd hr
  .have e : ((st.put o.dst v).upd up).hp=(st.upd up).hp:=by
    funext i
    rw [St.hp_upd,St.hp_upd,St.hp_put]
   rw [e];exact hm.hs
 unfold Oper.wp;generalize hrun : (execOp a.eval o).run P w=r at *
 cases r with
 | halt h w'=>exact False.elim he
 | ok n w' =>
   cases n with
   | value v' =>
     obtain ⟨T',M',h1,h2,h3,h4⟩:=he;exact fin T' M' w' v' h1 h2 h3 h4
   | skip =>
     obtain ⟨T',M',h1,h2,h3,rfl⟩:=he;exact fin T' M' w' undef h1 h2 h3 (.dead _ _)
   | enter f args =>
     obtain ⟨rfl,hc⟩:=he;refine hc.mono ?_
     rintro e w'' ⟨v',T',M',rfl,h1,h2,h3,h4⟩
     exact fin T' M' w'' v' h1 h2 h3 h4
   | _=>exact False.elim he
theorem zj0 (tm : ∀ i,Rep T w M (st.get i) (a.tmps.getD i undef)) {ops : Array Oper} {o : Oper} {j d : Nat} {want : Bool} {b : Option Bool} (hg : o.guard=some (j,want)) (hj : (ops[j]?).bind (·.dst)=some d) (hb : gdV (st.get d)=some b) :
  Region.wanted o (yielded ops a.tmps)=(b == some want):=by
 have h1:=tm d;unfold gdV at hb;split at hb
 .rename_i b' heq
  obtain rfl:=Qf hb;rw [heq] at h1;have h2:=zaY h1 rfl
  have h3 : a.tmps[d]? = some (.bool b'):=by
   rw [QD] at h2
   cases h : a.tmps[d]? with
   | none=>rw [h] at h2; cases h2
   | some v=>rw [h] at h2; simp at h2; rw [h2]
  simp only [Region.wanted,hg,yielded,hj,Option.bind_some,h3]
 .rename_i heq
  obtain rfl:=Qf hb;rw [heq] at h1
  have h3 : a.tmps[d]? = none ∨ ∃ vs,a.tmps[d]? = some (.tuple vs):=by
   rw [QD] at h1
   cases h : a.tmps[d]? with
   | none=>exact .inl rfl
   | some v =>
     rw [h] at h1;simp only [Qz] at h1
     cases h1;exact .inr ⟨_,rfl⟩
  rcases h3 with h3 | ⟨vs,h3⟩ <;> simp only [Region.wanted,hg,yielded,hj,Option.bind_some,h3] <;> rfl
 .cases hb
theorem zcq {ops : Array Oper} {o : Oper} : (zav P ops o).dst=o.dst/\((o.guard=none/\(zav P ops o).guard=none/\(zav P ops o).op=(zaz P o).1/\(zav P ops o).xs=(zaz P o).2) ∨
  (∃ j want d,o.guard=some (j,want)/\(ops[j]?).bind (·.dst)=some d/\(zav P ops o).guard=some (d,want)/\(zav P ops o).op=(zaz P o).1/\(zav P ops o).xs=(zaz P o).2) ∨
  ((zav P ops o).guard=none/\(zav P ops o).op = .bad/\(zav P ops o).xs=[])):=by
 unfold zav
 cases hg : o.guard with
 | none=>exact ⟨rfl,.inl ⟨rfl,rfl,rfl,rfl⟩⟩
 | some p =>
   obtain ⟨j,want⟩:=p;simp only
   cases hj : (ops[j]?).bind (·.dst) with
   | none=>exact ⟨rfl,.inr (.inr ⟨rfl,rfl,rfl⟩)⟩
   | some d=>exact ⟨rfl,.inr (.inl ⟨j,want,d,rfl,hj,rfl,rfl,rfl⟩)⟩
theorem zem {ops : Array Oper} {n : Nat} (hnp : np<=n) {Q : Exit->Act->World->Prop} {K : St->List (List Nat × List Nat)->Prop}
  (hQ : ∀ st tr T M a w,K st tr->Ok np T0 M0 w0 (zbL (n+8*ops.size)) st T M a w->Q .normal a w) :
  ∀ (k i : Nat) (st : St) (tr : List (List Nat × List Nat)) (T : Nat->Nat) (M : GM) (a : Act) (w : World),i+k=ops.size->(∀ o∈ops,o.dst.all (· < st.sz)=true) ->
    Ok np T0 M0 w0 (zbL (n+8*i)) st T M a w->zaO P np n i ((ops.toList.map (zav P ops)).drop i) st tr K->wpOps P ops Q (List.range' i k) a w
 | 0,i,st,tr,T,M,a,w,hi,hd,ok,h=>by
   have e : (ops.toList.map (zav P ops)).drop i=[]:=by rw [List.drop_eq_nil_iff]; simp; omega
   rw [e] at h;obtain rfl : i=ops.size:=by omega
   exact hQ st tr T M a w h ok
 | k+1,i,st,tr,T,M,a,w,hi,hd,ok,h=>by
   have hlt : i<ops.size:=by omega
   have e : (ops.toList.map (zav P ops)).drop i=zav P ops ops[i]::(ops.toList.map (zav P ops)).drop (i+1):=by
    rw [QQ (by simpa using hlt)]
    simp
   rw [e] at h;have ho : ops[i]? = some ops[i]:=Array.getElem?_eq_getElem hlt;have hdi:=hd _ (Array.getElem_mem hlt);rw [List.range'_succ,wpOps_cons];simp only [wpOp,ho]
   have run : (aK P np (n+8*i) (zaz P ops[i]).1 ((zaz P ops[i]).2.map (·.ev st.get)) st.hp λ v rd up=>zaO P np n (i+1) ((ops.toList.map (zav P ops)).drop (i+1)) ((st.put ops[i].dst v).upd up) (tr++[(rd,up.map (·.1))]) K) ->
     ops[i].wp P a w (wpOps P ops Q (List.range' (i+1) k)) Q:=by
    intro hk;obtain ⟨v,rd,up,h1,h2⟩:=zoy ok.tm ok.mem (idb:=n+8*i) (λ q hq hl=>by have : n+8*i+q<n+8*i:=hl; omega) (by omega) ops[i] _ hk
    refine zuZ ok hdi h2 λ T' M' a' w' ok'=>?_;refine zem hnp hQ k (i+1) _ _ T' M' a' w' (by omega) (λ o ho=>?_) (ok'.wider λ j hj=>?_) h1
    .show o.dst.all (· < (st.put _ _).sz)=true
     rw [St.sz_put]; exact hd o ho
    .rcases hj with hj | hj
     .have : j<n+8*i:=hj
      show j<n+8*(i+1);omega
     .show j<n+8*(i+1)
      omega
   simp only [zaO] at h;obtain ⟨hdst,hc⟩:=zcq (P:=P) (ops:=ops) (o:=ops[i]);rcases hc with ⟨g1,g2,g3,g4⟩ | ⟨j,want,d,g1,g2,g3,g4,g5⟩ | ⟨g1,g2,g3⟩
   .rw [g2] at h
    simp only [g3,g4,hdst] at h;have hwd : Region.wanted ops[i] (yielded ops a.tmps)=true:=by simp [Region.wanted,g1]
    rw [if_pos hwd];exact .inl (run h)
   .rw [g3] at h
    simp only [g4,g5,hdst] at h;obtain ⟨b,hb,h⟩:=h;have hwd:=zj0 ok.tm g1 g2 hb;rw [hwd]
    by_cases hbw : b=some want
    .subst hbw
     simp only [UY,beq_self_eq_true] at h ⊢;exact .inl (run h)
    .rw [if_neg hbw] at h
     rw [if_neg (by simpa using hbw)]
     refine zem hnp hQ k (i+1) (st.put ops[i].dst (.tup [])) _ T M (a.put ops[i].dst undef) w (by omega) (λ o ho=>by rw [St.sz_put]; exact hd o ho) ?_ h
     refine ⟨by rw [zkp,St.sz_put]; exact ok.sz,by rw [zgo]; exact ok.df,zrV ok.sz ok.tm hdi (.tup _ [] #[] rfl (λ i hi=>by simp at hi)),?_,λ id g hg=>?_,ok.after⟩
     .have e : (st.put ops[i].dst (.tup [])).hp=st.hp:=by funext q; rw [St.hp_put]
      rw [e]; exact ok.hs
     .have : id<n+8*i:=ok.dom id g hg
      show id<n+8*(i+1);omega
   .rw [g1] at h
    simp only [g2,g3] at h;exact False.elim h
end
theorem zcD {α β : Type} {f g : α->Option β} : ∀ {l : List α},(∀ x∈l,f x=g x)->l.filterMap f=l.filterMap g
 | [],_=>rfl
 | x::l,h=>by
   rw [UQ,UQ,h x Qm,zcD λ y hy=>h y (Qk _ hy)]
section
variable {P : Program} {np id : Nat} {op : AOp} {xs : List AV} {h : Nat->Option Ent}
theorem znY {K : AV->List Nat->List (Nat × Option Ent)->Prop} (hk : aK P np id op xs h K) :
  ∃ v rd up,K v rd up/\aK P np id op xs h λ v' rd' up'=>v'=v/\rd'=rd/\up'=up:=by
 by_cases happ : ∃ s b x y,op = .app s b/\xs=[x,y]/\¬ ∃ i o l c,x=AV.rk i o l c
 .obtain ⟨s,b,x,y,rfl,rfl,hx⟩:=happ
  simp only [zmK hx] at hk ⊢;obtain ⟨a,b,c,d,e,f,hk⟩:=hk;exact ⟨_,_,_,hk,a,b,c,d,e,f,rfl,rfl,rfl⟩
 unfold aK at hk ⊢;split at hk
 all_goals first
  | exact False.elim hk
  | exact ⟨_,_,_,hk,rfl,rfl,rfl⟩
  | (exfalso; exact happ ⟨_,_,_,_,rfl,rfl,λ ⟨_,_,_,_,e⟩=>by subst e; simp_all⟩)
  | (obtain ⟨a,b,c,d,e,f,g,i,j,hk⟩:=hk
     split at hk
     .rename_i hc
      exact ⟨_,_,_,hk,a,b,c,d,e,f,g,i,j,by rw [if_pos hc]; exact ⟨rfl,rfl,rfl⟩⟩
     .rename_i hc
      exact ⟨_,_,_,hk,a,b,c,d,e,f,g,i,j,by rw [if_neg hc]; exact ⟨rfl,rfl,rfl⟩⟩)
  | (obtain ⟨a,b,hk⟩:=hk; exact ⟨_,_,_,hk,a,b,rfl,rfl,rfl⟩)
  | (obtain ⟨a,hk⟩:=hk; exact ⟨_,_,_,hk,a,rfl,rfl,rfl⟩)
  | (obtain ⟨a,b,c,hk⟩:=hk; exact ⟨_,_,_,hk,a,b,c,rfl,rfl,rfl⟩)
  | (obtain ⟨a,b,c,d,hk⟩:=hk; exact ⟨_,_,_,hk,a,b,c,d,rfl,rfl,rfl⟩)
  | (obtain ⟨a,b,c,d,e,hk⟩:=hk; exact ⟨_,_,_,hk,a,b,c,d,e,rfl,rfl,rfl⟩)
  | (obtain ⟨a,b,c,d,e,f,hk⟩:=hk; exact ⟨_,_,_,hk,a,b,c,d,e,f,rfl,rfl,rfl⟩)
  | (obtain ⟨a,b,c,d,e,f,g,hk⟩:=hk; exact ⟨_,_,_,hk,a,b,c,d,e,f,g,rfl,rfl,rfl⟩)
  | (obtain ⟨a,b,c,d,e,f,g,i,hk⟩:=hk; exact ⟨_,_,_,hk,a,b,c,d,e,f,g,i,rfl,rfl,rfl⟩)
  | (obtain ⟨a,b,c,d,e,f,g,i,j,hk⟩:=hk; exact ⟨_,_,_,hk,a,b,c,d,e,f,g,i,j,rfl,rfl,rfl⟩)
  | (obtain ⟨a,b,c,d,e,f,g,i,j,k,l,m,n,o,p,hk⟩:=hk; exact ⟨_,_,_,hk,a,b,c,d,e,f,g,i,j,k,l,m,n,o,p,rfl,rfl,rfl⟩)
  | (obtain ⟨a,b,c,d,e,f,g,i,j,k,l,m,n,o,p,q,r,hk⟩:=hk; exact ⟨_,_,_,hk,a,b,c,d,e,f,g,i,j,k,l,m,n,o,p,q,r,rfl,rfl,rfl⟩)
  | (obtain ⟨l,r,n,a,b,c,d,e,f,g,hk⟩:=hk
     split at hk
     .obtain ⟨i,j,k,hk⟩:=hk; exact ⟨_,_,_,hk,l,r,n,a,b,c,d,e,f,g,i,j,k,rfl,rfl,rfl⟩
     .obtain ⟨i,j,k,hk⟩:=hk; exact ⟨_,_,_,hk,l,r,n,a,b,c,d,e,f,g,i,j,k,rfl,rfl,rfl⟩
     .obtain ⟨i,j,k,q,hk⟩:=hk; exact ⟨_,_,_,hk,l,r,n,a,b,c,d,e,f,g,i,j,k,q,rfl,rfl,rfl⟩
     .obtain ⟨i,j,hk⟩:=hk; exact ⟨_,_,_,hk,l,r,n,a,b,c,d,e,f,g,i,j,rfl,rfl,rfl⟩
     .exact False.elim hk)
variable {h' : Nat->Option Ent}
theorem zlo {x : AV} (hh : ∀ i∈za8 x,h' i=h i) : zcn h' x=zcn h x:=by
 cases x with
 | pt i j k =>
   simp only [zcn];rw [hh i (by simp [za8])]
 | _=>rfl
theorem zbY {s : Nat} {x : AV} (hh : ∀ i∈za8 x,h' i=h i) : zaZ s h' x=zaZ s h x:=by
 cases x with
 | rs i j k =>
   simp only [zaZ];rw [hh i (by simp [za8])]
 | rk i j k c =>
   simp only [zaZ];rw [hh i (by simp [za8])]
 | sc k =>
   unfold zaZ;split <;> first | rfl | (rename_i e; cases e) | simp_all
 | _=>rfl
theorem zqq {n : Nat} {x : AV} : za8 (cutN n x)=za8 x:=by cases x <;> rfl
theorem zfo {s : Nat} {new : List (List AV)} {x : AV} (hh : ∀ i∈za8 x,h' i=h i) : zbc s h' new x=zbc s h new x:=by
 cases x with
 | rs i j k =>
   simp only [zbc];rw [hh i (by simp [za8])]
 | sc k =>
   unfold zbc;split <;> first | rfl | (rename_i e; cases e) | simp_all
 | vs s' f rows=>cases f <;> rfl
 | _=>rfl
theorem zgQ {sn : List Nat} (hh : ∀ i∈sn,h' i=h i) : ∀ (n : Nat) (ρ : List (Nat × Nat)) (x : AV),conv ρ sn h' n x=conv ρ sn h n x
 | 0,_,_=>rfl
 | n+1,ρ,x=>by
   have ih:=λ ρ=>funext (zgQ hh n ρ);have ih' : ∀ ρ,conv ρ sn h' n=conv ρ sn h n:=ih
   cases x with
   | rs id off len =>
     simp only [conv,ih']
     split
     .rfl
     .split
      .rename_i hin; rw [hh id hin]
      .rfl
   | rk id off len cap =>
     simp only [conv,ih']
     split
     .rfl
     .split
      .rename_i hin; rw [hh id hin]
      .rfl
   | pt id i j =>
     simp only [conv,ih']
     split
     .rfl
     .split
      .rename_i hin; rw [hh id hin]
      .rfl
   | _=>simp only [conv,ih']
theorem ztJ {v : AV} {rd : List Nat} {up : List (Nat × Option Ent)} (hk : aK P np id op xs h λ v' rd' up'=>v'=v/\rd'=rd/\up'=up) (hh : ∀ i∈rd,h' i=h i) :
  aK P np id op xs h' λ v' rd' up'=>v'=v/\rd'=rd/\up'=up:=by
 by_cases happ : ∃ s b x y,op = .app s b/\xs=[x,y]/\¬ ∃ i o l c,x=AV.rk i o l c
 .obtain ⟨s,b,x,y,rfl,rfl,hx⟩:=happ
  simp only [zmK hx] at hk ⊢;obtain ⟨new,old,h1,h2,h3,h4,rfl,rfl,rfl⟩:=hk;exact ⟨new,old,by rw [zbY λ i hi=>hh i (UD _ hi)]; exact h1,by rw [zfo λ i hi=>hh i (QU _ hi)]; exact h2,h3,h4,rfl,rfl,rfl⟩
 unfold aK at hk ⊢;split at hk
 all_goals try exact hk
 .
  obtain ⟨cs,h1,h2,rfl,rfl,rfl⟩:=hk;exact ⟨cs,by rw [zlo hh]; exact h1,h2,rfl,rfl,rfl⟩
 .obtain ⟨e,row,cs,h1,h2,h3,h4,h5,h6,rfl,rfl,rfl⟩:=hk
  exact ⟨e,row,cs,by rw [hh _ (by simp)]; exact h1,h2,h3,h4,h5,h6,rfl,rfl,rfl⟩
 .obtain ⟨rows,bs,h1,h2,rfl,rfl,rfl⟩:=hk
  exact ⟨rows,bs,by rw [zbY hh]; exact h1,h2,rfl,rfl,rfl⟩
 .obtain ⟨l,r,n,a,b,c,d,e,f,g,hk⟩:=hk
  refine ⟨l,r,n,a,b,c,d,e,f,g,?_⟩;split at hk
  .exact hk
  .obtain ⟨h0,h1,⟨en,h2,h3⟩,rfl,rfl,rfl⟩:=hk
   exact ⟨h0,h1,⟨en,by rw [hh _ (by simp)]; exact h2,h3⟩,rfl,rfl,rfl⟩
  .obtain ⟨h0,h1,h4,⟨en,h2,h3⟩,rfl,rfl,rfl⟩:=hk
   exact ⟨h0,h1,h4,⟨en,by rw [hh _ (by simp)]; exact h2,h3⟩,rfl,rfl,rfl⟩
  .exact hk
  .exact False.elim hk
 .obtain ⟨h1,h2,⟨en,h3,h4⟩,rfl,rfl,rfl⟩:=hk
  exact ⟨h1,h2,⟨en,by rw [hh _ (by simp)]; exact h3,h4⟩,rfl,rfl,rfl⟩
 .obtain ⟨ids,sn,raise,args',hs,res,hs',q1,q2,q3,q4,q5,q6,q7,q8,rfl,rfl,rfl⟩:=hk
  have hsn : ∀ i∈sn,h' i=h i:=λ i hi=>hh i (UD _ hi);have hid : ∀ i∈ids,h' i=h i:=λ i hi=>hh i (QU _ hi);have hcv : ∀ n ρ,conv ρ sn h' n=conv ρ sn h n:=λ n ρ=>funext (zgQ hsn n ρ)
  refine ⟨ids,sn,raise,args',hs,res,hs',q1,q2,q3,by rw [hcv]; exact q4,?_,q6,q7,q8,rfl,rfl,?_⟩
  .rw [<- q5]
   refine QG λ i hi=>?_;rw [hid i hi];have : zaw ids.zipIdx sn h' 4=zaw ids.zipIdx sn h 4:=by funext e; simp only [zaw,hcv]
   rw [this]
  .congr 1
   split
   .refine zcD λ i hi=>?_
    rw [hsn i hi]
   .rfl
 .obtain ⟨new,e,h1,h2,h3,h4,h5,h6,h7,hk⟩:=hk
  have hrd : ∀ i∈rd,h' i=h i:=hh;split at hk <;> rename_i hc <;> obtain ⟨rfl,rfl,rfl⟩:=hk
  .exact ⟨new,e,by rw [zbY λ i hi=>hh i (Qk _ hi)]; exact h1,by rw [hh _ (Qm)]; exact h2,h3,h4,h5,h6,h7,by rw [if_pos hc]; exact ⟨rfl,rfl,rfl⟩⟩
  .exact ⟨new,e,by rw [zbY λ i hi=>hh i (Qk _ hi)]; exact h1,by rw [hh _ (Qm)]; exact h2,h3,h4,h5,h6,h7,by rw [if_neg hc]; exact ⟨rfl,rfl,rfl⟩⟩
 .exfalso; exact happ ⟨_,_,_,_,rfl,rfl,λ ⟨_,_,_,_,e⟩=>by subst e; simp_all⟩
 .obtain ⟨old,h2,h3,rfl,rfl,rfl⟩:=hk
  exact ⟨old,by rw [zfo hh]; exact h2,h3,rfl,rfl,rfl⟩
 .obtain ⟨e,h1,h2,h3,h4,h5,h6,h7,h8,rfl,rfl,rfl⟩:=hk
  exact ⟨e,by rw [hh _ (by simp)]; exact h1,h2,h3,h4,h5,h6,h7,h8,rfl,rfl,rfl⟩
 .obtain ⟨e,new,h1,h2,h3,h4,h5,rfl,rfl,rfl⟩:=hk
  exact ⟨e,new,by rw [hh _ (Qm)]; exact h1,h2,h3,h4,by rw [zbY λ i hi=>hh i (Qk _ hi)]; exact h5,rfl,rfl,rfl⟩
 .obtain ⟨e,new,m,h1,h2,h3,h4,h5,h6,rfl,rfl,rfl⟩:=hk
  exact ⟨e,new,m,by rw [hh _ (Qm)]; exact h1,h2,h3,h4,h5,by rw [zbY λ i hi=>hh i (Qk _ (by rw [zqq] at hi; exact hi))]; exact h6,rfl,rfl,rfl⟩
 .obtain ⟨e,h1,h2,h3,h4,h5,rfl,rfl,rfl⟩:=hk
  exact ⟨e,by rw [hh _ (Qm)]; exact h1,h2,h3,h4,h5,rfl,rfl,rfl⟩
 .obtain ⟨e,h1,h2,h3,h4,rfl,rfl,rfl⟩:=hk
  exact ⟨e,by rw [hh _ (Qm)]; exact h1,h2,h3,h4,rfl,rfl,rfl⟩
 .obtain ⟨e,h1,h2,h3,h4,h5,rfl,rfl,rfl⟩:=hk
  exact ⟨e,by rw [hh _ (Qm)]; exact h1,h2,h3,h4,h5,rfl,rfl,rfl⟩
 .obtain ⟨f,ids,sn,raise,args',hs,res,hs',q0,q1,q2,q3,q4,q5,q6,q7,q8,rfl,rfl,rfl⟩:=hk
  have hsn : ∀ i∈sn,h' i=h i:=λ i hi=>hh i (UD _ hi);have hid : ∀ i∈ids,h' i=h i:=λ i hi=>hh i (QU _ hi);have hcv : ∀ n ρ,conv ρ sn h' n=conv ρ sn h n:=λ n ρ=>funext (zgQ hsn n ρ)
  refine ⟨f,ids,sn,raise,args',hs,res,hs',q0,q1,q2,q3,by rw [hcv]; exact q4,?_,q6,q7,q8,rfl,rfl,?_⟩
  .rw [<- q5]
   refine QG λ i hi=>?_;rw [hid i hi];have : zaw ids.zipIdx sn h' 4=zaw ids.zipIdx sn h 4:=by funext e; simp only [zaw,hcv]
   rw [this]
  .congr 1
   split
   .refine zcD λ i hi=>?_
    rw [hsn i hi]
   .rfl
 .obtain ⟨e,h1,h2,rfl,rfl,rfl⟩:=hk
  exact ⟨e,by rw [hh _ (Qm)]; exact h1,h2,rfl,rfl,rfl⟩
 .obtain ⟨e,h1,h2,rfl,rfl,rfl⟩:=hk
  exact ⟨e,by rw [hh _ (Qm)]; exact h1,h2,rfl,rfl,rfl⟩
 .obtain ⟨e,h1,h2,rfl,rfl,rfl⟩:=hk
  exact ⟨e,by rw [hh _ (Qm)]; exact h1,h2,rfl,rfl,rfl⟩
end
structure Item where
 dst : Option Nat
 v : AV
 rd : List Nat
 up : List (Nat × Option Ent)
def St.app (st : St) (x : Item) : St:=(st.put x.dst x.v).upd x.up
def St.some (D : Nat->Bool) : Nat->List Item->St->St
 | _,[],st=>st
 | i,x::xs,st=>St.some D (i+1) xs (if D i then st.app x else st)
theorem St.app_sz (st : St) (x : Item) : (st.app x).sz=st.sz:=St.sz_put _ _ _
theorem St.some_sz (D : Nat->Bool) : ∀ (xs : List Item) (i : Nat) (st : St),(St.some D i xs st).sz=st.sz
 | [],_,_=>rfl
 | x::xs,i,st=>by
   rw [St.some,St.some_sz D xs];split
   .exact St.app_sz _ _
   .rfl
theorem St.get_app (st : St) (x : Item) (j : Nat) : (st.app x).get j=if x.dst=Option.some j then x.v else st.get j:=by
 unfold St.app;rw [St.get_upd]
 cases h : x.dst with
 | none=>simp [St.put]
 | some d =>
   rw [St.get_put];simp
theorem St.hp_app (st : St) (x : Item) (j : Nat) : (st.app x).hp j=(lkp x.up j).elim (st.hp j) id:=by
 unfold St.app;rw [St.hp_upd,St.hp_put]
theorem St.some_get_congr (D D' : Nat->Bool) (j : Nat) : ∀ (xs : List Item) (i : Nat) (st st' : St),(∀ k x,xs[k]? = Option.some x->x.dst=Option.some j->D (i+k)=D' (i+k))->st.get j=st'.get j ->
  (St.some D i xs st).get j=(St.some D' i xs st').get j
 | [],_,_,_,_,h=>h
 | x::xs,i,st,st',hk,h=>by
   rw [St.some,St.some];refine St.some_get_congr D D' j xs (i+1) _ _ (λ k y hy hd=>by have:=hk (k+1) y (by simpa using hy) hd; rwa [show i+(k+1)=i+1+k by omega] at this) ?_
   by_cases hx : x.dst=Option.some j
   .have:=hk 0 x rfl hx
    rw [Ua] at this;rw [this];split
    .rw [St.get_app,St.get_app,if_pos hx,if_pos hx]
    .exact h
   .have e : ∀ s : St,∀ b : Bool,(if b then s.app x else s).get j=s.get j:=by
     intro s b
     cases b
     .rfl
     .simp [St.get_app,hx]
    rw [e,e];exact h
theorem St.some_hp_congr (D D' : Nat->Bool) (j : Nat) : ∀ (xs : List Item) (i : Nat) (st st' : St),(∀ k x,xs[k]? = Option.some x->lkp x.up j≠none->D (i+k)=D' (i+k))->st.hp j=st'.hp j ->
  (St.some D i xs st).hp j=(St.some D' i xs st').hp j
 | [],_,_,_,_,h=>h
 | x::xs,i,st,st',hk,h=>by
   rw [St.some,St.some];refine St.some_hp_congr D D' j xs (i+1) _ _ (λ k y hy hd=>by have:=hk (k+1) y (by simpa using hy) hd; rwa [show i+(k+1)=i+1+k by omega] at this) ?_
   by_cases hx : lkp x.up j=none
   .have e : ∀ s : St,∀ b : Bool,(if b then s.app x else s).hp j=s.hp j:=by
     intro s b
     cases b
     .rfl
     .simp [St.hp_app,hx]
    rw [e,e];exact h
   .have:=hk 0 x rfl hx
    rw [Ua] at this;rw [this];split
    .rw [St.hp_app,St.hp_app]
     cases hl : lkp x.up j with
     | none=>exact absurd hl hx
     | some r=>rfl
    .exact h
theorem St.some_get_last (D : Nat->Bool) (j : Nat) : ∀ (xs : List Item) (i : Nat) (st : St) (k : Nat) (x : Item),xs[k]? = Option.some x->x.dst=Option.some j->D (i+k)=true ->
  (∀ k' y,k<k'->xs[k']? = Option.some y->y.dst=Option.some j->D (i+k')=false)->(St.some D i xs st).get j=x.v
 | [],_,_,_,_,h,_,_,_=>by simp at h
 | y::xs,i,st,0,x,h,hd,hD,hlast=>by
   obtain rfl : y=x:=by simpa using h
   rw [St.some];rw [St.some_get_congr D (λ _=>false) j xs (i+1) _ (st.app y) (λ k z hz hzd=>by have:=hlast (k+1) z (by omega) (by simpa using hz) hzd; rwa [show i+(k+1)=i+1+k by omega] at this) (by rw [Ua] at hD; rw [if_pos hD])]
   have : ∀ (xs : List Item) (i : Nat) (s : St),St.some (λ _=>false) i xs s=s:=by
    intro xs
    induction xs with
    | nil=>intro i s; rfl
    | cons z zs ih=>intro i s; rw [St.some]; exact ih _ _
   rw [this,St.get_app,if_pos hd]
 | y::xs,i,st,k+1,x,h,hd,hD,hlast=>by
   rw [St.some]
   exact St.some_get_last D j xs (i+1) _ k x (by simpa using h) hd (by rwa [show i+1+k=i+(k+1) by omega]) λ k' z hlt hz hzd=>by
    have:=hlast (k'+1) z (by omega) (by simpa using hz) hzd
    rwa [show i+(k'+1)=i+1+k' by omega] at this
theorem St.some_false : ∀ (xs : List Item) (i : Nat) (s : St),St.some (λ _=>false) i xs s=s
 | [],_,_=>rfl
 | _::zs,i,s=>by rw [St.some]; exact St.some_false zs _ _
theorem St.some_hp_last (D : Nat->Bool) (j : Nat) : ∀ (xs : List Item) (i : Nat) (st : St) (k : Nat) (x : Item) (r : Option Ent),xs[k]? = Option.some x->lkp x.up j=Option.some r->D (i+k)=true ->
  (∀ k' y,k<k'->xs[k']? = Option.some y->lkp y.up j≠none->D (i+k')=false)->(St.some D i xs st).hp j=r
 | [],_,_,_,_,_,h,_,_,_=>by simp at h
 | y::xs,i,st,0,x,r,h,hd,hD,hlast=>by
   obtain rfl : y=x:=by simpa using h
   rw [St.some];rw [St.some_hp_congr D (λ _=>false) j xs (i+1) _ (st.app y) (λ k z hz hzd=>by have:=hlast (k+1) z (by omega) (by simpa using hz) hzd; rwa [show i+(k+1)=i+1+k by omega] at this) (by rw [Ua] at hD; rw [if_pos hD])]
   rw [St.some_false,St.hp_app,hd];rfl
 | y::xs,i,st,k+1,x,r,h,hd,hD,hlast=>by
   rw [St.some]
   exact St.some_hp_last D j xs (i+1) _ k x r (by simpa using h) hd (by rwa [show i+1+k=i+(k+1) by omega]) λ k' z hlt hz hzd=>by
    have:=hlast (k'+1) z (by omega) (by simpa using hz) hzd
    rwa [show i+(k'+1)=i+1+k' by omega] at this
theorem St.some_take (k : Nat) : ∀ (xs : List Item) (i : Nat) (s : St),St.some (λ j=>decide (j<k)) i xs s=St.some (λ _=>true) i (xs.take (k - i)) s
 | [],i,s=>by simp [St.some]
 | x::xs,i,s=>by
   by_cases h : i<k
   .rw [show k - i=(k - (i+1))+1 by omega,List.take_succ_cons,St.some,St.some,St.some_take k xs (i+1)]
    simp [h]
   .rw [show k - i=0 by omega,List.take_zero,St.some,St.some]
    have e : (if decide (i<k)=true then s.app x else s)=s:=by simp [h]
    rw [e,St.some_take k xs (i+1),show k - (i+1)=0 by omega,List.take_zero]
    rfl
inductive Reach (after : List (List Nat)) : Nat->Nat->Prop where
 | one (i j : Nat) (h : i∈after.getD j []) : Reach after i j
 | more (i k j : Nat) (h : Reach after i k) (h' : k∈after.getD j []) : Reach after i j
theorem zjx (acc : List Nat) (q : Nat->Prop) : ∀ (aS : List Nat) (s : Nat),(∀ i,s.testBit i=true->q i)->(∀ a∈aS,q a /\ ∀ i,(acc.getD a 0).testBit i=true->q i) ->
  ∀ i,(aS.foldl (λ s a=>s ||| (2 ^ a ||| acc.getD a 0)) s).testBit i=true->q i
 | [],s,hs,_,i,h=>hs i h
 | a::aS,s,hs,ha,i,h=>by
   refine zjx acc q aS _ (λ i hi=>?_) (λ b hb=>ha b (Qk _ hb)) i h;simp only [Nat.testBit_or,UK,Nat.testBit_two_pow,Qe] at hi;rcases hi with hi | hi | hi
   .exact hs i hi
   .subst hi; exact (ha a Qm).1
   .exact (ha a Qm).2 i hi
theorem zjA (after : List (List Nat)) : ∀ (j i : Nat),((zwK after).getD j 0).testBit i=true->Reach after i j:=by
 have key : ∀ (rest pre : List (List Nat)) (acc : List Nat),after=pre++rest->acc.length=pre.length->(∀ j i,(acc.getD j 0).testBit i=true->Reach after i j) ->
   ∀ j i,((rest.foldl (λ acc aS=>acc++[aS.foldl (λ s a=>s ||| (2 ^ a ||| acc.getD a 0)) 0]) acc).getD j 0).testBit i=true->Reach after i j:=by
  intro rest
  induction rest with
  | nil=>intro pre acc _ _ h; exact h
  | cons aS rest ih =>
    intro pre acc he hl h;refine ih (pre++[aS]) _ (by rw [he]; simp) (by simp [hl]) λ j i hji=>?_
    by_cases hj : j<acc.length
    .have : (acc++[aS.foldl (λ s a=>s ||| (2 ^ a ||| acc.getD a 0)) 0]).getD j 0=acc.getD j 0:=by simp [List.getD,QJ hj]
     rw [this] at hji;exact h j i hji
    .by_cases hj2 : j=acc.length
     .subst hj2
      have : (acc++[aS.foldl (λ s a=>s ||| (2 ^ a ||| acc.getD a 0)) 0]).getD acc.length 0=aS.foldl (λ s a=>s ||| (2 ^ a ||| acc.getD a 0)) 0:=by simp [List.getD]
      rw [this] at hji;have has : after.getD acc.length []=aS:=by rw [he,hl]; simp [List.getD]
      refine zjx acc (λ i=>Reach after i acc.length) aS 0 (λ i hi=>by simp at hi) (λ a ha=>⟨.one _ _ (by rw [has]; exact ha),λ i hi=>.more _ a _ (h a i hi) (by rw [has]; exact ha)⟩) i hji
     .have : (acc++[aS.foldl (λ s a=>s ||| (2 ^ a ||| acc.getD a 0)) 0]).getD j 0=0:=by
       simp only [List.getD];rw [Q3 (by simp; omega)]
       rfl
      rw [this] at hji;simp at hji
 exact key after [] [] rfl rfl λ j i h=>by simp [List.getD] at h
section
variable {P : Program} {np : Nat} {T0 : Nat->Nat} {M0 : GM} {w0 : World}
def One (P : Program) (np n i : Nat) (o : za7) (st : St) (x : Item) : Prop :=
 x.dst=o.dst /\
 match o.guard with
 | none=>aK P np (n+8*i) o.op (o.xs.map (·.ev st.get)) st.hp λ v' rd' up'=>v'=x.v/\rd'=x.rd/\up'=x.up
 | some (g,want)=>∃ b,gdV (st.get g)=some b/\if b=some want then aK P np (n+8*i) o.op (o.xs.map (·.ev st.get)) st.hp (λ v' rd' up'=>v'=x.v/\rd'=x.rd/\up'=x.up) else x.v = .tup []/\x.rd=[]/\x.up=[]
theorem St.some_true (i j : Nat) : ∀ (xs : List Item) (s : St),St.some (λ _=>true) i xs s=St.some (λ _=>true) j xs s
 | [],_=>rfl
 | x::xs,s=>by rw [St.some,St.some]; exact St.some_true (i+1) (j+1) xs _
theorem runs {n : Nat} {K : St->List (List Nat × List Nat)->Prop} : ∀ (os : List za7) (i : Nat) (st : St) (tr : List (List Nat × List Nat)),zaO P np n i os st tr K ->
  ∃ xs : List Item,xs.length=os.length/\(∀ (k : Nat) o x,os[k]? = some o->xs[k]? = some x->One P np n (i+k) o (St.some (λ _=>true) 0 (xs.take k) st) x) /\
    K (St.some (λ _=>true) 0 xs st) (tr++xs.map λ x=>(x.rd,x.up.map (·.1)))
 | [],i,st,tr,h=>⟨[],rfl,λ k o x h=>by simp at h,by simpa [St.some,zaO] using h⟩
 | o::os,i,st,tr,h=>by
   have fin : ∀ x : Item,One P np n i o st x->zaO P np n (i+1) os (st.app x) (tr++[(x.rd,x.up.map (·.1))]) K ->
     ∃ xs : List Item,xs.length=(o::os).length/\(∀ (k : Nat) o' x,(o::os)[k]? = some o'->xs[k]? = some x->One P np n (i+k) o' (St.some (λ _=>true) 0 (xs.take k) st) x) /\
       K (St.some (λ _=>true) 0 xs st) (tr++xs.map λ x=>(x.rd,x.up.map (·.1))):=by
    intro x hx hk;obtain ⟨xs,h1,h2,h3⟩:=runs os (i+1) _ _ hk;refine ⟨x::xs,by simp [h1],λ k o' x' ho hx'=>?_,?_⟩
    .cases k with
     | zero =>
       simp at ho hx';subst ho hx';exact hx
     | succ k =>
       have:=h2 k o' x' (by simpa using ho) (by simpa using hx')
       rw [show i+1+k=i+(k+1) by omega] at this
       rw [List.take_succ_cons,St.some,if_pos rfl,St.some_true 1 0];exact this
    .rw [St.some,if_pos rfl,St.some_true 1 0]
     simpa using h3
   simp only [zaO] at h
   cases hg : o.guard with
   | none =>
     rw [hg] at h;obtain ⟨v,rd,up,h1,h2⟩:=znY h;exact fin ⟨o.dst,v,rd,up⟩ ⟨rfl,by rw [hg]; exact h2⟩ h1
   | some p =>
     obtain ⟨g,want⟩:=p;rw [hg] at h;obtain ⟨b,hb,h⟩:=h
     by_cases hbw : b=some want
     .rw [if_pos hbw] at h
      obtain ⟨v,rd,up,h1,h2⟩:=znY h;exact fin ⟨o.dst,v,rd,up⟩ ⟨rfl,by rw [hg]; exact ⟨b,hb,by rw [if_pos hbw]; exact h2⟩⟩ h1
     .rw [if_neg hbw] at h
      exact fin ⟨o.dst,.tup [],[],[]⟩ ⟨rfl,by rw [hg]; exact ⟨b,hb,by rw [if_neg hbw]; exact ⟨rfl,rfl,rfl⟩⟩⟩ h
theorem zpD {ops : Array Oper} {n : Nat} (hnp : np<=n) {st : St} {Q : Exit->Act->World->Prop} {xs : List Item} (hxl : xs.length=ops.size)
  (hQ : ∀ st' T M a w,(∀ j,st'.get j=(St.some (λ _=>true) 0 xs st).get j)->(∀ j,st'.hp j=(St.some (λ _=>true) 0 xs st).hp j)->st'.sz=st.sz->Ok np T0 M0 w0 (zbL (n+8*ops.size)) st' T M a w->Q .normal a w)
  (hd : ∀ o∈ops,o.dst.all (· < st.sz)=true)
  (hone : ∀ (k : Nat) o x,(ops.toList.map (zav P ops))[k]? = some o->xs[k]? = some x->One P np n k o (St.some (λ _=>true) 0 (xs.take k) st) x)
  (hord : zcM (ops.toList.map (zav P ops)) (ops.toList.map λ o=>(o.after.toList.filter (Region.binds .any)).map (·.on)) (xs.map λ x=>(x.rd,x.up.map (·.1)))=true) :
  ∀ (fuel : Nat) (listed : Array Bool) (T : Nat->Nat) (M : GM) (a : Act) (w : World),listed.size=ops.size->listed.toList.countP (· == false)<=fuel ->
    (∀ j,listed.getD j false=true -> ∀ i∈(ops.toList.map λ o=>(o.after.toList.filter (Region.binds .any)).map (·.on)).getD j [],listed.getD i false=true) ->
    Ok np T0 M0 w0 (λ id=>id<n ∨ ∃ i,listed.getD i false=true/\n+8*i<=id/\id<n+8*i+8) (St.some (λ i=>listed.getD i false) 0 xs st) T M a w ->
    wpAny P .any ops Q fuel listed a w:=by
 generalize hA : (ops.toList.map λ o=>(o.after.toList.filter (Region.binds .any)).map (·.on))=after at *
 simp only [zcM,QT,List.all_eq_true,beq_iff_eq,Qt,Ul,Qe,QA,UK] at hord;obtain ⟨⟨hal,hacyc⟩,hpair⟩:=hord
 have hacyc' : ∀ j,∀ i∈after.getD j [],i<j:=by
  intro j i hi
  by_cases hj : j<after.length
  .have e : after.getD j []=after[j]:=by simp [List.getD,hj]
   rw [e] at hi;exact hacyc (after[j],j) (by rw [U6]; exact Qa hj) i hi
  .have e : after.getD j []=[]:=by simp [List.getD,hj]
   rw [e] at hi;simp at hi
 have hget : ∀ k (h : k<ops.size),(ops.toList.map (zav P ops))[k]? = some (zav P ops ops[k]):=λ k h=>by simp [h]
 have htouch : ∀ i j,i<ops.size->j<ops.size->i≠j->(Reach after i j∨Reach after j i) ∨
   (∀ (hi : i<ops.size) (hj : j<ops.size),zch (zav P ops ops[i]) (zav P ops ops[j]) ((xs.getD i ⟨none,.dead,[],[]⟩).rd,(xs.getD i ⟨none,.dead,[],[]⟩).up.map (·.1)) ((xs.getD j ⟨none,.dead,[],[]⟩).rd,(xs.getD j ⟨none,.dead,[],[]⟩).up.map (·.1))=true ∨
    zch (zav P ops ops[j]) (zav P ops ops[i]) ((xs.getD j ⟨none,.dead,[],[]⟩).rd,(xs.getD j ⟨none,.dead,[],[]⟩).up.map (·.1)) ((xs.getD i ⟨none,.dead,[],[]⟩).rd,(xs.getD i ⟨none,.dead,[],[]⟩).up.map (·.1))=true):=by
  intro i j hi hj hne
  have getx : ∀ k,k<ops.size->(xs.map λ x=>(x.rd,x.up.map (·.1))).getD k ([],[])=((xs.getD k ⟨none,.dead,[],[]⟩).rd,(xs.getD k ⟨none,.dead,[],[]⟩).up.map (·.1)):=λ k hk=>by
   have : k<xs.length:=by omega
   simp [List.getD,this]
  have geto : ∀ k (hk : k<ops.size),(ops.toList.map (zav P ops)).getD k default=zav P ops ops[k]:=λ k hk=>by simp [List.getD,hk]
  rcases Ug i j with h | h
  .have:=hpair j hj i h
   rcases this with this | this
   .exact .inl (.inl (zjA after j i this))
   .rw [getx i hi,getx j hj,geto i hi,geto j hj] at this
    exact .inr λ _ _=>.inl this
  .have:=hpair i hi j (by omega)
   rcases this with this | this
   .exact .inl (.inr (zjA after i j this))
   .rw [getx i hi,getx j hj,geto i hi,geto j hj] at this
    exact .inr λ _ _=>.inr this
 have hgx : ∀ (k : Nat) x,xs[k]? = some x->xs.getD k ⟨none,.dead,[],[]⟩=x:=λ k x h=>by simp [List.getD,h]
 have hdstx : ∀ (k : Nat) x (hk : k<ops.size),xs[k]? = some x->x.dst=(zav P ops ops[k]).dst:=λ k x hk h=>(hone k _ x (hget k hk) h).1;have hcompd : ∀ (o : Oper),(zav P ops o).dst=o.dst:=λ o=>zcq.1;intro fuel
 induction fuel with
 | zero =>
   intro listed T M a w hsz hcount hclosed ok
   have hall : ∀ i,i<ops.size->listed.getD i false=true:=by
    intro i hi
    cases hb : listed.getD i false with
    | true=>rfl
    | false =>
      have : 0<listed.toList.countP (· == false):=by
       rw [List.countP_pos_iff];refine ⟨false,?_,rfl⟩;have hi' : i<listed.size:=by omega
       have : listed[i]=false:=by simpa [Array.getD,hi'] using hb
       rw [<- this];simp
      omega
   refine ⟨?_,?_⟩
   .simp only [Region.ready,List.filter_eq_nil_iff,QA]
    intro i hi;have h1:=hall i hi;have hi' : i<listed.size:=by omega
    have h2 : listed.getD i true=true:=by
     simp only [Array.getD,hi',dite_true] at h1 ⊢;exact h1
    rw [h2];simp
   .refine hQ _ T M a w (λ j=>?_) (λ j=>?_) (St.some_sz _ _ _ _) (ok.wider λ id hid=>?_)
    .refine St.some_get_congr _ _ j xs 0 st st (λ k x hk hx=>?_) rfl
     have:=(Qy.1 hk).1;rw [Q0];exact hall k (by omega)
    .refine St.some_hp_congr _ _ j xs 0 st st (λ k x hk hx=>?_) rfl
     have:=(Qy.1 hk).1;rw [Q0];exact hall k (by omega)
    .show id<n+8*ops.size
     rcases hid with hid | ⟨i,h1,h2,h3⟩
     .omega
     .have : i<ops.size:=by
       rcases Ug i ops.size with h | h
       .exact h
       .have : listed.getD i false=false:=by simp [Array.getD,show ¬ i<listed.size by omega]
        rw [this] at h1; cases h1
      omega
 | succ fuel ih =>
   intro listed T M a w hsz hcount hclosed ok;refine ⟨λ hready=>?_,λ k hk=>?_⟩
   .
    have hall : ∀ i,i<ops.size->listed.getD i false=true:=by
     intro i
     induction i using Nat.strongRecOn with
     | _ i ihi =>
       intro hi
       cases hb : listed.getD i false with
       | true=>rfl
       | false =>
         exfalso
         have hi' : i<listed.size:=by omega
         have hbi : listed[i]=false:=by simpa [Array.getD,hi'] using hb
         have : i∈Region.ready .any ops listed:=by
          simp only [Region.ready,Qw,QA,QT,UA];refine ⟨hi,by simp [Array.getD,hi',hbi],?_⟩
          rw [Array.getElem?_eq_getElem hi];simp only [Q7,Qz,Array.all_eq_true_iff_forall_mem];intro e he
          by_cases hb : Region.binds .any e=true
          .have hin : e.on∈after.getD i []:=by
            rw [<- hA];have : (ops.toList.map λ o=>(o.after.toList.filter (Region.binds .any)).map (·.on)).getD i []=(ops[i].after.toList.filter (Region.binds .any)).map (·.on):=by simp [List.getD,hi]
            rw [this];exact Qg.2 ⟨e,Qw.2 ⟨by simpa using he,hb⟩,rfl⟩
           have hlt:=hacyc' i _ hin;simp [ihi _ hlt (by omega)]
          .simp [hb]
         rw [hready] at this;simp at this
    refine hQ _ T M a w (λ j=>?_) (λ j=>?_) (St.some_sz _ _ _ _) (ok.wider λ id hid=>?_)
    .refine St.some_get_congr _ _ j xs 0 st st (λ k x hk hx=>?_) rfl
     have:=(Qy.1 hk).1;rw [Q0];exact hall k (by omega)
    .refine St.some_hp_congr _ _ j xs 0 st st (λ k x hk hx=>?_) rfl
     have:=(Qy.1 hk).1;rw [Q0];exact hall k (by omega)
    .show id<n+8*ops.size
     rcases hid with hid | ⟨i,h1,h2,h3⟩
     .omega
     .have : i<ops.size:=by
       rcases Ug i ops.size with h | h
       .exact h
       .have : listed.getD i false=false:=by simp [Array.getD,show ¬ i<listed.size by omega]
        rw [this] at h1; cases h1
      omega
   .
    simp only [Region.ready,Qw,QA,QT,UA] at hk;obtain ⟨hkl,hkf,hka⟩:=hk;have hk' : k<listed.size:=by omega
    have hkf' : listed[k]=false:=by simpa [Array.getD,hk'] using hkf
    have hkF : listed.getD k false=false:=by simp [Array.getD,hk',hkf']
    rw [Array.getElem?_eq_getElem hkl] at hka;simp only [Q7,Qz,Array.all_eq_true_iff_forall_mem] at hka
    have hafter : ∀ i∈after.getD k [],listed.getD i false=true:=by
     intro i hi;rw [<- hA] at hi;have e : (ops.toList.map λ o=>(o.after.toList.filter (Region.binds .any)).map (·.on)).getD k []=(ops[k].after.toList.filter (Region.binds .any)).map (·.on):=by simp [List.getD,hkl]
     rw [e] at hi;obtain ⟨ed,h1,rfl⟩:=Qg.1 hi;obtain ⟨h2,h3⟩:=Qw.1 h1;have:=hka ed (by simpa using h2)
     simpa [h3] using this
    have hreach1 : ∀ i j,Reach after i j->(listed.getD j false=true∨j=k)->listed.getD i false=true:=by
     intro i j hr
     induction hr with
     | one j h =>
       rintro (h1 | rfl)
       .exact hclosed j h1 i h
       .exact hafter i h
     | more m j h1 h2 ihr =>
       rintro (h3 | rfl)
       .exact ihr (.inl (hclosed j h3 m h2))
       .exact ihr (.inl (hafter m h2))
    have hreach2 : ∀ j,Reach after k j->listed.getD j false=false:=by
     intro j hr
     cases hb : listed.getD j false with
     | false=>rfl
     | true=>rw [hreach1 k j hr (.inl hb)] at hkF; cases hkF
    have hreachlt : ∀ i j,Reach after i j->i<j:=by
     intro i j hr
     induction hr with
     | one j h=>exact hacyc' j i h
     | more m j h1 h2 ihr=>have:=hacyc' j m h2; omega
    have hfix : ∀ i x,i≠k->xs[i]? = some x->(∀ hi : i<ops.size,zch (zav P ops ops[i]) (zav P ops ops[k]) (x.rd,x.up.map (·.1)) ((xs.getD k ⟨none,.dead,[],[]⟩).rd,(xs.getD k ⟨none,.dead,[],[]⟩).up.map (·.1))=false /\
      zch (zav P ops ops[k]) (zav P ops ops[i]) ((xs.getD k ⟨none,.dead,[],[]⟩).rd,(xs.getD k ⟨none,.dead,[],[]⟩).up.map (·.1)) (x.rd,x.up.map (·.1))=false)->listed.getD i false=decide (i<k):=by
     intro i x hne hx hap;have hi : i<ops.size:=by have:=(Qy.1 hx).1; omega
     obtain ⟨p1,p2⟩:=hap hi;rcases htouch i k hi hkl hne with (h | h) | h
     .have hlt:=hreachlt _ _ h
      rw [hreach1 i k h (.inr rfl)];simp [hlt]
     .have hlt:=hreachlt _ _ h
      rw [hreach2 i h];simp;omega
     .rcases h hi hkl with h | h
      .rw [hgx i x hx] at h; rw [h] at p1; cases p1
      .rw [hgx i x hx] at h; rw [h] at p2; cases p2
    obtain ⟨xk,hxk⟩ : ∃ xk,xs[k]? = some xk:=⟨_,Qa (by omega)⟩
    have hxk':=hgx k xk hxk;have hO:=hone k _ xk (hget k hkl) hxk;rw [hxk'] at hfix
    have hnames : ∀ t,t∈(zav P ops ops[k]).names->(St.some (λ i=>listed.getD i false) 0 xs st).get t=(St.some (λ _=>true) 0 (xs.take k) st).get t∨(zav P ops ops[k]).dst=some t/\False ∨
      (St.some (λ i=>listed.getD i false) 0 xs st).get t=(St.some (λ _=>true) 0 (xs.take k) st).get t:=by
     intro t ht
     left
     have e:=St.some_take k xs 0 st;rw [Nat.sub_zero] at e;rw [<- e];refine St.some_get_congr _ _ t xs 0 st st (λ i x hx hxd=>?_) rfl;rw [Q0]
     by_cases hik : i=k
     .subst hik; rw [hkF]; simp
     .refine hfix i x hik hx λ hi=>?_
      have hdi : (zav P ops ops[i]).dst=some t:=by rw [<- hdstx i x hi hx]; exact hxd
      constructor
      .simp [zch,hdi,ht]
      .simp [zch,hdi,ht]
    have hgets : ∀ t,t∈(zav P ops ops[k]).names->(St.some (λ i=>listed.getD i false) 0 xs st).get t=(St.some (λ _=>true) 0 (xs.take k) st).get t:=λ t ht=>by
     rcases hnames t ht with h | h | h
     .exact h
     .exact h.2.elim
     .exact h
    have hreads : ∀ id∈xk.rd,(St.some (λ i=>listed.getD i false) 0 xs st).hp id=(St.some (λ _=>true) 0 (xs.take k) st).hp id:=by
     intro id hid;have e:=St.some_take k xs 0 st;rw [Nat.sub_zero] at e;rw [<- e];refine St.some_hp_congr _ _ id xs 0 st st (λ i x hx hxu=>?_) rfl;rw [Q0]
     by_cases hik : i=k
     .subst hik; rw [hkF]; simp
     .refine hfix i x hik hx λ hi=>?_
      have hin : id∈x.up.map (·.1):=by
       cases hl : lkp x.up id with
       | none=>exact absurd hl hxu
       | some r=>exact Qg.2 ⟨_,zaR hl,rfl⟩
      constructor
      .have : zlq (x.rd,x.up.map (·.1)) (xk.rd,xk.up.map (·.1))=true:=by
        simp only [zlq,UK,Uq];exact .inl ⟨id,hin,.inl (by simpa using hid)⟩
       simp [zch,this]
      .have : zlq (xk.rd,xk.up.map (·.1)) (x.rd,x.up.map (·.1))=true:=by
        simp only [zlq,UK,Uq];exact .inr ⟨id,hid,by simpa using hin⟩
       simp [zch,this]
    have hsetD : ∀ i,(listed.setIfInBounds k true).getD i false=if i=k then true else listed.getD i false:=by
     intro i
     by_cases hik : i=k
     .subst hik; simp [Array.getD,hk']
     .rw [if_neg hik]
      simp only [QD];rw [Array.getElem?_setIfInBounds_ne (Ne.symm hik)]
    have hstep : ∀ T' M' a' w',Ok np T0 M0 w0 (λ id=>(id<n ∨ ∃ i,listed.getD i false=true/\n+8*i<=id/\id<n+8*i+8)∨(n+8*k<=id/\id<n+8*k+8)) ((St.some (λ i=>listed.getD i false) 0 xs st).app xk) T' M' a' w' ->
      wpAny P .any ops Q fuel (listed.setIfInBounds k true) a' w':=by
     intro T' M' a' w' ok';refine ih (listed.setIfInBounds k true) T' M' a' w' (by simpa using hsz) ?_ (λ j hj i hi=>?_) ?_
     .rw [Array.toList_setIfInBounds,List.countP_set (by simpa using hk')]
      have : listed.toList[k]'(by simpa using hk')=false:=by simpa using hkf'
      rw [this];show listed.toList.countP (· == false) - 1+0<=fuel
      omega
     .rw [hsetD] at hj ⊢
      split
      .rfl
      .split at hj
       .rename_i hjk; subst hjk; exact hafter i hi
       .exact hclosed j hj i hi
     .refine (ok'.ext (St.some_sz _ _ _ _ |>.trans (St.app_sz _ _ |>.trans (St.some_sz _ _ _ _)).symm) (λ t=>?_) (λ id=>?_)).wider λ id hid=>?_
      .rw [St.get_app]
       split
       .rename_i hdt
        refine St.some_get_last _ t xs 0 st k xk hxk hdt (by rw [Q0,hsetD,if_pos rfl]) λ i x hlt hx hxd=>?_
        rw [Q0,hsetD,if_neg (by omega)]
        have hdk : (zav P ops ops[k]).dst=some t:=by rw [<- hdstx k xk hkl hxk]; exact hdt
        have:=hfix i x (by omega) hx λ hi=>by
         have hdi : (zav P ops ops[i]).dst=some t:=by rw [<- hdstx i x hi hx]; exact hxd
         have hmem : t∈(zav P ops ops[k]).names:=by simp [za7.names,hdk]
         constructor
         .simp [zch,hdi,hmem]
         .simp [zch,hdi,hmem]
        rw [this];simp;omega
       .rename_i hdt
        refine St.some_get_congr _ _ t xs 0 st st (λ i x hx hxd=>?_) rfl;rw [Q0,hsetD,if_neg]
        rintro rfl
        rw [hxk] at hx
        cases hx;exact hdt hxd
      .rw [St.hp_app]
       cases hl : lkp xk.up id with
       | some r =>
         refine St.some_hp_last _ id xs 0 st k xk r hxk hl (by rw [Q0,hsetD,if_pos rfl]) λ i x hlt hx hxu=>?_
         rw [Q0,hsetD,if_neg (by omega)]
         have hin : id∈x.up.map (·.1):=by
          cases hl : lkp x.up id with
          | none=>exact absurd hl hxu
          | some r=>exact Qg.2 ⟨_,zaR hl,rfl⟩
         have hin' : id∈xk.up.map (·.1):=Qg.2 ⟨_,zaR hl,rfl⟩
         have:=hfix i x (by omega) hx λ hi=>by
          constructor
          .have : zlq (x.rd,x.up.map (·.1)) (xk.rd,xk.up.map (·.1))=true:=by
            simp only [zlq,UK,Uq];exact .inl ⟨id,hin,.inr (by simpa using hin')⟩
           simp [zch,this]
          .have : zlq (xk.rd,xk.up.map (·.1)) (x.rd,x.up.map (·.1))=true:=by
            simp only [zlq,UK,Uq];exact .inl ⟨id,hin',.inr (by simpa using hin)⟩
           simp [zch,this]
         rw [this];simp;omega
       | none =>
         refine St.some_hp_congr _ _ id xs 0 st st (λ i x hx hxu=>?_) rfl;rw [Q0,hsetD,if_neg]
         rintro rfl
         rw [hxk] at hx
         cases hx;exact hxu hl
      .rcases hid with (hid | ⟨i,h1,h2⟩) | hid
       .exact .inl hid
       .refine .inr ⟨i,?_,h2⟩
        rw [hsetD];split
        .rfl
        .exact h1
       .exact .inr ⟨k,by rw [hsetD,if_pos rfl],hid⟩
    have hfresh : ∀ q,q<8->¬ (n+8*k+q<n ∨ ∃ i,listed.getD i false=true/\n+8*i<=n+8*k+q/\n+8*k+q<n+8*i+8):=by
     rintro q hq (h | ⟨i,h1,h2,h3⟩)
     .omega
     .have : i=k:=by omega
      subst this;rw [hkF] at h1
      cases h1
    have ho : ops[k]? = some ops[k]:=Array.getElem?_eq_getElem hkl;have hdk : ops[k].dst.all (· < (St.some (λ i=>listed.getD i false) 0 xs st).sz)=true:=by rw [St.some_sz]; exact hd _ (Array.getElem_mem hkl)
    simp only [wpOp,ho]
    have hxs : (zav P ops ops[k]).xs.map (·.ev (St.some (λ i=>listed.getD i false) 0 xs st).get)=(zav P ops ops[k]).xs.map (·.ev (St.some (λ _=>true) 0 (xs.take k) st).get):=by
     refine QG λ x hx=>?_
     cases x with
     | t i =>
       refine hgets i ?_;simp only [za7.names,Qo,Vb];exact .inl (.inl ⟨_,hx,rfl⟩)
     | _=>rfl
    have run : (aK P np (n+8*k) (zav P ops ops[k]).op ((zav P ops ops[k]).xs.map (·.ev (St.some (λ _=>true) 0 (xs.take k) st).get)) (St.some (λ _=>true) 0 (xs.take k) st).hp λ v' rd' up'=>v'=xk.v/\rd'=xk.rd/\up'=xk.up) ->
      (zav P ops ops[k]).op=(zaz P ops[k]).1->(zav P ops ops[k]).xs=(zaz P ops[k]).2->ops[k].wp P a w (wpAny P .any ops Q fuel (listed.setIfInBounds k true)) Q:=by
     intro hk hop hxo;have hk2:=ztJ (h':=(St.some (λ i=>listed.getD i false) 0 xs st).hp) hk hreads;rw [<- hxs,hop,hxo] at hk2;obtain ⟨v,rd,up,⟨rfl,rfl,rfl⟩,h2⟩:=zoy ok.tm ok.mem (idb:=n+8*k) hfresh (by omega) ops[k] _ hk2
     refine zuZ ok hdk h2 λ T' M' a' w' ok'=>?_;refine hstep T' M' a' w' ?_
     have e : (St.some (λ i=>listed.getD i false) 0 xs st).app xk=((St.some (λ i=>listed.getD i false) 0 xs st).put ops[k].dst xk.v).upd xk.up:=by
      unfold St.app;rw [hdstx k xk hkl hxk,hcompd]
     rw [e];exact ok'
    obtain ⟨hdst,hc⟩:=zcq (P:=P) (ops:=ops) (o:=ops[k]);obtain ⟨hO1,hO2⟩:=hO;rcases hc with ⟨g1,g2,g3,g4⟩ | ⟨j,want,d,g1,g2,g3,g4,g5⟩ | ⟨g1,g2,g3⟩
    .rw [g2] at hO2
     have hwd : Region.wanted ops[k] (yielded ops a.tmps)=true:=by simp [Region.wanted,g1]
     rw [if_pos hwd];exact .inl (run hO2 g3 g4)
    .rw [g3] at hO2
     obtain ⟨b,hb,hO2⟩:=hO2
     have hb' : gdV ((St.some (λ i=>listed.getD i false) 0 xs st).get d)=some b:=by
      rw [hgets d (by simp [za7.names,g3])]
      exact hb
     have hwd:=zj0 ok.tm g1 g2 hb';rw [hwd]
     by_cases hbw : b=some want
     .subst hbw
      simp only [UY,beq_self_eq_true] at hO2 ⊢;exact .inl (run hO2 g4 g5)
     .rw [if_neg hbw] at hO2
      rw [if_neg (by simpa using hbw)]
      obtain ⟨e1,e2,e3⟩:=hO2;refine hstep T M (a.put ops[k].dst undef) w ?_
      have e : (St.some (λ i=>listed.getD i false) 0 xs st).app xk=(St.some (λ i=>listed.getD i false) 0 xs st).put ops[k].dst (.tup []):=by
       unfold St.app;rw [hdstx k xk hkl hxk,hcompd,e1,e3];rfl
      rw [e];refine ⟨by rw [zkp,St.sz_put]; exact ok.sz,by rw [zgo]; exact ok.df,zrV ok.sz ok.tm hdk (.tup _ [] #[] rfl (λ i hi=>by simp at hi)),?_,λ id g hg=>.inl (ok.dom id g hg),ok.after⟩
      have e : ((St.some (λ i=>listed.getD i false) 0 xs st).put ops[k].dst (.tup [])).hp=(St.some (λ i=>listed.getD i false) 0 xs st).hp:=by funext q; rw [St.hp_put]
      rw [e]; exact ok.hs
    .rw [g1,g2,g3] at hO2
     exact False.elim hO2
end
def zxK : Exit->zci->Prop
 | .normal,.normal=>True
 | .exit i,.exit j=>i=j
 | .ret,.ret=>True
 | _,_=>False
section
variable {P : Program} {np : Nat} {T0 : Nat->Nat} {M0 : GM} {w0 : World}
def Post (np : Nat) (T0 : Nat->Nat) (M0 : GM) (w0 : World) (Q : zci->St->Prop) : Exit->Act->World->Prop :=
 λ e a w=>∃ e' st T M,zxK e e'/\Ok np T0 M0 w0 (zbL st.n) st T M a w/\np<=st.n/\Q e' st
theorem zbX (hm : P.follows .mixedOrders=true) : ∀ (c : Code) (Q : zci->St->Prop) (st : St) (T : Nat->Nat) (M : GM) (a : Act) (w : World),
  awp P np (comp P c) Q st->Ok np T0 M0 w0 (zbL st.n) st T M a w->np<=st.n->c.wp P (Post np T0 M0 w0 Q) a w
 | .skip,Q,st,T,M,a,w,h,ok,hn=>wp_skip ⟨.normal,st,T,M,trivial,ok,hn,h⟩
 | .exit id,Q,st,T,M,a,w,h,ok,hn=>wp_exit ⟨.exit id,st,T,M,rfl,ok,hn,h⟩
 | .ret,Q,st,T,M,a,w,h,ok,hn=>wp_ret ⟨.ret,st,T,M,trivial,ok,hn,h⟩
 | .seq x y,Q,st,T,M,a,w,h,ok,hn=>by
   refine wp_seq (wp_mono (zbX hm x _ st T M a w h ok hn) ?_)
   rintro e a' w' ⟨e',st',T',M',he,ok',hn',hq⟩
   cases e <;> cases e' <;> (try (exact False.elim he))
   .obtain ⟨st2,hle,h2⟩:=hq
    obtain ⟨T2,M2,ok2,hn2⟩:=hle _ _ _ _ _ _ _ ok' hn';exact zbX hm y Q st2 T2 M2 a' w' h2 ok2 hn2
   .exact ⟨_,st',T',M',he,ok',hn',hq⟩
   .exact ⟨_,st',T',M',he,ok',hn',hq⟩
 | .cond c x y,Q,st,T,M,a,w,h,ok,hn=>by
   obtain ⟨t,ht,h⟩:=h;have hc:=zaY (zaB ok.tm c) ht;refine wp_cond hc ?_
   cases t
   .exact zbX hm y Q st T M a w h ok hn
   .exact zbX hm x Q st T M a w h ok hn
 | .block id x,Q,st,T,M,a,w,h,ok,hn=>by
   refine wp_block (wp_mono (zbX hm x _ st T M a w h ok hn) ?_)
   rintro e a' w' ⟨e',st',T',M',he,ok',hn',hq⟩
   cases e <;> cases e' <;> (try (exact False.elim he))
   .exact ⟨_,st',T',M',he,ok',hn',hq⟩
   .rename_i i j
    have he : i=j:=he;subst he
    by_cases hid : i=id
    .simp only [Exit.inBlock,if_pos hid]
     simp only [if_pos hid] at hq;exact ⟨.normal,st',T',M',trivial,ok',hn',hq⟩
    .simp only [Exit.inBlock,if_neg hid]
     simp only [if_neg hid] at hq;exact ⟨.exit i,st',T',M',rfl,ok',hn',hq⟩
   .exact ⟨_,st',T',M',he,ok',hn',hq⟩
 | .loop x,Q,st,T,M,a,w,h,ok,hn=>by
   obtain ⟨I,⟨st0,k0,hle,hI⟩,hround⟩:=h;obtain ⟨T1,M1,ok1,hn1⟩:=hle _ _ _ _ _ _ _ ok hn;refine wp_loop_ghost (λ k a w=>∃ s T M,I k s/\Ok np T0 M0 w0 (zbL s.n) s T M a w/\np<=s.n) k0 ⟨st0,T1,M1,hI,ok1,hn1⟩ ?_
   rintro k a' w' ⟨s,T',M',hIs,ok',hn'⟩
   refine wp_mono (zbX hm x _ s T' M' a' w' (hround k s hIs) ok' hn') ?_
   rintro e a2 w2 ⟨e',st',T2,M2,he,ok2,hn2,hq⟩
   cases e <;> cases e' <;> (try (exact False.elim he))
   .obtain ⟨st2,k2,hle2,hI2,hlt⟩:=hq
    obtain ⟨T3,M3,ok3,hn3⟩:=hle2 _ _ _ _ _ _ _ ok2 hn2;exact ⟨k2,hlt,st2,T3,M3,hI2,ok3,hn3⟩
   .exact ⟨_,st',T2,M2,he,ok2,hn2,hq⟩
   .exact ⟨_,st',T2,M2,he,ok2,hn2,hq⟩
 | .region id ops draw,Q,st,T,M,a,w,h,ok,hn=>by
   obtain ⟨hd,h⟩:=h
   have hd' : ∀ o∈ops,o.dst.all (· < st.sz)=true:=by
    intro o ho;have:=List.all_eq_true.1 hd (zav P ops o) (Qg.2 ⟨o,by simpa using ho,rfl⟩)
    rwa [zcq.1] at this
   have hlen : (ops.toList.map (zav P ops)).length=ops.size:=by simp
   cases draw with
   | false =>
     refine wp_region ?_;rw [List.range_eq_range']
     refine zem (n:=st.n) hn (Q:=Post np T0 M0 w0 Q) (K:=λ st' tr=>(false=true->zcM (ops.toList.map (zav P ops)) [] tr=true)/\Q .normal { st' with n:=st.n+8*(ops.toList.map (zav P ops)).length })
      (λ st' tr T' M' a' w' hk ok'=>?_) ops.size 0 st [] T M a w (by omega) hd' (by simpa using ok) h
     rw [hlen] at hk;refine ⟨.normal,{ st' with n:=st.n+8*ops.size },T',M',trivial,?_,by show np<=st.n+8*ops.size; omega,hk.2⟩
     exact ⟨ok'.sz,ok'.df,ok'.tm,ok'.hs,ok'.dom,ok'.after⟩
   | true =>
     refine wp_region_any hm ?_;obtain ⟨xs,h1,h2,h3⟩:=runs _ 0 st [] h;obtain ⟨h4,h5⟩:=h3;rw [hlen] at h1 h5;have hord:=h4 rfl;obtain ⟨hmem,hpres⟩:=ok.mem.draw (w1:={ w with drawn:=w.drawn+1 }) rfl rfl rfl rfl
     have okd : Ok np T0 M0 w0 (zbL st.n) st T M a { w with drawn:=w.drawn+1 } :=
      ⟨ok.sz,ok.df,λ i=>(ok.tm i).mono hpres λ _ _ e=>e,hmem.hs,hmem.dom,hmem.after⟩
     refine zpD (T0:=T0) (M0:=M0) (w0:=w0) (n:=st.n) hn h1 (Q:=Post np T0 M0 w0 Q) (λ st' T' M' a' w' g1 g2 g3 ok'=>?_) hd' (λ k o x ho hx=>by have:=h2 k o x ho hx; rwa [Q0] at this) (by simpa using hord) ops.size _ T M a _ (by simp) ?_ (λ j hj=>?_) ?_
     .refine ⟨.normal,{ (St.some (λ _=>true) 0 xs st) with n:=st.n+8*ops.size },T',M',trivial,?_,by show np<=st.n+8*ops.size; omega,h5⟩
      have:=ok'.ext (st':={ (St.some (λ _=>true) 0 xs st) with n:=st.n+8*ops.size }) ((St.some_sz _ _ _ _).trans g3.symm) (λ i=>(g1 i).symm) (λ i=>(g2 i).symm);exact ⟨this.sz,this.df,this.tm,this.hs,this.dom,this.after⟩
     .have : (Array.replicate ops.size false).toList.countP (· == false)<=(Array.replicate ops.size false).toList.length:=List.countP_le_length
      simpa using this
     .have : (Array.replicate ops.size false).getD j false=false:=by simp only [QD,Array.getElem?_replicate]; split <;> rfl
      rw [this] at hj
      cases hj
     .have e : St.some (λ i=>(Array.replicate ops.size false).getD i false) 0 xs st=st:=by
       have : (λ i=>(Array.replicate ops.size false).getD i false)=λ _=>false:=by
        funext j
        simp only [QD,Array.getElem?_replicate];split <;> rfl
       rw [this,St.some_false]
      rw [e];exact okd.wider λ id hid=>.inl hid
 | .rangeFunc ..,Q,st,T,M,a,w,h,ok,hn=>False.elim h
 | .scope x,Q,st,T,M,a,w,h,ok,hn=>by
   refine wp_scope_straight (wp_mono (zbX hm x Q st T M a w h ok hn) ?_)
   rintro e a' w' ⟨e',st',T',M',he,ok',hn',hq⟩
   cases e <;> cases e' <;> (try (exact False.elim he)) <;> exact ⟨_,st',T',M',he,ok',hn',hq⟩
 | .label _,Q,st,T,M,a,w,h,ok,hn=>wp_label ⟨.normal,st,T,M,trivial,ok,hn,h⟩
 | .goto _,Q,st,T,M,a,w,h,ok,hn=>False.elim h
 | .refuse _,Q,st,T,M,a,w,h,ok,hn=>False.elim h
end
section
variable {P : Program} {np : Nat} {T0 : Nat->Nat} {M0 : GM} {w0 : World}
theorem zn6 {T : Nat->Nat} {M : GM} {w : World} {t : TypeId} {ag : Bool} {s : Nat} {cs : List AV} {b off : Nat} {c : Nat->Value} (hag : (isAgg t).run P w = .ok ag w) (hsz : (sizeOf t).run P w = .ok s w) (hle : s<=cs.length) (hs1 : ag=true∨s=1)
  (hcell : ∀ j,j<cs.length->w.cell? ⟨b,off+j,none⟩=some (c j)/\(c j).oneCell'=true/\Rep T w M (cs.getD j .dead) (c j)) :
  ∃ u,(loadVar t ⟨b,off,none⟩).run P w = .ok u w/\Rep T w M (if ag then .agg (cs.take s) else cs.headD .dead) u:=by
 cases ag with
 | true =>
   have hl:=run_loadCells (P:=P) w ⟨b,off,none⟩ s c (λ j hj=>by rw [Addr.add_none]; exact (hcell j (by omega)).1)
   refine ⟨.agg ((List.range s).map c).toArray,by simp [loadVar,hag,hsz,hl],?_⟩
   refine .agg _ _ _ (by simp; omega) (λ i hi=>?_) λ i hi=>?_
   .simp at hi
    have e : ((List.range s).map c).toArray.getD i undef=c i:=by simp [Array.getD,show i<s by omega]
    rw [e];exact (hcell i (by omega)).2.1
   .simp at hi
    have e : ((List.range s).map c).toArray.getD i undef=c i:=by simp [Array.getD,show i<s by omega]
    have e2 : (cs.take s).getD i .dead=cs.getD i .dead:=by
     simp only [List.getD,Ud];rw [if_pos (by omega)]
    rw [e,e2];exact (hcell i (by omega)).2.2
 | false =>
   obtain rfl : s=1:=by simpa using hs1
   have h0:=hcell 0 (by omega)
   have e : cs.headD .dead=cs.getD 0 .dead:=by cases cs <;> rfl
   simp only [Ub,Us];rw [e];refine ⟨c 0,?_,h0.2.2⟩;simp only [loadVar,Sem.run_bind,hag,Result.andThen_ok];have h00 : w.cell? ⟨b,off,none⟩=some (c 0):=by simpa using h0.1
   simp [h00]
def zgz (a : Act) (r : ResultVar) : Sem Value :=
 match r with
 | .tmp t=>pure (a.tmps.getD t undef)
 | .cell b t=>do loadVar t (<- asAddr (a.tmps.getD b undef))
theorem zpT {st : St} {T : Nat->Nat} {M : GM} {a : Act} {w : World} {live : Nat->Prop} (tm : ∀ i,Rep T w M (st.get i) (a.tmps.getD i undef)) (m : Mem np T0 M0 w0 live st.hp T M w) {r : ResultVar} {v : AV}
  (h : zit st (zdL P r)=some v) : ∃ u,(zgz a r).run P w = .ok u w/\Rep T w M v u:=by
 cases r with
 | tmp t =>
   simp only [zdL,zit,Qq] at h;subst h;exact ⟨_,rfl,tm t⟩
 | cell b t =>
   simp only [zdL] at h
   have bad : zit st (b,some (false,0))=some v->False:=by
    intro h;simp only [zit] at h;split at h
    .simp at h
    .cases h
   cases hag : aggC P t with
   | none=>rw [hag] at h; exact (bad h).elim
   | some ag =>
     rw [hag] at h
     cases hsz : zbg P t with
     | none=>rw [hsz] at h; exact (bad h).elim
     | some s =>
       rw [hsz] at h;simp only [zit] at h;split at h
       case h_2=>cases h
       rename_i cs hcs;split at h
       case isFalse=>cases h
       rename_i hc;simp only [Qq] at h;subst h;obtain ⟨blk,off,hv,c,hcell⟩:=zik m (tm b) hcs
       have hsz' : (sizeOf t).run P w = .ok s w:=by
        simp only [zbg,Qv] at hsz;obtain ⟨i,hi,hs⟩:=hsz;simp [sizeOf,typeInfo,hi,hs]
       have hag' : (isAgg t).run P w = .ok ag w:=by
        unfold aggC at hag;split at hag <;> (try (cases hag; done))
        .rename_i e; cases hag; simp [isAgg,zak e]
        .rename_i e; cases hag; simp [isAgg,zak e]
        .rename_i d e n1 n2
         cases hag;simp only [isAgg,Sem.run_bind,zak n2];simp
       obtain ⟨u,hu,hru⟩:=zn6 (P:=P) hag' hsz' hc.1 hc.2 hcell;refine ⟨u,?_,hru⟩;simp [zgz,hv,asAddr,hu]
theorem zj9 {st : St} {T : Nat->Nat} {M : GM} {a : Act} {w : World} {live : Nat->Prop} (tm : ∀ i,Rep T w M (st.get i) (a.tmps.getD i undef)) (m : Mem np T0 M0 w0 live st.hp T M w) :
  ∀ (rs : List ResultVar) (vs : List AV),zd3 st (rs.map (zdL P))=some vs -> ∃ us : List Value,(rs.mapM (zgz a)).run P w = .ok us w/\us.length=vs.length /\ ∀ i,i<vs.length->Rep T w M (vs.getD i .dead) (us.getD i undef)
 | [],vs,h=>by
   simp [zd3] at h;subst h;exact ⟨[],by simp,rfl,λ i hi=>absurd hi (by simp)⟩
 | r::rs,vs,h=>by
   simp only [Qn,zd3] at h;split at h
   case h_2=>cases h
   rename_i v vs' h1 h2;simp only [Qq] at h;subst h;obtain ⟨u,hu,hru⟩:=zpT tm m h1;obtain ⟨us,hus,hl,hr⟩:=zj9 tm m rs vs' h2;refine ⟨u::us,by simp [List.mapM_cons,hu,hus],by simp [hl],λ i hi=>?_⟩
   cases i with
   | zero=>simpa using hru
   | succ i=>simpa using hr i (by simpa using hi)
theorem ztU {α : Type} (l : List α) (k : Nat) : lkp (l.zipIdx.map λ (a,i)=>(i,a)) k=l[k]?:=by
 have key : ∀ (l : List α) (q k : Nat),lkp ((l.zipIdx q).map λ (a,i)=>(i,a)) (q+k)=l[k]?:=by
  intro l
  induction l with
  | nil=>intro q k; rfl
  | cons x l ih =>
    intro q k;simp only [List.zipIdx_cons,Qn,lkp]
    cases k with
    | zero=>simp
    | succ k =>
      rw [if_neg (by omega),show q+(k+1)=q+1+k by omega,ih]
      simp
 have:=key l 0 k
 rwa [Q0] at this
theorem ztV (l : List Ent) (k : Nat) : lkp (l.zipIdx.map λ (e,i)=>(i,some e)) k=(l[k]?).map some:=by
 have key : ∀ (l : List Ent) (q k : Nat),lkp ((l.zipIdx q).map λ (e,i)=>(i,some e)) (q+k)=(l[k]?).map some:=by
  intro l
  induction l with
  | nil=>intro q k; rfl
  | cons x l ih =>
    intro q k;simp only [List.zipIdx_cons,Qn,lkp]
    cases k with
    | zero=>simp
    | succ k =>
      rw [if_neg (by omega),show q+(k+1)=q+1+k by omega,ih]
      simp
 have:=key l 0 k
 rwa [Q0] at this
theorem zsl (hm : P.follows .mixedOrders=true) {f : FuncId} {fn : Func} {af : AFun} (hf : P.funcs[f]? = some fn) (hc : zrF P fn=some af) (hname : fn.name ≠ "runtime.NumGoroutine") {args : List AV} {hs : List Ent} {res : AV} {hs' : List (Option Ent)}
  (hnt : args.length<=af.nt) (hn16 : hs.length<=16) (hlen' : hs.length<=hs'.length) (h : awp P hs.length af.code (λ e st=>(e = .normal∨e = .ret)/\zao af.res hs.length st res hs') (zep af args hs)) : zaU P f args hs res hs':=by
 unfold zrF at hc
 cases hb : fn.body with
 | none=>rw [hb] at hc; cases hc
 | some c =>
   rw [hb] at hc;simp only [Qq] at hc;subst hc;refine ⟨⟨fn,c,hf,hb,hname⟩,hlen',λ T M w vs htok hhs hdom hrep=>?_⟩;refine calls_of_wp hf hb ?_
   have hg : ∀ i,(zep { nt:=fn.ntmps,res:=fn.results.toList.map (zdL P),code:=comp P c } args hs).get i=args.getD i .dead:=by
    intro i;unfold St.get zep;simp only [ztU];rfl
   have hh : ∀ i,(zep { nt:=fn.ntmps,res:=fn.results.toList.map (zdL P),code:=comp P c } args hs).hp i=hs[i]?:=by
    intro i;unfold St.hp zep;simp only [ztV]
    cases hs[i]? <;> rfl
   have ok : Ok hs.length T M w (zbL 16) (zep { nt:=fn.ntmps,res:=fn.results.toList.map (zdL P),code:=comp P c } args hs) T M { tmps:=vs++Array.replicate (fn.ntmps - vs.size) undef,defers:=[] } w:=by
    refine ⟨?_,rfl,λ i=>?_,?_,λ id g hg=>?_,?_⟩
    .simp only [UG,Array.size_replicate,zep]
     have:=hrep.1;simp only at hnt;omega
    .rw [hg]
     by_cases hi : i<args.length
     .have:=hrep.2 i hi
      have e : (vs++Array.replicate (fn.ntmps - vs.size) undef).getD i undef=vs.getD i undef:=by
       simp only [QD];rw [Q9 (by rw [hrep.1]; exact hi)]
      rw [e];exact this
     .have : args.getD i .dead = .dead:=by simp [List.getD,show ¬ i<args.length by omega]
      rw [this];exact .dead _ _
    .have e : (zep { nt:=fn.ntmps,res:=fn.results.toList.map (zdL P),code:=comp P c } args hs).hp=hpOf hs:=funext hh
     rw [e];exact hhs
    .show id<16
     rcases Ug id hs.length with h | h
     .omega
     .rw [hdom id h] at hg; cases hg
    .exact ⟨htok,λ _ _ _=>rfl,λ _ _=>rfl,rfl,rfl,rfl,Ql _,λ _ _ _=>rfl,Pres.refl _ _,λ k g b hk hg=>by rw [hdom k hk] at hg; cases hg⟩
   refine wp_mono (zbX hm c _ _ T M _ w h ok hn16) ?_
   rintro e a' w' ⟨e',st',T',M',he,ok',hn',hq,vs',hvs,ex,sn,hnod,hex,hsn,hwk,hent⟩
   have hdone : a'.defers=[] /\ ∃ v,(results fn a'.tmps).run P w' = .ok v w' /\ ∃ v2 T2 M2,Ending.returned v = .returned v2/\Rep T2 w' M2 res v2/\HsOk T2 w' M2 (ziN hs')/\zgF hs.length T M w T2 M2 w':=by
    refine ⟨ok'.df,?_⟩;obtain ⟨us,hus,hul,hur⟩:=zj9 (P:=P) ok'.tm ok'.mem fn.results.toList vs' hvs
    have hres : (results fn a'.tmps).run P w' = .ok (if h : us.toArray.size=1 then us.toArray[0] else .tuple us.toArray) w':=by
     have e0 : results fn a'.tmps=(do let vs <- fn.results.mapM (zgz a'); pure (if h : vs.size=1 then vs[0] else .tuple vs)):=by
      have e2 : (λ r : ResultVar=>match r with | ResultVar.tmp t=>(pure (a'.tmps.getD t undef) : Sem Value) | ResultVar.cell a t=>do loadVar t (<- asAddr (a'.tmps.getD a undef)))=zgz a':=by
       funext r; cases r <;> rfl
      rw [<- e2];rfl
     have e : (fn.results.mapM (zgz a')).run P w' = .ok us.toArray w':=by
      rw [Array.mapM_eq_mapM_toList];simp [hus]
     rw [e0,Sem.run_bind,e];rfl
    have hrv : Rep T' w' M' (resV vs') (if h : us.toArray.size=1 then us.toArray[0] else .tuple us.toArray):=by
     by_cases h1 : vs'.length=1
     .match vs',us,h1,hul,hur with
      | [v],[u],_,_,hur=>exact hur 0 (by simp)
     .have e : resV vs' = .tup vs':=by
       match vs',h1 with
       | [],_=>rfl
       | [_],h=>simp at h
       | _::_::_,_=>rfl
      rw [e,dif_neg (by simp; omega)]
      exact .tup _ _ _ (by simpa using hul) λ i hi=>by simpa [List.getD,QD] using hur i hi
    refine ⟨_,hres,(if h : us.toArray.size=1 then us.toArray[0] else .tuple us.toArray),?_⟩
    let nm : List Nat:=List.range hs.length++ex
    obtain ⟨T1,hT1,htok1,hsnap,hsame⟩:=zli ok'.hs ok'.after.tok sn
    let Mr : GM:=λ k=>match nm[k]? with | some i=>M' i | none=>none
    have hMr : ∀ (k i : Nat),nm[k]? = some i->Mr k=M' i:=λ k i hki=>by show (match nm[k]? with | some i=>M' i | none=>none)=_; rw [hki]
    have hlow : ∀ k,k<hs.length->nm[k]? = some k:=λ k hk=>by
     show (List.range hs.length++ex)[k]? = _;rw [QJ (by simpa using hk)]
     simp [hk]
    have hhigh : ∀ (k i : Nat),hs.length<=k->nm[k]? = some i->hs.length<=i:=λ k i hk hki=>by
     have e : nm[k]? = ex[k - hs.length]?:=by
      show (List.range hs.length++ex)[k]? = _;rw [Qr (by simpa using hk)]
      simp
     rw [e] at hki;exact hex i (Uf hki)
    have hcv:=λ x v hr=>zfq (Mc:=Mr) (x:=x) (v:=v) ok'.hs sn hT1 hsnap 4 nm.zipIdx (λ id k hl=>hMr k id (zr2 hl)) hr
    have hsnnm : ∀ i∈sn,i∉nm:=by
     intro i hi hin;rcases Qo.1 hin with h | h
     .have:=(hsn i hi).2
      simp at h;omega
     .exact (hsn i hi).1 h
    have hentk : ∀ (k i : Nat) e',nm[k]? = some i->ziN hs' k=some e' -> ∃ e,st'.hp i=some e/\e'=zaw nm.zipIdx sn st'.hp 4 e:=by
     intro k i e' hki hk';have h1:=congrArg (·[k]?) hent
     simp only [Qs] at h1;have hki' : (List.range hs.length++ex)[k]? = some i:=hki;rw [hki'] at h1;simp only [Q7] at h1;unfold ziN at hk';rw [<- h1] at hk';simp only [Option.join_some,Qv] at hk';obtain ⟨e,h2,h3⟩:=hk';exact ⟨e,h2,h3.symm⟩
    have hlen2 : ∀ k e',ziN hs' k=some e'->k<hs'.length:=by
     intro k e' h;unfold ziN at h
     cases hq : hs'[k]? with
     | none=>rw [hq] at h; simp at h
     | some _=>exact (Qy.1 hq).1
    have hnml : nm.length=hs'.length:=by
     have h1:=congrArg List.length hent;rw [Qt] at h1;exact h1
    have hpassT : ∀ i e g b,i∈nm->st'.hp i=some e->M' i=some g->g.blk=some b->T1 b=T' b:=by
     intro i e g b h1 h2 h3 h4;refine hsame b λ i' hi' e' g' h5 h6 h7=>?_;have:=ok'.hs.inj i i' e e' g g' b h2 h5 h3 h6 h4 h7;subst this;exact hsnnm i hi' h1
    refine ⟨T1,Mr,rfl,hwk.rep (hcv _ _ hrv),⟨λ k e' hk'=>?_,λ k k' e1 e2 g g' b h1 h2 h3 h4 h5 h6=>?_⟩,?_⟩
    .have hlt : k<nm.length:=by rw [hnml]; exact hlen2 k e' hk'
     have hki : nm[k]? = some nm[k]:=Qa hlt;obtain ⟨e,he,rfl⟩:=hentk k _ e' hki hk';obtain ⟨g,hg,ent⟩:=ok'.hs.ent _ e he;refine ⟨g,(hMr k _ hki).trans hg,ent.s,by simpa [zaw] using ent.ro,λ hz r hr=>?_,λ hn=>by simp [zaw,ent.none hn],λ hz=>?_,λ hz b hbk=>?_⟩
     .simp only [zaw,Qg] at hr
      obtain ⟨r0,hr0,rfl⟩:=hr;rw [Qt];exact ent.wide hz r0 hr0
     .obtain ⟨b,es,clock,hbb,q1,q2,q3,q4⟩:=ent.mp hz
      exact ⟨b,es,clock,hbb,q1,by rw [hpassT _ e g b (Uf hki) he hg hbb]; exact q2,q3,q4.map (λ _=>rfl) λ row _ x _ v hr=>hcv x v hr⟩
     .obtain ⟨cells,ty,h1,h2,h3,h4⟩:=ent.blk hz b hbk
      refine ⟨cells,ty,h1,by rw [hpassT _ e g b (Uf hki) he hg hbk]; exact h2,by simpa [zaw] using h3,λ i j hi hj=>?_⟩
      simp only [zaw,Qt] at hi hj ⊢;obtain ⟨u,hu,ho,hru⟩:=h4 i j hi hj;refine ⟨u,hu,ho,?_⟩
      have e1 : (e.rows.map (·.map (conv nm.zipIdx sn st'.hp 4))).getD i []=(e.rows.getD i []).map (conv nm.zipIdx sn st'.hp 4):=by
       simp only [List.getD,Qs]
       cases e.rows[i]? <;> rfl
      rw [e1,zaM _ (zbl _ _ _ _)];exact hcv _ _ hru
    .have hlt : k<nm.length:=by rw [hnml]; exact hlen2 k e1 h1
     have hlt' : k'<nm.length:=by rw [hnml]; exact hlen2 k' e2 h2
     have hki : nm[k]? = some nm[k]:=Qa hlt;have hki' : nm[k']? = some nm[k']:=Qa hlt';obtain ⟨ea,hea,_⟩:=hentk k _ e1 hki h1;obtain ⟨eb,heb,_⟩:=hentk k' _ e2 hki' h2;have:=ok'.hs.inj _ _ ea eb g g' b hea heb ((hMr k _ hki).symm.trans h3) ((hMr k' _ hki').symm.trans h4) h5 h6;exact (List.getElem?_inj hlt hnod).1 (by rw [hki,hki',this])
    .refine ok'.after.step htok1 (λ b hb hnp=>?_) (λ k hk=>?_) rfl rfl rfl (Ql _) (λ _ _ _=>rfl) ⟨hT1,λ b cells ty fz h=>⟨cells,fz,h,rfl,λ _ _=>rfl⟩⟩ λ k g b hk hg hbb=>?_
     .refine hsame b λ i hi e g h1 h2 h3=>?_
      exact (ok'.after.blk h2 h3).elim hnp (by omega)
     .exact hMr k k (hlow k hk)
     .cases hki : nm[k]? with
      | none =>
        have : Mr k=none:=by show (match nm[k]? with | some i=>M' i | none=>none)=none; rw [hki]
        rw [this] at hg; cases hg
      | some i =>
        rw [hMr k i hki] at hg;exact ok'.after.new i g b (hhigh k i hk hki) hg hbb
   rcases hq with rfl | rfl
   .cases e <;> first | exact hdone | exact False.elim he
   .cases e <;> first | exact hdone | exact False.elim he
end
def Up (nl : List (Nat × Nat)) (x y : AV) : Prop:=Wk x y∨(x = .nilS /\ ∃ id s,y = .rs id 0 0/\(id,s)∈nl)
def UpL (nl : List (Nat × Nat)) : List AV->List AV->Prop
 | [],[]=>True
 | x::xs,y::ys=>Up nl x y/\UpL nl xs ys
 | _,_=>False
theorem UpL.length {nl : List (Nat × Nat)} : ∀ {xs ys : List AV},UpL nl xs ys->xs.length=ys.length
 | [],[],_=>rfl
 | _::_,_::_,h=>by simp [UpL.length h.2]
 | [],_::_,h=>False.elim h
 | _::_,[],h=>False.elim h
theorem UpL.get {nl : List (Nat × Nat)} : ∀ {xs ys : List AV},UpL nl xs ys -> ∀ i : Nat,i<xs.length->Up nl (xs.getD i .dead) (ys.getD i .dead)
 | x::xs,y::ys,h,0,_=>h.1
 | x::xs,y::ys,h,i+1,hi=>by simpa using UpL.get h.2 i (by simpa using hi)
 | [],[],_,i,hi=>absurd hi (by simp)
 | [],_::_,h,_,_=>False.elim h
 | _::_,[],h,_,_=>False.elim h
def zaA (nl : List (Nat × Nat)) (e e' : Ent) : Prop :=
 e'.s=e.s/\e.ro<=e'.ro/\e'.ro<=e'.rows.length/\(e'.rows=e.rows∨(e.s≠0/\e.rows.length=e'.rows.length /\ ∀ i,UpL nl (e.rows.getD i []) (e'.rows.getD i [])))
theorem Le.mk {np : Nat} {st st' : St} (ρ : List (Nat × Nat)) (sn : List Nat) (nl : List (Nat × Nat)) (hsz : st'.sz=st.sz)
  (h0 : (ρ.map (·.1)).Nodup) (h1 : (ρ.map (·.2)).Nodup) (h2 : ∀ p∈ρ,p.2<st'.n/\(p.2<np->p.1=p.2)) (h3 : ∀ p∈nl,np<=p.1/\p.1<st'.n/\p.1∉ρ.map (·.2)/\p.2≠0) (h4 : ∀ i∈sn,np<=i/\i∉ρ.map (·.1)) (h5 : np<=st'.n) (h6 : (nl.map (·.1)).Nodup)
  (ht : ∀ i,Up nl (conv ρ sn st.hp 4 (st.get i)) (st'.get i))
  (hh : ∀ id' e',st'.hp id'=some e'->(∃ id e,(id,id')∈ρ/\st.hp id=some e/\zaA nl (zaw ρ sn st.hp 4 e) e')∨((id',e'.s)∈nl/\e'.rows=[]/\e'.ro=0)) : Le np st st':=by
 intro T0 M0 w0 T M a w ok hn;obtain ⟨T1,hT1,htok1,hsnap,hsame⟩:=zli ok.hs ok.after.tok sn
 let M' : GM:=λ j=>if j<np then M j else match lkp nl j with
  | some s=>some ⟨none,0,s⟩
  | none=>match lkp (ρ.map λ p=>(p.2,p.1)) j with
    | some i=>M i
    | none=>none
 have hlow : ∀ j,j<np->M' j=M j:=λ j hj=>if_pos hj
 have hnil : ∀ j s,(j,s)∈nl->M' j=some ⟨none,0,s⟩:=by
  intro j s hjs;have hnp:=(h3 _ hjs).1
  have hl : lkp nl j=some s:=by
   cases hl : lkp nl j with
   | none=>exact absurd hjs (zgg hl s)
   | some s' =>
     have:=zaR hl
     have key : ∀ (l : List (Nat × Nat)),(l.map (·.1)).Nodup->(j,s)∈l->(j,s')∈l->s=s':=by
      intro l
      induction l with
      | nil=>intro _ h; simp at h
      | cons p l ih =>
        intro hnd ha hb;simp only [Qn,Q6,Qg,not_exists,not_and] at hnd;rcases Qu.1 ha with ha | ha <;> rcases Qu.1 hb with hb | hb
        .rw [<- ha] at hb; cases hb; rfl
        .exact absurd (by rw [<- ha]) (hnd.1 _ hb)
        .exact absurd (by rw [<- hb]) (hnd.1 _ ha)
        .exact ih hnd.2 ha hb
     rw [key nl h6 hjs this]
  show (if j<np then M j else _)=_
  rw [if_neg (by omega),hl]
 have hmap : ∀ i j,(i,j)∈ρ->M' j=M i:=by
  intro i j hij
  by_cases hj : j<np
  .have h:=(h2 _ hij).2 hj
   simp only at h;rw [hlow j hj,h]
  .have hnl : lkp nl j=none:=by
    cases hl : lkp nl j with
    | none=>rfl
    | some s=>exact absurd (Qg.2 ⟨_,hij,rfl⟩) (h3 _ (zaR hl)).2.2.1
   have hinv : lkp (ρ.map λ p=>(p.2,p.1)) j=some i:=by
    cases hl : lkp (ρ.map λ p=>(p.2,p.1)) j with
    | none=>exact absurd (Qg.2 ⟨_,hij,rfl⟩) (zgg hl i)
    | some i' =>
      have:=zaR hl;simp only [Qg,Prod.mk.injEq] at this;obtain ⟨⟨p1,p2⟩,hp,rfl,rfl⟩:=this
      have key : ∀ (l : List (Nat × Nat)),(l.map (·.2)).Nodup->(p1,p2)∈l->(i,p2)∈l->p1=i:=by
       intro l
       induction l with
       | nil=>intro _ h; simp at h
       | cons p l ih =>
         intro hnd ha hb;simp only [Qn,Q6,Qg,not_exists,not_and] at hnd;rcases Qu.1 ha with ha | ha <;> rcases Qu.1 hb with hb | hb
         .rw [<- ha] at hb; cases hb; rfl
         .exact absurd (by rw [<- ha]) (hnd.1 _ hb)
         .exact absurd (by rw [<- hb]) (hnd.1 _ ha)
         .exact ih hnd.2 ha hb
      rw [key ρ h1 hp hij]
   show (if j<np then M j else _)=_
   rw [if_neg hj,hnl,hinv]
 have hM'some : ∀ j g,M' j=some g->j<np∨(∃ s,(j,s)∈nl/\g=⟨none,0,s⟩) ∨ ∃ i,(i,j)∈ρ/\M i=some g:=by
  intro j g hg
  by_cases hj : j<np
  .exact .inl hj
  .right
   have hg' : (if j<np then M j else match lkp nl j with
    | some s=>some ⟨none,0,s⟩
    | none=>match lkp (ρ.map λ p=>(p.2,p.1)) j with
      | some i=>M i
      | none=>none)=some g:=hg
   rw [if_neg hj] at hg'
   cases hl : lkp nl j with
   | some s =>
     rw [hl] at hg';exact .inl ⟨s,zaR hl,(Qf hg').symm⟩
   | none =>
     rw [hl] at hg'
     cases hr : lkp (ρ.map λ p=>(p.2,p.1)) j with
     | none=>rw [hr] at hg'; cases hg'
     | some i =>
       rw [hr] at hg';have:=zaR hr;simp only [Qg,Prod.mk.injEq] at this;obtain ⟨⟨p1,p2⟩,hp,rfl,rfl⟩:=this;exact .inr ⟨_,hp,hg'⟩
 have hcv:=λ x v hr=>zfq (Mc:=M') (x:=x) (v:=v) ok.hs sn hT1 hsnap 4 ρ (λ id k hl=>hmap id k (zaR hl)) hr
 have hup : ∀ x y v,Up nl x y->Rep T1 w M' x v->Rep T1 w M' y v:=by
  rintro x y v (h | ⟨rfl,id,s,rfl,hin⟩) hr
  .exact h.rep hr
  .cases hr
   exact .rs _ _ 0 0 0 none _ (hnil id s hin) (h3 _ hin).2.2.2 (Ql _) (λ _=>⟨rfl,rfl⟩) λ b hb=>by cases hb
 have hT1keep : ∀ id e g b,id∉sn->st.hp id=some e->M id=some g->g.blk=some b->T1 b=T b:=by
  intro id e g b h1 h2 h3 h4;refine hsame b λ i hi e' g' h5 h6 h7=>?_;have:=ok.hs.inj id i e e' g g' b h2 h5 h3 h6 h4 h7;subst this;exact h1 hi
 refine ⟨T1,M',⟨ok.sz.trans hsz.symm,ok.df,λ i=>hup _ _ _ (ht i) (hcv _ _ (ok.tm i)),⟨λ id' e' he'=>?_,λ i i' e1 e2 g g' b q1 q2 q3 q4 q5 q6=>?_⟩,λ j g hg=>?_,?_⟩,h5⟩
 .rcases hh id' e' he' with ⟨id,e,hin,he,u1,u2,u3,u4⟩ | ⟨hin,hr,hro⟩
  .obtain ⟨g,hg,ent⟩:=ok.hs.ent id e he
   have hsn' : id∉sn:=λ hi=>(h4 id hi).2 (Qg.2 ⟨_,hin,rfl⟩)
   have hlen : e'.rows.length=e.rows.length:=by
    rcases u4 with u4 | ⟨_,v1,_⟩
    .rw [u4]; simp [zaw]
    .rw [<- v1]; simp [zaw]
   have hrow0 : ∀ i,(zaw ρ sn st.hp 4 e).rows.getD i []=(e.rows.getD i []).map (conv ρ sn st.hp 4):=λ i=>by
    simp only [zaw,List.getD,Qs]
    cases e.rows[i]? <;> rfl
   have hwid' : e.s≠0 -> ∀ r∈e'.rows,r.length=e.s:=λ hz r hr=>by
    rcases u4 with u4 | ⟨_,v1,v3⟩
    .rw [u4] at hr
     simp only [zaw,Qg] at hr;obtain ⟨r0,hr0,rfl⟩:=hr;rw [Qt];exact ent.wide hz r0 hr0
    .obtain ⟨i,hi,rfl⟩:=QF.1 hr
     have h1:=(v3 i).length;rw [hrow0,Qt] at h1;have e1 : e'.rows.getD i []=e'.rows[i]:=by simp [List.getD,hi]
     have hi' : i<e.rows.length:=by omega
     have e2 : e.rows.getD i []=e.rows[i]:=by simp [List.getD,hi']
     rw [e1,e2] at h1;rw [<- h1];exact ent.wide hz _ (Qj hi')
   have hcell : e.s≠0 -> ∀ i j,i<e.rows.length->j<e.s->Up nl (conv ρ sn st.hp 4 ((e.rows.getD i []).getD j .dead)) ((e'.rows.getD i []).getD j .dead):=by
    intro hz i j hi hj
    have e1 : ((zaw ρ sn st.hp 4 e).rows.getD i []).getD j .dead=conv ρ sn st.hp 4 ((e.rows.getD i []).getD j .dead):=by
     rw [hrow0,zaM _ (zbl _ _ _ _)]
    rcases u4 with u4 | ⟨_,v1,v3⟩
    .rw [u4,e1]; exact .inl (.refl _)
    .rw [<- e1]
     refine (v3 i).get j ?_;rw [hrow0,Qt];have e2 : e.rows.getD i []=e.rows[i]:=by simp [List.getD,hi]
     rw [e2,ent.wide hz _ (Qj hi)];exact hj
   have hes : e'.s=e.s:=u1;refine ⟨g,(hmap id id' hin).trans hg,ent.s.trans (by rw [u1]; rfl),u3,λ hz r hr=>?_,λ hn=>?_,λ hz=>?_,λ hz b hbk=>?_⟩
   .rw [hes]
    exact hwid' (hes ▸ hz) r hr
   .have:=ent.none hn
    rw [this] at hlen;exact QK (by simpa using hlen)
   .obtain ⟨b,es,clock,hbb,q1,q2,q3,q4⟩:=ent.mp (hes ▸ hz)
    have hrows : e'.rows=(zaw ρ sn st.hp 4 e).rows:=by
     rcases u4 with u4 | ⟨v0,_⟩
     .exact u4
     .exact absurd (hes ▸ hz) v0
    refine ⟨b,es,clock,hbb,q1,by rw [hT1keep id e g b hsn' he hg hbb]; exact q2,q3,?_⟩
    rw [hrows];exact q4.map (λ _=>rfl) λ row _ x _ v hr=>hcv x v hr
   .obtain ⟨cells,ty,p1,p2,p3,p4⟩:=ent.blk (hes ▸ hz) b hbk
    refine ⟨cells,ty,p1,?_,by rw [hlen,hes]; exact p3,λ i j hi hj=>?_⟩
    .rw [hT1keep id e g b hsn' he hg hbk,hes]
     have : e.ro*e.s<=e'.ro*e.s:=QC _ u2;omega
    .rw [hlen] at hi
     rw [hes] at hj ⊢;obtain ⟨u,hu,ho,hru⟩:=p4 i j hi hj;exact ⟨u,hu,ho,hup _ _ _ (hcell (hes ▸ hz) i j hi hj) (hcv _ _ hru)⟩
  .refine ⟨_,hnil _ _ hin,rfl,by rw [hro]; exact Qi _,(λ _=>by rw [hr]; simp),(λ _=>hr),(λ hz=>absurd hz (h3 _ hin).2.2.2),λ _ b hb=>by cases hb⟩
 .have hold : ∀ i e1 g b,st'.hp i=some e1->M' i=some g->g.blk=some b -> ∃ id e,(id,i)∈ρ/\st.hp id=some e/\M id=some g:=by
   intro i e1 g b p1 p2 p3;rcases hh i e1 p1 with ⟨id,e,hin,he,_⟩ | ⟨hin,_⟩
   .exact ⟨id,e,hin,he,(hmap id i hin).symm.trans p2⟩
   .rw [hnil _ _ hin] at p2
    obtain rfl:=Qf p2
    cases p3
  obtain ⟨i1,ea,r1,r2,r3⟩:=hold i e1 g b q1 q3 q5;obtain ⟨i2,eb,s1,s2,s3⟩:=hold i' e2 g' b q2 q4 q6;have:=ok.hs.inj i1 i2 ea eb g g' b r2 s2 r3 s3 q5 q6;subst this
  .
   have key : ∀ (l : List (Nat × Nat)),(l.map (·.1)).Nodup->(i1,i)∈l->(i1,i')∈l->i=i':=by
    intro l
    induction l with
    | nil=>intro _ h; simp at h
    | cons p l ih =>
      intro hnd ha hb;simp only [Qn,Q6,Qg,not_exists,not_and] at hnd;rcases Qu.1 ha with ha | ha <;> rcases Qu.1 hb with hb | hb
      .rw [<- ha] at hb; cases hb; rfl
      .exact absurd (by rw [<- ha]) (hnd.1 _ hb)
      .exact absurd (by rw [<- hb]) (hnd.1 _ ha)
      .exact ih hnd.2 ha hb
   exact key ρ h0 r1 s1
 .rcases hM'some j g hg with h | ⟨s,h,_⟩ | ⟨i,h,_⟩
  .show j<st'.n; omega
  .exact (h3 _ h).2.1
  .exact (h2 _ h).1
 .refine ok.after.step htok1 (λ b hb hnp=>?_) (λ k hk=>hlow k hk) rfl rfl rfl (Ql _) (λ _ _ _=>rfl) ⟨hT1,λ b cells ty fz h=>⟨cells,fz,h,rfl,λ _ _=>rfl⟩⟩ λ k g b hk hg hbb=>?_
  .refine hsame b λ i hi e g q1 q2 q3=>?_
   exact (ok.after.blk q2 q3).elim hnp (by omega)
  .rcases hM'some k g hg with h | ⟨s,h,rfl⟩ | ⟨i,h,hgi⟩
   .omega
   .cases hbb
   .rcases Ug i np with hlt | hge
    .exact .inl ⟨i,g,hlt,(ok.after.same i hlt).symm.trans hgi,hbb⟩
    .exact ok.after.new i g b hge hgi hbb
theorem Le.refl (np : Nat) (st : St) : Le np st st:=λ _ _ _ T M _ _ ok hn=>⟨T,M,ok,hn⟩
theorem zrf {P : Program} {np id : Nat} {op : AOp} {xs : List AV} {h : Nat->Option Ent} {K1 K2 : AV->List Nat->List (Nat × Option Ent)->Prop} (hk : ∀ a b c,K1 a b c->K2 a b c) : aK P np id op xs h K1->aK P np id op xs h K2:=by
 by_cases happ : ∃ s b x y,op = .app s b/\xs=[x,y]/\¬ ∃ i o l c,x=AV.rk i o l c
 .obtain ⟨s,b,x,y,rfl,rfl,hx⟩:=happ
  simp only [zmK hx]
  rintro ⟨a,b,c,d,e,f,hk'⟩
  exact ⟨a,b,c,d,e,f,hk _ _ _ hk'⟩
 unfold aK;split <;> intro hx
 all_goals first
  | (exfalso; exact happ ⟨_,_,_,_,rfl,rfl,λ ⟨_,_,_,_,e⟩=>by subst e; simp_all⟩)
  | exact hx
  | exact hk _ _ _ hx
  | skip
 all_goals try (obtain ⟨a1,hx⟩:=hx; first | exact ⟨a1,hk _ _ _ hx⟩ | skip)
 all_goals try (obtain ⟨a2,hx⟩:=hx; first | exact ⟨a1,a2,hk _ _ _ hx⟩ | skip)
 all_goals try (obtain ⟨a3,hx⟩:=hx; first | exact ⟨a1,a2,a3,hk _ _ _ hx⟩ | skip)
 all_goals try (obtain ⟨a4,hx⟩:=hx; first | exact ⟨a1,a2,a3,a4,hk _ _ _ hx⟩ | skip)
 all_goals try (obtain ⟨a5,hx⟩:=hx; first | exact ⟨a1,a2,a3,a4,a5,hk _ _ _ hx⟩ | skip)
 all_goals try (obtain ⟨a6,hx⟩:=hx; first | exact ⟨a1,a2,a3,a4,a5,a6,hk _ _ _ hx⟩ | skip)
 all_goals try (obtain ⟨a7,hx⟩:=hx; first | exact ⟨a1,a2,a3,a4,a5,a6,a7,hk _ _ _ hx⟩ | skip)
 all_goals try (obtain ⟨a8,hx⟩:=hx; first | exact ⟨a1,a2,a3,a4,a5,a6,a7,a8,hk _ _ _ hx⟩ | skip)
 all_goals try exact ⟨a1,a2,a3,a4,a5,a6,a7,a8,hx.1,hk _ _ _ hx.2⟩
 .obtain ⟨h1,h2,hx⟩:=hx
  refine ⟨a1,a2,a3,a4,a5,a6,a7,a8,h1,h2,?_⟩;split at hx
  .exact ⟨hx.1,hx.2.1,hx.2.2.1,hk _ _ _ hx.2.2.2⟩
  .exact ⟨hx.1,hx.2.1,hx.2.2.1,hk _ _ _ hx.2.2.2⟩
  .exact ⟨hx.1,hx.2.1,hx.2.2.1,hx.2.2.2.1,hk _ _ _ hx.2.2.2.2⟩
  .exact ⟨hx.1,hx.2.1,hk _ _ _ hx.2.2⟩
  .exact hx
 .obtain ⟨h1,h2,h3,h4,h5,h6,h7,hx⟩:=hx
  exact ⟨a1,a2,a3,a4,a5,a6,a7,a8,h1,h2,h3,h4,h5,h6,h7,hk _ _ _ hx⟩
 rotate_left
 .obtain ⟨h1,h2,h3,h4,h5,h6,h7,h8,h9,hx⟩:=hx
  exact ⟨a1,a2,a3,a4,a5,a6,a7,a8,h1,h2,h3,h4,h5,h6,h7,h8,h9,hk _ _ _ hx⟩
 .obtain ⟨h1,hx⟩:=hx
  refine ⟨a1,a2,a3,a4,a5,a6,a7,a8,h1,?_⟩;split at hx <;> rename_i hc
  .rw [if_pos hc]; exact hk _ _ _ hx
  .rw [if_neg hc]; exact hk _ _ _ hx
theorem zbj {P : Program} {np : Nat} : ∀ (ops : List za7) (n i : Nat) (st : St) (tr : List (List Nat × List Nat)) (K K' : St->List (List Nat × List Nat)->Prop),(∀ s t,K s t->K' s t)->zaO P np n i ops st tr K->zaO P np n i ops st tr K':=by
 intro ops
 induction ops with
 | nil=>intro n i st tr K K' hK h; exact hK _ _ h
 | cons o os ih =>
   intro n i st tr K K' hK h
   have hgo : ∀ (op : AOp) (xs : List AV) (h : Nat->Option Ent) (K1 K2 : AV->List Nat->List (Nat × Option Ent)->Prop),(∀ a b c,K1 a b c->K2 a b c)->aK P np (n+8*i) op xs h K1->aK P np (n+8*i) op xs h K2:=by
    intro op xs h K1 K2 hk hx;exact zrf hk hx
   unfold zaO at h ⊢
   cases hg : o.guard with
   | none =>
     simp only [hg] at h ⊢;exact hgo _ _ _ _ _ (λ v rd up hh=>ih _ _ _ _ _ _ hK hh) h
   | some gw =>
     obtain ⟨g,want⟩:=gw;simp only [hg] at h ⊢;obtain ⟨b,hb,h⟩:=h;refine ⟨b,hb,?_⟩
     by_cases hbw : b=some want
     .rw [if_pos hbw] at h ⊢
      exact hgo _ _ _ _ _ (λ v rd up hh=>ih _ _ _ _ _ _ hK hh) h
     .rw [if_neg hbw] at h ⊢
      exact ih _ _ _ _ _ _ hK h
theorem zcI {P : Program} {np : Nat} : ∀ {c : zcW} {Q Q' : zci->St->Prop} {st : St},(∀ e s,Q e s->Q' e s)->awp P np c Q st->awp P np c Q' st:=by
 intro c
 induction c with
 | skip=>intro Q Q' st h; exact h _ _
 | reg draw ops after =>
   intro Q Q' st h hw;refine ⟨hw.1,?_⟩;exact zbj _ _ _ _ _ _ _ (λ s t h2=>⟨h2.1,h _ _ h2.2⟩) hw.2
 | seq a b iha ihb =>
   intro Q Q' st h hw;refine iha (λ e s hs=>?_) hw
   cases e with
   | normal=>obtain ⟨st2,hle,h2⟩:=hs; exact ⟨st2,hle,ihb h h2⟩
   | exit id=>exact h _ _ hs
   | ret=>exact h _ _ hs
 | cond c a b iha ihb =>
   intro Q Q' st h hw;obtain ⟨t,ht,hw⟩:=hw;refine ⟨t,ht,?_⟩
   cases t
   .exact ihb h hw
   .exact iha h hw
 | block id a iha =>
   intro Q Q' st h hw;refine iha (λ e s hs=>?_) hw
   cases e with
   | normal=>exact h _ _ hs
   | exit id' =>
     simp only at hs ⊢
     by_cases hi : id'=id
     .rw [if_pos hi] at hs ⊢; exact h _ _ hs
     .rw [if_neg hi] at hs ⊢; exact h _ _ hs
   | ret=>exact h _ _ hs
 | loop a iha =>
   intro Q Q' st h hw;obtain ⟨I,hI,hb⟩:=hw;refine ⟨I,hI,λ k s hk=>iha (λ e s hs=>?_) (hb k s hk)⟩
   cases e with
   | normal=>exact hs
   | exit id=>exact h _ _ hs
   | ret=>exact h _ _ hs
 | exit id=>intro Q Q' st h; exact h _ _
 | ret=>intro Q Q' st h; exact h _ _
 | bad=>intro Q Q' st _ h; exact h
theorem zab {P : Program} {np : Nat} {a b : zcW} {Q : zci->St->Prop} {st : St}
  (h : awp P np a (λ e st'=>match e with | .normal=>awp P np b Q st' | e=>Q e st') st) : awp P np (.seq a b) Q st:=by
 show awp P np a _ st;refine zcI (λ e s hs=>?_) h
 cases e with
 | normal=>exact ⟨s,Le.refl _ _,hs⟩
 | exit id=>exact hs
 | ret=>exact hs
theorem zaj {P : Program} {np : Nat} {a : zcW} {Q : zci->St->Prop} {st : St} {ι : Type} (C : ι->St) (I : ι->Prop) (m : ι->Nat) (i0 : ι) (h0 : I i0) (hle : Le np st (C i0))
  (hb : ∀ i,I i->awp P np a (λ e st'=>match e with | .normal=>∃ j,I j/\m j<m i/\Le np st' (C j) | e=>Q e st') (C i)) : awp P np (.loop a) Q st:=by
 refine ⟨λ k s=>∃ i,I i/\m i=k/\s=C i,⟨_,_,hle,i0,h0,rfl,rfl⟩,?_⟩
 rintro k s ⟨i,hi,rfl,rfl⟩
 refine zcI (λ e s hs=>?_) (hb i hi)
 cases e with
 | normal=>obtain ⟨j,hj,hm,hl⟩:=hs; exact ⟨_,_,hl,⟨j,hj,rfl,rfl⟩,hm⟩
 | exit id=>exact hs
 | ret=>exact hs
theorem Le.lst {np : Nat} {st st' : St} (ρ : List (Nat × Nat)) (sn : List Nat) (nl : List (Nat × Nat)) (hsz : st'.sz=st.sz)
  (h0 : (ρ.map (·.1)).Nodup) (h1 : (ρ.map (·.2)).Nodup) (h2 : ∀ p∈ρ,p.2<st'.n/\(p.2<np->p.1=p.2)) (h3 : ∀ p∈nl,np<=p.1/\p.1<st'.n/\p.1∉ρ.map (·.2)/\p.2≠0) (h4 : ∀ i∈sn,np<=i/\i∉ρ.map (·.1)) (h5 : np<=st'.n) (h6 : (nl.map (·.1)).Nodup)
  (ht : ∀ p∈st'.t,Up nl (conv ρ sn st.hp 4 (st.get p.1)) p.2)
  (hh : ∀ p∈st'.h,∀ e',p.2=some e'->(∃ q∈ρ,q.2=p.1 /\ ∃ e,st.hp q.1=some e/\zaA nl (zaw ρ sn st.hp 4 e) e')∨((p.1,e'.s)∈nl/\e'.rows=[]/\e'.ro=0)) : Le np st st':=by
 refine Le.mk ρ sn nl hsz h0 h1 h2 h3 h4 h5 h6 (λ i=>?_) λ id' e' he'=>?_
 .unfold St.get at *
  cases hl : lkp st'.t i with
  | none=>exact .inl (.dead _)
  | some v=>exact ht _ (zaR hl)
 .unfold St.hp at he'
  cases hl : lkp st'.h id' with
  | none=>rw [hl] at he'; cases he'
  | some v =>
    rw [hl] at he';rcases hh _ (zaR hl) e' he' with ⟨q,hq,hq2,e,he,h⟩ | h
    .obtain ⟨q1,q2⟩:=q
     simp only at hq2;subst hq2;exact .inl ⟨q1,e,hq,he,h⟩
    .exact .inr h
theorem Le.slots {st st' : St} (hsz : st'.sz=st.sz) (hh : st'.h=[]) (ht : ∀ p∈st'.t,Wk (conv [] [] st.hp 4 (st.get p.1)) p.2) : Le 0 st st' :=
 Le.lst [] [] [] hsz (by simp) (by simp) (by simp) (by simp) (by simp) (Qi _) (by simp) (λ p hp=>.inl (ht p hp)) (by simp [hh])
def Src (P : Program) (f : FuncId) (af : AFun) : Prop:=P.follows .mixedOrders=true /\ ∃ fn,P.funcs[f]? = some fn/\zrF P fn=some af/\fn.name ≠ "runtime.NumGoroutine"
theorem Src.acalls {P : Program} {f : FuncId} {af : AFun} (s : Src P f af) {args : List AV} {hs : List Ent} {res : AV} {hs' : List (Option Ent)}
  (hnt : args.length<=af.nt) (hn16 : hs.length<=16) (hlen' : hs.length<=hs'.length) (h : awp P hs.length af.code (λ e st=>(e = .normal∨e = .ret)/\zao af.res hs.length st res hs') (zep af args hs)) : zaU P f args hs res hs':=by
 obtain ⟨hm,fn,hf,hc,hn⟩:=s;exact zsl hm hf hc hn hnt hn16 hlen' h
theorem zao.one {t : Nat} {st : St} {res : AV} (h : Wk (conv [] [] st.hp 4 (st.get t)) res) : zao [(t,none)] 0 st res [] :=
 ⟨[st.get t],rfl,[],[],by simp,by simp,by simp,h,rfl⟩
theorem Src.ac {P : Program} {f : FuncId} {af : AFun} (s : Src P f af) {args : List AV} {hs : List Ent} {res : AV} {hs' : List (Option Ent)}
  (h : awp P hs.length af.code (λ e st=>(e = .normal∨e = .ret)/\zao af.res hs.length st res hs') (zep af args hs)) (hnt : args.length<=af.nt:=by exact nbz rfl) (hn16 : hs.length<=16:=by exact nbz rfl) (hlen' : hs.length<=hs'.length:=by first | exact Ql _ | exact Qi _) : zaU P f args hs res hs':=s.acalls hnt hn16 hlen' h
theorem zaI {t : Nat} {st : St} {res : AV} (h : Wk (conv [] [] st.hp 4 (st.get t)) res:=by simp) : awp Tryz.prog 0 .ret (λ e st=>(e = .normal∨e = .ret)/\zao [(t,none)] 0 st res []) st:=⟨.inr rfl,zao.one h⟩
theorem zan {P : Program} {np : Nat} {ops : List za7} {Q : zci->St->Prop} {sz n : Nat} {t : List (Nat × AV)} {h : List (Nat × Option Ent)} {af : List (List Nat)}
  (hd : (ops.all λ o=>o.dst.all (· < sz))=true) (ho : zaO P np n 0 ops ⟨sz,t,h,n⟩ [] λ st' _=>Q .normal ⟨st'.sz,st'.t,st'.h,n+8*ops.length⟩) : awp P np (.reg false ops af) Q ⟨sz,t,h,n⟩:=by
 refine ⟨hd,?_⟩
 have : (λ (st' : St) (tr : List (List Nat × List Nat))=>Q .normal ⟨st'.sz,st'.t,st'.h,n+8*ops.length⟩)=λ st' tr=>(false=true->zcM ops af tr=true)/\Q .normal { st' with n:=(⟨sz,t,h,n⟩ : St).n+8*ops.length }:=by
  funext st' tr
  simp
 rw [<- this];exact ho
theorem zal {P : Program} {np : Nat} {ops : List za7} {Q : zci->St->Prop} {sz n : Nat} {t : List (Nat × AV)} {h : List (Nat × Option Ent)} {af : List (List Nat)} (s : St)
  (hd : (ops.all λ o=>o.dst.all (· < sz))=true) (ho : zaO P np n 0 ops ⟨sz,t,h,n⟩ [] λ st' _=>(⟨st'.sz,st'.t,st'.h,n+8*ops.length⟩ : St)=s) (hq : Q .normal s) : awp P np (.reg false ops af) Q ⟨sz,t,h,n⟩:=by
 refine zan hd (zbj _ _ _ _ _ (λ st' _=>(⟨st'.sz,st'.t,st'.h,n+8*ops.length⟩ : St)=s) _ (λ st' _ h=>?_) ho);subst h;exact hq
theorem zam {P : Program} {np : Nat} {ops : List za7} {Q : zci->St->Prop} {sz n : Nat} {t : List (Nat × AV)} {h : List (Nat × Option Ent)} {af : List (List Nat)} {s : St}
  (hq : Q .normal s) (hd : (ops.all λ o=>o.dst.all (· < sz))=true:=by rfl) (ho : zaO P np n 0 ops ⟨sz,t,h,n⟩ [] (λ st' _=>(⟨st'.sz,st'.t,st'.h,n+8*ops.length⟩ : St)=s):=by simp; rfl) : awp P np (.reg false ops af) Q ⟨sz,t,h,n⟩:=zal s hd ho hq
theorem zaP {P : Program} {np : Nat} {ops : List za7} {Q : zci->St->Prop} {sz n : Nat} {t : List (Nat × AV)} {h : List (Nat × Option Ent)} {af : List (List Nat)}
  (hd : (ops.all λ o=>o.dst.all (· < sz))=true) (ho : zaO P np n 0 ops ⟨sz,t,h,n⟩ [] λ st' tr=>zcM ops af tr=true/\Q .normal ⟨st'.sz,st'.t,st'.h,n+8*ops.length⟩) : awp P np (.reg true ops af) Q ⟨sz,t,h,n⟩:=by
 refine ⟨hd,?_⟩
 have : (λ (st' : St) (tr : List (List Nat × List Nat))=>zcM ops af tr=true/\Q .normal ⟨st'.sz,st'.t,st'.h,n+8*ops.length⟩)=λ st' tr=>(true=true->zcM ops af tr=true)/\Q .normal { st' with n:=(⟨sz,t,h,n⟩ : St).n+8*ops.length }:=by
  funext st' tr
  simp
 rw [<- this];exact ho
theorem zac {P : Program} {np : Nat} {c : Opd} {a b : zcW} {Q : zci->St->Prop} {st : St} (t : Bool) (hc : c.ev st.get = .sc (.bool t)) (h1 : t=true->awp P np a Q st) (h2 : t=false->awp P np b Q st) : awp P np (.cond c a b) Q st:=by
 refine ⟨t,hc,?_⟩
 cases t
 .exact h2 rfl
 .exact h1 rfl
theorem zdU {P : Program} {np : Nat} {ops : List za7} {Q : zci->St->Prop} {sz n : Nat} {t : List (Nat × AV)} {h : List (Nat × Option Ent)} {af : List (List Nat)} {s : St} {tr : List (List Nat × List Nat)}
  (hd : (ops.all λ o=>o.dst.all (· < sz))=true) (ho : zaO P np n 0 ops ⟨sz,t,h,n⟩ [] λ st' tr'=>(⟨st'.sz,st'.t,st'.h,n+8*ops.length⟩ : St)=s/\tr'=tr) (hr : zcM ops af tr=true) (hq : Q .normal s) : awp P np (.reg true ops af) Q ⟨sz,t,h,n⟩:=by
 refine zaP hd (zbj _ _ _ _ _ (λ st' tr'=>(⟨st'.sz,st'.t,st'.h,n+8*ops.length⟩ : St)=s/\tr'=tr) _ (λ st' tr' h=>?_) ho);obtain ⟨rfl,rfl⟩:=h;exact ⟨hr,hq⟩
theorem zae {P : Program} {np : Nat} {Q : zci->St->Prop} {st : St} (h : Q .normal st) : awp P np .skip Q st:=h
theorem zah {P : Program} {np : Nat} {Q : zci->St->Prop} {st : St} (h : Q .ret st) : awp P np .ret Q st:=h
theorem zai {P : Program} {np id : Nat} {Q : zci->St->Prop} {st : St} (h : Q (.exit id) st) : awp P np (.exit id) Q st:=h
theorem hit {i : Nat} {a b : Prop} (h : a) : if i=i then a else b:=by rw [if_pos rfl]; exact h
theorem miss {i j : Nat} {a b : Prop} (hn : i≠j) (h : b) : if i=j then a else b:=by rw [if_neg hn]; exact h
theorem zad {P : Program} {np id : Nat} {a : zcW} {Q : zci->St->Prop} {st : St} (h : awp P np a (λ e st'=>match e with | .exit id'=>if id'=id then Q .normal st' else Q (.exit id') st' | e=>Q e st') st) : awp P np (.block id a) Q st:=h
theorem zap {P : Program} {np : Nat} {a b : zcW} {Q : zci->St->Prop} {st : St} {ι : Type} (C : ι->St) (I : ι->Prop)
  (ha : awp P np a (λ e st'=>match e with | .normal=>∃ j,I j/\Le np st' (C j) | e=>Q e st') st) (hb : ∀ j,I j->awp P np b Q (C j)) : awp P np (.seq a b) Q st:=by
 show awp P np a _ st;refine zcI (λ e s hs=>?_) ha
 cases e with
 | normal=>obtain ⟨j,hj,hl⟩:=hs; exact ⟨C j,hl,hb j hj⟩
 | exit id=>exact hs
 | ret=>exact hs
section
variable {P : Program} {np id : Nat} {h : Nat->Option Ent} {K : AV->List Nat->List (Nat × Option Ent)->Prop}
@[simp] theorem k_mv {x : AV} : aK P np id .mv [x] h K=K x [] []:=(rfl)
@[simp] theorem zza {t : Bool} {a b : AV} : aK P np id .pick [.sc (.bool t),a,b] h K=K (if t then a else b) [] []:=by
 refine propext ⟨?_,λ hk=>⟨t,rfl,hk⟩⟩
 rintro ⟨t',ht,hk⟩
 cases ht;exact hk
@[simp] theorem zyW {z : List Value} : aK P np id (.alloc z) [] h K=K (.pt id 0 0) [] [(id,some { s:=z.length,rows:=[z.map .sc] })]:=(rfl)
@[simp] theorem zz7 {s : Nat} {x : AV} : aK P np id (.box s) [x] h K = ∃ cs,cellsOf x=some cs/\cs.length=s/\K (.pt id 0 0) [] [(id,some { s:=s,rows:=[cs] })]:=(rfl)
@[simp] theorem zys {z ps xs} : aK P np id (.build z ps) xs h K = ∃ cs,zeQ (z.map .sc) ps xs=some cs/\K (.agg cs) [] []:=(rfl)
@[simp] theorem zzW {s len z ps xs} : aK P np id (.bsl s len z ps) xs h K = ∃ rows,zdm s (List.replicate len (z.map .sc)) ps xs=some rows/\z.length=s/\K (.rs id 0 len) [] [(id,some { s:=s,rows:=rows })]:=(rfl)
@[simp] theorem zzy {s : Nat} {x : AV} : aK P np id (.ld true s) [x] h K = ∃ cs,zcn h x=some cs/\s<=cs.length/\K (.agg (cs.take s)) (za8 x) []:=(rfl)
@[simp] theorem zz3 {s : Nat} {x : AV} : aK P np id (.ld false s) [x] h K = ∃ cs,zcn h x=some cs/\s<=cs.length/\K (cs.headD .dead) (za8 x) []:=(rfl)
@[simp] theorem k_st {s i k j : Nat} {x : AV} : aK P np id (.st s) [.pt i k j,x] h K = ∃ e row cs,h i=some e/\e.rows[k]? = some row/\e.ro<=k/\cellsOf x=some cs/\cs.length=s/\j+s<=row.length /\
   K .dead [i] [(i,some { e with rows:=e.rows.set k (zat row j cs) })]:=(rfl)
@[simp] theorem zyv {i k j : Nat} : aK P np id .nil [.pt i k j] h K=K (.pt i k j) [] []:=propext ⟨λ h=>h.2,λ h=>⟨trivial,h⟩⟩
@[simp] theorem zyi {cs : List AV} : aK P np id .nil [.pv cs] h K=K (.pv cs) [] []:=propext ⟨λ h=>h.2,λ h=>⟨trivial,h⟩⟩
@[simp] theorem zzS {op : BinOp} {a b : Value} : aK P np id (.bin op) [.sc a,.sc b] h K = ∃ v,binV op a b=some v/\K (.sc v) [] []:=(rfl)
@[simp] theorem zz1 {neg a b : Bool} : aK P np id (.beq neg) [.sc (.bool a),.sc (.bool b)] h K=K (.sc (.bool ((a == b) != neg))) [] []:=(rfl)
def aeqK (o : Option Bool) (neg : Bool) (K : AV->List Nat->List (Nat × Option Ent)->Prop) : Prop:=∃ b,o=some b/\K (.sc (.bool (b != neg))) [] []
@[simp] theorem zzA {neg : Bool} {ks : List Nat} {xs ys : List AV} : aK P np id (.aeq neg ks) [.agg xs,.agg ys] h K=aeqK (eqs ks xs ys) neg K:=(rfl)
@[simp] theorem zw5 {b neg : Bool} : aeqK (some b) neg K=K (.sc (.bool (b != neg))) [] []:=by simp [aeqK]
@[simp] theorem zyU {neg : Bool} {s : Nat} {f : Bool} {row : List AV} {rows : List (List AV)} : aK P np id (.snil neg) [.vs s f (row::rows)] h K=K (.sc (.bool neg)) [] []:=(rfl)
@[simp] theorem zyX {neg : Bool} {a : Option Addr} {l c : Nat} : aK P np id (.snil neg) [.sc (.slice a l c)] h K=K (.sc (.bool (a.isNone != neg))) [] []:=(rfl)
@[simp] theorem zz8 {s i off len : Nat} {z : List Value} : aK P np id (.clr s z) [.rs i off len] h K = ∃ e,h i=some e/\e.s=s/\z.length=s/\e.ro<=off/\off+len<=e.rows.length /\
   K .dead [i] [(i,some { e with rows:=e.rows.take off++List.replicate len (z.map .sc)++e.rows.drop (off+len) })]:=(rfl)
@[simp] theorem k_un {op : UnOp} {a : Value} : aK P np id (.un op) [.sc a] h K = ∃ v,unV op a=some v/\K (.sc v) [] []:=(rfl)
@[simp] theorem zzH {k k' : IntKind} {n : Int} : aK P np id (.cvt k) [.sc (.int k' n)] h K=K (.sc (.int k (k.wrap n))) [] []:=(rfl)
@[simp] theorem zzK {x : AV} : aK P np id .b2s [x] h K = ∃ rows bs,zaZ 1 h x=some rows/\zby rows=some bs/\K (.sc (.string ⟨bs.toArray⟩)) (za8 x) []:=(rfl)
@[simp] theorem zz6 {t : TypeId} {x : AV} : aK P np id (.mki t) [x] h K=K (.ifc t x) [] []:=(rfl)
@[simp] theorem zxw {t : TypeId} {x : AV} : aK P np id .nil [.ifc t x] h K=K (.ifc t x) [] []:=propext ⟨λ h=>h.2,λ h=>⟨trivial,h⟩⟩
@[simp] theorem zzP {f : FuncId} {xs : List AV} : aK P np id (.mkf f) xs h K=K (.fn (.func f) [] xs) [] []:=(rfl)
@[simp] theorem zzV {f : FuncId} {xs : List AV} : aK P np id (.mkb f) xs h K=K (.fn (.func f) xs []) [] []:=(rfl)
@[simp] theorem zzQ {s bytes z k k' l c} : aK P np id (.mks s bytes z) [.sc (.int k l),.sc (.int k' c)] h K=(0<=l/\l<=c/\c*bytes<=140737488355328/\c<=140737488355328/\z.length=s /\
   K (.rs id 0 l.toNat) [] [(id,some { s:=s,rows:=List.replicate l.toNat (z.map .sc) })]):=(rfl)
theorem zfR {s : Nat} {lo hi mx : Bool} {x : AV} {bs : List AV} : aK P np id (.slc s lo hi mx) (x::bs) h K = ∃ l r m : Nat,∃ n,lenOf x=some n/\l<=r /\
        bs=(if lo then [AV.I l] else [])++(if hi then [AV.I r] else [])++(if mx then [AV.I m] else [])/\(lo=false->l=0)/\(hi=false->r=n)/\(mx=true->hi=true) /\
        match x with
        | .vs s' f rows=>r<=n/\(mx=true->m=r)/\s'=s/\K (.vs s (mx || (f && !hi)) ((rows.drop l).take (r - l))) [] []
        | .rs i off _=>r<=n/\mx=false/\(∃ e,h i=some e/\e.s=s)/\K (.rs i (off+l) (r - l)) [i] []
        | .rk i off _ c=>r<=m/\m<=c/\(mx=false->m=c)/\(∃ e,h i=some e/\e.s=s)/\K (.rk i (off+l) (r - l) (m - l)) [i] []
        | .sc (.slice none 0 0)=>r<=n/\(mx=true->m=r)/\K .nilS [] []
        | _=>False:=(rfl)
@[simp] theorem zzL {i off len c : Nat} : aK P np id .cap [.rk i off len c] h K=K (AV.I c) [] []:=(rfl)
@[simp] theorem zzk {s bytes i off len c : Nat} {y : AV} : aK P np id (.app s bytes) [.rk i off len c,y] h K = ∃ new e,zaZ s h y=some new/\h i=some e/\e.s=s/\off+len<=e.rows.length/\e.ro<=off+len/\(len+new.length)*bytes<=140737488355328/\len+new.length<=140737488355328 /\
   if len+new.length<=c then K (.rk i off (len+new.length) c) (i::za8 y) [(i,some { e with rows:=e.rows.take (off+len)++new++e.rows.drop (off+len+new.length) })]
   else K (.rs id 0 (len+new.length)) (i::za8 y) [(id,some { s:=s,rows:=(e.rows.drop off).take len++new,ro:=0 })]:=(rfl)
@[simp] theorem zzh {s i off len c : Nat} {y : AV} : aK P np id (.cpy s) [.rk i off len c,y] h K = ∃ e new m,h i=some e/\e.s=s/\e.ro<=off/\off<=e.rows.length/\lenOf y=some m/\zaZ s h (cutN (min m len) y)=some new /\
   K (AV.I (min m len : Nat)) (i::za8 y) [(i,some { e with rows:=e.rows.take off++new++e.rows.drop (off+min m len) })]:=(rfl)
@[simp] theorem zzn {s i off len c : Nat} {z : List Value} : aK P np id (.clr s z) [.rk i off len c] h K = ∃ e,h i=some e/\e.s=s/\z.length=s/\e.ro<=off/\off+len<=e.rows.length /\
   K .dead [i] [(i,some { e with rows:=e.rows.take off++List.replicate len (z.map .sc)++e.rows.drop (off+len) })]:=(rfl)
@[simp] theorem zyZ : aK P np id .cap [.sc (.slice none 0 0)] h K=K (AV.I 0) [] []:=(rfl)
@[simp] theorem zy7 {s bytes : Nat} {z : List Value} {k : IntKind} {n : Int} : aK P np id (.apz s bytes z) [.sc (.slice none 0 0),.sc (.int k n)] h K=(z.length=s/\0<n/\n.toNat*bytes<=140737488355328/\n.toNat<=140737488355328 /\
   K (.rs id 0 n.toNat) [] [(id,some { s:=s,rows:=List.replicate n.toNat (z.map .sc),ro:=0 })]):=(rfl)
@[simp] theorem zz2 {s bytes i off len c : Nat} {z : List Value} {k : IntKind} {n : Int} : aK P np id (.apz s bytes z) [.rk i off len c,.sc (.int k n)] h K = ∃ e,h i=some e/\e.s=s/\z.length=s/\off+len<=e.rows.length/\0<n/\c<len+n.toNat/\(len+n.toNat)*bytes<=140737488355328/\len+n.toNat<=140737488355328 /\
   K (.rs id 0 (len+n.toNat)) [i] [(id,some { s:=s,rows:=(e.rows.drop off).take len++List.replicate n.toNat (z.map .sc),ro:=0 })]:=(rfl)
@[simp] theorem zzG {s s' i off len c : Nat} {f : Bool} {rows : List (List AV)} : aK P np id (.ovl s) [.vs s' f rows,.rk i off len c] h K = ∃ e,h i=some e/\s'=s/\e.s=s/\e.ro<=off/\K (.sc (.bool false)) [i] []:=(rfl)
@[simp] theorem zyE {n s : Nat} {f : Bool} {rows : List (List AV)} : cutN n (.vs s f rows) = .vs s false (rows.take n):=(rfl)
@[simp] theorem zyq {n id off len : Nat} : cutN n (.rs id off len) = .rs id off (min n len):=(rfl)
@[simp] theorem zyy {n id off len c : Nat} : cutN n (.rk id off len c) = .rk id off (min n len) c:=(rfl)
@[simp] theorem zzg {off : Nat} {cs : List AV} : aK P np id (.fad off) [.pv cs] h K=(off<=cs.length/\K (.pv (cs.drop off)) [] []):=(rfl)
@[simp] theorem zze {off i k j : Nat} : aK P np id (.fad off) [.pt i k j] h K=K (.pt i k (j+off)) [] []:=(rfl)
@[simp] theorem zzm {off s : Nat} {cs : List AV} : aK P np id (.fld true off s) [.agg cs] h K=(off+s<=cs.length/\K (.agg ((cs.drop off).take s)) [] []):=(rfl)
@[simp] theorem zy1 {off s : Nat} {cs : List AV} : aK P np id (.fld false off s) [.agg cs] h K=(off+s<=cs.length/\K (cs.getD off .dead) [] []):=(rfl)
@[simp] theorem zzf {s s' : Nat} {f : Bool} {rows : List (List AV)} {k : IntKind} {n : Int} : aK P np id (.iad s) [.vs s' f rows,.sc (.int k n)] h K=(s'=s/\0<=n /\ ∃ row,rows[n.toNat]? = some row/\K (.pv row) [] []):=(rfl)
@[simp] theorem zzd {s i off len : Nat} {k : IntKind} {n : Int} : aK P np id (.iad s) [.rs i off len,.sc (.int k n)] h K=(0<=n/\n<len/\(∃ e,h i=some e/\e.s=s)/\K (.pt i (off+n.toNat) 0) [i] []):=(rfl)
@[simp] theorem zzl {l s i k j : Nat} {kd : IntKind} {n : Int} : aK P np id (.iaa l s) [.pt i k j,.sc (.int kd n)] h K=(0<=n/\n<l/\K (.pt i k (j+n.toNat*s)) [] []):=(rfl)
@[simp] theorem zzb {l s : Nat} {cs : List AV} {kd : IntKind} {n : Int} : aK P np id (.iaa l s) [.pv cs,.sc (.int kd n)] h K=(0<=n/\n<l/\l*s<=cs.length/\K (.pv (cs.drop (n.toNat*s))) [] []):=(rfl)
@[simp] theorem zzF {b : ByteArray} {k : IntKind} {n : Int} : aK P np id .ixs [.sc (.string b),.sc (.int k n)] h K=(0<=n /\ ∃ c,b.data.toList[n.toNat]? = some c/\K (.sc (.int .u8 c.toNat)) [] []):=(rfl)
@[simp] theorem zzz {l : Nat} {cs : List AV} {k : IntKind} {n : Int} : aK P np id (.ixv l) [.agg cs,.sc (.int k n)] h K=(0<=n/\n<l/\l<=cs.length/\K (cs.getD n.toNat .dead) [] []):=(rfl)
@[simp] theorem zzN {i : Nat} {vs : List AV} : aK P np id (.ext i) [.tup vs] h K = ∃ v,vs[i]? = some v/\K v [] []:=(rfl)
theorem zvY {s bytes : Nat} {x y : AV} (hx : ¬ ∃ i o l c,x = .rk i o l c) : aK P np id (.app s bytes) [x,y] h K=(∃ new old,zaZ s h y=some new/\zbc s h new x=some old/\(old.1.length+new.length)*bytes<=140737488355328 /\
   old.1.length+new.length<=140737488355328 /\
   K (.rs id 0 (old.1.length+new.length)) (za8 x++za8 y) ((id,some { s:=s,rows:=old.1++new,ro:=old.2.1 })::old.2.2)):=zmK hx
@[simp] theorem zy0 {s bytes : Nat} {y : AV} : aK P np id (.app s bytes) [.nilS,y] h K = ∃ new,zaZ s h y=some new/\new.length*bytes<=140737488355328/\new.length<=140737488355328/\K (.rs id 0 new.length) (za8 y) [(id,some { s:=s,rows:=new,ro:=0 })]:=by
 rw [zvY (by simp)]
 refine propext ⟨?_,?_⟩
 .rintro ⟨new,old,h1,h2,h3,h4,h5⟩
  cases h2;exact ⟨new,h1,by simpa using h3,by simpa using h4,by simpa [za8] using h5⟩
 .rintro ⟨new,h1,h3,h4,h5⟩
  exact ⟨new,_,h1,rfl,by simpa using h3,by simpa using h4,by simpa [za8] using h5⟩
@[simp] theorem zzq {s bytes i off len : Nat} {y : AV} : aK P np id (.app s bytes) [.rs i off len,y] h K = ∃ new e,zaZ s h y=some new/\h i=some e/\e.s=s/\off+len<=e.rows.length/\e.ro<=off+len/\(len+new.length)*bytes<=140737488355328/\len+new.length<=140737488355328 /\
  K (.rs id 0 (len+new.length)) (i::za8 y) [(id,some { s:=s,rows:=(e.rows.drop off).take len++new,ro:=e.ro - off }),(i,none)]:=by
 rw [zvY (by simp)]
 refine propext ⟨?_,?_⟩
 .rintro ⟨new,old,h1,h2,h3,h4,h5⟩
  simp only [zbc,Uo] at h2;obtain ⟨e,he,h2⟩:=h2;split at h2
  case isFalse=>cases h2
  rename_i hc
  cases h2;have hl : ((e.rows.drop off).take len).length=len:=by simp; omega
  simp only [hl] at h3 h4 h5;exact ⟨new,e,h1,he,hc.1,hc.2.1,hc.2.2,h3,h4,by simpa [za8] using h5⟩
 .rintro ⟨new,e,h1,he,c1,c2,c3,h3,h4,h5⟩
  have hl : ((e.rows.drop off).take len).length=len:=by simp; omega
  refine ⟨new,((e.rows.drop off).take len,e.ro - off,[(i,none)]),h1,by simp [zbc,he,c1,c2,c3],by simpa only [hl] using h3,by simpa only [hl] using h4,?_⟩
  simpa [za8,hl] using h5
@[simp] theorem zy5 {s bytes : Nat} {rows : List (List AV)} {y : AV} : aK P np id (.app s bytes) [.vs s true rows,y] h K = ∃ new,zaZ s h y=some new/\(rows=[]∨new≠[])/\(rows.length+new.length)*bytes<=140737488355328/\rows.length+new.length<=140737488355328 /\
  K (.rs id 0 (rows.length+new.length)) (za8 y) [(id,some { s:=s,rows:=rows++new,ro:=0 })]:=by
 rw [zvY (by simp)]
 refine propext ⟨?_,?_⟩
 .rintro ⟨new,old,h1,h2,h3,h4,h5⟩
  simp only [zbc] at h2;split at h2
  case isFalse=>cases h2
  rename_i hc
  cases h2;exact ⟨new,h1,hc.2,h3,h4,by simpa [za8] using h5⟩
 .rintro ⟨new,h1,hc,h3,h4,h5⟩
  exact ⟨new,(rows,0,[]),h1,by show (if s=s/\_ then _ else _)=_; rw [if_pos ⟨rfl,hc⟩],h3,h4,by simpa [za8] using h5⟩
@[simp] theorem zy4 {x : AV} {b : ByteArray} : aK P np id .apps [x,.sc (.string b)] h K=(∃ old,zbc 1 h (zca b) x=some old/\old.1.length+b.size<=140737488355328 /\
   K (.rs id 0 (old.1.length+b.size)) (za8 x) ((id,some { s:=1,rows:=old.1++zca b,ro:=old.2.1 })::old.2.2)):=(rfl)
@[simp] theorem zzB {x : AV} : aK P np id .len [x] h K = ∃ n : Nat,lenOf x=some n/\K (AV.I n) [] []:=(rfl)
@[simp] theorem zzs {b : ByteArray} : aK P np id .lens [.sc (.string b)] h K=K (AV.I b.size) [] []:=(rfl)
@[simp] theorem zzT {s i off len : Nat} {y : AV} : aK P np id (.cpy s) [.rs i off len,y] h K = ∃ e new,h i=some e/\e.s=s/\e.ro<=off/\off+len<=e.rows.length/\zaZ s h y=some new /\
   K (AV.I (min new.length len : Nat)) (i::za8 y) [(i,some { e with rows:=e.rows.take off++new.take (min new.length len)++e.rows.drop (off+min new.length len) })]:=(rfl)
@[simp] theorem zzR : aK P np id .mkm [] h K=K (.mp id) [] [(id,some { s:=0,rows:=[] })]:=(rfl)
@[simp] theorem zzj {z : Value} {i : Nat} {n : Int} : aK P np id (.mlk z false) [.mp i,.sc (.int .i64 n)] h K = ∃ e,h i=some e/\e.s=0/\K ((zb3 n e.rows).getD (toAV z)) [i] []:=(rfl)
@[simp] theorem zzi {z : Value} {i : Nat} {n : Int} : aK P np id (.mlk z true) [.mp i,.sc (.int .i64 n)] h K = ∃ e,h i=some e/\e.s=0/\K (.tup [(zb3 n e.rows).getD (toAV z),.sc (.bool (zb3 n e.rows).isSome)]) [i] []:=(rfl)
@[simp] theorem zzM {i : Nat} {n : Int} {x : AV} : aK P np id .mup [.mp i,.sc (.int .i64 n),x] h K = ∃ e,h i=some e/\e.s=0/\K .dead [i] [(i,some { e with rows:=mset n x e.rows })]:=(rfl)
@[simp] theorem zzO {i : Nat} {n : Int} : aK P np id .mdl [.mp i,.sc (.int .i64 n)] h K = ∃ e,h i=some e/\e.s=0/\K (.tup []) [i] [(i,some { e with rows:=mdel n e.rows,ro:=0 })]:=(rfl)
@[simp] theorem zzY {k k' : IntKind} {a b : Int} : aK P np id .mx2 [.sc (.int k a),.sc (.int k' b)] h K=K (.sc (.int k (if a<b then b else a))) [] []:=(rfl)
@[simp] theorem zz4 {k k' : IntKind} {a b : Int} : aK P np id .mn2 [.sc (.int k a),.sc (.int k' b)] h K=K (.sc (.int k (if b<a then b else a))) [] []:=(rfl)
end
section
variable {P : Program} {np n i : Nat} {os : List za7} {st : St} {tr : List (List Nat × List Nat)} {K : St->List (List Nat × List Nat)->Prop}
@[simp] theorem zzJ : zaO P np n i [] st tr K=K st tr:=(rfl)
@[simp] theorem zwC {d : Option Nat} {op : AOp} {xs : List Opd} : zaO P np n i (⟨d,op,xs,none⟩::os) st tr K=aK P np (n+8*i) op (xs.map (·.ev st.get)) st.hp λ v rd up=>zaO P np n (i+1) os ((st.put d v).upd up) (tr++[(rd,up.map (·.1))]) K:=(rfl)
def gOp (P : Program) (np n i : Nat) (b : Option (Option Bool)) (want : Bool) (d : Option Nat) (op : AOp) (xs : List Opd) (os : List za7) (st : St) (tr : List (List Nat × List Nat)) (K : St->List (List Nat × List Nat)->Prop) : Prop :=
 ∃ c,b=some c/\if c=some want then aK P np (n+8*i) op (xs.map (·.ev st.get)) st.hp λ v rd up=>zaO P np n (i+1) os ((st.put d v).upd up) (tr++[(rd,up.map (·.1))]) K else zaO P np n (i+1) os (st.put d (.tup [])) (tr++[([],[])]) K
section
variable {d : Option Nat} {op : AOp} {xs : List Opd} {os : List za7}
@[simp] theorem o_g {g : Nat} {want : Bool} : zaO P np n i (⟨d,op,xs,some (g,want)⟩::os) st tr K=gOp P np n i (gdV (st.get g)) want d op xs os st tr K:=(rfl)
@[simp] theorem o_tt : gOp P np n i (some (some true)) true d op xs os st tr K=aK P np (n+8*i) op (xs.map (·.ev st.get)) st.hp λ v rd up=>zaO P np n (i+1) os ((st.put d v).upd up) (tr++[(rd,up.map (·.1))]) K:=by simp [gOp]
@[simp] theorem o_ff : gOp P np n i (some (some false)) false d op xs os st tr K=aK P np (n+8*i) op (xs.map (·.ev st.get)) st.hp λ v rd up=>zaO P np n (i+1) os ((st.put d v).upd up) (tr++[(rd,up.map (·.1))]) K:=by simp [gOp]
@[simp] theorem o_tf : gOp P np n i (some (some true)) false d op xs os st tr K=zaO P np n (i+1) os (st.put d (.tup [])) (tr++[([],[])]) K:=by simp [gOp]
@[simp] theorem o_ft : gOp P np n i (some (some false)) true d op xs os st tr K=zaO P np n (i+1) os (st.put d (.tup [])) (tr++[([],[])]) K:=by simp [gOp]
@[simp] theorem o_no {want : Bool} : gOp P np n i (some none) want d op xs os st tr K=zaO P np n (i+1) os (st.put d (.tup [])) (tr++[([],[])]) K:=by simp [gOp]
theorem zcb {b w : Bool} (h1 : b=true->gOp P np n i (some (some true)) w d op xs os st tr K) (h2 : b=false->gOp P np n i (some (some false)) w d op xs os st tr K) : gOp P np n i (some (some b)) w d op xs os st tr K:=by
 cases b
 .exact h2 rfl
 .exact h1 rfl
@[simp] theorem zzX {b : Bool} : gdV (.sc (.bool b))=some (some b):=(rfl)
@[simp] theorem zzD : gdV (.tup [])=some none:=(rfl)
end
@[simp] theorem zzU {sz n : Nat} {h : List (Nat × Option Ent)} {i : Nat} : (⟨sz,[],h,n⟩ : St).get i = .dead:=(rfl)
@[simp] theorem zyY {sz n : Nat} {t : List (Nat × AV)} {h : List (Nat × Option Ent)} {i j : Nat} {v : AV} : (⟨sz,(j,v)::t,h,n⟩ : St).get i=if j=i then v else (⟨sz,t,h,n⟩ : St).get i:=by
 show (if j=i then some v else lkp t i).getD .dead=if j=i then v else (lkp t i).getD .dead
 split <;> rfl
@[simp] theorem zz0 {sz n : Nat} {t : List (Nat × AV)} {i : Nat} : (⟨sz,t,[],n⟩ : St).hp i=none:=(rfl)
@[simp] theorem zc0 {sz n : Nat} {t : List (Nat × AV)} {h : List (Nat × Option Ent)} {i j : Nat} {v : Option Ent} : (⟨sz,t,(j,v)::h,n⟩ : St).hp i=if j=i then v else (⟨sz,t,h,n⟩ : St).hp i:=by
 show (if j=i then some v else lkp h i).getD none=if j=i then v else (lkp h i).getD none
 split <;> rfl
@[simp] theorem zzp {sz n d : Nat} {t : List (Nat × AV)} {h : List (Nat × Option Ent)} {v : AV} : (⟨sz,t,h,n⟩ : St).put (some d) v=⟨sz,(d,v)::t,h,n⟩:=(rfl)
@[simp] theorem zzx {v : AV} : st.put none v=st:=(rfl)
@[simp] theorem zz5 {sz n : Nat} {t : List (Nat × AV)} {h : List (Nat × Option Ent)} : (⟨sz,t,h,n⟩ : St).upd []=⟨sz,t,h,n⟩:=(rfl)
@[simp] theorem zzI {sz n : Nat} {t : List (Nat × AV)} {h us : List (Nat × Option Ent)} : (⟨sz,t,h,n⟩ : St).upd us=⟨sz,t,us++h,n⟩:=(rfl)
@[simp] theorem e_t {g : Nat->AV} {i : Nat} : Opd.ev g (.t i)=g i:=(rfl)
@[simp] theorem e_i {g : Nat->AV} {k : IntKind} {n : Int} : Opd.ev g (.c (.int k n)) = .sc (.int k n):=(rfl)
@[simp] theorem e_b {g : Nat->AV} {b : Bool} : Opd.ev g (.c (.bool b)) = .sc (.bool b):=(rfl)
@[simp] theorem e_f {g : Nat->AV} {f : FuncId} : Opd.ev g (.f f) = .fn (.func f) [] []:=(rfl)
end
theorem zbu : ∀ (xs : List AV),WkL xs xs
 | []=>trivial
 | x::xs=>⟨.refl x,zbu xs⟩
theorem zyp {P : Program} {np id : Nat} {h : Nat->Option Ent} {K : AV->List Nat->List (Nat × Option Ent)->Prop} {f : FuncId} {first capt args args' : List AV} {res : AV} (hc : zaU P f args' [] res [])
  (hw : WkL ((first++args++capt).map (conv [] [] h 4)) args') (hk : K (conv (((List.range 8).map (id + ·)).zipIdx.map λ (a,b)=>(b,a)) [] (λ _=>none) 4 res) [] []) : aK P np id .call (.fn (.func f) first capt::args) h K :=
 ⟨[],[],true,args',[],res,[],by simp,by simp,by simp,hw,rfl,hc,by simp,.inl rfl,hk⟩
theorem zc8 {P : Program} {np id : Nat} {h : Nat->Option Ent} {K : AV->List Nat->List (Nat × Option Ent)->Prop} {f : FuncId} {first capt args : List AV} (f0 : Nat) (hf : Nat.beq f f0=true) (hk : aK P np id .call (.fn (.func f0) first capt::args) h K) : aK P np id .call (.fn (.func f) first capt::args) h K:=by
 have e : f=f0:=Nat.eq_of_beq_eq_true hf;rw [e];exact hk
theorem zau {P : Program} {np id : Nat} {h : Nat->Option Ent} {K : AV->List Nat->List (Nat × Option Ent)->Prop} {f : FuncId} {first capt args args' : List AV} {res : AV} (hc : zaU P f args' [] res [])
  (he : (first++args++capt).map (conv [] [] h 4)=args') (hk : K (conv (((List.range 8).map (id + ·)).zipIdx.map λ (a,b)=>(b,a)) [] (λ _=>none) 4 res) [] []) : aK P np id .call (.fn (.func f) first capt::args) h K :=
 zyp hc (by rw [he]; exact zbu _) hk
theorem zfE {P : Program} {np id : Nat} {h : Nat->Option Ent} {K : AV->List Nat->List (Nat × Option Ent)->Prop} {f : FuncId} {first capt args args' : List AV} {res : AV} (sn : List Nat) (hc : zaU P f args' [] res [])
  (he : (first++args++capt).map (conv [] sn h 4)=args') (hp : Plain res) (hk : K (conv (((List.range 8).map (id + ·)).zipIdx.map λ (a,b)=>(b,a)) [] (λ _=>none) 4 res) sn []) : aK P np id .call (.fn (.func f) first capt::args) h K :=
 ⟨[],sn,false,args',[],res,[],by simp,by simp,by simp,by rw [List.zipIdx_nil,he]; exact zbu _,rfl,hc,by simp,.inr ⟨hp,by simp⟩,hk⟩
@[simp] theorem zyj : WkL [] []=True:=(rfl)
@[simp] theorem zxW {x y : AV} {xs ys : List AV} : WkL (x::xs) (y::ys)=(Wk x y/\WkL xs ys):=(rfl)
attribute [simp] Wk.nil Wk.dead Wk.full
theorem w64 {x : Int} (h1 : -9223372036854775808<=x) (h2 : x<9223372036854775808) : IntKind.i64.wrap x=x:=by rw [IntKind.wrap_i64]; omega
theorem cl0 {P : Program} {np id : Nat} {h : Nat->Option Ent} {K : AV->List Nat->List (Nat × Option Ent)->Prop} {f : FuncId} {first capt args args' : List AV} {res : AV} (hc : zaU P f args' [] res [])
  (hk : K (conv (((List.range 8).map (id + ·)).zipIdx.map λ (a,b)=>(b,a)) [] (λ _=>none) 4 res) [] []) (he : (first++args++capt).map (conv [] [] h 4)=args':=by simp) : aK P np id .call (.fn (.func f) first capt::args) h K:=zau hc he hk
theorem w6 {x : Int} (h1 : -9223372036854775808<=x:=by omega) (h2 : x<9223372036854775808:=by omega) : IntKind.i64.wrap x=x:=w64 h1 h2
attribute [simp] binV unV Wk.refl zat eqs
section
variable {s s' id i j off len n : Nat} {f : Bool} {rows new : List (List AV)} {cs xs ys : List AV} {h : Nat->Option Ent} {ρ : List (Nat × Nat)} {sn : List Nat} {v : Value}
@[simp] theorem zxS : lenOf (.vs s f rows)=some rows.length:=(rfl)
@[simp] theorem zx6 : lenOf (.rs id off len)=some len:=(rfl)
@[simp] theorem zx3 {c : Nat} : lenOf (.rk id off len c)=some len:=(rfl)
@[simp] theorem zxV {c : Nat} : za8 (.rk id off len c)=[id]:=(rfl)
@[simp] theorem zwf {c : Nat} : cellsOf (.rk id off len c)=some [.rk id off len c]:=(rfl)
@[simp] theorem zws {c : Nat} : zaZ s h (.rk id off len c)=(h id).bind λ e=>if e.s=s/\off+len<=e.rows.length then some ((e.rows.drop off).take len) else none:=(rfl)
@[simp] theorem zwX : lenOf .nilS=some 0:=(rfl)
@[simp] theorem zwi : zcn h (.pv cs)=some cs:=(rfl)
@[simp] theorem zwc : zcn h (.pt id i j)=(h id).bind λ e=>(e.rows[i]?).map (·.drop j):=(rfl)
@[simp] theorem zu9 : cellsOf (.agg cs)=some cs:=(rfl)
@[simp] theorem zwl : cellsOf (.vs s f rows)=some [.vs s f rows]:=(rfl)
@[simp] theorem zwj : cellsOf (.rs id off len)=some [.rs id off len]:=(rfl)
@[simp] theorem zwm : cellsOf (.pt id i j)=some [.pt id i j]:=(rfl)
@[simp] theorem zwg : cellsOf (.pv cs)=some [.pv cs]:=(rfl)
@[simp] theorem zvl {k : IntKind} {n : Int} : cellsOf (.sc (.int k n))=some [.sc (.int k n)]:=(rfl)
@[simp] theorem zuX {b : Bool} : cellsOf (.sc (.bool b))=some [.sc (.bool b)]:=(rfl)
@[simp] theorem zs5 {b : ByteArray} : cellsOf (.sc (.string b))=some [.sc (.string b)]:=(rfl)
@[simp] theorem zvI : cellsOf .nilS=some [.nilS]:=(rfl)
@[simp] theorem zwk {g : Fn} : cellsOf (.fn g xs ys)=some [.fn g xs ys]:=(rfl)
@[simp] theorem zx4 : za8 (.vs s f rows)=[]:=(rfl)
@[simp] theorem zx0 : za8 (.rs id off len)=[id]:=(rfl)
@[simp] theorem zx2 : za8 (.pt id i j)=[id]:=(rfl)
@[simp] theorem zxU : za8 (.pv cs)=[]:=(rfl)
@[simp] theorem zxZ : za8 (.sc v)=[]:=(rfl)
@[simp] theorem zxI : zaZ s h (.vs s f rows)=some rows:=if_pos rfl
@[simp] theorem zxM : zaZ s h (.rs id off len)=(h id).bind λ e=>if e.s=s/\off+len<=e.rows.length then some ((e.rows.drop off).take len) else none:=(rfl)
@[simp] theorem zwe : zaZ s h .nilS=some []:=(rfl)
@[simp] theorem zvd : zbc s h new .nilS=some ([],0,[]):=(rfl)
@[simp] theorem zwb : zbc s h new (.rs id off len)=(h id).bind λ e=>if e.s=s/\off+len<=e.rows.length/\e.ro<=off+len then some ((e.rows.drop off).take len,e.ro - off,[(id,none)]) else none:=(rfl)
@[simp] theorem zx1 {k : IntKind} {n : Int} : toAV (.int k n) = .sc (.int k n):=(rfl)
@[simp] theorem zwN {b : Bool} : toAV (.bool b) = .sc (.bool b):=(rfl)
@[simp] theorem zu8 {b : ByteArray} : toAV (.string b) = .sc (.string b):=(rfl)
@[simp] theorem zwd {a : Option Addr} {l c : Nat} : toAV (.slice a l c) = .sc (.slice a l c):=(rfl)
@[simp] theorem zyR : conv ρ sn h (n+1) (.vs s f rows) = .vs s f rows:=(rfl)
@[simp] theorem zyB : conv ρ sn h (n+1) (.sc v) = .sc v:=(rfl)
@[simp] theorem zyO : conv ρ sn h (n+1) (.pv cs) = .pv cs:=(rfl)
@[simp] theorem zzc {α : Type} {i : Nat} : lkp ([] : List (Nat × α)) i=none:=(rfl)
@[simp] theorem zzv {α : Type} {i j : Nat} {a : α} {l : List (Nat × α)} : lkp ((j,a)::l) i=if j=i then some a else lkp l i:=(rfl)
@[simp] theorem zyl : conv ρ sn h (n+1) (.rs id off len)=(match lkp ρ id with
   | some k=>.rs k off len
   | none =>
     if id∈sn then
      match h id with
      | some e=>if off+len<=e.rows.length then .vs e.s false (((e.rows.drop off).take len).map (·.map (conv [] sn h n))) else .dead
      | none=>.dead
     else .dead):=(rfl)
@[simp] theorem zyt {c : Nat} : conv ρ sn h (n+1) (.rk id off len c)=(match lkp ρ id with
   | some k=>.rs k off len
   | none =>
     if id∈sn then
      match h id with
      | some e=>if off+len<=e.rows.length then .vs e.s false (((e.rows.drop off).take len).map (·.map (conv [] sn h n))) else .dead
      | none=>.dead
     else .dead):=(rfl)
@[simp] theorem zyS : conv ρ sn h (n+1) (.pt id i j)=(match lkp ρ id with
   | some k=>.pt k i j
   | none =>
     if id∈sn then
      match h id with
      | some e=>match e.rows[i]? with | some row=>if j<=row.length then .pv ((row.drop j).map (conv [] sn h n)) else .dead | none=>.dead
      | none=>.dead
     else .dead):=(rfl)
@[simp] theorem zyA {i : Nat} : conv ρ sn h (n+1) (.mp i)=(match lkp ρ i with
 | some k=>.mp k
 | none=>.dead):=(rfl)
@[simp] theorem zxX : conv ρ sn h (n+1) (.agg cs) = .agg (cs.map (conv ρ sn h n)):=(rfl)
@[simp] theorem zx5 : conv ρ sn h (n+1) (.tup cs) = .tup (cs.map (conv ρ sn h n)):=(rfl)
end
def Ord (ops : List za7) (af : List (List Nat)) (tr : List (List Nat × List Nat)) : Prop:=zcM ops af tr=true
theorem zaa {P : Program} {np : Nat} {ops : List za7} {Q : zci->St->Prop} {sz n : Nat} {t : List (Nat × AV)} {h : List (Nat × Option Ent)} {af : List (List Nat)} {b : zcW} (s : St)
  (hd : (ops.all λ o=>o.dst.all (· < sz))=true) (ho : zaO P np n 0 ops ⟨sz,t,h,n⟩ [] λ st' _=>Le np ⟨st'.sz,st'.t,st'.h,n+8*ops.length⟩ s) (hq : awp P np b Q s) : awp P np (.seq (.reg false ops af) b) Q ⟨sz,t,h,n⟩:=by
 show awp P np (.reg false ops af) (λ e st'=>match e with | .normal=>∃ st2,Le np st' st2/\awp P np b Q st2 | e=>Q e st') _
 exact zan hd (zbj _ _ _ _ _ _ _ (λ st' _ h=>⟨s,h,hq⟩) ho)
theorem zas {P : Program} {np : Nat} {ops : List za7} {Q : zci->St->Prop} {sz n : Nat} {t : List (Nat × AV)} {h : List (Nat × Option Ent)} {af : List (List Nat)} {b : zcW} (s : St)
  (hd : (ops.all λ o=>o.dst.all (· < sz))=true) (ho : zaO P np n 0 ops ⟨sz,t,h,n⟩ [] λ st' tr=>Ord ops af tr/\Le np ⟨st'.sz,st'.t,st'.h,n+8*ops.length⟩ s) (hq : awp P np b Q s) : awp P np (.seq (.reg true ops af) b) Q ⟨sz,t,h,n⟩:=by
 show awp P np (.reg true ops af) (λ e st'=>match e with | .normal=>∃ st2,Le np st' st2/\awp P np b Q st2 | e=>Q e st') _
 exact zaP hd (zbj _ _ _ _ _ _ _ (λ st' _ h=>⟨h.1,s,h.2,hq⟩) ho)
theorem Le.snap {st st' : St} (sn : List Nat) (hsz : st'.sz=st.sz) (hh : st'.h=[]) (ht : ∀ p∈st'.t,Wk (conv [] sn st.hp 4 (st.get p.1)) p.2) : Le 0 st st' :=
 Le.lst [] sn [] hsz (by simp) (by simp) (by simp) (by simp) (by simp) (Qi _) (by simp) (λ p hp=>.inl (ht p hp)) (by simp [hh])
attribute [simp] zeQ zdm zd3 zit resV zaw Nat.succ_eq_add_one
@[simp] theorem e_n {g : Nat->AV} {a : Option Addr} {l c : Nat} : Opd.ev g (.c (.slice a l c)) = .sc (.slice a l c):=(rfl)
@[simp] theorem zzC {g : Nat->AV} {b : ByteArray} : Opd.ev g (.c (.string b)) = .sc (.string b):=(rfl)
theorem zao.out {rs : List (Nat × Option (Bool × Nat))} {st : St} {vs : List AV} {res : AV} {hs' : List (Option Ent)} (ex sn : List Nat) (h1 : zd3 st rs=some vs) (h2 : ex.Nodup) (h3 : ∀ i∈sn,i∉ex)
  (hw : Wk (conv ex.zipIdx sn st.hp 4 (resV vs)) res) (he : ex.map (λ i=>(st.hp i).map (zaw ex.zipIdx sn st.hp 4))=hs') : zao rs 0 st res hs':=by
 refine ⟨vs,h1,ex,sn,by simpa using h2,by simp,λ i hi=>⟨h3 i hi,Qi _⟩,?_,?_⟩
 .simpa using hw
 .simpa using he
theorem wkT2 {a b a' b' : AV} (h1 : Wk a a') (h2 : Wk b b') : Wk (.tup [a,b]) (.tup [a',b']) :=
 .tup _ _ rfl λ i=>match i with | 0=>h1 | 1=>h2 | _+2=>.refl _
theorem wkB {a b : Bool} (h : a=b) : Wk (.B a) (.B b):=by subst h; exact .refl _
theorem wkE {a b : AV} (h : a=b) : Wk a b:=by subst h; exact .refl _
theorem zl6 {P : Program} {f : FuncId} {s : Nat} {b : Bool} {hs : List Ent} {res : AV} {hs' : List (Option Ent)} (h : ∀ a c,zaU P f [.sc (.slice a 0 c)] hs res hs') : zaU P f [.vs s b []] hs res hs':=by
 refine ⟨(h none 0).1,(h none 0).2.1,λ T M w vs h1 h2 h3 hr=>?_⟩;have hr0:=hr.2 0 (by simp)
 have hv : ∃ a c,vs.getD 0 undef = .slice a 0 c:=by
  generalize vs.getD 0 undef=v at hr0
  cases hr0;exact ⟨_,_,rfl⟩
 obtain ⟨a,c,hv⟩:=hv;refine (h a c).2.2 T M w vs h1 h2 h3 ⟨hr.1,λ i hi=>?_⟩;have : i=0:=by simpa using hi
 subst this;rw [hv];exact .sc _ _ rfl
theorem zeN (hs : List Ent) : ziN (hs.map some)=hpOf hs:=by
 funext k
 simp only [ziN,hpOf,Qs]
 cases hs[k]? <;> rfl
def swp (ids : List Nat) (id : Nat) : List (Nat × Nat):=(ids++(List.range 8).map (id + ·)).zipIdx.map λ (a,b)=>(b,a)
@[simp] theorem swp0 {id : Nat} : swp [] id=[(0,id),(1,id+1),(2,id+2),(3,id+3),(4,id+4),(5,id+5),(6,id+6),(7,id+7)]:=(rfl)
@[simp] theorem swp1 {a id : Nat} : swp [a] id=[(0,a),(1,id),(2,id+1),(3,id+2),(4,id+3),(5,id+4),(6,id+5),(7,id+6),(8,id+7)]:=(rfl)
@[simp] theorem swp2 {a b id : Nat} : swp [a,b] id=[(0,a),(1,b),(2,id),(3,id+1),(4,id+2),(5,id+3),(6,id+4),(7,id+5),(8,id+6),(9,id+7)]:=(rfl)
section
variable {P : Program} {np id : Nat} {h : Nat->Option Ent} {K : AV->List Nat->List (Nat × Option Ent)->Prop} {s s' : Nat} {f : Bool} {rows : List (List AV)} {k l : Nat}
@[simp] theorem zwV : aK P np id (.slc s false true false) [.vs s' f rows,.sc (.int .i64 (k : Int))] h K=(k<=rows.length/\s'=s/\K (.vs s false (rows.take k)) [] []):=by
 rw [zfR];refine propext ⟨?_,?_⟩
 .rintro ⟨l,r,m,n,h1,h2,h4,h5,h6,h7,h3,h10,h8,h9⟩
  obtain rfl:=h5 rfl;simp at h4 h1;subst h1;have : k=r:=by omega
  subst this;exact ⟨h3,h8,by simpa using h9⟩
 .rintro ⟨h1,h2,h3⟩
  exact ⟨0,k,0,rows.length,rfl,Qi _,by simp,λ _=>rfl,(λ h=>by cases h),(λ h=>by cases h),h1,(λ h=>by cases h),h2,by simpa using h3⟩
@[simp] theorem zwE : aK P np id (.slc s true false false) [.vs s' f rows,.sc (.int .i64 (k : Int))] h K=(k<=rows.length/\s'=s/\K (.vs s f (rows.drop k)) [] []):=by
 rw [zfR];refine propext ⟨?_,?_⟩
 .rintro ⟨l,r,m,n,h1,h2,h4,h5,h6,h7,h3,h10,h8,h9⟩
  obtain rfl:=h6 rfl;simp at h4 h1;subst h1;have : k=l:=by omega
  subst this;refine ⟨h2,h8,?_⟩;have e : (rows.drop k).take (rows.length - k)=rows.drop k:=Qb (by simp)
  simpa [e] using h9
 .rintro ⟨h1,h2,h3⟩
  have e : (rows.drop k).take (rows.length - k)=rows.drop k:=Qb (by simp)
  exact ⟨k,rows.length,0,rows.length,rfl,h1,by simp,(λ h=>by cases h),λ _=>rfl,(λ h=>by cases h),Ql _,(λ h=>by cases h),h2,by simpa [e] using h3⟩
end
section
variable {P : Program} {np id : Nat} {h : Nat->Option Ent} {K : AV->List Nat->List (Nat × Option Ent)->Prop} {f : FuncId} {first capt args args' : List AV} {res : AV}
theorem zdg {e : Ent} (hc : zaU P f args' [] res [some e]) (he : (first++args++capt).map (conv [] [] h 4)=args')
  (hk : K (conv (swp [] id) [] (λ _=>none) 4 res) [] [(id,some (zaw (swp [] id) [] (λ _=>none) 4 e))]) : aK P np id .call (.fn (.func f) first capt::args) h K :=
 ⟨[],[],true,args',[],res,[some e],by simp,by simp,by simp,by rw [List.zipIdx_nil,he]; exact zbu _,rfl,hc,by simp,.inl rfl,hk⟩
theorem cn1 {e : Ent} (hc : zaU P f args' [] res [some e])
  (hk : K (conv (swp [] id) [] (λ _=>none) 4 res) [] [(id,some (zaw (swp [] id) [] (λ _=>none) 4 e))]) (he : (first++args++capt).map (conv [] [] h 4)=args':=by simp) : aK P np id .call (.fn (.func f) first capt::args) h K:=zdg hc he hk
theorem zoP {e e2 : Ent} (hc : zaU P f args' [] res [some e,some e2]) (he : (first++args++capt).map (conv [] [] h 4)=args')
  (hk : K (conv (swp [] id) [] (λ _=>none) 4 res) [] [(id,some (zaw (swp [] id) [] (λ _=>none) 4 e)),(id+1,some (zaw (swp [] id) [] (λ _=>none) 4 e2))]) : aK P np id .call (.fn (.func f) first capt::args) h K :=
 ⟨[],[],true,args',[],res,[some e,some e2],by simp,by simp,by simp,by rw [List.zipIdx_nil,he]; exact zbu _,rfl,hc,by simp,.inl rfl,hk⟩
theorem zaS {i : Nat} {e e' : Ent} {hs' : List (Option Ent)} (hi : h i=some e) (hee : zaw [(i,0)] [] h 4 e=e') (hc : zaU P f args' [e'] res hs') (h8 : hs'.length<=9) (he : (first++args++capt).map (conv [(i,0)] [] h 4)=args')
  (hk : K (conv (swp [i] id) [] (λ _=>none) 4 res) [i] (hs'.zipIdx.map λ (e,k)=>((i::(List.range 8).map (id + ·)).getD k 0,e.map (zaw (swp [i] id) [] (λ _=>none) 4)))) : aK P np id .call (.fn (.func f) first capt::args) h K :=
 ⟨[i],[],true,args',[e'],res,hs',by simp,by simp,by simp,by rw [show [i].zipIdx=[(i,0)] from rfl,he]; exact zbu _,by rw [show [i].zipIdx=[(i,0)] from rfl]; simpa [hi] using hee,hc,by simpa using h8,.inl rfl,by simpa [swp] using hk⟩
end
theorem zaA.rfl' {nl : List (Nat × Nat)} {e : Ent} (h : e.ro<=e.rows.length) : zaA nl e e:=⟨rfl,Ql _,h,.inl rfl⟩
theorem Le.var1 {st st' : St} (i : Nat) (sn : List Nat) {e0 e : Ent} (hsz : st'.sz=st.sz) (hh : st'.h=[(i,some e)]) (hi : i<st'.n) (hs : ∀ j∈sn,j≠i) (h0 : st.hp i=some e0) (he : zaw [(i,i)] sn st.hp 4 e0=e) (hr : e.ro<=e.rows.length)
  (ht : ∀ p∈st'.t,Wk (conv [(i,i)] sn st.hp 4 (st.get p.1)) p.2) : Le 0 st st' :=
 Le.lst [(i,i)] sn [] hsz (by simp) (by simp) (by simp [hi]) (by simp) (λ j hj=>⟨Qi _,by simpa using hs j hj⟩) (Qi _) (by simp) (λ p hp=>.inl (ht p hp)) (λ p hp e' he'=>by
  rw [hh] at hp;simp at hp;subst hp
  cases he'
  exact .inl ⟨(i,i),by simp,rfl,e0,h0,by rw [he]; exact zaA.rfl' hr⟩)
theorem Le.ren1 {st st' : St} (i j : Nat) (sn : List Nat) {e0 e : Ent} (hsz : st'.sz=st.sz) (hh : st'.h=[(j,some e)]) (hi : j<st'.n) (hs : ∀ j∈sn,j≠i) (h0 : st.hp i=some e0) (he : zaw [(i,j)] sn st.hp 4 e0=e) (hr : e.ro<=e.rows.length)
  (ht : ∀ p∈st'.t,Wk (conv [(i,j)] sn st.hp 4 (st.get p.1)) p.2) : Le 0 st st' :=
 Le.lst [(i,j)] sn [] hsz (by simp) (by simp) (by simp [hi]) (by simp) (λ j hj=>⟨Qi _,by simpa using hs j hj⟩) (Qi _) (by simp) (λ p hp=>.inl (ht p hp)) (λ p hp e' he'=>by
  rw [hh] at hp;simp at hp;subst hp
  cases he'
  exact .inl ⟨(i,j),by simp,rfl,e0,h0,by rw [he]; exact zaA.rfl' hr⟩)
theorem wkA3 {a b c a' b' c' : AV} (h1 : Wk a a') (h2 : Wk b b') (h3 : Wk c c') : Wk (.agg [a,b,c]) (.agg [a',b',c']) :=
 .agg _ _ rfl λ i=>match i with | 0=>h1 | 1=>h2 | 2=>h3 | _+3=>.refl _
section
variable {H : Type} {P : Program}
def avs (P : Program) : Nat->TypeId->DataW H->Option (List AV)
 | 0,_,_=>none
 | n+1,t,d =>
   match P.underlying t,d with
   | some .bool,.lit (.bool b)=>some [.sc (.bool b)]
   | some (.int k),.lit (.int k' x)=>if k'=k/\(Lit.int k' x).wf=true then some [.sc (.int k' x)] else none
   | some .string,.lit (.string l)=>some [.sc (.string ⟨l.toArray⟩)]
   | some (.slice _),.nil=>some [.nilS]
   | some (.slice e),.slice es _=>if es.length<=9223372036854775807 then (es.mapM (avs P n e)).map λ rows=>[.vs (P.cellsOf e) false rows] else none
   | some (.struct fs),.agg ds=>if ds.length=fs.size then ((fs.toList.zip ds).mapM λ (x : Field × DataW H)=>avs P n x.1.type x.2).map List.flatten else none
   | some (.array m e),.agg ds=>if ds.length=m then (ds.mapM (avs P n e)).map List.flatten else none
   | _,_=>none
def plFs (P : Program) (p : TypeId->Bool) : Nat->List Field->Option Nat
 | o,[]=>some o
 | o,f::fs=>if f.offset=o/\p f.type=true then plFs P p (o+P.cellsOf f.type) fs else none
def plT (P : Program) : Nat->TypeId->Bool
 | 0,_=>false
 | n+1,t =>
   match P.underlying t with
   | some .bool=>true
   | some (.int _)=>true
   | some .string=>true
   | some (.slice e)=>decide (0<P.cellsOf e) && plT P n e
   | some (.struct fs)=>plFs P (plT P n) 0 fs.toList == some (P.cellsOf t)
   | some (.array m e)=>plT P n e && decide (m*P.cellsOf e=P.cellsOf t)
   | _=>false
def TF (w : World) (b : Nat) : Nat:=match w.heap[b]? with | some (.cells cells _ _)=>cells.size | _=>0
theorem zxf (w : World) : TOk (TF w) w:=by
 intro b hb;unfold TF at hb ⊢;split at hb
 .rename_i cells ty fz h
  exact ⟨cells,ty,fz,h,Ql _⟩
 .exact absurd hb (Nat.lt_irrefl _)
def RepS (w : World) (xs : List AV) (cs : List Value) : Prop :=
 xs.length=cs.length /\ ∀ i,i<xs.length->(cs.getD i undef).oneCell'=true/\Rep (TF w) w (λ _=>none) (xs.getD i .dead) (cs.getD i undef)
theorem RepS.one {w : World} {x : AV} {v : Value} (h1 : v.oneCell'=true) (h : Rep (TF w) w (λ _=>none) x v) : RepS w [x] [v]:=by
 refine ⟨rfl,λ i hi=>?_⟩;obtain rfl : i=0:=by simpa using hi
 exact ⟨h1,h⟩
theorem RepS.append {w : World} {xs ys : List AV} {cs ds : List Value} (h1 : RepS w xs cs) (h2 : RepS w ys ds) : RepS w (xs++ys) (cs++ds):=by
 refine ⟨by simp [h1.1,h2.1],λ i hi=>?_⟩
 rcases Ug i xs.length with h | h
 .have:=h1.2 i h
  simpa [List.getD,QJ h,QJ (show i<cs.length from h1.1 ▸ h)] using this
 .have h3 : i - xs.length<ys.length:=by simp at hi; omega
  have:=h2.2 (i - xs.length) h3
  simpa [List.getD,Qr h,Qr (show cs.length<=i from h1.1 ▸ h),<- h1.1] using this
theorem znb {α β : Type} {f : α->Option β} : ∀ {l : List α},(∀ a∈l,∃ b,f a=some b) -> ∃ bs,l.mapM f=some bs/\bs.length=l.length /\ ∀ (i : Nat) a,l[i]? = some a -> ∃ b,bs[i]? = some b/\f a=some b
 | [],_=>⟨[],rfl,rfl,by simp⟩
 | a::l,h=>by
   obtain ⟨b,hb⟩:=h a Qm;obtain ⟨bs,h1,h2,h3⟩:=znb (l:=l) λ x hx=>h x (Qk _ hx);refine ⟨b::bs,by rw [List.mapM_cons,hb,h1]; rfl,by simp [h2],λ i x hi=>?_⟩
   cases i with
   | zero=>simp at hi; subst hi; exact ⟨b,rfl,hb⟩
   | succ i=>simpa using h3 i x (by simpa using hi)
variable {enc : TypeId × Value->H} {w : World} {sp : Nat->Bool} {held : Bool}
theorem zqY : ∀ (n : Nat) (t : TypeId),plT P n t=true -> ∀ (m : Nat) (cs : List Value) (x : DataW H × List MemPlace),DataW.trod enc P w 0 sp held m t cs=some x -> ∃ xs,avs P n t x.1=some xs/\RepS w xs cs
 | 0,_,h,_,_,_,_=>by cases h
 | n+1,t,h,0,cs,x,hx=>by simp [DataW.trod] at hx
 | n+1,t,h,m+1,cs,x,hx=>by
   simp only [plT] at h
   cases hu : P.underlying t with
   | none=>rw [hu] at h; cases h
   | some td =>
     rw [hu] at h
     cases td <;> simp only at h <;> (try (cases h; done))
     case slice e =>
      simp only [QT,Qe] at h;rcases DataW.trod_slice hu hx with ⟨rfl,rfl⟩ | ⟨a,len,cap,elems,rest,k,_,rfl,rfl,_,hl,hmx,hlen,hel,_,_⟩
      .exact ⟨[.nilS],by simp [avs,hu],.one rfl (.sc _ _ rfl)⟩
      .obtain ⟨bs,h1,h2,h3⟩:=znb (f:=avs P n e) (l:=elems.map (·.1)) (λ d hd=>by
        obtain ⟨y,hy,rfl⟩:=Qg.1 hd;obtain ⟨i,hi,rfl⟩:=QF.1 hy;have:=hel i (by omega)
        rw [Qa hi] at this
        cases hc : w.cells? 0 (a.add (i*P.cellsOf e)) (P.cellsOf e) with
        | none=>rw [hc] at this; cases this
        | some rc =>
          rw [hc] at this;obtain ⟨xs,hx1,_⟩:=zqY n e h.2 _ _ _ this
          exact ⟨xs,hx1⟩)
       have hrow : ∀ i,i<len -> ∃ row rc,bs[i]? = some row/\w.cells? 0 (a.add (i*P.cellsOf e)) (P.cellsOf e)=some rc/\RepS w row rc:=by
        intro i hi;have hi' : i<elems.length:=by omega
        have:=hel i hi;rw [Qa hi'] at this
        cases hc : w.cells? 0 (a.add (i*P.cellsOf e)) (P.cellsOf e) with
        | none=>rw [hc] at this; cases this
        | some rc =>
          rw [hc] at this;obtain ⟨xs,hx1,hx2⟩:=zqY n e h.2 _ _ _ this;obtain ⟨row,hr1,h4⟩:=h3 i elems[i].1 (by simp [hi'])
          rw [hx1] at h4;obtain rfl:=Qf h4;exact ⟨_,rc,hr1,rfl,hx2⟩
       have hbl : bs.length=len:=by simpa [hlen] using h2
       have hmx' : elems.length<=9223372036854775807:=by
        have e : maxLen=9223372036854775807:=by decide
        omega
       refine ⟨[.vs (P.cellsOf e) false bs],by simp [avs,hu,h1,hmx'],.one rfl ?_⟩
       rw [<- hbl]
       have hcell : ∀ i j,i<len->j<P.cellsOf e -> ∃ v,w.cell? (a.add (i*P.cellsOf e+j))=some v/\v.oneCell'=true/\Rep (TF w) w (λ _=>none) ((bs.getD i []).getD j .dead) v:=by
        intro i j hi hj;obtain ⟨row,rc,q1,q2,q3⟩:=hrow i hi;obtain ⟨_,q4,q5⟩:=World.cells?_some q2;have q6:=q5 j hj;have q7:=q3.2 j (by rw [q3.1,q4]; exact hj)
        have e1 : bs.getD i []=row:=by simp [List.getD,q1]
        have e2 : rc[j]? = some (rc.getD j undef):=by
         have : j<rc.length:=by omega
         simp [List.getD,this]
        have e3 : (a.add (i*P.cellsOf e)).add j=a.add (i*P.cellsOf e+j):=by
         unfold Addr.add
         by_cases c1 : i*P.cellsOf e=0 <;> by_cases c2 : j=0 <;> simp [c1,c2] <;> omega
        rw [e3] at q6;exact ⟨_,by rw [q6,e2],q7.1,by rw [e1]; exact q7.2⟩
       refine .vs _ _ _ _ (some a) cap (λ i j=>(w.cell? (a.add (i*P.cellsOf e+j))).getD undef) (λ h=>by cases h) (by omega) (λ row hr=>?_) (λ hne=>?_) (λ i j hi hj=>?_) λ i j hi hj=>?_
       .obtain ⟨i,hi,rfl⟩:=QF.1 hr
        obtain ⟨row,rc,q1,q2,q3⟩:=hrow i (by omega)
        obtain ⟨_,q4,_⟩:=World.cells?_some q2;rw [Qa hi] at q1;obtain rfl:=Qf q1;rw [q3.1,q4]
       .have hpos : 0<len:=by
         rw [<- hbl]
         cases bs with
         | nil=>exact absurd rfl hne
         | cons _ _=>simp
        obtain ⟨v0,hv0,_⟩:=hcell 0 0 hpos h.1;obtain ⟨b,off,spot⟩:=a;have hspot : spot=none:=by simpa [Addr.add] using World.cell?_spot hv0
        subst hspot;have hadd : ∀ k,(⟨b,off,none⟩ : Addr).add k=⟨b,off+k,none⟩:=λ k=>by unfold Addr.add; split <;> simp_all
        cases hb : w.heap[b]? with
        | none=>rw [hadd] at hv0; simp [World.cell?,hb] at hv0
        | some o =>
          cases o with
          | cells cells ty fz =>
            have hc : ∀ i j,i<len->j<P.cellsOf e -> ∃ v,cells[off+i*P.cellsOf e+j]? = some v/\w.cell? ((⟨b,off,none⟩ : Addr).add (i*P.cellsOf e+j))=some v:=by
             intro i j hi hj;obtain ⟨v,hv,_⟩:=hcell i j hi hj;refine ⟨v,?_,hv⟩;rw [hadd] at hv
             simpa [World.cell?,hb,UE] using hv
            refine ⟨b,off,cells,ty,fz,rfl,hb,?_,λ i j hi hj=>?_⟩
            .obtain ⟨v,hv,_⟩:=hc (len - 1) (P.cellsOf e - 1) (by omega) (by omega)
             have:=(QN.1 hv).1
             have e5 : bs.length*P.cellsOf e=(len - 1)*P.cellsOf e+P.cellsOf e:=by
              rw [hbl];obtain ⟨q,rfl⟩ : ∃ q,len=q+1:=⟨len - 1,by omega⟩
              simp [QI]
             have e6 : TF w b=cells.size:=by simp [TF,hb]
             omega
            .obtain ⟨v,hv,hv2⟩:=hc i j (by omega) hj
             rw [hv,hv2]; rfl
          | _=>rw [hadd] at hv0; simp [World.cell?,hb] at hv0
       .obtain ⟨v,hv,ho,_⟩:=hcell i j (by omega) hj
        rw [hv]; exact ho
       .obtain ⟨v,hv,_,hr⟩:=hcell i j (by omega) hj
        rw [hv]; exact hr
     case struct fs =>
      simp only [beq_iff_eq] at h;obtain ⟨ys,k,_,rfl,hcl,hyl,hel⟩:=DataW.trod_struct hu hx
      have key : ∀ (fl : List Field) (o e : Nat) (zs : List (DataW H × List MemPlace)),plFs P (plT P n) o fl=some e->zs.length=fl.length ->
        (∀ (i : Nat) f,fl[i]? = some f->DataW.trod enc P w 0 sp held k f.type ((cs.drop f.offset).take (P.cellsOf f.type))=zs[i]?) ->
        ∃ l,((fl.zip (zs.map (·.1))).mapM λ (x : Field × DataW H)=>avs P n x.1.type x.2)=some l/\RepS w l.flatten ((cs.drop o).take (e - o))/\o<=e:=by
       intro fl
       induction fl with
       | nil =>
         intro o e zs h1 h2 _;simp only [plFs,Qq] at h1;subst h1;exact ⟨[],rfl,by simp [RepS],Ql _⟩
       | cons f fl ih =>
         intro o e zs h1 h2 h3
         cases zs with
         | nil=>simp at h2
         | cons z zs =>
           simp only [plFs] at h1;split at h1
           case isFalse=>cases h1
           rename_i hc;obtain ⟨rfl,hp⟩:=hc;have hz:=h3 0 f rfl;simp only [List.getElem?_cons_zero] at hz;obtain ⟨row,r1,r2⟩:=zqY n f.type hp _ _ _ hz;obtain ⟨l,l1,l2,l3⟩:=ih _ e zs h1 (by simpa using h2) λ i g hg=>by simpa using h3 (i+1) g (by simpa using hg)
           refine ⟨row::l,by simp [List.mapM_cons,r1,l1],?_,by omega⟩
           have e1 : (cs.drop f.offset).take (e - f.offset)=(cs.drop f.offset).take (P.cellsOf f.type)++(cs.drop (f.offset+P.cellsOf f.type)).take (e - (f.offset+P.cellsOf f.type)):=by
            rw [show e - f.offset=P.cellsOf f.type+(e - (f.offset+P.cellsOf f.type)) by omega,List.take_add,List.drop_drop]
           rw [e1,List.flatten_cons];exact r2.append l2
      obtain ⟨l,l1,l2,_⟩:=key fs.toList 0 _ ys h (by simpa using hyl) (λ i f hf=>hel i f (by simpa using hf))
      refine ⟨l.flatten,by simp [avs,hu,l1,hyl],?_⟩
      rw [List.drop_zero,Nat.sub_zero,<- hcl,Q1] at l2;exact l2
     case array q e =>
      simp only [QT,Qe] at h;rw [DataW.trod_step] at hx;unfold DataW.trodStep at hx;simp only [hu] at hx;split at hx
      case isFalse=>cases hx
      rename_i hcl;simp only [Qv] at hx;obtain ⟨zs,hzs,rfl⟩:=hx
      have key : ∀ (m' k : Nat) (zs : List (DataW H × List MemPlace)),((List.range' k m').mapM λ i=>DataW.trod enc P w 0 sp held m e ((cs.drop (i*P.cellsOf e)).take (P.cellsOf e)))=some zs ->
        ∃ l,(zs.map (·.1)).mapM (avs P n e)=some l/\RepS w l.flatten ((cs.drop (k*P.cellsOf e)).take (m'*P.cellsOf e))/\zs.length=m':=by
       intro m'
       induction m' with
       | zero =>
         intro k zs h1;simp at h1;subst h1;exact ⟨[],rfl,by simp [RepS],rfl⟩
       | succ m' ih =>
         intro k zs h1;rw [List.range'_succ,List.mapM_cons] at h1
         cases hz : DataW.trod enc P w 0 sp held m e ((cs.drop (k*P.cellsOf e)).take (P.cellsOf e)) with
         | none=>rw [hz] at h1; simp at h1
         | some z =>
           rw [hz] at h1
           cases hr : ((List.range' (k+1) m').mapM λ i=>DataW.trod enc P w 0 sp held m e ((cs.drop (i*P.cellsOf e)).take (P.cellsOf e))) with
           | none=>rw [hr] at h1; simp at h1
           | some zs' =>
             rw [hr] at h1;simp at h1;subst h1;obtain ⟨row,r1,r2⟩:=zqY n e h.1 _ _ _ hz;obtain ⟨l,l1,l2,l3⟩:=ih (k+1) zs' hr;refine ⟨row::l,by simp [List.mapM_cons,r1,l1],?_,by simp [l3]⟩
             have e1 : (cs.drop (k*P.cellsOf e)).take ((m'+1)*P.cellsOf e)=(cs.drop (k*P.cellsOf e)).take (P.cellsOf e)++(cs.drop ((k+1)*P.cellsOf e)).take (m'*P.cellsOf e):=by
              rw [show (m'+1)*P.cellsOf e=P.cellsOf e+m'*P.cellsOf e by rw [QI,Nat.one_mul,Nat.add_comm],List.take_add,List.drop_drop,show k*P.cellsOf e+P.cellsOf e=(k+1)*P.cellsOf e by rw [QI,Nat.one_mul]]
             rw [e1,List.flatten_cons];exact r2.append l2
      obtain ⟨l,l1,l2,l3⟩:=key q 0 zs (by rw [<- List.range_eq_range']; exact hzs)
      refine ⟨l.flatten,by simp [avs,hu,l1,l3],?_⟩
      rw [Nat.zero_mul,List.drop_zero,h.2,<- hcl,Q1] at l2;exact l2
     all_goals
      rw [DataW.trod_step] at hx;unfold DataW.trodStep at hx;simp only [hu] at hx
     case bool =>
      rcases cs with _ | ⟨c,_ | ⟨c2,cs⟩⟩ <;> (try (simp at hx; done))
      cases c <;> simp at hx
      subst hx;exact ⟨_,by simp [avs,hu],.one rfl (.sc _ _ rfl)⟩
     case int k =>
      rcases cs with _ | ⟨c,_ | ⟨c2,cs⟩⟩ <;> (try (simp at hx; done))
      cases c <;> simp at hx
      obtain ⟨⟨rfl,hwf⟩,rfl⟩:=hx;exact ⟨_,by simp [avs,hu,hwf],.one rfl (.sc _ _ rfl)⟩
     case string =>
      rcases cs with _ | ⟨c,_ | ⟨c2,cs⟩⟩ <;> (try (simp at hx; done))
      cases c <;> simp at hx
      obtain ⟨_,rfl⟩:=hx;rename_i s _;exact ⟨[.sc (.string s)],by simp [avs,hu],.one rfl (.sc _ _ rfl)⟩
end
end Go.Proofs.YtkngdgplbojdlaaGreat
namespace Go.Proofs.YtkngdgplbojdlaaGreat
open Go Go.ChangeShapes Go.WideShapes Go.ChangeAt Go.RowKit
section
variable {H : Type} {P : Program}
def zjc (P : Program) (n : Nat) (t : TypeId) (d : DataW H) : Option AV :=
 match P.underlying t with
 | some (.struct _)=>(avs P n t d).map .agg
 | some (.array _ _)=>(avs P n t d).map .agg
 | _=>(avs P n t d).bind fun | [x]=>some x | _=>none
variable {enc : TypeId × Value->H} {W : World} {sp : Nat->Bool} {held : Bool}
theorem zvs {n : Nat} {t : TypeId} (hp : plT P n t=true) {r : Go.Reach} {base : Nat} {v : Value} {d : DataW H} {p : List MemPlace} (hval : Value.okWide P W r base t v) (h : DataW.Trod enc P W 0 sp held t v d p) :
  ∃ x,zjc P n t d=some x/\Rep (TF W) W (λ _=>none) x v:=by
 obtain ⟨m,hm⟩:=h;obtain ⟨xs,h1,h2⟩:=zqY n t hp m _ _ hm;simp only at h1
 cases n with
 | zero=>cases hp
 | succ n =>
   simp only [plT] at hp
   cases hu : P.underlying t with
   | none=>rw [hu] at hp; cases hp
   | some td =>
     rw [hu] at hp
     have one : (∀ cs,v ≠ .agg cs)->(∀ fs,td ≠ .struct fs)->(∀ m e,td ≠ .array m e) -> ∃ x,zjc P (n+1) t d=some x/\Rep (TF W) W (λ _=>none) x v:=by
      intro hv ht hta
      have hc : v.cells = #[v]:=by
       cases v <;> first | rfl | exact absurd rfl (hv _)
      rw [hc] at h2;obtain ⟨hl,h3⟩:=h2
      match xs,hl with
      | [x],_ =>
        refine ⟨x,?_,?_⟩
        .simp only [zjc,hu]
         cases td <;> first | exact absurd rfl (ht _) | exact absurd rfl (hta _ _) | simp [h1]
        .simpa using (h3 0 (by simp)).2
     cases td <;> simp only at hp <;> (try (cases hp; done))
     case struct fs =>
      simp only [Value.okWide,hu] at hval;obtain ⟨cs,rfl,_,_⟩:=hval;refine ⟨.agg xs,by simp [zjc,hu,h1],?_⟩
      simp only [Value.cells] at h2;refine .agg _ _ _ (by simpa using h2.1.symm) (λ i hi=>?_) λ i hi=>?_
      .have:=(h2.2 i hi).1
       simpa [List.getD,QD] using this
      .have:=(h2.2 i hi).2
       simpa [List.getD,QD] using this
     case array m e =>
      simp only [Value.okWide,hu] at hval;obtain ⟨cs,rfl,_,_⟩:=hval;refine ⟨.agg xs,by simp [zjc,hu,h1],?_⟩
      simp only [Value.cells] at h2;refine .agg _ _ _ (by simpa using h2.1.symm) (λ i hi=>?_) λ i hi=>?_
      .have:=(h2.2 i hi).1
       simpa [List.getD,QD] using this
      .have:=(h2.2 i hi).2
       simpa [List.getD,QD] using this
     all_goals
      refine one (λ cs hc=>?_) (λ fs hf=>by cases hf) (λ m e hf=>by cases hf)
      subst hc;simp [Value.okWide,hu,Cell.okWide,Cell.ok] at hval
def zie (P : Program) (n : Nat) : List TypeId->List (DataW H)->Option (List AV)
 | [],[]=>some []
 | t::ts,d::ds=>match zjc P n t d,zie P n ts ds with
   | some x,some xs=>some (x::xs)
   | _,_=>none
 | _,_=>none
theorem zpi {n : Nat} {r : Go.Reach} {base : Nat} : ∀ {ts : List TypeId} {vs : List Value} {ds : List (DataW H)} {p : List MemPlace},(∀ t∈ts,plT P n t=true)->(∀ (j : Nat) t v,ts[j]? = some t->vs[j]? = some v->Value.okWide P W r base t v) ->
  DataW.TrodAll enc P W 0 sp held ts vs ds p -> ∃ xs,zie P n ts ds=some xs/\xs.length=vs.length /\ ∀ i,i<xs.length->Rep (TF W) W (λ _=>none) (xs.getD i .dead) (vs.getD i undef)
 | [],[],[],_,_,_,_=>⟨[],rfl,rfl,λ i hi=>absurd hi (by simp)⟩
 | t::ts,v::vs,d::ds,_,hp,hv,⟨p,q,h1,h2,_⟩=>by
   obtain ⟨x,x1,x2⟩:=zvs (hp t Qm) (hv 0 t v rfl rfl) h1;obtain ⟨xs,y1,y2,y3⟩:=zpi (λ t ht=>hp t (Qk _ ht)) (λ j t v h3 h4=>hv (j+1) t v (by simpa using h3) (by simpa using h4)) h2
   refine ⟨x::xs,by simp [zie,x1,y1],by simp [y2],λ i hi=>?_⟩
   cases i with
   | zero=>simpa using x2
   | succ i=>simpa using y3 i (by simpa using hi)
theorem zgU (hl : laidOutB P=true) {W' : World} (hb : Below W.heap.size W W') : ∀ {ts : List TypeId} {vs : List Value} {ds : List (DataW H)} {p : List MemPlace},(∀ t∈ts,P.readableRec t=true/\t<P.types.size)->(∀ x∈p,x.block<W.heap.size) ->
  DataW.TrodAll enc P W 0 (λ _=>true) true ts vs ds p->DataW.TrodAll enc P W' 0 (λ b=>decide (b<W.heap.size)) true ts vs ds p
 | [],[],[],_,_,_,h=>h
 | t::ts,v::vs,d::ds,_,hp,hlt,⟨p,q,h1,h2,e⟩ =>
   ⟨p,q,Below.trod hl (hp t Qm).1 (hp t Qm).2 h1 hb (λ x hx=>hlt x (by rw [e]; exact QU _ hx)),
    zgU hl hb (λ t ht=>hp t (Qk _ ht)) (λ x hx=>hlt x (by rw [e]; exact UD _ hx)) h2,e⟩
def zyb (P : Program) (n : Nat) (ts : List TypeId) : Bool:=ts.all λ t=>P.readableRec t && decide (t<P.types.size) && plT P n t
theorem zpY {f : Func} {fi : FuncId} {s : ChangeSpec} {n : Nat} {tb : TypeId} (hl : laidOutB P=true) {ts : List TypeId} (hts : f.params.toList=ts) (hok : zyb P n ts=true)
  (hres : f.resultTypes = #[tb]) (htb : P.underlying tb=some .bool) (hvars : s.vars=[]) {r : Go.Reach} {base : Nat} {args : Array Value} {ds gs : List (DataW H)} {before : List MemPlace}
  (hval : ∀ (j : Nat) t v,f.params[j]? = some t->args[j]? = some v->Value.okWide P W r base t v)
  (hW : DataW.Whole enc P f.params.toList s.vars false W args.toList ds gs before) (hs1 : (s.fn H (ds++[])).results=[.lit (.bool true)]) (hs2 : (s.fn H (ds++[])).args=ds) (hs3 : (s.fn H (ds++[])).vars=[])
  (hc : ∀ xs,zie P n ts ds=some xs->zaU P fi xs [] (.B true) []) :
  Calls P fi args W λ e W'=>∃ v,e = .returned v/\s.post enc P f false true false false W args v W':=by
 have hok' : ∀ t∈ts,(P.readableRec t=true/\t<P.types.size)/\plT P n t=true:=by
  intro t ht;have:=List.all_eq_true.1 hok t ht
  simpa only [QT,Qe] using this
 have hr : ∀ t∈f.params.toList,P.readableRec t=true/\t<P.types.size:=λ t ht=>(hok' t (hts ▸ ht)).1;have hp : ∀ t∈f.params.toList,plT P n t=true:=λ t ht=>(hok' t (hts ▸ ht)).2;subst hts;have hW':=hW;obtain ⟨p,q,hA,hV,rfl,hfz,hnd⟩:=hW;rw [hvars] at hV;obtain ⟨rfl,rfl⟩:=trodVars_none hV;have hlt : ∀ x∈p,x.block<W.heap.size:=λ x hx=>by simpa using hW'.lt x (by simpa using hx)
 obtain ⟨xs,x1,x2,x3⟩:=zpi hp (λ j t v h1 h2=>hval j t v (by simpa using h1) (by simpa using h2)) hA
 have hR : RepL (TF W) W (λ _=>none) xs args:=⟨by simpa using x2.symm,λ i hi=>by simpa [List.getD,QD] using x3 i hi⟩
 refine ((hc xs x1).2.2 (TF W) (λ _=>none) W args (zxf W) ⟨λ id e he=>by simp [hpOf] at he,λ id id' e e' g g' b h1=>by simp [hpOf] at h1⟩ (λ _ _=>rfl) hR).mono ?_
 rintro e W' ⟨v,T',M',rfl,hv,_,haf⟩
 have hv' : v = .bool true:=by cases hv; rfl
 subst hv';have hB : Below W.heap.size W W':=⟨haf.os,haf.tape,haf.output,haf.size,λ k hk=>haf.keep k hk (by rintro ⟨_,_,h,_⟩; exact absurd h (U4 _))⟩
 refine ⟨_,rfl,ds,[],p++[],[],p,[],hW',?_,?_,?_,hB.frame _,λ h=>by cases h⟩
 .rw [hres,hs1]
  exact trodAll_mk1 (shut_bool htb _)
 .rw [hs2]
  exact zgU hl hB hr hlt hA
 .rw [hvars,hs3]
  rfl
end
abbrev oo (d : Nat) (op : AOp) (xs : List Opd) : za7:=⟨some d,op,xs,none⟩
abbrev og (d : Nat) (op : AOp) (xs : List Opd) (g : Nat) : za7:=⟨some d,op,xs,some (g,true)⟩
abbrev oh (d : Nat) (op : AOp) (xs : List Opd) (g : Nat) : za7:=⟨some d,op,xs,some (g,false)⟩
abbrev ou (op : AOp) (xs : List Opd) : za7:=⟨none,op,xs,none⟩
abbrev vi (n : Int) : Value:=.int .i64 n
abbrev v0 : Value:=.int .i64 0
abbrev ve : Value:=.string ⟨#[]⟩
abbrev vn : Value:=.slice none 0 0
abbrev ki (n : Int) : Opd:=.c (.int .i64 n)
abbrev kn : Opd:=.c (.slice none 0 0)
abbrev ma (d s : Nat) : za7:=⟨some d,.mv,[.t s],none⟩
abbrev mg (d s g : Nat) : za7:=⟨some d,.mv,[.t s],some (g,true)⟩
abbrev mh (d s g : Nat) : za7:=⟨some d,.mv,[.t s],some (g,false)⟩
abbrev fa (d k s : Nat) : za7:=⟨some d,.fad k,[.t s],none⟩
abbrev fg (d k s g : Nat) : za7:=⟨some d,.fad k,[.t s],some (g,true)⟩
abbrev fh (d k s g : Nat) : za7:=⟨some d,.fad k,[.t s],some (g,false)⟩
abbrev la (d s : Nat) : za7:=⟨some d,.ld false 1,[.t s],none⟩
abbrev lg (d s g : Nat) : za7:=⟨some d,.ld false 1,[.t s],some (g,true)⟩
abbrev lh (d s g : Nat) : za7:=⟨some d,.ld false 1,[.t s],some (g,false)⟩
abbrev ca (d : Nat) (f : FuncId) (xs : List Opd) : za7:=⟨some d,.call,.f f::xs,none⟩
abbrev sr (l : List za7) (c : zcW) : zcW:=.seq (.reg false l []) c
abbrev rg (l : List za7) : zcW:=.reg false l []
end Go.Proofs.YtkngdgplbojdlaaGreat
namespace Go.Proofs.YtkngdgplbojdlaaGreat
abbrev AcP:=zaU Tryz.prog
theorem mixed : Tryz.prog.follows .mixedOrders=true:=by kernel_rfl
structure SC (f : FuncId) where
 c : AFun
 s : Src Tryz.prog f c
def mkC {f : FuncId} (fn : Func) {c d : AFun} (hc : zrF Tryz.prog fn=some d:=by conv=>lhs; reduce) (hd : d=c:=by simp only [Int.ofNat_eq_natCast,Int.cast_ofNat_Int,Int.reduceNegSucc]; rfl) (hf : Tryz.prog.funcs[f]? = some fn:=by kernel_rfl) (hn : fn.name ≠ "runtime.NumGoroutine":=by decide) : SC f:=⟨c,mixed,fn,hf,hd ▸ hc,hn⟩
def znw : SC 8:=mkC Tryz.f8
def zqn : SC 10:=mkC Tryz.f10
def zhx : SC 11:=mkC Tryz.f11
def ziE : SC 13:=mkC Tryz.f13
def zkQ : SC 16:=mkC Tryz.f16
def zrA : SC 17:=mkC Tryz.f17
def zqs : SC 26:=mkC Tryz.f26
def zlC : SC 29:=mkC Tryz.f29
def zlN : SC 30:=mkC Tryz.f30
def zp2 : SC 31:=mkC Tryz.f31
def zi3 : SC 33:=mkC Tryz.f33
def znQ : SC 34:=mkC Tryz.f34
def zpQ : SC 35:=mkC Tryz.f35
def zrM : SC 37:=mkC Tryz.f37
def zg0 : SC 38:=mkC Tryz.f38
def zk1 : SC 39:=mkC Tryz.f39
def zg4 : SC 41:=mkC Tryz.f41
def zhR : SC 44:=mkC Tryz.f44
def zdj : SC 51:=mkC Tryz.f51
def znK : SC 57:=mkC Tryz.f57
def zhu : SC 58:=mkC Tryz.f58
def zoc : SC 59:=mkC Tryz.f59
def zmp : SC 68:=mkC Tryz.f68
def zl5 : SC 69:=mkC Tryz.f69
def zkP : SC 75:=mkC Tryz.f75
def zbH : SC 76:=mkC Tryz.f76
def ziw : SC 77:=mkC Tryz.f77
def zdH : SC 78:=mkC Tryz.f78
def zht : SC 79:=mkC Tryz.f79
def ziQ : SC 80:=mkC Tryz.f80
def zqF : SC 81:=mkC Tryz.f81
def zcY : SC 82:=mkC Tryz.f82
def zha : SC 83:=mkC Tryz.f83
def zga : SC 88:=mkC Tryz.f88
def zcm : SC 89:=mkC Tryz.f89
def zf1 : SC 90:=mkC Tryz.f90
def zcC : SC 94:=mkC Tryz.f94
def zlM : SC 107:=mkC Tryz.f107
def zkU : SC 108:=mkC Tryz.f108
def zea : SC 109:=mkC Tryz.f109
def zi4 : SC 113:=mkC Tryz.f113
def zjh : SC 114:=mkC Tryz.f114
def zpM : SC 119:=mkC Tryz.f119
def zkr : SC 120:=mkC Tryz.f120
def zbd : SC 126:=mkC Tryz.f126
def zcg : SC 127:=mkC Tryz.f127
def zbM : SC 128:=mkC Tryz.f128
def zi7 : SC 129:=mkC Tryz.f129
def zcx : SC 130:=mkC Tryz.f130
def zc2 : SC 131:=mkC Tryz.f131
def zdk : SC 134:=mkC Tryz.f134
def znG : SC 144:=mkC Tryz.f144
def zjp : SC 145:=mkC Tryz.f145
def zd7 : SC 155:=mkC Tryz.f155
def zd4 : SC 166:=mkC Tryz.f166
def zcd : SC 169:=mkC Tryz.f169
def zdv : SC 172:=mkC Tryz.f172
def zr8 : SC 174:=mkC Tryz.f174
abbrev ints (l : List Int) : AV:=.vs 1 false (l.map λ n=>[AV.I n])
theorem zmf (l : List Int) (n : Int) (hl : l.length<=140737488355328) : AcP 26 [ints l,.I n] [] (.B (l.contains n)) []:=by
 refine zqs.s.acalls (nbz rfl) (by simp) (by simp) ?_
 show awp _ 0 _ _ ⟨18,[(0,ints l),(1,.I n)],[],16⟩;refine zab (zal (s:=?s1) rfl ?o1 ?q1)
 case o1=>simp; rfl
 refine zab (zab (zal (s:=?s2) rfl ?o2 ?q2))
 case o2=>simp; rfl
 refine zad (zaj (ι:=Nat) (λ k=>{ sz:=18,t:=[(0,ints l),(1,.I n),(5,.I k)],h:=[],n:=16 }) (λ k=>k<=l.length/\n∉l.take k) (λ k=>l.length - k) 0 (by simp) ?_ ?_)
 .refine Le.slots rfl rfl ?_
  simp [ints]
 .rintro k ⟨hk,hn⟩
  refine zab (zab (zal (s:=?s3) rfl ?o3 ?q3))
  case o3=>simp; rfl
  refine zac _ rfl ?_ ?_
  .intro hlt
   simp only [Qe,Int.ofNat_lt] at hlt;show awp _ _ _ _ _;refine zab (zad (zab (zal (s:=?s4) rfl ?o4 ?q4)))
   case o4=>simp [hlt]; rfl
   refine zac _ rfl ?_ ?_
   .intro heq
    refine zab (zal (s:=?s5) rfl ?o5 ?q5)
    case o5=>simp; rfl
    refine ⟨.inr rfl,zao.one ?_⟩;have : n∈l:=by simp at heq; simp [<- heq]
    simp [this]
   .intro hne
    refine zae (zal (s:=?s6) rfl ?o6 ?q6)
    case o6=>simp; rfl
    refine ⟨k+1,⟨by omega,?_⟩,by omega,Le.slots rfl rfl ?_⟩
    .intro hm
     simp at hne;rw [Qp hlt] at hm;rcases Qo.1 hm with h | h
     .exact hn h
     .exact hne (QB.1 h).symm
    .have hw : IntKind.i64.wrap ((k : Int)+1)=((k+1 : Nat) : Int):=w6
     simp [Wk.refl,hw]
  .intro hge
   refine zai (hit ?_);refine zab (zal (s:=?s7) rfl ?o7 ?q7)
   case o7=>simp; rfl
   refine zah ⟨.inr rfl,zao.one ?_⟩;simp at hge
   have : n∉l:=by
    have : l.take k=l:=Qb hge;rw [this] at hn;exact hn
   simp [this]
theorem zo3 (x : Int) : AcP 114 [.I x] [] (.B false) []:=by
 refine zjh.s.ac ?_;show awp _ 0 _ _ ⟨6,[(0,.I x)],[],16⟩;refine zab (zal (s:=?s1) rfl ?o1 ?q1)
 case o1=>simp; rfl
 refine zab (zal (s:=?s2) rfl ?o2 ?q2)
 case o2=>simp; rfl
 exact zaI
theorem zaJ (n lo hi : Int) : AcP 37 [.I n,.I lo,.I hi] [] (.B (decide (lo<=n) && decide (n<=hi))) []:=by
 refine zrM.s.ac ?_;show awp _ 0 _ _ ⟨15,[(0,.I n),(1,.I lo),(2,.I hi)],[],16⟩;refine zab (zal (s:=?s1) rfl ?o1 ?q1)
 case o1=>simp; rfl
 by_cases h : lo<=n
 .refine zab (zal (s:=?s2) rfl ?o2 ?q2)
  case o2=>simp [h]; rfl
  exact zah ⟨.inr rfl,zao.one (by simp [h])⟩
 .refine zab (zal (s:=?s3) rfl ?o3 ?q3)
  case o3=>simp [h]; rfl
  exact zah ⟨.inr rfl,zao.one (by simp [h])⟩
def cmpI (x y : Int) : Int:=if x<y then -1 else if x > y then 1 else 0
theorem zgk (x y : Int) : AcP 58 [.I x,.I y] [] (.I (cmpI x y)) []:=by
 refine zhu.s.ac ?_;show awp _ 0 _ _ ⟨20,[(0,.I x),(1,.I y)],[],16⟩;refine zab (zal (s:=?s1) rfl ?o1 ?q1)
 case o1=>simp; rfl
 refine zab (zal (s:=?s2) rfl ?o2 ?q2)
 case o2=>simp; refine zau (zo3 _) rfl ?_; simp; rfl
 refine zab (zal (s:=?s3) rfl ?o3 ?q3)
 case o3=>simp; refine zau (zo3 _) rfl ?_; simp; rfl
 refine zab (zab (zal (s:=?s4) rfl ?o4 ?q4))
 case o4=>simp; rfl
 refine zac _ rfl (λ h=>by cases h) λ _=>zae ?_
 refine zab (zab (zal (s:=?s5) rfl ?o5 ?q5))
 case o5=>simp; rfl
 refine zac _ rfl (λ h=>by cases h) λ _=>zae ?_
 refine zab (zab (zal (s:=?s6) rfl ?o6 ?q6))
 case o6=>simp; rfl
 refine zac _ rfl (λ h=>?_) λ h1=>zae ?_
 .refine zab (zal (s:=?s7) rfl ?o7 ?q7)
  case o7=>simp; rfl
  exact zah ⟨.inr rfl,zao.one (by simp at h; simp [cmpI,h])⟩
 refine zab (zab (zal (s:=?s8) rfl ?o8 ?q8))
 case o8=>simp; rfl
 refine zac _ rfl (λ h=>?_) λ h2=>zae ?_
 .refine zab (zal (s:=?s9) rfl ?o9 ?q9)
  case o9=>simp; rfl
  exact zah ⟨.inr rfl,zao.one (by simp at h h1; simp [cmpI,h,Int.not_lt.2 h1])⟩
 refine zab (zal (s:=?s10) rfl ?o10 ?q10)
 case o10=>simp; rfl
 exact zah ⟨.inr rfl,zao.one (by simp at h1 h2; simp [cmpI,Int.not_lt.2 h1,Int.not_lt.2 h2])⟩
theorem zyd (l : List Int) (hl : l.length<=140737488355328) : AcP 57 [ints l] [] (.I ((l.find? (· != 0)).getD 0)) []:=by
 refine znK.s.ac ?_;show awp _ 0 _ _ ⟨18,[(0,ints l)],[],16⟩;refine zab (zam ?_);refine zab (zam ?_);refine zab (zab (zam ?_));refine zad (zaj (ι:=Nat) (λ k=>⟨18,[(3,.I 0),(6,ints l),(7,.I l.length),(8,.I k)],[],16⟩) (λ k=>k<=l.length/\l.find? (· != 0)=(l.drop k).find? (· != 0)) (λ k=>l.length - k) 0 ?_ (Le.slots rfl rfl ?_) ?_)
 .simp
 .simp
 rintro k ⟨hk,hf⟩
 refine zab (zam ?_);refine zab (zac _ rfl (λ h5=>?_) λ h5=>?_)
 .simp at h5
  rw [QQ h5,List.find?_cons] at hf;refine zae (zab (zad (zab (zal (s:=?s6) rfl ?o6 ?q6))))
  case o6=>simp [h5]; rfl
  refine zab (zam ?_);refine zac _ rfl (λ h8=>?_) λ h8=>?_
  .refine zab (zam ?_)
   refine zah ?_;rw [h8] at hf;exact ⟨.inr rfl,zao.one (by simp [hf])⟩
  refine zae (zam ?_);rw [h8] at hf;have hw : IntKind.i64.wrap ((k : Int)+1)=(k : Int)+1:=w6;refine ⟨k+1,⟨h5,hf⟩,by omega,Le.slots rfl rfl ?_⟩
  simp [hw]
 simp at h5;rw [Um h5] at hf;refine zai (hit (zab (zam ?_)));exact zah ⟨.inr rfl,zao.one (by simp [hf])⟩
structure Ed where
 f : Int
 t : Int
 v : Int
 deriving DecidableEq,Inhabited
abbrev Ed.row (e : Ed) : List AV:=[.I e.f,.I e.t,.I e.v]
abbrev eE (e : Ed) : AV:=.agg [.I e.f,.I e.t,.I e.v]
abbrev eEs (l : List Ed) : AV:=.vs 3 false (l.map λ e=>[.I e.f,.I e.t,.I e.v])
def cmpE (a b : Ed) : Int:=([cmpI a.f b.f,cmpI a.t b.t].find? (· != 0)).getD 0
theorem zhm (a b : Ed) : AcP 145 [eE a,eE b] [] (.I (cmpE a b)) []:=by
 refine zjp.s.ac ?_;show awp _ 0 _ _ ⟨17,[(0,eE a),(1,eE b)],[],16⟩;refine zab (zam ?_);refine zab (zdU (s:=?s2) (tr:=?t2) rfl ?o2 ?r2 ?q2)
 case o2 =>
  simp; refine zau (zgk ..) rfl ?_; simp; refine zau (zgk ..) rfl ?_; simp [zdm];refine zfE [120] (zyd [cmpI a.f b.f,cmpI a.t b.t] (by simp)) (by simp) (.sc _) ?_; simp; constructor <;> rfl
 case r2=>rfl
 exact zah ⟨.inr rfl,zao.one (by simp; exact .refl _)⟩
def idxI (l : List Int) (x : Int) : Int:=if x∈l then (l.idxOf x : Int) else -1
theorem zbN (l : List Int) (x : Int) (hl : l.length<=9223372036854775807) : AcP 109 [ints l,.I x] [] (.I (idxI l x)) []:=by
 refine zea.s.ac ?_;show awp _ 0 _ _ ⟨19,[(0,ints l),(1,.I x)],[],16⟩;refine zab (zam ?_);refine zab (zab (zam ?_));refine zad (zaj (ι:=Nat) (λ k=>⟨19,[(0,ints l),(1,.I x),(6,ints l),(7,.I l.length),(8,.I k)],[],16⟩) (λ k=>k<=l.length/\x∉l.take k) (λ k=>l.length - k) 0 ?_ (Le.slots rfl rfl ?_) ?_)
 .simp
 .simp
 rintro k ⟨hk,hn⟩
 refine zab (zam ?_);refine zab (zac _ rfl (λ h4=>?_) λ h4=>?_)
 .simp at h4
  refine zae (zab (zad (zab (zam ?_))));refine zab (zal (s:=?s6) rfl ?o6 ?q6)
  case o6=>simp [h4]; rfl
  refine zac _ rfl (λ h7=>?_) λ h7=>?_
  .refine zab (zam ?_)
   refine zah ?_;have hm : x∈l:=by simp at h7; rw [h7]; exact Qj h4
   have hi : l.idxOf x=k:=by
    simp at h7;have h1 : l=l.take k++x::l.drop (k+1):=by rw [h7,<- QQ h4,UR]
    rw [h1,List.idxOf_append,if_neg hn,List.idxOf_cons_self];simp;omega
   exact ⟨.inr rfl,zao.one (by simp [idxI,hm,hi])⟩
  refine zae (zam ?_);have hw : IntKind.i64.wrap ((k : Int)+1)=(k : Int)+1:=w6;refine ⟨k+1,⟨h4,?_⟩,by omega,Le.slots rfl rfl ?_⟩
  .intro hm
   simp at h7;rw [Qp h4] at hm;rcases Qo.1 hm with h | h
   .exact hn h
   .exact h7 (QB.1 h)
  .simp [hw]
 simp at h4;refine zai (hit (zab (zam ?_)));refine zah ?_;rw [Qb h4] at hn;exact ⟨.inr rfl,zao.one (by simp [idxI,hn])⟩
theorem zb0 (l : List Int) (x : Int) (hl : l.length<=140737488355328) : AcP 109 [ints l,.I x] [] (.I (idxI l x)) [] :=
 zbN l x (by omega)
theorem zlE (l : List Int) (x : Int) (hl : l.length<=9223372036854775807) : AcP 51 [ints l,.I x] [] (.B (decide (x∈l))) []:=by
 refine zdj.s.ac ?_;show awp _ 0 _ _ ⟨9,[(0,ints l),(1,.I x)],[],16⟩;refine zab (zam ?_);refine zab (zal (s:=?s2) rfl ?o2 ?q2)
 case o2=>simp; refine zau (zbN l x hl) rfl ?_; simp; rfl
 refine zah ?_
 have : decide (0<=idxI l x)=decide (x∈l):=by
  unfold idxI
  by_cases h : x∈l
  .simp [h]
  .simp [h]
 exact ⟨.inr rfl,zao.one (by simp [this])⟩
theorem zbb (l : List Int) (x : Int) (hl : l.length<=140737488355328) : AcP 51 [ints l,.I x] [] (.B (decide (x∈l))) [] :=
 zlE l x (by omega)
def zj8 (l : List Int) (lo hi : Int) (i : Nat) : Prop:=∀ h : i<l.length,lo<=l[i]/\l[i]<=hi/\(0<i->l[i - 1]<l[i])
def Rise (l : List Int) (lo hi : Int) : Prop:=∀ i,zj8 l lo hi i
open Classical in
theorem zhv (l : List Int) (lo hi : Int) (hl : l.length<=9223372036854775807) : AcP 108 [ints l,.I lo,.I hi] [] (.B (decide (Rise l lo hi))) []:=by
 refine zkU.s.ac ?_;show awp _ 0 _ _ ⟨38,[(0,ints l),(1,.I lo),(2,.I hi)],[],16⟩;refine zab (zam ?_);refine zab (zab (zam ?_));refine zad (zaj (ι:=Nat) (λ k=>⟨38,[(0,ints l),(1,.I lo),(2,.I hi),(9,ints l),(10,.I l.length),(11,.I k)],[],16⟩) (λ k=>k<=l.length /\ ∀ i,i<k->zj8 l lo hi i) (λ k=>l.length - k) 0 ?_ (Le.slots rfl rfl ?_) ?_)
 .simp
 .simp
 rintro k ⟨hk,hp⟩
 refine zab (zam ?_);refine zab (zac _ rfl (λ h4=>?_) λ h4=>?_)
 .simp at h4
  have hw : IntKind.i64.wrap ((k : Int)+1)=(k : Int)+1:=w6;refine zae (zab (zad (zab (zal (s:=?s5) rfl ?o5 ?q5))))
  case o5=>simp [h4]; rfl
  refine zab ?_
  by_cases a1 : l[k]<lo
  .refine zal (s:=?s21) rfl ?o21 ?q21
   case o21=>simp [a1]; rfl
   refine zac _ rfl (λ _=>?_) λ h=>by cases h
   refine zab (zam ?_);refine zah ?_;have hn : ¬ Rise l lo hi:=λ h=>by have:=h k h4; omega
   exact ⟨.inr rfl,zao.one (by simp [hn])⟩
  by_cases a2 : hi<l[k]
  .refine zal (s:=?s22) rfl ?o22 ?q22
   case o22=>simp [a1,a2]; rfl
   refine zac _ rfl (λ _=>?_) λ h=>by cases h
   refine zab (zam ?_);refine zah ?_;have hn : ¬ Rise l lo hi:=λ h=>by have:=h k h4; omega
   exact ⟨.inr rfl,zao.one (by simp [hn])⟩
  by_cases a3 : 0<k
  .have hw1 : IntKind.i64.wrap ((k : Int) - 1)=((k - 1 : Nat) : Int):=by rw [w6]; omega
   have h5 : k - 1<l.length:=by omega
   by_cases a4 : l[k]<=l[k - 1]
   .refine zal (s:=?s23) rfl ?o23 ?q23
    case o23=>simp [a1,a2,a3,a4,hw1,h5]; rfl
    refine zac _ rfl (λ _=>?_) λ h=>by cases h
    refine zab (zam ?_);refine zah ?_;have hn : ¬ Rise l lo hi:=λ h=>by have:=h k h4; have:=this.2.2 a3; omega
    exact ⟨.inr rfl,zao.one (by simp [hn])⟩
   .refine zal (s:=?s24) rfl ?o24 ?q24
    case o24=>simp [a1,a2,a3,a4,hw1,h5]; rfl
    refine zac _ rfl (λ h=>by cases h) λ _=>zae ?_
    refine zam ?_;refine ⟨k+1,⟨h4,λ i hi=>?_⟩,by omega,Le.slots rfl rfl ?_⟩
    .rcases QS.1 hi with h | rfl
     .exact hp i h
     .intro _; exact ⟨by omega,by omega,λ _=>by omega⟩
    .simp [hw]
  .refine zal (s:=?s25) rfl ?o25 ?q25
   case o25=>simp [a1,a2,a3]; rfl
   refine zac _ rfl (λ h=>by cases h) λ _=>zae ?_
   refine zam ?_;refine ⟨k+1,⟨h4,λ i hi=>?_⟩,by omega,Le.slots rfl rfl ?_⟩
   .rcases QS.1 hi with h | rfl
    .exact hp i h
    .intro _; exact ⟨by omega,by omega,λ h=>absurd h a3⟩
   .simp [hw]
 simp at h4;refine zai (hit (zab (zam ?_)));refine zah ?_;have hy : Rise l lo hi:=λ i hi=>hp i (by omega) hi
 exact ⟨.inr rfl,zao.one (by simp [hy])⟩
open Classical in
theorem zcR (l : List Int) (lo hi : Int) (hl : l.length<=140737488355328) : AcP 108 [ints l,.I lo,.I hi] [] (.B (decide (Rise l lo hi))) [] :=
 zhv l lo hi (by omega)
structure Gr where
 size : Int
 edges : List Ed
 gone : List Int
abbrev gC (g : Gr) : List AV:=[.I g.size,eEs g.edges,ints g.gone]
abbrev eG (g : Gr) : AV:=.agg (gC g)
abbrev eC (e : Ed) : List AV:=[.I e.f,.I e.t,.I e.v]
def Fits (g : Gr) (e : Ed) : Prop:=0<=e.f/\e.f<=g.size - 1/\0<=e.t/\e.t<=g.size - 1/\e.f≠e.t/\e.f∉g.gone/\e.t∉g.gone
instance (g : Gr) (e : Ed) : Decidable (Fits g e):=by unfold Fits; infer_instance
theorem zk8 (g : Gr) (e : Ed) (hs : 0<=g.size) (hs' : g.size<=64) (hl : g.gone.length<=140737488355328) : AcP 144 [eG g,eE e] [] (.B (decide (Fits g e))) []:=by
 refine znG.s.ac ?_;show awp _ 0 _ _ ⟨42,[(0,eG g),(1,eE e)],[],16⟩;refine zaa ⟨42,[(2,.pv (gC g)),(3,.pv (eC e)),(4,.B false)],[],16⟩ rfl ?_ ?_
 .simp -implicitDefEqProofs
  exact Le.snap [16,24] rfl rfl (by simp)
 have hw : IntKind.i64.wrap (g.size - 1)=g.size - 1:=w6;refine zaa ⟨42,[(4,.B (decide (Fits g e)))],[],16⟩ rfl ?_ ?_
 .simp [hw]
  repeat' first
   | (refine zc8 37 rfl ?_; refine zau (zaJ ..) rfl ?_; simp [hw])
   | (refine zc8 51 rfl ?_; refine zau (zbb _ _ hl) rfl ?_; simp [hw])
   | (refine zcb (λ hb=>?_) (λ hb=>?_) <;> (try rw [hb]) <;> simp [hw])
  all_goals exact Le.snap [] rfl rfl (by simp; exact wkB (by simp at *; grind [Fits]))
 exact zaI
end Go.Proofs.YtkngdgplbojdlaaGreat
