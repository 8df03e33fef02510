/- Texts of this claim,merged. -/
import Derived.Test.YtnaemfpgdmfmcaaGreatDoorProg
import Derived.Test.YtnaemfpgdmfmcaaGreatDoorRa1
import Derived.MapKept
import Derived.Laws.RangeString
import Derived.Lib.OthersKept
import Derived.Laws.BytesArg
import Derived.Laws.Externs
import Derived.Lib.ConvBytes
import Derived.Scope
set_option linter.unusedSimpArgs false
set_option linter.unusedVariables false
set_option linter.unusedSectionVars false
set_option maxRecDepth 100000
set_option maxHeartbeats 8000000
noncomputable section
namespace Go.Proofs.YtnaemfpgdmfmcaaGreatDoor
open Go
variable {T:Nat->Nat} {w:World}
theorem Fe (f:AV->AV) (hf:f .dead = .dead) (l:List AV) (i:Nat):(l.map f).getD i .dead=f (l.getD i .dead):=by
 simp only[List.getD,QH]
 cases l[i]? with
 | none=>simp[hf]
 | some x=>rfl
theorem FU (ρ:List (Nat × Nat)) (sn:List Nat) (h:Nat->Option AD) (n:Nat):conv ρ sn h n .dead = .dead:=by cases n<;>rfl
theorem Wk.rep {x y:AV} (h:Wk x y):∀ {M:GM} {v:Value},AX T w M x v->AX T w M y v:=by
 induction h with
 | refl x=>exact λ h=>h
 | dead x=>exact λ _=>.dead _ _
 | nil s f =>
   intro M v hr
   cases hr;exact .vs _ s f [] none 0 (λ _ _=>undef) (λ _=>rfl) (Qk _) zz (λ h=>absurd rfl h) (λ i j hi=>absurd hi zz) (λ i j hi=>absurd hi zz)
 | mt s c a =>
   intro M v hr
   cases hr;exact .vs _ s false [] a c (λ _ _=>undef) (λ e=>by cases e) (Qn _) zz (λ h=>absurd rfl h) (λ i j hi=>absurd hi zz) (λ i j hi=>absurd hi zz)
 | full s rows =>
   intro M v hr
   cases hr with
   | vs _ _ _ _ a cap c hf q hw hb h1 hh=>exact .vs _ _ _ _ a cap c (λ e=>by cases e) q hw hb h1 hh
 | rows s f xs ys hl hw _ ih =>
   intro M v hr
   cases hr with
   | vs _ _ _ _ a cap c hf q h3 hb h1 hh =>
     have hy:∀ row∈ys,row.length=s:=λ row h0=>by
      obtain⟨i,hi,rfl⟩:=QA.1 h0;have e1:xs.getD i []=xs[i]' zy:=by simp[List.getD,show i<xs.length by omega]
      have e2:ys.getD i []=ys[i]:=by simp[List.getD,hi]
      have:=hw i;rw[e1,e2] at this;rw[<- this];exact h3 _ (Qj _)
     refine hl ▸ .vs _ s f ys a cap c (λ e=>(hf e).trans hl) (hl ▸ q) hy (λ h4=>?_) (λ i j hi hj=>h1 i j zy hj) λ i j hi hj=>ih i j (hh i j zy hj)
     have h2:xs≠[]:=λ e=>h4 (QK (by rw[<- hl,e];rfl))
     obtain⟨b,off,cells,ty,fz,q1,q2,q3,q4⟩:=hb h2;exact⟨b,off,cells,ty,fz,q1,q2,by rw[<- hl];exact q3,λ i j hi hj=>q4 i j zy hj⟩
 | pv xs ys hl _ ih =>
   intro M v hr
   cases hr with
   | pv _ _ b off cells ty fz c hb ht hc h1 hh=>exact .pv _ ys b off cells ty fz c hb (hl ▸ ht) (λ j hj=>hc j zy) (λ j hj=>h1 j zy) λ j hj=>ih j (hh j zy)
 | agg xs ys hl _ ih =>
   intro M v hr
   cases hr with
   | agg _ _ us u h1 hh=>exact .agg _ _ _ (u.trans hl) (λ i hi=>h1 i (hl ▸ hi)) λ i hi=>ih i (hh i (hl ▸ hi))
 | tup xs ys hl _ ih =>
   intro M v hr
   cases hr with
   | tup _ _ us u hh=>exact .tup _ _ _ (u.trans hl) λ i hi=>ih i (hh i (hl ▸ hi))
theorem C7.length:∀ {xs ys:List AV},C7 xs ys->xs.length=ys.length
 | [],[],_=>rfl
 | _::_,_::_,h=>by simp[C7.length h.2]
 | [],_::_,h=>False.elim h
 | _::_,[],h=>False.elim h
theorem C7.get:∀ {xs ys:List AV},C7 xs ys -> ∀ i:Nat,i<xs.length->Wk (xs.getD i .dead) (ys.getD i .dead)
 | x::xs,y::ys,h,0,_=>h.1
 | x::xs,y::ys,h,i+1,hi=>by simpa using C7.get h.2 i (by simpa using hi)
 | [],[],_,i,hi=>absurd hi zz
 | [],_::_,h,_,_=>False.elim h
 | _::_,[],h,_,_=>False.elim h
theorem Oz {M:GM} {hp:Nat->Option AD} (hs:DR T w M hp) (tok:EW T w) (sn:List Nat) :
  ∃ T1:Nat->Nat,(∀ b,T b<=T1 b)/\EW T1 w/\(∀ i∈sn,∀ e g b,hp i=some e->M i=some g->g.blk=some b->T1 b=g.base+e.rows.length*e.s) /\
    (∀ b,(∀ i∈sn,∀ e g,hp i=some e->M i=some g->g.blk≠some b)->T1 b=T b):=by
 classical
 let p:Nat->Nat × AD × GE->Prop:=λ b x=>x.1∈sn/\hp x.1=some x.2.1/\M x.1=some x.2.2/\x.2.2.blk=some b
 let T1:Nat->Nat:=λ b=>if h:∃ x,p b x then (Classical.choose h).2.2.base+(Classical.choose h).2.1.rows.length*(Classical.choose h).2.1.s else T b
 have key:∀ b x,p b x->T1 b=x.2.2.base+x.2.1.rows.length*x.2.1.s:=by
  intro b x hx;have q:∃ x,p b x:=⟨x,hx⟩;have hc:=Classical.choose_spec q;have h1:T1 b=(Classical.choose q).2.2.base+(Classical.choose q).2.1.rows.length*(Classical.choose q).2.1.s:=dif_pos q;rw[h1];have e1:=hs.inj _ _ _ _ _ _ b hc.2.1 hx.2.1 hc.2.2.1 hx.2.2.1 hc.2.2.2 hx.2.2.2;have e2:(Classical.choose q).2.1=x.2.1:=Qc (hc.2.1.symm.trans (by rw[e1];exact hx.2.1))
  have e3:(Classical.choose q).2.2=x.2.2:=Qc (hc.2.2.1.symm.trans (by rw[e1];exact hx.2.2.1))
  rw[e2,e3]
 refine⟨T1,λ b=>?_,λ b hb=>?_,λ i hi e g b h1 h2 h3=>key b (i,e,g) ⟨hi,h1,h2,h3⟩,λ b hb=>?_⟩
 .by_cases h:∃ x,p b x
  .obtain ⟨x,hx⟩:=h
   rw[key b x hx];obtain⟨g,hg,ent⟩:=hs.ent _ _ hx.2.1;obtain rfl:=Qc (hx.2.2.1.symm.trans hg)
   by_cases hz:x.2.1.s=0
   .obtain ⟨b',o,u,h1,h2,h5,h4⟩:=ent.mp hz
    obtain rfl:=Qc (u.symm.trans hx.2.2.2);omega
   obtain⟨cells,ty,h1,h2,h3,h4⟩:=ent.blk hz b hx.2.2.2;have:=Qy x.2.1.s ent.ro;omega
  .have:T1 b=T b:=dif_neg h
   omega
 .by_cases h:∃ x,p b x
  .obtain ⟨x,hx⟩:=h
   rw[key b x hx];obtain⟨g,hg,ent⟩:=hs.ent _ _ hx.2.1;obtain rfl:=Qc (hx.2.2.1.symm.trans hg)
   by_cases hz:x.2.1.s=0
   .obtain ⟨b',o,u,h1,h2,h5,h4⟩:=ent.mp hz
    rw[key b x hx,hz,h5] at hb;omega
   obtain⟨cells,ty,⟨fz,h1,_⟩,h2,h3,h4⟩:=ent.blk hz b hx.2.2.2;exact⟨cells,ty,_,h1,h3⟩
  .have e:T1 b=T b:=dif_neg h
   rw[e] at hb ⊢;exact tok b hb
 .refine dif_neg ?_
  rintro⟨x,hx⟩
  exact hb x.1 hx.1 x.2.1 x.2.2 hx.2.1 hx.2.2.1 hx.2.2.2
theorem KA {T T1:Nat->Nat} {w:World} {M:GM} {hp:Nat->Option AD} (hs:DR T w M hp) (sn:List Nat) (hv:∀ b,T b<=T1 b) (a0:∀ i∈sn,∀ e g b,hp i=some e->M i=some g->g.blk=some b->T1 b=g.base+e.rows.length*e.s) :
  ∀ (n:Nat) (ρ:List (Nat × Nat)) (Mc:GM) (x:AV) (v:Value),(∀ id k,AQ ρ id=some k->Mc k=M id)->AX T w M x v->AX T1 w Mc (conv ρ sn hp n x) v
 | 0,_,_,_,_,_,_=>.dead _ _
 | n+1,ρ,Mc,x,v,hρ,hr=>by
   have ih:=KA hs sn hv a0 n;have pr:Ag T w T1 w:=⟨hv,λ b cells ty fz h=>⟨cells,fz,h,rfl,λ _ _=>rfl⟩⟩;have inner:=λ (y:AV) (u:Value) (h:AX T w M y u)=>ih [] (λ _=>none) y u (λ id k h=>by cases h) h
   cases hr with
   | dead=>exact .dead _ _
   | sc _ _ h1=>exact .sc _ _ h1
   | agg _ cs us hl h1 hh =>
     refine .agg _ _ _ (by simpa using hl) (λ i hi=>h1 i (by simpa using hi)) λ i hi=>?_
     rw[Fe _ (FU _ _ _ _)];exact ih ρ Mc _ _ hρ (hh i (by simpa using hi))
   | tup _ cs us hl hh =>
     refine .tup _ _ _ (by simpa using hl) λ i hi=>?_
     rw[Fe _ (FU _ _ _ _)];exact ih ρ Mc _ _ hρ (hh i (by simpa using hi))
   | vs _ s full rows a cap c hf hl hw hb h1 hh =>
     refine .vs _ s full rows a cap c hf hl hw (λ h8=>?_) h1 λ i j hi hj=>(hh i j hi hj).mono pr λ _ _ e=>e;obtain⟨b,off,cells,ty,fz,ha,a1,hT,hc⟩:=hb h8;exact⟨b,off,cells,ty,fz,ha,a1,QF hT (hv b),hc⟩
   | pv _ cs b off cells ty fz c hb ht hc h1 hh=>exact .pv _ cs b off cells ty fz c hb (QF ht (hv b)) hc h1 λ j hj=>(hh j hj).mono pr λ _ _ e=>e
   | fn _ f xs ys us vs hx hy hh a6 =>
     refine .fn _ f _ _ _ _ (by simpa using hx) (by simpa using hy) (λ i hi=>?_) λ i hi=>?_
     .rw [Fe _ (FU _ _ _ _)]
      exact ih ρ Mc _ _ hρ (hh i (by simpa using hi))
     .rw [Fe _ (FU _ _ _ _)]
      exact ih ρ Mc _ _ hρ (a6 i (by simpa using hi))
   | ifc _ t x v hh=>exact .ifc _ _ _ _ (ih ρ Mc _ _ hρ hh)
   | it _ id g b hg hz hb hi =>
     show AX T1 w Mc (match AQ ρ id with | some k=>AV.it k | none=>AV.dead) _
     split
     .rename_i k hk
      exact .it _ k g b ((hρ id k hk).trans hg) hz hb hi
     .exact .dead _ _
   | mp _ id g b hg hz hb hi =>
     show AX T1 w Mc (match AQ ρ id with | some k=>AV.mp k | none=>AV.dead) _
     split
     .rename_i k hk
      exact .mp _ k g b ((hρ id k hk).trans hg) hz hb hi
     .exact .dead _ _
   | pt _ id i j g b hg hz hb =>
     show AX T1 w Mc (match AQ ρ id with | some k=>AV.pt k i j | none=>if id∈sn then (match hp id with | some e=>(match e.rows[i]? with | some row=>if j<=row.length then AV.pv ((row.drop j).map (conv [] sn hp n)) else AV.dead | none=>AV.dead) | none=>AV.dead) else AV.dead) _
     split
     .rename_i k hk
      exact .pt _ k i j g b ((hρ id k hk).trans hg) hz hb
     .split
      case isFalse=>exact .dead _ _
      rename_i hd;split
      case h_2=>exact .dead _ _
      rename_i e he;split
      case h_2=>exact .dead _ _
      rename_i row h7;split
      case isFalse=>exact .dead _ _
      rename_i a9;obtain⟨g',hm,ent⟩:=hs.ent id e he;obtain rfl:=Qc (hg.symm.trans hm);obtain⟨cells,ty,⟨fz,h1,_⟩,h2,h3,h4⟩:=ent.blk (ent.s ▸ hz) b hb;have hi:i<e.rows.length:=(Qu.1 h7).1;have a8:=ent.wide (ent.s ▸ hz) row (QX h7);have a7:e.rows.getD i []=row:=by simp[List.getD,h7]
      have hS:=ent.s
      have h0:∀ j',j'<((row.drop j).map (conv [] sn hp n)).length -> ∃ u,cells[g.base+i*g.s+j+j']? = some u/\u.oneCell'=true/\AX T w M (row.getD (j+j') .dead) u:=by
       intro j' h9;simp only[QB,UH] at h9;obtain⟨u,hu,ho,h6⟩:=h4 i (j+j') hi zy
       rw[a7] at h6;exact⟨u,by rw[hS,UG];exact hu,ho,h6⟩
      have a4:∀ j',j'<((row.drop j).map (conv [] sn hp n)).length->cells[g.base+i*g.s+j+j']? = some (cells.getD (g.base+i*g.s+j+j') undef):=λ j' h9=>by
       obtain⟨u,hu,_⟩:=h0 j' h9;rw[Eo hu];exact hu
      refine .pv _ _ b (g.base+i*g.s+j) cells ty fz (λ j'=>cells.getD (g.base+i*g.s+j+j') undef) h1 ?_ a4 (λ j' h9=>?_) λ j' h9=>?_
      .rw [a0 id hd e g b he hg hb]
       simp only[QB,UH];have:(i+1)*e.s<=e.rows.length*e.s:=Qy _ hi;rw[QJ] at this;rw[hS];omega
      .obtain ⟨u,hu,ho,_⟩:=h0 j' h9
       rw[Eo hu];exact ho
      .obtain ⟨u,hu,_,h6⟩:=h0 j' h9
       rw[Eo hu,Fe _ (FU _ _ _ _)];have:(row.drop j).getD j' .dead=row.getD (j+j') .dead:=by simp[List.getD]
       rw[this];exact inner _ _ h6
   | rs _ id off len cap a g hg hz hl hn hb =>
     show AX T1 w Mc (match AQ ρ id with | some k=>AV.rs k off len | none=>if id∈sn then (match hp id with | some e=>if off+len<=e.rows.length then AV.vs e.s false (((e.rows.drop off).take len).map (·.map (conv [] sn hp n))) else AV.dead | none=>AV.dead) else AV.dead) _
     split
     .rename_i k hk
      exact .rs _ k off len cap a g ((hρ id k hk).trans hg) hz hl hn hb
     .split
      case isFalse=>exact .dead _ _
      rename_i hd;split
      case h_2=>exact .dead _ _
      rename_i e he;split
      case isFalse=>exact .dead _ _
      rename_i hq;obtain⟨g',hm,ent⟩:=hs.ent id e he;obtain rfl:=Qc (hg.symm.trans hm);have q:(((e.rows.drop off).take len).map (·.map (conv [] sn hp n))).length=len:=zw
      have hS:=ent.s
      have h7:∀ i,i<len->(((e.rows.drop off).take len).map (·.map (conv [] sn hp n))).getD i []=(e.rows.getD (off+i) []).map (conv [] sn hp n):=by
       intro i hi;simp only[List.getD,QH,Un,Q9,if_pos hi]
       cases e.rows[off+i]?<;>rfl
      suffices hS:AX T1 w Mc (.vs e.s false (((e.rows.drop off).take len).map (·.map (conv [] sn hp n)))) (.slice a (((e.rows.drop off).take len).map (·.map (conv [] sn hp n))).length cap) by
       rwa [q] at hS
      cases h5:g.blk with
      | none =>
        have hz:=hn h5;refine .vs _ _ _ _ a cap (λ _ _=>undef) (λ e=>by cases e) (by rw[q];exact hl) (λ r hr=>?_) (λ h8=>?_) (λ i j hi=>?_) (λ i j hi=>?_)
        .have:len=0:=zy
         subst this;simp at hr
        .have:len=0:=zy
         subst this;simp at h8
        all_goals (rw[q] at hi;omega)
      | some b =>
        obtain⟨ha,c1,t1,f1,a1,a2⟩:=hb b h5;obtain⟨cells,ty,⟨fz,h1,_⟩,h2,h3,h4⟩:=ent.blk (ent.s ▸ hz) b h5
        have h0:∀ i j,i<len->j<e.s -> ∃ u,cells[g.base+off*g.s+i*e.s+j]? = some u/\u.oneCell'=true/\AX T w M ((e.rows.getD (off+i) []).getD j .dead) u:=by
         intro i j hi hj;obtain⟨u,hu,ho,h6⟩:=h4 (off+i) j zy hj
         refine⟨u,?_,ho,h6⟩;rw[<- hu,hS,QJ]
         congr 1
         omega
        refine .vs _ _ _ _ a cap (λ i j=>cells.getD (g.base+off*g.s+i*e.s+j) undef) (λ e=>by cases e) (by rw[q];exact hl) (λ r hr=>?_) (λ h8=>?_) (λ i j hi hj=>?_) (λ i j hi hj=>?_)
        .obtain ⟨r0,a3,rfl⟩:=Qh.1 hr
         rw[QB];exact ent.wide (ent.s ▸ hz) r0 (UC (QR a3))
        .have a5:0<len:=by rw[<- q];exact U6.2 h8
         refine⟨b,g.base+off*g.s,cells,ty,fz,?_,h1,?_,λ i j hi hj=>?_⟩
         .rcases ha with ha | ha
          .omega
          .exact ha
         .rw [q,a0 id hd e g b he hg h5,hS]
          have:(off+len)*e.s<=e.rows.length*e.s:=Qy _ hq;rw[QJ] at this;omega
         .rw [q] at hi
          obtain⟨u,hu,_⟩:=h0 i j hi hj;rw[Eo hu];exact hu
        .rw [q] at hi
         obtain⟨u,hu,ho,_⟩:=h0 i j hi hj;rw[Eo hu];exact ho
        .rw [q] at hi
         obtain⟨u,hu,_,h6⟩:=h0 i j hi hj;rw[Eo hu,h7 i hi,Fe _ (FU _ _ _ _)];exact inner _ _ h6
   | rk _ id off len cap a g hg hz hl hn hb =>
     show AX T1 w Mc (match AQ ρ id with | some k=>AV.rs k off len | none=>if id∈sn then (match hp id with | some e=>if off+len<=e.rows.length then AV.vs e.s false (((e.rows.drop off).take len).map (·.map (conv [] sn hp n))) else AV.dead | none=>AV.dead) else AV.dead) _
     split
     .rename_i k hk
      exact .rs _ k off len cap a g ((hρ id k hk).trans hg) hz hl hn hb
     .split
      case isFalse=>exact .dead _ _
      rename_i hd;split
      case h_2=>exact .dead _ _
      rename_i e he;split
      case isFalse=>exact .dead _ _
      rename_i hq;obtain⟨g',hm,ent⟩:=hs.ent id e he;obtain rfl:=Qc (hg.symm.trans hm);have q:(((e.rows.drop off).take len).map (·.map (conv [] sn hp n))).length=len:=zw
      have hS:=ent.s
      have h7:∀ i,i<len->(((e.rows.drop off).take len).map (·.map (conv [] sn hp n))).getD i []=(e.rows.getD (off+i) []).map (conv [] sn hp n):=by
       intro i hi;simp only[List.getD,QH,Un,Q9,if_pos hi]
       cases e.rows[off+i]?<;>rfl
      suffices hS:AX T1 w Mc (.vs e.s false (((e.rows.drop off).take len).map (·.map (conv [] sn hp n)))) (.slice a (((e.rows.drop off).take len).map (·.map (conv [] sn hp n))).length cap) by
       rwa [q] at hS
      cases h5:g.blk with
      | none =>
        have hz:=hn h5;refine .vs _ _ _ _ a cap (λ _ _=>undef) (λ e=>by cases e) (by rw[q];exact hl) (λ r hr=>?_) (λ h8=>?_) (λ i j hi=>?_) (λ i j hi=>?_)
        .have:len=0:=zy
         subst this;simp at hr
        .have:len=0:=zy
         subst this;simp at h8
        all_goals (rw[q] at hi;omega)
      | some b =>
        obtain⟨ha,c1,t1,f1,a1,a2⟩:=hb b h5;obtain⟨cells,ty,⟨fz,h1,_⟩,h2,h3,h4⟩:=ent.blk (ent.s ▸ hz) b h5
        have h0:∀ i j,i<len->j<e.s -> ∃ u,cells[g.base+off*g.s+i*e.s+j]? = some u/\u.oneCell'=true/\AX T w M ((e.rows.getD (off+i) []).getD j .dead) u:=by
         intro i j hi hj;obtain⟨u,hu,ho,h6⟩:=h4 (off+i) j zy hj
         refine⟨u,?_,ho,h6⟩;rw[<- hu,hS,QJ]
         congr 1
         omega
        refine .vs _ _ _ _ a cap (λ i j=>cells.getD (g.base+off*g.s+i*e.s+j) undef) (λ e=>by cases e) (by rw[q];exact hl) (λ r hr=>?_) (λ h8=>?_) (λ i j hi hj=>?_) (λ i j hi hj=>?_)
        .obtain ⟨r0,a3,rfl⟩:=Qh.1 hr
         rw[QB];exact ent.wide (ent.s ▸ hz) r0 (UC (QR a3))
        .have a5:0<len:=by rw[<- q];exact U6.2 h8
         refine⟨b,g.base+off*g.s,cells,ty,fz,?_,h1,?_,λ i j hi hj=>?_⟩
         .rcases ha with ha | ha
          .omega
          .exact ha
         .rw [q,a0 id hd e g b he hg h5,hS]
          have:(off+len)*e.s<=e.rows.length*e.s:=Qy _ hq;rw[QJ] at this;omega
         .rw [q] at hi
          obtain⟨u,hu,_⟩:=h0 i j hi hj;rw[Eo hu];exact hu
        .rw [q] at hi
         obtain⟨u,hu,ho,_⟩:=h0 i j hi hj;rw[Eo hu];exact ho
        .rw [q] at hi
         obtain⟨u,hu,_,h6⟩:=h0 i j hi hj;rw[Eo hu,h7 i hi,Fe _ (FU _ _ _ _)];exact inner _ _ h6
theorem DD {α:Type}:∀ {l:List (Nat × α)} {i:Nat} {a:α},AQ l i=some a->(i,a)∈l
 | (j,b)::l,i,a,h=>by
   simp only[AQ] at h;split at h
   .rename_i e;subst e;cases h;exact Qi
   .exact Qg _ (DD h)
theorem J1 {α:Type}:∀ {l:List (Nat × α)} {i:Nat},AQ l i=none -> ∀ a,(i,a)∉l
 | [],_,_,_=>zz
 | (j,b)::l,i,h,a=>by
   simp only[AQ] at h;split at h
   .cases h
   .rename_i e
    intro hm;rcases Qw.1 hm with h1 | h1
    .cases h1;exact e rfl
    .exact J1 h a h1
theorem SA {l:List Nat} {id k:Nat} (h:AQ l.zipIdx id=some k):l[k]? = some id:=by
 have:=DD h;rw[U0] at this;exact this
theorem rM {l:List Nat} {k id:Nat} (h:AQ (l.zipIdx.map λ (a,b)=>(b,a)) k=some id):l[k]? = some id:=by
 have:=DD h;simp only[Qh,Prod.mk.injEq] at this;obtain⟨⟨a,b⟩,h1,rfl,rfl⟩:=this;rw[U0] at h1;exact h1
section
variable {P:Program} {np:Nat} {T0:Nat->Nat} {M0:GM} {w0:World} {aA:Nat->Prop} {st:St} {T:Nat->Nat} {M:GM} {a:Act} {w:World} {idb:Nat}
variable (tm:∀ i,AX T w M (st.get i) (a.tmps.getD i undef)) (m:BF np T0 M0 w0 aA st.hp T M w) (aC:∀ k,k<8->¬ aA (idb+k)) (aF:np<=idb)
include tm m aC aF
theorem TB (o:Oper) (d7:FuncId) (xs:List AV) (b0:Array Value) (hy:(∃ fn c,P.funcs[d7]? = some fn/\fn.body=some c/\fn.name ≠ "runtime.NumGoroutine")->(execOp a.eval o).run P w = .ok (.enter d7 b0) w) (b1:Ej T w M xs b0) {K:AV->List Nat->List (Nat × Option AD)->Prop} {h0 sn:List Nat} {h9:Bool} {aB:List AV} {hs:List AD} {res:AV} {aE:List (Option AD)} (es:h0.Nodup) (fr:∀ i∈sn,i∉h0) (i1:h9=true -> ∀ i∈sn,np<=i) (ev:C7 (xs.map (conv h0.zipIdx sn st.hp 4)) aB) (d0:h0.map (λ i=>(st.hp i).map (Ab h0.zipIdx sn st.hp 4))=hs.map some) (a8:Bz P d7 aB hs res aE) (fs:aE.length<=hs.length+8) (hpl:h9=true∨(Plain res /\ ∀ e,some e∈aE->GP e)) (hk:K (conv ((h0++(List.range 8).map (idb + ·)).zipIdx.map λ (a,b)=>(b,a)) [] (λ _=>none) 4 res) (h0++sn)
     ((aE.zipIdx.map λ (e,k)=>((h0++(List.range 8).map (idb + ·)).getD k 0,e.map (Ab ((h0++(List.range 8).map (idb + ·)).zipIdx.map λ (a,b)=>(b,a)) [] (λ _=>none) 4))) ++
      (if h9 then sn.filterMap (λ i=>(st.hp i).map λ e=>(i,some { e with ro:=e.rows.length })) else []))) :
  ∃ v rd up,K v rd up/\Dm P np T0 M0 w0 aA idb (st.upd up).hp T M w v ((execOp a.eval o).run P w):=by
 obtain⟨fv,gw,a8⟩:=a8;have hy:=hy fv
 have an:h0.length=hs.length:=by
  have:=congrArg List.length d0
  simpa using this
 have hw:∀ (k i:Nat),h0[k]? = some i -> ∃ e,st.hp i=some e/\hs[k]? = some (Ab h0.zipIdx sn st.hp 4 e):=by
  intro k i ha;have h1:=congrArg (·[k]?) d0
  simp only[QH,ha,Uo] at h1
  cases hq:hs[k]? with
  | none=>rw[hq] at h1;simp at h1
  | some e' =>
    rw[hq] at h1;simp only[Uo,Qq] at h1
    cases hp:st.hp i with
    | none=>rw[hp] at h1;simp at h1
    | some e =>
      rw[hp] at h1;simp only[Uo,Qq] at h1;exact⟨e,rfl,by rw[h1]⟩
 obtain⟨T1,dd,df,b2,a9⟩:=Oz m.hs m.after.tok sn
 let Mc:GM:=λ k=>match h0[k]? with | some i=>M i | none=>none
 have ag:∀ (k i:Nat),h0[k]? = some i->Mc k=M i:=λ k i ha=>by show (match h0[k]? with | some i=>M i | none=>none)=_;rw[ha]
 have ex:∀ k,hs.length<=k->Mc k=none:=λ k hk=>by
  show (match h0[k]? with | some i=>M i | none=>none)=none
  rw[QS zy]
 have b3:∀ id k,AQ h0.zipIdx id=some k->Mc k=M id:=λ id k hl=>ag k id (SA hl);have dn:=λ x v hr=>KA (Mc:=Mc) (x:=x) (v:=v) m.hs sn dd b2 4 h0.zipIdx b3 hr
 have nodupI:∀ (k k' i:Nat),h0[k]? = some i->h0[k']? = some i->k=k':=by
  intro k k' i h1 h2;have hf:k<h0.length:=(Qu.1 h1).1;exact(List.getElem?_inj hf es).1 (h1.trans h2.symm)
 have au:∀ (k i:Nat) e g b,h0[k]? = some i->st.hp i=some e->M i=some g->g.blk=some b->T1 b=T b:=by
  intro k i e g b h1 h2 h3 h4;refine a9 b λ i' hi' e' g' h5 h6 h7=>?_;have:=m.hs.inj i i' e e' g g' b h2 h5 h3 h6 h4 h7;subst this;exact fr i hi' (QX h1)
 have g0:DR T1 w Mc (CW hs):=by
  refine⟨λ k e' f0=>?_,λ k k' e1 e2 g g' b h1 h2 h3 h4 h5 h6=>?_⟩
  .have hf:k<h0.length:=by rw[an];exact(Qu.1 f0).1
   have ha:h0[k]? = some h0[k]:=Qa hf;obtain⟨e,he,heq⟩:=hw k _ ha;obtain rfl:=Qc (f0.symm.trans heq);obtain⟨g,hg,ent⟩:=m.hs.ent _ e he;refine⟨g,(ag k _ ha).trans hg,ent.s,by simpa [Ab] using ent.ro,λ hz r hr=>?_,λ hn=>by simp[Ab,ent.none hn],λ hz=>?_,λ hz b ai=>?_⟩
   .simp only[Ab,Qh] at hr
    obtain⟨r0,ds,rfl⟩:=hr;rw[QB];exact ent.wide hz r0 ds
   .obtain ⟨b,o,hd,q1,q2,q3,q4⟩:=ent.mp hz
    exact⟨b,o,hd,q1,by rw[au k _ e g b ha he hg hd];exact q2,q3,q4.map (λ _=>rfl) λ row _ x _ v hr=>dn x v hr⟩
   .obtain ⟨cells,ty,h1,h2,h3,h4⟩:=ent.blk hz b ai
    refine⟨cells,ty,h1,by rw[au k _ e g b ha he hg ai];exact h2,by simpa [Ab] using h3,λ i j hi hj=>?_⟩
    simp only[Ab,QB] at hi hj ⊢;obtain⟨u,hu,ho,b4⟩:=h4 i j hi hj;refine⟨u,hu,ho,?_⟩
    have e1:(e.rows.map (·.map (conv h0.zipIdx sn st.hp 4))).getD i []=(e.rows.getD i []).map (conv h0.zipIdx sn st.hp 4):=by
     simp only[List.getD,QH]
     cases e.rows[i]?<;>rfl
    rw[e1,Fe _ (FU _ _ _ _)];exact dn _ _ b4
  .have hf:k<h0.length:=by rw[an];exact(Qu.1 h1).1
   have f1:k'<h0.length:=by rw[an];exact(Qu.1 h2).1
   have ha:h0[k]? = some h0[k]:=Qa hf;have b5:h0[k']? = some h0[k']:=Qa f1;obtain⟨ea,g2,_⟩:=hw k _ ha;obtain⟨eb,g3,_⟩:=hw k' _ b5;have:=m.hs.inj _ _ ea eb g g' b g2 g3 ((ag k _ ha).symm.trans h3) ((ag k' _ b5).symm.trans h4) h5 h6;exact nodupI k k' _ ha (by rw[b5,this])
 have f2:Ej T1 w Mc aB b0:=by
  have hl:=ev.length;simp only[QB] at hl;refine⟨b1.1.trans hl,λ i hi=>?_⟩;have h1:=ev.get i (by rw[QB,hl];exact hi)
  rw[Fe _ (FU _ _ _ _)] at h1;exact h1.rep (dn _ _ (b1.2 i (hl ▸ hi)))
 have c4:=a8 T1 Mc w _ df g0 ex f2;refine⟨_,_,_,hk,?_⟩;rw[hy];refine⟨rfl,c4.mono ?_⟩
 rintro e w' ⟨v,T',M',rfl,f3,d1,ht⟩
 let T2:Nat->Nat:=λ b=>if h9 then T' b else if b<w.heap.size then T b else T' b
 let M2:GM:=λ i=>if idb<=i/\i<idb+8 then M' (hs.length+(i - idb)) else M i
 have c5:∀ i g,M i=some g->¬ (idb<=i/\i<idb+8):=λ i g hg hc=>aC (i - idb) zy (by rw[show idb+(i - idb)=i by omega];exact m.dom i g hg)
 have a4:∀ i g,M i=some g->M2 i=some g:=λ i g hg=>by
  show (if _ then _ else _)=_
  rw[if_neg (c5 i g hg)];exact hg
 have a0:∀ b,b<w.heap.size->¬ Fl hs.length Mc b->T' b=T1 b:=ht.old;have b6:∀ b,T b<=T' b:=λ b=>QF (dd b) (ht.pres.le b)
 have av:∀ i e g b,(∀ k:Nat,h0[k]? ≠ some i)->st.hp i=some e->M i=some g->g.blk=some b->¬ Fl hs.length Mc b:=by
  rintro i e g b h1 h2 h3 h4 ⟨k,gk,f4,a5,e3⟩
  have hf:k<h0.length:=zy
  have ha:h0[k]? = some h0[k]:=Qa hf;obtain⟨ek,c6,_⟩:=hw k _ ha;rw[ag k _ ha] at a5;have:=m.hs.inj i _ e ek g gk b h2 c6 h3 a5 h4 e3;exact h1 k (by rw[ha,this])
 have cb:∀ b,w.heap.size<=b->T b=0:=λ b hb=>m.T_zero hb
 have g4:∀ b,T b<=T2 b:=by
  intro b;show T b<=if h9 then T' b else if b<w.heap.size then T b else T' b
  split
  .exact b6 b
  .split
   .exact Qk _
   .rw [cb b zy];exact Qn _
 have d2:∀ b,T2 b<=T' b:=by
  intro b;show (if h9 then T' b else if b<w.heap.size then T b else T' b)<=T' b
  split
  .exact Qk _
  .split
   .exact b6 b
   .exact Qk _
 have e4:∀ b,w.heap.size<=b->T2 b=T' b:=by
  intro b hb;show (if h9 then T' b else if b<w.heap.size then T b else T' b)=T' b
  rw[if_neg (show ¬ b<w.heap.size by omega)]
  simp
 have hv:Ag T w T2 w':=by
  refine⟨g4,λ b cells ty fz g5=>?_⟩;obtain⟨c',f',h1,h2,h3⟩:=ht.pres.cell b cells ty fz g5;exact⟨c',f',h1,h2,λ o ho=>h3 o (Ux ho (dd b))⟩
 have e6:EW T2 w':=by
  intro b hb
  by_cases hr:h9=true
  .have e:T2 b=T' b:=by show (if h9 then T' b else _)=_;rw[hr];rfl
   rw[e] at hb ⊢;exact ht.tok b hb
  .by_cases g9:b<w.heap.size
   .have e:T2 b=T b:=by show (if h9 then T' b else if b<w.heap.size then T b else T' b)=_;rw[if_neg hr,if_pos g9]
    rw[e] at hb ⊢;obtain⟨cells,ty,fz,h1,h2⟩:=m.after.tok b hb;obtain⟨c',f',h3,h4,_⟩:=hv.cell b cells ty fz h1;exact⟨c',ty,f',h3,zy⟩
   .rw [e4 b zy] at hb ⊢
    exact ht.tok b hb
 let nm:List Nat:=h0++(List.range 8).map (idb + ·)
 have f5:∀ (k i:Nat),h0[k]? = some i->nm[k]? = some i:=λ k i ha=>by
  show (h0++_)[k]? = _;rw[QC (Qu.1 ha).1];exact ha
 have d3:∀ (k i:Nat),nm[k]? = some i->h0[k]? = some i∨(hs.length<=k/\k<hs.length+8/\i=idb+(k - hs.length)):=by
  intro k i ha
  by_cases hf:k<h0.length
  .have:nm[k]? = h0[k]?:=QC hf
   exact .inl (this.symm.trans ha)
  .have:nm[k]? = ((List.range 8).map (idb + ·))[k - h0.length]?:=Qs zy
   rw[this] at ha;simp only[QH,Qr] at ha;obtain⟨q,hq,rfl⟩:=ha;obtain⟨hq1,hq2⟩:=Qu.1 hq;simp only[UP] at hq1;simp only[List.getElem_range] at hq2;exact .inr ⟨zy,zy,zy⟩
 have bo:∀ (k i:Nat),nm[k]? = some i->M2 i=M' k:=by
  intro k i ha;rcases d3 k i ha with h1 | ⟨h1,h2,rfl⟩
  .obtain ⟨e,he,_⟩:=hw k i h1
   obtain⟨g,hg,_⟩:=m.hs.ent i e he;rw[a4 i g hg,ht.same k (by rw[<- an];exact(Qu.1 h1).1),ag k i h1,hg]
  .show (if idb<=idb+(k - hs.length)/\idb+(k - hs.length)<idb+8 then M' (hs.length+(idb+(k - hs.length) - idb)) else M _)=_
   rw[if_pos zy]
   congr 1
   omega
 have e7:∀ k id,AQ (nm.zipIdx.map λ (a,b)=>(b,a)) k=some id->M2 id=M' k:=λ k id hl=>bo k id (rM hl)
 have bs:∀ x v,AX T2 w' M' x v->AX T2 w' M2 (conv (nm.zipIdx.map λ (a,b)=>(b,a)) [] (λ _=>none) 4 x) v:=by
  intro x v hr;refine KA (M:=M') (hp:=λ _=>none) ⟨λ id e he=>(by cases he),λ i i' e e' g g' b h1=>(by cases h1)⟩ [] (λ _=>Qk _) (λ i hi=>by cases hi) 4 _ M2 x v e7 hr
 have bt:∀ x v,AX T' w' M' x v->(h9=true∨Plain x)->AX T2 w' M' x v:=by
  intro x v hr hp;rcases hp with hp | hp
  .have e:T2=T':=by funext b;show (if h9 then T' b else _)=_;rw[hp];rfl
   rw[e];exact hr
  .exact hr.plain hp T2
 have a1:∀ i e2,(st.upd ((aE.zipIdx.map λ (e,k)=>((h0++(List.range 8).map (idb + ·)).getD k 0,e.map (Ab ((h0++(List.range 8).map (idb + ·)).zipIdx.map λ (a,b)=>(b,a)) [] (λ _=>none) 4))) ++
   (if h9 then sn.filterMap (λ i=>(st.hp i).map λ e=>(i,some { e with ro:=e.rows.length })) else []))).hp i=some e2 ->
   (∃ (k:Nat) (e:AD),aE[k]? = some (some e)/\nm[k]? = some i/\e2=Ab (nm.zipIdx.map λ (a,b)=>(b,a)) [] (λ _=>none) 4 e) ∨
   (h9=true/\i∈sn/\(∀ k:Nat,h0[k]? ≠ some i) /\ ∃ e,st.hp i=some e/\e2={ e with ro:=e.rows.length }) ∨
   ((∀ k:Nat,h0[k]? ≠ some i)/\st.hp i=some e2/\(h9=true->i∉sn)):=by
  intro i e2 hh;rw[St.hp_upd] at hh
  cases cd:AQ (aE.zipIdx.map λ (e,k)=>((h0++(List.range 8).map (idb + ·)).getD k 0,e.map (Ab ((h0++(List.range 8).map (idb + ·)).zipIdx.map λ (a,b)=>(b,a)) [] (λ _=>none) 4))) i with
  | some r =>
    rw[JD,cd] at hh;have hh:r=some e2:=hh;subst hh;have hm:=DD cd;simp only[Qh,Prod.mk.injEq] at hm;obtain⟨⟨e0,k⟩,h1,h2,h3⟩:=hm;rw[U0] at h1;simp only[Qr] at h3;obtain⟨e,rfl,h3⟩:=h3;have f6:k<aE.length:=(Qu.1 h1).1;have f7:k<nm.length:=by show k<(h0++_).length;simp;omega
    refine .inl ⟨k,e,h1,?_,h3.symm⟩;have:nm.getD k 0=i:=h2;rw[Qa f7,<- this];simp[List.getD,f7]
  | none =>
    rw[JD,cd,Option.none_or] at hh
    have a2:∀ k:Nat,h0[k]? ≠ some i:=by
     intro k ha;have f6:k<aE.length:=by have:=(Qu.1 ha).1;omega
     refine J1 cd (aE[k].map (Ab (nm.zipIdx.map λ (a,b)=>(b,a)) [] (λ _=>none) 4)) (Qh.2 ⟨(aE[k],k),by rw[U0];exact Qa f6,?_⟩)
     have h5:=f5 k i ha;have h6:nm.getD k 0=i:=by simp[List.getD,h5]
     show (nm.getD k 0,_)=_;rw[h6]
    by_cases hr:h9=true
    .rw [if_pos hr] at hh
     cases cl:AQ (sn.filterMap λ i=>(st.hp i).map λ e=>(i,some { e with ro:=e.rows.length })) i with
     | some r =>
       rw[cl] at hh;have hh:r=some e2:=hh;subst hh;have hm:=DD cl;simp only[U2,Qr,Prod.mk.injEq,Qq] at hm;obtain⟨i',h1,e,h2,rfl,h3⟩:=hm;exact .inr (.inl ⟨hr,h1,a2,e,h2,h3.symm⟩)
     | none =>
       rw[cl] at hh;refine .inr (.inr ⟨a2,hh,λ _ ed=>?_⟩);have f8:st.hp i=some e2:=hh;exact J1 cl (some { e2 with ro:=e2.rows.length }) (U2.2 ⟨i,ed,by rw[f8];rfl⟩)
    .rw [if_neg hr] at hh
     exact .inr (.inr ⟨a2,hh,λ h=>absurd h hr⟩)
 have c0:∀ i e g b,(∀ k:Nat,h0[k]? ≠ some i)->st.hp i=some e->M i=some g->g.blk=some b->w'.heap[b]? = w.heap[b]?:=by
  intro i e g b h1 h2 h3 h4;exact ht.keep b (m.block_lt h2 h3 h4) (av i e g b h1 h2 h3 h4)
 have c1:∀ (k:Nat) e,aE[k]? = some (some e)->Eg aE k=some e:=λ k e h=>by simp[Eg,h]
 have eg:∀ (k:Nat) e (i:Nat),aE[k]? = some (some e)->nm[k]? = some i -> ∃ g,M' k=some g/\M2 i=some g/\HR T2 w' M2 (Ab (nm.zipIdx.map λ (a,b)=>(b,a)) [] (λ _=>none) 4 e) g:=by
  intro k e i h1 h2;obtain⟨g,hg,ent⟩:=d1.ent k e (c1 k e h1);refine⟨g,hg,(bo k i h2).trans hg,ent.s,by simpa [Ab] using ent.ro,λ hz r hr=>?_,λ hn=>by simp[Ab,ent.none hn],λ hz=>?_,λ hz b ai=>?_⟩
  .simp only[Ab,Qh] at hr
   obtain⟨r0,ds,rfl⟩:=hr;rw[QB];exact ent.wide hz r0 ds
  .obtain ⟨b,o,hd,q1,q2,q3,q4⟩:=ent.mp hz
   refine⟨b,o,hd,q1,Nat.le_zero.1 (q2 ▸ d2 b),q3,q4.map (λ _=>rfl) λ row c2 x hx v hr=>bs _ _ (bt _ _ hr ?_)⟩;rcases hpl with hpl | hpl
   .exact .inl hpl
   .exact .inr (hpl.2 e (QX h1) row c2 x hx)
  .obtain ⟨cells,ty,h3,h4,h5,h6⟩:=ent.blk hz b ai
   refine⟨cells,ty,h3,QF (d2 b) h4,by simpa [Ab] using h5,λ i' j hi hj=>?_⟩
   simp only[Ab,QB] at hi hj ⊢;obtain⟨u,hu,ho,b4⟩:=h6 i' j hi hj;refine⟨u,hu,ho,?_⟩
   have e1:(e.rows.map (·.map (conv (nm.zipIdx.map λ (a,b)=>(b,a)) [] (λ _=>none) 4))).getD i' []=(e.rows.getD i' []).map (conv (nm.zipIdx.map λ (a,b)=>(b,a)) [] (λ _=>none) 4):=by
    simp only[List.getD,QH]
    cases e.rows[i']?<;>rfl
   rw[e1,Fe _ (FU _ _ _ _)];refine bs _ _ (bt _ _ b4 ?_);rcases hpl with hpl | hpl
   .exact .inl hpl
   .right
    have c2:e.rows.getD i' []=e.rows[i']:=by simp[List.getD,hi]
    have i0:=ent.wide hz _ (Qj hi);have f9:j<e.rows[i'].length:=zy
    rw[c2];have cp:e.rows[i'].getD j .dead=e.rows[i'][j]:=by simp[List.getD,f9]
    rw[cp];exact hpl.2 e (QX h1) _ (Qj hi) _ (Qj f9)
 have fd:∀ i e g b,(∀ k:Nat,h0[k]? ≠ some i)->st.hp i=some e->M i=some g->g.blk=some b->(h9=true->i∉sn)->T2 b=T b:=by
  intro i e g b h1 h2 h3 h4 h5;have hf:=m.block_lt h2 h3 h4;show (if h9 then T' b else if b<w.heap.size then T b else T' b)=T b
  by_cases hr:h9=true
  .rw [if_pos hr,a0 b hf (av i e g b h1 h2 h3 h4)]
   refine a9 b λ i' hi' e' g' h6 h7 h8=>?_;have:=m.hs.inj i i' e e' g g' b h2 h6 h3 h7 h4 h8;subst this;exact h5 hr hi'
  .rw [if_neg hr,if_pos hf]
 have a6:∀ {e:AD} {g:GE},HR T w M e g -> ∀ ro',e.ro<=ro'->ro'<=e.rows.length->(∀ b,g.blk=some b->w'.heap[b]? = w.heap[b]? /\ T2 b<=g.base+ro'*e.s)->HR T2 w' M2 { e with ro:=ro' } g:=by
  intro e g ent ro' i2 gg ai;refine⟨ent.s,gg,ent.wide,ent.none,λ hz=>?_,λ hz b hd=>?_⟩
  .have fi:e.s=0:=hz
   obtain⟨b,o,hd,q1,q2,q3,q4⟩:=ent.mp fi;obtain⟨p1,p2⟩:=ai b hd;rw[q3,fi] at p2;exact⟨b,o,hd,by rw[p1];exact q1,zy,q3,q4.mono hv a4⟩
  obtain⟨cells,ty,h3,h4,h5,h6⟩:=ent.blk hz b hd;obtain⟨q1,q2⟩:=ai b hd;refine⟨cells,ty,by rw[q1];exact h3,q2,h5,λ i' j hi hj=>?_⟩
  obtain⟨u,hu,ho,b4⟩:=h6 i' j hi hj;exact⟨u,hu,ho,b4.mono hv a4⟩
 refine⟨v,T2,M2,rfl,⟨⟨λ i e2 hh=>?_,λ i i' e1 e2 g g' b h1 h2 h3 h4 h5 h6=>?_⟩,λ i g hg=>?_,?_⟩,hv,a4,bs _ _ (bt _ _ f3 (hpl.imp id λ h=>h.1))⟩
 .rcases a1 i e2 hh with ⟨k,e,h1,h2,rfl⟩ | ⟨hr,ed,a2,e,he,rfl⟩ | ⟨a2,he,gs⟩
  .obtain ⟨g,_,h3,h4⟩:=eg k e i h1 h2
   exact⟨g,h3,h4⟩
  .obtain ⟨g,hg,ent⟩:=m.hs.ent i e he
   refine⟨g,a4 i g hg,a6 ent _ ent.ro (Qk _) λ b hd=>⟨c0 i e g b a2 he hg hd,?_⟩⟩;have hf:=m.block_lt he hg hd;have e5:T2 b=T' b:=by show (if h9 then T' b else _)=_;rw[hr];rfl
   rw[e5,a0 b hf (av i e g b a2 he hg hd),b2 i ed e g b he hg hd];exact Qk _
  .obtain ⟨g,hg,ent⟩:=m.hs.ent i e2 he
   refine⟨g,a4 i g hg,a6 ent e2.ro (Qk _) ent.ro λ b hd=>⟨c0 i e2 g b a2 he hg hd,?_⟩⟩;rw[fd i e2 g b a2 he hg hd gs]
   by_cases hz:e2.s=0
   .obtain ⟨b',o,a7,q1,q2,q3,q4⟩:=ent.mp hz
    obtain rfl:=Qc (a7.symm.trans hd);omega
   obtain⟨cells,ty,_,h4,_⟩:=ent.blk hz b hd;exact h4
 .
  have c3:∀ i e2 g b,((h9=true/\i∈sn/\(∀ k:Nat,h0[k]? ≠ some i) /\ ∃ e,st.hp i=some e/\e2={ e with ro:=e.rows.length })∨((∀ k:Nat,h0[k]? ≠ some i)/\st.hp i=some e2/\(h9=true->i∉sn)))->M2 i=some g->g.blk=some b ->
    (∀ k:Nat,h0[k]? ≠ some i) /\ ∃ e,st.hp i=some e/\M i=some g/\b<w.heap.size:=by
   intro i e2 g b hq hg hd
   have:(∀ k:Nat,h0[k]? ≠ some i) /\ ∃ e,st.hp i=some e:=by
    rcases hq with ⟨_,_,h1,e,h2,_⟩ | ⟨h1,h2,_⟩
    .exact ⟨h1,e,h2⟩
    .exact ⟨h1,e2,h2⟩
   obtain⟨h1,e,h2⟩:=this;obtain⟨g1,ej,_⟩:=m.hs.ent i e h2;have:=a4 i g1 ej;rw[hg] at this;obtain rfl:=Qc this;exact⟨h1,e,h2,ej,m.block_lt h2 ej hd⟩
  have cross:∀ (i i' k:Nat) e g g' e2' b,aE[k]? = some (some e)->nm[k]? = some i->M2 i=some g->g.blk=some b ->
    ((h9=true/\i'∈sn/\(∀ k:Nat,h0[k]? ≠ some i') /\ ∃ e,st.hp i'=some e/\e2'={ e with ro:=e.rows.length })∨((∀ k:Nat,h0[k]? ≠ some i')/\st.hp i'=some e2'/\(h9=true->i'∉sn)))->M2 i'=some g'->g'.blk=some b->False:=by
   intro i i' k e g g' e2' b f4 a5 hg hd hq a3 a7;obtain⟨q1,e',q2,q3,q4⟩:=c3 i' e2' g' b hq a3 a7;rcases d3 k i a5 with ha | ⟨r1,r2,r3⟩
   .obtain ⟨ek,c6,_⟩:=hw k i ha
    obtain⟨gk,cq,_⟩:=m.hs.ent i ek c6;have:=a4 i gk cq;rw[hg] at this;obtain rfl:=Qc this;have:=m.hs.inj i i' ek e' g g' b c6 q2 cq q3 hd a7;subst this;exact q1 k ha
   .have cq:M' k=some g:=(bo k i a5).symm.trans hg
    rcases ht.new k g b r1 cq hd with h | h
    .exact av i' e' g' b q1 q2 q3 a7 h
    .omega
  rcases a1 i e1 h1 with ⟨k,e,p1,p2,rfl⟩ | hq1
  .rcases a1 i' e2 h2 with ⟨k',e',p1',p2',rfl⟩ | hq2
   .have q1:M' k=some g:=(bo k i p2).symm.trans h3
    have q2:M' k'=some g':=(bo k' i' p2').symm.trans h4;have:=d1.inj k k' e e' g g' b (c1 k e p1) (c1 k' e' p1') q1 q2 h5 h6;subst this;exact Qc (p2.symm.trans p2')
   .exact (cross i i' k e g g' _ b p1 p2 h3 h5 hq2 h4 h6).elim
  .rcases a1 i' e2 h2 with ⟨k',e',p1',p2',rfl⟩ | hq2
   .exact (cross i' i k' e' g' g _ b p1' p2' h4 h6 hq1 h3 h5).elim
   .obtain ⟨_,ea,q2,q3,_⟩:=c3 i e1 g b hq1 h3 h5
    obtain⟨_,eb,r2,r3,_⟩:=c3 i' e2 g' b hq2 h4 h6;exact m.hs.inj i i' ea eb g g' b q2 r2 q3 r3 h5 h6
 .have a3:(if idb<=i/\i<idb+8 then M' (hs.length+(i - idb)) else M i)=some g:=hg
  by_cases hc:idb<=i/\i<idb+8
  .exact .inr hc
  .rw [if_neg hc] at a3
   exact .inl (m.dom i g a3)
 .have em:∀ b,Fl hs.length Mc b->Fl np M0 b∨w0.heap.size<=b:=by
   rintro b ⟨k,g,f4,a5,e3⟩
   have hf:k<h0.length:=zy
   have ha:h0[k]? = some h0[k]:=Qa hf;rw[ag k _ ha] at a5;exact m.after.blk a5 e3
  refine m.after.step e6 (λ b hb fl=>?_) (λ k hk=>?_) ht.os ht.tape ht.output ht.size (λ b hb hn=>?_) hv λ k g b hk hg hd=>?_
  .have hf:b<w.heap.size:=Ux hb m.after.size
   show (if h9 then T' b else if b<w.heap.size then T b else T' b)=T b
   by_cases hr:h9=true
   .rw [if_pos hr,a0 b hf (λ h=>(em b h).elim fl zy)]
    refine a9 b λ i hi e g h1 h2 h3=>?_;exact(m.after.blk h2 h3).elim fl zy
   .rw [if_neg hr,if_pos hf]
  .show (if idb<=k/\k<idb+8 then _ else M k)=M k
   rw[if_neg zy]
  .exact ht.keep b (Ux hb m.after.size) λ h=>(em b h).elim hn zy
  .have a3:(if idb<=k/\k<idb+8 then M' (hs.length+(k - idb)) else M k)=some g:=hg
   by_cases hc:idb<=k/\k<idb+8
   .rw [if_pos hc] at a3
    rcases ht.new _ g b zy a3 hd with h | h
    .exact em b h
    .have:=m.after.size
     exact .inr zy
   .rw [if_neg hc] at a3
    exact m.after.new k g b hk a3 hd
theorem sD (o:Oper) (c:Call) (f:Operand) (h:o.op = .call c) (hb:c.callee = .value f) (h9:FA P f=none):Ay P np T0 M0 w0 aA st T M a w idb o:=by
 intro K hk;have hc:Aw P o=(.call,AP f::c.args.toList.map AP):=by simp[Aw,h,hb,h9]
 rw[hc] at hk;simp only[Qp,Ub] at hk;have ha:=BG tm f;generalize hX:(AP f).ev st.get=X at *;generalize hd:a.eval f=fv at *
 cases X<;>(try (simp only[aK] at hk;done))
 rename_i fn first aG
 cases fn<;>(try (simp only[aK] at hk;done))
 rename_i fid;simp only[aK] at hk;obtain⟨ids,sn,raise,aB,hs,res,aE,h6,he,hf,hg,h7,u,h0,hpl,hk⟩:=hk
 cases ha with
 | fn _ _ _ _ us vs h8 hm hh hj =>
 have q:(∃ fn c,P.funcs[fid]? = some fn/\fn.body=some c/\fn.name ≠ "runtime.NumGoroutine")->(execOp a.eval o).run P w = .ok (.enter fid (us++c.args.map a.eval++vs)) w:=by
  rintro⟨fnc,cd,hl,h3,h4⟩
  simp[execOp,h,resolve,hb,hd,Deferred.ofValue,invoke,callFunc,hl,h3,h4]
 have h5:Ej T w M (first++c.args.toList.map ((λ x=>x.ev st.get)∘AP)++aG) (us++c.args.map a.eval++vs):=by
  refine⟨zw,λ i hi=>?_⟩
  simp only[Qm,QB,Uk] at hi;simp only[List.getD,Qx]
  by_cases h1:i<first.length
  .rw [QG,QC h1,Array.append_assoc,Uf zy]
   simpa [List.getD,Qx] using hh i h1
  .by_cases h2:i<first.length+c.args.size
   .rw [QG,Qs zy,QC zw,Array.append_assoc,Array.getElem?_append_right zy,Uf zw,h8]
    have hi':i - first.length<c.args.size:=zy
    have:=BG tm c.args[i - first.length]
    simpa [hi'] using this
   .rw [Qs zw,Array.getElem?_append_right zw]
    have:=hj (i - (first.length+c.args.size)) zy
    simp only[List.getD,Qx] at this
    simpa [h8] using this
 exact TB tm m aC aF o fid _ _ q h5 h6 he hf hg h7 u h0 hpl hk
omit tm m aC aF in
theorem bT {q:String} {t:TypeId} {f:FuncId} (h:AQ (LO P q) t=some f):Jo P q t=some (t,f):=by
 have h1:=DD h;unfold LO at h1;rw[U2] at h1;obtain⟨u,_,h2⟩:=h1
 have:u=t:=by
  unfold Jo at h2;split at h2
  .split at h2
   .split at h2
    .cases h2;rfl
    .cases h2
   .cases h2
  .cases h2
 subst this;exact h2
omit tm m aC aF in
theorem bG {q:String} {t:TypeId} {f:FuncId} (h:Jo P q t=some (t,f)) (n:Nat) (v:Value):(method (n+1) t v q).run P w = .ok (f,v) w:=by
 unfold Jo at h;split at h
 case h_2=>cases h
 rename_i i fs hi hu;split at h
 case h_2=>cases h
 rename_i mt hm;split at h
 case h_2=>cases h
 rename_i hp hf
 cases h
 have hp':mt.path.toList=[]:=by
  have:mt.path = #[]:=by simpa using hp
  rw[this]
 have u:mt.path.isEmpty=true:=hp;unfold method;simp[typeInfo,hi,hm,hp',follow,hf,receiverAt,run_underlying hu,Place.get]
theorem nW (o:Oper) (c:Call) (r:Operand) (u:String) (h:o.op = .call c) (hb:c.callee = .invoke r u):Ay P np T0 M0 w0 aA st T M a w idb o:=by
 intro K hk;have hc:Aw P o=(.inv (LO P u),AP r::c.args.toList.map AP):=by simp[Aw,h,hb]
 rw[hc] at hk;simp only[Qp,Ub] at hk;have h9:=BG tm r;generalize hX:(AP r).ev st.get=X at *;generalize ha:a.eval r=fv at *
 cases X<;>(try (simp only[aK] at hk;done))
 rename_i t x;simp only[aK] at hk;obtain⟨fid,ids,sn,raise,aB,hs,res,aE,h5,h6,he,hf,hg,h7,h0,h1,hpl,hk⟩:=hk;have h8:=bT h5
 cases h9 with
 | ifc _ _ _ v hv =>
 have q:(∃ fn c,P.funcs[fid]? = some fn/\fn.body=some c/\fn.name ≠ "runtime.NumGoroutine")->(execOp a.eval o).run P w = .ok (.enter fid (#[v]++c.args.map a.eval)) w:=by
  rintro⟨fnc,cd,hh,h2,h3⟩
  have hj:=λ n=>bG (w:=w) h8 n v
  have hd:∃ n,P.types.size+Made.depth=n+1:=by
   have:Made.depth=1+(Made.depth - 1):=zx
   exact⟨P.types.size+(Made.depth - 1),zy⟩
  obtain⟨n,hn⟩:=hd
  have e0:((#[Value.iface t v]++Array.map a.eval c.args)[0]? : Option Value)=some (.iface t v):=by
   rw[Uf zz];rfl
  have ex:(#[Value.iface t v]++Array.map a.eval c.args).extract 1 (#[Value.iface t v]++Array.map a.eval c.args).size=Array.map a.eval c.args:=by
   apply Array.ext';simp;exact Qb zz
  simp only[execOp,h,resolve,hb,ha,pure_bind,invoke,e0,ex,callMethod];simp[run_program,hn,hj,callFunc,hh,h2,h3]
 have h4:Ej T w M (x::c.args.toList.map ((λ x=>x.ev st.get)∘AP)) (#[v]++c.args.map a.eval):=by
  refine⟨zw,λ i hi=>?_⟩
  cases i with
  | zero =>
    simp only[List.getD,Qx];rw[Uf zz]
    simpa using hv
  | succ i =>
    simp only[QV,QB,Uk] at hi;have hi':i<c.args.size:=zy
    have:=BG tm c.args[i];simp only[List.getD,Qx];rw[Array.getElem?_append_right zz]
    simpa [hi'] using this
 exact TB tm m aC aF o fid _ _ q h4 h6 he hf hg h7 h0 h1 hpl hk
end
end Go.Proofs.YtnaemfpgdmfmcaaGreatDoor
namespace Go.Proofs.YtnaemfpgdmfmcaaGreatDoor
open Go Go.MapKept
variable {e0:AD} {g:GE} {hp':Nat->Option AD}
section
variable {T:Nat->Nat} {w:World} {M:GM}
theorem Cm.length:∀ {rows:List (List AV)} {es:List MapEntry},Cm T w M rows es->rows.length=es.length
 | [],[],_=>rfl
 | _::_,_::_,h=>by simp[Cm.length h.2]
 | [],_::_,h=>False.elim h
 | _::_,[],h=>False.elim h
theorem Cm.keys:∀ {rows:List (List AV)} {es:List MapEntry},Cm T w M rows es -> ∀ e∈es,IsKey (.int .i64) e.key
 | [],[],_,_,h=>nomatch h
 | _::_,e::es,h,x,hx=>by
   rcases Qw.1 hx with rfl | hx
   .obtain ⟨n,_,_,h2,_⟩:=h.1
    rw[h2];rfl
   .exact Cm.keys h.2 x hx
 | [],_::_,h,_,_=>False.elim h
 | _::_,[],h,_,_=>False.elim h
theorem Cm.find (n:Int):∀ {rows:List (List AV)} {es:List MapEntry} (i:Nat),Cm T w M rows es ->
  (∃ j e x,Instr.findNow (.int .i64) (.int .i64 n) es i=some (some (i+j,e.val))/\es[j]? = some e/\e.key = .int .i64 n/\Ce n rows=some x/\AX T w M x e.val /\
   (∀ y v',AX T w M y v'->Cm T w M (A7 n y rows) (es.modify j λ e=>{ e with key:=.int .i64 n,val:=v' }))/\Cm T w M (Bn n rows) (es.eraseIdx j)) ∨
  (Instr.findNow (.int .i64) (.int .i64 n) es i=some none/\Ce n rows=none/\(∀ y v' c,AX T w M y v'->Cm T w M (A7 n y rows) (es++[{ key:=.int .i64 n,val:=v',born:=c }]))/\Cm T w M (Bn n rows) es)
 | [],[],i,_=>.inr ⟨rfl,rfl,λ y v' c hr=>⟨⟨n,y,rfl,rfl,hr⟩,trivial⟩,trivial⟩
 | row::rows,e::es,i,h=>by
   obtain⟨⟨k,x,h1,h2,h3⟩,h4⟩:=h;subst h1
   by_cases q:n=k
   .subst q
    refine .inl ⟨0,e,x,by simp[Instr.findNow,h2,Instr.sameNow],rfl,h2,by simp[Ce],h3,λ y v' hr=>?_,?_⟩
    .simp only[A7,UM,List.modify_zero_cons]
     exact⟨⟨n,y,rfl,rfl,hr⟩,h4⟩
    .simp only[Bn,UM,List.eraseIdx_cons_zero]
     exact h4
   .have hf:Instr.findNow (.int .i64) (.int .i64 n) (e::es) i=Instr.findNow (.int .i64) (.int .i64 n) es (i+1):=by
     have:(n == k)=false:=by simpa using q
     simp[Instr.findNow,h2,Instr.sameNow,this]
    have hm:Ce n ([.sc (.int .i64 k),x]::rows)=Ce n rows:=by simp[Ce,q]
    have hs:∀ y,A7 n y ([.sc (.int .i64 k),x]::rows)=[.sc (.int .i64 k),x]::A7 n y rows:=λ y=>by simp[A7,q]
    have hd:Bn n ([.sc (.int .i64 k),x]::rows)=[.sc (.int .i64 k),x]::Bn n rows:=by simp[Bn,q]
    rcases Cm.find n (i+1) h4 with ⟨j,e',x',q1,q2,q3,q4,q5,q6,q7⟩ | ⟨q1,q2,q3,q4⟩
    .refine .inl ⟨j+1,e',x',by rw[hf,q1];congr 3;omega,q2,q3,by rw[hm,q4],q5,λ y v' hr=>?_,?_⟩
     .rw [hs]
      exact⟨⟨k,x,rfl,h2,h3⟩,q6 y v' hr⟩
     .rw [hd]
      exact⟨⟨k,x,rfl,h2,h3⟩,q7⟩
    .refine .inr ⟨by rw[hf,q1],by rw[hm,q2],λ y v' c hr=>?_,?_⟩
     .rw [hs]
      exact⟨⟨k,x,rfl,h2,h3⟩,q3 y v' c hr⟩
     .rw [hd]
      exact⟨⟨k,x,rfl,h2,h3⟩,q4⟩
 | [],_::_,_,h=>False.elim h
 | _::_,[],_,h=>False.elim h
theorem Cm.set_len {rows:List (List AV)} {es:List MapEntry} (n:Int) (y:AV):Cm T w M rows es->rows.length<=(A7 n y rows).length:=by
 intro h
 induction rows generalizing es with
 | nil=>simp
 | cons row rows ih =>
   cases es with
   | nil=>exact False.elim h
   | cons e es =>
     obtain⟨⟨k,x,h1,_,_⟩,h4⟩:=h;subst h1
     by_cases q:n=k
     .simp [A7,q]
     .simp only[A7,if_neg q,QV]
      exact Nat.succ_le_succ (ih h4)
end
section
variable {np:Nat} {T0:Nat->Nat} {M0:GM} {w0:World} {aA:Nat->Prop} {hp:Nat->Option AD} {T:Nat->Nat} {M:GM} {w:World}
theorem BF.newObj (h:BF np T0 M0 w0 aA hp T M w) {id:Nat} (hid:¬ aA id) (h8:np<=id) {w1:World} {o:Obj} {it:Bool} {rows:List (List AV)} (hO:∀ T w M,Gq T w M it rows o) (hh:w1.heap=w.heap.push o) (os:w1.os=w.os) (tape:w1.tape=w.tape) (output:w1.output=w.output) (h7:hp' id=some { s:=0,rows:=rows }) (q:∀ i e',i≠id->hp' i=some e'->hp i=some e') :
  ∃ M':GM,M' id=some ⟨some w.heap.size,0,0,it⟩/\(∀ i g,M i=some g->M' i=some g)/\BF np T0 M0 w0 (λ i=>aA i∨i=id) hp' T M' w1/\Ag T w T w1:=by
 have old:∀ b o,w.heap[b]? = some o->w1.heap[b]? = some o:=λ b o hb=>by
  have:b<w.heap.size:=(QE.1 hb).1;rw[hh,UU,if_neg zy];exact hb
 have p:Ag T w T w1:=⟨λ _=>Qk _,λ b cells ty fz hb=>⟨cells,fz,old _ _ hb,rfl,λ _ _=>rfl⟩⟩
 have u:M id=none:=by
  cases hm:M id with
  | none=>rfl
  | some g=>exact absurd (h.dom id g hm) hid
 have mm:∀ i g,M i=some g->(λ i=>if i=id then some (GE.mk (some w.heap.size) 0 0 it) else M i) i=some g:=by
  intro i g hg;have:i≠id:=by rintro rfl;rw[u] at hg;cases hg
  simp only[this,Uv];exact hg
 refine⟨λ i=>if i=id then some ⟨some w.heap.size,0,0,it⟩ else M i,zz,mm,⟨⟨λ i e' he=>?_,λ i i' e1 e2 g g' b h1 h2 h3 h4 h5 h6=>?_⟩,λ i g hg=>?_,?_⟩,p⟩
 .by_cases hi:i=id
  .subst hi
   obtain rfl:=Qc (h7.symm.trans he);exact⟨⟨some w.heap.size,0,0,it⟩,if_pos rfl,rfl,Qn _,(λ h=>absurd rfl h),(λ e=>by simp at e),(λ _=>⟨w.heap.size,o,rfl,by rw[hh];simp,h.T_zero (Qk _),rfl,hO _ _ _⟩),λ h=>absurd rfl h⟩
  .have h0:=q i e' hi he
   obtain⟨g,h1,h2⟩:=h.hs.ent i e' h0;refine⟨g,by simp only[hi,Uv];exact h1,h2.mono p mm λ b hb=>⟨?_,rfl⟩⟩
   have:=h.block_lt h0 h1 hb;rw[hh,UU,if_neg zy]
 .by_cases hi:i=id<;>by_cases hi':i'=id
  .rw [hi,hi']
  .rw [if_pos hi] at h3;rw[if_neg hi'] at h4
   obtain rfl:=Qc h3;have:=h.block_lt (q i' e2 hi' h2) h4 h6;simp at h5;omega
  .rw [if_neg hi] at h3;rw[if_pos hi'] at h4
   obtain rfl:=Qc h4;have:=h.block_lt (q i e1 hi h1) h3 h5;simp at h6;omega
  .rw [if_neg hi] at h3;rw[if_neg hi'] at h4
   exact h.hs.inj i i' e1 e2 g g' b (q i e1 hi h1) (q i' e2 hi' h2) h3 h4 h5 h6
 .by_cases hi:i=id
  .exact .inr hi
  .rw [if_neg hi] at hg;exact .inl (h.dom i g hg)
 .refine h.after.step (λ b hb=>?_) (λ _ _ _=>rfl) (λ k hk=>?_) os tape output (by rw[hh];simp) (λ b hb _=>?_) p λ k g b hk hg hb=>?_
  .obtain ⟨c,ty',fz,h1,h2⟩:=h.after.tok b hb
   exact⟨c,ty',fz,old _ _ h1,h2⟩
  .have:k≠id:=zy
   simp only[this,Uv]
  .have:=h.after.size
   rw[hh,UU,if_neg zy]
  .by_cases hi:k=id
   .rw [if_pos hi] at hg
    obtain rfl:=Qc hg;obtain rfl:=Qc hb;exact .inr h.after.size
   .rw [if_neg hi] at hg
    exact h.after.new k g b hk hg hb
theorem BF.writeObj (h:BF np T0 M0 w0 aA hp T M w) {id:Nat} {e:AD} {b:Nat} {o o':Obj} (u:hp id=some e0) (hg:M id=some g) (hb:g.blk=some b) (h8:e0.s=0) (hw:w.heap[b]? = some o) (hz:e.s=0) (ro:e.ro<=e.rows.length) (hm:Gq T w M g.it e.rows o') (hd:∀ c t f,o ≠ .cells c t f) (hf:hp' id=some e) (h9:∀ i e',i≠id->hp' i=some e'->hp i=some e') :
  BF np T0 M0 w0 aA hp' T M { w with heap:=w.heap.setIfInBounds b o' }/\Ag T w T { w with heap:=w.heap.setIfInBounds b o' }:=by
 have q:=heap_set (o':=o') hw
 have p:Ag T w T { w with heap:=w.heap.setIfInBounds b o' }:=by
  refine⟨λ _=>Qk _,λ k c t f hk=>⟨c,f,?_,rfl,λ _ _=>rfl⟩⟩;have hh:k≠b:=by rintro rfl;rw[hw] at hk;exact hd _ _ _ (Qc hk)
  show (w.heap.setIfInBounds b _)[k]? = _;rw[q.2 k hh];exact hk
 obtain⟨g1,h0,ent0⟩:=h.hs.ent id e0 u;obtain rfl:=Qc (hg.symm.trans h0);obtain⟨b',o0,hj,q1,q2,q3,q4⟩:=ent0.mp h8;obtain rfl:=Qc (hb.symm.trans hj)
 have ha:∀ i e' g1 b1,i≠id->hp i=some e'->M i=some g1->g1.blk=some b1->b1≠b:=by
  rintro i e' g1 b1 hi h1 h2 h3 rfl
  exact hi (h.hs.inj i id e' e0 g1 g b1 h1 u h2 hg h3 hb)
 refine⟨⟨⟨λ i e' he=>?_,λ i i' e1 e2 g1 g2 b1 h1 h2 h3 h4 h5 h6=>?_⟩,h.dom,?_⟩,p⟩
 .by_cases hi:i=id
  .subst hi
   obtain rfl:e=e':=Qc (hf.symm.trans he);exact⟨g,hg,ent0.s.trans (h8.trans hz.symm),ro,(λ h=>absurd hz h),(λ hn=>by rw[hb] at hn;cases hn),(λ _=>⟨b,o',hb,q.1,q2,q3,hm.mono p λ _ _ h=>h⟩),λ h=>absurd hz h⟩
  .have hc:=h9 i e' hi he
   obtain⟨g1,h1,h2⟩:=h.hs.ent i e' hc;exact⟨g1,h1,h2.mono p (λ _ _ h=>h) λ b1 h7=>⟨q.2 b1 (ha i e' g1 b1 hi hc h1 h7),rfl⟩⟩
 .have back:∀ i e1,hp' i=some e1 -> ∃ e2,hp i=some e2:=λ i e1 hl=>by
   by_cases hi:i=id
   .exact ⟨e0,by rw[hi];exact u⟩
   .exact ⟨e1,h9 i e1 hi hl⟩
  obtain⟨f1,ho⟩:=back i e1 h1;obtain⟨f2,hq⟩:=back i' e2 h2;exact h.hs.inj i i' f1 f2 g1 g2 b1 ho hq h3 h4 h5 h6
 .refine h.after.step (λ k hk=>?_) (λ _ _ _=>rfl) (λ k hk=>rfl) rfl rfl rfl zz (λ k hk hn=>?_) p λ k g1 b1 hk h0 h7=>h.after.new k g1 b1 hk h0 h7
  .obtain ⟨c,t,f,h1,h2⟩:=h.after.tok k hk
   obtain⟨c',f',e1,e2,_⟩:=p.cell k c t f h1;exact⟨c',t,f',e1,zy⟩
  .refine q.2 k ?_
   rintro rfl
   rcases h.after.blk hg hb with h1 | h1
   .exact hn h1
   .omega
theorem BF.newMap (h:BF np T0 M0 w0 aA hp T M w) {id:Nat} (hid:¬ aA id) (q:np<=id) {w1:World} (hh:w1.heap=w.heap.push (.map #[] 0)) (os:w1.os=w.os) (tape:w1.tape=w.tape) (output:w1.output=w.output) (u:hp' id=some { s:=0,rows:=[] }) (h0:∀ i e',i≠id->hp' i=some e'->hp i=some e') :
  ∃ M':GM,M' id=some ⟨some w.heap.size,0,0,false⟩/\(∀ i g,M i=some g->M' i=some g)/\BF np T0 M0 w0 (λ i=>aA i∨i=id) hp' T M' w1/\Ag T w T w1 :=
 h.newObj (o:=.map #[] 0) (it:=false) (rows:=[]) hid q (λ _ _ _=>⟨rfl,trivial⟩) hh os tape output u h0
theorem BF.writeMap (h:BF np T0 M0 w0 aA hp T M w) {id:Nat} {e:AD} {b:Nat} {es es':Array MapEntry} {q clock':Nat} (u:hp id=some e0) (hg:M id=some g) (hb:g.blk=some b) (h0:e0.s=0) (hw:w.heap[b]? = some (.map es q)) (hz:e.s=0) (ro:e.ro<=e.rows.length) (hm:Cm T w M e.rows es'.toList) (h1:hp' id=some e) (h2:∀ i e',i≠id->hp' i=some e'->hp i=some e') :
  BF np T0 M0 w0 aA hp' T M { w with heap:=w.heap.setIfInBounds b (.map es' clock') }/\Ag T w T { w with heap:=w.heap.setIfInBounds b (.map es' clock') }:=by
 obtain⟨g',h3,ent⟩:=h.hs.ent id e0 u;obtain rfl:=Qc (hg.symm.trans h3);obtain⟨b',o,h4,q1,q2,q3,q4⟩:=ent.mp h0;obtain rfl:=Qc (hb.symm.trans h4);obtain rfl:=Qc (q1.symm.trans hw);exact h.writeObj u hg hb h0 hw hz ro (o':=.map es' clock') ⟨q4.1,hm⟩ (λ _ _ _ e=>by cases e) h1 h2
theorem BF.dropMap (h:BF np T0 M0 w0 aA hp T M w) {id:Nat} {b:Nat} {es es':Array MapEntry} {u clock':Nat} (hc:hp id=some e0) (hg:M id=some g) (hb:g.blk=some b) (hj:e0.s=0) (hw:w.heap[b]? = some (.map es u)) (hd:hp' id=none) (h0:∀ i e',i≠id->hp' i=some e'->hp i=some e') :
  BF np T0 M0 w0 aA hp' T M { w with heap:=w.heap.setIfInBounds b (.map es' clock') }/\Ag T w T { w with heap:=w.heap.setIfInBounds b (.map es' clock') }:=by
 have q:=heap_set (o':=.map es' clock') hw
 have p:Ag T w T { w with heap:=w.heap.setIfInBounds b (.map es' clock') }:=by
  refine⟨λ _=>Qk _,λ k c t f hk=>⟨c,f,?_,rfl,λ _ _=>rfl⟩⟩;have hf:k≠b:=by rintro rfl;rw[hw] at hk;cases hk
  show (w.heap.setIfInBounds b _)[k]? = _;rw[q.2 k hf];exact hk
 have h7:∀ i e',hp' i=some e'->i≠id:=by
  rintro i e' he rfl
  rw[hd] at he
  cases he
 have h9:∀ i e' g1 b1,i≠id->hp i=some e'->M i=some g1->g1.blk=some b1->b1≠b:=by
  rintro i e' g1 b1 hi h1 h2 h3 rfl
  exact hi (h.hs.inj i id e' e0 g1 g b1 h1 hc h2 hg h3 hb)
 refine⟨⟨⟨λ i e' he=>?_,λ i i' e1 e2 g1 g2 b1 h1 h2 h3 h4 h5 h6=>?_⟩,h.dom,?_⟩,p⟩
 .have hi:=h7 i e' he
  have ha:=h0 i e' hi he;obtain⟨g1,h1,h2⟩:=h.hs.ent i e' ha;exact⟨g1,h1,h2.mono p (λ _ _ h=>h) λ b1 h8=>⟨q.2 b1 (h9 i e' g1 b1 hi ha h1 h8),rfl⟩⟩
 .exact h.hs.inj i i' e1 e2 g1 g2 b1 (h0 i e1 (h7 i e1 h1) h1) (h0 i' e2 (h7 i' e2 h2) h2) h3 h4 h5 h6
 .refine h.after.step (λ k hk=>?_) (λ _ _ _=>rfl) (λ k hk=>rfl) rfl rfl rfl zz (λ k hk hn=>?_) p λ k g1 b1 hk hh h8=>h.after.new k g1 b1 hk hh h8
  .obtain ⟨c,t,f,h1,h2⟩:=h.after.tok k hk
   obtain⟨c',f',e1,e2,_⟩:=p.cell k c t f h1;exact⟨c',t,f',e1,zy⟩
  .refine q.2 k ?_
   rintro rfl
   rcases h.after.blk hg hb with h1 | h1
   .exact hn h1
   .omega
end
end Go.Proofs.YtnaemfpgdmfmcaaGreatDoor
namespace Go.Proofs.YtnaemfpgdmfmcaaGreatDoor
open Go Go.MapKept
variable {z:Value}
theorem PG {P:Program} {t:TypeId} (h:HB P t=some z):∃ k v i,P.underlying t=some (.map k v)/\P.underlying k=some (.int .i64)/\P.info? v=some i/\i.zero=some z:=by
 unfold HB at h;split at h
 case h_2=>cases h
 rename_i k v hu;split at h
 case h_2=>cases h
 rename_i i hk hi;exact⟨k,v,i,hu,hk,hi,h⟩
theorem ZH {P:Program} {t:TypeId} (h:Gx P t=some z):∃ k v i,P.underlying t=some (.map k v)/\P.underlying k=some .string/\P.info? v=some i/\i.zero=some z:=by
 unfold Gx at h;split at h
 case h_2=>cases h
 rename_i k v hu;split at h
 case h_2=>cases h
 rename_i i hk hi;exact⟨k,v,i,hu,hk,hi,h⟩
theorem Cm.none_of {T:Nat->Nat} {w:World} {M:GM} {es:Array MapEntry} (h:Cm T w M [] es.toList):es = #[]:=by
 have:=h.length;apply Array.ext';exact QK this.symm
section
variable {P:Program} {np:Nat} {T0:Nat->Nat} {M0:GM} {w0:World} {aA:Nat->Prop} {st:St} {T:Nat->Nat} {M:GM} {a:Act} {w:World} {idb:Nat}
variable (tm:∀ i,AX T w M (st.get i) (a.tmps.getD i undef)) (m:BF np T0 M0 w0 aA st.hp T M w) (aC:∀ k,k<8->¬ aA (idb+k)) (aF:np<=idb)
include m
theorem KB {i:Nat} {e:AD} {v:Value} (hr:AX T w M (.mp i) v) (he:st.hp i=some e) (hz:e.s=0) :
  ∃ b es clock g,v = .map (some b)/\M i=some g/\g.blk=some b/\w.heap[b]? = some (.map es clock)/\Cm T w M e.rows es.toList:=by
 cases hr with
 | mp _ _ g b hg h0 hb hi =>
   obtain⟨g',q,ent⟩:=m.hs.ent i e he;obtain rfl:=Qc (hg.symm.trans q);obtain⟨b',o,u,q1,q2,q3,q4⟩:=ent.mp hz;obtain rfl:=Qc (hb.symm.trans u)
   cases o with
   | map es clock=>exact⟨_,es,clock,g,rfl,hg,hb,q1,q4.2⟩
   | stringIter s p=>rw[hi] at q4;cases q4.1
   | _=>exact False.elim q4
theorem eL {i:Nat} {e:AD} {v:Value} (hr:AX T w M (.it i) v) (he:st.hp i=some e) (hz:e.s=0) :
  ∃ b s p g,v = .pointer (some ⟨b,0,none⟩)/\M i=some g/\g.it=true/\g.blk=some b/\w.heap[b]? = some (.stringIter s p)/\e.rows=[[.sc (.string s),.sc (.int .i64 p)]]:=by
 cases hr with
 | it _ _ g b hg h0 hb hi =>
   obtain⟨g',q,ent⟩:=m.hs.ent i e he;obtain rfl:=Qc (hg.symm.trans q);obtain⟨b',o,u,q1,q2,q3,q4⟩:=ent.mp hz;obtain rfl:=Qc (hb.symm.trans u)
   cases o with
   | map es clock=>rw[hi] at q4;cases q4.1
   | stringIter s p=>exact⟨_,s,p,g,rfl,hg,hi,hb,q1,q4.2⟩
   | _=>exact False.elim q4
include aC aF in
theorem aJ (o:Oper) (t:TypeId) (h:o.op = .makeMap t none):Ay P np T0 M0 w0 aA st T M a w idb o:=by
 intro K hk;simp only[Aw,h] at hk;split at hk
 case isFalse=>exact False.elim hk
 simp only[List.map,aK] at hk;refine⟨_,_,_,hk,?_⟩
 have q:(execOp a.eval o).run P w = .ok (.value (.map (some w.heap.size))) (w.alloc (.map #[] 0)):=by
  have:(Instr.makeMap t none).run P w = .ok (.map (some w.heap.size)) (w.alloc (.map #[] 0)):=rfl;simp[execOp,h,this]
 rw[q]
 obtain⟨M',h1,h2,h3,h4⟩:=m.newMap (aC 0 zy) aF (w1:=w.alloc (.map #[] 0)) rfl rfl rfl rfl (hp':=(st.upd [(idb,some { s:=0,rows:=[] })]).hp) (by rw[St.hp_upd,QY];simp[AQ]) (λ i e' hi he=>by
  rw[St.hp_upd] at he;rw[QY] at hi
  simpa [AQ,Ne.symm hi] using he)
 exact⟨T,M',h3.wider (λ i hi=>hi.elim .inl λ hi=>.inr zy),h4,h2,.mp _ _ _ _ (by simpa using h1) rfl rfl rfl⟩
include tm
include aC aF in
theorem Z1 (o:Oper) (t:TypeId) (x:Operand) (h:o.op = .range t x):Ay P np T0 M0 w0 aA st T M a w idb o:=by
 intro K hk;simp only[Aw,h] at hk;split at hk
 case h_2=>exact False.elim hk
 rename_i hu;simp only[List.map] at hk;have hr:=BG tm x;generalize hv:a.eval x=v at *;generalize (AP x).ev st.get=X at *
 cases X<;>(try (simp only[aK,aX] at hk;done))
 rename_i q
 cases q<;>(try (simp only[aK,aX] at hk;done))
 rename_i s;simp only[aK,aX] at hk;obtain rfl:=Bo hr rfl;refine⟨_,_,_,hk,?_⟩
 have u:(execOp a.eval o).run P w = .ok (.value (.pointer (some ⟨w.heap.size,0,none⟩))) (w.iter s 0):=by
  simp[execOp,h,hv,run_range_string w t s hu]
 rw[u]
 obtain⟨M',h1,h2,h3,h4⟩:=m.newObj (aC 0 zy) aF (w1:=w.iter s 0) (o:=.stringIter s 0) (it:=true) (rows:=[[.sc (.string s),.sc (.int .i64 0)]]) (λ _ _ _=>⟨rfl,rfl⟩) rfl rfl rfl rfl (hp':=(st.upd [(idb,some { s:=0,rows:=[[.sc (.string s),.sc (.int .i64 0)]] })]).hp) (by rw[St.hp_upd,QY];simp[AQ]) (λ i e' hi he=>by
  rw[St.hp_upd] at he;rw[QY] at hi
  simpa [AQ,Ne.symm hi] using he)
 exact⟨T,M',h3.wider (λ i hi=>hi.elim .inl λ hi=>.inr zy),h4,h2,.it _ _ _ _ (by simpa using h1) rfl rfl rfl⟩
theorem j5 (o:Oper) (x:Operand) (h:o.op = .next x true):Ay P np T0 M0 w0 aA st T M a w idb o:=by
 intro K hk;simp only[Aw,h,List.map] at hk;have hr:=BG tm x;generalize hv:a.eval x=v at *;generalize (AP x).ev st.get=X at *
 cases X<;>(try (simp only[aK,aX] at hk;done))
 rename_i i;simp only[aK,aX] at hk;obtain⟨e,he,h0,s,p,h2,hk⟩:=hk;obtain⟨b,s',p',g,rfl,hg,hit,hb,hw,u⟩:=eL m hr he h0;rw[u] at h2
 have hs:s'=s/\p'=p:=by
  simp at h2;exact⟨h2.1,zy⟩
 obtain⟨rfl,rfl⟩:=hs;split at hk
 case isTrue hp =>
  obtain⟨c,hc,h5,hk⟩:=hk
  have h3:s'[p']=c:=by
   have h1:s'.data.toList[p']? = some s'[p']:=by
    rw[Qa (by exact hp)]
    rfl
   exact Qc (h1.symm.trans hc)
  have q:(execOp a.eval o).run P w = .ok (.value (.tuple #[.bool true,.int .i64 p',.int .i32 c.toNat])) { w with heap:=w.heap.setIfInBounds b (.stringIter s' (p'+1)) }:=by
   have h1:=Lib.run_next_ascii_at (P:=P) w b s' p' o.type hw hp (by rw[h3];exact h5)
   rw[h3] at h1;simp[execOp,h,hv,h1,World.iterAt]
  refine⟨_,_,_,hk,?_⟩;rw[q];have h6:(st.upd [(i,some { e with rows:=[[.sc (.string s'),.sc (.int .i64 (p'+1:Nat))]] })]).hp i=some { e with rows:=[[.sc (.string s'),.sc (.int .i64 (p'+1:Nat))]] }:=by rw[St.hp_upd];simp[AQ]
  have h7:∀ i' e',i'≠i->(st.upd [(i,some { e with rows:=[[.sc (.string s'),.sc (.int .i64 (p'+1:Nat))]] })]).hp i'=some e'->st.hp i'=some e':=λ i' e' h8 h4=>by
   rw[St.hp_upd] at h4
   simpa [AQ,Ne.symm h8] using h4
  obtain⟨g',ha,ent⟩:=m.hs.ent i e he;have h9:e.ro<=1:=by have:=ent.ro;rw[u] at this;exact this
  obtain⟨m1,m2⟩:=m.writeObj he hg hb h0 hw (e:={ e with rows:=[[.sc (.string s'),.sc (.int .i64 (p'+1:Nat))]] }) (o':=.stringIter s' (p'+1)) h0 h9 ⟨hit,rfl⟩ (λ _ _ _ e=>by cases e) h6 h7
  refine⟨T,M,m1.wider λ _ h=>.inl h,m2,λ _ _ h=>h,?_⟩;refine .tup _ _ _ rfl λ j hj=>?_
  match j,hj with
  | 0,_=>exact .sc _ _ rfl
  | 1,_=>exact .sc _ _ rfl
  | 2,_=>exact .sc _ _ rfl
 case isFalse hp =>
  have q:(execOp a.eval o).run P w = .ok (.value (.tuple #[.bool false])) w:=by
   have h1:=Lib.run_next_end_at (P:=P) w b s' p' o.type hw hp;simp[execOp,h,hv,h1]
  refine⟨_,_,_,hk,Bu m (v':=.tuple #[.bool false]) ?_ q⟩;refine .tup _ _ _ rfl λ j hj=>?_
  match j,hj with
  | 0,_=>exact .sc _ _ rfl
theorem wN (o:Oper) (t:TypeId) (x y:Operand) (ok:Bool) (h:o.op = .lookup t x y ok) (hz:Gx P t=some z):∀ K,aK P np idb (.x2 (.mle z ok)) ([AP x,AP y].map (·.ev st.get)) st.hp K -> ∃ v rd up,K v rd up/\Dm P np T0 M0 w0 aA idb (st.upd up).hp T M w v ((execOp a.eval o).run P w):=by
 intro K hk;obtain⟨kt,vt,inf,hu,u,hi,h3⟩:=ZH hz;simp only[List.map] at hk;have hr:=BG tm x;have h4:=BG tm y;generalize hv:a.eval x=v at *;generalize (AP x).ev st.get=X at *;generalize h5:a.eval y=v' at *;generalize (AP y).ev st.get=Y at *
 cases X<;>(try (simp only[aK,aX] at hk;done))
 cases Y<;>(try (simp only[aK,aX] at hk;done))
 rename_i i q
 cases q<;>(try (simp only[aK,aX] at hk;done))
 rename_i sb;simp only[aK,aX] at hk;obtain⟨e,he,h6,h7,hk⟩:=hk;obtain rfl:=Bo h4 rfl;obtain⟨b,es,clock,g,rfl,hg,hb,hw,hm⟩:=KB m hr he h6;rw[h7] at hm;obtain rfl:=hm.none_of;have h0:IsKey .string (.string sb):=trivial;have q1:Instr.findNow .string (.string sb) (#[]:Array MapEntry).toList 0=some none:=rfl;refine⟨_,_,_,hk,?_⟩
 have h1:(Instr.lookup t (.map (some b)) (.string sb) ok).run P w = .ok (if ok then .tuple #[z,.bool false] else z) w:=by
  simp[Instr.lookup,run_underlying hu,Go.MapKept.run_getObj_map hw,run_checkKey u h0,run_findKey u q1,Result.andThen,zeroValue,typeInfo,hi,h3]
 have h2:(execOp a.eval o).run P w = .ok (.value (if ok then .tuple #[z,.bool false] else z)) w:=by simp[execOp,h,hv,h5,h1]
 cases ok with
 | false=>exact Bu m (by simpa using JF z) h2
 | true =>
   refine Bu m (v':=.tuple #[z,.bool false]) ?_ h2;refine .tup _ _ _ rfl λ i hi=>?_
   match i,hi with
   | 0,_=>exact JF z
   | 1,_=>exact .sc _ _ rfl
theorem u9 (o:Oper) (t:TypeId) (x y u:Operand) (h:o.op = .mapUpdate t x y u∨o.op = .insert t x y u) (hz:Gx P t=some z):∀ K,aK P np idb (.x2 .mue) ([AP x,AP y,AP u].map (·.ev st.get)) st.hp K -> ∃ v rd up,K v rd up/\Dm P np T0 M0 w0 aA idb (st.upd up).hp T M w v ((execOp a.eval o).run P w):=by
 intro K hk;obtain⟨kt,vt,inf,hu,h0,hi,hf⟩:=ZH hz;simp only[List.map] at hk;have hr:=BG tm x;have h5:=BG tm y;generalize hv:a.eval x=v at *;generalize (AP x).ev st.get=X at *;generalize h6:a.eval y=v' at *;generalize (AP y).ev st.get=Y at *;generalize h7:a.eval u=v2 at *;generalize (AP u).ev st.get=U at *
 cases X<;>(try (simp only[aK,aX] at hk;done))
 cases Y<;>(try (simp only[aK,aX] at hk;done))
 rename_i i q
 cases q<;>(try (simp only[aK,aX] at hk;done))
 rename_i sb;simp only[aK,aX] at hk;obtain⟨e,he,h1,h8,hk⟩:=hk;obtain rfl:=Bo h5 rfl;obtain⟨b,es,clock,g,rfl,hg,hb,hw,hm⟩:=KB m hr he h1;rw[h8] at hm;obtain rfl:=hm.none_of;have h2:IsKey .string (.string sb):=trivial;have q1:Instr.findNow .string (.string sb) (#[]:Array MapEntry).toList 0=some none:=rfl;have h9:(st.upd [(i,none)]).hp i=none:=by rw[St.hp_upd];simp[AQ]
 have ha:∀ i' e',i'≠i->(st.upd [(i,none)]).hp i'=some e'->st.hp i'=some e':=λ i' e' hc h3=>by
  rw[St.hp_upd] at h3
  simpa [AQ,Ne.symm hc] using h3
 refine⟨_,_,_,hk,?_⟩
 have h4:(Instr.mapUpdate t (.map (some b)) (.string sb) v2).run P w = .ok () { w with heap:=w.heap.setIfInBounds b (.map (#[].push { key:=.string sb,val:=v2,born:=clock }) (clock+1)) }:=by
  simp[Instr.mapUpdate,run_underlying hu,Go.MapKept.run_getObj_map hw,run_checkKey h0 h2,run_findKey h0 q1,Go.MapKept.run_setObj_map _ hw,Result.andThen]
 have hd:(execOp a.eval o).run P w = .ok .skip { w with heap:=w.heap.setIfInBounds b (.map (#[].push { key:=.string sb,val:=v2,born:=clock }) (clock+1)) }:=by
  rcases h with h | h<;>simp[execOp,h,hv,h6,h7,h4]
 rw[hd];obtain⟨m1,m2⟩:=m.dropMap he hg hb h1 hw (es':=#[].push { key:=.string sb,val:=v2,born:=clock }) (clock':=clock+1) h9 ha;exact⟨T,M,m1.wider λ _ h=>.inl h,m2,λ _ _ h=>h,rfl⟩
theorem eH (o:Oper) (t:TypeId) (x y:Operand) (ok:Bool) (h:o.op = .lookup t x y ok):Ay P np T0 M0 w0 aA st T M a w idb o:=by
 intro K hk;simp only[Aw,h] at hk;split at hk
 case h_2 =>
  split at hk
  case h_2=>exact False.elim hk
  rename_i hz;exact wN tm m o t x y ok h hz K hk
 rename_i z hz;obtain⟨kt,vt,inf,hu,h1,hi,h4⟩:=PG hz;simp only[List.map] at hk;have hr:=BG tm x;have h5:=BG tm y;generalize hv:a.eval x=v at *;generalize (AP x).ev st.get=X at *;generalize h3:a.eval y=v' at *;generalize (AP y).ev st.get=Y at *
 cases X<;>(try (simp only[aK] at hk;done))
 cases Y<;>(try (simp only[aK] at hk;done))
 rename_i i q
 cases q<;>(try (simp only[aK] at hk;done))
 rename_i kd n
 cases kd<;>(try (simp only[aK] at hk;done))
 simp only[aK] at hk;obtain⟨e,he,h6,hk⟩:=hk;obtain rfl:=Bo h5 rfl;obtain⟨b,es,clock,g,rfl,hg,hb,hw,hm⟩:=KB m hr he h6;have h2:IsKey (.int .i64) (.int .i64 n):=rfl;rcases hm.find n 0 with ⟨j,en,xv,q1,q2,q3,q4,q5,-,-⟩ | ⟨q1,q2,-,-⟩
 .refine ⟨_,_,_,hk,?_⟩
  rw[q4]
  have u:(Instr.lookup t (.map (some b)) (.int .i64 n) ok).run P w = .ok (if ok then .tuple #[en.val,.bool true] else en.val) w:=by
   simp[Instr.lookup,run_underlying hu,Go.MapKept.run_getObj_map hw,run_checkKey h1 h2,run_findKey h1 q1,Result.andThen]
  have h0:(execOp a.eval o).run P w = .ok (.value (if ok then .tuple #[en.val,.bool true] else en.val)) w:=by simp[execOp,h,hv,h3,u]
  cases ok with
  | false=>exact Bu m (by simpa using q5) h0
  | true =>
    refine Bu m (v':=.tuple #[en.val,.bool true]) ?_ h0;refine .tup _ _ _ rfl λ i hi=>?_
    match i,hi with
    | 0,_=>exact q5
    | 1,_=>exact .sc _ _ rfl
 .refine ⟨_,_,_,hk,?_⟩
  rw[q2]
  have u:(Instr.lookup t (.map (some b)) (.int .i64 n) ok).run P w = .ok (if ok then .tuple #[z,.bool false] else z) w:=by
   simp[Instr.lookup,run_underlying hu,Go.MapKept.run_getObj_map hw,run_checkKey h1 h2,run_findKey h1 q1,Result.andThen,zeroValue,typeInfo,hi,h4]
  have h0:(execOp a.eval o).run P w = .ok (.value (if ok then .tuple #[z,.bool false] else z)) w:=by simp[execOp,h,hv,h3,u]
  cases ok with
  | false=>exact Bu m (by simpa using JF z) h0
  | true =>
    refine Bu m (v':=.tuple #[z,.bool false]) ?_ h0;refine .tup _ _ _ rfl λ i hi=>?_
    match i,hi with
    | 0,_=>exact JF z
    | 1,_=>exact .sc _ _ rfl
theorem Y6 (o:Oper) (t:TypeId) (x y u:Operand) (h:o.op = .mapUpdate t x y u∨o.op = .insert t x y u):Ay P np T0 M0 w0 aA st T M a w idb o:=by
 intro K hk;have hc:Aw P o=(match HB P t with | some _=>(.mup,[AP x,AP y,AP u]) | none=>match Gx P t with | some _=>(.x2 .mue,[AP x,AP y,AP u]) | none=>(.bad,[])):=by rcases h with h | h<;>(unfold Aw;rw[h];rfl)
 rw[hc] at hk
 cases hz:HB P t with
 | none =>
   rw[hz] at hk
   cases h4:Gx P t with
   | none=>rw[h4] at hk;exact False.elim hk
   | some z=>rw[h4] at hk;exact u9 tm m o t x y u h h4 K hk
 | some z =>
 rw[hz] at hk;obtain⟨kt,vt,inf,hu,h3,hi,ho⟩:=PG hz;simp only[List.map] at hk;have hr:=BG tm x;have hl:=BG tm y;have h6:=BG tm u;generalize hv:a.eval x=v at *;generalize (AP x).ev st.get=X at *;generalize h7:a.eval y=v' at *;generalize (AP y).ev st.get=Y at *;generalize h8:a.eval u=v2 at *;generalize (AP u).ev st.get=U at *
 cases X<;>(try (simp only[aK] at hk;done))
 cases Y<;>(try (simp only[aK] at hk;done))
 rename_i i q
 cases q<;>(try (simp only[aK] at hk;done))
 rename_i kd n
 cases kd<;>(try (simp only[aK] at hk;done))
 simp only[aK] at hk;obtain⟨e,he,h0,hk⟩:=hk;obtain rfl:=Bo hl rfl;obtain⟨b,es,clock,g,rfl,hg,hb,hw,hm⟩:=KB m hr he h0;have h1:IsKey (.int .i64) (.int .i64 n):=rfl;obtain⟨g',hq,ent⟩:=m.hs.ent i e he;have h9:=hm.set_len n U;have ha:e.ro<=(A7 n U e.rows).length:=QF ent.ro h9;have hd:(st.upd [(i,some { e with rows:=A7 n U e.rows })]).hp i=some { e with rows:=A7 n U e.rows }:=by rw[St.hp_upd];simp[AQ]
 have hf:∀ i' e',i'≠i->(st.upd [(i,some { e with rows:=A7 n U e.rows })]).hp i'=some e'->st.hp i'=some e':=λ i' e' hn hh=>by
  rw[St.hp_upd] at hh
  simpa [AQ,Ne.symm hn] using hh
 refine⟨_,_,_,hk,?_⟩;rcases hm.find n 0 with ⟨j,en,xv,q1,q2,q3,q4,q5,q6,-⟩ | ⟨q1,q2,q6,-⟩
 .have hj:es[j]? = some en:=by simpa using q2
  have h2:(Instr.mapUpdate t (.map (some b)) (.int .i64 n) v2).run P w = .ok () { w with heap:=w.heap.setIfInBounds b (.map (es.modify j λ e=>{ e with key:=.int .i64 n,val:=v2 }) clock) }:=by
   rw[show (0+j)=j from Uc j] at q1
   simp[Instr.mapUpdate,run_underlying hu,Go.MapKept.run_getObj_map hw,run_checkKey h3 h1,run_findKey h3 q1,hj,q3,run_keyThatStays h1,Go.MapKept.run_setObj_map _ hw,Result.andThen]
  have h5:(execOp a.eval o).run P w = .ok .skip { w with heap:=w.heap.setIfInBounds b (.map (es.modify j λ e=>{ e with key:=.int .i64 n,val:=v2 }) clock) }:=by
   rcases h with h | h<;>simp[execOp,h,hv,h7,h8,h2]
  rw[h5];obtain⟨m1,m2⟩:=m.writeMap he hg hb h0 hw (e:={ e with rows:=A7 n U e.rows }) h0 ha (es':=es.modify j λ e=>{ e with key:=.int .i64 n,val:=v2 }) (clock':=clock) (by simpa using q6 U v2 h6) hd hf
  exact⟨T,M,m1.wider λ _ h=>.inl h,m2,λ _ _ h=>h,rfl⟩
 .have h2:(Instr.mapUpdate t (.map (some b)) (.int .i64 n) v2).run P w = .ok () { w with heap:=w.heap.setIfInBounds b (.map (es.push { key:=.int .i64 n,val:=v2,born:=clock }) (clock+1)) }:=by
   simp[Instr.mapUpdate,run_underlying hu,Go.MapKept.run_getObj_map hw,run_checkKey h3 h1,run_findKey h3 q1,Go.MapKept.run_setObj_map _ hw,Result.andThen]
  have h5:(execOp a.eval o).run P w = .ok .skip { w with heap:=w.heap.setIfInBounds b (.map (es.push { key:=.int .i64 n,val:=v2,born:=clock }) (clock+1)) }:=by
   rcases h with h | h<;>simp[execOp,h,hv,h7,h8,h2]
  rw[h5];obtain⟨m1,m2⟩:=m.writeMap he hg hb h0 hw (e:={ e with rows:=A7 n U e.rows }) h0 ha (es':=es.push { key:=.int .i64 n,val:=v2,born:=clock }) (clock':=clock+1) (by simpa using q6 U v2 clock h6) hd hf
  exact⟨T,M,m1.wider λ _ h=>.inl h,m2,λ _ _ h=>h,rfl⟩
theorem lC (o:Oper) (c:Call) (h:o.op = .call c) (h3:c.callee = .builtin .delete):Ay P np T0 M0 w0 aA st T M a w idb o:=by
 intro K hk;simp only[Aw,h,h3] at hk;split at hk
 case h_2=>exact False.elim hk
 rename_i t ts x y ht hx;have h5:c.args = #[x,y]:=by rw[<- QL (xs:=c.args),hx]
 have h6:c.argTypes[0]? = some t:=by rw[<- Array.getElem?_toList,ht];rfl
 split at hk
 case h_2=>exact False.elim hk
 rename_i z hz;obtain⟨kt,vt,inf,hu,h0,hi,hf⟩:=PG hz;simp only[List.map] at hk;have hr:=BG tm x;have hc:=BG tm y;generalize hv:a.eval x=v at *;generalize (AP x).ev st.get=X at *;generalize h7:a.eval y=v' at *;generalize (AP y).ev st.get=Y at *
 cases X<;>(try (simp only[aK] at hk;done))
 cases Y<;>(try (simp only[aK] at hk;done))
 rename_i i q
 cases q<;>(try (simp only[aK] at hk;done))
 rename_i kd n
 cases kd<;>(try (simp only[aK] at hk;done))
 simp only[aK] at hk;obtain⟨e,he,u,hk⟩:=hk;obtain rfl:=Bo hc rfl;obtain⟨b,es,clock,g,rfl,hg,hb,hw,hm⟩:=KB m hr he u;have h1:IsKey (.int .i64) (.int .i64 n):=rfl;have h8:(st.upd [(i,some { e with rows:=Bn n e.rows,ro:=0 })]).hp i=some { e with rows:=Bn n e.rows,ro:=0 }:=by rw[St.hp_upd];simp[AQ]
 have h9:∀ i' e',i'≠i->(st.upd [(i,some { e with rows:=Bn n e.rows,ro:=0 })]).hp i'=some e'->st.hp i'=some e':=λ i' e' hd ha=>by
  rw[St.hp_upd] at ha
  simpa [AQ,Ne.symm hd] using ha
 refine⟨_,_,_,hk,?_⟩;have h2:∀ {w':World},AX T w' M (.tup []) (.tuple #[]):=.tup _ _ _ rfl λ i hi=>absurd hi (Ut _);rcases hm.find n 0 with ⟨j,en,xv,q1,q2,q3,q4,q5,-,q7⟩ | ⟨q1,q2,-,q7⟩
 .have h4:(execOp a.eval o).run P w = .ok (.value (.tuple #[])) { w with heap:=w.heap.setIfInBounds b (.map (es.eraseIdxIfInBounds j) clock) }:=by
   rw[show (0+j)=j from Uc j] at q1
   simp[execOp,h,resolve,h3,invoke,builtin,Builtin.delete_,h6,h5,hv,h7,run_underlying hu,Go.MapKept.run_getObj_map hw,run_checkKey h0 h1,run_findKey h0 q1,Go.MapKept.run_setObj_map _ hw,Result.andThen]
  rw[h4];obtain⟨m1,m2⟩:=m.writeMap he hg hb u hw (e:={ e with rows:=Bn n e.rows,ro:=0 }) u (Qn _) (es':=es.eraseIdxIfInBounds j) (clock':=clock) (by simpa using q7) h8 h9
  exact⟨T,M,m1.wider λ _ h=>.inl h,m2,λ _ _ h=>h,h2⟩
 .have h4:(execOp a.eval o).run P w = .ok (.value (.tuple #[])) { w with heap:=w.heap.setIfInBounds b (.map es clock) }:=by
   simp[execOp,h,resolve,h3,invoke,builtin,Builtin.delete_,h6,h5,hv,h7,run_underlying hu,Go.MapKept.run_getObj_map hw,run_checkKey h0 h1,run_findKey h0 q1,Go.MapKept.run_setObj_map _ hw,Result.andThen]
  rw[h4];obtain⟨m1,m2⟩:=m.writeMap he hg hb u hw (e:={ e with rows:=Bn n e.rows,ro:=0 }) u (Qn _) (es':=es) (clock':=clock) q7 h8 h9;exact⟨T,M,m1.wider λ _ h=>.inl h,m2,λ _ _ h=>h,h2⟩
end
theorem P5:∀ {rows:List (List AV)} {bs:List UInt8},Gd rows=some bs -> ∃ ns:List Int,rows=ns.map (λ n=>[AV.sc (.int .u8 n)])/\bs=ns.map λ n=>UInt8.ofNat n.toNat
 | [],bs,h=>by simp[Gd] at h;exact⟨[],rfl,h⟩
 | r::rows,bs,h=>by
   unfold Gd at h;split at h
   .rename_i e;cases e
   .rename_i n rest e
    cases e;simp only[Qr] at h;obtain⟨bs',h1,rfl⟩:=h;obtain⟨ns,rfl,rfl⟩:=P5 h1;exact⟨n::ns,rfl,rfl⟩
   .cases h
theorem mB {P:Program} {fn:Func} {s:Nat} (h:Hb P fn=some s):fn.body.isNone=true/\(fn.name == "runtime.NumGoroutine")=false/\Extern.findNext fn=none /\
  Extern.find fn=some (Extern.SlicesOverlaps.overlaps fn.params fn.resultTypes) /\ ∃ t u e,fn.params = #[t,u]/\P.underlying t=some (.slice e)/\CB P e=some s:=by
 unfold Hb at h;split at h
 case isFalse=>cases h
 rename_i hc;simp only[QD,bne_iff_ne,ne_eq,beq_iff_eq,Option.isNone_iff_eq_none] at hc;obtain⟨⟨⟨⟨⟨⟨h1,h2⟩,h3⟩,h4⟩,h5⟩,h6⟩,h7⟩:=hc;have e1:Extern.allNextRows.lookup "slices.overlaps" = none:=rfl;have e2:Extern.allGenericRows.lookup "slices.overlaps" = none:=rfl;have e3:Extern.allTypedRows.lookup "slices.overlaps" = some Extern.SlicesOverlaps.overlaps:=rfl;refine⟨by simp[h1],by simpa using h2,by simp[Extern.findNext,h3,h4,e1],by simp[Extern.find,h3,h5,h6,h7,e2,e3],?_⟩
 split at h
 case h_2=>cases h
 rename_i t u hp;split at h
 case h_2=>cases h
 rename_i e hu;exact⟨t,u,e,by rw[<- QL (xs:=fn.params),hp],hu,h⟩
theorem HZ:∃ (q:Question) (s1 s2:String),∀ (t u:TypeId) (R:Array TypeId) (a b:Option Addr) (la ca lb cb:Nat),Extern.SlicesOverlaps.overlaps #[t,u] R #[.slice a la ca,.slice b lb cb]=(do
  let some t:=(#[t,u]:Array TypeId)[0]? | stuck s1
  let .slice elem <- underlying t | stuck s2
  let size <- sizeOf elem
  match a,b with
  | some a,some b =>
    if la=0∨lb=0∨size=0 then pure (Value.bool false)
    else if a.block != b.block && (<- frozen a) && (<- frozen b) then unsupported .addressObserved
    else do
     if a.block != b.block then do
      noView a;noView b
      if <- mayBeOne a b then return Value.bool ((<- choose q) == 1)
     pure (Value.bool (a.block == b.block && a.off<b.off+lb*size && b.off<a.off+la*size))
  | _,_=>pure (Value.bool false):Sem Value):=⟨_,"none",_,λ _ _ _ _ _ _ _ _ _=>rfl⟩
section
variable {P:Program} {np:Nat} {T0:Nat->Nat} {M0:GM} {w0:World} {aA:Nat->Prop} {st:St} {T:Nat->Nat} {M:GM} {a:Act} {w:World} {idb:Nat}
variable (tm:∀ i,AX T w M (st.get i) (a.tmps.getD i undef)) (m:BF np T0 M0 w0 aA st.hp T M w) (aC:∀ k,k<8->¬ aA (idb+k)) (aF:np<=idb)
include tm m
theorem d5 (o:Oper) (t u:TypeId) (x:Operand) (h:o.op = .convert t u x) (e:TypeId) (h1:P.underlying t=some (.slice e)) (h2:P.underlying u=some .string):Ay P np T0 M0 w0 aA st T M a w idb o:=by
 intro K hk;have hr:=BG tm x;simp only[Aw,h,h1,h2] at hk;split at hk
 case h_2=>exact False.elim hk
 rename_i he;simp only[List.map,aK] at hk;obtain⟨rows,bs,h3,h6,hk⟩:=hk;obtain⟨ad,cap,us,hv,h9,h5,h7,h8⟩:=HE m.hs hr h3;obtain⟨ns,rfl,rfl⟩:=P5 h6;refine⟨_,_,_,hk,Bu m (.sc _ _ rfl) ?_⟩
 have q:us=ns.map (Value.int .u8):=by
  apply List.ext_getElem
  .rw [h5.size];simp
  .intro i hi hi'
   have hl:i<ns.length:=by simpa using hi'
   have:=h5.cell i 0 (by simpa using hl) zy
   have e1:(ns.map λ n=>[AV.sc (.int .u8 n)]).getD i []=[AV.sc (.int .u8 ns[i])]:=by simp[List.getD,hl]
   have e2:us.getD (i*1+0) undef=us[i]:=by simp[List.getD,hi]
   rw[e1,e2] at this;have:=Bo this rfl;rw[this];simp
 have h4:(convert t u (a.eval x)).run P w = .ok (.string ⟨(ns.map λ n=>UInt8.ofNat n.toNat).toArray⟩) w:=by
  rw[hv,run_convert_bytes_string w t u e _ _ _ h1 he h2]
  cases ad with
  | none =>
    have h0:=h7 rfl;rw[q] at h0;have:ns=[]:=by simpa using h0
    subst this;simp[Conv.bytesToString];rfl
  | some ad =>
    have hl:(loadCells ad (ns.map λ n=>[AV.sc (.int .u8 n)]).length).run P w = .ok (ns.map (Value.int .u8)).toArray w:=by
     have:=run_loadCells_list (P:=P) w ad us (h8 ad rfl);rw[q] at this
     simpa using this
    rw[run_bytesToString w ad _ cap ns hl,foldl_push_bytes]
    congr 3
    have h0:ByteArray.empty.data = #[]:=rfl;rw[h0];simp
 simp[execOp,h,h4]
include aC aF in
theorem rN (o:Oper) (t u:TypeId) (x:Operand) (h:o.op = .convert t u x) (e:TypeId) (h1:P.underlying t=some .string) (h2:P.underlying u=some (.slice e)):Ay P np T0 M0 w0 aA st T M a w idb o:=by
 intro K hk;have hr:=BG tm x;simp only[Aw,h,h1,h2] at hk;split at hk
 case h_2=>exact False.elim hk
 rename_i he;simp only[List.map] at hk;generalize hv:a.eval x=v at *;generalize (AP x).ev st.get=X at *
 cases X<;>(try (simp only[aK,aX] at hk;done))
 rename_i q
 cases q<;>(try (simp only[aK,aX] at hk;done))
 rename_i b;simp only[aK,aX] at hk;obtain rfl:=Bo hr rfl;have run:=Lib.run_convert_string_bytes (P:=P) w t u e b h1 h2 he;have hge:b.size<=grownCap w b.size 0 e:=by simp only[grownCap,Question.cut];omega
 have h3:(Lib.bytesCells w e b).size=grownCap w b.size 0 e:=by simp[Lib.bytesCells];omega
 have h0:(Lib.bytesWorld w e b).heap=w.heap.push (.cells (Lib.bytesCells w e b) e ((Lib.bytesCells w e b).size,(Lib.bytesCells w e b).size+1)):=by
  apply Array.ext_getElem?;intro j;rcases Vf j w.heap.size with hj | hj | hj
  .rw [Lib.bytesWorld_at_old w e b j hj,UU,if_neg zy]
  .subst hj
   rw[Lib.bytesWorld_at_new];simp
  .rw [Array.getElem?_eq_none (by rw[Lib.bytesWorld_size];omega),Array.getElem?_eq_none zw]
 have hB:=Tb (T:=T) (w:=w) (M:=M) b
 refine⟨_,_,_,hk,Gn m aC aF (e:={ s:=1,rows:=Dk b }) (w1:=Lib.bytesWorld w e b) (cells:=Lib.bytesCells w e b) (ty:=e)
  (v':=.slice (some ⟨w.heap.size,0,none⟩) b.size (grownCap w b.size 0 e)) ?_ h0 ?_ ?_ ?_ (UI 0) (Qn _) hB.wide ?_ (λ i j hi hj=>?_) _ (by simp[AQ]) (λ i x hi hx=>by simp[AQ] at hx;omega) ?_ (.inr ⟨rfl,rfl⟩)⟩
 .simp [execOp,h,hv,run]
 .simp [Lib.bytesWorld,World.freeze,World.alloc,World.drew,-World.alloc_eq,-World.drew_eq]
 .simp [Lib.bytesWorld,World.freeze,World.alloc,World.drew,-World.alloc_eq,-World.drew_eq]
 .simp [Lib.bytesWorld,World.freeze,World.alloc,World.drew,-World.alloc_eq,-World.drew_eq]
 .rw [h3]
  simp only[KM];omega
 .simp only[KM] at hi
  have hj0:j=0:=by have:j<1:=hj;omega
  subst hj0;have hd:i<b.data.size:=hi;refine⟨.int .u8 (b.data.toList[i]).toNat,?_,rfl,?_⟩
  .show (Lib.bytesCells w e b)[i*1+0]? = _
   rw[Nat.mul_one,QY];simp[Lib.bytesCells,Array.getElem?_append];rw[if_pos hi,Array.getElem?_eq_getElem hd];rfl
  .have e1:(Dk b).getD i []=[AV.sc (.int .u8 (b.data.toList[i]).toNat)]:=by
    have h4:i<b.data.toList.length:=hd;simp[Dk,List.getD,Qa h4]
   show AX T w M (((Dk b).getD i []).getD 0 .dead) _;rw[e1];exact .sc _ _ rfl
 .intro M' h5
  refine .rs _ _ 0 _ _ _ _ h5 (UI 0) hge (λ hn=>by cases hn) λ b' h6=>?_
  obtain rfl:=Qc h6;refine⟨.inr zz,Lib.bytesCells w e b,e,_,Lib.bytesWorld_at_new w e b,?_⟩
  simp[h3]
theorem mW (o:Oper) (c:Call) (f:Operand) (h:o.op = .call c) (hb:c.callee = .value f) {s:Nat} (h4:FA P f=some s):Ay P np T0 M0 w0 aA st T M a w idb o:=by
 intro K hk;have hc:Aw P o=(.ovl s,c.args.toList.map AP):=by simp[Aw,h,hb,h4]
 rw[hc] at hk
 cases f<;>(try (simp[FA] at h4;done))
 rename_i g0;simp only[FA] at h4;split at h4
 case h_2=>cases h4
 rename_i fn hv;obtain⟨h8,h9,ha,hd,t,u,e,hh,h5,hj⟩:=mB h4
 have h2:∀ w,(sizeOf e).run P w = .ok s w:=by
  intro w;simp only[CB,Qr] at hj;obtain⟨i,hi,hs⟩:=hj;simp[sizeOf,typeInfo,hi,hs]
 cases hx:c.args.toList with
 | nil=>rw[hx] at hk;simp[aK] at hk
 | cons x xs =>
 cases xs with
 | nil=>rw[hx] at hk;simp[aK] at hk
 | cons y ys =>
 cases ys with
 | cons z zs=>rw[hx] at hk;simp[aK] at hk
 | nil =>
 have hw:c.args = #[x,y]:=by rw[<- QL (xs:=c.args),hx]
 rw[hx] at hk;simp only[Qp,UN] at hk;have hy:=BG tm x;have a0:=BG tm y;generalize a3:a.eval x=v1 at *;generalize a4:a.eval y=v2 at *;generalize (AP x).ev st.get=X at *;generalize (AP y).ev st.get=Y at *
 cases X<;>(try (simp only[aK] at hk;done))
 cases Y<;>(try (simp only[aK] at hk;done))
 rename_i s1 full rows id off len cap2;simp only[aK] at hk;obtain⟨en,a5,hl,he,a6,a7,hk⟩:=hk;have hm:s=s1:=hl.symm
 clear hl
 subst hm;refine⟨_,_,_,hk,Bu m (.sc _ _ rfl) ?_⟩
 cases hy with
 | vs _ _ _ _ a1 cap1 c1 c6 c3 cb a8 cd cl =>
 cases a0 with
 | rk _ _ _ _ _ a2 g hg hz cp a9 ag =>
 obtain⟨g',ai,ent⟩:=m.hs.ent id en a5;obtain rfl:=Qc (hg.symm.trans ai);have hS:g.s=s:=ent.s.trans he
 have hf:∀ n,n=rows.length->(Extern.SlicesOverlaps.overlaps fn.params fn.resultTypes #[.slice a1 n cap1,.slice a2 len cap2]).run P w = .ok (.bool false) w:=by
  intro n hn;obtain⟨q,s1,s2,HZ⟩:=HZ;rw[hh]
  cases a1 with
  | none=>simp[HZ,run_underlying h5,h2]
  | some x1 =>
  cases a2 with
  | none=>simp[HZ,run_underlying h5,h2]
  | some x2 =>
  by_cases h0:n=0∨len=0∨s=0
  .simp [HZ,run_underlying h5,h2,h0]
  .have an:rows≠[]:=by rintro rfl;simp at hn;omega
   obtain⟨b,o1,cells,ty,fz,au,h6,cq,-⟩:=a8 an;have c4:0<rows.length*s:=Nat.mul_pos zy zy
   obtain⟨cA,tA,fA,hA,d0⟩:=m.after.tok b zy
   rw[h6] at hA;injection hA with hA;injection hA with av b0 b1;subst av b0 b1
   cases h7:g.blk with
   | none=>have:=a9 h7;omega
   | some b2 =>
   obtain⟨b3,-⟩:=ag b2 h7;obtain⟨cB,tB,⟨fzB,hB,hfzB⟩,b4,c5,-⟩:=ent.blk (ent.s ▸ hz) b2 h7
   obtain rfl:fzB=(0,0):=by
    rcases hfzB with hfzB | hfzB
    .exact hfzB
    .exact absurd (he.symm.trans hfzB.1) a6
   have ho:x2=⟨b2,g.base+off*g.s,none⟩:=by
    rcases b3 with h | h
    .omega
    .exact Qc h
   obtain rfl:=Qc au;subst ho;have hq:en.ro*en.s<=off*en.s:=Qy _ a7;rw[he] at hq b4;have b5:w.frozen? ⟨b2,g.base+off*g.s,none⟩=false:=by simp[World.frozen?,hB]
   have hr:w.frozen? ⟨b2,cB.size,none⟩=false:=by simp[World.frozen?,hB]
   have b6:w.shape? b=some (ty,cells.size):=by simp[World.shape?,h6]
   have bo:w.shape? b2=some (tB,cB.size):=by simp[World.shape?,hB]
   by_cases ht:b=b2
   .subst ht
    simp[HZ,run_underlying h5,h2,h0];intro h1;rw[hS,hn];omega
   .have bs:cells.size≠0:=zy
    generalize d1:cells.size=kA at *
    cases kA with
    | zero=>exact absurd rfl bs
    | succ kA =>
      cases bt:w.frozen? ⟨b,o1,none⟩<;>cases c0:w.frozen? ⟨b,kA+1,none⟩ <;>
      simp[HZ,run_underlying h5,h2,h0,ht,frozen,noView,viewAt,mayBeOne,stringish,shape,Sem.run,b6,bo,b5,hr,bt,c0]
 have hu:=hf _ rfl;have h3:=run_callFunc_extern hv h9 h8 ha hd #[.slice a1 rows.length cap1,.slice a2 len cap2] w;rw[hu] at h3;simp only[Result.andThen] at h3;have c2:a.eval (.func g0) = .func (.func g0) #[] #[]:=rfl;simp[execOp,h,resolve,hb,c2,Deferred.ofValue,invoke,hw,a3,a4,h3]
include aC aF
theorem VZ (o:Oper):Ay P np T0 M0 w0 aA st T M a w idb o:=by
 have bad:(Aw P o).1 = .bad->Ay P np T0 M0 w0 aA st T M a w idb o:=by
  intro hb K hk;rw[hb] at hk;exact False.elim (by cases h:(Aw P o).2.map (·.ev st.get)<;>(rw[h] at hk;exact hk))
 cases q:o.op with
 | move x=>exact SJ tm m o x (.inl q)
 | assign x=>exact SJ tm m o x (.inr q)
 | pick c x y=>exact jA tm m o c x y q
 | alloc t=>exact nG m aC aF o t q
 | box t x=>exact mO tm m aC aF o t x q
 | build t ps=>exact jU tm m o t ps q
 | buildSlice t n ps=>exact iA tm m aC aF o t n ps q
 | load t x=>exact uA tm m o t x q
 | store t x y=>exact iC tm m o t x y q
 | nilCheck x=>exact aO tm m o x q
 | binOp op t x y u=>exact oC tm m o op t u x y q
 | unOp op t x=>exact nJ tm m o op t x q
 | convert t u x =>
   cases h1:P.underlying t with
   | none=>exact bad (by simp[Aw,q,h1])
   | some d1 =>
     cases h2:P.underlying u with
     | none=>exact bad (by simp[Aw,q,h1,h2])
     | some d2 =>
       by_cases q1:∃ k k',d1 = .int k/\d2 = .int k'
       .obtain ⟨k,k',rfl,rfl⟩:=q1
        exact tR tm m o t u x q k k' h1 h2
       .by_cases q2:∃ e,d1 = .slice e/\d2 = .string
        .obtain ⟨e,rfl,rfl⟩:=q2
         exact d5 tm m o t u x q e h1 h2
        .by_cases q3:∃ e,d1 = .string/\d2 = .slice e
         .obtain ⟨e,rfl,rfl⟩:=q3
          exact rN tm m aC aF o t u x q e h1 h2
         refine bad ?_;simp only[Aw,q,h1,h2];split
         .rename_i e1 e2;cases e1;cases e2;exact absurd ⟨_,_,rfl,rfl⟩ q1
         .rename_i e1 e2;cases e1;cases e2;exact absurd ⟨_,rfl,rfl⟩ q2
         .rename_i e1 e2;cases e1;cases e2;exact absurd ⟨_,rfl,rfl⟩ q3
         .rfl
 | makeFunc f first aG =>
   cases f with
   | func f=>exact pT tm m o f first aG q
   | _=>exact bad (by simp[Aw,q])
 | makeSlice t x y=>exact oV tm m aC aF o t x y q
 | slice t x lo hi mx=>exact pK tm m o t x lo hi mx q
 | fieldAddr t x f=>exact qA tm m o t x f q
 | field t x f=>exact bR tm m o t x f q
 | indexAddr t x y=>exact fF tm m o t x y q
 | index t x y=>exact aW tm m o t x y q
 | extract x i=>exact lY tm m o x i q
 | call c =>
   cases hc:c.callee with
   | value f =>
     cases h0:FA P f with
     | none=>exact sD tm m aC aF o c f q hc h0
     | some s=>exact mW tm m o c f q hc h0
   | invoke r n=>exact nW tm m aC aF o c r n q hc
   | builtin b =>
     cases b with
     | append=>exact k7 tm m aC aF o c q hc
     | copy=>exact bF tm m o c q hc
     | clear=>exact mR tm m o c q hc
     | cap=>exact nI tm m o c q hc
     | len =>
       cases ht:c.argTypes.toList with
       | nil=>exact bad (by simp[Aw,q,hc,ht])
       | cons t ts =>
         cases ts with
         | cons t' ts=>exact bad (by simp[Aw,q,hc,ht])
         | nil =>
           cases hx:c.args.toList with
           | nil=>exact bad (by simp[Aw,q,hc,ht,hx])
           | cons x xs =>
             cases xs with
             | cons x' xs=>exact bad (by simp[Aw,q,hc,ht,hx])
             | nil=>exact kO tm m o c q hc t x ht hx
     | max=>exact WH tm m o c q true (by simpa using hc)
     | min=>exact WH tm m o c q false (by simpa using hc)
     | delete=>exact lC tm m o c q hc
     | _=>exact bad (by simp[Aw,q,hc])
 | makeInterface t x=>exact k9 tm m o t x q
 | makeMap t r =>
   cases r with
   | none=>exact aJ m aC aF o t q
   | some r=>exact bad (by simp[Aw,q])
 | lookup t x y ok=>exact eH tm m o t x y ok q
 | mapUpdate t x y u=>exact Y6 tm m o t x y u (.inl q)
 | insert t x y u=>exact Y6 tm m o t x y u (.inr q)
 | range t x=>exact Z1 tm m aC aF o t x q
 | next x b =>
   cases b with
   | true=>exact j5 tm m o x q
   | false=>exact bad (by simp[Aw,q])
 | _=>exact bad (by simp[Aw,q])
end
variable {o:Oper} {ops:Array Oper}
section
variable {P:Program} {np:Nat} {T0:Nat->Nat} {M0:GM} {w0:World} {aA:Nat->Prop} {st:St} {T:Nat->Nat} {M:GM} {a:Act} {w:World}
theorem Ok.mem (ok:Ok np T0 M0 w0 aA st T M a w):BF np T0 M0 w0 aA st.hp T M w:=⟨ok.hs,ok.dom,ok.after⟩
theorem Ok.wider (ok:Ok np T0 M0 w0 aA st T M a w) {q:Nat->Prop} (h:∀ i,aA i->q i):Ok np T0 M0 w0 q st T M a w :=
 ⟨ok.sz,ok.df,ok.tm,ok.hs,λ id g hg=>h _ (ok.dom id g hg),ok.after⟩
theorem Ok.ext (ok:Ok np T0 M0 w0 aA st T M a w) {st':St} (h1:st'.sz=st.sz) (h2:∀ i,st'.get i=st.get i) (h3:∀ i,st'.hp i=st.hp i):Ok np T0 M0 w0 aA st' T M a w:=by
 have e:st'.hp=st.hp:=funext h3;exact⟨ok.sz.trans h1.symm,ok.df,λ i=>by rw[h2];exact ok.tm i,by rw[e];exact ok.hs,ok.dom,ok.after⟩
theorem St.sz_put (st:St) (d:Option Nat) (v:AV):(st.put d v).sz=st.sz:=by cases d<;>rfl
theorem NZ (a:Act) (d:Option Nat) (v:Value):(a.put d v).tmps.size=a.tmps.size:=by
 cases d<;>simp[Act.put]
theorem Nn (a:Act) (d:Option Nat) (v:Value):(a.put d v).defers=a.defers:=by cases d<;>rfl
theorem ZN (ok:Ok np T0 M0 w0 aA st T M a w) (hd:o.dst.all (· < st.sz)=true) {id:Nat} {v:AV} {up:List (Nat × Option AD)} (he:Dm P np T0 M0 w0 aA id (st.upd up).hp T M w v ((execOp a.eval o).run P w)) {next:Act->World->Prop} {Q:Exit->Act->World->Prop} (hn:∀ T' M' a' w',Ok np T0 M0 w0 (λ i=>aA i∨(id<=i/\i<id+8)) ((st.put o.dst v).upd up) T' M' a' w'->next a' w'):o.wp P a w next Q:=by
 have fin:∀ T' M' w' v',BF np T0 M0 w0 (λ i=>aA i∨(id<=i/\i<id+8)) (st.upd up).hp T' M' w'->Ag T w T' w'->(∀ i g,M i=some g->M' i=some g)->AX T' w' M' v v'->next (a.put o.dst v') w':=by
  intro T' M' w' v' hm hp hM hr;refine hn T' M' _ w' ⟨?_,?_,?_,?_,hm.dom,hm.after⟩
  .rw [NZ]
   exact ok.sz.trans (St.sz_put _ _ _).symm
  .rw [Nn];exact ok.df
  .exact Nh ok.sz (λ i=>(ok.tm i).mono hp hM) hd hr
  .have e:((st.put o.dst v).upd up).hp=(st.upd up).hp:=by
    funext i
    rw[St.hp_upd,St.hp_upd,St.hp_put]
   rw[e];exact hm.hs
 unfold Oper.wp;generalize q:(execOp a.eval o).run P w=r at *
 cases r with
 | halt h w'=>exact False.elim he
 | ok n w' =>
   cases n with
   | value v' =>
     obtain⟨T',M',h1,h2,h3,h4⟩:=he;exact fin T' M' w' v' h1 h2 h3 h4
   | skip =>
     obtain⟨T',M',h1,h2,h3,rfl⟩:=he;exact fin T' M' w' undef h1 h2 h3 (.dead _ _)
   | enter f args =>
     obtain⟨rfl,hc⟩:=he;refine hc.mono ?_
     rintro e w'' ⟨v',T',M',rfl,h1,h2,h3,h4⟩
     exact fin T' M' w'' v' h1 h2 h3 h4
   | _=>exact False.elim he
theorem RY (tm:∀ i,AX T w M (st.get i) (a.tmps.getD i undef)) {j d:Nat} {q:Bool} {b:Option Bool} (hg:o.guard=some (j,q)) (hj:(ops[j]?).bind (·.dst)=some d) (hb:GG (st.get d)=some b) :
  Region.wanted o (yielded ops a.tmps)=(b == some q):=by
 have h1:=tm d;unfold GG at hb;split at hb
 .rename_i b' heq
  obtain rfl:=Qc hb;rw[heq] at h1;have h2:=Bo h1 rfl
  have h3:a.tmps[d]? = some (.bool b'):=by
   rw[Qx] at h2
   cases h:a.tmps[d]? with
   | none=>rw[h] at h2;cases h2
   | some v=>rw[h] at h2;simp at h2;rw[h2]
  simp only[Region.wanted,hg,yielded,hj,Option.bind_some,h3]
 .rename_i heq
  obtain rfl:=Qc hb;rw[heq] at h1
  have h3:a.tmps[d]? = none ∨ ∃ vs,a.tmps[d]? = some (.tuple vs):=by
   rw[Qx] at h1
   cases h:a.tmps[d]? with
   | none=>exact .inl rfl
   | some v =>
     rw[h] at h1;simp only[QO] at h1
     cases h1;exact .inr ⟨_,rfl⟩
  rcases h3 with h3 | ⟨vs,h3⟩<;>simp only[Region.wanted,hg,yielded,hj,Option.bind_some,h3]<;>rfl
 .cases hb
theorem Kn:(BZ P ops o).dst=o.dst/\((o.guard=none/\(BZ P ops o).guard=none/\(BZ P ops o).op=(Aw P o).1/\(BZ P ops o).xs=(Aw P o).2) ∨
  (∃ j want d,o.guard=some (j,want)/\(ops[j]?).bind (·.dst)=some d/\(BZ P ops o).guard=some (d,want)/\(BZ P ops o).op=(Aw P o).1/\(BZ P ops o).xs=(Aw P o).2) ∨
  ((BZ P ops o).guard=none/\(BZ P ops o).op = .bad/\(BZ P ops o).xs=[])):=by
 unfold BZ
 cases hg:o.guard with
 | none=>exact⟨rfl,.inl ⟨rfl,rfl,rfl,rfl⟩⟩
 | some p =>
   obtain⟨j,want⟩:=p;simp only
   cases hj:(ops[j]?).bind (·.dst) with
   | none=>exact⟨rfl,.inr (.inr ⟨rfl,rfl,rfl⟩)⟩
   | some d=>exact⟨rfl,.inr (.inl ⟨j,want,d,rfl,hj,rfl,rfl,rfl⟩)⟩
theorem Ns {ops:Array Oper} {n:Nat} (h5:np<=n) {Q:Exit->Act->World->Prop} {K:St->List (List Nat × List Nat)->Prop} (hQ:∀ st tr T M a w,K st tr->Ok np T0 M0 w0 (GS (n+8*ops.size)) st T M a w->Q .normal a w) :
  ∀ (k i:Nat) (st:St) (tr:List (List Nat × List Nat)) (T:Nat->Nat) (M:GM) (a:Act) (w:World),i+k=ops.size->(∀ o∈ops,o.dst.all (· < st.sz)=true) ->
    Ok np T0 M0 w0 (GS (n+8*i)) st T M a w->BY P np n i ((ops.toList.map (BZ P ops)).drop i) st tr K->wpOps P ops Q (List.range' i k) a w
 | 0,i,st,tr,T,M,a,w,hi,hd,ok,h=>by
   have e:(ops.toList.map (BZ P ops)).drop i=[]:=by rw[List.drop_eq_nil_iff];simp;omega
   rw[e] at h;obtain rfl:i=ops.size:=zy
   exact hQ st tr T M a w h ok
 | k+1,i,st,tr,T,M,a,w,hi,hd,ok,h=>by
   have h0:i<ops.size:=zy
   have e:(ops.toList.map (BZ P ops)).drop i=BZ P ops ops[i]::(ops.toList.map (BZ P ops)).drop (i+1):=by
    rw[QQ (by simpa using h0)]
    simp
   rw[e] at h;have ho:ops[i]? = some ops[i]:=Array.getElem?_eq_getElem h0;have h6:=hd _ (Array.getElem_mem h0);rw[List.range'_succ,wpOps_cons];simp only[wpOp,ho]
   have run:(aK P np (n+8*i) (Aw P ops[i]).1 ((Aw P ops[i]).2.map (·.ev st.get)) st.hp λ v rd up=>BY P np n (i+1) ((ops.toList.map (BZ P ops)).drop (i+1)) ((st.put ops[i].dst v).upd up) (tr++[(rd,up.map (·.1))]) K) ->
     ops[i].wp P a w (wpOps P ops Q (List.range' (i+1) k)) Q:=by
    intro hk;obtain⟨v,rd,up,h1,h2⟩:=VZ ok.tm ok.mem (idb:=n+8*i) (λ q hq hl=>by have:n+8*i+q<n+8*i:=hl;omega) zy ops[i] _ hk
    refine ZN ok h6 h2 λ T' M' a' w' ok'=>?_;refine Ns h5 hQ k (i+1) _ _ T' M' a' w' zy (λ o ho=>?_) (ok'.wider λ j hj=>?_) h1
    .show o.dst.all (· < (st.put _ _).sz)=true
     rw[St.sz_put];exact hd o ho
    .rcases hj with hj | hj
     .have:j<n+8*i:=hj
      show j<n+8*(i+1);omega
     .show j<n+8*(i+1)
      omega
   simp only[BY] at h;obtain⟨u,hc⟩:=Kn (P:=P) (ops:=ops) (o:=ops[i]);rcases hc with ⟨g1,g2,g3,g4⟩ | ⟨j,want,d,g1,g2,g3,g4,g5⟩ | ⟨g1,g2,g3⟩
   .rw [g2] at h
    simp only[g3,g4,u] at h;have h3:Region.wanted ops[i] (yielded ops a.tmps)=true:=by simp[Region.wanted,g1]
    rw[if_pos h3];exact .inl (run h)
   .rw [g3] at h
    simp only[g4,g5,u] at h;obtain⟨b,hb,h⟩:=h;have h3:=RY ok.tm g1 g2 hb;rw[h3]
    by_cases h4:b=some want
    .subst h4
     simp only[UM,beq_self_eq_true] at h ⊢;exact .inl (run h)
    .rw [if_neg h4] at h
     rw[if_neg (by simpa using h4)]
     refine Ns h5 hQ k (i+1) (st.put ops[i].dst (.tup [])) _ T M (a.put ops[i].dst undef) w zy (λ o ho=>by rw[St.sz_put];exact hd o ho) ?_ h
     refine⟨by rw[NZ,St.sz_put];exact ok.sz,by rw[Nn];exact ok.df,Nh ok.sz ok.tm h6 (.tup _ [] #[] rfl (λ i hi=>by simp at hi)),?_,λ id g hg=>?_,ok.after⟩
     .have e:(st.put ops[i].dst (.tup [])).hp=st.hp:=by funext q;rw[St.hp_put]
      rw[e];exact ok.hs
     .have:id<n+8*i:=ok.dom id g hg
      show id<n+8*(i+1);omega
   .rw [g1] at h
    simp only[g2,g3] at h;exact False.elim h
end
variable {x:AV}
theorem wT {op:Er} {xs:List AV} {id:Nat} {h:Nat->Option AD} {K:AV->List Nat->List (Nat × Option AD)->Prop} (hk:aX id op xs h K):∃ v rd up,K v rd up/\aX id op xs h λ v' rd' up'=>v'=v/\rd'=rd/\up'=up:=by
 unfold aX at hk ⊢;split at hk
 .obtain ⟨e,h1,h2,h3,hk⟩:=hk
  exact⟨_,_,_,hk,e,h1,h2,h3,rfl,rfl,rfl⟩
 .obtain ⟨e,h1,h2,h3,hk⟩:=hk
  exact⟨_,_,_,hk,e,h1,h2,h3,rfl,rfl,rfl⟩
 .exact ⟨_,_,_,hk,rfl,rfl,rfl⟩
 .obtain ⟨e,h1,h2,s,p,h3,hk⟩:=hk
  split at hk
  .rename_i hp
   obtain⟨c,h4,h5,hk⟩:=hk;exact⟨_,_,_,hk,e,h1,h2,s,p,h3,by rw[if_pos hp];exact⟨c,h4,h5,rfl,rfl,rfl⟩⟩
  .rename_i hp
   exact⟨_,_,_,hk,e,h1,h2,s,p,h3,by rw[if_neg hp];exact⟨rfl,rfl,rfl⟩⟩
 .exact ⟨_,_,_,hk,rfl,rfl,rfl⟩
 .exact False.elim hk
theorem MN {α β:Type} {f g:α->Option β}:∀ {l:List α},(∀ x∈l,f x=g x)->l.filterMap f=l.filterMap g
 | [],_=>rfl
 | x::l,h=>by
   rw[Uz,Uz,h x Qi,MN λ y hy=>h y (Qg _ hy)]
section
variable {P:Program} {np id:Nat} {op:ER} {xs:List AV} {h:Nat->Option AD}
theorem Of {K:AV->List Nat->List (Nat × Option AD)->Prop} (hk:aK P np id op xs h K) :
  ∃ v rd up,K v rd up/\aK P np id op xs h λ v' rd' up'=>v'=v/\rd'=rd/\up'=up:=by
 by_cases u:∃ s b x y,op = .app s b/\xs=[x,y]/\¬ ∃ i o l c,x=AV.rk i o l c
 .obtain ⟨s,b,x,y,rfl,rfl,hx⟩:=u
  simp only[IZ hx] at hk ⊢;obtain⟨a,b,c,d,e,f,hk⟩:=hk;exact⟨_,_,_,hk,a,b,c,d,e,f,rfl,rfl,rfl⟩
 unfold aK at hk ⊢;split at hk
 all_goals first
  | exact False.elim hk
  | exact wT hk
  | exact⟨_,_,_,hk,rfl,rfl,rfl⟩
  | (exfalso;exact u ⟨_,_,_,_,rfl,rfl,λ ⟨_,_,_,_,e⟩=>by subst e;simp_all⟩)
  | (obtain⟨a,b,c,d,e,f,g,i,j,hk⟩:=hk
     split at hk
     .rename_i hc
      exact⟨_,_,_,hk,a,b,c,d,e,f,g,i,j,by rw[if_pos hc];exact⟨rfl,rfl,rfl⟩⟩
     .rename_i hc
      exact⟨_,_,_,hk,a,b,c,d,e,f,g,i,j,by rw[if_neg hc];exact⟨rfl,rfl,rfl⟩⟩)
  | (obtain⟨a,b,hk⟩:=hk;exact⟨_,_,_,hk,a,b,rfl,rfl,rfl⟩)
  | (obtain⟨a,hk⟩:=hk;exact⟨_,_,_,hk,a,rfl,rfl,rfl⟩)
  | (obtain⟨a,b,c,hk⟩:=hk;exact⟨_,_,_,hk,a,b,c,rfl,rfl,rfl⟩)
  | (obtain⟨a,b,c,d,hk⟩:=hk;exact⟨_,_,_,hk,a,b,c,d,rfl,rfl,rfl⟩)
  | (obtain⟨a,b,c,d,e,hk⟩:=hk;exact⟨_,_,_,hk,a,b,c,d,e,rfl,rfl,rfl⟩)
  | (obtain⟨a,b,c,d,e,f,hk⟩:=hk;exact⟨_,_,_,hk,a,b,c,d,e,f,rfl,rfl,rfl⟩)
  | (obtain⟨a,b,c,d,e,f,g,hk⟩:=hk;exact⟨_,_,_,hk,a,b,c,d,e,f,g,rfl,rfl,rfl⟩)
  | (obtain⟨a,b,c,d,e,f,g,i,hk⟩:=hk;exact⟨_,_,_,hk,a,b,c,d,e,f,g,i,rfl,rfl,rfl⟩)
  | (obtain⟨a,b,c,d,e,f,g,i,j,hk⟩:=hk;exact⟨_,_,_,hk,a,b,c,d,e,f,g,i,j,rfl,rfl,rfl⟩)
  | (obtain⟨a,b,c,d,e,f,g,i,j,k,l,m,n,o,p,hk⟩:=hk;exact⟨_,_,_,hk,a,b,c,d,e,f,g,i,j,k,l,m,n,o,p,rfl,rfl,rfl⟩)
  | (obtain⟨a,b,c,d,e,f,g,i,j,k,l,m,n,o,p,q,r,hk⟩:=hk;exact⟨_,_,_,hk,a,b,c,d,e,f,g,i,j,k,l,m,n,o,p,q,r,rfl,rfl,rfl⟩)
  | (obtain⟨l,r,n,a,b,c,d,e,f,g,hk⟩:=hk
     split at hk
     .obtain ⟨i,j,k,hk⟩:=hk;exact⟨_,_,_,hk,l,r,n,a,b,c,d,e,f,g,i,j,k,rfl,rfl,rfl⟩
     .obtain ⟨i,j,k,hk⟩:=hk;exact⟨_,_,_,hk,l,r,n,a,b,c,d,e,f,g,i,j,k,rfl,rfl,rfl⟩
     .obtain ⟨i,j,k,q,hk⟩:=hk;exact⟨_,_,_,hk,l,r,n,a,b,c,d,e,f,g,i,j,k,q,rfl,rfl,rfl⟩
     .obtain ⟨i,j,hk⟩:=hk;exact⟨_,_,_,hk,l,r,n,a,b,c,d,e,f,g,i,j,rfl,rfl,rfl⟩
     .exact False.elim hk)
variable {h':Nat->Option AD}
theorem i9 {op:Er} {xs:List AV} {id:Nat} {h h':Nat->Option AD} {v:AV} {rd:List Nat} {up:List (Nat × Option AD)} (hk:aX id op xs h λ v' rd' up'=>v'=v/\rd'=rd/\up'=up) (hh:∀ i∈rd,h' i=h i) :
  aX id op xs h' λ v' rd' up'=>v'=v/\rd'=rd/\up'=up:=by
 unfold aX at hk ⊢;split at hk
 .obtain ⟨e,h1,h2,h3,rfl,rfl,rfl⟩:=hk
  exact⟨e,by rw[hh _ (Qi)];exact h1,h2,h3,rfl,rfl,rfl⟩
 .obtain ⟨e,h1,h2,h3,rfl,rfl,rfl⟩:=hk
  exact⟨e,by rw[hh _ (Qi)];exact h1,h2,h3,rfl,rfl,rfl⟩
 .exact hk
 .obtain ⟨e,h1,h2,s,p,h3,hk⟩:=hk
  split at hk
  .rename_i hp
   obtain⟨c,h4,h5,rfl,rfl,rfl⟩:=hk;exact⟨e,by rw[hh _ (Qi)];exact h1,h2,s,p,h3,by rw[if_pos hp];exact⟨c,h4,h5,rfl,rfl,rfl⟩⟩
  .rename_i hp
   obtain⟨rfl,rfl,rfl⟩:=hk;exact⟨e,by rw[hh _ (Qi)];exact h1,h2,s,p,h3,by rw[if_neg hp];exact⟨rfl,rfl,rfl⟩⟩
 .exact hk
 .exact hk
theorem lD (hh:∀ i∈Be x,h' i=h i):En h' x=En h x:=by
 cases x with
 | pt i j k =>
   simp only[En];rw[hh i (by simp[Be])]
 | _=>rfl
theorem Iv {s:Nat} (hh:∀ i∈Be x,h' i=h i):CJ s h' x=CJ s h x:=by
 cases x with
 | rs i j k =>
   simp only[CJ];rw[hh i (by simp[Be])]
 | rk i j k c =>
   simp only[CJ];rw[hh i (by simp[Be])]
 | sc k =>
   unfold CJ;split<;>first | rfl | (rename_i e;cases e) | simp_all
 | _=>rfl
theorem kD {n:Nat}:Be (Dg n x)=Be x:=by cases x<;>rfl
theorem Ys {s:Nat} {new:List (List AV)} (hh:∀ i∈Be x,h' i=h i):DN s h' new x=DN s h new x:=by
 cases x with
 | rs i j k =>
   simp only[DN];rw[hh i (by simp[Be])]
 | sc k =>
   unfold DN;split<;>first | rfl | (rename_i e;cases e) | simp_all
 | vs s' f rows=>cases f<;>rfl
 | _=>rfl
theorem NC {sn:List Nat} (hh:∀ i∈sn,h' i=h i):∀ (n:Nat) (ρ:List (Nat × Nat)) (x:AV),conv ρ sn h' n x=conv ρ sn h n x
 | 0,_,_=>rfl
 | n+1,ρ,x=>by
   have ih:=λ ρ=>funext (NC hh n ρ);have ih':∀ ρ,conv ρ sn h' n=conv ρ sn h n:=ih
   cases x with
   | rs id off len =>
     simp only[conv,ih']
     split
     .rfl
     .split
      .rename_i q;rw[hh id q]
      .rfl
   | rk id off len cap =>
     simp only[conv,ih']
     split
     .rfl
     .split
      .rename_i q;rw[hh id q]
      .rfl
   | pt id i j =>
     simp only[conv,ih']
     split
     .rfl
     .split
      .rename_i q;rw[hh id q]
      .rfl
   | _=>simp only[conv,ih']
theorem sR {v:AV} {rd:List Nat} {up:List (Nat × Option AD)} (hk:aK P np id op xs h λ v' rd' up'=>v'=v/\rd'=rd/\up'=up) (hh:∀ i∈rd,h' i=h i) :
  aK P np id op xs h' λ v' rd' up'=>v'=v/\rd'=rd/\up'=up:=by
 by_cases h9:∃ s b x y,op = .app s b/\xs=[x,y]/\¬ ∃ i o l c,x=AV.rk i o l c
 .obtain ⟨s,b,x,y,rfl,rfl,hx⟩:=h9
  simp only[IZ hx] at hk ⊢;obtain⟨new,old,h1,h2,h3,h4,rfl,rfl,rfl⟩:=hk;exact⟨new,old,by rw[Iv λ i hi=>hh i (UL _ hi)];exact h1,by rw[Ys λ i hi=>hh i (QZ _ hi)];exact h2,h3,h4,rfl,rfl,rfl⟩
 unfold aK at hk ⊢;split at hk
 all_goals try exact hk
 .
  obtain⟨cs,h1,h2,rfl,rfl,rfl⟩:=hk;exact⟨cs,by rw[lD hh];exact h1,h2,rfl,rfl,rfl⟩
 .obtain ⟨e,row,cs,h1,h2,h3,h4,h5,h6,rfl,rfl,rfl⟩:=hk
  exact⟨e,row,cs,by rw[hh _ zz];exact h1,h2,h3,h4,h5,h6,rfl,rfl,rfl⟩
 .obtain ⟨rows,bs,h1,h2,rfl,rfl,rfl⟩:=hk
  exact⟨rows,bs,by rw[Iv hh];exact h1,h2,rfl,rfl,rfl⟩
 .obtain ⟨l,r,n,a,b,c,d,e,f,g,hk⟩:=hk
  refine⟨l,r,n,a,b,c,d,e,f,g,?_⟩;split at hk
  .exact hk
  .obtain ⟨h0,h1,⟨en,h2,h3⟩,rfl,rfl,rfl⟩:=hk
   exact⟨h0,h1,⟨en,by rw[hh _ zz];exact h2,h3⟩,rfl,rfl,rfl⟩
  .obtain ⟨h0,h1,h4,⟨en,h2,h3⟩,rfl,rfl,rfl⟩:=hk
   exact⟨h0,h1,h4,⟨en,by rw[hh _ zz];exact h2,h3⟩,rfl,rfl,rfl⟩
  .exact hk
  .exact False.elim hk
 .obtain ⟨h1,h2,⟨en,h3,h4⟩,rfl,rfl,rfl⟩:=hk
  exact⟨h1,h2,⟨en,by rw[hh _ zz];exact h3,h4⟩,rfl,rfl,rfl⟩
 .obtain ⟨ids,sn,raise,aB,hs,res,aE,q1,q2,q3,q4,q5,q6,q7,q8,rfl,rfl,rfl⟩:=hk
  have q:∀ i∈sn,h' i=h i:=λ i hi=>hh i (UL _ hi);have hid:∀ i∈ids,h' i=h i:=λ i hi=>hh i (QZ _ hi);have u:∀ n ρ,conv ρ sn h' n=conv ρ sn h n:=λ n ρ=>funext (NC q n ρ)
  refine⟨ids,sn,raise,aB,hs,res,aE,q1,q2,q3,by rw[u];exact q4,?_,q6,q7,q8,rfl,rfl,?_⟩
  .rw [<- q5]
   refine Q7 λ i hi=>?_;rw[hid i hi];have:Ab ids.zipIdx sn h' 4=Ab ids.zipIdx sn h 4:=by funext e;simp only[Ab,u]
   rw[this]
  .congr 1
   split
   .refine MN λ i hi=>?_
    rw[q i hi]
   .rfl
 .obtain ⟨new,e,h1,h2,h3,h4,h5,h6,h7,hk⟩:=hk
  have ha:∀ i∈rd,h' i=h i:=hh;split at hk<;>rename_i hc<;>obtain⟨rfl,rfl,rfl⟩:=hk
  .exact ⟨new,e,by rw[Iv λ i hi=>hh i (Qg _ hi)];exact h1,by rw[hh _ (Qi)];exact h2,h3,h4,h5,h6,h7,by rw[if_pos hc];exact⟨rfl,rfl,rfl⟩⟩
  .exact ⟨new,e,by rw[Iv λ i hi=>hh i (Qg _ hi)];exact h1,by rw[hh _ (Qi)];exact h2,h3,h4,h5,h6,h7,by rw[if_neg hc];exact⟨rfl,rfl,rfl⟩⟩
 .exfalso;exact h9 ⟨_,_,_,_,rfl,rfl,λ ⟨_,_,_,_,e⟩=>by subst e;simp_all⟩
 .obtain ⟨old,h2,h3,rfl,rfl,rfl⟩:=hk
  exact⟨old,by rw[Ys hh];exact h2,h3,rfl,rfl,rfl⟩
 .obtain ⟨e,h1,h2,h3,h4,h5,h6,h7,h8,rfl,rfl,rfl⟩:=hk
  exact⟨e,by rw[hh _ zz];exact h1,h2,h3,h4,h5,h6,h7,h8,rfl,rfl,rfl⟩
 .obtain ⟨e,new,h1,h2,h3,h4,h5,rfl,rfl,rfl⟩:=hk
  exact⟨e,new,by rw[hh _ (Qi)];exact h1,h2,h3,h4,by rw[Iv λ i hi=>hh i (Qg _ hi)];exact h5,rfl,rfl,rfl⟩
 .obtain ⟨e,new,m,h1,h2,h3,h4,h5,h6,rfl,rfl,rfl⟩:=hk
  exact⟨e,new,m,by rw[hh _ (Qi)];exact h1,h2,h3,h4,h5,by rw[Iv λ i hi=>hh i (Qg _ (by rw[kD] at hi;exact hi))];exact h6,rfl,rfl,rfl⟩
 .obtain ⟨e,h1,h2,h3,h4,h5,rfl,rfl,rfl⟩:=hk
  exact⟨e,by rw[hh _ (Qi)];exact h1,h2,h3,h4,h5,rfl,rfl,rfl⟩
 .obtain ⟨e,h1,h2,h3,h4,h5,rfl,rfl,rfl⟩:=hk
  exact⟨e,by rw[hh _ (Qi)];exact h1,h2,h3,h4,h5,rfl,rfl,rfl⟩
 .obtain ⟨e,h1,h2,h3,h4,h5,rfl,rfl,rfl⟩:=hk
  exact⟨e,by rw[hh _ (Qi)];exact h1,h2,h3,h4,h5,rfl,rfl,rfl⟩
 .exact i9 hk hh
 .obtain ⟨f,ids,sn,raise,aB,hs,res,aE,q0,q1,q2,q3,q4,q5,q6,q7,q8,rfl,rfl,rfl⟩:=hk
  have q:∀ i∈sn,h' i=h i:=λ i hi=>hh i (UL _ hi);have hid:∀ i∈ids,h' i=h i:=λ i hi=>hh i (QZ _ hi);have u:∀ n ρ,conv ρ sn h' n=conv ρ sn h n:=λ n ρ=>funext (NC q n ρ)
  refine⟨f,ids,sn,raise,aB,hs,res,aE,q0,q1,q2,q3,by rw[u];exact q4,?_,q6,q7,q8,rfl,rfl,?_⟩
  .rw [<- q5]
   refine Q7 λ i hi=>?_;rw[hid i hi];have:Ab ids.zipIdx sn h' 4=Ab ids.zipIdx sn h 4:=by funext e;simp only[Ab,u]
   rw[this]
  .congr 1
   split
   .refine MN λ i hi=>?_
    rw[q i hi]
   .rfl
 .obtain ⟨e,h1,h2,rfl,rfl,rfl⟩:=hk
  exact⟨e,by rw[hh _ (Qi)];exact h1,h2,rfl,rfl,rfl⟩
 .obtain ⟨e,h1,h2,rfl,rfl,rfl⟩:=hk
  exact⟨e,by rw[hh _ (Qi)];exact h1,h2,rfl,rfl,rfl⟩
 .obtain ⟨e,h1,h2,rfl,rfl,rfl⟩:=hk
  exact⟨e,by rw[hh _ (Qi)];exact h1,h2,rfl,rfl,rfl⟩
end
structure Bv where
 dst:Option Nat
 v:AV
 rd:List Nat
 up:List (Nat × Option AD)
def St.app (st:St) (x:Bv):St:=(st.put x.dst x.v).upd x.up
def St.some (D:Nat->Bool):Nat->List Bv->St->St
 | _,[],st=>st
 | i,x::xs,st=>St.some D (i+1) xs (if D i then st.app x else st)
theorem St.app_sz (st:St) (x:Bv):(st.app x).sz=st.sz:=St.sz_put _ _ _
theorem St.some_sz (D:Nat->Bool):∀ (xs:List Bv) (i:Nat) (st:St),(St.some D i xs st).sz=st.sz
 | [],_,_=>rfl
 | x::xs,i,st=>by
   rw[St.some,St.some_sz D xs];split
   .exact St.app_sz _ _
   .rfl
theorem St.get_app (st:St) (x:Bv) (j:Nat):(st.app x).get j=if x.dst=Option.some j then x.v else st.get j:=by
 unfold St.app;rw[St.get_upd]
 cases h:x.dst with
 | none=>simp[St.put]
 | some d =>
   rw[St.get_put];simp
theorem St.hp_app (st:St) (x:Bv) (j:Nat):(st.app x).hp j=(AQ x.up j).elim (st.hp j) id:=by
 unfold St.app;rw[St.hp_upd,St.hp_put]
theorem St.some_get_congr (D D':Nat->Bool) (j:Nat):∀ (xs:List Bv) (i:Nat) (st st':St),(∀ k x,xs[k]? = Option.some x->x.dst=Option.some j->D (i+k)=D' (i+k))->st.get j=st'.get j ->
  (St.some D i xs st).get j=(St.some D' i xs st').get j
 | [],_,_,_,_,h=>h
 | x::xs,i,st,st',hk,h=>by
   rw[St.some,St.some];refine St.some_get_congr D D' j xs (i+1) _ _ (λ k y hy hd=>by have:=hk (k+1) y (by simpa using hy) hd;rwa [show i+(k+1)=i+1+k by omega] at this) ?_
   by_cases hx:x.dst=Option.some j
   .have:=hk 0 x rfl hx
    rw[QY] at this;rw[this];split
    .rw [St.get_app,St.get_app,if_pos hx,if_pos hx]
    .exact h
   .have e:∀ s:St,∀ b:Bool,(if b then s.app x else s).get j=s.get j:=by
     intro s b
     cases b
     .rfl
     .simp [St.get_app,hx]
    rw[e,e];exact h
theorem St.some_hp_congr (D D':Nat->Bool) (j:Nat):∀ (xs:List Bv) (i:Nat) (st st':St),(∀ k x,xs[k]? = Option.some x->AQ x.up j≠none->D (i+k)=D' (i+k))->st.hp j=st'.hp j ->
  (St.some D i xs st).hp j=(St.some D' i xs st').hp j
 | [],_,_,_,_,h=>h
 | x::xs,i,st,st',hk,h=>by
   rw[St.some,St.some];refine St.some_hp_congr D D' j xs (i+1) _ _ (λ k y hy hd=>by have:=hk (k+1) y (by simpa using hy) hd;rwa [show i+(k+1)=i+1+k by omega] at this) ?_
   by_cases hx:AQ x.up j=none
   .have e:∀ s:St,∀ b:Bool,(if b then s.app x else s).hp j=s.hp j:=by
     intro s b
     cases b
     .rfl
     .simp [St.hp_app,hx]
    rw[e,e];exact h
   .have:=hk 0 x rfl hx
    rw[QY] at this;rw[this];split
    .rw [St.hp_app,St.hp_app]
     cases hl:AQ x.up j with
     | none=>exact absurd hl hx
     | some r=>rfl
    .exact h
theorem St.some_get_last (D:Nat->Bool) (j:Nat):∀ (xs:List Bv) (i:Nat) (st:St) (k:Nat) (x:Bv),xs[k]? = Option.some x->x.dst=Option.some j->D (i+k)=true ->
  (∀ k' y,k<k'->xs[k']? = Option.some y->y.dst=Option.some j->D (i+k')=false)->(St.some D i xs st).get j=x.v
 | [],_,_,_,_,h,_,_,_=>by simp at h
 | y::xs,i,st,0,x,h,hd,hD,q=>by
   obtain rfl:y=x:=by simpa using h
   rw[St.some];rw[St.some_get_congr D (λ _=>false) j xs (i+1) _ (st.app y) (λ k z hz u=>by have:=q (k+1) z zy (by simpa using hz) u;rwa [show i+(k+1)=i+1+k by omega] at this) (by rw[QY] at hD;rw[if_pos hD])]
   have:∀ (xs:List Bv) (i:Nat) (s:St),St.some (λ _=>false) i xs s=s:=by
    intro xs
    induction xs with
    | nil=>intro i s;rfl
    | cons z zs ih=>intro i s;rw[St.some];exact ih _ _
   rw[this,St.get_app,if_pos hd]
 | y::xs,i,st,k+1,x,h,hd,hD,q=>by
   rw[St.some]
   exact St.some_get_last D j xs (i+1) _ k x (by simpa using h) hd (by rwa [show i+1+k=i+(k+1) by omega]) λ k' z h0 hz u=>by
    have:=q (k'+1) z zy (by simpa using hz) u
    rwa [show i+(k'+1)=i+1+k' by omega] at this
theorem St.some_false:∀ (xs:List Bv) (i:Nat) (s:St),St.some (λ _=>false) i xs s=s
 | [],_,_=>rfl
 | _::zs,i,s=>by rw[St.some];exact St.some_false zs _ _
theorem St.some_hp_last (D:Nat->Bool) (j:Nat):∀ (xs:List Bv) (i:Nat) (st:St) (k:Nat) (x:Bv) (r:Option AD),xs[k]? = Option.some x->AQ x.up j=Option.some r->D (i+k)=true ->
  (∀ k' y,k<k'->xs[k']? = Option.some y->AQ y.up j≠none->D (i+k')=false)->(St.some D i xs st).hp j=r
 | [],_,_,_,_,_,h,_,_,_=>by simp at h
 | y::xs,i,st,0,x,r,h,hd,hD,q=>by
   obtain rfl:y=x:=by simpa using h
   rw[St.some];rw[St.some_hp_congr D (λ _=>false) j xs (i+1) _ (st.app y) (λ k z hz u=>by have:=q (k+1) z zy (by simpa using hz) u;rwa [show i+(k+1)=i+1+k by omega] at this) (by rw[QY] at hD;rw[if_pos hD])]
   rw[St.some_false,St.hp_app,hd];rfl
 | y::xs,i,st,k+1,x,r,h,hd,hD,q=>by
   rw[St.some]
   exact St.some_hp_last D j xs (i+1) _ k x r (by simpa using h) hd (by rwa [show i+1+k=i+(k+1) by omega]) λ k' z h0 hz u=>by
    have:=q (k'+1) z zy (by simpa using hz) u
    rwa [show i+(k'+1)=i+1+k' by omega] at this
theorem St.some_take (k:Nat):∀ (xs:List Bv) (i:Nat) (s:St),St.some (λ j=>decide (j<k)) i xs s=St.some (λ _=>true) i (xs.take (k - i)) s
 | [],i,s=>by simp[St.some]
 | x::xs,i,s=>by
   by_cases h:i<k
   .rw [show k - i=(k - (i+1))+1 by omega,List.take_succ_cons,St.some,St.some,St.some_take k xs (i+1)]
    simp[h]
   .rw [show k - i=0 by omega,List.take_zero,St.some,St.some]
    have e:(if decide (i<k)=true then s.app x else s)=s:=by simp[h]
    rw[e,St.some_take k xs (i+1),show k - (i+1)=0 by omega,List.take_zero]
    rfl
inductive Reach (after:List (List Nat)):Nat->Nat->Prop where
 | one (i j:Nat) (h:i∈after.getD j []):Reach after i j
 | more (i k j:Nat) (h:Reach after i k) (h':k∈after.getD j []):Reach after i j
theorem SO (acc:List Nat) (q:Nat->Prop):∀ (aS:List Nat) (s:Nat),(∀ i,s.testBit i=true->q i)->(∀ a∈aS,q a /\ ∀ i,(acc.getD a 0).testBit i=true->q i) ->
  ∀ i,(aS.foldl (λ s a=>s ||| (2 ^ a ||| acc.getD a 0)) s).testBit i=true->q i
 | [],s,hs,_,i,h=>hs i h
 | a::aS,s,hs,ha,i,h=>by
   refine SO acc q aS _ (λ i hi=>?_) (λ b hb=>ha b (Qg _ hb)) i h;simp only[Nat.testBit_or,UY,Nat.testBit_two_pow,Qf] at hi;rcases hi with hi | hi | hi
   .exact hs i hi
   .subst hi;exact(ha a Qi).1
   .exact (ha a Qi).2 i hi
theorem Yz (after:List (List Nat)):∀ (j i:Nat),((Y8 after).getD j 0).testBit i=true->Reach after i j:=by
 have key:∀ (q h0:List (List Nat)) (acc:List Nat),after=h0++q->acc.length=h0.length->(∀ j i,(acc.getD j 0).testBit i=true->Reach after i j) ->
   ∀ j i,((q.foldl (λ acc aS=>acc++[aS.foldl (λ s a=>s ||| (2 ^ a ||| acc.getD a 0)) 0]) acc).getD j 0).testBit i=true->Reach after i j:=by
  intro q
  induction q with
  | nil=>intro h0 acc _ _ h;exact h
  | cons aS q ih =>
    intro h0 acc he hl h;refine ih (h0++[aS]) _ (by rw[he];simp) (by simp[hl]) λ j i u=>?_
    by_cases hj:j<acc.length
    .have:(acc++[aS.foldl (λ s a=>s ||| (2 ^ a ||| acc.getD a 0)) 0]).getD j 0=acc.getD j 0:=by simp[List.getD,QC hj]
     rw[this] at u;exact h j i u
    .by_cases h2:j=acc.length
     .subst h2
      have:(acc++[aS.foldl (λ s a=>s ||| (2 ^ a ||| acc.getD a 0)) 0]).getD acc.length 0=aS.foldl (λ s a=>s ||| (2 ^ a ||| acc.getD a 0)) 0:=by simp[List.getD]
      rw[this] at u;have h1:after.getD acc.length []=aS:=by rw[he,hl];simp[List.getD]
      refine SO acc (λ i=>Reach after i acc.length) aS 0 (λ i hi=>by simp at hi) (λ a ha=>⟨.one _ _ (by rw[h1];exact ha),λ i hi=>.more _ a _ (h a i hi) (by rw[h1];exact ha)⟩) i u
     .have:(acc++[aS.foldl (λ s a=>s ||| (2 ^ a ||| acc.getD a 0)) 0]).getD j 0=0:=by
       simp only[List.getD];rw[QS zw]
       rfl
      rw[this] at u;simp at u
 exact key after [] [] rfl rfl λ j i h=>by simp[List.getD] at h
section
variable {P:Program} {np:Nat} {T0:Nat->Nat} {M0:GM} {w0:World}
def LQ (P:Program) (np n i:Nat) (o:Bl) (st:St) (x:Bv):Prop :=
 x.dst=o.dst /\
 match o.guard with
 | none=>aK P np (n+8*i) o.op (o.xs.map (·.ev st.get)) st.hp λ v' rd' up'=>v'=x.v/\rd'=x.rd/\up'=x.up
 | some (g,want)=>∃ b,GG (st.get g)=some b/\if b=some want then aK P np (n+8*i) o.op (o.xs.map (·.ev st.get)) st.hp (λ v' rd' up'=>v'=x.v/\rd'=x.rd/\up'=x.up) else x.v = .tup []/\x.rd=[]/\x.up=[]
theorem St.some_true (i j:Nat):∀ (xs:List Bv) (s:St),St.some (λ _=>true) i xs s=St.some (λ _=>true) j xs s
 | [],_=>rfl
 | x::xs,s=>by rw[St.some,St.some];exact St.some_true (i+1) (j+1) xs _
theorem Jm {n:Nat} {K:St->List (List Nat × List Nat)->Prop}:∀ (os:List Bl) (i:Nat) (st:St) (tr:List (List Nat × List Nat)),BY P np n i os st tr K ->
  ∃ xs:List Bv,xs.length=os.length/\(∀ (k:Nat) o x,os[k]? = some o->xs[k]? = some x->LQ P np n (i+k) o (St.some (λ _=>true) 0 (xs.take k) st) x) /\
    K (St.some (λ _=>true) 0 xs st) (tr++xs.map λ x=>(x.rd,x.up.map (·.1)))
 | [],i,st,tr,h=>⟨[],rfl,λ k o x h=>by simp at h,by simpa [St.some,BY] using h⟩
 | o::os,i,st,tr,h=>by
   have fin:∀ x:Bv,LQ P np n i o st x->BY P np n (i+1) os (st.app x) (tr++[(x.rd,x.up.map (·.1))]) K ->
     ∃ xs:List Bv,xs.length=(o::os).length/\(∀ (k:Nat) o' x,(o::os)[k]? = some o'->xs[k]? = some x->LQ P np n (i+k) o' (St.some (λ _=>true) 0 (xs.take k) st) x) /\
       K (St.some (λ _=>true) 0 xs st) (tr++xs.map λ x=>(x.rd,x.up.map (·.1))):=by
    intro x hx hk;obtain⟨xs,h1,h2,h3⟩:=Jm os (i+1) _ _ hk;refine⟨x::xs,by simp[h1],λ k o' x' ho u=>?_,?_⟩
    .cases k with
     | zero =>
       simp at ho u;subst ho u;exact hx
     | succ k =>
       have:=h2 k o' x' (by simpa using ho) (by simpa using u)
       rw[show i+1+k=i+(k+1) by omega] at this
       rw[List.take_succ_cons,St.some,if_pos rfl,St.some_true 1 0];exact this
    .rw [St.some,if_pos rfl,St.some_true 1 0]
     simpa using h3
   simp only[BY] at h
   cases hg:o.guard with
   | none =>
     rw[hg] at h;obtain⟨v,rd,up,h1,h2⟩:=Of h;exact fin ⟨o.dst,v,rd,up⟩ ⟨rfl,by rw[hg];exact h2⟩ h1
   | some p =>
     obtain⟨g,want⟩:=p;rw[hg] at h;obtain⟨b,hb,h⟩:=h
     by_cases q:b=some want
     .rw [if_pos q] at h
      obtain⟨v,rd,up,h1,h2⟩:=Of h;exact fin ⟨o.dst,v,rd,up⟩ ⟨rfl,by rw[hg];exact⟨b,hb,by rw[if_pos q];exact h2⟩⟩ h1
     .rw [if_neg q] at h
      exact fin ⟨o.dst,.tup [],[],[]⟩ ⟨rfl,by rw[hg];exact⟨b,hb,by rw[if_neg q];exact⟨rfl,rfl,rfl⟩⟩⟩ h
theorem jV {ops:Array Oper} {n:Nat} (d7:np<=n) {st:St} {Q:Exit->Act->World->Prop} {xs:List Bv} (dd:xs.length=ops.size) (hQ:∀ st' T M a w,(∀ j,st'.get j=(St.some (λ _=>true) 0 xs st).get j)->(∀ j,st'.hp j=(St.some (λ _=>true) 0 xs st).hp j)->st'.sz=st.sz->Ok np T0 M0 w0 (GS (n+8*ops.size)) st' T M a w->Q .normal a w) (hd:∀ o∈ops,o.dst.all (· < st.sz)=true) (b2:∀ (k:Nat) o x,(ops.toList.map (BZ P ops))[k]? = some o->xs[k]? = some x->LQ P np n k o (St.some (λ _=>true) 0 (xs.take k) st) x) (b3:FE (ops.toList.map (BZ P ops)) (ops.toList.map λ o=>(o.after.toList.filter (Region.binds .any)).map (·.on)) (xs.map λ x=>(x.rd,x.up.map (·.1)))=true) :
  ∀ (h5:Nat) (u:Array Bool) (T:Nat->Nat) (M:GM) (a:Act) (w:World),u.size=ops.size->u.toList.countP (· == false)<=h5 ->
    (∀ j,u.getD j false=true -> ∀ i∈(ops.toList.map λ o=>(o.after.toList.filter (Region.binds .any)).map (·.on)).getD j [],u.getD i false=true) ->
    Ok np T0 M0 w0 (λ id=>id<n ∨ ∃ i,u.getD i false=true/\n+8*i<=id/\id<n+8*i+8) (St.some (λ i=>u.getD i false) 0 xs st) T M a w ->
    wpAny P .any ops Q h5 u a w:=by
 generalize hA:(ops.toList.map λ o=>(o.after.toList.filter (Region.binds .any)).map (·.on))=after at *
 simp only[FE,QD,UA,beq_iff_eq,QB,Uk,Qf,QP,UY] at b3;obtain⟨⟨dn,bs⟩,a0⟩:=b3
 have hf:∀ j,∀ i∈after.getD j [],i<j:=by
  intro j i hi
  by_cases hj:j<after.length
  .have e:after.getD j []=after[j]:=by simp[List.getD,hj]
   rw[e] at hi;exact bs (after[j],j) (by rw[U0];exact Qa hj) i hi
  .have e:after.getD j []=[]:=by simp[List.getD,hj]
   rw[e] at hi;simp at hi
 have b4:∀ k (h:k<ops.size),(ops.toList.map (BZ P ops))[k]? = some (BZ P ops ops[k]):=λ k h=>by simp[h]
 have a9:∀ i j,i<ops.size->j<ops.size->i≠j->(Reach after i j∨Reach after j i) ∨
   (∀ (hi:i<ops.size) (hj:j<ops.size),FP (BZ P ops ops[i]) (BZ P ops ops[j]) ((xs.getD i ⟨none,.dead,[],[]⟩).rd,(xs.getD i ⟨none,.dead,[],[]⟩).up.map (·.1)) ((xs.getD j ⟨none,.dead,[],[]⟩).rd,(xs.getD j ⟨none,.dead,[],[]⟩).up.map (·.1))=true ∨
    FP (BZ P ops ops[j]) (BZ P ops ops[i]) ((xs.getD j ⟨none,.dead,[],[]⟩).rd,(xs.getD j ⟨none,.dead,[],[]⟩).up.map (·.1)) ((xs.getD i ⟨none,.dead,[],[]⟩).rd,(xs.getD i ⟨none,.dead,[],[]⟩).up.map (·.1))=true):=by
  intro i j hi hj c3
  have getx:∀ k,k<ops.size->(xs.map λ x=>(x.rd,x.up.map (·.1))).getD k ([],[])=((xs.getD k ⟨none,.dead,[],[]⟩).rd,(xs.getD k ⟨none,.dead,[],[]⟩).up.map (·.1)):=λ k hk=>by
   have:k<xs.length:=zy
   simp[List.getD,this]
  have geto:∀ k (hk:k<ops.size),(ops.toList.map (BZ P ops)).getD k default=BZ P ops ops[k]:=λ k hk=>by simp[List.getD,hk]
  rcases Ui i j with h | h
  .have:=a0 j hj i h
   rcases this with this | this
   .exact .inl (.inl (Yz after j i this))
   .rw [getx i hi,getx j hj,geto i hi,geto j hj] at this
    exact .inr λ _ _=>.inl this
  .have:=a0 i hi j zy
   rcases this with this | this
   .exact .inl (.inr (Yz after i j this))
   .rw [getx i hi,getx j hj,geto i hi,geto j hj] at this
    exact .inr λ _ _=>.inr this
 have bt:∀ (k:Nat) x,xs[k]? = some x->xs.getD k ⟨none,.dead,[],[]⟩=x:=λ k x h=>by simp[List.getD,h]
 have h6:∀ (k:Nat) x (hk:k<ops.size),xs[k]? = some x->x.dst=(BZ P ops ops[k]).dst:=λ k x hk h=>(b2 k _ x (b4 k hk) h).1;have hy:∀ (o:Oper),(BZ P ops o).dst=o.dst:=λ o=>Kn.1;intro h5
 induction h5 with
 | zero =>
   intro u T M a w c4 ag h4 ok
   have h9:∀ i,i<ops.size->u.getD i false=true:=by
    intro i hi
    cases hb:u.getD i false with
    | true=>rfl
    | false =>
      have:0<u.toList.countP (· == false):=by
       rw[List.countP_pos_iff];refine⟨false,?_,rfl⟩;have hi':i<u.size:=zy
       have:u[i]=false:=by simpa [Array.getD,hi'] using hb
       rw[<- this];simp
      omega
   refine⟨?_,?_⟩
   .simp only[Region.ready,List.filter_eq_nil_iff,QP]
    intro i hi;have h1:=h9 i hi;have hi':i<u.size:=zy
    have h2:u.getD i true=true:=by
     simp only[Array.getD,hi',dite_true] at h1 ⊢;exact h1
    rw[h2];simp
   .refine hQ _ T M a w (λ j=>?_) (λ j=>?_) (St.some_sz _ _ _ _) (ok.wider λ id hid=>?_)
    .refine St.some_get_congr _ _ j xs 0 st st (λ k x hk hx=>?_) rfl
     have:=(Qu.1 hk).1;rw[Uc];exact h9 k zy
    .refine St.some_hp_congr _ _ j xs 0 st st (λ k x hk hx=>?_) rfl
     have:=(Qu.1 hk).1;rw[Uc];exact h9 k zy
    .show id<n+8*ops.size
     rcases hid with hid | ⟨i,h1,h2,h3⟩
     .omega
     .have:i<ops.size:=by
       rcases Ui i ops.size with h | h
       .exact h
       .have:u.getD i false=false:=by simp[Array.getD,show ¬ i<u.size by omega]
        rw[this] at h1;cases h1
      omega
 | succ h5 ih =>
   intro u T M a w c4 ag h4 ok;refine⟨λ ai=>?_,λ k hk=>?_⟩
   .
    have h9:∀ i,i<ops.size->u.getD i false=true:=by
     intro i
     induction i using Nat.strongRecOn with
     | _ i ihi =>
       intro hi
       cases hb:u.getD i false with
       | true=>rfl
       | false =>
         exfalso
         have hi':i<u.size:=zy
         have cb:u[i]=false:=by simpa [Array.getD,hi'] using hb
         have:i∈Region.ready .any ops u:=by
          simp only[Region.ready,Qz,QP,QD,UO];refine⟨hi,by simp[Array.getD,hi',cb],?_⟩
          rw[Array.getElem?_eq_getElem hi];simp only[Uo,QO,Array.all_eq_true_iff_forall_mem];intro e he
          by_cases hb:Region.binds .any e=true
          .have hw:e.on∈after.getD i []:=by
            rw[<- hA];have:(ops.toList.map λ o=>(o.after.toList.filter (Region.binds .any)).map (·.on)).getD i []=(ops[i].after.toList.filter (Region.binds .any)).map (·.on):=by simp[List.getD,hi]
            rw[this];exact Qh.2 ⟨e,Qz.2 ⟨by simpa using he,hb⟩,rfl⟩
           have hz:=hf i _ hw;simp[ihi _ hz zy]
          .simp [hb]
         rw[ai] at this;simp at this
    refine hQ _ T M a w (λ j=>?_) (λ j=>?_) (St.some_sz _ _ _ _) (ok.wider λ id hid=>?_)
    .refine St.some_get_congr _ _ j xs 0 st st (λ k x hk hx=>?_) rfl
     have:=(Qu.1 hk).1;rw[Uc];exact h9 k zy
    .refine St.some_hp_congr _ _ j xs 0 st st (λ k x hk hx=>?_) rfl
     have:=(Qu.1 hk).1;rw[Uc];exact h9 k zy
    .show id<n+8*ops.size
     rcases hid with hid | ⟨i,h1,h2,h3⟩
     .omega
     .have:i<ops.size:=by
       rcases Ui i ops.size with h | h
       .exact h
       .have:u.getD i false=false:=by simp[Array.getD,show ¬ i<u.size by omega]
        rw[this] at h1;cases h1
      omega
   .
    simp only[Region.ready,Qz,QP,QD,UO] at hk;obtain⟨h8,cd,c0⟩:=hk;have a1:k<u.size:=zy
    have b5:u[k]=false:=by simpa [Array.getD,a1] using cd
    have a2:u.getD k false=false:=by simp[Array.getD,a1,b5]
    rw[Array.getElem?_eq_getElem h8] at c0;simp only[Uo,QO,Array.all_eq_true_iff_forall_mem] at c0
    have hh:∀ i∈after.getD k [],u.getD i false=true:=by
     intro i hi;rw[<- hA] at hi;have e:(ops.toList.map λ o=>(o.after.toList.filter (Region.binds .any)).map (·.on)).getD k []=(ops[k].after.toList.filter (Region.binds .any)).map (·.on):=by simp[List.getD,h8]
     rw[e] at hi;obtain⟨ed,h1,rfl⟩:=Qh.1 hi;obtain⟨h2,h3⟩:=Qz.1 h1;have:=c0 ed (by simpa using h2)
     simpa [h3] using this
    have hu:∀ i j,Reach after i j->(u.getD j false=true∨j=k)->u.getD i false=true:=by
     intro i j hr
     induction hr with
     | one j h =>
       rintro(h1 | rfl)
       .exact h4 j h1 i h
       .exact hh i h
     | more m j h1 h2 ihr =>
       rintro(h3 | rfl)
       .exact ihr (.inl (h4 j h3 m h2))
       .exact ihr (.inl (hh m h2))
    have a3:∀ j,Reach after k j->u.getD j false=false:=by
     intro j hr
     cases hb:u.getD j false with
     | false=>rfl
     | true=>rw[hu k j hr (.inl hb)] at a2;cases a2
    have ha:∀ i j,Reach after i j->i<j:=by
     intro i j hr
     induction hr with
     | one j h=>exact hf j i h
     | more m j h1 h2 ihr=>have:=hf j m h2;omega
    have hv:∀ i x,i≠k->xs[i]? = some x->(∀ hi:i<ops.size,FP (BZ P ops ops[i]) (BZ P ops ops[k]) (x.rd,x.up.map (·.1)) ((xs.getD k ⟨none,.dead,[],[]⟩).rd,(xs.getD k ⟨none,.dead,[],[]⟩).up.map (·.1))=false /\
      FP (BZ P ops ops[k]) (BZ P ops ops[i]) ((xs.getD k ⟨none,.dead,[],[]⟩).rd,(xs.getD k ⟨none,.dead,[],[]⟩).up.map (·.1)) (x.rd,x.up.map (·.1))=false)->u.getD i false=decide (i<k):=by
     intro i x c3 hx cl;have hi:i<ops.size:=by have:=(Qu.1 hx).1;omega
     obtain⟨p1,p2⟩:=cl hi;rcases a9 i k hi h8 c3 with (h | h) | h
     .have hz:=ha _ _ h
      rw[hu i k h (.inr rfl)];simp[hz]
     .have hz:=ha _ _ h
      rw[a3 i h];simp;omega
     .rcases h hi h8 with h | h
      .rw [bt i x hx] at h;rw[h] at p1;cases p1
      .rw [bt i x hx] at h;rw[h] at p2;cases p2
    obtain⟨xk,hm⟩:∃ xk,xs[k]? = some xk:=⟨_,Qa zy⟩
    have c5:=bt k xk hm;have hO:=b2 k _ xk (b4 k h8) hm;rw[c5] at hv
    have an:∀ t,t∈(BZ P ops ops[k]).names->(St.some (λ i=>u.getD i false) 0 xs st).get t=(St.some (λ _=>true) 0 (xs.take k) st).get t∨(BZ P ops ops[k]).dst=some t/\False ∨
      (St.some (λ i=>u.getD i false) 0 xs st).get t=(St.some (λ _=>true) 0 (xs.take k) st).get t:=by
     intro t ht
     left
     have e:=St.some_take k xs 0 st;rw[Nat.sub_zero] at e;rw[<- e];refine St.some_get_congr _ _ t xs 0 st st (λ i x hx a4=>?_) rfl;rw[Uc]
     by_cases hn:i=k
     .subst hn;rw[a2];simp
     .refine hv i x hn hx λ hi=>?_
      have a5:(BZ P ops ops[i]).dst=some t:=by rw[<- h6 i x hi hx];exact a4
      constructor
      .simp [FP,a5,ht]
      .simp [FP,a5,ht]
    have a6:∀ t,t∈(BZ P ops ops[k]).names->(St.some (λ i=>u.getD i false) 0 xs st).get t=(St.some (λ _=>true) 0 (xs.take k) st).get t:=λ t ht=>by
     rcases an t ht with h | h | h
     .exact h
     .exact h.2.elim
     .exact h
    have au:∀ id∈xk.rd,(St.some (λ i=>u.getD i false) 0 xs st).hp id=(St.some (λ _=>true) 0 (xs.take k) st).hp id:=by
     intro id hid;have e:=St.some_take k xs 0 st;rw[Nat.sub_zero] at e;rw[<- e];refine St.some_hp_congr _ _ id xs 0 st st (λ i x hx a7=>?_) rfl;rw[Uc]
     by_cases hn:i=k
     .subst hn;rw[a2];simp
     .refine hv i x hn hx λ hi=>?_
      have hw:id∈x.up.map (·.1):=by
       cases hl:AQ x.up id with
       | none=>exact absurd hl a7
       | some r=>exact Qh.2 ⟨_,DD hl,rfl⟩
      constructor
      .have:Gf (x.rd,x.up.map (·.1)) (xk.rd,xk.up.map (·.1))=true:=by
        simp only[Gf,UY,UB];exact .inl ⟨id,hw,.inl (by simpa using hid)⟩
       simp[FP,this]
      .have:Gf (xk.rd,xk.up.map (·.1)) (x.rd,x.up.map (·.1))=true:=by
        simp only[Gf,UY,UB];exact .inr ⟨id,hid,by simpa using hw⟩
       simp[FP,this]
    have h0:∀ i,(u.setIfInBounds k true).getD i false=if i=k then true else u.getD i false:=by
     intro i
     by_cases hn:i=k
     .subst hn;simp[Array.getD,a1]
     .rw [if_neg hn]
      simp only[Qx];rw[Array.getElem?_setIfInBounds_ne (Ne.symm hn)]
    have a8:∀ T' M' a' w',Ok np T0 M0 w0 (λ id=>(id<n ∨ ∃ i,u.getD i false=true/\n+8*i<=id/\id<n+8*i+8)∨(n+8*k<=id/\id<n+8*k+8)) ((St.some (λ i=>u.getD i false) 0 xs st).app xk) T' M' a' w' ->
      wpAny P .any ops Q h5 (u.setIfInBounds k true) a' w':=by
     intro T' M' a' w' ok';refine ih (u.setIfInBounds k true) T' M' a' w' (by simpa using c4) ?_ (λ j hj i hi=>?_) ?_
     .rw [Array.toList_setIfInBounds,List.countP_set (by simpa using a1)]
      have:u.toList[k]'(by simpa using a1)=false:=by simpa using b5
      rw[this];show u.toList.countP (· == false) - 1+0<=h5
      omega
     .rw [h0] at hj ⊢
      split
      .rfl
      .split at hj
       .rename_i cp;subst cp;exact hh i hi
       .exact h4 j hj i hi
     .refine (ok'.ext (St.some_sz _ _ _ _ |>.trans (St.app_sz _ _ |>.trans (St.some_sz _ _ _ _)).symm) (λ t=>?_) (λ id=>?_)).wider λ id hid=>?_
      .rw [St.get_app]
       split
       .rename_i av
        refine St.some_get_last _ t xs 0 st k xk hm av (by rw[Uc,h0,if_pos rfl]) λ i x hz hx a4=>?_
        rw[Uc,h0,if_neg zy]
        have b0:(BZ P ops ops[k]).dst=some t:=by rw[<- h6 k xk h8 hm];exact av
        have:=hv i x zy hx λ hi=>by
         have a5:(BZ P ops ops[i]).dst=some t:=by rw[<- h6 i x hi hx];exact a4
         have b6:t∈(BZ P ops ops[k]).names:=by simp[Bl.names,b0]
         constructor
         .simp [FP,a5,b6]
         .simp [FP,a5,b6]
        rw[this];simp;omega
       .rename_i av
        refine St.some_get_congr _ _ t xs 0 st st (λ i x hx a4=>?_) rfl;rw[Uc,h0,if_neg]
        rintro rfl
        rw[hm] at hx
        cases hx;exact av a4
      .rw [St.hp_app]
       cases hl:AQ xk.up id with
       | some r =>
         refine St.some_hp_last _ id xs 0 st k xk r hm hl (by rw[Uc,h0,if_pos rfl]) λ i x hz hx a7=>?_
         rw[Uc,h0,if_neg zy]
         have hw:id∈x.up.map (·.1):=by
          cases hl:AQ x.up id with
          | none=>exact absurd hl a7
          | some r=>exact Qh.2 ⟨_,DD hl,rfl⟩
         have bo:id∈xk.up.map (·.1):=Qh.2 ⟨_,DD hl,rfl⟩
         have:=hv i x zy hx λ hi=>by
          constructor
          .have:Gf (x.rd,x.up.map (·.1)) (xk.rd,xk.up.map (·.1))=true:=by
            simp only[Gf,UY,UB];exact .inl ⟨id,hw,.inr (by simpa using bo)⟩
           simp[FP,this]
          .have:Gf (xk.rd,xk.up.map (·.1)) (x.rd,x.up.map (·.1))=true:=by
            simp only[Gf,UY,UB];exact .inl ⟨id,bo,.inr (by simpa using hw)⟩
           simp[FP,this]
         rw[this];simp;omega
       | none =>
         refine St.some_hp_congr _ _ id xs 0 st st (λ i x hx a7=>?_) rfl;rw[Uc,h0,if_neg]
         rintro rfl
         rw[hm] at hx
         cases hx;exact a7 hl
      .rcases hid with (hid | ⟨i,h1,h2⟩) | hid
       .exact .inl hid
       .refine .inr ⟨i,?_,h2⟩
        rw[h0];split
        .rfl
        .exact h1
       .exact .inr ⟨k,by rw[h0,if_pos rfl],hid⟩
    have b1:∀ q,q<8->¬ (n+8*k+q<n ∨ ∃ i,u.getD i false=true/\n+8*i<=n+8*k+q/\n+8*k+q<n+8*i+8):=by
     rintro q hq (h | ⟨i,h1,h2,h3⟩)
     .omega
     .have:i=k:=zy
      subst this;rw[a2] at h1
      cases h1
    have ho:ops[k]? = some ops[k]:=Array.getElem?_eq_getElem h8;have b0:ops[k].dst.all (· < (St.some (λ i=>u.getD i false) 0 xs st).sz)=true:=by rw[St.some_sz];exact hd _ (Array.getElem_mem h8)
    simp only[wpOp,ho]
    have cq:(BZ P ops ops[k]).xs.map (·.ev (St.some (λ i=>u.getD i false) 0 xs st).get)=(BZ P ops ops[k]).xs.map (·.ev (St.some (λ _=>true) 0 (xs.take k) st).get):=by
     refine Q7 λ x hx=>?_
     cases x with
     | t i =>
       refine a6 i ?_;simp only[Bl.names,Qo,U2];exact .inl (.inl ⟨_,hx,rfl⟩)
     | _=>rfl
    have run:(aK P np (n+8*k) (BZ P ops ops[k]).op ((BZ P ops ops[k]).xs.map (·.ev (St.some (λ _=>true) 0 (xs.take k) st).get)) (St.some (λ _=>true) 0 (xs.take k) st).hp λ v' rd' up'=>v'=xk.v/\rd'=xk.rd/\up'=xk.up) ->
      (BZ P ops ops[k]).op=(Aw P ops[k]).1->(BZ P ops ops[k]).xs=(Aw P ops[k]).2->ops[k].wp P a w (wpAny P .any ops Q h5 (u.setIfInBounds k true)) Q:=by
     intro hk d0 d1;have c6:=sR (h':=(St.some (λ i=>u.getD i false) 0 xs st).hp) hk au;rw[<- cq,d0,d1] at c6;obtain⟨v,rd,up,⟨rfl,rfl,rfl⟩,h2⟩:=VZ ok.tm ok.mem (idb:=n+8*k) b1 zy ops[k] _ c6
     refine ZN ok b0 h2 λ T' M' a' w' ok'=>?_;refine a8 T' M' a' w' ?_
     have e:(St.some (λ i=>u.getD i false) 0 xs st).app xk=((St.some (λ i=>u.getD i false) 0 xs st).put ops[k].dst xk.v).upd xk.up:=by
      unfold St.app;rw[h6 k xk h8 hm,hy]
     rw[e];exact ok'
    obtain⟨d3,hc⟩:=Kn (P:=P) (ops:=ops) (o:=ops[k]);obtain⟨ds,h7⟩:=hO;rcases hc with ⟨g1,g2,g3,g4⟩ | ⟨j,want,d,g1,g2,g3,g4,g5⟩ | ⟨g1,g2,g3⟩
    .rw [g2] at h7
     have c1:Region.wanted ops[k] (yielded ops a.tmps)=true:=by simp[Region.wanted,g1]
     rw[if_pos c1];exact .inl (run h7 g3 g4)
    .rw [g3] at h7
     obtain⟨b,hb,h7⟩:=h7
     have d2:GG ((St.some (λ i=>u.getD i false) 0 xs st).get d)=some b:=by
      rw[a6 d (by simp[Bl.names,g3])]
      exact hb
     have c1:=RY ok.tm g1 g2 d2;rw[c1]
     by_cases c2:b=some want
     .subst c2
      simp only[UM,beq_self_eq_true] at h7 ⊢;exact .inl (run h7 g4 g5)
     .rw [if_neg c2] at h7
      rw[if_neg (by simpa using c2)]
      obtain⟨e1,e2,e3⟩:=h7;refine a8 T M (a.put ops[k].dst undef) w ?_
      have e:(St.some (λ i=>u.getD i false) 0 xs st).app xk=(St.some (λ i=>u.getD i false) 0 xs st).put ops[k].dst (.tup []):=by
       unfold St.app;rw[h6 k xk h8 hm,hy,e1,e3];rfl
      rw[e];refine⟨by rw[NZ,St.sz_put];exact ok.sz,by rw[Nn];exact ok.df,Nh ok.sz ok.tm b0 (.tup _ [] #[] rfl (λ i hi=>by simp at hi)),?_,λ id g hg=>.inl (ok.dom id g hg),ok.after⟩
      have e:((St.some (λ i=>u.getD i false) 0 xs st).put ops[k].dst (.tup [])).hp=(St.some (λ i=>u.getD i false) 0 xs st).hp:=by funext q;rw[St.hp_put]
      rw[e];exact ok.hs
    .rw [g1,g2,g3] at h7
     exact False.elim h7
end
def kQ:Exit->Dy->Prop
 | .normal,.normal=>True
 | .exit i,.exit j=>i=j
 | .ret,.ret=>True
 | _,_=>False
section
variable {P:Program} {np:Nat} {T0:Nat->Nat} {M0:GM} {w0:World}
def Hw (np:Nat) (T0:Nat->Nat) (M0:GM) (w0:World) (Q:Dy->St->Prop):Exit->Act->World->Prop :=
 λ e a w=>∃ e' st T M,kQ e e'/\Ok np T0 M0 w0 (GS st.n) st T M a w/\np<=st.n/\Q e' st
theorem HS (hm:P.follows .mixedOrders=true):∀ (c:Code) (Q:Dy->St->Prop) (st:St) (T:Nat->Nat) (M:GM) (a:Act) (w:World),
  Ad P np (comp P c) Q st->Ok np T0 M0 w0 (GS st.n) st T M a w->np<=st.n->c.wp P (Hw np T0 M0 w0 Q) a w
 | .skip,Q,st,T,M,a,w,h,ok,hn=>wp_skip ⟨.normal,st,T,M,trivial,ok,hn,h⟩
 | .exit id,Q,st,T,M,a,w,h,ok,hn=>wp_exit ⟨.exit id,st,T,M,rfl,ok,hn,h⟩
 | .ret,Q,st,T,M,a,w,h,ok,hn=>wp_ret ⟨.ret,st,T,M,trivial,ok,hn,h⟩
 | .seq x y,Q,st,T,M,a,w,h,ok,hn=>by
   refine wp_seq (wp_mono (HS hm x _ st T M a w h ok hn) ?_)
   rintro e a' w' ⟨e',st',T',M',he,ok',q,hq⟩
   cases e<;>cases e'<;>(try (exact False.elim he))
   .obtain ⟨st2,h8,h2⟩:=hq
    obtain⟨T2,M2,ok2,u⟩:=h8 _ _ _ _ _ _ _ ok' q;exact HS hm y Q st2 T2 M2 a' w' h2 ok2 u
   .exact ⟨_,st',T',M',he,ok',q,hq⟩
   .exact ⟨_,st',T',M',he,ok',q,hq⟩
 | .cond c x y,Q,st,T,M,a,w,h,ok,hn=>by
   obtain⟨t,ht,h⟩:=h;have hc:=Bo (BG ok.tm c) ht;refine wp_cond hc ?_
   cases t
   .exact HS hm y Q st T M a w h ok hn
   .exact HS hm x Q st T M a w h ok hn
 | .block id x,Q,st,T,M,a,w,h,ok,hn=>by
   refine wp_block (wp_mono (HS hm x _ st T M a w h ok hn) ?_)
   rintro e a' w' ⟨e',st',T',M',he,ok',q,hq⟩
   cases e<;>cases e'<;>(try (exact False.elim he))
   .exact ⟨_,st',T',M',he,ok',q,hq⟩
   .rename_i i j
    have he:i=j:=he;subst he
    by_cases hid:i=id
    .simp only[Exit.inBlock,if_pos hid]
     simp only[if_pos hid] at hq;exact⟨.normal,st',T',M',trivial,ok',q,hq⟩
    .simp only[Exit.inBlock,if_neg hid]
     simp only[if_neg hid] at hq;exact⟨.exit i,st',T',M',rfl,ok',q,hq⟩
   .exact ⟨_,st',T',M',he,ok',q,hq⟩
 | .loop x,Q,st,T,M,a,w,h,ok,hn=>by
   obtain⟨I,⟨st0,k0,h8,hI⟩,h6⟩:=h;obtain⟨T1,M1,ok1,hg⟩:=h8 _ _ _ _ _ _ _ ok hn;refine wp_loop_ghost (λ k a w=>∃ s T M,I k s/\Ok np T0 M0 w0 (GS s.n) s T M a w/\np<=s.n) k0 ⟨st0,T1,M1,hI,ok1,hg⟩ ?_
   rintro k a' w' ⟨s,T',M',hh,ok',q⟩
   refine wp_mono (HS hm x _ s T' M' a' w' (h6 k s hh) ok' q) ?_
   rintro e a2 w2 ⟨e',st',T2,M2,he,ok2,u,hq⟩
   cases e<;>cases e'<;>(try (exact False.elim he))
   .obtain ⟨st2,k2,ha,hi,hl⟩:=hq
    obtain⟨T3,M3,ok3,hr⟩:=ha _ _ _ _ _ _ _ ok2 u;exact⟨k2,hl,st2,T3,M3,hi,ok3,hr⟩
   .exact ⟨_,st',T2,M2,he,ok2,u,hq⟩
   .exact ⟨_,st',T2,M2,he,ok2,u,hq⟩
 | .region id ops draw,Q,st,T,M,a,w,h,ok,hn=>by
   obtain⟨hd,h⟩:=h
   have hb:∀ o∈ops,o.dst.all (· < st.sz)=true:=by
    intro o ho;have:=UA.1 hd (BZ P ops o) (Qh.2 ⟨o,by simpa using ho,rfl⟩)
    rwa [Kn.1] at this
   have h7:(ops.toList.map (BZ P ops)).length=ops.size:=zz
   cases draw with
   | false =>
     refine wp_region ?_;rw[List.range_eq_range']
     refine Ns (n:=st.n) hn (Q:=Hw np T0 M0 w0 Q) (K:=λ st' tr=>(false=true->FE (ops.toList.map (BZ P ops)) [] tr=true)/\Q .normal { st' with n:=st.n+8*(ops.toList.map (BZ P ops)).length })
      (λ st' tr T' M' a' w' hk ok'=>?_) ops.size 0 st [] T M a w zy hb (by simpa using ok) h
     rw[h7] at hk;refine⟨.normal,{ st' with n:=st.n+8*ops.size },T',M',trivial,?_,by show np<=st.n+8*ops.size;omega,hk.2⟩
     exact⟨ok'.sz,ok'.df,ok'.tm,ok'.hs,ok'.dom,ok'.after⟩
   | true =>
     refine wp_region_any hm ?_;obtain⟨xs,h1,h2,h3⟩:=Jm _ 0 st [] h;obtain⟨h4,h5⟩:=h3;rw[h7] at h1 h5;have hf:=h4 rfl;obtain⟨h0,h9⟩:=ok.mem.draw (w1:={ w with drawn:=w.drawn+1 }) rfl rfl rfl rfl
     have okd:Ok np T0 M0 w0 (GS st.n) st T M a { w with drawn:=w.drawn+1 } :=
      ⟨ok.sz,ok.df,λ i=>(ok.tm i).mono h9 λ _ _ e=>e,h0.hs,h0.dom,h0.after⟩
     refine jV (T0:=T0) (M0:=M0) (w0:=w0) (n:=st.n) hn h1 (Q:=Hw np T0 M0 w0 Q) (λ st' T' M' a' w' g1 g2 g3 ok'=>?_) hb (λ k o x ho hx=>by have:=h2 k o x ho hx;rwa [Uc] at this) (by simpa using hf) ops.size _ T M a _ zz ?_ (λ j hj=>?_) ?_
     .refine ⟨.normal,{ (St.some (λ _=>true) 0 xs st) with n:=st.n+8*ops.size },T',M',trivial,?_,by show np<=st.n+8*ops.size;omega,h5⟩
      have:=ok'.ext (st':={ (St.some (λ _=>true) 0 xs st) with n:=st.n+8*ops.size }) ((St.some_sz _ _ _ _).trans g3.symm) (λ i=>(g1 i).symm) (λ i=>(g2 i).symm);exact⟨this.sz,this.df,this.tm,this.hs,this.dom,this.after⟩
     .have:(Array.replicate ops.size false).toList.countP (· == false)<=(Array.replicate ops.size false).toList.length:=List.countP_le_length
      simpa using this
     .have:(Array.replicate ops.size false).getD j false=false:=by simp only[Qx,Array.getElem?_replicate];split<;>rfl
      rw[this] at hj
      cases hj
     .have e:St.some (λ i=>(Array.replicate ops.size false).getD i false) 0 xs st=st:=by
       have:(λ i=>(Array.replicate ops.size false).getD i false)=λ _=>false:=by
        funext j
        simp only[Qx,Array.getElem?_replicate];split<;>rfl
       rw[this,St.some_false]
      rw[e];exact okd.wider λ id hid=>.inl hid
 | .rangeFunc ..,Q,st,T,M,a,w,h,ok,hn=>False.elim h
 | .scope x,Q,st,T,M,a,w,h,ok,hn=>by
   refine wp_scope_straight (wp_mono (HS hm x Q st T M a w h ok hn) ?_)
   rintro e a' w' ⟨e',st',T',M',he,ok',q,hq⟩
   cases e<;>cases e'<;>(try (exact False.elim he))<;>exact⟨_,st',T',M',he,ok',q,hq⟩
 | .label _,Q,st,T,M,a,w,h,ok,hn=>wp_label ⟨.normal,st,T,M,trivial,ok,hn,h⟩
 | .goto _,Q,st,T,M,a,w,h,ok,hn=>False.elim h
 | .refuse _,Q,st,T,M,a,w,h,ok,hn=>False.elim h
end
variable {M:GM} {T:Nat->Nat} {w:World}
section
variable {P:Program} {np:Nat} {T0:Nat->Nat} {M0:GM} {w0:World}
theorem m8 {t:TypeId} {ag:Bool} {s:Nat} {cs:List AV} {b off:Nat} {c:Nat->Value} (h1:(isAgg t).run P w = .ok ag w) (h2:(sizeOf t).run P w = .ok s w) (h5:s<=cs.length) (h3:ag=true∨s=1) (q:∀ j,j<cs.length->w.cell? ⟨b,off+j,none⟩=some (c j)/\(c j).oneCell'=true/\AX T w M (cs.getD j .dead) (c j)) :
  ∃ u,(loadVar t ⟨b,off,none⟩).run P w = .ok u w/\AX T w M (if ag then .agg (cs.take s) else cs.headD .dead) u:=by
 cases ag with
 | true =>
   have hl:=run_loadCells (P:=P) w ⟨b,off,none⟩ s c (λ j hj=>by rw[Addr.add_none];exact(q j zy).1)
   refine⟨.agg ((List.range s).map c).toArray,by simp[loadVar,h1,h2,hl],?_⟩
   refine .agg _ _ _ zw (λ i hi=>?_) λ i hi=>?_
   .simp at hi
    have e:((List.range s).map c).toArray.getD i undef=c i:=by simp[Array.getD,show i<s by omega]
    rw[e];exact(q i zy).2.1
   .simp at hi
    have e:((List.range s).map c).toArray.getD i undef=c i:=by simp[Array.getD,show i<s by omega]
    have e2:(cs.take s).getD i .dead=cs.getD i .dead:=by
     simp only[List.getD,Un];rw[if_pos zy]
    rw[e,e2];exact(q i zy).2.2
 | false =>
   obtain rfl:s=1:=by simpa using h3
   have h0:=q 0 zy
   have e:cs.headD .dead=cs.getD 0 .dead:=by cases cs<;>rfl
   simp only[Ue,Uv];rw[e];refine⟨c 0,?_,h0.2.2⟩;simp only[loadVar,Sem.run_bind,h1,Result.andThen_ok];have h4:w.cell? ⟨b,off,none⟩=some (c 0):=by simpa using h0.1
   simp[h4]
def JA (a:Act) (r:ResultVar):Sem Value :=
 match r with
 | .tmp t=>pure (a.tmps.getD t undef)
 | .cell b t=>do loadVar t (<- asAddr (a.tmps.getD b undef))
theorem j9 {st:St} {a:Act} {aA:Nat->Prop} (tm:∀ i,AX T w M (st.get i) (a.tmps.getD i undef)) (m:BF np T0 M0 w0 aA st.hp T M w) {r:ResultVar} {v:AV} (h:G2 st (Gw P r)=some v):∃ u,(JA a r).run P w = .ok u w/\AX T w M v u:=by
 cases r with
 | tmp t =>
   simp only[Gw,G2,Qq] at h;subst h;exact⟨_,rfl,tm t⟩
 | cell b t =>
   simp only[Gw] at h
   have bad:G2 st (b,some (false,0))=some v->False:=by
    intro h;simp only[G2] at h;split at h
    .simp at h
    .cases h
   cases q:Dq P t with
   | none=>rw[q] at h;exact(bad h).elim
   | some ag =>
     rw[q] at h
     cases h0:CB P t with
     | none=>rw[h0] at h;exact(bad h).elim
     | some s =>
       rw[h0] at h;simp only[G2] at h;split at h
       case h_2=>cases h
       rename_i cs h4;split at h
       case isFalse=>cases h
       rename_i hc;simp only[Qq] at h;subst h;obtain⟨blk,off,hv,c,h1⟩:=Zm m (tm b) h4
       have h2:(sizeOf t).run P w = .ok s w:=by
        simp only[CB,Qr] at h0;obtain⟨i,hi,hs⟩:=h0;simp[sizeOf,typeInfo,hi,hs]
       have h3:(isAgg t).run P w = .ok ag w:=by
        unfold Dq at q;split at q<;>(try (cases q;done))
        .rename_i e;cases q;simp[isAgg,B1 e]
        .rename_i e;cases q;simp[isAgg,B1 e]
        .rename_i d e n1 n2
         cases q;simp only[isAgg,Sem.run_bind,B1 n2];simp
       obtain⟨u,hu,h5⟩:=m8 (P:=P) h3 h2 hc.1 hc.2 h1;refine⟨u,?_,h5⟩;simp[JA,hv,asAddr,hu]
theorem RF {st:St} {T:Nat->Nat} {M:GM} {a:Act} {w:World} {aA:Nat->Prop} (tm:∀ i,AX T w M (st.get i) (a.tmps.getD i undef)) (m:BF np T0 M0 w0 aA st.hp T M w) :
  ∀ (rs:List ResultVar) (vs:List AV),Ek st (rs.map (Gw P))=some vs -> ∃ us:List Value,(rs.mapM (JA a)).run P w = .ok us w/\us.length=vs.length /\ ∀ i,i<vs.length->AX T w M (vs.getD i .dead) (us.getD i undef)
 | [],vs,h=>by
   simp[Ek] at h;subst h;exact⟨[],zz,rfl,λ i hi=>absurd hi zz⟩
 | r::rs,vs,h=>by
   simp only[Qp,Ek] at h;split at h
   case h_2=>cases h
   rename_i v vs' h1 h2;simp only[Qq] at h;subst h;obtain⟨u,hu,q⟩:=j9 tm m h1;obtain⟨us,h0,hl,hr⟩:=RF tm m rs vs' h2;refine⟨u::us,by simp[List.mapM_cons,hu,h0],by simp[hl],λ i hi=>?_⟩
   cases i with
   | zero=>simpa using q
   | succ i=>simpa using hr i (by simpa using hi)
theorem t7 {α:Type} (l:List α) (k:Nat):AQ (l.zipIdx.map λ (a,i)=>(i,a)) k=l[k]?:=by
 have key:∀ (l:List α) (q k:Nat),AQ ((l.zipIdx q).map λ (a,i)=>(i,a)) (q+k)=l[k]?:=by
  intro l
  induction l with
  | nil=>intro q k;rfl
  | cons x l ih =>
    intro q k;simp only[List.zipIdx_cons,Qp,AQ]
    cases k with
    | zero=>simp
    | succ k =>
      rw[if_neg zy,show q+(k+1)=q+1+k by omega,ih]
      simp
 have:=key l 0 k
 rwa [Uc] at this
theorem wE (l:List AD) (k:Nat):AQ (l.zipIdx.map λ (e,i)=>(i,some e)) k=(l[k]?).map some:=by
 have key:∀ (l:List AD) (q k:Nat),AQ ((l.zipIdx q).map λ (e,i)=>(i,some e)) (q+k)=(l[k]?).map some:=by
  intro l
  induction l with
  | nil=>intro q k;rfl
  | cons x l ih =>
    intro q k;simp only[List.zipIdx_cons,Qp,AQ]
    cases k with
    | zero=>simp
    | succ k =>
      rw[if_neg zy,show q+(k+1)=q+1+k by omega,ih]
      simp
 have:=key l 0 k
 rwa [Uc] at this
theorem l7 (hm:P.follows .mixedOrders=true) {f:FuncId} {fn:Func} {af:BW} (hf:P.funcs[f]? = some fn) (hc:Ii P fn=some af) (a5:fn.name ≠ "runtime.NumGoroutine") {args:List AV} {hs:List AD} {res:AV} {aE:List (Option AD)} (bo:args.length<=af.nt) (an:hs.length<=16) (a6:hs.length<=aE.length) (h:Ad P hs.length af.code (λ e st=>(e = .normal∨e = .ret)/\AW af.res hs.length st res aE) (FQ af args hs)):Bz P f args hs res aE:=by
 unfold Ii at hc
 cases hb:fn.body with
 | none=>rw[hb] at hc;cases hc
 | some c =>
   rw[hb] at hc;simp only[Qq] at hc;subst hc;refine⟨⟨fn,c,hf,hb,a5⟩,a6,λ T M w vs au bs a3 hv=>?_⟩;refine calls_of_wp hf hb ?_
   have hg:∀ i,(FQ { nt:=fn.ntmps,res:=fn.results.toList.map (Gw P),code:=comp P c } args hs).get i=args.getD i .dead:=by
    intro i;unfold St.get FQ;simp only[t7];rfl
   have hh:∀ i,(FQ { nt:=fn.ntmps,res:=fn.results.toList.map (Gw P),code:=comp P c } args hs).hp i=hs[i]?:=by
    intro i;unfold St.hp FQ;simp only[wE]
    cases hs[i]?<;>rfl
   have ok:Ok hs.length T M w (GS 16) (FQ { nt:=fn.ntmps,res:=fn.results.toList.map (Gw P),code:=comp P c } args hs) T M { tmps:=vs++Array.replicate (fn.ntmps - vs.size) undef,defers:=[] } w:=by
    refine⟨?_,rfl,λ i=>?_,?_,λ id g hg=>?_,?_⟩
    .simp only[UQ,Array.size_replicate,FQ]
     have:=hv.1;simp only at bo;omega
    .rw [hg]
     by_cases hi:i<args.length
     .have:=hv.2 i hi
      have e:(vs++Array.replicate (fn.ntmps - vs.size) undef).getD i undef=vs.getD i undef:=by
       simp only[Qx];rw[Uf (by rw[hv.1];exact hi)]
      rw[e];exact this
     .have:args.getD i .dead = .dead:=by simp[List.getD,show ¬ i<args.length by omega]
      rw[this];exact .dead _ _
    .have e:(FQ { nt:=fn.ntmps,res:=fn.results.toList.map (Gw P),code:=comp P c } args hs).hp=CW hs:=funext hh
     rw[e];exact bs
    .show id<16
     rcases Ui id hs.length with h | h
     .omega
     .rw [a3 id h] at hg;cases hg
    .exact ⟨au,λ _ _ _=>rfl,λ _ _=>rfl,rfl,rfl,rfl,Qk _,λ _ _ _=>rfl,Ag.refl _ _,λ k g b hk hg=>by rw[a3 k hk] at hg;cases hg⟩
   refine wp_mono (HS hm c _ _ T M _ w h ok an) ?_
   rintro e a' w' ⟨e',st',T',M',he,ok',cp,hq,vs',bt,ex,sn,av,c0,b0,c1,a4⟩
   have hw:a'.defers=[] /\ ∃ v,(results fn a'.tmps).run P w' = .ok v w' /\ ∃ v2 T2 M2,Ending.returned v = .returned v2/\AX T2 w' M2 res v2/\DR T2 w' M2 (Eg aE)/\FO hs.length T M w T2 M2 w':=by
    refine⟨ok'.df,?_⟩;obtain⟨us,c2,b1,a0⟩:=RF (P:=P) ok'.tm ok'.mem fn.results.toList vs' bt
    have b2:(results fn a'.tmps).run P w' = .ok (if h:us.toArray.size=1 then us.toArray[0] else .tuple us.toArray) w':=by
     have e0:results fn a'.tmps=(do let vs <- fn.results.mapM (JA a');pure (if h:vs.size=1 then vs[0] else .tuple vs)):=by
      have e2:(λ r:ResultVar=>match r with | ResultVar.tmp t=>(pure (a'.tmps.getD t undef):Sem Value) | ResultVar.cell a t=>do loadVar t (<- asAddr (a'.tmps.getD a undef)))=JA a':=by
       funext r;cases r<;>rfl
      rw[<- e2];rfl
     have e:(fn.results.mapM (JA a')).run P w' = .ok us.toArray w':=by
      rw[Array.mapM_eq_mapM_toList];simp[c2]
     rw[e0,Sem.run_bind,e];rfl
    have c3:AX T' w' M' (C2 vs') (if h:us.toArray.size=1 then us.toArray[0] else .tuple us.toArray):=by
     by_cases h1:vs'.length=1
     .match vs',us,h1,b1,a0 with
      | [v],[u],_,_,a0=>exact a0 0 zz
     .have e:C2 vs' = .tup vs':=by
       match vs',h1 with
       | [],_=>rfl
       | [_],h=>simp at h
       | _::_::_,_=>rfl
      rw[e,dif_neg zw]
      exact .tup _ _ _ (by simpa using b1) λ i hi=>by simpa [List.getD,Qx] using a0 i hi
    refine⟨_,b2,(if h:us.toArray.size=1 then us.toArray[0] else .tuple us.toArray),?_⟩
    let nm:List Nat:=List.range hs.length++ex
    obtain⟨T1,b3,a7,a8,hx⟩:=Oz ok'.hs ok'.after.tok sn
    let Mr:GM:=λ k=>match nm[k]? with | some i=>M' i | none=>none
    have ht:∀ (k i:Nat),nm[k]? = some i->Mr k=M' i:=λ k i q=>by show (match nm[k]? with | some i=>M' i | none=>none)=_;rw[q]
    have b4:∀ k,k<hs.length->nm[k]? = some k:=λ k hk=>by
     show (List.range hs.length++ex)[k]? = _;rw[QC (by simpa using hk)]
     simp[hk]
    have a9:∀ (k i:Nat),hs.length<=k->nm[k]? = some i->hs.length<=i:=λ k i hk q=>by
     have e:nm[k]? = ex[k - hs.length]?:=by
      show (List.range hs.length++ex)[k]? = _;rw[Qs (by simpa using hk)]
      simp
     rw[e] at q;exact c0 i (QX q)
    have ag:=λ x v hr=>KA (Mc:=Mr) (x:=x) (v:=v) ok'.hs sn b3 a8 4 nm.zipIdx (λ id k hl=>ht k id (SA hl)) hr
    have ai:∀ i∈sn,i∉nm:=by
     intro i hi c4;rcases Qo.1 c4 with h | h
     .have:=(b0 i hi).2
      simp at h;omega
     .exact (b0 i hi).1 h
    have h8:∀ (k i:Nat) e',nm[k]? = some i->Eg aE k=some e' -> ∃ e,st'.hp i=some e/\e'=Ab nm.zipIdx sn st'.hp 4 e:=by
     intro k i e' q h9;have h1:=congrArg (·[k]?) a4
     simp only[QH] at h1;have h0:(List.range hs.length++ex)[k]? = some i:=q;rw[h0] at h1;simp only[Uo] at h1;unfold Eg at h9;rw[<- h1] at h9;simp only[Option.join_some,Qr] at h9;obtain⟨e,h2,h3⟩:=h9;exact⟨e,h2,h3.symm⟩
    have ha:∀ k e',Eg aE k=some e'->k<aE.length:=by
     intro k e' h;unfold Eg at h
     cases hq:aE[k]? with
     | none=>rw[hq] at h;simp at h
     | some _=>exact(Qu.1 hq).1
    have hy:nm.length=aE.length:=by
     have h1:=congrArg List.length a4;rw[QB] at h1;exact h1
    have hd:∀ i e g b,i∈nm->st'.hp i=some e->M' i=some g->g.blk=some b->T1 b=T' b:=by
     intro i e g b h1 h2 h3 h4;refine hx b λ i' hi' e' g' h5 h6 h7=>?_;have:=ok'.hs.inj i i' e e' g g' b h2 h5 h3 h6 h4 h7;subst this;exact ai i hi' h1
    refine⟨T1,Mr,rfl,c1.rep (ag _ _ c3),⟨λ k e' h9=>?_,λ k k' e1 e2 g g' b h1 h2 h3 h4 h5 h6=>?_⟩,?_⟩
    .have a1:k<nm.length:=by rw[hy];exact ha k e' h9
     have q:nm[k]? = some nm[k]:=Qa a1;obtain⟨e,he,rfl⟩:=h8 k _ e' q h9;obtain⟨g,hg,ent⟩:=ok'.hs.ent _ e he;refine⟨g,(ht k _ q).trans hg,ent.s,by simpa [Ab] using ent.ro,λ hz r hr=>?_,λ hn=>by simp[Ab,ent.none hn],λ hz=>?_,λ hz b b5=>?_⟩
     .simp only[Ab,Qh] at hr
      obtain⟨r0,c5,rfl⟩:=hr;rw[QB];exact ent.wide hz r0 c5
     .obtain ⟨b,o,a2,q1,q2,q3,q4⟩:=ent.mp hz
      exact⟨b,o,a2,q1,by rw[hd _ e g b (QX q) he hg a2];exact q2,q3,q4.map (λ _=>rfl) λ row _ x _ v hr=>ag x v hr⟩
     .obtain ⟨cells,ty,h1,h2,h3,h4⟩:=ent.blk hz b b5
      refine⟨cells,ty,h1,by rw[hd _ e g b (QX q) he hg b5];exact h2,by simpa [Ab] using h3,λ i j hi hj=>?_⟩
      simp only[Ab,QB] at hi hj ⊢;obtain⟨u,hu,ho,c6⟩:=h4 i j hi hj;refine⟨u,hu,ho,?_⟩
      have e1:(e.rows.map (·.map (conv nm.zipIdx sn st'.hp 4))).getD i []=(e.rows.getD i []).map (conv nm.zipIdx sn st'.hp 4):=by
       simp only[List.getD,QH]
       cases e.rows[i]?<;>rfl
      rw[e1,Fe _ (FU _ _ _ _)];exact ag _ _ c6
    .have a1:k<nm.length:=by rw[hy];exact ha k e1 h1
     have b6:k'<nm.length:=by rw[hy];exact ha k' e2 h2
     have q:nm[k]? = some nm[k]:=Qa a1;have h0:nm[k']? = some nm[k']:=Qa b6;obtain⟨ea,cb,_⟩:=h8 k _ e1 q h1;obtain⟨eb,cd,_⟩:=h8 k' _ e2 h0 h2;have:=ok'.hs.inj _ _ ea eb g g' b cb cd ((ht k _ q).symm.trans h3) ((ht k' _ h0).symm.trans h4) h5 h6;exact(List.getElem?_inj a1 av).1 (by rw[q,h0,this])
    .refine ok'.after.step a7 (λ b hb cl=>?_) (λ k hk=>?_) rfl rfl rfl (Qk _) (λ _ _ _=>rfl) ⟨b3,λ b cells ty fz h=>⟨cells,fz,h,rfl,λ _ _=>rfl⟩⟩ λ k g b hk hg a2=>?_
     .refine hx b λ i hi e g h1 h2 h3=>?_
      exact(ok'.after.blk h2 h3).elim cl zy
     .exact ht k k (b4 k hk)
     .cases q:nm[k]? with
      | none =>
        have:Mr k=none:=by show (match nm[k]? with | some i=>M' i | none=>none)=none;rw[q]
        rw[this] at hg;cases hg
      | some i =>
        rw[ht k i q] at hg;exact ok'.after.new i g b (a9 k i hk q) hg a2
   rcases hq with rfl | rfl
   .cases e<;>first | exact hw | exact False.elim he
   .cases e<;>first | exact hw | exact False.elim he
end
def Up (nl:List (Nat × Nat)) (x y:AV):Prop:=Wk x y∨(x = .nilS /\ ∃ id s,y = .rs id 0 0/\(id,s)∈nl)
def D9 (nl:List (Nat × Nat)):List AV->List AV->Prop
 | [],[]=>True
 | x::xs,y::ys=>Up nl x y/\D9 nl xs ys
 | _,_=>False
theorem D9.length {nl:List (Nat × Nat)}:∀ {xs ys:List AV},D9 nl xs ys->xs.length=ys.length
 | [],[],_=>rfl
 | _::_,_::_,h=>by simp[D9.length h.2]
 | [],_::_,h=>False.elim h
 | _::_,[],h=>False.elim h
theorem D9.get {nl:List (Nat × Nat)}:∀ {xs ys:List AV},D9 nl xs ys -> ∀ i:Nat,i<xs.length->Up nl (xs.getD i .dead) (ys.getD i .dead)
 | x::xs,y::ys,h,0,_=>h.1
 | x::xs,y::ys,h,i+1,hi=>by simpa using D9.get h.2 i (by simpa using hi)
 | [],[],_,i,hi=>absurd hi zz
 | [],_::_,h,_,_=>False.elim h
 | _::_,[],h,_,_=>False.elim h
def An (nl:List (Nat × Nat)) (e e':AD):Prop :=
 e'.s=e.s/\e.ro<=e'.ro/\e'.ro<=e'.rows.length/\(e'.rows=e.rows∨(e.s≠0/\e.rows.length=e'.rows.length /\ ∀ i,D9 nl (e.rows.getD i []) (e'.rows.getD i [])))
theorem Le.mk {np:Nat} {st st':St} (ρ:List (Nat × Nat)) (sn:List Nat) (nl:List (Nat × Nat)) (b3:st'.sz=st.sz) (h0:(ρ.map (·.1)).Nodup) (h1:(ρ.map (·.2)).Nodup) (h2:∀ p∈ρ,p.2<st'.n/\(p.2<np->p.1=p.2)) (h3:∀ p∈nl,np<=p.1/\p.1<st'.n/\p.1∉ρ.map (·.2)/\p.2≠0) (h4:∀ i∈sn,np<=i/\i∉ρ.map (·.1)) (h5:np<=st'.n) (h6:(nl.map (·.1)).Nodup) (ht:∀ i,Up nl (conv ρ sn st.hp 4 (st.get i)) (st'.get i)) (hh:∀ id' e',st'.hp id'=some e'->(∃ id e,(id,id')∈ρ/\st.hp id=some e/\An nl (Ab ρ sn st.hp 4 e) e')∨((id',e'.s)∈nl/\e'.rows=[]/\e'.ro=0)):Le np st st':=by
 intro T0 M0 w0 T M a w ok hn;obtain⟨T1,ai,a4,a5,hw⟩:=Oz ok.hs ok.after.tok sn
 let M':GM:=λ j=>if j<np then M j else match AQ nl j with
  | some s=>some ⟨none,0,s,false⟩
  | none=>match AQ (ρ.map λ p=>(p.2,p.1)) j with
    | some i=>M i
    | none=>none
 have a1:∀ j,j<np->M' j=M j:=λ j hj=>if_pos hj
 have hx:∀ j s,(j,s)∈nl->M' j=some ⟨none,0,s,false⟩:=by
  intro j s a6;have an:=(h3 _ a6).1
  have hl:AQ nl j=some s:=by
   cases hl:AQ nl j with
   | none=>exact absurd a6 (J1 hl s)
   | some s' =>
     have:=DD hl
     have key:∀ (l:List (Nat × Nat)),(l.map (·.1)).Nodup->(j,s)∈l->(j,s')∈l->s=s':=by
      intro l
      induction l with
      | nil=>intro _ h;simp at h
      | cons p l ih =>
        intro q ha hb;simp only[Qp,Q1,Qh,not_exists,not_and] at q;rcases Qw.1 ha with ha | ha<;>rcases Qw.1 hb with hb | hb
        .rw [<- ha] at hb;cases hb;rfl
        .exact absurd (by rw[<- ha]) (q.1 _ hb)
        .exact absurd (by rw[<- hb]) (q.1 _ ha)
        .exact ih q.2 ha hb
     rw[key nl h6 a6 this]
  show (if j<np then M j else _)=_
  rw[if_neg zy,hl]
 have hy:∀ i j,(i,j)∈ρ->M' j=M i:=by
  intro i j a0
  by_cases hj:j<np
  .have h:=(h2 _ a0).2 hj
   simp only at h;rw[a1 j hj,h]
  .have b4:AQ nl j=none:=by
    cases hl:AQ nl j with
    | none=>rfl
    | some s=>exact absurd (Qh.2 ⟨_,a0,rfl⟩) (h3 _ (DD hl)).2.2.1
   have au:AQ (ρ.map λ p=>(p.2,p.1)) j=some i:=by
    cases hl:AQ (ρ.map λ p=>(p.2,p.1)) j with
    | none=>exact absurd (Qh.2 ⟨_,a0,rfl⟩) (J1 hl i)
    | some i' =>
      have:=DD hl;simp only[Qh,Prod.mk.injEq] at this;obtain⟨⟨p1,p2⟩,hp,rfl,rfl⟩:=this
      have key:∀ (l:List (Nat × Nat)),(l.map (·.2)).Nodup->(p1,p2)∈l->(i,p2)∈l->p1=i:=by
       intro l
       induction l with
       | nil=>intro _ h;simp at h
       | cons p l ih =>
         intro q ha hb;simp only[Qp,Q1,Qh,not_exists,not_and] at q;rcases Qw.1 ha with ha | ha<;>rcases Qw.1 hb with hb | hb
         .rw [<- ha] at hb;cases hb;rfl
         .exact absurd (by rw[<- ha]) (q.1 _ hb)
         .exact absurd (by rw[<- hb]) (q.1 _ ha)
         .exact ih q.2 ha hb
      rw[key ρ h1 hp a0]
   show (if j<np then M j else _)=_
   rw[if_neg hj,b4,au]
 have hc:∀ j g,M' j=some g->j<np∨(∃ s,(j,s)∈nl/\g=⟨none,0,s,false⟩) ∨ ∃ i,(i,j)∈ρ/\M i=some g:=by
  intro j g hg
  by_cases hj:j<np
  .exact .inl hj
  .right
   have hd:(if j<np then M j else match AQ nl j with
    | some s=>some ⟨none,0,s,false⟩
    | none=>match AQ (ρ.map λ p=>(p.2,p.1)) j with
      | some i=>M i
      | none=>none)=some g:=hg
   rw[if_neg hj] at hd
   cases hl:AQ nl j with
   | some s =>
     rw[hl] at hd;exact .inl ⟨s,DD hl,(Qc hd).symm⟩
   | none =>
     rw[hl] at hd
     cases hr:AQ (ρ.map λ p=>(p.2,p.1)) j with
     | none=>rw[hr] at hd;cases hd
     | some i =>
       rw[hr] at hd;have:=DD hr;simp only[Qh,Prod.mk.injEq] at this;obtain⟨⟨p1,p2⟩,hp,rfl,rfl⟩:=this;exact .inr ⟨_,hp,hd⟩
 have a7:=λ x v hr=>KA (Mc:=M') (x:=x) (v:=v) ok.hs sn ai a5 4 ρ (λ id k hl=>hy id k (DD hl)) hr
 have av:∀ x y v,Up nl x y->AX T1 w M' x v->AX T1 w M' y v:=by
  rintro x y v (h | ⟨rfl,id,s,rfl,h8⟩) hr
  .exact h.rep hr
  .cases hr
   exact .rs _ _ 0 0 0 none _ (hx id s h8) (h3 _ h8).2.2.2 (Qk _) (λ _=>⟨rfl,rfl⟩) λ b hb=>by cases hb
 have hf:∀ id e g b,id∉sn->st.hp id=some e->M id=some g->g.blk=some b->T1 b=T b:=by
  intro id e g b h1 h2 h3 h4;refine hw b λ i hi e' g' h5 h6 h7=>?_;have:=ok.hs.inj id i e e' g g' b h2 h5 h3 h6 h4 h7;subst this;exact h1 hi
 refine⟨T1,M',⟨ok.sz.trans b3.symm,ok.df,λ i=>av _ _ _ (ht i) (a7 _ _ (ok.tm i)),⟨λ id' e' b5=>?_,λ i i' e1 e2 g g' b q1 q2 q3 q4 q5 q6=>?_⟩,λ j g hg=>?_,?_⟩,h5⟩
 .rcases hh id' e' b5 with ⟨id,e,h8,he,u1,u2,u3,u4⟩ | ⟨h8,hr,b6⟩
  .obtain ⟨g,hg,ent⟩:=ok.hs.ent id e he
   have a2:id∉sn:=λ hi=>(h4 id hi).2 (Qh.2 ⟨_,h8,rfl⟩)
   have hq:e'.rows.length=e.rows.length:=by
    rcases u4 with u4 | ⟨_,v1,_⟩
    .rw [u4];simp[Ab]
    .rw [<- v1];simp[Ab]
   have hm:∀ i,(Ab ρ sn st.hp 4 e).rows.getD i []=(e.rows.getD i []).map (conv ρ sn st.hp 4):=λ i=>by
    simp only[Ab,List.getD,QH]
    cases e.rows[i]?<;>rfl
   have a8:e.s≠0 -> ∀ r∈e'.rows,r.length=e.s:=λ hz r hr=>by
    rcases u4 with u4 | ⟨_,v1,v3⟩
    .rw [u4] at hr
     simp only[Ab,Qh] at hr;obtain⟨r0,bo,rfl⟩:=hr;rw[QB];exact ent.wide hz r0 bo
    .obtain ⟨i,hi,rfl⟩:=QA.1 hr
     have h1:=(v3 i).length;rw[hm,QB] at h1;have e1:e'.rows.getD i []=e'.rows[i]:=by simp[List.getD,hi]
     have hi':i<e.rows.length:=zy
     have e2:e.rows.getD i []=e.rows[i]:=by simp[List.getD,hi']
     rw[e1,e2] at h1;rw[<- h1];exact ent.wide hz _ (Qj hi')
   have a9:e.s≠0 -> ∀ i j,i<e.rows.length->j<e.s->Up nl (conv ρ sn st.hp 4 ((e.rows.getD i []).getD j .dead)) ((e'.rows.getD i []).getD j .dead):=by
    intro hz i j hi hj
    have e1:((Ab ρ sn st.hp 4 e).rows.getD i []).getD j .dead=conv ρ sn st.hp 4 ((e.rows.getD i []).getD j .dead):=by
     rw[hm,Fe _ (FU _ _ _ _)]
    rcases u4 with u4 | ⟨_,v1,v3⟩
    .rw [u4,e1];exact .inl (.refl _)
    .rw [<- e1]
     refine(v3 i).get j ?_;rw[hm,QB];have e2:e.rows.getD i []=e.rows[i]:=by simp[List.getD,hi]
     rw[e2,ent.wide hz _ (Qj hi)];exact hj
   have h9:e'.s=e.s:=u1;refine⟨g,(hy id id' h8).trans hg,ent.s.trans (by rw[u1];rfl),u3,λ hz r hr=>?_,λ hn=>?_,λ hz=>?_,λ hz b b0=>?_⟩
   .rw [h9]
    exact a8 (h9 ▸ hz) r hr
   .have:=ent.none hn
    rw[this] at hq;exact QK (by simpa using hq)
   .obtain ⟨b,o,hv,q1,q2,q3,q4⟩:=ent.mp (h9 ▸ hz)
    have ag:e'.rows=(Ab ρ sn st.hp 4 e).rows:=by
     rcases u4 with u4 | ⟨v0,_⟩
     .exact u4
     .exact absurd (h9 ▸ hz) v0
    refine⟨b,o,hv,q1,by rw[hf id e g b a2 he hg hv];exact q2,q3,?_⟩
    rw[ag];exact q4.map (λ _=>rfl) λ row _ x _ v hr=>a7 x v hr
   .obtain ⟨cells,ty,p1,p2,p3,p4⟩:=ent.blk (h9 ▸ hz) b b0
    refine⟨cells,ty,by rw[h9];exact p1,?_,by rw[hq,h9];exact p3,λ i j hi hj=>?_⟩
    .rw [hf id e g b a2 he hg b0,h9]
     have:e.ro*e.s<=e'.ro*e.s:=Qy _ u2;omega
    .rw [hq] at hi
     rw[h9] at hj ⊢;obtain⟨u,hu,ho,bs⟩:=p4 i j hi hj;exact⟨u,hu,ho,av _ _ _ (a9 (h9 ▸ hz) i j hi hj) (a7 _ _ bs)⟩
  .refine ⟨_,hx _ _ h8,rfl,by rw[b6];exact Qn _,(λ _=>by rw[hr];simp),(λ _=>hr),(λ hz=>absurd hz (h3 _ h8).2.2.2),λ _ b hb=>by cases hb⟩
 .have a3:∀ i e1 g b,st'.hp i=some e1->M' i=some g->g.blk=some b -> ∃ id e,(id,i)∈ρ/\st.hp id=some e/\M id=some g:=by
   intro i e1 g b p1 p2 p3;rcases hh i e1 p1 with ⟨id,e,h8,he,_⟩ | ⟨h8,_⟩
   .exact ⟨id,e,h8,he,(hy id i h8).symm.trans p2⟩
   .rw [hx _ _ h8] at p2
    obtain rfl:=Qc p2
    cases p3
  obtain⟨i1,ea,r1,r2,r3⟩:=a3 i e1 g b q1 q3 q5;obtain⟨i2,eb,s1,s2,s3⟩:=a3 i' e2 g' b q2 q4 q6;have:=ok.hs.inj i1 i2 ea eb g g' b r2 s2 r3 s3 q5 q6;subst this
  .
   have key:∀ (l:List (Nat × Nat)),(l.map (·.1)).Nodup->(i1,i)∈l->(i1,i')∈l->i=i':=by
    intro l
    induction l with
    | nil=>intro _ h;simp at h
    | cons p l ih =>
      intro q ha hb;simp only[Qp,Q1,Qh,not_exists,not_and] at q;rcases Qw.1 ha with ha | ha<;>rcases Qw.1 hb with hb | hb
      .rw [<- ha] at hb;cases hb;rfl
      .exact absurd (by rw[<- ha]) (q.1 _ hb)
      .exact absurd (by rw[<- hb]) (q.1 _ ha)
      .exact ih q.2 ha hb
   exact key ρ h0 r1 s1
 .rcases hc j g hg with h | ⟨s,h,_⟩ | ⟨i,h,_⟩
  .show j<st'.n;omega
  .exact (h3 _ h).2.1
  .exact (h2 _ h).1
 .refine ok.after.step a4 (λ b hb an=>?_) (λ k hk=>a1 k hk) rfl rfl rfl (Qk _) (λ _ _ _=>rfl) ⟨ai,λ b cells ty fz h=>⟨cells,fz,h,rfl,λ _ _=>rfl⟩⟩ λ k g b hk hg hv=>?_
  .refine hw b λ i hi e g q1 q2 q3=>?_
   exact(ok.after.blk q2 q3).elim an zy
  .rcases hc k g hg with h | ⟨s,h,rfl⟩ | ⟨i,h,b1⟩
   .omega
   .cases hv
   .rcases Ui i np with b2 | hge
    .exact .inl ⟨i,g,b2,(ok.after.same i b2).symm.trans b1,hv⟩
    .exact ok.after.new i g b hge b1 hv
theorem Le.refl (np:Nat) (st:St):Le np st st:=λ _ _ _ T M _ _ ok hn=>⟨T,M,ok,hn⟩
variable {P:Program} {Q:Dy->St->Prop} {a:CS} {af:List (List Nat)} {h:List (Nat × Option AD)} {aE:List (Option AD)} {n np sz:Nat} {ops:List Bl} {res:AV} {st:St} {t:List (Nat × AV)}
theorem vD {id:Nat} {op:Er} {xs:List AV} {h:Nat->Option AD} {K1 K2:AV->List Nat->List (Nat × Option AD)->Prop} (hk:∀ a b c,K1 a b c->K2 a b c) (hx:aX id op xs h K1):aX id op xs h K2:=by
 unfold aX at hx ⊢;split at hx
 .obtain ⟨e,h1,h2,h3,hx⟩:=hx
  exact⟨e,h1,h2,h3,hk _ _ _ hx⟩
 .obtain ⟨e,h1,h2,h3,hx⟩:=hx
  exact⟨e,h1,h2,h3,hk _ _ _ hx⟩
 .exact hk _ _ _ hx
 .obtain ⟨e,h1,h2,s,p,h3,hx⟩:=hx
  split at hx
  .rename_i hp
   obtain⟨c,h4,h5,hx⟩:=hx;exact⟨e,h1,h2,s,p,h3,by rw[if_pos hp];exact⟨c,h4,h5,hk _ _ _ hx⟩⟩
  .rename_i hp
   exact⟨e,h1,h2,s,p,h3,by rw[if_neg hp];exact hk _ _ _ hx⟩
 .exact hk _ _ _ hx
 .exact False.elim hx
theorem Wn {id:Nat} {op:ER} {xs:List AV} {h:Nat->Option AD} {K1 K2:AV->List Nat->List (Nat × Option AD)->Prop} (hk:∀ a b c,K1 a b c->K2 a b c):aK P np id op xs h K1->aK P np id op xs h K2:=by
 by_cases q:∃ s b x y,op = .app s b/\xs=[x,y]/\¬ ∃ i o l c,x=AV.rk i o l c
 .obtain ⟨s,b,x,y,rfl,rfl,hx⟩:=q
  simp only[IZ hx]
  rintro⟨a,b,c,d,e,f,u⟩
  exact⟨a,b,c,d,e,f,hk _ _ _ u⟩
 unfold aK;split<;>intro hx
 all_goals first
  | (exfalso;exact q ⟨_,_,_,_,rfl,rfl,λ ⟨_,_,_,_,e⟩=>by subst e;simp_all⟩)
  | exact vD hk hx
  | exact hx
  | exact hk _ _ _ hx
  | skip
 all_goals try (obtain⟨a1,hx⟩:=hx;first | exact⟨a1,hk _ _ _ hx⟩ | skip)
 all_goals try (obtain⟨a2,hx⟩:=hx;first | exact⟨a1,a2,hk _ _ _ hx⟩ | skip)
 all_goals try (obtain⟨a3,hx⟩:=hx;first | exact⟨a1,a2,a3,hk _ _ _ hx⟩ | skip)
 all_goals try (obtain⟨a4,hx⟩:=hx;first | exact⟨a1,a2,a3,a4,hk _ _ _ hx⟩ | skip)
 all_goals try (obtain⟨a5,hx⟩:=hx;first | exact⟨a1,a2,a3,a4,a5,hk _ _ _ hx⟩ | skip)
 all_goals try (obtain⟨a6,hx⟩:=hx;first | exact⟨a1,a2,a3,a4,a5,a6,hk _ _ _ hx⟩ | skip)
 all_goals try (obtain⟨a7,hx⟩:=hx;first | exact⟨a1,a2,a3,a4,a5,a6,a7,hk _ _ _ hx⟩ | skip)
 all_goals try (obtain⟨a8,hx⟩:=hx;first | exact⟨a1,a2,a3,a4,a5,a6,a7,a8,hk _ _ _ hx⟩ | skip)
 all_goals try exact⟨a1,a2,a3,a4,a5,a6,a7,a8,hx.1,hk _ _ _ hx.2⟩
 .obtain ⟨h1,h2,hx⟩:=hx
  refine⟨a1,a2,a3,a4,a5,a6,a7,a8,h1,h2,?_⟩;split at hx
  .exact ⟨hx.1,hx.2.1,hx.2.2.1,hk _ _ _ hx.2.2.2⟩
  .exact ⟨hx.1,hx.2.1,hx.2.2.1,hk _ _ _ hx.2.2.2⟩
  .exact ⟨hx.1,hx.2.1,hx.2.2.1,hx.2.2.2.1,hk _ _ _ hx.2.2.2.2⟩
  .exact ⟨hx.1,hx.2.1,hk _ _ _ hx.2.2⟩
  .exact hx
 .obtain ⟨h1,h2,h3,h4,h5,h6,h7,hx⟩:=hx
  exact⟨a1,a2,a3,a4,a5,a6,a7,a8,h1,h2,h3,h4,h5,h6,h7,hk _ _ _ hx⟩
 rotate_left
 .obtain ⟨h1,h2,h3,h4,h5,h6,h7,h8,h9,hx⟩:=hx
  exact⟨a1,a2,a3,a4,a5,a6,a7,a8,h1,h2,h3,h4,h5,h6,h7,h8,h9,hk _ _ _ hx⟩
 .obtain ⟨h1,hx⟩:=hx
  refine⟨a1,a2,a3,a4,a5,a6,a7,a8,h1,?_⟩;split at hx<;>rename_i hc
  .rw [if_pos hc];exact hk _ _ _ hx
  .rw [if_neg hc];exact hk _ _ _ hx
theorem EY:∀ (ops:List Bl) (n i:Nat) (st:St) (tr:List (List Nat × List Nat)) (K K':St->List (List Nat × List Nat)->Prop),(∀ s t,K s t->K' s t)->BY P np n i ops st tr K->BY P np n i ops st tr K':=by
 intro ops
 induction ops with
 | nil=>intro n i st tr K K' hK h;exact hK _ _ h
 | cons o os ih =>
   intro n i st tr K K' hK h
   have q:∀ (op:ER) (xs:List AV) (h:Nat->Option AD) (K1 K2:AV->List Nat->List (Nat × Option AD)->Prop),(∀ a b c,K1 a b c->K2 a b c)->aK P np (n+8*i) op xs h K1->aK P np (n+8*i) op xs h K2:=by
    intro op xs h K1 K2 hk hx;exact Wn hk hx
   unfold BY at h ⊢
   cases hg:o.guard with
   | none =>
     simp only[hg] at h ⊢;exact q _ _ _ _ _ (λ v rd up hh=>ih _ _ _ _ _ _ hK hh) h
   | some gw =>
     obtain⟨g,want⟩:=gw;simp only[hg] at h ⊢;obtain⟨b,hb,h⟩:=h;refine⟨b,hb,?_⟩
     by_cases u:b=some want
     .rw [if_pos u] at h ⊢
      exact q _ _ _ _ _ (λ v rd up hh=>ih _ _ _ _ _ _ hK hh) h
     .rw [if_neg u] at h ⊢
      exact ih _ _ _ _ _ _ hK h
theorem D6:∀ {c:CS} {Q Q':Dy->St->Prop} {st:St},(∀ e s,Q e s->Q' e s)->Ad P np c Q st->Ad P np c Q' st:=by
 intro c
 induction c with
 | skip=>intro Q Q' st h;exact h _ _
 | reg draw ops after =>
   intro Q Q' st h hw;refine⟨hw.1,?_⟩;exact EY _ _ _ _ _ _ _ (λ s t h2=>⟨h2.1,h _ _ h2.2⟩) hw.2
 | seq a b iha ihb =>
   intro Q Q' st h hw;refine iha (λ e s hs=>?_) hw
   cases e with
   | normal=>obtain⟨st2,q,h2⟩:=hs;exact⟨st2,q,ihb h h2⟩
   | exit id=>exact h _ _ hs
   | ret=>exact h _ _ hs
 | cond c a b iha ihb =>
   intro Q Q' st h hw;obtain⟨t,ht,hw⟩:=hw;refine⟨t,ht,?_⟩
   cases t
   .exact ihb h hw
   .exact iha h hw
 | block id a iha =>
   intro Q Q' st h hw;refine iha (λ e s hs=>?_) hw
   cases e with
   | normal=>exact h _ _ hs
   | exit id' =>
     simp only at hs ⊢
     by_cases hi:id'=id
     .rw [if_pos hi] at hs ⊢;exact h _ _ hs
     .rw [if_neg hi] at hs ⊢;exact h _ _ hs
   | ret=>exact h _ _ hs
 | loop a iha =>
   intro Q Q' st h hw;obtain⟨I,hI,hb⟩:=hw;refine⟨I,hI,λ k s hk=>iha (λ e s hs=>?_) (hb k s hk)⟩
   cases e with
   | normal=>exact hs
   | exit id=>exact h _ _ hs
   | ret=>exact h _ _ hs
 | exit id=>intro Q Q' st h;exact h _ _
 | ret=>intro Q Q' st h;exact h _ _
 | bad=>intro Q Q' st _ h;exact h
theorem AB {b:CS} (h:Ad P np a (λ e st'=>match e with | .normal=>Ad P np b Q st' | e=>Q e st') st):Ad P np (.seq a b) Q st:=by
 show Ad P np a _ st;refine D6 (λ e s hs=>?_) h
 cases e with
 | normal=>exact⟨s,Le.refl _ _,hs⟩
 | exit id=>exact hs
 | ret=>exact hs
theorem As {ι:Type} (C:ι->St) (I:ι->Prop) (m:ι->Nat) (i0:ι) (h0:I i0) (q:Le np st (C i0)) (hb:∀ i,I i->Ad P np a (λ e st'=>match e with | .normal=>∃ j,I j/\m j<m i/\Le np st' (C j) | e=>Q e st') (C i)):Ad P np (.loop a) Q st:=by
 refine⟨λ k s=>∃ i,I i/\m i=k/\s=C i,⟨_,_,q,i0,h0,rfl,rfl⟩,?_⟩
 rintro k s ⟨i,hi,rfl,rfl⟩
 refine D6 (λ e s hs=>?_) (hb i hi)
 cases e with
 | normal=>obtain⟨j,hj,hm,hl⟩:=hs;exact⟨_,_,hl,⟨j,hj,rfl,rfl⟩,hm⟩
 | exit id=>exact hs
 | ret=>exact hs
theorem Le.lst {st':St} (ρ:List (Nat × Nat)) (sn:List Nat) (nl:List (Nat × Nat)) (h7:st'.sz=st.sz) (h0:(ρ.map (·.1)).Nodup) (h1:(ρ.map (·.2)).Nodup) (h2:∀ p∈ρ,p.2<st'.n/\(p.2<np->p.1=p.2)) (h3:∀ p∈nl,np<=p.1/\p.1<st'.n/\p.1∉ρ.map (·.2)/\p.2≠0) (h4:∀ i∈sn,np<=i/\i∉ρ.map (·.1)) (h5:np<=st'.n) (h6:(nl.map (·.1)).Nodup) (ht:∀ p∈st'.t,Up nl (conv ρ sn st.hp 4 (st.get p.1)) p.2) (hh:∀ p∈st'.h,∀ e',p.2=some e'->(∃ q∈ρ,q.2=p.1 /\ ∃ e,st.hp q.1=some e/\An nl (Ab ρ sn st.hp 4 e) e')∨((p.1,e'.s)∈nl/\e'.rows=[]/\e'.ro=0)):Le np st st':=by
 refine Le.mk ρ sn nl h7 h0 h1 h2 h3 h4 h5 h6 (λ i=>?_) λ id' e' u=>?_
 .unfold St.get at *
  cases hl:AQ st'.t i with
  | none=>exact .inl (.dead _)
  | some v=>exact ht _ (DD hl)
 .unfold St.hp at u
  cases hl:AQ st'.h id' with
  | none=>rw[hl] at u;cases u
  | some v =>
    rw[hl] at u;rcases hh _ (DD hl) e' u with ⟨q,hq,hq2,e,he,h⟩ | h
    .obtain ⟨q1,q2⟩:=q
     simp only at hq2;subst hq2;exact .inl ⟨q1,e,hq,he,h⟩
    .exact .inr h
theorem Le.slots {st':St} (q:st'.sz=st.sz) (hh:st'.h=[]) (ht:∀ p∈st'.t,Wk (conv [] [] st.hp 4 (st.get p.1)) p.2):Le 0 st st' :=
 Le.lst [] [] [] q zz zz zz zz zz (Qn _) zz (λ p hp=>.inl (ht p hp)) (by simp[hh])
def Src (P:Program) (f:FuncId) (af:BW):Prop:=P.follows .mixedOrders=true /\ ∃ fn,P.funcs[f]? = some fn/\Ii P fn=some af/\fn.name ≠ "runtime.NumGoroutine"
theorem Src.acalls {f:FuncId} {af:BW} (s:Src P f af) {args:List AV} {hs:List AD} (h0:args.length<=af.nt) (u:hs.length<=16) (q:hs.length<=aE.length) (h:Ad P hs.length af.code (λ e st=>(e = .normal∨e = .ret)/\AW af.res hs.length st res aE) (FQ af args hs)):Bz P f args hs res aE:=by
 obtain⟨hm,fn,hf,hc,hn⟩:=s;exact l7 hm hf hc hn h0 u q h
theorem AW.one {t:Nat} (h:Wk (conv [] [] st.hp 4 (st.get t)) res):AW [(t,none)] 0 st res [] :=
 ⟨[st.get t],rfl,[],[],zz,zz,zz,h,rfl⟩
theorem Src.ac {f:FuncId} {af:BW} (s:Src P f af) {args:List AV} {hs:List AD} (h:Ad P hs.length af.code (λ e st=>(e = .normal∨e = .ret)/\AW af.res hs.length st res aE) (FQ af args hs)) (h0:args.length<=af.nt:=by exact Bf rfl) (u:hs.length<=16:=by exact Bf rfl) (q:hs.length<=aE.length:=by first | exact Qk _ | exact Qn _):Bz P f args hs res aE:=s.acalls h0 u q h
theorem Ca {t:Nat} (h:Wk (conv [] [] st.hp 4 (st.get t)) res:=by simp):Ad Tryz.prog 0 .ret (λ e st=>(e = .normal∨e = .ret)/\AW [(t,none)] 0 st res []) st:=⟨.inr rfl,AW.one h⟩
theorem Ap (hd:(ops.all λ o=>o.dst.all (· < sz))=true) (ho:BY P np n 0 ops ⟨sz,t,h,n⟩ [] λ st' _=>Q .normal ⟨st'.sz,st'.t,st'.h,n+8*ops.length⟩):Ad P np (.reg false ops af) Q ⟨sz,t,h,n⟩:=by
 refine⟨hd,?_⟩
 have:(λ (st':St) (tr:List (List Nat × List Nat))=>Q .normal ⟨st'.sz,st'.t,st'.h,n+8*ops.length⟩)=λ st' tr=>(false=true->FE ops af tr=true)/\Q .normal { st' with n:=(⟨sz,t,h,n⟩:St).n+8*ops.length }:=by
  funext st' tr
  simp
 rw[<- this];exact ho
theorem Al (s:St) (hd:(ops.all λ o=>o.dst.all (· < sz))=true) (ho:BY P np n 0 ops ⟨sz,t,h,n⟩ [] λ st' _=>(⟨st'.sz,st'.t,st'.h,n+8*ops.length⟩:St)=s) (hq:Q .normal s):Ad P np (.reg false ops af) Q ⟨sz,t,h,n⟩:=by
 refine Ap hd (EY _ _ _ _ _ (λ st' _=>(⟨st'.sz,st'.t,st'.h,n+8*ops.length⟩:St)=s) _ (λ st' _ h=>?_) ho);subst h;exact hq
theorem AY {s:St} (hq:Q .normal s) (hd:(ops.all λ o=>o.dst.all (· < sz))=true:=by rfl) (ho:BY P np n 0 ops ⟨sz,t,h,n⟩ [] (λ st' _=>(⟨st'.sz,st'.t,st'.h,n+8*ops.length⟩:St)=s):=by simp;rfl):Ad P np (.reg false ops af) Q ⟨sz,t,h,n⟩:=Al s hd ho hq
theorem ET (hd:(ops.all λ o=>o.dst.all (· < sz))=true) (ho:BY P np n 0 ops ⟨sz,t,h,n⟩ [] λ st' tr=>FE ops af tr=true/\Q .normal ⟨st'.sz,st'.t,st'.h,n+8*ops.length⟩):Ad P np (.reg true ops af) Q ⟨sz,t,h,n⟩:=by
 refine⟨hd,?_⟩
 have:(λ (st':St) (tr:List (List Nat × List Nat))=>FE ops af tr=true/\Q .normal ⟨st'.sz,st'.t,st'.h,n+8*ops.length⟩)=λ st' tr=>(true=true->FE ops af tr=true)/\Q .normal { st' with n:=(⟨sz,t,h,n⟩:St).n+8*ops.length }:=by
  funext st' tr
  simp
 rw[<- this];exact ho
theorem AI {c:DB} {b:CS} (t:Bool) (hc:c.ev st.get = .sc (.bool t)) (h1:t=true->Ad P np a Q st) (h2:t=false->Ad P np b Q st):Ad P np (.cond c a b) Q st:=by
 refine⟨t,hc,?_⟩
 cases t
 .exact h2 rfl
 .exact h1 rfl
theorem G9 {s:St} {tr:List (List Nat × List Nat)} (hd:(ops.all λ o=>o.dst.all (· < sz))=true) (ho:BY P np n 0 ops ⟨sz,t,h,n⟩ [] λ st' tr'=>(⟨st'.sz,st'.t,st'.h,n+8*ops.length⟩:St)=s/\tr'=tr) (hr:FE ops af tr=true) (hq:Q .normal s):Ad P np (.reg true ops af) Q ⟨sz,t,h,n⟩:=by
 refine ET hd (EY _ _ _ _ _ (λ st' tr'=>(⟨st'.sz,st'.t,st'.h,n+8*ops.length⟩:St)=s/\tr'=tr) _ (λ st' tr' h=>?_) ho);obtain⟨rfl,rfl⟩:=h;exact⟨hr,hq⟩
theorem AN (h:Q .normal st):Ad P np .skip Q st:=h
theorem A9 (h:Q .ret st):Ad P np .ret Q st:=h
theorem Ar {id:Nat} (h:Q (.exit id) st):Ad P np (.exit id) Q st:=h
theorem hit {i:Nat} {a b:Prop} (h:a):if i=i then a else b:=by rw[if_pos rfl];exact h
theorem AT {id:Nat} (h:Ad P np a (λ e st'=>match e with | .exit id'=>if id'=id then Q .normal st' else Q (.exit id') st' | e=>Q e st') st):Ad P np (.block id a) Q st:=h
theorem G1 {b:CS} {ι:Type} (C:ι->St) (I:ι->Prop) (ha:Ad P np a (λ e st'=>match e with | .normal=>∃ j,I j/\Le np st' (C j) | e=>Q e st') st) (hb:∀ j,I j->Ad P np b Q (C j)):Ad P np (.seq a b) Q st:=by
 show Ad P np a _ st;refine D6 (λ e s hs=>?_) ha
 cases e with
 | normal=>obtain⟨j,hj,hl⟩:=hs;exact⟨C j,hl,hb j hj⟩
 | exit id=>exact hs
 | ret=>exact hs
theorem CX {b:CS} (C:St) (ha:Ad P np a (λ e st'=>match e with | .normal=>Le np st' C | e=>Q e st') st) (hb:Ad P np b Q C):Ad P np (.seq a b) Q st :=
 G1 (ι:=Unit) (λ _=>C) (λ _=>True) (D6 (λ e s h=>by cases e with | normal=>exact⟨(),trivial,h⟩ | exit i=>exact h | ret=>exact h) ha) λ _ _=>hb
theorem A8 {rs:List (Nat × Option (Bool × Nat))} (h:AW rs np st res aE):Ad Tryz.prog np .ret (λ e st=>(e = .normal∨e = .ret)/\AW rs np st res aE) st:=⟨.inr rfl,h⟩
variable {K:AV->List Nat->List (Nat × Option AD)->Prop} {P:Program} {Q:Dy->St->Prop} {af:List (List Nat)} {args aB aG cs first xs:List AV} {aD c j l np off s sz:Nat} {f:FuncId} {g:Nat->AV} {h:List (Nat × Option AD)} {k k':IntKind} {n:Int} {aH:Bool} {ops:List Bl} {res v x y:AV} {rows:List (List AV)} {t:List (Nat × AV)} {z:List Value}
section
variable {P:Program} {np id:Nat} {h:Nat->Option AD} {K:AV->List Nat->List (Nat × Option AD)->Prop}
@[simp] theorem lE:aK P np id .mv [x] h K=K x [] []:=(rfl)
@[simp] theorem yW {t:Bool} {a b:AV}:aK P np id .pick [.sc (.bool t),a,b] h K=K (if t then a else b) [] []:=by
 refine propext ⟨?_,λ hk=>⟨t,rfl,hk⟩⟩
 rintro⟨t',ht,hk⟩
 cases ht;exact hk
@[simp] theorem zA8:aK P np id (.alloc z) [] h K=K (.pt id 0 0) [] [(id,some { s:=z.length,rows:=[z.map .sc] })]:=(rfl)
@[simp] theorem zBU:aK P np id (.box s) [x] h K = ∃ cs,cellsOf x=some cs/\cs.length=s/\K (.pt id 0 0) [] [(id,some { s:=s,rows:=[cs] })]:=(rfl)
@[simp] theorem xI {z ps xs}:aK P np id (.build z ps) xs h K = ∃ cs,F4 (z.map .sc) ps xs=some cs/\K (.agg cs) [] []:=(rfl)
@[simp] theorem zBQ {s len z ps xs}:aK P np id (.bsl s len z ps) xs h K = ∃ rows,FV s (List.replicate len (z.map .sc)) ps xs=some rows/\z.length=s/\K (.rs id 0 len) [] [(id,some { s:=s,rows:=rows })]:=(rfl)
@[simp] theorem xA:aK P np id (.ld true s) [x] h K = ∃ cs,En h x=some cs/\s<=cs.length/\K (.agg (cs.take s)) (Be x) []:=(rfl)
@[simp] theorem yE:aK P np id (.ld false s) [x] h K = ∃ cs,En h x=some cs/\s<=cs.length/\K (cs.headD .dead) (Be x) []:=(rfl)
@[simp] theorem Zz {i k:Nat}:aK P np id (.st s) [.pt i k j,x] h K = ∃ e row cs,h i=some e/\e.rows[k]? = some row/\e.ro<=k/\cellsOf x=some cs/\cs.length=s/\j+s<=row.length /\
   K .dead [i] [(i,some { e with rows:=e.rows.set k (Ax row j cs) })]:=(rfl)
@[simp] theorem xL {i k:Nat}:aK P np id .nil [.pt i k j] h K=K (.pt i k j) [] []:=propext ⟨λ h=>h.2,λ h=>⟨trivial,h⟩⟩
@[simp] theorem zAR:aK P np id .nil [.pv cs] h K=K (.pv cs) [] []:=propext ⟨λ h=>h.2,λ h=>⟨trivial,h⟩⟩
@[simp] theorem yK {op:BinOp} {a b:Value}:aK P np id (.bin op) [.sc a,.sc b] h K = ∃ v,Ae op a b=some v/\K (.sc v) [] []:=(rfl)
@[simp] theorem zO {a b:Bool}:aK P np id (.beq aH) [.sc (.bool a),.sc (.bool b)] h K=K (.sc (.bool ((a == b) != aH))) [] []:=(rfl)
def Hz (o:Option Bool) (aH:Bool) (K:AV->List Nat->List (Nat × Option AD)->Prop):Prop:=∃ b,o=some b/\K (.sc (.bool (b != aH))) [] []
@[simp] theorem zBR {ks:List Nat} {ys:List AV}:aK P np id (.aeq aH ks) [.agg xs,.agg ys] h K=Hz (Cw ks xs ys) aH K:=(rfl)
@[simp] theorem xB {b:Bool}:Hz (some b) aH K=K (.sc (.bool (b != aH))) [] []:=by simp[Hz]
@[simp] theorem yY {f:Bool} {row:List AV}:aK P np id (.snil aH) [.vs s f (row::rows)] h K=K (.sc (.bool aH)) [] []:=(rfl)
@[simp] theorem wZ {a:Option Addr}:aK P np id (.snil aH) [.sc (.slice a l c)] h K=K (.sc (.bool (a.isNone != aH))) [] []:=(rfl)
@[simp] theorem xK {i len:Nat}:aK P np id (.clr s z) [.rs i off len] h K = ∃ e,h i=some e/\e.s=s/\z.length=s/\e.ro<=off/\off+len<=e.rows.length /\
   K .dead [i] [(i,some { e with rows:=e.rows.take off++List.replicate len (z.map .sc)++e.rows.drop (off+len) })]:=(rfl)
@[simp] theorem jS {op:UnOp} {a:Value}:aK P np id (.un op) [.sc a] h K = ∃ v,Hq op a=some v/\K (.sc v) [] []:=(rfl)
@[simp] theorem zCp:aK P np id (.cvt k) [.sc (.int k' n)] h K=K (.sc (.int k (k.wrap n))) [] []:=(rfl)
@[simp] theorem zT:aK P np id .b2s [x] h K = ∃ rows bs,CJ 1 h x=some rows/\Gd rows=some bs/\K (.sc (.string ⟨bs.toArray⟩)) (Be x) []:=(rfl)
@[simp] theorem zCa {t:TypeId}:aK P np id (.mki t) [x] h K=K (.ifc t x) [] []:=(rfl)
@[simp] theorem zyV {t:TypeId}:aK P np id .nil [.ifc t x] h K=K (.ifc t x) [] []:=propext ⟨λ h=>h.2,λ h=>⟨trivial,h⟩⟩
@[simp] theorem w5:aK P np id (.mkf f) xs h K=K (.fn (.func f) [] xs) [] []:=(rfl)
@[simp] theorem zB5:aK P np id (.mkb f) xs h K=K (.fn (.func f) xs []) [] []:=(rfl)
@[simp] theorem yH {s aD z k k' l c}:aK P np id (.mks s aD z) [.sc (.int k l),.sc (.int k' c)] h K=(0<=l/\l<=c/\c*aD<=140737488355328/\c<=140737488355328/\z.length=s /\
   K (.rs id 0 l.toNat) [] [(id,some { s:=s,rows:=List.replicate l.toNat (z.map .sc) })]):=(rfl)
theorem FT {lo hi mx:Bool} {bs:List AV}:aK P np id (.slc s lo hi mx) (x::bs) h K = ∃ l r m:Nat,∃ n,lenOf x=some n/\l<=r /\
        bs=(if lo then [AV.I l] else [])++(if hi then [AV.I r] else [])++(if mx then [AV.I m] else [])/\(lo=false->l=0)/\(hi=false->r=n)/\(mx=true->hi=true) /\
        match x with
        | .vs s' f rows=>r<=n/\(mx=true->m=r)/\s'=s/\K (.vs s (mx || (f && !hi)) ((rows.drop l).take (r - l))) [] []
        | .rs i off _=>r<=n/\mx=false/\(∃ e,h i=some e/\e.s=s)/\K (.rs i (off+l) (r - l)) [i] []
        | .rk i off _ c=>r<=m/\m<=c/\(mx=false->m=c)/\(∃ e,h i=some e/\e.s=s)/\K (.rk i (off+l) (r - l) (m - l)) [i] []
        | .sc (.slice none 0 0)=>r<=n/\(mx=true->m=r)/\K .nilS [] []
        | _=>False:=(rfl)
@[simp] theorem xO {i len:Nat}:aK P np id .cap [.rk i off len c] h K=K (AV.I c) [] []:=(rfl)
@[simp] theorem zBo {i len:Nat}:aK P np id (.app s aD) [.rk i off len c,y] h K = ∃ new e,CJ s h y=some new/\h i=some e/\e.s=s/\off+len<=e.rows.length/\e.ro<=off+len/\(len+new.length)*aD<=140737488355328/\len+new.length<=140737488355328 /\
   if len+new.length<=c then K (.rk i off (len+new.length) c) (i::Be y) [(i,some { e with rows:=e.rows.take (off+len)++new++e.rows.drop (off+len+new.length) })]
   else K (.rs id 0 (len+new.length)) (i::Be y) [(id,some { s:=s,rows:=(e.rows.drop off).take len++new,ro:=0 })]:=(rfl)
@[simp] theorem xZ {i len:Nat}:aK P np id (.cpy s) [.rk i off len c,y] h K = ∃ e new m,h i=some e/\e.s=s/\e.ro<=off/\off<=e.rows.length/\lenOf y=some m/\CJ s h (Dg (min m len) y)=some new /\
   K (AV.I (min m len:Nat)) (i::Be y) [(i,some { e with rows:=e.rows.take off++new++e.rows.drop (off+min m len) })]:=(rfl)
@[simp] theorem zS {i len:Nat}:aK P np id (.clr s z) [.rk i off len c] h K = ∃ e,h i=some e/\e.s=s/\z.length=s/\e.ro<=off/\off+len<=e.rows.length /\
   K .dead [i] [(i,some { e with rows:=e.rows.take off++List.replicate len (z.map .sc)++e.rows.drop (off+len) })]:=(rfl)
@[simp] theorem zBH:aK P np id .cap [.sc (.slice none 0 0)] h K=K (AV.I 0) [] []:=(rfl)
@[simp] theorem zBE:aK P np id (.apz s aD z) [.sc (.slice none 0 0),.sc (.int k n)] h K=(z.length=s/\0<n/\n.toNat*aD<=140737488355328/\n.toNat<=140737488355328 /\
   K (.rs id 0 n.toNat) [] [(id,some { s:=s,rows:=List.replicate n.toNat (z.map .sc),ro:=0 })]):=(rfl)
@[simp] theorem zBT {i len:Nat}:aK P np id (.apz s aD z) [.rk i off len c,.sc (.int k n)] h K = ∃ e,h i=some e/\e.s=s/\z.length=s/\off+len<=e.rows.length/\0<n/\c<len+n.toNat/\(len+n.toNat)*aD<=140737488355328/\len+n.toNat<=140737488355328 /\
   K (.rs id 0 (len+n.toNat)) [i] [(id,some { s:=s,rows:=(e.rows.drop off).take len++List.replicate n.toNat (z.map .sc),ro:=0 })]:=(rfl)
@[simp] theorem xG {s' i len:Nat} {f:Bool}:aK P np id (.ovl s) [.vs s' f rows,.rk i off len c] h K = ∃ e,h i=some e/\s'=s/\e.s=s/\s≠1/\e.ro<=off/\K (.sc (.bool false)) [i] []:=(rfl)
@[simp] theorem zB {n:Nat} {f:Bool}:Dg n (.vs s f rows) = .vs s false (rows.take n):=(rfl)
@[simp] theorem x9 {n id len:Nat}:Dg n (.rs id off len) = .rs id off (min n len):=(rfl)
@[simp] theorem y6 {n id len:Nat}:Dg n (.rk id off len c) = .rk id off (min n len) c:=(rfl)
@[simp] theorem wY:aK P np id (.fad off) [.pv cs] h K=(off<=cs.length/\K (.pv (cs.drop off)) [] []):=(rfl)
@[simp] theorem w9 {i k:Nat}:aK P np id (.fad off) [.pt i k j] h K=K (.pt i k (j+off)) [] []:=(rfl)
@[simp] theorem zBk:aK P np id (.fld true off s) [.agg cs] h K=(off+s<=cs.length/\K (.agg ((cs.drop off).take s)) [] []):=(rfl)
@[simp] theorem zBs:aK P np id (.fld false off s) [.agg cs] h K=(off+s<=cs.length/\K (cs.getD off .dead) [] []):=(rfl)
@[simp] theorem zBx {s':Nat} {f:Bool}:aK P np id (.iad s) [.vs s' f rows,.sc (.int k n)] h K=(s'=s/\0<=n /\ ∃ row,rows[n.toNat]? = some row/\K (.pv row) [] []):=(rfl)
@[simp] theorem xT {i len:Nat}:aK P np id (.iad s) [.rs i off len,.sc (.int k n)] h K=(0<=n/\n<len/\(∃ e,h i=some e/\e.s=s)/\K (.pt i (off+n.toNat) 0) [i] []):=(rfl)
@[simp] theorem y4 {i k:Nat} {kd:IntKind}:aK P np id (.iaa l s) [.pt i k j,.sc (.int kd n)] h K=(0<=n/\n<l/\K (.pt i k (j+n.toNat*s)) [] []):=(rfl)
@[simp] theorem zBA {kd:IntKind}:aK P np id (.iaa l s) [.pv cs,.sc (.int kd n)] h K=(0<=n/\n<l/\l*s<=cs.length/\K (.pv (cs.drop (n.toNat*s))) [] []):=(rfl)
@[simp] theorem yJ {b:ByteArray}:aK P np id .ixs [.sc (.string b),.sc (.int k n)] h K=(0<=n /\ ∃ c,b.data.toList[n.toNat]? = some c/\K (.sc (.int .u8 c.toNat)) [] []):=(rfl)
@[simp] theorem zN:aK P np id (.ixv l) [.agg cs,.sc (.int k n)] h K=(0<=n/\n<l/\l<=cs.length/\K (cs.getD n.toNat .dead) [] []):=(rfl)
@[simp] theorem zBP {i:Nat} {vs:List AV}:aK P np id (.ext i) [.tup vs] h K = ∃ v,vs[i]? = some v/\K v [] []:=(rfl)
theorem Oe (hx:¬ ∃ i o l c,x = .rk i o l c):aK P np id (.app s aD) [x,y] h K=(∃ new old,CJ s h y=some new/\DN s h new x=some old/\(old.1.length+new.length)*aD<=140737488355328 /\
   old.1.length+new.length<=140737488355328 /\
   K (.rs id 0 (old.1.length+new.length)) (Be x++Be y) ((id,some { s:=s,rows:=old.1++new,ro:=old.2.1 })::old.2.2)):=IZ hx
@[simp] theorem yF:aK P np id (.app s aD) [.nilS,y] h K = ∃ new,CJ s h y=some new/\new.length*aD<=140737488355328/\new.length<=140737488355328/\K (.rs id 0 new.length) (Be y) [(id,some { s:=s,rows:=new,ro:=0 })]:=by
 rw[Oe zz]
 refine propext ⟨?_,?_⟩
 .rintro ⟨new,old,h1,h2,h3,h4,h5⟩
  cases h2;exact⟨new,h1,by simpa using h3,by simpa using h4,by simpa [Be] using h5⟩
 .rintro ⟨new,h1,h3,h4,h5⟩
  exact⟨new,_,h1,rfl,by simpa using h3,by simpa using h4,by simpa [Be] using h5⟩
@[simp] theorem zK {i len:Nat}:aK P np id (.app s aD) [.rs i off len,y] h K = ∃ new e,CJ s h y=some new/\h i=some e/\e.s=s/\off+len<=e.rows.length/\e.ro<=off+len/\(len+new.length)*aD<=140737488355328/\len+new.length<=140737488355328 /\
  K (.rs id 0 (len+new.length)) (i::Be y) [(id,some { s:=s,rows:=(e.rows.drop off).take len++new,ro:=e.ro - off }),(i,none)]:=by
 rw[Oe zz]
 refine propext ⟨?_,?_⟩
 .rintro ⟨new,old,h1,h2,h3,h4,h5⟩
  simp only[DN,Uh] at h2;obtain⟨e,he,h2⟩:=h2;split at h2
  case isFalse=>cases h2
  rename_i hc
  cases h2;have hl:((e.rows.drop off).take len).length=len:=zw
  simp only[hl] at h3 h4 h5;exact⟨new,e,h1,he,hc.1,hc.2.1,hc.2.2,h3,h4,by simpa [Be] using h5⟩
 .rintro ⟨new,e,h1,he,c1,c2,c3,h3,h4,h5⟩
  have hl:((e.rows.drop off).take len).length=len:=zw
  refine⟨new,((e.rows.drop off).take len,e.ro - off,[(i,none)]),h1,by simp[DN,he,c1,c2,c3],by simpa only[hl] using h3,by simpa only[hl] using h4,?_⟩
  simpa [Be,hl] using h5
@[simp] theorem yU:aK P np id (.app s aD) [.vs s true rows,y] h K = ∃ new,CJ s h y=some new/\(rows=[]∨new≠[])/\(rows.length+new.length)*aD<=140737488355328/\rows.length+new.length<=140737488355328 /\
  K (.rs id 0 (rows.length+new.length)) (Be y) [(id,some { s:=s,rows:=rows++new,ro:=0 })]:=by
 rw[Oe zz]
 refine propext ⟨?_,?_⟩
 .rintro ⟨new,old,h1,h2,h3,h4,h5⟩
  simp only[DN] at h2;split at h2
  case isFalse=>cases h2
  rename_i hc
  cases h2;exact⟨new,h1,hc.2,h3,h4,by simpa [Be] using h5⟩
 .rintro ⟨new,h1,hc,h3,h4,h5⟩
  exact⟨new,(rows,0,[]),h1,by show (if s=s/\_ then _ else _)=_;rw[if_pos ⟨rfl,hc⟩],h3,h4,by simpa [Be] using h5⟩
@[simp] theorem zBm {b:ByteArray}:aK P np id .apps [x,.sc (.string b)] h K=(∃ old,DN 1 h (Dk b) x=some old/\old.1.length+b.size<=140737488355328 /\
   K (.rs id 0 (old.1.length+b.size)) (Be x) ((id,some { s:=1,rows:=old.1++Dk b,ro:=old.2.1 })::old.2.2)):=(rfl)
@[simp] theorem zB6:aK P np id .len [x] h K = ∃ n:Nat,lenOf x=some n/\K (AV.I n) [] []:=(rfl)
@[simp] theorem zBK {b:ByteArray}:aK P np id .lens [.sc (.string b)] h K=K (AV.I b.size) [] []:=(rfl)
@[simp] theorem zCn {i len:Nat}:aK P np id (.cpy s) [.rs i off len,y] h K = ∃ e new,h i=some e/\e.s=s/\e.ro<=off/\off+len<=e.rows.length/\CJ s h y=some new /\
   K (AV.I (min new.length len:Nat)) (i::Be y) [(i,some { e with rows:=e.rows.take off++new.take (min new.length len)++e.rows.drop (off+min new.length len) })]:=(rfl)
@[simp] theorem zCm:aK P np id .mkm [] h K=K (.mp id) [] [(id,some { s:=0,rows:=[] })]:=(rfl)
@[simp] theorem zBJ {z:Value} {i:Nat}:aK P np id (.mlk z false) [.mp i,.sc (.int .i64 n)] h K = ∃ e,h i=some e/\e.s=0/\K ((Ce n e.rows).getD (Bb z)) [i] []:=(rfl)
@[simp] theorem w8 {z:Value} {i:Nat}:aK P np id (.mlk z true) [.mp i,.sc (.int .i64 n)] h K = ∃ e,h i=some e/\e.s=0/\K (.tup [(Ce n e.rows).getD (Bb z),.sc (.bool (Ce n e.rows).isSome)]) [i] []:=(rfl)
@[simp] theorem yX {i:Nat}:aK P np id .mup [.mp i,.sc (.int .i64 n),x] h K = ∃ e,h i=some e/\e.s=0/\K .dead [i] [(i,some { e with rows:=A7 n x e.rows })]:=(rfl)
@[simp] theorem zCo {i:Nat}:aK P np id .mdl [.mp i,.sc (.int .i64 n)] h K = ∃ e,h i=some e/\e.s=0/\K (.tup []) [i] [(i,some { e with rows:=Bn n e.rows,ro:=0 })]:=(rfl)
@[simp] theorem zBL {z:Value} {i:Nat} {b:ByteArray}:aK P np id (.x2 (.mle z false)) [.mp i,.sc (.string b)] h K = ∃ e,h i=some e/\e.s=0/\e.rows=[]/\K (Bb z) [i] []:=(rfl)
@[simp] theorem yI {z:Value} {i:Nat} {b:ByteArray}:aK P np id (.x2 (.mle z true)) [.mp i,.sc (.string b)] h K = ∃ e,h i=some e/\e.s=0/\e.rows=[]/\K (.tup [Bb z,.sc (.bool false)]) [i] []:=(rfl)
@[simp] theorem yG {i:Nat} {b:ByteArray}:aK P np id (.x2 .mue) [.mp i,.sc (.string b),x] h K = ∃ e,h i=some e/\e.s=0/\e.rows=[]/\K .dead [i] [(i,none)]:=(rfl)
@[simp] theorem zF {b:ByteArray}:aK P np id (.x2 .s2b) [.sc (.string b)] h K=K (.rs id 0 b.size) [] [(id,some { s:=1,rows:=Dk b,ro:=0 })]:=(rfl)
@[simp] theorem zB3 {a b:Int}:aK P np id .mx2 [.sc (.int k a),.sc (.int k' b)] h K=K (.sc (.int k (if a<b then b else a))) [] []:=(rfl)
@[simp] theorem yA {a b:Int}:aK P np id .mn2 [.sc (.int k a),.sc (.int k' b)] h K=K (.sc (.int k (if b<a then b else a))) [] []:=(rfl)
end
section
variable {P:Program} {np n i:Nat} {os:List Bl} {st:St} {tr:List (List Nat × List Nat)} {K:St->List (List Nat × List Nat)->Prop}
@[simp] theorem yP:BY P np n i [] st tr K=K st tr:=(rfl)
@[simp] theorem wW {d:Option Nat} {op:ER} {xs:List DB}:BY P np n i (⟨d,op,xs,none⟩::os) st tr K=aK P np (n+8*i) op (xs.map (·.ev st.get)) st.hp λ v rd up=>BY P np n (i+1) os ((st.put d v).upd up) (tr++[(rd,up.map (·.1))]) K:=(rfl)
def Ex (P:Program) (np n i:Nat) (b:Option (Option Bool)) (want:Bool) (d:Option Nat) (op:ER) (xs:List DB) (os:List Bl) (st:St) (tr:List (List Nat × List Nat)) (K:St->List (List Nat × List Nat)->Prop):Prop :=
 ∃ c,b=some c/\if c=some want then aK P np (n+8*i) op (xs.map (·.ev st.get)) st.hp λ v rd up=>BY P np n (i+1) os ((st.put d v).upd up) (tr++[(rd,up.map (·.1))]) K else BY P np n (i+1) os (st.put d (.tup [])) (tr++[([],[])]) K
section
variable {d:Option Nat} {op:ER} {xs:List DB} {os:List Bl}
@[simp] theorem xS {g:Nat} {q:Bool}:BY P np n i (⟨d,op,xs,some (g,q)⟩::os) st tr K=Ex P np n i (GG (st.get g)) q d op xs os st tr K:=(rfl)
@[simp] theorem cU:Ex P np n i (some (some true)) true d op xs os st tr K=aK P np (n+8*i) op (xs.map (·.ev st.get)) st.hp λ v rd up=>BY P np n (i+1) os ((st.put d v).upd up) (tr++[(rd,up.map (·.1))]) K:=by simp[Ex]
@[simp] theorem uM:Ex P np n i (some (some false)) false d op xs os st tr K=aK P np (n+8*i) op (xs.map (·.ev st.get)) st.hp λ v rd up=>BY P np n (i+1) os ((st.put d v).upd up) (tr++[(rd,up.map (·.1))]) K:=by simp[Ex]
@[simp] theorem gR:Ex P np n i (some (some true)) false d op xs os st tr K=BY P np n (i+1) os (st.put d (.tup [])) (tr++[([],[])]) K:=by simp[Ex]
@[simp] theorem uH:Ex P np n i (some (some false)) true d op xs os st tr K=BY P np n (i+1) os (st.put d (.tup [])) (tr++[([],[])]) K:=by simp[Ex]
@[simp] theorem bW {q:Bool}:Ex P np n i (some none) q d op xs os st tr K=BY P np n (i+1) os (st.put d (.tup [])) (tr++[([],[])]) K:=by simp[Ex]
theorem Cs {b w:Bool} (h1:b=true->Ex P np n i (some (some true)) w d op xs os st tr K) (h2:b=false->Ex P np n i (some (some false)) w d op xs os st tr K):Ex P np n i (some (some b)) w d op xs os st tr K:=by
 cases b
 .exact h2 rfl
 .exact h1 rfl
@[simp] theorem zB7 {b:Bool}:GG (.sc (.bool b))=some (some b):=(rfl)
@[simp] theorem zCb:GG (.tup [])=some none:=(rfl)
end
@[simp] theorem yQ {n:Nat} {i:Nat}:(⟨sz,[],h,n⟩:St).get i = .dead:=(rfl)
@[simp] theorem zBD {n:Nat} {i:Nat}:(⟨sz,(j,v)::t,h,n⟩:St).get i=if j=i then v else (⟨sz,t,h,n⟩:St).get i:=by
 show (if j=i then some v else AQ t i).getD .dead=if j=i then v else (AQ t i).getD .dead
 split<;>rfl
@[simp] theorem zM {n:Nat} {i:Nat}:(⟨sz,t,[],n⟩:St).hp i=none:=(rfl)
@[simp] theorem Lj {n:Nat} {i:Nat} {v:Option AD}:(⟨sz,t,(j,v)::h,n⟩:St).hp i=if j=i then v else (⟨sz,t,h,n⟩:St).hp i:=by
 show (if j=i then some v else AQ h i).getD none=if j=i then v else (AQ h i).getD none
 split<;>rfl
@[simp] theorem zBl {n d:Nat}:(⟨sz,t,h,n⟩:St).put (some d) v=⟨sz,(d,v)::t,h,n⟩:=(rfl)
@[simp] theorem yV:st.put none v=st:=(rfl)
@[simp] theorem x8 {n:Nat}:(⟨sz,t,h,n⟩:St).upd []=⟨sz,t,h,n⟩:=(rfl)
@[simp] theorem xW {n:Nat} {us:List (Nat × Option AD)}:(⟨sz,t,h,n⟩:St).upd us=⟨sz,t,us++h,n⟩:=(rfl)
@[simp] theorem zY {i:Nat}:DB.ev g (.t i)=g i:=(rfl)
@[simp] theorem zX {n:Int}:DB.ev g (.c (.int k n)) = .sc (.int k n):=(rfl)
@[simp] theorem xN {b:Bool}:DB.ev g (.c (.bool b)) = .sc (.bool b):=(rfl)
@[simp] theorem yS:DB.ev g (.f f) = .fn (.func f) [] []:=(rfl)
end
theorem E9:∀ (xs:List AV),C7 xs xs
 | []=>trivial
 | x::xs=>⟨.refl x,E9 xs⟩
theorem pV {id:Nat} {h:Nat->Option AD} (hc:Bz P f aB [] res []) (hw:C7 ((first++args++aG).map (conv [] [] h 4)) aB) (hk:K (conv (((List.range 8).map (id + ·)).zipIdx.map λ (a,b)=>(b,a)) [] (λ _=>none) 4 res) [] []):aK P np id .call (.fn (.func f) first aG::args) h K :=
 ⟨[],[],true,aB,[],res,[],zz,zz,zz,hw,rfl,hc,zz,.inl rfl,hk⟩
theorem Dc {id:Nat} {h:Nat->Option AD} (f0:Nat) (hf:Nat.beq f f0=true) (hk:aK P np id .call (.fn (.func f0) first aG::args) h K):aK P np id .call (.fn (.func f) first aG::args) h K:=by
 have e:f=f0:=Uy hf;rw[e];exact hk
theorem A4 {id:Nat} {h:Nat->Option AD} (hc:Bz P f aB [] res []) (he:(first++args++aG).map (conv [] [] h 4)=aB) (hk:K (conv (((List.range 8).map (id + ·)).zipIdx.map λ (a,b)=>(b,a)) [] (λ _=>none) 4 res) [] []):aK P np id .call (.fn (.func f) first aG::args) h K :=
 pV hc (by rw[he];exact E9 _) hk
theorem F6 {id:Nat} {h:Nat->Option AD} (sn:List Nat) (hc:Bz P f aB [] res []) (he:(first++args++aG).map (conv [] sn h 4)=aB) (hp:Plain res) (hk:K (conv (((List.range 8).map (id + ·)).zipIdx.map λ (a,b)=>(b,a)) [] (λ _=>none) 4 res) sn []):aK P np id .call (.fn (.func f) first aG::args) h K :=
 ⟨[],sn,false,aB,[],res,[],zz,zz,zz,by rw[U8,he];exact E9 _,rfl,hc,zz,.inr ⟨hp,zz⟩,hk⟩
@[simp] theorem z1:C7 [] []=True:=(rfl)
@[simp] theorem zAk {ys:List AV}:C7 (x::xs) (y::ys)=(Wk x y/\C7 xs ys):=(rfl)
attribute [simp] Wk.nil Wk.dead Wk.full
theorem Ih {x:Int} (h1 : -9223372036854775808<=x) (h2:x<9223372036854775808):IntKind.i64.wrap x=x:=by rw[IntKind.wrap_i64];omega
theorem A0 {id:Nat} {h:Nat->Option AD} (hc:Bz P f aB [] res []) (hk:K (conv (((List.range 8).map (id + ·)).zipIdx.map λ (a,b)=>(b,a)) [] (λ _=>none) 4 res) [] []) (he:(first++args++aG).map (conv [] [] h 4)=aB:=by simp):aK P np id .call (.fn (.func f) first aG::args) h K:=A4 hc he hk
theorem wq {k:Nat} (h:k<9223372036854775807:=by omega):IntKind.i64.wrap ((k:Int)+1)=((k+1:Nat):Int):=by rw[Ih zy zy];omega
theorem w6 {x:Int} (h1 : -9223372036854775808<=x:=by omega) (h2:x<9223372036854775808:=by omega):IntKind.i64.wrap x=x:=Ih h1 h2
attribute [simp] Ae Hq Wk.refl Ax Cw
section
variable {s s' id i j off len n:Nat} {f:Bool} {rows new:List (List AV)} {cs xs ys:List AV} {h:Nat->Option AD} {ρ:List (Nat × Nat)} {sn:List Nat} {v:Value}
@[simp] theorem zz9:lenOf (.vs s f rows)=some rows.length:=(rfl)
@[simp] theorem zAc:lenOf (.rs id off len)=some len:=(rfl)
@[simp] theorem yT:lenOf (.rk id off len c)=some len:=(rfl)
@[simp] theorem xY:Be (.rk id off len c)=[id]:=(rfl)
@[simp] theorem yL:cellsOf (.rk id off len c)=some [.rk id off len c]:=(rfl)
@[simp] theorem xH:CJ s h (.rk id off len c)=(h id).bind λ e=>if e.s=s/\off+len<=e.rows.length then some ((e.rows.drop off).take len) else none:=(rfl)
@[simp] theorem zV:lenOf .nilS=some 0:=(rfl)
@[simp] theorem zxS:En h (.pv cs)=some cs:=(rfl)
@[simp] theorem zxT:En h (.pt id i j)=(h id).bind λ e=>(e.rows[i]?).map (·.drop j):=(rfl)
@[simp] theorem zZ:cellsOf (.agg cs)=some cs:=(rfl)
@[simp] theorem xQ:cellsOf (.vs s f rows)=some [.vs s f rows]:=(rfl)
@[simp] theorem zxQ:cellsOf (.rs id off len)=some [.rs id off len]:=(rfl)
@[simp] theorem zxW:cellsOf (.pt id i j)=some [.pt id i j]:=(rfl)
@[simp] theorem y9:cellsOf (.pv cs)=some [.pv cs]:=(rfl)
@[simp] theorem wX {n:Int}:cellsOf (.sc (.int k n))=some [.sc (.int k n)]:=(rfl)
@[simp] theorem zI {b:Bool}:cellsOf (.sc (.bool b))=some [.sc (.bool b)]:=(rfl)
@[simp] theorem zuK {b:ByteArray}:cellsOf (.sc (.string b))=some [.sc (.string b)]:=(rfl)
@[simp] theorem zP:cellsOf .nilS=some [.nilS]:=(rfl)
@[simp] theorem zxV {g:Fn}:cellsOf (.fn g xs ys)=some [.fn g xs ys]:=(rfl)
@[simp] theorem zE:Be (.vs s f rows)=[]:=(rfl)
@[simp] theorem zAf:Be (.rs id off len)=[id]:=(rfl)
@[simp] theorem zz8:Be (.pt id i j)=[id]:=(rfl)
@[simp] theorem zAi:Be (.pv cs)=[]:=(rfl)
@[simp] theorem zAb:Be (.sc v)=[]:=(rfl)
@[simp] theorem zC:CJ s h (.vs s f rows)=some rows:=if_pos rfl
@[simp] theorem zya:CJ s h (.rs id off len)=(h id).bind λ e=>if e.s=s/\off+len<=e.rows.length then some ((e.rows.drop off).take len) else none:=(rfl)
@[simp] theorem zxO:CJ s h .nilS=some []:=(rfl)
@[simp] theorem yR:DN s h new .nilS=some ([],0,[]):=(rfl)
@[simp] theorem zR:DN s h new (.rs id off len)=(h id).bind λ e=>if e.s=s/\off+len<=e.rows.length/\e.ro<=off+len then some ((e.rows.drop off).take len,e.ro - off,[(id,none)]) else none:=(rfl)
@[simp] theorem zJ {n:Int}:Bb (.int k n) = .sc (.int k n):=(rfl)
@[simp] theorem zyx {b:Bool}:Bb (.bool b) = .sc (.bool b):=(rfl)
@[simp] theorem zw6 {b:ByteArray}:Bb (.string b) = .sc (.string b):=(rfl)
@[simp] theorem xD {a:Option Addr}:Bb (.slice a l c) = .sc (.slice a l c):=(rfl)
@[simp] theorem y5:conv ρ sn h (n+1) (.vs s f rows) = .vs s f rows:=(rfl)
@[simp] theorem zD:conv ρ sn h (n+1) (.sc v) = .sc v:=(rfl)
@[simp] theorem zQ:conv ρ sn h (n+1) (.pv cs) = .pv cs:=(rfl)
@[simp] theorem zL {α:Type} {i:Nat}:AQ ([]:List (Nat × α)) i=none:=(rfl)
@[simp] theorem zBn {α:Type} {i j:Nat} {a:α} {l:List (Nat × α)}:AQ ((j,a)::l) i=if j=i then some a else AQ l i:=(rfl)
@[simp] theorem yC:conv ρ sn h (n+1) (.rs id off len)=(match AQ ρ id with
   | some k=>.rs k off len
   | none =>
     if id∈sn then
      match h id with
      | some e=>if off+len<=e.rows.length then .vs e.s false (((e.rows.drop off).take len).map (·.map (conv [] sn h n))) else .dead
      | none=>.dead
     else .dead):=(rfl)
@[simp] theorem y8:conv ρ sn h (n+1) (.rk id off len c)=(match AQ ρ id with
   | some k=>.rs k off len
   | none =>
     if id∈sn then
      match h id with
      | some e=>if off+len<=e.rows.length then .vs e.s false (((e.rows.drop off).take len).map (·.map (conv [] sn h n))) else .dead
      | none=>.dead
     else .dead):=(rfl)
@[simp] theorem zA9:conv ρ sn h (n+1) (.pt id i j)=(match AQ ρ id with
   | some k=>.pt k i j
   | none =>
     if id∈sn then
      match h id with
      | some e=>match e.rows[i]? with | some row=>if j<=row.length then .pv ((row.drop j).map (conv [] sn h n)) else .dead | none=>.dead
      | none=>.dead
     else .dead):=(rfl)
@[simp] theorem zAM {i:Nat}:conv ρ sn h (n+1) (.mp i)=(match AQ ρ i with
 | some k=>.mp k
 | none=>.dead):=(rfl)
@[simp] theorem zAm:conv ρ sn h (n+1) (.agg cs) = .agg (cs.map (conv ρ sn h n)):=(rfl)
@[simp] theorem yZ:conv ρ sn h (n+1) (.tup cs) = .tup (cs.map (conv ρ sn h n)):=(rfl)
end
def Jq (ops:List Bl) (af:List (List Nat)) (tr:List (List Nat × List Nat)):Prop:=FE ops af tr=true
theorem Ep {n:Nat} {b:CS} (s:St) (hd:(ops.all λ o=>o.dst.all (· < sz))=true) (ho:BY P np n 0 ops ⟨sz,t,h,n⟩ [] λ st' _=>Le np ⟨st'.sz,st'.t,st'.h,n+8*ops.length⟩ s) (hq:Ad P np b Q s):Ad P np (.seq (.reg false ops af) b) Q ⟨sz,t,h,n⟩:=by
 show Ad P np (.reg false ops af) (λ e st'=>match e with | .normal=>∃ st2,Le np st' st2/\Ad P np b Q st2 | e=>Q e st') _
 exact Ap hd (EY _ _ _ _ _ _ _ (λ st' _ h=>⟨s,h,hq⟩) ho)
theorem LH {n:Nat} {b:CS} (s:St) (hd:(ops.all λ o=>o.dst.all (· < sz))=true) (ho:BY P np n 0 ops ⟨sz,t,h,n⟩ [] λ st' tr=>Jq ops af tr/\Le np ⟨st'.sz,st'.t,st'.h,n+8*ops.length⟩ s) (hq:Ad P np b Q s):Ad P np (.seq (.reg true ops af) b) Q ⟨sz,t,h,n⟩:=by
 show Ad P np (.reg true ops af) (λ e st'=>match e with | .normal=>∃ st2,Le np st' st2/\Ad P np b Q st2 | e=>Q e st') _
 exact ET hd (EY _ _ _ _ _ _ _ (λ st' _ h=>⟨h.1,s,h.2,hq⟩) ho)
theorem arc {n:Nat} {b:CS} (s:St) (ho:BY P np n 0 ops ⟨sz,t,h,n⟩ [] λ st' _=>Le np ⟨st'.sz,st'.t,st'.h,n+8*ops.length⟩ s) (hq:Ad P np b Q s) (hd:(ops.all λ o=>o.dst.all (· < sz))=true:=by rfl):Ad P np (.seq (.reg false ops af) b) Q ⟨sz,t,h,n⟩:=Ep s hd ho hq
theorem Cd {n:Nat} {b:CS} (s:St) (ho:BY P np n 0 ops ⟨sz,t,h,n⟩ [] λ st' tr=>Jq ops af tr/\Le np ⟨st'.sz,st'.t,st'.h,n+8*ops.length⟩ s) (hq:Ad P np b Q s) (hd:(ops.all λ o=>o.dst.all (· < sz))=true:=by rfl):Ad P np (.seq (.reg true ops af) b) Q ⟨sz,t,h,n⟩:=LH s hd ho hq
theorem Le.snap {st st':St} (sn:List Nat) (q:st'.sz=st.sz) (hh:st'.h=[]) (ht:∀ p∈st'.t,Wk (conv [] sn st.hp 4 (st.get p.1)) p.2):Le 0 st st' :=
 Le.lst [] sn [] q zz zz zz zz zz (Qn _) zz (λ p hp=>.inl (ht p hp)) (by simp[hh])
theorem A5 {st st':St} (sn:List Nat) (ht:∀ p∈st'.t,Wk (conv [] sn st.hp 4 (st.get p.1)) p.2) (q:st'.sz=st.sz:=by rfl) (hh:st'.h=[]:=by rfl):Le 0 st st':=Le.snap sn q hh ht
variable {a res:AV} {e:AD} {aE:List (Option AD)} {st:St}
attribute [simp] F4 FV Ek G2 C2 Ab Nat.succ_eq_add_one
@[simp] theorem yO {g:Nat->AV} {a:Option Addr} {l c:Nat}:DB.ev g (.c (.slice a l c)) = .sc (.slice a l c):=(rfl)
@[simp] theorem zBS {g:Nat->AV} {b:ByteArray}:DB.ev g (.c (.string b)) = .sc (.string b):=(rfl)
theorem AW.out {rs:List (Nat × Option (Bool × Nat))} {vs:List AV} (ex sn:List Nat) (h1:Ek st rs=some vs) (h2:ex.Nodup) (h3:∀ i∈sn,i∉ex) (hw:Wk (conv ex.zipIdx sn st.hp 4 (C2 vs)) res) (he:ex.map (λ i=>(st.hp i).map (Ab ex.zipIdx sn st.hp 4))=aE):AW rs 0 st res aE:=by
 refine⟨vs,h1,ex,sn,by simpa using h2,zz,λ i hi=>⟨h3 i hi,Qn _⟩,?_,?_⟩
 .simpa using hw
 .simpa using he
theorem Bx {rs:List (Nat × Option (Bool × Nat))} {vs:List AV} (ex sn:List Nat) (h1:Ek st rs=some vs:=by rfl) (h2:ex.Nodup:=by simp) (h3:∀ i∈sn,i∉ex:=by simp) (hw:Wk (conv ex.zipIdx sn st.hp 4 (C2 vs)) res:=by simp) (he:ex.map (λ i=>(st.hp i).map (Ab ex.zipIdx sn st.hp 4))=aE:=by simp[AC]):Ad Tryz.prog 0 .ret (λ e st=>(e = .normal∨e = .ret)/\AW rs 0 st res aE) st:=⟨.inr rfl,AW.out ex sn h1 h2 h3 hw he⟩
theorem DF {b a' b':AV} (h1:Wk a a') (h2:Wk b b'):Wk (.tup [a,b]) (.tup [a',b']) :=
 .tup _ _ rfl λ i=>match i with | 0=>h1 | 1=>h2 | _+2=>.refl _
theorem BA {a b:Bool} (h:a=b):Wk (.B a) (.B b):=by subst h;exact .refl _
theorem NQ {b:AV} (h:a=b):Wk a b:=by subst h;exact .refl _
theorem K8 {P:Program} {f:FuncId} {s:Nat} {b:Bool} {hs:List AD} (h:∀ a c,Bz P f [.sc (.slice a 0 c)] hs res aE):Bz P f [.vs s b []] hs res aE:=by
 refine⟨(h none 0).1,(h none 0).2.1,λ T M w vs h1 h2 h3 hr=>?_⟩;have q:=hr.2 0 zz
 have hv:∃ a c,vs.getD 0 undef = .slice a 0 c:=by
  generalize vs.getD 0 undef=v at q
  cases q;exact⟨_,_,rfl⟩
 obtain⟨a,c,hv⟩:=hv;refine(h a c).2.2 T M w vs h1 h2 h3 ⟨hr.1,λ i hi=>?_⟩;have:i=0:=by simpa using hi
 subst this;rw[hv];exact .sc _ _ rfl
theorem Mg (hs:List AD):Eg (hs.map some)=CW hs:=by
 funext k
 simp only[Eg,CW,QH]
 cases hs[k]?<;>rfl
def CL (ids:List Nat) (id:Nat):List (Nat × Nat):=(ids++(List.range 8).map (id + ·)).zipIdx.map λ (a,b)=>(b,a)
@[simp] theorem mH {id:Nat}:CL [] id=[(0,id),(1,id+1),(2,id+2),(3,id+3),(4,id+4),(5,id+5),(6,id+6),(7,id+7)]:=(rfl)
@[simp] theorem eD {a id:Nat}:CL [a] id=[(0,a),(1,id),(2,id+1),(3,id+2),(4,id+3),(5,id+4),(6,id+5),(7,id+6),(8,id+7)]:=(rfl)
@[simp] theorem l4 {a b id:Nat}:CL [a,b] id=[(0,a),(1,b),(2,id),(3,id+1),(4,id+2),(5,id+3),(6,id+4),(7,id+5),(8,id+6),(9,id+7)]:=(rfl)
section
variable {P:Program} {np id:Nat} {h:Nat->Option AD} {K:AV->List Nat->List (Nat × Option AD)->Prop} {s s':Nat} {f:Bool} {rows:List (List AV)} {k l:Nat}
@[simp] theorem cG:aK P np id (.slc s false true false) [.vs s' f rows,.sc (.int .i64 (k:Int))] h K=(k<=rows.length/\s'=s/\K (.vs s false (rows.take k)) [] []):=by
 rw[FT];refine propext ⟨?_,?_⟩
 .rintro ⟨l,r,m,n,h1,h2,h4,h5,h6,h7,h3,q,h8,h9⟩
  obtain rfl:=h5 rfl;simp at h4 h1;subst h1;have:k=r:=zy
  subst this;exact⟨h3,h8,by simpa using h9⟩
 .rintro ⟨h1,h2,h3⟩
  exact⟨0,k,0,rows.length,rfl,Qn _,zz,λ _=>rfl,(λ h=>by cases h),(λ h=>by cases h),h1,(λ h=>by cases h),h2,by simpa using h3⟩
@[simp] theorem uD:aK P np id (.slc s true false false) [.vs s' f rows,.sc (.int .i64 (k:Int))] h K=(k<=rows.length/\s'=s/\K (.vs s f (rows.drop k)) [] []):=by
 rw[FT];refine propext ⟨?_,?_⟩
 .rintro ⟨l,r,m,n,h1,h2,h4,h5,h6,h7,h3,q,h8,h9⟩
  obtain rfl:=h6 rfl;simp at h4 h1;subst h1;have:k=l:=zy
  subst this;refine⟨h2,h8,?_⟩;have e:(rows.drop k).take (rows.length - k)=rows.drop k:=Qb zz
  simpa [e] using h9
 .rintro ⟨h1,h2,h3⟩
  have e:(rows.drop k).take (rows.length - k)=rows.drop k:=Qb zz
  exact⟨k,rows.length,0,rows.length,rfl,h1,zz,(λ h=>by cases h),λ _=>rfl,(λ h=>by cases h),Qk _,(λ h=>by cases h),h2,by simpa [e] using h3⟩
end
section
variable {P:Program} {np id:Nat} {h:Nat->Option AD} {K:AV->List Nat->List (Nat × Option AD)->Prop} {f:FuncId} {first aG args aB:List AV} {res:AV}
theorem Fm (hc:Bz P f aB [] res [some e]) (he:(first++args++aG).map (conv [] [] h 4)=aB) (hk:K (conv (CL [] id) [] (λ _=>none) 4 res) [] [(id,some (Ab (CL [] id) [] (λ _=>none) 4 e))]):aK P np id .call (.fn (.func f) first aG::args) h K :=
 ⟨[],[],true,aB,[],res,[some e],zz,zz,zz,by rw[U8,he];exact E9 _,rfl,hc,zz,.inl rfl,hk⟩
theorem Ct (hc:Bz P f aB [] res [some e]) (hk:K (conv (CL [] id) [] (λ _=>none) 4 res) [] [(id,some (Ab (CL [] id) [] (λ _=>none) 4 e))]) (he:(first++args++aG).map (conv [] [] h 4)=aB:=by simp):aK P np id .call (.fn (.func f) first aG::args) h K:=Fm hc he hk
theorem VX {e2:AD} (hc:Bz P f aB [] res [some e,some e2]) (he:(first++args++aG).map (conv [] [] h 4)=aB) (hk:K (conv (CL [] id) [] (λ _=>none) 4 res) [] [(id,some (Ab (CL [] id) [] (λ _=>none) 4 e)),(id+1,some (Ab (CL [] id) [] (λ _=>none) 4 e2))]):aK P np id .call (.fn (.func f) first aG::args) h K :=
 ⟨[],[],true,aB,[],res,[some e,some e2],zz,zz,zz,by rw[U8,he];exact E9 _,rfl,hc,zz,.inl rfl,hk⟩
theorem B6 {i:Nat} {e':AD} (hi:h i=some e) (q:Ab [(i,0)] [] h 4 e=e') (hc:Bz P f aB [e'] res aE) (h8:aE.length<=9) (he:(first++args++aG).map (conv [(i,0)] [] h 4)=aB) (hk:K (conv (CL [i] id) [] (λ _=>none) 4 res) [i] (aE.zipIdx.map λ (e,k)=>((i::(List.range 8).map (id + ·)).getD k 0,e.map (Ab (CL [i] id) [] (λ _=>none) 4)))):aK P np id .call (.fn (.func f) first aG::args) h K :=
 ⟨[i],[],true,aB,[e'],res,aE,zz,zz,zz,by rw[show [i].zipIdx=[(i,0)] from rfl,he];exact E9 _,by rw[show [i].zipIdx=[(i,0)] from rfl];simpa [hi] using q,hc,by simpa using h8,.inl rfl,by simpa [CL] using hk⟩
end
theorem An.rfl' {nl:List (Nat × Nat)} (h:e.ro<=e.rows.length):An nl e e:=⟨rfl,Qk _,h,.inl rfl⟩
theorem Le.var1 {st':St} (i:Nat) (sn:List Nat) {e0:AD} (q:st'.sz=st.sz) (hh:st'.h=[(i,some e)]) (hi:i<st'.n) (hs:∀ j∈sn,j≠i) (h0:st.hp i=some e0) (he:Ab [(i,i)] sn st.hp 4 e0=e) (hr:e.ro<=e.rows.length) (ht:∀ p∈st'.t,Wk (conv [(i,i)] sn st.hp 4 (st.get p.1)) p.2):Le 0 st st' :=
 Le.lst [(i,i)] sn [] q zz zz (by simp[hi]) zz (λ j hj=>⟨Qn _,by simpa using hs j hj⟩) (Qn _) zz (λ p hp=>.inl (ht p hp)) (λ p hp e' u=>by
  rw[hh] at hp;simp at hp;subst hp
  cases u
  exact .inl ⟨(i,i),zz,rfl,e0,h0,by rw[he];exact An.rfl' hr⟩)
theorem Le.ren1 {st':St} (i j:Nat) (sn:List Nat) {e0:AD} (q:st'.sz=st.sz) (hh:st'.h=[(j,some e)]) (hi:j<st'.n) (hs:∀ j∈sn,j≠i) (h0:st.hp i=some e0) (he:Ab [(i,j)] sn st.hp 4 e0=e) (hr:e.ro<=e.rows.length) (ht:∀ p∈st'.t,Wk (conv [(i,j)] sn st.hp 4 (st.get p.1)) p.2):Le 0 st st' :=
 Le.lst [(i,j)] sn [] q zz zz (by simp[hi]) zz (λ j hj=>⟨Qn _,by simpa using hs j hj⟩) (Qn _) zz (λ p hp=>.inl (ht p hp)) (λ p hp e' u=>by
  rw[hh] at hp;simp at hp;subst hp
  cases u
  exact .inl ⟨(i,j),zz,rfl,e0,h0,by rw[he];exact An.rfl' hr⟩)
theorem GA {b c a' b' c':AV} (h1:Wk a a') (h2:Wk b b') (h3:Wk c c'):Wk (.agg [a,b,c]) (.agg [a',b',c']) :=
 .agg _ _ rfl λ i=>match i with | 0=>h1 | 1=>h2 | 2=>h3 | _+3=>.refl _
end Go.Proofs.YtnaemfpgdmfmcaaGreatDoor
