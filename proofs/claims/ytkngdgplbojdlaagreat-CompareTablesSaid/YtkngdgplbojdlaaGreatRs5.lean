/- Texts of this claim,merged. -/
import Derived.Test.YtkngdgplbojdlaaGreatRs4
import Derived.Test.YtkngdgplbojdlaaGreatRs2
import Derived.Test.YtkngdgplbojdlaaGreatRs3
set_option linter.unusedSimpArgs false
set_option linter.unusedVariables false
set_option linter.unusedSectionVars false
set_option maxRecDepth 100000
set_option maxHeartbeats 8000000
noncomputable section
namespace Go.Proofs.YtkngdgplbojdlaaGreat
open Go
variable {g:Gr}
def BD (g:Gr):Nat:=(2+2*g.size).toNat
theorem MU (hg:AI g):((BD g:Nat):Int)=2+2*g.size:=by unfold BD;have:=hg.1.1;omega
abbrev Ar (g:Gr) (p:Al) (ks:List Int):List Ed:=D3 g p (A1 g p) ks
def BZ (g:Gr) (p:Al) (ks:List Int):Prop:=CC (BD g) (Ar g p ks)=ks.length
theorem Kk {p:Al} {ks:List Int} (hg:AI g) (hp:BT g.size p) (hk:∀ x∈ks,0<=x/\x<g.size):EK (BD g) (Ar g p ks):=gA hg hp hk
theorem NH {p:Al} {ks:List Int} (hg:AI g) (hp:BT g.size p) (hk:∀ x∈ks,0<=x/\x<g.size) (hs:p.seeds.length<=64) (h5:ks.length<=64):Cu ⟨BD g,Ar g p ks⟩:=by
 have h1:=Kk hg hp hk;have h2:(Ar g p ks).length<=1000:=lR g p ks hg hs h5;have h3:=hg.1.2.1;have hN:=MU hg;have h0:=hg.1.1
 have h4:∀ i:Nat,(A1 g p).getD i 0<=1000:=λ i=>by
  rw[Qe]
  cases h:(A1 g p)[i]? with
  | none=>simp
  | some v =>
    have hm:=Uj h;unfold A1 at hm;obtain⟨d,_,rfl⟩:=Qi.1 hm;exact(ON hp d).2
 refine⟨by simp only;omega,by simp only;omega,by simp only;omega,λ a ha=>?_⟩
 obtain⟨q1,q2,q3,q4,q5,q6,q7,q8⟩:=h1.arc a ha;refine⟨q1,by simp only;omega,q3,by simp only;omega,q5,q6,q7,q8,?_⟩
 simp only[Ar,D3] at ha;rcases Qq.1 ha with ha | ha
 .rcases Qq.1 ha with ha | ha
  .rcases Qq.1 ha with ha | ha
   .obtain ⟨x,hx,rfl⟩:=Qi.1 ha
    have:=h4 x.toNat;simp only;omega
   .obtain ⟨i,hx,rfl⟩:=Qi.1 ha
    have:=h4 i;simp only;omega
  .obtain ⟨x,hx,rfl⟩:=Qi.1 ha
   simp
 .obtain ⟨e,hx,rfl⟩:=Qi.1 ha
  simp
variable {k:Int} {o:List Int}
theorem NF:∀ {a b:List Int},a.Pairwise (· < ·)->b.Pairwise (· < ·)->(∀ x,x∈a↔x∈b)->a=b
 | [],[],_,_,_=>rfl
 | [],y::b,_,_,h=>by have:=(h y).2 (by simp);cases this
 | x::a,[],_,_,h=>by have:=(h x).1 (by simp);cases this
 | x::a,y::b,ha,hb,h=>by
   have h0:=Uw.1 ha;have h3:=Uw.1 hb
   have h4:x=y:=by
    have h1:=(h x).1 (by simp)
    have h2:=(h y).2 (by simp)
    rcases Qs.1 h1 with e | e
    .exact e
    .rcases Qs.1 h2 with e2 | e2
     .exact e2.symm
     .have:=h3.1 x e
      have:=h0.1 y e2;omega
   subst h4
   congr 1
   refine NF h0.2 h3.2 λ z=>⟨λ hz=>?_,λ hz=>?_⟩
   .rcases Qs.1 ((h z).1 (Ql _ hz)) with rfl | e
    .have:=h0.1 z hz;omega
    .exact e
   .rcases Qs.1 ((h z).2 (Ql _ hz)) with rfl | e
    .have:=h3.1 z hz;omega
    .exact e
theorem iF {a:List Int} (h0:0<=k) (h1:k<64):CD (Az a) k=Az (a++[k]):=by
 refine NF (J8 (KL a)) (KL _) λ x=>?_;rw[MI,JD,JD,Qq,QC];constructor
 .rintro (h | rfl)
  .exact ⟨.inl h.1,h.2⟩
  .exact ⟨.inr rfl,h0,h1⟩
 .rintro ⟨h | h,h2⟩
  .exact .inl ⟨h,h2⟩
  .exact .inr h
open Classical in
def AR (g:Gr) (p:Al) (o:List Int):List Int:=o.foldl (λ acc k=>if BZ g p (Az (acc++[k])) then acc++[k] else acc) []
variable {g:Gr} {p:Al}
theorem Lr:AR g p []=[]:=rfl
open Classical in
theorem Fo {o:List Int} {k:Int} (h:BZ g p (Az (AR g p o++[k]))):AR g p (o++[k])=AR g p o++[k]:=by
 have h2:AR g p (o++[k])=if BZ g p (Az (AR g p o++[k])) then AR g p o++[k] else AR g p o:=by unfold AR;rw[Ve];rfl
 rw[h2,if_pos h]
open Classical in
theorem JZ {o:List Int} {k:Int} (h:¬ BZ g p (Az (AR g p o++[k]))):AR g p (o++[k])=AR g p o:=by
 have h2:AR g p (o++[k])=if BZ g p (Az (AR g p o++[k])) then AR g p o++[k] else AR g p o:=by unfold AR;rw[Ve];rfl
 rw[h2,if_neg h]
theorem RS (o:List Int) (k:Int):AR g p (o++[k])=AR g p o∨AR g p (o++[k])=AR g p o++[k]:=by
 by_cases h:BZ g p (Az (AR g p o++[k]))
 .exact .inr (Fo h)
 .exact .inl (JZ h)
theorem IC:∀ (n:Nat) (o:List Int),o.length=n->(AR g p o).Sublist o
 | 0,o,h=>by
   obtain rfl:=QL h;exact List.nil_sublist _
 | n+1,o,h=>by
   have h0:o≠[]:=λ e=>by rw[e] at h;cases h
   rw[<- List.dropLast_concat_getLast h0];have ih:=IC n o.dropLast (by rw[List.length_dropLast,h];rfl)
   rcases RS (g:=g) (p:=p) o.dropLast (o.getLast h0) with e | e
   .rw [e];exact ih.trans (List.sublist_append_left _ _)
   .rw [e];exact ih.append (List.Sublist.refl _)
theorem Im {x:Int} (h:x∈AR g p o):x∈o:=(IC _ o rfl).subset h
theorem Ob (o:List Int):(AR g p o).length<=o.length:=(IC _ o rfl).length_le
open Classical in
def Eu (N:Nat) (A:List Ed):List Int:=((List.range N).map λ k:Nat=>(k:Int)).filter λ k=>decide (∀ S:Int->Bool,S 0=true->S 1=false->BQ S A=CC N A->S k=true)
theorem P4 {N:Nat} {A:List Ed} {f D:List Int} {by_:Int->Ba} (hn:EK N A) (hf:BN N A f) (hm:∀ f',BN N A f'->AZ A f'<=AZ A f) (ht:LG A f D by_) (h0:(0:Int)∈D) (h1:(1:Int)∉D) (hc:Hv A f D) :
  ((List.range N).map λ k:Nat=>(k:Int)).filter (λ k=>decide (k∈D))=Eu N A:=by
 unfold Eu;refine List.filter_congr λ k _=>?_;rw[decide_eq_decide];have h2:=Hu hf hm;constructor
 .intro hk S s0 s1 hS
  exact XY hn hf ht s0 s1 (hS.trans h2) k hk
 .intro h
  have:=h (λ x=>decide (x∈D)) (by simpa using h0) (by simpa using h1) (by rw[h2];exact(Ji hn hf h0 h1 hc).1.symm)
  simpa using this
open Classical in
def Eo (g:Gr) (p:Al) (o:List Int):List Int × List (Int × List Int) :=
 o.foldl (λ s k=>if BZ g p (Az (s.1++[k])) then (s.1++[k],s.2) else (s.1,s.2++[(k,Eu (BD g) (Ar g p (Az (s.1++[k]))))])) ([],[])
def B9 (g:Gr) (p:Al) (o:List Int):List (Int × List Int):=(Eo g p o).2
open Classical in
theorem Pa (o:List Int) (k:Int):Eo g p (o++[k])=if BZ g p (Az ((Eo g p o).1++[k])) then ((Eo g p o).1++[k],(Eo g p o).2) else ((Eo g p o).1,(Eo g p o).2++[(k,Eu (BD g) (Ar g p (Az ((Eo g p o).1++[k]))))]):=by
 unfold Eo;rw[Ve];rfl
theorem Pz:∀ (n:Nat) (o:List Int),o.length=n->(Eo g p o).1=AR g p o
 | 0,o,h=>by
   obtain rfl:=QL h;rfl
 | n+1,o,h=>by
   have h0:o≠[]:=λ e=>by rw[e] at h;cases h
   rw[<- List.dropLast_concat_getLast h0];have ih:=Pz n o.dropLast (by rw[List.length_dropLast,h];rfl)
   rw[Pa,ih];split
   .rename_i h1
    rw[Fo h1]
   .rename_i h1
    rw[JZ h1]
theorem Jw (h:BZ g p (Az (AR g p o++[k]))):B9 g p (o++[k])=B9 g p o:=by
 unfold B9;rw[Pa,Pz _ o rfl,if_pos h]
theorem Mn (h:¬ BZ g p (Az (AR g p o++[k]))):B9 g p (o++[k])=B9 g p o++[(k,Eu (BD g) (Ar g p (Az (AR g p o++[k]))))]:=by
 unfold B9;rw[Pa,Pz _ o rfl,if_neg h]
structure XZ (g:Gr) (p:Al) (acc:List Int) (k:Int) (side:List Int):Prop where
 no:¬ BZ g p (Az (acc++[k]))
 ok:Kz ⟨BD g,Ar g p (Az (acc++[k]))⟩ side
 cut:Ex (Ar g p (Az (acc++[k]))) side=CC (BD g) (Ar g p (Az (acc++[k])))
 len:side.length<=130
 eq:side=Eu (BD g) (Ar g p (Az (acc++[k])))
structure F1 (g:Gr) (p:Al) (o:List Int) (R:List (Int × List Int)):Prop where
 all:∀ i (h:i<o.length),o[i]∉AR g p (o.take (i+1)) -> ∃ side,(o[i],side)∈R
 right:∀ r∈R,∃ i,∃ h:i<o.length,o[i]=r.1/\XZ g p (AR g p (o.take i)) r.1 r.2
 len:R.length<=o.length
 eq:R=B9 g p o
theorem F1.nil:F1 g p [] []:=⟨λ i h=>absurd h (U5 _),(λ r h=>nomatch h),Qk _,rfl⟩
theorem F1.yes {R:List (Int × List Int)} (hr:F1 g p o R) (h:BZ g p (Az (AR g p o++[k]))):F1 g p (o++[k]) R:=by
 refine⟨λ i hi hn=>?_,λ r h3=>?_,QH hr.len (by simp),by rw[Jw h];exact hr.eq⟩
 .rw [Qg,Q3] at hi
  by_cases h0:i<o.length
  .rw [Uz h0] at hn ⊢
   rw[Ut (by omega)] at hn
   exact hr.all i h0 hn
  .obtain rfl:i=o.length:=by omega
   refine absurd ?_ hn;rw[Qb (by simp),Fo h]
   simp
 .obtain ⟨i,hi,h1,h2⟩:=hr.right r h3
  refine⟨i,by simp;omega,by rw[Uz hi];exact h1,?_⟩
  rw[Ut (by omega)]
  exact h2
theorem F1.no {R:List (Int × List Int)} {side:List Int} (hr:F1 g p o R) (h:XZ g p (AR g p o) k side):F1 g p (o++[k]) (R++[(k,side)]):=by
 refine⟨λ i hi hn=>?_,λ r h4=>?_,by have:=hr.len;simp;omega,by rw[Mn h.no,<- hr.eq,<- h.eq]⟩
 .rw [Qg,Q3] at hi
  by_cases h0:i<o.length
  .rw [Uz h0] at hn ⊢
   rw[Ut (by omega)] at hn
   obtain⟨s,hs⟩:=hr.all i h0 hn;exact⟨s,Q0 _ hs⟩
  .obtain rfl:i=o.length:=by omega
   exact⟨side,by simp⟩
 .rcases Qq.1 h4 with h3 | h3
  .obtain ⟨i,hi,h1,h2⟩:=hr.right r h3
   refine⟨i,by simp;omega,by rw[Uz hi];exact h1,?_⟩
   rw[Ut (by omega)]
   exact h2
  .rw [QC] at h3
   subst h3;refine⟨o.length,by simp,by simp,?_⟩
   rw[Ut (Qk _),QO];exact h
variable {rows:List (List AV)} {φ:Int->Option AV}
def Dm (l:List (Int × AV)):List (List AV):=l.map λ p=>[.sc (.int .i64 p.1),p.2]
theorem M6 (n:Int):∀ l:List (Int × AV),DW n (Dm l)=(l.find? (λ p=>p.1=n)).map (·.2)
 | []=>rfl
 | (k,x)::l=>by
   have ih:=M6 n l;simp only[Dm] at ih;simp only[Dm,Qo,DW,List.find?_cons]
   by_cases h:n=k
   .simp [h]
   .have h':¬ k=n:=λ e=>h e.symm
    simp[h,h',ih]
def Du (rows:List (List AV)) (φ:Int->Option AV):Prop:=∃ l:List (Int × AV),rows=Dm l/\(l.map (·.1)).Nodup /\ ∀ n,DW n rows=φ n
theorem Du.find (h:Du rows φ) (n:Int):DW n rows=φ n:=by
 obtain⟨_,_,_,h⟩:=h;exact h n
theorem Du.nil:Du [] λ _=>none:=⟨[],rfl,by simp,λ _=>rfl⟩
theorem znC (n:Int) (y:AV):∀ l:List (Int × AV),∃ l',Bc n y (Dm l)=Dm l'/\(∀ k,k∈l'.map (·.1)↔k=n∨k∈l.map (·.1))/\((l.map (·.1)).Nodup->(l'.map (·.1)).Nodup) /\ ∀ k,DW k (Dm l')=if k=n then some y else DW k (Dm l)
 | []=>⟨[(n,y)],rfl,by simp,by simp,λ k=>by simp[Dm,DW]⟩
 | (i,x)::l=>by
   by_cases h:n=i
   .subst h
    refine⟨(n,y)::l,by simp[Dm,Bc],by simp,by simp,λ k=>?_⟩
    simp only[Dm,Qo,DW];split<;>rfl
   .obtain ⟨l',h1,h2,h3,h4⟩:=znC n y l
    refine⟨(i,x)::l',?_,λ k=>?_,λ hn=>?_,λ k=>?_⟩
    .simp only[Dm] at h1
     simp[Dm,Bc,h,h1]
    .simp only[Qo,Qs,h2]
     constructor
     .rintro (h | h | h)<;>simp[h]
     .rintro (h | h | h)<;>simp[h]
    .rw [Qo,Q7] at hn ⊢
     exact⟨λ hm=>((h2 i).1 hm).elim (λ e=>h e.symm) hn.1,h3 hn.2⟩
    .have h4:=h4 k
     simp only[Dm] at h4;simp only[Dm,Qo,DW,h4]
     by_cases hk:k=i
     .subst hk
      simp[show ¬ k=n from λ e=>h e.symm]
     .simp [hk]
theorem Du.set (h:Du rows φ) (n:Int) (y:AV):Du (Bc n y rows) λ k=>if k=n then some y else φ k:=by
 obtain⟨l,rfl,hn,hf⟩:=h;obtain⟨l',h1,_,h3,h4⟩:=znC n y l;exact⟨l',h1,h3 hn,λ k=>by rw[h1,h4,hf]⟩
theorem znO (n:Int):∀ l:List (Int × AV),(l.map (·.1)).Nodup -> ∃ l',Cm n (Dm l)=Dm l'/\(∀ k,k∈l'.map (·.1)->k∈l.map (·.1))/\(l'.map (·.1)).Nodup /\ ∀ k,DW k (Dm l')=if k=n then none else DW k (Dm l)
 | [],_=>⟨[],rfl,by simp,by simp,λ k=>by simp[Dm,DW]⟩
 | (i,x)::l,hn=>by
   rw[Qo,Q7] at hn
   by_cases h:n=i
   .subst h
    refine⟨l,by simp[Dm,Cm],λ k hk=>by simp only[Qo,Qs];exact .inr hk,hn.2,λ k=>?_⟩
    simp only[Dm,Qo,DW]
    by_cases hk:k=n
    .subst hk
     rw[if_pos rfl,show List.map (λ p:Int × AV=>[AV.sc (.int .i64 p.1),p.2]) l=Dm l from rfl,M6]
     rw[List.find?_eq_none.2]
     .rfl
     .intro p hp
      simp only[Qd];exact λ e=>hn.1 (Qi.2 ⟨p,hp,e⟩)
    .simp [hk]
   .obtain ⟨l',h1,h2,h3,h4⟩:=znO n l hn.2
    refine⟨(i,x)::l',?_,λ k=>?_,?_,λ k=>?_⟩
    .simp only[Dm] at h1
     simp[Dm,Cm,h,h1]
    .simp only[Qo,Qs]
     rintro(e | e)
     .exact .inl e
     .exact .inr (h2 k e)
    .rw [Qo,Q7]
     exact⟨λ hm=>hn.1 (h2 i hm),h3⟩
    .have h4:=h4 k
     simp only[Dm] at h4;simp only[Dm,Qo,DW,h4]
     by_cases hk:k=i
     .subst hk
      simp[show ¬ k=n from λ e=>h e.symm]
     .simp [hk]
theorem Du.del (h:Du rows φ) (n:Int):Du (Cm n rows) λ k=>if k=n then none else φ k:=by
 obtain⟨l,rfl,hn,hf⟩:=h;obtain⟨l',h1,_,h3,h4⟩:=znO n l hn;exact⟨l',h1,h3,λ k=>by rw[h1,h4,hf]⟩
variable {a:List Int} {k x:Int} {l:List Ed} {salt:ByteArray}
def DT (a:List Int) (x:Int):List Int:=if a.getLast? = some x then a else a++[x]
def Bt (z:List Int):List Int:=z.foldl DT []
theorem Me (z:List Int) (i:Nat) (h:i<z.length):Bt (z.take (i+1))=DT (Bt (z.take i)) z[i]:=by
 unfold Bt;rw[Qm h,Ve];rfl
theorem WS (a:List Int) (x:Int):(DT a x).length<=a.length+1:=by
 unfold DT;split<;>simp
theorem ZV (a:List Int) (x:Int):(DT a x).getLast? = some x:=by
 unfold DT;split
 .assumption
 .simp
theorem jU (z:List Int) (i:Nat) (h:i<z.length):(Bt (z.take (i+1))).getLast? = some z[i]:=by
 rw[Me z i h];exact ZV _ _
theorem dG (z:List Int):(Bt z).length<=z.length:=by
 have key:∀ i,i<=z.length->(Bt (z.take i)).length<=i:=by
  intro i
  induction i with
  | zero=>intro _;simp[Bt]
  | succ i ih =>
    intro h;rw[Me z i (by omega)]
    have:=WS (Bt (z.take i)) z[i];have:=ih (by omega)
    omega
 have:=key z.length (Qk _)
 rwa [QO] at this
theorem Wp {y:Int}:y∈DT a x↔y∈a∨y=x:=by
 unfold DT;split
 .rename_i h
  constructor
  .exact .inl
  .rintro (h1 | rfl)
   .exact h1
   .exact List.mem_of_getLast? h
 .simp
theorem wC (z:List Int) (y:Int):y∈Bt z↔y∈z:=by
 have key:∀ (z a:List Int),y∈z.foldl DT a↔y∈a∨y∈z:=by
  intro z
  induction z with
  | nil=>simp
  | cons x z ih =>
    intro a;rw[List.foldl_cons,ih,Wp,Qs];constructor
    .rintro ((h | h) | h)<;>simp[h]
    .rintro (h | h | h)<;>simp[h]
 have:=key z []
 simpa [Bt] using this
theorem qY (ha:a.Pairwise (· < ·)) (hx:∀ y∈a,y<=x):(DT a x).Pairwise (· < ·):=by
 unfold DT;split
 .exact ha
 .rename_i h
  rw[Vn];refine⟨ha,by simp,λ y hy z hz=>?_⟩
  rw[QC] at hz;subst hz;rcases List.eq_nil_or_concat a with rfl | ⟨b,l,rfl⟩
  .simp at hy
  .simp at h
   have h1:=hx y hy;have h2:=hx l (by simp)
   simp at hy;rcases hy with hy | rfl
   .simp only[UD,Vn] at ha
    have:=ha.2.2 y hy l (by simp)
    omega
   .omega
theorem Ym {z:List Int} (hz:z.Pairwise (· <= ·)):(Bt z).Pairwise (· < ·):=by
 have key:∀ (z a:List Int),z.Pairwise (· <= ·)->a.Pairwise (· < ·)->(∀ y∈a,∀ x∈z,y<=x)->(z.foldl DT a).Pairwise (· < ·):=by
  intro z
  induction z with
  | nil=>intro a _ ha _;exact ha
  | cons x z ih =>
    intro a hz ha h;rw[Uw] at hz;refine ih _ hz.2 (qY ha λ y hy=>h y hy x Qn) λ y hy w hw=>?_;rcases Wp.1 hy with hy | rfl
    .exact h y hy w (Ql _ hw)
    .exact hz.1 w hw
 exact key z [] hz .nil (by simp)
def Gz (k:Int) (a:List Int) (e:Ed):List Int:=if e.t=k then CD (if e.f=k then CD a e.t else a) e.f else if e.f=k then CD a e.t else a
def Bb (l:List Ed) (k:Int):List Int:=l.foldl (Gz k) []
theorem WJ (l:List Ed) (k:Int) (i:Nat) (h:i<l.length):Bb (l.take (i+1)) k=Gz k (Bb (l.take i) k) l[i]:=by
 unfold Bb;rw[Qm h,Ve];rfl
theorem qZ {e:Ed} (h:a.Pairwise (· < ·)):(Gz k a e).Pairwise (· < ·):=by
 unfold Gz;split<;>split
 .exact J8 (J8 h)
 .exact J8 h
 .exact J8 h
 .exact h
theorem zv6 (l:List Ed) (k:Int):(Bb l k).Pairwise (· < ·):=by
 have key:∀ (l:List Ed) (a:List Int),a.Pairwise (· < ·)->(l.foldl (Gz k) a).Pairwise (· < ·):=by
  intro l
  induction l with
  | nil=>intro a h;exact h
  | cons e l ih=>intro a h;exact ih _ (qZ h)
 exact key l [] .nil
theorem M7:x∈Bb l k ↔ ∃ e∈l,(e.f=k/\e.t=x)∨(e.t=k/\e.f=x):=by
 have key:∀ (l:List Ed) (a:List Int),x∈l.foldl (Gz k) a↔x∈a ∨ ∃ e∈l,(e.f=k/\e.t=x)∨(e.t=k/\e.f=x):=by
  intro l
  induction l with
  | nil=>intro a;simp
  | cons e l ih =>
    intro a;rw[List.foldl_cons,ih]
    have h1:x∈Gz k a e↔x∈a∨(e.f=k/\e.t=x)∨(e.t=k/\e.f=x):=by
     unfold Gz
     by_cases h1:e.t=k<;>by_cases h2:e.f=k<;>simp[h1,h2,MI]
     .rw [eq_comm (a:=k)]
     .rw [eq_comm (a:=e.f)]
     .rw [eq_comm (a:=e.t)]
    rw[h1];simp only[Qs,exists_eq_or_imp,or_assoc]
 simpa [Bb] using key l []
theorem Xb (h:x∈Bb l k):k∈Bb l x:=by
 obtain⟨e,he,h⟩:=M7.1 h;exact M7.2 ⟨e,he,h.elim (λ h=>.inr ⟨h.2,h.1⟩) λ h=>.inl ⟨h.2,h.1⟩⟩
theorem iH:x∈A7 l k ↔ ∃ e∈l,e.f=k/\e.t=x:=by simp[A7]
theorem dX:x∈CK l k ↔ ∃ e∈l,e.t=k/\e.f=x:=by simp[CK]
theorem iI (l:List Ed) (k:Int):Bt (Ew (Ew (A7 l k)++Ew (CK l k)))=Bb l k:=by
 refine NF (Ym (Kr _)) (zv6 l k) λ x=>?_;rw[wC,(GB _).mem_iff,Qq,(GB _).mem_iff,(GB _).mem_iff,M7,iH,dX];constructor
 .rintro (⟨e,he,h⟩ | ⟨e,he,h⟩)
  .exact ⟨e,he,.inl h⟩
  .exact ⟨e,he,.inr h⟩
 .rintro ⟨e,he,h | h⟩
  .exact .inl ⟨e,he,h⟩
  .exact .inr ⟨e,he,h⟩
theorem lC (l:List Ed) (k:Int):(A7 l k).length<=l.length:=List.length_filterMap_le _ _
theorem oO (l:List Ed) (k:Int):(CK l k).length<=l.length:=List.length_filterMap_le _ _
structure BE where
 k:Int
 d:ByteArray
def KN (a b:ByteArray):Bool:=Op.bytesLess a.toList b.toList
def Gt (a b:ByteArray):Int:=if KN a b then -1 else if a.toList == b.toList then 0 else 1
def Cf (a b:BE):Int:=Gt a.d b.d
theorem u5 (a b:BE):Cf a b<0↔KN a.d b.d=true:=by
 unfold Cf Gt;split
 .simp [*]
 .split<;>simp[*]
def IQ (salt:ByteArray) (k x:Int):ByteArray:=Fm (DV salt++A4 k++A4 x)
def C5 (l:List Ed) (salt:ByteArray) (k:Int):List BE:=(Bb l k).map λ x=>⟨x,IQ salt k x⟩
def FB (c:BE->BE->Int):List BE->BE->List BE
 | [],x=>[x]
 | y::r,x=>if c x y<0 then y::FB c r x else x::y::r
def Fw (c:BE->BE->Int) (M:List BE):List BE:=M.foldl (FB c) []
def F9 (c:BE->BE->Int) (M:List BE):List BE:=(Fw c M).reverse
theorem Wy (c:BE->BE->Int):∀ (r:List BE) (x:BE),(FB c r x).Perm (x::r)
 | [],x=>.refl _
 | y::r,x=>by
   unfold FB;split
   .exact ((Wy c r x).cons y).trans (.swap _ _ _)
   .exact .refl _
theorem TD (c:BE->BE->Int) (M:List BE) (k:Nat) (h:k<M.length):Fw c (M.take (k+1))=FB c (Fw c (M.take k)) M[k]:=by
 unfold Fw;rw[<- UN h,UD,Ve];rfl
theorem OO (c:BE->BE->Int) (M:List BE):(Fw c M).Perm M:=by
 have key:∀ (M acc:List BE),(M.foldl (FB c) acc).Perm (M++acc):=by
  intro M
  induction M with
  | nil=>intro acc;exact .refl _
  | cons x M ih =>
    intro acc;refine(ih _).trans ?_;refine((Wy c acc x).append_left M).trans ?_;simp only[QR];exact List.perm_middle
 simpa [Fw] using key M []
theorem zfK (c:BE->BE->Int) (M:List BE):(Fw c M).length=M.length:=(OO c M).length_eq
theorem wH (c:BE->BE->Int) (M:List BE):(F9 c M).length=M.length:=by rw[F9,List.length_reverse,zfK]
theorem Yq (c:BE->BE->Int) (x:BE):Fw c [x]=[x]:=rfl
def A0 (l:List Ed) (salt:ByteArray) (k:Int):List Int:=(F9 Cf (C5 l salt k)).map (·.k)
theorem Pm (l:List Ed) (salt:ByteArray) (k:Int):(A0 l salt k).Perm (Bb l k):=by
 unfold A0 F9;refine((List.reverse_perm _).trans (OO _ _)).map _ |>.trans ?_;rw[C5,List.map_map];exact .of_eq (List.map_id _)
theorem zpu:x∈A0 l salt k↔x∈Bb l k:=(Pm l salt k).mem_iff
def EQ (t:List Int) (x:Int):Int:=t.getD ((t.idxOf x+1) % t.length) 0
def Dg (T:Int->List Int) (k x:Int):Nat->Int × Int
 | 0=>(k,x)
 | i+1=>((Dg T k x i).2,EQ (T (Dg T k x i).2) (Dg T k x i).1)
def Dj (T:Int->List Int) (k x:Int) (n:Nat):List Int:=k::(List.range n).map λ i=>(Dg T k x i).2
theorem LZ (T:Int->List Int) (k x:Int) (n:Nat):(Dj T k x n).length=n+1:=by simp[Dj]
theorem Rj (T:Int->List Int) (k x:Int):Dj T k x 1=[k,x]:=rfl
theorem ztj (T:Int->List Int) (k x:Int) (n:Nat):Dj T k x (n+1)=Dj T k x n++[(Dg T k x n).2]:=by simp[Dj,Uk]
theorem jS (T:Int->List Int) (k x:Int) (i:Nat):(Dg T k x (i+1)).1=(Dg T k x i).2:=rfl
theorem vE {t:List Int} (h:t≠[]):EQ t x∈t:=by
 unfold EQ;have hl:0<t.length:=Uy.2 h;rw[Qe,Qc (Uf _ hl)];exact Qj _
theorem vO (h:x∈Bb l k) (i:Nat):(Dg (A0 l salt) k x i).2∈Bb l (Dg (A0 l salt) k x i).1:=by
 induction i with
 | zero=>exact h
 | succ i ih =>
   have h1:=Xb ih
   have h2:A0 l salt (Dg (A0 l salt) k x i).2≠[]:=λ e=>by
    have:=zpu (salt:=salt).2 h1;rw[e] at this;simp at this
   exact zpu.1 (vE h2)
theorem Tg (h:x∈Bb l k) (i:Nat):(Dg (A0 l salt) k x i).1∈A0 l salt (Dg (A0 l salt) k x i).2 :=
 zpu.2 (Xb (vO h i))
theorem XF (T:Int->List Int) (k x:Int) (n:Nat):(Dj T k x (n+1))[n]? = some (Dg T k x n).1/\(Dj T k x (n+1))[n+1]? = some (Dg T k x n).2:=by
 constructor
 .cases n with
  | zero=>rfl
  | succ n=>simp[Dj,jS]
 .simp [Dj]
def Di (l:List Ed) (salt:ByteArray) (k:Int) (n:Int) (keys:List Int):Int :=
 if 1<=n/\n<=100 then (((Bb l k).filter λ x=>(Dj (A0 l salt) k x n.toNat).any λ y=>decide (y∈keys)).length:Nat) else 0
def BU (T:Int->List Int) (ks:List Int):List (List AV):=ks.map λ k=>[.sc (.int .i64 k),AA (T k)]
def HE (ks:List Int) (k:Int):List Int:=if k∈ks then ks else ks++[k]
theorem Vy (T:Int->List Int) (n:Int):∀ ks,DW n (BU T ks)=if n∈ks then some (AA (T n)) else none
 | []=>rfl
 | k::ks=>by
   have ih:=Vy T n ks;simp only[BU] at ih;simp only[BU,Qo,DW,ih]
   by_cases h:n=k
   .subst h;simp
   .simp [h]
theorem WY (T:Int->List Int) (n:Int):∀ ks,n∉ks->Bc n (AA (T n)) (BU T ks)=BU T (ks++[n])
 | [],_=>rfl
 | k::ks,h=>by
   have ih:=WY T n ks λ h2=>h (Ql _ h2);have hk:¬ n=k:=λ e=>h (e ▸ Qn);simp only[BU] at ih;simp only[BU,Qo,Bc,QR,if_neg hk,ih]
theorem Km (T:Int->List Int) (ks:List Int) (ρ sn h m):(BU T ks).map (List.map (conv ρ sn h (m+2)))=BU T ks:=by
 simp[BU,AB]
theorem Iz {k N:Nat} (h:k<N) (hN:N<=1099511627776):IntKind.i64.wrap ((k:Int)+1)=((k+1:Nat):Int):=by rw[w6];omega
theorem i3 (k:Int) (a:List Int) (e:Ed):(Gz k a e).length<=a.length+2:=by
 have h1:=LY a e.t;have h2:=LY a e.f;have h3:=LY (CD a e.t) e.f;unfold Gz;split<;>split<;>omega
theorem Kc (l:List Ed) (k:Int):(Bb l k).length<=2*l.length:=by
 have key:∀ i,i<=l.length->(Bb (l.take i) k).length<=2*i:=by
  intro i
  induction i with
  | zero=>intro _;simp[Bb]
  | succ i ih =>
    intro h;rw[WJ l k i (by omega)]
    have:=i3 k (Bb (l.take i) k) l[i];have:=ih (by omega)
    omega
 have:=key l.length (Qk _)
 rwa [QO] at this
theorem OR (g:Gr) (k:Int) (hl:g.edges.length<=100000):AcP 105 [eG g,.I k] [] (AA (Bb g.edges k)) []:=by
 refine d9.s.ai ?_;refine ar [1,2] [] [16] 50 ?_;refine rs [1,2,5] [] [] ?_;refine AC (rs [1,2,5,6] [] [] ?_);refine AL ?_;refine Ae (ι:=Nat) (λ i=>⟨47,[(1,.I k),(2,.pv (gC g)),(5,AA (Bb (g.edges.take i) k)),(6,.I i)],[],100⟩) (λ i=>i<=g.edges.length) (λ i=>g.edges.length - i) 0 (Qh _) (A5 [] (by simp[Bb]<;>exact .nil _ _)) ?_
 intro i hi;refine AC (rx (s:=?s4) [1,2,5,6,11] [] [] rfl ?o4 ?q4)
 case o4=>simp[AB];rfl
 refine AE _ rfl (λ h5=>?_) λ h5=>?_
 .simp at h5
  have hw:=Iz h5 (by omega)
  have hs:=WJ g.edges k i h5;have hA:=Kc (g.edges.take i) k;rw[QV] at hA;obtain⟨A,h0⟩:=AG (Bb (g.edges.take i) k);obtain⟨e,he⟩:=AG (g.edges[i]);have hg:g.edges[i]? = some e:=by rw[he];exact Qc h5
  rw[<- h0,<- he] at hs;rw[<- h0] at hA ⊢;have h1:=L1 A e.t (by omega)
  have h4:=LY A e.t;have hT:∀ l:List Int,(l.map λ n=>[AV.I n]).take l.length=l.map λ n=>[AV.I n]:=λ l=>Qb (by simp)
  refine AJ (AC (AL ?_));obtain⟨B,hB⟩:∃ B,B=if e.f=k then CD A e.t else A:=⟨_,rfl⟩
  have h6:B.length<=A.length+1:=by rw[hB];split<;>omega
  have h2:=L1 B e.f (by omega)
  have h3:Gz k A e=if e.t=k then CD B e.f else B:=by unfold Gz;rw[hB]
  rw[h3] at hs;refine Ao ⟨47,[(1,.I k),(2,.pv (gC g)),(5,AA B),(6,.I i)],[],600⟩ ?_ ?_
  .refine arc ⟨47,[(1,.I k),(2,.pv (gC g)),(5,AA A),(6,.I i),(21,.B (decide (e.f=k)))],[],200⟩ ?_ ?_
   .simp [h5,hg,<- he]
    exact A5 [] (by simp[AB]<;>exact Aw (by rw[Qp];simp))
   refine AE _ rfl (λ h7=>?_) λ h7=>?_
   .rw [Qd] at h7
    rw[hB,if_pos h7];refine Ac rfl ?_;simp[h5,hg,<- he];refine E2 h1 (by simp[AB]) ?_
    simp;exact AF [] [256] (by simp[AB,hT])
   .rw [Qa] at h7
    rw[hB,if_neg h7];exact AJ (BF [] [])
  refine arc ⟨47,[(1,.I k),(2,.pv (gC g)),(5,AA B),(6,.I i),(37,.B (decide (e.t=k)))],[],700⟩ ?_ ?_
  .simp [h5,hg,<- he]
   exact A5 [] (by simp[AB]<;>exact Aw (by rw[Qp];simp))
  refine AE _ rfl (λ h9=>?_) λ h9=>?_
  .rw [Qd] at h9
   rw[if_pos h9] at hs;refine Ac rfl ?_;simp[h5,hg,<- he];refine E2 h2 (by simp[AB]) ?_
   simp;refine Ac rfl ?_;simp[hw];refine⟨i+1,by omega,by omega,?_⟩
   rw[hs];exact AF [] [756] (by simp[AB,hT])
  .rw [Qa] at h9
   rw[if_neg h9] at hs;refine AJ (Ac rfl ?_);simp[hw];refine⟨i+1,by omega,by omega,?_⟩
   rw[hs];exact BF [] []
 simp at h5;obtain rfl:i=g.edges.length:=by omega
 rw[QO];refine Aa (hit (rs [4] [] [] ?_));exact Bl
section
variable {P:Program} {np id:Nat} {h:Nat->Option AQ} {K:AV->List Nat->List (Nat × Option AQ)->Prop} {f:FuncId} {first aA args aB:List AV} {res:AV}
theorem Zl {e:AQ} (hc:AK P f aB [] res [some e]) (he:Ez ((first++args++aA).map (conv [] [] h 4)) aB) (hk:K (conv (C9 [] id) [] (λ _=>none) 4 res) [] [(id,some (Ab (C9 [] id) [] (λ _=>none) 4 e))]):aK P np id .call (.fn (.func f) first aA::args) h K :=
 ⟨[],[],true,aB,[],res,[some e],by simp,by simp,λ _=>by simp,by rw[Vp];exact he,rfl,hc,by simp,.inl rfl,by simpa [C9] using hk⟩
end
theorem zpL {P:Program} {np:Nat} {ops:List Cp} {Q:Gm->St->Prop} {sz n:Nat} {t:List (Nat × AV)} {h:List (Nat × Option AQ)} {af:List (List Nat)} (s:St) (hd:(ops.all λ o=>o.dst.all (· < sz))=true) (ho:CE P np n 0 ops ⟨sz,t,h,n⟩ [] λ st' tr=>Jp ops af tr/\Le np ⟨st'.sz,st'.t,st'.h,n+8*ops.length⟩ s) (hq:∀ st',Le np st' s->Q .normal st'):A2 P np (.reg true ops af) Q ⟨sz,t,h,n⟩ :=
 Cr hd (F5 _ _ _ _ _ _ _ (λ _ _ h=>⟨h.1,hq _ h.2⟩) ho)
theorem K0 {α:Type} (X:List α) (e:α) (k n:Nat) (hX:X.length=n) (hk:k<=n):List.take (k+1+(n - k)) (List.take (k+1) (List.take k X++[e])++List.drop k X)=List.take k X++e::List.drop k X:=by
 have h1:List.take (k+1) (List.take k X++[e])=List.take k X++[e]:=Qb (by simp;omega)
 rw[h1,Qb (by simp;omega)]
 simp
theorem cE (salt:ByteArray) (k x:Int) (hs:salt.size<=100000):AcP 202 [.sc (.string salt),.I k,.I x] [] (.sc (.string (IQ salt k x))) []:=by
 refine fY.s.ai ?_;have h6:=eK [] salt _ rfl (by simp) (by omega)
 have h3:(DV salt).length=salt.size+8:=Tx salt;have h4:=O1 (DV salt) k _ rfl (by omega)
 have hh:(A4 k).length=8:=Ic _;have hi:(A4 x).length=8:=Ic _;have h5:=O1 (DV salt++A4 k) x _ rfl (by rw[Qg];omega)
 have h0:=Zm (DV salt++A4 k++A4 x) (by rw[Qg,Qg];omega)
 have h7:Fm (DV salt++A4 k++A4 x)=IQ salt k x:=rfl;rw[h7] at h0;have h1:(DV salt++A4 k).length=salt.size+16:=by rw[Qg];omega
 have h2:(DV salt++A4 k++A4 x).length=salt.size+24:=by rw[Qg];omega
 rw[Q5,UP,Q1] at h6;rw[h3] at h4;rw[h1] at h5;obtain⟨B1,h9⟩:∃ B,B=DV salt:=⟨_,rfl⟩;obtain⟨B2,ha⟩:∃ B,B=DV salt++A4 k:=⟨_,rfl⟩;obtain⟨B3,hb⟩:∃ B,B=DV salt++A4 k++A4 x:=⟨_,rfl⟩;rw[<- hb] at h0 h5 h2;rw[<- ha] at h5 h4 h1;rw[<- h9] at h4 h6 h3;have hc:∀ f:Int->List AV,(B1.map f).take (salt.size+8)=B1.map f:=λ f=>Qb (by simp[h3])
 have he:∀ f:Int->List AV,(B2.map f).take (salt.size+8+8)=B2.map f:=λ f=>Qb (by simp[h1])
 have hf:∀ f:Int->List AV,(B3.map f).take (salt.size+16+8)=B3.map f:=λ f=>Qb (by simp[h2])
 obtain⟨d,hd⟩:=AG (IQ salt k x);rw[<- hd] at h0 ⊢;refine rs [0,1,2] [] [] ?_;refine D9 ⟨14,[(6,.sc (.string d))],[],200⟩ rfl ?_ (BG ⟨.inr rfl,AS.one (by simp)⟩)
 simp;refine Zl h6 (by simp<;>exact .nil _ _) ?_
 simp;refine HY [32] h4 (by simp[AB,hc,h3]) (.rs _ _ _) Mq ?_
 simp;refine HY [48] h5 (by simp[AB,he,h1]) (.rs _ _ _) Mq ?_
 simp;refine Hk [64] h0 (by simp[AB,hf,h2]) (.sc _) ?_
 simp;exact Bk [] []
theorem zns (c:BE->BE->Int) (x:BE):∀ (D T:List BE),(∀ y∈D,c x y<0)->(∀ y,T.head? = some y->¬ c x y<0)->FB c (D++T) x=D++x::T
 | [],[],_,_=>rfl
 | [],y::T,_,h=>by
   show (if c x y<0 then y::FB c T x else x::y::T)=_
   rw[if_neg (h y rfl)];rfl
 | y::D,T,h1,h2=>by
   show (if c x y<0 then y::FB c (D++T) x else x::y::(D++T))=_
   rw[if_pos (h1 y Qn),zns c x D T (λ z hz=>h1 z (Ql _ hz)) h2];rfl
def DH (M:List BE) (i:Nat):List BE:=(Fw Cf (M.take i)).reverse
theorem V2 (M:List BE) (i:Nat) (h:i<=M.length):(DH M i).length=i:=by
 unfold DH;rw[List.length_reverse,zfK,QV];omega
theorem ZK (M:List BE) (i k:Nat) (h:i<M.length) (hk:k<=i) (h1:∀ y∈(DH M i).drop k,Cf M[i] y<0) (h2:∀ j,k=j+1 -> ∀ (h:j<(DH M i).length),¬ Cf M[i] (DH M i)[j]<0) :
  DH M (i+1)=(DH M i).take k++M[i]::(DH M i).drop k:=by
 obtain⟨Q,hQ⟩:=AG (DH M i);have hl:=V2 M i (by omega)
 rw[<- hQ] at h1 hl
 have h3:Fw Cf (M.take i)=(Q.drop k).reverse++(Q.take k).reverse:=by
  rw[<- List.reverse_append,UG,hQ];unfold DH;rw[List.reverse_reverse]
 have e:DH M (i+1)=(FB Cf (Fw Cf (M.take i)) M[i]).reverse:=by
  unfold DH;rw[TD Cf M i h]
 rw[e,h3,zns Cf M[i] _ _ (λ y hy=>h1 y (List.mem_reverse.1 hy)) λ y hy=>?_,<- hQ]
 .simp
 .rw [List.head?_reverse] at hy
  cases k with
  | zero=>simp at hy
  | succ j =>
    have hj:j<Q.length:=by omega
    have:(Q.take (j+1)).getLast? = some Q[j]:=by rw[Qm hj,List.getLast?_concat]
    rw[this] at hy;obtain rfl:=Qf hy;have:=h2 j rfl (by rw[<- hQ];exact hj)
    simp only[<- hQ] at this;exact this
abbrev JP (Q:List BE):AV:=.vs 1 false (Q.map λ v=>[AV.I v.k])
abbrev J0 (Q:List BE):AV:=.vs 1 false (Q.map λ v=>[AV.sc (.string v.d)])
open Classical in
theorem vD (g:Gr) (salt:ByteArray) (k:Int) (hl:g.edges.length<=100000) (hs:salt.size<=100000):AcP 179 [eG g,.sc (.string salt),.I k] [] (AA (A0 g.edges salt k)) []:=by
 refine uA.s.ai ?_;have hh:=OR g k hl;have a8:=Kc g.edges k;have a9:=λ x=>cE salt k x hs;have hM:∀ i (h:i<(Bb g.edges k).length),∃ h':i<(C5 g.edges salt k).length,(C5 g.edges salt k)[i]=⟨(Bb g.edges k)[i],IQ salt k (Bb g.edges k)[i]⟩:=λ i h=>⟨by rw[C5,Qr];exact h,by simp[C5]⟩
 have hk:(C5 g.edges salt k).length=(Bb g.edges k).length:=by rw[C5,Qr]
 have ho:AA (A0 g.edges salt k)=JP (DH (C5 g.edges salt k) (C5 g.edges salt k).length):=by
  unfold A0 DH F9;rw[QO];exact congrArg (AV.vs 1 false) List.map_map
 rw[ho];obtain⟨N,hN⟩:=AG (Bb g.edges k);obtain⟨M,ad⟩:=AG (C5 g.edges salt k);simp only[<- hN,<- ad] at hh a8 hM hk ⊢;have hq:=λ i h=>V2 M i h;have hu:=λ i j h=>ZK M i j h;have hv:DH M 0=[]:=rfl;obtain⟨Q,hQ⟩:=AG (DH M);rw[<- hQ] at hv;simp only[<- hQ] at hq hu ⊢;refine ar [1,2,3] [] [16] 50 ?_;apply ax [1,2,7] [] [] 100
 .simp
  refine Aj hh ?_;simp;rfl
 refine rs [1,2,7,8] [] [] ?_;refine rs [1,2,7,8,9] [] [] ?_;refine AC (rs [1,2,7,8,9,10] [] [] ?_);refine AL ?_;refine Ae (ι:=Nat) (λ i=>⟨70,[(1,.sc (.string salt)),(2,.I k),(7,AA N),(8,JP (Q i)),(9,J0 (Q i)),(10,.I i)],[],200⟩) (λ i=>i<=N.length) (λ i=>N.length - i) 0 (Qh _) (A5 [] (by simp[AB,hv]<;>exact⟨.nil _ _,.nil _ _⟩)) ?_
 intro i hi;refine AC (ar [1,2,7,8,9,10,19] [] [] 300 ?_);refine AE _ rfl (λ h5=>?_) λ h5=>?_
 .rw [Qd] at h5
  have hw:=Iz h5 (by omega)
  obtain⟨ag,h7⟩:=hM i h5;obtain⟨x,hx⟩:=AG (N[i]);have hg:N[i]? = some x:=by rw[hx];exact Qc h5
  rw[<- hx] at h7;have hz:=a9 x;obtain⟨d,hd⟩:=AG (IQ salt k x);rw[<- hd] at h7 hz;have h9:=hq i (by omega)
  have a0:=hu i;simp only[h7] at a0;refine AJ (Ao ⟨70,[(1,.sc (.string salt)),(2,.I k),(7,AA N),(8,JP (Q (i+1))),(9,J0 (Q (i+1))),(10,.I i)],[],4000⟩ ?_ ?_)
  .refine AL ?_
   apply ax [1,2,7,8,9,10,11] [] [] 400
   .simp [h5,hg,<- hx]
    refine Aj hz ?_;simp;rfl
   apply ax [1,2,7,8,9,10,11,12] [] [] 500
   .simp [h9]
    rfl
   refine AC (AL (Ae (ι:=Nat) (λ j=>⟨70,[(1,.sc (.string salt)),(2,.I k),(7,AA N),(8,JP (Q i)),(9,J0 (Q i)),(10,.I i),(11,.sc (.string d)),(12,.I j)],[],600⟩) (λ j=>j<=i /\ ∀ y∈(Q i).drop j,Cf ⟨x,d⟩ y<0) (λ j=>j) i ⟨Qk _,by rw[List.drop_of_length_le (by omega)];simp⟩ (A5 [] (by simp[AB])) ?_))
   rintro j ⟨hj,a1⟩
   refine AC ?_;obtain⟨b,hb⟩:=AG (decide (∃ m,j=m+1 /\ ∃ h:m<(Q i).length,Cf ⟨x,d⟩ (Q i)[m]<0));refine arc ⟨70,[(1,.sc (.string salt)),(2,.I k),(7,AA N),(8,JP (Q i)),(9,J0 (Q i)),(10,.I i),(11,.sc (.string d)),(12,.I j),(41,.B b)],[],1000⟩ ?_ ?_
   .cases j with
    | zero =>
      simp;exact A5 [] (by simp[AB]<;>exact Aw (by rw[hb];simp))
    | succ m =>
      have hm:m<(Q i).length:=by omega
      have ha:=w6 (x:=(m:Int));have a2:(Q i)[m]? = some (Q i)[m]:=Qc hm;have h1:=u5 ⟨x,d⟩ (Q i)[m];obtain⟨y,hy⟩:=AG ((Q i)[m]);rw[<- hy] at a2 h1;have a3:(0:Int)<(m:Int)+1:=by omega
      have am:Op.bytesLess d.toList y.d.toList=b:=by
       rw[hb,Qp,Qd];simp only[KN] at h1;rw[<- h1];refine⟨λ h=>⟨m,rfl,hm,by rw[<- hy];exact h⟩,?_⟩
       rintro⟨m2,h2,h3,h4⟩
       obtain rfl:m=m2:=by omega
       rw[hy];exact h4
      simp[ha,hm,a2,<- hy,a3];exact A5 [] (by simp[AB]<;>exact Aw am)
   refine AE _ rfl (λ h4=>AJ ?_) λ h4=>Aa (hit ?_)
   .rw [hb,Qd] at h4
    obtain⟨m,rfl,hm,h1⟩:=h4;have ha:=w6 (x:=(m:Int));refine AL (Ac rfl ?_);simp[ha];refine⟨m,⟨by omega,λ y hy=>?_⟩,by omega,A5 [] (by simp[AB])⟩
    rw[QP hm] at hy;rcases Qs.1 hy with rfl | hy
    .exact h1
    .exact a1 y hy
   rw[hb,Qa] at h4;have h6:=a0 j ag hj a1 (λ m hm h=>λ hc=>h4 ⟨m,hm,h,hc⟩);obtain⟨X,hX⟩:=AG ((Q i).map λ v=>[AV.I v.k]);have he:X.length=i:=by rw[hX,Qr];exact h9
   have a4:∀ ρ sn h m,X.map (List.map (conv ρ sn h (m+1)))=X:=by rw[hX];intros;simp[AB]
   have h0:min j i=j:=by omega
   have a5:(Q (i+1)).map (λ v=>[AV.I v.k])=List.take j X++[AV.I x]::List.drop j X:=by rw[h6,hX,QT,Qo,List.map_take,Vb]
   obtain⟨Y,hY⟩:=AG ((Q i).map λ v=>[AV.sc (.string v.d)]);have hf:Y.length=i:=by rw[hY,Qr];exact h9
   have a6:∀ ρ sn h m,Y.map (List.map (conv ρ sn h (m+1)))=Y:=by rw[hY];intros;simp[AB]
   have a7:(Q (i+1)).map (λ v=>[AV.sc (.string v.d)])=List.take j Y++[AV.sc (.string d)]::List.drop j Y:=by rw[h6,hY,QT,Qo,List.map_take,Vb]
   rw[show JP (Q i) = .vs 1 false X by rw[hX],show J0 (Q i) = .vs 1 false Y by rw[hY],show JP (Q (i+1)) = .vs 1 false (List.take j X++[AV.I x]::List.drop j X) from by rw[<- a5],show J0 (Q (i+1)) = .vs 1 false (List.take j Y++[AV.sc (.string d)]::List.drop j Y) from by rw[<- a7]]
   refine CW ⟨70,[(1,.sc (.string salt)),(2,.I k),(7,AA N),(8,.vs 1 false (List.take j X++[AV.I x]::List.drop j X)),(9,.vs 1 false Y),(10,.I i),(11,.sc (.string d)),(12,.I j)],[],2000⟩ ?_ ?_
   .simp [h5,hg,<- hx,he,h0,hj]
    refine⟨by omega,by omega,by omega,by omega,by omega,by omega,rfl,A5 [1104] ?_⟩
    simp[he,h0,hj,a4,a6,AB];exact GI (congrArg _ (K0 X [AV.I x] j i he hj))
   refine zpL ⟨70,[(1,.sc (.string salt)),(2,.I k),(7,AA N),(8,.vs 1 false (List.take j X++[AV.I x]::List.drop j X)),(9,.vs 1 false (List.take j Y++[AV.sc (.string d)]::List.drop j Y)),(10,.I i)],[],4000⟩ rfl ?_ λ st' an=>an;simp[hf,h0,hj];refine⟨by omega,by omega,by omega,by omega,by omega,by omega,rfl,A5 [2080] ?_⟩
   simp[hf,h0,hj,a4,a6,AB];exact GI (congrArg _ (K0 Y [AV.sc (.string d)] j i hf hj))
  refine Ac rfl ?_;simp[hw];exact⟨i+1,by omega,by omega,A5 [] (by simp[AB])⟩
 rw[Qa] at h5;obtain rfl:i=N.length:=by omega
 rw[<- hk];refine Aa (hit (rs [4,6,8] [] [] ?_));exact A9 (AS.one (by simp[AB]))
abbrev Hz (v:BE):List AV:=[.I v.k,.sc (.string v.d)]
abbrev Il (v:BE):AV:=.agg (Hz v)
abbrev Cc (l:List BE):List (List AV):=l.map Hz
def tW (aA:List AV):Prop:=∀ ρ sn h n,aA.map (conv ρ sn h (n+1))=aA
theorem Le.npP {st st':St} {D:List BE} (sn:List Nat) (h0:st'.sz=st.sz) (hn:1<=st'.n) (hh:st'.h=[(0,some ⟨2,Cc D,0⟩)]) (hs:∀ k∈sn,1<=k) (he:st.hp 0=some ⟨2,Cc D,0⟩) (ht:∀ p∈st'.t,Wk (conv [(0,0)] sn st.hp 4 (st.get p.1)) p.2):Le 1 st st' :=
 Le.ents [(0,0)] sn h0 (by simp) (by simp) (by simp;omega) (λ k hk=>⟨hs k hk,by have:=hs k hk;simp;omega⟩) hn ht (λ p hp=>by
  rw[hh] at hp;simp at hp;subst hp
  exact⟨0,_,_,rfl,by simp,he,Am.eq (by simp[AB]) (by simp)⟩)
theorem VF {H T:List BE} {y x:BE} {h:Nat} (hh:H.length=h):(Cc (H++y::x::T))[h]? = some (Hz y)/\(Cc (H++y::x::T))[h+1]? = some (Hz x):=by
 subst hh;constructor
 .rw [QA,Qv (by omega)]
  simp
 .rw [QA,Qv (by omega)]
  simp
theorem i8 {H T:List BE} {y x:BE} {h:Nat} (hh:H.length=h):((Cc (H++y::x::T)).set (h+1) (Hz y)).set h (Hz x)=Cc (H++x::y::T):=by
 subst hh;simp[Cc,List.set_append]
theorem rN (f:FuncId) (aA:List AV) (c:BE->BE->Int) (A M B:List BE) (n a b:Nat) (hn:(A++M++B).length=n) (ha:A.length=a) (hb:a+M.length=b) (hl:n<=1000000) (hs:tW aA) (hc:∀ x∈M,∀ y∈M,AcP f (Il x::Il y::aA) [] (.I (c x y)) []) :
  AcP 229 [.rs 0 0 n,.I a,.I b,.fn (.func f) [] aA] [⟨2,Cc (A++M++B),0⟩] (.tup []) [some ⟨2,Cc (A++F9 c M++B),0⟩]:=by
 have h9:∀ ρ sn h,aA.map (conv ρ sn h 2)=aA:=λ _ _ _=>hs _ _ _ 1
 have hd:∀ ρ sn h,aA.map (conv ρ sn h 3)=aA:=λ _ _ _=>hs _ _ _ 2
 have h4:∀ ρ sn h,aA.map (conv ρ sn h 4)=aA:=λ _ _ _=>hs _ _ _ 3
 refine jJ.s.acalls (CL rfl) (CL rfl) (CL rfl) ?_;show A2 _ 1 _ _ ⟨53,[(0,.rs 0 0 n),(1,.I a),(2,.I b),(3,.fn (.func f) [] aA)],[(0,some ⟨2,Cc (A++M++B),0⟩)],16⟩
 have au:a+(M.length+B.length)=n:=by
  simp only[Qg] at hn;omega
 have b1:b<=n:=by omega
 have a5:=wq (k:=a)
 let Lk:Nat->List BE:=λ k=>A++((Fw c (M.take k)).reverse++(M.drop k++B))
 have a6:A++M++B=Lk 1:=by
  cases M with
  | nil=>simp[Lk,Fw]
  | cons m M=>simp[Lk,Yq]
 rw[a6];apply ak [0,1,2,3,8] [0] 40
 .simp [a5]
  rfl
 refine AL (Ae (ι:=Nat) (λ k=>⟨53,[(0,.rs 0 0 n),(1,.I a),(2,.I b),(3,.fn (.func f) [] aA),(8,.I (a+k:Nat))],[(0,some ⟨2,Cc (Lk k),0⟩)],40⟩) (λ k=>1<=k/\k<=M.length+1/\(M.length<=k->Cc (Lk k)=Cc (A++F9 c M++B))) (λ k=>M.length+1 - k) 1 ?_ (Le.refl _ _) ?_)
 .refine ⟨Qk _,by omega,λ h=>?_⟩
  simp only[Lk];rw[Qb h,Us h];simp[F9]
 rintro k ⟨b2,b3,a7⟩
 refine AC (arc ⟨53,[(0,.rs 0 0 n),(1,.I a),(2,.I b),(3,.fn (.func f) [] aA),(8,.I (a+k:Nat)),(14,.B (decide (k<M.length)))],[(0,some ⟨2,Cc (Lk k),0⟩)],64⟩ ?_ ?_)
 .simp
  exact Le.keep rfl (Qk _) (by simp<;>omega) (by simp)
 refine AE _ rfl (λ h=>AJ ?_) λ h=>Aa (hit ?_)
 .simp only[Qd] at h
  refine Ao ⟨53,[(0,.rs 0 0 n),(1,.I a),(2,.I b),(3,.fn (.func f) [] aA),(8,.I (a+k:Nat))],[(0,some ⟨2,Cc (Lk (k+1)),0⟩)],64⟩ ?_ ?_
  .have hx:M[k]∈M:=Qj h
   have hh:M.drop k=M[k]::M.drop (k+1):=QP h;have hi:=TD c M k h;generalize M[k]=x at *;obtain⟨D,hD⟩:=AG (M.drop (k+1)++B);obtain⟨R,hR⟩:=AG (Fw c (M.take k))
   have a8:∀ y∈R,y∈M:=λ y hy=>by
    rw[hR] at hy;exact QZ ((OO c _).mem_iff.1 hy)
   have hw:R.length=k:=by rw[hR,zfK];simp;omega
   have b4:D.length+k+1=M.length+B.length:=by rw[hD];simp;omega
   have a9:Lk k=A++R.reverse++x::D:=by simp only[Lk];rw[hh,<- hR,hD];simp
   have a0:Lk (k+1)=A++(FB c R x).reverse++D:=by simp only[Lk];rw[hi,<- hR,hD];simp
   rw[a9,a0];refine AL (arc ⟨53,[(0,.rs 0 0 n),(1,.I a),(2,.I b),(3,.fn (.func f) [] aA),(8,.I (a+k:Nat)),(9,.I (a+k:Nat))],[(0,some ⟨2,Cc (A++R.reverse++x::D),0⟩)],80⟩ ?_ ?_)
   .simp
    exact Ek
   refine AL ?_
   let C:List BE × List BE->St:=λ p=>⟨53,[(0,.rs 0 0 n),(1,.I a),(2,.I b),(3,.fn (.func f) [] aA),(8,.I (a+k:Nat)),(9,.I (a+p.2.length:Nat))],[(0,some ⟨2,Cc (A++p.2.reverse++x::(p.1++D)),0⟩)],80⟩
   refine Ae C (λ p:List BE × List BE=>FB c R x=p.1.reverse++FB c p.2 x/\p.1.length+p.2.length=k /\ ∀ y∈p.2,y∈M) (λ p:List BE × List BE=>p.2.length) ([],R) ⟨rfl,by simpa using hw,a8⟩ ?_ ?_
   .simp only[C,hw,Q5]
    exact Le.refl _ _
   rintro⟨U,V⟩ ⟨h0,h1,h3⟩
   simp only at h0 h1 h3
   match V,h0,h1,h3 with
   | [],h0,h1,h3 =>
     have hC:C (U,[])=⟨53,[(0,.rs 0 0 n),(1,.I a),(2,.I b),(3,.fn (.func f) [] aA),(8,.I (a+k:Nat)),(9,.I a)],[(0,some ⟨2,Cc (A++x::(U++D)),0⟩)],80⟩:=by simp[C]
     rw[hC];refine AC (CW ⟨53,[(0,.rs 0 0 n),(1,.I a),(2,.I b),(3,.fn (.func f) [] aA),(8,.I (a+k:Nat)),(34,.B false)],[(0,some ⟨2,Cc (A++x::(U++D)),0⟩)],216⟩ ?_ ?_)
     .simp
      exact⟨rfl,Ek⟩
     refine AE _ rfl (λ h=>by cases h) λ h=>Aa (hit ?_)
     have e:A++x::(U++D)=A++(FB c R x).reverse++D:=by rw[h0];simp[FB]
     rw[<- e];exact Le.npP [] rfl (by simp) rfl (by simp) rfl (by simp[h9,hd,h4])
   | y::V',h0,h1,h3 =>
     obtain⟨H,hH⟩:=AG (A++V'.reverse);obtain⟨T,hT⟩:=AG (U++D);obtain⟨q,hq⟩:=AG (a+V'.length);obtain⟨j,hj⟩:=AG (q+1);have h6:H.length=q:=by rw[hH,hq];simp;omega
     have a1:(H++y::x::T).length=n:=by
      have e:(H++y::x::T).length=H.length+(T.length+2):=by simp
      rw[e,h6,hT,Qg];simp at h1;omega
     have hk:=(VF (T:=T) (y:=y) (x:=x) h6).1;have ho:=(VF (T:=T) (y:=y) (x:=x) h6).2;have h7:=i8 (T:=T) (y:=y) (x:=x) h6;rw[<- hj] at ho h7
     have hC:C (U,y::V')=⟨53,[(0,.rs 0 0 n),(1,.I a),(2,.I b),(3,.fn (.func f) [] aA),(8,.I (a+k:Nat)),(9,.I j)],[(0,some ⟨2,Cc (H++y::x::T),0⟩)],80⟩:=by
      simp[C,hH,hT,hj,hq,UL]
     rw[hC];have ad:=hc x hx y (h3 y Qn);have a2:j<n:=by rw[<- a1,hj,<- h6];simp
     have hu:IntKind.i64.wrap ((j:Int) - 1)=(q:Int):=by rw[w6];omega
     have a3:q<n:=by omega
     have ag:a<j:=by omega
     have av:(Cc (H++y::x::T)).length=n:=by rw[Cc,Qr,a1]
     generalize hX:Cc (H++y::x::T)=X at *;have hv:∀ ρ sn h m,X.map (List.map (conv ρ sn h (m+1)))=X:=λ ρ sn h m=>by rw[<- hX];simp[AB]
     refine AC ?_;apply al [0,1,2,3,8,9,34] [0] 216
     .simp [ag,a2,a3,hk,ho,hu]
      refine Aq ad ?_ ?_
      .simp [h4]
      simp;exact⟨rfl,rfl⟩
     refine AE _ rfl (λ h5=>AJ ?_) λ h5=>Aa (hit ?_)
     .simp only[Qd] at h5
      have ai:(X.set j (Hz y))[q]? = some (Hz y):=by
       rw[U3,if_neg (by omega)]
       exact hk
      generalize hY:Cc (H++x::y::T)=Y at h7;refine Ao ⟨53,[(0,.rs 0 0 n),(1,.I a),(2,.I b),(3,.fn (.func f) [] aA),(8,.I (a+k:Nat)),(9,.I j)],[(0,some ⟨2,Y,0⟩)],360⟩ ?_ ?_
      .refine AL (Cr rfl ?_)
       simp[a2,a3,hk,ho,ai,hu,Ay];exact⟨rfl,Le.keep rfl (Qk _) (by simp) (by simp;exact h7)⟩
      refine Ac rfl ?_;simp[hu];refine⟨y::U,V',⟨?_,?_,?_⟩,?_,?_⟩
      .rw [h0,FB,if_pos h5];simp
      .simp at h1 ⊢;omega
      .exact λ z hz=>h3 z (Ql _ hz)
      .simp
      .have am:C (y::U,V')=⟨53,[(0,.rs 0 0 n),(1,.I a),(2,.I b),(3,.fn (.func f) [] aA),(8,.I (a+k:Nat)),(9,.I q)],[(0,some ⟨2,Y,0⟩)],80⟩:=by rw[<- hY];simp[C,hH,hT,hq]
       rw[am];have hf:∀ ρ sn h m,Y.map (List.map (conv ρ sn h (m+1)))=Y:=λ ρ sn h m=>by rw[<- hY];simp[AB]
       exact Le.ents [(0,0)] [] rfl (by simp) (by simp) (by simp) (by simp) (by simp) (by simp[h9,hd,h4]) λ p hp=>by
        simp at hp;subst hp;exact⟨0,_,_,rfl,by simp,rfl,Am.eq (by simp only[Ab,hf]) (by simp)⟩
     .simp only[Qa] at h5
      have e:H++y::x::T=A++(FB c R x).reverse++D:=by rw[h0,FB,if_neg h5,hH,hT];simp
      rw[<- e,hX]
      exact Le.ents [(0,0)] [] rfl (by simp) (by simp) (by simp) (by simp) (by simp) (by simp[h9,hd,h4]) λ p hp=>by
       simp at hp;subst hp;exact⟨0,_,_,rfl,by simp,rfl,Am.eq (by simp only[Ab,hv]) (by simp)⟩
  have an:IntKind.i64.wrap (((a+k:Nat):Int)+1)=((a+(k+1):Nat):Int):=by rw[w6];omega
  refine Ac rfl ?_;have a4:IntKind.i64.wrap ((a:Int)+(k:Int)+1)=((a+(k+1):Nat):Int):=by rw[<- an];congr 1
  simp[a4];refine⟨k+1,⟨by omega,by omega,λ h2=>?_⟩,by omega,?_⟩
  .have he:M.length=k+1:=by omega
   simp only[Lk];rw[Qb (by omega),Us (by omega)]
   simp[F9]
  .exact Le.npP [] rfl (by simp) rfl (by simp) rfl (by simp[h9,hd,h4])
 simp only[Qa] at h;rw[a7 (by omega)]
 exact⟨.inl rfl,⟨[],rfl,[],[],by simp[List.range,List.range.loop],by simp,by simp,by simp,by simp[List.range,List.range.loop,AB]⟩⟩
abbrev sB (x:ByteArray):AV:=.sc (.string x)
theorem WO (x:ByteArray):AcP 224 [sB x] [] (.B false) []:=by
 refine jC.s.ai ?_;refine rs [0] [] [] ?_;refine rs [2] [] [] ?_;exact Bl
theorem iQ (x y:ByteArray):AcP 214 [sB x,sB y] [] (.I (Gt x y)) []:=by
 refine mH.s.ai ?_;refine AC (Ag (s:=?s1) rfl ?o1 ?q1)
 case o1=>simp;rfl
 refine AC (Ag (s:=?s2) rfl ?o2 ?q2)
 case o2=>simp;refine Aq (WO _) rfl ?_;simp;rfl
 refine AC (Ag (s:=?s3) rfl ?o3 ?q3)
 case o3=>simp;refine Aq (WO _) rfl ?_;simp;rfl
 refine AC (AC (Ag (s:=?s4) rfl ?o4 ?q4))
 case o4=>simp;rfl
 refine AE _ rfl (λ h=>by cases h) λ _=>AJ ?_
 refine AC (AC (Ag (s:=?s5) rfl ?o5 ?q5))
 case o5=>simp;rfl
 refine AE _ rfl (λ h=>by cases h) λ _=>AJ ?_
 refine AC (arc ⟨20,[(0,sB x),(1,sB y),(16,.B (KN x y))],[],200⟩ ?_ ?_)
 .simp
  exact AF [] [] (by simp[KN])
 refine AE _ rfl (λ h=>?_) λ h1=>AJ ?_
 .refine AC (Ag (s:=?s7) rfl ?o7 ?q7)
  case o7=>simp;rfl
  exact A9 (AS.one (by simp[Gt,h]))
 refine AC (arc ⟨20,[(0,sB x),(1,sB y),(19,.B (!(x.toList == y.toList)))],[],300⟩ ?_ ?_)
 .have h2:Op.bytesLess x.toList y.toList=false:=by simpa [KN] using h1
  simp;exact AF [] [] (by simp[h2])
 refine AE _ rfl (λ h=>?_) λ h2=>AJ ?_
 .refine AC (Ag (s:=?s9) rfl ?o9 ?q9)
  case o9=>simp;rfl
  exact A9 (AS.one (by simp at h h1;simp[Gt,h,h1]))
 refine AC (Ag (s:=?s10) rfl ?o10 ?q10)
 case o10=>simp;rfl
 exact A9 (AS.one (by simp at h1 h2;simp[Gt,h1,h2]))
theorem Ys (a b:BE):AcP 213 [Il a,Il b] [] (.I (Cf a b)) []:=by
 refine mR.s.ai ?_;refine rs [2,3] [] [16,24] ?_;refine arc ⟨10,[(4,.I (Cf a b))],[],200⟩ ?_ ?_
 .simp
  refine Aj (iQ a.d b.d) ?_;simp;exact AF [] [] (by simp[Cf])
 exact Bl
theorem bM (n:Nat) (h:n<=12):∃ v:Int,True/\AcP 155 [.sc (.int .u64 n)] [] (.I v) []:=by
 refine TC.s.acallsX (args:=[.sc (.int .u64 n)]) (hs:=[]) (λ v=>.I v) (λ _=>[]) (λ _:Int=>True) (CL rfl) (CL rfl) (λ _=>Qh _) ?_;show A2 _ 0 _ _ ⟨25,[(0,.sc (.int .u64 n))],[],16⟩;refine rs [0,2] [] [] ?_;have hf:∀ k:Int,12<k->decide ((n:Int)≥k)=false:=λ k hk=>UI (by omega)
 refine AC (arc ⟨25,[(0,.sc (.int .u64 n)),(2,.I 0),(4,.B false)],[],100⟩ ?_ ?_)
 .simp
  exact AF [] [] (by simp<;>exact Aw (by rw[Qa];omega))
 refine AE _ rfl (λ h=>by cases h) λ _=>AJ ?_
 refine AC (arc ⟨25,[(0,.sc (.int .u64 n)),(2,.I 0),(8,.B false)],[],200⟩ ?_ ?_)
 .simp
  exact AF [] [] (by simp<;>exact Aw (by rw[Qa];omega))
 refine AE _ rfl (λ h=>by cases h) λ _=>AJ ?_
 refine AC (arc ⟨25,[(0,.sc (.int .u64 n)),(2,.I 0),(14,.B false)],[],300⟩ ?_ ?_)
 .simp
  exact AF [] [] (by simp<;>exact Aw (by rw[Qa];omega))
 refine AE _ rfl (λ h=>by cases h) λ _=>AJ ?_
 have hu:IntKind.u8.wrap (n:Int)=(n:Int):=by rw[IntKind.wrap_u8];omega
 refine rx (s:=?s4) [2] [] [] rfl ?o4 ?q4
 case o4=>simp[hu];refine⟨_,Qc (by simp;omega),?_⟩;rfl
 exact BG (F4.mk (.inr rfl) _ trivial (AS.one (.refl _)))
theorem oC (n:Nat) (h:n<=12):∃ v:Int,AcP 113 [.sc (.int .u64 n)] [] (.I v) []:=by
 obtain⟨v,_,hv⟩:=bM n h;refine⟨v,ZG.s.ac ?_⟩;show A2 _ 0 _ _ ⟨8,[(0,.sc (.int .u64 n))],[],16⟩;refine rs [0,2] [] [] ?_;refine AC (AE _ rfl (λ h=>by simp at h) λ _=>AJ ?_)
 refine rx (s:=?s2) [2] [] [] rfl ?o2 ?q2
 case o2=>simp;refine Aq hv (by simp) ?_;simp;rfl
 exact Bl
theorem sV (f:FuncId) (c:BE->BE->Int) (l:List BE) (n:Nat) (v:Int) (hn:l.length=n) (hl:n<=12) (hc:∀ x∈l,∀ y∈l,AcP f [Il x,Il y] [] (.I (c x y)) []) :
  AcP 223 [.rs 0 0 n,.I 0,.I n,.I v,.fn (.func f) [] []] [⟨2,Cc l,0⟩] (.tup []) [some ⟨2,Cc (F9 c l),0⟩]:=by
 refine qK.s.ai ?_;have h0:=rN f [] c [] l [] n 0 n (by simpa using hn) rfl (by simpa using hn) (by omega) (λ _ _ _ _=>rfl) hc
 simp only[Q5,QW] at h0;have hw:=w6 (x:=(n:Int));refine ar [0,1,2,3,4] [(0,0)] [] 50 ?_;refine ar [0,1,2,3,4] [(0,0)] [] 100 ?_;refine AL (Ae (ι:=Unit) (λ _=>⟨148,[(0,.rs 0 0 n),(1,.I 0),(2,.I n),(3,.I v),(4,.fn (.func f) [] [])],[(0,some ⟨2,Cc l,0⟩)],100⟩) (λ _=>True) (λ _=>0) () trivial (Le.refl _ _) ?_);intro _ _;refine AL ?_;apply ax [0,1,2,3,4,12] [(0,0)] [] 200
 .simp [hw]
  rfl
 refine AC (arc ⟨148,[(0,.rs 0 0 n),(1,.I 0),(2,.I n),(3,.I v),(4,.fn (.func f) [] []),(25,.B true)],[(0,some ⟨2,Cc l,0⟩)],300⟩ ?_ ?_)
 .simp
  exact AF [(0,0)] [] (by simp<;>exact Aw (by simp;omega)) (by simp[AB])
 refine AE _ rfl (λ _=>?_) λ h=>by cases h
 apply ax [] [(0,0)] [] 400
 .simp
  refine Cq (i:=0) rfl (e':=⟨2,Cc l,0⟩) (by simp[AB]) h0 (by simp) (by simp) ?_
  simp[AB];rfl
 exact BG ⟨.inr rfl,⟨[],rfl,[],[],by simp[List.range,List.range.loop],by simp,by simp,by simp,by simp[List.range,List.range.loop,AB]⟩⟩
theorem sT (f:FuncId) (c:BE->BE->Int) (l:List BE) (n:Nat) (hn:l.length=n) (hl:n<=12) (hc:∀ x∈l,∀ y∈l,AcP f [Il x,Il y] [] (.I (c x y)) []) :
  AcP 212 [.rs 0 0 n,.fn (.func f) [] []] [⟨2,Cc l,0⟩] (.tup []) [some ⟨2,Cc (F9 c l),0⟩]:=by
 refine eA.s.ai ?_;obtain⟨v,hv⟩:=oC n hl;have hw:IntKind.u64.wrap (n:Int)=(n:Int):=by rw[IntKind.wrap_u64];omega
 refine ar [0,1,4] [(0,0)] [] 100 ?_;refine Ag (s:=?s2) rfl ?o2 ?q2
 case o2 =>
  simp[hw];refine Aj hv ?_;simp;refine Cq (i:=0) rfl (e':=⟨2,Cc l,0⟩) (by simp[AB]) (sV f c l n v hn hl hc) (by simp) (by simp) ?_
  simp[AB];rfl
 exact⟨.inl rfl,⟨[],rfl,[],[],by simp[List.range,List.range.loop],by simp,by simp,by simp,by simp[List.range,List.range.loop,AB]⟩⟩
structure Pn where
 a:Int
 h:Int
 d:ByteArray
structure NC where
 au:Int
 nu:Int
 pr:ByteArray
 ti:Int
 ki:Int
 a:Int
 b:Int
 c:Int
 li:List Int
 pi:List Pn
 bo:ByteArray
 sk:Int
 sd:ByteArray
def K1 (s:NC):Prop:=(0<=s.a/\s.a<64)/\s.a≠s.au/\1<=s.b/\s.b<=3/\s.ti<=s.c/\s.c<=2147483648
def K2 (s:NC):Prop:=(0<=s.a/\s.a<=199)/\s.b=0/\s.c=0
instance (s:NC):Decidable (K1 s):=by unfold K1;infer_instance
instance (s:NC):Decidable (K2 s):=by unfold K2;infer_instance
abbrev DI (l:List Int):List (List AV):=l.map λ n=>[AV.I n]
theorem JJ (l:List Int) (ρ sn h m):(DI l).map (List.map (conv ρ sn h (m+1)))=DI l:=by simp[AB]
theorem Le.N1 {st st':St} {z:Nat} {X:List (List AV)} (h0:∀ ρ sn h m,X.map (List.map (conv ρ sn h (m+1)))=X) (h1:st'.sz=st.sz) (hn:1<=st'.n) (hh:st'.h=[(0,some ⟨z,X,0⟩)]) (he:st.hp 0=some ⟨z,X,0⟩) (ht:∀ p∈st'.t,Wk (conv [(0,0)] [] st.hp 4 (st.get p.1)) p.2):Le 1 st st' :=
 Le.ents [(0,0)] [] h1 (by simp) (by simp) (by simp;omega) (by simp) hn ht (λ p hp=>by
  rw[hh] at hp;simp at hp;subst hp
  exact⟨0,_,_,rfl,by simp,he,Am.eq (by simp only[Ab,h0]) (by simp)⟩)
variable {W z:List Int} {x:Int}
def cX (z W:List Int):List Int:=W++z.drop W.length
theorem Yc (h:W.length<=z.length):(cX z W).length=z.length:=by simp[cX];omega
theorem wK {i:Nat} (h:W.length<=i):(cX z W)[i]? = z[i]?:=by
 unfold cX;rw[Qv h,Q9]
 congr 1
 omega
theorem YY (h:W.length<z.length):(cX z W).set W.length x=cX z (W++[x]):=by
 unfold cX;rw[List.set_append_right _ _ (Qk _),Nat.sub_self,QP h,List.set_cons_zero,Qg,Q3,Qu];rfl
theorem YJ {a:List Int} (h:a.getLast? = some x):DT a x=a:=if_pos h
theorem RA {a:List Int} (h:a.getLast? ≠ some x):DT a x=a++[x]:=if_neg h
theorem jH (z:List Int) (n:Nat) (hn:z.length=n) (hl:n<=1000000):AcP 172 [.rs 0 0 n] [⟨1,DI z,0⟩] (.rs 0 0 (Bt z).length) [some ⟨1,DI (Bt z)++List.replicate (n - (Bt z).length) [.I 0],0⟩]:=by
 refine uQ.s.ai ?_;have a6:=dG z;refine arc ⟨61,[(0,.rs 0 0 n)],[(0,some ⟨1,DI z,0⟩)],24⟩ ?_ ?_
 .simp
  exact Le.keep rfl (by simp) (by simp) (by simp)
 refine AC (arc ⟨61,[(0,.rs 0 0 n),(8,.B (decide (n<2)))],[(0,some ⟨1,DI z,0⟩)],48⟩ ?_ ?_)
 .simp
  exact Le.keep rfl (by simp) (by simp<;>omega) (by simp)
 have h5:∀ {W:List Int},W=z->DI z=DI W++List.replicate (n - W.length) [.I 0]:=λ h=>by subst h;rw[hn];simp
 refine AE _ rfl (λ h=>?_) λ h=>AJ ?_
 .simp only[Qd] at h
  have hd:Bt z=z:=by
   match z,hn with
   | [],_=>rfl
   | [x],_=>rfl
   | _::_::_,hn=>simp at hn;omega
  refine AC (AX ?_);refine BG ?_;rw[<- h5 hd,hd,hn];exact⟨.inr rfl,AS.k1 rfl (by simp) (by simp[AB])⟩
 simp only[Qa] at h;refine AC (AC (AX ?_));refine AL (Ae (ι:=Nat) (λ k=>⟨61,[(0,.rs 0 0 n),(3,.I (k+1:Nat))],[(0,some ⟨1,DI z,0⟩)],56⟩) (λ k=>k+1<=n/\Bt (z.take (k+1))=z.take (k+1)) (λ k=>n - k) 0 ?_ ?_ ?_)
 .refine ⟨by omega,?_⟩
  match z,hn with
  | [],hn=>simp at hn;omega
  | x::l,_=>rfl
 .exact Le.N1 (JJ z) rfl (by simp) rfl rfl (by simp)
 rintro k ⟨hk,h6⟩
 obtain⟨q,hq⟩:=AG (k+1);rw[<- hq] at h6 ⊢;refine AC (arc ⟨61,[(0,.rs 0 0 n),(3,.I q),(13,.B (decide (q<n)))],[(0,some ⟨1,DI z,0⟩)],88⟩ ?_ ?_)
 .simp
  exact Le.keep rfl (by simp) (by simp) (by simp)
 refine AE _ rfl (λ h2=>AJ ?_) λ h2=>Aa (hit ?_)
 .simp only[Qd] at h2
  have hz:k<n:=by omega
  have a0:IntKind.i64.wrap ((q:Int) - 1)=(k:Int):=by rw[w6];omega
  have a7:IntKind.i64.wrap ((q:Int)+1)=((k+1+1:Nat):Int):=by rw[w6];omega
  have h9:(DI z)[q]? = some [AV.I z[q]]:=by rw[DI,QA,Qc (by omega)];rfl
  have hc:(DI z)[k]? = some [AV.I z[k]]:=by rw[DI,QA,Qc (by omega)];rfl
  have hh:(z.take q).getLast? = some z[k]:=by
   subst hq;rw[Qm (by omega),List.getLast?_concat]
  have h0:=Me z q (by omega)
  rw[h6] at h0;obtain⟨a,ha⟩:=AG (z[k]);obtain⟨b,hb⟩:=AG (z[q]);rw[<- ha] at hc hh;rw[<- hb] at h9 h0
  by_cases he:b=a
  .
   rw[he,YJ hh] at h0;refine AC (AL ?_);obtain⟨X,hX⟩:=AG (DI z);have a8:=JJ z;have bs:X.length=n:=by rw[hX,DI,Qr,hn]
   rw[<- hX] at hc h9 a8 ⊢;refine CW ⟨61,[(0,.rs 0 0 n),(3,.I q),(25,.B true)],[(0,some ⟨1,X,0⟩)],168⟩ ?_ ?_
   .simp [a0,h2,hz,hc,h9,he]
    exact⟨rfl,Le.keep rfl (by simp) (by simp) (by simp)⟩
   refine AE _ rfl (λ _=>?_) λ h=>by cases h
   refine arc ⟨61,[(0,.rs 0 0 n),(3,.I q),(4,.rs 0 q (n - q))],[(0,some ⟨1,X,0⟩)],200⟩ ?_ ?_
   .simp [show q<=n by omega]
    exact Le.keep rfl (by simp) (by simp) (by simp)
   refine AC (arc ⟨61,[(0,.rs 0 0 n),(3,.I q),(4,.rs 0 q (n - q)),(5,.I (1:Nat))],[(0,some ⟨1,X,0⟩)],220⟩ ?_ ?_)
   .simp
    exact Le.keep rfl (by simp) (by simp) (by simp)
   rw[hX];refine AL ?_
   refine Ae (ι:=Nat) (λ j=>⟨61,[(0,.rs 0 0 n),(3,.I ((Bt (z.take (q+(j+1)))).length:Nat)),(4,.rs 0 q (n - q)),(5,.I (j+1:Nat))],[(0,some ⟨1,DI (cX z (Bt (z.take (q+(j+1))))),0⟩)],230⟩)
    (λ j=>q+(j+1)<=n/\(Bt (z.take (q+(j+1)))).length<=q+j) (λ j=>n - j) 0 ?_ ?_ ?_
   .refine ⟨by omega,?_⟩
    rw[h0];simp;omega
   .rw [h0]
    have e:cX z (z.take q)=z:=by unfold cX;rw[QV,Nat.min_eq_left (by omega),UG]
    rw[e];have e2:(z.take q).length=q:=by rw[QV];omega
    rw[e2];exact Le.N1 (JJ z) rfl (by simp) rfl rfl (by simp)
   rintro j ⟨hj,a1⟩
   obtain⟨r,hr⟩:=AG (j+1);rw[<- hr] at hj a1 ⊢;obtain⟨W,hW⟩:=AG (Bt (z.take (q+r)))
   have h1:W.getLast? = some z[q+j]:=by
    rw[hW,show q+r=q+j+1 by omega]
    exact jU z (q+j) (by omega)
   have hi:∀ h:q+r<z.length,Bt (z.take (q+(r+1)))=DT W z[q+r]:=λ h=>by
    rw[hW];exact Me z (q+r) h
   rw[<- hW] at a1 ⊢;have a9:=Yc (z:=z) (W:=W) (by omega)
   have ad:=λ i (h:W.length<=i)=>wK (z:=z) h;have ag:=λ x=>YY (z:=z) (W:=W) (x:=x) (by omega)
   have ho:=JJ (cX z W);obtain⟨Y,hY⟩:=AG (DI (cX z W));have a2:Y.length=n:=by rw[hY,DI,Qr,a9,hn]
   have hu:∀ i,(h:i<n)->W.length<=i->Y[i]? = some [AV.I (z[i]'(by rw[hn];exact h))]:=λ i h h2=>by
    rw[hY,DI,QA,ad i h2,Qc (by omega)]
    rfl
   have am:∀ x,Y.set W.length [AV.I x]=DI (cX z (W++[x])):=λ x=>by
    rw[hY,<- ag,DI,DI,U8]
   have an:Y.take W.length=DI W:=by
    rw[hY,DI,<- List.map_take];unfold cX;rw[List.take_left'];rfl
   rw[<- hY] at ho ⊢;refine AC (arc ⟨61,[(0,.rs 0 0 n),(3,.I W.length),(4,.rs 0 q (n - q)),(5,.I r),(32,.B (decide (q+r<n)))],[(0,some ⟨1,Y,0⟩)],280⟩ ?_ ?_)
   .simp
    exact Le.keep rfl (by simp) (by simp<;>omega) (by simp)
   refine AE _ rfl (λ h3=>AJ ?_) λ h3=>Aa (hit ?_)
   .simp only[Qd] at h3
    have hf:=hi (by omega)
    have hv:=hu (q+r) (by omega) (by omega)
    have a3:=hu (q+j) (by omega) (by omega)
    obtain⟨x,hx⟩:=AG (z[q+r]);obtain⟨y,hy⟩:=AG (z[q+j]);rw[<- hx] at hv hf;rw[<- hy] at a3 h1;have au:IntKind.i64.wrap ((r:Int) - 1)=(j:Int):=by rw[w6];omega
    have a4:=wq (k:=r);have av:IntKind.i64.wrap ((W.length:Int)+1)=((W.length+1:Nat):Int):=by rw[w6];omega
    have a5:r<n - q:=by omega
    have b1:j<n - q:=by omega
    refine Ao ⟨61,[(0,.rs 0 0 n),(3,.I ((Bt (z.take (q+(r+1)))).length:Nat)),(4,.rs 0 q (n - q)),(5,.I r)],[(0,some ⟨1,DI (cX z (Bt (z.take (q+(r+1))))),0⟩)],600⟩ ?_ ?_
    .refine AL (CW ⟨61,[(0,.rs 0 0 n),(3,.I W.length),(4,.rs 0 q (n - q)),(5,.I r),(44,.B (decide (x≠y)))],[(0,some ⟨1,Y,0⟩)],380⟩ ?_ ?_)
     .simp [au,a5,b1,hv,a3]
      exact⟨rfl,Le.N1 ho rfl (by simp) rfl rfl (by simp<;>exact Aw (by rw[Qp];simp))⟩
     refine AE _ rfl (λ h4=>?_) λ h4=>AJ ?_
     .rw [Qd] at h4
      have hw:W.getLast? ≠ some x:=λ h=>by rw[h1] at h;exact h4 (Qf h).symm
      rw[hf,RA hw];have h7:W.length<n:=by omega
      refine arc ⟨61,[(0,.rs 0 0 n),(3,.I W.length),(4,.rs 0 q (n - q)),(5,.I r)],[(0,some ⟨1,DI (cX z (W++[x])),0⟩)],480⟩ ?_ ?_
      .have b2:=hu W.length h7 (Qk _)
       simp[a5,hv,b2,h7,am,Ay];exact Le.keep rfl (by simp) (by simp) (by simp)
      refine Ac rfl ?_;simp[av];exact Le.N1 (JJ _) rfl (by simp) rfl rfl (by simp)
     .rw [Qa] at h4
      have b3:x=y:=Decidable.not_not.1 h4;rw[hf,YJ (by rw[h1,b3]),<- hY]
      exact Le.N1 ho rfl (by simp) rfl rfl (by simp)
    refine Ac rfl ?_;simp[a4];refine⟨r,⟨by omega,?_⟩,by omega,Le.N1 (JJ _) rfl (by simp) rfl rfl (by simp)⟩
    rw[hf];have:=WS W x;omega
   simp only[Qa] at h3;have b4:q+r=n:=by omega
   have b5:W=Bt z:=by rw[hW,b4,Qb (by omega)]
   rw[<- b5] at a6 ⊢;have h7:W.length<=n:=by omega
   have b6:W.length+(n - W.length)=n:=by omega
   refine arc ⟨61,[(0,.rs 0 0 n),(3,.I W.length)],[(0,some ⟨1,DI W++List.replicate (n - W.length) [.I 0],0⟩)],700⟩ ?_ ?_
   .simp [h7,b6,a2,an]
    exact Le.N1 (X:=DI W++List.replicate (n - W.length) [.I 0]) (by simp[AB]) rfl (by simp) rfl (by simp[a2]) (by simp)
   refine AC (Ag (s:=?s9) rfl ?o9 ?q9)
   case o9=>simp[h7];rfl
   exact A9 (AS.k1 rfl (by simp) (by simp[AB]))
  .have hw:(z.take q).getLast? ≠ some b:=λ h=>by rw[hh] at h;exact he (Qf h).symm
   rw[RA hw] at h0;have bf:(b == a)=false:=by simpa using he
   refine Ao ⟨61,[(0,.rs 0 0 n),(3,.I q)],[(0,some ⟨1,DI z,0⟩)],168⟩ ?_ ?_
   .refine AL (CW ⟨61,[(0,.rs 0 0 n),(3,.I q),(25,.B false)],[(0,some ⟨1,DI z,0⟩)],168⟩ ?_ ?_)
    .simp [a0,h2,hz,hc,h9,bf]
     exact⟨rfl,Le.keep rfl (by simp) (by simp) (by simp)⟩
    refine AE _ rfl (λ h=>by cases h) λ _=>AJ ?_
    exact Le.keep rfl (by simp) (by simp) (by simp)
   refine Ac rfl ?_;simp[a7];refine⟨k+1,⟨by omega,?_⟩,by omega,Le.N1 (JJ z) rfl (by simp) rfl rfl (by simp)⟩
   rw[<- hq,h0,Qm (by omega),<- hb]
 simp only[Qa] at h2;have bo:q=n:=by omega
 rw[bo,Qb (by omega)] at h6
 refine AC (AX ?_);refine BG ?_;rw[<- h5 h6,h6,hn];exact⟨.inr rfl,AS.k1 rfl (by simp) (by simp[AB])⟩
variable {E:Nat->List (List AV)} {L:List Nat} {N a j k m np o s:Nat} {st st':St} {α:Type}
def ER (s N:Nat) (E:Nat->List (List AV)):List (Nat × Option AQ):=(List.range N).map λ k=>(k+1000,some ⟨s,E k,0⟩)
def Ch (E:Nat->List (List AV)) (k:Nat):AV:=.rs (k+1000) 0 (E k).length
def A8 (N:Nat) (E:Nat->List (List AV)):List (List AV):=(List.range N).map λ k=>[Ch E k]
theorem JY (N:Nat) (E:Nat->List (List AV)):(A8 N E).length=N:=by simp[A8]
theorem Ho (h:k<N):(A8 N E)[k]? = some [Ch E k]:=by simp[A8,h]
@[simp] theorem yC (h:k<(A8 N E).length):(A8 N E)[k]=[Ch E k]:=by simp[A8]
theorem IY {α β:Type} {f:α->β} (hf:∀ i j,f i=f j->i=j):∀ {l:List α},l.Nodup->(l.map f).Nodup
 | [],_=>List.nodup_nil
 | x::l,h=>by
   rw[Q7] at h;rw[Qo,Q7];refine⟨λ hx=>?_,IY hf h.2⟩;obtain⟨y,hy,e⟩:=Qi.1 hx;exact h.1 (hf _ _ e ▸ hy)
theorem Jk (f:Nat->Nat) (hf:∀ i j,f i=f j->i=j) (g:Nat->α) (l:List Nat) (k:Nat):AW (l.map λ k=>(f k,g k)) (f k)=if k∈l then some (g k) else none:=by
 induction l with
 | nil=>simp
 | cons i l ih =>
   simp only[Qo,AW]
   by_cases h:i=k
   .subst h;simp
   .have h1:f i≠f k:=λ e=>h (hf _ _ e)
    have h2:¬ k=i:=λ e=>h e.symm;simp[h1,ih,h2]
theorem rF (f:Nat->Nat) (g:Nat->α) (l:List Nat) (j:Nat) (h:∀ k∈l,f k≠j):AW (l.map λ k=>(f k,g k)) j=none:=by
 induction l with
 | nil=>simp
 | cons i l ih =>
   simp only[Qo,AW];rw[if_neg (h i (by simp)),ih λ k hk=>h k (by simp[hk])]
theorem jG {r:List (Nat × Option AQ)} (h:k<N):AW (ER s N E++r) (k+1000)=some (some ⟨s,E k,0⟩):=by
 rw[LX,ER,Jk (λ k=>k+1000) (λ i j h=>by simpa using h)]
 simp[h]
theorem XI {r:List (Nat × Option AQ)} (h:j<1000∨1000+N<=j):AW (ER s N E++r) j=AW r j:=by
 rw[LX,ER,rF (λ k=>k+1000) _ _ _ (λ k hk e=>by have:=Qy.1 hk;omega)]
 simp
section
variable {sz n s N:Nat} {t:List (Nat × AV)} {E:Nat->List (List AV)} {r:List (Nat × Option AQ)}
theorem Ws (h:k<N):(⟨sz,t,ER s N E++r,n⟩:St).hp (k+1000)=some ⟨s,E k,0⟩:=by
 show (AW _ _).getD none=_;rw[jG h];rfl
theorem JG (h:j<1000):(⟨sz,t,ER s N E++r,n⟩:St).hp j=(⟨sz,t,r,n⟩:St).hp j:=by
 show (AW _ _).getD none=(AW _ _).getD none;rw[XI (.inl h)]
theorem SD (h:1000+N<=j):(⟨sz,t,ER s N E++r,n⟩:St).hp j=(⟨sz,t,r,n⟩:St).hp j:=by
 show (AW _ _).getD none=(AW _ _).getD none;rw[XI (.inr h)]
end
def Bv (m a N:Nat) (L:List Nat):List (Nat × Nat):=(m,a+1000)::(L++((List.range N).filter (· ≠ a)).map (· + 1000)).map λ j=>(j,j)
theorem kH (hL:L.Nodup) (h1:∀ j∈L,j<1000) (hm:m∉L) (h0:m<1000∨1000+N<=m):((Bv m a N L).map (·.1)).Nodup:=by
 simp only[Bv,Qo,List.map_map,AB,List.map_id',Q7,Qq,Qi,Qx,Qy];refine⟨?_,?_⟩
 .rintro (h | ⟨k,⟨h,_⟩,e⟩)
  .exact hm h
  .omega
 .refine Uh.2 ⟨hL,?_,?_⟩
  .exact IY (λ i j h=>by simpa using h) (List.nodup_range.filter _)
  .intro x hx y hy e
   simp only[Qi] at hy;obtain⟨k,_,e2⟩:=hy;have:=h1 x hx;omega
theorem xA (hL:L.Nodup) (h1:∀ j∈L,j<1000):((Bv m a N L).map (·.2)).Nodup:=by
 simp only[Bv,Qo,List.map_map,AB,List.map_id',Q7,Qq,Qi,Qx,Qy];refine⟨?_,?_⟩
 .rintro (h | ⟨k,⟨_,h⟩,e⟩)
  .have:=h1 _ h;omega
  .simp at h;omega
 .refine Uh.2 ⟨hL,?_,?_⟩
  .exact IY (λ i j h=>by simpa using h) (List.nodup_range.filter _)
  .intro x hx y hy e
   simp only[Qi] at hy;obtain⟨k,_,e2⟩:=hy;have:=h1 x hx;omega
theorem ZT:AW (Bv m a N L) m=some (a+1000):=by simp[Bv]
theorem Jd (hm:m≠j) (h:j∈L ∨ ∃ k<N,k≠a/\j=k+1000):AW (Bv m a N L) j=some j:=by
 rw[Bv,AW,if_neg hm,Jk (λ j=>j) (λ i j h=>h) (λ j=>j),if_pos];rcases h with h | ⟨k,h1,h2,rfl⟩
 .simp [h]
 .simp [h1,h2]
def grow {α:Type} (E:Nat->List α) (a:Nat) (r:α):Nat->List α:=λ k=>if k=a then E a++[r] else E k
theorem HX (f:AV->AV) (hf:∀ v,f (.sc v) = .sc v) (rows:List (List AV)) (hr:∀ r∈rows,∀ x∈r,∃ v,x = .sc v):rows.map (·.map f)=rows:=by
 conv=>rhs;rw[<- List.map_id rows]
 refine QF λ r h0=>?_
 conv=>rhs;rw[id,<- List.map_id r]
 refine QF λ x hx=>?_;obtain⟨v,rfl⟩:=hr r h0 x hx;exact hf v
theorem b7 {row:List AV} {h:Nat->Option AQ} {len:Nat} (ha:a<N) (hm:m<1000∨1000+N<=m) (h3:len=(E a).length+1) :
  ((A8 N E).set a [.rs m 0 len]).map (·.map (conv (Bv m a N L) [] h 4))=A8 N (grow E a row):=by
 apply Vd;intro j;rw[QA,U3,JY]
 by_cases hj:a=j
 .subst hj
  rw[if_pos rfl,if_pos ha,Ho ha];simp[ZT,Ch,grow,h3]
 .rw [if_neg hj]
  by_cases h0:j<N
  .rw [Ho h0,Ho h0]
   have h1:AW (Bv m a N L) (j+1000)=some (j+1000):=Jd (by omega) (.inr ⟨j,h0,λ e=>hj e.symm,rfl⟩)
   have h2:j≠a:=λ e=>hj e.symm;simp[Ch,h1,grow,h2]
  .simp [A8,h0]
theorem Le.fam {row:List AV} (L:List Nat) (h7:st'.sz=st.sz) (ha:a<N) (hL:L.Nodup) (h1:∀ j∈L,j<1000) (h9:1000+N<=m) (hn:1000+N<=st'.n) (hf:np<=1000) (hE:∀ k<N,∀ r∈E k,∀ x∈r,∃ v,x = .sc v) (h4:∀ x∈row,∃ v,x = .sc v) (hc:∀ k<N,k≠a->st.hp (k+1000)=some ⟨s,E k,0⟩) (hd:st.hp m=some ⟨s,E a++[row],0⟩) (h5:∀ k<N,st'.hp (k+1000)=some ⟨s,grow E a row k,0⟩) (h6:∀ j,j∉L->(j<1000∨1000+N<=j)->st'.hp j=none) (ht:∀ p∈st'.t,Wk (conv (Bv m a N L) [] st.hp 4 (st.get p.1)) p.2) (hb:∀ j∈L,∀ e',st'.hp j=some e' -> ∃ e,st.hp j=some e/\Am [] (Ab (Bv m a N L) [] st.hp 4 e) e'):Le np st st':=by
 have hm:m∉L:=λ h=>by have:=h1 m h;omega
 refine Le.mk (Bv m a N L) [] [] h7 (kH hL h1 hm (.inr h9)) (xA hL h1) ?_ (by simp) (by simp) (by omega) (by simp) (λ i=>?_) ?_
 .intro p hp
  simp only[Bv,Qs,Qi,Qq,Qx,Qy] at hp;rcases hp with rfl | ⟨j,h | ⟨k,⟨h2,_⟩,rfl⟩,rfl⟩
  .exact ⟨by simp only;omega,λ h=>by simp only at h;omega⟩
  .have:=h1 j h
   exact⟨by simp only;omega,λ _=>rfl⟩
  .exact ⟨by simp only;omega,λ _=>rfl⟩
 .unfold St.get at *
  cases hl:AW st'.t i with
  | none=>exact .inl (.dead _)
  | some v=>exact .inl (ht _ (D1 hl))
 .intro j e' he
  left
  by_cases hj:j∈L
  .obtain ⟨e,h2,h3⟩:=hb j hj e' he
   refine⟨j,e,?_,h2,h3⟩;simp only[Bv,Qs,Qi,Qq];exact .inr ⟨j,.inl hj,rfl⟩
  .by_cases hr:j<1000∨1000+N<=j
   .rw [h6 j hj hr] at he;cases he
   .obtain ⟨k,rfl⟩:∃ k,j=k+1000:=⟨j - 1000,by omega⟩
    have hk:k<N:=by omega
    rw[h5 k hk] at he
    cases he
    by_cases h0:k=a
    .subst h0
     rw[show grow E k row k=E k++[row] from if_pos rfl]
     refine⟨m,_,by simp[Bv],hd,?_⟩
     have:Ab (Bv m k N L) [] st.hp 4 ⟨s,E k++[row],0⟩=⟨s,E k++[row],0⟩:=by
      simp only[Ab];rw[HX _ λ v=>by simp[conv]]
      intro r hr x hx;rcases Qq.1 hr with h | h
      .exact hE k hk r h x hx
      .rw [QC.1 h] at hx;exact h4 x hx
     rw[this];exact Am.rfl' (Qh _)
    .simp only[grow,if_neg h0]
     refine⟨k+1000,_,?_,hc k hk h0,?_⟩
     .simp only[Bv,Qs,Qi,Qq,Qx,Qy]
      exact .inr ⟨k+1000,.inr ⟨k,⟨hk,by simpa using h0⟩,rfl⟩,rfl⟩
     .have:Ab (Bv m a N L) [] st.hp 4 ⟨s,E k,0⟩=⟨s,E k,0⟩:=by
       simp only[Ab];rw[HX _ (λ v=>by simp[conv]) _ (hE k hk)]
      rw[this];exact Am.rfl' (Qh _)
theorem Le.fam0 (L:List Nat) (h9:st'.sz=st.sz) (hs:s≠0) (hL:(o::L).Nodup) (h1:∀ j∈o::L,j<1000/\np<=1000) (hn:1000+N<=st'.n) (ho:st.hp o=some ⟨1,(List.range N).map λ _=>[.nilS],0⟩) (ha:st'.hp o=some ⟨1,A8 N λ _=>[],0⟩) (h5:∀ k<N,st'.hp (k+1000)=some ⟨s,[],0⟩) (h6:∀ j,j∉o::L->(j<1000∨1000+N<=j)->st'.hp j=none) (ht:∀ p∈st'.t,Wk (conv ((o::L).map λ j=>(j,j)) [] st.hp 4 (st.get p.1)) p.2) (hb:∀ j∈L,∀ e',st'.hp j=some e' -> ∃ e,st.hp j=some e/\Am [] (Ab ((o::L).map λ j=>(j,j)) [] st.hp 4 e) e'):Le np st st':=by
 have h4:∀ p,p∈(List.range N).map (λ k=>(k+1000,s)) ↔ ∃ k<N,p=(k+1000,s):=λ p=>by
  rw[Qi];exact⟨λ ⟨k,h,e⟩=>⟨k,Qy.1 h,e.symm⟩,λ ⟨k,h,e⟩=>⟨k,Qy.2 h,e.symm⟩⟩
 have hid:((o::L).map λ j=>(j,j)).map (·.1)=o::L:=by simp[AB]
 have h0:((o::L).map λ j=>(j,j)).map (·.2)=o::L:=by simp[AB]
 refine Le.mk ((o::L).map λ j=>(j,j)) [] ((List.range N).map λ k=>(k+1000,s)) h9 (by rw[hid];exact hL) (by rw[h0];exact hL) ?_ ?_ (by simp) (by have:=h1 o (by simp);omega) ?_ (λ i=>?_) ?_
 .intro p hp
  obtain⟨j,hj,rfl⟩:=Qi.1 hp;have:=h1 j hj;exact⟨by simp only;omega,λ _=>rfl⟩
 .intro p hp
  obtain⟨k,hk,rfl⟩:=(h4 p).1 hp;have:=h1 o (by simp)
  refine⟨by simp only;omega,by simp only;omega,?_,hs⟩
  rw[h0];intro h;have:=h1 _ h;omega
 .rw [List.map_map]
  exact IY (λ i j h=>by simpa using h) List.nodup_range
 .unfold St.get at *
  cases hl:AW st'.t i with
  | none=>exact .inl (.dead _)
  | some v=>exact .inl (ht _ (D1 hl))
 .intro j e' he
  by_cases h7:j=o
  .subst h7
   left
   rw[ha] at he
   cases he;refine⟨j,_,by simp,ho,rfl,Qk _,Qh _,.inr ⟨by simp[Ab],by simp[Ab,A8],λ i=>?_⟩⟩
   by_cases hi:i<N
   .simp only[Ab,List.map_map,AB,Qo,UE,Qe,QA,List.getElem?_range hi,Q8,QB,A8,Ch,UP]
    exact⟨.inr ⟨by simp[conv],i+1000,s,rfl,(h4 _).2 ⟨i,hi,rfl⟩⟩,trivial⟩
   .simp [Ab,A8,Qe,hi,Eg]
  .by_cases hj:j∈L
   .left
    obtain⟨e,h2,h3⟩:=hb j hj e' he;refine⟨j,e,by simp[hj],h2,h3.1,h3.2.1,h3.2.2.1,?_⟩
    rcases h3.2.2.2 with h | ⟨q1,q2,q3⟩
    .exact .inl h
    .refine .inr ⟨q1,q2,λ i=>?_⟩
     have key:∀ {xs ys:List AV},Eg [] xs ys->Eg ((List.range N).map λ k=>(k+1000,s)) xs ys:=by
      intro xs
      induction xs with
      | nil=>intro ys h;cases ys<;>exact h
      | cons x xs ih =>
        intro ys h
        cases ys with
        | nil=>exact h
        | cons y ys =>
          refine⟨?_,ih h.2⟩;rcases h.1 with h | ⟨_,_,_,_,h⟩
          .exact .inl h
          .simp at h
     exact key (q3 i)
   .by_cases hr:j<1000∨1000+N<=j
    .rw [h6 j (by simp[h7,hj]) hr] at he;cases he
    .obtain ⟨k,rfl⟩:∃ k,j=k+1000:=⟨j - 1000,by omega⟩
     have hk:k<N:=by omega
     rw[h5 k hk] at he
     cases he;exact .inr ⟨(h4 _).2 ⟨k,hk,rfl⟩,rfl,rfl⟩
def Cn (N:Nat):List Nat:=(List.range N).map (· + 1000)
theorem Ee:j∈Cn N↔1000<=j/\j<1000+N:=by
 simp only[Cn,Qi,Qy];exact⟨λ ⟨k,h,e⟩=>by omega,λ h=>⟨j - 1000,by omega,by omega⟩⟩
theorem sH {ρ:List (Nat × Nat)} {sn:List Nat} {hp:Nat->Option AQ} (hE:∀ k<N,∀ r∈E k,∀ x∈r,∃ v,x = .sc v) (hρ:AW ρ o=none) (h0:o∈sn) (hf:∀ k<N,k+1000∈sn) (ho:hp o=some ⟨1,A8 N E,0⟩) (hh:∀ k<N,hp (k+1000)=some ⟨s,E k,0⟩) :
  conv ρ sn hp 4 (.rs o 0 N) = .vs 1 false ((List.range N).map λ k=>[.vs s false (E k)]):=by
 simp only[conv,hρ,h0,UY,ho,JY,Q1,Qk,List.drop_zero]
 rw[Qb (by rw[JY];exact Qk _),A8,List.map_map]
 congr 1
 refine QF λ k hk=>?_;have hk:=Qy.1 hk;simp only[AB,Qo,UE,Ch,AW,hf k hk,UY,hh k hk,Q1,Qk,List.drop_zero,QO];rw[HX _ (λ v=>by simp) _ (hE k hk)]
theorem Le.famOut (h5:st'.sz=st.sz) (hL:L.Nodup) (h1:∀ j∈L,j<1000) (h6:o∉L) (hn:1000<=st'.n) (h7:np<=o) (h9:np<=1000) (h0:∀ j,j∉L->st'.hp j=none) (ht:∀ p∈st'.t,Wk (conv (L.map λ j=>(j,j)) (o::Cn N) st.hp 4 (st.get p.1)) p.2) (hb:∀ j∈L,∀ e',st'.hp j=some e' -> ∃ e,st.hp j=some e/\Am [] (Ab (L.map λ j=>(j,j)) (o::Cn N) st.hp 4 e) e'):Le np st st':=by
 have hid:(L.map λ j=>(j,j)).map (·.1)=L:=by simp[AB]
 have h4:(L.map λ j=>(j,j)).map (·.2)=L:=by simp[AB]
 refine Le.mk (L.map λ j=>(j,j)) (o::Cn N) [] h5 (by rw[hid];exact hL) (by rw[h4];exact hL) ?_ (by simp) ?_ (by omega) (by simp) (λ i=>?_) ?_
 .intro p hp
  obtain⟨j,hj,rfl⟩:=Qi.1 hp;have:=h1 j hj;exact⟨by simp only;omega,λ _=>rfl⟩
 .intro i hi
  rw[hid];rcases Qs.1 hi with rfl | hi
  .exact ⟨h7,h6⟩
  .have:=Ee.1 hi
   exact⟨by omega,λ h=>by have:=h1 i h;omega⟩
 .unfold St.get at *
  cases hl:AW st'.t i with
  | none=>exact .inl (.dead _)
  | some v=>exact .inl (ht _ (D1 hl))
 .intro j e' he
  left
  by_cases hj:j∈L
  .obtain ⟨e,h2,h3⟩:=hb j hj e' he
   exact⟨j,e,by simp[hj],h2,h3⟩
  .rw [h0 j hj] at he;cases he
def J6 (s:Ba):AV:=.agg [.I s.1,.sc (.bool s.2)]
open Classical in
def Bg (D b:List Int):Int->Option AV:=λ x=>if x∈D then some (if x=0 then .agg [.I (-1),.sc (.bool false)] else J6 (Gq (b.getD x.toNat 0))) else none
theorem YZ (b:List Int):Bg [0] b=λ x=>if x=0 then some (.agg [.I (-1),.sc (.bool false)]) else none:=by
 funext x
 by_cases h:x=0<;>simp[Bg,h]
theorem uS {N:Nat} {A:List Ed} {f D b:List Int} (h:DA N A f D b) {s:Ba} (hT:Ax A s∉D) (h0:0<=Ax A s) (h1:Ax A s<N) :
  Bg (D++[Ax A s]) (b.set (Ax A s).toNat (CT s))=λ x=>if x=Ax A s then some (J6 s) else Bg D b x:=by
 have hb:(Ax A s).toNat<b.length:=by rw[h.len];omega
 have h2:Ax A s≠0:=λ e=>hT (e ▸ h.mem0)
 funext x
 by_cases hx:x=Ax A s
 .subst hx
  simp only[Bg,Qq,QC,or_true,UY,if_neg h2];rw[Qe,List.getElem?_set_self hb,QB,zst]
 .simp only[Bg,Qq,QC,hx,or_false,Ux]
  by_cases hD:x∈D
  .have hr:=h.rng x hD
   rw[if_pos hD,if_pos hD,Qe,List.getElem?_set_ne (by omega),Qe]
  .rw [if_neg hD,if_neg hD]
theorem Pq (D b:List Int) (x:Int):(Bg D b x).isSome=decide (x∈D):=by
 by_cases h:x∈D<;>simp[Bg,h]
variable {g:Gr} {S:List Int} {key:Int}
abbrev He (l:List Bool):List (List AV):=l.map λ b=>[AV.B b]
variable {g:Gr} {S:List Int} {key:Int}
variable {m:Nat}
section
variable {P:Program} {np id:Nat} {h:Nat->Option AQ} {K:AV->List Nat->List (Nat × Option AQ)->Prop}
theorem O7 {s i off len:Nat} (l:Nat) {e:AQ} (he:h i=some e) (hs:e.s=s) (hl:l<=len) (hK:K (.rs i (off+l) (len - l)) [i] []):aK P np id (.slc s true false false) [.rs i off len,.sc (.int .i64 l)] h K:=by
 rw[GA];exact⟨l,len,0,len,rfl,hl,rfl,by simp,by simp,by simp,Qk _,rfl,⟨e,he,hs⟩,hK⟩
theorem pT {s i off len:Nat} (r:Nat) {e:AQ} (he:h i=some e) (hs:e.s=s) (hr:r<=len) (hK:K (.rs i off r) [i] []):aK P np id (.slc s false true false) [.rs i off len,.sc (.int .i64 r)] h K:=by
 rw[GA];exact⟨0,r,0,len,rfl,Qh _,rfl,by simp,by simp,by simp,hr,rfl,⟨e,he,hs⟩,hK⟩
end
structure JC where
 D:List Int
 b:List Int
 Z:List Int
 off:Nat
 q:Nat
variable {s:JC}
structure Df (N:Nat) (A:List Ed) (f:List Int) (s:JC) (m:Nat):Prop where
 bfs:DA N A f s.D s.b
 z:s.off+s.q=s.Z.length
 d:m+s.q=s.D.length
 same:s.Z.drop s.off=s.D.drop m
section
variable {N:Nat} {A:List Ed} {f:List Int}
theorem aX {i:Nat} {k:Int} {D b:List Int} (hi:i<A.length) (hf:i<f.length):DD A f k (i,false) (D,b)=if A[i].f=k/\f[i]<A[i].v/\A[i].t∉D then (D++[A[i].t],b.set A[i].t.toNat ((i:Int)+1)) else (D,b):=by
 have he:AP A i=A[i]:=by unfold AP;rw[Qe,Qc hi,QB]
 have hg:f.getD i 0=f[i]:=by rw[Qe,Qc hf,QB]
 unfold DD Cb Ax B6 CT;simp only[Ud,Ux,he,hg,Int.sub_pos]
theorem rG {i:Nat} {k:Int} {D b:List Int} (hi:i<A.length) (hf:i<f.length):DD A f k (i,true) (D,b)=if A[i].t=k/\0<f[i]/\A[i].f∉D then (D++[A[i].f],b.set A[i].f.toNat (-((i:Int)+1))) else (D,b):=by
 have he:AP A i=A[i]:=by unfold AP;rw[Qe,Qc hi,QB]
 have hg:f.getD i 0=f[i]:=by rw[Qe,Qc hf,QB]
 unfold DD Cb Ax B6 CT;simp only[UY,he,hg]
theorem Df.more (h:Df N A f s m) {x:Int} {b':List Int} (hb:DA N A f (s.D++[x]) b'):Df N A f ⟨s.D++[x],b',s.Z.drop s.off++[x],0,s.q+1⟩ m:=by
 have h1:=h.z;have h2:=h.d;refine⟨hb,?_,?_,?_⟩
 .simp only[Qg,UQ,Q3];omega
 .simp only[Qg,Q3];omega
 .simp only[List.drop_zero]
  rw[h.same,List.drop_append_of_le_length (by omega)]
theorem Df.pop (h:Df N A f s m) (hq:0<s.q):Df N A f { s with off:=s.off+1,q:=s.q - 1 } (m+1):=by
 have h1:=h.z;have h2:=h.d;refine⟨h.bfs,by simp only;omega,by simp only;omega,?_⟩
 simp only;rw[<- List.drop_drop,h.same,List.drop_drop]
theorem Df.head (h:Df N A f s m) (hq:0<s.q):∃ hm:m<s.D.length,s.Z[s.off]? = some s.D[m]:=by
 have h1:=h.z;have h2:=h.d;refine⟨by omega,?_⟩
 have e:(s.Z.drop s.off)[0]? = (s.D.drop m)[0]?:=by rw[h.same]
 rw[Q9,Q9,Ua,Ua] at e;rw[e,Qc (by omega)]
end
theorem Xu (N:Nat) (A:List Ed) (f:List Int) (hn:Cu ⟨N,A⟩) (hf:f.length=A.length) :
  ∃ x:List Int × List Int,(DA N A f x.1 x.2/\Hv A f x.1)/\AcP 116 [eN ⟨N,A⟩,AA f] [] (.rs 0 0 N) [some ⟨1,AD x.2,0⟩]:=by
 refine Zp.s.acallsX (args:=[eN ⟨N,A⟩,AA f]) (hs:=[]) (λ x=>.rs 0 0 N) (λ x=>[some ⟨1,AD x.2,0⟩]) (λ x:List Int × List Int=>DA N A f x.1 x.2/\Hv A f x.1) (CL rfl) (CL rfl) (λ _=>by simp) ?_
 show A2 _ 0 _ _ ⟨112,[(0,eN ⟨N,A⟩),(1,AA f)],[],16⟩;obtain⟨am,an,au,a8⟩:=hn;simp only at am an au a8;refine rs [1,2] [] [16] ?_;apply ax [1,2,5] [(48,48)] [] 56
 .simp
  refine⟨by omega,by omega,?_⟩
  rfl
 apply ax [1,2,5,6] [(48,48),(72,80)] [] 88
 .simp
  refine⟨by omega,?_⟩
  rfl
 have av:=lQ (N:=N) (by omega)
 refine arc ⟨112,[(1,AA f),(2,.pv (nC ⟨N,A⟩)),(5,.rs 48 0 N),(6,.rs 80 0 N)],[(48,some ⟨1,AD (List.replicate N 0),0⟩),(80,some ⟨1,He (EE N [0]),0⟩)],112⟩ ?_ ?_
 .have h0:0<N:=by omega
  simp[h0,Ay];exact AF [(48,48),(80,80)] [] (by simp) (by simp[<- av])
 refine Dw ⟨112,[(1,AA f),(2,.pv (nC ⟨N,A⟩)),(5,.rs 48 0 N),(6,.rs 80 0 N),(7,.rs 120 0 1)],[(48,some ⟨1,AD (List.replicate N 0),0⟩),(80,some ⟨1,He (EE N [0]),0⟩),(120,some ⟨1,AD [0],0⟩)],136⟩ [(48,48),(80,80),(112,120)] [] ?_;refine AC (AL ?_)
 refine Ae (ι:=JC × Nat) (λ s=>⟨112,[(1,AA f),(2,.pv (nC ⟨N,A⟩)),(5,.rs 48 0 N),(6,.rs 80 0 N),(7,.rs 120 s.1.off s.1.q)],[(48,some ⟨1,AD s.1.b,0⟩),(80,some ⟨1,He (EE N s.1.D),0⟩),(120,some ⟨1,AD s.1.Z,0⟩)],136⟩)
  (λ s=>Df N A f s.1 s.2/\Hy A f s.1.D s.2) (λ s=>N - s.2) (⟨[0],List.replicate N 0,[0],0,1⟩,0)
  ⟨⟨DA.start (by omega),rfl,rfl,rfl⟩,λ s _ h=>by simp at h⟩ (Bk [(48,48),(80,80),(120,120)] []) ?_
 rintro⟨s,m⟩ ⟨hb,hq⟩
 simp only at hb hq;have bs:=hb.bfs.few;have c0:=hb.d;have c1:=hb.z;refine AC (rk (s:=?s6) [1,2,5,6,7,22] [48,80,120] rfl ?o6 ?q6)
 case o6=>simp;rfl
 refine AE _ rfl (λ h7=>?_) λ h7=>?_
 .simp at h7
  obtain⟨hx,hk⟩:=hb.head h7;have bt:s.off<s.Z.length:=by omega
  obtain⟨k,a4⟩:=AG (s.D[m]);rw[<- a4] at hk;have b1:k∈s.D:=a4 ▸ Qj hx;refine AJ (AL (rk (s:=?s8) [1,2,5,6,7,8] [48,80,120] rfl ?o8 ?q8))
  case o8=>simp[hk,h7];rfl
  apply ax [1,2,5,6,7,8] [(48,48),(80,80),(120,120)] [] 300
  .simp
   refine O7 1 (i:=120) rfl rfl h7 ?_;simp;rfl
  have a9:=hb.pop h7;refine rk (s:=?s10) [1,2,5,6,7,8,9] [48,80,120] rfl ?o10 ?q10
  case o10=>simp;rfl
  refine AL ?_
  refine Ae (ι:=JC × Nat) (λ s=>⟨112,[(1,AA f),(2,.pv (nC ⟨N,A⟩)),(5,.rs 48 0 N),(6,.rs 80 0 N),(7,.rs 120 s.1.off s.1.q),(8,.I k),(9,.I s.2)],[(48,some ⟨1,AD s.1.b,0⟩),(80,some ⟨1,He (EE N s.1.D),0⟩),(120,some ⟨1,AD s.1.Z,0⟩)],400⟩)
   (λ t=>Df N A f t.1 (m+1)/\t.2<=A.length/\IP A f t.1.D k t.2 /\ ∃ l,t.1.D=s.D++l) (λ t=>A.length - t.2) ({ s with off:=s.off+1,q:=s.q - 1 },0)
   ⟨a9,Qh _,λ s h=>by omega,[],by simp⟩ (Bk [(48,48),(80,80),(120,120)] []) ?_
  rintro⟨t,i⟩ ⟨ht,hi,hz,l,a0⟩
  simp only at ht hi hz a0;refine AC (rk (s:=?s11) [1,2,5,6,7,8,9,32] [48,80,120] rfl ?o11 ?q11)
  case o11=>simp;rfl
  refine AE _ rfl (λ h2=>?_) λ h2=>?_
  .simp at h2
   have h9:i<f.length:=by omega
   have hw:=w6 (x:=(i:Int)+1);have b2:=w6 (x:=-((i:Int)+1));obtain⟨e,he⟩:=AG (A[i]);obtain⟨v,hv⟩:=AG (f[i]);have hd:=λ (D b:List Int)=>aX (k:=k) (D:=D) (b:=b) h2 h9;have a3:=λ (D b:List Int)=>rG (k:=k) (D:=D) (b:=b) h2 h9;rw[<- he,<- hv] at hd a3;have ad:=a8 _ (Qj h2);rw[<- he] at ad;obtain⟨e1,e2,e3,e4,_⟩:=ad;have a1:A[i]? = some e:=by rw[Qc h2,he]
   have a2:f[i]? = some v:=by rw[Qc h9,hv]
   have ag:k∈t.D:=by rw[a0];exact Q0 _ b1
   refine AJ ?_
   refine FO (ι:=JC) (λ u=>⟨112,[(1,AA f),(2,.pv (nC ⟨N,A⟩)),(5,.rs 48 0 N),(6,.rs 80 0 N),(7,.rs 120 u.off u.q),(8,.I k),(9,.I i)],[(48,some ⟨1,AD u.b,0⟩),(80,some ⟨1,He (EE N u.D),0⟩),(120,some ⟨1,AD u.Z,0⟩)],2000⟩)
    (λ u=>Df N A f u (m+1)/\IP A f u.D k (i+1) /\ ∃ l,u.D=t.D++l) ?_ λ u hu=>?_
   .refine AL (arc ⟨112,[(1,AA f),(2,.pv (nC ⟨N,A⟩)),(5,.rs 48 0 N),(6,.rs 80 0 N),(7,.rs 120 t.off t.q),(8,.I k),(9,.I i),(10,.pv (eC e))],[(48,some ⟨1,AD t.b,0⟩),(80,some ⟨1,He (EE N t.D),0⟩),(120,some ⟨1,AD t.Z,0⟩)],600⟩ ?_ ?_)
    .simp [h2,<- he]
     exact Bk [(48,48),(80,80),(120,120)] [480]
    refine FO (ι:=JC) (λ u=>⟨112,[(1,AA f),(2,.pv (nC ⟨N,A⟩)),(5,.rs 48 0 N),(6,.rs 80 0 N),(7,.rs 120 u.off u.q),(8,.I k),(9,.I i),(10,.pv (eC e))],[(48,some ⟨1,AD u.b,0⟩),(80,some ⟨1,He (EE N u.D),0⟩),(120,some ⟨1,AD u.Z,0⟩)],1000⟩)
     (λ u=>Df N A f u (m+1)/\(u.D,u.b)=DD A f k (i,false) (t.D,t.b)) ?_ λ u hu=>?_
    .have h4:(EE N t.D)[e.t.toNat]? = some (decide (e.t∈t.D)):=MS e3 (by omega)
     have b3:e.t.toNat<N:=by omega
     have h1:e.t<(N:Int):=by omega
     refine CW ⟨112,[(1,AA f),(2,.pv (nC ⟨N,A⟩)),(5,.rs 48 0 N),(6,.rs 80 0 N),(7,.rs 120 t.off t.q),(8,.I k),(9,.I i),(10,.pv (eC e)),(60,.B (decide (e.f=k/\v<e.v/\e.t∉t.D)))],[(48,some ⟨1,AD t.b,0⟩),(80,some ⟨1,He (EE N t.D),0⟩),(120,some ⟨1,AD t.Z,0⟩)],800⟩ ?_ ?_
     .by_cases hm:e.t∈t.D
      .rw [UK hm] at h4
       simp
       repeat' first
        | (refine Dd (λ hb=>?_) (λ hb=>?_)<;>(try rw[hb])<;>(try simp at hb)<;>simp[hb,h4,a2,e3,h1,h9,<- hv])
       all_goals exact⟨rfl,AF [(48,48),(80,80),(120,120)] [] (by simp[hb,hm])⟩
      .rw [UI hm] at h4
       simp
       repeat' first
        | (refine Dd (λ hb=>?_) (λ hb=>?_)<;>(try rw[hb])<;>(try simp at hb)<;>simp[hb,h4,a2,e3,h1,h9,<- hv])
       all_goals exact⟨rfl,AF [(48,48),(80,80),(120,120)] [] (by simp[hm])⟩
     refine AE _ rfl (λ h5=>?_) λ h5=>?_
     .rw [Qd] at h5
      have hc:=hd t.D t.b;rw[if_pos h5] at hc;have b4:∃ y,t.b[e.t.toNat]? = some y:=⟨_,Qc (by rw[ht.bfs.len];omega)⟩
      obtain⟨y,hy⟩:=b4;have c2:e.t.toNat<t.b.length:=by rw[ht.bfs.len];omega
      have a5:∀ g:Int->List AV,List.take t.q (List.drop t.off (List.map g t.Z))=List.map g (t.Z.drop t.off):=λ g=>by rw[<- Vb,Qb (by have:=ht.z;simp;omega)]
      have b5:=ht.z;have b6:=ht.d;have a6:=PP (D:=t.D) e3 h1
      have hh:DA N A f (t.D++[e.t]) (t.b.set e.t.toNat ((i:Int)+1)):=by
       have h3:=Sp (A:=A) (f:=f) (k:=k) (s:=(i,false)) (st:=(t.D,t.b)) ht.bfs ag h2 (by unfold Ax AP;rw[Qe,a1];exact e3) (by unfold Ax AP;rw[Qe,a1];exact h1)
       rw[hc] at h3;exact h3
      have a7:=hh.few;rw[Qg,Q3] at a7;refine CW ⟨112,[(1,AA f),(2,.pv (nC ⟨N,A⟩)),(5,.rs 48 0 N),(6,.rs 80 0 N),(7,.rs 120 t.off t.q),(8,.I k),(9,.I i),(10,.pv (eC e))],[(48,some ⟨1,AD (t.b.set e.t.toNat ((i:Int)+1)),0⟩),(80,some ⟨1,He (EE N (t.D++[e.t])),0⟩),(120,some ⟨1,AD t.Z,0⟩)],900⟩ ?_ ?_
      .simp [h4,e3,h1,hw,hy,Ay]
       exact⟨rfl,AF [(48,48),(80,80),(120,120)] [] (by simp) (by simp[<- a6,AB])⟩
      refine Ac rfl ?_;simp[a5];exact⟨by omega,by omega,by omega,⟨t.D++[e.t],t.b.set e.t.toNat ((i:Int)+1),t.Z.drop t.off++[e.t],0,t.q+1⟩,⟨ht.more hh,hc.symm⟩,Av [(48,48),(80,80),(932,120)] []⟩
     .rw [Qa] at h5
      have hc:=hd t.D t.b;rw[if_neg h5] at hc;exact AJ ⟨t,⟨ht,hc.symm⟩,Bk [(48,48),(80,80),(120,120)] []⟩
    obtain⟨h6,hj⟩:=hu
    have bf:k∈u.D:=by
     obtain⟨l1,e1⟩:=Mh (A:=A) (f:=f) (k:=k) (s:=(i,false)) (st:=(t.D,t.b));rw[<- hj] at e1;simp only at e1;rw[e1];exact Q0 _ ag
    have ai:∃ l,u.D=t.D++l:=by
     obtain⟨l1,e1⟩:=Mh (A:=A) (f:=f) (k:=k) (s:=(i,false)) (st:=(t.D,t.b));rw[<- hj] at e1;exact⟨l1,e1⟩
    have ha:IP A f (DD A f k (i,true) (u.D,u.b)).1 k (i+1):=by
     rw[hj];exact IP.try2 (st:=(t.D,t.b)) hz
    have h4:(EE N u.D)[e.f.toNat]? = some (decide (e.f∈u.D)):=MS e1 (by omega)
    have b3:e.f.toNat<N:=by omega
    have h1:e.f<(N:Int):=by omega
    have ho:=a3 u.D u.b;refine arc ⟨112,[(1,AA f),(2,.pv (nC ⟨N,A⟩)),(5,.rs 48 0 N),(6,.rs 80 0 N),(7,.rs 120 u.off u.q),(8,.I k),(9,.I i),(10,.pv (eC e)),(94,.B (decide (e.t=k/\0<v/\e.f∉u.D)))],[(48,some ⟨1,AD u.b,0⟩),(80,some ⟨1,He (EE N u.D),0⟩),(120,some ⟨1,AD u.Z,0⟩)],1200⟩ ?_ ?_
    .by_cases hm:e.f∈u.D
     .rw [UK hm] at h4
      simp
      repeat' first
       | (refine Dd (λ hb=>?_) (λ hb=>?_)<;>(try rw[hb])<;>(try simp at hb)<;>simp[hb,h4,a2,e1,h1,h9,<- hv])
      all_goals exact AF [(48,48),(80,80),(120,120)] [] (by simp[hb,hm])
     .rw [UI hm] at h4
      simp
      repeat' first
       | (refine Dd (λ hb=>?_) (λ hb=>?_)<;>(try rw[hb])<;>(try simp at hb)<;>simp[hb,h4,a2,e1,h1,h9,<- hv])
      all_goals exact AF [(48,48),(80,80),(120,120)] [] (by simp[hm])
    refine AE _ rfl (λ h5=>?_) λ h5=>?_
    .rw [Qd] at h5
     rw[if_pos h5] at ho;obtain⟨y,hy⟩:∃ y,u.b[e.f.toNat]? = some y:=⟨_,Qc (by rw[h6.bfs.len];omega)⟩
     have a5:∀ g:Int->List AV,List.take u.q (List.drop u.off (List.map g u.Z))=List.map g (u.Z.drop u.off):=λ g=>by rw[<- Vb,Qb (by have:=h6.z;simp;omega)]
     have b5:=h6.z;have b6:=h6.d;have a6:=PP (D:=u.D) e1 h1
     have hh:DA N A f (u.D++[e.f]) (u.b.set e.f.toNat (-((i:Int)+1))):=by
      have h3:=Sp (A:=A) (f:=f) (k:=k) (s:=(i,true)) (st:=(u.D,u.b)) h6.bfs bf h2 (by unfold Ax AP;rw[Qe,a1];exact e1) (by unfold Ax AP;rw[Qe,a1];exact h1)
      rw[ho] at h3;exact h3
     have a7:=hh.few;rw[Qg,Q3] at a7;refine CW ⟨112,[(1,AA f),(2,.pv (nC ⟨N,A⟩)),(5,.rs 48 0 N),(6,.rs 80 0 N),(7,.rs 120 u.off u.q),(8,.I k),(9,.I i),(10,.pv (eC e))],[(48,some ⟨1,AD (u.b.set e.f.toNat (-((i:Int)+1))),0⟩),(80,some ⟨1,He (EE N (u.D++[e.f])),0⟩),(120,some ⟨1,AD u.Z,0⟩)],1400⟩ ?_ ?_
     .simp [h4,e1,h1,hw,b2,hy,Ay]
      exact⟨rfl,AF [(48,48),(80,80),(120,120)] [] (by simp) (by simp[<- a6,AB])⟩
     refine Ac rfl ?_;simp[a5];rw[ho] at ha;refine⟨by omega,by omega,by omega,⟨u.D++[e.f],u.b.set e.f.toNat (-((i:Int)+1)),u.Z.drop u.off++[e.f],0,u.q+1⟩,⟨h6.more hh,ha,?_⟩,Av [(48,48),(80,80),(1432,120)] []⟩
     obtain⟨l1,e1⟩:=ai;exact⟨l1++[e.f],by simp only[e1,Qu]⟩
    .rw [Qa] at h5
     rw[if_neg h5] at ho;rw[ho] at ha;exact AJ ⟨u,⟨h6,ha,ai⟩,Bk [(48,48),(80,80),(120,120)] []⟩
   obtain⟨h6,hj,l2,bo⟩:=hu;refine AX ?_;exact⟨(u,i+1),⟨h6,h2,hj,l++l2,by rw[bo,a0,Qu]⟩,Nat.sub_lt_sub_left h2 (Nat.lt_succ_self i),AF [(48,48),(80,80),(120,120)] [] (by simp[hw])⟩
  simp at h2;obtain rfl:i=A.length:=by omega
  refine Aa (hit ?_);rw[a4] at hz;refine⟨(t,m+1),⟨ht,Hy.next hx hq hz a0⟩,?_,Bk [(48,48),(80,80),(120,120)] []⟩
  simp only;omega
 simp at h7;have hx:m=s.D.length:=by omega
 refine Aa (hit (rk (s:=?s23) [4] [48] rfl ?o23 ?q23))
 case o23=>simp;rfl
 exact BG (F4.mk (.inr rfl) (s.D,s.b) ⟨hb.bfs,by rw[hx] at hq;exact hq.all⟩ (AS.out [48] [] rfl (by simp) (by simp) (by simp) (by simp[AB])))
variable {E:Nat->List (List AV)} {L:List Nat} {N:Nat}
abbrev DF (s:Ba):List AV:=[.I s.1,.B s.2]
def IU (A:List Ed):Nat->Nat->List Ba
 | 0,_=>[]
 | i+1,k=>IU A i k++(if (AP A i).f=k then [(i,false)] else [])++(if (AP A i).t=k then [(i,true)] else [])
theorem znX {A:List Ed} {s:Ba} {k:Nat}:∀ {i:Nat},s∈IU A i k↔s.1<i/\Cb A s=k
 | 0=>by simp[IU]
 | i+1=>by
   obtain⟨j,c⟩:=s;have ih:=znX (A:=A) (s:=(j,c)) (k:=k) (i:=i);simp only[IU,Qq,ih];unfold Cb;simp only;constructor
   .rintro ((h | h) | h)
    .exact ⟨by omega,h.2⟩
    .split at h
     .rename_i e
      simp at h;obtain⟨rfl,rfl⟩:=h;exact⟨by omega,by simpa using e⟩
     .simp at h
    .split at h
     .rename_i e
      simp at h;obtain⟨rfl,rfl⟩:=h;exact⟨by omega,by simpa using e⟩
     .simp at h
   .rintro ⟨h1,h2⟩
    rcases QY.1 h1 with h | h
    .exact .inl (.inl ⟨h,h2⟩)
    .subst h
     cases c
     .have:(AP A j).f=k:=by simpa using h2
      rw[if_pos this];exact .inl (.inr (by simp))
     .have:(AP A j).t=k:=by simpa using h2
      rw[if_pos this];exact .inr (by simp)
theorem Oy (A:List Ed) (k:Nat):∀ i,(IU A i k).length<=2*i
 | 0=>Qk _
 | i+1=>by
   have ih:=Oy A k i;simp only[IU,Qg];split<;>split<;>simp<;>omega
def Dt (A:List Ed) (i:Nat):Nat->List (List AV):=λ k=>(IU A i k).map DF
theorem WV (A:List Ed) (i k:Nat):∀ r∈Dt A i k,∀ x∈r,∃ v,x = .sc v:=by
 intro r hr x hx;obtain⟨s,_,rfl⟩:=Qi.1 hr;simp only[DF,Qs,Ub,or_false] at hx;rcases hx with rfl | rfl
 .exact ⟨_,rfl⟩
 .exact ⟨_,rfl⟩
theorem lA (A:List Ed) (i k:Nat):(Dt A i k).length<=2*i:=by unfold Dt;rw[Qr];exact Oy A k i
theorem ZW {a:Nat} {row:List AV} (hE:∀ k,∀ r∈E k,∀ x∈r,∃ v,x=AV.sc v) (hr:∀ x∈row,∃ v,x=AV.sc v) (k:Nat):∀ r∈grow E a row k,∀ x∈r,∃ v,x=AV.sc v:=by
 unfold grow;intro r h;split at h
 .rcases Qq.1 h with h | h
  .exact hE a r h
  .rw [QC.1 h];exact hr
 .exact hE k r h
theorem iN {A:List Ed} {i a b:Nat} (ha:(AP A i).f=a) (hb:(AP A i).t=b) (h0:a≠b):Dt A (i+1)=grow (grow (Dt A i) a (DF (i,false))) b (DF (i,true)):=by
 funext k
 simp only[Dt,IU,grow,ha,hb,QT,Int.natCast_inj]
 by_cases h1:k=a
 .subst h1
  simp[h0,h0.symm]
 .by_cases h2:k=b
  .subst h2
   simp[h0,h1]
  .have h3:¬ a=k:=λ e=>h1 e.symm
   have h4:¬ b=k:=λ e=>h2 e.symm;simp[h1,h2,h3,h4]
theorem OA (s:Ba):∀ x∈DF s,∃ v,x=AV.sc v:=by
 intro x hx;simp only[DF,Qs,Ub,or_false] at hx;rcases hx with rfl | rfl
 .exact ⟨_,rfl⟩
 .exact ⟨_,rfl⟩
abbrev NM (N:Nat) (A:List Ed):AV:=.vs 1 false ((List.range N).map λ k=>[.vs 2 false (Dt A A.length k)])
theorem Le.slot {np sz n n':Nat} {t t':List (Nat × AV)} {h:List (Nat × Option AQ)} (hn:n<=n') (ht:∀ p∈t',(⟨sz,t,h,n⟩:St).get p.1=p.2):Le np ⟨sz,t,h,n⟩ ⟨sz,t',h,n'⟩:=by
 intro T0 M0 w0 T M a w ok h0;refine⟨T,M,⟨ok.sz,ok.df,λ i=>?_,ok.hs,λ id g hg=>U9 (ok.dom id g hg) hn,ok.after⟩,QH h0 hn⟩;show Ad T w M ((AW t' i).getD .dead) _
 cases hl:AW t' i with
 | none=>exact .dead _ _
 | some v =>
   have:=ht _ (D1 hl);simp only at this;show Ad T w M v _;rw[<- this];exact ok.tm i
def famS (N:Nat) (L:List Nat):List (Nat × Nat):=(L++Cn N).map λ j=>(j,j)
theorem LL {j:Nat} (h:j∈L ∨ ∃ k<N,j=k+1000):AW (famS N L) j=some j:=by
 rw[famS,Jk (λ j=>j) (λ i j h=>h) (λ j=>j),if_pos];rcases h with h | ⟨k,h1,rfl⟩
 .simp [h]
 .exact UH _ (Ee.2 (by omega))
theorem nO {j:Nat} (h:j∉L) (h2:1000+N<=j):AW (famS N L) j=none:=by
 rw[famS,Jk (λ j=>j) (λ i j h=>h) (λ j=>j),if_neg];rw[Qq,not_or];exact⟨h,λ hm=>by have:=Ee.1 hm;omega⟩
theorem o0 {sn:List Nat} {h:Nat->Option AQ}:(A8 N E).map (·.map (conv (famS N L) sn h 4))=A8 N E:=by
 conv=>rhs;rw[<- List.map_id (A8 N E)]
 refine QF λ r hr=>?_;obtain⟨k,hk,rfl⟩:=Qi.1 hr;have:=LL (N:=N) (L:=L) (j:=k+1000) (.inr ⟨k,Qy.1 hk,rfl⟩);simp[Ch,this]
theorem Le.famS {np s:Nat} (L sn:List Nat) {st st':St} (h9:st'.sz=st.sz) (hL:L.Nodup) (h1:∀ j∈L,j<1000) (hn:1000+N<=st'.n) (hd:np<=1000) (ha:∀ j∈sn,1000+N<=j) (hE:∀ k<N,∀ r∈E k,∀ x∈r,∃ v,x = .sc v) (hc:∀ k<N,st.hp (k+1000)=some ⟨s,E k,0⟩) (h4:∀ k<N,st'.hp (k+1000)=some ⟨s,E k,0⟩) (h5:∀ j,j∉L->(j<1000∨1000+N<=j)->st'.hp j=none) (ht:∀ p∈st'.t,Wk (conv (famS N L) sn st.hp 4 (st.get p.1)) p.2) (hb:∀ j∈L,∀ e',st'.hp j=some e' -> ∃ e,st.hp j=some e/\Am [] (Ab (famS N L) sn st.hp 4 e) e'):Le np st st':=by
 have hid:(Go.Proofs.YtkngdgplbojdlaaGreat.famS N L).map (·.1)=L++Cn N:=by simp[Go.Proofs.YtkngdgplbojdlaaGreat.famS,AB]
 have h6:(Go.Proofs.YtkngdgplbojdlaaGreat.famS N L).map (·.2)=L++Cn N:=by simp[Go.Proofs.YtkngdgplbojdlaaGreat.famS,AB]
 have h7:(L++Cn N).Nodup:=Uh.2 ⟨hL,IY (λ i j h=>by simpa using h) List.nodup_range,λ x hx y hy e=>by
  have:=h1 x hx;have:=Ee.1 hy
  omega⟩
 have h0:∀ j,(j,j)∈Go.Proofs.YtkngdgplbojdlaaGreat.famS N L↔j∈L∨j∈Cn N:=λ j=>by simp[Go.Proofs.YtkngdgplbojdlaaGreat.famS]
 refine Le.mk (Go.Proofs.YtkngdgplbojdlaaGreat.famS N L) sn [] h9 (by rw[hid];exact h7) (by rw[h6];exact h7) ?_ (by simp) ?_ (by omega) (by simp) (λ i=>?_) ?_
 .intro p hp
  obtain⟨j,hj,rfl⟩:=Qi.1 hp;rcases Qq.1 hj with h | h
  .have:=h1 j h
   exact⟨by simp only;omega,λ _=>rfl⟩
  .have:=Ee.1 h
   exact⟨by simp only;omega,λ _=>rfl⟩
 .intro j hj
  have:=ha j hj;refine⟨by omega,?_⟩
  rw[hid,Qq,not_or];exact⟨λ h=>by have:=h1 j h;omega,λ h=>by have:=Ee.1 h;omega⟩
 .unfold St.get at *
  cases hl:AW st'.t i with
  | none=>exact .inl (.dead _)
  | some v=>exact .inl (ht _ (D1 hl))
 .intro j e' he
  left
  by_cases hj:j∈L
  .obtain ⟨e,h2,h3⟩:=hb j hj e' he
   exact⟨j,e,(h0 j).2 (.inl hj),h2,h3⟩
  .by_cases hr:j<1000∨1000+N<=j
   .rw [h5 j hj hr] at he;cases he
   .obtain ⟨k,rfl⟩:∃ k,j=k+1000:=⟨j - 1000,by omega⟩
    have hk:k<N:=by omega
    rw[h4 k hk] at he
    cases he;refine⟨k+1000,_,(h0 _).2 (.inr (Ee.2 (by omega))),hc k hk,?_⟩
    have:Ab (Go.Proofs.YtkngdgplbojdlaaGreat.famS N L) sn st.hp 4 ⟨s,E k,0⟩=⟨s,E k,0⟩:=by
     simp only[Ab];rw[HX _ (λ v=>by simp[conv]) _ (hE k hk)]
    rw[this];exact Am.rfl' (Qh _)
variable {A:List Ed} {E:Nat->List (List AV)} {N m n sz:Nat} {f:List Int} {t:List (Nat × AV)}
abbrev oH (N:Nat) (A:List Ed) (m:Nat) (f:List Int) (E:Nat->List (List AV)):List (Nat × Option AQ) :=
 ER 2 N E++[(0,some ⟨1,AD f,0⟩),(24,some ⟨4,[[.I 0,.nilS,.nilS,.nilS]],0⟩),(64,some ⟨1,A8 N E,0⟩),(80,some ⟨4,[[.I N,CB A,.rs 0 0 m,.rs 64 0 N]],0⟩)]
theorem DZ {i j:Nat} {h:List (Nat × Option AQ)} {v:Option AQ} (h0:i≠j):(⟨sz,t,(i,v)::h,n⟩:St).hp j=(⟨sz,t,h,n⟩:St).hp j:=by
 rw[Fg,if_neg h0]
theorem Ib {k:Nat} (h:k<N):(⟨sz,t,oH N A m f E,n⟩:St).hp (k+1000)=some ⟨2,E k,0⟩:=Ws h
theorem Ns {j:Nat} (hj:j∉[0,24,64,80]) (hr:j<1000∨1000+N<=j):(⟨sz,t,oH N A m f E,n⟩:St).hp j=none:=by
 have h0:j≠0/\j≠24/\j≠64/\j≠80:=by simpa using hj
 rcases hr with hr | hr
 .rw [JG hr]
  simp[h0.1.symm,h0.2.1.symm,h0.2.2.1.symm,h0.2.2.2.symm]
 .rw [SD hr]
  simp[h0.1.symm,h0.2.1.symm,h0.2.2.1.symm,h0.2.2.2.symm]
section
variable {sz n N m:Nat} {t:List (Nat × AV)} {A:List Ed} {f:List Int} {E:Nat->List (List AV)}
theorem GZ:(⟨sz,t,oH N A m f E,n⟩:St).hp 0=some ⟨1,AD f,0⟩:=by rw[JG (by omega)];simp
theorem J2:(⟨sz,t,oH N A m f E,n⟩:St).hp 24=some ⟨4,[[.I 0,.nilS,.nilS,.nilS]],0⟩:=by rw[JG (by omega)];simp
theorem JW:(⟨sz,t,oH N A m f E,n⟩:St).hp 64=some ⟨1,A8 N E,0⟩:=by rw[JG (by omega)];simp
theorem Iy:(⟨sz,t,oH N A m f E,n⟩:St).hp 80=some ⟨4,[[.I N,CB A,.rs 0 0 m,.rs 64 0 N]],0⟩:=by rw[JG (by omega)];simp
end
theorem Le.oStep {a x y n':Nat} {row:List AV} {t':List (Nat × AV)} {h:List (Nat × Option AQ)} (ha:a<N) (hx:1000+N<=x) (hy:1000+N<=y) (h2:x≠y) (hN:N<=900) (h1:1000+N<=n') (hE:∀ k,∀ r∈E k,∀ z∈r,∃ v,z = .sc v) (h0:∀ z∈row,∃ v,z = .sc v) (hh:h=(64,some ⟨1,(A8 N E).set a [.rs x 0 ((E a).length+1)],0⟩)::(x,some ⟨2,E a++[row],0⟩)::(a+1000,none)::(y,some ⟨2,[row],0⟩)::oH N A m f E) (ht:∀ p∈t',Wk (conv (Bv x a N [0,24,64,80]) [] (⟨54,t,h,n⟩:St).hp 4 ((⟨54,t,h,n⟩:St).get p.1)) p.2):Le 1 ⟨54,t,h,n⟩ ⟨54,t',oH N A m f (grow E a row),n'⟩:=by
 have e64:(⟨54,t,h,n⟩:St).hp 64=some ⟨1,(A8 N E).set a [.rs x 0 ((E a).length+1)],0⟩:=by rw[hh,Fg,if_pos rfl]
 have e0:(⟨54,t,h,n⟩:St).hp 0=some ⟨1,AD f,0⟩:=by rw[hh,DZ (by omega),DZ (by omega),DZ (by omega),DZ (by omega),GZ]
 have e24:(⟨54,t,h,n⟩:St).hp 24=some ⟨4,[[.I 0,.nilS,.nilS,.nilS]],0⟩:=by rw[hh,DZ (by omega),DZ (by omega),DZ (by omega),DZ (by omega),J2]
 have e80:(⟨54,t,h,n⟩:St).hp 80=some ⟨4,[[.I N,CB A,.rs 0 0 m,.rs 64 0 N]],0⟩:=by rw[hh,DZ (by omega),DZ (by omega),DZ (by omega),DZ (by omega),Iy]
 have l0:AW (Bv x a N [0,24,64,80]) 0=some 0:=Jd (by omega) (.inl (by simp))
 have l64:AW (Bv x a N [0,24,64,80]) 64=some 64:=Jd (by omega) (.inl (by simp))
 refine Le.fam (s:=2) (N:=N) (a:=a) (m:=x) (E:=E) (row:=row) [0,24,64,80] rfl ha (by decide) (by simp) hx h1 (by omega) (λ k _=>hE k) h0 ?_ ?_ (λ k hk=>Ib hk) (λ j hj hr=>Ns hj hr) ht ?_
 .intro k hk h3
  rw[hh,DZ (by omega),DZ (by omega),DZ (by omega),DZ (by omega),Ib hk]
 .rw [hh,DZ (by omega),Fg,if_pos rfl]
 .intro j hj e' he
  simp only[Qs,Ub,or_false] at hj;rcases hj with rfl | rfl | rfl | rfl
  .rw [GZ] at he
   cases he;exact⟨_,e0,by simp only[Ab];rw[HX _ (λ v=>by simp[conv]) _ (by simp)];exact Am.rfl' (Qh _)⟩
  .rw [J2] at he
   cases he;exact⟨_,e24,by simp[Ab];exact Am.rfl' (Qh _)⟩
  .rw [JW] at he
   cases he;refine⟨_,e64,?_⟩;simp only[Ab];rw[b7 ha (.inr hx) rfl];exact Am.rfl' (Qh _)
  .rw [Iy] at he
   cases he;refine⟨_,e80,?_⟩;simp[Ab,l0,l64];exact Am.rfl' (Qh _)
theorem VI (N:Nat) (A:List Ed) (f:List Int) (m:Nat) (hn:Cu ⟨N,A⟩):AcP 123 [eN ⟨N,A⟩,.rs 0 0 m] [⟨1,AD f,0⟩] (.agg [.I N,CB A,.rs 0 0 m,NM N A]) [some ⟨1,AD f,0⟩]:=by
 refine vY.s.ai ?_;obtain⟨hw,hx,hy,hd⟩:=hn;simp only at hw hx hy hd;refine ar [1,2,4] [(0,0),(24,24)] [16] 32 ?_;refine CW ⟨54,[(2,.pv (nC ⟨N,A⟩)),(4,.pt 24 0 0),(5,.pt 80 0 0)],[(0,some ⟨1,AD f,0⟩),(24,some ⟨4,[[.I 0,.nilS,.nilS,.nilS]],0⟩),(64,some ⟨1,(List.range N).map λ _=>[.nilS],0⟩),(80,some ⟨4,[[.I N,CB A,.rs 0 0 m,.rs 64 0 N]],0⟩)],96⟩ ?_ ?_
 .simp [Vq]
  refine⟨by omega,by omega,rfl,?_⟩
  exact Av [(0,0),(24,24),(64,64),(80,80)] []
 refine AC (ar [4,5,15,16,17] [(0,0),(24,24),(64,64),(80,80)] [] 128 ?_);refine AL (Ae (ι:=Nat) (λ i=>⟨54,[(4,.pt 24 0 0),(5,.pt 80 0 0),(15,CB A),(16,.I A.length),(17,.I i)],oH N A m f (Dt A i),2000⟩) (λ i=>i<=A.length) (λ i=>A.length - i) 0 (Qh _) ?_ ?_)
 .refine Le.fam0 (s:=2) (N:=N) (o:=64) [0,24,80] rfl (by omega) (by decide) (by simp) (by simp only;omega) (by simp) JW (λ k hk=>Ib hk) (λ j hj hr=>Ns (by simpa [and_comm,and_left_comm,and_assoc,or_comm,or_left_comm] using hj) hr) (by simp) ?_
  intro j hj e' he;simp only[Qs,Ub,or_false] at hj;rcases hj with rfl | rfl | rfl
  .rw [GZ] at he
   cases he;exact⟨⟨1,AD f,0⟩,by simp,by simp only[Ab];rw[HX _ (λ v=>by simp[conv]) _ (by simp)];exact Am.rfl' (Qh _)⟩
  .rw [J2] at he
   cases he;exact⟨⟨4,[[.I 0,.nilS,.nilS,.nilS]],0⟩,by simp,by simp[Ab];exact Am.rfl' (Qh _)⟩
  .rw [Iy] at he
   cases he;exact⟨⟨4,[[.I N,CB A,.rs 0 0 m,.rs 64 0 N]],0⟩,by simp,by simp[Ab];exact Am.rfl' (Qh _)⟩
 intro i hi;refine arc ⟨54,[(4,.pt 24 0 0),(5,.pt 80 0 0),(15,CB A),(16,.I A.length),(17,.I i),(18,.B (decide (i<A.length)))],oH N A m f (Dt A i),2008⟩ ?_ ?_
 .simp
  exact Le.slot (by omega) (by simp)
 refine AC (AE _ rfl (λ h5=>?_) λ h5=>?_)
 .simp at h5
  have hz:=w6 (x:=(i:Int)+1);have hf:=hd _ (Qj h5);have h4:AP A i=A[i]:=by unfold AP;rw[Qe,Qc h5,QB]
  obtain⟨e,he⟩:=AG (A[i]);rw[<- he] at hf h4;obtain⟨q1,q2,q3,q4,q5,_⟩:=hf;obtain⟨a,hh,h6⟩:∃ a:Nat,e.f=a/\a<N:=⟨e.f.toNat,by omega,by omega⟩
  obtain⟨b,ho,h7⟩:∃ b:Nat,e.t=b/\b<N:=⟨e.t.toNat,by omega,by omega⟩
  have hq:a≠b:=λ h=>q5 (by omega)
  have h3:=iN (A:=A) (i:=i) (a:=a) (b:=b) (by rw[h4];exact hh) (by rw[h4];exact ho) hq
  have h9:=WV A i;have hb:=λ k=>lA A i k;obtain⟨E,hE⟩:=AG (Dt A i);rw[<- hE] at h3 h9 hb ⊢;refine AJ (AC (AL (arc ⟨54,[(4,.pt 24 0 0),(5,.pt 80 0 0),(6,.I i),(7,.pv [.I a,.I b,.I e.v]),(15,CB A),(16,.I A.length),(17,.I i)],oH N A m f E,3000⟩ ?_ ?_)))
  .simp [h5,<- he,hh,ho]
   have l24:AW (famS N [0,24,64,80]) 24=some 24:=LL (.inl (by simp))
   have l80:AW (famS N [0,24,64,80]) 80=some 80:=LL (.inl (by simp))
   have l0:AW (famS N [0,24,64,80]) 0=some 0:=LL (.inl (by simp))
   have l64:AW (famS N [0,24,64,80]) 64=some 64:=LL (.inl (by simp))
   have lno:AW (famS N [0,24,64,80]) 2032=none:=nO (by simp) (by omega)
   refine Le.famS (s:=2) (N:=N) (E:=E) [0,24,64,80] [2032] rfl (by decide) (by simp) (by simp only;omega) (by omega) (by simp;omega) (λ k _=>h9 k) ?_ (λ k hk=>Ib hk) (λ j hj hr=>Ns hj hr) ?_ ?_
   .intro k hk
    rw[DZ (by omega),DZ (by omega),Ib hk]
   .simp [l24,l80,lno]
   .intro j hj e' h0
    simp only[Qs,Ub,or_false] at hj;rcases hj with rfl | rfl | rfl | rfl
    .rw [GZ] at h0
     cases h0;exact⟨_,by rw[DZ (by omega),DZ (by omega),GZ],by simp only[Ab];rw[HX _ (λ v=>by simp[conv]) _ (by simp)];exact Am.rfl' (Qh _)⟩
    .rw [J2] at h0
     cases h0;exact⟨_,by rw[DZ (by omega),DZ (by omega),J2],by simp[Ab];exact Am.rfl' (Qh _)⟩
    .rw [JW] at h0
     cases h0;refine⟨_,by rw[DZ (by omega),DZ (by omega),JW],?_⟩
     simp only[Ab];rw[o0];exact Am.rfl' (Qh _)
    .rw [Iy] at h0
     cases h0;exact⟨_,by rw[DZ (by omega),DZ (by omega),Iy],by simp[Ab,l0,l64];exact Am.rfl' (Qh _)⟩
  refine CW ⟨54,[(4,.pt 24 0 0),(5,.pt 80 0 0),(6,.I i),(7,.pv [.I a,.I b,.I e.v]),(15,CB A),(16,.I A.length),(17,.I i)],oH N A m f (grow E a (DF (i,false))),4000⟩ ?_ ?_
  .have hl:=hb a
   have hc:¬ a=2096:=by omega
   simp[Iy,JW,Ib h6,h6,Ho h6,JY,Ch,hc];refine⟨by omega,by omega,rfl,?_⟩
   have l24:AW (Bv 3104 a N [0,24,64,80]) 24=some 24:=Jd (by omega) (.inl (by simp))
   have l80:AW (Bv 3104 a N [0,24,64,80]) 80=some 80:=Jd (by omega) (.inl (by simp))
   refine Le.oStep (x:=3104) (y:=3096) h6 (by omega) (by omega) (by omega) (by omega) (by omega) h9 (OA _) ?_ ?_
   .simp
   .simp [l24,l80]
  have ha:=ZW (a:=a) h9 (OA (i,false))
  have hu:(grow E a (DF (i,false)) b).length<=2*i:=by
   have:=hb b;simp only[grow,if_neg hq.symm];exact this
  obtain⟨E1,a0⟩:=AG (grow E a (DF (i,false)));rw[<- a0] at ha hu h3 ⊢;refine Cr rfl ?_;have hc:¬ b=3096:=by omega
  simp[Iy,JW,Ib h7,h7,Ho h7,JY,Ch,hc];refine⟨by omega,by omega,rfl,?_⟩
  refine Ac rfl ?_;simp;have l24:AW (Bv 4104 b N [0,24,64,80]) 24=some 24:=Jd (by omega) (.inl (by simp))
  have l80:AW (Bv 4104 b N [0,24,64,80]) 80=some 80:=Jd (by omega) (.inl (by simp))
  refine⟨i+1,by omega,by omega,?_⟩
  rw[h3];refine Le.oStep (x:=4104) (y:=4096) h7 (by omega) (by omega) (by omega) (by omega) (by omega) ha (OA _) ?_ ?_
  .simp
  .simp [l24,l80,hz]
 simp at h5;obtain rfl:i=A.length:=by omega
 refine Aa (hit (arc ⟨54,[(4,.pt 24 0 0)],[(0,some ⟨1,AD f,0⟩),(24,some ⟨4,[[.I N,CB A,.rs 0 0 m,NM N A]],0⟩)],5000⟩ ?_ ?_))
 .simp [Iy,J2]
  have a1:∀ {h:Nat->Option AQ},h 64=some ⟨1,A8 N (Dt A A.length),0⟩->(∀ k<N,h (k+1000)=some ⟨2,Dt A A.length k,0⟩)->conv [(0,0),(24,24)] (64::Cn N) h 4 (.rs 64 0 N)=NM N A:=λ h1 h2 =>
   sH (λ k _=>WV A A.length k) (by simp) (by simp) (λ k hk=>by simp[Ee];omega) h1 h2
  refine Le.famOut (N:=N) (o:=64) (L:=[0,24]) rfl (by decide) (by simp) (by simp) (by simp) (by omega) (by omega) ?_ ?_ ?_
  .intro j hj
   have hv:j≠0/\j≠24:=by simpa using hj
   simp[hv.1.symm,hv.2.symm]
  .simp
  .intro j hj e' h0
   simp only[Qs,Ub,or_false] at hj;rcases hj with rfl | rfl
   .simp at h0
    subst h0;refine⟨_,by rw[DZ (by omega),GZ],?_⟩
    simp only[Ab];rw[HX _ (λ v=>by simp[conv]) _ (by simp)]
    exact Am.rfl' (Qh _)
   .simp at h0
    subst h0;refine⟨_,by rw[Fg,if_pos rfl],?_⟩
    refine Am.eq ?_ (Qh _);simp only[Ab,Qo,UE];rw[a1 (by rw[DZ (by omega),JW]) (λ k hk=>by rw[DZ (by omega),Ib hk])]
    simp
 exact A9 (AS.k1 rfl (by simp) (by simp[AB]))
variable {rows:List (List AV)} {φ:Int->Option AV}
abbrev rC (N:Nat) (A:List Ed) (f:AV):List AV:=[.I N,CB A,f,NM N A]
abbrev eR (N:Nat) (A:List Ed) (f:AV):AV:=.agg (rC N A f)
theorem W8 {A:List Ed} {i:Nat} (h:i<A.length):A[i]? = some (AP A i):=by
 unfold AP;rw[Qe,Qc h,QB]
theorem T8 (N:Nat) (A:List Ed) (f:List Int) (s:Ba) (hn:Cu ⟨N,A⟩) (hf:CO A f) (hs:s.1<A.length):AcP 164 [eR N A (AA f),.agg (DF s)] [] (.tup [.I (B6 A f s),.I (Ax A s)]) []:=by
 refine kU.s.ai ?_;obtain⟨i,c⟩:=s;simp only at hs;obtain⟨ha,h6⟩:=HB.1 hf;have hA:=W8 hs;have hi:=h6 i hs;have h3:=hn.2.2.2 _ (H5 hs);have h0:i<f.length:=by omega
 obtain⟨e,he⟩:=AG (AP A i);obtain⟨w,hw⟩:=AG (f.getD i 0);have hg:f[i]? = some w:=by rw[hw,Qe,Qc h0,QB]
 have hge:A[i]=e:=by rw[Qc hs,<- he] at hA;exact Qf hA
 have h5:f[i]=w:=by rw[Qc h0] at hg;exact Qf hg
 rw[<- he] at h3;rw[<- hw,<- he] at hi;obtain⟨_,_,_,_,_,_,_,h8,h9⟩:=h3;have h7:=w6 (x:=e.v - w);refine ar [2,3] [] [16,24] 48 ?_;apply ax [2,3,6] [] [104] 200
 .simp [hs,hge]
  rfl
 refine AC (rs [2,3,6,15] [] [] ?_);refine AE _ rfl (λ h4=>?_) λ h4=>?_
 .have hc:c=true:=h4
  subst hc;have h1:B6 A f (i,true)=w:=by unfold B6;simp[hw]
  have h2:Ax A (i,true)=e.f:=by unfold Ax;simp[he]
  rw[h1,h2];apply ay [4,5] [] [] 400
  .simp [h0,h5]
   exact⟨rfl,rfl⟩
  exact B7 [] []
 have hc:c=false:=h4;subst hc;have h1:B6 A f (i,false)=e.v - w:=by unfold B6;simp[hw,he]
 have h2:Ax A (i,false)=e.t:=by unfold Ax;simp[he]
 rw[h1,h2];refine AJ ?_;apply ay [4,5] [] [] 400
 .simp [h0,h5,h7]
  exact⟨rfl,rfl⟩
 exact B7 [] []
theorem zlu:∀ {l:List (Int × AV)} {q:Int × AV},(l.map (·.1)).Nodup->q∈l->DW q.1 (Dm l)=some q.2
 | (k,x)::l,q,hn,h=>by
   rw[Qo,Q7] at hn;rw[M6,List.find?_cons];rcases Qs.1 h with rfl | h
   .simp
   .have h0:¬ k=q.1:=λ e=>hn.1 (e ▸ Qi.2 ⟨q,h,rfl⟩)
    have ih:=zlu hn.2 h;rw[M6] at ih
    simpa [h0] using ih
structure Cw (rows:List (List AV)) (φ:Int->Option AV):Prop where
 is:Du rows φ
 flat:∀ n x,φ n=some x -> ∃ u v,x = .agg [.sc u,.sc v]
theorem Cw.mem (h:Cw rows φ) {r:List AV} (hr:r∈rows):∃ k u v,r=[.sc k,.agg [.sc u,.sc v]]:=by
 obtain⟨⟨l,rfl,hn,hf⟩,h0⟩:=h;obtain⟨q,hq,rfl⟩:=Qi.1 hr;obtain⟨u,v,e⟩:=h0 q.1 q.2 (by rw[<- hf];exact zlu hn hq)
 exact⟨_,u,v,by rw[e]⟩
theorem Cw.conv (h:Cw rows φ) (ρ:List (Nat × Nat)) (sn:List Nat) (g:Nat->Option AQ):rows.map (·.map (conv ρ sn g 4))=rows:=by
 conv=>rhs;rw[<- List.map_id rows]
 refine QF λ r hr=>?_;obtain⟨k,u,v,rfl⟩:=h.mem hr;simp
theorem Cw.conv' (h:Cw rows φ) (ρ:List (Nat × Nat)) (sn:List Nat) (g:Nat->Option AQ):rows.map (List.map (Go.Proofs.YtkngdgplbojdlaaGreat.conv ρ sn g 4))=rows:=h.conv ρ sn g
theorem Cw.plain (h:Cw rows φ) (s ro:Nat):IG ⟨s,rows,ro⟩:=by
 intro r hr x hx;obtain⟨k,u,v,rfl⟩:=h.mem hr;simp only[Qs,Ub,or_false] at hx;rcases hx with rfl | rfl
 .exact .sc _
 .refine .agg _ λ i=>?_
  match i with
  | 0=>exact .sc _
  | 1=>exact .sc _
  | i+2=>exact .dead
theorem Kg (D b:List Int) (n:Int) (x:AV) (h:Bg D b n=some x):∃ u v,x = .agg [.sc u,.sc v]:=by
 unfold Bg at h;split at h
 .split at h
  .cases h;exact⟨_,_,rfl⟩
  .cases h;exact⟨_,_,rfl⟩
 .cases h
theorem Cw.set {D b D' b':List Int} (h:Cw rows (Bg D b)) (n:Int) (y:AV) (he:Bg D' b'=λ k=>if k=n then some y else Bg D b k):Cw (Bc n y rows) (Bg D' b') :=
 ⟨by rw[he];exact h.is.set n y,Kg D' b'⟩
theorem tR {N:Nat} {A:List Ed} (hn:Cu ⟨N,A⟩) {s:Ba} (hs:s.1<A.length):0<=Ax A s/\Ax A s<N:=by
 have:GF N (AP A s.1):=hn.2.2.2 _ (H5 hs);obtain⟨q1,q2,q3,q4,_⟩:=this;unfold Ax;split<;>omega
structure YA where
 s:JC
 R:List (List AV)
 m:Nat
 i:Nat
def LO (A:List Ed) (f D:List Int) (l:List Ba):Prop:=∀ s∈l,0<B6 A f s->Ax A s∈D
theorem LO.nil {A:List Ed} {f D:List Int}:LO A f D []:=λ s h=>by simp at h
theorem Sj (N:Nat) (A:List Ed) (f:List Int) (hn:Cu ⟨N,A⟩) (hf:CO A f) :
  ∃ x:List Int × List Int × List (List AV),(DA N A f x.1 x.2.1/\Hv A f x.1/\Cw x.2.2 (Bg x.1 x.2.1))/\AcP 124 [eR N A (AA f)] [] (.mp 0) [some ⟨0,x.2.2,0⟩]:=by
 refine lU.s.acallsX (args:=[eR N A (AA f)]) (hs:=[]) (λ x=>.mp 0) (λ x=>[some ⟨0,x.2.2,0⟩]) (λ x:List Int × List Int × List (List AV)=>DA N A f x.1 x.2.1/\Hv A f x.1/\Cw x.2.2 (Bg x.1 x.2.1)) (CL rfl) (CL rfl) (λ _=>by simp) ?_
 show A2 _ 0 _ _ ⟨59,[(0,eR N A (AA f))],[],16⟩;have ho:=λ s hs=>T8 N A f s hn hf hs;have a1:=λ (s:Ba) (hs:s.1<A.length)=>tR hn hs;obtain⟨au,av,b1,b2⟩:=hn;simp only at au av b1 b2;have hu:Cw ([[.I 0,.agg [.I (-1),.B false]]]) (Bg [0] (List.replicate N 0)):=⟨by rw[YZ];exact Du.nil.set 0 (.agg [.I (-1),.B false]),Kg _ _⟩
 refine ar [1] [] [16] 32 ?_;apply ax [1,3] [(32,32)] [] 72
 .simp [Bc]
  rfl
 obtain⟨R0,a2⟩:∃ R0:List (List AV),R0=[[.I 0,.agg [.I (-1),.B false]]]:=⟨_,rfl⟩;rw[<- a2] at hu ⊢;refine AC (ar [1,3,4] [(32,32),(72,72)] [] 88 ?_);refine AL ?_
 refine Ae (ι:=YA) (λ t=>⟨59,[(1,.pv (rC N A (AA f))),(3,.mp 32),(4,.rs 72 t.s.off t.s.q)],[(32,some ⟨0,t.R,0⟩),(72,some ⟨1,AD t.s.Z,0⟩)],88⟩)
  (λ t=>Df N A f t.s t.m/\Hy A f t.s.D t.m/\Cw t.R (Bg t.s.D t.s.b)) (λ t=>N - t.m) ⟨⟨[0],List.replicate N 0,[0],0,1⟩,R0,0,0⟩
  ⟨⟨DA.start (by omega),rfl,rfl,rfl⟩,λ s _ h=>by simp at h,hu⟩ (AF [(32,32),(72,72)] [] (by simp) (by simp[hu.conv'])) ?_
 rintro⟨s,R,m,_⟩ ⟨hb,hd,hR⟩
 simp only at hb hd hR;have bs:=hb.bfs.few;have c1:=hb.d;have c2:=hb.z;refine AC (ar [1,3,4,17] [(32,32),(72,72)] [] 112 ?_);refine AE _ rfl (λ h5=>?_) λ h5=>?_
 .simp at h5
  obtain⟨he,hk⟩:=hb.head h5;have bt:s.off<s.Z.length:=by omega
  obtain⟨k,hv⟩:=AG (s.D[m]);rw[<- hv] at hk;have a3:k∈s.D:=hv ▸ Qj he;have c3:=hb.bfs.rng k a3;obtain⟨kn,a4,a5⟩:∃ kn:Nat,k=kn/\kn<N:=⟨k.toNat,by omega,by omega⟩
  obtain⟨L,hL⟩:=AG (IU A A.length kn);have a6:∀ st:Ba,st∈L↔st.1<A.length/\Cb A st=k:=λ st=>by rw[hL,a4];exact znX
  have c4:L.length<=2*A.length:=by rw[hL];exact Oy A kn A.length
  have a7:Dt A A.length kn=L.map DF:=by rw[hL];rfl
  refine AJ (AC (AL (CW ⟨59,[(1,.pv (rC N A (AA f))),(3,.mp 32),(4,.rs 72 s.off s.q),(26,.vs 2 false (L.map DF)),(27,.I L.length),(28,.I 0)],[(32,some ⟨0,R,0⟩),(72,some ⟨1,AD s.Z,0⟩)],184⟩ ?_ ?_)))
  .simp [hk,h5,a4,a5,a7]
   exact⟨rfl,AF [(32,32),(72,72)] [] (by simp[a7]) (by simp[hR.conv',AB])⟩
  refine AL ?_
  refine Ae (ι:=YA) (λ t=>⟨59,[(1,.pv (rC N A (AA f))),(3,.mp 32),(4,.rs 72 t.s.off t.s.q),(26,.vs 2 false (L.map DF)),(27,.I L.length),(28,.I t.i)],[(32,some ⟨0,t.R,0⟩),(72,some ⟨1,AD t.s.Z,0⟩)],184⟩)
   (λ t=>Df N A f t.s m/\Cw t.R (Bg t.s.D t.s.b)/\t.i<=L.length/\LO A f t.s.D (L.take t.i) /\ ∃ l,t.s.D=s.D++l) (λ t=>L.length - t.i) ⟨s,R,m,0⟩
   ⟨hb,hR,Qh _,by rw[List.take_zero];exact LO.nil,[],by simp⟩ (AF [(32,32),(72,72)] [] (by simp) (by simp[hR.conv',AB])) ?_
  rintro⟨t,R,_,i⟩ ⟨ht,hR,hi,hx,l,h6⟩
  simp only at ht hR hi hx h6;have cb:=ht.z;have cd:=ht.d;have ck:=ht.bfs.few;refine ar [1,3,4,26,27,28,29] [(32,32),(72,72)] [] 192 ?_;refine AC (AE _ rfl (λ h8=>?_) λ h8=>?_)
  .simp at h8
   have hw:=w6 (x:=(i:Int)+1);obtain⟨st,hy⟩:=AG (L[i]);obtain⟨hz,b3⟩:=(a6 st).1 (hy ▸ Qj h8);have a8:=ho st hz;obtain⟨a9,ad⟩:=a1 st hz;have h7:=λ (h1:0<B6 A f st) (h2:Ax A st∉t.D)=>ht.bfs.push (s:=st) hz (by rw[b3,h6];exact Q0 _ a3) h1 h2 a9 ad
   have hj:=λ (h2:Ax A st∉t.D)=>uS ht.bfs h2 a9 ad;have h9:=Pq t.D t.b (Ax A st);have ha:=hR.is.find (Ax A st)
   have h0:∀ D',(∃ l,D'=t.D++l)->Ax A st∈D'∨¬ 0<B6 A f st->LO A f D' (L.take (i+1)):=λ D' b4 h s' hs' hr=>by
    rw[Qm h8,<- hy] at hs';obtain⟨l',rfl⟩:=b4;rcases Qq.1 hs' with h' | h'
    .exact Q0 _ (hx s' h' hr)
    .rw [QC] at h'
     subst h';exact h.resolve_right λ hn=>hn hr
   obtain⟨T,hT⟩:=AG (Ax A st);obtain⟨rm,ag⟩:=AG (B6 A f st);rw[<- hT,<- ag] at a8 h7 h0;rw[<- hT] at hj h9 ha;refine AJ (AC (AL (arc ⟨59,[(1,.pv (rC N A (AA f))),(3,.mp 32),(4,.rs 72 t.off t.q),(6,.pv (DF st)),(26,.vs 2 false (L.map DF)),(27,.I L.length),(28,.I i)],[(32,some ⟨0,R,0⟩),(72,some ⟨1,AD t.Z,0⟩)],232⟩ ?_ ?_)))
   .simp [h8,<- hy]
    exact AF [(32,32),(72,72)] [208] (by simp) (by simp[hR.conv',AB])
   refine arc ⟨59,[(1,.pv (rC N A (AA f))),(3,.mp 32),(4,.rs 72 t.off t.q),(6,.pv (DF st)),(7,.I rm),(8,.I T),(26,.vs 2 false (L.map DF)),(27,.I L.length),(28,.I i)],[(32,some ⟨0,R,0⟩),(72,some ⟨1,AD t.Z,0⟩)],300⟩ ?_ ?_
   .simp
    refine Aj a8 ?_;simp;exact AF [(32,32),(72,72)] [] (by simp) (by simp[hR.conv',AB])
   refine arc ⟨59,[(1,.pv (rC N A (AA f))),(3,.mp 32),(4,.rs 72 t.off t.q),(6,.pv (DF st)),(7,.I rm),(8,.I T),(10,.B (decide (T∈t.D))),(26,.vs 2 false (L.map DF)),(27,.I L.length),(28,.I i)],[(32,some ⟨0,R,0⟩),(72,some ⟨1,AD t.Z,0⟩)],400⟩ ?_ ?_
   .have b5:∃ u v,(Bg t.D t.b T).getD (C3 (Value.agg #[Value.int IntKind.i64 0,Value.bool false])) = .agg [.sc u,.sc v]:=by
     cases hc:Bg t.D t.b T with
     | none=>exact⟨.int .i64 0,.bool false,by simp[C3,Value.oneCell']⟩
     | some x =>
       obtain⟨u,v,rfl⟩:=Kg _ _ _ _ hc;exact⟨u,v,rfl⟩
    obtain⟨u,v,b6⟩:=b5;simp[ha,h9,b6];exact AF [(32,32),(72,72)] [] (by simp) (by simp[hR.conv',AB])
   refine arc ⟨59,[(1,.pv (rC N A (AA f))),(3,.mp 32),(4,.rs 72 t.off t.q),(6,.pv (DF st)),(8,.I T),(26,.vs 2 false (L.map DF)),(27,.I L.length),(28,.I i),(49,.B (decide (0<rm/\T∉t.D)))],[(32,some ⟨0,R,0⟩),(72,some ⟨1,AD t.Z,0⟩)],500⟩ ?_ ?_
   .simp
    refine Dd (λ hb=>?_) (λ hb=>?_)<;>(try rw[hb])<;>(try simp at hb)<;>simp[hb]
    .exact AF [(32,32),(72,72)] [] (by simp[hb]) (by simp[hR.conv',AB])
    .exact AF [(32,32),(72,72)] [] (by simp[hb]) (by simp[hR.conv',AB])
   refine AE _ rfl (λ h4=>?_) λ h4=>?_
   .rw [Qd] at h4
    have ai:=h7 h4.1 h4.2;have hh:=hR.set T (J6 st) (hj h4.2);have a0:=ht.more ai;have bf:=ai.few;rw[Qg,Q3] at bf;have bo:∀ g:Int->List AV,List.take t.q (List.drop t.off (List.map g t.Z))=List.map g (t.Z.drop t.off):=λ g=>by rw[<- Vb,Qb (by simp;omega)]
    obtain⟨R',am⟩:∃ R',R'=Bc T (J6 st) R:=⟨_,rfl⟩;rw[<- am] at hh;refine arc ⟨59,[(1,.pv (rC N A (AA f))),(3,.mp 32),(4,.rs 72 t.off t.q),(8,.I T),(26,.vs 2 false (L.map DF)),(27,.I L.length),(28,.I i)],[(32,some ⟨0,R',0⟩),(72,some ⟨1,AD t.Z,0⟩)],600⟩ ?_ ?_
    .simp
     rw[show Bc T (.agg [.I st.1,.B st.2]) R=R' from am.symm]
     exact AF [(32,32),(72,72)] [] (by simp) (by simp[hh.conv',AB])
    refine Ac rfl ?_;simp[bo];refine⟨by omega,by omega,by omega,?_⟩
    refine Ac rfl ?_;simp;refine⟨⟨⟨t.D++[T],t.b.set T.toNat (CT st),t.Z.drop t.off++[T],0,t.q+1⟩,R',m,i+1⟩,⟨a0,hh,h8,h0 _ ⟨[T],rfl⟩ (.inl (by simp)),l++[T],by simp only[h6,Qu]⟩,by simp only;omega,?_⟩
    exact AF [(32,32),(624,72)] [] (by simp[hw]) (by simp[hh.conv',AB])
   .rw [Qa] at h4
    refine AJ (Ac rfl ?_);simp;refine⟨⟨t,R,m,i+1⟩,⟨ht,hR,h8,h0 _ ⟨[],by simp⟩ ?_,l,h6⟩,by simp only;omega,AF [(32,32),(72,72)] [] (by simp[hw]) (by simp[hR.conv',AB])⟩
    by_cases h:0<rm
    .exact .inl (Q6 λ hn=>h4 ⟨h,hn⟩)
    .exact .inr h
  simp at h8;obtain rfl:i=L.length:=by omega
  refine Aa (hit ?_);have c0:t.D.length=s.D.length+l.length:=by rw[h6,Qg]
  have hq:0<t.q:=by omega
  have an:IP A f t.D s.D[m] A.length:=λ st h1 h2 h3=>by
   refine hx st ?_ h3;rw[QO];exact(a6 st).2 ⟨h1,by rw[hv];exact h2⟩
  refine Ac rfl ?_;simp;refine O7 1 (i:=72) rfl rfl hq ?_;simp;exact⟨⟨{ t with off:=t.off+1,q:=t.q - 1 },R,m+1,0⟩,⟨ht.pop hq,Hy.next he hd an h6,hR⟩,by simp only;omega,AF [(32,32),(72,72)] [] (by simp) (by simp[hR.conv',AB])⟩
 simp at h5;have he:m=s.D.length:=by omega
 refine Aa (hit (arc ⟨59,[(2,.mp 32)],[(32,some ⟨0,R,0⟩)],200⟩ ?_ ?_))
 .simp
  exact AF [(32,32)] [] (by simp) (by simp[hR.conv'])
 exact BG (F4.mk (.inr rfl) (s.D,s.b,R) ⟨hb.bfs,by rw[he] at hd;exact hd.all,hR⟩ (AS.out [32] [] rfl (by simp) (by simp) (by simp) (by simp[hR.conv'])))
structure nP where
 j:Nat
 v:Int
def IS (A:List Ed) (f:List Int) (l:List Ba) (j:Nat) (v:Int):Prop:=∀ t∈l.drop j,v<=B6 A f t
theorem zAE (N:Nat) (A:List Ed) (hn:Cu ⟨N,A⟩) :
  ∃ f:List Int,(BN N A f /\ ∀ f',BN N A f'->AZ A f'<=AZ A f)/\AcP 65 [eN ⟨N,A⟩] [] (.tup [.rs 0 0 A.length,.I 0]) [some ⟨1,AD f,0⟩]:=by
 refine cM.s.acallsX (args:=[eN ⟨N,A⟩]) (hs:=[]) (λ f=>.tup [.rs 0 0 A.length,.I 0]) (λ f=>[some ⟨1,AD f,0⟩]) (λ f:List Int=>BN N A f /\ ∀ f',BN N A f'->AZ A f'<=AZ A f) (CL rfl) (CL rfl) (λ _=>by simp) ?_
 show A2 _ 0 _ _ ⟨112,[(0,eN ⟨N,A⟩)],[],16⟩;have a9:=HH hn;have am:=zhl ⟨N,A⟩ (by have:=hn.2.2.1;simp only at this ⊢;omega)
 rw[if_pos hn] at am;have bt:=λ f hf=>Xu N A f hn hf;obtain⟨c3,c4,cb,b1⟩:=hn;simp only at c3 c4 cb b1;refine rs [1] [] [16] ?_;refine AC (rx (s:=?s2) [1,13] [] [] rfl ?o2 ?q2)
 case o2=>simp;refine Aq am (by simp) ?_;simp;rfl
 refine AE _ rfl (λ h3=>by cases h3) λ h3=>?_
 refine AJ (arc ⟨112,[(1,.pv (nC ⟨N,A⟩)),(4,.rs 88 0 A.length)],[(88,some ⟨1,AD (A.map λ _=>0),0⟩)],104⟩ ?_ ?_)
 .simp
  refine⟨by omega,by omega,?_⟩
  exact AF [(88,88)] [] (by simp) (by simp[Vq,AB])
 refine AL (Ae (ι:=List Int) (λ f=>⟨112,[(1,.pv (nC ⟨N,A⟩)),(4,.rs 88 0 A.length)],[(88,some ⟨1,AD f,0⟩)],104⟩) (λ f=>BN N A f) (λ f=>(BQ (λ x=>decide (x=0)) A - AZ A f).toNat) (A.map λ _=>0) (Mp a9) (Av [(88,88)] []) ?_);intro f hf;have b2:=hf.fit.len;obtain⟨⟨D,b⟩,⟨hb,c0⟩,a2⟩:=bt f b2;simp only at hb c0 a2;have cd:=hb.len;have b3:∀ g:Int->List AV,List.take A.length (List.map g f)=List.map g f:=λ g=>Qb (by simp;omega)
 refine AL ?_;apply ax [1,4,5] [(88,88),(120,90)] [] 200
 .simp
  refine HY [88] a2 (by simp[AB,b3,b2]) (.rs _ _ _) K4 ?_
  simp;rfl
 obtain⟨y1,b4⟩:∃ y,y=b.getD 1 0:=⟨_,rfl⟩;have ck:b[1]? = some y1:=by rw[b4,Qe,Qc (by omega),QB]
 refine AC ?_;apply ax [1,4,5,24] [(88,88),(90,90)] [] 300
 .have cl:(1:Int)<N:=by omega
  simp[ck,cl];rfl
 have a3:∀ k:Nat,k<N->b[k]? = some (b.getD k 0):=λ k hk=>by rw[Qe,Qc (by omega),QB]
 refine AE _ rfl (λ h8=>?_) λ h8=>?_
 .simp at h8
  refine ar [2,3] [(88,88)] [] 400 ?_
  have b5:(1:Int)∉D:=λ hm=>by
   have h2:=hb.inn 1 hm (by decide)
   exact h2 (by rw[show b.getD (Int.toNat 1) 0=y1 from b4.symm,h8])
  exact BG (F4.mk (.inr rfl) f ⟨hf,(Ji a9 hf hb.mem0 b5 c0).2⟩ (AS.out [88] [] rfl (by simp) (by simp) (by simp) (by simp[AB])))
 simp at h8;have b5:(1:Int)∈D:=Q6 λ hm=>h8 (by rw[b4];exact hb.out 1 (by decide) hm)
 obtain⟨l,hl⟩:=hb.chain b5;have ad:=Nn hl.way;have an:=HB.1 hf.fit
 have cp:∀ s∈l,s.1<f.length:=λ s hs=>by
  obtain⟨i,hi,rfl⟩:=QG.1 hs;have:=(hl.at_ i hi).1;omega
 have d2:0<l.length:=by
  cases cq:l with
  | nil=>rw[cq] at ad;cases ad
  | cons=>simp
 refine AJ (ar [1,4,5,6] [(88,88),(90,90)] [] 400 ?_);refine FO (ι:=Int) (λ v=>⟨112,[(1,.pv (nC ⟨N,A⟩)),(4,.rs 88 0 A.length),(5,.rs 90 0 N),(6,.I v)],[(88,some ⟨1,AD f,0⟩),(90,some ⟨1,AD b,0⟩)],600⟩) (λ v=>1<=v/\v<=1048576/\IS A f l 0 v) ?_ λ v hv=>?_
 .refine ar [1,4,5,6,7] [(88,88),(90,90)] [] 500 ?_
  refine AL ?_
  refine Ae (ι:=nP) (λ s=>⟨112,[(1,.pv (nC ⟨N,A⟩)),(4,.rs 88 0 A.length),(5,.rs 90 0 N),(6,.I s.v),(7,.I (Ct A 0 l s.j))],[(88,some ⟨1,AD f,0⟩),(90,some ⟨1,AD b,0⟩)],600⟩)
   (λ s=>s.j<=l.length/\1<=s.v/\s.v<=1048576/\IS A f l s.j s.v) (λ s=>s.j) ⟨l.length,1048576⟩ ⟨Qk _,by simp,by simp,by simp[IS]⟩ (AF [(88,88),(90,90)] [] (by simp[ad]) (by simp[AB])) ?_
  rintro⟨j,v⟩ ⟨hj,b6,bf,a4⟩
  simp only at hj b6 bf a4;refine AC (rk (s:=?s12) [1,4,5,6,7,27] [88,90] rfl ?o12 ?q12)
  case o12=>simp;rfl
  refine AE _ rfl (λ a0=>?_) λ a0=>?_
  .simp at a0
   obtain⟨i,rfl⟩:∃ i,j=i+1:=by
    cases j with
    | zero=>exact absurd rfl a0
    | succ i=>exact⟨i,rfl⟩
   have hi:i<l.length:=by omega
   obtain⟨q1,q2,q3,q4,q5,q6⟩:=hl.at_ i hi;have h4:=hl.from_ i hi;obtain⟨s,hs⟩:=AG (l[i])
   have hk:Ct A 0 l (i+1)=Ax A s:=by
    show Ax A (l.getD i (0,false))=_;rw[Qe,Qc hi,hs];rfl
   have ag:∀ v':Int,v'<=v->v'<=B6 A f s->IS A f l i v':=λ v' h1 h2 t ht=>by
    rw[QP hi,<- hs] at ht;rcases Qs.1 ht with rfl | ht
    .exact h2
    .exact Int.le_trans h1 (a4 t ht)
   rw[<- hs] at q1 q2 q3 q4 q5 q6 h4;rw[hk];obtain⟨k,bo⟩:=AG (Ax A s);rw[<- bo] at q4 q5 q6 ⊢;have a5:=a3 k.toNat (by omega)
   obtain⟨x,hx⟩:=AG (CT s);rw[q6,<- hx] at a5;refine AJ (AL (rk (s:=?s14) [1,4,5,6,8] [88,90] rfl ?o14 ?q14))
   case o14=>simp[a5,q4,q5];rfl
   have bs:=an.2 s.1 q1;have a6:=b1 _ (H5 q1);obtain⟨e,he⟩:=AG (AP A s.1);obtain⟨w,hw⟩:=AG (f.getD s.1 0);have h9:A[s.1]? = some e:=by rw[he];unfold AP;rw[Qe,Qc q1,QB]
   have ha:f[s.1]? = some w:=by rw[hw,Qe,Qc (by omega),QB]
   rw[<- he,<- hw] at bs;rw[<- he] at a6;obtain⟨e1,e2,e3,e4,e5,e6,e7,e8,e9⟩:=a6;obtain⟨a,c⟩:=s;simp only at q1 h9 ha he hw;have h0:a<A.length:=q1;have hc:(0:Int)<=a/\(a:Int)<A.length:=by omega
   have h5:a<f.length:=by omega
   have hd:A[a]=e:=by rw[Qc h0] at h9;exact Qf h9
   have a7:f[a]=w:=by rw[Qc h5] at ha;exact Qf ha
   cases c with
   | false =>
     have hh:CT (a,false)=(a:Int)+1:=rfl;have ho:B6 A f (a,false)=e.v - w:=by unfold B6;simp[he,hw]
     have hq:Cb A (a,false)=e.f:=by unfold Cb;simp[he]
     rw[hh] at hx;rw[hq] at h4;rw[ho] at q2 ag;have h7:IntKind.i64.wrap (x - 1)=(a:Int):=by rw[w6];omega
     have a8:=w6 (x:=e.v - w);refine rk (s:=?s15) [1,4,5,6,8,33] [88,90] rfl ?o15 ?q15
     case o15=>simp;rfl
     refine AE _ rfl (λ h6=>?_) λ h6=>?_
     .refine Cr rfl ?_
      simp[h7,a8,hc,h0,h5,hd,a7];refine⟨rfl,⟨i,if e.v - w<v then e.v - w else v⟩,⟨by simp only;omega,by simp only;split<;>omega,by simp only;split<;>omega,ag (if e.v - w<v then e.v - w else v) (by split<;>omega) (by split<;>omega)⟩,Nat.lt_succ_self i,AF [(88,88),(90,90)] [] (by simp[h4]) (by simp[AB])⟩
     .simp at h6
      omega
   | true =>
     have hh:CT (a,true) = -((a:Int)+1):=rfl;have ho:B6 A f (a,true)=w:=by unfold B6;simp[hw]
     have hq:Cb A (a,true)=e.t:=by unfold Cb;simp[he]
     rw[hh] at hx;rw[hq] at h4;rw[ho] at q2 ag;have ai:IntKind.i64.wrap (-x)=(a:Int)+1:=by rw[w6];omega
     have h7:=w6 (x:=(a:Int));refine rk (s:=?s25) [1,4,5,6,8,33] [88,90] rfl ?o25 ?q25
     case o25=>simp;rfl
     refine AE _ rfl (λ h6=>?_) λ h6=>?_
     .simp at h6
      omega
     .refine Cr rfl ?_
      simp[ai,h7,hc,h0,h5,hd,a7];refine⟨rfl,⟨i,if w<v then w else v⟩,⟨by simp only;omega,by simp only;split<;>omega,by simp only;split<;>omega,ag (if w<v then w else v) (by split<;>omega) (by split<;>omega)⟩,Nat.lt_succ_self i,AF [(88,88),(90,90)] [] (by simp[h4]) (by simp[AB])⟩
  simp at a0
  obtain rfl:j=0:=by
   cases j with
   | zero=>rfl
   | succ i =>
     have h2:=(hl.at_ i (by omega)).2.2.1
     refine absurd ?_ h2;have h3:Ct A 0 l (i+1)=Ax A (l.getD i (0,false)):=rfl;rw[h3,Qe,Qc (by omega)] at a0
     exact a0
  exact Aa (hit ⟨v,⟨b6,bf,a4⟩,Av [(88,88),(90,90)] []⟩)
 obtain⟨b6,bf,a4⟩:=hv;have au:∀ s∈l,v<=B6 A f s:=λ s hs=>a4 s (by simpa using hs)
 obtain⟨c1,c2⟩:=hl.push a9 hf (by omega) au
 have d1:=KA (S:=λ x=>decide (x=0)) a9 c1 (by simp) (by simp)
 refine ar [1,4,5,6,9] [(88,88),(90,90)] [] 700 ?_;refine AL ?_
 refine Ae (ι:=Nat) (λ j=>⟨112,[(1,.pv (nC ⟨N,A⟩)),(4,.rs 88 0 A.length),(5,.rs 90 0 N),(6,.I v),(9,.I (Ct A 0 l j))],[(88,some ⟨1,AD (EW v f l j),0⟩),(90,some ⟨1,AD b,0⟩)],800⟩)
  (λ j=>j<=l.length) (λ j=>j) l.length (Qk _) (AF [(88,88),(90,90)] [] (by simp[ad]) (by simp[AB,RT])) ?_
 intro j hj;refine AC (arc ⟨112,[(1,.pv (nC ⟨N,A⟩)),(4,.rs 88 0 A.length),(5,.rs 90 0 N),(6,.I v),(9,.I (Ct A 0 l j)),(73,.B (!decide (Ct A 0 l j=0)))],[(88,some ⟨1,AD (EW v f l j),0⟩),(90,some ⟨1,AD b,0⟩)],900⟩ ?_ ?_)
 .simp
  exact AF [(88,88),(90,90)] [] (by simp<;>exact Aw (by rw[Qp];simp)) (by simp[AB])
 refine AE _ rfl (λ a1=>?_) λ a1=>?_
 .simp at a1
  obtain⟨i,rfl⟩:∃ i,j=i+1:=by
   cases j with
   | zero=>exact absurd rfl a1
   | succ i=>exact⟨i,rfl⟩
  have hi:i<l.length:=by omega
  obtain⟨q1,q2,q3,q4,q5,q6⟩:=hl.at_ i hi;have h4:=hl.from_ i hi;have hu:=Wu (v:=v) (f:=f) i hi;have hz:=zqE (v:=v) hl.nodup cp i hi;have hy:=au _ (Qj hi);obtain⟨s,hs⟩:=AG (l[i])
  have hk:Ct A 0 l (i+1)=Ax A s:=by
   show Ax A (l.getD i (0,false))=_;rw[Qe,Qc hi,hs];rfl
  rw[<- hs] at q1 q2 q3 q4 q5 q6 h4 hu hz hy;rw[hk];obtain⟨k,bo⟩:=AG (Ax A s);rw[<- bo] at q4 q5 q6 ⊢;have a5:=a3 k.toNat (by omega)
  obtain⟨x,hx⟩:=AG (CT s);rw[q6,<- hx] at a5;have d0:(EW v f l (i+1)).length=A.length:=by rw[Rb,b2]
  obtain⟨F,hF⟩:=AG (EW v f l (i+1));rw[<- hF] at d0 hz hu ⊢;have bs:=an.2 s.1 q1;have a6:=b1 _ (H5 q1);obtain⟨e,he⟩:=AG (AP A s.1);obtain⟨w,hw⟩:=AG (f.getD s.1 0);have h9:A[s.1]? = some e:=by rw[he];unfold AP;rw[Qe,Qc q1,QB]
  have ha:F[s.1]? = some w:=by rw[hw,<- hz,Qe,Qc (by omega),QB]
  rw[<- he,<- hw] at bs;rw[<- he] at a6;obtain⟨e1,e2,e3,e4,e5,e6,e7,e8,e9⟩:=a6;obtain⟨a,c⟩:=s;simp only at q1 h9 ha he hw;have h0:a<A.length:=q1;have hc:(0:Int)<=a/\(a:Int)<A.length:=by omega
  have h5:a<F.length:=by omega
  have hd:A[a]=e:=by rw[Qc h0] at h9;exact Qf h9
  have a7:F[a]=w:=by rw[Qc h5] at ha;exact Qf ha
  have av:EW v f l i=F.set a (w+if c then -v else v):=by rw[hu];unfold Fv;simp only[hz];rw[hw]
  refine AJ (AL ?_);apply ax [1,4,5,6,10] [(88,88),(90,90)] [] 1000
  .simp [a5,q4,q5]
   rfl
  refine ar [1,4,5,6,10,79] [(88,88),(90,90)] [] 1100 ?_
  cases c with
  | false =>
    have hh:CT (a,false)=(a:Int)+1:=rfl;have ho:B6 A f (a,false)=e.v - w:=by unfold B6;simp[he,hw]
    have hq:Cb A (a,false)=e.f:=by unfold Cb;simp[he]
    rw[hh] at hx;rw[hq] at h4;rw[ho] at hy;have h7:IntKind.i64.wrap (x - 1)=(a:Int):=by rw[w6];omega
    have a8:=w6 (x:=w+v);refine AE _ rfl (λ h6=>?_) λ h6=>?_
    .apply ax [1,4,5,6,10] [(88,88),(90,90)] [] 1300
     .simp [h7,a8,hc,h0,h5,hd,a7,Ay]
      rfl
     refine Ac rfl ?_;simp[h7,hc,h0,hd];exact⟨i,by omega,by omega,AF [(88,88),(90,90)] [] (by simp[h4]) (by simp[AB,av])⟩
    .simp at h6
     omega
  | true =>
    have hh:CT (a,true) = -((a:Int)+1):=rfl;have ho:B6 A f (a,true)=w:=by unfold B6;simp[hw]
    have hq:Cb A (a,true)=e.t:=by unfold Cb;simp[he]
    rw[hh] at hx;rw[hq] at h4;rw[ho] at hy;have ai:IntKind.i64.wrap (-x)=(a:Int)+1:=by rw[w6];omega
    have h7:=w6 (x:=(a:Int));have a8:IntKind.i64.wrap (w - v)=w + -v:=by rw[w6];omega
    refine AE _ rfl (λ h6=>?_) λ h6=>?_
    .simp at h6
     omega
    .apply ax [1,4,5,6,10] [(88,88),(90,90)] [] 1300
     .simp [ai,h7,a8,hc,h0,h5,hd,a7,Ay]
      rfl
     refine Ac rfl ?_;simp[ai,h7,hc,h0,hd];exact⟨i,by omega,by omega,AF [(88,88),(90,90)] [] (by simp[h4]) (by simp[AB,av])⟩
 simp at a1
 obtain rfl:j=0:=by
  cases j with
  | zero=>rfl
  | succ i =>
    have h2:=(hl.at_ i (by omega)).2.2.1
    refine absurd ?_ h2;have h3:Ct A 0 l (i+1)=Ax A (l.getD i (0,false)):=rfl;rw[h3,Qe,Qc (by omega)] at a1
    exact a1
 exact Aa (hit ⟨EW v f l 0,c1,by rw[c2];omega,Av [(88,88)] []⟩)
theorem TJ:C3 (Value.agg #[Value.int IntKind.i64 0,Value.bool false]) = .agg [.sc (.int .i64 0),.sc (.bool false)]:=by simp[C3,Value.oneCell']
theorem Y2 {a b:Int}:Plain (.tup [.I a,.I b]):=.tup _ λ i=>match i with
 | 0=>.sc _
 | 1=>.sc _
 | _+2=>.dead
structure oP where
 j:Nat
 v:Int
def Dz (l:List Ba) (j:Nat):List Ba:=(l.drop j).reverse
theorem ztq (l:List Ba) (j:Nat):(Dz l j).length=l.length - j:=by simp[Dz]
theorem vQ {l:List Ba} {j:Nat} (h:j<l.length):Dz l j=Dz l (j+1)++[l[j]]:=by
 unfold Dz;rw[QP h,List.reverse_cons]
theorem tU (l:List Ba):Dz l l.length=[]:=by simp[Dz]
theorem fD {N:Nat} {A:List Ed} {f D b:List Int} {l:List Ba} (hb:DA N A f D b) (hl:KU N A f b l) {j:Nat} (hj:j<l.length):Bg D b (Ax A l[j])=some (J6 l[j]):=by
 obtain⟨q1,q2,q3,q4,q5,q6⟩:=hl.at_ j hj;have hD:Ax A l[j]∈D:=Q6 λ h=>WH l[j] (by rw[<- q6];exact hb.out _ q4 h)
 unfold Bg;rw[if_pos hD,if_neg q3,q6,zst]
theorem tZ (N:Nat) (A:List Ed) (f:List Int) (hn:Cu ⟨N,A⟩) (hf:BN N A f) :
  ∃ x:Bool × List Int,(if x.1 then BN N A x.2/\AZ A f+1<=AZ A x.2 else x.2=f /\ ∀ f',BN N A f'->AZ A f'<=AZ A f)/\AcP 177 [eR N A (.rs 0 0 A.length)] [⟨1,AD f,0⟩] (.B x.1) [some ⟨1,AD x.2,0⟩]:=by
 refine Z8.s.acallsX (args:=[eR N A (.rs 0 0 A.length)]) (hs:=[⟨1,AD f,0⟩]) (λ x=>.B x.1) (λ x=>[some ⟨1,AD x.2,0⟩]) (λ x:Bool × List Int=>if x.1 then BN N A x.2/\AZ A f+1<=AZ A x.2 else x.2=f /\ ∀ f',BN N A f'->AZ A f'<=AZ A f) (CL rfl) (CL rfl) (λ _=>by simp) ?_
 show A2 _ 1 _ _ ⟨86,[(0,eR N A (.rs 0 0 A.length))],[(0,some ⟨1,AD f,0⟩)],16⟩;have b6:=HH hn;have a8:=hf.fit.len;have a3:=HB.1 hf.fit;obtain⟨⟨D,b,R⟩,⟨hb,bf,hR⟩,ha⟩:=Sj N A f hn hf.fit;simp only at hb bf hR ha;have a9:=λ s hs=>T8 N A f s hn hf.fit hs;obtain⟨cl,cp,cq,ad⟩:=hn;simp only at cl cp cq ad;have hd:∀ g:Int->List AV,List.take A.length (List.map g f)=List.map g f:=λ g=>Qb (by simp;omega)
 have he:=hR.is.find;have ag:=Pq D b 1;refine ar [1] [(0,0),(16,16)] [] 32 ?_;refine arc ⟨86,[(1,.pt 16 0 0),(3,.mp 60)],[(0,some ⟨1,AD f,0⟩),(16,some ⟨4,[rC N A (.rs 0 0 A.length)],0⟩),(60,some ⟨0,R,0⟩)],100⟩ ?_ ?_
 .simp
  refine HY [0] ha (by simp[AB,hd,a8]) (.mp _) (hR.plain _ _) ?_
  simp;exact AF [(0,0),(16,16),(40,60)] [] (by simp) (by simp[AB,hR.conv'])
 refine AC ?_
 have d0:∃ u v,(Bg D b 1).getD (C3 (Value.agg #[Value.int IntKind.i64 0,Value.bool false])) = .agg [.sc u,.sc v]:=by
  cases hc:Bg D b 1 with
  | none=>exact⟨_,_,TJ⟩
  | some x =>
    obtain⟨u,v,rfl⟩:=Kg _ _ _ _ hc;exact⟨u,v,rfl⟩
 refine arc ⟨86,[(1,.pt 16 0 0),(3,.mp 60),(5,.B (decide ((1:Int)∈D)))],[(0,some ⟨1,AD f,0⟩),(16,some ⟨4,[rC N A (.rs 0 0 A.length)],0⟩),(60,some ⟨0,R,0⟩)],200⟩ ?_ ?_
 .obtain ⟨u,v,d1⟩:=d0
  simp[he,ag,d1];exact AF [(0,0),(16,16),(60,60)] [] (by simp) (by simp[AB,hR.conv'])
 refine arc ⟨86,[(1,.pt 16 0 0),(3,.mp 60),(22,.B (!decide ((1:Int)∈D)))],[(0,some ⟨1,AD f,0⟩),(16,some ⟨4,[rC N A (.rs 0 0 A.length)],0⟩),(60,some ⟨0,R,0⟩)],300⟩ ?_ ?_
 .simp
  exact AF [(0,0),(16,16),(60,60)] [] (by simp) (by simp[AB,hR.conv'])
 refine AE _ rfl (λ h5=>?_) λ h5=>?_
 .have ai:(1:Int)∉D:=by simpa using h5
  refine ar [2] [(0,0)] [] 400 ?_;exact BG (F4.mk (.inr rfl) (false,f) ⟨rfl,(Ji b6 hf hb.mem0 ai bf).2⟩ (AS.k1 rfl (by simp) (by simp[AB])))
 have ai:(1:Int)∈D:=by simpa using h5
 obtain⟨l,hl⟩:=hb.chain ai;have am:=Nn hl.way
 have bo:∀ s∈l,s.1<f.length:=λ s hs=>by
  obtain⟨i,hi,rfl⟩:=QG.1 hs;have:=(hl.at_ i hi).1;omega
 have dn:0<l.length:=by
  cases d2:l with
  | nil=>rw[d2] at am;cases am
  | cons=>simp
 have ds:l.length<=A.length:=by
  have:=Gw (a:=l.map λ s=>(s.1:Int)) (b:=(List.range A.length).map λ i:Nat=>(i:Int)) (by
   have:=hl.nodup;have e:(l.map λ s=>(s.1:Int))=(l.map (·.1)).map λ i:Nat=>(i:Int):=by simp
   rw[e]
   exact IY (λ i j h=>by have h2:(i:Int)=j:=h;omega) this) λ x hx=>by
   obtain⟨s,hs,rfl⟩:=Qi.1 hx;exact Qi.2 ⟨s.1,Qy.2 (by have:=bo s hs;omega),rfl⟩
  rw[Qr,Qr,UB] at this;exact this
 have bs:=λ j (hj:j<l.length)=>fD hb hl hj;refine AJ (arc ⟨86,[(1,.pt 16 0 0),(3,.mp 60),(6,.rs 61 0 0)],[(0,some ⟨1,AD f,0⟩),(16,some ⟨4,[rC N A (.rs 0 0 A.length)],0⟩),(60,some ⟨0,R,0⟩),(61,some ⟨2,[],0⟩)],400⟩ ?_ ?_)
 .simp
  refine Le.lst [(0,0),(16,16),(60,60)] [] [(61,2)] rfl (by simp) (by simp) (by simp) (by simp) (by simp) (by simp) (by simp) (by simp[Up]) ?_
  simp[AB,hR.conv']
  exact⟨Am.rfl' (Qh _),Am.rfl' (Qh _),Am.rfl' (Qh _)⟩
 refine ar [1,3,6,7] [(0,0),(16,16),(60,60),(61,61)] [] 500 ?_;refine FO (ι:=Int) (λ v=>⟨86,[(1,.pt 16 0 0),(6,.rs 61 0 l.length),(7,.I v)],[(0,some ⟨1,AD f,0⟩),(16,some ⟨4,[rC N A (.rs 0 0 A.length)],0⟩),(61,some ⟨2,(Dz l 0).map DF,0⟩)],600⟩) (λ v=>1<=v/\v<=1048576/\IS A f l 0 v) ?_ λ v hv=>?_
 .refine arc ⟨86,[(1,.pt 16 0 0),(3,.mp 60),(6,.rs 61 0 0),(7,.I 1048576),(8,.I 1)],[(0,some ⟨1,AD f,0⟩),(16,some ⟨4,[rC N A (.rs 0 0 A.length)],0⟩),(60,some ⟨0,R,0⟩),(61,some ⟨2,[],0⟩)],600⟩ ?_ ?_
  .simp
   exact AF [(0,0),(16,16),(60,60),(61,61)] [] (by simp) (by simp[AB,hR.conv'])
  refine AL ?_
  refine Ae (ι:=oP) (λ s=>⟨86,[(1,.pt 16 0 0),(3,.mp 60),(6,.rs 61 0 (l.length - s.j)),(7,.I s.v),(8,.I (Ct A 0 l s.j))],[(0,some ⟨1,AD f,0⟩),(16,some ⟨4,[rC N A (.rs 0 0 A.length)],0⟩),(60,some ⟨0,R,0⟩),(61,some ⟨2,(Dz l s.j).map DF,0⟩)],600⟩)
   (λ s=>s.j<=l.length/\1<=s.v/\s.v<=1048576/\IS A f l s.j s.v) (λ s=>s.j) ⟨l.length,1048576⟩ ⟨Qk _,by simp,by simp,by simp[IS]⟩ (AF [(0,0),(16,16),(60,60),(61,61)] [] (by simp[am]) (by simp[AB,hR.conv',tU])) ?_
  rintro⟨j,v⟩ ⟨hj,an,au,hh⟩
  simp only at hj an au hh;refine AC (arc ⟨86,[(1,.pt 16 0 0),(3,.mp 60),(6,.rs 61 0 (l.length - j)),(7,.I v),(8,.I (Ct A 0 l j)),(24,.B (!decide (Ct A 0 l j=0)))],[(0,some ⟨1,AD f,0⟩),(16,some ⟨4,[rC N A (.rs 0 0 A.length)],0⟩),(60,some ⟨0,R,0⟩),(61,some ⟨2,(Dz l j).map DF,0⟩)],700⟩ ?_ ?_)
  .simp
   exact AF [(0,0),(16,16),(60,60),(61,61)] [] (by simp<;>exact Aw (by rw[Qp];simp)) (by simp[AB,hR.conv'])
  refine AE _ rfl (λ h9=>?_) λ h9=>?_
  .simp at h9
   obtain⟨i,rfl⟩:∃ i,j=i+1:=by
    cases j with
    | zero=>exact absurd rfl h9
    | succ i=>exact⟨i,rfl⟩
   have hi:i<l.length:=by omega
   obtain⟨q1,q2,q3,q4,q5,q6⟩:=hl.at_ i hi;have av:=hl.from_ i hi;have b1:=bs i hi;have hu:=vQ hi;have d3:=ztq l (i+1);obtain⟨s,hs⟩:=AG (l[i])
   have hk:Ct A 0 l (i+1)=Ax A s:=by
    show Ax A (l.getD i (0,false))=_;rw[Qe,Qc hi,hs];rfl
   have bt:∀ v':Int,v'<=v->v'<=B6 A f s->IS A f l i v':=λ v' h1 h2 t ht=>by
    rw[QP hi,<- hs] at ht;rcases Qs.1 ht with rfl | ht
    .exact h2
    .exact Int.le_trans h1 (hh t ht)
   rw[<- hs] at q1 q2 q3 q4 q5 q6 av b1 hu;have b2:=a9 s q1
   have c0:B6 A f s<=1048576:=by
    have h1:=a3.2 s.1 q1;have h2:=(ad _ (H5 q1)).2.2.2.2.2.2.2.2;unfold B6;split<;>omega
   rw[hk];obtain⟨k,d4⟩:=AG (Ax A s);obtain⟨rm,d7⟩:=AG (B6 A f s);obtain⟨W,hW⟩:=AG (Dz l (i+1));rw[<- d4] at q3 q4 q5 q6 b1 b2 ⊢;rw[<- d7] at q2 b2 c0 bt;rw[<- hW] at hu d3;have hy:=W8 q1;have c1:l.length - (i+1)=W.length:=by omega
   rw[c1,<- hW];refine AJ (AL ?_);apply ax [1,3,6,7,9] [(0,0),(16,16),(60,60),(61,61)] [724] 800
   .simp [he,b1,J6]
    rfl
   refine arc ⟨86,[(1,.pt 16 0 0),(3,.mp 60),(6,.rs 61 0 W.length),(7,.I v),(9,.pv (DF s)),(10,.I rm)],[(0,some ⟨1,AD f,0⟩),(16,some ⟨4,[rC N A (.rs 0 0 A.length)],0⟩),(60,some ⟨0,R,0⟩),(61,some ⟨2,W.map DF,0⟩)],900⟩ ?_ ?_
   .simp
    refine Hk [0] b2 (by simp[AB,hd,a8]) Y2 ?_
    simp;exact AF [(0,0),(16,16),(60,60),(61,61)] [] (by simp) (by simp[AB,hR.conv'])
   refine arc ⟨86,[(1,.pt 16 0 0),(3,.mp 60),(6,.rs 62 0 (W.length+1)),(7,.I (if rm<v then rm else v)),(9,.pv (DF s))],[(0,some ⟨1,AD f,0⟩),(16,some ⟨4,[rC N A (.rs 0 0 A.length)],0⟩),(60,some ⟨0,R,0⟩),(62,some ⟨2,(W++[s]).map DF,0⟩)],1000⟩ ?_ ?_
   .have b3:∀ g:Ba->List AV,List.take W.length (List.map g W)=List.map g W:=λ g=>Qb (by simp)
    simp[b3];exact⟨by omega,by omega,AF [(0,0),(16,16),(60,60),(924,62)] [] (by simp) (by simp[AB,hR.conv'])⟩
   have hz:Cb A s=if s.2 then (AP A s.1).t else (AP A s.1).f:=rfl
   have dt:(s.1:Int)<A.length:=by omega
   apply ax [1,3,6,7,8,9] [(0,0),(16,16),(60,60),(62,62)] [] 1100
   .have ho:A[s.1]=AP A s.1:=by rw[Qc q1] at hy;exact Qf hy
    simp[q1,ho];rfl
   refine arc ⟨86,[(1,.pt 16 0 0),(3,.mp 60),(6,.rs 62 0 (W.length+1)),(7,.I (if rm<v then rm else v)),(8,.I (AP A s.1).f),(9,.pv (DF s)),(50,.B s.2)],[(0,some ⟨1,AD f,0⟩),(16,some ⟨4,[rC N A (.rs 0 0 A.length)],0⟩),(60,some ⟨0,R,0⟩),(62,some ⟨2,(W++[s]).map DF,0⟩)],1200⟩ ?_ ?_
   .simp
    exact AF [(0,0),(16,16),(60,60),(62,62)] [] (by simp) (by simp[AB,hR.conv'])
   have a4:l.length - i=W.length+1:=by omega
   have a5:i<=l.length/\1<=(if rm<v then rm else v)/\(if rm<v then rm else v)<=1048576/\IS A f l i (if rm<v then rm else v):=⟨by omega,by split<;>omega,by split<;>omega,bt _ (by split<;>omega) (by split<;>omega)⟩
   refine AE _ rfl (λ h0=>?_) λ h0=>?_
   .have ho:A[s.1]=AP A s.1:=by rw[Qc q1] at hy;exact Qf hy
    rw[if_pos h0] at hz;refine Ac rfl ?_;simp[q1,ho];exact⟨⟨i,if rm<v then rm else v⟩,a5,Nat.lt_succ_self i,AF [(0,0),(16,16),(60,60),(62,61)] [] (by simp[a4,<- av,hz]) (by simp[AB,hR.conv',hu])⟩
   .rw [if_neg (by simp[h0])] at hz
    exact AJ ⟨⟨i,if rm<v then rm else v⟩,a5,Nat.lt_succ_self i,AF [(0,0),(16,16),(60,60),(62,61)] [] (by simp[a4,<- av,hz]) (by simp[AB,hR.conv',hu])⟩
  simp at h9
  obtain rfl:j=0:=by
   cases j with
   | zero=>rfl
   | succ i =>
     have h2:=(hl.at_ i (by omega)).2.2.1
     refine absurd ?_ h2;have h3:Ct A 0 l (i+1)=Ax A (l.getD i (0,false)):=rfl;rw[h3,Qe,Qc (by omega)] at h9
     exact h9
  exact Aa (hit ⟨v,⟨an,au,hh⟩,Av [(0,0),(16,16),(61,61)] []⟩)
 obtain⟨an,au,hh⟩:=hv;have a6:∀ s∈l,v<=B6 A f s:=λ s hs=>hh s (by simpa using hs)
 obtain⟨dd,c2⟩:=hl.push b6 hf (by omega) a6
 have b4:=ztq l 0;obtain⟨W,hW⟩:=AG (Dz l 0);rw[<- hW] at b4 ⊢;have b4:l.length=W.length:=by omega
 refine AC (arc ⟨86,[(1,.pt 16 0 0),(7,.I v),(59,.vs 2 false (W.map DF)),(60,.I W.length),(61,.I 0)],[(0,some ⟨1,AD f,0⟩),(16,some ⟨4,[rC N A (.rs 0 0 A.length)],0⟩)],700⟩ ?_ ?_)
 .have b3:∀ g:Ba->List AV,List.take W.length (List.map g W)=List.map g W:=λ g=>Qb (by simp)
  simp;exact AF [(0,0),(16,16)] [61] (by simp[b4,b3,AB]) (by simp[AB])
 refine AL (Ae (ι:=Nat) (λ i=>⟨86,[(1,.pt 16 0 0),(7,.I v),(59,.vs 2 false (W.map DF)),(60,.I W.length),(61,.I i)],[(0,some ⟨1,AD (EW v f l (l.length - i)),0⟩),(16,some ⟨4,[rC N A (.rs 0 0 A.length)],0⟩)],700⟩) (λ i=>i<=W.length) (λ i=>W.length - i) 0 (Qh _) (AF [(0,0),(16,16)] [] (by simp) (by simp[AB,RT])) ?_)
 intro i hi;have a7:(EW v f l (l.length - i)).length=A.length:=by rw[Rb,a8]
 refine ar [1,7,59,60,61,62] [(0,0),(16,16)] [] 800 ?_;refine AC (AE _ rfl (λ hq=>?_) λ hq=>?_)
 .simp at hq
  have c3:=w6 (x:=(i:Int)+1);obtain⟨j,hj⟩:∃ j,l.length - i=j+1:=⟨l.length - i - 1,by omega⟩
  have a0:j<l.length:=by omega
  have c4:l.length - (i+1)=j:=by omega
  have cb:W[i]=l[j]:=by
   have:W[i]? = some l[j]:=by
    rw[hW];unfold Dz;rw[List.drop_zero,List.getElem?_reverse (by omega),Qc (by omega)]
    congr 1
    congr 1
    omega
   rw[Qc hq] at this;exact Qf this
  rw[hj] at a7 ⊢;obtain⟨q1,q2,q3,q4,q5,q6⟩:=hl.at_ j a0;have h4:=Wu (v:=v) (f:=f) j a0;have h6:=zqE (v:=v) hl.nodup bo j a0;have a1:=a6 _ (Qj a0);obtain⟨s,hs⟩:=AG (l[j]);rw[<- hs] at q1 h4 h6 a1 cb;obtain⟨F,hF⟩:=AG (EW v f l (j+1));rw[<- hF] at a7 h6 h4 ⊢;have df:=a3.2 s.1 q1;have e0:=(ad _ (H5 q1)).2.2.2.2.2.2.2.2;obtain⟨w,hw⟩:=AG (f.getD s.1 0);have a2:s.1<F.length:=by omega
  have cd:F[s.1]=w:=by
   have:F[s.1]? = some w:=by rw[hw,<- h6,Qe,Qc a2,QB]
   rw[Qc a2] at this;exact Qf this
  rw[<- hw] at df;have h7:EW v f l j=F.set s.1 (w+if s.2 then -v else v):=by rw[h4];unfold Fv;rw[h6,<- hw]
  have ck:B6 A f s=if s.2 then w else (AP A s.1).v - w:=by unfold B6;rw[<- hw]
  refine AJ (AC (AL ?_));apply ax [1,7,13,59,60,61] [(0,0),(16,16)] [816] 900
  .simp [hq,cb]
   rfl
  refine ar [1,7,13,59,60,61,66] [(0,0),(16,16)] [] 1000 ?_;have e1:(s.1:Int)<A.length:=by omega
  refine AE _ rfl (λ h0=>?_) λ h0=>?_
  .rw [if_pos h0] at h7 ck
   have b5:IntKind.i64.wrap (w - v)=w + -v:=by rw[w6];omega
   refine Ac rfl ?_;simp[q1,a2,cd,b5,Ay];refine Ac rfl ?_;simp;exact⟨i+1,by omega,by omega,AF [(0,0),(16,16)] [] (by simp[c3]) (by simp[AB,c4,h7])⟩
  .rw [if_neg (by simp[h0])] at h7 ck
   have b5:=w6 (x:=w+v);refine Ac rfl ?_;simp[q1,a2,cd,b5,Ay];refine Ac rfl ?_;simp;exact⟨i+1,by omega,by omega,AF [(0,0),(16,16)] [] (by simp[c3]) (by simp[AB,c4,h7])⟩
 simp at hq;obtain rfl:i=W.length:=by omega
 rw[show l.length - W.length=0 by omega]
 refine Aa (hit (ar [2] [(0,0)] [] 900 ?_));exact BG (F4.mk (.inr rfl) (true,EW v f l 0) ⟨dd,by rw[c2];omega⟩ (AS.k1 rfl (by simp) (by simp[AB])))
variable {g:Int->Int}
theorem M8 {φ:Ed->Int->Int}:∀ {A:List Ed} {f:List Int} (i:Nat) (h1:i<A.length) (h2:i<f.length),Ah φ (A.take (i+1)) (f.take (i+1))=Ah φ (A.take i) (f.take i)+φ A[i] f[i]
 | e::A,v::f,0,_,_=>by simp[Ah]
 | e::A,v::f,i+1,h1,h2=>by
   have:=M8 (φ:=φ) (A:=A) (f:=f) i (by simpa using h1) (by simpa using h2)
   simp only[List.take_succ_cons,Ah,this,List.getElem_cons_succ];omega
def BK (A:List Ed) (f:List Int) (i:Nat) (x:Int):Int:=Fy (A.take i) (f.take i) x - B4 (A.take i) (f.take i) x
variable {N:Nat} {A:List Ed} {f:List Int}
theorem zmB (x:Int):BK A f 0 x=0:=by simp[BK,Fy,B4,Ah]
theorem Nq {i:Nat} (h1:i<A.length) (h2:i<f.length) (x:Int):BK A f (i+1) x=BK A f i x+(if A[i].t=x then f[i] else 0) - if A[i].f=x then f[i] else 0:=by
 unfold BK Fy B4;rw[M8 i h1 h2,M8 i h1 h2];omega
theorem ztG (hl:f.length=A.length) (x:Int):BK A f A.length x = - Cv A f x:=by
 unfold BK Cv;rw[Qb (Qk _),Qb (by omega)]
 omega
theorem Oi (hl:f.length=A.length) (hb:∀ j (h:j<f.length),0<=f[j]/\f[j]<=1048576) (x:Int):∀ i,i<=A.length -> -(1048576*(i:Int))<=BK A f i x/\BK A f i x<=1048576*(i:Int)
 | 0,_=>by rw[zmB];omega
 | i+1,h=>by
   have ih:=Oi hl hb x i (by omega)
   have h2:=hb i (by omega)
   rw[Nq (by omega) (by omega)]
   split<;>split<;>omega
theorem zpS {i:Nat} (h1:i<A.length) (h2:i<f.length) (x:Int):B4 (A.take (i+1)) (f.take (i+1)) x=B4 (A.take i) (f.take i) x+if A[i].f=x then f[i] else 0:=by
 unfold B4;rw[M8 i h1 h2]
theorem RB (hl:f.length=A.length) (hb:∀ j (h:j<f.length),0<=f[j]/\f[j]<=1048576) (x:Int):∀ i,i<=A.length->0<=B4 (A.take i) (f.take i) x/\B4 (A.take i) (f.take i) x<=1048576*(i:Int)
 | 0,_=>by simp[B4,Ah]
 | i+1,h=>by
   have ih:=RB hl hb x i (by omega)
   have h2:=hb i (by omega)
   rw[zpS (by omega) (by omega)]
   split<;>omega
def A6 (N:Nat) (g:Int->Int):List Int:=(List.range N).map λ k:Nat=>g k
theorem JL (N:Nat) (g:Int->Int):(A6 N g).length=N:=by simp[A6]
theorem Iv {x:Int} (h0:0<=x) (h1:x<N):(A6 N g)[x.toNat]? = some (g x):=by
 unfold A6;rw[QA,List.getElem?_range (by omega)]
 simp only[Q8,Int.toNat_of_nonneg h0]
theorem Lq {x v:Int} (h0:0<=x) (h1:x<N):(A6 N g).set x.toNat v=A6 N λ y=>if y=x then v else g y:=by
 apply Vd;intro j
 by_cases hj:j<N
 .have e1:=Iv (N:=N) (g:=λ y=>if y=x then v else g y) (x:=(j:Int)) (by omega) (by omega)
  have e2:=Iv (N:=N) (g:=g) (x:=(j:Int)) (by omega) (by omega)
  simp only[Uu] at e1 e2;rw[U3,e1,e2,JL]
  by_cases hx:x.toNat=j
  .rw [if_pos hx,if_pos (by omega),if_pos (by omega)]
  .rw [if_neg hx,if_neg (by omega)]
 .rw [Q4 (by rw[Ur,JL];omega),Q4 (by rw[JL];omega)]
theorem zjz {h:Int->Int} (e:∀ x,g x=h x):A6 N g=A6 N h:=by
 obtain rfl:g=h:=funext e;rfl
theorem rD (hn:Cu ⟨N,A⟩) (hf:BN N A f):AcP 118 [eN ⟨N,A⟩,AA f] [] (.B true) []:=by
 refine nI.s.ai ?_;have ha:=hf.fit.len;have hh:=HB.1 hf.fit;have h9:=zhl ⟨N,A⟩ (by have:=hn.2.2.1;simp only at this ⊢;omega)
 rw[if_pos hn] at h9;obtain⟨a1,a2,a3,hb⟩:=hn;simp only at a1 a2 a3 hb
 have hc:∀ j (h:j<f.length),0<=f[j]/\f[j]<=(A[j]'(by omega)).v/\(A[j]'(by omega)).v<=1048576:=λ j hj=>by
  have h1:=hh.2 j (by omega)
  have e1:f.getD j 0=f[j]:=by rw[Qe,Qc hj,QB]
  have e2:AP A j=A[j]'(by omega):=by unfold AP;rw[Qe,Qc (by omega),QB]
  rw[e1,e2] at h1;exact⟨h1.1,h1.2,(hb _ (Qj (by omega))).2.2.2.2.2.2.2.2⟩
 have a4:=Oi ha λ j hj=>⟨(hc j hj).1,by have:=hc j hj;omega⟩
 refine rs [1,2] [] [16] ?_;refine AC (arc ⟨87,[(1,AA f),(2,.pv (nC ⟨N,A⟩)),(18,.B false)],[],120⟩ ?_ ?_)
 .simp
  refine Aj h9 ?_;simp;exact A5 [] (by simp<;>exact Aw (by simp[ha]))
 refine AE _ rfl (λ h3=>by cases h3) λ _=>?_
 refine AJ (arc ⟨87,[(1,AA f),(2,.pv (nC ⟨N,A⟩)),(5,.rs 136 0 N)],[(136,some ⟨1,AD (A6 N (BK A f 0)),0⟩)],144⟩ ?_ ?_)
 .simp
  refine⟨by omega,by omega,?_⟩
  have:A6 N (BK A f 0)=List.replicate N 0:=by
   unfold A6;simp only[zmB];simp[Vq]
  rw[this];exact Bk [(136,136)] []
 refine AC (Dw ⟨87,[(1,AA f),(2,.pv (nC ⟨N,A⟩)),(5,.rs 136 0 N),(6,.I 0)],[(136,some ⟨1,AD (A6 N (BK A f 0)),0⟩)],160⟩ [(136,136)] [] ?_);refine AL (Ae (ι:=Nat) (λ i=>⟨87,[(1,AA f),(2,.pv (nC ⟨N,A⟩)),(5,.rs 136 0 N),(6,.I i)],[(136,some ⟨1,AD (A6 N (BK A f i)),0⟩)],160⟩) (λ i=>i<=A.length) (λ i=>A.length - i) 0 (Qh _) (Av [(136,136)] []) ?_);intro i hi;refine AC (Dw ⟨87,[(1,AA f),(2,.pv (nC ⟨N,A⟩)),(5,.rs 136 0 N),(6,.I i),(25,.B (decide (i<f.length)))],[(136,some ⟨1,AD (A6 N (BK A f i)),0⟩)],192⟩ [(136,136)] [] ?_);refine AE _ rfl (λ h8=>?_) λ h8=>?_
 .simp at h8
  have h0:i<A.length:=by omega
  have hd:=w6 (x:=(i:Int)+1);obtain⟨b1,b2,b3⟩:=hc i h8;have hk:=hb _ (Qj h0);have h5:=Nq h0 h8;have ho:=λ x=>a4 x i (by omega)
  obtain⟨e,he⟩:=AG (A[i]);obtain⟨w,hw⟩:=AG (f[i]);rw[<- he,<- hw] at h5 b2;rw[<- hw] at b1;rw[<- he] at b3 hk;obtain⟨e1,e2,e3,e4,e5,_⟩:=hk;have ag:A[i]? = some e:=by rw[Qc h0,he]
  have am:f[i]? = some w:=by rw[Qc h8,hw]
  have hq:e.f<(N:Int)/\e.t<(N:Int):=by omega
  have h1:=ho e.f;have h2:=ho e.t;have a5:=w6 (x:=BK A f i e.f - w);have a6:=w6 (x:=BK A f i e.t+w);have a7:=Iv (N:=N) (g:=BK A f i) (x:=e.f) e1 (by omega)
  have hu:=Lq (N:=N) (g:=BK A f i) (x:=e.f) (v:=BK A f i e.f - w) e1 (by omega)
  obtain⟨g1,h6⟩:∃ g1:Int->Int,g1=λ y=>if y=e.f then BK A f i e.f - w else BK A f i y:=⟨_,rfl⟩
  rw[<- h6] at hu;have hv:g1 e.t=BK A f i e.t:=by rw[h6];exact if_neg λ h=>e5 h.symm
  have hx:=Iv (N:=N) (g:=g1) (x:=e.t) e3 (by omega)
  rw[hv] at hx;have hy:=Lq (N:=N) (g:=g1) (x:=e.t) (v:=BK A f i e.t+w) e3 (by omega)
  have a0:(A6 N λ y=>if y=e.t then BK A f i e.t+w else g1 y)=A6 N (BK A f (i+1)):=zjz λ x=>by
   rw[h5,h6];simp only
   by_cases h3:x=e.t
   .rw [h3,if_pos rfl,if_pos rfl,if_neg e5]
    omega
   .by_cases h4:x=e.f
    .rw [if_neg h3,if_pos h4,if_neg λ h=>h3 h.symm,if_pos h4.symm,h4]
     omega
    .rw [if_neg h3,if_neg h4,if_neg λ h=>h3 h.symm,if_neg λ h=>h4 h.symm]
     omega
  rw[a0] at hy;refine AJ (Ao ⟨87,[(1,AA f),(2,.pv (nC ⟨N,A⟩)),(5,.rs 136 0 N),(6,.I i)],[(136,some ⟨1,AD (A6 N (BK A f (i+1))),0⟩)],1000⟩ ?_ ?_)
  .refine AL (AC (CW ⟨87,[(1,AA f),(2,.pv (nC ⟨N,A⟩)),(5,.rs 136 0 N),(6,.I i),(45,.B false)],[(136,some ⟨1,AD (A6 N (BK A f i)),0⟩)],500⟩ ?_ ?_))
   .have a8:¬ w<0:=by omega
    have a9:¬ e.v<w:=by omega
    simp[h0,h8,<- he,<- hw,a8,a9];exact⟨rfl,Av [(136,136)] []⟩
   refine AE _ rfl (λ h=>by cases h) λ _=>?_
   refine AJ (CW ⟨87,[(1,AA f),(2,.pv (nC ⟨N,A⟩)),(5,.rs 136 0 N),(6,.I i)],[(136,some ⟨1,AD (A6 N g1),0⟩)],700⟩ ?_ ?_)
   .simp [h0,h8,<- he,<- hw,a7,e1,hq,a5,Ay]
    exact⟨rfl,AF [(136,136)] [] (by simp) (by simp[AB,<- hu])⟩
   refine Cr rfl ?_;simp[h0,h8,<- he,<- hw,hx,e3,hq,a6,Ay];exact⟨rfl,AF [(136,136)] [] (by simp) (by simp[AB,<- hy])⟩
  refine AX ?_;exact⟨i+1,by omega,by omega,AF [(136,136)] [] (by simp[hd]) (by simp[AB])⟩
 simp at h8;obtain rfl:i=A.length:=by omega
 refine Aa (hit (AC (Dw ⟨87,[(2,.pv (nC ⟨N,A⟩)),(5,.rs 136 0 N),(7,.I 2)],[(136,some ⟨1,AD (A6 N (BK A f A.length)),0⟩)],200⟩ [(136,136)] [] ?_)));refine AL (Ae (ι:=Nat) (λ k=>⟨87,[(2,.pv (nC ⟨N,A⟩)),(5,.rs 136 0 N),(7,.I k)],[(136,some ⟨1,AD (A6 N (BK A f A.length)),0⟩)],200⟩) (λ k=>2<=k/\k<=N) (λ k=>N - k) 2 (by omega) (Av [(136,136)] []) ?_)
 rintro k ⟨ad,an⟩
 refine AC (Dw ⟨87,[(2,.pv (nC ⟨N,A⟩)),(5,.rs 136 0 N),(7,.I k),(79,.B (decide (k<N)))],[(136,some ⟨1,AD (A6 N (BK A f A.length)),0⟩)],300⟩ [(136,136)] [] ?_);refine AE _ rfl (λ h7=>?_) λ h7=>?_
 .simp at h7
  have hz:BK A f A.length k=0:=by
   rw[ztG ha];have:=hf.bal k ad h7;unfold Cv;omega
  have hr:=Iv (N:=N) (g:=BK A f A.length) (x:=(k:Int)) (by omega) (by omega)
  rw[hz] at hr;simp only[Uu] at hr;have hd:=w6 (x:=(k:Int)+1);refine AJ (AC (AL (arc ⟨87,[(2,.pv (nC ⟨N,A⟩)),(5,.rs 136 0 N),(7,.I k),(86,.B false)],[(136,some ⟨1,AD (A6 N (BK A f A.length)),0⟩)],400⟩ ?_ ?_)))
  .simp [hr,h7]
   exact Av [(136,136)] []
  refine AE _ rfl (λ h=>by cases h) λ _=>?_
  refine AJ (AX ?_);exact⟨k+1,by omega,by omega,AF [(136,136)] [] (by simp[hd]) (by simp[AB])⟩
 simp at h7;refine Aa (hit (Dw ⟨87,[(4,.B true)],[],400⟩ [] [] ?_));exact Bl
theorem zfW (hn:Cu ⟨N,A⟩) (hf:BN N A f):AcP 66 [eN ⟨N,A⟩,AA f] [] (.I (AZ A f)) []:=by
 refine gB.s.ai ?_;have h4:=rD hn hf;have hc:=hf.fit.len;have h5:=HB.1 hf.fit;obtain⟨hd,he,hh,h6⟩:=hn;simp only at hd he hh h6
 have h7:∀ j (h:j<f.length),0<=f[j]/\f[j]<=1048576:=λ j hj=>by
  have h1:=h5.2 j (by omega)
  have e1:f.getD j 0=f[j]:=by rw[Qe,Qc hj,QB]
  have e2:AP A j=A[j]'(by omega):=by unfold AP;rw[Qe,Qc (by omega),QB]
  rw[e1,e2] at h1;have h2:=(h6 _ (Qj (show j<A.length by omega))).2.2.2.2.2.2.2.2
  omega
 have hk:=RB hc h7 0
 have h9:B4 (A.take A.length) (f.take A.length) 0=AZ A f:=by
  unfold AZ;rw[Qb (Qk _),Qb (by omega)]
 refine rs [1,2] [] [16] ?_;refine AC (rx (s:=?s2) [1,2,10] [] [] rfl ?o2 ?q2)
 case o2=>simp;refine Aq h4 (by simp) ?_;simp;rfl
 refine AE _ rfl (λ h=>by cases h) λ _=>?_
 refine AJ (rs [1,2,5] [] [] ?_);refine AC (rs [1,2,5,6] [] [] ?_);refine AL (Ae (ι:=Nat) (λ i=>⟨31,[(1,AA f),(2,.pv (nC ⟨N,A⟩)),(5,.I (B4 (A.take i) (f.take i) 0)),(6,.I i)],[],80⟩) (λ i=>i<=A.length) (λ i=>A.length - i) 0 (Qh _) (AF [] [] (by simp[B4,Ah]) (by simp)) ?_)
 intro i hi;have hu:=hk i hi;refine AC (rs [1,2,5,6,14] [] [] ?_);refine AE _ rfl (λ h8=>?_) λ h8=>?_
 .simp at h8
  have ha:i<A.length:=by omega
  have ho:=w6 (x:=(i:Int)+1);have h0:=zpS ha h8 0;have hb:=h7 i h8;refine AJ (Ao ⟨31,[(1,AA f),(2,.pv (nC ⟨N,A⟩)),(5,.I (B4 (A.take (i+1)) (f.take (i+1)) 0)),(6,.I i)],[],400⟩ ?_ ?_)
  .refine AL (arc ⟨31,[(1,AA f),(2,.pv (nC ⟨N,A⟩)),(5,.I (B4 (A.take i) (f.take i) 0)),(6,.I i),(23,.B (decide (A[i].f=0)))],[],200⟩ ?_ ?_)
   .simp [ha]
    exact AF [] [] (by simp<;>exact Aw (by rw[Qp];simp))
   refine AE _ rfl (λ h3=>?_) λ h3=>?_
   .rw [Qd] at h3
    rw[if_pos h3] at h0;have hq:=w6 (x:=B4 (A.take i) (f.take i) 0+f[i]);refine Ag (s:=?s9) rfl ?o9 ?q9
    case o9=>simp[h8];rfl
    exact AF [] [] (by simp[h0,hq])
   .rw [Qa] at h3
    rw[if_neg h3,Int.add_zero] at h0;exact AJ (AF [] [] (by simp[h0]))
  refine AX ?_;exact⟨i+1,by omega,by omega,AF [] [] (by simp[ho])⟩
 simp at h8;obtain rfl:i=A.length:=by omega
 rw[h9];refine Aa (hit (rs [4] [] [] ?_));exact Bl
structure Js (g:Gr) (p:Al) (ks f:List Int):Prop where
 ok:BN (BD g) (Ar g p ks) f
 most:∀ f',BN (BD g) (Ar g p ks) f'->AZ (Ar g p ks) f'<=AZ (Ar g p ks) f
 val:AZ (Ar g p ks) f=CC (BD g) (Ar g p ks)
theorem Kw {ks:List Int} {n:Int} (h:Bu ks 0 (n - 1)):∀ x∈ks,0<=x/\x<n:=λ x hx=>by
 have:=h.nodup.2 x hx;omega
open Classical in
theorem RP (g:Gr) (p:Al) (ks:List Int) (hg:AI g) (hp:BT g.size p) (hr:Bu ks 0 (g.size - 1)) (hs:p.seeds.length<=64) (h5:ks.length<=64) :
  ∃ f,Js g p ks f/\AcP 62 [eG g,eP p,AA ks] [] (.tup [eN ⟨BD g,Ar g p ks⟩,.rs 0 0 (Ar g p ks).length,.B (decide (BZ g p ks))]) [some ⟨1,AD f,0⟩]:=by
 have h0:=ZP g p ks hg hp hr hs h5;rw[<- MU hg] at h0;have h6:=NH hg hp (Kw hr) hs h5;obtain⟨f,⟨h1,h7⟩,h2⟩:=zAE _ _ h6;have h3:=zfW h6 h1;have h9:=Hu h1 h7;refine⟨f,⟨h1,h7,h9.symm⟩,?_⟩;have ha:BZ g p ks↔AZ (Ar g p ks) f=ks.length:=by unfold BZ;rw[h9]
 have hb:=h1.fit.len;obtain⟨A,hA⟩:=AG (Ar g p ks);obtain⟨N,hN⟩:=AG (BD g);rw[show D3 g p (A1 g p) ks=A from hA.symm,<- hN] at h0
 rw[<- hA,<- hN] at h2 h3;rw[<- hA] at ha hb ⊢;rw[<- hN];refine lG.s.ai ?_;have h4:∀ g:Int->List AV,List.take A.length (List.map g f)=List.map g f:=λ g=>Qb (by simp;omega)
 refine rs [2,3,4,6] [32] [16,24] ?_;refine rx (s:=?s2) [2,6,9] [32] [112] rfl ?o2 ?q2
 case o2=>simp;refine Aq h0 (by simp) ?_;simp;rfl
 apply ax [2,6,9,11] [(32,32),(144,33)] [] 300
 .simp
  refine CV h2 ?_;simp;rfl
 refine CW ⟨33,[(6,.pt 32 0 0),(7,.rs 33 0 A.length),(8,.B (decide (BZ g p ks)))],[(32,some ⟨2,[nC ⟨N,A⟩],0⟩),(33,some ⟨1,AD f,0⟩)],600⟩ ?_ ?_
 .simp
  refine Hk [33] h3 (by simp[AB,h4,hb]) (.sc _) ?_
  simp;exact⟨rfl,AF [(32,32),(33,33)] [] (by simp<;>exact Aw (by rw[Qp];simp[ha])) (by simp[AB])⟩
 exact B7 [33] []
theorem Nc (side:List Int):∀ A:List Ed,Ex A side=BQ (λ x=>decide (x∈side)) A
 | []=>rfl
 | e::A=>by
   have h1:Ex (e::A) side=(if e.f∈side/\e.t∉side then e.v else 0)+Ex A side:=by simp[Ex]
   have h2:BQ (λ x=>decide (x∈side)) (e::A)=(if decide (e.f∈side)=true/\decide (e.t∈side)=false then e.v else 0)+BQ (λ x=>decide (x∈side)) A:=rfl
   rw[h1,h2,Nc side A];simp
theorem vV (L:List Int) (a:Nat) {l:List Int} (h:0<l.length):KZ L a l∈l:=by
 have:=I6 (L:=L) (a:=a) (n:=l.length) (by omega)
 obtain⟨q,hq⟩:∃ q:Nat,(An L a l.length).1=q:=⟨(An L a l.length).1.toNat,by omega⟩
 have h0:q<l.length:=by omega
 unfold KZ;rw[hq];simp[h0]
theorem Jt (L:List Int) (a:Nat) (n:Int) (hl:L.length<=400) (ha:a<=L.length) (h0:0<n) (hn:n<=1000000):∃ (x:Nat) (b:Nat),(b<=L.length/\(x:Int)<n)/\AcP 13 [.pt 0 0 0,.I n] [As L a] (.I x) [some (As L b)]:=by
 have:=I6 (L:=L) (a:=a) h0;obtain⟨q,hq⟩:∃ q:Nat,(An L a n).1=q:=⟨(An L a n).1.toNat,by omega⟩
 exact⟨q,_,⟨Fj ha,by omega⟩,by rw[<- hq];exact L4 L a n (by omega) ha (by omega)⟩
theorem H3 (L:List Int) (a:Nat) (l:List Int) (hl:L.length<=400) (ha:a<=L.length) (h0:0<l.length) (h1:l.length<=100):∃ (x:Int) (b:Nat),(b<=L.length/\x∈l)/\AcP 16 [.pt 0 0 0,AA l] [As L a] (.I x) [some (As L b)] :=
 ⟨_,_,⟨Fj ha,vV L a h0⟩,eO L a l (by omega) ha h0 (by omega)⟩
theorem cG (L:List Int) (a:Nat) (n:Int) (hl:L.length<=400) (ha:a<=L.length) (h0:0<=n) (hn:n<=1000000):∃ (x:Bool) (b:Nat),b<=L.length/\AcP 33 [.pt 0 0 0,.I n] [As L a] (.B x) [some (As L b)] :=
 ⟨_,_,Fj ha,YF L a n (by omega) ha h0 (by omega)⟩
section
variable {P:Program} {np id:Nat} {h:Nat->Option AQ} {K:AV->List Nat->List (Nat × Option AQ)->Prop} {f:FuncId} {first aA args aB:List AV} {res:AV}
theorem XB {j:Nat} {e ej:AQ} (h0:np<=j) (hj:h j=some ej) (hc:AK P f aB [] res [some e]) (he:(first++args++aA).map (conv [] [j] h 4)=aB) (hk:K (conv (C9 [] id) [] (λ _=>none) 4 res) [j] [(id,some (Ab (C9 [] id) [] (λ _=>none) 4 e)),(j,some { ej with ro:=ej.rows.length })]):aK P np id .call (.fn (.func f) first aA::args) h K :=
 ⟨[],[j],true,aB,[],res,[some e],by simp,by simp,by simpa using h0,by rw[Vp,he];exact F8 _,rfl,hc,by simp,.inl rfl,by simpa [C9,hj] using hk⟩
end
def JT (t:List Int):Prop:=∀ i (h:i<t.length),1<=t[i]/\t[i]<=1000/\(0<i->t[i]<=t[i - 1])
theorem kG {t:List Int} {v:Int} (h:JT t) (h1:1<=v) (h2:v<=1000) (h3:∀ x∈t,v<=x):JT (t++[v]):=by
 intro i hi;rw[Qg,Q3] at hi
 by_cases hit:i<t.length
 .rw [Uz hit]
  obtain⟨a,b,c⟩:=h i hit;refine⟨a,b,λ hp=>?_⟩;rw[Uz (by omega)]
  exact c hp
 .obtain rfl:i=t.length:=by omega
  simp only[List.getElem_concat_length];refine⟨h1,h2,λ hp=>?_⟩;rw[Uz (by omega)]
  exact h3 _ (Qj _)
theorem ZL (L:List Int) (a:Nat) (g:Gr) (hl:L.length<=400) (ha:a<=L.length) (h0:0<g.size) (hn:g.size<=1000) :
  ∃ x:Al × Nat,(BT g.size x.1/\x.1.seeds.length<=2/\x.1.table.length<=4/\x.2<=L.length)/\AcP 12 [.pt 0 0 0,eG g] [As L a] (eP x.1) [some (As L x.2)]:=by
 refine wJ.s.acallsX (args:=[.pt 0 0 0,eG g]) (hs:=[As L a]) (λ x=>eP x.1) (λ x=>[some (As L x.2)]) (λ x:Al × Nat=>BT g.size x.1/\x.1.seeds.length<=2/\x.1.table.length<=4/\x.2<=L.length) (CL rfl) (CL rfl) (λ _=>by simp) ?_
 show A2 _ 1 _ _ ⟨50,[(0,.pt 0 0 0),(1,eG g)],[(0,some (As L a))],16⟩;obtain⟨k1,b1,⟨hf,ad⟩,hh⟩:=Jt L a g.size hl ha h0 (by omega)
 obtain⟨lv,b2,⟨hi,hj⟩,ho⟩:=H3 L b1 [1,1,2,3] hl hf (by simp) (by simp)
 have h2:1<=lv/\lv<=3:=by simp at hj;omega
 obtain⟨o,b3,h5,hq⟩:=cG L b2 3 hl hi (by omega) (by omega)
 refine ar [0,3,4] [(0,0),(24,24)] [16] 32 ?_;apply ax [0,3,4,5] [(0,0),(24,24),(104,104),(64,17)] [] 120
 .simp
  refine Cq (i:=0) rfl (e':=As L a) (by simp) hh (by simp) (by simp) ?_
  simp;refine KQ (i:=0) (j:=80) (by decide) (by decide) rfl rfl (e':=As L b1) (by simp) ho (by simp) (by simp) ?_
  simp;rfl
 refine FO (ι:=List Int × Nat) (λ s=>⟨50,[(0,.pt 0 0 0),(4,.pt 24 0 0),(5,.pt 104 0 0)],[(0,some (As L s.2)),(24,some ⟨3,[[.nilS,.nilS,.I 0]],0⟩),(104,some ⟨3,[[.rs 17 0 s.1.length,.nilS,.I lv]],0⟩),(17,some ⟨1,AD s.1,0⟩)],300⟩)
  (λ s=>s.2<=L.length/\s.1≠[]/\s.1.length<=2/\s.1.Pairwise (· < ·) /\ ∀ k∈s.1,0<=k/\k<g.size) ?_ λ s hs=>?_
 .apply ak [0,3,4,5,18] [0,24,104,17] 136
  .simp
   refine Cq (i:=0) rfl (e':=As L b2) (by simp) hq (by simp) (by simp) ?_
   simp;rfl
  cases o with
  | true =>
    refine AE _ rfl (λ _=>?_) λ h=>by cases h
    obtain⟨k2,b4,⟨h1,ag⟩,hu⟩:=Jt L b3 g.size hl h5 h0 (by omega)
    have h3:=L1 [(k1:Int)] k2 (by simp)
    obtain⟨S,hS⟩:=AG (CD [(k1:Int)] k2);rw[<- hS] at h3;refine Cr rfl ?_;simp;refine Cq (i:=0) rfl (e':=As L b3) (by simp) hu (by simp) (by simp) ?_
    simp;refine XB (j:=17) (by decide) rfl h3 (by simp) ?_
    simp[AB];refine⟨rfl,S,b4,⟨h1,?_,?_,?_,λ k hk=>?_⟩,Av [(0,0),(24,24),(104,104),(184,17)] []⟩
    .intro h
     have:(k1:Int)∈S:=by rw[hS];exact MI.2 (.inl (by simp))
     rw[h] at this
     cases this
    .rw [hS];exact LY _ _
    .rw [hS];exact J8 (by simp)
    .rw [hS] at hk
     rcases MI.1 hk with h | h
     .simp at h;omega
     .omega
  | false =>
    refine AE _ rfl (λ h=>by cases h) λ _=>?_
    exact AJ ⟨([(k1:Int)],b3),⟨h5,by simp,by simp,by simp,by simp;omega⟩,Bk [(0,0),(24,24),(104,104),(17,17)] []⟩
 obtain⟨S,b4⟩:=s;obtain⟨h1,h6,h7,h9,hc⟩:=hs;simp only at h1 h6 h7 h9 hc;obtain⟨v0,b5,⟨hw,hy⟩,hz⟩:=H3 L b4 [3,2,1,6,0] hl h1 (by simp) (by simp)
 have a9:0<=v0/\v0<=6:=by simp at hy;omega
 have a0:=w6 (x:=1+v0);obtain⟨n0,b6,⟨a1,ai⟩,a2⟩:=Jt L b5 4 hl hw (by omega) (by omega)
 have a3:IntKind.i64.wrap (1+(n0:Int))=((n0+1:Nat):Int):=by rw[w6];omega
 apply ax [0,4,5,6] [(0,0),(24,24),(104,104),(17,17)] [] 400
 .simp
  refine KQ (i:=0) (j:=308) (by decide) (by decide) rfl rfl (e':=As L b4) (by simp) hz (by simp) (by simp) ?_
  simp[a0];rfl
 refine AC ?_;apply ax [0,4,5,6,7] [(0,0),(24,24),(104,104),(17,17)] [] 432
 .simp
  refine Cq (i:=0) rfl (e':=As L b5) (by simp) a2 (by simp) (by simp) ?_
  simp[a3];rfl
 refine AL ?_
 refine Ae (ι:=(List Int × Int) × (Nat × Nat)) (λ s=>⟨50,[(0,.pt 0 0 0),(4,.pt 24 0 0),(5,.pt 104 0 0),(6,.I s.1.2),(7,.I s.2.1)],[(0,some (As L s.2.2)),(24,some ⟨3,[[.nilS,.nilS,.I 0]],0⟩),(104,some ⟨3,[[.rs 17 0 S.length,.rs 18 0 s.1.1.length,.I lv]],0⟩),(17,some ⟨1,AD S,0⟩),(18,some ⟨1,AD s.1.1,0⟩)],432⟩)
  (λ s=>s.1.1.length+s.2.1=n0+1/\JT s.1.1/\(1<=s.1.2/\s.1.2<=7)/\(∀ x∈s.1.1,s.1.2<=x)/\s.2.2<=L.length) (λ s=>s.2.1) (([],1+v0),(n0+1,b6)) ⟨by simp,λ i h=>by simp at h,⟨by simp only;omega,by simp only;omega⟩,by simp,a1⟩
  (Le.lst [(0,0),(24,24),(104,104),(17,17)] [] [(18,1)] rfl (by simp) (by simp) (by simp) (by simp) (by simp) (by simp) (by simp) (by simp[Up]) (by simp[AB];exact⟨Am.rfl' (by simp),Am.rfl' (by simp),Am.row rfl (by omega) (by simp[Eg,Up]),Am.rfl' (by simp)⟩)) ?_
 rintro⟨⟨T,v⟩,n,b⟩ ⟨a4,hT,hv,h4,hb⟩
 simp only at a4 hT hv h4 hb;refine AC (rk (s:=?s7) [0,4,5,6,7,35] [0,24,104,17,18] rfl ?o7 ?q7)
 case o7=>simp;rfl
 refine AE _ rfl (λ h8=>?_) λ h8=>?_
 .simp at h8
  obtain⟨m,rfl⟩:∃ m,n=m+1:=⟨n - 1,by omega⟩
  have am:IntKind.i64.wrap (((m+1:Nat):Int) - 1)=(m:Int):=by rw[w6];omega
  have he:=w6 (x:=(m:Int));obtain⟨d,b',⟨a5,hd⟩,a6⟩:=Jt L b 3 hl hb (by omega) (by omega)
  have a7:=w6 (x:=v - (d:Int));have a8:∀ f:Int->List AV,List.take T.length (List.map f T)=List.map f T:=λ f=>Qb (by simp)
  refine AJ (AC (AL ?_));apply ax [0,4,5,6,7] [(0,0),(24,24),(104,104),(17,17),(480,18)] [] 512
  .simp [a8]
   refine⟨by omega,by omega,?_⟩
   rfl
  refine Ag (s:=?s9) rfl ?o9 ?q9
  case o9 =>
   simp;refine Cq (i:=0) rfl (e':=As L b) (by simp) a6 (by simp) (by simp) ?_
   simp[a7];rfl
  refine AX ?_;refine⟨((T++[v],if 1<v - d then v - d else 1),(m,b')),⟨by simp only[Qg,Q3];omega,kG hT hv.1 (by omega) h4,⟨by simp only;split<;>omega,by simp only;split<;>omega⟩,λ x hx=>?_,a5⟩,by simp only;omega,AF [(0,0),(24,24),(104,104),(17,17),(18,18)] [] (by simp[he]) (by simp[AB])⟩
  have:v<=x:=by
   rcases Qq.1 hx with h | h
   .exact h4 x h
   .rw [QC] at h;omega
  simp only;split<;>omega
 simp at h8;obtain rfl:n=0:=by omega
 refine Aa (hit (rk (s:=?s11) [4] [0,24,17,18] rfl ?o11 ?q11))
 case o11=>simp;rfl
 refine BG (F4.mk (.inr rfl) (⟨S,T,lv⟩,b) ⟨⟨h6,Pg h9 hc,by simp only;omega,by simp only;omega,h2.1,h2.2,hT⟩,h7,by simp only;omega,hb⟩ ?_)
 refine⟨_,rfl,[],[17,18],by simp[List.range,List.range.loop],by simp,by simp,?_,?_⟩
 .simp [List.range,List.range.loop,AB,Cz]
 .simp [List.range,List.range.loop]
def CX (D:List Int) (n:Nat):List Int:=((List.range n).map λ k:Nat=>(k:Int)).filter λ k=>decide (k∈D)
theorem Pk (D:List Int) (n:Nat):CX D (n+1)=CX D n++if (n:Int)∈D then [(n:Int)] else []:=by
 unfold CX;rw[Uk,QT,Ug];simp only[Qo,UE,Vk,List.filter_nil];split<;>simp_all
theorem Lu {D:List Int} {n:Nat} {x:Int}:x∈CX D n↔(0<=x/\x<n)/\x∈D:=by
 unfold CX;rw[Qx,Qi];constructor
 .rintro ⟨⟨k,hk,rfl⟩,h⟩
  have:=Qy.1 hk;exact⟨by omega,by simpa using h⟩
 .rintro ⟨h,h2⟩
  exact⟨⟨x.toNat,Qy.2 (by omega),by omega⟩,by simpa using h2⟩
theorem RD (D:List Int) (n:Nat):(CX D n).Pairwise (· < ·):=by
 unfold CX;refine List.Pairwise.filter _ ?_;rw[U4];exact List.pairwise_lt_range.imp λ h=>by omega
theorem Pd (D:List Int) (n:Nat):(CX D n).length<=n:=by
 unfold CX;refine QH (QU ..) (by simp)
theorem bY (N:Nat) (A:List Ed) (hn:Cu ⟨N,A⟩) :
  ∃ side:List Int,(Kz ⟨N,A⟩ side/\Ex A side=CC N A/\side.length<=130/\side=Eu N A)/\AcP 63 [eN ⟨N,A⟩] [] (.tup [.rs 0 0 side.length,.I 0]) [some ⟨1,AD side,0⟩]:=by
 have h7:=HH hn;obtain⟨f,⟨h0,h9⟩,hj⟩:=zAE N A hn;have ho:=h0.fit.len;obtain⟨⟨D,b⟩,⟨hb,ha⟩,h3⟩:=Xu N A f hn ho;simp only at hb ha h3
 have hc:(1:Int)∉D:=λ hm=>by
  obtain⟨l,hl⟩:=hb.chain hm
  have h1:=hl.push h7 h0 (v:=1) (by omega) λ s hs=>by
   obtain⟨i,hi,rfl⟩:=QG.1 hs;have:=(hl.at_ i hi).2.1;omega
  have h2:=h9 _ h1.1;omega
 have hv:=(Ji h7 h0 hb.mem0 hc ha).1;have hw:=Hu h0 h9;have hx:=hn;obtain⟨hz,a0,a1,a2⟩:=hn;simp only at hz a0 a1 a2
 have hd:∀ x,x∈CX D N↔x∈D:=λ x=>by
  rw[Lu];exact⟨λ h=>h.2,λ h=>⟨hb.rng x h,h⟩⟩
 have he:Kz ⟨N,A⟩ (CX D N):=⟨hx,Pg (RD D N) λ k hk=>by have:=(Lu.1 hk).1;simp only;omega,(hd 0).2 hb.mem0,λ h=>hc ((hd 1).1 h)⟩
 have hq:Ex A (CX D N)=CC N A:=by
  rw[Nc,hw,hv]
  congr 1
  funext x
  exact decide_eq_decide.2 (hd x)
 refine⟨CX D N,⟨he,hq,QH (Pd D N) (by omega),P4 h7 h0 h9 hb.tree hb.mem0 hc ha⟩,?_⟩
 have a3:=hb.len
 have a4:∀ k:Nat,1<=k->k<N->b[k]? = some (b.getD k 0)/\(b.getD k 0=0↔(k:Int)∉D):=λ k h1 h2=>by
  refine⟨by rw[Qe,Qc (by omega),QB],λ h hm=>?_,λ h=>?_⟩
  .have:=hb.inn k hm (by omega)
   simp only[Uu] at this;exact this h
  .have:=hb.out k (by omega) h
   simpa using this
 have hf:∀ g:Int->List AV,List.take A.length (List.map g f)=List.map g f:=λ g=>Qb (by simp;omega)
 refine sP.s.ai ?_;refine rs [1] [] [16] ?_;refine arc ⟨37,[(1,.pv (nC ⟨N,A⟩)),(4,.rs 33 0 A.length),(5,.I 0)],[(33,some ⟨1,AD f,0⟩)],100⟩ ?_ ?_
 .simp
  refine CV hj ?_;simp;exact Av [(48,33)] []
 refine AC (Dw ⟨37,[(1,.pv (nC ⟨N,A⟩)),(4,.rs 33 0 A.length),(15,.B false)],[(33,some ⟨1,AD f,0⟩)],200⟩ [(33,33)] [] ?_);refine AE _ rfl (λ h=>by cases h) λ _=>?_
 refine AJ (arc ⟨37,[(1,.pv (nC ⟨N,A⟩)),(6,.rs 34 0 N)],[(34,some ⟨1,AD b,0⟩)],300⟩ ?_ ?_)
 .simp
  refine HY [33] h3 (by simp[AB,hf,ho]) (.rs _ _ _) K4 ?_
  simp;exact Av [(216,34)] []
 have a5:CX D 1=[0]:=by
  rw[Pk];have:((0:Nat):Int)∈D:=hb.mem0;rw[if_pos this];rfl
 refine arc ⟨37,[(1,.pv (nC ⟨N,A⟩)),(6,.rs 34 0 N),(7,.rs 35 0 (CX D 1).length)],[(34,some ⟨1,AD b,0⟩),(35,some ⟨1,AD (CX D 1),0⟩)],400⟩ ?_ ?_
 .rw [a5]
  simp;exact Av [(34,34),(300,35)] []
 refine AC (Dw ⟨37,[(1,.pv (nC ⟨N,A⟩)),(6,.rs 34 0 N),(7,.rs 35 0 (CX D 1).length),(8,.I 1)],[(34,some ⟨1,AD b,0⟩),(35,some ⟨1,AD (CX D 1),0⟩)],500⟩ [(34,34),(35,35)] [] ?_);refine AL (Ae (ι:=Nat) (λ k=>⟨37,[(1,.pv (nC ⟨N,A⟩)),(6,.rs 34 0 N),(7,.rs 35 0 (CX D k).length),(8,.I k)],[(34,some ⟨1,AD b,0⟩),(35,some ⟨1,AD (CX D k),0⟩)],500⟩) (λ k=>1<=k/\k<=N) (λ k=>N - k) 1 (by omega) (Av [(34,34),(35,35)] []) ?_)
 rintro k ⟨a6,ad⟩
 have a7:=Pd D k;refine AC (Dw ⟨37,[(1,.pv (nC ⟨N,A⟩)),(6,.rs 34 0 N),(7,.rs 35 0 (CX D k).length),(8,.I k),(24,.B (decide (k<N)))],[(34,some ⟨1,AD b,0⟩),(35,some ⟨1,AD (CX D k),0⟩)],600⟩ [(34,34),(35,35)] [] ?_);refine AE _ rfl (λ h4=>?_) λ h4=>?_
 .simp at h4
  obtain⟨hu,hh⟩:=a4 k a6 h4;obtain⟨y,hy⟩:=AG (b.getD k 0);rw[<- hy] at hu hh;have h6:=Pk D k;have a8:=w6 (x:=(k:Int)+1);refine AJ (Ao ⟨37,[(1,.pv (nC ⟨N,A⟩)),(6,.rs 34 0 N),(7,.rs 35 0 (CX D (k+1)).length),(8,.I k)],[(34,some ⟨1,AD b,0⟩),(35,some ⟨1,AD (CX D (k+1)),0⟩)],1000⟩ ?_ ?_)
  .refine AL (arc ⟨37,[(1,.pv (nC ⟨N,A⟩)),(6,.rs 34 0 N),(7,.rs 35 0 (CX D k).length),(8,.I k),(31,.B (!decide (y=0)))],[(34,some ⟨1,AD b,0⟩),(35,some ⟨1,AD (CX D k),0⟩)],700⟩ ?_ ?_)
   .simp [hu,h4]
    exact AF [(34,34),(35,35)] [] (by simp<;>exact Aw (by rw[Qp];simp)) (by simp[AB])
   refine AE _ rfl (λ h5=>?_) λ h5=>?_
   .simp at h5
    rw[if_pos (Q6 λ h=>h5 (hh.2 h))] at h6;rw[h6];obtain⟨E,hE⟩:=AG (CX D k);rw[<- hE] at a7 ⊢;have a9:∀ g:Int->List AV,List.take E.length (List.map g E)=List.map g E:=λ g=>Qb (by simp)
    refine Ac rfl ?_;simp[a9];exact⟨by omega,by omega,Av [(34,34),(724,35)] []⟩
   .simp at h5
    rw[if_neg (hh.1 h5),QW] at h6;rw[h6];exact AJ (Av [(34,34),(35,35)] [])
  refine AX ?_;exact⟨k+1,by omega,by omega,AF [(34,34),(35,35)] [] (by simp[a8]) (by simp[AB])⟩
 simp at h4;obtain rfl:k=N:=by omega
 refine Aa (hit (Dw ⟨37,[(2,.rs 35 0 (CX D k).length),(3,.I 0)],[(35,some ⟨1,AD (CX D k),0⟩)],700⟩ [(35,35)] [] ?_));exact B7 [35] []
theorem AS.k2n {rs:List (Nat × Option (Bool × Nat))} {st:St} {vs:List AV} {res:AV} {e0 e1 e:AQ} (i:Nat) (hi:2<=i) (h1:Gn st rs=some vs) (hw:Wk (conv [(0,0),(1,1),(i,2)] [] st.hp 4 (EH vs)) res) (h0:(st.hp 0).map (Ab [(0,0),(1,1),(i,2)] [] st.hp 4)=some e0) (h2:(st.hp 1).map (Ab [(0,0),(1,1),(i,2)] [] st.hp 4)=some e1) (he:(st.hp i).map (Ab [(0,0),(1,1),(i,2)] [] st.hp 4)=some e):AS rs 2 st res [some e0,some e1,some e]:=by
 have e2:List.range 2++[i]=[0,1,i]:=rfl;refine⟨vs,h1,[i],[],?_,by simpa using hi,by simp,?_,?_⟩
 .rw [e2]
  simp;omega
 .rw [e2]
  exact hw
 .rw [e2]
  show [_,_,_]=_;have h3:Option.map (Ab (([0,1,i]:List Nat).zipIdx) [] st.hp 4) (st.hp 0)=some e0:=h0;have h4:Option.map (Ab (([0,1,i]:List Nat).zipIdx) [] st.hp 4) (st.hp 1)=some e1:=h2;have h5:Option.map (Ab (([0,1,i]:List Nat).zipIdx) [] st.hp 4) (st.hp i)=some e:=he;simp only[Qo,UE,h3,h4,h5]
theorem AS.k2 {rs:List (Nat × Option (Bool × Nat))} {st:St} {vs:List AV} {res:AV} {e0 e1:AQ} (h1:Gn st rs=some vs) (hw:Wk (conv [(0,0),(1,1)] [] st.hp 4 (EH vs)) res) (h0:(st.hp 0).map (Ab [(0,0),(1,1)] [] st.hp 4)=some e0) (h2:(st.hp 1).map (Ab [(0,0),(1,1)] [] st.hp 4)=some e1):AS rs 2 st res [some e0,some e1] :=
 ⟨vs,h1,[],[],by decide,by simp,by simp,hw,by
  show [_,_]=_;have h3:Option.map (Ab ((List.range 2++[]:List Nat).zipIdx) [] st.hp 4) (st.hp 0)=some e0:=h0;have h4:Option.map (Ab ((List.range 2++[]:List Nat).zipIdx) [] st.hp 4) (st.hp 1)=some e1:=h2
  simp only[h3,h4]⟩
theorem dM {N:Nat} {D b:List Int} {R:List (List AV)} (hR:Cw R (Bg D b)) (k:Int):AcP 125 [.I k,.pt 0 0 0] [⟨1,[[.mp 1]],0⟩,⟨0,R,0⟩] (.B (decide (k∈D))) [some ⟨1,[[.mp 1]],0⟩,some ⟨0,R,0⟩]:=by
 refine aJ.s.ai ?_;have h0:=hR.is.find;have h1:=Pq D b k
 have h2:∃ u v,(Bg D b k).getD (C3 (Value.agg #[Value.int IntKind.i64 0,Value.bool false])) = .agg [.sc u,.sc v]:=by
  cases hc:Bg D b k with
  | none=>exact⟨_,_,TJ⟩
  | some x =>
    obtain⟨u,v,rfl⟩:=Kg _ _ _ _ hc;exact⟨u,v,rfl⟩
 obtain⟨u,v,h3⟩:=h2;refine rk (s:=?s1) [0,1] [0,1] rfl ?o1 ?q1
 case o1=>simp;rfl
 apply ax [5] [(0,0),(1,1)] [] 200
 .simp [h0,h1,h3]
  rfl
 refine arc ⟨13,[(3,.B (decide (k∈D)))],[(0,some ⟨1,[[.mp 1]],0⟩),(1,some ⟨0,R,0⟩)],300⟩ ?_ ?_
 .simp
  exact AF [(0,0),(1,1)] [] (by simp) (by simp[hR.conv'])
 exact A9 (AS.k2 rfl (by simp) (by simp) (by simp[hR.conv']))
theorem bG {D b:List Int} {R:List (List AV)} (hR:Cw R (Bg D b)) (N:Nat) (hN:N<=1000000) :
  AcP 41 [.I N,.fn (.func 125) [] [.pt 0 0 0]] [⟨1,[[.mp 1]],0⟩,⟨0,R,0⟩] (.rs 2 0 (CX D N).length) [some ⟨1,[[.mp 1]],0⟩,some ⟨0,R,0⟩,some ⟨1,AD (CX D N),0⟩]:=by
 refine Wv.s.ai ?_;refine ar [0,1] [(0,0),(1,1)] [] 24 ?_;refine arc ⟨20,[(0,.I N),(1,.fn (.func 125) [] [.pt 0 0 0]),(5,.rs 50 0 0)],[(0,some ⟨1,[[.mp 1]],0⟩),(1,some ⟨0,R,0⟩),(50,some ⟨1,[],0⟩)],100⟩ ?_ ?_
 .simp
  refine Le.lst [(0,0),(1,1)] [] [(50,1)] rfl (by simp) (by simp) (by simp) (by simp) (by simp) (by simp) (by simp) (by simp[Up,conv]) ?_
  simp[hR.conv']
  exact⟨Am.rfl' (Qh _),Am.rfl' (Qh _)⟩
 refine AC (ar [1,5,7,8] [(0,0),(1,1),(50,50)] [] 200 ?_);refine AL (Ae (ι:=Nat) (λ k=>⟨20,[(1,.fn (.func 125) [] [.pt 0 0 0]),(5,.rs 50 0 (CX D k).length),(7,.I N),(8,.I k)],[(0,some ⟨1,[[.mp 1]],0⟩),(1,some ⟨0,R,0⟩),(50,some ⟨1,AD (CX D k),0⟩)],200⟩) (λ k=>k<=N) (λ k=>N - k) 0 (Qh _) (AF [(0,0),(1,1),(50,50)] [] (by simp[conv,CX]) (by simp[hR.conv',CX])) ?_)
 intro k hk;have h2:=Pd D k;refine ar [1,5,7,8,9] [(0,0),(1,1),(50,50)] [] 300 ?_;refine AC (AE _ rfl (λ h=>?_) λ h=>?_)
 .simp at h
  have h1:=w6 (x:=(k:Int)+1);have h0:=Pk D k;refine AJ (Ao ⟨20,[(1,.fn (.func 125) [] [.pt 0 0 0]),(5,.rs 50 0 (CX D (k+1)).length),(7,.I N),(8,.I k)],[(0,some ⟨1,[[.mp 1]],0⟩),(1,some ⟨0,R,0⟩),(50,some ⟨1,AD (CX D (k+1)),0⟩)],1000⟩ ?_ ?_)
  .rw [h0]
   obtain⟨W,hW⟩:=AG (CX D k);rw[<- hW] at h2 ⊢;refine AL (arc ⟨20,[(1,.fn (.func 125) [] [.pt 0 0 0]),(5,.rs 50 0 W.length),(6,.I k),(7,.I N),(8,.I k)],[(0,some ⟨1,[[.mp 1]],0⟩),(1,some ⟨0,R,0⟩),(50,some ⟨1,AD W,0⟩)],400⟩ ?_ ?_)
   .simp
    exact AF [(0,0),(1,1),(50,50)] [] (by simp[conv]) (by simp[hR.conv',AB])
   refine arc ⟨20,[(1,.fn (.func 125) [] [.pt 0 0 0]),(5,.rs 50 0 W.length),(6,.I k),(7,.I N),(8,.I k),(13,.B (decide ((k:Int)∈D)))],[(0,some ⟨1,[[.mp 1]],0⟩),(1,some ⟨0,R,0⟩),(50,some ⟨1,AD W,0⟩)],500⟩ ?_ ?_
   .simp
    refine HP (i:=0) (j:=1) (by decide) rfl rfl (by simp) (by simp[hR.conv']) (dM (N:=N) hR k) (by simp) (by simp) ?_
    simp[hR.conv']
    exact AF [(0,0),(1,1),(50,50)] [] (by simp[conv]) (by simp[hR.conv',AB])
   refine AE _ rfl (λ h5=>?_) λ h5=>?_
   .rw [Qd] at h5
    rw[if_pos h5];have h3:∀ g:Int->List AV,List.take W.length (List.map g W)=List.map g W:=λ g=>Qb (by simp)
    refine Ac rfl ?_;simp[h3];exact⟨by omega,by omega,AF [(0,0),(1,1),(524,50)] [] (by simp[conv]) (by simp[hR.conv',AB])⟩
   .rw [Qa] at h5
    rw[if_neg h5,QW];exact AJ (AF [(0,0),(1,1),(50,50)] [] (by simp[conv]) (by simp[hR.conv',AB]))
  refine Ac rfl ?_;simp[h1];exact⟨k+1,by omega,by omega,AF [(0,0),(1,1),(50,50)] [] (by simp[conv,h1]) (by simp[hR.conv',AB])⟩
 simp at h;obtain rfl:k=N:=by omega
 refine Aa (hit (arc ⟨20,[(4,.rs 50 0 (CX D k).length)],[(0,some ⟨1,[[.mp 1]],0⟩),(1,some ⟨0,R,0⟩),(50,some ⟨1,AD (CX D k),0⟩)],400⟩ ?_ ?_))
 .simp
  exact AF [(0,0),(1,1),(50,50)] [] (by simp) (by simp[hR.conv',AB])
 exact A9 (AS.k2n 50 (by omega) rfl (by simp) (by simp) (by simp[hR.conv']) (by simp[AB]))
theorem Ca.last {A:List Ed}:∀ {l:List Nat} {u w:Int},Ca A u l w->(u::CA A l)[l.length]? = some w
 | [],u,w,h=>by
   have:u=w:=h;simp[CA,this]
 | i::l,u,w,h=>by
   have:=Ca.last h.2.2
   simpa [CA] using this
structure HJ (N:Nat) (A:List Ed) (f:List Int):Prop where
 len:f.length=A.length
 nonneg:∀ i,0<=f.getD i 0
 bal:∀ x:Int,2<=x->x<N->Cv A f x=0
variable {N:Nat} {A:List Ed} {f g:List Int}
theorem BN.balF (h:BN N A f):HJ N A f:=by
 have hf:=HB.1 h.fit;refine⟨hf.1,λ i=>?_,λ x h2 h3=>?_⟩
 .by_cases hi:i<A.length
  .exact (hf.2 i hi).1
  .rw [Qe,Q4 (by rw[hf.1];omega)]
   exact UX _
 .have:=h.bal x.toNat (by omega) (by omega)
  rw[Int.toNat_of_nonneg (by omega)] at this
  unfold Cv;omega
theorem Hc.balF (hf:HJ N A f) {l:List Nat} (h:Hc A f g l 1):HJ N A g/\Cv A g 0=Cv A f 0 - 1:=by
 refine⟨⟨h.len,h.nonneg,λ x h2 h3=>?_⟩,?_⟩
 .rw [h.ex x,hf.bal x h2 h3,if_neg (by omega),if_neg (by omega)]
  rfl
 .rw [h.ex 0,if_pos rfl,if_neg (by decide)]
  omega
structure J1 (N:Nat) (A:List Ed) (f g:List Int) (W:List (List Nat)):Prop where
 bal:HJ N A g
 ex:Cv A g 0=Cv A f 0 - W.length
 ways:∀ w∈W,Ca A 0 w 1/\(CA A w).Nodup
 used:∀ i,g.getD i 0+(DC (List.count i) W:Int)<=f.getD i 0
theorem J1.nil (hf:HJ N A f):J1 N A f f []:=⟨hf,by simp,by simp,λ i=>by simp[DC]⟩
theorem J1.more {g':List Int} {W:List (List Nat)} {l:List Nat} (h:J1 N A f g W) (hl:Hc A g g' l 1):J1 N A f g' (W++[l]):=by
 obtain⟨b1,b2⟩:=hl.balF h.bal;refine⟨b1,by rw[b2,h.ex,Qg,Q3];omega,λ w hw=>?_,λ i=>?_⟩
 .rcases Qq.1 hw with hw | hw
  .exact h.ways w hw
  .rw [QC] at hw
   subst hw;exact⟨hl.way,(Q7.1 hl.met).2⟩
 .have h1:=h.used i
  have h2:=hl.used i;have h3:DC (List.count i) (W++[l])=DC (List.count i) W+l.count i:=by unfold DC;simp
  rw[h3];omega
theorem NT (S:Int->Bool):∀ A:List Ed,BQ S A=(A.map λ e=>if S e.f=true/\S e.t=false then e.v else 0).sum
 | []=>rfl
 | e::A=>by
   have ih:=NT S A;unfold BQ at ih ⊢;simp only[Qo,Ah,UA];rw[ih]
theorem NL {α:Type} {h:α->Int}:∀ {l:List α},(∀ x∈l,h x=0)->(l.map h).sum=0
 | [],_=>rfl
 | x::l,hx=>by
   rw[Qo,UA,hx x (Qn ..),NL λ y hy=>hx y (Ql _ hy)];rfl
theorem zwm {α:Type} {h:α->Int}:∀ {l:List α},(∀ x∈l,h x<=1)->(l.map h).sum<=l.length
 | [],_=>UX _
 | x::l,hx=>by
   have ih:=zwm (l:=l) λ y hy=>hx y (Ql _ hy);have h1:=hx x (Qn ..);rw[Qo,UA,QN];omega
theorem Lc {g:Gr} {p:Al} {ks:List Int} (hg:AI g) (hp:BT g.size p) (hk:∀ x∈ks,0<=x/\x<g.size):CC (BD g) (Ar g p ks)<=ks.length:=by
 have h0:=Kk hg hp hk;obtain⟨f,hf,hv⟩:=WD h0;rw[<- hv];refine Int.le_trans (KA (S:=λ x=>decide (x≠1)) h0 hf (by simp) (by simp)) ?_
 rw[NT];simp only[Ar,D3,QT,List.sum_append,List.map_map];have h3:=Pb hg p.lv;rw[NL,NL,NL (l:=(AM g p.lv).edges.filter _)]
 .have h1:=zwm (h:=(λ e:Ed=>if (decide (e.f≠1))=true/\(decide (e.t≠1))=false then e.v else 0)∘λ x:Int=>(⟨2+2*x,1,1⟩:Ed)) (l:=ks.filter λ x=>decide (0<(A1 g p).getD x.toNat 0)) λ x _=>by
   simp only[Function.comp];split<;>omega
  have h2:=QU (λ x=>decide (0<(A1 g p).getD x.toNat 0)) ks;omega
 .intro e he
  have:=h3.2 e (Qx.1 he).1;simp only[Function.comp];rw[if_neg];simp;omega
 .intro i _
  simp only[Function.comp];rw[if_neg];simp;omega
 .intro x _
  simp only[Function.comp];rw[if_neg];simp;omega
theorem bK {N:Nat} {A:List Ed} {f:List Int} (hn:EK N A):Cv A f 0=AZ A f:=by
 unfold Cv AZ;rw[Ov hn];omega
def Bm (A:List Ed) (f:List Int) (i:Nat) (x:Int):Int:=- BK A f i x
variable {N:Nat} {A:List Ed} {f:List Int}
theorem l7 (hl:f.length=A.length) (x:Int):Bm A f A.length x=Cv A f x:=by
 unfold Bm;rw[ztG hl];omega
theorem znz (hn:Cu ⟨N,A⟩) (h7:f.length=A.length) (h9:∀ j (h:j<f.length),0<=f[j]/\f[j]<=1048576):AcP 141 [eN ⟨N,A⟩,AA f] [] (.rs 0 0 N) [some ⟨1,AD (A6 N (Cv A f)),0⟩]:=by
 refine sG.s.ai ?_;obtain⟨hu,hv,hx,ha⟩:=hn;simp only at hu hv hx ha;have hy:=Oi h7 h9;refine rs [1,2] [] [16] ?_;refine arc ⟨43,[(1,AA f),(2,.pv (nC ⟨N,A⟩)),(5,.rs 48 0 N)],[(48,some ⟨1,AD (A6 N (Bm A f 0)),0⟩)],64⟩ ?_ ?_
 .simp
  refine⟨by omega,by omega,?_⟩
  have:A6 N (Bm A f 0)=List.replicate N 0:=by
   unfold A6 Bm;simp only[zmB];simp[Vq]
  rw[this];exact Bk [(48,48)] []
 refine AC (Dw ⟨43,[(1,AA f),(5,.rs 48 0 N),(12,CB A),(13,.I A.length),(14,.I 0)],[(48,some ⟨1,AD (A6 N (Bm A f 0)),0⟩)],96⟩ [(48,48)] [] ?_);refine AL (Ae (ι:=Nat) (λ i=>⟨43,[(1,AA f),(5,.rs 48 0 N),(12,CB A),(13,.I A.length),(14,.I i)],[(48,some ⟨1,AD (A6 N (Bm A f i)),0⟩)],96⟩) (λ i=>i<=A.length) (λ i=>A.length - i) 0 (Qh _) (Av [(48,48)] []) ?_);intro i hi;refine Dw ⟨43,[(1,AA f),(5,.rs 48 0 N),(12,CB A),(13,.I A.length),(14,.I i),(15,.B (decide (i<A.length)))],[(48,some ⟨1,AD (A6 N (Bm A f i)),0⟩)],104⟩ [(48,48)] [] ?_;refine AC (AE _ rfl (λ h5=>?_) λ h5=>?_)
 .simp at h5
  have h8:i<f.length:=by omega
  have hz:=w6 (x:=(i:Int)+1);obtain⟨b1,b3⟩:=h9 i h8;have hb:=ha _ (Qj h5);have h6:=Nq h5 h8;have hc:=λ x=>hy x i (by omega)
  obtain⟨e,he⟩:=AG (A[i]);obtain⟨w,hw⟩:=AG (f[i]);rw[<- he,<- hw] at h6;rw[<- hw] at b1 b3;rw[<- he] at hb;obtain⟨e1,e2,e3,e4,e5,_⟩:=hb;have a3:A[i]? = some e:=by rw[Qc h5,he]
  have a4:f[i]? = some w:=by rw[Qc h8,hw]
  have hd:e.f<(N:Int)/\e.t<(N:Int):=by omega
  have h1:=hc e.f;have h2:=hc e.t;have a0:IntKind.i64.wrap (Bm A f i e.f+w)=Bm A f i e.f+w:=Jz (by unfold Bm;omega) (by unfold Bm;omega)
  have a1:IntKind.i64.wrap (Bm A f i e.t - w)=Bm A f i e.t - w:=Jz (by unfold Bm;omega) (by unfold Bm;omega)
  have a2:=Iv (N:=N) (g:=Bm A f i) (x:=e.f) e1 (by omega)
  have hf:=Lq (N:=N) (g:=Bm A f i) (x:=e.f) (v:=Bm A f i e.f+w) e1 (by omega)
  obtain⟨g1,h0⟩:∃ g1:Int->Int,g1=λ y=>if y=e.f then Bm A f i e.f+w else Bm A f i y:=⟨_,rfl⟩
  rw[<- h0] at hf;have hh:g1 e.t=Bm A f i e.t:=by rw[h0];exact if_neg λ h=>e5 h.symm
  have hj:=Iv (N:=N) (g:=g1) (x:=e.t) e3 (by omega)
  rw[hh] at hj;have hk:=Lq (N:=N) (g:=g1) (x:=e.t) (v:=Bm A f i e.t - w) e3 (by omega)
  have ho:(A6 N λ y=>if y=e.t then Bm A f i e.t - w else g1 y)=A6 N (Bm A f (i+1)):=zjz λ x=>by
   unfold Bm at h0 ⊢;rw[h6,h0];simp only
   by_cases h3:x=e.t
   .rw [h3,if_pos rfl,if_pos rfl,if_neg e5]
    omega
   .by_cases h4:x=e.f
    .rw [if_neg h3,if_pos h4,if_neg λ h=>h3 h.symm,if_pos h4.symm,h4]
     omega
    .rw [if_neg h3,if_neg h4,if_neg λ h=>h3 h.symm,if_neg λ h=>h4 h.symm]
     omega
  rw[ho] at hk;refine AJ (AC (AL (arc ⟨43,[(1,AA f),(5,.rs 48 0 N),(6,.I i),(7,.pv (eC e)),(12,CB A),(13,.I A.length),(14,.I i)],[(48,some ⟨1,AD (A6 N (Bm A f i)),0⟩)],152⟩ ?_ ?_)))
  .simp [h5,<- he]
   exact Av [(48,48)] [128]
  refine CW ⟨43,[(1,AA f),(5,.rs 48 0 N),(6,.I i),(7,.pv (eC e)),(12,CB A),(13,.I A.length),(14,.I i)],[(48,some ⟨1,AD (A6 N g1),0⟩)],400⟩ ?_ ?_
  .simp [h8,<- hw,a2,e1,hd,a0,Ay]
   exact⟨rfl,AF [(48,48)] [] (by simp) (by simp[AB,<- hf])⟩
  refine Cr rfl ?_;simp[h8,<- hw,hj,e3,hd,a1,Ay];refine⟨rfl,?_⟩;refine Ac rfl ?_;simp;exact⟨i+1,by omega,by omega,AF [(48,48)] [] (by simp[hz]) (by simp[AB,<- hk])⟩
 simp at h5;obtain rfl:i=A.length:=by omega
 refine Aa (hit ?_);have hq:A6 N (Bm A f A.length)=A6 N (Cv A f):=zjz λ x=>l7 h7 x;rw[hq];refine Dw ⟨43,[(4,.rs 48 0 N)],[(48,some ⟨1,AD (A6 N (Cv A f)),0⟩)],200⟩ [(48,48)] [] ?_;exact B7 [48] []
def K7 (A:List Ed) (f:List Int) (i:Nat):Prop:=0<=f.getD i 0/\f.getD i 0<=(AP A i).v
theorem MA:BN N A f↔f.length=A.length/\(∀ i,i<A.length->K7 A f i) /\ ∀ x:Nat,2<=x->x<N->Cv A f x=0:=by
 constructor
 .intro h
  have h1:=HB.1 h.fit;exact⟨h1.1,h1.2,λ x h2 h3=>by have:=h.bal x h2 h3;unfold Cv;omega⟩
 .rintro ⟨h1,h2,h3⟩
  exact⟨HB.2 ⟨h1,h2⟩,λ x h4 h5=>by have:=h3 x h4 h5;unfold Cv at this;omega⟩
theorem kV (g:Int->Int) (N:Nat):((A6 N g).drop 2).any (λ x=>!decide (x=0))=true↔¬ ∀ x:Nat,2<=x->x<N->g x=0:=by
 rw[Ui];constructor
 .rintro ⟨y,hy,h⟩ h0
  obtain⟨j,hj,rfl⟩:=QG.1 hy;rw[UQ,JL] at hj;have:=h0 (2+j) (by omega) (by omega)
  simp[A6] at h;exact h (by simpa using this)
 .intro h
  obtain⟨x,hx⟩:=Classical.not_forall.1 h;obtain⟨h1,hx⟩:=Classical.not_imp.1 hx;obtain⟨h2,hx⟩:=Classical.not_imp.1 hx;refine⟨g x,QG.2 ⟨x - 2,by rw[UQ,JL];omega,?_⟩,by simpa using hx⟩
  simp[A6,show 2+(x - 2)=x by omega]
theorem nG (x:Int):AcP 178 [.I x] [] (.B (!decide (x=0))) []:=by
 refine wN.s.ai ?_;refine rs [0] [] [] ?_;refine arc ⟨5,[(2,.B (!decide (x=0)))],[],100⟩ ?_ ?_
 .simp
  exact AF [] [] (by simp<;>exact Aw (by rw[Qp];simp))
 exact Bl
open Classical in
theorem gE (hn:Cu ⟨N,A⟩) (hl:f.length<=1099511627776):AcP 140 [eN ⟨N,A⟩,AA f] [] (.B (decide (BN N A f))) []:=by
 refine Zk.s.ai ?_;have h5:=Wz ⟨N,A⟩ (by have:=hn.2.2.1;simp only at this ⊢;omega)
 rw[if_pos hn] at h5;have hq:=hn;obtain⟨hu,hv,hx,hd⟩:=hn;simp only at hu hv hx hd;refine rs [1,2] [] [16] ?_;refine AC (arc ⟨41,[(1,AA f),(2,.pv (nC ⟨N,A⟩)),(17,.B (!decide (f.length=A.length)))],[],120⟩ ?_ ?_)
 .simp
  refine Aj h5 ?_;simp;exact AF [] [] (by simp<;>exact Aw (by rw[Qp];simp<;>omega))
 refine AE _ rfl (λ h3=>?_) λ h3=>?_
 .simp at h3
  refine rs [4] [] [] ?_;refine BG ?_;have h9:¬ BN N A f:=λ h=>h3 (MA.1 h).1;exact⟨.inr rfl,AS.one (by simp[h9])⟩
 simp at h3;refine AJ (AC (rs [1,2,19,20,21] [] [] ?_));refine AL (Ae (ι:=Nat) (λ i=>⟨41,[(1,AA f),(2,.pv (nC ⟨N,A⟩)),(19,CB A),(20,.I A.length),(21,.I i)],[],152⟩) (λ i=>i<=A.length /\ ∀ k,k<i->K7 A f k) (λ i=>A.length - i) 0 (by simp) (Bk [] []) ?_)
 rintro i ⟨hi,hp⟩
 refine rs [1,2,19,20,21,22] [] [] ?_;refine AC (AE _ rfl (λ h7=>?_) λ h7=>?_)
 .simp at h7
  have hy:=w6 (x:=(i:Int)+1);have hf:i<f.length:=by omega
  obtain⟨e,he⟩:=AG (A[i]);obtain⟨w,hw⟩:=AG (f[i])
  have hh:K7 A f i↔0<=w/\w<=e.v:=by
   unfold K7 AP;rw[Qe,Qc hf,QB,Qe,Qc h7,QB,he,hw]
  refine AJ (AC (AL ?_));apply ax [1,2,5,6,19,20,21] [] [184] 300
  .simp [h7,<- he]
   rfl
  refine CW ⟨41,[(1,AA f),(2,.pv (nC ⟨N,A⟩)),(19,CB A),(20,.I A.length),(21,.I i),(33,.B (!decide (0<=w/\w<=e.v)))],[],400⟩ ?_ ?_
  .simp [hf,<- hw]
   refine Aj (Ev w 0 e.v) ?_;simp;exact⟨rfl,AF [] [] (by simp<;>exact Aw (by rw[Qp];simp))⟩
  refine AE _ rfl (λ ha=>?_) λ ha=>?_
  .have h0:¬ (0<=w/\w<=e.v):=by simp at ha;omega
   refine rs [4] [] [] ?_;refine BG ?_;have h9:¬ BN N A f:=λ h=>h0 (hh.1 ((MA.1 h).2.1 i h7));exact⟨.inr rfl,AS.one (by simp[h9])⟩
  have h0:0<=w/\w<=e.v:=by simpa using ha
  refine AJ (Ac rfl ?_);simp;refine⟨i+1,⟨by omega,λ k hk=>?_⟩,by omega,AF [] [] (by simp[hy])⟩
  rcases QY.1 hk with h | h
  .exact hp k h
  .rw [h];exact hh.2 h0
 simp at h7;obtain rfl:i=A.length:=by omega
 have hz:∀ j (h:j<f.length),0<=f[j]/\f[j]<=1048576:=λ j hj=>by
  have h1:=hp j (by omega)
  unfold K7 at h1;have e1:f.getD j 0=f[j]:=by rw[Qe,Qc hj,QB]
  have e2:AP A j=A[j]'(by omega):=by unfold AP;rw[Qe,Qc (by omega),QB]
  rw[e1,e2] at h1;have h2:=(hd _ (Qj (show j<A.length by omega))).2.2.2.2.2.2.2.2
  omega
 refine Aa (hit ?_);have h6:=znz hq h3 hz;have hc:=RJ 178 [] (λ x=>!decide (x=0)) ((A6 N (Cv A f)).drop 2) (by rw[UQ,JL];omega) (λ ρ sn h k=>by simp) (λ e _=>nG e)
 have h4:BN N A f↔((A6 N (Cv A f)).drop 2).any (λ x=>!decide (x=0))=false:=by
  rw[<- Bool.not_eq_true,kV,Classical.not_not,MA];exact⟨λ h=>h.2.2,λ h=>⟨h3,hp,h⟩⟩
 obtain⟨l,ho⟩:=AG (A6 N (Cv A f));have a0:l.length=N:=by rw[ho,JL]
 rw[<- ho] at h6 hc h4;obtain⟨b,hb⟩:=AG ((l.drop 2).any (λ x=>!decide (x=0)));rw[<- hb] at hc h4;apply ax [4] [] [] 300
 .simp
  refine CV h6 ?_;simp;refine O7 2 (i:=176) rfl rfl (by omega) ?_
  simp;have a1:2+(N - 2)<=N:=by omega
  refine Hk [176] hc (by simp[AB,a0,a1];exact Qb (by simp;omega)) (.sc _) ?_
  simp;rfl
 exact A9 (AS.one (by simp[h4]))
open Classical in
theorem ziQ (hn:Cu ⟨N,A⟩) (hl:f.length<=1099511627776):AcP 99 [eN ⟨N,A⟩,AA f] [] (.I (if BN N A f then AZ A f else 0)) []:=by
 refine Yl.s.ai ?_;have h6:=gE hn hl;refine rs [1,2] [] [16] ?_;refine AC (rx (s:=?s2) [1,2,8] [] [] rfl ?o2 ?q2)
 case o2=>simp;refine Aq h6 (by simp) ?_;simp;rfl
 refine AE _ rfl (λ h3=>?_) λ h3=>?_
 .simp at h3
  refine rs [4] [] [] ?_;exact A9 (AS.one (by simp[h3]))
 simp at h3;have h4:=HB.1 h3.fit;have h5:=hn.2.2.2;simp only at h5
 have h7:∀ j (h:j<f.length),0<=f[j]/\f[j]<=1048576:=λ j hj=>by
  have h1:=h4.2 j (by omega)
  have e1:f.getD j 0=f[j]:=by rw[Qe,Qc hj,QB]
  have e2:AP A j=A[j]'(by omega):=by unfold AP;rw[Qe,Qc (by omega),QB]
  rw[e1,e2] at h1;have h2:=(h5 _ (Qj (show j<A.length by omega))).2.2.2.2.2.2.2.2
  omega
 have h0:=znz hn h4.1 h7;have hv:=bK (f:=f) (HH hn);have h9:=hn.1;simp only at h9;have hr:=Iv (N:=N) (g:=Cv A f) (x:=0) (UX _) (by omega)
 rw[hv] at hr;obtain⟨l,ha⟩:=AG (A6 N (Cv A f));rw[<- ha] at h0 hr;simp only[Int.toNat_zero] at hr;refine AJ (arc ⟨14,[(4,.I (AZ A f))],[],300⟩ ?_ ?_)
 .simp
  refine CV h0 ?_;have hb:0<(N:Int):=by omega
  simp[hr,hb];exact⟨by omega,Bk [] []⟩
 exact A9 (AS.one (by simp[h3]))
variable {S:Int->Bool} {a b:List Int}
section
variable {N:Nat} {A:List Ed} {f:List Int}
theorem k4 (hn:EK N A) {s:Ba} (hs:s.1<A.length):0<=Ax A s/\Ax A s<N:=by
 have:=hn.arc _ (H5 hs);unfold Ax;split<;>omega
theorem DA.grow (hn:EK N A):∀ (n:Nat) (D b:List Int),DA N A f D b->N - D.length<=n -> ∃ D' b',DA N A f D' b'/\Hv A f D'
 | n,D,b,h,hl=>by
   by_cases hc:Hv A f D
   .exact ⟨D,b,h,hc⟩
   .unfold Hv at hc
    obtain⟨s,hs⟩:=Classical.not_forall.1 hc;obtain⟨h1,hs⟩:=Classical.not_imp.1 hs;obtain⟨h2,hs⟩:=Classical.not_imp.1 hs;obtain⟨h3,h4⟩:=Classical.not_imp.1 hs;have hr:=k4 hn h1;have hp:=h.push h1 h2 h3 h4 hr.1 hr.2;have hf:=hp.few;rw[Qg,Q3] at hf
    match n,hl with
    | 0,hl=>omega
    | n+1,hl=>exact DA.grow hn n _ _ hp (by rw[Qg,Q3];omega)
theorem PT (hn:EK N A) {D:List Int} (h0:BN N A f) (h3:∀ f',BN N A f'->AZ A f'<=AZ A f) (hb:DA N A f D b):(1:Int)∉D:=λ hm=>by
 obtain⟨l,hl⟩:=hb.chain hm
 have h1:=hl.push hn h0 (v:=1) (by omega) λ s hs=>by
  obtain⟨i,hi,rfl⟩:=QG.1 hs;have:=(hl.at_ i hi).2.1;omega
 have h2:=h3 _ h1.1;omega
theorem Rh (hn:EK N A) (h0:S 0=true) (h1:S 1=false):CC N A<=BQ S A:=by
 obtain⟨f,hf,hv⟩:=WD hn;rw[<- hv];exact KA hn hf h0 h1
theorem Tr (hn:EK N A):∃ X:Int->Bool,X 0=true/\X 1=false/\BQ X A=CC N A /\ ∀ S:Int->Bool,S 0=true->S 1=false->BQ S A=CC N A -> ∀ x,X x=true->S x=true:=by
 obtain⟨f,hf,hm⟩:=NR hn;obtain⟨D,b,hb,hc⟩:=DA.grow hn N [0] _ (DA.start (f:=f) (by have:=hn.two;omega)) (by omega)
 have h1:=PT hn hf hm hb;have h0:=Hu hf hm;refine⟨λ x=>decide (x∈D),by simpa using hb.mem0,by simpa using h1,?_,λ S s0 s1 hS x hx=>?_⟩
 .rw [h0]
  exact(Ji hn hf hb.mem0 h1 hc).1.symm
 .exact XY hn hf hb.tree s0 s1 (hS.trans h0) x (by simpa using hx)
end
def LD (g:Gr) (p:Al) (S:Int->Bool):Int:=BQ S (Ar g p [])
def F6 (S:Int->Bool) (ks:List Int):Int:=(ks.map λ k=>if S (2+2*k)=true then 1 else 0).sum
variable {g:Gr} {p:Al}
def Xn (g:Gr) (p:Al) (k:Int):Prop:=0<(A1 g p).getD k.toNat 0
theorem X8 (h1:S 1=false) {ks:List Int} (hk:∀ k∈ks,Xn g p k):BQ S (Ar g p ks)=LD g p S+F6 S ks:=by
 have hf:ks.filter (λ x=>decide (0<(A1 g p).getD x.toNat 0))=ks:=Vh.2 λ x hx=>UK (hk x hx);unfold LD F6;simp only[NT,Ar,D3,QT,List.sum_append,List.map_map,hf]
 have e:((λ e:Ed=>if S e.f=true/\S e.t=false then e.v else 0)∘λ x:Int=>(⟨2+2*x,1,1⟩:Ed))=λ k=>if S (2+2*k)=true then 1 else 0:=by
  funext k
  simp only[Function.comp,h1,and_true]
 rw[e];simp only[List.filter_nil,UE,List.sum_nil];omega
theorem Wf (S:Int->Bool):∀ ks:List Int,F6 S ks<=ks.length
 | []=>UX _
 | k::ks=>by
   have ih:=Wf S ks;unfold F6 at ih ⊢;simp only[Qo,UA,QN];split<;>omega
theorem fL (S:Int->Bool) (a b:List Int):F6 S (a++b)=F6 S a+F6 S b:=by simp[F6]
theorem k5 (S:Int->Bool) (h:a.Perm b):F6 S a=F6 S b:=by
 unfold F6
 induction h with
 | nil=>rfl
 | cons x _ ih=>simp only[Qo,UA,ih]
 | swap x y l=>simp only[Qo,UA];omega
 | trans _ _ ih1 ih2=>exact ih1.trans ih2
theorem V3 {S:Int->Bool}:∀ {ks:List Int},(∀ k∈ks,S (2+2*k)=false)->F6 S ks=0
 | [],_=>rfl
 | k::ks,h=>by
   have ih:=V3 (S:=S) (ks:=ks) λ x hx=>h x (Ql _ hx);unfold F6 at ih ⊢;simp[ih,h k (Qn ..)]
structure ED (g:Gr) (p:Al) (ks:List Int):Prop where
 rng:∀ x∈ks,0<=x/\x<g.size
 reach:∀ x∈ks,Xn g p x
theorem ED.sub (h:ED g p b) (hs:∀ x∈a,x∈b):ED g p a:=⟨λ x hx=>h.rng x (hs x hx),λ x hx=>h.reach x (hs x hx)⟩
theorem ED.nil:ED g p []:=⟨λ _ h=>(Ub h).elim,λ _ h=>(Ub h).elim⟩
theorem ED.append (h:ED g p a) (h':ED g p b):ED g p (a++b) :=
 ⟨λ x hx=>(Qq.1 hx).elim (h.rng x) (h'.rng x),λ x hx=>(Qq.1 hx).elim (h.reach x) (h'.reach x)⟩
theorem LW (hg:AI g) (hp:BT g.size p) {ks:List Int} (hk:ED g p ks):BZ g p ks ↔ ∀ S:Int->Bool,S 0=true->S 1=false->(ks.length:Int)<=LD g p S+F6 S ks:=by
 have hn:=Kk hg hp hk.rng;unfold BZ;constructor
 .intro h S h0 h1
  rw[<- X8 h1 hk.reach,<- h];exact Rh hn h0 h1
 .intro h
  obtain⟨X,h0,h1,hc,_⟩:=Tr hn;have h2:=h X h0 h1;rw[<- X8 h1 hk.reach,hc] at h2;have h3:=Lc (p:=p) hg hp hk.rng;omega
theorem BZ.perm (hg:AI g) (hp:BT g.size p) (ha:ED g p a) (h:BZ g p a) (hp':a.Perm b):BZ g p b:=by
 have hb:ED g p b:=ha.sub λ x hx=>hp'.mem_iff.2 hx;rw[LW hg hp hb];rw[LW hg hp ha] at h;intro S h0 h1;rw[<- k5 S hp',<- hp'.length_eq];exact h S h0 h1
theorem BZ.left (hg:AI g) (hp:BT g.size p) (hk:ED g p (a++b)) (h:BZ g p (a++b)):BZ g p a:=by
 have ha:ED g p a:=hk.sub λ x hx=>Q0 _ hx;rw[LW hg hp ha];rw[LW hg hp hk] at h;intro S h0 h1;have:=h S h0 h1;rw[fL,Qg] at this;have:=Wf S b;omega
theorem BZ.sublist (hg:AI g) (hp:BT g.size p) (hk:ED g p b) (h:BZ g p b) (hs:a.Sublist b):BZ g p a:=by
 obtain⟨c,hc⟩:∃ c,(a++c).Perm b:=by
  induction hs with
  | slnil=>exact⟨[],.refl _⟩
  | cons x hs ih =>
    obtain⟨c,hc⟩:=ih (hk.sub λ y hy=>Ql _ hy) (by
     have h2:BZ g p (_++[x]):=h.perm hg hp hk (List.perm_append_comm (l₁:=[x]))
     exact h2.left hg hp (hk.sub λ y hy=>by simpa [or_comm] using hy))
    exact⟨x::c,List.perm_middle.trans (hc.cons x)⟩
  | cons_cons x hs ih =>
    obtain⟨c,hc⟩:=ih (hk.sub λ y hy=>Ql _ hy) (by
     have h2:BZ g p (_++[x]):=h.perm hg hp hk (List.perm_append_comm (l₁:=[x]))
     exact h2.left hg hp (hk.sub λ y hy=>by simpa [or_comm] using hy))
    exact⟨c,hc.cons x⟩
 exact(h.perm hg hp hk hc.symm).left hg hp (hk.sub λ x hx=>hc.mem_iff.1 hx)
theorem BZ.nil (hg:AI g) (hp:BT g.size p):BZ g p []:=by
 have h1:=Lc (p:=p) (ks:=[]) hg hp (by simp)
 have hn:=Kk (p:=p) (ks:=[]) hg hp (by simp)
 have h2:=T9 hn (Mp hn)
 have h3:AZ (Ar g p []) ((Ar g p []).map λ _=>0)=0:=by
  unfold AZ B4
  have:∀ A:List Ed,Ah (λ e v=>if e.f=0 then v else 0) A (A.map λ _=>0)=0:=by
   intro A
   induction A with
   | nil=>rfl
   | cons e A ih=>simp only[Qo,Ah,ih];split<;>rfl
  exact this _
 unfold BZ;simp at h1 ⊢;omega
theorem AS.k1n {rs:List (Nat × Option (Bool × Nat))} {st:St} {vs:List AV} {res:AV} {e0 e:AQ} (i:Nat) (hi:1<=i) (h1:Gn st rs=some vs) (hw:Wk (conv [(0,0),(i,1)] [] st.hp 4 (EH vs)) res) (h0:(st.hp 0).map (Ab [(0,0),(i,1)] [] st.hp 4)=some e0) (he:(st.hp i).map (Ab [(0,0),(i,1)] [] st.hp 4)=some e):AS rs 1 st res [some e0,some e] :=
 ⟨vs,h1,[i],[],by simp[List.range,List.range.loop];omega,by simpa using hi,by simp,by simpa [List.range,List.range.loop] using hw,by simpa [List.range,List.range.loop] using ⟨by simpa using h0,by simpa using he⟩⟩
@[simp] theorem zW {i:Nat}:cellsOf (.mp i)=some [.mp i]:=(rfl)
theorem ZM (N:Nat) (A:List Ed) (f0:List Int) (hn:Cu ⟨N,A⟩) (h3:BN N A f0) :
  ∃ f:List Int,(BN N A f /\ ∀ f',BN N A f'->AZ A f'<=AZ A f)/\AcP 139 [eN ⟨N,A⟩,AA f0] [] (.rs 0 0 A.length) [some ⟨1,AD f,0⟩]:=by
 refine cP.s.acallsX (args:=[eN ⟨N,A⟩,AA f0]) (hs:=[]) (λ f=>.rs 0 0 A.length) (λ f=>[some ⟨1,AD f,0⟩]) (λ f:List Int=>BN N A f /\ ∀ f',BN N A f'->AZ A f'<=AZ A f) (CL rfl) (CL rfl) (λ _=>by simp) ?_
 show A2 _ 0 _ _ ⟨14,[(0,eN ⟨N,A⟩),(1,AA f0)],[],16⟩;have h6:=HH hn;have h7:=h3.fit.len;have h1:=λ (f:List Int)=>VI N A f A.length hn;have h2:=λ (f:List Int) (hf:BN N A f)=>tZ N A f hn hf;have h9:=hn.2.2.1;simp only at h9;have h5:=Rz f0 (by omega)
 rw[h7] at h5;have ha:∀ g:Int->List AV,List.take A.length (List.map g f0)=List.map g f0:=λ g=>Qb (by simp;omega)
 refine rs [1,2] [] [16] ?_;apply ay [5] [(48,48),(64,64)] [] 80
 .simp
  refine CV h5 ?_;simp;refine Cq (i:=48) rfl (by simp[AB]) (h1 f0) (by simp) (by simp) ?_
  simp;exact⟨rfl,rfl⟩
 refine AC (AL (Ae (ι:=List Int) (λ f=>⟨14,[(5,.pt 64 0 0)],[(48,some ⟨1,AD f,0⟩),(64,some ⟨4,[rC N A (.rs 48 0 A.length)],0⟩)],80⟩) (λ f=>BN N A f) (λ f=>(BQ (λ x=>decide (x=0)) A - AZ A f).toNat) f0 h3 (Av [(48,48),(64,64)] []) ?_));intro f hf;obtain⟨⟨c,f'⟩,hx,h0⟩:=h2 f hf;simp only at hx h0;refine AC ?_;apply ax [5,11] [(48,48),(64,64)] [] 100
 .simp
  refine Cq (i:=48) rfl (by simp[AB]) h0 (by simp) (by simp) ?_
  simp;rfl
 refine AE _ rfl (λ h4=>?_) λ h4=>?_
 .have hc:c=true:=h4
  subst hc;simp only[UY] at hx;have hb:=KA (S:=λ x=>decide (x=0)) h6 hx.1 (by simp) (by simp)
  exact AJ (AL (AJ ⟨f',hx.1,by have:=hx.2;omega,Av [(48,48),(64,64)] []⟩))
 have hc:c=false:=h4;subst hc;simp only[Ud,Ux] at hx;obtain⟨rfl,hm⟩:=hx;refine Aa (hit (ar [4] [(48,48)] [] 200 ?_));exact BG (F4.mk (.inr rfl) f' ⟨hf,hm⟩ (AS.out [48] [] rfl (by simp) (by simp) (by simp) (by simp[AB])))
theorem znY (N:Nat) (A:List Ed) (hn:Cu ⟨N,A⟩) :
  ∃ f:List Int,(BN N A f /\ ∀ f',BN N A f'->AZ A f'<=AZ A f)/\AcP 98 [eN ⟨N,A⟩] [] (.tup [.rs 0 0 A.length,.I 0]) [some ⟨1,AD f,0⟩]:=by
 have h1:=HH hn;obtain⟨f,hf,hg⟩:=ZM N A _ hn (Mp h1);refine⟨f,hf,?_⟩;have h0:=Wz ⟨N,A⟩ (by have:=hn.2.2.1;simp only at this ⊢;omega)
 rw[if_pos hn] at h0;have h2:=hn.2.2.1;simp only at h2;have h3:=hf.1.fit.len;refine gY.s.ai ?_;refine rs [1] [] [16] ?_;refine AC (rx (s:=?s2) [1,4] [] [] rfl ?o2 ?q2)
 case o2=>simp;refine Aq h0 (by simp) ?_;simp;rfl
 refine rs [1,4,8] [] [] ?_;refine AE _ rfl (λ h4=>by cases h4) λ h4=>?_
 refine AJ ?_;apply ay [2,3] [(120,48)] [] 300
 .simp
  refine⟨by omega,by omega,?_⟩
  refine HY [112] hg (by simp[Vq]) (.rs _ _ _) K4 ?_
  simp;exact⟨rfl,rfl⟩
 exact B7 [48] []
theorem fP (N:Nat) (A:List Ed) (f:List Int) (hn:Cu ⟨N,A⟩) (hf:BN N A f) (hm:∀ f',BN N A f'->AZ A f'<=AZ A f) :
  AcP 74 [eN ⟨N,A⟩,.rs 0 0 A.length] [⟨1,AD f,0⟩] (.rs 1 0 (Eu N A).length) [some ⟨1,AD f,0⟩,some ⟨1,AD (Eu N A),0⟩]:=by
 have h4:=HH hn;obtain⟨⟨D,b,R⟩,⟨hb,h5,hR⟩,h0⟩:=Sj N A f hn hf.fit;simp only at hb h5 hR h0;have h1:=VI N A f A.length hn;have h2:CX D N=Eu N A:=P4 h4 hf hm hb.tree hb.mem0 (PT h4 hf hm hb) h5;have h6:=bG hR N (by have:=hn.2.1;simp only at this;omega)
 rw[h2] at h6;have h7:=hf.fit.len;have h3:∀ g:Int->List AV,List.take A.length (List.map g f)=List.map g f:=λ g=>Qb (by simp;omega)
 refine uE.s.ai ?_;refine ar [1,2] [(0,0)] [16] 32 ?_;refine arc ⟨14,[(2,.pv (nC ⟨N,A⟩)),(5,.pt 64 0 0)],[(0,some ⟨1,AD f,0⟩),(64,some ⟨1,[[.mp 56]],0⟩),(56,some ⟨0,R,0⟩)],100⟩ ?_ ?_
 .simp
  refine Cq (i:=0) rfl (by simp[AB]) h1 (by simp) (by simp) ?_
  simp;refine HY [0] h0 (by simp[AB,h3,h7]) (.mp _) (hR.plain _ _) ?_
  simp;exact AF [(0,0),(64,64),(56,56)] [] (by simp) (by simp[AB,hR.conv'])
 refine arc ⟨14,[(4,.rs 57 0 (Eu N A).length)],[(0,some ⟨1,AD f,0⟩),(57,some ⟨1,AD (Eu N A),0⟩)],200⟩ ?_ ?_
 .simp
  refine HP (i:=64) (j:=56) (by decide) rfl rfl (by simp) (by simp[hR.conv']) h6 (by simp) (by simp[conv]) ?_
  simp;exact Av [(0,0),(124,57)] []
 exact A9 (AS.k1n 57 (by omega) rfl (by simp) (by simp[AB]) (by simp[AB]))
end Go.Proofs.YtkngdgplbojdlaaGreat
