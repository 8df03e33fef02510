/- Texts of this claim,merged. -/
import Derived.Test.YtkngdgplbojdlaaGreatRw6
import Derived.Shelf.Sort.Plain
import Derived.Test.YtkngdgplbojdlaaGreatProg
import Derived.Shelf.Slices.In.SortNone
set_option linter.unusedSimpArgs false
set_option linter.unusedVariables false
set_option linter.unusedSectionVars false
namespace Go.Proofs.YtkngdgplbojdlaaGreat
open Go
def sumF (φ : Ed->Int->Int) : List Ed->List Int->Int
 | e::A,v::f=>φ e v+sumF φ A f
 | _,_=>0
def outF (A : List Ed) (f : List Int) (x : Int) : Int:=sumF (λ e v=>if e.f=x then v else 0) A f
def inF (A : List Ed) (f : List Int) (x : Int) : Int:=sumF (λ e v=>if e.t=x then v else 0) A f
structure zf3 (N : Nat) (A : List Ed) : Prop where
 two : 2<=N
 arc : ∀ e∈A,0<=e.f/\e.f<N/\0<=e.t/\e.t<N/\e.f≠e.t/\e.t≠0/\e.f≠1/\0<=e.v
def Fit2 : List Ed->List Int->Prop
 | e::A,v::f=>(0<=v/\v<=e.v)/\Fit2 A f
 | [],[]=>True
 | _,_=>False
structure zaK (N : Nat) (A : List Ed) (f : List Int) : Prop where
 fit : Fit2 A f
 bal : ∀ x : Nat,2<=x->x<N->outF A f x=inF A f x
def valF (A : List Ed) (f : List Int) : Int:=outF A f 0
theorem Fit2.len : ∀ {A : List Ed} {f : List Int},Fit2 A f->f.length=A.length
 | [],[],_=>rfl
 | _::_,_::_,h=>by simp [h.2.len]
 | [],_::_,h=>h.elim
 | _::_,[],h=>h.elim
theorem zs8 (φ ψ : Ed->Int->Int) : ∀ (A : List Ed) (f : List Int),sumF (λ e v=>φ e v+ψ e v) A f=sumF φ A f+sumF ψ A f
 | [],_=>by simp [sumF]
 | _::_,[]=>by simp [sumF]
 | e::A,v::f=>by
   simp only [sumF];rw [zs8 φ ψ A f];omega
theorem zpG (φ ψ : Ed->Int->Int) : ∀ (A : List Ed) (f : List Int),sumF (λ e v=>φ e v - ψ e v) A f=sumF φ A f - sumF ψ A f
 | [],_=>by simp [sumF]
 | _::_,[]=>by simp [sumF]
 | e::A,v::f=>by
   simp only [sumF];rw [zpG φ ψ A f];omega
theorem zeP {φ ψ : Ed->Int->Int} : ∀ {A : List Ed} {f : List Int},(∀ e∈A,∀ v,φ e v=ψ e v)->sumF φ A f=sumF ψ A f
 | [],_,_=>by simp [sumF]
 | _::_,[],_=>by simp [sumF]
 | e::A,v::f,h=>by
   simp only [sumF];rw [h e List.mem_cons_self v,zeP λ x hx=>h x (List.mem_cons_of_mem _ hx)]
theorem zif : ∀ {A : List Ed} {f : List Int},sumF (λ _ _=>0) A f=0
 | [],_=>by simp [sumF]
 | _::_,[]=>by simp [sumF]
 | e::A,v::f=>by simp [sumF,zif (A:=A) (f:=f)]
theorem zr1 {φ ψ : Ed->Int->Int} : ∀ {A : List Ed} {f : List Int},Fit2 A f->(∀ e∈A,∀ v,0<=v->v<=e.v->φ e v<=ψ e v)->sumF φ A f<=sumF ψ A f
 | [],[],_,_=>by simp [sumF]
 | [],_::_,h,_=>h.elim
 | _::_,[],h,_=>h.elim
 | e::A,v::f,h,hh=>by
   simp only [sumF];have h1:=hh e List.mem_cons_self v h.1.1 h.1.2;have h2:=zr1 h.2 λ x hx=>hh x (List.mem_cons_of_mem _ hx);omega
def zft (S : Int->Bool) (g : Int->Int) : Nat->Int
 | 0=>0
 | n+1=>zft S g n+if S n then g n else 0
theorem znq (S : Int->Bool) (g h : Int->Int) : ∀ n,zft S (λ x=>g x - h x) n=zft S g n - zft S h n
 | 0=>rfl
 | n+1=>by
   simp only [zft];rw [znq S g h n];split <;> omega
theorem zjE (S : Int->Bool) (A : List Ed) (f : List Int) (π : Ed->Int) : ∀ n : Nat,(∀ e∈A,0<=π e)->zft S (λ x=>sumF (λ e v=>if π e=x then v else 0) A f) n=sumF (λ e v=>if π e<n/\S (π e)=true then v else 0) A f
 | 0,h=>by
   rw [zeP (ψ:=λ _ _=>0) λ e he v=>if_neg λ h2=>by have:=h e he; omega,zif]
   rfl
 | n+1,h=>by
   have ih:=zjE S A f π n h;simp only [zft];rw [ih]
   by_cases hs : S n=true
   .rw [if_pos hs,<- zs8]
    refine zeP λ e he v=>?_;have h0:=h e he
    by_cases h1 : π e=n
    .have h2 : ¬ (π e<(n : Int)/\S (π e)=true):=by omega
     have h3 : π e<((n+1 : Nat) : Int)/\S (π e)=true:=⟨by omega,by rw [h1]; exact hs⟩
     rw [if_neg h2,if_pos h1,if_pos h3,Int.zero_add]
    .rw [if_neg h1,Int.add_zero]
     by_cases h2 : π e<(n : Int)/\S (π e)=true
     .rw [if_pos h2,if_pos ⟨by omega,h2.2⟩]
     .rw [if_neg h2,if_neg λ h3=>h2 ⟨by omega,h3.2⟩]
   .rw [if_neg hs,Int.add_zero]
    refine zeP λ e he v=>?_;have h0:=h e he
    by_cases h2 : π e<(n : Int)/\S (π e)=true
    .rw [if_pos h2,if_pos ⟨by omega,h2.2⟩]
    .rw [if_neg h2,if_neg λ h3=>h2 ⟨?_,h3.2⟩]
     have h4 : π e≠n:=λ h5=>hs (h5 ▸ h3.2);omega
def outS (S : Int->Bool) (A : List Ed) (f : List Int) : Int:=sumF (λ e v=>if S e.f=true/\S e.t=false then v else 0) A f
def inS (S : Int->Bool) (A : List Ed) (f : List Int) : Int:=sumF (λ e v=>if S e.f=false/\S e.t=true then v else 0) A f
def capS (S : Int->Bool) (A : List Ed) : Int:=sumF (λ e _=>if S e.f=true/\S e.t=false then e.v else 0) A (A.map λ _=>0)
theorem zmn (S : Int->Bool) (g : Int->Int) (N : Nat) (h0 : S 0=true) (h1 : S 1=false) (hg : ∀ x : Nat,2<=x->x<N->g x=0) : ∀ n,n<=N->1<=n->zft S g n=g 0
 | 0,_,h=>by omega
 | 1,_,_=>by simp [zft,h0]
 | n+2,h,_=>by
   have ih:=zmn S g N h0 h1 hg (n+1) (by omega) (by omega)
   simp only [zft] at ih ⊢;rw [ih]
   cases n with
   | zero=>simp [h1]
   | succ n =>
     have:=hg (n+1+1) (by omega) (by omega)
     split <;> omega
theorem zpq {N : Nat} {A : List Ed} {f : List Int} (hn : zf3 N A) (hf : zaK N A f) {S : Int->Bool} (h0 : S 0=true) (h1 : S 1=false) : valF A f=outS S A f - inS S A f:=by
 have e1:=zmn S (λ x=>outF A f x - inF A f x) N h0 h1 (λ x h2 h3=>by have:=hf.bal x h2 h3; omega) N (Nat.le_refl _) (by have:=hn.two; omega)
 have e2 : inF A f 0=0:=by
  unfold inF;rw [zeP (ψ:=λ _ _=>0) λ e he v=>if_neg (hn.arc e he).2.2.2.2.2.1,zif]
 rw [znq] at e1;have e3:=zjE S A f (·.f) N λ e he=>(hn.arc e he).1
 have e4:=zjE S A f (·.t) N λ e he=>(hn.arc e he).2.2.1
 have e5 : zft S (outF A f) N=_:=e3;have e6 : zft S (inF A f) N=_:=e4;rw [e5,e6,<- zpG] at e1;unfold valF outS inS;rw [<- zpG];have e7 : outF A f 0=outF A f 0 - inF A f 0:=by omega
 rw [e7,<- e1];refine zeP λ e he v=>?_;obtain ⟨q1,q2,q3,q4,_⟩:=hn.arc e he
 cases hf1 : S e.f <;> cases ht1 : S e.t <;> simp [q2,q4]
theorem zru {A : List Ed} {f : List Int} (hf : Fit2 A f) (S : Int->Bool) : outS S A f<=capS S A:=by
 have key : ∀ {A : List Ed} {f : List Int},Fit2 A f->sumF (λ e _=>if S e.f=true/\S e.t=false then e.v else 0) A (A.map λ _=>0)=sumF (λ e _=>if S e.f=true/\S e.t=false then e.v else 0) A f:=by
  intro A
  induction A with
  | nil=>intro f _; simp [sumF]
  | cons e A ih =>
    intro f h
    cases f with
    | nil=>exact h.elim
    | cons v f=>simp only [sumF,List.map_cons]; rw [ih h.2]
 unfold outS capS;rw [key hf];exact zr1 hf λ e _ v h1 h2=>by split <;> omega
theorem zlc {A : List Ed} {f : List Int} (hf : Fit2 A f) (S : Int->Bool) : 0<=inS S A f:=by
 have : sumF (λ _ _=>0) A f<=inS S A f:=zr1 hf λ e _ v h1 h2=>by split <;> omega
 rw [zif] at this;exact this
theorem zfL {N : Nat} {A : List Ed} {f : List Int} (hn : zf3 N A) (hf : zaK N A f) {S : Int->Bool} (h0 : S 0=true) (h1 : S 1=false) : valF A f<=capS S A:=by
 rw [zpq hn hf h0 h1];have:=zru hf.fit S;have:=zlc hf.fit S;omega
def arcD (A : List Ed) (i : Nat) : Ed:=A.getD i ⟨0,0,0⟩
theorem zfF {A : List Ed} {i : Nat} (h : i<A.length) : arcD A i∈A:=by
 unfold arcD;rw [List.getD_eq_getElem?_getD,List.getElem?_eq_getElem h];exact List.getElem_mem h
abbrev Stp:=Nat × Bool
def stF (A : List Ed) (s : Stp) : Int:=if s.2 then (arcD A s.1).t else (arcD A s.1).f
def stT (A : List Ed) (s : Stp) : Int:=if s.2 then (arcD A s.1).f else (arcD A s.1).t
def zb8 (A : List Ed) (f : List Int) (s : Stp) : Int:=if s.2 then f.getD s.1 0 else (arcD A s.1).v - f.getD s.1 0
def zjq (δ : Int) (f : List Int) (s : Stp) : List Int:=f.set s.1 (f.getD s.1 0+if s.2 then -δ else δ)
def zjm (δ : Int) (f : List Int) (l : List Stp) : List Int:=l.foldl (zjq δ) f
theorem zpr (φ : Ed->Int->Int) : ∀ (A : List Ed) (f : List Int) (i : Nat) (v : Int),i<A.length->f.length=A.length->sumF φ A (f.set i v)=sumF φ A f+(φ (arcD A i) v - φ (arcD A i) (f.getD i 0))
 | [],_,_,_,h,_=>by simp at h
 | _::_,[],_,_,_,h=>by simp at h
 | e::A,w::f,0,v,_,_=>by
   simp only [List.set_cons_zero,sumF];have h1 : arcD (e::A) 0=e:=rfl;have h2 : (w::f).getD 0 0=w:=rfl;rw [h1,h2];omega
 | e::A,w::f,i+1,v,h,hl=>by
   simp only [List.set_cons_succ,sumF];have h1 : arcD (e::A) (i+1)=arcD A i:=by simp [arcD]
   have h2 : (w::f).getD (i+1) 0=f.getD i 0:=by simp
   rw [zpr φ A f i v (by simpa using h) (by simpa using hl),h1,h2]
   omega
def exF (A : List Ed) (f : List Int) (x : Int) : Int:=outF A f x - inF A f x
theorem zm3 {δ : Int} {f : List Int} {s : Stp} : (zjq δ f s).length=f.length:=List.length_set ..
theorem zhV {δ : Int} : ∀ {l : List Stp} {f : List Int},(zjm δ f l).length=f.length
 | [],_=>rfl
 | s::l,f=>by
   show (zjm δ (zjq δ f s) l).length=_;rw [zhV,zm3]
theorem zs6 {A : List Ed} {f : List Int} {δ : Int} {s : Stp} (hs : s.1<A.length) (hl : f.length=A.length) (x : Int) :
  exF A (zjq δ f s) x=exF A f x+(if stF A s=x then δ else 0) - if stT A s=x then δ else 0:=by
 unfold exF outF inF zjq;rw [zpr _ A f s.1 _ hs hl,zpr _ A f s.1 _ hs hl];unfold stF stT;generalize arcD A s.1=e;generalize f.getD s.1 0=v;generalize sumF _ A f=p;generalize sumF _ A f=q;obtain ⟨i,b⟩:=s
 cases b
 .simp only [Bool.false_eq_true,if_false]
  by_cases h1 : e.f=x <;> by_cases h2 : e.t=x <;> simp only [h1,h2,if_true,if_false] <;> omega
 .simp only [if_true]
  by_cases h1 : e.f=x <;> by_cases h2 : e.t=x <;> simp only [h1,h2,if_true,if_false] <;> omega
def WayS (A : List Ed) : Int->List Stp->Int->Prop
 | u,[],w=>u=w
 | u,s::l,w=>s.1<A.length/\stF A s=u/\WayS A (stT A s) l w
theorem zs9 {A : List Ed} {δ : Int} (x w : Int) : ∀ {l : List Stp} {f : List Int} {u : Int},f.length=A.length->WayS A u l w->exF A (zjm δ f l) x=exF A f x+(if u=x then δ else 0) - if w=x then δ else 0
 | [],f,u,_,h=>by
   have h' : u=w:=h;subst h';show exF A f x=_;omega
 | s::l,f,u,hl,h=>by
   obtain ⟨h1,h2,h3⟩:=h;show exF A (zjm δ (zjq δ f s) l) x=_;rw [zs9 x w (by rw [zm3,hl]) h3,zs6 h1 hl x,h2]
   omega
theorem zeo {A : List Ed} {f : List Int} : Fit2 A f↔f.length=A.length /\ ∀ i,i<A.length->0<=f.getD i 0/\f.getD i 0<=(arcD A i).v:=by
 induction A generalizing f with
 | nil =>
   cases f with
   | nil=>simp [Fit2]
   | cons v f=>simp [Fit2]
 | cons e A ih =>
   cases f with
   | nil=>simp [Fit2]
   | cons v f =>
     show (0<=v/\v<=e.v)/\Fit2 A f↔_;rw [ih];constructor
     .rintro ⟨h1,h2,h3⟩
      refine ⟨by simp [h2],λ i hi=>?_⟩
      cases i with
      | zero=>exact h1
      | succ i =>
        have:=h3 i (by simpa using hi)
        simpa [arcD] using this
     .rintro ⟨h1,h2⟩
      refine ⟨h2 0 (by simp),by simpa using h1,λ i hi=>?_⟩
      have:=h2 (i+1) (by simpa using hi)
      simpa [arcD] using this
theorem zib {δ : Int} : ∀ {l : List Stp} {f : List Int} {i : Nat},(l.map (·.1)).Nodup->(∀ s∈l,s.1<f.length) ->
  (i∉l.map (·.1)->(zjm δ f l).getD i 0=f.getD i 0) /\ ∀ b,(i,b)∈l->(zjm δ f l).getD i 0=f.getD i 0+if b then -δ else δ
 | [],f,i,_,_=>⟨λ _=>rfl,λ b hb=>by simp at hb⟩
 | s::l,f,i,hn,hr=>by
   rw [List.map_cons,List.nodup_cons] at hn;have ih:=zib (δ:=δ) (l:=l) (f:=zjq δ f s) (i:=i) hn.2 λ x hx=>by rw [zm3]; exact hr x (List.mem_cons_of_mem _ hx)
   have hs:=hr s (List.mem_cons_self ..)
   have hget : ∀ j,(zjq δ f s).getD j 0=if s.1=j then f.getD j 0+(if s.2 then -δ else δ) else f.getD j 0:=λ j=>by
    unfold zjq
    by_cases hj : s.1=j
    .subst hj
     rw [if_pos rfl,List.getD_eq_getElem?_getD,List.getElem?_set_self hs,Option.getD_some]
    .rw [if_neg hj,List.getD_eq_getElem?_getD,List.getElem?_set_ne hj,List.getD_eq_getElem?_getD]
   refine ⟨λ hi=>?_,λ b hb=>?_⟩
   .rw [List.map_cons,List.mem_cons,not_or] at hi
    show (zjm δ (zjq δ f s) l).getD i 0=_;rw [ih.1 hi.2,hget,if_neg λ e=>hi.1 e.symm]
   .show (zjm δ (zjq δ f s) l).getD i 0=_
    rcases List.mem_cons.1 hb with hb | hb
    .subst hb
     rw [ih.1 hn.1,hget,if_pos rfl]
    .have hne : s.1≠i:=λ e=>hn.1 (e ▸ List.mem_map.2 ⟨_,hb,rfl⟩)
     rw [ih.2 b hb,hget,if_neg hne]
theorem zvw {A : List Ed} {f : List Int} {δ : Int} {l : List Stp} (hf : Fit2 A f) (h0 : 0<=δ) (hn : (l.map (·.1)).Nodup) (hr : ∀ s∈l,s.1<A.length/\δ<=zb8 A f s) : Fit2 A (zjm δ f l):=by
 rw [zeo] at hf ⊢;refine ⟨by rw [zhV,hf.1],λ i hi=>?_⟩
 have hg:=zib (δ:=δ) (f:=f) (i:=i) hn λ s hs=>by rw [hf.1]; exact (hr s hs).1
 have hfi:=hf.2 i hi
 by_cases hm : i∈l.map (·.1)
 .obtain ⟨⟨j,b⟩,hs,rfl⟩:=List.mem_map.1 hm
  have h1:=hg.2 b hs;have h2:=(hr _ hs).2;simp only at h1 h2 hfi ⊢;rw [h1];unfold zb8 at h2
  cases b
  .simp only [Bool.false_eq_true,if_false] at h2 ⊢
   omega
  .simp only [if_true] at h2 ⊢
   omega
 .rw [hg.1 hm]
  exact hfi
theorem zmv {N : Nat} {A : List Ed} (hn : zf3 N A) (f : List Int) : inF A f 0=0:=by
 unfold inF;rw [zeP (ψ:=λ _ _=>0) λ e he v=>if_neg (hn.arc e he).2.2.2.2.2.1,zif]
theorem zyk {N : Nat} {A : List Ed} {f : List Int} {δ : Int} {l : List Stp} (hn : zf3 N A) (hf : zaK N A f) (h0 : 0<=δ) (hw : WayS A 0 l 1) (hd : (l.map (·.1)).Nodup) (hr : ∀ s∈l,s.1<A.length/\δ<=zb8 A f s) :
  zaK N A (zjm δ f l)/\valF A (zjm δ f l)=valF A f+δ:=by
 have hl:=hf.fit.len;have hx:=λ x=>zs9 (A:=A) (δ:=δ) x 1 (l:=l) (f:=f) hl hw;refine ⟨⟨zvw hf.fit h0 hd hr,λ x h2 hN=>?_⟩,?_⟩
 .have h3:=hx x
  have h4:=hf.bal x h2 hN;rw [if_neg (by omega),if_neg (by omega)] at h3
  unfold exF at h3;omega
 .have h3:=hx 0
  rw [if_pos rfl,if_neg (by omega)] at h3
  unfold exF at h3;rw [zmv hn,zmv hn] at h3;unfold valF;omega
theorem ztX {N : Nat} {A : List Ed} {f : List Int} (hn : zf3 N A) (hf : zaK N A f) {S : Int->Bool} (h0 : S 0=true) (h1 : S 1=false)
  (hc : ∀ s : Stp,s.1<A.length->S (stF A s)=true->0<zb8 A f s->S (stT A s)=true) : valF A f=capS S A:=by
 rw [zpq hn hf h0 h1]
 have key : ∀ {A : List Ed} {f : List Int},Fit2 A f->(∀ s : Stp,s.1<A.length->S (stF A s)=true->0<zb8 A f s->S (stT A s)=true)->outS S A f=capS S A/\inS S A f=0:=by
  intro A
  induction A with
  | nil=>intro f _ _; simp [outS,inS,capS,sumF]
  | cons e A ih =>
    intro f hf hc
    cases f with
    | nil=>exact hf.elim
    | cons v f =>
      have h2:=ih hf.2 λ s hs hsf hr=>by
       have:=hc (s.1+1,s.2) (by simpa using hs) (by simpa [stF,arcD] using hsf) (by simpa [zb8,arcD] using hr)
       simpa [stT,arcD] using this
      have ha:=hc (0,false) (by simp)
      have hb:=hc (0,true) (by simp)
      simp [stF,stT,zb8,arcD] at ha hb;have hv:=hf.1;unfold outS inS capS at h2 ⊢;simp only [sumF,List.map_cons];obtain ⟨p1,p2⟩:=h2;rw [p1,p2]
      cases hF : S e.f <;> cases hT : S e.t <;> simp [hF,hT] at ha hb ⊢ <;> omega
 obtain ⟨p1,p2⟩:=key hf.fit hc;rw [p1,p2];omega
theorem WayS.snoc {A : List Ed} : ∀ {l : List Stp} {u w : Int} {s : Stp},WayS A u l w->s.1<A.length->stF A s=w->WayS A u (l++[s]) (stT A s)
 | [],u,w,s,h,h1,h2=>⟨h1,by rw [h2]; exact (show u=w from h).symm,rfl⟩
 | t::l,u,w,s,h,h1,h2=>⟨h.1,h.2.1,WayS.snoc h.2.2 h1 h2⟩
structure zuR (A : List Ed) (f : List Int) (D : List Int) (by_ : Int->Stp) : Prop where
 zero : D.head? = some 0
 nodup : D.Nodup
 step : ∀ j (h : j<D.length),0<j->(by_ D[j]).1<A.length/\stT A (by_ D[j])=D[j]/\stF A (by_ D[j])∈D.take j/\0<zb8 A f (by_ D[j])
theorem zrx {A : List Ed} {s t : Stp} (h : s.1=t.1) : (stF A s=stF A t/\stT A s=stT A t)∨(stF A s=stT A t/\stT A s=stF A t):=by
 obtain ⟨i,b⟩:=s;obtain ⟨j,c⟩:=t;simp only at h;subst h;unfold stF stT
 cases b <;> cases c <;> simp
theorem zuR.way {A : List Ed} {f D : List Int} {by_ : Int->Stp} (h : zuR A f D by_) : ∀ (n j : Nat) (hj : j<D.length),j<=n ->
  ∃ l,WayS A 0 l D[j]/\(l.map (·.1)).Nodup /\ ∀ s∈l,s.1<A.length/\0<zb8 A f s/\by_ (stT A s)=s/\stT A s≠0/\stF A s∈D.take (j+1)/\stT A s∈D.take (j+1)
 | n,0,hj,_=>by
   refine ⟨[],?_,by simp,by simp⟩
   show (0 : Int)=D[0];have h0:=h.zero;rw [List.head?_eq_getElem?,List.getElem?_eq_getElem hj] at h0;exact (Option.some.inj h0).symm
 | 0,j+1,_,hn=>by omega
 | n+1,j+1,hj,hn=>by
   obtain ⟨h1,h2,h3,h4⟩:=h.step (j+1) hj (by omega)
   obtain ⟨i,hi,hiF⟩:=List.mem_iff_getElem.1 h3;rw [List.length_take] at hi;rw [List.getElem_take] at hiF;have hij : i<j+1:=by omega
   obtain ⟨l,w1,w2,w3⟩:=h.way n i (by omega) (by omega)
   have hne : ∀ (k m : Nat) (hk : k<D.length) (hm : m<D.length),k≠m->D[k]≠D[m]:=λ k m hk hm hkm he=>by
    rcases Nat.lt_or_ge k m with hlt | hge
    .exact List.pairwise_iff_getElem.1 h.nodup k m hk hm hlt he
    .exact List.pairwise_iff_getElem.1 h.nodup m k hm hk (by omega) he.symm
   have hnot : D[j+1]∉D.take (i+1):=λ hm=>by
    obtain ⟨k,hk,hkD⟩:=List.mem_iff_getElem.1 hm;rw [List.length_take] at hk;rw [List.getElem_take] at hkD;exact hne k (j+1) (by omega) hj (by omega) hkD
   have hup : ∀ x,x∈D.take (i+1)->x∈D.take (j+1+1):=λ x hx=>(List.take_sublist_take_left (by omega : i+1<=j+1+1)).subset hx
   have h0 : D[j+1]≠0:=λ he=>by
    have hz:=h.zero;rw [List.head?_eq_getElem?,List.getElem?_eq_getElem (by omega)] at hz
    exact hne 0 (j+1) (by omega) hj (by omega) ((Option.some.inj hz).trans he.symm)
   refine ⟨l++[by_ D[j+1]],?_,?_,λ s hs=>?_⟩
   .have:=WayS.snoc (s:=by_ D[j+1]) w1 h1 hiF.symm
    rw [h2] at this;exact this
   .rw [List.map_append,List.nodup_append]
    refine ⟨w2,by simp,λ a ha b hb=>?_⟩
    obtain ⟨t,ht,rfl⟩:=List.mem_map.1 ha;simp only [List.map_cons,List.map_nil,List.mem_singleton] at hb;subst hb;intro he;obtain ⟨_,_,_,_,q1,q2⟩:=w3 t ht;rcases zrx (A:=A) he with ⟨e1,e2⟩ | ⟨e1,e2⟩
    .rw [e2,h2] at q2
     exact hnot q2
    .rw [e1,h2] at q1
     exact hnot q1
   .rcases List.mem_append.1 hs with hs | hs
    .obtain ⟨p1,p2,p3,p4,p5,p6⟩:=w3 s hs
     exact ⟨p1,p2,p3,p4,hup _ p5,hup _ p6⟩
    .rw [List.mem_singleton] at hs
     subst hs;refine ⟨h1,h4,by rw [h2],by rw [h2]; exact h0,?_,?_⟩
     .exact (List.take_sublist_take_left (by omega : j+1<=j+1+1)).subset h3
     .rw [h2]
      refine List.mem_iff_getElem.2 ⟨j+1,by rw [List.length_take]; omega,by rw [List.getElem_take]⟩
def zgO (A : List Ed) (f D : List Int) : Prop:=∀ s : Stp,s.1<A.length->stF A s∈D->0<zb8 A f s->stT A s∈D
theorem ziL {N : Nat} {A : List Ed} {f D : List Int} (hn : zf3 N A) (hf : zaK N A f) (h0 : (0 : Int)∈D) (h1 : (1 : Int)∉D) (hc : zgO A f D) : valF A f=capS (λ x=>decide (x∈D)) A /\ ∀ f',zaK N A f'->valF A f'<=valF A f:=by
 have e:=ztX (S:=λ x=>decide (x∈D)) hn hf (by simpa using h0) (by simpa using h1) λ s hs hF hr=>by
  have:=hc s hs (by simpa using hF) hr
  simpa using this
 refine ⟨e,λ f' hf'=>?_⟩;rw [e];exact zfL hn hf' (by simpa using h0) (by simpa using h1)
theorem znV {N : Nat} {A : List Ed} {f D : List Int} {by_ : Int->Stp} (hn : zf3 N A) (hf : zaK N A f) (ht : zuR A f D by_) {S : Int->Bool} (h0 : S 0=true) (h1 : S 1=false) (hS : capS S A=valF A f) : ∀ x∈D,S x=true:=by
 have hv:=zpq hn hf h0 h1;have ho:=zru hf.fit S;have hi:=zlc hf.fit S;have ho2 : outS S A f=capS S A:=by omega
 have hi2 : inS S A f=0:=by omega
 have key : ∀ {A : List Ed} {f : List Int},Fit2 A f->outS S A f=capS S A->inS S A f=0 -> ∀ s : Stp,s.1<A.length->S (stF A s)=true->0<zb8 A f s->S (stT A s)=true:=by
  intro A
  induction A with
  | nil=>intro f _ _ _ s hs; simp at hs
  | cons e A ih =>
    intro f hf ho hi s hs hF hr
    cases f with
    | nil=>exact hf.elim
    | cons v f =>
      have k1:=zru hf.2 S;have k2:=zlc hf.2 S;have hv:=hf.1;have e1 : outS S (e::A) (v::f)=(if S e.f=true/\S e.t=false then v else 0)+outS S A f:=rfl
      have e2 : inS S (e::A) (v::f)=(if S e.f=false/\S e.t=true then v else 0)+inS S A f:=rfl
      have e3 : capS S (e::A)=(if S e.f=true/\S e.t=false then e.v else 0)+capS S A:=rfl
      rw [e1,e3] at ho;rw [e2] at hi;obtain ⟨i,b⟩:=s
      cases i with
      | zero =>
        cases b
        .simp [stF,stT,zb8,arcD] at hF hr ⊢
         cases hT : S e.t
         .simp [hF,hT] at ho
          omega
         .rfl
        .simp [stF,stT,zb8,arcD] at hF hr ⊢
         cases hT : S e.f
         .simp [hF,hT] at hi
          omega
         .rfl
      | succ i =>
        have q1 : outS S A f=capS S A:=by
         split at ho <;> omega
        have q2 : inS S A f=0:=by
         split at hi <;> omega
        have:=ih hf.2 q1 q2 (i,b) (by simpa using hs) (by simpa [stF,arcD] using hF) (by simpa [zb8,arcD] using hr)
        simpa [stT,arcD] using this
 have hcl:=key hf.fit ho2 hi2
 have hind : ∀ (n j : Nat) (hj : j<D.length),j<=n->S D[j]=true:=by
  intro n
  induction n with
  | zero =>
    intro j hj hn;have hj0 : j=0:=by omega
    subst hj0;have hz:=ht.zero;rw [List.head?_eq_getElem?,List.getElem?_eq_getElem hj] at hz;rw [Option.some.inj hz];exact h0
  | succ n ih =>
    intro j hj hn;rcases Nat.eq_zero_or_pos j with hj0 | hj0
    .exact ih j hj (by omega)
    .obtain ⟨q1,q2,q3,q4⟩:=ht.step j hj hj0
     obtain ⟨i,hi,hiF⟩:=List.mem_iff_getElem.1 q3;rw [List.length_take] at hi;rw [List.getElem_take] at hiF;have:=hcl _ q1 (by rw [<- hiF]; exact ih i (by omega) (by omega)) q4
     rw [q2] at this;exact this
 intro x hx;obtain ⟨j,hj,rfl⟩:=List.mem_iff_getElem.1 hx;exact hind j j hj (Nat.le_refl _)
def WayA (A : List Ed) : Int->List Nat->Int->Prop
 | u,[],w=>u=w
 | u,i::l,w=>i<A.length/\(arcD A i).f=u/\WayA A (arcD A i).t l w
theorem WayA.snoc {A : List Ed} : ∀ {l : List Nat} {u w : Int} {i : Nat},WayA A u l w->i<A.length->(arcD A i).f=w->WayA A u (l++[i]) (arcD A i).t
 | [],u,w,i,h,h1,h2=>⟨h1,by rw [h2]; exact (show u=w from h).symm,rfl⟩
 | j::l,u,w,i,h,h1,h2=>⟨h.1,h.2.1,WayA.snoc h.2.2 h1 h2⟩
def metA (A : List Ed) (l : List Nat) : List Int:=l.map λ i=>(arcD A i).t
theorem zws (A : List Ed) (l : List Nat) (i : Nat) : metA A (l++[i])=metA A l++[(arcD A i).t]:=by simp [metA]
theorem WayA.take {A : List Ed} : ∀ {l : List Nat} {u w : Int} (n : Nat),WayA A u l w -> ∀ x,(u::metA A l)[n]? = some x->WayA A u (l.take n) x
 | l,u,w,0,_,x,hx=>by
   have : u=x:=by simpa using hx
   exact this
 | [],u,w,n+1,_,x,hx=>by simp [metA] at hx
 | i::l,u,w,n+1,h,x,hx=>by
   refine ⟨h.1,h.2.1,WayA.take n h.2.2 x ?_⟩
   simpa [metA] using hx
theorem zpn (l : List Nat) (n i : Nat) : (l.take n).count i<=l.count i:=(List.take_sublist n l).count_le i
structure zme (A : List Ed) (f g : List Int) (l : List Nat) (w : Int) : Prop where
 len : g.length=A.length
 nonneg : ∀ i,0<=g.getD i 0
 way : WayA A 0 l w
 met : ((0 : Int)::metA A l).Nodup
 used : ∀ i,g.getD i 0+(l.count i : Int)<=f.getD i 0
 ex : ∀ x,exF A g x=exF A f x - (if x=0 then 1 else 0)+if x=w then 1 else 0
theorem zme.start {A : List Ed} {f : List Int} (hl : f.length=A.length) (h0 : ∀ i,0<=f.getD i 0) : zme A f f [] 0 :=
 ⟨hl,h0,rfl,by simp [metA],λ i=>by simp,λ x=>by split <;> omega⟩
theorem zte (f : List Int) (i j : Nat) (v : Int) (h : i<f.length) : (f.set i v).getD j 0=if i=j then v else f.getD j 0:=by
 by_cases hj : i=j
 .subst hj
  rw [if_pos rfl,List.getD_eq_getElem?_getD,List.getElem?_set_self h,Option.getD_some]
 .rw [if_neg hj,List.getD_eq_getElem?_getD,List.getElem?_set_ne hj,List.getD_eq_getElem?_getD]
theorem zme.more {A : List Ed} {f g : List Int} {l : List Nat} {w : Int} (h : zme A f g l w) {k : Nat} (hk : k<A.length) (hf : (arcD A k).f=w) (hg : 0<g.getD k 0) :
  ((arcD A k).t∉((0 : Int)::metA A l)->zme A f (g.set k (g.getD k 0 - 1)) (l++[k]) (arcD A k).t) /\
  ∀ n,((0 : Int)::metA A l)[n]? = some (arcD A k).t->zme A f (g.set k (g.getD k 0 - 1)) (l.take n) (arcD A k).t:=by
 have hkl : k<g.length:=by rw [h.len]; exact hk
 have hnn : ∀ i,0<=(g.set k (g.getD k 0 - 1)).getD i 0:=λ i=>by
  rw [zte g k i _ hkl];split
  .omega
  .exact h.nonneg i
 have hex : ∀ x,exF A (g.set k (g.getD k 0 - 1)) x=exF A f x - (if x=0 then 1 else 0)+if x=(arcD A k).t then 1 else 0:=λ x=>by
  have h1:=zs6 (A:=A) (f:=g) (δ:=-1) (s:=(k,false)) hk h.len x;have h2 : zjq (-1) g (k,false)=g.set k (g.getD k 0 - 1):=rfl;have h3 : stF A (k,false)=w:=hf;have h4 : stT A (k,false)=(arcD A k).t:=rfl;rw [h2,h3,h4,h.ex x] at h1;rw [h1]
  have e1 : (if w=x then (-1 : Int) else 0) = - if x=w then 1 else 0:=by
   by_cases hh : w=x
   .rw [if_pos hh,if_pos hh.symm]
   .rw [if_neg hh,if_neg λ e=>hh e.symm,Int.neg_zero]
  have e2 : (if (arcD A k).t=x then (-1 : Int) else 0) = - if x=(arcD A k).t then 1 else 0:=by
   by_cases hh : (arcD A k).t=x
   .rw [if_pos hh,if_pos hh.symm]
   .rw [if_neg hh,if_neg λ e=>hh e.symm,Int.neg_zero]
  rw [e1,e2];omega
 have hus : ∀ i,(g.set k (g.getD k 0 - 1)).getD i 0+((l++[k]).count i : Int)<=f.getD i 0:=λ i=>by
  have h1:=h.used i;rw [zte g k i _ hkl,List.count_append]
  by_cases hi : k=i
  .subst hi
   rw [if_pos rfl,show List.count k [k]=1 by simp]
   omega
  .rw [if_neg hi,show List.count i [k]=0 from List.count_eq_zero.2 (by simpa using λ e=>hi e.symm)]
   omega
 refine ⟨λ hm=>⟨by rw [List.length_set]; exact h.len,hnn,h.way.snoc hk hf,?_,hus,hex⟩,λ n hn=>⟨by rw [List.length_set]; exact h.len,hnn,h.way.take n _ hn,?_,λ i=>?_,hex⟩⟩
 .rw [zws,<- List.cons_append,List.nodup_append]
  exact ⟨h.met,by simp,λ a ha b hb=>by rw [List.mem_singleton] at hb; subst hb; rintro rfl; exact hm ha⟩
 .have hs : ((0 : Int)::metA A (l.take n)).Sublist ((0 : Int)::metA A l):=((List.take_sublist n l).map _).cons_cons 0
  exact h.met.sublist hs
 .have h1:=hus i
  have h2 : (l.take n).count i<=(l++[k]).count i:=Nat.le_trans (zpn l n i) (by rw [List.count_append]; omega)
  omega
theorem zak {α β : Type} (f : α->β) (l : List α) : List.take l.length (List.map f l)=List.map f l:=List.take_of_length_le (by simp)
def zdA : Gr:=⟨0,[],[]⟩
def zq5 (g : Gr) (e : Ed) : Gr:=⟨g.size,g.edges.take (idxE g.edges ⟨e.f,e.t,0⟩)++e::g.edges.drop (idxE g.edges ⟨e.f,e.t,0⟩),g.gone⟩
open Classical in
noncomputable def zgg (g : Gr) (e : Ed) : Gr × Int :=
 if ¬ GrOk g then (zdA,14) else if ¬ Fits g e then (zdA,4) else if ¬ (1<=e.v/\e.v<=3) then (zdA,2)
 else if AtE g.edges (idxE g.edges ⟨e.f,e.t,0⟩) e.f e.t then (zdA,19) else if g.edges.length=500 then (zdA,3) else (zq5 g e,0)
open Classical in
theorem zpo (g : Gr) (e : Ed) (hl : g.edges.length*24<=140737488355328) (hl2 : g.gone.length*8<=140737488355328) : zaj Tryz.prog zjj [eG g,eE e] [] (.tup [eG (zgg g e).1,.I (zgg g e).2]) []:=by
 refine zrr.ac ?_;show awp _ 0 _ _ ⟨103,[(0,eG g),(1,eE e)],[],16⟩;refine zaa ⟨103,[(2,.pv (gC g)),(3,.pv (eC e)),(4,.pt 32 0 0)],[(32,some ⟨3,[[.I 0,.nilS,.nilS]],0⟩)],40⟩ rfl ?_ ?_
 .simp
  exact Le.var1 32 [16,24] rfl rfl (nbz rfl) (by decide) rfl (by simp) (by simp) (by simp)
 refine zab ?_;refine zab ?_;refine zap (s:=?s1) rfl ?o1 ?q1
 case o1=>simp; refine zaq (zi8 g (by omega) (by omega)) rfl ?_; simp; rfl
 refine zac _ rfl (λ h2=>?_) λ h2=>?_
 .have hg : ¬ GrOk g:=by
   intro hg;simp [hg] at h2
  refine zab ?_;refine zan ?_;refine zah ?_;refine ⟨.inr rfl,?_⟩;show zao [(4,some (true,3)),(5,none)] 0 _ _ _;refine zao.out (vs:=[.agg [.I 0,.nilS,.nilS],.I 14]) [] [] (by simp) (by simp) (by simp) ?_ (by simp)
  have hr : zgg g e=(zdA,14):=by grind [zgg]
  simp [hr,zdA];exact wkT2 (wkA3 (.refl _) (.nil _ _) (.nil _ _)) (.refl _)
 have hg : GrOk g:=by
  rcases Classical.em (GrOk g) with h | h
  .exact h
  .simp [h] at h2
 refine zad ?_;refine zab ?_;refine zap (s:=?s4) rfl ?o4 ?q4
 case o4=>simp; refine zaq (znv g _ _ (by omega)) rfl ?_; simp; rfl
 refine zab ?_;refine zae ?_;refine zaa ⟨103,[(2,.pv (gC g)),(3,.pv (eC e)),(4,.pt 32 0 0),(6,.I (idxE g.edges ⟨e.f,e.t,0⟩)),(7,.B (decide (AtE g.edges (idxE g.edges ⟨e.f,e.t,0⟩) e.f e.t))),(22,.B (decide (¬ Fits g e)))],[(32,some ⟨3,[[.I 0,.nilS,.nilS]],0⟩)],40⟩ rfl ?_ ?_
 .simp
  repeat' first
   | (refine zgh zcg rfl ?_; refine zaq (zp7 _ _ (by omega)) rfl ?_; simp)
   | (refine zen (λ hb=>?_) (λ hb=>?_) <;> (try rw [hb]) <;> (try simp at hb) <;> simp [*])
  all_goals exact Le.var1 32 [] rfl rfl (nbz rfl) (by decide) rfl (by simp) (by simp) (by simp <;> exact wkB (by (try simp at *); grind [Fits]))
 refine zac _ rfl (λ h5=>?_) λ h5=>?_
 .try simp at h5
  refine zab ?_;refine zan ?_;refine zah ?_;refine ⟨.inr rfl,?_⟩;show zao [(4,some (true,3)),(5,none)] 0 _ _ _;refine zao.out (vs:=[.agg [.I 0,.nilS,.nilS],.I 4]) [] [] (by simp) (by simp) (by simp) ?_ (by simp)
  have hr : zgg g e=(zdA,4):=by grind [zgg]
  simp [hr,zdA];exact wkT2 (wkA3 (.refl _) (.nil _ _) (.nil _ _)) (.refl _)
 try simp at h5
 refine zaa ⟨103,[(2,.pv (gC g)),(3,.pv (eC e)),(4,.pt 32 0 0),(6,.I (idxE g.edges ⟨e.f,e.t,0⟩)),(7,.B (decide (AtE g.edges (idxE g.edges ⟨e.f,e.t,0⟩) e.f e.t))),(67,.B (decide (¬ (1<=e.v/\e.v<=3))))],[(32,some ⟨3,[[.I 0,.nilS,.nilS]],0⟩)],40⟩ rfl ?_ ?_
 .simp
  repeat' first
   | (refine zen (λ hb=>?_) (λ hb=>?_) <;> (try rw [hb]) <;> (try simp at hb) <;> simp [*])
  all_goals exact Le.var1 32 [] rfl rfl (nbz rfl) (by decide) rfl (by simp) (by simp) (by simp <;> exact wkB (by (try simp at *); grind [Fits]))
 refine zac _ rfl (λ h7=>?_) λ h7=>?_
 .try simp at h7
  refine zab ?_;refine zan ?_;refine zah ?_;refine ⟨.inr rfl,?_⟩;show zao [(4,some (true,3)),(5,none)] 0 _ _ _;refine zao.out (vs:=[.agg [.I 0,.nilS,.nilS],.I 2]) [] [] (by simp) (by simp) (by simp) ?_ (by simp)
  have hr : zgg g e=(zdA,2):=by grind [zgg]
  simp [hr,zdA];exact wkT2 (wkA3 (.refl _) (.nil _ _) (.nil _ _)) (.refl _)
 try simp at h7
 refine zab ?_;refine zan ?_;refine zac _ rfl (λ h10=>?_) λ h10=>?_
 .try simp at h10
  refine zab ?_;refine zan ?_;refine zah ?_;refine ⟨.inr rfl,?_⟩;show zao [(4,some (true,3)),(5,none)] 0 _ _ _;refine zao.out (vs:=[.agg [.I 0,.nilS,.nilS],.I 19]) [] [] (by simp) (by simp) (by simp) ?_ (by simp)
  have hr : zgg g e=(zdA,19):=by grind [zgg]
  simp [hr,zdA];exact wkT2 (wkA3 (.refl _) (.nil _ _) (.nil _ _)) (.refl _)
 try simp at h10
 refine zab ?_;refine zan ?_;refine zac _ rfl (λ h13=>?_) λ h13=>?_
 .try simp at h13
  refine zab ?_;refine zan ?_;refine zah ?_;refine ⟨.inr rfl,?_⟩;show zao [(4,some (true,3)),(5,none)] 0 _ _ _;refine zao.out (vs:=[.agg [.I 0,.nilS,.nilS],.I 3]) [] [] (by simp) (by simp) (by simp) ?_ (by simp)
  have hr : zgg g e=(zdA,3):=by grind [zgg]
  simp [hr,zdA];exact wkT2 (wkA3 (.refl _) (.nil _ _) (.nil _ _)) (.refl _)
 try simp at h13
 refine zad ?_;have hle:=zuI g.edges ⟨e.f,e.t,0⟩;refine zab ?_;refine zap (s:=?s20) rfl ?o20 ?q20
 case o20=>simp; refine zsM (zj3 g hl hl2) rfl ?_; simp [fcd]; rfl
 have h500 : g.edges.length<=500:=hg.1.2.2.1;have hmin : min (idxE g.edges ⟨e.f,e.t,0⟩) g.edges.length=idxE g.edges ⟨e.f,e.t,0⟩:=Nat.min_eq_left hle;have hr : zgg g e=(zq5 g e,0):=by grind [zgg]
 rw [hr];unfold zq5;generalize idxE g.edges ⟨e.f,e.t,0⟩=k at *;have htk : List.take (k+1) (List.take k (List.map (λ e : Ed=>[AV.I e.f,AV.I e.t,AV.I e.v]) g.edges)++[[AV.I e.f,AV.I e.t,AV.I e.v]])=List.take k (List.map (λ e : Ed=>[AV.I e.f,AV.I e.t,AV.I e.v]) g.edges)++[[AV.I e.f,AV.I e.t,AV.I e.v]]:=List.take_of_length_le (by simp; exact Nat.min_le_left _ _)
 obtain ⟨E,hE⟩ : ∃ E,E=g.edges.take k++e::g.edges.drop k:=⟨_,rfl⟩;have hEl : k+1+(g.edges.length - k)=E.length:=by subst hE; simp; omega
 have hrows : List.take k (List.map (λ e : Ed=>[AV.I e.f,AV.I e.t,AV.I e.v]) g.edges)++[AV.I e.f,AV.I e.t,AV.I e.v]::List.drop k (List.map (λ e : Ed=>[AV.I e.f,AV.I e.t,AV.I e.v]) g.edges)=E.map λ e : Ed=>[AV.I e.f,AV.I e.t,AV.I e.v]:=by subst hE; simp [List.map_take,List.map_drop]
 rw [<- hE];refine zab ?_;refine zhs (s:=?s15) (tr:=?t15) rfl ?o15 ?r15 ?q15
 case o15 =>
  simp [hmin,hle,htk,hEl,hrows]
  repeat' apply And.intro
  all_goals first | omega | rfl
 case r15=>rfl
 refine zab ?_;refine zan ?_;refine zah ?_;refine ⟨.inr rfl,?_⟩;show zao [(4,some (true,3)),(5,none)] 0 _ _ _;refine zao.out (vs:=[.agg [.I g.size,.rs 224 0 E.length,.rs 105 0 g.gone.length],.I 0]) [] [224,105] (by simp) (by simp) (by simp) ?_ (by simp)
 simp [fcd,zak]
end Go.Proofs.YtkngdgplbojdlaaGreat
namespace Go.Proofs
open Go.Shelf
def Tryz.lays189_ren : Go.Shelf.Ren:=⟨fun | 189=>130 | 125=>113 | 257=>167 | 128=>154 | 129=>155 | 294=>188 | 295=>189 | 296=>190 | 297=>191 | 298=>192 | 299=>193 | 216=>194 | 300=>195 | 301=>196 | 328=>205 | 329=>181 | 330=>182 | 331=>206 | 332=>207 | 215=>114 | 343=>218 | n=>n,fun | 28=>22 | 3=>3 | 46=>134 | 0=>0 | 51=>175 | 53=>158 | 4=>4 | 183=>169 | 182=>168 | 131=>100 | 5=>5 | 9=>9 | 218=>198 | 222=>202 | 228=>214 | 229=>183 | n=>n,fun | n=>n⟩
theorem Tryz.lays189 : Go.Proofs.Lays.n189 Tryz.prog Tryz.lays189_ren:={
 mixed:=by kernel_rfl
 f125:=Tryz.func113.trans (congrArg some (by kernel_rfl))
 f128:=Tryz.func154.trans (congrArg some (by kernel_rfl))
 f129:=Tryz.func155.trans (congrArg some (by kernel_rfl))
 f189:=Tryz.func130.trans (congrArg some (by kernel_rfl))
 f215:=Tryz.func114.trans (congrArg some (by kernel_rfl))
 f216:=Tryz.func194.trans (congrArg some (by kernel_rfl))
 f257:=Tryz.func167.trans (congrArg some (by kernel_rfl))
 f294:=Tryz.func188.trans (congrArg some (by kernel_rfl))
 f295:=Tryz.func189.trans (congrArg some (by kernel_rfl))
 f296:=Tryz.func190.trans (congrArg some (by kernel_rfl))
 f297:=Tryz.func191.trans (congrArg some (by kernel_rfl))
 f298:=Tryz.func192.trans (congrArg some (by kernel_rfl))
 f299:=Tryz.func193.trans (congrArg some (by kernel_rfl))
 f300:=Tryz.func195.trans (congrArg some (by kernel_rfl))
 f301:=Tryz.func196.trans (congrArg some (by kernel_rfl))
 f328:=Tryz.func205.trans (congrArg some (by kernel_rfl))
 f329:=Tryz.func181.trans (congrArg some (by kernel_rfl))
 f330:=Tryz.func182.trans (congrArg some (by kernel_rfl))
 f331:=Tryz.func206.trans (congrArg some (by kernel_rfl))
 f332:=Tryz.func207.trans (congrArg some (by kernel_rfl))
 f343:=Tryz.func218.trans (congrArg some (by kernel_rfl))
 t0:=Tryz.underlying0
 a0:=Tryz.isAgg0
 z0:=Tryz.sizeOf0
 v0:=Tryz.zeroValue0
 t3:=Tryz.underlying3
 a3:=Tryz.isAgg3
 z3:=Tryz.sizeOf3
 v3:=Tryz.zeroValue3
 t4:=Tryz.underlying4
 a4:=Tryz.isAgg4
 z4:=Tryz.sizeOf4
 v4:=Tryz.zeroValue4
 t5:=Tryz.underlying5
 a5:=Tryz.isAgg5
 z5:=Tryz.sizeOf5
 v5:=Tryz.zeroValue5
 t9:=Tryz.underlying9
 a9:=Tryz.isAgg9
 z9:=Tryz.sizeOf9
 v9:=Tryz.zeroValue9
 t28:=Tryz.underlying22
 a28:=Tryz.isAgg22
 z28:=Tryz.sizeOf22
 v28:=Tryz.zeroValue22
 t46:=Tryz.underlying134
 a46:=Tryz.isAgg134
 z46:=Tryz.sizeOf134
 v46:=Tryz.zeroValue134
 t51:=Tryz.underlying175
 a51:=Tryz.isAgg175
 z51:=Tryz.sizeOf175
 v51:=Tryz.zeroValue175
 t53:=Tryz.underlying158
 a53:=Tryz.isAgg158
 z53:=Tryz.sizeOf158
 v53:=Tryz.zeroValue158
 t131:=Tryz.underlying100
 a131:=Tryz.isAgg100
 z131:=Tryz.sizeOf100
 v131:=Tryz.zeroValue100
 t182:=Tryz.underlying168
 a182:=Tryz.isAgg168
 z182:=Tryz.sizeOf168
 v182:=Tryz.zeroValue168
 t183:=Tryz.underlying169
 a183:=Tryz.isAgg169
 z183:=Tryz.sizeOf169
 v183:=Tryz.zeroValue169
 t218:=Tryz.underlying198
 a218:=Tryz.isAgg198
 z218:=Tryz.sizeOf198
 v218:=Tryz.zeroValue198
 t222:=Tryz.underlying202
 a222:=Tryz.isAgg202
 z222:=Tryz.sizeOf202
 v222:=Tryz.zeroValue202
 t228:=Tryz.underlying214
 a228:=Tryz.isAgg214
 z228:=Tryz.sizeOf214
 v228:=Tryz.zeroValue214
 t229:=Tryz.underlying183
 a229:=Tryz.isAgg183
 z229:=Tryz.sizeOf183
 v229:=Tryz.zeroValue183 }
end Go.Proofs
namespace Go.Proofs.YtkngdgplbojdlaaGreat
open Go
def zgi (l : List Int) : List (List AV):=l.map λ n=>[AV.I n]
theorem Src.body {P : Program} {f : FuncId} {af : AFun} (s : Src P f af) : ∃ fn c,P.funcs[f]? = some fn/\fn.body=some c/\fn.name ≠ "runtime.NumGoroutine":=by
 obtain ⟨_,fn,hf,hc,hn⟩:=s;unfold zvq at hc
 cases hb : fn.body with
 | none=>rw [hb] at hc; cases hc
 | some c=>exact ⟨fn,c,hf,hb,hn⟩
theorem zwj (zs : List Int) (h0 : zs≠[]) (hl : zs.length<4611686018427387904) :
  zaj Tryz.prog zaX [.rs 0 0 zs.length] [{ s:=1,rows:=zgi zs }] (.tup []) ([{ s:=1,rows:=zgi (zs.mergeSort λ x y=>decide (x<=y)) }].map some):=by
 refine ⟨zbU.body,by simp,λ T M w vs htok hhs hdom hrep=>?_⟩
 have hpos : 0<zs.length:=List.length_pos_iff.2 h0;obtain ⟨hsz,hr⟩:=hrep;have hr0:=hr 0 (by simp)
 simp only [List.getD_cons_zero] at hr0
 have hvs : vs = #[vs.getD 0 undef]:=by
  apply Array.ext
  .simpa using hsz
  .intro i h1 h2
   have : i=0:=by simp at h2; omega
   subst this;simp [Array.getD,h1]
 rw [hvs];generalize vs.getD 0 undef=v at hr0
 cases hr0 with
 | rs _ _ _ _ cap a g hg hgz hlc hn hb =>
 obtain ⟨g',hg',ent⟩:=hhs.ent 0 _ rfl;rw [hg] at hg';obtain rfl:=Option.some.inj hg';have hrl : (zgi zs).length=zs.length:=by simp [zgi]
 cases hblk : g.blk with
 | none =>
   have:=ent.none hblk;simp [zgi] at this;exact absurd this h0
 | some b =>
 obtain ⟨hcap,c0,t0,f0,hc0,hle0⟩:=hb b hblk;obtain ⟨cells,ty,hw,htb,hlen,hrows⟩:=ent.blk (Nat.succ_ne_zero 0) b hblk
 have ha : a=some ⟨b,g.base+0*g.s,none⟩:=by
  rcases hcap with h | h
  .omega
  .exact h
 subst ha;simp only [Nat.zero_mul,Nat.add_zero] at *
 have hcell : ∀ i,(hi : i<zs.length)->cells[g.base+i]? = some (.int .i64 zs[i]):=by
  intro i hi;obtain ⟨u,hu,_,hru⟩:=hrows i 0 (by rw [hrl]; exact hi) (by decide)
  simp only [Nat.mul_one,Nat.add_zero] at hu;rw [hu];have : ((zgi zs).getD i []).getD 0 .dead = .I zs[i]:=by simp [zgi,List.getD,hi]
  rw [this] at hru
  cases hru;rfl
 have hb' : b<w.heap.size:=(Array.getElem?_eq_some_iff.1 hw).1;refine (Any.slices_Sort_int Tryz.lays189 b g.base cap zs w ?_ hb' hl).mono ?_
 .intro j hj
  have hj' : j<zs.length:=by simpa using hj
  constructor
  .show w.cell? _=_
   unfold World.cell?;simp only [hw];rw [hcell j hj'];simp [hj']
  .unfold World.frozen?
   simp only [hw];simp
 .rintro e w' ⟨rfl,n,os,rfl⟩
  have hsl : (zs.mergeSort λ x y=>decide (x<=y)).length=zs.length:=List.length_mergeSort zs;generalize (zs.mergeSort λ x y=>decide (x<=y))=ys at hsl
  have hh : ∀ b',b'<w.heap.size->(Go.Sort.grow (Go.Sort.putRow (Value.int .i64) (Go.Sort.ahead w n) b g.base ys.toArray) os).heap[b']? = if b'=b then some (.cells (Go.Sort.putCells (Value.int .i64) g.base ys.toArray cells) ty (0,0)) else w.heap[b']?:=by
   intro b' hb1;have hsz' : (w.heap.modify b (Go.Sort.onCells (Go.Sort.putCells (Value.int .i64) g.base ys.toArray))).size=w.heap.size:=Array.size_modify;show ((w.heap.modify b (Go.Sort.onCells (Go.Sort.putCells (Value.int .i64) g.base ys.toArray)))++os)[b']? = _;rw [Array.getElem?_append_left (by rw [hsz']; exact hb1),Array.getElem?_modify]
   by_cases hbb : b=b'
   .subst hbb
    rw [if_pos rfl,if_pos rfl,hw];rfl
   .rw [if_neg hbb,if_neg (Ne.symm hbb)]
  have hput : ∀ o,(o<g.base∨g.base+ys.length<=o)->(Go.Sort.putCells (Value.int .i64) g.base ys.toArray cells)[o]? = cells[o]?:=by
   intro o ho;unfold Go.Sort.putCells;rw [Array.getElem?_mapIdx]
   cases hc : cells[o]? with
   | none=>rfl
   | some u =>
     simp only [Option.map_some];rw [if_neg];simp;omega
  have hput2 : ∀ i,(hi : i<ys.length)->(Go.Sort.putCells (Value.int .i64) g.base ys.toArray cells)[g.base+i]? = some (.int .i64 ys[i]):=by
   intro i hi;unfold Go.Sort.putCells;rw [Array.getElem?_mapIdx,hcell i (by omega)]
   simp only [Option.map_some];rw [if_pos (by simp; omega)]
   simp [hi]
  have hcs : (Go.Sort.putCells (Value.int .i64) g.base ys.toArray cells).size=cells.size:=by
   unfold Go.Sort.putCells;exact Array.size_mapIdx
  have hbig : w.heap.size<=(Go.Sort.grow (Go.Sort.putRow (Value.int .i64) (Go.Sort.ahead w n) b g.base ys.toArray) os).heap.size:=by
   show w.heap.size<=((w.heap.modify b _)++os).size;rw [Array.size_append,Array.size_modify];omega
  have htb' : T b<=g.base:=by simpa using htb
  generalize hw' : (Go.Sort.grow (Go.Sort.putRow (Value.int .i64) (Go.Sort.ahead w n) b g.base ys.toArray) os)=w' at hh hbig;have hlt : ∀ b' o,w.heap[b']? = some o->b'<w.heap.size:=λ b' o h=>(Array.getElem?_eq_some_iff.1 h).1
  have hpr : Pres T w T w':=by
   refine ⟨λ _=>Nat.le_refl _,λ b' cs' ty' fz' h=>?_⟩;rw [hh b' (hlt _ _ h)]
   by_cases hbb : b'=b
   .subst hbb
    rw [hw] at h
    cases h;exact ⟨_,_,if_pos rfl,hcs,λ o ho=>hput o (.inl (by omega))⟩
   .exact ⟨cs',fz',by rw [if_neg hbb]; exact h,rfl,λ _ _=>rfl⟩
  rw [ziT];refine ⟨_,T,M,rfl,.tup M [] #[] rfl (λ i hi=>by simp at hi),⟨λ id e he=>?_,λ id id' e e' g1 g2 b' h1 h2 h3 h4 h5 h6=>?_⟩,⟨λ b' hb1=>?_,λ _ _ _=>rfl,λ _ _=>rfl,?_,?_,?_,hbig,λ b' hb1 hb2=>?_,hpr,λ k g1 b' hk hg1 _=>?_⟩⟩
  .have hid : id=0:=by
    cases id with
    | zero=>rfl
    | succ k=>simp [hpOf] at he
   subst hid;simp only [hpOf,List.getElem?_cons_zero,Option.some.injEq] at he;subst he;refine ⟨g,hg,⟨ent.s,Nat.zero_le _,λ _ row hr=>?_,λ hn=>(by rw [hblk] at hn; cases hn),λ hz=>absurd hz (Nat.succ_ne_zero 0),λ _ b' hb1=>?_⟩⟩
   .simp [zgi] at hr
    obtain ⟨x,_,rfl⟩:=hr;rfl
   .rw [hblk] at hb1
    obtain rfl:=Option.some.inj hb1;refine ⟨_,ty,by rw [hh _ hb',if_pos rfl],by simpa using htb',by simp [zgi,hcs,hsl]; simpa [zgi] using hlen,λ i j hi hj=>?_⟩
    have hi' : i<ys.length:=by simpa [zgi] using hi
    have hj' : j=0:=by simp at hj; omega
    subst hj';refine ⟨.int .i64 ys[i],by simpa using hput2 i hi',rfl,?_⟩
    have : ((zgi ys).getD i []).getD 0 .dead = .I ys[i]:=by simp [zgi,List.getD,hi']
    rw [this];exact .sc _ _ rfl
  .have h0 : ∀ id e,hpOf [({ s:=1,rows:=zgi ys } : Ent)] id=some e->id=0:=by
    intro id e he
    cases id with
    | zero=>rfl
    | succ k=>simp [hpOf] at he
   rw [h0 _ _ h1,h0 _ _ h2]
  .obtain ⟨c1,ty1,fz1,h1,h2⟩:=htok b' hb1
   obtain ⟨c2,fz2,h3,h4,_⟩:=hpr.cell b' c1 ty1 fz1 h1;exact ⟨c2,ty1,fz2,h3,by omega⟩
  .rw [<- hw']; rfl
  .rw [<- hw']; rfl
  .rw [<- hw']; rfl
  .rw [hh b' hb1,if_neg]
   intro hbb;exact hb2 ⟨0,g,by simp,hg,by rw [hblk,hbb]⟩
  .rw [hdom k hk] at hg1
   cases hg1
theorem zkH.refl {n : Nat} {T : Nat->Nat} {M : GM} {w : World} (htok : TOk T w) (hdom : ∀ k,n<=k->M k=none) : zkH n T M w T M w :=
 ⟨htok,λ _ _ _=>rfl,λ _ _=>rfl,rfl,rfl,rfl,Nat.le_refl _,λ _ _ _=>rfl,⟨λ _=>Nat.le_refl _,λ _ cells _ fz h=>⟨cells,fz,h,rfl,λ _ _=>rfl⟩⟩,λ k g b hk h=>by rw [hdom k hk] at h; cases h⟩
theorem arr1 {vs : Array Value} (h : vs.size=1) : vs = #[vs.getD 0 undef]:=by
 apply Array.ext
 .simpa using h
 .intro i h1 h2
  have : i=0:=by simp at h2; omega
  subst this;simp [Array.getD,h1]
theorem zvL (zs : List Int) (hl : zs.length<4611686018427387904) :
  zaj Tryz.prog zaX [.rs 0 0 zs.length] [{ s:=1,rows:=zgi zs }] (.tup []) ([{ s:=1,rows:=zgi (zs.mergeSort λ x y=>decide (x<=y)) }].map some):=by
 by_cases h0 : zs=[]
 .subst h0
  refine ⟨zbU.body,by simp,λ T M w vs htok hhs hdom hrep=>?_⟩
  obtain ⟨hsz,hr⟩:=hrep;have hr0:=hr 0 (by simp)
  simp only [List.getD_cons_zero] at hr0;rw [arr1 hsz];generalize vs.getD 0 undef=v at hr0
  cases hr0 with
  | rs _ _ _ _ cap a g hg hgz hlc hn hb =>
  refine (Any.slices_Sort_int_none Tryz.lays189 a cap w).mono ?_
  rintro e w' ⟨rfl,rfl⟩
  exact ⟨_,T,M,rfl,.tup M [] #[] rfl (λ i hi=>by simp at hi),by rw [ziT]; simpa using hhs,zkH.refl htok hdom⟩
 .exact zwj zs h0 hl
def outs (l : List Ed) (key : Int) : List Int:=l.filterMap λ e=>if e.f=key then some e.t else none
theorem zqw (l : List Ed) (key : Int) (k : Nat) (h : k<l.length) : outs (l.take (k+1)) key=outs (l.take k) key++if l[k].f=key then [l[k].t] else []:=by
 unfold outs;rw [<- List.take_concat_get h,List.concat_eq_append,List.filterMap_append]
 congr 1
 by_cases hc : l[k].f=key <;> simp [hc]
theorem zrK (l : List Ed) (key : Int) : (outs l key).length<=l.length:=List.length_filterMap_le _ _
theorem zqY (g : Gr) (key : Int) (hl : g.edges.length<=1099511627776) : zaj Tryz.prog zeW [eG g,.I key] [] (.rs 0 0 (outs g.edges key).length) [some ⟨1,((outs g.edges key).mergeSort λ x y=>decide (x<=y)).map λ n=>[AV.I n],0⟩]:=by
 refine ziV.ac ?_;show awp _ 0 _ _ ⟨28,[(0,eG g),(1,.I key)],[],16⟩;refine zab ?_;refine zan ?_;refine zab ?_;refine zan ?_;refine zab ?_;refine zab ?_;refine zan ?_;refine zae ?_;refine zat (ι:=Nat) (λ k=>⟨28,[(1,.I key),(5,.rs 16 0 (outs (g.edges.take k) key).length),(9,eEs g.edges),(10,.I g.edges.length),(11,.I k)],[(16,some ⟨1,(outs (g.edges.take k) key).map λ n=>[AV.I n],0⟩)],24⟩) (λ k=>k<=g.edges.length) (λ k=>g.edges.length - k) (0) ?_ (Le.lst [] [] [(16,1)] rfl (by simp) (by simp) (by simp) (by simp) (by simp) (by simp) (by simp) (by simp [Up,outs]) (by simp [outs])) ?_
 .simp
 rintro k hk
 have hol : (outs (g.edges.take k) key).length<=k:=Nat.le_trans (zrK _ _) (by simp; exact Nat.min_le_left _ _)
 refine zab ?_;refine zan ?_;refine zab ?_;refine zac _ rfl (λ h4=>?_) λ h4=>?_
 .try simp at h4
  have hw2 : IntKind.i64.wrap ((k : Int)+1)=(k : Int)+1:=w6;have hwp : 0<k->IntKind.i64.wrap ((k : Int) - 1)=((k - 1 : Nat) : Int):=λ h=>by rw [w6]; omega
  have hkp : k - 1<g.edges.length:=by omega
  refine zad ?_;refine zab ?_;refine zae ?_;refine zaa ⟨28,[(1,.I key),(5,.rs 16 0 (outs (g.edges.take k) key).length),(7,.pv (eC g.edges[k])),(9,eEs g.edges),(10,.I g.edges.length),(11,.I k)],[(16,some ⟨1,(outs (g.edges.take k) key).map λ n=>[AV.I n],0⟩)],24⟩ rfl ?_ ?_
  .simp [h4,hw2,hwp,hkp]
   exact Le.var1 16 [48] rfl rfl (nbz rfl) (by decide) rfl (by simp [fcd]) (by simp) (by simp [h4,hw2,hwp,hkp])
  refine zab ?_;refine zap (s:=?s5) rfl ?o5 ?q5
  case o5=>simp [h4,hw2,hwp,hkp]; rfl
  refine zac _ rfl (λ h6=>?_) λ h6=>?_
  .try simp at h6
   refine zap (s:=?s7) rfl ?o7 ?q7
   case o7 =>
    simp [h4,hw2,hwp,hkp,List.replicate];refine ⟨by omega,by omega,?_⟩
    rfl
   refine zap (s:=?s8) rfl ?o8 ?q8
   case o8=>simp [h4,hw2,hwp,hkp]; rfl
   have hs:=zqw g.edges key k h4;rw [if_pos h6] at hs;refine ⟨k+1,h4,by omega,Le.ren1 88 16 [] rfl rfl (nbz rfl) (by decide) rfl (by simp [hs,fcd,zak]) (by simp) (by simp [hs,hw2])⟩
  try simp at h6
  refine zad ?_;refine zap (s:=?s9) rfl ?o9 ?q9
  case o9=>simp [h4,hw2,hwp,hkp]; rfl
  have hs:=zqw g.edges key k h4;rw [if_neg h6,List.append_nil] at hs;refine ⟨k+1,h4,by omega,Le.var1 16 [] rfl rfl (nbz rfl) (by decide) rfl (by simp [hs,fcd,zak]) (by simp) (by simp [hs,hw2])⟩
 try simp at h4
 have hkl : k=g.edges.length:=by omega
 subst hkl;have hol2:=zrK g.edges key;refine zar ?_;refine hit ?_;refine zab ?_;refine zap (s:=?s10) rfl ?o10 ?q10
 case o10 =>
  simp;refine zcO (i:=16) rfl (e':=⟨1,zgi (outs g.edges key),0⟩) (by simp [zgi,fcd]) (zvL (outs g.edges key) (by omega)) (by simp) (by simp) ?_
  simp [zgi,fcd];rfl
 refine zab ?_;refine zan ?_;refine zah ?_;exact ⟨.inr rfl,zao.out [16] [] rfl (by simp) (by simp) (by simp) (by simp [fcd])⟩
@[simp] theorem zBj {ρ : List (Nat × Nat)} {sn : List Nat} {h : Nat->Option Ent} {n : Nat} {f : Fn} {a b : List AV} : conv ρ sn h (n+1) (.fn f a b) = .fn f (a.map (conv ρ sn h n)) (b.map (conv ρ sn h n)):=(rfl)
end Go.Proofs.YtkngdgplbojdlaaGreat
