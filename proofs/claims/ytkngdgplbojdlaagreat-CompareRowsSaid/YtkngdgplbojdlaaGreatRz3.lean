/- Texts of this claim,merged. -/
import Derived.Test.YtkngdgplbojdlaaGreatRz2
import Derived.Test.YtkngdgplbojdlaaGreatRows
import Derived.Test.YtkngdgplbojdlaaGreatProg
import Derived.KernelRfl
import Derived.Shelf.Sort.Plain
import Derived.Shelf.Slices.In.SortNone
import Derived.Shelf.SlIterI.Collect
import Derived.RangeFuncLeaves
set_option linter.unusedSimpArgs false
set_option linter.unusedVariables false
set_option linter.unusedSectionVars false
set_option maxRecDepth 100000
set_option maxHeartbeats 8000000
noncomputable section
namespace Go.Proofs.YtkngdgplbojdlaaGreat
open Go
def zou (g : Gr) : Prop:=0<=g.size/\g.size<=64/\g.edges.length<=500/\Rise g.gone 0 (g.size - 1)
def EdAt (g : Gr) (i : Nat) : Prop:=∀ h : i<g.edges.length,Fits g g.edges[i]/\1<=g.edges[i].v/\g.edges[i].v<=3/\(0<i->cmpE g.edges[i - 1] g.edges[i]<0)
def GrOk (g : Gr) : Prop:=zou g /\ ∀ i,EdAt g i
open Classical in
theorem zi2 (g : Gr) (hl : g.edges.length<=140737488355328) (hl2 : g.gone.length<=140737488355328) : AcP 107 [eG g] [] (.I (if GrOk g then 0 else 14)) []:=by
 refine zlM.s.ac ?_;show awp _ 0 _ _ ⟨58,[(0,eG g)],[],16⟩;refine zaa ⟨58,[(1,.pv (gC g))],[],16⟩ rfl ?_ ?_
 .simp
  exact Le.snap [16] rfl rfl (by simp)
 refine zab (zaa ⟨58,[(1,.pv (gC g)),(23,.B (decide (¬ zou g)))],[],16⟩ rfl ?_ ?_)
 .simp
  repeat' first
   | (refine zc8 37 rfl ?_; refine zau (zaJ ..) rfl ?_; simp)
   | (refine zc8 108 rfl ?_; have hw : IntKind.i64.wrap (g.size - 1)=g.size - 1:=w6; rw [hw]; refine zau (zcR _ _ _ hl2) rfl ?_; simp)
   | (refine zcb (λ hb=>?_) (λ hb=>?_) <;> (try rw [hb]) <;> (try simp at hb) <;> simp [hb])
  all_goals exact Le.snap [] rfl rfl (by simp; exact wkB (by (try simp at *); grind [zou]))
 refine zac _ rfl (λ h1=>?_) λ h1=>?_
 .refine zab (zam ?_)
  refine zah ?_;simp at h1;exact ⟨.inr rfl,zao.one (by simp [GrOk,h1])⟩
 simp at h1;have hs:=h1.1;have hs2:=h1.2.1;refine zae (zab (zab (zam ?_)));refine zad (zaj (ι:=Nat) (λ k=>⟨58,[(1,.pv (gC g)),(25,eEs g.edges),(26,.I g.edges.length),(27,.I k)],[],16⟩) (λ k=>k<=g.edges.length /\ ∀ i,i<k->EdAt g i) (λ k=>g.edges.length - k) (0) ?_ (Le.snap [] rfl rfl (by simp)) ?_)
 .simp
 rintro k ⟨hk,hp⟩
 refine zab (zam ?_);refine zab (zac _ rfl (λ h5=>?_) λ h5=>?_)
 .simp at h5
  have hw2 : IntKind.i64.wrap ((k : Int)+1)=(k : Int)+1:=w6;have hwp : 0<k->IntKind.i64.wrap ((k : Int) - 1)=((k - 1 : Nat) : Int):=λ h=>by rw [w6]; omega
  have h5' : k - 1<g.edges.length:=by omega
  refine zae (zab (zad (zaa ⟨58,[(1,.pv (gC g)),(3,.I k),(4,.pv (eC g.edges[k])),(25,eEs g.edges),(26,.I g.edges.length),(27,.I k)],[],16⟩ rfl ?_ ?_)))
  .simp [h5]
   exact Le.snap [48] rfl rfl (by simp)
  refine zas ⟨58,[(1,.pv (gC g)),(25,eEs g.edges),(26,.I g.edges.length),(27,.I k),(56,.B (decide (¬ EdAt g k)))],[],16⟩ rfl ?_ ?_
  .simp
   repeat' first
    | (refine zc8 144 rfl ?_; refine zau (zk8 g _ hs hs2 hl2) rfl ?_; simp)
    | (refine zc8 37 rfl ?_; refine zau (zaJ ..) rfl ?_; simp)
    | (refine zc8 145 rfl ?_; refine zau (zhm ..) rfl ?_; simp)
    | (refine zcb (λ hb=>?_) (λ hb=>?_) <;> (try rw [hb]) <;> (try simp at hb) <;> simp [hb,h5,h5',hwp])
   all_goals exact ⟨rfl,Le.snap [] rfl rfl (by simp; exact wkB (by (try simp at *); grind [EdAt]))⟩
  refine zac _ rfl (λ h6=>?_) λ h6=>?_
  .refine zab (zam ?_)
   refine zah ?_;have hn : ¬ GrOk g:=λ h=>by simp at h6; exact h6 (h.2 k)
   exact ⟨.inr rfl,zao.one (by simp [hn])⟩
  simp at h6;refine zae (zam ?_);refine ⟨k+1,⟨h5,λ i hi=>?_⟩,?_,Le.snap [] rfl rfl (by simp [hw2])⟩
  .rcases QS.1 hi with h | rfl
   .exact hp i h
   .exact h6
  .omega
 simp at h5;have hy : GrOk g:=⟨h1,λ i hi=>hp i (by omega) hi⟩
 refine zai (hit (zab (zam ?_)));exact zah ⟨.inr rfl,zao.one (by simp [hy])⟩
def Bef (a b : Ed) : Prop:=a.f<b.f∨a.f=b.f/\a.t<b.t
instance (a b : Ed) : Decidable (Bef a b):=by unfold Bef; infer_instance
theorem zgK {a b : Ed} : cmpE a b<0↔Bef a b:=by
 simp only [cmpE,cmpI,Bef]
 grind
theorem zew (a b : Ed) : AcP 120 [eE a,eE b] [] (.B (decide (Bef a b))) []:=by
 refine zkr.s.ac ?_;show awp _ 0 _ _ ⟨24,[(0,eE a),(1,eE b)],[],16⟩;refine zaa ⟨24,[(2,.pv (eC a)),(3,.pv (eC b))],[],16⟩ rfl ?_ ?_
 .simp
  exact Le.snap [16,24] rfl rfl (by simp)
 refine zaa ⟨24,[(4,.B (decide (Bef a b)))],[],16⟩ rfl ?_ ?_
 .simp
  repeat' first
   | (refine zcb (λ hb=>?_) (λ hb=>?_) <;> (try rw [hb]) <;> (try simp at hb) <;> simp [hb])
  all_goals exact Le.snap [] rfl rfl (by simp; exact wkB (by (try simp at *); grind [Bef]))
 exact zaI
open Classical in
theorem zei (l : List Int) (n : Int) (hl : l.length<=140737488355328) : AcP 119 [ints l,.I n] [] (.B (decide (Rise l 0 (n - 1)))) []:=by
 refine zpM.s.ac ?_;show awp _ 0 _ _ ⟨41,[(0,ints l),(1,.I n)],[],16⟩;refine zab (zam ?_);refine zab (zab (zam ?_));refine zad (zaj (ι:=Nat) (λ k=>⟨41,[(0,ints l),(1,.I n),(5,.I k)],[],16⟩) (λ k=>k<=l.length /\ ∀ i,i<k->zj8 l 0 (n - 1) i) (λ k=>l.length - k) (0) ?_ (Le.snap [] rfl rfl (by simp)) ?_)
 .simp
 rintro k ⟨hk,hp⟩
 refine zab (zab (zam ?_));refine zac _ rfl (λ h4=>?_) λ h4=>?_
 .try simp at h4
  have hw2 : IntKind.i64.wrap ((k : Int)+1)=(k : Int)+1:=w6;have hwp : 0<k->IntKind.i64.wrap ((k : Int) - 1)=((k - 1 : Nat) : Int):=λ h=>by rw [w6]; omega
  have hkp : k - 1<l.length:=by omega
  refine zae (zab (zad (zas ⟨41,[(0,ints l),(1,.I n),(5,.I k),(40,.B (decide (¬ zj8 l 0 (n - 1) k)))],[],16⟩ rfl ?_ ?_)))
  .simp [h4,hw2,hwp,hkp]
   repeat' first
    | (refine zcb (λ hb=>?_) (λ hb=>?_) <;> (try rw [hb]) <;> (try simp at hb) <;> simp [hb,h4,hw2,hwp,hkp])
   all_goals exact ⟨rfl,Le.snap [] rfl rfl (by simp; exact wkB (by (try simp at *); grind [zj8]))⟩
  refine zac _ rfl (λ h5=>?_) λ h5=>?_
  .try simp at h5
   refine zab (zal (s:=?s6) rfl ?o6 ?q6)
   case o6=>simp [h4,hw2,hwp,hkp]; rfl
   refine zah ?_;have hn : ¬ Rise l 0 (n - 1):=λ h=>h5 (h k);exact ⟨.inr rfl,zao.one (by simp [hn])⟩
  try simp at h5
  refine zae (zal (s:=?s7) rfl ?o7 ?q7)
  case o7=>simp [h4,hw2,hwp,hkp]; rfl
  refine ⟨k+1,⟨h4,λ i hi=>?_⟩,by omega,Le.snap [] rfl rfl (by simp [h4,hw2,hwp,hkp])⟩
  rcases QS.1 hi with h | rfl
  .exact hp i h
  .exact h5
 try simp at h4
 have hall : ∀ i,i<l.length->zj8 l 0 (n - 1) i:=λ i hi=>hp i (by omega)
 refine zai (hit (zab (zam ?_)));refine zah ?_;have hy : Rise l 0 (n - 1):=λ i hi=>hall i hi hi;exact ⟨.inr rfl,zao.one (by simp [hy])⟩
def EdA (g : Gr) (e : Ed) : Prop:=0<=e.f/\e.f<g.size/\0<=e.t/\e.t<g.size/\e.f≠e.t/\1<=e.v/\e.v<=3
instance (g : Gr) (e : Ed) : Decidable (EdA g e):=by unfold EdA; infer_instance
def EdB (g : Gr) (k : Nat) : Prop:=∀ h : k<g.edges.length,(0<k->Bef g.edges[k - 1] g.edges[k])/\g.edges[k].f∉g.gone/\g.edges[k].t∉g.gone
theorem zkA (g : Gr) (k : Nat) (h : k<g.edges.length) : EdAt g k↔EdA g g.edges[k]/\EdB g k:=by
 simp only [EdAt,EdA,EdB,Fits,zgK]
 grind
open Classical in
theorem zeW (g : Gr) (hl : g.edges.length<=140737488355328) (hl2 : g.gone.length<=140737488355328) : AcP 68 [eG g] [] (.I (if GrOk g then 0 else 14)) []:=by
 refine zmp.s.ac ?_;show awp _ 0 _ _ ⟨105,[(0,eG g)],[],16⟩;refine zaa ⟨105,[(1,.pv (gC g))],[],16⟩ rfl ?_ ?_
 .simp
  exact Le.snap [16] rfl rfl (by simp)
 refine zab (zaa ⟨105,[(1,.pv (gC g)),(26,.B (decide (¬ zou g)))],[],16⟩ rfl ?_ ?_)
 .simp
  repeat' first
   | (refine zc8 119 rfl ?_; refine zau (zei _ _ hl2) rfl ?_; simp)
   | (refine zcb (λ hb=>?_) (λ hb=>?_) <;> (try rw [hb]) <;> (try simp at hb) <;> simp [hb])
  all_goals exact Le.snap [] rfl rfl (by simp; exact wkB (by (try simp at *); grind [zou,EdA,EdB]))
 refine zac _ rfl (λ h1=>?_) λ h1=>?_
 .try simp at h1
  refine zab (zam ?_);exact zah ⟨.inr rfl,zao.one (by simp [GrOk,h1])⟩
 try simp at h1
 refine zae (zab (zab (zam ?_)));refine zad (zaj (ι:=Nat) (λ k=>⟨105,[(1,.pv (gC g)),(3,.I k)],[],16⟩) (λ k=>k<=g.edges.length /\ ∀ i,i<k->EdAt g i) (λ k=>g.edges.length - k) (0) ?_ (Le.snap [] rfl rfl (by simp)) ?_)
 .simp
 rintro k ⟨hk,hp⟩
 refine zab (zab (zam ?_));refine zac _ rfl (λ h5=>?_) λ h5=>?_
 .try simp at h5
  have hw2 : IntKind.i64.wrap ((k : Int)+1)=(k : Int)+1:=w6;have hwp : 0<k->IntKind.i64.wrap ((k : Int) - 1)=((k - 1 : Nat) : Int):=λ h=>by rw [w6]; omega
  have hkp : k - 1<g.edges.length:=by omega
  refine zae (zab (zad (zaa ⟨105,[(1,.pv (gC g)),(3,.I k),(4,.pv (eC g.edges[k]))],[],16⟩ rfl ?_ ?_)))
  .simp [h5,hw2,hwp,hkp]
   exact Le.snap [96] rfl rfl (by simp [h5,hw2,hwp,hkp])
  refine zab (zaa ⟨105,[(1,.pv (gC g)),(3,.I k),(4,.pv (eC g.edges[k])),(77,.B (decide (¬ EdA g g.edges[k])))],[],16⟩ rfl ?_ ?_)
  .simp [h5,hw2,hwp,hkp]
   repeat' first
    | (refine zcb (λ hb=>?_) (λ hb=>?_) <;> (try rw [hb]) <;> (try simp at hb) <;> simp [hb,h5,hw2,hwp,hkp])
   all_goals exact Le.snap [] rfl rfl (by simp; exact wkB (by (try simp at *); grind [zou,EdA,EdB]))
  refine zac _ rfl (λ h6=>?_) λ h6=>?_
  .try simp at h6
   refine zab (zal (s:=?s7) rfl ?o7 ?q7)
   case o7=>simp [h5,hw2,hwp,hkp]; rfl
   refine zah ?_;have hn : ¬ GrOk g:=λ h=>by have h2:=(zkA g k h5).1 (h.2 k); simp_all
   exact ⟨.inr rfl,zao.one (by simp [hn])⟩
  try simp at h6
  refine zae (zas ⟨105,[(1,.pv (gC g)),(3,.I k),(104,.B (decide (¬ EdB g k)))],[],16⟩ rfl ?_ ?_)
  .simp [h5,hw2,hwp,hkp]
   repeat' first
    | (refine zc8 120 rfl ?_; refine zau (zew ..) rfl ?_; simp [h5,hw2,hwp,hkp])
    | (refine zc8 26 rfl ?_; refine zau (zmf _ _ hl2) rfl ?_; simp [h5,hw2,hwp,hkp])
    | (refine zcb (λ hb=>?_) (λ hb=>?_) <;> (try rw [hb]) <;> (try simp at hb) <;> simp [hb,h5,hw2,hwp,hkp])
   all_goals exact ⟨rfl,Le.snap [] rfl rfl (by simp; exact wkB (by (try simp at *); grind [zou,EdA,EdB]))⟩
  refine zac _ rfl (λ h8=>?_) λ h8=>?_
  .try simp at h8
   refine zab (zal (s:=?s9) rfl ?o9 ?q9)
   case o9=>simp [h5,hw2,hwp,hkp]; rfl
   refine zah ?_;have hn : ¬ GrOk g:=λ h=>by have h2:=(zkA g k h5).1 (h.2 k); simp_all
   exact ⟨.inr rfl,zao.one (by simp [hn])⟩
  try simp at h8
  refine zae (zal (s:=?s10) rfl ?o10 ?q10)
  case o10=>simp [h5,hw2,hwp,hkp]; rfl
  refine ⟨k+1,⟨h5,λ i hi=>?_⟩,by omega,Le.snap [] rfl rfl (by simp [h5,hw2,hwp,hkp])⟩
  rcases QS.1 hi with h | rfl
  .exact hp i h
  .exact (zkA g i h5).2 ⟨h6,h8⟩
 try simp at h5
 have hall : ∀ i,i<g.edges.length->EdAt g i:=λ i hi=>hp i (by omega)
 refine zai (hit (zab (zam ?_)));refine zah ?_;have hy : GrOk g:=⟨h1,λ i hi=>hall i hi hi⟩;exact ⟨.inr rfl,zao.one (by simp [hy])⟩
theorem zmZ (l : List Int) (hl : l.length*8<=140737488355328) : AcP 127 [ints l] [] (.rs 0 0 l.length) [some ⟨1,l.map λ n=>[AV.I n],0⟩]:=by
 cases l with
 | nil =>
   refine zl6 λ ad c=>?_;refine zcg.s.ac ?_;show awp _ 0 _ _ ⟨8,[(0,.sc (.slice ad 0 c))],[],16⟩;refine zab (zam ?_);refine zap (ι:=Unit) (λ _=>⟨8,[(0,.vs 1 false [])],[],40⟩) (λ _=>True) ?_ λ _ _=>?_
   .refine zab (zam ?_)
    refine zac _ rfl (λ h3=>?_) λ h3=>?_
    .refine zaa ⟨8,[(2,.rs 40 0 0)],[(40,some ⟨1,[],0⟩)],48⟩ rfl ?_ ?_
     .simp
      exact Le.lst [] [] [(40,1)] rfl (by simp) (by simp) (by simp) (by simp) (by simp) (by simp) (by simp) (by simp [Up]) (by simp)
     exact zah ⟨.inr rfl,zao.out [40] [] rfl (by simp) (by simp) (by simp) (by simp)⟩
    exact zae ⟨(),trivial,Le.slots rfl rfl (by simp; exact .mt _ _ _)⟩
   refine zab (zal (s:=?s5) rfl ?o5 ?q5)
   case o5=>simp [List.replicate]; rfl
   exact zah ⟨.inr rfl,zao.out [56] [] rfl (by simp) (by simp) (by simp) (by simp)⟩
 | cons x l =>
   refine zcg.s.ac ?_;show awp _ 0 _ _ ⟨8,[(0,ints (x::l))],[],16⟩;refine zab (zam ?_);refine zab (zab (zam ?_));refine zac _ rfl (λ h3=>by cases h3) λ h3=>?_
   refine zae (zab (zal (s:=?t4) rfl ?p4 ?r4))
   case p4=>simp [List.replicate]; refine ⟨by simpa using hl,by simp at hl; omega,?_⟩; rfl
   exact zah ⟨.inr rfl,zao.out [56] [] rfl (by simp) (by simp) (by simp) (by simp [fcd])⟩
theorem zsN (l : List Ed) (hl : l.length*24<=140737488355328) : AcP 126 [eEs l] [] (.rs 0 0 l.length) [some ⟨3,l.map λ e=>[AV.I e.f,AV.I e.t,AV.I e.v],0⟩]:=by
 cases l with
 | nil =>
   refine zl6 λ ad c=>?_;refine zbd.s.ac ?_;show awp _ 0 _ _ ⟨8,[(0,.sc (.slice ad 0 c))],[],16⟩;refine zab (zam ?_);refine zap (ι:=Unit) (λ _=>⟨8,[(0,.vs 3 false [])],[],40⟩) (λ _=>True) ?_ λ _ _=>?_
   .refine zab (zam ?_)
    refine zac _ rfl (λ h3=>?_) λ h3=>?_
    .refine zaa ⟨8,[(2,.rs 40 0 0)],[(40,some ⟨3,[],0⟩)],48⟩ rfl ?_ ?_
     .simp
      exact Le.lst [] [] [(40,3)] rfl (by simp) (by simp) (by simp) (by simp) (by simp) (by simp) (by simp) (by simp [Up]) (by simp)
     exact zah ⟨.inr rfl,zao.out [40] [] rfl (by simp) (by simp) (by simp) (by simp)⟩
    exact zae ⟨(),trivial,Le.slots rfl rfl (by simp; exact .mt _ _ _)⟩
   refine zab (zal (s:=?s5) rfl ?o5 ?q5)
   case o5=>simp [List.replicate]; rfl
   exact zah ⟨.inr rfl,zao.out [56] [] rfl (by simp) (by simp) (by simp) (by simp)⟩
 | cons x l =>
   refine zbd.s.ac ?_;show awp _ 0 _ _ ⟨8,[(0,eEs (x::l))],[],16⟩;refine zab (zam ?_);refine zab (zab (zam ?_));refine zac _ rfl (λ h3=>by cases h3) λ h3=>?_
   refine zae (zab (zal (s:=?t4) rfl ?p4 ?r4))
   case p4=>simp [List.replicate]; refine ⟨by simpa using hl,by simp at hl; omega,?_⟩; rfl
   exact zah ⟨.inr rfl,zao.out [56] [] rfl (by simp) (by simp) (by simp) (by simp [fcd])⟩
def idxE (l : List Ed) (e : Ed) : Nat:=l.findIdx λ x=>!decide (Bef x e)
def AtE (l : List Ed) (k : Nat) (f t : Int) : Prop:=∃ h : k<l.length,l[k].f=f/\l[k].t=t
instance (l : List Ed) (k : Nat) (f t : Int) : Decidable (AtE l k f t):=by unfold AtE; infer_instance
def zxt (l : List Ed) (e : Ed) (k : Nat) : Prop:=∀ h : k<l.length,Bef l[k] e
theorem zqV (l : List Ed) (e : Ed) : idxE l e<=l.length:=U8
theorem zvv {l : List Ed} {e : Ed} {k : Nat} (hk : k<=l.length) (h1 : ∀ i,i<k->zxt l e i) (h2 : ∀ h : k<l.length,¬ Bef l[k] e) : idxE l e=k:=by
 unfold idxE;rcases Ug k l.length with h | h
 .rw [List.findIdx_eq h]
  refine ⟨by simpa using h2 h,λ j hj=>?_⟩
  simpa using h1 j hj (by omega)
 .obtain rfl : k=l.length:=by omega
  rw [UZ];intro x hx;obtain ⟨i,hi,rfl⟩:=QF.1 hx
  simpa using h1 i hi hi
theorem zjf (g : Gr) (f t : Int) (hl : g.edges.length<=140737488355328) : AcP 69 [eG g,.I f,.I t] [] (.tup [.I (idxE g.edges ⟨f,t,0⟩),.B (decide (AtE g.edges (idxE g.edges ⟨f,t,0⟩) f t))]) []:=by
 refine zl5.s.ac ?_;show awp _ 0 _ _ ⟨53,[(0,eG g),(1,.I f),(2,.I t)],[],16⟩;refine zaa ⟨53,[(1,.I f),(2,.I t),(3,.pv (gC g))],[],16⟩ rfl ?_ ?_
 .simp
  exact Le.snap [16] rfl rfl (by simp)
 refine zab (zam ?_);refine zab (zad (zaj (ι:=Nat) (λ k=>⟨53,[(1,.I f),(2,.I t),(3,.pv (gC g)),(8,.I k)],[],16⟩) (λ k=>k<=g.edges.length /\ ∀ i,i<k->zxt g.edges ⟨f,t,0⟩ i) (λ k=>g.edges.length - k) (0) ?_ (Le.snap [] rfl rfl (by simp)) ?_))
 .simp
 rintro k ⟨hk,hp⟩
 refine zab (zaa ⟨53,[(1,.I f),(2,.I t),(3,.pv (gC g)),(8,.I k),(24,.B (decide (∃ h : k<g.edges.length,Bef g.edges[k] ⟨f,t,0⟩)))],[],16⟩ rfl ?_ ?_)
 .simp
  repeat' first
   | (refine zc8 120 rfl ?_; refine zau (zew _ ⟨f,t,0⟩) rfl ?_; simp)
   | (refine zcb (λ hb=>?_) (λ hb=>?_) <;> (try rw [hb]) <;> (try simp at hb) <;> simp [*])
  all_goals exact Le.snap [] rfl rfl (by simp <;> exact wkB (by (try simp at *); grind))
 refine zac _ rfl (λ h2=>?_) λ h2=>?_
 .try simp at h2
  obtain ⟨h2,h2b⟩:=h2;have hw2 : IntKind.i64.wrap ((k : Int)+1)=(k : Int)+1:=w6;have hwp : 0<k->IntKind.i64.wrap ((k : Int) - 1)=((k - 1 : Nat) : Int):=λ h=>by rw [w6]; omega
  have hkp : k - 1<g.edges.length:=by omega
  refine zae (zad (zal (s:=?s3) rfl ?o3 ?q3))
  case o3=>simp [h2,hw2,hwp,hkp]; rfl
  refine ⟨k+1,⟨h2,λ i hi=>?_⟩,by omega,Le.snap [] rfl rfl (by simp [h2,hw2,hwp,hkp])⟩
  rcases QS.1 hi with h | rfl
  .exact hp i h
  .exact λ _=>h2b
 try simp at h2
 rw [zvv hk hp h2];refine zai (hit (zas ⟨53,[(6,.I k),(7,.B (decide (AtE g.edges k f t)))],[],16⟩ rfl ?_ ?_))
 .simp
  repeat' first
   | (refine zcb (λ hb=>?_) (λ hb=>?_) <;> (try rw [hb]) <;> (try simp at hb) <;> simp [*])
  all_goals exact ⟨rfl,Le.snap [] rfl rfl (by simp <;> exact wkB (by (try simp at *); grind [AtE]))⟩
 exact zah ⟨.inr rfl,zao.out [] [] rfl (by simp) (by simp) (by simp) (by simp)⟩
theorem zfB (g : Gr) (hl : g.edges.length*24<=140737488355328) (hl2 : g.gone.length*8<=140737488355328) : AcP 59 [eG g] [] (.agg [.I g.size,.rs 0 0 g.edges.length,.rs 1 0 g.gone.length]) [some ⟨3,g.edges.map λ e=>[AV.I e.f,AV.I e.t,AV.I e.v],0⟩,some ⟨1,g.gone.map λ n=>[AV.I n],0⟩]:=by
 refine zoc.s.ac ?_;show awp _ 0 _ _ ⟨12,[(0,eG g)],[],16⟩;have hl3 : g.edges.length<=140737488355328:=by omega
 have hl4 : g.gone.length<=140737488355328:=by omega
 refine zab (zam ?_);refine zab (zdU (s:=?s1) (tr:=?t1) rfl ?o1 ?r1 ?q1)
 case o1=>simp [hl,hl2,hl3,hl4]; constructor <;> rfl
 case r1=>rfl
 refine zah ⟨.inr rfl,?_⟩;show zao [(2,some (true,3))] 0 _ _ _;exact zao.out (vs:=[.agg [.I g.size,.rs 64 0 g.edges.length,.rs 88 0 g.gone.length]]) [64,88] [] (by simp) (by simp) (by simp) (by simp) (by simp [fcd])
theorem zen (g : Gr) (hl : g.edges.length*24<=140737488355328) (hl2 : g.gone.length*8<=140737488355328) : AcP 75 [eG g] [] (.agg [.I g.size,.rs 0 0 g.edges.length,.rs 1 0 g.gone.length]) [some ⟨3,g.edges.map λ e=>[AV.I e.f,AV.I e.t,AV.I e.v],0⟩,some ⟨1,g.gone.map λ n=>[AV.I n],0⟩]:=by
 refine zkP.s.ac ?_;show awp _ 0 _ _ ⟨12,[(0,eG g)],[],16⟩;have hl3 : g.edges.length<=140737488355328:=by omega
 have hl4 : g.gone.length<=140737488355328:=by omega
 refine zab (zam ?_);refine zab (zdU (s:=?s1) (tr:=?t1) rfl ?o1 ?r1 ?q1)
 case o1=>simp; refine zdg (zsN _ hl) rfl ?_; simp; refine zdg (zmZ _ hl2) rfl ?_; simp [fcd]; constructor <;> rfl
 case r1=>rfl
 refine zah ⟨.inr rfl,?_⟩;show zao [(2,some (true,3))] 0 _ _ _;exact zao.out (vs:=[.agg [.I g.size,.rs 64 0 g.edges.length,.rs 88 0 g.gone.length]]) [64,88] [] (by simp) (by simp) (by simp) (by simp) (by simp [fcd])
def EqG (a b : Gr) : Prop:=a.size=b.size/\a.edges=b.edges/\a.gone=b.gone
instance (a b : Gr) : Decidable (EqG a b):=by unfold EqG; infer_instance
theorem zrL {P : Program} {f : FuncId} {xs ys : List AV} {hs : List Ent} {res : AV} {hs' : List (Option Ent)} (hl : xs.length=ys.length) (hw : ∀ i,i<ys.length->Wk (xs.getD i .dead) (ys.getD i .dead)) (h : zaU P f ys hs res hs') : zaU P f xs hs res hs' :=
 ⟨h.1,h.2.1,λ T M w vs h1 h2 h3 hr=>h.2.2 T M w vs h1 h2 h3 ⟨hr.1.trans hl,λ i hi=>(hw i hi).rep (hr.2 i (hl ▸ hi))⟩⟩
section
variable {H : Type}
def Fit (x : Int) : Prop:=-9223372036854775808<=x/\x<=9223372036854775807
variable {P : Program} {tI tE tEs tIs tG : TypeId}
theorem zw3 {n : Nat} (hI : P.underlying tI=some (.int .i64)) {d : DataW H} {cs : List AV} (h : avs P (n+1) tI d=some cs) : ∃ x,cs=[.I x]/\Fit x:=by
 cases d <;> simp [avs,hI] at h
 rename_i l
 cases l <;> simp at h
 obtain ⟨⟨rfl,hw⟩,rfl⟩:=h;refine ⟨_,rfl,?_⟩;unfold Fit
 simpa [Lit.wf,IntKind.min,IntKind.max,IntKind.signed,IntKind.bits] using hw
theorem zrn {α : Type} {f : DataW H->Option (List AV)} (Q : α->List AV) : ∀ {ds : List (DataW H)} {rows : List (List AV)},(∀ d row,f d=some row -> ∃ a,row=Q a)->ds.mapM f=some rows -> ∃ l : List α,rows=l.map Q
 | [],rows,_,h=>by simp at h; subst h; exact ⟨[],rfl⟩
 | d::ds,rows,hf,h=>by
   simp only [List.mapM_cons] at h
   cases h1 : f d with
   | none=>simp [h1] at h
   | some row =>
     cases h2 : ds.mapM f with
     | none=>simp [h1,h2] at h
     | some rows' =>
       simp [h1,h2] at h;subst h;obtain ⟨a,rfl⟩:=hf d row h1;obtain ⟨l,rfl⟩:=zrn Q hf h2;exact ⟨a::l,rfl⟩
theorem zuC {α : Type} {n : Nat} {t e : TypeId} (ht : P.underlying t=some (.slice e)) (Q : α->List AV) (hf : ∀ (d : DataW H) row,avs P n e d=some row -> ∃ a,row=Q a) {d : DataW H} {cs : List AV} (h : avs P (n+1) t d=some cs) :
  ∃ (l : List α) (x : AV),cs=[x]/\Wk x (.vs (P.cellsOf e) false (l.map Q)):=by
 cases d <;> simp [avs,ht] at h
 .subst h; exact ⟨[],_,rfl,.nil _ _⟩
 .obtain ⟨_,rows,h,rfl⟩:=h
  obtain ⟨l,rfl⟩:=zrn Q hf h;exact ⟨l,_,rfl,.refl _⟩
end
theorem ownK : ownKnob Tryz.prog.godebug=none:=by kernel_rfl
theorem zyk : laidOutB Tryz.prog=true:=by kernel_rfl
section
variable {H : Type} {P : Program} {tI tIs : TypeId}
theorem zpW {n : Nat} (hI : P.underlying tI=some (.int .i64)) (hIs : P.underlying tIs=some (.slice tI)) (cI : P.cellsOf tI=1) {d : DataW H} {x : AV} (h : zjc P (n+2) tIs d=some x) : ∃ l : List Int,Wk x (ints l):=by
 simp only [zjc,hIs,Uo] at h;obtain ⟨cs,h1,h2⟩:=h;obtain ⟨l,y,rfl,hw⟩:=zuC hIs (λ x : Int=>[AV.I x]) (λ d row h=>by obtain ⟨x,h,_⟩:=zw3 hI h; exact ⟨x,h⟩) h1
 rw [cI] at hw;simp at h2;subst h2;exact ⟨l,hw⟩
theorem zyg {n : Nat} {a : TypeId} {ds : List (DataW H)} {xs : List AV} (h : zie P n [a] ds=some xs) : ∃ (d1 : DataW H) (x1 : AV),ds=[d1]/\xs=[x1]/\zjc P n a d1=some x1:=by
 match ds,h with
 | [],h=>cases h
 | _::_::_,h=>simp only [zie] at h; split at h <;> simp_all
 | [d1],h =>
   simp only [zie] at h
   cases h1 : zjc P n a d1 with
   | none=>simp [h1] at h
   | some x1 =>
     simp [h1] at h;exact ⟨d1,x1,rfl,h.symm,h1⟩
end
def zfz : SC 6:=mkC Tryz.f6
def zmU : SC 9:=mkC Tryz.f9
def zgR : SC 12:=mkC Tryz.f12
def zje : SC 14:=mkC Tryz.f14
def zk9 : SC 19:=mkC Tryz.f19
def zlc : SC 21:=mkC Tryz.f21
def zpS : SC 25:=mkC Tryz.f25
def zqe : SC 28:=mkC Tryz.f28
def znL : SC 32:=mkC Tryz.f32
def zop : SC 36:=mkC Tryz.f36
def ze3 : SC 40:=mkC Tryz.f40
def zgE : SC 42:=mkC Tryz.f42
def zhX : SC 43:=mkC Tryz.f43
def zh2 : SC 45:=mkC Tryz.f45
def zn5 : SC 46:=mkC Tryz.f46
def zmt : SC 47:=mkC Tryz.f47
def ziH : SC 50:=mkC Tryz.f50
def zhp : SC 52:=mkC Tryz.f52
def zks : SC 53:=mkC Tryz.f53
def zhc : SC 54:=mkC Tryz.f54
def zbT : SC 55:=mkC Tryz.f55
def zhd : SC 60:=mkC Tryz.f60
def zhg : SC 61:=mkC Tryz.f61
def zkH : SC 62:=mkC Tryz.f62
def zjb : SC 63:=mkC Tryz.f63
def zpH : SC 65:=mkC Tryz.f65
def zlz : SC 66:=mkC Tryz.f66
def zsM : SC 67:=mkC Tryz.f67
def zln : SC 70:=mkC Tryz.f70
def zmT : SC 71:=mkC Tryz.f71
def zib : SC 72:=mkC Tryz.f72
def zkF : SC 73:=mkC Tryz.f73
def zkG : SC 74:=mkC Tryz.f74
def zgj : SC 84:=mkC Tryz.f84
def zej : SC 85:=mkC Tryz.f85
def zd9 : SC 86:=mkC Tryz.f86
def zfU : SC 87:=mkC Tryz.f87
def zjl : SC 91:=mkC Tryz.f91
def zkR : SC 92:=mkC Tryz.f92
def zfZ : SC 93:=mkC Tryz.f93
def zf5 : SC 95:=mkC Tryz.f95
def zmz : SC 96:=mkC Tryz.f96
def zji : SC 97:=mkC Tryz.f97
def zqS : SC 98:=mkC Tryz.f98
def zon : SC 99:=mkC Tryz.f99
def zk6 : SC 100:=mkC Tryz.f100
def zbw : SC 110:=mkC Tryz.f110
def zhi : SC 111:=mkC Tryz.f111
def zjd : SC 115:=mkC Tryz.f115
def zh4 : SC 116:=mkC Tryz.f116
def znd : SC 117:=mkC Tryz.f117
def zmo : SC 118:=mkC Tryz.f118
def zi9 : SC 121:=mkC Tryz.f121
def zke : SC 122:=mkC Tryz.f122
def zqa : SC 123:=mkC Tryz.f123
def zee : SC 124:=mkC Tryz.f124
def zhq : SC 125:=mkC Tryz.f125
def zgL : SC 132:=mkC Tryz.f132
def zfa : SC 133:=mkC Tryz.f133
def zeT : SC 135:=mkC Tryz.f135
def zfn : SC 136:=mkC Tryz.f136
def zmW : SC 137:=mkC Tryz.f137
def znC : SC 138:=mkC Tryz.f138
def zp4 : SC 139:=mkC Tryz.f139
def zot : SC 140:=mkC Tryz.f140
def zls : SC 141:=mkC Tryz.f141
def zl1 : SC 156:=mkC Tryz.f156
def zoj : SC 157:=mkC Tryz.f157
def zlF : SC 158:=mkC Tryz.f158
def zgC : SC 159:=mkC Tryz.f159
def zku : SC 160:=mkC Tryz.f160
def znP : SC 161:=mkC Tryz.f161
def zfw : SC 162:=mkC Tryz.f162
def zdX : SC 163:=mkC Tryz.f163
def zfj : SC 164:=mkC Tryz.f164
def zhf : SC 168:=mkC Tryz.f168
def zeS : SC 171:=mkC Tryz.f171
def zdP : SC 173:=mkC Tryz.f173
def zju : SC 175:=mkC Tryz.f175
def zbG : SC 176:=mkC Tryz.f176
def ze9 : SC 177:=mkC Tryz.f177
def zja : SC 178:=mkC Tryz.f178
def zmm : SC 185:=mkC Tryz.f185
def ze2 : SC 186:=mkC Tryz.f186
def zdh : SC 197:=mkC Tryz.f197
def zlg : SC 199:=mkC Tryz.f199
def zcu : SC 200:=mkC Tryz.f200
def zb4 : SC 201:=mkC Tryz.f201
def zoi : SC 209:=mkC Tryz.f209
def zml : SC 210:=mkC Tryz.f210
def zqf : SC 211:=mkC Tryz.f211
def zbh : SC 212:=mkC Tryz.f212
def zg9 : SC 213:=mkC Tryz.f213
def zfh : SC 214:=mkC Tryz.f214
def zjo : SC 219:=mkC Tryz.f219
def zfl : SC 220:=mkC Tryz.f220
def zmJ : SC 221:=mkC Tryz.f221
def zbU : SC 222:=mkC Tryz.f222
def zbS : SC 223:=mkC Tryz.f223
def zgp : SC 224:=mkC Tryz.f224
def zec : SC 227:=mkC Tryz.f227
def zdW : SC 228:=mkC Tryz.f228
def zbr : SC 229:=mkC Tryz.f229
end Go.Proofs.YtkngdgplbojdlaaGreat
namespace Go.Proofs.YtkngdgplbojdlaaGreat
open Go
theorem zaq {α β : Type} (f : α->β) (l : List α) : List.take l.length (List.map f l)=List.map f l:=Qb (by simp)
def zbJ : Gr:=⟨0,[],[]⟩
def zni (g : Gr) (e : Ed) : Gr:=⟨g.size,g.edges.take (idxE g.edges ⟨e.f,e.t,0⟩)++e::g.edges.drop (idxE g.edges ⟨e.f,e.t,0⟩),g.gone⟩
open Classical in
def zc6 (g : Gr) (e : Ed) : Gr × Int :=
 if ¬ GrOk g then (zbJ,14) else if ¬ Fits g e then (zbJ,4) else if ¬ (1<=e.v/\e.v<=3) then (zbJ,2)
 else if AtE g.edges (idxE g.edges ⟨e.f,e.t,0⟩) e.f e.t then (zbJ,19) else if g.edges.length=500 then (zbJ,3) else (zni g e,0)
open Classical in
theorem zkO (g : Gr) (e : Ed) (hl : g.edges.length*24<=140737488355328) (hl2 : g.gone.length*8<=140737488355328) : AcP 34 [eG g,eE e] [] (.tup [eG (zc6 g e).1,.I (zc6 g e).2]) []:=by
 refine znQ.s.ac ?_;show awp _ 0 _ _ ⟨103,[(0,eG g),(1,eE e)],[],16⟩;refine zaa ⟨103,[(2,.pv (gC g)),(3,.pv (eC e)),(4,.pt 32 0 0)],[(32,some ⟨3,[[.I 0,.nilS,.nilS]],0⟩)],40⟩ rfl ?_ ?_
 .simp
  exact Le.var1 32 [16,24] rfl rfl (nbz rfl) (by decide) rfl (by simp) (by simp) (by simp)
 refine zab (zab (zal (s:=?s1) rfl ?o1 ?q1))
 case o1=>simp; refine zau (zeW g (by omega) (by omega)) rfl ?_; simp; rfl
 refine zac _ rfl (λ h2=>?_) λ h2=>?_
 .have hg : ¬ GrOk g:=by
   intro hg;simp [hg] at h2
  refine zab (zam ?_);refine zah ⟨.inr rfl,?_⟩;show zao [(4,some (true,3)),(5,none)] 0 _ _ _;refine zao.out (vs:=[.agg [.I 0,.nilS,.nilS],.I 14]) [] [] (by simp) (by simp) (by simp) ?_ (by simp)
  have hr : zc6 g e=(zbJ,14):=by grind [zc6]
  simp [hr,zbJ];exact wkT2 (wkA3 (.refl _) (.nil _ _) (.nil _ _)) (.refl _)
 have hg : GrOk g:=by
  rcases Classical.em (GrOk g) with h | h
  .exact h
  .simp [h] at h2
 refine zae (zab (zal (s:=?s4) rfl ?o4 ?q4))
 case o4=>simp; refine zau (zjf g _ _ (by omega)) rfl ?_; simp; rfl
 refine zab (zad (zaa ⟨103,[(2,.pv (gC g)),(3,.pv (eC e)),(4,.pt 32 0 0),(6,.I (idxE g.edges ⟨e.f,e.t,0⟩)),(7,.B (decide (AtE g.edges (idxE g.edges ⟨e.f,e.t,0⟩) e.f e.t))),(22,.B (decide (¬ Fits g e)))],[(32,some ⟨3,[[.I 0,.nilS,.nilS]],0⟩)],40⟩ rfl ?_ ?_))
 .simp
  repeat' first
   | (refine zc8 26 rfl ?_; refine zau (zmf _ _ (by omega)) rfl ?_; simp)
   | (refine zcb (λ hb=>?_) (λ hb=>?_) <;> (try rw [hb]) <;> (try simp at hb) <;> simp [*])
  all_goals exact Le.var1 32 [] rfl rfl (nbz rfl) (by decide) rfl (by simp) (by simp) (by simp <;> exact wkB (by (try simp at *); grind [Fits]))
 refine zac _ rfl (λ h5=>?_) λ h5=>?_
 .try simp at h5
  refine zab (zam ?_);refine zah ⟨.inr rfl,?_⟩;show zao [(4,some (true,3)),(5,none)] 0 _ _ _;refine zao.out (vs:=[.agg [.I 0,.nilS,.nilS],.I 4]) [] [] (by simp) (by simp) (by simp) ?_ (by simp)
  have hr : zc6 g e=(zbJ,4):=by grind [zc6]
  simp [hr,zbJ];exact wkT2 (wkA3 (.refl _) (.nil _ _) (.nil _ _)) (.refl _)
 try simp at h5
 refine zaa ⟨103,[(2,.pv (gC g)),(3,.pv (eC e)),(4,.pt 32 0 0),(6,.I (idxE g.edges ⟨e.f,e.t,0⟩)),(7,.B (decide (AtE g.edges (idxE g.edges ⟨e.f,e.t,0⟩) e.f e.t))),(67,.B (decide (¬ (1<=e.v/\e.v<=3))))],[(32,some ⟨3,[[.I 0,.nilS,.nilS]],0⟩)],40⟩ rfl ?_ ?_
 .simp
  repeat' first
   | (refine zcb (λ hb=>?_) (λ hb=>?_) <;> (try rw [hb]) <;> (try simp at hb) <;> simp [*])
  all_goals exact Le.var1 32 [] rfl rfl (nbz rfl) (by decide) rfl (by simp) (by simp) (by simp <;> exact wkB (by (try simp at *); grind [Fits]))
 refine zac _ rfl (λ h7=>?_) λ h7=>?_
 .try simp at h7
  refine zab (zam ?_);refine zah ⟨.inr rfl,?_⟩;show zao [(4,some (true,3)),(5,none)] 0 _ _ _;refine zao.out (vs:=[.agg [.I 0,.nilS,.nilS],.I 2]) [] [] (by simp) (by simp) (by simp) ?_ (by simp)
  have hr : zc6 g e=(zbJ,2):=by grind [zc6]
  simp [hr,zbJ];exact wkT2 (wkA3 (.refl _) (.nil _ _) (.nil _ _)) (.refl _)
 try simp at h7
 refine zab (zam ?_);refine zac _ rfl (λ h10=>?_) λ h10=>?_
 .try simp at h10
  refine zab (zam ?_);refine zah ⟨.inr rfl,?_⟩;show zao [(4,some (true,3)),(5,none)] 0 _ _ _;refine zao.out (vs:=[.agg [.I 0,.nilS,.nilS],.I 19]) [] [] (by simp) (by simp) (by simp) ?_ (by simp)
  have hr : zc6 g e=(zbJ,19):=by grind [zc6]
  simp [hr,zbJ];exact wkT2 (wkA3 (.refl _) (.nil _ _) (.nil _ _)) (.refl _)
 try simp at h10
 refine zab (zam ?_);refine zac _ rfl (λ h13=>?_) λ h13=>?_
 .try simp at h13
  refine zab (zam ?_);refine zah ⟨.inr rfl,?_⟩;show zao [(4,some (true,3)),(5,none)] 0 _ _ _;refine zao.out (vs:=[.agg [.I 0,.nilS,.nilS],.I 3]) [] [] (by simp) (by simp) (by simp) ?_ (by simp)
  have hr : zc6 g e=(zbJ,3):=by grind [zc6]
  simp [hr,zbJ];exact wkT2 (wkA3 (.refl _) (.nil _ _) (.nil _ _)) (.refl _)
 try simp at h13
 refine zae ?_;have hle:=zqV g.edges ⟨e.f,e.t,0⟩;refine zab (zal (s:=?s20) rfl ?o20 ?q20)
 case o20=>simp; refine zoP (zfB g hl hl2) rfl ?_; simp [fcd]; rfl
 have h500 : g.edges.length<=500:=hg.1.2.2.1;have hmin : min (idxE g.edges ⟨e.f,e.t,0⟩) g.edges.length=idxE g.edges ⟨e.f,e.t,0⟩:=Nat.min_eq_left hle;have hr : zc6 g e=(zni g e,0):=by grind [zc6]
 rw [hr];unfold zni;generalize idxE g.edges ⟨e.f,e.t,0⟩=k at *;have htk : List.take (k+1) (List.take k (List.map (λ e : Ed=>[AV.I e.f,AV.I e.t,AV.I e.v]) g.edges)++[[AV.I e.f,AV.I e.t,AV.I e.v]])=List.take k (List.map (λ e : Ed=>[AV.I e.f,AV.I e.t,AV.I e.v]) g.edges)++[[AV.I e.f,AV.I e.t,AV.I e.v]]:=Qb (by simp; exact Nat.min_le_left _ _)
 obtain ⟨E,hE⟩ : ∃ E,E=g.edges.take k++e::g.edges.drop k:=⟨_,rfl⟩;have hEl : k+1+(g.edges.length - k)=E.length:=by subst hE; simp; omega
 have hrows : List.take k (List.map (λ e : Ed=>[AV.I e.f,AV.I e.t,AV.I e.v]) g.edges)++[AV.I e.f,AV.I e.t,AV.I e.v]::List.drop k (List.map (λ e : Ed=>[AV.I e.f,AV.I e.t,AV.I e.v]) g.edges)=E.map λ e : Ed=>[AV.I e.f,AV.I e.t,AV.I e.v]:=by subst hE; simp [List.map_take,List.map_drop]
 rw [<- hE];refine zab (zdU (s:=?s15) (tr:=?t15) rfl ?o15 ?r15 ?q15)
 case o15 =>
  simp [hmin,hle,htk,hEl,hrows]
  repeat' apply And.intro
  all_goals first | omega | rfl
 case r15=>rfl
 refine zab (zam ?_);refine zah ⟨.inr rfl,?_⟩;show zao [(4,some (true,3)),(5,none)] 0 _ _ _;refine zao.out (vs:=[.agg [.I g.size,.rs 224 0 E.length,.rs 105 0 g.gone.length],.I 0]) [] [224,105] (by simp) (by simp) (by simp) ?_ (by simp)
 simp [fcd,zaq]
end Go.Proofs.YtkngdgplbojdlaaGreat
namespace Go.Proofs
open Go.Shelf
def Tryz.lays189_ren : Go.Shelf.Ren:=⟨fun | 189=>130 | 125=>113 | 257=>167 | 128=>154 | 129=>155 | 294=>188 | 295=>189 | 296=>190 | 297=>191 | 298=>192 | 299=>193 | 216=>194 | 300=>195 | 301=>196 | 328=>205 | 329=>181 | 330=>182 | 331=>206 | 332=>207 | 215=>114 | 343=>218 | n=>n,fun | 28=>22 | 3=>3 | 46=>134 | 0=>0 | 51=>175 | 53=>158 | 4=>4 | 183=>169 | 182=>168 | 131=>100 | 5=>5 | 9=>9 | 218=>198 | 222=>202 | 228=>214 | 229=>183 | n=>n,fun | n=>n⟩
theorem Tryz.lays189 : Go.Proofs.Lays.n189 Tryz.prog Tryz.lays189_ren:={
 mixed:=by kernel_rfl
 f125:=Tryz.func113.trans (congrArg some (by kernel_rfl))
 f128:=Tryz.func154.trans (congrArg some (by kernel_rfl))
 f129:=Tryz.func155.trans (congrArg some (by kernel_rfl))
 f189:=Tryz.func130.trans (congrArg some (by kernel_rfl))
 f215:=Tryz.func114.trans (congrArg some (by kernel_rfl))
 f216:=Tryz.func194.trans (congrArg some (by kernel_rfl))
 f257:=Tryz.func167.trans (congrArg some (by kernel_rfl))
 f294:=Tryz.func188.trans (congrArg some (by kernel_rfl))
 f295:=Tryz.func189.trans (congrArg some (by kernel_rfl))
 f296:=Tryz.func190.trans (congrArg some (by kernel_rfl))
 f297:=Tryz.func191.trans (congrArg some (by kernel_rfl))
 f298:=Tryz.func192.trans (congrArg some (by kernel_rfl))
 f299:=Tryz.func193.trans (congrArg some (by kernel_rfl))
 f300:=Tryz.func195.trans (congrArg some (by kernel_rfl))
 f301:=Tryz.func196.trans (congrArg some (by kernel_rfl))
 f328:=Tryz.func205.trans (congrArg some (by kernel_rfl))
 f329:=Tryz.func181.trans (congrArg some (by kernel_rfl))
 f330:=Tryz.func182.trans (congrArg some (by kernel_rfl))
 f331:=Tryz.func206.trans (congrArg some (by kernel_rfl))
 f332:=Tryz.func207.trans (congrArg some (by kernel_rfl))
 f343:=Tryz.func218.trans (congrArg some (by kernel_rfl))
 t0:=Tryz.underlying0
 a0:=Tryz.isAgg0
 z0:=Tryz.sizeOf0
 v0:=Tryz.zeroValue0
 t3:=Tryz.underlying3
 a3:=Tryz.isAgg3
 z3:=Tryz.sizeOf3
 v3:=Tryz.zeroValue3
 t4:=Tryz.underlying4
 a4:=Tryz.isAgg4
 z4:=Tryz.sizeOf4
 v4:=Tryz.zeroValue4
 t5:=Tryz.underlying5
 a5:=Tryz.isAgg5
 z5:=Tryz.sizeOf5
 v5:=Tryz.zeroValue5
 t9:=Tryz.underlying9
 a9:=Tryz.isAgg9
 z9:=Tryz.sizeOf9
 v9:=Tryz.zeroValue9
 t28:=Tryz.underlying22
 a28:=Tryz.isAgg22
 z28:=Tryz.sizeOf22
 v28:=Tryz.zeroValue22
 t46:=Tryz.underlying134
 a46:=Tryz.isAgg134
 z46:=Tryz.sizeOf134
 v46:=Tryz.zeroValue134
 t51:=Tryz.underlying175
 a51:=Tryz.isAgg175
 z51:=Tryz.sizeOf175
 v51:=Tryz.zeroValue175
 t53:=Tryz.underlying158
 a53:=Tryz.isAgg158
 z53:=Tryz.sizeOf158
 v53:=Tryz.zeroValue158
 t131:=Tryz.underlying100
 a131:=Tryz.isAgg100
 z131:=Tryz.sizeOf100
 v131:=Tryz.zeroValue100
 t182:=Tryz.underlying168
 a182:=Tryz.isAgg168
 z182:=Tryz.sizeOf168
 v182:=Tryz.zeroValue168
 t183:=Tryz.underlying169
 a183:=Tryz.isAgg169
 z183:=Tryz.sizeOf169
 v183:=Tryz.zeroValue169
 t218:=Tryz.underlying198
 a218:=Tryz.isAgg198
 z218:=Tryz.sizeOf198
 v218:=Tryz.zeroValue198
 t222:=Tryz.underlying202
 a222:=Tryz.isAgg202
 z222:=Tryz.sizeOf202
 v222:=Tryz.zeroValue202
 t228:=Tryz.underlying214
 a228:=Tryz.isAgg214
 z228:=Tryz.sizeOf214
 v228:=Tryz.zeroValue214
 t229:=Tryz.underlying183
 a229:=Tryz.isAgg183
 z229:=Tryz.sizeOf183
 v229:=Tryz.zeroValue183 }
end Go.Proofs
namespace Go.Proofs.YtkngdgplbojdlaaGreat
open Go
def zcA (l : List Int) : List (List AV):=l.map λ n=>[AV.I n]
theorem Src.body {P : Program} {f : FuncId} {af : AFun} (s : Src P f af) : ∃ fn c,P.funcs[f]? = some fn/\fn.body=some c/\fn.name ≠ "runtime.NumGoroutine":=by
 obtain ⟨_,fn,hf,hc,hn⟩:=s;unfold zrF at hc
 cases hb : fn.body with
 | none=>rw [hb] at hc; cases hc
 | some c=>exact ⟨fn,c,hf,hb,hn⟩
theorem zrR (zs : List Int) (h0 : zs≠[]) (hl : zs.length<4611686018427387904) :
  AcP 130 [.rs 0 0 zs.length] [{ s:=1,rows:=zcA zs }] (.tup []) ([{ s:=1,rows:=zcA (zs.mergeSort λ x y=>decide (x<=y)) }].map some):=by
 refine ⟨zcx.s.body,by simp,λ T M w vs htok hhs hdom hrep=>?_⟩
 have hpos : 0<zs.length:=Ux.2 h0;obtain ⟨hsz,hr⟩:=hrep;have hr0:=hr 0 (by simp)
 simp only [UO] at hr0
 have hvs : vs = #[vs.getD 0 undef]:=by
  apply Array.ext
  .simpa using hsz
  .intro i h1 h2
   have : i=0:=by simp at h2; omega
   subst this;simp [Array.getD,h1]
 rw [hvs];generalize vs.getD 0 undef=v at hr0
 cases hr0 with
 | rs _ _ _ _ cap a g hg hgz hlc hn hb =>
 obtain ⟨g',hg',ent⟩:=hhs.ent 0 _ rfl;rw [hg] at hg';obtain rfl:=Qf hg';have hrl : (zcA zs).length=zs.length:=by simp [zcA]
 cases hblk : g.blk with
 | none =>
   have:=ent.none hblk;simp [zcA] at this;exact absurd this h0
 | some b =>
 obtain ⟨hcap,c0,t0,f0,hc0,hle0⟩:=hb b hblk;obtain ⟨cells,ty,hw,htb,hlen,hrows⟩:=ent.blk (UN 0) b hblk
 have ha : a=some ⟨b,g.base+0*g.s,none⟩:=by
  rcases hcap with h | h
  .omega
  .exact h
 subst ha;simp only [Nat.zero_mul,Ua] at *
 have hcell : ∀ i,(hi : i<zs.length)->cells[g.base+i]? = some (.int .i64 zs[i]):=by
  intro i hi;obtain ⟨u,hu,_,hru⟩:=hrows i 0 (by rw [hrl]; exact hi) (by decide)
  simp only [Nat.mul_one,Ua] at hu;rw [hu];have : ((zcA zs).getD i []).getD 0 .dead = .I zs[i]:=by simp [zcA,List.getD,hi]
  rw [this] at hru
  cases hru;rfl
 have hb' : b<w.heap.size:=(QN.1 hw).1;refine (Any.slices_Sort_int Tryz.lays189 b g.base cap zs w ?_ hb' hl).mono ?_
 .intro j hj
  have hj' : j<zs.length:=by simpa using hj
  constructor
  .show w.cell? _=_
   unfold World.cell?;simp only [hw];rw [hcell j hj'];simp [hj']
  .unfold World.frozen?
   simp only [hw];simp
 .rintro e w' ⟨rfl,n,os,rfl⟩
  have hsl : (zs.mergeSort λ x y=>decide (x<=y)).length=zs.length:=List.length_mergeSort zs;generalize (zs.mergeSort λ x y=>decide (x<=y))=ys at hsl
  have hh : ∀ b',b'<w.heap.size->(Go.Sort.grow (Go.Sort.putRow (Value.int .i64) (Go.Sort.ahead w n) b g.base ys.toArray) os).heap[b']? = if b'=b then some (.cells (Go.Sort.putCells (Value.int .i64) g.base ys.toArray cells) ty (0,0)) else w.heap[b']?:=by
   intro b' hb1;have hsz' : (w.heap.modify b (Go.Sort.onCells (Go.Sort.putCells (Value.int .i64) g.base ys.toArray))).size=w.heap.size:=Array.size_modify;show ((w.heap.modify b (Go.Sort.onCells (Go.Sort.putCells (Value.int .i64) g.base ys.toArray)))++os)[b']? = _;rw [Q9 (by rw [hsz']; exact hb1),Array.getElem?_modify]
   by_cases hbb : b=b'
   .subst hbb
    rw [if_pos rfl,if_pos rfl,hw];rfl
   .rw [if_neg hbb,if_neg (Ne.symm hbb)]
  have hput : ∀ o,(o<g.base∨g.base+ys.length<=o)->(Go.Sort.putCells (Value.int .i64) g.base ys.toArray cells)[o]? = cells[o]?:=by
   intro o ho;unfold Go.Sort.putCells;rw [Array.getElem?_mapIdx]
   cases hc : cells[o]? with
   | none=>rfl
   | some u =>
     simp only [Q7];rw [if_neg];simp;omega
  have hput2 : ∀ i,(hi : i<ys.length)->(Go.Sort.putCells (Value.int .i64) g.base ys.toArray cells)[g.base+i]? = some (.int .i64 ys[i]):=by
   intro i hi;unfold Go.Sort.putCells;rw [Array.getElem?_mapIdx,hcell i (by omega)]
   simp only [Q7];rw [if_pos (by simp; omega)]
   simp [hi]
  have hcs : (Go.Sort.putCells (Value.int .i64) g.base ys.toArray cells).size=cells.size:=by
   unfold Go.Sort.putCells;exact Array.size_mapIdx
  have hbig : w.heap.size<=(Go.Sort.grow (Go.Sort.putRow (Value.int .i64) (Go.Sort.ahead w n) b g.base ys.toArray) os).heap.size:=by
   show w.heap.size<=((w.heap.modify b _)++os).size;rw [UG,Array.size_modify];omega
  have htb' : T b<=g.base:=by simpa using htb
  generalize hw' : (Go.Sort.grow (Go.Sort.putRow (Value.int .i64) (Go.Sort.ahead w n) b g.base ys.toArray) os)=w' at hh hbig;have hlt : ∀ b' o,w.heap[b']? = some o->b'<w.heap.size:=λ b' o h=>(QN.1 h).1
  have hpr : Pres T w T w':=by
   refine ⟨λ _=>Ql _,λ b' cs' ty' fz' h=>?_⟩;rw [hh b' (hlt _ _ h)]
   by_cases hbb : b'=b
   .subst hbb
    rw [hw] at h
    cases h;exact ⟨_,_,if_pos rfl,hcs,λ o ho=>hput o (.inl (by omega))⟩
   .exact ⟨cs',fz',by rw [if_neg hbb]; exact h,rfl,λ _ _=>rfl⟩
  rw [zeN];refine ⟨_,T,M,rfl,.tup M [] #[] rfl (λ i hi=>by simp at hi),⟨λ id e he=>?_,λ id id' e e' g1 g2 b' h1 h2 h3 h4 h5 h6=>?_⟩,⟨λ b' hb1=>?_,λ _ _ _=>rfl,λ _ _=>rfl,?_,?_,?_,hbig,λ b' hb1 hb2=>?_,hpr,λ k g1 b' hk hg1 _=>?_⟩⟩
  .have hid : id=0:=by
    cases id with
    | zero=>rfl
    | succ k=>simp [hpOf] at he
   subst hid;simp only [hpOf,List.getElem?_cons_zero,Qq] at he;subst he;refine ⟨g,hg,⟨ent.s,Qi _,λ _ row hr=>?_,λ hn=>(by rw [hblk] at hn; cases hn),λ hz=>absurd hz (UN 0),λ _ b' hb1=>?_⟩⟩
   .simp [zcA] at hr
    obtain ⟨x,_,rfl⟩:=hr;rfl
   .rw [hblk] at hb1
    obtain rfl:=Qf hb1;refine ⟨_,ty,by rw [hh _ hb',if_pos rfl],by simpa using htb',by simp [zcA,hcs,hsl]; simpa [zcA] using hlen,λ i j hi hj=>?_⟩
    have hi' : i<ys.length:=by simpa [zcA] using hi
    have hj' : j=0:=by simp at hj; omega
    subst hj';refine ⟨.int .i64 ys[i],by simpa using hput2 i hi',rfl,?_⟩
    have : ((zcA ys).getD i []).getD 0 .dead = .I ys[i]:=by simp [zcA,List.getD,hi']
    rw [this];exact .sc _ _ rfl
  .have h0 : ∀ id e,hpOf [({ s:=1,rows:=zcA ys } : Ent)] id=some e->id=0:=by
    intro id e he
    cases id with
    | zero=>rfl
    | succ k=>simp [hpOf] at he
   rw [h0 _ _ h1,h0 _ _ h2]
  .obtain ⟨c1,ty1,fz1,h1,h2⟩:=htok b' hb1
   obtain ⟨c2,fz2,h3,h4,_⟩:=hpr.cell b' c1 ty1 fz1 h1;exact ⟨c2,ty1,fz2,h3,by omega⟩
  .rw [<- hw']; rfl
  .rw [<- hw']; rfl
  .rw [<- hw']; rfl
  .rw [hh b' hb1,if_neg]
   intro hbb;exact hb2 ⟨0,g,by simp,hg,by rw [hblk,hbb]⟩
  .rw [hdom k hk] at hg1
   cases hg1
theorem zgF.refl {n : Nat} {T : Nat->Nat} {M : GM} {w : World} (htok : TOk T w) (hdom : ∀ k,n<=k->M k=none) : zgF n T M w T M w :=
 ⟨htok,λ _ _ _=>rfl,λ _ _=>rfl,rfl,rfl,rfl,Ql _,λ _ _ _=>rfl,⟨λ _=>Ql _,λ _ cells _ fz h=>⟨cells,fz,h,rfl,λ _ _=>rfl⟩⟩,λ k g b hk h=>by rw [hdom k hk] at h; cases h⟩
theorem arr1 {vs : Array Value} (h : vs.size=1) : vs = #[vs.getD 0 undef]:=by
 apply Array.ext
 .simpa using h
 .intro i h1 h2
  have : i=0:=by simp at h2; omega
  subst this;simp [Array.getD,h1]
theorem znD (zs : List Int) (hl : zs.length<4611686018427387904) :
  AcP 130 [.rs 0 0 zs.length] [{ s:=1,rows:=zcA zs }] (.tup []) ([{ s:=1,rows:=zcA (zs.mergeSort λ x y=>decide (x<=y)) }].map some):=by
 by_cases h0 : zs=[]
 .subst h0
  refine ⟨zcx.s.body,by simp,λ T M w vs htok hhs hdom hrep=>?_⟩
  obtain ⟨hsz,hr⟩:=hrep;have hr0:=hr 0 (by simp)
  simp only [UO] at hr0;rw [arr1 hsz];generalize vs.getD 0 undef=v at hr0
  cases hr0 with
  | rs _ _ _ _ cap a g hg hgz hlc hn hb =>
  refine (Any.slices_Sort_int_none Tryz.lays189 a cap w).mono ?_
  rintro e w' ⟨rfl,rfl⟩
  exact ⟨_,T,M,rfl,.tup M [] #[] rfl (λ i hi=>by simp at hi),by rw [zeN]; simpa using hhs,zgF.refl htok hdom⟩
 .exact zrR zs h0 hl
def outs (l : List Ed) (key : Int) : List Int:=l.filterMap λ e=>if e.f=key then some e.t else none
theorem zm0 (l : List Ed) (key : Int) (k : Nat) (h : k<l.length) : outs (l.take (k+1)) key=outs (l.take k) key++if l[k].f=key then [l[k].t] else []:=by
 unfold outs;rw [<- UH h,Uw,List.filterMap_append]
 congr 1
 by_cases hc : l[k].f=key <;> simp [hc]
theorem znk (l : List Ed) (key : Int) : (outs l key).length<=l.length:=List.length_filterMap_le _ _
theorem zg1 (g : Gr) (key : Int) (hl : g.edges.length<=1099511627776) : AcP 81 [eG g,.I key] [] (.rs 0 0 (outs g.edges key).length) [some ⟨1,((outs g.edges key).mergeSort λ x y=>decide (x<=y)).map λ n=>[AV.I n],0⟩]:=by
 refine zqF.s.ac ?_;show awp _ 0 _ _ ⟨28,[(0,eG g),(1,.I key)],[],16⟩;refine zab (zam ?_);refine zab (zam ?_);refine zab (zab (zam ?_));refine zad (zaj (ι:=Nat) (λ k=>⟨28,[(1,.I key),(5,.rs 16 0 (outs (g.edges.take k) key).length),(9,eEs g.edges),(10,.I g.edges.length),(11,.I k)],[(16,some ⟨1,(outs (g.edges.take k) key).map λ n=>[AV.I n],0⟩)],24⟩) (λ k=>k<=g.edges.length) (λ k=>g.edges.length - k) (0) ?_ (Le.lst [] [] [(16,1)] rfl (by simp) (by simp) (by simp) (by simp) (by simp) (by simp) (by simp) (by simp [Up,outs]) (by simp [outs])) ?_)
 .simp
 rintro k hk
 have hol : (outs (g.edges.take k) key).length<=k:=QH (znk _ _) (by simp; exact Nat.min_le_left _ _)
 refine zab (zam ?_);refine zab (zac _ rfl (λ h4=>?_) λ h4=>?_)
 .try simp at h4
  have hw2 : IntKind.i64.wrap ((k : Int)+1)=(k : Int)+1:=w6;have hwp : 0<k->IntKind.i64.wrap ((k : Int) - 1)=((k - 1 : Nat) : Int):=λ h=>by rw [w6]; omega
  have hkp : k - 1<g.edges.length:=by omega
  refine zae (zab (zad (zaa ⟨28,[(1,.I key),(5,.rs 16 0 (outs (g.edges.take k) key).length),(7,.pv (eC g.edges[k])),(9,eEs g.edges),(10,.I g.edges.length),(11,.I k)],[(16,some ⟨1,(outs (g.edges.take k) key).map λ n=>[AV.I n],0⟩)],24⟩ rfl ?_ ?_)))
  .simp [h4,hw2,hwp,hkp]
   exact Le.var1 16 [48] rfl rfl (nbz rfl) (by decide) rfl (by simp [fcd]) (by simp) (by simp [h4,hw2,hwp,hkp])
  refine zab (zal (s:=?s5) rfl ?o5 ?q5)
  case o5=>simp [h4,hw2,hwp,hkp]; rfl
  refine zac _ rfl (λ h6=>?_) λ h6=>?_
  .try simp at h6
   refine zal (s:=?s7) rfl ?o7 ?q7
   case o7 =>
    simp [h4,hw2,hwp,hkp,List.replicate];refine ⟨by omega,by omega,?_⟩
    rfl
   refine zal (s:=?s8) rfl ?o8 ?q8
   case o8=>simp [h4,hw2,hwp,hkp]; rfl
   have hs:=zm0 g.edges key k h4;rw [if_pos h6] at hs;refine ⟨k+1,h4,by omega,Le.ren1 88 16 [] rfl rfl (nbz rfl) (by decide) rfl (by simp [hs,fcd,zaq]) (by simp) (by simp [hs,hw2])⟩
  try simp at h6
  refine zae (zal (s:=?s9) rfl ?o9 ?q9)
  case o9=>simp [h4,hw2,hwp,hkp]; rfl
  have hs:=zm0 g.edges key k h4;rw [if_neg h6,QX] at hs;refine ⟨k+1,h4,by omega,Le.var1 16 [] rfl rfl (nbz rfl) (by decide) rfl (by simp [hs,fcd,zaq]) (by simp) (by simp [hs,hw2])⟩
 try simp at h4
 have hkl : k=g.edges.length:=by omega
 subst hkl;have hol2:=znk g.edges key;refine zai (hit (zab (zal (s:=?s10) rfl ?o10 ?q10)))
 case o10 =>
  simp;refine zaS (i:=16) rfl (e':=⟨1,zcA (outs g.edges key),0⟩) (by simp [zcA,fcd]) (znD (outs g.edges key) (by omega)) (by simp) (by simp) ?_
  simp [zcA,fcd];rfl
 refine zab (zam ?_);exact zah ⟨.inr rfl,zao.out [16] [] rfl (by simp) (by simp) (by simp) (by simp [fcd])⟩
def inns (l : List Ed) (key : Int) : List Int:=l.filterMap λ e=>if e.t=key then some e.f else none
theorem zmN (l : List Ed) (key : Int) (k : Nat) (h : k<l.length) : inns (l.take (k+1)) key=inns (l.take k) key++if l[k].t=key then [l[k].f] else []:=by
 unfold inns;rw [<- UH h,Uw,List.filterMap_append]
 congr 1
 by_cases hc : l[k].t=key <;> simp [hc]
theorem zr0 (l : List Ed) (key : Int) : (inns l key).length<=l.length:=List.length_filterMap_le _ _
theorem znl (g : Gr) (key : Int) (hl : g.edges.length<=1099511627776) : AcP 174 [eG g,.I key] [] (.rs 0 0 (inns g.edges key).length) [some ⟨1,((inns g.edges key).mergeSort λ x y=>decide (x<=y)).map λ n=>[AV.I n],0⟩]:=by
 refine zr8.s.ac ?_;show awp _ 0 _ _ ⟨28,[(0,eG g),(1,.I key)],[],16⟩;refine zab (zam ?_);refine zab (zam ?_);refine zab (zab (zam ?_));refine zad (zaj (ι:=Nat) (λ k=>⟨28,[(1,.I key),(5,.rs 16 0 (inns (g.edges.take k) key).length),(9,eEs g.edges),(10,.I g.edges.length),(11,.I k)],[(16,some ⟨1,(inns (g.edges.take k) key).map λ n=>[AV.I n],0⟩)],24⟩) (λ k=>k<=g.edges.length) (λ k=>g.edges.length - k) (0) ?_ (Le.lst [] [] [(16,1)] rfl (by simp) (by simp) (by simp) (by simp) (by simp) (by simp) (by simp) (by simp [Up,inns]) (by simp [inns])) ?_)
 .simp
 rintro k hk
 have hol : (inns (g.edges.take k) key).length<=k:=QH (zr0 _ _) (by simp; exact Nat.min_le_left _ _)
 refine zab (zam ?_);refine zab (zac _ rfl (λ h4=>?_) λ h4=>?_)
 .try simp at h4
  have hw2 : IntKind.i64.wrap ((k : Int)+1)=(k : Int)+1:=w6;have hwp : 0<k->IntKind.i64.wrap ((k : Int) - 1)=((k - 1 : Nat) : Int):=λ h=>by rw [w6]; omega
  have hkp : k - 1<g.edges.length:=by omega
  refine zae (zab (zad (zaa ⟨28,[(1,.I key),(5,.rs 16 0 (inns (g.edges.take k) key).length),(7,.pv (eC g.edges[k])),(9,eEs g.edges),(10,.I g.edges.length),(11,.I k)],[(16,some ⟨1,(inns (g.edges.take k) key).map λ n=>[AV.I n],0⟩)],24⟩ rfl ?_ ?_)))
  .simp [h4,hw2,hwp,hkp]
   exact Le.var1 16 [48] rfl rfl (nbz rfl) (by decide) rfl (by simp [fcd]) (by simp) (by simp [h4,hw2,hwp,hkp])
  refine zab (zal (s:=?s5) rfl ?o5 ?q5)
  case o5=>simp [h4,hw2,hwp,hkp]; rfl
  refine zac _ rfl (λ h6=>?_) λ h6=>?_
  .try simp at h6
   refine zal (s:=?s7) rfl ?o7 ?q7
   case o7 =>
    simp [h4,hw2,hwp,hkp,List.replicate];refine ⟨by omega,by omega,?_⟩
    rfl
   refine zal (s:=?s8) rfl ?o8 ?q8
   case o8=>simp [h4,hw2,hwp,hkp]; rfl
   have hs:=zmN g.edges key k h4;rw [if_pos h6] at hs;refine ⟨k+1,h4,by omega,Le.ren1 88 16 [] rfl rfl (nbz rfl) (by decide) rfl (by simp [hs,fcd,zaq]) (by simp) (by simp [hs,hw2])⟩
  try simp at h6
  refine zae (zal (s:=?s9) rfl ?o9 ?q9)
  case o9=>simp [h4,hw2,hwp,hkp]; rfl
  have hs:=zmN g.edges key k h4;rw [if_neg h6,QX] at hs;refine ⟨k+1,h4,by omega,Le.var1 16 [] rfl rfl (nbz rfl) (by decide) rfl (by simp [hs,fcd,zaq]) (by simp) (by simp [hs,hw2])⟩
 try simp at h4
 have hkl : k=g.edges.length:=by omega
 subst hkl;have hol2:=zr0 g.edges key;refine zai (hit (zab (zal (s:=?s10) rfl ?o10 ?q10)))
 case o10 =>
  simp;refine zaS (i:=16) rfl (e':=⟨1,zcA (inns g.edges key),0⟩) (by simp [zcA,fcd]) (znD (inns g.edges key) (by omega)) (by simp) (by simp) ?_
  simp [zcA,fcd];rfl
 refine zab (zam ?_);exact zah ⟨.inr rfl,zao.out [16] [] rfl (by simp) (by simp) (by simp) (by simp [fcd])⟩
@[simp] theorem zyw {ρ : List (Nat × Nat)} {sn : List Nat} {h : Nat->Option Ent} {n : Nat} {f : Fn} {a b : List AV} : conv ρ sn h (n+1) (.fn f a b) = .fn f (a.map (conv ρ sn h n)) (b.map (conv ρ sn h n)):=(rfl)
def modI (n m : Int) : Int:=if m<1 then 0 else n % m
theorem zsg {n m : Int} (hm : 0<m) : n.tmod m % m=n % m:=by
 have h:=Int.mul_tdiv_add_tmod n m
 conv=>rhs; rw [<- h]
 rw [Int.add_comm,Int.add_mul_emod_self_left]
theorem zpX {n m : Int} (hm : 0<m) : -m<n.tmod m/\n.tmod m<m:=⟨Int.lt_tmod_of_pos n hm,Int.tmod_lt_of_pos n hm⟩
def zax (L : List Int) (a : Nat) (n : Int) : Int × Nat:=if h : a<L.length then (modI L[a] n,a+1) else (0,a)
abbrev dice (L : List Int) (a : Nat) : Ent:=⟨2,[[ints L,.I a]],0⟩
theorem zao.k1 {rs : List (Nat × Option (Bool × Nat))} {st : St} {vs : List AV} {res : AV} {e : Ent} (h1 : zd3 st rs=some vs) (hw : Wk (conv [(0,0)] [] st.hp 4 (resV vs)) res) (he : (st.hp 0).map (zaw [(0,0)] [] st.hp 4)=some e) : zao rs 1 st res [some e] :=
 ⟨vs,h1,[],[],by decide,by simp,by simp,hw,by simpa using he⟩
theorem zt2 (L : List Int) : AcP 8 [ints L] [] (.B (decide (L.length<=400))) []:=by
 refine znw.s.ac ?_;show awp _ 0 _ _ ⟨6,[(0,ints L)],[],16⟩;refine zab (zam ?_);refine zaa ⟨6,[(2,.B (decide (L.length<=400)))],[],16⟩ rfl ?_ ?_
 .simp
  exact Le.snap [] rfl rfl (by simp <;> exact wkB (by simp; omega))
 exact zaI
theorem zxd (n m : Int) (hm : m<=9223372036854775807) : AcP 17 [.I n,.I m] [] (.I (modI n m)) []:=by
 refine zrA.s.ac ?_;show awp _ 0 _ _ ⟨16,[(0,.I n),(1,.I m)],[],16⟩;refine zab (zam ?_);refine zab (zab (zam ?_));refine zac _ rfl (λ h3=>?_) λ h3=>?_
 .try simp at h3
  refine zab (zam ?_);exact zah ⟨.inr rfl,zao.one (by simp [modI,h3])⟩
 try simp at h3
 have hm0 : m≠0:=by omega
 have hlt : ¬ m<1:=by omega
 obtain ⟨t1,t2⟩:=zpX (n:=n) (m:=m) (by omega)
 have te:=zsg (n:=n) (m:=m) (by omega)
 refine zae (zab (zal (s:=?s5) rfl ?o5 ?q5))
 case o5=>simp [hm0]; rfl
 refine zab (zab (zam ?_));refine zac _ rfl (λ h7=>?_) λ h7=>?_
 .try simp at h7
  have hw : IntKind.i64.wrap (n.tmod m+m)=n.tmod m+m:=w6;have hr : n % m=n.tmod m+m:=by rw [<- te,<- Int.add_emod_right,Int.emod_eq_of_lt (by omega) (by omega)]
  refine zal (s:=?s8) rfl ?o8 ?q8
  case o8=>simp [hw]; rfl
  refine zab (zam ?_);exact zah ⟨.inr rfl,zao.one (by simp [modI,hlt,hr])⟩
 try simp at h7
 have hr : n % m=n.tmod m:=by rw [<- te,Int.emod_eq_of_lt (by omega) (by omega)]
 refine zae (zab (zam ?_));exact zah ⟨.inr rfl,zao.one (by simp [modI,hlt,hr])⟩
theorem zvp (L : List Int) : AcP 10 [ints L] [] (.pt 0 0 0) [some (dice L 0)]:=by
 refine zqn.s.ac ?_;show awp _ 0 _ _ ⟨6,[(0,ints L)],[],16⟩;refine zab (zam ?_);refine zab (zam ?_);exact zah ⟨.inr rfl,zao.out [40] [] rfl (by simp) (by simp) (by simp) (by simp)⟩
theorem zlf (L : List Int) (a : Nat) (n : Int) (hl : L.length<=1099511627776) (ha : a<=L.length) (hn : n<=9223372036854775807) : AcP 13 [.pt 0 0 0,.I n] [dice L a] (.I (zax L a n).1) [some (dice L (zax L a n).2)]:=by
 refine ziE.s.ac ?_;show awp _ 1 _ _ ⟨35,[(0,.pt 0 0 0),(1,.I n)],[(0,some (dice L a))],16⟩;refine zab (zam ?_);refine zab (zab (zdU (s:=?s2) (tr:=?t2) rfl ?o2 ?r2 ?q2))
 case o2=>simp; constructor <;> rfl
 case r2=>rfl
 refine zac _ rfl (λ h3=>?_) λ h3=>?_
 .try simp at h3
  refine zab (zam ?_);refine zah ?_;have hr : zax L a n=(0,a):=by unfold zax; rw [dif_neg (by omega)]
  rw [hr];exact ⟨.inr rfl,zao.k1 rfl (by simp) (by simp [fcd])⟩
 try simp at h3
 have hw : IntKind.i64.wrap ((a : Int)+1)=(a : Int)+1:=w6;have hw0 : IntKind.i64.wrap (a : Int)=(a : Int):=w6;refine zae (zab (zal (s:=?s5) rfl ?o5 ?q5))
 case o5=>simp [hw]; rfl
 refine zab (zdU (s:=?s6) (tr:=?t6) rfl ?o6 ?r6 ?q6)
 case o6=>simp [hw0,h3]; refine zau (zxd _ _ hn) rfl ?_; simp; constructor <;> rfl
 case r6=>rfl
 refine zah ?_;have hr : zax L a n=(modI L[a] n,a+1):=by unfold zax; rw [dif_pos h3]
 rw [hr];exact ⟨.inr rfl,zao.k1 rfl (by simp) (by simp [fcd])⟩
theorem zvB {n m : Int} (hm : 0<m) : 0<=modI n m/\modI n m<m:=by
 unfold modI;rw [if_neg (by omega)]
 exact ⟨Int.emod_nonneg _ (by omega),Int.emod_lt_of_pos _ hm⟩
theorem zc9 {L : List Int} {a : Nat} {n : Int} (hn : 0<n) : 0<=(zax L a n).1/\(zax L a n).1<n:=by
 unfold zax;split
 .exact zvB hn
 .exact ⟨UI _,hn⟩
theorem zbi {L : List Int} {a : Nat} {n : Int} (ha : a<=L.length) : (zax L a n).2<=L.length:=by
 unfold zax;split
 .simp only; omega
 .exact ha
def ofD (L : List Int) (a : Nat) (l : List Int) : Int:=l.getD (zax L a l.length).1.toNat 0
theorem zuV (L : List Int) (a : Nat) (n : Int) (hl : L.length<=1099511627776) (ha : a<=L.length) (hn0 : 0<=n) (hn : n<=9223372036854775807) : AcP 33 [.pt 0 0 0,.I n] [dice L a] (.B (decide ((zax L a n).1=n - 1))) [some (dice L (zax L a n).2)]:=by
 refine zi3.s.ac ?_;show awp _ 1 _ _ ⟨11,[(0,.pt 0 0 0),(1,.I n)],[(0,some (dice L a))],16⟩;have hw : IntKind.i64.wrap (n - 1)=n - 1:=w6;refine zab (zam ?_);refine zab (zal (s:=?s2) rfl ?o2 ?q2)
 case o2 =>
  simp;refine zaS (i:=0) rfl (e':=dice L a) (by simp [fcd]) (zlf L a n hl ha hn) (by simp) (by simp) ?_
  simp [hw,fcd];rfl
 refine zah ?_;exact ⟨.inr rfl,zao.k1 rfl (by simp <;> exact wkB rfl) (by simp [fcd])⟩
theorem zyL (L : List Int) (a : Nat) (l : List Int) (hl : L.length<=1099511627776) (ha : a<=L.length) (h0 : 0<l.length) (hl2 : l.length<=1099511627776) : AcP 16 [.pt 0 0 0,ints l] [dice L a] (.I (ofD L a l)) [some (dice L (zax L a l.length).2)]:=by
 refine zkQ.s.ac ?_;show awp _ 1 _ _ ⟨12,[(0,.pt 0 0 0),(1,ints l)],[(0,some (dice L a))],16⟩
 obtain ⟨q,hq,hql⟩ : ∃ q : Nat,(zax L a l.length).1=q/\q<l.length:=by
  have:=zc9 (L:=L) (a:=a) (n:=l.length) (by omega)
  exact ⟨(zax L a l.length).1.toNat,by omega,by omega⟩
 have ho : ofD L a l=l[q]:=by unfold ofD; rw [hq]; simp [hql]
 refine zab (zam ?_);refine zab (zal (s:=?s2) rfl ?o2 ?q2)
 case o2 =>
  simp;refine zaS (i:=0) rfl (e':=dice L a) (by simp [fcd]) (zlf L a l.length hl ha (by omega)) (by simp) (by simp) ?_
  simp [hq,hql,fcd];rfl
 refine zah ?_;rw [ho];exact ⟨.inr rfl,zao.k1 rfl (by simp) (by simp [fcd])⟩
section
variable {P : Program} {np id : Nat} {h : Nat->Option Ent} {K : AV->List Nat->List (Nat × Option Ent)->Prop} {s i off len c k l m : Nat}
@[simp] theorem zzt : aK P np id (.slc s true false false) [.rk i off len c,.sc (.int .i64 (k : Int))] h K=(k<=len/\len<=c/\(∃ e,h i=some e/\e.s=s)/\K (.rk i (off+k) (len - k) (c - k)) [i] []):=by
 rw [zfR];refine propext ⟨?_,?_⟩
 .rintro ⟨l,r,m,n,h1,h2,h4,h5,h6,h7,h3,h10,h11,h8,h9⟩
  obtain rfl:=h6 rfl;simp at h4 h1;subst h1;have : k=l:=by omega
  subst this;obtain rfl:=h11 rfl;exact ⟨h2,h3,h8,h9⟩
 .rintro ⟨h1,h2,h3,h4⟩
  exact ⟨k,len,c,len,rfl,h1,by simp,(λ h=>by cases h),λ _=>rfl,(λ h=>by cases h),h2,Ql _,λ _=>rfl,h3,h4⟩
@[simp] theorem zzw : aK P np id (.slc s false true false) [.rk i off len c,.sc (.int .i64 (k : Int))] h K=(k<=c/\(∃ e,h i=some e/\e.s=s)/\K (.rk i off k c) [i] []):=by
 rw [zfR];refine propext ⟨?_,?_⟩
 .rintro ⟨l,r,m,n,h1,h2,h4,h5,h6,h7,h3,h10,h11,h8,h9⟩
  obtain rfl:=h5 rfl;simp at h4 h1;have : k=r:=by omega
  subst this;obtain rfl:=h11 rfl;exact ⟨h3,h8,by simpa using h9⟩
 .rintro ⟨h1,h3,h4⟩
  exact ⟨0,k,c,len,rfl,Qi _,by simp,λ _=>rfl,(λ h=>by cases h),(λ h=>by cases h),h1,Ql _,λ _=>rfl,h3,by simpa using h4⟩
@[simp] theorem zym : aK P np id (.slc s true true false) [.rk i off len c,.sc (.int .i64 (l : Int)),.sc (.int .i64 (k : Int))] h K=(l<=k/\k<=c/\(∃ e,h i=some e/\e.s=s)/\K (.rk i (off+l) (k - l) (c - l)) [i] []):=by
 rw [zfR];refine propext ⟨?_,?_⟩
 .rintro ⟨l',r,m,n,h1,h2,h4,h5,h6,h7,h3,h10,h11,h8,h9⟩
  simp at h4 h1;have : k=r:=by omega
  subst this;have : l=l':=by omega
  subst this;obtain rfl:=h11 rfl;exact ⟨h2,h3,h8,h9⟩
 .rintro ⟨h1,h2,h3,h4⟩
  exact ⟨l,k,c,len,rfl,h1,by simp,(λ h=>by cases h),(λ h=>by cases h),(λ h=>by cases h),h2,Ql _,λ _=>rfl,h3,h4⟩
@[simp] theorem zy8 : aK P np id (.slc s true true true) [.rk i off len c,.sc (.int .i64 (l : Int)),.sc (.int .i64 (k : Int)),.sc (.int .i64 (m : Int))] h K=(l<=k/\k<=m/\m<=c/\(∃ e,h i=some e/\e.s=s)/\K (.rk i (off+l) (k - l) (m - l)) [i] []):=by
 rw [zfR];refine propext ⟨?_,?_⟩
 .rintro ⟨l',r,m',n,h1,h2,h4,h5,h6,h7,h3,h10,h11,h8,h9⟩
  simp at h4 h1;have : k=r:=by omega
  subst this;have : l=l':=by omega
  subst this;have : m=m':=by omega
  subst this;exact ⟨h2,h3,h10,h8,h9⟩
 .rintro ⟨h1,h2,h3,h4,h5⟩
  exact ⟨l,k,m,len,rfl,h1,by simp,(λ h=>by cases h),(λ h=>by cases h),(λ _=>rfl),h2,h3,(λ h=>by cases h),h4,h5⟩
@[simp] theorem zy9 : aK P np id (.slc s true false false) [.rs i off len,.sc (.int .i64 (k : Int))] h K=(k<=len/\(∃ e,h i=some e/\e.s=s)/\K (.rs i (off+k) (len - k)) [i] []):=by
 rw [zfR];refine propext ⟨?_,?_⟩
 .rintro ⟨l,r,m,n,h1,h2,h4,h5,h6,h7,h3,h10,h8,h9⟩
  obtain rfl:=h6 rfl;simp at h4 h1;subst h1;have : k=l:=by omega
  subst this;exact ⟨h2,h8,h9⟩
 .rintro ⟨h1,h3,h4⟩
  exact ⟨k,len,0,len,rfl,h1,by simp,(λ h=>by cases h),λ _=>rfl,(λ h=>by cases h),Ql _,rfl,h3,h4⟩
@[simp] theorem zzo : aK P np id (.slc s false true false) [.rs i off len,.sc (.int .i64 (k : Int))] h K=(k<=len/\(∃ e,h i=some e/\e.s=s)/\K (.rs i off k) [i] []):=by
 rw [zfR];refine propext ⟨?_,?_⟩
 .rintro ⟨l,r,m,n,h1,h2,h4,h5,h6,h7,h3,h10,h8,h9⟩
  obtain rfl:=h5 rfl;simp at h4 h1;have : k=r:=by omega
  subst this;exact ⟨by omega,h8,by simpa using h9⟩
 .rintro ⟨h1,h3,h4⟩
  exact ⟨0,k,0,len,rfl,Qi _,by simp,λ _=>rfl,(λ h=>by cases h),(λ h=>by cases h),h1,rfl,h3,by simpa using h4⟩
end
theorem Le.keep {np : Nat} {st st' : St} (hsz : st'.sz=st.sz) (hn : st.n<=st'.n) (ht : ∀ p∈st'.t,st.get p.1=p.2) (hh : ∀ p∈st'.h,∀ e,p.2=some e->st.hp p.1=some e) : Le np st st':=by
 intro T0 M0 w0 T M a w ok hnp
 have hp : ∀ id e,st'.hp id=some e->st.hp id=some e:=by
  intro id e he;unfold St.hp at he
  cases hl : lkp st'.h id with
  | none=>rw [hl] at he; cases he
  | some v =>
    rw [hl] at he;exact hh _ (zaR hl) e he
 refine ⟨T,M,⟨ok.sz.trans hsz.symm,ok.df,λ i=>?_,⟨λ id e he=>ok.hs.ent id e (hp id e he),λ id id' e e' g g' b h1 h2=>ok.hs.inj id id' e e' g g' b (hp _ _ h1) (hp _ _ h2)⟩,λ id g hg=>U7 (ok.dom id g hg) hn,ok.after⟩,QH hnp hn⟩;unfold St.get at *
 cases hl : lkp st'.t i with
 | none=>exact .dead _ _
 | some v =>
   have:=ht _ (zaR hl);simp only at this;show Rep T w M v _;rw [<- this];exact ok.tm i
theorem LeK {np : Nat} {st st' : St} (hsz : st'.sz=st.sz:=by rfl) (hn : st.n<=st'.n:=by exact Ql _) (ht : ∀ p∈st'.t,st.get p.1=p.2:=by simp) (hh : ∀ p∈st'.h,∀ e,p.2=some e->st.hp p.1=some e:=by simp) : Le np st st':=Le.keep hsz hn ht hh
theorem zao.m1 {rs : List (Nat × Option (Bool × Nat))} {st : St} {vs : List AV} {res : AV} {e : Ent} (i : Nat) (hi : 1<=i) (h1 : zd3 st rs=some vs) (hw : Wk (conv [(0,0),(i,1)] [] st.hp 4 (resV vs)) res) (h0 : st.hp 0=none) (he : (st.hp i).map (zaw [(0,0),(i,1)] [] st.hp 4)=some e) : zao rs 1 st res [none,some e] :=
 ⟨vs,h1,[i],[],by simp [List.range,List.range.loop]; omega,by simpa using hi,by simp,by simpa [List.range,List.range.loop] using hw,by simpa [List.range,List.range.loop,h0] using he⟩
theorem GrOk.lt {g : Gr} (h : GrOk g) : ∀ (j i : Nat) (hi : i<g.edges.length) (hj : j<g.edges.length),i<j->Bef g.edges[i] g.edges[j]
 | 0,_,_,_,h0=>by omega
 | j+1,i,hi,hj,hij=>by
   have h1 : Bef g.edges[j] g.edges[j+1]:=zgK.1 ((h.2 (j+1) hj).2.2.2 (by omega))
   rcases Ug i j with h2 | h2
   .have h3:=GrOk.lt h j i hi (by omega) h2
    unfold Bef at *;omega
   .obtain rfl : i=j:=by omega
    exact h1
theorem GrOk.mono {g : Gr} (h : GrOk g) (e : Ed) : ∀ (i j : Nat) (hi : i<g.edges.length) (hj : j<g.edges.length),i<=j->Bef g.edges[j] e->Bef g.edges[i] e:=by
 intro i j hi hj hij hb;rcases Ug i j with h2 | h2
 .have h3:=h.lt j i hi hj h2
  unfold Bef at *;omega
 .obtain rfl : i=j:=by omega
  exact hb
section
variable {P : Program} {np id : Nat} {h : Nat->Option Ent} {K : AV->List Nat->List (Nat × Option Ent)->Prop} {f : FuncId} {first capt args args' : List AV} {res : AV}
theorem zki {i j : Nat} {e e' ej : Ent} {hs' : List (Option Ent)} (hij : j≠i) (hnp : np<=j) (hi : h i=some e) (hj : h j=some ej) (hee : zaw [(i,0)] [j] h 4 e=e') (hc : zaU P f args' [e'] res hs') (h8 : hs'.length<=9) (he : (first++args++capt).map (conv [(i,0)] [j] h 4)=args')
  (hk : K (conv (swp [i] id) [] (λ _=>none) 4 res) [i,j] ((hs'.zipIdx.map λ (e,k)=>((i::(List.range 8).map (id + ·)).getD k 0,e.map (zaw (swp [i] id) [] (λ _=>none) 4)))++[(j,some { ej with ro:=ej.rows.length })])) : aK P np id .call (.fn (.func f) first capt::args) h K :=
 ⟨[i],[j],true,args',[e'],res,hs',by simp,by simpa using hij,by simpa using hnp,by rw [show [i].zipIdx=[(i,0)] from rfl,he]; exact zbu _,by rw [show [i].zipIdx=[(i,0)] from rfl]; simpa [hi] using hee,hc,by simpa using h8,.inl rfl,by simpa [swp,hj] using hk⟩
end
theorem zuJ {l : List Ed} {e : Ed} {i : Nat} (h : i<idxE l e) (hi : i<l.length) : Bef l[i] e:=by
 have:=List.not_of_lt_findIdx h
 simpa using this
theorem ztn {l : List Ed} {e : Ed} (h : idxE l e<l.length) : ¬ Bef l[idxE l e] e:=by
 have h1 : l.findIdx (λ x=>!decide (Bef x e))<l.length:=h;have:=Vc (w:=h1);intro hb;have h2 : decide (Bef l[l.findIdx (λ x=>!decide (Bef x e))] e)=true:=U3 hb;simp only [h2] at this
 cases this
theorem ztG {g : Gr} {e : Ed} (hg : GrOk g) (hf : Fits g e) (h1 : 1<=e.v) (h3 : e.v<=3) (ha : ¬ AtE g.edges (idxE g.edges ⟨e.f,e.t,0⟩) e.f e.t) (hl : g.edges.length<500) : GrOk (zni g e):=by
 have hle:=zqV g.edges ⟨e.f,e.t,0⟩
 have hb : ∀ i (hi : i<g.edges.length),i<idxE g.edges ⟨e.f,e.t,0⟩->Bef g.edges[i] e:=λ i hi h=>by
  have:=zuJ h hi;exact this
 have hn : ∀ (h : idxE g.edges ⟨e.f,e.t,0⟩<g.edges.length),Bef e g.edges[idxE g.edges ⟨e.f,e.t,0⟩]:=λ h=>by
  have h2:=ztn h;have h4 : ¬ (g.edges[idxE g.edges ⟨e.f,e.t,0⟩].f=e.f/\g.edges[idxE g.edges ⟨e.f,e.t,0⟩].t=e.t):=λ q=>ha ⟨h,q⟩;simp only [Bef] at h2 ⊢;omega
 unfold zni;generalize idxE g.edges ⟨e.f,e.t,0⟩=k at *;have hlen : (g.edges.take k++e::g.edges.drop k).length=g.edges.length+1:=by simp; omega
 have hget : ∀ i (hi : i<(g.edges.take k++e::g.edges.drop k).length),(g.edges.take k++e::g.edges.drop k)[i]=if h : i<k then g.edges[i]'(by omega) else if h2 : i=k then e else g.edges[i - 1]'(by omega):=by
  intro i hi;have htl : (g.edges.take k).length=k:=by simp; omega
  by_cases h : i<k
  .rw [dif_pos h,Uu (by omega),UT]
  .rw [dif_neg h,List.getElem_append_right (by omega)]
   by_cases h2 : i=k
   .subst h2
    simp [htl]
   .rw [dif_neg h2]
    rw [List.getElem_cons];rw [dif_neg (by omega),List.getElem_drop]
    congr 1
    omega
 refine ⟨⟨hg.1.1,hg.1.2.1,by simp only [hlen]; omega,hg.1.2.2.2⟩,λ i hi=>?_⟩
 simp only at hi;have hfit : ∀ x : Ed,Fits ⟨g.size,g.edges.take k++e::g.edges.drop k,g.gone⟩ x↔Fits g x:=λ x=>Iff.rfl;simp only [hfit,zgK,hget];have hE:=λ j (hj : j<g.edges.length)=>hg.2 j hj
 by_cases h : i<k
 .simp only [dif_pos h]
  refine ⟨(hE i (by omega)).1,(hE i (by omega)).2.1,(hE i (by omega)).2.2.1,λ h0=>?_⟩
  rw [dif_pos (by omega)]
  exact zgK.1 ((hE i (by omega)).2.2.2 h0)
 .simp only [dif_neg h]
  by_cases h2 : i=k
  .subst h2
   simp only [dif_pos];refine ⟨hf,h1,h3,λ h0=>?_⟩;rw [dif_pos (by omega)]
   exact hb _ _ (by omega)
  .simp only [dif_neg h2]
   refine ⟨(hE (i - 1) (by omega)).1,(hE (i - 1) (by omega)).2.1,(hE (i - 1) (by omega)).2.2.1,λ h0=>?_⟩
   rw [dif_neg (by omega)]
   by_cases h4 : i - 1=k
   .rw [dif_pos h4]
    subst h4;exact hn _
   .rw [dif_neg h4]
    exact hg.lt _ _ _ _ (by omega)
theorem zuD {g : Gr} {e : Ed} (h : (zc6 g e).2=0) : GrOk g/\Fits g e/\(1<=e.v/\e.v<=3)/\¬ AtE g.edges (idxE g.edges ⟨e.f,e.t,0⟩) e.f e.t/\g.edges.length<500/\(zc6 g e).1=zni g e/\GrOk (zni g e):=by
 have key : GrOk g/\Fits g e/\(1<=e.v/\e.v<=3)/\¬ AtE g.edges (idxE g.edges ⟨e.f,e.t,0⟩) e.f e.t/\g.edges.length≠500/\(zc6 g e).1=zni g e:=by
  unfold zc6 at *;split at h
  .simp at h
  split at h
  .simp at h
  split at h
  .simp at h
  split at h
  .simp at h
  split at h
  .simp at h
  simp_all
 obtain ⟨h1,h2,h3,h4,h5,h6⟩:=key;have h7 : g.edges.length<500:=by have:=h1.1.2.2.1; omega
 exact ⟨h1,h2,h3,h4,h7,h6,ztG h1 h2 h3.1 h3.2 h4 h7⟩
def zm2 (L : List Int) (p : Gr × Nat) : Gr × Nat :=
 (if (zc6 p.1 ⟨(zax L p.2 p.1.size).1,(zax L (zax L p.2 p.1.size).2 p.1.size).1,1+(zax L (zax L (zax L p.2 p.1.size).2 p.1.size).2 3).1⟩).2=0
  then (zc6 p.1 ⟨(zax L p.2 p.1.size).1,(zax L (zax L p.2 p.1.size).2 p.1.size).1,1+(zax L (zax L (zax L p.2 p.1.size).2 p.1.size).2 3).1⟩).1 else p.1,
  (zax L (zax L (zax L p.2 p.1.size).2 p.1.size).2 3).2)
def zun (L : List Int) : Nat->Gr × Nat->Gr × Nat
 | 0,p=>p
 | n+1,p=>zun L n (zm2 L p)
def zdK (L : List Int) (a : Nat) : Int:=if L.length=0 then 4 else 2+(zax L a 8).1
def zbV (L : List Int) (a : Nat) : Gr × Nat :=
 if (zax L (zax L a 8).2 8).1=7 then (⟨zdK L a,[],[(zax L (zax L (zax L a 8).2 8).2 (zdK L a)).1]⟩,(zax L (zax L (zax L a 8).2 8).2 (zdK L a)).2)
 else (⟨zdK L a,[],[]⟩,(zax L (zax L a 8).2 8).2)
def zjR (L : List Int) (a : Nat) : Gr × Nat:=zun L (zax L (zbV L a).2 23).1.toNat ((zbV L a).1,(zax L (zbV L a).2 23).2)
structure zom (L : List Int) (p : Gr × Nat) : Prop where
 ok : GrOk p.1
 lo : 2<=p.1.size
 hi : p.1.size<=9
 at_ : p.2<=L.length
 few : p.1.gone.length<=1
theorem zid (L : List Int) (a : Nat) : 2<=zdK L a/\zdK L a<=9:=by
 have:=zc9 (L:=L) (a:=a) (n:=8) (by omega)
 unfold zdK;split <;> omega
theorem zix (L : List Int) (a : Nat) (ha : a<=L.length) : zom L (zbV L a):=by
 have hs:=zid L a;have h1:=zbi (L:=L) (a:=a) (n:=8) ha;have h2:=zbi (L:=L) (a:=(zax L a 8).2) (n:=8) h1;have hq:=zc9 (L:=L) (a:=(zax L (zax L a 8).2 8).2) (n:=zdK L a) (by omega)
 unfold zbV;split
 .refine ⟨⟨⟨by simp only; omega,by simp only; omega,by simp,λ i hi=>?_⟩,λ i hi=>absurd hi (by simp)⟩,hs.1,hs.2,zbi h2,by simp⟩
  obtain rfl : i=0:=by simpa using hi
  refine ⟨hq.1,?_,λ h=>by omega⟩
  have:=hq.2;simp only [List.getElem_cons_zero];omega
 .exact ⟨⟨⟨by simp only; omega,by simp only; omega,by simp,λ i hi=>absurd hi (by simp)⟩,λ i hi=>absurd hi (by simp)⟩,hs.1,hs.2,h2,by simp⟩
theorem zjD {L : List Int} {p : Gr × Nat} (h : zom L p) : zom L (zm2 L p):=by
 have h3:=zbi (n:=3) (zbi (n:=p.1.size) (zbi (n:=p.1.size) h.at_));unfold zm2
 by_cases hw : (zc6 p.1 ⟨(zax L p.2 p.1.size).1,(zax L (zax L p.2 p.1.size).2 p.1.size).1,1+(zax L (zax L (zax L p.2 p.1.size).2 p.1.size).2 3).1⟩).2=0
 .rw [if_pos hw]
  obtain ⟨_,_,_,_,_,q6,q7⟩:=zuD hw;rw [q6];exact ⟨q7,h.lo,h.hi,h3,h.few⟩
 .rw [if_neg hw]
  exact ⟨h.ok,h.lo,h.hi,h3,h.few⟩
theorem zjH {L : List Int} : ∀ (n : Nat) {p : Gr × Nat},zom L p->zom L (zun L n p)
 | 0,_,h=>h
 | n+1,_,h=>zjH n (zjD h)
theorem znH (L : List Int) (a : Nat) (ha : a<=L.length) : zom L (zjR L a):=by
 have h:=zix L a ha;exact zjH _ ⟨h.ok,h.lo,h.hi,zbi h.at_,h.few⟩
theorem zaA.eq {nl : List (Nat × Nat)} {e e' : Ent} (h : e=e') (hr : e'.ro<=e'.rows.length) : zaA nl e e':=by
 subst h;exact zaA.rfl' hr
theorem zaA.row {nl : List (Nat × Nat)} {s ro : Nat} {e : Ent} {r r' : List AV} (h : e=⟨s,[r],ro⟩) (hr : ro<=1) (hu : UpL nl r r') (hs : s≠0:=by decide) : zaA nl e ⟨s,[r'],ro⟩:=by
 subst h;refine ⟨rfl,Ql _,hr,.inr ⟨hs,rfl,λ i=>?_⟩⟩
 match i with
 | 0=>exact hu
 | _+1=>exact trivial
theorem zq3 {nl : List (Nat × Nat)} : ∀ {xs ys : List AV},WkL xs ys->UpL nl xs ys
 | [],[],_=>trivial
 | _::_,_::_,h=>⟨.inl h.1,zq3 h.2⟩
 | [],_::_,h=>False.elim h
 | _::_,[],h=>False.elim h
theorem Le.ents {np : Nat} {st st' : St} (ρ : List (Nat × Nat)) (sn : List Nat) (hsz : st'.sz=st.sz)
  (h0 : (ρ.map (·.1)).Nodup) (h1 : (ρ.map (·.2)).Nodup) (h2 : ∀ p∈ρ,p.2<st'.n/\(p.2<np->p.1=p.2)) (h4 : ∀ i∈sn,np<=i/\i∉ρ.map (·.1)) (h5 : np<=st'.n)
  (ht : ∀ p∈st'.t,Wk (conv ρ sn st.hp 4 (st.get p.1)) p.2)
  (hh : ∀ p∈st'.h,∃ q e e',p.2=some e'/\(q,p.1)∈ρ/\st.hp q=some e/\zaA [] (zaw ρ sn st.hp 4 e) e') : Le np st st' :=
 Le.lst ρ sn [] hsz h0 h1 h2 (by simp) h4 h5 (by simp) (λ p hp=>.inl (ht p hp)) λ p hp e' he'=>by
  obtain ⟨q,e,e2,h1,h2,h3,h4⟩:=hh p hp;rw [he'] at h1
  cases h1;exact .inl ⟨(q,p.1),h2,rfl,e,h3,h4⟩
theorem zeI (L : List Int) (a : Nat) (n : Int) (hl : L.length<=400) (ha : a<=L.length) (hn : n<=9223372036854775807) : AcP 13 [.pt 0 0 0,.I n] [dice L a] (.I (zax L a n).1) [some (dice L (zax L a n).2)]:=zlf L a n (by omega) ha hn
abbrev zG : Ent:=⟨3,[[.I 0,.nilS,.nilS]],0⟩
abbrev rowG (g : Gr) : Ent:=⟨3,[gC g],0⟩
theorem zuK (L : List Int) (a : Nat) (hl : L.length<=400) (ha : a<=L.length) : AcP 11 [.pt 0 0 0] [dice L a] (eG (zjR L a).1) [some (dice L (zjR L a).2)]:=by
 refine zhx.s.ac ?_;show awp _ 1 _ _ ⟨53,[(0,.pt 0 0 0)],[(0,some (dice L a))],16⟩;have a1:=zbi (L:=L) (a:=a) (n:=8) ha;have r1:=zc9 (L:=L) (a:=a) (n:=8) (by omega)
 have hs:=zid L a;have a2:=zbi (L:=L) (a:=(zax L a 8).2) (n:=8) a1;have hw1 : IntKind.i64.wrap (2+(zax L a 8).1)=2+(zax L a 8).1:=w6;have hm:=zix L a ha;refine zaa ⟨53,[(0,.pt 0 0 0),(2,.pt 16 0 0)],[(0,some (dice L a)),(16,some zG)],24⟩ rfl ?_ ?_
 .simp
  exact LeK
 refine zaa ⟨53,[(0,.pt 0 0 0),(2,.pt 16 0 0),(3,.pt 56 0 0)],[(0,some (dice L (zax L a 8).2)),(16,some zG),(56,some ⟨3,[[.I (2+(zax L a 8).1),.nilS,.nilS]],0⟩)],72⟩ rfl ?_ ?_
 .simp
  refine zaS (i:=0) rfl (e':=dice L a) (by simp [fcd]) (zeI L a 8 hl ha (by omega)) (by simp) (by simp) ?_
  simp [hw1,fcd];exact LeK
 refine zap (ι:=Unit) (λ _=>⟨53,[(0,.pt 0 0 0),(2,.pt 16 0 0),(3,.pt 56 0 0)],[(0,some (dice L (zax L a 8).2)),(16,some zG),(56,some ⟨3,[[.I (zdK L a),.nilS,.nilS]],0⟩)],136⟩) (λ _=>True) ?_ λ _ _=>?_
 .refine zaa ⟨53,[(0,.pt 0 0 0),(2,.pt 16 0 0),(3,.pt 56 0 0),(16,.B (decide (L.length=0)))],[(0,some (dice L (zax L a 8).2)),(16,some zG),(56,some ⟨3,[[.I (2+(zax L a 8).1),.nilS,.nilS]],0⟩)],120⟩ rfl ?_ ?_
  .simp
   exact Le.keep rfl (Ql _) (by simp <;> rw [QE] <;> simp) (by simp)
  refine zac _ rfl (λ h=>?_) λ h=>zae ?_
  .simp only [Qe] at h
   have hz : zdK L a=4:=by unfold zdK; rw [if_pos h]
   refine zan rfl ?_;simp;exact Le.keep rfl (Ql _) (by simp) (by simp [hz])
  .simp only [Qc] at h
   have hz : zdK L a=2+(zax L a 8).1:=by unfold zdK; rw [if_neg h]
   exact ⟨(),trivial,Le.keep rfl (nbz rfl) (by simp) (by simp [hz])⟩
 refine zap (ι:=Unit) (λ _=>⟨53,[(0,.pt 0 0 0),(2,.pt 16 0 0),(3,.pt 56 0 0)],[(0,some (dice L (zbV L a).2)),(16,some zG),(56,some (rowG (zbV L a).1))],208⟩) (λ _=>True) ?_ λ _ _=>?_
 .refine zaa ⟨53,[(0,.pt 0 0 0),(2,.pt 16 0 0),(3,.pt 56 0 0),(19,.B (decide ((zax L (zax L a 8).2 8).1=7)))],[(0,some (dice L (zax L (zax L a 8).2 8).2)),(16,some zG),(56,some ⟨3,[[.I (zdK L a),.nilS,.nilS]],0⟩)],152⟩ rfl ?_ ?_
  .simp
   refine zaS (i:=0) rfl (e':=dice L (zax L a 8).2) (by simp [fcd]) (zuV L _ 8 (by omega) a1 (by omega) (by omega)) (by simp) (by simp) ?_
   simp [fcd];exact LeK
  refine zac _ rfl (λ h=>?_) λ h=>zae ?_
  .simp only [Qe] at h
   have hz : zbV L a=(⟨zdK L a,[],[(zax L (zax L (zax L a 8).2 8).2 (zdK L a)).1]⟩,(zax L (zax L (zax L a 8).2 8).2 (zdK L a)).2):=by unfold zbV; rw [if_pos h]
   rw [hz];refine zan rfl ?_;simp;refine zaS (i:=0) rfl (e':=dice L (zax L (zax L a 8).2 8).2) (by simp [fcd]) (zeI L (zax L (zax L a 8).2 8).2 (zdK L a) hl a2 (by omega)) (by simp) (by simp) ?_
   simp [fcd];refine Le.ents [(0,0),(16,16),(56,56)] [184] rfl (by simp) (by simp) (by simp) (by simp) (by simp) (by simp) λ p hp=>?_
   simp at hp;rcases hp with rfl | rfl | rfl
   .exact ⟨0,_,_,rfl,by simp,rfl,zaA.eq (by simp) (by simp)⟩
   .exact ⟨16,_,_,rfl,by simp,rfl,zaA.eq (by simp) (by simp)⟩
   .exact ⟨56,_,_,rfl,by simp,rfl,zaA.row (by simp; rfl) (by simp) (zq3 (by simp; exact ⟨.nil _ _,.refl _⟩))⟩
  .simp only [Qc] at h
   have hz : zbV L a=(⟨zdK L a,[],[]⟩,(zax L (zax L a 8).2 8).2):=by unfold zbV; rw [if_neg h]
   rw [hz];refine ⟨(),trivial,Le.ents [(0,0),(16,16),(56,56)] [] rfl (by simp) (by simp) (by simp) (by simp) (by simp) (by simp) λ p hp=>?_⟩
   simp at hp;rcases hp with rfl | rfl | rfl
   .exact ⟨0,_,_,rfl,by simp,rfl,zaA.eq (by simp) (by simp)⟩
   .exact ⟨16,_,_,rfl,by simp,rfl,zaA.eq (by simp) (by simp)⟩
   .exact ⟨56,_,_,rfl,by simp,rfl,zaA.row (by simp; rfl) (by simp) (zq3 (by simp; exact ⟨.nil _ _,.nil _ _⟩))⟩
 have r4:=zc9 (L:=L) (a:=(zbV L a).2) (n:=23) (by omega)
 obtain ⟨n0,hn0⟩ : ∃ n0 : Nat,(zax L (zbV L a).2 23).1=n0:=⟨(zax L (zbV L a).2 23).1.toNat,by omega⟩
 refine zab (zaa ⟨53,[(0,.pt 0 0 0),(2,.pt 16 0 0),(3,.pt 56 0 0),(4,.I n0)],[(0,some (dice L (zax L (zbV L a).2 23).2)),(16,some zG),(56,some (rowG (zbV L a).1))],232⟩ rfl ?_ ?_)
 .simp
  refine zaS (i:=0) rfl (e':=dice L (zbV L a).2) (by simp [fcd]) (zeI L (zbV L a).2 23 hl hm.at_ (by omega)) (by simp) (by simp) ?_
  simp [fcd,hn0];exact LeK
 refine zad ?_
 refine zaj (ι:=Nat × Gr × Nat) (λ q=>⟨53,[(0,.pt 0 0 0),(2,.pt 16 0 0),(3,.pt 56 0 0),(4,.I q.1)],[(0,some (dice L q.2.2)),(16,some zG),(56,some (rowG q.2.1))],232⟩)
  (λ q=>q.1<=23/\zom L q.2/\zun L q.1 q.2=zjR L a) (λ q=>q.1) (n0,(zbV L a).1,(zax L (zbV L a).2 23).2) ?_ (Le.refl _ _) ?_
 .refine ⟨by simp only; omega,⟨hm.ok,hm.lo,hm.hi,zbi hm.at_,hm.few⟩,?_⟩
  unfold zjR;rw [hn0];rfl
 rintro ⟨k,p⟩ ⟨hk,hp,hit⟩
 simp only at hk hp hit ⊢;refine zab (zaa ⟨53,[(0,.pt 0 0 0),(2,.pt 16 0 0),(3,.pt 56 0 0),(4,.I k),(29,.B (decide (0<k)))],[(0,some (dice L p.2)),(16,some zG),(56,some (rowG p.1))],248⟩ rfl ?_ ?_)
 .simp
  exact LeK
 refine zac _ rfl (λ h=>zae ?_) λ h=>zai (Go.Proofs.YtkngdgplbojdlaaGreat.hit ?_)
 .simp only [Qe] at h
  refine zap (ι:=Unit) (λ _=>⟨53,[(0,.pt 0 0 0),(2,.pt 16 0 0),(3,.pt 56 0 0),(4,.I k)],[(0,some (dice L (zm2 L p).2)),(16,some zG),(56,some (rowG (zm2 L p).1))],440⟩) (λ _=>True) ?_ λ _ _=>?_
  .refine zad ?_
   have q1:=zbi (n:=p.1.size) hp.at_;have q2:=zbi (n:=p.1.size) q1;have hlo:=hp.lo;have hhi:=hp.hi;have l3:=zc9 (L:=L) (a:=(zax L (zax L p.2 p.1.size).2 p.1.size).2) (n:=3) (by omega)
   have hwv : IntKind.i64.wrap (1+(zax L (zax L (zax L p.2 p.1.size).2 p.1.size).2 3).1)=1+(zax L (zax L (zax L p.2 p.1.size).2 p.1.size).2 3).1:=w6;obtain ⟨w,hw⟩ : ∃ w,w=zc6 p.1 ⟨(zax L p.2 p.1.size).1,(zax L (zax L p.2 p.1.size).2 p.1.size).1,1+(zax L (zax L (zax L p.2 p.1.size).2 p.1.size).2 3).1⟩:=⟨_,rfl⟩;have hst : zm2 L p=(if w.2=0 then w.1 else p.1,(zax L (zax L (zax L p.2 p.1.size).2 p.1.size).2 3).2):=by rw [hw]; rfl
   have h500:=hp.ok.1.2.2.1;have hfew:=hp.few;have hwith:=zkO p.1 ⟨(zax L p.2 p.1.size).1,(zax L (zax L p.2 p.1.size).2 p.1.size).1,1+(zax L (zax L (zax L p.2 p.1.size).2 p.1.size).2 3).1⟩ (by omega) (by omega)
   rw [<- hw] at hwith;rw [hst];refine zas ⟨53,[(0,.pt 0 0 0),(2,.pt 16 0 0),(3,.pt 56 0 0),(4,.I k),(5,.pv (gC w.1)),(6,.I w.2)],[(0,some (dice L (zax L (zax L (zax L p.2 p.1.size).2 p.1.size).2 3).2)),(16,some zG),(56,some (rowG p.1))],408⟩ rfl ?_ ?_
   .simp
    refine zaS (i:=0) rfl (e':=dice L p.2) (by simp [fcd]) (zeI L p.2 p.1.size hl hp.at_ (by omega)) (by simp) (by simp) ?_
    simp [fcd];refine zaS (i:=0) rfl (e':=dice L (zax L p.2 p.1.size).2) (by simp [fcd]) (zeI L (zax L p.2 p.1.size).2 p.1.size hl q1 (by omega)) (by simp) (by simp) ?_
    simp [fcd];refine zaS (i:=0) rfl (e':=dice L (zax L (zax L p.2 p.1.size).2 p.1.size).2) (by simp [fcd]) (zeI L (zax L (zax L p.2 p.1.size).2 p.1.size).2 3 hl q2 (by omega)) (by simp) (by simp) ?_
    simp [fcd,hwv];refine zau hwith rfl ?_;simp;refine ⟨rfl,Le.ents [(0,0),(16,16),(56,56)] [384] rfl (by simp) (by simp) (by simp) (by simp) (by simp) (by simp) λ p hp=>?_⟩
    simp at hp;rcases hp with rfl | rfl | rfl
    .exact ⟨0,_,_,rfl,by simp,rfl,zaA.eq (by simp [fcd]) (by simp)⟩
    .exact ⟨16,_,_,rfl,by simp,rfl,zaA.eq (by simp) (by simp)⟩
    .exact ⟨56,_,_,rfl,by simp,rfl,zaA.eq (by simp) (by simp)⟩
   refine zaa ⟨53,[(0,.pt 0 0 0),(2,.pt 16 0 0),(3,.pt 56 0 0),(4,.I k),(5,.pv (gC w.1)),(50,.B (decide (w.2=0)))],[(0,some (dice L (zax L (zax L (zax L p.2 p.1.size).2 p.1.size).2 3).2)),(16,some zG),(56,some (rowG p.1))],424⟩ rfl ?_ ?_
   .simp
    exact Le.keep rfl (Ql _) (by simp <;> rw [QE] <;> simp) (by simp)
   refine zac _ rfl (λ h=>?_) λ h=>zae ?_
   .simp only [Qe] at h
    refine zan rfl ?_;simp [h];exact Le.keep rfl (nbz rfl) (by simp) (by simp)
   .simp only [Qc] at h
    rw [if_neg h];exact ⟨(),trivial,Le.keep rfl (nbz rfl) (by simp) (by simp)⟩
  have hwk : IntKind.i64.wrap ((k : Int) - 1)=((k - 1 : Nat) : Int):=by rw [w6]; omega
  refine zan rfl ?_;simp [hwk];refine ⟨k - 1,(zm2 L p).1,(zm2 L p).2,⟨by omega,zjD hp,?_⟩,by omega,Le.ents [(0,0),(16,16),(56,56)] [] rfl (by simp) (by simp) (by simp) (by simp) (by simp) (by simp) λ p hp=>?_⟩
  .rw [<- hit]
   obtain ⟨k,rfl⟩ : ∃ j,k=j+1:=⟨k - 1,by omega⟩
   rfl
  .simp at hp
   rcases hp with rfl | rfl | rfl
   .exact ⟨0,_,_,rfl,by simp,rfl,zaA.eq (by simp [fcd]) (by simp)⟩
   .exact ⟨16,_,_,rfl,by simp,rfl,zaA.eq (by simp) (by simp)⟩
   .exact ⟨56,_,_,rfl,by simp,rfl,zaA.eq (by simp) (by simp)⟩
 simp only [Qc] at h;obtain rfl : k=0:=by omega
 have hpe : p=zjR L a:=hit;rw [<- hpe];refine zaa ⟨53,[(2,.pt 16 0 0)],[(0,some (dice L p.2)),(16,some (rowG p.1))],264⟩ rfl ?_ ?_
 .simp
  exact LeK
 exact zah ⟨.inr rfl,zao.k1 (vs:=[eG p.1]) rfl (by simp) (by simp [fcd])⟩
abbrev za0 (k : IntKind) (l : List Int) : List (List AV):=l.map λ x=>[AV.sc (.int k x)]
abbrev bys (l : List Int) : AV:=.vs 1 false (za0 .u8 l)
section
variable {P : Program} {np id : Nat} {h : Nat->Option Ent} {K : AV->List Nat->List (Nat × Option Ent)->Prop} {f : FuncId} {first capt args args' : List AV} {res : AV}
end
theorem zuO {k : IntKind} {l : List Int} : zf0 ⟨1,za0 k l,0⟩:=by
 intro row hrow x hx;simp only [Qg] at hrow;obtain ⟨y,_,rfl⟩:=hrow;simp at hx;subst hx;exact .sc _
theorem zqz (k : IntKind) (l : List Int) (ρ sn h m) : (za0 k l).map (List.map (conv ρ sn h (m+1)))=za0 k l:=by simp [fcd]
theorem zrk (k : IntKind) (l : List Int) : (za0 k l).length=l.length:=by simp
theorem Le.K1 {st st' : St} {k : IntKind} {l : List Int} (i j : Nat) (sn : List Nat) (hsz : st'.sz=st.sz) (hh : st'.h=[(j,some ⟨1,za0 k l,0⟩)]) (hi : j<st'.n) (hs : ∀ j∈sn,j≠i) (h0 : st.hp i=some ⟨1,za0 k l,0⟩)
  (ht : ∀ p∈st'.t,Wk (conv [(i,j)] sn st.hp 4 (st.get p.1)) p.2) : Le 0 st st' :=
 Le.ren1 i j sn hsz hh hi hs h0 (by simp only [zaw,zqz]) (Qi _) ht
def ze4 (v : Int) (k : Nat) : Int:=IntKind.u8.wrap (v.fdiv (2 ^ (min (8*k) 64)))
def zg7 (v : Int) (n : Nat) : List Int:=(List.range n).map λ j=>ze4 v (7 - j)
def intY (v : Int) : List Int:=zg7 v 8
theorem zfV (v : Int) (n : Nat) : (zg7 v n).length=n:=by simp [zg7]
theorem zfD (v : Int) : (intY v).length=8:=zfV v 8
theorem zgu (v : Int) (n : Nat) : zg7 v (n+1)=zg7 v n++[ze4 v (7 - n)]:=by simp [zg7,UL]
def strY (s : ByteArray) : List Int:=s.data.toList.map λ b=>(b.toNat : Int)
theorem ztz (s : ByteArray) : (strY s).length=s.size:=by
 show (s.data.toList.map _).length=s.data.size;simp
theorem zn8 (s : ByteArray) : zca s=za0 .u8 (strY s):=by
 unfold zca strY;rw [za0,List.map_map];rfl
def zez (s : ByteArray) : List Int:=intY s.size++strY s
theorem zqX (s : ByteArray) : (zez s).length=s.size+8:=by rw [zez,Qh,zfD,ztz]; omega
abbrev wd (x : Int) : AV:=.sc (.int .u32 x)
def u2 (op : BinOp) (a b : Int) : Int:=match binV op (.int .u32 a) (.int .u32 b) with | some (.int _ n)=>n | _=>0
def sh (op : BinOp) (a n : Int) : Int:=match binV op (.int .u32 a) (.int .u64 n) with | some (.int _ n)=>n | _=>0
def nt (a : Int) : Int:=match unV .xor (.int .u32 a) with | some (.int _ n)=>n | _=>0
def zbK (x n : Int) : Int:=u2 .or (sh .shr x n) (sh .shl x (32 - n))
section
variable {P : Program} {np id : Nat} {h : Nat->Option Ent} {K : AV->List Nat->List (Nat × Option Ent)->Prop}
theorem k_u2 (op : BinOp) (ho : op = .add∨op = .xor∨op = .and∨op = .or) {a b : Int} : aK P np id (.bin op) [.sc (.int .u32 a),.sc (.int .u32 b)] h K=K (.sc (.int .u32 (u2 op a b))) [] []:=by
 refine propext ?_;rcases ho with rfl | rfl | rfl | rfl
 all_goals
  constructor
  .rintro ⟨v,hv,hk⟩
   cases hv;exact hk
  .exact λ hk=>⟨_,rfl,hk⟩
@[simp high] theorem zy2 {a b : Int} : aK P np id (.bin .add) [.sc (.int .u32 a),.sc (.int .u32 b)] h K=K (.sc (.int .u32 (u2 .add a b))) [] []:=k_u2 _ (.inl rfl)
@[simp high] theorem zy3 {a b : Int} : aK P np id (.bin .xor) [.sc (.int .u32 a),.sc (.int .u32 b)] h K=K (.sc (.int .u32 (u2 .xor a b))) [] []:=k_u2 _ (.inr (.inl rfl))
@[simp high] theorem zy6 {a b : Int} : aK P np id (.bin .and) [.sc (.int .u32 a),.sc (.int .u32 b)] h K=K (.sc (.int .u32 (u2 .and a b))) [] []:=k_u2 _ (.inr (.inr (.inl rfl)))
@[simp high] theorem zzE {a b : Int} : aK P np id (.bin .or) [.sc (.int .u32 a),.sc (.int .u32 b)] h K=K (.sc (.int .u32 (u2 .or a b))) [] []:=k_u2 _ (.inr (.inr (.inr rfl)))
theorem k_sh (op : BinOp) (ho : op = .shl∨op = .shr) {a n : Int} (hn : 0<=n) : aK P np id (.bin op) [.sc (.int .u32 a),.sc (.int .u64 n)] h K=K (.sc (.int .u32 (sh op a n))) [] []:=by
 refine propext ?_
 have e : binV op (.int .u32 a) (.int .u64 n)=some (.int .u32 (sh op a n)):=by
  rcases ho with rfl | rfl <;> simp [binV,sh,hn]
 constructor
 .rintro ⟨v,hv,hk⟩
  rw [e] at hv
  cases hv;exact hk
 .exact λ hk=>⟨_,e,hk⟩
@[simp high] theorem zzr {a n : Int} (hn : 0<=n) : aK P np id (.bin .shl) [.sc (.int .u32 a),.sc (.int .u64 n)] h K=K (.sc (.int .u32 (sh .shl a n))) [] []:=k_sh _ (.inl rfl) hn
@[simp high] theorem zzu {a n : Int} (hn : 0<=n) : aK P np id (.bin .shr) [.sc (.int .u32 a),.sc (.int .u64 n)] h K=K (.sc (.int .u32 (sh .shr a n))) [] []:=k_sh _ (.inr rfl) hn
@[simp high] theorem zzZ {a : Int} : aK P np id (.un .xor) [.sc (.int .u32 a)] h K=K (.sc (.int .u32 (nt a))) [] []:=by
 refine propext ⟨?_,λ hk=>⟨_,rfl,hk⟩⟩
 rintro ⟨v,hv,hk⟩
 cases hv;exact hk
end
def conK : List Int:=[1116352408,1899447441,3049323471,3921009573,961987163,1508970993,2453635748,2870763221,3624381080,310598401,607225278,1426881987,1925078388,2162078206,2614888103,3248222580,3835390401,4022224774,264347078,604807628,770255983,1249150122,1555081692,1996064986,2554220882,2821834349,2952996808,3210313671,3336571891,3584528711,113926993,338241895,666307205,773529912,1294757372,1396182291,1695183700,1986661051,2177026350,2456956037,2730485921,2820302411,3259730800,3345764771,3516065817,3600352804,4094571909,275423344,430227734,506948616,659060556,883997877,958139571,1322822218,1537002063,1747873779,1955562222,2024104815,2227730452,2361852424,2428436474,2756734187,3204031479,3329325298]
theorem ztM : conK.length=64:=rfl
abbrev gt (l : List Int) (i : Nat) : Int:=l.getD i 0
theorem zpK {l : List Int} {i n : Nat} (hl : l.length=n) (h : i<n) : ∃ (h : i<l.length),l[i]=gt l i:=by
 have h2 : i<l.length:=by omega
 exact ⟨h2,by simp [gt,h2]⟩
def zxJ (a b c d : Int) : Int:=u2 .or (u2 .or (u2 .or (sh .shl (IntKind.u32.wrap a) 24) (sh .shl (IntKind.u32.wrap b) 16)) (sh .shl (IntKind.u32.wrap c) 8)) (IntKind.u32.wrap d)
def s0F (x : Int) : Int:=u2 .xor (u2 .xor (zbK x 7) (zbK x 18)) (sh .shr x 3)
def s1F (x : Int) : Int:=u2 .xor (u2 .xor (zbK x 17) (zbK x 19)) (sh .shr x 10)
def w0F (B : List Int) : Nat->List Int
 | 0=>List.replicate 64 0
 | i+1=>(w0F B i).set i (zxJ (gt B (4*i)) (gt B (4*i+1)) (gt B (4*i+2)) (gt B (4*i+3)))
def w1F (B : List Int) : Nat->List Int
 | 0=>w0F B 16
 | i+1=>(w1F B i).set (i+16) (u2 .add (u2 .add (u2 .add (gt (w1F B i) i) (s0F (gt (w1F B i) (i+1)))) (gt (w1F B i) (i+9))) (s1F (gt (w1F B i) (i+14))))
def r3 (x a b c : Int) : Int:=u2 .xor (u2 .xor (zbK x a) (zbK x b)) (zbK x c)
def xF (v : List Int) (k w : Int) : Int:=u2 .add (u2 .add (u2 .add (u2 .add (gt v 7) (r3 (gt v 4) 6 11 25)) (u2 .xor (u2 .and (gt v 4) (gt v 5)) (u2 .and (nt (gt v 4)) (gt v 6)))) k) w
def mF (v : List Int) : Int:=u2 .xor (u2 .xor (u2 .and (gt v 0) (gt v 1)) (u2 .and (gt v 0) (gt v 2))) (u2 .and (gt v 1) (gt v 2))
def vF (H B C : List Int) : Nat->List Int
 | 0=>H
 | i+1 =>
   let v:=vF H B C i
   let x:=xF v (gt C i) (gt (w1F B 48) i)
   [u2 .add (u2 .add x (r3 (gt v 0) 2 13 22)) (mF v),gt v 0,gt v 1,gt v 2,u2 .add (gt v 3) x,gt v 4,gt v 5,gt v 6]
def oF (H B C : List Int) : Nat->List Int
 | 0=>vF H B C 64
 | i+1=>(oF H B C i).set i (u2 .add (gt (oF H B C i) i) (gt H i))
def zmF (H B C : List Int) : List Int:=oF H B C 8
theorem znR (B : List Int) : ∀ i,(w0F B i).length=64
 | 0=>by simp [w0F]
 | i+1=>by rw [w0F,Uy,znR B i]
theorem znB (B : List Int) : ∀ i,(w1F B i).length=64
 | 0=>znR B 16
 | i+1=>by rw [w1F,Uy,znB B i]
theorem zxk {H B C : List Int} (hH : H.length=8) : ∀ i,(vF H B C i).length=8
 | 0=>hH
 | i+1=>rfl
theorem zuU {H B C : List Int} (hH : H.length=8) : ∀ i,(oF H B C i).length=8
 | 0=>zxk hH 64
 | i+1=>by rw [oF,Uy,zuU hH i]
theorem Le.X1 {st st' : St} {X : List (List AV)} (hflat : ∀ ρ sn h m,X.map (List.map (conv ρ sn h (m+1)))=X) (i j : Nat) (sn : List Nat) (hsz : st'.sz=st.sz) (hh : st'.h=[(j,some ⟨1,X,0⟩)]) (hi : j<st'.n) (hs : ∀ j∈sn,j≠i) (h0 : st.hp i=some ⟨1,X,0⟩)
  (ht : ∀ p∈st'.t,Wk (conv [(i,j)] sn st.hp 4 (st.get p.1)) p.2) : Le 0 st st' :=
 Le.ren1 i j sn hsz hh hi hs h0 (by simp only [zaw,hflat]) (Qi _) ht
theorem zrZ {P : Program} {np : Nat} {α : Type} : ∀ (ops : List za7) (n i : Nat) (st : St) (tr : List (List Nat × List Nat)) (K : α->St->List (List Nat × List Nat)->Prop),zaO P np n i ops st tr (λ s t=>∃ x,K x s t) -> ∃ x,zaO P np n i ops st tr (K x):=by
 intro ops
 induction ops with
 | nil=>intro n i st tr K h; exact h
 | cons o os ih =>
   intro n i st tr K h
   have hgo : ∀ (op : AOp) (xs : List AV) (h : Nat->Option Ent) (F : AV->List Nat->List (Nat × Option Ent)->(St->List (List Nat × List Nat)->Prop)->Prop),
     (∀ v rd up,F v rd up (λ s t=>∃ x,K x s t) -> ∃ x,F v rd up (K x))->aK P np (n+8*i) op xs h (λ v rd up=>F v rd up (λ s t=>∃ x,K x s t)) -> ∃ x,aK P np (n+8*i) op xs h (λ v rd up=>F v rd up (K x)):=by
    intro op xs h F hF hk;obtain ⟨v,rd,up,h1,h2⟩:=znY hk;obtain ⟨x,hx⟩:=hF v rd up h1;refine ⟨x,zrf (λ a b c e=>?_) h2⟩;obtain ⟨rfl,rfl,rfl⟩:=e;exact hx
   unfold zaO at h ⊢
   cases hg : o.guard with
   | none =>
     simp only [hg] at h ⊢;exact hgo _ _ _ (λ v rd up K'=>zaO P np n (i+1) os ((st.put o.dst v).upd up) (tr++[(rd,up.map (·.1))]) K') (λ v rd up=>ih _ _ _ _ _) h
   | some gw =>
     obtain ⟨g,want⟩:=gw;simp only [hg] at h ⊢;obtain ⟨b,hb,h⟩:=h
     by_cases hbw : b=some want
     .rw [if_pos hbw] at h
      obtain ⟨x,hx⟩:=hgo _ _ _ (λ v rd up K'=>zaO P np n (i+1) os ((st.put o.dst v).upd up) (tr++[(rd,up.map (·.1))]) K') (λ v rd up=>ih _ _ _ _ _) h
      exact ⟨x,b,hb,by rw [if_pos hbw]; exact hx⟩
     .rw [if_neg hbw] at h
      obtain ⟨x,hx⟩:=ih _ _ _ _ _ h;exact ⟨x,b,hb,by rw [if_neg hbw]; exact hx⟩
theorem Le.trans' {np : Nat} {a b c : St} (h1 : Le np a b) (h2 : Le np b c) : Le np a c:=by
 intro T0 M0 w0 T M ac w ok hn;obtain ⟨T',M',ok',hn'⟩:=h1 T0 M0 w0 T M ac w ok hn;exact h2 T0 M0 w0 T' M' ac w ok' hn'
theorem zxc {P : Program} {np : Nat} : ∀ {c : zcW} {α : Type} {Q : α->zci->St->Prop} {st : St},awp P np c (λ e s=>∃ x,Q x e s) st -> ∃ x,awp P np c (Q x) st:=by
 intro c
 induction c with
 | skip=>intro α Q st h; exact h
 | reg draw ops after =>
   intro α Q st hw
   obtain ⟨x,hx⟩:=zrZ ops st.n 0 st [] (λ x st' tr=>(draw=true->zcM ops after tr=true)/\Q x .normal { st' with n:=st.n+8*ops.length })
    (zbj _ _ _ _ _ _ _ (λ s t h=>by obtain ⟨h1,x,h2⟩:=h; exact ⟨x,h1,h2⟩) hw.2)
   exact ⟨x,hw.1,hx⟩
 | seq a b iha ihb =>
   intro α Q st hw;refine iha (zcI (λ e s hs=>?_) hw)
   cases e with
   | normal =>
     obtain ⟨st2,hle,h2⟩:=hs;obtain ⟨x,hx⟩:=ihb h2;exact ⟨x,st2,hle,hx⟩
   | exit id=>exact hs
   | ret=>exact hs
 | cond c a b iha ihb =>
   intro α Q st hw;obtain ⟨t,ht,hw⟩:=hw
   cases t
   .obtain ⟨x,hx⟩:=ihb hw
    exact ⟨x,false,ht,hx⟩
   .obtain ⟨x,hx⟩:=iha hw
    exact ⟨x,true,ht,hx⟩
 | block id a iha =>
   intro α Q st hw;refine iha (zcI (λ e s hs=>?_) hw)
   cases e with
   | normal=>exact hs
   | exit id' =>
     simp only at hs ⊢
     by_cases hi : id'=id
     .simp only [if_pos hi] at hs ⊢; exact hs
     .simp only [if_neg hi] at hs ⊢; exact hs
   | ret=>exact hs
 | loop a iha =>
   intro α Q st hw;obtain ⟨I,⟨st0,k0,hle,hI⟩,hb⟩:=hw
   have key : ∀ k s,I k s -> ∃ x,awp P np (.loop a) (Q x) s:=by
    intro k
    induction k using Nat.strongRecOn with
    | ind k ihk =>
      intro s hs
      have hpre : awp P np a (λ e s'=>∃ y : { y : α × Nat × (Nat->St->Prop) // ∀ k' s',y.2.2 k' s'->awp P np a (λ e st'=>match e with | .normal=>∃ st2 k2,Le np st' st2/\y.2.2 k2 st2/\k2<k' | e=>Q y.1 e st') s' },
        match e with | .normal=>∃ st2,Le np s' st2/\y.1.2.2 y.1.2.1 st2 | e=>Q y.1.1 e s') s:=by
       refine zcI (λ e s' h=>?_) (hb k s hs)
       cases e with
       | normal =>
         obtain ⟨st2,k2,h1,h2,h3⟩:=h;obtain ⟨x,J,⟨st3,k3,h4,h5⟩,h6⟩:=ihk k2 h3 st2 h2;exact ⟨⟨(x,k3,J),h6⟩,st3,Le.trans' h1 h4,h5⟩
       | exit id=>obtain ⟨x,h⟩:=h; exact ⟨⟨(x,0,λ _ _=>False),λ _ _ h=>h.elim⟩,h⟩
       | ret=>obtain ⟨x,h⟩:=h; exact ⟨⟨(x,0,λ _ _=>False),λ _ _ h=>h.elim⟩,h⟩
      obtain ⟨⟨⟨x,q,J⟩,hJ⟩,hy⟩:=iha hpre;simp only at hJ hy;refine ⟨x,λ k' s'=>J k' s'∨(k'=q+1/\s'=s),⟨s,q+1,Le.refl _ _,.inr ⟨rfl,rfl⟩⟩,?_⟩
      rintro k' s' (h | ⟨rfl,rfl⟩)
      .refine zcI (λ e s2 h2=>?_) (hJ k' s' h)
       cases e with
       | normal=>obtain ⟨st2,k2,h1,h2,h3⟩:=h2; exact ⟨st2,k2,h1,.inl h2,h3⟩
       | exit id=>exact h2
       | ret=>exact h2
      .refine zcI (λ e s2 h2=>?_) hy
       cases e with
       | normal=>obtain ⟨st2,h1,h2⟩:=h2; exact ⟨st2,q,h1,.inl h2,Nat.lt_succ_self q⟩
       | exit id=>exact h2
       | ret=>exact h2
   obtain ⟨x,hx⟩:=key k0 st0 hI;obtain ⟨J,⟨s3,k3,h4,h5⟩,h6⟩:=hx;exact ⟨x,J,⟨s3,k3,Le.trans' hle h4,h5⟩,h6⟩
 | exit id=>intro α Q st h; exact h
 | ret=>intro α Q st h; exact h
 | bad=>intro α Q st h; exact h.elim
def zhs {α : Type} (rs : List (Nat × Option (Bool × Nat))) (np : Nat) (F : α->AV) (H : α->List (Option Ent)) (R : α->Prop) (e : zci) (st : St) : Prop:=(e = .normal∨e = .ret) /\ ∃ x,R x/\zao rs np st (F x) (H x)
theorem zhs.mk {α : Type} {rs : List (Nat × Option (Bool × Nat))} {np : Nat} {F : α->AV} {H : α->List (Option Ent)} {R : α->Prop} {e : zci} {st : St} (he : e = .normal∨e = .ret) (x : α) (hx : R x) (h : zao rs np st (F x) (H x)) : zhs rs np F H R e st:=⟨he,x,hx,h⟩
theorem Src.acallsX {P : Program} {f : FuncId} {af : AFun} (s : Src P f af) {α : Type} (F : α->AV) (H : α->List (Option Ent)) (R : α->Prop) {args : List AV} {hs : List Ent}
  (hnt : args.length<=af.nt) (hn16 : hs.length<=16) (hlen : ∀ x,hs.length<=(H x).length)
  (h : awp P hs.length af.code (zhs af.res hs.length F H R) (zep af args hs)) : ∃ x,R x/\zaU P f args hs (F x) (H x):=by
 obtain ⟨⟨x,hx⟩,hw⟩:=zxc (α:={ x : α // R x }) (Q:=λ x e st=>(e = .normal∨e = .ret)/\zao af.res hs.length st (F x.1) (H x.1)) (zcI (λ e st h=>by
  obtain ⟨h1,x,h2,h3⟩:=h
  exact ⟨⟨x,h2⟩,h1,h3⟩) h)
 exact ⟨x,hx,s.acalls hnt hn16 (hlen x) hw⟩
def idm (l : List Nat) : List (Nat × Nat):=l.map λ i=>(i,i)
def cutS (live keep sn : List Nat) (n : Nat) (st : St) : St :=
 ⟨st.sz,live.map (λ i=>(i,conv (idm keep) sn st.hp 4 (st.get i))),keep.map (λ i=>(i,(st.hp i).map (zaw (idm keep) sn st.hp 4))),n⟩
def roOk (keep : List Nat) (st : St) : Prop:=∀ i∈keep,∀ e,st.hp i=some e->e.ro<=e.rows.length
def zlV (np n : Nat) (ρ : List (Nat × Nat)) (sn : List Nat) : Bool :=
 decide (ρ.map (·.1)).Nodup && decide (ρ.map (·.2)).Nodup && ρ.all (λ p=>decide (p.2<n) && (decide (np<=p.2) || p.1 == p.2)) && sn.all (λ i=>decide (np<=i) && !(ρ.map (·.1)).contains i) && decide (np<=n)
theorem Le.go {np : Nat} {st st' : St} (ρ : List (Nat × Nat)) (sn : List Nat) (hsz : st'.sz=st.sz) (hside : zlV np st'.n ρ sn=true)
  (ht : ∀ p∈st'.t,Wk (conv ρ sn st.hp 4 (st.get p.1)) p.2) (hh : ∀ p∈st'.h,∃ q∈ρ,q.2=p.1/\(st.hp q.1).map (zaw ρ sn st.hp 4)=p.2 /\ ∀ e,p.2=some e->e.ro<=e.rows.length) : Le np st st':=by
 simp only [zlV,QT,List.all_eq_true,Qe,UK,beq_iff_eq,UA,List.contains_eq_mem,Qc] at hside;obtain ⟨⟨⟨⟨h1,h2⟩,h3⟩,h4⟩,h5⟩:=hside;refine Le.lst ρ sn [] hsz h1 h2 (λ p hp=>⟨(h3 p hp).1,λ hlt=>?_⟩) (by simp) (λ i hi=>h4 i hi) h5 (by simp) (λ p hp=>.inl (ht p hp)) λ p hp e' he'=>?_
 .rcases (h3 p hp).2 with h | h
  .omega
  .exact h
 .obtain ⟨q,hq,hq2,hm,hr⟩:=hh p hp
  rw [he'] at hm
  cases hs : st.hp q.1 with
  | none=>rw [hs] at hm; cases hm
  | some e =>
    rw [hs] at hm;have hm' : zaw ρ sn st.hp 4 e=e':=by simpa using hm
    exact .inl ⟨q,hq,hq2,e,hs,by rw [hm']; exact zaA.rfl' (hr e' he')⟩
theorem LeH {np : Nat} {st st' : St} (ρ : List (Nat × Nat)) (sn : List Nat) (hsz : st'.sz=st.sz:=by rfl) (hside : zlV np st'.n ρ sn=true:=by rfl) (ht : ∀ p∈st'.t,Wk (conv ρ sn st.hp 4 (st.get p.1)) p.2:=by simp) (hh : ∀ p∈st'.h,∃ q∈ρ,q.2=p.1/\(st.hp q.1).map (zaw ρ sn st.hp 4)=p.2 /\ ∀ e,p.2=some e->e.ro<=e.rows.length:=by simp) : Le np st st':=Le.go ρ sn hsz hside ht hh
theorem LeI {np : Nat} {st st' : St} (ρ : List (Nat × Nat)) (sn : List Nat) (hsz : st'.sz=st.sz:=by rfl) (hside : zlV np st'.n ρ sn=true:=by rfl) (ht : ∀ p∈st'.t,Wk (conv ρ sn st.hp 4 (st.get p.1)) p.2:=by simp) (hh : ∀ p∈st'.h,∃ q∈ρ,q.2=p.1/\(st.hp q.1).map (zaw ρ sn st.hp 4)=p.2 /\ ∀ e,p.2=some e->e.ro<=e.rows.length:=by simp [fcd]) : Le np st st':=Le.go ρ sn hsz hside ht hh
theorem Le.cut {np : Nat} {st : St} (live keep sn : List Nat) (n : Nat) (hside : zlV np n (idm keep) sn=true) (hr : roOk keep st) : Le np st (cutS live keep sn n st):=by
 refine Le.go (idm keep) sn rfl hside (λ p hp=>?_) λ p hp=>?_
 .obtain ⟨i,_,rfl⟩:=Qg.1 hp
  exact .refl _
 .obtain ⟨i,hi,rfl⟩:=Qg.1 hp
  refine ⟨(i,i),Qg.2 ⟨i,hi,rfl⟩,rfl,rfl,λ e he=>?_⟩;simp only at he
  cases hs : st.hp i with
  | none=>rw [hs] at he; cases he
  | some e0 =>
    rw [hs] at he;have he' : zaw (idm keep) sn st.hp 4 e0=e:=by simpa using he
    subst he';have:=hr i hi e0 hs
    simpa [zaw] using this
theorem rx {P : Program} {np : Nat} {ops : List za7} {Q : zci->St->Prop} {sz n : Nat} {t : List (Nat × AV)} {h : List (Nat × Option Ent)} {af : List (List Nat)} {b : zcW} {s : St} (live keep sn : List Nat)
  (hd : ((ops.all λ o=>o.dst.all (· < sz)) && zlV np (n+8*ops.length) (idm keep) sn)=true) (ho : zaO P np n 0 ops ⟨sz,t,h,n⟩ [] λ st' _=>roOk keep st'/\cutS live keep sn (n+8*ops.length) st'=s) (hq : awp P np b Q s) : awp P np (.seq (.reg false ops af) b) Q ⟨sz,t,h,n⟩:=by
 rw [QT] at hd;refine zaa s hd.1 (zbj _ _ _ _ _ _ _ (λ st' _ hc=>?_) ho) hq;obtain ⟨h1,rfl⟩:=hc;exact Le.cut (st:=⟨st'.sz,st'.t,st'.h,n+8*ops.length⟩) live keep sn _ hd.2 h1
theorem rs {P : Program} {np : Nat} {ops : List za7} {Q : zci->St->Prop} {sz n : Nat} {t : List (Nat × AV)} {h : List (Nat × Option Ent)} {af : List (List Nat)} {b : zcW} {s : St} (live keep sn : List Nat) (hq : awp P np b Q s)
  (hd : ((ops.all λ o=>o.dst.all (· < sz)) && zlV np (n+8*ops.length) (idm keep) sn)=true:=by rfl) (ho : zaO P np n 0 ops ⟨sz,t,h,n⟩ [] (λ st' _=>roOk keep st'/\cutS live keep sn (n+8*ops.length) st'=s):=by simp; rfl) : awp P np (.seq (.reg false ops af) b) Q ⟨sz,t,h,n⟩:=rx live keep sn hd ho hq
theorem rxd {P : Program} {np : Nat} {ops : List za7} {Q : zci->St->Prop} {sz n : Nat} {t : List (Nat × AV)} {h : List (Nat × Option Ent)} {af : List (List Nat)} {b : zcW} {s : St} (live keep sn : List Nat)
  (hd : ((ops.all λ o=>o.dst.all (· < sz)) && zlV np (n+8*ops.length) (idm keep) sn)=true) (ho : zaO P np n 0 ops ⟨sz,t,h,n⟩ [] λ st' tr=>Ord ops af tr/\roOk keep st'/\cutS live keep sn (n+8*ops.length) st'=s) (hq : awp P np b Q s) : awp P np (.seq (.reg true ops af) b) Q ⟨sz,t,h,n⟩:=by
 rw [QT] at hd;refine zas s hd.1 (zbj _ _ _ _ _ _ _ (λ st' _ hc=>?_) ho) hq;obtain ⟨h0,h1,rfl⟩:=hc;exact ⟨h0,Le.cut (st:=⟨st'.sz,st'.t,st'.h,n+8*ops.length⟩) live keep sn _ hd.2 h1⟩
def cutK (live keep : List Nat) (n : Nat) (st : St) : St:=⟨st.sz,live.map (λ i=>(i,st.get i)),keep.map (λ i=>(i,st.hp i)),n⟩
theorem Le.cutk {np : Nat} {st : St} (live keep : List Nat) (n : Nat) (hn : st.n<=n) : Le np st (cutK live keep n st) :=
 Le.keep rfl hn (λ p hp=>by obtain ⟨i,_,rfl⟩:=Qg.1 hp; rfl) λ p hp e he=>by
  obtain ⟨i,_,rfl⟩:=Qg.1 hp;exact he
theorem rk {P : Program} {np : Nat} {ops : List za7} {Q : zci->St->Prop} {sz n : Nat} {t : List (Nat × AV)} {h : List (Nat × Option Ent)} {af : List (List Nat)} {b : zcW} {s : St} (live keep : List Nat)
  (hd : (ops.all λ o=>o.dst.all (· < sz))=true) (ho : zaO P np n 0 ops ⟨sz,t,h,n⟩ [] λ st' _=>cutK live keep (n+8*ops.length) st'=s) (hq : awp P np b Q s) : awp P np (.seq (.reg false ops af) b) Q ⟨sz,t,h,n⟩:=by
 refine zaa s hd (zbj _ _ _ _ _ _ _ (λ st' _ hc=>?_) ho) hq;subst hc;exact Le.cutk (st:=⟨st'.sz,st'.t,st'.h,n+8*ops.length⟩) live keep _ (Ql _)
@[simp] theorem zyP : idm []=[]:=(rfl)
@[simp] theorem zxT {i : Nat} {l : List Nat} : idm (i::l)=(i,i)::idm l:=(rfl)
@[simp] theorem zx7 {st : St} : roOk [] st=True:=by simp [roOk]
@[simp] theorem zxz {i : Nat} {l : List Nat} {st : St} : roOk (i::l) st=((∀ e,st.hp i=some e->e.ro<=e.rows.length)/\roOk l st):=by simp [roOk]
@[simp] theorem zxR {live keep sn : List Nat} {n sz m : Nat} {t : List (Nat × AV)} {h : List (Nat × Option Ent)} : cutS live keep sn n ⟨sz,t,h,m⟩=⟨sz,live.map (λ i=>(i,conv (idm keep) sn (St.mk sz t h m).hp 4 ((St.mk sz t h m).get i))),keep.map (λ i=>(i,((St.mk sz t h m).hp i).map (zaw (idm keep) sn (St.mk sz t h m).hp 4))),n⟩:=(rfl)
@[simp] theorem zxY {live keep : List Nat} {n sz m : Nat} {t : List (Nat × AV)} {h : List (Nat × Option Ent)} : cutK live keep n ⟨sz,t,h,m⟩=⟨sz,live.map (λ i=>(i,(St.mk sz t h m).get i)),keep.map (λ i=>(i,(St.mk sz t h m).hp i)),n⟩:=(rfl)
theorem zpC (a b : Int) : u2 .or a b=u2 .or b a:=by
 unfold u2 binV;simp [Nat.or_comm]
theorem zjz (a b : Int) : u2 .add a b=IntKind.u32.wrap (a+b):=rfl
theorem zn0 (a b : Int) : u2 .add a b=u2 .add b a:=by rw [zjz,zjz,Int.add_comm]
theorem zmn (a b c : Int) : u2 .add (u2 .add a b) c=u2 .add a (u2 .add b c):=by
 rw [zjz,zjz,zjz,zjz,IntKind.wrap_u32,IntKind.wrap_u32,IntKind.wrap_u32,IntKind.wrap_u32];omega
theorem zeV (x n s : Int) (h1 : IntKind.i64.wrap (-n) = -n) (h3 : binV .and (.int .u64 (IntKind.u64.wrap (-n))) (.int .u64 31)=some (.int .u64 s)) (h4 : 0<=s) (h5 : IntKind.u64.wrap (32 - s)=n) (hn : 0<=n) (hs : 32 - n=s) : AcP 227 [wd x,.I n] [] (wd (zbK x n)) []:=by
 have hrot : AcP 228 [wd x,.I (-n)] [] (wd (zbK x n)) []:=by
  refine zdW.s.ac ?_;show awp _ 0 _ _ ⟨17,[(0,wd x),(1,.I (-n))],[],16⟩;refine zab (zam ?_);refine zaa ⟨17,[(0,wd x),(5,.sc (.int .u64 s))],[],100⟩ rfl ?_ ?_
  .simp [-binV]
   refine ⟨_,h3,?_⟩;exact Le.snap [] rfl rfl (by simp)
  refine zaa ⟨17,[(4,wd (zbK x n))],[],300⟩ rfl ?_ ?_
  .simp [h4,h5,hn]
   exact Le.snap [] rfl rfl (by simp [zbK,hs]; rw [zpC]; exact .refl _)
  exact zaI
 refine zec.s.ac ?_;show awp _ 0 _ _ ⟨9,[(0,wd x),(1,.I n)],[],16⟩;refine rs [0,1] [] [] ?_;refine zaa ⟨9,[(4,wd (zbK x n))],[],300⟩ rfl ?_ ?_
 .simp [h1]
  refine cl0 hrot ?_;simp;exact Le.snap [] rfl rfl (by simp)
 exact zaI
theorem zyC (x : Int) : AcP 227 [wd x,.I 7] [] (wd (zbK x 7)) []:=zeV x 7 25 rfl rfl (by decide) rfl (by decide) rfl
theorem zwR (x : Int) : AcP 227 [wd x,.I 18] [] (wd (zbK x 18)) []:=zeV x 18 14 rfl rfl (by decide) rfl (by decide) rfl
theorem zxa (x : Int) : AcP 227 [wd x,.I 17] [] (wd (zbK x 17)) []:=zeV x 17 15 rfl rfl (by decide) rfl (by decide) rfl
theorem zxm (x : Int) : AcP 227 [wd x,.I 19] [] (wd (zbK x 19)) []:=zeV x 19 13 rfl rfl (by decide) rfl (by decide) rfl
theorem zyM (x : Int) : AcP 227 [wd x,.I 6] [] (wd (zbK x 6)) []:=zeV x 6 26 rfl rfl (by decide) rfl (by decide) rfl
theorem zwo (x : Int) : AcP 227 [wd x,.I 11] [] (wd (zbK x 11)) []:=zeV x 11 21 rfl rfl (by decide) rfl (by decide) rfl
theorem zwA (x : Int) : AcP 227 [wd x,.I 25] [] (wd (zbK x 25)) []:=zeV x 25 7 rfl rfl (by decide) rfl (by decide) rfl
theorem zyV (x : Int) : AcP 227 [wd x,.I 2] [] (wd (zbK x 2)) []:=zeV x 2 30 rfl rfl (by decide) rfl (by decide) rfl
theorem zxl (x : Int) : AcP 227 [wd x,.I 13] [] (wd (zbK x 13)) []:=zeV x 13 19 rfl rfl (by decide) rfl (by decide) rfl
theorem zwn (x : Int) : AcP 227 [wd x,.I 22] [] (wd (zbK x 22)) []:=zeV x 22 10 rfl rfl (by decide) rfl (by decide) rfl
abbrev wdl (l : List Int) : List AV:=l.map wd
theorem zcz {l : List Int} {i n : Nat} (hl : l.length=n) (h : i<n) : (wdl l).drop i=wd (gt l i)::(wdl l).drop (i+1):=by
 have h2 : i<(wdl l).length:=by simp [hl,h]
 rw [QQ h2];obtain ⟨h3,h4⟩:=zpK hl h;simp [h4]
theorem zos {l : List Int} {i : Nat} {z : Int} (h : i<l.length) : zat (wdl l) i [wd z]=wdl (l.set i z):=by
 unfold zat;rw [wdl,wdl,List.map_set,List.set_eq_take_append_cons_drop,if_pos (by simpa using h)]
 simp
theorem zvt {l : List Int} (h : l.length=8) : ∃ a b c d e f g k,l=[a,b,c,d,e,f,g,k]:=by
 match l,h with
 | [a,b,c,d,e,f,g,k],_=>exact ⟨a,b,c,d,e,f,g,k,rfl⟩
def oS (H V : List Int) : Nat->List Int
 | 0=>H
 | i+1=>(oS H V i).set i (u2 .add (gt H i) (gt V i))
theorem zuS (H V : List Int) : ∀ i,(oS H V i).length=H.length
 | 0=>rfl
 | i+1=>by rw [oS,Uy]; exact zuS H V i
theorem zwz (H V : List Int) : ∀ i j,i<=j->gt (oS H V i) j=gt H j
 | 0,_,_=>rfl
 | i+1,j,h=>by
   rw [<- zwz H V i j (by omega),oS,gt,gt,List.getD,List.getElem?_set_ne (by omega)]
   rfl
theorem zyf {H B C : List Int} (hH : H.length=8) (hV : (vF H B C 64).length=8) : oS H (vF H B C 64) 8=oF H B C 8:=by
 have h0 : oF H B C 0=vF H B C 64:=rfl;obtain ⟨a,b,c,d,e,f,g,k,rfl⟩:=zvt hH;obtain ⟨a',b',c',d',e',f',g',k',hv⟩:=zvt hV;generalize hO : oF [a,b,c,d,e,f,g,k] B C=O;have hs : ∀ i,O (i+1)=(O i).set i (u2 .add (gt (O i) i) (gt [a,b,c,d,e,f,g,k] i)):=λ i=>by rw [<- hO]; rfl
 rw [hO] at h0;rw [hv] at h0 ⊢;simp [hs,h0,oS,gt];simp [zn0]
theorem zt1 (H B C : List Int) (hH : H.length=8) (hB : B.length=64) (hC : C.length=64) : AcP 220 [.pt 0 0 0,bys B,.pv (wdl C)] [⟨8,[wdl H],0⟩] (.tup []) [some ⟨8,[wdl (zmF H B C)],0⟩]:=by
 refine zfl.s.ac ?_;show awp _ 1 _ _ ⟨211,[(0,.pt 0 0 0),(1,bys B),(2,.pv (wdl C))],[(0,some ⟨8,[wdl H],0⟩)],16⟩;refine zaa ⟨211,[(0,.pt 0 0 0),(1,bys B),(2,.pv (wdl C)),(6,.pt 24 0 0)],[(0,some ⟨8,[wdl H],0⟩),(24,some ⟨64,[wdl (w0F B 0)],0⟩)],100⟩ rfl ?_ ?_
 .simp
  exact Le.go [(0,0),(16,24)] [] rfl rfl (by simp) (by simp [w0F])
 refine zab (zaa ⟨211,[(0,.pt 0 0 0),(1,bys B),(2,.pv (wdl C)),(6,.pt 24 0 0),(19,.I 0)],[(0,some ⟨8,[wdl H],0⟩),(24,some ⟨64,[wdl (w0F B 0)],0⟩)],200⟩ rfl ?_ ?_)
 .simp
  exact LeH [(0,0),(24,24)] []
 refine zad (zaj (ι:=Nat) (λ i=>⟨211,[(0,.pt 0 0 0),(1,bys B),(2,.pv (wdl C)),(6,.pt 24 0 0),(19,.I i)],[(0,some ⟨8,[wdl H],0⟩),(24,some ⟨64,[wdl (w0F B i)],0⟩)],300⟩) (λ i=>i<=16) (λ i=>16 - i) 0 (by omega) (LeH [(0,0),(24,24)] []) ?_)
 intro i hi;refine zaa ⟨211,[(0,.pt 0 0 0),(1,bys B),(2,.pv (wdl C)),(6,.pt 24 0 0),(19,.I i),(20,.B (decide (i<16)))],[(0,some ⟨8,[wdl H],0⟩),(24,some ⟨64,[wdl (w0F B i)],0⟩)],400⟩ rfl ?_ ?_
 .simp
  exact Le.go [(0,0),(24,24)] [] rfl rfl (by simp <;> exact wkB (by rw [QE]; simp; omega)) (by simp)
 refine zab (zac _ rfl (λ h=>zae ?_) λ h=>zai (hit ?_))
 .rw [Qe] at h
  refine zap (ι:=Unit) (λ _=>⟨211,[(0,.pt 0 0 0),(1,bys B),(2,.pv (wdl C)),(6,.pt 24 0 0),(19,.I i)],[(0,some ⟨8,[wdl H],0⟩),(24,some ⟨64,[wdl (w0F B (i+1))],0⟩)],1000⟩) (λ _=>True) ?_ λ _ _=>?_
  .obtain ⟨p,hp⟩ : ∃ p,p=4*i:=⟨_,rfl⟩
   obtain ⟨p1,hp1⟩ : ∃ q,q=p+1:=⟨_,rfl⟩;obtain ⟨p2,hp2⟩ : ∃ q,q=p+2:=⟨_,rfl⟩;obtain ⟨p3,hp3⟩ : ∃ q,q=p+3:=⟨_,rfl⟩;have hw0 : IntKind.i64.wrap (4*(i : Int))=(p : Int):=by rw [w6]; omega
   have hw1 : IntKind.i64.wrap ((p : Int)+1)=(p1 : Int):=by rw [w6]; omega
   have hw2 : IntKind.i64.wrap ((p : Int)+2)=(p2 : Int):=by rw [w6]; omega
   have hw3 : IntKind.i64.wrap ((p : Int)+3)=(p3 : Int):=by rw [w6]; omega
   obtain ⟨l0,g0⟩:=zpK hB (show p<64 by omega)
   obtain ⟨l1,g1⟩:=zpK hB (show p1<64 by omega)
   obtain ⟨l2,g2⟩:=zpK hB (show p2<64 by omega)
   obtain ⟨l3,g3⟩:=zpK hB (show p3<64 by omega)
   have hwl : (w0F B i).length=64:=znR B i;obtain ⟨z,hz⟩ : ∃ z,z=zxJ (gt B p) (gt B p1) (gt B p2) (gt B p3):=⟨_,rfl⟩
   have hs : zat (wdl (w0F B i)) i [wd z]=wdl (w0F B (i+1)):=by
    rw [zos (by omega),w0F,hz,hp1,hp2,hp3,hp]
   rw [<- hs];have hXl : (wdl (w0F B i)).length=64:=by simp [hwl]
   have hXc : ∀ ρ sn h,(wdl (w0F B i)).map (conv ρ sn h 4)=wdl (w0F B i):=λ ρ sn h=>by simp [fcd]
   generalize wdl (w0F B i)=X at *;generalize hc0 : gt B p=c0 at *;generalize hc1 : gt B p1=c1 at *;generalize hc2 : gt B p2=c2 at *;generalize hc3 : gt B p3=c3 at *;refine zad (zaa ⟨211,[(0,.pt 0 0 0),(1,bys B),(2,.pv (wdl C)),(6,.pt 24 0 0),(7,.I i),(19,.I i)],[(0,some ⟨8,[wdl H],0⟩),(24,some ⟨64,[X],0⟩)],500⟩ rfl ?_ ?_)
   .simp
    exact Le.go [(0,0),(24,24)] [] rfl rfl (by simp) (by simp [hXc])
   refine zaP rfl ?_;simp [-zat,hw0,hw1,hw2,hw3,l0,l1,l2,l3,g0,g1,g2,g3,h,show (i : Int)<64 by omega,show i<64 by omega,hXl]
   have hz2 : u2 .or (u2 .or (u2 .or (sh .shl (IntKind.u32.wrap c0) 24) (sh .shl (IntKind.u32.wrap c1) 16)) (sh .shl (IntKind.u32.wrap c2) 8)) (IntKind.u32.wrap c3)=z:=hz.symm;simp only [hz2];refine ⟨by omega,rfl,?_⟩
   have hXz : ∀ ρ sn h,(zat X i [wd z]).map (conv ρ sn h 4)=zat X i [wd z]:=λ ρ sn h=>by unfold zat; simp only [Q4,List.map_take,List.map_drop,hXc]; simp
   exact Le.go [(0,0),(24,24)] [] rfl rfl (by simp) (by simp [-zat,hXz])
  have hwi : IntKind.i64.wrap ((i : Int)+1)=((i+1 : Nat) : Int):=by rw [w6]; omega
  refine zan rfl ?_;simp [hwi];exact ⟨i+1,by omega,by omega,LeH [(0,0),(24,24)] []⟩
 rw [Qc] at h;obtain rfl : i=16:=by omega
 refine zaa ⟨211,[(0,.pt 0 0 0),(2,.pv (wdl C)),(6,.pt 24 0 0),(8,.fn (.func 227) [] [])],[(0,some ⟨8,[wdl H],0⟩),(24,some ⟨64,[wdl (w1F B 0)],0⟩)],2000⟩ rfl ?_ ?_
 .simp
  exact Le.go [(0,0),(24,24)] [] rfl rfl (by simp) (by simp [w1F])
 refine zab (zaa ⟨211,[(0,.pt 0 0 0),(2,.pv (wdl C)),(6,.pt 24 0 0),(8,.fn (.func 227) [] []),(9,.I ((0+16 : Nat) : Int))],[(0,some ⟨8,[wdl H],0⟩),(24,some ⟨64,[wdl (w1F B 0)],0⟩)],2100⟩ rfl ?_ ?_)
 .simp
  exact LeH [(0,0),(24,24)] []
 refine zad (zaj (ι:=Nat) (λ i=>⟨211,[(0,.pt 0 0 0),(2,.pv (wdl C)),(6,.pt 24 0 0),(8,.fn (.func 227) [] []),(9,.I ((i+16 : Nat) : Int))],[(0,some ⟨8,[wdl H],0⟩),(24,some ⟨64,[wdl (w1F B i)],0⟩)],2200⟩) (λ i=>i<=48) (λ i=>48 - i) 0 (by omega) (LeH [(0,0),(24,24)] []) ?_)
 intro i hi;obtain ⟨m,hm⟩ : ∃ m,m=i+16:=⟨_,rfl⟩;rw [<- hm];refine zab (zaa ⟨211,[(0,.pt 0 0 0),(2,.pv (wdl C)),(6,.pt 24 0 0),(8,.fn (.func 227) [] []),(9,.I m),(59,.B (decide (i<48)))],[(0,some ⟨8,[wdl H],0⟩),(24,some ⟨64,[wdl (w1F B i)],0⟩)],2300⟩ rfl ?_ ?_)
 .simp
  exact Le.go [(0,0),(24,24)] [] rfl rfl (by simp <;> exact wkB (by rw [QE]; simp; omega)) (by simp)
 refine zac _ rfl (λ h=>zae ?_) λ h=>zai (hit ?_)
 .rw [Qe] at h
  refine zap (ι:=Unit) (λ _=>⟨211,[(0,.pt 0 0 0),(2,.pv (wdl C)),(6,.pt 24 0 0),(8,.fn (.func 227) [] []),(9,.I m)],[(0,some ⟨8,[wdl H],0⟩),(24,some ⟨64,[wdl (w1F B (i+1))],0⟩)],4000⟩) (λ _=>True) ?_ λ _ _=>?_
  .have hw15 : IntKind.i64.wrap ((m : Int) - 15)=((i+1 : Nat) : Int):=by rw [w6]; omega
   have hw2 : IntKind.i64.wrap ((m : Int) - 2)=((i+14 : Nat) : Int):=by rw [w6]; omega
   have hw16 : IntKind.i64.wrap ((m : Int) - 16)=((i : Nat) : Int):=by rw [w6]; omega
   have hw7 : IntKind.i64.wrap ((m : Int) - 7)=((i+9 : Nat) : Int):=by rw [w6]; omega
   have hlen:=znB B i;have d15:=zcz hlen (show i+1<64 by omega)
   have d2:=zcz hlen (show i+14<64 by omega)
   have d16:=zcz hlen (show i<64 by omega)
   have d7:=zcz hlen (show i+9<64 by omega)
   obtain ⟨z,hz⟩ : ∃ z,z=u2 .add (u2 .add (u2 .add (gt (w1F B i) i) (s0F (gt (w1F B i) (i+1)))) (gt (w1F B i) (i+9))) (s1F (gt (w1F B i) (i+14))):=⟨_,rfl⟩
   have hs : zat (wdl (w1F B i)) m [wd z]=wdl (w1F B (i+1)):=by
    rw [zos (by omega),hz,hm]
    rfl
   rw [<- hs];have hXl : (wdl (w1F B i)).length=64:=by simp [hlen]
   have hXc : ∀ ρ sn h,(wdl (w1F B i)).map (conv ρ sn h 4)=wdl (w1F B i):=λ ρ sn h=>by simp [fcd]
   generalize gt (w1F B i) (i+1)=a15 at *;generalize gt (w1F B i) (i+14)=a2 at *;generalize gt (w1F B i) i=a16 at *;generalize gt (w1F B i) (i+9)=a7 at *;generalize wdl (w1F B i)=X at *;obtain ⟨q15,hq15⟩ : ∃ q,q=i+1:=⟨_,rfl⟩;obtain ⟨q2,hq2⟩ : ∃ q,q=i+14:=⟨_,rfl⟩;obtain ⟨q7,hq7⟩ : ∃ q,q=i+9:=⟨_,rfl⟩;rw [<- hq15] at hw15 d15;rw [<- hq2] at hw2 d2;rw [<- hq7] at hw7 d7;generalize List.drop (q15+1) X=R15 at d15;generalize List.drop (q2+1) X=R2 at d2;generalize List.drop (i+1) X=R16 at d16;generalize List.drop (q7+1) X=R7 at d7;refine zad (zas ⟨211,[(0,.pt 0 0 0),(2,.pv (wdl C)),(6,.pt 24 0 0),(8,.fn (.func 227) [] []),(9,.I m),(10,wd a15),(11,wd a2)],[(0,some ⟨8,[wdl H],0⟩),(24,some ⟨64,[X],0⟩)],2600⟩ rfl ?_ ?_)
   .simp [hw15,hw2,d15,d2,show q15<64 by omega,show (q15 : Int)<64 by omega,show q2<64 by omega,show (q2 : Int)<64 by omega]
    exact ⟨rfl,Le.go [(0,0),(24,24)] [] rfl rfl (by simp) (by simp [hXc])⟩
   refine zaP rfl ?_;simp [-zat,hw16,hw7,d16,d7,hXl,show i<64 by omega,show (i : Int)<64 by omega,show q7<64 by omega,show (q7 : Int)<64 by omega]
   refine cl0 (zyC a15) ?_;simp [-zat,hw16,hw7,d16,d7,hXl,show i<64 by omega,show (i : Int)<64 by omega,show q7<64 by omega,show (q7 : Int)<64 by omega]
   refine cl0 (zwR a15) ?_;simp [-zat,hw16,hw7,d16,d7,hXl,show i<64 by omega,show (i : Int)<64 by omega,show q7<64 by omega,show (q7 : Int)<64 by omega]
   refine cl0 (zxa a2) ?_;simp [-zat,hw16,hw7,d16,d7,hXl,show i<64 by omega,show (i : Int)<64 by omega,show q7<64 by omega,show (q7 : Int)<64 by omega]
   refine cl0 (zxm a2) ?_;simp [-zat,hw16,hw7,d16,d7,hXl,show i<64 by omega,show (i : Int)<64 by omega,show m<64 by omega,show (m : Int)<64 by omega,show q7<64 by omega,show (q7 : Int)<64 by omega]
   have hz2 : u2 .add (u2 .add (u2 .add a16 (u2 .xor (u2 .xor (zbK a15 7) (zbK a15 18)) (sh .shr a15 3))) a7) (u2 .xor (u2 .xor (zbK a2 17) (zbK a2 19)) (sh .shr a2 10))=z:=hz.symm;simp only [hz2];refine ⟨by omega,rfl,?_⟩
   have hXz : ∀ ρ sn h,(zat X m [wd z]).map (conv ρ sn h 4)=zat X m [wd z]:=λ ρ sn h=>by unfold zat; simp only [Q4,List.map_take,List.map_drop,hXc]; simp
   exact Le.go [(0,0),(24,24)] [] rfl rfl (by simp) (by simp [-zat,hXz])
  have hwi : IntKind.i64.wrap ((m : Int)+1)=((i+1+16 : Nat) : Int):=by rw [w6]; omega
  refine zan rfl ?_;simp [hwi];exact ⟨i+1,by omega,by omega,LeH [(0,0),(24,24)] []⟩
 rw [Qc] at h;obtain rfl : i=48:=by omega
 have hWl : (w1F B 48).length=64:=znB B 48;have hvs : ∀ i,vF H B C (i+1)=[u2 .add (u2 .add (xF (vF H B C i) (gt C i) (gt (w1F B 48) i)) (r3 (gt (vF H B C i) 0) 2 13 22)) (mF (vF H B C i)),gt (vF H B C i) 0,gt (vF H B C i) 1,gt (vF H B C i) 2,u2 .add (gt (vF H B C i) 3) (xF (vF H B C i) (gt C i) (gt (w1F B 48) i)),gt (vF H B C i) 4,gt (vF H B C i) 5,gt (vF H B C i) 6]:=λ i=>rfl;obtain ⟨W,hW⟩ : ∃ W,W=w1F B 48:=⟨_,rfl⟩;rw [<- hW] at hWl ⊢;simp only [<- hW] at hvs;have hv0 : vF H B C 0=H:=rfl;have hVl : ∀ i,(vF H B C i).length=8:=λ i=>by cases i with | zero=>exact hH | succ i=>rfl
 have hbe : zmF H B C=oS H (vF H B C 64) 8:=(zyf hH (hVl 64)).symm;rw [hbe];obtain ⟨V,hV⟩ : ∃ V,V=vF H B C:=⟨_,rfl⟩;rw [<- hV] at hvs hv0 hVl hbe ⊢;refine zaa ⟨211,[(0,.pt 0 0 0),(2,.pv (wdl C)),(6,.pv (wdl W)),(8,.fn (.func 227) [] []),(12,.pt 40 0 0)],[(0,some ⟨8,[wdl H],0⟩),(40,some ⟨8,[wdl (V 0)],0⟩)],5000⟩ rfl ?_ ?_
 .have htk8 : ∀ f : Int->AV,(H.map f).take 8=H.map f:=λ f=>Qb (by simp [hH])
  simp [hH,zat];exact Le.go [(0,0),(2324,40)] [24] rfl rfl (by simp [fcd]) (by simp [fcd,hv0,htk8])
 refine zab (zaa ⟨211,[(0,.pt 0 0 0),(2,.pv (wdl C)),(6,.pv (wdl W)),(8,.fn (.func 227) [] []),(12,.pt 40 0 0),(106,.I 0)],[(0,some ⟨8,[wdl H],0⟩),(40,some ⟨8,[wdl (V 0)],0⟩)],5100⟩ rfl ?_ ?_)
 .simp
  exact Le.go [(0,0),(40,40)] [] rfl rfl (by simp [fcd]) (by simp [fcd])
 refine zad (zaj (ι:=Nat) (λ i=>⟨211,[(0,.pt 0 0 0),(2,.pv (wdl C)),(6,.pv (wdl W)),(8,.fn (.func 227) [] []),(12,.pt 40 0 0),(106,.I i)],[(0,some ⟨8,[wdl H],0⟩),(40,some ⟨8,[wdl (V i)],0⟩)],5200⟩) (λ i=>i<=64) (λ i=>64 - i) 0 (by omega) (Le.go [(0,0),(40,40)] [] rfl rfl (by simp [fcd]) (by simp [fcd])) ?_)
 intro i hi;refine zaa ⟨211,[(0,.pt 0 0 0),(2,.pv (wdl C)),(6,.pv (wdl W)),(8,.fn (.func 227) [] []),(12,.pt 40 0 0),(106,.I i),(107,.B (decide (i<64)))],[(0,some ⟨8,[wdl H],0⟩),(40,some ⟨8,[wdl (V i)],0⟩)],5300⟩ rfl ?_ ?_
 .simp
  exact Le.go [(0,0),(40,40)] [] rfl rfl (by simp [fcd] <;> exact wkB (by rw [QE]; simp; omega)) (by simp [fcd])
 refine zab (zac _ rfl (λ h=>zae ?_) λ h=>zai (hit ?_))
 .rw [Qe] at h
  have hwi : IntKind.i64.wrap ((i : Int)+1)=((i+1 : Nat) : Int):=by rw [w6]; omega
  have hvi:=hvs i;obtain ⟨v0,v1,v2,v3,v4,v5,v6,v7,hv⟩:=zvt (hVl i);have dC:=zcz hC h;have dW:=zcz hWl h;have hCl : (wdl C).length=64:=by simp [hC]
  have hWl2 : (wdl W).length=64:=by simp [hWl]
  rw [hv] at hvi ⊢;obtain ⟨kc,hkc⟩ : ∃ kc,kc=gt C i:=⟨_,rfl⟩;obtain ⟨kw,hkw⟩ : ∃ kw,kw=gt W i:=⟨_,rfl⟩;rw [<- hkc] at hvi dC;rw [<- hkw] at hvi dW;have hxF : xF [v0,v1,v2,v3,v4,v5,v6,v7] kc kw=u2 .add (u2 .add (u2 .add (u2 .add v7 (u2 .xor (u2 .xor (zbK v4 6) (zbK v4 11)) (zbK v4 25))) (u2 .xor (u2 .and v4 v5) (u2 .and (nt v4) v6))) kc) kw:=rfl;have hmF : mF [v0,v1,v2,v3,v4,v5,v6,v7]=u2 .xor (u2 .xor (u2 .and v0 v1) (u2 .and v0 v2)) (u2 .and v1 v2):=rfl;obtain ⟨tt,htt⟩ : ∃ tt,tt=xF [v0,v1,v2,v3,v4,v5,v6,v7] kc kw:=⟨_,rfl⟩;obtain ⟨uu,huu⟩ : ∃ uu,uu=u2 .add (r3 v0 2 13 22) (mF [v0,v1,v2,v3,v4,v5,v6,v7]):=⟨_,rfl⟩;have hr3 : r3 v0 2 13 22=u2 .xor (u2 .xor (zbK v0 2) (zbK v0 13)) (zbK v0 22):=rfl
  have hvn : V (i+1)=[u2 .add tt uu,v0,v1,v2,u2 .add v3 tt,v4,v5,v6]:=by
   rw [hvi,zmn];rw [<- htt];rw [huu];rfl
  rw [hxF] at htt;rw [hr3,hmF] at huu;replace htt:=htt.symm;replace huu:=huu.symm;generalize List.drop (i+1) (wdl C)=RC at dC;generalize List.drop (i+1) (wdl W)=RW at dW;refine zap (ι:=Unit) (λ _=>⟨211,[(0,.pt 0 0 0),(2,.pv (wdl C)),(6,.pv (wdl W)),(8,.fn (.func 227) [] []),(12,.pt 40 0 0),(106,.I i)],[(0,some ⟨8,[wdl H],0⟩),(40,some ⟨8,[wdl (V (i+1))],0⟩)],8000⟩) (λ _=>True) ?_ λ _ _=>?_
  .rw [hvn]
   refine zad (zaa ⟨211,[(0,.pt 0 0 0),(2,.pv (wdl C)),(6,.pv (wdl W)),(8,.fn (.func 227) [] []),(12,.pt 40 0 0),(13,.I i),(106,.I i)],[(0,some ⟨8,[wdl H],0⟩),(40,some ⟨8,[wdl [v0,v1,v2,v3,v4,v5,v6,v7]],0⟩)],5500⟩ rfl ?_ ?_)
   .simp
    exact Le.go [(0,0),(40,40)] [] rfl rfl (by simp [fcd]) (by simp [fcd])
   refine zas ⟨211,[(0,.pt 0 0 0),(2,.pv (wdl C)),(6,.pv (wdl W)),(8,.fn (.func 227) [] []),(12,.pt 40 0 0),(13,.I i),(14,wd v0),(15,wd v4),(106,.I i)],[(0,some ⟨8,[wdl H],0⟩),(40,some ⟨8,[wdl [v0,v1,v2,v3,v4,v5,v6,v7]],0⟩)],5600⟩ rfl ?_ ?_
   .simp
    exact ⟨rfl,Le.go [(0,0),(40,40)] [] rfl rfl (by simp [fcd]) (by simp [fcd])⟩
   refine zas ⟨211,[(0,.pt 0 0 0),(2,.pv (wdl C)),(6,.pv (wdl W)),(8,.fn (.func 227) [] []),(12,.pt 40 0 0),(14,wd v0),(16,wd tt),(106,.I i)],[(0,some ⟨8,[wdl H],0⟩),(40,some ⟨8,[wdl [v0,v1,v2,v3,v4,v5,v6,v7]],0⟩)],6000⟩ rfl ?_ ?_
   .simp [hCl,hWl2,dC,dW,h,show (i : Int)<64 by omega]
    refine cl0 (zyM v4) ?_;simp [hCl,hWl2,dC,dW,h,show (i : Int)<64 by omega]
    refine cl0 (zwo v4) ?_;simp [hCl,hWl2,dC,dW,h,show (i : Int)<64 by omega]
    refine cl0 (zwA v4) ?_;simp [hCl,hWl2,dC,dW,h,show (i : Int)<64 by omega]
    simp only [htt];exact ⟨rfl,Le.go [(0,0),(40,40)] [] rfl rfl (by simp [fcd]) (by simp [fcd])⟩
   refine zas ⟨211,[(0,.pt 0 0 0),(2,.pv (wdl C)),(6,.pv (wdl W)),(8,.fn (.func 227) [] []),(12,.pt 40 0 0),(16,wd tt),(17,wd uu),(106,.I i)],[(0,some ⟨8,[wdl H],0⟩),(40,some ⟨8,[wdl [v0,v1,v2,v3,v4,v5,v6,v7]],0⟩)],7000⟩ rfl ?_ ?_
   .simp
    refine cl0 (zyV v0) ?_;simp;refine cl0 (zxl v0) ?_;simp;refine cl0 (zwn v0) ?_;simp;simp only [huu];exact ⟨rfl,Le.go [(0,0),(40,40)] [] rfl rfl (by simp [fcd]) (by simp [fcd])⟩
   refine zan rfl ?_;simp (maxSteps:=2000000) [zeQ,zat];exact Le.go [(0,0),(40,40)] [] rfl rfl (by simp [fcd]) (by simp [fcd])
  refine zan rfl ?_;simp [hwi];exact ⟨i+1,by omega,by omega,Le.go [(0,0),(40,40)] [] rfl rfl (by simp [fcd]) (by simp [fcd])⟩
 rw [Qc] at h;obtain rfl : i=64:=by omega
 have hVl64:=hVl 64;obtain ⟨Z,hZ⟩ : ∃ Z,Z=V 64:=⟨_,rfl⟩;rw [<- hZ] at hVl64 ⊢;have hos0 : oS H Z 0=H:=rfl;have hosl:=zuS H Z;rw [hH] at hosl;have hosg:=zwz H Z;have hoss : ∀ i,oS H Z (i+1)=(oS H Z i).set i (u2 .add (gt H i) (gt Z i)):=λ i=>rfl;refine zaa ⟨211,[(0,.pt 0 0 0),(12,.pv (wdl Z)),(196,.I 0)],[(0,some ⟨8,[wdl (oS H Z 0)],0⟩)],9000⟩ rfl ?_ ?_
 .simp
  exact Le.go [(0,0)] [40] rfl rfl (by simp [fcd]) (by simp [fcd,hos0])
 refine zad (zaj (ι:=Nat) (λ i=>⟨211,[(0,.pt 0 0 0),(12,.pv (wdl Z)),(196,.I i)],[(0,some ⟨8,[wdl (oS H Z i)],0⟩)],9100⟩) (λ i=>i<=8) (λ i=>8 - i) 0 (by omega) (Le.go [(0,0)] [] rfl rfl (by simp [fcd]) (by simp [fcd])) ?_)
 intro i hi;refine zaa ⟨211,[(0,.pt 0 0 0),(12,.pv (wdl Z)),(196,.I i),(197,.B (decide (i<8)))],[(0,some ⟨8,[wdl (oS H Z i)],0⟩)],9200⟩ rfl ?_ ?_
 .simp
  exact Le.go [(0,0)] [] rfl rfl (by simp [fcd] <;> exact wkB (by rw [QE]; simp; omega)) (by simp [fcd])
 refine zab (zac _ rfl (λ h=>zae ?_) λ h=>zai (hit ?_))
 .rw [Qe] at h
  have hwi : IntKind.i64.wrap ((i : Int)+1)=((i+1 : Nat) : Int):=by rw [w6]; omega
  refine zap (ι:=Unit) (λ _=>⟨211,[(0,.pt 0 0 0),(12,.pv (wdl Z)),(196,.I i)],[(0,some ⟨8,[wdl (oS H Z (i+1))],0⟩)],9900⟩) (λ _=>True) ?_ λ _ _=>?_
  .have dO:=zcz (hosl i) h
   have dZ:=zcz hVl64 h;rw [hosg i i (Ql _)] at dO
   have hs : zat (wdl (oS H Z i)) i [wd (u2 .add (gt H i) (gt Z i))]=wdl (oS H Z (i+1)):=by
    rw [zos (by rw [hosl]; exact h),hoss]
   rw [<- hs];have hXl : (wdl (oS H Z i)).length=8:=by simp [hosl]
   have hZl : (wdl Z).length=8:=by simp [hVl64]
   have hXc : ∀ ρ sn h,(wdl (oS H Z i)).map (conv ρ sn h 4)=wdl (oS H Z i):=λ ρ sn h=>by simp [fcd]
   generalize wdl (oS H Z i)=X at *;generalize gt H i=a at *;generalize gt Z i=b at *;generalize List.drop (i+1) X=RX at dO;generalize List.drop (i+1) (wdl Z)=RZ at dZ;obtain ⟨z,hz⟩ : ∃ z,z=u2 .add a b:=⟨_,rfl⟩;rw [<- hz] at hs ⊢;refine zad (zaa ⟨211,[(0,.pt 0 0 0),(12,.pv (wdl Z)),(18,.I i),(196,.I i)],[(0,some ⟨8,[X],0⟩)],9300⟩ rfl ?_ ?_)
   .simp
    exact Le.go [(0,0)] [] rfl rfl (by simp [fcd]) (by simp [hXc])
   refine zaP rfl ?_;simp [-zat,dO,dZ,hXl,hZl,h,show (i : Int)<8 by omega]
   simp only [<- hz];refine ⟨by omega,rfl,?_⟩
   have hXz : ∀ ρ sn h,(zat X i [wd z]).map (conv ρ sn h 4)=zat X i [wd z]:=λ ρ sn h=>by unfold zat; simp only [Q4,List.map_take,List.map_drop,hXc]; simp
   exact Le.go [(0,0)] [] rfl rfl (by simp [fcd]) (by simp [-zat,hXz])
  refine zan rfl ?_;simp [hwi];exact ⟨i+1,by omega,by omega,Le.go [(0,0)] [] rfl rfl (by simp [fcd]) (by simp [fcd])⟩
 rw [Qc] at h;obtain rfl : i=8:=by omega
 exact ⟨.inl rfl,zao.k1 rfl (by simp) (by simp [fcd])⟩
section
variable {P : Program} {np id : Nat} {h : Nat->Option Ent} {K : AV->List Nat->List (Nat × Option Ent)->Prop} {s s' : Nat} {f : Bool} {rows : List (List AV)} {k l : Nat}
@[simp] theorem zyI : aK P np id (.slc s true true false) [.vs s' f rows,.sc (.int .i64 (l : Int)),.sc (.int .i64 (k : Int))] h K=(l<=k/\k<=rows.length/\s'=s/\K (.vs s false ((rows.drop l).take (k - l))) [] []):=by
 rw [zfR];refine propext ⟨?_,?_⟩
 .rintro ⟨l',r,m,n,h1,h2,h4,h5,h6,h7,h3,h10,h8,h9⟩
  simp at h4 h1;subst h1;obtain ⟨rfl,rfl⟩ : l=l'/\k=r:=by omega
  exact ⟨h2,h3,h8,by simpa using h9⟩
 .rintro ⟨h1,h2,h3,h4⟩
  exact ⟨l,k,0,rows.length,rfl,h1,by simp,(λ h=>by cases h),(λ h=>by cases h),(λ h=>by cases h),h2,(λ h=>by cases h),h3,by simpa using h4⟩
end
theorem zlI (l : List Int) : zby (za0 .u8 l)=some (l.map λ n=>UInt8.ofNat n.toNat):=by
 induction l with
 | nil=>rfl
 | cons x l ih =>
   show (zby (za0 .u8 l)).map _=_;rw [ih];rfl
def h0W : List Int:=[1779033703,3144134277,1013904242,2773480762,1359893119,2600822924,528734635,1541459225]
def zmv (L : Nat) : Nat:=(120 - (L+1) % 64) % 64
def zv2 (L : Nat) : Int:=IntKind.u64.wrap (IntKind.u64.wrap (L : Int)*8)
def padY (b : List Int) : List Int:=b++[128]++List.replicate (zmv b.length) 0++intY (zv2 b.length)
def hF (M : List Int) : Nat->List Int
 | 0=>h0W
 | i+1=>zmF (hF M i) ((M.drop (64*i)).take 64) conK
def four (x : Int) : List Int:=[IntKind.u8.wrap (sh .shr x 24),IntKind.u8.wrap (sh .shr x 16),IntKind.u8.wrap (sh .shr x 8),IntKind.u8.wrap x]
def zeb (h : List Int) : Nat->List Int
 | 0=>[]
 | i+1=>zeb h i++four (gt h i)
def sumB (b : List Int) : ByteArray:=⟨((zeb (hF (padY b) ((padY b).length / 64)) 8).map λ n=>UInt8.ofNat n.toNat).toArray⟩
theorem zlX (h : List Int) : ∀ i,(zeb h i).length=4*i
 | 0=>rfl
 | i+1=>by rw [zeb,Qh,zlX h i]; simp [four]; omega
theorem zqy {H B C : List Int} (hH : H.length=8) : (zmF H B C).length=8:=zuU hH 8
theorem zsX (M : List Int) : ∀ i,(hF M i).length=8
 | 0=>rfl
 | i+1=>zqy (zsX M i)
theorem zur (b : List Int) : (padY b).length=b.length+1+zmv b.length+8:=by simp [padY,zfD]; omega
theorem zth (b : List Int) : (padY b).length % 64=0:=by rw [zur]; unfold zmv; omega
theorem zsu : AcP 219 [] [] (.agg (wdl conK)) []:=by
 refine zjo.s.ac ?_;show awp _ 0 _ _ ⟨2,[],[],16⟩;refine rs [0] [16] [] ?_;refine zaa ⟨2,[(0,.pt 16 0 0)],[(16,some ⟨64,[wdl conK],0⟩)],400⟩ rfl ?_ ?_
 .simp (maxSteps:=2000000) [zeQ,zat]
  exact Le.go [(16,16)] [] rfl rfl (by simp) (by simp [conK])
 exact zah ⟨.inr rfl,zao.out [] [16] rfl (by simp) (by simp) (by simp [conK]) (by simp)⟩
section
variable {P : Program} {np id : Nat} {h : Nat->Option Ent} {K : AV->List Nat->List (Nat × Option Ent)->Prop} {s s' : Nat} {f : Bool} {rows : List (List AV)}
theorem zxg : aK P np id (.slc s false true false) [.vs s' f rows,.sc (.int .i64 64)] h K=(64<=rows.length/\s'=s/\K (.vs s false (rows.take 64)) [] []):=zwV (k:=64)
theorem zwO : aK P np id (.slc s true false false) [.vs s' f rows,.sc (.int .i64 64)] h K=(64<=rows.length/\s'=s/\K (.vs s f (rows.drop 64)) [] []):=zwE (k:=64)
end
theorem zkK (b : List Int) (hl : b.length<=1073741824) : AcP 209 [bys b] [] (.sc (.string (sumB b))) []:=by
 refine zoi.s.ac ?_;show awp _ 0 _ _ ⟨69,[(0,bys b)],[],16⟩;obtain ⟨L,hL⟩ : ∃ L,L=b.length:=⟨_,rfl⟩;obtain ⟨Z,hZ⟩ : ∃ Z,Z=zmv L:=⟨_,rfl⟩;have hZ2 : Z=(120 - (L+1) % 64) % 64:=hZ;refine zaa ⟨69,[(0,bys b)],[],100⟩ rfl (by simp; exact Le.snap [] rfl rfl (by simp)) ?_
 let m : Nat->List Int:=λ z=>b++[128]++List.replicate z 0
 have hml : ∀ z,(m z).length=L+1+z:=λ z=>by simp [m,hL]; omega
 have hms : ∀ z,m (z+1)=m z++[0]:=λ z=>by simp [m,List.replicate_succ']
 have hmZ : b++[128]++List.replicate (zmv b.length) 0=m Z:=by rw [hZ,hL]
 have hm0 : m 0=b++[128]:=by simp [m]
 have hTk : ∀ (l : List Int) (f : Int->List AV),(l.map f).take l.length=l.map f:=λ l f=>Qb (by simp)
 refine zaa ⟨69,[(0,bys b),(3,.rs 64 0 (m 0).length)],[(64,some ⟨1,za0 .u8 (m 0),0⟩)],200⟩ rfl ?_ ?_
 .simp [<- hL]
  refine ⟨by omega,by omega,?_⟩
  exact Le.go [(124,64)] [] rfl rfl (by simp [hm0,hL]) (by simp [hm0,fcd])
 clear_value m
 refine zab (zad (zaj (ι:=Nat) (λ z=>⟨69,[(0,bys b),(3,.rs 64 0 (m z).length)],[(64,some ⟨1,za0 .u8 (m z),0⟩)],300⟩) (λ z=>z<=Z) (λ z=>Z - z) 0 (by omega) (Le.go [(64,64)] [] rfl rfl (by simp [fcd]) (by simp [fcd])) ?_))
 intro z hz;obtain ⟨N,hN⟩ : ∃ N,N=L+1+z:=⟨_,rfl⟩;have hrem : Int.tmod (N : Int) 64=((N % 64 : Nat) : Int):=rfl;have hml1:=hml z;rw [<- hN] at hml1;rw [hml1];refine zab (zaa ⟨69,[(0,bys b),(3,.rs 64 0 N),(18,.B (decide (z<Z)))],[(64,some ⟨1,za0 .u8 (m z),0⟩)],400⟩ rfl ?_ ?_)
 .simp [hrem,-Int.natCast_emod]
  exact Le.go [(64,64)] [] rfl rfl (by simp [-Int.natCast_emod,fcd] <;> exact wkB (by rw [QE]; simp [-Int.natCast_emod]; omega)) (by simp [fcd])
 refine zac _ rfl (λ h=>zae ?_) λ h=>zai (hit ?_)
 .rw [Qe] at h
  have hs:=hms z;have hl2:=hml (z+1);have htk:=hTk (m z);rw [hml1] at htk;refine zad (zan rfl ?_);simp [hml1];refine ⟨by omega,z+1,by omega,by omega,?_⟩
  rw [hl2,hs];exact Le.go [(416,64)] [] rfl rfl (by simp [hN] <;> exact wkE (by simp; omega)) (by simp [fcd,htk])
 rw [Qc] at h;obtain rfl : z=Z:=by omega
 obtain ⟨M0,hM0⟩ : ∃ M0,M0=m z:=⟨_,rfl⟩;rw [<- hM0] at hml1 hmZ ⊢;obtain ⟨bt,hbt⟩ : ∃ bt,bt=zv2 L:=⟨_,rfl⟩;refine zaa ⟨69,[(3,.rs 64 0 N),(4,.sc (.int .u64 bt))],[(64,some ⟨1,za0 .u8 M0,0⟩)],500⟩ rfl ?_ ?_
 .simp [<- hL]
  exact Le.go [(64,64)] [] rfl rfl (by simp [hbt,zv2,fcd]) (by simp [fcd])
 let q : Nat->List Int:=λ j=>M0++zg7 bt j
 have hql : ∀ j,(q j).length=N+j:=λ j=>by simp only [q]; rw [Qh,zfV,hml1]
 have hqs : ∀ j,q (j+1)=q j++[ze4 bt (7 - j)]:=λ j=>by simp only [q]; rw [zgu,Qx]
 have hq0 : q 0=M0:=by simp [q,zg7]
 have hq8 : q 8=padY b:=by
  simp only [q];rw [padY,hmZ,hbt,hL];rfl
 refine zab (zaa ⟨69,[(3,.rs 64 0 (N+0)),(4,.sc (.int .u64 bt)),(5,.I (56 - 8*((0 : Nat) : Int)))],[(64,some ⟨1,za0 .u8 (q 0),0⟩)],600⟩ rfl ?_ ?_)
 .simp [hq0]
  exact Le.go [(64,64)] [] rfl rfl (by simp [fcd]) (by simp [fcd])
 clear_value q
 refine zad (zaj (ι:=Nat) (λ j=>⟨69,[(3,.rs 64 0 (N+j)),(4,.sc (.int .u64 bt)),(5,.I (56 - 8*(j : Int)))],[(64,some ⟨1,za0 .u8 (q j),0⟩)],700⟩) (λ j=>j<=8) (λ j=>8 - j) 0 (by omega) (Le.go [(64,64)] [] rfl rfl (by simp [fcd]) (by simp [fcd])) ?_)
 intro j hj;refine zab (zaa ⟨69,[(3,.rs 64 0 (N+j)),(4,.sc (.int .u64 bt)),(5,.I (56 - 8*(j : Int))),(27,.B (decide (j<8)))],[(64,some ⟨1,za0 .u8 (q j),0⟩)],800⟩ rfl ?_ ?_)
 .simp
  exact Le.go [(64,64)] [] rfl rfl (by simp [fcd] <;> exact wkB (by rw [QE]; simp; omega)) (by simp [fcd])
 refine zac _ rfl (λ h=>zae ?_) λ h=>zai (hit ?_)
 .rw [Qe] at h
  refine zap (ι:=Unit) (λ _=>⟨69,[(3,.rs 64 0 (N+(j+1))),(4,.sc (.int .u64 bt)),(5,.I (56 - 8*(j : Int)))],[(64,some ⟨1,za0 .u8 (q (j+1)),0⟩)],1000⟩) (λ _=>True) ?_ λ _ _=>?_
  .have hs:=hqs j
   have hl1:=hql j;have htk:=hTk (q j);rw [hl1] at htk;rw [hs];generalize q j=Y at *;obtain ⟨k,hk⟩ : ∃ k : Nat,k=7 - j:=⟨_,rfl⟩;obtain ⟨s,hse⟩ : ∃ s : Nat,s=8*k:=⟨_,rfl⟩;have hsj : 56 - 8*(j : Int)=(s : Int):=by omega
   have hw2 : IntKind.u64.wrap (s : Int)=(s : Int):=by rw [IntKind.wrap_u64]; omega
   have hb : ze4 bt k=IntKind.u8.wrap (bt.fdiv (2 ^ (min (8*k) 64))):=rfl;rw [<- hk];generalize ze4 bt k=y at hb ⊢;rw [<- hse] at hb;rw [hsj];refine zad (zan rfl ?_);simp [hw2,IntKind.bits,<- hb,hl1];refine ⟨by omega,?_⟩
   exact Le.go [(856,64)] [] rfl rfl (by simp <;> exact wkE (by simp; omega)) (by simp [fcd,htk])
  have hwj : IntKind.i64.wrap (56 - 8*(j : Int) - 8)=56 - 8*((j+1 : Nat) : Int):=by rw [w6]; omega
  refine zan rfl ?_;simp [hwj];exact ⟨j+1,by omega,by omega,Le.go [(64,64)] [] rfl rfl (by simp [fcd]) (by simp [fcd])⟩
 rw [Qc] at h;obtain rfl : j=8:=by omega
 obtain ⟨M,hM⟩ : ∃ M,M=padY b:=⟨_,rfl⟩;have hMl : M.length=N+8:=by rw [hM,<- hq8]; exact hql 8
 have hM64 : M.length % 64=0:=by rw [hM]; exact zth b
 obtain ⟨nb,hnb⟩ : ∃ nb,nb=M.length / 64:=⟨_,rfl⟩;have hsum : sumB b=⟨((zeb (hF M nb) 8).map λ n=>UInt8.ofNat n.toNat).toArray⟩:=by rw [hnb,hM]; rfl
 have hMn : M.length=64*nb:=by omega
 rw [hq8,<- hM,<- hMl,hsum];have hMT:=hTk M;refine zaa ⟨69,[(3,bys (M.drop (64*0))),(6,.pt 30 0 0),(7,.pv (wdl conK))],[(30,some ⟨8,[wdl (hF M 0)],0⟩)],2000⟩ rfl ?_ ?_
 .simp (maxSteps:=2000000) [zeQ]
  refine cl0 zsu ?_;simp (maxSteps:=2000000) [zat,ztM];exact Le.go [(816,30)] [64,824] rfl rfl (by simp [fcd,hMT]) (by simp [hF,h0W])
 have hdl : ∀ i,i<=nb->(M.drop (64*i)).length=64*(nb - i):=λ i hi=>by rw [UM,hMn]; omega
 refine zab (zad (zaj (ι:=Nat) (λ i=>⟨69,[(3,bys (M.drop (64*i))),(6,.pt 30 0 0),(7,.pv (wdl conK))],[(30,some ⟨8,[wdl (hF M i)],0⟩)],2100⟩) (λ i=>i<=nb) (λ i=>nb - i) 0 (by omega) (Le.go [(30,30)] [] rfl rfl (by simp [fcd]) (by simp [fcd])) ?_))
 intro i hi;have hdi:=hdl i hi;obtain ⟨D,hD⟩ : ∃ D,D=M.drop (64*i):=⟨_,rfl⟩;rw [<- hD] at hdi ⊢;refine zab (zaa ⟨69,[(3,bys D),(6,.pt 30 0 0),(7,.pv (wdl conK)),(42,.B (decide (i<nb)))],[(30,some ⟨8,[wdl (hF M i)],0⟩)],2200⟩ rfl ?_ ?_)
 .simp [hdi]
  exact Le.go [(30,30)] [] rfl rfl (by simp [fcd] <;> exact wkB (by rw [QE]; simp; omega)) (by simp [fcd])
 refine zac _ rfl (λ h=>zae ?_) λ h=>zai (hit ?_)
 .rw [Qe] at h
  have hDs : D.drop 64=M.drop (64*(i+1)):=by rw [hD,List.drop_drop]; congr 1
  have hbk:=zt1 (hF M i) (D.take 64) conK (zsX M i) (by rw [QW]; omega) rfl
  have hnx : zmF (hF M i) (D.take 64) conK=hF M (i+1):=by rw [hD]; rfl
  rw [hnx] at hbk;have hDl : 64<=D.length:=by omega
  have hDb : D.length<=1073742000:=by rw [hD,UM]; omega
  refine zap (ι:=Unit) (λ _=>⟨69,[(3,bys D),(6,.pt 30 0 0),(7,.pv (wdl conK))],[(30,some ⟨8,[wdl (hF M (i+1))],0⟩)],3000⟩) (λ _=>True) ?_ λ _ _=>?_
  .refine zad (zan rfl ?_)
   simp [zxg,hDl];refine zaS (i:=30) rfl (e':=⟨8,[wdl (hF M i)],0⟩) (by simp [fcd]) hbk (by simp) (by simp [fcd,List.map_take]) ?_
   simp;exact Le.go [(30,30)] [] rfl rfl (by simp [fcd]) (by simp [fcd])
  refine zan rfl ?_;simp [zwO,hDl];have hdr : (za0 .u8 D).drop 64=za0 .u8 (D.drop 64):=by simp [za0,List.map_drop]
  exact ⟨i+1,by omega,by omega,Le.go [(30,30)] [] rfl rfl (by simp [fcd]; rw [<- hDs]; exact wkE (by rw [hdr])) (by simp [fcd])⟩
 rw [Qc] at h;obtain rfl : i=nb:=by omega
 obtain ⟨R,hR⟩ : ∃ R,R=hF M i:=⟨_,rfl⟩;have hRl : R.length=8:=by rw [hR]; exact zsX M i
 rw [<- hR];have ho0 : zeb R 0=[]:=rfl;have hos : ∀ j,zeb R (j+1)=zeb R j++four (gt R j):=λ j=>rfl;have hol:=zlX R;refine zaa ⟨69,[(6,.pt 30 0 0),(8,.nilS)],[(30,some ⟨8,[wdl R],0⟩)],4000⟩ rfl ?_ ?_
 .simp
  exact Le.go [(30,30)] [] rfl rfl (by simp [fcd]) (by simp [fcd])
 refine zab (zaa ⟨69,[(8,.nilS),(48,.agg (wdl R)),(49,.I 0)],[],4100⟩ rfl ?_ ?_)
 .have htk8 : ∀ f : Int->AV,(R.map f).take 8=R.map f:=λ f=>Qb (by simp [hRl])
  simp [hRl];exact Le.go [] [] rfl rfl (by simp [fcd,htk8]) (by simp [fcd])
 refine zad ?_
 refine zaj (ι:=Nat) (λ j=>⟨69,[(8,.rs 50 0 (zeb R j).length),(48,.agg (wdl R)),(49,.I j)],[(50,some ⟨1,za0 .u8 (zeb R j),0⟩)],4200⟩) (λ j=>j<=8) (λ j=>8 - j) 0 (by omega)
  (Le.lst [] [] [(50,1)] rfl (by simp) (by simp) (by simp) (by simp) (by simp) (by simp) (by simp) (by simp [Up,ho0,fcd]) (by simp [ho0])) ?_
 intro j hj;have hoj:=hol j;refine zaa ⟨69,[(8,.rs 50 0 (zeb R j).length),(48,.agg (wdl R)),(49,.I j),(50,.B (decide (j<8)))],[(50,some ⟨1,za0 .u8 (zeb R j),0⟩)],4300⟩ rfl ?_ ?_
 .simp
  exact Le.go [(50,50)] [] rfl rfl (by simp [fcd] <;> exact wkB (by rw [QE]; simp; omega)) (by simp [fcd])
 refine zab (zac _ rfl (λ h=>zae ?_) λ h=>zai (hit ?_))
 .rw [Qe] at h
  have hwj : IntKind.i64.wrap ((j : Int)+1)=((j+1 : Nat) : Int):=by rw [w6]; omega
  have htk:=hTk (zeb R j);obtain ⟨hj2,hgt⟩:=zpK hRl h;refine zap (ι:=Unit) (λ _=>⟨69,[(8,.rs 50 0 (zeb R (j+1)).length),(48,.agg (wdl R)),(49,.I j)],[(50,some ⟨1,za0 .u8 (zeb R (j+1)),0⟩)],5000⟩) (λ _=>True) ?_ λ _ _=>?_
  .rw [hos]
   have hf4 : four (gt R j)=[IntKind.u8.wrap (sh .shr (gt R j) 24),IntKind.u8.wrap (sh .shr (gt R j) 16),IntKind.u8.wrap (sh .shr (gt R j) 8),IntKind.u8.wrap (gt R j)]:=rfl;rw [hf4];generalize zeb R j=Y at *;generalize gt R j=w at *;refine zad (zaa ⟨69,[(8,.rs 50 0 Y.length),(10,wd w),(48,.agg (wdl R)),(49,.I j)],[(50,some ⟨1,za0 .u8 Y,0⟩)],4400⟩ rfl ?_ ?_)
   .simp [hRl,hj2,hgt,h]
    refine ⟨by omega,?_⟩
    exact Le.go [(50,50)] [] rfl rfl (by simp [fcd]) (by simp [fcd])
   refine zan rfl ?_;simp;refine ⟨by omega,?_⟩
   exact Le.go [(4504,50)] [] rfl rfl (by simp [fcd]) (by simp [fcd,htk])
  refine zan rfl ?_;simp [hwj];exact ⟨j+1,by omega,by omega,Le.go [(50,50)] [] rfl rfl (by simp [fcd]) (by simp [fcd])⟩
 rw [Qc] at h;obtain rfl : j=8:=by omega
 have htk:=hTk (zeb R 8);refine zaa ⟨69,[(2,.sc (.string ⟨((zeb R 8).map λ n=>UInt8.ofNat n.toNat).toArray⟩))],[],6000⟩ rfl ?_ ?_
 .simp
  refine ⟨_,by rw [htk]; exact zlI _,?_⟩
  exact LeH [] []
 exact zaI
theorem zoA (v : Int) (k : Nat) (hk : k<=7) : IntKind.u8.wrap ((IntKind.u64.wrap v).fdiv (2 ^ (min (8*k) 64)))=ze4 v k:=by
 have hk8 : k=0∨k=1∨k=2∨k=3∨k=4∨k=5∨k=6∨k=7:=by omega
 unfold ze4;rw [IntKind.wrap_u64];rcases hk8 with rfl | rfl | rfl | rfl | rfl | rfl | rfl | rfl
 .rw [show (2 : Int) ^ (min (8*0) 64)=1 from rfl,QL _ (by decide),QL _ (by decide),IntKind.wrap_u8,IntKind.wrap_u8]
  omega
 .rw [show (2 : Int) ^ (min (8*1) 64)=256 from rfl,QL _ (by decide),QL _ (by decide),IntKind.wrap_u8,IntKind.wrap_u8]
  omega
 .rw [show (2 : Int) ^ (min (8*2) 64)=65536 from rfl,QL _ (by decide),QL _ (by decide),IntKind.wrap_u8,IntKind.wrap_u8]
  omega
 .rw [show (2 : Int) ^ (min (8*3) 64)=16777216 from rfl,QL _ (by decide),QL _ (by decide),IntKind.wrap_u8,IntKind.wrap_u8]
  omega
 .rw [show (2 : Int) ^ (min (8*4) 64)=4294967296 from rfl,QL _ (by decide),QL _ (by decide),IntKind.wrap_u8,IntKind.wrap_u8]
  omega
 .rw [show (2 : Int) ^ (min (8*5) 64)=1099511627776 from rfl,QL _ (by decide),QL _ (by decide),IntKind.wrap_u8,IntKind.wrap_u8]
  omega
 .rw [show (2 : Int) ^ (min (8*6) 64)=281474976710656 from rfl,QL _ (by decide),QL _ (by decide),IntKind.wrap_u8,IntKind.wrap_u8]
  omega
 .rw [show (2 : Int) ^ (min (8*7) 64)=72057594037927936 from rfl,QL _ (by decide),QL _ (by decide),IntKind.wrap_u8,IntKind.wrap_u8]
  omega
theorem zmD (v : Int) : AcP 221 [.nilS,.I v] [] (.rs 0 0 8) [some ⟨1,za0 .u8 (intY v),0⟩]:=by
 refine zmJ.s.acalls (nbz rfl) (nbz rfl) (by simp) ?_
 show awp _ 0 _ _ ⟨20,[(0,.nilS),(1,.I v)],[],16⟩;have hTk : ∀ (l : List Int) (f : Int->List AV),(l.map f).take l.length=l.map f:=λ l f=>Qb (by simp)
 let q : Nat->List Int:=λ j=>[]++zg7 v j
 have hql : ∀ j,(q j).length=([] : List Int).length+j:=λ j=>by simp only [q]; rw [Qh,zfV]
 have hqs : ∀ j,q (j+1)=q j++[ze4 v (7 - j)]:=λ j=>by simp only [q]; rw [zgu,Qx]
 have hq0 : q 0=[]:=by simp [q,zg7]
 have hq8 : q 8=[]++intY v:=rfl
 try rw [<- hq8]
 refine zaa ⟨20,[(0,.nilS),(1,.I v)],[],100⟩ rfl ?_ ?_
 .simp
  exact LeH [] []
 refine zab (zaa ⟨20,[(0,.nilS),(1,.I v),(5,.I (56 - 8*((0 : Nat) : Int)))],[],200⟩ rfl ?_ ?_)
 .simp
  exact LeH [] []
 refine zad (zaj (ι:=Nat) (λ j=>⟨20,[(0,.rs 50 0 (q j).length),(1,.I v),(5,.I (56 - 8*(j : Int)))],[(50,some ⟨1,za0 .u8 (q j),0⟩)],300⟩) (λ j=>j<=8) (λ j=>8 - j) 0 (by omega) (Le.lst [] [] [(50,1)] rfl (by simp) (by simp) (by simp) (by simp) (by simp) (by simp) (by simp) (by simp [Up,hq0,fcd]) (by simp [hq0])) ?_)
 clear_value q
 intro j hj;have hl1:=hql j
 try simp only [UW,Q0] at hl1
 refine zab (zaa ⟨20,[(0,.rs 50 0 (q j).length),(1,.I v),(5,.I (56 - 8*(j : Int))),(7,.B (decide (j<8)))],[(50,some ⟨1,za0 .u8 (q j),0⟩)],400⟩ rfl ?_ ?_)
 .simp
  exact Le.go [(50,50)] [] rfl rfl (by simp [fcd] <;> exact wkB (by rw [QE]; simp; omega)) (by simp [fcd])
 refine zac _ rfl (λ h=>zae ?_) λ h=>zai (hit ?_)
 .rw [Qe] at h
  refine zap (ι:=Unit) (λ _=>⟨20,[(0,.rs 50 0 (q (j+1)).length),(1,.I v),(5,.I (56 - 8*(j : Int)))],[(50,some ⟨1,za0 .u8 (q (j+1)),0⟩)],1000⟩) (λ _=>True) ?_ λ _ _=>?_
  .have hs:=hqs j
   have htk:=hTk (q j);rw [hs];generalize q j=Y at *;obtain ⟨k,hk⟩ : ∃ k : Nat,k=7 - j:=⟨_,rfl⟩;obtain ⟨s,hse⟩ : ∃ s : Nat,s=8*k:=⟨_,rfl⟩;have hsj : 56 - 8*(j : Int)=(s : Int):=by omega
   have hw2 : IntKind.u64.wrap (s : Int)=(s : Int):=by rw [IntKind.wrap_u64]; omega
   have hb : ze4 v k=IntKind.u8.wrap (v.fdiv (2 ^ (min (8*k) 64))):=rfl
   have hb2 : IntKind.u8.wrap ((IntKind.u64.wrap v).fdiv (2 ^ (min s 64)))=ze4 v k:=by
    have:=zoA v k (by omega)
    rw [hse];exact this
   rw [<- hk];generalize ze4 v k=y at hb hb2 ⊢;rw [hsj];refine zad (zan rfl ?_);simp [hw2,IntKind.bits,hb2];refine ⟨by omega,?_⟩
   exact Le.go [(464,50)] [] rfl rfl (by simp [fcd]) (by simp [fcd,htk])
  have hwj : IntKind.i64.wrap (56 - 8*(j : Int) - 8)=56 - 8*((j+1 : Nat) : Int):=by rw [w6]; omega
  refine zan rfl ?_;simp [hwj];exact ⟨j+1,by omega,by omega,Le.go [(50,50)] [] rfl rfl (by simp [fcd]) (by simp [fcd])⟩
 rw [Qc] at h;obtain rfl : j=8:=by omega
 refine zaa ⟨20,[(4,.rs 50 0 (q 8).length)],[(50,some ⟨1,za0 .u8 (q 8),0⟩)],2000⟩ rfl ?_ ?_
 .simp
  exact Le.go [(50,50)] [] rfl rfl (by simp [fcd]) (by simp [fcd])
 refine zah ?_;have hl8 : (q 8).length=8:=by rw [hql]; rfl
 rw [hl8];exact ⟨.inr rfl,zao.out [50] [] rfl (by simp) (by simp) (by simp) (by simp [fcd,hq8])⟩
theorem zlH (b : List Int) (v : Int) (hbl : b.length<=1099511627776) : AcP 221 [.rs 0 0 b.length,.I v] [⟨1,za0 .u8 b,0⟩] (.rs 1 0 (b.length+8)) [none,some ⟨1,za0 .u8 (b++intY v),0⟩]:=by
 refine zmJ.s.acalls (nbz rfl) (nbz rfl) (by simp) ?_
 show awp _ 1 _ _ ⟨20,[(0,.rs 0 0 b.length),(1,.I v)],[(0,some ⟨1,za0 .u8 b,0⟩)],16⟩;have hTk : ∀ (l : List Int) (f : Int->List AV),(l.map f).take l.length=l.map f:=λ l f=>Qb (by simp)
 let q : Nat->List Int:=λ j=>b++zg7 v j
 have hql : ∀ j,(q j).length=(b : List Int).length+j:=λ j=>by simp only [q]; rw [Qh,zfV]
 have hqs : ∀ j,q (j+1)=q j++[ze4 v (7 - j)]:=λ j=>by simp only [q]; rw [zgu,Qx]
 have hq0 : q 0=b:=by simp [q,zg7]
 have hq8 : q 8=b++intY v:=rfl
 try rw [<- hq8]
 refine zaa ⟨20,[(0,.rs 0 0 b.length),(1,.I v)],[(0,some ⟨1,za0 .u8 b,0⟩)],100⟩ rfl ?_ ?_
 .simp
  exact Le.go [(0,0)] [] rfl rfl (by simp [fcd]) (by simp [fcd])
 refine zab (zaa ⟨20,[(0,.rs 0 0 b.length),(1,.I v),(5,.I (56 - 8*((0 : Nat) : Int)))],[(0,some ⟨1,za0 .u8 b,0⟩)],200⟩ rfl ?_ ?_)
 .simp
  exact Le.go [(0,0)] [] rfl rfl (by simp [fcd]) (by simp [fcd])
 refine zad (zaj (ι:=Nat) (λ j=>⟨20,[(0,.rs 50 0 (q j).length),(1,.I v),(5,.I (56 - 8*(j : Int)))],[(50,some ⟨1,za0 .u8 (q j),0⟩)],300⟩) (λ j=>j<=8) (λ j=>8 - j) 0 (by omega) (Le.go [(0,50)] [] rfl rfl (by simp [fcd,hq0]) (by simp [fcd,hq0])) ?_)
 clear_value q
 intro j hj;have hl1:=hql j
 try simp only [UW,Q0] at hl1
 refine zab (zaa ⟨20,[(0,.rs 50 0 (q j).length),(1,.I v),(5,.I (56 - 8*(j : Int))),(7,.B (decide (j<8)))],[(50,some ⟨1,za0 .u8 (q j),0⟩)],400⟩ rfl ?_ ?_)
 .simp
  exact Le.go [(50,50)] [] rfl rfl (by simp [fcd] <;> exact wkB (by rw [QE]; simp; omega)) (by simp [fcd])
 refine zac _ rfl (λ h=>zae ?_) λ h=>zai (hit ?_)
 .rw [Qe] at h
  refine zap (ι:=Unit) (λ _=>⟨20,[(0,.rs 50 0 (q (j+1)).length),(1,.I v),(5,.I (56 - 8*(j : Int)))],[(50,some ⟨1,za0 .u8 (q (j+1)),0⟩)],1000⟩) (λ _=>True) ?_ λ _ _=>?_
  .have hs:=hqs j
   have htk:=hTk (q j);rw [hs];generalize q j=Y at *;obtain ⟨k,hk⟩ : ∃ k : Nat,k=7 - j:=⟨_,rfl⟩;obtain ⟨s,hse⟩ : ∃ s : Nat,s=8*k:=⟨_,rfl⟩;have hsj : 56 - 8*(j : Int)=(s : Int):=by omega
   have hw2 : IntKind.u64.wrap (s : Int)=(s : Int):=by rw [IntKind.wrap_u64]; omega
   have hb : ze4 v k=IntKind.u8.wrap (v.fdiv (2 ^ (min (8*k) 64))):=rfl
   have hb2 : IntKind.u8.wrap ((IntKind.u64.wrap v).fdiv (2 ^ (min s 64)))=ze4 v k:=by
    have:=zoA v k (by omega)
    rw [hse];exact this
   rw [<- hk];generalize ze4 v k=y at hb hb2 ⊢;rw [hsj];refine zad (zan rfl ?_);simp [hw2,IntKind.bits,hb2];refine ⟨by omega,?_⟩
   exact Le.go [(464,50)] [] rfl rfl (by simp [fcd]) (by simp [fcd,htk])
  have hwj : IntKind.i64.wrap (56 - 8*(j : Int) - 8)=56 - 8*((j+1 : Nat) : Int):=by rw [w6]; omega
  refine zan rfl ?_;simp [hwj];exact ⟨j+1,by omega,by omega,Le.go [(50,50)] [] rfl rfl (by simp [fcd]) (by simp [fcd])⟩
 rw [Qc] at h;obtain rfl : j=8:=by omega
 refine zaa ⟨20,[(4,.rs 50 0 (q 8).length)],[(50,some ⟨1,za0 .u8 (q 8),0⟩)],2000⟩ rfl ?_ ?_
 .simp
  exact Le.go [(50,50)] [] rfl rfl (by simp [fcd]) (by simp [fcd])
 refine zah ?_;rw [hql 8];exact ⟨.inr rfl,zao.m1 50 (by decide) rfl (by simp) (by simp) (by simp [fcd])⟩
theorem zlt (b : List Int) (hb : b≠[]) (hl : b.length<=1099511627776) : AcP 222 [bys b] [] (.rs 0 0 b.length) [some ⟨1,za0 .u8 b,0⟩]:=by
 refine zbU.s.acalls (nbz rfl) (nbz rfl) (by simp) ?_
 show awp _ 0 _ _ ⟨8,[(0,bys b)],[],16⟩;have h0 : 0<b.length:=Ux.2 hb;have h1 : b.length≠0:=by omega
 have hTk : ∀ (f : Int->List AV),(b.map f).take b.length=b.map f:=λ f=>Qb (by simp)
 refine zaa ⟨8,[(0,bys b)],[],100⟩ rfl (by simp; exact Le.snap [] rfl rfl (by simp)) ?_
 refine zab (zaa ⟨8,[(0,bys b),(4,.B false)],[],200⟩ rfl ?_ ?_)
 .obtain ⟨x,r,rfl⟩:=List.exists_cons_of_ne_nil hb
  simp;exact Le.go [] [] rfl rfl (by simp; exact .refl _) (by simp)
 refine zac _ rfl (λ h=>by cases h) λ _=>?_
 refine zae (zaa ⟨8,[(2,.rs 50 0 b.length)],[(50,some ⟨1,za0 .u8 b,0⟩)],300⟩ rfl ?_ ?_)
 .simp
  refine ⟨by omega,?_⟩
  exact LeI [(216,50)] []
 exact zah ⟨.inr rfl,zao.out [50] [] rfl (by simp) (by simp) (by simp) (by simp [fcd])⟩
theorem zm8 (v : Int) : AcP 210 [.nilS,.I v] [] (.rs 0 0 8) [some ⟨1,za0 .u8 (intY v),0⟩]:=by
 have hclone : AcP 222 [.nilS] [] .nilS []:=by
  refine zbU.s.acalls (nbz rfl) (nbz rfl) (by simp) ?_
  show awp _ 0 _ _ ⟨8,[(0,.nilS)],[],16⟩;refine zaa ⟨8,[(0,.nilS)],[],100⟩ rfl ?_ ?_
  .simp
   exact LeH [] []
  refine zab (zaa ⟨8,[(4,.B true)],[],200⟩ rfl ?_ ?_)
  .simp
   exact LeH [] []
  refine zac _ rfl (λ _=>?_) λ h=>by cases h
  refine zaa ⟨8,[(2,.nilS)],[],300⟩ rfl ?_ ?_
  .simp
   exact LeH [] []
  exact zaI
 refine zml.s.acalls (nbz rfl) (nbz rfl) (by simp) ?_
 show awp _ 0 _ _ ⟨9,[(0,.nilS),(1,.I v)],[],16⟩;refine zaa ⟨9,[(0,.nilS),(1,.I v)],[],100⟩ rfl ?_ ?_
 .simp
  exact LeH [] []
 refine zaa ⟨9,[(4,.rs 50 0 8)],[(50,some ⟨1,za0 .u8 (intY v),0⟩)],300⟩ rfl ?_ ?_
 .simp
  refine cl0 hclone ?_;simp;refine cn1 (zmD v) ?_;simp;exact LeI [(124,50)] []
 exact zah ⟨.inr rfl,zao.out [50] [] rfl (by simp) (by simp) (by simp) (by simp [fcd])⟩
theorem zio (b : List Int) (v : Int) (hb : b≠[]) (hl : b.length<=1099511627776) : AcP 210 [bys b,.I v] [] (.rs 0 0 (b.length+8)) [some ⟨1,za0 .u8 (b++intY v),0⟩]:=by
 have hTk : ∀ (f : Int->List AV),(b.map f).take b.length=b.map f:=λ f=>Qb (by simp)
 refine zml.s.acalls (nbz rfl) (nbz rfl) (by simp) ?_
 show awp _ 0 _ _ ⟨9,[(0,bys b),(1,.I v)],[],16⟩;refine zaa ⟨9,[(0,bys b),(1,.I v)],[],100⟩ rfl (by simp; exact Le.snap [] rfl rfl (by simp)) ?_
 refine zaa ⟨9,[(4,.rs 50 0 (b.length+8))],[(50,some ⟨1,za0 .u8 (b++intY v),0⟩)],300⟩ rfl ?_ ?_
 .simp
  refine zdg (zlt b hb hl) (by simp [fcd]) ?_
  simp;refine zaS (i:=108) rfl (e':=⟨1,za0 .u8 b,0⟩) (by simp [fcd]) (zlH b v hl) (by simp) (by simp) ?_
  simp;exact LeI [(124,50)] []
 exact zah ⟨.inr rfl,zao.out [50] [] rfl (by simp) (by simp) (by simp) (by simp [fcd])⟩
theorem zkd (s : ByteArray) (hs : s.size<=1099511627776) : AcP 211 [.nilS,.sc (.string s)] [] (.rs 0 0 (s.size+8)) [some ⟨1,za0 .u8 (zez s),0⟩]:=by
 refine zqf.s.ac ?_;show awp _ 0 _ _ ⟨11,[(0,.nilS),(1,.sc (.string s))],[],16⟩;refine zaa ⟨11,[(0,.nilS),(1,.sc (.string s))],[],24⟩ rfl (by simp; exact Le.snap [] rfl rfl (by simp)) ?_
 have hI:=zm8 s.size;have e : zez s=intY s.size++strY s:=rfl;have hYl : (intY s.size).length=8:=zfD _;rw [e];generalize intY s.size=Y at *;have htk : List.take 8 (za0 .u8 Y)=za0 .u8 Y:=Qb (by rw [zrk]; omega)
 refine zaa ⟨11,[(4,.rs 64 0 (s.size+8))],[(64,some ⟨1,za0 .u8 (Y++strY s),0⟩)],80⟩ rfl ?_ ?_
 .simp
  refine cn1 hI ?_;simp [fcd,zn8,hYl];refine ⟨_,_,_,⟨htk,rfl,rfl⟩,?_⟩;simp [hYl]
  repeat' apply And.intro
  all_goals first | omega | exact Le.keep rfl (Ql _) (by simp; omega) (by simp)
 exact zah ⟨.inr rfl,zao.out [64] [] rfl (by simp) (by simp) (by simp) (by simp [fcd])⟩
end Go.Proofs.YtkngdgplbojdlaaGreat
namespace Go.Proofs.YtkngdgplbojdlaaGreat
open Go Go.RowKit Go.Shelf Go.Maps Go.Sort
attribute [local go_sem] Oper.semAt_some
def zgO : Go.Shelf.Ren:=⟨fun | 11=>204 | n=>n,fun | 0=>0 | 24=>22 | 26=>3 | 28=>180 | 33=>68 | n=>n,fun | n=>n⟩
theorem seqL : SlLaysZI.n11 Tryz.prog zgO:={
 mixed:=by kernel_rfl
 f11:=⟨Tryz.f204.name,by decide,Tryz.func204.trans (congrArg some (by kernel_rfl))⟩
 t0:=Tryz.underlying0
 a0:=Tryz.isAgg0
 z0:=Tryz.sizeOf0
 v0:=Tryz.zeroValue0
 t24:=Tryz.underlying22
 a24:=Tryz.isAgg22
 z24:=Tryz.sizeOf22
 v24:=Tryz.zeroValue22
 t26:=Tryz.underlying3
 a26:=Tryz.isAgg3
 z26:=Tryz.sizeOf3
 v26:=Tryz.zeroValue3
 t28:=Tryz.underlying180
 a28:=Tryz.isAgg180
 z28:=Tryz.sizeOf180
 v28:=Tryz.zeroValue180
 i26:=by kernel_rfl
}
theorem znV {l : List Int} {k : Nat} (h : k<l.length) : l.take (k+1)=l.take k++[l[k]]:=Qp h
theorem zqH (F : Fence) (n : Nat) (h7 : F.fn 187) (hro : F.round=none) (hn : 1<=n) (l Bs B0 b off cap : Nat) (a : Option Addr) (zs : List Int) (ha : zs≠[]->a=some ⟨b,off,none⟩) (hreach : zs.length<=17592186044416) (J : List Int->World->Prop) (W : World)
  (hJ : ∀ pre W1,J pre W1 -> ∀ j (h : j<zs.length),W1.cell? ⟨b,off+j,none⟩=some (.int .i64 zs[j]))
  (hY : ∀ pre x W1,J pre W1->pre.length<zs.length->YieldAt F (n - 1) Tryz.prog l #[.int .i64 x] W1 λ e W'=>e = .returned (.bool true)/\J (pre++[x]) W'/\KeepsWalks W1 W')
  (hBs : W.cell? ⟨Bs,B0,none⟩=some (.slice a zs.length cap)) (h0 : J [] W) :
  CallsIn F n Tryz.prog 187 #[.func (.yield l) #[] #[],.pointer (some ⟨Bs,B0,none⟩)] W λ e W'=>(∃ v,e = .returned v)/\J zs W':=by
 refine callsIn_of_wp Tryz.func187 rfl h7 ?_ hro;simp only [Tryz.ntmps187,Uc,QM,UW,Nat.reduceAdd,Nat.reduceSub,Array.replicate_succ,Array.replicate_zero,List.push_toArray,List.append_toArray,Q5,QO]
 gi_wp2
 gi_loopw [7] (λ i wr=>∃ k : Nat,k<=zs.length/\i = .int .i64 k/\J (zs.take k) wr) (λ i _=>zs.length - (intOf i).toNat)
 case atStart=>exact ⟨0,Qi _,rfl,by simpa using h0⟩
 case round =>
  obtain ⟨k,hk,rfl,hJs⟩:=hrel
  by_cases hlt : k<zs.length
  .have hcx' : wr.cell? ⟨b,off+k,none⟩=some (.int .i64 zs[k]):=hJ _ _ hJs k hlt
   obtain rfl:=ha (by rintro rfl; simp at hlt)
   obtain ⟨fn,tmps,assign,body,hy,hR⟩:=hY _ zs[k] wr hJs (by rw [QW]; omega)
   gi_wp2
   refine hR.mono ?_
   rintro e W3 ⟨rfl,hJ3,hk3⟩
   gi_wp2
   go_roundw
   case rel=>exact ⟨k+1,by omega,by simp,by rw [znV hlt]; exact hJ3⟩
   case measure=>simp [intOf]; omega
  .obtain rfl : k=zs.length:=by omega
   gi_wp2
   go_end0
   exact ⟨⟨_,rfl⟩,by simpa using hJs⟩
theorem zll (F : Fence) (n : Nat) (h11 : F.fn 204) (hFg : F.fn 187) (hro : F.round=none) (hn : 2<=n) (Bs B0 b off cap : Nat) (a : Option Addr) (zs : List Int) (ha : zs≠[]->a=some ⟨b,off,none⟩) (hN : zs.length<=1099511627776) (w : World)
  (hBs : w.cell? ⟨Bs,B0,none⟩=some (.slice a zs.length cap)) (hBl : Bs<w.heap.size) (hbl : zs≠[]->b<w.heap.size) (hc : ∀ j (h : j<zs.length),w.cell? ⟨b,off+j,none⟩=some (.int .i64 zs[j])) :
  CallsIn F n Tryz.prog 204 #[.slice none 0 0,.func (.func 187) #[] #[.pointer (some ⟨Bs,B0,none⟩)]] w λ e w'=>∃ v : Value,e = .returned v/\w'.ownsRow w.heap.size 3 1 v zs.length (zs.map encZ)/\Below w.heap.size w w':=by
 have h1 : 1<=n:=by omega
 have hmax : zs.length<=maxLen:=by unfold maxLen; omega
 have L:=seqL;have hne : (22 : Nat)≠3:=by decide
 have eg : ∀ args w,(callFunc 187 args).run Tryz.prog w = .ok (.enter 187 args) w:=λ args w=>(enters_of Tryz.func187 (by kernel_rfl) rfl) args w
 refine callsIn_of_wp_marks Tryz.func204 rfl h11 ?_ hro;simp only [Tryz.ntmps204,Uc,QM,UW,Nat.reduceAdd,Nat.reduceSub,Array.replicate_succ,Array.replicate_zero,List.push_toArray,List.append_toArray,Q5,QO]
 gi_wp2
 refine wpIn_rangeFunc ?_;intro fn hfn;rw [hro];obtain ⟨W0,hW0⟩ : ∃ W0,w.alloc (.cells #[.slice none 0 0] 22)=W0:=⟨_,rfl⟩;have hs0 : W0.heap.size=w.heap.size+1:=by rw [<- hW0]; simp
 have hv0 : W0.heap[w.heap.size]? = some (.cells #[.slice none 0 0] 22 (0,0)):=by rw [<- hW0]; exact World.alloc_heap_new w _
 have hb0 : Below w.heap.size w W0:=by rw [<- hW0]; exact (Below.refl _ w).alloc (Ql _) _
 rw [hW0];obtain ⟨sv,hsv⟩ : ∃ sv : Value,sv = .func (.func 187) #[] #[.pointer (some ⟨Bs,B0,none⟩)]:=⟨_,rfl⟩;rw [<- hsv];obtain ⟨W1,hW1⟩ : ∃ W1,(W0.alloc (.deferred (some []))).alloc (.loop (AnyZI.apRec zgO fn sv w.heap.size W0.heap.size .ready none))=W1:=⟨_,rfl⟩
 have hold : ∀ k,k<W0.heap.size->W1.heap[k]? = W0.heap[k]?:=λ k hk=>by
  rw [<- hW1]; exact (Below.heap_alloc _ _ k (by simp; omega)).trans (Below.heap_alloc _ _ k hk)
 have hb1 : Below w.heap.size w W1:=by rw [<- hW1]; exact (hb0.alloc hb0.size _).alloc (by have:=hb0.size; simp; omega) _
 have hs1 : W1.heap.size=W0.heap.size+2:=by rw [<- hW1]; simp
 have hM : AnyZI.ApAt zgO w fn sv w.heap.size (W0.heap.size+1) W0.heap.size [] W1 :=
  ⟨⟨_,(hold w.heap.size (by omega)).trans hv0,⟨rfl,.inl ⟨rfl,rfl⟩⟩,by simp⟩,
   by rw [<- hW1]; have:=World.alloc_heap_new (W0.alloc (.deferred (some []))) (.loop (AnyZI.apRec zgO fn sv w.heap.size W0.heap.size .ready none)); rwa [World.size_alloc] at this,
   by rw [<- hW1]; exact (Below.heap_alloc _ _ _ (by simp)).trans (World.alloc_heap_new W0 _),hb1⟩
 refine ⟨W0.heap.size+1,[{ target:=.collected W0.heap.size,args:=#[] }],W1,{ target:=.fn (.func 187) #[.pointer (some ⟨Bs,B0,none⟩)],args:=#[.func (.yield (W0.heap.size+1)) #[] #[]] },W1,187,
  #[.func (.yield (W0.heap.size+1)) #[] #[]] ++ #[.pointer (some ⟨Bs,B0,none⟩)],W1,?_,?_,?_,?_,λ _=>h1,?_⟩
 .rw [<- hW1]; exact run_enterLoop_outer _ _ _ _ _
 .rw [hsv]; simp [resolve,go_sem]
 .intro f' hf'; simp [Target.leads] at hf'; subst hf'; exact hFg
 .simp [invoke,go_sem,eg]
 .refine (zqH F (n - 1) hFg hro (by omega) (W0.heap.size+1) Bs B0 b off cap a zs ha (by omega) (AnyZI.ApAt zgO w fn sv w.heap.size (W0.heap.size+1) W0.heap.size) W1 (λ pre W' h' j hj=>(h'.below.cell (p:=⟨b,off+j,none⟩) (hbl (by rintro rfl; simp at hj))).trans (hc j hj))
   (λ pre x W hJ hl=>AnyZI.apYield { L with } F (n - 1 - 1) w fn hfn _ w.heap.size (W0.heap.size+1) W0.heap.size (by omega) (by omega) (by omega) (Ql _) (by omega) zs.length hmax (by omega) pre x W hJ hl) ((hb1.cell (p:=⟨Bs,B0,none⟩) hBl).trans hBs) hM).mono ?_
  rintro e W2 ⟨⟨v0,rfl⟩,h2⟩
  obtain ⟨v,hv,hrow,hnil⟩:=h2.box;have hend:=run_endLoop (P:=Tryz.prog) h2.L (by simp [AnyZI.apRec])
  obtain ⟨W3,hW3⟩ : ∃ W3,W2.putObj (W0.heap.size+1) (.loop { AnyZI.apRec zgO fn sv w.heap.size W0.heap.size .ready none with state:=.exhausted })=W3:=⟨_,rfl⟩;rw [hW3] at hend;have hg3 : W2.grownBy W3 (some (W0.heap.size+1)):=by rw [<- hW3]; exact grownBy_putObj_a _ _ _
  have hv3 : W3.heap[w.heap.size]? = some (.cells #[v] 22 (0,0)):=by rw [<- hW3]; exact (World.putObj_heap_other (by omega)).trans hv
  have hK3 : W3.heap[W0.heap.size]? = some (.deferred (some [])):=by rw [<- hW3]; exact (World.putObj_heap_other (by omega)).trans h2.K
  have hrow3:=hrow.kept hg3 (ownsRow_ne_a hrow h2.L (λ cur e=>by first | cases e | exact hne (Obj.cells.inj e).2.1))
  have hb3 : Below w.heap.size w W3:=h2.below.grown hg3 h2.below.size (λ k e=>by cases e; omega)
  obtain ⟨hc3,hf3⟩:=cell_of_box_a hv3
  clear hW3
  refine ⟨none,W3,hend,?_⟩
  gi_wp2
  rw [<- hs0];refine ⟨by simp,.inl ⟨_,_,rfl,run_takeDeferred hK3,?_⟩⟩
  exact ⟨_,results_tmp rfl _ _ _,v,rfl,hrow3.kept (grownBy_putObj_a _ _ _) (ownsRow_ne_a hrow3 hK3 (λ cur e=>by first | cases e | exact hne (Obj.cells.inj e).2.1)),hb3.grown (grownBy_putObj_a _ _ _) hb3.size (λ k e=>by cases e; omega)⟩
def zhk (capt : List AV) : Prop:=∀ ρ sn h n,capt.map (conv ρ sn h (n+1))=capt
def idxQ {α : Type} (l : List α) (q : α->Bool) : Int:=if l.findIdx q<l.length then (l.findIdx q : Int) else -1
theorem zn1 {α : Type} {l : List α} {q : α->Bool} {k : Nat} (hk : k<l.length) (h1 : ∀ i,i<k -> ∀ h : i<l.length,q l[i]=false) (h2 : q l[k]=true) : idxQ l q=k:=by
 have : l.findIdx q=k:=by
  rw [List.findIdx_eq hk];exact ⟨h2,λ j hj=>by simpa using h1 j hj (by omega)⟩
 unfold idxQ;rw [this,if_pos hk]
theorem zor {α : Type} {l : List α} {q : α->Bool} (h1 : ∀ i,i<l.length -> ∀ h : i<l.length,q l[i]=false) : idxQ l q = -1:=by
 have : l.findIdx q=l.length:=by
  rw [UZ];intro x hx;obtain ⟨i,hi,rfl⟩:=QF.1 hx;exact h1 i hi hi
 unfold idxQ;rw [this,if_neg (by omega)]
theorem zfQ (f : FuncId) (capt : List AV) (q : Ed->Bool) (l : List Ed) (hl : l.length<=1099511627776) (hs : zhk capt) (hc : ∀ e∈l,AcP f (eE e::capt) [] (.B (q e)) []) : AcP 128 [eEs l,.fn (.func f) [] capt] [] (.I (idxQ l q)) []:=by
 have hs2 : ∀ ρ sn h,capt.map (conv ρ sn h 2)=capt:=λ _ _ _=>hs _ _ _ 1
 have hs3 : ∀ ρ sn h,capt.map (conv ρ sn h 3)=capt:=λ _ _ _=>hs _ _ _ 2
 have hs4 : ∀ ρ sn h,capt.map (conv ρ sn h 4)=capt:=λ _ _ _=>hs _ _ _ 3
 refine zbM.s.ac ?_;show awp _ 0 _ _ ⟨19,[(0,eEs l),(1,.fn (.func f) [] capt)],[],16⟩;refine zab (zam ?_);refine zab (zab (zam ?_));refine zad (zaj (ι:=Nat) (λ k=>⟨19,[(0,eEs l),(1,.fn (.func f) [] capt),(7,.I l.length),(8,.I k)],[],16⟩) (λ k=>k<=l.length /\ ∀ i,i<k -> ∀ h : i<l.length,q l[i]=false) (λ k=>l.length - k) (0) ?_ (Le.snap [] rfl rfl (by simp [hs2,hs3,hs4])) ?_)
 .simp
 rintro k ⟨hk,hp⟩
 refine zab (zam ?_);refine zab (zac _ rfl (λ h4=>?_) λ h4=>?_)
 .try simp at h4
  have hw2 : IntKind.i64.wrap ((k : Int)+1)=(k : Int)+1:=w6;have hck:=hc l[k] (Qj h4);refine zae (zab (zad (zab (zal (s:=?s5) rfl ?o5 ?q5))))
  case o5=>simp [h4,hw2]; rfl
  refine zab (zal (s:=?s6) rfl ?o6 ?q6)
  case o6 =>
   simp [h4,hw2];refine zau hck ?_ ?_
   .simp [hs2,hs3,hs4]
   simp [h4,hw2]; rfl
  refine zac _ rfl (λ h7=>?_) λ h7=>?_
  .try simp at h7
   refine zab (zal (s:=?s8) rfl ?o8 ?q8)
   case o8=>simp [h4,hw2]; rfl
   exact zah ⟨.inr rfl,zao.one (by simp [zn1 h4 hp h7])⟩
  try simp at h7
  refine zae (zal (s:=?s9) rfl ?o9 ?q9)
  case o9=>simp [h4,hw2]; rfl
  refine ⟨k+1,⟨h4,λ i hi=>?_⟩,by omega,Le.snap [] rfl rfl (by simp [h4,hw2,hs2,hs3,hs4])⟩
  rcases QS.1 hi with h | rfl
  .exact hp i h
  .exact λ _=>h7
 try simp at h4
 have hall : ∀ i,i<l.length -> ∀ h : i<l.length,q l[i]=false:=λ i hi=>hp i (by omega)
 refine zai (hit (zab (zam ?_)));exact zah ⟨.inr rfl,zao.one (by simp [zor hall])⟩
abbrev zaC (l : List Ed) : List (List AV):=l.map λ e=>[AV.I e.f,AV.I e.t,AV.I e.v]
theorem zf8 {l : List Ed} {q : Ed->Bool} (h : ∀ i,i<l.length -> ∀ h : i<l.length,q l[i]=false) : l.filter (λ e=>!q e)=l:=by
 rw [List.filter_eq_self];intro x hx;obtain ⟨i,hi,rfl⟩:=QF.1 hx;simp [h i hi hi]
theorem zd8 (l : List Ed) (q : Ed->Bool) (j : Nat) (h : j<l.length) : (l.take (j+1)).filter (λ e=>!q e)=(l.take j).filter (λ e=>!q e)++if q l[j]=true then [] else [l[j]]:=by
 rw [<- UH h,Uw,UJ]
 congr 1
 cases hq : q l[j] <;> simp [hq]
theorem ze0 (f : FuncId) (capt : List AV) (q : Ed->Bool) (l : List Ed) (n m : Nat) (hn : l.length=n) (hm : (l.filter λ e=>!q e).length=m) (hl : n<=1099511627776) (hs : zhk capt) (hc : ∀ e∈l,AcP f (eE e::capt) [] (.B (q e)) []) :
  AcP 76 [.rs 0 0 n,.fn (.func f) [] capt] [⟨3,zaC l,0⟩] (.rs 0 0 m) [some ⟨3,zaC (l.filter λ e=>!q e)++List.replicate (n - m) [.I 0,.I 0,.I 0],0⟩]:=by
 have hs2 : ∀ ρ sn h,capt.map (conv ρ sn h 2)=capt:=λ _ _ _=>hs _ _ _ 1
 have hs3 : ∀ ρ sn h,capt.map (conv ρ sn h 3)=capt:=λ _ _ _=>hs _ _ _ 2
 have hs4 : ∀ ρ sn h,capt.map (conv ρ sn h 4)=capt:=λ _ _ _=>hs _ _ _ 3
 refine zbH.s.acalls (nbz rfl) (nbz rfl) (nbz rfl) ?_;show awp _ 1 _ _ ⟨42,[(0,.rs 0 0 n),(1,.fn (.func f) [] capt)],[(0,some ⟨3,zaC l,0⟩)],16⟩;have hmn : m<=n:=by rw [<- hm,<- hn]; exact QV _ _
 refine zaa ⟨42,[(0,.rs 0 0 n),(1,.fn (.func f) [] capt)],[(0,some ⟨3,zaC l,0⟩)],24⟩ rfl ?_ ?_
 .simp
  exact LeK
 refine zaa ⟨42,[(0,.rs 0 0 n),(1,.fn (.func f) [] capt),(5,.I (idxQ l q))],[(0,some ⟨3,zaC l,0⟩)],56⟩ rfl ?_ ?_
 .simp
  refine zfE [0] (zfQ f capt q l (by omega) hs hc) ?_ (.sc _) ?_
  .simp [hs2,hs3,hs4,<- hn,fcd,zaq]
  simp;exact LeK
 refine zab (zaa ⟨42,[(0,.rs 0 0 n),(1,.fn (.func f) [] capt),(5,.I (idxQ l q)),(12,.B (decide (idxQ l q = -1)))],[(0,some ⟨3,zaC l,0⟩)],72⟩ rfl ?_ ?_)
 .simp
  exact Le.keep rfl (Ql _) (by simp <;> rw [QE] <;> simp) (by simp)
 refine zac _ rfl (λ h=>?_) λ h=>zae ?_
 .simp only [Qe] at h
  have hno : ∀ i,i<l.length -> ∀ h : i<l.length,q l[i]=false:=by
   intro i hi _;unfold idxQ at h;split at h
   .omega
   .rename_i hnl
    have : l.findIdx q=l.length:=by have:=U8 (xs:=l) (p:=q); omega
    rw [UZ] at this;exact this _ (Qj hi)
  have hf:=zf8 hno;rw [hf] at hm ⊢;obtain rfl : n=m:=by omega
  refine zab (zam ?_);refine zah ⟨.inr rfl,⟨[.rs 0 0 n],rfl,[],[],by simp [List.range,List.range.loop],by simp,by simp,?_,?_⟩⟩
  .simp [List.range,List.range.loop]
  .simp [List.range,List.range.loop,fcd]
 simp only [Qc] at h
 obtain ⟨i0,hi0,hlt,hbef,hat⟩ : ∃ i0 : Nat,idxQ l q=i0/\i0<l.length/\(∀ i,i<i0 -> ∀ h : i<l.length,q l[i]=false) /\ ∀ h : i0<l.length,q l[i0]=true:=by
  unfold idxQ at h ⊢;split at h
  .rename_i hlt
   refine ⟨l.findIdx q,by rw [if_pos hlt],hlt,λ i hi _=>?_,λ h=>Vc (w:=h)⟩
   simpa using List.not_of_lt_findIdx hi
  .omega
 rw [hi0]
 have hA0 : (l.take (i0+1)).filter (λ e=>!q e)=l.take i0:=by
  rw [zd8 l q i0 hlt,if_pos (hat hlt),QX];refine zf8 λ i hi h=>?_;rw [QW] at hi;simp only [UT];exact hbef i (by omega) (by omega)
 have hw0 : IntKind.i64.wrap ((i0 : Int)+1)=((i0+1 : Nat) : Int):=by rw [w6]; omega
 let C : Nat × List Ed->St:=λ p=>⟨42,[(0,.rs 0 0 n),(1,.fn (.func f) [] capt),(5,.I ((l.take p.1).filter λ e=>!q e).length),(6,.I p.1)],[(0,some ⟨3,zaC ((l.take p.1).filter (λ e=>!q e)++p.2++l.drop p.1),0⟩)],96⟩
 refine zab (zaa (C (i0+1,[l[i0]])) rfl ?_ ?_)
 .simp [hw0]
  refine Le.keep rfl (Ql _) ?_ ?_
  .simp only [C,hA0]
   simp;omega
  .simp only [C,hA0]
   simp
 refine zad (zaj C (λ p : Nat × List Ed=>p.1<=n/\p.2≠[]/\((l.take p.1).filter λ e=>!q e).length+p.2.length=p.1) (λ p : Nat × List Ed=>n - p.1) (i0+1,[l[i0]]) ?_ (Le.refl _ _) ?_)
 .simp only [hA0]
  simp;omega
 rintro ⟨j,M⟩ ⟨hj,hM,hlen⟩
 simp only at hj hM hlen ⊢;obtain ⟨A,hA⟩ : ∃ A,A=(l.take j).filter λ e=>!q e:=⟨_,rfl⟩;rw [<- hA] at hlen;have hC : C (j,M)=⟨42,[(0,.rs 0 0 n),(1,.fn (.func f) [] capt),(5,.I A.length),(6,.I j)],[(0,some ⟨3,zaC (A++M++l.drop j),0⟩)],96⟩:=by subst hA; rfl
 rw [hC];refine zab (zaa ⟨42,[(0,.rs 0 0 n),(1,.fn (.func f) [] capt),(5,.I A.length),(6,.I j),(19,.B (decide (j<n)))],[(0,some ⟨3,zaC (A++M++l.drop j),0⟩)],128⟩ rfl ?_ ?_)
 .simp
  exact LeK
 refine zac _ rfl (λ h=>zae ?_) λ h=>zai (hit ?_)
 .simp only [Qe] at h
  have hjl : j<l.length:=by omega
  match M,hM,hlen with
  | m0::M1,_,hlen =>
  simp only [QM] at hlen;have hnext:=zd8 l q j hjl;rw [<- hA] at hnext
  have hget : (zaC (A++m0::M1++l.drop j))[j]? = some [AV.I l[j].f,AV.I l[j].t,AV.I l[j].v]:=by
   rw [Qs,Qr (by simp; omega),Q8,show j+(j - (A++m0::M1).length)=j by simp; omega,Qa hjl]
   rfl
  have hget2 : (zaC (A++m0::M1++l.drop j))[A.length]? = some [AV.I m0.f,AV.I m0.t,AV.I m0.v]:=by
   rw [Qs,Qx,Qr (by omega)]
   simp
  have hset : (zaC (A++m0::M1++l.drop j)).set A.length [AV.I l[j].f,AV.I l[j].t,AV.I l[j].v]=zaC ((A++[l[j]])++(M1++[l[j]])++l.drop (j+1)):=by
   have e1 : l.drop j=l[j]::l.drop (j+1):=QQ hjl;rw [e1];simp [zaC,List.set_append]
  have hmore : A++m0::M1++l.drop j=A++(m0::M1++[l[j]])++l.drop (j+1):=by
   have e1 : l.drop j=l[j]::l.drop (j+1):=QQ hjl;rw [e1];simp
  generalize hrows : zaC (A++m0::M1++l.drop j)=R at *;have hRl : R.length=n:=by rw [<- hrows]; simp; omega
  have hck:=hc l[j] (Qj hjl);generalize hv : l[j]=v at *
  refine zap (ι:=List Ed × List Ed) (λ p=>⟨42,[(0,.rs 0 0 n),(1,.fn (.func f) [] capt),(5,.I p.1.length),(6,.I j)],[(0,some ⟨3,zaC (p.1++p.2++l.drop (j+1)),0⟩)],272⟩)
   (λ p=>p.1=(l.take (j+1)).filter (λ e=>!q e)/\p.2≠[]/\p.1.length+p.2.length=j+1) ?_ ?_
  .refine zad (zaa ⟨42,[(0,.rs 0 0 n),(1,.fn (.func f) [] capt),(5,.I A.length),(6,.I j),(7,.pt 160 0 0)],[(0,some ⟨3,R,0⟩),(160,some ⟨3,[[.I v.f,.I v.t,.I v.v]],0⟩)],176⟩ rfl ?_ ?_)
   .simp [h,hget]
    exact LeK
   refine zaa ⟨42,[(0,.rs 0 0 n),(1,.fn (.func f) [] capt),(5,.I A.length),(6,.I j),(7,.pt 160 0 0),(29,.B (!q v))],[(0,some ⟨3,R,0⟩),(160,some ⟨3,[[.I v.f,.I v.t,.I v.v]],0⟩)],208⟩ rfl ?_ ?_
   .simp
    refine zau hck ?_ ?_
    .simp [hs2,hs3,hs4]
    simp;exact LeK
   refine zac _ rfl (λ h5=>?_) λ h5=>zae ?_
   .simp only [UA] at h5
    rw [h5] at hnext;refine zaa ⟨42,[(0,.rs 0 0 n),(1,.fn (.func f) [] capt),(5,.I A.length),(6,.I j)],[(0,some ⟨3,zaC ((A++[v])++(M1++[v])++l.drop (j+1)),0⟩)],248⟩ rfl ?_ ?_
    .simp [hget2,show A.length<n by omega,zat,hset]
     exact LeK
    have hwA : IntKind.i64.wrap ((A.length : Int)+1)=((A.length+1 : Nat) : Int):=by rw [w6]; omega
    refine zan rfl ?_;simp [hwA];refine ⟨A++[v],M1++[v],⟨by rw [hnext]; simp,by simp,by simp; omega⟩,LeK⟩
   .simp only [Bool.not_eq_false'] at h5
    rw [h5] at hnext;refine ⟨(A,m0::M1++[v]),⟨by rw [hnext]; simp,by simp,by simp; omega⟩,Le.keep rfl (nbz rfl) (by simp) ?_⟩
    rw [<- hmore,hrows];simp
  rintro ⟨A',M'⟩ ⟨p1,p2,p3⟩
  simp only at p1 p2 p3 ⊢;have hwj : IntKind.i64.wrap ((j : Int)+1)=((j+1 : Nat) : Int):=by rw [w6]; omega
  refine zan rfl ?_;simp [hwj];refine ⟨j+1,M',⟨by omega,p2,by rw [<- p1]; omega⟩,by omega,?_⟩
  have hD : C (j+1,M')=⟨42,[(0,.rs 0 0 n),(1,.fn (.func f) [] capt),(5,.I A'.length),(6,.I ((j+1 : Nat) : Int))],[(0,some ⟨3,zaC (A'++M'++l.drop (j+1)),0⟩)],96⟩:=by rw [p1]
  rw [hD];refine Le.ents [(0,0)] [] rfl (by simp) (by simp) (by simp) (by simp) (by simp) (by simp [hs2,hs3,hs4]) λ p hp=>?_
  simp at hp;subst hp;exact ⟨0,_,_,rfl,by simp,rfl,zaA.eq (by simp [fcd]) (by simp)⟩
 simp only [Qc] at h;obtain rfl : j=n:=by omega
 have hd : l.drop j=[]:=Um (by omega)
 have ht : l.take j=l:=Qb (by omega)
 rw [ht] at hA;rw [hd,QX];rw [<- hA] at hm ⊢;subst hm;have hAM : (zaC (A++M)).take A.length=zaC A:=by simp [zaC]
 have hAd : (zaC (A++M)).drop (A.length+(j - A.length))=[]:=Um (by simp; omega)
 have hAl : (zaC (A++M)).length=j:=by simp; omega
 generalize zaC (A++M)=R at *;refine zaa ⟨42,[(0,.rs 0 0 j),(5,.I A.length)],[(0,some ⟨3,zaC A++List.replicate (j - A.length) [.I 0,.I 0,.I 0],0⟩)],160⟩ rfl ?_ ?_
 .simp
  refine ⟨by omega,by omega,?_⟩
  rw [hAM,hAd];exact LeK
 refine zab (zal (s:=?s2) rfl ?o2 ?q2)
 case o2 =>
  simp;refine ⟨by omega,?_⟩
  rfl
 refine zah ⟨.inr rfl,⟨[.rs 0 0 A.length],rfl,[],[],by simp [List.range,List.range.loop],by simp,by simp,?_,?_⟩⟩
 .simp [List.range,List.range.loop]
 .simp [List.range,List.range.loop,fcd]
def zag (g : Gr) (v : Int) : Gr:=⟨g.size,g.edges.filter λ e=>!decide (e.v<v),g.gone⟩
theorem zdB (e : Ed) (v : Int) : AcP 77 [eE e,.pv [.I v]] [] (.B (decide (e.v<v))) []:=by
 refine ziw.s.ac ?_;show awp _ 0 _ _ ⟨8,[(0,eE e),(1,.pv [.I v])],[],16⟩;refine zaa ⟨8,[(1,.pv [.I v]),(2,.pv (eC e))],[],16⟩ rfl ?_ ?_
 .simp
  exact Le.snap [16] rfl rfl (by simp)
 refine zab (zam ?_);exact zaI
theorem zbO (g : Gr) (v : Int) (hl : g.edges.length<=1099511627776) (hl2 : g.gone.length<=1099511627776) : AcP 38 [eG g,.I v] [] (eG (zag g v)) []:=by
 refine zg0.s.ac ?_;show awp _ 0 _ _ ⟨14,[(0,eG g),(1,.I v)],[],16⟩;obtain ⟨E,hE⟩ : ∃ E,E=g.edges.filter λ e=>!decide (e.v<v):=⟨_,rfl⟩;have hEl : E.length<=g.edges.length:=by rw [hE]; exact QV _ _
 have hdel:=ze0 77 [.pv [.I v]] (λ e=>decide (e.v<v)) g.edges g.edges.length E.length rfl (by rw [hE]) hl (λ ρ sn h n=>by simp) (λ e _=>zdB e v)
 rw [<- hE] at hdel;have hres : zag g v=⟨g.size,E,g.gone⟩:=by rw [hE]; rfl
 rw [hres];refine zaa ⟨14,[(2,.pv (gC g)),(3,.pt 24 0 0),(4,.pt 32 0 0)],[(24,some ⟨1,[[.I v]],0⟩),(32,some zG)],40⟩ rfl ?_ ?_
 .simp
  refine Le.ents [(24,24),(32,32)] [16] rfl (by simp) (by simp) (by simp) (by simp) (by simp) (by simp) λ p hp=>?_
  simp at hp;rcases hp with rfl | rfl
  .exact ⟨24,_,_,rfl,by simp,rfl,zaA.eq (by simp) (by simp)⟩
  .exact ⟨32,_,_,rfl,by simp,rfl,zaA.eq (by simp) (by simp)⟩
 refine zaa ⟨14,[(3,.pt 24 0 0),(4,.pt 32 0 0),(5,.pt 56 0 0)],[(24,some ⟨1,[[.I v]],0⟩),(32,some zG),(56,some ⟨3,[[.I g.size,.rs 48 0 g.edges.length,.rs 49 0 g.gone.length]],0⟩),(48,some ⟨3,zaC g.edges,0⟩),(49,some ⟨1,g.gone.map λ n=>[AV.I n],0⟩)],72⟩ rfl ?_ ?_
 .simp
  refine zoP (zen g (by omega) (by omega)) rfl ?_
  simp [fcd];exact LeK
 refine zaa ⟨14,[(4,.pt 32 0 0),(5,.pt 56 0 0)],[(32,some zG),(56,some ⟨3,[[.I g.size,.rs 48 0 E.length,.rs 49 0 g.gone.length]],0⟩),(48,some ⟨3,zaC E++List.replicate (g.edges.length - E.length) [.I 0,.I 0,.I 0],0⟩),(49,some ⟨1,g.gone.map λ n=>[AV.I n],0⟩)],120⟩ rfl ?_ ?_
 .simp
  refine zki (i:=48) (j:=24) (by decide) (Qi _) rfl rfl ?_ hdel (by simp) ?_ ?_
  .simp [fcd]
  .simp
  simp [fcd];exact LeK
 refine zab (zam ?_);refine zah ⟨.inr rfl,?_⟩;show zao [(4,some (true,3))] 0 _ _ _;refine zao.out (vs:=[.agg [.I g.size,.rs 48 0 E.length,.rs 49 0 g.gone.length]]) [] [48,49] (by simp) (by simp) (by simp) ?_ (by simp)
 simp [fcd,zaq]
theorem zmS (l : List Ed) (v : Int) (k : Nat) (h : k<l.length) : (l.take (k+1)).filter (λ e=>!decide (e.v<v))=(l.take k).filter (λ e=>!decide (e.v<v))++if v<=l[k].v then [l[k]] else []:=by
 rw [<- UH h,Uw,UJ]
 congr 1
 by_cases hq : v<=l[k].v
 .have : ¬ l[k].v<v:=by omega
  simp [hq,this]
 .have : l[k].v<v:=by omega
  simp [hq,this]
theorem zct (g : Gr) (v : Int) (hl : g.edges.length<=1099511627776) (hl2 : g.gone.length<=1099511627776) : AcP 29 [eG g,.I v] [] (eG (zag g v)) []:=by
 refine zlC.s.ac ?_;show awp _ 0 _ _ ⟨36,[(0,eG g),(1,.I v)],[],16⟩;refine zaa ⟨36,[(1,.I v),(2,.pv (gC g)),(4,.pt 24 0 0)],[(24,some zG)],32⟩ rfl ?_ ?_
 .simp
  refine Le.ents [(24,24)] [16] rfl (by simp) (by simp) (by simp) (by simp) (by simp) (by simp) λ p hp=>?_
  simp at hp;subst hp;exact ⟨24,_,_,rfl,by simp,rfl,zaA.eq (by simp) (by simp)⟩
 refine zaa ⟨36,[(1,.I v),(2,.pv (gC g)),(4,.pt 24 0 0),(5,.pt 48 0 0)],[(24,some zG),(48,some ⟨3,[[.I g.size,.rs 40 0 g.edges.length,.rs 41 0 g.gone.length]],0⟩),(40,some ⟨3,zaC g.edges,0⟩),(41,some ⟨1,g.gone.map λ n=>[AV.I n],0⟩)],64⟩ rfl ?_ ?_
 .simp
  refine zoP (zfB g (by omega) (by omega)) rfl ?_
  simp [fcd];exact LeK
 refine zaa ⟨36,[(1,.I v),(2,.pv (gC g)),(4,.pt 24 0 0),(5,.pt 48 0 0)],[(24,some zG),(48,some ⟨3,[[.I g.size,.nilS,ints g.gone]],0⟩)],80⟩ rfl ?_ ?_
 .simp
  refine Le.ents [(24,24),(48,48)] [41] rfl (by simp) (by simp) (by simp) (by simp) (by simp) (by simp) λ p hp=>?_
  simp at hp;rcases hp with rfl | rfl
  .exact ⟨24,_,_,rfl,by simp,rfl,zaA.eq (by simp) (by simp)⟩
  .exact ⟨48,_,_,rfl,by simp,rfl,zaA.eq (by simp [zat,fcd,zaq]) (by simp)⟩
 refine zab (zaa ⟨36,[(1,.I v),(2,.pv (gC g)),(4,.pt 24 0 0),(5,.pt 48 0 0),(6,.I 0)],[(24,some zG),(48,some ⟨3,[[.I g.size,.nilS,ints g.gone]],0⟩)],88⟩ rfl ?_ ?_)
 .simp
  exact LeK
 refine zad ?_
 let F : Nat->List Ed:=λ k=>(g.edges.take k).filter λ e=>!decide (e.v<v)
 let C : Nat->St:=λ k=>⟨36,[(1,.I v),(2,.pv (gC g)),(4,.pt 24 0 0),(5,.pt 48 0 0),(6,.I k)],[(24,some zG),(48,some ⟨3,[[.I g.size,.rs 16 0 (F k).length,ints g.gone]],0⟩),(16,some ⟨3,zaC (F k),0⟩)],88⟩
 refine zaj C (λ k=>k<=g.edges.length) (λ k=>g.edges.length - k) 0 (Qi _) ?_ ?_
 .refine Le.lst [(24,24),(48,48)] [] [(16,3)] rfl (by simp) (by simp) (by simp [C]) (by simp [C]) (by simp) (by simp) (by simp) (by simp [C,Up]) λ p hp e' he'=>?_
  simp [C] at hp;rcases hp with rfl | rfl | rfl
  .cases he'
   exact .inl ⟨(24,24),by simp,rfl,_,rfl,zaA.eq (by simp) (by simp)⟩
  .cases he'
   refine .inl ⟨(48,48),by simp,rfl,_,rfl,zaA.row (by simp; rfl) (by simp) ?_⟩
   exact ⟨.inl (.refl _),.inr ⟨rfl,16,3,by simp [F],by simp⟩,.inl (.refl _),trivial⟩
  .cases he'
   exact .inr ⟨by simp,by simp [F],rfl⟩
 intro k hk
 have hFl : (F k).length<=k:=by
  have h1 : (F k).length<=(g.edges.take k).length:=QV _ _;simp at h1;omega
 have hC : C k=⟨36,[(1,.I v),(2,.pv (gC g)),(4,.pt 24 0 0),(5,.pt 48 0 0),(6,.I k)],[(24,some zG),(48,some ⟨3,[[.I g.size,.rs 16 0 (F k).length,ints g.gone]],0⟩),(16,some ⟨3,zaC (F k),0⟩)],88⟩:=rfl;rw [hC];refine zab (zaa ⟨36,[(1,.I v),(2,.pv (gC g)),(4,.pt 24 0 0),(5,.pt 48 0 0),(6,.I k),(14,.B (decide (k<g.edges.length)))],[(24,some zG),(48,some ⟨3,[[.I g.size,.rs 16 0 (F k).length,ints g.gone]],0⟩),(16,some ⟨3,zaC (F k),0⟩)],128⟩ rfl ?_ ?_)
 .simp
  exact LeK
 refine zac _ rfl (λ h=>zae ?_) λ h=>zai (hit ?_)
 .simp only [Qe] at h
  have hnext:=zmS g.edges v k h;have hFs : F (k+1)=F k++if v<=g.edges[k].v then [g.edges[k]] else []:=hnext
  refine zap (ι:=Unit) (λ _=>⟨36,[(1,.I v),(2,.pv (gC g)),(4,.pt 24 0 0),(5,.pt 48 0 0),(6,.I k)],[(24,some zG),(48,some ⟨3,[[.I g.size,.rs 16 0 (F (k+1)).length,ints g.gone]],0⟩),(16,some ⟨3,zaC (F (k+1)),0⟩)],280⟩) (λ _=>True) ?_ λ _ _=>?_
  .rw [hFs]
   generalize F k=A at *;refine zad (zaa ⟨36,[(1,.I v),(2,.pv (gC g)),(4,.pt 24 0 0),(5,.pt 48 0 0),(6,.I k),(24,.B (decide (v<=g.edges[k].v)))],[(24,some zG),(48,some ⟨3,[[.I g.size,.rs 16 0 A.length,ints g.gone]],0⟩),(16,some ⟨3,zaC A,0⟩)],192⟩ rfl ?_ ?_)
   .simp [h]
    exact LeK
   refine zac _ rfl (λ h5=>?_) λ h5=>zae ?_
   .simp only [Qe] at h5
    rw [if_pos h5];refine zaP rfl ?_;have hrl : (zaC A).length=A.length:=by simp
    simp [h,zat,List.replicate];refine ⟨by omega,by omega,rfl,?_⟩
    refine Le.ents [(24,24),(48,48),(256,16)] [] rfl (by simp) (by simp) (by simp) (by simp) (by simp) (by simp) λ p hp=>?_
    simp at hp;rcases hp with rfl | rfl | rfl
    .exact ⟨24,_,_,rfl,by simp,rfl,zaA.eq (by simp) (by simp)⟩
    .exact ⟨48,_,_,rfl,by simp,rfl,zaA.eq (by simp) (by simp)⟩
    .exact ⟨256,_,_,rfl,by simp,rfl,zaA.eq (by simp [fcd,zaq]) (by simp)⟩
   .simp only [Qc] at h5
    rw [if_neg h5,QX];exact ⟨(),trivial,Le.keep rfl (nbz rfl) (by simp) (by simp)⟩
  have hwj : IntKind.i64.wrap ((k : Int)+1)=((k+1 : Nat) : Int):=by rw [w6]; omega
  refine zan rfl ?_;simp [hwj];refine ⟨k+1,by omega,by omega,?_⟩
  refine Le.ents [(24,24),(48,48),(16,16)] [] rfl (by simp) (by simp) (by simp [C]) (by simp) (by simp [C]) (by simp [C]) λ p hp=>?_
  simp [C] at hp;rcases hp with rfl | rfl | rfl
  .exact ⟨24,_,_,rfl,by simp,rfl,zaA.eq (by simp) (by simp)⟩
  .exact ⟨48,_,_,rfl,by simp,rfl,zaA.eq (by simp) (by simp)⟩
  .exact ⟨16,_,_,rfl,by simp,rfl,zaA.eq (by simp [fcd]) (by simp)⟩
 simp only [Qc] at h;obtain rfl : k=g.edges.length:=by omega
 have hF : F g.edges.length=(zag g v).edges:=by
  show (g.edges.take g.edges.length).filter _=_;rw [Qb (Ql _)];rfl
 rw [hF];have hres : zag g v=⟨g.size,(zag g v).edges,g.gone⟩:=rfl;rw [hres];generalize (zag g v).edges=E at *;refine zab (zam ?_);refine zah ⟨.inr rfl,?_⟩;show zao [(4,some (true,3))] 0 _ _ _;refine zao.out (vs:=[.agg [.I g.size,.rs 16 0 E.length,ints g.gone]]) [] [16] (by simp) (by simp) (by simp) ?_ (by simp)
 simp [fcd,zaq]
def zpz (g : Gr) (lv f t : Int) : Prop:=∃ e∈g.edges,e.f=f/\e.t=t/\lv<=e.v
theorem zck : ∀ {a b : List Int},a.Nodup->(∀ x∈a,x∈b)->b.length<=a.length->a.Perm b
 | [],b,_,_,hl=>by
   have : b=[]:=UU.1 (by simpa using hl)
   rw [this]
 | x::a,b,hn,hs,hl=>by
   have hx : x∈b:=hs x (Qm ..);rw [Q6] at hn;have hb:=List.perm_cons_erase hx;have hlb : (b.erase x).length+1=b.length:=by have:=hb.length_eq; simp at this; omega
   refine (List.Perm.cons x (zck hn.2 (λ y hy=>?_) ?_)).trans hb.symm
   .have hy2:=hs y (Qk _ hy)
    have hne : y≠x:=λ e=>hn.1 (e ▸ hy);exact (List.mem_erase_of_ne hne).2 hy2
   .rw [QM] at hl
    omega
def srt (l : List Int) : List Int:=l.mergeSort λ x y=>decide (x<=y)
theorem zbs (l : List Int) : (srt l).Perm l:=List.mergeSort_perm ..
theorem zmV (l : List Int) : (srt l).Pairwise (· <= ·):=by
 have h:=List.pairwise_mergeSort (le:=λ x y : Int=>decide (x<=y)) (λ a b c h1 h2=>by simp at *; omega) (λ a b=>by simp; omega) l
 exact h.imp λ {a b} h=>by simpa using h
theorem zdu {a b : List Int} : srt a=srt b↔a.Perm b:=by
 constructor
 .intro h
  exact (zbs a).symm.trans (h ▸ zbs b)
 .intro h
  exact List.Perm.eq_of_pairwise (le:=(· <= ·)) (λ x y _ _ h1 h2=>by omega) (zmV a) (zmV b) (((zbs a).trans h).trans (zbs b).symm)
def zt0 (g : Gr) (lv : Int) (seeds order w : List Int) : Prop :=
 (∃ k,w.head? = some k/\k∈seeds)/\(∀ k∈w,k∈order)/\w.Nodup /\ ∀ i (h : i+1<w.length),zpz g lv w[i] w[i+1]
def begC (P : List (List Int)) (k : Int) : Nat:=P.countP λ w=>decide (w.head? = some k)
def useC (P : List (List Int)) (k : Int) : Nat:=(P.flatMap List.dropLast).count k
def zkq (c : List Int) (P : List (List Int)) : Prop:=∀ k (h : k<c.length),(begC P k : Int)<=c[k]/\(useC P k : Int)<=max 0 (c[k] - 1)
def zgH (P : List (List Int)) : List Int:=P.filterMap List.getLast?
def zgJ (g : Gr) (lv : Int) (seeds order c : List Int) (P : List (List Int)) (ends : List Int) : Prop :=
 (∀ w∈P,zt0 g lv seeds order w)/\zkq c P/\srt (zgH P)=srt ends
def zi1 (g : Gr) (lv : Int) (seeds order c : List Int) (P : List (List Int)) (ends : List Int) : Prop :=
 P.length=ends.length/\ends.Nodup/\(∀ w∈P,zt0 g lv seeds order w)/\(∀ k∈zgH P,k∈ends)/\(zgH P).Nodup/\zkq c P
theorem zt0.ne {g : Gr} {lv : Int} {seeds order w : List Int} (h : zt0 g lv seeds order w) : w≠[]:=by
 rintro rfl
 obtain ⟨k,hk,_⟩:=h.1
 cases hk
theorem zmB {P : List (List Int)} (h : ∀ w∈P,w≠[]) : (zgH P).length=P.length:=by
 unfold zgH
 induction P with
 | nil=>rfl
 | cons w P ih =>
   have hw:=h w (Qm ..);rw [UQ,List.getLast?_eq_some_getLast hw];simp only [QM];rw [ih λ x hx=>h x (Qk _ hx)]
theorem zjC {g : Gr} {lv : Int} {seeds order c : List Int} {P : List (List Int)} {ends : List Int} (hn : ends.Nodup) : zgJ g lv seeds order c P ends↔zi1 g lv seeds order c P ends:=by
 constructor
 .rintro ⟨h1,h2,h3⟩
  have hp:=zdu.1 h3;have hl:=zmB λ w hw=>(h1 w hw).ne;exact ⟨by rw [<- hl,hp.length_eq],hn,h1,λ k hk=>hp.mem_iff.1 hk,hp.nodup_iff.2 hn,h2⟩
 .rintro ⟨h0,_,h1,h2,h3,h4⟩
  have hl:=zmB λ w hw=>(h1 w hw).ne;exact ⟨h1,h4,zdu.2 (zck h3 h2 (by omega))⟩
def zfO (order : List Int) (key : Int) : List Int:=order.takeWhile λ x=>decide (x≠key)
theorem zob (x : Int) (o : List Int) (key : Int) : zfO (x::o) key=if x=key then [] else x::zfO o key:=by
 unfold zfO;rw [List.takeWhile_cons]
 by_cases h : x=key <;> simp [h]
def zeo (order l : List Int) (key : Int) : Prop:=l.Sublist (zfO order key)
theorem zjr (order : List Int) (key : Int) : key∉zfO order key:=by
 induction order with
 | nil=>simp [zfO]
 | cons x o ih =>
   rw [zob];split
   .simp
   .rename_i h
    simp only [Qu,not_or];exact ⟨λ e=>h e.symm,ih⟩
theorem zeo.nodup {order l : List Int} {key : Int} (h : zeo order l key) (hn : order.Nodup) : (l++[key]).Nodup:=by
 rw [Ue];refine ⟨(hn.sublist (List.takeWhile_sublist _)).sublist h,by simp,λ x hx y hy=>?_⟩
 rw [QB] at hy;subst hy
 rintro rfl
 exact zjr order x (h.subset hx)
theorem zqx (l : List Ed) (key : Int) : (outs l key).length=l.countP λ e=>decide (e.f=key):=by
 induction l with
 | nil=>rfl
 | cons e l ih =>
   unfold outs at *
   by_cases h : e.f=key <;> simp [UQ,List.countP_cons,h,ih]
theorem GrOk.fits {g : Gr} (h : GrOk g) : ∀ e∈g.edges,Fits g e:=by
 intro e he;obtain ⟨i,hi,rfl⟩:=QF.1 he;exact (h.2 i hi).1
theorem EqG.rfl' (a : Gr) : EqG a a:=⟨rfl,rfl,rfl⟩
abbrev zes (l : List Int) : List Int:=l.mergeSort λ x y=>decide (x<=y)
theorem zgr (l : List Int) : (zes l).length=l.length:=List.length_mergeSort ..
theorem zqk {l : List Int} {x : Int} : x∈zes l↔x∈l:=List.mem_mergeSort
theorem GrOk.pair {g : Gr} (h : GrOk g) : g.edges.Pairwise Bef:=by
 rw [QR];intro i j hi hj hij;exact h.lt j i hi hj hij
theorem zgi {st st' : St} {i j : Nat} {sn : List Nat} {e e' : Ent} (hsz : st'.sz=st.sz) (hh : st'.h=[(j,some e')]) (hj : j<st'.n) (hs : ∀ k∈sn,k≠i) (he : st.hp i=some e) (hee : zaw [(i,j)] sn st.hp 4 e=e') (hr : e'.ro<=e'.rows.length) (ht : ∀ p∈st'.t,Wk (conv [(i,j)] sn st.hp 4 (st.get p.1)) p.2) : Le 0 st st' :=
 Le.ents [(i,j)] sn hsz (by simp) (by simp) (by simpa using hj) (by simpa using hs) (Qi _) ht (λ p hp=>by
  rw [hh] at hp;simp at hp;subst hp
  exact ⟨i,e,e',rfl,by simp,he,zaA.eq hee hr⟩)
theorem zfr (f : FuncId) (capt : List AV) (q : Int->Bool) (l : List Int) (hl : l.length<=1099511627776) (hs : zhk capt) (hc : ∀ e∈l,AcP f (AV.I e::capt) [] (.B (q e)) []) : AcP 131 [ints l,.fn (.func f) [] capt] [] (.I (idxQ l q)) []:=by
 have hs2 : ∀ ρ sn h,capt.map (conv ρ sn h 2)=capt:=λ _ _ _=>hs _ _ _ 1
 have hs3 : ∀ ρ sn h,capt.map (conv ρ sn h 3)=capt:=λ _ _ _=>hs _ _ _ 2
 have hs4 : ∀ ρ sn h,capt.map (conv ρ sn h 4)=capt:=λ _ _ _=>hs _ _ _ 3
 refine zc2.s.ac ?_;show awp _ 0 _ _ ⟨19,[(0,ints l),(1,.fn (.func f) [] capt)],[],16⟩;refine zab (zam ?_);refine zab (zab (zam ?_));refine zad (zaj (ι:=Nat) (λ k=>⟨19,[(0,ints l),(1,.fn (.func f) [] capt),(7,.I l.length),(8,.I k)],[],16⟩) (λ k=>k<=l.length /\ ∀ i,i<k -> ∀ h : i<l.length,q l[i]=false) (λ k=>l.length - k) (0) ?_ (Le.snap [] rfl rfl (by simp [hs2,hs3,hs4])) ?_)
 .simp
 rintro k ⟨hk,hp⟩
 refine zab (zam ?_);refine zab (zac _ rfl (λ h4=>?_) λ h4=>?_)
 .try simp at h4
  have hw2 : IntKind.i64.wrap ((k : Int)+1)=(k : Int)+1:=w6;have hck:=hc l[k] (Qj h4);refine zae (zab (zad (zab (zal (s:=?s5) rfl ?o5 ?q5))))
  case o5=>simp [h4,hw2]; rfl
  refine zab (zal (s:=?s6) rfl ?o6 ?q6)
  case o6 =>
   simp [h4,hw2];refine zau hck ?_ ?_
   .simp [hs2,hs3,hs4]
   simp [h4,hw2]; rfl
  refine zac _ rfl (λ h7=>?_) λ h7=>?_
  .try simp at h7
   refine zab (zal (s:=?s8) rfl ?o8 ?q8)
   case o8=>simp [h4,hw2]; rfl
   exact zah ⟨.inr rfl,zao.one (by simp [zn1 h4 hp h7])⟩
  try simp at h7
  refine zae (zal (s:=?s9) rfl ?o9 ?q9)
  case o9=>simp [h4,hw2]; rfl
  refine ⟨k+1,⟨h4,λ i hi=>?_⟩,by omega,Le.snap [] rfl rfl (by simp [h4,hw2,hs2,hs3,hs4])⟩
  rcases QS.1 hi with h | rfl
  .exact hp i h
  .exact λ _=>h7
 try simp at h4
 have hall : ∀ i,i<l.length -> ∀ h : i<l.length,q l[i]=false:=λ i hi=>hp i (by omega)
 refine zai (hit (zab (zam ?_)));exact zah ⟨.inr rfl,zao.one (by simp [zor hall])⟩
abbrev zaf (l : List Int) : List (List AV):=l.map λ e=>[AV.I e]
theorem zeZ {l : List Int} {q : Int->Bool} (h : ∀ i,i<l.length -> ∀ h : i<l.length,q l[i]=false) : l.filter (λ e=>!q e)=l:=by
 rw [List.filter_eq_self];intro x hx;obtain ⟨i,hi,rfl⟩:=QF.1 hx;simp [h i hi hi]
theorem zdA (l : List Int) (q : Int->Bool) (j : Nat) (h : j<l.length) : (l.take (j+1)).filter (λ e=>!q e)=(l.take j).filter (λ e=>!q e)++if q l[j]=true then [] else [l[j]]:=by
 rw [<- UH h,Uw,UJ]
 congr 1
 cases hq : q l[j] <;> simp [hq]
theorem zjt (f : FuncId) (capt : List AV) (q : Int->Bool) (l : List Int) (n m : Nat) (hn : l.length=n) (hm : (l.filter λ e=>!q e).length=m) (hl : n<=1099511627776) (hs : zhk capt) (hc : ∀ e∈l,AcP f (AV.I e::capt) [] (.B (q e)) []) :
  AcP 82 [.rs 0 0 n,.fn (.func f) [] capt] [⟨1,zaf l,0⟩] (.rs 0 0 m) [some ⟨1,zaf (l.filter λ e=>!q e)++List.replicate (n - m) [.I 0],0⟩]:=by
 have hs2 : ∀ ρ sn h,capt.map (conv ρ sn h 2)=capt:=λ _ _ _=>hs _ _ _ 1
 have hs3 : ∀ ρ sn h,capt.map (conv ρ sn h 3)=capt:=λ _ _ _=>hs _ _ _ 2
 have hs4 : ∀ ρ sn h,capt.map (conv ρ sn h 4)=capt:=λ _ _ _=>hs _ _ _ 3
 refine zcY.s.acalls (nbz rfl) (nbz rfl) (nbz rfl) ?_;show awp _ 1 _ _ ⟨42,[(0,.rs 0 0 n),(1,.fn (.func f) [] capt)],[(0,some ⟨1,zaf l,0⟩)],16⟩;have hmn : m<=n:=by rw [<- hm,<- hn]; exact QV _ _
 refine zaa ⟨42,[(0,.rs 0 0 n),(1,.fn (.func f) [] capt)],[(0,some ⟨1,zaf l,0⟩)],24⟩ rfl ?_ ?_
 .simp
  exact LeK
 refine zaa ⟨42,[(0,.rs 0 0 n),(1,.fn (.func f) [] capt),(5,.I (idxQ l q))],[(0,some ⟨1,zaf l,0⟩)],56⟩ rfl ?_ ?_
 .simp
  refine zfE [0] (zfr f capt q l (by omega) hs hc) ?_ (.sc _) ?_
  .simp [hs2,hs3,hs4,<- hn,fcd,zaq]
  simp;exact LeK
 refine zab (zaa ⟨42,[(0,.rs 0 0 n),(1,.fn (.func f) [] capt),(5,.I (idxQ l q)),(12,.B (decide (idxQ l q = -1)))],[(0,some ⟨1,zaf l,0⟩)],72⟩ rfl ?_ ?_)
 .simp
  exact Le.keep rfl (Ql _) (by simp <;> rw [QE] <;> simp) (by simp)
 refine zac _ rfl (λ h=>?_) λ h=>zae ?_
 .simp only [Qe] at h
  have hno : ∀ i,i<l.length -> ∀ h : i<l.length,q l[i]=false:=by
   intro i hi _;unfold idxQ at h;split at h
   .omega
   .rename_i hnl
    have : l.findIdx q=l.length:=by have:=U8 (xs:=l) (p:=q); omega
    rw [UZ] at this;exact this _ (Qj hi)
  have hf:=zeZ hno;rw [hf] at hm ⊢;obtain rfl : n=m:=by omega
  refine zab (zam ?_);refine zah ⟨.inr rfl,⟨[.rs 0 0 n],rfl,[],[],by simp [List.range,List.range.loop],by simp,by simp,?_,?_⟩⟩
  .simp [List.range,List.range.loop]
  .simp [List.range,List.range.loop,fcd]
 simp only [Qc] at h
 obtain ⟨i0,hi0,hlt,hbef,hat⟩ : ∃ i0 : Nat,idxQ l q=i0/\i0<l.length/\(∀ i,i<i0 -> ∀ h : i<l.length,q l[i]=false) /\ ∀ h : i0<l.length,q l[i0]=true:=by
  unfold idxQ at h ⊢;split at h
  .rename_i hlt
   refine ⟨l.findIdx q,by rw [if_pos hlt],hlt,λ i hi _=>?_,λ h=>Vc (w:=h)⟩
   simpa using List.not_of_lt_findIdx hi
  .omega
 rw [hi0]
 have hA0 : (l.take (i0+1)).filter (λ e=>!q e)=l.take i0:=by
  rw [zdA l q i0 hlt,if_pos (hat hlt),QX];refine zeZ λ i hi h=>?_;rw [QW] at hi;simp only [UT];exact hbef i (by omega) (by omega)
 have hw0 : IntKind.i64.wrap ((i0 : Int)+1)=((i0+1 : Nat) : Int):=by rw [w6]; omega
 let C : Nat × List Int->St:=λ p=>⟨42,[(0,.rs 0 0 n),(1,.fn (.func f) [] capt),(5,.I ((l.take p.1).filter λ e=>!q e).length),(6,.I p.1)],[(0,some ⟨1,zaf ((l.take p.1).filter (λ e=>!q e)++p.2++l.drop p.1),0⟩)],96⟩
 refine zab (zaa (C (i0+1,[l[i0]])) rfl ?_ ?_)
 .simp [hw0]
  refine Le.keep rfl (Ql _) ?_ ?_
  .simp only [C,hA0]
   simp;omega
  .simp only [C,hA0]
   simp
 refine zad (zaj C (λ p : Nat × List Int=>p.1<=n/\p.2≠[]/\((l.take p.1).filter λ e=>!q e).length+p.2.length=p.1) (λ p : Nat × List Int=>n - p.1) (i0+1,[l[i0]]) ?_ (Le.refl _ _) ?_)
 .simp only [hA0]
  simp;omega
 rintro ⟨j,M⟩ ⟨hj,hM,hlen⟩
 simp only at hj hM hlen ⊢;obtain ⟨A,hA⟩ : ∃ A,A=(l.take j).filter λ e=>!q e:=⟨_,rfl⟩;rw [<- hA] at hlen;have hC : C (j,M)=⟨42,[(0,.rs 0 0 n),(1,.fn (.func f) [] capt),(5,.I A.length),(6,.I j)],[(0,some ⟨1,zaf (A++M++l.drop j),0⟩)],96⟩:=by subst hA; rfl
 rw [hC];refine zab (zaa ⟨42,[(0,.rs 0 0 n),(1,.fn (.func f) [] capt),(5,.I A.length),(6,.I j),(19,.B (decide (j<n)))],[(0,some ⟨1,zaf (A++M++l.drop j),0⟩)],128⟩ rfl ?_ ?_)
 .simp
  exact LeK
 refine zac _ rfl (λ h=>zae ?_) λ h=>zai (hit ?_)
 .simp only [Qe] at h
  have hjl : j<l.length:=by omega
  match M,hM,hlen with
  | m0::M1,_,hlen =>
  simp only [QM] at hlen;have hnext:=zdA l q j hjl;rw [<- hA] at hnext
  have hget : (zaf (A++m0::M1++l.drop j))[j]? = some [AV.I l[j]]:=by
   rw [Qs,Qr (by simp; omega),Q8,show j+(j - (A++m0::M1).length)=j by simp; omega,Qa hjl]
   rfl
  have hget2 : (zaf (A++m0::M1++l.drop j))[A.length]? = some [AV.I m0]:=by
   rw [Qs,Qx,Qr (by omega)]
   simp
  have hset : (zaf (A++m0::M1++l.drop j)).set A.length [AV.I l[j]]=zaf ((A++[l[j]])++(M1++[l[j]])++l.drop (j+1)):=by
   have e1 : l.drop j=l[j]::l.drop (j+1):=QQ hjl;rw [e1];simp [zaf,List.set_append]
  have hmore : A++m0::M1++l.drop j=A++(m0::M1++[l[j]])++l.drop (j+1):=by
   have e1 : l.drop j=l[j]::l.drop (j+1):=QQ hjl;rw [e1];simp
  generalize hrows : zaf (A++m0::M1++l.drop j)=R at *;have hRl : R.length=n:=by rw [<- hrows]; simp; omega
  have hck:=hc l[j] (Qj hjl);generalize hv : l[j]=v at *
  refine zap (ι:=List Int × List Int) (λ p=>⟨42,[(0,.rs 0 0 n),(1,.fn (.func f) [] capt),(5,.I p.1.length),(6,.I j)],[(0,some ⟨1,zaf (p.1++p.2++l.drop (j+1)),0⟩)],272⟩)
   (λ p=>p.1=(l.take (j+1)).filter (λ e=>!q e)/\p.2≠[]/\p.1.length+p.2.length=j+1) ?_ ?_
  .refine zad (zaa ⟨42,[(0,.rs 0 0 n),(1,.fn (.func f) [] capt),(5,.I A.length),(6,.I j),(7,.I v)],[(0,some ⟨1,R,0⟩)],168⟩ rfl ?_ ?_)
   .simp [h,hget]
    exact LeK
   refine zaa ⟨42,[(0,.rs 0 0 n),(1,.fn (.func f) [] capt),(5,.I A.length),(6,.I j),(7,.I v),(29,.B (!q v))],[(0,some ⟨1,R,0⟩)],200⟩ rfl ?_ ?_
   .simp
    refine zau hck ?_ ?_
    .simp [hs2,hs3,hs4]
    simp;exact LeK
   refine zac _ rfl (λ h5=>?_) λ h5=>zae ?_
   .simp only [UA] at h5
    rw [h5] at hnext;refine zaa ⟨42,[(0,.rs 0 0 n),(1,.fn (.func f) [] capt),(5,.I A.length),(6,.I j)],[(0,some ⟨1,zaf ((A++[v])++(M1++[v])++l.drop (j+1)),0⟩)],240⟩ rfl ?_ ?_
    .simp [hget2,show A.length<n by omega,zat,hset]
     exact LeK
    have hwA : IntKind.i64.wrap ((A.length : Int)+1)=((A.length+1 : Nat) : Int):=by rw [w6]; omega
    refine zan rfl ?_;simp [hwA];refine ⟨A++[v],M1++[v],⟨by rw [hnext]; simp,by simp,by simp; omega⟩,Le.keep rfl (nbz rfl) (by simp) (by simp)⟩
   .simp only [Bool.not_eq_false'] at h5
    rw [h5] at hnext;refine ⟨(A,m0::M1++[v]),⟨by rw [hnext]; simp,by simp,by simp; omega⟩,Le.keep rfl (nbz rfl) (by simp) ?_⟩
    rw [<- hmore,hrows];simp
  rintro ⟨A',M'⟩ ⟨p1,p2,p3⟩
  simp only at p1 p2 p3 ⊢;have hwj : IntKind.i64.wrap ((j : Int)+1)=((j+1 : Nat) : Int):=by rw [w6]; omega
  refine zan rfl ?_;simp [hwj];refine ⟨j+1,M',⟨by omega,p2,by rw [<- p1]; omega⟩,by omega,?_⟩
  have hD : C (j+1,M')=⟨42,[(0,.rs 0 0 n),(1,.fn (.func f) [] capt),(5,.I A'.length),(6,.I ((j+1 : Nat) : Int))],[(0,some ⟨1,zaf (A'++M'++l.drop (j+1)),0⟩)],96⟩:=by rw [p1]
  rw [hD];refine Le.ents [(0,0)] [] rfl (by simp) (by simp) (by simp) (by simp) (by simp) (by simp [hs2,hs3,hs4]) λ p hp=>?_
  simp at hp;subst hp;exact ⟨0,_,_,rfl,by simp,rfl,zaA.eq (by simp [fcd]) (by simp)⟩
 simp only [Qc] at h;obtain rfl : j=n:=by omega
 have hd : l.drop j=[]:=Um (by omega)
 have ht : l.take j=l:=Qb (by omega)
 rw [ht] at hA;rw [hd,QX];rw [<- hA] at hm ⊢;subst hm;have hAM : (zaf (A++M)).take A.length=zaf A:=by simp [zaf]
 have hAd : (zaf (A++M)).drop (A.length+(j - A.length))=[]:=Um (by simp; omega)
 have hAl : (zaf (A++M)).length=j:=by simp; omega
 generalize zaf (A++M)=R at *;refine zaa ⟨42,[(0,.rs 0 0 j),(5,.I A.length)],[(0,some ⟨1,zaf A++List.replicate (j - A.length) [.I 0],0⟩)],160⟩ rfl ?_ ?_
 .simp
  refine ⟨by omega,by omega,?_⟩
  rw [hAM,hAd];exact LeK
 refine zab (zal (s:=?s2) rfl ?o2 ?q2)
 case o2 =>
  simp;refine ⟨by omega,?_⟩
  rfl
 refine zah ⟨.inr rfl,⟨[.rs 0 0 A.length],rfl,[],[],by simp [List.range,List.range.loop],by simp,by simp,?_,?_⟩⟩
 .simp [List.range,List.range.loop]
 .simp [List.range,List.range.loop,fcd]
theorem zd5 (f : FuncId) (capt : List AV) (q : Int->Bool) (l : List Int) (hl : l.length<=1099511627776) (hs : zhk capt) (hc : ∀ e∈l,AcP f (AV.I e::capt) [] (.B (q e)) []) : AcP 94 [ints l,.fn (.func f) [] capt] [] (.B (l.any q)) []:=by
 have hs2 : ∀ ρ sn h,capt.map (conv ρ sn h 2)=capt:=λ _ _ _=>hs _ _ _ 1
 have hs3 : ∀ ρ sn h,capt.map (conv ρ sn h 3)=capt:=λ _ _ _=>hs _ _ _ 2
 have hs4 : ∀ ρ sn h,capt.map (conv ρ sn h 4)=capt:=λ _ _ _=>hs _ _ _ 3
 refine zcC.s.ac ?_;show awp _ 0 _ _ ⟨9,[(0,ints l),(1,.fn (.func f) [] capt)],[],16⟩;refine zab (zam ?_)
 have hi : decide (0<=idxQ l q)=l.any q:=by
  unfold idxQ
  by_cases h : l.findIdx q<l.length
  .rw [if_pos h]
   have:=Vc (w:=h);have h2 : l.any q=true:=Uq.2 ⟨_,Qj h,this⟩;rw [h2];simp
  .rw [if_neg h]
   have : l.findIdx q=l.length:=by have:=U8 (xs:=l) (p:=q); omega
   rw [UZ] at this
   have h2 : l.any q=false:=by
    rw [List.any_eq_false];intro x hx;simp [this x hx]
   rw [h2];simp
 refine zaa ⟨9,[(4,.B (l.any q))],[],16⟩ rfl ?_ ?_
 .simp
  refine zau (zfr f capt q l hl hs hc) ?_ ?_
  .simp [hs2,hs3,hs4]
  simp;exact Le.snap [] rfl rfl (by simp; exact wkB hi)
 exact zaI
def zaK (n : Nat) (q : Int->Bool) : List Int:=((List.range n).map λ (i : Nat)=>(i : Int)).filter q
theorem ziX (n : Nat) (q : Int->Bool) : zaK (n+1) q=zaK n q++if q n=true then [(n : Int)] else []:=by
 unfold zaK;rw [UL,Q4,UJ]
 congr 1
 cases hq : q n <;> simp [hq]
theorem zdz (n : Nat) (q : Int->Bool) : (zaK n q).length<=n:=by
 unfold zaK;have:=QV q ((List.range n).map λ (i : Nat)=>(i : Int))
 simpa using this
theorem zeH (f : FuncId) (capt : List AV) (q : Int->Bool) (N : Int) (hN : N<=1000000) (hs : zhk capt) (hc : ∀ k : Nat,(k : Int)<N->AcP f (AV.I k::capt) [] (.B (q k)) []) :
  AcP 41 [.I N,.fn (.func f) [] capt] [] (.rs 0 0 (zaK N.toNat q).length) [some ⟨1,zaf (zaK N.toNat q),0⟩]:=by
 have hs2 : ∀ ρ sn h,capt.map (conv ρ sn h 2)=capt:=λ _ _ _=>hs _ _ _ 1
 have hs3 : ∀ ρ sn h,capt.map (conv ρ sn h 3)=capt:=λ _ _ _=>hs _ _ _ 2
 have hs4 : ∀ ρ sn h,capt.map (conv ρ sn h 4)=capt:=λ _ _ _=>hs _ _ _ 3
 refine zg4.s.ac ?_;show awp _ 0 _ _ ⟨20,[(0,.I N),(1,.fn (.func f) [] capt)],[],16⟩;refine zab (zam ?_);refine zab (zam ?_);refine zab (zab (zam ?_));refine zad ?_
 let C : Nat->St:=λ k=>⟨20,[(1,.fn (.func f) [] capt),(5,.rs 16 0 (zaK k q).length),(7,.I N),(8,.I k)],[(16,some ⟨1,zaf (zaK k q),0⟩)],24⟩
 refine zaj C (λ k=>k<=N.toNat) (λ k=>N.toNat - k) 0 (Qi _) (Le.lst [] [] [(16,1)] rfl (by simp) (by simp) (by simp) (by simp [C]) (by simp) (by simp) (by simp) (by simp [C,Up,zaK,hs2,hs3,hs4]) (by simp [C,zaK])) ?_
 intro k hk;have hwl:=zdz k q;have hCk : C k=⟨20,[(1,.fn (.func f) [] capt),(5,.rs 16 0 (zaK k q).length),(7,.I N),(8,.I k)],[(16,some ⟨1,zaf (zaK k q),0⟩)],24⟩:=rfl;rw [hCk];refine zaa ⟨20,[(1,.fn (.func f) [] capt),(5,.rs 16 0 (zaK k q).length),(7,.I N),(8,.I k),(9,.B (decide ((k : Int)<N)))],[(16,some ⟨1,zaf (zaK k q),0⟩)],32⟩ rfl ?_ ?_
 .simp
  exact LeK
 refine zab (zac _ rfl (λ h=>zae ?_) λ h=>zai (hit ?_))
 .simp only [Qe] at h
  have hck:=hc k h;have hnext:=ziX k q;have hw2 : IntKind.i64.wrap ((k : Int)+1)=((k+1 : Nat) : Int):=by rw [w6]; omega
  refine zap (ι:=Unit) (λ _=>⟨20,[(1,.fn (.func f) [] capt),(5,.rs 16 0 (zaK (k+1) q).length),(7,.I N),(8,.I k)],[(16,some ⟨1,zaf (zaK (k+1) q),0⟩)],24⟩) (λ _=>True) ?_ λ _ _=>?_
  .rw [hnext]
   generalize zaK k q=W at *;refine zad (zab (zam ?_));refine zaa ⟨20,[(1,.fn (.func f) [] capt),(5,.rs 16 0 W.length),(6,.I k),(7,.I N),(8,.I k),(13,.B (q k))],[(16,some ⟨1,zaf W,0⟩)],72⟩ rfl ?_ ?_
   .simp
    refine zau hck ?_ ?_
    .simp [hs2,hs3,hs4]
    simp;exact LeK
   refine zac _ rfl (λ h5=>?_) λ h5=>zae ?_
   .rw [if_pos h5]
    refine zan rfl ?_;simp [List.replicate];refine ⟨by omega,by omega,zgi (i:=96) (sn:=[]) rfl rfl (by simp) (by simp) rfl (by simp [fcd,zaq]) (by simp) (by simp [hs2,hs3,hs4])⟩
   .rw [if_neg (by simp [h5]),QX]
    exact ⟨(),trivial,zgi (i:=16) (sn:=[]) rfl rfl (by simp) (by simp) rfl (by simp [fcd]) (by simp) (by simp [hs2,hs3,hs4])⟩
  refine zan rfl ?_;simp [hw2];exact ⟨k+1,by omega,by omega,zgi (i:=16) (sn:=[]) rfl rfl (by simp [C]) (by simp) rfl (by simp [fcd]) (by simp) (by simp [C,hs2,hs3,hs4])⟩
 simp only [Qc] at h;obtain rfl : k=N.toNat:=by omega
 generalize zaK N.toNat q=W at *;refine zab (zam ?_);exact zah ⟨.inr rfl,zao.out [16] [] rfl (by simp) (by simp) (by simp) (by simp [fcd])⟩
theorem wu64 {x : Int} (h1 : 0<=x) (h2 : x<18446744073709551616) : IntKind.u64.wrap x=x:=by rw [IntKind.wrap_u64]; omega
theorem zu5 (n : Nat) (h : n<4294967296) : binV .and (.int .u64 (n : Int)) (.int .u64 4294967295)=some (.int .u64 (n : Int)):=by
 have e : (BitVec.ofInt 64 (n : Int) &&& BitVec.ofInt 64 4294967295).toNat=n:=by
  have h1 : (BitVec.ofInt 64 (n : Int)).toNat=n:=by
   rw [BitVec.toNat_ofInt];omega
  have h2 : (BitVec.ofInt 64 (4294967295 : Int)).toNat=2 ^ 32 - 1:=rfl;rw [BitVec.toNat_and,h1,h2,Nat.and_two_pow_sub_one_eq_mod];omega
 show some (Value.int .u64 (IntKind.u64.wrap ((BitVec.ofInt 64 (n : Int) &&& BitVec.ofInt 64 4294967295).toNat : Int)))=_;rw [e,wu64 (by omega) (by omega)]
theorem zvi (n : Nat) (h : n<4294967296) : binV .shr (.int .u64 (n : Int)) (.int .u64 32)=some (.int .u64 0):=by
 show (if (0 : Int)<=32 then some (Value.int .u64 ((n : Int).fdiv (2 ^ (min (32 : Int).toNat 64)))) else none)=_
 rw [if_pos (by omega)]
 congr 2
 have : (2 : Int) ^ (min (32 : Int).toNat 64)=4294967296:=rfl;rw [this,QL _ (by omega)]
 omega
abbrev U (n : Int) : AV:=.sc (.int .u64 n)
theorem zty (n : Nat) (h : n<4294967296) : AcP 166 [U 1,U n] [] (.tup [U 0,U n]) []:=by
 refine zd4.s.ac ?_;show awp _ 0 _ _ ⟨51,[(0,U 1),(1,U n)],[],16⟩;have a1 : binV .and (.int .u64 1) (.int .u64 4294967295)=some (.int .u64 1):=zu5 1 (by omega)
 have a0 : binV .and (.int .u64 0) (.int .u64 4294967295)=some (.int .u64 0):=zu5 0 (by omega)
 have an:=zu5 n h;have s1 : binV .shr (.int .u64 1) (.int .u64 32)=some (.int .u64 0):=zvi 1 (by omega)
 have s0 : binV .shr (.int .u64 0) (.int .u64 32)=some (.int .u64 0):=zvi 0 (by omega)
 have sn:=zvi n h
 have m1 : ∀ a : Int,binV .mul (.int .u64 0) (.int .u64 a)=some (.int .u64 0):=λ a=>by
  show some (Value.int .u64 (IntKind.u64.wrap (0*a)))=_;rw [Int.zero_mul];rfl
 have m2 : binV .mul (.int .u64 1) (.int .u64 (n : Int))=some (.int .u64 (n : Int)):=by
  show some (Value.int .u64 (IntKind.u64.wrap (1*(n : Int))))=_;rw [Int.one_mul,wu64 (by omega) (by omega)]
 have m3 : binV .mul (.int .u64 1) (.int .u64 0)=some (.int .u64 0):=rfl;have d0 : binV .add (.int .u64 0) (.int .u64 0)=some (.int .u64 0):=rfl;refine zab (zam ?_);refine zab (zal (s:=?z2) rfl ?p2 ?r2)
 case p2=>simp [-binV,a1]; rfl
 refine zab (zal (s:=?z3) rfl ?p3 ?r3)
 case p3=>simp [-binV,s1]; rfl
 refine zab (zal (s:=?z4) rfl ?p4 ?r4)
 case p4=>simp [-binV,an]; rfl
 refine zab (zal (s:=?z5) rfl ?p5 ?r5)
 case p5=>simp [-binV,sn]; rfl
 refine zab (zal (s:=?z6) rfl ?p6 ?r6)
 case p6=>simp [-binV,m2]; rfl
 refine zab (zal (s:=?z7) rfl ?p7 ?r7)
 case p7=>simp [-binV,m1,sn,d0]; rfl
 refine zab (zal (s:=?z8) rfl ?p8 ?r8)
 case p8=>simp [-binV,a0]; rfl
 refine zab (zal (s:=?z9) rfl ?p9 ?r9)
 case p9=>simp [-binV,s0]; rfl
 refine zab (zal (s:=?z10) rfl ?p10 ?r10)
 case p10=>simp [-binV,m3,d0]; rfl
 refine zab (zal (s:=?z11) rfl ?p11 ?r11)
 case p11=>simp [-binV,m1,d0,s0]; rfl
 refine zab (zal (s:=?z12) rfl ?p12 ?r12)
 case p12=>simp [-binV,m2]; rfl
 exact zah ⟨.inr rfl,zao.out [] [] rfl (by simp) (by simp) (by simp) (by simp)⟩
theorem zwx (n : Nat) (h : n<4294967296) : AcP 129 [U 1,U n] [] (.tup [U 0,U n]) []:=by
 refine zi7.s.ac ?_;show awp _ 0 _ _ ⟨30,[(0,U 1),(1,U n)],[],16⟩;refine zab (zam ?_);refine zab (zac _ rfl (λ h=>by cases h) λ _=>zae ?_)
 refine zab (zal (s:=?z2) rfl ?p2 ?r2)
 case p2=>simp; refine zau (zty n h) rfl ?_; simp; rfl
 refine zab (zam ?_);exact zah ⟨.inr rfl,zao.out [] [] rfl (by simp) (by simp) (by simp) (by simp)⟩
theorem zsv (v : Int) (n : Nat) (hn : n<=1000000) : AcP 78 [ints [v],.I n] [] (.rs 0 0 n) [some ⟨1,List.replicate n [AV.I v],0⟩]:=by
 refine zdH.s.ac ?_;show awp _ 0 _ _ ⟨48,[(0,ints [v]),(1,.I n)],[],16⟩;have hu1 : IntKind.u64.wrap 1=1:=rfl;have hun : IntKind.u64.wrap (n : Int)=n:=wu64 (by omega) (by omega)
 have hin : IntKind.i64.wrap (n : Int)=n:=w6;refine zab (zam ?_);refine zab (zaa ⟨48,[(0,ints [v]),(1,.I n),(10,.B false)],[],40⟩ rfl ?_ ?_)
 .simp
  exact LeK
 refine zac _ rfl (λ h=>by cases h) λ _=>zae ?_
 refine zaa ⟨48,[(0,ints [v]),(1,.I n),(5,U 0),(6,U n)],[],128⟩ rfl ?_ ?_
 .simp [hu1,hun]
  refine zau (zwx n (by omega)) rfl ?_
  simp;exact LeK
 refine zab (zaa ⟨48,[(0,ints [v]),(1,.I n),(5,U 0),(6,U n),(26,.B false)],[],176⟩ rfl ?_ ?_)
 .simp
  exact Le.keep rfl (Ql _) (by simp; omega) (by simp)
 refine zac _ rfl (λ h=>by cases h) λ _=>zae ?_
 refine zaa ⟨48,[(0,ints [v]),(7,.rs 192 0 n)],[(192,some ⟨1,List.replicate n [.I 0],0⟩)],208⟩ rfl ?_ ?_
 .simp [hin]
  exact ⟨by omega,by omega,LeK⟩
 let R : Nat->List (List AV):=λ m=>List.replicate m [AV.I v]++List.replicate (n - m) [AV.I 0]
 have hRl : ∀ m,m<=n->(R m).length=n:=λ m hm=>by simp [R]; omega
 refine zaa ⟨48,[(7,.rs 192 0 n),(8,.I (min 1 n : Nat))],[(192,some ⟨1,R (min 1 n),0⟩)],240⟩ rfl ?_ ?_
 .simp
  refine Le.keep rfl (Ql _) (by simp) ?_
  cases n with
  | zero=>simp [R]
  | succ n=>simp [R,List.replicate]
 refine zab (zad (zaj (ι:=Nat) (λ m=>⟨48,[(7,.rs 192 0 n),(8,.I m)],[(192,some ⟨1,R m,0⟩)],240⟩) (λ m=>m<=n/\(m=0->n=0)) (λ m=>n - m) (min 1 n) ⟨by omega,by omega⟩ (Le.refl _ _) ?_))
 rintro m ⟨hm,hm0⟩
 refine zab (zaa ⟨48,[(7,.rs 192 0 n),(8,.I m),(37,.B (decide (m<n)))],[(192,some ⟨1,R m,0⟩)],272⟩ rfl ?_ ?_)
 .simp
  exact LeK
 refine zac _ rfl (λ h=>zae ?_) λ h=>zai (hit ?_)
 .simp only [Qe] at h
  obtain ⟨k,hk⟩ : ∃ k,k=min m (n - m):=⟨_,rfl⟩;have hw : IntKind.i64.wrap ((m : Int)+(k : Int))=((m+k : Nat) : Int):=by rw [w6]; omega
  have ht : (R m).take m=List.replicate m [AV.I v]:=by simp [R]
  have hd : (R m).drop (m+k)=List.replicate (n - (m+k)) [AV.I 0]:=by
   simp only [R];rw [List.drop_append,Um (by simp),Q5,List.drop_replicate]
   simp;omega
  have hl:=hRl m hm
  have hnew : List.replicate m [AV.I v]++(List.replicate k [AV.I v]++List.replicate (n - (m+k)) [AV.I 0])=R (m+k):=by
   simp only [R];rw [<- Qx,List.replicate_append_replicate]
  refine zad (zaP rfl ?_);generalize R m=X at *;simp [hl,ht];refine ⟨by omega,by omega,_,⟨by omega,rfl⟩,rfl,m+k,⟨by omega,by omega⟩,by omega,?_⟩
  have e1 : min (List.replicate m (([AV.I v] : List AV))).length (n - m)=k:=by simp [hk]
  rw [e1,hw,hd,List.take_replicate,show min k m=k by omega,hnew]
  exact zgi (i:=192) (sn:=[]) rfl rfl (by simp) (by simp) rfl (by simp [R]) (by simp) (by simp)
 obtain rfl : m=n:=by simp at h; omega
 refine zab (zam ?_);exact zah ⟨.inr rfl,zao.out [192] [] rfl (by simp) (by simp) (by simp) (by simp [R])⟩
def za4 (g : Gr) (S : List Int) (k : Int) : Bool:=S.contains k && !g.gone.contains k
def dl (g : Gr) (S : List Int) : Nat->Int->Int
 | 0,k=>if za4 g S k=true then 0 else -1
 | n+1,k=>if 0<=dl g S n k then dl g S n k else if g.edges.any (λ e=>decide (e.t=k) && decide (dl g S n e.f=n))=true then (n : Int)+1 else -1
def Key (g : Gr) (k : Int) : Prop:=0<=k/\k<g.size
variable {g : Gr} {S : List Int}
theorem za6 (n : Nat) (k : Int) : -1<=dl g S n k/\dl g S n k<=n:=by
 induction n with
 | zero=>unfold dl; split <;> omega
 | succ n ih=>unfold dl; split <;> (try split) <;> omega
theorem zcZ {n : Nat} {k : Int} (h : 0<=dl g S n k) : dl g S (n+1) k=dl g S n k:=by
 rw [dl,if_pos h]
theorem znS {n m : Nat} {k : Int} (hnm : n<=m) (h : 0<=dl g S n k) : dl g S m k=dl g S n k:=by
 induction m with
 | zero=>obtain rfl : n=0:=by omega
         rfl
 | succ m ih =>
   rcases Ug n (m+1) with h1 | h1
   .have:=ih (by omega)
    rw [zcZ (by omega),this]
   .obtain rfl : n=m+1:=by omega
    rfl
theorem zjT {n : Nat} {k : Int} (h : 0<=dl g S (n+1) k) (h2 : ¬ 0<=dl g S n k) : dl g S (n+1) k=n+1 /\ ∃ e∈g.edges,e.t=k/\dl g S n e.f=n:=by
 rw [dl,if_neg h2] at h ⊢;split at h
 .rename_i ha
  rw [if_pos ha];rw [Uq] at ha;obtain ⟨e,he,ha⟩:=ha;simp at ha;exact ⟨rfl,e,he,ha.1,ha.2⟩
 .omega
theorem zvo {n : Nat} {k : Int} (h : 0<=dl g S n k) : dl g S (dl g S n k).toNat k=dl g S n k:=by
 induction n with
 | zero =>
   have:=za6 (g:=g) (S:=S) 0 k;have e : dl g S 0 k=0:=by omega
   rw [e]; exact e
 | succ n ih =>
   by_cases h2 : 0<=dl g S n k
   .rw [zcZ h2]; exact ih h2
   .obtain ⟨e,_⟩:=zjT h h2
    rw [e];have : ((n : Int)+1).toNat=n+1:=by omega
    rw [this]; exact e
theorem zrS {n : Nat} {e : Ed} (he : e∈g.edges) (h : 0<=dl g S n e.f) : 0<=dl g S (n+1) e.t/\dl g S (n+1) e.t<=dl g S n e.f+1:=by
 have hat:=zvo h;have hr:=za6 (g:=g) (S:=S) n e.f;obtain ⟨m,hm⟩ : ∃ m : Nat,dl g S n e.f=m:=⟨(dl g S n e.f).toNat,by omega⟩
 rw [hm] at hat hr ⊢;simp at hat
 have key : 0<=dl g S (m+1) e.t/\dl g S (m+1) e.t<=m+1:=by
  have hr2:=za6 (g:=g) (S:=S) (m+1) e.t;refine ⟨?_,by omega⟩
  rw [dl];split
  .assumption
  .rw [if_pos]
   .omega
   .rw [Uq]
    exact ⟨e,he,by simp [hat]⟩
 have:=znS (g:=g) (S:=S) (n:=m+1) (m:=n+1) (by omega) key.1
 rw [this];exact key
theorem znv (h : GrOk g) {n : Nat} (hn : ∀ k,Key g k->dl g S n k≠n) : ∀ (m : Nat),n<=m -> ∀ k,Key g k->dl g S m k=dl g S n k/\dl g S m k≠m:=by
 intro m
 induction m with
 | zero =>
   intro hm k hk;obtain rfl : n=0:=by omega
   exact ⟨rfl,hn k hk⟩
 | succ m ih =>
   intro hm k hk;rcases Ug n (m+1) with h1 | h1
   .have ihm:=ih (by omega)
    have e : dl g S (m+1) k=dl g S m k:=by
     by_cases h2 : 0<=dl g S m k
     .exact zcZ h2
     .have hr:=za6 (g:=g) (S:=S) m k
      by_cases h3 : 0<=dl g S (m+1) k
      .obtain ⟨_,e,he,_,h5⟩:=zjT h3 h2
       have hf:=h.fits e he;exact absurd h5 (ihm e.f ⟨hf.1,by have:=hf.2.1; omega⟩).2
      .have hr2:=za6 (g:=g) (S:=S) (m+1) k
       omega
    have hr:=za6 (g:=g) (S:=S) m k;rw [e,(ihm k hk).1];refine ⟨rfl,?_⟩;rw [(ihm k hk).1] at hr;omega
   .obtain rfl : n=m+1:=by omega
    exact ⟨rfl,hn k hk⟩
def reach (g : Gr) (S : List Int) (n : Nat) : Nat:=(List.range g.size.toNat).countP λ (i : Nat)=>decide (0<=dl g S n (i : Int))
theorem zng {α : Type} {p q : α->Bool} : ∀ {l : List α},(∀ x∈l,p x=true->q x=true)->(∃ x∈l,q x=true/\p x=false)->l.countP p<l.countP q
 | [],_,h=>by obtain ⟨_,h,_⟩:=h; simp at h
 | a::l,h1,h2=>by
   have hle : l.countP p<=l.countP q:=List.countP_mono_left λ x hx=>h1 x (Qk _ hx);simp only [List.countP_cons];obtain ⟨x,hx,hq,hp⟩:=h2;rcases Qu.1 hx with rfl | hx
   .rw [hq,hp]
    simp;omega
   .have ih:=zng (λ x hx=>h1 x (Qk _ hx)) ⟨x,hx,hq,hp⟩
    have ha:=h1 a Qm
    cases hpa : p a <;> cases hqa : q a <;> simp_all <;> omega
theorem zny {n : Nat} {k : Int} (hk : Key g k) (h : dl g S (n+1) k=n+1) : reach g S n<reach g S (n+1):=by
 refine zng (λ i _ hi=>?_) ⟨k.toNat,by simp; have:=hk.1; have:=hk.2; omega,?_,?_⟩
 .simp at hi ⊢
  rw [zcZ hi]; exact hi
 .have e : ((k.toNat : Nat) : Int)=k:=by have:=hk.1; omega
  simp [e,h];omega
 .have e : ((k.toNat : Nat) : Int)=k:=by have:=hk.1; omega
  simp only [e,Qc];intro h2;rw [zcZ h2] at h;have:=za6 (g:=g) (S:=S) n k;omega
theorem zvF (h : GrOk g) {n : Nat} {k : Int} (hd : dl g S (n+1) k=n+1) : ∃ k',Key g k'/\dl g S n k'=n:=by
 have h2 : ¬ 0<=dl g S n k:=by
  intro h2;rw [zcZ h2] at hd;have:=za6 (g:=g) (S:=S) n k;omega
 obtain ⟨_,e,he,_,h5⟩:=zjT (by omega) h2
 have hf:=h.fits e he;exact ⟨e.f,⟨hf.1,by have:=hf.2.1; omega⟩,h5⟩
theorem zoN (h : GrOk g) : ∀ {n : Nat} {k : Int},Key g k->dl g S n k=n->n+1<=reach g S n
 | 0,k,hk,hd=>by
   have : 0<reach g S 0:=List.countP_pos_iff.2 ⟨k.toNat,by simp; have:=hk.1; have:=hk.2; omega,by
    have e : ((k.toNat : Nat) : Int)=k:=by have:=hk.1; omega
    simp [e]
    omega⟩
   omega
 | n+1,k,hk,hd=>by
   have hd' : dl g S (n+1) k=(n : Int)+1:=by simpa using hd
   obtain ⟨k',hk',h'⟩:=zvF h hd';have:=zoN h hk' h';have:=zny hk hd';omega
theorem zui (n : Nat) : reach g S n<=g.size.toNat:=by
 have:=List.countP_le_length (p:=λ (i : Nat)=>decide (0<=dl g S n (i : Int))) (l:=List.range g.size.toNat)
 simpa [reach] using this
theorem zoB (h : GrOk g) {n : Nat} {k : Int} (hk : Key g k) (hd : dl g S n k=n) : (n : Int)<g.size:=by
 have h1:=zoN h hk hd;have h2:=zui (g:=g) (S:=S) n;omega
def dist (g : Gr) (S : List Int) (k : Int) : Int:=dl g S g.size.toNat k
theorem zlW (h : GrOk g) {n : Nat} (hn : ∀ k,Key g k->dl g S n k≠n) (k : Int) (hk : Key g k) : dl g S n k=dist g S k:=by
 unfold dist;rcases Nat.le_total n g.size.toNat with h1 | h1
 .exact ((znv h hn _ h1 k hk).1).symm
 .have hN : ∀ k,Key g k->dl g S g.size.toNat k≠g.size.toNat:=by
   intro k hk hd;have:=zoB h hk hd;omega
  exact (znv h hN _ h1 k hk).1
theorem zjQ (k : Int) : -1<=dist g S k/\dist g S k<=g.size.toNat:=za6 _ _
theorem zn2 (h : GrOk g) {k : Int} (hk : Key g k) : dist g S k<g.size∨g.size<=0:=by
 have h1:=zjQ (g:=g) (S:=S) k
 by_cases h2 : dist g S k=g.size.toNat
 .have:=zoB h hk h2
  omega
 .have:=hk.1; have:=hk.2; omega
theorem zb7 (h : GrOk g) {k : Int} : dist g S k=0↔za4 g S k=true:=by
 unfold dist;constructor
 .intro hd
  have:=zvo (g:=g) (S:=S) (n:=g.size.toNat) (k:=k) (by omega)
  rw [hd] at this;simp at this;rw [dl] at this;split at this
  .assumption
  .omega
 .intro hs
  have h0 : dl g S 0 k=0:=by rw [dl,if_pos hs]
  rw [znS (Qi _) (by omega),h0]
theorem zlQ (h : GrOk g) {e : Ed} (he : e∈g.edges) (hf : 0<=dist g S e.f) : 0<=dist g S e.t/\dist g S e.t<=dist g S e.f+1:=by
 have hfit:=h.fits e he;have h1:=zrS (S:=S) he hf
 have hN : ∀ k,Key g k->dl g S g.size.toNat k≠g.size.toNat:=by
  intro k hk hd;have:=zoB h hk hd;omega
 have h2:=(znv h hN (g.size.toNat+1) (by omega) e.t ⟨hfit.2.2.1,by have:=hfit.2.2.2.1; omega⟩).1
 rw [h2] at h1;exact h1
theorem zcw (h : GrOk g) {k : Int} {n : Nat} (hd : dist g S k=(n : Int)+1) : ∃ e∈g.edges,e.t=k/\dist g S e.f=n:=by
 have hat:=zvo (g:=g) (S:=S) (n:=g.size.toNat) (k:=k) (by show 0<=dist g S k; omega)
 have hd' : dl g S g.size.toNat k=(n : Int)+1:=hd;rw [hd'] at hat;have e1 : ((n : Int)+1).toNat=n+1:=by omega
 rw [e1] at hat
 have h2 : ¬ 0<=dl g S n k:=by
  intro h2;rw [zcZ h2] at hat;have:=za6 (g:=g) (S:=S) n k;omega
 obtain ⟨_,e,he,h4,h5⟩:=zjT (by omega) h2
 refine ⟨e,he,h4,?_⟩;have hr:=zjQ (g:=g) (S:=S) k;have : dist g S e.f=dl g S n e.f:=znS (by omega) (by omega)
 omega
section
variable {P : Program} {np id : Nat} {h : Nat->Option Ent} {K : AV->List Nat->List (Nat × Option Ent)->Prop} {f : FuncId} {first capt args args' : List AV} {res : AV}
theorem zu6 {i : Nat} (sn : List Nat) {e e' : Ent} {hs' : List (Option Ent)} (hij : ∀ j∈sn,j≠i) (hi : h i=some e) (hee : zaw [(i,0)] sn h 4 e=e') (hc : zaU P f args' [e'] res hs') (h8 : hs'.length<=9) (he : (first++args++capt).map (conv [(i,0)] sn h 4)=args')
  (hp : Plain res) (hpe : ∀ e,some e∈hs'->zf0 e)
  (hk : K (conv (swp [i] id) [] (λ _=>none) 4 res) (i::sn) ((hs'.zipIdx.map λ (e,k)=>((i::(List.range 8).map (id + ·)).getD k 0,e.map (zaw (swp [i] id) [] (λ _=>none) 4)))++[])) : aK P np id .call (.fn (.func f) first capt::args) h K :=
 ⟨[i],sn,false,args',[e'],res,hs',by simp,by simpa using hij,by simp,by rw [show [i].zipIdx=[(i,0)] from rfl,he]; exact zbu _,by rw [show [i].zipIdx=[(i,0)] from rfl]; simpa [hi] using hee,hc,by simpa using h8,.inr ⟨hp,hpe⟩,by simpa [swp] using hk⟩
theorem zq5 {j : Nat} {e ej : Ent} (hnp : np<=j) (hj : h j=some ej) (hc : zaU P f args' [] res [some e]) (he : (first++args++capt).map (conv [] [j] h 4)=args')
  (hk : K (conv (swp [] id) [] (λ _=>none) 4 res) [j] [(id,some (zaw (swp [] id) [] (λ _=>none) 4 e)),(j,some { ej with ro:=ej.rows.length })]) : aK P np id .call (.fn (.func f) first capt::args) h K :=
 ⟨[],[j],true,args',[],res,[some e],by simp,by simp,by simpa using hnp,by rw [List.zipIdx_nil,he]; exact zbu _,rfl,hc,by simp,.inl rfl,by simpa [swp,hj] using hk⟩
end
theorem znj {l : List Int} {z : Nat} : zf0 ⟨1,zaf l++List.replicate z [AV.I 0],0⟩:=by
 intro row hrow x hx;simp only [Qo,Qg,List.mem_replicate] at hrow;rcases hrow with ⟨y,_,rfl⟩ | ⟨_,rfl⟩
 .simp at hx; subst hx; exact .sc _
 .simp at hx; subst hx; exact .sc _
theorem ztK (g : Gr) (S : List Int) (k : Int) (hS : S.length<=1099511627776) (hg : g.gone.length<=1099511627776) : AcP 80 [eG g,ints S,.I k] [] (.B (za4 g S k)) []:=by
 refine ziQ.s.ac ?_;show awp _ 0 _ _ ⟨17,[(0,eG g),(1,ints S),(2,.I k)],[],16⟩;refine zaa ⟨17,[(1,ints S),(2,.I k),(3,.pv (gC g))],[],16⟩ rfl ?_ ?_
 .simp
  exact Le.snap [16] rfl rfl (by simp)
 refine zaa ⟨17,[(6,.B (za4 g S k))],[],16⟩ rfl ?_ ?_
 .simp
  refine zc8 51 rfl ?_;refine zau (zbb S k (by omega)) rfl ?_
  simp;refine zcb (λ hb=>?_) (λ hb=>?_)
  .simp [hb]
   refine zc8 51 rfl ?_;refine zau (zbb g.gone k (by omega)) rfl ?_
   simp [hb];exact Le.snap [] rfl rfl (by simp [za4] <;> exact wkB (by simp_all))
  .simp [hb]
   exact Le.snap [] rfl rfl (by simp [za4] <;> exact wkB (by simp_all))
 exact zaI
theorem zsd (g : Gr) (S : List Int) (k : Int) (hS : S.length<=1099511627776) (hg : g.gone.length<=1099511627776) : AcP 79 [.I k,.pv (gC g),.pv [ints S]] [] (.B (za4 g S k)) []:=by
 refine zht.s.ac ?_;show awp _ 0 _ _ ⟨9,[(0,.I k),(1,.pv (gC g)),(2,.pv [ints S])],[],16⟩;refine zab (zam ?_);refine zab (zal (s:=?s1) rfl ?o1 ?q1)
 case o1=>simp; refine zau (ztK g S k hS hg) rfl ?_; simp; rfl
 exact zaI
def offQ (D : List Int) (x : Int) : Bool:=!decide (0<=x/\x<D.length) || decide (0<=D.getD x.toNat 0)
theorem zsc (D : List Int) (x : Int) (hD : D.length<=1000000) : AcP 83 [.I x,.pv [ints D]] [] (.B (offQ D x)) []:=by
 refine zha.s.ac ?_;show awp _ 0 _ _ ⟨17,[(0,.I x),(1,.pv [ints D])],[],16⟩;have hw : IntKind.i64.wrap ((D.length : Int) - 1)=(D.length : Int) - 1:=w6;refine zab (zam ?_);refine zaa ⟨17,[(3,.B (offQ D x))],[],16⟩ rfl ?_ ?_
 .simp [hw]
  refine zc8 37 rfl ?_;refine zau (zaJ ..) rfl ?_;simp
  by_cases hx : 0<=x/\x<D.length
  .obtain ⟨k,rfl⟩ : ∃ k : Nat,x=k:=⟨x.toNat,by omega⟩
   have hk : k<D.length:=by omega
   have hb : (!decide (0<=(k : Int)) || !decide ((k : Int)<=(D.length : Int) - 1))=false:=by simp; omega
   have ho : offQ D k=decide (0<=D[k]):=by
    unfold offQ;rw [U3 hx];simp [hk]
   rw [hb,ho];simp [hk];exact Le.snap [] rfl rfl (by simp)
  .have hb : (!decide (0<=x) || !decide (x<=(D.length : Int) - 1))=true:=by simp; omega
   have ho : offQ D x=true:=by
    unfold offQ;rw [UX hx];rfl
   rw [hb,ho];simp;exact Le.snap [] rfl rfl (by simp)
 exact zaI
def zaW (g : Gr) (S : List Int) : List Int:=(List.range g.size.toNat).map λ (i : Nat)=>dist g S (i : Int)
def outL (g : Gr) (S : List Int) (d : Nat) : List Int:=(List.range g.size.toNat).map λ (i : Nat)=>if 0<=dl g S d i/\dl g S d i<d then dl g S d i else -1
def outP (g : Gr) (S : List Int) (d : Nat) (F : List Int) : List Int:=(List.range g.size.toNat).map λ (i : Nat)=>if 0<=dl g S d i/\dl g S d i<d then dl g S d i else if (i : Int)∈F then (d : Int) else -1
theorem zkf (g : Gr) (S : List Int) (d : Nat) : outP g S d []=outL g S d:=by
 unfold outP outL;simp
theorem zq8 {g : Gr} {S : List Int} (d : Nat) (F : List Int) (hF : ∀ x,x∈F↔Key g x/\dl g S d x=d) : outP g S d F=outL g S (d+1):=by
 unfold outP outL;refine QG λ i hi=>?_;simp at hi;have hkey : Key g i:=⟨by omega,by omega⟩
 have hr:=za6 (g:=g) (S:=S) d i;have hr2:=za6 (g:=g) (S:=S) (d+1) i;have hm : (i : Int)∈F↔dl g S d i=d:=by rw [hF]; exact ⟨λ h=>h.2,λ h=>⟨hkey,h⟩⟩
 simp only [hm]
 by_cases h0 : 0<=dl g S d i
 .have e:=zcZ h0
  rw [e]
  by_cases h1 : dl g S d i<d
  .rw [if_pos ⟨h0,h1⟩,if_pos ⟨h0,by omega⟩]
  .have h2 : dl g S d i=d:=by omega
   rw [if_neg (by omega),if_pos h2,if_pos ⟨h0,by omega⟩,h2]
 .rw [if_neg (by omega),if_neg (by omega)]
  by_cases h3 : 0<=dl g S (d+1) i
  .have:=(zjT h3 h0).1
   rw [if_neg (by omega)]
  .rw [if_neg (by omega)]
theorem zgf (g : Gr) (S : List Int) (d : Nat) (F : List Int) : (outP g S d F).length=g.size.toNat:=by simp [outP]
theorem zpw (g : Gr) (S : List Int) (d : Nat) : (outL g S d).length=g.size.toNat:=by simp [outL]
theorem ztX {g : Gr} {S : List Int} {d : Nat} {F : List Int} {k : Nat} (hk : k<g.size.toNat) (hd : dl g S d k=d) : (outP g S d F)[k]'(by rw [zgf]; exact hk)=if (k : Int)∈F then (d : Int) else -1:=by
 unfold outP;simp only [List.getElem_map,List.getElem_range];rw [if_neg (by omega)]
theorem zs0 {g : Gr} {S : List Int} {d : Nat} (F : List Int) {i : Nat} (hi : i<g.size.toNat) : (outP g S d F)[i]? = some (if 0<=dl g S d i/\dl g S d i<d then dl g S d i else if (i : Int)∈F then (d : Int) else -1):=by
 simp [outP,hi]
theorem zuF {g : Gr} {S : List Int} {d : Nat} {F : List Int} {k : Nat} (hk : k<g.size.toNat) (hd : dl g S d k=d) : (outP g S d F).set k d=outP g S d (F++[(k : Int)]):=by
 apply U9;intro i
 by_cases hi : i<g.size.toNat
 .rw [zs0 _ hi,UF]
  by_cases hki : k=i
  .subst hki
   rw [if_pos rfl,if_pos (by rw [zgf]; exact hk),if_neg (by omega),if_pos (by simp)]
  .rw [if_neg hki,zs0 _ hi]
   have : (i : Int)∈F++[(k : Int)]↔(i : Int)∈F:=by
    simp;omega
   simp only [this]
 .rw [Q3 (by rw [Uy,zgf]; omega),Q3 (by rw [zgf]; omega)]
theorem zoC {g : Gr} {S : List Int} {d : Nat} {F F' : List Int} (h : ∀ x,x∈F↔x∈F') : outP g S d F=outP g S d F':=by
 unfold outP;simp only [h]
theorem zql {l : List Ed} {F : List Int} {x : Int} (hx : x∉F) : (l.countP λ e=>decide (e.f∈F++[x]))=(l.countP λ e=>decide (e.f∈F))+(outs l x).length:=by
 rw [zqx]
 induction l with
 | nil=>rfl
 | cons e l ih =>
   have e1 : decide (e.f∈F++[x])=(decide (e.f∈F) || decide (e.f=x)):=by simp
   simp only [List.countP_cons,ih,e1]
   by_cases h1 : e.f∈F <;> by_cases h2 : e.f=x
   .rw [h2] at h1; exact absurd h1 hx
   all_goals
    simp only [hx,h1,h2,decide_true,decide_false,Bool.or_true,Bool.or_false,Bool.true_or,Bool.false_or,UY,Ub,Us];omega
end Go.Proofs.YtkngdgplbojdlaaGreat
