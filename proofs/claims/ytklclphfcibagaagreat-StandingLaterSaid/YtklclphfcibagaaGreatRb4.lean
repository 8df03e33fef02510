/- Texts of this claim,merged. -/
import Derived.Test.YtklclphfcibagaaGreatRb3
set_option linter.unusedSimpArgs false
set_option linter.unusedVariables false
set_option linter.unusedSectionVars false
set_option maxRecDepth 100000
set_option maxHeartbeats 8000000
noncomputable section
namespace Go.Proofs.YtklclphfcibagaaGreat
open Go
section
variable {P:Program} {np id:Nat} {h:Nat->Option AX} {K:AV->List Nat->List (Nat × Option AX)->Prop} {f:FuncId} {first aB args aC:List AV} {res:AV}
theorem KV (sn:List Nat) {e:AX} (hc:Cq P f aC [] res [some e]) (he:(first++args++aB).map (conv [] sn h 4)=aC) (hp:Plain res) (u:HJ e) (hk:K (conv (Cc [] id) [] (λ _=>none) 4 res) sn [(id,some (Ak (Cc [] id) [] (λ _=>none) 4 e))]):aK P np id .call (.fn (.func f) first aB::args) h K :=
 ⟨[],sn,false,aC,[],res,[some e],zz,zz,zz,by rw[UK,he];exact FW _,rfl,hc,zz,.inr ⟨hp,λ e' q=>by simp at q;subst q;exact u⟩,by simpa [Cc] using hk⟩
end
theorem OP {l:List Int}:HJ ⟨1,AH l,0⟩:=by
 intro row q x hx;simp only[Qm] at q;obtain⟨y,_,rfl⟩:=q;simp at hx;subst hx;exact .sc _
variable {g:Gr} {S:List Int}
theorem cV (hg:Ah g) (hN:g.size<20∨(Aj g S).length<20) (hS:S.length<=1099511627776):AK 142 [eG g,AA S] [] (.rs 0 0 (Aj g S).length) [some ⟨1,AH (Aj g S),0⟩]:=by
 refine Zk.s.ai ?_;have hf:=hg.1.1;have hd:=hg.1.2.1;obtain⟨N,h8⟩:∃ N:Nat,N=g.size.toNat:=⟨_,rfl⟩;have q:=RF g S hg hS;have u:(CZ g S).length=N:=by rw[Oz,h8]
 have h4:∀ k:Nat,k<N->(CZ g S).getD k 0=Aq g S k:=λ k hk=>gD zy
 rw[<- h8] at q;obtain⟨D,hD⟩:=AL (CZ g S);rw[<- hD] at q u h4;obtain⟨W,hW⟩:=AL (Cz N λ k=>decide (0<=Aq g S k));have hh:W.length<=N:=by rw[hW];exact Kx _ _
 have h5:∀ x∈W,0<=x/\x<N:=λ x hx=>by rw[hW] at hx;exact(Jh.1 hx).1
 have h6:AK 149 [.I N,.fn (.func 202) [] [.pv [AA D]]] [] (.rs 0 0 W.length) [some ⟨1,AH W,0⟩]:=by
  have:=VI 202 [.pv [AA D]] (λ k=>decide (0<=Aq g S k)) N zy (λ ρ sn h n=>zz) (λ k hk=>by
   have h1:=Wg D k zy
   rw[h4 k zy] at h1
   exact h1)
  simpa [<- hW] using this
 have h7:FK (cD g S) W=Aj g S:=by rw[hW,h8];exact Z6 hg
 have h9:(Aj g S).length=W.length:=by
  rw[<- h7];unfold FK;rw[Q9,SY]
 have he:W.length<20:=by
  rcases hN with hN | hN
  .omega
  .omega
 have h0:=X6 204 [.pv [AA D]] (cD g S) W W.length rfl zy (λ ρ sn h n=>zz) (λ x hx y hy=>by
  obtain⟨a,ha⟩:∃ a:Nat,x=a:=⟨x.toNat,by have:=h5 x hx;omega⟩
  obtain⟨b,hb⟩:∃ b:Nat,y=b:=⟨y.toNat,by have:=h5 y hy;omega⟩
  have h1:=h5 x hx;have h2:=h5 y hy;subst ha hb;have h3:=eH D a b zy zy
  rw[h4 a zy,h4 b zy] at h3
  exact h3)
 rw[h7] at h0;have hi:List.take N (AH D)=AH D:=Qc (by simp[u])
 have hj:(AH D).length=N:=by simp[u]
 refine ar [1,2] [] [16] 32 ?_;refine arc ⟨18,[(5,.pv [AA D])],[],72⟩ ?_ ?_
 .simp
  refine Cu q rfl ?_;simp[AB];exact AM [48,56] (by simp[AB,<- u,CI])
 refine arc ⟨18,[(5,.pv [AA D]),(6,.rs 96 0 W.length)],[(96,some ⟨1,AH W,0⟩)],112⟩ ?_ ?_
 .simp [u]
  refine C4 h6 ?_;simp[AB];exact BD
 rw[h9];refine arc ⟨18,[(6,.rs 96 0 W.length)],[(96,some ⟨1,AH (Aj g S),0⟩)],136⟩ ?_ ?_
 .simp
  refine BX (i:=96) rfl (e':=⟨1,AH W,0⟩) zw h0 zz zz ?_
  simp[AB];exact BD
 refine AC (Ad ?_);exact CD [96] []
theorem Z0 (hg:Ah g) (hS:S.length<=1099511627776):AK 112 [eG g,AA S] [] (.rs 0 0 (Aj g S).length) [some ⟨1,AH (Aj g S),0⟩]:=by
 refine jC.s.ai ?_;have ho:=hg.1.1;have hl:=hg.1.2.1;obtain⟨N,u⟩:∃ N:Nat,N=g.size.toNat:=⟨_,rfl⟩;have q:=Mt g S hg hS;have h4:(CZ g S).length=N:=by rw[Oz,u]
 have h6:∀ k:Nat,k<N->(AH (CZ g S))[k]? = some [AV.I (Aq g S k)]:=λ k hk=>by simp[CZ,show k<g.size.toNat by omega]
 rw[<- u] at q;obtain⟨D,hD⟩:=AL (CZ g S);rw[<- hD] at q h4 h6;refine ar [1,2] [] [16] 32 ?_;refine arc ⟨35,[(2,.pv (gC g)),(5,AA D)],[],64⟩ ?_ ?_
 .simp
  refine Cu q rfl ?_;simp[AB];exact AM [48] (by simp[AB,<- h4,CI])
 refine AC (Ad ?_);refine AC (AC (Ad ?_));refine AI ?_
 have h0:∀ n k:Nat,n<=N->k<=N->(Bg g S n++Cz k λ x=>decide (Aq g S x=n)).length<=100000:=by
  intro n k hn hk
  have h1:∀ m:Nat,m<=64->(Bg g S m).length<=m*64:=by
   intro m
   induction m with
   | zero=>intro _;simp[Bg]
   | succ m ih =>
     intro hm;rw[Bg,Qe];have:=ih zy
     have:=Kx g.size.toNat λ k=>decide (Aq g S k=m);omega
  have:=h1 n zy
  have:=Kx k λ x=>decide (Aq g S x=n);rw[Qe];omega
 let T:Nat->Nat->List Int:=λ n k=>Bg g S n++Cz k λ x=>decide (Aq g S x=n)
 have h9:∀ n,T n 0=Bg g S n:=λ n=>by simp[T,Cz]
 have ha:∀ n,T n N=Bg g S (n+1):=λ n=>by simp only[T];rw[u];rfl
 let C:Nat->St:=λ n=>⟨35,[(2,.pv (gC g)),(5,AA D),(6,.rs 16 0 (Bg g S n).length),(7,.I n)],[(16,some ⟨1,AH (Bg g S n),0⟩)],80⟩
 refine Ag C (λ n=>n<=N) (λ n=>N - n) 0 (Qh _) (Le.lst [] [] [(16,1)] rfl zz zz zz (by simp[C]) zz zz zz (by simp[C,Up,Bg]) (by simp[C,Bg])) ?_
 intro n hn;have hb:C n=⟨35,[(2,.pv (gC g)),(5,AA D),(6,.rs 16 0 (Bg g S n).length),(7,.I n)],[(16,some ⟨1,AH (Bg g S n),0⟩)],80⟩:=rfl;rw[hb];refine AC ?_;apply ak [2,5,6,7,15] [16] 112
 .simp
  rfl
 refine AD _ rfl (λ h=>AE ?_) λ h=>Aa (Ab ?_)
 .simp only[Qb] at h
  refine BO ⟨35,[(2,.pv (gC g)),(5,AA D),(6,.rs 16 0 (Bg g S (n+1)).length),(7,.I n)],[(16,some ⟨1,AH (Bg g S (n+1)),0⟩)],80⟩ ?_ ?_
  .rw [<- h9 n,<- ha n]
   refine AI ?_;apply ak [2,5,6,7,8] [16] 120
   .simp
    rfl
   refine AI (Ag (ι:=Nat) (λ k=>⟨35,[(2,.pv (gC g)),(5,AA D),(6,.rs 16 0 (T n k).length),(7,.I n),(8,.I k)],[(16,some ⟨1,AH (T n k),0⟩)],120⟩) (λ k=>k<=N) (λ k=>N - k) 0 (Qh _) (Le.refl _ _) ?_);intro k hk;have hd:=h0 n k zy hk
   have he:T n (k+1)=T n k++if Aq g S k=n then [(k:Int)] else []:=by
    simp only[T];rw[Tb,Qq]
    congr 2
    by_cases hq:Aq g S k=n<;>simp[hq]
   have hf:T n k=Bg g S n++Cz k λ x=>decide (Aq g S x=n):=rfl;rw[<- hf] at hd;refine AC ?_;apply ak [2,5,6,7,8,21] [16] 152
   .simp
    rfl
   refine AD _ rfl (λ h2=>AE ?_) λ h2=>Aa (Ab ?_)
   .simp only[Qb] at h2
    have hh:k<N:=zy
    have h7:=h6 k hh;refine BO ⟨35,[(2,.pv (gC g)),(5,AA D),(6,.rs 16 0 (T n (k+1)).length),(7,.I n),(8,.I k)],[(16,some ⟨1,AH (T n (k+1)),0⟩)],120⟩ ?_ ?_
    .rw [he]
     generalize T n k=A at *;refine AI (arc ⟨35,[(2,.pv (gC g)),(5,AA D),(6,.rs 16 0 A.length),(7,.I n),(8,.I k),(29,.B (decide (Aq g S k=n)))],[(16,some ⟨1,AH A,0⟩)],200⟩ ?_ ?_)
     .simp only[Xc,List.map_cons,UT]
      simp
      have h3:D[k]? = some (Aq g S k):=by
       have:=h7;rw[AH,QG] at this
       cases hq:D[k]? with
       | none=>rw[hq] at this;simp at this
       | some v=>rw[hq] at this;simp at this;rw[this]
      simp[h3];exact Le.keep rfl (Qg _) (by simp<;>rw[Qk]<;>simp) zz
     refine AD _ rfl (λ h5=>?_) λ h5=>AE ?_
     .simp only[Qb] at h5
      rw[if_pos h5];refine AU rfl ?_;simp[List.replicate];refine⟨zy,zy,Fr (i:=224) (sn:=[]) rfl rfl zz zz rfl (by simp[AB,CI]) zz zz⟩
     .simp only[Qd] at h5
      rw[if_neg h5,QK];exact Le.l1 16 16 [] rfl rfl zz zz rfl zz
    have hi:=wq (k:=k);refine AU rfl ?_;simp[hi];exact⟨k+1,zy,zy,Le.l1 16 16 [] rfl rfl zz zz rfl zz⟩
   simp only[Qd] at h2;obtain rfl:k=N:=zy
   exact Le.l1 16 16 [] rfl rfl zz zz rfl zz
  have hj:=wq (k:=n);refine AU rfl ?_;simp[hj];exact⟨n+1,zy,zy,Le.l1 16 16 [] rfl rfl (by simp[C]) zz rfl (by simp[C])⟩
 simp only[Qd] at h;obtain rfl:n=N:=zy
 have h8:Bg g S n=Aj g S:=by rw[u];rfl
 rw[h8];refine AC (Ad ?_);exact CD [16] []
variable {A:List Ed} {f:List Int}
def As (φ:Ed->Int->Int):List Ed->List Int->Int
 | e::A,v::f=>φ e v+As φ A f
 | _,_=>0
def B9 (A:List Ed) (f:List Int) (x:Int):Int:=As (λ e v=>if e.f=x then v else 0) A f
def Fi (A:List Ed) (f:List Int) (x:Int):Int:=As (λ e v=>if e.t=x then v else 0) A f
structure ED (N:Nat) (A:List Ed):Prop where
 two:2<=N
 arc:∀ e∈A,0<=e.f/\e.f<N/\0<=e.t/\e.t<N/\e.f≠e.t/\e.t≠0/\e.f≠1/\0<=e.v
def CN:List Ed->List Int->Prop
 | e::A,v::f=>(0<=v/\v<=e.v)/\CN A f
 | [],[]=>True
 | _,_=>False
structure BY (N:Nat) (A:List Ed) (f:List Int):Prop where
 fit:CN A f
 bal:∀ x:Nat,2<=x->x<N->B9 A f x=Fi A f x
def Al (A:List Ed) (f:List Int):Int:=B9 A f 0
theorem CN.len:∀ {A:List Ed} {f:List Int},CN A f->f.length=A.length
 | [],[],_=>rfl
 | _::_,_::_,h=>by simp[h.2.len]
 | [],_::_,h=>h.elim
 | _::_,[],h=>h.elim
theorem Pl (φ ψ:Ed->Int->Int):∀ (A:List Ed) (f:List Int),As (λ e v=>φ e v+ψ e v) A f=As φ A f+As ψ A f
 | [],_=>by simp[As]
 | _::_,[]=>by simp[As]
 | e::A,v::f=>by
   simp only[As];rw[Pl φ ψ A f];omega
theorem NX (φ ψ:Ed->Int->Int):∀ (A:List Ed) (f:List Int),As (λ e v=>φ e v - ψ e v) A f=As φ A f - As ψ A f
 | [],_=>by simp[As]
 | _::_,[]=>by simp[As]
 | e::A,v::f=>by
   simp only[As];rw[NX φ ψ A f];omega
theorem Ij {φ ψ:Ed->Int->Int}:∀ {A:List Ed} {f:List Int},(∀ e∈A,∀ v,φ e v=ψ e v)->As φ A f=As ψ A f
 | [],_,_=>by simp[As]
 | _::_,[],_=>by simp[As]
 | e::A,v::f,h=>by
   simp only[As];rw[h e Qp v,Ij λ x hx=>h x (Qo _ hx)]
theorem J4:∀ {A:List Ed} {f:List Int},As (λ _ _=>0) A f=0
 | [],_=>by simp[As]
 | _::_,[]=>by simp[As]
 | e::A,v::f=>by simp[As,J4 (A:=A) (f:=f)]
theorem MW {φ ψ:Ed->Int->Int}:∀ {A:List Ed} {f:List Int},CN A f->(∀ e∈A,∀ v,0<=v->v<=e.v->φ e v<=ψ e v)->As φ A f<=As ψ A f
 | [],[],_,_=>by simp[As]
 | [],_::_,h,_=>h.elim
 | _::_,[],h,_=>h.elim
 | e::A,v::f,h,hh=>by
   simp only[As];have h1:=hh e Qp v h.1.1 h.1.2;have h2:=MW h.2 λ x hx=>hh x (Qo _ hx);omega
def GK (S:Int->Bool) (g:Int->Int):Nat->Int
 | 0=>0
 | n+1=>GK S g n+if S n then g n else 0
theorem VX (S:Int->Bool) (g h:Int->Int):∀ n,GK S (λ x=>g x - h x) n=GK S g n - GK S h n
 | 0=>rfl
 | n+1=>by
   simp only[GK];rw[VX S g h n];split<;>omega
theorem O3 (S:Int->Bool) (A:List Ed) (f:List Int) (π:Ed->Int):∀ n:Nat,(∀ e∈A,0<=π e)->GK S (λ x=>As (λ e v=>if π e=x then v else 0) A f) n=As (λ e v=>if π e<n/\S (π e)=true then v else 0) A f
 | 0,h=>by
   rw[Ij (ψ:=λ _ _=>0) λ e he v=>if_neg λ h2=>by have:=h e he;omega,J4]
   rfl
 | n+1,h=>by
   have ih:=O3 S A f π n h;simp only[GK];rw[ih]
   by_cases hs:S n=true
   .rw [if_pos hs,<- Pl]
    refine Ij λ e he v=>?_;have h0:=h e he
    by_cases h1:π e=n
    .have h2:¬ (π e<(n:Int)/\S (π e)=true):=zy
     have h3:π e<((n+1:Nat):Int)/\S (π e)=true:=⟨zy,by rw[h1];exact hs⟩
     rw[if_neg h2,if_pos h1,if_pos h3,Int.zero_add]
    .rw [if_neg h1,Int.add_zero]
     by_cases h2:π e<(n:Int)/\S (π e)=true
     .rw [if_pos h2,if_pos ⟨zy,h2.2⟩]
     .rw [if_neg h2,if_neg λ h3=>h2 ⟨zy,h3.2⟩]
   .rw [if_neg hs,Int.add_zero]
    refine Ij λ e he v=>?_;have h0:=h e he
    by_cases h2:π e<(n:Int)/\S (π e)=true
    .rw [if_pos h2,if_pos ⟨zy,h2.2⟩]
    .rw [if_neg h2,if_neg λ h3=>h2 ⟨?_,h3.2⟩]
     have h4:π e≠n:=λ h5=>hs (h5 ▸ h3.2);omega
def Dm (S:Int->Bool) (A:List Ed) (f:List Int):Int:=As (λ e v=>if S e.f=true/\S e.t=false then v else 0) A f
def GV (S:Int->Bool) (A:List Ed) (f:List Int):Int:=As (λ e v=>if S e.f=false/\S e.t=true then v else 0) A f
def Bj (S:Int->Bool) (A:List Ed):Int:=As (λ e _=>if S e.f=true/\S e.t=false then e.v else 0) A (A.map λ _=>0)
theorem TI (S:Int->Bool) (g:Int->Int) (N:Nat) (h0:S 0=true) (h1:S 1=false) (hg:∀ x:Nat,2<=x->x<N->g x=0):∀ n,n<=N->1<=n->GK S g n=g 0
 | 0,_,h=>zy
 | 1,_,_=>by simp[GK,h0]
 | n+2,h,_=>by
   have ih:=TI S g N h0 h1 hg (n+1) zy zy
   simp only[GK] at ih ⊢;rw[ih]
   cases n with
   | zero=>simp[h1]
   | succ n =>
     have:=hg (n+1+1) zy zy
     split<;>omega
theorem Mm {N:Nat} (hn:ED N A) (hf:BY N A f) {S:Int->Bool} (h0:S 0=true) (h1:S 1=false):Al A f=Dm S A f - GV S A f:=by
 have e1:=TI S (λ x=>B9 A f x - Fi A f x) N h0 h1 (λ x h2 h3=>by have:=hf.bal x h2 h3;omega) N (Qg _) (by have:=hn.two;omega)
 have e2:Fi A f 0=0:=by
  unfold Fi;rw[Ij (ψ:=λ _ _=>0) λ e he v=>if_neg (hn.arc e he).2.2.2.2.2.1,J4]
 rw[VX] at e1;have e3:=O3 S A f (·.f) N λ e he=>(hn.arc e he).1
 have e4:=O3 S A f (·.t) N λ e he=>(hn.arc e he).2.2.1
 have e5:GK S (B9 A f) N=_:=e3;have e6:GK S (Fi A f) N=_:=e4;rw[e5,e6,<- NX] at e1;unfold Al Dm GV;rw[<- NX];have e7:B9 A f 0=B9 A f 0 - Fi A f 0:=zy
 rw[e7,<- e1];refine Ij λ e he v=>?_;obtain⟨q1,q2,q3,q4,_⟩:=hn.arc e he
 cases q:S e.f<;>cases u:S e.t<;>simp[q2,q4]
theorem M9 (hf:CN A f) (S:Int->Bool):Dm S A f<=Bj S A:=by
 have key:∀ {A:List Ed} {f:List Int},CN A f->As (λ e _=>if S e.f=true/\S e.t=false then e.v else 0) A (A.map λ _=>0)=As (λ e _=>if S e.f=true/\S e.t=false then e.v else 0) A f:=by
  intro A
  induction A with
  | nil=>intro f _;simp[As]
  | cons e A ih =>
    intro f h
    cases f with
    | nil=>exact h.elim
    | cons v f=>simp only[As,List.map_cons];rw[ih h.2]
 unfold Dm Bj;rw[key hf];exact MW hf λ e _ v h1 h2=>by split<;>omega
theorem Nu (hf:CN A f) (S:Int->Bool):0<=GV S A f:=by
 have:As (λ _ _=>0) A f<=GV S A f:=MW hf λ e _ v h1 h2=>by split<;>omega
 rw[J4] at this;exact this
theorem JV {N:Nat} (hn:ED N A) (hf:BY N A f) {S:Int->Bool} (h0:S 0=true) (h1:S 1=false):Al A f<=Bj S A:=by
 rw[Mm hn hf h0 h1];have:=M9 hf.fit S;have:=Nu hf.fit S;omega
variable {A:List Ed} {N:Nat} {f:List Int} {δ:Int}
def AR (A:List Ed) (i:Nat):Ed:=A.getD i ⟨0,0,0⟩
theorem HX {i:Nat} (h:i<A.length):AR A i∈A:=by
 unfold AR;rw[Qf,Qa h];exact Qi h
abbrev Bd:=Nat × Bool
def CY (A:List Ed) (s:Bd):Int:=if s.2 then (AR A s.1).t else (AR A s.1).f
def A0 (A:List Ed) (s:Bd):Int:=if s.2 then (AR A s.1).f else (AR A s.1).t
def B5 (A:List Ed) (f:List Int) (s:Bd):Int:=if s.2 then f.getD s.1 0 else (AR A s.1).v - f.getD s.1 0
def FE (δ:Int) (f:List Int) (s:Bd):List Int:=f.set s.1 (f.getD s.1 0+if s.2 then -δ else δ)
def FQ (δ:Int) (f:List Int) (l:List Bd):List Int:=l.foldl (FE δ) f
theorem OE (φ:Ed->Int->Int):∀ (A:List Ed) (f:List Int) (i:Nat) (v:Int),i<A.length->f.length=A.length->As φ A (f.set i v)=As φ A f+(φ (AR A i) v - φ (AR A i) (f.getD i 0))
 | [],_,_,_,h,_=>by simp at h
 | _::_,[],_,_,_,h=>by simp at h
 | e::A,w::f,0,v,_,_=>by
   simp only[List.set_cons_zero,As];have h1:AR (e::A) 0=e:=rfl;have h2:(w::f).getD 0 0=w:=rfl;rw[h1,h2];omega
 | e::A,w::f,i+1,v,h,hl=>by
   simp only[List.set_cons_succ,As];have h1:AR (e::A) (i+1)=AR A i:=by simp[AR]
   have h2:(w::f).getD (i+1) 0=f.getD i 0:=zz
   rw[OE φ A f i v (by simpa using h) (by simpa using hl),h1,h2]
   omega
def Co (A:List Ed) (f:List Int) (x:Int):Int:=B9 A f x - Fi A f x
theorem Of {s:Bd}:(FE δ f s).length=f.length:=Ux ..
theorem KA {δ:Int}:∀ {l:List Bd} {f:List Int},(FQ δ f l).length=f.length
 | [],_=>rfl
 | s::l,f=>by
   show (FQ δ (FE δ f s) l).length=_;rw[KA,Of]
theorem VG {s:Bd} (hs:s.1<A.length) (hl:f.length=A.length) (x:Int) :
  Co A (FE δ f s) x=Co A f x+(if CY A s=x then δ else 0) - if A0 A s=x then δ else 0:=by
 unfold Co B9 Fi FE;rw[OE _ A f s.1 _ hs hl,OE _ A f s.1 _ hs hl];unfold CY A0;generalize AR A s.1=e;generalize f.getD s.1 0=v;generalize As _ A f=p;generalize As _ A f=q;obtain⟨i,b⟩:=s
 cases b
 .simp only[Uh,Uu]
  by_cases h1:e.f=x<;>by_cases h2:e.t=x<;>simp only[h1,h2,UQ,Uu]<;>omega
 .simp only[UQ]
  by_cases h1:e.f=x<;>by_cases h2:e.t=x<;>simp only[h1,h2,UQ,Uu]<;>omega
def DZ (A:List Ed):Int->List Bd->Int->Prop
 | u,[],w=>u=w
 | u,s::l,w=>s.1<A.length/\CY A s=u/\DZ A (A0 A s) l w
theorem Rw {A:List Ed} {δ:Int} (x w:Int):∀ {l:List Bd} {f:List Int} {u:Int},f.length=A.length->DZ A u l w->Co A (FQ δ f l) x=Co A f x+(if u=x then δ else 0) - if w=x then δ else 0
 | [],f,u,_,h=>by
   have h':u=w:=h;subst h';show Co A f x=_;omega
 | s::l,f,u,hl,h=>by
   obtain⟨h1,h2,h3⟩:=h;show Co A (FQ δ (FE δ f s) l) x=_;rw[Rw x w (by rw[Of,hl]) h3,VG h1 hl x,h2]
   omega
theorem Gd:CN A f↔f.length=A.length /\ ∀ i,i<A.length->0<=f.getD i 0/\f.getD i 0<=(AR A i).v:=by
 induction A generalizing f with
 | nil =>
   cases f with
   | nil=>simp[CN]
   | cons v f=>simp[CN]
 | cons e A ih =>
   cases f with
   | nil=>simp[CN]
   | cons v f =>
     show (0<=v/\v<=e.v)/\CN A f↔_;rw[ih];constructor
     .rintro ⟨h1,h2,h3⟩
      refine⟨by simp[h2],λ i hi=>?_⟩
      cases i with
      | zero=>exact h1
      | succ i =>
        have:=h3 i (by simpa using hi)
        simpa [AR] using this
     .rintro ⟨h1,h2⟩
      refine⟨h2 0 zz,by simpa using h1,λ i hi=>?_⟩
      have:=h2 (i+1) (by simpa using hi)
      simpa [AR] using this
theorem Ju {δ:Int}:∀ {l:List Bd} {f:List Int} {i:Nat},(l.map (·.1)).Nodup->(∀ s∈l,s.1<f.length) ->
  (i∉l.map (·.1)->(FQ δ f l).getD i 0=f.getD i 0) /\ ∀ b,(i,b)∈l->(FQ δ f l).getD i 0=f.getD i 0+if b then -δ else δ
 | [],f,i,_,_=>⟨λ _=>rfl,λ b hb=>by simp at hb⟩
 | s::l,f,i,hn,hr=>by
   rw[List.map_cons,Ur] at hn;have ih:=Ju (δ:=δ) (l:=l) (f:=FE δ f s) (i:=i) hn.2 λ x hx=>by rw[Of];exact hr x (Qo _ hx)
   have hs:=hr s (Qp ..)
   have q:∀ j,(FE δ f s).getD j 0=if s.1=j then f.getD j 0+(if s.2 then -δ else δ) else f.getD j 0:=λ j=>by
    unfold FE
    by_cases hj:s.1=j
    .subst hj
     rw[if_pos rfl,Qf,List.getElem?_set_self hs,QH]
    .rw [if_neg hj,Qf,List.getElem?_set_ne hj,Qf]
   refine⟨λ hi=>?_,λ b hb=>?_⟩
   .rw [List.map_cons,Qv,not_or] at hi
    show (FQ δ (FE δ f s) l).getD i 0=_;rw[ih.1 hi.2,q,if_neg λ e=>hi.1 e.symm]
   .show (FQ δ (FE δ f s) l).getD i 0=_
    rcases Qv.1 hb with hb | hb
    .subst hb
     rw[ih.1 hn.1,q,if_pos rfl]
    .have u:s.1≠i:=λ e=>hn.1 (e ▸ Qm.2 ⟨_,hb,rfl⟩)
     rw[ih.2 b hb,q,if_neg u]
theorem gG {l:List Bd} (hf:CN A f) (h0:0<=δ) (hn:(l.map (·.1)).Nodup) (hr:∀ s∈l,s.1<A.length/\δ<=B5 A f s):CN A (FQ δ f l):=by
 rw[Gd] at hf ⊢;refine⟨by rw[KA,hf.1],λ i hi=>?_⟩
 have hg:=Ju (δ:=δ) (f:=f) (i:=i) hn λ s hs=>by rw[hf.1];exact(hr s hs).1
 have q:=hf.2 i hi
 by_cases hm:i∈l.map (·.1)
 .obtain ⟨⟨j,b⟩,hs,rfl⟩:=Qm.1 hm
  have h1:=hg.2 b hs;have h2:=(hr _ hs).2;simp only at h1 h2 q ⊢;rw[h1];unfold B5 at h2
  cases b
  .simp only[Uh,Uu] at h2 ⊢
   omega
  .simp only[UQ] at h2 ⊢
   omega
 .rw [hg.1 hm]
  exact q
theorem M8 (hn:ED N A) (f:List Int):Fi A f 0=0:=by
 unfold Fi;rw[Ij (ψ:=λ _ _=>0) λ e he v=>if_neg (hn.arc e he).2.2.2.2.2.1,J4]
theorem YK {l:List Bd} (hn:ED N A) (hf:BY N A f) (h0:0<=δ) (hw:DZ A 0 l 1) (hd:(l.map (·.1)).Nodup) (hr:∀ s∈l,s.1<A.length/\δ<=B5 A f s) :
  BY N A (FQ δ f l)/\Al A (FQ δ f l)=Al A f+δ:=by
 have hl:=hf.fit.len;have hx:=λ x=>Rw (A:=A) (δ:=δ) x 1 (l:=l) (f:=f) hl hw;refine⟨⟨gG hf.fit h0 hd hr,λ x h2 hN=>?_⟩,?_⟩
 .have h3:=hx x
  have h4:=hf.bal x h2 hN;rw[if_neg zy,if_neg zy] at h3
  unfold Co at h3;omega
 .have h3:=hx 0
  rw[if_pos rfl,if_neg zy] at h3
  unfold Co at h3;rw[M8 hn,M8 hn] at h3;unfold Al;omega
theorem Zc (hn:ED N A) (hf:BY N A f) {S:Int->Bool} (h0:S 0=true) (h1:S 1=false) (hc:∀ s:Bd,s.1<A.length->S (CY A s)=true->0<B5 A f s->S (A0 A s)=true):Al A f=Bj S A:=by
 rw[Mm hn hf h0 h1]
 have key:∀ {A:List Ed} {f:List Int},CN A f->(∀ s:Bd,s.1<A.length->S (CY A s)=true->0<B5 A f s->S (A0 A s)=true)->Dm S A f=Bj S A/\GV S A f=0:=by
  intro A
  induction A with
  | nil=>intro f _ _;simp[Dm,GV,Bj,As]
  | cons e A ih =>
    intro f hf hc
    cases f with
    | nil=>exact hf.elim
    | cons v f =>
      have h2:=ih hf.2 λ s hs q hr=>by
       have:=hc (s.1+1,s.2) (by simpa using hs) (by simpa [CY,AR] using q) (by simpa [B5,AR] using hr)
       simpa [A0,AR] using this
      have ha:=hc (0,false) zz
      have hb:=hc (0,true) zz
      simp[CY,A0,B5,AR] at ha hb;have hv:=hf.1;unfold Dm GV Bj at h2 ⊢;simp only[As,List.map_cons];obtain⟨p1,p2⟩:=h2;rw[p1,p2]
      cases hF:S e.f<;>cases hT:S e.t<;>simp[hF,hT] at ha hb ⊢<;>omega
 obtain⟨p1,p2⟩:=key hf.fit hc;rw[p1,p2];omega
variable {A:List Ed} {D f:List Int} {by_:Int->Bd}
theorem DZ.snoc {A:List Ed}:∀ {l:List Bd} {u w:Int} {s:Bd},DZ A u l w->s.1<A.length->CY A s=w->DZ A u (l++[s]) (A0 A s)
 | [],u,w,s,h,h1,h2=>⟨h1,by rw[h2];exact(show u=w from h).symm,rfl⟩
 | t::l,u,w,s,h,h1,h2=>⟨h.1,h.2.1,DZ.snoc h.2.2 h1 h2⟩
structure JE (A:List Ed) (f:List Int) (D:List Int) (by_:Int->Bd):Prop where
 zero:D.head? = some 0
 nodup:D.Nodup
 step:∀ j (h:j<D.length),0<j->(by_ D[j]).1<A.length/\A0 A (by_ D[j])=D[j]/\CY A (by_ D[j])∈D.take j/\0<B5 A f (by_ D[j])
theorem iX {s t:Bd} (h:s.1=t.1):(CY A s=CY A t/\A0 A s=A0 A t)∨(CY A s=A0 A t/\A0 A s=CY A t):=by
 obtain⟨i,b⟩:=s;obtain⟨j,c⟩:=t;simp only at h;subst h;unfold CY A0
 cases b<;>cases c<;>simp
theorem JE.way (h:JE A f D by_):∀ (n j:Nat) (hj:j<D.length),j<=n ->
  ∃ l,DZ A 0 l D[j]/\(l.map (·.1)).Nodup /\ ∀ s∈l,s.1<A.length/\0<B5 A f s/\by_ (A0 A s)=s/\A0 A s≠0/\CY A s∈D.take (j+1)/\A0 A s∈D.take (j+1)
 | n,0,hj,_=>by
   refine⟨[],?_,zz,zz⟩
   show (0:Int)=D[0];have h0:=h.zero;rw[List.head?_eq_getElem?,Qa hj] at h0;exact(Qj h0).symm
 | 0,j+1,_,hn=>zy
 | n+1,j+1,hj,hn=>by
   obtain⟨h1,h2,h3,h4⟩:=h.step (j+1) hj zy
   obtain⟨i,hi,u⟩:=Qr.1 h3;rw[QB] at hi;rw[Uv] at u;have hij:i<j+1:=zy
   obtain⟨l,w1,w2,w3⟩:=h.way n i zy zy
   have h5:∀ (k m:Nat) (hk:k<D.length) (hm:m<D.length),k≠m->D[k]≠D[m]:=λ k m hk hm h9 he=>by
    rcases Ua k m with h8 | hge
    .exact QD.1 h.nodup k m hk hm h8 he
    .exact QD.1 h.nodup m k hm hk zy he.symm
   have q:D[j+1]∉D.take (i+1):=λ hm=>by
    obtain⟨k,hk,h6⟩:=Qr.1 hm;rw[QB] at hk;rw[Uv] at h6;exact h5 k (j+1) zy hj zy h6
   have h7:∀ x,x∈D.take (i+1)->x∈D.take (j+1+1):=λ x hx=>(List.take_sublist_take_left (by omega:i+1<=j+1+1)).subset hx
   have h0:D[j+1]≠0:=λ he=>by
    have hz:=h.zero;rw[List.head?_eq_getElem?,Qa zy] at hz
    exact h5 0 (j+1) zy hj zy ((Qj hz).trans he.symm)
   refine⟨l++[by_ D[j+1]],?_,?_,λ s hs=>?_⟩
   .have:=DZ.snoc (s:=by_ D[j+1]) w1 h1 u.symm
    rw[h2] at this;exact this
   .rw [List.map_append,Uy]
    refine⟨w2,zz,λ a ha b hb=>?_⟩
    obtain⟨t,ht,rfl⟩:=Qm.1 ha;simp only[List.map_cons,UT,Qw] at hb;subst hb;intro he;obtain⟨_,_,_,_,q1,q2⟩:=w3 t ht;rcases iX (A:=A) he with ⟨e1,e2⟩ | ⟨e1,e2⟩
    .rw [e2,h2] at q2
     exact q q2
    .rw [e1,h2] at q1
     exact q q1
   .rcases Qn.1 hs with hs | hs
    .obtain ⟨p1,p2,p3,p4,p5,p6⟩:=w3 s hs
     exact⟨p1,p2,p3,p4,h7 _ p5,h7 _ p6⟩
    .rw [Qw] at hs
     subst hs;refine⟨h1,h4,by rw[h2],by rw[h2];exact h0,?_,?_⟩
     .exact (List.take_sublist_take_left (by omega:j+1<=j+1+1)).subset h3
     .rw [h2]
      refine Qr.2 ⟨j+1,by rw[QB];omega,by rw[Uv]⟩
theorem JE.to (h:JE A f D by_) {x:Int} (hx:x∈D) :
  ∃ l,DZ A 0 l x/\(l.map (·.1)).Nodup /\ ∀ s∈l,s.1<A.length/\0<B5 A f s/\by_ (A0 A s)=s/\A0 A s≠0:=by
 obtain⟨j,hj,rfl⟩:=Qr.1 hx;obtain⟨l,h1,h2,h3⟩:=h.way j j hj (Qg _);exact⟨l,h1,h2,λ s hs=>⟨(h3 s hs).1,(h3 s hs).2.1,(h3 s hs).2.2.1,(h3 s hs).2.2.2.1⟩⟩
def HP (A:List Ed) (f D:List Int):Prop:=∀ s:Bd,s.1<A.length->CY A s∈D->0<B5 A f s->A0 A s∈D
theorem KN {N:Nat} (hn:ED N A) (hf:BY N A f) (h0:(0:Int)∈D) (h1:(1:Int)∉D) (hc:HP A f D):Al A f=Bj (λ x=>decide (x∈D)) A /\ ∀ f',BY N A f'->Al A f'<=Al A f:=by
 have e:=Zc (S:=λ x=>decide (x∈D)) hn hf (by simpa using h0) (by simpa using h1) λ s hs hF hr=>by
  have:=hc s hs (by simpa using hF) hr
  simpa using this
 refine⟨e,λ f' q=>?_⟩;rw[e];exact JV hn q (by simpa using h0) (by simpa using h1)
theorem VB {N:Nat} (hn:ED N A) (hf:BY N A f) (ht:JE A f D by_) {S:Int->Bool} (h0:S 0=true) (h1:S 1=false) (hS:Bj S A=Al A f):∀ x∈D,S x=true:=by
 have hv:=Mm hn hf h0 h1;have ho:=M9 hf.fit S;have hi:=Nu hf.fit S;have h2:Dm S A f=Bj S A:=zy
 have h3:GV S A f=0:=zy
 have key:∀ {A:List Ed} {f:List Int},CN A f->Dm S A f=Bj S A->GV S A f=0 -> ∀ s:Bd,s.1<A.length->S (CY A s)=true->0<B5 A f s->S (A0 A s)=true:=by
  intro A
  induction A with
  | nil=>intro f _ _ _ s hs;simp at hs
  | cons e A ih =>
    intro f hf ho hi s hs hF hr
    cases f with
    | nil=>exact hf.elim
    | cons v f =>
      have k1:=M9 hf.2 S;have k2:=Nu hf.2 S;have hv:=hf.1;have e1:Dm S (e::A) (v::f)=(if S e.f=true/\S e.t=false then v else 0)+Dm S A f:=rfl
      have e2:GV S (e::A) (v::f)=(if S e.f=false/\S e.t=true then v else 0)+GV S A f:=rfl
      have e3:Bj S (e::A)=(if S e.f=true/\S e.t=false then e.v else 0)+Bj S A:=rfl
      rw[e1,e3] at ho;rw[e2] at hi;obtain⟨i,b⟩:=s
      cases i with
      | zero =>
        cases b
        .simp [CY,A0,B5,AR] at hF hr ⊢
         cases hT:S e.t
         .simp [hF,hT] at ho
          omega
         .rfl
        .simp [CY,A0,B5,AR] at hF hr ⊢
         cases hT:S e.f
         .simp [hF,hT] at hi
          omega
         .rfl
      | succ i =>
        have q1:Dm S A f=Bj S A:=by
         split at ho<;>omega
        have q2:GV S A f=0:=by
         split at hi<;>omega
        have:=ih hf.2 q1 q2 (i,b) (by simpa using hs) (by simpa [CY,AR] using hF) (by simpa [B5,AR] using hr)
        simpa [A0,AR] using this
 have h4:=key hf.fit h2 h3
 have q:∀ (n j:Nat) (hj:j<D.length),j<=n->S D[j]=true:=by
  intro n
  induction n with
  | zero =>
    intro j hj hn;have hj0:j=0:=zy
    subst hj0;have hz:=ht.zero;rw[List.head?_eq_getElem?,Qa hj] at hz;rw[Qj hz];exact h0
  | succ n ih =>
    intro j hj hn;rcases Q8 j with hj0 | hj0
    .exact ih j hj zy
    .obtain ⟨q1,q2,q3,q4⟩:=ht.step j hj hj0
     obtain⟨i,hi,u⟩:=Qr.1 q3;rw[QB] at hi;rw[Uv] at u;have:=h4 _ q1 (by rw[<- u];exact ih i zy zy) q4
     rw[q2] at this;exact this
 intro x hx;obtain⟨j,hj,rfl⟩:=Qr.1 hx;exact q j j hj (Qg _)
variable {A:List Ed}
def CV (A:List Ed):Int->List Nat->Int->Prop
 | u,[],w=>u=w
 | u,i::l,w=>i<A.length/\(AR A i).f=u/\CV A (AR A i).t l w
theorem CV.snoc {A:List Ed}:∀ {l:List Nat} {u w:Int} {i:Nat},CV A u l w->i<A.length->(AR A i).f=w->CV A u (l++[i]) (AR A i).t
 | [],u,w,i,h,h1,h2=>⟨h1,by rw[h2];exact(show u=w from h).symm,rfl⟩
 | j::l,u,w,i,h,h1,h2=>⟨h.1,h.2.1,CV.snoc h.2.2 h1 h2⟩
def CA (A:List Ed) (l:List Nat):List Int:=l.map λ i=>(AR A i).t
theorem kH (A:List Ed) (l:List Nat) (i:Nat):CA A (l++[i])=CA A l++[(AR A i).t]:=by simp[CA]
theorem CV.take {A:List Ed}:∀ {l:List Nat} {u w:Int} (n:Nat),CV A u l w -> ∀ x,(u::CA A l)[n]? = some x->CV A u (l.take n) x
 | l,u,w,0,_,x,hx=>by
   have:u=x:=by simpa using hx
   exact this
 | [],u,w,n+1,_,x,hx=>by simp[CA] at hx
 | i::l,u,w,n+1,h,x,hx=>by
   refine⟨h.1,h.2.1,CV.take n h.2.2 x ?_⟩
   simpa [CA] using hx
theorem Yd (l:List Nat) (n i:Nat):(l.take n).count i<=l.count i:=(List.take_sublist n l).count_le i
structure Gq (A:List Ed) (f g:List Int) (l:List Nat) (w:Int):Prop where
 len:g.length=A.length
 nonneg:∀ i,0<=g.getD i 0
 way:CV A 0 l w
 met:((0:Int)::CA A l).Nodup
 used:∀ i,g.getD i 0+(l.count i:Int)<=f.getD i 0
 ex:∀ x,Co A g x=Co A f x - (if x=0 then 1 else 0)+if x=w then 1 else 0
theorem Gq.start {f:List Int} (hl:f.length=A.length) (h0:∀ i,0<=f.getD i 0):Gq A f f [] 0 :=
 ⟨hl,h0,rfl,by simp[CA],λ i=>zz,λ x=>by split<;>omega⟩
theorem Sx (f:List Int) (i j:Nat) (v:Int) (h:i<f.length):(f.set i v).getD j 0=if i=j then v else f.getD j 0:=by
 by_cases hj:i=j
 .subst hj
  rw[if_pos rfl,Qf,List.getElem?_set_self h,QH]
 .rw [if_neg hj,Qf,List.getElem?_set_ne hj,Qf]
theorem Gq.more {f g:List Int} {l:List Nat} {w:Int} (h:Gq A f g l w) {k:Nat} (hk:k<A.length) (hf:(AR A k).f=w) (hg:0<g.getD k 0) :
  ((AR A k).t∉((0:Int)::CA A l)->Gq A f (g.set k (g.getD k 0 - 1)) (l++[k]) (AR A k).t) /\
  ∀ n,((0:Int)::CA A l)[n]? = some (AR A k).t->Gq A f (g.set k (g.getD k 0 - 1)) (l.take n) (AR A k).t:=by
 have q:k<g.length:=by rw[h.len];exact hk
 have u:∀ i,0<=(g.set k (g.getD k 0 - 1)).getD i 0:=λ i=>by
  rw[Sx g k i _ q];split
  .omega
  .exact h.nonneg i
 have h0:∀ x,Co A (g.set k (g.getD k 0 - 1)) x=Co A f x - (if x=0 then 1 else 0)+if x=(AR A k).t then 1 else 0:=λ x=>by
  have h1:=VG (A:=A) (f:=g) (δ:=-1) (s:=(k,false)) hk h.len x;have h2:FE (-1) g (k,false)=g.set k (g.getD k 0 - 1):=rfl;have h3:CY A (k,false)=w:=hf;have h4:A0 A (k,false)=(AR A k).t:=rfl;rw[h2,h3,h4,h.ex x] at h1;rw[h1]
  have e1:(if w=x then (-1:Int) else 0) = - if x=w then 1 else 0:=by
   by_cases hh:w=x
   .rw [if_pos hh,if_pos hh.symm]
   .rw [if_neg hh,if_neg λ e=>hh e.symm,Int.neg_zero]
  have e2:(if (AR A k).t=x then (-1:Int) else 0) = - if x=(AR A k).t then 1 else 0:=by
   by_cases hh:(AR A k).t=x
   .rw [if_pos hh,if_pos hh.symm]
   .rw [if_neg hh,if_neg λ e=>hh e.symm,Int.neg_zero]
  rw[e1,e2];omega
 have h5:∀ i,(g.set k (g.getD k 0 - 1)).getD i 0+((l++[k]).count i:Int)<=f.getD i 0:=λ i=>by
  have h1:=h.used i;rw[Sx g k i _ q,Vd]
  by_cases hi:k=i
  .subst hi
   rw[if_pos rfl,show List.count k [k]=1 by simp]
   omega
  .rw [if_neg hi,show List.count i [k]=0 from List.count_eq_zero.2 (by simpa using λ e=>hi e.symm)]
   omega
 refine⟨λ hm=>⟨by rw[Ux];exact h.len,u,h.way.snoc hk hf,?_,h5,h0⟩,λ n hn=>⟨by rw[Ux];exact h.len,u,h.way.take n _ hn,?_,λ i=>?_,h0⟩⟩
 .rw [kH,<- UW,Uy]
  exact⟨h.met,zz,λ a ha b hb=>by rw[Qw] at hb;subst hb;rintro rfl;exact hm ha⟩
 .have hs:((0:Int)::CA A (l.take n)).Sublist ((0:Int)::CA A l):=((List.take_sublist n l).map _).cons_cons 0
  exact h.met.sublist hs
 .have h1:=h5 i
  have h2:(l.take n).count i<=(l++[k]).count i:=QI (Yd l n i) (by rw[Vd];omega)
  omega
variable {ks:List Int} {l:List Nat}
structure H1 (A:List Ed) (E:Int->Int->Prop) (seeds aA:List Int) (c:Int->Int):Prop where
 kind:∀ i,i<A.length->(∃ x,x∈seeds/\0<=x/\AR A i=⟨0,2+2*x,c x⟩)∨(∃ x,0<=x/\AR A i=⟨2+2*x,3+2*x,c x - 1⟩)∨(∃ x,x∈aA/\0<=x/\AR A i=⟨2+2*x,1,1⟩)∨(∃ x y,0<=x/\0<=y/\E x y/\AR A i=⟨3+2*x,2+2*y,64⟩)
 uniq:∀ i j,i<A.length->j<A.length->(AR A i).f=(AR A j).f->(AR A i).t=(AR A j).t->i=j
inductive FU (A:List Ed) (E:Int->Int->Prop) (aA:List Int) (c:Int->Int):Int->List Nat->List Int->Prop
 | last (k:Int) (i:Nat):i<A.length->AR A i=⟨2+2*k,1,1⟩->k∈aA->FU A E aA c k [i] []
 | more (k y:Int) (i j:Nat) (l:List Nat) (ks:List Int):i<A.length->AR A i=⟨2+2*k,3+2*k,c k - 1⟩->AR A j=⟨3+2*k,2+2*y,64⟩->E k y->0<=y->FU A E aA c y l ks->FU A E aA c k (i::j::l) (y::ks)
variable {A:List Ed} {E:Int->Int->Prop} {seeds aA:List Int} {c:Int->Int}
theorem H1.sinkless (h:H1 A E seeds aA c) {i:Nat} (hi:i<A.length):(AR A i).f≠1:=by
 rcases h.kind i hi with ⟨x,_,hx,e⟩ | ⟨x,hx,e⟩ | ⟨x,_,hx,e⟩ | ⟨x,y,hx,hy,_,e⟩<;>rw[e]<;>simp only<;>omega
theorem H1.path (h:H1 A E seeds aA c):∀ (n:Nat) (l:List Nat) (k:Int),l.length<=n->0<=k->CV A (2+2*k) l 1 -> ∃ ks,FU A E aA c k l ks
 | _,[],k,_,hk,hw=>by
   have:2+2*k=1:=hw;omega
 | n,[i],k,_,hk,hw=>by
   obtain⟨h1,h2,h3⟩:=hw;have q:(AR A i).t=1:=h3;rcases h.kind i h1 with ⟨x,_,hx,e⟩ | ⟨x,hx,e⟩ | ⟨x,hs,hx,e⟩ | ⟨x,y,hx,hy,_,e⟩<;>rw[e] at h2 q<;>simp only at h2 q
   .omega
   .omega
   .have:x=k:=zy
    subst this;exact⟨[],.last _ i h1 e hs⟩
   .omega
 | 0,_::_::_,_,hn,_,_=>by simp at hn
 | n+1,i::j::l,k,hn,hk,hw=>by
   obtain⟨h1,h2,h4,h5,h6⟩:=hw;rcases h.kind i h1 with ⟨x,_,hx,e⟩ | ⟨x,hx,e⟩ | ⟨x,hs,hx,e⟩ | ⟨x,y,hx,hy,_,e⟩
   .rw [e] at h2;simp only at h2;omega
   .rw [e] at h2 h5
    simp only at h2 h5;have:x=k:=zy
    subst this;rcases h.kind j h4 with ⟨z,_,hz,e'⟩ | ⟨z,hz,e'⟩ | ⟨z,hs,hz,e'⟩ | ⟨z,y,hz,hy,hE,e'⟩
    .rw [e'] at h5;simp only at h5;omega
    .rw [e'] at h5;simp only at h5;omega
    .rw [e'] at h5;simp only at h5;omega
    .rw [e'] at h5 h6
     simp only at h5 h6;have:z=x:=zy
     subst this;obtain⟨ks,hp⟩:=h.path n l y (by simp at hn;omega) hy h6
     exact⟨y::ks,.more _ y i j l ks h1 e e' hE hy hp⟩
   .rw [e] at h5
    simp only at h5;exact absurd h5 (h.sinkless h4)
   .rw [e] at h2;simp only at h2;omega
def Fu (t:Int):Option Int:=if 2<=t/\t % 2=0 then some ((t - 2) / 2) else none
def DM (A:List Ed) (l:List Nat):List Int:=(CA A l).filterMap Fu
theorem TX {k:Int} (h:0<=k):Fu (2+2*k)=some k:=by
 unfold Fu;rw[if_pos ⟨zy,zy⟩]
 congr 1
 omega
theorem cZ (k:Int):Fu (3+2*k)=none:=if_neg zy
theorem gP:Fu 1=none:=if_neg zy
theorem FU.keys {k:Int} (h:FU A E aA c k l ks):DM A l=ks:=by
 induction h with
 | last k i h1 h2 h3 =>
   unfold DM CA;rw[List.map_cons,UT,UP,h2];simp only;rw[gP];rfl
 | more k y i j l ks h1 h2 h3 h4 h5 h6 ih =>
   unfold DM CA at ih ⊢;rw[List.map_cons,List.map_cons,UP,h2];simp only;rw[cZ,UP,h3];simp only;rw[TX h5,ih]
theorem FU.edges {k:Int} (h:FU A E aA c k l ks):∀ i (hi:i+1<(k::ks).length),E (k::ks)[i] (k::ks)[i+1]:=by
 induction h with
 | last k i h1 h2 h3=>intro i hi;simp at hi
 | more k y i j l ks h1 h2 h3 h4 h5 h6 ih =>
   intro n hn
   cases n with
   | zero=>exact h4
   | succ n=>exact ih n (by simpa using hn)
theorem FU.ends {k:Int} (h:FU A E aA c k l ks):∃ z,(k::ks).getLast? = some z/\z∈aA /\ ∃ i∈l,i<A.length/\AR A i=⟨2+2*z,1,1⟩:=by
 induction h with
 | last k i h1 h2 h3=>exact⟨k,rfl,h3,i,Qw.2 rfl,h1,h2⟩
 | more k y i j l ks h1 h2 h3 h4 h5 h6 ih =>
   obtain⟨z,hz,hs,m,hm,q,u⟩:=ih;exact⟨z,by rw[List.getLast?_cons_cons];exact hz,hs,m,Qo _ (Qo _ hm),q,u⟩
theorem FU.uses (hu:∀ i j,i<A.length->j<A.length->(AR A i).f=(AR A j).f->(AR A i).t=(AR A j).t->i=j) {k:Int} (h:FU A E aA c k l ks) {m:Int} {n:Nat} (hn:n<A.length) (hm:AR A n=⟨2+2*m,3+2*m,c m - 1⟩):(k::ks).dropLast.count m<=l.count n:=by
 induction h with
 | last k i h1 h2 h3=>simp
 | more k y i j l ks h1 h2 h3 h4 h5 h6 ih =>
   rw[List.dropLast_cons_of_ne_nil zz,List.count_cons]
   have h7:l.count n<=(j::l).count n:=by rw[List.count_cons];omega
   rw[List.count_cons]
   by_cases hk:k=m
   .subst hk
    have:i=n:=hu i n h1 hn (by rw[h2,hm]) (by rw[h2,hm])
    subst this;simp only[beq_self_eq_true,UQ];omega
   .have q:(k == m)=false:=by simpa using hk
    rw[q];simp only[Uh,Uu];omega
theorem FU.mids {k:Int} (h:FU A E aA c k l ks) {m:Int} (hm:m∈(k::ks).dropLast):∃ n,n<A.length/\AR A n=⟨2+2*m,3+2*m,c m - 1⟩:=by
 induction h with
 | last k i h1 h2 h3=>simp at hm
 | more k y i j l ks h1 h2 h3 h4 h5 h6 ih =>
   rw[List.dropLast_cons_of_ne_nil zz] at hm
   rcases Qv.1 hm with rfl | hm
   .exact ⟨i,h1,h2⟩
   .exact ih hm
theorem H1.whole (h:H1 A E seeds aA c) (hw:CV A 0 l 1):∃ x i l' ks,l=i::l'/\i<A.length/\x∈seeds/\0<=x/\AR A i=⟨0,2+2*x,c x⟩/\FU A E aA c x l' ks/\DM A l=x::ks:=by
 cases l with
 | nil=>have:(0:Int)=1:=hw;omega
 | cons i l =>
   obtain⟨h1,h2,h3⟩:=hw;rcases h.kind i h1 with ⟨x,hs,hx,e⟩ | ⟨x,hx,e⟩ | ⟨x,hs,hx,e⟩ | ⟨x,y,hx,hy,_,e⟩
   .rw [e] at h3
    obtain⟨ks,hp⟩:=h.path l.length l x (Qg _) hx h3;refine⟨x,i,l,ks,rfl,h1,hs,hx,e,hp,?_⟩;have hk:=hp.keys;unfold DM CA at hk ⊢;rw[List.map_cons,UP,e];simp only;rw[TX hx,hk]
   .rw [e] at h2;simp only at h2;omega
   .rw [e] at h2;simp only at h2;omega
   .rw [e] at h2;simp only at h2;omega
theorem ZO (h:(CA A l).Nodup):(DM A l).Nodup:=by
 unfold DM;refine List.Pairwise.filterMap _ (λ a a' u b hb b' q=>?_) h;unfold Fu at hb q;split at hb<;>split at q<;>simp at hb q<;>omega
variable {A:List Ed}
def C1 (g:List Nat->Nat) (W:List (List Nat)):Nat:=(W.map g).sum
theorem Ot (g:List Nat->Nat) (w:List Nat) (W:List (List Nat)):C1 g (w::W)=g w+C1 g W:=by simp[C1]
theorem dY {l:List Int} (h:∀ x,l.count x<=1):l.Nodup:=by
 induction l with
 | nil=>exact List.nodup_nil
 | cons x l ih =>
   rw[Ur];refine⟨λ hm=>?_,ih λ y=>?_⟩
   .have h1:=h x
    rw[List.count_cons_self] at h1;have h2:=List.count_pos_iff.2 hm;omega
   .have h1:=h y
    rw[List.count_cons] at h1;omega
theorem TM {A:List Ed} {n:Nat} {k:Int}:∀ {W:List (List Nat)},(∀ w∈W,(DM A w).head? = some k->1<=w.count n)->EJ (W.map (DM A)) k<=C1 (List.count n) W
 | [],_=>by simp[EJ,C1]
 | w::W,h=>by
   have ih:=TM (n:=n) (k:=k) λ x hx=>h x (Qo w hx);have h1:=h w (Qp ..);unfold EJ at ih ⊢;rw[List.map_cons,List.countP_cons,Ot]
   by_cases hk:(DM A w).head? = some k
   .have:=h1 hk
    simp only[hk,decide_true,UQ];omega
   .simp only[hk,decide_false,Uh,Uu]
    omega
theorem Py {A:List Ed} {k:Int}:∀ {W:List (List Nat)},EJ (W.map (DM A)) k=0 ∨ ∃ w∈W,(DM A w).head? = some k
 | []=>.inl rfl
 | w::W=>by
   by_cases hk:(DM A w).head? = some k
   .exact .inr ⟨w,Qp ..,hk⟩
   .rcases Py (A:=A) (k:=k) (W:=W) with h | ⟨x,hx,hx2⟩
    .left
     unfold EJ at h ⊢;rw[List.map_cons,List.countP_cons,h];simp[hk]
    .exact .inr ⟨x,Qo _ hx,hx2⟩
theorem TY {A:List Ed} {n:Nat} {k:Int}:∀ {W:List (List Nat)},(∀ w∈W,(DM A w).dropLast.count k<=w.count n)->D6 (W.map (DM A)) k<=C1 (List.count n) W
 | [],_=>by simp[D6,C1]
 | w::W,h=>by
   have ih:=TY (n:=n) (k:=k) λ x hx=>h x (Qo w hx);have h1:=h w (Qp ..);unfold D6 at ih ⊢;rw[List.map_cons,U2,Vd,Ot];omega
theorem VC {A:List Ed} {k:Int}:∀ {W:List (List Nat)},D6 (W.map (DM A)) k=0 ∨ ∃ w∈W,k∈(DM A w).dropLast
 | []=>.inl rfl
 | w::W=>by
   by_cases hk:k∈(DM A w).dropLast
   .exact .inr ⟨w,Qp ..,hk⟩
   .rcases VC (A:=A) (k:=k) (W:=W) with h | ⟨x,hx,hx2⟩
    .left
     unfold D6 at h ⊢;rw[List.map_cons,U2,Vd,h,List.count_eq_zero.2 hk]
    .exact .inr ⟨x,Qo _ hx,hx2⟩
theorem PW {A:List Ed} {n:Nat} {k:Int}:∀ {W:List (List Nat)},(∀ w∈W,(DM A w).getLast? = some k->1<=w.count n)->(GC (W.map (DM A))).count k<=C1 (List.count n) W
 | [],_=>by simp[GC,C1]
 | w::W,h=>by
   have ih:=PW (n:=n) (k:=k) λ x hx=>h x (Qo w hx);have h1:=h w (Qp ..);unfold GC at ih ⊢;rw[List.map_cons,UP,Ot]
   cases hl:(DM A w).getLast? with
   | none=>simp only;omega
   | some z =>
     simp only[List.count_cons]
     by_cases hz:z=k
     .subst hz
      have:=h1 hl;simp only[beq_self_eq_true,UQ];omega
     .have:(z == k)=false:=by simpa using hz
      rw[this];simp only[Uh,Uu];omega
theorem V2 {E:Int->Int->Prop} {seeds aA:List Int} {cl:List Int} {f:List Int} {W:List (List Nat)} (hk:H1 A E seeds aA λ x=>cl.getD x.toNat 0) (hf:CN A f) (hw:∀ w∈W,CV A 0 w 1/\(CA A w).Nodup) (hs:∀ i,i<A.length->(C1 (List.count i) W:Int)<=f.getD i 0) (hc:∀ x∈cl,0<=x) :
  HW cl (W.map (DM A))/\(GC (W.map (DM A))).Nodup/\(∀ k∈GC (W.map (DM A)),k∈aA) /\
  ∀ p∈W.map (DM A),(∃ k,p.head? = some k/\k∈seeds)/\p.Nodup /\ ∀ i (h:i+1<p.length),E p[i] p[i+1]:=by
 have h4:=(Gd.1 hf).2
 have h0:∀ w∈W,∃ z,(DM A w).getLast? = some z/\z∈aA /\ ∃ i∈w,i<A.length/\AR A i=⟨2+2*z,1,1⟩:=λ w q=>by
  obtain⟨x,i,l',ks,rfl,hi,h5,h8,he,hp,u⟩:=hk.whole (hw w q).1;obtain⟨z,hz,hv,m,hm,hx,a0⟩:=hp.ends;exact⟨z,by rw[u];exact hz,hv,m,Qo _ hm,hx,a0⟩
 refine⟨λ k h9=>⟨?_,?_⟩,dY λ z=>?_,λ z hz=>?_,λ p hp=>?_⟩
 .have ho:=hc _ (Qi h9)
  have ha:cl.getD k 0=cl[k]:=by rw[Qf,Qa h9,QH]
  rcases Py (A:=A) (k:=(k:Int)) (W:=W) with h | ⟨w,q,hh⟩
  .rw [h];exact ho
  .obtain ⟨x,i,l',ks,rfl,hi,h5,h8,he,hp,u⟩:=hk.whole (hw w q).1
   rw[u] at hh;have a1:x=k:=Qj hh;subst a1
   have h1:=TM (A:=A) (n:=i) (k:=(k:Int)) (W:=W) λ v h6 hq=>by
    obtain⟨y,j,l2,ks2,rfl,hj,_,_,hb,_,h7⟩:=hk.whole (hw v h6).1;rw[h7] at hq;have a2:y=k:=Qj hq;have:j=i:=hk.uniq j i hj hi (by rw[hb,he]) (by rw[hb,he,a2])
    subst this;rw[List.count_cons_self];omega
   have h2:=hs i hi;have h3:=(h4 i hi).2;rw[he] at h3;simp only[Vc] at h3;rw[ha] at h3;omega
 .have ho:=hc _ (Qi h9)
  have ha:cl.getD k 0=cl[k]:=by rw[Qf,Qa h9,QH]
  rcases VC (A:=A) (k:=(k:Int)) (W:=W) with h | ⟨w,q,hh⟩
  .rw [h];omega
  .obtain ⟨x,i,l',ks,rfl,hi,h5,h8,he,hp,u⟩:=hk.whole (hw w q).1
   rw[u] at hh;obtain⟨n,hn,hr⟩:=hp.mids hh
   have h1:=TY (A:=A) (n:=n) (k:=(k:Int)) (W:=W) λ v h6=>by
    obtain⟨y,j,l2,ks2,rfl,hj,_,_,hb,a3,h7⟩:=hk.whole (hw v h6).1;rw[h7,List.count_cons];have:=a3.uses hk.uniq hn hr;omega
   have h2:=hs n hn;have h3:=(h4 n hn).2;rw[hr] at h3;simp only[Vc] at h3;rw[ha] at h3;omega
 .by_cases hz:z∈GC (W.map (DM A))
  .obtain ⟨p,hp,hd⟩:=U9.1 hz
   obtain⟨w,q,rfl⟩:=Qm.1 hp;obtain⟨y,hy,ht,i,a6,hi,hg⟩:=h0 w q;rw[hd] at hy;have hl:z=y:=Qj hy;subst hl
   have h1:=PW (A:=A) (n:=i) (k:=z) (W:=W) λ v h6 a4=>by
    obtain⟨y,hy,_,j,a5,hj,hu⟩:=h0 v h6;rw[a4] at hy;have hl:z=y:=Qj hy;have:j=i:=hk.uniq j i hj hi (by rw[hu,hg,hl]) (by rw[hu,hg])
    subst this;exact List.count_pos_iff.2 a5
   have h2:=hs i hi;have h3:=(h4 i hi).2;rw[hg] at h3;simp only at h3;omega
  .rw [List.count_eq_zero.2 hz]
   omega
 .obtain ⟨p,hp,hd⟩:=U9.1 hz
  obtain⟨w,q,rfl⟩:=Qm.1 hp;obtain⟨y,hy,ht,_⟩:=h0 w q;rw[hd] at hy;rw[Qj hy];exact ht
 .obtain ⟨w,q,rfl⟩:=Qm.1 hp
  refine⟨?_,ZO (hw w q).2,?_⟩
  .obtain ⟨x,i,l',ks,rfl,hi,h5,h8,he,hp,u⟩:=hk.whole (hw w q).1
   exact⟨x,by rw[u];rfl,h5⟩
  .obtain ⟨x,i,l',ks,rfl,hi,h5,h8,he,hp,u⟩:=hk.whole (hw w q).1
   have:=hp.edges;intro n hn;simp only[u] at hn ⊢;exact this n hn
def EG (e:Ed):Int × Int:=(e.f,e.t)
theorem fN {A:List Ed} (h:(A.map EG).Nodup) {i j:Nat} (hi:i<A.length) (hj:j<A.length) (h1:(AR A i).f=(AR A j).f) (h2:(AR A i).t=(AR A j).t):i=j:=by
 have hg:∀ k (hk:k<A.length),(A.map EG)[k]'(by simpa using hk)=EG (AR A k):=λ k hk=>by
  rw[List.getElem_map];unfold AR;rw[Qf,Qa hk,QH]
 have he:EG (AR A i)=EG (AR A j):=by unfold EG;rw[h1,h2]
 rcases Nat.lt_trichotomy i j with q | heq | hgt
 .exact absurd ((hg i hi).trans (he.trans (hg j hj).symm)) (QD.1 h i j (by simpa using hi) (by simpa using hj) q)
 .exact heq
 .exact absurd ((hg j hj).trans (he.symm.trans (hg i hi).symm)) (QD.1 h j i (by simpa using hj) (by simpa using hi) hgt)
theorem NA {α β:Type} {φ:α->β} {l:List α} (h:l.Nodup) (hi:∀ a∈l,∀ b∈l,φ a=φ b->a=b):(l.map φ).Nodup:=by
 rw[List.Nodup,Uw];exact List.Pairwise.imp_of_mem (λ {a b} ha hb q he=>q (hi a ha b hb he)) h
theorem YP {g:Gr} {p:BV} {c aA q:List Int} {E:Int->Int->Prop} (hE:∀ e∈(Ao g p.lv).edges,0<c.getD e.f.toNat 0->E e.f e.t) (hS:∀ x∈p.seeds,0<c.getD x.toNat 0->x∈q) (hs:p.seeds.Nodup) (h3:∀ x∈p.seeds,0<=x) (hk:aA.Nodup) (u:∀ x∈aA,0<=x) (he:((Ao g p.lv).edges.map EG).Nodup) (h2:∀ e∈(Ao g p.lv).edges,0<=e.f/\0<=e.t) :
  H1 (DW g p c aA) E q aA λ x=>c.getD x.toNat 0:=by
 refine⟨λ i hi=>?_,λ i j hi hj=>fN ?_ hi hj⟩
 .have hm:=HX hi
  revert hm
  generalize AR (DW g p c aA) i=a;intro hm;unfold DW at hm;rcases Qn.1 hm with hm | hm
  .rcases Qn.1 hm with hm | hm
   .rcases Qn.1 hm with hm | hm
    .obtain ⟨x,hx,rfl⟩:=Qm.1 hm
     have hx:=QA.1 hx;exact .inl ⟨x,hS x hx.1 (by simpa using hx.2),h3 x hx.1,rfl⟩
    .obtain ⟨x,hx,rfl⟩:=Qm.1 hm
     exact .inr (.inl ⟨x,Int.natCast_nonneg _,zz⟩)
   .obtain ⟨x,hx,rfl⟩:=Qm.1 hm
    have hx:=(QA.1 hx).1;exact .inr (.inr (.inl ⟨x,hx,u x hx,rfl⟩))
  .obtain ⟨e,hx,rfl⟩:=Qm.1 hm
   have hx:=QA.1 hx;have h0:=h2 e hx.1;exact .inr (.inr (.inr ⟨e.f,e.t,h0.1,h0.2,hE e hx.1 (by simpa using hx.2),rfl⟩))
 .unfold DW
  simp only[List.map_append,Un];refine Uy.2 ⟨Uy.2 ⟨Uy.2 ⟨?_,?_,?_⟩,?_,?_⟩,?_,?_⟩
  .exact NA (hs.filter _) λ a _ b _ h=>by simp[EG] at h;omega
  .exact NA (List.nodup_range.filter _) λ a _ b _ h=>by simp[EG] at h;omega
  .intro a ha b hb
   obtain⟨x,hx,rfl⟩:=Qm.1 ha;obtain⟨y,hy,rfl⟩:=Qm.1 hb;intro h;simp[EG] at h;omega
  .exact NA (hk.filter _) λ a _ b _ h=>by simp[EG] at h;omega
  .intro a ha b hb
   obtain⟨y,hy,rfl⟩:=Qm.1 hb;have h4:=u y (QA.1 hy).1;rcases Qn.1 ha with ha | ha
   .obtain ⟨x,hx,rfl⟩:=Qm.1 ha
    intro h;simp[EG] at h;omega
   .obtain ⟨x,hx,rfl⟩:=Qm.1 ha
    intro h;simp[EG] at h;omega
  .have h1:((Ao g p.lv).edges.filter λ e=>decide (0<c.getD e.f.toNat 0)).Pairwise λ a b=>EG a≠EG b:=by
    rw[List.Nodup,Uw] at he;exact he.filter _
   rw[List.Nodup,Uw];refine h1.imp λ {a b} h5 h=>h5 ?_;simp[EG] at h;unfold EG;rw[show a.f=b.f by omega,show a.t=b.t by omega]
  .intro a ha b hb
   obtain⟨e,hy,rfl⟩:=Qm.1 hb;have h4:=h2 e (QA.1 hy).1;rcases Qn.1 ha with ha | ha
   .rcases Qn.1 ha with ha | ha
    .obtain ⟨x,hx,rfl⟩:=Qm.1 ha
     intro h;simp[EG] at h;omega
    .obtain ⟨x,hx,rfl⟩:=Qm.1 ha
     intro h;simp[EG] at h;omega
   .obtain ⟨x,hx,rfl⟩:=Qm.1 ha
    intro h;simp[EG] at h;omega
structure G5 where
 key:Int
 acc:Bool
 before:List Int
 paths:List (List Int)
 side:List Int
theorem IY (g:Gr) (S:List Int):(Aj g S).Nodup:=by
 refine(PL (g:=g) (S:=S) g.size.toNat).imp λ {a b} h e=>?_;subst e;unfold Lt at h;omega
theorem KF {g:Gr} {S:List Int} {k:Int} (h:k∈Aj g S):0<=k/\k<g.size:=by
 have:=IG.1 h;omega
open Classical in
def O4 (g:Gr) (p:BV) (x:G5):Int :=
 let order:=Aj (Ao g p.lv) p.seeds
 let c:=BB g p
 if x.key∉order then 11
 else if ¬ IJ order x.before x.key∨(x.acc=true/\x.side≠[])∨(x.acc=false/\x.paths≠[]) then 1
 else if x.acc=true then (if Jq g p.lv p.seeds order c x.paths (x.before++[x.key]) then 0 else 52)
 else if OY ⟨2+2*g.size,DW g p c (HL (x.before++[x.key]))⟩ x.side x.before.length then 0 else 52
open Classical in
def OZ (g:Gr) (p:BV) (x:G5):Int :=
 let order:=Aj (Ao g p.lv) p.seeds
 let c:=BB g p
 if x.key∉order then 11
 else if ¬ IJ order x.before x.key∨(x.acc=true/\x.side≠[])∨(x.acc=false/\x.paths≠[]) then 1
 else if x.acc=true then (if Kj g p.lv p.seeds order c x.paths (x.before++[x.key]) then 0 else 52)
 else if OY ⟨2+2*g.size,DW g p c (Az (x.before++[x.key]))⟩ x.side x.before.length then 0 else 52
theorem cP {g:Gr} (hs:g.size<=64) (p:BV) (x:G5):O4 g p x=OZ g p x:=by
 unfold O4 OZ;simp only;have u:=IY (Ao g p.lv) p.seeds
 have q:∀ k∈Aj (Ao g p.lv) p.seeds,0<=k/\k<64:=λ k hk=>by
  have:=KF hk;have h2:(Ao g p.lv).size=g.size:=rfl;omega
 generalize Aj (Ao g p.lv) p.seeds=o at *
 by_cases h1:x.key∈o
 .by_cases h2:¬ IJ o x.before x.key∨(x.acc=true/\x.side≠[])∨(x.acc=false/\x.paths≠[])
  .rw [if_neg (not_not_intro h1),if_pos h2,if_neg (not_not_intro h1),if_pos h2]
  .rw [if_neg (not_not_intro h1),if_neg h2,if_neg (not_not_intro h1),if_neg h2]
   have h3:IJ o x.before x.key:=Classical.byContradiction λ h=>h2 (.inl h);have h4:=h3.nodup u
   have h5:∀ k∈x.before++[x.key],0<=k/\k<64:=λ k hk=>by
    rcases Qn.1 hk with hk | hk
    .exact q k ((List.takeWhile_sublist _).subset (h3.subset hk))
    .rw [Qw] at hk
     rw[hk];exact q _ h1
   rw[Nf h4 h5]
   by_cases ha:x.acc=true
   .rw [if_pos ha,if_pos ha]
    by_cases hc:Jq g p.lv p.seeds o (BB g p) x.paths (x.before++[x.key])
    .rw [if_pos hc,if_pos ((SB h4).1 hc)]
    .rw [if_neg hc,if_neg λ h=>hc ((SB h4).2 h)]
   .rw [if_neg ha,if_neg ha]
 .rw [if_pos h1,if_pos h1]
variable {g:Gr} {p:BV}
theorem VF {k:Int} (h0:0<=k) (h1:k<g.size):(BB g p).getD k.toNat 0=D1 p (Aq (Ao g p.lv) p.seeds k):=by
 unfold BB CZ;have h2:k.toNat<(Ao g p.lv).size.toNat:=by show k.toNat<g.size.toNat;omega
 rw[Qf,QG,QG,List.getElem?_range h2];simp only[Um,QH];rw[show ((k.toNat:Nat):Int)=k by omega]
theorem V1 {k:Int} (h1:g.size<=k):(BB g p).getD k.toNat 0=0:=by
 unfold BB CZ;have h2:¬ k.toNat<(Ao g p.lv).size.toNat:=by show ¬ k.toNat<g.size.toNat;omega
 rw[Qf,QT zu]
 rfl
theorem Pv {n:Int} (hp:CG n p):∀ x∈BB g p,0<=x:=λ x hx=>by
 unfold BB at hx;obtain⟨d,_,rfl⟩:=Qm.1 hx;exact(PJ hp d).1
theorem OO {n:Int} (hp:CG n p) {k:Int} (h0:0<=k):0<(BB g p).getD k.toNat 0↔k<g.size/\0<=Aq (Ao g p.lv) p.seeds k:=by
 by_cases h1:k<g.size
 .rw [VF h0 h1,Pg hp]
  exact⟨λ h=>⟨h1,h⟩,λ h=>h.2⟩
 .rw [V1 zy]
  constructor
  .intro h;omega
  .intro h;exact absurd h.1 h1
theorem Ah.level (h:Ah g) (v:Int):Ah (Ao g v):=by
 refine⟨⟨h.1.1,h.1.2.1,QI (QO _ _) h.1.2.2.1,h.1.2.2.2⟩,λ i hi=>?_⟩;have hm:(Ao g v).edges[i]∈g.edges:=(QA.1 (Qi hi)).1;obtain⟨j,hj,q⟩:=Qr.1 hm;have h1:=h.2 j hj;rw[q] at h1;refine⟨h1.1,h1.2.1,h1.2.2.1,λ h0=>?_⟩;rw[Ka];have hp:(Ao g v).edges.Pairwise EU:=h.pair.filter _;exact QD.1 hp (i - 1) i zy hi zy
theorem Ku (h:Ah g) {S:List Int} {k:Int}:k∈Aj g S↔EI g k/\0<=Aq g S k:=by
 unfold Aj;rw[IG];constructor
 .rintro ⟨⟨h1,h2⟩,h3,_⟩
  exact⟨⟨h1,zy⟩,h3⟩
 .rintro ⟨h1,h2⟩
  have h3:=VH (S:=S) h h1;have h4:=h1.1;have h5:=h1.2;exact⟨⟨h4,zy⟩,h2,zy⟩
theorem Mj (h:Ah g) (v:Int):((Ao g v).edges.map EG).Nodup /\ ∀ e∈(Ao g v).edges,0<=e.f/\e.f<g.size/\0<=e.t/\e.t<g.size:=by
 have hl:=h.level v;refine⟨?_,λ e he=>?_⟩
 .rw [List.Nodup,Uw]
  refine hl.pair.imp λ {a b} q he=>?_;unfold EU at q;unfold EG at he;simp at he;omega
 .obtain ⟨i,hi,rfl⟩:=Qr.1 he
  have h1:=(hl.2 i hi).1;have h2:(Ao g v).size=g.size:=rfl;unfold DX at h1;omega
theorem Bh.nodup {l:List Int} {lo hi:Int} (h:Bh l lo hi):l.Nodup /\ ∀ x∈l,lo<=x/\x<=hi:=by
 have q:∀ (j i:Nat) (hj:j<l.length) (hij:i<j),l[i]<l[j]:=by
  intro j
  induction j with
  | zero=>intro i _ hij;omega
  | succ j ih =>
    intro i hj hij;have h1:=(h (j+1) hj).2.2 zy
    simp only[Nat.add_sub_cancel] at h1;rcases Ua i j with h2 | h2
    .have:=ih i zy h2
     omega
    .have:i=j:=zy
     subst this;exact h1
 refine⟨QD.2 λ i j hi hj hij he=>?_,λ x hx=>?_⟩
 .have:=q j i hj hij
  omega
 .obtain ⟨i,hi,rfl⟩:=Qr.1 hx
  have:=h i hi;exact⟨this.1,this.2.1⟩
theorem kW {aA u f:List Int} {W:List (List Nat)} (hg:Ah g) (hp:CG g.size p) (hk:aA.Nodup) (ha:∀ x∈aA,0<=x) (h4:u.Perm aA) (hf:CN (DW g p (BB g p) aA) f) (hw:∀ w∈W,CV (DW g p (BB g p) aA) 0 w 1/\(CA (DW g p (BB g p) aA) w).Nodup) (hs:∀ i,i<(DW g p (BB g p) aA).length->(C1 (List.count i) W:Int)<=f.getD i 0) (hl:W.length=aA.length) :
  Kj g p.lv p.seeds (Aj (Ao g p.lv) p.seeds) (BB g p) (W.map (DM (DW g p (BB g p) aA))) u:=by
 have h5:=hg.level p.lv;have h6:=hp.2.1.nodup;have q:=Mj hg p.lv
 have hb:∀ k,0<=k->0<(BB g p).getD k.toNat 0->k∈Aj (Ao g p.lv) p.seeds:=λ k h0 hc=>by
  have h1:=(OO hp h0).1 hc;exact(Ku h5).2 ⟨⟨h0,h1.1⟩,h1.2⟩
 have h8:H1 (DW g p (BB g p) aA) (λ x y=>L2 g p.lv x y/\y∈Aj (Ao g p.lv) p.seeds) (p.seeds.filter λ x=>decide (x∈Aj (Ao g p.lv) p.seeds)) aA λ x=>(BB g p).getD x.toNat 0:=by
  refine YP (λ e he hc=>?_) (λ x hx hc=>?_) h6.1 (λ x hx=>(h6.2 x hx).1) hk ha q.1 λ e he=>⟨(q.2 e he).1,(q.2 e he).2.2.1⟩
  .have h0:=q.2 e he
   have h1:=(OO hp h0.1).1 hc;have h2:=eT h5 he h1.2;refine⟨?_,(Ku h5).2 ⟨⟨h0.2.2.1,h0.2.2.2⟩,h2.1⟩⟩;unfold Ao at he;have h3:=QA.1 he;refine⟨e,h3.1,rfl,rfl,?_⟩;have:=h3.2;simp at this;omega
  .exact QA.2 ⟨hx,by simpa using hb x (h6.2 x hx).1 hc⟩
 obtain⟨q1,q2,q3,q4⟩:=V2 h8 hf hw hs (Pv hp);refine⟨by rw[Qs,hl,h4.length_eq],h4.nodup_iff.2 hk,λ w hd=>?_,λ k hh=>h4.mem_iff.2 (q3 k hh),q2,q1⟩
 obtain⟨⟨k,h7,hj⟩,h2,h3⟩:=q4 w hd;have h9:=QA.1 hj;have hm:k∈Aj (Ao g p.lv) p.seeds:=by simpa using h9.2
 refine⟨⟨k,h7,h9.1⟩,λ x hx=>?_,h2,λ i hi=>(h3 i hi).1⟩;obtain⟨i,hi,rfl⟩:=Qr.1 hx
 cases i with
 | zero =>
   rw[List.head?_eq_getElem?,Qa hi] at h7;rw[Qj h7];exact hm
 | succ i=>exact(h3 i hi).2
variable {g:Gr} {p:BV}
theorem Ah.edges_le (h:Ah g):g.edges.length<=500:=h.1.2.2.1
theorem F4:(BB g p).length=g.size.toNat:=by simp[BB,CZ,Ao]
def Ef (g:Gr) (p:BV) (k:Nat):List Int:=(BB g p).take k++(CZ (Ao g p.lv) p.seeds).drop k
theorem S5 (k:Nat) (hk:k<=g.size.toNat):(Ef g p k).length=g.size.toNat:=by simp[Ef,F4,CZ,Ao];omega
theorem bY:Ef g p 0=CZ (Ao g p.lv) p.seeds:=by simp[Ef]
theorem j0:Ef g p g.size.toNat=BB g p:=by
 unfold Ef;rw[Qc (by rw[F4];exact Qg _),Q4 (by simp[CZ,Ao])]
 simp
theorem XK {k:Nat} (hk:k<g.size.toNat):(Ef g p k)[k]? = some (Aq (Ao g p.lv) p.seeds k):=by
 unfold Ef;rw[Qt (by simp[F4];omega)]
 simp[F4,Nat.min_eq_left (Nat.le_of_lt hk),CZ,Ao,hk]
theorem Vl {k:Nat} (hk:k<g.size.toNat):(AH (Ef g p k)).set k [AV.I (D1 p (Aq (Ao g p.lv) p.seeds k))]=AH (Ef g p (k+1)):=by
 rw[show [AV.I (D1 p (Aq (Ao g p.lv) p.seeds k))]=(λ n:Int=>[AV.I n]) (D1 p (Aq (Ao g p.lv) p.seeds k)) from rfl]
 show (List.map (λ n:Int=>[AV.I n]) (Ef g p k)).set k _=List.map (λ n:Int=>[AV.I n]) _;rw[<- Va]
 congr 1
 have hc:k<(BB g p).length:=by rw[F4];exact hk
 have hd:k<(CZ (Ao g p.lv) p.seeds).length:=by simp[CZ,Ao,hk]
 unfold Ef;rw[List.set_append,if_neg (by simp[F4];omega)]
 rw[show k - ((BB g p).take k).length=0 by simp[F4];omega]
 rw[QX hd,List.set_cons_zero,Ql hc,Qq]
 congr 2
 simp[BB,CZ]
theorem YA (g:Gr) (p:BV) (hg:Ah g) (hs:p.seeds.length<=1099511627776):AK 116 [eG g,eP p] [] (.rs 0 0 g.size.toNat) [some ⟨1,AH (BB g p),0⟩]:=by
 refine uO.s.ai ?_;have h5:=hg.1.1;have h4:=hg.1.2.1;have h7:=hg.edges_le;have h8:=hg.gone_le;have q:=RF (Ao g p.lv) p.seeds (hg.level p.lv) hs;have h1:(Ao g p.lv).size=g.size:=rfl;rw[h1,<- bY] at q;obtain⟨N,u⟩:∃ N:Nat,N=g.size.toNat:=⟨_,rfl⟩;rw[<- u] at q;have h9:∀ k,k<=N->(AH (Ef g p k)).length=N:=λ k hk=>by rw[Qs,S5 k zy,u]
 have h2:∀ (k:Nat) (h:k<(Ef g p k).length),k<N->(Ef g p k)[k]=Aq (Ao g p.lv) p.seeds k:=λ k h hk=>by
  have:=XK (g:=g) (p:=p) (k:=k) zy
  rw[Qa h] at this;exact Qj this
 have h0:∀ k,k<=N->(Ef g p k).length=N:=λ k hk=>by rw[S5 k zy,u]
 have h3:∀ k:Nat,k<N->(AH (Ef g p k)).set k [AV.I (D1 p (Aq (Ao g p.lv) p.seeds k))]=AH (Ef g p (k+1)):=λ k hk=>Vl zy
 refine rs [2,3] [] [16,24] ?_;apply al [3,5] [88] 104
 .simp
  refine Ay (Nh g p.lv zy zy) ?_
  simp;refine Cu q rfl ?_;simp[AB];exact⟨rfl,rfl⟩
 refine AC (rk (s:=?s3) [3,5,15,16,17] [88] rfl ?o3 ?q3)
 case o3=>simp;rfl
 refine AI (Ag (ι:=Nat) (λ i=>⟨30,[(3,.pv (pC p)),(5,.rs 88 0 N),(15,.rs 88 0 N),(16,.I N),(17,.I i)],[(88,some ⟨1,AH (Ef g p i),0⟩)],128⟩) (λ i=>i<=N) (λ i=>N - i) 0 zz (BD) ?_)
 intro i hi;refine rk (s:=?s5) [3,5,15,16,17,18] [88] rfl ?o5 ?q5
 case o5=>simp;rfl
 refine AC (AD _ rfl (λ h6=>?_) λ h6=>?_)
 .simp at h6
  have hw:=w6 (x:=(i:Int)+1);refine AE (AC (AI (rk (s:=?s7) [3,5,6,7,15,16,17] [88] rfl ?o7 ?q7)))
  case o7=>simp[h6,h0,h2,hi];rfl
  refine BA (s:=?s8) rfl ?o8 ?q8
  case o8 =>
   simp;refine Ay (Wp p (Aq (Ao g p.lv) p.seeds i)) ?_;simp[h6,h0,hi,h3];rfl
  refine BA (s:=?s9) rfl ?o9 ?q9
  case o9=>simp[hw];rfl
  exact⟨i+1,zy,zy,B4 [(88,88)] []⟩
 simp at h6;obtain rfl:i=N:=zy
 refine Aa (Ab (rk (s:=?s10) [4] [88] rfl ?o10 ?q10))
 case o10=>simp;rfl
 refine AO ⟨.inr rfl,AG.out [88] [] rfl zz zz (by simp[u]) (by simp[AB,u,j0])⟩
theorem d9 {g:Gr} {p:BV} {k:Nat} (hk:k<g.size.toNat):(BB g p).take (k+1)=(BB g p).take k++[D1 p (Aq (Ao g p.lv) p.seeds k)]:=by
 rw[Ql (by rw[F4];exact hk)]
 simp[BB,CZ]
theorem VZ (g:Gr) (p:BV) (hg:Ah g) (hs:p.seeds.length<=1099511627776):AK 17 [eG g,eP p] [] (.rs 0 0 g.size.toNat) [some ⟨1,AH (BB g p),0⟩]:=by
 refine wK.s.ai ?_;have hd:=hg.1.1;have hb:=hg.1.2.1;have he:=hg.edges_le;have hf:=hg.gone_le;have q:=Mt (Ao g p.lv) p.seeds (hg.level p.lv) hs;have h4:(Ao g p.lv).size=g.size:=rfl;rw[h4] at q;obtain⟨N,u⟩:∃ N:Nat,N=g.size.toNat:=⟨_,rfl⟩;have h0:(CZ (Ao g p.lv) p.seeds).length=N:=by simp[CZ,Ao,u]
 have h1:∀ (k:Nat) (h:k<(CZ (Ao g p.lv) p.seeds).length),(CZ (Ao g p.lv) p.seeds)[k]=Aq (Ao g p.lv) p.seeds k:=λ k h=>by simp[CZ]
 rw[<- u] at q;obtain⟨D,hD⟩:=AL (CZ (Ao g p.lv) p.seeds);rw[<- hD] at q h0;simp only[<- hD] at h1;have h2:(BB g p).length=N:=by rw[F4,u]
 obtain⟨C,h5,h7,h8,h9⟩:∃ C:Nat->List Int,C 0=[]/\(∀ k:Nat,k<N->C (k+1)=C k++[D1 p (Aq (Ao g p.lv) p.seeds k)])/\(∀ k,k<=N->(C k).length=k)/\C N=BB g p :=
  ⟨λ k=>(BB g p).take k,zz,λ k hk=>d9 zy,λ k hk=>by simp[h2,hk],by simp[<- h2]⟩
 refine rs [2,3] [] [16,24] ?_;refine BM ⟨31,[(3,.pv (pC p)),(5,AA D)],[],104⟩ ?_ ?_
 .simp
  refine Ay (Ns g p.lv zy zy) ?_
  simp;refine Cu q rfl ?_;simp[AB];exact⟨rfl,AM [88] (by simp[AB,<- h0,CI])⟩
 refine rs [3,5,6] [] [] ?_;refine AC (rs [3,5,6,7] [] [] ?_);refine AI (Ag (ι:=Nat) (λ i=>⟨31,[(3,.pv (pC p)),(5,AA D),(6,.rs 16 0 i),(7,.I i)],[(16,some ⟨1,AH (C i),0⟩)],120⟩) (λ i=>i<=N) (λ i=>N - i) 0 zz (Le.lst [] [] [(16,1)] rfl zz zz zz zz zz zz zz (by simp[Up]) (by simp[h5])) ?_)
 intro i hi;have h3:=h8 i hi;have ha:∀ f:Int->List AV,List.take i (List.map f (C i))=List.map f (C i):=λ f=>Qc (by simp[h3])
 refine AC (rk (s:=?s5) [3,5,6,7,18] [16] rfl ?o5 ?q5)
 case o5=>simp[h0];rfl
 refine AD _ rfl (λ h6=>?_) λ h6=>?_
 .simp at h6
  have hw:=w6 (x:=(i:Int)+1);refine AE (AC (AI (Cn rfl ?_)));simp[h6,h0,h1];refine Ay (iM p (Aq (Ao g p.lv) p.seeds i)) ?_;simp[h3];refine⟨zy,zy,rfl,?_⟩
  refine AU rfl ?_;simp[hw];exact⟨i+1,zy,zy,AN [(216,16)] [] zz (by simp[AB,h7 i h6,ha])⟩
 simp at h6;obtain rfl:i=N:=zy
 refine Aa (Ab (rk (s:=?s7) [4] [16] rfl ?o7 ?q7))
 case o7=>simp;rfl
 exact BG (AG.out [16] [] rfl zz zz (by simp[u]) (by simp[AB,h9]))
end Go.Proofs.YtklclphfcibagaaGreat
namespace Go.Proofs.YtklclphfcibagaaGreat
open Go Go.RowKit Go.Shelf Go.Maps Go.Sort
theorem OJ {vs:Array Value} (h:vs.size=2):vs = #[vs.getD 0 undef,vs.getD 1 undef]:=by
 apply Array.ext
 .simpa using h
 .intro i h1 h2
  have:i=0∨i=1:=by simp at h2;omega
  rcases this with rfl | rfl<;>simp[Array.getD,h1]<;>intro h3<;>omega
theorem ZF (x:Int):(encZ x:Value) = .int .i64 x:=rfl
theorem bK (l:List Int) (hl:l.length<=1099511627776):AK 299 [.nilS,.fn (.func 272) [] [.pv [AA l]]] [] (.rs 0 0 l.length) [some ⟨1,AH l,0⟩]:=by
 refine⟨⟨_,_,Tryz.func299,rfl,zx⟩,zz,λ T M w vs h7 b4 b2 hs=>?_⟩
 obtain⟨a6,hr⟩:=hs;have h8:=hr 0 zz
 have h9:=hr 1 zz
 simp only[U5,List.getD_cons_succ] at h8 h9;rw[OJ a6];generalize vs.getD 0 undef=v0 at h8;generalize vs.getD 1 undef=v1 at h9
 cases h8
 cases h9 with
 | fn _ _ _ _ us ws hx hy h h' =>
 have a7:us = #[]:=by simpa using hx
 subst a7;have a8:=Jw (vs:=ws) hy;have hd:=h' 0 zz
 simp only[U5] at hd;rw[a8];generalize ws.getD 0 undef=u at hd
 cases hd with
 | pv _ _ Bs B0 cells ty fz c hb ht a9 ho hh =>
 have hB:=a9 0 zz
 have hv:=hh 0 zz
 simp only[U5,Uk] at hB hv;have ag:Bs<w.heap.size:=(Q0.1 hb).1;generalize c 0=sv at hB hv
 cases hv with
 | vs _ _ _ _ a cap cc hf b5 hw ai h1 am =>
 have hu:(l.map λ n=>[AV.I n]).length=l.length:=zz
 rw[hu] at hB
 have hm:∃ b off,(l≠[]->a=some ⟨b,off,none⟩/\b<w.heap.size) /\ ∀ j (h:j<l.length),w.cell? ⟨b,off+j,none⟩=some (.int .i64 l[j]):=by
  by_cases h0:l=[]
  .exact ⟨0,0,λ h=>absurd h0 h,λ j hj=>by subst h0;simp at hj⟩
  .obtain ⟨b,off,cs,ty',fz',ha,a0,_,a1⟩:=ai (by simpa using h0)
   refine⟨b,off,λ _=>⟨ha,(Q0.1 a0).1⟩,λ j hj=>?_⟩;have h2:=a1 j 0 (by simpa using hj) zx
   have h3:=am j 0 (by simpa using hj) zx
   have e:((l.map λ n=>[AV.I n]).getD j []).getD 0 .dead = .I l[j]:=by simp[List.getD,hj]
   rw[e] at h3;have h4:=Cw h3 rfl;rw[h4] at h2;simp only[World.cell?,a0]
   simpa using h2
 obtain⟨b,off,a2,an⟩:=hm;rw[<- callsIn_wide (n:=2)];refine(YO Fence.wide 2 trivial trivial rfl zy Bs B0 b off cap a l (λ h=>(a2 h).1) hl w ?_ ag (λ h=>(a2 h).2) an).mono ?_
 .simp only[World.cell?,hb]
  exact hB
 rintro e w' ⟨v,rfl,⟨_,a3⟩,h5⟩
 have aq:A4 T w T w':=⟨λ _=>Qg _,λ b' cs' ty' fz' h=>⟨cs',fz',by rw[h5.block b' (Q0.1 h).1];exact h,rfl,λ _ _=>rfl⟩⟩
 have au:∀ b',w.heap.size<=b'->T b'=0:=λ b' q=>by
  rcases Q8 (T b') with e | e
  .exact e
  .obtain ⟨cells,ty,fz,h1,_⟩:=h7 b' e
   have:=(Q0.1 h1).1;omega
 have hq:HI T w':=λ b' q=>by
  obtain⟨cells,ty,fz,h1,h2⟩:=h7 b' q;exact⟨cells,ty,fz,by rw[h5.block b' (Q0.1 h1).1];exact h1,h2⟩
 have fin:∀ g:GE,(∀ b,g.blk=some b->w.heap.size<=b)->Ie T w' (λ k=>if k=0 then some g else none) ⟨1,AH l,0⟩ g->Ar T w' (λ k=>if k=0 then some g else none) (.rs 0 0 l.length) v ->
   ∃ v' T' M',Ending.returned v = .returned v'/\Ar T' w' M' (.rs 0 0 l.length) v'/\EB T' w' M' (Ga [some ⟨1,AH l,0⟩])/\Fz 0 T M w T' M' w':=by
  intro g hg ent hv;refine⟨v,T,_,rfl,hv,?_,⟨hq,λ _ _ _=>rfl,λ k hk=>absurd hk (U6 k),h5.os,h5.tape,h5.output,h5.size,λ b' q _=>h5.block b' q,aq,λ k g1 b1 _ h1 h2=>?_⟩⟩
  .rw [show ([some ⟨1,AH l,0⟩]:List (Option AX))=List.map some [⟨1,AH l,0⟩] from rfl,MT]
   have z:∀ id e,DR [(⟨1,AH l,0⟩:AX)] id=some e->id=0/\e=⟨1,AH l,0⟩:=by
    intro id e he
    cases id with
    | zero=>simp[DR] at he;exact⟨rfl,he.symm⟩
    | succ k=>simp[DR] at he
   refine⟨λ id e he=>?_,λ id id' e e' _ _ _ h1 h2 _ _ _ _=>by rw[(z _ _ h1).1,(z _ _ h2).1]⟩
   obtain⟨rfl,rfl⟩:=z _ _ he;exact⟨g,rfl,ent⟩
  .by_cases hk:k=0
   .subst hk
    simp at h1;subst h1;exact .inr (hg b1 h2)
   .simp [hk] at h1
 have h6:∀ row∈AH l,row.length=1:=by intro row hr;simp at hr;obtain⟨x,_,rfl⟩:=hr;rfl
 rcases a3 with ⟨rfl,h0⟩ | ⟨g,cp,cur,rfl,hg,a4,a5,b6,b3,av⟩
 .have b0:l=[]:=UY.1 h0
  subst b0;exact fin ⟨none,0,1⟩ zz ⟨rfl,Qh _,λ _=>h6,(λ _=>rfl),(λ hz=>absurd hz (UX 0)),λ _ b' q=>by cases q⟩ (.rs _ _ _ _ _ _ _ rfl (UX 0) (Qg _) (λ _=>⟨rfl,rfl⟩) λ b' q=>by cases q)
 .refine fin ⟨some g,0,1⟩ (λ b' q=>by cases q;exact hg) ⟨rfl,Qh _,λ _=>h6,(λ hn=>by cases hn),(λ hz=>absurd hz (UX 0)),λ _ b' q=>?_⟩ (.rs _ _ _ _ cp _ _ rfl (UX 0) a5 (λ hn=>by cases hn) λ b' q=>?_)
  .obtain rfl:=Qj q
   refine⟨cur,3,a4,by rw[au g hg];exact Qh _,zu,λ i j hi hj=>?_⟩
   have hi':i<l.length:=by simpa using hi
   obtain rfl:j=0:=by simpa using hj
   refine⟨.int .i64 l[i],?_,rfl,?_⟩
   .have:(cur.toList.take (l.length*1))[i]? = (l.map encZ)[i]?:=by rw[av]
    rw[Q5,if_pos zy] at this
    simpa [hi',ZF] using this
   .have e:((AH l).getD i []).getD 0 .dead = .I l[i]:=by simp[List.getD,hi']
    rw[e];exact .sc _ _ rfl
  .obtain rfl:=Qj q
   exact⟨.inr zz,cur,3,(0,0),a4,zu⟩
section
variable {P:Program} {np id:Nat} {h:Nat->Option AX} {K:AV->List Nat->List (Nat × Option AX)->Prop} {f:FuncId} {first aB args aC:List AV} {res:AV}
theorem YW (sn:List Nat) (q:∀ i∈sn,np<=i) (hc:Cq P f aC [] res []) (hw:(first++args++aB).map (conv [] sn h 4)=aC) (hk:K (conv (((List.range 8).map (id + ·)).zipIdx.map λ (a,b)=>(b,a)) [] (λ _=>none) 4 res) sn (sn.filterMap λ i=>(h i).map λ e=>(i,some { e with ro:=e.rows.length }))):aK P np id .call (.fn (.func f) first aB::args) h K :=
 ⟨[],sn,true,aC,[],res,[],zz,zz,λ _=>q,by rw[UK,hw];exact FW _,rfl,hc,zz,.inl rfl,by simpa using hk⟩
end
abbrev Ho (l:List Int):AV:=.fn (.func 272) [] [.pv [AA l]]
theorem gT (l:List Int):AK 209 [AA l] [] (Ho l) []:=by
 refine vV.s.ai ?_;refine rk (s:=?s1) [1] [16] rfl ?o1 ?q1
 case o1=>simp;rfl
 refine rk (s:=?s2) [2] [16] rfl ?o2 ?q2
 case o2=>simp;rfl
 exact CD [] [16]
theorem dQ (l:List Int) (hl:l.length<=1099511627776):AK 271 [Ho l] [] (.rs 0 0 l.length) [some ⟨1,AH l,0⟩]:=by
 refine uY.s.ai ?_;refine rk (s:=?s1) [0] [] rfl ?o1 ?q1
 case o1=>simp;rfl
 refine rk (s:=?s2) [2] [32] rfl ?o2 ?q2
 case o2 =>
  simp;refine C4 (bK l hl) ?_;simp[AB];rfl
 exact CD [32] []
theorem cT (l:List Int) (hl:l.length<=1099511627776):AK 208 [Ho l] [] (.rs 0 0 l.length) [some ⟨1,AH (Gk l),0⟩]:=by
 refine rK.s.ai ?_;refine rk (s:=?s1) [0] [] rfl ?o1 ?q1
 case o1=>simp;rfl
 refine rk (s:=?s2) [3] [32] rfl ?o2 ?q2
 case o2 =>
  simp;refine C4 (dQ l hl) ?_;simp[AB];rfl
 refine rk (s:=?s3) [3] [32] rfl ?o3 ?q3
 case o3 =>
  simp;refine BX (i:=32) rfl (e':=⟨1,D5 l,0⟩) (by simp[AB,D5]) (NM l zy) zz zz ?_
  simp[AB,D5];rfl
 refine rk (s:=?s4) [2] [32] rfl ?o4 ?q4
 case o4=>simp;rfl
 exact CD [32] []
def cnt (f:Int->Int):List AV:=(List.range 64).map λ (k:Nat)=>AV.I (f (k:Int))
@[simp] theorem pI {ρ:List (Nat × Nat)} {sn:List Nat} {h:Nat->Option AX} {f:Int->Int}:(cnt f).map (conv ρ sn h 4)=cnt f:=by
 unfold cnt;rw[Un];rfl
@[simp] theorem pH {nl:List (Nat × Nat)} {f:Int->Int}:Av nl ⟨64,[cnt f],0⟩ ⟨64,[cnt f],0⟩:=Av.rfl' (Qh _)
section
variable {P:Program} {np id:Nat} {h:Nat->Option AX} {K:AV->List Nat->List (Nat × Option AX)->Prop} {s s' l k:Nat} {f:Bool} {rows:List (List AV)}
@[simp] theorem mB:aK P np id (.slc s true true false) [.vs s' f rows,.sc (.int .i64 (l:Int)),.sc (.int .i64 (k:Int))] h K=(l<=k/\k<=rows.length/\s'=s/\K (.vs s false ((rows.drop l).take (k - l))) [] []):=by
 rw[GS];refine propext ⟨?_,?_⟩
 .rintro ⟨l',r,m,n,h1,h2,h4,h5,h6,h7,h3,q,h8,h9⟩
  simp at h4 h1;subst h1;obtain⟨rfl,rfl⟩:l=l'/\k=r:=zy
  exact⟨h2,h3,h8,by simpa using h9⟩
 .rintro ⟨h1,h2,h3,h4⟩
  exact⟨l,k,0,rows.length,rfl,h1,zz,(λ h=>by cases h),(λ h=>by cases h),(λ h=>by cases h),h2,(λ h=>by cases h),h3,by simpa using h4⟩
end
theorem SS {g:Gr} {p:BV} {n:Int} (hp:CG n p):∀ c∈BB g p,0<=c/\c<=1000:=by
 intro c hc;obtain⟨d,_,rfl⟩:=Qm.1 hc;exact PJ hp d
theorem Eh (l:List Int) (n:Int) (hl:l.length<=140737488355328):AK 16 [AA l,.I n] [] (.B (decide (n∈l))) []:=by
 refine wA.s.ac ?_;show AQ _ 0 _ _ ⟨18,[(0,AA l),(1,.I n)],[],16⟩;refine rs [0,1] [] [] ?_;refine AC (rs [0,1,5] [] [] ?_);refine AI (Ag (ι:=Nat) (λ i=>⟨18,[(0,AA l),(1,.I n),(5,.I i)],[],32⟩) (λ i=>i<=l.length/\n∉l.take i) (λ i=>l.length - i) 0 zz (BT [] []) ?_)
 rintro i ⟨hi,hp⟩
 refine AC (rs [0,1,5,9] [] [] ?_);refine AD _ rfl (λ h4=>?_) λ h4=>?_
 .simp at h4
  have hw:=w6 (x:=(i:Int)+1);refine AE (AC (AI (rx (s:=?s5) [0,1,5,17] [] [] rfl ?o5 ?q5)))
  case o5=>simp[h4];rfl
  refine AD _ rfl (λ h7=>?_) λ h7=>?_
  .simp at h7
   refine rs [4] [] [] ?_;refine AO ?_;have hm:n∈l:=h7 ▸ Qi h4;exact⟨.inr rfl,AG.one (by simp[hm])⟩
  simp at h7;refine AE (AU rfl ?_);simp[hw];refine⟨i+1,⟨h4,?_⟩,zy,BT [] []⟩
  rw[Ql h4,Qn,Qw];exact λ h=>h.elim hp λ e=>h7 e.symm
 simp at h4;have hn:n∉l:=by rw[Qc zy] at hp;exact hp
 refine Aa (Ab (rs [4] [] [] ?_));exact BG (AG.one (by simp[hn]))
def KX (a:List Int) (k:Nat):List Int:=((List.range k).map Int.ofNat).filter λ x=>decide (x∈a)
theorem Xk (a:List Int) (k:Nat):KX a (k+1)=KX a k++if (k:Int)∈a then [(k:Int)] else []:=by
 unfold KX;rw[List.range_succ,List.map_append,Q3]
 congr 1
 by_cases h:(k:Int)∈a
 .rw [if_pos h]
  simp[h]
 .rw [if_neg h]
  simp[h]
theorem kN (a:List Int) (k:Nat):(KX a k).length<=k:=by
 refine QI (QO ..) zz
theorem Ly (a b:List Int) (ha:a.length<=140737488355328) (hb:b.length<=140737488355328):AK 192 [AA a,AA b] [] (.rs 0 0 (Az (a++b)).length) [some ⟨1,AH (Az (a++b)),0⟩]:=by
 refine tR.s.ac ?_;show AQ _ 0 _ _ ⟨24,[(0,AA a),(1,AA b)],[],16⟩;refine rs [0,1] [] [] ?_;refine rs [0,1,5] [] [] ?_;refine AC (rs [0,1,5,6] [] [] ?_);refine AI ?_
 obtain⟨J,h0,u,h2,h1⟩:∃ J:Nat->List Int,J 0=[]/\(∀ k:Nat,J (k+1)=J k++if (k:Int)∈a++b then [(k:Int)] else [])/\(∀ k,(J k).length<=k)/\J 64=Az (a++b) :=
  ⟨KX (a++b),rfl,Xk _,kN _,rfl⟩
 refine Ag (ι:=Nat) (λ i=>⟨24,[(0,AA a),(1,AA b),(5,.rs 16 0 (J i).length),(6,.I i)],[(16,some ⟨1,AH (J i),0⟩)],40⟩) (λ i=>i<=64) (λ i=>64 - i) 0 zy (Le.lst [] [] [(16,1)] rfl zz zz zz zz zz zz zz (by simp[Up,h0]) (by simp[h0])) ?_
 intro i hi;have h4:=h2 i;have h3:∀ f:Int->List AV,List.take (J i).length (List.map f (J i))=List.map f (J i):=λ f=>Qc zz
 refine AC (rk (s:=?s4) [0,1,5,6,8] [16] rfl ?o4 ?q4)
 case o4=>simp;rfl
 refine AD _ rfl (λ h5=>?_) λ h5=>?_
 .simp at h5
  have hw:=w6 (x:=(i:Int)+1);refine AE (BO ⟨24,[(0,AA a),(1,AA b),(5,.rs 16 0 (J (i+1)).length),(6,.I i)],[(16,some ⟨1,AH (J (i+1)),0⟩)],200⟩ ?_ ?_)
  .refine AI (arc ⟨24,[(0,AA a),(1,AA b),(5,.rs 16 0 (J i).length),(6,.I i),(18,.B (decide ((i:Int)∈a++b)))],[(16,some ⟨1,AH (J i),0⟩)],120⟩ ?_ ?_)
   .simp
    refine Ay (Eh a i ha) ?_;simp;refine BK (λ q=>?_) (λ q=>?_)<;>(try rw[q])<;>(try simp at q)<;>simp[q]
    .exact Le.keep rfl (Qg _) (by simp[q]) zz
    .refine Ay (Eh b i hb) ?_
     simp;exact Le.keep rfl (Qg _) (by simp[q]) zz
   refine AD _ rfl (λ h6=>?_) λ h6=>?_
   .rw [Qb] at h6
    refine BA (s:=?s7) rfl ?o7 ?q7
    case o7=>simp[h3];refine⟨zy,zy,?_⟩;rfl
    exact AN [(144,16)] [] (by simp[u,h6]) (by simp[u,h6,AB])
   .rw [Qd] at h6
    exact AE (AN [(16,16)] [] (by simp[u,h6]) (by simp[u,h6,AB]))
  refine BA (s:=?s8) rfl ?o8 ?q8
  case o8=>simp[hw];rfl
  exact⟨i+1,zy,zy,B4 [(16,16)] []⟩
 simp at h5;obtain rfl:i=64:=zy
 refine Aa (Ab (rk (s:=?s9) [4] [16] rfl ?o9 ?q9))
 case o9=>simp;rfl
 exact BG (AG.out [16] [] rfl zz zz (by simp[h1]) (by simp[AB,h1]))
def Dc (a b:List Int) (k:Nat):List Int:=((List.range k).map Int.ofNat).filter λ x=>decide (x∈a/\x∉b)
def D2 (a b:List Int):List Int:=Dc a b 64
theorem OB (a b:List Int) (k:Nat):Dc a b (k+1)=Dc a b k++if ((k:Int)∈a/\(k:Int)∉b) then [(k:Int)] else []:=by
 unfold Dc;rw[List.range_succ,List.map_append,Q3]
 congr 1
 by_cases h:(k:Int)∈a/\(k:Int)∉b
 .rw [if_pos h]
  simp[h.1,h.2]
 .rw [if_neg h]
  simp;exact λ h1=>UC λ h2=>h ⟨h1,h2⟩
theorem Nc (a b:List Int) (k:Nat):(Dc a b k).length<=k:=by
 refine QI (QO ..) zz
theorem MR (a b:List Int) (ha:a.length<=140737488355328) (hb:b.length<=140737488355328):AK 56 [AA a,AA b] [] (.rs 0 0 (D2 a b).length) [some ⟨1,AH (D2 a b),0⟩]:=by
 refine u9.s.ac ?_;show AQ _ 0 _ _ ⟨25,[(0,AA a),(1,AA b)],[],16⟩;refine rs [0,1] [] [] ?_;refine rs [0,1,5] [] [] ?_;refine AC (rs [0,1,5,6] [] [] ?_);refine AI ?_
 obtain⟨J,h0,u,h2,h1⟩:∃ J:Nat->List Int,J 0=[]/\(∀ k:Nat,J (k+1)=J k++if ((k:Int)∈a/\(k:Int)∉b) then [(k:Int)] else [])/\(∀ k,(J k).length<=k)/\J 64=D2 a b :=
  ⟨Dc a b,rfl,OB a b,Nc a b,rfl⟩
 refine Ag (ι:=Nat) (λ i=>⟨25,[(0,AA a),(1,AA b),(5,.rs 16 0 (J i).length),(6,.I i)],[(16,some ⟨1,AH (J i),0⟩)],40⟩) (λ i=>i<=64) (λ i=>64 - i) 0 zy (Le.lst [] [] [(16,1)] rfl zz zz zz zz zz zz zz (by simp[Up,h0]) (by simp[h0])) ?_
 intro i hi;have h4:=h2 i;have h3:∀ f:Int->List AV,List.take (J i).length (List.map f (J i))=List.map f (J i):=λ f=>Qc zz
 refine AC (rk (s:=?s4) [0,1,5,6,8] [16] rfl ?o4 ?q4)
 case o4=>simp;rfl
 refine AD _ rfl (λ h5=>?_) λ h5=>?_
 .simp at h5
  have hw:=w6 (x:=(i:Int)+1);refine AE (BO ⟨25,[(0,AA a),(1,AA b),(5,.rs 16 0 (J (i+1)).length),(6,.I i)],[(16,some ⟨1,AH (J (i+1)),0⟩)],200⟩ ?_ ?_)
  .refine AI (arc ⟨25,[(0,AA a),(1,AA b),(5,.rs 16 0 (J i).length),(6,.I i),(19,.B (decide ((i:Int)∈a/\(i:Int)∉b)))],[(16,some ⟨1,AH (J i),0⟩)],140⟩ ?_ ?_)
   .simp
    refine Ay (Eh a i ha) ?_;simp;refine BK (λ q=>?_) (λ q=>?_)<;>(try rw[q])<;>(try simp at q)<;>simp[q]
    .refine Ay (Eh b i hb) ?_
     simp;exact Le.keep rfl zz (by simp[q]) zz
    .exact Le.keep rfl zz (by simp[q]) zz
   refine AD _ rfl (λ h6=>?_) λ h6=>?_
   .rw [Qb] at h6
    refine BA (s:=?s7) rfl ?o7 ?q7
    case o7=>simp[h3];refine⟨zy,zy,?_⟩;rfl
    exact AN [(164,16)] [] (by simp[u,h6]) (by simp[u,h6,AB])
   .rw [Qd] at h6
    exact AE (AN [(16,16)] [] (by simp[u,h6]) (by simp[u,h6,AB]))
  refine BA (s:=?s8) rfl ?o8 ?q8
  case o8=>simp[hw];rfl
  exact⟨i+1,zy,zy,B4 [(16,16)] []⟩
 simp at h5;obtain rfl:i=64:=zy
 refine Aa (Ab (rk (s:=?s9) [4] [16] rfl ?o9 ?q9))
 case o9=>simp;rfl
 exact BG (AG.out [16] [] rfl zz zz (by simp[h1]) (by simp[AB,h1]))
def HD (l:List Int):Prop:=l≠[]/\l.length<=64/\Bh l 0 63
open Classical in
theorem I2 (l:List Int) (hl:l.length<=140737488355328):AK 109 [AA l] [] (.B (decide (HD l))) []:=by
 refine rS.s.ac ?_;show AQ _ 0 _ _ ⟨46,[(0,AA l)],[],16⟩;refine rs [0] [] [] ?_;refine AC (arc ⟨46,[(0,AA l),(11,.B (decide (l.length=0∨64<l.length)))],[],100⟩ ?_ ?_)
 .simp
  refine BK (λ hb=>?_) (λ hb=>?_)<;>(try rw[hb])<;>(try simp at hb)<;>simp[hb]
  .subst hb
   exact AN [] [] (by simp<;>exact .refl _)
  .exact AN [] [] (by simp[hb]<;>exact An (by rw[Qk];simp[hb];omega))
 refine AD _ rfl (λ h3=>?_) λ h3=>?_
 .rw [Qb] at h3
  have hn:¬ HD l:=λ h=>by
   rcases h3 with h4 | h4
   .exact h.1 (UY.1 h4)
   .have:=h.2.1;omega
  refine rs [2] [] [] ?_;exact BG (AG.one (by simp[hn]))
 rw[Qd] at h3;refine AE (AC (BP ⟨46,[(0,AA l),(3,.I (0:Nat))],[],200⟩ [] [] ?_));refine AI (Ag (ι:=Nat) (λ k=>⟨46,[(0,AA l),(3,.I k)],[],200⟩) (λ k=>k<=l.length /\ ∀ i,i<k->Hb l 0 63 i) (λ k=>l.length - k) 0 zz (BT [] []) ?_)
 rintro k ⟨hk,hp⟩
 refine AC (BP ⟨46,[(0,AA l),(3,.I k),(15,.B (decide (k<l.length)))],[],300⟩ [] [] ?_);refine AD _ rfl (λ h4=>?_) λ h4=>?_
 .rw [Qb] at h4
  have q:=w6 (x:=(k:Int)+1);have u:0<k->IntKind.i64.wrap ((k:Int) - 1)=((k - 1:Nat):Int):=λ h=>by rw[w6];omega
  have h0:k - 1<l.length:=zy
  refine AE (AC (AI (BM ⟨46,[(0,AA l),(3,.I k),(45,.B (decide (¬ Hb l 0 63 k)))],[],600⟩ ?_ ?_)))
  .simp [h4,q,u,h0]
   repeat' first
    | (refine BK (λ hb=>?_) (λ hb=>?_)<;>(try rw[hb])<;>(try simp at hb)<;>simp[hb,h4,q,u,h0])
   all_goals exact⟨rfl,AN [] [] (by simp;exact An (by (try simp at *);grind [Hb]))⟩
  refine AD _ rfl (λ h5=>?_) λ h5=>?_
  .rw [Qb] at h5
   have hn:¬ HD l:=λ h=>h5 (h.2.2 k);refine rs [2] [] [] ?_;exact BG (AG.one (by simp[hn]))
  rw[Qd,Decidable.not_not] at h5;refine AE (AU rfl ?_);simp[q];refine⟨k+1,⟨h4,λ i hi=>?_⟩,zy,BT [] []⟩
  rcases QN.1 hi with h | rfl
  .exact hp i h
  .exact h5
 rw[Qd] at h4;have hy:HD l:=⟨λ e=>h3 (.inl (by rw[e];rfl)),zy,λ i hi=>hp i zy hi⟩
 refine Aa (Ab (rs [2] [] [] ?_));exact BG (AG.one (by simp[hy]))
variable {A:List Ed} {N:Nat} {P Q:List (List Int)} {c:List Int}
theorem WM (h:P.Perm Q) (k:Int):EJ P k=EJ Q k:=h.countP_eq _
theorem iQ (h:P.Perm Q) (k:Int):D6 P k=D6 Q k:=(h.flatMap_right _).count_eq k
theorem Vq (h:P.Sublist Q) (k:Int):EJ P k<=EJ Q k:=h.countP_le
theorem kB (h:P.Sublist Q) (k:Int):D6 P k<=D6 Q k:=by
 unfold D6
 induction h with
 | slnil=>exact Qg _
 | cons a _ ih=>rw[U2,Vd];omega
 | cons_cons a _ ih=>rw[U2,U2,Vd,Vd];omega
theorem HW.perm (h:HW c P) (hp:P.Perm Q):HW c Q:=λ k hk=>by
 rw[<- WM hp,<- iQ hp];exact h k hk
theorem HW.sub (h:HW c Q) (hs:P.Sublist Q):HW c P:=λ k hk=>by
 have h1:=h k hk;have h2:=Vq hs k;have h3:=kB hs k;omega
theorem d4 (h:P.Perm Q):(GC P).Perm (GC Q):=h.filterMap _
theorem Jq.perm {g:Gr} {lv:Int} {seeds order:List Int} {u q:List Int} (h:Jq g lv seeds order c P u) (hp:P.Perm Q) (he:u.Perm q):Jq g lv seeds order c Q q :=
 ⟨λ w hw=>h.1 w (hp.mem_iff.2 hw),h.2.1.perm hp,LF.2 (((d4 hp).symm.trans (LF.1 h.2.2)).trans he)⟩
theorem LV (hn:ED N A):BY N A (A.map λ _=>0):=by
 have hs:∀ (φ:Ed->Int->Int),(∀ e,φ e 0=0) -> ∀ A:List Ed,As φ A (A.map λ _=>0)=0:=by
  intro φ hφ A
  induction A with
  | nil=>simp[As]
  | cons e A ih=>simp only[List.map_cons,As];rw[hφ,ih];omega
 refine⟨?_,λ x _ _=>?_⟩
 .have h0:∀ B:List Ed,(∀ e∈B,0<=e.v)->CN B (B.map λ _=>0):=by
   intro B
   induction B with
   | nil=>intro _;exact True.intro
   | cons e B ih=>intro h;exact⟨⟨Vb _,h e (Qp ..)⟩,ih λ x hx=>h x (Qo _ hx)⟩
  exact h0 A λ e he=>(hn.arc e he).2.2.2.2.2.2.2
 .unfold B9 Fi
  rw[hs _ λ e=>by split<;>rfl,hs _ λ e=>by split<;>rfl]
theorem Nv (hn:ED N A):∃ f,BY N A f /\ ∀ f',BY N A f'->Al A f'<=Al A f:=by
 have hb:∀ f,BY N A f->Al A f<=Bj (λ x=>decide (x=0)) A:=λ f hf=>JV hn hf zz zz
 have key:∀ (n:Nat) (f:List Int),BY N A f->Bj (λ x=>decide (x=0)) A - Al A f<=n -> ∃ f,BY N A f /\ ∀ f',BY N A f'->Al A f'<=Al A f:=by
  intro n
  induction n with
  | zero =>
    intro f hf h;exact⟨f,hf,λ f' q=>by have:=hb f' q;omega⟩
  | succ n ih =>
    intro f hf h
    by_cases hm:∀ f',BY N A f'->Al A f'<=Al A f
    .exact ⟨f,hf,hm⟩
    .obtain ⟨f',q⟩:=Classical.not_forall.1 hm
     obtain⟨h1,h2⟩:=Classical.not_imp.1 q;exact ih f' h1 zy
 exact key _ _ (LV hn) (Int.self_le_toNat _)
def Cv (N:Nat) (A:List Ed):Int:=open Classical in if h:∃ f,BY N A f /\ ∀ f',BY N A f'->Al A f'<=Al A f then Al A h.choose else 0
theorem I9 {f:List Int} (hf:BY N A f) (hm:∀ f',BY N A f'->Al A f'<=Al A f):Cv N A=Al A f:=by
 have h:∃ f,BY N A f /\ ∀ f',BY N A f'->Al A f'<=Al A f:=⟨f,hf,hm⟩;unfold Cv;rw[dif_pos h];have h1:=h.choose_spec;have h2:=hm _ h1.1;have h3:=h1.2 _ hf;omega
theorem Wd (hn:ED N A) {f:List Int} (hf:BY N A f):Al A f<=Cv N A:=by
 obtain⟨m,h1,h2⟩:=Nv hn;rw[I9 h1 h2];exact h2 f hf
theorem RO (hn:ED N A):∃ f,BY N A f/\Al A f=Cv N A:=by
 obtain⟨m,h1,h2⟩:=Nv hn;exact⟨m,h1,(I9 h1 h2).symm⟩
theorem XQ {g:Gr} {p:BV} {aA:List Int} (hg:Ah g) (hp:CG g.size p) (hk:∀ x∈aA,0<=x/\x<g.size):ED (2+2*g.size).toNat (DW g p (BB g p) aA):=by
 have h0:=hg.1.1;have q:=hp.2.1.nodup;have u:=Mj hg p.lv;have h4:(BB g p).length=g.size.toNat:=by unfold BB;rw[Qs,Oz];rfl
 refine⟨zy,λ a ha=>?_⟩
 unfold DW at ha;rcases Qn.1 ha with ha | ha
 .rcases Qn.1 ha with ha | ha
  .rcases Qn.1 ha with ha | ha
   .obtain ⟨x,hx,rfl⟩:=Qm.1 ha
    have h1:=QA.1 hx;have h2:=q.2 x h1.1;have h3:0<(BB g p).getD x.toNat 0:=by simpa using h1.2
    simp only;omega
   .obtain ⟨i,hx,rfl⟩:=Qm.1 ha
    have h1:=QA.1 hx;have h2:=QS.1 h1.1;have h3:0<(BB g p).getD i 0:=by simpa using h1.2
    simp only;omega
  .obtain ⟨x,hx,rfl⟩:=Qm.1 ha
   have h2:=hk x (QA.1 hx).1;simp only;omega
 .obtain ⟨e,hx,rfl⟩:=Qm.1 ha
  have h2:=u.2 e (QA.1 hx).1;simp only;omega
variable {s:Bd} {st:List Int × List Int}
def CM (s:Bd):Int:=if s.2 then -((s.1:Int)+1) else (s.1:Int)+1
def F5 (v:Int):Bd:=if 0<v then ((v - 1).toNat,false) else ((-v - 1).toNat,true)
theorem MS (s:Bd):F5 (CM s)=s:=by
 obtain⟨i,b⟩:=s;unfold F5 CM
 cases b
 .simp only[Uh,Uu]
  rw[if_pos zy]
  congr 1
  omega
 .simp only[UQ]
  rw[if_neg zy]
  congr 1
  omega
theorem T9 (s:Bd):CM s≠0:=by unfold CM;split<;>omega
structure C6 (N:Nat) (A:List Ed) (f D b:List Int):Prop where
 tree:JE A f D λ x=>F5 (b.getD x.toNat 0)
 rng:∀ x∈D,0<=x/\x<N
 len:b.length=N
 zero:b.getD 0 0=0
 out:∀ x:Int,0<=x->x∉D->b.getD x.toNat 0=0
 inn:∀ x∈D,x≠0->b.getD x.toNat 0≠0
def Hs (A:List Ed) (f D:List Int) (m:Nat):Prop:=∀ s:Bd,s.1<A.length->CY A s∈D.take m->0<B5 A f s->A0 A s∈D
def Hr (A:List Ed) (f D:List Int) (k:Int) (i:Nat):Prop:=∀ s:Bd,s.1<i->CY A s=k->0<B5 A f s->A0 A s∈D
variable {N:Nat} {A:List Ed} {f D b:List Int}
theorem C6.start (hN:0<N):C6 N A f [0] (List.replicate N 0):=by
 have h0:∀ i,(List.replicate N (0:Int)).getD i 0=0:=λ i=>by
  rw[Qf,List.getElem?_replicate];split<;>rfl
 exact⟨⟨rfl,zz,λ j h hj=>by simp at h;omega⟩,λ x hx=>by simp at hx;omega,zz,h0 0,λ x _ _=>h0 _,λ x hx hn=>absurd (by simpa using hx) hn⟩
theorem C6.mem0 (h:C6 N A f D b):(0:Int)∈D:=List.mem_of_mem_head? (by rw[h.tree.zero];rfl)
theorem C6.push (h:C6 N A f D b) (hs:s.1<A.length) (hF:CY A s∈D) (hr:0<B5 A f s) (hT:A0 A s∉D) (h0:0<=A0 A s) (h1:A0 A s<N):C6 N A f (D++[A0 A s]) (b.set (A0 A s).toNat (CM s)):=by
 have hb:(A0 A s).toNat<b.length:=by rw[h.len];omega
 have u:∀ x:Int,0<=x->x≠A0 A s->(b.set (A0 A s).toNat (CM s)).getD x.toNat 0=b.getD x.toNat 0:=λ x hx q=>by
  rw[Qf,List.getElem?_set_ne zy,Qf]
 have heq:(b.set (A0 A s).toNat (CM s)).getD (A0 A s).toNat 0=CM s:=by
  rw[Qf,List.getElem?_set_self hb,QH]
 have h5:A0 A s≠0:=λ e=>hT (e ▸ h.mem0);refine⟨⟨?_,?_,λ j hj hj0=>?_⟩,λ x hx=>?_,by rw[Ux];exact h.len,?_,λ x hx q=>?_,λ x hx q=>?_⟩
 .rw [List.head?_append,h.tree.zero]
  rfl
 .rw [Uy]
  exact⟨h.tree.nodup,zz,λ a ha c hc=>by rw[Qw] at hc;subst hc;rintro rfl;exact hT ha⟩
 .rw [Qe,Q6] at hj
  by_cases h3:j<D.length
  .have hm:=Qi h3
   have hx:D[j]≠A0 A s:=λ e=>hT (e ▸ hm);simp only[Q1 h3];rw[u _ (h.rng _ hm).1 hx];obtain⟨q1,q2,q3,q4⟩:=h.tree.step j h3 hj0;refine⟨q1,q2,?_,q4⟩;rw[Uf zy]
   exact q3
  .obtain rfl:j=D.length:=zy
   have e:(D++[A0 A s])[D.length]' zz=A0 A s:=zz
   simp only[e];rw[heq,MS];refine⟨hs,rfl,?_,hr⟩;rw[Uf (Qg _),QP];exact hF
 .rcases Qn.1 hx with h2 | h2
  .exact h.rng x h2
  .rw [Qw] at h2
   subst h2;exact⟨h0,h1⟩
 .have:=u 0 (Vb _) (Ne.symm h5)
  simp only[Int.toNat_zero] at this;rw[this];exact h.zero
 .rw [Qn,Qw,not_or] at q
  rw[u x hx q.2];exact h.out x hx q.1
 .by_cases h4:x=A0 A s
  .subst h4
   rw[heq];exact T9 s
  .rcases Qn.1 hx with h2 | h2
   .rw [u x (h.rng x h2).1 h4]
    exact h.inn x h2 q
   .exact absurd (Qw.1 h2) h4
theorem C6.few (h:C6 N A f D b):D.length<=N:=by
 have:=Fs (b:=(List.range N).map λ i:Nat=>(i:Int)) h.tree.nodup λ x hx=>by
  have:=h.rng x hx;exact Qm.2 ⟨x.toNat,QS.2 zy,zy⟩
 simpa using this
def C2 (A:List Ed) (f:List Int) (k:Int) (s:Bd) (st:List Int × List Int):List Int × List Int :=
 if CY A s=k/\0<B5 A f s/\A0 A s∉st.1 then (st.1++[A0 A s],st.2.set (A0 A s).toNat (CM s)) else st
theorem Lg {k:Int}:∃ l,(C2 A f k s st).1=st.1++l:=by
 unfold C2;split
 .exact ⟨_,rfl⟩
 .exact ⟨[],zz⟩
theorem VU {k:Int} (h:C6 N A f st.1 st.2) (hk:k∈st.1) (hs:s.1<A.length) (h0:0<=A0 A s) (h1:A0 A s<N):C6 N A f (C2 A f k s st).1 (C2 A f k s st).2:=by
 unfold C2;split
 .rename_i hc
  exact h.push hs (hc.1 ▸ hk) hc.2.1 hc.2.2 h0 h1
 .exact h
theorem T5 {k:Int} (hF:CY A s=k) (hr:0<B5 A f s):A0 A s∈(C2 A f k s st).1:=by
 unfold C2
 by_cases h:A0 A s∈st.1
 .rw [if_neg λ hc=>hc.2.2 h]
  exact h
 .rw [if_pos ⟨hF,hr,h⟩]
  simp
theorem Hr.try2 {k:Int} {i:Nat} (h:Hr A f st.1 k i):Hr A f (C2 A f k (i,true) (C2 A f k (i,false) st)).1 k (i+1):=by
 obtain⟨l1,e1⟩:=Lg (A:=A) (f:=f) (k:=k) (s:=(i,false)) (st:=st);obtain⟨l2,e2⟩:=Lg (A:=A) (f:=f) (k:=k) (s:=(i,true)) (st:=C2 A f k (i,false) st);intro s hs hF hr;obtain⟨j,c⟩:=s;rcases QN.1 hs with hj | hj
 .rw [e2,e1]
  exact Q2 _ (Q2 _ (h (j,c) hj hF hr))
 .have hj:j=i:=hj
  subst hj
  cases c
  .rw [e2]
   exact Q2 _ (T5 hF hr)
  .exact T5 hF hr
theorem Hs.next {m:Nat} (hm:m<D.length) {D':List Int} (h:Hs A f D m) (hi:Hr A f D' D[m] A.length) {l:List Int} (hD:D'=D++l):Hs A f D' (m+1):=by
 subst hD;intro s hs hF hr;rw[Uf zy,Ql hm] at hF
 rcases Qn.1 hF with h1 | h1
 .exact Q2 _ (h s hs h1 hr)
 .exact hi s hs (Qw.1 h1) hr
theorem Hs.all (h:Hs A f D D.length):HP A f D:=λ s hs hF hr=>h s hs (by rw[QP];exact hF) hr
def Dw (N:Nat) (D:List Int):List Bool:=(List.range N).map λ k:Nat=>decide ((k:Int)∈D)
theorem Oa (N:Nat) (D:List Int):(Dw N D).length=N:=by simp[Dw]
theorem K4 {x:Int} (h0:0<=x) (h1:x<N):(Dw N D)[x.toNat]? = some (decide (x∈D)):=by
 unfold Dw;rw[QG,List.getElem?_range zy]
 simp only[Um,Int.toNat_of_nonneg h0]
theorem N5 {x:Int} (h0:0<=x) (h1:x<N):(Dw N D).set x.toNat true=Dw N (D++[x]):=by
 apply List.ext_getElem?;intro j
 by_cases hj:j<N
 .have e1:(Dw N (D++[x]))[j]? = some (decide ((j:Int)∈D++[x])):=by
   have:=K4 (N:=N) (D:=D++[x]) (x:=(j:Int)) zy zy
   simpa using this
  have e2:(Dw N D)[j]? = some (decide ((j:Int)∈D)):=by
   have:=K4 (N:=N) (D:=D) (x:=(j:Int)) zy zy
   simpa using this
  rw[UA,e1,e2,Oa]
  by_cases hx:x.toNat=j
  .rw [if_pos hx,if_pos zy]
   have:(j:Int)=x:=zy
   simp[this]
  .rw [if_neg hx]
   have:(j:Int)≠x:=zy
   simp[this]
 .rw [QT (by rw[Ux,Oa];omega),QT (by rw[Oa];omega)]
theorem ZP (hN:0<N):(List.replicate N false).set 0 true=Dw N [0]:=by
 have h:=N5 (N:=N) (D:=[]) (x:=0) (Vb _) zy
 have e:Dw N []=List.replicate N false:=by
  unfold Dw;apply List.ext_getElem zz
  simp
 rw[e] at h;exact h
variable {A:List Ed} {l:List Bd} {v:Int}
theorem SG {α:Type} {l:List α} (h:l.Nodup):l.reverse.Nodup:=List.pairwise_reverse.2 (h.imp λ q e=>q e.symm)
theorem WB (hv:v≠0):CM (F5 v)=v:=by
 unfold F5 CM
 by_cases h:0<v
 .rw [if_pos h];simp;omega
 .rw [if_neg h];simp;omega
def Ck (A:List Ed) (u:Int) (l:List Bd):Nat->Int
 | 0=>u
 | j+1=>A0 A (l.getD j (0,false))
theorem SD {u:Int} {s:Bd} (j:Nat):Ck A u (s::l) (j+1)=Ck A (A0 A s) l j:=by
 cases j<;>rfl
theorem Rs {A:List Ed}:∀ {l:List Bd} {u w:Int},DZ A u l w -> ∀ j (hj:j<l.length),CY A l[j]=Ck A u l j
 | s::l,u,w,h,0,_=>h.2.1
 | s::l,u,w,h,j+1,hj=>by
   rw[SD];exact Rs h.2.2 j (by simpa using hj)
theorem OI {A:List Ed}:∀ {l:List Bd} {u w:Int},DZ A u l w->Ck A u l l.length=w
 | [],u,w,h=>h
 | s::l,u,w,h=>by
   rw[QZ,SD];exact OI h.2.2
variable {N:Nat} {A:List Ed} {f D b:List Int}
structure JI (N:Nat) (A:List Ed) (f b:List Int) (l:List Bd):Prop where
 way:DZ A 0 l 1
 nodup:(l.map (·.1)).Nodup
 at_:∀ j (h:j<l.length),l[j].1<A.length/\0<B5 A f l[j]/\A0 A l[j]≠0/\0<=A0 A l[j]/\A0 A l[j]<N/\b.getD (A0 A l[j]).toNat 0=CM l[j]
theorem C6.chain (h:C6 N A f D b) (h1:(1:Int)∈D):∃ l,JI N A f b l:=by
 obtain⟨j,hj,hx⟩:=Qr.1 h1;obtain⟨l,l1,l2,l3⟩:=h.tree.way j j hj (Qg _);rw[hx] at l1;refine⟨l,l1,l2,λ i hi=>?_⟩;obtain⟨q1,q2,q3,q4,_,q5⟩:=l3 _ (Qi hi);have hm:=QQ q5;have hr:=h.rng _ hm;have q:=h.inn _ hm q4;refine⟨q1,q2,q4,hr.1,hr.2,?_⟩;rw[<- WB q,q3]
theorem JI.from_ (h:JI N A f b l) (j:Nat) (hj:j<l.length):CY A l[j]=Ck A 0 l j:=Rs h.way j hj
def EF (v:Int) (f:List Int) (l:List Bd) (j:Nat):List Int:=FQ v f (l.drop j).reverse
theorem Tz (v:Int) (f:List Int) (l:List Bd):EF v f l l.length=f:=by simp[EF,FQ]
theorem RT (v:Int) (f:List Int) (l:List Bd) (j:Nat):(EF v f l j).length=f.length:=KA
theorem TA {f:List Int} (j:Nat) (hj:j<l.length):EF v f l j=FE v (EF v f l (j+1)) l[j]:=by
 unfold EF FQ;rw[QX hj,List.reverse_cons,U1];rfl
theorem ST (hn:(l.map (·.1)).Nodup) (hr:∀ s∈l,s.1<f.length) (j:Nat) (hj:j<l.length):(EF v f l (j+1)).getD l[j].1 0=f.getD l[j].1 0:=by
 refine(Ju (δ:=v) (f:=f) (i:=l[j].1) (l:=(l.drop (j+1)).reverse) ?_ ?_).1 ?_
 .rw [List.map_reverse]
  refine SG ?_;exact hn.sublist ((List.drop_sublist _ _).map _)
 .intro s hs
  exact hr s (Uo (List.mem_reverse.1 hs))
 .rw [List.map_reverse,List.mem_reverse]
  intro hm;obtain⟨s,hs,he⟩:=Qm.1 hm;obtain⟨i,hi,rfl⟩:=Qr.1 hs;rw[QV] at hi;rw[Ve] at he;have h1:=(QD.1 hn) j (j+1+i) (by rw[Qs];exact hj) (by rw[Qs];omega) zy
  rw[List.getElem_map,List.getElem_map] at h1;exact h1 he.symm
theorem dU (hn:(l.map (·.1)).Nodup) (hr:∀ s∈l,s.1<f.length):EF v f l 0=FQ v f l:=by
 unfold EF;rw[List.drop_zero];have q:(l.reverse.map (·.1)).Nodup:=by rw[List.map_reverse];exact SG hn
 have u:∀ s∈l.reverse,s.1<f.length:=λ s hs=>hr s (List.mem_reverse.1 hs);apply List.ext_getElem (by rw[KA,KA])
 intro i h1 h2;have e:∀ (L:List Int) (h:i<L.length),L[i]=L.getD i 0:=λ L h=>by rw[Qf,Qa h,QH]
 rw[e _ h1,e _ h2];have g1:=Ju (δ:=v) (f:=f) (i:=i) q u;have g2:=Ju (δ:=v) (f:=f) (i:=i) hn hr
 by_cases hm:i∈l.map (·.1)
 .obtain ⟨s,hs,rfl⟩:=Qm.1 hm
  rw[g1.2 s.2 (List.mem_reverse.2 hs),g2.2 s.2 hs]
 .rw [g1.1 (by rw[List.map_reverse,List.mem_reverse];exact hm),g2.1 hm]
theorem JI.push (hn:ED N A) (hf:BY N A f) (h:JI N A f b l) (h0:0<=v) (hv:∀ s∈l,v<=B5 A f s):BY N A (EF v f l 0)/\Al A (EF v f l 0)=Al A f+v:=by
 have hr:∀ s∈l,s.1<A.length:=λ s hs=>by
  obtain⟨i,hi,rfl⟩:=Qr.1 hs;exact(h.at_ i hi).1
 rw[dU h.nodup λ s hs=>by rw[hf.fit.len];exact hr s hs]
 exact YK hn hf h0 h.way h.nodup λ s hs=>⟨hr s hs,hv s hs⟩
theorem I0 {A:List Ed} {N:Nat} (h:C3 ⟨N,A⟩):ED N A:=by
 obtain⟨h1,_,_,h4⟩:=h;simp only at h1 h4;refine⟨zy,λ e he=>?_⟩
 obtain⟨q1,q2,q3,q4,q5,q6,q7,q8,_⟩:=h4 e he;exact⟨q1,zy,q3,zy,q5,q6,q7,q8⟩
abbrev nC (n:GY):List AV:=[.I n.nodes,Cr n.arcs]
abbrev eN (n:GY):AV:=.agg (nC n)
theorem WN (f:FuncId) (aB:List AV) (q:Ed->Bool) (l:List Ed) (hl:l.length<=1099511627776) (hs:Gg aB) (hc:∀ e∈l,AK f (eE e::aB) [] (.B (q e)) []):AK 300 [Cr l,.fn (.func f) [] aB] [] (.I (CR l q)) []:=by
 have h5:∀ ρ sn h,aB.map (conv ρ sn h 2)=aB:=λ _ _ _=>hs _ _ _ 1
 have u:∀ ρ sn h,aB.map (conv ρ sn h 3)=aB:=λ _ _ _=>hs _ _ _ 2
 have h1:∀ ρ sn h,aB.map (conv ρ sn h 4)=aB:=λ _ _ _=>hs _ _ _ 3
 refine vZ.s.ai ?_;refine AC (Ad ?_);refine AC (AC (Ad ?_));refine AI (Ag (ι:=Nat) (λ k=>⟨19,[(0,Cr l),(1,.fn (.func f) [] aB),(7,.I l.length),(8,.I k)],[],16⟩) (λ k=>k<=l.length /\ ∀ i,i<k -> ∀ h:i<l.length,q l[i]=false) (λ k=>l.length - k) (0) ?_ (AM [] (by simp[u])) ?_)
 .simp
 rintro k ⟨hk,hp⟩
 refine AC (Ad ?_);refine AC (AD _ rfl (λ h4=>?_) λ h4=>?_)
 .try simp at h4
  have h2:=w6 (x:=(k:Int)+1);have h3:=hc l[k] (Qi h4);refine AE (AC (AI (AC (BA (s:=?s5) rfl ?o5 ?q5))))
  case o5=>simp[h4];rfl
  refine AC (BA (s:=?s6) rfl ?o6 ?q6)
  case o6 =>
   simp[h4];refine AT h3 ?_ ?_
   .simp [h1]
   simp;rfl
  refine AD _ rfl (λ h7=>?_) λ h7=>?_
  .try simp at h7
   refine AC (Ad ?_);exact BG (AG.one (by simp[N8 h4 hp h7]))
  try simp at h7
  refine AE (BA (s:=?s9) rfl ?o9 ?q9)
  case o9=>simp[h2];rfl
  refine⟨k+1,⟨h4,λ i hi=>?_⟩,zy,AM [] (by simp[u])⟩
  rcases QN.1 hi with h | rfl
  .exact hp i h
  .exact λ _=>h7
 try simp at h4
 have h0:∀ i,i<l.length -> ∀ h:i<l.length,q l[i]=false:=λ i hi=>hp i zy
 refine Aa (Ab (AC (Ad ?_)));exact BG (AG.one (by simp[OS h0]))
theorem jY (f:FuncId) (aB:List AV) (q:Ed->Bool) (l:List Ed) (hl:l.length<=1099511627776) (hs:Gg aB) (hc:∀ e∈l,AK f (eE e::aB) [] (.B (q e)) []):AK 274 [Cr l,.fn (.func f) [] aB] [] (.B (l.any q)) []:=by
 have u:∀ ρ sn h,aB.map (conv ρ sn h 2)=aB:=λ _ _ _=>hs _ _ _ 1
 have h0:∀ ρ sn h,aB.map (conv ρ sn h 3)=aB:=λ _ _ _=>hs _ _ _ 2
 have h1:∀ ρ sn h,aB.map (conv ρ sn h 4)=aB:=λ _ _ _=>hs _ _ _ 3
 refine vE.s.ai ?_;refine AC (Ad ?_)
 have hi:decide (0<=CR l q)=l.any q:=by
  unfold CR
  by_cases h:l.findIdx q<l.length
  .rw [if_pos h]
   have:=List.findIdx_getElem (w:=h);have h2:l.any q=true:=UM.2 ⟨_,Qi h,this⟩;rw[h2];simp
  .rw [if_neg h]
   have:l.findIdx q=l.length:=by have:=List.findIdx_le_length (xs:=l) (p:=q);omega
   rw[List.findIdx_eq_length] at this
   have h2:l.any q=false:=by
    rw[List.any_eq_false];intro x hx;simp[this x hx]
   rw[h2];simp
 refine arc ⟨9,[(4,.B (l.any q))],[],16⟩ ?_ ?_
 .simp
  refine AT (WN f aB q l hl hs hc) ?_ ?_
  .simp [u,h0,h1]
  simp;exact AM [] (by simp;exact An hi)
 exact Bv
theorem XB (n:GY) (a:Ed) (h2:2<=n.nodes) (h3:n.nodes<=130):AK 273 [eE a,.pv (nC n)] [] (.B (!decide (G0 n.nodes a))) []:=by
 refine sK.s.ai ?_;have hw:=w6 (x:=n.nodes - 1);refine rs [1,2] [] [16] ?_;refine arc ⟨43,[(3,.B (!decide (G0 n.nodes a)))],[],400⟩ ?_ ?_
 .simp [hw]
  repeat' first
   | (refine CC 84 rfl ?_;refine AT (Ge ..) rfl ?_;simp[hw])
   | (refine BK (λ hb=>?_) (λ hb=>?_)<;>(try rw[hb])<;>(try simp at hb)<;>simp[hb,hw])
  all_goals exact AM [] (by simp<;>exact An (by (try simp at *);grind [G0]))
 exact Bv
theorem R5 (n:GY) (hl:n.arcs.length<=1099511627776):AK 210 [eN n] [] (.I (if C3 n then 0 else 16)) []:=by
 refine tN.s.ai ?_;refine rs [1] [] [16] ?_;refine rs [1,3] [] [] ?_;refine AC (arc ⟨21,[(20,.B (!decide (C3 n)))],[],300⟩ ?_ ?_)
 .by_cases h2:2<=n.nodes/\n.nodes<=130
  .have q:=jY 273 [.pv (nC n)] (λ a=>!decide (G0 n.nodes a)) n.arcs hl (λ ρ sn h k=>zz) (λ e _=>XB n e h2.1 h2.2)
   simp;refine AT (Ge ..) rfl ?_;simp[h2]
   by_cases h3:n.arcs.length<=1200
   .simp [show ¬ (1200<n.arcs.length) by omega,show ¬ (1200<(n.arcs.length:Int)) by omega]
    refine Ay q ?_;simp;refine AM [] (by simp<;>exact An (by rw[Qk];simp[C3,h2,h3]))
   .simp [show (1200<(n.arcs.length:Int)) by omega]
    refine AM [] (by simp[C3,h3])
  .simp
   refine AT (Ge ..) rfl ?_;have u:(decide (2<=n.nodes) && decide (n.nodes<=130))=false:=by simpa using λ h=>zy
   simp[u];have hn:¬ C3 n:=λ h=>h2 ⟨h.1,h.2.1⟩;refine AM [] (by simp[hn])
 refine AD _ rfl (λ h7=>?_) λ h7=>?_
 .simp at h7
  refine rs [2] [] [] ?_;exact BG (AG.one (by simp[h7]))
 simp at h7;refine AE (rs [2] [] [] ?_);exact BG (AG.one (by simp[h7]))
def L1 (n:GY):Prop:=(2<=n.nodes/\n.nodes<=130)/\n.arcs.length<=1200
def KD (n:GY) (i:Nat):Prop:=∀ h:i<n.arcs.length,G0 n.nodes n.arcs[i]
theorem Oj {n:GY}:C3 n↔L1 n /\ ∀ i,KD n i:=by
 unfold C3 L1 KD;constructor
 .rintro ⟨a,b,c,d⟩
  exact⟨⟨⟨a,b⟩,c⟩,λ i h=>d _ (Qi h)⟩
 .rintro ⟨⟨⟨a,b⟩,c⟩,d⟩
  exact⟨a,b,c,λ x hx=>by obtain⟨i,hi,rfl⟩:=UO hx;exact d i hi⟩
open Classical in
theorem SA (n:GY) (hl:n.arcs.length<=1099511627776):AK 232 [eN n] [] (.I (if C3 n then 0 else 16)) []:=by
 refine rE.s.ai ?_;refine rs [1] [] [16] ?_;refine AC (arc ⟨80,[(1,.pv (nC n)),(18,.B (!decide (L1 n)))],[],300⟩ ?_ ?_)
 .simp
  repeat' first
   | (refine BK (λ hb=>?_) (λ hb=>?_)<;>(try rw[hb])<;>(try simp at hb)<;>simp[hb])
  all_goals exact AM [] (by simp<;>exact An (by (try simp at *);grind [L1]))
 refine AD _ rfl (λ h3=>?_) λ h3=>?_
 .simp at h3
  refine rs [2] [] [] ?_;exact BG (AG.one (by simp[Oj,h3]))
 simp at h3;refine AE (AC (rs [1,3] [] [] ?_));refine AI (Ag (ι:=Nat) (λ i=>⟨80,[(1,.pv (nC n)),(3,.I i)],[],308⟩) (λ i=>i<=n.arcs.length /\ ∀ k,k<i->KD n k) (λ i=>n.arcs.length - i) 0 zz (BT [] []) ?_)
 rintro i ⟨hi,hp⟩
 refine AC (rs [1,3,23] [] [] ?_);refine AD _ rfl (λ h7=>?_) λ h7=>?_
 .simp at h7
  have hw:=w6 (x:=(i:Int)+1);refine AE (AC (AI ?_));apply ax [1,3,4] [] [388] 408
  .simp [h7]
   rfl
  refine arc ⟨80,[(1,.pv (nC n)),(3,.I i),(79,.B (!decide (KD n i)))],[],900⟩ ?_ ?_
  .simp
   have q:KD n i↔G0 n.nodes n.arcs[i]:=⟨λ h=>h h7,λ h _=>h⟩
   repeat' first
    | (refine BK (λ hb=>?_) (λ hb=>?_)<;>(try rw[hb])<;>(try simp at hb)<;>simp[hb])
   all_goals exact AM [] (by simp<;>exact An (by (try simp at *);simp only[q];grind [G0]))
  refine AD _ rfl (λ h9=>?_) λ h9=>?_
  .refine rs [2] [] [] ?_
   refine AO ?_;have hn:¬ C3 n:=λ h=>by simp at h9;exact h9 ((Oj.1 h).2 i)
   exact⟨.inr rfl,AG.one (by simp[hn])⟩
  simp at h9;refine AE (Ad ?_);refine⟨i+1,⟨h7,λ k hk=>?_⟩,zy,AN [] [] (by simp[hw])⟩
  rcases QN.1 hk with h | rfl
  .exact hp k h
  .exact h9
 simp at h7;have hy:C3 n:=Oj.2 ⟨h3,λ k hk=>hp k zy hk⟩
 refine Aa (Ab (rs [2] [] [] ?_));exact BG (AG.one (by simp[hy]))
section
variable {P:Program} {np id:Nat} {h:Nat->Option AX} {K:AV->List Nat->List (Nat × Option AX)->Prop} {f:FuncId} {first aB args aC:List AV} {res:AV}
theorem Jm {i j:Nat} {e1 e2 e1' e2':AX} {hs':List (Option AX)} (hij:i≠j) (h1:h i=some e1) (h2:h j=some e2) (q:Ak [(i,0),(j,1)] [] h 4 e1=e1') (u:Ak [(i,0),(j,1)] [] h 4 e2=e2') (hc:Cq P f aC [e1',e2'] res hs') (h8:hs'.length<=10) (he:(first++args++aB).map (conv [(i,0),(j,1)] [] h 4)=aC) (hk:K (conv (Cc [i,j] id) [] (λ _=>none) 4 res) [i,j] (hs'.zipIdx.map λ (e,k)=>((i::j::(List.range 8).map (id + ·)).getD k 0,e.map (Ak (Cc [i,j] id) [] (λ _=>none) 4)))):aK P np id .call (.fn (.func f) first aB::args) h K :=
 ⟨[i,j],[],true,aC,[e1',e2'],res,hs',by simp[hij],zz,zz,by rw[show [i,j].zipIdx=[(i,0),(j,1)] from rfl,he];exact FW _,by
  rw[show [i,j].zipIdx=[(i,0),(j,1)] from rfl]
  simp only[List.map_cons,UT,h1,h2,Um,q,u],hc,by simpa using h8,.inl rfl,by simpa [Cc] using hk⟩
end
theorem Jp (k:Int) (h:0<=k) (h2:k<=1000000):AK 205 [.I k] [] (.I (2+2*k)) []:=by
 refine vJ.s.ai ?_;have q:=w6 (x:=2*k);have u:=w6 (x:=2+2*k);refine rs [0] [] [] ?_;refine rx (s:=?s2) [2] [] [] rfl ?o2 ?q2
 case o2=>simp[q,u];rfl
 exact Bv
theorem Tw (k:Int) (h:0<=k) (h2:k<=1000000):AK 207 [.I k] [] (.I (3+2*k)) []:=by
 refine wD.s.ai ?_;have q:IntKind.i64.wrap (2+2*k+1)=3+2*k:=by rw[w6];omega
 refine rs [0] [] [] ?_;refine rx (s:=?s2) [2] [] [] rfl ?o2 ?q2
 case o2=>simp;refine AT (Jp k h h2) zz ?_;simp[q];rfl
 exact Bv
theorem Lu (k:Int) (h:0<=k) (h2:k<=1000000):AK 230 [.I k] [] (.I (2+2*k)) []:=by
 refine uH.s.ai ?_;have q:=w6 (x:=2*k);have u:=w6 (x:=2+2*k);refine rs [0] [] [] ?_;refine rx (s:=?s2) [2] [] [] rfl ?o2 ?q2
 case o2=>simp[q,u];rfl
 exact Bv
theorem Pr (k:Int) (h:0<=k) (h2:k<=1000000):AK 231 [.I k] [] (.I (3+2*k)) []:=by
 refine uC.s.ai ?_;have q:=w6 (x:=2*k);have u:=w6 (x:=3+2*k);refine rs [0] [] [] ?_;refine rx (s:=?s2) [2] [] [] rfl ?o2 ?q2
 case o2=>simp[q,u];rfl
 exact Bv
abbrev CK (N:Int) (B n:Nat):AX:=⟨2,[[.I N,.rs B 0 n]],0⟩
theorem L0 (N f t v:Int) (L:List Ed) (n:Nat) (hL:L.length=n) (hn:n<=1000000):AK 206 [.I f,.I t,.I v,.pt 0 0 0] [CK N 1 n,⟨3,CE L,0⟩] (.tup []) [some (CK N 2 (n+1)),none,some ⟨3,CE (L++[⟨f,t,v⟩]),0⟩]:=by
 refine uQ.s.ai ?_;have q:∀ f:Ed->List AV,List.take n (List.map f L)=List.map f L:=λ f=>Qc (by simp[hL])
 refine BA (s:=?s1) rfl ?o1 ?q1
 case o1=>simp[hL,q];refine⟨zy,zy,?_⟩;rfl
 refine⟨.inl rfl,⟨[],rfl,[72],[],by simp[List.range,List.range.loop],zz,zz,zz,?_⟩⟩
 simp[List.range,List.range.loop]
variable {α:Type}
def DE (c:List Int) (x:Int):List Ed:=if 0<c.getD x.toNat 0 then [⟨0,2+2*x,c.getD x.toNat 0⟩] else []
def DH (c:List Int) (i:Nat):List Ed:=if 0<c.getD i 0 then [⟨2+2*(i:Int),3+2*(i:Int),c.getD i 0 - 1⟩] else []
def C9 (c:List Int) (x:Int):List Ed:=if 0<c.getD x.toNat 0 then [⟨2+2*x,1,1⟩] else []
def DA (c:List Int) (e:Ed):List Ed:=if 0<c.getD e.f.toNat 0 then [⟨3+2*e.f,2+2*e.t,64⟩] else []
theorem K0 (q:α->Bool) (f:α->Ed) (l:List α):(l.filter q).map f=l.flatMap λ x=>if q x=true then [f x] else []:=by
 induction l with
 | nil=>rfl
 | cons x l ih=>by_cases h:q x=true<;>simp[h,ih]
theorem OL (g:Gr) (p:BV) (c aA:List Int):DW g p c aA=p.seeds.flatMap (DE c)++(List.range c.length).flatMap (DH c)++aA.flatMap (C9 c)++(Ao g p.lv).edges.flatMap (DA c):=by
 unfold DW;rw[K0,K0,K0,K0];simp only[Qb];rfl
theorem IM (f:α->List Ed) (l:List α) (i:Nat) (h:i<l.length):(l.take (i+1)).flatMap f=(l.take i).flatMap f++f l[i]:=by
 rw[Ql h,List.flatMap_append];simp
theorem Fx (f:α->List Ed) (hf:∀ x,(f x).length<=1) (l:List α):(l.flatMap f).length<=l.length:=by
 induction l with
 | nil=>simp
 | cons x l ih=>rw[U2,Qe,QZ];have:=hf x;omega
theorem Jv (c:List Int) (x:Int):(DE c x).length<=1:=by unfold DE;split<;>simp
theorem KY (c:List Int) (x:Nat):(DH c x).length<=1:=by unfold DH;split<;>simp
theorem Kl (c:List Int) (x:Int):(C9 c x).length<=1:=by unfold C9;split<;>simp
theorem J8 (c:List Int) (x:Ed):(DA c x).length<=1:=by unfold DA;split<;>simp
theorem IF (f:α->List Ed) (hf:∀ x,(f x).length<=1) (l:List α) (i:Nat):((l.take i).flatMap f).length<=l.length:=QI (Fx f hf _) (List.length_take_le' i l)
theorem gZ (g:Gr) (p:BV) (aA:List Int) (hg:Ah g) (hp:CG g.size p) (hr:Bh aA 0 (g.size - 1)) (hs:p.seeds.length<=64) (a5:aA.length<=64) :
  AK 143 [eG g,eP p,AA aA] [] (.tup [eN ⟨2+2*g.size,DW g p (BB g p) aA⟩,.I 0]) []:=by
 refine uD.s.ai ?_;have a6:=hg.1.1;have aq:=hg.1.2.1;have a7:=hg.edges_le;have av:=hg.gone_le;have ha:=O0 g p zy zy zy (by have:=hp.2.2.2.1;omega)
 rw[if_pos hg,if_pos hp] at ha;have h5:=YA g p hg zy
 have hy:=SS (g:=g) hp;have hz:(BB g p).length=g.size.toNat:=F4;rw[<- hz] at h5;have hb:=Nh g p.lv zy zy
 rw[OL];obtain⟨C,hC⟩:=AL (BB g p);rw[<- hC] at h5 hz hy ⊢;have a0:∀ e∈(Ao g p.lv).edges,e∈g.edges:=λ e he=>(QA.1 he).1;have a1:(Ao g p.lv).edges.length<=500:=QI (QO ..) a7;obtain⟨G,hG⟩:=AL (Ao g p.lv);rw[<- hG] at hb a0 a1 ⊢;have a8:=w6 (x:=g.size - 1)
 have a2:∀ e∈G.edges,(0<=e.f/\e.f<g.size)/\(0<=e.t/\e.t<g.size):=λ e he=>by
  have:=hg.fits e (a0 e he);unfold DX at this;omega
 have h3:∀ k:Int,0<=k->k<g.size -> ∃ j:Nat,k=j/\j<C.length/\j<64:=λ k h0 h1=>⟨k.toNat,zy,zy,zy⟩
 have hf:∀ k∈p.seeds,∃ j:Nat,k=j/\j<C.length/\j<64:=λ k hk=>by
  obtain⟨i,hi,rfl⟩:=UO hk;have:=hp.2.1 i hi;exact h3 _ zy zy
 have hh:∀ k∈aA,∃ j:Nat,k=j/\j<C.length/\j<64:=λ k hk=>by
  obtain⟨i,hi,rfl⟩:=UO hk;have:=hr i hi;exact h3 _ zy zy
 refine ar [2,3,4,6] [(32,32)] [16,24] 48 ?_;refine AC (rk (s:=?s2) [2,3,4,6,8] [32] rfl ?o2 ?q2)
 case o2=>simp;refine AT ha zz ?_;simp;rfl
 refine rk (s:=?s3) [2,3,4,6,24] [32] rfl ?o3 ?q3
 case o3=>simp;rfl
 refine AD _ rfl (λ h4=>?_) λ h4=>AE ?_
 .simp at h4
 refine AC (rk (s:=?s5) [2,3,4,6,32] [32] rfl ?o5 ?q5)
 case o5=>simp[a8];refine AT (PM aA 0 (g.size - 1) zy) zz ?_;simp[hr];rfl
 refine AD _ rfl (λ h6=>?_) λ h6=>AE ?_
 .simp at h6
 refine rk (s:=?s7) [2,3,4,6,9] [32,176] rfl ?o7 ?q7
 case o7=>simp;refine AT (Jp g.size a6 zy) zz ?_;simp;rfl
 obtain⟨N,hN⟩:∃ N:Int,N=2+2*g.size:=⟨_,rfl⟩;simp only[<- hN];refine rk (s:=?s8) [2,3,4,6,9,10] [32,176] rfl ?o8 ?q8
 case o8=>simp;rfl
 refine arc ⟨123,[(2,AA aA),(3,.pv (gC g)),(4,.pv (pC p)),(6,.pt 32 0 0),(9,.pt 176 0 0),(10,.fn (.func 206) [] [.pt 176 0 0]),(11,AA C)],[(32,some ⟨2,[[.I 0,.nilS]],0⟩),(176,some ⟨2,[[.I N,.nilS]],0⟩)],240⟩ ?_ ?_
 .simp
  refine C4 h5 ?_;simp[AB];exact AN [(32,32),(176,176)] [224] (by simp[AB,CI])
 have a9:(p.seeds.flatMap (DE C)).length<=64:=QI (Fx _ (Jv C) _) hs;have ag:((List.range C.length).flatMap (DH C)).length<=64:=QI (Fx _ (KY C) _) (by rw[Uz];omega)
 have am:(aA.flatMap (C9 C)).length<=64:=QI (Fx _ (Kl C) _) a5;have an:(G.edges.flatMap (DA C)).length<=500:=QI (Fx _ (J8 C) _) a1;obtain⟨X1,hj⟩:∃ X,X=p.seeds.flatMap (DE C):=⟨_,rfl⟩;obtain⟨X2,hl⟩:∃ X,X=(List.range C.length).flatMap (DH C):=⟨_,rfl⟩;obtain⟨X3,hm⟩:∃ X,X=aA.flatMap (C9 C):=⟨_,rfl⟩;obtain⟨X4,ho⟩:∃ X,X=G.edges.flatMap (DA C):=⟨_,rfl⟩;obtain⟨Z2,hq⟩:∃ Z,Z=X1++X2:=⟨_,rfl⟩;obtain⟨Z3,ht⟩:∃ Z,Z=Z2++X3:=⟨_,rfl⟩;obtain⟨Z4,a3⟩:∃ Z,Z=Z3++X4:=⟨_,rfl⟩;rw[<- hj] at a9;rw[<- hl] at ag;rw[<- hm] at am;rw[<- ho] at an;rw[<- hj,<- hl,<- hm,<- ho,<- hq,<- ht,<- a3];have b0:Z2.length<=128:=by rw[hq,Qe];omega
 have b1:Z3.length<=192:=by rw[ht,Qe];omega
 refine AC (rk (s:=?sa1) [2,3,4,6,9,10,11,43,44,45] [32,176] rfl ?oa1 ?qa1)
 case oa1=>simp;rfl
 refine AI ?_
 obtain⟨Fa,Fa0,Fas,Fal,FaN⟩:∃ F:Nat->List Ed,F 0=[]/\(∀ i (h:i<(p.seeds).length),F (i+1)=F i++DE C (p.seeds)[i])/\(∀ i,(F i).length<=64)/\F (p.seeds).length=(p.seeds).flatMap (DE C) :=
  ⟨λ i=>((p.seeds).take i).flatMap (DE C),zz,λ i h=>by simp only[IM _ _ i h,Qq],λ i=>by have:=IF _ (Jv C) (p.seeds) i;exact QI this hs,zz⟩
 rw[<- hj] at FaN;refine Ag (ι:=Nat) (λ i=>⟨123,[(2,AA aA),(3,.pv (gC g)),(4,.pv (pC p)),(6,.pt 32 0 0),(9,.pt 176 0 0),(10,.fn (.func 206) [] [.pt 176 0 0]),(11,AA C),(43,AA p.seeds),(44,.I p.seeds.length),(45,.I i)],[(32,some ⟨2,[[.I 0,.nilS]],0⟩),(176,some (CK N 16 (Fa i).length)),(16,some ⟨3,CE (Fa i),0⟩)],272⟩) (λ i=>i<=p.seeds.length) (λ i=>p.seeds.length - i) 0 (Qh _) (Le.lst [(32,32),(176,176)] [] [(16,3)] rfl zz zz zz zz zz zz zz (by simp[Up]) (by simp[Fa0];refine⟨Av.rfl' zz,Av.row rfl zy (by simp[El,Up])⟩)) ?_
 intro i hi;refine rk (s:=?sa2) [2,3,4,6,9,10,11,43,44,45,46] [32,176,16] rfl ?oa2 ?qa2
 case oa2=>simp;rfl
 refine AC (AD _ rfl (λ h7=>?_) λ h7=>?_)
 .simp at h7
  have hw:=w6 (x:=(i:Int)+1);have hv:=Fal i;obtain⟨k,hk,h2,hd⟩:=hf _ (Qi h7)
  have q:Fa (i+1)=Fa i++if 0<C[k] then [⟨0,2+2*(k:Int),C[k]⟩] else []:=by
   rw[Fas i h7,hk];unfold DE;simp[h2]
  refine AE (BO ⟨123,[(2,AA aA),(3,.pv (gC g)),(4,.pv (pC p)),(6,.pt 32 0 0),(9,.pt 176 0 0),(10,.fn (.func 206) [] [.pt 176 0 0]),(11,AA C),(43,AA p.seeds),(44,.I p.seeds.length),(45,.I i)],[(32,some ⟨2,[[.I 0,.nilS]],0⟩),(176,some (CK N 16 (Fa (i+1)).length)),(16,some ⟨3,CE (Fa (i+1)),0⟩)],700⟩ ?_ ?_)
  .refine AI (rk (s:=?sa3) [2,3,4,6,9,10,11,13,43,44,45] [32,176,16] rfl ?oa3 ?qa3)
   case oa3=>simp[h7,hk];rfl
   refine rk (s:=?sa4) [2,3,4,6,9,10,11,13,43,44,45,53] [32,176,16] rfl ?oa4 ?qa4
   case oa4=>simp[h2];rfl
   refine AD _ rfl (λ h8=>?_) λ h8=>?_
   .simp at h8
    rw[if_pos h8] at q;refine Cn rfl ?_;simp[h2];refine Ay (Jp k zy zy) ?_
    simp[h2];refine Jm (i:=176) (j:=16) zx rfl rfl (e1':=CK N 1 (Fa i).length) (e2':=⟨3,CE (Fa i),0⟩) zz zw (L0 N 0 (2+2*(k:Int)) C[k] (Fa i) _ rfl zy) zz zz ?_
    simp[AB];exact⟨rfl,AN [(32,32),(176,176),(400,16)] [] (by simp[q]) (by simp[q,AB])⟩
   .simp at h8
    rw[if_neg zy] at q
    exact AE (AN [(32,32),(176,176),(16,16)] [] (by simp[q]) (by simp[q,AB]))
  refine Ad ?_;exact⟨i+1,zy,zy,AN [(32,32),(176,176),(16,16)] [] (by simp[hw]) zw⟩
 simp at h7;obtain rfl:i=p.seeds.length:=zy
 rw[FaN];refine Aa (Ab ?_);refine AC (rk (s:=?sb1) [2,3,4,6,9,10,11,63,64,65] [32,176,16] rfl ?ob1 ?qb1)
 case ob1=>simp;rfl
 refine AI ?_
 obtain⟨Fb,Fb0,Fbs,Fbl,FbN⟩:∃ F:Nat->List Ed,F 0=X1/\(∀ i (h:i<(List.range C.length).length),F (i+1)=F i++DH C (List.range C.length)[i])/\(∀ i,(F i).length<=200)/\F (List.range C.length).length=X1++(List.range C.length).flatMap (DH C) :=
  ⟨λ i=>X1++((List.range C.length).take i).flatMap (DH C),zz,λ i h=>by simp only[IM _ _ i h,Qq],λ i=>by have:=IF _ (KY C) (List.range C.length) i;rw[Uz] at this;rw[Qe];omega,zz⟩
 rw[Uz,<- hl,<- hq] at FbN;refine Ag (ι:=Nat) (λ i=>⟨123,[(2,AA aA),(3,.pv (gC g)),(4,.pv (pC p)),(6,.pt 32 0 0),(9,.pt 176 0 0),(10,.fn (.func 206) [] [.pt 176 0 0]),(11,AA C),(63,AA C),(64,.I C.length),(65,.I i)],[(32,some ⟨2,[[.I 0,.nilS]],0⟩),(176,some (CK N 16 (Fb i).length)),(16,some ⟨3,CE (Fb i),0⟩)],304⟩) (λ i=>i<=C.length) (λ i=>C.length - i) 0 (Qh _) (AN [(32,32),(176,176),(16,16)] [] (by simp[Fb0]) (by simp[Fb0,AB])) ?_
 intro i hi;refine rk (s:=?sb2) [2,3,4,6,9,10,11,63,64,65,66] [32,176,16] rfl ?ob2 ?qb2
 case ob2=>simp;rfl
 refine AC (AD _ rfl (λ h7=>?_) λ h7=>?_)
 .simp at h7
  have hw:=w6 (x:=(i:Int)+1);have hv:=Fbl i;have h2:=h7
  have q:Fb (i+1)=Fb i++if 0<C[i] then [⟨2+2*(i:Int),3+2*(i:Int),C[i] - 1⟩] else []:=by
   rw[Fbs i (by simpa using h7)]
   unfold DH;simp[h2]
  have b2:=hy _ (Qi h7);have a4:=w6 (x:=C[i] - 1);refine AE (BO ⟨123,[(2,AA aA),(3,.pv (gC g)),(4,.pv (pC p)),(6,.pt 32 0 0),(9,.pt 176 0 0),(10,.fn (.func 206) [] [.pt 176 0 0]),(11,AA C),(63,AA C),(64,.I C.length),(65,.I i)],[(32,some ⟨2,[[.I 0,.nilS]],0⟩),(176,some (CK N 16 (Fb (i+1)).length)),(16,some ⟨3,CE (Fb (i+1)),0⟩)],700⟩ ?_ ?_)
  .refine AI (rk (s:=?sb3) [2,3,4,6,9,10,11,14,15,63,64,65] [32,176,16] rfl ?ob3 ?qb3)
   case ob3=>simp[h7];rfl
   refine rk (s:=?sb4) [2,3,4,6,9,10,11,14,15,63,64,65,71] [32,176,16] rfl ?ob4 ?qb4
   case ob4=>simp[h2];rfl
   refine AD _ rfl (λ h8=>?_) λ h8=>?_
   .simp at h8
    rw[if_pos h8] at q;refine AU rfl ?_;simp[h2];refine Ay (Jp i zy zy) ?_
    simp[a4];refine Ay (Tw i zy zy) ?_
    simp[a4];refine Jm (i:=176) (j:=16) zx rfl rfl (e1':=CK N 1 (Fb i).length) (e2':=⟨3,CE (Fb i),0⟩) zz zw (L0 N (2+2*(i:Int)) (3+2*(i:Int)) (C[i] - 1) (Fb i) _ rfl zy) zz zz ?_
    simp[AB];exact AN [(32,32),(176,176),(424,16)] [] (by simp[q]) (by simp[q,AB])
   .simp at h8
    rw[if_neg zy] at q
    exact AE (AN [(32,32),(176,176),(16,16)] [] (by simp[q]) (by simp[q,AB]))
  refine Ad ?_;exact⟨i+1,zy,zy,AN [(32,32),(176,176),(16,16)] [] (by simp[hw]) zw⟩
 simp at h7;obtain rfl:i=C.length:=zy
 rw[FbN];refine Aa (Ab ?_);refine AC (rk (s:=?sc1) [3,4,6,9,10,11,81,82,83] [32,176,16] rfl ?oc1 ?qc1)
 case oc1=>simp;rfl
 refine AI ?_
 obtain⟨Fc,Fc0,Fcs,Fcl,FcN⟩:∃ F:Nat->List Ed,F 0=Z2/\(∀ i (h:i<(aA).length),F (i+1)=F i++C9 C (aA)[i])/\(∀ i,(F i).length<=300)/\F (aA).length=Z2++(aA).flatMap (C9 C) :=
  ⟨λ i=>Z2++((aA).take i).flatMap (C9 C),zz,λ i h=>by simp only[IM _ _ i h,Qq],λ i=>by have:=IF _ (Kl C) (aA) i;simp only[Qe];omega,zz⟩
 rw[<- hm,<- ht] at FcN;refine Ag (ι:=Nat) (λ i=>⟨123,[(3,.pv (gC g)),(4,.pv (pC p)),(6,.pt 32 0 0),(9,.pt 176 0 0),(10,.fn (.func 206) [] [.pt 176 0 0]),(11,AA C),(81,AA aA),(82,.I aA.length),(83,.I i)],[(32,some ⟨2,[[.I 0,.nilS]],0⟩),(176,some (CK N 16 (Fc i).length)),(16,some ⟨3,CE (Fc i),0⟩)],336⟩) (λ i=>i<=aA.length) (λ i=>aA.length - i) 0 (Qh _) (AN [(32,32),(176,176),(16,16)] [] (by simp[Fc0]) (by simp[Fc0,AB])) ?_
 intro i hi;refine rk (s:=?sc2) [3,4,6,9,10,11,81,82,83,84] [32,176,16] rfl ?oc2 ?qc2
 case oc2=>simp;rfl
 refine AC (AD _ rfl (λ h7=>?_) λ h7=>?_)
 .simp at h7
  have hw:=w6 (x:=(i:Int)+1);have hv:=Fcl i;obtain⟨k,hk,h2,hd⟩:=hh _ (Qi h7)
  have q:Fc (i+1)=Fc i++if 0<C[k] then [⟨2+2*(k:Int),1,1⟩] else []:=by
   rw[Fcs i h7,hk];unfold C9;simp[h2]
  refine AE (BO ⟨123,[(3,.pv (gC g)),(4,.pv (pC p)),(6,.pt 32 0 0),(9,.pt 176 0 0),(10,.fn (.func 206) [] [.pt 176 0 0]),(11,AA C),(81,AA aA),(82,.I aA.length),(83,.I i)],[(32,some ⟨2,[[.I 0,.nilS]],0⟩),(176,some (CK N 16 (Fc (i+1)).length)),(16,some ⟨3,CE (Fc (i+1)),0⟩)],700⟩ ?_ ?_)
  .refine AI (rk (s:=?sc3) [3,4,6,9,10,11,17,81,82,83] [32,176,16] rfl ?oc3 ?qc3)
   case oc3=>simp[h7,hk];rfl
   refine rk (s:=?sc4) [3,4,6,9,10,11,17,81,82,83,91] [32,176,16] rfl ?oc4 ?qc4
   case oc4=>simp[h2];rfl
   refine AD _ rfl (λ h8=>?_) λ h8=>?_
   .simp at h8
    rw[if_pos h8] at q;refine AU rfl ?_;simp[h2];refine Ay (Jp k zy zy) ?_
    simp;refine Jm (i:=176) (j:=16) zx rfl rfl (e1':=CK N 1 (Fc i).length) (e2':=⟨3,CE (Fc i),0⟩) zz zw (L0 N (2+2*(k:Int)) 1 1 (Fc i) _ rfl zy) zz zz ?_
    simp[AB];exact AN [(32,32),(176,176),(432,16)] [] (by simp[q]) (by simp[q,AB])
   .simp at h8
    rw[if_neg zy] at q
    exact AE (AN [(32,32),(176,176),(16,16)] [] (by simp[q]) (by simp[q,AB]))
  refine Ad ?_;exact⟨i+1,zy,zy,AN [(32,32),(176,176),(16,16)] [] (by simp[hw]) zw⟩
 simp at h7;obtain rfl:i=aA.length:=zy
 rw[FcN];refine Aa (Ab ?_);refine AC (rk (s:=?sd1) [6,9,10,11,101,102,103] [32,176,16] rfl ?od1 ?qd1)
 case od1=>simp;refine AT hb zz ?_;simp;rfl
 refine AI ?_
 obtain⟨Fd,Fd0,Fds,Fdl,FdN⟩:∃ F:Nat->List Ed,F 0=Z3/\(∀ i (h:i<(G.edges).length),F (i+1)=F i++DA C (G.edges)[i])/\(∀ i,(F i).length<=900)/\F (G.edges).length=Z3++(G.edges).flatMap (DA C) :=
  ⟨λ i=>Z3++((G.edges).take i).flatMap (DA C),zz,λ i h=>by simp only[IM _ _ i h,Qq],λ i=>by have:=IF _ (J8 C) (G.edges) i;simp only[Qe];omega,zz⟩
 rw[<- ho,<- a3] at FdN;refine Ag (ι:=Nat) (λ i=>⟨123,[(6,.pt 32 0 0),(9,.pt 176 0 0),(10,.fn (.func 206) [] [.pt 176 0 0]),(11,AA C),(101,Cr G.edges),(102,.I G.edges.length),(103,.I i)],[(32,some ⟨2,[[.I 0,.nilS]],0⟩),(176,some (CK N 16 (Fd i).length)),(16,some ⟨3,CE (Fd i),0⟩)],400⟩) (λ i=>i<=G.edges.length) (λ i=>G.edges.length - i) 0 (Qh _) (AN [(32,32),(176,176),(16,16)] [] (by simp[Fd0]) (by simp[Fd0,AB])) ?_
 intro i hi;refine rk (s:=?sd2) [6,9,10,11,101,102,103,104] [32,176,16] rfl ?od2 ?qd2
 case od2=>simp;rfl
 refine AC (AD _ rfl (λ h7=>?_) λ h7=>?_)
 .simp at h7
  have hw:=w6 (x:=(i:Int)+1);have hv:=Fdl i;obtain⟨x,hx⟩:=AL (G.edges[i]);have h9:=a2 _ (Qi h7);rw[<- hx] at h9;obtain⟨k,hk,h2,hd⟩:=h3 x.f h9.1.1 h9.1.2;obtain⟨u,hu,b3,au⟩:=h3 x.t h9.2.1 h9.2.2
  have q:Fd (i+1)=Fd i++if 0<C[k] then [⟨3+2*(k:Int),2+2*(u:Int),64⟩] else []:=by
   rw[Fds i h7,<- hx];unfold DA;rw[hk,hu];simp[h2]
  refine AE (BO ⟨123,[(6,.pt 32 0 0),(9,.pt 176 0 0),(10,.fn (.func 206) [] [.pt 176 0 0]),(11,AA C),(101,Cr G.edges),(102,.I G.edges.length),(103,.I i)],[(32,some ⟨2,[[.I 0,.nilS]],0⟩),(176,some (CK N 16 (Fd (i+1)).length)),(16,some ⟨3,CE (Fd (i+1)),0⟩)],700⟩ ?_ ?_)
  .refine AI ?_
   apply ax [6,9,10,11,19,101,102,103] [(32,32),(176,176),(16,16)] [424] 440
   .simp [h7,<- hx]
    rfl
   refine rk (s:=?sd4) [6,9,10,11,19,101,102,103,112] [32,176,16] rfl ?od4 ?qd4
   case od4=>simp[hk,h2];rfl
   refine AD _ rfl (λ h8=>?_) λ h8=>?_
   .simp at h8
    rw[if_pos h8] at q;refine Cn rfl ?_;simp[hk,hu];refine Ay (Tw k zy zy) ?_
    simp[h2];refine Ay (Jp u zy zy) ?_
    simp;refine Jm (i:=176) (j:=16) zx rfl rfl (e1':=CK N 1 (Fd i).length) (e2':=⟨3,CE (Fd i),0⟩) zz zw (L0 N (3+2*(k:Int)) (2+2*(u:Int)) 64 (Fd i) _ rfl zy) zz zz ?_
    simp[AB];exact⟨rfl,AN [(32,32),(176,176),(544,16)] [] (by simp[q]) (by simp[q,AB])⟩
   .simp at h8
    rw[if_neg zy] at q
    exact AE (AN [(32,32),(176,176),(16,16)] [] (by simp[q]) (by simp[q,AB]))
  refine Ad ?_;exact⟨i+1,zy,zy,AN [(32,32),(176,176),(16,16)] [] (by simp[hw]) zw⟩
 simp at h7;obtain rfl:i=G.edges.length:=zy
 rw[FdN];refine Aa (Ab (rk (s:=?sz) [6,7] [32,16] rfl ?oz ?qz))
 case oz=>simp;rfl
 exact BG (AG.out [] [16] rfl zz zz (by simp[hN,AB,CI]) zz)
theorem dW (g:Gr) (p:BV) (aA:List Int) (hg:Ah g) (hp:CG g.size p) (hr:Bh aA 0 (g.size - 1)) (hs:p.seeds.length<=64) (av:aA.length<=64) :
  AK 166 [eG g,eP p,AA aA] [] (.tup [eN ⟨2+2*g.size,DW g p (BB g p) aA⟩,.I 0]) []:=by
 refine vA.s.ai ?_;have be:=hg.1.1;have b8:=hg.1.2.1;have b0:=hg.edges_le;have bo:=hg.gone_le;have ho:=LB g p zy zy zy (by have:=hp.2.2.2.1;omega)
 rw[if_pos hg,if_pos hp] at ho;have a7:=SS (g:=g) hp;have a8:(BB g p).length=g.size.toNat:=F4;have hq:=Ns g p.lv zy zy
 rw[OL];have a9:∀ e∈(Ao g p.lv).edges,e∈g.edges:=λ e he=>(QA.1 he).1;have ag:(Ao g p.lv).edges.length<=500:=QI (QO ..) b0;have ha:=Mt (Ao g p.lv) p.seeds (hg.level p.lv) zy
 have h5:=VZ (Ao g p.lv) p (hg.level p.lv) zy
 have b1:BB (Ao g p.lv) p=BB g p:=by unfold BB;rw[Vp]
 rw[b1] at h5
 have am:∀ k:Nat,k<g.size.toNat -> ∀ (h1:k<(CZ (Ao g p.lv) p.seeds).length) (h2:k<(BB g p).length),0<=(CZ (Ao g p.lv) p.seeds)[k]↔0<(BB g p)[k]:=λ k hk h1 h2=>by
  have:=Pg hp (d:=(CZ (Ao g p.lv) p.seeds)[k]);rw[<- this];simp[BB]
 have an:(CZ (Ao g p.lv) p.seeds).length=g.size.toNat:=by simp[CZ,Ao]
 have hl:(Ao g p.lv).size=g.size:=rfl;rw[hl] at ha h5;rw[<- a8] at h5;rw[<- an] at ha;obtain⟨C,hC⟩:=AL (BB g p);obtain⟨D,hD⟩:=AL (CZ (Ao g p.lv) p.seeds);rw[<- hC] at h5 a8 a7 ⊢;rw[<- hD] at ha an;simp only[<- hC,<- hD] at am;have hj:∀ k:Nat,k<C.length->k<D.length:=λ k hk=>zy
 have hf:∀ (k:Nat) (h2:k<C.length),0<=D[k]'(hj k h2)↔0<C[k]:=λ k h2=>am k zy (hj k h2) h2
 obtain⟨G,hG⟩:=AL (Ao g p.lv);rw[<- hG] at hq a9 ag ha h5 hl ⊢
 have aq:∀ e∈G.edges,(0<=e.f/\e.f<g.size)/\(0<=e.t/\e.t<g.size):=λ e he=>by
  have:=hg.fits e (a9 e he);unfold DX at this;omega
 have hh:∀ k:Int,0<=k->k<g.size -> ∃ j:Nat,k=j/\j<C.length/\j<64:=λ k h0 h1=>⟨k.toNat,zy,zy,zy⟩
 have hv:∀ k∈p.seeds,∃ j:Nat,k=j/\j<C.length/\j<64:=λ k hk=>by
  obtain⟨i,hi,rfl⟩:=UO hk;have:=hp.2.1 i hi;exact hh _ zy zy
 have hy:∀ k∈aA,∃ j:Nat,k=j/\j<C.length/\j<64:=λ k hk=>by
  obtain⟨i,hi,rfl⟩:=UO hk;have:=hr i hi;exact hh _ zy zy
 have b2:=w6 (x:=2*g.size);have b3:=w6 (x:=2+2*g.size);refine ar [2,3,4,6] [(16,16),(32,32)] [24] 48 ?_;refine AC (rk (s:=?s2) [2,3,4,6,8] [16,32] rfl ?o2 ?q2)
 case o2=>simp;refine AT ho zz ?_;simp;rfl
 refine rk (s:=?s3) [2,3,4,6,22] [16,32] rfl ?o3 ?q3
 case o3=>simp;rfl
 refine AD _ rfl (λ h4=>?_) λ h4=>AE ?_
 .simp at h4
 refine AC (rk (s:=?s5) [2,3,4,6,29] [16,32] rfl ?o5 ?q5)
 case o5=>simp;refine AT (MV aA g.size zy) zz ?_;simp[hr];rfl
 refine AD _ rfl (λ h6=>?_) λ h6=>AE ?_
 .simp at h6
 apply ax [2,3,4,6] [(32,32)] [16] 176
 .simp
  refine Ay hq ?_;simp;rfl
 refine BM ⟨158,[(2,AA aA),(3,.pv (gC G)),(4,.pv (pC p)),(6,.pt 32 0 0),(9,AA D),(10,AA C)],[(32,some ⟨2,[[.I 0,.nilS]],0⟩)],248⟩ ?_ ?_
 .simp
  refine C4 ha ?_;simp[AB];refine C4 h5 ?_;simp[AB];exact⟨rfl,AN [(32,32)] [200,224] (by simp[AB,CI])⟩
 refine rk (s:=?s7) [2,3,4,6,9,10,11] [32,288] rfl ?o7 ?q7
 case o7=>simp[hl,b2,b3];rfl
 obtain⟨N,hN⟩:∃ N:Int,N=2+2*g.size:=⟨_,rfl⟩;simp only[<- hN];have b4:(p.seeds.flatMap (DE C)).length<=64:=QI (Fx _ (Jv C) _) hs;have b5:((List.range C.length).flatMap (DH C)).length<=64:=QI (Fx _ (KY C) _) (by rw[Uz];omega)
 have b6:(aA.flatMap (C9 C)).length<=64:=QI (Fx _ (Kl C) _) av;have b7:(G.edges.flatMap (DA C)).length<=500:=QI (Fx _ (J8 C) _) ag;obtain⟨X1,hz⟩:∃ X,X=p.seeds.flatMap (DE C):=⟨_,rfl⟩;obtain⟨X2,a0⟩:∃ X,X=(List.range C.length).flatMap (DH C):=⟨_,rfl⟩;obtain⟨X3,a1⟩:∃ X,X=aA.flatMap (C9 C):=⟨_,rfl⟩;obtain⟨X4,a2⟩:∃ X,X=G.edges.flatMap (DA C):=⟨_,rfl⟩;obtain⟨Z2,a3⟩:∃ Z,Z=X1++X2:=⟨_,rfl⟩;obtain⟨Z3,a4⟩:∃ Z,Z=Z2++X3:=⟨_,rfl⟩;obtain⟨Z4,au⟩:∃ Z,Z=Z3++X4:=⟨_,rfl⟩;rw[<- hz] at b4;rw[<- a0] at b5;rw[<- a1] at b6;rw[<- a2] at b7;rw[<- hz,<- a0,<- a1,<- a2,<- a3,<- a4,<- au];have bp:Z2.length<=128:=by rw[a3,Qe];omega
 have bs:Z3.length<=192:=by rw[a4,Qe];omega
 refine AC (rk (s:=?sa1) [2,3,4,6,9,10,11,12] [32,288] rfl ?oa1 ?qa1)
 case oa1=>simp;rfl
 refine AI ?_
 obtain⟨Fa,Fa0,Fas,Fal,FaN⟩:∃ F:Nat->List Ed,F 0=[]/\(∀ i (h:i<(p.seeds).length),F (i+1)=F i++DE C (p.seeds)[i])/\(∀ i,(F i).length<=64)/\F (p.seeds).length=(p.seeds).flatMap (DE C) :=
  ⟨λ i=>((p.seeds).take i).flatMap (DE C),zz,λ i h=>by simp only[IM _ _ i h,Qq],λ i=>by have:=IF _ (Jv C) (p.seeds) i;exact QI this hs,zz⟩
 rw[<- hz] at FaN;refine Ag (ι:=Nat) (λ i=>⟨158,[(2,AA aA),(3,.pv (gC G)),(4,.pv (pC p)),(6,.pt 32 0 0),(9,AA D),(10,AA C),(11,.pt 288 0 0),(12,.I i)],[(32,some ⟨2,[[.I 0,.nilS]],0⟩),(288,some (CK N 16 (Fa i).length)),(16,some ⟨3,CE (Fa i),0⟩)],312⟩) (λ i=>i<=p.seeds.length) (λ i=>p.seeds.length - i) 0 (Qh _) (Le.lst [(32,32),(288,288)] [] [(16,3)] rfl zz zz zz zz zz zz zz (by simp[Up]) (by simp[Fa0];refine⟨Av.rfl' zz,Av.row rfl zy (by simp[El,Up])⟩)) ?_
 intro i hi;refine AC (rk (s:=?sa2) [2,3,4,6,9,10,11,12,51] [32,288,16] rfl ?oa2 ?qa2)
 case oa2=>simp;rfl
 refine AD _ rfl (λ h7=>?_) λ h7=>?_
 .simp at h7
  have hw:=w6 (x:=(i:Int)+1);have a5:=Fal i;obtain⟨k,hk,h3,ht⟩:=hv _ (Qi h7)
  have q:Fa (i+1)=Fa i++if 0<C[k] then [⟨0,2+2*(k:Int),C[k]⟩] else []:=by
   rw[Fas i h7,hk];unfold DE;simp[h3]
  have hb:=hj _ h3;have hd:=hf _ h3;refine AE (BO ⟨158,[(2,AA aA),(3,.pv (gC G)),(4,.pv (pC p)),(6,.pt 32 0 0),(9,AA D),(10,AA C),(11,.pt 288 0 0),(12,.I i)],[(32,some ⟨2,[[.I 0,.nilS]],0⟩),(288,some (CK N 16 (Fa (i+1)).length)),(16,some ⟨3,CE (Fa (i+1)),0⟩)],800⟩ ?_ ?_)
  .refine AI (rk (s:=?sa3) [2,3,4,6,9,10,11,12,13] [32,288,16] rfl ?oa3 ?qa3)
   case oa3=>simp[h7,hk];rfl
   refine rk (s:=?sa4) [2,3,4,6,9,10,11,12,13,63] [32,288,16] rfl ?oa4 ?qa4
   case oa4=>simp[hb];rfl
   refine AD _ rfl (λ h8=>?_) λ h8=>?_
   .simp at h8
    rw[if_pos (hd.1 h8)] at q;have h9:∀ f:Ed->List AV,List.take (Fa i).length (List.map f (Fa i))=List.map f (Fa i):=λ f=>Qc zz
    refine Cn rfl ?_;simp[h3];refine Ay (Lu k zy zy) ?_
    simp[h9,h3];refine⟨zy,zy,?_⟩
    exact⟨rfl,AN [(32,32),(288,288),(520,16)] [] (by simp[q]) (by simp[q,AB])⟩
   .simp at h8
    rw[if_neg zy] at q
    exact AE (AN [(32,32),(288,288),(16,16)] [] (by simp[q]) (by simp[q,AB]))
  refine Ad ?_;exact⟨i+1,zy,zy,AN [(32,32),(288,288),(16,16)] [] (by simp[hw]) zw⟩
 simp at h7;obtain rfl:i=p.seeds.length:=zy
 rw[FaN];refine Aa (Ab ?_);refine AC (rk (s:=?sb1) [2,3,6,9,10,11,14] [32,288,16] rfl ?ob1 ?qb1)
 case ob1=>simp;rfl
 refine AI ?_
 obtain⟨Fb,Fb0,Fbs,Fbl,FbN⟩:∃ F:Nat->List Ed,F 0=X1/\(∀ i (h:i<(List.range C.length).length),F (i+1)=F i++DH C (List.range C.length)[i])/\(∀ i,(F i).length<=200)/\F (List.range C.length).length=X1++(List.range C.length).flatMap (DH C) :=
  ⟨λ i=>X1++((List.range C.length).take i).flatMap (DH C),zz,λ i h=>by simp only[IM _ _ i h,Qq],λ i=>by have:=IF _ (KY C) (List.range C.length) i;rw[Uz] at this;rw[Qe];omega,zz⟩
 rw[Uz,<- a0,<- a3] at FbN;refine Ag (ι:=Nat) (λ i=>⟨158,[(2,AA aA),(3,.pv (gC G)),(6,.pt 32 0 0),(9,AA D),(10,AA C),(11,.pt 288 0 0),(14,.I i)],[(32,some ⟨2,[[.I 0,.nilS]],0⟩),(288,some (CK N 16 (Fb i).length)),(16,some ⟨3,CE (Fb i),0⟩)],360⟩) (λ i=>i<=C.length) (λ i=>C.length - i) 0 (Qh _) (AN [(32,32),(288,288),(16,16)] [] (by simp[Fb0]) (by simp[Fb0,AB])) ?_
 intro i hi;refine AC (rk (s:=?sb2) [2,3,6,9,10,11,14,79] [32,288,16] rfl ?ob2 ?qb2)
 case ob2=>simp;rfl
 refine AD _ rfl (λ h7=>?_) λ h7=>?_
 .simp [hl] at h7
  have hw:=w6 (x:=(i:Int)+1);have a5:=Fbl i;have h3:i<C.length:=zy
  have q:Fb (i+1)=Fb i++if 0<C[i] then [⟨2+2*(i:Int),3+2*(i:Int),C[i] - 1⟩] else []:=by
   rw[Fbs i (by simpa using h3)]
   unfold DH;simp[h3]
  have bt:=a7 _ (Qi h3);have a6:=w6 (x:=C[i] - 1);have hb:=hj _ h3;have hd:=hf _ h3;refine AE (BO ⟨158,[(2,AA aA),(3,.pv (gC G)),(6,.pt 32 0 0),(9,AA D),(10,AA C),(11,.pt 288 0 0),(14,.I i)],[(32,some ⟨2,[[.I 0,.nilS]],0⟩),(288,some (CK N 16 (Fb (i+1)).length)),(16,some ⟨3,CE (Fb (i+1)),0⟩)],800⟩ ?_ ?_)
  .refine AI (rk (s:=?sb3) [2,3,6,9,10,11,14,86] [32,288,16] rfl ?ob3 ?qb3)
   case ob3=>simp[hb];rfl
   refine AD _ rfl (λ h8=>?_) λ h8=>?_
   .simp at h8
    rw[if_pos (hd.1 h8)] at q;have h9:∀ f:Ed->List AV,List.take (Fb i).length (List.map f (Fb i))=List.map f (Fb i):=λ f=>Qc zz
    refine Cn rfl ?_;simp[h3,a6];refine Ay (Lu i zy zy) ?_
    simp[h9,h3,a6];refine Ay (Pr i zy zy) ?_
    simp[h9,h3,a6];refine⟨zy,zy,?_⟩
    exact⟨rfl,AN [(32,32),(288,288),(536,16)] [] (by simp[q]) (by simp[q,AB])⟩
   .simp at h8
    rw[if_neg zy] at q
    exact AE (AN [(32,32),(288,288),(16,16)] [] (by simp[q]) (by simp[q,AB]))
  refine Ad ?_;exact⟨i+1,zy,zy,AN [(32,32),(288,288),(16,16)] [] (by simp[hw]) zw⟩
 simp[hl] at h7;obtain rfl:i=C.length:=zy
 rw[FbN];refine Aa (Ab ?_);refine AC (rk (s:=?sc1) [2,3,6,9,11,15] [32,288,16] rfl ?oc1 ?qc1)
 case oc1=>simp;rfl
 refine AI ?_
 obtain⟨Fc,Fc0,Fcs,Fcl,FcN⟩:∃ F:Nat->List Ed,F 0=Z2/\(∀ i (h:i<(aA).length),F (i+1)=F i++C9 C (aA)[i])/\(∀ i,(F i).length<=300)/\F (aA).length=Z2++(aA).flatMap (C9 C) :=
  ⟨λ i=>Z2++((aA).take i).flatMap (C9 C),zz,λ i h=>by simp only[IM _ _ i h,Qq],λ i=>by have:=IF _ (Kl C) (aA) i;simp only[Qe];omega,zz⟩
 rw[<- a1,<- a4] at FcN;refine Ag (ι:=Nat) (λ i=>⟨158,[(2,AA aA),(3,.pv (gC G)),(6,.pt 32 0 0),(9,AA D),(11,.pt 288 0 0),(15,.I i)],[(32,some ⟨2,[[.I 0,.nilS]],0⟩),(288,some (CK N 16 (Fc i).length)),(16,some ⟨3,CE (Fc i),0⟩)],400⟩) (λ i=>i<=aA.length) (λ i=>aA.length - i) 0 (Qh _) (AN [(32,32),(288,288),(16,16)] [] (by simp[Fc0]) (by simp[Fc0,AB])) ?_
 intro i hi;refine AC (rk (s:=?sc2) [2,3,6,9,11,15,105] [32,288,16] rfl ?oc2 ?qc2)
 case oc2=>simp;rfl
 refine AD _ rfl (λ h7=>?_) λ h7=>?_
 .simp at h7
  have hw:=w6 (x:=(i:Int)+1);have a5:=Fcl i;obtain⟨k,hk,h3,ht⟩:=hy _ (Qi h7)
  have q:Fc (i+1)=Fc i++if 0<C[k] then [⟨2+2*(k:Int),1,1⟩] else []:=by
   rw[Fcs i h7,hk];unfold C9;simp[h3]
  have hb:=hj _ h3;have hd:=hf _ h3;refine AE (BO ⟨158,[(2,AA aA),(3,.pv (gC G)),(6,.pt 32 0 0),(9,AA D),(11,.pt 288 0 0),(15,.I i)],[(32,some ⟨2,[[.I 0,.nilS]],0⟩),(288,some (CK N 16 (Fc (i+1)).length)),(16,some ⟨3,CE (Fc (i+1)),0⟩)],800⟩ ?_ ?_)
  .refine AI (rk (s:=?sc3) [2,3,6,9,11,15,115] [32,288,16] rfl ?oc3 ?qc3)
   case oc3=>simp[h7,hk,hb];rfl
   refine AD _ rfl (λ h8=>?_) λ h8=>?_
   .simp at h8
    rw[if_pos (hd.1 h8)] at q;have h9:∀ f:Ed->List AV,List.take (Fc i).length (List.map f (Fc i))=List.map f (Fc i):=λ f=>Qc zz
    refine Cn rfl ?_;simp[h7,hk];refine Ay (Lu k zy zy) ?_
    simp[h9,h7,hk];refine⟨zy,zy,?_⟩
    exact⟨rfl,AN [(32,32),(288,288),(568,16)] [] (by simp[q]) (by simp[q,AB])⟩
   .simp at h8
    rw[if_neg zy] at q
    exact AE (AN [(32,32),(288,288),(16,16)] [] (by simp[q]) (by simp[q,AB]))
  refine Ad ?_;exact⟨i+1,zy,zy,AN [(32,32),(288,288),(16,16)] [] (by simp[hw]) zw⟩
 simp at h7;obtain rfl:i=aA.length:=zy
 rw[FcN];refine Aa (Ab ?_);refine AC (rk (s:=?sd1) [3,6,9,11,16] [32,288,16] rfl ?od1 ?qd1)
 case od1=>simp;rfl
 refine AI ?_
 obtain⟨Fd,Fd0,Fds,Fdl,FdN⟩:∃ F:Nat->List Ed,F 0=Z3/\(∀ i (h:i<(G.edges).length),F (i+1)=F i++DA C (G.edges)[i])/\(∀ i,(F i).length<=900)/\F (G.edges).length=Z3++(G.edges).flatMap (DA C) :=
  ⟨λ i=>Z3++((G.edges).take i).flatMap (DA C),zz,λ i h=>by simp only[IM _ _ i h,Qq],λ i=>by have:=IF _ (J8 C) (G.edges) i;simp only[Qe];omega,zz⟩
 rw[<- a2,<- au] at FdN;refine Ag (ι:=Nat) (λ i=>⟨158,[(3,.pv (gC G)),(6,.pt 32 0 0),(9,AA D),(11,.pt 288 0 0),(16,.I i)],[(32,some ⟨2,[[.I 0,.nilS]],0⟩),(288,some (CK N 16 (Fd i).length)),(16,some ⟨3,CE (Fd i),0⟩)],440⟩) (λ i=>i<=G.edges.length) (λ i=>G.edges.length - i) 0 (Qh _) (AN [(32,32),(288,288),(16,16)] [] (by simp[Fd0]) (by simp[Fd0,AB])) ?_
 intro i hi;refine AC (rk (s:=?sd2) [3,6,9,11,16,131] [32,288,16] rfl ?od2 ?qd2)
 case od2=>simp;rfl
 refine AD _ rfl (λ h7=>?_) λ h7=>?_
 .simp at h7
  have hw:=w6 (x:=(i:Int)+1);have a5:=Fdl i;obtain⟨x,hx⟩:=AL (G.edges[i]);have hm:=aq _ (Qi h7);rw[<- hx] at hm;obtain⟨k,hk,h3,ht⟩:=hh x.f hm.1.1 hm.1.2;obtain⟨u,hu,c0,bb⟩:=hh x.t hm.2.1 hm.2.2
  have q:Fd (i+1)=Fd i++if 0<C[k] then [⟨3+2*(k:Int),2+2*(u:Int),64⟩] else []:=by
   rw[Fds i h7,<- hx];unfold DA;rw[hk,hu];simp[h3]
  have hb:=hj _ h3;have hd:=hf _ h3;refine AE (BO ⟨158,[(3,.pv (gC G)),(6,.pt 32 0 0),(9,AA D),(11,.pt 288 0 0),(16,.I i)],[(32,some ⟨2,[[.I 0,.nilS]],0⟩),(288,some (CK N 16 (Fd (i+1)).length)),(16,some ⟨3,CE (Fd (i+1)),0⟩)],800⟩ ?_ ?_)
  .refine AI ?_
   apply ax [3,6,9,11,16,17] [(32,32),(288,288),(16,16)] [520] 536
   .simp [h7,<- hx]
    rfl
   refine rk (s:=?sd4) [3,6,9,11,16,17,144] [32,288,16] rfl ?od4 ?qd4
   case od4=>simp[hk,hb];rfl
   refine AD _ rfl (λ h8=>?_) λ h8=>?_
   .simp at h8
    rw[if_pos (hd.1 h8)] at q;have h9:∀ f:Ed->List AV,List.take (Fd i).length (List.map f (Fd i))=List.map f (Fd i):=λ f=>Qc zz
    refine Cn rfl ?_;simp[hk,hu];refine Ay (Pr k zy zy) ?_
    simp[h9,hk,hu];refine Ay (Lu u zy zy) ?_
    simp[h9,hk,hu];refine⟨zy,zy,?_⟩
    exact⟨rfl,AN [(32,32),(288,288),(664,16)] [] (by simp[q]) (by simp[q,AB])⟩
   .simp at h8
    rw[if_neg zy] at q
    exact AE (AN [(32,32),(288,288),(16,16)] [] (by simp[q]) (by simp[q,AB]))
  refine Ad ?_;exact⟨i+1,zy,zy,AN [(32,32),(288,288),(16,16)] [] (by simp[hw]) zw⟩
 simp at h7;obtain rfl:i=G.edges.length:=zy
 rw[FdN];refine Aa (Ab (rk (s:=?sz) [6,7] [32,16] rfl ?oz ?qz))
 case oz=>simp;rfl
 exact BG (AG.out [] [16] rfl zz zz (by simp[hN,AB,CI]) zz)
instance (g:Gr) (lv f t:Int):Decidable (L2 g lv f t):=by unfold L2;infer_instance
theorem Nd {a:List Int} {n:Int} (h:∀ k∈a,0<=k/\k<n):Bh (Az a) 0 (n - 1):=by
 intro i hi;have hm:=ID.1 (Qi hi);have:=h _ hm.1;refine⟨zy,zy,λ hp=>?_⟩
 exact(QD.1 (JM a)) (i - 1) i zy hi zy
theorem Kh (a:List Int):(Az a).length<=64:=QI (QO ..) zz
theorem cF (g:Gr) (p:BV) (aA:List Int) (hg:Ah g) (hs:p.seeds.length<=64) (q:aA.length<=64):(DW g p (BB g p) aA).length<=1000:=by
 rw[OL];have h1:=Fx _ (Jv (BB g p)) p.seeds;have h2:=Fx _ (KY (BB g p)) (List.range (BB g p).length);have h3:=Fx _ (Kl (BB g p)) aA;have h4:=Fx _ (J8 (BB g p)) (Ao g p.lv).edges;have h5:(Ao g p.lv).edges.length<=g.edges.length:=QO ..;have h6:=hg.edges_le;have h7:=hg.1.2.1;have h8:=hg.1.1;rw[Uz] at h2;have h9:(BB g p).length=g.size.toNat:=F4;simp only[Qe];omega
variable {g:Gr}
def Bb (g:Gr):Nat:=(2+2*g.size).toNat
theorem Lq (hg:Ah g):((Bb g:Nat):Int)=2+2*g.size:=by unfold Bb;have:=hg.1.1;omega
abbrev A7 (g:Gr) (p:BV) (ks:List Int):List Ed:=DW g p (BB g p) ks
def B6 (g:Gr) (p:BV) (ks:List Int):Prop:=Cv (Bb g) (A7 g p ks)=ks.length
theorem K5 {p:BV} {ks:List Int} (hg:Ah g) (hp:CG g.size p) (hk:∀ x∈ks,0<=x/\x<g.size):ED (Bb g) (A7 g p ks):=XQ hg hp hk
theorem Oe {p:BV} {ks:List Int} (hg:Ah g) (hp:CG g.size p) (hk:∀ x∈ks,0<=x/\x<g.size) (hs:p.seeds.length<=64) (u:ks.length<=64):C3 ⟨Bb g,A7 g p ks⟩:=by
 have h1:=K5 hg hp hk;have h2:(A7 g p ks).length<=1000:=cF g p ks hg hs u;have h3:=hg.1.2.1;have hN:=Lq hg;have h0:=hg.1.1
 have q:∀ i:Nat,(BB g p).getD i 0<=1000:=λ i=>by
  rw[Qf]
  cases h:(BB g p)[i]? with
  | none=>simp
  | some v =>
    have hm:=Ud h;unfold BB at hm;obtain⟨d,_,rfl⟩:=Qm.1 hm;exact(PJ hp d).2
 refine⟨by simp only;omega,by simp only;omega,by simp only;omega,λ a ha=>?_⟩
 obtain⟨q1,q2,q3,q4,q5,q6,q7,q8⟩:=h1.arc a ha;refine⟨q1,by simp only;omega,q3,by simp only;omega,q5,q6,q7,q8,?_⟩
 simp only[A7,DW] at ha;rcases Qn.1 ha with ha | ha
 .rcases Qn.1 ha with ha | ha
  .rcases Qn.1 ha with ha | ha
   .obtain ⟨x,hx,rfl⟩:=Qm.1 ha
    have:=q x.toNat;simp only;omega
   .obtain ⟨i,hx,rfl⟩:=Qm.1 ha
    have:=q i;simp only;omega
  .obtain ⟨x,hx,rfl⟩:=Qm.1 ha
   simp
 .obtain ⟨e,hx,rfl⟩:=Qm.1 ha
  simp
variable {l:List Int}
def Bz:List Int->Int->Nat
 | [],_=>0
 | x::l,k=>if x<k then Bz l k+1 else 0
def DG (l:List Int) (k:Int):List Int:=if l[Bz l k]? = some k then l else l.take (Bz l k)++k::l.drop (Bz l k)
theorem Mp:∀ (l:List Int) (k:Int),Bz l k<=l.length
 | [],_=>Qg _
 | x::l,k=>by unfold Bz;have:=Mp l k;split<;>simp<;>omega
theorem Mo:∀ {l:List Int} {k:Int} {i:Nat} (h:i<l.length),i<Bz l k->l[i]<k
 | x::l,k,0,_,h=>by
   unfold Bz at h;split at h
   .simpa
   .omega
 | x::l,k,i+1,hi,h=>by
   unfold Bz at h;split at h
   .simpa using Mo (l:=l) (by simpa using hi) zy
   .omega
theorem Oq:∀ {l:List Int} {k:Int} (h:Bz l k<l.length),¬ l[Bz l k]<k
 | x::l,k,h=>by
   by_cases hx:x<k
   .have e:Bz (x::l) k=Bz l k+1:=by simp[Bz,hx]
    simp only[e,List.getElem_cons_succ];exact Oq (by rw[e] at h;simpa using h)
   .have e:Bz (x::l) k=0:=by simp[Bz,hx]
    simp only[e,List.getElem_cons_zero];exact hx
theorem XN {k:Int} {i:Nat} (hi:i<=l.length) (h1:∀ j (h:j<l.length),j<i->l[j]<k) (h2:∀ h:i<l.length,¬ l[i]<k):Bz l k=i:=by
 rcases Nat.lt_trichotomy (Bz l k) i with h | h | h
 .exact absurd (h1 _ zy h) (Oq zy)
 .exact h
 .have hl:=Mp l k
  exact absurd (Mo zy h) (h2 zy)
theorem Wi {k x:Int}:x∈DG l k↔x∈l∨x=k:=by
 unfold DG;split
 .rename_i h
  constructor
  .exact .inl
  .rintro (h1 | rfl)
   .exact h1
   .exact Ud h
 .rw [Qn,Qv]
  conv=>rhs;rw[<- QL (Bz l k) l,Qn]
  constructor
  .rintro (h | rfl | h)
   .exact .inl (.inl h)
   .exact .inr rfl
   .exact .inl (.inr h)
  .rintro ((h | h) | rfl)
   .exact .inl h
   .exact .inr (.inr h)
   .exact .inr (.inl rfl)
theorem jQ {k:Int} (h:l.Pairwise (· < ·)):(DG l k).Pairwise (· < ·):=by
 unfold DG;split
 .exact h
 .rename_i q
  have hd:∀ y∈l.drop (Bz l k),k<y:=by
   intro y hy;obtain⟨i,hi,rfl⟩:=UO hy;rw[QV] at hi;rw[Ve];have h0:Bz l k<l.length:=zy
   have h1:=Oq h0;have h2:l[Bz l k]≠k:=λ e=>q (by rw[Qa h0,e])
   rcases Q8 i with rfl | hp
   .simp only[Uk];omega
   .have:=(QD.1 h) (Bz l k) (Bz l k+i) h0 zy zy
    omega
  have ht:∀ y∈l.take (Bz l k),y<k:=by
   intro y hy;obtain⟨i,hi,rfl⟩:=UO hy;rw[QB] at hi;rw[Uv];exact Mo zy zy
  rw[UB,QY];refine⟨h.sublist (List.take_sublist ..),⟨hd,h.sublist (List.drop_sublist ..)⟩,λ x hx y hy=>?_⟩;rcases Qv.1 hy with rfl | hy
  .exact ht x hx
  .have:=ht x hx;have:=hd y hy;omega
theorem XZ {n:Int} (h:l.Pairwise (· < ·)) (hr:∀ k∈l,0<=k/\k<n):Bh l 0 (n - 1):=by
 intro i hi;have:=hr _ (Qi hi);refine⟨zy,zy,λ hp=>?_⟩
 exact(QD.1 h) (i - 1) i zy hi zy
theorem bT (l:List Int) (k:Int) (hl:l.length<=1000000):AK 114 [AA l,.I k] [] (.rs 0 0 (DG l k).length) [some ⟨1,AH (DG l k),0⟩]:=by
 refine YD.s.ai ?_;refine rs [0,1] [] [] ?_;refine rs [0,1,5] [] [] ?_;refine Bn (ι:=Nat) (λ i=>⟨45,[(0,AA l),(1,.I k),(5,.I i)],[],200⟩) (λ i=>i=Bz l k) ?_ λ i u=>?_
 .refine AI (Ag (ι:=Nat) (λ i=>⟨45,[(0,AA l),(1,.I k),(5,.I i)],[],32⟩) (λ i=>i<=l.length /\ ∀ j (h:j<l.length),j<i->l[j]<k) (λ i=>l.length - i) 0 zz (BT [] []) ?_)
  rintro i ⟨hi,hp⟩
  refine AC (arc ⟨45,[(0,AA l),(1,.I k),(5,.I i),(17,.B (decide (∃ h:i<l.length,l[i]<k)))],[],200⟩ ?_ ?_)
  .by_cases h1:i<l.length
   .simp [h1]
    exact AM [] zz
   .have h0:¬ ∃ h:i<l.length,l[i]<k:=λ ⟨h,_⟩=>h1 h
    rw[QE h0];simp[h1];exact AM [] zz
  refine AD _ rfl (λ h2=>?_) λ h2=>?_
  .rw [Qb] at h2
   obtain⟨h1,h2⟩:=h2;have hw:=w6 (x:=(i:Int)+1);refine AE (AI (Ad ?_));refine⟨i+1,⟨h1,λ j hj h6=>?_⟩,zy,AN [] [] (by simp[hw])⟩
   rcases QN.1 h6 with h | rfl
   .exact hp j hj h
   .exact h2
  .rw [Qd] at h2
   exact Aa (Ab ⟨i,(XN hi hp λ h h3=>h2 ⟨h,h3⟩).symm,BT [] []⟩)
 have h4:=Mp l k;rw[<- u] at h4;refine AC (arc ⟨45,[(0,AA l),(1,.I k),(5,.I i),(31,.B (decide (l[i]? = some k)))],[],400⟩ ?_ ?_)
 .by_cases h1:i<l.length
  .simp [h1]
   exact AM [] (by simp;exact An zt)
  .have h0:¬ l[i]? = some k:=by rw[QT zy];simp
   rw[QE h0];simp[h1];exact AM [] zz
 refine AD _ rfl (λ h2=>?_) λ h2=>?_
 .rw [Qb] at h2
  have q:DG l k=l:=by unfold DG;rw[<- u,if_pos h2]
  rw[q];refine rk (s:=?s6) [4] [408] rfl ?o6 ?q6
  case o6=>simp;refine⟨zy,zy,?_⟩;rfl
  exact CD [408] []
 rw[Qd] at h2;have q:DG l k=l.take i++k::l.drop i:=by unfold DG;rw[<- u,if_neg h2]
 have hpl:(DG l k).length=l.length+1:=by rw[q];simp;omega
 have h5:(DG l k).length=i+1+(l.length - i):=zy
 refine AE (BM ⟨45,[(4,.rs 480 0 (DG l k).length)],[(480,some ⟨1,AH (DG l k),0⟩)],600⟩ ?_ ?_)
 .simp [h4]
  refine⟨zy,zy,zy,zy,zy,zy,rfl,AN [(480,480)] [] (by simp[h5]) (by simp[q,AB,Qc,h4])⟩
 exact CD [480] []
theorem Tj (L:List Int):AK 8 [AA L] [] (.B (decide (L.length<=400))) []:=by
 refine tX.s.ac ?_;show AQ _ 0 _ _ ⟨6,[(0,AA L)],[],16⟩;refine rs [0] [] [] ?_;refine rs [2] [] [] ?_;exact BG (AG.one (by simp;exact An (by rw[Qk];simp;omega)))
theorem dB (n m:Int) (hm:m<=9223372036854775807):AK 55 [.I n,.I m] [] (.I (D3 n m)) []:=by
 refine vB.s.ac ?_;show AQ _ 0 _ _ ⟨8,[(0,.I n),(1,.I m)],[],16⟩;refine rs [0,1] [] [] ?_;refine rx (s:=?s2) [4] [] [] rfl ?o2 ?q2
 case o2=>simp;refine AT (SE n m hm) zz ?_;simp;rfl
 exact Bv
variable {o:List Int}
theorem Kn:∀ {a b:List Int},a.Pairwise (· < ·)->b.Pairwise (· < ·)->(∀ x,x∈a↔x∈b)->a=b
 | [],[],_,_,_=>rfl
 | [],y::b,_,_,h=>by have:=(h y).2 zz;cases this
 | x::a,[],_,_,h=>by have:=(h x).1 zz;cases this
 | x::a,y::b,ha,hb,h=>by
   have q:=QY.1 ha;have u:=QY.1 hb
   have h0:x=y:=by
    have h1:=(h x).1 zz
    have h2:=(h y).2 zz
    rcases Qv.1 h1 with e | e
    .exact e
    .rcases Qv.1 h2 with e2 | e2
     .exact e2.symm
     .have:=u.1 x e
      have:=q.1 y e2;omega
   subst h0
   congr 1
   refine Kn q.2 u.2 λ z=>⟨λ hz=>?_,λ hz=>?_⟩
   .rcases Qv.1 ((h z).1 (Qo _ hz)) with rfl | e
    .have:=q.1 z hz;omega
    .exact e
   .rcases Qv.1 ((h z).2 (Qo _ hz)) with rfl | e
    .have:=u.1 z hz;omega
    .exact e
theorem WE {a:List Int} {k:Int} (h0:0<=k) (h1:k<64):DG (Az a) k=Az (a++[k]):=by
 refine Kn (jQ (JM a)) (JM _) λ x=>?_;rw[Wi,ID,ID,Qn,Qw];constructor
 .rintro (h | rfl)
  .exact ⟨.inl h.1,h.2⟩
  .exact ⟨.inr rfl,h0,h1⟩
 .rintro ⟨h | h,h2⟩
  .exact .inl ⟨h,h2⟩
  .exact .inr h
open Classical in
def Ai (g:Gr) (p:BV) (o:List Int):List Int:=o.foldl (λ acc k=>if B6 g p (Az (acc++[k])) then acc++[k] else acc) []
variable {g:Gr} {p:BV}
theorem MJ:Ai g p []=[]:=rfl
open Classical in
theorem IB {o:List Int} {k:Int} (h:B6 g p (Az (Ai g p o++[k]))):Ai g p (o++[k])=Ai g p o++[k]:=by
 have h2:Ai g p (o++[k])=if B6 g p (Az (Ai g p o++[k])) then Ai g p o++[k] else Ai g p o:=by unfold Ai;rw[U1];rfl
 rw[h2,if_pos h]
open Classical in
theorem Jc {o:List Int} {k:Int} (h:¬ B6 g p (Az (Ai g p o++[k]))):Ai g p (o++[k])=Ai g p o:=by
 have h2:Ai g p (o++[k])=if B6 g p (Az (Ai g p o++[k])) then Ai g p o++[k] else Ai g p o:=by unfold Ai;rw[U1];rfl
 rw[h2,if_neg h]
theorem Tl (o:List Int) (k:Int):Ai g p (o++[k])=Ai g p o∨Ai g p (o++[k])=Ai g p o++[k]:=by
 by_cases h:B6 g p (Az (Ai g p o++[k]))
 .exact .inr (IB h)
 .exact .inl (Jc h)
theorem Hi:∀ (n:Nat) (o:List Int),o.length=n->(Ai g p o).Sublist o
 | 0,o,h=>by
   obtain rfl:=Qy h;exact List.nil_sublist _
 | n+1,o,h=>by
   have q:o≠[]:=λ e=>by rw[e] at h;cases h
   rw[<- List.dropLast_concat_getLast q];have ih:=Hi n o.dropLast (by rw[List.length_dropLast,h];rfl)
   rcases Tl (g:=g) (p:=p) o.dropLast (o.getLast q) with e | e
   .rw [e];exact ih.trans (List.sublist_append_left _ _)
   .rw [e];exact ih.append (List.Sublist.refl _)
theorem J1 {x:Int} (h:x∈Ai g p o):x∈o:=(Hi _ o rfl).subset h
theorem PI (o:List Int):(Ai g p o).length<=o.length:=(Hi _ o rfl).length_le
open Classical in
def FM (N:Nat) (A:List Ed):List Int:=((List.range N).map λ k:Nat=>(k:Int)).filter λ k=>decide (∀ S:Int->Bool,S 0=true->S 1=false->Bj S A=Cv N A->S k=true)
theorem Ti {N:Nat} {A:List Ed} {f D:List Int} {by_:Int->Bd} (hn:ED N A) (hf:BY N A f) (hm:∀ f',BY N A f'->Al A f'<=Al A f) (ht:JE A f D by_) (h0:(0:Int)∈D) (h1:(1:Int)∉D) (hc:HP A f D) :
  ((List.range N).map λ k:Nat=>(k:Int)).filter (λ k=>decide (k∈D))=FM N A:=by
 unfold FM;refine List.filter_congr λ k _=>?_;rw[UZ];have q:=I9 hf hm;constructor
 .intro hk S s0 s1 hS
  exact VB hn hf ht s0 s1 (hS.trans q) k hk
 .intro h
  have:=h (λ x=>decide (x∈D)) (by simpa using h0) (by simpa using h1) (by rw[q];exact(KN hn hf h0 h1 hc).1.symm)
  simpa using this
open Classical in
def EO (g:Gr) (p:BV) (o:List Int):List Int × List (Int × List Int) :=
 o.foldl (λ s k=>if B6 g p (Az (s.1++[k])) then (s.1++[k],s.2) else (s.1,s.2++[(k,FM (Bb g) (A7 g p (Az (s.1++[k]))))])) ([],[])
def DD (g:Gr) (p:BV) (o:List Int):List (Int × List Int):=(EO g p o).2
open Classical in
theorem MX (o:List Int) (k:Int):EO g p (o++[k])=if B6 g p (Az ((EO g p o).1++[k])) then ((EO g p o).1++[k],(EO g p o).2) else ((EO g p o).1,(EO g p o).2++[(k,FM (Bb g) (A7 g p (Az ((EO g p o).1++[k]))))]):=by
 unfold EO;rw[U1];rfl
theorem NR:∀ (n:Nat) (o:List Int),o.length=n->(EO g p o).1=Ai g p o
 | 0,o,h=>by
   obtain rfl:=Qy h;rfl
 | n+1,o,h=>by
   have q:o≠[]:=λ e=>by rw[e] at h;cases h
   rw[<- List.dropLast_concat_getLast q];have ih:=NR n o.dropLast (by rw[List.length_dropLast,h];rfl)
   rw[MX,ih];split
   .rename_i h1
    rw[IB h1]
   .rename_i h1
    rw[Jc h1]
theorem No {k:Int} (h:B6 g p (Az (Ai g p o++[k]))):DD g p (o++[k])=DD g p o:=by
 unfold DD;rw[MX,NR _ o rfl,if_pos h]
theorem OT {k:Int} (h:¬ B6 g p (Az (Ai g p o++[k]))):DD g p (o++[k])=DD g p o++[(k,FM (Bb g) (A7 g p (Az (Ai g p o++[k]))))]:=by
 unfold DD;rw[MX,NR _ o rfl,if_neg h]
structure P7 (g:Gr) (p:BV) (acc:List Int) (k:Int) (side:List Int):Prop where
 no:¬ B6 g p (Az (acc++[k]))
 ok:MF ⟨Bb g,A7 g p (Az (acc++[k]))⟩ side
 cut:Ex (A7 g p (Az (acc++[k]))) side=Cv (Bb g) (A7 g p (Az (acc++[k])))
 len:side.length<=130
 eq:side=FM (Bb g) (A7 g p (Az (acc++[k])))
structure Fh (g:Gr) (p:BV) (o:List Int) (R:List (Int × List Int)):Prop where
 all:∀ i (h:i<o.length),o[i]∉Ai g p (o.take (i+1)) -> ∃ side,(o[i],side)∈R
 right:∀ r∈R,∃ i,∃ h:i<o.length,o[i]=r.1/\P7 g p (Ai g p (o.take i)) r.1 r.2
 len:R.length<=o.length
 eq:R=DD g p o
theorem Fh.nil:Fh g p [] []:=⟨λ i h=>absurd h (U6 _),(λ r h=>nomatch h),Qg _,rfl⟩
theorem Fh.yes {k:Int} {R:List (Int × List Int)} (hr:Fh g p o R) (h:B6 g p (Az (Ai g p o++[k]))):Fh g p (o++[k]) R:=by
 refine⟨λ i hi hn=>?_,λ r u=>?_,QI hr.len zz,by rw[No h];exact hr.eq⟩
 .rw [Qe,Q6] at hi
  by_cases q:i<o.length
  .rw [Q1 q] at hn ⊢
   rw[Uf zy] at hn
   exact hr.all i q hn
  .obtain rfl:i=o.length:=zy
   refine absurd ?_ hn;rw[Qc zz,IB h]
   simp
 .obtain ⟨i,hi,h1,h2⟩:=hr.right r u
  refine⟨i,zu,by rw[Q1 hi];exact h1,?_⟩
  rw[Uf zy]
  exact h2
theorem Fh.no {k:Int} {R:List (Int × List Int)} {side:List Int} (hr:Fh g p o R) (h:P7 g p (Ai g p o) k side):Fh g p (o++[k]) (R++[(k,side)]):=by
 refine⟨λ i hi hn=>?_,λ r u=>?_,by have:=hr.len;simp;omega,by rw[OT h.no,<- hr.eq,<- h.eq]⟩
 .rw [Qe,Q6] at hi
  by_cases q:i<o.length
  .rw [Q1 q] at hn ⊢
   rw[Uf zy] at hn
   obtain⟨s,hs⟩:=hr.all i q hn;exact⟨s,Q2 _ hs⟩
  .obtain rfl:i=o.length:=zy
   exact⟨side,zz⟩
 .rcases Qn.1 u with h3 | h3
  .obtain ⟨i,hi,h1,h2⟩:=hr.right r h3
   refine⟨i,zu,by rw[Q1 hi];exact h1,?_⟩
   rw[Uf zy]
   exact h2
  .rw [Qw] at h3
   subst h3;refine⟨o.length,zz,zz,?_⟩
   rw[Uf (Qg _),QP];exact h
theorem P0 (side:List Int):∀ A:List Ed,Ex A side=Bj (λ x=>decide (x∈side)) A
 | []=>rfl
 | e::A=>by
   have h1:Ex (e::A) side=(if e.f∈side/\e.t∉side then e.v else 0)+Ex A side:=by simp[Ex]
   have h2:Bj (λ x=>decide (x∈side)) (e::A)=(if decide (e.f∈side)=true/\decide (e.t∈side)=false then e.v else 0)+Bj (λ x=>decide (x∈side)) A:=rfl
   rw[h1,h2,P0 side A];simp
theorem CV.last {A:List Ed}:∀ {l:List Nat} {u w:Int},CV A u l w->(u::CA A l)[l.length]? = some w
 | [],u,w,h=>by
   have:u=w:=h;simp[CA,this]
 | i::l,u,w,h=>by
   have:=CV.last h.2.2
   simpa [CA] using this
structure Gl (N:Nat) (A:List Ed) (f:List Int):Prop where
 len:f.length=A.length
 nonneg:∀ i,0<=f.getD i 0
 bal:∀ x:Int,2<=x->x<N->Co A f x=0
variable {N:Nat} {A:List Ed} {f g:List Int}
theorem BY.balF (h:BY N A f):Gl N A f:=by
 have hf:=Gd.1 h.fit;refine⟨hf.1,λ i=>?_,λ x h2 h3=>?_⟩
 .by_cases hi:i<A.length
  .exact (hf.2 i hi).1
  .rw [Qf,QT (by rw[hf.1];omega)]
   exact Vb _
 .have:=h.bal x.toNat zy zy
  rw[Int.toNat_of_nonneg zy] at this
  unfold Co;omega
theorem Gq.balF (hf:Gl N A f) {l:List Nat} (h:Gq A f g l 1):Gl N A g/\Co A g 0=Co A f 0 - 1:=by
 refine⟨⟨h.len,h.nonneg,λ x h2 h3=>?_⟩,?_⟩
 .rw [h.ex x,hf.bal x h2 h3,if_neg zy,if_neg zy]
  rfl
 .rw [h.ex 0,if_pos rfl,if_neg zx]
  omega
structure Jf (N:Nat) (A:List Ed) (f g:List Int) (W:List (List Nat)):Prop where
 bal:Gl N A g
 ex:Co A g 0=Co A f 0 - W.length
 ways:∀ w∈W,CV A 0 w 1/\(CA A w).Nodup
 used:∀ i,g.getD i 0+(C1 (List.count i) W:Int)<=f.getD i 0
theorem Jf.nil (hf:Gl N A f):Jf N A f f []:=⟨hf,zz,zz,λ i=>by simp[C1]⟩
theorem Jf.more {g':List Int} {W:List (List Nat)} {l:List Nat} (h:Jf N A f g W) (hl:Gq A g g' l 1):Jf N A f g' (W++[l]):=by
 obtain⟨b1,b2⟩:=hl.balF h.bal;refine⟨b1,by rw[b2,h.ex,Qe,Q6];omega,λ w hw=>?_,λ i=>?_⟩
 .rcases Qn.1 hw with hw | hw
  .exact h.ways w hw
  .rw [Qw] at hw
   subst hw;exact⟨hl.way,(Ur.1 hl.met).2⟩
 .have h1:=h.used i
  have h2:=hl.used i;have h3:C1 (List.count i) (W++[l])=C1 (List.count i) W+l.count i:=by unfold C1;simp
  rw[h3];omega
theorem L5 (S:Int->Bool):∀ A:List Ed,Bj S A=(A.map λ e=>if S e.f=true/\S e.t=false then e.v else 0).sum
 | []=>rfl
 | e::A=>by
   have ih:=L5 S A;unfold Bj at ih ⊢;simp only[List.map_cons,As,UR];rw[ih]
theorem LW {α:Type} {h:α->Int}:∀ {l:List α},(∀ x∈l,h x=0)->(l.map h).sum=0
 | [],_=>rfl
 | x::l,hx=>by
   rw[List.map_cons,UR,hx x (Qp ..),LW λ y hy=>hx y (Qo _ hy)];rfl
theorem Pm {α:Type} {h:α->Int}:∀ {l:List α},(∀ x∈l,h x<=1)->(l.map h).sum<=l.length
 | [],_=>Vb _
 | x::l,hx=>by
   have ih:=Pm (l:=l) λ y hy=>hx y (Qo _ hy);have h1:=hx x (Qp ..);rw[List.map_cons,UR,QZ];omega
theorem Oo {g:Gr} {p:BV} {ks:List Int} (hg:Ah g) (hp:CG g.size p) (hk:∀ x∈ks,0<=x/\x<g.size):Cv (Bb g) (A7 g p ks)<=ks.length:=by
 have q:=K5 hg hp hk;obtain⟨f,hf,hv⟩:=RO q;rw[<- hv];refine Int.le_trans (JV (S:=λ x=>decide (x≠1)) q hf zz zz) ?_
 rw[L5];simp only[A7,DW,List.map_append,List.sum_append,Un];have u:=Mj hg p.lv;rw[LW,LW,LW (l:=(Ao g p.lv).edges.filter _)]
 .have h1:=Pm (h:=(λ e:Ed=>if (decide (e.f≠1))=true/\(decide (e.t≠1))=false then e.v else 0)∘λ x:Int=>(⟨2+2*x,1,1⟩:Ed)) (l:=ks.filter λ x=>decide (0<(BB g p).getD x.toNat 0)) λ x _=>by
   simp only[Function.comp];split<;>omega
  have h2:=QO (λ x=>decide (0<(BB g p).getD x.toNat 0)) ks;omega
 .intro e he
  have:=u.2 e (QA.1 he).1;simp only[Function.comp];rw[if_neg];simp;omega
 .intro i _
  simp only[Function.comp];rw[if_neg];simp;omega
 .intro x _
  simp only[Function.comp];rw[if_neg];simp;omega
theorem eA {N:Nat} {A:List Ed} {f:List Int} (hn:ED N A):Co A f 0=Al A f:=by
 unfold Co Al;rw[M8 hn];omega
variable {a:List Int}
section
variable {N:Nat} {A:List Ed} {f:List Int}
theorem Yo (hn:ED N A) {s:Bd} (hs:s.1<A.length):0<=A0 A s/\A0 A s<N:=by
 have:=hn.arc _ (HX hs);unfold A0;split<;>omega
theorem C6.grow (hn:ED N A):∀ (n:Nat) (D b:List Int),C6 N A f D b->N - D.length<=n -> ∃ D' b',C6 N A f D' b'/\HP A f D'
 | n,D,b,h,hl=>by
   by_cases hc:HP A f D
   .exact ⟨D,b,h,hc⟩
   .unfold HP at hc
    obtain⟨s,hs⟩:=Classical.not_forall.1 hc;obtain⟨h1,hs⟩:=Classical.not_imp.1 hs;obtain⟨h2,hs⟩:=Classical.not_imp.1 hs;obtain⟨h3,h4⟩:=Classical.not_imp.1 hs;have hr:=Yo hn h1;have hp:=h.push h1 h2 h3 h4 hr.1 hr.2;have hf:=hp.few;rw[Qe,Q6] at hf
    match n,hl with
    | 0,hl=>omega
    | n+1,hl=>exact C6.grow hn n _ _ hp (by rw[Qe,Q6];omega)
theorem Rl (hn:ED N A) {D b:List Int} (q:BY N A f) (u:∀ f',BY N A f'->Al A f'<=Al A f) (hb:C6 N A f D b):(1:Int)∉D:=λ hm=>by
 obtain⟨l,hl⟩:=hb.chain hm
 have h1:=hl.push hn q (v:=1) zy λ s hs=>by
  obtain⟨i,hi,rfl⟩:=Qr.1 hs;have:=(hl.at_ i hi).2.1;omega
 have h2:=u _ h1.1;omega
theorem Xx (hn:ED N A) {S:Int->Bool} (h0:S 0=true) (h1:S 1=false):Cv N A<=Bj S A:=by
 obtain⟨f,hf,hv⟩:=RO hn;rw[<- hv];exact JV hn hf h0 h1
theorem Yb (hn:ED N A):∃ X:Int->Bool,X 0=true/\X 1=false/\Bj X A=Cv N A /\ ∀ S:Int->Bool,S 0=true->S 1=false->Bj S A=Cv N A -> ∀ x,X x=true->S x=true:=by
 obtain⟨f,hf,hm⟩:=Nv hn;obtain⟨D,b,hb,hc⟩:=C6.grow hn N [0] _ (C6.start (f:=f) (by have:=hn.two;omega)) zy
 have h1:=Rl hn hf hm hb;have q:=I9 hf hm;refine⟨λ x=>decide (x∈D),by simpa using hb.mem0,by simpa using h1,?_,λ S s0 s1 hS x hx=>?_⟩
 .rw [q]
  exact(KN hn hf hb.mem0 h1 hc).1.symm
 .exact VB hn hf hb.tree s0 s1 (hS.trans q) x (by simpa using hx)
end
def Jx (g:Gr) (p:BV) (S:Int->Bool):Int:=Bj S (A7 g p [])
def E6 (S:Int->Bool) (ks:List Int):Int:=(ks.map λ k=>if S (2+2*k)=true then 1 else 0).sum
variable {g:Gr} {p:BV}
def Ow (g:Gr) (p:BV) (k:Int):Prop:=0<(BB g p).getD k.toNat 0
theorem Su {S:Int->Bool} (h1:S 1=false) {ks:List Int} (hk:∀ k∈ks,Ow g p k):Bj S (A7 g p ks)=Jx g p S+E6 S ks:=by
 have hf:ks.filter (λ x=>decide (0<(BB g p).getD x.toNat 0))=ks:=List.filter_eq_self.2 λ x hx=>Q7 (hk x hx);unfold Jx E6;simp only[L5,A7,DW,List.map_append,List.sum_append,Un,hf]
 have e:((λ e:Ed=>if S e.f=true/\S e.t=false then e.v else 0)∘λ x:Int=>(⟨2+2*x,1,1⟩:Ed))=λ k=>if S (2+2*k)=true then 1 else 0:=by
  funext k
  simp only[Function.comp,h1,and_true]
 rw[e];simp only[List.filter_nil,UT,List.sum_nil];omega
theorem RR (S:Int->Bool):∀ ks:List Int,E6 S ks<=ks.length
 | []=>Vb _
 | k::ks=>by
   have ih:=RR S ks;unfold E6 at ih ⊢;simp only[List.map_cons,UR,QZ];split<;>omega
theorem Xr (S:Int->Bool) (a b:List Int):E6 S (a++b)=E6 S a+E6 S b:=by simp[E6]
theorem gI (S:Int->Bool) {b:List Int} (h:a.Perm b):E6 S a=E6 S b:=by
 unfold E6
 induction h with
 | nil=>rfl
 | cons x _ ih=>simp only[List.map_cons,UR,ih]
 | swap x y l=>simp only[List.map_cons,UR];omega
 | trans _ _ ih1 ih2=>exact ih1.trans ih2
structure D0 (g:Gr) (p:BV) (ks:List Int):Prop where
 rng:∀ x∈ks,0<=x/\x<g.size
 reach:∀ x∈ks,Ow g p x
theorem D0.sub {b:List Int} (h:D0 g p b) (hs:∀ x∈a,x∈b):D0 g p a:=⟨λ x hx=>h.rng x (hs x hx),λ x hx=>h.reach x (hs x hx)⟩
theorem D0.nil:D0 g p []:=⟨λ _ h=>(Ue h).elim,λ _ h=>(Ue h).elim⟩
theorem D0.append {b:List Int} (h:D0 g p a) (h':D0 g p b):D0 g p (a++b) :=
 ⟨λ x hx=>(Qn.1 hx).elim (h.rng x) (h'.rng x),λ x hx=>(Qn.1 hx).elim (h.reach x) (h'.reach x)⟩
theorem Kt (hg:Ah g) (hp:CG g.size p) {ks:List Int} (hk:D0 g p ks):B6 g p ks ↔ ∀ S:Int->Bool,S 0=true->S 1=false->(ks.length:Int)<=Jx g p S+E6 S ks:=by
 have hn:=K5 hg hp hk.rng;unfold B6;constructor
 .intro h S h0 h1
  rw[<- Su h1 hk.reach,<- h];exact Xx hn h0 h1
 .intro h
  obtain⟨X,h0,h1,hc,_⟩:=Yb hn;have h2:=h X h0 h1;rw[<- Su h1 hk.reach,hc] at h2;have h3:=Oo (p:=p) hg hp hk.rng;omega
theorem B6.perm (hg:Ah g) (hp:CG g.size p) {b:List Int} (ha:D0 g p a) (h:B6 g p a) (hp':a.Perm b):B6 g p b:=by
 have hb:D0 g p b:=ha.sub λ x hx=>hp'.mem_iff.2 hx;rw[Kt hg hp hb];rw[Kt hg hp ha] at h;intro S h0 h1;rw[<- gI S hp',<- hp'.length_eq];exact h S h0 h1
theorem B6.left (hg:Ah g) (hp:CG g.size p) {b:List Int} (hk:D0 g p (a++b)) (h:B6 g p (a++b)):B6 g p a:=by
 have ha:D0 g p a:=hk.sub λ x hx=>Q2 _ hx;rw[Kt hg hp ha];rw[Kt hg hp hk] at h;intro S h0 h1;have:=h S h0 h1;rw[Xr,Qe] at this;have:=RR S b;omega
theorem B6.sublist (hg:Ah g) (hp:CG g.size p) {b:List Int} (hk:D0 g p b) (h:B6 g p b) (hs:a.Sublist b):B6 g p a:=by
 obtain⟨c,hc⟩:∃ c,(a++c).Perm b:=by
  induction hs with
  | slnil=>exact⟨[],.refl _⟩
  | cons x hs ih =>
    obtain⟨c,hc⟩:=ih (hk.sub λ y hy=>Qo _ hy) (by
     have h2:B6 g p (_++[x]):=h.perm hg hp hk (List.perm_append_comm (l₁:=[x]))
     exact h2.left hg hp (hk.sub λ y hy=>by simpa [or_comm] using hy))
    exact⟨x::c,List.perm_middle.trans (hc.cons x)⟩
  | cons_cons x hs ih =>
    obtain⟨c,hc⟩:=ih (hk.sub λ y hy=>Qo _ hy) (by
     have h2:B6 g p (_++[x]):=h.perm hg hp hk (List.perm_append_comm (l₁:=[x]))
     exact h2.left hg hp (hk.sub λ y hy=>by simpa [or_comm] using hy))
    exact⟨c,hc.cons x⟩
 exact(h.perm hg hp hk hc.symm).left hg hp (hk.sub λ x hx=>hc.mem_iff.1 hx)
theorem B6.nil (hg:Ah g) (hp:CG g.size p):B6 g p []:=by
 have h1:=Oo (p:=p) (ks:=[]) hg hp zz
 have hn:=K5 (p:=p) (ks:=[]) hg hp zz
 have h2:=Wd hn (LV hn)
 have h3:Al (A7 g p []) ((A7 g p []).map λ _=>0)=0:=by
  unfold Al B9
  have:∀ A:List Ed,As (λ e v=>if e.f=0 then v else 0) A (A.map λ _=>0)=0:=by
   intro A
   induction A with
   | nil=>rfl
   | cons e A ih=>simp only[List.map_cons,As,ih];split<;>rfl
  exact this _
 unfold B6;simp at h1 ⊢;omega
variable {g:Gr} {S:List Int} {key:Int}
abbrev Gu (l:List Bool):List (List AV):=l.map λ b=>[AV.B b]
variable {g:Gr} {S:List Int} {key:Int}
variable {m:Nat}
section
variable {P:Program} {np id:Nat} {h:Nat->Option AX} {K:AV->List Nat->List (Nat × Option AX)->Prop}
theorem N2 {s i off len:Nat} (l:Nat) {e:AX} (he:h i=some e) (hs:e.s=s) (hl:l<=len) (hK:K (.rs i (off+l) (len - l)) [i] []):aK P np id (.slc s true false false) [.rs i off len,.sc (.int .i64 l)] h K:=by
 rw[GS];exact⟨l,len,0,len,rfl,hl,rfl,zz,zz,zz,Qg _,rfl,⟨e,he,hs⟩,hK⟩
end
structure I1 where
 D:List Int
 b:List Int
 Z:List Int
 off:Nat
 q:Nat
variable {s:I1}
structure DS (N:Nat) (A:List Ed) (f:List Int) (s:I1) (m:Nat):Prop where
 bfs:C6 N A f s.D s.b
 z:s.off+s.q=s.Z.length
 d:m+s.q=s.D.length
 same:s.Z.drop s.off=s.D.drop m
section
variable {N:Nat} {A:List Ed} {f:List Int}
theorem bB {i:Nat} {k:Int} {D b:List Int} (hi:i<A.length) (hf:i<f.length):C2 A f k (i,false) (D,b)=if A[i].f=k/\f[i]<A[i].v/\A[i].t∉D then (D++[A[i].t],b.set A[i].t.toNat ((i:Int)+1)) else (D,b):=by
 have he:AR A i=A[i]:=by unfold AR;rw[Qf,Qa hi,QH]
 have hg:f.getD i 0=f[i]:=by rw[Qf,Qa hf,QH]
 unfold C2 CY A0 B5 CM;simp only[Uh,Uu,he,hg,Int.sub_pos]
theorem fJ {i:Nat} {k:Int} {D b:List Int} (hi:i<A.length) (hf:i<f.length):C2 A f k (i,true) (D,b)=if A[i].t=k/\0<f[i]/\A[i].f∉D then (D++[A[i].f],b.set A[i].f.toNat (-((i:Int)+1))) else (D,b):=by
 have he:AR A i=A[i]:=by unfold AR;rw[Qf,Qa hi,QH]
 have hg:f.getD i 0=f[i]:=by rw[Qf,Qa hf,QH]
 unfold C2 CY A0 B5 CM;simp only[UQ,he,hg]
theorem DS.more (h:DS N A f s m) {x:Int} {b':List Int} (hb:C6 N A f (s.D++[x]) b'):DS N A f ⟨s.D++[x],b',s.Z.drop s.off++[x],0,s.q+1⟩ m:=by
 have h1:=h.z;have h2:=h.d;refine⟨hb,?_,?_,?_⟩
 .simp only[Qe,QV,Q6];omega
 .simp only[Qe,Q6];omega
 .simp only[List.drop_zero]
  rw[h.same,List.drop_append_of_le_length zy]
theorem DS.pop (h:DS N A f s m) (hq:0<s.q):DS N A f { s with off:=s.off+1,q:=s.q - 1 } (m+1):=by
 have h1:=h.z;have h2:=h.d;refine⟨h.bfs,by simp only;omega,by simp only;omega,?_⟩
 simp only;rw[<- List.drop_drop,h.same,List.drop_drop]
theorem DS.head (h:DS N A f s m) (hq:0<s.q):∃ hm:m<s.D.length,s.Z[s.off]? = some s.D[m]:=by
 have h1:=h.z;have h2:=h.d;refine⟨zy,?_⟩
 have e:(s.Z.drop s.off)[0]? = (s.D.drop m)[0]?:=by rw[h.same]
 rw[Ub,Ub,Uk,Uk] at e;rw[e,Qa zy]
end
theorem SI (N:Nat) (A:List Ed) (f:List Int) (hn:C3 ⟨N,A⟩) (hf:f.length=A.length) :
  ∃ x:List Int × List Int,(C6 N A f x.1 x.2/\HP A f x.1)/\AK 169 [eN ⟨N,A⟩,AA f] [] (.rs 0 0 N) [some ⟨1,AH x.2,0⟩]:=by
 refine qV.s.acallsX (args:=[eN ⟨N,A⟩,AA f]) (hs:=[]) (λ x=>.rs 0 0 N) (λ x=>[some ⟨1,AH x.2,0⟩]) (λ x:List Int × List Int=>C6 N A f x.1 x.2/\HP A f x.1) (AW rfl) (AW rfl) (λ _=>zz) ?_
 show AQ _ 0 _ _ ⟨112,[(0,eN ⟨N,A⟩),(1,AA f)],[],16⟩;obtain⟨ag,ai,am,a5⟩:=hn;simp only at ag ai am a5;refine rs [1,2] [] [16] ?_;apply ax [1,2,5] [(48,48)] [] 56
 .simp
  refine⟨zy,zy,?_⟩
  rfl
 apply ax [1,2,5,6] [(48,48),(72,80)] [] 88
 .simp
  refine⟨zy,?_⟩
  rfl
 have an:=ZP (N:=N) zy
 refine arc ⟨112,[(1,AA f),(2,.pv (nC ⟨N,A⟩)),(5,.rs 48 0 N),(6,.rs 80 0 N)],[(48,some ⟨1,AH (List.replicate N 0),0⟩),(80,some ⟨1,Gu (Dw N [0]),0⟩)],112⟩ ?_ ?_
 .have h0:0<N:=zy
  simp[h0,AZ];exact AN [(48,48),(80,80)] [] zz (by simp[<- an])
 refine BP ⟨112,[(1,AA f),(2,.pv (nC ⟨N,A⟩)),(5,.rs 48 0 N),(6,.rs 80 0 N),(7,.rs 120 0 1)],[(48,some ⟨1,AH (List.replicate N 0),0⟩),(80,some ⟨1,Gu (Dw N [0]),0⟩),(120,some ⟨1,AH [0],0⟩)],136⟩ [(48,48),(80,80),(112,120)] [] ?_;refine AC (AI ?_)
 refine Ag (ι:=I1 × Nat) (λ s=>⟨112,[(1,AA f),(2,.pv (nC ⟨N,A⟩)),(5,.rs 48 0 N),(6,.rs 80 0 N),(7,.rs 120 s.1.off s.1.q)],[(48,some ⟨1,AH s.1.b,0⟩),(80,some ⟨1,Gu (Dw N s.1.D),0⟩),(120,some ⟨1,AH s.1.Z,0⟩)],136⟩)
  (λ s=>DS N A f s.1 s.2/\Hs A f s.1.D s.2) (λ s=>N - s.2) (⟨[0],List.replicate N 0,[0],0,1⟩,0)
  ⟨⟨C6.start zy,rfl,rfl,rfl⟩,λ s _ h=>by simp at h⟩ (BT [(48,48),(80,80),(120,120)] []) ?_
 rintro⟨s,m⟩ ⟨hb,hl⟩
 simp only at hb hl;have b5:=hb.bfs.few;have b7:=hb.d;have b8:=hb.z;refine AC (rk (s:=?s6) [1,2,5,6,7,22] [48,80,120] rfl ?o6 ?q6)
 case o6=>simp;rfl
 refine AD _ rfl (λ h7=>?_) λ h7=>?_
 .simp at h7
  obtain⟨ho,hk⟩:=hb.head h7;have b6:s.off<s.Z.length:=zy
  obtain⟨k,a1⟩:=AL (s.D[m]);rw[<- a1] at hk;have aq:k∈s.D:=a1 ▸ Qi ho;refine AE (AI (rk (s:=?s8) [1,2,5,6,7,8] [48,80,120] rfl ?o8 ?q8))
  case o8=>simp[hk,h7];rfl
  apply ax [1,2,5,6,7,8] [(48,48),(80,80),(120,120)] [] 300
  .simp
   refine N2 1 (i:=120) rfl rfl h7 ?_;simp;rfl
  have a6:=hb.pop h7;refine rk (s:=?s10) [1,2,5,6,7,8,9] [48,80,120] rfl ?o10 ?q10
  case o10=>simp;rfl
  refine AI ?_
  refine Ag (ι:=I1 × Nat) (λ s=>⟨112,[(1,AA f),(2,.pv (nC ⟨N,A⟩)),(5,.rs 48 0 N),(6,.rs 80 0 N),(7,.rs 120 s.1.off s.1.q),(8,.I k),(9,.I s.2)],[(48,some ⟨1,AH s.1.b,0⟩),(80,some ⟨1,Gu (Dw N s.1.D),0⟩),(120,some ⟨1,AH s.1.Z,0⟩)],400⟩)
   (λ t=>DS N A f t.1 (m+1)/\t.2<=A.length/\Hr A f t.1.D k t.2 /\ ∃ l,t.1.D=s.D++l) (λ t=>A.length - t.2) ({ s with off:=s.off+1,q:=s.q - 1 },0)
   ⟨a6,Qh _,λ s h=>zy,[],zz⟩ (BT [(48,48),(80,80),(120,120)] []) ?_
  rintro⟨t,i⟩ ⟨ht,hi,hq,l,hr⟩
  simp only at ht hi hq hr;refine AC (rk (s:=?s11) [1,2,5,6,7,8,9,32] [48,80,120] rfl ?o11 ?q11)
  case o11=>simp;rfl
  refine AD _ rfl (λ h2=>?_) λ h2=>?_
  .simp at h2
   have h8:i<f.length:=zy
   have hw:=w6 (x:=(i:Int)+1);have au:=w6 (x:=-((i:Int)+1));obtain⟨e,he⟩:=AL (A[i]);obtain⟨v,hv⟩:=AL (f[i]);have hd:=λ (D b:List Int)=>bB (k:=k) (D:=D) (b:=b) h2 h8;have a0:=λ (D b:List Int)=>fJ (k:=k) (D:=D) (b:=b) h2 h8;rw[<- he,<- hv] at hd a0;have a7:=a5 _ (Qi h2);rw[<- he] at a7;obtain⟨e1,e2,e3,e4,_⟩:=a7;have hx:A[i]? = some e:=by rw[Qa h2,he]
   have hz:f[i]? = some v:=by rw[Qa h8,hv]
   have a8:k∈t.D:=by rw[hr];exact Q2 _ aq
   refine AE ?_
   refine Bn (ι:=I1) (λ u=>⟨112,[(1,AA f),(2,.pv (nC ⟨N,A⟩)),(5,.rs 48 0 N),(6,.rs 80 0 N),(7,.rs 120 u.off u.q),(8,.I k),(9,.I i)],[(48,some ⟨1,AH u.b,0⟩),(80,some ⟨1,Gu (Dw N u.D),0⟩),(120,some ⟨1,AH u.Z,0⟩)],2000⟩)
    (λ u=>DS N A f u (m+1)/\Hr A f u.D k (i+1) /\ ∃ l,u.D=t.D++l) ?_ λ u hu=>?_
   .refine AI (arc ⟨112,[(1,AA f),(2,.pv (nC ⟨N,A⟩)),(5,.rs 48 0 N),(6,.rs 80 0 N),(7,.rs 120 t.off t.q),(8,.I k),(9,.I i),(10,.pv (eC e))],[(48,some ⟨1,AH t.b,0⟩),(80,some ⟨1,Gu (Dw N t.D),0⟩),(120,some ⟨1,AH t.Z,0⟩)],600⟩ ?_ ?_)
    .simp [h2,<- he]
     exact BT [(48,48),(80,80),(120,120)] [480]
    refine Bn (ι:=I1) (λ u=>⟨112,[(1,AA f),(2,.pv (nC ⟨N,A⟩)),(5,.rs 48 0 N),(6,.rs 80 0 N),(7,.rs 120 u.off u.q),(8,.I k),(9,.I i),(10,.pv (eC e))],[(48,some ⟨1,AH u.b,0⟩),(80,some ⟨1,Gu (Dw N u.D),0⟩),(120,some ⟨1,AH u.Z,0⟩)],1000⟩)
     (λ u=>DS N A f u (m+1)/\(u.D,u.b)=C2 A f k (i,false) (t.D,t.b)) ?_ λ u hu=>?_
    .have h4:(Dw N t.D)[e.t.toNat]? = some (decide (e.t∈t.D)):=K4 e3 zy
     have av:e.t.toNat<N:=zy
     have h1:e.t<(N:Int):=zy
     refine BM ⟨112,[(1,AA f),(2,.pv (nC ⟨N,A⟩)),(5,.rs 48 0 N),(6,.rs 80 0 N),(7,.rs 120 t.off t.q),(8,.I k),(9,.I i),(10,.pv (eC e)),(60,.B (decide (e.f=k/\v<e.v/\e.t∉t.D)))],[(48,some ⟨1,AH t.b,0⟩),(80,some ⟨1,Gu (Dw N t.D),0⟩),(120,some ⟨1,AH t.Z,0⟩)],800⟩ ?_ ?_
     .by_cases hm:e.t∈t.D
      .rw [Q7 hm] at h4
       simp
       repeat' first
        | (refine BK (λ hb=>?_) (λ hb=>?_)<;>(try rw[hb])<;>(try simp at hb)<;>simp[hb,h4,hz,e3,h1,h8,<- hv])
       all_goals exact⟨rfl,AN [(48,48),(80,80),(120,120)] [] (by simp[hb,hm])⟩
      .rw [QE hm] at h4
       simp
       repeat' first
        | (refine BK (λ hb=>?_) (λ hb=>?_)<;>(try rw[hb])<;>(try simp at hb)<;>simp[hb,h4,hz,e3,h1,h8,<- hv])
       all_goals exact⟨rfl,AN [(48,48),(80,80),(120,120)] [] (by simp[hm])⟩
     refine AD _ rfl (λ h5=>?_) λ h5=>?_
     .rw [Qb] at h5
      have ha:=hd t.D t.b;rw[if_pos h5] at ha;have b0:∃ y,t.b[e.t.toNat]? = some y:=⟨_,Qa (by rw[ht.bfs.len];omega)⟩
      obtain⟨y,hy⟩:=b0;have bb:e.t.toNat<t.b.length:=by rw[ht.bfs.len];omega
      have a2:∀ g:Int->List AV,List.take t.q (List.drop t.off (List.map g t.Z))=List.map g (t.Z.drop t.off):=λ g=>by rw[<- US,Qc (by have:=ht.z;simp;omega)]
      have b1:=ht.z;have b2:=ht.d;have a3:=N5 (D:=t.D) e3 h1
      have hg:C6 N A f (t.D++[e.t]) (t.b.set e.t.toNat ((i:Int)+1)):=by
       have h3:=VU (A:=A) (f:=f) (k:=k) (s:=(i,false)) (st:=(t.D,t.b)) ht.bfs a8 h2 (by unfold A0 AR;rw[Qf,hx];exact e3) (by unfold A0 AR;rw[Qf,hx];exact h1)
       rw[ha] at h3;exact h3
      have a4:=hg.few;rw[Qe,Q6] at a4;refine BM ⟨112,[(1,AA f),(2,.pv (nC ⟨N,A⟩)),(5,.rs 48 0 N),(6,.rs 80 0 N),(7,.rs 120 t.off t.q),(8,.I k),(9,.I i),(10,.pv (eC e))],[(48,some ⟨1,AH (t.b.set e.t.toNat ((i:Int)+1)),0⟩),(80,some ⟨1,Gu (Dw N (t.D++[e.t])),0⟩),(120,some ⟨1,AH t.Z,0⟩)],900⟩ ?_ ?_
      .simp [h4,e3,h1,hw,hy,AZ]
       exact⟨rfl,AN [(48,48),(80,80),(120,120)] [] zz (by simp[<- a3,AB])⟩
      refine AU rfl ?_;simp[a2];exact⟨zy,zy,zy,⟨t.D++[e.t],t.b.set e.t.toNat ((i:Int)+1),t.Z.drop t.off++[e.t],0,t.q+1⟩,⟨ht.more hg,ha.symm⟩,B4 [(48,48),(80,80),(932,120)] []⟩
     .rw [Qd] at h5
      have ha:=hd t.D t.b;rw[if_neg h5] at ha;exact AE ⟨t,⟨ht,ha.symm⟩,BT [(48,48),(80,80),(120,120)] []⟩
    obtain⟨h6,hh⟩:=hu
    have b3:k∈u.D:=by
     obtain⟨l1,e1⟩:=Lg (A:=A) (f:=f) (k:=k) (s:=(i,false)) (st:=(t.D,t.b));rw[<- hh] at e1;simp only at e1;rw[e1];exact Q2 _ a8
    have a9:∃ l,u.D=t.D++l:=by
     obtain⟨l1,e1⟩:=Lg (A:=A) (f:=f) (k:=k) (s:=(i,false)) (st:=(t.D,t.b));rw[<- hh] at e1;exact⟨l1,e1⟩
    have h9:Hr A f (C2 A f k (i,true) (u.D,u.b)).1 k (i+1):=by
     rw[hh];exact Hr.try2 (st:=(t.D,t.b)) hq
    have h4:(Dw N u.D)[e.f.toNat]? = some (decide (e.f∈u.D)):=K4 e1 zy
    have av:e.f.toNat<N:=zy
    have h1:e.f<(N:Int):=zy
    have hj:=a0 u.D u.b;refine arc ⟨112,[(1,AA f),(2,.pv (nC ⟨N,A⟩)),(5,.rs 48 0 N),(6,.rs 80 0 N),(7,.rs 120 u.off u.q),(8,.I k),(9,.I i),(10,.pv (eC e)),(94,.B (decide (e.t=k/\0<v/\e.f∉u.D)))],[(48,some ⟨1,AH u.b,0⟩),(80,some ⟨1,Gu (Dw N u.D),0⟩),(120,some ⟨1,AH u.Z,0⟩)],1200⟩ ?_ ?_
    .by_cases hm:e.f∈u.D
     .rw [Q7 hm] at h4
      simp
      repeat' first
       | (refine BK (λ hb=>?_) (λ hb=>?_)<;>(try rw[hb])<;>(try simp at hb)<;>simp[hb,h4,hz,e1,h1,h8,<- hv])
      all_goals exact AN [(48,48),(80,80),(120,120)] [] (by simp[hb,hm])
     .rw [QE hm] at h4
      simp
      repeat' first
       | (refine BK (λ hb=>?_) (λ hb=>?_)<;>(try rw[hb])<;>(try simp at hb)<;>simp[hb,h4,hz,e1,h1,h8,<- hv])
      all_goals exact AN [(48,48),(80,80),(120,120)] [] (by simp[hm])
    refine AD _ rfl (λ h5=>?_) λ h5=>?_
    .rw [Qb] at h5
     rw[if_pos h5] at hj;obtain⟨y,hy⟩:∃ y,u.b[e.f.toNat]? = some y:=⟨_,Qa (by rw[h6.bfs.len];omega)⟩
     have a2:∀ g:Int->List AV,List.take u.q (List.drop u.off (List.map g u.Z))=List.map g (u.Z.drop u.off):=λ g=>by rw[<- US,Qc (by have:=h6.z;simp;omega)]
     have b1:=h6.z;have b2:=h6.d;have a3:=N5 (D:=u.D) e1 h1
     have hg:C6 N A f (u.D++[e.f]) (u.b.set e.f.toNat (-((i:Int)+1))):=by
      have h3:=VU (A:=A) (f:=f) (k:=k) (s:=(i,true)) (st:=(u.D,u.b)) h6.bfs b3 h2 (by unfold A0 AR;rw[Qf,hx];exact e1) (by unfold A0 AR;rw[Qf,hx];exact h1)
      rw[hj] at h3;exact h3
     have a4:=hg.few;rw[Qe,Q6] at a4;refine BM ⟨112,[(1,AA f),(2,.pv (nC ⟨N,A⟩)),(5,.rs 48 0 N),(6,.rs 80 0 N),(7,.rs 120 u.off u.q),(8,.I k),(9,.I i),(10,.pv (eC e))],[(48,some ⟨1,AH (u.b.set e.f.toNat (-((i:Int)+1))),0⟩),(80,some ⟨1,Gu (Dw N (u.D++[e.f])),0⟩),(120,some ⟨1,AH u.Z,0⟩)],1400⟩ ?_ ?_
     .simp [h4,e1,h1,hw,au,hy,AZ]
      exact⟨rfl,AN [(48,48),(80,80),(120,120)] [] zz (by simp[<- a3,AB])⟩
     refine AU rfl ?_;simp[a2];rw[hj] at h9;refine⟨zy,zy,zy,⟨u.D++[e.f],u.b.set e.f.toNat (-((i:Int)+1)),u.Z.drop u.off++[e.f],0,u.q+1⟩,⟨h6.more hg,h9,?_⟩,B4 [(48,48),(80,80),(1432,120)] []⟩
     obtain⟨l1,e1⟩:=a9;exact⟨l1++[e.f],by simp only[e1,Qq]⟩
    .rw [Qd] at h5
     rw[if_neg h5] at hj;rw[hj] at h9;exact AE ⟨u,⟨h6,h9,a9⟩,BT [(48,48),(80,80),(120,120)] []⟩
   obtain⟨h6,hh,l2,b4⟩:=hu;refine Ad ?_;exact⟨(u,i+1),⟨h6,h2,hh,l++l2,by rw[b4,hr,Qq]⟩,Nat.sub_lt_sub_left h2 (Nat.lt_succ_self i),AN [(48,48),(80,80),(120,120)] [] (by simp[hw])⟩
  simp at h2;obtain rfl:i=A.length:=zy
  refine Aa (Ab ?_);rw[a1] at hq;refine⟨(t,m+1),⟨ht,Hs.next ho hl hq hr⟩,?_,BT [(48,48),(80,80),(120,120)] []⟩
  simp only;omega
 simp at h7;have ho:m=s.D.length:=zy
 refine Aa (Ab (rk (s:=?s23) [4] [48] rfl ?o23 ?q23))
 case o23=>simp;rfl
 exact AO (Af.mk (.inr rfl) (s.D,s.b) ⟨hb.bfs,by rw[ho] at hl;exact hl.all⟩ (AG.out [48] [] rfl zz zz zz zw))
structure bD where
 j:Nat
 v:Int
def Hf (A:List Ed) (f:List Int) (l:List Bd) (j:Nat) (v:Int):Prop:=∀ t∈l.drop j,v<=B5 A f t
theorem Pt (N:Nat) (A:List Ed) (hn:C3 ⟨N,A⟩) :
  ∃ f:List Int,(BY N A f /\ ∀ f',BY N A f'->Al A f'<=Al A f)/\AK 167 [eN ⟨N,A⟩] [] (.tup [.rs 0 0 A.length,.I 0]) [some ⟨1,AH f,0⟩]:=by
 refine sZ.s.acallsX (args:=[eN ⟨N,A⟩]) (hs:=[]) (λ f=>.tup [.rs 0 0 A.length,.I 0]) (λ f=>[some ⟨1,AH f,0⟩]) (λ f:List Int=>BY N A f /\ ∀ f',BY N A f'->Al A f'<=Al A f) (AW rfl) (AW rfl) (λ _=>zz) ?_
 show AQ _ 0 _ _ ⟨112,[(0,eN ⟨N,A⟩)],[],16⟩;have a6:=I0 hn;have ag:=SA ⟨N,A⟩ (by have:=hn.2.2.1;simp only at this ⊢;omega)
 rw[if_pos hn] at ag;have b6:=λ f hf=>SI N A f hn hf;obtain⟨be,bo,bp,aq⟩:=hn;simp only at be bo bp aq;refine rs [1] [] [16] ?_;refine AC (rx (s:=?s2) [1,13] [] [] rfl ?o2 ?q2)
 case o2=>simp;refine AT ag zz ?_;simp;rfl
 refine AD _ rfl (λ h3=>by cases h3) λ h3=>?_
 refine AE (arc ⟨112,[(1,.pv (nC ⟨N,A⟩)),(4,.rs 88 0 A.length)],[(88,some ⟨1,AH (A.map λ _=>0),0⟩)],104⟩ ?_ ?_)
 .simp
  refine⟨zy,zy,?_⟩
  exact AN [(88,88)] [] zz (by simp[List.map_const',AB])
 refine AI (Ag (ι:=List Int) (λ f=>⟨112,[(1,.pv (nC ⟨N,A⟩)),(4,.rs 88 0 A.length)],[(88,some ⟨1,AH f,0⟩)],104⟩) (λ f=>BY N A f) (λ f=>(Bj (λ x=>decide (x=0)) A - Al A f).toNat) (A.map λ _=>0) (LV a6) (B4 [(88,88)] []) ?_);intro f hf;have au:=hf.fit.len;obtain⟨⟨D,b⟩,⟨hb,b7⟩,hz⟩:=b6 f au;simp only at hb b7 hz;have bs:=hb.len;have av:∀ g:Int->List AV,List.take A.length (List.map g f)=List.map g f:=λ g=>Qc zu
 refine AI ?_;apply ax [1,4,5] [(88,88),(120,90)] [] 200
 .simp
  refine KV [88] hz (by simp[AB,av,au]) (.rs _ _ _) OP ?_
  simp;rfl
 obtain⟨y1,b0⟩:∃ y,y=b.getD 1 0:=⟨_,rfl⟩;have bt:b[1]? = some y1:=by rw[b0,Qf,Qa zy,QH]
 refine AC ?_;apply ax [1,4,5,24] [(88,88),(90,90)] [] 300
 .have c0:(1:Int)<N:=zy
  simp[bt,c0];rfl
 have a0:∀ k:Nat,k<N->b[k]? = some (b.getD k 0):=λ k hk=>by rw[Qf,Qa zy,QH]
 refine AD _ rfl (λ h8=>?_) λ h8=>?_
 .simp at h8
  refine ar [2,3] [(88,88)] [] 400 ?_
  have b1:(1:Int)∉D:=λ hm=>by
   have h2:=hb.inn 1 hm zx
   exact h2 (by rw[show b.getD (Int.toNat 1) 0=y1 from b0.symm,h8])
  exact AO (Af.mk (.inr rfl) f ⟨hf,(KN a6 hf hb.mem0 b1 b7).2⟩ (AG.out [88] [] rfl zz zz zz zw))
 simp at h8;have b1:(1:Int)∈D:=UC λ hm=>h8 (by rw[b0];exact hb.out 1 zx hm)
 obtain⟨l,hl⟩:=hb.chain b1;have a7:=OI hl.way;have ai:=Gd.1 hf.fit
 have c1:∀ s∈l,s.1<f.length:=λ s hs=>by
  obtain⟨i,hi,rfl⟩:=Qr.1 hs;have:=(hl.at_ i hi).1;omega
 have c5:0<l.length:=by
  cases c2:l with
  | nil=>rw[c2] at a7;cases a7
  | cons=>simp
 refine AE (ar [1,4,5,6] [(88,88),(90,90)] [] 400 ?_);refine Bn (ι:=Int) (λ v=>⟨112,[(1,.pv (nC ⟨N,A⟩)),(4,.rs 88 0 A.length),(5,.rs 90 0 N),(6,.I v)],[(88,some ⟨1,AH f,0⟩),(90,some ⟨1,AH b,0⟩)],600⟩) (λ v=>1<=v/\v<=1048576/\Hf A f l 0 v) ?_ λ v hv=>?_
 .refine ar [1,4,5,6,7] [(88,88),(90,90)] [] 500 ?_
  refine AI ?_
  refine Ag (ι:=bD) (λ s=>⟨112,[(1,.pv (nC ⟨N,A⟩)),(4,.rs 88 0 A.length),(5,.rs 90 0 N),(6,.I s.v),(7,.I (Ck A 0 l s.j))],[(88,some ⟨1,AH f,0⟩),(90,some ⟨1,AH b,0⟩)],600⟩)
   (λ s=>s.j<=l.length/\1<=s.v/\s.v<=1048576/\Hf A f l s.j s.v) (λ s=>s.j) ⟨l.length,1048576⟩ ⟨Qg _,zz,zz,by simp[Hf]⟩ (AN [(88,88),(90,90)] [] (by simp[a7]) zw) ?_
  rintro⟨j,v⟩ ⟨hj,b2,b3,a1⟩
  simp only at hj b2 b3 a1;refine AC (rk (s:=?s12) [1,4,5,6,7,27] [88,90] rfl ?o12 ?q12)
  case o12=>simp;rfl
  refine AD _ rfl (λ hu=>?_) λ hu=>?_
  .simp at hu
   obtain⟨i,rfl⟩:∃ i,j=i+1:=by
    cases j with
    | zero=>exact absurd rfl hu
    | succ i=>exact⟨i,rfl⟩
   have hi:i<l.length:=zy
   obtain⟨q1,q2,q3,q4,q5,q6⟩:=hl.at_ i hi;have u:=hl.from_ i hi;obtain⟨s,hs⟩:=AL (l[i])
   have hk:Ck A 0 l (i+1)=A0 A s:=by
    show A0 A (l.getD i (0,false))=_;rw[Qf,Qa hi,hs];rfl
   have a8:∀ v':Int,v'<=v->v'<=B5 A f s->Hf A f l i v':=λ v' h1 h2 t ht=>by
    rw[QX hi,<- hs] at ht;rcases Qv.1 ht with rfl | ht
    .exact h2
    .exact Int.le_trans h1 (a1 t ht)
   rw[<- hs] at q1 q2 q3 q4 q5 q6 u;rw[hk];obtain⟨k,b4⟩:=AL (A0 A s);rw[<- b4] at q4 q5 q6 ⊢;have a2:=a0 k.toNat zy
   obtain⟨x,hx⟩:=AL (CM s);rw[q6,<- hx] at a2;refine AE (AI (rk (s:=?s14) [1,4,5,6,8] [88,90] rfl ?o14 ?q14))
   case o14=>simp[a2,q4,q5];rfl
   have b5:=ai.2 s.1 q1;have a3:=aq _ (HX q1);obtain⟨e,he⟩:=AL (AR A s.1);obtain⟨w,hw⟩:=AL (f.getD s.1 0);have h6:A[s.1]? = some e:=by rw[he];unfold AR;rw[Qf,Qa q1,QH]
   have h7:f[s.1]? = some w:=by rw[hw,Qf,Qa zy,QH]
   rw[<- he,<- hw] at b5;rw[<- he] at a3;obtain⟨e1,e2,e3,e4,e5,e6,e7,e8,e9⟩:=a3;obtain⟨a,c⟩:=s;simp only at q1 h6 h7 he hw;have q:a<A.length:=q1;have h9:(0:Int)<=a/\(a:Int)<A.length:=zy
   have h0:a<f.length:=zy
   have ha:A[a]=e:=by rw[Qa q] at h6;exact Qj h6
   have a4:f[a]=w:=by rw[Qa h0] at h7;exact Qj h7
   cases c with
   | false =>
     have hd:CM (a,false)=(a:Int)+1:=rfl;have hg:B5 A f (a,false)=e.v - w:=by unfold B5;simp[he,hw]
     have hh:CY A (a,false)=e.f:=by unfold CY;simp[he]
     rw[hd] at hx;rw[hh] at u;rw[hg] at q2 a8;have h5:IntKind.i64.wrap (x - 1)=(a:Int):=by rw[w6];omega
     have a5:=w6 (x:=e.v - w);refine rk (s:=?s15) [1,4,5,6,8,33] [88,90] rfl ?o15 ?q15
     case o15=>simp;rfl
     refine AD _ rfl (λ h4=>?_) λ h4=>?_
     .refine Cn rfl ?_
      simp[h5,a5,h9,q,h0,ha,a4];refine⟨rfl,⟨i,if e.v - w<v then e.v - w else v⟩,⟨by simp only;omega,by simp only;split<;>omega,by simp only;split<;>omega,a8 (if e.v - w<v then e.v - w else v) (by split<;>omega) (by split<;>omega)⟩,Nat.lt_succ_self i,AN [(88,88),(90,90)] [] (by simp[u]) zw⟩
     .simp at h4
      omega
   | true =>
     have hd:CM (a,true) = -((a:Int)+1):=rfl;have hg:B5 A f (a,true)=w:=by unfold B5;simp[hw]
     have hh:CY A (a,true)=e.t:=by unfold CY;simp[he]
     rw[hd] at hx;rw[hh] at u;rw[hg] at q2 a8;have a9:IntKind.i64.wrap (-x)=(a:Int)+1:=by rw[w6];omega
     have h5:=w6 (x:=(a:Int));refine rk (s:=?s25) [1,4,5,6,8,33] [88,90] rfl ?o25 ?q25
     case o25=>simp;rfl
     refine AD _ rfl (λ h4=>?_) λ h4=>?_
     .simp at h4
      omega
     .refine Cn rfl ?_
      simp[a9,h5,h9,q,h0,ha,a4];refine⟨rfl,⟨i,if w<v then w else v⟩,⟨by simp only;omega,by simp only;split<;>omega,by simp only;split<;>omega,a8 (if w<v then w else v) (by split<;>omega) (by split<;>omega)⟩,Nat.lt_succ_self i,AN [(88,88),(90,90)] [] (by simp[u]) zw⟩
  simp at hu
  obtain rfl:j=0:=by
   cases j with
   | zero=>rfl
   | succ i =>
     have h2:=(hl.at_ i zy).2.2.1
     refine absurd ?_ h2;have h3:Ck A 0 l (i+1)=A0 A (l.getD i (0,false)):=rfl;rw[h3,Qf,Qa zy] at hu
     exact hu
  exact Aa (Ab ⟨v,⟨b2,b3,a1⟩,B4 [(88,88),(90,90)] []⟩)
 obtain⟨b2,b3,a1⟩:=hv;have am:∀ s∈l,v<=B5 A f s:=λ s hs=>a1 s (by simpa using hs)
 obtain⟨b8,bb⟩:=hl.push a6 hf zy am
 have c4:=JV (S:=λ x=>decide (x=0)) a6 b8 zz zz
 refine ar [1,4,5,6,9] [(88,88),(90,90)] [] 700 ?_;refine AI ?_
 refine Ag (ι:=Nat) (λ j=>⟨112,[(1,.pv (nC ⟨N,A⟩)),(4,.rs 88 0 A.length),(5,.rs 90 0 N),(6,.I v),(9,.I (Ck A 0 l j))],[(88,some ⟨1,AH (EF v f l j),0⟩),(90,some ⟨1,AH b,0⟩)],800⟩)
  (λ j=>j<=l.length) (λ j=>j) l.length (Qg _) (AN [(88,88),(90,90)] [] (by simp[a7]) (by simp[AB,Tz])) ?_
 intro j hj;refine AC (arc ⟨112,[(1,.pv (nC ⟨N,A⟩)),(4,.rs 88 0 A.length),(5,.rs 90 0 N),(6,.I v),(9,.I (Ck A 0 l j)),(73,.B (!decide (Ck A 0 l j=0)))],[(88,some ⟨1,AH (EF v f l j),0⟩),(90,some ⟨1,AH b,0⟩)],900⟩ ?_ ?_)
 .simp
  exact AN [(88,88),(90,90)] [] (by simp<;>exact An zt) zw
 refine AD _ rfl (λ hy=>?_) λ hy=>?_
 .simp at hy
  obtain⟨i,rfl⟩:∃ i,j=i+1:=by
   cases j with
   | zero=>exact absurd rfl hy
   | succ i=>exact⟨i,rfl⟩
  have hi:i<l.length:=zy
  obtain⟨q1,q2,q3,q4,q5,q6⟩:=hl.at_ i hi;have u:=hl.from_ i hi;have ho:=TA (v:=v) (f:=f) i hi;have hr:=ST (v:=v) hl.nodup c1 i hi;have hq:=am _ (Qi hi);obtain⟨s,hs⟩:=AL (l[i])
  have hk:Ck A 0 l (i+1)=A0 A s:=by
   show A0 A (l.getD i (0,false))=_;rw[Qf,Qa hi,hs];rfl
  rw[<- hs] at q1 q2 q3 q4 q5 q6 u ho hr hq;rw[hk];obtain⟨k,b4⟩:=AL (A0 A s);rw[<- b4] at q4 q5 q6 ⊢;have a2:=a0 k.toNat zy
  obtain⟨x,hx⟩:=AL (CM s);rw[q6,<- hx] at a2;have c3:(EF v f l (i+1)).length=A.length:=by rw[RT,au]
  obtain⟨F,hF⟩:=AL (EF v f l (i+1));rw[<- hF] at c3 hr ho ⊢;have b5:=ai.2 s.1 q1;have a3:=aq _ (HX q1);obtain⟨e,he⟩:=AL (AR A s.1);obtain⟨w,hw⟩:=AL (f.getD s.1 0);have h6:A[s.1]? = some e:=by rw[he];unfold AR;rw[Qf,Qa q1,QH]
  have h7:F[s.1]? = some w:=by rw[hw,<- hr,Qf,Qa zy,QH]
  rw[<- he,<- hw] at b5;rw[<- he] at a3;obtain⟨e1,e2,e3,e4,e5,e6,e7,e8,e9⟩:=a3;obtain⟨a,c⟩:=s;simp only at q1 h6 h7 he hw;have q:a<A.length:=q1;have h9:(0:Int)<=a/\(a:Int)<A.length:=zy
  have h0:a<F.length:=zy
  have ha:A[a]=e:=by rw[Qa q] at h6;exact Qj h6
  have a4:F[a]=w:=by rw[Qa h0] at h7;exact Qj h7
  have an:EF v f l i=F.set a (w+if c then -v else v):=by rw[ho];unfold FE;simp only[hr];rw[hw]
  refine AE (AI ?_);apply ax [1,4,5,6,10] [(88,88),(90,90)] [] 1000
  .simp [a2,q4,q5]
   rfl
  refine ar [1,4,5,6,10,79] [(88,88),(90,90)] [] 1100 ?_
  cases c with
  | false =>
    have hd:CM (a,false)=(a:Int)+1:=rfl;have hg:B5 A f (a,false)=e.v - w:=by unfold B5;simp[he,hw]
    have hh:CY A (a,false)=e.f:=by unfold CY;simp[he]
    rw[hd] at hx;rw[hh] at u;rw[hg] at hq;have h5:IntKind.i64.wrap (x - 1)=(a:Int):=by rw[w6];omega
    have a5:=w6 (x:=w+v);refine AD _ rfl (λ h4=>?_) λ h4=>?_
    .apply ax [1,4,5,6,10] [(88,88),(90,90)] [] 1300
     .simp [h5,a5,h9,q,h0,ha,a4,AZ]
      rfl
     refine AU rfl ?_;simp[h5,h9,q,ha];exact⟨i,zy,zy,AN [(88,88),(90,90)] [] (by simp[u]) (by simp[AB,an])⟩
    .simp at h4
     omega
  | true =>
    have hd:CM (a,true) = -((a:Int)+1):=rfl;have hg:B5 A f (a,true)=w:=by unfold B5;simp[hw]
    have hh:CY A (a,true)=e.t:=by unfold CY;simp[he]
    rw[hd] at hx;rw[hh] at u;rw[hg] at hq;have a9:IntKind.i64.wrap (-x)=(a:Int)+1:=by rw[w6];omega
    have h5:=w6 (x:=(a:Int));have a5:IntKind.i64.wrap (w - v)=w + -v:=by rw[w6];omega
    refine AD _ rfl (λ h4=>?_) λ h4=>?_
    .simp at h4
     omega
    .apply ax [1,4,5,6,10] [(88,88),(90,90)] [] 1300
     .simp [a9,h5,a5,h9,q,h0,ha,a4,AZ]
      rfl
     refine AU rfl ?_;simp[a9,h5,h9,q,ha];exact⟨i,zy,zy,AN [(88,88),(90,90)] [] (by simp[u]) (by simp[AB,an])⟩
 simp at hy
 obtain rfl:j=0:=by
  cases j with
  | zero=>rfl
  | succ i =>
    have h2:=(hl.at_ i zy).2.2.1
    refine absurd ?_ h2;have h3:Ck A 0 l (i+1)=A0 A (l.getD i (0,false)):=rfl;rw[h3,Qf,Qa zy] at hy
    exact hy
 exact Aa (Ab ⟨EF v f l 0,b8,by rw[bb];omega,B4 [(88,88)] []⟩)
variable {g:Int->Int}
theorem LS {φ:Ed->Int->Int}:∀ {A:List Ed} {f:List Int} (i:Nat) (h1:i<A.length) (h2:i<f.length),As φ (A.take (i+1)) (f.take (i+1))=As φ (A.take i) (f.take i)+φ A[i] f[i]
 | e::A,v::f,0,_,_=>by simp[As]
 | e::A,v::f,i+1,h1,h2=>by
   have:=LS (φ:=φ) (A:=A) (f:=f) i (by simpa using h1) (by simpa using h2)
   simp only[List.take_succ_cons,As,this,List.getElem_cons_succ];omega
def BU (A:List Ed) (f:List Int) (i:Nat) (x:Int):Int:=Fi (A.take i) (f.take i) x - B9 (A.take i) (f.take i) x
variable {N:Nat} {A:List Ed} {f:List Int}
theorem PH (x:Int):BU A f 0 x=0:=by simp[BU,Fi,B9,As]
theorem PE {i:Nat} (h1:i<A.length) (h2:i<f.length) (x:Int):BU A f (i+1) x=BU A f i x+(if A[i].t=x then f[i] else 0) - if A[i].f=x then f[i] else 0:=by
 unfold BU Fi B9;rw[LS i h1 h2,LS i h1 h2];omega
theorem RA (hl:f.length=A.length) (x:Int):BU A f A.length x = - Co A f x:=by
 unfold BU Co;rw[Qc (Qg _),Qc zy]
 omega
theorem OG (hl:f.length=A.length) (hb:∀ j (h:j<f.length),0<=f[j]/\f[j]<=1048576) (x:Int):∀ i,i<=A.length -> -(1048576*(i:Int))<=BU A f i x/\BU A f i x<=1048576*(i:Int)
 | 0,_=>by rw[PH];omega
 | i+1,h=>by
   have ih:=OG hl hb x i zy
   have h2:=hb i zy
   rw[PE zy zy]
   split<;>split<;>omega
theorem VE {i:Nat} (h1:i<A.length) (h2:i<f.length) (x:Int):B9 (A.take (i+1)) (f.take (i+1)) x=B9 (A.take i) (f.take i) x+if A[i].f=x then f[i] else 0:=by
 unfold B9;rw[LS i h1 h2]
theorem Sw (hl:f.length=A.length) (hb:∀ j (h:j<f.length),0<=f[j]/\f[j]<=1048576) (x:Int):∀ i,i<=A.length->0<=B9 (A.take i) (f.take i) x/\B9 (A.take i) (f.take i) x<=1048576*(i:Int)
 | 0,_=>by simp[B9,As]
 | i+1,h=>by
   have ih:=Sw hl hb x i zy
   have h2:=hb i zy
   rw[VE zy zy]
   split<;>omega
def BF (N:Nat) (g:Int->Int):List Int:=(List.range N).map λ k:Nat=>g k
theorem Ih (N:Nat) (g:Int->Int):(BF N g).length=N:=by simp[BF]
theorem IQ {x:Int} (h0:0<=x) (h1:x<N):(BF N g)[x.toNat]? = some (g x):=by
 unfold BF;rw[QG,List.getElem?_range zy]
 simp only[Um,Int.toNat_of_nonneg h0]
theorem MN {x v:Int} (h0:0<=x) (h1:x<N):(BF N g).set x.toNat v=BF N λ y=>if y=x then v else g y:=by
 apply List.ext_getElem?;intro j
 by_cases hj:j<N
 .have e1:=IQ (N:=N) (g:=λ y=>if y=x then v else g y) (x:=(j:Int)) zy zy
  have e2:=IQ (N:=N) (g:=g) (x:=(j:Int)) zy zy
  simp only[Vc] at e1 e2;rw[UA,e1,e2,Ih]
  by_cases hx:x.toNat=j
  .rw [if_pos hx,if_pos zy,if_pos zy]
  .rw [if_neg hx,if_neg zy]
 .rw [QT (by rw[Ux,Ih];omega),QT (by rw[Ih];omega)]
theorem PK {h:Int->Int} (e:∀ x,g x=h x):BF N g=BF N h:=by
 obtain rfl:g=h:=funext e;rfl
theorem Zd (hn:C3 ⟨N,A⟩) (hf:BY N A f):AK 233 [eN ⟨N,A⟩,AA f] [] (.B true) []:=by
 refine tQ.s.ai ?_;have h7:=hf.fit.len;have hd:=Gd.1 hf.fit;have h6:=SA ⟨N,A⟩ (by have:=hn.2.2.1;simp only at this ⊢;omega)
 rw[if_pos hn] at h6;obtain⟨ht,hu,hv,h9⟩:=hn;simp only at ht hu hv h9
 have ha:∀ j (h:j<f.length),0<=f[j]/\f[j]<=(A[j]' zy).v/\(A[j]' zy).v<=1048576:=λ j hj=>by
  have h1:=hd.2 j zy
  have e1:f.getD j 0=f[j]:=by rw[Qf,Qa hj,QH]
  have e2:AR A j=A[j]' zy:=by unfold AR;rw[Qf,Qa zy,QH]
  rw[e1,e2] at h1;exact⟨h1.1,h1.2,(h9 _ (Qi zy)).2.2.2.2.2.2.2.2⟩
 have hx:=OG h7 λ j hj=>⟨(ha j hj).1,by have:=ha j hj;omega⟩
 refine rs [1,2] [] [16] ?_;refine AC (arc ⟨87,[(1,AA f),(2,.pv (nC ⟨N,A⟩)),(18,.B false)],[],120⟩ ?_ ?_)
 .simp
  refine Ay h6 ?_;simp;exact AM [] (by simp<;>exact An (by simp[h7]))
 refine AD _ rfl (λ h3=>by cases h3) λ _=>?_
 refine AE (arc ⟨87,[(1,AA f),(2,.pv (nC ⟨N,A⟩)),(5,.rs 136 0 N)],[(136,some ⟨1,AH (BF N (BU A f 0)),0⟩)],144⟩ ?_ ?_)
 .simp
  refine⟨zy,zy,?_⟩
  have:BF N (BU A f 0)=List.replicate N 0:=by
   unfold BF;simp only[PH];simp[List.map_const']
  rw[this];exact BT [(136,136)] []
 refine AC (BP ⟨87,[(1,AA f),(2,.pv (nC ⟨N,A⟩)),(5,.rs 136 0 N),(6,.I 0)],[(136,some ⟨1,AH (BF N (BU A f 0)),0⟩)],160⟩ [(136,136)] [] ?_);refine AI (Ag (ι:=Nat) (λ i=>⟨87,[(1,AA f),(2,.pv (nC ⟨N,A⟩)),(5,.rs 136 0 N),(6,.I i)],[(136,some ⟨1,AH (BF N (BU A f i)),0⟩)],160⟩) (λ i=>i<=A.length) (λ i=>A.length - i) 0 (Qh _) (B4 [(136,136)] []) ?_);intro i hi;refine AC (BP ⟨87,[(1,AA f),(2,.pv (nC ⟨N,A⟩)),(5,.rs 136 0 N),(6,.I i),(25,.B (decide (i<f.length)))],[(136,some ⟨1,AH (BF N (BU A f i)),0⟩)],192⟩ [(136,136)] [] ?_);refine AD _ rfl (λ h8=>?_) λ h8=>?_
 .simp at h8
  have q:i<A.length:=zy
  have hb:=w6 (x:=(i:Int)+1);obtain⟨b1,b2,b3⟩:=ha i h8;have hg:=h9 _ (Qi q);have u:=PE q h8;have hh:=λ x=>hx x i zy
  obtain⟨e,he⟩:=AL (A[i]);obtain⟨w,hw⟩:=AL (f[i]);rw[<- he,<- hw] at u b2;rw[<- hw] at b1;rw[<- he] at b3 hg;obtain⟨e1,e2,e3,e4,e5,_⟩:=hg;have a5:A[i]? = some e:=by rw[Qa q,he]
  have a6:f[i]? = some w:=by rw[Qa h8,hw]
  have hk:e.f<(N:Int)/\e.t<(N:Int):=zy
  have h1:=hh e.f;have h2:=hh e.t;have hy:=w6 (x:=BU A f i e.f - w);have a0:=w6 (x:=BU A f i e.t+w);have a1:=IQ (N:=N) (g:=BU A f i) (x:=e.f) e1 zy
  have hl:=MN (N:=N) (g:=BU A f i) (x:=e.f) (v:=BU A f i e.f - w) e1 zy
  obtain⟨g1,h0⟩:∃ g1:Int->Int,g1=λ y=>if y=e.f then BU A f i e.f - w else BU A f i y:=⟨_,rfl⟩
  rw[<- h0] at hl;have hm:g1 e.t=BU A f i e.t:=by rw[h0];exact if_neg λ h=>e5 h.symm
  have ho:=IQ (N:=N) (g:=g1) (x:=e.t) e3 zy
  rw[hm] at ho;have hq:=MN (N:=N) (g:=g1) (x:=e.t) (v:=BU A f i e.t+w) e3 zy
  have hs:(BF N λ y=>if y=e.t then BU A f i e.t+w else g1 y)=BF N (BU A f (i+1)):=PK λ x=>by
   rw[u,h0];simp only
   by_cases h3:x=e.t
   .rw [h3,if_pos rfl,if_pos rfl,if_neg e5]
    omega
   .by_cases h4:x=e.f
    .rw [if_neg h3,if_pos h4,if_neg λ h=>h3 h.symm,if_pos h4.symm,h4]
     omega
    .rw [if_neg h3,if_neg h4,if_neg λ h=>h3 h.symm,if_neg λ h=>h4 h.symm]
     omega
  rw[hs] at hq;refine AE (BO ⟨87,[(1,AA f),(2,.pv (nC ⟨N,A⟩)),(5,.rs 136 0 N),(6,.I i)],[(136,some ⟨1,AH (BF N (BU A f (i+1))),0⟩)],1000⟩ ?_ ?_)
  .refine AI (AC (BM ⟨87,[(1,AA f),(2,.pv (nC ⟨N,A⟩)),(5,.rs 136 0 N),(6,.I i),(45,.B false)],[(136,some ⟨1,AH (BF N (BU A f i)),0⟩)],500⟩ ?_ ?_))
   .have a2:¬ w<0:=zy
    have a3:¬ e.v<w:=zy
    simp[q,h8,<- he,<- hw,a2,a3];exact⟨rfl,B4 [(136,136)] []⟩
   refine AD _ rfl (λ h=>by cases h) λ _=>?_
   refine AE (BM ⟨87,[(1,AA f),(2,.pv (nC ⟨N,A⟩)),(5,.rs 136 0 N),(6,.I i)],[(136,some ⟨1,AH (BF N g1),0⟩)],700⟩ ?_ ?_)
   .simp [q,h8,<- he,<- hw,a1,e1,hk,hy,AZ]
    exact⟨rfl,AN [(136,136)] [] zz (by simp[AB,<- hl])⟩
   refine Cn rfl ?_;simp[q,h8,<- he,<- hw,ho,e3,hk,a0,AZ];exact⟨rfl,AN [(136,136)] [] zz (by simp[AB,<- hq])⟩
  refine Ad ?_;exact⟨i+1,zy,zy,AN [(136,136)] [] (by simp[hb]) zw⟩
 simp at h8;obtain rfl:i=A.length:=zy
 refine Aa (Ab (AC (BP ⟨87,[(2,.pv (nC ⟨N,A⟩)),(5,.rs 136 0 N),(7,.I 2)],[(136,some ⟨1,AH (BF N (BU A f A.length)),0⟩)],200⟩ [(136,136)] [] ?_)));refine AI (Ag (ι:=Nat) (λ k=>⟨87,[(2,.pv (nC ⟨N,A⟩)),(5,.rs 136 0 N),(7,.I k)],[(136,some ⟨1,AH (BF N (BU A f A.length)),0⟩)],200⟩) (λ k=>2<=k/\k<=N) (λ k=>N - k) 2 zy (B4 [(136,136)] []) ?_)
 rintro k ⟨a4,a7⟩
 refine AC (BP ⟨87,[(2,.pv (nC ⟨N,A⟩)),(5,.rs 136 0 N),(7,.I k),(79,.B (decide (k<N)))],[(136,some ⟨1,AH (BF N (BU A f A.length)),0⟩)],300⟩ [(136,136)] [] ?_);refine AD _ rfl (λ h5=>?_) λ h5=>?_
 .simp at h5
  have hz:BU A f A.length k=0:=by
   rw[RA h7];have:=hf.bal k a4 h5;unfold Co;omega
  have hr:=IQ (N:=N) (g:=BU A f A.length) (x:=(k:Int)) zy zy
  rw[hz] at hr;simp only[Vc] at hr;have hb:=w6 (x:=(k:Int)+1);refine AE (AC (AI (arc ⟨87,[(2,.pv (nC ⟨N,A⟩)),(5,.rs 136 0 N),(7,.I k),(86,.B false)],[(136,some ⟨1,AH (BF N (BU A f A.length)),0⟩)],400⟩ ?_ ?_)))
  .simp [hr,h5]
   exact B4 [(136,136)] []
  refine AD _ rfl (λ h=>by cases h) λ _=>?_
  refine AE (Ad ?_);exact⟨k+1,zy,zy,AN [(136,136)] [] (by simp[hb]) zw⟩
 simp at h5;refine Aa (Ab (BP ⟨87,[(4,.B true)],[],400⟩ [] [] ?_));exact Bv
theorem ZY (hn:C3 ⟨N,A⟩) (hf:BY N A f):AK 168 [eN ⟨N,A⟩,AA f] [] (.I (Al A f)) []:=by
 refine sE.s.ai ?_;have h0:=Zd hn hf;have h9:=hf.fit.len;have h3:=Gd.1 hf.fit;obtain⟨ha,hd,he,h4⟩:=hn;simp only at ha hd he h4
 have h5:∀ j (h:j<f.length),0<=f[j]/\f[j]<=1048576:=λ j hj=>by
  have h1:=h3.2 j zy
  have e1:f.getD j 0=f[j]:=by rw[Qf,Qa hj,QH]
  have e2:AR A j=A[j]' zy:=by unfold AR;rw[Qf,Qa zy,QH]
  rw[e1,e2] at h1;have h2:=(h4 _ (Qi (show j<A.length by omega))).2.2.2.2.2.2.2.2
  omega
 have hg:=Sw h9 h5 0
 have h6:B9 (A.take A.length) (f.take A.length) 0=Al A f:=by
  unfold Al;rw[Qc (Qg _),Qc zy]
 refine rs [1,2] [] [16] ?_;refine AC (rx (s:=?s2) [1,2,10] [] [] rfl ?o2 ?q2)
 case o2=>simp;refine AT h0 zz ?_;simp;rfl
 refine AD _ rfl (λ h=>by cases h) λ _=>?_
 refine AE (rs [1,2,5] [] [] ?_);refine AC (rs [1,2,5,6] [] [] ?_);refine AI (Ag (ι:=Nat) (λ i=>⟨31,[(1,AA f),(2,.pv (nC ⟨N,A⟩)),(5,.I (B9 (A.take i) (f.take i) 0)),(6,.I i)],[],80⟩) (λ i=>i<=A.length) (λ i=>A.length - i) 0 (Qh _) (AN [] [] (by simp[B9,As]) zz) ?_)
 intro i hi;have hl:=hg i hi;refine AC (rs [1,2,5,6,14] [] [] ?_);refine AD _ rfl (λ h8=>?_) λ h8=>?_
 .simp at h8
  have h7:i<A.length:=zy
  have hh:=w6 (x:=(i:Int)+1);have q:=VE h7 h8 0;have hb:=h5 i h8;refine AE (BO ⟨31,[(1,AA f),(2,.pv (nC ⟨N,A⟩)),(5,.I (B9 (A.take (i+1)) (f.take (i+1)) 0)),(6,.I i)],[],400⟩ ?_ ?_)
  .refine AI (arc ⟨31,[(1,AA f),(2,.pv (nC ⟨N,A⟩)),(5,.I (B9 (A.take i) (f.take i) 0)),(6,.I i),(23,.B (decide (A[i].f=0)))],[],200⟩ ?_ ?_)
   .simp [h7]
    exact AN [] [] (by simp<;>exact An zt)
   refine AD _ rfl (λ u=>?_) λ u=>?_
   .rw [Qb] at u
    rw[if_pos u] at q;have hk:=w6 (x:=B9 (A.take i) (f.take i) 0+f[i]);refine BA (s:=?s9) rfl ?o9 ?q9
    case o9=>simp[h8];rfl
    exact AN [] [] (by simp[q,hk])
   .rw [Qd] at u
    rw[if_neg u,Int.add_zero] at q;exact AE (AN [] [] (by simp[q]))
  refine Ad ?_;exact⟨i+1,zy,zy,AN [] [] (by simp[hh])⟩
 simp at h8;obtain rfl:i=A.length:=zy
 rw[h6];refine Aa (Ab (rs [4] [] [] ?_));exact Bv
structure Jk (g:Gr) (p:BV) (ks f:List Int):Prop where
 ok:BY (Bb g) (A7 g p ks) f
 most:∀ f',BY (Bb g) (A7 g p ks) f'->Al (A7 g p ks) f'<=Al (A7 g p ks) f
 val:Al (A7 g p ks) f=Cv (Bb g) (A7 g p ks)
theorem MZ {ks:List Int} {n:Int} (h:Bh ks 0 (n - 1)):∀ x∈ks,0<=x/\x<n:=λ x hx=>by
 have:=h.nodup.2 x hx;omega
open Classical in
theorem Rm (g:Gr) (p:BV) (ks:List Int) (hg:Ah g) (hp:CG g.size p) (hr:Bh ks 0 (g.size - 1)) (hs:p.seeds.length<=64) (h3:ks.length<=64) :
  ∃ f,Jk g p ks f/\AK 113 [eG g,eP p,AA ks] [] (.tup [eN ⟨Bb g,A7 g p ks⟩,.rs 0 0 (A7 g p ks).length,.B (decide (B6 g p ks))]) [some ⟨1,AH f,0⟩]:=by
 have q:=dW g p ks hg hp hr hs h3;rw[<- Lq hg] at q;have h4:=Oe hg hp (MZ hr) hs h3;obtain⟨f,⟨u,h5⟩,h0⟩:=Pt _ _ h4;have h1:=ZY h4 u;have h6:=I9 u h5;refine⟨f,⟨u,h5,h6.symm⟩,?_⟩;have h7:B6 g p ks↔Al (A7 g p ks) f=ks.length:=by unfold B6;rw[h6]
 have h8:=u.fit.len;obtain⟨A,hA⟩:=AL (A7 g p ks);obtain⟨N,hN⟩:=AL (Bb g);rw[show DW g p (BB g p) ks=A from hA.symm,<- hN] at q
 rw[<- hA,<- hN] at h0 h1;rw[<- hA] at h7 h8 ⊢;rw[<- hN];refine tF.s.ai ?_;have h2:∀ g:Int->List AV,List.take A.length (List.map g f)=List.map g f:=λ g=>Qc zu
 refine rs [2,3,4,6] [32] [16,24] ?_;refine rx (s:=?s2) [2,6,9] [32] [112] rfl ?o2 ?q2
 case o2=>simp;refine AT q zz ?_;simp;rfl
 apply ax [2,6,9,11] [(32,32),(144,33)] [] 300
 .simp
  refine C4 h0 ?_;simp;rfl
 refine BM ⟨33,[(6,.pt 32 0 0),(7,.rs 33 0 A.length),(8,.B (decide (B6 g p ks)))],[(32,some ⟨2,[nC ⟨N,A⟩],0⟩),(33,some ⟨1,AH f,0⟩)],600⟩ ?_ ?_
 .simp
  refine G9 [33] h1 (by simp[AB,h2,h8]) (.sc _) ?_
  simp;exact⟨rfl,AN [(32,32),(33,33)] [] (by simp<;>exact An (by rw[Qk];simp[h7])) zw⟩
 exact CD [33] []
theorem YT (L:List Int) (a:Nat) {l:List Int} (h:0<l.length):KC L a l∈l:=by
 have:=Mu (L:=L) (a:=a) (n:=l.length) zy
 obtain⟨q,hq⟩:∃ q:Nat,(DK L a l.length).1=q:=⟨(DK L a l.length).1.toNat,zy⟩
 have u:q<l.length:=zy
 unfold KC;rw[hq];simp[u]
theorem E5 (L:List Int) (a:Nat) (n:Int) (hl:L.length<=400) (ha:a<=L.length) (h0:0<n) (hn:n<=1000000):∃ (x:Nat) (b:Nat),(b<=L.length/\(x:Int)<n)/\AK 19 [.pt 0 0 0,.I n] [AS L a] (.I x) [some (AS L b)]:=by
 have:=Mu (L:=L) (a:=a) h0;obtain⟨q,hq⟩:∃ q:Nat,(DK L a n).1=q:=⟨(DK L a n).1.toNat,zy⟩
 exact⟨q,_,⟨LU ha,zy⟩,by rw[<- hq];exact MD L a n zy ha zy⟩
theorem FI (L:List Int) (a:Nat) (l:List Int) (hl:L.length<=400) (ha:a<=L.length) (h0:0<l.length) (q:l.length<=100):∃ (x:Int) (b:Nat),(b<=L.length/\x∈l)/\AK 26 [.pt 0 0 0,AA l] [AS L a] (.I x) [some (AS L b)] :=
 ⟨_,_,⟨LU ha,YT L a h0⟩,ZU L a l zy ha h0 zy⟩
theorem Rj (L:List Int) (a:Nat) (n:Int) (hl:L.length<=400) (ha:a<=L.length) (q:0<=n) (hn:n<=1000000):∃ (x:Bool) (b:Nat),b<=L.length/\AK 75 [.pt 0 0 0,.I n] [AS L a] (.B x) [some (AS L b)] :=
 ⟨_,_,LU ha,fZ L a n zy ha q zy⟩
section
variable {P:Program} {np id:Nat} {h:Nat->Option AX} {K:AV->List Nat->List (Nat × Option AX)->Prop} {f:FuncId} {first aB args aC:List AV} {res:AV}
theorem XA {j:Nat} {e ej:AX} (q:np<=j) (hj:h j=some ej) (hc:Cq P f aC [] res [some e]) (he:(first++args++aB).map (conv [] [j] h 4)=aC) (hk:K (conv (Cc [] id) [] (λ _=>none) 4 res) [j] [(id,some (Ak (Cc [] id) [] (λ _=>none) 4 e)),(j,some { ej with ro:=ej.rows.length })]):aK P np id .call (.fn (.func f) first aB::args) h K :=
 ⟨[],[j],true,aC,[],res,[some e],zz,zz,by simpa using q,by rw[UK,he];exact FW _,rfl,hc,zz,.inl rfl,by simpa [Cc,hj] using hk⟩
end
def Cb (D:List Int) (n:Nat):List Int:=((List.range n).map λ k:Nat=>(k:Int)).filter λ k=>decide (k∈D)
theorem Ng (D:List Int) (n:Nat):Cb D (n+1)=Cb D n++if (n:Int)∈D then [(n:Int)] else []:=by
 unfold Cb;rw[List.range_succ,List.map_append,Q3];simp only[List.map_cons,UT,List.filter_cons,List.filter_nil];split<;>simp_all
theorem R6 {D:List Int} {n:Nat} {x:Int}:x∈Cb D n↔(0<=x/\x<n)/\x∈D:=by
 unfold Cb;rw[QA,Qm];constructor
 .rintro ⟨⟨k,hk,rfl⟩,h⟩
  have:=QS.1 hk;exact⟨zy,by simpa using h⟩
 .rintro ⟨h,h2⟩
  exact⟨⟨x.toNat,QS.2 zy,zy⟩,by simpa using h2⟩
theorem W7 (D:List Int) (n:Nat):(Cb D n).Pairwise (· < ·):=by
 unfold Cb;refine List.Pairwise.filter _ ?_;rw[Uw];exact List.pairwise_lt_range.imp λ h=>zy
theorem NJ (D:List Int) (n:Nat):(Cb D n).length<=n:=by
 unfold Cb;refine QI (QO ..) zz
theorem WP (N:Nat) (A:List Ed) (hn:C3 ⟨N,A⟩) :
  ∃ side:List Int,(MF ⟨N,A⟩ side/\Ex A side=Cv N A/\side.length<=130/\side=FM N A)/\AK 115 [eN ⟨N,A⟩] [] (.tup [.rs 0 0 side.length,.I 0]) [some ⟨1,AH side,0⟩]:=by
 have h5:=I0 hn;obtain⟨f,⟨q,h6⟩,hf⟩:=Pt N A hn;have hg:=q.fit.len;obtain⟨⟨D,b⟩,⟨hb,h7⟩,u⟩:=SI N A f hn hg;simp only at hb h7 u
 have h8:(1:Int)∉D:=λ hm=>by
  obtain⟨l,hl⟩:=hb.chain hm
  have h1:=hl.push h5 q (v:=1) zy λ s hs=>by
   obtain⟨i,hi,rfl⟩:=Qr.1 hs;have:=(hl.at_ i hi).2.1;omega
  have h2:=h6 _ h1.1;omega
 have ho:=(KN h5 q hb.mem0 h8 h7).1;have hq:=I9 q h6;have hr:=hn;obtain⟨ht,hu,hv,hw⟩:=hn;simp only at ht hu hv hw
 have h9:∀ x,x∈Cb D N↔x∈D:=λ x=>by
  rw[R6];exact⟨λ h=>h.2,λ h=>⟨hb.rng x h,h⟩⟩
 have ha:MF ⟨N,A⟩ (Cb D N):=⟨hr,XZ (W7 D N) λ k hk=>by have:=(R6.1 hk).1;simp only;omega,(h9 0).2 hb.mem0,λ h=>h8 ((h9 1).1 h)⟩
 have hh:Ex A (Cb D N)=Cv N A:=by
  rw[P0,hq,ho]
  congr 1
  funext x
  exact UZ.2 (h9 x)
 refine⟨Cb D N,⟨ha,hh,QI (NJ D N) zy,Ti h5 q h6 hb.tree hb.mem0 h8 h7⟩,?_⟩
 have hx:=hb.len
 have hz:∀ k:Nat,1<=k->k<N->b[k]? = some (b.getD k 0)/\(b.getD k 0=0↔(k:Int)∉D):=λ k h1 h2=>by
  refine⟨by rw[Qf,Qa zy,QH],λ h hm=>?_,λ h=>?_⟩
  .have:=hb.inn k hm zy
   simp only[Vc] at this;exact this h
  .have:=hb.out k zy h
   simpa using this
 have hd:∀ g:Int->List AV,List.take A.length (List.map g f)=List.map g f:=λ g=>Qc zu
 refine rM.s.ai ?_;refine rs [1] [] [16] ?_;refine arc ⟨37,[(1,.pv (nC ⟨N,A⟩)),(4,.rs 33 0 A.length),(5,.I 0)],[(33,some ⟨1,AH f,0⟩)],100⟩ ?_ ?_
 .simp
  refine C4 hf ?_;simp;exact B4 [(48,33)] []
 refine AC (BP ⟨37,[(1,.pv (nC ⟨N,A⟩)),(4,.rs 33 0 A.length),(15,.B false)],[(33,some ⟨1,AH f,0⟩)],200⟩ [(33,33)] [] ?_);refine AD _ rfl (λ h=>by cases h) λ _=>?_
 refine AE (arc ⟨37,[(1,.pv (nC ⟨N,A⟩)),(6,.rs 34 0 N)],[(34,some ⟨1,AH b,0⟩)],300⟩ ?_ ?_)
 .simp
  refine KV [33] u (by simp[AB,hd,hg]) (.rs _ _ _) OP ?_
  simp;exact B4 [(216,34)] []
 have a0:Cb D 1=[0]:=by
  rw[Ng];have:((0:Nat):Int)∈D:=hb.mem0;rw[if_pos this];rfl
 refine arc ⟨37,[(1,.pv (nC ⟨N,A⟩)),(6,.rs 34 0 N),(7,.rs 35 0 (Cb D 1).length)],[(34,some ⟨1,AH b,0⟩),(35,some ⟨1,AH (Cb D 1),0⟩)],400⟩ ?_ ?_
 .rw [a0]
  simp;exact B4 [(34,34),(300,35)] []
 refine AC (BP ⟨37,[(1,.pv (nC ⟨N,A⟩)),(6,.rs 34 0 N),(7,.rs 35 0 (Cb D 1).length),(8,.I 1)],[(34,some ⟨1,AH b,0⟩),(35,some ⟨1,AH (Cb D 1),0⟩)],500⟩ [(34,34),(35,35)] [] ?_);refine AI (Ag (ι:=Nat) (λ k=>⟨37,[(1,.pv (nC ⟨N,A⟩)),(6,.rs 34 0 N),(7,.rs 35 0 (Cb D k).length),(8,.I k)],[(34,some ⟨1,AH b,0⟩),(35,some ⟨1,AH (Cb D k),0⟩)],500⟩) (λ k=>1<=k/\k<=N) (λ k=>N - k) 1 zy (B4 [(34,34),(35,35)] []) ?_)
 rintro k ⟨a1,a5⟩
 have a2:=NJ D k;refine AC (BP ⟨37,[(1,.pv (nC ⟨N,A⟩)),(6,.rs 34 0 N),(7,.rs 35 0 (Cb D k).length),(8,.I k),(24,.B (decide (k<N)))],[(34,some ⟨1,AH b,0⟩),(35,some ⟨1,AH (Cb D k),0⟩)],600⟩ [(34,34),(35,35)] [] ?_);refine AD _ rfl (λ h0=>?_) λ h0=>?_
 .simp at h0
  obtain⟨hj,he⟩:=hz k a1 h0;obtain⟨y,hy⟩:=AL (b.getD k 0);rw[<- hy] at hj he;have h4:=Ng D k;have a3:=w6 (x:=(k:Int)+1);refine AE (BO ⟨37,[(1,.pv (nC ⟨N,A⟩)),(6,.rs 34 0 N),(7,.rs 35 0 (Cb D (k+1)).length),(8,.I k)],[(34,some ⟨1,AH b,0⟩),(35,some ⟨1,AH (Cb D (k+1)),0⟩)],1000⟩ ?_ ?_)
  .refine AI (arc ⟨37,[(1,.pv (nC ⟨N,A⟩)),(6,.rs 34 0 N),(7,.rs 35 0 (Cb D k).length),(8,.I k),(31,.B (!decide (y=0)))],[(34,some ⟨1,AH b,0⟩),(35,some ⟨1,AH (Cb D k),0⟩)],700⟩ ?_ ?_)
   .simp [hj,h0]
    exact AN [(34,34),(35,35)] [] (by simp<;>exact An zt) zw
   refine AD _ rfl (λ h3=>?_) λ h3=>?_
   .simp at h3
    rw[if_pos (UC λ h=>h3 (he.2 h))] at h4;rw[h4];obtain⟨E,hE⟩:=AL (Cb D k);rw[<- hE] at a2 ⊢;have a4:∀ g:Int->List AV,List.take E.length (List.map g E)=List.map g E:=λ g=>Qc zz
    refine AU rfl ?_;simp[a4];exact⟨zy,zy,B4 [(34,34),(724,35)] []⟩
   .simp at h3
    rw[if_neg (he.1 h3),QK] at h4;rw[h4];exact AE (B4 [(34,34),(35,35)] [])
  refine Ad ?_;exact⟨k+1,zy,zy,AN [(34,34),(35,35)] [] (by simp[a3]) zw⟩
 simp at h0;obtain rfl:k=N:=zy
 refine Aa (Ab (BP ⟨37,[(2,.rs 35 0 (Cb D k).length),(3,.I 0)],[(35,some ⟨1,AH (Cb D k),0⟩)],700⟩ [(35,35)] [] ?_));exact CD [35] []
end Go.Proofs.YtklclphfcibagaaGreat
