/- Texts of this claim,merged. -/
import Derived.Test.YtkngdgplbojdlaaGreatRs3
set_option linter.unusedSimpArgs false
set_option linter.unusedVariables false
set_option linter.unusedSectionVars false
set_option maxRecDepth 100000
set_option maxHeartbeats 8000000
noncomputable section
namespace Go.Proofs.YtkngdgplbojdlaaGreat
open Go
theorem E0 {x:Int} (h1:0<=x) (h2:x<18446744073709551616):IntKind.u64.wrap x=x:=by rw[IntKind.wrap_u64];omega
theorem N9 (n:Nat) (h:n<4294967296):AH .and (.int .u64 (n:Int)) (.int .u64 4294967295)=some (.int .u64 (n:Int)):=by
 have e:(BitVec.ofInt 64 (n:Int) &&& BitVec.ofInt 64 4294967295).toNat=n:=by
  have h1:(BitVec.ofInt 64 (n:Int)).toNat=n:=by
   rw[BitVec.toNat_ofInt];omega
  have h2:(BitVec.ofInt 64 (4294967295:Int)).toNat=2 ^ 32 - 1:=rfl;rw[BitVec.toNat_and,h1,h2,Nat.and_two_pow_sub_one_eq_mod];omega
 show some (Value.int .u64 (IntKind.u64.wrap ((BitVec.ofInt 64 (n:Int) &&& BitVec.ofInt 64 4294967295).toNat:Int)))=_;rw[e,E0 (by omega) (by omega)]
theorem OX (n:Nat) (h:n<4294967296):AH .shr (.int .u64 (n:Int)) (.int .u64 32)=some (.int .u64 0):=by
 show (if (0:Int)<=32 then some (Value.int .u64 ((n:Int).fdiv (2 ^ (min (32:Int).toNat 64)))) else none)=_
 rw[if_pos (by omega)]
 congr 2
 have:(2:Int) ^ (min (32:Int).toNat 64)=4294967296:=rfl;rw[this,QK _ (by omega)]
 omega
abbrev U (n:Int):AV:=.sc (.int .u64 n)
theorem sE (n:Nat) (h:n<4294967296):AcP 166 [U 1,U n] [] (.tup [U 0,U n]) []:=by
 refine RY.s.ai ?_;have a1:AH .and (.int .u64 1) (.int .u64 4294967295)=some (.int .u64 1):=N9 1 (by omega)
 have a0:AH .and (.int .u64 0) (.int .u64 4294967295)=some (.int .u64 0):=N9 0 (by omega)
 have an:=N9 n h;have s1:AH .shr (.int .u64 1) (.int .u64 32)=some (.int .u64 0):=OX 1 (by omega)
 have s0:AH .shr (.int .u64 0) (.int .u64 32)=some (.int .u64 0):=OX 0 (by omega)
 have sn:=OX n h
 have m1:∀ a:Int,AH .mul (.int .u64 0) (.int .u64 a)=some (.int .u64 0):=λ a=>by
  show some (Value.int .u64 (IntKind.u64.wrap (0*a)))=_;rw[Int.zero_mul];rfl
 have m2:AH .mul (.int .u64 1) (.int .u64 (n:Int))=some (.int .u64 (n:Int)):=by
  show some (Value.int .u64 (IntKind.u64.wrap (1*(n:Int))))=_;rw[Int.one_mul,E0 (by omega) (by omega)]
 have m3:AH .mul (.int .u64 1) (.int .u64 0)=some (.int .u64 0):=rfl;have d0:AH .add (.int .u64 0) (.int .u64 0)=some (.int .u64 0):=rfl;refine AC (AX ?_);refine AC (Ag (s:=?z2) rfl ?p2 ?r2)
 case p2=>simp[-AH,a1];rfl
 refine AC (Ag (s:=?z3) rfl ?p3 ?r3)
 case p3=>simp[-AH,s1];rfl
 refine AC (Ag (s:=?z4) rfl ?p4 ?r4)
 case p4=>simp[-AH,an];rfl
 refine AC (Ag (s:=?z5) rfl ?p5 ?r5)
 case p5=>simp[-AH,sn];rfl
 refine AC (Ag (s:=?z6) rfl ?p6 ?r6)
 case p6=>simp[-AH,m2];rfl
 refine AC (Ag (s:=?z7) rfl ?p7 ?r7)
 case p7=>simp[-AH,m1,sn,d0];rfl
 refine AC (Ag (s:=?z8) rfl ?p8 ?r8)
 case p8=>simp[-AH,a0];rfl
 refine AC (Ag (s:=?z9) rfl ?p9 ?r9)
 case p9=>simp[-AH,s0];rfl
 refine AC (Ag (s:=?z10) rfl ?p10 ?r10)
 case p10=>simp[-AH,m3,d0];rfl
 refine AC (Ag (s:=?z11) rfl ?p11 ?r11)
 case p11=>simp[-AH,m1,d0,s0];rfl
 refine AC (Ag (s:=?z12) rfl ?p12 ?r12)
 case p12=>simp[-AH,m2];rfl
 exact B7 [] []
theorem Yd (n:Nat) (h:n<4294967296):AcP 129 [U 1,U n] [] (.tup [U 0,U n]) []:=by
 refine mW.s.ai ?_;refine AC (AX ?_);refine AC (AE _ rfl (λ h=>by cases h) λ _=>AJ ?_)
 refine AC (Ag (s:=?z2) rfl ?p2 ?r2)
 case p2=>simp;refine Aq (sE n h) rfl ?_;simp;rfl
 refine AC (AX ?_);exact B7 [] []
theorem qC (v:Int) (n:Nat) (hn:n<=1000000):AcP 78 [AA [v],.I n] [] (.rs 0 0 n) [some ⟨1,List.replicate n [AV.I v],0⟩]:=by
 refine nU.s.ai ?_;have h1:IntKind.u64.wrap 1=1:=rfl;have h2:IntKind.u64.wrap (n:Int)=n:=E0 (by omega) (by omega)
 have h3:IntKind.i64.wrap (n:Int)=n:=w6;refine AC (AX ?_);refine AC ?_;apply ak [0,1,10] [] 40
 .simp
  rfl
 refine AE _ rfl (λ h=>by cases h) λ _=>AJ ?_
 apply ak [0,1,5,6] [] 128
 .simp [h1,h2]
  refine Aq (Yd n (by omega)) rfl ?_
  simp;rfl
 refine AC (arc ⟨48,[(0,AA [v]),(1,.I n),(5,U 0),(6,U n),(26,.B false)],[],176⟩ ?_ ?_)
 .simp
  exact Le.keep rfl (Qk _) (by simp;omega) (by simp)
 refine AE _ rfl (λ h=>by cases h) λ _=>AJ ?_
 refine arc ⟨48,[(0,AA [v]),(7,.rs 192 0 n)],[(192,some ⟨1,List.replicate n [.I 0],0⟩)],208⟩ ?_ ?_
 .simp [h3]
  exact⟨by omega,by omega,Ek⟩
 let R:Nat->List (List AV):=λ m=>List.replicate m [AV.I v]++List.replicate (n - m) [AV.I 0]
 have h4:∀ m,m<=n->(R m).length=n:=λ m hm=>by simp[R];omega
 refine arc ⟨48,[(7,.rs 192 0 n),(8,.I (min 1 n:Nat))],[(192,some ⟨1,R (min 1 n),0⟩)],240⟩ ?_ ?_
 .simp
  refine Le.keep rfl (Qk _) (by simp) ?_
  cases n with
  | zero=>simp[R]
  | succ n=>simp[R,List.replicate]
 refine AC (AL (Ae (ι:=Nat) (λ m=>⟨48,[(7,.rs 192 0 n),(8,.I m)],[(192,some ⟨1,R m,0⟩)],240⟩) (λ m=>m<=n/\(m=0->n=0)) (λ m=>n - m) (min 1 n) ⟨by omega,by omega⟩ (Le.refl _ _) ?_))
 rintro m ⟨hm,h5⟩
 refine AC ?_;apply ak [7,8,37] [192] 272
 .simp
  rfl
 refine AE _ rfl (λ h=>AJ ?_) λ h=>Aa (hit ?_)
 .simp only[Qd] at h
  obtain⟨k,hk⟩:=AG (min m (n - m));have hw:IntKind.i64.wrap ((m:Int)+(k:Int))=((m+k:Nat):Int):=by rw[w6];omega
  have ht:(R m).take m=List.replicate m [AV.I v]:=by simp[R]
  have hd:(R m).drop (m+k)=List.replicate (n - (m+k)) [AV.I 0]:=by
   simp only[R];rw[List.drop_append,Us (by simp),Q5,List.drop_replicate]
   simp;omega
  have hl:=h4 m hm
  have h0:List.replicate m [AV.I v]++(List.replicate k [AV.I v]++List.replicate (n - (m+k)) [AV.I 0])=R (m+k):=by
   simp only[R];rw[<- Qu,List.replicate_append_replicate]
  refine AL (Cr rfl ?_);generalize R m=X at *;simp[hl,ht];refine⟨by omega,by omega,_,⟨by omega,rfl⟩,rfl,m+k,⟨by omega,by omega⟩,by omega,?_⟩
  have e1:min (List.replicate m (([AV.I v]:List AV))).length (n - m)=k:=by simp[hk]
  rw[e1,hw,hd,List.take_replicate,show min k m=k by omega,h0]
  exact Gh (i:=192) (sn:=[]) rfl rfl (by simp) (by simp) rfl (by simp[R]) (by simp) (by simp)
 obtain rfl:m=n:=by simp at h;omega
 refine AC (AX ?_);exact A9 (AS.out [192] [] rfl (by simp) (by simp) (by simp) (by simp[R]))
variable {k:Int} {n:Nat}
def DO (g:Gr) (S:List Int) (k:Int):Bool:=S.contains k && !g.gone.contains k
def dl (g:Gr) (S:List Int):Nat->Int->Int
 | 0,k=>if DO g S k=true then 0 else -1
 | n+1,k=>if 0<=dl g S n k then dl g S n k else if g.edges.any (λ e=>decide (e.t=k) && decide (dl g S n e.f=n))=true then (n:Int)+1 else -1
def CM (g:Gr) (k:Int):Prop:=0<=k/\k<g.size
variable {g:Gr} {S:List Int}
theorem FC (n:Nat) (k:Int) : -1<=dl g S n k/\dl g S n k<=n:=by
 induction n with
 | zero=>unfold dl;split<;>omega
 | succ n ih=>unfold dl;split<;>(try split)<;>omega
theorem HK (h:0<=dl g S n k):dl g S (n+1) k=dl g S n k:=by
 rw[dl,if_pos h]
theorem P6 {m:Nat} (h0:n<=m) (h:0<=dl g S n k):dl g S m k=dl g S n k:=by
 induction m with
 | zero=>obtain rfl:n=0:=by omega
         rfl
 | succ m ih =>
   rcases Um n (m+1) with h1 | h1
   .have:=ih (by omega)
    rw[HK (by omega),this]
   .obtain rfl:n=m+1:=by omega
    rfl
theorem J7 (h:0<=dl g S (n+1) k) (h2:¬ 0<=dl g S n k):dl g S (n+1) k=n+1 /\ ∃ e∈g.edges,e.t=k/\dl g S n e.f=n:=by
 rw[dl,if_neg h2] at h ⊢;split at h
 .rename_i ha
  rw[if_pos ha];rw[Ui] at ha;obtain⟨e,he,ha⟩:=ha;simp at ha;exact⟨rfl,e,he,ha.1,ha.2⟩
 .omega
theorem O5 (h:0<=dl g S n k):dl g S (dl g S n k).toNat k=dl g S n k:=by
 induction n with
 | zero =>
   have:=FC (g:=g) (S:=S) 0 k;have e:dl g S 0 k=0:=by omega
   rw[e];exact e
 | succ n ih =>
   by_cases h2:0<=dl g S n k
   .rw [HK h2];exact ih h2
   .obtain ⟨e,_⟩:=J7 h h2
    rw[e];have:((n:Int)+1).toNat=n+1:=by omega
    rw[this];exact e
theorem Xk {e:Ed} (he:e∈g.edges) (h:0<=dl g S n e.f):0<=dl g S (n+1) e.t/\dl g S (n+1) e.t<=dl g S n e.f+1:=by
 have h0:=O5 h;have hr:=FC (g:=g) (S:=S) n e.f;obtain⟨m,hm⟩:∃ m:Nat,dl g S n e.f=m:=⟨(dl g S n e.f).toNat,by omega⟩
 rw[hm] at h0 hr ⊢;simp at h0
 have key:0<=dl g S (m+1) e.t/\dl g S (m+1) e.t<=m+1:=by
  have h1:=FC (g:=g) (S:=S) (m+1) e.t;refine⟨?_,by omega⟩
  rw[dl];split
  .assumption
  .rw [if_pos]
   .omega
   .rw [Ui]
    exact⟨e,he,by simp[h0]⟩
 have:=P6 (g:=g) (S:=S) (n:=m+1) (m:=n+1) (by omega) key.1
 rw[this];exact key
theorem zrr (h:AI g) (hn:∀ k,CM g k->dl g S n k≠n):∀ (m:Nat),n<=m -> ∀ k,CM g k->dl g S m k=dl g S n k/\dl g S m k≠m:=by
 intro m
 induction m with
 | zero =>
   intro hm k hk;obtain rfl:n=0:=by omega
   exact⟨rfl,hn k hk⟩
 | succ m ih =>
   intro hm k hk;rcases Um n (m+1) with h1 | h1
   .have ihm:=ih (by omega)
    have e:dl g S (m+1) k=dl g S m k:=by
     by_cases h2:0<=dl g S m k
     .exact HK h2
     .have hr:=FC (g:=g) (S:=S) m k
      by_cases h3:0<=dl g S (m+1) k
      .obtain ⟨_,e,he,_,h5⟩:=J7 h3 h2
       have hf:=h.fits e he;exact absurd h5 (ihm e.f ⟨hf.1,by have:=hf.2.1;omega⟩).2
      .have h0:=FC (g:=g) (S:=S) (m+1) k
       omega
    have hr:=FC (g:=g) (S:=S) m k;rw[e,(ihm k hk).1];refine⟨rfl,?_⟩;rw[(ihm k hk).1] at hr;omega
   .obtain rfl:n=m+1:=by omega
    exact⟨rfl,hn k hk⟩
def reach (g:Gr) (S:List Int) (n:Nat):Nat:=(List.range g.size.toNat).countP λ (i:Nat)=>decide (0<=dl g S n (i:Int))
theorem R3 {α:Type} {p q:α->Bool}:∀ {l:List α},(∀ x∈l,p x=true->q x=true)->(∃ x∈l,q x=true/\p x=false)->l.countP p<l.countP q
 | [],_,h=>by obtain⟨_,h,_⟩:=h;simp at h
 | a::l,h1,h2=>by
   have h0:l.countP p<=l.countP q:=List.countP_mono_left λ x hx=>h1 x (Ql _ hx);simp only[List.countP_cons];obtain⟨x,hx,hq,hp⟩:=h2;rcases Qs.1 hx with rfl | hx
   .rw [hq,hp]
    simp;omega
   .have ih:=R3 (λ x hx=>h1 x (Ql _ hx)) ⟨x,hx,hq,hp⟩
    have ha:=h1 a Qn
    cases h3:p a<;>cases h4:q a<;>simp_all<;>omega
theorem bB (hk:CM g k) (h:dl g S (n+1) k=n+1):reach g S n<reach g S (n+1):=by
 refine R3 (λ i _ hi=>?_) ⟨k.toNat,by simp;have:=hk.1;have:=hk.2;omega,?_,?_⟩
 .simp at hi ⊢
  rw[HK hi];exact hi
 .have e:((k.toNat:Nat):Int)=k:=by have:=hk.1;omega
  simp[e,h];omega
 .have e:((k.toNat:Nat):Int)=k:=by have:=hk.1;omega
  simp only[e,Qa];intro h2;rw[HK h2] at h;have:=FC (g:=g) (S:=S) n k;omega
theorem ZS (h:AI g) (hd:dl g S (n+1) k=n+1):∃ k',CM g k'/\dl g S n k'=n:=by
 have h2:¬ 0<=dl g S n k:=by
  intro h2;rw[HK h2] at hd;have:=FC (g:=g) (S:=S) n k;omega
 obtain⟨_,e,he,_,h5⟩:=J7 (by omega) h2
 have hf:=h.fits e he;exact⟨e.f,⟨hf.1,by have:=hf.2.1;omega⟩,h5⟩
theorem TE (h:AI g):∀ {n:Nat} {k:Int},CM g k->dl g S n k=n->n+1<=reach g S n
 | 0,k,hk,hd=>by
   have:0<reach g S 0:=List.countP_pos_iff.2 ⟨k.toNat,by simp;have:=hk.1;have:=hk.2;omega,by
    have e:((k.toNat:Nat):Int)=k:=by have:=hk.1;omega
    simp[e]
    omega⟩
   omega
 | n+1,k,hk,hd=>by
   have h0:dl g S (n+1) k=(n:Int)+1:=by simpa using hd
   obtain⟨k',h1,h'⟩:=ZS h h0;have:=TE h h1 h';have:=bB hk h0;omega
theorem oY (n:Nat):reach g S n<=g.size.toNat:=by
 have:=List.countP_le_length (p:=λ (i:Nat)=>decide (0<=dl g S n (i:Int))) (l:=List.range g.size.toNat)
 simpa [reach] using this
theorem Ls (h:AI g) (hk:CM g k) (hd:dl g S n k=n):(n:Int)<g.size:=by
 have h1:=TE h hk hd;have h2:=oY (g:=g) (S:=S) n;omega
def AN (g:Gr) (S:List Int) (k:Int):Int:=dl g S g.size.toNat k
theorem Sq (h:AI g) (hn:∀ k,CM g k->dl g S n k≠n) (k:Int) (hk:CM g k):dl g S n k=AN g S k:=by
 unfold AN;rcases Nat.le_total n g.size.toNat with h1 | h1
 .exact ((zrr h hn _ h1 k hk).1).symm
 .have hN:∀ k,CM g k->dl g S g.size.toNat k≠g.size.toNat:=by
   intro k hk hd;have:=Ls h hk hd;omega
  exact(zrr h hN _ h1 k hk).1
theorem Ww (k:Int) : -1<=AN g S k/\AN g S k<=g.size.toNat:=FC _ _
theorem Pi (h:AI g) (hk:CM g k):AN g S k<g.size∨g.size<=0:=by
 have h1:=Ww (g:=g) (S:=S) k
 by_cases h2:AN g S k=g.size.toNat
 .have:=Ls h hk h2
  omega
 .have:=hk.1;have:=hk.2;omega
theorem H6 (h:AI g):AN g S k=0↔DO g S k=true:=by
 unfold AN;constructor
 .intro hd
  have:=O5 (g:=g) (S:=S) (n:=g.size.toNat) (k:=k) (by omega)
  rw[hd] at this;simp at this;rw[dl] at this;split at this
  .assumption
  .omega
 .intro hs
  have h0:dl g S 0 k=0:=by rw[dl,if_pos hs]
  rw[P6 (Qh _) (by omega),h0]
theorem TN (h:AI g) {e:Ed} (he:e∈g.edges) (hf:0<=AN g S e.f):0<=AN g S e.t/\AN g S e.t<=AN g S e.f+1:=by
 have h0:=h.fits e he;have h1:=Xk (S:=S) he hf
 have hN:∀ k,CM g k->dl g S g.size.toNat k≠g.size.toNat:=by
  intro k hk hd;have:=Ls h hk hd;omega
 have h2:=(zrr h hN (g.size.toNat+1) (by omega) e.t ⟨h0.2.2.1,by have:=h0.2.2.2.1;omega⟩).1
 rw[h2] at h1;exact h1
theorem Iq (h:AI g) (hd:AN g S k=(n:Int)+1):∃ e∈g.edges,e.t=k/\AN g S e.f=n:=by
 have h0:=O5 (g:=g) (S:=S) (n:=g.size.toNat) (k:=k) (by show 0<=AN g S k;omega)
 have h1:dl g S g.size.toNat k=(n:Int)+1:=hd;rw[h1] at h0;have e1:((n:Int)+1).toNat=n+1:=by omega
 rw[e1] at h0
 have h2:¬ 0<=dl g S n k:=by
  intro h2;rw[HK h2] at h0;have:=FC (g:=g) (S:=S) n k;omega
 obtain⟨_,e,he,h4,h5⟩:=J7 (by omega) h2
 refine⟨e,he,h4,?_⟩;have hr:=Ww (g:=g) (S:=S) k;have:AN g S e.f=dl g S n e.f:=P6 (by omega) (by omega)
 omega
variable {F S:List Int} {d:Nat} {g:Gr}
section
variable {P:Program} {np id:Nat} {h:Nat->Option AQ} {K:AV->List Nat->List (Nat × Option AQ)->Prop} {f:FuncId} {first aB args aC:List AV} {res:AV}
theorem uX {i:Nat} (sn:List Nat) {e e':AQ} {hs':List (Option AQ)} (h0:∀ j∈sn,j≠i) (hi:h i=some e) (h1:Ab [(i,0)] sn h 4 e=e') (hc:AK P f aC [e'] res hs') (h8:hs'.length<=9) (he:(first++args++aB).map (conv [(i,0)] sn h 4)=aC) (hp:Plain res) (h2:∀ e,some e∈hs'->IG e) (hk:K (conv (C9 [i] id) [] (λ _=>none) 4 res) (i::sn) ((hs'.zipIdx.map λ (e,k)=>((i::(List.range 8).map (id + ·)).getD k 0,e.map (Ab (C9 [i] id) [] (λ _=>none) 4)))++[])):aK P np id .call (.fn (.func f) first aB::args) h K :=
 ⟨[i],sn,false,aC,[e'],res,hs',by simp,by simpa using h0,by simp,by rw[show [i].zipIdx=[(i,0)] from rfl,he];exact F8 _,by rw[show [i].zipIdx=[(i,0)] from rfl];simpa [hi] using h1,hc,by simpa using h8,.inr ⟨hp,h2⟩,by simpa [C9] using hk⟩
theorem N7 {j:Nat} {e ej:AQ} (h0:np<=j) (hj:h j=some ej) (hc:AK P f aC [] res [some e]) (he:(first++args++aB).map (conv [] [j] h 4)=aC) (hk:K (conv (C9 [] id) [] (λ _=>none) 4 res) [j] [(id,some (Ab (C9 [] id) [] (λ _=>none) 4 e)),(j,some { ej with ro:=ej.rows.length })]):aK P np id .call (.fn (.func f) first aB::args) h K :=
 ⟨[],[j],true,aC,[],res,[some e],by simp,by simp,by simpa using h0,by rw[Vp,he];exact F8 _,rfl,hc,by simp,.inl rfl,by simpa [C9,hj] using hk⟩
end
theorem eB {l:List Int} {z:Nat}:IG ⟨1,AD l++List.replicate z [AV.I 0],0⟩:=by
 intro row h0 x hx;simp only[Qq,Qi,List.mem_replicate] at h0;rcases h0 with ⟨y,_,rfl⟩ | ⟨_,rfl⟩
 .simp at hx;subst hx;exact .sc _
 .simp at hx;subst hx;exact .sc _
theorem qB (g:Gr) (S:List Int) (k:Int) (hS:S.length<=1099511627776) (hg:g.gone.length<=1099511627776):AcP 80 [eG g,AA S,.I k] [] (.B (DO g S k)) []:=by
 refine uC.s.ai ?_;refine ar [1,2,3] [] [16] 16 ?_;refine arc ⟨17,[(6,.B (DO g S k))],[],16⟩ ?_ ?_
 .simp
  refine EU 51 rfl ?_;refine Aq (Ht S k (by omega)) rfl ?_
  simp;refine Dd (λ hb=>?_) (λ hb=>?_)
  .simp [hb]
   refine EU 51 rfl ?_;refine Aq (Ht g.gone k (by omega)) rfl ?_
   simp[hb];exact A5 [] (by simp[DO]<;>exact Aw (by simp_all))
  .simp [hb]
   exact A5 [] (by simp[DO]<;>exact Aw (by simp_all))
 exact Bl
theorem mP (g:Gr) (S:List Int) (k:Int) (hS:S.length<=1099511627776) (hg:g.gone.length<=1099511627776):AcP 79 [.I k,.pv (gC g),.pv [AA S]] [] (.B (DO g S k)) []:=by
 refine dF.s.ai ?_;refine AC (AX ?_);refine AC (Ag (s:=?s1) rfl ?o1 ?q1)
 case o1=>simp;refine Aq (qB g S k hS hg) rfl ?_;simp;rfl
 exact Bl
def EM (D:List Int) (x:Int):Bool:=!decide (0<=x/\x<D.length) || decide (0<=D.getD x.toNat 0)
theorem fN (D:List Int) (x:Int) (hD:D.length<=1000000):AcP 83 [.I x,.pv [AA D]] [] (.B (EM D x)) []:=by
 refine rL.s.ai ?_;have hw:=w6 (x:=(D.length:Int) - 1);refine AC (AX ?_);refine arc ⟨17,[(3,.B (EM D x))],[],16⟩ ?_ ?_
 .simp [hw]
  refine EU 37 rfl ?_;refine Aq (Ev ..) rfl ?_;simp
  by_cases hx:0<=x/\x<D.length
  .obtain ⟨k,rfl⟩:∃ k:Nat,x=k:=⟨x.toNat,by omega⟩
   have hk:k<D.length:=by omega
   have hb:(!decide (0<=(k:Int)) || !decide ((k:Int)<=(D.length:Int) - 1))=false:=by simp;omega
   have ho:EM D k=decide (0<=D[k]):=by
    unfold EM;rw[UK hx];simp[hk]
   rw[hb,ho];simp[hk];exact A5 [] (by simp)
  .have hb:(!decide (0<=x) || !decide (x<=(D.length:Int) - 1))=true:=by simp;omega
   have ho:EM D x=true:=by
    unfold EM;rw[UI hx];rfl
   rw[hb,ho];simp;exact A5 [] (by simp)
 exact Bl
def Bj (g:Gr) (S:List Int):List Int:=(List.range g.size.toNat).map λ (i:Nat)=>AN g S (i:Int)
def Bn (g:Gr) (S:List Int) (d:Nat):List Int:=(List.range g.size.toNat).map λ (i:Nat)=>if 0<=dl g S d i/\dl g S d i<d then dl g S d i else -1
def Bo (g:Gr) (S:List Int) (d:Nat) (F:List Int):List Int:=(List.range g.size.toNat).map λ (i:Nat)=>if 0<=dl g S d i/\dl g S d i<d then dl g S d i else if (i:Int)∈F then (d:Int) else -1
theorem Om (g:Gr) (S:List Int) (d:Nat):Bo g S d []=Bn g S d:=by
 unfold Bo Bn;simp
theorem gR (d:Nat) (F:List Int) (hF:∀ x,x∈F↔CM g x/\dl g S d x=d):Bo g S d F=Bn g S (d+1):=by
 unfold Bo Bn;refine QF λ i hi=>?_;simp at hi;have h4:CM g i:=⟨by omega,by omega⟩
 have hr:=FC (g:=g) (S:=S) d i;have h5:=FC (g:=g) (S:=S) (d+1) i;have hm:(i:Int)∈F↔dl g S d i=d:=by rw[hF];exact⟨λ h=>h.2,λ h=>⟨h4,h⟩⟩
 simp only[hm]
 by_cases h0:0<=dl g S d i
 .have e:=HK h0
  rw[e]
  by_cases h1:dl g S d i<d
  .rw [if_pos ⟨h0,h1⟩,if_pos ⟨h0,by omega⟩]
  .have h2:dl g S d i=d:=by omega
   rw[if_neg (by omega),if_pos h2,if_pos ⟨h0,by omega⟩,h2]
 .rw [if_neg (by omega),if_neg (by omega)]
  by_cases h3:0<=dl g S (d+1) i
  .have:=(J7 h3 h0).1
   rw[if_neg (by omega)]
  .rw [if_neg (by omega)]
theorem Ll (g:Gr) (S:List Int) (d:Nat) (F:List Int):(Bo g S d F).length=g.size.toNat:=by simp[Bo]
theorem XA (g:Gr) (S:List Int) (d:Nat):(Bn g S d).length=g.size.toNat:=by simp[Bn]
theorem uD {k:Nat} (hk:k<g.size.toNat) (hd:dl g S d k=d):(Bo g S d F)[k]'(by rw[Ll];exact hk)=if (k:Int)∈F then (d:Int) else -1:=by
 unfold Bo;simp only[List.getElem_map,List.getElem_range];rw[if_neg (by omega)]
theorem X6 (F:List Int) {i:Nat} (hi:i<g.size.toNat):(Bo g S d F)[i]? = some (if 0<=dl g S d i/\dl g S d i<d then dl g S d i else if (i:Int)∈F then (d:Int) else -1):=by
 simp[Bo,hi]
theorem eJ {k:Nat} (hk:k<g.size.toNat) (hd:dl g S d k=d):(Bo g S d F).set k d=Bo g S d (F++[(k:Int)]):=by
 apply Vd;intro i
 by_cases hi:i<g.size.toNat
 .rw [X6 _ hi,U3]
  by_cases h0:k=i
  .subst h0
   rw[if_pos rfl,if_pos (by rw[Ll];exact hk),if_neg (by omega),if_pos (by simp)]
  .rw [if_neg h0,X6 _ hi]
   have:(i:Int)∈F++[(k:Int)]↔(i:Int)∈F:=by
    simp;omega
   simp only[this]
 .rw [Q4 (by rw[Ur,Ll];omega),Q4 (by rw[Ll];omega)]
theorem Sk {F':List Int} (h:∀ x,x∈F↔x∈F'):Bo g S d F=Bo g S d F':=by
 unfold Bo;simp only[h]
theorem uJ {l:List Ed} {x:Int} (hx:x∉F):(l.countP λ e=>decide (e.f∈F++[x]))=(l.countP λ e=>decide (e.f∈F))+(A7 l x).length:=by
 rw[qQ]
 induction l with
 | nil=>rfl
 | cons e l ih =>
   have e1:decide (e.f∈F++[x])=(decide (e.f∈F) || decide (e.f=x)):=by simp
   simp only[List.countP_cons,ih,e1]
   by_cases h1:e.f∈F<;>by_cases h2:e.f=x
   .rw [h2] at h1;exact absurd h1 hx
   all_goals
    simp only[hx,h1,h2,decide_true,decide_false,Bool.or_true,Bool.or_false,Bool.true_or,Bool.false_or,UY,Ud,Ux];omega
variable {d n:Int}
structure Al where
 seeds:List Int
 table:List Int
 lv:Int
variable {p:Al}
def BT (n:Int) (p:Al):Prop :=
 p.seeds≠[]/\Bu p.seeds 0 (n - 1)/\1<=p.table.length/\p.table.length<=8/\1<=p.lv/\p.lv<=3 /\ ∀ i (h:i<p.table.length),1<=p.table[i]/\p.table[i]<=1000/\(0<i->p.table[i]<=p.table[i - 1])
def EP (p:Al) (d:Int):Int:=if d<0 then 0 else p.table.getD d.toNat 1
theorem Lf (h:d<0):EP p d=0:=if_pos h
theorem VZ (hp:BT n p) (h:0<=d):1<=EP p d/\EP p d<=1000:=by
 unfold EP;rw[if_neg (by omega)]
 by_cases hd:d.toNat<p.table.length
 .rw [Qe,Qc hd,QB]
  have:=hp.2.2.2.2.2.2 d.toNat hd;omega
 .rw [Qe,Q4 (by omega),Option.getD_none]
  omega
theorem zpK (hp:BT n p):0<EP p d↔0<=d:=by
 constructor
 .intro h
  refine Q6 λ h1=>?_;rw[Lf (by omega)] at h
  omega
 .intro h
  have:=VZ hp h;omega
theorem ON (hp:BT n p) (d:Int):0<=EP p d/\EP p d<=1000:=by
 by_cases h:0<=d
 .have:=VZ hp h;omega
 .rw [Lf (by omega)];omega
theorem u6 (g:Gr) (v:Int):AM (AM g v) v=AM g v:=by
 unfold AM;simp only[List.filter_filter,Bool.and_self]
def A1 (g:Gr) (p:Al):List Int:=(Bj (AM g p.lv) p.seeds).map (EP p)
def D3 (g:Gr) (p:Al) (c:List Int) (aA:List Int):List Ed :=
 ((p.seeds.filter λ x=>decide (0<c.getD x.toNat 0)).map λ x=>⟨0,2+2*x,c.getD x.toNat 0⟩)
 ++ ((List.range c.length).filter λ i=>decide (0<c.getD i 0)).map (λ i=>⟨2+2*(i:Int),3+2*(i:Int),c.getD i 0 - 1⟩)
 ++ ((aA.filter λ x=>decide (0<c.getD x.toNat 0)).map λ x=>⟨2+2*x,1,1⟩)
 ++ (((AM g p.lv).edges.filter λ e=>decide (0<c.getD e.f.toNat 0)).map λ e=>⟨3+2*e.f,2+2*e.t,64⟩)
structure G0 where
 nodes:Int
 arcs:List Ed
def GF (n:Int) (a:Ed):Prop:=0<=a.f/\a.f<=n - 1/\0<=a.t/\a.t<=n - 1/\a.f≠a.t/\a.t≠0/\a.f≠1/\0<=a.v/\a.v<=1048576
instance (n:Int) (a:Ed):Decidable (GF n a):=by unfold GF;infer_instance
def Cu (n:G0):Prop:=2<=n.nodes/\n.nodes<=130/\n.arcs.length<=1200 /\ ∀ a∈n.arcs,GF n.nodes a
instance (n:G0):Decidable (Cu n):=by unfold Cu;infer_instance
def Kz (n:G0) (side:List Int):Prop:=Cu n/\Bu side 0 (n.nodes - 1)/\(0:Int)∈side/\(1:Int)∉side
def Ex (arcs:List Ed) (side:List Int):Int:=(arcs.map λ a=>if a.f∈side/\a.t∉side then a.v else 0).sum
def NA (n:G0) (side:List Int) (most:Int):Prop:=Kz n side/\Ex n.arcs side<=most
def Az (a:List Int):List Int:=((List.range 64).map Int.ofNat).filter λ x=>decide (x∈a)
theorem JD {a:List Int} {x:Int}:x∈Az a↔x∈a/\0<=x/\x<64:=by
 unfold Az;simp only[Qx,Qi,Qy,Qd];constructor
 .rintro ⟨⟨i,hi,rfl⟩,h⟩
  exact⟨h,Int.natCast_nonneg _,by show (i:Int)<64;omega⟩
 .rintro ⟨h,h0,h1⟩
  exact⟨⟨x.toNat,by omega,by show ((x.toNat:Nat):Int)=x;omega⟩,h⟩
theorem KL (a:List Int):(Az a).Pairwise (· < ·):=by
 unfold Az;refine List.Pairwise.filter _ ?_;rw[U4];exact List.pairwise_lt_range.imp λ {a b} h=>by show (a:Int)<(b:Int);omega
theorem Gw:∀ {a b:List Int},a.Nodup->(∀ x∈a,x∈b)->a.length<=b.length
 | [],_,_,_=>Qh _
 | x::a,b,hn,hs=>by
   have hx:x∈b:=hs x (Qn ..);rw[Q7] at hn;have hb:=List.perm_cons_erase hx;have h1:(b.erase x).length+1=b.length:=by have:=hb.length_eq;simp at this;omega
   have:=Gw (b:=b.erase x) hn.2 λ y hy=>by
    have h0:y≠x:=λ e=>hn.1 (e ▸ hy);exact(List.mem_erase_of_ne h0).2 (hs y (Ql _ hy))
   rw[QN];omega
theorem P3 {a:List Int} (hn:a.Nodup) (hr:∀ k∈a,0<=k/\k<64):Ew a=Az a:=by
 have h1:(Az a).Nodup:=(KL a).imp λ {x y} h=>by omega
 have h2:a.Perm (Az a):=OS hn (λ x hx=>JD.2 ⟨hx,hr x hx⟩) (Gw h1 λ x hx=>(JD.1 hx).1);exact List.Perm.eq_of_pairwise (le:=(· <= ·)) (λ x y _ _ h1 h2=>by omega) (Kr a) ((KL a).imp λ {x y} h=>by omega) ((GB a).trans h2)
abbrev pC (p:Al):List AV:=[AA p.seeds,AA p.table,.I p.lv]
abbrev eP (p:Al):AV:=.agg (pC p)
def Ip (p:Al) (i:Nat):Prop:=∀ h:i<p.table.length,1<=p.table[i]/\p.table[i]<=1000/\(0<i->p.table[i]<=p.table[i - 1])
def I0 (n:Int) (p:Al):Prop:=p.seeds≠[]/\Bu p.seeds 0 (n - 1)/\(1<=p.table.length/\p.table.length<=8)/\(1<=p.lv/\p.lv<=3)
theorem KJ {n:Int} {p:Al}:BT n p↔I0 n p /\ ∀ i,Ip p i:=by
 unfold BT I0 Ip;constructor
 .rintro ⟨a,b,c,d,e,f,g⟩;exact⟨⟨a,b,⟨c,d⟩,e,f⟩,g⟩
 .rintro ⟨⟨a,b,⟨c,d⟩,e,f⟩,g⟩;exact⟨a,b,c,d,e,f,g⟩
theorem d8 (p:Al) (d:Int):AcP 185 [eP p,.I d] [] (.I (EP p d)) []:=by
 refine j7.s.ai ?_;refine rs [1,2] [] [16] ?_;refine FO (ι:=Unit) (λ _=>⟨19,[],[],200⟩) (λ _=>0<=d/\(p.table.length:Int)<=d) ?_ λ _ hd=>?_
 .refine AL (rs [1,2,5] [] [] ?_)
  refine AE _ rfl (λ h3=>?_) λ h3=>?_
  .simp at h3
   refine rs [4] [] [] ?_;exact A9 (AS.one (by simp[Lf h3]))
  simp at h3;refine rs [1,2,8] [] [] ?_;refine AE _ rfl (λ h6=>?_) λ h6=>?_
  .simp at h6
   obtain⟨k,rfl⟩:∃ k:Nat,d=k:=⟨d.toNat,by omega⟩
   have hk:k<p.table.length:=by omega
   refine rx (s:=?s7) [4] [] [] rfl ?o7 ?q7
   case o7=>simp[hk];rfl
   exact A9 (AS.one (by simp[EP,hk,show ¬ ((k:Int)<0) by omega]))
  simp at h6;exact AJ ⟨(),⟨h3,h6⟩,Le.keep rfl (CL rfl) (by simp) (by simp)⟩
 refine rs [4] [] [] ?_;refine BG ?_
 have h1:EP p d=1:=by
  unfold EP;rw[if_neg (by omega),Qe,Q4 (by omega)]
  rfl
 exact⟨.inr rfl,AS.one (by simp[h1])⟩
theorem lZ (p:Al) (d:Int):AcP 67 [eP p,.I d] [] (.I (EP p d)) []:=by
 refine vW.s.ai ?_;refine rs [1,2] [] [16] ?_;refine AC (rs [1,2,6] [] [] ?_);refine AE _ rfl (λ h3=>?_) λ h3=>?_
 .simp at h3
  refine rs [4] [] [] ?_;exact A9 (AS.one (by simp[Lf h3]))
 simp at h3;refine AJ (AC (rs [1,2,11] [] [] ?_));refine AE _ rfl (λ h6=>?_) λ h6=>?_
 .simp at h6
  obtain⟨k,rfl⟩:∃ k:Nat,d=k:=⟨d.toNat,by omega⟩
  have hk:k<p.table.length:=by omega
  refine rx (s:=?s7) [4] [] [] rfl ?o7 ?q7
  case o7=>simp[hk];rfl
  exact A9 (AS.one (by simp[EP,hk,show ¬ ((k:Int)<0) by omega]))
 simp at h6;refine AJ (rs [4] [] [] ?_);refine BG ?_
 have h1:EP p d=1:=by
  unfold EP;rw[if_neg (by omega),Qe,Q4 (by omega)]
  rfl
 exact⟨.inr rfl,AS.one (by simp[h1])⟩
open Classical in
theorem Mm (g:Gr) (p:Al) (hl:g.edges.length<=140737488355328) (h3:g.gone.length<=140737488355328) (hs:p.seeds.length<=140737488355328) (ht:p.table.length<=140737488355328) :
  AcP 50 [eG g,eP p] [] (.I (if AI g then if BT g.size p then 0 else 15 else 14)) []:=by
 refine sA.s.ai ?_;refine rs [2,3] [] [16,24] ?_;refine AC (rx (s:=?s2) [2,3,5] [] [] rfl ?o2 ?q2)
 case o2=>simp;refine Aq (bR g hl h3) (by simp) ?_;simp;rfl
 refine rs [2,3,5,11] [] [] ?_;refine AE _ rfl (λ h4=>?_) λ h4=>?_
 .simp at h4
  refine rs [4] [] [] ?_;exact A9 (AS.one (by simp[h4]))
 simp at h4;have h9:=h4.1.1;have ha:=h4.1.2.1;refine AJ (AC (arc ⟨65,[(3,.pv (pC p)),(38,.B (decide (¬ I0 g.size p)))],[],288⟩ ?_ ?_))
 .simp
  repeat' first
   | (refine EU 108 rfl ?_;have hw:IntKind.i64.wrap (g.size - 1)=g.size - 1:=w6;rw[hw];refine Aq (Nf _ _ _ hs) rfl ?_;simp)
   | (refine EU 37 rfl ?_;refine Aq (Ev ..) rfl ?_;simp)
   | (refine Dd (λ hb=>?_) (λ hb=>?_)<;>(try rw[hb])<;>(try simp at hb)<;>simp[hb])
  all_goals exact A5 [] (by simp;first | exact Aw (by (try simp at *);grind [I0]) | exact⟨by rw[show pC p=[.vs 1 false [],AA p.table,.I p.lv] by simp[pC,AA,hb]];exact .refl _,Aw (by (try simp at *);grind [I0])⟩)
 refine AE _ rfl (λ h7=>?_) λ h7=>?_
 .simp at h7
  refine rs [4] [] [] ?_;exact A9 (AS.one (by simp[h4,KJ,h7]))
 simp at h7;refine AJ (AC (rs [3,40,41,42] [] [] ?_));refine AL (Ae (ι:=Nat) (λ i=>⟨65,[(3,.pv (pC p)),(40,AA p.table),(41,.I p.table.length),(42,.I i)],[],320⟩) (λ i=>i<=p.table.length /\ ∀ k,k<i->Ip p k) (λ i=>p.table.length - i) 0 (by simp) (Bk [] []) ?_)
 rintro i ⟨hi,hp⟩
 refine rs [3,40,41,42,43] [] [] ?_;refine AC (AE _ rfl (λ h0=>?_) λ h0=>?_)
 .simp at h0
  have h5:=w6 (x:=(i:Int)+1);have h6:0<i->IntKind.i64.wrap ((i:Int) - 1)=((i - 1:Nat):Int):=λ h=>by rw[w6];omega
  have h2:i - 1<p.table.length:=by omega
  refine AJ (AC (AL (rx (s:=?s12) [3,6,7,40,41,42] [] [] rfl ?o12 ?q12)))
  case o12=>simp[h0];rfl
  refine arc ⟨65,[(3,.pv (pC p)),(40,AA p.table),(41,.I p.table.length),(42,.I i),(63,.B (decide (¬ Ip p i)))],[],504⟩ ?_ ?_
  .simp
   repeat' first
    | (refine EU 37 rfl ?_;refine Aq (Ev ..) rfl ?_;simp)
    | (refine Dd (λ hb=>?_) (λ hb=>?_)<;>(try rw[hb])<;>(try simp at hb)<;>simp[hb,h0,h2,h6])
   all_goals exact A5 [] (by simp;exact Aw (by (try simp at *);grind [Ip]))
  refine AE _ rfl (λ h1=>?_) λ h1=>?_
  .refine rs [4] [] [] ?_
   refine BG ?_;have hn:¬ BT g.size p:=λ h=>by simp at h1;exact h1 ((KJ.1 h).2 i)
   exact⟨.inr rfl,AS.one (by simp[h4,hn])⟩
  simp at h1;refine AJ (AX ?_);refine⟨i+1,⟨h0,λ k hk=>?_⟩,?_,AF [] [] (by simp[h5])⟩
  .rcases QY.1 hk with h | rfl
   .exact hp k h
   .exact h1
  .omega
 simp at h0;have hy:BT g.size p:=KJ.2 ⟨h7,λ k hk=>hp k (by omega) hk⟩
 refine Aa (hit (rs [4] [] [] ?_));exact A9 (AS.one (by simp[h4,hy]))
open Classical in
theorem bH (g:Gr) (p:Al) (hs:p.seeds.length<=140737488355328) (ht:p.table.length<=140737488355328) :
  AcP 100 [eG g,eP p] [] (.B (decide (BT g.size p))) []:=by
 refine YQ.s.ai ?_;refine rs [2,3] [] [16,24] ?_;refine AC (arc ⟨79,[(3,.pv (pC p)),(39,.B (decide (¬ I0 g.size p)))],[],312⟩ ?_ ?_)
 .simp
  repeat' first
   | (refine EU 119 rfl ?_;refine Aq (OJ _ _ hs) rfl ?_;simp)
   | (refine Dd (λ hb=>?_) (λ hb=>?_)<;>(try rw[hb])<;>(try simp at hb)<;>simp[hb])
  all_goals exact A5 [] (by simp;first | exact Aw (by (try simp at *);grind [I0]) | exact⟨by rw[show pC p=[.vs 1 false [],AA p.table,.I p.lv] by simp[pC,AA,hb]];exact .refl _,Aw (by (try simp at *);grind [I0])⟩)
 refine AE _ rfl (λ h3=>?_) λ h3=>?_
 .simp at h3
  refine rs [4] [] [] ?_;exact A9 (AS.one (by simp[KJ,h3]))
 simp at h3;refine AJ (AC (rs [3,5] [] [] ?_));refine AL (Ae (ι:=Nat) (λ i=>⟨79,[(3,.pv (pC p)),(5,.I i)],[],320⟩) (λ i=>i<=p.table.length /\ ∀ k,k<i->Ip p k) (λ i=>p.table.length - i) 0 (by simp) (Bk [] []) ?_)
 rintro i ⟨hi,hp⟩
 refine AC (rs [3,5,44] [] [] ?_);refine AE _ rfl (λ h7=>?_) λ h7=>?_
 .simp at h7
  have h0:=w6 (x:=(i:Int)+1);have h1:0<i->IntKind.i64.wrap ((i:Int) - 1)=((i - 1:Nat):Int):=λ h=>by rw[w6];omega
  have h2:i - 1<p.table.length:=by omega
  refine AJ (AC (AL (CW ⟨79,[(3,.pv (pC p)),(5,.I i),(78,.B (decide (¬ Ip p i)))],[],616⟩ ?_ ?_)))
  .simp [h7]
   repeat' first
    | (refine Dd (λ hb=>?_) (λ hb=>?_)<;>(try rw[hb])<;>(try simp at hb)<;>simp[hb,h7,h2,h1])
   all_goals exact⟨rfl,A5 [] (by simp;exact Aw (by (try simp at *);grind [Ip]))⟩
  refine AE _ rfl (λ h9=>?_) λ h9=>?_
  .refine rs [4] [] [] ?_
   refine BG ?_;have hn:¬ BT g.size p:=λ h=>by simp at h9;exact h9 ((KJ.1 h).2 i)
   exact⟨.inr rfl,AS.one (by simp[hn])⟩
  simp at h9;refine AJ (AX ?_);refine⟨i+1,⟨h7,λ k hk=>?_⟩,?_,AF [] [] (by simp[h0])⟩
  .rcases QY.1 hk with h | rfl
   .exact hp k h
   .exact h9
  .omega
 simp at h7;have hy:BT g.size p:=KJ.2 ⟨h3,λ k hk=>hp k (by omega) hk⟩
 refine Aa (hit (rs [4] [] [] ?_));exact A9 (AS.one (by simp[hy]))
open Classical in
theorem MZ (g:Gr) (p:Al) (hl:g.edges.length<=140737488355328) (h0:g.gone.length<=140737488355328) (hs:p.seeds.length<=140737488355328) (ht:p.table.length<=140737488355328) :
  AcP 47 [eG g,eP p] [] (.I (if AI g then if BT g.size p then 0 else 15 else 14)) []:=by
 refine dJ.s.ai ?_;refine rs [2,3] [] [16,24] ?_;refine AC (rx (s:=?s2) [2,3,7] [] [] rfl ?o2 ?q2)
 case o2=>simp;refine Aq (So g hl h0) (by simp) ?_;simp;rfl
 refine AE _ rfl (λ h3=>?_) λ h3=>?_
 .simp at h3
  refine rs [4] [] [] ?_;exact A9 (AS.one (by simp[h3]))
 simp at h3;refine AJ (AC (rx (s:=?s5) [11] [] [] rfl ?o5 ?q5))
 case o5=>simp;refine Aq (bH g p hs ht) (by simp) ?_;simp;rfl
 refine AE _ rfl (λ h6=>?_) λ h6=>?_
 .simp at h6
  refine rs [4] [] [] ?_;exact A9 (AS.one (by simp[h3,h6]))
 simp at h6;refine AJ (rs [4] [] [] ?_);exact A9 (AS.one (by simp[h3,h6]))
theorem Le.dn {st st':St} {D D':List (List AV)} (N:Nat) (i j i' j':Nat) (sn:List Nat) (h4:st'.sz=st.sz) (hh:st'.h=[(i',some ⟨1,[[.rs j' 0 N]],0⟩),(j',some ⟨1,D',0⟩)]) (hi:i'<st'.n) (hj:j'<st'.n) (h0:i≠j) (h3:i'≠j') (hs:∀ k∈sn,k≠i/\k≠j) (h1:st.hp i=some ⟨1,[[.rs j 0 N]],0⟩) (h2:st.hp j=some ⟨1,D,0⟩) (hD:D.map (·.map (conv [(i,i'),(j,j')] sn st.hp 4))=D') (ht:∀ p∈st'.t,Wk (conv [(i,i'),(j,j')] sn st.hp 4 (st.get p.1)) p.2):Le 0 st st' :=
 Le.ents [(i,i'),(j,j')] sn h4 (by simpa using h0) (by simpa using h3) (by simp[hi,hj]) (by simpa using hs) (Qh _) ht λ p hp=>by
  rw[hh] at hp;simp at hp;rcases hp with rfl | rfl
  .exact ⟨i,_,_,rfl,by simp,h1,Am.eq (by simp[h0]) (by simp)⟩
  .exact ⟨j,_,_,rfl,by simp,h2,Am.eq (by simp only[Ab,hD]) (by simp)⟩
theorem Xz {l:List Int} {lo hi:Int} (h:Bu l lo hi):∀ (i:Nat) (hi:i<l.length),lo+i<=l[i]
 | 0,hi=>by have:=(h 0 hi).1;simp;omega
 | i+1,hi=>by
   have h1:=Xz h i (by omega)
   have h2:=(h (i+1) hi).2.2 (by omega)
   simp only[Nat.add_sub_cancel] at h2;omega
theorem AI.gone_le {g:Gr} (h:AI g):g.gone.length<=64:=by
 have hr:=h.1.2.2.2;have h1:=h.1.1;have h2:=h.1.2.1;rcases Un g.gone.length with h0 | h0
 .omega
 .have h3:=Xz hr (g.gone.length - 1) (by omega)
  have h4:=(hr (g.gone.length - 1) (by omega)).2.1
  omega
theorem To {l:List Ed} {x t:Int}:t∈A7 l x ↔ ∃ e∈l,e.f=x/\e.t=t:=by
 unfold A7;simp only[Vj];constructor
 .rintro ⟨e,he,h⟩
  split at h
  .exact ⟨e,he,by assumption,by simpa using h⟩
  .cases h
 .rintro ⟨e,he,h1,h2⟩
  exact⟨e,he,by rw[if_pos h1,h2]⟩
theorem dI {g:Gr} {S:List Int} {d:Nat} {F X:List Int} (hg:AI g) (hF:∀ x,x∈F↔CM g x/\dl g S d x=d) (hX:∀ t,t∈X ↔ ∃ x∈F,t∈A7 g.edges x) (x:Int) :
  x∈X.filter (λ e=>!EM (Bn g S (d+1)) e)↔CM g x/\dl g S (d+1) x=(d+1:Nat):=by
 rw[Qx,hX];have h6:=XA g S (d+1);have hb:=hg.1.1;constructor
 .rintro ⟨⟨y,hy,h9⟩,ho⟩
  obtain⟨e,he,rfl,rfl⟩:=To.1 h9;have hc:=(hF e.f).1 hy;simp only[EM,Bool.not_or,Bool.not_not,QM,Qd,h6] at ho;have hk:CM g e.t:=⟨ho.1.1,by omega⟩
  have h1:=Xk (S:=S) (n:=d) he (by omega)
  refine⟨hk,?_⟩;have h3:=ho.2;obtain⟨k,ha⟩:∃ k:Nat,e.t=k:=⟨e.t.toNat,by have:=hk.1;omega⟩
  rw[ha] at h3 h1 ⊢;have h7:k<g.size.toNat:=by have:=hk.2;omega
  have h0:(Bn g S (d+1)).getD k 0=if 0<=dl g S (d+1) k/\dl g S (d+1) k<(d+1:Nat) then dl g S (d+1) k else -1:=by
   simp[Bn,List.getD,h7]
  simp only[Uu,h0] at h3;simp at h3;split at h3<;>omega
 .rintro ⟨hk,hd⟩
  have h2:¬ 0<=dl g S d x:=by
   intro h2;rw[HK h2] at hd;have:=FC (g:=g) (S:=S) d x;omega
  obtain⟨_,e,he,h4,h5⟩:=J7 (g:=g) (S:=S) (n:=d) (k:=x) (by omega) h2
  have hf:=hg.fits e he;refine⟨⟨e.f,(hF _).2 ⟨⟨hf.1,by have:=hf.2.1;omega⟩,h5⟩,To.2 ⟨e,he,rfl,h4⟩⟩,?_⟩
  obtain⟨k,rfl⟩:∃ k:Nat,x=k:=⟨x.toNat,by have:=hk.1;omega⟩
  have h7:k<g.size.toNat:=by have:=hk.2;omega
  have h0:(Bn g S (d+1)).getD k 0=if 0<=dl g S (d+1) k/\dl g S (d+1) k<(d+1:Nat) then dl g S (d+1) k else -1:=by
   simp[Bn,List.getD,h7]
  simp only[EM,Uu,h0,h6];rw[if_neg (by omega)]
  simp;omega
theorem vA {F:List Int} {i:Nat} (h:i<F.length) (x:Int):x∈F.take (i+1)↔x∈F.take i++[F[i]]:=by
 rw[<- UN h,UD]
theorem Nu (g:Gr) (S:List Int) (hg:AI g) (hS:S.length<=1099511627776):AcP 39 [eG g,AA S] [] (.rs 0 0 g.size.toNat) [some ⟨1,AD (Bj g S),0⟩]:=by
 refine tO.s.ai ?_;have bo:=hg.1.1;have b4:=hg.1.2.1;have a0:=hg.1.2.2.1;have ad:g.gone.length<=1000000:=QH hg.gone_le (by omega)
 obtain⟨N,hN⟩:∃ N:Nat,N=g.size.toNat:=⟨_,rfl⟩;have ag:(if 0<g.size then g.size else 0)=(N:Int):=by split<;>omega
 refine ar [2,3] [] [16,24] 40 ?_;apply ak [2,3,5] [80,72] 96
 .simp [ag]
  refine N7 (j:=40) (Qh _) rfl (qC (-1) N (by omega)) ?_ ?_
  .simp
  simp;rfl
 have h0:List.replicate N [AV.I (-1)]=AD (Bn g S 0):=by
  unfold Bn AD;rw[List.map_map];apply List.ext_getElem
  .simp [hN]
  .intro i h1 h2
   simp;omega
 rw[h0];obtain⟨F0,hq⟩:∃ F,F=CU N (DO g S):=⟨_,rfl⟩
 have a1:∀ x,x∈F0↔CM g x/\dl g S 0 x=((0:Nat):Int):=by
  intro x;rw[hq];unfold CU;simp only[Qx,Qi,Qy];constructor
  .rintro ⟨⟨i,hi,rfl⟩,hs⟩
   exact⟨⟨by omega,by omega⟩,by rw[dl,if_pos hs];rfl⟩
  .rintro ⟨⟨k1,k2⟩,hs⟩
   refine⟨⟨x.toNat,by omega,by omega⟩,?_⟩
   rw[dl] at hs;split at hs
   .assumption
   .simp at hs
 have a2:F0.length<=500:=by have:=Ig N (DO g S);rw[hq];omega
 refine arc ⟨50,[(2,.pv (gC g)),(5,.pt 80 0 0),(6,AA F0)],[(80,some ⟨1,[[.rs 72 0 N]],0⟩),(72,some ⟨1,AD (Bn g S 0),0⟩)],136⟩ ?_ ?_
 .simp
  refine CV (KK 79 [.pv (gC g),.pv [AA S]] (DO g S) g.size (by omega) (λ ρ sn h n=>by simp) (λ k _=>mP g S k hS (by omega))) ?_
  rw[<- hN,<- hq];simp[AB];exact Le.dn N 80 72 80 72 [120] rfl rfl (by simp) (by simp) (by decide) (by decide) (by simp) rfl rfl (by simp[AB]) (by simp[AB,Cz])
 refine AC ?_;apply ak [2,5,6,7] [80,72] 144
 .simp
  rfl
 refine AL (Ae (ι:=Nat × List Int) (λ p=>⟨50,[(2,.pv (gC g)),(5,.pt 80 0 0),(6,AA p.2),(7,.I p.1)],[(80,some ⟨1,[[.rs 72 0 N]],0⟩),(72,some ⟨1,AD (Bn g S p.1),0⟩)],144⟩) (λ p=>p.1<=64/\p.2.length<=500 /\ ∀ x,x∈p.2↔CM g x/\dl g S p.1 x=p.1) (λ p=>64 - p.1) (0,F0) ⟨by simp,a2,a1⟩ (Le.refl _ _) ?_)
 rintro⟨d,F⟩ ⟨hd,am,h7⟩
 simp only at hd am h7 ⊢;refine AC (arc ⟨50,[(2,.pv (gC g)),(5,.pt 80 0 0),(6,AA F),(7,.I d),(22,.B (decide (0<F.length)))],[(80,some ⟨1,[[.rs 72 0 N]],0⟩),(72,some ⟨1,AD (Bn g S d),0⟩)],168⟩ ?_ ?_)
 .simp
  exact Le.keep rfl (Qk _) (by simp<;>rw[Qp]<;>simp) (by simp)
 refine AE _ rfl (λ h=>AJ ?_) λ h=>Aa (hit ?_)
 .simp only[Qd] at h
  have b5:(d:Int)<g.size:=by
   have:=h7 F[0];have h1:=(this.1 (Qj _));exact Ls hg h1.1 h1.2
  refine FO (ι:=List Int) (λ F'=>⟨50,[(2,.pv (gC g)),(5,.pt 80 0 0),(6,AA F'),(7,.I d)],[(80,some ⟨1,[[.rs 72 0 N]],0⟩),(72,some ⟨1,AD (Bn g S (d+1)),0⟩)],144⟩) (λ F'=>F'.length<=500 /\ ∀ x,x∈F'↔CM g x/\dl g S (d+1) x=(d+1:Nat)) ?_ ?_
  .refine AL ?_
   apply ak [2,5,6,7,8] [80,72] 176
   .simp
    rfl
   rw[<- Om];refine AC (AC (AX ?_));refine AL ?_
   let C:Nat × List Int->St:=λ p=>⟨50,[(2,.pv (gC g)),(5,.pt 80 0 0),(7,.I d),(8,.rs 16 0 p.2.length),(25,AA F),(26,.I F.length),(27,.I p.1)],[(80,some ⟨1,[[.rs 72 0 N]],0⟩),(72,some ⟨1,AD (Bo g S d (F.take p.1)),0⟩),(16,some ⟨1,AD p.2,0⟩)],200⟩
   refine Ae C (λ p:Nat × List Int=>p.1<=F.length/\(∀ t,t∈p.2 ↔ ∃ x∈F.take p.1,t∈A7 g.edges x)/\p.2.length=g.edges.countP λ e=>decide (e.f∈F.take p.1)) (λ p:Nat × List Int=>F.length - p.1) (0,[]) ⟨Qh _,by simp,by simp⟩ ?_ ?_
   .refine Le.lst [(80,80),(72,72)] [] [(16,1)] rfl (by simp) (by simp) (by simp[C]) (by simp[C]) (by simp) (by simp) (by simp) (by simp[C,Up]) λ p hp e' hu=>?_
    simp[C] at hp;rcases hp with rfl | rfl | rfl
    .cases hu
     exact .inl ⟨(80,80),by simp,rfl,_,rfl,Am.eq (by simp) (by simp)⟩
    .cases hu
     exact .inl ⟨(72,72),by simp,rfl,_,rfl,Am.eq (by simp[AB,Om]) (by simp)⟩
    .cases hu
     exact .inr ⟨by simp,by simp,rfl⟩
   rintro⟨i,X⟩ ⟨hi,h9,ha⟩
   simp only at hi h9 ha ⊢;have b6:X.length<=500:=by rw[ha];exact QH List.countP_le_length a0
   have hC:C (i,X)=⟨50,[(2,.pv (gC g)),(5,.pt 80 0 0),(7,.I d),(8,.rs 16 0 X.length),(25,AA F),(26,.I F.length),(27,.I i)],[(80,some ⟨1,[[.rs 72 0 N]],0⟩),(72,some ⟨1,AD (Bo g S d (F.take i)),0⟩),(16,some ⟨1,AD X,0⟩)],200⟩:=rfl;rw[hC];apply ak [2,5,7,8,25,26,27,28] [80,72,16] 208
   .simp
    rfl
   refine AC (AE _ rfl (λ h2=>AJ ?_) λ h2=>Aa (hit ?_))
   .simp only[Qd] at h2
    have hx:=(h7 F[i]).1 (Qj h2);obtain⟨k,hk⟩:∃ k:Nat,F[i]=k:=⟨F[i].toNat,by have:=hx.1.1;omega⟩
    have a3:k<g.size.toNat:=by have:=hx.1.2;omega
    have a4:dl g S d k=d:=by rw[<- hk];exact hx.2
    have hb:=vA h2;rw[hk] at hb;refine FO (ι:=List Int) (λ X'=>⟨50,[(2,.pv (gC g)),(5,.pt 80 0 0),(7,.I d),(8,.rs 16 0 X'.length),(25,AA F),(26,.I F.length),(27,.I i)],[(80,some ⟨1,[[.rs 72 0 N]],0⟩),(72,some ⟨1,AD (Bo g S d (F.take (i+1))),0⟩),(16,some ⟨1,AD X',0⟩)],200⟩) (λ X'=>(∀ t,t∈X' ↔ ∃ x∈F.take (i+1),t∈A7 g.edges x)/\X'.length=g.edges.countP λ e=>decide (e.f∈F.take (i+1))) ?_ ?_
    .have hv:(Bo g S d (F.take i)).length=N:=by rw[Ll,hN]
     have hw:=uD (g:=g) (S:=S) (d:=d) (F:=F.take i) a3 a4
     have h6:AD ((Bo g S d (F.take i)).set k d)=AD (Bo g S d (F.take (i+1))):=by
      rw[eJ a3 a4]
      congr 1
      exact Sk λ x=>(hb x).symm
     have hy:(AD (Bo g S d (F.take i))).set k [AV.I d]=AD (Bo g S d (F.take (i+1))):=by
      rw[<- h6,AD,AD,U8]
     clear h6
     have hj:(AD (Bo g S d (F.take i)))[k]? = some [AV.I (if (k:Int)∈F.take i then (d:Int) else -1)]:=by
      rw[QA,Qc (by omega),hw]
      rfl
     have bs:(AD (Bo g S d (F.take i))).length=N:=by simp[hv]
     generalize hO:AD (Bo g S d (F.take i))=O at *;refine AL ?_;apply ak [2,5,7,8,25,26,27,10] [80,72,16] 232
     .simp [h2,hk]
      rfl
     refine AC (arc ⟨50,[(2,.pv (gC g)),(5,.pt 80 0 0),(7,.I d),(8,.rs 16 0 X.length),(25,AA F),(26,.I F.length),(27,.I i),(10,.I k),(35,.B (decide ((k:Int)∈F.take i)))],[(80,some ⟨1,[[.rs 72 0 N]],0⟩),(72,some ⟨1,O,0⟩),(16,some ⟨1,AD X,0⟩)],272⟩ ?_ ?_)
     .simp [hj,show k<N by omega]
      refine Le.keep rfl (Qk _) ?_ (by simp)
      by_cases an:(k:Int)∈F.take i<;>simp[an]
     refine AE _ rfl (λ h3=>Aa (hit ?_)) λ h3=>AJ ?_
     .simp only[Qd] at h3
      have h4:∀ x,x∈F.take (i+1)↔x∈F.take i:=by
       intro x;rw[hb x];simp
       rintro rfl
       exact h3
      refine⟨X,⟨λ t=>?_,?_⟩,?_⟩
      .rw [h9]
       simp only[h4]
      .rw [ha]
       simp only[h4]
      .rw [Sk h4,hO]
       refine Le.ents [(80,80),(72,72),(16,16)] [] rfl (by simp) (by simp) (by simp) (by simp) (by simp) (by simp) λ p hp=>?_
       simp at hp;rcases hp with rfl | rfl | rfl
       .exact ⟨80,_,_,rfl,by simp,rfl,Am.eq (by simp) (by simp)⟩
       .exact ⟨72,_,_,rfl,by simp,rfl,Am.eq (by rw[<- hO];simp[AB]) (by simp)⟩
       .exact ⟨16,_,_,rfl,by simp,rfl,Am.eq (by simp[AB]) (by simp)⟩
     simp only[Qa] at h3;refine arc ⟨50,[(2,.pv (gC g)),(5,.pt 80 0 0),(7,.I d),(8,.rs 16 0 X.length),(25,AA F),(26,.I F.length),(27,.I i),(10,.I k)],[(80,some ⟨1,[[.rs 72 0 N]],0⟩),(72,some ⟨1,AD (Bo g S d (F.take (i+1))),0⟩),(16,some ⟨1,AD X,0⟩)],312⟩ ?_ ?_
     .simp [hj,show k<N by omega,Ay]
      exact Le.keep rfl (Qk _) (by simp) (by simp;exact hy)
     have hf:=uJ (l:=g.edges) h3;have bt:=PM g.edges k;refine Ac rfl ?_;simp;refine E2 (Vw g k (by omega)) rfl ?_
     simp[AB]
     have au:(λ e:Ed=>decide (e.f∈F.take (i+1)))=λ e:Ed=>decide (e.f∈F.take i++[(k:Int)]):=by
      funext e
      simp only[hb]
     refine⟨by omega,by omega,X++HR (A7 g.edges k),⟨λ t=>?_,?_⟩,?_⟩
     .rw [Qq,fG,h9]
      simp only[hb,Qq,QC];constructor
      .rintro (⟨x,hx,ht⟩ | ht)
       .exact ⟨x,.inl hx,ht⟩
       .exact ⟨k,.inr rfl,ht⟩
      .rintro ⟨x,hx | rfl,ht⟩
       .exact .inl ⟨x,hx,ht⟩
       .exact .inr ht
     .rw [Qg,Oc,ha,au,hf]
     .have e1:List.take X.length (AD X)=AD X:=Qb (by simp)
      have e2:List.take (A7 g.edges k).length (AD (HR (A7 g.edges k)))=AD (HR (A7 g.edges k)):=Qb (by rw[AD,Qr,Oc];exact Qk _)
      have e3:(X++HR (A7 g.edges k)).length=X.length+(A7 g.edges k).length:=by rw[Qg,Oc]
      rw[e1,e3];refine Le.ents [(80,80),(72,72),(344,16)] [] rfl (by simp) (by simp) (by simp) (by simp) (by simp) (by simp) λ p hp=>?_
      simp at hp;rcases hp with rfl | rfl | rfl
      .exact ⟨80,_,_,rfl,by simp,rfl,Am.eq (by simp) (by simp)⟩
      .exact ⟨72,_,_,rfl,by simp,rfl,Am.eq (by simp[AB]) (by simp)⟩
      .refine ⟨344,_,_,rfl,by simp,rfl,Am.eq ?_ (by simp)⟩
       have e4:AD X++List.take (A7 g.edges k).length (AD (HR (A7 g.edges k)))=AD X++AD (HR (A7 g.edges k)):=by rw[e2]
       have e5:(⟨1,AD X++List.take (A7 g.edges k).length (AD (HR (A7 g.edges k))),0⟩:AQ)=⟨1,AD X++AD (HR (A7 g.edges k)),0⟩:=by rw[e4]
       refine(congrArg _ e5).trans ?_;simp[AB]
    rintro X' ⟨k1,k2⟩
    have av:=wq (k:=i);refine Ac rfl ?_;simp[av];refine⟨i+1,X',⟨by omega,k1,k2⟩,by omega,Le.ents [(80,80),(72,72),(16,16)] [] rfl (by simp) (by simp) (by simp[C]) (by simp) (by simp[C]) (by simp[C]) λ p hp=>?_⟩
    simp[C] at hp;rcases hp with rfl | rfl | rfl
    .exact ⟨80,_,_,rfl,by simp,rfl,Am.eq (by simp) (by simp)⟩
    .exact ⟨72,_,_,rfl,by simp,rfl,Am.eq (by simp[AB]) (by simp)⟩
    .exact ⟨16,_,_,rfl,by simp,rfl,Am.eq (by simp[AB]) (by simp)⟩
   simp only[Qa] at h2;obtain rfl:i=F.length:=by omega
   rw[Qb (Qk _)] at h9 ha ⊢;rw[gR d F h7];obtain⟨F',hh⟩:∃ F',F'=X.filter λ e=>!EM (Bn g S (d+1)) e:=⟨_,rfl⟩;have bf:F'.length<=X.length:=by rw[hh];exact QU _ _
   have hz:=XA g S (d+1);have ho:=wI 83 [.pv [AA (Bn g S (d+1))]] (EM (Bn g S (d+1))) X X.length F'.length rfl (by rw[hh]) (by omega) (λ ρ sn h n=>by simp) (λ e _=>fN (Bn g S (d+1)) e (by rw[hz];omega))
   rw[<- hh] at ho;have b1:List.take N (AD (Bn g S (d+1)))=AD (Bn g S (d+1)):=Qb (by rw[AD,Qr,hz];omega)
   have b2:N<=(AD (Bn g S (d+1))).length:=by rw[AD,Qr,hz];omega
   have a5:=λ x=>dI hg h7 h9 x;rw[<- hh] at a5;generalize hO:Bn g S (d+1)=O at *;refine Ac rfl ?_;simp
   refine uX (i:=16) [80,72] (by simp) rfl (e':=⟨1,AD X,0⟩) (by simp[AB]) ho (by simp) ?_ (.rs _ _ _) (by
    intro e he;simp at he;subst he
    exact eB) ?_
   .have a6:N<=O.length:=by simpa using b2
    have a7:List.take N (List.map (λ x=>[AV.I x]) O)=List.map (λ x=>[AV.I x]) O:=b1;simp[AB,a6,a7]
   simp[AB];refine⟨F',⟨by omega,a5⟩,?_⟩
   rw[Om,hO];exact Le.dn N 80 72 80 72 [16] rfl rfl (by simp) (by simp) (by decide) (by decide) (by simp) rfl rfl (by simp[AB]) (by simp[AB,Cz])
  rintro F' ⟨k1,k2⟩
  have b3:=wq (k:=d);refine Ac rfl ?_;simp[b3];exact⟨d+1,F',⟨by omega,k1,k2⟩,by omega,Le.dn N 80 72 80 72 [] rfl rfl (by simp) (by simp) (by decide) (by decide) (by simp) rfl rfl (by simp[AB]) (by simp)⟩
 simp only[Qa] at h;have a8:F=[]:=QL (by omega)
 have h5:∀ k,CM g k->dl g S d k≠d:=by
  intro k hk he;have:=(h7 k).2 ⟨hk,he⟩;rw[a8] at this;simp at this
 have a9:Bn g S d=Bj g S:=by
  unfold Bn Bj;refine QF λ i hi=>?_;simp at hi;have hc:CM g i:=⟨by omega,by omega⟩
  rw[Sq hg h5 i hc];have hr:=FC (g:=g) (S:=S) d i;have:=h5 i hc;rw[Sq hg h5 i hc] at this hr;split<;>omega
 rw[a9];refine AC (AX ?_);refine BG ?_;rw[<- hN];exact⟨.inr rfl,AS.out [72] [] rfl (by simp) (by simp) (by simp) (by simp[AB])⟩
def dP (g:Gr) (S:List Int) (n i:Nat) (k:Int):Int:=if 0<=dl g S n k then dl g S n k else if (g.edges.take i).any (λ e=>decide (e.t=k) && decide (dl g S n e.f=n))=true then (n:Int)+1 else -1
variable {g:Gr} {S:List Int}
theorem PC (n:Nat) (k:Int):dP g S n 0 k=dl g S n k:=by
 unfold dP;have:=FC (g:=g) (S:=S) n k;split
 .rfl
 .simp;omega
theorem Yi (n:Nat) (k:Int):dP g S n g.edges.length k=dl g S (n+1) k:=by
 unfold dP;rw[Qb (Qk _),dl]
theorem dS (n i:Nat) (k:Int):dP g S n i k=n↔dl g S n k=n:=by
 unfold dP;have:=FC (g:=g) (S:=S) n k;split
 .exact Iff.rfl
 .split<;>omega
theorem Tz (n i:Nat) (hi:i<g.edges.length) (k:Int):dP g S n (i+1) k=if dl g S n g.edges[i].f=n/\dP g S n i g.edges[i].t = -1/\k=g.edges[i].t then (n:Int)+1 else dP g S n i k:=by
 have h0:∀ k,(g.edges.take (i+1)).any (λ e=>decide (e.t=k) && decide (dl g S n e.f=n))=((g.edges.take i).any (λ e=>decide (e.t=k) && decide (dl g S n e.f=n)) || (decide (g.edges[i].t=k) && decide (dl g S n g.edges[i].f=n))):=by
  intro k;rw[<- UN hi,UD,List.any_append];simp
 unfold dP;rw[h0]
 by_cases h1:dl g S n g.edges[i].f=n
 .by_cases h2:k=g.edges[i].t
  .subst h2
   simp only[h1,decide_true,Bool.and_self,Bool.or_true,UY,and_true,true_and];have:=FC (g:=g) (S:=S) n g.edges[i].t
   by_cases h3:0<=dl g S n g.edges[i].t
   .simp only[h3,UY]
    rw[if_neg (by omega)]
   .simp only[h3,Ux]
    split<;>simp
  .have h3:decide (g.edges[i].t=k)=false:=by simpa using λ h=>h2 h.symm
   simp only[h3,h2,Bool.false_and,Bool.or_false,and_false,Ux]
 .simp only[h1,decide_false,Bool.and_false,Bool.or_false,false_and,Ux]
def Gi (g:Gr) (S:List Int) (k:Nat):List Int:=(List.range k).map λ (i:Nat)=>dl g S 0 (i:Int)
def Bh (g:Gr) (S:List Int) (n i:Nat):List Int:=(List.range g.size.toNat).map λ (k:Nat)=>dP g S n i (k:Int)
theorem Md (n i:Nat):(Bh g S n i).length=g.size.toNat:=by simp[Bh]
theorem cT:Bh g S 0 0=Gi g S g.size.toNat:=by unfold Bh Gi;simp only[PC]
theorem pR (n:Nat):Bh g S n g.edges.length=Bh g S (n+1) 0:=by unfold Bh;simp only[Yi,PC]
theorem nM:Bh g S g.size.toNat 0=Bj g S:=by unfold Bh Bj AN;simp only[PC]
theorem Wo (n i:Nat) {k:Nat} (hk:k<g.size.toNat):(AD (Bh g S n i))[k]? = some [AV.I (dP g S n i k)]:=by
 simp[Bh,hk]
theorem fR (n i:Nat) (hi:i<g.edges.length) (h:¬ (dl g S n g.edges[i].f=n/\dP g S n i g.edges[i].t = -1)):Bh g S n (i+1)=Bh g S n i:=by
 unfold Bh;refine QF λ k _=>?_;rw[Tz n i hi,if_neg]
 rintro⟨h1,h2,_⟩
 exact h ⟨h1,h2⟩
theorem n4 (n i:Nat) (hi:i<g.edges.length) {k:Nat} (hk:g.edges[i].t=k) (h4:k<g.size.toNat) (h1:dl g S n g.edges[i].f=n) (h2:dP g S n i g.edges[i].t = -1):(AD (Bh g S n i)).set k [AV.I ((n:Int)+1)]=AD (Bh g S n (i+1)):=by
 have e:(Bh g S n i).set k ((n:Int)+1)=Bh g S n (i+1):=by
  apply Vd;intro j
  by_cases hj:j<g.size.toNat
  .have e1:(Bh g S n (i+1))[j]? = some (dP g S n (i+1) j):=by simp[Bh,hj]
   have e2:(Bh g S n i)[j]? = some (dP g S n i j):=by simp[Bh,hj]
   rw[U3,e1,e2,Tz n i hi,Md]
   by_cases h0:k=j
   .subst h0
    rw[if_pos rfl,if_pos h4,if_pos ⟨h1,h2,hk.symm⟩]
   .rw [if_neg h0,if_neg]
    rintro⟨_,_,h3⟩
    rw[hk] at h3;omega
  .rw [Q4 (by rw[Ur,Md];omega),Q4 (by rw[Md];omega)]
 rw[<- e,AD,AD,U8]
theorem bD (k:Nat):Gi g S (k+1)=Gi g S k++[dl g S 0 k]:=by
 unfold Gi;rw[Uk,QT];rfl
theorem Le.l1 {st st':St} {D:List Int} (i j:Nat) (sn:List Nat) (h0:st'.sz=st.sz) (hh:st'.h=[(j,some ⟨1,AD D,0⟩)]) (hj:j<st'.n) (hs:∀ k∈sn,k≠i) (he:st.hp i=some ⟨1,AD D,0⟩) (ht:∀ p∈st'.t,Wk (conv [(i,j)] sn st.hp 4 (st.get p.1)) p.2):Le 0 st st' :=
 Gh h0 hh hj hs he (by simp[AB]) (by simp) ht
theorem LC (g:Gr) (S:List Int) (hg:AI g) (hS:S.length<=1099511627776):AcP 31 [eG g,AA S] [] (.rs 0 0 g.size.toNat) [some ⟨1,AD (Bj g S),0⟩]:=by
 refine bL.s.ai ?_;have a1:=hg.1.1;have hz:=hg.1.2.1;have a0:=hg.1.2.2.1;have hj:g.gone.length<=1000000:=QH hg.gone_le (by omega)
 obtain⟨N,hN⟩:∃ N:Nat,N=g.size.toNat:=⟨_,rfl⟩;refine ar [1,2] [] [16] 32 ?_;refine AC (AX ?_);refine AC (AC (AX ?_));refine AL ?_
 let C:Nat->St:=λ k=>⟨72,[(1,AA S),(2,.pv (gC g)),(5,.rs 16 0 k),(6,.I k)],[(16,some ⟨1,AD (Gi g S k),0⟩)],48⟩
 refine Ae C (λ k=>k<=N) (λ k=>N - k) 0 (Qh _) (Le.lst [] [] [(16,1)] rfl (by simp) (by simp) (by simp) (by simp[C]) (by simp) (by simp) (by simp) (by simp[C,Up]) (by simp[C,Gi])) ?_
 intro k hk;have ho:C k=⟨72,[(1,AA S),(2,.pv (gC g)),(5,.rs 16 0 k),(6,.I k)],[(16,some ⟨1,AD (Gi g S k),0⟩)],48⟩:=rfl;rw[ho];refine AC ?_;apply ak [1,2,5,6,13] [16] 80
 .simp
  rfl
 refine AE _ rfl (λ h=>AJ ?_) λ h=>Aa (hit ?_)
 .simp only[Qd] at h
  refine Ao ⟨72,[(1,AA S),(2,.pv (gC g)),(5,.rs 16 0 (k+1)),(6,.I k)],[(16,some ⟨1,AD (Gi g S (k+1)),0⟩)],48⟩ ?_ ?_
  .rw [bD]
   have h6:(Gi g S k).length=k:=by simp[Gi]
   generalize Gi g S k=A at *;refine AL (arc ⟨72,[(1,AA S),(2,.pv (gC g)),(5,.rs 96 0 (k+1)),(6,.I k)],[(96,some ⟨1,AD A++[[.I (-1)]],0⟩)],112⟩ ?_ ?_)
   .simp [List.replicate,h6]
    refine⟨by omega,by omega,?_⟩
    have e1:List.take k (AD A)=AD A:=Qb (by simp[h6])
    exact Gh (i:=96) (sn:=[]) rfl rfl (by simp) (by simp) rfl (by rw[e1];simp[AB]) (by simp) (by simp)
   refine arc ⟨72,[(1,AA S),(2,.pv (gC g)),(5,.rs 96 0 (k+1)),(6,.I k),(28,.B (DO g S k))],[(96,some ⟨1,AD A++[[.I (-1)]],0⟩)],192⟩ ?_ ?_
   .simp
    refine EU 26 rfl ?_;refine Aq (I2 S k (by omega)) rfl ?_
    simp;refine Dd (λ hb=>?_) (λ hb=>?_)
    .simp [hb]
     refine EU 26 rfl ?_;refine Aq (I2 g.gone k (by omega)) rfl ?_
     simp[hb];exact Gh (i:=96) (sn:=[]) rfl rfl (by simp) (by simp) rfl (by simp[AB]) (by simp) (by simp[DO]<;>exact Aw (by simp_all))
    .simp [hb]
     exact Gh (i:=96) (sn:=[]) rfl rfl (by simp) (by simp) rfl (by simp[AB]) (by simp) (by simp[DO]<;>exact Aw (by simp_all))
   refine AE _ rfl (λ h5=>?_) λ h5=>AJ ?_
   .have h0:dl g S 0 k=0:=by rw[dl,if_pos h5]
    rw[h0];refine Ac rfl ?_
    have h1:(AD A++[[AV.I (-1)]]).set k [AV.I 0]=AD A++[[AV.I 0]]:=by
     rw[List.set_append,if_neg (by simp[h6])]
     simp[h6]
    have hd:(AD A++[[AV.I (-1)]])[k]? = some [AV.I (-1)]:=by
     rw[Qv (by simp[h6])]
     simp[h6]
    simp[hd,Ay,h1];refine⟨by omega,Gh (i:=96) (sn:=[]) rfl rfl (by simp) (by simp) rfl (by simp[AB]) (by simp) (by simp)⟩
   .have h0:dl g S 0 k = -1:=by rw[dl,if_neg (by simp[h5])]
    rw[h0];exact Gh (i:=96) (sn:=[]) rfl rfl (by simp) (by simp) rfl (by simp[AB]) (by simp) (by simp)
  have hu:=wq (k:=k);refine Ac rfl ?_;simp[hu];exact⟨k+1,by omega,by omega,Le.l1 16 16 [] rfl rfl (by simp[C]) (by simp) rfl (by simp[C])⟩
 simp only[Qa] at h;obtain rfl:k=N:=by omega
 have hf:Gi g S k=Bh g S 0 0:=by rw[cT,hN]
 rw[hf];refine AC ?_;apply ak [2,5,7] [16] 88
 .simp
  rfl
 refine AL (Ae (ι:=Nat) (λ n=>⟨72,[(2,.pv (gC g)),(5,.rs 16 0 k),(7,.I n)],[(16,some ⟨1,AD (Bh g S n 0),0⟩)],88⟩) (λ n=>n<=k) (λ n=>k - n) 0 (Qh _) (Le.refl _ _) ?_);intro n hn;refine AC ?_;apply ak [2,5,7,35] [16] 120
 .simp
  rfl
 refine AE _ rfl (λ h=>AJ ?_) λ h=>Aa (hit ?_)
 .simp only[Qd] at h
  refine Ao ⟨72,[(2,.pv (gC g)),(5,.rs 16 0 k),(7,.I n)],[(16,some ⟨1,AD (Bh g S (n+1) 0),0⟩)],88⟩ ?_ ?_
  .rw [<- pR]
   refine AL ?_;apply ak [2,5,7,8] [16] 128
   .simp
    rfl
   refine AL (Ae (ι:=Nat) (λ i=>⟨72,[(2,.pv (gC g)),(5,.rs 16 0 k),(7,.I n),(8,.I i)],[(16,some ⟨1,AD (Bh g S n i),0⟩)],128⟩) (λ i=>i<=g.edges.length) (λ i=>g.edges.length - i) 0 (Qh _) (Le.refl _ _) ?_);intro i hi;refine AC ?_;apply ak [2,5,7,8,42] [16] 168
   .simp
    rfl
   refine AE _ rfl (λ h2=>AJ ?_) λ h2=>Aa (hit ?_)
   .simp only[Qd] at h2
    refine Ao ⟨72,[(2,.pv (gC g)),(5,.rs 16 0 k),(7,.I n),(8,.I i)],[(16,some ⟨1,AD (Bh g S n (i+1)),0⟩)],128⟩ ?_ ?_
    .have h4:=hg.fits g.edges[i] (Qj h2)
     obtain⟨a,ha⟩:∃ a:Nat,g.edges[i].f=a:=⟨g.edges[i].f.toNat,by have:=h4.1;omega⟩
     obtain⟨b,hb⟩:∃ b:Nat,g.edges[i].t=b:=⟨g.edges[i].t.toNat,by have:=h4.2.2.1;omega⟩
     have hv:a<g.size.toNat:=by have:=h4.2.1;omega
     have he:b<g.size.toNat:=by have:=h4.2.2.2.1;omega
     have hh:=Wo (g:=g) (S:=S) n i hv;have h9:=Wo (g:=g) (S:=S) n i he;have a2:(AD (Bh g S n i)).length=k:=by rw[AD,Qr,Md,hN]
     have h3:=fR (S:=S) n i h2;have h1:=n4 (S:=S) n i h2 hb he;rw[ha] at h3 h1;rw[hb] at h3 h1;have h7:=dS (g:=g) (S:=S) n i a;generalize a3:dP g S n i a=va at *;generalize a4:dP g S n i b=vb at *;generalize hM:AD (Bh g S n i)=M at *;have hc:=w6 (x:=(n:Int)+1);refine AL (arc ⟨72,[(2,.pv (gC g)),(5,.rs 16 0 k),(7,.I n),(8,.I i),(9,.pv (eC g.edges[i]))],[(16,some ⟨1,M,0⟩)],128⟩ ?_ ?_)
     .simp [h2]
      exact Gh (i:=16) (sn:=[208]) rfl rfl (by simp) (by simp) rfl (by rw[<- hM];simp[AB]) (by simp) (by simp)
     refine arc ⟨72,[(2,.pv (gC g)),(5,.rs 16 0 k),(7,.I n),(8,.I i),(9,.pv (eC g.edges[i])),(64,.B (decide (va=n/\vb = -1)))],[(16,some ⟨1,M,0⟩)],248⟩ ?_ ?_
     .simp [ha,hb,hh,h9,show a<k by omega,show b<k by omega]
      refine Dd (λ hx=>?_) (λ hx=>?_)
      .simp [hx,ha,hb,hh,h9,show a<k by omega,show b<k by omega]
       refine Le.keep rfl (Qk _) (by simp<;>simp_all<;>rw[Qp]<;>simp) (by simp)
      .simp [hx]
       refine Le.keep rfl (Qk _) (by simp<;>simp_all) (by simp)
     refine AE _ rfl (λ h5=>?_) λ h5=>AJ ?_
     .simp only[Qd] at h5
      have hw:=h1 (h7.1 h5.1) h5.2;refine Ac rfl ?_;simp[ha,hb,h9,show b<k by omega,Ay,hc,hw]
      exact Le.l1 16 16 [] rfl rfl (by simp) (by simp) rfl (by simp)
     .simp only[Qa] at h5
      rw[h3 (λ hq=>h5 ⟨h7.2 hq.1,hq.2⟩),hM];exact Gh (i:=16) (sn:=[]) rfl rfl (by simp) (by simp) rfl (by rw[<- hM];simp[AB]) (by simp) (by simp)
    have hy:=wq (k:=i);refine Ac rfl ?_;simp[hy];exact⟨i+1,by omega,by omega,Le.l1 16 16 [] rfl rfl (by simp) (by simp) rfl (by simp)⟩
   simp only[Qa] at h2;obtain rfl:i=g.edges.length:=by omega
   exact Le.l1 16 16 [] rfl rfl (by simp) (by simp) rfl (by simp)
  have hc:=wq (k:=n);refine Ac rfl ?_;simp[hc];exact⟨n+1,by omega,by omega,Le.l1 16 16 [] rfl rfl (by simp) (by simp) rfl (by simp)⟩
 simp only[Qa] at h;obtain rfl:n=k:=by omega
 rw[hN,nM,<- hN];refine AC (AX ?_);exact B7 [16] []
def FG (c:Int->Int->Int):List Int->Int->List Int
 | [],x=>[x]
 | y::r,x=>if c x y<0 then y::FG c r x else x::y::r
def G3 (c:Int->Int->Int) (M:List Int):List Int:=M.foldl (FG c) []
def Fk (c:Int->Int->Int) (M:List Int):List Int:=(G3 c M).reverse
theorem MC (c:Int->Int->Int):∀ (r:List Int) (x:Int),(FG c r x).Perm (x::r)
 | [],x=>.refl _
 | y::r,x=>by
   unfold FG;split
   .exact ((MC c r x).cons y).trans (.swap _ _ _)
   .exact .refl _
theorem dL (c:Int->Int->Int) (M:List Int) (k:Nat) (h:k<M.length):G3 c (M.take (k+1))=FG c (G3 c (M.take k)) M[k]:=by
 unfold G3;rw[<- UN h,UD,Ve];rfl
theorem Ng (c:Int->Int->Int) (M:List Int):(G3 c M).Perm M:=by
 have key:∀ (M acc:List Int),(M.foldl (FG c) acc).Perm (M++acc):=by
  intro M
  induction M with
  | nil=>intro acc;exact .refl _
  | cons x M ih =>
    intro acc;refine(ih _).trans ?_;refine((MC c acc x).append_left M).trans ?_;simp only[QR];exact List.perm_middle
 simpa [G3] using key M []
theorem zkj (c:Int->Int->Int) (M:List Int):(G3 c M).length=M.length:=(Ng c M).length_eq
theorem nH (c:Int->Int->Int) (x:Int):G3 c [x]=[x]:=rfl
theorem Le.np1 {st st':St} {D:List Int} (sn:List Nat) (h0:st'.sz=st.sz) (hn:1<=st'.n) (hh:st'.h=[(0,some ⟨1,AD D,0⟩)]) (hs:∀ k∈sn,1<=k) (he:st.hp 0=some ⟨1,AD D,0⟩) (ht:∀ p∈st'.t,Wk (conv [(0,0)] sn st.hp 4 (st.get p.1)) p.2):Le 1 st st' :=
 Le.ents [(0,0)] sn h0 (by simp) (by simp) (by simp;omega) (λ k hk=>⟨hs k hk,by have:=hs k hk;simp;omega⟩) hn ht (λ p hp=>by
  rw[hh] at hp;simp at hp;subst hp
  exact⟨0,_,_,rfl,by simp,he,Am.eq (by simp[AB]) (by simp)⟩)
theorem TG {H T:List Int} {y x:Int} {h:Nat} (hh:H.length=h):(AD (H++y::x::T))[h]? = some [AV.I y]/\(AD (H++y::x::T))[h+1]? = some [AV.I x]:=by
 subst hh;constructor
 .rw [QA,Qv (by omega)]
  simp
 .rw [QA,Qv (by omega)]
  simp
theorem gX {H T:List Int} {y x:Int} {h:Nat} (hh:H.length=h):((AD (H++y::x::T)).set (h+1) [AV.I y]).set h [AV.I x]=AD (H++x::y::T):=by
 subst hh;simp[AD,List.set_append]
theorem pD (f:FuncId) (aB:List AV) (c:Int->Int->Int) (A M B:List Int) (n a b:Nat) (hn:(A++M++B).length=n) (ha:A.length=a) (hb:a+M.length=b) (hl:n<=1000000) (hs:G1 aB) (hc:∀ x∈M,∀ y∈M,AcP f (AV.I x::AV.I y::aB) [] (.I (c x y)) []) :
  AcP 169 [.rs 0 0 n,.I a,.I b,.fn (.func f) [] aB] [⟨1,AD (A++M++B),0⟩] (.tup []) [some ⟨1,AD (A++Fk c M++B),0⟩]:=by
 have h9:∀ ρ sn h,aB.map (conv ρ sn h 2)=aB:=λ _ _ _=>hs _ _ _ 1
 have hd:∀ ρ sn h,aB.map (conv ρ sn h 3)=aB:=λ _ _ _=>hs _ _ _ 2
 have h4:∀ ρ sn h,aB.map (conv ρ sn h 4)=aB:=λ _ _ _=>hs _ _ _ 3
 refine jK.s.acalls (CL rfl) (CL rfl) (CL rfl) ?_;show A2 _ 1 _ _ ⟨53,[(0,.rs 0 0 n),(1,.I a),(2,.I b),(3,.fn (.func f) [] aB)],[(0,some ⟨1,AD (A++M++B),0⟩)],16⟩
 have au:a+(M.length+B.length)=n:=by
  simp only[Qg] at hn;omega
 have b1:b<=n:=by omega
 have a5:=wq (k:=a)
 let Lk:Nat->List Int:=λ k=>A++((G3 c (M.take k)).reverse++(M.drop k++B))
 have a6:A++M++B=Lk 1:=by
  cases M with
  | nil=>simp[Lk,G3]
  | cons m M=>simp[Lk,nH]
 rw[a6];apply ak [0,1,2,3,8] [0] 40
 .simp [a5]
  rfl
 refine AL (Ae (ι:=Nat) (λ k=>⟨53,[(0,.rs 0 0 n),(1,.I a),(2,.I b),(3,.fn (.func f) [] aB),(8,.I (a+k:Nat))],[(0,some ⟨1,AD (Lk k),0⟩)],40⟩) (λ k=>1<=k/\k<=M.length+1/\(M.length<=k->AD (Lk k)=AD (A++Fk c M++B))) (λ k=>M.length+1 - k) 1 ?_ (Le.refl _ _) ?_)
 .refine ⟨Qk _,by omega,λ h=>?_⟩
  simp only[Lk];rw[Qb h,Us h];simp[Fk]
 rintro k ⟨b2,b3,a7⟩
 refine AC (arc ⟨53,[(0,.rs 0 0 n),(1,.I a),(2,.I b),(3,.fn (.func f) [] aB),(8,.I (a+k:Nat)),(14,.B (decide (k<M.length)))],[(0,some ⟨1,AD (Lk k),0⟩)],64⟩ ?_ ?_)
 .simp
  exact Le.keep rfl (Qk _) (by simp<;>omega) (by simp)
 refine AE _ rfl (λ h=>AJ ?_) λ h=>Aa (hit ?_)
 .simp only[Qd] at h
  refine Ao ⟨53,[(0,.rs 0 0 n),(1,.I a),(2,.I b),(3,.fn (.func f) [] aB),(8,.I (a+k:Nat))],[(0,some ⟨1,AD (Lk (k+1)),0⟩)],64⟩ ?_ ?_
  .have hx:M[k]∈M:=Qj h
   have hh:M.drop k=M[k]::M.drop (k+1):=QP h;have hi:=dL c M k h;generalize M[k]=x at *;obtain⟨D,hD⟩:=AG (M.drop (k+1)++B);obtain⟨R,hR⟩:=AG (G3 c (M.take k))
   have a8:∀ y∈R,y∈M:=λ y hy=>by
    rw[hR] at hy;exact QZ ((Ng c _).mem_iff.1 hy)
   have hw:R.length=k:=by rw[hR,zkj];simp;omega
   have b4:D.length+k+1=M.length+B.length:=by rw[hD];simp;omega
   have a9:Lk k=A++R.reverse++x::D:=by simp only[Lk];rw[hh,<- hR,hD];simp
   have a0:Lk (k+1)=A++(FG c R x).reverse++D:=by simp only[Lk];rw[hi,<- hR,hD];simp
   rw[a9,a0];refine AL (arc ⟨53,[(0,.rs 0 0 n),(1,.I a),(2,.I b),(3,.fn (.func f) [] aB),(8,.I (a+k:Nat)),(9,.I (a+k:Nat))],[(0,some ⟨1,AD (A++R.reverse++x::D),0⟩)],80⟩ ?_ ?_)
   .simp
    exact Ek
   refine AL ?_
   let C:List Int × List Int->St:=λ p=>⟨53,[(0,.rs 0 0 n),(1,.I a),(2,.I b),(3,.fn (.func f) [] aB),(8,.I (a+k:Nat)),(9,.I (a+p.2.length:Nat))],[(0,some ⟨1,AD (A++p.2.reverse++x::(p.1++D)),0⟩)],80⟩
   refine Ae C (λ p:List Int × List Int=>FG c R x=p.1.reverse++FG c p.2 x/\p.1.length+p.2.length=k /\ ∀ y∈p.2,y∈M) (λ p:List Int × List Int=>p.2.length) ([],R) ⟨rfl,by simpa using hw,a8⟩ ?_ ?_
   .simp only[C,hw,Q5]
    exact Le.refl _ _
   rintro⟨U,V⟩ ⟨h0,h1,h3⟩
   simp only at h0 h1 h3
   match V,h0,h1,h3 with
   | [],h0,h1,h3 =>
     have hC:C (U,[])=⟨53,[(0,.rs 0 0 n),(1,.I a),(2,.I b),(3,.fn (.func f) [] aB),(8,.I (a+k:Nat)),(9,.I a)],[(0,some ⟨1,AD (A++x::(U++D)),0⟩)],80⟩:=by simp[C]
     rw[hC];refine AC (CW ⟨53,[(0,.rs 0 0 n),(1,.I a),(2,.I b),(3,.fn (.func f) [] aB),(8,.I (a+k:Nat)),(34,.B false)],[(0,some ⟨1,AD (A++x::(U++D)),0⟩)],216⟩ ?_ ?_)
     .simp
      exact⟨rfl,Ek⟩
     refine AE _ rfl (λ h=>by cases h) λ h=>Aa (hit ?_)
     have e:A++x::(U++D)=A++(FG c R x).reverse++D:=by rw[h0];simp[FG]
     rw[<- e];exact Le.np1 [] rfl (by simp) rfl (by simp) rfl (by simp[h9,hd,h4])
   | y::V',h0,h1,h3 =>
     obtain⟨H,hH⟩:=AG (A++V'.reverse);obtain⟨T,hT⟩:=AG (U++D);obtain⟨q,hq⟩:=AG (a+V'.length);obtain⟨j,hj⟩:=AG (q+1);have h6:H.length=q:=by rw[hH,hq];simp;omega
     have a1:(H++y::x::T).length=n:=by
      have e:(H++y::x::T).length=H.length+(T.length+2):=by simp
      rw[e,h6,hT,Qg];simp at h1;omega
     have hk:=(TG (T:=T) (y:=y) (x:=x) h6).1;have ho:=(TG (T:=T) (y:=y) (x:=x) h6).2;have h7:=gX (T:=T) (y:=y) (x:=x) h6;rw[<- hj] at ho h7
     have hC:C (U,y::V')=⟨53,[(0,.rs 0 0 n),(1,.I a),(2,.I b),(3,.fn (.func f) [] aB),(8,.I (a+k:Nat)),(9,.I j)],[(0,some ⟨1,AD (H++y::x::T),0⟩)],80⟩:=by
      simp[C,hH,hT,hj,hq,UL]
     rw[hC];have ad:=hc x hx y (h3 y Qn);have a2:j<n:=by rw[<- a1,hj,<- h6];simp
     have hu:IntKind.i64.wrap ((j:Int) - 1)=(q:Int):=by rw[w6];omega
     have a3:q<n:=by omega
     have ag:a<j:=by omega
     have av:(AD (H++y::x::T)).length=n:=by rw[AD,Qr,a1]
     generalize hX:AD (H++y::x::T)=X at *;have hv:∀ ρ sn h m,X.map (List.map (conv ρ sn h (m+1)))=X:=λ ρ sn h m=>by rw[<- hX];simp[AB]
     refine AC ?_;apply al [0,1,2,3,8,9,34] [0] 216
     .simp [ag,a2,a3,hk,ho,hu]
      refine Aq ad ?_ ?_
      .simp [h4]
      simp;exact⟨rfl,rfl⟩
     refine AE _ rfl (λ h5=>AJ ?_) λ h5=>Aa (hit ?_)
     .simp only[Qd] at h5
      have ai:(X.set j [AV.I y])[q]? = some [AV.I y]:=by
       rw[U3,if_neg (by omega)]
       exact hk
      generalize hY:AD (H++x::y::T)=Y at h7;refine Ao ⟨53,[(0,.rs 0 0 n),(1,.I a),(2,.I b),(3,.fn (.func f) [] aB),(8,.I (a+k:Nat)),(9,.I j)],[(0,some ⟨1,Y,0⟩)],360⟩ ?_ ?_
      .refine AL (Cr rfl ?_)
       simp[a2,a3,hk,ho,ai,hu,Ay];exact⟨rfl,Le.keep rfl (Qk _) (by simp) (by simp;exact h7)⟩
      refine Ac rfl ?_;simp[hu];refine⟨y::U,V',⟨?_,?_,?_⟩,?_,?_⟩
      .rw [h0,FG,if_pos h5];simp
      .simp at h1 ⊢;omega
      .exact λ z hz=>h3 z (Ql _ hz)
      .simp
      .have am:C (y::U,V')=⟨53,[(0,.rs 0 0 n),(1,.I a),(2,.I b),(3,.fn (.func f) [] aB),(8,.I (a+k:Nat)),(9,.I q)],[(0,some ⟨1,Y,0⟩)],80⟩:=by rw[<- hY];simp[C,hH,hT,hq]
       rw[am];have hf:∀ ρ sn h m,Y.map (List.map (conv ρ sn h (m+1)))=Y:=λ ρ sn h m=>by rw[<- hY];simp[AB]
       exact Le.ents [(0,0)] [] rfl (by simp) (by simp) (by simp) (by simp) (by simp) (by simp[h9,hd,h4]) λ p hp=>by
        simp at hp;subst hp;exact⟨0,_,_,rfl,by simp,rfl,Am.eq (by simp only[Ab,hf]) (by simp)⟩
     .simp only[Qa] at h5
      have e:H++y::x::T=A++(FG c R x).reverse++D:=by rw[h0,FG,if_neg h5,hH,hT];simp
      rw[<- e,hX]
      exact Le.ents [(0,0)] [] rfl (by simp) (by simp) (by simp) (by simp) (by simp) (by simp[h9,hd,h4]) λ p hp=>by
       simp at hp;subst hp;exact⟨0,_,_,rfl,by simp,rfl,Am.eq (by simp only[Ab,hv]) (by simp)⟩
  have an:IntKind.i64.wrap (((a+k:Nat):Int)+1)=((a+(k+1):Nat):Int):=by rw[w6];omega
  refine Ac rfl ?_;have a4:IntKind.i64.wrap ((a:Int)+(k:Int)+1)=((a+(k+1):Nat):Int):=by rw[<- an];congr 1
  simp[a4];refine⟨k+1,⟨by omega,by omega,λ h2=>?_⟩,by omega,?_⟩
  .have he:M.length=k+1:=by omega
   simp only[Lk];rw[Qb (by omega),Us (by omega)]
   simp[Fk]
  .exact Le.np1 [] rfl (by simp) rfl (by simp) rfl (by simp[h9,hd,h4])
 simp only[Qa] at h;rw[a7 (by omega)]
 exact⟨.inl rfl,⟨[],rfl,[],[],by simp[List.range,List.range.loop],by simp,by simp,by simp,by simp[List.range,List.range.loop,AB]⟩⟩
theorem pB (f:FuncId) (aB:List AV) (c:Int->Int->Int) (l:List Int) (n:Nat) (hn:l.length=n) (hl:n<20) (hs:G1 aB) (hc:∀ x∈l,∀ y∈l,AcP f (AV.I x::AV.I y::aB) [] (.I (c x y)) []) :
  AcP 134 [.rs 0 0 n,.I n,.fn (.func f) [] aB] [⟨1,AD l,0⟩] (.tup []) [some ⟨1,AD (Fk c l),0⟩]:=by
 have h2:∀ ρ sn h,aB.map (conv ρ sn h 2)=aB:=λ _ _ _=>hs _ _ _ 1
 have h1:∀ ρ sn h,aB.map (conv ρ sn h 3)=aB:=λ _ _ _=>hs _ _ _ 2
 have h3:∀ ρ sn h,aB.map (conv ρ sn h 4)=aB:=λ _ _ _=>hs _ _ _ 3
 refine tY.s.ai ?_;have h0:=pD f aB c [] l [] n 0 n (by simpa using hn) rfl (by simpa using hn) (by omega) hs hc
 simp only[Q5,QW] at h0;refine AC (AX ?_);apply ak [0,1,2,6,7,8] [0] 48
 .simp
  rfl
 refine AC (AL (Ae (ι:=Unit) (λ _=>⟨63,[(0,.rs 0 0 n),(1,.I n),(2,.fn (.func f) [] aB),(6,.I 20),(7,.I 0),(8,.I 20)],[(0,some ⟨1,AD l,0⟩)],48⟩) (λ _=>True) (λ _=>0) () trivial (Le.refl _ _) ?_));intro _ _;refine AC (arc ⟨63,[(0,.rs 0 0 n),(1,.I n),(2,.fn (.func f) [] aB),(6,.I 20),(7,.I 0),(8,.I 20),(13,.B false)],[(0,some ⟨1,AD l,0⟩)],72⟩ ?_ ?_)
 .simp
  exact Le.keep rfl (Qk _) (by simp;omega) (by simp)
 refine AE _ rfl (λ h=>by cases h) λ _=>Aa (hit ?_)
 apply ak [1,6] [0] 112
 .simp
  refine Cq (i:=0) rfl (e':=⟨1,AD l,0⟩) (by simp[AB]) h0 (by simp) ?_ ?_
  .simp [h1]
  simp[AB];rfl
 refine AL (Ae (ι:=Unit) (λ _=>⟨63,[(1,.I n),(6,.I 20)],[(0,some ⟨1,AD (Fk c l),0⟩)],112⟩) (λ _=>True) (λ _=>0) () trivial (Le.refl _ _) ?_);intro _ _;refine AC (arc ⟨63,[(1,.I n),(6,.I 20),(30,.B false)],[(0,some ⟨1,AD (Fk c l),0⟩)],136⟩ ?_ ?_)
 .simp
  exact Le.keep rfl (Qk _) (by simp;omega) (by simp)
 refine AE _ rfl (λ h=>by cases h) λ _=>Aa (hit ?_)
 exact⟨.inl rfl,⟨[],rfl,[],[],by simp[List.range,List.range.loop],by simp,by simp,by simp,by simp[List.range,List.range.loop,AB]⟩⟩
theorem Yn (f:FuncId) (aB:List AV) (c:Int->Int->Int) (l:List Int) (n:Nat) (hn:l.length=n) (hl:n<20) (hs:G1 aB) (hc:∀ x∈l,∀ y∈l,AcP f (AV.I x::AV.I y::aB) [] (.I (c x y)) []) :
  AcP 89 [.rs 0 0 n,.fn (.func f) [] aB] [⟨1,AD l,0⟩] (.tup []) [some ⟨1,AD (Fk c l),0⟩]:=by
 have h0:∀ ρ sn h,aB.map (conv ρ sn h 2)=aB:=λ _ _ _=>hs _ _ _ 1
 have h1:∀ ρ sn h,aB.map (conv ρ sn h 3)=aB:=λ _ _ _=>hs _ _ _ 2
 have h2:∀ ρ sn h,aB.map (conv ρ sn h 4)=aB:=λ _ _ _=>hs _ _ _ 3
 refine l5.s.ai ?_;refine Ag (s:=?s1) rfl ?o1 ?q1
 case o1 =>
  simp;refine Cq (i:=0) rfl (e':=⟨1,AD l,0⟩) (by simp[AB]) (pB f aB c l n hn hl hs hc) (by simp) ?_ ?_
  .simp [h0,h1,h2]
  simp[AB];rfl
 exact⟨.inl rfl,⟨[],rfl,[],[],by simp[List.range,List.range.loop],by simp,by simp,by simp,by simp[List.range,List.range.loop,AB]⟩⟩
theorem k6 (D:List Int) (k:Nat) (hk:k<D.length):AcP 88 [.I k,.pv [AA D]] [] (.B (decide (0<=D.getD k 0))) []:=by
 refine nT.s.ai ?_;refine AC (AX ?_);refine AC (Ag (s:=?s1) rfl ?o1 ?q1)
 case o1=>simp[hk];rfl
 exact A9 (AS.one (by simp[hk]))
theorem qF (D:List Int) (a b:Nat) (ha:a<D.length) (hb:b<D.length):AcP 90 [.I a,.I b,.pv [AA D]] [] (.I (EB (D.getD a 0) (D.getD b 0))) []:=by
 refine oD.s.ai ?_;refine AC (AX ?_);refine AC (JE (s:=?s1) (tr:=?t1) rfl ?o1 ?r1 ?q1)
 case o1=>simp[ha,hb];refine Aq (Of ..) rfl ?_;simp;constructor<;>rfl
 case r1=>rfl
 exact A9 (AS.one (by simp[ha,hb]))
variable {g:Gr} {S:List Int}
theorem zlH {k:Nat} (hk:k<g.size.toNat):(Bj g S).getD k 0=AN g S k:=by simp[Bj,List.getD,hk]
theorem KE:(Bj g S).length=g.size.toNat:=by simp[Bj]
def Lt (g:Gr) (S:List Int) (a b:Int):Prop:=AN g S a<AN g S b∨AN g S a=AN g S b/\a<b
def cD (g:Gr) (S:List Int) (a b:Int):Int:=EB (AN g S a) (AN g S b)
def Bi (g:Gr) (S:List Int):Nat->List Int
 | 0=>[]
 | m+1=>Bi g S m++CU g.size.toNat λ k=>decide (AN g S k=m)
def AY (g:Gr) (S:List Int):List Int:=Bi g S g.size.toNat
theorem JQ {n:Nat} {q:Int->Bool} {x:Int}:x∈CU n q↔(0<=x/\x<n)/\q x=true:=by
 unfold CU;simp only[Qx,Qi,Qy];constructor
 .rintro ⟨⟨i,hi,rfl⟩,h⟩
  exact⟨⟨by omega,by omega⟩,h⟩
 .rintro ⟨⟨h1,h2⟩,h⟩
  exact⟨⟨x.toNat,by omega,by omega⟩,h⟩
theorem NS (n:Nat) (q:Int->Bool):(CU n q).Pairwise (· < ·):=by
 unfold CU;refine List.Pairwise.filter _ ?_;rw[U4];exact List.pairwise_lt_range.imp λ h=>by omega
theorem LQ {m:Nat} {x:Int}:x∈Bi g S m↔(0<=x/\x<g.size.toNat)/\0<=AN g S x/\AN g S x<m:=by
 induction m with
 | zero=>simp[Bi]<;>omega
 | succ m ih =>
   rw[Bi,Qq,ih,JQ];simp only[Qd];constructor
   .rintro (⟨h1,h2,h3⟩ | ⟨h1,h2⟩)
    .exact ⟨h1,h2,by omega⟩
    .exact ⟨h1,by omega,by omega⟩
   .rintro ⟨h1,h2,h3⟩
    by_cases h4:AN g S x=m
    .exact .inr ⟨h1,h4⟩
    .exact .inl ⟨h1,h2,by omega⟩
theorem XQ (m:Nat):(Bi g S m).Pairwise (Lt g S):=by
 induction m with
 | zero=>exact .nil
 | succ m ih =>
   rw[Bi,Vn];refine⟨ih,?_,λ a ha b hb=>?_⟩
   .refine (NS _ _).imp_of_mem λ {a b} ha hb h0=>?_
    have h1:=(JQ.1 ha).2;have h2:=(JQ.1 hb).2;simp at h1 h2;exact .inr ⟨by omega,h0⟩
   .have h1:=LQ.1 ha
    have h2:=(JQ.1 hb).2;simp at h2;exact .inl (by omega)
theorem zz1 {a b:Int}:cD g S a b<0↔AN g S a<AN g S b:=by
 simp only[cD,EB]
 grind
theorem zmD:∀ (r:List Int) (x:Int),r.Pairwise (λ a b=>Lt g S b a)->(∀ y∈r,y<x)->(FG (cD g S) r x).Pairwise λ a b=>Lt g S b a
 | [],x,_,_=>by simp[FG]
 | y::r,x,hp,hx=>by
   unfold FG;rw[Uw] at hp;split
   .rename_i h
    rw[zz1] at h;rw[Uw];refine⟨λ z hz=>?_,zmD r x hp.2 λ z hz=>hx z (Ql _ hz)⟩;have:=(MC (cD g S) r x).mem_iff.1 hz;rcases Qs.1 this with rfl | hz
    .exact .inl h
    .exact hp.1 z hz
   .rename_i h
    rw[zz1] at h;rw[Uw,Uw];have h0:=hx y Qn;refine⟨λ z hz=>?_,hp.1,hp.2⟩;rcases Qs.1 hz with rfl | hz
    .unfold Lt;omega
    .have h1:=hp.1 z hz
     have h2:=hx z (Ql _ hz);unfold Lt at *;omega
theorem sF {l:List Int} (h:l.Pairwise (· < ·)):(Fk (cD g S) l).Pairwise (Lt g S):=by
 have key:∀ (l acc:List Int),l.Pairwise (· < ·)->acc.Pairwise (λ a b=>Lt g S b a)->(∀ y∈acc,∀ x∈l,y<x)->(l.foldl (FG (cD g S)) acc).Pairwise λ a b=>Lt g S b a:=by
  intro l
  induction l with
  | nil=>intro acc _ h _;exact h
  | cons x l ih =>
    intro acc hl h0 h1;rw[Uw] at hl;refine ih _ hl.2 (zmD acc x h0 λ y hy=>h1 y hy x Qn) λ y hy z hz=>?_;have:=(MC (cD g S) acc x).mem_iff.1 hy;rcases Qs.1 this with rfl | hy
    .exact hl.1 z hz
    .exact h1 y hy z (Ql _ hz)
 unfold Fk G3;rw[List.pairwise_reverse];exact key l [] h .nil (by simp)
theorem Tw {R:Int->Int->Prop} (hR:∀ a b,R a b->¬ R b a):∀ {l1 l2:List Int},l1.Pairwise R->l2.Pairwise R->(∀ x,x∈l1↔x∈l2)->l1=l2
 | [],[],_,_,_=>rfl
 | [],b::l2,_,_,h=>absurd ((h b).2 Qn) (by simp)
 | a::l1,[],_,_,h=>absurd ((h a).1 Qn) (by simp)
 | a::l1,b::l2,h1,h2,h=>by
   rw[Uw] at h1 h2
   have h0:a=b:=by
    rcases Qs.1 ((h a).1 Qn) with e | ha
    .exact e
    .rcases Qs.1 ((h b).2 Qn) with e | hb
     .exact e.symm
     .exact absurd (h1.1 b hb) (hR _ _ (h2.1 a ha))
   subst h0
   congr 1
   refine Tw hR h1.2 h2.2 λ x=>?_;constructor
   .intro hx
    rcases Qs.1 ((h x).1 (Ql _ hx)) with rfl | hx2
    .exact absurd (h1.1 x hx) (λ q=>hR _ _ q q)
    .exact hx2
   .intro hx
    rcases Qs.1 ((h x).2 (Ql _ hx)) with rfl | hx2
    .exact absurd (h2.1 x hx) (λ q=>hR _ _ q q)
    .exact hx2
theorem p0 (hg:AI g):Fk (cD g S) (CU g.size.toNat λ k=>decide (0<=AN g S k))=AY g S:=by
 refine Tw (R:=Lt g S) (λ a b h1 h2=>by unfold Lt at *;omega) (sF (NS _ _)) (XQ _) λ x=>?_
 have hp:x∈Fk (cD g S) (CU g.size.toNat λ k=>decide (0<=AN g S k))↔x∈CU g.size.toNat λ k=>decide (0<=AN g S k):=by
  unfold Fk;rw[List.mem_reverse];exact(Ng _ _).mem_iff
 rw[hp,JQ];have hm:=LQ (g:=g) (S:=S) (m:=g.size.toNat) (x:=x);unfold AY;rw[hm];simp only[Qd];constructor
 .rintro ⟨h1,h2⟩
  refine⟨h1,h2,?_⟩;rcases Pi hg (S:=S) (k:=x) ⟨h1.1,by omega⟩ with h | h<;>omega
 .rintro ⟨h1,h2,_⟩
  exact⟨h1,h2⟩
section
variable {P:Program} {np id:Nat} {h:Nat->Option AQ} {K:AV->List Nat->List (Nat × Option AQ)->Prop} {f:FuncId} {first aB args aC:List AV} {res:AV}
theorem HY (sn:List Nat) {e:AQ} (hc:AK P f aC [] res [some e]) (he:(first++args++aB).map (conv [] sn h 4)=aC) (hp:Plain res) (h1:IG e) (hk:K (conv (C9 [] id) [] (λ _=>none) 4 res) sn [(id,some (Ab (C9 [] id) [] (λ _=>none) 4 e))]):aK P np id .call (.fn (.func f) first aB::args) h K :=
 ⟨[],sn,false,aC,[],res,[some e],by simp,by simp,by simp,by rw[Vp,he];exact F8 _,rfl,hc,by simp,.inr ⟨hp,λ e' h0=>by simp at h0;subst h0;exact h1⟩,by simpa [C9] using hk⟩
end
theorem K4 {l:List Int}:IG ⟨1,AD l,0⟩:=by
 intro row h0 x hx;simp only[Qi] at h0;obtain⟨y,_,rfl⟩:=h0;simp at hx;subst hx;exact .sc _
variable {g:Gr} {S:List Int}
theorem Oe (hg:AI g) (hN:g.size<20) (hS:S.length<=1099511627776):AcP 44 [eG g,AA S] [] (.rs 0 0 (AY g S).length) [some ⟨1,AD (AY g S),0⟩]:=by
 refine nA.s.ai ?_;have hf:=hg.1.1;obtain⟨N,hd⟩:∃ N:Nat,N=g.size.toNat:=⟨_,rfl⟩;have h0:=Nu g S hg hS;have h4:(Bj g S).length=N:=by rw[KE,hd]
 have h6:∀ k:Nat,k<N->(Bj g S).getD k 0=AN g S k:=λ k hk=>zlH (by omega)
 rw[<- hd] at h0;obtain⟨D,hD⟩:=AG (Bj g S);rw[<- hD] at h0 h4 h6;obtain⟨W,hW⟩:=AG (CU N λ k=>decide (0<=AN g S k));have hh:W.length<=N:=by rw[hW];exact Ig _ _
 have h7:∀ x∈W,0<=x/\x<N:=λ x hx=>by rw[hW] at hx;exact(JQ.1 hx).1
 have h9:AcP 41 [.I N,.fn (.func 88) [] [.pv [AA D]]] [] (.rs 0 0 W.length) [some ⟨1,AD W,0⟩]:=by
  have:=KK 88 [.pv [AA D]] (λ k=>decide (0<=AN g S k)) N (by omega) (λ ρ sn h n=>by simp) (λ k hk=>by
   have h1:=k6 D k (by omega)
   rw[h6 k (by omega)] at h1
   exact h1)
  simpa [<- hW] using this
 have h5:=Yn 90 [.pv [AA D]] (cD g S) W W.length rfl (by omega) (λ ρ sn h n=>by simp) (λ x hx y hy=>by
  obtain⟨a,ha⟩:∃ a:Nat,x=a:=⟨x.toNat,by have:=h7 x hx;omega⟩
  obtain⟨b,hb⟩:∃ b:Nat,y=b:=⟨y.toNat,by have:=h7 y hy;omega⟩
  have h1:=h7 x hx;have h2:=h7 y hy;subst ha hb;have h3:=qF D a b (by omega) (by omega)
  rw[h6 a (by omega),h6 b (by omega)] at h3
  exact h3)
 have hc:Fk (cD g S) W=AY g S:=by rw[hW,hd];exact p0 hg
 have he:(AY g S).length=W.length:=by
  rw[<- hc];unfold Fk;rw[List.length_reverse,zkj]
 rw[hc] at h5;have hi:List.take N (AD D)=AD D:=Qb (by simp[h4])
 have hj:(AD D).length=N:=by simp[h4]
 refine ar [1,2] [] [16] 32 ?_;refine arc ⟨18,[(5,.pv [AA D])],[],72⟩ ?_ ?_
 .simp
  refine E2 h0 rfl ?_;simp[AB];exact A5 [48,56] (by simp[AB,<- h4,Cz])
 refine arc ⟨18,[(5,.pv [AA D]),(6,.rs 96 0 W.length)],[(96,some ⟨1,AD W,0⟩)],112⟩ ?_ ?_
 .simp [h4]
  refine CV h9 ?_;simp[AB];exact Ek
 rw[he];refine arc ⟨18,[(6,.rs 96 0 W.length)],[(96,some ⟨1,AD (AY g S),0⟩)],136⟩ ?_ ?_
 .simp
  refine Cq (i:=96) rfl (e':=⟨1,AD W,0⟩) (by simp[AB]) h5 (by simp) (by simp) ?_
  simp[AB];exact Ek
 refine AC (AX ?_);exact B7 [96] []
theorem XS (hg:AI g) (hS:S.length<=1099511627776):AcP 30 [eG g,AA S] [] (.rs 0 0 (AY g S).length) [some ⟨1,AD (AY g S),0⟩]:=by
 refine jO.s.ai ?_;have hw:=hg.1.1;have hv:=hg.1.2.1;obtain⟨N,h3⟩:∃ N:Nat,N=g.size.toNat:=⟨_,rfl⟩;have h0:=LC g S hg hS;have h7:(Bj g S).length=N:=by rw[KE,h3]
 have h9:∀ k:Nat,k<N->(AD (Bj g S))[k]? = some [AV.I (AN g S k)]:=λ k hk=>by simp[Bj,show k<g.size.toNat by omega]
 rw[<- h3] at h0;obtain⟨D,hD⟩:=AG (Bj g S);rw[<- hD] at h0 h7 h9;refine ar [1,2] [] [16] 32 ?_;refine arc ⟨35,[(2,.pv (gC g)),(5,AA D)],[],64⟩ ?_ ?_
 .simp
  refine E2 h0 rfl ?_;simp[AB];exact A5 [48] (by simp[AB,<- h7,Cz])
 refine AC (AX ?_);refine AC (AC (AX ?_));refine AL ?_
 have h4:∀ n k:Nat,n<=N->k<=N->(Bi g S n++CU k λ x=>decide (AN g S x=n)).length<=100000:=by
  intro n k hn hk
  have h1:∀ m:Nat,m<=64->(Bi g S m).length<=m*64:=by
   intro m
   induction m with
   | zero=>intro _;simp[Bi]
   | succ m ih =>
     intro hm;rw[Bi,Qg];have:=ih (by omega)
     have:=Ig g.size.toNat λ k=>decide (AN g S k=m);omega
  have:=h1 n (by omega)
  have:=Ig k λ x=>decide (AN g S x=n);rw[Qg];omega
 let T:Nat->Nat->List Int:=λ n k=>Bi g S n++CU k λ x=>decide (AN g S x=n)
 have hc:∀ n,T n 0=Bi g S n:=λ n=>by simp[T,CU]
 have hd:∀ n,T n N=Bi g S (n+1):=λ n=>by simp only[T];rw[h3];rfl
 let C:Nat->St:=λ n=>⟨35,[(2,.pv (gC g)),(5,AA D),(6,.rs 16 0 (Bi g S n).length),(7,.I n)],[(16,some ⟨1,AD (Bi g S n),0⟩)],80⟩
 refine Ae C (λ n=>n<=N) (λ n=>N - n) 0 (Qh _) (Le.lst [] [] [(16,1)] rfl (by simp) (by simp) (by simp) (by simp[C]) (by simp) (by simp) (by simp) (by simp[C,Up,Bi]) (by simp[C,Bi])) ?_
 intro n hn;have he:C n=⟨35,[(2,.pv (gC g)),(5,AA D),(6,.rs 16 0 (Bi g S n).length),(7,.I n)],[(16,some ⟨1,AD (Bi g S n),0⟩)],80⟩:=rfl;rw[he];refine AC ?_;apply ak [2,5,6,7,15] [16] 112
 .simp
  rfl
 refine AE _ rfl (λ h=>AJ ?_) λ h=>Aa (hit ?_)
 .simp only[Qd] at h
  refine Ao ⟨35,[(2,.pv (gC g)),(5,AA D),(6,.rs 16 0 (Bi g S (n+1)).length),(7,.I n)],[(16,some ⟨1,AD (Bi g S (n+1)),0⟩)],80⟩ ?_ ?_
  .rw [<- hc n,<- hd n]
   refine AL ?_;apply ak [2,5,6,7,8] [16] 120
   .simp
    rfl
   refine AL (Ae (ι:=Nat) (λ k=>⟨35,[(2,.pv (gC g)),(5,AA D),(6,.rs 16 0 (T n k).length),(7,.I n),(8,.I k)],[(16,some ⟨1,AD (T n k),0⟩)],120⟩) (λ k=>k<=N) (λ k=>N - k) 0 (Qh _) (Le.refl _ _) ?_);intro k hk;have hf:=h4 n k (by omega) hk
   have hh:T n (k+1)=T n k++if AN g S k=n then [(k:Int)] else []:=by
    simp only[T];rw[Pj,Qu]
    congr 2
    by_cases hq:AN g S k=n<;>simp[hq]
   have hi:T n k=Bi g S n++CU k λ x=>decide (AN g S x=n):=rfl;rw[<- hi] at hf;refine AC ?_;apply ak [2,5,6,7,8,21] [16] 152
   .simp
    rfl
   refine AE _ rfl (λ h2=>AJ ?_) λ h2=>Aa (hit ?_)
   .simp only[Qd] at h2
    have hj:k<N:=by omega
    have ha:=h9 k hj;refine Ao ⟨35,[(2,.pv (gC g)),(5,AA D),(6,.rs 16 0 (T n (k+1)).length),(7,.I n),(8,.I k)],[(16,some ⟨1,AD (T n (k+1)),0⟩)],120⟩ ?_ ?_
    .rw [hh]
     generalize T n k=A at *;refine AL (arc ⟨35,[(2,.pv (gC g)),(5,AA D),(6,.rs 16 0 A.length),(7,.I n),(8,.I k),(29,.B (decide (AN g S k=n)))],[(16,some ⟨1,AD A,0⟩)],200⟩ ?_ ?_)
     .simp only[aU,Qo,UE]
      simp
      have h6:D[k]? = some (AN g S k):=by
       have:=ha;rw[AD,QA] at this
       cases hq:D[k]? with
       | none=>rw[hq] at this;simp at this
       | some v=>rw[hq] at this;simp at this;rw[this]
      simp[h6];exact Le.keep rfl (Qk _) (by simp<;>rw[Qp]<;>simp) (by simp)
     refine AE _ rfl (λ h5=>?_) λ h5=>AJ ?_
     .simp only[Qd] at h5
      rw[if_pos h5];refine Ac rfl ?_;simp[List.replicate];refine⟨by omega,by omega,Gh (i:=224) (sn:=[]) rfl rfl (by simp) (by simp) rfl (by simp[AB,Cz]) (by simp) (by simp)⟩
     .simp only[Qa] at h5
      rw[if_neg h5,QW];exact Le.l1 16 16 [] rfl rfl (by simp) (by simp) rfl (by simp)
    have ho:=wq (k:=k);refine Ac rfl ?_;simp[ho];exact⟨k+1,by omega,by omega,Le.l1 16 16 [] rfl rfl (by simp) (by simp) rfl (by simp)⟩
   simp only[Qa] at h2;obtain rfl:k=N:=by omega
   exact Le.l1 16 16 [] rfl rfl (by simp) (by simp) rfl (by simp)
  have hu:=wq (k:=n);refine Ac rfl ?_;simp[hu];exact⟨n+1,by omega,by omega,Le.l1 16 16 [] rfl rfl (by simp[C]) (by simp) rfl (by simp[C])⟩
 simp only[Qa] at h;obtain rfl:n=N:=by omega
 have hb:Bi g S n=AY g S:=by rw[h3];rfl
 rw[hb];refine AC (AX ?_);exact B7 [16] []
variable {A:List Ed} {f:List Int}
def Ah (φ:Ed->Int->Int):List Ed->List Int->Int
 | e::A,v::f=>φ e v+Ah φ A f
 | _,_=>0
def B4 (A:List Ed) (f:List Int) (x:Int):Int:=Ah (λ e v=>if e.f=x then v else 0) A f
def Fy (A:List Ed) (f:List Int) (x:Int):Int:=Ah (λ e v=>if e.t=x then v else 0) A f
structure EK (N:Nat) (A:List Ed):Prop where
 two:2<=N
 arc:∀ e∈A,0<=e.f/\e.f<N/\0<=e.t/\e.t<N/\e.f≠e.t/\e.t≠0/\e.f≠1/\0<=e.v
def CO:List Ed->List Int->Prop
 | e::A,v::f=>(0<=v/\v<=e.v)/\CO A f
 | [],[]=>True
 | _,_=>False
structure BN (N:Nat) (A:List Ed) (f:List Int):Prop where
 fit:CO A f
 bal:∀ x:Nat,2<=x->x<N->B4 A f x=Fy A f x
def AZ (A:List Ed) (f:List Int):Int:=B4 A f 0
theorem CO.len:∀ {A:List Ed} {f:List Int},CO A f->f.length=A.length
 | [],[],_=>rfl
 | _::_,_::_,h=>by simp[h.2.len]
 | [],_::_,h=>h.elim
 | _::_,[],h=>h.elim
theorem TI (φ ψ:Ed->Int->Int):∀ (A:List Ed) (f:List Int),Ah (λ e v=>φ e v+ψ e v) A f=Ah φ A f+Ah ψ A f
 | [],_=>by simp[Ah]
 | _::_,[]=>by simp[Ah]
 | e::A,v::f=>by
   simp only[Ah];rw[TI φ ψ A f];omega
theorem OK (φ ψ:Ed->Int->Int):∀ (A:List Ed) (f:List Int),Ah (λ e v=>φ e v - ψ e v) A f=Ah φ A f - Ah ψ A f
 | [],_=>by simp[Ah]
 | _::_,[]=>by simp[Ah]
 | e::A,v::f=>by
   simp only[Ah];rw[OK φ ψ A f];omega
theorem Jf {φ ψ:Ed->Int->Int}:∀ {A:List Ed} {f:List Int},(∀ e∈A,∀ v,φ e v=ψ e v)->Ah φ A f=Ah ψ A f
 | [],_,_=>by simp[Ah]
 | _::_,[],_=>by simp[Ah]
 | e::A,v::f,h=>by
   simp only[Ah];rw[h e Qn v,Jf λ x hx=>h x (Ql _ hx)]
theorem Lh:∀ {A:List Ed} {f:List Int},Ah (λ _ _=>0) A f=0
 | [],_=>by simp[Ah]
 | _::_,[]=>by simp[Ah]
 | e::A,v::f=>by simp[Ah,Lh (A:=A) (f:=f)]
theorem PL {φ ψ:Ed->Int->Int}:∀ {A:List Ed} {f:List Int},CO A f->(∀ e∈A,∀ v,0<=v->v<=e.v->φ e v<=ψ e v)->Ah φ A f<=Ah ψ A f
 | [],[],_,_=>by simp[Ah]
 | [],_::_,h,_=>h.elim
 | _::_,[],h,_=>h.elim
 | e::A,v::f,h,hh=>by
   simp only[Ah];have h1:=hh e Qn v h.1.1 h.1.2;have h2:=PL h.2 λ x hx=>hh x (Ql _ hx);omega
def G6 (S:Int->Bool) (g:Int->Int):Nat->Int
 | 0=>0
 | n+1=>G6 S g n+if S n then g n else 0
theorem zle (S:Int->Bool) (g h:Int->Int):∀ n,G6 S (λ x=>g x - h x) n=G6 S g n - G6 S h n
 | 0=>rfl
 | n+1=>by
   simp only[G6];rw[zle S g h n];split<;>omega
theorem zhu (S:Int->Bool) (A:List Ed) (f:List Int) (π:Ed->Int):∀ n:Nat,(∀ e∈A,0<=π e)->G6 S (λ x=>Ah (λ e v=>if π e=x then v else 0) A f) n=Ah (λ e v=>if π e<n/\S (π e)=true then v else 0) A f
 | 0,h=>by
   rw[Jf (ψ:=λ _ _=>0) λ e he v=>if_neg λ h2=>by have:=h e he;omega,Lh]
   rfl
 | n+1,h=>by
   have ih:=zhu S A f π n h;simp only[G6];rw[ih]
   by_cases hs:S n=true
   .rw [if_pos hs,<- TI]
    refine Jf λ e he v=>?_;have h0:=h e he
    by_cases h1:π e=n
    .have h2:¬ (π e<(n:Int)/\S (π e)=true):=by omega
     have h3:π e<((n+1:Nat):Int)/\S (π e)=true:=⟨by omega,by rw[h1];exact hs⟩
     rw[if_neg h2,if_pos h1,if_pos h3,Int.zero_add]
    .rw [if_neg h1,Int.add_zero]
     by_cases h2:π e<(n:Int)/\S (π e)=true
     .rw [if_pos h2,if_pos ⟨by omega,h2.2⟩]
     .rw [if_neg h2,if_neg λ h3=>h2 ⟨by omega,h3.2⟩]
   .rw [if_neg hs,Int.add_zero]
    refine Jf λ e he v=>?_;have h0:=h e he
    by_cases h2:π e<(n:Int)/\S (π e)=true
    .rw [if_pos h2,if_pos ⟨by omega,h2.2⟩]
    .rw [if_neg h2,if_neg λ h3=>h2 ⟨?_,h3.2⟩]
     have h4:π e≠n:=λ h5=>hs (h5 ▸ h3.2);omega
def EA (S:Int->Bool) (A:List Ed) (f:List Int):Int:=Ah (λ e v=>if S e.f=true/\S e.t=false then v else 0) A f
def G5 (S:Int->Bool) (A:List Ed) (f:List Int):Int:=Ah (λ e v=>if S e.f=false/\S e.t=true then v else 0) A f
def BQ (S:Int->Bool) (A:List Ed):Int:=Ah (λ e _=>if S e.f=true/\S e.t=false then e.v else 0) A (A.map λ _=>0)
theorem RV (S:Int->Bool) (g:Int->Int) (N:Nat) (h0:S 0=true) (h1:S 1=false) (hg:∀ x:Nat,2<=x->x<N->g x=0):∀ n,n<=N->1<=n->G6 S g n=g 0
 | 0,_,h=>by omega
 | 1,_,_=>by simp[G6,h0]
 | n+2,h,_=>by
   have ih:=RV S g N h0 h1 hg (n+1) (by omega) (by omega)
   simp only[G6] at ih ⊢;rw[ih]
   cases n with
   | zero=>simp[h1]
   | succ n =>
     have:=hg (n+1+1) (by omega) (by omega)
     split<;>omega
theorem PV {N:Nat} (hn:EK N A) (hf:BN N A f) {S:Int->Bool} (h0:S 0=true) (h1:S 1=false):AZ A f=EA S A f - G5 S A f:=by
 have e1:=RV S (λ x=>B4 A f x - Fy A f x) N h0 h1 (λ x h2 h3=>by have:=hf.bal x h2 h3;omega) N (Qk _) (by have:=hn.two;omega)
 have e2:Fy A f 0=0:=by
  unfold Fy;rw[Jf (ψ:=λ _ _=>0) λ e he v=>if_neg (hn.arc e he).2.2.2.2.2.1,Lh]
 rw[zle] at e1;have e3:=zhu S A f (·.f) N λ e he=>(hn.arc e he).1
 have e4:=zhu S A f (·.t) N λ e he=>(hn.arc e he).2.2.1
 have e5:G6 S (B4 A f) N=_:=e3;have e6:G6 S (Fy A f) N=_:=e4;rw[e5,e6,<- OK] at e1;unfold AZ EA G5;rw[<- OK];have e7:B4 A f 0=B4 A f 0 - Fy A f 0:=by omega
 rw[e7,<- e1];refine Jf λ e he v=>?_;obtain⟨q1,q2,q3,q4,_⟩:=hn.arc e he
 cases h4:S e.f<;>cases h5:S e.t<;>simp[q2,q4]
theorem Nm (hf:CO A f) (S:Int->Bool):EA S A f<=BQ S A:=by
 have key:∀ {A:List Ed} {f:List Int},CO A f->Ah (λ e _=>if S e.f=true/\S e.t=false then e.v else 0) A (A.map λ _=>0)=Ah (λ e _=>if S e.f=true/\S e.t=false then e.v else 0) A f:=by
  intro A
  induction A with
  | nil=>intro f _;simp[Ah]
  | cons e A ih =>
    intro f h
    cases f with
    | nil=>exact h.elim
    | cons v f=>simp only[Ah,Qo];rw[ih h.2]
 unfold EA BQ;rw[key hf];exact PL hf λ e _ v h1 h2=>by split<;>omega
theorem Pr (hf:CO A f) (S:Int->Bool):0<=G5 S A f:=by
 have:Ah (λ _ _=>0) A f<=G5 S A f:=PL hf λ e _ v h1 h2=>by split<;>omega
 rw[Lh] at this;exact this
theorem KA {N:Nat} (hn:EK N A) (hf:BN N A f) {S:Int->Bool} (h0:S 0=true) (h1:S 1=false):AZ A f<=BQ S A:=by
 rw[PV hn hf h0 h1];have:=Nm hf.fit S;have:=Pr hf.fit S;omega
variable {A:List Ed} {N:Nat} {f:List Int} {δ:Int}
def AP (A:List Ed) (i:Nat):Ed:=A.getD i ⟨0,0,0⟩
theorem H5 {i:Nat} (h:i<A.length):AP A i∈A:=by
 unfold AP;rw[Qe,Qc h];exact Qj h
abbrev Ba:=Nat × Bool
def Cb (A:List Ed) (s:Ba):Int:=if s.2 then (AP A s.1).t else (AP A s.1).f
def Ax (A:List Ed) (s:Ba):Int:=if s.2 then (AP A s.1).f else (AP A s.1).t
def B6 (A:List Ed) (f:List Int) (s:Ba):Int:=if s.2 then f.getD s.1 0 else (AP A s.1).v - f.getD s.1 0
def Fv (δ:Int) (f:List Int) (s:Ba):List Int:=f.set s.1 (f.getD s.1 0+if s.2 then -δ else δ)
def Fp (δ:Int) (f:List Int) (l:List Ba):List Int:=l.foldl (Fv δ) f
theorem Ou (φ:Ed->Int->Int):∀ (A:List Ed) (f:List Int) (i:Nat) (v:Int),i<A.length->f.length=A.length->Ah φ A (f.set i v)=Ah φ A f+(φ (AP A i) v - φ (AP A i) (f.getD i 0))
 | [],_,_,_,h,_=>by simp at h
 | _::_,[],_,_,_,h=>by simp at h
 | e::A,w::f,0,v,_,_=>by
   simp only[List.set_cons_zero,Ah];have h1:AP (e::A) 0=e:=rfl;have h2:(w::f).getD 0 0=w:=rfl;rw[h1,h2];omega
 | e::A,w::f,i+1,v,h,hl=>by
   simp only[List.set_cons_succ,Ah];have h1:AP (e::A) (i+1)=AP A i:=by simp[AP]
   have h2:(w::f).getD (i+1) 0=f.getD i 0:=by simp
   rw[Ou φ A f i v (by simpa using h) (by simpa using hl),h1,h2]
   omega
def Cv (A:List Ed) (f:List Int) (x:Int):Int:=B4 A f x - Fy A f x
theorem PD {s:Ba}:(Fv δ f s).length=f.length:=Ur ..
theorem Kd {δ:Int}:∀ {l:List Ba} {f:List Int},(Fp δ f l).length=f.length
 | [],_=>rfl
 | s::l,f=>by
   show (Fp δ (Fv δ f s) l).length=_;rw[Kd,PD]
theorem Wd {s:Ba} (hs:s.1<A.length) (hl:f.length=A.length) (x:Int) :
  Cv A (Fv δ f s) x=Cv A f x+(if Cb A s=x then δ else 0) - if Ax A s=x then δ else 0:=by
 unfold Cv B4 Fy Fv;rw[Ou _ A f s.1 _ hs hl,Ou _ A f s.1 _ hs hl];unfold Cb Ax;generalize AP A s.1=e;generalize f.getD s.1 0=v;generalize Ah _ A f=p;generalize Ah _ A f=q;obtain⟨i,b⟩:=s
 cases b
 .simp only[Ud,Ux]
  by_cases h1:e.f=x<;>by_cases h2:e.t=x<;>simp only[h1,h2,UY,Ux]<;>omega
 .simp only[UY]
  by_cases h1:e.f=x<;>by_cases h2:e.t=x<;>simp only[h1,h2,UY,Ux]<;>omega
def D8 (A:List Ed):Int->List Ba->Int->Prop
 | u,[],w=>u=w
 | u,s::l,w=>s.1<A.length/\Cb A s=u/\D8 A (Ax A s) l w
theorem Wi {A:List Ed} {δ:Int} (x w:Int):∀ {l:List Ba} {f:List Int} {u:Int},f.length=A.length->D8 A u l w->Cv A (Fp δ f l) x=Cv A f x+(if u=x then δ else 0) - if w=x then δ else 0
 | [],f,u,_,h=>by
   have h':u=w:=h;subst h';show Cv A f x=_;omega
 | s::l,f,u,hl,h=>by
   obtain⟨h1,h2,h3⟩:=h;show Cv A (Fp δ (Fv δ f s) l) x=_;rw[Wi x w (by rw[PD,hl]) h3,Wd h1 hl x,h2]
   omega
theorem HB:CO A f↔f.length=A.length /\ ∀ i,i<A.length->0<=f.getD i 0/\f.getD i 0<=(AP A i).v:=by
 induction A generalizing f with
 | nil =>
   cases f with
   | nil=>simp[CO]
   | cons v f=>simp[CO]
 | cons e A ih =>
   cases f with
   | nil=>simp[CO]
   | cons v f =>
     show (0<=v/\v<=e.v)/\CO A f↔_;rw[ih];constructor
     .rintro ⟨h1,h2,h3⟩
      refine⟨by simp[h2],λ i hi=>?_⟩
      cases i with
      | zero=>exact h1
      | succ i =>
        have:=h3 i (by simpa using hi)
        simpa [AP] using this
     .rintro ⟨h1,h2⟩
      refine⟨h2 0 (by simp),by simpa using h1,λ i hi=>?_⟩
      have:=h2 (i+1) (by simpa using hi)
      simpa [AP] using this
theorem Ky {δ:Int}:∀ {l:List Ba} {f:List Int} {i:Nat},(l.map (·.1)).Nodup->(∀ s∈l,s.1<f.length) ->
  (i∉l.map (·.1)->(Fp δ f l).getD i 0=f.getD i 0) /\ ∀ b,(i,b)∈l->(Fp δ f l).getD i 0=f.getD i 0+if b then -δ else δ
 | [],f,i,_,_=>⟨λ _=>rfl,λ b hb=>by simp at hb⟩
 | s::l,f,i,hn,hr=>by
   rw[Qo,Q7] at hn;have ih:=Ky (δ:=δ) (l:=l) (f:=Fv δ f s) (i:=i) hn.2 λ x hx=>by rw[PD];exact hr x (Ql _ hx)
   have hs:=hr s (Qn ..)
   have h0:∀ j,(Fv δ f s).getD j 0=if s.1=j then f.getD j 0+(if s.2 then -δ else δ) else f.getD j 0:=λ j=>by
    unfold Fv
    by_cases hj:s.1=j
    .subst hj
     rw[if_pos rfl,Qe,List.getElem?_set_self hs,QB]
    .rw [if_neg hj,Qe,List.getElem?_set_ne hj,Qe]
   refine⟨λ hi=>?_,λ b hb=>?_⟩
   .rw [Qo,Qs,not_or] at hi
    show (Fp δ (Fv δ f s) l).getD i 0=_;rw[ih.1 hi.2,h0,if_neg λ e=>hi.1 e.symm]
   .show (Fp δ (Fv δ f s) l).getD i 0=_
    rcases Qs.1 hb with hb | hb
    .subst hb
     rw[ih.1 hn.1,h0,if_pos rfl]
    .have h1:s.1≠i:=λ e=>hn.1 (e ▸ Qi.2 ⟨_,hb,rfl⟩)
     rw[ih.2 b hb,h0,if_neg h1]
theorem wO {l:List Ba} (hf:CO A f) (h0:0<=δ) (hn:(l.map (·.1)).Nodup) (hr:∀ s∈l,s.1<A.length/\δ<=B6 A f s):CO A (Fp δ f l):=by
 rw[HB] at hf ⊢;refine⟨by rw[Kd,hf.1],λ i hi=>?_⟩
 have hg:=Ky (δ:=δ) (f:=f) (i:=i) hn λ s hs=>by rw[hf.1];exact(hr s hs).1
 have h3:=hf.2 i hi
 by_cases hm:i∈l.map (·.1)
 .obtain ⟨⟨j,b⟩,hs,rfl⟩:=Qi.1 hm
  have h1:=hg.2 b hs;have h2:=(hr _ hs).2;simp only at h1 h2 h3 ⊢;rw[h1];unfold B6 at h2
  cases b
  .simp only[Ud,Ux] at h2 ⊢
   omega
  .simp only[UY] at h2 ⊢
   omega
 .rw [hg.1 hm]
  exact h3
theorem Ov (hn:EK N A) (f:List Int):Fy A f 0=0:=by
 unfold Fy;rw[Jf (ψ:=λ _ _=>0) λ e he v=>if_neg (hn.arc e he).2.2.2.2.2.1,Lh]
theorem n5 {l:List Ba} (hn:EK N A) (hf:BN N A f) (h0:0<=δ) (hw:D8 A 0 l 1) (hd:(l.map (·.1)).Nodup) (hr:∀ s∈l,s.1<A.length/\δ<=B6 A f s) :
  BN N A (Fp δ f l)/\AZ A (Fp δ f l)=AZ A f+δ:=by
 have hl:=hf.fit.len;have hx:=λ x=>Wi (A:=A) (δ:=δ) x 1 (l:=l) (f:=f) hl hw;refine⟨⟨wO hf.fit h0 hd hr,λ x h2 hN=>?_⟩,?_⟩
 .have h3:=hx x
  have h4:=hf.bal x h2 hN;rw[if_neg (by omega),if_neg (by omega)] at h3
  unfold Cv at h3;omega
 .have h3:=hx 0
  rw[if_pos rfl,if_neg (by omega)] at h3
  unfold Cv at h3;rw[Ov hn,Ov hn] at h3;unfold AZ;omega
theorem ZR (hn:EK N A) (hf:BN N A f) {S:Int->Bool} (h0:S 0=true) (h1:S 1=false) (hc:∀ s:Ba,s.1<A.length->S (Cb A s)=true->0<B6 A f s->S (Ax A s)=true):AZ A f=BQ S A:=by
 rw[PV hn hf h0 h1]
 have key:∀ {A:List Ed} {f:List Int},CO A f->(∀ s:Ba,s.1<A.length->S (Cb A s)=true->0<B6 A f s->S (Ax A s)=true)->EA S A f=BQ S A/\G5 S A f=0:=by
  intro A
  induction A with
  | nil=>intro f _ _;simp[EA,G5,BQ,Ah]
  | cons e A ih =>
    intro f hf hc
    cases f with
    | nil=>exact hf.elim
    | cons v f =>
      have h2:=ih hf.2 λ s hs h3 hr=>by
       have:=hc (s.1+1,s.2) (by simpa using hs) (by simpa [Cb,AP] using h3) (by simpa [B6,AP] using hr)
       simpa [Ax,AP] using this
      have ha:=hc (0,false) (by simp)
      have hb:=hc (0,true) (by simp)
      simp[Cb,Ax,B6,AP] at ha hb;have hv:=hf.1;unfold EA G5 BQ at h2 ⊢;simp only[Ah,Qo];obtain⟨p1,p2⟩:=h2;rw[p1,p2]
      cases hF:S e.f<;>cases hT:S e.t<;>simp[hF,hT] at ha hb ⊢<;>omega
 obtain⟨p1,p2⟩:=key hf.fit hc;rw[p1,p2];omega
variable {A:List Ed} {D f:List Int}
theorem D8.snoc {A:List Ed}:∀ {l:List Ba} {u w:Int} {s:Ba},D8 A u l w->s.1<A.length->Cb A s=w->D8 A u (l++[s]) (Ax A s)
 | [],u,w,s,h,h1,h2=>⟨h1,by rw[h2];exact(show u=w from h).symm,rfl⟩
 | t::l,u,w,s,h,h1,h2=>⟨h.1,h.2.1,D8.snoc h.2.2 h1 h2⟩
structure LG (A:List Ed) (f:List Int) (D:List Int) (by_:Int->Ba):Prop where
 zero:D.head? = some 0
 nodup:D.Nodup
 step:∀ j (h:j<D.length),0<j->(by_ D[j]).1<A.length/\Ax A (by_ D[j])=D[j]/\Cb A (by_ D[j])∈D.take j/\0<B6 A f (by_ D[j])
theorem jV {s t:Ba} (h:s.1=t.1):(Cb A s=Cb A t/\Ax A s=Ax A t)∨(Cb A s=Ax A t/\Ax A s=Cb A t):=by
 obtain⟨i,b⟩:=s;obtain⟨j,c⟩:=t;simp only at h;subst h;unfold Cb Ax
 cases b<;>cases c<;>simp
theorem LG.way {by_:Int->Ba} (h:LG A f D by_):∀ (n j:Nat) (hj:j<D.length),j<=n ->
  ∃ l,D8 A 0 l D[j]/\(l.map (·.1)).Nodup /\ ∀ s∈l,s.1<A.length/\0<B6 A f s/\by_ (Ax A s)=s/\Ax A s≠0/\Cb A s∈D.take (j+1)/\Ax A s∈D.take (j+1)
 | n,0,hj,_=>by
   refine⟨[],?_,by simp,by simp⟩
   show (0:Int)=D[0];have h0:=h.zero;rw[List.head?_eq_getElem?,Qc hj] at h0;exact(Qf h0).symm
 | 0,j+1,_,hn=>by omega
 | n+1,j+1,hj,hn=>by
   obtain⟨h1,h2,h3,h4⟩:=h.step (j+1) hj (by omega)
   obtain⟨i,hi,h6⟩:=QG.1 h3;rw[QV] at hi;rw[UU] at h6;have hf:i<j+1:=by omega
   obtain⟨l,w1,w2,w3⟩:=h.way n i (by omega) (by omega)
   have h7:∀ (k m:Nat) (hk:k<D.length) (hm:m<D.length),k≠m->D[k]≠D[m]:=λ k m hk hm hh he=>by
    rcases Um k m with hd | hge
    .exact QX.1 h.nodup k m hk hm hd he
    .exact QX.1 h.nodup m k hm hk (by omega) he.symm
   have h5:D[j+1]∉D.take (i+1):=λ hm=>by
    obtain⟨k,hk,h9⟩:=QG.1 hm;rw[QV] at hk;rw[UU] at h9;exact h7 k (j+1) (by omega) hj (by omega) h9
   have hc:∀ x,x∈D.take (i+1)->x∈D.take (j+1+1):=λ x hx=>(List.take_sublist_take_left (by omega:i+1<=j+1+1)).subset hx
   have h0:D[j+1]≠0:=λ he=>by
    have hz:=h.zero;rw[List.head?_eq_getElem?,Qc (by omega)] at hz
    exact h7 0 (j+1) (by omega) hj (by omega) ((Qf hz).trans he.symm)
   refine⟨l++[by_ D[j+1]],?_,?_,λ s hs=>?_⟩
   .have:=D8.snoc (s:=by_ D[j+1]) w1 h1 h6.symm
    rw[h2] at this;exact this
   .rw [QT,Uh]
    refine⟨w2,by simp,λ a ha b hb=>?_⟩
    obtain⟨t,ht,rfl⟩:=Qi.1 ha;simp only[Qo,UE,QC] at hb;subst hb;intro he;obtain⟨_,_,_,_,q1,q2⟩:=w3 t ht;rcases jV (A:=A) he with ⟨e1,e2⟩ | ⟨e1,e2⟩
    .rw [e2,h2] at q2
     exact h5 q2
    .rw [e1,h2] at q1
     exact h5 q1
   .rcases Qq.1 hs with hs | hs
    .obtain ⟨p1,p2,p3,p4,p5,p6⟩:=w3 s hs
     exact⟨p1,p2,p3,p4,hc _ p5,hc _ p6⟩
    .rw [QC] at hs
     subst hs;refine⟨h1,h4,by rw[h2],by rw[h2];exact h0,?_,?_⟩
     .exact (List.take_sublist_take_left (by omega:j+1<=j+1+1)).subset h3
     .rw [h2]
      refine QG.2 ⟨j+1,by rw[QV];omega,by rw[UU]⟩
def Hv (A:List Ed) (f D:List Int):Prop:=∀ s:Ba,s.1<A.length->Cb A s∈D->0<B6 A f s->Ax A s∈D
theorem Ji {N:Nat} (hn:EK N A) (hf:BN N A f) (h0:(0:Int)∈D) (h1:(1:Int)∉D) (hc:Hv A f D):AZ A f=BQ (λ x=>decide (x∈D)) A /\ ∀ f',BN N A f'->AZ A f'<=AZ A f:=by
 have e:=ZR (S:=λ x=>decide (x∈D)) hn hf (by simpa using h0) (by simpa using h1) λ s hs hF hr=>by
  have:=hc s hs (by simpa using hF) hr
  simpa using this
 refine⟨e,λ f' h2=>?_⟩;rw[e];exact KA hn h2 (by simpa using h0) (by simpa using h1)
theorem XY {N:Nat} {by_:Int->Ba} (hn:EK N A) (hf:BN N A f) (ht:LG A f D by_) {S:Int->Bool} (h0:S 0=true) (h1:S 1=false) (hS:BQ S A=AZ A f):∀ x∈D,S x=true:=by
 have hv:=PV hn hf h0 h1;have ho:=Nm hf.fit S;have hi:=Pr hf.fit S;have h4:EA S A f=BQ S A:=by omega
 have h5:G5 S A f=0:=by omega
 have key:∀ {A:List Ed} {f:List Int},CO A f->EA S A f=BQ S A->G5 S A f=0 -> ∀ s:Ba,s.1<A.length->S (Cb A s)=true->0<B6 A f s->S (Ax A s)=true:=by
  intro A
  induction A with
  | nil=>intro f _ _ _ s hs;simp at hs
  | cons e A ih =>
    intro f hf ho hi s hs hF hr
    cases f with
    | nil=>exact hf.elim
    | cons v f =>
      have k1:=Nm hf.2 S;have k2:=Pr hf.2 S;have hv:=hf.1;have e1:EA S (e::A) (v::f)=(if S e.f=true/\S e.t=false then v else 0)+EA S A f:=rfl
      have e2:G5 S (e::A) (v::f)=(if S e.f=false/\S e.t=true then v else 0)+G5 S A f:=rfl
      have e3:BQ S (e::A)=(if S e.f=true/\S e.t=false then e.v else 0)+BQ S A:=rfl
      rw[e1,e3] at ho;rw[e2] at hi;obtain⟨i,b⟩:=s
      cases i with
      | zero =>
        cases b
        .simp [Cb,Ax,B6,AP] at hF hr ⊢
         cases hT:S e.t
         .simp [hF,hT] at ho
          omega
         .rfl
        .simp [Cb,Ax,B6,AP] at hF hr ⊢
         cases hT:S e.f
         .simp [hF,hT] at hi
          omega
         .rfl
      | succ i =>
        have q1:EA S A f=BQ S A:=by
         split at ho<;>omega
        have q2:G5 S A f=0:=by
         split at hi<;>omega
        have:=ih hf.2 q1 q2 (i,b) (by simpa using hs) (by simpa [Cb,AP] using hF) (by simpa [B6,AP] using hr)
        simpa [Ax,AP] using this
 have h6:=key hf.fit h4 h5
 have h2:∀ (n j:Nat) (hj:j<D.length),j<=n->S D[j]=true:=by
  intro n
  induction n with
  | zero =>
    intro j hj hn;have hj0:j=0:=by omega
    subst hj0;have hz:=ht.zero;rw[List.head?_eq_getElem?,Qc hj] at hz;rw[Qf hz];exact h0
  | succ n ih =>
    intro j hj hn;rcases Un j with hj0 | hj0
    .exact ih j hj (by omega)
    .obtain ⟨q1,q2,q3,q4⟩:=ht.step j hj hj0
     obtain⟨i,hi,h3⟩:=QG.1 q3;rw[QV] at hi;rw[UU] at h3;have:=h6 _ q1 (by rw[<- h3];exact ih i (by omega) (by omega)) q4
     rw[q2] at this;exact this
 intro x hx;obtain⟨j,hj,rfl⟩:=QG.1 hx;exact h2 j j hj (Qk _)
variable {A:List Ed}
def Ca (A:List Ed):Int->List Nat->Int->Prop
 | u,[],w=>u=w
 | u,i::l,w=>i<A.length/\(AP A i).f=u/\Ca A (AP A i).t l w
theorem Ca.snoc {A:List Ed}:∀ {l:List Nat} {u w:Int} {i:Nat},Ca A u l w->i<A.length->(AP A i).f=w->Ca A u (l++[i]) (AP A i).t
 | [],u,w,i,h,h1,h2=>⟨h1,by rw[h2];exact(show u=w from h).symm,rfl⟩
 | j::l,u,w,i,h,h1,h2=>⟨h.1,h.2.1,Ca.snoc h.2.2 h1 h2⟩
def CA (A:List Ed) (l:List Nat):List Int:=l.map λ i=>(AP A i).t
theorem Y9 (A:List Ed) (l:List Nat) (i:Nat):CA A (l++[i])=CA A l++[(AP A i).t]:=by simp[CA]
theorem Ca.take {A:List Ed}:∀ {l:List Nat} {u w:Int} (n:Nat),Ca A u l w -> ∀ x,(u::CA A l)[n]? = some x->Ca A u (l.take n) x
 | l,u,w,0,_,x,hx=>by
   have:u=x:=by simpa using hx
   exact this
 | [],u,w,n+1,_,x,hx=>by simp[CA] at hx
 | i::l,u,w,n+1,h,x,hx=>by
   refine⟨h.1,h.2.1,Ca.take n h.2.2 x ?_⟩
   simpa [CA] using hx
theorem oZ (l:List Nat) (n i:Nat):(l.take n).count i<=l.count i:=(List.take_sublist n l).count_le i
structure Hc (A:List Ed) (f g:List Int) (l:List Nat) (w:Int):Prop where
 len:g.length=A.length
 nonneg:∀ i,0<=g.getD i 0
 way:Ca A 0 l w
 met:((0:Int)::CA A l).Nodup
 used:∀ i,g.getD i 0+(l.count i:Int)<=f.getD i 0
 ex:∀ x,Cv A g x=Cv A f x - (if x=0 then 1 else 0)+if x=w then 1 else 0
theorem Hc.start {f:List Int} (hl:f.length=A.length) (h0:∀ i,0<=f.getD i 0):Hc A f f [] 0 :=
 ⟨hl,h0,rfl,by simp[CA],λ i=>by simp,λ x=>by split<;>omega⟩
theorem WF (f:List Int) (i j:Nat) (v:Int) (h:i<f.length):(f.set i v).getD j 0=if i=j then v else f.getD j 0:=by
 by_cases hj:i=j
 .subst hj
  rw[if_pos rfl,Qe,List.getElem?_set_self h,QB]
 .rw [if_neg hj,Qe,List.getElem?_set_ne hj,Qe]
theorem Hc.more {f g:List Int} {l:List Nat} {w:Int} (h:Hc A f g l w) {k:Nat} (hk:k<A.length) (hf:(AP A k).f=w) (hg:0<g.getD k 0) :
  ((AP A k).t∉((0:Int)::CA A l)->Hc A f (g.set k (g.getD k 0 - 1)) (l++[k]) (AP A k).t) /\
  ∀ n,((0:Int)::CA A l)[n]? = some (AP A k).t->Hc A f (g.set k (g.getD k 0 - 1)) (l.take n) (AP A k).t:=by
 have h0:k<g.length:=by rw[h.len];exact hk
 have h5:∀ i,0<=(g.set k (g.getD k 0 - 1)).getD i 0:=λ i=>by
  rw[WF g k i _ h0];split
  .omega
  .exact h.nonneg i
 have h6:∀ x,Cv A (g.set k (g.getD k 0 - 1)) x=Cv A f x - (if x=0 then 1 else 0)+if x=(AP A k).t then 1 else 0:=λ x=>by
  have h1:=Wd (A:=A) (f:=g) (δ:=-1) (s:=(k,false)) hk h.len x;have h2:Fv (-1) g (k,false)=g.set k (g.getD k 0 - 1):=rfl;have h3:Cb A (k,false)=w:=hf;have h4:Ax A (k,false)=(AP A k).t:=rfl;rw[h2,h3,h4,h.ex x] at h1;rw[h1]
  have e1:(if w=x then (-1:Int) else 0) = - if x=w then 1 else 0:=by
   by_cases hh:w=x
   .rw [if_pos hh,if_pos hh.symm]
   .rw [if_neg hh,if_neg λ e=>hh e.symm,Int.neg_zero]
  have e2:(if (AP A k).t=x then (-1:Int) else 0) = - if x=(AP A k).t then 1 else 0:=by
   by_cases hh:(AP A k).t=x
   .rw [if_pos hh,if_pos hh.symm]
   .rw [if_neg hh,if_neg λ e=>hh e.symm,Int.neg_zero]
  rw[e1,e2];omega
 have h7:∀ i,(g.set k (g.getD k 0 - 1)).getD i 0+((l++[k]).count i:Int)<=f.getD i 0:=λ i=>by
  have h1:=h.used i;rw[WF g k i _ h0,Vo]
  by_cases hi:k=i
  .subst hi
   rw[if_pos rfl,show List.count k [k]=1 by simp]
   omega
  .rw [if_neg hi,show List.count i [k]=0 from List.count_eq_zero.2 (by simpa using λ e=>hi e.symm)]
   omega
 refine⟨λ hm=>⟨by rw[Ur];exact h.len,h5,h.way.snoc hk hf,?_,h7,h6⟩,λ n hn=>⟨by rw[Ur];exact h.len,h5,h.way.take n _ hn,?_,λ i=>?_,h6⟩⟩
 .rw [Y9,<- QR,Uh]
  exact⟨h.met,by simp,λ a ha b hb=>by rw[QC] at hb;subst hb;rintro rfl;exact hm ha⟩
 .have hs:((0:Int)::CA A (l.take n)).Sublist ((0:Int)::CA A l):=((List.take_sublist n l).map _).cons_cons 0
  exact h.met.sublist hs
 .have h1:=h7 i
  have h2:(l.take n).count i<=(l++[k]).count i:=QH (oZ l n i) (by rw[Vo];omega)
  omega
variable {k:Int} {ks:List Int} {l:List Nat}
structure IE (A:List Ed) (E:Int->Int->Prop) (seeds aA:List Int) (c:Int->Int):Prop where
 kind:∀ i,i<A.length->(∃ x,x∈seeds/\0<=x/\AP A i=⟨0,2+2*x,c x⟩)∨(∃ x,0<=x/\AP A i=⟨2+2*x,3+2*x,c x - 1⟩)∨(∃ x,x∈aA/\0<=x/\AP A i=⟨2+2*x,1,1⟩)∨(∃ x y,0<=x/\0<=y/\E x y/\AP A i=⟨3+2*x,2+2*y,64⟩)
 uniq:∀ i j,i<A.length->j<A.length->(AP A i).f=(AP A j).f->(AP A i).t=(AP A j).t->i=j
inductive Fi (A:List Ed) (E:Int->Int->Prop) (aA:List Int) (c:Int->Int):Int->List Nat->List Int->Prop
 | last (k:Int) (i:Nat):i<A.length->AP A i=⟨2+2*k,1,1⟩->k∈aA->Fi A E aA c k [i] []
 | more (k y:Int) (i j:Nat) (l:List Nat) (ks:List Int):i<A.length->AP A i=⟨2+2*k,3+2*k,c k - 1⟩->AP A j=⟨3+2*k,2+2*y,64⟩->E k y->0<=y->Fi A E aA c y l ks->Fi A E aA c k (i::j::l) (y::ks)
variable {A:List Ed} {E:Int->Int->Prop} {seeds aA:List Int} {c:Int->Int}
theorem IE.sinkless (h:IE A E seeds aA c) {i:Nat} (hi:i<A.length):(AP A i).f≠1:=by
 rcases h.kind i hi with ⟨x,_,hx,e⟩ | ⟨x,hx,e⟩ | ⟨x,_,hx,e⟩ | ⟨x,y,hx,hy,_,e⟩<;>rw[e]<;>simp only<;>omega
theorem IE.path (h:IE A E seeds aA c):∀ (n:Nat) (l:List Nat) (k:Int),l.length<=n->0<=k->Ca A (2+2*k) l 1 -> ∃ ks,Fi A E aA c k l ks
 | _,[],k,_,hk,hw=>by
   have:2+2*k=1:=hw;omega
 | n,[i],k,_,hk,hw=>by
   obtain⟨h1,h2,h3⟩:=hw;have h0:(AP A i).t=1:=h3;rcases h.kind i h1 with ⟨x,_,hx,e⟩ | ⟨x,hx,e⟩ | ⟨x,hs,hx,e⟩ | ⟨x,y,hx,hy,_,e⟩<;>rw[e] at h2 h0<;>simp only at h2 h0
   .omega
   .omega
   .have:x=k:=by omega
    subst this;exact⟨[],.last _ i h1 e hs⟩
   .omega
 | 0,_::_::_,_,hn,_,_=>by simp at hn
 | n+1,i::j::l,k,hn,hk,hw=>by
   obtain⟨h1,h2,h4,h5,h6⟩:=hw;rcases h.kind i h1 with ⟨x,_,hx,e⟩ | ⟨x,hx,e⟩ | ⟨x,hs,hx,e⟩ | ⟨x,y,hx,hy,_,e⟩
   .rw [e] at h2;simp only at h2;omega
   .rw [e] at h2 h5
    simp only at h2 h5;have:x=k:=by omega
    subst this;rcases h.kind j h4 with ⟨z,_,hz,e'⟩ | ⟨z,hz,e'⟩ | ⟨z,hs,hz,e'⟩ | ⟨z,y,hz,hy,hE,e'⟩
    .rw [e'] at h5;simp only at h5;omega
    .rw [e'] at h5;simp only at h5;omega
    .rw [e'] at h5;simp only at h5;omega
    .rw [e'] at h5 h6
     simp only at h5 h6;have:z=x:=by omega
     subst this;obtain⟨ks,hp⟩:=h.path n l y (by simp at hn;omega) hy h6
     exact⟨y::ks,.more _ y i j l ks h1 e e' hE hy hp⟩
   .rw [e] at h5
    simp only at h5;exact absurd h5 (h.sinkless h4)
   .rw [e] at h2;simp only at h2;omega
def GY (t:Int):Option Int:=if 2<=t/\t % 2=0 then some ((t - 2) / 2) else none
def DY (A:List Ed) (l:List Nat):List Int:=(CA A l).filterMap GY
theorem znr (h:0<=k):GY (2+2*k)=some k:=by
 unfold GY;rw[if_pos ⟨by omega,by omega⟩]
 congr 1
 omega
theorem jZ (k:Int):GY (3+2*k)=none:=if_neg (by omega)
theorem i7:GY 1=none:=if_neg (by omega)
theorem Fi.keys (h:Fi A E aA c k l ks):DY A l=ks:=by
 induction h with
 | last k i h1 h2 h3 =>
   unfold DY CA;rw[Qo,UE,U2,h2];simp only;rw[i7];rfl
 | more k y i j l ks h1 h2 h3 h4 h5 h6 ih =>
   unfold DY CA at ih ⊢;rw[Qo,Qo,U2,h2];simp only;rw[jZ,U2,h3];simp only;rw[znr h5,ih]
theorem Fi.edges (h:Fi A E aA c k l ks):∀ i (hi:i+1<(k::ks).length),E (k::ks)[i] (k::ks)[i+1]:=by
 induction h with
 | last k i h1 h2 h3=>intro i hi;simp at hi
 | more k y i j l ks h1 h2 h3 h4 h5 h6 ih =>
   intro n hn
   cases n with
   | zero=>exact h4
   | succ n=>exact ih n (by simpa using hn)
theorem Fi.ends (h:Fi A E aA c k l ks):∃ z,(k::ks).getLast? = some z/\z∈aA /\ ∃ i∈l,i<A.length/\AP A i=⟨2+2*z,1,1⟩:=by
 induction h with
 | last k i h1 h2 h3=>exact⟨k,rfl,h3,i,QC.2 rfl,h1,h2⟩
 | more k y i j l ks h1 h2 h3 h4 h5 h6 ih =>
   obtain⟨z,hz,hs,m,hm,h0,h7⟩:=ih;exact⟨z,by rw[List.getLast?_cons_cons];exact hz,hs,m,Ql _ (Ql _ hm),h0,h7⟩
theorem Fi.uses (hu:∀ i j,i<A.length->j<A.length->(AP A i).f=(AP A j).f->(AP A i).t=(AP A j).t->i=j) (h:Fi A E aA c k l ks) {m:Int} {n:Nat} (hn:n<A.length) (hm:AP A n=⟨2+2*m,3+2*m,c m - 1⟩):(k::ks).dropLast.count m<=l.count n:=by
 induction h with
 | last k i h1 h2 h3=>simp
 | more k y i j l ks h1 h2 h3 h4 h5 h6 ih =>
   rw[List.dropLast_cons_of_ne_nil (by simp),List.count_cons]
   have h7:l.count n<=(j::l).count n:=by rw[List.count_cons];omega
   rw[List.count_cons]
   by_cases hk:k=m
   .subst hk
    have:i=n:=hu i n h1 hn (by rw[h2,hm]) (by rw[h2,hm])
    subst this;simp only[beq_self_eq_true,UY];omega
   .have h0:(k == m)=false:=by simpa using hk
    rw[h0];simp only[Ud,Ux];omega
theorem Fi.mids (h:Fi A E aA c k l ks) {m:Int} (hm:m∈(k::ks).dropLast):∃ n,n<A.length/\AP A n=⟨2+2*m,3+2*m,c m - 1⟩:=by
 induction h with
 | last k i h1 h2 h3=>simp at hm
 | more k y i j l ks h1 h2 h3 h4 h5 h6 ih =>
   rw[List.dropLast_cons_of_ne_nil (by simp)] at hm
   rcases Qs.1 hm with rfl | hm
   .exact ⟨i,h1,h2⟩
   .exact ih hm
theorem IE.whole (h:IE A E seeds aA c) (hw:Ca A 0 l 1):∃ x i l' ks,l=i::l'/\i<A.length/\x∈seeds/\0<=x/\AP A i=⟨0,2+2*x,c x⟩/\Fi A E aA c x l' ks/\DY A l=x::ks:=by
 cases l with
 | nil=>have:(0:Int)=1:=hw;omega
 | cons i l =>
   obtain⟨h1,h2,h3⟩:=hw;rcases h.kind i h1 with ⟨x,hs,hx,e⟩ | ⟨x,hx,e⟩ | ⟨x,hs,hx,e⟩ | ⟨x,y,hx,hy,_,e⟩
   .rw [e] at h3
    obtain⟨ks,hp⟩:=h.path l.length l x (Qk _) hx h3;refine⟨x,i,l,ks,rfl,h1,hs,hx,e,hp,?_⟩;have hk:=hp.keys;unfold DY CA at hk ⊢;rw[Qo,U2,e];simp only;rw[znr hx,hk]
   .rw [e] at h2;simp only at h2;omega
   .rw [e] at h2;simp only at h2;omega
   .rw [e] at h2;simp only at h2;omega
theorem vU (h:(CA A l).Nodup):(DY A l).Nodup:=by
 unfold DY;refine List.Pairwise.filterMap _ (λ a a' h1 b hb b' h0=>?_) h;unfold GY at hb h0;split at hb<;>split at h0<;>simp at hb h0<;>omega
variable {A:List Ed}
def DC (g:List Nat->Nat) (W:List (List Nat)):Nat:=(W.map g).sum
theorem zlF (g:List Nat->Nat) (w:List Nat) (W:List (List Nat)):DC g (w::W)=g w+DC g W:=by simp[DC]
theorem cL {l:List Int} (h:∀ x,l.count x<=1):l.Nodup:=by
 induction l with
 | nil=>exact List.nodup_nil
 | cons x l ih =>
   rw[Q7];refine⟨λ hm=>?_,ih λ y=>?_⟩
   .have h1:=h x
    rw[List.count_cons_self] at h1;have h2:=List.count_pos_iff.2 hm;omega
   .have h1:=h y
    rw[List.count_cons] at h1;omega
theorem TU {A:List Ed} {n:Nat} {k:Int}:∀ {W:List (List Nat)},(∀ w∈W,(DY A w).head? = some k->1<=w.count n)->Ep (W.map (DY A)) k<=DC (List.count n) W
 | [],_=>by simp[Ep,DC]
 | w::W,h=>by
   have ih:=TU (n:=n) (k:=k) λ x hx=>h x (Ql w hx);have h1:=h w (Qn ..);unfold Ep at ih ⊢;rw[Qo,List.countP_cons,zlF]
   by_cases hk:(DY A w).head? = some k
   .have:=h1 hk
    simp only[hk,decide_true,UY];omega
   .simp only[hk,decide_false,Ud,Ux]
    omega
theorem Tj {A:List Ed} {k:Int}:∀ {W:List (List Nat)},Ep (W.map (DY A)) k=0 ∨ ∃ w∈W,(DY A w).head? = some k
 | []=>.inl rfl
 | w::W=>by
   by_cases hk:(DY A w).head? = some k
   .exact .inr ⟨w,Qn ..,hk⟩
   .rcases Tj (A:=A) (k:=k) (W:=W) with h | ⟨x,hx,hx2⟩
    .left
     unfold Ep at h ⊢;rw[Qo,List.countP_cons,h];simp[hk]
    .exact .inr ⟨x,Ql _ hx,hx2⟩
theorem zwf {A:List Ed} {n:Nat} {k:Int}:∀ {W:List (List Nat)},(∀ w∈W,(DY A w).dropLast.count k<=w.count n)->EI (W.map (DY A)) k<=DC (List.count n) W
 | [],_=>by simp[EI,DC]
 | w::W,h=>by
   have ih:=zwf (n:=n) (k:=k) λ x hx=>h x (Ql w hx);have h1:=h w (Qn ..);unfold EI at ih ⊢;rw[Qo,Vf,Vo,zlF];omega
theorem Tq {A:List Ed} {k:Int}:∀ {W:List (List Nat)},EI (W.map (DY A)) k=0 ∨ ∃ w∈W,k∈(DY A w).dropLast
 | []=>.inl rfl
 | w::W=>by
   by_cases hk:k∈(DY A w).dropLast
   .exact .inr ⟨w,Qn ..,hk⟩
   .rcases Tq (A:=A) (k:=k) (W:=W) with h | ⟨x,hx,hx2⟩
    .left
     unfold EI at h ⊢;rw[Qo,Vf,Vo,h,List.count_eq_zero.2 hk]
    .exact .inr ⟨x,Ql _ hx,hx2⟩
theorem WQ {A:List Ed} {n:Nat} {k:Int}:∀ {W:List (List Nat)},(∀ w∈W,(DY A w).getLast? = some k->1<=w.count n)->(GL (W.map (DY A))).count k<=DC (List.count n) W
 | [],_=>by simp[GL,DC]
 | w::W,h=>by
   have ih:=WQ (n:=n) (k:=k) λ x hx=>h x (Ql w hx);have h1:=h w (Qn ..);unfold GL at ih ⊢;rw[Qo,U2,zlF]
   cases hl:(DY A w).getLast? with
   | none=>simp only;omega
   | some z =>
     simp only[List.count_cons]
     by_cases hz:z=k
     .subst hz
      have:=h1 hl;simp only[beq_self_eq_true,UY];omega
     .have:(z == k)=false:=by simpa using hz
      rw[this];simp only[Ud,Ux];omega
theorem c7 {E:Int->Int->Prop} {seeds aA:List Int} {cl:List Int} {f:List Int} {W:List (List Nat)} (hk:IE A E seeds aA λ x=>cl.getD x.toNat 0) (hf:CO A f) (hw:∀ w∈W,Ca A 0 w 1/\(CA A w).Nodup) (hs:∀ i,i<A.length->(DC (List.count i) W:Int)<=f.getD i 0) (hc:∀ x∈cl,0<=x) :
  H7 cl (W.map (DY A))/\(GL (W.map (DY A))).Nodup/\(∀ k∈GL (W.map (DY A)),k∈aA) /\
  ∀ p∈W.map (DY A),(∃ k,p.head? = some k/\k∈seeds)/\p.Nodup /\ ∀ i (h:i+1<p.length),E p[i] p[i+1]:=by
 have h6:=(HB.1 hf).2
 have h5:∀ w∈W,∃ z,(DY A w).getLast? = some z/\z∈aA /\ ∃ i∈w,i<A.length/\AP A i=⟨2+2*z,1,1⟩:=λ w h0=>by
  obtain⟨x,i,l',ks,rfl,hi,h7,hb,he,hp,h4⟩:=hk.whole (hw w h0).1;obtain⟨z,hz,a5,m,hm,a6,a7⟩:=hp.ends;exact⟨z,by rw[h4];exact hz,a5,m,Ql _ hm,a6,a7⟩
 refine⟨λ k hd=>⟨?_,?_⟩,cL λ z=>?_,λ z hz=>?_,λ p hp=>?_⟩
 .have a0:=hc _ (Qj hd)
  have ho:cl.getD k 0=cl[k]:=by rw[Qe,Qc hd,QB]
  rcases Tj (A:=A) (k:=(k:Int)) (W:=W) with h | ⟨w,h0,hh⟩
  .rw [h];exact a0
  .obtain ⟨x,i,l',ks,rfl,hi,h7,hb,he,hp,h4⟩:=hk.whole (hw w h0).1
   rw[h4] at hh;have a8:x=k:=Qf hh;subst a8
   have h1:=TU (A:=A) (n:=i) (k:=(k:Int)) (W:=W) λ v h9 a1=>by
    obtain⟨y,j,l2,ks2,rfl,hj,_,_,hq,_,ha⟩:=hk.whole (hw v h9).1;rw[ha] at a1;have a9:y=k:=Qf a1;have:j=i:=hk.uniq j i hj hi (by rw[hq,he]) (by rw[hq,he,a9])
    subst this;rw[List.count_cons_self];omega
   have h2:=hs i hi;have h3:=(h6 i hi).2;rw[he] at h3;simp only[Uu] at h3;rw[ho] at h3;omega
 .have a0:=hc _ (Qj hd)
  have ho:cl.getD k 0=cl[k]:=by rw[Qe,Qc hd,QB]
  rcases Tq (A:=A) (k:=(k:Int)) (W:=W) with h | ⟨w,h0,hh⟩
  .rw [h];omega
  .obtain ⟨x,i,l',ks,rfl,hi,h7,hb,he,hp,h4⟩:=hk.whole (hw w h0).1
   rw[h4] at hh;obtain⟨n,hn,a2⟩:=hp.mids hh
   have h1:=zwf (A:=A) (n:=n) (k:=(k:Int)) (W:=W) λ v h9=>by
    obtain⟨y,j,l2,ks2,rfl,hj,_,_,hq,ad,ha⟩:=hk.whole (hw v h9).1;rw[ha,List.count_cons];have:=ad.uses hk.uniq hn a2;omega
   have h2:=hs n hn;have h3:=(h6 n hn).2;rw[a2] at h3;simp only[Uu] at h3;rw[ho] at h3;omega
 .by_cases hz:z∈GL (W.map (DY A))
  .obtain ⟨p,hp,hu⟩:=Vj.1 hz
   obtain⟨w,h0,rfl⟩:=Qi.1 hp;obtain⟨y,hy,a3,i,am,hi,hv⟩:=h5 w h0;rw[hu] at hy;have hx:z=y:=Qf hy;subst hx
   have h1:=WQ (A:=A) (n:=i) (k:=z) (W:=W) λ v h9 ag=>by
    obtain⟨y,hy,_,j,ai,hj,a4⟩:=h5 v h9;rw[ag] at hy;have hx:z=y:=Qf hy;have:j=i:=hk.uniq j i hj hi (by rw[a4,hv,hx]) (by rw[a4,hv])
    subst this;exact List.count_pos_iff.2 ai
   have h2:=hs i hi;have h3:=(h6 i hi).2;rw[hv] at h3;simp only at h3;omega
  .rw [List.count_eq_zero.2 hz]
   omega
 .obtain ⟨p,hp,hu⟩:=Vj.1 hz
  obtain⟨w,h0,rfl⟩:=Qi.1 hp;obtain⟨y,hy,a3,_⟩:=h5 w h0;rw[hu] at hy;rw[Qf hy];exact a3
 .obtain ⟨w,h0,rfl⟩:=Qi.1 hp
  refine⟨?_,vU (hw w h0).2,?_⟩
  .obtain ⟨x,i,l',ks,rfl,hi,h7,hb,he,hp,h4⟩:=hk.whole (hw w h0).1
   exact⟨x,by rw[h4];rfl,h7⟩
  .obtain ⟨x,i,l',ks,rfl,hi,h7,hb,he,hp,h4⟩:=hk.whole (hw w h0).1
   have:=hp.edges;intro n hn;simp only[h4] at hn ⊢;exact this n hn
def EY (e:Ed):Int × Int:=(e.f,e.t)
theorem Zf {A:List Ed} (h:(A.map EY).Nodup) {i j:Nat} (hi:i<A.length) (hj:j<A.length) (h1:(AP A i).f=(AP A j).f) (h2:(AP A i).t=(AP A j).t):i=j:=by
 have hg:∀ k (hk:k<A.length),(A.map EY)[k]'(by simpa using hk)=EY (AP A k):=λ k hk=>by
  rw[List.getElem_map];unfold AP;rw[Qe,Qc hk,QB]
 have he:EY (AP A i)=EY (AP A j):=by unfold EY;rw[h1,h2]
 rcases Nat.lt_trichotomy i j with h0 | heq | hgt
 .exact absurd ((hg i hi).trans (he.trans (hg j hj).symm)) (QX.1 h i j (by simpa using hi) (by simpa using hj) h0)
 .exact heq
 .exact absurd ((hg j hj).trans (he.symm.trans (hg i hi).symm)) (QX.1 h j i (by simpa using hj) (by simpa using hi) hgt)
theorem Od {α β:Type} {φ:α->β} {l:List α} (h:l.Nodup) (hi:∀ a∈l,∀ b∈l,φ a=φ b->a=b):(l.map φ).Nodup:=by
 rw[List.Nodup,U4];exact List.Pairwise.imp_of_mem (λ {a b} ha hb h0 he=>h0 (hi a ha b hb he)) h
theorem gT {g:Gr} {p:Al} {c aA h2:List Int} {E:Int->Int->Prop} (hE:∀ e∈(AM g p.lv).edges,0<c.getD e.f.toNat 0->E e.f e.t) (hS:∀ x∈p.seeds,0<c.getD x.toNat 0->x∈h2) (hs:p.seeds.Nodup) (h5:∀ x∈p.seeds,0<=x) (hk:aA.Nodup) (h3:∀ x∈aA,0<=x) (he:((AM g p.lv).edges.map EY).Nodup) (h4:∀ e∈(AM g p.lv).edges,0<=e.f/\0<=e.t) :
  IE (D3 g p c aA) E h2 aA λ x=>c.getD x.toNat 0:=by
 refine⟨λ i hi=>?_,λ i j hi hj=>Zf ?_ hi hj⟩
 .have hm:=H5 hi
  revert hm
  generalize AP (D3 g p c aA) i=a;intro hm;unfold D3 at hm;rcases Qq.1 hm with hm | hm
  .rcases Qq.1 hm with hm | hm
   .rcases Qq.1 hm with hm | hm
    .obtain ⟨x,hx,rfl⟩:=Qi.1 hm
     have hx:=Qx.1 hx;exact .inl ⟨x,hS x hx.1 (by simpa using hx.2),h5 x hx.1,rfl⟩
    .obtain ⟨x,hx,rfl⟩:=Qi.1 hm
     exact .inr (.inl ⟨x,Int.natCast_nonneg _,by simp⟩)
   .obtain ⟨x,hx,rfl⟩:=Qi.1 hm
    have hx:=(Qx.1 hx).1;exact .inr (.inr (.inl ⟨x,hx,h3 x hx,rfl⟩))
  .obtain ⟨e,hx,rfl⟩:=Qi.1 hm
   have hx:=Qx.1 hx;have h0:=h4 e hx.1;exact .inr (.inr (.inr ⟨e.f,e.t,h0.1,h0.2,hE e hx.1 (by simpa using hx.2),rfl⟩))
 .unfold D3
  simp only[QT,List.map_map];refine Uh.2 ⟨Uh.2 ⟨Uh.2 ⟨?_,?_,?_⟩,?_,?_⟩,?_,?_⟩
  .exact Od (hs.filter _) λ a _ b _ h=>by simp[EY] at h;omega
  .exact Od (List.nodup_range.filter _) λ a _ b _ h=>by simp[EY] at h;omega
  .intro a ha b hb
   obtain⟨x,hx,rfl⟩:=Qi.1 ha;obtain⟨y,hy,rfl⟩:=Qi.1 hb;intro h;simp[EY] at h;omega
  .exact Od (hk.filter _) λ a _ b _ h=>by simp[EY] at h;omega
  .intro a ha b hb
   obtain⟨y,hy,rfl⟩:=Qi.1 hb;have h6:=h3 y (Qx.1 hy).1;rcases Qq.1 ha with ha | ha
   .obtain ⟨x,hx,rfl⟩:=Qi.1 ha
    intro h;simp[EY] at h;omega
   .obtain ⟨x,hx,rfl⟩:=Qi.1 ha
    intro h;simp[EY] at h;omega
  .have h1:((AM g p.lv).edges.filter λ e=>decide (0<c.getD e.f.toNat 0)).Pairwise λ a b=>EY a≠EY b:=by
    rw[List.Nodup,U4] at he;exact he.filter _
   rw[List.Nodup,U4];refine h1.imp λ {a b} h7 h=>h7 ?_;simp[EY] at h;unfold EY;rw[show a.f=b.f by omega,show a.t=b.t by omega]
  .intro a ha b hb
   obtain⟨e,hy,rfl⟩:=Qi.1 hb;have h6:=h4 e (Qx.1 hy).1;rcases Qq.1 ha with ha | ha
   .rcases Qq.1 ha with ha | ha
    .obtain ⟨x,hx,rfl⟩:=Qi.1 ha
     intro h;simp[EY] at h;omega
    .obtain ⟨x,hx,rfl⟩:=Qi.1 ha
     intro h;simp[EY] at h;omega
   .obtain ⟨x,hx,rfl⟩:=Qi.1 ha
    intro h;simp[EY] at h;omega
structure GJ where
 key:Int
 acc:Bool
 before:List Int
 paths:List (List Int)
 side:List Int
theorem Gj (g:Gr) (S:List Int):(AY g S).Nodup:=by
 refine(XQ (g:=g) (S:=S) g.size.toNat).imp λ {a b} h e=>?_;subst e;unfold Lt at h;omega
theorem IA {g:Gr} {S:List Int} {k:Int} (h:k∈AY g S):0<=k/\k<g.size:=by
 have:=LQ.1 h;omega
open Classical in
def OC (g:Gr) (p:Al) (x:GJ):Int :=
 let order:=AY (AM g p.lv) p.seeds
 let c:=A1 g p
 if x.key∉order then 11
 else if ¬ Ij order x.before x.key∨(x.acc=true/\x.side≠[])∨(x.acc=false/\x.paths≠[]) then 1
 else if x.acc=true then (if KC g p.lv p.seeds order c x.paths (x.before++[x.key]) then 0 else 52)
 else if NA ⟨2+2*g.size,D3 g p c (Ew (x.before++[x.key]))⟩ x.side x.before.length then 0 else 52
open Classical in
def zvR (g:Gr) (p:Al) (x:GJ):Int :=
 let order:=AY (AM g p.lv) p.seeds
 let c:=A1 g p
 if x.key∉order then 11
 else if ¬ Ij order x.before x.key∨(x.acc=true/\x.side≠[])∨(x.acc=false/\x.paths≠[]) then 1
 else if x.acc=true then (if Ki g p.lv p.seeds order c x.paths (x.before++[x.key]) then 0 else 52)
 else if NA ⟨2+2*g.size,D3 g p c (Az (x.before++[x.key]))⟩ x.side x.before.length then 0 else 52
theorem gO {g:Gr} (hs:g.size<=64) (p:Al) (x:GJ):OC g p x=zvR g p x:=by
 unfold OC zvR;simp only;have h6:=Gj (AM g p.lv) p.seeds
 have h0:∀ k∈AY (AM g p.lv) p.seeds,0<=k/\k<64:=λ k hk=>by
  have:=IA hk;have h2:(AM g p.lv).size=g.size:=rfl;omega
 generalize AY (AM g p.lv) p.seeds=o at *
 by_cases h1:x.key∈o
 .by_cases h2:¬ Ij o x.before x.key∨(x.acc=true/\x.side≠[])∨(x.acc=false/\x.paths≠[])
  .rw [if_neg (not_not_intro h1),if_pos h2,if_neg (not_not_intro h1),if_pos h2]
  .rw [if_neg (not_not_intro h1),if_neg h2,if_neg (not_not_intro h1),if_neg h2]
   have h3:Ij o x.before x.key:=Classical.byContradiction λ h=>h2 (.inl h);have h4:=h3.nodup h6
   have h5:∀ k∈x.before++[x.key],0<=k/\k<64:=λ k hk=>by
    rcases Qq.1 hk with hk | hk
    .exact h0 k ((List.takeWhile_sublist _).subset (h3.subset hk))
    .rw [QC] at hk
     rw[hk];exact h0 _ h1
   rw[P3 h4 h5]
   by_cases ha:x.acc=true
   .rw [if_pos ha,if_pos ha]
    by_cases hc:KC g p.lv p.seeds o (A1 g p) x.paths (x.before++[x.key])
    .rw [if_pos hc,if_pos ((SK h4).1 hc)]
    .rw [if_neg hc,if_neg λ h=>hc ((SK h4).2 h)]
   .rw [if_neg ha,if_neg ha]
 .rw [if_pos h1,if_pos h1]
variable {g:Gr} {k:Int} {p:Al}
theorem Lz (h0:0<=k) (h1:k<g.size):(A1 g p).getD k.toNat 0=EP p (AN (AM g p.lv) p.seeds k):=by
 unfold A1 Bj;have h2:k.toNat<(AM g p.lv).size.toNat:=by show k.toNat<g.size.toNat;omega
 rw[Qe,QA,QA,List.getElem?_range h2];simp only[Q8,QB];rw[show ((k.toNat:Nat):Int)=k by omega]
theorem PK (h1:g.size<=k):(A1 g p).getD k.toNat 0=0:=by
 unfold A1 Bj;have h2:¬ k.toNat<(AM g p.lv).size.toNat:=by show ¬ k.toNat<g.size.toNat;omega
 rw[Qe,Q4 (by simp;omega)]
 rfl
theorem Tf {n:Int} (hp:BT n p):∀ x∈A1 g p,0<=x:=λ x hx=>by
 unfold A1 at hx;obtain⟨d,_,rfl⟩:=Qi.1 hx;exact(ON hp d).1
theorem Ot {n:Int} (hp:BT n p) (h0:0<=k):0<(A1 g p).getD k.toNat 0↔k<g.size/\0<=AN (AM g p.lv) p.seeds k:=by
 by_cases h1:k<g.size
 .rw [Lz h0 h1,zpK hp]
  exact⟨λ h=>⟨h1,h⟩,λ h=>h.2⟩
 .rw [PK (by omega)]
  constructor
  .intro h;omega
  .intro h;exact absurd h.1 h1
theorem AI.level (h:AI g) (v:Int):AI (AM g v):=by
 refine⟨⟨h.1.1,h.1.2.1,QH (QU _ _) h.1.2.2.1,h.1.2.2.2⟩,λ i hi=>?_⟩;have hm:(AM g v).edges[i]∈g.edges:=(Qx.1 (Qj hi)).1;obtain⟨j,hj,h2⟩:=QG.1 hm;have h1:=h.2 j hj;rw[h2] at h1;refine⟨h1.1,h1.2.1,h1.2.2.1,λ h0=>?_⟩;rw[KH];have hp:(AM g v).edges.Pairwise Bd:=h.pair.filter _;exact QX.1 hp (i - 1) i (by omega) hi (by omega)
theorem LV (h:AI g) {S:List Int}:k∈AY g S↔CM g k/\0<=AN g S k:=by
 unfold AY;rw[LQ];constructor
 .rintro ⟨⟨h1,h2⟩,h3,_⟩
  exact⟨⟨h1,by omega⟩,h3⟩
 .rintro ⟨h1,h2⟩
  have h3:=Pi (S:=S) h h1;have h4:=h1.1;have h5:=h1.2;exact⟨⟨h4,by omega⟩,h2,by omega⟩
theorem Pb (h:AI g) (v:Int):((AM g v).edges.map EY).Nodup /\ ∀ e∈(AM g v).edges,0<=e.f/\e.f<g.size/\0<=e.t/\e.t<g.size:=by
 have hl:=h.level v;refine⟨?_,λ e he=>?_⟩
 .rw [List.Nodup,U4]
  refine hl.pair.imp λ {a b} h0 he=>?_;unfold Bd at h0;unfold EY at he;simp at he;omega
 .obtain ⟨i,hi,rfl⟩:=QG.1 he
  have h1:=(hl.2 i hi).1;have h2:(AM g v).size=g.size:=rfl;unfold BO at h1;omega
theorem Bu.nodup {l:List Int} {lo hi:Int} (h:Bu l lo hi):l.Nodup /\ ∀ x∈l,lo<=x/\x<=hi:=by
 have h3:∀ (j i:Nat) (hj:j<l.length) (h0:i<j),l[i]<l[j]:=by
  intro j
  induction j with
  | zero=>intro i _ h0;omega
  | succ j ih =>
    intro i hj h0;have h1:=(h (j+1) hj).2.2 (by omega)
    simp only[Nat.add_sub_cancel] at h1;rcases Um i j with h2 | h2
    .have:=ih i (by omega) h2
     omega
    .have:i=j:=by omega
     subst this;exact h1
 refine⟨QX.2 λ i j hi hj h0 he=>?_,λ x hx=>?_⟩
 .have:=h3 j i hj h0
  omega
 .obtain ⟨i,hi,rfl⟩:=QG.1 hx
  have:=h i hi;exact⟨this.1,this.2.1⟩
theorem fE {aA h5 f:List Int} {W:List (List Nat)} (hg:AI g) (hp:BT g.size p) (hk:aA.Nodup) (hh:∀ x∈aA,0<=x) (h6:h5.Perm aA) (hf:CO (D3 g p (A1 g p) aA) f) (hw:∀ w∈W,Ca (D3 g p (A1 g p) aA) 0 w 1/\(CA (D3 g p (A1 g p) aA) w).Nodup) (hs:∀ i,i<(D3 g p (A1 g p) aA).length->(DC (List.count i) W:Int)<=f.getD i 0) (hl:W.length=aA.length) :
  Ki g p.lv p.seeds (AY (AM g p.lv) p.seeds) (A1 g p) (W.map (DY (D3 g p (A1 g p) aA))) h5:=by
 have h7:=hg.level p.lv;have h9:=hp.2.1.nodup;have h4:=Pb hg p.lv
 have hj:∀ k,0<=k->0<(A1 g p).getD k.toNat 0->k∈AY (AM g p.lv) p.seeds:=λ k h0 hc=>by
  have h1:=(Ot hp h0).1 hc;exact(LV h7).2 ⟨⟨h0,h1.1⟩,h1.2⟩
 have hb:IE (D3 g p (A1 g p) aA) (λ x y=>MJ g p.lv x y/\y∈AY (AM g p.lv) p.seeds) (p.seeds.filter λ x=>decide (x∈AY (AM g p.lv) p.seeds)) aA λ x=>(A1 g p).getD x.toNat 0:=by
  refine gT (λ e he hc=>?_) (λ x hx hc=>?_) h9.1 (λ x hx=>(h9.2 x hx).1) hk hh h4.1 λ e he=>⟨(h4.2 e he).1,(h4.2 e he).2.2.1⟩
  .have h0:=h4.2 e he
   have h1:=(Ot hp h0.1).1 hc;have h2:=TN h7 he h1.2;refine⟨?_,(LV h7).2 ⟨⟨h0.2.2.1,h0.2.2.2⟩,h2.1⟩⟩;unfold AM at he;have h3:=Qx.1 he;refine⟨e,h3.1,rfl,rfl,?_⟩;have:=h3.2;simp at this;omega
  .exact Qx.2 ⟨hx,by simpa using hj x (h9.2 x hx).1 hc⟩
 obtain⟨q1,q2,q3,q4⟩:=c7 hb hf hw hs (Tf hp);refine⟨by rw[Qr,hl,h6.length_eq],h6.nodup_iff.2 hk,λ w ho=>?_,λ k hq=>h6.mem_iff.2 (q3 k hq),q2,q1⟩
 obtain⟨⟨k,ha,hu⟩,h2,h3⟩:=q4 w ho;have hd:=Qx.1 hu;have hv:k∈AY (AM g p.lv) p.seeds:=by simpa using hd.2
 refine⟨⟨k,ha,hd.1⟩,λ x hx=>?_,h2,λ i hi=>(h3 i hi).1⟩;obtain⟨i,hi,rfl⟩:=QG.1 hx
 cases i with
 | zero =>
   rw[List.head?_eq_getElem?,Qc hi] at ha;rw[Qf ha];exact hv
 | succ i=>exact(h3 i hi).2
variable {g:Gr} {p:Al}
theorem AI.edges_le (h:AI g):g.edges.length<=500:=h.1.2.2.1
theorem GK:(A1 g p).length=g.size.toNat:=by simp[A1,Bj,AM]
def E9 (g:Gr) (p:Al) (k:Nat):List Int:=(A1 g p).take k++(Bj (AM g p.lv) p.seeds).drop k
theorem znR (k:Nat) (hk:k<=g.size.toNat):(E9 g p k).length=g.size.toNat:=by simp[E9,GK,Bj,AM];omega
theorem sO:E9 g p 0=Bj (AM g p.lv) p.seeds:=by simp[E9]
theorem sC:E9 g p g.size.toNat=A1 g p:=by
 unfold E9;rw[Qb (by rw[GK];exact Qk _),Us (by simp[Bj,AM])]
 simp
theorem rI {k:Nat} (hk:k<g.size.toNat):(E9 g p k)[k]? = some (AN (AM g p.lv) p.seeds k):=by
 unfold E9;rw[Qv (by simp[GK];omega)]
 simp[GK,Nat.min_eq_left (Nat.le_of_lt hk),Bj,AM,hk]
theorem lJ {k:Nat} (hk:k<g.size.toNat):(AD (E9 g p k)).set k [AV.I (EP p (AN (AM g p.lv) p.seeds k))]=AD (E9 g p (k+1)):=by
 rw[show [AV.I (EP p (AN (AM g p.lv) p.seeds k))]=(λ n:Int=>[AV.I n]) (EP p (AN (AM g p.lv) p.seeds k)) from rfl]
 show (List.map (λ n:Int=>[AV.I n]) (E9 g p k)).set k _=List.map (λ n:Int=>[AV.I n]) _;rw[<- U8]
 congr 1
 have hc:k<(A1 g p).length:=by rw[GK];exact hk
 have hd:k<(Bj (AM g p.lv) p.seeds).length:=by simp[Bj,AM,hk]
 unfold E9;rw[List.set_append,if_neg (by simp[GK];omega)]
 rw[show k - ((A1 g p).take k).length=0 by simp[GK];omega]
 rw[QP hd,List.set_cons_zero,Qm hc,Qu]
 congr 2
 simp[A1,Bj]
theorem bV (g:Gr) (p:Al) (hg:AI g) (hs:p.seeds.length<=1099511627776):AcP 160 [eG g,eP p] [] (.rs 0 0 g.size.toNat) [some ⟨1,AD (A1 g p),0⟩]:=by
 refine g9.s.ai ?_;have h9:=hg.1.1;have h7:=hg.1.2.1;have ha:=hg.edges_le;have hb:=hg.gone_le;have h0:=Nu (AM g p.lv) p.seeds (hg.level p.lv) hs;have h3:(AM g p.lv).size=g.size:=rfl;rw[h3,<- sO] at h0;obtain⟨N,h1⟩:∃ N:Nat,N=g.size.toNat:=⟨_,rfl⟩;rw[<- h1] at h0;have hc:∀ k,k<=N->(AD (E9 g p k)).length=N:=λ k hk=>by rw[Qr,znR k (by omega),h1]
 have h4:∀ (k:Nat) (h:k<(E9 g p k).length),k<N->(E9 g p k)[k]=AN (AM g p.lv) p.seeds k:=λ k h hk=>by
  have:=rI (g:=g) (p:=p) (k:=k) (by omega)
  rw[Qc h] at this;exact Qf this
 have h2:∀ k,k<=N->(E9 g p k).length=N:=λ k hk=>by rw[znR k (by omega),h1]
 have h5:∀ k:Nat,k<N->(AD (E9 g p k)).set k [AV.I (EP p (AN (AM g p.lv) p.seeds k))]=AD (E9 g p (k+1)):=λ k hk=>lJ (by omega)
 refine rs [2,3] [] [16,24] ?_;apply al [3,5] [88] 104
 .simp
  refine Aj (Kp g p.lv (by omega) (by omega)) ?_
  simp;refine E2 h0 rfl ?_;simp[AB];exact⟨rfl,rfl⟩
 refine AC (rk (s:=?s3) [3,5,15,16,17] [88] rfl ?o3 ?q3)
 case o3=>simp;rfl
 refine AL (Ae (ι:=Nat) (λ i=>⟨30,[(3,.pv (pC p)),(5,.rs 88 0 N),(15,.rs 88 0 N),(16,.I N),(17,.I i)],[(88,some ⟨1,AD (E9 g p i),0⟩)],128⟩) (λ i=>i<=N) (λ i=>N - i) 0 (by simp) (Ek) ?_)
 intro i hi;refine rk (s:=?s5) [3,5,15,16,17,18] [88] rfl ?o5 ?q5
 case o5=>simp;rfl
 refine AC (AE _ rfl (λ h6=>?_) λ h6=>?_)
 .simp at h6
  have hw:=w6 (x:=(i:Int)+1);refine AJ (AC (AL (rk (s:=?s7) [3,5,6,7,15,16,17] [88] rfl ?o7 ?q7)))
  case o7=>simp[h6,h2,h4,hi];rfl
  refine Ag (s:=?s8) rfl ?o8 ?q8
  case o8 =>
   simp;refine Aj (d8 p (AN (AM g p.lv) p.seeds i)) ?_;simp[h6,h2,hi,h5];rfl
  refine Ag (s:=?s9) rfl ?o9 ?q9
  case o9=>simp[hw];rfl
  exact⟨i+1,by omega,by omega,Av [(88,88)] []⟩
 simp at h6;obtain rfl:i=N:=by omega
 refine Aa (hit (rk (s:=?s10) [4] [88] rfl ?o10 ?q10))
 case o10=>simp;rfl
 refine BG ⟨.inr rfl,AS.out [88] [] rfl (by simp) (by simp) (by simp[h1]) (by simp[AB,h1,sC])⟩
theorem bP {g:Gr} {p:Al} {k:Nat} (hk:k<g.size.toNat):(A1 g p).take (k+1)=(A1 g p).take k++[EP p (AN (AM g p.lv) p.seeds k)]:=by
 rw[Qm (by rw[GK];exact hk)]
 simp[A1,Bj]
theorem jW (g:Gr) (p:Al) (hg:AI g) (hs:p.seeds.length<=1099511627776):AcP 28 [eG g,eP p] [] (.rs 0 0 g.size.toNat) [some ⟨1,AD (A1 g p),0⟩]:=by
 refine vL.s.ai ?_;have hf:=hg.1.1;have he:=hg.1.2.1;have hh:=hg.edges_le;have hj:=hg.gone_le;have h0:=LC (AM g p.lv) p.seeds (hg.level p.lv) hs;have h7:(AM g p.lv).size=g.size:=rfl;rw[h7] at h0;obtain⟨N,h1⟩:∃ N:Nat,N=g.size.toNat:=⟨_,rfl⟩;have h2:(Bj (AM g p.lv) p.seeds).length=N:=by simp[Bj,AM,h1]
 have h3:∀ (k:Nat) (h:k<(Bj (AM g p.lv) p.seeds).length),(Bj (AM g p.lv) p.seeds)[k]=AN (AM g p.lv) p.seeds k:=λ k h=>by simp[Bj]
 rw[<- h1] at h0;obtain⟨D,hD⟩:=AG (Bj (AM g p.lv) p.seeds);rw[<- hD] at h0 h2;simp only[<- hD] at h3;have h4:(A1 g p).length=N:=by rw[GK,h1]
 obtain⟨C,h9,ha,hb,hc⟩:∃ C:Nat->List Int,C 0=[]/\(∀ k:Nat,k<N->C (k+1)=C k++[EP p (AN (AM g p.lv) p.seeds k)])/\(∀ k,k<=N->(C k).length=k)/\C N=A1 g p :=
  ⟨λ k=>(A1 g p).take k,by simp,λ k hk=>bP (by omega),λ k hk=>by simp[h4,hk],by simp[<- h4]⟩
 refine rs [2,3] [] [16,24] ?_;refine CW ⟨31,[(3,.pv (pC p)),(5,AA D)],[],104⟩ ?_ ?_
 .simp
  refine Aj (KG g p.lv (by omega) (by omega)) ?_
  simp;refine E2 h0 rfl ?_;simp[AB];exact⟨rfl,A5 [88] (by simp[AB,<- h2,Cz])⟩
 refine rs [3,5,6] [] [] ?_;refine AC (rs [3,5,6,7] [] [] ?_);refine AL (Ae (ι:=Nat) (λ i=>⟨31,[(3,.pv (pC p)),(5,AA D),(6,.rs 16 0 i),(7,.I i)],[(16,some ⟨1,AD (C i),0⟩)],120⟩) (λ i=>i<=N) (λ i=>N - i) 0 (by simp) (Le.lst [] [] [(16,1)] rfl (by simp) (by simp) (by simp) (by simp) (by simp) (by simp) (by simp) (by simp[Up]) (by simp[h9])) ?_)
 intro i hi;have h5:=hb i hi;have hd:∀ f:Int->List AV,List.take i (List.map f (C i))=List.map f (C i):=λ f=>Qb (by simp[h5])
 refine AC (rk (s:=?s5) [3,5,6,7,18] [16] rfl ?o5 ?q5)
 case o5=>simp[h2];rfl
 refine AE _ rfl (λ h6=>?_) λ h6=>?_
 .simp at h6
  have hw:=w6 (x:=(i:Int)+1);refine AJ (AC (AL (Cr rfl ?_)));simp[h6,h2,h3];refine Aj (lZ p (AN (AM g p.lv) p.seeds i)) ?_;simp[h5];refine⟨by omega,by omega,rfl,?_⟩
  refine Ac rfl ?_;simp[hw];exact⟨i+1,by omega,by omega,AF [(216,16)] [] (by simp) (by simp[AB,ha i h6,hd])⟩
 simp at h6;obtain rfl:i=N:=by omega
 refine Aa (hit (rk (s:=?s7) [4] [16] rfl ?o7 ?q7))
 case o7=>simp;rfl
 exact A9 (AS.out [16] [] rfl (by simp) (by simp) (by simp[h1]) (by simp[AB,hc]))
end Go.Proofs.YtkngdgplbojdlaaGreat
namespace Go.Proofs.YtkngdgplbojdlaaGreat
open Go Go.RowKit Go.Shelf Go.Maps Go.Sort
theorem PU {vs:Array Value} (h:vs.size=2):vs = #[vs.getD 0 undef,vs.getD 1 undef]:=by
 apply Array.ext
 .simpa using h
 .intro i h1 h2
  have:i=0∨i=1:=by simp at h2;omega
  rcases this with rfl | rfl<;>simp[Array.getD,h1]<;>intro h3<;>omega
theorem eQ (x:Int):(encZ x:Value) = .int .i64 x:=rfl
theorem j4 (l:List Int) (hl:l.length<=1099511627776):AcP 204 [.nilS,.fn (.func 187) [] [.pv [AA l]]] [] (.rs 0 0 l.length) [some ⟨1,AD l,0⟩]:=by
 refine⟨⟨_,_,Tryz.func204,rfl,by decide⟩,by simp,λ T M w vs h9 bo b6 a1=>?_⟩
 obtain⟨a9,hr⟩:=a1;have hc:=hr 0 (by simp)
 have hd:=hr 1 (by simp)
 simp only[US,List.getD_cons_succ] at hc hd;rw[PU a9];generalize vs.getD 0 undef=v0 at hc;generalize vs.getD 1 undef=v1 at hd
 cases hc
 cases hd with
 | fn _ _ _ _ us ws hx hy h h' =>
 have ad:us = #[]:=by simpa using hx
 subst ad;have ag:=LA (vs:=ws) hy;have hq:=h' 0 (by simp)
 simp only[US] at hq;rw[ag];generalize ws.getD 0 undef=u at hq
 cases hq with
 | pv _ _ Bs B0 cells ty fz c hb ht ai ho hh =>
 have hB:=ai 0 (by simp)
 have hv:=hh 0 (by simp)
 simp only[US,Ua] at hB hv;have am:Bs<w.heap.size:=(QQ.1 hb).1;generalize c 0=sv at hB hv
 cases hv with
 | vs _ _ _ _ a cap cc hf bs hw an h1 au =>
 have a2:(l.map λ n=>[AV.I n]).length=l.length:=by simp
 rw[a2] at hB
 have hu:∃ b off,(l≠[]->a=some ⟨b,off,none⟩/\b<w.heap.size) /\ ∀ j (h:j<l.length),w.cell? ⟨b,off+j,none⟩=some (.int .i64 l[j]):=by
  by_cases h0:l=[]
  .exact ⟨0,0,λ h=>absurd h0 h,λ j hj=>by subst h0;simp at hj⟩
  .obtain ⟨b,off,cs,ty',fz',ha,a3,_,a4⟩:=an (by simpa using h0)
   refine⟨b,off,λ _=>⟨ha,(QQ.1 a3).1⟩,λ j hj=>?_⟩;have h2:=a4 j 0 (by simpa using hj) (by decide)
   have h3:=au j 0 (by simpa using hj) (by decide)
   have e:((l.map λ n=>[AV.I n]).getD j []).getD 0 .dead = .I l[j]:=by simp[List.getD,hj]
   rw[e] at h3;have h4:=DB h3 rfl;rw[h4] at h2;simp only[World.cell?,a3]
   simpa using h2
 obtain⟨b,off,a5,av⟩:=hu;rw[<- callsIn_wide (n:=2)];refine(fZ Fence.wide 2 trivial trivial rfl (by omega) Bs B0 b off cap a l (λ h=>(a5 h).1) hl w ?_ am (λ h=>(a5 h).2) av).mono ?_
 .simp only[World.cell?,hb]
  exact hB
 rintro e w' ⟨v,rfl,⟨_,a6⟩,h6⟩
 have b2:Au T w T w':=⟨λ _=>Qk _,λ b' cs' ty' fz' h=>⟨cs',fz',by rw[h6.block b' (QQ.1 h).1];exact h,rfl,λ _ _=>rfl⟩⟩
 have b3:∀ b',w.heap.size<=b'->T b'=0:=λ b' h5=>by
  rcases Un (T b') with e | e
  .exact e
  .obtain ⟨cells,ty,fz,h1,_⟩:=h9 b' e
   have:=(QQ.1 h1).1;omega
 have a0:Hw T w':=λ b' h5=>by
  obtain⟨cells,ty,fz,h1,h2⟩:=h9 b' h5;exact⟨cells,ty,fz,by rw[h6.block b' (QQ.1 h1).1];exact h1,h2⟩
 have fin:∀ g:GE,(∀ b,g.blk=some b->w.heap.size<=b)->Ir T w' (λ k=>if k=0 then some g else none) ⟨1,AD l,0⟩ g->Ad T w' (λ k=>if k=0 then some g else none) (.rs 0 0 l.length) v ->
   ∃ v' T' M',Ending.returned v = .returned v'/\Ad T' w' M' (.rs 0 0 l.length) v'/\EN T' w' M' (Ha [some ⟨1,AD l,0⟩])/\GW 0 T M w T' M' w':=by
  intro g hg ent hv;refine⟨v,T,_,rfl,hv,?_,⟨a0,λ _ _ _=>rfl,λ k hk=>absurd hk (U5 k),h6.os,h6.tape,h6.output,h6.size,λ b' h5 _=>h6.block b' h5,b2,λ k g1 b1 _ h1 h2=>?_⟩⟩
  .rw [show ([some ⟨1,AD l,0⟩]:List (Option AQ))=List.map some [⟨1,AD l,0⟩] from rfl,MK]
   have z:∀ id e,Cs [(⟨1,AD l,0⟩:AQ)] id=some e->id=0/\e=⟨1,AD l,0⟩:=by
    intro id e he
    cases id with
    | zero=>simp[Cs] at he;exact⟨rfl,he.symm⟩
    | succ k=>simp[Cs] at he
   refine⟨λ id e he=>?_,λ id id' e e' _ _ _ h1 h2 _ _ _ _=>by rw[(z _ _ h1).1,(z _ _ h2).1]⟩
   obtain⟨rfl,rfl⟩:=z _ _ he;exact⟨g,rfl,ent⟩
  .by_cases hk:k=0
   .subst hk
    simp at h1;subst h1;exact .inr (hg b1 h2)
   .simp [hk] at h1
 have h7:∀ row∈AD l,row.length=1:=by intro row hr;simp at hr;obtain⟨x,_,rfl⟩:=hr;rfl
 rcases a6 with ⟨rfl,h0⟩ | ⟨g,cp,cur,rfl,hg,a7,a8,bt,bf,b4⟩
 .have b5:l=[]:=UJ.1 h0
  subst b5;exact fin ⟨none,0,1⟩ (by simp) ⟨rfl,Qh _,λ _=>h7,(λ _=>rfl),(λ hz=>absurd hz (UR 0)),λ _ b' h5=>by cases h5⟩ (.rs _ _ _ _ _ _ _ rfl (UR 0) (Qk _) (λ _=>⟨rfl,rfl⟩) λ b' h5=>by cases h5)
 .refine fin ⟨some g,0,1⟩ (λ b' h5=>by cases h5;exact hg) ⟨rfl,Qh _,λ _=>h7,(λ hn=>by cases hn),(λ hz=>absurd hz (UR 0)),λ _ b' h5=>?_⟩ (.rs _ _ _ _ cp _ _ rfl (UR 0) a8 (λ hn=>by cases hn) λ b' h5=>?_)
  .obtain rfl:=Qf h5
   refine⟨cur,3,a7,by rw[b3 g hg];exact Qh _,by simp;omega,λ i j hi hj=>?_⟩
   have hi':i<l.length:=by simpa using hi
   obtain rfl:j=0:=by simpa using hj
   refine⟨.int .i64 l[i],?_,rfl,?_⟩
   .have:(cur.toList.take (l.length*1))[i]? = (l.map encZ)[i]?:=by rw[b4]
    rw[UC,if_pos (by omega)] at this
    simpa [hi',eQ] using this
   .have e:((AD l).getD i []).getD 0 .dead = .I l[i]:=by simp[List.getD,hi']
    rw[e];exact .sc _ _ rfl
  .obtain rfl:=Qf h5
   exact⟨.inr (by simp),cur,3,(0,0),a7,by simp;omega⟩
section
variable {P:Program} {np id:Nat} {h:Nat->Option AQ} {K:AV->List Nat->List (Nat × Option AQ)->Prop} {f:FuncId} {first aB args aC:List AV} {res:AV}
theorem uN (sn:List Nat) (h0:∀ i∈sn,np<=i) (hc:AK P f aC [] res []) (hw:(first++args++aB).map (conv [] sn h 4)=aC) (hk:K (conv (((List.range 8).map (id + ·)).zipIdx.map λ (a,b)=>(b,a)) [] (λ _=>none) 4 res) sn (sn.filterMap λ i=>(h i).map λ e=>(i,some { e with ro:=e.rows.length }))):aK P np id .call (.fn (.func f) first aB::args) h K :=
 ⟨[],sn,true,aC,[],res,[],by simp,by simp,λ _=>h0,by rw[Vp,hw];exact F8 _,rfl,hc,by simp,.inl rfl,by simpa using hk⟩
end
abbrev IT (l:List Int):AV:=.fn (.func 187) [] [.pv [AA l]]
theorem aW (l:List Int):AcP 163 [AA l] [] (IT l) []:=by
 refine xB.s.ai ?_;refine rk (s:=?s1) [1] [16] rfl ?o1 ?q1
 case o1=>simp;rfl
 refine rk (s:=?s2) [2] [16] rfl ?o2 ?q2
 case o2=>simp;rfl
 exact B7 [] [16]
theorem gQ (l:List Int) (hl:l.length<=1099511627776):AcP 186 [IT l] [] (.rs 0 0 l.length) [some ⟨1,AD l,0⟩]:=by
 refine nN.s.ai ?_;refine rk (s:=?s1) [0] [] rfl ?o1 ?q1
 case o1=>simp;rfl
 refine rk (s:=?s2) [2] [32] rfl ?o2 ?q2
 case o2 =>
  simp;refine CV (j4 l hl) ?_;simp[AB];rfl
 exact B7 [32] []
theorem gZ (l:List Int) (hl:l.length<=1099511627776):AcP 162 [IT l] [] (.rs 0 0 l.length) [some ⟨1,AD (HR l),0⟩]:=by
 refine iC.s.ai ?_;refine rk (s:=?s1) [0] [] rfl ?o1 ?q1
 case o1=>simp;rfl
 refine rk (s:=?s2) [3] [32] rfl ?o2 ?q2
 case o2 =>
  simp;refine CV (gQ l hl) ?_;simp[AB];rfl
 refine rk (s:=?s3) [3] [32] rfl ?o3 ?q3
 case o3 =>
  simp;refine Cq (i:=32) rfl (e':=⟨1,D5 l,0⟩) (by simp[AB,D5]) (zr7 l (by omega)) (by simp) (by simp) ?_
  simp[AB,D5];rfl
 refine rk (s:=?s4) [2] [32] rfl ?o4 ?q4
 case o4=>simp;rfl
 exact B7 [32] []
abbrev FW (P:List (List Int)):AV:=.vs 1 false (P.map λ w=>[AA w])
section
variable {P:Program} {np id:Nat} {h:Nat->Option AQ} {K:AV->List Nat->List (Nat × Option AQ)->Prop} {s s' l k:Nat} {f:Bool} {rows:List (List AV)}
@[simp] theorem xI:aK P np id (.slc s true true false) [.vs s' f rows,.sc (.int .i64 (l:Int)),.sc (.int .i64 (k:Int))] h K=(l<=k/\k<=rows.length/\s'=s/\K (.vs s false ((rows.drop l).take (k - l))) [] []):=by
 rw[GA];refine propext ⟨?_,?_⟩
 .rintro ⟨l',r,m,n,h1,h2,h4,h5,h6,h7,h3,h0,h8,h9⟩
  simp at h4 h1;subst h1;obtain⟨rfl,rfl⟩:l=l'/\k=r:=by omega
  exact⟨h2,h3,h8,by simpa using h9⟩
 .rintro ⟨h1,h2,h3,h4⟩
  exact⟨l,k,0,rows.length,rfl,h1,by simp,(λ h=>by cases h),(λ h=>by cases h),(λ h=>by cases h),h2,(λ h=>by cases h),h3,by simpa using h4⟩
end
theorem Wc {g:Gr} {p:Al} {n:Int} (hp:BT n p):∀ c∈A1 g p,0<=c/\c<=1000:=by
 intro c hc;obtain⟨d,_,rfl⟩:=Qi.1 hc;exact ON hp d
theorem tQ {g:Gr} {S:List Int} (hg:0<=g.size):(AY g S).length<=g.size.toNat:=by
 have h:=Gw (a:=AY g S) (b:=(List.range g.size.toNat).map λ (i:Nat)=>(i:Int)) (Gj g S) λ x hx=>by
  have:=IA hx;exact Qi.2 ⟨x.toNat,Qy.2 (by omega),by show ((x.toNat:Nat):Int)=x;omega⟩
 simpa using h
abbrev nC (n:G0):List AV:=[.I n.nodes,CB n.arcs]
abbrev eN (n:G0):AV:=.agg (nC n)
theorem cS (f:FuncId) (aB:List AV) (q:Ed->Bool) (l:List Ed) (hl:l.length<=1099511627776) (hs:G1 aB) (hc:∀ e∈l,AcP f (eE e::aB) [] (.B (q e)) []):AcP 201 [CB l,.fn (.func f) [] aB] [] (.I (CH l q)) []:=by
 have h6:∀ ρ sn h,aB.map (conv ρ sn h 2)=aB:=λ _ _ _=>hs _ _ _ 1
 have h0:∀ ρ sn h,aB.map (conv ρ sn h 3)=aB:=λ _ _ _=>hs _ _ _ 2
 have h2:∀ ρ sn h,aB.map (conv ρ sn h 4)=aB:=λ _ _ _=>hs _ _ _ 3
 refine kM.s.ai ?_;refine AC (AX ?_);refine AC (AC (AX ?_));refine AL (Ae (ι:=Nat) (λ k=>⟨19,[(0,CB l),(1,.fn (.func f) [] aB),(7,.I l.length),(8,.I k)],[],16⟩) (λ k=>k<=l.length /\ ∀ i,i<k -> ∀ h:i<l.length,q l[i]=false) (λ k=>l.length - k) (0) ?_ (A5 [] (by simp[h0])) ?_)
 .simp
 rintro k ⟨hk,hp⟩
 refine AC (AX ?_);refine AC (AE _ rfl (λ h4=>?_) λ h4=>?_)
 .try simp at h4
  have h3:=w6 (x:=(k:Int)+1);have h5:=hc l[k] (Qj h4);refine AJ (AC (AL (AC (Ag (s:=?s5) rfl ?o5 ?q5))))
  case o5=>simp[h4];rfl
  refine AC (Ag (s:=?s6) rfl ?o6 ?q6)
  case o6 =>
   simp[h4];refine Aq h5 ?_ ?_
   .simp [h2]
   simp;rfl
  refine AE _ rfl (λ h7=>?_) λ h7=>?_
  .try simp at h7
   refine AC (AX ?_);exact A9 (AS.one (by simp[OM h4 hp h7]))
  try simp at h7
  refine AJ (Ag (s:=?s9) rfl ?o9 ?q9)
  case o9=>simp[h3];rfl
  refine⟨k+1,⟨h4,λ i hi=>?_⟩,by omega,A5 [] (by simp[h0])⟩
  rcases QY.1 hi with h | rfl
  .exact hp i h
  .exact λ _=>h7
 try simp at h4
 have h1:∀ i,i<l.length -> ∀ h:i<l.length,q l[i]=false:=λ i hi=>hp i (by omega)
 refine Aa (hit (AC (AX ?_)));exact A9 (AS.one (by simp[N5 h1]))
theorem wT (f:FuncId) (aB:List AV) (q:Ed->Bool) (l:List Ed) (hl:l.length<=1099511627776) (hs:G1 aB) (hc:∀ e∈l,AcP f (eE e::aB) [] (.B (q e)) []):AcP 176 [CB l,.fn (.func f) [] aB] [] (.B (l.any q)) []:=by
 have h0:∀ ρ sn h,aB.map (conv ρ sn h 2)=aB:=λ _ _ _=>hs _ _ _ 1
 have h1:∀ ρ sn h,aB.map (conv ρ sn h 3)=aB:=λ _ _ _=>hs _ _ _ 2
 have h3:∀ ρ sn h,aB.map (conv ρ sn h 4)=aB:=λ _ _ _=>hs _ _ _ 3
 refine lH.s.ai ?_;refine AC (AX ?_)
 have hi:decide (0<=CH l q)=l.any q:=by
  unfold CH
  by_cases h:l.findIdx q<l.length
  .rw [if_pos h]
   have:=Vm (w:=h);have h2:l.any q=true:=Ui.2 ⟨_,Qj h,this⟩;rw[h2];simp
  .rw [if_neg h]
   have:l.findIdx q=l.length:=by have:=Vc (xs:=l) (p:=q);omega
   rw[UZ] at this
   have h2:l.any q=false:=by
    rw[List.any_eq_false];intro x hx;simp[this x hx]
   rw[h2];simp
 refine arc ⟨9,[(4,.B (l.any q))],[],16⟩ ?_ ?_
 .simp
  refine Aq (cS f aB q l hl hs hc) ?_ ?_
  .simp [h0,h1,h3]
  simp;exact A5 [] (by simp;exact Aw hi)
 exact Bl
theorem bZ (n:G0) (a:Ed) (h2:2<=n.nodes) (h3:n.nodes<=130):AcP 175 [eE a,.pv (nC n)] [] (.B (!decide (GF n.nodes a))) []:=by
 refine oG.s.ai ?_;have hw:=w6 (x:=n.nodes - 1);refine rs [1,2] [] [16] ?_;refine arc ⟨43,[(3,.B (!decide (GF n.nodes a)))],[],400⟩ ?_ ?_
 .simp [hw]
  repeat' first
   | (refine EU 37 rfl ?_;refine Aq (Ev ..) rfl ?_;simp[hw])
   | (refine Dd (λ hb=>?_) (λ hb=>?_)<;>(try rw[hb])<;>(try simp at hb)<;>simp[hb,hw])
  all_goals exact A5 [] (by simp<;>exact Aw (by (try simp at *);grind [GF]))
 exact Bl
theorem Wz (n:G0) (hl:n.arcs.length<=1099511627776):AcP 138 [eN n] [] (.I (if Cu n then 0 else 16)) []:=by
 refine YP.s.ai ?_;refine rs [1] [] [16] ?_;refine rs [1,3] [] [] ?_;refine AC (arc ⟨21,[(20,.B (!decide (Cu n)))],[],300⟩ ?_ ?_)
 .by_cases h2:2<=n.nodes/\n.nodes<=130
  .have h0:=wT 175 [.pv (nC n)] (λ a=>!decide (GF n.nodes a)) n.arcs hl (λ ρ sn h k=>by simp) (λ e _=>bZ n e h2.1 h2.2)
   simp;refine Aq (Ev ..) rfl ?_;simp[h2]
   by_cases h3:n.arcs.length<=1200
   .simp [show ¬ (1200<n.arcs.length) by omega,show ¬ (1200<(n.arcs.length:Int)) by omega]
    refine Aj h0 ?_;simp;refine A5 [] (by simp<;>exact Aw (by rw[Qp];simp[Cu,h2,h3]))
   .simp [show (1200<(n.arcs.length:Int)) by omega]
    refine A5 [] (by simp[Cu,h3])
  .simp
   refine Aq (Ev ..) rfl ?_;have h1:(decide (2<=n.nodes) && decide (n.nodes<=130))=false:=by simpa using λ h=>by omega
   simp[h1];have hn:¬ Cu n:=λ h=>h2 ⟨h.1,h.2.1⟩;refine A5 [] (by simp[hn])
 refine AE _ rfl (λ h7=>?_) λ h7=>?_
 .simp at h7
  refine rs [2] [] [] ?_;exact A9 (AS.one (by simp[h7]))
 simp at h7;refine AJ (rs [2] [] [] ?_);exact A9 (AS.one (by simp[h7]))
def NO (n:G0):Prop:=(2<=n.nodes/\n.nodes<=130)/\n.arcs.length<=1200
def Kt (n:G0) (i:Nat):Prop:=∀ h:i<n.arcs.length,GF n.nodes n.arcs[i]
theorem zjh {n:G0}:Cu n↔NO n /\ ∀ i,Kt n i:=by
 unfold Cu NO Kt;constructor
 .rintro ⟨a,b,c,d⟩
  exact⟨⟨⟨a,b⟩,c⟩,λ i h=>d _ (Qj h)⟩
 .rintro ⟨⟨⟨a,b⟩,c⟩,d⟩
  exact⟨a,b,c,λ x hx=>by obtain⟨i,hi,rfl⟩:=Uq hx;exact d i hi⟩
open Classical in
theorem zhl (n:G0) (hl:n.arcs.length<=1099511627776):AcP 117 [eN n] [] (.I (if Cu n then 0 else 16)) []:=by
 refine Yx.s.ai ?_;refine rs [1] [] [16] ?_;refine AC (arc ⟨80,[(1,.pv (nC n)),(18,.B (!decide (NO n)))],[],300⟩ ?_ ?_)
 .simp
  repeat' first
   | (refine Dd (λ hb=>?_) (λ hb=>?_)<;>(try rw[hb])<;>(try simp at hb)<;>simp[hb])
  all_goals exact A5 [] (by simp<;>exact Aw (by (try simp at *);grind [NO]))
 refine AE _ rfl (λ h3=>?_) λ h3=>?_
 .simp at h3
  refine rs [2] [] [] ?_;exact A9 (AS.one (by simp[zjh,h3]))
 simp at h3;refine AJ (AC (rs [1,3] [] [] ?_));refine AL (Ae (ι:=Nat) (λ i=>⟨80,[(1,.pv (nC n)),(3,.I i)],[],308⟩) (λ i=>i<=n.arcs.length /\ ∀ k,k<i->Kt n k) (λ i=>n.arcs.length - i) 0 (by simp) (Bk [] []) ?_)
 rintro i ⟨hi,hp⟩
 refine AC (rs [1,3,23] [] [] ?_);refine AE _ rfl (λ h7=>?_) λ h7=>?_
 .simp at h7
  have hw:=w6 (x:=(i:Int)+1);refine AJ (AC (AL ?_));apply ax [1,3,4] [] [388] 408
  .simp [h7]
   rfl
  refine arc ⟨80,[(1,.pv (nC n)),(3,.I i),(79,.B (!decide (Kt n i)))],[],900⟩ ?_ ?_
  .simp
   have h0:Kt n i↔GF n.nodes n.arcs[i]:=⟨λ h=>h h7,λ h _=>h⟩
   repeat' first
    | (refine Dd (λ hb=>?_) (λ hb=>?_)<;>(try rw[hb])<;>(try simp at hb)<;>simp[hb])
   all_goals exact A5 [] (by simp<;>exact Aw (by (try simp at *);simp only[h0];grind [GF]))
  refine AE _ rfl (λ h9=>?_) λ h9=>?_
  .refine rs [2] [] [] ?_
   refine BG ?_;have hn:¬ Cu n:=λ h=>by simp at h9;exact h9 ((zjh.1 h).2 i)
   exact⟨.inr rfl,AS.one (by simp[hn])⟩
  simp at h9;refine AJ (AX ?_);refine⟨i+1,⟨h7,λ k hk=>?_⟩,by omega,AF [] [] (by simp[hw])⟩
  rcases QY.1 hk with h | rfl
  .exact hp k h
  .exact h9
 simp at h7;have hy:Cu n:=zjh.2 ⟨h3,λ k hk=>hp k (by omega) hk⟩
 refine Aa (hit (rs [2] [] [] ?_));exact A9 (AS.one (by simp[hy]))
section
variable {P:Program} {np id:Nat} {h:Nat->Option AQ} {K:AV->List Nat->List (Nat × Option AQ)->Prop} {f:FuncId} {first aB args aC:List AV} {res:AV}
theorem HP {i j:Nat} {e1 e2 e1' e2':AQ} {hs':List (Option AQ)} (h0:i≠j) (h1:h i=some e1) (h2:h j=some e2) (h3:Ab [(i,0),(j,1)] [] h 4 e1=e1') (h4:Ab [(i,0),(j,1)] [] h 4 e2=e2') (hc:AK P f aC [e1',e2'] res hs') (h8:hs'.length<=10) (he:(first++args++aB).map (conv [(i,0),(j,1)] [] h 4)=aC) (hk:K (conv (C9 [i,j] id) [] (λ _=>none) 4 res) [i,j] (hs'.zipIdx.map λ (e,k)=>((i::j::(List.range 8).map (id + ·)).getD k 0,e.map (Ab (C9 [i,j] id) [] (λ _=>none) 4)))):aK P np id .call (.fn (.func f) first aB::args) h K :=
 ⟨[i,j],[],true,aC,[e1',e2'],res,hs',by simp[h0],by simp,by simp,by rw[show [i,j].zipIdx=[(i,0),(j,1)] from rfl,he];exact F8 _,by
  rw[show [i,j].zipIdx=[(i,0),(j,1)] from rfl]
  simp only[Qo,UE,h1,h2,Q8,h3,h4],hc,by simpa using h8,.inl rfl,by simpa [C9] using hk⟩
end
theorem KB (k:Int) (h:0<=k) (h2:k<=1000000):AcP 158 [.I k] [] (.I (2+2*k)) []:=by
 refine qO.s.ai ?_;have h0:=w6 (x:=2*k);have h1:=w6 (x:=2+2*k);refine rs [0] [] [] ?_;refine rx (s:=?s2) [2] [] [] rfl ?o2 ?q2
 case o2=>simp[h0,h1];rfl
 exact Bl
theorem zil (k:Int) (h:0<=k) (h2:k<=1000000):AcP 161 [.I k] [] (.I (3+2*k)) []:=by
 refine jA.s.ai ?_;have h0:IntKind.i64.wrap (2+2*k+1)=3+2*k:=by rw[w6];omega
 refine rs [0] [] [] ?_;refine rx (s:=?s2) [2] [] [] rfl ?o2 ?q2
 case o2=>simp;refine Aq (KB k h h2) (by simp) ?_;simp[h0];rfl
 exact Bl
theorem Lx (k:Int) (h:0<=k) (h2:k<=1000000):AcP 156 [.I k] [] (.I (2+2*k)) []:=by
 refine sL.s.ai ?_;have h0:=w6 (x:=2*k);have h1:=w6 (x:=2+2*k);refine rs [0] [] [] ?_;refine rx (s:=?s2) [2] [] [] rfl ?o2 ?q2
 case o2=>simp[h0,h1];rfl
 exact Bl
theorem S8 (k:Int) (h:0<=k) (h2:k<=1000000):AcP 157 [.I k] [] (.I (3+2*k)) []:=by
 refine Yu.s.ai ?_;have h0:=w6 (x:=2*k);have h1:=w6 (x:=3+2*k);refine rs [0] [] [] ?_;refine rx (s:=?s2) [2] [] [] rfl ?o2 ?q2
 case o2=>simp[h0,h1];rfl
 exact Bl
abbrev CP (N:Int) (B n:Nat):AQ:=⟨2,[[.I N,.rs B 0 n]],0⟩
theorem MN (N f t v:Int) (L:List Ed) (n:Nat) (hL:L.length=n) (hn:n<=1000000):AcP 159 [.I f,.I t,.I v,.pt 0 0 0] [CP N 1 n,⟨3,A3 L,0⟩] (.tup []) [some (CP N 2 (n+1)),none,some ⟨3,A3 (L++[⟨f,t,v⟩]),0⟩]:=by
 refine ZF.s.ai ?_;have h0:∀ f:Ed->List AV,List.take n (List.map f L)=List.map f L:=λ f=>Qb (by simp[hL])
 refine Ag (s:=?s1) rfl ?o1 ?q1
 case o1=>simp[hL,h0];refine⟨by omega,by omega,?_⟩;rfl
 refine⟨.inl rfl,⟨[],rfl,[72],[],by simp[List.range,List.range.loop],by simp,by simp,by simp,?_⟩⟩
 simp[List.range,List.range.loop]
variable {α:Type}
def DN (c:List Int) (x:Int):List Ed:=if 0<c.getD x.toNat 0 then [⟨0,2+2*x,c.getD x.toNat 0⟩] else []
def DM (c:List Int) (i:Nat):List Ed:=if 0<c.getD i 0 then [⟨2+2*(i:Int),3+2*(i:Int),c.getD i 0 - 1⟩] else []
def DL (c:List Int) (x:Int):List Ed:=if 0<c.getD x.toNat 0 then [⟨2+2*x,1,1⟩] else []
def DR (c:List Int) (e:Ed):List Ed:=if 0<c.getD e.f.toNat 0 then [⟨3+2*e.f,2+2*e.t,64⟩] else []
theorem NY (q:α->Bool) (f:α->Ed) (l:List α):(l.filter q).map f=l.flatMap λ x=>if q x=true then [f x] else []:=by
 induction l with
 | nil=>rfl
 | cons x l ih=>by_cases h:q x=true<;>simp[h,ih]
theorem N3 (g:Gr) (p:Al) (c aA:List Int):D3 g p c aA=p.seeds.flatMap (DN c)++(List.range c.length).flatMap (DM c)++aA.flatMap (DL c)++(AM g p.lv).edges.flatMap (DR c):=by
 unfold D3;rw[NY,NY,NY,NY];simp only[Qd];rfl
theorem Ix (f:α->List Ed) (l:List α) (i:Nat) (h:i<l.length):(l.take (i+1)).flatMap f=(l.take i).flatMap f++f l[i]:=by
 rw[Qm h,List.flatMap_append];simp
theorem Gv (f:α->List Ed) (hf:∀ x,(f x).length<=1) (l:List α):(l.flatMap f).length<=l.length:=by
 induction l with
 | nil=>simp
 | cons x l ih=>rw[Vf,Qg,QN];have:=hf x;omega
theorem KY (c:List Int) (x:Int):(DN c x).length<=1:=by unfold DN;split<;>simp
theorem Lg (c:List Int) (x:Nat):(DM c x).length<=1:=by unfold DM;split<;>simp
theorem LM (c:List Int) (x:Int):(DL c x).length<=1:=by unfold DL;split<;>simp
theorem LB (c:List Int) (x:Ed):(DR c x).length<=1:=by unfold DR;split<;>simp
theorem Io (f:α->List Ed) (hf:∀ x,(f x).length<=1) (l:List α) (i:Nat):((l.take i).flatMap f).length<=l.length:=QH (Gv f hf _) (Va i l)
theorem n7 (g:Gr) (p:Al) (aA:List Int) (hg:AI g) (hp:BT g.size p) (hr:Bu aA 0 (g.size - 1)) (hs:p.seeds.length<=64) (a8:aA.length<=64) :
  AcP 121 [eG g,eP p,AA aA] [] (.tup [eN ⟨2+2*g.size,D3 g p (A1 g p) aA⟩,.I 0]) []:=by
 refine uZ.s.ai ?_;have a9:=hg.1.1;have b1:=hg.1.2.1;have ad:=hg.edges_le;have b3:=hg.gone_le;have hb:=Mm g p (by omega) (by omega) (by omega) (by have:=hp.2.2.2.1;omega)
 rw[if_pos hg,if_pos hp] at hb;have h9:=bV g p hg (by omega)
 have a1:=Wc (g:=g) hp;have a2:(A1 g p).length=g.size.toNat:=GK;rw[<- a2] at h9;have hc:=Kp g p.lv (by omega) (by omega)
 rw[N3];obtain⟨C,hC⟩:=AG (A1 g p);rw[<- hC] at h9 a2 a1 ⊢;have a3:∀ e∈(AM g p.lv).edges,e∈g.edges:=λ e he=>(Qx.1 he).1;have a4:(AM g p.lv).edges.length<=500:=QH (QU ..) ad;obtain⟨G,hG⟩:=AG (AM g p.lv);rw[<- hG] at hc a3 a4 ⊢;have ag:=w6 (x:=g.size - 1)
 have a5:∀ e∈G.edges,(0<=e.f/\e.f<g.size)/\(0<=e.t/\e.t<g.size):=λ e he=>by
  have:=hg.fits e (a3 e he);unfold BO at this;omega
 have h5:∀ k:Int,0<=k->k<g.size -> ∃ j:Nat,k=j/\j<C.length/\j<64:=λ k h0 h1=>⟨k.toNat,by omega,by omega,by omega⟩
 have hf:∀ k∈p.seeds,∃ j:Nat,k=j/\j<C.length/\j<64:=λ k hk=>by
  obtain⟨i,hi,rfl⟩:=Uq hk;have:=hp.2.1 i hi;exact h5 _ (by omega) (by omega)
 have hh:∀ k∈aA,∃ j:Nat,k=j/\j<C.length/\j<64:=λ k hk=>by
  obtain⟨i,hi,rfl⟩:=Uq hk;have:=hr i hi;exact h5 _ (by omega) (by omega)
 refine ar [2,3,4,6] [(32,32)] [16,24] 48 ?_;refine AC (rk (s:=?s2) [2,3,4,6,8] [32] rfl ?o2 ?q2)
 case o2=>simp;refine Aq hb (by simp) ?_;simp;rfl
 refine rk (s:=?s3) [2,3,4,6,24] [32] rfl ?o3 ?q3
 case o3=>simp;rfl
 refine AE _ rfl (λ h4=>?_) λ h4=>AJ ?_
 .simp at h4
 refine AC (rk (s:=?s5) [2,3,4,6,32] [32] rfl ?o5 ?q5)
 case o5=>simp[ag];refine Aq (Nf aA 0 (g.size - 1) (by omega)) (by simp) ?_;simp[hr];rfl
 refine AE _ rfl (λ h6=>?_) λ h6=>AJ ?_
 .simp at h6
 refine rk (s:=?s7) [2,3,4,6,9] [32,176] rfl ?o7 ?q7
 case o7=>simp;refine Aq (KB g.size a9 (by omega)) (by simp) ?_;simp;rfl
 obtain⟨N,hN⟩:∃ N:Int,N=2+2*g.size:=⟨_,rfl⟩;simp only[<- hN];refine rk (s:=?s8) [2,3,4,6,9,10] [32,176] rfl ?o8 ?q8
 case o8=>simp;rfl
 refine arc ⟨123,[(2,AA aA),(3,.pv (gC g)),(4,.pv (pC p)),(6,.pt 32 0 0),(9,.pt 176 0 0),(10,.fn (.func 159) [] [.pt 176 0 0]),(11,AA C)],[(32,some ⟨2,[[.I 0,.nilS]],0⟩),(176,some ⟨2,[[.I N,.nilS]],0⟩)],240⟩ ?_ ?_
 .simp
  refine CV h9 ?_;simp[AB];exact AF [(32,32),(176,176)] [224] (by simp[AB,Cz])
 have am:(p.seeds.flatMap (DN C)).length<=64:=QH (Gv _ (KY C) _) hs;have an:((List.range C.length).flatMap (DM C)).length<=64:=QH (Gv _ (Lg C) _) (by rw[UB];omega)
 have au:(aA.flatMap (DL C)).length<=64:=QH (Gv _ (LM C) _) a8;have av:(G.edges.flatMap (DR C)).length<=500:=QH (Gv _ (LB C) _) a4;obtain⟨X1,hj⟩:∃ X,X=p.seeds.flatMap (DN C):=⟨_,rfl⟩;obtain⟨X2,ho⟩:∃ X,X=(List.range C.length).flatMap (DM C):=⟨_,rfl⟩;obtain⟨X3,hq⟩:∃ X,X=aA.flatMap (DL C):=⟨_,rfl⟩;obtain⟨X4,hv⟩:∃ X,X=G.edges.flatMap (DR C):=⟨_,rfl⟩;obtain⟨Z2,hy⟩:∃ Z,Z=X1++X2:=⟨_,rfl⟩;obtain⟨Z3,hz⟩:∃ Z,Z=Z2++X3:=⟨_,rfl⟩;obtain⟨Z4,a6⟩:∃ Z,Z=Z3++X4:=⟨_,rfl⟩;rw[<- hj] at am;rw[<- ho] at an;rw[<- hq] at au;rw[<- hv] at av;rw[<- hj,<- ho,<- hq,<- hv,<- hy,<- hz,<- a6];have b4:Z2.length<=128:=by rw[hy,Qg];omega
 have b5:Z3.length<=192:=by rw[hz,Qg];omega
 refine AC (rk (s:=?sa1) [2,3,4,6,9,10,11,43,44,45] [32,176] rfl ?oa1 ?qa1)
 case oa1=>simp;rfl
 refine AL ?_
 obtain⟨Fa,Fa0,Fas,Fal,FaN⟩:∃ F:Nat->List Ed,F 0=[]/\(∀ i (h:i<(p.seeds).length),F (i+1)=F i++DN C (p.seeds)[i])/\(∀ i,(F i).length<=64)/\F (p.seeds).length=(p.seeds).flatMap (DN C) :=
  ⟨λ i=>((p.seeds).take i).flatMap (DN C),by simp,λ i h=>by simp only[Ix _ _ i h,Qu],λ i=>by have:=Io _ (KY C) (p.seeds) i;exact QH this hs,by simp⟩
 rw[<- hj] at FaN;refine Ae (ι:=Nat) (λ i=>⟨123,[(2,AA aA),(3,.pv (gC g)),(4,.pv (pC p)),(6,.pt 32 0 0),(9,.pt 176 0 0),(10,.fn (.func 159) [] [.pt 176 0 0]),(11,AA C),(43,AA p.seeds),(44,.I p.seeds.length),(45,.I i)],[(32,some ⟨2,[[.I 0,.nilS]],0⟩),(176,some (CP N 16 (Fa i).length)),(16,some ⟨3,A3 (Fa i),0⟩)],272⟩) (λ i=>i<=p.seeds.length) (λ i=>p.seeds.length - i) 0 (Qh _) (Le.lst [(32,32),(176,176)] [] [(16,3)] rfl (by simp) (by simp) (by simp) (by simp) (by simp) (by simp) (by simp) (by simp[Up]) (by simp[Fa0];refine⟨Am.rfl' (by simp),Am.row rfl (by omega) (by simp[Eg,Up])⟩)) ?_
 intro i hi;refine rk (s:=?sa2) [2,3,4,6,9,10,11,43,44,45,46] [32,176,16] rfl ?oa2 ?qa2
 case oa2=>simp;rfl
 refine AC (AE _ rfl (λ h7=>?_) λ h7=>?_)
 .simp at h7
  have hw:=w6 (x:=(i:Int)+1);have a0:=Fal i;obtain⟨k,hk,h3,hd⟩:=hf _ (Qj h7)
  have h2:Fa (i+1)=Fa i++if 0<C[k] then [⟨0,2+2*(k:Int),C[k]⟩] else []:=by
   rw[Fas i h7,hk];unfold DN;simp[h3]
  refine AJ (Ao ⟨123,[(2,AA aA),(3,.pv (gC g)),(4,.pv (pC p)),(6,.pt 32 0 0),(9,.pt 176 0 0),(10,.fn (.func 159) [] [.pt 176 0 0]),(11,AA C),(43,AA p.seeds),(44,.I p.seeds.length),(45,.I i)],[(32,some ⟨2,[[.I 0,.nilS]],0⟩),(176,some (CP N 16 (Fa (i+1)).length)),(16,some ⟨3,A3 (Fa (i+1)),0⟩)],700⟩ ?_ ?_)
  .refine AL (rk (s:=?sa3) [2,3,4,6,9,10,11,13,43,44,45] [32,176,16] rfl ?oa3 ?qa3)
   case oa3=>simp[h7,hk];rfl
   refine rk (s:=?sa4) [2,3,4,6,9,10,11,13,43,44,45,53] [32,176,16] rfl ?oa4 ?qa4
   case oa4=>simp[h3];rfl
   refine AE _ rfl (λ h8=>?_) λ h8=>?_
   .simp at h8
    rw[if_pos h8] at h2;refine Cr rfl ?_;simp[h3];refine Aj (KB k (by omega) (by omega)) ?_
    simp[h3];refine HP (i:=176) (j:=16) (by decide) rfl rfl (e1':=CP N 1 (Fa i).length) (e2':=⟨3,A3 (Fa i),0⟩) (by simp) (by simp[AB]) (MN N 0 (2+2*(k:Int)) C[k] (Fa i) _ rfl (by omega)) (by simp) (by simp) ?_
    simp[AB];exact⟨rfl,AF [(32,32),(176,176),(400,16)] [] (by simp[h2]) (by simp[h2,AB])⟩
   .simp at h8
    rw[if_neg (by omega)] at h2
    exact AJ (AF [(32,32),(176,176),(16,16)] [] (by simp[h2]) (by simp[h2,AB]))
  refine AX ?_;exact⟨i+1,by omega,by omega,AF [(32,32),(176,176),(16,16)] [] (by simp[hw]) (by simp[AB])⟩
 simp at h7;obtain rfl:i=p.seeds.length:=by omega
 rw[FaN];refine Aa (hit ?_);refine AC (rk (s:=?sb1) [2,3,4,6,9,10,11,63,64,65] [32,176,16] rfl ?ob1 ?qb1)
 case ob1=>simp;rfl
 refine AL ?_
 obtain⟨Fb,Fb0,Fbs,Fbl,FbN⟩:∃ F:Nat->List Ed,F 0=X1/\(∀ i (h:i<(List.range C.length).length),F (i+1)=F i++DM C (List.range C.length)[i])/\(∀ i,(F i).length<=200)/\F (List.range C.length).length=X1++(List.range C.length).flatMap (DM C) :=
  ⟨λ i=>X1++((List.range C.length).take i).flatMap (DM C),by simp,λ i h=>by simp only[Ix _ _ i h,Qu],λ i=>by have:=Io _ (Lg C) (List.range C.length) i;rw[UB] at this;rw[Qg];omega,by simp⟩
 rw[UB,<- ho,<- hy] at FbN;refine Ae (ι:=Nat) (λ i=>⟨123,[(2,AA aA),(3,.pv (gC g)),(4,.pv (pC p)),(6,.pt 32 0 0),(9,.pt 176 0 0),(10,.fn (.func 159) [] [.pt 176 0 0]),(11,AA C),(63,AA C),(64,.I C.length),(65,.I i)],[(32,some ⟨2,[[.I 0,.nilS]],0⟩),(176,some (CP N 16 (Fb i).length)),(16,some ⟨3,A3 (Fb i),0⟩)],304⟩) (λ i=>i<=C.length) (λ i=>C.length - i) 0 (Qh _) (AF [(32,32),(176,176),(16,16)] [] (by simp[Fb0]) (by simp[Fb0,AB])) ?_
 intro i hi;refine rk (s:=?sb2) [2,3,4,6,9,10,11,63,64,65,66] [32,176,16] rfl ?ob2 ?qb2
 case ob2=>simp;rfl
 refine AC (AE _ rfl (λ h7=>?_) λ h7=>?_)
 .simp at h7
  have hw:=w6 (x:=(i:Int)+1);have a0:=Fbl i;have h3:=h7
  have h2:Fb (i+1)=Fb i++if 0<C[i] then [⟨2+2*(i:Int),3+2*(i:Int),C[i] - 1⟩] else []:=by
   rw[Fbs i (by simpa using h7)]
   unfold DM;simp[h3]
  have b6:=a1 _ (Qj h7);have a7:=w6 (x:=C[i] - 1);refine AJ (Ao ⟨123,[(2,AA aA),(3,.pv (gC g)),(4,.pv (pC p)),(6,.pt 32 0 0),(9,.pt 176 0 0),(10,.fn (.func 159) [] [.pt 176 0 0]),(11,AA C),(63,AA C),(64,.I C.length),(65,.I i)],[(32,some ⟨2,[[.I 0,.nilS]],0⟩),(176,some (CP N 16 (Fb (i+1)).length)),(16,some ⟨3,A3 (Fb (i+1)),0⟩)],700⟩ ?_ ?_)
  .refine AL (rk (s:=?sb3) [2,3,4,6,9,10,11,14,15,63,64,65] [32,176,16] rfl ?ob3 ?qb3)
   case ob3=>simp[h7];rfl
   refine rk (s:=?sb4) [2,3,4,6,9,10,11,14,15,63,64,65,71] [32,176,16] rfl ?ob4 ?qb4
   case ob4=>simp[h3];rfl
   refine AE _ rfl (λ h8=>?_) λ h8=>?_
   .simp at h8
    rw[if_pos h8] at h2;refine Ac rfl ?_;simp[h3];refine Aj (KB i (by omega) (by omega)) ?_
    simp[a7];refine Aj (zil i (by omega) (by omega)) ?_
    simp[a7];refine HP (i:=176) (j:=16) (by decide) rfl rfl (e1':=CP N 1 (Fb i).length) (e2':=⟨3,A3 (Fb i),0⟩) (by simp) (by simp[AB]) (MN N (2+2*(i:Int)) (3+2*(i:Int)) (C[i] - 1) (Fb i) _ rfl (by omega)) (by simp) (by simp) ?_
    simp[AB];exact AF [(32,32),(176,176),(424,16)] [] (by simp[h2]) (by simp[h2,AB])
   .simp at h8
    rw[if_neg (by omega)] at h2
    exact AJ (AF [(32,32),(176,176),(16,16)] [] (by simp[h2]) (by simp[h2,AB]))
  refine AX ?_;exact⟨i+1,by omega,by omega,AF [(32,32),(176,176),(16,16)] [] (by simp[hw]) (by simp[AB])⟩
 simp at h7;obtain rfl:i=C.length:=by omega
 rw[FbN];refine Aa (hit ?_);refine AC (rk (s:=?sc1) [3,4,6,9,10,11,81,82,83] [32,176,16] rfl ?oc1 ?qc1)
 case oc1=>simp;rfl
 refine AL ?_
 obtain⟨Fc,Fc0,Fcs,Fcl,FcN⟩:∃ F:Nat->List Ed,F 0=Z2/\(∀ i (h:i<(aA).length),F (i+1)=F i++DL C (aA)[i])/\(∀ i,(F i).length<=300)/\F (aA).length=Z2++(aA).flatMap (DL C) :=
  ⟨λ i=>Z2++((aA).take i).flatMap (DL C),by simp,λ i h=>by simp only[Ix _ _ i h,Qu],λ i=>by have:=Io _ (LM C) (aA) i;simp only[Qg];omega,by simp⟩
 rw[<- hq,<- hz] at FcN;refine Ae (ι:=Nat) (λ i=>⟨123,[(3,.pv (gC g)),(4,.pv (pC p)),(6,.pt 32 0 0),(9,.pt 176 0 0),(10,.fn (.func 159) [] [.pt 176 0 0]),(11,AA C),(81,AA aA),(82,.I aA.length),(83,.I i)],[(32,some ⟨2,[[.I 0,.nilS]],0⟩),(176,some (CP N 16 (Fc i).length)),(16,some ⟨3,A3 (Fc i),0⟩)],336⟩) (λ i=>i<=aA.length) (λ i=>aA.length - i) 0 (Qh _) (AF [(32,32),(176,176),(16,16)] [] (by simp[Fc0]) (by simp[Fc0,AB])) ?_
 intro i hi;refine rk (s:=?sc2) [3,4,6,9,10,11,81,82,83,84] [32,176,16] rfl ?oc2 ?qc2
 case oc2=>simp;rfl
 refine AC (AE _ rfl (λ h7=>?_) λ h7=>?_)
 .simp at h7
  have hw:=w6 (x:=(i:Int)+1);have a0:=Fcl i;obtain⟨k,hk,h3,hd⟩:=hh _ (Qj h7)
  have h2:Fc (i+1)=Fc i++if 0<C[k] then [⟨2+2*(k:Int),1,1⟩] else []:=by
   rw[Fcs i h7,hk];unfold DL;simp[h3]
  refine AJ (Ao ⟨123,[(3,.pv (gC g)),(4,.pv (pC p)),(6,.pt 32 0 0),(9,.pt 176 0 0),(10,.fn (.func 159) [] [.pt 176 0 0]),(11,AA C),(81,AA aA),(82,.I aA.length),(83,.I i)],[(32,some ⟨2,[[.I 0,.nilS]],0⟩),(176,some (CP N 16 (Fc (i+1)).length)),(16,some ⟨3,A3 (Fc (i+1)),0⟩)],700⟩ ?_ ?_)
  .refine AL (rk (s:=?sc3) [3,4,6,9,10,11,17,81,82,83] [32,176,16] rfl ?oc3 ?qc3)
   case oc3=>simp[h7,hk];rfl
   refine rk (s:=?sc4) [3,4,6,9,10,11,17,81,82,83,91] [32,176,16] rfl ?oc4 ?qc4
   case oc4=>simp[h3];rfl
   refine AE _ rfl (λ h8=>?_) λ h8=>?_
   .simp at h8
    rw[if_pos h8] at h2;refine Ac rfl ?_;simp[h3];refine Aj (KB k (by omega) (by omega)) ?_
    simp;refine HP (i:=176) (j:=16) (by decide) rfl rfl (e1':=CP N 1 (Fc i).length) (e2':=⟨3,A3 (Fc i),0⟩) (by simp) (by simp[AB]) (MN N (2+2*(k:Int)) 1 1 (Fc i) _ rfl (by omega)) (by simp) (by simp) ?_
    simp[AB];exact AF [(32,32),(176,176),(432,16)] [] (by simp[h2]) (by simp[h2,AB])
   .simp at h8
    rw[if_neg (by omega)] at h2
    exact AJ (AF [(32,32),(176,176),(16,16)] [] (by simp[h2]) (by simp[h2,AB]))
  refine AX ?_;exact⟨i+1,by omega,by omega,AF [(32,32),(176,176),(16,16)] [] (by simp[hw]) (by simp[AB])⟩
 simp at h7;obtain rfl:i=aA.length:=by omega
 rw[FcN];refine Aa (hit ?_);refine AC (rk (s:=?sd1) [6,9,10,11,101,102,103] [32,176,16] rfl ?od1 ?qd1)
 case od1=>simp;refine Aq hc (by simp) ?_;simp;rfl
 refine AL ?_
 obtain⟨Fd,Fd0,Fds,Fdl,FdN⟩:∃ F:Nat->List Ed,F 0=Z3/\(∀ i (h:i<(G.edges).length),F (i+1)=F i++DR C (G.edges)[i])/\(∀ i,(F i).length<=900)/\F (G.edges).length=Z3++(G.edges).flatMap (DR C) :=
  ⟨λ i=>Z3++((G.edges).take i).flatMap (DR C),by simp,λ i h=>by simp only[Ix _ _ i h,Qu],λ i=>by have:=Io _ (LB C) (G.edges) i;simp only[Qg];omega,by simp⟩
 rw[<- hv,<- a6] at FdN;refine Ae (ι:=Nat) (λ i=>⟨123,[(6,.pt 32 0 0),(9,.pt 176 0 0),(10,.fn (.func 159) [] [.pt 176 0 0]),(11,AA C),(101,CB G.edges),(102,.I G.edges.length),(103,.I i)],[(32,some ⟨2,[[.I 0,.nilS]],0⟩),(176,some (CP N 16 (Fd i).length)),(16,some ⟨3,A3 (Fd i),0⟩)],400⟩) (λ i=>i<=G.edges.length) (λ i=>G.edges.length - i) 0 (Qh _) (AF [(32,32),(176,176),(16,16)] [] (by simp[Fd0]) (by simp[Fd0,AB])) ?_
 intro i hi;refine rk (s:=?sd2) [6,9,10,11,101,102,103,104] [32,176,16] rfl ?od2 ?qd2
 case od2=>simp;rfl
 refine AC (AE _ rfl (λ h7=>?_) λ h7=>?_)
 .simp at h7
  have hw:=w6 (x:=(i:Int)+1);have a0:=Fdl i;obtain⟨x,hx⟩:=AG (G.edges[i]);have ha:=a5 _ (Qj h7);rw[<- hx] at ha;obtain⟨k,hk,h3,hd⟩:=h5 x.f ha.1.1 ha.1.2;obtain⟨u,hu,bf,b2⟩:=h5 x.t ha.2.1 ha.2.2
  have h2:Fd (i+1)=Fd i++if 0<C[k] then [⟨3+2*(k:Int),2+2*(u:Int),64⟩] else []:=by
   rw[Fds i h7,<- hx];unfold DR;rw[hk,hu];simp[h3]
  refine AJ (Ao ⟨123,[(6,.pt 32 0 0),(9,.pt 176 0 0),(10,.fn (.func 159) [] [.pt 176 0 0]),(11,AA C),(101,CB G.edges),(102,.I G.edges.length),(103,.I i)],[(32,some ⟨2,[[.I 0,.nilS]],0⟩),(176,some (CP N 16 (Fd (i+1)).length)),(16,some ⟨3,A3 (Fd (i+1)),0⟩)],700⟩ ?_ ?_)
  .refine AL ?_
   apply ax [6,9,10,11,19,101,102,103] [(32,32),(176,176),(16,16)] [424] 440
   .simp [h7,<- hx]
    rfl
   refine rk (s:=?sd4) [6,9,10,11,19,101,102,103,112] [32,176,16] rfl ?od4 ?qd4
   case od4=>simp[hk,h3];rfl
   refine AE _ rfl (λ h8=>?_) λ h8=>?_
   .simp at h8
    rw[if_pos h8] at h2;refine Cr rfl ?_;simp[hk,hu];refine Aj (zil k (by omega) (by omega)) ?_
    simp[h3];refine Aj (KB u (by omega) (by omega)) ?_
    simp;refine HP (i:=176) (j:=16) (by decide) rfl rfl (e1':=CP N 1 (Fd i).length) (e2':=⟨3,A3 (Fd i),0⟩) (by simp) (by simp[AB]) (MN N (3+2*(k:Int)) (2+2*(u:Int)) 64 (Fd i) _ rfl (by omega)) (by simp) (by simp) ?_
    simp[AB];exact⟨rfl,AF [(32,32),(176,176),(544,16)] [] (by simp[h2]) (by simp[h2,AB])⟩
   .simp at h8
    rw[if_neg (by omega)] at h2
    exact AJ (AF [(32,32),(176,176),(16,16)] [] (by simp[h2]) (by simp[h2,AB]))
  refine AX ?_;exact⟨i+1,by omega,by omega,AF [(32,32),(176,176),(16,16)] [] (by simp[hw]) (by simp[AB])⟩
 simp at h7;obtain rfl:i=G.edges.length:=by omega
 rw[FdN];refine Aa (hit (rk (s:=?sz) [6,7] [32,16] rfl ?oz ?qz))
 case oz=>simp;rfl
 exact A9 (AS.out [] [16] rfl (by simp) (by simp) (by simp[hN,AB,Cz]) (by simp))
theorem ZP (g:Gr) (p:Al) (aA:List Int) (hg:AI g) (hp:BT g.size p) (hr:Bu aA 0 (g.size - 1)) (hs:p.seeds.length<=64) (b3:aA.length<=64) :
  AcP 115 [eG g,eP p,AA aA] [] (.tup [eN ⟨2+2*g.size,D3 g p (A1 g p) aA⟩,.I 0]) []:=by
 refine mY.s.ai ?_;have c3:=hg.1.1;have c1:=hg.1.2.1;have b4:=hg.edges_le;have c4:=hg.gone_le;have hv:=MZ g p (by omega) (by omega) (by omega) (by have:=hp.2.2.2.1;omega)
 rw[if_pos hg,if_pos hp] at hv;have ad:=Wc (g:=g) hp;have ag:(A1 g p).length=g.size.toNat:=GK;have hy:=KG g p.lv (by omega) (by omega)
 rw[N3];have am:∀ e∈(AM g p.lv).edges,e∈g.edges:=λ e he=>(Qx.1 he).1;have an:(AM g p.lv).edges.length<=500:=QH (QU ..) b4;have hb:=LC (AM g p.lv) p.seeds (hg.level p.lv) (by omega)
 have h9:=jW (AM g p.lv) p (hg.level p.lv) (by omega)
 have b5:A1 (AM g p.lv) p=A1 g p:=by unfold A1;rw[u6]
 rw[b5] at h9
 have au:∀ k:Nat,k<g.size.toNat -> ∀ (h1:k<(Bj (AM g p.lv) p.seeds).length) (h2:k<(A1 g p).length),0<=(Bj (AM g p.lv) p.seeds)[k]↔0<(A1 g p)[k]:=λ k hk h1 h2=>by
  have:=zpK hp (d:=(Bj (AM g p.lv) p.seeds)[k]);rw[<- this];simp[A1]
 have av:(Bj (AM g p.lv) p.seeds).length=g.size.toNat:=by simp[Bj,AM]
 have ho:(AM g p.lv).size=g.size:=rfl;rw[ho] at hb h9;rw[<- ag] at h9;rw[<- av] at hb;obtain⟨C,hC⟩:=AG (A1 g p);obtain⟨D,hD⟩:=AG (Bj (AM g p.lv) p.seeds);rw[<- hC] at h9 ag ad ⊢;rw[<- hD] at hb av;simp only[<- hC,<- hD] at au;have hj:∀ k:Nat,k<C.length->k<D.length:=λ k hk=>by omega
 have hf:∀ (k:Nat) (h2:k<C.length),0<=D[k]'(hj k h2)↔0<C[k]:=λ k h2=>au k (by omega) (hj k h2) h2
 obtain⟨G,hG⟩:=AG (AM g p.lv);rw[<- hG] at hy am an hb h9 ho ⊢
 have b1:∀ e∈G.edges,(0<=e.f/\e.f<g.size)/\(0<=e.t/\e.t<g.size):=λ e he=>by
  have:=hg.fits e (am e he);unfold BO at this;omega
 have hh:∀ k:Int,0<=k->k<g.size -> ∃ j:Nat,k=j/\j<C.length/\j<64:=λ k h0 h1=>⟨k.toNat,by omega,by omega,by omega⟩
 have a0:∀ k∈p.seeds,∃ j:Nat,k=j/\j<C.length/\j<64:=λ k hk=>by
  obtain⟨i,hi,rfl⟩:=Uq hk;have:=hp.2.1 i hi;exact hh _ (by omega) (by omega)
 have a1:∀ k∈aA,∃ j:Nat,k=j/\j<C.length/\j<64:=λ k hk=>by
  obtain⟨i,hi,rfl⟩:=Uq hk;have:=hr i hi;exact hh _ (by omega) (by omega)
 have b6:=w6 (x:=2*g.size);have bf:=w6 (x:=2+2*g.size);refine ar [2,3,4,6] [(16,16),(32,32)] [24] 48 ?_;refine AC (rk (s:=?s2) [2,3,4,6,8] [16,32] rfl ?o2 ?q2)
 case o2=>simp;refine Aq hv (by simp) ?_;simp;rfl
 refine rk (s:=?s3) [2,3,4,6,22] [16,32] rfl ?o3 ?q3
 case o3=>simp;rfl
 refine AE _ rfl (λ h4=>?_) λ h4=>AJ ?_
 .simp at h4
 refine AC (rk (s:=?s5) [2,3,4,6,29] [16,32] rfl ?o5 ?q5)
 case o5=>simp;refine Aq (OJ aA g.size (by omega)) (by simp) ?_;simp[hr];rfl
 refine AE _ rfl (λ h6=>?_) λ h6=>AJ ?_
 .simp at h6
 apply ax [2,3,4,6] [(32,32)] [16] 176
 .simp
  refine Aj hy ?_;simp;rfl
 refine CW ⟨158,[(2,AA aA),(3,.pv (gC G)),(4,.pv (pC p)),(6,.pt 32 0 0),(9,AA D),(10,AA C)],[(32,some ⟨2,[[.I 0,.nilS]],0⟩)],248⟩ ?_ ?_
 .simp
  refine CV hb ?_;simp[AB];refine CV h9 ?_;simp[AB];exact⟨rfl,AF [(32,32)] [200,224] (by simp[AB,Cz])⟩
 refine rk (s:=?s7) [2,3,4,6,9,10,11] [32,288] rfl ?o7 ?q7
 case o7=>simp[ho,b6,bf];rfl
 obtain⟨N,hN⟩:∃ N:Int,N=2+2*g.size:=⟨_,rfl⟩;simp only[<- hN];have bo:(p.seeds.flatMap (DN C)).length<=64:=QH (Gv _ (KY C) _) hs;have bs:((List.range C.length).flatMap (DM C)).length<=64:=QH (Gv _ (Lg C) _) (by rw[UB];omega)
 have bt:(aA.flatMap (DL C)).length<=64:=QH (Gv _ (LM C) _) b3;have c0:(G.edges.flatMap (DR C)).length<=500:=QH (Gv _ (LB C) _) an;obtain⟨X1,a2⟩:∃ X,X=p.seeds.flatMap (DN C):=⟨_,rfl⟩;obtain⟨X2,a3⟩:∃ X,X=(List.range C.length).flatMap (DM C):=⟨_,rfl⟩;obtain⟨X3,a4⟩:∃ X,X=aA.flatMap (DL C):=⟨_,rfl⟩;obtain⟨X4,a5⟩:∃ X,X=G.edges.flatMap (DR C):=⟨_,rfl⟩;obtain⟨Z2,a6⟩:∃ Z,Z=X1++X2:=⟨_,rfl⟩;obtain⟨Z3,a7⟩:∃ Z,Z=Z2++X3:=⟨_,rfl⟩;obtain⟨Z4,b2⟩:∃ Z,Z=Z3++X4:=⟨_,rfl⟩;rw[<- a2] at bo;rw[<- a3] at bs;rw[<- a4] at bt;rw[<- a5] at c0;rw[<- a2,<- a3,<- a4,<- a5,<- a6,<- a7,<- b2];have cb:Z2.length<=128:=by rw[a6,Qg];omega
 have cd:Z3.length<=192:=by rw[a7,Qg];omega
 refine AC (rk (s:=?sa1) [2,3,4,6,9,10,11,12] [32,288] rfl ?oa1 ?qa1)
 case oa1=>simp;rfl
 refine AL ?_
 obtain⟨Fa,Fa0,Fas,Fal,FaN⟩:∃ F:Nat->List Ed,F 0=[]/\(∀ i (h:i<(p.seeds).length),F (i+1)=F i++DN C (p.seeds)[i])/\(∀ i,(F i).length<=64)/\F (p.seeds).length=(p.seeds).flatMap (DN C) :=
  ⟨λ i=>((p.seeds).take i).flatMap (DN C),by simp,λ i h=>by simp only[Ix _ _ i h,Qu],λ i=>by have:=Io _ (KY C) (p.seeds) i;exact QH this hs,by simp⟩
 rw[<- a2] at FaN;refine Ae (ι:=Nat) (λ i=>⟨158,[(2,AA aA),(3,.pv (gC G)),(4,.pv (pC p)),(6,.pt 32 0 0),(9,AA D),(10,AA C),(11,.pt 288 0 0),(12,.I i)],[(32,some ⟨2,[[.I 0,.nilS]],0⟩),(288,some (CP N 16 (Fa i).length)),(16,some ⟨3,A3 (Fa i),0⟩)],312⟩) (λ i=>i<=p.seeds.length) (λ i=>p.seeds.length - i) 0 (Qh _) (Le.lst [(32,32),(288,288)] [] [(16,3)] rfl (by simp) (by simp) (by simp) (by simp) (by simp) (by simp) (by simp) (by simp[Up]) (by simp[Fa0];refine⟨Am.rfl' (by simp),Am.row rfl (by omega) (by simp[Eg,Up])⟩)) ?_
 intro i hi;refine AC (rk (s:=?sa2) [2,3,4,6,9,10,11,12,51] [32,288,16] rfl ?oa2 ?qa2)
 case oa2=>simp;rfl
 refine AE _ rfl (λ h7=>?_) λ h7=>?_
 .simp at h7
  have hw:=w6 (x:=(i:Int)+1);have a8:=Fal i;obtain⟨k,hk,h5,hz⟩:=a0 _ (Qj h7)
  have h3:Fa (i+1)=Fa i++if 0<C[k] then [⟨0,2+2*(k:Int),C[k]⟩] else []:=by
   rw[Fas i h7,hk];unfold DN;simp[h5]
  have hc:=hj _ h5;have hd:=hf _ h5;refine AJ (Ao ⟨158,[(2,AA aA),(3,.pv (gC G)),(4,.pv (pC p)),(6,.pt 32 0 0),(9,AA D),(10,AA C),(11,.pt 288 0 0),(12,.I i)],[(32,some ⟨2,[[.I 0,.nilS]],0⟩),(288,some (CP N 16 (Fa (i+1)).length)),(16,some ⟨3,A3 (Fa (i+1)),0⟩)],800⟩ ?_ ?_)
  .refine AL (rk (s:=?sa3) [2,3,4,6,9,10,11,12,13] [32,288,16] rfl ?oa3 ?qa3)
   case oa3=>simp[h7,hk];rfl
   refine rk (s:=?sa4) [2,3,4,6,9,10,11,12,13,63] [32,288,16] rfl ?oa4 ?qa4
   case oa4=>simp[hc];rfl
   refine AE _ rfl (λ h8=>?_) λ h8=>?_
   .simp at h8
    rw[if_pos (hd.1 h8)] at h3;have ha:∀ f:Ed->List AV,List.take (Fa i).length (List.map f (Fa i))=List.map f (Fa i):=λ f=>Qb (by simp)
    refine Cr rfl ?_;simp[h5];refine Aj (Lx k (by omega) (by omega)) ?_
    simp[ha,h5];refine⟨by omega,by omega,?_⟩
    exact⟨rfl,AF [(32,32),(288,288),(520,16)] [] (by simp[h3]) (by simp[h3,AB])⟩
   .simp at h8
    rw[if_neg (by omega)] at h3
    exact AJ (AF [(32,32),(288,288),(16,16)] [] (by simp[h3]) (by simp[h3,AB]))
  refine AX ?_;exact⟨i+1,by omega,by omega,AF [(32,32),(288,288),(16,16)] [] (by simp[hw]) (by simp[AB])⟩
 simp at h7;obtain rfl:i=p.seeds.length:=by omega
 rw[FaN];refine Aa (hit ?_);refine AC (rk (s:=?sb1) [2,3,6,9,10,11,14] [32,288,16] rfl ?ob1 ?qb1)
 case ob1=>simp;rfl
 refine AL ?_
 obtain⟨Fb,Fb0,Fbs,Fbl,FbN⟩:∃ F:Nat->List Ed,F 0=X1/\(∀ i (h:i<(List.range C.length).length),F (i+1)=F i++DM C (List.range C.length)[i])/\(∀ i,(F i).length<=200)/\F (List.range C.length).length=X1++(List.range C.length).flatMap (DM C) :=
  ⟨λ i=>X1++((List.range C.length).take i).flatMap (DM C),by simp,λ i h=>by simp only[Ix _ _ i h,Qu],λ i=>by have:=Io _ (Lg C) (List.range C.length) i;rw[UB] at this;rw[Qg];omega,by simp⟩
 rw[UB,<- a3,<- a6] at FbN;refine Ae (ι:=Nat) (λ i=>⟨158,[(2,AA aA),(3,.pv (gC G)),(6,.pt 32 0 0),(9,AA D),(10,AA C),(11,.pt 288 0 0),(14,.I i)],[(32,some ⟨2,[[.I 0,.nilS]],0⟩),(288,some (CP N 16 (Fb i).length)),(16,some ⟨3,A3 (Fb i),0⟩)],360⟩) (λ i=>i<=C.length) (λ i=>C.length - i) 0 (Qh _) (AF [(32,32),(288,288),(16,16)] [] (by simp[Fb0]) (by simp[Fb0,AB])) ?_
 intro i hi;refine AC (rk (s:=?sb2) [2,3,6,9,10,11,14,79] [32,288,16] rfl ?ob2 ?qb2)
 case ob2=>simp;rfl
 refine AE _ rfl (λ h7=>?_) λ h7=>?_
 .simp [ho] at h7
  have hw:=w6 (x:=(i:Int)+1);have a8:=Fbl i;have h5:i<C.length:=by omega
  have h3:Fb (i+1)=Fb i++if 0<C[i] then [⟨2+2*(i:Int),3+2*(i:Int),C[i] - 1⟩] else []:=by
   rw[Fbs i (by simpa using h5)]
   unfold DM;simp[h5]
  have ck:=ad _ (Qj h5);have a9:=w6 (x:=C[i] - 1);have hc:=hj _ h5;have hd:=hf _ h5;refine AJ (Ao ⟨158,[(2,AA aA),(3,.pv (gC G)),(6,.pt 32 0 0),(9,AA D),(10,AA C),(11,.pt 288 0 0),(14,.I i)],[(32,some ⟨2,[[.I 0,.nilS]],0⟩),(288,some (CP N 16 (Fb (i+1)).length)),(16,some ⟨3,A3 (Fb (i+1)),0⟩)],800⟩ ?_ ?_)
  .refine AL (rk (s:=?sb3) [2,3,6,9,10,11,14,86] [32,288,16] rfl ?ob3 ?qb3)
   case ob3=>simp[hc];rfl
   refine AE _ rfl (λ h8=>?_) λ h8=>?_
   .simp at h8
    rw[if_pos (hd.1 h8)] at h3;have ha:∀ f:Ed->List AV,List.take (Fb i).length (List.map f (Fb i))=List.map f (Fb i):=λ f=>Qb (by simp)
    refine Cr rfl ?_;simp[h5,a9];refine Aj (Lx i (by omega) (by omega)) ?_
    simp[ha,h5,a9];refine Aj (S8 i (by omega) (by omega)) ?_
    simp[ha,h5,a9];refine⟨by omega,by omega,?_⟩
    exact⟨rfl,AF [(32,32),(288,288),(536,16)] [] (by simp[h3]) (by simp[h3,AB])⟩
   .simp at h8
    rw[if_neg (by omega)] at h3
    exact AJ (AF [(32,32),(288,288),(16,16)] [] (by simp[h3]) (by simp[h3,AB]))
  refine AX ?_;exact⟨i+1,by omega,by omega,AF [(32,32),(288,288),(16,16)] [] (by simp[hw]) (by simp[AB])⟩
 simp[ho] at h7;obtain rfl:i=C.length:=by omega
 rw[FbN];refine Aa (hit ?_);refine AC (rk (s:=?sc1) [2,3,6,9,11,15] [32,288,16] rfl ?oc1 ?qc1)
 case oc1=>simp;rfl
 refine AL ?_
 obtain⟨Fc,Fc0,Fcs,Fcl,FcN⟩:∃ F:Nat->List Ed,F 0=Z2/\(∀ i (h:i<(aA).length),F (i+1)=F i++DL C (aA)[i])/\(∀ i,(F i).length<=300)/\F (aA).length=Z2++(aA).flatMap (DL C) :=
  ⟨λ i=>Z2++((aA).take i).flatMap (DL C),by simp,λ i h=>by simp only[Ix _ _ i h,Qu],λ i=>by have:=Io _ (LM C) (aA) i;simp only[Qg];omega,by simp⟩
 rw[<- a4,<- a7] at FcN;refine Ae (ι:=Nat) (λ i=>⟨158,[(2,AA aA),(3,.pv (gC G)),(6,.pt 32 0 0),(9,AA D),(11,.pt 288 0 0),(15,.I i)],[(32,some ⟨2,[[.I 0,.nilS]],0⟩),(288,some (CP N 16 (Fc i).length)),(16,some ⟨3,A3 (Fc i),0⟩)],400⟩) (λ i=>i<=aA.length) (λ i=>aA.length - i) 0 (Qh _) (AF [(32,32),(288,288),(16,16)] [] (by simp[Fc0]) (by simp[Fc0,AB])) ?_
 intro i hi;refine AC (rk (s:=?sc2) [2,3,6,9,11,15,105] [32,288,16] rfl ?oc2 ?qc2)
 case oc2=>simp;rfl
 refine AE _ rfl (λ h7=>?_) λ h7=>?_
 .simp at h7
  have hw:=w6 (x:=(i:Int)+1);have a8:=Fcl i;obtain⟨k,hk,h5,hz⟩:=a1 _ (Qj h7)
  have h3:Fc (i+1)=Fc i++if 0<C[k] then [⟨2+2*(k:Int),1,1⟩] else []:=by
   rw[Fcs i h7,hk];unfold DL;simp[h5]
  have hc:=hj _ h5;have hd:=hf _ h5;refine AJ (Ao ⟨158,[(2,AA aA),(3,.pv (gC G)),(6,.pt 32 0 0),(9,AA D),(11,.pt 288 0 0),(15,.I i)],[(32,some ⟨2,[[.I 0,.nilS]],0⟩),(288,some (CP N 16 (Fc (i+1)).length)),(16,some ⟨3,A3 (Fc (i+1)),0⟩)],800⟩ ?_ ?_)
  .refine AL (rk (s:=?sc3) [2,3,6,9,11,15,115] [32,288,16] rfl ?oc3 ?qc3)
   case oc3=>simp[h7,hk,hc];rfl
   refine AE _ rfl (λ h8=>?_) λ h8=>?_
   .simp at h8
    rw[if_pos (hd.1 h8)] at h3;have ha:∀ f:Ed->List AV,List.take (Fc i).length (List.map f (Fc i))=List.map f (Fc i):=λ f=>Qb (by simp)
    refine Cr rfl ?_;simp[h7,hk];refine Aj (Lx k (by omega) (by omega)) ?_
    simp[ha,h7,hk];refine⟨by omega,by omega,?_⟩
    exact⟨rfl,AF [(32,32),(288,288),(568,16)] [] (by simp[h3]) (by simp[h3,AB])⟩
   .simp at h8
    rw[if_neg (by omega)] at h3
    exact AJ (AF [(32,32),(288,288),(16,16)] [] (by simp[h3]) (by simp[h3,AB]))
  refine AX ?_;exact⟨i+1,by omega,by omega,AF [(32,32),(288,288),(16,16)] [] (by simp[hw]) (by simp[AB])⟩
 simp at h7;obtain rfl:i=aA.length:=by omega
 rw[FcN];refine Aa (hit ?_);refine AC (rk (s:=?sd1) [3,6,9,11,16] [32,288,16] rfl ?od1 ?qd1)
 case od1=>simp;rfl
 refine AL ?_
 obtain⟨Fd,Fd0,Fds,Fdl,FdN⟩:∃ F:Nat->List Ed,F 0=Z3/\(∀ i (h:i<(G.edges).length),F (i+1)=F i++DR C (G.edges)[i])/\(∀ i,(F i).length<=900)/\F (G.edges).length=Z3++(G.edges).flatMap (DR C) :=
  ⟨λ i=>Z3++((G.edges).take i).flatMap (DR C),by simp,λ i h=>by simp only[Ix _ _ i h,Qu],λ i=>by have:=Io _ (LB C) (G.edges) i;simp only[Qg];omega,by simp⟩
 rw[<- a5,<- b2] at FdN;refine Ae (ι:=Nat) (λ i=>⟨158,[(3,.pv (gC G)),(6,.pt 32 0 0),(9,AA D),(11,.pt 288 0 0),(16,.I i)],[(32,some ⟨2,[[.I 0,.nilS]],0⟩),(288,some (CP N 16 (Fd i).length)),(16,some ⟨3,A3 (Fd i),0⟩)],440⟩) (λ i=>i<=G.edges.length) (λ i=>G.edges.length - i) 0 (Qh _) (AF [(32,32),(288,288),(16,16)] [] (by simp[Fd0]) (by simp[Fd0,AB])) ?_
 intro i hi;refine AC (rk (s:=?sd2) [3,6,9,11,16,131] [32,288,16] rfl ?od2 ?qd2)
 case od2=>simp;rfl
 refine AE _ rfl (λ h7=>?_) λ h7=>?_
 .simp at h7
  have hw:=w6 (x:=(i:Int)+1);have a8:=Fdl i;obtain⟨x,hx⟩:=AG (G.edges[i]);have hq:=b1 _ (Qj h7);rw[<- hx] at hq;obtain⟨k,hk,h5,hz⟩:=hh x.f hq.1.1 hq.1.2;obtain⟨u,hu,cl,c2⟩:=hh x.t hq.2.1 hq.2.2
  have h3:Fd (i+1)=Fd i++if 0<C[k] then [⟨3+2*(k:Int),2+2*(u:Int),64⟩] else []:=by
   rw[Fds i h7,<- hx];unfold DR;rw[hk,hu];simp[h5]
  have hc:=hj _ h5;have hd:=hf _ h5;refine AJ (Ao ⟨158,[(3,.pv (gC G)),(6,.pt 32 0 0),(9,AA D),(11,.pt 288 0 0),(16,.I i)],[(32,some ⟨2,[[.I 0,.nilS]],0⟩),(288,some (CP N 16 (Fd (i+1)).length)),(16,some ⟨3,A3 (Fd (i+1)),0⟩)],800⟩ ?_ ?_)
  .refine AL ?_
   apply ax [3,6,9,11,16,17] [(32,32),(288,288),(16,16)] [520] 536
   .simp [h7,<- hx]
    rfl
   refine rk (s:=?sd4) [3,6,9,11,16,17,144] [32,288,16] rfl ?od4 ?qd4
   case od4=>simp[hk,hc];rfl
   refine AE _ rfl (λ h8=>?_) λ h8=>?_
   .simp at h8
    rw[if_pos (hd.1 h8)] at h3;have ha:∀ f:Ed->List AV,List.take (Fd i).length (List.map f (Fd i))=List.map f (Fd i):=λ f=>Qb (by simp)
    refine Cr rfl ?_;simp[hk,hu];refine Aj (S8 k (by omega) (by omega)) ?_
    simp[ha,hk,hu];refine Aj (Lx u (by omega) (by omega)) ?_
    simp[ha,hk,hu];refine⟨by omega,by omega,?_⟩
    exact⟨rfl,AF [(32,32),(288,288),(664,16)] [] (by simp[h3]) (by simp[h3,AB])⟩
   .simp at h8
    rw[if_neg (by omega)] at h3
    exact AJ (AF [(32,32),(288,288),(16,16)] [] (by simp[h3]) (by simp[h3,AB]))
  refine AX ?_;exact⟨i+1,by omega,by omega,AF [(32,32),(288,288),(16,16)] [] (by simp[hw]) (by simp[AB])⟩
 simp at h7;obtain rfl:i=G.edges.length:=by omega
 rw[FdN];refine Aa (hit (rk (s:=?sz) [6,7] [32,16] rfl ?oz ?qz))
 case oz=>simp;rfl
 exact A9 (AS.out [] [16] rfl (by simp) (by simp) (by simp[hN,AB,Cz]) (by simp))
instance (g:Gr) (lv f t:Int):Decidable (MJ g lv f t):=by unfold MJ;infer_instance
theorem Ka {a:List Int} {n:Int} (h:∀ k∈a,0<=k/\k<n):Bu (Az a) 0 (n - 1):=by
 intro i hi;have hm:=JD.1 (Qj hi);have:=h _ hm.1;refine⟨by omega,by omega,λ hp=>?_⟩
 exact(QX.1 (KL a)) (i - 1) i (by omega) hi (by omega)
theorem KR (a:List Int):(Az a).length<=64:=QH (QU ..) (by simp)
theorem lR (g:Gr) (p:Al) (aA:List Int) (hg:AI g) (hs:p.seeds.length<=64) (h0:aA.length<=64):(D3 g p (A1 g p) aA).length<=1000:=by
 rw[N3];have h1:=Gv _ (KY (A1 g p)) p.seeds;have h2:=Gv _ (Lg (A1 g p)) (List.range (A1 g p).length);have h3:=Gv _ (LM (A1 g p)) aA;have h4:=Gv _ (LB (A1 g p)) (AM g p.lv).edges;have h5:(AM g p.lv).edges.length<=g.edges.length:=QU ..;have h6:=hg.edges_le;have h7:=hg.1.2.1;have h8:=hg.1.1;rw[UB] at h2;have h9:(A1 g p).length=g.size.toNat:=GK;simp only[Qg];omega
section
variable {P:Program} {np id:Nat} {h:Nat->Option AQ} {K:AV->List Nat->List (Nat × Option AQ)->Prop} {f:FuncId} {first aB args aC:List AV} {res:AV}
end
variable {k:Int} {l:List Int}
def Bx:List Int->Int->Nat
 | [],_=>0
 | x::l,k=>if x<k then Bx l k+1 else 0
def CD (l:List Int) (k:Int):List Int:=if l[Bx l k]? = some k then l else l.take (Bx l k)++k::l.drop (Bx l k)
theorem M9:∀ (l:List Int) (k:Int),Bx l k<=l.length
 | [],_=>Qk _
 | x::l,k=>by unfold Bx;have:=M9 l k;split<;>simp<;>omega
theorem O8:∀ {l:List Int} {k:Int} {i:Nat} (h:i<l.length),i<Bx l k->l[i]<k
 | x::l,k,0,_,h=>by
   unfold Bx at h;split at h
   .simpa
   .omega
 | x::l,k,i+1,hi,h=>by
   unfold Bx at h;split at h
   .simpa using O8 (l:=l) (by simpa using hi) (by omega)
   .omega
theorem N0:∀ {l:List Int} {k:Int} (h:Bx l k<l.length),¬ l[Bx l k]<k
 | x::l,k,h=>by
   by_cases hx:x<k
   .have e:Bx (x::l) k=Bx l k+1:=by simp[Bx,hx]
    simp only[e,List.getElem_cons_succ];exact N0 (by rw[e] at h;simpa using h)
   .have e:Bx (x::l) k=0:=by simp[Bx,hx]
    simp only[e,List.getElem_cons_zero];exact hx
theorem j0 {i:Nat} (hi:i<=l.length) (h1:∀ j (h:j<l.length),j<i->l[j]<k) (h2:∀ h:i<l.length,¬ l[i]<k):Bx l k=i:=by
 rcases Nat.lt_trichotomy (Bx l k) i with h | h | h
 .exact absurd (h1 _ (by omega) h) (N0 (by omega))
 .exact h
 .have hl:=M9 l k
  exact absurd (O8 (by omega) h) (h2 (by omega))
theorem LY (l:List Int) (k:Int):(CD l k).length<=l.length+1:=by
 unfold CD;split
 .omega
 .simp;have:=M9 l k;omega
theorem MI {x:Int}:x∈CD l k↔x∈l∨x=k:=by
 unfold CD;split
 .rename_i h
  constructor
  .exact .inl
  .rintro (h1 | rfl)
   .exact h1
   .exact Uj h
 .rw [Qq,Qs]
  conv=>rhs;rw[<- UG (Bx l k) l,Qq]
  constructor
  .rintro (h | rfl | h)
   .exact .inl (.inl h)
   .exact .inr rfl
   .exact .inl (.inr h)
  .rintro ((h | h) | rfl)
   .exact .inl h
   .exact .inr (.inr h)
   .exact .inr (.inl rfl)
theorem J8 (h:l.Pairwise (· < ·)):(CD l k).Pairwise (· < ·):=by
 unfold CD;split
 .exact h
 .rename_i h3
  have hd:∀ y∈l.drop (Bx l k),k<y:=by
   intro y hy;obtain⟨i,hi,rfl⟩:=Uq hy;rw[UQ] at hi;rw[List.getElem_drop];have h0:Bx l k<l.length:=by omega
   have h1:=N0 h0;have h2:l[Bx l k]≠k:=λ e=>h3 (by rw[Qc h0,e])
   rcases Un i with rfl | hp
   .simp only[Ua];omega
   .have:=(QX.1 h) (Bx l k) (Bx l k+i) h0 (by omega) (by omega)
    omega
  have ht:∀ y∈l.take (Bx l k),y<k:=by
   intro y hy;obtain⟨i,hi,rfl⟩:=Uq hy;rw[QV] at hi;rw[UU];exact O8 (by omega) (by omega)
  rw[Vn,Uw];refine⟨h.sublist (List.take_sublist ..),⟨hd,h.sublist (List.drop_sublist ..)⟩,λ x hx y hy=>?_⟩;rcases Qs.1 hy with rfl | hy
  .exact ht x hx
  .have:=ht x hx;have:=hd y hy;omega
theorem Pg {n:Int} (h:l.Pairwise (· < ·)) (hr:∀ k∈l,0<=k/\k<n):Bu l 0 (n - 1):=by
 intro i hi;have:=hr _ (Qj hi);refine⟨by omega,by omega,λ hp=>?_⟩
 exact(QX.1 h) (i - 1) i (by omega) hi (by omega)
theorem L1 (l:List Int) (k:Int) (hl:l.length<=1000000):AcP 35 [AA l,.I k] [] (.rs 0 0 (CD l k).length) [some ⟨1,AD (CD l k),0⟩]:=by
 refine fB.s.ai ?_;refine rs [0,1] [] [] ?_;refine rs [0,1,5] [] [] ?_;refine FO (ι:=Nat) (λ i=>⟨45,[(0,AA l),(1,.I k),(5,.I i)],[],200⟩) (λ i=>i=Bx l k) ?_ λ i h4=>?_
 .refine AL (Ae (ι:=Nat) (λ i=>⟨45,[(0,AA l),(1,.I k),(5,.I i)],[],32⟩) (λ i=>i<=l.length /\ ∀ j (h:j<l.length),j<i->l[j]<k) (λ i=>l.length - i) 0 (by simp) (Bk [] []) ?_)
  rintro i ⟨hi,hp⟩
  refine AC (arc ⟨45,[(0,AA l),(1,.I k),(5,.I i),(17,.B (decide (∃ h:i<l.length,l[i]<k)))],[],200⟩ ?_ ?_)
  .by_cases h1:i<l.length
   .simp [h1]
    exact A5 [] (by simp)
   .have h5:¬ ∃ h:i<l.length,l[i]<k:=λ ⟨h,_⟩=>h1 h
    rw[UI h5];simp[h1];exact A5 [] (by simp)
  refine AE _ rfl (λ h2=>?_) λ h2=>?_
  .rw [Qd] at h2
   obtain⟨h1,h2⟩:=h2;have hw:=w6 (x:=(i:Int)+1);refine AJ (AL (AX ?_));refine⟨i+1,⟨h1,λ j hj h9=>?_⟩,by omega,AF [] [] (by simp[hw])⟩
   rcases QY.1 h9 with h | rfl
   .exact hp j hj h
   .exact h2
  .rw [Qa] at h2
   exact Aa (hit ⟨i,(j0 hi hp λ h h3=>h2 ⟨h,h3⟩).symm,Bk [] []⟩)
 have h6:=M9 l k;rw[<- h4] at h6;refine AC (arc ⟨45,[(0,AA l),(1,.I k),(5,.I i),(31,.B (decide (l[i]? = some k)))],[],400⟩ ?_ ?_)
 .by_cases h1:i<l.length
  .simp [h1]
   exact A5 [] (by simp;exact Aw (by rw[Qp];simp))
  .have h5:¬ l[i]? = some k:=by rw[Q4 (by omega)];simp
   rw[UI h5];simp[h1];exact A5 [] (by simp)
 refine AE _ rfl (λ h2=>?_) λ h2=>?_
 .rw [Qd] at h2
  have h0:CD l k=l:=by unfold CD;rw[<- h4,if_pos h2]
  rw[h0];refine rk (s:=?s6) [4] [408] rfl ?o6 ?q6
  case o6=>simp;refine⟨by omega,by omega,?_⟩;rfl
  exact B7 [408] []
 rw[Qa] at h2;have h0:CD l k=l.take i++k::l.drop i:=by unfold CD;rw[<- h4,if_neg h2]
 have hpl:(CD l k).length=l.length+1:=by rw[h0];simp;omega
 have h7:(CD l k).length=i+1+(l.length - i):=by omega
 refine AJ (CW ⟨45,[(4,.rs 480 0 (CD l k).length)],[(480,some ⟨1,AD (CD l k),0⟩)],600⟩ ?_ ?_)
 .simp [h6]
  refine⟨by omega,by omega,by omega,by omega,by omega,by omega,rfl,AF [(480,480)] [] (by simp[h7]) (by simp[h0,AB,Qb,h6])⟩
 exact B7 [480] []
variable {A:List Ed} {N:Nat} {P Q:List (List Int)} {c:List Int}
theorem bE (h:P.Perm Q) (k:Int):Ep P k=Ep Q k:=h.countP_eq _
theorem pV (h:P.Perm Q) (k:Int):EI P k=EI Q k:=(h.flatMap_right _).count_eq k
theorem pL (h:P.Sublist Q) (k:Int):Ep P k<=Ep Q k:=h.countP_le
theorem fQ (h:P.Sublist Q) (k:Int):EI P k<=EI Q k:=by
 unfold EI
 induction h with
 | slnil=>exact Qk _
 | cons a _ ih=>rw[Vf,Vo];omega
 | cons_cons a _ ih=>rw[Vf,Vf,Vo,Vo];omega
theorem H7.perm (h:H7 c P) (hp:P.Perm Q):H7 c Q:=λ k hk=>by
 rw[<- bE hp,<- pV hp];exact h k hk
theorem H7.sub (h:H7 c Q) (hs:P.Sublist Q):H7 c P:=λ k hk=>by
 have h1:=h k hk;have h2:=pL hs k;have h3:=fQ hs k;omega
theorem tF (h:P.Perm Q):(GL P).Perm (GL Q):=h.filterMap _
theorem KC.perm {g:Gr} {lv:Int} {seeds order:List Int} {h1 h0:List Int} (h:KC g lv seeds order c P h1) (hp:P.Perm Q) (he:h1.Perm h0):KC g lv seeds order c Q h0 :=
 ⟨λ w hw=>h.1 w (hp.mem_iff.2 hw),h.2.1.perm hp,Ln.2 (((tF hp).symm.trans (Ln.1 h.2.2)).trans he)⟩
theorem Mp (hn:EK N A):BN N A (A.map λ _=>0):=by
 have hs:∀ (φ:Ed->Int->Int),(∀ e,φ e 0=0) -> ∀ A:List Ed,Ah φ A (A.map λ _=>0)=0:=by
  intro φ hφ A
  induction A with
  | nil=>simp[Ah]
  | cons e A ih=>simp only[Qo,Ah];rw[hφ,ih];omega
 refine⟨?_,λ x _ _=>?_⟩
 .have h0:∀ B:List Ed,(∀ e∈B,0<=e.v)->CO B (B.map λ _=>0):=by
   intro B
   induction B with
   | nil=>intro _;exact True.intro
   | cons e B ih=>intro h;exact⟨⟨UX _,h e (Qn ..)⟩,ih λ x hx=>h x (Ql _ hx)⟩
  exact h0 A λ e he=>(hn.arc e he).2.2.2.2.2.2.2
 .unfold B4 Fy
  rw[hs _ λ e=>by split<;>rfl,hs _ λ e=>by split<;>rfl]
theorem NR (hn:EK N A):∃ f,BN N A f /\ ∀ f',BN N A f'->AZ A f'<=AZ A f:=by
 have hb:∀ f,BN N A f->AZ A f<=BQ (λ x=>decide (x=0)) A:=λ f hf=>KA hn hf (by simp) (by simp)
 have key:∀ (n:Nat) (f:List Int),BN N A f->BQ (λ x=>decide (x=0)) A - AZ A f<=n -> ∃ f,BN N A f /\ ∀ f',BN N A f'->AZ A f'<=AZ A f:=by
  intro n
  induction n with
  | zero =>
    intro f hf h;exact⟨f,hf,λ f' h0=>by have:=hb f' h0;omega⟩
  | succ n ih =>
    intro f hf h
    by_cases hm:∀ f',BN N A f'->AZ A f'<=AZ A f
    .exact ⟨f,hf,hm⟩
    .obtain ⟨f',h0⟩:=Classical.not_forall.1 hm
     obtain⟨h1,h2⟩:=Classical.not_imp.1 h0;exact ih f' h1 (by omega)
 exact key _ _ (Mp hn) (Int.self_le_toNat _)
def CC (N:Nat) (A:List Ed):Int:=open Classical in if h:∃ f,BN N A f /\ ∀ f',BN N A f'->AZ A f'<=AZ A f then AZ A h.choose else 0
theorem Hu {f:List Int} (hf:BN N A f) (hm:∀ f',BN N A f'->AZ A f'<=AZ A f):CC N A=AZ A f:=by
 have h:∃ f,BN N A f /\ ∀ f',BN N A f'->AZ A f'<=AZ A f:=⟨f,hf,hm⟩;unfold CC;rw[dif_pos h];have h1:=h.choose_spec;have h2:=hm _ h1.1;have h3:=h1.2 _ hf;omega
theorem T9 (hn:EK N A) {f:List Int} (hf:BN N A f):AZ A f<=CC N A:=by
 obtain⟨m,h1,h2⟩:=NR hn;rw[Hu h1 h2];exact h2 f hf
theorem WD (hn:EK N A):∃ f,BN N A f/\AZ A f=CC N A:=by
 obtain⟨m,h1,h2⟩:=NR hn;exact⟨m,h1,(Hu h1 h2).symm⟩
theorem gA {g:Gr} {p:Al} {aA:List Int} (hg:AI g) (hp:BT g.size p) (hk:∀ x∈aA,0<=x/\x<g.size):EK (2+2*g.size).toNat (D3 g p (A1 g p) aA):=by
 have h5:=hg.1.1;have h0:=hp.2.1.nodup;have h4:=Pb hg p.lv;have h6:(A1 g p).length=g.size.toNat:=by unfold A1;rw[Qr,KE];rfl
 refine⟨by omega,λ a ha=>?_⟩
 unfold D3 at ha;rcases Qq.1 ha with ha | ha
 .rcases Qq.1 ha with ha | ha
  .rcases Qq.1 ha with ha | ha
   .obtain ⟨x,hx,rfl⟩:=Qi.1 ha
    have h1:=Qx.1 hx;have h2:=h0.2 x h1.1;have h3:0<(A1 g p).getD x.toNat 0:=by simpa using h1.2
    simp only;omega
   .obtain ⟨i,hx,rfl⟩:=Qi.1 ha
    have h1:=Qx.1 hx;have h2:=Qy.1 h1.1;have h3:0<(A1 g p).getD i 0:=by simpa using h1.2
    simp only;omega
  .obtain ⟨x,hx,rfl⟩:=Qi.1 ha
   have h2:=hk x (Qx.1 hx).1;simp only;omega
 .obtain ⟨e,hx,rfl⟩:=Qi.1 ha
  have h2:=h4.2 e (Qx.1 hx).1;simp only;omega
variable {k:Int} {s:Ba} {st:List Int × List Int}
def CT (s:Ba):Int:=if s.2 then -((s.1:Int)+1) else (s.1:Int)+1
def Gq (v:Int):Ba:=if 0<v then ((v - 1).toNat,false) else ((-v - 1).toNat,true)
theorem zst (s:Ba):Gq (CT s)=s:=by
 obtain⟨i,b⟩:=s;unfold Gq CT
 cases b
 .simp only[Ud,Ux]
  rw[if_pos (by omega)]
  congr 1
  omega
 .simp only[UY]
  rw[if_neg (by omega)]
  congr 1
  omega
theorem WH (s:Ba):CT s≠0:=by unfold CT;split<;>omega
structure DA (N:Nat) (A:List Ed) (f D b:List Int):Prop where
 tree:LG A f D λ x=>Gq (b.getD x.toNat 0)
 rng:∀ x∈D,0<=x/\x<N
 len:b.length=N
 zero:b.getD 0 0=0
 out:∀ x:Int,0<=x->x∉D->b.getD x.toNat 0=0
 inn:∀ x∈D,x≠0->b.getD x.toNat 0≠0
def Hy (A:List Ed) (f D:List Int) (m:Nat):Prop:=∀ s:Ba,s.1<A.length->Cb A s∈D.take m->0<B6 A f s->Ax A s∈D
def IP (A:List Ed) (f D:List Int) (k:Int) (i:Nat):Prop:=∀ s:Ba,s.1<i->Cb A s=k->0<B6 A f s->Ax A s∈D
variable {N:Nat} {A:List Ed} {f D b:List Int}
theorem DA.start (hN:0<N):DA N A f [0] (List.replicate N 0):=by
 have h0:∀ i,(List.replicate N (0:Int)).getD i 0=0:=λ i=>by
  rw[Qe,List.getElem?_replicate];split<;>rfl
 exact⟨⟨rfl,by simp,λ j h hj=>by simp at h;omega⟩,λ x hx=>by simp at hx;omega,by simp,h0 0,λ x _ _=>h0 _,λ x hx hn=>absurd (by simpa using hx) hn⟩
theorem DA.mem0 (h:DA N A f D b):(0:Int)∈D:=List.mem_of_mem_head? (by rw[h.tree.zero];rfl)
theorem DA.push (h:DA N A f D b) (hs:s.1<A.length) (hF:Cb A s∈D) (hr:0<B6 A f s) (hT:Ax A s∉D) (h0:0<=Ax A s) (h1:Ax A s<N):DA N A f (D++[Ax A s]) (b.set (Ax A s).toNat (CT s)):=by
 have hb:(Ax A s).toNat<b.length:=by rw[h.len];omega
 have h4:∀ x:Int,0<=x->x≠Ax A s->(b.set (Ax A s).toNat (CT s)).getD x.toNat 0=b.getD x.toNat 0:=λ x hx h3=>by
  rw[Qe,List.getElem?_set_ne (by omega),Qe]
 have heq:(b.set (Ax A s).toNat (CT s)).getD (Ax A s).toNat 0=CT s:=by
  rw[Qe,List.getElem?_set_self hb,QB]
 have h7:Ax A s≠0:=λ e=>hT (e ▸ h.mem0);refine⟨⟨?_,?_,λ j hj hj0=>?_⟩,λ x hx=>?_,by rw[Ur];exact h.len,?_,λ x hx h3=>?_,λ x hx h3=>?_⟩
 .rw [List.head?_append,h.tree.zero]
  rfl
 .rw [Uh]
  exact⟨h.tree.nodup,by simp,λ a ha c hc=>by rw[QC] at hc;subst hc;rintro rfl;exact hT ha⟩
 .rw [Qg,Q3] at hj
  by_cases h5:j<D.length
  .have hm:=Qj h5
   have hx:D[j]≠Ax A s:=λ e=>hT (e ▸ hm);simp only[Uz h5];rw[h4 _ (h.rng _ hm).1 hx];obtain⟨q1,q2,q3,q4⟩:=h.tree.step j h5 hj0;refine⟨q1,q2,?_,q4⟩;rw[Ut (by omega)]
   exact q3
  .obtain rfl:j=D.length:=by omega
   have e:(D++[Ax A s])[D.length]'(by simp)=Ax A s:=by simp
   simp only[e];rw[heq,zst];refine⟨hs,rfl,?_,hr⟩;rw[Ut (Qk _),QO];exact hF
 .rcases Qq.1 hx with h2 | h2
  .exact h.rng x h2
  .rw [QC] at h2
   subst h2;exact⟨h0,h1⟩
 .have:=h4 0 (UX _) (Ne.symm h7)
  simp only[Int.toNat_zero] at this;rw[this];exact h.zero
 .rw [Qq,QC,not_or] at h3
  rw[h4 x hx h3.2];exact h.out x hx h3.1
 .by_cases h6:x=Ax A s
  .subst h6
   rw[heq];exact WH s
  .rcases Qq.1 hx with h2 | h2
   .rw [h4 x (h.rng x h2).1 h6]
    exact h.inn x h2 h3
   .exact absurd (QC.1 h2) h6
theorem DA.few (h:DA N A f D b):D.length<=N:=by
 have:=Gw (b:=(List.range N).map λ i:Nat=>(i:Int)) h.tree.nodup λ x hx=>by
  have:=h.rng x hx;exact Qi.2 ⟨x.toNat,Qy.2 (by omega),by omega⟩
 simpa using this
def DD (A:List Ed) (f:List Int) (k:Int) (s:Ba) (st:List Int × List Int):List Int × List Int :=
 if Cb A s=k/\0<B6 A f s/\Ax A s∉st.1 then (st.1++[Ax A s],st.2.set (Ax A s).toNat (CT s)) else st
theorem Mh:∃ l,(DD A f k s st).1=st.1++l:=by
 unfold DD;split
 .exact ⟨_,rfl⟩
 .exact ⟨[],by simp⟩
theorem Sp (h:DA N A f st.1 st.2) (hk:k∈st.1) (hs:s.1<A.length) (h0:0<=Ax A s) (h1:Ax A s<N):DA N A f (DD A f k s st).1 (DD A f k s st).2:=by
 unfold DD;split
 .rename_i hc
  exact h.push hs (hc.1 ▸ hk) hc.2.1 hc.2.2 h0 h1
 .exact h
theorem Xl (hF:Cb A s=k) (hr:0<B6 A f s):Ax A s∈(DD A f k s st).1:=by
 unfold DD
 by_cases h:Ax A s∈st.1
 .rw [if_neg λ hc=>hc.2.2 h]
  exact h
 .rw [if_pos ⟨hF,hr,h⟩]
  simp
theorem IP.try2 {i:Nat} (h:IP A f st.1 k i):IP A f (DD A f k (i,true) (DD A f k (i,false) st)).1 k (i+1):=by
 obtain⟨l1,e1⟩:=Mh (A:=A) (f:=f) (k:=k) (s:=(i,false)) (st:=st);obtain⟨l2,e2⟩:=Mh (A:=A) (f:=f) (k:=k) (s:=(i,true)) (st:=DD A f k (i,false) st);intro s hs hF hr;obtain⟨j,c⟩:=s;rcases QY.1 hs with hj | hj
 .rw [e2,e1]
  exact Q0 _ (Q0 _ (h (j,c) hj hF hr))
 .have hj:j=i:=hj
  subst hj
  cases c
  .rw [e2]
   exact Q0 _ (Xl hF hr)
  .exact Xl hF hr
theorem Hy.next {m:Nat} (hm:m<D.length) {D':List Int} (h:Hy A f D m) (hi:IP A f D' D[m] A.length) {l:List Int} (hD:D'=D++l):Hy A f D' (m+1):=by
 subst hD;intro s hs hF hr;rw[Ut (by omega),Qm hm] at hF
 rcases Qq.1 hF with h1 | h1
 .exact Q0 _ (h s hs h1 hr)
 .exact hi s hs (QC.1 h1) hr
theorem Hy.all (h:Hy A f D D.length):Hv A f D:=λ s hs hF hr=>h s hs (by rw[QO];exact hF) hr
def EE (N:Nat) (D:List Int):List Bool:=(List.range N).map λ k:Nat=>decide ((k:Int)∈D)
theorem OV (N:Nat) (D:List Int):(EE N D).length=N:=by simp[EE]
theorem MS {x:Int} (h0:0<=x) (h1:x<N):(EE N D)[x.toNat]? = some (decide (x∈D)):=by
 unfold EE;rw[QA,List.getElem?_range (by omega)]
 simp only[Q8,Int.toNat_of_nonneg h0]
theorem PP {x:Int} (h0:0<=x) (h1:x<N):(EE N D).set x.toNat true=EE N (D++[x]):=by
 apply Vd;intro j
 by_cases hj:j<N
 .have e1:(EE N (D++[x]))[j]? = some (decide ((j:Int)∈D++[x])):=by
   have:=MS (N:=N) (D:=D++[x]) (x:=(j:Int)) (by omega) (by omega)
   simpa using this
  have e2:(EE N D)[j]? = some (decide ((j:Int)∈D)):=by
   have:=MS (N:=N) (D:=D) (x:=(j:Int)) (by omega) (by omega)
   simpa using this
  rw[U3,e1,e2,OV]
  by_cases hx:x.toNat=j
  .rw [if_pos hx,if_pos (by omega)]
   have:(j:Int)=x:=by omega
   simp[this]
  .rw [if_neg hx]
   have:(j:Int)≠x:=by omega
   simp[this]
 .rw [Q4 (by rw[Ur,OV];omega),Q4 (by rw[OV];omega)]
theorem lQ (hN:0<N):(List.replicate N false).set 0 true=EE N [0]:=by
 have h:=PP (N:=N) (D:=[]) (x:=0) (UX _) (by omega)
 have e:EE N []=List.replicate N false:=by
  unfold EE;apply List.ext_getElem (by simp)
  simp
 rw[e] at h;exact h
variable {A:List Ed} {l:List Ba} {v:Int}
theorem R9 {α:Type} {l:List α} (h:l.Nodup):l.reverse.Nodup:=List.pairwise_reverse.2 (h.imp λ h0 e=>h0 e.symm)
theorem nX (hv:v≠0):CT (Gq v)=v:=by
 unfold Gq CT
 by_cases h:0<v
 .rw [if_pos h];simp;omega
 .rw [if_neg h];simp;omega
def Ct (A:List Ed) (u:Int) (l:List Ba):Nat->Int
 | 0=>u
 | j+1=>Ax A (l.getD j (0,false))
theorem YM {u:Int} {s:Ba} (j:Nat):Ct A u (s::l) (j+1)=Ct A (Ax A s) l j:=by
 cases j<;>rfl
theorem YO {A:List Ed}:∀ {l:List Ba} {u w:Int},D8 A u l w -> ∀ j (hj:j<l.length),Cb A l[j]=Ct A u l j
 | s::l,u,w,h,0,_=>h.2.1
 | s::l,u,w,h,j+1,hj=>by
   rw[YM];exact YO h.2.2 j (by simpa using hj)
theorem Nn {A:List Ed}:∀ {l:List Ba} {u w:Int},D8 A u l w->Ct A u l l.length=w
 | [],u,w,h=>h
 | s::l,u,w,h=>by
   rw[QN,YM];exact Nn h.2.2
variable {N:Nat} {A:List Ed} {f D b:List Int}
structure KU (N:Nat) (A:List Ed) (f b:List Int) (l:List Ba):Prop where
 way:D8 A 0 l 1
 nodup:(l.map (·.1)).Nodup
 at_:∀ j (h:j<l.length),l[j].1<A.length/\0<B6 A f l[j]/\Ax A l[j]≠0/\0<=Ax A l[j]/\Ax A l[j]<N/\b.getD (Ax A l[j]).toNat 0=CT l[j]
theorem DA.chain (h:DA N A f D b) (h1:(1:Int)∈D):∃ l,KU N A f b l:=by
 obtain⟨j,hj,hx⟩:=QG.1 h1;obtain⟨l,l1,l2,l3⟩:=h.tree.way j j hj (Qk _);rw[hx] at l1;refine⟨l,l1,l2,λ i hi=>?_⟩;obtain⟨q1,q2,q3,q4,_,q5⟩:=l3 _ (Qj hi);have hm:=QZ q5;have hr:=h.rng _ hm;have h0:=h.inn _ hm q4;refine⟨q1,q2,q4,hr.1,hr.2,?_⟩;rw[<- nX h0,q3]
theorem KU.from_ (h:KU N A f b l) (j:Nat) (hj:j<l.length):Cb A l[j]=Ct A 0 l j:=YO h.way j hj
def EW (v:Int) (f:List Int) (l:List Ba) (j:Nat):List Int:=Fp v f (l.drop j).reverse
theorem RT (v:Int) (f:List Int) (l:List Ba):EW v f l l.length=f:=by simp[EW,Fp]
theorem Rb (v:Int) (f:List Int) (l:List Ba) (j:Nat):(EW v f l j).length=f.length:=Kd
theorem Wu {f:List Int} (j:Nat) (hj:j<l.length):EW v f l j=Fv v (EW v f l (j+1)) l[j]:=by
 unfold EW Fp;rw[QP hj,List.reverse_cons,Ve];rfl
theorem zqE (hn:(l.map (·.1)).Nodup) (hr:∀ s∈l,s.1<f.length) (j:Nat) (hj:j<l.length):(EW v f l (j+1)).getD l[j].1 0=f.getD l[j].1 0:=by
 refine(Ky (δ:=v) (f:=f) (i:=l[j].1) (l:=(l.drop (j+1)).reverse) ?_ ?_).1 ?_
 .rw [List.map_reverse]
  refine R9 ?_;exact hn.sublist ((List.drop_sublist _ _).map _)
 .intro s hs
  exact hr s (UW (List.mem_reverse.1 hs))
 .rw [List.map_reverse,List.mem_reverse]
  intro hm;obtain⟨s,hs,he⟩:=Qi.1 hm;obtain⟨i,hi,rfl⟩:=QG.1 hs;rw[UQ] at hi;rw[List.getElem_drop] at he;have h1:=(QX.1 hn) j (j+1+i) (by rw[Qr];exact hj) (by rw[Qr];omega) (by omega)
  rw[List.getElem_map,List.getElem_map] at h1;exact h1 he.symm
theorem ZU (hn:(l.map (·.1)).Nodup) (hr:∀ s∈l,s.1<f.length):EW v f l 0=Fp v f l:=by
 unfold EW;rw[List.drop_zero];have h0:(l.reverse.map (·.1)).Nodup:=by rw[List.map_reverse];exact R9 hn
 have h3:∀ s∈l.reverse,s.1<f.length:=λ s hs=>hr s (List.mem_reverse.1 hs);apply List.ext_getElem (by rw[Kd,Kd])
 intro i h1 h2;have e:∀ (L:List Int) (h:i<L.length),L[i]=L.getD i 0:=λ L h=>by rw[Qe,Qc h,QB]
 rw[e _ h1,e _ h2];have g1:=Ky (δ:=v) (f:=f) (i:=i) h0 h3;have g2:=Ky (δ:=v) (f:=f) (i:=i) hn hr
 by_cases hm:i∈l.map (·.1)
 .obtain ⟨s,hs,rfl⟩:=Qi.1 hm
  rw[g1.2 s.2 (List.mem_reverse.2 hs),g2.2 s.2 hs]
 .rw [g1.1 (by rw[List.map_reverse,List.mem_reverse];exact hm),g2.1 hm]
theorem KU.push (hn:EK N A) (hf:BN N A f) (h:KU N A f b l) (h0:0<=v) (hv:∀ s∈l,v<=B6 A f s):BN N A (EW v f l 0)/\AZ A (EW v f l 0)=AZ A f+v:=by
 have hr:∀ s∈l,s.1<A.length:=λ s hs=>by
  obtain⟨i,hi,rfl⟩:=QG.1 hs;exact(h.at_ i hi).1
 rw[ZU h.nodup λ s hs=>by rw[hf.fit.len];exact hr s hs]
 exact n5 hn hf h0 h.way h.nodup λ s hs=>⟨hr s hs,hv s hs⟩
theorem HH {A:List Ed} {N:Nat} (h:Cu ⟨N,A⟩):EK N A:=by
 obtain⟨h1,_,_,h4⟩:=h;simp only at h1 h4;refine⟨by omega,λ e he=>?_⟩
 obtain⟨q1,q2,q3,q4,q5,q6,q7,q8,_⟩:=h4 e he;exact⟨q1,by omega,q3,by omega,q5,q6,q7,q8⟩
end Go.Proofs.YtkngdgplbojdlaaGreat
