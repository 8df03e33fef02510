/- Texts of this claim,merged. -/
import Derived.Test.YtnaemfpgdmfmcaaGreatDoorRa4
import Derived.Test.YtnaemfpgdmfmcaaGreatDoorRa3
set_option linter.unusedSimpArgs false
set_option linter.unusedVariables false
set_option linter.unusedSectionVars false
set_option maxRecDepth 100000
set_option maxHeartbeats 8000000
noncomputable section
namespace Go.Proofs.YtnaemfpgdmfmcaaGreatDoor
open Go
variable {S:Int->Bool} {a:List Int}
section
variable {N:Nat} {A:List Ed} {f:List Int}
theorem jM (hn:C8 N A) {s:BH} (hs:s.1<A.length):0<=Az A s/\Az A s<N:=by
 have:=hn.arc _ (Fz hs);unfold Az;split<;>omega
theorem C1.grow (hn:C8 N A):∀ (n:Nat) (D b:List Int),C1 N A f D b->N - D.length<=n -> ∃ D' b',C1 N A f D' b'/\HK A f D'
 | n,D,b,h,hl=>by
   by_cases hc:HK A f D
   .exact ⟨D,b,h,hc⟩
   .unfold HK at hc
    obtain⟨s,hs⟩:=Classical.not_forall.1 hc;obtain⟨h1,hs⟩:=Classical.not_imp.1 hs;obtain⟨h2,hs⟩:=Classical.not_imp.1 hs;obtain⟨h3,h4⟩:=Classical.not_imp.1 hs;have hr:=jM hn h1;have hp:=h.push h1 h2 h3 h4 hr.1 hr.2;have hf:=hp.few;rw[Qm,QT] at hf
    match n,hl with
    | 0,hl=>omega
    | n+1,hl=>exact C1.grow hn n _ _ hp (by rw[Qm,QT];omega)
theorem Ny (hn:C8 N A) {D b:List Int} (q:BL N A f) (u:∀ f',BL N A f'->Aa A f'<=Aa A f) (hb:C1 N A f D b):(1:Int)∉D:=λ hm=>by
 obtain⟨l,hl⟩:=hb.chain hm
 have h1:=hl.push hn q (v:=1) zy λ s hs=>by
  obtain⟨i,hi,rfl⟩:=QA.1 hs;have:=(hl.at_ i hi).2.1;omega
 have h2:=u _ h1.1;omega
theorem uK (hn:C8 N A) (h0:S 0=true) (h1:S 1=false):CN N A<=BM S A:=by
 obtain⟨f,hf,hv⟩:=Sc hn;rw[<- hv];exact Kg hn hf h0 h1
theorem kR (hn:C8 N A):∃ X:Int->Bool,X 0=true/\X 1=false/\BM X A=CN N A /\ ∀ S:Int->Bool,S 0=true->S 1=false->BM S A=CN N A -> ∀ x,X x=true->S x=true:=by
 obtain⟨f,hf,hm⟩:=Kt hn;obtain⟨D,b,hb,hc⟩:=C1.grow hn N [0] _ (C1.start (f:=f) (by have:=hn.two;omega)) zy
 have h1:=Ny hn hf hm hb;have q:=Hk hf hm;refine⟨λ x=>decide (x∈D),by simpa using hb.mem0,by simpa using h1,?_,λ S s0 s1 hS x hx=>?_⟩
 .rw [q]
  exact(Lu hn hf hb.mem0 h1 hc).1.symm
 .exact ZT hn hf hb.tree s0 s1 (hS.trans q) x (by simpa using hx)
end
def Ht (g:Gr) (p:Aq) (S:Int->Bool):Int:=BM S (Ah g p [])
def Ds (S:Int->Bool) (ks:List Int):Int:=(ks.map λ k=>if S (2+2*k)=true then 1 else 0).sum
variable {g:Gr} {p:Aq}
def NT (g:Gr) (p:Aq) (k:Int):Prop:=0<(Ao g p).getD k.toNat 0
theorem Wf (h1:S 1=false) {ks:List Int} (hk:∀ k∈ks,NT g p k):BM S (Ah g p ks)=Ht g p S+Ds S ks:=by
 have hf:ks.filter (λ x=>decide (0<(Ao g p).getD x.toNat 0))=ks:=List.filter_eq_self.2 λ x hx=>Q8 (hk x hx);unfold Ht Ds;simp only[Jf,Ah,Cv,Ug,List.sum_append,Ub,hf]
 have e:((λ e:Ed=>if S e.f=true/\S e.t=false then e.v else 0)∘λ x:Int=>(⟨2+2*x,1,1⟩:Ed))=λ k=>if S (2+2*k)=true then 1 else 0:=by
  funext k
  simp only[Function.comp,h1,and_true]
 rw[e];simp only[List.filter_nil,UN,List.sum_nil];omega
theorem Ti (S:Int->Bool):∀ ks:List Int,Ds S ks<=ks.length
 | []=>Uw _
 | k::ks=>by
   have ih:=Ti S ks;unfold Ds at ih ⊢;simp only[Qp,Q3,QV];split<;>omega
theorem qT (S:Int->Bool) (a b:List Int):Ds S (a++b)=Ds S a+Ds S b:=by simp[Ds]
theorem vK (S:Int->Bool) {b:List Int} (h:a.Perm b):Ds S a=Ds S b:=by
 unfold Ds
 induction h with
 | nil=>rfl
 | cons x _ ih=>simp only[Qp,Q3,ih]
 | swap x y l=>simp only[Qp,Q3];omega
 | trans _ _ ih1 ih2=>exact ih1.trans ih2
theorem Y7 {S:Int->Bool}:∀ {ks:List Int},(∀ k∈ks,S (2+2*k)=false)->Ds S ks=0
 | [],_=>rfl
 | k::ks,h=>by
   have ih:=Y7 (S:=S) (ks:=ks) λ x hx=>h x (Qg _ hx);unfold Ds at ih ⊢;simp[ih,h k (Qi ..)]
structure Cj (g:Gr) (p:Aq) (ks:List Int):Prop where
 rng:∀ x∈ks,0<=x/\x<g.size
 reach:∀ x∈ks,NT g p x
theorem Cj.sub {b:List Int} (h:Cj g p b) (hs:∀ x∈a,x∈b):Cj g p a:=⟨λ x hx=>h.rng x (hs x hx),λ x hx=>h.reach x (hs x hx)⟩
theorem Cj.nil:Cj g p []:=⟨λ _ h=>(Ua h).elim,λ _ h=>(Ua h).elim⟩
theorem Cj.append {b:List Int} (h:Cj g p a) (h':Cj g p b):Cj g p (a++b) :=
 ⟨λ x hx=>(Qo.1 hx).elim (h.rng x) (h'.rng x),λ x hx=>(Qo.1 hx).elim (h.reach x) (h'.reach x)⟩
theorem Iu (hg:AG g) (hp:BD g.size p) {ks:List Int} (hk:Cj g p ks):Ba g p ks ↔ ∀ S:Int->Bool,S 0=true->S 1=false->(ks.length:Int)<=Ht g p S+Ds S ks:=by
 have hn:=Ju hg hp hk.rng;unfold Ba;constructor
 .intro h S h0 h1
  rw[<- Wf h1 hk.reach,<- h];exact uK hn h0 h1
 .intro h
  obtain⟨X,h0,h1,hc,_⟩:=kR hn;have h2:=h X h0 h1;rw[<- Wf h1 hk.reach,hc] at h2;have h3:=IW (p:=p) hg hp hk.rng;omega
theorem Ba.perm (hg:AG g) (hp:BD g.size p) {b:List Int} (ha:Cj g p a) (h:Ba g p a) (hp':a.Perm b):Ba g p b:=by
 have hb:Cj g p b:=ha.sub λ x hx=>hp'.mem_iff.2 hx;rw[Iu hg hp hb];rw[Iu hg hp ha] at h;intro S h0 h1;rw[<- vK S hp',<- hp'.length_eq];exact h S h0 h1
theorem Ba.left (hg:AG g) (hp:BD g.size p) {b:List Int} (hk:Cj g p (a++b)) (h:Ba g p (a++b)):Ba g p a:=by
 have ha:Cj g p a:=hk.sub λ x hx=>QZ _ hx;rw[Iu hg hp ha];rw[Iu hg hp hk] at h;intro S h0 h1;have:=h S h0 h1;rw[qT,Qm] at this;have:=Ti S b;omega
theorem Ba.sublist (hg:AG g) (hp:BD g.size p) {b:List Int} (hk:Cj g p b) (h:Ba g p b) (hs:a.Sublist b):Ba g p a:=by
 obtain⟨c,hc⟩:∃ c,(a++c).Perm b:=by
  induction hs with
  | slnil=>exact⟨[],.refl _⟩
  | cons x hs ih =>
    obtain⟨c,hc⟩:=ih (hk.sub λ y hy=>Qg _ hy) (by
     have h2:Ba g p (_++[x]):=h.perm hg hp hk (List.perm_append_comm (l₁:=[x]))
     exact h2.left hg hp (hk.sub λ y hy=>by simpa [or_comm] using hy))
    exact⟨x::c,List.perm_middle.trans (hc.cons x)⟩
  | cons_cons x hs ih =>
    obtain⟨c,hc⟩:=ih (hk.sub λ y hy=>Qg _ hy) (by
     have h2:Ba g p (_++[x]):=h.perm hg hp hk (List.perm_append_comm (l₁:=[x]))
     exact h2.left hg hp (hk.sub λ y hy=>by simpa [or_comm] using hy))
    exact⟨c,hc.cons x⟩
 exact(h.perm hg hp hk hc.symm).left hg hp (hk.sub λ x hx=>hc.mem_iff.1 hx)
theorem Ba.nil (hg:AG g) (hp:BD g.size p):Ba g p []:=by
 have h1:=IW (p:=p) (ks:=[]) hg hp zz
 have hn:=Ju (p:=p) (ks:=[]) hg hp zz
 have h2:=iT hn (Ni hn)
 have h3:Aa (Ah g p []) ((Ah g p []).map λ _=>0)=0:=by
  unfold Aa Br
  have:∀ A:List Ed,Ac (λ e v=>if e.f=0 then v else 0) A (A.map λ _=>0)=0:=by
   intro A
   induction A with
   | nil=>rfl
   | cons e A ih=>simp only[Qp,Ac,ih];split<;>rfl
  exact this _
 unfold Ba;simp at h1 ⊢;omega
variable {g:Gr} {S:List Int} {key:Int}
variable {g:Gr} {S:List Int} {key:Int}
variable {m:Nat}
section
variable {P:Program} {np id:Nat} {h:Nat->Option AD} {K:AV->List Nat->List (Nat × Option AD)->Prop}
theorem XT {s i off len:Nat} (l:Nat) {e:AD} (he:h i=some e) (hs:e.s=s) (hl:l<=len) (hK:K (.rs i (off+l) (len - l)) [i] []):aK P np id (.slc s true false false) [.rs i off len,.sc (.int .i64 l)] h K:=by
 rw[FT];exact⟨l,len,0,len,rfl,hl,rfl,zz,zz,zz,Qk _,rfl,⟨e,he,hs⟩,hK⟩
end
structure Pi where
 D:List Int
 b:List Int
 Z:List Int
 off:Nat
 q:Nat
variable {s:Pi}
structure Da (N:Nat) (A:List Ed) (f:List Int) (s:Pi) (m:Nat):Prop where
 bfs:C1 N A f s.D s.b
 z:s.off+s.q=s.Z.length
 d:m+s.q=s.D.length
 same:s.Z.drop s.off=s.D.drop m
section
variable {N:Nat} {A:List Ed} {f:List Int}
theorem Da.more (h:Da N A f s m) {x:Int} {b':List Int} (hb:C1 N A f (s.D++[x]) b'):Da N A f ⟨s.D++[x],b',s.Z.drop s.off++[x],0,s.q+1⟩ m:=by
 have h1:=h.z;have h2:=h.d;refine⟨hb,?_,?_,?_⟩
 .simp only[Qm,UH,QT];omega
 .simp only[Qm,QT];omega
 .simp only[Vb]
  rw[h.same,List.drop_append_of_le_length zy]
theorem Da.pop (h:Da N A f s m) (hq:0<s.q):Da N A f { s with off:=s.off+1,q:=s.q - 1 } (m+1):=by
 have h1:=h.z;have h2:=h.d;refine⟨h.bfs,by simp only;omega,by simp only;omega,?_⟩
 simp only;rw[<- List.drop_drop,h.same,List.drop_drop]
theorem Da.head (h:Da N A f s m) (hq:0<s.q):∃ hm:m<s.D.length,s.Z[s.off]? = some s.D[m]:=by
 have h1:=h.z;have h2:=h.d;refine⟨zy,?_⟩
 have e:(s.Z.drop s.off)[0]? = (s.D.drop m)[0]?:=by rw[h.same]
 rw[Q9,Q9,QY,QY] at e;rw[e,Qa zy]
end
def Jp (A:List Ed) (f:List Int) (l:List BH) (j:Nat) (v:Int):Prop:=∀ t∈l.drop j,v<=CF A f t
variable {g:Int->Int}
theorem Lp {φ:Ed->Int->Int}:∀ {A:List Ed} {f:List Int} (i:Nat) (h1:i<A.length) (h2:i<f.length),Ac φ (A.take (i+1)) (f.take (i+1))=Ac φ (A.take i) (f.take i)+φ A[i] f[i]
 | e::A,v::f,0,_,_=>by simp[Ac]
 | e::A,v::f,i+1,h1,h2=>by
   have:=Lp (φ:=φ) (A:=A) (f:=f) i (by simpa using h1) (by simpa using h2)
   simp only[List.take_succ_cons,Ac,this,List.getElem_cons_succ];omega
def Df (A:List Ed) (f:List Int) (i:Nat) (x:Int):Int:=Eh (A.take i) (f.take i) x - Br (A.take i) (f.take i) x
variable {N:Nat} {A:List Ed} {f:List Int}
theorem RA (x:Int):Df A f 0 x=0:=by simp[Df,Eh,Br,Ac]
theorem ZB {i:Nat} (h1:i<A.length) (h2:i<f.length) (x:Int):Df A f (i+1) x=Df A f i x+(if A[i].t=x then f[i] else 0) - if A[i].f=x then f[i] else 0:=by
 unfold Df Eh Br;rw[Lp i h1 h2,Lp i h1 h2];omega
theorem qN (hl:f.length=A.length) (x:Int):Df A f A.length x = - B2 A f x:=by
 unfold Df B2;rw[Qb (Qk _),Qb zy]
 omega
theorem Vz (hl:f.length=A.length) (hb:∀ j (h:j<f.length),0<=f[j]/\f[j]<=1048576) (x:Int):∀ i,i<=A.length -> -(1048576*(i:Int))<=Df A f i x/\Df A f i x<=1048576*(i:Int)
 | 0,_=>by rw[RA];omega
 | i+1,h=>by
   have ih:=Vz hl hb x i zy
   have h2:=hb i zy
   rw[ZB zy zy]
   split<;>split<;>omega
theorem qR {i:Nat} (h1:i<A.length) (h2:i<f.length) (x:Int):Br (A.take (i+1)) (f.take (i+1)) x=Br (A.take i) (f.take i) x+if A[i].f=x then f[i] else 0:=by
 unfold Br;rw[Lp i h1 h2]
theorem YJ (hl:f.length=A.length) (hb:∀ j (h:j<f.length),0<=f[j]/\f[j]<=1048576) (x:Int):∀ i,i<=A.length->0<=Br (A.take i) (f.take i) x/\Br (A.take i) (f.take i) x<=1048576*(i:Int)
 | 0,_=>by simp[Br,Ac]
 | i+1,h=>by
   have ih:=YJ hl hb x i zy
   have h2:=hb i zy
   rw[qR zy zy]
   split<;>omega
def BK (N:Nat) (g:Int->Int):List Int:=(List.range N).map λ k:Nat=>g k
theorem Hx (N:Nat) (g:Int->Int):(BK N g).length=N:=by simp[BK]
theorem J5 {x:Int} (h0:0<=x) (h1:x<N):(BK N g)[x.toNat]? = some (g x):=by
 unfold BK;rw[QH,List.getElem?_range zy]
 simp only[Uo,Int.toNat_of_nonneg h0]
theorem VG {x v:Int} (h0:0<=x) (h1:x<N):(BK N g).set x.toNat v=BK N λ y=>if y=x then v else g y:=by
 apply List.ext_getElem?;intro j
 by_cases hj:j<N
 .have e1:=J5 (N:=N) (g:=λ y=>if y=x then v else g y) (x:=(j:Int)) zy zy
  have e2:=J5 (N:=N) (g:=g) (x:=(j:Int)) zy zy
  simp only[U5] at e1 e2;rw[List.getElem?_set,e1,e2,Hx]
  by_cases hx:x.toNat=j
  .rw [if_pos hx,if_pos zy,if_pos zy]
  .rw [if_neg hx,if_neg zy]
 .rw [QS (by rw[UF,Hx];omega),QS (by rw[Hx];omega)]
theorem X7 {h:Int->Int} (e:∀ x,g x=h x):BK N g=BK N h:=by
 obtain rfl:g=h:=funext e;rfl
structure MD (g:Gr) (p:Aq) (ks f:List Int):Prop where
 ok:BL (A1 g) (Ah g p ks) f
 most:∀ f',BL (A1 g) (Ah g p ks) f'->Aa (Ah g p ks) f'<=Aa (Ah g p ks) f
 val:Aa (Ah g p ks) f=CN (A1 g) (Ah g p ks)
theorem L9 {ks:List Int} {n:Int} (h:Bh ks 0 (n - 1)):∀ x∈ks,0<=x/\x<n:=λ x hx=>by
 have:=h.nodup.2 x hx;omega
theorem gU (L:List Int) (a:Nat) {l:List Int} (h:0<l.length):JI L a l∈l:=by
 have:=Gi (L:=L) (a:=a) (n:=l.length) zy
 obtain⟨q,hq⟩:∃ q:Nat,(Af L a l.length).1=q:=⟨(Af L a l.length).1.toNat,zy⟩
 have u:q<l.length:=zy
 unfold JI;rw[hq];simp[u]
theorem Ku (L:List Int) (a:Nat) (n:Int) (hl:L.length<=400) (ha:a<=L.length) (h0:0<n) (hn:n<=1000000):∃ (x:Nat) (b:Nat),(b<=L.length/\(x:Int)<n)/\AK 19 [.pt 0 0 0,.I n] [AS L a] (.I x) [some (AS L b)]:=by
 have:=Gi (L:=L) (a:=a) h0;obtain⟨q,hq⟩:∃ q:Nat,(Af L a n).1=q:=⟨(Af L a n).1.toNat,zy⟩
 exact⟨q,_,⟨D7 ha,zy⟩,by rw[<- hq];exact KZ L a n zy ha zy⟩
theorem KR (L:List Int) (a:Nat) (l:List Int) (hl:L.length<=400) (ha:a<=L.length) (h0:0<l.length) (q:l.length<=100):∃ (x:Int) (b:Nat),(b<=L.length/\x∈l)/\AK 22 [.pt 0 0 0,AA l] [AS L a] (.I x) [some (AS L b)] :=
 ⟨_,_,⟨D7 ha,gU L a h0⟩,aU L a l zy ha h0 zy⟩
theorem tT (L:List Int) (a:Nat) (n:Int) (hl:L.length<=400) (ha:a<=L.length) (q:0<=n) (hn:n<=1000000):∃ (x:Bool) (b:Nat),b<=L.length/\AK 20 [.pt 0 0 0,.I n] [AS L a] (.B x) [some (AS L b)] :=
 ⟨_,_,D7 ha,PD L a n zy ha q zy⟩
section
variable {P:Program} {np id:Nat} {h:Nat->Option AD} {K:AV->List Nat->List (Nat × Option AD)->Prop} {f:FuncId} {first aB args aA:List AV} {res:AV}
theorem uE {j:Nat} {e ej:AD} (q:np<=j) (hj:h j=some ej) (hc:Bz P f aA [] res [some e]) (he:(first++args++aB).map (conv [] [j] h 4)=aA) (hk:K (conv (CL [] id) [] (λ _=>none) 4 res) [j] [(id,some (Ab (CL [] id) [] (λ _=>none) 4 e)),(j,some { ej with ro:=ej.rows.length })]):aK P np id .call (.fn (.func f) first aB::args) h K :=
 ⟨[],[j],true,aA,[],res,[some e],zz,zz,by simpa using q,by rw[U8,he];exact E9 _,rfl,hc,zz,.inl rfl,by simpa [CL,hj] using hk⟩
end
def H3 (t:List Int):Prop:=∀ i (h:i<t.length),1<=t[i]/\t[i]<=1000/\(0<i->t[i]<=t[i - 1])
theorem jR {t:List Int} {v:Int} (h:H3 t) (h1:1<=v) (h2:v<=1000) (h3:∀ x∈t,v<=x):H3 (t++[v]):=by
 intro i hi;rw[Qm,QT] at hi
 by_cases hit:i<t.length
 .rw [Q2 hit]
  obtain⟨a,b,c⟩:=h i hit;refine⟨a,b,λ hp=>?_⟩;rw[Q2 zy]
  exact c hp
 .obtain rfl:i=t.length:=zy
  simp only[List.getElem_concat_length];refine⟨h1,h2,λ hp=>?_⟩;rw[Q2 zy]
  exact h3 _ (Qj _)
theorem rQ (L:List Int) (a:Nat) (g:Gr) (hl:L.length<=400) (ha:a<=L.length) (h0:0<g.size) (hn:g.size<=1000) :
  ∃ x:Aq × Nat,(BD g.size x.1/\x.1.seeds.length<=2/\x.1.table.length<=4/\x.2<=L.length)/\AK 8 [.pt 0 0 0,eG g] [AS L a] (eP x.1) [some (AS L x.2)]:=by
 refine dF.s.acallsX (args:=[.pt 0 0 0,eG g]) (hs:=[AS L a]) (λ x=>eP x.1) (λ x=>[some (AS L x.2)]) (λ x:Aq × Nat=>BD g.size x.1/\x.1.seeds.length<=2/\x.1.table.length<=4/\x.2<=L.length) (Bf rfl) (Bf rfl) (λ _=>zz) ?_
 show Ad _ 1 _ _ ⟨50,[(0,.pt 0 0 0),(1,eG g)],[(0,some (AS L a))],16⟩;obtain⟨k1,b1,⟨hc,a4⟩,he⟩:=Ku L a g.size hl ha h0 zy
 obtain⟨lv,b2,⟨hf,hg⟩,hh⟩:=KR L b1 [1,1,2,3] hl hc zz zz
 have u:1<=lv/\lv<=3:=by simp at hg;omega
 obtain⟨o,b3,h3,hi⟩:=tT L b2 3 hl hf zy zy
 refine ar [0,3,4] [(0,0),(24,24)] [16] 32 ?_;apply ax [0,3,4,5] [(0,0),(24,24),(104,104),(64,17)] [] 120
 .simp
  refine B6 (i:=0) rfl (e':=AS L a) zz he zz zz ?_
  simp;refine Kz (i:=0) (j:=80) zx zx rfl rfl (e':=AS L b1) zz hh zz zz ?_
  simp;rfl
 refine G1 (ι:=List Int × Nat) (λ s=>⟨50,[(0,.pt 0 0 0),(4,.pt 24 0 0),(5,.pt 104 0 0)],[(0,some (AS L s.2)),(24,some ⟨3,[[.nilS,.nilS,.I 0]],0⟩),(104,some ⟨3,[[.rs 17 0 s.1.length,.nilS,.I lv]],0⟩),(17,some ⟨1,AE s.1,0⟩)],300⟩)
  (λ s=>s.2<=L.length/\s.1≠[]/\s.1.length<=2/\s.1.Pairwise (· < ·) /\ ∀ k∈s.1,0<=k/\k<g.size) ?_ λ s hs=>?_
 .apply ak [0,3,4,5,18] [0,24,104,17] 136
  .simp
   refine B6 (i:=0) rfl (e':=AS L b2) zz hi zz zz ?_
   simp;rfl
  cases o with
  | true =>
    refine AI _ rfl (λ _=>?_) λ h=>by cases h
    obtain⟨k2,b4,⟨q,a5⟩,hj⟩:=Ku L b3 g.size hl h3 h0 zy
    have h1:=nF [(k1:Int)] k2 zz
    obtain⟨S,hS⟩:=AR (CQ [(k1:Int)] k2);rw[<- hS] at h1;refine ET rfl ?_;simp;refine B6 (i:=0) rfl (e':=AS L b3) zz hj zz zz ?_
    simp;refine uE (j:=17) zx rfl h1 zz ?_
    simp[AC];refine⟨rfl,S,b4,⟨q,?_,?_,?_,λ k hk=>?_⟩,CO [(0,0),(24,24),(104,104),(184,17)] []⟩
    .intro h
     have:(k1:Int)∈S:=by rw[hS];exact Y4.2 (.inl zz)
     rw[h] at this
     cases this
    .rw [hS];exact bX _ _
    .rw [hS];exact iP zz
    .rw [hS] at hk
     rcases Y4.1 hk with h | h
     .simp at h;omega
     .omega
  | false =>
    refine AI _ rfl (λ h=>by cases h) λ _=>?_
    exact AN ⟨([(k1:Int)],b3),⟨h3,zz,zz,zz,zw⟩,BP [(0,0),(24,24),(104,104),(17,17)] []⟩
 obtain⟨S,b4⟩:=s;obtain⟨q,h4,h5,h6,h7⟩:=hs;simp only at q h4 h5 h6 h7;obtain⟨v0,b5,⟨hm,ho⟩,hq⟩:=KR L b4 [3,2,1,6,0] hl q zz zz
 have a3:0<=v0/\v0<=6:=by simp at ho;omega
 have hr:=w6 (x:=1+v0);obtain⟨n0,b6,⟨ht,a6⟩,hu⟩:=Ku L b5 4 hl hm zy zy
 have hw:IntKind.i64.wrap (1+(n0:Int))=((n0+1:Nat):Int):=by rw[w6];omega
 apply ax [0,4,5,6] [(0,0),(24,24),(104,104),(17,17)] [] 400
 .simp
  refine Kz (i:=0) (j:=308) zx zx rfl rfl (e':=AS L b4) zz hq zz zz ?_
  simp[hr];rfl
 refine AB ?_;apply ax [0,4,5,6,7] [(0,0),(24,24),(104,104),(17,17)] [] 432
 .simp
  refine B6 (i:=0) rfl (e':=AS L b5) zz hu zz zz ?_
  simp[hw];rfl
 refine AT ?_
 refine As (ι:=(List Int × Int) × (Nat × Nat)) (λ s=>⟨50,[(0,.pt 0 0 0),(4,.pt 24 0 0),(5,.pt 104 0 0),(6,.I s.1.2),(7,.I s.2.1)],[(0,some (AS L s.2.2)),(24,some ⟨3,[[.nilS,.nilS,.I 0]],0⟩),(104,some ⟨3,[[.rs 17 0 S.length,.rs 18 0 s.1.1.length,.I lv]],0⟩),(17,some ⟨1,AE S,0⟩),(18,some ⟨1,AE s.1.1,0⟩)],432⟩)
  (λ s=>s.1.1.length+s.2.1=n0+1/\H3 s.1.1/\(1<=s.1.2/\s.1.2<=7)/\(∀ x∈s.1.1,s.1.2<=x)/\s.2.2<=L.length) (λ s=>s.2.1) (([],1+v0),(n0+1,b6)) ⟨zz,λ i h=>by simp at h,⟨by simp only;omega,by simp only;omega⟩,zz,ht⟩
  (Le.lst [(0,0),(24,24),(104,104),(17,17)] [] [(18,1)] rfl zz zz zz zz zz zz zz (by simp[Up]) (by simp[AC];exact⟨An.rfl' zz,An.rfl' zz,An.row rfl zy (by simp[D9,Up]),An.rfl' zz⟩)) ?_
 rintro⟨⟨T,v⟩,n,b⟩ ⟨hy,hT,hv,h2,hb⟩
 simp only at hy hT hv h2 hb;refine AB (rk (s:=?s7) [0,4,5,6,7,35] [0,24,104,17,18] rfl ?o7 ?q7)
 case o7=>simp;rfl
 refine AI _ rfl (λ h8=>?_) λ h8=>?_
 .simp at h8
  obtain⟨m,rfl⟩:∃ m,n=m+1:=⟨n - 1,zy⟩
  have a7:IntKind.i64.wrap (((m+1:Nat):Int) - 1)=(m:Int):=by rw[w6];omega
  have h9:=w6 (x:=(m:Int));obtain⟨d,b',⟨hz,hd⟩,a0⟩:=Ku L b 3 hl hb zy zy
  have a1:=w6 (x:=v - (d:Int));have a2:∀ f:Int->List AV,List.take T.length (List.map f T)=List.map f T:=λ f=>Qb zz
  refine AN (AB (AT ?_));apply ax [0,4,5,6,7] [(0,0),(24,24),(104,104),(17,17),(480,18)] [] 512
  .simp [a2]
   refine⟨zy,zy,?_⟩
   rfl
  refine Al (s:=?s9) rfl ?o9 ?q9
  case o9 =>
   simp;refine B6 (i:=0) rfl (e':=AS L b) zz a0 zz zz ?_
   simp[a1];rfl
  refine AY ?_;refine⟨((T++[v],if 1<v - d then v - d else 1),(m,b')),⟨by simp only[Qm,QT];omega,jR hT hv.1 zy h2,⟨by simp only;split<;>omega,by simp only;split<;>omega⟩,λ x hx=>?_,hz⟩,by simp only;omega,AJ [(0,0),(24,24),(104,104),(17,17),(18,18)] [] (by simp[h9]) (by simp[AC])⟩
  have:v<=x:=by
   rcases Qo.1 hx with h | h
   .exact h2 x h
   .rw [Qt] at h;omega
  simp only;split<;>omega
 simp at h8;obtain rfl:n=0:=zy
 refine Ar (hit (rk (s:=?s11) [4] [0,24,17,18] rfl ?o11 ?q11))
 case o11=>simp;rfl
 refine A9 (FF.mk (.inr rfl) (⟨S,T,lv⟩,b) ⟨⟨h4,V3 h6 h7,by simp only;omega,by simp only;omega,u.1,u.2,hT⟩,h5,by simp only;omega,hb⟩ ?_)
 refine⟨_,rfl,[],[17,18],by simp[List.range,List.range.loop],zz,zz,?_,?_⟩
 .simp [List.range,List.range.loop,AC,B7]
 .simp [List.range,List.range.loop]
def DP (D:List Int) (n:Nat):List Int:=((List.range n).map λ k:Nat=>(k:Int)).filter λ k=>decide (k∈D)
theorem bN (D:List Int) (n:Nat):DP D (n+1)=DP D n++if (n:Int)∈D then [(n:Int)] else []:=by
 unfold DP;rw[Vh,Ug,Va];simp only[Qp,UN,List.filter_cons,List.filter_nil];split<;>simp_all
theorem Sp {D:List Int} {n:Nat} {x:Int}:x∈DP D n↔(0<=x/\x<n)/\x∈D:=by
 unfold DP;rw[Qz,Qh];constructor
 .rintro ⟨⟨k,hk,rfl⟩,h⟩
  have:=QP.1 hk;exact⟨zy,by simpa using h⟩
 .rintro ⟨h,h2⟩
  exact⟨⟨x.toNat,QP.2 zy,zy⟩,by simpa using h2⟩
theorem rD (D:List Int) (n:Nat):(DP D n).Pairwise (· < ·):=by
 unfold DP;refine List.Pairwise.filter _ ?_;rw[US];exact List.pairwise_lt_range.imp λ h=>zy
theorem v8 (D:List Int) (n:Nat):(DP D n).length<=n:=by
 unfold DP;refine QF (Q5 ..) zz
abbrev CY (R:List (Int × List Int)):List (List AV):=R.map λ r=>[.I r.1,AA r.2]
abbrev Ei (acc flow:List Int) (R:List (Int × List Int)):AV:=.agg [AA acc,AA flow,.vs 2 false (CY R)]
theorem IC {A:List Ed} {i:Nat} (h:i<A.length):AH A i=A[i]:=by
 unfold AH;rw[Qe,Qa h,QO]
theorem Jy {f:List Int} {i:Nat} (h:i<f.length):f.getD i 0=f[i]:=by
 rw[Qe,Qa h,QO]
def Ak (l:List Nat):List Int:=l.map λ i:Nat=>(i:Int)
theorem IJ (l:List Nat):(Ak l).length=l.length:=by simp[Ak]
theorem Bg.mem {A:List Ed}:∀ {l:List Nat} {u w:Int},Bg A u l w -> ∀ j∈l,j<A.length
 | i::l,u,w,hw,j,hj=>by
   rcases Qw.1 hj with rfl | hj
   .exact hw.1
   .exact Bg.mem hw.2.2 j hj
theorem El.few {N:Nat} {A:List Ed} {f g:List Int} {l:List Nat} {w:Int} (hn:C8 N A) (h:El A f g l w):l.length+1<=N:=by
 have:=HT (b:=(List.range N).map λ i:Nat=>(i:Int)) h.met λ x hx=>by
  rcases Qw.1 hx with rfl | hx
  .have:=hn.two
   exact Qh.2 ⟨0,QP.2 zy,rfl⟩
  .obtain ⟨j,hj,rfl⟩:=Qh.1 hx
   have ha:=hn.arc _ (Fz (h.way.mem j hj));exact Qh.2 ⟨(AH A j).t.toNat,QP.2 zy,zy⟩
 simpa [Ai] using this
variable {A:List Ed}
theorem Mo {A:List Ed}:∀ {l:List Nat} {u w:Int},Bg A u l w -> ∀ i (h:i<l.length),(AH A l[i]).f=(u::Ai A l).getD i 0
 | i::l,u,w,hw,0,_=>hw.2.1
 | i::l,u,w,hw,j+1,h=>by
   have:=Mo hw.2.2 j (by simpa using h)
   simpa [Ai] using this
theorem PE {u:Int} {l:List Nat} {i:Nat} (h:i<l.length):(u::Ai A l).getD (i+1) 0=(AH A l[i]).t:=by
 rw[List.getD_cons_succ,Qe];unfold Ai;rw[QH,Qa h];rfl
theorem dM {l:List Nat} {i:Nat} (h:i<l.length):B5 A (l.take (i+1))=B5 A (l.take i)++(CI (AH A l[i]).t).toList:=by
 unfold B5 Ai;rw[Ql h,Ug,List.filterMap_append];simp only[Qp,UN,Uz,List.filterMap_nil]
 cases CI (AH A l[i]).t<;>rfl
theorem gA (A:List Ed) (l:List Nat):(B5 A l).length<=l.length:=by
 unfold B5;exact QF (List.length_filterMap_le ..) (by simp[Ai])
def LS (g:Gr) (p:Aq) (ks:List Int) (W:List (List Nat)):Prop :=
 ∃ f g',MD g p (Am ks) f/\GQ (A1 g) (Ah g p (Am ks)) f g' W/\(W.length:Int)=CN (A1 g) (Ah g p (Am ks)) /\ ∀ w∈W,w.length<=130
variable {o:List Int}
def BR (o acc:List Int) (i:Nat):List Int:=(o.take i).filter λ k=>decide (k∈acc)
theorem Zh {acc:List Int} {i:Nat} (h:i<o.length):BR o acc (i+1)=BR o acc i++if o[i]∈acc then [o[i]] else []:=by
 unfold BR;rw[Ql h,Va];simp only[List.filter_cons,List.filter_nil,Qf]
theorem oM (o acc:List Int) (i:Nat):(BR o acc i).length<=o.length:=by
 unfold BR;exact QF (Q5 ..) (UD ..)
theorem rH {acc:List Int} {i:Nat} {x:Int} (h:x∈BR o acc i):x∈o:=QR (Qz.1 h).1
structure CE (g:Gr) (p:Aq) (o:List Int) (key:Int) (x:A6):Prop where
 key_:x.key=key
 bef:∃ i,∃ h:i<o.length,o[i]=key/\x.before=BR o (AM g p o) i
 yes:key∈AM g p o->x.acc=true/\x.side=[] /\ ∃ W,LS g p (x.before++[key]) W/\x.paths=W.map (B5 (Ah g p (Am (x.before++[key]))))
 no:key∉AM g p o->x.acc=false/\x.paths=[] /\ ∃ R,FZ g p o R/\(key,x.side)∈R
theorem Zs {g:Gr} {p:Aq}:∀ (b a:List Int),∃ l,AM g p (a++b)=AM g p a++l
 | [],a=>⟨[],zz⟩
 | x::b,a=>by
   obtain⟨l,hl⟩:=Zs b (a++[x]);rw[QG] at hl;have e:a++x::b=a++([x]++b):=rfl;rw[e,hl];rcases O1 (g:=g) (p:=p) a x with h | h
   .exact ⟨l,by rw[h]⟩
   .exact ⟨[x]++l,by rw[h,QG]⟩
theorem iV {g:Gr} {p:Aq} {n:Nat} {x:Int} (h:x∈AM g p (o.take n)):x∈AM g p o:=by
 obtain⟨l,hl⟩:=Zs (g:=g) (p:=p) (o.drop n) (o.take n);rw[UK] at hl;rw[hl];exact QZ _ h
theorem ST {k a b p s p' s' c:AV} (hp:Wk p p') (hs:Wk s s'):Wk (.tup [.agg [k,a,b,p,s],c]) (.tup [.agg [k,a,b,p',s'],c]):=by
 refine .tup _ _ rfl λ i=>?_
 match i with
 | 0 =>
   refine .agg _ _ rfl λ j=>?_
   match j with
   | 0=>exact .refl _
   | 1=>exact .refl _
   | 2=>exact .refl _
   | 3=>exact hp
   | 4=>exact hs
   | _+5=>exact .refl _
 | 1=>exact .refl _
 | _+2=>exact .refl _
abbrev CK (X:List A6):AV:=.vs 5 false (X.map xE)
def Kf (g:Gr) (p:Aq) (o:List Int) (X:List A6):Prop:=X.length=o.length /\ ∀ i (h1:i<X.length) (h2:i<o.length),CE g p o o[i] X[i]
theorem nM (a b:List Int) (ha:a.length<=140737488355328) (hb:b.length<=140737488355328):AK 16 [AA a,AA b] [] (.B (decide (a=b))) []:=by
 refine wP.s.ac ?_;show Ad _ 0 _ _ ⟨26,[(0,AA a),(1,AA b)],[],16⟩;refine A2 ⟨26,[(0,AA a),(1,AA b)],[],100⟩ [] [] ?_;refine AB (arc ⟨26,[(0,AA a),(1,AA b),(10,.B (!decide (a.length=b.length)))],[],200⟩ ?_ ?_)
 .simp
  exact AJ [] [] (by simp<;>exact BA (by rw[Qv];simp;omega))
 refine AI _ rfl (λ h=>?_) λ h=>?_
 .simp at h
  have hn:¬ a=b:=λ e=>h (by rw[e])
  refine A2 ⟨26,[(4,.B false)],[],300⟩ [] [] ?_;exact A8 (AW.one (by simp[hn]))
 simp at h;refine AN (AB (A2 ⟨26,[(0,AA a),(1,AA b),(5,.I 0)],[],300⟩ [] [] ?_));refine AT (As (ι:=Nat) (λ i=>⟨26,[(0,AA a),(1,AA b),(5,.I i)],[],300⟩) (λ i=>i<=a.length/\a.take i=b.take i) (λ i=>a.length - i) 0 zz (BP [] []) ?_)
 rintro i ⟨hi,hp⟩
 refine AB (A2 ⟨26,[(0,AA a),(1,AA b),(5,.I i),(14,.B (decide (i<a.length)))],[],400⟩ [] [] ?_);refine AI _ rfl (λ h7=>?_) λ h7=>?_
 .simp at h7
  have q:i<b.length:=zy
  have hw:=w6 (x:=((i:Int)+1));refine AN (AB (AT (Cd ⟨26,[(0,AA a),(1,AA b),(5,.I i),(25,.B (!decide (a[i]=b[i])))],[],600⟩ ?_ ?_)))
  .simp [h7,q]
   exact⟨rfl,AJ [] [] (by simp<;>exact BA (by rw[Qv];simp))⟩
  refine AI _ rfl (λ h9=>?_) λ h9=>?_
  .simp at h9
   have hn:¬ a=b:=λ e=>by subst e;exact h9 rfl
   refine A2 ⟨26,[(4,.B false)],[],700⟩ [] [] ?_;exact A8 (AW.one (by simp[hn]))
  simp at h9;refine AN (AY ?_);refine⟨i+1,⟨h7,?_⟩,zy,AJ [] [] (by simp[hw])⟩
  rw[Ql h7,Ql q,hp,h9]
 simp at h7
 have he:a=b:=by
  have h1:i=a.length:=zy
  rw[h1,QW,h,QW] at hp;exact hp
 refine Ar (hit (A2 ⟨26,[(4,.B true)],[],700⟩ [] [] ?_));exact A8 (AW.one (by simp[he]))
def Bd (X:List A6):List Int:=(X.filter λ x=>x.acc).map λ x=>x.key
theorem Zj {X:List A6} {i:Nat} (h:i<X.length):Bd (X.take (i+1))=Bd (X.take i)++if X[i].acc=true then [X[i].key] else []:=by
 unfold Bd;rw[Ql h,Va,Ug]
 congr 1
 simp only[List.filter_cons,List.filter_nil];split<;>rfl
theorem oP (X:List A6):(Bd X).length<=X.length:=by
 unfold Bd;rw[QB];exact Q5 ..
def Kx (order:List Int) (X:List A6) (n:Nat):Prop:=∀ i (h1:i<X.length) (h2:i<order.length),i<n->X[i].key=order[i]/\X[i].before=Bd (X.take i)
def Fw (chk:A6->Int):List A6->Int
 | []=>0
 | x::X=>if chk x=0 then Fw chk X else chk x
open Classical in
def Dr (order:List Int) (chk:A6->Int) (X:List A6):List Int × Int :=
 if X.length=order.length/\Kx order X X.length then (if Fw chk X=0 then (Bd X,0) else ([],Fw chk X)) else ([],1)
theorem XX {chk:A6->Int}:∀ {X:List A6} {i:Nat} (h:i<X.length),(∀ j (hj:j<X.length),j<i->chk X[j]=0)->chk X[i]≠0->Fw chk X=chk X[i]
 | x::X,0,_,_,h=>if_neg h
 | x::X,i+1,hi,hp,h=>by
   have h0:chk x=0:=hp 0 zz (Nat.succ_pos i)
   show (if chk x=0 then Fw chk X else chk x)=_
   rw[if_pos h0];exact XX (by simpa using hi) (λ j hj q=>hp (j+1) (by simpa using hj) zy) h
theorem Mj {chk:A6->Int}:∀ {X:List A6},(∀ j (hj:j<X.length),chk X[j]=0)->Fw chk X=0
 | [],_=>rfl
 | x::X,h=>by
   show (if chk x=0 then Fw chk X else chk x)=_
   rw[if_pos (show chk x=0 from h 0 zz)]
   exact Mj λ j hj=>h (j+1) (by simpa using hj)
open Classical in
theorem pM (g:Gr) (p:Aq) (X:List A6) (hg:AG g) (hp:BD g.size p) (hN:g.size<20) (hs:p.seeds.length<=64) (hX:X.length<=1000) (hr:∀ x∈X,Pj x) :
  AK 14 [eG g,eP p,CK X] [] (.tup [AA (Dr (AL (AO g p.lv) p.seeds) (HO g p) X).1,.I (Dr (AL (AO g p.lv) p.seeds) (HO g p) X).2]) []:=by
 refine gW.s.ac ?_;show Ad _ 0 _ _ ⟨77,[(0,eG g),(1,eP p),(2,CK X)],[],16⟩;have a0:=hg.1.1;have a7:=hg.1.2.1;have a8:=hg.edges_le;have a9:=hg.gone_le;have ag:=hp.2.2.2.1;have h6:=L0 g p zy zy zy zy
 rw[if_pos hg,if_pos hp] at h6;have h5:=kM g p hg hN zy
 have h0:=λ x hx=>fT g p x hg hp hN hs (hr x hx);have a1:∀ x,Hg g p x=HO g p x:=λ x=>by unfold HO;rw[if_pos hg,if_pos hp]
 simp only[a1] at h0;obtain⟨o,ho⟩:=AR (AL (AO g p.lv) p.seeds);obtain⟨chk,h3⟩:=AR (HO g p)
 have ai:o.length<=64:=by
  have h1:=I1 (g:=AO g p.lv) (S:=p.seeds) a0;have h2:(AO g p.lv).size=g.size:=rfl;rw[<- ho] at h1;omega
 simp only[Hp] at h5 h0;rw[<- ho] at h5 ⊢;rw[<- h3];simp only[<- ho,<- h3] at h0;obtain⟨lg,ht⟩:=AR (AO g p.lv);obtain⟨cs,hu⟩:=AR (Ao g p);rw[<- ht,<- hu] at h5;simp only[<- ht,<- hu] at h0;refine A2 ⟨77,[(2,CK X),(3,.pv (gC g)),(4,.pv (pC p))],[],100⟩ [] [16,24] ?_;refine AB (arc ⟨77,[(2,CK X),(3,.pv (gC g)),(4,.pv (pC p)),(8,.I 0)],[],200⟩ ?_ ?_)
 .simp
  refine A0 h6 ?_;simp;exact BP [] []
 refine A2 ⟨77,[(2,CK X),(3,.pv (gC g)),(4,.pv (pC p)),(20,.B false)],[],300⟩ [] [] ?_;refine AI _ rfl (λ h=>by cases h) λ _=>?_
 refine AN (arc ⟨77,[(2,CK X),(3,.pv (gC g)),(4,.pv (pC p)),(9,.pv (xC lg p.seeds cs o))],[],400⟩ ?_ ?_)
 .simp
  refine A0 h5 ?_;simp;exact BP [] [324]
 refine AB (arc ⟨77,[(2,CK X),(3,.pv (gC g)),(4,.pv (pC p)),(9,.pv (xC lg p.seeds cs o)),(30,.B (!decide (X.length=o.length)))],[],500⟩ ?_ ?_)
 .simp
  exact AJ [] [] (by simp<;>exact BA (by rw[Qv];simp;omega))
 refine AI _ rfl (λ h=>?_) λ h=>?_
 .simp at h
  have ha:Dr o chk X=([],1):=if_neg λ hh=>h hh.1;rw[ha];refine A2 ⟨77,[(6,.nilS),(7,.I 1)],[],600⟩ [] [] ?_;exact A8 (AW.out [] [] rfl zz zz (by simp;exact DF (.nil _ _) (.refl _)) zz)
 simp at h;refine AN (A2 ⟨77,[(2,CK X),(3,.pv (gC g)),(4,.pv (pC p)),(9,.pv (xC lg p.seeds cs o)),(10,.nilS)],[],600⟩ [] [] ?_);refine AB (A2 ⟨77,[(2,CK X),(3,.pv (gC g)),(4,.pv (pC p)),(9,.pv (xC lg p.seeds cs o)),(10,.nilS),(31,CK X),(32,.I X.length),(33,.I 0)],[],700⟩ [] [] ?_);refine AT ?_
 refine As (ι:=Nat) (λ i=>⟨77,[(2,CK X),(3,.pv (gC g)),(4,.pv (pC p)),(9,.pv (xC lg p.seeds cs o)),(10,.rs 17 0 (Bd (X.take i)).length),(31,CK X),(32,.I X.length),(33,.I i)],[(17,some ⟨1,AE (Bd (X.take i)),0⟩)],700⟩) (λ i=>i<=X.length/\Kx o X i) (λ i=>X.length - i) 0 ⟨Qn _,λ i _ _ hh=>absurd hh (Ut _)⟩
  (Le.lst [] [] [(17,1)] rfl zz zz zz zz zz zz zz (by simp[Up,Bd]) (by simp[Bd])) ?_
 rintro i ⟨hi,hv⟩
 have hy:=oP (X.take i);have an:=UD i X;refine A2 ⟨77,[(2,CK X),(3,.pv (gC g)),(4,.pv (pC p)),(9,.pv (xC lg p.seeds cs o)),(10,.rs 17 0 (Bd (X.take i)).length),(31,CK X),(32,.I X.length),(33,.I i),(34,.B (decide (i<X.length)))],[(17,some ⟨1,AE (Bd (X.take i)),0⟩)],800⟩ [(17,17)] [] ?_;refine AB (AI _ rfl (λ h7=>?_) λ h7=>?_)
 .simp at h7
  have hc:i<o.length:=zy
  have hw:=w6 (x:=((i:Int)+1));have q:=Zj h7;obtain⟨x,hx⟩:=AR (X[i]);have a2:x∈X:=hx ▸ Qj h7;have a3:=hr x a2;have u:X[i]? = some x:=by rw[Qa h7,hx]
  obtain⟨k,hk⟩:=AR (o[i]);have a4:o[i]? = some k:=by rw[Qa hc,hk]
  rw[<- hx] at q;obtain⟨E,hE⟩:=AR (Bd (X.take i));rw[<- hE] at q hy ⊢;have hd:=TO x.before E (by have:=a3.b;omega)
  refine AN (AB (AT (arc ⟨77,[(2,CK X),(3,.pv (gC g)),(4,.pv (pC p)),(9,.pv (xC lg p.seeds cs o)),(10,.rs 17 0 E.length),(31,CK X),(32,.I X.length),(33,.I i),(11,.I i),(12,.pv (xE x))],[(17,some ⟨1,AE E,0⟩)],900⟩ ?_ ?_)))
  .simp [u,h7,<- hx]
   exact CO [(17,17)] [824]
  refine AB (Cd ⟨77,[(2,CK X),(3,.pv (gC g)),(4,.pv (pC p)),(9,.pv (xC lg p.seeds cs o)),(10,.rs 17 0 E.length),(31,CK X),(32,.I X.length),(33,.I i),(12,.pv (xE x)),(52,.B (!decide (x.key=k/\x.before=E)))],[(17,some ⟨1,AE E,0⟩)],1000⟩ ?_ ?_)
  .simp [u,a4,hc,h7,<- hx,<- hk]
   refine Cs (λ hb=>?_) (λ hb=>?_)
   .rw [hb]
    simp at hb;simp;exact⟨rfl,AJ [(17,17)] [] (by simp[hb]) (by simp[AC])⟩
   .rw [hb]
    simp at hb;simp[u,h7,<- hx];refine F6 [17] hd (by simp[AC,B7]) (.sc _) ?_
    simp;exact⟨rfl,AJ [(17,17)] [] (by simp[hb]) (by simp[AC])⟩
  refine AI _ rfl (λ h9=>?_) λ h9=>?_
  .have hl:¬ (x.key=k/\x.before=E):=λ hh=>by rw[Q8 hh] at h9;cases h9
   have ha:Dr o chk X=([],1):=if_neg λ hh=>hl (by have:=hh.2 i h7 hc h7;rw[<- hx,<- hk,<- hE] at this;exact this)
   rw[ha];refine A2 ⟨77,[(6,.nilS),(7,.I 1)],[],1200⟩ [] [] ?_;exact A8 (AW.out [] [] rfl zz zz (by simp;exact DF (.nil _ _) (.refl _)) zz)
  have hl:x.key=k/\x.before=E:=by simpa using h9
  have h8:Kx o X (i+1):=λ j h1 h2 hj=>by
   rcases QI.1 hj with hh | rfl
   .exact hv j h1 h2 hh
   .rw [<- hx,<- hk,<- hE];exact hl
  refine AN (arc ⟨77,[(2,CK X),(3,.pv (gC g)),(4,.pv (pC p)),(9,.pv (xC lg p.seeds cs o)),(10,.rs 17 0 E.length),(31,CK X),(32,.I X.length),(33,.I i),(12,.pv (xE x)),(54,.B x.acc)],[(17,some ⟨1,AE E,0⟩)],1200⟩ ?_ ?_)
  .simp [u,h7,<- hx]
   exact CO [(17,17)] []
  refine AI _ rfl (λ hm=>?_) λ hm=>?_
  .rw [if_pos hm] at q
   refine Al (s:=?s19) rfl ?o19 ?q19
   case o19=>simp[u,h7,<- hx,B7];refine⟨zy,zy,?_⟩;rfl
   refine AY ?_;exact⟨i+1,⟨h7,h8⟩,zy,AJ [(1232,17)] [] (by simp[q,hw]) (by simp[q,AC])⟩
  .rw [if_neg (by rw[hm];decide),Q0] at q
   refine AN (AY ?_);exact⟨i+1,⟨h7,h8⟩,zy,AJ [(17,17)] [] (by simp[q,hw]) (by simp[q,AC])⟩
 simp at h7;obtain rfl:i=X.length:=zy
 rw[QW];have hz:Dr o chk X=if Fw chk X=0 then (Bd X,0) else ([],Fw chk X):=if_pos ⟨h,hv⟩
 refine Ar (hit (AB (arc ⟨77,[(2,CK X),(3,.pv (gC g)),(4,.pv (pC p)),(10,AA (Bd X)),(9,.pv (xC lg p.seeds cs o)),(61,CK X),(62,.I X.length),(63,.I 0)],[],900⟩ ?_ ?_)))
 .simp
  exact AJ [] [17] (by simp[AC,B7])
 refine AT ?_
 refine As (ι:=Nat) (λ i=>⟨77,[(2,CK X),(3,.pv (gC g)),(4,.pv (pC p)),(10,AA (Bd X)),(9,.pv (xC lg p.seeds cs o)),(61,CK X),(62,.I X.length),(63,.I i)],[],900⟩) (λ i=>i<=X.length /\ ∀ j (hj:j<X.length),j<i->chk X[j]=0) (λ i=>X.length - i) 0 ⟨Qn _,λ j _ hh=>absurd hh (Ut _)⟩
  (BP [] []) ?_
 rintro i ⟨hi,hn⟩
 refine A2 ⟨77,[(2,CK X),(3,.pv (gC g)),(4,.pv (pC p)),(10,AA (Bd X)),(9,.pv (xC lg p.seeds cs o)),(61,CK X),(62,.I X.length),(63,.I i),(64,.B (decide (i<X.length)))],[],1000⟩ [] [] ?_;refine AB (AI _ rfl (λ h7=>?_) λ h7=>?_)
 .simp at h7
  have hw:=w6 (x:=((i:Int)+1));have hq:=XX (chk:=chk) h7 hn;have h4:=h0 _ (Qj h7);obtain⟨x,hx⟩:=AR (X[i]);have u:X[i]? = some x:=by rw[Qa h7,hx]
  rw[<- hx] at h4 hq;obtain⟨e,he⟩:=AR (chk x);rw[<- he] at h4 hq;refine AN (AB (AT (arc ⟨77,[(2,CK X),(3,.pv (gC g)),(4,.pv (pC p)),(10,AA (Bd X)),(9,.pv (xC lg p.seeds cs o)),(61,CK X),(62,.I X.length),(63,.I i),(14,.pv (xE x))],[],1100⟩ ?_ ?_)))
  .simp [u,h7,<- hx]
   exact BP [] [1016]
  refine arc ⟨77,[(2,CK X),(3,.pv (gC g)),(4,.pv (pC p)),(10,AA (Bd X)),(9,.pv (xC lg p.seeds cs o)),(61,CK X),(62,.I X.length),(63,.I i),(15,.I e)],[],1200⟩ ?_ ?_
  .simp
   refine A0 h4 ?_;simp;exact BP [] []
  refine arc ⟨77,[(2,CK X),(3,.pv (gC g)),(4,.pv (pC p)),(10,AA (Bd X)),(9,.pv (xC lg p.seeds cs o)),(61,CK X),(62,.I X.length),(63,.I i),(15,.I e),(73,.B (!decide (e=0)))],[],1300⟩ ?_ ?_
  .simp
   exact AJ [] [] (by simp<;>exact BA (by rw[Qv];simp))
  refine AI _ rfl (λ h9=>?_) λ h9=>?_
  .simp at h9
   have hf:=hq h9;have ha:Dr o chk X=([],e):=by rw[hz,if_neg (by rw[hf];exact h9),hf]
   rw[ha];refine A2 ⟨77,[(6,.nilS),(7,.I e)],[],1400⟩ [] [] ?_;exact A8 (AW.out [] [] rfl zz zz (by simp;exact DF (.nil _ _) (.refl _)) zz)
  simp at h9;refine AN (AY ?_);refine⟨i+1,⟨h7,λ j hj a5=>?_⟩,zy,AJ [] [] (by simp[hw])⟩
  rcases QI.1 a5 with hh | rfl
  .exact hn j hj hh
  .rw [<- hx,<- he];exact h9
 simp at h7;have a6:Fw chk X=0:=Mj λ j hj=>hn j hj zy
 have ha:Dr o chk X=(Bd X,0):=by rw[hz,if_pos a6]
 rw[ha];refine Ar (hit (A2 ⟨77,[(6,AA (Bd X)),(7,.I 0)],[],1400⟩ [] [] ?_));exact Bx [] []
structure pS (x:A6) (m:Nat):Prop where
 b:x.before.length<=m
 p:x.paths.length<=m
 w:∀ w∈x.paths,w.length<=m
 s:x.side.length<=m
variable {key:Int} {o:List Int} {x:A6}
variable {g:Gr} {p:Aq}
theorem OR:∀ (b a:List Int),∃ l,AM g p (a++b)=AM g p a++l /\ ∀ x∈l,x∈b
 | [],a=>⟨[],zz,zz⟩
 | x::b,a=>by
   obtain⟨l,hl,hm⟩:=OR b (a++[x]);have e:a++x::b=a++[x]++b:=zz
   rw[e,hl];rcases O1 (g:=g) (p:=p) a x with h | h
   .exact ⟨l,by rw[h],λ y hy=>Qg _ (hm y hy)⟩
   .refine ⟨[x]++l,by rw[h,QG],λ y hy=>?_⟩
    rcases Qo.1 hy with h | h
    .rw [Qt.1 h];exact Qi
    .exact Qg _ (hm y h)
theorem Ln (hn:o.Nodup) {i:Nat} (h:i<o.length):o[i]∈AM g p o↔Ba g p (Am (AM g p (o.take i)++[o[i]])):=by
 have hs:o.take (i+1)=o.take i++[o[i]]:=Ql h;obtain⟨l,hl,hm⟩:=OR (g:=g) (p:=p) (o.drop (i+1)) (o.take (i+1));rw[UK] at hl
 have q:o[i]∉o.take i:=λ hx=>by
  obtain⟨j,hj,e⟩:=List.mem_take_iff_getElem.1 hx;have:=(List.getElem_inj hn).1 e;omega
 have u:o[i]∉o.drop (i+1):=λ hx=>by
  obtain⟨j,hj,e⟩:=List.mem_drop_iff_getElem.1 hx;have:=(List.getElem_inj hn).1 e;omega
 constructor
 .intro hx
  by_cases hc:Ba g p (Am (AM g p (o.take i)++[o[i]]))
  .exact hc
  .rw [hl,hs,H8 hc] at hx
   rcases Qo.1 hx with h1 | h1
   .exact absurd (Ig h1) q
   .exact absurd (hm _ h1) u
 .intro hc
  rw[hl,hs,GV hc];exact QZ _ (UL _ (Qt.2 rfl))
theorem Rh {o:List Int} (hn:o.Nodup):∀ i,i<=o.length->BR o (AM g p o) i=AM g p (o.take i)
 | 0,_=>by simp[BR,MK]
 | i+1,h=>by
   have hi:i<o.length:=h;rw[Zh hi,Rh hn i zy,Ql hi]
   by_cases hc:Ba g p (Am (AM g p (o.take i)++[o[i]]))
   .rw [if_pos ((Ln hn hi).2 hc),GV hc]
   .rw [if_neg (λ h=>hc ((Ln hn hi).1 h)),H8 hc,Q0]
theorem OG {l:List Int} (h:l.Pairwise (· < ·)):l.Nodup:=h.imp λ h=>zy
theorem LZ {a:List Int} (hn:a.Nodup) (hr:∀ k∈a,0<=k/\k<64):a.Perm (Am a):=by
 rw[<- JM hn hr];exact(I3 a).symm
theorem LB {a:List Int} (hn:a.Nodup) (hr:∀ k∈a,0<=k/\k<64):(Am a).length=a.length:=(LZ hn hr).length_eq.symm
structure L8 (g:Gr) (p:Aq) (key:Int) (before:List Int):Prop where
 mem:key∈AL (AO g p.lv) p.seeds
 bef:EM (AL (AO g p.lv) p.seeds) before key
 nodup:(before++[key]).Nodup
 range:∀ k∈before++[key],0<=k/\k<g.size
 serve:key∈AM g p (AL (AO g p.lv) p.seeds)↔Ba g p (Am (before++[key]))
theorem j7 (hn:o.Nodup) {i:Nat} (h:i<o.length):F1 o o[i]=o.take i:=by
 unfold F1;rw[List.takeWhile_eq_take_findIdx_not]
 congr 1
 rw[List.findIdx_eq h];refine⟨zz,λ j hj=>?_⟩
 have:o[j]≠o[i]:=λ e=>by have:=(List.getElem_inj hn).1 e;omega
 simp[this]
theorem CE.at_ (h:CE g p (AL (AO g p.lv) p.seeds) key x) (hg:AG g):x.key=key/\L8 g p key x.before /\ ∃ i,∃ hi:i<(AL (AO g p.lv) p.seeds).length,(AL (AO g p.lv) p.seeds)[i]=key/\x.before=AM g p ((AL (AO g p.lv) p.seeds).take i):=by
 have hn:=GJ (AO g p.lv) p.seeds;have hr:∀ k∈AL (AO g p.lv) p.seeds,0<=k/\k<g.size:=λ k hk=>by have h:=HN hk;exact h
 obtain⟨o,ho⟩:=AR (AL (AO g p.lv) p.seeds);rw[<- ho] at h hn hr ⊢;obtain⟨i,hi,hk,hb⟩:=h.bef;rw[Rh hn i zy] at hb
 refine⟨h.key_,?_,i,hi,hk,hb⟩
 have q:x.before.Sublist (F1 o key):=by
  rw[hb,<- hk,j7 hn hi];exact Gz _ _ rfl
 refine⟨by rw[<- ho,<- hk];exact Qj hi,by rw[<- ho];exact q,EM.nodup (order:=o) q hn,λ k u=>?_,?_⟩
 .rcases Qo.1 u with h1 | h1
  .refine hr k ?_
   rw[hb] at h1;exact QR (Ig h1)
  .rw [Qt.1 h1,<- hk];exact hr _ (Qj hi)
 .rw [<- ho,hb,<- hk]
  exact Ln hn hi
theorem L8.joined {before:List Int} (h:L8 g p key before) (hg:AG g):(Am (before++[key])).Nodup/\(before++[key]).Perm (Am (before++[key]))/\(∀ x∈Am (before++[key]),0<=x/\x<g.size):=by
 have h64:=hg.1.2.1;have hr:∀ k∈before++[key],0<=k/\k<64:=λ k hk=>⟨(h.range k hk).1,by have:=(h.range k hk).2;omega⟩
 exact⟨OG (K6 _),LZ h.nodup hr,λ x hx=>h.range x (Ip.1 hx).1⟩
theorem kP {before:List Int} {W:List (List Nat)} (hg:AG g) (hp:BD g.size p) (ha:L8 g p key before) (hc:Ba g p (Am (before++[key]))) (hW:LS g p (before++[key]) W) :
  Jv g p.lv p.seeds (AL (AO g p.lv) p.seeds) (Ao g p) (W.map (B5 (Ah g p (Am (before++[key]))))) (before++[key]):=by
 obtain⟨f,g',q,ht,hl,_⟩:=hW;obtain⟨j1,j2,j3⟩:=ha.joined hg;refine pO hg hp j1 (λ x hx=>(j3 x hx).1) j2 q.ok.fit ht.ways (λ i _=>?_) ?_
 .have h1:=ht.used i
  have h2:=ht.bal.nonneg i;omega
 .have:CN (A1 g) (Ah g p (Am (before++[key])))=(Am (before++[key])).length:=hc
  omega
theorem CE.yes_serves (h:CE g p (AL (AO g p.lv) p.seeds) key x) (hg:AG g) (hp:BD g.size p) (hk:key∈AM g p (AL (AO g p.lv) p.seeds)) :
  Jv g p.lv p.seeds (AL (AO g p.lv) p.seeds) (Ao g p) x.paths (x.before++[key]):=by
 obtain⟨_,ha,_⟩:=h.at_ hg;obtain⟨_,_,W,hW,q⟩:=h.yes hk;rw[q];exact kP hg hp ha (ha.serve.1 hk) hW
theorem CE.no_proves (h:CE g p (AL (AO g p.lv) p.seeds) key x) (hg:AG g) (hp:BD g.size p) (hk:key∉AM g p (AL (AO g p.lv) p.seeds)) :
  GI ⟨2+2*g.size,Cv g p (Ao g p) (Am (x.before++[key]))⟩ x.side x.before.length:=by
 obtain⟨_,ha,i,hi,h2,h3⟩:=h.at_ hg;obtain⟨_,_,R,hR,hs⟩:=h.no hk;obtain⟨i',hi',q,hn⟩:=hR.right _ hs;simp only at q hn;have h4:i'=i:=(List.getElem_inj (GJ (AO g p.lv) p.seeds)).1 (q.trans h2.symm);subst h4;rw[<- h3] at hn;obtain⟨j1,j2,j3⟩:=ha.joined hg;have h5:=IW hg hp j3;have h6:CN (A1 g) (Ah g p (Am (x.before++[key])))≠(Am (x.before++[key])).length:=hn.no;have u:=j2.length_eq;rw[Qm,QT] at u;have h0:=hn.cut;have h1:=hn.ok;rw[LY hg] at h1;exact⟨h1,by rw[h0];omega⟩
theorem CE.checked (h:CE g p (AL (AO g p.lv) p.seeds) key x) (hg:AG g) (hp:BD g.size p):Hg g p x=0:=by
 rw[i3 hg.1.2.1];obtain⟨hk,ha,_⟩:=h.at_ hg;unfold M7;simp only;rw[hk,if_neg (by simpa using ha.mem)]
 by_cases q:key∈AM g p (AL (AO g p.lv) p.seeds)
 .obtain ⟨h1,h2,_⟩:=h.yes q
  rw[if_neg (by rw[h1,h2];simpa using ha.bef),if_pos h1,if_pos (h.yes_serves hg hp q)]
 .obtain ⟨h1,h2,_⟩:=h.no q
  rw[if_neg (by rw[h1,h2];simpa using ha.bef),if_neg (by rw[h1];simp),if_pos (h.no_proves hg hp q)]
theorem CE.bounds (h:CE g p (AL (AO g p.lv) p.seeds) key x) (hg:AG g) (hp:BD g.size p):pS x 200:=by
 have h7:(AL (AO g p.lv) p.seeds).length<=64:=by
  have h1:=I1 (g:=AO g p.lv) (S:=p.seeds) hg.1.1;have h2:(AO g p.lv).size=g.size:=rfl;have h3:=hg.1.2.1;omega
 obtain⟨_,ha,i,hi,h8,h4⟩:=h.at_ hg;obtain⟨j1,j2,j3⟩:=ha.joined hg
 have h9:x.before.length<=64:=by
  rw[h4];refine QF (Jl _) ?_;rw[QU];omega
 by_cases q:key∈AM g p (AL (AO g p.lv) p.seeds)
 .obtain ⟨_,h2,W,⟨f,g',_,_,hl,hw⟩,u⟩:=h.yes q
  have h5:=IW hg hp j3;have hb:=Hj (x.before++[key]);refine⟨zy,by rw[u,QB];omega,λ w h0=>?_,by rw[h2];simp⟩
  rw[u] at h0;obtain⟨v,hv,rfl⟩:=Qh.1 h0;have:=gA (Ah g p (Am (x.before++[key]))) v;have:=hw v hv;omega
 .obtain ⟨_,h2,R,hR,hs⟩:=h.no q
  obtain⟨i',hi',h6,hn⟩:=hR.right _ hs;have:=hn.len;simp only at this;refine⟨zy,by rw[h2];simp,λ w hw=>?_,zy⟩
  rw[h2] at hw
  cases hw
def BN (A:List Ed) (f:List Int) (i:Nat) (x:Int):Int:=- Df A f i x
variable {N:Nat} {A:List Ed} {f:List Int}
theorem oQ (hl:f.length=A.length) (x:Int):BN A f A.length x=B2 A f x:=by
 unfold BN;rw[qN hl];omega
theorem RE (hn:C9 ⟨N,A⟩) (h0:f.length=A.length) (h6:∀ j (h:j<f.length),0<=f[j]/\f[j]<=1048576):AK 119 [eN ⟨N,A⟩,AA f] [] (.rs 0 0 N) [some ⟨1,AE (BK N (B2 A f)),0⟩]:=by
 refine vJ.s.ai ?_;obtain⟨hk,hl,hm,h7⟩:=hn;simp only at hk hl hm h7;have ho:=Vz h0 h6;refine rs [1,2] [] [16] ?_;refine arc ⟨43,[(1,AA f),(2,.pv (nC ⟨N,A⟩)),(5,.rs 48 0 N)],[(48,some ⟨1,AE (BK N (BN A f 0)),0⟩)],64⟩ ?_ ?_
 .simp
  refine⟨zy,zy,?_⟩
  have:BK N (BN A f 0)=List.replicate N 0:=by
   unfold BK BN;simp only[RA];simp[List.map_const']
  rw[this];exact BP [(48,48)] []
 refine AB (A2 ⟨43,[(1,AA f),(5,.rs 48 0 N),(12,BO A),(13,.I A.length),(14,.I 0)],[(48,some ⟨1,AE (BK N (BN A f 0)),0⟩)],96⟩ [(48,48)] [] ?_);refine AT (As (ι:=Nat) (λ i=>⟨43,[(1,AA f),(5,.rs 48 0 N),(12,BO A),(13,.I A.length),(14,.I i)],[(48,some ⟨1,AE (BK N (BN A f i)),0⟩)],96⟩) (λ i=>i<=A.length) (λ i=>A.length - i) 0 (Qn _) (CO [(48,48)] []) ?_);intro i hi;refine A2 ⟨43,[(1,AA f),(5,.rs 48 0 N),(12,BO A),(13,.I A.length),(14,.I i),(15,.B (decide (i<A.length)))],[(48,some ⟨1,AE (BK N (BN A f i)),0⟩)],104⟩ [(48,48)] [] ?_;refine AB (AI _ rfl (λ h5=>?_) λ h5=>?_)
 .simp at h5
  have h8:i<f.length:=zy
  have hq:=w6 (x:=((i:Int)+1));obtain⟨b1,b3⟩:=h6 i h8;have h9:=h7 _ (Qj h5);have u:=ZB h5 h8;have ha:=λ x=>ho x i zy
  obtain⟨e,he⟩:=AR (A[i]);obtain⟨w,hw⟩:=AR (f[i]);rw[<- he,<- hw] at u;rw[<- hw] at b1 b3;rw[<- he] at h9;obtain⟨e1,e2,e3,e4,e5,_⟩:=h9;have hu:A[i]? = some e:=by rw[Qa h5,he]
  have hv:f[i]? = some w:=by rw[Qa h8,hw]
  have hb:e.f<(N:Int)/\e.t<(N:Int):=zy
  have h1:=ha e.f;have h2:=ha e.t;have hr:IntKind.i64.wrap (BN A f i e.f+w)=BN A f i e.f+w:=Ih (by unfold BN;omega) (by unfold BN;omega)
  have hs:IntKind.i64.wrap (BN A f i e.t - w)=BN A f i e.t - w:=Ih (by unfold BN;omega) (by unfold BN;omega)
  have ht:=J5 (N:=N) (g:=BN A f i) (x:=e.f) e1 zy
  have hc:=VG (N:=N) (g:=BN A f i) (x:=e.f) (v:=BN A f i e.f+w) e1 zy
  obtain⟨g1,q⟩:∃ g1:Int->Int,g1=λ y=>if y=e.f then BN A f i e.f+w else BN A f i y:=⟨_,rfl⟩
  rw[<- q] at hc;have hd:g1 e.t=BN A f i e.t:=by rw[q];exact if_neg λ h=>e5 h.symm
  have hf:=J5 (N:=N) (g:=g1) (x:=e.t) e3 zy
  rw[hd] at hf;have hg:=VG (N:=N) (g:=g1) (x:=e.t) (v:=BN A f i e.t - w) e3 zy
  have hh:(BK N λ y=>if y=e.t then BN A f i e.t - w else g1 y)=BK N (BN A f (i+1)):=X7 λ x=>by
   unfold BN at q ⊢;rw[u,q];simp only
   by_cases h3:x=e.t
   .rw [h3,if_pos rfl,if_pos rfl,if_neg e5]
    omega
   .by_cases h4:x=e.f
    .rw [if_neg h3,if_pos h4,if_neg λ h=>h3 h.symm,if_pos h4.symm,h4]
     omega
    .rw [if_neg h3,if_neg h4,if_neg λ h=>h3 h.symm,if_neg λ h=>h4 h.symm]
     omega
  rw[hh] at hg;refine AN (AB (AT (arc ⟨43,[(1,AA f),(5,.rs 48 0 N),(6,.I i),(7,.pv (eC e)),(12,BO A),(13,.I A.length),(14,.I i)],[(48,some ⟨1,AE (BK N (BN A f i)),0⟩)],152⟩ ?_ ?_)))
  .simp [h5,<- he]
   exact CO [(48,48)] [128]
  refine Cd ⟨43,[(1,AA f),(5,.rs 48 0 N),(6,.I i),(7,.pv (eC e)),(12,BO A),(13,.I A.length),(14,.I i)],[(48,some ⟨1,AE (BK N g1),0⟩)],400⟩ ?_ ?_
  .simp [h8,<- hw,ht,e1,hb,hr,Ax]
   exact⟨rfl,AJ [(48,48)] [] zz (by simp[AC,<- hc])⟩
  refine ET rfl ?_;simp[h8,<- hw,hf,e3,hb,hs,Ax];refine⟨rfl,?_⟩;refine Ap rfl ?_;simp;exact⟨i+1,zy,zy,AJ [(48,48)] [] (by simp[hq]) (by simp[AC,<- hg])⟩
 simp at h5;obtain rfl:i=A.length:=zy
 refine Ar (hit ?_);have hj:BK N (BN A f A.length)=BK N (B2 A f):=X7 λ x=>oQ h0 x;rw[hj];refine A2 ⟨43,[(4,.rs 48 0 N)],[(48,some ⟨1,AE (BK N (B2 A f)),0⟩)],200⟩ [(48,48)] [] ?_;exact Bx [48] []
def KQ (A:List Ed) (f:List Int) (i:Nat):Prop:=0<=f.getD i 0/\f.getD i 0<=(AH A i).v
theorem Ov:BL N A f↔f.length=A.length/\(∀ i,i<A.length->KQ A f i) /\ ∀ x:Nat,2<=x->x<N->B2 A f x=0:=by
 constructor
 .intro h
  have h1:=GX.1 h.fit;exact⟨h1.1,h1.2,λ x h2 h3=>by have:=h.bal x h2 h3;unfold B2;omega⟩
 .rintro ⟨h1,h2,h3⟩
  exact⟨GX.2 ⟨h1,h2⟩,λ x h4 h5=>by have:=h3 x h4 h5;unfold B2 at this;omega⟩
theorem mA (g:Int->Int) (N:Nat):((BK N g).drop 2).any (λ x=>!decide (x=0))=true↔¬ ∀ x:Nat,2<=x->x<N->g x=0:=by
 rw[UB];constructor
 .rintro ⟨y,hy,h⟩ q
  obtain⟨j,hj,rfl⟩:=QA.1 hy;rw[UH,Hx] at hj;have:=q (2+j) zy zy
  simp[BK] at h;exact h (by simpa using this)
 .intro h
  obtain⟨x,hx⟩:=Classical.not_forall.1 h;obtain⟨h1,hx⟩:=Classical.not_imp.1 hx;obtain⟨h2,hx⟩:=Classical.not_imp.1 hx;refine⟨g x,QA.2 ⟨x - 2,by rw[UH,Hx];omega,?_⟩,by simpa using hx⟩
  simp[BK,show 2+(x - 2)=x by omega]
theorem qD (x:Int):AK 160 [.I x] [] (.B (!decide (x=0))) []:=by
 refine iL.s.ai ?_;refine rs [0] [] [] ?_;refine arc ⟨5,[(2,.B (!decide (x=0)))],[],100⟩ ?_ ?_
 .simp
  exact AJ [] [] (by simp<;>exact BA (by rw[Qv];simp))
 exact Ca
open Classical in
theorem Pr (hn:C9 ⟨N,A⟩) (hl:f.length<=1099511627776):AK 118 [eN ⟨N,A⟩,AA f] [] (.B (decide (BL N A f))) []:=by
 refine cX.s.ai ?_;have h0:=K7 ⟨N,A⟩ (by have:=hn.2.2.1;simp only at this ⊢;omega)
 rw[if_pos hn] at h0;have hd:=hn;obtain⟨hf,hg,hh,h8⟩:=hn;simp only at hf hg hh h8;refine rs [1,2] [] [16] ?_;refine AB (arc ⟨41,[(1,AA f),(2,.pv (nC ⟨N,A⟩)),(17,.B (!decide (f.length=A.length)))],[],120⟩ ?_ ?_)
 .simp
  refine A0 h0 ?_;simp;exact AJ [] [] (by simp<;>exact BA (by rw[Qv];simp<;>omega))
 refine AI _ rfl (λ h3=>?_) λ h3=>?_
 .simp at h3
  refine rs [4] [] [] ?_;refine A9 ?_;have h5:¬ BL N A f:=λ h=>h3 (Ov.1 h).1;exact⟨.inr rfl,AW.one (by simp[h5])⟩
 simp at h3;refine AN (AB (rs [1,2,19,20,21] [] [] ?_));refine AT (As (ι:=Nat) (λ i=>⟨41,[(1,AA f),(2,.pv (nC ⟨N,A⟩)),(19,BO A),(20,.I A.length),(21,.I i)],[],152⟩) (λ i=>i<=A.length /\ ∀ k,k<i->KQ A f k) (λ i=>A.length - i) 0 zz (BP [] []) ?_)
 rintro i ⟨hi,hp⟩
 refine rs [1,2,19,20,21,22] [] [] ?_;refine AB (AI _ rfl (λ h7=>?_) λ h7=>?_)
 .simp at h7
  have hm:=w6 (x:=((i:Int)+1));have h9:i<f.length:=zy
  obtain⟨e,he⟩:=AR (A[i]);obtain⟨w,hw⟩:=AR (f[i])
  have ha:KQ A f i↔0<=w/\w<=e.v:=by
   unfold KQ AH;rw[Qe,Qa h9,QO,Qe,Qa h7,QO,he,hw]
  refine AN (AB (AT ?_));apply ax [1,2,5,6,19,20,21] [] [184] 300
  .simp [h7,<- he]
   rfl
  refine Cd ⟨41,[(1,AA f),(2,.pv (nC ⟨N,A⟩)),(19,BO A),(20,.I A.length),(21,.I i),(33,.B (!decide (0<=w/\w<=e.v)))],[],400⟩ ?_ ?_
  .simp [h9,<- hw]
   refine A0 (GF w 0 e.v) ?_;simp;exact⟨rfl,AJ [] [] (by simp<;>exact BA (by rw[Qv];simp))⟩
  refine AI _ rfl (λ h6=>?_) λ h6=>?_
  .have q:¬ (0<=w/\w<=e.v):=by simp at h6;omega
   refine rs [4] [] [] ?_;refine A9 ?_;have h5:¬ BL N A f:=λ h=>q (ha.1 ((Ov.1 h).2.1 i h7));exact⟨.inr rfl,AW.one (by simp[h5])⟩
  have q:0<=w/\w<=e.v:=by simpa using h6
  refine AN (Ap rfl ?_);simp;refine⟨i+1,⟨zy,λ k hk=>?_⟩,zy,AJ [] [] (by simp[hm])⟩
  rcases QI.1 hk with h | h
  .exact hp k h
  .rw [h];exact ha.2 q
 simp at h7;obtain rfl:i=A.length:=zy
 have ho:∀ j (h:j<f.length),0<=f[j]/\f[j]<=1048576:=λ j hj=>by
  have h1:=hp j zy
  unfold KQ at h1;have e1:f.getD j 0=f[j]:=by rw[Qe,Qa hj,QO]
  have e2:AH A j=A[j]' zy:=by unfold AH;rw[Qe,Qa zy,QO]
  rw[e1,e2] at h1;have h2:=(h8 _ (Qj (show j<A.length by omega))).2.2.2.2.2.2.2.2
  omega
 refine Ar (hit ?_);have h4:=RE hd h3 ho;have hcf:=rU 160 [] (λ x=>!decide (x=0)) ((BK N (B2 A f)).drop 2) (by rw[UH,Hx];omega) (λ ρ sn h k=>zz) (λ e _=>qD e)
 have u:BL N A f↔((BK N (B2 A f)).drop 2).any (λ x=>!decide (x=0))=false:=by
  rw[<- Bool.not_eq_true,mA,Classical.not_not,Ov];exact⟨λ h=>h.2.2,λ h=>⟨h3,hp,h⟩⟩
 obtain⟨l,hc⟩:=AR (BK N (B2 A f));have hq:l.length=N:=by rw[hc,Hx]
 rw[<- hc] at h4 hcf u;obtain⟨b,hb⟩:=AR ((l.drop 2).any (λ x=>!decide (x=0)));rw[<- hb] at hcf u;apply ax [4] [] [] 300
 .simp
  refine Ct h4 ?_;simp;refine XT 2 (i:=176) rfl rfl zy ?_
  simp;have hr:2+(N - 2)<=N:=zy
  refine F6 [176] hcf (by simp[AC,hq,hr];exact Qb zw) (.sc _) ?_
  simp;rfl
 exact A8 (AW.one (by simp[u]))
open Classical in
theorem Ty (hn:C9 ⟨N,A⟩) (hl:f.length<=1099511627776):AK 74 [eN ⟨N,A⟩,AA f] [] (.I (if BL N A f then Aa A f else 0)) []:=by
 refine gN.s.ai ?_;have h4:=Pr hn hl;refine rs [1,2] [] [16] ?_;refine AB (rx (s:=?s2) [1,2,8] [] [] rfl ?o2 ?q2)
 case o2=>simp;refine A4 h4 zz ?_;simp;rfl
 refine AI _ rfl (λ h3=>?_) λ h3=>?_
 .simp at h3
  refine rs [4] [] [] ?_;exact A8 (AW.one (by simp[h3]))
 simp at h3;have u:=GX.1 h3.fit;have h0:=hn.2.2.2;simp only at h0
 have h5:∀ j (h:j<f.length),0<=f[j]/\f[j]<=1048576:=λ j hj=>by
  have h1:=u.2 j zy
  have e1:f.getD j 0=f[j]:=by rw[Qe,Qa hj,QO]
  have e2:AH A j=A[j]' zy:=by unfold AH;rw[Qe,Qa zy,QO]
  rw[e1,e2] at h1;have h2:=(h0 _ (Qj (show j<A.length by omega))).2.2.2.2.2.2.2.2
  omega
 have q:=RE hn u.1 h5;have hv:=XQ (f:=f) (H4 hn);have h6:=hn.1;simp only at h6;have hr:=J5 (N:=N) (g:=B2 A f) (x:=0) (Uw _) zy
 rw[hv] at hr;obtain⟨l,h7⟩:=AR (BK N (B2 A f));rw[<- h7] at q hr;simp only[Int.toNat_zero] at hr;refine AN (arc ⟨14,[(4,.I (Aa A f))],[],300⟩ ?_ ?_)
 .simp
  refine Ct q ?_;have h8:0<(N:Int):=zy
  simp[hr,h8];exact⟨zy,BP [] []⟩
 exact A8 (AW.one (by simp[h3]))
theorem Vy {N:Nat} {A:List Ed} (hn:C9 ⟨N,A⟩):Fx ⟨N,A⟩ (Di N A)/\Bj A (Di N A)=CN N A:=by
 have q:=H4 hn;obtain⟨f,hf,hm⟩:=Kt q;obtain⟨D,b,hb,hc⟩:=C1.grow q N [0] _ (C1.start (f:=f) (by have:=q.two;omega)) zy
 have h1:=Ny q hf hm hb;have h0:=Hk hf hm;have he:DP D N=Di N A:=Zx q hf hm hb.tree hb.mem0 h1 hc;have h2:=(Lu q hf hb.mem0 h1 hc).1
 have u:∀ x,x∈DP D N↔x∈D:=λ x=>by
  rw[Sp];exact⟨λ h=>h.2,λ h=>⟨hb.rng x h,h⟩⟩
 rw[<- he];refine⟨⟨hn,V3 (rD D N) λ k hk=>by have:=(Sp.1 hk).1;simp only;omega,(u 0).2 hb.mem0,λ h=>h1 ((u 1).1 h)⟩,?_⟩
 rw[Wq,h0,h2]
 congr 1
 funext x
 exact decide_eq_decide.2 (u x)
section
variable {g:Gr} {p:Aq}
theorem MI:∀ {o b a:List Int} {R:List (Int × List Int)} {k:Int},De o a (H9 R)=true->k∉o->FC g p b o a R->FC g p b (o++[k]) (a++[k]) R
 | [],b,a,R,k,h,_,_=>by
   simp[De,H9] at h;obtain⟨rfl,rfl⟩:=h;simp[FC]
 | x::o,b,a,R,k,h,hk,hc=>by
   have u:k≠x:=λ e=>hk (by simp[e])
   have q:k∉o:=λ e=>hk (Qg _ e);simp only[De] at h;simp only[FC] at hc;simp only[Q6,FC];split at h
   .rename_i h1
    rw[if_pos h1] at hc
    cases a with
    | nil=>cases h1
    | cons y a =>
      have:y=x:=by simpa using h1
      subst this
      simpa using MI h q hc
   .rename_i h1
    rw[if_neg h1] at hc
    have h3:(a++[k]).head? ≠ some x:=by
     cases a with
     | nil=>simpa using u
     | cons y a=>simpa using h1
    rw[if_neg h3];split at h
    .cases R with
     | nil=>trivial
     | cons r R=>exact⟨hc.1,MI h q hc.2⟩
    .cases h
theorem PO:∀ {o b a:List Int} {R:List (Int × List Int)} {r:Int × List Int},De o a (H9 R)=true->r.1∉o->Om g p (b++a) r->FC g p b o a R->FC g p b (o++[r.1]) a (R++[r])
 | [],b,a,R,r,h,_,hr,_=>by
   simp[De,H9] at h;obtain⟨rfl,rfl⟩:=h;rw[Q0] at hr;simp[FC,hr]
 | x::o,b,a,R,r,h,hk,hr,hc=>by
   have u:r.1∉o:=λ e=>hk (Qg _ e);simp only[De] at h;simp only[FC] at hc;simp only[Q6,FC];split at h
   .rename_i h1
    rw[if_pos h1] at hc;rw[if_pos h1]
    cases a with
    | nil=>cases h1
    | cons y a =>
      have:y=x:=by simpa using h1
      subst this;exact PO h u (by simpa using hr) hc
   .rename_i h1
    rw[if_neg h1] at hc;rw[if_neg h1];split at h
    .rename_i h2
     cases R with
     | nil=>cases h2
     | cons q R=>exact⟨hc.1,PO h u hr hc.2⟩
    .cases h
theorem Vq (hg:AG g) (hp:BD g.size p) {a:List Int} (h:∀ x∈a,x∈AL (AO g p.lv) p.seeds):Cj g p a:=by
 refine⟨λ x hx=>?_,λ x hx=>?_⟩
 .have h2:=HN (h x hx)
  exact h2
 .have h2:=(Nq (hg.level p.lv)).1 (h x hx)
  exact(Ng hp h2.1.1).2 ⟨h2.1.2,h2.2⟩
theorem Cj.join {a:List Int} (h:Cj g p a):Cj g p (Am a):=h.sub λ _ hx=>(Ip.1 hx).1
theorem Tj (hg:AG g) (hp:BD g.size p) (hs:p.seeds.length<=64):∀ (n:Nat) (o:List Int),o.length=n->o.Nodup->Cj g p o ->
  Ba g p (Am (AM g p o))/\De o (AM g p o) (H9 (Bc g p o))=true/\FC g p [] o (AM g p o) (Bc g p o)
 | 0,o,h,_,_=>by
   obtain rfl:=QK h;exact⟨Ba.nil hg hp,rfl,trivial⟩
 | n+1,o,h,h3,h4=>by
   have h5:o≠[]:=λ e=>by rw[e] at h;cases h
   obtain⟨q,hq⟩:=AR (o.dropLast);obtain⟨k,hk⟩:=AR (o.getLast h5);have ho:o=q++[k]:=by rw[hq,hk];exact(U1 h5).symm
   have hd:q.length=n:=by rw[hq,Ve,h];rfl
   rw[ho] at h3 h4 ⊢;have h6:q.Nodup:=(Uj.1 h3).1;have u:k∉q:=λ hm=>(Uj.1 h3).2.2 k hm k zz rfl
   have h7:Cj g p q:=h4.sub λ x hx=>QZ _ hx;obtain⟨ih1,ih2,ih3⟩:=Tj hg hp hs n q hd h6 h7
   by_cases hc:Ba g p (Am (AM g p q++[k]))
   .rw [GV hc,JN hc]
    exact⟨hc,Oo ih2 u,MI ih2 u ih3⟩
   .rw [H8 hc,Ka hc]
    have hi:=hg.1.2.1
    have h0:∀ x∈AM g p q++[k],0<=x/\x<g.size:=λ x hx=>h4.rng x (by
     rcases Qo.1 hx with h2 | h2
     .exact QZ _ (Ig h2)
     .exact UL _ h2)
    have he:(AM g p q++[k]).Nodup:=Uj.2 ⟨h6.sublist (Gz _ _ rfl),zz,λ a ha b hb=>by
     rw[Qt] at hb;subst hb
     rintro rfl
     exact u (Ig ha)⟩
    have hf:=LB he λ x hx=>by have:=h0 x hx;omega
    have hh:=MB hg hp (L9 (Hc h0)) hs (Hj (AM g p q++[k]));have h1:=Vy hh;have h8:=IW (p:=p) (ks:=Am (AM g p q++[k])) hg hp (L9 (Hc h0))
    have h9:Om g p (AM g p q) (k,Di (A1 g) (Ah g p (Am (AM g p q++[k])))):=by
     refine⟨h1.1,?_⟩;simp only;rw[h1.2];have:CN (A1 g) (Ah g p (Am (AM g p q++[k])))≠(Am (AM g p q++[k])).length:=hc;rw[hf,Qm,QT] at this h8;omega
    refine⟨ih1,?_,?_⟩
    .have:=Pb (r:=H9 (Bc g p q)) ih2 u
     simpa [H9] using this
    .exact PO (r:=(k,Di (A1 g) (Ah g p (Am (AM g p q++[k]))))) ih2 u (by rw[Uu];exact h9) ih3
theorem mI (hg:AG g) (hp:BD g.size p):Cj g p (AL (AO g p.lv) p.seeds):=Vq hg hp λ _ h=>h
end
variable {E:Nat->List (List AV)} {L:List Nat} {N a j k m np o s:Nat} {st st':St} {α:Type}
def EI (s N:Nat) (E:Nat->List (List AV)):List (Nat × Option AD):=(List.range N).map λ k=>(k+1000,some ⟨s,E k,0⟩)
def DX (E:Nat->List (List AV)) (k:Nat):AV:=.rs (k+1000) 0 (E k).length
def Bi (N:Nat) (E:Nat->List (List AV)):List (List AV):=(List.range N).map λ k=>[DX E k]
theorem JQ (N:Nat) (E:Nat->List (List AV)):(Bi N E).length=N:=by simp[Bi]
theorem Kd (h:k<N):(Bi N E)[k]? = some [DX E k]:=by simp[Bi,h]
@[simp] theorem zU (h:k<(Bi N E).length):(Bi N E)[k]=[DX E k]:=by simp[Bi]
theorem I9 {α β:Type} {f:α->β} (hf:∀ i j,f i=f j->i=j):∀ {l:List α},l.Nodup->(l.map f).Nodup
 | [],_=>List.nodup_nil
 | x::l,h=>by
   rw[Q1] at h;rw[Qp,Q1];refine⟨λ hx=>?_,I9 hf h.2⟩;obtain⟨y,hy,e⟩:=Qh.1 hx;exact h.1 (hf _ _ e ▸ hy)
theorem L3 (f:Nat->Nat) (hf:∀ i j,f i=f j->i=j) (g:Nat->α) (l:List Nat) (k:Nat):AQ (l.map λ k=>(f k,g k)) (f k)=if k∈l then some (g k) else none:=by
 induction l with
 | nil=>simp
 | cons i l ih =>
   simp only[Qp,AQ]
   by_cases h:i=k
   .subst h;simp
   .have h1:f i≠f k:=λ e=>h (hf _ _ e)
    have h2:¬ k=i:=λ e=>h e.symm;simp[h1,ih,h2]
theorem lB (f:Nat->Nat) (g:Nat->α) (l:List Nat) (j:Nat) (h:∀ k∈l,f k≠j):AQ (l.map λ k=>(f k,g k)) j=none:=by
 induction l with
 | nil=>simp
 | cons i l ih =>
   simp only[Qp,AQ];rw[if_neg (h i zz),ih λ k hk=>h k (by simp[hk])]
theorem iE {r:List (Nat × Option AD)} (h:k<N):AQ (EI s N E++r) (k+1000)=some (some ⟨s,E k,0⟩):=by
 rw[JD,EI,L3 (λ k=>k+1000) (λ i j h=>by simpa using h)]
 simp[h]
theorem Vp {r:List (Nat × Option AD)} (h:j<1000∨1000+N<=j):AQ (EI s N E++r) j=AQ r j:=by
 rw[JD,EI,lB (λ k=>k+1000) _ _ _ (λ k hk e=>by have:=QP.1 hk;omega)]
 simp
section
variable {sz n s N:Nat} {t:List (Nat × AV)} {E:Nat->List (List AV)} {r:List (Nat × Option AD)}
theorem kV (h:k<N):(⟨sz,t,EI s N E++r,n⟩:St).hp (k+1000)=some ⟨s,E k,0⟩:=by
 show (AQ _ _).getD none=_;rw[iE h];rfl
theorem KY (h:j<1000):(⟨sz,t,EI s N E++r,n⟩:St).hp j=(⟨sz,t,r,n⟩:St).hp j:=by
 show (AQ _ _).getD none=(AQ _ _).getD none;rw[Vp (.inl h)]
theorem jK (h:1000+N<=j):(⟨sz,t,EI s N E++r,n⟩:St).hp j=(⟨sz,t,r,n⟩:St).hp j:=by
 show (AQ _ _).getD none=(AQ _ _).getD none;rw[Vp (.inr h)]
end
def BV (m a N:Nat) (L:List Nat):List (Nat × Nat):=(m,a+1000)::(L++((List.range N).filter (· ≠ a)).map (· + 1000)).map λ j=>(j,j)
theorem cZ (hL:L.Nodup) (h1:∀ j∈L,j<1000) (hm:m∉L) (q:m<1000∨1000+N<=m):((BV m a N L).map (·.1)).Nodup:=by
 simp only[BV,Qp,Ub,AC,List.map_id',Q1,Qo,Qh,Qz,QP];refine⟨?_,?_⟩
 .rintro (h | ⟨k,⟨h,_⟩,e⟩)
  .exact hm h
  .omega
 .refine Uj.2 ⟨hL,?_,?_⟩
  .exact I9 (λ i j h=>by simpa using h) (List.nodup_range.filter _)
  .intro x hx y hy e
   simp only[Qh] at hy;obtain⟨k,_,e2⟩:=hy;have:=h1 x hx;omega
theorem eO (hL:L.Nodup) (h1:∀ j∈L,j<1000):((BV m a N L).map (·.2)).Nodup:=by
 simp only[BV,Qp,Ub,AC,List.map_id',Q1,Qo,Qh,Qz,QP];refine⟨?_,?_⟩
 .rintro (h | ⟨k,⟨_,h⟩,e⟩)
  .have:=h1 _ h;omega
  .simp at h;omega
 .refine Uj.2 ⟨hL,?_,?_⟩
  .exact I9 (λ i j h=>by simpa using h) (List.nodup_range.filter _)
  .intro x hx y hy e
   simp only[Qh] at hy;obtain⟨k,_,e2⟩:=hy;have:=h1 x hx;omega
theorem vQ:AQ (BV m a N L) m=some (a+1000):=by simp[BV]
theorem H0 (hm:m≠j) (h:j∈L ∨ ∃ k<N,k≠a/\j=k+1000):AQ (BV m a N L) j=some j:=by
 rw[BV,AQ,if_neg hm,L3 (λ j=>j) (λ i j h=>h) (λ j=>j),if_pos];rcases h with h | ⟨k,h1,h2,rfl⟩
 .simp [h]
 .simp [h1,h2]
def grow {α:Type} (E:Nat->List α) (a:Nat) (r:α):Nat->List α:=λ k=>if k=a then E a++[r] else E k
theorem HI (f:AV->AV) (hf:∀ v,f (.sc v) = .sc v) (rows:List (List AV)) (hr:∀ r∈rows,∀ x∈r,∃ v,x = .sc v):rows.map (·.map f)=rows:=by
 conv=>rhs;rw[<- List.map_id rows]
 refine Q7 λ r q=>?_
 conv=>rhs;rw[id,<- List.map_id r]
 refine Q7 λ x hx=>?_;obtain⟨v,rfl⟩:=hr r q x hx;exact hf v
theorem gD {row:List AV} {h:Nat->Option AD} {len:Nat} (ha:a<N) (hm:m<1000∨1000+N<=m) (u:len=(E a).length+1) :
  ((Bi N E).set a [.rs m 0 len]).map (·.map (conv (BV m a N L) [] h 4))=Bi N (grow E a row):=by
 apply List.ext_getElem?;intro j;rw[QH,List.getElem?_set,JQ]
 by_cases hj:a=j
 .subst hj
  rw[if_pos rfl,if_pos ha,Kd ha];simp[vQ,DX,grow,u]
 .rw [if_neg hj]
  by_cases q:j<N
  .rw [Kd q,Kd q]
   have h1:AQ (BV m a N L) (j+1000)=some (j+1000):=H0 zy (.inr ⟨j,q,λ e=>hj e.symm,rfl⟩)
   have h2:j≠a:=λ e=>hj e.symm;simp[DX,h1,grow,h2]
  .simp [Bi,q]
theorem Le.fam {row:List AV} (L:List Nat) (h5:st'.sz=st.sz) (ha:a<N) (hL:L.Nodup) (h1:∀ j∈L,j<1000) (h6:1000+N<=m) (hn:1000+N<=st'.n) (h9:np<=1000) (hE:∀ k<N,∀ r∈E k,∀ x∈r,∃ v,x = .sc v) (u:∀ x∈row,∃ v,x = .sc v) (h7:∀ k<N,k≠a->st.hp (k+1000)=some ⟨s,E k,0⟩) (h8:st.hp m=some ⟨s,E a++[row],0⟩) (h0:∀ k<N,st'.hp (k+1000)=some ⟨s,grow E a row k,0⟩) (h4:∀ j,j∉L->(j<1000∨1000+N<=j)->st'.hp j=none) (ht:∀ p∈st'.t,Wk (conv (BV m a N L) [] st.hp 4 (st.get p.1)) p.2) (hb:∀ j∈L,∀ e',st'.hp j=some e' -> ∃ e,st.hp j=some e/\An [] (Ab (BV m a N L) [] st.hp 4 e) e'):Le np st st':=by
 have hm:m∉L:=λ h=>by have:=h1 m h;omega
 refine Le.mk (BV m a N L) [] [] h5 (cZ hL h1 hm (.inr h6)) (eO hL h1) ?_ zz zz zy zz (λ i=>?_) ?_
 .intro p hp
  simp only[BV,Qw,Qh,Qo,Qz,QP] at hp;rcases hp with rfl | ⟨j,h | ⟨k,⟨h2,_⟩,rfl⟩,rfl⟩
  .exact ⟨by simp only;omega,λ h=>by simp only at h;omega⟩
  .have:=h1 j h
   exact⟨by simp only;omega,λ _=>rfl⟩
  .exact ⟨by simp only;omega,λ _=>rfl⟩
 .unfold St.get at *
  cases hl:AQ st'.t i with
  | none=>exact .inl (.dead _)
  | some v=>exact .inl (ht _ (DD hl))
 .intro j e' he
  left
  by_cases hj:j∈L
  .obtain ⟨e,h2,h3⟩:=hb j hj e' he
   refine⟨j,e,?_,h2,h3⟩;simp only[BV,Qw,Qh,Qo];exact .inr ⟨j,.inl hj,rfl⟩
  .by_cases hr:j<1000∨1000+N<=j
   .rw [h4 j hj hr] at he;cases he
   .obtain ⟨k,rfl⟩:∃ k,j=k+1000:=⟨j - 1000,zy⟩
    have hk:k<N:=zy
    rw[h0 k hk] at he
    cases he
    by_cases q:k=a
    .subst q
     rw[show grow E k row k=E k++[row] from if_pos rfl]
     refine⟨m,_,by simp[BV],h8,?_⟩
     have:Ab (BV m k N L) [] st.hp 4 ⟨s,E k++[row],0⟩=⟨s,E k++[row],0⟩:=by
      simp only[Ab];rw[HI _ λ v=>by simp[conv]]
      intro r hr x hx;rcases Qo.1 hr with h | h
      .exact hE k hk r h x hx
      .rw [Qt.1 h] at hx;exact u x hx
     rw[this];exact An.rfl' (Qn _)
    .simp only[grow,if_neg q]
     refine⟨k+1000,_,?_,h7 k hk q,?_⟩
     .simp only[BV,Qw,Qh,Qo,Qz,QP]
      exact .inr ⟨k+1000,.inr ⟨k,⟨hk,by simpa using q⟩,rfl⟩,rfl⟩
     .have:Ab (BV m a N L) [] st.hp 4 ⟨s,E k,0⟩=⟨s,E k,0⟩:=by
       simp only[Ab];rw[HI _ (λ v=>by simp[conv]) _ (hE k hk)]
      rw[this];exact An.rfl' (Qn _)
theorem Le.fam0 (L:List Nat) (h6:st'.sz=st.sz) (hs:s≠0) (hL:(o::L).Nodup) (h1:∀ j∈o::L,j<1000/\np<=1000) (hn:1000+N<=st'.n) (ho:st.hp o=some ⟨1,(List.range N).map λ _=>[.nilS],0⟩) (h7:st'.hp o=some ⟨1,Bi N λ _=>[],0⟩) (h0:∀ k<N,st'.hp (k+1000)=some ⟨s,[],0⟩) (h4:∀ j,j∉o::L->(j<1000∨1000+N<=j)->st'.hp j=none) (ht:∀ p∈st'.t,Wk (conv ((o::L).map λ j=>(j,j)) [] st.hp 4 (st.get p.1)) p.2) (hb:∀ j∈L,∀ e',st'.hp j=some e' -> ∃ e,st.hp j=some e/\An [] (Ab ((o::L).map λ j=>(j,j)) [] st.hp 4 e) e'):Le np st st':=by
 have u:∀ p,p∈(List.range N).map (λ k=>(k+1000,s)) ↔ ∃ k<N,p=(k+1000,s):=λ p=>by
  rw[Qh];exact⟨λ ⟨k,h,e⟩=>⟨k,QP.1 h,e.symm⟩,λ ⟨k,h,e⟩=>⟨k,QP.2 h,e.symm⟩⟩
 have hid:((o::L).map λ j=>(j,j)).map (·.1)=o::L:=by simp[AC]
 have q:((o::L).map λ j=>(j,j)).map (·.2)=o::L:=by simp[AC]
 refine Le.mk ((o::L).map λ j=>(j,j)) [] ((List.range N).map λ k=>(k+1000,s)) h6 (by rw[hid];exact hL) (by rw[q];exact hL) ?_ ?_ zz (by have:=h1 o zz;omega) ?_ (λ i=>?_) ?_
 .intro p hp
  obtain⟨j,hj,rfl⟩:=Qh.1 hp;have:=h1 j hj;exact⟨by simp only;omega,λ _=>rfl⟩
 .intro p hp
  obtain⟨k,hk,rfl⟩:=(u p).1 hp;have:=h1 o zz
  refine⟨by simp only;omega,by simp only;omega,?_,hs⟩
  rw[q];intro h;have:=h1 _ h;omega
 .rw [Ub]
  exact I9 (λ i j h=>by simpa using h) List.nodup_range
 .unfold St.get at *
  cases hl:AQ st'.t i with
  | none=>exact .inl (.dead _)
  | some v=>exact .inl (ht _ (DD hl))
 .intro j e' he
  by_cases h5:j=o
  .subst h5
   left
   rw[h7] at he
   cases he;refine⟨j,_,zz,ho,rfl,Qk _,Qn _,.inr ⟨by simp[Ab],by simp[Ab,Bi],λ i=>?_⟩⟩
   by_cases hi:i<N
   .simp only[Ab,Ub,AC,Qp,UN,Qe,QH,List.getElem?_range hi,Uo,QO,Bi,DX,U7]
    exact⟨.inr ⟨by simp[conv],i+1000,s,rfl,(u _).2 ⟨i,hi,rfl⟩⟩,trivial⟩
   .simp [Ab,Bi,Qe,hi,D9]
  .by_cases hj:j∈L
   .left
    obtain⟨e,h2,h3⟩:=hb j hj e' he;refine⟨j,e,by simp[hj],h2,h3.1,h3.2.1,h3.2.2.1,?_⟩
    rcases h3.2.2.2 with h | ⟨q1,q2,q3⟩
    .exact .inl h
    .refine .inr ⟨q1,q2,λ i=>?_⟩
     have key:∀ {xs ys:List AV},D9 [] xs ys->D9 ((List.range N).map λ k=>(k+1000,s)) xs ys:=by
      intro xs
      induction xs with
      | nil=>intro ys h;cases ys<;>exact h
      | cons x xs ih =>
        intro ys h
        cases ys with
        | nil=>exact h
        | cons y ys =>
          refine⟨?_,ih h.2⟩;rcases h.1 with h | ⟨_,_,_,_,h⟩
          .exact .inl h
          .simp at h
     exact key (q3 i)
   .by_cases hr:j<1000∨1000+N<=j
    .rw [h4 j (by simp[h5,hj]) hr] at he;cases he
    .obtain ⟨k,rfl⟩:∃ k,j=k+1000:=⟨j - 1000,zy⟩
     have hk:k<N:=zy
     rw[h0 k hk] at he
     cases he;exact .inr ⟨(u _).2 ⟨k,hk,rfl⟩,rfl,rfl⟩
def DO (N:Nat):List Nat:=(List.range N).map (· + 1000)
theorem G8:j∈DO N↔1000<=j/\j<1000+N:=by
 simp only[DO,Qh,QP];exact⟨λ ⟨k,h,e⟩=>zy,λ h=>⟨j - 1000,zy,zy⟩⟩
theorem sC {ρ:List (Nat × Nat)} {sn:List Nat} {hp:Nat->Option AD} (hE:∀ k<N,∀ r∈E k,∀ x∈r,∃ v,x = .sc v) (hρ:AQ ρ o=none) (q:o∈sn) (hf:∀ k<N,k+1000∈sn) (ho:hp o=some ⟨1,Bi N E,0⟩) (hh:∀ k<N,hp (k+1000)=some ⟨s,E k,0⟩) :
  conv ρ sn hp 4 (.rs o 0 N) = .vs 1 false ((List.range N).map λ k=>[.vs s false (E k)]):=by
 simp only[conv,hρ,q,UM,ho,JQ,Uc,Qk,Vb]
 rw[Qb (by rw[JQ];exact Qk _),Bi,Ub]
 congr 1
 refine Q7 λ k hk=>?_;have hk:=QP.1 hk;simp only[AC,Qp,UN,DX,AQ,hf k hk,UM,hh k hk,Uc,Qk,Vb,QW];rw[HI _ (λ v=>zz) _ (hE k hk)]
theorem Le.famOut (h0:st'.sz=st.sz) (hL:L.Nodup) (h1:∀ j∈L,j<1000) (h4:o∉L) (hn:1000<=st'.n) (h5:np<=o) (h6:np<=1000) (q:∀ j,j∉L->st'.hp j=none) (ht:∀ p∈st'.t,Wk (conv (L.map λ j=>(j,j)) (o::DO N) st.hp 4 (st.get p.1)) p.2) (hb:∀ j∈L,∀ e',st'.hp j=some e' -> ∃ e,st.hp j=some e/\An [] (Ab (L.map λ j=>(j,j)) (o::DO N) st.hp 4 e) e'):Le np st st':=by
 have hid:(L.map λ j=>(j,j)).map (·.1)=L:=by simp[AC]
 have u:(L.map λ j=>(j,j)).map (·.2)=L:=by simp[AC]
 refine Le.mk (L.map λ j=>(j,j)) (o::DO N) [] h0 (by rw[hid];exact hL) (by rw[u];exact hL) ?_ zz ?_ zy zz (λ i=>?_) ?_
 .intro p hp
  obtain⟨j,hj,rfl⟩:=Qh.1 hp;have:=h1 j hj;exact⟨by simp only;omega,λ _=>rfl⟩
 .intro i hi
  rw[hid];rcases Qw.1 hi with rfl | hi
  .exact ⟨h5,h4⟩
  .have:=G8.1 hi
   exact⟨zy,λ h=>by have:=h1 i h;omega⟩
 .unfold St.get at *
  cases hl:AQ st'.t i with
  | none=>exact .inl (.dead _)
  | some v=>exact .inl (ht _ (DD hl))
 .intro j e' he
  left
  by_cases hj:j∈L
  .obtain ⟨e,h2,h3⟩:=hb j hj e' he
   exact⟨j,e,by simp[hj],h2,h3⟩
  .rw [q j hj] at he;cases he
variable {rows:List (List AV)} {φ:Int->Option AV}
def Cu (l:List (Int × AV)):List (List AV):=l.map λ p=>[.sc (.int .i64 p.1),p.2]
theorem Lo (n:Int):∀ l:List (Int × AV),Ce n (Cu l)=(l.find? (λ p=>p.1=n)).map (·.2)
 | []=>rfl
 | (k,x)::l=>by
   have ih:=Lo n l;simp only[Cu] at ih;simp only[Cu,Qp,Ce,List.find?_cons]
   by_cases h:n=k
   .simp [h]
   .have h':¬ k=n:=λ e=>h e.symm
    simp[h,h',ih]
def Co (rows:List (List AV)) (φ:Int->Option AV):Prop:=∃ l:List (Int × AV),rows=Cu l/\(l.map (·.1)).Nodup /\ ∀ n,Ce n rows=φ n
theorem Co.find (h:Co rows φ) (n:Int):Ce n rows=φ n:=by
 obtain⟨_,_,_,h⟩:=h;exact h n
theorem Co.nil:Co [] λ _=>none:=⟨[],rfl,zz,λ _=>rfl⟩
theorem VM (n:Int) (y:AV):∀ l:List (Int × AV),∃ l',A7 n y (Cu l)=Cu l'/\(∀ k,k∈l'.map (·.1)↔k=n∨k∈l.map (·.1))/\((l.map (·.1)).Nodup->(l'.map (·.1)).Nodup) /\ ∀ k,Ce k (Cu l')=if k=n then some y else Ce k (Cu l)
 | []=>⟨[(n,y)],rfl,zz,zz,λ k=>by simp[Cu,Ce]⟩
 | (i,x)::l=>by
   by_cases h:n=i
   .subst h
    refine⟨(n,y)::l,by simp[Cu,A7],zz,zz,λ k=>?_⟩
    simp only[Cu,Qp,Ce];split<;>rfl
   .obtain ⟨l',h1,h2,h3,h4⟩:=VM n y l
    refine⟨(i,x)::l',?_,λ k=>?_,λ hn=>?_,λ k=>?_⟩
    .simp only[Cu] at h1
     simp[Cu,A7,h,h1]
    .simp only[Qp,Qw,h2]
     constructor
     .rintro (h | h | h)<;>simp[h]
     .rintro (h | h | h)<;>simp[h]
    .rw [Qp,Q1] at hn ⊢
     exact⟨λ hm=>((h2 i).1 hm).elim (λ e=>h e.symm) hn.1,h3 hn.2⟩
    .have h4:=h4 k
     simp only[Cu] at h4;simp only[Cu,Qp,Ce,h4]
     by_cases hk:k=i
     .subst hk
      simp[show ¬ k=n from λ e=>h e.symm]
     .simp [hk]
theorem Co.set (h:Co rows φ) (n:Int) (y:AV):Co (A7 n y rows) λ k=>if k=n then some y else φ k:=by
 obtain⟨l,rfl,hn,hf⟩:=h;obtain⟨l',h1,_,h3,h4⟩:=VM n y l;exact⟨l',h1,h3 hn,λ k=>by rw[h1,h4,hf]⟩
theorem S3 (n:Int):∀ l:List (Int × AV),(l.map (·.1)).Nodup -> ∃ l',Bn n (Cu l)=Cu l'/\(∀ k,k∈l'.map (·.1)->k∈l.map (·.1))/\(l'.map (·.1)).Nodup /\ ∀ k,Ce k (Cu l')=if k=n then none else Ce k (Cu l)
 | [],_=>⟨[],rfl,zz,zz,λ k=>by simp[Cu,Ce]⟩
 | (i,x)::l,hn=>by
   rw[Qp,Q1] at hn
   by_cases h:n=i
   .subst h
    refine⟨l,by simp[Cu,Bn],λ k hk=>by simp only[Qp,Qw];exact .inr hk,hn.2,λ k=>?_⟩
    simp only[Cu,Qp,Ce]
    by_cases hk:k=n
    .subst hk
     rw[if_pos rfl,show List.map (λ p:Int × AV=>[AV.sc (.int .i64 p.1),p.2]) l=Cu l from rfl,Lo]
     rw[List.find?_eq_none.2]
     .rfl
     .intro p hp
      simp only[Qf];exact λ e=>hn.1 (Qh.2 ⟨p,hp,e⟩)
    .simp [hk]
   .obtain ⟨l',h1,h2,h3,h4⟩:=S3 n l hn.2
    refine⟨(i,x)::l',?_,λ k=>?_,?_,λ k=>?_⟩
    .simp only[Cu] at h1
     simp[Cu,Bn,h,h1]
    .simp only[Qp,Qw]
     rintro(e | e)
     .exact .inl e
     .exact .inr (h2 k e)
    .rw [Qp,Q1]
     exact⟨λ hm=>hn.1 (h2 i hm),h3⟩
    .have h4:=h4 k
     simp only[Cu] at h4;simp only[Cu,Qp,Ce,h4]
     by_cases hk:k=i
     .subst hk
      simp[show ¬ k=n from λ e=>h e.symm]
     .simp [hk]
theorem Co.del (h:Co rows φ) (n:Int):Co (Bn n rows) λ k=>if k=n then none else φ k:=by
 obtain⟨l,rfl,hn,hf⟩:=h;obtain⟨l',h1,_,h3,h4⟩:=S3 n l hn;exact⟨l',h1,h3,λ k=>by rw[h1,h4,hf]⟩
def IV (s:BH):AV:=.agg [.I s.1,.sc (.bool s.2)]
open Classical in
def BJ (D b:List Int):Int->Option AV:=λ x=>if x∈D then some (if x=0 then .agg [.I (-1),.sc (.bool false)] else IV (FN (b.getD x.toNat 0))) else none
theorem Z5 (b:List Int):BJ [0] b=λ x=>if x=0 then some (.agg [.I (-1),.sc (.bool false)]) else none:=by
 funext x
 by_cases h:x=0<;>simp[BJ,h]
theorem dX {N:Nat} {A:List Ed} {f D b:List Int} (h:C1 N A f D b) {s:BH} (hT:Az A s∉D) (h0:0<=Az A s) (h1:Az A s<N) :
  BJ (D++[Az A s]) (b.set (Az A s).toNat (C5 s))=λ x=>if x=Az A s then some (IV s) else BJ D b x:=by
 have hb:(Az A s).toNat<b.length:=by rw[h.len];omega
 have q:Az A s≠0:=λ e=>hT (e ▸ h.mem0)
 funext x
 by_cases hx:x=Az A s
 .subst hx
  simp only[BJ,Qo,Qt,or_true,UM,if_neg q];rw[Qe,List.getElem?_set_self hb,QO,PZ]
 .simp only[BJ,Qo,Qt,hx,or_false,Uv]
  by_cases hD:x∈D
  .have hr:=h.rng x hD
   rw[if_pos hD,if_pos hD,Qe,List.getElem?_set_ne zy,Qe]
  .rw [if_neg hD,if_neg hD]
theorem MT (D b:List Int) (x:Int):(BJ D b x).isSome=decide (x∈D):=by
 by_cases h:x∈D<;>simp[BJ,h]
variable {E:Nat->List (List AV)} {L:List Nat} {N:Nat}
abbrev CU (s:BH):List AV:=[.I s.1,.B s.2]
def GY (A:List Ed):Nat->Nat->List BH
 | 0,_=>[]
 | i+1,k=>GY A i k++(if (AH A i).f=k then [(i,false)] else [])++(if (AH A i).t=k then [(i,true)] else [])
theorem XR {A:List Ed} {s:BH} {k:Nat}:∀ {i:Nat},s∈GY A i k↔s.1<i/\Ch A s=k
 | 0=>by simp[GY]
 | i+1=>by
   obtain⟨j,c⟩:=s;have ih:=XR (A:=A) (s:=(j,c)) (k:=k) (i:=i);simp only[GY,Qo,ih];unfold Ch;simp only;constructor
   .rintro ((h | h) | h)
    .exact ⟨zy,h.2⟩
    .split at h
     .rename_i e
      simp at h;obtain⟨rfl,rfl⟩:=h;exact⟨zy,by simpa using e⟩
     .simp at h
    .split at h
     .rename_i e
      simp at h;obtain⟨rfl,rfl⟩:=h;exact⟨zy,by simpa using e⟩
     .simp at h
   .rintro ⟨h1,h2⟩
    rcases QI.1 h1 with h | h
    .exact .inl (.inl ⟨h,h2⟩)
    .subst h
     cases c
     .have:(AH A j).f=k:=by simpa using h2
      rw[if_pos this];exact .inl (.inr zz)
     .have:(AH A j).t=k:=by simpa using h2
      rw[if_pos this];exact .inr zz
theorem O5 (A:List Ed) (k:Nat):∀ i,(GY A i k).length<=2*i
 | 0=>Qk _
 | i+1=>by
   have ih:=O5 A k i;simp only[GY,Qm];split<;>split<;>simp<;>omega
def C3 (A:List Ed) (i:Nat):Nat->List (List AV):=λ k=>(GY A i k).map CU
theorem To (A:List Ed) (i k:Nat):∀ r∈C3 A i k,∀ x∈r,∃ v,x = .sc v:=by
 intro r hr x hx;obtain⟨s,_,rfl⟩:=Qh.1 hr;simp only[CU,Qw,Ua,or_false] at hx;rcases hx with rfl | rfl
 .exact ⟨_,rfl⟩
 .exact ⟨_,rfl⟩
theorem bA (A:List Ed) (i k:Nat):(C3 A i k).length<=2*i:=by unfold C3;rw[QB];exact O5 A k i
theorem wF {a:Nat} {row:List AV} (hE:∀ k,∀ r∈E k,∀ x∈r,∃ v,x=AV.sc v) (hr:∀ x∈row,∃ v,x=AV.sc v) (k:Nat):∀ r∈grow E a row k,∀ x∈r,∃ v,x=AV.sc v:=by
 unfold grow;intro r h;split at h
 .rcases Qo.1 h with h | h
  .exact hE a r h
  .rw [Qt.1 h];exact hr
 .exact hE k r h
theorem tZ {A:List Ed} {i a b:Nat} (ha:(AH A i).f=a) (hb:(AH A i).t=b) (q:a≠b):C3 A (i+1)=grow (grow (C3 A i) a (CU (i,false))) b (CU (i,true)):=by
 funext k
 simp only[C3,GY,grow,ha,hb,Ug,Int.natCast_inj]
 by_cases h1:k=a
 .subst h1
  simp[q,q.symm]
 .by_cases h2:k=b
  .subst h2
   simp[q,h1]
  .have h3:¬ a=k:=λ e=>h1 e.symm
   have h4:¬ b=k:=λ e=>h2 e.symm;simp[h1,h2,h3,h4]
theorem Oq (s:BH):∀ x∈CU s,∃ v,x=AV.sc v:=by
 intro x hx;simp only[CU,Qw,Ua,or_false] at hx;rcases hx with rfl | rfl
 .exact ⟨_,rfl⟩
 .exact ⟨_,rfl⟩
abbrev LU (N:Nat) (A:List Ed):AV:=.vs 1 false ((List.range N).map λ k=>[.vs 2 false (C3 A A.length k)])
theorem Le.slot {np sz n n':Nat} {t t':List (Nat × AV)} {h:List (Nat × Option AD)} (hn:n<=n') (ht:∀ p∈t',(⟨sz,t,h,n⟩:St).get p.1=p.2):Le np ⟨sz,t,h,n⟩ ⟨sz,t',h,n'⟩:=by
 intro T0 M0 w0 T M a w ok q;refine⟨T,M,⟨ok.sz,ok.df,λ i=>?_,ok.hs,λ id g hg=>Ux (ok.dom id g hg) hn,ok.after⟩,QF q hn⟩;show AX T w M ((AQ t' i).getD .dead) _
 cases hl:AQ t' i with
 | none=>exact .dead _ _
 | some v =>
   have:=ht _ (DD hl);simp only at this;show AX T w M v _;rw[<- this];exact ok.tm i
def famS (N:Nat) (L:List Nat):List (Nat × Nat):=(L++DO N).map λ j=>(j,j)
theorem JH {j:Nat} (h:j∈L ∨ ∃ k<N,j=k+1000):AQ (famS N L) j=some j:=by
 rw[famS,L3 (λ j=>j) (λ i j h=>h) (λ j=>j),if_pos];rcases h with h | ⟨k,h1,rfl⟩
 .simp [h]
 .exact UL _ (G8.2 zy)
theorem fZ {j:Nat} (h:j∉L) (h2:1000+N<=j):AQ (famS N L) j=none:=by
 rw[famS,L3 (λ j=>j) (λ i j h=>h) (λ j=>j),if_neg];rw[Qo,not_or];exact⟨h,λ hm=>by have:=G8.1 hm;omega⟩
theorem Z9 {sn:List Nat} {h:Nat->Option AD}:(Bi N E).map (·.map (conv (famS N L) sn h 4))=Bi N E:=by
 conv=>rhs;rw[<- List.map_id (Bi N E)]
 refine Q7 λ r hr=>?_;obtain⟨k,hk,rfl⟩:=Qh.1 hr;have:=JH (N:=N) (L:=L) (j:=k+1000) (.inr ⟨k,QP.1 hk,rfl⟩);simp[DX,this]
theorem Le.famS {np s:Nat} (L sn:List Nat) {st st':St} (h6:st'.sz=st.sz) (hL:L.Nodup) (h1:∀ j∈L,j<1000) (hn:1000+N<=st'.n) (h9:np<=1000) (h7:∀ j∈sn,1000+N<=j) (hE:∀ k<N,∀ r∈E k,∀ x∈r,∃ v,x = .sc v) (h8:∀ k<N,st.hp (k+1000)=some ⟨s,E k,0⟩) (u:∀ k<N,st'.hp (k+1000)=some ⟨s,E k,0⟩) (h0:∀ j,j∉L->(j<1000∨1000+N<=j)->st'.hp j=none) (ht:∀ p∈st'.t,Wk (conv (famS N L) sn st.hp 4 (st.get p.1)) p.2) (hb:∀ j∈L,∀ e',st'.hp j=some e' -> ∃ e,st.hp j=some e/\An [] (Ab (famS N L) sn st.hp 4 e) e'):Le np st st':=by
 have hid:(Go.Proofs.YtnaemfpgdmfmcaaGreatDoor.famS N L).map (·.1)=L++DO N:=by simp[Go.Proofs.YtnaemfpgdmfmcaaGreatDoor.famS,AC]
 have h4:(Go.Proofs.YtnaemfpgdmfmcaaGreatDoor.famS N L).map (·.2)=L++DO N:=by simp[Go.Proofs.YtnaemfpgdmfmcaaGreatDoor.famS,AC]
 have h5:(L++DO N).Nodup:=Uj.2 ⟨hL,I9 (λ i j h=>by simpa using h) List.nodup_range,λ x hx y hy e=>by
  have:=h1 x hx;have:=G8.1 hy
  omega⟩
 have q:∀ j,(j,j)∈Go.Proofs.YtnaemfpgdmfmcaaGreatDoor.famS N L↔j∈L∨j∈DO N:=λ j=>by simp[Go.Proofs.YtnaemfpgdmfmcaaGreatDoor.famS]
 refine Le.mk (Go.Proofs.YtnaemfpgdmfmcaaGreatDoor.famS N L) sn [] h6 (by rw[hid];exact h5) (by rw[h4];exact h5) ?_ zz ?_ zy zz (λ i=>?_) ?_
 .intro p hp
  obtain⟨j,hj,rfl⟩:=Qh.1 hp;rcases Qo.1 hj with h | h
  .have:=h1 j h
   exact⟨by simp only;omega,λ _=>rfl⟩
  .have:=G8.1 h
   exact⟨by simp only;omega,λ _=>rfl⟩
 .intro j hj
  have:=h7 j hj;refine⟨zy,?_⟩
  rw[hid,Qo,not_or];exact⟨λ h=>by have:=h1 j h;omega,λ h=>by have:=G8.1 h;omega⟩
 .unfold St.get at *
  cases hl:AQ st'.t i with
  | none=>exact .inl (.dead _)
  | some v=>exact .inl (ht _ (DD hl))
 .intro j e' he
  left
  by_cases hj:j∈L
  .obtain ⟨e,h2,h3⟩:=hb j hj e' he
   exact⟨j,e,(q j).2 (.inl hj),h2,h3⟩
  .by_cases hr:j<1000∨1000+N<=j
   .rw [h0 j hj hr] at he;cases he
   .obtain ⟨k,rfl⟩:∃ k,j=k+1000:=⟨j - 1000,zy⟩
    have hk:k<N:=zy
    rw[u k hk] at he
    cases he;refine⟨k+1000,_,(q _).2 (.inr (G8.2 zy)),h8 k hk,?_⟩
    have:Ab (Go.Proofs.YtnaemfpgdmfmcaaGreatDoor.famS N L) sn st.hp 4 ⟨s,E k,0⟩=⟨s,E k,0⟩:=by
     simp only[Ab];rw[HI _ (λ v=>by simp[conv]) _ (hE k hk)]
    rw[this];exact An.rfl' (Qn _)
variable {A:List Ed} {E:Nat->List (List AV)} {N m n sz:Nat} {f:List Int} {t:List (Nat × AV)}
abbrev oH (N:Nat) (A:List Ed) (m:Nat) (f:List Int) (E:Nat->List (List AV)):List (Nat × Option AD) :=
 EI 2 N E++[(0,some ⟨1,AE f,0⟩),(24,some ⟨4,[[.I 0,.nilS,.nilS,.nilS]],0⟩),(64,some ⟨1,Bi N E,0⟩),(80,some ⟨4,[[.I N,BO A,.rs 0 0 m,.rs 64 0 N]],0⟩)]
theorem Cg {i j:Nat} {h:List (Nat × Option AD)} {v:Option AD} (q:i≠j):(⟨sz,t,(i,v)::h,n⟩:St).hp j=(⟨sz,t,h,n⟩:St).hp j:=by
 rw[Lj,if_neg q]
theorem HF {k:Nat} (h:k<N):(⟨sz,t,oH N A m f E,n⟩:St).hp (k+1000)=some ⟨2,E k,0⟩:=kV h
theorem MR {j:Nat} (hj:j∉[0,24,64,80]) (hr:j<1000∨1000+N<=j):(⟨sz,t,oH N A m f E,n⟩:St).hp j=none:=by
 have q:j≠0/\j≠24/\j≠64/\j≠80:=by simpa using hj
 rcases hr with hr | hr
 .rw [KY hr]
  simp[q.1.symm,q.2.1.symm,q.2.2.1.symm,q.2.2.2.symm]
 .rw [jK hr]
  simp[q.1.symm,q.2.1.symm,q.2.2.1.symm,q.2.2.2.symm]
section
variable {sz n N m:Nat} {t:List (Nat × AV)} {A:List Ed} {f:List Int} {E:Nat->List (List AV)}
theorem FK:(⟨sz,t,oH N A m f E,n⟩:St).hp 0=some ⟨1,AE f,0⟩:=by rw[KY zy];simp
theorem IR:(⟨sz,t,oH N A m f E,n⟩:St).hp 24=some ⟨4,[[.I 0,.nilS,.nilS,.nilS]],0⟩:=by rw[KY zy];simp
theorem IH:(⟨sz,t,oH N A m f E,n⟩:St).hp 64=some ⟨1,Bi N E,0⟩:=by rw[KY zy];simp
theorem HJ:(⟨sz,t,oH N A m f E,n⟩:St).hp 80=some ⟨4,[[.I N,BO A,.rs 0 0 m,.rs 64 0 N]],0⟩:=by rw[KY zy];simp
end
theorem Le.oStep {a x y n':Nat} {row:List AV} {t':List (Nat × AV)} {h:List (Nat × Option AD)} (ha:a<N) (hx:1000+N<=x) (hy:1000+N<=y) (h0:x≠y) (hN:N<=900) (u:1000+N<=n') (hE:∀ k,∀ r∈E k,∀ z∈r,∃ v,z = .sc v) (q:∀ z∈row,∃ v,z = .sc v) (hh:h=(64,some ⟨1,(Bi N E).set a [.rs x 0 ((E a).length+1)],0⟩)::(x,some ⟨2,E a++[row],0⟩)::(a+1000,none)::(y,some ⟨2,[row],0⟩)::oH N A m f E) (ht:∀ p∈t',Wk (conv (BV x a N [0,24,64,80]) [] (⟨54,t,h,n⟩:St).hp 4 ((⟨54,t,h,n⟩:St).get p.1)) p.2):Le 1 ⟨54,t,h,n⟩ ⟨54,t',oH N A m f (grow E a row),n'⟩:=by
 have e64:(⟨54,t,h,n⟩:St).hp 64=some ⟨1,(Bi N E).set a [.rs x 0 ((E a).length+1)],0⟩:=by rw[hh,Lj,if_pos rfl]
 have e0:(⟨54,t,h,n⟩:St).hp 0=some ⟨1,AE f,0⟩:=by rw[hh,Cg zy,Cg zy,Cg zy,Cg zy,FK]
 have e24:(⟨54,t,h,n⟩:St).hp 24=some ⟨4,[[.I 0,.nilS,.nilS,.nilS]],0⟩:=by rw[hh,Cg zy,Cg zy,Cg zy,Cg zy,IR]
 have e80:(⟨54,t,h,n⟩:St).hp 80=some ⟨4,[[.I N,BO A,.rs 0 0 m,.rs 64 0 N]],0⟩:=by rw[hh,Cg zy,Cg zy,Cg zy,Cg zy,HJ]
 have l0:AQ (BV x a N [0,24,64,80]) 0=some 0:=H0 zy (.inl zz)
 have l64:AQ (BV x a N [0,24,64,80]) 64=some 64:=H0 zy (.inl zz)
 refine Le.fam (s:=2) (N:=N) (a:=a) (m:=x) (E:=E) (row:=row) [0,24,64,80] rfl ha zx zz hx u zy (λ k _=>hE k) q ?_ ?_ (λ k hk=>HF hk) (λ j hj hr=>MR hj hr) ht ?_
 .intro k hk h1
  rw[hh,Cg zy,Cg zy,Cg zy,Cg zy,HF hk]
 .rw [hh,Cg zy,Lj,if_pos rfl]
 .intro j hj e' he
  simp only[Qw,Ua,or_false] at hj;rcases hj with rfl | rfl | rfl | rfl
  .rw [FK] at he
   cases he;exact⟨_,e0,by simp only[Ab];rw[HI _ (λ v=>by simp[conv]) _ zz];exact An.rfl' (Qn _)⟩
  .rw [IR] at he
   cases he;exact⟨_,e24,by simp[Ab];exact An.rfl' (Qn _)⟩
  .rw [IH] at he
   cases he;refine⟨_,e64,?_⟩;simp only[Ab];rw[gD ha (.inr hx) rfl];exact An.rfl' (Qn _)
  .rw [HJ] at he
   cases he;refine⟨_,e80,?_⟩;simp[Ab,l0,l64];exact An.rfl' (Qn _)
theorem WG (N:Nat) (A:List Ed) (f:List Int) (m:Nat) (hn:C9 ⟨N,A⟩):AK 75 [eN ⟨N,A⟩,.rs 0 0 m] [⟨1,AE f,0⟩] (.agg [.I N,BO A,.rs 0 0 m,LU N A]) [some ⟨1,AE f,0⟩]:=by
 refine pX.s.ai ?_;obtain⟨hm,ho,hq,ha⟩:=hn;simp only at hm ho hq ha;refine ar [1,2,4] [(0,0),(24,24)] [16] 32 ?_;refine Cd ⟨54,[(2,.pv (nC ⟨N,A⟩)),(4,.pt 24 0 0),(5,.pt 80 0 0)],[(0,some ⟨1,AE f,0⟩),(24,some ⟨4,[[.I 0,.nilS,.nilS,.nilS]],0⟩),(64,some ⟨1,(List.range N).map λ _=>[.nilS],0⟩),(80,some ⟨4,[[.I N,BO A,.rs 0 0 m,.rs 64 0 N]],0⟩)],96⟩ ?_ ?_
 .simp [List.map_const']
  refine⟨zy,zy,rfl,?_⟩
  exact CO [(0,0),(24,24),(64,64),(80,80)] []
 refine AB (ar [4,5,15,16,17] [(0,0),(24,24),(64,64),(80,80)] [] 128 ?_);refine AT (As (ι:=Nat) (λ i=>⟨54,[(4,.pt 24 0 0),(5,.pt 80 0 0),(15,BO A),(16,.I A.length),(17,.I i)],oH N A m f (C3 A i),2000⟩) (λ i=>i<=A.length) (λ i=>A.length - i) 0 (Qn _) ?_ ?_)
 .refine Le.fam0 (s:=2) (N:=N) (o:=64) [0,24,80] rfl zy zx zz (by simp only;omega) zz IH (λ k hk=>HF hk) (λ j hj hr=>MR (by simpa [and_comm,and_left_comm,and_assoc,or_comm,or_left_comm] using hj) hr) zz ?_
  intro j hj e' he;simp only[Qw,Ua,or_false] at hj;rcases hj with rfl | rfl | rfl
  .rw [FK] at he
   cases he;exact⟨⟨1,AE f,0⟩,zz,by simp only[Ab];rw[HI _ (λ v=>by simp[conv]) _ zz];exact An.rfl' (Qn _)⟩
  .rw [IR] at he
   cases he;exact⟨⟨4,[[.I 0,.nilS,.nilS,.nilS]],0⟩,zz,by simp[Ab];exact An.rfl' (Qn _)⟩
  .rw [HJ] at he
   cases he;exact⟨⟨4,[[.I N,BO A,.rs 0 0 m,.rs 64 0 N]],0⟩,zz,by simp[Ab];exact An.rfl' (Qn _)⟩
 intro i hi;refine arc ⟨54,[(4,.pt 24 0 0),(5,.pt 80 0 0),(15,BO A),(16,.I A.length),(17,.I i),(18,.B (decide (i<A.length)))],oH N A m f (C3 A i),2008⟩ ?_ ?_
 .simp
  exact Le.slot zy zz
 refine AB (AI _ rfl (λ h5=>?_) λ h5=>?_)
 .simp at h5
  have hs:=w6 (x:=((i:Int)+1));have hb:=ha _ (Qj h5);have h0:AH A i=A[i]:=by unfold AH;rw[Qe,Qa h5,QO]
  obtain⟨e,he⟩:=AR (A[i]);rw[<- he] at hb h0;obtain⟨q1,q2,q3,q4,q5,_⟩:=hb;obtain⟨a,hc,h3⟩:∃ a:Nat,e.f=a/\a<N:=⟨e.f.toNat,zy,zy⟩
  obtain⟨b,hd,h4⟩:∃ b:Nat,e.t=b/\b<N:=⟨e.t.toNat,zy,zy⟩
  have hf:a≠b:=λ h=>q5 zy
  have u:=tZ (A:=A) (i:=i) (a:=a) (b:=b) (by rw[h0];exact hc) (by rw[h0];exact hd) hf
  have h6:=To A i;have h8:=λ k=>bA A i k;obtain⟨E,hE⟩:=AR (C3 A i);rw[<- hE] at u h6 h8 ⊢;refine AN (AB (AT (arc ⟨54,[(4,.pt 24 0 0),(5,.pt 80 0 0),(6,.I i),(7,.pv [.I a,.I b,.I e.v]),(15,BO A),(16,.I A.length),(17,.I i)],oH N A m f E,3000⟩ ?_ ?_)))
  .simp [h5,<- he,hc,hd]
   have l24:AQ (famS N [0,24,64,80]) 24=some 24:=JH (.inl zz)
   have l80:AQ (famS N [0,24,64,80]) 80=some 80:=JH (.inl zz)
   have l0:AQ (famS N [0,24,64,80]) 0=some 0:=JH (.inl zz)
   have l64:AQ (famS N [0,24,64,80]) 64=some 64:=JH (.inl zz)
   have lno:AQ (famS N [0,24,64,80]) 2032=none:=fZ zz zy
   refine Le.famS (s:=2) (N:=N) (E:=E) [0,24,64,80] [2032] rfl zx zz (by simp only;omega) zy zw (λ k _=>h6 k) ?_ (λ k hk=>HF hk) (λ j hj hr=>MR hj hr) ?_ ?_
   .intro k hk
    rw[Cg zy,Cg zy,HF hk]
   .simp [l24,l80,lno]
   .intro j hj e' q
    simp only[Qw,Ua,or_false] at hj;rcases hj with rfl | rfl | rfl | rfl
    .rw [FK] at q
     cases q;exact⟨_,by rw[Cg zy,Cg zy,FK],by simp only[Ab];rw[HI _ (λ v=>by simp[conv]) _ zz];exact An.rfl' (Qn _)⟩
    .rw [IR] at q
     cases q;exact⟨_,by rw[Cg zy,Cg zy,IR],by simp[Ab];exact An.rfl' (Qn _)⟩
    .rw [IH] at q
     cases q;refine⟨_,by rw[Cg zy,Cg zy,IH],?_⟩
     simp only[Ab];rw[Z9];exact An.rfl' (Qn _)
    .rw [HJ] at q
     cases q;exact⟨_,by rw[Cg zy,Cg zy,HJ],by simp[Ab,l0,l64];exact An.rfl' (Qn _)⟩
  refine Cd ⟨54,[(4,.pt 24 0 0),(5,.pt 80 0 0),(6,.I i),(7,.pv [.I a,.I b,.I e.v]),(15,BO A),(16,.I A.length),(17,.I i)],oH N A m f (grow E a (CU (i,false))),4000⟩ ?_ ?_
  .have hl:=h8 a
   have h9:¬ a=2096:=zy
   simp[HJ,IH,HF h3,h3,Kd h3,JQ,DX,h9];refine⟨zy,zy,rfl,?_⟩
   have l24:AQ (BV 3104 a N [0,24,64,80]) 24=some 24:=H0 zy (.inl zz)
   have l80:AQ (BV 3104 a N [0,24,64,80]) 80=some 80:=H0 zy (.inl zz)
   refine Le.oStep (x:=3104) (y:=3096) h3 zy zy zy zy zy h6 (Oq _) ?_ ?_
   .simp
   .simp [l24,l80]
  have h7:=wF (a:=a) h6 (Oq (i,false))
  have hg:(grow E a (CU (i,false)) b).length<=2*i:=by
   have:=h8 b;simp only[grow,if_neg hf.symm];exact this
  obtain⟨E1,ht⟩:=AR (grow E a (CU (i,false)));rw[<- ht] at h7 hg u ⊢;refine ET rfl ?_;have h9:¬ b=3096:=zy
  simp[HJ,IH,HF h4,h4,Kd h4,JQ,DX,h9];refine⟨zy,zy,rfl,?_⟩
  refine Ap rfl ?_;simp;have l24:AQ (BV 4104 b N [0,24,64,80]) 24=some 24:=H0 zy (.inl zz)
  have l80:AQ (BV 4104 b N [0,24,64,80]) 80=some 80:=H0 zy (.inl zz)
  refine⟨i+1,zy,zy,?_⟩
  rw[u];refine Le.oStep (x:=4104) (y:=4096) h4 zy zy zy zy zy h7 (Oq _) ?_ ?_
  .simp
  .simp [l24,l80,hs]
 simp at h5;obtain rfl:i=A.length:=zy
 refine Ar (hit (arc ⟨54,[(4,.pt 24 0 0)],[(0,some ⟨1,AE f,0⟩),(24,some ⟨4,[[.I N,BO A,.rs 0 0 m,LU N A]],0⟩)],5000⟩ ?_ ?_))
 .simp [HJ,IR]
  have hu:∀ {h:Nat->Option AD},h 64=some ⟨1,Bi N (C3 A A.length),0⟩->(∀ k<N,h (k+1000)=some ⟨2,C3 A A.length k,0⟩)->conv [(0,0),(24,24)] (64::DO N) h 4 (.rs 64 0 N)=LU N A:=λ h1 h2 =>
   sC (λ k _=>To A A.length k) zz zz (λ k hk=>by simp[G8];omega) h1 h2
  refine Le.famOut (N:=N) (o:=64) (L:=[0,24]) rfl zx zz zz zz zy zy ?_ ?_ ?_
  .intro j hj
   have hh:j≠0/\j≠24:=by simpa using hj
   simp[hh.1.symm,hh.2.symm]
  .simp
  .intro j hj e' q
   simp only[Qw,Ua,or_false] at hj;rcases hj with rfl | rfl
   .simp at q
    subst q;refine⟨_,by rw[Cg zy,FK],?_⟩
    simp only[Ab];rw[HI _ (λ v=>by simp[conv]) _ zz]
    exact An.rfl' (Qn _)
   .simp at q
    subst q;refine⟨_,by rw[Lj,if_pos rfl],?_⟩
    refine An.eq ?_ (Qn _);simp only[Ab,Qp,UN];rw[hu (by rw[Cg zy,IH]) (λ k hk=>by rw[Cg zy,HF hk])]
    simp
 exact A8 (AW.k1 rfl zz (by simp[AC]))
variable {rows:List (List AV)} {φ:Int->Option AV}
abbrev rC (N:Nat) (A:List Ed) (f:AV):List AV:=[.I N,BO A,f,LU N A]
abbrev eR (N:Nat) (A:List Ed) (f:AV):AV:=.agg (rC N A f)
theorem VY {A:List Ed} {i:Nat} (h:i<A.length):A[i]? = some (AH A i):=by
 unfold AH;rw[Qe,Qa h,QO]
theorem WZ (N:Nat) (A:List Ed) (f:List Int) (s:BH) (hn:C9 ⟨N,A⟩) (hf:Bm A f) (hs:s.1<A.length):AK 120 [eR N A (AA f),.agg (CU s)] [] (.tup [.I (CF A f s),.I (Az A s)]) []:=by
 refine bZ.s.ai ?_;obtain⟨i,c⟩:=s;simp only at hs;obtain⟨h6,h3⟩:=GX.1 hf;have hA:=VY hs;have hi:=h3 i hs;have u:=hn.2.2.2 _ (Fz hs);have q:i<f.length:=zy
 obtain⟨e,he⟩:=AR (AH A i);obtain⟨w,hw⟩:=AR (f.getD i 0);have hg:f[i]? = some w:=by rw[hw,Qe,Qa q,QO]
 have hge:A[i]=e:=by rw[Qa hs,<- he] at hA;exact Qc hA
 have h0:f[i]=w:=by rw[Qa q] at hg;exact Qc hg
 rw[<- he] at u;rw[<- hw,<- he] at hi;obtain⟨_,_,_,_,_,_,_,h8,h9⟩:=u;have h5:=w6 (x:=e.v - w);refine ar [2,3] [] [16,24] 48 ?_;apply ax [2,3,6] [] [104] 200
 .simp [hs,hge]
  rfl
 refine AB (rs [2,3,6,15] [] [] ?_);refine AI _ rfl (λ h4=>?_) λ h4=>?_
 .have hc:c=true:=h4
  subst hc;have h1:CF A f (i,true)=w:=by unfold CF;simp[hw]
  have h2:Az A (i,true)=e.f:=by unfold Az;simp[he]
  rw[h1,h2];apply ay [4,5] [] [] 400
  .simp [q,h0]
   exact⟨rfl,rfl⟩
  exact Bx [] []
 have hc:c=false:=h4;subst hc;have h1:CF A f (i,false)=e.v - w:=by unfold CF;simp[hw,he]
 have h2:Az A (i,false)=e.t:=by unfold Az;simp[he]
 rw[h1,h2];refine AN ?_;apply ay [4,5] [] [] 400
 .simp [q,h0,h5]
  exact⟨rfl,rfl⟩
 exact Bx [] []
theorem Pg:∀ {l:List (Int × AV)} {q:Int × AV},(l.map (·.1)).Nodup->q∈l->Ce q.1 (Cu l)=some q.2
 | (k,x)::l,q,hn,h=>by
   rw[Qp,Q1] at hn;rw[Lo,List.find?_cons];rcases Qw.1 h with rfl | h
   .simp
   .have u:¬ k=q.1:=λ e=>hn.1 (e ▸ Qh.2 ⟨q,h,rfl⟩)
    have ih:=Pg hn.2 h;rw[Lo] at ih
    simpa [u] using ih
structure CH (rows:List (List AV)) (φ:Int->Option AV):Prop where
 is:Co rows φ
 flat:∀ n x,φ n=some x -> ∃ u v,x = .agg [.sc u,.sc v]
theorem CH.mem (h:CH rows φ) {r:List AV} (hr:r∈rows):∃ k u v,r=[.sc k,.agg [.sc u,.sc v]]:=by
 obtain⟨⟨l,rfl,hn,hf⟩,h0⟩:=h;obtain⟨q,hq,rfl⟩:=Qh.1 hr;obtain⟨u,v,e⟩:=h0 q.1 q.2 (by rw[<- hf];exact Pg hn hq)
 exact⟨_,u,v,by rw[e]⟩
theorem CH.conv (h:CH rows φ) (ρ:List (Nat × Nat)) (sn:List Nat) (g:Nat->Option AD):rows.map (·.map (conv ρ sn g 4))=rows:=by
 conv=>rhs;rw[<- List.map_id rows]
 refine Q7 λ r hr=>?_;obtain⟨k,u,v,rfl⟩:=h.mem hr;simp
theorem CH.conv' (h:CH rows φ) (ρ:List (Nat × Nat)) (sn:List Nat) (g:Nat->Option AD):rows.map (List.map (Go.Proofs.YtnaemfpgdmfmcaaGreatDoor.conv ρ sn g 4))=rows:=h.conv ρ sn g
theorem CH.plain (h:CH rows φ) (s ro:Nat):GP ⟨s,rows,ro⟩:=by
 intro r hr x hx;obtain⟨k,u,v,rfl⟩:=h.mem hr;simp only[Qw,Ua,or_false] at hx;rcases hx with rfl | rfl
 .exact .sc _
 .refine .agg _ λ i=>?_
  match i with
  | 0=>exact .sc _
  | 1=>exact .sc _
  | i+2=>exact .dead
theorem J4 (D b:List Int) (n:Int) (x:AV) (h:BJ D b n=some x):∃ u v,x = .agg [.sc u,.sc v]:=by
 unfold BJ at h;split at h
 .split at h
  .cases h;exact⟨_,_,rfl⟩
  .cases h;exact⟨_,_,rfl⟩
 .cases h
theorem CH.set {D b D' b':List Int} (h:CH rows (BJ D b)) (n:Int) (y:AV) (he:BJ D' b'=λ k=>if k=n then some y else BJ D b k):CH (A7 n y rows) (BJ D' b') :=
 ⟨by rw[he];exact h.is.set n y,J4 D' b'⟩
theorem wO {N:Nat} {A:List Ed} (hn:C9 ⟨N,A⟩) {s:BH} (hs:s.1<A.length):0<=Az A s/\Az A s<N:=by
 have:G5 N (AH A s.1):=hn.2.2.2 _ (Fz hs);obtain⟨q1,q2,q3,q4,_⟩:=this;unfold Az;split<;>omega
structure R1 where
 s:Pi
 R:List (List AV)
 m:Nat
 i:Nat
def JV (A:List Ed) (f D:List Int) (l:List BH):Prop:=∀ s∈l,0<CF A f s->Az A s∈D
theorem JV.nil {A:List Ed} {f D:List Int}:JV A f D []:=λ s h=>by simp at h
theorem TQ (N:Nat) (A:List Ed) (f:List Int) (hn:C9 ⟨N,A⟩) (hf:Bm A f) :
  ∃ x:List Int × List Int × List (List AV),(C1 N A f x.1 x.2.1/\HK A f x.1/\CH x.2.2 (BJ x.1 x.2.1))/\AK 76 [eR N A (AA f)] [] (.mp 0) [some ⟨0,x.2.2,0⟩]:=by
 refine dJ.s.acallsX (args:=[eR N A (AA f)]) (hs:=[]) (λ x=>.mp 0) (λ x=>[some ⟨0,x.2.2,0⟩]) (λ x:List Int × List Int × List (List AV)=>C1 N A f x.1 x.2.1/\HK A f x.1/\CH x.2.2 (BJ x.1 x.2.1)) (Bf rfl) (Bf rfl) (λ _=>zz) ?_
 show Ad _ 0 _ _ ⟨59,[(0,eR N A (AA f))],[],16⟩;have hj:=λ s hs=>WZ N A f s hn hf hs;have hy:=λ (s:BH) (hs:s.1<A.length)=>wO hn hs;obtain⟨an,au,av,b0⟩:=hn;simp only at an au av b0;have hl:CH ([[.I 0,.agg [.I (-1),.B false]]]) (BJ [0] (List.replicate N 0)):=⟨by rw[Z5];exact Co.nil.set 0 (.agg [.I (-1),.B false]),J4 _ _⟩
 refine ar [1] [] [16] 32 ?_;apply ax [1,3] [(32,32)] [] 72
 .simp [A7]
  rfl
 obtain⟨R0,hz⟩:∃ R0:List (List AV),R0=[[.I 0,.agg [.I (-1),.B false]]]:=⟨_,rfl⟩;rw[<- hz] at hl ⊢;refine AB (ar [1,3,4] [(32,32),(72,72)] [] 88 ?_);refine AT ?_
 refine As (ι:=R1) (λ t=>⟨59,[(1,.pv (rC N A (AA f))),(3,.mp 32),(4,.rs 72 t.s.off t.s.q)],[(32,some ⟨0,t.R,0⟩),(72,some ⟨1,AE t.s.Z,0⟩)],88⟩)
  (λ t=>Da N A f t.s t.m/\Hv A f t.s.D t.m/\CH t.R (BJ t.s.D t.s.b)) (λ t=>N - t.m) ⟨⟨[0],List.replicate N 0,[0],0,1⟩,R0,0,0⟩
  ⟨⟨C1.start zy,rfl,rfl,rfl⟩,λ s _ h=>by simp at h,hl⟩ (AJ [(32,32),(72,72)] [] zz (by simp[hl.conv'])) ?_
 rintro⟨s,R,m,_⟩ ⟨hb,hd,hR⟩
 simp only at hb hd hR;have bo:=hb.bfs.few;have c0:=hb.d;have c1:=hb.z;refine AB (ar [1,3,4,17] [(32,32),(72,72)] [] 112 ?_);refine AI _ rfl (λ h5=>?_) λ h5=>?_
 .simp at h5
  obtain⟨he,hk⟩:=hb.head h5;have bs:s.off<s.Z.length:=zy
  obtain⟨k,hm⟩:=AR (s.D[m]);rw[<- hm] at hk;have a0:k∈s.D:=hm ▸ Qj he;have c2:=hb.bfs.rng k a0;obtain⟨kn,a1,a2⟩:∃ kn:Nat,k=kn/\kn<N:=⟨k.toNat,zy,zy⟩
  obtain⟨L,hL⟩:=AR (GY A A.length kn);have a3:∀ st:BH,st∈L↔st.1<A.length/\Ch A st=k:=λ st=>by rw[hL,a1];exact XR
  have c3:L.length<=2*A.length:=by rw[hL];exact O5 A kn A.length
  have a4:C3 A A.length kn=L.map CU:=by rw[hL];rfl
  refine AN (AB (AT (Cd ⟨59,[(1,.pv (rC N A (AA f))),(3,.mp 32),(4,.rs 72 s.off s.q),(26,.vs 2 false (L.map CU)),(27,.I L.length),(28,.I 0)],[(32,some ⟨0,R,0⟩),(72,some ⟨1,AE s.Z,0⟩)],184⟩ ?_ ?_)))
  .simp [hk,h5,a1,a2,a4]
   exact⟨rfl,AJ [(32,32),(72,72)] [] (by simp[a4]) (by simp[hR.conv',AC])⟩
  refine AT ?_
  refine As (ι:=R1) (λ t=>⟨59,[(1,.pv (rC N A (AA f))),(3,.mp 32),(4,.rs 72 t.s.off t.s.q),(26,.vs 2 false (L.map CU)),(27,.I L.length),(28,.I t.i)],[(32,some ⟨0,t.R,0⟩),(72,some ⟨1,AE t.s.Z,0⟩)],184⟩)
   (λ t=>Da N A f t.s m/\CH t.R (BJ t.s.D t.s.b)/\t.i<=L.length/\JV A f t.s.D (L.take t.i) /\ ∃ l,t.s.D=s.D++l) (λ t=>L.length - t.i) ⟨s,R,m,0⟩
   ⟨hb,hR,Qn _,by rw[List.take_zero];exact JV.nil,[],zz⟩ (AJ [(32,32),(72,72)] [] zz (by simp[hR.conv',AC])) ?_
  rintro⟨t,R,_,i⟩ ⟨ht,hR,hi,ho,l,h6⟩
  simp only at ht hR hi ho h6;have c4:=ht.z;have c5:=ht.d;have c6:=ht.bfs.few;refine ar [1,3,4,26,27,28,29] [(32,32),(72,72)] [] 192 ?_;refine AB (AI _ rfl (λ h8=>?_) λ h8=>?_)
  .simp at h8
   have hw:=w6 (x:=((i:Int)+1));obtain⟨st,hu⟩:=AR (L[i]);obtain⟨hv,b1⟩:=(a3 st).1 (hu ▸ Qj h8);have a5:=hj st hv;obtain⟨a6,a7⟩:=hy st hv;have h7:=λ (h1:0<CF A f st) (h2:Az A st∉t.D)=>ht.bfs.push (s:=st) hv (by rw[b1,h6];exact QZ _ a0) h1 h2 a6 a7
   have hh:=λ (h2:Az A st∉t.D)=>dX ht.bfs h2 a6 a7;have h9:=MT t.D t.b (Az A st);have ha:=hR.is.find (Az A st)
   have h0:∀ D',(∃ l,D'=t.D++l)->Az A st∈D'∨¬ 0<CF A f st->JV A f D' (L.take (i+1)):=λ D' b2 h s' hs' hr=>by
    rw[Ql h8,<- hu] at hs';obtain⟨l',rfl⟩:=b2;rcases Qo.1 hs' with h' | h'
    .exact QZ _ (ho s' h' hr)
    .rw [Qt] at h'
     subst h';exact h.resolve_right λ hn=>hn hr
   obtain⟨T,hT⟩:=AR (Az A st);obtain⟨rm,a8⟩:=AR (CF A f st);rw[<- hT,<- a8] at a5 h7 h0;rw[<- hT] at hh h9 ha;refine AN (AB (AT (arc ⟨59,[(1,.pv (rC N A (AA f))),(3,.mp 32),(4,.rs 72 t.off t.q),(6,.pv (CU st)),(26,.vs 2 false (L.map CU)),(27,.I L.length),(28,.I i)],[(32,some ⟨0,R,0⟩),(72,some ⟨1,AE t.Z,0⟩)],232⟩ ?_ ?_)))
   .simp [h8,<- hu]
    exact AJ [(32,32),(72,72)] [208] zz (by simp[hR.conv',AC])
   refine arc ⟨59,[(1,.pv (rC N A (AA f))),(3,.mp 32),(4,.rs 72 t.off t.q),(6,.pv (CU st)),(7,.I rm),(8,.I T),(26,.vs 2 false (L.map CU)),(27,.I L.length),(28,.I i)],[(32,some ⟨0,R,0⟩),(72,some ⟨1,AE t.Z,0⟩)],300⟩ ?_ ?_
   .simp
    refine A0 a5 ?_;simp;exact AJ [(32,32),(72,72)] [] zz (by simp[hR.conv',AC])
   refine arc ⟨59,[(1,.pv (rC N A (AA f))),(3,.mp 32),(4,.rs 72 t.off t.q),(6,.pv (CU st)),(7,.I rm),(8,.I T),(10,.B (decide (T∈t.D))),(26,.vs 2 false (L.map CU)),(27,.I L.length),(28,.I i)],[(32,some ⟨0,R,0⟩),(72,some ⟨1,AE t.Z,0⟩)],400⟩ ?_ ?_
   .have b3:∃ u v,(BJ t.D t.b T).getD (Bb (Value.agg #[Value.int IntKind.i64 0,Value.bool false])) = .agg [.sc u,.sc v]:=by
     cases hc:BJ t.D t.b T with
     | none=>exact⟨.int .i64 0,.bool false,by simp[Bb,Value.oneCell']⟩
     | some x =>
       obtain⟨u,v,rfl⟩:=J4 _ _ _ _ hc;exact⟨u,v,rfl⟩
    obtain⟨u,v,b4⟩:=b3;simp[ha,h9,b4];exact AJ [(32,32),(72,72)] [] zz (by simp[hR.conv',AC])
   refine arc ⟨59,[(1,.pv (rC N A (AA f))),(3,.mp 32),(4,.rs 72 t.off t.q),(6,.pv (CU st)),(8,.I T),(26,.vs 2 false (L.map CU)),(27,.I L.length),(28,.I i),(49,.B (decide (0<rm/\T∉t.D)))],[(32,some ⟨0,R,0⟩),(72,some ⟨1,AE t.Z,0⟩)],500⟩ ?_ ?_
   .simp
    refine Cs (λ hb=>?_) (λ hb=>?_)<;>(try rw[hb])<;>(try simp at hb)<;>simp[hb]
    .exact AJ [(32,32),(72,72)] [] (by simp[hb]) (by simp[hR.conv',AC])
    .exact AJ [(32,32),(72,72)] [] (by simp[hb]) (by simp[hR.conv',AC])
   refine AI _ rfl (λ h4=>?_) λ h4=>?_
   .rw [Qf] at h4
    have a9:=h7 h4.1 h4.2;have hg:=hR.set T (IV st) (hh h4.2);have hx:=ht.more a9;have b5:=a9.few;rw[Qm,QT] at b5;have b6:∀ g:Int->List AV,List.take t.q (List.drop t.off (List.map g t.Z))=List.map g (t.Z.drop t.off):=λ g=>by rw[<- Vi,Qb zw]
    obtain⟨R',ag⟩:∃ R',R'=A7 T (IV st) R:=⟨_,rfl⟩;rw[<- ag] at hg;refine arc ⟨59,[(1,.pv (rC N A (AA f))),(3,.mp 32),(4,.rs 72 t.off t.q),(8,.I T),(26,.vs 2 false (L.map CU)),(27,.I L.length),(28,.I i)],[(32,some ⟨0,R',0⟩),(72,some ⟨1,AE t.Z,0⟩)],600⟩ ?_ ?_
    .simp
     rw[show A7 T (.agg [.I st.1,.B st.2]) R=R' from ag.symm]
     exact AJ [(32,32),(72,72)] [] zz (by simp[hg.conv',AC])
    refine Ap rfl ?_;simp[b6];refine⟨zy,zy,zy,?_⟩
    refine Ap rfl ?_;simp;refine⟨⟨⟨t.D++[T],t.b.set T.toNat (C5 st),t.Z.drop t.off++[T],0,t.q+1⟩,R',m,i+1⟩,⟨hx,hg,h8,h0 _ ⟨[T],rfl⟩ (.inl zz),l++[T],by simp only[h6,QG]⟩,by simp only;omega,?_⟩
    exact AJ [(32,32),(624,72)] [] (by simp[hw]) (by simp[hg.conv',AC])
   .rw [Qd] at h4
    refine AN (Ap rfl ?_);simp;refine⟨⟨t,R,m,i+1⟩,⟨ht,hR,h8,h0 _ ⟨[],zz⟩ ?_,l,h6⟩,by simp only;omega,AJ [(32,32),(72,72)] [] (by simp[hw]) (by simp[hR.conv',AC])⟩
    by_cases h:0<rm
    .exact .inl (Decidable.byContradiction λ hn=>h4 ⟨h,hn⟩)
    .exact .inr h
  simp at h8;obtain rfl:i=L.length:=zy
  refine Ar (hit ?_);have bt:t.D.length=s.D.length+l.length:=by rw[h6,Qm]
  have hq:0<t.q:=zy
  have ai:VL A f t.D s.D[m] A.length:=λ st h1 h2 h3=>by
   refine ho st ?_ h3;rw[QW];exact(a3 st).2 ⟨h1,by rw[hm];exact h2⟩
  refine Ap rfl ?_;simp;refine XT 1 (i:=72) rfl rfl hq ?_;simp;exact⟨⟨{ t with off:=t.off+1,q:=t.q - 1 },R,m+1,0⟩,⟨ht.pop hq,Hv.next he hd ai h6,hR⟩,by simp only;omega,AJ [(32,32),(72,72)] [] zz (by simp[hR.conv',AC])⟩
 simp at h5;have he:m=s.D.length:=zy
 refine Ar (hit (arc ⟨59,[(2,.mp 32)],[(32,some ⟨0,R,0⟩)],200⟩ ?_ ?_))
 .simp
  exact AJ [(32,32)] [] zz (by simp[hR.conv'])
 exact A9 (FF.mk (.inr rfl) (s.D,s.b,R) ⟨hb.bfs,by rw[he] at hd;exact hd.all,hR⟩ (AW.out [32] [] rfl zz zz zz (by simp[hR.conv'])))
theorem Wr:Bb (Value.agg #[Value.int IntKind.i64 0,Value.bool false]) = .agg [.sc (.int .i64 0),.sc (.bool false)]:=by simp[Bb,Value.oneCell']
theorem sL {a b:Int}:Plain (.tup [.I a,.I b]):=.tup _ λ i=>match i with
 | 0=>.sc _
 | 1=>.sc _
 | _+2=>.dead
structure cE where
 j:Nat
 v:Int
def C6 (l:List BH) (j:Nat):List BH:=(l.drop j).reverse
theorem Px (l:List BH) (j:Nat):(C6 l j).length=l.length - j:=by simp[C6]
theorem dI {l:List BH} {j:Nat} (h:j<l.length):C6 l j=C6 l (j+1)++[l[j]]:=by
 unfold C6;rw[QQ h,List.reverse_cons]
theorem fG (l:List BH):C6 l l.length=[]:=by simp[C6]
theorem vI {N:Nat} {A:List Ed} {f D b:List Int} {l:List BH} (hb:C1 N A f D b) (hl:IM N A f b l) {j:Nat} (hj:j<l.length):BJ D b (Az A l[j])=some (IV l[j]):=by
 obtain⟨q1,q2,q3,q4,q5,q6⟩:=hl.at_ j hj;have hD:Az A l[j]∈D:=Decidable.byContradiction λ h=>WS l[j] (by rw[<- q6];exact hb.out _ q4 h)
 unfold BJ;rw[if_pos hD,if_neg q3,q6,PZ]
theorem vG (N:Nat) (A:List Ed) (f:List Int) (hn:C9 ⟨N,A⟩) (hf:BL N A f) :
  ∃ x:Bool × List Int,(if x.1 then BL N A x.2/\Aa A f+1<=Aa A x.2 else x.2=f /\ ∀ f',BL N A f'->Aa A f'<=Aa A f)/\AK 159 [eR N A (.rs 0 0 A.length)] [⟨1,AE f,0⟩] (.B x.1) [some ⟨1,AE x.2,0⟩]:=by
 refine fS.s.acallsX (args:=[eR N A (.rs 0 0 A.length)]) (hs:=[⟨1,AE f,0⟩]) (λ x=>.B x.1) (λ x=>[some ⟨1,AE x.2,0⟩]) (λ x:Bool × List Int=>if x.1 then BL N A x.2/\Aa A f+1<=Aa A x.2 else x.2=f /\ ∀ f',BL N A f'->Aa A f'<=Aa A f) (Bf rfl) (Bf rfl) (λ _=>zz) ?_
 show Ad _ 1 _ _ ⟨86,[(0,eR N A (.rs 0 0 A.length))],[(0,some ⟨1,AE f,0⟩)],16⟩;have b2:=H4 hn;have a3:=hf.fit.len;have hy:=GX.1 hf.fit;obtain⟨⟨D,b,R⟩,⟨hb,b3,hR⟩,h8⟩:=TQ N A f hn hf.fit;simp only at hb b3 hR h8;have a4:=λ s hs=>WZ N A f s hn hf.fit hs;obtain⟨c5,c6,cb,a5⟩:=hn;simp only at c5 c6 cb a5;have h9:∀ g:Int->List AV,List.take A.length (List.map g f)=List.map g f:=λ g=>Qb zw
 have ha:=hR.is.find;have a6:=MT D b 1;refine ar [1] [(0,0),(16,16)] [] 32 ?_;refine arc ⟨86,[(1,.pt 16 0 0),(3,.mp 60)],[(0,some ⟨1,AE f,0⟩),(16,some ⟨4,[rC N A (.rs 0 0 A.length)],0⟩),(60,some ⟨0,R,0⟩)],100⟩ ?_ ?_
 .simp
  refine JU [0] h8 (by simp[AC,h9,a3]) (.mp _) (hR.plain _ _) ?_
  simp;exact AJ [(0,0),(16,16),(40,60)] [] zz (by simp[AC,hR.conv'])
 refine AB ?_
 have cd:∃ u v,(BJ D b 1).getD (Bb (Value.agg #[Value.int IntKind.i64 0,Value.bool false])) = .agg [.sc u,.sc v]:=by
  cases hc:BJ D b 1 with
  | none=>exact⟨_,_,Wr⟩
  | some x =>
    obtain⟨u,v,rfl⟩:=J4 _ _ _ _ hc;exact⟨u,v,rfl⟩
 refine arc ⟨86,[(1,.pt 16 0 0),(3,.mp 60),(5,.B (decide ((1:Int)∈D)))],[(0,some ⟨1,AE f,0⟩),(16,some ⟨4,[rC N A (.rs 0 0 A.length)],0⟩),(60,some ⟨0,R,0⟩)],200⟩ ?_ ?_
 .obtain ⟨u,v,cl⟩:=cd
  simp[ha,a6,cl];exact AJ [(0,0),(16,16),(60,60)] [] zz (by simp[AC,hR.conv'])
 refine arc ⟨86,[(1,.pt 16 0 0),(3,.mp 60),(22,.B (!decide ((1:Int)∈D)))],[(0,some ⟨1,AE f,0⟩),(16,some ⟨4,[rC N A (.rs 0 0 A.length)],0⟩),(60,some ⟨0,R,0⟩)],300⟩ ?_ ?_
 .simp
  exact AJ [(0,0),(16,16),(60,60)] [] zz (by simp[AC,hR.conv'])
 refine AI _ rfl (λ h5=>?_) λ h5=>?_
 .have a7:(1:Int)∉D:=by simpa using h5
  refine ar [2] [(0,0)] [] 400 ?_;exact A9 (FF.mk (.inr rfl) (false,f) ⟨rfl,(Lu b2 hf hb.mem0 a7 b3).2⟩ (AW.k1 rfl zz (by simp[AC])))
 have a7:(1:Int)∈D:=by simpa using h5
 obtain⟨l,hl⟩:=hb.chain a7;have a8:=W7 hl.way
 have b4:∀ s∈l,s.1<f.length:=λ s hs=>by
  obtain⟨i,hi,rfl⟩:=QA.1 hs;have:=(hl.at_ i hi).1;omega
 have d7:0<l.length:=by
  cases cp:l with
  | nil=>rw[cp] at a8;cases a8
  | cons=>simp
 have dd:l.length<=A.length:=by
  have:=HT (a:=l.map λ s=>(s.1:Int)) (b:=(List.range A.length).map λ i:Nat=>(i:Int)) (by
   have:=hl.nodup;have e:(l.map λ s=>(s.1:Int))=(l.map (·.1)).map λ i:Nat=>(i:Int):=zz
   rw[e]
   exact I9 (λ i j h=>by have h2:(i:Int)=j:=h;omega) this) λ x hx=>by
   obtain⟨s,hs,rfl⟩:=Qh.1 hx;exact Qh.2 ⟨s.1,QP.2 (by have:=b4 s hs;omega),rfl⟩
  rw[QB,QB,UP] at this;exact this
 have b5:=λ j (hj:j<l.length)=>vI hb hl hj;refine AN (arc ⟨86,[(1,.pt 16 0 0),(3,.mp 60),(6,.rs 61 0 0)],[(0,some ⟨1,AE f,0⟩),(16,some ⟨4,[rC N A (.rs 0 0 A.length)],0⟩),(60,some ⟨0,R,0⟩),(61,some ⟨2,[],0⟩)],400⟩ ?_ ?_)
 .simp
  refine Le.lst [(0,0),(16,16),(60,60)] [] [(61,2)] rfl zz zz zz zz zz zz zz (by simp[Up]) ?_
  simp[AC,hR.conv']
  exact⟨An.rfl' (Qn _),An.rfl' (Qn _),An.rfl' (Qn _)⟩
 refine ar [1,3,6,7] [(0,0),(16,16),(60,60),(61,61)] [] 500 ?_;refine G1 (ι:=Int) (λ v=>⟨86,[(1,.pt 16 0 0),(6,.rs 61 0 l.length),(7,.I v)],[(0,some ⟨1,AE f,0⟩),(16,some ⟨4,[rC N A (.rs 0 0 A.length)],0⟩),(61,some ⟨2,(C6 l 0).map CU,0⟩)],600⟩) (λ v=>1<=v/\v<=1048576/\Jp A f l 0 v) ?_ λ v hv=>?_
 .refine arc ⟨86,[(1,.pt 16 0 0),(3,.mp 60),(6,.rs 61 0 0),(7,.I 1048576),(8,.I 1)],[(0,some ⟨1,AE f,0⟩),(16,some ⟨4,[rC N A (.rs 0 0 A.length)],0⟩),(60,some ⟨0,R,0⟩),(61,some ⟨2,[],0⟩)],600⟩ ?_ ?_
  .simp
   exact AJ [(0,0),(16,16),(60,60),(61,61)] [] zz (by simp[AC,hR.conv'])
  refine AT ?_
  refine As (ι:=cE) (λ s=>⟨86,[(1,.pt 16 0 0),(3,.mp 60),(6,.rs 61 0 (l.length - s.j)),(7,.I s.v),(8,.I (DW A 0 l s.j))],[(0,some ⟨1,AE f,0⟩),(16,some ⟨4,[rC N A (.rs 0 0 A.length)],0⟩),(60,some ⟨0,R,0⟩),(61,some ⟨2,(C6 l s.j).map CU,0⟩)],600⟩)
   (λ s=>s.j<=l.length/\1<=s.v/\s.v<=1048576/\Jp A f l s.j s.v) (λ s=>s.j) ⟨l.length,1048576⟩ ⟨Qk _,zz,zz,by simp[Jp]⟩ (AJ [(0,0),(16,16),(60,60),(61,61)] [] (by simp[a8]) (by simp[AC,hR.conv',fG])) ?_
  rintro⟨j,v⟩ ⟨hj,a9,ag,hd⟩
  simp only at hj a9 ag hd;refine AB (arc ⟨86,[(1,.pt 16 0 0),(3,.mp 60),(6,.rs 61 0 (l.length - j)),(7,.I v),(8,.I (DW A 0 l j)),(24,.B (!decide (DW A 0 l j=0)))],[(0,some ⟨1,AE f,0⟩),(16,some ⟨4,[rC N A (.rs 0 0 A.length)],0⟩),(60,some ⟨0,R,0⟩),(61,some ⟨2,(C6 l j).map CU,0⟩)],700⟩ ?_ ?_)
  .simp
   exact AJ [(0,0),(16,16),(60,60),(61,61)] [] (by simp<;>exact BA (by rw[Qv];simp)) (by simp[AC,hR.conv'])
  refine AI _ rfl (λ h7=>?_) λ h7=>?_
  .simp at h7
   obtain⟨i,rfl⟩:∃ i,j=i+1:=by
    cases j with
    | zero=>exact absurd rfl h7
    | succ i=>exact⟨i,rfl⟩
   have hi:i<l.length:=zy
   obtain⟨q1,q2,q3,q4,q5,q6⟩:=hl.at_ i hi;have ai:=hl.from_ i hi;have an:=b5 i hi;have hh:=dI hi;have cq:=Px l (i+1);obtain⟨s,hs⟩:=AR (l[i])
   have hk:DW A 0 l (i+1)=Az A s:=by
    show Az A (l.getD i (0,false))=_;rw[Qe,Qa hi,hs];rfl
   have b6:∀ v':Int,v'<=v->v'<=CF A f s->Jp A f l i v':=λ v' h1 h2 t ht=>by
    rw[QQ hi,<- hs] at ht;rcases Qw.1 ht with rfl | ht
    .exact h2
    .exact Int.le_trans h1 (hd t ht)
   rw[<- hs] at q1 q2 q3 q4 q5 q6 ai an hh;have au:=a4 s q1
   have bo:CF A f s<=1048576:=by
    have h1:=hy.2 s.1 q1;have h2:=(a5 _ (Fz q1)).2.2.2.2.2.2.2.2;unfold CF;split<;>omega
   rw[hk];obtain⟨k,d0⟩:=AR (Az A s);obtain⟨rm,d1⟩:=AR (CF A f s);obtain⟨W,hW⟩:=AR (C6 l (i+1));rw[<- d0] at q3 q4 q5 q6 an au ⊢;rw[<- d1] at q2 au bo b6;rw[<- hW] at hh cq;have hm:=VY q1;have bs:l.length - (i+1)=W.length:=zy
   rw[bs,<- hW];refine AN (AT ?_);apply ax [1,3,6,7,9] [(0,0),(16,16),(60,60),(61,61)] [724] 800
   .simp [ha,an,IV]
    rfl
   refine arc ⟨86,[(1,.pt 16 0 0),(3,.mp 60),(6,.rs 61 0 W.length),(7,.I v),(9,.pv (CU s)),(10,.I rm)],[(0,some ⟨1,AE f,0⟩),(16,some ⟨4,[rC N A (.rs 0 0 A.length)],0⟩),(60,some ⟨0,R,0⟩),(61,some ⟨2,W.map CU,0⟩)],900⟩ ?_ ?_
   .simp
    refine F6 [0] au (by simp[AC,h9,a3]) sL ?_
    simp;exact AJ [(0,0),(16,16),(60,60),(61,61)] [] zz (by simp[AC,hR.conv'])
   refine arc ⟨86,[(1,.pt 16 0 0),(3,.mp 60),(6,.rs 62 0 (W.length+1)),(7,.I (if rm<v then rm else v)),(9,.pv (CU s))],[(0,some ⟨1,AE f,0⟩),(16,some ⟨4,[rC N A (.rs 0 0 A.length)],0⟩),(60,some ⟨0,R,0⟩),(62,some ⟨2,(W++[s]).map CU,0⟩)],1000⟩ ?_ ?_
   .have av:∀ g:BH->List AV,List.take W.length (List.map g W)=List.map g W:=λ g=>Qb zz
    simp[av];exact⟨zy,zy,AJ [(0,0),(16,16),(60,60),(924,62)] [] zz (by simp[AC,hR.conv'])⟩
   have ho:Ch A s=if s.2 then (AH A s.1).t else (AH A s.1).f:=rfl
   have df:(s.1:Int)<A.length:=zy
   apply ax [1,3,6,7,8,9] [(0,0),(16,16),(60,60),(62,62)] [] 1100
   .have he:A[s.1]=AH A s.1:=by rw[Qa q1] at hm;exact Qc hm
    simp[q1,he];rfl
   refine arc ⟨86,[(1,.pt 16 0 0),(3,.mp 60),(6,.rs 62 0 (W.length+1)),(7,.I (if rm<v then rm else v)),(8,.I (AH A s.1).f),(9,.pv (CU s)),(50,.B s.2)],[(0,some ⟨1,AE f,0⟩),(16,some ⟨4,[rC N A (.rs 0 0 A.length)],0⟩),(60,some ⟨0,R,0⟩),(62,some ⟨2,(W++[s]).map CU,0⟩)],1200⟩ ?_ ?_
   .simp
    exact AJ [(0,0),(16,16),(60,60),(62,62)] [] zz (by simp[AC,hR.conv'])
   have hz:l.length - i=W.length+1:=zy
   have a0:i<=l.length/\1<=(if rm<v then rm else v)/\(if rm<v then rm else v)<=1048576/\Jp A f l i (if rm<v then rm else v):=⟨zy,by split<;>omega,by split<;>omega,b6 _ (by split<;>omega) (by split<;>omega)⟩
   refine AI _ rfl (λ q=>?_) λ q=>?_
   .have he:A[s.1]=AH A s.1:=by rw[Qa q1] at hm;exact Qc hm
    rw[if_pos q] at ho;refine Ap rfl ?_;simp[q1,he];exact⟨⟨i,if rm<v then rm else v⟩,a0,Nat.lt_succ_self i,AJ [(0,0),(16,16),(60,60),(62,61)] [] (by simp[hz,<- ai,ho]) (by simp[AC,hR.conv',hh])⟩
   .rw [if_neg (by simp[q])] at ho
    exact AN ⟨⟨i,if rm<v then rm else v⟩,a0,Nat.lt_succ_self i,AJ [(0,0),(16,16),(60,60),(62,61)] [] (by simp[hz,<- ai,ho]) (by simp[AC,hR.conv',hh])⟩
  simp at h7
  obtain rfl:j=0:=by
   cases j with
   | zero=>rfl
   | succ i =>
     have h2:=(hl.at_ i zy).2.2.1
     refine absurd ?_ h2;have h3:DW A 0 l (i+1)=Az A (l.getD i (0,false)):=rfl;rw[h3,Qe,Qa zy] at h7
     exact h7
  exact Ar (hit ⟨v,⟨a9,ag,hd⟩,CO [(0,0),(16,16),(61,61)] []⟩)
 obtain⟨a9,ag,hd⟩:=hv;have a1:∀ s∈l,v<=CF A f s:=λ s hs=>hd s (by simpa using hs)
 obtain⟨d2,bt⟩:=hl.push b2 hf zy a1
 have b0:=Px l 0;obtain⟨W,hW⟩:=AR (C6 l 0);rw[<- hW] at b0 ⊢;have b0:l.length=W.length:=zy
 refine AB (arc ⟨86,[(1,.pt 16 0 0),(7,.I v),(59,.vs 2 false (W.map CU)),(60,.I W.length),(61,.I 0)],[(0,some ⟨1,AE f,0⟩),(16,some ⟨4,[rC N A (.rs 0 0 A.length)],0⟩)],700⟩ ?_ ?_)
 .have av:∀ g:BH->List AV,List.take W.length (List.map g W)=List.map g W:=λ g=>Qb zz
  simp;exact AJ [(0,0),(16,16)] [61] (by simp[b0,av,AC]) (by simp[AC])
 refine AT (As (ι:=Nat) (λ i=>⟨86,[(1,.pt 16 0 0),(7,.I v),(59,.vs 2 false (W.map CU)),(60,.I W.length),(61,.I i)],[(0,some ⟨1,AE (ES v f l (l.length - i)),0⟩),(16,some ⟨4,[rC N A (.rs 0 0 A.length)],0⟩)],700⟩) (λ i=>i<=W.length) (λ i=>W.length - i) 0 (Qn _) (AJ [(0,0),(16,16)] [] zz (by simp[AC,eZ])) ?_)
 intro i hi;have a2:(ES v f l (l.length - i)).length=A.length:=by rw[fY,a3]
 refine ar [1,7,59,60,61,62] [(0,0),(16,16)] [] 800 ?_;refine AB (AI _ rfl (λ hg=>?_) λ hg=>?_)
 .simp at hg
  have c0:=w6 (x:=((i:Int)+1));obtain⟨j,hj⟩:∃ j,l.length - i=j+1:=⟨l.length - i - 1,zy⟩
  have hq:j<l.length:=zy
  have c1:l.length - (i+1)=j:=zy
  have c2:W[i]=l[j]:=by
   have:W[i]? = some l[j]:=by
    rw[hW];unfold C6;rw[Vb,List.getElem?_reverse zy,Qa zy]
    congr 1
    congr 1
    omega
   rw[Qa hg] at this;exact Qc this
  rw[hj] at a2 ⊢;obtain⟨q1,q2,q3,q4,q5,q6⟩:=hl.at_ j hq;have h0:=gX (v:=v) (f:=f) j hq;have h4:=aZ (v:=v) hl.nodup b4 j hq;have hr:=a1 _ (Qj hq);obtain⟨s,hs⟩:=AR (l[j]);rw[<- hs] at q1 h0 h4 hr c2;obtain⟨F,hF⟩:=AR (ES v f l (j+1));rw[<- hF] at a2 h4 h0 ⊢;have d3:=hy.2 s.1 q1;have dn:=(a5 _ (Fz q1)).2.2.2.2.2.2.2.2;obtain⟨w,hw⟩:=AR (f.getD s.1 0);have hu:s.1<F.length:=zy
  have c3:F[s.1]=w:=by
   have:F[s.1]? = some w:=by rw[hw,<- h4,Qe,Qa hu,QO]
   rw[Qa hu] at this;exact Qc this
  rw[<- hw] at d3;have h6:ES v f l j=F.set s.1 (w+if s.2 then -v else v):=by rw[h0];unfold E4;rw[h4,<- hw]
  have c4:CF A f s=if s.2 then w else (AH A s.1).v - w:=by unfold CF;rw[<- hw]
  refine AN (AB (AT ?_));apply ax [1,7,13,59,60,61] [(0,0),(16,16)] [816] 900
  .simp [hg,c2]
   rfl
  refine ar [1,7,13,59,60,61,66] [(0,0),(16,16)] [] 1000 ?_;have ds:(s.1:Int)<A.length:=zy
  refine AI _ rfl (λ q=>?_) λ q=>?_
  .rw [if_pos q] at h6 c4
   have b1:IntKind.i64.wrap (w - v)=w + -v:=by rw[w6];omega
   refine Ap rfl ?_;simp[q1,hu,c3,b1,Ax];refine Ap rfl ?_;simp;exact⟨i+1,zy,zy,AJ [(0,0),(16,16)] [] (by simp[c0]) (by simp[AC,c1,h6])⟩
  .rw [if_neg (by simp[q])] at h6 c4
   have b1:=w6 (x:=w+v);refine Ap rfl ?_;simp[q1,hu,c3,b1,Ax];refine Ap rfl ?_;simp;exact⟨i+1,zy,zy,AJ [(0,0),(16,16)] [] (by simp[c0]) (by simp[AC,c1,h6])⟩
 simp at hg;obtain rfl:i=W.length:=zy
 rw[show l.length - W.length=0 by omega]
 refine Ar (hit (ar [2] [(0,0)] [] 900 ?_));exact A9 (FF.mk (.inr rfl) (true,ES v f l 0) ⟨d2,by rw[bt];omega⟩ (AW.k1 rfl zz (by simp[AC])))
theorem AW.k2n {rs:List (Nat × Option (Bool × Nat))} {st:St} {vs:List AV} {res:AV} {e0 e1 e:AD} (i:Nat) (hi:2<=i) (h1:Ek st rs=some vs) (hw:Wk (conv [(0,0),(1,1),(i,2)] [] st.hp 4 (C2 vs)) res) (h0:(st.hp 0).map (Ab [(0,0),(1,1),(i,2)] [] st.hp 4)=some e0) (h2:(st.hp 1).map (Ab [(0,0),(1,1),(i,2)] [] st.hp 4)=some e1) (he:(st.hp i).map (Ab [(0,0),(1,1),(i,2)] [] st.hp 4)=some e):AW rs 2 st res [some e0,some e1,some e]:=by
 have e2:List.range 2++[i]=[0,1,i]:=rfl;refine⟨vs,h1,[i],[],?_,by simpa using hi,zz,?_,?_⟩
 .rw [e2]
  simp;omega
 .rw [e2]
  exact hw
 .rw [e2]
  show [_,_,_]=_;have q:Option.map (Ab (([0,1,i]:List Nat).zipIdx) [] st.hp 4) (st.hp 0)=some e0:=h0;have u:Option.map (Ab (([0,1,i]:List Nat).zipIdx) [] st.hp 4) (st.hp 1)=some e1:=h2;have h3:Option.map (Ab (([0,1,i]:List Nat).zipIdx) [] st.hp 4) (st.hp i)=some e:=he;simp only[Qp,UN,q,u,h3]
theorem AW.k2 {rs:List (Nat × Option (Bool × Nat))} {st:St} {vs:List AV} {res:AV} {e0 e1:AD} (h1:Ek st rs=some vs) (hw:Wk (conv [(0,0),(1,1)] [] st.hp 4 (C2 vs)) res) (h0:(st.hp 0).map (Ab [(0,0),(1,1)] [] st.hp 4)=some e0) (h2:(st.hp 1).map (Ab [(0,0),(1,1)] [] st.hp 4)=some e1):AW rs 2 st res [some e0,some e1] :=
 ⟨vs,h1,[],[],zx,zz,zz,hw,by
  show [_,_]=_;have q:Option.map (Ab ((List.range 2++[]:List Nat).zipIdx) [] st.hp 4) (st.hp 0)=some e0:=h0;have u:Option.map (Ab ((List.range 2++[]:List Nat).zipIdx) [] st.hp 4) (st.hp 1)=some e1:=h2
  simp only[q,u]⟩
theorem kW {N:Nat} {D b:List Int} {R:List (List AV)} (hR:CH R (BJ D b)) (k:Int):AK 77 [.I k,.pt 0 0 0] [⟨1,[[.mp 1]],0⟩,⟨0,R,0⟩] (.B (decide (k∈D))) [some ⟨1,[[.mp 1]],0⟩,some ⟨0,R,0⟩]:=by
 refine mY.s.ai ?_;have q:=hR.is.find;have h0:=MT D b k
 have h1:∃ u v,(BJ D b k).getD (Bb (Value.agg #[Value.int IntKind.i64 0,Value.bool false])) = .agg [.sc u,.sc v]:=by
  cases hc:BJ D b k with
  | none=>exact⟨_,_,Wr⟩
  | some x =>
    obtain⟨u,v,rfl⟩:=J4 _ _ _ _ hc;exact⟨u,v,rfl⟩
 obtain⟨u,v,h2⟩:=h1;refine rk (s:=?s1) [0,1] [0,1] rfl ?o1 ?q1
 case o1=>simp;rfl
 apply ax [5] [(0,0),(1,1)] [] 200
 .simp [q,h0,h2]
  rfl
 refine arc ⟨13,[(3,.B (decide (k∈D)))],[(0,some ⟨1,[[.mp 1]],0⟩),(1,some ⟨0,R,0⟩)],300⟩ ?_ ?_
 .simp
  exact AJ [(0,0),(1,1)] [] zz (by simp[hR.conv'])
 exact A8 (AW.k2 rfl zz zz (by simp[hR.conv']))
theorem jJ {D b:List Int} {R:List (List AV)} (hR:CH R (BJ D b)) (N:Nat) (hN:N<=1000000) :
  AK 60 [.I N,.fn (.func 77) [] [.pt 0 0 0]] [⟨1,[[.mp 1]],0⟩,⟨0,R,0⟩] (.rs 2 0 (DP D N).length) [some ⟨1,[[.mp 1]],0⟩,some ⟨0,R,0⟩,some ⟨1,AE (DP D N),0⟩]:=by
 refine Lm.s.ai ?_;refine ar [0,1] [(0,0),(1,1)] [] 24 ?_;refine arc ⟨20,[(0,.I N),(1,.fn (.func 77) [] [.pt 0 0 0]),(5,.rs 50 0 0)],[(0,some ⟨1,[[.mp 1]],0⟩),(1,some ⟨0,R,0⟩),(50,some ⟨1,[],0⟩)],100⟩ ?_ ?_
 .simp
  refine Le.lst [(0,0),(1,1)] [] [(50,1)] rfl zz zz zz zz zz zz zz (by simp[Up,conv]) ?_
  simp[hR.conv']
  exact⟨An.rfl' (Qn _),An.rfl' (Qn _)⟩
 refine AB (ar [1,5,7,8] [(0,0),(1,1),(50,50)] [] 200 ?_);refine AT (As (ι:=Nat) (λ k=>⟨20,[(1,.fn (.func 77) [] [.pt 0 0 0]),(5,.rs 50 0 (DP D k).length),(7,.I N),(8,.I k)],[(0,some ⟨1,[[.mp 1]],0⟩),(1,some ⟨0,R,0⟩),(50,some ⟨1,AE (DP D k),0⟩)],200⟩) (λ k=>k<=N) (λ k=>N - k) 0 (Qn _) (AJ [(0,0),(1,1),(50,50)] [] (by simp[conv,DP]) (by simp[hR.conv',DP])) ?_)
 intro k hk;have h0:=v8 D k;refine ar [1,5,7,8,9] [(0,0),(1,1),(50,50)] [] 300 ?_;refine AB (AI _ rfl (λ h=>?_) λ h=>?_)
 .simp at h
  have u:=w6 (x:=((k:Int)+1));have q:=bN D k;refine AN (CX ⟨20,[(1,.fn (.func 77) [] [.pt 0 0 0]),(5,.rs 50 0 (DP D (k+1)).length),(7,.I N),(8,.I k)],[(0,some ⟨1,[[.mp 1]],0⟩),(1,some ⟨0,R,0⟩),(50,some ⟨1,AE (DP D (k+1)),0⟩)],1000⟩ ?_ ?_)
  .rw [q]
   obtain⟨W,hW⟩:=AR (DP D k);rw[<- hW] at h0 ⊢;refine AT (arc ⟨20,[(1,.fn (.func 77) [] [.pt 0 0 0]),(5,.rs 50 0 W.length),(6,.I k),(7,.I N),(8,.I k)],[(0,some ⟨1,[[.mp 1]],0⟩),(1,some ⟨0,R,0⟩),(50,some ⟨1,AE W,0⟩)],400⟩ ?_ ?_)
   .simp
    exact AJ [(0,0),(1,1),(50,50)] [] (by simp[conv]) (by simp[hR.conv',AC])
   refine arc ⟨20,[(1,.fn (.func 77) [] [.pt 0 0 0]),(5,.rs 50 0 W.length),(6,.I k),(7,.I N),(8,.I k),(13,.B (decide ((k:Int)∈D)))],[(0,some ⟨1,[[.mp 1]],0⟩),(1,some ⟨0,R,0⟩),(50,some ⟨1,AE W,0⟩)],500⟩ ?_ ?_
   .simp
    refine Ik (i:=0) (j:=1) zx rfl rfl zz (by simp[hR.conv']) (kW (N:=N) hR k) zz zz ?_
    simp[hR.conv']
    exact AJ [(0,0),(1,1),(50,50)] [] (by simp[conv]) (by simp[hR.conv',AC])
   refine AI _ rfl (λ h5=>?_) λ h5=>?_
   .rw [Qf] at h5
    rw[if_pos h5];have h1:∀ g:Int->List AV,List.take W.length (List.map g W)=List.map g W:=λ g=>Qb zz
    refine Ap rfl ?_;simp[h1];exact⟨zy,zy,AJ [(0,0),(1,1),(524,50)] [] (by simp[conv]) (by simp[hR.conv',AC])⟩
   .rw [Qd] at h5
    rw[if_neg h5,Q0];exact AN (AJ [(0,0),(1,1),(50,50)] [] (by simp[conv]) (by simp[hR.conv',AC]))
  refine Ap rfl ?_;simp[u];exact⟨k+1,zy,zy,AJ [(0,0),(1,1),(50,50)] [] (by simp[conv,u]) (by simp[hR.conv',AC])⟩
 simp at h;obtain rfl:k=N:=zy
 refine Ar (hit (arc ⟨20,[(4,.rs 50 0 (DP D k).length)],[(0,some ⟨1,[[.mp 1]],0⟩),(1,some ⟨0,R,0⟩),(50,some ⟨1,AE (DP D k),0⟩)],400⟩ ?_ ?_))
 .simp
  exact AJ [(0,0),(1,1),(50,50)] [] zz (by simp[hR.conv',AC])
 exact A8 (AW.k2n 50 zy rfl zz zz (by simp[hR.conv']) (by simp[AC]))
def Ck (L:List Int) (a:Nat):Nat->List Int × Nat
 | 0=>([],a)
 | m+1=>(if (Af L (Ck L a m).2 3).1=0 then (Ck L a m).1++[(m:Int)] else (Ck L a m).1,(Af L (Ck L a m).2 3).2)
theorem On {L:List Int} {a:Nat} (ha:a<=L.length):∀ m,(Ck L a m).2<=L.length
 | 0=>ha
 | m+1=>D7 (On ha m)
theorem N9 {L:List Int} {a:Nat}:∀ m,(Ck L a m).1.length<=m
 | 0=>Qk _
 | m+1=>by
   have:=N9 (L:=L) (a:=a) m;unfold Ck;simp only;split
   .rw [Qm];simp;omega
   .omega
theorem AW.k1n {rs:List (Nat × Option (Bool × Nat))} {st:St} {vs:List AV} {res:AV} {e0 e:AD} (i:Nat) (hi:1<=i) (h1:Ek st rs=some vs) (hw:Wk (conv [(0,0),(i,1)] [] st.hp 4 (C2 vs)) res) (h0:(st.hp 0).map (Ab [(0,0),(i,1)] [] st.hp 4)=some e0) (he:(st.hp i).map (Ab [(0,0),(i,1)] [] st.hp 4)=some e):AW rs 1 st res [some e0,some e] :=
 ⟨vs,h1,[i],[],by simp[List.range,List.range.loop];omega,by simpa using hi,zz,by simpa [List.range,List.range.loop] using hw,by simpa [List.range,List.range.loop] using ⟨by simpa using h0,by simpa using he⟩⟩
theorem eS (L:List Int) (a N:Nat) (hl:L.length<=400) (ha:a<=L.length) (hN:N<=1000):AK 9 [.pt 0 0 0,.I N] [AS L a] (.rs 1 0 (Ck L a N).1.length) [some (AS L (Ck L a N).2),some ⟨1,AE (Ck L a N).1,0⟩]:=by
 refine k8.s.acalls (Bf rfl) (Bf rfl) zz ?_
 show Ad _ 1 _ _ ⟨20,[(0,.pt 0 0 0),(1,.I N)],[(0,some (AS L a))],16⟩;refine AB (AY ?_);refine AB (AY ?_);refine AB (AB (AY ?_));refine AT (As (ι:=Nat) (λ m=>⟨20,[(0,.pt 0 0 0),(1,.I N),(5,.rs 16 0 (Ck L a m).1.length),(6,.I m)],[(0,some (AS L (Ck L a m).2)),(16,some ⟨1,AE (Ck L a m).1,0⟩)],40⟩) (λ m=>m<=N) (λ m=>N - m) 0 (Qn _) ?_ ?_)
 .refine Le.lst [(0,0)] [] [(16,1)] rfl zz zz zz zz zz zz zz (by simp[Up,Ck]) λ p hp e' u=>?_
  simp[Ck] at hp;rcases hp with rfl | rfl
  .cases u
   exact .inl ⟨(0,0),zz,rfl,_,rfl,An.eq (by simp[AC]) zz⟩
  .cases u
   exact .inr ⟨zz,zz,rfl⟩
 intro m hm;have h0:=On (L:=L) ha m;have h1:=N9 (L:=L) (a:=a) m;have h3:=Hd L (Ck L a m).2 3 hl h0 zy
 obtain⟨X,hX⟩:=AR ((Ck L a m).1);obtain⟨b,hb⟩:=AR ((Ck L a m).2);have q:Ck L a (m+1)=(if (Af L b 3).1=0 then X++[(m:Int)] else X,(Af L b 3).2):=by rw[hX,hb];rfl
 rw[<- hX] at h1;rw[<- hb] at h0 h3;rw[<- hX,<- hb];refine AB (arc ⟨20,[(0,.pt 0 0 0),(1,.I N),(5,.rs 16 0 X.length),(6,.I m),(9,.B (decide (m<N)))],[(0,some (AS L b)),(16,some ⟨1,AE X,0⟩)],64⟩ ?_ ?_)
 .simp
  exact Cp
 refine AI _ rfl (λ h=>AN ?_) λ h=>Ar (hit ?_)
 .simp only[Qf] at h
  have h4:=wq (k:=m);refine CX ⟨20,[(0,.pt 0 0 0),(1,.I N),(5,.rs 16 0 (Ck L a (m+1)).1.length),(6,.I m)],[(0,some (AS L (Ck L a (m+1)).2)),(16,some ⟨1,AE (Ck L a (m+1)).1,0⟩)],64⟩ ?_ ?_
  .refine AT (arc ⟨20,[(0,.pt 0 0 0),(1,.I N),(5,.rs 16 0 X.length),(6,.I m),(14,.B (decide ((Af L b 3).1=0)))],[(0,some (AS L (Af L b 3).2)),(16,some ⟨1,AE X,0⟩)],88⟩ ?_ ?_)
   .simp
    refine B6 (i:=0) rfl (e':=AS L b) (by simp[AC]) h3 zz zz ?_
    simp[AC];exact Le.keep rfl (Qk _) (by simp<;>rw[Qv]<;>simp) zz
   refine AI _ rfl (λ h2=>?_) λ h2=>AN ?_
   .simp only[Qf] at h2
    rw[if_pos h2] at q;rw[q];refine Ap rfl ?_;simp;refine⟨zy,zy,?_⟩
    refine Le.ents [(0,0),(112,16)] [] rfl zz zz zz zz zz zz λ p hp=>?_
    simp at hp;rcases hp with rfl | rfl
    .exact ⟨0,_,_,rfl,zz,rfl,An.eq (by simp[AC]) zz⟩
    .exact ⟨112,_,_,rfl,zz,rfl,An.eq (by simp[AC];try rw[Qb zz]) zz⟩
   .simp only[Qd] at h2
    rw[if_neg h2] at q;rw[q];show Le 1 _ ⟨20,[(0,.pt 0 0 0),(1,.I N),(5,.rs 16 0 X.length),(6,.I m)],[(0,some (AS L (Af L b 3).2)),(16,some ⟨1,AE X,0⟩)],64⟩;refine Le.ents [(0,0),(16,16)] [] rfl zz zz zz zz zz zz λ p hp=>?_
    simp at hp;rcases hp with rfl | rfl
    .exact ⟨0,_,_,rfl,zz,rfl,An.eq (by simp[AC]) zz⟩
    .exact ⟨16,_,_,rfl,zz,rfl,An.eq (by simp[AC]) zz⟩
  refine Ap rfl ?_;simp[h4];refine⟨m+1,zy,zy,?_⟩
  refine Le.ents [(0,0),(16,16)] [] rfl zz zz zz zz zz zz λ p hp=>?_
  simp at hp;rcases hp with rfl | rfl
  .exact ⟨0,_,_,rfl,zz,rfl,An.eq (by simp[AC]) zz⟩
  .exact ⟨16,_,_,rfl,zz,rfl,An.eq (by simp[AC]) zz⟩
 simp only[Qd] at h;obtain rfl:m=N:=zy
 refine AB (AY ?_);refine A9 ?_;rw[<- hX,<- hb];exact⟨.inr rfl,AW.k1n 16 zz rfl zz (by simp[AC]) (by simp[AC])⟩
@[simp] theorem yB {i:Nat}:cellsOf (.mp i)=some [.mp i]:=(rfl)
theorem iY (N:Nat) (A:List Ed) (f0:List Int) (hn:C9 ⟨N,A⟩) (h1:BL N A f0) :
  ∃ f:List Int,(BL N A f /\ ∀ f',BL N A f'->Aa A f'<=Aa A f)/\AK 117 [eN ⟨N,A⟩,AA f0] [] (.rs 0 0 A.length) [some ⟨1,AE f,0⟩]:=by
 refine j0.s.acallsX (args:=[eN ⟨N,A⟩,AA f0]) (hs:=[]) (λ f=>.rs 0 0 A.length) (λ f=>[some ⟨1,AE f,0⟩]) (λ f:List Int=>BL N A f /\ ∀ f',BL N A f'->Aa A f'<=Aa A f) (Bf rfl) (Bf rfl) (λ _=>zz) ?_
 show Ad _ 0 _ _ ⟨14,[(0,eN ⟨N,A⟩),(1,AA f0)],[],16⟩;have h3:=H4 hn;have h5:=h1.fit.len;have u:=λ (f:List Int)=>WG N A f A.length hn;have h0:=λ (f:List Int) (hf:BL N A f)=>vG N A f hn hf;have h6:=hn.2.2.1;simp only at h6;have h2:=Gy f0 zy
 rw[h5] at h2;have h7:∀ g:Int->List AV,List.take A.length (List.map g f0)=List.map g f0:=λ g=>Qb zw
 refine rs [1,2] [] [16] ?_;apply ay [5] [(48,48),(64,64)] [] 80
 .simp
  refine Ct h2 ?_;simp;refine B6 (i:=48) rfl (by simp[AC]) (u f0) zz zz ?_
  simp;exact⟨rfl,rfl⟩
 refine AB (AT (As (ι:=List Int) (λ f=>⟨14,[(5,.pt 64 0 0)],[(48,some ⟨1,AE f,0⟩),(64,some ⟨4,[rC N A (.rs 48 0 A.length)],0⟩)],80⟩) (λ f=>BL N A f) (λ f=>(BM (λ x=>decide (x=0)) A - Aa A f).toNat) f0 h1 (CO [(48,48),(64,64)] []) ?_));intro f hf;obtain⟨⟨c,f'⟩,hx,q⟩:=h0 f hf;simp only at hx q;refine AB ?_;apply ax [5,11] [(48,48),(64,64)] [] 100
 .simp
  refine B6 (i:=48) rfl (by simp[AC]) q zz zz ?_
  simp;rfl
 refine AI _ rfl (λ h4=>?_) λ h4=>?_
 .have hc:c=true:=h4
  subst hc;simp only[UM] at hx;have h8:=Kg (S:=λ x=>decide (x=0)) h3 hx.1 zz zz
  exact AN (AT (AN ⟨f',hx.1,by have:=hx.2;omega,CO [(48,48),(64,64)] []⟩))
 have hc:c=false:=h4;subst hc;simp only[Ue,Uv] at hx;obtain⟨rfl,hm⟩:=hx;refine Ar (hit (ar [4] [(48,48)] [] 200 ?_));exact A9 (FF.mk (.inr rfl) f' ⟨hf,hm⟩ (AW.out [48] [] rfl zz zz zz (by simp[AC])))
theorem Wl (N:Nat) (A:List Ed) (hn:C9 ⟨N,A⟩) :
  ∃ f:List Int,(BL N A f /\ ∀ f',BL N A f'->Aa A f'<=Aa A f)/\AK 73 [eN ⟨N,A⟩] [] (.tup [.rs 0 0 A.length,.I 0]) [some ⟨1,AE f,0⟩]:=by
 have u:=H4 hn;obtain⟨f,hf,hg⟩:=iY N A _ hn (Ni u);refine⟨f,hf,?_⟩;have q:=K7 ⟨N,A⟩ (by have:=hn.2.2.1;simp only at this ⊢;omega)
 rw[if_pos hn] at q;have h0:=hn.2.2.1;simp only at h0;have h1:=hf.1.fit.len;refine fU.s.ai ?_;refine rs [1] [] [16] ?_;refine AB (rx (s:=?s2) [1,4] [] [] rfl ?o2 ?q2)
 case o2=>simp;refine A4 q zz ?_;simp;rfl
 refine rs [1,4,8] [] [] ?_;refine AI _ rfl (λ h4=>by cases h4) λ h4=>?_
 refine AN ?_;apply ay [2,3] [(120,48)] [] 300
 .simp
  refine⟨zy,zy,?_⟩
  refine JU [112] hg (by simp[List.map_const']) (.rs _ _ _) Na ?_
  simp;exact⟨rfl,rfl⟩
 exact Bx [48] []
theorem eM (N:Nat) (A:List Ed) (f:List Int) (hn:C9 ⟨N,A⟩) (hf:BL N A f) (hm:∀ f',BL N A f'->Aa A f'<=Aa A f) :
  AK 36 [eN ⟨N,A⟩,.rs 0 0 A.length] [⟨1,AE f,0⟩] (.rs 1 0 (Di N A).length) [some ⟨1,AE f,0⟩,some ⟨1,AE (Di N A),0⟩]:=by
 have h2:=H4 hn;obtain⟨⟨D,b,R⟩,⟨hb,h3,hR⟩,q⟩:=TQ N A f hn hf.fit;simp only at hb h3 hR q;have u:=WG N A f A.length hn;have h0:DP D N=Di N A:=Zx h2 hf hm hb.tree hb.mem0 (Ny h2 hf hm hb) h3;have h4:=jJ hR N (by have:=hn.2.1;simp only at this;omega)
 rw[h0] at h4;have h5:=hf.fit.len;have h1:∀ g:Int->List AV,List.take A.length (List.map g f)=List.map g f:=λ g=>Qb zw
 refine iG.s.ai ?_;refine ar [1,2] [(0,0)] [16] 32 ?_;refine arc ⟨14,[(2,.pv (nC ⟨N,A⟩)),(5,.pt 64 0 0)],[(0,some ⟨1,AE f,0⟩),(64,some ⟨1,[[.mp 56]],0⟩),(56,some ⟨0,R,0⟩)],100⟩ ?_ ?_
 .simp
  refine B6 (i:=0) rfl (by simp[AC]) u zz zz ?_
  simp;refine JU [0] q (by simp[AC,h1,h5]) (.mp _) (hR.plain _ _) ?_
  simp;exact AJ [(0,0),(64,64),(56,56)] [] zz (by simp[AC,hR.conv'])
 refine arc ⟨14,[(4,.rs 57 0 (Di N A).length)],[(0,some ⟨1,AE f,0⟩),(57,some ⟨1,AE (Di N A),0⟩)],200⟩ ?_ ?_
 .simp
  refine Ik (i:=64) (j:=56) zx rfl rfl zz (by simp[hR.conv']) h4 zz (by simp[conv]) ?_
  simp;exact CO [(0,0),(124,57)] []
 exact A8 (AW.k1n 57 zy rfl zz (by simp[AC]) (by simp[AC]))
theorem Xc (l:List Int) (hl:l.length<=1099511627776):AK 72 [AA l] [] (.rs 0 0 l.length) [some ⟨1,AE (Dl l),0⟩]:=by
 refine qU.s.ai ?_;have hs:AK 85 [FH l] [] (.rs 0 0 l.length) [some ⟨1,AE (Dl l),0⟩]:=IY l hl;refine rs [0] [] [] ?_;apply ax [2] [(40,50)] [] 100
 .simp
  refine A0 (I4 l) ?_;simp;refine Fm hs (by simp[conv]) ?_
  simp;rfl
 exact Bx [50] []
theorem uC (g:Gr) (p:Aq) (hg:AG g) (hN:g.size<20∨(AL (AO g p.lv) p.seeds).length<20) (hs:p.seeds.length<=1099511627776):AK 32 [eG g,eP p] [] (.rs 0 0 (AL (AO g p.lv) p.seeds).length) [some ⟨1,AE (AL (AO g p.lv) p.seeds),0⟩]:=by
 refine fK.s.ai ?_;have h0:=hg.edges_le;have h1:=hg.gone_le;have h2:=hg.1.2.1;have u:=Ij g p.lv zy zy
 have q:=NK (g:=AO g p.lv) (S:=p.seeds) (hg.level p.lv) hN hs;obtain⟨o,ho⟩:=AR (AL (AO g p.lv) p.seeds);rw[<- ho] at q ⊢;refine rs [2,3] [] [16,24] ?_;apply ay [4] [(88,50)] [] 200
 .simp
  refine A0 u ?_;simp;refine Ct q ?_;simp;exact⟨rfl,rfl⟩
 exact Bx [50] []
theorem pA (l:List Int) (x:Int) (hl:l.length<=1000000):AK 33 [AA l,.I x] [] (.rs 0 0 (l.length+1)) [some ⟨1,AE (l++[x]),0⟩]:=by
 refine kT.s.ai ?_;refine rs [0,1] [] [] ?_;refine arc ⟨14,[(4,.rs 50 0 (l.length+1))],[(50,some ⟨1,AE (l++[x]),0⟩)],200⟩ ?_ ?_
 .have q:∀ {id:Nat} {h:Nat->Option AD} {K:AV->List Nat->List (Nat × Option AD)->Prop},K (.vs 1 true (l.map λ n=>[AV.I n])) [] []->aK Tryz.prog 0 id (.slc 1 false true true) [AA l,.I (l.length:Nat),.I (l.length:Nat)] h K:=λ hK=>by
   rw[FT];refine⟨0,l.length,l.length,l.length,zz,Qn _,rfl,zz,zz,zz,Qk _,λ _=>rfl,rfl,?_⟩
   rw[Vb,Nat.sub_zero,Qb zz]
   exact hK
  simp;refine q ?_;simp;exact⟨zy,zy,CO [(88,50)] []⟩
 exact Bx [50] []
theorem Pw (g:Gr) (p:Aq) (ks:List Int) (hg:AG g) (hp:BD g.size p) (hk:ks.Nodup) (hr:∀ k∈ks,0<=k/\k<g.size) (hs:p.seeds.length<=64):AK 34 [eG g,eP p,AA ks] [] (eN ⟨A1 g,Ah g p (Am ks)⟩) []:=by
 refine eI.s.ai ?_;have h3:=hg.1.2.1;have h0:∀ k∈ks,0<=k/\k<64:=λ k h=>by have:=hr k h;omega
 have h1:=LB hk h0;have h2:=Hj ks;have q:=Xc ks zy
 rw[JM hk h0,<- h1] at q;have u:=Mi g p (Am ks) hg hp (Hc hr) hs h2;rw[<- LY hg,show Cv g p (Ao g p) (Am ks)=Ah g p (Am ks) from rfl] at u
 obtain⟨J,hJ⟩:=AR (Am ks);obtain⟨A,hA⟩:=AR (Ah g p (Am ks));rw[<- hA] at u ⊢;rw[<- hJ] at u q;refine rs [2,3,4,6] [32] [16,24] ?_;apply ay [6,7] [(32,32)] [104] 300
 .simp
  refine Ct q ?_;simp;refine IU [64] zz u (by simp[AC,B7]) ?_
  simp;exact⟨rfl,rfl⟩
 apply ax [6] [(32,32)] [] 400
 .simp [Ax]
  rfl
 exact Bx [] [32]
def pI (N:Nat) (A:List Ed) (f:List Int):Prop:=BL N A f /\ ∀ f',BL N A f'->Aa A f'<=Aa A f
theorem u7 (N:Nat) (A:List Ed) (k:Int) (hn:C9 ⟨N,A⟩) :
  ∃ f:List Int,pI N A f/\AK 35 [eN ⟨N,A⟩,.I k] [] (.tup [.rs 0 0 A.length,.B (decide (Aa A f=k))]) [some ⟨1,AE f,0⟩]:=by
 obtain⟨f,hf,h0⟩:=Wl N A hn;refine⟨f,hf,?_⟩;have h1:=hf.1.fit.len;have h2:=hn.2.2.1;simp only at h2;have q:=Ty (f:=f) hn zy
 rw[if_pos hf.1] at q;have u:∀ g:Int->List AV,List.take A.length (List.map g f)=List.map g f:=λ g=>Qb zw
 refine m7.s.ai ?_;refine rs [1,2] [] [16] ?_;apply ax [1,2,6] [(48,50)] [] 100
 .simp
  refine Ct h0 ?_;simp;rfl
 refine arc ⟨19,[(4,.rs 50 0 A.length),(5,.B (decide (Aa A f=k)))],[(50,some ⟨1,AE f,0⟩)],200⟩ ?_ ?_
 .simp
  refine F6 [50] q (by simp[AC,u,h1]) (.sc _) ?_
  simp;exact AJ [(50,50)] [] (by simp<;>exact BA (by rw[Qv];simp)) (by simp[AC])
 exact Bx [50] []
theorem Ya (g:Gr) (p:Aq):∀ (n:Nat) (o:List Int),o.length=n->(Bc g p o).length<=n
 | 0,o,h=>by
   obtain rfl:=QK h;exact Qk _
 | n+1,o,h=>by
   have q:o≠[]:=λ e=>by rw[e] at h;cases h
   rw[<- U1 q];have ih:=Ya g p n o.dropLast (by rw[Ve,h];rfl)
   by_cases hc:Ba g p (Am (AM g p o.dropLast++[o.getLast q]))
   .rw [JN hc];omega
   .rw [Ka hc,Qm,QT];omega
theorem S1 (N:Nat) (A:List Ed):(Di N A).length<=N:=by
 unfold Di;exact QF (Q5 ..) zz
theorem NU (g:Gr) (p:Aq) (hg:AG g) (hp:BD g.size p) (hs:p.seeds.length<=64) (hN:g.size<20∨(AL (AO g p.lv) p.seeds).length<20) :
  ∃ f:List Int,MD g p (Am (AM g p (AL (AO g p.lv) p.seeds))) f /\
    AK 12 [eG g,eP p] [] (.tup [Ei (AM g p (AL (AO g p.lv) p.seeds)) f (Bc g p (AL (AO g p.lv) p.seeds)),.I 0]) []:=by
 have c4:=hg.1.1;have c1:=hg.1.2.1;have c5:=hg.edges_le;have c6:=hg.gone_le;have hm:=L0 g p zy zy zy (by have:=hp.2.2.2.1;omega)
 rw[if_pos hg,if_pos hp] at hm;have hn:=uC g p hg hN zy
 obtain⟨o,ho⟩:=AR (AL (AO g p.lv) p.seeds);have hr:∀ k∈o,0<=k/\k<g.size:=λ k hk=>by rw[ho] at hk;have h:=HN hk;exact h
 have ht:o.Nodup:=by rw[ho];exact GJ _ _
 rw[<- ho] at hn ⊢
 have b0:o.length<=64:=by
  have:=HT (b:=(List.range g.size.toNat).map λ i:Nat=>(i:Int)) ht λ x hx=>by
   have:=hr x hx;exact Qh.2 ⟨x.toNat,QP.2 zy,zy⟩
  simp at this;omega
 have h64:∀ a:List Int,(∀ x∈a,0<=x/\x<g.size) -> ∀ x∈a,0<=x/\x<64:=λ a h x hx=>by have:=h x hx;omega
 have a5:∀ a:List Int,(∀ x∈a,0<=x/\x<g.size)->C9 ⟨A1 g,Ah g p (Am a)⟩:=λ a h=>MB hg hp (L9 (Hc h)) hs (Hj a)
 have he:∀ a:List Int,a.Nodup->(∀ x∈a,0<=x/\x<g.size) -> ∃ f,MD g p (Am a) f/\AK 35 [eN ⟨A1 g,Ah g p (Am a)⟩,.I (a.length:Nat)] [] (.tup [.rs 0 0 (Ah g p (Am a)).length,.B (@decide (Ba g p (Am a)) (Classical.propDecidable _))]) [some ⟨1,AE f,0⟩]:=λ a h1 h2=>by
  obtain⟨f,hf,hc⟩:=u7 _ _ (a.length:Nat) (a5 a h2);have a6:=Hk hf.1 hf.2;refine⟨f,⟨hf.1,hf.2,a6.symm⟩,?_⟩;have b1:=LB h1 (h64 a h2)
  have:decide (Aa (Ah g p (Am a)) f=(a.length:Nat)) = @decide (Ba g p (Am a)) (Classical.propDecidable _):=by
   rw[decide_eq_decide];unfold Ba;rw[a6,b1]
  rw[this] at hc;exact hc
 have h6:∀ i,(AM g p (o.take i)).Nodup:=λ i=>(ht.sublist ((Gz _ _ rfl).trans (Vg _ _)));have h7:∀ i,∀ x∈AM g p (o.take i),0<=x/\x<g.size:=λ i x hx=>hr x (QR (Ig hx));obtain⟨f,hf,h8⟩:=he (AM g p o) (by have:=h6 o.length;rwa [QW] at this) (by have:=h7 o.length;rwa [QW] at this)
 refine⟨f,hf,?_⟩;have hu:=Pw g p (AM g p o) hg hp (by have:=h6 o.length;rwa [QW] at this) (by have:=h7 o.length;rwa [QW] at this) hs
 have hv:=hf.ok.fit.len;refine rK.s.ai ?_;refine rs [2,3,4] [32] [16,24] ?_;refine AB (rx (s:=?s2) [2,3,4,6] [32] [] rfl ?o2 ?q2)
 case o2=>simp;refine A4 hm zz ?_;simp;rfl
 refine rs [2,3,4,18] [32] [] ?_;refine AI _ rfl (λ h=>by cases h) λ _=>?_
 refine AN (ar [2,3,4,7] [(32,32),(96,40)] [] 200 ?_);refine AB (arc ⟨72,[(2,.pv (gC g)),(3,.pv (pC p)),(4,.pt 32 0 0),(7,.pt 40 0 0),(23,AA o),(24,.I o.length),(25,.I 0)],[(32,some ⟨3,[[.nilS,.nilS,.nilS]],0⟩),(40,some ⟨3,[[.nilS,.nilS,.nilS]],0⟩)],400⟩ ?_ ?_)
 .simp
  refine Ct hn ?_;simp;exact AJ [(32,32),(40,40)] [216] (by simp[AC,B7])
 refine AT ?_;have b2:Bc g p []=[]:=rfl
 refine As (ι:=Nat) (λ i=>⟨72,[(2,.pv (gC g)),(3,.pv (pC p)),(4,.pt 32 0 0),(7,.pt 40 0 0),(23,AA o),(24,.I o.length),(25,.I i)],
   [(32,some ⟨3,[[.nilS,.nilS,.nilS]],0⟩),(40,some ⟨3,[[AA (AM g p (o.take i)),.nilS,.rs 42 0 (Bc g p (o.take i)).length]],0⟩),(42,some ⟨2,CY (Bc g p (o.take i)),0⟩)],500⟩)
  (λ i=>i<=o.length) (λ i=>o.length - i) 0 (Qn _)
  (Le.lst [(32,32),(40,40)] [] [(42,2)] rfl zz zz zz zz zz zz zz (by simp[Up]) (by simp[MK,b2,AC];exact⟨An.rfl' zz,An.row rfl zy (by simp[D9,Up,Wk.refl];exact Wk.nil _ _)⟩)) ?_
 intro i hi;have a7:=h6 i;have a8:=h7 i;have b3:(AM g p (o.take i)).length<=64:=QF (Jl _) (QF (UD i o) b0);have b4:=Ya g p _ (o.take i) rfl;have c2:=UD i o;have h0:=λ k=>GV (g:=g) (p:=p) (o:=o.take i) (k:=k);have hh:=λ k=>H8 (g:=g) (p:=p) (o:=o.take i) (k:=k);have q:=λ k=>JN (g:=g) (p:=p) (o:=o.take i) (k:=k);have u:=λ k=>Ka (g:=g) (p:=p) (o:=o.take i) (k:=k);have hq:∀ x∈AM g p (o.take i),x∈o.take i:=λ x hx=>Ig hx;obtain⟨acc,h4⟩:=AR (AM g p (o.take i));obtain⟨R,hR⟩:=AR (Bc g p (o.take i));rw[<- h4] at a7 a8 b3 hq h0 hh q u;rw[<- hR] at b4 q u;rw[<- h4,<- hR]
 refine Ep ⟨72,[(2,.pv (gC g)),(3,.pv (pC p)),(4,.pt 32 0 0),(7,.pt 40 0 0),(23,AA o),(24,.I o.length),(25,.I i),(26,.B (decide (i<o.length)))],
   [(32,some ⟨3,[[.nilS,.nilS,.nilS]],0⟩),(40,some ⟨3,[[AA acc,.nilS,.rs 42 0 R.length]],0⟩),(42,some ⟨2,CY R,0⟩)],600⟩ rfl ?_ ?_
 .simp
  exact CO [(32,32),(40,40),(42,42)] []
 refine AB (AI _ rfl (λ h9=>?_) λ h9=>?_)
 .simp at h9
  have a9:=w6 (x:=((i:Int)+1));obtain⟨k,hk⟩:=AR (o[i]);have ag:=hr _ (Qj h9);rw[<- hk] at ag;have b5:o.take (i+1)=o.take i++[k]:=by rw[Ql h9,hk]
  have hw:k∉acc:=λ h=>by
   have h2:=hq k h;obtain⟨j,hj,an⟩:=QA.1 h2;rw[UR] at an;rw[QU] at hj;have:=(QM.1 ht) j i zy h9 zy
   exact this (an.trans hk)
  have hz:∀ x∈acc++[k],0<=x/\x<g.size:=λ x hx=>by
   rcases Qo.1 hx with h | h
   .exact a8 x h
   .rw [Qt] at h;subst h;exact ag
  have au:(acc++[k]).Nodup:=Uj.2 ⟨a7,zz,λ a ha b hb=>by
   rw[Qt] at hb;subst hb
   rintro rfl
   exact hw ha⟩
  have hd:=pA acc k zy
  have hl:=Pw g p (acc++[k]) hg hp au hz hs;obtain⟨fl,a0,a1⟩:=he (acc++[k]) au hz;have h3:=eM _ _ fl (a5 _ hz) a0.ok a0.most;have a2:=a0.ok.fit.len;have c3:=S1 (A1 g) (Ah g p (Am (acc++[k])));have h0:=h0 k;have hh:=hh k;have q:=q k;have u:=u k;rw[<- b5] at h0 hh q u;obtain⟨A,hA⟩:=AR (Ah g p (Am (acc++[k])));obtain⟨side,a3⟩:=AR (Di (A1 g) A);rw[<- hA] at hl a1 h3 a2 u;rw[<- a3] at h3 u;have av:∀ h:Int->List AV,List.take A.length (List.map h fl)=List.map h fl:=λ h=>Qb zw
  obtain⟨W,hW⟩:=AR (acc++[k]);have b6:W.length=acc.length+1:=by rw[hW];simp
  rw[<- hW] at hd hl a1 h0 hh q u;rw[<- b6] at hd;refine AN ?_
  refine CX ⟨72,[(2,.pv (gC g)),(3,.pv (pC p)),(4,.pt 32 0 0),(7,.pt 40 0 0),(23,AA o),(24,.I o.length),(25,.I i)],
   [(32,some ⟨3,[[.nilS,.nilS,.nilS]],0⟩),(40,some ⟨3,[[AA (AM g p (o.take (i+1))),.nilS,.rs 42 0 (Bc g p (o.take (i+1))).length]],0⟩),(42,some ⟨2,CY (Bc g p (o.take (i+1))),0⟩)],3000⟩ ?_ ?_
  .refine AT ?_
   refine Ep ⟨72,[(2,.pv (gC g)),(3,.pv (pC p)),(4,.pt 32 0 0),(7,.pt 40 0 0),(9,.I k),(23,AA o),(24,.I o.length),(25,.I i)],
    [(32,some ⟨3,[[.nilS,.nilS,.nilS]],0⟩),(40,some ⟨3,[[AA acc,.nilS,.rs 42 0 R.length]],0⟩),(42,some ⟨2,CY R,0⟩)],700⟩ rfl ?_ ?_
   .simp [h9,<- hk]
    exact CO [(32,32),(40,40),(42,42)] []
   refine Ep ⟨72,[(2,.pv (gC g)),(3,.pv (pC p)),(4,.pt 32 0 0),(7,.pt 40 0 0),(9,.I k),(10,AA W),(23,AA o),(24,.I o.length),(25,.I i)],
    [(32,some ⟨3,[[.nilS,.nilS,.nilS]],0⟩),(40,some ⟨3,[[AA acc,.nilS,.rs 42 0 R.length]],0⟩),(42,some ⟨2,CY R,0⟩)],800⟩ rfl ?_ ?_
   .simp
    refine Ct hd ?_;simp;exact AJ [(32,32),(40,40),(42,42)] [724] (by simp[AC,B7]) (by simp[AC])
   refine Ep ⟨72,[(2,.pv (gC g)),(3,.pv (pC p)),(4,.pt 32 0 0),(7,.pt 40 0 0),(9,.I k),(10,AA W),(11,.pv (nC ⟨A1 g,A⟩)),(23,AA o),(24,.I o.length),(25,.I i)],
    [(32,some ⟨3,[[.nilS,.nilS,.nilS]],0⟩),(40,some ⟨3,[[AA acc,.nilS,.rs 42 0 R.length]],0⟩),(42,some ⟨2,CY R,0⟩)],900⟩ rfl ?_ ?_
   .simp
    refine A0 hl ?_;simp;exact CO [(32,32),(40,40),(42,42)] [832]
   refine Ep ⟨72,[(2,.pv (gC g)),(3,.pv (pC p)),(4,.pt 32 0 0),(7,.pt 40 0 0),(9,.I k),(10,AA W),(11,.pv (nC ⟨A1 g,A⟩)),(12,.rs 43 0 A.length),(13,.B (@decide (Ba g p (Am W)) (Classical.propDecidable _))),(23,AA o),(24,.I o.length),(25,.I i)],
    [(32,some ⟨3,[[.nilS,.nilS,.nilS]],0⟩),(40,some ⟨3,[[AA acc,.nilS,.rs 42 0 R.length]],0⟩),(42,some ⟨2,CY R,0⟩),(43,some ⟨1,AE fl,0⟩)],1000⟩ rfl ?_ ?_
   .simp
    refine Ct a1 ?_;simp;exact CO [(32,32),(40,40),(42,42),(924,43)] []
   refine AB ?_
   refine Ep ⟨72,[(2,.pv (gC g)),(3,.pv (pC p)),(4,.pt 32 0 0),(7,.pt 40 0 0),(9,.I k),(10,AA W),(11,.pv (nC ⟨A1 g,A⟩)),(12,.rs 43 0 A.length),(44,.B (@decide (Ba g p (Am W)) (Classical.propDecidable _))),(23,AA o),(24,.I o.length),(25,.I i)],
    [(32,some ⟨3,[[.nilS,.nilS,.nilS]],0⟩),(40,some ⟨3,[[AA acc,.nilS,.rs 42 0 R.length]],0⟩),(42,some ⟨2,CY R,0⟩),(43,some ⟨1,AE fl,0⟩)],1100⟩ rfl ?_ ?_
   .simp
    exact CO [(32,32),(40,40),(42,42),(43,43)] []
   refine AI _ rfl (λ a4=>?_) λ a4=>?_
   .have h5:Ba g p (Am W):=@of_decide_eq_true _ (Classical.propDecidable _) a4
    have hy:=h0 h5;have bo:=q h5
    refine Ep ⟨72,[(2,.pv (gC g)),(3,.pv (pC p)),(4,.pt 32 0 0),(7,.pt 40 0 0),(23,AA o),(24,.I o.length),(25,.I i)],
     [(32,some ⟨3,[[.nilS,.nilS,.nilS]],0⟩),(40,some ⟨3,[[AA W,.nilS,.rs 42 0 R.length]],0⟩),(42,some ⟨2,CY R,0⟩)],1200⟩ rfl ?_ ?_
    .simp [Ax]
     exact CO [(32,32),(40,40),(42,42)] []
    exact Ar (hit (AJ [(32,32),(40,40),(42,42)] [] zz (by simp[hy,bo,AC])))
   .have h5:¬ Ba g p (Am W):=@of_decide_eq_false _ (Classical.propDecidable _) a4
    have bs:=hh h5;have bt:=u h5;have c0:∀ h:Int × List Int->List AV,List.take R.length (List.map h R)=List.map h R:=λ h=>Qb zz
    refine AN (ET rfl ?_);simp;refine B6 (i:=43) rfl (by simp[AC]) h3 zz zz ?_
    simp[c0,Ax];exact⟨zy,zy,rfl,AJ [(32,32),(40,40),(1164,42)] [1140] zz (by simp[bs,bt,AC,B7])⟩
  refine Ap rfl ?_;simp[a9];exact⟨i+1,zy,zy,AJ [(32,32),(40,40),(42,42)] [] (by simp[a9]) (by simp[AC])⟩
 simp at h9;obtain rfl:i=o.length:=zy
 rw[QW] at h4 hR;rw[<- h4] at h8 hu hv;have cb:((acc.length:Nat):Int)=acc.length:=rfl;obtain⟨A,hA⟩:=AR (Ah g p (Am acc));rw[<- hA] at hu h8 hv;have av:∀ h:Int->List AV,List.take A.length (List.map h f)=List.map h f:=λ h=>Qb zw
 refine Ar (hit ?_)
 refine LH ⟨72,[(4,.pt 32 0 0),(7,.pt 40 0 0)],
   [(32,some ⟨3,[[.nilS,.nilS,.nilS]],0⟩),(40,some ⟨3,[[AA acc,AA f,.vs 2 false (CY R)]],0⟩)],1200⟩ rfl ?_ ?_
 .simp
  refine A0 hu ?_;simp;refine Ct h8 ?_;simp[Ax];exact⟨rfl,AJ [(32,32),(40,40)] [42,664] zz (by simp[AC,B7,av,hv])⟩
 apply ax [4,5] [(32,32)] [] 1400
 .simp [Ax]
  rfl
 refine A9 ?_;rw[<- h4,<- hR];exact⟨.inr rfl,AW.out [] [32] rfl zz zz zz zz⟩
theorem uY (L:List Int) (hl:L.length<=400):∃ (g:Gr) (b:Nat),(AG g/\2<=g.size/\g.size<=9/\b<=L.length)/\AK 7 [.pt 0 0 0] [AS L 0] (eG g) [some (AS L b)] :=
 have h:=eF L 0 (Qn _)
 ⟨_,_,⟨h.ok,h.lo,h.hi,h.at_⟩,n7 L 0 hl (Qn _)⟩
variable {g:Gr} {p:Aq}
theorem CE.acc_iff {key:Int} {x:A6} (h:CE g p (AL (AO g p.lv) p.seeds) key x):x.acc=true↔key∈AM g p (AL (AO g p.lv) p.seeds):=by
 by_cases hk:key∈AM g p (AL (AO g p.lv) p.seeds)
 .simp [hk,(h.yes hk).1]
 .simp [hk,(h.no hk).1]
theorem Bh.pair {l:List Int} {lo hi:Int} (h:Bh l lo hi):l.Pairwise (· < ·):=by
 have u:∀ (j i:Nat) (hj:j<l.length) (q:i<j),l[i]<l[j]:=by
  intro j
  induction j with
  | zero=>intro i _ q;omega
  | succ j ih =>
    intro i hj q;have h1:=(h (j+1) hj).2.2 zy
    simp only[Nat.add_sub_cancel] at h1;rcases Ui i j with h2 | h2
    .have:=ih i zy h2
     omega
    .have:i=j:=zy
     subst this;exact h1
 exact QM.2 λ i j hi hj q=>u j i hj q
theorem oD (acc f:List Int) (R:List (Int × List Int)) (k:Int) (hl:acc.length<=140737488355328):AK 78 [Ei acc f R,.I k] [] (.B (decide (k∈acc))) []:=by
 refine gE.s.ai ?_;refine ar [1,2] [] [16] 100 ?_;apply ax [4] [] [] 200
 .simp
  refine A0 (GR acc k hl) ?_;simp;rfl
 exact Ca
variable {g:Gr} {p:Aq}
theorem h64 (hg:AG g) {a:List Int} (h:∀ x∈a,0<=x/\x<g.size):∀ x∈a,0<=x/\x<64:=λ x hx=>by
 have:=h x hx;have:=hg.1.2.1;omega
variable {g:Gr} {p:Aq}
def E8 (g:Gr) (p:Aq):List Int:=p.seeds.filter λ k=>!g.gone.contains k
theorem NS (w:Int->Int) (hw:∀ x,0<=w x):∀ {s a:List Int},s.Nodup->(∀ x∈s,x∈a)->(s.map w).sum<=(a.map w).sum
 | [],a,_,_=>by
   have:∀ a:List Int,0<=(a.map w).sum:=λ a=>by
    induction a with
    | nil=>exact Uw _
    | cons x a ih=>simp only[Qp,Q3];have:=hw x;omega
   exact this a
 | x::s,a,hn,h=>by
   rw[Q1] at hn;have h1:=List.perm_cons_erase (h x (Qi ..));have ih:=NS w hw (s:=s) (a:=a.erase x) hn.2 λ y hy=>(List.mem_erase_of_ne (by rintro rfl;exact hn.1 hy)).2 (h y (Qg _ hy))
   have h2:(a.map w).sum=((x::a.erase x).map w).sum:=by
    have hp:∀ {a b:List Int},a.Perm b->(a.map w).sum=(b.map w).sum:=λ h=>by
     induction h with
     | nil=>rfl
     | cons x _ ih=>simp only[Qp,Q3,ih]
     | swap x y l=>simp only[Qp,Q3];omega
     | trans _ _ i1 i2=>exact i1.trans i2
    exact hp h1
   rw[h2];simp only[Qp,Q3];omega
theorem PJ {α:Type} {w:α->Int}:∀ {l:List α},(∀ x∈l,0<=w x)->0<=(l.map w).sum
 | [],_=>Uw _
 | x::l,h=>by
   have:=PJ (l:=l) λ y hy=>h y (Qg _ hy);have:=h x (Qi ..);simp only[Qp,Q3];omega
theorem l5 (hp:BD g.size p) (S:Int->Bool) (h0:S 0=true):((p.seeds.filter λ x=>decide (0<(Ao g p).getD x.toNat 0)).map λ x=>if S (2+2*x)=false then (Ao g p).getD x.toNat 0 else 0).sum<=Ht g p S:=by
 unfold Ht;simp only[Jf,Ah,Cv,Ug,List.sum_append,Ub,List.filter_nil,UN,List.sum_nil]
 have h1:0<=(((List.range (Ao g p).length).filter λ i=>decide (0<(Ao g p).getD i 0)).map ((λ e:Ed=>if S e.f=true/\S e.t=false then e.v else 0)∘λ i:Nat=>(⟨2+2*(i:Int),3+2*(i:Int),(Ao g p).getD i 0 - 1⟩:Ed))).sum:=PJ λ i hi=>by
  have:0<(Ao g p).getD i 0:=by simpa using (Qz.1 hi).2
  simp only[Function.comp];split<;>omega
 have h2:0<=(((AO g p.lv).edges.filter λ e=>decide (0<(Ao g p).getD e.f.toNat 0)).map ((λ e:Ed=>if S e.f=true/\S e.t=false then e.v else 0)∘λ e:Ed=>(⟨3+2*e.f,2+2*e.t,64⟩:Ed))).sum:=PJ λ e _=>by
  simp only[Function.comp];split<;>omega
 have h3:((p.seeds.filter λ x=>decide (0<(Ao g p).getD x.toNat 0)).map ((λ e:Ed=>if S e.f=true/\S e.t=false then e.v else 0)∘λ x:Int=>(⟨0,2+2*x,(Ao g p).getD x.toNat 0⟩:Ed)))=(p.seeds.filter λ x=>decide (0<(Ao g p).getD x.toNat 0)).map λ x=>if S (2+2*x)=false then (Ao g p).getD x.toNat 0 else 0:=by
  refine Q7 λ x _=>?_;simp only[Function.comp,h0,true_and]
 rw[h3];omega
theorem nN (hg:AG g) (hp:BD g.size p) {ks:List Int} (hn:ks.Nodup) (hs:∀ k∈ks,k∈p.seeds) (hk:Cj g p ks):Ba g p ks:=by
 rw[Iu hg hp hk];intro S h0 h1;have hb:=l5 (g:=g) hp S h0;have q:=OZ (g:=g) hp
 have u:∀ x:Int,0<=(Ao g p).getD x.toNat 0:=λ x=>by
  rw[Qe]
  cases hh:(Ao g p)[x.toNat]? with
  | none=>simp
  | some v=>exact q v (QX hh)
 have h2:=NS (λ x=>if S (2+2*x)=false then (Ao g p).getD x.toNat 0 else 0) (λ x=>by have:=u x;split<;>omega) hn (a:=p.seeds.filter λ x=>decide (0<(Ao g p).getD x.toNat 0)) λ x hx=>Qz.2 ⟨hs x hx,Q8 (hk.reach x hx)⟩
 have h3:(ks.length:Int)<=(ks.map λ x=>if S (2+2*x)=false then (Ao g p).getD x.toNat 0 else 0).sum+Ds S ks:=by
  have key:∀ l:List Int,(∀ x∈l,NT g p x)->(l.length:Int)<=(l.map λ x=>if S (2+2*x)=false then (Ao g p).getD x.toNat 0 else 0).sum+Ds S l:=by
   intro l
   induction l with
   | nil=>intro _;exact Uw _
   | cons x l ih =>
     intro h;have ih:=ih λ y hy=>h y (Qg _ hy);have hx:0<(Ao g p).getD x.toNat 0:=h x (Qi ..)
     have hs:Ds S (x::l)=(if S (2+2*x)=true then 1 else 0)+Ds S l:=by
      unfold Ds;rfl
     rw[hs];simp only[Qp,Q3,QV]
     cases hS:S (2+2*x)
     .rw [if_pos rfl,if_neg zz]
      omega
     .rw [if_neg zz,if_pos rfl]
      omega
  exact key ks hk.reach
 omega
theorem Wt (g:Gr) (S:List Int):∀ n,0<n -> ∃ l,DE g S n=DE g S 1++l
 | 1,_=>⟨[],(Q0 _).symm⟩
 | n+2,_=>by
   obtain⟨l,hl⟩:=Wt g S (n+1) zy
   exact⟨l++Cr g.size.toNat λ k=>decide (AZ g S k=((n+1:Nat):Int)),by rw[DE,hl,QG]⟩
theorem kX (hg:AG g) (hp:BD g.size p):∃ l,AL (AO g p.lv) p.seeds=E8 g p++l:=by
 by_cases hn:0<g.size.toNat
 .obtain ⟨l,hl⟩:=Wt (AO g p.lv) p.seeds g.size.toNat hn
  refine⟨l,?_⟩
  have h1:DE (AO g p.lv) p.seeds 1=E8 g p:=by
   refine V6 ?_ ?_ λ x=>?_
   .exact ML g.size.toNat _
   .exact (hp.2.1.pair).filter _
   .rw [JS]
    have h2:(0<=AZ (AO g p.lv) p.seeds x/\AZ (AO g p.lv) p.seeds x<(1:Nat))↔EA g p.seeds x=true:=by
     rw[show EA g p.seeds x=EA (AO g p.lv) p.seeds x from rfl,<- Nb (hg.level p.lv)]
     omega
    rw[h2];unfold EA E8;rw[Qz];simp only[QD,List.contains_iff_mem];constructor
    .exact λ h=>h.2
    .intro h
     have h3:=hp.2.1.nodup.2 x h.1;exact⟨⟨zy,by show x<g.size.toNat;omega⟩,h⟩
  rw[<- h1];exact hl
 .have h0:g.size.toNat=0:=zy
  refine⟨[],?_⟩
  have h1:E8 g p=[]:=by
   unfold E8;rw[List.filter_eq_nil_iff];intro x hx;have h3:=hp.2.1.nodup.2 x hx;omega
  rw[h1];show DE _ _ (g.size.toNat)=_;rw[h0];rfl
theorem XB {o:List Int} (h:∀ n,n<o.length->Ba g p (Am (o.take (n+1)))):∀ n,n<=o.length->AM g p (o.take n)=o.take n
 | 0,_=>rfl
 | n+1,hn=>by
   have ih:=XB h n zy
   rw[Ql zy]
   have h1:=h n zy
   rw[Ql zy] at h1
   rw[GV (by rw[ih];exact h1),ih]
theorem cL (hg:AG g) (hp:BD g.size p):∃ l,AM g p (AL (AO g p.lv) p.seeds)=E8 g p++l:=by
 obtain⟨l,hl⟩:=kX hg hp;have q:=GJ (AO g p.lv) p.seeds;have u:=mI hg hp;rw[hl] at q u;have h2:=(Uj.1 q).1;have h3:Cj g p (E8 g p):=u.sub λ x hx=>QZ _ hx
 have h1:AM g p (E8 g p)=E8 g p:=by
  have:=XB (g:=g) (p:=p) (o:=E8 g p) (λ n hn=>by
   have hk:Cj g p ((E8 g p).take (n+1)):=h3.sub λ x hx=>QR hx;have h0:((E8 g p).take (n+1)).Nodup:=h2.sublist (Vg _ _)
   refine(nN hg hp h0 (λ k h4=>(Qz.1 (QR h4)).1) hk).perm hg hp hk (LZ h0 (h64 hg hk.rng))) _ (Qk _)
  rwa [QW] at this
 obtain⟨l2,h5,_⟩:=OR (g:=g) (p:=p) l (E8 g p);exact⟨l2,by rw[hl,h5,h1]⟩
variable {g:Gr} {p:Aq}
def NG (p:Aq) (S:List Int) (k:Int) (e:Ed):Bool:=decide (e.f=k) && (decide (p.lv<=e.v) && S.contains e.t)
def Dd (g:Gr) (p:Aq) (S:List Int) (k:Int):Bool:=g.edges.any (NG p S k)
def Gh (g:Gr) (p:Aq) (S:List Int) (k:Int):Int:=if S.contains k && p.seeds.contains k then (Ao g p).getD k.toNat 0 else if !S.contains k && Dd g p S k then max 0 ((Ao g p).getD k.toNat 0 - 1) else 0
def Es (g:Gr) (p:Aq) (S:List Int) (n:Nat):Int:=((List.range n).map λ (i:Nat)=>Gh g p S i).sum
theorem XD {α:Type} {q:α->Bool} {f w:α->Int}:∀ {l:List α},(∀ x∈l,q x=true->f x<=w x)->(∀ x∈l,0<=w x)->((l.filter q).map f).sum<=(l.map w).sum
 | [],_,_=>Uw _
 | x::l,h1,h2=>by
   have ih:=XD (l:=l) (q:=q) (f:=f) (w:=w) (λ y hy=>h1 y (Qg _ hy)) λ y hy=>h2 y (Qg _ hy);have h3:=h2 x (Qi ..);have h4:=h1 x (Qi ..);rw[List.filter_cons]
   by_cases hq:q x=true
   .rw [if_pos hq]
    have:=h4 hq;simp only[Qp,Q3];omega
   .rw [if_neg hq]
    simp only[Qp,Q3];omega
theorem Y1 {α:Type} (f w:α->Int):∀ l:List α,(l.map λ x=>f x+w x).sum=(l.map f).sum+(l.map w).sum
 | []=>rfl
 | x::l=>by
   have:=Y1 f w l;simp only[Qp,Q3,this];omega
def ED (g:Gr) (p:Aq) (S:List Int) (x:Int):Bool :=
 decide (x=0) || (decide (2<=x) && (if x % 2=0 then !S.contains ((x - 2) / 2) else !S.contains ((x - 3) / 2) && !Dd g p S ((x - 3) / 2)))
theorem L2 {S:List Int} {k:Int} (h:0<=k):ED g p S (2+2*k) = !S.contains k:=by
 unfold ED;rw[Ur zy,Q8 zy,if_pos zy,show (2+2*k - 2) / 2=k by omega]
 rfl
theorem RM {S:List Int} {k:Int} (h:0<=k):ED g p S (3+2*k)=(!S.contains k && !Dd g p S k):=by
 unfold ED;rw[Ur zy,Q8 zy,if_neg zy,show (3+2*k - 3) / 2=k by omega]
 rfl
theorem kZ (hg:AG g) (hp:BD g.size p) (S:List Int):Ht g p (ED g p S)<=Es g p S g.size.toNat:=by
 have h8:=OZ (g:=g) hp
 have h9:∀ x:Int,0<=(Ao g p).getD x.toNat 0:=λ x=>by
  rw[Qe]
  cases hh:(Ao g p)[x.toNat]? with
  | none=>simp
  | some v=>exact h8 v (QX hh)
 obtain⟨wA,q⟩:∃ wA:Int->Int,∀ k,wA k=if S.contains k && p.seeds.contains k then (Ao g p).getD k.toNat 0 else 0:=⟨_,λ _=>rfl⟩
 obtain⟨wB,u⟩:∃ wB:Int->Int,∀ k,wB k=if !S.contains k && Dd g p S k then max 0 ((Ao g p).getD k.toNat 0 - 1) else 0:=⟨_,λ _=>rfl⟩
 have h0:∀ k,0<=wA k:=λ k=>by
  have:=h9 k;rw[q];split<;>omega
 have h4:∀ k,0<=wB k:=λ k=>by
  rw[u];split<;>omega
 have h5:∀ k,Gh g p S k=wA k+wB k:=λ k=>by
  unfold Gh;rw[q,u]
  cases S.contains k<;>cases p.seeds.contains k<;>simp
 have hj:Es g p S g.size.toNat=(((List.range g.size.toNat).map λ (i:Nat)=>(i:Int)).map wA).sum+((List.range g.size.toNat).map λ (i:Nat)=>wB (i:Int)).sum:=by
  unfold Es;rw[Ub,<- Y1]
  congr 1
  exact Q7 λ x _=>h5 _
 have ha:(Ao g p).length=g.size.toNat:=Fh;unfold Ht;simp only[Jf,Ah,Cv,Ug,List.sum_append,Ub,List.filter_nil,UN,List.sum_nil];have h6:∀ x∈p.seeds,0<=x/\x<g.size:=λ x hx=>by have:=hp.2.1.nodup.2 x hx;omega
 have h1:((p.seeds.filter λ x=>decide (0<(Ao g p).getD x.toNat 0)).map ((λ e:Ed=>if ED g p S e.f=true/\ED g p S e.t=false then e.v else 0)∘λ x:Int=>(⟨0,2+2*x,(Ao g p).getD x.toNat 0⟩:Ed))).sum<=(((List.range g.size.toNat).map λ (i:Nat)=>(i:Int)).map wA).sum:=by
  have e1:((p.seeds.filter λ x=>decide (0<(Ao g p).getD x.toNat 0)).map ((λ e:Ed=>if ED g p S e.f=true/\ED g p S e.t=false then e.v else 0)∘λ x:Int=>(⟨0,2+2*x,(Ao g p).getD x.toNat 0⟩:Ed)))=(p.seeds.filter λ x=>decide (0<(Ao g p).getD x.toNat 0)).map wA:=by
   refine Q7 λ x hx=>?_;have h7:=(Qz.1 hx).1;have h2:=(h6 x h7).1;have h3:p.seeds.contains x=true:=List.contains_iff_mem.2 h7;simp only[Function.comp];rw[q,h3,L2 h2,show ED g p S 0=true from rfl]
   cases S.contains x<;>simp
  rw[e1];refine NS wA h0 ((OG hp.2.1.pair).filter _) λ x hx=>?_;have h2:=h6 x (Qz.1 hx).1;exact Qh.2 ⟨x.toNat,QP.2 zy,zy⟩
 have h2:(((List.range (Ao g p).length).filter λ i=>decide (0<(Ao g p).getD i 0)).map ((λ e:Ed=>if ED g p S e.f=true/\ED g p S e.t=false then e.v else 0)∘λ i:Nat=>(⟨2+2*(i:Int),3+2*(i:Int),(Ao g p).getD i 0 - 1⟩:Ed))).sum<=((List.range g.size.toNat).map λ (i:Nat)=>wB (i:Int)).sum:=by
  rw[ha];refine XD (λ i hi hq=>?_) λ i _=>h4 _;simp only[Function.comp];rw[u,L2 zy,RM zy,U5]
  cases S.contains (i:Int)<;>cases Dd g p S (i:Int)<;>simp<;>omega
 have h3:(((AO g p.lv).edges.filter λ e=>decide (0<(Ao g p).getD e.f.toNat 0)).map ((λ e:Ed=>if ED g p S e.f=true/\ED g p S e.t=false then e.v else 0)∘λ e:Ed=>(⟨3+2*e.f,2+2*e.t,64⟩:Ed))).sum<=0:=by
  have e1:∀ l:List Ed,(∀ e∈l,e∈(AO g p.lv).edges)->(l.map ((λ e:Ed=>if ED g p S e.f=true/\ED g p S e.t=false then e.v else 0)∘λ e:Ed=>(⟨3+2*e.f,2+2*e.t,64⟩:Ed))).sum<=0:=by
   intro l
   induction l with
   | nil=>intro _;exact Uw _
   | cons e l ih =>
     intro h;have ih:=ih λ y hy=>h y (Qg _ hy);have he:=Qz.1 (h e (Qi ..));have hf:=hg.fits e he.1;have hb:p.lv<=e.v:=by have:=he.2;simp at this;omega
     unfold BS at hf;simp only[Qp,Q3,Function.comp] at ih ⊢;rw[L2 zy,RM zy]
     have hc:¬ ((!S.contains e.f && !Dd g p S e.f)=true/\(!S.contains e.t)=false):=by
      rintro⟨a,b⟩
      simp only[QD,UO,Bool.not_eq_false'] at a b
      have hd:Dd g p S e.f=true:=by
       unfold Dd;rw[UB];exact⟨e,he.1,by unfold NG;rw[Q8 rfl,Q8 hb,b];rfl⟩
      rw[hd] at a;exact absurd a.2 zz
     rw[if_neg hc];omega
  exact e1 _ λ e he=>(Qz.1 he).1
 omega
theorem tV (hg:AG g) (hp:BD g.size p) {a:List Int} (hk:Cj g p a) (ha:Ba g p a) (S:List Int):((a.filter λ x=>S.contains x).length:Int)<=Es g p S g.size.toNat:=by
 have q:(a.filter λ x=>S.contains x).Sublist a:=List.filter_sublist;have h1:=ha.sublist hg hp hk q;have u:Cj g p (a.filter λ x=>S.contains x):=hk.sub λ x hx=>q.subset hx;have h2:=(Iu hg hp u).1 h1 (ED g p S) rfl rfl
 rw[Y7 λ k h0=>by
  have h3:=Qz.1 h0;have h4:=hk.rng k h3.1;rw[L2 h4.1,h3.2]
  rfl] at h2
 have:=kZ hg hp S;omega
variable {g:Gr} {p:Aq} {S:List Int} {l:Int}
theorem Tf {α:Type} {f w:α->Int}:∀ {L:List α},(∀ x∈L,f x<=w x)->(L.map f).sum<=(L.map w).sum
 | [],_=>Uw _
 | x::L,h=>by
   have ih:=Tf (L:=L) (f:=f) (w:=w) λ y hy=>h y (Qg _ hy);have h1:=h x (Qi ..);simp only[Qp,Q3];omega
theorem X9 {α:Type} (q:α->Bool) (f:α->Int):∀ L:List α,((L.filter q).map f).sum=(L.map λ x=>if q x=true then f x else 0).sum
 | []=>rfl
 | x::L=>by
   have ih:=X9 q f L;rw[List.filter_cons]
   by_cases h:q x=true
   .rw [if_pos h]
    simp only[Qp,Q3,ih,if_pos h]
   .rw [if_neg h]
    simp only[Qp,Q3,ih,if_neg h];omega
structure JJ where
 gone:Bool
 e:Ed
def KC (g:Gr) (f t:Int):Prop:=∃ x∈g.edges,x.f=f/\x.t=t
theorem CD.irrefl (a:Ed):¬ CD a a:=by unfold CD;omega
theorem AG.of {s:Int} {E:List Ed} {go:List Int} (h0:0<=s) (h1:s<=64) (hl:E.length<=500) (hg:Bh go 0 (s - 1)) (hp:E.Pairwise CD) (hf:∀ e∈E,BS ⟨s,E,go⟩ e/\1<=e.v/\e.v<=3):AG ⟨s,E,go⟩ :=
 ⟨⟨h0,h1,hl,hg⟩,λ i hi=>⟨(hf _ (Qj hi)).1,(hf _ (Qj hi)).2.1,(hf _ (Qj hi)).2.2,λ h0=>I7.2 (QM.1 hp (i - 1) i (by simp only at hi;omega) hi zy)⟩⟩
variable {g:Gr} {f t:Int} {e:Ed}
theorem AG.val (hg:AG g):∀ e∈g.edges,1<=e.v/\e.v<=3:=λ e he=>by
 obtain⟨i,hi,rfl⟩:=Ul he;exact⟨(hg.2 i hi).2.1,(hg.2 i hi).2.2.1⟩
theorem AG.uniq (hg:AG g) {x y:Ed} (hx:x∈g.edges) (hy:y∈g.edges) (hf:x.f=y.f) (ht:x.t=y.t):x=y:=by
 obtain⟨i,hi,rfl⟩:=Ul hx;obtain⟨j,hj,rfl⟩:=Ul hy;rcases Vf i j with h | h | h
 .have:=hg.lt j i hi hj h
  unfold CD at this;omega
 .subst h;rfl
 .have:=hg.lt i j hj hi h
  unfold CD at this;omega
theorem cW (g:Gr) (e:Ed):∀ x,x∈(EK g e).edges↔x=e∨x∈g.edges:=by
 intro x
 have h:x∈g.edges↔x∈g.edges.take (BC g.edges ⟨e.f,e.t,0⟩)∨x∈g.edges.drop (BC g.edges ⟨e.f,e.t,0⟩):=by
  rw[<- Qo,UK]
 rw[h];simp only[EK,Qo,Qw];constructor<;>rintro(h | h | h)<;>simp[h]
structure ZG (g g':Gr) (s:JJ):Prop where
 ok:AG g'
 size:g'.size=g.size
 gone:g'.gone=g.gone
 len:g'.edges.length<=g.edges.length+1
 mem:∀ x,x∈g'.edges↔(s.gone=false/\x=s.e)∨(x∈g.edges/\¬ (s.gone=true/\x.f=s.e.f/\x.t=s.e.t))
theorem ZG.has {g':Gr} {s:JJ} (h:ZG g g' s) {f t:Int} (q:¬ (s.e.f=f/\s.e.t=t)):KC g' f t↔KC g f t:=by
 constructor
 .rintro ⟨x,hx,hf,ht⟩
  rcases(h.mem x).1 hx with h1 | h1
  .obtain ⟨_,rfl⟩:=h1
   exact absurd ⟨hf,ht⟩ q
  .exact ⟨x,h1.1,hf,ht⟩
 .rintro ⟨x,hx,hf,ht⟩
  refine⟨x,(h.mem x).2 (.inr ⟨hx,λ hc=>q ?_⟩),hf,ht⟩;exact⟨hc.2.1.symm.trans hf,hc.2.2.symm.trans ht⟩
theorem AG.nodup (hg:AG g):g.edges.Nodup:=hg.pair.imp λ h he=>by subst he;exact CD.irrefl _ h
variable {g:Gr} {p:Aq} {x:Int} {l:List Int}
structure P7 (g:Gr) (p:Aq) (x:Int) (l:List Int):Prop where
 rng:∀ k∈l,0<=k/\k<g.size
 ne:∀ k∈l,k≠x
 edge:∀ k∈l,∀ e∈g.edges,e.f≠k/\e.t≠k
 gone:∀ k∈l,k∉g.gone
 seed:∀ k∈l,k∉p.seeds
 pair:l.Pairwise (· < ·)
theorem P7.nodup (h:P7 g p x l):l.Nodup:=OG h.pair
variable {g:Gr} {p:Aq} {x:Int} {l:List Int}
open Classical in
theorem Vs {α:Type} (w:α->Int) (hw:∀ x,0<=w x):∀ {s a:List α},s.Nodup->(∀ x∈s,x∈a)->(s.map w).sum<=(a.map w).sum
 | [],a,_,_=>by
   have:∀ a:List α,0<=(a.map w).sum:=λ a=>by
    induction a with
    | nil=>exact Uw _
    | cons x a ih=>simp only[Qp,Q3];have:=hw x;omega
   exact this a
 | x::s,a,hn,h=>by
   rw[Q1] at hn;have h1:=List.perm_cons_erase (h x (Qi ..));have ih:=Vs w hw (s:=s) (a:=a.erase x) hn.2 λ y hy=>(List.mem_erase_of_ne (by rintro rfl;exact hn.1 hy)).2 (h y (Qg _ hy))
   have h2:(a.map w).sum=((x::a.erase x).map w).sum:=by
    have hp:∀ {u v:List α},u.Perm v->(u.map w).sum=(v.map w).sum:=λ hp=>by
     induction hp with
     | nil=>rfl
     | cons x _ ih=>simp only[Qp,Q3,ih]
     | swap x y l=>simp only[Qp,Q3];omega
     | trans _ _ ih1 ih2=>exact ih1.trans ih2
    exact hp h1
   rw[h2];simp only[Qp,Q3];omega
variable {n:Int}
variable {g h:Gr} {p:Aq} {D:List Int}
def E6 (f:Int->Int) (k b j:Int):Int:=if j≠k/\0<=f j/\(b<0∨f j+2<b) then f j+2 else b
def Dj (f:Int->Int) (k:Int) (D:List Int) (b:Int):Int:=D.foldl (E6 f k) b
theorem S9 (f:Int->Int) (k:Int):∀ (D:List Int) (b:Int),(0<=b->0<=Dj f k D b/\Dj f k D b<=b) /\ ∀ j∈D,j≠k->0<=f j->0<=Dj f k D b/\Dj f k D b<=f j+2
 | [],b=>⟨λ h=>⟨h,Uw _⟩,λ _ h=>(Ua h).elim⟩
 | i::D,b=>by
   have ih:=S9 f k D (E6 f k b i);have e:Dj f k (i::D) b=Dj f k D (E6 f k b i):=rfl;rw[e];refine⟨λ hb=>?_,λ j hj q h0=>?_⟩
   .have h1:0<=E6 f k b i/\E6 f k b i<=b:=by unfold E6;split<;>omega
    have:=ih.1 h1.1;omega
   .rcases Qw.1 hj with rfl | hj
    .have h1:0<=E6 f k b j/\E6 f k b j<=f j+2:=by
      unfold E6;split
      .omega
      .rename_i hc
       have:¬ (b<0∨f j+2<b):=λ hh=>hc ⟨q,h0,hh⟩;omega
     have:=ih.1 h1.1;omega
    .exact ih.2 j hj q h0
structure Cz (g h:Gr) (D:List Int):Prop where
 size:g.size<=h.size
 gone:h.gone=g.gone
 key:∀ j∈D,0<=j/\j<g.size
 edge:∀ e∈h.edges,e∈g.edges∨(e.f∈D/\g.size<=e.t)∨g.size<=e.f
theorem Yo (hg:AG g) (hh:AG h) (hR:Cz g h D) (v:Int) {S:List Int} (hS:∀ x∈S,x<g.size):∀ (n:Nat) (k:Int),AZ (AO h v) S k=n ->
  (k<g.size->(0<=AZ (AO g v) S k/\AZ (AO g v) S k<=n) ∨ ∃ j∈D,0<=AZ (AO g v) S j/\AZ (AO g v) S j+2<=n) /\
  (g.size<=k -> ∃ j∈D,0<=AZ (AO g v) S j/\AZ (AO g v) S j+1<=n)
 | 0,k,hd=>by
   have hs:=(Nb (hh.level v)).1 hd
   have hs':EA (AO g v) S k=true:=by
    unfold EA at hs ⊢;have:(AO h v).gone=(AO g v).gone:=hR.gone;rw[this] at hs;exact hs
   have h0:=(Nb (hg.level v) (S:=S)).2 hs';refine⟨λ _=>.inl zy,λ hk=>?_⟩
   unfold EA at hs;simp only[QD,List.contains_iff_mem] at hs;have:=hS k hs.1;omega
 | n+1,k,hd=>by
   obtain⟨e,he,h5,h6⟩:=dE (hh.level v) (n:=n) (by rw[hd];rfl)
   have q:=Qz.1 he;have h9:v<=e.v:=by have:=q.2;simp at this;omega
   have h8:=hh.fits e q.1;have ih:=Yo hg hh hR v hS n e.f h6;rcases hR.edge e q.1 with h1 | ⟨h1,h2⟩ | h1
   .have u:=hg.fits e h1
    have h7:e∈(AO g v).edges:=Qz.2 ⟨h1,zw⟩
    refine⟨λ _=>?_,λ hk=>by have:=u.2.2.2.1;omega⟩
    rcases ih.1 (by have:=u.2.1;omega) with ⟨h3,h4⟩ | ⟨j,hj,h3,h4⟩
    .have:=Sy (hg.level v) h7 h3
     rw[h5] at this
     left;omega
    .right;exact⟨j,hj,h3,zy⟩
   .refine ⟨λ hk=>zy,λ _=>?_⟩
    rcases ih.1 (hR.key _ h1).2 with ⟨h3,h4⟩ | ⟨j,hj,h3,h4⟩
    .exact ⟨e.f,h1,h3,zy⟩
    .exact ⟨j,hj,h3,zy⟩
   .obtain ⟨j,hj,h3,h4⟩:=ih.2 h1
    exact⟨λ _=>.inr ⟨j,hj,h3,zy⟩,λ _=>⟨j,hj,h3,zy⟩⟩
def Iy (g:Gr) (p:Aq) (D:List Int) (k:Int):Int:=Dj (AZ (AO g p.lv) p.seeds) k D (AZ (AO g p.lv) p.seeds k)
theorem Z6 (hg:AG g) (hh:AG h) (hR:Cz g h D) (hS:∀ x∈p.seeds,x<g.size) {k:Int} (hk:k<g.size) (hd:0<=AZ (AO h p.lv) p.seeds k) :
  0<=Iy g p D k/\Iy g p D k<=AZ (AO h p.lv) p.seeds k:=by
 have hl:=S9 (AZ (AO g p.lv) p.seeds) k D (AZ (AO g p.lv) p.seeds k);unfold Iy;have hf:=(Yo hg hh hR p.lv hS (AZ (AO h p.lv) p.seeds k).toNat k zy).1 hk
 rcases hf with ⟨h1,h2⟩ | ⟨j,hj,h1,h2⟩
 .have:=hl.1 h1
  omega
 .by_cases q:j=k
  .subst q
   have:=hl.1 h1;omega
  .have:=hl.2 j hj q h1
   omega
theorem YQ {n:Int} (hp:BD n p):∀ (d i:Nat) (h:i+d<p.table.length),p.table[i+d]<=p.table[i]
 | 0,_,_=>Uw _
 | d+1,i,h=>by
   have ih:=YQ hp d i zy
   have h1:=(hp.2.2.2.2.2.2 (i+(d+1)) h).2.2 zy
   have e:p.table[i+(d+1) - 1]=p.table[i+d]:=by congr 1
   rw[e] at h1;omega
theorem bH (hp:BD n p) {a b:Int} (h0:0<=a) (h:a<=b):DA p b<=DA p a:=by
 have h1:=(JB hp h0).1
 by_cases hb:b.toNat<p.table.length
 .have h2:=YQ hp (b.toNat - a.toNat) a.toNat zy
  unfold DA;rw[if_neg zy,if_neg zy,Qe,Qe,Qa hb,Qa zy,QO,QO]
  have e:p.table[a.toNat+(b.toNat - a.toNat)]' zy=p.table[b.toNat]:=by congr 1;omega
  rw[e] at h2;exact h2
 .have:DA p b=1:=by
   unfold DA;rw[if_neg zy,Qe,QS zy,Option.getD_none]
  omega
def Ez (g:Gr) (p:Aq) (D:List Int) (k:Int):Int:=if 0<=Iy g p D k/\k∉g.gone then DA p (Iy g p D k) - 1 else 0
def Em (g:Gr) (p:Aq) (D:List Int) (K:List Int):Int:=(K.map (Ez g p D)).sum
theorem J7 (hp:BD n p) (k:Int):0<=Ez g p D k/\Ez g p D k<=1000:=by
 unfold Ez;split
 .rename_i h
  have:=JB hp h.1;omega
 .omega
theorem ZU {n:Int} (hp:BD n p):∀ K:List Int,0<=Em g p D K/\Em g p D K<=1000*K.length
 | []=>⟨Uw _,Uw _⟩
 | k::K=>by
   have ih:=ZU hp K;have h1:=J7 (g:=g) (D:=D) hp k;unfold Em at ih ⊢;simp only[Qp,Q3,QV];omega
theorem wQ (hg:AG g) (hh:AG h) (hR:Cz g h D) (hp:BD g.size p) {A:List Int} (hA:∀ x,A.contains x=true↔g.size<=x/\x<h.size) :
  Es h p A h.size.toNat<=Em g p D D:=by
 have hS:∀ x∈p.seeds,x<g.size:=λ x hx=>by have:=hp.2.1.nodup.2 x hx;omega
 have hj:=hg.1.1
 have h1:Es h p A h.size.toNat<=((List.range h.size.toNat).map λ (i:Nat)=>if decide ((i:Int)∈D)=true then Ez g p D i else 0).sum:=by
  unfold Es;refine Tf λ i hi=>?_;have hi:=QP.1 hi
  have hn:0<=(if decide ((i:Int)∈D)=true then Ez g p D i else 0):=by
   split
   .exact (J7 hp _).1
   .exact Uw _
  unfold Gh
  by_cases u:A.contains (i:Int)=true
  .have h2:=(hA i).1 u
   have h3:p.seeds.contains (i:Int)=false:=by
    rw[<- Bool.not_eq_true,List.contains_iff_mem];intro hx;have:=hS _ hx;omega
   rw[u,h3];exact hn
  .rw [Bool.not_eq_true] at u
   rw[u,U5]
   by_cases q:Dd h p A (i:Int)=true
   .rw [q]
    simp only[Bool.false_and,Ue,Uv,Bool.not_false,Bool.true_and,UM];unfold Dd at q;rw[UB] at q;obtain⟨e,he,h0⟩:=q;unfold NG at h0;simp only[QD,Qf] at h0;have hk:=(hA e.t).1 h0.2.2;have h8:=hh.fits e he;unfold BS at h8
    have hl:¬ g.size<=(i:Int):=λ ha=>by
     have:=(hA i).2 ⟨ha,zy⟩
     rw[u] at this
     cases this
    have hb:(i:Int)∈D:=by
     rcases hR.edge e he with h4 | ⟨h4,_⟩ | h4
     .have:=hg.fits e h4
      unfold BS at this;omega
     .rw [<- h0.1];exact h4
     .omega
    rw[Q8 hb,if_pos rfl];have h9:=Ym (g:=h) (p:=p) (k:=(i:Int)) zy zy
    rw[U5] at h9;rw[h9]
    by_cases hd:0<=AZ (AO h p.lv) p.seeds (i:Int)
    .have h5:=Z6 hg hh hR hS (k:=(i:Int)) zy hd
     have h6:=bH hp h5.1 h5.2;have h7:=(JB hp h5.1).1
     have hc:(i:Int)∉g.gone:=by
      rw[<- hR.gone,<- h0.1];exact h8.2.2.2.2.2.1
     unfold Ez;rw[if_pos ⟨h5.1,hc⟩];omega
    .rw [Ko zy]
     have:=(J7 (g:=g) (D:=D) hp (i:Int)).1;omega
   .rw [Bool.not_eq_true] at q
    rw[q];exact hn
 have h2:((List.range h.size.toNat).map λ (i:Nat)=>if decide ((i:Int)∈D)=true then Ez g p D i else 0).sum<=Em g p D D:=by
  rw[<- X9 (λ i:Nat=>decide ((i:Int)∈D)) (λ i:Nat=>Ez g p D i)]
  have e:(((List.range h.size.toNat).filter λ i:Nat=>decide ((i:Int)∈D)).map λ i:Nat=>Ez g p D i)=(((List.range h.size.toNat).filter λ i:Nat=>decide ((i:Int)∈D)).map λ i:Nat=>(i:Int)).map (Ez g p D):=by
   rw[Ub];rfl
  rw[e];refine Vs (Ez g p D) (λ x=>(J7 hp x).1) ?_ λ x hx=>?_
  .refine US.2 (List.Pairwise.imp (λ {a b} hf h=>hf zy) (List.nodup_range.filter _))
  .obtain ⟨i,hi,rfl⟩:=Qh.1 hx
   have:=(Qz.1 hi).2
   simpa using this
 omega
variable {g:Gr}
def D3 (g:Gr) (e:Ed):Gr:=if e.f=e.t∨e.f∈g.gone∨e.t∈g.gone∨E5 g.edges (BC g.edges ⟨e.f,e.t,0⟩) e.f e.t then g else EK g e
theorem AG.big (hg:AG g) (m:Int) (h0:0<=m) (h1:g.size+m<=64):AG ⟨g.size+m,g.edges,g.gone⟩:=by
 obtain⟨⟨a,b,c,d⟩,hE⟩:=hg;refine⟨⟨by simp only;omega,h1,c,λ i h=>?_⟩,λ i hi=>?_⟩
 .have:=d i h
  refine⟨this.1,?_,this.2.2⟩;simp only;omega
 .have:=hE i hi
  refine⟨?_,this.2⟩;have h2:=this.1;unfold BS at h2 ⊢;obtain⟨a1,a2,a3,a4,a5,a6,a7⟩:=h2;exact⟨a1,by simp only;omega,a3,by simp only;omega,a5,a6,a7⟩
theorem Cz.big {D:List Int} (hD:∀ j∈D,0<=j/\j<g.size) (m:Int) (h0:0<=m):Cz g ⟨g.size+m,g.edges,g.gone⟩ D :=
 ⟨by simp only;omega,rfl,hD,λ e he=>.inl he⟩
theorem Zb (h:Gr) (e:Ed):(D3 h e).edges.length<=h.edges.length+1:=by
 unfold D3 EK;split
 .omega
 .simp
  omega
theorem OB (h:Gr) (e:Ed):(D3 h e).size=h.size:=by
 unfold D3 EK;split<;>rfl
theorem ZJ {h:Gr} {e:Ed} (hh:AG h) (hf:0<=e.f/\e.f<h.size) (ht:0<=e.t/\e.t<h.size) (hv:1<=e.v/\e.v<=3) (hl:h.edges.length<500):AG (D3 h e):=by
 unfold D3;split
 .exact hh
 .rename_i hc
  rw[not_or,not_or,not_or] at hc;refine YM hh ?_ hv.1 hv.2 hc.2.2.2 hl;unfold BS;exact⟨hf.1,zy,ht.1,zy,hc.1,hc.2.1,hc.2.2.1⟩
theorem Cz.with {h:Gr} {D:List Int} (hR:Cz g h D) {e:Ed} (he:(e.f∈D/\g.size<=e.t)∨g.size<=e.f):Cz g (D3 h e) D:=by
 refine⟨by rw[OB];exact hR.size,?_,hR.key,λ x hx=>?_⟩
 .rw [<- hR.gone]
  unfold D3 EK;split<;>rfl
 .unfold D3 at hx
  split at hx
  .exact hR.edge x hx
  .rcases (cW h e x).1 hx with rfl | hx
   .exact .inr he
   .exact hR.edge x hx
variable {P:Program} {Q:Dy->St->Prop} {np:Nat}
theorem KO {a b:CS} {st:St} (h:Ad P np a (λ e st'=>match e with | .normal=>∃ s,Le np st' s/\Ad P np b Q s | e=>Q e st') st):Ad P np (.seq a b) Q st:=by
 show Ad P np a _ st;refine D6 (λ e s hs=>?_) h
 cases e with
 | normal=>exact hs
 | exit id=>exact hs
 | ret=>exact hs
theorem ae {ops:List Bl} {sz n:Nat} {t:List (Nat × AV)} {h:List (Nat × Option AD)} {af:List (List Nat)} {R:St->Prop} {s:St} (live:List Nat) (ρ:List (Nat × Nat)) (sn:List Nat) (m:Nat) (ho:BY P np n 0 ops ⟨sz,t,h,n⟩ [] λ st' _=>Fq ρ st'/\EV live ρ sn m st'=s) (hq:R s) (hN:∀ st',(∃ s,Le np st' s/\R s)->Q .normal st':=by exact λ _ h=>h) (hd:((ops.all λ o=>o.dst.all (· < sz)) && EP np m ρ sn)=true:=by rfl):Ad P np (.reg false ops af) Q ⟨sz,t,h,n⟩:=by
 rw[QD] at hd;refine Ap hd.1 (EY _ _ _ _ _ _ _ (λ st' _ hc=>?_) ho);obtain⟨h1,rfl⟩:=hc;exact hN _ ⟨_,Le.cutr (st:=⟨st'.sz,st'.t,st'.h,n+8*ops.length⟩) live ρ sn m hd.2 h1,hq⟩
theorem ad {ops:List Bl} {sz n:Nat} {t:List (Nat × AV)} {h:List (Nat × Option AD)} {af:List (List Nat)} {R:St->Prop} {s:St} (live:List Nat) (ρ:List (Nat × Nat)) (sn:List Nat) (m:Nat) (ho:BY P np n 0 ops ⟨sz,t,h,n⟩ [] λ st' tr=>Jq ops af tr/\Fq ρ st'/\EV live ρ sn m st'=s) (hq:R s) (hN:∀ st',(∃ s,Le np st' s/\R s)->Q .normal st':=by exact λ _ h=>h) (hd:((ops.all λ o=>o.dst.all (· < sz)) && EP np m ρ sn)=true:=by rfl):Ad P np (.reg true ops af) Q ⟨sz,t,h,n⟩:=by
 rw[QD] at hd;refine ET hd.1 (EY _ _ _ _ _ _ _ (λ st' _ hc=>?_) ho);obtain⟨h0,h1,rfl⟩:=hc;exact⟨h0,hN _ ⟨_,Le.cutr (st:=⟨st'.sz,st'.t,st'.h,n+8*ops.length⟩) live ρ sn m hd.2 h1,hq⟩⟩
theorem Le.nw {st st':St} (ρ:List (Nat × Nat)) (nl:List (Nat × Nat)) (u:st'.sz=st.sz:=by rfl) (ht:∀ p∈st'.t,Up nl (conv ρ [] st.hp 4 (st.get p.1)) p.2:=by simp[Up,AC]) (hh:∀ p∈st'.h,∀ e',p.2=some e'->(∃ q∈ρ,q.2=p.1 /\ ∃ e,st.hp q.1=some e/\An nl (Ab ρ [] st.hp 4 e) e')∨((p.1,e'.s)∈nl/\e'.rows=[]/\e'.ro=0):=by simp) (h0:(ρ.map (·.1)).Nodup:=by simp) (h1:(ρ.map (·.2)).Nodup:=by simp) (h2:∀ p∈ρ,p.2<st'.n/\(p.2<np->p.1=p.2):=by simp) (h3:∀ p∈nl,np<=p.1/\p.1<st'.n/\p.1∉ρ.map (·.2)/\p.2≠0:=by simp) (h5:np<=st'.n:=by simp) (h6:(nl.map (·.1)).Nodup:=by simp):Le np st st' :=
 Le.lst ρ [] nl u h0 h1 h2 h3 zz h5 h6 ht hh
theorem Gt {k N:Nat} (h:k<N) (hN:N<=1099511627776:=by omega):IntKind.i64.wrap ((k:Int)+1)=((k+1:Nat):Int):=by rw[w6];omega
theorem JP {α β:Type} (f:α->β) (l:List α):List.take l.length (l.map f)=l.map f:=Qb zz
theorem cO {f:FuncId} {args aA:List AV} {hs:List AD} {res:AV} {hs':List (Option AD)} (h:Bz P f aA hs res hs') (hw:C7 args aA):Bz P f args hs res hs':=by
 refine⟨h.1,h.2.1,λ T M w vs h1 h2 h3 hr=>h.2.2 T M w vs h1 h2 h3 ⟨hr.1.trans hw.length,λ i hi=>?_⟩⟩;have hi':i<args.length:=by rw[hw.length];exact hi
 exact(hw.get i hi').rep (hr.2 i hi')
theorem ZA (g:Gr) (e:Ed) (hl:g.edges.length<=1000) (h9:g.gone.length<=1000):AK 31 [eG g,.I e.f,.I e.t,.I e.v] [] (eG (D3 g e)) []:=by
 refine eT.s.ai ?_;refine A2 ⟨108,[(1,.I e.f),(2,.I e.t),(3,.I e.v),(4,.pt 16 0 0),(8,.pt 24 0 0)],[(16,some ⟨3,[gC g],0⟩),(24,some ⟨3,[[.I 0,.nilS,.nilS]],0⟩)],100⟩ [(16,16),(24,24)] [] ?_;refine AB (arc ⟨108,[(1,.I e.f),(2,.I e.t),(3,.I e.v),(4,.pt 16 0 0),(8,.pt 24 0 0),(24,.B (decide (e.f=e.t∨e.f∈g.gone∨e.t∈g.gone)))],[(16,some ⟨3,[gC g],0⟩),(24,some ⟨3,[[.I 0,.nilS,.nilS]],0⟩)],400⟩ ?_ ?_)
 .simp
  repeat' first
   | (refine Dc 15 rfl ?_;refine A4 (Sm _ _ zy) rfl ?_;simp)
   | (refine Cs (λ hb=>?_) (λ hb=>?_)<;>(try rw[hb])<;>(try simp at hb)<;>simp[*])
  all_goals exact AJ [(16,16),(24,24)] [] (by simp<;>exact BA (by (try simp at *);grind))
 refine AI _ rfl (λ h=>?_) λ h=>AN ?_
 .rw [Qf] at h
  have hr:D3 g e=g:=by unfold D3;rw[if_pos (by rcases h with h | h | h<;>simp[h])]
  rw[hr];apply ax [8] [(24,24)] [] 600
  .simp
   rfl
  refine A9 ⟨.inr rfl,?_⟩;exact AW.out [] [] rfl zz zz zz zz
 rw[Qd] at h;refine ar [1,2,3,4,8,9] [(16,16),(24,24)] [] 500 ?_;refine AB (AT (As (ι:=Nat) (λ k=>⟨108,[(1,.I e.f),(2,.I e.t),(3,.I e.v),(4,.pt 16 0 0),(8,.pt 24 0 0),(9,.I k)],[(16,some ⟨3,[gC g],0⟩),(24,some ⟨3,[[.I 0,.nilS,.nilS]],0⟩)],600⟩) (λ k=>k<=g.edges.length /\ ∀ i,i<k->N2 g.edges ⟨e.f,e.t,0⟩ i) (λ k=>g.edges.length - k) 0 zz (BP [(16,16),(24,24)] []) ?_))
 rintro k ⟨hk,hp⟩
 refine AB (arc ⟨108,[(1,.I e.f),(2,.I e.t),(3,.I e.v),(4,.pt 16 0 0),(8,.pt 24 0 0),(9,.I k),(60,.B (decide (∃ h:k<g.edges.length,CD g.edges[k] ⟨e.f,e.t,0⟩)))],[(16,some ⟨3,[gC g],0⟩),(24,some ⟨3,[[.I 0,.nilS,.nilS]],0⟩)],1000⟩ ?_ ?_)
 .simp
  repeat' first
   | (refine Cs (λ hb=>?_) (λ hb=>?_)<;>(try rw[hb])<;>(try simp at hb)<;>simp[*])
  all_goals exact AJ [(16,16),(24,24)] [] (by simp<;>exact BA (by (try simp at *);grind [CD]))
 refine AI _ rfl (λ h2=>?_) λ h2=>?_
 .try simp at h2
  obtain⟨h2,h5⟩:=h2;have h6:=Gt h2 zy
  refine AN (AT (Ap rfl ?_));simp[h6];refine⟨k+1,⟨h2,λ i hi=>?_⟩,zy,BP [(16,16),(24,24)] []⟩
  rcases QI.1 hi with h | rfl
  .exact hp i h
  .exact λ _=>h5
 try simp at h2
 have h0:BC g.edges ⟨e.f,e.t,0⟩=k:=Sw hk hp h2;refine Ar (hit (AB (arc ⟨108,[(1,.I e.f),(2,.I e.t),(3,.I e.v),(4,.pt 16 0 0),(8,.pt 24 0 0),(9,.I k),(87,.B (decide (E5 g.edges k e.f e.t)))],[(16,some ⟨3,[gC g],0⟩),(24,some ⟨3,[[.I 0,.nilS,.nilS]],0⟩)],1600⟩ ?_ ?_)))
 .simp
  repeat' first
   | (refine Cs (λ hb=>?_) (λ hb=>?_)<;>(try rw[hb])<;>(try simp at hb)<;>simp[*])
  all_goals exact AJ [(16,16),(24,24)] [] (by simp<;>exact BA (by (try simp at *);grind [E5]))
 refine AI _ rfl (λ h3=>?_) λ h3=>AN ?_
 .rw [Qf] at h3
  have hr:D3 g e=g:=by unfold D3;rw[if_pos (by rw[h0];simp[h3])]
  rw[hr];apply ax [8] [(24,24)] [] 1800
  .simp
   rfl
  refine A9 ⟨.inr rfl,?_⟩;exact AW.out [] [] rfl zz zz zz zz
 rw[Qd] at h3;have hr:D3 g e=EK g e:=by unfold D3;rw[if_neg (by rw[h0];grind)]
 rw[hr];unfold EK;rw[h0];have u:min k g.edges.length=k:=UZ hk;have h8:g.edges.length<=1000:=hl;have h1:List.take (k+1) (List.take k (List.map (λ e:Ed=>[AV.I e.f,AV.I e.t,AV.I e.v]) g.edges)++[[AV.I e.f,AV.I e.t,AV.I e.v]])=List.take k (List.map (λ e:Ed=>[AV.I e.f,AV.I e.t,AV.I e.v]) g.edges)++[[AV.I e.f,AV.I e.t,AV.I e.v]]:=Qb (by simp;exact Nat.min_le_left _ _)
 obtain⟨E,hE⟩:=AR (g.edges.take k++e::g.edges.drop k);have h7:k+1+(g.edges.length - k)=E.length:=by subst hE;simp;omega
 have q:List.take k (List.map (λ e:Ed=>[AV.I e.f,AV.I e.t,AV.I e.v]) g.edges)++[AV.I e.f,AV.I e.t,AV.I e.v]::List.drop k (List.map (λ e:Ed=>[AV.I e.f,AV.I e.t,AV.I e.v]) g.edges)=E.map λ e:Ed=>[AV.I e.f,AV.I e.t,AV.I e.v]:=by subst hE;simp[UX,Vi]
 rw[<- hE];apply ay [8,4] [(16,16),(24,24),(1728,50)] [] 2000
 .simp [u,hk,h1,h7,q,Ax]
  repeat' apply And.intro
  all_goals first | omega | rfl
 refine ar [8] [(24,24),(50,50)] [] 2400 ?_;refine A9 ⟨.inr rfl,?_⟩;have h4:E.length<=k+1+(g.edges.length - k):=zy
 exact AW.out [] [50] rfl zz zz (by simp[AC,B7,h4,u,h1,q]) zz
def Cl (g:Gr) (m:Nat):List Int:=(List.range m).map λ (i:Nat)=>g.size+(i:Int)
theorem I5 (g:Gr) (m:Nat):(Cl g m).length=m:=by simp[Cl]
theorem Ks (g:Gr) {m i:Nat} (h:i<(Cl g m).length):(Cl g m)[i]=g.size+(i:Int):=by simp[Cl]
theorem qJ (g:Gr) (m:Nat):Cl g (m+1)=Cl g m++[g.size+(m:Int)]:=by simp[Cl,Vh]
theorem Hy (L:List Int) (a:Nat) (n:Int) (hl:L.length<=400) (ha:a<=L.length) (h0:0<n) (hn:n<=1000):∃ (x b:Nat),(b<=L.length/\(x:Int)<n)/\AK 19 [.pt 0 0 0,.I n] [AS L a] (.I x) [some (AS L b)]:=by
 have h1:=Gi (L:=L) (a:=a) h0;have h2:=KZ L a n zy ha zy
 obtain⟨x,hx⟩:∃ x:Nat,(x:Int)=(Af L a n).1:=⟨(Af L a n).1.toNat,zy⟩
 rw[<- hx] at h2;exact⟨x,_,⟨D7 ha,zy⟩,h2⟩
theorem lN (L:List Int) (a:Nat) (hl:L.length<=400) (ha:a<=L.length):∃ (x:Bool) (b:Nat),b<=L.length/\AK 20 [.pt 0 0 0,.I 2] [AS L a] (.B x) [some (AS L b)] :=
 ⟨_,_,D7 ha,PD L a 2 zy ha zx zx⟩
structure rR where
 n:Nat
 h:Gr
 b:Nat
theorem sP (L:List Int) (a:Nat) (g:Gr) (D:List Int) (m:Nat) (hl:L.length<=400) (ha:a<=L.length) (hg:AG g) (hge:g.edges.length<=400) (hm:1<=m/\m<=6) (hs:g.size+m<=64) (hD:∀ j∈D,0<=j/\j<g.size) (a6:D.length<=16) :
  ∃ x:Gr × Nat,(x.2<=L.length/\AG x.1/\x.1.size=g.size+m/\Cz g x.1 D)/\AK 11 [.pt 0 0 0,eG g,AA D,.I m] [AS L a] (.tup [eG x.1,AA (Cl g m)]) [some (AS L x.2)]:=by
 have a7:=hg.1.1;have a8:=hg.gone_le;refine e8.s.acallsX (args:=[.pt 0 0 0,eG g,AA D,.I m]) (hs:=[AS L a]) (λ x=>.tup [eG x.1,AA (Cl g m)]) (λ x=>[some (AS L x.2)]) (λ x:Gr × Nat=>x.2<=L.length/\AG x.1/\x.1.size=g.size+m/\Cz g x.1 D) (Bf rfl) (Bf rfl) (λ _=>zz) ?_
 show Ad _ 1 _ _ ⟨91,[(0,.pt 0 0 0),(1,eG g),(2,AA D),(3,.I m)],[(0,some (AS L a))],16⟩;refine A2 ⟨91,[(0,.pt 0 0 0),(2,AA D),(3,.I m),(5,.pt 16 0 0),(8,.pt 24 0 0),(9,.nilS)],[(0,some (AS L a)),(16,some ⟨3,[gC g],0⟩),(24,some ⟨3,[[.I 0,.nilS,.nilS]],0⟩)],100⟩ [(0,0),(16,16),(24,24)] [] ?_;have hw:IntKind.i64.wrap (g.size+(m:Int))=g.size+m:=w6;refine Cd ⟨91,[(0,.pt 0 0 0),(2,AA D),(3,.I m),(5,.pt 16 0 0),(8,.pt 24 0 0),(10,.pt 40 0 0)],[(0,some (AS L a)),(16,some ⟨3,[gC g],0⟩),(24,some ⟨3,[[.I 0,.nilS,.nilS]],0⟩),(40,some ⟨3,[gC ⟨g.size+m,g.edges,g.gone⟩],0⟩)],300⟩ ?_ ?_
 .simp [hw,Ax]
  refine⟨zy,zy,zy,zy,rfl,?_⟩
  exact AJ [(0,0),(16,16),(24,24),(204,40)] [156,188] (by simp[AC,B7]) (by simp[AC,B7])
 refine ar [0,2,3,5,8,10,11] [(0,0),(16,16),(24,24),(40,40)] [] 400 ?_;refine AB (A2 ⟨91,[(0,.pt 0 0 0),(2,AA D),(3,.I m),(5,.pt 16 0 0),(8,.pt 24 0 0),(10,.pt 40 0 0),(11,.nilS),(12,.I 0)],[(0,some (AS L a)),(16,some ⟨3,[gC g],0⟩),(24,some ⟨3,[[.I 0,.nilS,.nilS]],0⟩),(40,some ⟨3,[gC ⟨g.size+m,g.edges,g.gone⟩],0⟩)],500⟩ [(0,0),(16,16),(24,24),(40,40)] [] ?_);refine AT ?_;refine As (ι:=Nat) (λ i=>⟨91,[(0,.pt 0 0 0),(2,AA D),(3,.I m),(5,.pt 16 0 0),(8,.pt 24 0 0),(10,.pt 40 0 0),(11,.rs 50 0 i),(12,.I i)],[(0,some (AS L a)),(16,some ⟨3,[gC g],0⟩),(24,some ⟨3,[[.I 0,.nilS,.nilS]],0⟩),(40,some ⟨3,[gC ⟨g.size+m,g.edges,g.gone⟩],0⟩),(50,some ⟨1,AE (Cl g i),0⟩)],600⟩) (λ i=>i<=m) (λ i=>m - i) 0 (Qn _) (Le.nw [(0,0),(16,16),(24,24),(40,40)] [(50,1)] rfl (by simp[Up,Cl]) (by simp[Cl];refine⟨?_,?_,?_,?_⟩<;>exact An.eq (by simp[AC]) zz)) ?_
 intro i hi;refine AB (A2 ⟨91,[(0,.pt 0 0 0),(2,AA D),(3,.I m),(5,.pt 16 0 0),(8,.pt 24 0 0),(10,.pt 40 0 0),(11,.rs 50 0 i),(12,.I i),(29,.B (decide (i<m)))],[(0,some (AS L a)),(16,some ⟨3,[gC g],0⟩),(24,some ⟨3,[[.I 0,.nilS,.nilS]],0⟩),(40,some ⟨3,[gC ⟨g.size+m,g.edges,g.gone⟩],0⟩),(50,some ⟨1,AE (Cl g i),0⟩)],700⟩ [(0,0),(16,16),(24,24),(40,40),(50,50)] [] ?_);refine AI _ rfl (λ h=>AN ?_) λ h=>Ar (hit ?_)
 .rw [Qf] at h
  have ho:=Gt h zy
  have hq:IntKind.i64.wrap (g.size+(i:Int))=g.size+i:=w6;have hr:(AE (Cl g i)).take i=AE (Cl g i):=Qb (by simp[I5])
  refine KO ?_;refine AT ?_;apply ae [0,2,3,5,8,10,11,12] [(0,0),(16,16),(24,24),(40,40),(748,50)] [] 900
  .simp [hr,hq,Ax,AC]
   refine⟨by simp[I5],zy,zy,?_⟩
   rfl
  refine Ap rfl ?_;simp[ho];refine⟨i+1,zy,zy,?_⟩
  rw[qJ];exact BB [(0,0),(16,16),(24,24),(40,40),(50,50)] []
 rw[Qd] at h;have he:i=m:=zy
 rw[he]
 clear h hi he
 obtain⟨n0,b0,⟨hu,a9⟩,hN⟩:=Hy L a 10 hl ha zx zx
 have hv:n0<=9:=zy
 refine AB (arc ⟨91,[(0,.pt 0 0 0),(2,AA D),(3,.I m),(5,.pt 16 0 0),(8,.pt 24 0 0),(10,.pt 40 0 0),(11,.rs 50 0 m),(13,.I n0)],[(0,some (AS L b0)),(16,some ⟨3,[gC g],0⟩),(24,some ⟨3,[[.I 0,.nilS,.nilS]],0⟩),(40,some ⟨3,[gC ⟨g.size+m,g.edges,g.gone⟩],0⟩),(50,some ⟨1,AE (Cl g m),0⟩)],800⟩ ?_ ?_)
 .simp
  refine B6 (i:=0) rfl (e':=AS L a) zz hN zz zz ?_
  simp;exact BB [(0,0),(16,16),(24,24),(40,40),(50,50)] []
 refine AT (As (ι:=rR) (λ s=>⟨91,[(0,.pt 0 0 0),(2,AA D),(3,.I m),(5,.pt 16 0 0),(8,.pt 24 0 0),(10,.pt 40 0 0),(11,.rs 50 0 m),(13,.I s.n)],[(0,some (AS L s.b)),(16,some ⟨3,[gC g],0⟩),(24,some ⟨3,[[.I 0,.nilS,.nilS]],0⟩),(40,some ⟨3,[gC s.h],0⟩),(50,some ⟨1,AE (Cl g m),0⟩)],900⟩) (λ s=>s.n<=9/\s.b<=L.length/\AG s.h/\s.h.size=g.size+m/\Cz g s.h D/\s.h.edges.length+s.n<=g.edges.length+9) (λ s=>s.n) ⟨n0,⟨g.size+m,g.edges,g.gone⟩,b0⟩ ⟨hv,hu,hg.big m zy zy,rfl,Cz.big hD m zy,by simp only;omega⟩ (BB [(0,0),(16,16),(24,24),(40,40),(50,50)] []) ?_)
 rintro⟨n,h,b⟩ ⟨hn,hb,hh,u,hR,a0⟩
 simp only at hn hb hh u hR a0;refine AB (arc ⟨91,[(0,.pt 0 0 0),(2,AA D),(3,.I m),(5,.pt 16 0 0),(8,.pt 24 0 0),(10,.pt 40 0 0),(11,.rs 50 0 m),(13,.I n),(46,.B (decide (0<n)))],[(0,some (AS L b)),(16,some ⟨3,[gC g],0⟩),(24,some ⟨3,[[.I 0,.nilS,.nilS]],0⟩),(40,some ⟨3,[gC h],0⟩),(50,some ⟨1,AE (Cl g m),0⟩)],1000⟩ ?_ ?_)
 .have a1:0<m:=zy
  by_cases c:0<n
  .simp [c,a1]
   exact AJ [(0,0),(16,16),(24,24),(40,40),(50,50)] [] (by simp[AC,c]) (by simp[AC])
  .simp [c]
   exact AJ [(0,0),(16,16),(24,24),(40,40),(50,50)] [] (by simp[AC,c]) (by simp[AC])
 refine AI _ rfl (λ c=>AN ?_) λ c=>Ar (hit ?_)
 .rw [Qf] at c
  have hf:IntKind.i64.wrap ((n:Int) - 1)=((n - 1:Nat):Int):=by rw[w6];omega
  have hj:=I5 g m
  obtain⟨c1,b1,hk,a2,a3⟩:∃ (c1:Bool) (b1:Nat),b1<=L.length/\(c1=true->0<D.length)/\((0<D.length/\AK 20 [.pt 0 0 0,.I 2] [AS L b] (.B c1) [some (AS L b1)])∨(D.length=0/\c1=false/\b1=b)):=by
   by_cases q:0<D.length
   .obtain ⟨x,b1,h1,h2⟩:=lN L b hl hb
    exact⟨x,b1,h1,λ _=>q,.inl ⟨q,h2⟩⟩
   .exact ⟨false,b,hb,λ h=>(by cases h),.inr ⟨zy,rfl,rfl⟩⟩
  refine KO ?_;refine AT (arc ⟨91,[(0,.pt 0 0 0),(2,AA D),(3,.I m),(5,.pt 16 0 0),(8,.pt 24 0 0),(10,.pt 40 0 0),(11,.rs 50 0 m),(13,.I n),(55,.B c1)],[(0,some (AS L b1)),(16,some ⟨3,[gC g],0⟩),(24,some ⟨3,[[.I 0,.nilS,.nilS]],0⟩),(40,some ⟨3,[gC h],0⟩),(50,some ⟨1,AE (Cl g m),0⟩)],1200⟩ ?_ ?_)
  .rcases a3 with ⟨q,hO⟩ | ⟨q,rfl,rfl⟩
   .simp [q]
    refine B6 (i:=0) rfl (e':=AS L b) zz hO zz zz ?_
    simp;exact BB [(0,0),(16,16),(24,24),(40,40),(50,50)] []
   .simp [q]
    exact BB [(0,0),(16,16),(24,24),(40,40),(50,50)] []
  refine AI _ rfl (λ ht=>?_) λ ht=>?_
  .have q:=a2 ht
   obtain⟨x,b2,⟨h3,hx⟩,h4⟩:=Hy L b1 D.length hl hk zy zy
   obtain⟨y,b3,⟨h5,hy⟩,h6⟩:=Hy L b2 m hl h3 zy zy
   obtain⟨z,b4,⟨h7,hz⟩,h8⟩:=Hy L b3 3 hl h5 zx zx
   have h0:x<D.length:=zy
   have h9:y<m:=zy
   have hc:IntKind.i64.wrap (1+(z:Int))=1+z:=w6;have ag:=hD _ (Qj h0);have hW:=ZA h ⟨D[x],g.size+y,1+z⟩ zy (by have:=hh.gone_le;omega)
   have a4:D[x]? = some D[x]:=Qa h0;have hd:(Cl g m)[y]? = some (g.size+(y:Int)):=by rw[Qa zy,Ks]
   apply ad [0,2,3,5,8,10,11,13] [(0,0),(16,16),(24,24),(40,40),(50,50)] [] 2400
   .simp [Ax]
    refine B6 (i:=0) rfl (e':=AS L b1) zz h4 zz zz ?_
    simp[a4];refine B6 (i:=0) rfl (e':=AS L b2) zz h6 zz zz ?_
    simp[hd,h9,hj,h0,Ks];refine B6 (i:=0) rfl (e':=AS L b3) zz h8 zz zz ?_
    simp[hc,Ax];refine A4 hW (by simp[AC]) ?_
    simp[Ax];refine⟨rfl,?_⟩;rfl
   refine Ap rfl ?_;simp[hf];refine⟨⟨n - 1,D3 h ⟨D[x],g.size+y,1+z⟩,b4⟩,⟨by simp only;omega,h7,ZJ hh (by simp only;omega) (by simp only;omega) (by simp only;omega) zy,by rw[OB];exact u,hR.with (.inl ⟨Qj h0,by simp only;omega⟩),?_⟩,by simp only;omega,?_⟩
   .have:=Zb h ⟨D[x],g.size+y,1+z⟩
    simp only;omega
   .exact BB [(0,0),(16,16),(24,24),(40,40),(50,50)] []
  .obtain ⟨y,b2,⟨h3,hy⟩,h4⟩:=Hy L b1 m hl hk zy zy
   obtain⟨w,b3,⟨h5,ai⟩,h6⟩:=Hy L b2 h.size hl h3 zy zy
   obtain⟨z,b4,⟨h7,hz⟩,h8⟩:=Hy L b3 3 hl h5 zx zx
   have h9:y<m:=zy
   have hc:IntKind.i64.wrap (1+(z:Int))=1+z:=w6;have hW:=ZA h ⟨g.size+y,w,1+z⟩ zy (by have:=hh.gone_le;omega)
   have hd:(Cl g m)[y]? = some (g.size+(y:Int)):=by rw[Qa zy,Ks]
   apply ad [0,2,3,5,8,10,11,13] [(0,0),(16,16),(24,24),(40,40),(50,50)] [] 2400
   .simp [Ax]
    refine B6 (i:=0) rfl (e':=AS L b1) zz h4 zz zz ?_
    simp[hd,h9,hj,Ks];refine B6 (i:=0) rfl (e':=AS L b2) zz h6 zz zz ?_
    simp;refine B6 (i:=0) rfl (e':=AS L b3) zz h8 zz zz ?_
    simp[hc,Ax];refine A4 hW (by simp[AC]) ?_
    simp[Ax];refine⟨rfl,?_⟩;rfl
   refine Ap rfl ?_;simp[hf];refine⟨⟨n - 1,D3 h ⟨g.size+y,w,1+z⟩,b4⟩,⟨by simp only;omega,h7,ZJ hh (by simp only;omega) (by simp only;omega) (by simp only;omega) zy,by rw[OB];exact u,hR.with (.inr (by simp only;omega)),?_⟩,by simp only;omega,?_⟩
   .have:=Zb h ⟨g.size+y,w,1+z⟩
    simp only;omega
   .exact BB [(0,0),(16,16),(24,24),(40,40),(50,50)] []
 have a5:((Cl g m).map λ x=>[AV.I x]).take m=(Cl g m).map λ x=>[AV.I x]:=Qb (by simp[I5])
 apply ax [8,9] [(24,24),(0,0),(50,50)] [] 3000
 .simp [Ax]
  rfl
 refine A9 (FF.mk (.inr rfl) (h,b) ⟨hb,hh,u,hR⟩ ?_);refine⟨_,rfl,[],[50],by simp[List.range,List.range.loop],zz,zz,?_,?_⟩
 .simp [List.range,List.range.loop,AC,B7,I5,a5]
 .simp [List.range,List.range.loop]
theorem pG {g:Gr} {p:Aq} (hg:AG g) (hp:BD g.size p) (hs:p.seeds.length<=64) {acc:List Int} {k:Int} (hr:∀ x∈acc++[k],0<=x/\x<g.size) (hn:¬ Ba g p (Am (acc++[k]))):PT g p acc k (Di (A1 g) (Ah g p (Am (acc++[k])))):=by
 have hv:=MB hg hp (ks:=Am (acc++[k])) (λ x hx=>hr x (Ip.1 hx).1) hs (Hj _);have h:=Vy hv;refine⟨hn,h.1,h.2,QF (S1 _ _) ?_,rfl⟩;have h1:=hg.1.1;have h2:=hg.1.2.1;unfold A1;omega
theorem Zn {g:Gr} {p:Aq} (hg:AG g) (hp:BD g.size p) (hs:p.seeds.length<=64):∀ (n:Nat) (o:List Int),o.length=n->(∀ k∈o,0<=k/\k<g.size)->FZ g p o (Bc g p o)
 | 0,o,h,_=>by
   obtain rfl:=QK h;exact FZ.nil
 | n+1,o,h,hr=>by
   have q:o≠[]:=λ h0=>by rw[h0] at h;cases h
   obtain⟨o',k,rfl⟩:∃ o' k,o=o'++[k]:=⟨o.dropLast,o.getLast q,(U1 q).symm⟩;have hl:o'.length=n:=by simpa using h
   have ih:=Zn hg hp hs n o' hl λ x hx=>hr x (QZ _ hx)
   by_cases hc:Ba g p (Am (AM g p o'++[k]))
   .have h1:=ih.yes hc
    rw[JN hc];exact h1
   .have h1:=ih.no (pG hg hp hs (acc:=AM g p o') (k:=k) (λ x hx=>by
     rcases Qo.1 hx with hx | hx
     .exact hr x (QZ _ ((Gz _ o' rfl).subset hx))
     .exact hr x (UL _ hx)) hc)
    rw[Ka hc];exact h1
variable {g:Gr} {p:Aq}
def sv (A:List Ed):List Int:=(A.filter λ e=>decide (e.t=1)).map λ e=>(e.f - 2) / 2
theorem fL (hg:AG g) (hp:BD g.size p) (hs:p.seeds.length<=64) {o:List Int} (q:o.Nodup) (u:Cj g p o) (i:Nat):Ba g p (Am (AM g p (o.take i))) :=
 (Tj hg hp hs _ (o.take i) rfl (q.sublist (Vg _ _)) (u.sub λ _ hx=>QR hx)).1
theorem BD.big {n k:Int} {p:Aq} (h:BD n p) (hn:n<=k):BD k p :=
 ⟨h.1,λ i hi=>by have:=h.2.1 i hi;exact⟨this.1,zy,this.2.2⟩,h.2.2⟩
theorem sB (g:Gr) (m:Nat) (x:Int):x∈Cl g m↔g.size<=x/\x<g.size+m:=by
 unfold Cl;rw[Qh];constructor
 .rintro ⟨i,hi,rfl⟩
  have:=QP.1 hi;omega
 .intro h
  exact⟨(x - g.size).toNat,QP.2 zy,zy⟩
theorem lS {g h:Gr} {p:Aq} {D:List Int} {m:Nat} (hg:AG g) (hh:AG h) (hR:Cz g h D) (hp:BD g.size p) (q:BD h.size p) (hs:p.seeds.length<=64) (h3:h.size=g.size+m) :
  (((AM h p (AL (AO h p.lv) p.seeds)).filter λ x=>(Cl g m).contains x).length:Int)<=Em g p D D:=by
 obtain⟨o,ho⟩:=AR (AL (AO h p.lv) p.seeds);have h1:o.Nodup:=by rw[ho];exact GJ _ _
 have h2:Cj h p o:=by rw[ho];exact Vq hh q λ k hk=>hk
 have u:=fL hh q hs h1 h2 o.length;rw[QW,] at u;rw[<- ho];have h0:Cj h p (AM h p o):=h2.sub λ x hx=>(Gz _ o rfl).subset hx;have h64:∀ k∈AM h p o,0<=k/\k<64:=λ k hk=>by have:=h0.rng k hk;have:=hh.1.2.1;omega
 have hb:=tV hh q h0 (u.perm hh q h0.join (LZ (h1.sublist (Gz _ o rfl)) h64).symm) (Cl g m)
 have hl:=wQ hg hh hR hp (A:=Cl g m) λ x=>by
  rw[List.contains_iff_mem,sB,h3]
 omega
theorem wC (L:List Int):AK 4 [AA L] [] (.B (decide (L.length<=400))) []:=by
 refine m9.s.ai ?_;refine ar [0] [] [] 100 ?_;refine ar [2] [] [] 200 ?_;exact A8 (AW.one (by simp;exact BA (by rw[Qv];simp;omega)))
theorem CE.step9 {g:Gr} {p:Aq} {x:A6} {i:Nat} {o:List Int} (hg:AG g) (ho:o=AL (AO g p.lv) p.seeds) (h:i<o.length) (hx:CE g p o o[i] x) :
  x.key=o[i]/\x.before=AM g p (o.take i)/\AM g p (o.take (i+1))=AM g p (o.take i)++if x.acc=true then [o[i]] else []:=by
 subst ho;have hn:=GJ (AO g p.lv) p.seeds;obtain⟨h1,h2,j,hj,h0,h3⟩:=hx.at_ hg;have h4:j=i:=(List.getElem_inj hn).1 h0;subst h4;refine⟨h1,h3,?_⟩;have q:=hx.acc_iff;have u:=Ln (g:=g) (p:=p) hn h;rw[Ql h]
 by_cases hc:Ba g p (Am (AM g p ((AL (AO g p.lv) p.seeds).take j)++[(AL (AO g p.lv) p.seeds)[j]]))
 .rw [GV hc,if_pos (q.2 (u.2 hc))]
 .rw [H8 hc,if_neg λ ha=>hc (u.1 (q.1 ha)),Q0]
theorem jW {g:Gr} {p:Aq} {X:List A6} (hg:AG g) (hp:BD g.size p) (h:Kf g p (AL (AO g p.lv) p.seeds) X) :
  Dr (AL (AO g p.lv) p.seeds) (HO g p) X=(AM g p (AL (AO g p.lv) p.seeds),0):=by
 obtain⟨hl,hr⟩:=h
 have hz:Fw (HO g p) X=0:=Mj λ j hj=>by
  unfold HO;rw[if_pos hg,if_pos hp];exact(hr j hj zy).checked hg hp
 obtain⟨o,ho⟩:=AR (AL (AO g p.lv) p.seeds);rw[<- ho] at hl hr ⊢;have hs:=λ i (h1:i<X.length) (h2:i<o.length)=>(hr i h1 h2).step9 hg ho h2
 have key:∀ i,i<=X.length->Bd (X.take i)=AM g p (o.take i):=by
  intro i
  induction i with
  | zero=>intro _;simp[Bd,MK]
  | succ i ih =>
    intro hi;have u:i<X.length:=hi;have q:i<o.length:=zy
    obtain⟨e1,e2,e3⟩:=hs i u q;rw[Zj u,ih zy,e3,e1]
 have q:Kx o X X.length:=λ i h1 h2 _=>⟨(hs i h1 h2).1,by rw[key i zy];exact(hs i h1 h2).2.1⟩
 unfold Dr;rw[if_pos ⟨hl,q⟩,if_pos hz];have:=key X.length (Qk _);rw[QW] at this;rw[hl,QW] at this;rw[this]
theorem fW (l:List Int) (n:Int) (hl:l.length<=16) (hr:∀ (i:Nat) (h:i<l.length),0<=l[i]/\l[i]<n/\(0<i->l[i - 1]<l[i])):AK 25 [AA l,.I n] [] (.B true) []:=by
 refine uZ.s.ai ?_;refine ar [0,1] [] [] 100 ?_;refine AB (ar [0,1,7,8,9] [] [] 200 ?_);refine AT (As (ι:=Nat) (λ i=>⟨38,[(0,AA l),(1,.I n),(7,AA l),(8,.I l.length),(9,.I i)],[],300⟩) (λ i=>i<=l.length) (λ i=>l.length - i) 0 (Qn _) (BP [] []) ?_);intro i hi;refine A2 ⟨38,[(0,AA l),(1,.I n),(7,AA l),(8,.I l.length),(9,.I i),(10,.B (decide (i<l.length)))],[],400⟩ [] [] ?_;refine AB (AI _ rfl (λ h=>AN ?_) λ h=>Ar (hit ?_))
 .rw [Qf] at h
  have q:=Gt h zy
  have u:=hr i h;refine KO ?_;refine AT (arc ⟨38,[(0,AA l),(1,.I n),(5,.I i),(6,.I l[i]),(7,AA l),(8,.I l.length),(9,.I i)],[],500⟩ ?_ ?_)
  .simp [h]
   exact AJ [] [] (by simp[h])
  refine arc ⟨38,[(0,AA l),(1,.I n),(7,AA l),(8,.I l.length),(9,.I i),(33,.B false)],[],800⟩ ?_ ?_
  .have h1:¬ l[i]<0:=zy
   have h2:¬ n<=l[i]:=zy
   by_cases h0:0<i
   .have h3:i - 1<l.length:=zy
    have h4:¬ l[i]<=l[i - 1]:=by have:=u.2.2 h0;omega
    have hw:IntKind.i64.wrap ((i:Int) - 1)=((i - 1:Nat):Int):=by rw[w6];omega
    simp[h1,h2,h0,hw,h3,h4];exact BP [] []
   .simp [h1,h2,h0]
    exact BP [] []
  refine AI _ rfl (λ ht=>by cases ht) λ ht=>AN ?_
  refine⟨_,Le.refl _ _,?_⟩;refine Ap rfl ?_;simp[q];refine⟨i+1,zy,zy,?_⟩
  exact BP [] []
 rw[Qd] at h;apply ax [4] [] [] 600
 .simp
  rfl
 exact A8 (AW.one (by simp;exact BA (by rw[Qv];simp;omega)))
theorem rA (f:Int->Int) (Z D:List Int) (k:Int) (hZ:∀ (j:Nat) (h:j<Z.length),Z[j]=f j /\ -1<=f j/\f j<=1000000) (hk:0<=k/\k<Z.length) (hD:∀ x∈D,0<=x/\x<Z.length) (hl:D.length<=16):AK 28 [AA Z,AA D,.I k] [] (.I (Dj f k D (f k))) []:=by
 obtain⟨kn,rfl⟩:∃ kn:Nat,k=kn:=⟨k.toNat,zy⟩
 have u:kn<Z.length:=zy
 have h6:=(hZ kn u).1;have hf:=(hZ kn u).2
 have hd:∀ (b:Int) (n:Nat),-1<=b/\b<=1000002 -> -1<=Dj f kn (D.take n) b/\Dj f kn (D.take n) b<=1000002:=λ b n hb=>by
  induction n with
  | zero=>exact hb
  | succ n ih =>
    by_cases hn:n<D.length
    .have e:Dj f kn (D.take (n+1)) b=E6 f kn (Dj f kn (D.take n) b) D[n]:=by
      unfold Dj;rw[Ql hn,UW];rfl
     rw[e];have h1:=hD _ (Qj hn);have h2:=(hZ D[n].toNat zy).2
     have h3:((D[n].toNat:Nat):Int)=D[n]:=zy
     rw[h3] at h2;unfold E6;split<;>omega
    .rw [Qb zy] at ih ⊢
     exact ih
 refine bJ.s.ai ?_;refine ar [0,1,2] [] [] 100 ?_;refine arc ⟨46,[(0,AA Z),(1,AA D),(2,.I kn),(7,.I (f kn))],[],200⟩ ?_ ?_
 .simp [u,h6]
  exact AJ [] [] (by simp[u,h6])
 refine AB (ar [0,2,7,15,16,17] [] [] 300 ?_);refine AT (As (ι:=Nat) (λ i=>⟨46,[(0,AA Z),(2,.I kn),(7,.I (Dj f kn (D.take i) (f kn))),(15,AA D),(16,.I D.length),(17,.I i)],[],400⟩) (λ i=>i<=D.length) (λ i=>D.length - i) 0 (Qn _) (AJ [] [] (by simp[Dj]) zz) ?_)
 intro i hi;obtain⟨b,hb⟩:=AR (Dj f kn (D.take i) (f kn));have he:=hd (f kn) i zy
 rw[<- hb] at he ⊢;refine A2 ⟨46,[(0,AA Z),(2,.I kn),(7,.I b),(15,AA D),(16,.I D.length),(17,.I i),(18,.B (decide (i<D.length)))],[],500⟩ [] [] ?_;refine AB (AI _ rfl (λ h=>AN ?_) λ h=>Ar (hit ?_))
 .rw [Qf] at h
  have h7:=Gt h zy
  have hj:=hD _ (Qj h);obtain⟨jn,h8⟩:∃ jn:Nat,D[i]=jn:=⟨D[i].toNat,zy⟩
  have h0:jn<Z.length:=zy
  have h9:=hZ jn h0;have ha:=w6 (x:=f jn+2)
  have q:Dj f kn (D.take (i+1)) (f kn)=E6 f kn b jn:=by
   unfold Dj at hb ⊢;rw[Ql h,UW,<- hb,h8];rfl
  refine KO ?_;refine AT (arc ⟨46,[(0,AA Z),(2,.I kn),(7,.I b),(9,.I jn),(15,AA D),(16,.I D.length),(17,.I i)],[],600⟩ ?_ ?_)
  .simp [h]
   exact AJ [] [] (by simp[h,h8])
  refine arc ⟨46,[(0,AA Z),(2,.I kn),(7,.I b),(9,.I jn),(10,.I (f jn)),(15,AA D),(16,.I D.length),(17,.I i)],[],700⟩ ?_ ?_
  .simp [h0,h9.1]
   exact AJ [] [] (by simp[h0,h9.1])
  refine arc ⟨46,[(0,AA Z),(2,.I kn),(7,.I b),(10,.I (f jn)),(15,AA D),(16,.I D.length),(17,.I i),(41,.B (decide (((jn:Int)≠kn)/\0<=f jn/\(b<0∨f jn+2<b))))],[],900⟩ ?_ ?_
  .by_cases a1:(jn:Int)=kn
   .have a1':jn=kn:=zy
    simp[a1'];exact AJ [] [] (by simp[a1'])
   .have a1':¬ jn=kn:=zy
    have h4:((jn:Int) != (kn:Int))=true:=zw
    have h5:decide ((jn:Int)=(kn:Int))=false:=zw
    by_cases a2:0<=f jn
    .by_cases a3:b<0
     .simp [h4,a2,a3]
      exact AJ [] [] (by simp[h5,a2,a3])
     .simp [h4,a2,a3,ha]
      exact AJ [] [] (by simp[h5,a2,a3])
    .simp [h4,a2]
     exact AJ [] [] (by simp[h5,a2])
  refine AI _ rfl (λ ht=>?_) λ ht=>AN ?_
  .rw [Qf] at ht
   refine Ap rfl ?_;simp[ha];refine⟨_,Le.refl _ _,?_⟩;refine Ap rfl ?_;simp[h7];refine⟨i+1,zy,zy,?_⟩
   rw[q,E6,if_pos ht];exact BP [] []
  .rw [Qd] at ht
   refine⟨_,Le.refl _ _,?_⟩;refine Ap rfl ?_;simp[h7];refine⟨i+1,zy,zy,?_⟩
   rw[q,E6,if_neg ht];exact BP [] []
 rw[Qd] at h;have hc:b=Dj f kn D (f kn):=by rw[hb,Qb zy]
 apply ax [6] [] [] 800
 .simp
  rfl
 rw[hc];exact Ca
end Go.Proofs.YtnaemfpgdmfmcaaGreatDoor
