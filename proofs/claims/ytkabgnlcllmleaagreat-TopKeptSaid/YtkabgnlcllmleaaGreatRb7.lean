/- Texts of this claim,merged. -/
import Derived.Test.YtkabgnlcllmleaaGreatRb4
import Derived.Test.YtkabgnlcllmleaaGreatRb3
import Derived.Test.YtkabgnlcllmleaaGreatRb5
import Derived.Test.YtkabgnlcllmleaaGreatRb6
import Derived.Test.YtkabgnlcllmleaaGreatRb2
set_option linter.unusedSimpArgs false
set_option linter.unusedVariables false
set_option linter.unusedSectionVars false
set_option maxRecDepth 100000
set_option maxHeartbeats 8000000
noncomputable section
namespace Go.Proofs.YtkabgnlcllmleaaGreat
open Go
theorem IQ {st:St} {X:List (List AV)} (q:∀ ρ sn h m,X.map (List.map (conv ρ sn h (m+1)))=X) (he:st.hp 0=some ⟨7,X,0⟩):AO [] 1 st (.tup []) [some ⟨7,X,0⟩] :=
 ⟨[],rfl,[],[],by simp[List.range,List.range.loop],zz,zz,zz,by simp[List.range,List.range.loop,he,AX,q]⟩
theorem YK {H G T:List Ac} {x y:Ac} {p q:Nat} (hp:H.length=p) (hq:p+1+G.length=q):(AS (H++x::(G++y::T)))[p]? = some (vC x)/\(AS (H++x::(G++y::T)))[q]? = some (vC y):=by
 subst hp hq;constructor
 .rw [QB,Qr zy]
  simp
 .rw [QB,Qr zy]
  have e:H.length+1+G.length - H.length=G.length+1:=zy
  rw[e,List.getElem?_cons_succ,Qr zy]
  simp
theorem ZE {H G T:List Ac} {x y:Ac} {p q:Nat} (hp:H.length=p) (hq:p+1+G.length=q):((AS (H++x::(G++y::T))).set p (vC y)).set q (vC x)=AS (H++y::(G++x::T)):=by
 subst hp hq;have e1:(AS (H++x::(G++y::T))).set H.length (vC y)=AS (H++y::(G++y::T)):=by simp[AS,List.set_append]
 rw[e1,AS,QN,List.set_append_right _ _ zw]
 have e:H.length+1+G.length - (H.map vC).length=G.length+1:=zw
 rw[e,QA,List.set_cons_succ,QN,List.set_append_right _ _ zz]
 simp
theorem Nz (f:FuncId) (capt:List AV) (hs:Gd capt) (P X Q Y R:List Ac) (n a b t:Nat) (hn:(P++(X++(Q++(Y++R)))).length=n) (ha:P.length=a) (hX:X.length=t) (hY:Y.length=t) (hb:a+t+Q.length=b) (hl:n<=1000000) :
  AF 262 [.rs 0 0 n,.I a,.I b,.I t,.fn (.func f) [] capt] [⟨7,AS (P++(X++(Q++(Y++R)))),0⟩] (.tup []) [some ⟨7,AS (P++(Y++(Q++(X++R)))),0⟩]:=by
 have hj:∀ ρ sn h,capt.map (conv ρ sn h 2)=capt:=λ _ _ _=>hs _ _ _ 1
 have hk:∀ ρ sn h,capt.map (conv ρ sn h 3)=capt:=λ _ _ _=>hs _ _ _ 2
 have hm:∀ ρ sn h,capt.map (conv ρ sn h 4)=capt:=λ _ _ _=>hs _ _ _ 3
 refine j4.s.acalls (Ar rfl) (Ar rfl) (Ar rfl) ?_;show AY _ 1 _ _ ⟨38,[(0,.rs 0 0 n),(1,.I a),(2,.I b),(3,.I t),(4,.fn (.func f) [] capt)],[(0,some ⟨7,AS (P++(X++(Q++(Y++R)))),0⟩)],16⟩;have ho:a+t<=b:=zy
 have hq:b+t+R.length=n:=by simp only[Qe] at hn;omega
 refine arc ⟨38,[(0,.rs 0 0 n),(1,.I a),(2,.I b),(3,.I t),(10,.I (0:Nat))],[(0,some ⟨7,AS (P++(X++(Q++(Y++R)))),0⟩)],24⟩ ?_ ?_
 .simp
  exact A5
 refine AI ?_;obtain⟨F,hF⟩:=AJ (P++(Y++(Q++(X++R))));rw[<- hF]
 refine An (ι:=(List Ac × List Ac × List Ac × List Ac) × Nat) (λ q=>⟨38,[(0,.rs 0 0 n),(1,.I a),(2,.I b),(3,.I t),(10,.I q.2)],[(0,some ⟨7,AS (q.1.1++(q.1.2.1++(q.1.2.2.1++(q.1.2.2.2++R)))),0⟩)],24⟩)
  (λ q=>q.1.1.length=a+q.2/\q.1.2.1.length+q.2=t/\q.1.2.2.2.length+q.2=t/\a+t+q.1.2.2.1.length=b+q.2/\F=q.1.1++(q.1.2.2.2++(q.1.2.2.1++(q.1.2.1++R)))) (λ q=>t - q.2) ((P,X,Q,Y),0) ⟨ha,hX,hY,hb,hF⟩ (Le.refl _ _) ?_
 rintro⟨⟨P,X,Q,Y⟩,i⟩ ⟨h1,h2,h3,h4,h5⟩
 simp only at h1 h2 h3 h4 h5;refine AB (arc ⟨38,[(0,.rs 0 0 n),(1,.I a),(2,.I b),(3,.I t),(10,.I i),(13,.B (decide (i<t)))],[(0,some ⟨7,AS (P++(X++(Q++(Y++R)))),0⟩)],48⟩ ?_ ?_)
 .generalize AS (P++(X++(Q++(Y++R))))=Z at *
  simp;exact A5
 refine AE _ rfl (λ h=>AG ?_) λ h=>Ak (Al ?_)
 .simp only[Qa] at h
  obtain⟨x,X,rfl⟩:∃ x X',X=x::X':=by cases X with | nil=>simp at h2;omega | cons x X=>exact⟨x,X,rfl⟩
  obtain⟨y,Y,rfl⟩:∃ x X',Y=x::X':=by cases Y with | nil=>simp at h3;omega | cons x X=>exact⟨x,X,rfl⟩
  simp only[QS] at h2 h3;have h7:=wq (k:=i);have h8:IntKind.i64.wrap ((a:Int)+(i:Int))=((a+i:Nat):Int):=by rw[w6];omega
  have h9:IntKind.i64.wrap ((b:Int)+(i:Int))=((b+i:Nat):Int):=by rw[w6];omega
  have e1:P++(x::X++(Q++(y::Y++R)))=P++x::((X++Q)++y::(Y++R)):=zz
  have e2:P++y::((X++Q)++x::(Y++R))=(P++[y])++(X++((Q++[x])++(Y++R))):=zz
  have hg:=YK (H:=P) (G:=X++Q) (T:=Y++R) (x:=x) (y:=y) (p:=a+i) (q:=b+i) h1 (by rw[Qe];omega)
  have u:=ZE (H:=P) (G:=X++Q) (T:=Y++R) (x:=x) (y:=y) (p:=a+i) (q:=b+i) h1 (by rw[Qe];omega)
  obtain⟨g1,g2⟩:=hg;rw[e2] at u;rw[e1];have hc:a+i<n:=zy
  have hd:b+i<n:=zy
  have he:a+i≠b+i:=zy
  refine Bm ⟨38,[(0,.rs 0 0 n),(1,.I a),(2,.I b),(3,.I t),(10,.I i)],[(0,some ⟨7,AS ((P++[y])++(X++((Q++[x])++(Y++R)))),0⟩)],400⟩ ?_ ?_
  .generalize AS ((P++[y])++(X++((Q++[x])++(Y++R))))=Z2 at *
   generalize AS (P++x::((X++Q)++y::(Y++R)))=Z at *;generalize a+i=p at *;generalize b+i=q at *
   have g3:(Z.set p (vC y))[q]? = some (vC y):=by
    rw[UE,if_neg he];exact g2
   refine AI (Cx rfl ?_);simp[h8,h9,hc,hd,g1,g2,g3,Ae];exact⟨rfl,Le.keep rfl zz zz (by simp;exact u)⟩
  refine Ab rfl ?_;have h0:=Ck ((P++[y])++(X++((Q++[x])++(Y++R))));have hf:∃ Z,Z=AS ((P++[y])++(X++((Q++[x])++(Y++R)))):=⟨_,rfl⟩;obtain⟨Z,hZ⟩:=hf;rw[<- hZ] at h0 ⊢;simp[h7];refine⟨P++[y],X,Q++[x],Y,i+1,⟨zw,zy,zy,zw,by rw[h5];simp⟩,zy,?_⟩
  exact Le.N1 h0 rfl zz (by simp[hZ]) rfl zz
 simp only[Qb] at h;have hh:X=[]:=Qx zy
 have hi:Y=[]:=Qx zy
 have h6:P++(X++(Q++(Y++R)))=F:=by rw[h5,hh,hi]
 rw[h6];exact⟨.inl rfl,IQ (Ck F) rfl⟩
theorem dN (f:FuncId) (capt:List AV) (hs:Gd capt) (A X Y B:List Ac) (n a m b:Nat) (hn:(A++(X++(Y++B))).length=n) (ha:A.length=a) (hm:a+X.length=m) (hb:m+Y.length=b) (hX:0<X.length) (hY:0<Y.length) (hl:n<=1000000) :
  AF 253 [.rs 0 0 n,.I a,.I m,.I b,.fn (.func f) [] capt] [⟨7,AS (A++(X++(Y++B))),0⟩] (.tup []) [some ⟨7,AS (A++(Y++(X++B))),0⟩]:=by
 have h9:∀ ρ sn h,capt.map (conv ρ sn h 2)=capt:=λ _ _ _=>hs _ _ _ 1
 have hc:∀ ρ sn h,capt.map (conv ρ sn h 3)=capt:=λ _ _ _=>hs _ _ _ 2
 have hd:∀ ρ sn h,capt.map (conv ρ sn h 4)=capt:=λ _ _ _=>hs _ _ _ 3
 refine kB.s.acalls (Ar rfl) (Ar rfl) (Ar rfl) ?_;show AY _ 1 _ _ ⟨58,[(0,.rs 0 0 n),(1,.I a),(2,.I m),(3,.I b),(4,.fn (.func f) [] capt)],[(0,some ⟨7,AS (A++(X++(Y++B))),0⟩)],16⟩;have hu:b+B.length=n:=by simp only[Qe] at hn;omega
 obtain⟨F,hF⟩:=AJ (A++(Y++(X++B)));rw[<- hF];obtain⟨i,hi⟩:=AJ (X.length);obtain⟨j,hj⟩:∃ i,i=Y.length:=⟨_,rfl⟩;have ho:IntKind.i64.wrap ((m:Int) - (a:Int))=(i:Int):=by rw[w6];omega
 have hq:IntKind.i64.wrap ((b:Int) - (m:Int))=(j:Int):=by rw[w6];omega
 refine arc ⟨58,[(0,.rs 0 0 n),(2,.I m),(3,.I b),(4,.fn (.func f) [] capt),(10,.I i)],[(0,some ⟨7,AS (A++(X++(Y++B))),0⟩)],48⟩ ?_ ?_
 .generalize AS (A++(X++(Y++B)))=Z at *
  simp[ho];exact A5
 refine arc ⟨58,[(0,.rs 0 0 n),(2,.I m),(4,.fn (.func f) [] capt),(10,.I i),(11,.I j)],[(0,some ⟨7,AS (A++(X++(Y++B))),0⟩)],80⟩ ?_ ?_
 .generalize AS (A++(X++(Y++B)))=Z at *
  simp[hq];exact A5
 refine AB (AI ?_)
 refine An (ι:=(List Ac × List Ac × List Ac × List Ac) × Nat × Nat) (λ q=>⟨58,[(0,.rs 0 0 n),(2,.I m),(4,.fn (.func f) [] capt),(10,.I q.2.1),(11,.I q.2.2)],[(0,some ⟨7,AS (q.1.1++(q.1.2.1++(q.1.2.2.1++q.1.2.2.2))),0⟩)],80⟩)
  (λ q=>q.1.1.length+q.2.1=m/\q.1.2.1.length=q.2.1/\q.1.2.2.1.length=q.2.2/\0<q.2.1/\0<q.2.2/\m+q.2.2+q.1.2.2.2.length=n/\F=q.1.1++(q.1.2.2.1++(q.1.2.1++q.1.2.2.2))) (λ q=>q.2.1+q.2.2) ((A,X,Y,B),i,j) ⟨by show A.length+i=m;omega,hi.symm,hj.symm,by show 0<i;omega,by show 0<j;omega,by show m+j+B.length=n;omega,hF⟩ (Le.refl _ _) ?_
 rintro⟨⟨A,X,Y,B⟩,i,j⟩ ⟨h1,h2,h3,h4,h5,h6,h7⟩
 simp only at h1 h2 h3 h4 h5 h6 h7;refine AB (arc ⟨58,[(0,.rs 0 0 n),(2,.I m),(4,.fn (.func f) [] capt),(10,.I i),(11,.I j),(20,.B (decide (i≠j)))],[(0,some ⟨7,AS (A++(X++(Y++B))),0⟩)],104⟩ ?_ ?_)
 .generalize AS (A++(X++(Y++B)))=Z at *
  simp;exact Le.keep rfl (Qf _) (by simp<;>rw[Qg]<;>simp<;>omega) zz
 have hf:IntKind.i64.wrap ((m:Int) - (i:Int))=((m - i:Nat):Int):=by rw[w6];omega
 refine AE _ rfl (λ h=>AG ?_) λ h=>Ak (Al ?_)
 .simp only[Qa] at h
  refine AI (arc ⟨58,[(0,.rs 0 0 n),(2,.I m),(4,.fn (.func f) [] capt),(10,.I i),(11,.I j),(23,.B (decide (j<i)))],[(0,some ⟨7,AS (A++(X++(Y++B))),0⟩)],128⟩ ?_ ?_)
  .generalize AS (A++(X++(Y++B)))=Z at *
   simp;exact A5
  refine AE _ rfl (λ h8=>?_) λ h8=>?_
  .simp only[Qa] at h8
   obtain⟨X1,X2,rfl,hh⟩:∃ X1 X2,X=X1++X2/\X1.length=j:=⟨X.take j,X.drop j,(QQ j X).symm,by rw[QC];omega⟩
   rw[Qe] at h2;have h0:=Nz f capt hs A X1 X2 Y B n (m - i) m j (by simp only[Qe];omega) zy hh h3 zy hl
   have e1:A++(X1++X2++(Y++B))=A++(X1++(X2++(Y++B))):=zz
   have e2:A++(Y++(X2++(X1++B)))=(A++Y)++(X2++(X1++B)):=zz
   rw[e2] at h0;rw[e1];have he:=Ck (A++(X1++(X2++(Y++B))));refine arc ⟨58,[(0,.rs 0 0 n),(2,.I m),(4,.fn (.func f) [] capt),(10,.I i),(11,.I j)],[(0,some ⟨7,AS ((A++Y)++(X2++(X1++B))),0⟩)],192⟩ ?_ ?_
   .have u:=Ck ((A++Y)++(X2++(X1++B)))
    generalize AS ((A++Y)++(X2++(X1++B)))=Z2 at *;generalize AS (A++(X1++(X2++(Y++B))))=Z at *;simp[hf];refine BZ (i:=0) rfl (e':=⟨7,Z,0⟩) (by simp[AX,he]) h0 zz ?_ ?_
    .simp [h9,hc,hd]
    simp[u];exact A5
   have hg:IntKind.i64.wrap ((i:Int) - (j:Int))=((i - j:Nat):Int):=by rw[w6];omega
   have u:=Ck ((A++Y)++(X2++(X1++B)));obtain⟨Z,hZ⟩:=AJ (AS ((A++Y)++(X2++(X1++B))));rw[<- hZ] at u ⊢;refine Ab rfl ?_;simp[hg];refine⟨A++Y,X2,X1,B,i - j,j,⟨by rw[Qe];omega,zy,hh,zy,h5,zy,by rw[h7];simp⟩,zy,?_⟩
   exact Le.N1 u rfl zz (by simp[hZ]) rfl (by simp[h9,hc,hd])
  .simp only[Qb] at h8
   obtain⟨Y1,Y2,rfl,hr⟩:∃ X1 X2,Y=X1++X2/\X1.length=j - i:=⟨Y.take (j - i),Y.drop (j - i),(QQ _ Y).symm,by rw[QC];omega⟩
   rw[Qe] at h3;have h0:=Nz f capt hs A X Y1 Y2 B n (m - i) (m+j - i) i (by simp only[Qe];omega) zy h2 zy zy hl
   have e1:A++(X++(Y1++Y2++B))=A++(X++(Y1++(Y2++B))):=zz
   rw[e1];have he:=Ck (A++(X++(Y1++(Y2++B))));have ht:IntKind.i64.wrap ((m:Int)+(j:Int))=((m+j:Nat):Int):=by rw[w6];omega
   have hk:IntKind.i64.wrap (((m+j:Nat):Int) - (i:Int))=((m+j - i:Nat):Int):=by rw[w6];omega
   refine arc ⟨58,[(0,.rs 0 0 n),(2,.I m),(4,.fn (.func f) [] capt),(10,.I i),(11,.I j)],[(0,some ⟨7,AS (A++(Y2++(Y1++(X++B)))),0⟩)],224⟩ ?_ ?_
   .have u:=Ck (A++(Y2++(Y1++(X++B))))
    generalize AS (A++(Y2++(Y1++(X++B))))=Z2 at *;generalize AS (A++(X++(Y1++(Y2++B))))=Z at *;generalize m+j=mj at *;generalize mj - i=mji at *;generalize m - i=mi at *;simp[hf,ht,hk];refine BZ (i:=0) rfl (e':=⟨7,Z,0⟩) (by simp[AX,he]) h0 zz ?_ ?_
    .simp [h9,hc,hd]
    simp[u];exact A5
   have hg:IntKind.i64.wrap ((j:Int) - (i:Int))=((j - i:Nat):Int):=by rw[w6];omega
   have u:=Ck (A++(Y2++(Y1++(X++B))));obtain⟨Z,hZ⟩:=AJ (AS (A++(Y2++(Y1++(X++B)))));rw[<- hZ] at u ⊢;refine Ab rfl ?_;simp[hg];refine⟨A,Y2,Y1,X++B,i,j - i,⟨h1,zy,hr,h4,zy,by rw[Qe];omega,by rw[h7];simp⟩,zy,?_⟩
   exact Le.N1 u rfl zz (by simp[hZ]) rfl (by simp[h9,hc,hd])
 have hij:i=j:=by simpa using h
 subst hij;have h0:=Nz f capt hs A X [] Y B n (m - i) m i (by simp only[Qe,UN];omega) zy h2 h3 zw hl
 simp only[Uq] at h0;rw[<- h7] at h0;have he:=Ck (A++(X++(Y++B)));have u:=Ck F;generalize AS F=Z2 at *;generalize AS (A++(X++(Y++B)))=Z at *;refine Ay (s:=?s9) rfl ?o9 ?q9
 case o9 =>
  simp[hf];refine BZ (i:=0) rfl (e':=⟨7,Z,0⟩) (by simp[AX,he]) h0 zz ?_ ?_
  .simp [h9,hc,hd]
  simp[u];rfl
 exact⟨.inl rfl,IQ u rfl⟩
variable {S T:List Ac}
def A6 (l:List Ac):Prop:=l.Pairwise λ a b=>¬ Bf b a
instance (a b:Ac):Decidable (Bf a b):=by unfold Bf;infer_instance
theorem MI (P:Nat->Prop) [DecidablePred P] (lo:Nat):∀ d,(∀ i j,lo<=i->i<j->j<lo+d->P j->P i) -> ∃ q,lo<=q/\q<=lo+d/\(∀ k,lo<=k->k<q->P k) /\ ∀ k,q<=k->k<lo+d->¬ P k
 | 0,_=>⟨lo,Qf _,zy,λ k h1 h2=>zy,λ k h1 h2=>zy⟩
 | d+1,h=>by
   by_cases hp:P (lo+d)
   .exact ⟨lo+(d+1),zy,Qf _,λ k h1 h2=>by
     by_cases he:k=lo+d
     .rw [he];exact hp
     .exact h k (lo+d) h1 zy zy hp,λ k h1 h2=>zy⟩
   .obtain ⟨q,h1,h2,h3,h4⟩:=MI P lo d λ i j a b c e=>h i j a b zy e
    exact⟨q,h1,zy,h3,λ k h5 h6=>by
     by_cases he:k=lo+d
     .rw [he];exact hp
     .exact h4 k h5 zy⟩
theorem Mm {A R:List Ac} {k p:Nat} (h:k<S.length) (hp:A.length+k=p):(AS (A++(S++R)))[p]? = some (vC S[k]):=by
 subst hp;rw[QB,Qr zy]
 have e:A.length+k - A.length=k:=zy
 rw[e,QG h,Qc h];rfl
theorem O8 {A R:List Ac} {k p:Nat} (h:k<T.length) (hp:A.length+S.length+k=p):(AS (A++(S++(T++R))))[p]? = some (vC T[k]):=by
 rw[<- Qq];exact Mm h (by rw[Qe];omega)
theorem Hs {l:List Ac} (h:A6 l) {i j:Nat} (hi:i<l.length) (hj:j<l.length) (hij:i<=j):¬ Bf l[j] l[i]:=by
 rcases Nat.lt_or_eq_of_le hij with h1 | h1
 .exact QK.1 h i j hi hj h1
 .subst h1
  unfold Bf;omega
theorem Lf {a b c:Ac} (h1:¬ Bf b a) (h2:Bf b c):Bf a c:=by unfold Bf at *;omega
theorem L3 {a b c:Ac} (h1:Bf a b) (h2:¬ Bf c b):Bf a c:=by unfold Bf at *;omega
theorem NE {a b:List Ac} (ha:A6 a) (hb:A6 b) (h:∀ x∈a,∀ y∈b,¬ Bf y x):A6 (a++b):=by
 unfold A6;rw[List.pairwise_append];exact⟨ha,hb,h⟩
theorem K5 {a b:List Ac} (h:A6 (a++b)):A6 a/\A6 b /\ ∀ x∈a,∀ y∈b,¬ Bf y x:=by
 unfold A6 at h;rw[List.pairwise_append] at h;exact h
theorem bZ {x:Ac} (hT:A6 T):∃ q,q<=T.length/\(∀ k (h:k<T.length),Bf T[k] x↔k<q)/\A6 (T.take q++x::T.drop q):=by
 obtain⟨q,_,h2,h3,h4⟩:=MI (λ k=>∃ h:k<T.length,Bf T[k] x) 0 T.length λ i j _ hij hj hp=>by
  obtain⟨u,hp⟩:=hp;exact⟨zy,Lf (Hs hT zy u zy) hp⟩
 rw[Q9] at h2 h4
 have key:∀ k (h:k<T.length),Bf T[k] x↔k<q:=λ k h=>⟨λ hl=>by
  rcases Ub k q with h5 | h5
  .exact h5
  .exact absurd ⟨h,hl⟩ (h4 k h5 h),λ hk=>(h3 k (Qk _) hk).2⟩
 refine⟨q,h2,key,?_⟩;obtain⟨s1,s2,s3⟩:=K5 (a:=T.take q) (b:=T.drop q) (by rw[QQ];exact hT)
 have h5:∀ y∈T.take q,Bf y x:=λ y hy=>by
  obtain⟨k,hk,rfl⟩:=Qt.1 hy;rw[QC] at hk;rw[Ux];exact(key k zy).2 zy
 have h6:∀ y∈T.drop q,¬ Bf y x:=λ y hy=>by
  obtain⟨k,hk,rfl⟩:=Qt.1 hy;rw[QY] at hk;rw[List.getElem_drop];exact λ hl=>by have:=(key (q+k) zy).1 hl;omega
 refine NE s1 ?_ λ y hy z hz=>?_
 .unfold A6
  rw[Q7];exact⟨h6,s2⟩
 .rcases Qu.1 hz with rfl | hz
  .exact Lj (h5 y hy)
  .exact s3 y hy z hz
theorem oJ {x:Ac} (hS:A6 S):∃ q,q<=S.length/\(∀ k (h:k<S.length),¬ Bf x S[k]↔k<q)/\A6 (S.take q++x::S.drop q):=by
 obtain⟨q,_,h2,h3,h4⟩:=MI (λ k=>∃ h:k<S.length,¬ Bf x S[k]) 0 S.length λ i j _ hij hj hp=>by
  obtain⟨u,hp⟩:=hp;exact⟨zy,λ hl=>hp (L3 hl (Hs hS zy u zy))⟩
 rw[Q9] at h2 h4
 have key:∀ k (h:k<S.length),¬ Bf x S[k]↔k<q:=λ k h=>⟨λ hl=>by
  rcases Ub k q with h5 | h5
  .exact h5
  .exact absurd ⟨h,hl⟩ (h4 k h5 h),λ hk=>(h3 k (Qk _) hk).2⟩
 refine⟨q,h2,key,?_⟩;obtain⟨s1,s2,s3⟩:=K5 (a:=S.take q) (b:=S.drop q) (by rw[QQ];exact hS)
 have h5:∀ y∈S.take q,¬ Bf x y:=λ y hy=>by
  obtain⟨k,hk,rfl⟩:=Qt.1 hy;rw[QC] at hk;rw[Ux];exact(key k zy).2 zy
 have h6:∀ y∈S.drop q,¬ Bf y x:=λ y hy=>by
  obtain⟨k,hk,rfl⟩:=Qt.1 hy;rw[QY] at hk;rw[List.getElem_drop];refine Lj (Classical.not_not.1 λ hl=>?_);have:=(key (q+k) zy).1 hl
  omega
 refine NE s1 ?_ λ y hy z hz=>?_
 .unfold A6
  rw[Q7];exact⟨h6,s2⟩
 .rcases Qu.1 hz with rfl | hz
  .exact h5 y hy
  .exact s3 y hy z hz
structure OH (S T:List Ac) (a m b mid lo hi q:Nat):Prop where
 q1:lo<=q
 q2:q<=hi
 key:∀ c (h1:c - a<S.length) (h2:mid+m - 1 - c - m<T.length),lo<=c->c<hi->(¬ Bf T[mid+m - 1 - c - m] S[c - a]↔c<q)
 am:a<=q
 qm:q<=m
 qd:q<=mid
 eb:mid+m - q<=b
 below:∀ s∈S.drop (q - a),∀ t∈T.take (mid - q),Bf t s
 above:∀ s∈S.take (q - a),∀ t∈T.drop (mid - q),¬ Bf t s
theorem pB {a m b mid lo hi:Nat} (hS:A6 S) (hT:A6 T) (h1:a+S.length=m) (h2:m+T.length=b) (h3:0<S.length) (h4:0<T.length) (hd:mid=(a+b) / 2) (he:(mid<m/\lo=mid+m - b/\hi=mid)∨(m<=mid/\lo=a/\hi=m)):∃ q,OH S T a m b mid lo hi q:=by
 have hb:∀ c,lo<=c->c<hi->a<=c/\c<m/\c<mid/\mid+m - 1 - c<b:=λ c h5 h6=>zy
 obtain⟨q,hq1,hq2,h9,ha⟩:=MI (λ c=>∃ (h1:c - a<S.length) (h2:mid+m - 1 - c - m<T.length),¬ Bf T[mid+m - 1 - c - m] S[c - a]) lo (hi - lo) λ i j hc hij hj hp=>by
  have b1:=hb i hc zy
  have b2:=hb j zy zy
  obtain⟨x1,x2,hp⟩:=hp;refine⟨zy,zy,λ hl=>hp ?_⟩
  have s1:=Hs hS (i:=i - a) (j:=j - a) zy zy zy
  have s2:=Hs hT (i:=mid+m - 1 - j - m) (j:=mid+m - 1 - i - m) zy zy zy
  exact Lf s2 (L3 hl s1)
 have u:∀ c (h1:c - a<S.length) (h2:mid+m - 1 - c - m<T.length),lo<=c->c<hi->(¬ Bf T[mid+m - 1 - c - m] S[c - a]↔c<q):=λ c y1 y2 h5 h6=>⟨λ hl=>by
  rcases Ub c q with h7 | h7
  .exact h7
  .exact absurd ⟨y1,y2,hl⟩ (ha c h7 zy),λ h7=>(h9 c h5 h7).2.2⟩
 refine⟨q,hq1,zy,u,zy,zy,zy,zy,?_,?_⟩
 .intro s hs t ht
  obtain⟨i,hi',rfl⟩:=Qt.1 hs;obtain⟨j,h0,rfl⟩:=Qt.1 ht;rw[QY] at hi';rw[QC] at h0;rw[List.getElem_drop,Ux];have h8:q<hi:=zy
  have b1:=hb q hq1 h8;have hk:=u q zy zy hq1 h8
  have hl:Bf T[mid+m - 1 - q - m] S[q - a]:=Classical.not_not.1 λ hn=>by have:=hk.1 hn;omega
  have s1:=Hs hS (i:=q - a) (j:=q - a+i) zy zy zy
  have s2:=Hs hT (i:=j) (j:=mid+m - 1 - q - m) zy zy zy
  exact Lf s2 (L3 hl s1)
 .intro s hs t ht hl
  obtain⟨i,hi',rfl⟩:=Qt.1 hs;obtain⟨j,h0,rfl⟩:=Qt.1 ht;rw[QC] at hi';rw[QY] at h0;rw[List.getElem_drop,Ux] at hl;have hf:lo<q:=zy
  have b1:=hb (q - 1) zy zy
  have hk:=(u (q - 1) zy zy zy zy).2 zy
  have s1:=Hs hS (i:=i) (j:=q - 1 - a) zy zy zy
  have s2:=Hs hT (i:=mid+m - 1 - (q - 1) - m) (j:=mid - q+j) zy zy zy
  exact hk (Lf s2 (L3 hl s1))
theorem Mj {i j:Nat} (h:i+j<=4000000):IntKind.i64.wrap ((i:Int)+(j:Int))=(i:Int)+(j:Int)/\IntKind.u64.wrap ((i:Int)+(j:Int))=(i:Int)+(j:Int)/\Int.fdiv ((i:Int)+(j:Int)) 2=(((i+j) / 2:Nat):Int)/\IntKind.i64.wrap (((i+j) / 2:Nat):Int)=(((i+j) / 2:Nat):Int):=by
 refine⟨w6,by rw[IntKind.wrap_u64];omega,?_,w6⟩
 rw[QL _ zx]
 omega
theorem wD (f:FuncId) (capt:List AV) (hs:Gd capt) (hc:∀ x y,AF f (eV x::eV y::capt) [] (.I (BF x y)) []) (A T B:List Ac) (x:Ac) (n a m b q:Nat) (hn:(A++(x::(T++B))).length=n) (ha:A.length=a) (hm:a+1=m) (hb:m+T.length=b) (hT:0<T.length) (hl:n<=1000000) (hq:q<=T.length) (hy:∀ k (h:k<T.length),Bf T[k] x↔k<q) :
  AF 231 [.rs 0 0 n,.I a,.I m,.I b,.fn (.func f) [] capt] [⟨7,AS (A++(x::(T++B))),0⟩] (.tup []) [some ⟨7,AS (A++(T.take q++x::T.drop q++B)),0⟩]:=by
 have h3:∀ ρ sn h,capt.map (conv ρ sn h 2)=capt:=λ _ _ _=>hs _ _ _ 1
 have h6:∀ ρ sn h,capt.map (conv ρ sn h 3)=capt:=λ _ _ _=>hs _ _ _ 2
 have h7:∀ ρ sn h,capt.map (conv ρ sn h 4)=capt:=λ _ _ _=>hs _ _ _ 3
 refine Rj.s.acalls (Ar rfl) (Ar rfl) (Ar rfl) ?_;have av:b+B.length=n:=by simp only[Qe,QS] at hn;omega
 have he:(AS (A++(x::(T++B))))[a]? = some (vC x):=Mm (A:=A) (S:=[x]) (R:=T++B) (k:=0) zz zy
 have hgt:∀ h,(h1:m<=h)->(h2:h<b)->(AS (A++(x::(T++B))))[h]? = some (vC (T[h - m]' zy)):=λ h h1 h2=>O8 (A:=A) (S:=[x]) (T:=T) (R:=B) (k:=h - m) zy zw
 have u:=Ck (A++(x::(T++B)));obtain⟨Z,hZ⟩:=AJ (AS (A++(x::(T++B))));rw[<- hZ] at he hgt u ⊢;show AY _ 1 _ _ ⟨220,[(0,.rs 0 0 n),(1,.I a),(2,.I m),(3,.I b),(4,.fn (.func f) [] capt)],[(0,some ⟨7,Z,0⟩)],16⟩;have hz:=w6 (x:=(m:Int) - a);refine AB (arc ⟨220,[(0,.rs 0 0 n),(1,.I a),(2,.I m),(3,.I b),(4,.fn (.func f) [] capt),(28,.B true)],[(0,some ⟨7,Z,0⟩)],48⟩ ?_ ?_)
 .simp [hz]
  exact Le.keep rfl (Qf _) zw zz
 refine AE _ rfl (λ _=>?_) λ h=>by cases h
 refine Bv ⟨220,[(0,.rs 0 0 n),(1,.I a),(2,.I m),(3,.I b),(4,.fn (.func f) [] capt),(10,.I m)],[(0,some ⟨7,Z,0⟩)],64⟩ rfl (by simp;exact A5) ?_
 refine Bv ⟨220,[(0,.rs 0 0 n),(1,.I a),(2,.I m),(3,.I b),(4,.fn (.func f) [] capt),(10,.I m),(11,.I b)],[(0,some ⟨7,Z,0⟩)],80⟩ rfl (by simp;exact A5) ?_
 refine AB (AI (An (ι:=Nat × Nat) (λ p=>⟨220,[(0,.rs 0 0 n),(1,.I a),(2,.I m),(3,.I b),(4,.fn (.func f) [] capt),(10,.I p.1),(11,.I p.2)],[(0,some ⟨7,Z,0⟩)],80⟩) (λ p=>m<=p.1/\p.1<=m+q/\m+q<=p.2/\p.2<=b) (λ p=>p.2 - p.1) (m,b) ⟨zz,zz,zw,zz⟩ (Le.refl _ _) ?_))
 rintro⟨i,j⟩ ⟨a0,a1,a2,a3⟩
 simp only at a0 a1 a2 a3;refine AB (Bv ⟨220,[(0,.rs 0 0 n),(1,.I a),(2,.I m),(3,.I b),(4,.fn (.func f) [] capt),(10,.I i),(11,.I j),(33,.B (decide (i<j)))],[(0,some ⟨7,Z,0⟩)],104⟩ rfl (by simp;exact A5) ?_)
 refine AE _ rfl (λ h4=>AG ?_) λ h4=>Ak (Al ?_)
 .simp only[Qa] at h4
  obtain⟨hw,hu,hd,hf⟩:=Mj (i:=i) (j:=j) zy
  refine AI (arc ⟨220,[(0,.rs 0 0 n),(1,.I a),(2,.I m),(3,.I b),(4,.fn (.func f) [] capt),(10,.I i),(11,.I j),(12,.I ((i+j) / 2:Nat))],[(0,some ⟨7,Z,0⟩)],160⟩ ?_ ?_)
  .simp [hw,hu,hd,hf,IntKind.bits,-Int.natCast_ediv,-Int.natCast_add]
   exact Le.keep rfl (Qf _) (by simp[hw,hu,hd,hf]) zz
  obtain⟨h,hh⟩:=AJ ((i+j) / 2);rw[<- hh];have a4:h<n:=zy
  have a5:a<n:=zy
  have a6:=hgt h zy zy
  have hk:=hy (h - m) zy
  have a7:=hc (T[h - m]' zy) x
  have a8:decide (BF (T[h - m]' zy) x<0)=decide (h<m+q):=by rw[decide_eq_decide,Jz,hk];omega
  generalize T[h - m]' zy=y at *
  have a9:=wq (k:=h);refine Bi ⟨220,[(0,.rs 0 0 n),(1,.I a),(2,.I m),(3,.I b),(4,.fn (.func f) [] capt),(10,.I i),(11,.I j),(12,.I h),(50,.B (decide (h<m+q)))],[(0,some ⟨7,Z,0⟩)],248⟩ ?_ ?_
  .rw [<- a8]
   simp[a6,he,a4,a5];refine Ah a7 ?_ ?_
   .simp [h3,h6,h7]
   simp;exact⟨rfl,A5⟩
  refine AE _ rfl (λ h5=>?_) λ h5=>?_
  .simp only[Qa] at h5
   refine Ab rfl ?_;simp[a9];exact⟨h+1,j,⟨zy,zy,zy,zy⟩,zy,Le.N1 u rfl zz rfl rfl (by simp[h3,h6,h7])⟩
  .simp only[Qb] at h5
   refine Ab rfl ?_;simp;exact⟨i,h,⟨zy,zy,zy,zy⟩,zy,Le.N1 u rfl zz rfl rfl (by simp[h3,h6,h7])⟩
 simp only[Qb] at h4;obtain rfl:i=m+q:=zy
 refine AB (Bv ⟨220,[(0,.rs 0 0 n),(1,.I a),(2,.I m),(3,.I b),(4,.fn (.func f) [] capt),(10,.I (m+q:Nat)),(13,.I a)],[(0,some ⟨7,Z,0⟩)],120⟩ rfl (by simp;exact A5) ?_)
 have hi:IntKind.i64.wrap (((m+q:Nat):Int) - 1)=((a+q:Nat):Int):=by rw[w6];omega
 obtain⟨F,hF⟩:=AJ (A++(T.take q++x::T.drop q++B));have ag:(T.take q).length=q:=by rw[QC];omega
 have hj:A++(x::(T++B))=(A++[])++x::(T.take q++(T.drop q++B)):=by rw[<- Qq (T.take q),QQ];simp
 obtain⟨D,hD⟩:=AJ (T.drop q++B);have ai:F=(A++[])++(T.take q++x::D):=by rw[hF,hD];simp
 have b0:a+1+q+D.length=n:=by rw[hD,Qe,QY];omega
 rw[<- hD] at hj;rw[<- hF];rw[hj] at hZ;generalize T.take q=T1 at *;refine AI ?_;obtain⟨mq,am⟩:=AJ (m+q);rw[<- am] at hi ⊢;refine An (ι:=(List Ac × List Ac) × Nat) (λ p=>⟨220,[(0,.rs 0 0 n),(1,.I a),(2,.I m),(3,.I b),(4,.fn (.func f) [] capt),(10,.I mq),(13,.I p.2)],[(0,some ⟨7,AS ((A++p.1.1)++x::(p.1.2++D)),0⟩)],120⟩) (λ p=>p.1.1.length+a=p.2/\p.1.1.length+p.1.2.length=q/\F=(A++p.1.1)++(p.1.2++x::D)) (λ p=>p.1.2.length) (([],T1),a) ⟨zz,by simpa using ag,ai⟩ (by rw[hZ];exact Le.refl _ _) ?_
 rintro⟨⟨U,V⟩,k⟩ ⟨an,h8,h9⟩
 simp only at an h8 h9;refine AB (arc ⟨220,[(0,.rs 0 0 n),(1,.I a),(2,.I m),(3,.I b),(4,.fn (.func f) [] capt),(10,.I mq),(13,.I k),(58,.B (decide (k<a+q)))],[(0,some ⟨7,AS ((A++U)++x::(V++D)),0⟩)],152⟩ ?_ ?_)
 .generalize AS ((A++U)++x::(V++D))=Z at *
  simp[hi];exact Le.keep rfl (Qf _) (by simp<;>omega) zz
 refine AE _ rfl (λ h=>AG ?_) λ h=>Ak (Al ?_)
 .simp only[Qa] at h
  obtain⟨y,V,rfl⟩:∃ y V',V=y::V':=by cases V with | nil=>simp at h8;omega | cons y V=>exact⟨y,V,rfl⟩
  simp only[QS] at h8;obtain⟨k1,b1⟩:=AJ (k+1);have ho:IntKind.i64.wrap ((k:Int)+1)=(k1:Int):=by rw[w6];omega
  have hr:(A++U).length=k:=by rw[Qe];omega
  have hg:=YK (H:=A++U) (G:=[]) (T:=V++D) (x:=x) (y:=y) (p:=k) (q:=k1) hr zw
  have h0:=ZE (H:=A++U) (G:=[]) (T:=V++D) (x:=x) (y:=y) (p:=k) (q:=k1) hr zw
  obtain⟨g1,g2⟩:=hg;simp only[Uq] at g1 g2 h0;have e2:(A++U)++y::x::(V++D)=(A++(U++[y]))++x::(V++D):=zz
  rw[e2] at h0;have e1:(A++U)++x::(y::V++D)=(A++U)++x::y::(V++D):=rfl;rw[e1];have aq:k<n:=zy
  have ht:k1<n:=zy
  refine Bm ⟨220,[(0,.rs 0 0 n),(1,.I a),(2,.I m),(3,.I b),(4,.fn (.func f) [] capt),(10,.I mq),(13,.I k)],[(0,some ⟨7,AS ((A++(U++[y]))++x::(V++D)),0⟩)],400⟩ ?_ ?_
  .generalize AS ((A++(U++[y]))++x::(V++D))=Z2 at *
   generalize AS ((A++U)++x::y::(V++D))=Z at *
   have g3:(Z.set k (vC y))[k1]? = some (vC x)∨(Z.set k (vC y))[k1]? = some (vC y):=.inr (by
    rw[UE,if_neg zy]
    exact g2)
   have g4:(Z.set k (vC y))[k1]? = some (vC y):=by
    rw[UE,if_neg zy]
    exact g2
   refine AI (Cx rfl ?_);simp[ho,aq,ht,g1,g2,g4,Ae];exact⟨rfl,Le.keep rfl zz zz (by simp;exact h0)⟩
  have hv:=Ck ((A++(U++[y]))++x::(V++D));obtain⟨Z,hZ⟩:=AJ (AS ((A++(U++[y]))++x::(V++D)));rw[<- hZ] at hv ⊢;refine Ab rfl ?_;simp[ho];refine⟨U++[y],V,k1,⟨zw,zw,by rw[h9];simp⟩,zy,?_⟩
  exact Le.N1 hv rfl zz (by simp[hZ]) rfl (by simp[h3,h6,h7])
 simp only[Qb] at h;have au:V=[]:=Qx zy
 have hx:(A++U)++x::(V++D)=F:=by rw[h9,au];rfl
 rw[hx];exact BR (IQ (Ck F) rfl)
theorem kV (f:FuncId) (capt:List AV) (hs:Gd capt) (hc:∀ x y,AF f (eV x::eV y::capt) [] (.I (BF x y)) []) (A S B:List Ac) (x:Ac) (n a m b q:Nat) (hn:(A++(S++x::B)).length=n) (ha:A.length=a) (hm:a+S.length=m) (hb:m+1=b) (hS:1<S.length) (hl:n<=1000000) (hq:q<=S.length) (hv:∀ k (h:k<S.length),¬ Bf x S[k]↔k<q) :
  AF 231 [.rs 0 0 n,.I a,.I m,.I b,.fn (.func f) [] capt] [⟨7,AS (A++(S++x::B)),0⟩] (.tup []) [some ⟨7,AS (A++(S.take q++x::S.drop q++B)),0⟩]:=by
 have h3:∀ ρ sn h,capt.map (conv ρ sn h 2)=capt:=λ _ _ _=>hs _ _ _ 1
 have h6:∀ ρ sn h,capt.map (conv ρ sn h 3)=capt:=λ _ _ _=>hs _ _ _ 2
 have h7:∀ ρ sn h,capt.map (conv ρ sn h 4)=capt:=λ _ _ _=>hs _ _ _ 3
 refine Rj.s.acalls (Ar rfl) (Ar rfl) (Ar rfl) ?_;have b1:b+B.length=n:=by simp only[Qe,QS] at hn;omega
 have hf:(AS (A++(S++x::B)))[m]? = some (vC x):=O8 (A:=A) (S:=S) (T:=[x]) (R:=B) (k:=0) zz zy
 have hgt:∀ h,(h1:a<=h)->(h2:h<m)->(AS (A++(S++x::B)))[h]? = some (vC (S[h - a]' zy)):=λ h h1 h2=>Mm (A:=A) (S:=S) (R:=x::B) (k:=h - a) zy zy
 have u:=Ck (A++(S++x::B));obtain⟨Z,hZ⟩:=AJ (AS (A++(S++x::B)));rw[<- hZ] at hf hgt u ⊢;show AY _ 1 _ _ ⟨220,[(0,.rs 0 0 n),(1,.I a),(2,.I m),(3,.I b),(4,.fn (.func f) [] capt)],[(0,some ⟨7,Z,0⟩)],16⟩;have hx:=w6 (x:=(m:Int) - a);have hy:=w6 (x:=(b:Int) - m);refine AB (arc ⟨220,[(0,.rs 0 0 n),(1,.I a),(2,.I m),(3,.I b),(4,.fn (.func f) [] capt),(28,.B false)],[(0,some ⟨7,Z,0⟩)],48⟩ ?_ ?_)
 .simp [hx]
  exact Le.keep rfl (Qf _) zw zz
 refine AE _ rfl (λ h=>by cases h) λ _=>AG ?_
 refine AB (arc ⟨220,[(0,.rs 0 0 n),(1,.I a),(2,.I m),(3,.I b),(4,.fn (.func f) [] capt),(80,.B true)],[(0,some ⟨7,Z,0⟩)],80⟩ ?_ ?_)
 .simp [hy]
  exact Le.keep rfl (Qf _) zw zz
 refine AE _ rfl (λ _=>?_) λ h=>by cases h
 refine Bv ⟨220,[(0,.rs 0 0 n),(1,.I a),(2,.I m),(3,.I b),(4,.fn (.func f) [] capt),(14,.I a)],[(0,some ⟨7,Z,0⟩)],96⟩ rfl (by simp;exact A5) ?_
 refine Bv ⟨220,[(0,.rs 0 0 n),(1,.I a),(2,.I m),(3,.I b),(4,.fn (.func f) [] capt),(14,.I a),(15,.I m)],[(0,some ⟨7,Z,0⟩)],112⟩ rfl (by simp;exact A5) ?_
 refine AB (AI (An (ι:=Nat × Nat) (λ p=>⟨220,[(0,.rs 0 0 n),(1,.I a),(2,.I m),(3,.I b),(4,.fn (.func f) [] capt),(14,.I p.1),(15,.I p.2)],[(0,some ⟨7,Z,0⟩)],112⟩) (λ p=>a<=p.1/\p.1<=a+q/\a+q<=p.2/\p.2<=m) (λ p=>p.2 - p.1) (a,m) ⟨zz,zz,zw,zz⟩ (Le.refl _ _) ?_))
 rintro⟨i,j⟩ ⟨hz,a0,a1,a2⟩
 simp only at hz a0 a1 a2;refine AB (Bv ⟨220,[(0,.rs 0 0 n),(1,.I a),(2,.I m),(3,.I b),(4,.fn (.func f) [] capt),(14,.I i),(15,.I j),(85,.B (decide (i<j)))],[(0,some ⟨7,Z,0⟩)],136⟩ rfl (by simp;exact A5) ?_)
 refine AE _ rfl (λ h4=>AG ?_) λ h4=>Ak (Al ?_)
 .simp only[Qa] at h4
  obtain⟨hw,hu,hd,hg⟩:=Mj (i:=i) (j:=j) zy
  refine AI (arc ⟨220,[(0,.rs 0 0 n),(1,.I a),(2,.I m),(3,.I b),(4,.fn (.func f) [] capt),(14,.I i),(15,.I j),(16,.I ((i+j) / 2:Nat))],[(0,some ⟨7,Z,0⟩)],192⟩ ?_ ?_)
  .simp [hw,hu,hd,hg,IntKind.bits,-Int.natCast_ediv,-Int.natCast_add]
   exact Le.keep rfl (Qf _) (by simp[hw,hu,hd,hg]) zz
  obtain⟨h,hh⟩:=AJ ((i+j) / 2);rw[<- hh];have a3:h<n:=zy
  have a4:m<n:=zy
  have a5:=hgt h zy zy
  have hk:=hv (h - a) zy
  have a6:=hc x (S[h - a]' zy)
  have a7:(!decide (BF x (S[h - a]' zy)<0))=decide (h<a+q):=by
   rw[<- decide_not,decide_eq_decide,Jz,hk];omega
  generalize S[h - a]' zy=y at *
  have a8:=wq (k:=h);refine Bi ⟨220,[(0,.rs 0 0 n),(1,.I a),(2,.I m),(3,.I b),(4,.fn (.func f) [] capt),(14,.I i),(15,.I j),(16,.I h),(103,.B (decide (h<a+q)))],[(0,some ⟨7,Z,0⟩)],288⟩ ?_ ?_
  .rw [<- a7]
   simp[a5,hf,a3,a4];refine Ah a6 ?_ ?_
   .simp [h3,h6,h7]
   simp;exact⟨rfl,A5⟩
  refine AE _ rfl (λ h5=>?_) λ h5=>?_
  .simp only[Qa] at h5
   refine Ab rfl ?_;simp[a8];exact⟨h+1,j,⟨zy,zy,zy,zy⟩,zy,Le.N1 u rfl zz rfl rfl (by simp[h3,h6,h7])⟩
  .simp only[Qb] at h5
   refine Ab rfl ?_;simp;exact⟨i,h,⟨zy,zy,zy,zy⟩,zy,Le.N1 u rfl zz rfl rfl (by simp[h3,h6,h7])⟩
 simp only[Qb] at h4;obtain rfl:i=a+q:=zy
 refine AB (Bv ⟨220,[(0,.rs 0 0 n),(1,.I a),(2,.I m),(3,.I b),(4,.fn (.func f) [] capt),(14,.I (a+q:Nat)),(17,.I m)],[(0,some ⟨7,Z,0⟩)],152⟩ rfl (by simp;exact A5) ?_)
 obtain⟨F,hF⟩:=AJ (A++(S.take q++x::S.drop q++B));have b2:(S.take q).length=q:=by rw[QC];omega
 have a9:(S.drop q).length+q=S.length:=by rw[QY];omega
 have hi:A++(S++x::B)=(A++S.take q)++((S.drop q).reverse.reverse++x::([]++B)):=by
  rw[List.reverse_reverse,Qq A,<- Qq (S.take q),QQ];rfl
 obtain⟨H,hH⟩:=AJ (A++S.take q);have ag:F=H++(x::((S.drop q).reverse.reverse++([]++B))):=by rw[hF,hH,List.reverse_reverse];simp
 have ai:H.length=a+q:=by rw[hH,Qe];omega
 rw[<- hH] at hi;rw[<- hF];rw[hi] at hZ;have b3:(S.drop q).reverse.length+q=S.length:=by rw[UT];exact a9
 generalize (S.drop q).reverse=W at *;refine AI ?_;obtain⟨aq,am⟩:=AJ (a+q);rw[<- am] at ai ⊢;refine An (ι:=(List Ac × List Ac) × Nat) (λ p=>⟨220,[(0,.rs 0 0 n),(1,.I a),(2,.I m),(3,.I b),(4,.fn (.func f) [] capt),(14,.I aq),(17,.I p.2)],[(0,some ⟨7,AS (H++(p.1.1.reverse++x::(p.1.2++B))),0⟩)],152⟩) (λ p=>aq+p.1.1.length=p.2/\p.2+p.1.2.length=m/\F=H++(x::(p.1.1.reverse++(p.1.2++B)))) (λ p=>p.1.1.length) ((W,[]),m) ⟨by show aq+W.length=m;omega,zz,ag⟩ (by rw[hZ];exact Le.refl _ _) ?_
 rintro⟨⟨W,V⟩,k⟩ ⟨h8,an,h9⟩
 simp only at h8 an h9;refine AB (arc ⟨220,[(0,.rs 0 0 n),(1,.I a),(2,.I m),(3,.I b),(4,.fn (.func f) [] capt),(14,.I aq),(17,.I k),(110,.B (decide (aq<k)))],[(0,some ⟨7,AS (H++(W.reverse++x::(V++B))),0⟩)],176⟩ ?_ ?_)
 .generalize AS (H++(W.reverse++x::(V++B)))=Z at *
  simp;exact A5
 refine AE _ rfl (λ h=>AG ?_) λ h=>Ak (Al ?_)
 .simp only[Qa] at h
  obtain⟨y,W,rfl⟩:∃ y V',W=y::V':=by cases W with | nil=>simp at h8;omega | cons y V=>exact⟨y,V,rfl⟩
  simp only[QS] at h8;obtain⟨j,hj⟩:∃ j,j+1=k:=⟨k - 1,zy⟩
  have ho:IntKind.i64.wrap ((k:Int) - 1)=(j:Int):=by rw[w6];omega
  have he:(H++W.reverse).length=j:=by rw[Qe,UT];omega
  have e1:H++((y::W).reverse++x::(V++B))=(H++W.reverse)++y::x::(V++B):=zz
  have e2:(H++W.reverse)++x::y::(V++B)=H++(W.reverse++x::((y::V)++B)):=zz
  have g1:=(Lw (H:=H++W.reverse) (T:=V++B) (y:=y) (x:=x) he).1;have g2:=(Lw (H:=H++W.reverse) (T:=V++B) (y:=y) (x:=x) he).2;have h0:=VR (H:=H++W.reverse) (T:=V++B) (y:=y) (x:=x) he;rw[hj] at g2 h0;rw[e2] at h0;rw[e1];have au:k<n:=zy
  have av:j<n:=zy
  refine Bm ⟨220,[(0,.rs 0 0 n),(1,.I a),(2,.I m),(3,.I b),(4,.fn (.func f) [] capt),(14,.I aq),(17,.I k)],[(0,some ⟨7,AS (H++(W.reverse++x::((y::V)++B))),0⟩)],400⟩ ?_ ?_
  .generalize AS (H++(W.reverse++x::((y::V)++B)))=Z2 at *
   generalize AS ((H++W.reverse)++y::x::(V++B))=Z at *
   have g4:(Z.set k (vC y))[j]? = some (vC y):=by
    rw[UE,if_neg zy]
    exact g1
   refine AI (Cx rfl ?_);simp[ho,au,av,g1,g2,g4,Ae];exact⟨rfl,Le.keep rfl zz zz (by simp;exact h0)⟩
  have hr:=Ck (H++(W.reverse++x::((y::V)++B)));obtain⟨Z,hZ⟩:=AJ (AS (H++(W.reverse++x::((y::V)++B))));rw[<- hZ] at hr ⊢;refine Ab rfl ?_;simp[ho];refine⟨W,y::V,j,⟨zy,zw,by rw[h9];simp⟩,zy,?_⟩
  exact Le.N1 hr rfl zz (by simp[hZ]) rfl (by simp[h3,h6,h7])
 simp only[Qb] at h;have b0:W=[]:=Qx zy
 have ht:H++(W.reverse++x::(V++B))=F:=by rw[h9,b0];rfl
 rw[ht];exact BR (IQ (Ck F) rfl)
theorem Tx {a b:List Ac} (ha:A6 a) (hb:A6 b) (h:a=[]∨b=[]):A6 (a++b):=by
 rcases h with rfl | rfl
 .exact hb
 .rw [QU];exact ha
theorem qI {a b c d:List Ac} (h1:a.Perm b) (h2:c.Perm d) (hp:∀ x∈b,∀ y∈d,¬ Bf y x) (ha:A6 a) (hc:A6 c):A6 (a++c) :=
 NE ha hc λ x hx y hy=>hp x (h1.mem_iff.1 hx) y (h2.mem_iff.1 hy)
theorem lY (f:FuncId) (capt:List AV) (hs:Gd capt) (hc:∀ x y,AF f (eV x::eV y::capt) [] (.I (BF x y)) []) (n a m b mid mm lo hi q e:Nat) (Z Z1 Z2 Z3:List (List AV)) (h6:∀ ρ sn h m,Z.map (List.map (conv ρ sn h (m+1)))=Z) (hb:∀ ρ sn h m,Z1.map (List.map (conv ρ sn h (m+1)))=Z1) (hf:∀ ρ sn h m,Z2.map (List.map (conv ρ sn h (m+1)))=Z2) (h7:∀ ρ sn h m,Z3.map (List.map (conv ρ sn h (m+1)))=Z3) (b2:a+1<m) (b3:m+1<b) (b4:b<=n) (hl:n<=1000000) (hg:mid=(a+b) / 2) (b5:mm=mid+m) (hA:mid<m->lo+b=mm/\hi=mid) (hB:m<=mid->lo=a/\hi=m) (hq1:lo<=q) (hq2:q<=hi) (he:e+q=mm) (b6:a<=lo) (b7:hi<=m) (b1:hi<=mid) (hh:∀ c d,lo<=c->c<hi->c+d+1=mm->d<n /\ ∃ x y,Z[c]? = some (vC x)/\Z[d]? = some (vC y)/\(¬ BF y x<0↔c<q)) (hj:q<m->m<e->AF 253 [.rs 0 0 n,.I q,.I m,.I e,.fn (.func f) [] capt] [⟨7,Z,0⟩] (.tup []) [some ⟨7,Z1,0⟩]) (h8:¬ (q<m/\m<e)->Z=Z1) (hv:a<q->q<mid->AF 231 [.rs 0 0 n,.I a,.I q,.I mid,.fn (.func f) [] capt] [⟨7,Z1,0⟩] (.tup []) [some ⟨7,Z2,0⟩]) (hk:¬ (a<q/\q<mid)->Z1=Z2) (hx:mid<e->e<b->AF 231 [.rs 0 0 n,.I mid,.I e,.I b,.fn (.func f) [] capt] [⟨7,Z2,0⟩] (.tup []) [some ⟨7,Z3,0⟩]) (hm:¬ (mid<e/\e<b)->Z2=Z3) :
  AF 231 [.rs 0 0 n,.I a,.I m,.I b,.fn (.func f) [] capt] [⟨7,Z,0⟩] (.tup []) [some ⟨7,Z3,0⟩]:=by
 have u:∀ ρ sn h,capt.map (conv ρ sn h 2)=capt:=λ _ _ _=>hs _ _ _ 1
 have h0:∀ ρ sn h,capt.map (conv ρ sn h 3)=capt:=λ _ _ _=>hs _ _ _ 2
 have h1:∀ ρ sn h,capt.map (conv ρ sn h 4)=capt:=λ _ _ _=>hs _ _ _ 3
 have hy:=w6 (x:=(m:Int) - a);have hz:=w6 (x:=(b:Int) - m);have h2:¬ ((m:Int) - a=1):=zy
 have h3:¬ ((b:Int) - m=1):=zy
 obtain⟨p,hp⟩:∃ p,p+1=mm:=⟨mm - 1,zy⟩
 have a0:IntKind.i64.wrap ((mid:Int)+(m:Int))=(mm:Int):=by rw[w6];omega
 have a1:mid<m->IntKind.i64.wrap ((mm:Int) - (b:Int))=(lo:Int):=λ h=>by have:=hA h;rw[w6];omega
 have a2:IntKind.i64.wrap ((mm:Int) - 1)=(p:Int):=by rw[w6];omega
 have a3:IntKind.i64.wrap ((mm:Int) - (q:Int))=(e:Int):=by rw[w6];omega
 obtain⟨hn,ho,h9,ha⟩:=Mj (i:=a) (j:=b) zy
 rw[<- hg] at h9 ha;refine Rj.s.acalls (Ar rfl) (Ar rfl) (Ar rfl) ?_;show AY _ 1 _ _ ⟨220,[(0,.rs 0 0 n),(1,.I a),(2,.I m),(3,.I b),(4,.fn (.func f) [] capt)],[(0,some ⟨7,Z,0⟩)],16⟩;refine AB (rk (s:=?s01) [0,1,2,3,4,28] [0] rfl ?o01 ?q01)
 case o01=>simp[hy,h2];rfl
 refine AE _ rfl (λ h=>by simp[h2] at h) λ _=>AG ?_
 refine AB (rk (s:=?s02) [0,1,2,3,4,80] [0] rfl ?o02 ?q02)
 case o02=>simp[hz,h3];rfl
 refine AE _ rfl (λ h=>by simp[h3] at h) λ _=>AG ?_
 refine rk (s:=?s1) [0,1,2,3,4,18] [0] rfl ?o1 ?q1
 case o1=>simp[hn,ho,h9,ha,IntKind.bits,-Int.natCast_ediv,-Int.natCast_add];rfl
 refine rk (s:=?s2) [0,1,2,3,4,18,19] [0] rfl ?o2 ?q2
 case o2=>simp[a0];rfl
 refine rk (s:=?s3) [0,1,2,3,4,18,19,20,21] [0] rfl ?o3 ?q3
 case o3=>simp;rfl
 clear hn ho h9 ha
 refine Bm ⟨220,[(0,.rs 0 0 n),(1,.I a),(2,.I m),(3,.I b),(4,.fn (.func f) [] capt),(18,.I mid),(19,.I mm),(20,.I lo),(21,.I hi)],[(0,some ⟨7,Z,0⟩)],300⟩ ?_ ?_
 .refine rk (s:=?s4) [0,1,2,3,4,18,19,20,21,140] [0] rfl ?o4 ?q4
  case o4=>simp;rfl
  refine AE _ rfl (λ h5=>?_) λ h5=>?_
  .simp only[Qa,U4] at h5
   refine rk (s:=?s5) [0,1,2,3,4,18,19,20] [0] rfl ?o5 ?q5
   case o5=>simp[a1 h5];rfl
   refine Ab rfl ?_;simp;exact Le.keep rfl zz (by simp[(hA h5).2]) zz
  .simp only[Qb,U4] at h5
   have hq:=hB zy
   refine rk (s:=?s6) [0,1,2,3,4,18,19,20] [0] rfl ?o6 ?q6
   case o6=>simp;rfl
   refine Ab rfl ?_;simp;exact Le.keep rfl zz (by simp[hq.1,hq.2]) zz
 refine rk (s:=?s7) [0,1,2,3,4,18,19,20,21,22] [0] rfl ?o7 ?q7
 case o7=>simp[a2];rfl
 refine AB (AI (An (ι:=Nat × Nat) (λ p'=>⟨220,[(0,.rs 0 0 n),(1,.I a),(2,.I m),(3,.I b),(4,.fn (.func f) [] capt),(18,.I mid),(19,.I mm),(20,.I p'.1),(21,.I p'.2),(22,.I p)],[(0,some ⟨7,Z,0⟩)],400⟩) (λ p=>lo<=p.1/\p.1<=q/\q<=p.2/\p.2<=hi) (λ p=>p.2 - p.1) (lo,hi) ⟨zz,by simpa using hq1,by simpa using hq2,zz⟩ (Le.keep rfl zz zz zz) ?_))
 rintro⟨i,j⟩ ⟨a4,a5,a6,a7⟩
 simp only at a4 a5 a6 a7;refine AB (rk (s:=?s8) [0,1,2,3,4,18,19,20,21,22,151] [0] rfl ?o8 ?q8)
 case o8=>simp;rfl
 refine AE _ rfl (λ h4=>AG ?_) λ h4=>Ak (Al ?_)
 .simp only[Qa,U4] at h4
  obtain⟨hw,hu,hd,hr⟩:=Mj (i:=i) (j:=j) zy
  refine AI ?_;obtain⟨c,a8⟩:=AJ ((i+j) / 2);rw[<- a8] at hd hr;refine rk (s:=?s9) [0,1,2,3,4,18,19,20,21,22,23] [0] rfl ?o9 ?q9
  case o9=>simp[hw,hu,hd,hr,IntKind.bits,-Int.natCast_ediv,-Int.natCast_add];rfl
  obtain⟨d,a9⟩:∃ d,c+d+1=mm:=⟨p - c,zy⟩
  obtain⟨ag,x,y,ai,am,an⟩:=hh c d zy zy a9
  have ht:=hc y x;have aq:(!decide (BF y x<0))=decide (c<q):=by rw[<- decide_not,decide_eq_decide];exact an
  have au:IntKind.i64.wrap ((p:Int) - (c:Int))=(d:Int):=by rw[w6];omega
  have av:c<n:=zy
  have b0:=wq (k:=c);refine Bi ⟨220,[(0,.rs 0 0 n),(1,.I a),(2,.I m),(3,.I b),(4,.fn (.func f) [] capt),(18,.I mid),(19,.I mm),(20,.I i),(21,.I j),(22,.I p),(23,.I c),(171,.B (decide (c<q)))],[(0,some ⟨7,Z,0⟩)],600⟩ ?_ ?_
  .rw [<- aq]
   simp[ai,am,au,ag,av];refine Ah ht ?_ ?_
   .simp [u,h0,h1]
   simp;exact⟨rfl,Le.keep rfl zz zz zz⟩
  refine AE _ rfl (λ h5=>?_) λ h5=>?_
  .simp only[Qa] at h5
   refine Ab rfl ?_;simp[b0];exact⟨c+1,j,⟨zy,zy,zy,zy⟩,zy,Le.N1 h6 rfl zz rfl rfl (by simp[u,h0,h1])⟩
  .simp only[Qb] at h5
   refine Ab rfl ?_;simp;exact⟨i,c,⟨zy,zy,zy,zy⟩,zy,Le.N1 h6 rfl zz rfl rfl (by simp[u,h0,h1])⟩
 simp only[Qb,U4] at h4;obtain rfl:i=q:=zy
 refine rk (s:=?s10) [0,1,2,3,4,18,20,24] [0] rfl ?o10 ?q10
 case o10=>simp[a3];rfl
 refine Bm ⟨220,[(0,.rs 0 0 n),(1,.I a),(2,.I m),(3,.I b),(4,.fn (.func f) [] capt),(18,.I mid),(20,.I i),(24,.I e)],[(0,some ⟨7,Z1,0⟩)],1000⟩ ?_ ?_
 .refine arc ⟨220,[(0,.rs 0 0 n),(1,.I a),(2,.I m),(3,.I b),(4,.fn (.func f) [] capt),(18,.I mid),(20,.I i),(24,.I e),(185,.B (decide (i<m/\m<e)))],[(0,some ⟨7,Z,0⟩)],700⟩ ?_ ?_
  .by_cases c1:i<m
   .simp [c1]
    exact Le.keep rfl zz zz zz
   .simp [c1]
    exact Le.keep rfl zz zz zz
  refine AE _ rfl (λ h5=>?_) λ h5=>AG ?_
  .simp only[Qa] at h5
   refine Ab rfl ?_;simp;refine BZ (i:=0) rfl (e':=⟨7,Z,0⟩) (by simp[h6]) (hj h5.1 h5.2) zz (by simp[u,h0,h1]) ?_
   simp[hb];exact Le.keep rfl zz zz zz
  .simp only[Qb] at h5
   exact Le.keep rfl zz zz (by simp[h8 h5])
 refine Bm ⟨220,[(0,.rs 0 0 n),(1,.I a),(2,.I m),(3,.I b),(4,.fn (.func f) [] capt),(18,.I mid),(20,.I i),(24,.I e)],[(0,some ⟨7,Z2,0⟩)],2000⟩ ?_ ?_
 .refine arc ⟨220,[(0,.rs 0 0 n),(1,.I a),(2,.I m),(3,.I b),(4,.fn (.func f) [] capt),(18,.I mid),(20,.I i),(24,.I e),(199,.B (decide (a<i/\i<mid)))],[(0,some ⟨7,Z1,0⟩)],1500⟩ ?_ ?_
  .by_cases c1:a<i
   .simp [c1]
    exact Le.keep rfl zz zz zz
   .simp [c1]
    exact Le.keep rfl zz zz zz
  refine AE _ rfl (λ h5=>?_) λ h5=>AG ?_
  .simp only[Qa] at h5
   refine Ab rfl ?_;simp;refine BZ (i:=0) rfl (e':=⟨7,Z1,0⟩) (by simp[hb]) (hv h5.1 h5.2) zz (by simp[u,h0,h1]) ?_
   simp[hf];exact Le.keep rfl zz zz zz
  .simp only[Qb] at h5
   exact Le.keep rfl zz zz (by simp[hk h5])
 refine arc ⟨220,[(0,.rs 0 0 n),(3,.I b),(4,.fn (.func f) [] capt),(18,.I mid),(24,.I e),(213,.B (decide (mid<e/\e<b)))],[(0,some ⟨7,Z2,0⟩)],2500⟩ ?_ ?_
 .by_cases c1:mid<e
  .simp [c1]
   exact Le.keep rfl zz zz zz
  .simp [c1]
   exact Le.keep rfl zz zz zz
 refine AE _ rfl (λ h5=>?_) λ h5=>AG ?_
 .simp only[Qa] at h5
  refine Ab rfl ?_;simp;refine BZ (i:=0) rfl (e':=⟨7,Z2,0⟩) (by simp[hf]) (hx h5.1 h5.2) zz (by simp[u,h0,h1]) ?_
  simp[h7];exact IQ h7 rfl
 .simp only[Qb] at h5
  rw[hm h5];exact⟨.inl rfl,IQ h7 rfl⟩
theorem TQ (f:FuncId) (capt:List AV) (hs:Gd capt) (hc:∀ x y,AF f (eV x::eV y::capt) [] (.I (BF x y)) []):∀ (k:Nat) (A S T B:List Ac) (n a m b:Nat),S.length+T.length=k->(A++(S++(T++B))).length=n->A.length=a->a+S.length=m->m+T.length=b ->
  0<S.length->0<T.length->n<=1000000->A6 S->A6 T -> ∃ R:List Ac,R.Perm (S++T)/\A6 R /\
  AF 231 [.rs 0 0 n,.I a,.I m,.I b,.fn (.func f) [] capt] [⟨7,AS (A++(S++(T++B))),0⟩] (.tup []) [some ⟨7,AS (A++(R++B)),0⟩]:=by
 intro k
 induction k using Nat.strongRecOn with
 | ind k ih =>
 intro A S T B n a m b hk hn ha hm hb hz ht hl h8 h9
 by_cases a0:S.length=1
 .obtain ⟨x,rfl⟩:=List.length_eq_one_iff.1 a0
  obtain⟨q,hq,hf,hg⟩:=bZ (x:=x) h9;refine⟨T.take q++x::T.drop q,?_,hg,?_⟩
  .refine (List.perm_middle).trans ?_
   rw[QQ];exact List.Perm.refl _
  .exact wD f capt hs hc A T B x n a m b q hn ha (by simpa using hm) hb ht hl hq hf
 by_cases a1:T.length=1
 .obtain ⟨x,rfl⟩:=List.length_eq_one_iff.1 a1
  obtain⟨q,hq,hf,hg⟩:=oJ (x:=x) h8;refine⟨S.take q++x::S.drop q,?_,hg,?_⟩
  .refine (List.perm_middle).trans ?_
   rw[QQ];exact(List.perm_append_singleton x S).symm
  .exact kV f capt hs hc A S B x n a m b q hn ha hm (by simpa using hb) zy hl hq hf
 obtain⟨mid,h7⟩:=AJ ((a+b) / 2);obtain⟨lo,u⟩:∃ lo,lo=if mid<m then mid+m - b else a:=⟨_,rfl⟩
 obtain⟨hi,h0⟩:∃ hi,hi=if mid<m then mid else m:=⟨_,rfl⟩
 obtain⟨q,hq⟩:=pB (lo:=lo) (hi:=hi) h8 h9 hm hb hz ht h7 (by
  by_cases h:mid<m
  .rw [if_pos h] at u h0;exact .inl ⟨h,u,h0⟩
  .rw [if_neg h] at u h0;exact .inr ⟨zy,u,h0⟩)
 have au:b+B.length=n:=by simp only[Qe] at hn;omega
 have h4:a<=lo/\lo<=hi/\hi<=m/\hi<=mid/\mid+m<=b+lo:=by
  by_cases h:mid<m
  .rw [if_pos h] at u h0;omega
  .rw [if_neg h] at u h0;omega
 obtain⟨q1,q2,key,am,qm,qd,eb,below,above⟩:=hq;obtain⟨e,he⟩:=AJ (mid+m - q);have h5:∀ s∈S.drop (q - a),∀ t∈T.take (mid - q),¬ Bf s t:=λ s h1 t h2=>Lj (below s h1 t h2);obtain⟨sS1,sS2,sS3⟩:=K5 (a:=S.take (q - a)) (b:=S.drop (q - a)) (by rw[QQ];exact h8)
 obtain⟨sT1,sT2,sT3⟩:=K5 (a:=T.take (mid - q)) (b:=T.drop (mid - q)) (by rw[QQ];exact h9)
 have lS1:a+(S.take (q - a)).length=q:=by rw[QC];omega
 have lT1:q+(T.take (mid - q)).length=mid:=by rw[QC];omega
 have lS2:mid+(S.drop (q - a)).length=e:=by rw[QY];omega
 have lT2:e+(T.drop (mid - q)).length=b:=by rw[QY];omega
 have a2:S++T=S.take (q - a)++S.drop (q - a)++(T.take (mid - q)++T.drop (mid - q)):=by rw[QQ,QQ]
 have hj:A++(S++(T++B))=A++S.take (q - a)++(S.drop (q - a)++(T.take (mid - q)++(T.drop (mid - q)++B))):=by
  rw[Qq A,<- Qq (S.take (q - a)),QQ,<- Qq (T.take (mid - q)),QQ]
 have av:a<mid/\mid<b:=zy
 have hu:=dN f capt hs (A++S.take (q - a)) (S.drop (q - a)) (T.take (mid - q)) (T.drop (mid - q)++B) n q m e (by rw[<- hj];exact hn) (by rw[Qe];omega) (by rw[QY];omega) zy
 generalize ag:S.take (q - a)=S1 at *;generalize ai:S.drop (q - a)=S2 at *;generalize an:T.take (mid - q)=T1 at *;generalize aq:T.drop (mid - q)=T2 at *;have a3:∀ c,(h1:a<=c)->(h2:c<m)->(AS (A++(S++(T++B))))[c]? = some (vC (S[c - a]' zy)):=λ c h1 h2=>Mm (A:=A) (S:=S) (R:=T++B) (k:=c - a) zy zy
 have hgt:∀ c,(h1:m<=c)->(h2:c<b)->(AS (A++(S++(T++B))))[c]? = some (vC (T[c - m]' zy)):=λ c h1 h2=>O8 (A:=A) (S:=S) (T:=T) (R:=B) (k:=c - m) zy zy
 obtain⟨R1,ho,a4,a5,a6⟩:∃ R1:List Ac,R1.Perm (S1++T1)/\A6 R1/\(a<q/\q<mid->AF 231 [.rs 0 0 n,.I a,.I q,.I mid,.fn (.func f) [] capt] [⟨7,AS (A++(S1++(T1++(S2++(T2++B))))),0⟩] (.tup []) [some ⟨7,AS (A++(R1++(S2++(T2++B)))),0⟩])/\(¬ (a<q/\q<mid)->R1=S1++T1):=by
  by_cases h:a<q/\q<mid
  .obtain ⟨R,h1,h2,h3⟩:=ih (S1.length+T1.length) zy A S1 T1 (S2++(T2++B)) n a q mid rfl (by simp only[Qe];omega) ha lS1 lT1 zy zy hl sS1 sT1
   exact⟨R,h1,h2,λ _=>h3,λ hh=>absurd h hh⟩
  .refine ⟨S1++T1,List.Perm.refl _,Tx sS1 sT1 ?_,λ hh=>absurd hh h,λ _=>rfl⟩
   by_cases h2:a<q
   .exact .inr (Qx zy)
   .exact .inl (Qx zy)
 have lR1:R1.length+a=mid:=by rw[ho.length_eq,Qe];omega
 obtain⟨R2,hv,a7,a8,a9⟩:∃ R2:List Ac,R2.Perm (S2++T2)/\A6 R2/\(mid<e/\e<b->AF 231 [.rs 0 0 n,.I mid,.I e,.I b,.fn (.func f) [] capt] [⟨7,AS (A++(R1++(S2++(T2++B)))),0⟩] (.tup []) [some ⟨7,AS (A++(R1++R2++B)),0⟩])/\(¬ (mid<e/\e<b)->R2=S2++T2):=by
  by_cases h:mid<e/\e<b
  .obtain ⟨R,h1,h2,h3⟩:=ih (S2.length+T2.length) zy (A++R1) S2 T2 B n mid e b rfl (by simp only[Qe];omega) (by rw[Qe];omega) lS2 lT2 zy zy hl sS2 sT2
   refine⟨R,h1,h2,λ _=>?_,λ hh=>absurd h hh⟩;rw[Qq A,Qq A] at h3;rw[Qq R1];exact h3
  .refine ⟨S2++T2,List.Perm.refl _,Tx sS2 sT2 ?_,λ hh=>absurd hh h,λ _=>rfl⟩
   by_cases h2:mid<e
   .exact .inr (Qx zy)
   .exact .inl (Qx zy)
 refine⟨R1++R2,?_,qI ho hv (λ x hx y hy=>?_) a4 a7,?_⟩
 .rw [a2]
  refine(ho.append hv).trans ?_;simp only[Qq];refine List.Perm.append_left _ ?_;rw[<- Qq,<- Qq];exact List.Perm.append_right _ List.perm_append_comm
 .rcases Qm.1 hx with h | h<;>rcases Qm.1 hy with h' | h'
  .exact sS3 x h y h'
  .exact above x h y h'
  .exact h5 y h' x h
  .exact sT3 x h y h'
 refine lY f capt hs hc n a m b mid (mid+m) lo hi q e _ (AS (A++(S1++(T1++(S2++(T2++B)))))) (AS (A++(R1++(S2++(T2++B))))) _ (Ck _) (Ck _) (Ck _) (Ck _)
  zy zy zy hl h7 rfl (λ h=>by rw[if_pos h] at u h0;omega) (λ h=>by rw[if_neg zy] at u h0;omega) q1 q2 zy h4.1 h4.2.2.1 h4.2.2.2.1 (λ c d h1 h2 h3=>?_) (λ h1 h2=>?_) (λ h=>?_) (λ h1 h2=>a5 ⟨h1,h2⟩) (λ h=>by rw[a6 h,Qq]) (λ h1 h2=>a8 ⟨h1,h2⟩) (λ h=>by rw[a9 h,Qq R1,Qq S2])
 .have hd:mid+m - 1 - c=d:=zy
  refine⟨zy,S[c - a]' zy,T[d - m]' zy,a3 c zy zy,hgt d zy zy,?_⟩
  rw[Jz];have hw:=key c zy zy h1 h2
  simp only[hd] at hw;exact hw
 .have hr:=hu zy zy hl
  rw[<- hj,Qq A S1] at hr;exact hr
 .rw [hj,Qq A S1]
  by_cases h6:q<m
  .have:T1=[]:=Qx zy
   rw[this];rfl
  .have:S2=[]:=Qx zy
   rw[this];rfl
variable {r:List (List Ac)} {w:Nat}
def BW (w:Nat):List (List Ac)->Prop
 | []=>True
 | s::r=>A6 s/\0<s.length/\s.length<=w/\(r≠[]->s.length=w)/\BW w r
theorem BW.two (h:BW w r) (hl:2*w<=r.flatten.length) (hw:0<w):∃ s t r',r=s::t::r'/\s.length=w/\t.length=w/\A6 s/\A6 t/\BW w r':=by
 match r,h with
 | [],_=>simp at hl;omega
 | [s],h=>simp at hl;have:=h.2.2.1;omega
 | s::t::r',h =>
   obtain⟨h1,h2,h3,h4,h5,h6,h7,h8,h9⟩:=h;refine⟨s,t,r',rfl,h4 zz,?_,h1,h5,h9⟩
   by_cases hr:r'=[]
   .subst hr
    have:=h4 zz
    simp at hl;omega
   .exact h8 hr
theorem BW.tail (h:BW w r) (hl:r.flatten.length<2*w):(∃ s t,r=[s,t]/\s.length=w/\0<t.length/\A6 s/\A6 t)∨(r.flatten.length<=w/\A6 r.flatten):=by
 match r,h with
 | [],_=>exact .inr ⟨zz,by simp[A6]⟩
 | [s],h=>exact .inr ⟨by simpa using h.2.2.1,by simpa using h.1⟩
 | s::t::r',h =>
   obtain⟨h1,h2,h3,h4,h5,h6,h7,h8,h9⟩:=h;have q:=h4 zz
   by_cases hr:r'=[]
   .subst hr
    exact .inl ⟨s,t,rfl,q,h6,h1,h5⟩
   .have:=h8 hr
    simp at hl;omega
theorem BW.one (h:BW w r) (hl:r.flatten.length<=w) (hw:0<w):A6 r.flatten:=by
 rcases h.tail zy with ⟨s,t,rfl,h1,h2,_⟩ | ⟨_,h⟩
 .simp at hl;omega
 .exact h
theorem BW.mk {w:Nat} (hw:0<w) {t:List Ac} (ht:A6 t) (hl:t.length<=w):∀ d:List (List Ac),(∀ s∈d,A6 s/\s.length=w) -> ∃ r,BW w r/\r.flatten=d.flatten++t/\(d≠[]∨t≠[]->r≠[])
 | [],_=>by
   by_cases h:t=[]
   .exact ⟨[],trivial,by simp[h],by simp[h]⟩
   .exact ⟨[t],⟨ht,Uv.2 h,hl,λ h=>absurd rfl h,trivial⟩,zz,zz⟩
 | s::d,h=>by
   obtain⟨r,h1,h2,h3⟩:=BW.mk hw ht hl d λ x hx=>h x (Qj _ hx);have hs:=h s Qo;exact⟨s::r,⟨hs.1,zy,zy,λ _=>hs.2,h1⟩,by simp[h2],zz⟩
theorem Pr (M:List Ac):(Db BF M).Perm M:=(List.reverse_perm _).trans (LG BF M)
theorem lQ (f:FuncId) (capt:List AV) (hs:Gd capt) (hc:∀ x y,AF f (eV x::eV y::capt) [] (.I (BF x y)) []) (l:List Ac) (n:Nat) (hn:l.length=n) (hl:n<=1000000):∃ R:List Ac,(R.Perm l/\A6 R) /\
  AF 187 [.rs 0 0 n,.I n,.fn (.func f) [] capt] [⟨7,AS l,0⟩] (.tup []) [some ⟨7,AS R,0⟩]:=by
 have h3:∀ ρ sn h,capt.map (conv ρ sn h 2)=capt:=λ _ _ _=>hs _ _ _ 1
 have h5:∀ ρ sn h,capt.map (conv ρ sn h 3)=capt:=λ _ _ _=>hs _ _ _ 2
 have h6:∀ ρ sn h,capt.map (conv ρ sn h 4)=capt:=λ _ _ _=>hs _ _ _ 3
 refine YW.s.acallsX (λ _=>.tup []) (λ R=>[some ⟨7,AS R,0⟩]) (λ R=>R.Perm l/\A6 R) (Ar rfl) (Ar rfl) (λ _=>Qf _) ?_;show AY _ 1 _ _ ⟨63,[(0,.rs 0 0 n),(1,.I n),(2,.fn (.func f) [] capt)],[(0,some ⟨7,AS l,0⟩)],16⟩;refine rk (s:=?s1) [0,1,2,6] [0] rfl ?o1 ?q1
 case o1=>simp;rfl
 refine rk (s:=?s2) [0,1,2,6,7,8] [0] rfl ?o2 ?q2
 case o2=>simp;rfl
 refine AB (AI ?_)
 refine An (ι:=(List (List Ac) × List Ac) × (Nat × Nat)) (λ p=>⟨63,[(0,.rs 0 0 n),(1,.I n),(2,.fn (.func f) [] capt),(6,.I 20),(7,.I p.2.1),(8,.I p.2.2)],[(0,some ⟨7,AS (p.1.1.flatten++p.1.2),0⟩)],500⟩)
  (λ p=>(p.1.1.flatten++p.1.2).Perm l/\p.1.1.flatten.length=p.2.1/\p.2.1+p.1.2.length=n/\p.2.2=p.2.1+20 /\ ∀ s∈p.1.1,A6 s/\s.length=20) (λ p=>n - p.2.1) (([],l),(0,20)) ⟨zz,zz,by simpa using hn,zz,zz⟩ (Le.keep rfl zz zz zz) ?_
 rintro⟨⟨d,r⟩,a,b⟩ ⟨i1,i2,i3,i4,i5⟩
 simp only at i1 i2 i3 i4 i5;have h1:=Ck (d.flatten++r);obtain⟨Z,hZ⟩:=AJ (AS (d.flatten++r));simp only;rw[<- hZ] at h1 ⊢;refine AB (rk (s:=?s3) [0,1,2,6,7,8,13] [0] rfl ?o3 ?q3)
 case o3=>simp;rfl
 refine AE _ rfl (λ h4=>AG ?_) λ h4=>Ak (Al ?_)
 .simp only[Qa,Int.ofNat_le] at h4
  have a1:r=r.take 20++r.drop 20:=(QQ 20 r).symm;have a2:(r.take 20).length=20:=by rw[QC];omega
  have ag:(r.drop 20).length=r.length - 20:=by rw[QY]
  generalize r.take 20=M at *;generalize r.drop 20=B at *;subst a1;have q:=O6 f capt BF d.flatten M B n a b (by simp only[Qe] at i3 ⊢;omega) i2 zy hl hs λ x _ y _=>hc x y
  rw[Qq,<- hZ] at q;have u:=Ck (d.flatten++Db BF M++B);obtain⟨Z2,h0⟩:=AJ (AS (d.flatten++Db BF M++B));rw[<- h0] at u q;refine AI (Bm ⟨63,[(0,.rs 0 0 n),(1,.I n),(2,.fn (.func f) [] capt),(6,.I 20),(8,.I b)],[(0,some ⟨7,Z2,0⟩)],1000⟩ ?_ ?_)
  .refine Ab rfl ?_
   simp;refine BZ (i:=0) rfl (e':=⟨7,Z,0⟩) (by simp[h1]) q zz (by simp[h3,h5,h6]) ?_
   simp[u];exact Le.keep rfl zz zz zz
  refine rk (s:=?s5) [0,1,2,6,7,8] [0] rfl ?o5 ?q5
  case o5=>simp;rfl
  obtain⟨b2,hh⟩:=AJ (b+20);have hi:IntKind.i64.wrap ((b:Int)+20)=(b2:Int):=by rw[w6];omega
  refine Ab rfl ?_;simp[hi];have hw:(Db BF M).Perm M:=Pr M;have a3:(Db BF M).length=20:=by rw[hw.length_eq];exact a2
  refine⟨d++[Db BF M],B,b,b2,⟨?_,?_,?_,hh,?_⟩,zy,Le.N1 u rfl zz (by simp[h0]) rfl (by simp[h3,h5,h6])⟩
  .refine List.Perm.trans ?_ i1
   rw[List.flatten_append,List.flatten_singleton,Qq];exact List.Perm.append_left _ (List.Perm.append_right _ hw)
  .rw [<- List.length_flatten,List.flatten_append,List.flatten_singleton,Qe];omega
  .simp only[Qe] at i3;omega
  .intro s hs'
   rcases Qm.1 hs' with hs' | hs'
   .exact i5 s hs'
   .obtain rfl:=Qv.1 hs'
    exact⟨MV M,a3⟩
 simp only[Qb,Int.ofNat_le] at h4;have q:=O6 f capt BF d.flatten r [] n a n (by rw[QU,Qe];omega) i2 i3 hl hs λ x _ y _=>hc x y
 rw[QU,QU,<- hZ] at q;have hj:(Db BF r).Perm r:=Pr r;obtain⟨Bs,ha,hk,_⟩:=BW.mk (w:=20) zx (MV r) (by rw[hj.length_eq];omega) d i5
 rw[<- hk] at q;have h9:Bs.flatten.Perm l:=by rw[hk];exact(List.Perm.append_left _ hj).trans i1
 refine Bm ⟨63,[(0,.rs 0 0 n),(1,.I n),(2,.fn (.func f) [] capt),(6,.I 20)],[(0,some ⟨7,AS Bs.flatten,0⟩)],1000⟩ ?_ ?_
 .have u:=Ck Bs.flatten
  generalize AS Bs.flatten=Z2 at *;refine Ab rfl ?_;simp;refine BZ (i:=0) rfl (e':=⟨7,Z,0⟩) (by simp[h1]) q zz (by simp[h3,h5,h6]) ?_
  simp[u];exact Le.keep rfl zz zz zz
 clear q hZ h1 hk hj i1 i2 i3 i4 i5 h4
 refine AI ?_
 refine An (ι:=List (List Ac) × Nat) (λ p=>⟨63,[(0,.rs 0 0 n),(1,.I n),(2,.fn (.func f) [] capt),(6,.I p.2)],[(0,some ⟨7,AS p.1.flatten,0⟩)],1000⟩)
  (λ p=>BW p.2 p.1/\p.1.flatten.Perm l/\20<=p.2/\p.2<=4000000) (λ p=>n - p.2) (Bs,20) ⟨ha,h9,zz,zz⟩ (Le.refl _ _) ?_
 rintro⟨Bs,w⟩ ⟨ha,h9,a4,a5⟩
 simp only at ha h9 a4 a5;have h1:=Ck Bs.flatten;obtain⟨Z,hZ⟩:=AJ (AS Bs.flatten);simp only;rw[<- hZ] at h1 ⊢;refine AB (rk (s:=?s6) [0,1,2,6,30] [0] rfl ?o6 ?q6)
 case o6=>simp;rfl
 have a6:Bs.flatten.length=n:=by rw[h9.length_eq];exact hn
 refine AE _ rfl (λ h7=>AG ?_) λ h7=>Ak (Al ?_)
 .simp only[Qa,U4] at h7
  obtain⟨w2,a9⟩:=AJ (2*w);have hx:IntKind.i64.wrap (2*(w:Int))=(w2:Int):=by rw[w6];omega
  refine AI (rk (s:=?s8) [0,1,2,6,7,8] [0] rfl ?o8 ?q8)
  case o8=>simp[hx];rfl
  refine AB (AI ?_)
  refine An (ι:=(List (List Ac) × List (List Ac)) × (Nat × Nat)) (λ p=>⟨63,[(0,.rs 0 0 n),(1,.I n),(2,.fn (.func f) [] capt),(6,.I w),(7,.I p.2.1),(8,.I p.2.2)],[(0,some ⟨7,AS (p.1.1.flatten++p.1.2.flatten),0⟩)],1500⟩)
   (λ p=>(p.1.1.flatten++p.1.2.flatten).Perm l/\p.1.1.flatten.length=p.2.1/\p.2.1+p.1.2.flatten.length=n/\p.2.2=p.2.1+w2/\(∀ s∈p.1.1,A6 s/\s.length=w2)/\BW w p.1.2) (λ p=>n - p.2.1) (([],Bs),(0,w2)) ⟨by simpa using h9,zz,by simpa using a6,zz,zz,ha⟩ (Le.keep rfl zz zz (by simp[hZ])) ?_
  rintro⟨⟨d,r⟩,a,b⟩ ⟨i1,i2,i3,i4,i5,i6⟩
  simp only at i1 i2 i3 i4 i5 i6;have h1:=Ck (d.flatten++r.flatten);obtain⟨Z,hZ⟩:=AJ (AS (d.flatten++r.flatten));simp only;rw[<- hZ] at h1 ⊢;refine AB (rk (s:=?s9) [0,1,2,6,7,8,35] [0] rfl ?o9 ?q9)
  case o9=>simp;rfl
  refine AE _ rfl (λ ho=>AG ?_) λ ho=>Ak (Al ?_)
  .simp only[Qa,Int.ofNat_le] at ho
   obtain⟨s,t,r',rfl,hy,hq,he,hf,a7⟩:=i6.two zy zy
   obtain⟨m,hm⟩:=AJ (a+w);have hr:IntKind.i64.wrap ((a:Int)+(w:Int))=(m:Int):=by rw[w6];omega
   have ht:(s::t::r').flatten=s++(t++r'.flatten):=zz
   rw[ht] at hZ i1 i3;simp only[Qe] at i3;obtain⟨R,hb,hu,h2⟩:=TQ f capt hs hc _ d.flatten s t r'.flatten n a m b rfl (by simp only[Qe];omega) i2 zy zy zy zy hl he hf
   rw[<- hZ] at h2;have u:=Ck (d.flatten++(R++r'.flatten));obtain⟨Z2,h0⟩:=AJ (AS (d.flatten++(R++r'.flatten)));rw[<- h0] at u h2;refine AI (Bm ⟨63,[(0,.rs 0 0 n),(1,.I n),(2,.fn (.func f) [] capt),(6,.I w),(8,.I b)],[(0,some ⟨7,Z2,0⟩)],2000⟩ ?_ ?_)
   .refine Ab rfl ?_
    simp[hr];refine BZ (i:=0) rfl (e':=⟨7,Z,0⟩) (by simp[h1]) h2 zz (by simp[h3,h5,h6]) ?_
    simp[u];exact Le.keep rfl zz zz zz
   refine rk (s:=?s11) [0,1,2,6,7,8] [0] rfl ?o11 ?q11
   case o11=>simp;rfl
   obtain⟨b2,hh⟩:=AJ (b+w2);have hi:IntKind.i64.wrap ((b:Int)+(w2:Int))=(b2:Int):=by rw[w6];omega
   have hv:R.length=w2:=by rw[hb.length_eq,Qe];omega
   refine Ab rfl ?_;simp[hx,hi];refine⟨d++[R],r',b,b2,⟨?_,?_,?_,hh,?_,a7⟩,zy,Le.N1 u rfl zz (by simp[h0]) rfl (by simp[h3,h5,h6])⟩
   .refine List.Perm.trans ?_ i1
    rw[List.flatten_append,List.flatten_singleton,Qq,<- Qq s];exact List.Perm.append_left _ (List.Perm.append_right _ hb)
   .rw [<- List.length_flatten,List.flatten_append,List.flatten_singleton,Qe];omega
   .rw [<- List.length_flatten];omega
   .intro s hs'
    rcases Qm.1 hs' with hs' | hs'
    .exact i5 s hs'
    .obtain rfl:=Qv.1 hs'
     exact⟨hu,hv⟩
  simp only[Qb,Int.ofNat_le] at ho;obtain⟨m,hm⟩:=AJ (a+w);have hr:IntKind.i64.wrap ((a:Int)+(w:Int))=(m:Int):=by rw[w6];omega
  refine EL (ι:=List (List Ac)) (λ Bs=>⟨63,[(0,.rs 0 0 n),(1,.I n),(2,.fn (.func f) [] capt),(6,.I w)],[(0,some ⟨7,AS Bs.flatten,0⟩)],3000⟩) (λ Bs=>BW w2 Bs/\Bs.flatten.Perm l) ?_ ?_
  .refine rk (s:=?s12) [0,1,2,6,7,9] [0] rfl ?o12 ?q12
   case o12=>simp[hr];rfl
   refine rk (s:=?s13) [0,1,2,6,7,9,54] [0] rfl ?o13 ?q13
   case o13=>simp;rfl
   refine AE _ rfl (λ hg=>?_) λ hg=>AG ?_
   .simp only[Qa,U4] at hg
    rcases i6.tail zy with ⟨s,t,rfl,hy,hq,he,hf⟩ | ⟨hz,_⟩
    .have ht:[s,t].flatten=s++(t++[]):=zz
     rw[ht] at hZ i1 i3;simp only[Qe,UN] at i3;obtain⟨R,hb,hu,h2⟩:=TQ f capt hs hc _ d.flatten s t [] n a m n rfl (by simp only[Qe,UN];omega) i2 zy zy zy hq hl he hf
     rw[<- hZ,QU] at h2;have hv:R.length<=w2:=by rw[hb.length_eq,Qe];omega
     obtain⟨Bs2,hd,h8,_⟩:=BW.mk (w:=w2) zy hu hv d i5
     rw[<- h8] at h2;have u:=Ck Bs2.flatten;obtain⟨Z2,h0⟩:=AJ (AS Bs2.flatten);rw[<- h0] at u h2;refine Ab rfl ?_;simp;refine BZ (i:=0) rfl (e':=⟨7,Z,0⟩) (by simp[h1]) h2 zz (by simp[h3,h5,h6]) ?_
     simp[u];refine⟨Bs2,⟨hd,?_⟩,Le.keep rfl zz zz (by simp[h0])⟩
     rw[h8];refine List.Perm.trans ?_ i1;rw[QU];exact List.Perm.append_left _ hb
    .exact absurd hg zy
   .simp only[Qb,U4] at hg
    have a8:A6 r.flatten:=by
     rcases i6.tail zy with ⟨s,t,rfl,hy,hq,he,hf⟩ | ⟨_,hz⟩
     .simp only[List.flatten_cons,Qe] at i3
      omega
     .exact hz
    obtain⟨Bs2,hd,h8,_⟩:=BW.mk (w:=w2) zy a8 zy d i5
    exact⟨Bs2,⟨hd,by rw[h8];exact i1⟩,Le.keep rfl zz zz (by simp[hZ,h8])⟩
  .rintro Bs2 ⟨hd,h8⟩
   have u:=Ck Bs2.flatten;obtain⟨Z2,h0⟩:=AJ (AS Bs2.flatten);rw[<- h0] at u ⊢;have a0:IntKind.i64.wrap ((w:Int)*2)=(w2:Int):=by rw[w6];omega
   refine Ab rfl ?_;simp[a0];exact⟨Bs2,w2,⟨hd,h8,zy,zy⟩,zy,Le.N1 u rfl zz (by simp[h0]) rfl (by simp[h3,h5,h6])⟩
 simp only[Qb,U4] at h7;exact Bu.mk (.inl rfl) Bs.flatten ⟨h9,ha.one zy zy⟩ (IQ (Ck _) (by simp[hZ]))
theorem tZ (f:FuncId) (capt:List AV) (hs:Gd capt) (hc:∀ x y,AF f (eV x::eV y::capt) [] (.I (BF x y)) []) (l:List Ac) (n:Nat) (hn:l.length=n) (hl:n<=1000000):∃ R:List Ac,(R.Perm l/\A6 R) /\
  AF 135 [.rs 0 0 n,.fn (.func f) [] capt] [⟨7,AS l,0⟩] (.tup []) [some ⟨7,AS R,0⟩]:=by
 have u:∀ ρ sn h,capt.map (conv ρ sn h 2)=capt:=λ _ _ _=>hs _ _ _ 1
 have h0:∀ ρ sn h,capt.map (conv ρ sn h 3)=capt:=λ _ _ _=>hs _ _ _ 2
 have h1:∀ ρ sn h,capt.map (conv ρ sn h 4)=capt:=λ _ _ _=>hs _ _ _ 3
 obtain⟨R,hR,hst⟩:=lQ f capt hs hc l n hn hl;refine⟨R,hR,?_⟩;refine VQ.s.acalls (Ar rfl) (Ar rfl) (Ar rfl) ?_;have h2:=Ck l;have q:=Ck R;generalize AS l=Z at *;generalize AS R=Z2 at *;show AY _ 1 _ _ ⟨9,[(0,.rs 0 0 n),(1,.fn (.func f) [] capt)],[(0,some ⟨7,Z,0⟩)],16⟩;refine Ab rfl ?_;simp;refine BZ (i:=0) rfl (e':=⟨7,Z,0⟩) (by simp[h2]) hst zz (by simp[u,h0,h1]) ?_
 simp[q];exact⟨_,rfl,[],[],zz,zz,zz,.refl _,by simp[q,List.range,List.range.loop]⟩
theorem YD:∀ {a b:List Ac},(∀ x∈a,∀ y∈a,¬ Bf x y->¬ Bf y x->x=y)->a.Perm b->A6 a->A6 b->a=b
 | [],b,_,h,_,_=>(List.nil_perm.1 h).symm
 | x::a,[],_,h,_,_=>absurd h.length_eq zz
 | x::a,y::b,ht,h,ha,hb=>by
   unfold A6 at ha hb;rw[Q7] at ha hb
   have q:x=y:=by
    have h1:x∈y::b:=h.mem_iff.1 Qo;have h2:y∈x::a:=h.mem_iff.2 Qo;rcases Qu.1 h1 with h1 | h1
    .exact h1
    rcases Qu.1 h2 with h2 | h2
    .exact h2.symm
    exact ht x Qo y (Qj _ h2) (hb.1 x h1) (ha.1 y h2)
   subst q;rw[YD (λ u hu v hv=>ht u (Qj _ hu) v (Qj _ hv)) ((List.perm_cons x).1 h) ha.2 hb.2]
theorem DJ.tot {l:List AL} (h:DJ l) {x y:Ac} (hx:x∈BP l l) (hy:y∈BP l l) (h1:¬ Bf x y) (h2:¬ Bf y x):x=y:=by
 obtain⟨s,hs,_,rfl⟩:=P9 hx;obtain⟨t,ht,_,rfl⟩:=P9 hy
 have q:s.au=t.au/\s.nu=t.nu:=by
  simp only[Bf,Fj] at h1 h2;omega
 obtain⟨i,hi,rfl⟩:=Qt.1 hs;obtain⟨j,hj,rfl⟩:=Qt.1 ht;have ho:=QK.1 h.ord;rcases Nat.lt_trichotomy i j with hij | rfl | hij
 .have:=ho i j hi hj hij
  unfold Hl at this;omega
 .rfl
 .have:=ho j i hj hi hij
  unfold Hl at this;omega
theorem DJ.sort {l:List AL} (h:DJ l) (hl:l.length<=100000):HP l:=by
 obtain⟨R,⟨q,u⟩,h0⟩:=tZ 136 [] (λ ρ sn h n=>rfl) (λ x y=>W6 x y) (BP l l) _ rfl (QR (Mb l l) zy)
 have hp:=Pr (BP l l);have e:R=DV l:=YD (λ x hx y hy=>h.tot (q.mem_iff.1 hx) (q.mem_iff.1 hy)) (q.trans hp.symm) u (MV _);unfold HP;rw[<- e];exact h0
def C2 (g:List Int) (t:Int):List Ac->List Ac
 | []=>[]
 | v::r=>if decide (GZ v g t) && r.all λ w=>!decide (F8 v t w) then v::C2 g t r else C2 g t r
theorem Yh (V:List Ac) (g:List Int) (t:Int):∀ i,i<=V.length->CY V g t i++C2 g t (V.drop i)=C2 g t V
 | 0,_=>rfl
 | i+1,h=>by
   have ih:=Yh V g t i zy
   have hd:V.drop i=V[i]' zy::V.drop (i+1):=QO zy
   rw[hd] at ih;rw[<- ih];have hg:V[i]? = some (V[i]' zy):=Qc zy
   simp only[CY,hg,C2];unfold Ma;split<;>simp
theorem TV (l:List AL) (t:Int):CW l t=C2 (CU l t) t (DV l):=by
 have:=Yh (DV l) (CU l t) t (DV l).length (Qf _);rw[List.drop_length,C2,QU] at this;exact this
theorem I0 {g:List Int} {t:Int} {v:Ac}:∀ {V:List Ac},v∈C2 g t V->v∈V/\GZ v g t
 | [],h=>by simp[C2] at h
 | x::V,h=>by
   unfold C2 at h;split at h
   .rename_i hc
    rw[QH,Qa] at hc;rcases Qu.1 h with rfl | h
    .exact ⟨Qo,hc.1⟩
    .exact ⟨Qj _ (I0 h).1,(I0 h).2⟩
   .exact ⟨Qj _ (I0 h).1,(I0 h).2⟩
theorem ON {g:List Int} {t:Int}:∀ V:List Ac,(C2 g t V).Pairwise λ a b=>¬ (a.fr=b.fr/\a.to=b.to)
 | []=>List.Pairwise.nil
 | x::V=>by
   unfold C2;split
   .rename_i hc
    rw[QH,Ut] at hc;rw[Q7];refine⟨λ b hb he=>?_,ON V⟩;have q:=I0 hb;have:=hc.2 b q.1;simp only[UK,Qb] at this;exact this ⟨he.1.symm,he.2.symm,q.2.1⟩
   .exact ON V
def Yq (v:Ac):Ed:=⟨v.fr,v.to,v.lv⟩
def CX (V:List Ac) (lv:Int):List Ed:=(V.filter λ v=>decide (lv<=v.lv)).map Yq
def Hv (l:List AL) (t lv:Int):Gr:=⟨64,CX (CW l t) lv,CU l t⟩
def J0:Gr:=⟨0,[],[]⟩
def I3 (l:List AL) (t lv:Int):Gr × Int:=if 1<=lv/\lv<=3 then (if (CX (CW l t) lv).length<=500 then (Hv l t lv,0) else (J0,3)) else (J0,2)
theorem aQ (V:List Ac) (lv:Int):(CX V lv).length<=V.length:=by
 unfold CX;rw[Qs];exact QV _ _
theorem qX (l:List AL) (t:Int):(CW l t).length<=l.length:=by
 have h1:=RT (DV l) (CU l t) t (DV l).length;have h2:(DV l).length=(BP l l).length:=by unfold DV Db;rw[UT,LI]
 have h3:=Mb l l;unfold CW;omega
theorem WB {l:List AL} {t:Int} {v:Ac} (h:v∈CW l t):GZ v (CU l t) t /\ ∃ s∈l,s.ki=1/\v=Fj l s:=by
 rw[TV] at h;have h1:=I0 h;exact⟨h1.2,P9 (fV.1 h1.1)⟩
theorem OO {g:List Int} {t:Int}:∀ V:List Ac,(C2 g t V).Sublist V
 | []=>List.Sublist.refl _
 | x::V=>by
   unfold C2;split
   .exact (OO V).cons_cons x
   .exact (OO V).cons x
theorem jV (l:List AL) (t:Int):(CW l t).Pairwise λ a b=>a.fr<b.fr∨(a.fr=b.fr/\a.to<b.to):=by
 rw[TV];have h1:=ON (g:=CU l t) (t:=t) (DV l);have h2:(C2 (CU l t) t (DV l)).Pairwise λ a b=>¬ Bf b a:=(MV (BP l l)).sublist (OO _);refine(h1.and h2).imp λ {a b} h=>?_;obtain⟨h3,h4⟩:=h;unfold Bf at h4;omega
abbrev Bo (g:Int) (es ks:AV):List AV:=[.I g,es,ks]
theorem KT:Wk (.agg (Bo 0 .nilS .nilS)) (eG J0):=Ej (.refl _) (.nil 3 false) (.nil 1 false)
abbrev EO (l:List Ed):List (List AV):=l.map λ e=>[.I e.f,.I e.t,.I e.v]
theorem Li (l:List Ed) (ρ sn h m):(EO l).map (List.map (conv ρ sn h (m+1)))=EO l:=by simp[AC]
theorem dG (V:List Ac) (lv:Int) (i:Nat) (h:i<V.length):CX (V.take (i+1)) lv=CX (V.take i) lv++if lv<=V[i].lv then [Yq V[i]] else []:=by
 unfold CX;rw[Qp h,Uz,QN]
 congr 1
 by_cases hk:lv<=V[i].lv
 .rw [if_pos hk];simp[hk]
 .rw [if_neg hk];simp[hk]
theorem Le.g3 {st st':St} {X:List (List AV)} {G:AV} {n:Nat} (i k:Nat) (sn:List Nat) (h0:st'.sz=st.sz) (hh:st'.h=[(16,some ⟨3,[Bo 0 .nilS .nilS],0⟩),(k,some ⟨3,[Bo 64 (.rs 24 0 n) G],0⟩),(24,some ⟨3,X,0⟩)]) (hk:24<k/\k<st'.n/\i≠16/\i≠k) (hs:∀ j∈sn,j∉[16,k,i]) (hX:∀ ρ sn h m,X.map (List.map (conv ρ sn h (m+1)))=X) (hG:∀ ρ sn h m,conv ρ sn h (m+1) G=G) (h1:st.hp 16=some ⟨3,[Bo 0 .nilS .nilS],0⟩) (h2:st.hp k=some ⟨3,[Bo 64 (.rs i 0 n) G],0⟩) (h3:st.hp i=some ⟨3,X,0⟩) (ht:∀ p∈st'.t,Wk (conv [(16,16),(k,k),(i,24)] sn st.hp 4 (st.get p.1)) p.2):Le 0 st st':=by
 refine Le.ents [(16,16),(k,k),(i,24)] sn h0 zw zw zw (λ j hj=>⟨Qk _,by simpa using hs j hj⟩) zy ht λ p hp=>?_
 rw[hh] at hp;simp only[Qu,QT,or_false] at hp;have h4:¬ (16=i):=λ h=>hk.2.2.1 h.symm;have q:¬ (k=i):=λ h=>hk.2.2.2 h.symm;have u:¬ (16=k):=zy
 rcases hp with rfl | rfl | rfl
 .exact ⟨16,_,_,rfl,zz,h1,A7.eq zz zz⟩
 .exact ⟨k,_,_,rfl,zz,h2,A7.eq (by simp[hG,h4,q,u]) zz⟩
 .exact ⟨i,_,_,rfl,zz,h3,A7.eq (by simp only[AX,hX]) zz⟩
theorem Wc (l:List AL) (t lv:Int) (hl:l.length<=100000) (hn:HP l) (hz:(CU l t).Pairwise (· < ·)):AF 10 [Af l,.I t,.I lv] [] (.tup [eG (I3 l t lv).1,.I (I3 l t lv).2]) []:=by
 have hc:=oM l t hl hn hz;have hd:=Y4 l t hl hz;have hq:=qX l t;have h8:I3 l t lv=if 1<=lv/\lv<=3 then (if (CX (CW l t) lv).length<=500 then (⟨64,CX (CW l t) lv,CU l t⟩,0) else (J0,3)) else (J0,2):=rfl
 rw[h8];generalize CW l t=V at *;generalize CU l t=G at *;refine sX.s.ac ?_;show AY _ 0 _ _ ⟨50,[(0,Af l),(1,.I t),(2,.I lv)],[],16⟩;refine arc ⟨50,[(0,Af l),(1,.I t),(2,.I lv),(6,.pt 16 0 0)],[(16,some ⟨3,[Bo 0 .nilS .nilS],0⟩)],32⟩ ?_ ?_
 .simp
  exact Le.keep rfl zz zz zz
 refine AB (arc ⟨50,[(0,Af l),(1,.I t),(2,.I lv),(6,.pt 16 0 0),(13,.B (decide (¬ (1<=lv/\lv<=3))))],[(16,some ⟨3,[Bo 0 .nilS .nilS],0⟩)],56⟩ ?_ ?_)
 .simp
  refine Au (Dw lv 1 3) ?_;simp;exact Le.keep rfl zz (by simp<;>rw[Qg]<;>simp<;>omega) zz
 refine AE _ rfl (λ h3=>?_) λ h3=>AG ?_
 .have h4:¬ (1<=lv/\lv<=3):=of_decide_eq_true h3
  rw[if_neg h4];refine Bv ⟨50,[(6,.pv (Bo 0 .nilS .nilS)),(7,.I 2)],[],200⟩ rfl ?_ (Am ⟨.inr rfl,AO.out [] [] rfl zz zz (by simp;exact D5 KT (.refl _)) zz⟩)
  simp[Ae];exact AZ [16] zz
 have h4:1<=lv/\lv<=3:=by simpa using h3
 rw[if_pos h4];have he:List.take G.length (Cn G)=Cn G:=Qd zz
 have hf:List.take V.length (AS V)=AS V:=Qd zz
 have h9:=Ck V;have ha:=Ld G;have hr:AA G = .vs 1 false (Cn G):=rfl;have h0:∀ (ρ:List (Nat × Nat)) (sn:List Nat) (h:Nat->Option AD) (m:Nat),conv ρ sn h (m+1) (AA G)=AA G:=λ _ _ _ _=>rfl
 refine arc ⟨50,[(0,Af l),(1,.I t),(2,.I lv),(6,.pt 16 0 0),(8,.pt 88 0 0)],[(16,some ⟨3,[Bo 0 .nilS .nilS],0⟩),(88,some ⟨3,[Bo 64 .nilS (AA G)],0⟩)],110⟩ ?_ ?_
 .simp
  refine C3 hd ?_;simp[ha,Ae];exact AN [(16,16),(88,88)] [72] zz (by simp[he,ha])
 refine EL (ι:=Nat) (λ k=>⟨50,[(6,.pt 16 0 0),(8,.pt 88 0 0)],[(16,some ⟨3,[Bo 0 .nilS .nilS],0⟩),(88,some ⟨3,[Bo 64 (.rs 24 0 (CX V lv).length) (AA G)],0⟩),(24,some ⟨3,EO (CX V lv),0⟩)],600⟩) (λ _=>True) ?_ λ _ _=>?_
 .refine arc ⟨50,[(2,.I lv),(6,.pt 16 0 0),(8,.pt 88 0 0),(21,BB V),(22,.I V.length),(23,.I (0:Nat))],[(16,some ⟨3,[Bo 0 .nilS .nilS],0⟩),(88,some ⟨3,[Bo 64 .nilS (AA G)],0⟩)],150⟩ ?_ ?_
  .simp
   refine C3 hc ?_;simp[h9];exact AN [(16,16),(88,88)] [126] (by simp[h9];exact Eh (congrArg _ hf)) (by simp[h0])
  refine AI (An (ι:=Nat) (λ i=>⟨50,[(2,.I lv),(6,.pt 16 0 0),(8,.pt 88 0 0),(21,BB V),(22,.I V.length),(23,.I i)],[(16,some ⟨3,[Bo 0 .nilS .nilS],0⟩),(88,some ⟨3,[Bo 64 (.rs 24 0 (CX (V.take i) lv).length) (AA G)],0⟩),(24,some ⟨3,EO (CX (V.take i) lv),0⟩)],160⟩) (λ i=>i<=V.length) (λ i=>V.length - i) 0 (Qk _) ?_ ?_)
  .refine Le.lst [(16,16),(88,88)] [] [(24,3)] rfl zz zz zz zz zz zz zz (by simp[Up]) λ p hp e' h2=>?_
   simp only[Qu,QT,or_false] at hp;rcases hp with rfl | rfl | rfl
   .cases h2
    exact .inl ⟨(16,16),zz,rfl,_,rfl,A7.eq zz zz⟩
   .cases h2
    exact .inl ⟨(88,88),zz,rfl,_,rfl,A7.row (r:=Bo 64 .nilS (AA G)) zz (Qk _) (by simp[E8,Up,CX])⟩
   .cases h2
    exact .inr ⟨zz,by simp[CX],rfl⟩
  intro i hi;have hh:=dG V lv i;have hj:(CX (V.take i) lv).length<=i:=QR (aQ _ _) (by rw[QC];omega)
  have q:=Li (CX (V.take i) lv);have u:(EO (CX (V.take i) lv)).length=(CX (V.take i) lv).length:=Qs ..;obtain⟨X,hX⟩:=AJ (EO (CX (V.take i) lv));obtain⟨n,hn⟩:=AJ ((CX (V.take i) lv).length);rw[<- hX] at q u ⊢;rw[<- hn] at u hj ⊢;refine rk (s:=?s5) [2,6,8,21,22,23,24] [16,88,24] rfl ?o5 ?q5
  case o5=>simp;rfl
  refine AB (AE _ rfl (λ h=>AG ?_) λ h=>Ak (Al ?_))
  .simp only[Qa,U4] at h
   have hg:V[i]? = some V[i]:=Qc h;have hs:=hh h;obtain⟨v,hv⟩:=AJ (V[i]);rw[<- hv] at hg hs;have hk:=SZ h zy
   refine Bm ⟨50,[(2,.I lv),(6,.pt 16 0 0),(8,.pt 88 0 0),(21,BB V),(22,.I V.length),(23,.I i)],[(16,some ⟨3,[Bo 0 .nilS .nilS],0⟩),(88,some ⟨3,[Bo 64 (.rs 24 0 (CX (V.take (i+1)) lv).length) (AA G)],0⟩),(24,some ⟨3,EO (CX (V.take (i+1)) lv),0⟩)],500⟩ ?_ ?_
   .refine AI (arc ⟨50,[(2,.I lv),(6,.pt 16 0 0),(8,.pt 88 0 0),(10,.pv (vC v)),(21,BB V),(22,.I V.length),(23,.I i)],[(16,some ⟨3,[Bo 0 .nilS .nilS],0⟩),(88,some ⟨3,[Bo 64 (.rs 24 0 n) (AA G)],0⟩),(24,some ⟨3,X,0⟩)],210⟩ ?_ ?_)
    .simp [hg,Ae]
     exact AN [(16,16),(88,88),(24,24)] [184] zz (by simp[q,h0])
    refine arc ⟨50,[(2,.I lv),(6,.pt 16 0 0),(8,.pt 88 0 0),(10,.pv (vC v)),(21,BB V),(22,.I V.length),(23,.I i),(30,.B (decide (lv<=v.lv)))],[(16,some ⟨3,[Bo 0 .nilS .nilS],0⟩),(88,some ⟨3,[Bo 64 (.rs 24 0 n) (AA G)],0⟩),(24,some ⟨3,X,0⟩)],250⟩ ?_ ?_
    .simp
     exact Le.keep rfl zz zz zz
    refine AE _ rfl (λ h5=>?_) λ h5=>AG ?_
    .simp only[Qa] at h5
     rw[if_pos h5] at hs;have hb:EO (CX (V.take (i+1)) lv)=X++[[.I v.fr,.I v.to,.I v.lv]]:=by rw[hs,EO,QN,<- EO,<- hX];rfl
     have hm:(CX (V.take (i+1)) lv).length=n+1:=by rw[hs,Qe,<- hn];rfl
     have h1:=Li (CX (V.take (i+1)) lv);rw[hb] at h1;have h7:List.take n X=X:=Qd zy
     rw[hb,hm];refine Ab rfl ?_;simp[u,h7,Ae];exact⟨zy,zy,AN [(16,16),(88,88),(330,24)] [] zz (by simp[q,h0])⟩
    .simp only[Qb] at h5
     rw[if_neg h5,QU] at hs;exact Le.keep rfl zz zz (by simp[hs,hX,hn])
   have h1:=Li (CX (V.take (i+1)) lv);refine Ab rfl ?_;simp[hk];exact⟨i+1,zy,zy,AN [(16,16),(88,88),(24,24)] [] zz (by simp[h0,AC])⟩
  .simp only[Qb,U4] at h
   obtain rfl:i=V.length:=zy
   rw[Ua] at hX hn;exact⟨0,trivial,Le.keep rfl zz zz (by simp[hX,hn])⟩
 have q:=Li (CX V lv);have u:(EO (CX V lv)).length=(CX V lv).length:=Qs ..;have ho:BE (CX V lv) = .vs 3 false (EO (CX V lv)):=rfl;obtain⟨E,hE⟩:=AJ (CX V lv);rw[<- hE] at q u ho ⊢;have h7:List.take E.length (EO E)=EO E:=Qd zy
 refine AB (arc ⟨50,[(6,.pt 16 0 0),(8,.pt 88 0 0),(47,.B (decide (500<E.length)))],[(16,some ⟨3,[Bo 0 .nilS .nilS],0⟩),(88,some ⟨3,[Bo 64 (.rs 24 0 E.length) (AA G)],0⟩),(24,some ⟨3,EO E,0⟩)],700⟩ ?_ ?_)
 .generalize EO E=X at *
  simp;exact Le.keep rfl zz zw zz
 refine AE _ rfl (λ h6=>?_) λ h6=>AG ?_
 .simp only[Qa] at h6
  rw[if_neg zy]
  refine Bv ⟨50,[(6,.pv (Bo 0 .nilS .nilS)),(7,.I 3)],[],900⟩ rfl ?_ (Am ⟨.inr rfl,AO.out [] [] rfl zz zz (by simp;exact D5 KT (.refl _)) zz⟩)
  generalize EO E=X at *;simp[Ae];exact AZ [16] zz
 .simp only[Qb] at h6
  rw[if_pos zy]
  refine Bv ⟨50,[(6,.pv (gC ⟨64,E,G⟩)),(7,.I 0)],[],900⟩ rfl ?_ (Am ⟨.inr rfl,AO.out [] [] rfl zz zz zz zz⟩)
  rw[show gC ⟨64,E,G⟩=[.I 64,.vs 3 false (EO E),AA G] from rfl]
  generalize EO E=X at *;simp[Ae];exact AZ [16,24] (by simp[u,q,h7,h0])
def Jp (s:AL):Prop:=s.ki=1->(0<=s.au/\s.au<9)/\0<=s.a/\s.a<9
variable {l:List AL} {t lv:Int}
theorem K8 (hv:∀ s∈l,Jp s):∀ e∈CX (CW l t) lv,(0<=e.f/\e.f<9)/\0<=e.t/\e.t<9:=λ e he=>by
 obtain⟨v,q,rfl⟩:=Ql.1 he;obtain⟨_,s,u,h0,rfl⟩:=WB (QF.1 q).1;exact hv s u h0
theorem Xm (l:List AL) (t lv:Int):(CX (CW l t) lv).Pairwise B9:=by
 unfold CX;rw[UM];exact((jV l t).sublist List.filter_sublist).imp λ {a b} h=>h
theorem PL (hv:∀ s∈l,Jp s):(CX (CW l t) lv).length<=81:=by
 have hn:((CX (CW l t) lv).map λ e=>e.f*9+e.t).Nodup:=by
  rw[List.Nodup,UM];refine(Xm l t lv).imp_of_mem λ {a b} ha hb q=>?_;have h1:=K8 hv a ha;have h2:=K8 hv b hb;unfold B9 at q;omega
 have:=HY (b:=(List.range 81).map λ i:Nat=>(i:Int)) hn λ x hx=>by
  obtain⟨e,he,rfl⟩:=Ql.1 hx;have h1:=K8 hv e he;exact Ql.2 ⟨(e.f*9+e.t).toNat,Q1.2 zy,zy⟩
 simpa using this
theorem pG (h:DJ l) (hs:∀ s∈l,Bz s) (hv:∀ s∈l,Jp s) (t lv:Int) (h1:1<=lv):AH (Hv l t lv):=by
 have q:(CX (CW l t) lv).length<=500:=QR (PL hv) zx
 have u:∀ e∈CX (CW l t) lv,CT (Hv l t lv) e/\1<=e.v/\e.v<=3:=λ e he=>by
  obtain⟨v,hv,rfl⟩:=Ql.1 he;have hb:=QF.1 hv;obtain⟨⟨_,_,_,h5,h6⟩,s,h7,hc,rfl⟩:=WB hb.1;have hd:=(hs s h7).2.2.2.1.2.2.2.2.2.1 hc;have h8:=(hs s h7).1;obtain⟨⟨q1,q2⟩,q3,q4,q5,q6,q7⟩:=hd;simp only[Fj] at h5 h6;exact⟨⟨h8.1,by show s.au<=64 - 1;have:=h8.2;omega,q1,by show s.a<=64 - 1;omega,λ e=>q3 e.symm,h5,h6⟩,q4,q5⟩
 refine⟨⟨by show (0:Int)<=64;decide,by show (64:Int)<=64;decide,q,?_⟩,λ i hi=>?_⟩
 .have h9:=h.asc t
  have ha:∀ x∈CU l t,0<=x/\x<=63:=λ x hx=>by
   unfold CU at hx;obtain⟨s,hf,rfl⟩:=Ql.1 hx;have:=h.rng s (QF.1 hf).1;omega
  show CJ (CU l t) 0 (64 - 1);generalize CU l t=G at *;intro i hi;have h2:=ha _ (Qi hi);exact⟨h2.1,zy,λ h0=>QK.1 h9 (i - 1) i zy hi zy⟩
 .have hi':i<(CX (CW l t) lv).length:=hi
  obtain⟨h2,h3,h4⟩:=u _ (Qi hi');refine⟨h2,h3,h4,λ h0=>?_⟩;rw[IB];exact QK.1 (Xm l t lv) (i - 1) i zy hi' zy
theorem rB (hv:∀ s∈l,Jp s) (h1:1<=lv) (h3:lv<=3):I3 l t lv=(Hv l t lv,0):=by
 unfold I3;rw[if_pos ⟨h1,h3⟩,if_pos (QR (PL hv) zx)]
theorem aX {g:Gr} {S:List Int} (hg:AH g) (he:∀ e∈g.edges,e.t<9) (hS:∀ x∈S,x<9):∀ x∈Ag g S,0<=x/\x<9:=λ x hx=>by
 obtain⟨hk,hd⟩:=(LX hg).1 hx;refine⟨hk.1,?_⟩;obtain⟨n,hn⟩:∃ n:Nat,A4 g S x=n:=⟨(A4 g S x).toNat,zy⟩
 cases n with
 | zero =>
   have h1:=(eZ hg).1 hn;unfold Gm at h1;simp only[QH,List.contains_iff_mem] at h1;exact hS x h1.1
 | succ n =>
   obtain⟨e,q,rfl,_⟩:=tU hg (n:=n) (by rw[hn];rfl)
   exact he e q
theorem gU {g:Gr} {S:List Int} (h:∀ x∈Ag g S,0<=x/\x<9):(Ag g S).length<=9:=by
 have:=HY (a:=Ag g S) (b:=(List.range 9).map λ i:Nat=>(i:Int)) (Gl g S) λ x hx=>by
  have h1:=h x hx;exact Ql.2 ⟨x.toNat,Q1.2 zy,zy⟩
 simpa using this
variable {g:Gr}
structure OL where
 i:Nat
 g:Gr
 acc:List Int
 f:List Int
 R:List (Int × List Int)
def PD (p:A9) (g0:Gr) (aA f0:List Int) (R0:List (Int × List Int)) (n:Nat) (g:Gr) (acc f:List Int) (R:List (Int × List Int)):Prop :=
 (n=0/\g=g0/\acc=aA/\f=f0/\R=R0)∨(0<n/\acc=BK g p/\R=CQ g p/\FS g p (Az (BK g p)) f)
structure FQ (p:A9) (g0:Gr) (aA f0:List Int) (R0:List (Int × List Int)) (l:List Bd) (s:OL):Prop where
 le:s.i<=l.length
 ok:AH s.g
 pol:CI s.g.size p
 sz:∀ e∈s.g.edges,e.t<9
 on:PD p g0 aA f0 R0 s.i s.g s.acc s.f s.R
 run:BO g0 l=((BO s.g (l.drop s.i)).1,(BO s.g (l.drop s.i)).2.1+s.i,(BO s.g (l.drop s.i)).2.2)
variable {p:A9} {g0:Gr} {aA f0:List Int} {R0:List (Int × List Int)} {l:List Bd} {s:OL}
theorem Ms (hg:AH g) (he:∀ e∈g.edges,e.t<9) (hS:∀ x∈p.seeds,x<9):(Ag (Ao g p.lv) p.seeds).length<20:=by
 have:=gU (aX (hg.level p.lv) (λ e h=>he e (QF.1 h).1) hS);omega
theorem Rg {f:List Int} (hg:AH g) (hp:CI g.size p) (he:∀ e∈g.edges,e.t<9) (hS:∀ x∈p.seeds,x<9) (hf:FS g p (Az (BK g p)) f) :
  AF 21 [eG g,eP p,Cj (BK g p) f (CQ g p)] [] (.I 0) []:=by
 have hT:=Me hg hp hf;have hs:=RA hg hp;have h64:=hg.1.2.1;have h1:=qD g p (BK g p) f (CQ g p) hg hp zy (.inr (Ms hg he hS)) hT.a hT.r (by have:=hT.f;omega) (λ r hr=>by have:=hT.d r hr;omega)
 rw[show JA g p (BK g p) f (CQ g p)=0 from Zf hg hp zy hf] at h1
 exact h1
theorem Vh {st:Bd} (hg:∀ e∈g.edges,e.t<9) (hs:st.e.t<9) (h:(BI g st).2=0):∀ e∈(BI g st).1.edges,e.t<9:=by
 unfold BI at h ⊢
 by_cases q:st.gone=true
 .rw [if_pos q] at h ⊢
  unfold Ey at h ⊢;split at h
  .cases h
  .split at h
   .cases h
   .rename_i h1 h2
    rw[if_neg h1,if_neg h2];intro e he;simp only[F2] at he;rcases Qm.1 he with he | he
    .exact hg e (QM he)
    .exact hg e (Uw he)
 .rw [if_neg q] at h ⊢
  rw[(MR h).2.2.2.2.2.1];intro e he;rcases(WF g st.e e).1 he with rfl | he
  .exact hs
  .exact hg e he
theorem FQ.start (hg:AH g0) (hp:CI g0.size p) (hN:∀ e∈g0.edges,e.t<9):FQ p g0 aA f0 R0 l ⟨0,g0,aA,f0,R0⟩ :=
 ⟨Qk _,hg,hp,hN,.inl ⟨rfl,rfl,rfl,rfl,rfl⟩,zz⟩
theorem FQ.len (h:FQ p g0 aA f0 R0 l s) (hT:HX g0 p aA f0 R0):HX s.g p s.acc s.f s.R:=by
 rcases h.on with ⟨_,h1,h2,h3,h4⟩ | ⟨_,h1,h2,h3⟩
 .rw [h1,h2,h3,h4];exact hT
 .rw [h1,h2];exact Me h.ok h.pol h3
theorem FQ.chk (h:FQ p g0 aA f0 R0 l s) (hS:∀ x∈p.seeds,x<9) (hc:AF 21 [eG g0,eP p,Cj aA f0 R0] [] (.I 0) []):AF 21 [eG s.g,eP p,Cj s.acc s.f s.R] [] (.I 0) []:=by
 rcases h.on with ⟨_,h1,h2,h3,h4⟩ | ⟨_,h1,h2,h3⟩
 .rw [h1,h2,h3,h4];exact hc
 .rw [h1,h2];exact Rg h.ok h.pol h.sz hS h3
theorem FQ.next (h:FQ p g0 aA f0 R0 l s) (q:∀ st∈l,st.e.t<9) (hi:s.i<l.length) (hs:(BI s.g l[s.i]).2=0) {f':List Int} (hf:FS (BI s.g l[s.i]).1 p (Az (BK (BI s.g l[s.i]).1 p)) f') :
  FQ p g0 aA f0 R0 l ⟨s.i+1,(BI s.g l[s.i]).1,BK (BI s.g l[s.i]).1 p,f',CQ (BI s.g l[s.i]).1 p⟩:=by
 obtain⟨k1,k2,k3,k4⟩:=MN h.ok hs;refine⟨hi,k1,by simp only;rw[k2];exact h.pol,Vh h.sz (q _ (Qi hi)) hs,.inr ⟨Nat.succ_pos _,rfl,rfl,hf⟩,?_⟩
 have h1:=h.run;rw[QO hi,Nh hs] at h1;rw[h1];simp only;refine Prod.ext rfl (Prod.ext ?_ rfl);simp only;omega
theorem FQ.stop (h:FQ p g0 aA f0 R0 l s) (hi:s.i<l.length) (hs:(BI s.g l[s.i]).2≠0):BO g0 l=(s.g,s.i,(BI s.g l[s.i]).2):=by
 have h1:=h.run;rw[QO hi,fY hs] at h1;rw[h1];simp
theorem FQ.done (h:FQ p g0 aA f0 R0 l s) (hi:s.i=l.length):BO g0 l=(s.g,l.length,0):=by
 have h1:=h.run;rw[hi,List.drop_length] at h1;rw[h1];simp[BO]
theorem jT (hc:AF 21 [eG g0,eP p,Cj aA f0 R0] [] (.I 0) []) (hg:AH g0) (hp:CI g0.size p) (hN:∀ e∈g0.edges,e.t<9) (hT:HX g0 p aA f0 R0) (hl:l.length<=1000) (hS:∀ x∈p.seeds,x<9) (h1:∀ st∈l,st.e.t<9) :
  ∃ x:List Int × List Int × List (Int × List Int),PD p g0 aA f0 R0 (BO g0 l).2.1 (BO g0 l).1 x.1 x.2.1 x.2.2/\AF 16 [eT g0 p aA f0 R0,CN l] [] (.tup [eT (BO g0 l).1 p x.1 x.2.1 x.2.2,.I (BO g0 l).2.1,.I (BO g0 l).2.2]) []:=by
 obtain⟨⟨gF,n,e⟩,q⟩:∃ rr,rr=BO g0 l:=⟨_,rfl⟩;rw[<- q];refine nJ.s.acallsX (args:=[eT g0 p aA f0 R0,CN l]) (hs:=[]) (λ x=>.tup [eT gF p x.1 x.2.1 x.2.2,.I n,.I e]) (λ _=>[]) (λ x:List Int × List Int × List (Int × List Int)=>PD p g0 aA f0 R0 n gF x.1 x.2.1 x.2.2) (Ar rfl) (Ar rfl) (λ _=>Qk _) ?_;show AY _ 0 _ _ ⟨38,[(0,eT g0 p aA f0 R0),(1,CN l)],[],16⟩;refine BM ⟨38,[(1,CN l),(2,.pt 16 0 0),(4,.pt 24 0 0)],[(16,some ⟨9,[tC g0 p aA f0 R0],0⟩),(24,some ⟨9,[[.I 0,.nilS,.nilS,.nilS,.nilS,.I 0,.nilS,.nilS,.nilS]],0⟩)],100⟩ [(16,16),(24,24)] [] ?_;refine AB (BM ⟨38,[(1,CN l),(2,.pt 16 0 0),(4,.pt 24 0 0),(13,CN l),(14,.I l.length),(15,.I 0)],[(16,some ⟨9,[tC g0 p aA f0 R0],0⟩),(24,some ⟨9,[[.I 0,.nilS,.nilS,.nilS,.nilS,.I 0,.nilS,.nilS,.nilS]],0⟩)],200⟩ [(16,16),(24,24)] [] ?_);refine AI (An (ι:=OL) (λ s=>⟨38,[(1,CN l),(2,.pt 16 0 0),(4,.pt 24 0 0),(13,CN l),(14,.I l.length),(15,.I s.i)],[(16,some ⟨9,[tC s.g p s.acc s.f s.R],0⟩),(24,some ⟨9,[[.I 0,.nilS,.nilS,.nilS,.nilS,.I 0,.nilS,.nilS,.nilS]],0⟩)],300⟩) (FQ p g0 aA f0 R0 l) (λ s=>l.length - s.i) ⟨0,g0,aA,f0,R0⟩ (FQ.start hg hp hN) (CK [(16,16),(24,24)] []) ?_);intro s hI;have hi:=hI.le;have u:=hI.len hT;have h2:=hI.chk hS hc;refine BM ⟨38,[(1,CN l),(2,.pt 16 0 0),(4,.pt 24 0 0),(13,CN l),(14,.I l.length),(15,.I s.i),(16,.B (decide (s.i<l.length)))],[(16,some ⟨9,[tC s.g p s.acc s.f s.R],0⟩),(24,some ⟨9,[[.I 0,.nilS,.nilS,.nilS,.nilS,.I 0,.nilS,.nilS,.nilS]],0⟩)],400⟩ [(16,16),(24,24)] [] ?_;refine AB (AE _ rfl (λ h5=>?_) λ h5=>?_)
 .rw [Qa] at h5
  have h6:=w6 (x:=(s.i:Int)+1);refine AG (AB (AI (arc ⟨38,[(1,CN l),(2,.pt 16 0 0),(4,.pt 24 0 0),(7,.I s.i),(8,.pv (D0 l[s.i])),(13,CN l),(14,.I l.length),(15,.I s.i)],[(16,some ⟨9,[tC s.g p s.acc s.f s.R],0⟩),(24,some ⟨9,[[.I 0,.nilS,.nilS,.nilS,.nilS,.I 0,.nilS,.nilS,.nilS]],0⟩)],500⟩ ?_ ?_)))
  .simp [h5,Ae]
   exact CK [(16,16),(24,24)] [424]
  by_cases hs:(BI s.g l[s.i]).2=0
  .obtain ⟨f',h7,h0⟩:=Za h2 hI.ok hI.pol (.inr (Ms (MN hI.ok hs).1 (Vh hI.sz (h1 _ (Qi h5)) hs) hS)) u.a hs
   have h8:=hI.next h1 h5 hs h7
   generalize H2 (BK (BI s.g l[s.i]).1 p) s.acc=gi at *;generalize H2 s.acc (BK (BI s.g l[s.i]).1 p)=lo at *;generalize BK (BI s.g l[s.i]).1 p=acc' at *;generalize CQ (BI s.g l[s.i]).1 p=R' at *;generalize (BI s.g l[s.i]).1=g' at *;refine arc ⟨38,[(1,CN l),(2,.pt 16 0 0),(4,.pt 24 0 0),(9,.pv (tC g' p acc' f' R')),(12,.I 0),(13,CN l),(14,.I l.length),(15,.I s.i)],[(16,some ⟨9,[tC s.g p s.acc s.f s.R],0⟩),(24,some ⟨9,[[.I 0,.nilS,.nilS,.nilS,.nilS,.I 0,.nilS,.nilS,.nilS]],0⟩)],700⟩ ?_ ?_
   .simp
    refine Au h0 ?_;simp[Ae];exact CK [(16,16),(24,24)] [564]
   refine AB (BM ⟨38,[(1,CN l),(2,.pt 16 0 0),(4,.pt 24 0 0),(9,.pv (tC g' p acc' f' R')),(13,CN l),(14,.I l.length),(15,.I s.i),(29,.B false)],[(16,some ⟨9,[tC s.g p s.acc s.f s.R],0⟩),(24,some ⟨9,[[.I 0,.nilS,.nilS,.nilS,.nilS,.I 0,.nilS,.nilS,.nilS]],0⟩)],800⟩ [(16,16),(24,24)] [] ?_);refine AE _ rfl (λ h=>by cases h) λ _=>?_
   refine AG (Ab rfl ?_);simp[Ae];refine Ab rfl ?_;simp;exact⟨⟨s.i+1,g',acc',f',R'⟩,h8,by simp only;omega,AN [(16,16),(24,24)] [] (by simp[h6])⟩
  .have hst:=hI.stop h5 hs
   have h0:=pA h2 u.e u.o hs;rw[hst] at q;generalize (BI s.g l[s.i]).2=x at *
   cases q;have h9:(e != 0)=true:=by simp[hs]
   refine arc ⟨38,[(2,.pt 16 0 0),(4,.pt 24 0 0),(7,.I s.i),(12,.I e)],[(16,some ⟨9,[tC s.g p s.acc s.f s.R],0⟩),(24,some ⟨9,[[.I 0,.nilS,.nilS,.nilS,.nilS,.I 0,.nilS,.nilS,.nilS]],0⟩)],700⟩ ?_ ?_
   .simp
    refine Au h0 ?_;simp[Ae];exact CK [(16,16),(24,24)] []
   refine AB (arc ⟨38,[(2,.pt 16 0 0),(4,.pt 24 0 0),(7,.I s.i),(12,.I e),(29,.B true)],[(16,some ⟨9,[tC s.g p s.acc s.f s.R],0⟩),(24,some ⟨9,[[.I 0,.nilS,.nilS,.nilS,.nilS,.I 0,.nilS,.nilS,.nilS]],0⟩)],800⟩ ?_ ?_)
   .simp
    exact AN [(16,16),(24,24)] [] (by simp[h9])
   refine AE _ rfl (λ _=>?_) λ h=>by cases h
   refine arc ⟨38,[(4,.pt 24 0 0),(5,.I s.i),(6,.I e)],[(24,some ⟨9,[tC s.g p s.acc s.f s.R],0⟩)],900⟩ ?_ ?_
   .simp [Ae]
    exact CK [(24,24)] []
   exact Am (Bu.mk (.inr rfl) (s.acc,s.f,s.R) hI.on (AO.out [] [24] rfl zz zz zz zz))
 rw[Qb] at h5;have h3:s.i=l.length:=zy
 have ha:=hI.done h3;rw[ha] at q
 cases q;have h4:=hI.on;rw[h3] at h4;refine Ak (Al (arc ⟨38,[(4,.pt 24 0 0),(5,.I l.length),(6,.I 0)],[(24,some ⟨9,[tC s.g p s.acc s.f s.R],0⟩)],900⟩ ?_ ?_))
 .simp [Ae]
  exact CK [(24,24)] []
 exact Am (Bu.mk (.inr rfl) (s.acc,s.f,s.R) h4 (AO.out [] [24] rfl zz zz zz zz))
def Ei (e x:Ed):Bool:=(e.f == x.f) && ((e.t == x.t) && (e.v == x.v))
theorem Vs {e x:Ed}:Ei e x=true↔e=x:=by
 obtain⟨a,b,c⟩:=e;obtain⟨a',b',c'⟩:=x;simp[Ei]
def GN (l:List Ed) (e:Ed):Bool:=l.any (Ei e)
theorem XN {l:List Ed} {e:Ed}:GN l e=true↔e∈l:=by
 unfold GN;rw[UC];constructor
 .rintro ⟨x,hx,h⟩
  rw[Vs.1 h];exact hx
 .intro h
  exact⟨e,h,Vs.2 rfl⟩
theorem pQ (l:List Ed) (e:Ed) (hl:l.length<=1000000):AF 94 [BE l,eE e] [] (.I (CB l (Ei e))) []:=by
 refine zBE.ac ?_;show AY _ 0 _ _ ⟨19,[(0,BE l),(1,eE e)],[],16⟩;refine BM ⟨19,[(0,BE l),(3,.pv (eC e))],[],60⟩ [] [16] ?_;refine AB (BM ⟨19,[(0,BE l),(3,.pv (eC e)),(7,.I l.length),(8,.I 0)],[],80⟩ [] [] ?_);refine AI (An (ι:=Nat) (λ i=>⟨19,[(0,BE l),(3,.pv (eC e)),(7,.I l.length),(8,.I i)],[],100⟩) (λ i=>i<=l.length /\ ∀ k,k<i -> ∀ h:k<l.length,Ei e l[k]=false) (λ i=>l.length - i) 0 ⟨Qk _,λ k hk=>absurd hk zy⟩ (CK [] []) ?_)
 rintro i ⟨hi,hp⟩
 refine BM ⟨19,[(0,BE l),(3,.pv (eC e)),(7,.I l.length),(8,.I i),(9,.B (decide (i<l.length)))],[],120⟩ [] [] ?_;refine AB (AE _ rfl (λ h5=>?_) λ h5=>?_)
 .rw [Qa] at h5
  have q:=w6 (x:=(i:Int)+1);obtain⟨u,hu⟩:=AJ (Ei e l[i]);refine AG (AB (AI (BM ⟨19,[(0,BE l),(3,.pv (eC e)),(7,.I l.length),(8,.I i),(5,.I i)],[],140⟩ [] [] ?_)));refine Bi ⟨19,[(0,BE l),(3,.pv (eC e)),(7,.I l.length),(8,.I i),(5,.I i),(16,.B u)],[],200⟩ ?_ ?_
  .simp [h5]
   exact⟨rfl,AN [] [] (by simp[hu,Ei])⟩
  refine AE _ rfl (λ h6=>?_) λ h6=>?_
  .subst h6
   refine BM ⟨19,[(4,.I i)],[],240⟩ [] [] ?_;exact BR (AO.one (by simp[ME h5 hp hu.symm]))
  .subst h6
   refine AG (Ab rfl ?_);simp
   exact⟨i+1,⟨zy,λ k hk h=>by
    rcases Ub k i with h7 | h7
    .exact hp k h7 h
    .obtain rfl:k=i:=zy
     exact hu.symm⟩,zy,AN [] [] (by simp[q])⟩
 rw[Qb] at h5;obtain rfl:i=l.length:=zy
 refine Ak (Al (BM ⟨19,[(4,.I (-1))],[],240⟩ [] [] ?_));exact BR (AO.one (by simp[LV hp]))
theorem TP (l:List Ed) (e:Ed) (hl:l.length<=1000000):AF 41 [BE l,eE e] [] (.B (GN l e)) []:=by
 have q:=pQ l e hl
 have hb:decide ((0:Int)<=CB l (Ei e))=GN l e:=by
  rw[Qg,Qa];unfold CB GN;rw[UC];constructor
  .intro h
   split at h
   .rename_i h1
    exact⟨_,Qi h1,Vc⟩
   .omega
  .intro h
   rw[if_pos (List.findIdx_lt_length.2 h)];omega
 refine m7.s.ac ?_;show AY _ 0 _ _ ⟨9,[(0,BE l),(1,eE e)],[],16⟩;refine BM ⟨9,[(0,BE l),(3,.pv (eC e))],[],60⟩ [] [16] ?_;refine arc ⟨9,[(4,.B (GN l e))],[],140⟩ ?_ ?_
 .simp
  refine Au q ?_;simp;exact AN [] [] (by simp[<- hb])
 exact Bg
def CH (pre:List Bd) (go:Bool) (E F:List Ed) (i:Nat):List Bd:=pre++((E.take i).filter λ e=>!GN F e).map (⟨go,·⟩)
theorem Lc (q:List Bd) (go:Bool) (E F:List Ed):CH q go E F 0=q:=by simp[CH]
theorem Xx {q:List Bd} {go:Bool} {E F:List Ed} {i:Nat} (hi:i<E.length) (h:GN F E[i]=false):CH q go E F (i+1)=CH q go E F i++[⟨go,E[i]⟩]:=by
 unfold CH;rw[Qp hi,Uz];simp[h]
theorem TN {q:List Bd} {go:Bool} {E F:List Ed} {i:Nat} (hi:i<E.length) (h:GN F E[i]=true):CH q go E F (i+1)=CH q go E F i:=by
 unfold CH;rw[Qp hi,Uz];simp[h]
theorem Wd (q:List Bd) (go:Bool) (E F:List Ed) (i:Nat):(CH q go E F i).length<=q.length+E.length:=by
 unfold CH;simp only[Qe,Qs];have h1:=QV (λ e=>!GN F e) (E.take i);have h2:(E.take i).length<=E.length:=by rw[QC];omega
 omega
def Fi (a b:Gr):List Bd:=CH (CH [] true a.edges b.edges a.edges.length) false b.edges a.edges b.edges.length
theorem N3 (a b:Gr):Fi a b=Hu a b:=by
 unfold Fi CH Hu;rw[Ua,Ua,Uq]
 congr 2
 .refine List.filter_congr λ e _=>?_
  rw[Qg];simp[<- XN]
 .refine List.filter_congr λ e _=>?_
  rw[Qg];simp[<- XN]
theorem l8 (a b:Gr):(Fi a b).length<=a.edges.length+b.edges.length:=by rw[N3];exact g8 a b
section
variable {a b:Gr}
theorem Zd (ha:AH a) (hb:AH b) (hd:¬ (a.size=b.size/\a.gone=b.gone)):AF 14 [eG a,eG b] [] (.tup [CN [],.I 1]) []:=by
 have h2:=ha.edges_le;have h3:=ha.gone_le;have h0:=hb.edges_le;have h1:=hb.gone_le;have q:=Iy a zy zy
 rw[if_pos ha] at q;have u:=Iy b zy zy
 rw[if_pos hb] at u;have heq:=RB a.gone b.gone zy
 refine Wz.s.ac ?_;show AY _ 0 _ _ ⟨71,[(0,eG a),(1,eG b)],[],16⟩;refine BM ⟨71,[(2,.pv (gC a)),(3,.pv (gC b))],[],60⟩ [] [16,24] ?_;refine AB (AI (arc ⟨71,[(2,.pv (gC a)),(3,.pv (gC b)),(11,.B false)],[],160⟩ ?_ ?_))
 .simp
  refine Au q ?_;simp;refine Au u ?_;simp;exact CK [] []
 refine AE _ rfl (λ h=>by cases h) λ _=>?_
 refine arc ⟨71,[(2,.pv (gC a)),(3,.pv (gC b)),(20,.B true)],[],300⟩ ?_ ?_
 .by_cases hs:a.size=b.size
  .have hs':(a.size != b.size)=false:=by simp[hs]
   have hg:¬ a.gone=b.gone:=λ h=>hd ⟨hs,h⟩;rw[QJ hg] at heq;simp[hs'];refine Au heq ?_;simp;exact CK [] []
  .have hs':(a.size != b.size)=true:=by simp[hs]
   simp[hs'];exact AN [] [] (by simp[hs'])
 refine AE _ rfl (λ _=>?_) λ h=>by cases h
 refine BM ⟨71,[(4,.vs 4 false []),(5,.I 1)],[],360⟩ [] [] ?_;refine Am ?_;exact⟨.inr rfl,AO.out [] [] rfl zz zz (by simp<;>exact .refl _) zz⟩
theorem g9 (ha:AH a) (hb:AH b) (hs:a.size=b.size) (hg:a.gone=b.gone):AF 14 [eG a,eG b] [] (.tup [CN (Fi a b),.I 0]) []:=by
 have h9:=ha.edges_le;have hc:=ha.gone_le;have h7:=hb.edges_le;have h8:=hb.gone_le;have h1:=Iy a zy zy
 rw[if_pos ha] at h1;have h2:=Iy b zy zy
 rw[if_pos hb] at h2;have heq:=RB a.gone b.gone zy
 rw[QX hg] at heq;have hs':(a.size != b.size)=false:=by simp[hs]
 refine Wz.s.ac ?_;show AY _ 0 _ _ ⟨71,[(0,eG a),(1,eG b)],[],16⟩;refine BM ⟨71,[(2,.pv (gC a)),(3,.pv (gC b))],[],60⟩ [] [16,24] ?_;refine AB (AI (arc ⟨71,[(2,.pv (gC a)),(3,.pv (gC b)),(11,.B false)],[],160⟩ ?_ ?_))
 .simp
  refine Au h1 ?_;simp;refine Au h2 ?_;simp;exact CK [] []
 refine AE _ rfl (λ h=>by cases h) λ _=>?_
 refine arc ⟨71,[(2,.pv (gC a)),(3,.pv (gC b)),(20,.B false)],[],300⟩ ?_ ?_
 .simp [hs']
  refine Au heq ?_;simp;exact CK [] []
 refine AE _ rfl (λ h=>by cases h) λ _=>?_
 refine AG (BM ⟨71,[(2,.pv (gC a)),(3,.pv (gC b)),(6,.nilS)],[],360⟩ [] [] ?_);refine AB (BM ⟨71,[(2,.pv (gC a)),(3,.pv (gC b)),(6,.nilS),(35,BE a.edges),(36,.I a.edges.length),(37,.I 0)],[],400⟩ [] [] ?_);refine AI (An (ι:=Nat) (λ i=>⟨71,[(2,.pv (gC a)),(3,.pv (gC b)),(6,.rs 31 0 (CH [] true a.edges b.edges i).length),(35,BE a.edges),(36,.I a.edges.length),(37,.I i)],[(31,some ⟨4,(CH [] true a.edges b.edges i).map λ s=>D0 s,0⟩)],500⟩) (λ i=>i<=a.edges.length) (λ i=>a.edges.length - i) 0 (Qk _) (Le.lst [] [] [(31,4)] rfl zz zz zz zz zz zz zz (by simp[Up,Lc]) (by simp[Lc])) ?_)
 intro i hi;obtain⟨O,hO⟩:=AJ (CH [] true a.edges b.edges i);have hd:O.length<=500:=by rw[hO];have:=Wd [] true a.edges b.edges i;simp only[UN] at this;omega
 have h6:∀ h:Bd->List AV,List.take O.length (List.map h O)=List.map h O:=λ h=>Qd zz
 rw[<- hO];refine BM ⟨71,[(2,.pv (gC a)),(3,.pv (gC b)),(6,.rs 31 0 O.length),(35,BE a.edges),(36,.I a.edges.length),(37,.I i),(38,.B (decide (i<a.edges.length)))],[(31,some ⟨4,O.map λ s=>D0 s,0⟩)],600⟩ [(31,31)] [] ?_;refine AB (AE _ rfl (λ h5=>?_) λ h5=>?_)
 .rw [Qa] at h5
  have h0:=w6 (x:=(i:Int)+1);have q:=TP b.edges a.edges[i] zy
  obtain⟨e,he⟩:=AJ (a.edges[i]);rw[<- he] at q;refine AG (AB (AI (arc ⟨71,[(2,.pv (gC a)),(3,.pv (gC b)),(6,.rs 31 0 O.length),(8,.pv (eC e)),(35,BE a.edges),(36,.I a.edges.length),(37,.I i)],[(31,some ⟨4,O.map λ s=>D0 s,0⟩)],700⟩ ?_ ?_)))
  .simp [h5,<- he,Ae]
   exact DU [(31,31)] [616]
  cases hh:GN b.edges e
  .have u:CH [] true a.edges b.edges (i+1)=O++[⟨true,e⟩]:=by rw[hO,he];exact Xx h5 (by rw[<- he];exact hh)
   rw[hh] at q;refine arc ⟨71,[(2,.pv (gC a)),(3,.pv (gC b)),(6,.rs 31 0 O.length),(8,.pv (eC e)),(35,BE a.edges),(36,.I a.edges.length),(37,.I i),(45,.B true)],[(31,some ⟨4,O.map λ s=>D0 s,0⟩)],800⟩ ?_ ?_
   .simp
    refine Au q ?_;simp;exact DU [(31,31)] []
   refine AE _ rfl (λ _=>?_) λ h=>by cases h
   refine Ab rfl ?_;simp[h6];refine⟨zy,zy,?_⟩
   refine Ab rfl ?_;simp;exact⟨i+1,zy,zy,AN [(832,31)] [] (by simp[h0,u]) (by simp[AC,u])⟩
  .have u:CH [] true a.edges b.edges (i+1)=O:=by rw[hO];exact TN h5 (by rw[<- he];exact hh)
   rw[hh] at q;refine arc ⟨71,[(2,.pv (gC a)),(3,.pv (gC b)),(6,.rs 31 0 O.length),(35,BE a.edges),(36,.I a.edges.length),(37,.I i),(45,.B false)],[(31,some ⟨4,O.map λ s=>D0 s,0⟩)],800⟩ ?_ ?_
   .simp
    refine Au q ?_;simp;exact DU [(31,31)] []
   refine AE _ rfl (λ h=>by cases h) λ _=>?_
   refine AG (Ab rfl ?_);simp;exact⟨i+1,zy,zy,AN [(31,31)] [] (by simp[h0,u]) (by simp[AC,u])⟩
 rw[Qb] at h5;obtain rfl:i=a.edges.length:=zy
 clear hi h5
 refine Ak (Al (AB (BM ⟨71,[(2,.pv (gC a)),(6,.rs 31 0 O.length),(53,BE b.edges),(54,.I b.edges.length),(55,.I 0)],[(31,some ⟨4,O.map λ s=>D0 s,0⟩)],900⟩ [(31,31)] [] ?_)));refine AI (An (ι:=Nat) (λ i=>⟨71,[(2,.pv (gC a)),(6,.rs 31 0 (CH O false b.edges a.edges i).length),(53,BE b.edges),(54,.I b.edges.length),(55,.I i)],[(31,some ⟨4,(CH O false b.edges a.edges i).map λ s=>D0 s,0⟩)],1000⟩) (λ i=>i<=b.edges.length) (λ i=>b.edges.length - i) 0 (Qk _) (AN [(31,31)] [] (by simp[Lc]) (by simp[Lc,AC])) ?_)
 intro i hi;obtain⟨Q,hQ⟩:=AJ (CH O false b.edges a.edges i);have hf:Q.length<=1000:=by rw[hQ];have:=Wd O false b.edges a.edges i;omega
 have h3:∀ h:Bd->List AV,List.take Q.length (List.map h Q)=List.map h Q:=λ h=>Qd zz
 rw[<- hQ];refine BM ⟨71,[(2,.pv (gC a)),(6,.rs 31 0 Q.length),(53,BE b.edges),(54,.I b.edges.length),(55,.I i),(56,.B (decide (i<b.edges.length)))],[(31,some ⟨4,Q.map λ s=>D0 s,0⟩)],1100⟩ [(31,31)] [] ?_;refine AB (AE _ rfl (λ h5=>?_) λ h5=>?_)
 .rw [Qa] at h5
  have h0:=w6 (x:=(i:Int)+1);have q:=TP a.edges b.edges[i] zy
  obtain⟨e,he⟩:=AJ (b.edges[i]);rw[<- he] at q;refine AG (AB (AI (arc ⟨71,[(2,.pv (gC a)),(6,.rs 31 0 Q.length),(10,.pv (eC e)),(53,BE b.edges),(54,.I b.edges.length),(55,.I i)],[(31,some ⟨4,Q.map λ s=>D0 s,0⟩)],1200⟩ ?_ ?_)))
  .simp [h5,<- he,Ae]
   exact DU [(31,31)] [1116]
  cases hh:GN a.edges e
  .have u:CH O false b.edges a.edges (i+1)=Q++[⟨false,e⟩]:=by rw[hQ,he];exact Xx h5 (by rw[<- he];exact hh)
   rw[hh] at q;refine arc ⟨71,[(2,.pv (gC a)),(6,.rs 31 0 Q.length),(10,.pv (eC e)),(53,BE b.edges),(54,.I b.edges.length),(55,.I i),(63,.B true)],[(31,some ⟨4,Q.map λ s=>D0 s,0⟩)],1300⟩ ?_ ?_
   .simp
    refine Au q ?_;simp;exact DU [(31,31)] []
   refine AE _ rfl (λ _=>?_) λ h=>by cases h
   refine Ab rfl ?_;simp[h3];refine⟨zy,zy,?_⟩
   refine Ab rfl ?_;simp;exact⟨i+1,zy,zy,AN [(1332,31)] [] (by simp[h0,u]) (by simp[AC,u])⟩
  .have u:CH O false b.edges a.edges (i+1)=Q:=by rw[hQ];exact TN h5 (by rw[<- he];exact hh)
   rw[hh] at q;refine arc ⟨71,[(2,.pv (gC a)),(6,.rs 31 0 Q.length),(53,BE b.edges),(54,.I b.edges.length),(55,.I i),(63,.B false)],[(31,some ⟨4,Q.map λ s=>D0 s,0⟩)],1300⟩ ?_ ?_
   .simp
    refine Au q ?_;simp;exact DU [(31,31)] []
   refine AE _ rfl (λ h=>by cases h) λ _=>?_
   refine AG (Ab rfl ?_);simp;exact⟨i+1,zy,zy,AN [(31,31)] [] (by simp[h0,u]) (by simp[AC,u])⟩
 rw[Qb] at h5;obtain rfl:i=b.edges.length:=zy
 have h4:Q=Fi a b:=by rw[hQ,hO];rfl
 refine Ak (Al (arc ⟨71,[(4,CN (Fi a b)),(5,.I 0)],[],1500⟩ ?_ ?_))
 .simp
  exact AN [] [31] (by simp[h3,AC,<- h4])
 exact B3 [] []
end
variable {l:List AL}
def kP:A9:=⟨[0],[5,3,2],1⟩
theorem Kg:CI 64 kP:=by
 refine⟨by simp[kP],?_,by simp[kP],by simp[kP],by simp[kP],by simp[kP],λ i h=>?_⟩
 .show CJ [0] 0 63
  intro i h;have:i=0:=by simp at h;omega
  subst this;simp
 .have:i=0∨i=1∨i=2:=by simp[kP] at h;omega
  rcases this with rfl | rfl | rfl<;>simp[kP]
theorem Mg:∀ x∈kP.seeds,x<9:=by simp[kP]
theorem Pd:AF 12 [] [] (eP kP) []:=by
 refine qL.s.ai ?_;refine ar [0] [(16,16)] [] 100 ?_;apply ax [0] [(16,16),(100,50),(108,60)] [] 200
 .simp [Ae]
  rfl
 refine Am ⟨.inr rfl,?_⟩;exact AO.out [] [16,50,60] rfl zz zz (by simp[kP];exact .refl _) zz
def SI (S A:List AL):Prop:=(∀ s∈S,s∈A)/\S.length<=A.length /\ ∀ a,Bh a S<=Bh a A
theorem SI.nil:SI [] []:=⟨λ _ h=>h,Qf _,λ _=>Qf _⟩
theorem SI.add {S A r:List AL} {x:AL} (h:SI S A) (hr:Ew S x r):SI r (A++[x]):=by
 have h1:∀ a,Bh a r<=Bh a S+Bh a [x]:=λ a=>by
  rcases hr with rfl | ⟨k,rfl⟩
  .omega
  .have e:Bh a (S.take k++x::S.drop k)=Bh a (S.take k)+(Bh a [x]+Bh a (S.drop k)):=by
    rw[Ih,show x::S.drop k=[x]++S.drop k from rfl,Ih]
   have e2:Bh a S=Bh a (S.take k)+Bh a (S.drop k):=by rw[<- Ih,QQ]
   omega
 obtain⟨h2,h3⟩:=hr.old;refine⟨λ s hs=>?_,by rw[Qe,Q8];have:=h.2.1;omega,λ a=>?_⟩
 .rcases h3 s hs with hs | rfl
  .exact Q4 _ (h.1 s hs)
  .simp
 .rw [Ih]
  have:=h.2.2 a;have:=h1 a;omega
structure mI where
 k:Nat
 S:List AL
structure Y0 where
 i:Nat
 S:List AL
structure mZ where
 b:Nat
 tm:Int
 tg:Int
 f:List Int
structure II (l:List AL):Prop where
 good:DJ l
 len:l.length<=12800
 ok:∀ s∈l,Bz s
 vo:∀ s∈l,Jp s
theorem II.gr (h:II l) (t:Int):AH (Hv l t 1):=pG h.good h.ok h.vo t 1 zx
theorem II.few (h:II l) (t:Int):∀ e∈(Hv l t 1).edges,e.t<9:=λ e he=>(K8 h.vo e he).2.2
theorem II.at_ (h:II l) (t:Int):AF 10 [Af l,.I t,.I 1] [] (.tup [eG (Hv l t 1),.I 0]) []:=by
 have h1:=Wc l t 1 (by have:=h.len;omega) (h.good.sort (by have:=h.len;omega)) (h.good.asc t)
 rw[rB h.vo zx zx] at h1
 exact h1
theorem rM (hA:AF 5 [] [] (.B true) []) (L:List Int):AF 3 [AA L] [] (.B true) []:=by
 refine kF.s.ai ?_;refine ar [0] [] [] 100 ?_;refine AB (arc ⟨167,[(0,AA L),(27,.B (decide (400<L.length)))],[],200⟩ ?_ ?_)
 .simp
  refine Ah (cQ L) (by simp[AC]) ?_
  simp;exact AN [] [] (by simp[AC]<;>exact A0 (by rw[Qg];simp))
 refine AE _ rfl (λ _=>?_) λ h=>AG ?_
 .apply ax [2] [] [] 300
  .simp
   refine Au hA ?_;simp;rfl
  exact Bg
 rw[Qb] at h;have hl:L.length<=400:=zy
 apply ax [3] [(208,20)] [] 300
 .simp
  refine Di (sE L) (by simp[AC]) ?_
  simp;rfl
 obtain⟨⟨⟨H,B⟩,b0⟩,⟨h8,ag⟩,h9⟩:=Zw L 0 hl (Qk _);simp only at h8 ag h9;apply ax [3,4,5] [(20,20)] [] 400
 .simp
  refine BZ (i:=20) rfl (e':=AK L 0) zz h9 zz zz ?_
  simp[AC];rfl
 refine BM ⟨167,[(3,.pt 20 0 0),(4,.vs 1 false (Fe H)),(5,Af B),(6,.pt 400 0 0)],[(20,some (AK L b0)),(400,some ⟨1,[[.nilS]],0⟩)],500⟩ [(20,20),(400,400)] [] ?_;have ha:∀ s∈H.flatten++B,Cz s:=λ s hs=>(h8.ok s hs).1.b;have bs:∀ k (h:k<H.length),H[k]? = some H[k]:=λ k h=>Qc h;have bt:∀ k (h:k<H.length),(H.take (k+1)).flatten=(H.take k).flatten++H[k]:=λ k h=>by rw[Qp h,List.flatten_append];simp
 have hd:∀ k,(H.take k).flatten.length<=H.flatten.length /\ ∀ s∈(H.take k).flatten,s∈H.flatten:=λ k=>by
  have e:H.flatten=(H.take k).flatten++(H.drop k).flatten:=by rw[<- List.flatten_append,QQ]
  rw[e];exact⟨zz,λ s hs=>Q4 _ hs⟩
 have am:=h8.few;rw[Qe] at am;have dn:=h8.len;generalize hX:Fe H=X at *;have c0:∀ k (h:k<H.length),X[k]? = some [Af H[k]]:=λ k h=>by rw[<- hX,QB,bs k h];rfl
 refine AB (ar [3,4,5,6,7] [(20,20),(400,400)] [] 600 ?_);refine AI (An (ι:=mI) (λ p=>⟨167,[(3,.pt 20 0 0),(4,.vs 1 false X),(5,Af B),(6,.pt 400 0 0),(7,.I p.k)],[(20,some (AK L b0)),(400,some ⟨1,[[Af p.S]],0⟩)],700⟩) (λ p=>p.k<=4/\SI p.S (H.take p.k).flatten) (λ p=>4 - p.k) ⟨0,[]⟩ ⟨Qk _,by simpa using SI.nil⟩ ?_ ?_)
 .refine Le.lst [(20,20),(400,400)] [] [] rfl zz zz zz zz zz zz zz (by simp[Up]) λ p hp e' an=>?_
  simp only[Qu,QT,or_false] at hp;rcases hp with rfl | rfl
  .cases an
   exact .inl ⟨(20,20),zz,rfl,_,rfl,A7.eq (by simp[AC]) zz⟩
  .cases an
   exact .inl ⟨(400,400),zz,rfl,_,rfl,A7.row (r:=[.nilS]) zz zz ⟨.inl (.nil _ _),trivial⟩⟩
 rintro⟨k,S⟩ ⟨hk,hS⟩
 simp only at hk hS;refine AB (arc ⟨167,[(3,.pt 20 0 0),(4,.vs 1 false X),(5,Af B),(6,.pt 400 0 0),(7,.I k),(37,.B (decide (k<4)))],[(20,some (AK L b0)),(400,some ⟨1,[[Af S]],0⟩)],800⟩ ?_ ?_)
 .simp
  exact AN [(20,20),(400,400)] [] (by simp[AC]<;>exact A0 (by rw[Qg];simp;try omega)) (by simp[AC])
 refine AE _ rfl (λ h=>AG ?_) λ h=>Ak (Al ?_)
 .rw [Qa] at h
  have aq:k<H.length:=zy
  have c1:=EH h zy
  obtain⟨C,hC⟩:=AJ (H[k]);have a0:=c0 k aq;have hm:=bt k aq;rw[<- hC] at a0 hm
  have ds:(H.take k).flatten.length+C.length<=100:=by
   have:=(hd (k+1)).1;rw[hm,Qe] at this;omega
  have au:∀ s∈C,Cz s:=λ s hs=>ha s (Q4 _ ((hd (k+1)).2 s (by rw[hm];exact Uo _ hs)))
  have c2:∀ s∈(H.take k).flatten,Cz s:=λ s hs=>ha s (Q4 _ ((hd k).2 s hs));refine Dx ?_;refine AI ?_;apply ax [3,4,5,6,7,8] [(20,20),(400,400)] [] 900
  .simp [AC]
   rfl
  refine AI (An (ι:=Y0) (λ p=>⟨167,[(3,.pt 20 0 0),(4,.vs 1 false X),(5,Af B),(6,.pt 400 0 0),(7,.I k),(8,.I p.i)],[(20,some (AK L b0)),(400,some ⟨1,[[Af p.S]],0⟩)],1000⟩) (λ p=>p.i<=C.length/\SI p.S ((H.take k).flatten++C.take p.i)) (λ p=>C.length - p.i) ⟨0,S⟩ ⟨Qk _,by simpa using hS⟩ (Aw [(20,20),(400,400)] []) ?_)
  rintro⟨i,T⟩ ⟨hi,hT⟩
  simp only at hi hT;refine AB (arc ⟨167,[(3,.pt 20 0 0),(4,.vs 1 false X),(5,Af B),(6,.pt 400 0 0),(7,.I k),(8,.I i),(46,.B (decide (i<C.length)))],[(20,some (AK L b0)),(400,some ⟨1,[[Af T]],0⟩)],1100⟩ ?_ ?_)
  .simp [a0]
   exact Aw [(20,20),(400,400)] []
  refine AE _ rfl (λ h=>AG ?_) λ h=>Ak (Al ?_)
  .rw [Qa] at h
   have a1:=EH h zy
   obtain⟨x,hx⟩:=AJ (C[i]);have a3:C[i]? = some x:=by rw[hx];exact Qc h
   have a4:x∈C:=by rw[hx];exact Qi h
   have c3:T.length<=100:=by
    have:=hT.2.1;rw[Qe,QC] at this;omega
   obtain⟨⟨r,bb,e⟩,hr,u⟩:=Xr T x zy (λ s hs=>by
    rcases Qm.1 (hT.1 s hs) with hs | hs
    .exact c2 s hs
    .exact au s (QM hs)) (au x a4)
   simp only at hr u
   have a5:SI r ((H.take k).flatten++C.take (i+1)):=by
    have:=hT.add hr;rw[Qq,hx,<- Qp h] at this;exact this
   refine Dx ?_;refine AI (Cx rfl ?_);simp[a0,a3];refine Ah u (by simp[AC]) ?_
   simp[Ae,AC];refine⟨rfl,⟨167,[(3,.pt 20 0 0),(4,.vs 1 false X),(5,Af B),(6,.pt 400 0 0),(7,.I k),(8,.I i)],[(20,some (AK L b0)),(400,some ⟨1,[[Af r]],0⟩)],1400⟩,Aw [(20,20),(400,400)] [],?_⟩;refine Ab rfl ?_;simp[a1];exact⟨⟨i+1,r⟩,⟨zw,a5⟩,zw,Aw [(20,20),(400,400)] []⟩
  rw[Qb] at h
  have c4:SI T (H.take (k+1)).flatten:=by
   rw[hm];have e:C.take i=C:=Qd zy
   rw[e] at hT;exact hT
  refine⟨⟨167,[(3,.pt 20 0 0),(4,.vs 1 false X),(5,Af B),(6,.pt 400 0 0),(7,.I k)],[(20,some (AK L b0)),(400,some ⟨1,[[Af T]],0⟩)],1400⟩,Aw [(20,20),(400,400)] [],?_⟩;refine Ab rfl ?_;simp[c1];exact⟨⟨k+1,T⟩,⟨zw,c4⟩,zw,Aw [(20,20),(400,400)] []⟩
 rw[Qb] at h;obtain rfl:k=4:=zy
 rw[Qd zy] at hS
 refine AB (ar [3,5,6,9] [(20,20),(400,400)] [] 1500 ?_);refine AI (An (ι:=Y0) (λ p=>⟨167,[(3,.pt 20 0 0),(5,Af B),(6,.pt 400 0 0),(9,.I p.i)],[(20,some (AK L b0)),(400,some ⟨1,[[Af p.S]],0⟩)],1600⟩) (λ p=>p.i<=B.length/\SI p.S (H.flatten++B.take p.i)) (λ p=>B.length - p.i) ⟨0,S⟩ ⟨Qk _,by simpa using hS⟩ (Aw [(20,20),(400,400)] []) ?_)
 rintro⟨i,T⟩ ⟨hi,hT⟩
 simp only at hi hT;refine AB (BM ⟨167,[(3,.pt 20 0 0),(5,Af B),(6,.pt 400 0 0),(9,.I i),(65,.B (decide (i<B.length)))],[(20,some (AK L b0)),(400,some ⟨1,[[Af T]],0⟩)],1700⟩ [(20,20),(400,400)] [] ?_)
 have c3:T.length<=100:=by
  have:=hT.2.1;rw[Qe,QC] at this;omega
 have av:∀ s∈T,Cz s:=λ s hs=>by
  rcases Qm.1 (hT.1 s hs) with hs | hs
  .exact ha s (Q4 _ hs)
  .exact ha s (Uo _ (QM hs))
 refine AE _ rfl (λ h=>AG ?_) λ h=>Ak (Al ?_)
 .rw [Qa] at h
  have a1:=EH h zy
  obtain⟨x,hx⟩:=AJ (B[i]);have a3:B[i]? = some x:=by rw[hx];exact Qc h
  have a4:x∈B:=by rw[hx];exact Qi h
  obtain⟨⟨r,bb,e⟩,hr,u⟩:=Xr T x zy av (ha x (Uo _ a4))
  simp only at hr u
  have a5:SI r (H.flatten++B.take (i+1)):=by
   have:=hT.add hr;rw[Qq,hx,<- Qp h] at this;exact this
  refine Dx ?_;refine AI (Cx rfl ?_);simp[a3];refine Ah u (by simp[AC]) ?_
  simp[Ae,AC];refine⟨rfl,⟨167,[(3,.pt 20 0 0),(5,Af B),(6,.pt 400 0 0),(9,.I i)],[(20,some (AK L b0)),(400,some ⟨1,[[Af r]],0⟩)],2000⟩,Aw [(20,20),(400,400)] [],?_⟩;refine Ab rfl ?_;simp[a1];exact⟨⟨i+1,r⟩,⟨zw,a5⟩,zw,Aw [(20,20),(400,400)] []⟩
 rw[Qb] at h;rw[Qd zy] at hT
 obtain⟨l,⟨c5,cb,hlm⟩,cd⟩:=cH T zy av (λ a=>QR (hT.2.2 a) (h8.cnt a))
 have hK:II l:=⟨c5,cb,λ s hs=>(hlm s hs).1,λ s hs=>by
  obtain⟨_,h2,h3⟩:=h8.ok s (hT.1 s (hlm s hs).2)
  exact λ hk=>⟨h2,h3 hk⟩⟩
 obtain⟨G,hG⟩:∃ G:Int->Gr,G=λ t=>Hv l t 1:=⟨_,rfl⟩;have hn:∀ t,AH (G t):=λ t=>by rw[hG];exact hK.gr t
 have a6:∀ t,∀ e∈(G t).edges,e.t<9:=λ t=>by rw[hG];exact hK.few t
 have a7:∀ t,(G t).size=64:=λ t=>by rw[hG];rfl
 have b1:∀ t,AF 10 [Af l,.I t,.I 1] [] (.tup [eG (G t),.I 0]) []:=λ t=>by rw[hG];exact hK.at_ t
 have b3:∀ t,(G t).edges.length<=81:=λ t=>by rw[hG];exact PL hK.vo
 clear hG
 have hq:∀ t,CI (G t).size kP:=λ t=>by rw[a7];exact Kg
 have b4:∀ t,(G t).size<20∨(Ag (Ao (G t) kP.lv) kP.seeds).length<20:=λ t=>.inr (Ms (hn t) (a6 t) Mg);apply ax [3,10] [(20,20)] [] 2100
 .simp
  refine Ah cd (by simp[AC]) ?_
  simp[AC];rfl
 have b5:=b1 0;obtain⟨f0,ch,b6⟩:=Rq (G 0) kP (hn 0) (hq 0) (b4 0);apply ax [3,10,11,12] [(20,20),(2140,30)] [] 2200
 .simp
  refine Ah b5 (by simp[AC]) ?_
  simp[AC,Ae];rfl
 apply ay [3,10,11,12,13,14] [(20,20),(30,30),(2248,31)] [] 2300
 .simp
  refine Au Pd ?_;simp;refine Ah b6 (by simp[AC]) ?_
  simp[AC,Ae];exact⟨rfl,rfl⟩
 refine AB (BM ⟨167,[(3,.pt 20 0 0),(10,Af l),(11,.pt 30 0 0),(13,.pt 31 0 0),(96,.B false)],[(20,some (AK L b0)),(30,some ⟨3,[[.I (G 0).size,BE (G 0).edges,AA (G 0).gone]],0⟩),(31,some ⟨9,[tC (G 0) kP (BK (G 0) kP) f0 (CQ (G 0) kP)],0⟩)],2400⟩ [(20,20),(30,30),(31,31)] [] ?_);refine AE _ rfl (λ h=>by cases h) λ _=>AG ?_
 refine AB (BM ⟨167,[(3,.pt 20 0 0),(10,Af l),(11,.pt 30 0 0),(13,.pt 31 0 0),(15,.I 1)],[(20,some (AK L b0)),(30,some ⟨3,[[.I (G 0).size,BE (G 0).edges,AA (G 0).gone]],0⟩),(31,some ⟨9,[tC (G 0) kP (BK (G 0) kP) f0 (CQ (G 0) kP)],0⟩)],2500⟩ [(20,20),(30,30),(31,31)] [] ?_);refine AI (An (ι:=mZ) (λ p=>⟨167,[(3,.pt 20 0 0),(10,Af l),(11,.pt 30 0 0),(13,.pt 31 0 0),(15,.I p.tm)],[(20,some (AK L p.b)),(30,some ⟨3,[[.I (G p.tg).size,BE (G p.tg).edges,AA (G p.tg).gone]],0⟩),(31,some ⟨9,[tC (G p.tg) kP (BK (G p.tg) kP) p.f (CQ (G p.tg) kP)],0⟩)],2600⟩) (λ p=>(p.b<=L.length/\1<=p.tm/\p.tm<=60)/\FS (G p.tg) kP (Az (BK (G p.tg) kP)) p.f) (λ p=>(60 - p.tm).toNat) ⟨b0,1,0,f0⟩ ⟨⟨ag,zz,zz⟩,ch⟩ (Aw [(20,20),(30,30),(31,31)] []) ?_)
 rintro⟨b,tm,tg,f⟩ ⟨⟨hb,ck,cl⟩,hf⟩
 simp only at hb ck cl hf;have h5:=hn tg;have a8:=a6 tg;have b7:=a7 tg;have hge:=b3 tg;have a9:=hq tg;have hg:=hn tm;have cm:=a6 tm;have b8:=a7 tm;have e0:=b3 tm;have cp:=b1 tm;obtain⟨f3,cq,hw⟩:=Rq (G tm) kP hg (hq tm) (b4 tm);obtain⟨acc,h6⟩:=AJ (BK (G tg) kP);obtain⟨R,hR⟩:=AJ (CQ (G tg) kP);have hT:=Me h5 a9 hf;have hy:=Rg h5 a9 a8 Mg hf;rw[<- h6,<- hR] at hT hy;have h0:=Me hg (hq tm) cq;rw[<- h6,<- hR];rw[<- h6] at hf;obtain⟨accn,q⟩:∃ acc,acc=BK (G tm) kP:=⟨_,rfl⟩;obtain⟨Rn,ht⟩:∃ R,R=CQ (G tm) kP:=⟨_,rfl⟩;rw[<- q,<- ht] at hw h0
 have hz:∀ st∈Fi (G tg) (G tm),st.e.t<9:=λ st hst=>by
  rw[N3] at hst;unfold Hu at hst;rcases Qm.1 hst with hst | hst
  .obtain ⟨e,he,rfl⟩:=Ql.1 hst
   exact a8 e (QF.1 he).1
  .obtain ⟨e,he,rfl⟩:=Ql.1 hst
   exact cm e (QF.1 he).1
 have hj:(G tg).gone=(G tm).gone->BO (G tg) (Fi (G tg) (G tm))=(G tm,(Fi (G tg) (G tm)).length,0):=λ hh=>by
  rw[N3];exact jM h5 hg zy (by rw[b7,b8]) hh
 have e3:(Fi (G tg) (G tm)).length<=162:=by
  have:=l8 (G tg) (G tm);omega
 have h7:=jT hy h5 a9 a8 hT (l:=Fi (G tg) (G tm)) zy Mg hz
 have d0:¬ (G tg).gone=(G tm).gone->_:=λ hh=>Zd h5 hg (λ h2=>hh h2.2);have d1:(G tg).gone=(G tm).gone->_:=λ hh=>g9 h5 hg (by rw[b7,b8]) hh
 have b9:=Jm (G tg).gone (G tm).gone (by have:=h5.gone_le;omega)
 have d2:(G tg).gone=(G tm).gone -> ∃ f2,FS (G tm) kP (Az accn) f2/\AF 16 [eT (G tg) kP acc f R,CN (Fi (G tg) (G tm))] [] (.tup [eT (G tm) kP accn f2 Rn,.I (Fi (G tg) (G tm)).length,.I 0]) []:=λ hh=>by
  obtain⟨⟨a2,f2,R2⟩,ho,hc⟩:=h7;rw[hj hh] at ho hc;simp only at ho hc;rcases ho with ⟨_,h1,h2,h3,h4⟩ | ⟨_,h1,h2,h3⟩
  .have e1:accn=a2:=by rw[q,h1,<- h6,h2]
   have e2:Rn=R2:=by rw[ht,h1,<- hR,h4]
   refine⟨f2,?_,?_⟩
   .rw [h3,h1,e1,h2];exact hf
   .rw [e1,e2];exact hc
  .refine ⟨f2,by rw[q];exact h3,?_⟩
   rw[q,ht,<- h1,<- h2];exact hc
 have hu:∀ f2,AF 17 [eT (G tm) kP accn f2 Rn,eT (G tm) kP accn f3 Rn] [] (.B true) []:=λ f2 =>
  vR h0.e h0.o h0.s h0.t (by have:=h0.a;omega) h0.r (λ r hr=>by have:=h0.d r hr;omega)
 clear h7 hj hz
 generalize e4:G tg=g at *;generalize bo:G tm=n at *;generalize e5:Fi g n=ss at *;refine AB (BM ⟨167,[(3,.pt 20 0 0),(10,Af l),(11,.pt 30 0 0),(13,.pt 31 0 0),(15,.I tm),(98,.B (decide (tm<40)))],[(20,some (AK L b)),(30,some ⟨3,[[.I g.size,BE g.edges,AA g.gone]],0⟩),(31,some ⟨9,[tC g kP acc f R],0⟩)],2700⟩ [(20,20),(30,30),(31,31)] [] ?_);refine AE _ rfl (λ h=>AG ?_) λ h=>Ak (Al ?_)
 .rw [Qa] at h
  obtain⟨dz,b2,⟨d3,dg,_,bp⟩,d4⟩:=Ez L b 10 hl hb zx
  have bp:=bp zx
  have d5:=w6 (x:=1+dz);have d7:=w6 (x:=tm+(1+dz));refine Dx ?_;refine AI ?_;apply ax [3,10,11,13,15,16,17] [(20,20),(30,30),(31,31)] [2748] 2800
  .simp
   refine Ah cp (by simp[AC]) ?_
   simp[AC,Ae];rfl
  by_cases hv:g.gone=n.gone
  .obtain ⟨f2,dd,h7⟩:=d2 hv
   have df:=hu f2;apply ax [3,10,11,13,15,16,17,18,19] [(20,20),(30,30),(31,31)] [] 2900
   .simp
    refine Ah (d1 hv) (by simp[AC]) ?_
    simp[AC];rfl
   refine AB (BM ⟨167,[(3,.pt 20 0 0),(10,Af l),(11,.pt 30 0 0),(13,.pt 31 0 0),(15,.I tm),(16,.pv [.I n.size,BE n.edges,AA n.gone]),(18,CN ss),(121,.B false)],[(20,some (AK L b)),(30,some ⟨3,[[.I g.size,BE g.edges,AA g.gone]],0⟩),(31,some ⟨9,[tC g kP acc f R],0⟩)],3000⟩ [(20,20),(30,30),(31,31)] [] ?_);refine AE _ rfl (λ h=>by cases h) λ _=>AG ?_
   apply ax [3,10,11,13,15,16,18,20,21,22] [(20,20),(30,30),(31,31)] [3056] 3100
   .simp
    refine Ah h7 (by simp[AC]) ?_
    simp[AC,Ae];rfl
   apply ay [3,10,11,13,15,16,18,20,21,22,23,24] [(20,20),(30,30),(31,31)] [3148] 3200
   .simp
    refine Au Pd ?_;simp;refine Ah hw (by simp[AC]) ?_
    simp[AC,Ae];exact⟨rfl,rfl⟩
   refine AB (arc ⟨167,[(3,.pt 20 0 0),(10,Af l),(11,.pt 30 0 0),(13,.pt 31 0 0),(15,.I tm),(16,.pv [.I n.size,BE n.edges,AA n.gone]),(20,.pv (tC n kP accn f2 Rn)),(163,.B false)],[(20,some (AK L b)),(30,some ⟨3,[[.I g.size,BE g.edges,AA g.gone]],0⟩),(31,some ⟨9,[tC g kP acc f R],0⟩)],3400⟩ ?_ ?_)
   .simp
    refine Ah df (by simp[AC]) ?_
    simp;exact Aw [(20,20),(30,30),(31,31)] []
   refine AE _ rfl (λ h=>by cases h) λ _=>AG ?_
   refine Cx rfl ?_;simp[Ae];refine⟨rfl,⟨167,[(3,.pt 20 0 0),(10,Af l),(11,.pt 30 0 0),(13,.pt 31 0 0),(15,.I tm)],[(20,some (AK L b)),(30,some ⟨3,[[.I n.size,BE n.edges,AA n.gone]],0⟩),(31,some ⟨9,[tC n kP accn f2 Rn],0⟩)],3600⟩,Aw [(20,20),(30,30),(31,31)] [],?_⟩;refine Ab rfl ?_;simp;refine BZ (i:=20) rfl (e':=AK L b) zz d4 zz zz ?_
   simp[d5,d7];refine⟨⟨b2,tm+(1+dz),tm,f2⟩,⟨⟨d3,by simp only;omega,by simp only;omega⟩,?_⟩,by simp only;omega,?_⟩
   .simp only
    rw[bo,<- q];exact dd
   .simp only
    rw[bo,<- q,<- ht];exact Aw [(20,20),(30,30),(31,31)] []
  .rw [QJ hv] at b9
   apply ax [3,10,11,13,15,16,17,18,19] [(20,20),(30,30),(31,31)] [] 2900
   .simp
    refine Ah (d0 hv) (by simp[AC]) ?_
    simp[AC];rfl
   refine AB (BM ⟨167,[(11,.pt 30 0 0),(16,.pv [.I n.size,BE n.edges,AA n.gone]),(19,.I 1),(121,.B true)],[(30,some ⟨3,[[.I g.size,BE g.edges,AA g.gone]],0⟩)],3000⟩ [(30,30)] [] ?_);refine AE _ rfl (λ _=>?_) λ h=>by cases h
   apply ax [2] [] [] 3200
   .simp
    refine Ah b9 (by simp[AC]) ?_
    simp;refine Au hA ?_;simp;rfl
   exact Bg
 apply ax [2] [] [] 5000
 .simp
  refine Au hA ?_;simp;rfl
 exact Bg
variable {γ:Type}
def Gu {γ:Type} (x:Int) (k:Int->γ):γ :=
 Int.rec (motive:=λ _=>γ) (λ n=>Nat.rec (motive:=λ _=>γ) (k (Int.ofNat 0)) (λ m _=>k (Int.ofNat (m+1))) n) (λ n=>k (Int.negSucc n)) x
theorem J5 (x:Int) (k:Int->γ):Gu x k=k x:=by
 cases x with
 | ofNat n=>cases n<;>rfl
 | negSucc n=>rfl
def JS (v:List Int) (k w:Int):List Int :=
 [u2 .add (u2 .add (xF v k w) (r3 (gt v 0) 2 13 22)) (mF v),gt v 0,gt v 1,gt v 2,u2 .add (gt v 3) (xF v k w),gt v 4,gt v 5,gt v 6]
theorem YI (H B:List Int):∀ i,vF H B Bc i=(List.range i).foldl (λ v j=>JS v (gt Bc j) (gt (BT B 48) j)) H
 | 0=>rfl
 | i+1=>by rw[List.range_succ,UU,<- YI H B i];rfl
def vS {γ:Type} (l:List (Int × Int)) (k:Int->Int->Int->Int->Int->Int->Int->Int->γ):Int->Int->Int->Int->Int->Int->Int->Int->γ :=
 List.rec (motive:=λ _=>Int->Int->Int->Int->Int->Int->Int->Int->γ) k (λ p _ ih a b c d e f g h =>
  Gu (u2 .add (u2 .add (u2 .add (u2 .add h (r3 e 6 11 25)) (u2 .xor (u2 .and e f) (u2 .and (nt e) g))) p.1) p.2) λ x =>
  Gu (u2 .add (u2 .add x (r3 a 2 13 22)) (u2 .xor (u2 .xor (u2 .and a b) (u2 .and a c)) (u2 .and b c))) λ y =>
  Gu (u2 .add d x) λ z=>ih y a b c z e f g) l
theorem qN (k:Int->Int->Int->Int->Int->Int->Int->Int->γ) (p:Int × Int) (l:List (Int × Int)) (a b c d e f g h:Int) :
  vS (p::l) k a b c d e f g h=vS l k (u2 .add (u2 .add (u2 .add (u2 .add (u2 .add (u2 .add h (r3 e 6 11 25)) (u2 .xor (u2 .and e f) (u2 .and (nt e) g))) p.1) p.2) (r3 a 2 13 22)) (u2 .xor (u2 .xor (u2 .and a b) (u2 .and a c)) (u2 .and b c))) a b c
   (u2 .add d (u2 .add (u2 .add (u2 .add (u2 .add h (r3 e 6 11 25)) (u2 .xor (u2 .and e f) (u2 .and (nt e) g))) p.1) p.2)) e f g:=by
 have h0:vS (p::l) k a b c d e f g h=Gu (u2 .add (u2 .add (u2 .add (u2 .add h (r3 e 6 11 25)) (u2 .xor (u2 .and e f) (u2 .and (nt e) g))) p.1) p.2) λ x =>
  Gu (u2 .add (u2 .add x (r3 a 2 13 22)) (u2 .xor (u2 .xor (u2 .and a b) (u2 .and a c)) (u2 .and b c))) λ y =>
  Gu (u2 .add d x) λ z=>vS l k y a b c z e f g:=rfl
 rw[h0,J5,J5,J5]
theorem Ys {γ:Type} (k:Int->Int->Int->Int->Int->Int->Int->Int->γ):∀ (l:List (Int × Int)) (a b c d e f g h:Int),
  ∃ a' b' c' d' e' f' g' h',l.foldl (λ v p=>JS v p.1 p.2) [a,b,c,d,e,f,g,h]=[a',b',c',d',e',f',g',h']/\vS l k a b c d e f g h=k a' b' c' d' e' f' g' h'
 | [],a,b,c,d,e,f,g,h=>⟨a,b,c,d,e,f,g,h,rfl,rfl⟩
 | p::l,a,b,c,d,e,f,g,h=>by
   obtain⟨a',b',c',d',e',f',g',h',h1,h2⟩:=Ys k l (gt (JS [a,b,c,d,e,f,g,h] p.1 p.2) 0) a b c (gt (JS [a,b,c,d,e,f,g,h] p.1 p.2) 4) e f g;refine⟨a',b',c',d',e',f',g',h',h1,?_⟩;rw[<- h2,qN];rfl
def IM (B:List Int) (i:Nat):Int:=J9 (gt B (4*i)) (gt B (4*i+1)) (gt B (4*i+2)) (gt B (4*i+3))
def Io (r:List Int):Int:=u2 .add (u2 .add (u2 .add (gt r 15) (JW (gt r 14))) (gt r 6)) (I6 (gt r 1))
def F7:Nat->List Int->List Int
 | 0,r=>r
 | n+1,r=>Io (F7 n r)::F7 n r
theorem Xd:∀ (n:Nat) (r:List Int),F7 n (Io r::r)=F7 (n+1) r
 | 0,_=>rfl
 | n+1,r=>by
   show Io (F7 n (Io r::r))::F7 n (Io r::r)=_;rw[Xd n r];rfl
def Hc {γ:Type} (n:Nat):List Int->(List Int->γ)->γ :=
 Nat.rec (motive:=λ _=>List Int->(List Int->γ)->γ) (λ r k=>k r) (λ _ ih r k=>Gu (Io r) λ x=>ih (x::r) k) n
theorem XM {γ:Type}:∀ (n:Nat) (r:List Int) (k:List Int->γ),Hc n r k=k (F7 n r)
 | 0,_,_=>rfl
 | n+1,r,k=>by
   have h0:Hc (n+1) r k=Gu (Io r) λ x=>Hc n (x::r) k:=rfl;rw[h0,J5,XM n,Xd]
def LH {γ:Type} (B:List Int) (n:Nat):List Int->(List Int->γ)->γ :=
 Nat.rec (motive:=λ _=>List Int->(List Int->γ)->γ) (λ r k=>k r) (λ i ih r k=>ih r λ r'=>Gu (IM B i) λ x=>k (x::r')) n
theorem Sv {γ:Type} (B:List Int):∀ (n:Nat) (k:List Int->γ),LH B n [] k=k ((List.range n).map (IM B)).reverse
 | 0,_=>rfl
 | n+1,k=>by
   have h0:LH B (n+1) [] k=LH B n [] λ r'=>Gu (IM B n) λ x=>k (x::r'):=rfl;rw[h0,Sv B n,J5,List.range_succ,QN,List.reverse_append];rfl
theorem Se (B:List Int):∀ i,i<=64->C8 B i=(List.range i).map (IM B)++List.replicate (64 - i) 0
 | 0,_=>rfl
 | i+1,h=>by
   rw[C8,Se B i zy,List.range_succ,QN]
   have e:64 - i=(64 - (i+1))+1:=zy
   rw[e,List.replicate_succ,List.set_append_right _ _ zz,Qs,UD,Nat.sub_self,List.set_cons_zero]
   simp[IM]
theorem YU:∀ (n:Nat) (r:List Int),(F7 n r).length=r.length+n
 | 0,_=>rfl
 | n+1,r=>by rw[F7,QS,YU n r];omega
theorem MH (r z:List Int) (j i:Nat) (h:j+i+1=r.length):gt (r.reverse++z) j=gt r i:=by
 simp only[gt,Qn];rw[QG zw,List.getElem?_reverse zy]
 congr 2
 omega
theorem Yp (B:List Int):∀ i,i<=48->BT B i=(F7 i ((List.range 16).map (IM B)).reverse).reverse++List.replicate (48 - i) 0
 | 0,_=>by rw[BT,Se B 16 zy,F7,List.reverse_reverse]
 | i+1,h=>by
   obtain⟨r,hr⟩:=AJ (F7 i ((List.range 16).map (IM B)).reverse);have hl:r.length=16+i:=by rw[hr,YU];simp
   rw[BT,Yp B i zy,<- hr]
   rw[MH r _ i 15 zy,MH r _ (i+1) 14 zy,MH r _ (i+9) 6 zy,MH r _ (i+14) 1 zy]
   have e:48 - i=(48 - (i+1))+1:=zy
   rw[e,List.replicate_succ,List.set_append_right _ _ zw,show i+16 - r.reverse.length=0 by simp;omega,List.set_cons_zero]
   rw[F7,<- hr,List.reverse_cons,Qq];rfl
theorem gQ {C W:List Int} {n:Nat} (hc:C.length=n) (hw:W.length=n):C.zip W=(List.range n).map λ j=>(gt C j,gt W j):=by
 refine List.ext_getElem (by simp[hc,hw]) λ i u q=>?_
 simp only[Qs,UD] at q;rw[List.getElem_zip,List.getElem_map,List.getElem_range];refine Prod.ext ?_ ?_
 .simp only[gt,Qn]
  rw[Qc zy]
  rfl
 .simp only[gt,Qn]
  rw[Qc zy]
  rfl
def IF (B:List Int) (o:Int->Int->Int->Int->Int->Int->Int->Int->Bool) (a b c d e f g h:Int):Bool :=
 LH B 16 [] λ r=>Hc 48 r λ r=>vS (Bc.zip r.reverse) (λ a' b' c' d' e' f' g' h' =>
  o (u2 .add a' a) (u2 .add b' b) (u2 .add c' c) (u2 .add d' d) (u2 .add e' e) (u2 .add f' f) (u2 .add g' g) (u2 .add h' h)) a b c d e f g h
def Nb (a b c d e f g h a' b' c' d' e' f' g' h':Int):Bool:=a == a' && b == b' && c == c' && d == d' && e == e' && f == f' && g == g' && h == h'
theorem ZZ {B C:List Int} {a b c d e f g h x0 x1 x2 x3 x4 x5 x6 x7:Int} (hv:vF [a,b,c,d,e,f,g,h] B C 64=[x0,x1,x2,x3,x4,x5,x6,x7]) :
  oF [a,b,c,d,e,f,g,h] B C 8=[u2 .add x0 a,u2 .add x1 b,u2 .add x2 c,u2 .add x3 d,u2 .add x4 e,u2 .add x5 f,u2 .add x6 g,u2 .add x7 h]:=by
 have h0:oF [a,b,c,d,e,f,g,h] B C 0=[x0,x1,x2,x3,x4,x5,x6,x7]:=hv;have h1:oF [a,b,c,d,e,f,g,h] B C 1=[u2 .add x0 a,x1,x2,x3,x4,x5,x6,x7]:=by rw[oF,h0];rfl
 have h2:oF [a,b,c,d,e,f,g,h] B C 2=[u2 .add x0 a,u2 .add x1 b,x2,x3,x4,x5,x6,x7]:=by rw[oF,h1];rfl
 have h3:oF [a,b,c,d,e,f,g,h] B C 3=[u2 .add x0 a,u2 .add x1 b,u2 .add x2 c,x3,x4,x5,x6,x7]:=by rw[oF,h2];rfl
 have h4:oF [a,b,c,d,e,f,g,h] B C 4=[u2 .add x0 a,u2 .add x1 b,u2 .add x2 c,u2 .add x3 d,x4,x5,x6,x7]:=by rw[oF,h3];rfl
 have h5:oF [a,b,c,d,e,f,g,h] B C 5=[u2 .add x0 a,u2 .add x1 b,u2 .add x2 c,u2 .add x3 d,u2 .add x4 e,x5,x6,x7]:=by rw[oF,h4];rfl
 have h6:oF [a,b,c,d,e,f,g,h] B C 6=[u2 .add x0 a,u2 .add x1 b,u2 .add x2 c,u2 .add x3 d,u2 .add x4 e,u2 .add x5 f,x6,x7]:=by rw[oF,h5];rfl
 have h7:oF [a,b,c,d,e,f,g,h] B C 7=[u2 .add x0 a,u2 .add x1 b,u2 .add x2 c,u2 .add x3 d,u2 .add x4 e,u2 .add x5 f,u2 .add x6 g,x7]:=by rw[oF,h6];rfl
 rw[oF,h7];rfl
theorem Nv {B:List Int} {a b c d e f g h a' b' c' d' e' f' g' h':Int} (hb:IF B (Nb a' b' c' d' e' f' g' h') a b c d e f g h=true) :
  Gz [a,b,c,d,e,f,g,h] B Bc=[a',b',c',d',e',f',g',h']:=by
 have hw:=Yp B 48 zy
 rw[Nat.sub_self,List.replicate_zero,QU] at hw
 have hu:∀ o,IF B o a b c d e f g h=vS (Bc.zip (BT B 48)) (λ p0 p1 p2 p3 p4 p5 p6 p7=>o (u2 .add p0 a) (u2 .add p1 b) (u2 .add p2 c) (u2 .add p3 d) (u2 .add p4 e) (u2 .add p5 f) (u2 .add p6 g) (u2 .add p7 h)) a b c d e f g h:=λ o=>by
  unfold IF;rw[Sv,XM,hw]
 rw[hu] at hb;obtain⟨Z,hZ⟩:=AJ (Bc.zip (BT B 48));rw[<- hZ] at hb;obtain⟨x0,x1,x2,x3,x4,x5,x6,x7,h1,h2⟩:=Ys (λ p0 p1 p2 p3 p4 p5 p6 p7=>Nb a' b' c' d' e' f' g' h' (u2 .add p0 a) (u2 .add p1 b) (u2 .add p2 c) (u2 .add p3 d) (u2 .add p4 e) (u2 .add p5 f) (u2 .add p6 g) (u2 .add p7 h)) Z a b c d e f g h;rw[h2] at hb;have hz:Bc.zip (BT B 48)=(List.range 64).map λ j=>(gt Bc j,gt (BT B 48) j):=gQ zx (JI B 48)
 have hv:=YI [a,b,c,d,e,f,g,h] B 64
 have h3:(List.range 64).foldl (λ v j=>JS v (gt Bc j) (gt (BT B 48) j)) [a,b,c,d,e,f,g,h]=Z.foldl (λ v p=>JS v p.1 p.2) [a,b,c,d,e,f,g,h]:=by
  rw[hZ,hz,List.foldl_map]
 rw[h3,h1] at hv;have he:=ZZ hv;unfold Nb at hb;simp only[QH,beq_iff_eq] at hb;obtain⟨⟨⟨⟨⟨⟨⟨q0,q1⟩,q2⟩,q3⟩,q4⟩,q5⟩,q6⟩,q7⟩:=hb;rw[<- q0,<- q1,<- q2,<- q3,<- q4,<- q5,<- q6,<- q7] at he;exact he
section
variable {β:Type}
def DD (n:Nat) (k:Nat->β):β:=match n with | 0=>k 0 | p+1=>k (p+1)
def RO (n:Int) (k:Int->β):β:=match n with | .ofNat m=>DD m λ m=>k (.ofNat m) | .negSucc m=>DD m λ m=>k (.negSucc m)
def qR (b:Bool) (k:Value->β):β:=match b with | true=>k (.bool true) | false=>k (.bool false)
def RR (v:Value) (k:Value->β):β:=match v with
 | .int d n=>RO n λ n=>k (.int d n)
 | .bool b=>qR b k
 | v=>k v
def Dg {α:Type} (f:α->(α->β)->β) (l:List α):(List α->β)->β :=
 List.rec (motive:=λ _=>(List α->β)->β) (λ k=>k []) (λ x _ ih k=>f x λ x=>ih λ xs=>k (x::xs)) l
def M9 (deep:Bool) (ih:AV->(AV->β)->β) (x:AV) (k:AV->β):β:=match x with
 | .dead=>k .dead
 | .sc v=>RR v λ v=>k (.sc v)
 | .agg cs=>Dg ih cs λ cs=>k (.agg cs)
 | .tup cs=>Dg ih cs λ cs=>k (.tup cs)
 | .vs s f rows=>match deep with | true=>DD s λ s=>Dg (Dg ih) rows λ rows=>k (.vs s f rows) | false=>k (.vs s f rows)
 | .rs a b c=>DD a λ a=>DD b λ b=>DD c λ c=>k (.rs a b c)
 | .rk a b c d=>DD a λ a=>DD b λ b=>DD c λ c=>DD d λ d=>k (.rk a b c d)
 | .pv cs=>match deep with | true=>Dg ih cs λ cs=>k (.pv cs) | false=>k (.pv cs)
 | .pt a b c=>DD a λ a=>DD b λ b=>DD c λ c=>k (.pt a b c)
 | .mp a=>DD a λ a=>k (.mp a)
 | .fn f a b=>Dg ih a λ a=>Dg ih b λ b=>k (.fn f a b)
 | .ifc t v=>ih v λ v=>k (.ifc t v)
def I2 (deep:Bool) (n:Nat):AV->(AV->β)->β :=
 Nat.rec (motive:=λ _=>AV->(AV->β)->β) (λ x k=>k x) (λ _ ih=>M9 deep ih) n
def Jy (deep:Bool) (e:AD) (k:AD->β):β:=match e with | ⟨s,rows,ro⟩=>DD s λ s=>DD ro λ ro=>Dg (Dg (I2 deep 5)) rows λ rows=>k ⟨s,rows,ro⟩
def LN (deep:Bool) (p:Nat × Option AD) (k:Nat × Option AD->β):β:=match p with
 | (i,none)=>DD i λ i=>k (i,none)
 | (i,some e)=>DD i λ i=>Jy deep e λ e=>k (i,some e)
end
def Cp (k:IntKind):Nat:=match k with
 | .i8=>256 | .u8=>256 | .i16=>65536 | .u16=>65536 | .i32=>4294967296 | .u32=>4294967296 | .i64=>18446744073709551616 | .u64=>18446744073709551616
def E9 (k:IntKind):Nat:=match k with
 | .i8=>128 | .u8=>128 | .i16=>32768 | .u16=>32768 | .i32=>2147483648 | .u32=>2147483648 | .i64=>9223372036854775808 | .u64=>9223372036854775808
def Fw (sg:Bool) (M H r:Nat):Int:=cond (sg && Nat.ble H r) (Int.negSucc (M - r - 1)) (Int.ofNat r)
def Gq (k:IntKind) (n:Int):Int:=match n with
 | .ofNat m=>cond (Nat.blt m (E9 k)) (.ofNat m) (Fw k.signed (Cp k) (E9 k) (m % Cp k))
 | .negSucc m=>Fw k.signed (Cp k) (E9 k) (Cp k - 1 - m % Cp k)
def DB (k:IntKind) (n:Int):Nat:=match n with
 | .ofNat m=>m % Cp k
 | .negSucc m=>Cp k - 1 - m % Cp k
def kN (k:IntKind):Nat:=match k with | .i8=>0 | .u8=>1 | .i16=>2 | .u16=>3 | .i32=>4 | .u32=>5 | .i64=>6 | .u64=>7
def IJ (a b:Int):Bool:=match a with
 | .ofNat m=>(match b with | .ofNat n=>Nat.blt m n | .negSucc _=>false)
 | .negSucc m=>(match b with | .ofNat _=>true | .negSucc n=>Nat.blt n m)
def Kn (a b:Int):Bool:=match a with
 | .ofNat m=>(match b with | .ofNat n=>Nat.beq m n | .negSucc _=>false)
 | .negSucc m=>(match b with | .ofNat _=>false | .negSucc n=>Nat.beq n m)
def GY (m n:Nat):Nat:=cond (Nat.ble m n) m n
def HS (k:IntKind) (a b:Int):Option Value:=match b with
 | .ofNat n=>some (.int k (Gq k (a*Int.ofNat (Nat.pow 2 (GY n k.bits)))))
 | .negSucc _=>none
def HE (k:IntKind) (a b:Int):Option Value:=match b with
 | .ofNat n=>some (.int k (match a with | .ofNat m=>.ofNat (Nat.div m (Nat.pow 2 (GY n k.bits))) | .negSucc m=>(Int.negSucc m).fdiv (Int.ofNat (Nat.pow 2 (GY n k.bits)))))
 | .negSucc _=>none
def IW (k:IntKind) (a b:Int):Option Value:=match b with
 | .ofNat (n+1)=>some (.int k (Gq k (match a with | .ofNat m=>.ofNat (Nat.div m (n+1)) | .negSucc m=>(Int.negSucc m).tdiv (.ofNat (n+1)))))
 | b=>Aq .quo (.int k a) (.int k b)
def Ix (k:IntKind) (a b:Int):Option Value:=match b with
 | .ofNat (n+1)=>some (.int k (match a with | .ofNat m=>.ofNat (Nat.mod m (n+1)) | .negSucc m=>(Int.negSucc m).tmod (.ofNat (n+1))))
 | b=>Aq .rem (.int k a) (.int k b)
def Ii (op:BinOp) (k:IntKind) (a b:Int):Option Value:=match op with
 | .shl=>HS k a b
 | .shr=>HE k a b
 | .add=>some (.int k (Gq k (a+b)))
 | .sub=>some (.int k (Gq k (a - b)))
 | .mul=>some (.int k (Gq k (a*b)))
 | .quo=>IW k a b
 | .rem=>Ix k a b
 | .and=>some (.int k (Gq k (Int.ofNat (Nat.land (DB k a) (DB k b)))))
 | .or=>some (.int k (Gq k (Int.ofNat (Nat.lor (DB k a) (DB k b)))))
 | .xor=>some (.int k (Gq k (Int.ofNat (Nat.xor (DB k a) (DB k b)))))
 | .eql=>some (.bool (Kn a b))
 | .neq=>some (.bool (!Kn a b))
 | .lss=>some (.bool (IJ a b))
 | .gtr=>some (.bool (IJ b a))
 | .leq=>some (.bool (!IJ b a))
 | .geq=>some (.bool (!IJ a b))
 | op=>Aq op (.int k a) (.int k b)
def Jn (op:BinOp) (k k':IntKind) (a b:Int):Option Value:=match op with
 | .shl=>HS k a b
 | .shr=>HE k a b
 | op=>Aq op (.int k a) (.int k' b)
def IZ (op:BinOp) (x y:Value):Option Value:=match x with
 | .int k a=>(match y with
   | .int k' b=>cond (Nat.beq (kN k) (kN k')) (Ii op k a b) (Jn op k k' a b)
   | y=>Aq op (.int k a) y)
 | x=>Aq op x y
inductive TS where
 | lf
 | nd (v:AV) (l r:TS)
structure RS where
 sz:Nat
 t:TS
 h:List (Nat × Option AD)
 n:Nat
def CP (t:TS):Nat->AV :=
 TS.rec (motive:=λ _=>Nat->AV) (λ _=>.dead) (λ v _ _ l r i=>Nat.rec (motive:=λ _=>AV) v (λ j _=>Bool.rec (motive:=λ _=>AV) (r (Nat.div j 2)) (l (Nat.div j 2)) (Nat.beq (Nat.mod j 2) 0)) i) t
def KW (n:Nat):TS:=Nat.rec (motive:=λ _=>TS) .lf (λ _ t=>.nd .dead t t) n
def MG {α:Type} (l:List (Nat × α)) (j:Nat):Option α :=
 List.rec (motive:=λ _=>Option α) none (λ p _ ih=>Bool.rec (motive:=λ _=>Option α) ih (some p.2) (Nat.beq p.1 j)) l
def YH {α:Type}:Option (Option α)->Option α | some x=>x | none=>none
def Kf (h:List (Nat × Option AD)) (id:Nat):Option AD:=YH (MG h id)
def RS.get (s:RS) (i:Nat):AV:=CP s.t i
def RS.hp (s:RS) (id:Nat):Option AD:=Kf s.h id
abbrev Rr:=Option (Ea × RS)
def EC {γ:Type} (v:AV) (t:TS):Nat->(TS->Option γ)->Option γ :=
 TS.rec (motive:=λ _=>Nat->(TS->Option γ)->Option γ) (λ _ _=>none)
  (λ x tl tr l r i k=>Nat.rec (motive:=λ _=>Option γ) (k (.nd v tl tr)) (λ j _=>Bool.rec (motive:=λ _=>Option γ) (r (Nat.div j 2) λ tr'=>k (.nd x tl tr')) (l (Nat.div j 2) λ tl'=>k (.nd x tl' tr)) (Nat.beq (Nat.mod j 2) 0)) i) t
def Ia {γ:Type} (xs:List AV):Nat->TS->(TS->Option γ)->Option γ :=
 List.rec (motive:=λ _=>Nat->TS->(TS->Option γ)->Option γ) (λ _ t k=>k t) (λ x _ ih i t k=>EC x t i λ t'=>ih (i+1) t' k) xs
def FM (i:Nat) (l:List (Nat × Option AD)):(List (Nat × Option AD)->Rr)->Rr :=
 List.rec (motive:=λ _=>(List (Nat × Option AD)->Rr)->Rr) (λ k=>k []) (λ p _ ih k=>Bool.rec (motive:=λ _=>Rr) (ih λ l'=>k (p::l')) (ih k) (Nat.beq p.1 i)) l
def Im (p:Nat × Option AD) (k:List (Nat × Option AD)->Rr) (h:List (Nat × Option AD)):Rr:=match p with
 | (_,none)=>k h
 | (i,some e)=>k ((i,some e)::h)
def HF (up h:List (Nat × Option AD)):(List (Nat × Option AD)->Rr)->Rr :=
 List.rec (motive:=λ _=>(List (Nat × Option AD)->Rr)->Rr) (λ k=>k h) (λ p _ ih k=>ih λ h=>FM p.1 h (Im p k)) up
def IN (t:TS) (xs:List Da):List AV :=
 List.rec (motive:=λ _=>List AV) [] (λ x _ ih=>x.ev (CP t)::ih) xs
def En:Nat->AV->List Nat
 | 0,_=>[]
 | n+1,x=>match x with
   | .rs a _ _=>[a]
   | .rk a _ _ _=>[a]
   | .pt a _ _=>[a]
   | .mp a=>[a]
   | .agg cs=>cs.flatMap (En n)
   | .tup cs=>cs.flatMap (En n)
   | .fn _ a b=>a.flatMap (En n)++b.flatMap (En n)
   | .ifc _ v=>En n v
   | _=>[]
def Fp (l:List Nat):List Nat->List Nat
 | []=>l
 | i::is=>if l.contains i then Fp l is else Fp (l++[i]) is
def NK (h:Nat->Option AD) (i:Nat):List Nat:=match h i with | some e=>e.rows.flatMap (·.flatMap (En 4)) | none=>[]
def Rc (h:Nat->Option AD):Nat->List Nat->List Nat
 | 0,l=>l
 | n+1,l=>let l':=Fp l (l.flatMap (NK h));if l'.length=l.length then l else Rc h n l'
def H9:Nat->AV->Bool
 | 0,_=>false
 | n+1,x=>match x with
   | .dead=>true
   | .sc _=>true
   | .agg xs=>xs.all (H9 n)
   | .tup xs=>xs.all (H9 n)
   | .rs _ _ _=>true
   | .pt _ _ _=>true
   | .mp _=>true
   | _=>false
def Sz:Option AD->Bool
 | none=>true
 | some e=>e.rows.all (·.all (H9 4))
def KU:List Nat->Bool
 | []=>true
 | i::is=>!is.contains i && KU is
def LR:List (Option AD)->Option (List AD)
 | []=>some []
 | none::_=>none
 | some e::l=>match LR l with | some es=>some (e::es) | none=>none
abbrev Cf:=FuncId->List AV->List AD->Option (AV × List (Option AD))
abbrev Br:=Option (AV × List Nat × List (Nat × Option AD))
def LZ (x:AV):Bool:=match x with | .sc _=>true | _=>false
def Mh (xs:List AV):Bool:=List.rec (motive:=λ _=>Bool) true (λ x _ ih=>Bool.rec (motive:=λ _=>Bool) false ih (LZ x)) xs
def SK (ids:List Nat) (id:Nat):List (Nat × Nat):=(ids++(List.range 8).map (id + ·)).zipIdx.map λ (a,b)=>(b,a)
def L2 (ids sn:List Nat) (id:Nat) (h:Nat->Option AD) (raise:Bool) (hs':List (Option AD)):List (Nat × Option AD) :=
 (hs'.zipIdx.map λ (e,k)=>((ids++(List.range 8).map (id + ·)).getD k 0,e.map (AX (SK ids id) [] (λ _=>none) 4)))++(if raise then sn.filterMap (λ i=>(h i).map λ e=>(i,some { e with ro:=e.rows.length })) else [])
def Mv (ids sn:List Nat) (np nh:Nat) (raise:Bool) (hs':List (Option AD)):Bool :=
 KU ids && ((sn.all λ i=>!ids.contains i) && ((!raise || sn.all λ i=>Nat.ble np i) && Nat.ble hs'.length (nh+8)))
def MB (ids sn:List Nat) (np id nh:Nat) (h:Nat->Option AD) (res:AV) (hs':List (Option AD)) (raise:Bool):Br :=
 cond (Mv ids sn np nh raise hs') (some (conv (SK ids id) [] (λ _=>none) 4 res,ids++sn,L2 ids sn id h raise hs')) none
def Xb (ids sn:List Nat) (np id nh:Nat) (h:Nat->Option AD):Option (AV × List (Option AD))->Br
 | none=>none
 | some (res,hs')=>MB ids sn np id nh h res hs' (match sn with | []=>true | _=>!(H9 5 res && hs'.all Sz))
def X6 (id:Nat):Option (AV × List (Option AD))->Br
 | some (.sc v,[])=>some (.sc v,[],[])
 | some (res,hs')=>MB [] [] 0 id 0 (λ _=>none) res hs' true
 | none=>none
def KF (cf:Cf) (np id:Nat) (h:Nat->Option AD) (f:FuncId) (xs:List AV) (deep:Bool) (ids sn:List Nat):Br :=
 Dg (I2 deep 6) (xs.map (conv ids.zipIdx sn h 4)) λ args =>
 match LR (ids.map λ i=>(h i).map (AX ids.zipIdx sn h 4)) with
 | none=>none
 | some hs0=>Dg (Jy deep) hs0 λ hs=>Xb ids sn np id hs.length h (cf f args hs)
def LS (sp:List FuncId) (cf:Cf) (np id:Nat) (h:Nat->Option AD) (f:FuncId) (xs:List AV):Br :=
 match Mh xs with
 | true=>X6 id (cf f xs [])
 | false =>
   Dg DD (Fp [] (xs.flatMap (En 4))) λ top =>
   Dg DD (Rc h 4 top) λ all =>
   match sp.contains f with
   | true=>KF cf np id h f xs true [] all
   | false=>match Nat.ble all.length 16 with
     | true=>KF cf np id h f xs false all []
     | false=>Dg DD (all.filter λ i=>!top.contains i) λ sn=>KF cf np id h f xs true top sn
def Pv:Bool->Bool->Nat->List AV->Option (Nat × Nat)
 | false,false,n,[]=>some (0,n)
 | true,false,n,[.sc (.int .i64 l)]=>if 0<=l then some (l.toNat,n) else none
 | false,true,_,[.sc (.int .i64 r)]=>if 0<=r then some (0,r.toNat) else none
 | true,true,_,[.sc (.int .i64 l),.sc (.int .i64 r)]=>if 0<=l/\0<=r then some (l.toNat,r.toNat) else none
 | _,_,_,_=>none
def Xt (h:Nat->Option AD) (s l r:Nat) (hi:Bool):AV->Br
 | .vs s' f rows=>if s'=s then some (.vs s (f && !hi) ((rows.drop l).take (r - l)),[],[]) else none
 | .rs i off _=>match h i with | some e=>if e.s=s then some (.rs i (off+l) (r - l),[i],[]) else none | none=>none
 | .sc (.slice none 0 0)=>some (.nilS,[],[])
 | _=>none
def KP:List AV->Br
 | [x]=>some (x,[],[])
 | _=>none
def WN:List AV->Br
 | [.sc (.bool t),a,b]=>some (if t then a else b,[],[])
 | _=>none
def R5 (id:Nat) (z:List Value):List AV->Br
 | []=>some (.pt id 0 0,[],[(id,some { s:=z.length,rows:=[z.map .sc] })])
 | _=>none
def YT (id:Nat) (s:Nat):List AV->Br
 | [x]=>match cellsOf x with
   | some cs=>if cs.length=s then some (.pt id 0 0,[],[(id,some { s:=s,rows:=[cs] })]) else none
   | none=>none
 | _=>none
def X8 (z:List Value) (ps:List (Nat × Nat)):List AV->Br
 | xs=>match GW (z.map .sc) ps xs with | some cs=>some (.agg cs,[],[]) | none=>none
def WW (id:Nat) (s:Nat) (len:Nat) (z:List Value) (ps:List Nat):List AV->Br
 | xs=>match GC s (List.replicate len (z.map .sc)) ps xs with
   | some rows=>if z.length=s then some (.rs id 0 len,[],[(id,some { s:=s,rows:=rows })]) else none
   | none=>none
def KO (h:Nat->Option AD) (ag:Bool) (s:Nat):List AV->Br
 | [x]=>match EQ h x with
   | some cs=>if s<=cs.length then some (if ag then .agg (cs.take s) else cs.headD .dead,Bw x,[]) else none
   | none=>none
 | _=>none
def J6 (h:Nat->Option AD) (s:Nat):List AV->Br
 | [.pt i k j,x]=>match h i with
   | some e=>match e.rows[k]?,cellsOf x with
     | some row,some cs=>if e.ro<=k/\cs.length=s/\j+s<=row.length then some (.dead,[i],[(i,some { e with rows:=e.rows.set k (Ae row j cs) })]) else none
     | _,_=>none
   | none=>none
 | _=>none
def WX:List AV->Br
 | [.pt a b c]=>some (.pt a b c,[],[])
 | [.pv cs]=>some (.pv cs,[],[])
 | [.ifc t v]=>some (.ifc t v,[],[])
 | _=>none
def VF (op:BinOp):List AV->Br
 | [.sc a,.sc b]=>match IZ op a b with | some v=>some (.sc v,[],[]) | none=>none
 | _=>none
def R8 (neg:Bool):List AV->Br
 | [.sc (.bool a),.sc (.bool b)]=>some (.sc (.bool ((a == b) != neg)),[],[])
 | _=>none
def Sw (neg:Bool) (ks:List Nat):List AV->Br
 | [.agg xs,.agg ys]=>match C6 ks xs ys with | some b=>some (.sc (.bool (b != neg)),[],[]) | none=>none
 | _=>none
def W8 (neg:Bool):List AV->Br
 | [.vs _ _ (_::_)]=>some (.sc (.bool neg),[],[])
 | [.sc (.slice a _ _)]=>some (.sc (.bool (a.isNone != neg)),[],[])
 | _=>none
def KA (op:UnOp):List AV->Br
 | [.sc a]=>match It op a with | some v=>some (.sc v,[],[]) | none=>none
 | _=>none
def Yg (k:IntKind):List AV->Br
 | [.sc (.int _ n)]=>some (.sc (.int k (Gq k n)),[],[])
 | _=>none
def WA (h:Nat->Option AD):List AV->Br
 | [x]=>match Ch 1 h x with
   | some rows=>match Hj rows with | some bs=>some (.sc (.string ⟨bs.toArray⟩),Bw x,[]) | none=>none
   | none=>none
 | _=>none
def YF (f:FuncId):List AV->Br
 | xs=>some (.fn (.func f) [] xs,[],[])
def V6 (f:FuncId):List AV->Br
 | xs=>some (.fn (.func f) xs [],[],[])
def VO (id:Nat) (s:Nat) (bytes:Nat) (z:List Value):List AV->Br
 | [.sc (.int _ l),.sc (.int _ c)]=>if 0<=l/\l<=c/\c*bytes<=140737488355328/\c<=140737488355328/\z.length=s then some (.rs id 0 l.toNat,[],[(id,some { s:=s,rows:=List.replicate l.toNat (z.map .sc) })]) else none
 | _=>none
def T9 (h:Nat->Option AD) (s:Nat) (lo:Bool) (hi:Bool):List AV->Br
 | x::bs=>match lenOf x with
   | none=>none
   | some n=>match Pv lo hi n bs with
     | none=>none
     | some (l,r)=>if l<=r/\r<=n then Xt h s l r hi x else none
 | _=>none
def Ye (off:Nat):List AV->Br
 | [.pv cs]=>if off<=cs.length then some (.pv (cs.drop off),[],[]) else none
 | [.pt i k j]=>some (.pt i k (j+off),[],[])
 | _=>none
def Yj (ag:Bool) (off:Nat) (s:Nat):List AV->Br
 | [.agg cs]=>if off+s<=cs.length then some (if ag then .agg ((cs.drop off).take s) else cs.getD off .dead,[],[]) else none
 | _=>none
def XO (h:Nat->Option AD) (s:Nat):List AV->Br
 | [.vs s' _ rows,.sc (.int _ n)]=>if s'=s/\0<=n then match rows[n.toNat]? with | some row=>some (.pv row,[],[]) | none=>none else none
 | [.rs i off len,.sc (.int _ n)]=>match h i with | some e=>if 0<=n/\n<len/\e.s=s then some (.pt i (off+n.toNat) 0,[i],[]) else none | none=>none
 | _=>none
def Vy (l:Nat) (s:Nat):List AV->Br
 | [.pt i k j,.sc (.int _ n)]=>if 0<=n/\n<l then some (.pt i k (j+n.toNat*s),[],[]) else none
 | [.pv cs,.sc (.int _ n)]=>if 0<=n/\n<l/\l*s<=cs.length then some (.pv (cs.drop (n.toNat*s)),[],[]) else none
 | _=>none
def V2:List AV->Br
 | [.sc (.string b),.sc (.int _ n)]=>if 0<=n then match b.data.toList[n.toNat]? with | some c=>some (.sc (.int .u8 c.toNat),[],[]) | none=>none else none
 | _=>none
def WK (i:Nat):List AV->Br
 | [.tup vs]=>match vs[i]? with | some v=>some (v,[],[]) | none=>none
 | _=>none
def Yc (sp:List FuncId) (cf:Cf) (np id:Nat) (h:Nat->Option AD):List AV->Br
 | .fn (.func f) first capt::args=>LS sp cf np id h f (first++args++capt)
 | _=>none
def Wq (sp:List FuncId) (cf:Cf) (np id:Nat) (h:Nat->Option AD) (tbl:List (TypeId × FuncId)):List AV->Br
 | .ifc t x::args=>match AW tbl t with | some f=>LS sp cf np id h f (x::args) | none=>none
 | _=>none
def SE (id:Nat) (h:Nat->Option AD) (s:Nat) (bytes:Nat):List AV->Br
 | [x,y]=>match x with
   | .rk _ _ _ _=>none
   | x=>match Ch s h y with
     | some new=>match Dj s h new x with
       | some old=>if (old.1.length+new.length)*bytes<=140737488355328/\old.1.length+new.length<=140737488355328 then some (.rs id 0 (old.1.length+new.length),Bw x++Bw y,(id,some { s:=s,rows:=old.1++new,ro:=old.2.1 })::old.2.2) else none
       | none=>none
     | none=>none
 | _=>none
def Ty (id:Nat) (h:Nat->Option AD):List AV->Br
 | [x,.sc (.string b)]=>match Dj 1 h (F4 b) x with
   | some old=>if old.1.length+b.size<=140737488355328 then some (.rs id 0 (old.1.length+b.size),Bw x,(id,some { s:=1,rows:=old.1++F4 b,ro:=old.2.1 })::old.2.2) else none
   | none=>none
 | _=>none
def YB (id:Nat) (s:Nat) (bytes:Nat) (z:List Value):List AV->Br
 | [.sc (.slice none 0 0),.sc (.int _ n)]=>if z.length=s/\0<n/\n.toNat*bytes<=140737488355328/\n.toNat<=140737488355328 then some (.rs id 0 n.toNat,[],[(id,some { s:=s,rows:=List.replicate n.toNat (z.map .sc) })]) else none
 | _=>none
def XY:List AV->Br
 | [x]=>match lenOf x with | some n=>some (AV.I n,[],[]) | none=>none
 | _=>none
def YC:List AV->Br
 | [.sc (.string b)]=>some (AV.I b.size,[],[])
 | _=>none
def TR:List AV->Br
 | [.rk _ _ _ c]=>some (AV.I c,[],[])
 | [.sc (.slice none 0 0)]=>some (AV.I 0,[],[])
 | _=>none
def TX (h:Nat->Option AD) (s:Nat):List AV->Br
 | [.rs i off len,y]=>match h i,Ch s h y with
   | some e,some new=>if e.s=s/\e.ro<=off/\off+len<=e.rows.length then some (AV.I (min new.length len:Nat),i::Bw y,[(i,some { e with rows:=e.rows.take off++new.take (min new.length len)++e.rows.drop (off+min new.length len) })]) else none
   | _,_=>none
 | _=>none
def TH (h:Nat->Option AD) (s:Nat) (z:List Value):List AV->Br
 | [.rs i off len]=>match h i with
   | some e=>if e.s=s/\z.length=s/\e.ro<=off/\off+len<=e.rows.length then some (.dead,[i],[(i,some { e with rows:=e.rows.take off++List.replicate len (z.map .sc)++e.rows.drop (off+len) })]) else none
   | none=>none
 | _=>none
def Sq:List AV->Br
 | [.sc (.int k a),.sc (.int _ b)]=>some (.sc (.int k (if a<b then b else a)),[],[])
 | _=>none
def WL:List AV->Br
 | [.sc (.int k a),.sc (.int _ b)]=>some (.sc (.int k (if b<a then b else a)),[],[])
 | _=>none
def Su (t:TypeId):List AV->Br
 | [x]=>some (.ifc t x,[],[])
 | _=>none
def VN (id:Nat):List AV->Br
 | []=>some (.mp id,[],[(id,some { s:=0,rows:=[] })])
 | _=>none
def Ws (h:Nat->Option AD) (z:Value) (ok:Bool):List AV->Br
 | [.mp i,.sc (.int .i64 n)]=>match h i with
   | some e=>if e.s=0 then some (if ok then .tup [(DT n e.rows).getD (Cc z),.sc (.bool (DT n e.rows).isSome)] else (DT n e.rows).getD (Cc z),[i],[]) else none
   | none=>none
 | _=>none
def WZ (h:Nat->Option AD):List AV->Br
 | [.mp i,.sc (.int .i64 n),x]=>match h i with
   | some e=>if e.s=0 then some (.dead,[i],[(i,some { e with rows:=Bb n x e.rows })]) else none
   | none=>none
 | _=>none
def VX (h:Nat->Option AD):List AV->Br
 | [.mp i,.sc (.int .i64 n)]=>match h i with
   | some e=>if e.s=0 then some (.tup [],[i],[(i,some { e with rows:=C1 n e.rows,ro:=0 })]) else none
   | none=>none
 | _=>none
def Wo (l:Nat):List AV->Br
 | [.agg cs,.sc (.int _ n)]=>if 0<=n/\n<l/\l<=cs.length then some (cs.getD n.toNat .dead,[],[]) else none
 | _=>none
def PU (sp:List FuncId) (cf:Cf) (np id:Nat) (h:Nat->Option AD) (op:E6) (xs:List AV):Br:=match op with
 | .mv=>KP xs
 | .pick=>WN xs
 | .alloc z'=>R5 id z' xs
 | .box s'=>YT id s' xs
 | .build z' ps'=>X8 z' ps' xs
 | .bsl s' len' z' ps'=>WW id s' len' z' ps' xs
 | .ld ag' s'=>KO h ag' s' xs
 | .st s'=>J6 h s' xs
 | .nil=>WX xs
 | .bin op'=>VF op' xs
 | .beq neg'=>R8 neg' xs
 | .aeq neg' ks'=>Sw neg' ks' xs
 | .snil neg'=>W8 neg' xs
 | .un op'=>KA op' xs
 | .cvt k'=>Yg k' xs
 | .b2s=>WA h xs
 | .mkf f'=>YF f' xs
 | .mkb f'=>V6 f' xs
 | .mks s' bytes' z'=>VO id s' bytes' z' xs
 | .slc s' lo' hi' mx'=>match mx' with | false=>T9 h s' lo' hi' xs | true=>none
 | .fad off'=>Ye off' xs
 | .fld ag' off' s'=>Yj ag' off' s' xs
 | .iad s'=>XO h s' xs
 | .iaa l' s'=>Vy l' s' xs
 | .ixs=>V2 xs
 | .ixv l'=>Wo l' xs
 | .ext i'=>WK i' xs
 | .call=>Yc sp cf np id h xs
 | .inv tbl'=>Wq sp cf np id h tbl' xs
 | .app s' bytes'=>SE id h s' bytes' xs
 | .apps=>Ty id h xs
 | .apz s' bytes' z'=>YB id s' bytes' z' xs
 | .len=>XY xs
 | .lens=>YC xs
 | .cap=>TR xs
 | .cpy s'=>TX h s' xs
 | .clr s' z'=>TH h s' z' xs
 | .mx2=>Sq xs
 | .mn2=>WL xs
 | .mki t'=>Su t' xs
 | .mkm=>VN id xs
 | .mlk z' ok'=>Ws h z' ok' xs
 | .mup=>WZ h xs
 | .mdl=>VX h xs
 | _=>none
def OZ (next:TS->List (Nat × Option AD)->List (List Nat × List Nat)->Rr) (h:List (Nat × Option AD)) (tr:List (List Nat × List Nat)) (t:TS):Rr:=next t h tr
def VU (sz:Nat) (dst:Option Nat) (next:TS->List (Nat × Option AD)->List (List Nat × List Nat)->Rr) (t:TS) (tr:List (List Nat × List Nat)) (v:AV) (h:List (Nat × Option AD)):Rr :=
 match dst with
 | none=>next t h tr
 | some d=>match Nat.blt d sz with
   | true=>I2 false 6 v λ v=>EC v t d (OZ next h tr)
   | false=>none
def ST (sz:Nat) (dst:Option Nat) (next:TS->List (Nat × Option AD)->List (List Nat × List Nat)->Rr) (t:TS) (h:List (Nat × Option AD)) (tr:List (List Nat × List Nat)) (v:AV) (rd:List Nat) (up:List (Nat × Option AD)):Rr :=
 HF up h (VU sz dst next t (tr++[(rd,up.map (·.1))]) v)
def YA (sz:Nat) (dst:Option Nat) (next:TS->List (Nat × Option AD)->List (List Nat × List Nat)->Rr) (t:TS) (h:List (Nat × Option AD)) (tr:List (List Nat × List Nat)):Br->Rr
 | none=>none
 | some (v,rd,up)=>Dg (LN false) up (ST sz dst next t h tr v rd)
def HR (sp:List FuncId) (cf:Cf) (sz np id:Nat) (o:CG) (next:TS->List (Nat × Option AD)->List (List Nat × List Nat)->Rr) (t:TS) (h:List (Nat × Option AD)) (tr:List (List Nat × List Nat)):Rr :=
 YA sz o.dst next t h tr (PU sp cf np id (Kf h) o.op (IN t o.xs))
def KJ:Option Bool->Bool->Bool
 | some true,true=>true
 | some false,false=>true
 | _,_=>false
def WE (sz:Nat) (dst:Option Nat) (next:TS->List (Nat × Option AD)->List (List Nat × List Nat)->Rr) (t:TS) (h:List (Nat × Option AD)) (tr:List (List Nat × List Nat)):Rr :=
 match dst with
 | none=>next t h (tr++[([],[])])
 | some d=>match Nat.blt d sz with
   | true=>EC (.tup []) t d (OZ next h (tr++[([],[])]))
   | false=>none
def Ki (sp:List FuncId) (cf:Cf) (sz np id:Nat) (o:CG) (next:TS->List (Nat × Option AD)->List (List Nat × List Nat)->Rr) (t:TS) (h:List (Nat × Option AD)) (tr:List (List Nat × List Nat)) (want:Bool):Option (Option Bool)->Rr
 | none=>none
 | some b=>match KJ b want with
   | true=>HR sp cf sz np id o next t h tr
   | false=>WE sz o.dst next t h tr
def NW (sp:List FuncId) (cf:Cf) (sz np id:Nat) (o:CG) (next:TS->List (Nat × Option AD)->List (List Nat × List Nat)->Rr) (t:TS) (h:List (Nat × Option AD)) (tr:List (List Nat × List Nat)):Rr :=
 match o.guard with
 | none=>HR sp cf sz np id o next t h tr
 | some (g,want)=>Ki sp cf sz np id o next t h tr want (G8 (CP t g))
def Ho (sp:List FuncId) (cf:Cf) (sz np:Nat) (ops:List CG):Nat->(Nat->TS->List (Nat × Option AD)->List (List Nat × List Nat)->Rr)->TS->List (Nat × Option AD)->List (List Nat × List Nat)->Rr :=
 List.rec (motive:=λ _=>Nat->(Nat->TS->List (Nat × Option AD)->List (List Nat × List Nat)->Rr)->TS->List (Nat × Option AD)->List (List Nat × List Nat)->Rr)
  (λ id k t h tr=>k id t h tr)
  (λ o _ ih id k t h tr=>DD (id+8) λ id'=>NW sp cf sz np id o (ih id' k) t h tr) ops
def MD (body:RS->Rr) (n:Nat):RS->Rr :=
 Nat.rec (motive:=λ _=>RS->Rr) (λ _=>none) (λ _ ih s=>match body s with
  | some (.normal,s')=>ih s'
  | r=>r) n
def Rp (draw:Bool) (ops:List CG) (after:List (List Nat)) (sz n:Nat) (t:TS) (h:List (Nat × Option AD)) (tr:List (List Nat × List Nat)):Rr :=
 match draw with
 | false=>some (.normal,⟨sz,t,h,n⟩)
 | true=>match F3 ops after tr with
   | true=>some (.normal,⟨sz,t,h,n⟩)
   | false=>none
def Ip (b:RS->Rr):Rr->Rr
 | some (.normal,s)=>b s
 | r=>r
def P8 (a b:RS->Rr) (s:RS):AV->Rr
 | .sc (.bool true)=>a s
 | .sc (.bool false)=>b s
 | _=>none
def On (id:Nat):Rr->Rr
 | some (.exit i,s)=>match Nat.beq i id with | true=>some (.normal,s) | false=>some (.exit i,s)
 | r=>r
def PV (sp:List FuncId) (cf:Cf) (np:Nat) (draw:Bool) (ops:List CG) (after:List (List Nat)):RS->Rr
 | ⟨sz,t,h,n⟩=>Ho sp cf sz np ops n (Rp draw ops after sz) t h []
def GI (sp:List FuncId) (cf:Cf) (np lf:Nat) (c:Cr):RS->Rr :=
 Cr.rec (motive:=λ _=>RS->Rr)
  (λ s=>some (.normal,s))
  (λ draw ops after=>PV sp cf np draw ops after)
  (λ _ _ a b s=>Ip b (a s))
  (λ c _ _ a b s=>P8 a b s (c.ev (CP s.t)))
  (λ id _ a s=>On id (a s))
  (λ _ a s=>MD a lf s)
  (λ id s=>some (.exit id,s))
  (λ s=>some (.ret,s))
  (λ _=>none) c
def Pe (s:RS) (r:Nat × Option (Bool × Nat)):Option AV :=
 match r with
 | (t,none)=>some (s.get t)
 | (t,some (ag,n))=>match EQ s.hp (s.get t) with
   | some cs=>if n<=cs.length/\(ag=true∨n=1) then some (if ag then .agg (cs.take n) else cs.headD .dead) else none
   | none=>none
def Kt (s:RS):List (Nat × Option (Bool × Nat))->Option (List AV)
 | []=>some []
 | r::rs=>match Pe s r,Kt s rs with
   | some v,some vs=>some (v::vs)
   | _,_=>none
def Lx (np:Nat) (s:RS) (vs:List AV) (small:Bool) (ex sn:List Nat):Option (AV × List (Option AD)) :=
 match KU (List.range np++ex) && ((ex.all λ i=>Nat.ble np i) && sn.all λ i=>!ex.contains i && Nat.ble np i) with
 | true =>
   I2 (!small) 6 (conv (List.range np++ex).zipIdx sn s.hp 4 (DE vs)) λ r =>
   Dg (λ (o:Option AD) k=>match o with | none=>k none | some e=>Jy (!small) e λ e=>k (some e)) ((List.range np++ex).map λ i=>(s.hp i).map (AX (List.range np++ex).zipIdx sn s.hp 4)) λ es=>some (r,es)
 | false=>none
def Ke (rs:List (Nat × Option (Bool × Nat))) (np:Nat) (s:RS):Option (AV × List (Option AD)) :=
 match Kt s rs with
 | none=>none
 | some vs =>
   Dg DD (Fp [] (En 5 (DE vs))) λ top =>
   Dg DD ((Rc s.hp 4 (Fp (List.range np) top)).filter λ i=>Nat.ble np i) λ new =>
   match Nat.ble new.length 8 with
   | true=>Lx np s vs true new []
   | false =>
     Dg DD (top.filter λ i=>Nat.ble np i) λ ex =>
     Dg DD (new.filter λ i=>!ex.contains i) λ sn=>Lx np s vs false ex sn
def V3 (rs:List (Nat × Option (Bool × Nat))) (np:Nat):Rr->Option (AV × List (Option AD))
 | some (.normal,s)=>Ke rs np s
 | some (.ret,s)=>Ke rs np s
 | _=>none
def MT (sp:List FuncId) (cf:Cf) (lf:Nat) (af:B6) (args:List AV) (hs:List AD):Option (AV × List (Option AD)) :=
 match Nat.ble args.length af.nt && Nat.ble hs.length 16 with
 | true =>
   Dg (I2 false 6) args λ args =>
   Ia args 0 (KW 9) λ t =>
   Dg (LN false) (hs.zipIdx.map λ (e,k)=>(k,some e)) λ h =>
   DD hs.length λ np=>V3 af.res np (GI sp cf np lf af.code ⟨af.nt,t,h,16⟩)
 | false=>none
def O3 (tbl:List (FuncId × B6)) (k:B6->Option (AV × List (Option AD))) (f:FuncId):Option (AV × List (Option AD)) :=
 match MG tbl f with
 | some af=>k af
 | none=>none
def Mt (x y:Option (AV × List (Option AD))):Option (AV × List (Option AD)):=match x with
 | some r=>some r
 | none=>y
def JD (sp:List FuncId) (ext:Cf) (tbl:List (FuncId × B6)) (lf d:Nat):Cf :=
 Nat.rec (motive:=λ _=>Cf) (λ _ _ _=>none) (λ _ ih f args hs=>Mt (ext f args hs) (O3 tbl (λ af=>MT sp ih lf af args hs) f)) d
variable {K:AV->List Nat->List (Nat × Option AD)->Prop} {f:FuncId} {h:Nat->Option AD} {np:Nat} {rd:List Nat} {up:List (Nat × Option AD)} {v:AV} {xs:List AV} {α:Type}
section
variable {β:Type}
theorem H0 (n:Nat) (k:Nat->β):DD n k=k n:=by cases n<;>rfl
theorem ZO (n:Int) (k:Int->β):RO n k=k n:=by
 cases n<;>(unfold RO;exact H0 _ _)
theorem gD (v:Value) (k:Value->β):RR v k=k v:=by
 unfold RR;split
 .exact ZO _ _
 .rename_i b;cases b<;>rfl
 .rfl
theorem FW {α:Type} {f:α->(α->β)->β} (hf:∀ x k,f x k=k x):∀ (l:List α) (k:List α->β),Dg f l k=k l
 | [],k=>rfl
 | x::xs,k=>by
   show f x (λ x=>Dg f xs λ xs=>k (x::xs))=_;rw[hf,FW hf xs]
theorem ZQ (d:Bool) {ih:AV->(AV->β)->β} (h:∀ x k,ih x k=k x) (x:AV) (k:AV->β):M9 d ih x k=k x:=by
 unfold M9;split<;>(try split)<;>simp only[H0,gD,FW h,h,FW (FW h)]
theorem JJ (d:Bool):∀ (n:Nat) (x:AV) (k:AV->β),I2 d n x k=k x
 | 0,_,_=>rfl
 | n+1,x,k=>ZQ d (JJ d n) x k
theorem Ol (d:Bool) (e:AD) (k:AD->β):Jy d e k=k e:=by
 obtain⟨s,rows,ro⟩:=e;simp only[Jy,H0,FW (FW (JJ d 5))]
theorem WQ (d:Bool) (p:Nat × Option AD) (k:Nat × Option AD->β):LN d p k=k p:=by
 obtain⟨i,e⟩:=p
 cases e<;>simp only[LN,H0,Ol]
end
theorem HA {i j:Nat}:Nat.beq i j=decide (i=j):=by
 cases h:Nat.beq i j with
 | true=>rw[QX (U7 h)]
 | false=>rw[QJ (Nat.ne_of_beq_eq_false h)]
theorem N2 {α:Type}:∀ (l:List (Nat × α)) (j:Nat),MG l j=AW l j
 | [],_=>rfl
 | (i,x)::l,j=>by
   show Bool.rec (motive:=λ _=>Option α) (MG l j) (some x) (Nat.beq i j)=_;rw[N2 l j,HA,AW]
   by_cases h:i=j
   .rw [QX h,if_pos h]
   .rw [QJ h,if_neg h]
theorem nK (o:Option (Option α)):YH o=o.getD none:=by cases o<;>rfl
theorem Wy (h:List (Nat × Option AD)) (id:Nat):Kf h id=(AW h id).getD none:=by
 unfold Kf;rw[N2,nK]
theorem IL (v:AV) (l r:TS) (i:Nat):CP (.nd v l r) (i+1)=if i % 2=0 then CP l (i / 2) else CP r (i / 2):=by
 show Bool.rec (motive:=λ _=>AV) (CP r (i / 2)) (CP l (i / 2)) (Nat.beq (i % 2) 0)=_;rw[HA]
 by_cases h:i % 2=0
 .rw [QX h,if_pos h]
 .rw [QJ h,if_neg h]
theorem LL {γ:Type} (v:AV):∀ (t:TS) (i:Nat),(∃ t',(∀ k:TS->Option γ,EC v t i k=k t') /\ ∀ j,CP t' j=if i=j then v else CP t j) ∨ ∀ k:TS->Option γ,EC v t i k=none
 | .lf,_=>.inr λ _=>rfl
 | .nd x l r,0=>.inl ⟨.nd v l r,λ _=>rfl,λ j=>by
   cases j with
   | zero=>rfl
   | succ j=>rw[if_neg zy,IL,IL]⟩
 | .nd x l r,i+1=>by
   have hu:∀ k:TS->Option γ,EC v (.nd x l r) (i+1) k=Bool.rec (motive:=λ _=>Option γ) (EC v r (i / 2) λ tr'=>k (.nd x l tr')) (EC v l (i / 2) λ tl'=>k (.nd x tl' r)) (Nat.beq (i % 2) 0):=λ _=>rfl
   by_cases h:i % 2=0
   .rcases LL (γ:=γ) v l (i / 2) with ⟨t',h1,h2⟩ | h1
    .refine .inl ⟨.nd x t' r,λ k=>by rw[hu,HA,QX h];exact h1 _,λ j=>?_⟩
     cases j with
     | zero=>rw[if_neg zy];rfl
     | succ j =>
       rw[IL,IL,h2]
       by_cases hj:j % 2=0
       .rw [if_pos hj,if_pos hj]
        by_cases he:i=j
        .subst he;rw[if_pos rfl,if_pos rfl]
        .rw [if_neg zy,if_neg zy]
       .rw [if_neg hj,if_neg hj,if_neg zy]
    .exact .inr λ k=>by rw[hu,HA,QX h];exact h1 _
   .rcases LL (γ:=γ) v r (i / 2) with ⟨t',h1,h2⟩ | h1
    .refine .inl ⟨.nd x l t',λ k=>by rw[hu,HA,QJ h];exact h1 _,λ j=>?_⟩
     cases j with
     | zero=>rw[if_neg zy];rfl
     | succ j =>
       rw[IL,IL,h2]
       by_cases hj:j % 2=0
       .rw [if_pos hj,if_pos hj,if_neg zy]
       .rw [if_neg hj,if_neg hj]
        by_cases he:i=j
        .subst he;rw[if_pos rfl,if_pos rfl]
        .rw [if_neg zy,if_neg zy]
    .exact .inr λ k=>by rw[hu,HA,QJ h];exact h1 _
theorem ZA:∀ (n i:Nat),CP (KW n) i = .dead
 | 0,_=>rfl
 | n+1,0=>rfl
 | n+1,i+1=>by
   have hu:KW (n+1) = .nd .dead (KW n) (KW n):=rfl;rw[hu,IL,ZA,ite_self]
theorem Yv {γ:Type}:∀ (xs:List AV) (i:Nat) (t:TS) (k:TS->Option γ) (r:γ),Ia xs i t k=some r -> ∃ t',k t'=some r /\ ∀ j,CP t' j=if i<=j/\j<i+xs.length then xs.getD (j - i) .dead else CP t j
 | [],i,t,k,r,h=>⟨t,h,λ j=>by rw[if_neg zz]⟩
 | x::xs,i,t,k,r,h=>by
   have h:EC x t i (λ t'=>Ia xs (i+1) t' k)=some r:=h;rcases LL (γ:=γ) x t i with ⟨t1,h1,h2⟩ | h1
   .rw [h1] at h
    obtain⟨t2,h3,h4⟩:=Yv xs (i+1) t1 k r h;refine⟨t2,h3,λ j=>?_⟩;rw[h4,h2];simp only[QS]
    by_cases hj:i=j
    .subst hj
     rw[if_neg zy,if_pos rfl,if_pos zy,Nat.sub_self]
     rfl
    .by_cases hr:i<=j/\j<i+(xs.length+1)
     .rw [if_pos zy,if_pos hr,show j - i=(j - (i+1))+1 by omega]
      rfl
     .rw [if_neg zy,if_neg hj,if_neg hr]
   .rw [h1] at h
    cases h
theorem N4 (i:Nat):∀ (l:List (Nat × Option AD)),∃ l',(∀ k,FM i l k=k l') /\ ∀ j,AW l' j=if j=i then none else AW l j
 | []=>⟨[],λ _=>rfl,λ j=>by simp[AW]⟩
 | (j,e)::l=>by
   obtain⟨l',h1,h2⟩:=N4 i l;have hu:∀ k,FM i ((j,e)::l) k=Bool.rec (motive:=λ _=>Rr) (FM i l λ l'=>k ((j,e)::l')) (FM i l k) (Nat.beq j i):=λ _=>rfl
   by_cases hj:j=i
   .refine ⟨l',λ k=>by rw[hu,HA,QX hj];exact h1 k,λ j'=>?_⟩
    rw[h2]
    by_cases q:j'=i
    .simp [q]
    .have:j≠j':=λ e=>q (e ▸ hj)
     simp[q,AW,this]
   .refine ⟨(j,e)::l',λ k=>by rw[hu,HA,QJ hj];exact h1 _,λ j'=>?_⟩
    simp only[AW]
    by_cases q:j=j'
    .subst q;simp[hj]
    .simp [q,h2]
theorem Nn:∀ (up h:List (Nat × Option AD)),∃ h',(∀ k,HF up h k=k h') /\ ∀ id,(AW h' id).getD none=(AW (up++h) id).getD none
 | [],h=>⟨h,λ _=>rfl,λ _=>rfl⟩
 | (i,none)::up,h=>by
   obtain⟨h1,q1,q2⟩:=Nn up h;obtain⟨h2,r1,r2⟩:=N4 i h1;refine⟨h2,λ k=>by show HF up h (λ h=>FM i h (Im (i,none) k))=_;rw[q1,r1];rfl,λ id=>?_⟩
   rw[r2,Uc,AW]
   by_cases hi:i=id
   .subst hi;simp
   .rw [if_neg (λ e=>hi e.symm),if_neg hi,q2]
 | (i,some e)::up,h=>by
   obtain⟨h1,q1,q2⟩:=Nn up h;obtain⟨h2,r1,r2⟩:=N4 i h1;refine⟨(i,some e)::h2,λ k=>by show HF up h (λ h=>FM i h (Im (i,some e) k))=_;rw[q1,r1];rfl,λ id=>?_⟩
   rw[Uc,AW,AW]
   by_cases hi:i=id
   .subst hi;simp
   .rw [if_neg hi,if_neg hi,r2,if_neg (λ e=>hi e.symm),q2]
theorem S6 (t:TS):∀ xs:List Da,IN t xs=xs.map (·.ev (CP t))
 | []=>rfl
 | x::xs=>by
   show x.ev (CP t)::IN t xs=_;rw[S6 t xs];rfl
theorem Tq:∀ xs:List AV,Mh xs=true -> ∀ x∈xs,∃ v,x = .sc v
 | [],_,x,hx=>(QT hx).elim
 | y::xs,h,x,hx=>by
   have hu:Mh (y::xs)=Bool.rec (motive:=λ _=>Bool) false (Mh xs) (LZ y):=rfl;rw[hu] at h
   cases hy:LZ y with
   | false=>rw[hy] at h;cases h
   | true =>
     rw[hy] at h;rcases Qu.1 hx with rfl | hx
     .unfold LZ at hy
      split at hy
      .exact ⟨_,rfl⟩
      .cases hy
     .exact Tq xs h x hx
theorem T7 (k:IntKind):Cp k=2 ^ k.bits:=by cases k<;>rfl
theorem aO (k:IntKind):E9 k=2 ^ (k.bits - 1):=by cases k<;>rfl
theorem TK (k:IntKind):Cp k=2*E9 k/\0<E9 k:=by cases k<;>exact⟨rfl,zx⟩
theorem WH (k:IntKind) (n:Int):(DB k n:Int)=n % ((2 ^ k.bits:Nat):Int):=by
 have h0:0<Cp k:=by have:=TK k;omega
 rw[<- T7]
 cases n with
 | ofNat m=>simp[DB]
 | negSucc m =>
   simp only[DB];generalize hM:Cp k=M at *;have h1:=Nat.div_add_mod m M;have h2:=Nat.mod_lt m h0
   have h3:Int.negSucc m=((M - 1 - m % M:Nat):Int)+(M:Int)*(-((m / M:Nat):Int) - 1):=by
    rw[Int.negSucc_eq];have h4:((M - 1 - m % M:Nat):Int)=(M:Int) - 1 - ((m % M:Nat):Int):=zy
    have h5:(m:Int)=(M:Int)*((m / M:Nat):Int)+((m % M:Nat):Int):=by exact_mod_cast h1.symm
    rw[h4,h5,Int.mul_sub,Int.mul_neg];have h6:((M*(m / M)+m % M:Nat):Int)=(m:Int):=by exact_mod_cast h1
    omega
   rw[h3,Int.add_mul_emod_self_left,Int.emod_eq_of_lt zy zy]
theorem aP (k:IntKind) (r:Nat) (hr:r<Cp k):Fw k.signed (Cp k) (E9 k) r=if k.signed && decide ((r:Int)≥(2 ^ (k.bits - 1):Int)) then (r:Int) - (2 ^ k.bits:Int) else r:=by
 have e1:(2 ^ k.bits:Int)=((Cp k:Nat):Int):=by rw[T7];norm_cast
 have e2:(2 ^ (k.bits - 1):Int)=((E9 k:Nat):Int):=by rw[aO];norm_cast
 rw[e1,e2];unfold Fw
 have e3:(decide ((r:Int)≥((E9 k:Nat):Int)))=Nat.ble (E9 k) r:=by
  rw[Qg,Qa,Nat.ble_eq];omega
 rw[e3]
 cases hc:(k.signed && Nat.ble (E9 k) r) with
 | true =>
   simp only[cond_true,UP];rw[Int.negSucc_eq];omega
 | false=>simp
theorem LM (k:IntKind) (n:Int):Gq k n=k.wrap n:=by
 have h2:=TK k;have e1:(2 ^ k.bits:Int)=((2 ^ k.bits:Nat):Int):=by norm_cast
 have q:DB k n<Cp k:=by cases n<;>simp only[DB]<;>first | exact Nat.mod_lt _ zy | omega
 have main:Fw k.signed (Cp k) (E9 k) (DB k n)=k.wrap n:=by
  rw[aP k _ q];unfold IntKind.wrap;simp only;rw[WH,<- e1]
 rw[<- main]
 cases n with
 | ofNat m =>
   simp only[Gq,DB]
   cases hb:Nat.blt m (E9 k) with
   | true =>
     have hm:m<E9 k:=by simpa [Nat.blt_eq] using hb
     rw[cond_true,Nat.mod_eq_of_lt zy]
     unfold Fw
     have:Nat.ble (E9 k) m=false:=by
      cases h:Nat.ble (E9 k) m with
      | false=>rfl
      | true=>have:=Ar h;omega
     rw[this,Bool.and_false,cond_false]
   | false=>rfl
 | negSucc m=>rfl
theorem SU (n:Nat):(2:Int) ^ n=Int.ofNat (Nat.pow 2 n):=by
 show (2:Int) ^ n=((2 ^ n:Nat):Int)
 norm_cast
theorem YX {k k':IntKind}:Nat.beq (kN k) (kN k')=decide (k=k'):=by cases k<;>cases k'<;>rfl
theorem OY (a b:Int):IJ a b=decide (a<b):=by
 unfold IJ
 cases a<;>cases b<;>simp only<;>rw[Qg]<;>simp[Nat.blt_eq]<;>omega
theorem X9 (a b:Int):Kn a b=(a == b):=by
 unfold Kn
 cases a<;>cases b<;>simp only[HA]<;>rw[Qg]<;>simp<;>omega
theorem W7 (m n:Nat):GY m n=min m n:=by
 unfold GY
 cases h:Nat.ble m n with
 | true=>have:=Ar h;rw[cond_true];omega
 | false =>
   have:¬ m<=n:=λ h2=>by rw[Nat.ble_eq_true_of_le h2] at h;cases h
   rw[cond_false];omega
theorem XK (k k':IntKind) (a b:Int):HS k a b=Aq .shl (.int k a) (.int k' b):=by
 unfold HS
 cases b with
 | ofNat n=>simp only[Aq,LM,SU,W7];simp
 | negSucc n=>simp only[Aq];rw[if_neg zy]
theorem YZ (k k':IntKind) (a b:Int):HE k a b=Aq .shr (.int k a) (.int k' b):=by
 unfold HE
 cases b with
 | ofNat n =>
   simp only[Aq,SU,W7];rw[if_pos zz]
   cases a with
   | ofNat m =>
     have h:∀ q:Nat,(Int.ofNat m).fdiv (Int.ofNat q)=Int.ofNat (m / q):=λ q=>(Int.ofNat_fdiv m q).symm;simp only[h];rfl
   | negSucc m=>rfl
 | negSucc n=>simp only[Aq];rw[if_neg zy]
theorem u0 (k:IntKind) (a b:Int):IW k a b=Aq .quo (.int k a) (.int k b):=by
 unfold IW;split
 .simp only[Aq,UP,LM]
  rw[if_neg zw]
  cases a<;>rfl
 .rfl
theorem Zt (k:IntKind) (a b:Int):Ix k a b=Aq .rem (.int k a) (.int k b):=by
 unfold Ix;split
 .simp only[Aq,UP]
  rw[if_neg zw]
  cases a<;>rfl
 .rfl
theorem d8 (op:BinOp) (k:IntKind) (a b:Int):Ii op k a b=Aq op (.int k a) (.int k b):=by
 have hb:∀ z:Int,(BitVec.ofInt k.bits z).toNat=DB k z:=λ z=>by
  have h1:=BitVec.toNat_ofInt (n:=k.bits) z;rw[h1];have h2:=WH k z;omega
 unfold Ii
 cases op<;>simp only[XK k k,YZ k k,u0,Zt]<;>(try rfl)
 all_goals simp only[Aq,UP,LM,OY,X9]
 all_goals first
  | rfl
  | (simp only[BitVec.toNat_and,BitVec.toNat_or,BitVec.toNat_xor,hb];rfl)
  | (congr 2;rw[Qg];simp)
  | (congr 2;rw[Qg];simp;done)
theorem vE (op:BinOp) (x y:Value):IZ op x y=Aq op x y:=by
 unfold IZ;split
 .rename_i k a
  split
  .rename_i k' b
   rw[YX]
   by_cases h:k=k'
   .subst h
    rw[QX rfl,cond_true,d8]
   .rw [QJ h,cond_false]
    unfold Jn;split
    .exact XK _ _ _ _
    .exact YZ _ _ _ _
    .rfl
  .rfl
 .rfl
theorem Rm:∀ (n:Nat) (x:AV),H9 n x=true->Plain x
 | 0,_,h=>by cases h
 | n+1,x,h=>by
   have ih:=Rm n
   have hl:∀ xs:List AV,xs.all (H9 n)=true -> ∀ i:Nat,Plain (xs.getD i .dead):=by
    intro xs hx i;simp only[List.getD]
    cases hi:xs[i]? with
    | none=>exact .dead
    | some y=>exact ih y (Ut.1 hx y (Um hi))
   unfold H9 at h;split at h
   .exact .dead
   .exact .sc _
   .exact .agg _ (hl _ h)
   .exact .tup _ (hl _ h)
   .exact .rs _ _ _
   .exact .pt _ _ _
   .exact .mp _
   .cases h
theorem DG.self:∀ xs:List AV,DG xs xs
 | []=>trivial
 | x::xs=>⟨.refl x,DG.self xs⟩
theorem OQ:∀ l:List Nat,KU l=true->l.Nodup
 | [],_=>List.nodup_nil
 | i::is,h=>by
   simp only[KU,QH,UK,List.contains_eq_mem,Qb] at h;exact Uh.2 ⟨h.1,OQ is h.2⟩
theorem V8:∀ (l:List (Option AD)) (es:List AD),LR l=some es->l=es.map some
 | [],es,h=>by cases h;rfl
 | none::_,_,h=>by cases h
 | some e::l,es,h=>by
   unfold LR at h;split at h
   .rename_i es' h';cases h;rw[QA,<- V8 l es' h']
   .cases h
section
variable {P:Program} {sp:List FuncId} {cf:FuncId->List AV->List AD->Option (AV × List (Option AD))} (aB:∀ f a b r c,cf f a b=some (r,c)->CF P f a b r c)
include aB
def N8 (P:Program) (np id:Nat) (h:Nat->Option AD) (f:FuncId) (xs:List AV) (K:AV->List Nat->List (Nat × Option AD)->Prop):Prop :=
    ∃ (ids sn:List Nat) (raise:Bool) (args':List AV) (hs:List AD) (res:AV) (hs':List (Option AD)),
      ids.Nodup/\(∀ i∈sn,i∉ids)/\(raise=true -> ∀ i∈sn,np<=i)/\DG (xs.map (conv ids.zipIdx sn h 4)) args' /\
      ids.map (λ i=>(h i).map (AX ids.zipIdx sn h 4))=hs.map some/\CF P f args' hs res hs'/\hs'.length<=hs.length+8 /\
      (raise=true∨(Plain res /\ ∀ e,some e∈hs'->GB e)) /\
      K (conv ((ids++(List.range 8).map (id + ·)).zipIdx.map λ (a,b)=>(b,a)) [] (λ _=>none) 4 res) (ids++sn)
        ((hs'.zipIdx.map λ (e,k)=>((ids++(List.range 8).map (id + ·)).getD k 0,e.map (AX ((ids++(List.range 8).map (id + ·)).zipIdx.map λ (a,b)=>(b,a)) [] (λ _=>none) 4))) ++
         (if raise then sn.filterMap (λ i=>(h i).map λ e=>(i,some { e with ro:=e.rows.length })) else []))
omit aB in
theorem Wi {np h2 id:Nat} {h h':Nat->Option AD} {f:FuncId} {xs:List AV} {v:AV} {rd:List Nat} {up:List (Nat × Option AD)} {u sn:List Nat} {q:Bool} {args':List AV} {hs:List AD} {res:AV} {hs':List (Option AD)}
  (h5:DG (xs.map (conv u.zipIdx sn h 4)) args') (h3:u.map (λ i=>(h i).map (AX u.zipIdx sn h 4))=hs.map some) (hc:CF P f args' hs res hs') (hpl:q=true∨(Plain res /\ ∀ e,some e∈hs'->GB e))
  (e:MB u sn h2 id hs.length h' res hs' q=some (v,rd,up)) (h4:sn=[]∨(h2=np/\h'=h)) {K:AV->List Nat->List (Nat × Option AD)->Prop} (hk:K v rd up):N8 P np id h f xs K:=by
 unfold MB at e
 cases h0:Mv u sn h2 hs.length q hs' with
 | false=>rw[h0] at e;cases e
 | true =>
   rw[h0] at e;simp only[cond_true,Qw,Prod.mk.injEq] at e;obtain⟨rfl,rfl,rfl⟩:=e;unfold Mv at h0;simp only[QH,UX,UK,Nat.ble_eq,Ut,List.contains_eq_mem,Qb] at h0;obtain⟨c1,c2,c3,c4⟩:=h0;refine⟨u,sn,q,args',hs,res,hs',OQ _ c1,c2,λ hr i hi=>?_,h5,h3,hc,c4,hpl,?_⟩
   .rcases h4 with rfl | ⟨rfl,_⟩
    .exact (QT hi).elim
    .rcases c3 with h1 | h1
     .rw [hr] at h1;cases h1
     .exact h1 i hi
   .rcases h4 with rfl | ⟨_,rfl⟩
    .have:L2 u [] id h' q hs'=L2 u [] id h q hs':=by unfold L2;simp
     rw[this] at hk;exact hk
    .exact hk
theorem PG {id:Nat} {u:Bool} {h3 sn:List Nat} (e:KF cf np id h f xs u h3 sn=some (v,rd,up)) (hk:K v rd up):N8 P np id h f xs K:=by
 unfold KF at e;rw[FW (JJ _ 6)] at e;split at e
 .cases e
 rename_i h4 h0;rw[FW (Ol _)] at e;unfold Xb at e;split at e
 .cases e
 rename_i res hs' q;refine Wi (DG.self _) (V8 _ _ h0) (aB _ _ _ _ _ q) ?_ e (.inr ⟨rfl,rfl⟩) hk;split
 .exact .inl rfl
 .cases hs:(!(H9 5 res && hs'.all Sz)) with
  | true=>exact .inl rfl
  | false =>
    right
    simp only[U9,QH] at hs;refine⟨Rm _ _ hs.1,λ e he row h2 x hx=>?_⟩;have h1:=Ut.1 hs.2 _ he;exact Rm _ _ (Ut.1 (Ut.1 h1 row h2) x hx)
theorem Xc {id:Nat} (e:LS sp cf np id h f xs=some (v,rd,up)) (hk:K v rd up):N8 P np id h f xs K:=by
 unfold LS at e;split at e
 .rename_i u
  have hx:xs.map (conv ([]:List Nat).zipIdx [] h 4)=xs:=by
   have:xs.map (conv ([]:List Nat).zipIdx [] h 4)=xs.map (λ x=>x):=Ur λ x hx=>by
    obtain⟨v,rfl⟩:=Tq xs u x hx;rfl
   rw[this,List.map_id']
  unfold X6 at e;split at e
  .rename_i v0 q
   cases e;exact⟨[],[],true,xs,[],.sc v0,[],List.nodup_nil,zz,zz,by rw[hx];exact DG.self _,rfl,aB _ _ _ _ _ q,zz,.inl rfl,by simpa [conv] using hk⟩
  .rename_i res hs' _ q
   exact Wi (hs:=[]) (by rw[hx];exact DG.self _) rfl (aB _ _ _ _ _ q) (.inl rfl) e (.inl rfl) hk
  .cases e
 .simp only[FW (H0 (β:=Br))] at e
  split at e
  .exact PG aB e hk
  .split at e
   .exact PG aB e hk
   .exact PG aB e hk
omit aB in
theorem tL {lo hi:Bool} {n l r:Nat} {bs:List AV} (h:Pv lo hi n bs=some (l,r)):bs=(if lo then [AV.I l] else [])++(if hi then [AV.I r] else [])/\(lo=false->l=0)/\(hi=false->r=n):=by
 unfold Pv at h;split at h
 .cases h;simp
 .split at h
  .rename_i hp;cases h;simp[Int.toNat_of_nonneg hp]
  .cases h
 .split at h
  .rename_i hp;cases h;simp[Int.toNat_of_nonneg hp]
  .cases h
 .split at h
  .rename_i hp;cases h;simp[Int.toNat_of_nonneg hp.1,Int.toNat_of_nonneg hp.2]
  .cases h
 .cases h
theorem VY {id:Nat} {op:E6} (e:PU sp cf np id h op xs=some (v,rd,up)) (hk:K v rd up):aK P np id op xs h K:=by
 cases op<;>simp only[PU] at e
 case app s b =>
  unfold SE at e;split at e
  .rename_i x y
   split at e
   .cases e
   .rename_i x hx
    rw[JN (λ ⟨i,o,l,c,e⟩=>hx i o l c e)];split at e
    .rename_i new h0
     split at e
     .rename_i old h3
      split at e
      .rename_i hc
       cases e;exact⟨new,old,h0,h3,hc.1,hc.2,hk⟩
      .cases e
     .cases e
    .cases e
  .cases e
 case slc s lo hi mx =>
  cases mx with
  | true=>simp only at e;cases e
  | false =>
    simp only at e;unfold T9 at e;split at e
    rotate_left
    .cases e
    unfold aK
    dsimp only
    split at e
    .cases e
    rename_i n hn;split at e
    .cases e
    rename_i l r h4;obtain⟨c1,c2,c3⟩:=tL h4;split at e
    .rename_i hc
     refine⟨l,r,0,n,hn,hc.1,by simpa using c1,c2,c3,λ h=>(by cases h),?_⟩
     unfold Xt at e;split at e
     .split at e
      .rename_i hs
       cases e;refine⟨hc.2,λ h=>(by cases h),hs,?_⟩
       simpa using hk
      .cases e
     .split at e
      .rename_i e0 u
       split at e
       .rename_i hs;cases e;exact⟨hc.2,rfl,⟨_,u,hs⟩,hk⟩
       .cases e
      .cases e
     .cases e;exact⟨hc.2,λ h=>(by cases h),hk⟩
     .cases e
    .cases e
 all_goals first
  | (cases e;done)
  | delta KP at e | delta WN at e | delta R5 at e | delta YT at e | delta X8 at e | delta WW at e | delta KO at e | delta J6 at e | delta WX at e | delta VF at e | delta R8 at e | delta Sw at e | delta W8 at e
  | delta KA at e | delta Yg at e | delta WA at e | delta YF at e | delta V6 at e | delta VO at e | delta Ye at e | delta Yj at e | delta XO at e | delta Vy at e | delta V2 at e | delta WK at e | delta Wo at e | delta Yc at e | delta Ty at e
  | delta XY at e | delta YC at e | delta TR at e | delta TX at e | delta TH at e | delta YB at e | delta Sq at e | delta WL at e | delta VN at e | delta Ws at e | delta WZ at e | delta VX at e | delta Su at e | delta Wq at e
 all_goals (try dsimp only at e)
 case mkf=>cases e;exact hk
 case mkb=>cases e;exact hk
 case build z ps =>
  split at e
  .rename_i q;cases e;unfold aK;exact⟨_,q,hk⟩
  .cases e
 case bsl s len z ps =>
  split at e
  .rename_i q
   split at e
   .rename_i hc;cases e;unfold aK;exact⟨_,q,hc,hk⟩
   .cases e
  .cases e
 all_goals split at e
 all_goals first
  | (simp only[Qw,Prod.mk.injEq,LM] at e;obtain⟨rfl,rfl,rfl⟩:=e;exact hk)
  | cases e
  | skip
 all_goals (unfold aK;dsimp only)
 .exact ⟨_,rfl,hk⟩
 .split at e
  .rename_i q
   split at e
   .rename_i hc;cases e;exact⟨_,q,hc,hk⟩
   .cases e
  .cases e
 .split at e
  .rename_i q
   split at e
   .rename_i hc;cases e;exact⟨_,q,hc,hk⟩
   .cases e
  .cases e
 .split at e
  .rename_i e0 u
   split at e
   .rename_i hr q
    split at e
    .rename_i hc;cases e;exact⟨_,_,_,u,hr,hc.1,q,hc.2.1,hc.2.2,hk⟩
    .cases e
   .cases e
  .cases e
 .exact ⟨trivial,hk⟩
 .exact ⟨trivial,hk⟩
 .exact ⟨trivial,hk⟩
 .rw [vE] at e
  split at e
  .rename_i q;cases e;exact⟨_,q,hk⟩
  .cases e
 .split at e
  .rename_i q;cases e;exact⟨_,q,hk⟩
  .cases e
 .split at e
  .rename_i q;cases e;exact⟨_,q,hk⟩
  .cases e
 .split at e
  .rename_i hr
   split at e
   .rename_i hb;cases e;exact⟨_,_,hr,hb,hk⟩
   .cases e
  .cases e
 .split at e
  .rename_i hc;cases e;exact⟨hc.1,hc.2.1,hc.2.2.1,hc.2.2.2.1,hc.2.2.2.2,hk⟩
  .cases e
 .split at e
  .rename_i hc;cases e;exact⟨hc,hk⟩
  .cases e
 .split at e
  .rename_i hc;cases e;exact⟨hc,hk⟩
  .cases e
 .split at e
  .rename_i hc
   split at e
   .rename_i hr;cases e;exact⟨hc.1,hc.2,_,hr,hk⟩
   .cases e
  .cases e
 .split at e
  .rename_i e0 u
   split at e
   .rename_i hc;cases e;exact⟨hc.1,hc.2.1,⟨_,u,hc.2.2⟩,hk⟩
   .cases e
  .cases e
 .split at e
  .rename_i hc;cases e;exact⟨hc.1,hc.2,hk⟩
  .cases e
 .split at e
  .rename_i hc;cases e;exact⟨hc.1,hc.2.1,hc.2.2,hk⟩
  .cases e
 .split at e
  .rename_i hc
   split at e
   .rename_i hr;cases e;exact⟨hc,_,hr,hk⟩
   .cases e
  .cases e
 .split at e
  .rename_i hc;cases e;exact⟨hc.1,hc.2.1,hc.2.2,hk⟩
  .cases e
 .split at e
  .rename_i q;cases e;exact⟨_,q,hk⟩
  .cases e
 .exact Xc aB e hk
 .split at e
  .rename_i q
   split at e
   .rename_i hc;cases e;exact⟨_,q,hc,hk⟩
   .cases e
  .cases e
 .split at e
  .rename_i q;cases e;exact⟨_,q,hk⟩
  .cases e
 .split at e
  .rename_i h1 h2
   split at e
   .rename_i hc;cases e;exact⟨_,_,h1,hc.1,hc.2.1,hc.2.2,h2,hk⟩
   .cases e
  .cases e
 .split at e
  .rename_i h1
   split at e
   .rename_i hc;cases e;exact⟨_,h1,hc.1,hc.2.1,hc.2.2.1,hc.2.2.2,hk⟩
   .cases e
  .cases e
 .split at e
  .rename_i hc;cases e;exact⟨hc.1,hc.2.1,hc.2.2.1,hc.2.2.2,hk⟩
  .cases e
 .split at e
  .rename_i h1
   split at e
   .rename_i hc;cases e;exact⟨_,h1,hc,hk⟩
   .cases e
  .cases e
 .split at e
  .rename_i h1
   split at e
   .rename_i hc;cases e;exact⟨_,h1,hc,hk⟩
   .cases e
  .cases e
 .split at e
  .rename_i h1
   split at e
   .rename_i hc;cases e;exact⟨_,h1,hc,hk⟩
   .cases e
  .cases e
 .split at e
  .rename_i f hf
   obtain⟨a1,a2,a3,a4,a5,a6,a7,h⟩:=Xc aB e hk;exact⟨f,a1,a2,a3,a4,a5,a6,a7,hf,h⟩
  .cases e
structure Ev (st:St) (s:RS):Prop where
 sz:st.sz=s.sz
 n:st.n=s.n
 t:st.get=s.get
 h:st.hp=s.hp
omit aB in
theorem Ev.put {st:St} {s:RS} (a:Ev st s) {d:Nat} {v:AV} {t':TS} (ht:∀ j,CP t' j=if d=j then v else CP s.t j):Ev (st.put (some d) v) { s with t:=t' }:=by
 refine⟨a.sz,a.n,?_,a.h⟩
 funext i
 have h1:=congrFun a.t i;unfold RS.get St.get St.put at *;rw[ht];simp only[AW]
 by_cases hi:d=i
 .subst hi
  rw[if_pos rfl,if_pos rfl];rfl
 .rw [if_neg hi,if_neg hi]
  exact h1
omit aB in
theorem Ev.upd {st:St} {s:RS} (a:Ev st s) {up h:List (Nat × Option AD)} (hh:∀ id,(AW h id).getD none=(AW (up++s.h) id).getD none):Ev (st.upd up) { s with h:=h }:=by
 refine⟨a.sz,a.n,a.t,?_⟩
 funext id
 have h1:=congrFun a.h id;unfold RS.hp at *;rw[Wy] at *;show (AW (up++st.h) id).getD none=(AW h id).getD none;rw[hh]
 have key:∀ u:List (Nat × Option AD),(AW (u++st.h) id).getD none=(AW (u++s.h) id).getD none:=by
  intro u
  induction u with
  | nil=>exact h1
  | cons q u ih =>
    obtain⟨j,e⟩:=q;simp only[Uc,AW];split
    .rfl
    .exact ih
 exact key up
omit aB in
theorem bV (b:Option Bool) (q:Bool):KJ b q=decide (b=some q):=by
 cases b with
 | none=>rfl
 | some b=>cases b<;>cases q<;>rfl
theorem S9 {np n:Nat}:∀ (ops:List CG) (i:Nat) (st:St) (s:RS) (tr:List (List Nat × List Nat)) (k:Nat->TS->List (Nat × Option AD)->List (List Nat × List Nat)->Rr) (r:Ea × RS) (K:St->List (List Nat × List Nat)->Prop),
  Ev st s->Ho sp cf s.sz np ops (n+8*i) k s.t s.h tr=some r->(∀ st' s' u,s'.sz=s.sz->Ev st' s'->k (n+8*(i+ops.length)) s'.t s'.h u=some r->K { st' with n:=st.n } u) ->
  Bt P np n i ops st tr (λ st' u=>K { st' with n:=st.n } u)/\(ops.all λ o=>o.dst.all (· < s.sz))=true
 | [],i,st,s,tr,k,r,K,ag,e,hK=>⟨hK st s tr rfl ag e,rfl⟩
 | o::os,i,st,s,tr,k,r,K,ag,e,hK=>by
   have ih:=λ (st':St) (s':RS) (u:List (List Nat × List Nat)) (hn:st'.n=st.n) (h7:s'.sz=s.sz) (ha:Ev st' s') (e':Ho sp cf s.sz np os (n+8*(i+1)) k s'.t s'.h u=some r)=>S9 os (i+1) st' s' u k r K ha (by rw[h7];exact e') (λ st2 s2 tr2 q1 q2 q3=>by
    have:=hK st2 s2 tr2 (q1.trans h7) q2 (by rw[show i+(o::os).length=i+1+os.length by simp;omega];exact q3)
    rw[hn]
    exact this)
   have hu:Ho sp cf s.sz np (o::os) (n+8*i) k s.t s.h tr=DD (n+8*i+8) λ id'=>NW sp cf s.sz np (n+8*i) o (Ho sp cf s.sz np os id' k) s.t s.h tr:=rfl;rw[hu,H0,show n+8*i+8=n+8*(i+1) by omega] at e
   have h3:∀ (v:AV) (d:Nat) (h:List (Nat × Option AD)) (u:List (List Nat × List Nat)),EC v s.t d (OZ (Ho sp cf s.sz np os (n+8*(i+1)) k) h u)=some r -> ∃ t',(∀ j,CP t' j=if d=j then v else CP s.t j)/\Ho sp cf s.sz np os (n+8*(i+1)) k t' h u=some r:=by
    intro v d h u hs;rcases LL (γ:=Ea × RS) v s.t d with ⟨t',h1,h2⟩ | h1
    .rw [h1] at hs
     exact⟨t',h2,hs⟩
    .rw [h1] at hs
     cases hs
   have h8:HR sp cf s.sz np (n+8*i) o (Ho sp cf s.sz np os (n+8*(i+1)) k) s.t s.h tr=some r ->
    (aK P np (n+8*i) o.op (o.xs.map (·.ev st.get)) st.hp λ v rd up=>Bt P np n (i+1) os ((st.put o.dst v).upd up) (tr++[(rd,up.map (·.1))]) (λ st' u=>K { st' with n:=st.n } u))/\((o::os).all λ o=>o.dst.all (· < s.sz))=true:=by
    intro h;unfold HR at h;rw[S6] at h;have e1:CP s.t=st.get:=ag.t.symm;have e2:Kf s.h=st.hp:=ag.h.symm;rw[e1,e2] at h;unfold YA at h;split at h
    .cases h
    rename_i v rd up h9;rw[FW (WQ false)] at h;unfold ST at h;obtain⟨h',q1,q2⟩:=Nn up s.h;rw[q1] at h;unfold VU at h;rw[List.all_cons];split at h
    .rename_i q
     have hx:=ih ((st.put none v).upd up) { s with h:=h' } _ rfl rfl (ag.upd q2) h;refine⟨VY aB h9 ?_,by rw[q,hx.2];rfl⟩
     rw[q];exact hx.1
    .rename_i d q
     split at h
     rotate_left
     .cases h
     rename_i h4;rw[JJ] at h;obtain⟨t',h5,h⟩:=h3 _ _ _ _ h;have hx:=ih ((st.put (some d) v).upd up) { s with t:=t',h:=h' } _ rfl rfl ((ag.put h5).upd (s:={ s with t:=t' }) q2) h;refine⟨VY aB h9 ?_,by rw[q,hx.2];simpa [Nat.blt_eq] using h4⟩
     rw[q];exact hx.1
   unfold NW at e;unfold Bt;split at e
   .rename_i hg
    simp only[hg];exact h8 e
   .rename_i gg want hg
    simp only[hg];unfold Ki at e;split at e
    .cases e
    .rename_i b hb
     have h6:G8 (st.get gg)=some b:=by rw[ag.t];exact hb
     rw[bV] at e;split at e
     .rename_i h0
      have h0:=of_decide_eq_true h0;obtain⟨h1,h2⟩:=h8 e;exact⟨⟨b,h6,by rw[if_pos h0];exact h1⟩,h2⟩
     .rename_i h0
      have h0:=of_decide_eq_false h0;unfold WE at e;rw[List.all_cons];split at e
      .rename_i q
       have hx:=ih st s _ rfl rfl ag e;exact⟨⟨b,h6,by rw[if_neg h0,q];exact hx.1⟩,by rw[q,hx.2];rfl⟩
      .rename_i d q
       split at e
       rotate_left
       .cases e
       rename_i h4;obtain⟨t',h5,h⟩:=h3 _ _ _ _ e;have hx:=ih (st.put (some d) (.tup [])) { s with t:=t' } _ rfl rfl (ag.put h5) h;exact⟨⟨b,h6,by rw[if_neg h0,q];exact hx.1⟩,by rw[q,hx.2];simpa [Nat.blt_eq] using h4⟩
theorem G5 {np lf:Nat}:∀ (c:Cr) (s:RS) (r:Ea × RS),GI sp cf np lf c s=some r -> ∀ st,Ev st s->AY P np c (λ e t=>e=r.1/\Ev t r.2) st
 | .skip,s,r,h,st,ag=>by cases h;exact⟨rfl,ag⟩
 | .reg draw ops after,⟨sz,t,hh,n⟩,r,h,st,ag=>by
   have h:Ho sp cf sz np ops n (Rp draw ops after sz) t hh []=some r:=h;have hn:st.n=n:=ag.n
   have hx:=S9 aB (n:=n) ops 0 st ⟨sz,t,hh,n⟩ [] _ r (λ st' tr=>(draw=true->F3 ops after tr=true)/\Ea.normal=r.1/\Ev { st' with n:=st.n+8*ops.length } r.2) ag (by rw[Nat.mul_zero,Uj];exact h) (λ st' s' tr' q1 q2 q3=>by
    rw[Q9] at q3;unfold Rp at q3;have q1:s'.sz=sz:=q1;split at q3
    .cases q3
     exact⟨λ h=>(by cases h),rfl,⟨q2.sz.trans q1,by rw[hn],q2.t,q2.h⟩⟩
    .split at q3
     .rename_i ho
      cases q3;exact⟨λ _=>ho,rfl,⟨q2.sz.trans q1,by rw[hn],q2.t,q2.h⟩⟩
     .cases q3)
   refine⟨by rw[ag.sz];exact hx.2,?_⟩
   rw[hn];refine FD _ _ _ _ _ _ _ (λ st' tr' hq=>?_) hx.1;rw[hn] at hq;exact hq
 | .seq a b,s,r,h,st,ag=>by
   have h:Ip (GI sp cf np lf b) (GI sp cf np lf a s)=some r:=h;unfold Ip at h;show AY P np a _ st;split at h
   .rename_i s' ha
    refine Ec (λ e t ht=>?_) (G5 a s _ ha st ag);obtain⟨rfl,ag'⟩:=ht;exact⟨t,Le.refl _ _,G5 b s' r h t ag'⟩
   .rename_i q
    obtain⟨e0,s0⟩:=r;refine Ec (λ e t ht=>?_) (G5 a s _ h st ag);obtain⟨rfl,ag'⟩:=ht
    cases e with
    | normal=>exact absurd h (q s0)
    | exit id=>exact⟨rfl,ag'⟩
    | ret=>exact⟨rfl,ag'⟩
 | .cond c a b,s,r,h,st,ag=>by
   have h:P8 (GI sp cf np lf a) (GI sp cf np lf b) s (c.ev s.get)=some r:=h;unfold P8 at h;split at h
   .rename_i hc
    exact⟨true,by rw[ag.t];exact hc,G5 a s r h st ag⟩
   .rename_i hc
    exact⟨false,by rw[ag.t];exact hc,G5 b s r h st ag⟩
   .cases h
 | .block id a,s,r,h,st,ag=>by
   have h:On id (GI sp cf np lf a s)=some r:=h;unfold On at h;show AY P np a _ st;split at h
   .rename_i i s' ha
    refine Ec (λ e t ht=>?_) (G5 a s _ ha st ag);obtain⟨rfl,ag'⟩:=ht;simp only;rw[HA] at h;split at h
    .rename_i hi;cases h;rw[if_pos (of_decide_eq_true hi)];exact⟨rfl,ag'⟩
    .rename_i hi;cases h;rw[if_neg (of_decide_eq_false hi)];exact⟨rfl,ag'⟩
   .rename_i q
    obtain⟨e0,s0⟩:=r;refine Ec (λ e t ht=>?_) (G5 a s _ h st ag);obtain⟨rfl,ag'⟩:=ht
    cases e with
    | normal=>exact⟨rfl,ag'⟩
    | exit id=>exact absurd h (q id s0)
    | ret=>exact⟨rfl,ag'⟩
 | .loop a,s,r,h,st,ag=>by
   have h:MD (GI sp cf np lf a) lf s=some r:=h;refine⟨λ k t=>∃ s',Ev t s'/\MD (GI sp cf np lf a) k s'=some r,⟨st,lf,Le.refl _ _,s,ag,h⟩,?_⟩
   rintro k t ⟨s',ag',h'⟩
   match k,h' with
   | 0,h'=>cases h'
   | k+1,h' =>
     have h':(match GI sp cf np lf a s' with | some (.normal,s2)=>MD (GI sp cf np lf a) k s2 | r=>r)=some r:=h'
     split at h'
     .rename_i s2 ha
      refine Ec (λ e t ht=>?_) (G5 a s' _ ha t ag');obtain⟨rfl,ag2⟩:=ht;exact⟨t,k,Le.refl _ _,⟨s2,ag2,h'⟩,Nat.lt_succ_self k⟩
     .rename_i q
      obtain⟨e0,s0⟩:=r;refine Ec (λ e t ht=>?_) (G5 a s' _ h' t ag');obtain⟨rfl,ag2⟩:=ht
      cases e with
      | normal=>exact absurd h' (q s0)
      | exit id=>exact⟨rfl,ag2⟩
      | ret=>exact⟨rfl,ag2⟩
 | .exit id,s,r,h,st,ag=>by cases h;exact⟨rfl,ag⟩
 | .ret,s,r,h,st,ag=>by cases h;exact⟨rfl,ag⟩
 | .bad,s,r,h,st,ag=>by cases h
omit aB in
theorem Ya {st:St} {s:RS} (ag:Ev st s):∀ l,EJ st l=Kt s l
 | []=>rfl
 | r::rs=>by
   have h1:Fl st r=Pe s r:=by
    unfold Fl Pe;rw[ag.t,ag.h];rfl
   rw[EJ,Kt,Ya ag rs,h1];rfl
omit aB in
theorem Vr {np:Nat} {s:RS} {vs:List AV} {q:Bool} {ex sn:List Nat} {res:AV} {hs':List (Option AD)} (h:Lx np s vs q ex sn=some (res,hs')):np<=hs'.length /\
  ∀ (st:St) (rs:List (Nat × Option (Bool × Nat))),Ev st s->Kt s rs=some vs->AO rs np st res hs':=by
 unfold Lx at h;split at h
 .rename_i hc
  simp only[QH,Ut,Nat.ble_eq,UK,List.contains_eq_mem,Qb] at hc;obtain⟨c1,c2,c3⟩:=hc;rw[JJ,FW (λ o k=>by cases o<;>simp only[Ol])] at h
  cases h;refine⟨zz,λ st rs ag u=>⟨vs,by rw[Ya ag];exact u,ex,sn,OQ _ c1,c2,c3,?_,?_⟩⟩
  .rw [ag.h];exact .refl _
  .rw [ag.h]
 .cases h
omit aB in
theorem nE {rs:List (Nat × Option (Bool × Nat))} {np:Nat} {s:RS} {res:AV} {hs':List (Option AD)} (h:Ke rs np s=some (res,hs')):np<=hs'.length /\ ∀ st,Ev st s->AO rs np st res hs':=by
 unfold Ke at h;split at h
 .cases h
 rename_i vs q;simp only[FW (H0 (β:=Option (AV × List (Option AD))))] at h;split at h
 .obtain ⟨h1,h2⟩:=Vr h
  exact⟨h1,λ st ag=>h2 st rs ag q⟩
 .obtain ⟨h1,h2⟩:=Vr h
  exact⟨h1,λ st ag=>h2 st rs ag q⟩
theorem n5 {lf:Nat} {af:B6} (s:Src P f af) {args:List AV} {hs:List AD} {res:AV} {hs':List (Option AD)} (h:MT sp cf lf af args hs=some (res,hs')):CF P f args hs res hs':=by
 unfold MT at h;split at h
 .rename_i hc
  simp only[QH,Nat.ble_eq] at hc;rw[FW (JJ _ _)] at h;obtain⟨t',h,u⟩:=Yv _ _ _ _ _ h;rw[FW (WQ _),H0] at h
  have ag:Ev (Fv af args hs) ⟨af.nt,t',hs.zipIdx.map λ (e,k)=>(k,some e),16⟩:=by
   refine⟨rfl,rfl,?_,by funext id;unfold RS.hp;rw[Wy];rfl⟩
   funext i
   unfold St.get RS.get Fv;rw[u,ZA];simp only
   have key:∀ (l:List AV) (m i:Nat),(AW ((l.zipIdx m).map λ (a,i)=>(i,a)) (m+i)).getD .dead=l.getD i .dead:=by
    intro l
    induction l with
    | nil=>intro m i;simp[AW]
    | cons a l ih =>
      intro m i;simp only[List.zipIdx_cons,QA,AW]
      cases i with
      | zero=>simp
      | succ i =>
        rw[if_neg zy]
        have:=ih (m+1) i;rw[show m+(i+1)=m+1+i by omega,this]
        rfl
   have h1:=key args 0 i;rw[Q9] at h1;rw[h1];split
   .rw [Nat.sub_zero]
   .rename_i hi
    rw[Qn,Q6 zy]
    rfl
  have fin:∀ (e0:Ea) (s0:RS),e0 = .normal∨e0 = .ret->GI sp cf hs.length lf af.code ⟨af.nt,t',hs.zipIdx.map λ (e,k)=>(k,some e),16⟩=some (e0,s0)->Ke af.res hs.length s0=some (res,hs')->CF P f args hs res hs':=by
   intro e0 s0 he hr q;have hw:=G5 aB _ _ _ hr _ ag;obtain⟨hl,h0⟩:=nE q;refine s.acalls hc.1 hc.2 hl (Ec (λ e t ht=>?_) hw);obtain⟨rfl,ag'⟩:=ht;exact⟨he,h0 t ag'⟩
  unfold V3 at h;split at h
  .rename_i s0 hr;exact fin _ s0 (.inl rfl) hr h
  .rename_i s0 hr;exact fin _ s0 (.inr rfl) hr h
  .cases h
 .cases h
end
theorem WP {P:Program} {sp:List FuncId} {ext:Cf} {u:List (FuncId × B6)} (he:∀ f a b r c,ext f a b=some (r,c)->CF P f a b r c) (ht:∀ q∈u,Src P q.1 q.2) (lf:Nat) :
  ∀ (d:Nat) (f:FuncId) (a:List AV) (b:List AD) (r:AV) (c:List (Option AD)),JD sp ext u lf d f a b=some (r,c)->CF P f a b r c
 | 0,_,_,_,_,_,h=>by cases h
 | d+1,f,a,b,r,c,h=>by
   have h:Mt (ext f a b) (O3 u (λ af=>MT sp (JD sp ext u lf d) lf af a b) f)=some (r,c):=h;unfold Mt at h;split at h
   .rename_i hx;cases h;exact he _ _ _ _ _ hx
   .unfold O3 at h
    rw[N2] at h;split at h
    .rename_i af hl
     exact n5 (WP he ht lf d) (ht _ (DW hl)) h
    .cases h
theorem CF.wk {P:Program} {f:FuncId} {args args':List AV} {hs:List AD} {res:AV} {hs':List (Option AD)} (h:CF P f args' hs res hs') (hw:DG args args'):CF P f args hs res hs':=by
 refine⟨h.1,h.2.1,λ T M w vs h1 h2 h3 hr=>h.2.2 T M w vs h1 h2 h3 ⟨hr.1.trans hw.length,λ i hi=>?_⟩⟩;have hi':i<args.length:=by rw[hw.length];exact hi
 exact(hw.get i hi').rep (hr.2 i hi')
def LC:List UInt8->List UInt8->Bool
 | [],[]=>true
 | x::xs,y::ys=>Nat.beq x.toNat y.toNat && LC xs ys
 | _,_=>false
theorem XD:∀ {a b:List UInt8},LC a b=true->a=b
 | [],[],_=>rfl
 | x::xs,y::ys,h=>by
   simp only[LC,QH] at h;rw[XD h.2,UInt8.toNat_inj.1 (U7 h.1)]
 | [],_::_,h=>by cases h
 | _::_,[],h=>by cases h
def M5 (a b:Value):Bool:=match a with
 | .int k m=>(match b with | .int k' n=>Nat.beq (kN k) (kN k') && Kn m n | _=>false)
 | .bool x=>(match b with | .bool y=>x == y | _=>false)
 | .string s=>(match b with | .string u=>LC s.data.toList u.data.toList | _=>false)
 | .slice none 0 0=>(match b with | .slice none 0 0=>true | _=>false)
 | _=>false
theorem bS {a b:Value} (h:M5 a b=true):a=b:=by
 unfold M5 at h;split at h
 .split at h
  .rw [YX,X9,QH,Qa,beq_iff_eq] at h
   rw[h.1,h.2]
  .cases h
 .split at h
  .rw [beq_iff_eq] at h;rw[h]
  .cases h
 .split at h
  .rename_i s _ u
   have:=XD h;obtain⟨⟨s⟩⟩:=s;obtain⟨⟨u⟩⟩:=u;simp only at this;rw[this]
  .cases h
 .split at h
  .rfl
  .cases h
 .cases h
def Ir {α:Type} (q:α->α->Bool) (a:List α):List α->Bool :=
 List.rec (motive:=λ _=>List α->Bool) (λ b=>match b with | []=>true | _::_=>false) (λ x _ ih b=>match b with | []=>false | y::ys=>q x y && ih ys) a
theorem KS {α:Type} {q:α->α->Bool} (hq:∀ x y,q x y=true->x=y):∀ {a b:List α},Ir q a b=true->a=b
 | [],[],_=>rfl
 | [],_::_,h=>by cases h
 | _::_,[],h=>by cases h
 | x::xs,y::ys,h=>by
   have h:(q x y && Ir q xs ys)=true:=h;rw[QH] at h;rw[hq _ _ h.1,KS hq h.2]
def Mu (ih:AV->AV->Bool) (a b:AV):Bool:=match a with
 | .sc v=>(match b with | .sc u=>M5 v u | _=>false)
 | .agg xs=>(match b with | .agg ys=>Ir ih xs ys | _=>false)
 | .vs s false rows=>(match b with | .vs s' false rows'=>Nat.beq s s' && Ir (Ir ih) rows rows' | _=>false)
 | _=>false
def L7 (n:Nat):AV->AV->Bool:=Nat.rec (motive:=λ _=>AV->AV->Bool) (λ _ _=>false) (λ _ ih=>Mu ih) n
theorem Wm:∀ (n:Nat) (a b:AV),L7 n a b=true->a=b
 | 0,_,_,h=>by cases h
 | n+1,a,b,h=>by
   have ih:=Wm n;have h:Mu (L7 n) a b=true:=h;unfold Mu at h;split at h
   .split at h
    .rw [bS h]
    .cases h
   .split at h
    .rw [KS ih h]
    .cases h
   .split at h
    .rw [QH] at h
     rw[U7 h.1,KS (λ _ _=>KS ih) h.2]
    .cases h
   .cases h
structure Fg where
 f:FuncId
 args:List AV
 res:AV
 out:List (Option AD)
abbrev Fg.Ok (P:Program) (q:Fg):Prop:=CF P q.f q.args [] q.res q.out
def Vg (l:List Fg) (f:FuncId) (args:List AV):Option (AV × List (Option AD)) :=
 List.rec (motive:=λ _=>Option (AV × List (Option AD))) none (λ q _ ih=>match Nat.beq q.f f && Ir (L7 6) q.args args with | true=>some (q.res,q.out) | false=>ih) l
def Gf:List Int->Bool
 | []=>true
 | x::l=>(match l with | []=>true | y::_=>IJ x y) && Gf l
def Lh:List (List AV)->Option (List Int)
 | []=>some []
 | [.sc (.int .i64 n)]::r=>match Lh r with | some l=>some (n::l) | none=>none
 | _=>none
def Xg (args:List AV):Option (AV × List (Option AD)):=match args with
 | [.vs 1 false rows]=>match Lh rows with
   | some l=>match Gf l && Nat.ble l.length 1000 with | true=>some (.rs 0 0 l.length,[some ⟨1,AP l,0⟩]) | false=>none
   | none=>none
 | _=>none
def JC (l:List Fg):Cf:=λ f args hs=>match hs with
 | []=>match Nat.beq f 103 with | true=>Xg args | false=>Vg l f args
 | _::_=>none
theorem R6:∀ {rows:List (List AV)} {l:List Int},Lh rows=some l->rows=AP l
 | [],l,h=>by cases h;rfl
 | row::rows,l,h=>by
   unfold Lh at h;split at h
   .rename_i he;cases he
   .split at h
    .rename_i hr;cases h;rename_i he _ _ ;injection he with e1 e2;subst e1 e2;rw[R6 hr];rfl
    .cases h
   .cases h
theorem TJ:∀ {l:List Int},Gf l=true->l.Pairwise (· < ·)
 | [],_=>.nil
 | [x],_=>List.pairwise_singleton _ _
 | x::y::l,h=>by
   simp only[Gf,QH,OY,Qa] at h;have ih:=TJ (l:=y::l) (by simp only[Gf,QH,OY];exact h.2)
   refine Q7.2 ⟨λ z hz=>?_,ih⟩;rcases Qu.1 hz with rfl | hz
   .exact h.1
   .have:=(Q7.1 ih).1 z hz;omega
theorem gV {l:List Int} (h:l.Pairwise (· < ·)):E0 l=l:=List.mergeSort_of_pairwise (h.imp λ h=>zw)
theorem kD {l:List Fg} (h:∀ q∈l,q.Ok Tryz.prog):∀ f a b r c,JC l f a b=some (r,c)->AF f a b r c:=by
 intro f a b r c e;unfold JC at e;split at e
 .split at e
  .rename_i hf
   have hf:=U7 hf;subst hf;unfold Xg at e;split at e
   .split at e
    .rename_i L hL
     split at e
     .rename_i hA
      rw[QH] at hA;have hl:L.length<=1099511627776:=QR (Ar hA.2) zy
      replace hA:=hA.1
      cases e;have:=TJ hA;rw[R6 hL];have h1:=RU L hl;rw[gV this] at h1;exact h1
     .cases e
    .cases e
   .cases e
  .induction l with
   | nil=>cases e
   | cons q l ih =>
     have e:(match Nat.beq q.f f && Ir (L7 6) q.args a with | true=>some (q.res,q.out) | false=>Vg l f a)=some (r,c):=e
     split at e
     .rename_i hq
      rw[QH] at hq;have e1:=U7 hq.1;have e2:=KS (λ _ _=>Wm 6 _ _) hq.2
      cases e;rw[<- e1,<- e2];exact h q (Qo ..)
     .exact ih (λ q hq=>h q (Qj _ hq)) e
 .cases e
variable {P:Program}
theorem qW:∀ q∈([]:List (FuncId × B6)),Src P q.1 q.2:=λ _ h=>(QT h).elim
theorem BC {f:FuncId} {af:B6} {l:List (FuncId × B6)} (s:Src P f af) (h:∀ q∈l,Src P q.1 q.2):∀ q∈(f,af)::l,Src P q.1 q.2:=λ q hq=>by
 rcases Qu.1 hq with rfl | hq
 .exact s
 .exact h q hq
theorem sW:∀ q∈([]:List Fg),q.Ok P:=λ _ h=>(QT h).elim
theorem Km {q0:Fg} {l:List Fg} (s:q0.Ok P) (h:∀ q∈l,q.Ok P):∀ q∈q0::l,q.Ok P:=λ q hq=>by
 rcases Qu.1 hq with rfl | hq
 .exact s
 .exact h q hq
theorem PM {sp:List FuncId} {l:List Fg} {u:List (FuncId × B6)} (hl:∀ q∈l,q.Ok Tryz.prog) (ht:∀ q∈u,Src Tryz.prog q.1 q.2) {f:FuncId} {a:List AV} {r:AV} {c:List (Option AD)} (h:JD sp (JC l) u 1000 40 f a []=some (r,c)):AF f a [] r c :=
 WP (kD hl) ht 1000 40 f a [] r c h
def EG:Gr:=⟨64,[⟨0,1,2⟩],[]⟩
theorem ML:AH EG:=AH.of zx zx zx (λ i h=>by simp at h) zx (λ e he=>by
 rw[Qv] at he;subst he
 exact⟨by unfold CT;simp,zx,zx⟩)
theorem Tn:Ag (Ao EG kP.lv) kP.seeds=[0,1]:=by decide +kernel
theorem Xv {ks f:List Int} {A:List Ed} (hk:∀ x∈ks,x=0∨x=1) (hA:Av EG kP ks=A) (hf:BQ 130 A f) (hv:Ai A f=ks.length):CE EG kP ks:=by
 have hr:∀ x∈ks,0<=x/\x<EG.size:=λ x hx=>by
  have:EG.size=64:=rfl;have:=hk x hx;omega
 have h1:=Kx (p:=kP) ML Kg hr;have h2:=Xl (Kl ML Kg hr) (f:=f) (by rw[hA];exact hf)
 rw[hA,hv] at h2;rw[hA] at h1;unfold CE;rw[hA];have h3:A8 EG=130:=rfl;rw[h3] at h1 h2 ⊢;omega
theorem jL:CE EG kP [0]:=Xv (A:=[⟨0,2,5⟩,⟨2,3,4⟩,⟨4,5,2⟩,⟨2,1,1⟩,⟨3,4,64⟩]) (f:=[1,0,0,1,0]) zz (by kernel_rfl) (WR (by decide +kernel)) zx
theorem fH:CE EG kP [0,1]:=Xv (A:=[⟨0,2,5⟩,⟨2,3,4⟩,⟨4,5,2⟩,⟨2,1,1⟩,⟨4,1,1⟩,⟨3,4,64⟩]) (f:=[2,1,0,1,1,1]) zz (by kernel_rfl) (WR (by decide +kernel)) zx
theorem eY:BK EG kP=[0,1]:=by
 show Aa EG kP (Ag (Ao EG kP.lv) kP.seeds)=[0,1];rw[Tn];have h0:Aa EG kP [0]=[0]:=HK (o:=[]) (k:=0) jL;have h:=HK (g:=EG) (p:=kP) (o:=[0]) (k:=1) (by rw[h0];exact fH)
 rw[h0] at h;exact h
theorem NU {M B H L:List Int} {i:Nat} (hh:hF M i=H) (hB:(M.drop (64*i)).take 64=B) (h:Gz H B Bc=L):hF M (i+1)=L:=by rw[hF,hB,hh,h]
theorem Xp {b M H:List Int} {n:Nat} {l:List UInt8} (hp:Dd b=M) (hn:M.length / 64=n) (hh:hF M n=H) (ho:(Cy H 8).map (λ n=>UInt8.ofNat n.toNat)=l):D4 b=⟨l.toArray⟩:=by
 unfold D4;rw[hp,hn,hh,ho]
def FP:ByteArray:=⟨#[213,198,61,43,39,42,223,69,70,191,239,110,180,234,7,102,6,64,221,248,206,23,103,233,176,201,1,219,69,186,162,102]⟩
def OJ:List Int:=[0,0,0,0,0,0,0,0,0,0,0,0,0,0,0,0,0,0,0,0,0,0,0,0,0,0,0,0,0,0,0,3,0,0,0,0,0,0,0,1,0,0,0,0,0,0,0,1,0,0,0,0,0,0,0,2,0,0,0,0,0,0,0,50,0,0,0,0,0,0,0,0,0,0,0,0,0,0,0,0,0,0,0,0,0,0,0,0]
theorem RK:D4 OJ=FP:=by
 have h0:hF [0,0,0,0,0,0,0,0,0,0,0,0,0,0,0,0,0,0,0,0,0,0,0,0,0,0,0,0,0,0,0,3,0,0,0,0,0,0,0,1,0,0,0,0,0,0,0,1,0,0,0,0,0,0,0,2,0,0,0,0,0,0,0,50,0,0,0,0,0,0,0,0,0,0,0,0,0,0,0,0,0,0,0,0,0,0,0,0,128,0,0,0,0,0,0,0,0,0,0,0,0,0,0,0,0,0,0,0,0,0,0,0,0,0,0,0,0,0,0,0,0,0,0,0,0,0,2,192] 0=[1779033703,3144134277,1013904242,2773480762,1359893119,2600822924,528734635,1541459225]:=rfl;have h1:=NU h0 (B:=[0,0,0,0,0,0,0,0,0,0,0,0,0,0,0,0,0,0,0,0,0,0,0,0,0,0,0,0,0,0,0,3,0,0,0,0,0,0,0,1,0,0,0,0,0,0,0,1,0,0,0,0,0,0,0,2,0,0,0,0,0,0,0,50]) (L:=[820054559,2002325392,2120608110,203732093,2549698501,2497480392,2941202557,1959729734]) (by kernel_rfl) (Nv (by kernel_rfl))
 have h2:=NU h1 (B:=[0,0,0,0,0,0,0,0,0,0,0,0,0,0,0,0,0,0,0,0,0,0,0,0,128,0,0,0,0,0,0,0,0,0,0,0,0,0,0,0,0,0,0,0,0,0,0,0,0,0,0,0,0,0,0,0,0,0,0,0,0,0,2,192]) (L:=[3586538795,657121093,1186983790,3035236198,104914424,3457640425,2965963227,1169859174]) (by kernel_rfl) (Nv (by kernel_rfl))
 exact Xp (b:=OJ) (l:=[213,198,61,43,39,42,223,69,70,191,239,110,180,234,7,102,6,64,221,248,206,23,103,233,176,201,1,219,69,186,162,102]) (by kernel_rfl) rfl h2 (by kernel_rfl)
def TY:ByteArray:=⟨#[20,86,241,102,118,78,164,105,164,56,183,37,79,168,72,75,251,238,191,68,242,178,205,94,61,43,86,238,51,152,162,224]⟩
def MF:List Int:=[213,198,61,43,39,42,223,69,70,191,239,110,180,234,7,102,6,64,221,248,206,23,103,233,176,201,1,219,69,186,162,102]
theorem RP:D4 MF=TY:=by
 have h0:hF [213,198,61,43,39,42,223,69,70,191,239,110,180,234,7,102,6,64,221,248,206,23,103,233,176,201,1,219,69,186,162,102,128,0,0,0,0,0,0,0,0,0,0,0,0,0,0,0,0,0,0,0,0,0,0,0,0,0,0,0,0,0,1,0] 0=[1779033703,3144134277,1013904242,2773480762,1359893119,2600822924,528734635,1541459225]:=rfl;have h1:=NU h0 (B:=[213,198,61,43,39,42,223,69,70,191,239,110,180,234,7,102,6,64,221,248,206,23,103,233,176,201,1,219,69,186,162,102,128,0,0,0,0,0,0,0,0,0,0,0,0,0,0,0,0,0,0,0,0,0,0,0,0,0,0,0,0,0,1,0]) (L:=[341242214,1984865385,2755180325,1336428619,4226727748,4071804254,1026250478,865641184]) (by kernel_rfl) (Nv (by kernel_rfl))
 exact Xp (b:=MF) (l:=[20,86,241,102,118,78,164,105,164,56,183,37,79,168,72,75,251,238,191,68,242,178,205,94,61,43,86,238,51,152,162,224]) (by kernel_rfl) rfl h1 (by kernel_rfl)
abbrev G7 (dg:ByteArray):List AV:=[.I 0,.I 0,.sc (.string DQ),.I 3,.I 1,.I 1,.I 2,.I 50,.nilS,.nilS,.sc (.string DQ),.I 0,.sc (.string dg)]
abbrev Je (dg:ByteArray):AL:=⟨0,0,DQ,3,1,1,2,50,[],[],DQ,0,dg⟩
theorem VV {dg:ByteArray}:Wk (.agg (G7 dg)) (eS (Je dg)) :=
 .agg _ _ rfl λ i=>match i with
  | 0=>.refl _ | 1=>.refl _ | 2=>.refl _ | 3=>.refl _ | 4=>.refl _ | 5=>.refl _ | 6=>.refl _ | 7=>.refl _
  | 8=>.nil _ _ | 9=>.nil _ _ | 10=>.refl _ | 11=>.refl _ | 12=>.refl _ | _+13=>.refl _
theorem sT (dg:ByteArray):Cd (Je dg)=FP:=by
 have e:E3 (Je dg)=OJ:=by kernel_rfl
 rw[Cd,e,RK]
abbrev PN (dg:ByteArray):Fg:=⟨62,[.agg (G7 dg)],.sc (.string FP),[]⟩
theorem W5 (dg:ByteArray):(PN dg).Ok Tryz.prog:=by
 have h:=La (Je dg) ⟨by show DQ.size<=5000;decide,by show DQ.size<=5000;decide,zz,zz,zz⟩
 rw[sT] at h;exact Xf h ⟨VV,trivial⟩
abbrev Vt:Fg:=⟨115,[Ce MF],.sc (.string TY),[]⟩
theorem gR:Vt.Ok Tryz.prog:=by
 have h:=VZ MF zx
 rw[RP] at h;exact h
def MC:List (FuncId × B6):=[(33,NF.c),(70,OB.c),(71,Rf.c),(125,Ni.c),(72,Od.c),(73,OI.c),(74,Ro.c),(27,Rk.c),(28,zBG),(172,Rs.c),(123,Pb.c),(173,N0.c),(124,NR.c),(122,Mq.c),(69,Pc.c),(26,Ny.c),(45,Wb.c),(83,NY.c),(82,Nr.c),(32,N7.c),(77,MU.c),(78,LK.c),(79,Lv.c),(30,Ow.c),(46,VK.c),(186,Ps.c),(133,Ox.c),(217,PE.c),(175,N6.c),(128,OM.c),(129,Rv.c),(130,PA.c),(131,RE.c),(80,Pj.c),(81,OV.c),(61,P2.c),(31,O1.c),(59,NO.c),(40,O9.c),(114,zBC),(60,zBH),(63,Re.c),(24,Jh.c),(75,Pw.c),(216,VL.c),(174,V4.c),(127,Xk.c),(76,Na.c),(29,MJ.c),(8,JV.c),(18,Y9.c),(194,T4.c),(147,YJ.c),(236,So.c),(195,Y6.c),(148,Yo.c),(149,Y8.c),(150,Wl.c),(100,Xi.c),(48,Sa.c),(143,Tt.c),(232,VM.c),(189,SG.c),(144,Wn.c),(98,Tg.c),(190,Vx.c),(145,Sm.c),(192,ZF.c),(191,X5.c),(233,Yt.c),(235,XT.c),(254,Tl.c),(234,Xz.c),(193,YE.c),(146,SA.c),(99,T6.c),(47,VD.c),(19,ZH.c),(9,Oe.c)]
theorem RI:∀ q∈MC,Src Tryz.prog q.1 q.2:=BC NF.s (BC OB.s (BC Rf.s (BC Ni.s (BC Od.s (BC OI.s (BC Ro.s (BC Rk.s (BC zBF (BC Rs.s (BC Pb.s (BC N0.s (BC NR.s (BC Mq.s (BC Pc.s (BC Ny.s (BC Wb.s (BC NY.s (BC Nr.s (BC N7.s (BC MU.s (BC LK.s (BC Lv.s (BC Ow.s (BC VK.s (BC Ps.s (BC Ox.s (BC PE.s (BC N6.s (BC OM.s (BC Rv.s (BC PA.s (BC RE.s (BC Pj.s (BC OV.s (BC P2.s (BC O1.s (BC NO.s (BC O9.s (BC zBB (BC zBI (BC Re.s (BC Jh.s (BC Pw.s (BC VL.s (BC V4.s (BC Xk.s (BC Na.s (BC MJ.s (BC JV.s (BC Y9.s (BC T4.s (BC YJ.s (BC So.s (BC Y6.s (BC Yo.s (BC Y8.s (BC Wl.s (BC Xi.s (BC Sa.s (BC Tt.s (BC VM.s (BC SG.s (BC Wn.s (BC Tg.s (BC Vx.s (BC Sm.s (BC ZF.s (BC X5.s (BC Yt.s (BC XT.s (BC Tl.s (BC Xz.s (BC YE.s (BC SA.s (BC T6.s (BC VD.s (BC ZH.s (BC Oe.s qW))))))))))))))))))))))))))))))))))))))))))))))))))))))))))))))))))))))))))))))
def PQ:List FuncId:=[33,70,71,125,72,73,74,27,28,172,123,173,124,122,69,26,45,83,82,32,77,78,79,30,46,186,133,129,131,80,81,61,31,59,40,114,60,63,24,75,8,18,147,150,100,48,143,232,189,144,98,190,145,192,191,233,235,254,193,146,99,47,19,9,62,115]
abbrev Jx:Fg:=⟨30,[.vs 13 false []],.rs 0 0 0,[some ⟨13,[],0⟩]⟩
theorem iQ:Jx.Ok Tryz.prog:=RF [] zz zz
abbrev Jq:Fg:=⟨77,[.vs 13 false []],.rs 0 0 0,[some ⟨13,[],0⟩]⟩
theorem jU:Jq.Ok Tryz.prog:=VT [] zz
def fK:List Fg:=[PN DQ,PN FP,Vt,Jx,Jq]
theorem RD:∀ q∈fK,q.Ok Tryz.prog:=Km (W5 _) (Km (W5 _) (Km gR (Km iQ (Km jU sW))))
theorem lR:AF 18 [.agg [.I 0,.nilS],.agg [.I 0,.I 0,.sc (.string DQ),.I 3,.I 1,.I 1,.I 2,.I 50,.nilS,.nilS,.sc (.string DQ),.I 0,.sc (.string DQ)]] [] (.tup [.agg [.I 0,.rs 0 0 1],.agg (G7 FP),.I 0]) [some ⟨13,[G7 FP],0⟩]:=PM RD RI (by kernel_rfl:JD PQ (JC fK) MC 1000 40 18 _ []=some (_,_))
theorem pW:AF 19 [.agg [.I 0,.vs 13 false [G7 FP]],.agg [.I 1,.nilS]] [] (.tup [.agg [.I 0,.vs 13 false [G7 FP]],.agg [.I 1,.rs 0 0 1],.I 0]) [some ⟨13,[G7 FP],0⟩]:=PM RD RI (by kernel_rfl:JD PQ (JC fK) MC 1000 40 19 _ []=some (_,_))
theorem uA:AF 9 [.agg [.vs 13 false [G7 FP]]] [] (.rs 0 0 1) [some ⟨13,[G7 FP],0⟩]:=PM RD RI (by kernel_rfl:JD PQ (JC fK) MC 1000 40 9 _ []=some (_,_))
theorem pT:AF 10 [.vs 13 false [G7 FP],.I 5,.I 1] [] (.tup [eG EG,.I 0]) []:=by
 have h:=Wc [Je FP] 5 1 zz (HP.few (by decide +kernel)) (by decide +kernel)
 rw[show I3 [Je FP] 5 1=(EG,0) from by kernel_rfl] at h
 refine Xf h ⟨?_,.refl _,.refl _,trivial⟩;refine .rows _ _ _ _ rfl (λ i=>?_) λ i j=>?_
 .match i with
  | 0=>rfl
  | _+1=>rfl
 .match i with
  | 0=>cases (VV (dg:=FP)) with
    | agg _ _ _ h=>exact h j
  | _+1=>exact .refl _
theorem bJ:AF 5 [] [] (.B true) []:=by
 have q:=Pd;obtain⟨f,hf,u⟩:=WS EG kP ML Kg zx (.inr (by rw[Tn];decide))
 have h0:BK EG kP=[0,1]:=eY;have hC:=Rg ML Kg zx Mg hf
 rw[show Aa EG kP (Ag (Ao EG kP.lv) kP.seeds)=[0,1] from h0] at u
 rw[h0] at hC;have hS:=lR;have hE:=pW;have hN:=uA;have hA:=pT;refine iL.s.ai ?_;refine ar [0] [] [] 100 ?_;apply ax [0,1,3] [(156,20),(116,30)] [] 200
 .simp
  refine Di hS (by simp[AC]) ?_
  simp;rfl
 apply ax [3,5,6] [(264,40),(216,50)] [] 300
 .simp
  refine PJ [30] zz hE (by simp[AC]) ?_
  simp;rfl
 apply ax [3,6,7,8] [(356,60)] [] 400
 .simp
  refine PJ [50] zz hN (by simp[AC]) ?_
  simp;refine Oz [316] zz hA (by simp[AC]) ?_
  simp;rfl
 apply ay [3,6,7,8,9,10] [(60,60),(448,70)] [] 500
 .simp
  refine Au q ?_;simp;refine Ah u (by simp[AC]) ?_
  simp;refine⟨rfl,?_⟩;rfl
 apply ay [0] [] [] 2000
 .have h1:EG.edges.length=1:=rfl
  simp[h1];refine Cs 12 rfl ?_;refine Au q ?_;simp;refine Cs 21 rfl ?_;refine Ah hC (by simp[AC]) ?_
  simp;refine⟨rfl,?_⟩;rfl
 exact Bg
theorem lN (L:List Int):AF 3 [AA L] [] (.B true) []:=rM bJ L
end Go.Proofs.YtkabgnlcllmleaaGreat
