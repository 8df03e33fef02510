/- Texts of this claim,merged. -/
import Derived.Test.YtkabgnlcllmleaaGreatRb3
set_option linter.unusedSimpArgs false
set_option linter.unusedVariables false
set_option linter.unusedSectionVars false
set_option maxRecDepth 100000
set_option maxHeartbeats 8000000
noncomputable section
namespace Go.Proofs.YtkabgnlcllmleaaGreat
open Go
def F8 (v:Ac) (t:Int) (w:Ac):Prop:=w.fr=v.fr/\w.to=v.to/\w.ti<=t
instance (v:Ac) (t:Int) (w:Ac):Decidable (F8 v t w):=by unfold F8;infer_instance
def Ma (V:List Ac) (g:List Int) (t:Int) (i:Nat) (v:Ac):Bool:=decide (GZ v g t) && (V.drop (i+1)).all λ w=>!decide (F8 v t w)
def CY (V:List Ac) (g:List Int) (t:Int):Nat->List Ac
 | 0=>[]
 | i+1=>CY V g t i++match V[i]? with | some v=>if Ma V g t i v then [v] else [] | none=>[]
def CW (l:List AL) (t:Int):List Ac:=CY (DV l) (CU l t) t (DV l).length
theorem RT (V:List Ac) (g:List Int) (t:Int):∀ i,(CY V g t i).length<=i
 | 0=>Qf _
 | i+1=>by
   have:=RT V g t i;unfold CY;rw[Qe];split
   .split<;>simp<;>omega
   .simp;omega
theorem oM (l:List AL) (t:Int) (hl:l.length<=100000) (hn:HP l) (hz:(CU l t).Pairwise (· < ·)):AF 35 [Af l,.I t] [] (.rs 0 0 (CW l t).length) [some ⟨7,AS (CW l t),0⟩]:=by
 refine sU.s.ac ?_;show AY _ 0 _ _ ⟨63,[(0,Af l),(1,.I t)],[],16⟩;refine Bv ⟨63,[(0,Af l),(1,.I t)],[],24⟩ rfl (by simp;exact AZ [] zz) ?_
 have hm:=fT l hl hn;have ho:=Y4 l t hl hz;have a7:(DV l).length<=100000:=by have:=Mb l l;unfold DV Db;rw[UT,LI];omega
 have a8:=Nw l t;have h3:CW l t=CY (DV l) (CU l t) t (DV l).length:=rfl;rw[h3];generalize DV l=V at *;generalize CU l t=G at *;have tkV:List.take V.length (AS V)=AS V:=Qd zz
 have tkG:List.take G.length (Cn G)=Cn G:=Qd zz
 refine arc ⟨63,[(1,.I t),(5,BB V),(6,AA G)],[],80⟩ ?_ ?_
 .simp
  refine Di hm rfl ?_;simp[AC];refine Di ho rfl ?_;simp[AC]
  exact AZ [32,56] (by
   simp[AC]
   exact⟨Eh (congrArg _ tkV),Eh (congrArg _ tkG)⟩)
 refine Bv ⟨63,[(1,.I t),(5,BB V),(6,AA G),(7,.sc (.slice none 0 0))],[],88⟩ rfl (by simp;exact AZ [] zz) ?_
 refine AB (AG (AB (Bv ⟨63,[(1,.I t),(5,BB V),(6,AA G),(7,.sc (.slice none 0 0)),(17,BB V),(18,.I V.length),(19,.I (0:Nat))],[],112⟩ rfl (by simp;exact AZ [] zz) ?_)))
 refine AI (An (ι:=Nat) (λ i=>⟨63,[(1,.I t),(5,BB V),(6,AA G),(7,.rs 16 0 (CY V G t i).length),(17,BB V),(18,.I V.length),(19,.I i)],[(16,some ⟨7,AS (CY V G t i),0⟩)],112⟩) (λ i=>i<=V.length) (λ i=>V.length - i) 0 (Qk _) (Le.lst [] [] [(16,7)] rfl zz zz zz zz zz zz zz (by simp[Up,CY]) (by simp[CY])) ?_)
 intro i hi;refine arc ⟨63,[(1,.I t),(5,BB V),(6,AA G),(7,.rs 16 0 (CY V G t i).length),(17,BB V),(18,.I V.length),(19,.I i),(20,.B (decide (i<V.length)))],[(16,some ⟨7,AS (CY V G t i),0⟩)],120⟩ ?_ ?_
 .simp
  exact A5
 refine AB (AE _ rfl (λ h=>AG ?_) λ h=>Ak (Al ?_))
 .simp only[Qa] at h
  have hs:=wq (k:=i);refine Bm ⟨63,[(1,.I t),(5,BB V),(6,AA G),(7,.rs 16 0 (CY V G t (i+1)).length),(17,BB V),(18,.I V.length),(19,.I i)],[(16,some ⟨7,AS (CY V G t (i+1)),0⟩)],1000⟩ ?_ ?_
  .have hg:V[i]? = some V[i]:=Qc h
   have a9:=RT V G t i;have h0:CY V G t (i+1)=CY V G t i++if Ma V G t i V[i] then [V[i]] else []:=by rw[CY,hg]
   have q:Ma V G t i V[i]=(decide (GZ V[i] G t) && (V.drop (i+1)).all λ w=>!decide (F8 V[i] t w)):=rfl;rw[h0];generalize V[i]=v at *;have h4:=fC v G t zy
   obtain⟨hb,ht⟩:∃ b,b=decide (GZ v G t):=⟨_,rfl⟩;rw[<- ht] at h4 q;generalize CY V G t i=R at *;have u:=Ck R;obtain⟨W,hW⟩:=AJ (V.drop (i+1));have ag:W.length<=100000:=by rw[hW,QY];omega
   rw[<- hW] at q;have h1:List.drop (i+1) (AS V)=AS W:=by rw[hW];exact UI.symm
   refine AI (arc ⟨63,[(1,.I t),(5,BB V),(6,AA G),(7,.rs 16 0 R.length),(17,BB V),(18,.I V.length),(19,.I i),(8,.I i),(9,.pv (vC v))],[(16,some ⟨7,AS R,0⟩)],168⟩ ?_ ?_)
   .simp [hg,Ae]
    exact Le.Z1 u 16 16 [144] rfl rfl zz zz rfl zz
   refine AB (arc ⟨63,[(1,.I t),(5,BB V),(6,AA G),(7,.rs 16 0 R.length),(17,BB V),(18,.I V.length),(19,.I i),(8,.I i),(9,.pv (vC v)),(28,.B (!hb))],[(16,some ⟨7,AS R,0⟩)],208⟩ ?_ ?_)
   .simp
    refine Au h4 ?_;simp;exact A5
   refine AE _ rfl (λ h5=>Ak (Al ?_)) λ h5=>AG ?_
   .have hf:hb=false:=by simpa using h5
    rw[hf,Bool.false_and] at q;rw[q,if_neg zx,QU]
    exact Le.keep rfl zz zz zz
   have hu:hb=true:=by simpa using h5
   rw[hu,Bool.true_and] at q;obtain⟨i1,h8⟩:=AJ (i+1);have h9:IntKind.i64.wrap ((i:Int)+1)=(i1:Int):=by rw[w6];omega
   rw[<- h8] at h1
   have hv:∀ j,j<=W.length->(∀ k (h:k<W.length),k<j->¬ F8 v t W[k])->j=W.length->(W.all λ w=>!decide (F8 v t w))=true:=λ j _ hq hj=>by
    rw[Ut];intro w hw;obtain⟨k,hk,rfl⟩:=Qt.1 hw;simp[hq k hk zy]
   refine EL (ι:=Unit) (λ _=>⟨63,[(1,.I t),(5,BB V),(6,AA G),(7,.rs 16 0 R.length),(17,BB V),(18,.I V.length),(19,.I i),(9,.pv (vC v))],[(16,some ⟨7,AS R,0⟩)],300⟩) (λ _=>(W.all λ w=>!decide (F8 v t w))=true) ?_ λ _ ha=>?_
   .refine arc ⟨63,[(1,.I t),(5,BB V),(6,AA G),(7,.rs 16 0 R.length),(17,BB V),(18,.I V.length),(19,.I i),(9,.pv (vC v)),(32,BB W),(33,.I W.length),(34,.I (0:Nat))],[(16,some ⟨7,AS R,0⟩)],256⟩ ?_ ?_
    .have a6:(List.drop i1 (AS V)).length=W.length:=by rw[h1,AS,Qs]
     have hx:i1<=V.length:=zy
     simp[h9,hx]
     exact Le.Z1 u 16 16 [] rfl rfl zz zz rfl (by
      simp
      exact⟨Eh (congrArg _ h1),lS (by rw[hW,QY,<- h8])⟩)
    refine AI (An (ι:=Nat) (λ j=>⟨63,[(1,.I t),(5,BB V),(6,AA G),(7,.rs 16 0 R.length),(17,BB V),(18,.I V.length),(19,.I i),(9,.pv (vC v)),(32,BB W),(33,.I W.length),(34,.I j)],[(16,some ⟨7,AS R,0⟩)],256⟩) (λ j=>j<=W.length /\ ∀ k (h:k<W.length),k<j->¬ F8 v t W[k]) (λ j=>W.length - j) 0 ⟨Qk _,λ k _ hk=>absurd hk zy⟩ (Le.refl _ _) ?_)
    rintro j ⟨hj,hc⟩
    refine arc ⟨63,[(1,.I t),(5,BB V),(6,AA G),(7,.rs 16 0 R.length),(17,BB V),(18,.I V.length),(19,.I i),(9,.pv (vC v)),(32,BB W),(33,.I W.length),(34,.I j),(35,.B (decide (j<W.length)))],[(16,some ⟨7,AS R,0⟩)],264⟩ ?_ ?_
    .simp
     exact A5
    refine AB (AE _ rfl (λ h6=>AG ?_) λ h6=>Ak (Al ?_))
    .simp only[Qa] at h6
     have hy:=wq (k:=j);refine EL (ι:=Unit) (λ _=>⟨63,[(1,.I t),(5,BB V),(6,AA G),(7,.rs 16 0 R.length),(17,BB V),(18,.I V.length),(19,.I i),(9,.pv (vC v)),(32,BB W),(33,.I W.length),(34,.I j)],[(16,some ⟨7,AS R,0⟩)],440⟩) (λ _=>¬ F8 v t W[j]) ?_ λ _ a0=>?_
     .have a1:W[j]? = some W[j]:=Qc h6
      have a2:F8 v t W[j]->(W.all λ w=>!decide (F8 v t w))=false:=λ hq=>by
       rw[List.all_eq_false];exact⟨W[j],Qi h6,by simp[hq]⟩
      generalize W[j]=w at *;obtain⟨r,hr⟩:=AJ (decide (F8 v t w));refine AI (arc ⟨63,[(1,.I t),(5,BB V),(6,AA G),(7,.rs 16 0 R.length),(17,BB V),(18,.I V.length),(19,.I i),(9,.pv (vC v)),(32,BB W),(33,.I W.length),(34,.I j),(11,.pv (vC w))],[(16,some ⟨7,AS R,0⟩)],296⟩ ?_ ?_)
      .simp [a1,Ae]
       exact Le.Z1 u 16 16 [280] rfl rfl zz zz rfl zz
      refine arc ⟨63,[(1,.I t),(5,BB V),(6,AA G),(7,.rs 16 0 R.length),(17,BB V),(18,.I V.length),(19,.I i),(9,.pv (vC v)),(32,BB W),(33,.I W.length),(34,.I j),(55,.B r)],[(16,some ⟨7,AS R,0⟩)],440⟩ ?_ ?_
      .by_cases c1:w.fr=v.fr
       .have c1':(w.fr == v.fr)=true:=by simp[c1]
        by_cases c2:w.to=v.to
        .have c2':(w.to == v.to)=true:=by simp[c2]
         have e:r=decide (w.ti<=t):=by
          rw[hr,Qg,Qa,Qa];exact⟨λ hq=>hq.2.2,λ hq=>⟨c1,c2,hq⟩⟩
         simp[c1',c2',e];exact A5
        .have c2':(w.to == v.to)=false:=by simp[c2]
         have e:r=false:=by rw[hr];exact QJ λ hq=>c2 hq.2.1
         simp[c1',c2',e];exact A5
       .have c1':(w.fr == v.fr)=false:=by simp[c1]
        have e:r=false:=by rw[hr];exact QJ λ hq=>c1 hq.1
        simp[c1',e];exact A5
      refine AE _ rfl (λ h7=>Ak (IE zx (IE zx (Al ?_)))) λ h7=>AG ?_
      .rw [h7] at hr
       have hl:=of_decide_eq_true hr.symm;rw[a2 hl] at q;rw[q,if_neg zx,QU]
       exact Le.keep rfl zz zz zz
      .rw [h7] at hr
       exact⟨(),of_decide_eq_false hr.symm,Le.keep rfl zz zz zz⟩
     refine Ab rfl ?_;simp[hy];refine⟨j+1,⟨zy,λ k hk a3=>?_⟩,zy,Le.Z1 u 16 16 [] rfl rfl zz zz rfl zz⟩
     rcases Q2.1 a3 with hq | rfl
     .exact hc k hk hq
     .exact a0
    simp only[Qb] at h6;exact⟨(),hv j hj hc zy,Le.keep rfl zz zz zz⟩
   rw[ha] at q;rw[q,if_pos rfl];obtain⟨n,h2⟩:=AJ (R.length);have a4:AS (R++[v])=AS R++[vC v]:=by rw[AS,QN];rfl
   have hd:(R++[v]).length=n+1:=by rw[Qe,<- h2];rfl
   have a5:(AS R).length=n:=by rw[AS,Qs,h2]
   rw[a4,hd,<- h2];have he:∀ ρ sn h m,(AS R++[vC v]).map (List.map (conv ρ sn h (m+1)))=AS R++[vC v]:=λ ρ sn h m=>by rw[QN,u];simp
   generalize AS R=X at *;have hh:List.take n X=X:=Qd zy
   refine Ab rfl ?_;simp[a5,hh]
   repeat' apply And.intro
   all_goals first | omega | exact Le.Z1 he 324 16 [] rfl rfl zz zz (by simp[hh]) zz
  have u:=Ck (CY V G t (i+1));refine Ab rfl ?_;simp[hs];exact⟨i+1,zy,zy,Le.Z1 u 16 16 [] rfl rfl zz zz rfl zz⟩
 simp only[Qb] at h;obtain rfl:i=V.length:=zy
 refine AB (AT ?_);exact B3 [16] []
variable {a:Ac} {x y:Int}
def Hh (v x:AL):Prop:=x.au=v.au/\v.nu<x.nu/\x.ki=2/\x.a=v.nu
instance (v x:AL):Decidable (Hh v x):=by unfold Hh;infer_instance
def KN (l:List AL) (v:AL):Int:=match l.find? λ x=>decide (Hh v x) with | some x=>x.ti | none=>-1
theorem Mp:BH x y<0↔x<y:=by
 unfold BH;split
 .simp;assumption
 .split
  .simp;omega
  .simp;omega
theorem gW (h:x≠y):BH x y≠0:=by
 unfold BH;split
 .decide
 .split
  .decide
  .omega
theorem OF (x:Int):BH x x=0:=by simp[BH]
theorem Oi (h:x≠y):(BH x y != 0)=true:=by simp[gW h]
theorem PK (x:Int):(BH x x != 0)=false:=by simp[OF]
theorem iF {b:Ac} (h:a.fr≠b.fr):BF a b=BH a.fr b.fr:=by
 unfold BF;simp[List.find?_cons,Oi h]
theorem rL {b:Ac} (h:a.fr=b.fr) (h2:a.to≠b.to):BF a b=BH a.to b.to:=by
 unfold BF;rw[h];simp[List.find?_cons,PK,Oi h2]
theorem uU {b:Ac} (h:a.fr=b.fr) (h2:a.to=b.to):BF a b=BH a.nu b.nu:=by
 unfold BF;rw[h,h2]
 by_cases h3:a.nu=b.nu
 .rw [h3,OF]
  simp[List.find?_cons,PK,OF]
 .simp [List.find?_cons,PK,Oi h3]
def J1 (l:List AL) (s:AL):Ac:=⟨s.au,s.a,s.b,s.nu,s.ti,s.c,KN l s⟩
def IP (l m:List AL):List Ac:=(m.filter λ s=>decide (s.ki=1)).map (J1 l)
def Vm (l:List AL):List Ac:=Db BF (IP l l)
def J3 (t:Int) (k:Int) (s:AL):Prop:=s.au=k/\G6 t s
instance (t k:Int) (s:AL):Decidable (J3 t k s):=by unfold J3;infer_instance
def OK (l:List AL) (t:Int) (k:Int):Bool:=l.any λ s=>decide (J3 t k s)
def IV (l:List AL) (t:Int):Nat->List Int
 | 0=>[]
 | n+1=>IV l t n++if OK l t n then [(n:Int)] else []
variable {l:List AL}
def Hl (x y:AL):Prop:=x.au<y.au∨(x.au=y.au/\x.nu<y.nu/\x.ti<=y.ti/\x.ki≠3)
structure DJ (l:List AL):Prop where
 ord:l.Pairwise Hl
 rng:∀ s∈l,0<=s.au/\s.au<64/\0<=s.ti/\0<=s.nu
theorem Yb {v x:AL} {p:Int × Int} (h:¬ Ex v x p):HJ v p x=p:=if_neg h
theorem TD (v:AL) (p:Int × Int) (h0:0<=p.2):∀ l:List AL,(∀ s∈l,s.au=v.au->p.2<s.nu)->l.foldl (HJ v) p=p
 | [],_=>rfl
 | s::l,h=>by
   have hn:¬ Ex v s p:=λ hq=>by
    have h1:=h s (Qo ..) hq.1;rcases hq.2.2.2.2 with h2 | h2<;>omega
   rw[List.foldl_cons,Yb hn];exact TD v p h0 l λ s hs=>h s (Qj _ hs)
theorem Sk (v:AL):∀ l:List AL,l.Pairwise Hl->(∀ s∈l,0<=s.nu)->(l.foldl (HJ v) (-1,-1)).1=KN l v
 | [],_,_=>rfl
 | s::l,ho,hr=>by
   rw[Q7] at ho;rw[List.foldl_cons]
   by_cases hm:Hh v s
   .have hp:Ex v s (-1,-1):=⟨hm.1,hm.2.2.1,hm.2.2.2,hm.2.1,.inl zx⟩
    have hst:HJ v (-1,-1) s=(s.ti,s.nu):=if_pos hp
    rw[hst,TD v (s.ti,s.nu) (hr s (Qo ..)) l λ x hx q=>by
     rcases ho.1 x hx with h1 | h1
     .have:=hm.1;omega
     .exact h1.2.1]
    unfold KN;rw[List.find?_cons_of_pos (by simpa using hm)]
   .have hst:HJ v (-1,-1) s=(-1,-1):=Yb λ hq=>hm ⟨hq.1,hq.2.2.2.1,hq.2.1,hq.2.2.1⟩
    rw[hst,Sk v l ho.2 λ x hx=>hr x (Qj _ hx)];unfold KN;rw[List.find?_cons_of_neg (by simpa using hm)]
theorem DJ.rev (h:DJ l) (v:AL):Gs l v=KN l v:=Sk v l h.ord λ s hs=>(h.rng s hs).2.2.2
theorem DJ.raw (h:DJ l):BP l l=IP l l:=by
 unfold BP IP;refine congrArg (λ f=>List.map f _) ?_
 funext s
 unfold Fj J1;rw[h.rev]
theorem DJ.of (h:DJ l):DV l=Vm l:=by unfold DV Vm;rw[h.raw]
theorem DJ.asc (h:DJ l) (t:Int):(CU l t).Pairwise (· < ·):=by
 unfold CU;rw[UM];refine List.Pairwise.imp_of_mem ?_ (h.ord.filter _);intro a b ha hb q;have h1:G6 t a:=by simpa using (QF.1 ha).2
 rcases q with h2 | h2
 .exact h2
 .exact absurd h1.1 h2.2.2.2
theorem TG:∀ {a b:List Int},a.Pairwise (· < ·)->b.Pairwise (· < ·)->(∀ x,x∈a↔x∈b)->a=b
 | [],[],_,_,_=>rfl
 | [],y::b,_,_,h=>by have:=(h y).2 (Qo ..);simp at this
 | x::a,[],_,_,h=>by have:=(h x).1 (Qo ..);simp at this
 | x::a,y::b,ha,hb,h=>by
   rw[Q7] at ha hb
   have q:x=y:=by
    rcases Qu.1 ((h x).1 (Qo ..)) with h1 | h1
    .exact h1
    .rcases Qu.1 ((h y).2 (Qo ..)) with h2 | h2
     .exact h2.symm
     .have h3:=hb.1 x h1
      have h4:=ha.1 y h2;omega
   subst q;refine congrArg _ (TG ha.2 hb.2 λ z=>⟨λ hz=>?_,λ hz=>?_⟩)
   .rcases Qu.1 ((h z).1 (Qj _ hz)) with h1 | h1
    .have:=ha.1 z hz;omega
    .exact h1
   .rcases Qu.1 ((h z).2 (Qj _ hz)) with h1 | h1
    .have:=hb.1 z hz;omega
    .exact h1
theorem Pk (l:List AL) (t x:Int):∀ n:Nat,x∈IV l t n↔0<=x/\x<n/\OK l t x=true
 | 0=>by simp[IV];omega
 | n+1=>by
   unfold IV;rw[Qm,Pk l t x n];constructor
   .rintro (h | h)
    .exact ⟨h.1,zy,h.2.2⟩
    .split at h
     .rename_i hb
      rw[Qv] at h;subst h;exact⟨zy,zy,hb⟩
     .simp at h
   .rintro ⟨h1,h2,h3⟩
    by_cases h4:x<n
    .exact .inl ⟨h1,h4,h3⟩
    .have h5:x=(n:Int):=zy
     subst h5;rw[if_pos h3];exact .inr (Qv.2 rfl)
theorem Vn (l:List AL) (t:Int):∀ n:Nat,(IV l t n).Pairwise (· < ·)
 | 0=>List.Pairwise.nil
 | n+1=>by
   unfold IV;rw[List.pairwise_append];refine⟨Vn l t n,by split<;>simp,λ a ha b hb=>?_⟩
   have h1:=(Pk l t a n).1 ha;split at hb
   .rw [Qv] at hb
    omega
   .simp at hb
theorem DJ.gone (h:DJ l) (t:Int):CU l t=IV l t 64:=by
 refine TG (h.asc t) (Vn l t 64) λ x=>?_;rw[Pk];unfold CU OK;rw[Ql,UC];constructor
 .rintro ⟨s,hs,rfl⟩
  have q:=QF.1 hs;have hr:=h.rng s q.1;exact⟨hr.1,hr.2.1,s,q.1,by simpa [J3] using q.2⟩
 .rintro ⟨_,_,s,hs,hg⟩
  have u:J3 t x s:=by simpa using hg
  exact⟨s,QF.2 ⟨hs,by simpa using u.2⟩,u.1⟩
def Bf (a b:Ac):Prop:=a.fr<b.fr∨(a.fr=b.fr/\(a.to<b.to∨(a.to=b.to/\a.nu<b.nu)))
theorem Jz (a b:Ac):BF a b<0↔Bf a b:=by
 unfold Bf
 by_cases h1:a.fr=b.fr
 .by_cases h2:a.to=b.to
  .rw [uU h1 h2,Mp];omega
  .rw [rL h1 h2,Mp];omega
 .rw [iF h1,Mp];omega
theorem Lj {a b:Ac} (h:Bf a b):¬ Bf b a:=by unfold Bf at *;omega
theorem ZY {a b c:Ac} (h1:¬ Bf a b) (h2:¬ Bf b c):¬ Bf a c:=by unfold Bf at *;omega
theorem Ve:∀ (R:List Ac) (x:Ac),R.Pairwise (λ a b=>¬ Bf a b)->(Eb BF R x).Pairwise (λ a b=>¬ Bf a b)
 | [],x,_=>by simp[Eb]
 | y::R,x,h=>by
   rw[Q7] at h;unfold Eb;split
   .rename_i hc
    rw[Jz] at hc;rw[Q7];refine⟨λ z hz=>?_,Ve R x h.2⟩;rcases Qu.1 ((M8 BF R x).mem_iff.1 hz) with h1 | h1
    .subst h1
     exact Lj hc
    .exact h.1 z h1
   .rename_i hc
    rw[Jz] at hc;rw[Q7,Q7];refine⟨λ z hz=>?_,h⟩;rcases Qu.1 hz with h1 | h1
    .rw [h1];exact hc
    .exact ZY hc (h.1 z h1)
theorem dM (M:List Ac):∀ R:List Ac,R.Pairwise (λ a b=>¬ Bf a b)->(M.foldl (Eb BF) R).Pairwise (λ a b=>¬ Bf a b):=by
 induction M with
 | nil=>exact λ R h=>h
 | cons x M ih=>exact λ R h=>ih _ (Ve R x h)
theorem MV (M:List Ac):(Db BF M).Pairwise (λ a b=>¬ Bf b a):=by
 unfold Db;rw[List.pairwise_reverse];exact dM M [] List.Pairwise.nil
theorem fV {M:List Ac} {v:Ac}:v∈Db BF M↔v∈M:=by
 unfold Db;rw[Va,(LG BF M).mem_iff]
theorem DJ.two (h:DJ l) {x y:AL} (hx:x∈l) (hy:y∈l) (ha:x.au=y.au) (hn:x.nu<=y.nu):x.ti<=y.ti:=by
 obtain⟨i,hi,rfl⟩:=Qt.1 hx;obtain⟨j,hj,rfl⟩:=Qt.1 hy;have hp:=QK.1 h.ord;rcases Nat.lt_trichotomy i j with h1 | h1 | h1
 .rcases hp i j hi hj h1 with h2 | h2
  .omega
  .exact h2.2.2.1
 .subst h1
  exact Int.le_refl _
 .rcases hp j i hj hi h1 with h2 | h2
  .omega
  .omega
theorem P9 {v:Ac} (h:v∈BP l l):∃ s∈l,s.ki=1/\v=Fj l s:=by
 unfold BP at h;obtain⟨s,hs,rfl⟩:=Ql.1 h;have q:=QF.1 hs;exact⟨s,q.1,by simpa using q.2,rfl⟩
theorem Fz.good {a:Int} {c:List AL} (hc:Fz a c):DJ c:=by
 have hi:∀ i (h:i<c.length),c[i].au=a/\c[i].nu=i/\0<=c[i].au/\c[i].au<64/\0<=c[i].ti:=λ i h=>by
  have:=hc.1 i h;exact⟨this.au_,this.nu_,this.ok.1.1,this.ok.1.2,this.ok.2.2.1.1⟩
 have q:∀ i k (hj:i+k+1<c.length),c[i].ti<=c[i+k+1].ti/\c[i].ki≠3:=by
  intro i k
  induction k with
  | zero =>
    intro hj;have:=hc.2 i hj;exact⟨this.ti_,this.ki_⟩
  | succ k ih =>
    intro hj;have h1:=ih zy
    have h2:=(hc.2 (i+k+1) hj).ti_;exact⟨Int.le_trans h1.1 h2,h1.2⟩
 constructor
 .rw [QK]
  intro i j h1 h2 hij;have h3:=hi i h1;have h4:=hi j h2;obtain⟨k,rfl⟩:∃ k,j=i+k+1:=⟨j - i - 1,zy⟩
  have h5:=q i k h2;exact .inr ⟨zy,zy,h5.1,h5.2⟩
 .intro s hs
  obtain⟨i,h,rfl⟩:=Qt.1 hs;have h3:=hi i h;exact⟨h3.2.2.1,h3.2.2.2.1,h3.2.2.2.2,zy⟩
theorem DJ.append {a b:List AL} (ha:DJ a) (hb:DJ b) (h:∀ x∈a,∀ y∈b,x.au<y.au):DJ (a++b) where
 ord:=by
  rw[List.pairwise_append];exact⟨ha.ord,hb.ord,λ x hx y hy=>.inl (h x hx y hy)⟩
 rng:=λ s hs=>(Qm.1 hs).elim (ha.rng s) (hb.rng s)
theorem SZ {k N:Nat} (h:k<N) (hN:N<=1099511627776):IntKind.i64.wrap ((k:Int)+1)=((k+1:Nat):Int):=by rw[w6];omega
variable {s:AL}
theorem Bz.b (h:Bz s):Cz s:=by
 obtain⟨_,_,_,⟨⟨q,_⟩,_⟩,⟨h1,h2,h3⟩,⟨h4,h5,h6⟩,_⟩:=h;refine⟨?_,zy,zy,zy,λ p hp=>?_⟩
 .by_cases hn:0<s.nu
  .have:=h5 hn;omega
  .by_cases h0:s.nu=0
   .have:=h4 h0
    have h7:s.pr.toList.length=0:=by rw[this];rfl
    have h8:s.pr.toList.length=s.pr.size:=by rw[ByteArray.toList_eq];simp
    omega
   .omega
 .obtain ⟨i,hi,rfl⟩:=Qt.1 hp
  have:=(h6 i hi).2.2.2.2;omega
structure KD (s:AL):Prop where
 ok:Bz s
 sk_:s.sk=s.au
 sd_:s.sd.toList=(Cd s).toList
def JK (au:Int) (l o:List AL):Prop:=(o.Pairwise λ a b=>a.nu<=b.nu) /\ ∀ x∈l,x.au=au->KD x -> ∃ y∈o,y.nu=x.nu
theorem JK.skip {au:Int} {l o:List AL} (h:JK au l o) (hs:¬ (s.au=au/\KD s)):JK au (l++[s]) o :=
 ⟨h.1,λ x hx h1 h2=>(Qm.1 hx).elim (λ hx=>h.2 x hx h1 h2) λ hx=>by rw[Qv] at hx;subst hx;exact absurd ⟨h1,h2⟩ hs⟩
theorem JK.same {au:Int} {l o:List AL} {y:AL} (h:JK au l o) (hy:y∈o) (hn:y.nu=s.nu):JK au (l++[s]) o :=
 ⟨h.1,λ x hx h1 h2=>(Qm.1 hx).elim (λ hx=>h.2 x hx h1 h2) λ hx=>by rw[Qv] at hx;subst hx;exact⟨y,hy,hn⟩⟩
theorem Fz.snoc {au:Int} {c:List AL} {s:AL} (hc:Fz au c) (hs:Ko au c.length s) (hn:∀ p,c[c.length - 1]? = some p->Ju p s):Fz au (c++[s]):=by
 refine⟨λ i h=>?_,λ i h=>?_⟩
 .by_cases hi:i<c.length
  .rw [Q5 hi];exact hc.1 i hi
  .have:i=c.length:=by simp at h;omega
   subst this;rw[List.getElem_append_right (Qf _)]
   simpa using hs
 .by_cases hi:i+1<c.length
  .rw [Q5 zy,Q5 hi];exact hc.2 i hi
  .have:i+1=c.length:=by simp at h;omega
   rw[Q5 zy,List.getElem_append_right zy]
   have h2:=hn (c[i]' zy) (by rw[show c.length - 1=i by omega];exact Qc zy)
   simpa [this] using h2
theorem Fz.nil (au:Int):Fz au []:=⟨λ i h=>by simp at h,λ i h=>by simp at h⟩
theorem Fz.few {au:Int} {c:List AL} (hc:Fz au c):c.length<=200:=by
 rcases Ub 200 c.length with h | h
 .have h1:=hc.1 200 h
  have h2:=h1.ok.2.2.2.1.1.2;have h3:=h1.nu_;omega
 .exact h
section
variable {P:Program} {np id:Nat} {h:Nat->Option AD} {K:AV->List Nat->List (Nat × Option AD)->Prop} {f:FuncId} {first aA args aB:List AV} {res:AV}
theorem PJ (sn:List Nat) {e:AD} (q:∀ i∈sn,np<=i) (hc:CF P f aB [] res [some e]) (he:DG ((first++args++aA).map (conv [] sn h 4)) aB) (hk:K (conv (Cb [] id) [] (λ _=>none) 4 res) sn ((id,some (AX (Cb [] id) [] (λ _=>none) 4 e))::sn.filterMap λ i=>(h i).map λ e=>(i,some { e with ro:=e.rows.length }))):aK P np id .call (.fn (.func f) first aA::args) h K :=
 ⟨[],sn,true,aB,[],res,[some e],zz,zz,λ _=>q,by rw[UO];exact he,rfl,hc,zz,.inl rfl,by simpa [Cb] using hk⟩
end
theorem Fz.ok {a:Int} {c:List AL} (hc:Fz a c) {s:AL} (hs:s∈c):Bz s:=by
 obtain⟨i,hi,rfl⟩:=Qt.1 hs;exact(hc.1 i hi).ok
theorem Fz.au {a:Int} {c:List AL} (hc:Fz a c) {s:AL} (hs:s∈c):s.au=a:=by
 obtain⟨i,hi,rfl⟩:=Qt.1 hs;exact(hc.1 i hi).au_
def Ew (l:List AL) (x:AL) (r:List AL):Prop:=r=l ∨ ∃ k,r=l.take k++x::l.drop k
theorem Ew.old {l r:List AL} {x:AL} (h:Ew l x r):r.length<=l.length+1 /\ ∀ s∈r,s∈l∨s=x:=by
 rcases h with rfl | ⟨k,rfl⟩
 .exact ⟨Nat.le_succ _,λ s hs=>.inl hs⟩
 .refine ⟨zw,λ s hs=>?_⟩
  rcases Qm.1 hs with h | h
  .exact .inl (QM h)
  .rcases Qu.1 h with h | h
   .exact .inr h
   .exact .inl (Uw h)
theorem eF (L:List Int) (a:Nat) {l:List Int} (h:0<l.length):Ku L a l∈l:=by
 have:=NJ (L:=L) (a:=a) (n:=l.length) zy
 obtain⟨q,hq⟩:∃ q:Nat,(EK L a l.length).1=q:=⟨(EK L a l.length).1.toNat,zy⟩
 have u:q<l.length:=zy
 unfold Ku;rw[hq];simp[u]
theorem AO.k1m {rs:List (Nat × Option (Bool × Nat))} {st:St} {vs:List AV} {res:AV} {e0 e:AD} (i:Nat) (hi:1<=i) (h1:EJ st rs=some vs) (hw:Wk (conv [(0,0),(i,1)] [] st.hp 4 (DE vs)) res) (h0:(st.hp 0).map (AX [(0,0),(i,1)] [] st.hp 4)=some e0) (he:(st.hp i).map (AX [(0,0),(i,1)] [] st.hp 4)=some e):AO rs 1 st res [some e0,some e] :=
 ⟨vs,h1,[i],[],by simp[List.range,List.range.loop];omega,by simpa using hi,zz,by simpa [List.range,List.range.loop] using hw,by simpa [List.range,List.range.loop] using ⟨by simpa using h0,by simpa using he⟩⟩
theorem Ez (L:List Int) (a:Nat) (n:Int) (hl:L.length<=400) (ha:a<=L.length) (hn:n<=1000000):∃ (x:Int) (b:Nat),(b<=L.length/\0<=x/\x<=1000000/\(0<n->x<n))/\AF 13 [.pt 0 0 0,.I n] [AK L a] (.I x) [some (AK L b)]:=by
 refine⟨_,_,⟨N9 ha,?_⟩,Pu L a n zy ha zy⟩
 by_cases h:0<n
 .have:=NJ (L:=L) (a:=a) h
  omega
 .unfold EK
  split
  .simp only[Dc]
   rw[if_pos zy]
   omega
  .simp
theorem Mx (L:List Int) (a:Nat) (l:List Int) (hl:L.length<=400) (ha:a<=L.length) (h0:0<l.length) (q:l.length<=100):∃ (x:Int) (b:Nat),(b<=L.length/\x∈l)/\AF 22 [.pt 0 0 0,AA l] [AK L a] (.I x) [some (AK L b)] :=
 ⟨_,_,⟨N9 ha,eF L a h0⟩,tO L a l zy ha h0 zy⟩
theorem R3 (L:List Int) (a:Nat) (n:Int) (hl:L.length<=400) (ha:a<=L.length) (q:0<=n) (hn:n<=1000000):∃ (x:Bool) (b:Nat),b<=L.length/\AF 23 [.pt 0 0 0,.I n] [AK L a] (.B x) [some (AK L b)] :=
 ⟨_,_,N9 ha,dJ L a n zy ha q zy⟩
theorem WY (L:List Int) (a:Nat) (hl:L.length<=400) (ha:a<=L.length):∃ p:ByteArray × Nat,(p.1.size=32/\p.2<=L.length)/\AF 66 [.pt 0 0 0] [AK L a] (.sc (.string p.1)) [some (AK L p.2)]:=by
 obtain⟨x,b,⟨h2,_⟩,h3⟩:=Ez L a 4 hl ha zx
 obtain⟨y,c,⟨h4,_⟩,h5⟩:=Ez L b 256 hl h2 zx
 obtain⟨D,hD⟩:∃ D:List Int,D=((List.replicate 32 0).set 0 (IntKind.u8.wrap x)).set 31 (IntKind.u8.wrap y):=⟨_,rfl⟩;have u:D.length=32:=by rw[hD];simp
 refine⟨(⟨(D.map λ n=>UInt8.ofNat n.toNat).toArray⟩,c),⟨by show (D.map _).toArray.size=32;simpa using u,h4⟩,?_⟩
 refine rG.s.ac ?_;show AY _ 1 _ _ ⟨17,[(0,.pt 0 0 0)],[(0,some (AK L a))],16⟩;have h6:List.replicate 32 [AV.sc (.int .u8 0)]=AR .u8 (List.replicate 32 0):=by simp[AR]
 have h7:AR .u8 D=((AR .u8 (List.replicate 32 0)).set 0 [.sc (.int .u8 (IntKind.u8.wrap x))]).set 31 [.sc (.int .u8 (IntKind.u8.wrap y))]:=by rw[hD,AR,UQ,UQ]
 have h8:=PW D;have he:=Jr .u8 D;have hf:=Jr .u8 (List.replicate 32 0);have q:(AR .u8 (List.replicate 32 0)).length=32:=by simp[AR]
 have h9:(AR .u8 (List.replicate 32 0))[0]? = some [.sc (.int .u8 0)]:=by simp[AR]
 have hb:((AR .u8 (List.replicate 32 0)).set 0 [.sc (.int .u8 (IntKind.u8.wrap x))])[31]? = some [.sc (.int .u8 0)]:=by simp[AR]
 have hc:(AR .u8 D).length=32:=by rw[AR,Qs];exact u
 have h0:(AR .u8 (List.replicate 32 0))[0]'(by rw[q];decide)=[.sc (.int .u8 0)]:=by simp[AR]
 have h1:(AR .u8 (List.replicate 32 0))[31]'(by rw[q];decide)=[.sc (.int .u8 0)]:=by simp[AR]
 clear h9 hb
 generalize AR .u8 D=X at *;generalize AR .u8 (List.replicate 32 0)=Z at *;refine rs [0] [0] [] ?_;refine arc ⟨17,[(0,.pt 0 0 0),(3,.rs 24 0 32)],[(0,some (AK L a)),(24,some ⟨1,Z,0⟩)],100⟩ ?_ ?_
 .simp [-List.reduceReplicate]
  exact Le.keep rfl zz zz (by simp[-List.reduceReplicate,h6])
 refine arc ⟨17,[(0,.pt 0 0 0),(3,.rs 24 0 32)],[(0,some (AK L c)),(24,some ⟨1,X,0⟩)],300⟩ ?_ ?_
 .simp
  refine BZ (i:=0) rfl (e':=AK L a) zz h3 zz zz ?_
  simp;refine BZ (i:=0) rfl (e':=AK L b) zz h5 zz zz ?_
  simp[q,h0,h1,Ae];exact Le.keep rfl zz zz (by simp[h7])
 have hd:List.take 32 X=X:=Qd zy
 refine rx (s:=?s3) [0,2] [0] [] rfl ?o3 ?q3
 case o3=>simp[hc,hd,h8];rfl
 exact BR (AO.k1 rfl zz zz)
theorem Le.d3 {st st':St} {L:List Int} {a:Nat} {Z r r':List AV} (nl:List (Nat × Nat)) (sn:List Nat) (q:st'.sz=st.sz) (hh:st'.h=[(0,some (AK L a)),(16,some ⟨13,[Z],0⟩),(72,some ⟨13,[r'],0⟩)]) (hn:72<st'.n) (hs:∀ k∈sn,1<=k/\k∉[0,16,72]) (u:nl=[]) (hZ:∀ ρ sn h m,Z.map (conv ρ sn h (m+1))=Z) (h1:st.hp 0=some (AK L a)) (h2:st.hp 16=some ⟨13,[Z],0⟩) (h3:st.hp 72=some ⟨13,[r],0⟩) (hu:E8 [] (r.map (conv [(0,0),(16,16),(72,72)] sn st.hp 4)) r') (ht:∀ p∈st'.t,Wk (conv [(0,0),(16,16),(72,72)] sn st.hp 4 (st.get p.1)) p.2):Le 1 st st':=by
 refine Le.ents [(0,0),(16,16),(72,72)] sn q zz zz zw (λ k hk=>⟨(hs k hk).1,by simpa using (hs k hk).2⟩) zy ht λ p hp=>?_
 rw[hh] at hp;simp only[Qu,QT,or_false] at hp;rcases hp with rfl | rfl | rfl
 .exact ⟨0,_,_,rfl,zz,h1,A7.eq zz zz⟩
 .exact ⟨16,_,_,rfl,zz,h2,A7.eq (by simp[hZ]) zz⟩
 .exact ⟨72,_,_,rfl,zz,h3,A7.row (r:=r.map (conv [(0,0),(16,16),(72,72)] sn st.hp 4)) zz (Qk _) hu⟩
theorem lG (l:List AL) (hl:l.length<=100000) (hb:∀ s∈l,Cz s):AF 64 [Af l] [] (.rs 0 0 l.length) [some ⟨13,l.map sC,0⟩]:=by
 refine dR.s.ac ?_;show AY _ 0 _ _ ⟨20,[(0,Af l)],[],16⟩;refine rs [0] [] [] ?_;refine rs [0,3] [] [] ?_;refine AB (rs [0,3,4] [] [] ?_)
 let Y:Nat->List (List AV):=λ i=>(l.take i).map sC
 have h4:∀ i,i<=l.length->(Y i).length=i:=λ i hi=>by simp[Y];omega
 have h1:∀ i ρ sn h m,(Y i).map (List.map (conv ρ sn h (m+1)))=Y i:=λ i=>Kw _
 have h5:∀ i (h:i<l.length),Y (i+1)=Y i++[sC l[i]]:=λ i h=>by
  simp only[Y];rw[Qp h,QN];rfl
 have h6:Y l.length=l.map sC:=by simp only[Y];rw[Ua]
 have h7:Y 0=[]:=rfl
 clear_value Y
 refine AI (An (ι:=Nat) (λ i=>⟨20,[(0,Af l),(3,.rs 16 0 i),(4,.I i)],[(16,some ⟨13,Y i,0⟩)],40⟩) (λ i=>i<=l.length) (λ i=>l.length - i) 0 (Qk _) (Le.lst [] [] [(16,13)] rfl zz zz zz zz zz zz zz (by simp[Up]) (by simp[h7])) ?_)
 intro i hi;refine AB (rk (s:=?s4) [0,3,4,8] [16] rfl ?o4 ?q4)
 case o4=>simp;rfl
 refine AE _ rfl (λ h=>AG ?_) λ h=>Ak (Al ?_)
 .simp only[Qa,U4] at h
  have hg:l[i]? = some l[i]:=Qc h;have h0:=hb l[i] (Qi h);have u:=h5 i h;have h2:=h4 i hi;have h8:=h1 i;have q:=h1 (i+1);obtain⟨s,hs⟩:=AJ (l[i]);rw[<- hs] at hg h0 u;have h9:=Pq s (by have:=h0.2.2.1;omega) (by have:=h0.2.2.2.1;omega)
  obtain⟨X,hX⟩:=AJ (Y i);obtain⟨X2,h3⟩:=AJ (Y (i+1));have ha:List.take i X=X:=Qd (by rw[hX];omega)
  rw[<- hX] at h2 h8 u ⊢;rw[<- h3] at q u;refine Bm ⟨20,[(0,Af l),(3,.rs 16 0 (i+1)),(4,.I i)],[(16,some ⟨13,X2,0⟩)],300⟩ ?_ ?_
  .refine AI (Ab rfl ?_)
   simp[hg];refine Au h9 ?_;simp[h2,ha];exact⟨zy,zy,Le.Z1 (z:=13) q 128 16 [] rfl rfl zz zz (by simp[u]) zz⟩
  have hc:=SZ h zy
  refine Ab rfl ?_;simp[hc];exact⟨i+1,zy,zy,Le.Z1 q 16 16 [] rfl (by rw[h3]) zz zz rfl zz⟩
 simp only[Qb,U4] at h;obtain rfl:i=l.length:=zy
 rw[h6];refine rx (s:=?s9) [2] [16] [] rfl ?o9 ?q9
 case o9=>simp[AC];rfl
 exact B3 [16] []
theorem Le.s3 {st st':St} {L:List Int} {a:Nat} {X:List (List AV)} {r:List AV} (i j:Nat) (sn:List Nat) (q:st'.sz=st.sz) (hh:st'.h=[(0,some (AK L a)),(32,some ⟨13,X,0⟩),(j,some ⟨13,[r],0⟩)]) (hj:0<j/\j≠32/\i≠0/\i≠j) (hn:32<st'.n/\j<st'.n) (hs:∀ k∈sn,1<=k/\k∉[0,i,j]) (hX:∀ ρ sn h m,X.map (List.map (conv ρ sn h (m+1)))=X) (hr:∀ ρ sn h m,r.map (conv ρ sn h (m+1))=r) (h1:st.hp 0=some (AK L a)) (h2:st.hp i=some ⟨13,X,0⟩) (h3:st.hp j=some ⟨13,[r],0⟩) (ht:∀ p∈st'.t,Wk (conv [(0,0),(i,32),(j,j)] sn st.hp 4 (st.get p.1)) p.2):Le 1 st st':=by
 refine Le.ents [(0,0),(i,32),(j,j)] sn q zw zw zw (λ k hk=>⟨(hs k hk).1,by simpa using (hs k hk).2⟩) zy ht λ p hp=>?_
 rw[hh] at hp;simp only[Qu,QT,or_false] at hp;rcases hp with rfl | rfl | rfl
 .exact ⟨0,_,_,rfl,zz,h1,A7.eq zz zz⟩
 .exact ⟨i,_,_,rfl,zz,h2,A7.eq (by simp only[AX,hX]) zz⟩
 .exact ⟨j,_,_,rfl,zz,h3,A7.eq (by simp[hr]) zz⟩
def Hg (W:Int->Int->Int->Prop) (l:List AL):Prop:=∀ s∈l,Bz s/\W s.au s.ki s.a
theorem oB (W:Int->Int->Int->Prop) (L:List Int) (a:Nat) (ch:List AL) (hl:L.length<=400) (ha:a<=L.length) (hc:Hg W ch) (cl:ch.length<=100):∃ p:List AL × Nat,(Hg W p.1/\p.1.length<=ch.length+2/\p.2<=L.length)/\AF 25 [.pt 0 0 0,Af ch] [AK L a] (.rs 1 0 p.1.length) [some (AK L p.2),some ⟨13,p.1.map sC,0⟩]:=by
 have ai:=lG ch zy λ s hs=>(hc s hs).1.b
 refine fG.s.acallsX (args:=[.pt 0 0 0,Af ch]) (hs:=[AK L a]) (λ p=>.rs 1 0 p.1.length) (λ p=>[some (AK L p.2),some ⟨13,p.1.map sC,0⟩]) (λ p:List AL × Nat=>Hg W p.1/\p.1.length<=ch.length+2/\p.2<=L.length) (Ar rfl) (Ar rfl) (λ _=>zz) ?_
 show AY _ 1 _ _ ⟨111,[(0,.pt 0 0 0),(1,Af ch)],[(0,some (AK L a))],16⟩;refine rs [0,1] [0] [] ?_;refine arc ⟨111,[(0,.pt 0 0 0),(5,.rs 32 0 ch.length)],[(0,some (AK L a)),(32,some ⟨13,ch.map sC,0⟩)],50⟩ ?_ ?_
 .simp
  refine C3 ai ?_;simp[AC];exact Le.keep rfl zz zz zz
 refine AB (arc ⟨111,[(0,.pt 0 0 0),(5,.rs 32 0 ch.length),(13,.B (decide (ch.length=0)))],[(0,some (AK L a)),(32,some ⟨13,ch.map sC,0⟩)],80⟩ ?_ ?_)
 .simp
  exact Le.keep rfl zz (by simp<;>rw[Qg]<;>simp) zz
 refine AE _ rfl (λ h2=>?_) λ h2=>AG ?_
 .refine rx (s:=?s3) [0,4] [0,32] [] rfl ?o3 ?q3
  case o3=>simp[AC];rfl
  exact Am (Bu.mk (.inr rfl) (ch,a) ⟨hc,by simp only;omega,ha⟩ (AO.k1m 32 zz rfl zz (by simp[AC]) (by simp[AC])))
 simp only[Qb] at h2;obtain⟨y0,b0,⟨am,cm,_,an⟩,aq⟩:=Ez L a 3 hl ha zx
 have cp:=an zx
 obtain⟨y,rfl⟩:∃ y:Nat,y0=y:=⟨y0.toNat,zy⟩
 refine AB (arc ⟨111,[(0,.pt 0 0 0),(5,.rs 32 0 ch.length),(6,.I y)],[(0,some (AK L b0)),(32,some ⟨13,ch.map sC,0⟩)],120⟩ ?_ ?_)
 .simp
  refine BZ (i:=0) rfl (e':=AK L a) zz aq zz zz ?_
  simp;exact Le.keep rfl zz zz zz
 refine AI (An (ι:=(List AL × Nat) × Nat) (λ p=>⟨111,[(0,.pt 0 0 0),(5,.rs 32 0 p.1.1.length),(6,.I p.2)],[(0,some (AK L p.1.2)),(32,some ⟨13,p.1.1.map sC,0⟩)],200⟩) (λ p=>Hg W p.1.1/\0<p.1.1.length/\p.1.1.length+p.2<=ch.length+2/\p.1.2<=L.length) (λ p=>p.2) ((ch,b0),y) ⟨hc,by simp only;omega,by simp only;omega,am⟩ (Le.keep rfl zz zz zz) ?_)
 rintro⟨⟨o,b⟩,n⟩ ⟨h0,h9,av,ht⟩
 simp only at h0 h9 av ht;simp only;have hb:(o.map sC).length=o.length:=Qs ..;have hi:=Kw o;have hu:∀ k (h:k<o.length),(o.map sC)[k]? = some (sC o[k]):=λ k h=>by rw[QB,Qc h];rfl
 obtain⟨X,hX⟩:=AJ (o.map sC);rw[<- hX] at hb hi hu ⊢;refine AB (rk (s:=?s4) [0,5,6,18] [0,32] rfl ?o4 ?q4)
 case o4=>simp;rfl
 refine AE _ rfl (λ h=>AG ?_) λ h=>Ak (Al ?_)
 .simp only[Qa] at h
  refine EL (ι:=List AL × Nat) (λ p=>⟨111,[(0,.pt 0 0 0),(5,.rs 32 0 p.1.length),(6,.I n)],[(0,some (AK L p.2)),(32,some ⟨13,p.1.map sC,0⟩)],5000⟩) (λ p=>Hg W p.1/\0<p.1.length/\p.1.length+(n - 1)<=ch.length+2/\p.2<=L.length) ?_ ?_
  .obtain ⟨k0,b1,⟨b7,cq,_,b8⟩,b9⟩:=Ez L b o.length hl ht zy
   have d0:=b8 zy
   obtain⟨k,rfl⟩:∃ k:Nat,k0=k:=⟨k0.toNat,zy⟩
   have hv:k<o.length:=zy
   have hw:=hu k hv;have h7:=h0 o[k] (Qi hv);obtain⟨x,hx⟩:=AJ (o[k]);rw[<- hx] at hw h7;have h8:=h7.1.b;have bb:=Pq x (by have:=h8.2.2.1;omega) (by have:=h8.2.2.2.1;omega)
   have hr:X[k]' zy=sC x:=by
    have:=Qz.1 hw;exact this.2
   obtain⟨w,b2,⟨he,_⟩,bo⟩:=Ez L b1 5 hl b7 zx
   refine AI (arc ⟨111,[(0,.pt 0 0 0),(5,.rs 32 0 o.length),(6,.I n),(7,.pt 280 0 0)],[(0,some (AK L b1)),(32,some ⟨13,X,0⟩),(280,some ⟨13,[sC x],0⟩)],320⟩ ?_ ?_)
   .simp
    refine BZ (i:=0) rfl (e':=AK L b) zz b9 zz zz ?_
    simp[hv,hb,hr];refine Au bb ?_;simp[Ae];exact Le.keep rfl zz zz zz
   refine EL (ι:=(List AL × AL) × Nat) (λ p=>⟨111,[(0,.pt 0 0 0),(5,.rs 32 0 p.1.1.length),(6,.I n),(7,.pt 280 0 0)],[(0,some (AK L p.2)),(32,some ⟨13,p.1.1.map sC,0⟩),(280,some ⟨13,[sC p.1.2],0⟩)],2000⟩) (λ p=>Hg W p.1.1/\0<p.1.1.length/\p.1.1.length<=o.length/\(Cz p.1.2/\W p.1.2.au p.1.2.ki p.1.2.a)/\p.2<=L.length) ?_ ?_
   .refine arc ⟨111,[(0,.pt 0 0 0),(5,.rs 32 0 o.length),(6,.I n),(7,.pt 280 0 0),(30,.I w)],[(0,some (AK L b2)),(32,some ⟨13,X,0⟩),(280,some ⟨13,[sC x],0⟩)],400⟩ ?_ ?_
    .simp
     refine BZ (i:=0) rfl (e':=AK L b1) zz bo zz zz ?_
     simp;exact Le.keep rfl zz zz zz
    have a2:∀ (x:AL) ρ sn h m,(sC x).map (conv ρ sn h (m+1))=sC x:=λ x ρ sn h m=>zz
    have u:∀ (st:St) (x':AL) (c:Nat),st.sz=111->st.hp 0=some (AK L c)->st.hp 32=some ⟨13,X,0⟩->st.hp 280=some ⟨13,[sC x'],0⟩->st.get 0 = .pt 0 0 0->st.get 5 = .rs 32 0 o.length->st.get 6 = .I n->st.get 7 = .pt 280 0 0->Le 1 st ⟨111,[(0,.pt 0 0 0),(5,.rs 32 0 o.length),(6,.I n),(7,.pt 280 0 0)],[(0,some (AK L c)),(32,some ⟨13,o.map sC,0⟩),(280,some ⟨13,[sC x'],0⟩)],2000⟩:=λ st x' c g0 g1 g2 g3 g4 g5 g6 g7=>by
     rw[<- hX];exact Le.s3 32 280 [] g0.symm rfl zz zz zz hi (a2 x') g1 g2 g3 (by simp[g4,g5,g6,g7])
    refine AI (rk (s:=?s11) [0,5,6,7,30,47] [0,32,280] rfl ?o11 ?q11)
    case o11=>simp;rfl
    refine AE _ rfl (λ bp=>?_) λ bp=>?_
    .refine rk (s:=?s13) [0,5,6,7] [0,32,280] rfl ?o13 ?q13
     case o13=>simp[Ae];rfl
     have a3:=Wr (IntKind.i64.wrap (2 - x.ki)) 2 zx
     refine Cx rfl ?_;simp;refine Au a3 ?_;simp[Ae];exact⟨rfl,o,{ x with ti:=IntKind.i64.wrap (x.ti+1),c:=if x.c<IntKind.i64.wrap (IntKind.i64.wrap (x.ti+1)*Dc (IntKind.i64.wrap (2 - x.ki)) 2) then IntKind.i64.wrap (IntKind.i64.wrap (x.ti+1)*Dc (IntKind.i64.wrap (2 - x.ki)) 2) else x.c },b2,⟨h0,h9,Qf _,⟨h8,h7.2⟩,he⟩,u _ _ _ rfl rfl rfl rfl rfl rfl rfl rfl⟩
    refine rk (s:=?s17) [0,5,6,7,30,64] [0,32,280] rfl ?o17 ?q17
    case o17=>simp;rfl
    refine AE _ rfl (λ bs=>?_) λ bs=>?_
    .obtain ⟨z,b3,⟨hn,_⟩,hy⟩:=Ez L b2 3 hl he zx
     obtain⟨⟨d,b4⟩,⟨hd,hf⟩,hj⟩:=WY L b3 hl hn;simp only at hd hf hj;obtain⟨q,hq⟩:=AJ ((if 199<IntKind.i64.wrap (IntKind.i64.wrap (x.nu+1)+z) then 199 else IntKind.i64.wrap (IntKind.i64.wrap (x.nu+1)+z)))
     refine Bi ⟨111,[(0,.pt 0 0 0),(5,.rs 32 0 o.length),(6,.I n),(7,.pt 280 0 0)],[(0,some (AK L b3)),(32,some ⟨13,X,0⟩),(280,some ⟨13,[sC { x with nu:=q }],0⟩)],800⟩ ?_ ?_
     .simp
      refine BZ (i:=0) rfl (e':=AK L b2) zz hy zz zz ?_
      simp[Ae];exact⟨rfl,Le.keep rfl zz zz (by simp[hq])⟩
     refine rk (s:=?s20) [0,5,6,7,77] [0,32,280] rfl ?o20 ?q20
     case o20=>simp;rfl
     refine AE _ rfl (λ bt=>?_) λ bt=>AG ?_
     .refine Ab rfl ?_
      simp;refine BZ (i:=0) rfl (e':=AK L b3) zz hj zz zz ?_
      simp[Ae];exact⟨o,{ x with nu:=q,pr:=d },b4,⟨h0,h9,Qf _,⟨⟨by show d.size<=5000;omega,h8.2⟩,h7.2⟩,hf⟩,u _ _ _ rfl rfl rfl rfl rfl rfl rfl rfl⟩
     .exact ⟨((o,{ x with nu:=q }),b3),⟨h0,h9,Qf _,⟨h8,h7.2⟩,hn⟩,u _ _ _ rfl rfl rfl rfl rfl rfl rfl rfl⟩
    refine rk (s:=?s28) [0,5,6,7,30,81] [0,32,280] rfl ?o28 ?q28
    case o28=>simp;rfl
    refine AE _ rfl (λ c0=>?_) λ c0=>?_
    .refine Ab rfl ?_
     simp[Ae];exact⟨o,{ x with ti:=if 0<IntKind.i64.wrap (x.ti - 30) then IntKind.i64.wrap (x.ti - 30) else 0 },b2,⟨h0,h9,Qf _,⟨h8,h7.2⟩,he⟩,u _ _ _ rfl rfl rfl rfl rfl rfl rfl rfl⟩
    refine rk (s:=?s29) [0,5,6,7,88] [0,32,280] rfl ?o29 ?q29
    case o29=>simp;rfl
    refine AE _ rfl (λ c1=>?_) λ c1=>?_
    .refine rk (s:=?s30) [0,5,6,7,92] [0,32,280] rfl ?o30 ?q30
     case o30=>simp;rfl
     refine AE _ rfl (λ c2=>?_) λ c2=>AG ?_
     .obtain ⟨⟨d,b4⟩,⟨hd,hf⟩,hj⟩:=WY L b2 hl he
      simp only at hd hf hj;refine Ab rfl ?_;simp;refine BZ (i:=0) rfl (e':=AK L b2) zz hj zz zz ?_
      simp[Ae];exact⟨o,{ x with pr:=d },b4,⟨h0,h9,Qf _,⟨⟨by show d.size<=5000;omega,h8.2⟩,h7.2⟩,hf⟩,u _ _ _ rfl rfl rfl rfl rfl rfl rfl rfl⟩
     .exact ⟨((o,x),b2),⟨h0,h9,Qf _,⟨h8,h7.2⟩,he⟩,u _ _ _ rfl rfl rfl rfl rfl rfl rfl rfl⟩
    refine rk (s:=?s31) [0,5,6,7,33] [0,32,280] rfl ?o31 ?q31
    case o31=>simp;rfl
    refine AE _ rfl (λ a4=>?_) λ a4=>AG ?_
    .have d1:1<o.length:=by simp at a4;omega
     obtain⟨k0,b3,⟨hn,d2,_,c3⟩,hy⟩:=Ez L b2 o.length hl he zy
     have d3:=c3 zy
     obtain⟨j,rfl⟩:∃ k:Nat,k0=k:=⟨k0.toNat,zy⟩
     obtain⟨j2,d4⟩:=AJ (j+1);have c4:IntKind.i64.wrap ((j:Int)+1)=(j2:Int):=by rw[w6];omega
     refine arc ⟨111,[(0,.pt 0 0 0),(5,.rs 32 0 o.length),(6,.I n),(7,.pt 280 0 0),(8,.I j)],[(0,some (AK L b3)),(32,some ⟨13,X,0⟩),(280,some ⟨13,[sC x],0⟩)],1000⟩ ?_ ?_
     .simp
      refine BZ (i:=0) rfl (e':=AK L b2) zz hy zz zz ?_
      simp;exact Le.keep rfl zz zz zz
     have ho:(o.take j++o.drop j2).map sC=X.take j++X.drop j2:=by rw[hX,QN,UH,UI]
     have hg:(o.take j++o.drop j2).length=o.length - 1:=by rw[Qe,QC,QY];omega
     have hk:=Kw (o.take j++o.drop j2);rw[ho] at hk
     have hm:Hg W (o.take j++o.drop j2):=λ s hs=>by
      rcases Qm.1 hs with hs | hs
      .exact h0 s (QM hs)
      .exact h0 s (Uw hs)
     have a5:min j o.length=j:=zy
     have c5:j<=o.length:=zy
     have a6:j2<=o.length:=zy
     have hz:List.take (o.length - j2) (X.drop j2)=X.drop j2:=Qd (by rw[QY];omega)
     have cb:j+(o.length - j2)=o.length - 1:=zy
     refine Cx rfl ?_;simp[hb,a5,c5,a6,c4,hz];refine⟨zy,zy,zy,zy,rfl,o.take j++o.drop j2,x,b3,⟨hm,by rw[hg];omega,by rw[hg];omega,⟨h8,h7.2⟩,hn⟩,?_⟩
     rw[ho,hg,<- cb];exact Le.s3 1064 280 [] rfl rfl zz zz zz hk (a2 x) rfl rfl rfl zz
    .exact ⟨((o,x),b2),⟨h0,h9,Qf _,⟨h8,h7.2⟩,he⟩,u _ _ _ rfl rfl rfl rfl rfl rfl rfl rfl⟩
   .rintro ⟨⟨o2,x2⟩,b3⟩ ⟨g1,g2,g3,⟨g4,g7⟩,g5⟩
    simp only at g1 g2 g3 g4 g5 g7;simp only
    clear hb hi hu hX hr hw
    have hb:(o2.map sC).length=o2.length:=Qs ..;have hi:=Kw o2;obtain⟨X,hX⟩:=AJ (o2.map sC);rw[<- hX] at hb hi ⊢;have a7:=uM x2 g4;obtain⟨x3,a0⟩:∃ x3:AL,x3={ x2 with sk:=x2.au,sd:=Cd x2 }:=⟨_,rfl⟩;rw[<- a0] at a7;have g6:Cz x3:=by rw[a0];exact g4
    obtain⟨e,cd,a8⟩:=dX x3 (by have:=g6.2.2.1;omega) (by have:=g6.2.2.2.1;omega)
    obtain⟨r,b4,hf,a9⟩:=R3 L b3 3 hl g5 zx zx
    refine arc ⟨111,[(0,.pt 0 0 0),(5,.rs 32 0 o2.length),(6,.I n),(7,.pt 280 0 0)],[(0,some (AK L b3)),(32,some ⟨13,X,0⟩),(280,some ⟨13,[sC x3],0⟩)],2200⟩ ?_ ?_
    .simp
     refine Au a7 ?_;simp[Ae];exact Le.keep rfl zz zz zz
    obtain⟨b5,ag,hh⟩:∃ b5,b5<=L.length/\b5=if e=0 then b4 else b3:=by
     refine⟨_,?_,rfl⟩;split
     .exact hf
     .exact g5
    refine arc ⟨111,[(0,.pt 0 0 0),(5,.rs 32 0 o2.length),(6,.I n),(7,.pt 280 0 0),(105,.B (decide (e=0) && !r))],[(0,some (AK L b5)),(32,some ⟨13,X,0⟩),(280,some ⟨13,[sC x3],0⟩)],2500⟩ ?_ ?_
    .simp
     refine Au a8 ?_
     by_cases h1:e=0
     .have a1:(e == 0)=true:=by simp[h1]
      rw[if_pos h1] at hh;simp[a1];refine BZ (i:=0) rfl (e':=AK L b3) zz a9 zz zz ?_
      simp;exact Le.keep rfl zz (by simp[h1]) (by simp[hh])
     .have a1:(e == 0)=false:=by simp[h1]
      rw[if_neg h1] at hh;simp[a1];exact Le.keep rfl zz (by simp[h1]) (by simp[hh])
    refine AE _ rfl (λ h5=>?_) λ h5=>AG ?_
    .have h6:Bz x3/\W x3.au x3.ki x3.a:=⟨cd.1 (by simp at h5;exact h5.1),by rw[a0];exact g7⟩
     have ho:(o2++[x3]).map sC=X++[sC x3]:=by rw[QN,<- hX];rfl
     have hg:(o2++[x3]).length=o2.length+1:=zz
     have hz:List.take o2.length X=X:=Qd zy
     have hm:Hg W (o2++[x3]):=λ s hs=>by
      rcases Qm.1 hs with hs | hs
      .exact g1 s hs
      .rw [Qv] at hs;rw[hs];exact h6
     refine Ab rfl ?_;simp[hb,hz];refine⟨zy,zy,o2++[x3],b5,⟨hm,by rw[hg];omega,by rw[hg];omega,ag⟩,?_⟩
     rw[ho,hg];exact AN [(0,0),(2524,32)] [] zz (by simp[hi])
    .exact ⟨(o2,b5),⟨g1,g2,by simp only;omega,ag⟩,Le.keep rfl zz zz (by simp[hX])⟩
  .rintro ⟨o2,b6⟩ ⟨h1,h2,h3,h4⟩
   simp only at h1 h2 h3 h4;have ck:IntKind.i64.wrap ((n:Int) - 1)=((n - 1:Nat):Int):=by rw[w6];omega
   have hk:=Kw o2;refine Ab rfl ?_;simp[ck];exact⟨o2,b6,n - 1,⟨h1,h2,zy,h4⟩,zy,DU [(0,0),(32,32)] []⟩
 rw[hX];refine rx (s:=?s9) [0,4] [0,32] [] rfl ?o9 ?q9
 case o9=>simp[AC];rfl
 exact Am (Bu.mk (.inr rfl) (o,b) ⟨h0,by simp only;omega,ht⟩ (AO.k1m 32 zz rfl zz (by simp[AC]) (by simp[AC])))
theorem dL (a b:Int):u2 .or a b=u2 .or b a:=by
 unfold u2 Aq;simp[Nat.or_comm]
theorem JU (a b:Int):u2 .add a b=IntKind.u32.wrap (a+b):=rfl
theorem n9 (a b:Int):u2 .add a b=u2 .add b a:=by rw[JU,JU,Int.add_comm]
theorem mW (a b c:Int):u2 .add (u2 .add a b) c=u2 .add a (u2 .add b c):=by
 rw[JU,JU,JU,JU,IntKind.wrap_u32,IntKind.wrap_u32,IntKind.wrap_u32,IntKind.wrap_u32];omega
theorem G9 (x n s:Int) (h1:IntKind.i64.wrap (-n) = -n) (h3:Aq .and (.int .u64 (IntKind.u64.wrap (-n))) (.int .u64 31)=some (.int .u64 s)) (h4:0<=s) (h5:IntKind.u64.wrap (32 - s)=n) (hn:0<=n) (hs:32 - n=s):AF 207 [wd x,.I n] [] (wd (Ct x n)) []:=by
 have q:AF 208 [wd x,.I (-n)] [] (wd (Ct x n)) []:=by
  refine sZ.s.ai ?_;refine AB (AT ?_);apply ax [0,5] [] [] 100
  .simp [-Aq]
   refine⟨_,h3,?_⟩;rfl
  refine arc ⟨17,[(4,wd (Ct x n))],[],300⟩ ?_ ?_
  .simp [h4,h5,hn]
   exact AZ [] (by simp[Ct,hs];rw[dL];exact .refl _)
  exact Bg
 refine eH.s.ai ?_;refine rs [0,1] [] [] ?_;apply ax [4] [] [] 300
 .simp [h1]
  refine Au q ?_;simp;rfl
 exact Bg
theorem Zp (x:Int):AF 207 [wd x,.I 7] [] (wd (Ct x 7)) []:=G9 x 7 25 rfl rfl zx rfl zx rfl
theorem uW (x:Int):AF 207 [wd x,.I 18] [] (wd (Ct x 18)) []:=G9 x 18 14 rfl rfl zx rfl zx rfl
theorem nZ (x:Int):AF 207 [wd x,.I 17] [] (wd (Ct x 17)) []:=G9 x 17 15 rfl rfl zx rfl zx rfl
theorem cK (x:Int):AF 207 [wd x,.I 19] [] (wd (Ct x 19)) []:=G9 x 19 13 rfl rfl zx rfl zx rfl
theorem tX (x:Int):AF 207 [wd x,.I 6] [] (wd (Ct x 6)) []:=G9 x 6 26 rfl rfl zx rfl zx rfl
theorem Z7 (x:Int):AF 207 [wd x,.I 11] [] (wd (Ct x 11)) []:=G9 x 11 21 rfl rfl zx rfl zx rfl
theorem lV (x:Int):AF 207 [wd x,.I 25] [] (wd (Ct x 25)) []:=G9 x 25 7 rfl rfl zx rfl zx rfl
theorem jI (x:Int):AF 207 [wd x,.I 2] [] (wd (Ct x 2)) []:=G9 x 2 30 rfl rfl zx rfl zx rfl
theorem sF (x:Int):AF 207 [wd x,.I 13] [] (wd (Ct x 13)) []:=G9 x 13 19 rfl rfl zx rfl zx rfl
theorem lO (x:Int):AF 207 [wd x,.I 22] [] (wd (Ct x 22)) []:=G9 x 22 10 rfl rfl zx rfl zx rfl
variable {l:List Int}
abbrev As (l:List Int):List AV:=l.map wd
theorem Hz {i n:Nat} (hl:l.length=n) (h:i<n):(As l).drop i=wd (gt l i)::(As l).drop (i+1):=by
 have h2:i<(As l).length:=by simp[hl,h]
 rw[QO h2];obtain⟨h3,h4⟩:=Ff hl h;simp[h4]
theorem OD {i:Nat} {z:Int} (h:i<l.length):Ae (As l) i [wd z]=As (l.set i z):=by
 unfold Ae;rw[As,As,UQ,List.set_eq_take_append_cons_drop,if_pos (by simpa using h)]
 simp
theorem PB (h:l.length=8):∃ a b c d e f g k,l=[a,b,c,d,e,f,g,k]:=by
 match l,h with
 | [a,b,c,d,e,f,g,k],_=>exact⟨a,b,c,d,e,f,g,k,rfl⟩
def oS (H V:List Int):Nat->List Int
 | 0=>H
 | i+1=>(oS H V i).set i (u2 .add (gt H i) (gt V i))
theorem SR (H V:List Int):∀ i,(oS H V i).length=H.length
 | 0=>rfl
 | i+1=>by rw[oS,UG];exact SR H V i
theorem Rx (H V:List Int):∀ i j,i<=j->gt (oS H V i) j=gt H j
 | 0,_,_=>rfl
 | i+1,j,h=>by
   rw[<- Rx H V i j zy,oS,gt,gt,List.getD,List.getElem?_set_ne zy]
   rfl
theorem qP {H B C:List Int} (hH:H.length=8) (hV:(vF H B C 64).length=8):oS H (vF H B C 64) 8=oF H B C 8:=by
 have h0:oF H B C 0=vF H B C 64:=rfl;obtain⟨a,b,c,d,e,f,g,k,rfl⟩:=PB hH;obtain⟨a',b',c',d',e',f',g',k',hv⟩:=PB hV;generalize hO:oF [a,b,c,d,e,f,g,k] B C=O;have hs:∀ i,O (i+1)=(O i).set i (u2 .add (gt (O i) i) (gt [a,b,c,d,e,f,g,k] i)):=λ i=>by rw[<- hO];rfl
 rw[hO] at h0;rw[hv] at h0 ⊢;simp[hs,h0,oS,gt];simp[n9]
theorem j8 (H B C:List Int) (hH:H.length=8) (hB:B.length=64) (hC:C.length=64):AF 166 [.pt 0 0 0,Ce B,.pv (As C)] [⟨8,[As H],0⟩] (.tup []) [some ⟨8,[As (Gz H B C)],0⟩]:=by
 refine fD.s.ai ?_;refine arc ⟨211,[(0,.pt 0 0 0),(1,Ce B),(2,.pv (As C)),(6,.pt 24 0 0)],[(0,some ⟨8,[As H],0⟩),(24,some ⟨64,[As (C8 B 0)],0⟩)],100⟩ ?_ ?_
 .simp
  exact AN [(0,0),(16,24)] [] zz (by simp[C8])
 refine AB (BM ⟨211,[(0,.pt 0 0 0),(1,Ce B),(2,.pv (As C)),(6,.pt 24 0 0),(19,.I 0)],[(0,some ⟨8,[As H],0⟩),(24,some ⟨64,[As (C8 B 0)],0⟩)],200⟩ [(0,0),(24,24)] [] ?_);refine AI (An (ι:=Nat) (λ i=>⟨211,[(0,.pt 0 0 0),(1,Ce B),(2,.pv (As C)),(6,.pt 24 0 0),(19,.I i)],[(0,some ⟨8,[As H],0⟩),(24,some ⟨64,[As (C8 B i)],0⟩)],300⟩) (λ i=>i<=16) (λ i=>16 - i) 0 zy (CK [(0,0),(24,24)] []) ?_)
 intro i hi;refine arc ⟨211,[(0,.pt 0 0 0),(1,Ce B),(2,.pv (As C)),(6,.pt 24 0 0),(19,.I i),(20,.B (decide (i<16)))],[(0,some ⟨8,[As H],0⟩),(24,some ⟨64,[As (C8 B i)],0⟩)],400⟩ ?_ ?_
 .simp
  exact AN [(0,0),(24,24)] [] (by simp<;>exact A0 (by rw[Qg];simp;omega))
 refine AB (AE _ rfl (λ h=>AG ?_) λ h=>Ak (Al ?_))
 .rw [Qa] at h
  refine Bm ⟨211,[(0,.pt 0 0 0),(1,Ce B),(2,.pv (As C)),(6,.pt 24 0 0),(19,.I i)],[(0,some ⟨8,[As H],0⟩),(24,some ⟨64,[As (C8 B (i+1))],0⟩)],1000⟩ ?_ ?_
  .obtain ⟨p,hp⟩:=AJ (4*i)
   obtain⟨p1,hw⟩:∃ q,q=p+1:=⟨_,rfl⟩;obtain⟨p2,hx⟩:∃ q,q=p+2:=⟨_,rfl⟩;obtain⟨p3,hy⟩:∃ q,q=p+3:=⟨_,rfl⟩;have a0:IntKind.i64.wrap (4*(i:Int))=(p:Int):=by rw[w6];omega
   have a1:IntKind.i64.wrap ((p:Int)+1)=(p1:Int):=by rw[w6];omega
   have h8:IntKind.i64.wrap ((p:Int)+2)=(p2:Int):=by rw[w6];omega
   have a3:IntKind.i64.wrap ((p:Int)+3)=(p3:Int):=by rw[w6];omega
   obtain⟨l0,g0⟩:=Ff hB (show p<64 by omega)
   obtain⟨l1,g1⟩:=Ff hB (show p1<64 by omega)
   obtain⟨l2,g2⟩:=Ff hB (show p2<64 by omega)
   obtain⟨l3,g3⟩:=Ff hB (show p3<64 by omega)
   have a4:(C8 B i).length=64:=Lm B i;obtain⟨z,hz⟩:=AJ (J9 (gt B p) (gt B p1) (gt B p2) (gt B p3))
   have hs:Ae (As (C8 B i)) i [wd z]=As (C8 B (i+1)):=by
    rw[OD zy,C8,hz,hw,hx,hy,hp]
   rw[<- hs];have h4:(As (C8 B i)).length=64:=by simp[a4]
   have u:∀ ρ sn h,(As (C8 B i)).map (conv ρ sn h 4)=As (C8 B i):=λ ρ sn h=>by simp[AC]
   generalize As (C8 B i)=X at *;generalize au:gt B p=c0 at *;generalize av:gt B p1=c1 at *;generalize b0:gt B p2=c2 at *;generalize b1:gt B p3=c3 at *;refine AI (arc ⟨211,[(0,.pt 0 0 0),(1,Ce B),(2,.pv (As C)),(6,.pt 24 0 0),(7,.I i),(19,.I i)],[(0,some ⟨8,[As H],0⟩),(24,some ⟨64,[X],0⟩)],500⟩ ?_ ?_)
   .simp
    exact AN [(0,0),(24,24)] [] zz (by simp[u])
   refine Cx rfl ?_;simp[-Ae,a0,a1,h8,a3,l0,l1,l2,l3,g0,g1,g2,g3,show (i:Int)<64 by omega,h4]
   have hd:u2 .or (u2 .or (u2 .or (sh .shl (IntKind.u32.wrap c0) 24) (sh .shl (IntKind.u32.wrap c1) 16)) (sh .shl (IntKind.u32.wrap c2) 8)) (IntKind.u32.wrap c3)=z:=hz.symm;simp only[hd];refine⟨zy,rfl,?_⟩
   have h5:∀ ρ sn h,(Ae X i [wd z]).map (conv ρ sn h 4)=Ae X i [wd z]:=λ ρ sn h=>by unfold Ae;simp only[QN,UH,UI,u];simp
   exact AN [(0,0),(24,24)] [] zz (by simp[-Ae,h5])
  have h1:=wq (k:=i);refine Ab rfl ?_;simp[h1];exact⟨i+1,zy,zy,CK [(0,0),(24,24)] []⟩
 rw[Qb] at h;obtain rfl:i=16:=zy
 refine arc ⟨211,[(0,.pt 0 0 0),(2,.pv (As C)),(6,.pt 24 0 0),(8,.fn (.func 207) [] [])],[(0,some ⟨8,[As H],0⟩),(24,some ⟨64,[As (BT B 0)],0⟩)],2000⟩ ?_ ?_
 .simp
  exact AN [(0,0),(24,24)] [] zz (by simp[BT])
 refine AB (BM ⟨211,[(0,.pt 0 0 0),(2,.pv (As C)),(6,.pt 24 0 0),(8,.fn (.func 207) [] []),(9,.I ((0+16:Nat):Int))],[(0,some ⟨8,[As H],0⟩),(24,some ⟨64,[As (BT B 0)],0⟩)],2100⟩ [(0,0),(24,24)] [] ?_);refine AI (An (ι:=Nat) (λ i=>⟨211,[(0,.pt 0 0 0),(2,.pv (As C)),(6,.pt 24 0 0),(8,.fn (.func 207) [] []),(9,.I ((i+16:Nat):Int))],[(0,some ⟨8,[As H],0⟩),(24,some ⟨64,[As (BT B i)],0⟩)],2200⟩) (λ i=>i<=48) (λ i=>48 - i) 0 zy (CK [(0,0),(24,24)] []) ?_)
 intro i hi;obtain⟨m,hm⟩:=AJ (i+16);rw[<- hm];refine AB (arc ⟨211,[(0,.pt 0 0 0),(2,.pv (As C)),(6,.pt 24 0 0),(8,.fn (.func 207) [] []),(9,.I m),(59,.B (decide (i<48)))],[(0,some ⟨8,[As H],0⟩),(24,some ⟨64,[As (BT B i)],0⟩)],2300⟩ ?_ ?_)
 .simp
  exact AN [(0,0),(24,24)] [] (by simp<;>exact A0 (by rw[Qg];simp;omega))
 refine AE _ rfl (λ h=>AG ?_) λ h=>Ak (Al ?_)
 .rw [Qa] at h
  refine Bm ⟨211,[(0,.pt 0 0 0),(2,.pv (As C)),(6,.pt 24 0 0),(8,.fn (.func 207) [] []),(9,.I m)],[(0,some ⟨8,[As H],0⟩),(24,some ⟨64,[As (BT B (i+1))],0⟩)],4000⟩ ?_ ?_
  .have hb:IntKind.i64.wrap ((m:Int) - 15)=((i+1:Nat):Int):=by rw[w6];omega
   have h8:IntKind.i64.wrap ((m:Int) - 2)=((i+14:Nat):Int):=by rw[w6];omega
   have hg:IntKind.i64.wrap ((m:Int) - 16)=((i:Nat):Int):=by rw[w6];omega
   have hh:IntKind.i64.wrap ((m:Int) - 7)=((i+9:Nat):Int):=by rw[w6];omega
   have h0:=JI B i;have d15:=Hz h0 (show i+1<64 by omega)
   have d2:=Hz h0 (show i+14<64 by omega)
   have d16:=Hz h0 (show i<64 by omega)
   have d7:=Hz h0 (show i+9<64 by omega)
   obtain⟨z,hz⟩:=AJ (u2 .add (u2 .add (u2 .add (gt (BT B i) i) (JW (gt (BT B i) (i+1)))) (gt (BT B i) (i+9))) (I6 (gt (BT B i) (i+14))))
   have hs:Ae (As (BT B i)) m [wd z]=As (BT B (i+1)):=by
    rw[OD zy,hz,hm]
    rfl
   rw[<- hs];have h4:(As (BT B i)).length=64:=by simp[h0]
   have u:∀ ρ sn h,(As (BT B i)).map (conv ρ sn h 4)=As (BT B i):=λ ρ sn h=>by simp[AC]
   generalize gt (BT B i) (i+1)=a15 at *;generalize gt (BT B i) (i+14)=a2 at *;generalize gt (BT B i) i=a16 at *;generalize gt (BT B i) (i+9)=a7 at *;generalize As (BT B i)=X at *;obtain⟨hj,hk⟩:∃ q,q=i+1:=⟨_,rfl⟩;obtain⟨q2,hq2⟩:∃ q,q=i+14:=⟨_,rfl⟩;obtain⟨q7,a5⟩:∃ q,q=i+9:=⟨_,rfl⟩;rw[<- hk] at hb d15;rw[<- hq2] at h8 d2;rw[<- a5] at hh d7;generalize List.drop (hj+1) X=R15 at d15;generalize List.drop (q2+1) X=R2 at d2;generalize List.drop (i+1) X=R16 at d16;generalize List.drop (q7+1) X=R7 at d7;refine AI (Bi ⟨211,[(0,.pt 0 0 0),(2,.pv (As C)),(6,.pt 24 0 0),(8,.fn (.func 207) [] []),(9,.I m),(10,wd a15),(11,wd a2)],[(0,some ⟨8,[As H],0⟩),(24,some ⟨64,[X],0⟩)],2600⟩ ?_ ?_)
   .simp [hb,h8,d15,d2,show (hj:Int)<64 by omega,show (q2:Int)<64 by omega]
    exact⟨rfl,AN [(0,0),(24,24)] [] zz (by simp[u])⟩
   refine Cx rfl ?_;simp[-Ae,hg,hh,d16,show (i:Int)<64 by omega,show (q7:Int)<64 by omega]
   refine Au (Zp a15) ?_;simp[-Ae];refine Au (uW a15) ?_;simp[-Ae,d7];refine Au (nZ a2) ?_;simp[-Ae];refine Au (cK a2) ?_;simp[-Ae,h4,show (m:Int)<64 by omega]
   have hd:u2 .add (u2 .add (u2 .add a16 (u2 .xor (u2 .xor (Ct a15 7) (Ct a15 18)) (sh .shr a15 3))) a7) (u2 .xor (u2 .xor (Ct a2 17) (Ct a2 19)) (sh .shr a2 10))=z:=hz.symm;simp only[hd];refine⟨zy,rfl,?_⟩
   have h5:∀ ρ sn h,(Ae X m [wd z]).map (conv ρ sn h 4)=Ae X m [wd z]:=λ ρ sn h=>by unfold Ae;simp only[QN,UH,UI,u];simp
   exact AN [(0,0),(24,24)] [] zz (by simp[-Ae,h5])
  have h1:IntKind.i64.wrap ((m:Int)+1)=((i+1+16:Nat):Int):=by rw[w6];omega
  refine Ab rfl ?_;simp[h1];exact⟨i+1,zy,zy,CK [(0,0),(24,24)] []⟩
 rw[Qb] at h;obtain rfl:i=48:=zy
 have he:(BT B 48).length=64:=JI B 48;have hf:∀ i,vF H B C (i+1)=[u2 .add (u2 .add (xF (vF H B C i) (gt C i) (gt (BT B 48) i)) (r3 (gt (vF H B C i) 0) 2 13 22)) (mF (vF H B C i)),gt (vF H B C i) 0,gt (vF H B C i) 1,gt (vF H B C i) 2,u2 .add (gt (vF H B C i) 3) (xF (vF H B C i) (gt C i) (gt (BT B 48) i)),gt (vF H B C i) 4,gt (vF H B C i) 5,gt (vF H B C i) 6]:=λ i=>rfl;obtain⟨W,hW⟩:=AJ (BT B 48);rw[<- hW] at he ⊢;simp only[<- hW] at hf;have hl:vF H B C 0=H:=rfl;have h9:∀ i,(vF H B C i).length=8:=λ i=>by cases i with | zero=>exact hH | succ i=>rfl
 have hn:Gz H B C=oS H (vF H B C 64) 8:=(qP hH (h9 64)).symm;rw[hn];obtain⟨V,hV⟩:=AJ (vF H B C);rw[<- hV] at hf hl h9 hn ⊢;refine arc ⟨211,[(0,.pt 0 0 0),(2,.pv (As C)),(6,.pv (As W)),(8,.fn (.func 207) [] []),(12,.pt 40 0 0)],[(0,some ⟨8,[As H],0⟩),(40,some ⟨8,[As (V 0)],0⟩)],5000⟩ ?_ ?_
 .have ho:∀ f:Int->AV,(H.map f).take 8=H.map f:=λ f=>Qd (by simp[hH])
  simp[hH,Ae];exact AN [(0,0),(2324,40)] [24] (by simp[AC]) (by simp[AC,hl,ho])
 refine AB (BM ⟨211,[(0,.pt 0 0 0),(2,.pv (As C)),(6,.pv (As W)),(8,.fn (.func 207) [] []),(12,.pt 40 0 0),(106,.I 0)],[(0,some ⟨8,[As H],0⟩),(40,some ⟨8,[As (V 0)],0⟩)],5100⟩ [(0,0),(40,40)] [] ?_);refine AI (An (ι:=Nat) (λ i=>⟨211,[(0,.pt 0 0 0),(2,.pv (As C)),(6,.pv (As W)),(8,.fn (.func 207) [] []),(12,.pt 40 0 0),(106,.I i)],[(0,some ⟨8,[As H],0⟩),(40,some ⟨8,[As (V i)],0⟩)],5200⟩) (λ i=>i<=64) (λ i=>64 - i) 0 zy (DU [(0,0),(40,40)] []) ?_)
 intro i hi;refine arc ⟨211,[(0,.pt 0 0 0),(2,.pv (As C)),(6,.pv (As W)),(8,.fn (.func 207) [] []),(12,.pt 40 0 0),(106,.I i),(107,.B (decide (i<64)))],[(0,some ⟨8,[As H],0⟩),(40,some ⟨8,[As (V i)],0⟩)],5300⟩ ?_ ?_
 .simp
  exact AN [(0,0),(40,40)] [] (by simp<;>exact A0 (by rw[Qg];simp;omega)) (by simp[AC])
 refine AB (AE _ rfl (λ h=>AG ?_) λ h=>Ak (Al ?_))
 .rw [Qa] at h
  have h1:=wq (k:=i);have ha:=hf i;obtain⟨v0,v1,v2,v3,v4,v5,v6,v7,hv⟩:=PB (h9 i);have dC:=Hz hC h;have dW:=Hz he h;have hq:(As C).length=64:=by simp[hC]
  have hc:(As W).length=64:=by simp[he]
  rw[hv] at ha ⊢;obtain⟨kc,a6⟩:=AJ (gt C i);obtain⟨kw,a8⟩:=AJ (gt W i);rw[<- a6] at ha dC;rw[<- a8] at ha dW;have a9:xF [v0,v1,v2,v3,v4,v5,v6,v7] kc kw=u2 .add (u2 .add (u2 .add (u2 .add v7 (u2 .xor (u2 .xor (Ct v4 6) (Ct v4 11)) (Ct v4 25))) (u2 .xor (u2 .and v4 v5) (u2 .and (nt v4) v6))) kc) kw:=rfl;have ag:mF [v0,v1,v2,v3,v4,v5,v6,v7]=u2 .xor (u2 .xor (u2 .and v0 v1) (u2 .and v0 v2)) (u2 .and v1 v2):=rfl;obtain⟨tt,h6⟩:=AJ (xF [v0,v1,v2,v3,v4,v5,v6,v7] kc kw);obtain⟨uu,h7⟩:=AJ (u2 .add (r3 v0 2 13 22) (mF [v0,v1,v2,v3,v4,v5,v6,v7]));have am:r3 v0 2 13 22=u2 .xor (u2 .xor (Ct v0 2) (Ct v0 13)) (Ct v0 22):=rfl
  have an:V (i+1)=[u2 .add tt uu,v0,v1,v2,u2 .add v3 tt,v4,v5,v6]:=by
   rw[ha,mW];rw[<- h6];rw[h7];rfl
  rw[a9] at h6;rw[am,ag] at h7;replace h6:=h6.symm;replace h7:=h7.symm;generalize List.drop (i+1) (As C)=RC at dC;generalize List.drop (i+1) (As W)=RW at dW;refine Bm ⟨211,[(0,.pt 0 0 0),(2,.pv (As C)),(6,.pv (As W)),(8,.fn (.func 207) [] []),(12,.pt 40 0 0),(106,.I i)],[(0,some ⟨8,[As H],0⟩),(40,some ⟨8,[As (V (i+1))],0⟩)],8000⟩ ?_ ?_
  .rw [an]
   refine AI (ar [0,2,6,8,12,13,106] [(0,0),(40,40)] [] 5500 ?_);apply ay [0,2,6,8,12,13,14,15,106] [(0,0),(40,40)] [] 5600
   .simp
    exact⟨rfl,rfl⟩
   apply ay [0,2,6,8,12,14,16,106] [(0,0),(40,40)] [] 6000
   .simp [hq,hc,dC,dW,h,show (i:Int)<64 by omega]
    refine Au (tX v4) ?_;simp[hq,hc,dC,dW,show (i:Int)<64 by omega]
    refine Au (Z7 v4) ?_;simp;refine Au (lV v4) ?_;simp;simp only[h6];exact⟨rfl,rfl⟩
   apply ay [0,2,6,8,12,16,17,106] [(0,0),(40,40)] [] 7000
   .simp
    refine Au (jI v0) ?_;simp;refine Au (sF v0) ?_;simp;refine Au (lO v0) ?_;simp;simp only[h7];exact⟨rfl,rfl⟩
   refine Ab rfl ?_;simp (maxSteps:=2000000) [GW,Ae];exact Aw [(0,0),(40,40)] []
  refine Ab rfl ?_;simp[h1];exact⟨i+1,zy,zy,Aw [(0,0),(40,40)] []⟩
 rw[Qb] at h;obtain rfl:i=64:=zy
 have h2:=h9 64;obtain⟨Z,hZ⟩:=AJ (V 64);rw[<- hZ] at h2 ⊢;have hr:oS H Z 0=H:=rfl;have h3:=SR H Z;rw[hH] at h3;have ht:=Rx H Z;have hu:∀ i,oS H Z (i+1)=(oS H Z i).set i (u2 .add (gt H i) (gt Z i)):=λ i=>rfl;refine arc ⟨211,[(0,.pt 0 0 0),(12,.pv (As Z)),(196,.I 0)],[(0,some ⟨8,[As (oS H Z 0)],0⟩)],9000⟩ ?_ ?_
 .simp
  exact AN [(0,0)] [40] (by simp[AC]) (by simp[AC,hr])
 refine AI (An (ι:=Nat) (λ i=>⟨211,[(0,.pt 0 0 0),(12,.pv (As Z)),(196,.I i)],[(0,some ⟨8,[As (oS H Z i)],0⟩)],9100⟩) (λ i=>i<=8) (λ i=>8 - i) 0 zy (Aw [(0,0)] []) ?_)
 intro i hi;refine arc ⟨211,[(0,.pt 0 0 0),(12,.pv (As Z)),(196,.I i),(197,.B (decide (i<8)))],[(0,some ⟨8,[As (oS H Z i)],0⟩)],9200⟩ ?_ ?_
 .simp
  exact AN [(0,0)] [] (by simp[AC]<;>exact A0 (by rw[Qg];simp;omega)) (by simp[AC])
 refine AB (AE _ rfl (λ h=>AG ?_) λ h=>Ak (Al ?_))
 .rw [Qa] at h
  have h1:=wq (k:=i);refine Bm ⟨211,[(0,.pt 0 0 0),(12,.pv (As Z)),(196,.I i)],[(0,some ⟨8,[As (oS H Z (i+1))],0⟩)],9900⟩ ?_ ?_
  .have dO:=Hz (h3 i) h
   have dZ:=Hz h2 h;rw[ht i i (Qf _)] at dO
   have hs:Ae (As (oS H Z i)) i [wd (u2 .add (gt H i) (gt Z i))]=As (oS H Z (i+1)):=by
    rw[OD (by rw[h3];exact h),hu]
   rw[<- hs];have h4:(As (oS H Z i)).length=8:=by simp[h3]
   have aq:(As Z).length=8:=by simp[h2]
   have u:∀ ρ sn h,(As (oS H Z i)).map (conv ρ sn h 4)=As (oS H Z i):=λ ρ sn h=>by simp[AC]
   generalize As (oS H Z i)=X at *;generalize gt H i=a at *;generalize gt Z i=b at *;generalize List.drop (i+1) X=RX at dO;generalize List.drop (i+1) (As Z)=RZ at dZ;obtain⟨z,hz⟩:=AJ (u2 .add a b);rw[<- hz] at hs ⊢;refine AI (arc ⟨211,[(0,.pt 0 0 0),(12,.pv (As Z)),(18,.I i),(196,.I i)],[(0,some ⟨8,[X],0⟩)],9300⟩ ?_ ?_)
   .simp
    exact AN [(0,0)] [] (by simp[AC]) (by simp[u])
   refine Cx rfl ?_;simp[-Ae,dO,dZ,h4,aq,h,show (i:Int)<8 by omega]
   simp only[<- hz];refine⟨zy,rfl,?_⟩
   have h5:∀ ρ sn h,(Ae X i [wd z]).map (conv ρ sn h 4)=Ae X i [wd z]:=λ ρ sn h=>by unfold Ae;simp only[QN,UH,UI,u];simp
   exact AN [(0,0)] [] (by simp[AC]) (by simp[-Ae,h5])
  refine Ab rfl ?_;simp[h1];exact⟨i+1,zy,zy,Aw [(0,0)] []⟩
 rw[Qb] at h;obtain rfl:i=8:=zy
 exact⟨.inl rfl,AO.k1 rfl zz (by simp[AC])⟩
theorem m6:AF 165 [] [] (.agg (As Bc)) []:=by
 refine k8.s.ai ?_;refine rs [0] [16] [] ?_;apply ax [0] [(16,16)] [] 400
 .simp (maxSteps:=2000000) [GW,Ae]
  rfl
 exact BR (AO.out [] [16] rfl zz zz (by simp[Bc]) zz)
section
variable {P:Program} {np id:Nat} {h:Nat->Option AD} {K:AV->List Nat->List (Nat × Option AD)->Prop} {s s':Nat} {f:Bool} {rows:List (List AV)}
theorem t7:aK P np id (.slc s false true false) [.vs s' f rows,.sc (.int .i64 64)] h K=(64<=rows.length/\s'=s/\K (.vs s false (rows.take 64)) [] []):=mS (k:=64)
theorem pR:aK P np id (.slc s true false false) [.vs s' f rows,.sc (.int .i64 64)] h K=(64<=rows.length/\s'=s/\K (.vs s f (rows.drop 64)) [] []):=ZT (k:=64)
end
theorem VZ (b:List Int) (hl:b.length<=1073741824):AF 115 [Ce b] [] (.sc (.string (D4 b))) []:=by
 refine gJ.s.ai ?_;obtain⟨L,hL⟩:=AJ (b.length);obtain⟨Z,hZ⟩:=AJ (Ib L);have am:Z=(120 - (L+1) % 64) % 64:=hZ;refine ar [0] [] [] 100 ?_
 let m:Nat->List Int:=λ z=>b++[128]++List.replicate z 0
 have h4:∀ z,(m z).length=L+1+z:=λ z=>by simp[m,hL];omega
 have hn:∀ z,m (z+1)=m z++[0]:=λ z=>by simp[m,List.replicate_succ']
 have h5:b++[128]++List.replicate (Ib b.length) 0=m Z:=by rw[hZ,hL]
 have h6:m 0=b++[128]:=by simp[m]
 have h1:∀ (l:List Int) (f:Int->List AV),(l.map f).take l.length=l.map f:=λ l f=>Qd zz
 refine arc ⟨69,[(0,Ce b),(3,.rs 64 0 (m 0).length)],[(64,some ⟨1,AR .u8 (m 0),0⟩)],200⟩ ?_ ?_
 .simp [<- hL]
  refine⟨zy,zy,?_⟩
  exact AN [(124,64)] [] (by simp[h6,hL]) (by simp[h6,AC])
 clear_value m
 refine AB (AI (An (ι:=Nat) (λ z=>⟨69,[(0,Ce b),(3,.rs 64 0 (m z).length)],[(64,some ⟨1,AR .u8 (m z),0⟩)],300⟩) (λ z=>z<=Z) (λ z=>Z - z) 0 zy (Aw [(64,64)] []) ?_))
 intro z hz;obtain⟨N,hN⟩:=AJ (L+1+z);have h7:Int.tmod (N:Int) 64=((N % 64:Nat):Int):=rfl;have u:=h4 z;rw[<- hN] at u;rw[u];refine AB (arc ⟨69,[(0,Ce b),(3,.rs 64 0 N),(18,.B (decide (z<Z)))],[(64,some ⟨1,AR .u8 (m z),0⟩)],400⟩ ?_ ?_)
 .simp [h7,-Int.natCast_emod]
  exact AN [(64,64)] [] (by simp[-Int.natCast_emod,AC]<;>exact A0 (by rw[Qg];simp[-Int.natCast_emod];omega)) (by simp[AC])
 refine AE _ rfl (λ h=>AG ?_) λ h=>Ak (Al ?_)
 .rw [Qa] at h
  have hs:=hn z;have ho:=h4 (z+1);have h0:=h1 (m z);rw[u] at h0;refine AI (Ab rfl ?_);simp[u];refine⟨zy,z+1,zy,zy,?_⟩
  rw[ho,hs];exact AN [(416,64)] [] (by simp[hN]<;>exact Eh zw) (by simp[AC,h0])
 rw[Qb] at h;obtain rfl:z=Z:=zy
 obtain⟨M0,hq⟩:=AJ (m z);rw[<- hq] at u h5 ⊢;obtain⟨bt,h8⟩:=AJ (KE L);refine arc ⟨69,[(3,.rs 64 0 N),(4,.sc (.int .u64 bt))],[(64,some ⟨1,AR .u8 M0,0⟩)],500⟩ ?_ ?_
 .simp [<- hL]
  exact AN [(64,64)] [] (by simp[h8,KE,AC]) (by simp[AC])
 let q:Nat->List Int:=λ j=>M0++E5 bt j
 have h9:∀ j,(q j).length=N+j:=λ j=>by simp only[q];rw[Qe,Jk,u]
 have hr:∀ j,q (j+1)=q j++[EB bt (7 - j)]:=λ j=>by simp only[q];rw[KQ,Qq]
 have ht:q 0=M0:=by simp[q,E5]
 have ha:q 8=Dd b:=by
  simp only[q];rw[Dd,h5,h8,hL];rfl
 refine AB (arc ⟨69,[(3,.rs 64 0 (N+0)),(4,.sc (.int .u64 bt)),(5,.I (56 - 8*((0:Nat):Int)))],[(64,some ⟨1,AR .u8 (q 0),0⟩)],600⟩ ?_ ?_)
 .simp [ht]
  exact Aw [(64,64)] []
 clear_value q
 refine AI (An (ι:=Nat) (λ j=>⟨69,[(3,.rs 64 0 (N+j)),(4,.sc (.int .u64 bt)),(5,.I (56 - 8*(j:Int)))],[(64,some ⟨1,AR .u8 (q j),0⟩)],700⟩) (λ j=>j<=8) (λ j=>8 - j) 0 zy (Aw [(64,64)] []) ?_)
 intro j hj;refine AB (arc ⟨69,[(3,.rs 64 0 (N+j)),(4,.sc (.int .u64 bt)),(5,.I (56 - 8*(j:Int))),(27,.B (decide (j<8)))],[(64,some ⟨1,AR .u8 (q j),0⟩)],800⟩ ?_ ?_)
 .simp
  exact AN [(64,64)] [] (by simp[AC]<;>exact A0 (by rw[Qg];simp;omega)) (by simp[AC])
 refine AE _ rfl (λ h=>AG ?_) λ h=>Ak (Al ?_)
 .rw [Qa] at h
  refine Bm ⟨69,[(3,.rs 64 0 (N+(j+1))),(4,.sc (.int .u64 bt)),(5,.I (56 - 8*(j:Int)))],[(64,some ⟨1,AR .u8 (q (j+1)),0⟩)],1000⟩ ?_ ?_
  .have hs:=hr j
   have hc:=h9 j;have h0:=h1 (q j);rw[hc] at h0;rw[hs];generalize q j=Y at *;obtain⟨k,hk⟩:∃ k:Nat,k=7 - j:=⟨_,rfl⟩;obtain⟨s,hu⟩:∃ s:Nat,s=8*k:=⟨_,rfl⟩;have hv:56 - 8*(j:Int)=(s:Int):=zy
   have hw:IntKind.u64.wrap (s:Int)=(s:Int):=by rw[IntKind.wrap_u64];omega
   have hb:EB bt k=IntKind.u8.wrap (bt.fdiv (2 ^ (min (8*k) 64))):=rfl;rw[<- hk];generalize EB bt k=y at hb ⊢;rw[<- hu] at hb;rw[hv];refine AI (Ab rfl ?_);simp[hw,IntKind.bits,<- hb,hc];refine⟨zy,?_⟩
   exact AN [(856,64)] [] (by simp<;>exact Eh zw) (by simp[AC,h0])
  have h3:IntKind.i64.wrap (56 - 8*(j:Int) - 8)=56 - 8*((j+1:Nat):Int):=by rw[w6];omega
  refine Ab rfl ?_;simp[h3];exact⟨j+1,zy,zy,Aw [(64,64)] []⟩
 rw[Qb] at h;obtain rfl:j=8:=zy
 obtain⟨M,hM⟩:=AJ (Dd b);have hx:M.length=N+8:=by rw[hM,<- ha];exact h9 8
 have ag:M.length % 64=0:=by rw[hM];exact VB b
 obtain⟨nb,hy⟩:=AJ (M.length / 64);have hd:D4 b=⟨((Cy (hF M nb) 8).map λ n=>UInt8.ofNat n.toNat).toArray⟩:=by rw[hy,hM];rfl
 have a0:M.length=64*nb:=zy
 rw[ha,<- hM,<- hx,hd];have a1:=h1 M;refine arc ⟨69,[(3,Ce (M.drop (64*0))),(6,.pt 30 0 0),(7,.pv (As Bc))],[(30,some ⟨8,[As (hF M 0)],0⟩)],2000⟩ ?_ ?_
 .simp (maxSteps:=2000000) [GW]
  refine Au m6 ?_;simp (maxSteps:=2000000) [Ae,Of];exact AN [(816,30)] [64,824] (by simp[AC,a1]) (by simp[hF,Fm])
 have a2:∀ i,i<=nb->(M.drop (64*i)).length=64*(nb - i):=λ i hi=>by rw[QY,a0];omega
 refine AB (AI (An (ι:=Nat) (λ i=>⟨69,[(3,Ce (M.drop (64*i))),(6,.pt 30 0 0),(7,.pv (As Bc))],[(30,some ⟨8,[As (hF M i)],0⟩)],2100⟩) (λ i=>i<=nb) (λ i=>nb - i) 0 zy (Aw [(30,30)] []) ?_))
 intro i hi;have he:=a2 i hi;obtain⟨D,hD⟩:=AJ (M.drop (64*i));rw[<- hD] at he ⊢;refine AB (arc ⟨69,[(3,Ce D),(6,.pt 30 0 0),(7,.pv (As Bc)),(42,.B (decide (i<nb)))],[(30,some ⟨8,[As (hF M i)],0⟩)],2200⟩ ?_ ?_)
 .simp [he]
  exact AN [(30,30)] [] (by simp[AC]<;>exact A0 (by rw[Qg];simp;omega)) (by simp[AC])
 refine AE _ rfl (λ h=>AG ?_) λ h=>Ak (Al ?_)
 .rw [Qa] at h
  have a3:D.drop 64=M.drop (64*(i+1)):=by rw[hD,List.drop_drop];congr 1
  have hf:=j8 (hF M i) (D.take 64) Bc (Jj M i) (by rw[QC];omega) rfl
  have a4:Gz (hF M i) (D.take 64) Bc=hF M (i+1):=by rw[hD];rfl
  rw[a4] at hf;have hg:64<=D.length:=zy
  have an:D.length<=1073742000:=by rw[hD,QY];omega
  refine Bm ⟨69,[(3,Ce D),(6,.pt 30 0 0),(7,.pv (As Bc))],[(30,some ⟨8,[As (hF M (i+1))],0⟩)],3000⟩ ?_ ?_
  .refine AI (Ab rfl ?_)
   simp[t7,hg];refine BZ (i:=30) rfl (e':=⟨8,[As (hF M i)],0⟩) (by simp[AC]) hf zz (by simp[AC,UH]) ?_
   simp;exact Aw [(30,30)] []
  refine Ab rfl ?_;simp[pR,hg];have a5:(AR .u8 D).drop 64=AR .u8 (D.drop 64):=by simp[AR,UI]
  exact⟨i+1,zy,zy,AN [(30,30)] [] (by simp[AC];rw[<- a3];exact Eh (by rw[a5])) (by simp[AC])⟩
 rw[Qb] at h;obtain rfl:i=nb:=zy
 obtain⟨R,hR⟩:=AJ (hF M i);have h2:R.length=8:=by rw[hR];exact Jj M i
 rw[<- hR];have hh:Cy R 0=[]:=rfl;have a6:∀ j,Cy R (j+1)=Cy R j++F5 (gt R j):=λ j=>rfl;have a7:=Kd R;refine ar [6,8] [(30,30)] [] 4000 ?_;refine AB (arc ⟨69,[(8,.nilS),(48,.agg (As R)),(49,.I 0)],[],4100⟩ ?_ ?_)
 .have hm:∀ f:Int->AV,(R.map f).take 8=R.map f:=λ f=>Qd (by simp[h2])
  simp[h2];exact AN [] [] (by simp[AC,hm]) (by simp[AC])
 refine AI ?_
 refine An (ι:=Nat) (λ j=>⟨69,[(8,.rs 50 0 (Cy R j).length),(48,.agg (As R)),(49,.I j)],[(50,some ⟨1,AR .u8 (Cy R j),0⟩)],4200⟩) (λ j=>j<=8) (λ j=>8 - j) 0 zy
  (Le.lst [] [] [(50,1)] rfl zz zz zz zz zz zz zz (by simp[Up,hh,AC]) (by simp[hh])) ?_
 intro j hj;have aq:=a7 j;refine arc ⟨69,[(8,.rs 50 0 (Cy R j).length),(48,.agg (As R)),(49,.I j),(50,.B (decide (j<8)))],[(50,some ⟨1,AR .u8 (Cy R j),0⟩)],4300⟩ ?_ ?_
 .simp
  exact AN [(50,50)] [] (by simp[AC]<;>exact A0 (by rw[Qg];simp;omega)) (by simp[AC])
 refine AB (AE _ rfl (λ h=>AG ?_) λ h=>Ak (Al ?_))
 .rw [Qa] at h
  have h3:=wq (k:=j);have h0:=h1 (Cy R j);obtain⟨a8,hgt⟩:=Ff h2 h;refine Bm ⟨69,[(8,.rs 50 0 (Cy R (j+1)).length),(48,.agg (As R)),(49,.I j)],[(50,some ⟨1,AR .u8 (Cy R (j+1)),0⟩)],5000⟩ ?_ ?_
  .rw [a6]
   have a9:F5 (gt R j)=[IntKind.u8.wrap (sh .shr (gt R j) 24),IntKind.u8.wrap (sh .shr (gt R j) 16),IntKind.u8.wrap (sh .shr (gt R j) 8),IntKind.u8.wrap (gt R j)]:=rfl;rw[a9];generalize Cy R j=Y at *;generalize gt R j=w at *;refine AI ?_;apply ax [8,10,48,49] [(50,50)] [] 4400
   .simp [h2,a8,hgt,h]
    refine⟨zy,?_⟩
    rfl
   refine Ab rfl ?_;simp;refine⟨zy,?_⟩
   exact AN [(4504,50)] [] (by simp[AC]) (by simp[AC,h0])
  refine Ab rfl ?_;simp[h3];exact⟨j+1,zy,zy,Aw [(50,50)] []⟩
 rw[Qb] at h;obtain rfl:j=8:=zy
 have h0:=h1 (Cy R 8);apply ax [2] [] [] 6000
 .simp
  refine⟨_,by rw[h0];exact PW _,?_⟩
  rfl
 exact Bg
theorem SW (v:Int) (k:Nat) (hk:k<=7):IntKind.u8.wrap ((IntKind.u64.wrap v).fdiv (2 ^ (min (8*k) 64)))=EB v k:=by
 have q:k=0∨k=1∨k=2∨k=3∨k=4∨k=5∨k=6∨k=7:=zy
 unfold EB;rw[IntKind.wrap_u64];rcases q with rfl | rfl | rfl | rfl | rfl | rfl | rfl | rfl
 .rw [show (2:Int) ^ (min (8*0) 64)=1 from rfl,QL _ zx,QL _ zx,IntKind.wrap_u8,IntKind.wrap_u8]
  omega
 .rw [show (2:Int) ^ (min (8*1) 64)=256 from rfl,QL _ zx,QL _ zx,IntKind.wrap_u8,IntKind.wrap_u8]
  omega
 .rw [show (2:Int) ^ (min (8*2) 64)=65536 from rfl,QL _ zx,QL _ zx,IntKind.wrap_u8,IntKind.wrap_u8]
  omega
 .rw [show (2:Int) ^ (min (8*3) 64)=16777216 from rfl,QL _ zx,QL _ zx,IntKind.wrap_u8,IntKind.wrap_u8]
  omega
 .rw [show (2:Int) ^ (min (8*4) 64)=4294967296 from rfl,QL _ zx,QL _ zx,IntKind.wrap_u8,IntKind.wrap_u8]
  omega
 .rw [show (2:Int) ^ (min (8*5) 64)=1099511627776 from rfl,QL _ zx,QL _ zx,IntKind.wrap_u8,IntKind.wrap_u8]
  omega
 .rw [show (2:Int) ^ (min (8*6) 64)=281474976710656 from rfl,QL _ zx,QL _ zx,IntKind.wrap_u8,IntKind.wrap_u8]
  omega
 .rw [show (2:Int) ^ (min (8*7) 64)=72057594037927936 from rfl,QL _ zx,QL _ zx,IntKind.wrap_u8,IntKind.wrap_u8]
  omega
theorem l5 (v:Int):AF 209 [.nilS,.I v] [] (.rs 0 0 8) [some ⟨1,AR .u8 (Ad v),0⟩]:=by
 refine Sj.s.ai ?_;have h3:∀ (l:List Int) (f:Int->List AV),(l.map f).take l.length=l.map f:=λ l f=>Qd zz
 let q:Nat->List Int:=λ j=>[]++E5 v j
 have u:∀ j,(q j).length=([]:List Int).length+j:=λ j=>by simp only[q];rw[Qe,Jk]
 have h4:∀ j,q (j+1)=q j++[EB v (7 - j)]:=λ j=>by simp only[q];rw[KQ,Qq]
 have h0:q 0=[]:=by simp[q,E5]
 have h1:q 8=[]++Ad v:=rfl
 try rw[<- h1]
 refine ar [0,1] [] [] 100 ?_;refine AB (ar [0,1,5] [] [] 200 ?_);refine AI (An (ι:=Nat) (λ j=>⟨20,[(0,.rs 50 0 (q j).length),(1,.I v),(5,.I (56 - 8*(j:Int)))],[(50,some ⟨1,AR .u8 (q j),0⟩)],300⟩) (λ j=>j<=8) (λ j=>8 - j) 0 zy (Le.lst [] [] [(50,1)] rfl zz zz zz zz zz zz zz (by simp[Up,h0,AC]) (by simp[h0])) ?_)
 clear_value q
 intro j hj;have h5:=u j
 try simp only[UN,Q9] at h5
 refine AB (arc ⟨20,[(0,.rs 50 0 (q j).length),(1,.I v),(5,.I (56 - 8*(j:Int))),(7,.B (decide (j<8)))],[(50,some ⟨1,AR .u8 (q j),0⟩)],400⟩ ?_ ?_)
 .simp
  exact AN [(50,50)] [] (by simp[AC]<;>exact A0 (by rw[Qg];simp;omega)) (by simp[AC])
 refine AE _ rfl (λ h=>AG ?_) λ h=>Ak (Al ?_)
 .rw [Qa] at h
  refine Bm ⟨20,[(0,.rs 50 0 (q (j+1)).length),(1,.I v),(5,.I (56 - 8*(j:Int)))],[(50,some ⟨1,AR .u8 (q (j+1)),0⟩)],1000⟩ ?_ ?_
  .have hs:=h4 j
   have h6:=h3 (q j);rw[hs];generalize q j=Y at *;obtain⟨k,hk⟩:∃ k:Nat,k=7 - j:=⟨_,rfl⟩;obtain⟨s,h7⟩:∃ s:Nat,s=8*k:=⟨_,rfl⟩;have h8:56 - 8*(j:Int)=(s:Int):=zy
   have h9:IntKind.u64.wrap (s:Int)=(s:Int):=by rw[IntKind.wrap_u64];omega
   have hb:EB v k=IntKind.u8.wrap (v.fdiv (2 ^ (min (8*k) 64))):=rfl
   have h2:IntKind.u8.wrap ((IntKind.u64.wrap v).fdiv (2 ^ (min s 64)))=EB v k:=by
    have:=SW v k zy
    rw[h7];exact this
   rw[<- hk];generalize EB v k=y at hb h2 ⊢;rw[h8];refine AI (Ab rfl ?_);simp[h9,IntKind.bits,h2];refine⟨zy,?_⟩
   exact AN [(464,50)] [] (by simp[AC]) (by simp[AC,h6])
  have ha:IntKind.i64.wrap (56 - 8*(j:Int) - 8)=56 - 8*((j+1:Nat):Int):=by rw[w6];omega
  refine Ab rfl ?_;simp[ha];exact⟨j+1,zy,zy,Aw [(50,50)] []⟩
 rw[Qb] at h;obtain rfl:j=8:=zy
 refine ar [4] [(50,50)] [] 2000 ?_;refine Am ?_;have hc:(q 8).length=8:=by rw[u];rfl
 rw[hc];exact⟨.inr rfl,AO.out [50] [] rfl zz zz zz (by simp[AC,h1])⟩
theorem Yi (b:List Int) (v:Int) (hc:b.length<=1099511627776):AF 209 [.rs 0 0 b.length,.I v] [⟨1,AR .u8 b,0⟩] (.rs 1 0 (b.length+8)) [none,some ⟨1,AR .u8 (b++Ad v),0⟩]:=by
 refine Sj.s.ai ?_;have h2:∀ (l:List Int) (f:Int->List AV),(l.map f).take l.length=l.map f:=λ l f=>Qd zz
 let q:Nat->List Int:=λ j=>b++E5 v j
 have u:∀ j,(q j).length=(b:List Int).length+j:=λ j=>by simp only[q];rw[Qe,Jk]
 have h3:∀ j,q (j+1)=q j++[EB v (7 - j)]:=λ j=>by simp only[q];rw[KQ,Qq]
 have h0:q 0=b:=by simp[q,E5]
 have h4:q 8=b++Ad v:=rfl
 try rw[<- h4]
 refine ar [0,1] [(0,0)] [] 100 ?_;refine AB (ar [0,1,5] [(0,0)] [] 200 ?_);refine AI (An (ι:=Nat) (λ j=>⟨20,[(0,.rs 50 0 (q j).length),(1,.I v),(5,.I (56 - 8*(j:Int)))],[(50,some ⟨1,AR .u8 (q j),0⟩)],300⟩) (λ j=>j<=8) (λ j=>8 - j) 0 zy (AN [(0,50)] [] (by simp[AC,h0]) (by simp[AC,h0])) ?_)
 clear_value q
 intro j hj;have h5:=u j
 try simp only[UN,Q9] at h5
 refine AB (arc ⟨20,[(0,.rs 50 0 (q j).length),(1,.I v),(5,.I (56 - 8*(j:Int))),(7,.B (decide (j<8)))],[(50,some ⟨1,AR .u8 (q j),0⟩)],400⟩ ?_ ?_)
 .simp
  exact AN [(50,50)] [] (by simp[AC]<;>exact A0 (by rw[Qg];simp;omega)) (by simp[AC])
 refine AE _ rfl (λ h=>AG ?_) λ h=>Ak (Al ?_)
 .rw [Qa] at h
  refine Bm ⟨20,[(0,.rs 50 0 (q (j+1)).length),(1,.I v),(5,.I (56 - 8*(j:Int)))],[(50,some ⟨1,AR .u8 (q (j+1)),0⟩)],1000⟩ ?_ ?_
  .have hs:=h3 j
   have h6:=h2 (q j);rw[hs];generalize q j=Y at *;obtain⟨k,hk⟩:∃ k:Nat,k=7 - j:=⟨_,rfl⟩;obtain⟨s,h7⟩:∃ s:Nat,s=8*k:=⟨_,rfl⟩;have h8:56 - 8*(j:Int)=(s:Int):=zy
   have h9:IntKind.u64.wrap (s:Int)=(s:Int):=by rw[IntKind.wrap_u64];omega
   have hb:EB v k=IntKind.u8.wrap (v.fdiv (2 ^ (min (8*k) 64))):=rfl
   have h1:IntKind.u8.wrap ((IntKind.u64.wrap v).fdiv (2 ^ (min s 64)))=EB v k:=by
    have:=SW v k zy
    rw[h7];exact this
   rw[<- hk];generalize EB v k=y at hb h1 ⊢;rw[h8];refine AI (Ab rfl ?_);simp[h9,IntKind.bits,h1];refine⟨zy,?_⟩
   exact AN [(464,50)] [] (by simp[AC]) (by simp[AC,h6])
  have ha:IntKind.i64.wrap (56 - 8*(j:Int) - 8)=56 - 8*((j+1:Nat):Int):=by rw[w6];omega
  refine Ab rfl ?_;simp[ha];exact⟨j+1,zy,zy,Aw [(50,50)] []⟩
 rw[Qb] at h;obtain rfl:j=8:=zy
 refine ar [4] [(50,50)] [] 2000 ?_;refine Am ?_;rw[u 8];exact⟨.inr rfl,AO.m1 50 zx rfl zz zz (by simp[AC])⟩
theorem lW (b:List Int) (hb:b≠[]) (hl:b.length<=1099511627776):AF 210 [Ce b] [] (.rs 0 0 b.length) [some ⟨1,AR .u8 b,0⟩]:=by
 refine XC.s.ai ?_;have h0:0<b.length:=Uv.2 hb;have h1:b.length≠0:=zy
 have q:∀ (f:Int->List AV),(b.map f).take b.length=b.map f:=λ f=>Qd zz
 refine ar [0] [] [] 100 ?_;refine AB (arc ⟨8,[(0,Ce b),(4,.B false)],[],200⟩ ?_ ?_)
 .obtain ⟨x,r,rfl⟩:=List.exists_cons_of_ne_nil hb
  simp;exact AN [] [] (by simp;exact .refl _)
 refine AE _ rfl (λ h=>by cases h) λ _=>?_
 refine AG ?_;apply ax [2] [(216,50)] [] 300
 .simp
  refine⟨zy,?_⟩
  rfl
 exact B3 [50] []
theorem bR (v:Int):AF 167 [.nilS,.I v] [] (.rs 0 0 8) [some ⟨1,AR .u8 (Ad v),0⟩]:=by
 have q:AF 210 [.nilS] [] .nilS []:=by
  refine XC.s.ai ?_;refine ar [0] [] [] 100 ?_;refine AB (ar [4] [] [] 200 ?_);refine AE _ rfl (λ _=>?_) λ h=>by cases h
  refine ar [2] [] [] 300 ?_;exact Bg
 refine SF.s.ai ?_;refine ar [0,1] [] [] 100 ?_;apply ax [4] [(124,50)] [] 300
 .simp
  refine Au q ?_;simp;refine C3 (l5 v) ?_;simp;rfl
 exact B3 [50] []
theorem P0 (b:List Int) (v:Int) (hb:b≠[]) (hl:b.length<=1099511627776):AF 167 [Ce b,.I v] [] (.rs 0 0 (b.length+8)) [some ⟨1,AR .u8 (b++Ad v),0⟩]:=by
 have q:∀ (f:Int->List AV),(b.map f).take b.length=b.map f:=λ f=>Qd zz
 refine SF.s.ai ?_;refine ar [0,1] [] [] 100 ?_;apply ax [4] [(124,50)] [] 300
 .simp
  refine Di (lW b hb hl) (by simp[AC]) ?_
  simp;refine BZ (i:=108) rfl (e':=⟨1,AR .u8 b,0⟩) (by simp[AC]) (Yi b v hl) zz zz ?_
  simp;rfl
 exact B3 [50] []
variable {P:Program} {Q:Ea->St->Prop} {np:Nat}
theorem Dx {a b:Cr} {st:St} (h:AY P np a (λ e st'=>match e with | .normal=>∃ s,Le np st' s/\AY P np b Q s | e=>Q e st') st):AY P np (.seq a b) Q st:=by
 show AY P np a _ st;refine Ec (λ e s hs=>?_) h
 cases e with
 | normal=>exact hs
 | exit id=>exact hs
 | ret=>exact hs
theorem ae {ops:List CG} {sz n:Nat} {t:List (Nat × AV)} {h:List (Nat × Option AD)} {af:List (List Nat)} {R:St->Prop} {s:St} (live:List Nat) (ρ:List (Nat × Nat)) (sn:List Nat) (m:Nat) (ho:Bt P np n 0 ops ⟨sz,t,h,n⟩ [] λ st' _=>GX ρ st'/\FH live ρ sn m st'=s) (hq:R s) (hN:∀ st',(∃ s,Le np st' s/\R s)->Q .normal st':=by exact λ _ h=>h) (hd:((ops.all λ o=>o.dst.all (· < sz)) && E4 np m ρ sn)=true:=by rfl):AY P np (.reg false ops af) Q ⟨sz,t,h,n⟩:=by
 rw[QH] at hd;refine Ab hd.1 (FD _ _ _ _ _ _ _ (λ st' _ hc=>?_) ho);obtain⟨h1,rfl⟩:=hc;exact hN _ ⟨_,Le.cutr (st:=⟨st'.sz,st'.t,st'.h,n+8*ops.length⟩) live ρ sn m hd.2 h1,hq⟩
theorem ad {ops:List CG} {sz n:Nat} {t:List (Nat × AV)} {h:List (Nat × Option AD)} {af:List (List Nat)} {R:St->Prop} {s:St} (live:List Nat) (ρ:List (Nat × Nat)) (sn:List Nat) (m:Nat) (ho:Bt P np n 0 ops ⟨sz,t,h,n⟩ [] λ st' tr=>KG ops af tr/\GX ρ st'/\FH live ρ sn m st'=s) (hq:R s) (hN:∀ st',(∃ s,Le np st' s/\R s)->Q .normal st':=by exact λ _ h=>h) (hd:((ops.all λ o=>o.dst.all (· < sz)) && E4 np m ρ sn)=true:=by rfl):AY P np (.reg true ops af) Q ⟨sz,t,h,n⟩:=by
 rw[QH] at hd;refine Cx hd.1 (FD _ _ _ _ _ _ _ (λ st' _ hc=>?_) ho);obtain⟨h0,h1,rfl⟩:=hc;exact⟨h0,hN _ ⟨_,Le.cutr (st:=⟨st'.sz,st'.t,st'.h,n+8*ops.length⟩) live ρ sn m hd.2 h1,hq⟩⟩
theorem Le.nw {st st':St} (ρ:List (Nat × Nat)) (nl:List (Nat × Nat)) (u:st'.sz=st.sz:=by rfl) (ht:∀ p∈st'.t,Up nl (conv ρ [] st.hp 4 (st.get p.1)) p.2:=by simp[Up,AC]) (hh:∀ p∈st'.h,∀ e',p.2=some e'->(∃ q∈ρ,q.2=p.1 /\ ∃ e,st.hp q.1=some e/\A7 nl (AX ρ [] st.hp 4 e) e')∨((p.1,e'.s)∈nl/\e'.rows=[]/\e'.ro=0):=by simp) (h0:(ρ.map (·.1)).Nodup:=by simp) (h1:(ρ.map (·.2)).Nodup:=by simp) (h2:∀ p∈ρ,p.2<st'.n/\(p.2<np->p.1=p.2):=by simp) (h3:∀ p∈nl,np<=p.1/\p.1<st'.n/\p.1∉ρ.map (·.2)/\p.2≠0:=by simp) (h5:np<=st'.n:=by simp) (h6:(nl.map (·.1)).Nodup:=by simp):Le np st st' :=
 Le.lst ρ [] nl u h0 h1 h2 h3 zz h5 h6 ht hh
theorem EH {k N:Nat} (h:k<N) (hN:N<=1099511627776:=by omega):IntKind.i64.wrap ((k:Int)+1)=((k+1:Nat):Int):=by rw[w6];omega
theorem HB {α β:Type} (f:α->β) (l:List α):List.take l.length (l.map f)=l.map f:=Qd zz
theorem Xf {f:FuncId} {args aB:List AV} {hs:List AD} {res:AV} {hs':List (Option AD)} (h:CF P f aB hs res hs') (hw:DG args aB):CF P f args hs res hs':=by
 refine⟨h.1,h.2.1,λ T M w vs h1 h2 h3 hr=>h.2.2 T M w vs h1 h2 h3 ⟨hr.1.trans hw.length,λ i hi=>?_⟩⟩;have hi':i<args.length:=by rw[hw.length];exact hi
 exact(hw.get i hi').rep (hr.2 i hi')
theorem Xy (b:ByteArray):∀ (n i:Nat) (r:List UInt8),b.size - i=n->(ByteArray.toList.loop b i r).length=r.length+n
 | 0,i,r,h=>by rw[ByteArray.toList.loop,if_neg zy,UT];rfl
 | n+1,i,r,h=>by
   rw[ByteArray.toList.loop,if_pos zy,Xy b n (i+1) _ zy,QS];omega
theorem pY (b:ByteArray):b.toList.length=b.size:=by
 unfold ByteArray.toList;rw[Xy b b.size 0 [] rfl];simp
theorem lX (b:List Int) (s:ByteArray) (hb:b≠[]) (hl:b.length<=1073741824) (hs:s.size<=1073741824):AF 168 [Ce b,.sc (.string s)] [] (.rs 0 0 (b.length+8+s.size)) [some ⟨1,AR .u8 (b++El s),0⟩]:=by
 refine cG.s.ai ?_;refine ar [0,1] [] [] 24 ?_;have hI:=P0 b s.size hb zy
 have e:b++El s=(b++Ad s.size)++Er s:=by rw[Qq];rfl
 have q:(b++Ad s.size).length=b.length+8:=by rw[Qe,DL]
 rw[e];generalize b++Ad s.size=Y at *;obtain⟨m,hm⟩:=AJ (b.length+8);rw[<- hm] at hI q ⊢;have u:List.take m (AR .u8 Y)=AR .u8 Y:=Qd (by rw[Eg];omega)
 refine arc ⟨11,[(4,.rs 64 0 (m+s.size))],[(64,some ⟨1,AR .u8 (Y++Er s),0⟩)],80⟩ ?_ ?_
 .simp
  refine Di hI (by simp[AC]) ?_
  simp[AC,Sh,q];refine⟨_,_,_,⟨u,rfl,rfl⟩,?_⟩;simp[q]
  repeat' apply And.intro
  all_goals first | omega | exact A5
 exact B3 [64] []
theorem lJ (b l:List Int) (hb:b≠[]) (hl:b.length<=1073741824) (h4:l.length<=1000000):AF 169 [Ce b,AA l] [] (.rs 0 0 (b.length+8+8*l.length)) [some ⟨1,AR .u8 (b++EV l),0⟩]:=by
 refine jZ.s.ai ?_;have hI:=P0 b l.length hb zy
 let q:Nat->List Int:=λ j=>b++Ad l.length++(l.take j).flatMap Ad
 have u:∀ j,j<=l.length->(q j).length=b.length+8+8*j:=λ j hj=>by
  simp only[q];rw[Qe,Qe,JG,DL,QC];omega
 have h0:∀ j (h:j<l.length),q (j+1)=q j++Ad l[j]:=λ j h=>by
  simp only[q];rw[Qp h,U6];simp
 have h1:b++Ad l.length=q 0:=by simp[q]
 have h2:b++EV l=q l.length:=by simp[q,EV]
 rw[h1] at hI;rw[h2]
 clear_value q
 obtain⟨m,hm⟩:=AJ (b.length+8);rw[<- hm] at hI u ⊢;refine ar [0,1] [] [] 100 ?_;apply ax [1,5] [(124,50)] [] 200
 .simp
  refine Di hI (by simp[AC]) ?_
  simp;rfl
 refine AB (ar [5,12,13,14] [(50,50)] [] 300 ?_);refine AI (An (ι:=Nat) (λ j=>⟨23,[(5,.rs 50 0 (m+8*j)),(12,AA l),(13,.I l.length),(14,.I j)],[(50,some ⟨1,AR .u8 (q j),0⟩)],300⟩) (λ j=>j<=l.length) (λ j=>l.length - j) 0 zy (Aw [(50,50)] []) ?_)
 intro j hj;refine BM ⟨23,[(5,.rs 50 0 (m+8*j)),(12,AA l),(13,.I l.length),(14,.I j),(15,.B (decide (j<l.length)))],[(50,some ⟨1,AR .u8 (q j),0⟩)],400⟩ [(50,50)] [] ?_;refine AB (AE _ rfl (λ h=>AG ?_) λ h=>Ak (Al ?_))
 .rw [Qa] at h
  have h3:=EH h zy
  have hs:=h0 j h;have q1:=u j hj;have hg:l[j]? = some l[j]:=Qc h;have hp:=Yi (q j) l[j] zy
  rw[<- hs,q1] at hp;generalize l[j]=x at *;refine Dx ?_;refine AI ?_;apply ax [5,7,12,13,14] [(50,50)] [] 500
  .simp [hg]
   rfl
  apply ae [5,12,13,14] [(516,50)] [] 600
  .simp
   refine BZ (i:=50) rfl (e':=⟨1,AR .u8 (q j),0⟩) (by simp[AC]) hp zz zz ?_
   simp;rfl
  refine Ab rfl ?_;simp[h3];exact⟨j+1,zy,zy,AN [(50,50)] [] (by simp[AC];exact Eh zw) (by simp[AC])⟩
 rw[Qb] at h;obtain rfl:j=l.length:=zy
 refine ar [4] [(50,50)] [] 2000 ?_;refine Am ?_;have q1:=u l.length zy
 exact⟨.inr rfl,AO.out [50] [] rfl zz zz zz (by simp[AC])⟩
variable {A:List Int} {n:Nat}
theorem Pp (A:List Int) (n:Nat) (hn:A.length=n):List.take n (AR .u8 A)=AR .u8 A:=Qd (by rw[Eg];omega)
theorem bI (v:Int) (hn:A.length=n) (h0:0<n) (hl:n<=1000000):AF 167 [.vs 1 false (List.take n (AR .u8 A)),.I v] [] (.rs 0 0 (n+8)) [some ⟨1,AR .u8 (A++Ad v),0⟩]:=by
 rw[Pp A n hn];subst hn;exact P0 A v (Uv.1 h0) zy
theorem bT (v:ByteArray) (hn:A.length=n) (h0:0<n) (hl:n<=1000000) (hv:v.size<=10000):AF 168 [.vs 1 false (List.take n (AR .u8 A)),.sc (.string v)] [] (.rs 0 0 (n+8+v.size)) [some ⟨1,AR .u8 (A++El v),0⟩]:=by
 rw[Pp A n hn];subst hn;exact lX A v (Uv.1 h0) zy zy
theorem bL (l:List Int) (hn:A.length=n) (h0:0<n) (hl:n<=1000000) (hv:l.length<=10000):AF 169 [.vs 1 false (List.take n (AR .u8 A)),AA l] [] (.rs 0 0 (n+8+8*l.length)) [some ⟨1,AR .u8 (A++EV l),0⟩]:=by
 rw[Pp A n hn];subst hn;exact lJ A l (Uv.1 h0) zy zy
theorem kJ (s:AL) (hs:Cz s):AF 116 [eS s] [] (.rs 0 0 (E3 s).length) [some ⟨1,AR .u8 (E3 s),0⟩]:=by
 refine iS.s.ai ?_;obtain⟨hm,hn,ho,hq,h5⟩:=hs;have hr:=MP s;have h1:=bR s.au;have l1:(Ad s.au).length=8:=DL _;have l2:(Ad s.au++Ad s.nu).length=16:=by simp[DL]
 have e3:Ad s.au++Ad s.nu++El s.pr=FG s:=rfl;have h2:=bI s.nu l1 zy zy
 have h3:=bT s.pr l2 zy zy zy
 rw[e3] at h3
 clear e3
 generalize Ad s.au++Ad s.nu=A2 at *;generalize Ad s.au=A1 at *;generalize hd:FG s=A3 at *;refine ar [1] [] [16] 100 ?_;apply ax [1,3] [(116,50)] [] 200
 .simp
  refine C3 h1 ?_;simp;rfl
 apply ax [1,3] [(224,50)] [] 300
 .simp
  refine ER [50] h2 (by simp[AC,l1]) (.rs _ _ _) EW ?_
  simp;rfl
 apply ax [1,3] [(324,50)] [] 400
 .simp
  refine ER [50] h3 (by simp[AC,l2]) (.rs _ _ _) EW ?_
  simp;rfl
 obtain⟨F,hF⟩:=AJ (H5 s);have h6:F.length=5:=by rw[hF];rfl
 let Y:Nat->List Int:=λ j=>A3++(F.take j).flatMap Ad
 obtain⟨L,hL⟩:=AJ (16+8+s.pr.size);rw[<- hL]
 have h7:∀ j,j<=5->(Y j).length=L+8*j:=λ j hj=>by
  simp only[Y];rw[Qe,JG,QC];omega
 have he:∀ j (h:j<F.length),Y (j+1)=Y j++Ad F[j]:=λ j h=>by
  simp only[Y];rw[Qp h,U6];simp
 have hf:A3=Y 0:=by simp[Y]
 have hh:A3++(H5 s).flatMap Ad=Y 5:=by simp[Y,<- hF,<- h6]
 rw[hf]
 clear_value Y
 refine AB (arc ⟨68,[(1,.pv (sC s)),(3,.rs 50 0 (L+8*0)),(29,.agg (F.map λ x=>AV.I x)),(30,.I (0:Nat))],[(50,some ⟨1,AR .u8 (Y 0),0⟩)],600⟩ ?_ ?_)
 .simp
  exact AN [(50,50)] [] (by simp[AC,hF,H5]) (by simp[AC])
 refine AI (An (ι:=Nat) (λ j=>⟨68,[(1,.pv (sC s)),(3,.rs 50 0 (L+8*j)),(29,.agg (F.map λ x=>AV.I x)),(30,.I j)],[(50,some ⟨1,AR .u8 (Y j),0⟩)],600⟩) (λ j=>j<=5) (λ j=>5 - j) 0 zy (Le.refl _ _) ?_)
 .intro j hj
  refine arc ⟨68,[(1,.pv (sC s)),(3,.rs 50 0 (L+8*j)),(29,.agg (F.map λ x=>AV.I x)),(30,.I j),(31,.B (decide (j<5)))],[(50,some ⟨1,AR .u8 (Y j),0⟩)],700⟩ ?_ ?_
  .simp
   exact AN [(50,50)] [] (by simp[AC];exact A0 (by rw[Qg];simp;omega)) (by simp[AC])
  refine AB (AE _ rfl (λ h=>AG ?_) λ h=>Ak (Al ?_))
  .rw [Qa] at h
   have h8:j<F.length:=zy
   have h4:=EH h zy
   have hs:=he j h8;have q1:=h7 j hj;have hp:=bI (n:=L+8*j) F[j] q1 zy zy
   rw[<- hs] at hp;have hg:F[j]? = some F[j]:=Qc h8;refine Dx ?_;refine AI ?_;apply ax [1,3,5,29,30] [(50,50)] [] 800
   .simp [hg,h,h6]
    refine⟨zy,?_⟩
    rfl
   apply ae [1,3,29,30] [(816,50)] [] 900
   .simp
    refine ER [50] hp (by simp[AC];omega) (.rs _ _ _) EW ?_
    simp[AC];rfl
   refine Ab rfl ?_;simp[h4];exact⟨j+1,zy,zy,AN [(50,50)] [] (by simp[AC];exact Eh zw) (by simp[AC])⟩
  rw[Qb] at h;obtain rfl:j=5:=zy
  have q5:=h7 5 zy
  have i4:=bL s.li q5 zy zy zy
  have lA:(Y 5++EV s.li).length=L+8*5+8+8*s.li.length:=by rw[Qe,q5,JH];omega
  have i5:=bI s.pi.length lA zy zy
  obtain⟨C,hC⟩:=AJ (Y 5++EV s.li++Ad s.pi.length);obtain⟨c,hc⟩:=AJ (L+8*5+8+8*s.li.length+8);have h9:C.length=c:=by rw[hC,Qe,lA,DL,hc]
  rw[<- hC,<- hc] at i5;have hi:C++FX s.pi++El s.bo=E3 s:=by rw[hC,<- hh,<- hd];rfl
  generalize Y 5++EV s.li=B5 at *;have u:=hi;apply ax [1,3] [(724,50)] [] 1000
  .simp
   refine ER [50] i4 (by simp[AC];omega) (.rs _ _ _) EW ?_
   simp[AC];rfl
  apply ax [1,3] [(1032,50)] [] 1100
  .simp
   refine ER [50] i5 (by simp[AC];omega) (.rs _ _ _) EW ?_
   simp[AC];rfl
  let Z:Nat->List Int:=λ j=>C++FX (s.pi.take j)
  have h0:∀ j,j<=s.pi.length->c<=(Z j).length/\(Z j).length<=900000:=λ j hj=>by
   simp only[Z];have:=Kz (s.pi.take j) λ p hp=>h5 p (QM hp);rw[Qe,h9];rw[QC] at this;omega
  have hk:∀ j (h:j<s.pi.length),Z (j+1)=Z j++Ep s.pi[j]:=λ j h=>by
   simp only[Z,FX];rw[Qp h,U6];simp
  have ha:C=Z 0:=by simp[Z,FX]
  have hl:C++FX s.pi=Z s.pi.length:=by simp[Z]
  have hb:(Z 0).length=c:=by rw[<- ha];exact h9
  rw[<- hb,ha];rw[hl] at u
  clear_value Z
  refine AB (BM ⟨68,[(1,.pv (sC s)),(3,.rs 50 0 (Z 0).length),(47,Cq s.pi),(48,.I s.pi.length),(49,.I (0:Nat))],[(50,some ⟨1,AR .u8 (Z 0),0⟩)],1200⟩ [(50,50)] [] ?_);refine AI (An (ι:=Nat) (λ j=>⟨68,[(1,.pv (sC s)),(3,.rs 50 0 (Z j).length),(47,Cq s.pi),(48,.I s.pi.length),(49,.I j)],[(50,some ⟨1,AR .u8 (Z j),0⟩)],1200⟩) (λ j=>j<=s.pi.length) (λ j=>s.pi.length - j) 0 zy (Le.refl _ _) ?_)
  intro j hj;refine BM ⟨68,[(1,.pv (sC s)),(3,.rs 50 0 (Z j).length),(47,Cq s.pi),(48,.I s.pi.length),(49,.I j),(50,.B (decide (j<s.pi.length)))],[(50,some ⟨1,AR .u8 (Z j),0⟩)],1300⟩ [(50,50)] [] ?_;refine AB (AE _ rfl (λ h=>AG ?_) λ h=>Ak (Al ?_))
  .rw [Qa] at h
   have hs:=hk j h;have q1:=h0 j hj;have h4:=EH h zy
   have ht:=h5 s.pi[j] (Qi h);have hg:s.pi[j]? = some s.pi[j]:=Qc h;generalize s.pi[j]=p at *;obtain⟨n0,q⟩:=AJ ((Z j).length);rw[<- q] at q1 ⊢;have i1:=bI p.a q.symm zy zy
   have l1:(Z j++Ad p.a).length=n0+8:=by rw[Qe,DL,q]
   have i2:=bI p.h l1 zy zy
   have l2:(Z j++Ad p.a++Ad p.h).length=n0+8+8:=by rw[Qe,l1,DL]
   have i3:=bT p.d l2 zy zy zy
   have e3:Z j++Ad p.a++Ad p.h++El p.d=Z (j+1):=by rw[hs];simp[Ep]
   have l3:n0+8+8+8+p.d.size=(Z (j+1)).length:=by rw[<- e3,Qe,l2,Iu];omega
   rw[e3,l3] at i3
   clear e3
   generalize Z j++Ad p.a++Ad p.h=B2 at *;generalize Z j++Ad p.a=B1 at *;refine Dx ?_;refine AI ?_;apply ax [1,3,7,47,48,49] [(50,50),(1316,60)] [] 1400
   .simp [hg,Ae]
    rfl
   apply ad [1,3,47,48,49] [(1472,50)] [] 1500
   .simp
    refine ER [50] i1 (by simp[AC];omega) (.rs _ _ _) EW ?_
    simp[AC];refine ER [1424] i2 (by simp[AC];omega) (.rs _ _ _) EW ?_
    simp[AC];refine ER [1448] i3 (by simp[AC];omega) (.rs _ _ _) EW ?_
    simp[AC];refine⟨rfl,rfl⟩
   refine Ab rfl ?_;simp[h4];exact⟨j+1,zy,zy,Aw [(50,50)] []⟩
  rw[Qb] at h;obtain rfl:j=s.pi.length:=zy
  have qn:=h0 s.pi.length (Qf _);obtain⟨n0,q⟩:=AJ ((Z s.pi.length).length);rw[<- q] at qn ⊢;have i6:=bT s.bo q.symm zy zy zy
  have l6:n0+8+s.bo.size=(E3 s).length:=by rw[<- u,Qe,Iu];omega
  rw[u,l6] at i6;apply ax [2] [(1324,50)] [] 2000
  .simp
   refine ER [50] i6 (by simp[AC];omega) (.rs _ _ _) EW ?_
   simp[AC];rfl
  exact B3 [50] []
theorem La (s:AL) (hs:Cz s):AF 62 [eS s] [] (.sc (.string (Cd s))) []:=by
 refine hU.s.ai ?_;have hl:=YV hs;refine ar [1] [] [16] 100 ?_;refine arc ⟨6,[(2,.sc (.string (Cd s)))],[],200⟩ ?_ ?_
 .simp
  refine C3 (kJ s hs) ?_;simp[AC];refine FZ [108] (VZ (E3 s) zy) (by simp[AC,DX]) (.sc _) ?_
  simp;exact AZ [] (by simp;exact .refl _)
 exact B3 [] []
def GF (aA:List AV):Prop:=∀ ρ sn h n,aA.map (conv ρ sn h (n+1))=aA
def CB {α:Type} (l:List α) (q:α->Bool):Int:=if l.findIdx q<l.length then (l.findIdx q:Int) else -1
theorem ME {α:Type} {l:List α} {q:α->Bool} {k:Nat} (hk:k<l.length) (h1:∀ i,i<k -> ∀ h:i<l.length,q l[i]=false) (h2:q l[k]=true):CB l q=k:=by
 have:l.findIdx q=k:=by
  rw[List.findIdx_eq hk];exact⟨h2,λ j hj=>by simpa using h1 j hj zy⟩
 unfold CB;rw[this,if_pos hk]
theorem LV {α:Type} {l:List α} {q:α->Bool} (h1:∀ i,i<l.length -> ∀ h:i<l.length,q l[i]=false):CB l q = -1:=by
 have:l.findIdx q=l.length:=by
  rw[U2];intro x hx;obtain⟨i,hi,rfl⟩:=Qt.1 hx;exact h1 i hi hi
 unfold CB;rw[this,if_neg zy]
theorem gZ (f:FuncId) (aA:List AV) (q:Ed->Bool) (l:List Ed) (hl:l.length<=1099511627776) (hs:GF aA) (hc:∀ e∈l,AF f (eE e::aA) [] (.B (q e)) []):AF 139 [BE l,.fn (.func f) [] aA] [] (.I (CB l q)) []:=by
 have h5:∀ ρ sn h,aA.map (conv ρ sn h 2)=aA:=λ _ _ _=>hs _ _ _ 1
 have u:∀ ρ sn h,aA.map (conv ρ sn h 3)=aA:=λ _ _ _=>hs _ _ _ 2
 have h1:∀ ρ sn h,aA.map (conv ρ sn h 4)=aA:=λ _ _ _=>hs _ _ _ 3
 refine kL.s.ai ?_;refine AB (AT ?_);refine AB (AB (AT ?_));refine AI (An (ι:=Nat) (λ k=>⟨19,[(0,BE l),(1,.fn (.func f) [] aA),(7,.I l.length),(8,.I k)],[],16⟩) (λ k=>k<=l.length /\ ∀ i,i<k -> ∀ h:i<l.length,q l[i]=false) (λ k=>l.length - k) (0) ?_ (AZ [] (by simp[u])) ?_)
 .simp
 rintro k ⟨hk,hp⟩
 refine AB (AT ?_);refine AB (AE _ rfl (λ h4=>?_) λ h4=>?_)
 .try simp at h4
  have h2:=w6 (x:=(k:Int)+1);have h3:=hc l[k] (Qi h4);refine AG (AB (AI (AB (Ay (s:=?s5) rfl ?o5 ?q5))))
  case o5=>simp[h4];rfl
  refine AB (Ay (s:=?s6) rfl ?o6 ?q6)
  case o6 =>
   simp[h4];refine Ah h3 ?_ ?_
   .simp [h1]
   simp;rfl
  refine AE _ rfl (λ h7=>?_) λ h7=>?_
  .try simp at h7
   refine AB (AT ?_);exact BR (AO.one (by simp[ME h4 hp h7]))
  try simp at h7
  refine AG (Ay (s:=?s9) rfl ?o9 ?q9)
  case o9=>simp[h2];rfl
  refine⟨k+1,⟨h4,λ i hi=>?_⟩,zy,AZ [] (by simp[u])⟩
  rcases Q2.1 hi with h | rfl
  .exact hp i h
  .exact λ _=>h7
 try simp at h4
 have h0:∀ i,i<l.length -> ∀ h:i<l.length,q l[i]=false:=λ i hi=>hp i zy
 refine Ak (Al (AB (AT ?_)));exact BR (AO.one (by simp[LV h0]))
abbrev Cm (l:List Ed):List (List AV):=l.map λ e=>[AV.I e.f,AV.I e.t,AV.I e.v]
theorem Yf {l:List Ed} {q:Ed->Bool} (h:∀ i,i<l.length -> ∀ h:i<l.length,q l[i]=false):l.filter (λ e=>!q e)=l:=by
 rw[List.filter_eq_self];intro x hx;obtain⟨i,hi,rfl⟩:=Qt.1 hx;simp[h i hi hi]
theorem TW (l:List Ed) (q:Ed->Bool) (j:Nat) (h:j<l.length):(l.take (j+1)).filter (λ e=>!q e)=(l.take j).filter (λ e=>!q e)++if q l[j]=true then [] else [l[j]]:=by
 rw[<- U1 h,UV,Uz]
 congr 1
 cases hq:q l[j]<;>simp[hq]
theorem qJ (f:FuncId) (aA:List AV) (q:Ed->Bool) (l:List Ed) (n m:Nat) (hn:l.length=n) (hm:(l.filter λ e=>!q e).length=m) (hl:n<=1099511627776) (hs:GF aA) (hc:∀ e∈l,AF f (eE e::aA) [] (.B (q e)) []) :
  AF 89 [.rs 0 0 n,.fn (.func f) [] aA] [⟨3,Cm l,0⟩] (.rs 0 0 m) [some ⟨3,Cm (l.filter λ e=>!q e)++List.replicate (n - m) [.I 0,.I 0,.I 0],0⟩]:=by
 have h4:∀ ρ sn h,aA.map (conv ρ sn h 2)=aA:=λ _ _ _=>hs _ _ _ 1
 have h6:∀ ρ sn h,aA.map (conv ρ sn h 3)=aA:=λ _ _ _=>hs _ _ _ 2
 have h7:∀ ρ sn h,aA.map (conv ρ sn h 4)=aA:=λ _ _ _=>hs _ _ _ 3
 refine mV.s.ai ?_;have hz:m<=n:=by rw[<- hm,<- hn];exact QV _ _
 apply ak [0,1] [0] 24
 .simp
  rfl
 apply ak [0,1,5] [0] 56
 .simp
  refine FZ [0] (gZ f aA q l zy hs hc) ?_ (.sc _) ?_
  .simp [h4,h6,h7,<- hn,AC,DX]
  simp;rfl
 refine AB (arc ⟨42,[(0,.rs 0 0 n),(1,.fn (.func f) [] aA),(5,.I (CB l q)),(12,.B (decide (CB l q = -1)))],[(0,some ⟨3,Cm l,0⟩)],72⟩ ?_ ?_)
 .simp
  exact Le.keep rfl (Qf _) (by simp<;>rw[Qg]<;>simp) zz
 refine AE _ rfl (λ h=>?_) λ h=>AG ?_
 .simp only[Qa] at h
  have hh:∀ i,i<l.length -> ∀ h:i<l.length,q l[i]=false:=by
   intro i hi _;unfold CB at h;split at h
   .omega
   .rename_i a0
    have:l.findIdx q=l.length:=by have:=List.findIdx_le_length (xs:=l) (p:=q);omega
    rw[U2] at this;exact this _ (Qi hi)
  have hf:=Yf hh;rw[hf] at hm ⊢;obtain rfl:n=m:=zy
  refine AB (AT ?_);refine Am ⟨.inr rfl,⟨[.rs 0 0 n],rfl,[],[],by simp[List.range,List.range.loop],zz,zz,?_,?_⟩⟩
  .simp [List.range,List.range.loop]
  .simp [List.range,List.range.loop,AC]
 simp only[Qb] at h
 obtain⟨i0,hk,h1,hb,ho⟩:∃ i0:Nat,CB l q=i0/\i0<l.length/\(∀ i,i<i0 -> ∀ h:i<l.length,q l[i]=false) /\ ∀ h:i0<l.length,q l[i0]=true:=by
  unfold CB at h ⊢;split at h
  .rename_i h1
   refine⟨l.findIdx q,by rw[if_pos h1],h1,λ i hi _=>?_,λ h=>Vc (w:=h)⟩
   simpa using List.not_of_lt_findIdx hi
  .omega
 rw[hk]
 have h8:(l.take (i0+1)).filter (λ e=>!q e)=l.take i0:=by
  rw[TW l q i0 h1,if_pos (ho h1),QU];refine Yf λ i hi h=>?_;rw[QC] at hi;simp only[Ux];exact hb i zy zy
 have hq:=wq (k:=i0)
 let C:Nat × List Ed->St:=λ p=>⟨42,[(0,.rs 0 0 n),(1,.fn (.func f) [] aA),(5,.I ((l.take p.1).filter λ e=>!q e).length),(6,.I p.1)],[(0,some ⟨3,Cm ((l.take p.1).filter (λ e=>!q e)++p.2++l.drop p.1),0⟩)],96⟩
 refine AB (Bv (C (i0+1,[l[i0]])) rfl ?_ ?_)
 .simp [hq]
  refine Le.keep rfl (Qf _) ?_ ?_
  .simp only[C,h8]
   simp;omega
  .simp only[C,h8]
   simp
 refine AI (An C (λ p:Nat × List Ed=>p.1<=n/\p.2≠[]/\((l.take p.1).filter λ e=>!q e).length+p.2.length=p.1) (λ p:Nat × List Ed=>n - p.1) (i0+1,[l[i0]]) ?_ (Le.refl _ _) ?_)
 .simp only[h8]
  simp;omega
 rintro⟨j,M⟩ ⟨hj,hM,h0⟩
 simp only at hj hM h0 ⊢;obtain⟨A,hA⟩:=AJ ((l.take j).filter λ e=>!q e);rw[<- hA] at h0;have hC:C (j,M)=⟨42,[(0,.rs 0 0 n),(1,.fn (.func f) [] aA),(5,.I A.length),(6,.I j)],[(0,some ⟨3,Cm (A++M++l.drop j),0⟩)],96⟩:=by subst hA;rfl
 rw[hC];refine AB (arc ⟨42,[(0,.rs 0 0 n),(1,.fn (.func f) [] aA),(5,.I A.length),(6,.I j),(19,.B (decide (j<n)))],[(0,some ⟨3,Cm (A++M++l.drop j),0⟩)],128⟩ ?_ ?_)
 .simp
  exact A5
 refine AE _ rfl (λ h=>AG ?_) λ h=>Ak (Al ?_)
 .simp only[Qa] at h
  have h2:j<l.length:=zy
  match M,hM,h0 with
  | m0::M1,_,h0 =>
  simp only[QS] at h0;have u:=TW l q j h2;rw[<- hA] at u
  have he:(Cm (A++m0::M1++l.drop j))[j]? = some [AV.I l[j].f,AV.I l[j].t,AV.I l[j].v]:=by
   rw[QB,Qr zw,Ud,show j+(j - (A++m0::M1).length)=j by simp;omega,Qc h2]
   rfl
  have h9:(Cm (A++m0::M1++l.drop j))[A.length]? = some [AV.I m0.f,AV.I m0.t,AV.I m0.v]:=by
   rw[QB,Qq,Qr zy]
   simp
  have hg:(Cm (A++m0::M1++l.drop j)).set A.length [AV.I l[j].f,AV.I l[j].t,AV.I l[j].v]=Cm ((A++[l[j]])++(M1++[l[j]])++l.drop (j+1)):=by
   have e1:l.drop j=l[j]::l.drop (j+1):=QO h2;rw[e1];simp[Cm,List.set_append]
  have ha:A++m0::M1++l.drop j=A++(m0::M1++[l[j]])++l.drop (j+1):=by
   have e1:l.drop j=l[j]::l.drop (j+1):=QO h2;rw[e1];simp
  generalize h3:Cm (A++m0::M1++l.drop j)=R at *;have a1:R.length=n:=by rw[<- h3];simp;omega
  have hr:=hc l[j] (Qi h2);generalize hv:l[j]=v at *
  refine EL (ι:=List Ed × List Ed) (λ p=>⟨42,[(0,.rs 0 0 n),(1,.fn (.func f) [] aA),(5,.I p.1.length),(6,.I j)],[(0,some ⟨3,Cm (p.1++p.2++l.drop (j+1)),0⟩)],272⟩)
   (λ p=>p.1=(l.take (j+1)).filter (λ e=>!q e)/\p.2≠[]/\p.1.length+p.2.length=j+1) ?_ ?_
  .refine AI (arc ⟨42,[(0,.rs 0 0 n),(1,.fn (.func f) [] aA),(5,.I A.length),(6,.I j),(7,.pt 160 0 0)],[(0,some ⟨3,R,0⟩),(160,some ⟨3,[[.I v.f,.I v.t,.I v.v]],0⟩)],176⟩ ?_ ?_)
   .simp [h,he]
    exact A5
   refine arc ⟨42,[(0,.rs 0 0 n),(1,.fn (.func f) [] aA),(5,.I A.length),(6,.I j),(7,.pt 160 0 0),(29,.B (!q v))],[(0,some ⟨3,R,0⟩),(160,some ⟨3,[[.I v.f,.I v.t,.I v.v]],0⟩)],208⟩ ?_ ?_
   .simp
    refine Ah hr ?_ ?_
    .simp [h4,h6,h7]
    simp;exact A5
   refine AE _ rfl (λ h5=>?_) λ h5=>AG ?_
   .simp only[UK] at h5
    rw[h5] at u;refine arc ⟨42,[(0,.rs 0 0 n),(1,.fn (.func f) [] aA),(5,.I A.length),(6,.I j)],[(0,some ⟨3,Cm ((A++[v])++(M1++[v])++l.drop (j+1)),0⟩)],248⟩ ?_ ?_
    .simp [h9,show A.length<n by omega,Ae,hg]
     exact A5
    have hu:IntKind.i64.wrap ((A.length:Int)+1)=((A.length+1:Nat):Int):=by rw[w6];omega
    refine Ab rfl ?_;simp[hu];refine⟨A++[v],M1++[v],⟨by rw[u];simp,zz,zw⟩,A5⟩
   .simp only[U9] at h5
    rw[h5] at u;refine⟨(A,m0::M1++[v]),⟨by rw[u];simp,zz,zw⟩,Le.keep rfl (Ar rfl) zz ?_⟩
    rw[<- ha,h3];simp
  rintro⟨A',M'⟩ ⟨p1,p2,p3⟩
  simp only at p1 p2 p3 ⊢;have hw:=wq (k:=j);refine Ab rfl ?_;simp[hw];refine⟨j+1,M',⟨zy,p2,by rw[<- p1];omega⟩,zy,?_⟩
  have hD:C (j+1,M')=⟨42,[(0,.rs 0 0 n),(1,.fn (.func f) [] aA),(5,.I A'.length),(6,.I ((j+1:Nat):Int))],[(0,some ⟨3,Cm (A'++M'++l.drop (j+1)),0⟩)],96⟩:=by rw[p1]
  rw[hD];refine Le.ents [(0,0)] [] rfl zz zz zz zz zz (by simp[h4,h6,h7]) λ p hp=>?_
  simp at hp;subst hp;exact⟨0,_,_,rfl,zz,rfl,A7.eq (by simp[AC]) zz⟩
 simp only[Qb] at h;obtain rfl:j=n:=zy
 have hd:l.drop j=[]:=QI zy
 have ht:l.take j=l:=Qd zy
 rw[ht] at hA;rw[hd,QU];rw[<- hA] at hm ⊢;subst hm;have hx:(Cm (A++M)).take A.length=Cm A:=by simp[Cm]
 have hy:(Cm (A++M)).drop (A.length+(j - A.length))=[]:=QI zw
 have a2:(Cm (A++M)).length=j:=zw
 generalize Cm (A++M)=R at *;refine arc ⟨42,[(0,.rs 0 0 j),(5,.I A.length)],[(0,some ⟨3,Cm A++List.replicate (j - A.length) [.I 0,.I 0,.I 0],0⟩)],160⟩ ?_ ?_
 .simp
  refine⟨zy,zy,?_⟩
  rw[hx,hy];exact A5
 refine AB (Ay (s:=?s2) rfl ?o2 ?q2)
 case o2 =>
  simp;refine⟨zy,?_⟩
  rfl
 refine Am ⟨.inr rfl,⟨[.rs 0 0 A.length],rfl,[],[],by simp[List.range,List.range.loop],zz,zz,?_,?_⟩⟩
 .simp [List.range,List.range.loop]
 .simp [List.range,List.range.loop,AC]
def Ao (g:Gr) (v:Int):Gr:=⟨g.size,g.edges.filter λ e=>!decide (e.v<v),g.gone⟩
theorem rY (e:Ed) (v:Int):AF 90 [eE e,.pv [.I v]] [] (.B (decide (e.v<v))) []:=by
 refine bF.s.ai ?_;refine ar [1,2] [] [16] 16 ?_;refine AB (AT ?_);exact Bg
theorem MX (g:Gr) (v:Int) (hl:g.edges.length<=1099511627776) (h0:g.gone.length<=1099511627776):AF 36 [eG g,.I v] [] (eG (Ao g v)) []:=by
 refine qA.s.ai ?_;obtain⟨E,hE⟩:=AJ (g.edges.filter λ e=>!decide (e.v<v));have h1:E.length<=g.edges.length:=by rw[hE];exact QV _ _
 have q:=qJ 90 [.pv [.I v]] (λ e=>decide (e.v<v)) g.edges g.edges.length E.length rfl (by rw[hE]) hl (λ ρ sn h n=>zz) (λ e _=>rY e v)
 rw[<- hE] at q;have u:Ao g v=⟨g.size,E,g.gone⟩:=by rw[hE];rfl
 rw[u];refine arc ⟨14,[(2,.pv (gC g)),(3,.pt 24 0 0),(4,.pt 32 0 0)],[(24,some ⟨1,[[.I v]],0⟩),(32,some zG)],40⟩ ?_ ?_
 .simp
  refine Le.ents [(24,24),(32,32)] [16] rfl zz zz zz zz zz zz λ p hp=>?_
  simp at hp;rcases hp with rfl | rfl
  .exact ⟨24,_,_,rfl,zz,rfl,A7.eq zz zz⟩
  .exact ⟨32,_,_,rfl,zz,rfl,A7.eq zz zz⟩
 apply ak [3,4,5] [24,32,56,48,49] 72
 .simp
  refine P1 (Rl g zy zy) rfl ?_
  simp[AC];rfl
 apply ak [4,5] [32,56,48,49] 120
 .simp
  refine Il (i:=48) (j:=24) zx (Qk _) rfl rfl ?_ q zz ?_ ?_
  .simp [AC]
  .simp
  simp[AC];rfl
 refine AB (AT ?_);refine Am ⟨.inr rfl,?_⟩;show AO [(4,some (true,3))] 0 _ _ _;refine AO.out (vs:=[.agg [.I g.size,.rs 48 0 E.length,.rs 49 0 g.gone.length]]) [] [48,49] zz zz zz ?_ zz
 simp[AC,DX]
theorem gB (l:List Ed) (key:Int):(BJ l key).length=l.countP λ e=>decide (e.f=key):=by
 induction l with
 | nil=>rfl
 | cons e l ih =>
   unfold BJ at *
   by_cases h:e.f=key<;>simp[h,ih]
theorem AH.fits {g:Gr} (h:AH g):∀ e∈g.edges,CT g e:=by
 intro e he;obtain⟨i,hi,rfl⟩:=Qt.1 he;exact(h.2 i hi).1
open Classical in
theorem jS (g:Gr) (f t:Int) (hl:g.edges.length*24<=140737488355328) (h4:g.gone.length*8<=140737488355328):AF 281 [eG g,.I f,.I t] [] (.tup [eG (Ey g f t).1,.I (Ey g f t).2]) []:=by
 refine jO.s.ac ?_;show AY _ 0 _ _ ⟨37,[(0,eG g),(1,.I f),(2,.I t)],[],16⟩;refine arc ⟨37,[(1,.I f),(2,.I t),(3,.pv (gC g)),(6,.pt 24 0 0)],[(24,some ⟨3,[[.I 0,.nilS,.nilS]],0⟩)],32⟩ ?_ ?_
 .simp
  exact Le.var1 24 [16] rfl rfl (Ar rfl) zx rfl zz zz zz
 refine AB (AB (Ay (s:=?s1) rfl ?o1 ?q1))
 case o1=>simp;refine Ah (Iy g zy zy) rfl ?_;simp;rfl
 refine AE _ rfl (λ h2=>?_) λ h2=>?_
 .have hg:¬ AH g:=by
   intro hg;simp[hg] at h2
  refine AB (AT ?_);refine Am ⟨.inr rfl,?_⟩;show AO [(6,some (true,3)),(7,none)] 0 _ _ _;refine AO.out (vs:=[.agg [.I 0,.nilS,.nilS],.I 14]) [] [] zz zz zz ?_ zz
  have hr:Ey g f t=(EF,14):=by grind [Ey]
  simp[hr,EF];exact D5 (Ej (.refl _) (.nil _ _) (.nil _ _)) (.refl _)
 have hg:AH g:=by
  rcases Classical.em (AH g) with h | h
  .exact h
  .simp [h] at h2
 have h8:g.edges.length<=500:=hg.1.2.2.1;refine AG (AB (Ay (s:=?s4) rfl ?o4 ?q4))
 case o4=>simp;refine Ah (Ta g.edges ⟨f,t,0⟩ (QR hg.1.2.2.1 zy) (hg.mono _)) rfl ?_;simp;rfl
 refine AB (AB (AT ?_));refine AE _ rfl (λ h6=>?_) λ h6=>?_
 .try simp at h6
  refine AB (AT ?_);refine Am ⟨.inr rfl,?_⟩;show AO [(6,some (true,3)),(7,none)] 0 _ _ _;refine AO.out (vs:=[.agg [.I 0,.nilS,.nilS],.I 19]) [] [] zz zz zz ?_ zz
  have hr:Ey g f t=(EF,19):=by grind [Ey]
  simp[hr,EF];exact D5 (Ej (.refl _) (.nil _ _) (.nil _ _)) (.refl _)
 try simp at h6
 refine AG (arc ⟨37,[(6,.pt 24 0 0),(8,.I (BN g.edges ⟨f,t,0⟩)),(10,.pt 176 0 0)],[(24,some ⟨3,[[.I 0,.nilS,.nilS]],0⟩),(176,some ⟨3,[[.I g.size,.rs 168 0 g.edges.length,.rs 169 0 g.gone.length]],0⟩),(168,some ⟨3,g.edges.map λ e:Ed=>[AV.I e.f,AV.I e.t,AV.I e.v],0⟩),(169,some ⟨1,g.gone.map λ n=>[AV.I n],0⟩)],192⟩ ?_ ?_)
 .simp
  refine P1 (Rl g hl h4) rfl ?_;simp[AC];exact A5
 have hr:Ey g f t=(F2 g f t,0):=by grind [Ey]
 rw[hr];unfold F2;have h0:BN g.edges ⟨f,t,0⟩<g.edges.length:=h6.1;have hk:∃ k,k=BN g.edges ⟨f,t,0⟩:=⟨_,rfl⟩;obtain⟨k,hk⟩:=hk;rw[<- hk] at h0 ⊢;obtain⟨k1,h1⟩:=AJ (k+1);have hw:IntKind.i64.wrap ((k:Int)+1)=(k1:Int):=by rw[w6];omega
 obtain⟨R,hR⟩:=AJ (g.edges.map λ e:Ed=>[AV.I e.f,AV.I e.t,AV.I e.v]);rw[<- hR];have h5:R.length=g.edges.length:=by simp[hR]
 have h3:Es R:=by rw[hR];exact Nj _
 obtain⟨E,hE⟩:=AJ (g.edges.take k++g.edges.drop k1);have h7:E.length=g.edges.length - 1:=by subst hE;simp;omega
 have u:R.take k++R.drop k1=E.map λ e:Ed=>[AV.I e.f,AV.I e.t,AV.I e.v]:=by subst hE hR;simp[UH,UI]
 have q:=dI R g.edges.length k k1 h5 h0 h1 h3 zy
 rw[u,<- h7] at q;rw[<- h1,<- hE];refine arc ⟨37,[(6,.pt 24 0 0),(10,.pt 176 0 0)],[(24,some ⟨3,[[.I 0,.nilS,.nilS]],0⟩),(176,some ⟨3,[[.I g.size,.rs 168 0 E.length,.rs 169 0 g.gone.length]],0⟩),(168,some ⟨3,(E.map λ e:Ed=>[AV.I e.f,AV.I e.t,AV.I e.v])++[[.I 0,.I 0,.I 0]],0⟩),(169,some ⟨1,g.gone.map λ n=>[AV.I n],0⟩)],256⟩ ?_ ?_
 .simp [hw]
  refine BZ (i:=168) rfl ?_ q zz ?_ ?_
  .have:=h3 [(168,0)] []
   simp only[AX,this]
  .simp
  simp[AC];exact A5
 refine AB (AT ?_);refine Am ⟨.inr rfl,?_⟩;show AO [(6,some (true,3)),(7,none)] 0 _ _ _;refine AO.out (vs:=[.agg [.I g.size,.rs 168 0 E.length,.rs 169 0 g.gone.length],.I 0]) [] [168,169] zz zz zz ?_ zz
 simp[AC,DX]
theorem HO.rfl' (a:Gr):HO a a:=⟨rfl,rfl,rfl⟩
abbrev Gw (l:List Int):List Int:=l.mergeSort λ x y=>decide (x<=y)
theorem Rw (l:List Int):(Gw l).length=l.length:=List.length_mergeSort ..
theorem jH {l:List Int} {x:Int}:x∈Gw l↔x∈l:=List.mem_mergeSort
theorem AH.pair {g:Gr} (h:AH g):g.edges.Pairwise B9:=by
 rw[QK];intro i j hi hj hij;exact h.lt j i hi hj hij
theorem KL {st st':St} {i j:Nat} {sn:List Nat} {e e':AD} (q:st'.sz=st.sz) (hh:st'.h=[(j,some e')]) (hj:j<st'.n) (hs:∀ k∈sn,k≠i) (he:st.hp i=some e) (u:AX [(i,j)] sn st.hp 4 e=e') (hr:e'.ro<=e'.rows.length) (ht:∀ p∈st'.t,Wk (conv [(i,j)] sn st.hp 4 (st.get p.1)) p.2):Le 0 st st' :=
 Le.ents [(i,j)] sn q zz zz (by simpa using hj) (by simpa using hs) (Qk _) ht (λ p hp=>by
  rw[hh] at hp;simp at hp;subst hp
  exact⟨i,e,e',rfl,zz,he,A7.eq u hr⟩)
theorem VA (f:FuncId) (aA:List AV) (q:Int->Bool) (l:List Int) (hl:l.length<=1099511627776) (hs:GF aA) (hc:∀ e∈l,AF f (AV.I e::aA) [] (.B (q e)) []):AF 125 [AA l,.fn (.func f) [] aA] [] (.I (CB l q)) []:=by
 have h5:∀ ρ sn h,aA.map (conv ρ sn h 2)=aA:=λ _ _ _=>hs _ _ _ 1
 have u:∀ ρ sn h,aA.map (conv ρ sn h 3)=aA:=λ _ _ _=>hs _ _ _ 2
 have h1:∀ ρ sn h,aA.map (conv ρ sn h 4)=aA:=λ _ _ _=>hs _ _ _ 3
 refine Ni.s.ai ?_;refine AB (AT ?_);refine AB (AB (AT ?_));refine AI (An (ι:=Nat) (λ k=>⟨19,[(0,AA l),(1,.fn (.func f) [] aA),(7,.I l.length),(8,.I k)],[],16⟩) (λ k=>k<=l.length /\ ∀ i,i<k -> ∀ h:i<l.length,q l[i]=false) (λ k=>l.length - k) (0) ?_ (AZ [] (by simp[u])) ?_)
 .simp
 rintro k ⟨hk,hp⟩
 refine AB (AT ?_);refine AB (AE _ rfl (λ h4=>?_) λ h4=>?_)
 .try simp at h4
  have h2:=w6 (x:=(k:Int)+1);have h3:=hc l[k] (Qi h4);refine AG (AB (AI (AB (Ay (s:=?s5) rfl ?o5 ?q5))))
  case o5=>simp[h4];rfl
  refine AB (Ay (s:=?s6) rfl ?o6 ?q6)
  case o6 =>
   simp[h4];refine Ah h3 ?_ ?_
   .simp [h1]
   simp;rfl
  refine AE _ rfl (λ h7=>?_) λ h7=>?_
  .try simp at h7
   refine AB (AT ?_);exact BR (AO.one (by simp[ME h4 hp h7]))
  try simp at h7
  refine AG (Ay (s:=?s9) rfl ?o9 ?q9)
  case o9=>simp[h2];rfl
  refine⟨k+1,⟨h4,λ i hi=>?_⟩,zy,AZ [] (by simp[u])⟩
  rcases Q2.1 hi with h | rfl
  .exact hp i h
  .exact λ _=>h7
 try simp at h4
 have h0:∀ i,i<l.length -> ∀ h:i<l.length,q l[i]=false:=λ i hi=>hp i zy
 refine Ak (Al (AB (AT ?_)));exact BR (AO.one (by simp[LV h0]))
abbrev AP (l:List Int):List (List AV):=l.map λ e=>[AV.I e]
theorem VC {l:List Int} {q:Int->Bool} (h:∀ i,i<l.length -> ∀ h:i<l.length,q l[i]=false):l.filter (λ e=>!q e)=l:=by
 rw[List.filter_eq_self];intro x hx;obtain⟨i,hi,rfl⟩:=Qt.1 hx;simp[h i hi hi]
theorem SO (l:List Int) (q:Int->Bool) (j:Nat) (h:j<l.length):(l.take (j+1)).filter (λ e=>!q e)=(l.take j).filter (λ e=>!q e)++if q l[j]=true then [] else [l[j]]:=by
 rw[<- U1 h,UV,Uz]
 congr 1
 cases hq:q l[j]<;>simp[hq]
theorem SS (f:FuncId) (aA:List AV) (q:Int->Bool) (l:List Int) (n m:Nat) (hn:l.length=n) (hm:(l.filter λ e=>!q e).length=m) (hl:n<=1099511627776) (hs:GF aA) (hc:∀ e∈l,AF f (AV.I e::aA) [] (.B (q e)) []) :
  AF 141 [.rs 0 0 n,.fn (.func f) [] aA] [⟨1,AP l,0⟩] (.rs 0 0 m) [some ⟨1,AP (l.filter λ e=>!q e)++List.replicate (n - m) [.I 0],0⟩]:=by
 have h4:∀ ρ sn h,aA.map (conv ρ sn h 2)=aA:=λ _ _ _=>hs _ _ _ 1
 have h6:∀ ρ sn h,aA.map (conv ρ sn h 3)=aA:=λ _ _ _=>hs _ _ _ 2
 have h7:∀ ρ sn h,aA.map (conv ρ sn h 4)=aA:=λ _ _ _=>hs _ _ _ 3
 refine jD.s.ai ?_;have hz:m<=n:=by rw[<- hm,<- hn];exact QV _ _
 apply ak [0,1] [0] 24
 .simp
  rfl
 apply ak [0,1,5] [0] 56
 .simp
  refine FZ [0] (VA f aA q l zy hs hc) ?_ (.sc _) ?_
  .simp [h4,h6,h7,<- hn,AC,DX]
  simp;rfl
 refine AB (arc ⟨42,[(0,.rs 0 0 n),(1,.fn (.func f) [] aA),(5,.I (CB l q)),(12,.B (decide (CB l q = -1)))],[(0,some ⟨1,AP l,0⟩)],72⟩ ?_ ?_)
 .simp
  exact Le.keep rfl (Qf _) (by simp<;>rw[Qg]<;>simp) zz
 refine AE _ rfl (λ h=>?_) λ h=>AG ?_
 .simp only[Qa] at h
  have hh:∀ i,i<l.length -> ∀ h:i<l.length,q l[i]=false:=by
   intro i hi _;unfold CB at h;split at h
   .omega
   .rename_i a0
    have:l.findIdx q=l.length:=by have:=List.findIdx_le_length (xs:=l) (p:=q);omega
    rw[U2] at this;exact this _ (Qi hi)
  have hf:=VC hh;rw[hf] at hm ⊢;obtain rfl:n=m:=zy
  refine AB (AT ?_);refine Am ⟨.inr rfl,⟨[.rs 0 0 n],rfl,[],[],by simp[List.range,List.range.loop],zz,zz,?_,?_⟩⟩
  .simp [List.range,List.range.loop]
  .simp [List.range,List.range.loop,AC]
 simp only[Qb] at h
 obtain⟨i0,hk,h1,hb,ho⟩:∃ i0:Nat,CB l q=i0/\i0<l.length/\(∀ i,i<i0 -> ∀ h:i<l.length,q l[i]=false) /\ ∀ h:i0<l.length,q l[i0]=true:=by
  unfold CB at h ⊢;split at h
  .rename_i h1
   refine⟨l.findIdx q,by rw[if_pos h1],h1,λ i hi _=>?_,λ h=>Vc (w:=h)⟩
   simpa using List.not_of_lt_findIdx hi
  .omega
 rw[hk]
 have h8:(l.take (i0+1)).filter (λ e=>!q e)=l.take i0:=by
  rw[SO l q i0 h1,if_pos (ho h1),QU];refine VC λ i hi h=>?_;rw[QC] at hi;simp only[Ux];exact hb i zy zy
 have hq:=wq (k:=i0)
 let C:Nat × List Int->St:=λ p=>⟨42,[(0,.rs 0 0 n),(1,.fn (.func f) [] aA),(5,.I ((l.take p.1).filter λ e=>!q e).length),(6,.I p.1)],[(0,some ⟨1,AP ((l.take p.1).filter (λ e=>!q e)++p.2++l.drop p.1),0⟩)],96⟩
 refine AB (Bv (C (i0+1,[l[i0]])) rfl ?_ ?_)
 .simp [hq]
  refine Le.keep rfl (Qf _) ?_ ?_
  .simp only[C,h8]
   simp;omega
  .simp only[C,h8]
   simp
 refine AI (An C (λ p:Nat × List Int=>p.1<=n/\p.2≠[]/\((l.take p.1).filter λ e=>!q e).length+p.2.length=p.1) (λ p:Nat × List Int=>n - p.1) (i0+1,[l[i0]]) ?_ (Le.refl _ _) ?_)
 .simp only[h8]
  simp;omega
 rintro⟨j,M⟩ ⟨hj,hM,h0⟩
 simp only at hj hM h0 ⊢;obtain⟨A,hA⟩:=AJ ((l.take j).filter λ e=>!q e);rw[<- hA] at h0;have hC:C (j,M)=⟨42,[(0,.rs 0 0 n),(1,.fn (.func f) [] aA),(5,.I A.length),(6,.I j)],[(0,some ⟨1,AP (A++M++l.drop j),0⟩)],96⟩:=by subst hA;rfl
 rw[hC];refine AB (arc ⟨42,[(0,.rs 0 0 n),(1,.fn (.func f) [] aA),(5,.I A.length),(6,.I j),(19,.B (decide (j<n)))],[(0,some ⟨1,AP (A++M++l.drop j),0⟩)],128⟩ ?_ ?_)
 .simp
  exact A5
 refine AE _ rfl (λ h=>AG ?_) λ h=>Ak (Al ?_)
 .simp only[Qa] at h
  have h2:j<l.length:=zy
  match M,hM,h0 with
  | m0::M1,_,h0 =>
  simp only[QS] at h0;have u:=SO l q j h2;rw[<- hA] at u
  have he:(AP (A++m0::M1++l.drop j))[j]? = some [AV.I l[j]]:=by
   rw[QB,Qr zw,Ud,show j+(j - (A++m0::M1).length)=j by simp;omega,Qc h2]
   rfl
  have h9:(AP (A++m0::M1++l.drop j))[A.length]? = some [AV.I m0]:=by
   rw[QB,Qq,Qr zy]
   simp
  have hg:(AP (A++m0::M1++l.drop j)).set A.length [AV.I l[j]]=AP ((A++[l[j]])++(M1++[l[j]])++l.drop (j+1)):=by
   have e1:l.drop j=l[j]::l.drop (j+1):=QO h2;rw[e1];simp[AP,List.set_append]
  have ha:A++m0::M1++l.drop j=A++(m0::M1++[l[j]])++l.drop (j+1):=by
   have e1:l.drop j=l[j]::l.drop (j+1):=QO h2;rw[e1];simp
  generalize h3:AP (A++m0::M1++l.drop j)=R at *;have a1:R.length=n:=by rw[<- h3];simp;omega
  have hr:=hc l[j] (Qi h2);generalize hv:l[j]=v at *
  refine EL (ι:=List Int × List Int) (λ p=>⟨42,[(0,.rs 0 0 n),(1,.fn (.func f) [] aA),(5,.I p.1.length),(6,.I j)],[(0,some ⟨1,AP (p.1++p.2++l.drop (j+1)),0⟩)],272⟩)
   (λ p=>p.1=(l.take (j+1)).filter (λ e=>!q e)/\p.2≠[]/\p.1.length+p.2.length=j+1) ?_ ?_
  .refine AI (arc ⟨42,[(0,.rs 0 0 n),(1,.fn (.func f) [] aA),(5,.I A.length),(6,.I j),(7,.I v)],[(0,some ⟨1,R,0⟩)],168⟩ ?_ ?_)
   .simp [h,he]
    exact A5
   refine arc ⟨42,[(0,.rs 0 0 n),(1,.fn (.func f) [] aA),(5,.I A.length),(6,.I j),(7,.I v),(29,.B (!q v))],[(0,some ⟨1,R,0⟩)],200⟩ ?_ ?_
   .simp
    refine Ah hr ?_ ?_
    .simp [h4,h6,h7]
    simp;exact A5
   refine AE _ rfl (λ h5=>?_) λ h5=>AG ?_
   .simp only[UK] at h5
    rw[h5] at u;refine arc ⟨42,[(0,.rs 0 0 n),(1,.fn (.func f) [] aA),(5,.I A.length),(6,.I j)],[(0,some ⟨1,AP ((A++[v])++(M1++[v])++l.drop (j+1)),0⟩)],240⟩ ?_ ?_
    .simp [h9,show A.length<n by omega,Ae,hg]
     exact A5
    have hu:IntKind.i64.wrap ((A.length:Int)+1)=((A.length+1:Nat):Int):=by rw[w6];omega
    refine Ab rfl ?_;simp[hu];refine⟨A++[v],M1++[v],⟨by rw[u];simp,zz,zw⟩,Le.keep rfl (Ar rfl) zz zz⟩
   .simp only[U9] at h5
    rw[h5] at u;refine⟨(A,m0::M1++[v]),⟨by rw[u];simp,zz,zw⟩,Le.keep rfl (Ar rfl) zz ?_⟩
    rw[<- ha,h3];simp
  rintro⟨A',M'⟩ ⟨p1,p2,p3⟩
  simp only at p1 p2 p3 ⊢;have hw:=wq (k:=j);refine Ab rfl ?_;simp[hw];refine⟨j+1,M',⟨zy,p2,by rw[<- p1];omega⟩,zy,?_⟩
  have hD:C (j+1,M')=⟨42,[(0,.rs 0 0 n),(1,.fn (.func f) [] aA),(5,.I A'.length),(6,.I ((j+1:Nat):Int))],[(0,some ⟨1,AP (A'++M'++l.drop (j+1)),0⟩)],96⟩:=by rw[p1]
  rw[hD];refine Le.ents [(0,0)] [] rfl zz zz zz zz zz (by simp[h4,h6,h7]) λ p hp=>?_
  simp at hp;subst hp;exact⟨0,_,_,rfl,zz,rfl,A7.eq (by simp[AC]) zz⟩
 simp only[Qb] at h;obtain rfl:j=n:=zy
 have hd:l.drop j=[]:=QI zy
 have ht:l.take j=l:=Qd zy
 rw[ht] at hA;rw[hd,QU];rw[<- hA] at hm ⊢;subst hm;have hx:(AP (A++M)).take A.length=AP A:=by simp[AP]
 have hy:(AP (A++M)).drop (A.length+(j - A.length))=[]:=QI zw
 have a2:(AP (A++M)).length=j:=zw
 generalize AP (A++M)=R at *;refine arc ⟨42,[(0,.rs 0 0 j),(5,.I A.length)],[(0,some ⟨1,AP A++List.replicate (j - A.length) [.I 0],0⟩)],160⟩ ?_ ?_
 .simp
  refine⟨zy,zy,?_⟩
  rw[hx,hy];exact A5
 refine AB (Ay (s:=?s2) rfl ?o2 ?q2)
 case o2 =>
  simp;refine⟨zy,?_⟩
  rfl
 refine Am ⟨.inr rfl,⟨[.rs 0 0 A.length],rfl,[],[],by simp[List.range,List.range.loop],zz,zz,?_,?_⟩⟩
 .simp [List.range,List.range.loop]
 .simp [List.range,List.range.loop,AC]
theorem VG (f:FuncId) (aA:List AV) (q:Int->Bool) (l:List Int) (hl:l.length<=1099511627776) (hs:GF aA) (hc:∀ e∈l,AF f (AV.I e::aA) [] (.B (q e)) []):AF 72 [AA l,.fn (.func f) [] aA] [] (.B (l.any q)) []:=by
 have u:∀ ρ sn h,aA.map (conv ρ sn h 2)=aA:=λ _ _ _=>hs _ _ _ 1
 have h0:∀ ρ sn h,aA.map (conv ρ sn h 3)=aA:=λ _ _ _=>hs _ _ _ 2
 have h1:∀ ρ sn h,aA.map (conv ρ sn h 4)=aA:=λ _ _ _=>hs _ _ _ 3
 refine Od.s.ai ?_;refine AB (AT ?_)
 have hi:decide (0<=CB l q)=l.any q:=by
  unfold CB
  by_cases h:l.findIdx q<l.length
  .rw [if_pos h]
   have:=Vc (w:=h);have h2:l.any q=true:=UC.2 ⟨_,Qi h,this⟩;rw[h2];simp
  .rw [if_neg h]
   have:l.findIdx q=l.length:=by have:=List.findIdx_le_length (xs:=l) (p:=q);omega
   rw[U2] at this
   have h2:l.any q=false:=by
    rw[List.any_eq_false];intro x hx;simp[this x hx]
   rw[h2];simp
 refine arc ⟨9,[(4,.B (l.any q))],[],16⟩ ?_ ?_
 .simp
  refine Ah (VA f aA q l hl hs hc) ?_ ?_
  .simp [u,h0,h1]
  simp;exact AZ [] (by simp;exact A0 hi)
 exact Bg
def DF (n:Nat) (q:Int->Bool):List Int:=((List.range n).map λ (i:Nat)=>(i:Int)).filter q
theorem lE (n:Nat) (q:Int->Bool):DF (n+1) q=DF n q++if q n=true then [(n:Int)] else []:=by
 unfold DF;rw[List.range_succ,QN,Uz]
 congr 1
 cases hq:q n<;>simp[hq]
theorem Pa (n:Nat) (q:Int->Bool):(DF n q).length<=n:=by
 unfold DF;have:=QV q ((List.range n).map λ (i:Nat)=>(i:Int))
 simpa using this
theorem TU (f:FuncId) (aA:List AV) (q:Int->Bool) (N:Int) (hN:N<=1000000) (hs:GF aA) (hc:∀ k:Nat,(k:Int)<N->AF f (AV.I k::aA) [] (.B (q k)) []) :
  AF 107 [.I N,.fn (.func f) [] aA] [] (.rs 0 0 (DF N.toNat q).length) [some ⟨1,AP (DF N.toNat q),0⟩]:=by
 have u:∀ ρ sn h,aA.map (conv ρ sn h 2)=aA:=λ _ _ _=>hs _ _ _ 1
 have h0:∀ ρ sn h,aA.map (conv ρ sn h 3)=aA:=λ _ _ _=>hs _ _ _ 2
 have h1:∀ ρ sn h,aA.map (conv ρ sn h 4)=aA:=λ _ _ _=>hs _ _ _ 3
 refine Te.s.ai ?_;refine AB (AT ?_);refine AB (AT ?_);refine AB (AB (AT ?_));refine AI ?_
 let C:Nat->St:=λ k=>⟨20,[(1,.fn (.func f) [] aA),(5,.rs 16 0 (DF k q).length),(7,.I N),(8,.I k)],[(16,some ⟨1,AP (DF k q),0⟩)],24⟩
 refine An C (λ k=>k<=N.toNat) (λ k=>N.toNat - k) 0 (Qk _) (Le.lst [] [] [(16,1)] rfl zz zz zz (by simp[C]) zz zz zz (by simp[C,Up,DF,u,h0,h1]) (by simp[C,DF])) ?_
 intro k hk;have h7:=Pa k q;have h3:C k=⟨20,[(1,.fn (.func f) [] aA),(5,.rs 16 0 (DF k q).length),(7,.I N),(8,.I k)],[(16,some ⟨1,AP (DF k q),0⟩)],24⟩:=rfl;rw[h3];apply ak [1,5,7,8,9] [16] 32
 .simp
  rfl
 refine AB (AE _ rfl (λ h=>AG ?_) λ h=>Ak (Al ?_))
 .simp only[Qa] at h
  have h4:=hc k h;have h2:=lE k q;have h6:=wq (k:=k);refine Bm ⟨20,[(1,.fn (.func f) [] aA),(5,.rs 16 0 (DF (k+1) q).length),(7,.I N),(8,.I k)],[(16,some ⟨1,AP (DF (k+1) q),0⟩)],24⟩ ?_ ?_
  .rw [h2]
   generalize DF k q=W at *;refine AI (AB (AT ?_));apply ak [1,5,6,7,8,13] [16] 72
   .simp
    refine Ah h4 ?_ ?_
    .simp [u,h0,h1]
    simp;rfl
   refine AE _ rfl (λ h5=>?_) λ h5=>AG ?_
   .rw [if_pos h5]
    refine Ab rfl ?_;simp[List.replicate];refine⟨zy,zy,KL (i:=96) (sn:=[]) rfl rfl zz zz rfl (by simp[AC,DX]) zz (by simp[u,h0,h1])⟩
   .rw [if_neg (by simp[h5]),QU]
    exact KL (i:=16) (sn:=[]) rfl rfl zz zz rfl (by simp[AC]) zz (by simp[u,h0,h1])
  refine Ab rfl ?_;simp[h6];exact⟨k+1,zy,zy,KL (i:=16) (sn:=[]) rfl rfl (by simp[C]) zz rfl (by simp[AC]) zz (by simp[C,u,h0,h1])⟩
 simp only[Qb] at h;obtain rfl:k=N.toNat:=zy
 generalize DF N.toNat q=W at *;refine AB (AT ?_);exact B3 [16] []
theorem Ri (s:AL) (hs:Cz s):AF 28 [eS s] [] (.B (decide (s.sk=s.au/\s.sd.toList=(Cd s).toList))) []:=by
 refine zBF.ai ?_;refine ar [1] [] [16] 100 ?_;refine Bi ⟨11,[(2,.B (decide (s.sk=s.au/\s.sd.toList=(Cd s).toList)))],[],300⟩ ?_ ?_
 .simp
  refine Au (La s hs) ?_;simp;exact⟨rfl,AN [] [] (by simp;exact A0 (by rw[Qg];simp))⟩
 exact Bg
theorem Lo (x:Int):AF 70 [.I x] [] (.B (decide (D3 x))) []:=by
 refine OB.s.ai ?_;refine ar [0] [] [] 100 ?_;refine arc ⟨5,[(2,.B (decide (D3 x)))],[],200⟩ ?_ ?_
 .simp
  refine Au (Dw x 0 1099511627776) ?_;simp;exact AN [] [] (by simp;exact A0 (by rw[Qg,Qa];simp[D3]))
 exact Bg
theorem dA (x:Int):AF 73 [.I x] [] (.B (decide (¬ D3 x))) []:=by
 refine OI.s.ai ?_;refine ar [0] [] [] 100 ?_;refine arc ⟨6,[(2,.B (decide (¬ D3 x)))],[],200⟩ ?_ ?_
 .simp
  refine Au (Lo x) ?_;simp;exact AN [] [] (by simp<;>exact A0 (by rw[Qg];simp))
 exact Bg
open Classical in
theorem iE (l:List Pn) (hl:l.length<=1000000):AF 74 [Cq l] [] (.B (decide (He l))) []:=by
 refine Ro.s.ai ?_;refine ar [0] [] [] 100 ?_;refine AB (ar [0,5,6,7] [] [] 200 ?_);refine AI (An (ι:=Nat) (λ k=>⟨44,[(0,Cq l),(5,Cq l),(6,.I l.length),(7,.I k)],[],300⟩) (λ k=>k<=l.length /\ ∀ i,i<k->GP l i) (λ k=>l.length - k) 0 ⟨Qk _,λ i hi=>zy⟩ (Aw [] []) ?_)
 rintro k ⟨hk,hp⟩
 refine BM ⟨44,[(0,Cq l),(5,Cq l),(6,.I l.length),(7,.I k),(8,.B (decide (k<l.length)))],[],400⟩ [] [] ?_;refine AB (AE _ rfl (λ h=>AG ?_) λ h=>Ak (Al ?_))
 .rw [Qa] at h
  obtain⟨p,h0⟩:∃ p,l[k]=p:=⟨_,rfl⟩;have hg:l[k]? = some p:=by rw[Qc h,h0]
  have h5:=EH h zy
  have h1:GP l k↔((0<=p.a/\p.a<64)/\(0<k->(l[k - 1]).a<p.a)/\1<=p.h/\p.h<=200/\p.d.size=32):=by
   unfold GP;constructor
   .intro hq
    have:=hq h
    rwa [h0] at this
   .intro hq _
    rwa [h0]
  refine Dx ?_;refine AI ?_;apply ax [0,3,4,5,6,7] [] [424] 500
  .simp [hg,Ae]
   rfl
  refine Bi ⟨44,[(0,Cq l),(5,Cq l),(6,.I l.length),(7,.I k),(42,.B (decide (¬ GP l k)))],[],1000⟩ ?_ ?_
  .simp
   refine Au (Dw p.a 0 63) ?_
   cases k with
   | zero =>
     simp
     repeat' first
      | (refine Cs 33 rfl ?_;refine Ah (Dw _ _ _) (by simp;exact⟨rfl,rfl,rfl⟩) ?_;simp)
      | (refine DC (λ hb=>?_) (λ hb=>?_)<;>(try rw[hb])<;>(try simp at hb)<;>simp[hb])
     all_goals exact⟨rfl,AN [] [] (by simp[AC]<;>exact A0 (by rw[Qg];simp[h1];first | omega | grind))⟩
   | succ j =>
     have h6:j<l.length:=zy
     obtain⟨q,hq⟩:∃ q,l[j]=q:=⟨_,rfl⟩;have h2:l[j]? = some q:=by rw[Qc h6,hq]
     have hw:IntKind.i64.wrap (((j+1:Nat):Int) - 1)=(j:Int):=by rw[w6];omega
     have u:GP l (j+1)↔((0<=p.a/\p.a<64)/\q.a<p.a/\1<=p.h/\p.h<=200/\p.d.size=32):=by
      rw[h1];simp[hq]
     clear h1
     obtain⟨J,hJ⟩:=AJ (j+1);rw[<- hJ] at hw u ⊢;have h3:0<J:=zy
     simp[h3,hw,h2]
     repeat' first
      | (refine Cs 33 rfl ?_;refine Ah (Dw _ _ _) (by simp;exact⟨rfl,rfl,rfl⟩) ?_;simp[h3,hw,h2])
      | (refine DC (λ hb=>?_) (λ hb=>?_)<;>(try rw[hb])<;>(try simp at hb)<;>simp[hb,h3,hw,h2])
     all_goals exact⟨rfl,AN [] [] (by simp[AC]<;>exact A0 (by rw[Qg];simp[u];first | omega | grind))⟩
  refine AE _ rfl (λ hb=>?_) λ hb=>?_
  .simp at hb
   refine ar [2] [] [] 1100 ?_;refine Am ⟨.inr rfl,AO.one ?_⟩;have:¬ He l:=λ hh=>hb (hh k);simp[this]
  simp at hb;refine AG ⟨_,Le.refl _ _,?_⟩;refine Ab rfl ?_;simp[h5];refine⟨k+1,⟨zy,λ i hi=>?_⟩,zy,Aw [] []⟩
  by_cases h7:i=k
  .subst h7;exact hb
  .exact hp i zy
 rw[Qb] at h;have h4:He l:=λ i hi=>hp i zy hi
 refine ar [2] [] [] 2000 ?_;refine Am ⟨.inr rfl,AO.one ?_⟩;simp[h4]
theorem sN (s:AL):∃ b:Bool,(b=true↔FF s)/\AF 71 [eS s] [] (.B b) []:=by
 refine Rf.s.acallsX (args:=[eS s]) (hs:=[]) (λ b=>.B b) (λ _=>[]) (λ b:Bool=>b=true↔FF s) (Ar rfl) (Ar rfl) (λ _=>zz) ?_
 show AY _ 0 _ _ ⟨59,[(0,eS s)],[],16⟩;refine ar [1] [] [16] 100 ?_;refine AB (ar [1,4] [] [] 200 ?_);refine AI (ar [1,4,5] [] [] 300 ?_);refine AE _ rfl (λ h4=>?_) λ h4=>?_
 .simp at h4
  obtain⟨b,hb⟩:∃ b:Bool,b=decide (K1 s):=⟨_,rfl⟩;refine arc ⟨59,[(2,.B b)],[],1000⟩ ?_ ?_
  .simp
   repeat' first
    | (refine Cs 33 rfl ?_;refine Ah (Dw _ _ _) (by simp;exact⟨rfl,rfl,rfl⟩) ?_;simp)
    | (refine DC (λ hb=>?_) (λ hb=>?_)<;>(try rw[hb])<;>(try simp at hb)<;>simp[hb])
   all_goals exact AN [] [] (by simp<;>exact A0 (by subst b;rw[Qg];simp;unfold K1;first | omega | grind))
  refine Am (Bu.mk (.inr rfl) b ?_ (AO.one zz))
  subst hb;simp[FF,h4]
 simp at h4;refine ar [1,4,29] [] [] 400 ?_;refine AE _ rfl (λ h7=>?_) λ h7=>?_
 .simp at h7
  obtain⟨b,hb⟩:∃ b:Bool,b=decide (K2 s):=⟨_,rfl⟩;refine arc ⟨59,[(2,.B b)],[],1000⟩ ?_ ?_
  .simp
   repeat' first
    | (refine Cs 33 rfl ?_;refine Ah (Dw _ _ _) (by simp;exact⟨rfl,rfl,rfl⟩) ?_;simp)
    | (refine DC (λ hb=>?_) (λ hb=>?_)<;>(try rw[hb])<;>(try simp at hb)<;>simp[hb])
   all_goals exact AN [] [] (by simp<;>exact A0 (by subst b;rw[Qg];simp;unfold K2;first | omega | grind))
  refine Am (Bu.mk (.inr rfl) b ?_ (AO.one zz))
  subst hb;simp[FF,h7]
 simp at h7;refine ar [1,44] [] [] 500 ?_;refine AE _ rfl (λ q=>?_) λ q=>?_
 .simp at q
  obtain⟨b,hb⟩:∃ b:Bool,b=decide (K3 s):=⟨_,rfl⟩;refine arc ⟨59,[(2,.B b)],[],1000⟩ ?_ ?_
  .simp
   repeat' first
    | (refine DC (λ hb=>?_) (λ hb=>?_)<;>(try rw[hb])<;>(try simp at hb)<;>simp[hb])
   all_goals exact AN [] [] (by simp<;>exact A0 (by subst b;rw[Qg];simp;unfold K3;first | omega | grind))
  refine Am (Bu.mk (.inr rfl) b ?_ (AO.one zz))
  subst hb;simp[FF,q]
 simp at q;refine AG (ar [2] [] [] 600 ?_);refine Am (Bu.mk (.inr rfl) true ?_ (AO.one zz))
 simp[FF,h4,h7,q]
open Classical in
theorem LW (s:AL) (h1:s.li.length<=1000000) (h2:s.pi.length<=1000000) (h3:s.bo.size<=1000000):∃ e:Int,(e=0↔Bz s)/\AF 27 [eS s] [] (.I e) []:=by
 obtain⟨va,q,ca⟩:∃ b:Bool,(b=true↔D3 s.a)/\AF 70 [.I s.a] [] (.B b) []:=⟨_,by rw[Qa],Lo _⟩
 obtain⟨vb,u,cb⟩:∃ b:Bool,(b=true↔D3 s.b)/\AF 70 [.I s.b] [] (.B b) []:=⟨_,by rw[Qa],Lo _⟩
 obtain⟨vc,h0,cc⟩:∃ b:Bool,(b=true↔D3 s.c)/\AF 70 [.I s.c] [] (.B b) []:=⟨_,by rw[Qa],Lo _⟩
 obtain⟨vm,ha,cm⟩:=sN s
 obtain⟨vl,hc,cl⟩:∃ b:Bool,(b=false ↔ ∀ x∈s.li,D3 x)/\AF 72 [AA s.li,.fn (.func 73) [] []] [] (.B b) [] :=
  ⟨_,zz,VG 73 [] (λ x=>decide (¬ D3 x)) s.li zy (λ ρ sn h n=>rfl) λ e _=>dA e⟩
 obtain⟨vp,hd,cp⟩:∃ b:Bool,(b=true↔He s.pi)/\AF 74 [Cq s.pi] [] (.B b) []:=⟨_,by rw[Qa],iE _ h2⟩
 refine Rk.s.acallsX (args:=[eS s]) (hs:=[]) (λ e=>.I e) (λ _=>[]) (λ e:Int=>e=0↔Bz s) (Ar rfl) (Ar rfl) (λ _=>zz) ?_
 show AY _ 0 _ _ ⟨121,[(0,eS s)],[],16⟩;refine ar [1] [] [16] 100 ?_;refine ar [1,3] [] [] 200 ?_;refine AB (AI (arc ⟨121,[(1,.pv (sC s)),(3,.B (decide (s.ki<=3))),(7,.B (decide (¬ JE s)))],[],300⟩ ?_ ?_))
 .simp
  refine Au (Dw s.au 0 63) ?_;simp;exact AN [] [] (by simp<;>exact A0 (by rw[Qg];simp;unfold JE;first | omega | grind))
 refine AE _ rfl (λ h4=>?_) λ h4=>?_
 .simp only[Qa] at h4
  refine ar [2] [] [] 400 ?_;exact Am (Bu.mk (.inr rfl) 4 ⟨λ h=>(by cases h),λ h=>absurd h.1 h4⟩ (AO.one zz))
 simp only[Qb,Classical.not_not] at h4;refine arc ⟨121,[(1,.pv (sC s)),(3,.B (decide (s.ki<=3))),(12,.B (decide (¬ Jf s)))],[],1000⟩ ?_ ?_
 .simp
  repeat' first
   | (refine Cs 33 rfl ?_;refine Ah (Dw _ _ _) (by simp;exact⟨rfl,rfl,rfl⟩) ?_;simp)
   | (refine DC (λ hb=>?_) (λ hb=>?_)<;>(try rw[hb])<;>(try simp at hb)<;>simp[hb])
  all_goals exact AN [] [] (by simp<;>exact A0 (by rw[Qg];simp;unfold Jf;first | omega | grind))
 refine AE _ rfl (λ h5=>?_) λ h5=>?_
 .simp only[Qa] at h5
  refine ar [2] [] [] 1100 ?_;exact Am (Bu.mk (.inr rfl) 5 ⟨λ h=>(by cases h),λ h=>absurd h.2.1 h5⟩ (AO.one zz))
 simp only[Qb,Classical.not_not] at h5;refine arc ⟨121,[(1,.pv (sC s)),(3,.B (decide (s.ki<=3))),(23,.B (decide (¬ Ji s)))],[],2000⟩ ?_ ?_
 .simp
  refine Au (Dw s.ti 0 2147483648) ?_;simp;exact AN [] [] (by simp<;>exact A0 (by rw[Qg];simp;unfold Ji;first | omega | grind))
 refine AE _ rfl (λ h6=>?_) λ h6=>?_
 .simp only[Qa] at h6
  refine ar [2] [] [] 2100 ?_;exact Am (Bu.mk (.inr rfl) 9 ⟨λ h=>(by cases h),λ h=>absurd h.2.2.1 h6⟩ (AO.one zz))
 simp only[Qb,Classical.not_not] at h6;refine arc ⟨121,[(1,.pv (sC s)),(3,.B (decide (s.ki<=3))),(28,.B (decide (¬ GG s)))],[],3000⟩ ?_ ?_
 .have hN:GG s↔(0<=s.nu/\s.nu<=199)/\va=true/\vb=true/\vc=true/\vl=false/\vm=true:=by rw[q,u,h0,hc,ha];rfl
  clear q u h0 hc ha
  simp;refine Au (Dw s.nu 0 199) ?_;simp
  repeat' first
   | (refine Cs 70 rfl ?_;(first | (refine Ah ca ?_ ?_;focus (simp;done)) | (refine Ah cb ?_ ?_;focus (simp;done)) | (refine Ah cc ?_ ?_;focus (simp;done)));simp)
   | (refine Cs 71 rfl ?_;refine Ah cm zz ?_;simp)
   | (refine Cs 72 rfl ?_;refine Ah cl zz ?_;simp)
   | (refine DC (λ hb=>?_) (λ hb=>?_)<;>(try rw[hb])<;>(try simp at hb)<;>simp[hb])
  all_goals exact AN [] [] (by simp<;>exact A0 (by rw[Qg];simp;rw[hN];first | omega | grind))
 refine AE _ rfl (λ h7=>?_) λ h7=>?_
 .simp only[Qa] at h7
  refine ar [2] [] [] 3100 ?_;exact Am (Bu.mk (.inr rfl) 2 ⟨λ h=>(by cases h),λ h=>absurd h.2.2.2.1 h7⟩ (AO.one zz))
 simp only[Qb,Classical.not_not] at h7;refine arc ⟨121,[(1,.pv (sC s)),(3,.B (decide (s.ki<=3))),(61,.B (decide (¬ I5 s)))],[],4000⟩ ?_ ?_
 .simp
  repeat' first
   | (refine DC (λ hb=>?_) (λ hb=>?_)<;>(try rw[hb])<;>(try simp at hb)<;>simp[hb])
  all_goals exact AN [] [] (by simp<;>exact A0 (by rw[Qg];simp;unfold I5;first | omega | grind))
 refine AE _ rfl (λ h8=>?_) λ h8=>?_
 .simp only[Qa] at h8
  refine ar [2] [] [] 4100 ?_;exact Am (Bu.mk (.inr rfl) 3 ⟨λ h=>(by cases h),λ h=>absurd h.2.2.2.2.1 h8⟩ (AO.one zz))
 simp only[Qb,Classical.not_not] at h8;refine arc ⟨121,[(78,.B (decide (¬ (MS s/\IY s))))],[],5000⟩ ?_ ?_
 .have w1:IntKind.i64.wrap ((s.li.length:Int)+(s.pi.length:Int))=s.li.length+s.pi.length:=w6
  have w2:IntKind.i64.wrap ((s.li.length:Int)+(s.pi.length:Int)+(s.bo.size:Int))=s.li.length+s.pi.length+s.bo.size:=w6
  have hP:IY s↔(s.ki<=3->s.li.length+s.pi.length+s.bo.size=0):=by
   unfold IY;rw[<- pY];constructor
   .intro h hk;have:=h hk;rw[this.1,this.2.1,this.2.2];rfl
   .intro h hk;have:=h hk;exact⟨zy,zy,Qx zy⟩
  have hF:MS s↔(s.nu=0->s.pr.toList=[])/\(0<s.nu->s.pr.size=32)/\vp=true:=by rw[hd];rfl
  clear hd
  simp
  repeat' first
   | (refine Cs 74 rfl ?_;refine Ah cp zz ?_;simp)
   | (refine DC (λ hb=>?_) (λ hb=>?_)<;>(try rw[hb])<;>(try simp at hb)<;>simp[hb,w1,w2])
  all_goals exact AN [] [] (by simp<;>exact A0 (by rw[Qg];simp;rw[hF,hP];first | omega | grind))
 refine AE _ rfl (λ h9=>?_) λ h9=>?_
 .simp only[Qa] at h9
  refine ar [2] [] [] 5100 ?_;exact Am (Bu.mk (.inr rfl) 1 ⟨λ h=>(by cases h),λ h=>absurd h.2.2.2.2.2 h9⟩ (AO.one zz))
 simp only[Qb,Classical.not_not] at h9;refine AG (ar [2] [] [] 6000 ?_);exact Am (Bu.mk (.inr rfl) 0 ⟨λ _=>⟨h4,h5,h6,h7,h8,h9⟩,λ _=>rfl⟩ (AO.one zz))
structure BL where
 s:AL
 d:ByteArray
abbrev D2 (v:BL):List AV:=[.I v.s.au,.I v.s.nu,.sc (.string v.s.pr),.I v.s.ti,.I v.s.ki,.I v.s.a,.I v.s.b,.I v.s.c,AA v.s.li,Cq v.s.pi,.sc (.string v.s.bo),.I v.s.sk,.sc (.string v.s.sd),.sc (.string v.d)]
abbrev Ee (v:BL):AV:=.agg (D2 v)
abbrev BV (l:List BL):List (List AV):=l.map D2
def MA (a b:ByteArray):Bool:=Op.bytesLess a.toList b.toList
def Em (a b:ByteArray):Int:=if MA a b then -1 else if a.toList == b.toList then 0 else 1
abbrev sB (x:ByteArray):AV:=.sc (.string x)
theorem Tj (x:ByteArray):AF 173 [sB x] [] (.B false) []:=by
 refine N0.s.ai ?_;refine rs [0] [] [] ?_;refine rs [2] [] [] ?_;exact Bg
theorem Vv (x y:ByteArray):AF 124 [sB x,sB y] [] (.I (Em x y)) []:=by
 refine NR.s.ai ?_;refine AB (Ay (s:=?s1) rfl ?o1 ?q1)
 case o1=>simp;rfl
 refine AB (Ay (s:=?s2) rfl ?o2 ?q2)
 case o2=>simp;refine Ah (Tj _) rfl ?_;simp;rfl
 refine AB (Ay (s:=?s3) rfl ?o3 ?q3)
 case o3=>simp;refine Ah (Tj _) rfl ?_;simp;rfl
 refine AB (AB (Ay (s:=?s4) rfl ?o4 ?q4))
 case o4=>simp;rfl
 refine AE _ rfl (λ h=>by cases h) λ _=>AG ?_
 refine AB (AB (Ay (s:=?s5) rfl ?o5 ?q5))
 case o5=>simp;rfl
 refine AE _ rfl (λ h=>by cases h) λ _=>AG ?_
 refine AB (arc ⟨20,[(0,sB x),(1,sB y),(16,.B (MA x y))],[],200⟩ ?_ ?_)
 .simp
  exact AN [] [] (by simp[MA])
 refine AE _ rfl (λ h=>?_) λ h1=>AG ?_
 .refine AB (Ay (s:=?s7) rfl ?o7 ?q7)
  case o7=>simp;rfl
  exact BR (AO.one (by simp[Em,h]))
 refine AB (arc ⟨20,[(0,sB x),(1,sB y),(19,.B (!(x.toList == y.toList)))],[],300⟩ ?_ ?_)
 .have h2:Op.bytesLess x.toList y.toList=false:=by simpa [MA] using h1
  simp;exact AN [] [] (by simp[h2])
 refine AE _ rfl (λ h=>?_) λ h2=>AG ?_
 .refine AB (Ay (s:=?s9) rfl ?o9 ?q9)
  case o9=>simp;rfl
  exact BR (AO.one (by simp at h h1;simp[Em,h,h1]))
 refine AB (Ay (s:=?s10) rfl ?o10 ?q10)
 case o10=>simp;rfl
 exact BR (AO.one (by simp at h1 h2;simp[Em,h1,h2]))
def Xa (l:List Int):Int:=(l.find? (· != 0)).getD 0
def FJ (a b:BL):Int:=Xa [BH a.s.nu b.s.nu,Em a.d b.d]
def O7 (a b:AL):Int:=Xa [BH a.au b.au,BH a.nu b.nu,Em a.sd b.sd]
theorem mT (a b:BL):AF 129 [Ee a,Ee b] [] (.I (FJ a b)) []:=by
 refine Rv.s.ai ?_;refine ar [2,3] [] [16,24] 100 ?_;refine Bi ⟨19,[(4,.I (FJ a b))],[],300⟩ ?_ ?_
 .simp
  refine Ah (HH a.s.nu b.s.nu) rfl ?_;simp;refine Ah (Vv a.d b.d) rfl ?_;simp;refine FZ [196] (LJ [BH a.s.nu b.s.nu,Em a.d b.d] zz) zz (.sc _) ?_
  simp;exact⟨rfl,AZ [] (by simp;exact .refl _)⟩
 exact Bg
theorem kK (a b:BL):AF 131 [Ee a,Ee b] [] (.B (a.d.toList == b.d.toList)) []:=by
 refine RE.s.ai ?_;refine ar [2,3] [] [16,24] 100 ?_;refine ar [4] [] [] 200 ?_;exact Bg
theorem NX (a b:AL):AF 69 [eS a,eS b] [] (.I (O7 a b)) []:=by
 refine Pc.s.ai ?_;refine ar [2,3] [] [16,24] 100 ?_;refine Bi ⟨24,[(4,.I (O7 a b))],[],300⟩ ?_ ?_
 .simp
  refine Ah (HH a.au b.au) rfl ?_;simp;refine Ah (HH a.nu b.nu) rfl ?_;simp;refine Ah (Vv a.sd b.sd) rfl ?_;simp;refine FZ [236] (LJ [BH a.au b.au,BH a.nu b.nu,Em a.sd b.sd] zz) zz (.sc _) ?_
  simp;exact⟨rfl,AZ [] (by simp;exact .refl _)⟩
 exact Bg
def HG (a b:AL):Prop:=b.au=a.au/\b.nu=a.nu+1/\a.ti<=b.ti
theorem rW (a b:BL) (h:0<=b.s.nu/\b.s.nu<=1000):∃ t:Bool,(t=true->HG a.s b.s)/\AF 81 [Ee a,Ee b] [] (.B t) []:=by
 refine OV.s.acallsX (args:=[Ee a,Ee b]) (hs:=[]) (λ b=>.B b) (λ _=>[]) (λ t:Bool=>t=true->HG a.s b.s) (Ar rfl) (Ar rfl) (λ _=>zz) ?_
 show AY _ 0 _ _ ⟨48,[(0,Ee a),(1,Ee b)],[],16⟩;have hw:=w6 (x:=b.s.nu - 1);refine ar [2,3] [] [16,24] 100 ?_;obtain⟨t,ht⟩:∃ t:Bool,t=decide (b.s.au=a.s.au/\b.s.nu > a.s.nu/\b.s.nu - 1=a.s.nu/\b.s.pr.toList=a.d.toList/\a.s.ti<=b.s.ti):=⟨_,rfl⟩;refine arc ⟨48,[(4,.B t)],[],1000⟩ ?_ ?_
 .simp [hw]
  repeat' first
   | (refine DC (λ hb=>?_) (λ hb=>?_)<;>(try rw[hb])<;>(try simp at hb)<;>simp[hb,hw])
  all_goals exact AN [] [] (by simp<;>exact A0 (by subst t;rw[Qg];simp;try grind))
 refine Am (Bu.mk (.inr rfl) t (λ hh=>?_) (AO.one zz))
 rw[ht,Qa] at hh;exact⟨hh.1,zy,hh.2.2.2.2⟩
theorem PT (l:List Pn) (hl:l.length<=1000000):AF 79 [Cq l] [] (.rs 0 0 l.length) [some ⟨3,l.map L5,0⟩]:=by
 cases l with
 | nil =>
   refine LP λ ad c=>?_;refine Lv.s.ai ?_;refine AB (AT ?_);refine Bm ⟨8,[(0,.vs 3 false [])],[],40⟩ ?_ ?_
   .refine AB (AT ?_)
    refine AE _ rfl (λ h3=>?_) λ h3=>?_
    .refine arc ⟨8,[(2,.rs 40 0 0)],[(40,some ⟨3,[],0⟩)],48⟩ ?_ ?_
     .simp
      exact Le.lst [] [] [(40,3)] rfl zz zz zz zz zz zz zz (by simp[Up]) zz
     exact B3 [40] []
    exact AG (Le.slots rfl rfl (by simp;exact .mt _ _ _))
   refine AB (Ay (s:=?s5) rfl ?o5 ?q5)
   case o5=>simp[List.replicate];rfl
   exact B3 [56] []
 | cons x l =>
   refine Lv.s.ai ?_;refine AB (AT ?_);refine AB (AB (AT ?_));refine AE _ rfl (λ h3=>by cases h3) λ h3=>?_
   refine AG (AB (Ay (s:=?t4) rfl ?p4 ?r4))
   case p4=>simp[List.replicate];refine⟨by simp at hl;omega,by simp at hl;omega,?_⟩;rfl
   exact B3 [56] []
theorem Xj (s:AL) (h1:s.li.length<=1000000) (h2:s.pi.length<=1000000):AF 61 [eS s] [] (eS s) []:=by
 refine P2.s.ai ?_;refine ar [1,2] [(16,16),(24,24)] [] 100 ?_;apply ay [1,2] [(16,16),(24,24),(116,50),(140,60)] [] 200
 .simp
  refine C3 (Hr s.li zy) ?_
  simp;refine C3 (PT s.pi h2) ?_;simp[Ae];exact⟨rfl,rfl⟩
 apply ax [2] [(24,24),(50,50),(60,60)] [] 300
 .simp [Ae,AC]
  rfl
 refine Am ⟨.inr rfl,?_⟩;exact AO.out [] [24,50,60] rfl zz zz (by simp[AC,HB]) zz
def FY (c:BL->BL->Int):List BL->BL->List BL
 | [],x=>[x]
 | y::r,x=>if c x y<0 then y::FY c r x else x::y::r
def Gt (c:BL->BL->Int) (M:List BL):List BL:=M.foldl (FY c) []
def GH (c:BL->BL->Int) (M:List BL):List BL:=(Gt c M).reverse
theorem SV (c:BL->BL->Int):∀ (r:List BL) (x:BL),(FY c r x).Perm (x::r)
 | [],x=>.refl _
 | y::r,x=>by
   unfold FY;split
   .exact ((SV c r x).cons y).trans (.swap _ _ _)
   .exact .refl _
theorem kS (c:BL->BL->Int) (M:List BL) (k:Nat) (h:k<M.length):Gt c (M.take (k+1))=FY c (Gt c (M.take k)) M[k]:=by
 unfold Gt;rw[<- U1 h,UV,UU];rfl
theorem Ng (c:BL->BL->Int) (M:List BL):(Gt c M).Perm M:=by
 have key:∀ (M acc:List BL),(M.foldl (FY c) acc).Perm (M++acc):=by
  intro M
  induction M with
  | nil=>intro acc;exact .refl _
  | cons x M ih =>
    intro acc;refine(ih _).trans ?_;refine((SV c acc x).append_left M).trans ?_;simp only[Uc];exact List.perm_middle
 simpa [Gt] using key M []
theorem Sd (c:BL->BL->Int) (M:List BL):(Gt c M).length=M.length:=(Ng c M).length_eq
theorem wC (c:BL->BL->Int) (M:List BL):(GH c M).length=M.length:=by rw[GH,UT,Sd]
theorem pM (c:BL->BL->Int) (x:BL):Gt c [x]=[x]:=rfl
def kI (aA:List AV):Prop:=∀ ρ sn h n,aA.map (conv ρ sn h (n+1))=aA
theorem Le.npK {st st':St} {D:List BL} (sn:List Nat) (q:st'.sz=st.sz) (hn:1<=st'.n) (hh:st'.h=[(0,some ⟨14,BV D,0⟩)]) (hs:∀ k∈sn,1<=k) (he:st.hp 0=some ⟨14,BV D,0⟩) (ht:∀ p∈st'.t,Wk (conv [(0,0)] sn st.hp 4 (st.get p.1)) p.2):Le 1 st st' :=
 Le.ents [(0,0)] sn q zz zz zw (λ k hk=>⟨hs k hk,by have:=hs k hk;simp;omega⟩) hn ht (λ p hp=>by
  rw[hh] at hp;simp at hp;subst hp
  exact⟨0,_,_,rfl,zz,he,A7.eq (by simp[AC]) zz⟩)
theorem WD {H T:List BL} {y x:BL} {h:Nat} (hh:H.length=h):(BV (H++y::x::T))[h]? = some (D2 y)/\(BV (H++y::x::T))[h+1]? = some (D2 x):=by
 subst hh;constructor
 .rw [QB,Qr zy]
  simp
 .rw [QB,Qr zy]
  simp
theorem qV {H T:List BL} {y x:BL} {h:Nat} (hh:H.length=h):((BV (H++y::x::T)).set (h+1) (D2 y)).set h (D2 x)=BV (H++x::y::T):=by
 subst hh;simp[BV,List.set_append]
theorem vY (f:FuncId) (aA:List AV) (c:BL->BL->Int) (A M B:List BL) (n a b:Nat) (hn:(A++M++B).length=n) (ha:A.length=a) (hb:a+M.length=b) (hl:n<=1000000) (hs:kI aA) (hc:∀ x∈M,∀ y∈M,AF f (Ee x::Ee y::aA) [] (.I (c x y)) []) :
  AF 217 [.rs 0 0 n,.I a,.I b,.fn (.func f) [] aA] [⟨14,BV (A++M++B),0⟩] (.tup []) [some ⟨14,BV (A++GH c M++B),0⟩]:=by
 have h7:∀ ρ sn h,aA.map (conv ρ sn h 2)=aA:=λ _ _ _=>hs _ _ _ 1
 have h8:∀ ρ sn h,aA.map (conv ρ sn h 3)=aA:=λ _ _ _=>hs _ _ _ 2
 have h3:∀ ρ sn h,aA.map (conv ρ sn h 4)=aA:=λ _ _ _=>hs _ _ _ 3
 refine PE.s.acalls (Ar rfl) (Ar rfl) (Ar rfl) ?_;show AY _ 1 _ _ ⟨53,[(0,.rs 0 0 n),(1,.I a),(2,.I b),(3,.fn (.func f) [] aA)],[(0,some ⟨14,BV (A++M++B),0⟩)],16⟩
 have a9:a+(M.length+B.length)=n:=by
  simp only[Qe] at hn;omega
 have ai:b<=n:=zy
 have hw:=wq (k:=a)
 let Lk:Nat->List BL:=λ k=>A++((Gt c (M.take k)).reverse++(M.drop k++B))
 have a0:A++M++B=Lk 1:=by
  cases M with
  | nil=>simp[Lk,Gt]
  | cons m M=>simp[Lk,pM]
 rw[a0];apply ak [0,1,2,3,8] [0] 40
 .simp [hw]
  rfl
 refine AI (An (ι:=Nat) (λ k=>⟨53,[(0,.rs 0 0 n),(1,.I a),(2,.I b),(3,.fn (.func f) [] aA),(8,.I (a+k:Nat))],[(0,some ⟨14,BV (Lk k),0⟩)],40⟩) (λ k=>1<=k/\k<=M.length+1/\(M.length<=k->BV (Lk k)=BV (A++GH c M++B))) (λ k=>M.length+1 - k) 1 ?_ (Le.refl _ _) ?_)
 .refine ⟨Qf _,zy,λ h=>?_⟩
  simp only[Lk];rw[Qd h,QI h];simp[GH]
 rintro k ⟨am,an,a1⟩
 refine AB (arc ⟨53,[(0,.rs 0 0 n),(1,.I a),(2,.I b),(3,.fn (.func f) [] aA),(8,.I (a+k:Nat)),(14,.B (decide (k<M.length)))],[(0,some ⟨14,BV (Lk k),0⟩)],64⟩ ?_ ?_)
 .simp
  exact Le.keep rfl (Qf _) (by simp<;>omega) zz
 refine AE _ rfl (λ h=>AG ?_) λ h=>Ak (Al ?_)
 .simp only[Qa] at h
  refine Bm ⟨53,[(0,.rs 0 0 n),(1,.I a),(2,.I b),(3,.fn (.func f) [] aA),(8,.I (a+k:Nat))],[(0,some ⟨14,BV (Lk (k+1)),0⟩)],64⟩ ?_ ?_
  .have hx:M[k]∈M:=Qi h
   have hd:M.drop k=M[k]::M.drop (k+1):=QO h;have hf:=kS c M k h;generalize M[k]=x at *;obtain⟨D,hD⟩:=AJ (M.drop (k+1)++B);obtain⟨R,hR⟩:=AJ (Gt c (M.take k))
   have a2:∀ y∈R,y∈M:=λ y hy=>by
    rw[hR] at hy;exact QM ((Ng c _).mem_iff.1 hy)
   have hm:R.length=k:=by rw[hR,Sd];simp;omega
   have aq:D.length+k+1=M.length+B.length:=by rw[hD];simp;omega
   have a3:Lk k=A++R.reverse++x::D:=by simp only[Lk];rw[hd,<- hR,hD];simp
   have ho:Lk (k+1)=A++(FY c R x).reverse++D:=by simp only[Lk];rw[hf,<- hR,hD];simp
   rw[a3,ho];refine AI (arc ⟨53,[(0,.rs 0 0 n),(1,.I a),(2,.I b),(3,.fn (.func f) [] aA),(8,.I (a+k:Nat)),(9,.I (a+k:Nat))],[(0,some ⟨14,BV (A++R.reverse++x::D),0⟩)],80⟩ ?_ ?_)
   .simp
    exact A5
   refine AI ?_
   let C:List BL × List BL->St:=λ p=>⟨53,[(0,.rs 0 0 n),(1,.I a),(2,.I b),(3,.fn (.func f) [] aA),(8,.I (a+k:Nat)),(9,.I (a+p.2.length:Nat))],[(0,some ⟨14,BV (A++p.2.reverse++x::(p.1++D)),0⟩)],80⟩
   refine An C (λ p:List BL × List BL=>FY c R x=p.1.reverse++FY c p.2 x/\p.1.length+p.2.length=k /\ ∀ y∈p.2,y∈M) (λ p:List BL × List BL=>p.2.length) ([],R) ⟨rfl,by simpa using hm,a2⟩ ?_ ?_
   .simp only[C,hm,Uq]
    exact Le.refl _ _
   rintro⟨U,V⟩ ⟨u,h0,h1⟩
   simp only at u h0 h1
   match V,u,h0,h1 with
   | [],u,h0,h1 =>
     have hC:C (U,[])=⟨53,[(0,.rs 0 0 n),(1,.I a),(2,.I b),(3,.fn (.func f) [] aA),(8,.I (a+k:Nat)),(9,.I a)],[(0,some ⟨14,BV (A++x::(U++D)),0⟩)],80⟩:=by simp[C]
     rw[hC];refine AB (Bi ⟨53,[(0,.rs 0 0 n),(1,.I a),(2,.I b),(3,.fn (.func f) [] aA),(8,.I (a+k:Nat)),(34,.B false)],[(0,some ⟨14,BV (A++x::(U++D)),0⟩)],216⟩ ?_ ?_)
     .simp
      exact⟨rfl,A5⟩
     refine AE _ rfl (λ h=>by cases h) λ h=>Ak (Al ?_)
     have e:A++x::(U++D)=A++(FY c R x).reverse++D:=by rw[u];simp[FY]
     rw[<- e];exact Le.npK [] rfl zz rfl zz rfl (by simp[h7,h8,h3])
   | y::V',u,h0,h1 =>
     obtain⟨H,hH⟩:=AJ (A++V'.reverse);obtain⟨T,hT⟩:=AJ (U++D);obtain⟨q,hq⟩:=AJ (a+V'.length);obtain⟨j,hj⟩:=AJ (q+1);have h4:H.length=q:=by rw[hH,hq];simp;omega
     have hr:(H++y::x::T).length=n:=by
      have e:(H++y::x::T).length=H.length+(T.length+2):=zz
      rw[e,h4,hT,Qe];simp at h0;omega
     have hg:=(WD (T:=T) (y:=y) (x:=x) h4).1;have hh:=(WD (T:=T) (y:=y) (x:=x) h4).2;have h6:=qV (T:=T) (y:=y) (x:=x) h4;rw[<- hj] at hh h6
     have hC:C (U,y::V')=⟨53,[(0,.rs 0 0 n),(1,.I a),(2,.I b),(3,.fn (.func f) [] aA),(8,.I (a+k:Nat)),(9,.I j)],[(0,some ⟨14,BV (H++y::x::T),0⟩)],80⟩:=by
      simp[C,hH,hT,hj,hq,Uy]
     rw[hC];have a4:=hc x hx y (h1 y Qo);have ht:j<n:=by rw[<- hr,hj,<- h4];simp
     have hi:IntKind.i64.wrap ((j:Int) - 1)=(q:Int):=by rw[w6];omega
     have hu:q<n:=zy
     have a5:a<j:=zy
     have ag:(BV (H++y::x::T)).length=n:=by rw[BV,Qs,hr]
     generalize hX:BV (H++y::x::T)=X at *;have hk:∀ ρ sn h m,X.map (List.map (conv ρ sn h (m+1)))=X:=λ ρ sn h m=>by rw[<- hX];simp[AC]
     refine AB ?_;apply al [0,1,2,3,8,9,34] [0] 216
     .simp [a5,ht,hu,hg,hh,hi]
      refine Ah a4 ?_ ?_
      .simp [h3]
      simp;exact⟨rfl,rfl⟩
     refine AE _ rfl (λ h5=>AG ?_) λ h5=>Ak (Al ?_)
     .simp only[Qa] at h5
      have a6:(X.set j (D2 y))[q]? = some (D2 y):=by
       rw[UE,if_neg zy]
       exact hg
      generalize hY:BV (H++x::y::T)=Y at h6;refine Bm ⟨53,[(0,.rs 0 0 n),(1,.I a),(2,.I b),(3,.fn (.func f) [] aA),(8,.I (a+k:Nat)),(9,.I j)],[(0,some ⟨14,Y,0⟩)],360⟩ ?_ ?_
      .refine AI (Cx rfl ?_)
       simp[ht,hu,hg,hh,a6,hi,Ae];exact⟨rfl,Le.keep rfl (Qf _) zz (by simp;exact h6)⟩
      refine Ab rfl ?_;simp[hi];refine⟨y::U,V',⟨?_,?_,?_⟩,?_,?_⟩
      .rw [u,FY,if_pos h5];simp
      .simp at h0 ⊢;omega
      .exact λ z hz=>h1 z (Qj _ hz)
      .simp
      .have a7:C (y::U,V')=⟨53,[(0,.rs 0 0 n),(1,.I a),(2,.I b),(3,.fn (.func f) [] aA),(8,.I (a+k:Nat)),(9,.I q)],[(0,some ⟨14,Y,0⟩)],80⟩:=by rw[<- hY];simp[C,hH,hT,hq]
       rw[a7];have h9:∀ ρ sn h m,Y.map (List.map (conv ρ sn h (m+1)))=Y:=λ ρ sn h m=>by rw[<- hY];simp[AC]
       exact Le.ents [(0,0)] [] rfl zz zz zz zz zz (by simp[h7,h8,h3]) λ p hp=>by
        simp at hp;subst hp;exact⟨0,_,_,rfl,zz,rfl,A7.eq (by simp only[AX,h9]) zz⟩
     .simp only[Qb] at h5
      have e:H++y::x::T=A++(FY c R x).reverse++D:=by rw[u,FY,if_neg h5,hH,hT];simp
      rw[<- e,hX]
      exact Le.ents [(0,0)] [] rfl zz zz zz zz zz (by simp[h7,h8,h3]) λ p hp=>by
       simp at hp;subst hp;exact⟨0,_,_,rfl,zz,rfl,A7.eq (by simp only[AX,hk]) zz⟩
  have a8:IntKind.i64.wrap (((a+k:Nat):Int)+1)=((a+(k+1):Nat):Int):=by rw[w6];omega
  refine Ab rfl ?_;have hv:IntKind.i64.wrap ((a:Int)+(k:Int)+1)=((a+(k+1):Nat):Int):=by rw[<- a8];congr 1
  simp[hv];refine⟨k+1,⟨zy,zy,λ h2=>?_⟩,zy,?_⟩
  .have he:M.length=k+1:=zy
   simp only[Lk];rw[Qd zy,QI zy]
   simp[GH]
  .exact Le.npK [] rfl zz rfl zz rfl (by simp[h7,h8,h3])
 simp only[Qb] at h;rw[a1 zy]
 exact⟨.inl rfl,⟨[],rfl,[],[],by simp[List.range,List.range.loop],zz,zz,zz,by simp[List.range,List.range.loop,AC]⟩⟩
theorem uR (n:Nat) (h:n<=12):∃ v:Int,True/\AF 186 [.sc (.int .u64 n)] [] (.I v) []:=by
 refine Ps.s.acallsX (args:=[.sc (.int .u64 n)]) (hs:=[]) (λ v=>.I v) (λ _=>[]) (λ _:Int=>True) (Ar rfl) (Ar rfl) (λ _=>Qk _) ?_;show AY _ 0 _ _ ⟨25,[(0,.sc (.int .u64 n))],[],16⟩;refine rs [0,2] [] [] ?_;have hf:∀ k:Int,12<k->decide ((n:Int)≥k)=false:=λ k hk=>QJ zy
 refine AB (arc ⟨25,[(0,.sc (.int .u64 n)),(2,.I 0),(4,.B false)],[],100⟩ ?_ ?_)
 .simp
  exact AN [] [] (by simp<;>exact A0 (by rw[Qb];omega))
 refine AE _ rfl (λ h=>by cases h) λ _=>AG ?_
 refine AB (arc ⟨25,[(0,.sc (.int .u64 n)),(2,.I 0),(8,.B false)],[],200⟩ ?_ ?_)
 .simp
  exact AN [] [] (by simp<;>exact A0 (by rw[Qb];omega))
 refine AE _ rfl (λ h=>by cases h) λ _=>AG ?_
 refine AB (arc ⟨25,[(0,.sc (.int .u64 n)),(2,.I 0),(14,.B false)],[],300⟩ ?_ ?_)
 .simp
  exact AN [] [] (by simp<;>exact A0 (by rw[Qb];omega))
 refine AE _ rfl (λ h=>by cases h) λ _=>AG ?_
 have hu:IntKind.u8.wrap (n:Int)=(n:Int):=by rw[IntKind.wrap_u8];omega
 refine rx (s:=?s4) [2] [] [] rfl ?o4 ?q4
 case o4=>simp[hu];refine⟨_,Qc zw,?_⟩;rfl
 exact Am (Bu.mk (.inr rfl) _ trivial (AO.one (.refl _)))
theorem e9 (n:Nat) (h:n<=12):∃ v:Int,AF 133 [.sc (.int .u64 n)] [] (.I v) []:=by
 obtain⟨v,_,hv⟩:=uR n h;refine⟨v,Ox.s.ac ?_⟩;show AY _ 0 _ _ ⟨8,[(0,.sc (.int .u64 n))],[],16⟩;refine rs [0,2] [] [] ?_;refine AB (AE _ rfl (λ h=>by simp at h) λ _=>AG ?_)
 refine rx (s:=?s2) [2] [] [] rfl ?o2 ?q2
 case o2=>simp;refine Ah hv zz ?_;simp;rfl
 exact Bg
theorem mQ (f:FuncId) (c:BL->BL->Int) (l:List BL) (n:Nat) (v:Int) (hn:l.length=n) (hl:n<=12) (hc:∀ x∈l,∀ y∈l,AF f [Ee x,Ee y] [] (.I (c x y)) []) :
  AF 175 [.rs 0 0 n,.I 0,.I n,.I v,.fn (.func f) [] []] [⟨14,BV l,0⟩] (.tup []) [some ⟨14,BV (GH c l),0⟩]:=by
 refine N6.s.ai ?_;have q:=vY f [] c [] l [] n 0 n (by simpa using hn) rfl (by simpa using hn) zy (λ _ _ _ _=>rfl) hc
 simp only[Uq,QU] at q;have hw:=w6 (x:=(n:Int));refine ar [0,1,2,3,4] [(0,0)] [] 50 ?_;refine ar [0,1,2,3,4] [(0,0)] [] 100 ?_;refine AI (An (ι:=Unit) (λ _=>⟨148,[(0,.rs 0 0 n),(1,.I 0),(2,.I n),(3,.I v),(4,.fn (.func f) [] [])],[(0,some ⟨14,BV l,0⟩)],100⟩) (λ _=>True) (λ _=>0) () trivial (Le.refl _ _) ?_);intro _ _;refine AI ?_;apply ax [0,1,2,3,4,12] [(0,0)] [] 200
 .simp [hw]
  rfl
 refine AB (arc ⟨148,[(0,.rs 0 0 n),(1,.I 0),(2,.I n),(3,.I v),(4,.fn (.func f) [] []),(25,.B true)],[(0,some ⟨14,BV l,0⟩)],300⟩ ?_ ?_)
 .simp
  exact AN [(0,0)] [] (by simp<;>exact A0 zw) (by simp[AC])
 refine AE _ rfl (λ _=>?_) λ h=>by cases h
 apply ax [] [(0,0)] [] 400
 .simp
  refine BZ (i:=0) rfl (e':=⟨14,BV l,0⟩) (by simp[AC]) q zz zz ?_
  simp[AC];rfl
 exact Am ⟨.inr rfl,⟨[],rfl,[],[],by simp[List.range,List.range.loop],zz,zz,zz,by simp[List.range,List.range.loop,AC]⟩⟩
theorem oX (f:FuncId) (c:BL->BL->Int) (l:List BL) (n:Nat) (hn:l.length=n) (hl:n<=12) (hc:∀ x∈l,∀ y∈l,AF f [Ee x,Ee y] [] (.I (c x y)) []) :
  AF 128 [.rs 0 0 n,.fn (.func f) [] []] [⟨14,BV l,0⟩] (.tup []) [some ⟨14,BV (GH c l),0⟩]:=by
 refine OM.s.ai ?_;obtain⟨v,hv⟩:=e9 n hl;have hw:IntKind.u64.wrap (n:Int)=(n:Int):=by rw[IntKind.wrap_u64];omega
 refine ar [0,1,4] [(0,0)] [] 100 ?_;refine Ay (s:=?s2) rfl ?o2 ?q2
 case o2 =>
  simp[hw];refine Au hv ?_;simp;refine BZ (i:=0) rfl (e':=⟨14,BV l,0⟩) (by simp[AC]) (mQ f c l n v hn hl hc) zz zz ?_
  simp[AC];rfl
 exact⟨.inl rfl,⟨[],rfl,[],[],by simp[List.range,List.range.loop],zz,zz,zz,by simp[List.range,List.range.loop,AC]⟩⟩
variable {A:List Ed} {f:List Int}
def Ap (φ:Ed->Int->Int):List Ed->List Int->Int
 | e::A,v::f=>φ e v+Ap φ A f
 | _,_=>0
def DH (A:List Ed) (f:List Int) (x:Int):Int:=Ap (λ e v=>if e.f=x then v else 0) A f
def FV (A:List Ed) (f:List Int) (x:Int):Int:=Ap (λ e v=>if e.t=x then v else 0) A f
structure Ds (N:Nat) (A:List Ed):Prop where
 two:2<=N
 arc:∀ e∈A,0<=e.f/\e.f<N/\0<=e.t/\e.t<N/\e.f≠e.t/\e.t≠0/\e.f≠1/\0<=e.v
def CL:List Ed->List Int->Prop
 | e::A,v::f=>(0<=v/\v<=e.v)/\CL A f
 | [],[]=>True
 | _,_=>False
structure BQ (N:Nat) (A:List Ed) (f:List Int):Prop where
 fit:CL A f
 bal:∀ x:Nat,2<=x->x<N->DH A f x=FV A f x
def Ai (A:List Ed) (f:List Int):Int:=DH A f 0
theorem CL.len:∀ {A:List Ed} {f:List Int},CL A f->f.length=A.length
 | [],[],_=>rfl
 | _::_,_::_,h=>by simp[h.2.len]
 | [],_::_,h=>h.elim
 | _::_,[],h=>h.elim
theorem Sl (φ ψ:Ed->Int->Int):∀ (A:List Ed) (f:List Int),Ap (λ e v=>φ e v+ψ e v) A f=Ap φ A f+Ap ψ A f
 | [],_=>by simp[Ap]
 | _::_,[]=>by simp[Ap]
 | e::A,v::f=>by
   simp only[Ap];rw[Sl φ ψ A f];omega
theorem NV (φ ψ:Ed->Int->Int):∀ (A:List Ed) (f:List Int),Ap (λ e v=>φ e v - ψ e v) A f=Ap φ A f - Ap ψ A f
 | [],_=>by simp[Ap]
 | _::_,[]=>by simp[Ap]
 | e::A,v::f=>by
   simp only[Ap];rw[NV φ ψ A f];omega
theorem IU {φ ψ:Ed->Int->Int}:∀ {A:List Ed} {f:List Int},(∀ e∈A,∀ v,φ e v=ψ e v)->Ap φ A f=Ap ψ A f
 | [],_,_=>by simp[Ap]
 | _::_,[],_=>by simp[Ap]
 | e::A,v::f,h=>by
   simp only[Ap];rw[h e Qo v,IU λ x hx=>h x (Qj _ hx)]
theorem KK:∀ {A:List Ed} {f:List Int},Ap (λ _ _=>0) A f=0
 | [],_=>by simp[Ap]
 | _::_,[]=>by simp[Ap]
 | e::A,v::f=>by simp[Ap,KK (A:=A) (f:=f)]
theorem M7 {φ ψ:Ed->Int->Int}:∀ {A:List Ed} {f:List Int},CL A f->(∀ e∈A,∀ v,0<=v->v<=e.v->φ e v<=ψ e v)->Ap φ A f<=Ap ψ A f
 | [],[],_,_=>by simp[Ap]
 | [],_::_,h,_=>h.elim
 | _::_,[],h,_=>h.elim
 | e::A,v::f,h,hh=>by
   simp only[Ap];have h1:=hh e Qo v h.1.1 h.1.2;have h2:=M7 h.2 λ x hx=>hh x (Qj _ hx);omega
def GS (S:Int->Bool) (g:Int->Int):Nat->Int
 | 0=>0
 | n+1=>GS S g n+if S n then g n else 0
theorem V9 (S:Int->Bool) (g h:Int->Int):∀ n,GS S (λ x=>g x - h x) n=GS S g n - GS S h n
 | 0=>rfl
 | n+1=>by
   simp only[GS];rw[V9 S g h n];split<;>omega
theorem OT (S:Int->Bool) (A:List Ed) (f:List Int) (π:Ed->Int):∀ n:Nat,(∀ e∈A,0<=π e)->GS S (λ x=>Ap (λ e v=>if π e=x then v else 0) A f) n=Ap (λ e v=>if π e<n/\S (π e)=true then v else 0) A f
 | 0,h=>by
   rw[IU (ψ:=λ _ _=>0) λ e he v=>if_neg λ h2=>by have:=h e he;omega,KK]
   rfl
 | n+1,h=>by
   have ih:=OT S A f π n h;simp only[GS];rw[ih]
   by_cases hs:S n=true
   .rw [if_pos hs,<- Sl]
    refine IU λ e he v=>?_;have h0:=h e he
    by_cases h1:π e=n
    .have h2:¬ (π e<(n:Int)/\S (π e)=true):=zy
     have h3:π e<((n+1:Nat):Int)/\S (π e)=true:=⟨zy,by rw[h1];exact hs⟩
     rw[if_neg h2,if_pos h1,if_pos h3,Int.zero_add]
    .rw [if_neg h1,Int.add_zero]
     by_cases h2:π e<(n:Int)/\S (π e)=true
     .rw [if_pos h2,if_pos ⟨zy,h2.2⟩]
     .rw [if_neg h2,if_neg λ h3=>h2 ⟨zy,h3.2⟩]
   .rw [if_neg hs,Int.add_zero]
    refine IU λ e he v=>?_;have h0:=h e he
    by_cases h2:π e<(n:Int)/\S (π e)=true
    .rw [if_pos h2,if_pos ⟨zy,h2.2⟩]
    .rw [if_neg h2,if_neg λ h3=>h2 ⟨?_,h3.2⟩]
     have h4:π e≠n:=λ h5=>hs (h5 ▸ h3.2);omega
def DZ (S:Int->Bool) (A:List Ed) (f:List Int):Int:=Ap (λ e v=>if S e.f=true/\S e.t=false then v else 0) A f
def GK (S:Int->Bool) (A:List Ed) (f:List Int):Int:=Ap (λ e v=>if S e.f=false/\S e.t=true then v else 0) A f
def Ba (S:Int->Bool) (A:List Ed):Int:=Ap (λ e _=>if S e.f=true/\S e.t=false then e.v else 0) A (A.map λ _=>0)
theorem Vk (S:Int->Bool) (g:Int->Int) (N:Nat) (h0:S 0=true) (h1:S 1=false) (hg:∀ x:Nat,2<=x->x<N->g x=0):∀ n,n<=N->1<=n->GS S g n=g 0
 | 0,_,h=>zy
 | 1,_,_=>by simp[GS,h0]
 | n+2,h,_=>by
   have ih:=Vk S g N h0 h1 hg (n+1) zy zy
   simp only[GS] at ih ⊢;rw[ih]
   cases n with
   | zero=>simp[h1]
   | succ n =>
     have:=hg (n+1+1) zy zy
     split<;>omega
theorem Ov {N:Nat} (hn:Ds N A) (hf:BQ N A f) {S:Int->Bool} (h0:S 0=true) (h1:S 1=false):Ai A f=DZ S A f - GK S A f:=by
 have e1:=Vk S (λ x=>DH A f x - FV A f x) N h0 h1 (λ x h2 h3=>by have:=hf.bal x h2 h3;omega) N (Qf _) (by have:=hn.two;omega)
 have e2:FV A f 0=0:=by
  unfold FV;rw[IU (ψ:=λ _ _=>0) λ e he v=>if_neg (hn.arc e he).2.2.2.2.2.1,KK]
 rw[V9] at e1;have e3:=OT S A f (·.f) N λ e he=>(hn.arc e he).1
 have e4:=OT S A f (·.t) N λ e he=>(hn.arc e he).2.2.1
 have e5:GS S (DH A f) N=_:=e3;have e6:GS S (FV A f) N=_:=e4;rw[e5,e6,<- NV] at e1;unfold Ai DZ GK;rw[<- NV];have e7:DH A f 0=DH A f 0 - FV A f 0:=zy
 rw[e7,<- e1];refine IU λ e he v=>?_;obtain⟨q1,q2,q3,q4,_⟩:=hn.arc e he
 cases q:S e.f<;>cases u:S e.t<;>simp[q2,q4]
theorem Oy (hf:CL A f) (S:Int->Bool):DZ S A f<=Ba S A:=by
 have key:∀ {A:List Ed} {f:List Int},CL A f->Ap (λ e _=>if S e.f=true/\S e.t=false then e.v else 0) A (A.map λ _=>0)=Ap (λ e _=>if S e.f=true/\S e.t=false then e.v else 0) A f:=by
  intro A
  induction A with
  | nil=>intro f _;simp[Ap]
  | cons e A ih =>
    intro f h
    cases f with
    | nil=>exact h.elim
    | cons v f=>simp only[Ap,QA];rw[ih h.2]
 unfold DZ Ba;rw[key hf];exact M7 hf λ e _ v h1 h2=>by split<;>omega
theorem Ru (hf:CL A f) (S:Int->Bool):0<=GK S A f:=by
 have:Ap (λ _ _=>0) A f<=GK S A f:=M7 hf λ e _ v h1 h2=>by split<;>omega
 rw[KK] at this;exact this
theorem Kr {N:Nat} (hn:Ds N A) (hf:BQ N A f) {S:Int->Bool} (h0:S 0=true) (h1:S 1=false):Ai A f<=Ba S A:=by
 rw[Ov hn hf h0 h1];have:=Oy hf.fit S;have:=Ru hf.fit S;omega
variable {A:List Ed} {N:Nat} {f:List Int} {δ:Int}
def AQ (A:List Ed) (i:Nat):Ed:=A.getD i ⟨0,0,0⟩
theorem IK {i:Nat} (h:i<A.length):AQ A i∈A:=by
 unfold AQ;rw[Qn,Qc h];exact Qi h
abbrev BS:=Nat × Bool
def C7 (A:List Ed) (s:BS):Int:=if s.2 then (AQ A s.1).t else (AQ A s.1).f
def BA (A:List Ed) (s:BS):Int:=if s.2 then (AQ A s.1).f else (AQ A s.1).t
def Ci (A:List Ed) (f:List Int) (s:BS):Int:=if s.2 then f.getD s.1 0 else (AQ A s.1).v - f.getD s.1 0
def FR (δ:Int) (f:List Int) (s:BS):List Int:=f.set s.1 (f.getD s.1 0+if s.2 then -δ else δ)
def FE (δ:Int) (f:List Int) (l:List BS):List Int:=l.foldl (FR δ) f
theorem PS (φ:Ed->Int->Int):∀ (A:List Ed) (f:List Int) (i:Nat) (v:Int),i<A.length->f.length=A.length->Ap φ A (f.set i v)=Ap φ A f+(φ (AQ A i) v - φ (AQ A i) (f.getD i 0))
 | [],_,_,_,h,_=>by simp at h
 | _::_,[],_,_,_,h=>by simp at h
 | e::A,w::f,0,v,_,_=>by
   simp only[List.set_cons_zero,Ap];have h1:AQ (e::A) 0=e:=rfl;have h2:(w::f).getD 0 0=w:=rfl;rw[h1,h2];omega
 | e::A,w::f,i+1,v,h,hl=>by
   simp only[List.set_cons_succ,Ap];have h1:AQ (e::A) (i+1)=AQ A i:=by simp[AQ]
   have h2:(w::f).getD (i+1) 0=f.getD i 0:=zz
   rw[PS φ A f i v (by simpa using h) (by simpa using hl),h1,h2]
   omega
def Cl (A:List Ed) (f:List Int) (x:Int):Int:=DH A f x - FV A f x
theorem Nf {s:BS}:(FR δ f s).length=f.length:=UG ..
theorem Ka {δ:Int}:∀ {l:List BS} {f:List Int},(FE δ f l).length=f.length
 | [],_=>rfl
 | s::l,f=>by
   show (FE δ (FR δ f s) l).length=_;rw[Ka,Nf]
theorem Wx {s:BS} (hs:s.1<A.length) (hl:f.length=A.length) (x:Int) :
  Cl A (FR δ f s) x=Cl A f x+(if C7 A s=x then δ else 0) - if BA A s=x then δ else 0:=by
 unfold Cl DH FV FR;rw[PS _ A f s.1 _ hs hl,PS _ A f s.1 _ hs hl];unfold C7 BA;generalize AQ A s.1=e;generalize f.getD s.1 0=v;generalize Ap _ A f=p;generalize Ap _ A f=q;obtain⟨i,b⟩:=s
 cases b
 .simp only[Uk,UA]
  by_cases h1:e.f=x<;>by_cases h2:e.t=x<;>simp only[h1,h2,UP,UA]<;>omega
 .simp only[UP]
  by_cases h1:e.f=x<;>by_cases h2:e.t=x<;>simp only[h1,h2,UP,UA]<;>omega
def DR (A:List Ed):Int->List BS->Int->Prop
 | u,[],w=>u=w
 | u,s::l,w=>s.1<A.length/\C7 A s=u/\DR A (BA A s) l w
theorem S8 {A:List Ed} {δ:Int} (x w:Int):∀ {l:List BS} {f:List Int} {u:Int},f.length=A.length->DR A u l w->Cl A (FE δ f l) x=Cl A f x+(if u=x then δ else 0) - if w=x then δ else 0
 | [],f,u,_,h=>by
   have h':u=w:=h;subst h';show Cl A f x=_;omega
 | s::l,f,u,hl,h=>by
   obtain⟨h1,h2,h3⟩:=h;show Cl A (FE δ (FR δ f s) l) x=_;rw[S8 x w (by rw[Nf,hl]) h3,Wx h1 hl x,h2]
   omega
theorem IA:CL A f↔f.length=A.length /\ ∀ i,i<A.length->0<=f.getD i 0/\f.getD i 0<=(AQ A i).v:=by
 induction A generalizing f with
 | nil =>
   cases f with
   | nil=>simp[CL]
   | cons v f=>simp[CL]
 | cons e A ih =>
   cases f with
   | nil=>simp[CL]
   | cons v f =>
     show (0<=v/\v<=e.v)/\CL A f↔_;rw[ih];constructor
     .rintro ⟨h1,h2,h3⟩
      refine⟨by simp[h2],λ i hi=>?_⟩
      cases i with
      | zero=>exact h1
      | succ i =>
        have:=h3 i (by simpa using hi)
        simpa [AQ] using this
     .rintro ⟨h1,h2⟩
      refine⟨h2 0 zz,by simpa using h1,λ i hi=>?_⟩
      have:=h2 (i+1) (by simpa using hi)
      simpa [AQ] using this
theorem KH {δ:Int}:∀ {l:List BS} {f:List Int} {i:Nat},(l.map (·.1)).Nodup->(∀ s∈l,s.1<f.length) ->
  (i∉l.map (·.1)->(FE δ f l).getD i 0=f.getD i 0) /\ ∀ b,(i,b)∈l->(FE δ f l).getD i 0=f.getD i 0+if b then -δ else δ
 | [],f,i,_,_=>⟨λ _=>rfl,λ b hb=>by simp at hb⟩
 | s::l,f,i,hn,hr=>by
   rw[QA,Uh] at hn;have ih:=KH (δ:=δ) (l:=l) (f:=FR δ f s) (i:=i) hn.2 λ x hx=>by rw[Nf];exact hr x (Qj _ hx)
   have hs:=hr s (Qo ..)
   have q:∀ j,(FR δ f s).getD j 0=if s.1=j then f.getD j 0+(if s.2 then -δ else δ) else f.getD j 0:=λ j=>by
    unfold FR
    by_cases hj:s.1=j
    .subst hj
     rw[if_pos rfl,Qn,List.getElem?_set_self hs,QZ]
    .rw [if_neg hj,Qn,List.getElem?_set_ne hj,Qn]
   refine⟨λ hi=>?_,λ b hb=>?_⟩
   .rw [QA,Qu,not_or] at hi
    show (FE δ (FR δ f s) l).getD i 0=_;rw[ih.1 hi.2,q,if_neg λ e=>hi.1 e.symm]
   .show (FE δ (FR δ f s) l).getD i 0=_
    rcases Qu.1 hb with hb | hb
    .subst hb
     rw[ih.1 hn.1,q,if_pos rfl]
    .have u:s.1≠i:=λ e=>hn.1 (e ▸ Ql.2 ⟨_,hb,rfl⟩)
     rw[ih.2 b hb,q,if_neg u]
theorem wE {l:List BS} (hf:CL A f) (h0:0<=δ) (hn:(l.map (·.1)).Nodup) (hr:∀ s∈l,s.1<A.length/\δ<=Ci A f s):CL A (FE δ f l):=by
 rw[IA] at hf ⊢;refine⟨by rw[Ka,hf.1],λ i hi=>?_⟩
 have hg:=KH (δ:=δ) (f:=f) (i:=i) hn λ s hs=>by rw[hf.1];exact(hr s hs).1
 have q:=hf.2 i hi
 by_cases hm:i∈l.map (·.1)
 .obtain ⟨⟨j,b⟩,hs,rfl⟩:=Ql.1 hm
  have h1:=hg.2 b hs;have h2:=(hr _ hs).2;simp only at h1 h2 q ⊢;rw[h1];unfold Ci at h2
  cases b
  .simp only[Uk,UA] at h2 ⊢
   omega
  .simp only[UP] at h2 ⊢
   omega
 .rw [hg.1 hm]
  exact q
theorem PF (hn:Ds N A) (f:List Int):FV A f 0=0:=by
 unfold FV;rw[IU (ψ:=λ _ _=>0) λ e he v=>if_neg (hn.arc e he).2.2.2.2.2.1,KK]
theorem tT {l:List BS} (hn:Ds N A) (hf:BQ N A f) (h0:0<=δ) (hw:DR A 0 l 1) (hd:(l.map (·.1)).Nodup) (hr:∀ s∈l,s.1<A.length/\δ<=Ci A f s) :
  BQ N A (FE δ f l)/\Ai A (FE δ f l)=Ai A f+δ:=by
 have hl:=hf.fit.len;have hx:=λ x=>S8 (A:=A) (δ:=δ) x 1 (l:=l) (f:=f) hl hw;refine⟨⟨wE hf.fit h0 hd hr,λ x h2 hN=>?_⟩,?_⟩
 .have h3:=hx x
  have h4:=hf.bal x h2 hN;rw[if_neg zy,if_neg zy] at h3
  unfold Cl at h3;omega
 .have h3:=hx 0
  rw[if_pos rfl,if_neg zy] at h3
  unfold Cl at h3;rw[PF hn,PF hn] at h3;unfold Ai;omega
theorem bM (hn:Ds N A) (hf:BQ N A f) {S:Int->Bool} (h0:S 0=true) (h1:S 1=false) (hc:∀ s:BS,s.1<A.length->S (C7 A s)=true->0<Ci A f s->S (BA A s)=true):Ai A f=Ba S A:=by
 rw[Ov hn hf h0 h1]
 have key:∀ {A:List Ed} {f:List Int},CL A f->(∀ s:BS,s.1<A.length->S (C7 A s)=true->0<Ci A f s->S (BA A s)=true)->DZ S A f=Ba S A/\GK S A f=0:=by
  intro A
  induction A with
  | nil=>intro f _ _;simp[DZ,GK,Ba,Ap]
  | cons e A ih =>
    intro f hf hc
    cases f with
    | nil=>exact hf.elim
    | cons v f =>
      have h2:=ih hf.2 λ s hs q hr=>by
       have:=hc (s.1+1,s.2) (by simpa using hs) (by simpa [C7,AQ] using q) (by simpa [Ci,AQ] using hr)
       simpa [BA,AQ] using this
      have ha:=hc (0,false) zz
      have hb:=hc (0,true) zz
      simp[C7,BA,Ci,AQ] at ha hb;have hv:=hf.1;unfold DZ GK Ba at h2 ⊢;simp only[Ap,QA];obtain⟨p1,p2⟩:=h2;rw[p1,p2]
      cases hF:S e.f<;>cases hT:S e.t<;>simp[hF,hT] at ha hb ⊢<;>omega
 obtain⟨p1,p2⟩:=key hf.fit hc;rw[p1,p2];omega
variable {A:List Ed} {D f:List Int} {by_:Int->BS}
theorem DR.snoc {A:List Ed}:∀ {l:List BS} {u w:Int} {s:BS},DR A u l w->s.1<A.length->C7 A s=w->DR A u (l++[s]) (BA A s)
 | [],u,w,s,h,h1,h2=>⟨h1,by rw[h2];exact(show u=w from h).symm,rfl⟩
 | t::l,u,w,s,h,h1,h2=>⟨h.1,h.2.1,DR.snoc h.2.2 h1 h2⟩
structure Ik (A:List Ed) (f:List Int) (D:List Int) (by_:Int->BS):Prop where
 zero:D.head? = some 0
 nodup:D.Nodup
 step:∀ j (h:j<D.length),0<j->(by_ D[j]).1<A.length/\BA A (by_ D[j])=D[j]/\C7 A (by_ D[j])∈D.take j/\0<Ci A f (by_ D[j])
theorem k9 {s t:BS} (h:s.1=t.1):(C7 A s=C7 A t/\BA A s=BA A t)∨(C7 A s=BA A t/\BA A s=C7 A t):=by
 obtain⟨i,b⟩:=s;obtain⟨j,c⟩:=t;simp only at h;subst h;unfold C7 BA
 cases b<;>cases c<;>simp
theorem Ik.way (h:Ik A f D by_):∀ (n j:Nat) (hj:j<D.length),j<=n ->
  ∃ l,DR A 0 l D[j]/\(l.map (·.1)).Nodup /\ ∀ s∈l,s.1<A.length/\0<Ci A f s/\by_ (BA A s)=s/\BA A s≠0/\C7 A s∈D.take (j+1)/\BA A s∈D.take (j+1)
 | n,0,hj,_=>by
   refine⟨[],?_,zz,zz⟩
   show (0:Int)=D[0];have h0:=h.zero;rw[List.head?_eq_getElem?,Qc hj] at h0;exact(Qh h0).symm
 | 0,j+1,_,hn=>zy
 | n+1,j+1,hj,hn=>by
   obtain⟨h1,h2,h3,h4⟩:=h.step (j+1) hj zy
   obtain⟨i,hi,u⟩:=Qt.1 h3;rw[QC] at hi;rw[Ux] at u;have hij:i<j+1:=zy
   obtain⟨l,w1,w2,w3⟩:=h.way n i zy zy
   have h5:∀ (k m:Nat) (hk:k<D.length) (hm:m<D.length),k≠m->D[k]≠D[m]:=λ k m hk hm h9 he=>by
    rcases Ub k m with h8 | hge
    .exact QK.1 h.nodup k m hk hm h8 he
    .exact QK.1 h.nodup m k hm hk zy he.symm
   have q:D[j+1]∉D.take (i+1):=λ hm=>by
    obtain⟨k,hk,h6⟩:=Qt.1 hm;rw[QC] at hk;rw[Ux] at h6;exact h5 k (j+1) zy hj zy h6
   have h7:∀ x,x∈D.take (i+1)->x∈D.take (j+1+1):=λ x hx=>(List.take_sublist_take_left (by omega:i+1<=j+1+1)).subset hx
   have h0:D[j+1]≠0:=λ he=>by
    have hz:=h.zero;rw[List.head?_eq_getElem?,Qc zy] at hz
    exact h5 0 (j+1) zy hj zy ((Qh hz).trans he.symm)
   refine⟨l++[by_ D[j+1]],?_,?_,λ s hs=>?_⟩
   .have:=DR.snoc (s:=by_ D[j+1]) w1 h1 u.symm
    rw[h2] at this;exact this
   .rw [QN,Uf]
    refine⟨w2,zz,λ a ha b hb=>?_⟩
    obtain⟨t,ht,rfl⟩:=Ql.1 ha;simp only[QA,Vb,Qv] at hb;subst hb;intro he;obtain⟨_,_,_,_,q1,q2⟩:=w3 t ht;rcases k9 (A:=A) he with ⟨e1,e2⟩ | ⟨e1,e2⟩
    .rw [e2,h2] at q2
     exact q q2
    .rw [e1,h2] at q1
     exact q q1
   .rcases Qm.1 hs with hs | hs
    .obtain ⟨p1,p2,p3,p4,p5,p6⟩:=w3 s hs
     exact⟨p1,p2,p3,p4,h7 _ p5,h7 _ p6⟩
    .rw [Qv] at hs
     subst hs;refine⟨h1,h4,by rw[h2],by rw[h2];exact h0,?_,?_⟩
     .exact (List.take_sublist_take_left (by omega:j+1<=j+1+1)).subset h3
     .rw [h2]
      refine Qt.2 ⟨j+1,by rw[QC];omega,by rw[Ux]⟩
theorem Ik.to (h:Ik A f D by_) {x:Int} (hx:x∈D) :
  ∃ l,DR A 0 l x/\(l.map (·.1)).Nodup /\ ∀ s∈l,s.1<A.length/\0<Ci A f s/\by_ (BA A s)=s/\BA A s≠0:=by
 obtain⟨j,hj,rfl⟩:=Qt.1 hx;obtain⟨l,h1,h2,h3⟩:=h.way j j hj (Qf _);exact⟨l,h1,h2,λ s hs=>⟨(h3 s hs).1,(h3 s hs).2.1,(h3 s hs).2.2.1,(h3 s hs).2.2.2.1⟩⟩
def Hy (A:List Ed) (f D:List Int):Prop:=∀ s:BS,s.1<A.length->C7 A s∈D->0<Ci A f s->BA A s∈D
theorem Ln {N:Nat} (hn:Ds N A) (hf:BQ N A f) (h0:(0:Int)∈D) (h1:(1:Int)∉D) (hc:Hy A f D):Ai A f=Ba (λ x=>decide (x∈D)) A /\ ∀ f',BQ N A f'->Ai A f'<=Ai A f:=by
 have e:=bM (S:=λ x=>decide (x∈D)) hn hf (by simpa using h0) (by simpa using h1) λ s hs hF hr=>by
  have:=hc s hs (by simpa using hF) hr
  simpa using this
 refine⟨e,λ f' q=>?_⟩;rw[e];exact Kr hn q (by simpa using h0) (by simpa using h1)
theorem XF {N:Nat} (hn:Ds N A) (hf:BQ N A f) (ht:Ik A f D by_) {S:Int->Bool} (h0:S 0=true) (h1:S 1=false) (hS:Ba S A=Ai A f):∀ x∈D,S x=true:=by
 have hv:=Ov hn hf h0 h1;have ho:=Oy hf.fit S;have hi:=Ru hf.fit S;have h2:DZ S A f=Ba S A:=zy
 have h3:GK S A f=0:=zy
 have key:∀ {A:List Ed} {f:List Int},CL A f->DZ S A f=Ba S A->GK S A f=0 -> ∀ s:BS,s.1<A.length->S (C7 A s)=true->0<Ci A f s->S (BA A s)=true:=by
  intro A
  induction A with
  | nil=>intro f _ _ _ s hs;simp at hs
  | cons e A ih =>
    intro f hf ho hi s hs hF hr
    cases f with
    | nil=>exact hf.elim
    | cons v f =>
      have k1:=Oy hf.2 S;have k2:=Ru hf.2 S;have hv:=hf.1;have e1:DZ S (e::A) (v::f)=(if S e.f=true/\S e.t=false then v else 0)+DZ S A f:=rfl
      have e2:GK S (e::A) (v::f)=(if S e.f=false/\S e.t=true then v else 0)+GK S A f:=rfl
      have e3:Ba S (e::A)=(if S e.f=true/\S e.t=false then e.v else 0)+Ba S A:=rfl
      rw[e1,e3] at ho;rw[e2] at hi;obtain⟨i,b⟩:=s
      cases i with
      | zero =>
        cases b
        .simp [C7,BA,Ci,AQ] at hF hr ⊢
         cases hT:S e.t
         .simp [hF,hT] at ho
          omega
         .rfl
        .simp [C7,BA,Ci,AQ] at hF hr ⊢
         cases hT:S e.f
         .simp [hF,hT] at hi
          omega
         .rfl
      | succ i =>
        have q1:DZ S A f=Ba S A:=by
         split at ho<;>omega
        have q2:GK S A f=0:=by
         split at hi<;>omega
        have:=ih hf.2 q1 q2 (i,b) (by simpa using hs) (by simpa [C7,AQ] using hF) (by simpa [Ci,AQ] using hr)
        simpa [BA,AQ] using this
 have h4:=key hf.fit h2 h3
 have q:∀ (n j:Nat) (hj:j<D.length),j<=n->S D[j]=true:=by
  intro n
  induction n with
  | zero =>
    intro j hj hn;have hj0:j=0:=zy
    subst hj0;have hz:=ht.zero;rw[List.head?_eq_getElem?,Qc hj] at hz;rw[Qh hz];exact h0
  | succ n ih =>
    intro j hj hn;rcases UF j with hj0 | hj0
    .exact ih j hj zy
    .obtain ⟨q1,q2,q3,q4⟩:=ht.step j hj hj0
     obtain⟨i,hi,u⟩:=Qt.1 q3;rw[QC] at hi;rw[Ux] at u;have:=h4 _ q1 (by rw[<- u];exact ih i zy zy) q4
     rw[q2] at this;exact this
 intro x hx;obtain⟨j,hj,rfl⟩:=Qt.1 hx;exact q j j hj (Qf _)
variable {order:List Int}
def Mf (g:Gr) (lv f t:Int):Prop:=∃ e∈g.edges,e.f=f/\e.t=t/\lv<=e.v
theorem MY:∀ {a b:List Int},a.Nodup->(∀ x∈a,x∈b)->b.length<=a.length->a.Perm b
 | [],b,_,_,hl=>by
   have:b=[]:=List.length_eq_zero_iff.1 (by simpa using hl)
   rw[this]
 | x::a,b,hn,hs,hl=>by
   have hx:x∈b:=hs x (Qo ..);rw[Uh] at hn;have hb:=List.perm_cons_erase hx;have h0:(b.erase x).length+1=b.length:=by have:=hb.length_eq;simp at this;omega
   refine(List.Perm.cons x (MY hn.2 (λ y hy=>?_) ?_)).trans hb.symm
   .have q:=hs y (Qj _ hy)
    have u:y≠x:=λ e=>hn.1 (e ▸ hy);exact(List.mem_erase_of_ne u).2 q
   .rw [QS] at hl
    omega
def E0 (l:List Int):List Int:=l.mergeSort λ x y=>decide (x<=y)
theorem JB (l:List Int):(E0 l).Perm l:=List.mergeSort_perm ..
theorem ND (l:List Int):(E0 l).Pairwise (· <= ·):=by
 have h:=List.pairwise_mergeSort (le:=λ x y:Int=>decide (x<=y)) (λ a b c h1 h2=>by simp at *;omega) (λ a b=>zw) l
 exact h.imp λ {a b} h=>by simpa using h
theorem LU {a b:List Int}:E0 a=E0 b↔a.Perm b:=by
 constructor
 .intro h
  exact(JB a).symm.trans (h ▸ JB b)
 .intro h
  exact List.Perm.eq_of_pairwise (le:=(· <= ·)) (λ x y _ _ h1 h2=>zy) (ND a) (ND b) (((JB a).trans h).trans (JB b).symm)
def Mo (g:Gr) (lv:Int) (seeds order w:List Int):Prop :=
 (∃ k,w.head? = some k/\k∈seeds)/\(∀ k∈w,k∈order)/\w.Nodup /\ ∀ i (h:i+1<w.length),Mf g lv w[i] w[i+1]
def EI (P:List (List Int)) (k:Int):Nat:=P.countP λ w=>decide (w.head? = some k)
def Dr (P:List (List Int)) (k:Int):Nat:=(P.flatMap List.dropLast).count k
def HZ (c:List Int) (P:List (List Int)):Prop:=∀ k (h:k<c.length),(EI P k:Int)<=c[k]/\(Dr P k:Int)<=max 0 (c[k] - 1)
def Ft (P:List (List Int)):List Int:=P.filterMap List.getLast?
def JO (g:Gr) (lv:Int) (seeds order c:List Int) (P:List (List Int)) (ends:List Int):Prop :=
 (∀ w∈P,Mo g lv seeds order w)/\HZ c P/\E0 (Ft P)=E0 ends
def J7 (g:Gr) (lv:Int) (seeds order c:List Int) (P:List (List Int)) (ends:List Int):Prop :=
 P.length=ends.length/\ends.Nodup/\(∀ w∈P,Mo g lv seeds order w)/\(∀ k∈Ft P,k∈ends)/\(Ft P).Nodup/\HZ c P
theorem Mo.ne {g:Gr} {lv:Int} {seeds w:List Int} (h:Mo g lv seeds order w):w≠[]:=by
 rintro rfl
 obtain⟨k,hk,_⟩:=h.1
 cases hk
theorem XS {P:List (List Int)} (h:∀ w∈P,w≠[]):(Ft P).length=P.length:=by
 unfold Ft
 induction P with
 | nil=>rfl
 | cons w P ih =>
   have hw:=h w (Qo ..);rw[US,List.getLast?_eq_some_getLast hw];simp only[QS];rw[ih λ x hx=>h x (Qj _ hx)]
theorem Vf {g:Gr} {lv:Int} {seeds c:List Int} {P:List (List Int)} {q:List Int} (hn:q.Nodup):JO g lv seeds order c P q↔J7 g lv seeds order c P q:=by
 constructor
 .rintro ⟨h1,h2,h3⟩
  have hp:=LU.1 h3;have hl:=XS λ w hw=>(h1 w hw).ne;exact⟨by rw[<- hl,hp.length_eq],hn,h1,λ k hk=>hp.mem_iff.1 hk,hp.nodup_iff.2 hn,h2⟩
 .rintro ⟨h0,_,h1,h2,h3,h4⟩
  have hl:=XS λ w hw=>(h1 w hw).ne;exact⟨h1,h4,LU.2 (MY h3 h2 zy)⟩
def Hk (order:List Int) (key:Int):List Int:=order.takeWhile λ x=>decide (x≠key)
theorem oY (x:Int) (o:List Int) (key:Int):Hk (x::o) key=if x=key then [] else x::Hk o key:=by
 unfold Hk;rw[List.takeWhile_cons]
 by_cases h:x=key<;>simp[h]
def H6 (order l:List Int) (key:Int):Prop:=l.Sublist (Hk order key)
theorem nT (order:List Int) (key:Int):key∉Hk order key:=by
 induction order with
 | nil=>simp[Hk]
 | cons x o ih =>
   rw[oY];split
   .simp
   .rename_i h
    simp only[Qu,not_or];exact⟨λ e=>h e.symm,ih⟩
theorem H6.nodup {l:List Int} {key:Int} (h:H6 order l key) (hn:order.Nodup):(l++[key]).Nodup:=by
 rw[Uf];refine⟨(hn.sublist (List.takeWhile_sublist _)).sublist h,zz,λ x hx y hy=>?_⟩
 rw[Qv] at hy;subst hy
 rintro rfl
 exact nT order x (h.subset hx)
theorem IT {x:Int} (h1:0<=x) (h2:x<18446744073709551616):IntKind.u64.wrap x=x:=by rw[IntKind.wrap_u64];omega
theorem NT (n:Nat) (h:n<4294967296):Aq .and (.int .u64 (n:Int)) (.int .u64 4294967295)=some (.int .u64 (n:Int)):=by
 have e:(BitVec.ofInt 64 (n:Int) &&& BitVec.ofInt 64 4294967295).toNat=n:=by
  have h1:(BitVec.ofInt 64 (n:Int)).toNat=n:=by
   rw[BitVec.toNat_ofInt];omega
  have h2:(BitVec.ofInt 64 (4294967295:Int)).toNat=2 ^ 32 - 1:=rfl;rw[BitVec.toNat_and,h1,h2,Nat.and_two_pow_sub_one_eq_mod];omega
 show some (Value.int .u64 (IntKind.u64.wrap ((BitVec.ofInt 64 (n:Int) &&& BitVec.ofInt 64 4294967295).toNat:Int)))=_;rw[e,IT zy zy]
theorem NI (n:Nat) (h:n<4294967296):Aq .shr (.int .u64 (n:Int)) (.int .u64 32)=some (.int .u64 0):=by
 show (if (0:Int)<=32 then some (Value.int .u64 ((n:Int).fdiv (2 ^ (min (32:Int).toNat 64)))) else none)=_
 rw[if_pos zy]
 congr 2
 have:(2:Int) ^ (min (32:Int).toNat 64)=4294967296:=rfl;rw[this,QL _ zy]
 omega
abbrev U (n:Int):AV:=.sc (.int .u64 n)
theorem eM (n:Nat) (h:n<4294967296):AF 259 [U 1,U n] [] (.tup [U 0,U n]) []:=by
 refine lI.s.ai ?_;have a1:Aq .and (.int .u64 1) (.int .u64 4294967295)=some (.int .u64 1):=NT 1 zy
 have a0:Aq .and (.int .u64 0) (.int .u64 4294967295)=some (.int .u64 0):=NT 0 zy
 have an:=NT n h;have s1:Aq .shr (.int .u64 1) (.int .u64 32)=some (.int .u64 0):=NI 1 zy
 have s0:Aq .shr (.int .u64 0) (.int .u64 32)=some (.int .u64 0):=NI 0 zy
 have sn:=NI n h
 have m1:∀ a:Int,Aq .mul (.int .u64 0) (.int .u64 a)=some (.int .u64 0):=λ a=>by
  show some (Value.int .u64 (IntKind.u64.wrap (0*a)))=_;rw[Int.zero_mul];rfl
 have m2:Aq .mul (.int .u64 1) (.int .u64 (n:Int))=some (.int .u64 (n:Int)):=by
  show some (Value.int .u64 (IntKind.u64.wrap (1*(n:Int))))=_;rw[Int.one_mul,IT zy zy]
 have m3:Aq .mul (.int .u64 1) (.int .u64 0)=some (.int .u64 0):=rfl;have d0:Aq .add (.int .u64 0) (.int .u64 0)=some (.int .u64 0):=rfl;refine AB (AT ?_);refine AB (Ay (s:=?z2) rfl ?p2 ?r2)
 case p2=>simp[-Aq,a1];rfl
 refine AB (Ay (s:=?z3) rfl ?p3 ?r3)
 case p3=>simp[-Aq,s1];rfl
 refine AB (Ay (s:=?z4) rfl ?p4 ?r4)
 case p4=>simp[-Aq,an];rfl
 refine AB (Ay (s:=?z5) rfl ?p5 ?r5)
 case p5=>simp[-Aq,sn];rfl
 refine AB (Ay (s:=?z6) rfl ?p6 ?r6)
 case p6=>simp[-Aq,m2];rfl
 refine AB (Ay (s:=?z7) rfl ?p7 ?r7)
 case p7=>simp[-Aq,m1,sn,d0];rfl
 refine AB (Ay (s:=?z8) rfl ?p8 ?r8)
 case p8=>simp[-Aq,a0];rfl
 refine AB (Ay (s:=?z9) rfl ?p9 ?r9)
 case p9=>simp[-Aq,s0];rfl
 refine AB (Ay (s:=?z10) rfl ?p10 ?r10)
 case p10=>simp[-Aq,m3,d0];rfl
 refine AB (Ay (s:=?z11) rfl ?p11 ?r11)
 case p11=>simp[-Aq,m1,d0,s0];rfl
 refine AB (Ay (s:=?z12) rfl ?p12 ?r12)
 case p12=>simp[-Aq,m2];rfl
 exact B3 [] []
theorem uE (n:Nat) (h:n<4294967296):AF 244 [U 1,U n] [] (.tup [U 0,U n]) []:=by
 refine lU.s.ai ?_;refine AB (AT ?_);refine AB (AE _ rfl (λ h=>by cases h) λ _=>AG ?_)
 refine AB (Ay (s:=?z2) rfl ?p2 ?r2)
 case p2=>simp;refine Ah (eM n h) rfl ?_;simp;rfl
 refine AB (AT ?_);exact B3 [] []
theorem aZ (v:Int) (n:Nat) (hn:n<=1000000):AF 196 [AA [v],.I n] [] (.rs 0 0 n) [some ⟨1,List.replicate n [AV.I v],0⟩]:=by
 refine n7.s.ai ?_;have u:IntKind.u64.wrap 1=1:=rfl;have h0:IntKind.u64.wrap (n:Int)=n:=IT zy zy
 have h1:IntKind.i64.wrap (n:Int)=n:=w6;refine AB (AT ?_);refine AB ?_;apply ak [0,1,10] [] 40
 .simp
  rfl
 refine AE _ rfl (λ h=>by cases h) λ _=>AG ?_
 apply ak [0,1,5,6] [] 128
 .simp [u,h0]
  refine Ah (uE n zy) rfl ?_
  simp;rfl
 refine AB (arc ⟨48,[(0,AA [v]),(1,.I n),(5,U 0),(6,U n),(26,.B false)],[],176⟩ ?_ ?_)
 .simp
  exact Le.keep rfl (Qf _) zw zz
 refine AE _ rfl (λ h=>by cases h) λ _=>AG ?_
 refine arc ⟨48,[(0,AA [v]),(7,.rs 192 0 n)],[(192,some ⟨1,List.replicate n [.I 0],0⟩)],208⟩ ?_ ?_
 .simp [h1]
  exact⟨zy,zy,A5⟩
 let R:Nat->List (List AV):=λ m=>List.replicate m [AV.I v]++List.replicate (n - m) [AV.I 0]
 have h2:∀ m,m<=n->(R m).length=n:=λ m hm=>by simp[R];omega
 refine arc ⟨48,[(7,.rs 192 0 n),(8,.I (min 1 n:Nat))],[(192,some ⟨1,R (min 1 n),0⟩)],240⟩ ?_ ?_
 .simp
  refine Le.keep rfl (Qf _) zz ?_
  cases n with
  | zero=>simp[R]
  | succ n=>simp[R,List.replicate]
 refine AB (AI (An (ι:=Nat) (λ m=>⟨48,[(7,.rs 192 0 n),(8,.I m)],[(192,some ⟨1,R m,0⟩)],240⟩) (λ m=>m<=n/\(m=0->n=0)) (λ m=>n - m) (min 1 n) ⟨zy,zy⟩ (Le.refl _ _) ?_))
 rintro m ⟨hm,h3⟩
 refine AB ?_;apply ak [7,8,37] [192] 272
 .simp
  rfl
 refine AE _ rfl (λ h=>AG ?_) λ h=>Ak (Al ?_)
 .simp only[Qa] at h
  obtain⟨k,hk⟩:=AJ (min m (n - m));have hw:IntKind.i64.wrap ((m:Int)+(k:Int))=((m+k:Nat):Int):=by rw[w6];omega
  have ht:(R m).take m=List.replicate m [AV.I v]:=by simp[R]
  have hd:(R m).drop (m+k)=List.replicate (n - (m+k)) [AV.I 0]:=by
   simp only[R];rw[List.drop_append,QI zz,Uq,List.drop_replicate]
   simp;omega
  have hl:=h2 m hm
  have q:List.replicate m [AV.I v]++(List.replicate k [AV.I v]++List.replicate (n - (m+k)) [AV.I 0])=R (m+k):=by
   simp only[R];rw[<- Qq,List.replicate_append_replicate]
  refine AI (Cx rfl ?_);generalize R m=X at *;simp[hl,ht];refine⟨zy,zy,_,⟨zy,rfl⟩,rfl,m+k,⟨zy,zy⟩,zy,?_⟩
  have e1:min (List.replicate m (([AV.I v]:List AV))).length (n - m)=k:=by simp[hk]
  rw[e1,hw,hd,List.take_replicate,show min k m=k by omega,q]
  exact KL (i:=192) (sn:=[]) rfl rfl zz zz rfl (by simp[R]) zz zz
 obtain rfl:m=n:=by simp at h;omega
 refine AB (AT ?_);exact BR (AO.out [192] [] rfl zz zz zz (by simp[R]))
variable {k:Int} {n:Nat}
def Gm (g:Gr) (S:List Int) (k:Int):Bool:=S.contains k && !g.gone.contains k
def dl (g:Gr) (S:List Int):Nat->Int->Int
 | 0,k=>if Gm g S k=true then 0 else -1
 | n+1,k=>if 0<=dl g S n k then dl g S n k else if g.edges.any (λ e=>decide (e.t=k) && decide (dl g S n e.f=n))=true then (n:Int)+1 else -1
def Dy (g:Gr) (k:Int):Prop:=0<=k/\k<g.size
variable {g:Gr} {S:List Int}
theorem FU (n:Nat) (k:Int) : -1<=dl g S n k/\dl g S n k<=n:=by
 induction n with
 | zero=>unfold dl;split<;>omega
 | succ n ih=>unfold dl;split<;>(try split)<;>omega
theorem HN (h:0<=dl g S n k):dl g S (n+1) k=dl g S n k:=by
 rw[dl,if_pos h]
theorem Pf {m:Nat} (q:n<=m) (h:0<=dl g S n k):dl g S m k=dl g S n k:=by
 induction m with
 | zero=>obtain rfl:n=0:=zy
         rfl
 | succ m ih =>
   rcases Ub n (m+1) with h1 | h1
   .have:=ih zy
    rw[HN zy,this]
   .obtain rfl:n=m+1:=zy
    rfl
theorem JZ (h:0<=dl g S (n+1) k) (h2:¬ 0<=dl g S n k):dl g S (n+1) k=n+1 /\ ∃ e∈g.edges,e.t=k/\dl g S n e.f=n:=by
 rw[dl,if_neg h2] at h ⊢;split at h
 .rename_i ha
  rw[if_pos ha];rw[UC] at ha;obtain⟨e,he,ha⟩:=ha;simp at ha;exact⟨rfl,e,he,ha.1,ha.2⟩
 .omega
theorem Oh (h:0<=dl g S n k):dl g S (dl g S n k).toNat k=dl g S n k:=by
 induction n with
 | zero =>
   have:=FU (g:=g) (S:=S) 0 k;have e:dl g S 0 k=0:=zy
   rw[e];exact e
 | succ n ih =>
   by_cases h2:0<=dl g S n k
   .rw [HN h2];exact ih h2
   .obtain ⟨e,_⟩:=JZ h h2
    rw[e];have:((n:Int)+1).toNat=n+1:=zy
    rw[this];exact e
theorem SY {e:Ed} (he:e∈g.edges) (h:0<=dl g S n e.f):0<=dl g S (n+1) e.t/\dl g S (n+1) e.t<=dl g S n e.f+1:=by
 have q:=Oh h;have hr:=FU (g:=g) (S:=S) n e.f;obtain⟨m,hm⟩:∃ m:Nat,dl g S n e.f=m:=⟨(dl g S n e.f).toNat,zy⟩
 rw[hm] at q hr ⊢;simp at q
 have key:0<=dl g S (m+1) e.t/\dl g S (m+1) e.t<=m+1:=by
  have u:=FU (g:=g) (S:=S) (m+1) e.t;refine⟨?_,zy⟩
  rw[dl];split
  .assumption
  .rw [if_pos]
   .omega
   .rw [UC]
    exact⟨e,he,by simp[q]⟩
 have:=Pf (g:=g) (S:=S) (n:=m+1) (m:=n+1) zy key.1
 rw[this];exact key
theorem Nx (h:AH g) (hn:∀ k,Dy g k->dl g S n k≠n):∀ (m:Nat),n<=m -> ∀ k,Dy g k->dl g S m k=dl g S n k/\dl g S m k≠m:=by
 intro m
 induction m with
 | zero =>
   intro hm k hk;obtain rfl:n=0:=zy
   exact⟨rfl,hn k hk⟩
 | succ m ih =>
   intro hm k hk;rcases Ub n (m+1) with h1 | h1
   .have ihm:=ih zy
    have e:dl g S (m+1) k=dl g S m k:=by
     by_cases h2:0<=dl g S m k
     .exact HN h2
     .have hr:=FU (g:=g) (S:=S) m k
      by_cases h3:0<=dl g S (m+1) k
      .obtain ⟨_,e,he,_,h5⟩:=JZ h3 h2
       have hf:=h.fits e he;exact absurd h5 (ihm e.f ⟨hf.1,by have:=hf.2.1;omega⟩).2
      .have q:=FU (g:=g) (S:=S) (m+1) k
       omega
    have hr:=FU (g:=g) (S:=S) m k;rw[e,(ihm k hk).1];refine⟨rfl,?_⟩;rw[(ihm k hk).1] at hr;omega
   .obtain rfl:n=m+1:=zy
    exact⟨rfl,hn k hk⟩
def reach (g:Gr) (S:List Int) (n:Nat):Nat:=(List.range g.size.toNat).countP λ (i:Nat)=>decide (0<=dl g S n (i:Int))
theorem Rz {α:Type} {p q:α->Bool}:∀ {l:List α},(∀ x∈l,p x=true->q x=true)->(∃ x∈l,q x=true/\p x=false)->l.countP p<l.countP q
 | [],_,h=>by obtain⟨_,h,_⟩:=h;simp at h
 | a::l,h1,h2=>by
   have u:l.countP p<=l.countP q:=List.countP_mono_left λ x hx=>h1 x (Qj _ hx);simp only[List.countP_cons];obtain⟨x,hx,hq,hp⟩:=h2;rcases Qu.1 hx with rfl | hx
   .rw [hq,hp]
    simp;omega
   .have ih:=Rz (λ x hx=>h1 x (Qj _ hx)) ⟨x,hx,hq,hp⟩
    have ha:=h1 a Qo
    cases h0:p a<;>cases h3:q a<;>simp_all<;>omega
theorem iZ (hk:Dy g k) (h:dl g S (n+1) k=n+1):reach g S n<reach g S (n+1):=by
 refine Rz (λ i _ hi=>?_) ⟨k.toNat,by simp;have:=hk.1;have:=hk.2;omega,?_,?_⟩
 .simp at hi ⊢
  rw[HN hi];exact hi
 .have e:((k.toNat:Nat):Int)=k:=by have:=hk.1;omega
  simp[e,h];omega
 .have e:((k.toNat:Nat):Int)=k:=by have:=hk.1;omega
  simp only[e,Qb];intro h2;rw[HN h2] at h;have:=FU (g:=g) (S:=S) n k;omega
theorem rQ (h:AH g) (hd:dl g S (n+1) k=n+1):∃ k',Dy g k'/\dl g S n k'=n:=by
 have h2:¬ 0<=dl g S n k:=by
  intro h2;rw[HN h2] at hd;have:=FU (g:=g) (S:=S) n k;omega
 obtain⟨_,e,he,_,h5⟩:=JZ zy h2
 have hf:=h.fits e he;exact⟨e.f,⟨hf.1,by have:=hf.2.1;omega⟩,h5⟩
theorem Tf (h:AH g):∀ {n:Nat} {k:Int},Dy g k->dl g S n k=n->n+1<=reach g S n
 | 0,k,hk,hd=>by
   have:0<reach g S 0:=List.countP_pos_iff.2 ⟨k.toNat,by simp;have:=hk.1;have:=hk.2;omega,by
    have e:((k.toNat:Nat):Int)=k:=by have:=hk.1;omega
    simp[e]
    omega⟩
   omega
 | n+1,k,hk,hd=>by
   have q:dl g S (n+1) k=(n:Int)+1:=by simpa using hd
   obtain⟨k',u,h'⟩:=rQ h q;have:=Tf h u h';have:=iZ hk q;omega
theorem sD (n:Nat):reach g S n<=g.size.toNat:=by
 have:=List.countP_le_length (p:=λ (i:Nat)=>decide (0<=dl g S n (i:Int))) (l:=List.range g.size.toNat)
 simpa [reach] using this
theorem Mk (h:AH g) (hk:Dy g k) (hd:dl g S n k=n):(n:Int)<g.size:=by
 have h1:=Tf h hk hd;have h2:=sD (g:=g) (S:=S) n;omega
def A4 (g:Gr) (S:List Int) (k:Int):Int:=dl g S g.size.toNat k
theorem Yw (h:AH g) (hn:∀ k,Dy g k->dl g S n k≠n) (k:Int) (hk:Dy g k):dl g S n k=A4 g S k:=by
 unfold A4;rcases Nat.le_total n g.size.toNat with h1 | h1
 .exact ((Nx h hn _ h1 k hk).1).symm
 .have hN:∀ k,Dy g k->dl g S g.size.toNat k≠g.size.toNat:=by
   intro k hk hd;have:=Mk h hk hd;omega
  exact(Nx h hN _ h1 k hk).1
theorem Tc (k:Int) : -1<=A4 g S k/\A4 g S k<=g.size.toNat:=FU _ _
theorem Sb (h:AH g) (hk:Dy g k):A4 g S k<g.size∨g.size<=0:=by
 have h1:=Tc (g:=g) (S:=S) k
 by_cases h2:A4 g S k=g.size.toNat
 .have:=Mk h hk h2
  omega
 .have:=hk.1;have:=hk.2;omega
theorem eZ (h:AH g):A4 g S k=0↔Gm g S k=true:=by
 unfold A4;constructor
 .intro hd
  have:=Oh (g:=g) (S:=S) (n:=g.size.toNat) (k:=k) zy
  rw[hd] at this;simp at this;rw[dl] at this;split at this
  .assumption
  .omega
 .intro hs
  have h0:dl g S 0 k=0:=by rw[dl,if_pos hs]
  rw[Pf (Qk _) zy,h0]
theorem cM (h:AH g) {e:Ed} (he:e∈g.edges) (hf:0<=A4 g S e.f):0<=A4 g S e.t/\A4 g S e.t<=A4 g S e.f+1:=by
 have q:=h.fits e he;have h1:=SY (S:=S) he hf
 have hN:∀ k,Dy g k->dl g S g.size.toNat k≠g.size.toNat:=by
  intro k hk hd;have:=Mk h hk hd;omega
 have h2:=(Nx h hN (g.size.toNat+1) zy e.t ⟨q.2.2.1,by have:=q.2.2.2.1;omega⟩).1
 rw[h2] at h1;exact h1
theorem tU (h:AH g) (hd:A4 g S k=(n:Int)+1):∃ e∈g.edges,e.t=k/\A4 g S e.f=n:=by
 have q:=Oh (g:=g) (S:=S) (n:=g.size.toNat) (k:=k) (by show 0<=A4 g S k;omega)
 have u:dl g S g.size.toNat k=(n:Int)+1:=hd;rw[u] at q;have e1:((n:Int)+1).toNat=n+1:=zy
 rw[e1] at q
 have h2:¬ 0<=dl g S n k:=by
  intro h2;rw[HN h2] at q;have:=FU (g:=g) (S:=S) n k;omega
 obtain⟨_,e,he,h4,h5⟩:=JZ zy h2
 refine⟨e,he,h4,?_⟩;have hr:=Tc (g:=g) (S:=S) k;have:A4 g S e.f=dl g S n e.f:=Pf zy zy
 omega
variable {F S:List Int} {d:Nat} {g:Gr}
section
variable {P:Program} {np id:Nat} {h:Nat->Option AD} {K:AV->List Nat->List (Nat × Option AD)->Prop} {f:FuncId} {first aA args aB:List AV} {res:AV}
theorem bE {i:Nat} (sn:List Nat) {e e':AD} {hs':List (Option AD)} (hij:∀ j∈sn,j≠i) (hi:h i=some e) (q:AX [(i,0)] sn h 4 e=e') (hc:CF P f aB [e'] res hs') (h8:hs'.length<=9) (he:(first++args++aA).map (conv [(i,0)] sn h 4)=aB) (hp:Plain res) (u:∀ e,some e∈hs'->GB e) (hk:K (conv (Cb [i] id) [] (λ _=>none) 4 res) (i::sn) ((hs'.zipIdx.map λ (e,k)=>((i::(List.range 8).map (id + ·)).getD k 0,e.map (AX (Cb [i] id) [] (λ _=>none) 4)))++[])):aK P np id .call (.fn (.func f) first aA::args) h K :=
 ⟨[i],sn,false,aB,[e'],res,hs',zz,by simpa using hij,zz,by rw[show [i].zipIdx=[(i,0)] from rfl,he];exact FT _,by rw[show [i].zipIdx=[(i,0)] from rfl];simpa [hi] using q,hc,by simpa using h8,.inr ⟨hp,u⟩,by simpa [Cb] using hk⟩
theorem qU {j:Nat} {e ej:AD} (q:np<=j) (hj:h j=some ej) (hc:CF P f aB [] res [some e]) (he:(first++args++aA).map (conv [] [j] h 4)=aB) (hk:K (conv (Cb [] id) [] (λ _=>none) 4 res) [j] [(id,some (AX (Cb [] id) [] (λ _=>none) 4 e)),(j,some { ej with ro:=ej.rows.length })]):aK P np id .call (.fn (.func f) first aA::args) h K :=
 ⟨[],[j],true,aB,[],res,[some e],zz,zz,by simpa using q,by rw[UO,he];exact FT _,rfl,hc,zz,.inl rfl,by simpa [Cb,hj] using hk⟩
end
theorem jW {l:List Int} {z:Nat}:GB ⟨1,AP l++List.replicate z [AV.I 0],0⟩:=by
 intro row q x hx;simp only[Qm,Ql,List.mem_replicate] at q;rcases q with ⟨y,_,rfl⟩ | ⟨_,rfl⟩
 .simp at hx;subst hx;exact .sc _
 .simp at hx;subst hx;exact .sc _
theorem nQ (g:Gr) (S:List Int) (k:Int) (hS:S.length<=1099511627776) (hg:g.gone.length<=1099511627776):AF 198 [eG g,AA S,.I k] [] (.B (Gm g S k)) []:=by
 refine kT.s.ai ?_;refine ar [1,2,3] [] [16] 16 ?_;refine arc ⟨17,[(6,.B (Gm g S k))],[],16⟩ ?_ ?_
 .simp
  refine Cs 137 rfl ?_;refine Ah (I7 S k zy) rfl ?_
  simp;refine DC (λ hb=>?_) (λ hb=>?_)
  .simp [hb]
   refine Cs 137 rfl ?_;refine Ah (I7 g.gone k zy) rfl ?_
   simp[hb];exact AZ [] (by simp[Gm]<;>exact A0 (by simp_all))
  .simp [hb]
   exact AZ [] (by simp[Gm]<;>exact A0 (by simp_all))
 exact Bg
theorem iH (g:Gr) (S:List Int) (k:Int) (hS:S.length<=1099511627776) (hg:g.gone.length<=1099511627776):AF 197 [.I k,.pv (gC g),.pv [AA S]] [] (.B (Gm g S k)) []:=by
 refine nO.s.ai ?_;refine AB (AT ?_);refine AB (Ay (s:=?s1) rfl ?o1 ?q1)
 case o1=>simp;refine Ah (nQ g S k hS hg) rfl ?_;simp;rfl
 exact Bg
def Dq (D:List Int) (x:Int):Bool:=!decide (0<=x/\x<D.length) || decide (0<=D.getD x.toNat 0)
theorem vL (D:List Int) (x:Int) (hD:D.length<=1000000):AF 200 [.I x,.pv [AA D]] [] (.B (Dq D x)) []:=by
 refine oA.s.ai ?_;have hw:=w6 (x:=(D.length:Int) - 1);refine AB (AT ?_);refine arc ⟨17,[(3,.B (Dq D x))],[],16⟩ ?_ ?_
 .simp [hw]
  refine Cs 33 rfl ?_;refine Ah (Dw ..) rfl ?_;simp
  by_cases hx:0<=x/\x<D.length
  .obtain ⟨k,rfl⟩:∃ k:Nat,x=k:=⟨x.toNat,zy⟩
   have hk:k<D.length:=zy
   have hb:(!decide (0<=(k:Int)) || !decide ((k:Int)<=(D.length:Int) - 1))=false:=zw
   have ho:Dq D k=decide (0<=D[k]):=by
    unfold Dq;rw[QX hx];simp[hk]
   rw[hb,ho];simp[hk];exact AZ [] zz
  .have hb:(!decide (0<=x) || !decide (x<=(D.length:Int) - 1))=true:=zw
   have ho:Dq D x=true:=by
    unfold Dq;rw[QJ hx];rfl
   rw[hb,ho];simp;exact AZ [] zz
 exact Bg
def Du (g:Gr) (S:List Int):List Int:=(List.range g.size.toNat).map λ (i:Nat)=>A4 g S (i:Int)
def Bj (g:Gr) (S:List Int) (d:Nat):List Int:=(List.range g.size.toNat).map λ (i:Nat)=>if 0<=dl g S d i/\dl g S d i<d then dl g S d i else -1
def Bl (g:Gr) (S:List Int) (d:Nat) (F:List Int):List Int:=(List.range g.size.toNat).map λ (i:Nat)=>if 0<=dl g S d i/\dl g S d i<d then dl g S d i else if (i:Int)∈F then (d:Int) else -1
theorem Ph (g:Gr) (S:List Int) (d:Nat):Bl g S d []=Bj g S d:=by
 unfold Bl Bj;simp
theorem vH (d:Nat) (F:List Int) (hF:∀ x,x∈F↔Dy g x/\dl g S d x=d):Bl g S d F=Bj g S (d+1):=by
 unfold Bl Bj;refine Ur λ i hi=>?_;simp at hi;have q:Dy g i:=⟨zy,zy⟩
 have hr:=FU (g:=g) (S:=S) d i;have u:=FU (g:=g) (S:=S) (d+1) i;have hm:(i:Int)∈F↔dl g S d i=d:=by rw[hF];exact⟨λ h=>h.2,λ h=>⟨q,h⟩⟩
 simp only[hm]
 by_cases h0:0<=dl g S d i
 .have e:=HN h0
  rw[e]
  by_cases h1:dl g S d i<d
  .rw [if_pos ⟨h0,h1⟩,if_pos ⟨h0,zy⟩]
  .have h2:dl g S d i=d:=zy
   rw[if_neg zy,if_pos h2,if_pos ⟨h0,zy⟩,h2]
 .rw [if_neg zy,if_neg zy]
  by_cases h3:0<=dl g S (d+1) i
  .have:=(JZ h3 h0).1
   rw[if_neg zy]
  .rw [if_neg zy]
theorem Kq (g:Gr) (S:List Int) (d:Nat) (F:List Int):(Bl g S d F).length=g.size.toNat:=by simp[Bl]
theorem TC (g:Gr) (S:List Int) (d:Nat):(Bj g S d).length=g.size.toNat:=by simp[Bj]
theorem uB {k:Nat} (hk:k<g.size.toNat) (hd:dl g S d k=d):(Bl g S d F)[k]'(by rw[Kq];exact hk)=if (k:Int)∈F then (d:Int) else -1:=by
 unfold Bl;simp only[List.getElem_map,List.getElem_range];rw[if_neg zy]
theorem TT (F:List Int) {i:Nat} (hi:i<g.size.toNat):(Bl g S d F)[i]? = some (if 0<=dl g S d i/\dl g S d i<d then dl g S d i else if (i:Int)∈F then (d:Int) else -1):=by
 simp[Bl,hi]
theorem cP {k:Nat} (hk:k<g.size.toNat) (hd:dl g S d k=d):(Bl g S d F).set k d=Bl g S d (F++[(k:Int)]):=by
 apply List.ext_getElem?;intro i
 by_cases hi:i<g.size.toNat
 .rw [TT _ hi,UE]
  by_cases q:k=i
  .subst q
   rw[if_pos rfl,if_pos (by rw[Kq];exact hk),if_neg zy,if_pos zz]
  .rw [if_neg q,TT _ hi]
   have:(i:Int)∈F++[(k:Int)]↔(i:Int)∈F:=by
    simp;omega
   simp only[this]
 .rw [Q6 (by rw[UG,Kq];omega),Q6 (by rw[Kq];omega)]
theorem XZ {F':List Int} (h:∀ x,x∈F↔x∈F'):Bl g S d F=Bl g S d F':=by
 unfold Bl;simp only[h]
theorem lT {l:List Ed} {x:Int} (hx:x∉F):(l.countP λ e=>decide (e.f∈F++[x]))=(l.countP λ e=>decide (e.f∈F))+(BJ l x).length:=by
 rw[gB]
 induction l with
 | nil=>rfl
 | cons e l ih =>
   have e1:decide (e.f∈F++[x])=(decide (e.f∈F) || decide (e.f=x)):=zz
   simp only[List.countP_cons,ih,e1]
   by_cases h1:e.f∈F<;>by_cases h2:e.f=x
   .rw [h2] at h1;exact absurd h1 hx
   all_goals
    simp only[hx,h1,h2,decide_true,decide_false,Bool.or_true,Bool.or_false,Bool.true_or,Bool.false_or,UP,Uk,UA];omega
variable {d n:Int}
structure A9 where
 seeds:List Int
 table:List Int
 lv:Int
variable {p:A9}
def CI (n:Int) (p:A9):Prop :=
 p.seeds≠[]/\CJ p.seeds 0 (n - 1)/\1<=p.table.length/\p.table.length<=8/\1<=p.lv/\p.lv<=3 /\ ∀ i (h:i<p.table.length),1<=p.table[i]/\p.table[i]<=1000/\(0<i->p.table[i]<=p.table[i - 1])
def Eu (p:A9) (d:Int):Int:=if d<0 then 0 else p.table.getD d.toNat 1
theorem PC (h:d<0):Eu p d=0:=if_pos h
theorem XR (hp:CI n p) (h:0<=d):1<=Eu p d/\Eu p d<=1000:=by
 unfold Eu;rw[if_neg zy]
 by_cases hd:d.toNat<p.table.length
 .rw [Qn,Qc hd,QZ]
  have:=hp.2.2.2.2.2.2 d.toNat hd;omega
 .rw [Qn,Q6 zy,Option.getD_none]
  omega
theorem tV (hp:CI n p):0<Eu p d↔0<=d:=by
 constructor
 .intro h
  refine Decidable.byContradiction λ h1=>?_;rw[PC zy] at h
  omega
 .intro h
  have:=XR hp h;omega
theorem Nk (hp:CI n p) (d:Int):0<=Eu p d/\Eu p d<=1000:=by
 by_cases h:0<=d
 .have:=XR hp h;omega
 .rw [PC zy];omega
def Bk (g:Gr) (p:A9):List Int:=(Du (Ao g p.lv) p.seeds).map (Eu p)
def Df (g:Gr) (p:A9) (c:List Int) (sinks:List Int):List Ed :=
 ((p.seeds.filter λ x=>decide (0<c.getD x.toNat 0)).map λ x=>⟨0,2+2*x,c.getD x.toNat 0⟩)
 ++ ((List.range c.length).filter λ i=>decide (0<c.getD i 0)).map (λ i=>⟨2+2*(i:Int),3+2*(i:Int),c.getD i 0 - 1⟩)
 ++ ((sinks.filter λ x=>decide (0<c.getD x.toNat 0)).map λ x=>⟨2+2*x,1,1⟩)
 ++ (((Ao g p.lv).edges.filter λ e=>decide (0<c.getD e.f.toNat 0)).map λ e=>⟨3+2*e.f,2+2*e.t,64⟩)
structure Gg where
 nodes:Int
 arcs:List Ed
def HL (n:Int) (a:Ed):Prop:=0<=a.f/\a.f<=n - 1/\0<=a.t/\a.t<=n - 1/\a.f≠a.t/\a.t≠0/\a.f≠1/\0<=a.v/\a.v<=1048576
instance (n:Int) (a:Ed):Decidable (HL n a):=by unfold HL;infer_instance
def DS (n:Gg):Prop:=2<=n.nodes/\n.nodes<=130/\n.arcs.length<=1200 /\ ∀ a∈n.arcs,HL n.nodes a
instance (n:Gg):Decidable (DS n):=by unfold DS;infer_instance
def Gv (n:Gg) (side:List Int):Prop:=DS n/\CJ side 0 (n.nodes - 1)/\(0:Int)∈side/\(1:Int)∉side
def CA (arcs:List Ed) (side:List Int):Int:=(arcs.map λ a=>if a.f∈side/\a.t∉side then a.v else 0).sum
def HD (n:Gg) (side:List Int) (most:Int):Prop:=Gv n side/\CA n.arcs side<=most
theorem vZ (arcs:List Ed) (side:List Int) (i:Nat) (h:i<arcs.length):CA (arcs.take (i+1)) side=CA (arcs.take i) side+if arcs[i].f∈side/\arcs[i].t∉side then arcs[i].v else 0:=by
 unfold CA;rw[Qp h,QN,List.sum_append];simp
theorem Wt {n:Int} {side:List Int}:∀ {arcs:List Ed},(∀ a∈arcs,HL n a)->0<=CA arcs side/\CA arcs side<=1048576*arcs.length
 | [],_=>by simp[CA]
 | a::l,h=>by
   have h1:=h a (Qo ..);have h2:=Wt (side:=side) λ x hx=>h x (Qj a hx);have h3:CA (a::l) side=(if a.f∈side/\a.t∉side then a.v else 0)+CA l side:=by simp[CA]
   have h4:0<=(if a.f∈side/\a.t∉side then a.v else 0)/\(if a.f∈side/\a.t∉side then a.v else 0)<=1048576:=by
    split
    .exact ⟨h1.2.2.2.2.2.2.2.1,h1.2.2.2.2.2.2.2.2⟩
    .omega
   rw[h3];simp only[QS];omega
def Az (a:List Int):List Int:=((List.range 64).map Int.ofNat).filter λ x=>decide (x∈a)
theorem JP {a:List Int} {x:Int}:x∈Az a↔x∈a/\0<=x/\x<64:=by
 unfold Az;simp only[QF,Ql,Q1,Qa];constructor
 .rintro ⟨⟨i,hi,rfl⟩,h⟩
  exact⟨h,Int.natCast_nonneg _,by show (i:Int)<64;omega⟩
 .rintro ⟨h,h0,h1⟩
  exact⟨⟨x.toNat,zy,by show ((x.toNat:Nat):Int)=x;omega⟩,h⟩
theorem Lq (a:List Int):(Az a).Pairwise (· < ·):=by
 unfold Az;refine List.Pairwise.filter _ ?_;rw[UM];exact List.pairwise_lt_range.imp λ {a b} h=>by show (a:Int)<(b:Int);omega
theorem HY:∀ {a b:List Int},a.Nodup->(∀ x∈a,x∈b)->a.length<=b.length
 | [],_,_,_=>Qk _
 | x::a,b,hn,hs=>by
   have hx:x∈b:=hs x (Qo ..);rw[Uh] at hn;have hb:=List.perm_cons_erase hx;have u:(b.erase x).length+1=b.length:=by have:=hb.length_eq;simp at this;omega
   have:=HY (b:=b.erase x) hn.2 λ y hy=>by
    have q:y≠x:=λ e=>hn.1 (e ▸ hy);exact(List.mem_erase_of_ne q).2 (hs y (Qj _ hy))
   rw[QS];omega
theorem O2 {a:List Int} (hn:a.Nodup) (hr:∀ k∈a,0<=k/\k<64):E0 a=Az a:=by
 have h1:(Az a).Nodup:=(Lq a).imp λ {x y} h=>zy
 have h2:a.Perm (Az a):=MY hn (λ x hx=>JP.2 ⟨hx,hr x hx⟩) (HY h1 λ x hx=>(JP.1 hx).1);exact List.Perm.eq_of_pairwise (le:=(· <= ·)) (λ x y _ _ h1 h2=>zy) (ND a) ((Lq a).imp λ {x y} h=>zy) ((JB a).trans h2)
def DI (s:BS):Int:=if s.2 then -((s.1:Int)+1) else (s.1:Int)+1
def Fo (v:Int):BS:=if 0<v then ((v - 1).toNat,false) else ((-v - 1).toNat,true)
theorem Rt (s:BS):Fo (DI s)=s:=by
 obtain⟨i,b⟩:=s;unfold Fo DI
 cases b
 .simp only[Uk,UA]
  rw[if_pos zy]
  congr 1
  omega
 .simp only[UP]
  rw[if_neg zy]
  congr 1
  omega
theorem Y7 (s:BS):DI s≠0:=by unfold DI;split<;>omega
structure DK (N:Nat) (A:List Ed) (f D b:List Int):Prop where
 tree:Ik A f D λ x=>Fo (b.getD x.toNat 0)
 rng:∀ x∈D,0<=x/\x<N
 len:b.length=N
 zero:b.getD 0 0=0
 out:∀ x:Int,0<=x->x∉D->b.getD x.toNat 0=0
 inn:∀ x∈D,x≠0->b.getD x.toNat 0≠0
def Ig (A:List Ed) (f D:List Int) (m:Nat):Prop:=∀ s:BS,s.1<A.length->C7 A s∈D.take m->0<Ci A f s->BA A s∈D
def Vi (A:List Ed) (f D:List Int) (k:Int) (i:Nat):Prop:=∀ s:BS,s.1<i->C7 A s=k->0<Ci A f s->BA A s∈D
variable {N:Nat} {A:List Ed} {f D b:List Int}
theorem DK.start (hN:0<N):DK N A f [0] (List.replicate N 0):=by
 have h0:∀ i,(List.replicate N (0:Int)).getD i 0=0:=λ i=>by
  rw[Qn,List.getElem?_replicate];split<;>rfl
 exact⟨⟨rfl,zz,λ j h hj=>by simp at h;omega⟩,λ x hx=>by simp at hx;omega,zz,h0 0,λ x _ _=>h0 _,λ x hx hn=>absurd (by simpa using hx) hn⟩
theorem DK.mem0 (h:DK N A f D b):(0:Int)∈D:=List.mem_of_mem_head? (by rw[h.tree.zero];rfl)
theorem DK.push (h:DK N A f D b) {s:BS} (hs:s.1<A.length) (hF:C7 A s∈D) (hr:0<Ci A f s) (hT:BA A s∉D) (h0:0<=BA A s) (h1:BA A s<N):DK N A f (D++[BA A s]) (b.set (BA A s).toNat (DI s)):=by
 have hb:(BA A s).toNat<b.length:=by rw[h.len];omega
 have u:∀ x:Int,0<=x->x≠BA A s->(b.set (BA A s).toNat (DI s)).getD x.toNat 0=b.getD x.toNat 0:=λ x hx q=>by
  rw[Qn,List.getElem?_set_ne zy,Qn]
 have heq:(b.set (BA A s).toNat (DI s)).getD (BA A s).toNat 0=DI s:=by
  rw[Qn,List.getElem?_set_self hb,QZ]
 have h5:BA A s≠0:=λ e=>hT (e ▸ h.mem0);refine⟨⟨?_,?_,λ j hj hj0=>?_⟩,λ x hx=>?_,by rw[UG];exact h.len,?_,λ x hx q=>?_,λ x hx q=>?_⟩
 .rw [List.head?_append,h.tree.zero]
  rfl
 .rw [Uf]
  exact⟨h.tree.nodup,zz,λ a ha c hc=>by rw[Qv] at hc;subst hc;rintro rfl;exact hT ha⟩
 .rw [Qe,Q8] at hj
  by_cases h3:j<D.length
  .have hm:=Qi h3
   have hx:D[j]≠BA A s:=λ e=>hT (e ▸ hm);simp only[Q5 h3];rw[u _ (h.rng _ hm).1 hx];obtain⟨q1,q2,q3,q4⟩:=h.tree.step j h3 hj0;refine⟨q1,q2,?_,q4⟩;rw[Q3 zy]
   exact q3
  .obtain rfl:j=D.length:=zy
   have e:(D++[BA A s])[D.length]' zz=BA A s:=zz
   simp only[e];rw[heq,Rt];refine⟨hs,rfl,?_,hr⟩;rw[Q3 (Qf _),Ua];exact hF
 .rcases Qm.1 hx with h2 | h2
  .exact h.rng x h2
  .rw [Qv] at h2
   subst h2;exact⟨h0,h1⟩
 .have:=u 0 (Int.le_refl _) (Ne.symm h5)
  simp only[Int.toNat_zero] at this;rw[this];exact h.zero
 .rw [Qm,Qv,not_or] at q
  rw[u x hx q.2];exact h.out x hx q.1
 .by_cases h4:x=BA A s
  .subst h4
   rw[heq];exact Y7 s
  .rcases Qm.1 hx with h2 | h2
   .rw [u x (h.rng x h2).1 h4]
    exact h.inn x h2 q
   .exact absurd (Qv.1 h2) h4
theorem DK.few (h:DK N A f D b):D.length<=N:=by
 have:=HY (b:=(List.range N).map λ i:Nat=>(i:Int)) h.tree.nodup λ x hx=>by
  have:=h.rng x hx;exact Ql.2 ⟨x.toNat,Q1.2 zy,zy⟩
 simpa using this
theorem Ig.next {m:Nat} (hm:m<D.length) {D':List Int} (h:Ig A f D m) (hi:Vi A f D' D[m] A.length) {l:List Int} (hD:D'=D++l):Ig A f D' (m+1):=by
 subst hD;intro s hs hF hr;rw[Q3 zy,Qp hm] at hF
 rcases Qm.1 hF with h1 | h1
 .exact Q4 _ (h s hs h1 hr)
 .exact hi s hs (Qv.1 h1) hr
theorem Ig.all (h:Ig A f D D.length):Hy A f D:=λ s hs hF hr=>h s hs (by rw[Ua];exact hF) hr
end Go.Proofs.YtkabgnlcllmleaaGreat
