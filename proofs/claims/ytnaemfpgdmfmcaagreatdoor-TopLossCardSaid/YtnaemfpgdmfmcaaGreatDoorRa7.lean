/- Texts of this claim,merged. -/
import Derived.Test.YtnaemfpgdmfmcaaGreatDoorRa6
import Derived.Test.YtnaemfpgdmfmcaaGreatDoorRa5
import Derived.Test.YtnaemfpgdmfmcaaGreatDoorRa3
import Derived.Test.YtnaemfpgdmfmcaaGreatDoorRa4
import Derived.Shelf.SlIterI.Collect
import Derived.RangeFuncLeaves
import Derived.Shelf.Strings.Builder1
import Derived.Shelf.Strconv.Itoa3
import Derived.Test.YtnaemfpgdmfmcaaGreatDoorProg
import Derived.LoopNIn
import Derived.Test.YtnaemfpgdmfmcaaGreatDoorTie
import Derived.Test.YtnaemfpgdmfmcaaGreatDoorCards
import Derived.ProofKit
import Derived.OpenShut
import Derived.LaidMore
import Derived.Lay
import Derived.SevenTiedAt
import Derived.Stop.Joined
set_option linter.unusedSimpArgs false
set_option linter.unusedVariables false
set_option linter.unusedSectionVars false
set_option maxRecDepth 100000
set_option maxHeartbeats 8000000
noncomputable section
namespace Go.Proofs.YtnaemfpgdmfmcaaGreatDoor
open Go
variable {K:AV->List Nat->List (Nat × Option AD)->Prop} {f:FuncId} {h:Nat->Option AD} {np:Nat} {rd:List Nat} {up:List (Nat × Option AD)} {v:AV} {xs:List AV} {α:Type}
section
variable {β:Type}
theorem HG (n:Nat) (k:Nat->β):Ci n k=k n:=by cases n<;>rfl
theorem nQ (n:Int) (k:Int->β):Oi n k=k n:=by
 cases n<;>(unfold Oi;exact HG _ _)
theorem l6 (v:Value) (k:Value->β):PS v k=k v:=by
 unfold PS;split
 .exact nQ _ _
 .rename_i b;cases b<;>rfl
 .rfl
theorem Ey {α:Type} {f:α->(α->β)->β} (hf:∀ x k,f x k=k x):∀ (l:List α) (k:List α->β),DL f l k=k l
 | [],k=>rfl
 | x::xs,k=>by
   show f x (λ x=>DL f xs λ xs=>k (x::xs))=_;rw[hf,Ey hf xs]
theorem aP (d:Bool) {ih:AV->(AV->β)->β} (h:∀ x k,ih x k=k x) (x:AV) (k:AV->β):NY d ih x k=k x:=by
 unfold NY;split<;>(try split)<;>simp only[HG,l6,Ey h,h,Ey (Ey h)]
theorem I8 (d:Bool):∀ (n:Nat) (x:AV) (k:AV->β),Iz d n x k=k x
 | 0,_,_=>rfl
 | n+1,x,k=>aP d (I8 d n) x k
theorem NJ (d:Bool) (e:AD) (k:AD->β):KV d e k=k e:=by
 obtain⟨s,rows,ro⟩:=e;simp only[KV,HG,Ey (Ey (I8 d 5))]
theorem Xy (d:Bool) (p:Nat × Option AD) (k:Nat × Option AD->β):MA d p k=k p:=by
 obtain⟨i,e⟩:=p
 cases e<;>simp only[MA,HG,NJ]
end
theorem GL {i j:Nat}:Nat.beq i j=decide (i=j):=by
 cases h:Nat.beq i j with
 | true=>rw[Q8 (Uy h)]
 | false=>rw[Ur (Nat.ne_of_beq_eq_false h)]
theorem MM {α:Type}:∀ (l:List (Nat × α)) (j:Nat),La l j=AQ l j
 | [],_=>rfl
 | (i,x)::l,j=>by
   show Bool.rec (motive:=λ _=>Option α) (La l j) (some x) (Nat.beq i j)=_;rw[MM l j,GL,AQ]
   by_cases h:i=j
   .rw [Q8 h,if_pos h]
   .rw [Ur h,if_neg h]
theorem vV (o:Option (Option α)):Yc o=o.getD none:=by cases o<;>rfl
theorem VP (h:List (Nat × Option AD)) (id:Nat):Kh h id=(AQ h id).getD none:=by
 unfold Kh;rw[MM,vV]
theorem Hs (v:AV) (l r:TS) (i:Nat):Bp (.nd v l r) (i+1)=if i % 2=0 then Bp l (i / 2) else Bp r (i / 2):=by
 show Bool.rec (motive:=λ _=>AV) (Bp r (i / 2)) (Bp l (i / 2)) (Nat.beq (i % 2) 0)=_;rw[GL]
 by_cases h:i % 2=0
 .rw [Q8 h,if_pos h]
 .rw [Ur h,if_neg h]
theorem Lq {γ:Type} (v:AV):∀ (t:TS) (i:Nat),(∃ t',(∀ k:TS->Option γ,DY v t i k=k t') /\ ∀ j,Bp t' j=if i=j then v else Bp t j) ∨ ∀ k:TS->Option γ,DY v t i k=none
 | .lf,_=>.inr λ _=>rfl
 | .nd x l r,0=>.inl ⟨.nd v l r,λ _=>rfl,λ j=>by
   cases j with
   | zero=>rfl
   | succ j=>rw[if_neg zy,Hs,Hs]⟩
 | .nd x l r,i+1=>by
   have hu:∀ k:TS->Option γ,DY v (.nd x l r) (i+1) k=Bool.rec (motive:=λ _=>Option γ) (DY v r (i / 2) λ tr'=>k (.nd x l tr')) (DY v l (i / 2) λ tl'=>k (.nd x tl' r)) (Nat.beq (i % 2) 0):=λ _=>rfl
   by_cases h:i % 2=0
   .rcases Lq (γ:=γ) v l (i / 2) with ⟨t',h1,h2⟩ | h1
    .refine .inl ⟨.nd x t' r,λ k=>by rw[hu,GL,Q8 h];exact h1 _,λ j=>?_⟩
     cases j with
     | zero=>rw[if_neg zy];rfl
     | succ j =>
       rw[Hs,Hs,h2]
       by_cases hj:j % 2=0
       .rw [if_pos hj,if_pos hj]
        by_cases he:i=j
        .subst he;rw[if_pos rfl,if_pos rfl]
        .rw [if_neg zy,if_neg zy]
       .rw [if_neg hj,if_neg hj,if_neg zy]
    .exact .inr λ k=>by rw[hu,GL,Q8 h];exact h1 _
   .rcases Lq (γ:=γ) v r (i / 2) with ⟨t',h1,h2⟩ | h1
    .refine .inl ⟨.nd x l t',λ k=>by rw[hu,GL,Ur h];exact h1 _,λ j=>?_⟩
     cases j with
     | zero=>rw[if_neg zy];rfl
     | succ j =>
       rw[Hs,Hs,h2]
       by_cases hj:j % 2=0
       .rw [if_pos hj,if_pos hj,if_neg zy]
       .rw [if_neg hj,if_neg hj]
        by_cases he:i=j
        .subst he;rw[if_pos rfl,if_pos rfl]
        .rw [if_neg zy,if_neg zy]
    .exact .inr λ k=>by rw[hu,GL,Ur h];exact h1 _
theorem XH:∀ (n i:Nat),Bp (KT n) i = .dead
 | 0,_=>rfl
 | n+1,0=>rfl
 | n+1,i+1=>by
   have hu:KT (n+1) = .nd .dead (KT n) (KT n):=rfl;rw[hu,Hs,XH,ite_self]
theorem WL {γ:Type}:∀ (xs:List AV) (i:Nat) (t:TS) (k:TS->Option γ) (r:γ),HY xs i t k=some r -> ∃ t',k t'=some r /\ ∀ j,Bp t' j=if i<=j/\j<i+xs.length then xs.getD (j - i) .dead else Bp t j
 | [],i,t,k,r,h=>⟨t,h,λ j=>by rw[if_neg zz]⟩
 | x::xs,i,t,k,r,h=>by
   have h:DY x t i (λ t'=>HY xs (i+1) t' k)=some r:=h;rcases Lq (γ:=γ) x t i with ⟨t1,h1,h2⟩ | h1
   .rw [h1] at h
    obtain⟨t2,h3,h4⟩:=WL xs (i+1) t1 k r h;refine⟨t2,h3,λ j=>?_⟩;rw[h4,h2];simp only[QV]
    by_cases hj:i=j
    .subst hj
     rw[if_neg zy,if_pos rfl,if_pos zy,Nat.sub_self]
     rfl
    .by_cases hr:i<=j/\j<i+(xs.length+1)
     .rw [if_pos zy,if_pos hr,show j - i=(j - (i+1))+1 by omega]
      rfl
     .rw [if_neg zy,if_neg hj,if_neg hr]
   .rw [h1] at h
    cases h
theorem Og (i:Nat):∀ (l:List (Nat × Option AD)),∃ l',(∀ k,Ef i l k=k l') /\ ∀ j,AQ l' j=if j=i then none else AQ l j
 | []=>⟨[],λ _=>rfl,λ j=>by simp[AQ]⟩
 | (j,e)::l=>by
   obtain⟨l',h1,h2⟩:=Og i l;have hu:∀ k,Ef i ((j,e)::l) k=Bool.rec (motive:=λ _=>Rr) (Ef i l λ l'=>k ((j,e)::l')) (Ef i l k) (Nat.beq j i):=λ _=>rfl
   by_cases hj:j=i
   .refine ⟨l',λ k=>by rw[hu,GL,Q8 hj];exact h1 k,λ j'=>?_⟩
    rw[h2]
    by_cases q:j'=i
    .simp [q]
    .have:j≠j':=λ e=>q (e ▸ hj)
     simp[q,AQ,this]
   .refine ⟨(j,e)::l',λ k=>by rw[hu,GL,Ur hj];exact h1 _,λ j'=>?_⟩
    simp only[AQ]
    by_cases q:j=j'
    .subst q;simp[hj]
    .simp [q,h2]
theorem Ob:∀ (up h:List (Nat × Option AD)),∃ h',(∀ k,GW up h k=k h') /\ ∀ id,(AQ h' id).getD none=(AQ (up++h) id).getD none
 | [],h=>⟨h,λ _=>rfl,λ _=>rfl⟩
 | (i,none)::up,h=>by
   obtain⟨h1,q1,q2⟩:=Ob up h;obtain⟨h2,r1,r2⟩:=Og i h1;refine⟨h2,λ k=>by show GW up h (λ h=>Ef i h (IK (i,none) k))=_;rw[q1,r1];rfl,λ id=>?_⟩
   rw[r2,Q6,AQ]
   by_cases hi:i=id
   .subst hi;simp
   .rw [if_neg (λ e=>hi e.symm),if_neg hi,q2]
 | (i,some e)::up,h=>by
   obtain⟨h1,q1,q2⟩:=Ob up h;obtain⟨h2,r1,r2⟩:=Og i h1;refine⟨(i,some e)::h2,λ k=>by show GW up h (λ h=>Ef i h (IK (i,some e) k))=_;rw[q1,r1];rfl,λ id=>?_⟩
   rw[Q6,AQ,AQ]
   by_cases hi:i=id
   .subst hi;simp
   .rw [if_neg hi,if_neg hi,r2,if_neg (λ e=>hi e.symm),q2]
theorem Ss (t:TS):∀ xs:List DB,H5 t xs=xs.map (·.ev (Bp t))
 | []=>rfl
 | x::xs=>by
   show x.ev (Bp t)::H5 t xs=_;rw[Ss t xs];rfl
theorem RJ:∀ xs:List AV,LK xs=true -> ∀ x∈xs,∃ v,x = .sc v
 | [],_,x,hx=>(Ua hx).elim
 | y::xs,h,x,hx=>by
   have hu:LK (y::xs)=Bool.rec (motive:=λ _=>Bool) false (LK xs) (Kr y):=rfl;rw[hu] at h
   cases hy:Kr y with
   | false=>rw[hy] at h;cases h
   | true =>
     rw[hy] at h;rcases Qw.1 hx with rfl | hx
     .unfold Kr at hy
      split at hy
      .exact ⟨_,rfl⟩
      .cases hy
     .exact RJ xs h x hx
theorem W8 (k:IntKind):CP k=2 ^ k.bits:=by cases k<;>rfl
theorem dP (k:IntKind):EL k=2 ^ (k.bits - 1):=by cases k<;>rfl
theorem Xu (k:IntKind):CP k=2*EL k/\0<EL k:=by cases k<;>exact⟨rfl,zx⟩
theorem Sb (k:IntKind) (n:Int):(Cq k n:Int)=n % ((2 ^ k.bits:Nat):Int):=by
 have h0:0<CP k:=by have:=Xu k;omega
 rw[<- W8]
 cases n with
 | ofNat m=>simp[Cq]
 | negSucc m =>
   simp only[Cq];generalize hM:CP k=M at *;have h1:=Nat.div_add_mod m M;have h2:=Nat.mod_lt m h0
   have h3:Int.negSucc m=((M - 1 - m % M:Nat):Int)+(M:Int)*(-((m / M:Nat):Int) - 1):=by
    rw[Int.negSucc_eq];have h4:((M - 1 - m % M:Nat):Int)=(M:Int) - 1 - ((m % M:Nat):Int):=zy
    have h5:(m:Int)=(M:Int)*((m / M:Nat):Int)+((m % M:Nat):Int):=by exact_mod_cast h1.symm
    rw[h4,h5,Int.mul_sub,Int.mul_neg];have h6:((M*(m / M)+m % M:Nat):Int)=(m:Int):=by exact_mod_cast h1
    omega
   rw[h3,Int.add_mul_emod_self_left,Int.emod_eq_of_lt zy zy]
theorem eW (k:IntKind) (r:Nat) (hr:r<CP k):FI k.signed (CP k) (EL k) r=if k.signed && decide ((r:Int)≥(2 ^ (k.bits - 1):Int)) then (r:Int) - (2 ^ k.bits:Int) else r:=by
 have e1:(2 ^ k.bits:Int)=((CP k:Nat):Int):=by rw[W8];norm_cast
 have e2:(2 ^ (k.bits - 1):Int)=((EL k:Nat):Int):=by rw[dP];norm_cast
 rw[e1,e2];unfold FI
 have e3:(decide ((r:Int)≥((EL k:Nat):Int)))=Nat.ble (EL k) r:=by
  rw[Qv,Qf,Nat.ble_eq];omega
 rw[e3]
 cases hc:(k.signed && Nat.ble (EL k) r) with
 | true =>
   simp only[cond_true,UM];rw[Int.negSucc_eq];omega
 | false=>simp
theorem K9 (k:IntKind) (n:Int):Fo k n=k.wrap n:=by
 have h2:=Xu k;have e1:(2 ^ k.bits:Int)=((2 ^ k.bits:Nat):Int):=by norm_cast
 have q:Cq k n<CP k:=by cases n<;>simp only[Cq]<;>first | exact Nat.mod_lt _ zy | omega
 have main:FI k.signed (CP k) (EL k) (Cq k n)=k.wrap n:=by
  rw[eW k _ q];unfold IntKind.wrap;simp only;rw[Sb,<- e1]
 rw[<- main]
 cases n with
 | ofNat m =>
   simp only[Fo,Cq]
   cases hb:Nat.blt m (EL k) with
   | true =>
     have hm:m<EL k:=by simpa [Nat.blt_eq] using hb
     rw[cond_true,Nat.mod_eq_of_lt zy]
     unfold FI
     have:Nat.ble (EL k) m=false:=by
      cases h:Nat.ble (EL k) m with
      | false=>rfl
      | true=>have:=Bf h;omega
     rw[this,Bool.and_false,cond_false]
   | false=>rfl
 | negSucc m=>rfl
theorem VQ (n:Nat):(2:Int) ^ n=Int.ofNat (Nat.pow 2 n):=by
 show (2:Int) ^ n=((2 ^ n:Nat):Int)
 norm_cast
theorem R5 {k k':IntKind}:Nat.beq (kN k) (kN k')=decide (k=k'):=by cases k<;>cases k'<;>rfl
theorem M6 (a b:Int):Hr a b=decide (a<b):=by
 unfold Hr
 cases a<;>cases b<;>simp only<;>rw[Qv]<;>simp[Nat.blt_eq]<;>omega
theorem WK (a b:Int):J2 a b=(a == b):=by
 unfold J2
 cases a<;>cases b<;>simp only[GL]<;>rw[Qv]<;>simp<;>omega
theorem TM (m n:Nat):Fy m n=min m n:=by
 unfold Fy
 cases h:Nat.ble m n with
 | true=>have:=Bf h;rw[cond_true];omega
 | false =>
   have:¬ m<=n:=λ h2=>by rw[Nat.ble_eq_true_of_le h2] at h;cases h
   rw[cond_false];omega
theorem Zp (k k':IntKind) (a b:Int):Gl k a b=Ae .shl (.int k a) (.int k' b):=by
 unfold Gl
 cases b with
 | ofNat n=>simp only[Ae,K9,VQ,TM];simp
 | negSucc n=>simp only[Ae];rw[if_neg zy]
theorem S4 (k k':IntKind) (a b:Int):Ge k a b=Ae .shr (.int k a) (.int k' b):=by
 unfold Ge
 cases b with
 | ofNat n =>
   simp only[Ae,VQ,TM];rw[if_pos zz]
   cases a with
   | ofNat m =>
     have h:∀ q:Nat,(Int.ofNat m).fdiv (Int.ofNat q)=Int.ofNat (m / q):=λ q=>(Int.ofNat_fdiv m q).symm;simp only[h];rfl
   | negSucc m=>rfl
 | negSucc n=>simp only[Ae];rw[if_neg zy]
theorem sV (k:IntKind) (a b:Int):Hi k a b=Ae .quo (.int k a) (.int k b):=by
 unfold Hi;split
 .simp only[Ae,UM,K9]
  rw[if_neg zw]
  cases a<;>rfl
 .rfl
theorem oR (k:IntKind) (a b:Int):HW k a b=Ae .rem (.int k a) (.int k b):=by
 unfold HW;split
 .simp only[Ae,UM]
  rw[if_neg zw]
  cases a<;>rfl
 .rfl
theorem kB (op:BinOp) (k:IntKind) (a b:Int):IE op k a b=Ae op (.int k a) (.int k b):=by
 have hb:∀ z:Int,(BitVec.ofInt k.bits z).toNat=Cq k z:=λ z=>by
  have h1:=BitVec.toNat_ofInt (n:=k.bits) z;rw[h1];have h2:=Sb k z;omega
 unfold IE
 cases op<;>simp only[Zp k k,S4 k k,sV,oR]<;>(try rfl)
 all_goals simp only[Ae,UM,K9,M6,WK]
 all_goals first
  | rfl
  | (simp only[BitVec.toNat_and,BitVec.toNat_or,BitVec.toNat_xor,hb];rfl)
  | (congr 2;rw[Qv];simp)
  | (congr 2;rw[Qv];simp;done)
theorem lP (op:BinOp) (x y:Value):IF op x y=Ae op x y:=by
 unfold IF;split
 .rename_i k a
  split
  .rename_i k' b
   rw[R5]
   by_cases h:k=k'
   .subst h
    rw[Q8 rfl,cond_true,kB]
   .rw [Ur h,cond_false]
    unfold JC;split
    .exact Zp _ _ _ _
    .exact S4 _ _ _ _
    .rfl
  .rfl
 .rfl
theorem Ot:∀ (n:Nat) (x:AV),HP n x=true->Plain x
 | 0,_,h=>by cases h
 | n+1,x,h=>by
   have ih:=Ot n
   have hl:∀ xs:List AV,xs.all (HP n)=true -> ∀ i:Nat,Plain (xs.getD i .dead):=by
    intro xs hx i;simp only[List.getD]
    cases hi:xs[i]? with
    | none=>exact .dead
    | some y=>exact ih y (UA.1 hx y (QX hi))
   unfold HP at h;split at h
   .exact .dead
   .exact .sc _
   .exact .agg _ (hl _ h)
   .exact .tup _ (hl _ h)
   .exact .rs _ _ _
   .exact .pt _ _ _
   .exact .mp _
   .exact .it _
   .cases h
theorem C7.self:∀ xs:List AV,C7 xs xs
 | []=>trivial
 | x::xs=>⟨.refl x,C7.self xs⟩
theorem Mp:∀ l:List Nat,JO l=true->l.Nodup
 | [],_=>List.nodup_nil
 | i::is,h=>by
   simp only[JO,QD,UO,List.contains_eq_mem,Qd] at h;exact Q1.2 ⟨h.1,Mp is h.2⟩
theorem YY:∀ (l:List (Option AD)) (es:List AD),MC l=some es->l=es.map some
 | [],es,h=>by cases h;rfl
 | none::_,_,h=>by cases h
 | some e::l,es,h=>by
   unfold MC at h;split at h
   .rename_i es' h';cases h;rw[Qp,<- YY l es' h']
   .cases h
section
variable {P:Program} {sp:List FuncId} {cf:FuncId->List AV->List AD->Option (AV × List (Option AD))} (aA:∀ f a b r c,cf f a b=some (r,c)->Bz P f a b r c)
include aA
def MF (P:Program) (np id:Nat) (h:Nat->Option AD) (f:FuncId) (xs:List AV) (K:AV->List Nat->List (Nat × Option AD)->Prop):Prop :=
    ∃ (ids sn:List Nat) (raise:Bool) (args':List AV) (hs:List AD) (res:AV) (hs':List (Option AD)),
      ids.Nodup/\(∀ i∈sn,i∉ids)/\(raise=true -> ∀ i∈sn,np<=i)/\C7 (xs.map (conv ids.zipIdx sn h 4)) args' /\
      ids.map (λ i=>(h i).map (Ab ids.zipIdx sn h 4))=hs.map some/\Bz P f args' hs res hs'/\hs'.length<=hs.length+8 /\
      (raise=true∨(Plain res /\ ∀ e,some e∈hs'->GP e)) /\
      K (conv ((ids++(List.range 8).map (id + ·)).zipIdx.map λ (a,b)=>(b,a)) [] (λ _=>none) 4 res) (ids++sn)
        ((hs'.zipIdx.map λ (e,k)=>((ids++(List.range 8).map (id + ·)).getD k 0,e.map (Ab ((ids++(List.range 8).map (id + ·)).zipIdx.map λ (a,b)=>(b,a)) [] (λ _=>none) 4))) ++
         (if raise then sn.filterMap (λ i=>(h i).map λ e=>(i,some { e with ro:=e.rows.length })) else []))
omit aA in
theorem Vk {np h2 id:Nat} {h h':Nat->Option AD} {f:FuncId} {xs:List AV} {v:AV} {rd:List Nat} {up:List (Nat × Option AD)} {u sn:List Nat} {q:Bool} {args':List AV} {hs:List AD} {res:AV} {hs':List (Option AD)}
  (h5:C7 (xs.map (conv u.zipIdx sn h 4)) args') (h3:u.map (λ i=>(h i).map (Ab u.zipIdx sn h 4))=hs.map some) (hc:Bz P f args' hs res hs') (hpl:q=true∨(Plain res /\ ∀ e,some e∈hs'->GP e))
  (e:Kl u sn h2 id hs.length h' res hs' q=some (v,rd,up)) (h4:sn=[]∨(h2=np/\h'=h)) {K:AV->List Nat->List (Nat × Option AD)->Prop} (hk:K v rd up):MF P np id h f xs K:=by
 unfold Kl at e
 cases h0:Oj u sn h2 hs.length q hs' with
 | false=>rw[h0] at e;cases e
 | true =>
   rw[h0] at e;simp only[cond_true,Qq,Prod.mk.injEq] at e;obtain⟨rfl,rfl,rfl⟩:=e;unfold Oj at h0;simp only[QD,UY,UO,Nat.ble_eq,UA,List.contains_eq_mem,Qd] at h0;obtain⟨c1,c2,c3,c4⟩:=h0;refine⟨u,sn,q,args',hs,res,hs',Mp _ c1,c2,λ hr i hi=>?_,h5,h3,hc,c4,hpl,?_⟩
   .rcases h4 with rfl | ⟨rfl,_⟩
    .exact (Ua hi).elim
    .rcases c3 with h1 | h1
     .rw [hr] at h1;cases h1
     .exact h1 i hi
   .rcases h4 with rfl | ⟨_,rfl⟩
    .have:LR u [] id h' q hs'=LR u [] id h q hs':=by unfold LR;simp
     rw[this] at hk;exact hk
    .exact hk
theorem OJ {id:Nat} {u:Bool} {h3 sn:List Nat} (e:KX cf np id h f xs u h3 sn=some (v,rd,up)) (hk:K v rd up):MF P np id h f xs K:=by
 unfold KX at e;rw[Ey (I8 _ 6)] at e;split at e
 .cases e
 rename_i h4 h0;rw[Ey (NJ _)] at e;unfold Rg at e;split at e
 .cases e
 rename_i res hs' q;refine Vk (C7.self _) (YY _ _ h0) (aA _ _ _ _ _ q) ?_ e (.inr ⟨rfl,rfl⟩) hk;split
 .exact .inl rfl
 .cases hs:(!(HP 5 res && hs'.all YC)) with
  | true=>exact .inl rfl
  | false =>
    right
    simp only[Bool.not_eq_false',QD] at hs;refine⟨Ot _ _ hs.1,λ e he row h2 x hx=>?_⟩;have h1:=UA.1 hs.2 _ he;exact Ot _ _ (UA.1 (UA.1 h1 row h2) x hx)
theorem Xb {id:Nat} (e:Lb sp cf np id h f xs=some (v,rd,up)) (hk:K v rd up):MF P np id h f xs K:=by
 unfold Lb at e;split at e
 .rename_i u
  have hx:xs.map (conv ([]:List Nat).zipIdx [] h 4)=xs:=by
   have:xs.map (conv ([]:List Nat).zipIdx [] h 4)=xs.map (λ x=>x):=Q7 λ x hx=>by
    obtain⟨v,rfl⟩:=RJ xs u x hx;rfl
   rw[this,List.map_id']
  unfold VS at e;split at e
  .rename_i v0 q
   cases e;exact⟨[],[],true,xs,[],.sc v0,[],List.nodup_nil,zz,zz,by rw[hx];exact C7.self _,rfl,aA _ _ _ _ _ q,zz,.inl rfl,by simpa [conv] using hk⟩
  .rename_i res hs' _ q
   exact Vk (hs:=[]) (by rw[hx];exact C7.self _) rfl (aA _ _ _ _ _ q) (.inl rfl) e (.inl rfl) hk
  .cases e
 .simp only[Ey (HG (β:=BI))] at e
  split at e
  .exact OJ aA e hk
  .split at e
   .exact OJ aA e hk
   .exact OJ aA e hk
omit aA in
theorem i7 {lo hi:Bool} {n l r:Nat} {bs:List AV} (h:Nf lo hi n bs=some (l,r)):bs=(if lo then [AV.I l] else [])++(if hi then [AV.I r] else [])/\(lo=false->l=0)/\(hi=false->r=n):=by
 unfold Nf at h;split at h
 .cases h;simp
 .split at h
  .rename_i hp;cases h;simp[Int.toNat_of_nonneg hp]
  .cases h
 .split at h
  .rename_i hp;cases h;simp[Int.toNat_of_nonneg hp]
  .cases h
 .split at h
  .rename_i hp;cases h;simp[Int.toNat_of_nonneg hp.1,Int.toNat_of_nonneg hp.2]
  .cases h
 .cases h
theorem RQ {id:Nat} {op:ER} (e:NN sp cf np id h op xs=some (v,rd,up)) (hk:K v rd up):aK P np id op xs h K:=by
 cases op<;>simp only[NN] at e
 case app s b =>
  unfold Sd at e;split at e
  .rename_i x y
   split at e
   .cases e
   .rename_i x hx
    rw[IZ (λ ⟨i,o,l,c,e⟩=>hx i o l c e)];split at e
    .rename_i new h0
     split at e
     .rename_i old h3
      split at e
      .rename_i hc
       cases e;exact⟨new,old,h0,h3,hc.1,hc.2,hk⟩
      .cases e
     .cases e
    .cases e
  .cases e
 case slc s lo hi mx =>
  cases mx with
  | true=>simp only at e;cases e
  | false =>
    simp only at e;unfold WE at e;split at e
    rotate_left
    .cases e
    unfold aK
    dsimp only
    split at e
    .cases e
    rename_i n hn;split at e
    .cases e
    rename_i l r h4;obtain⟨c1,c2,c3⟩:=i7 h4;split at e
    .rename_i hc
     refine⟨l,r,0,n,hn,hc.1,by simpa using c1,c2,c3,λ h=>(by cases h),?_⟩
     unfold SN at e;split at e
     .split at e
      .rename_i hs
       cases e;refine⟨hc.2,λ h=>(by cases h),hs,?_⟩
       simpa using hk
      .cases e
     .split at e
      .rename_i e0 u
       split at e
       .rename_i hs;cases e;exact⟨hc.2,rfl,⟨_,u,hs⟩,hk⟩
       .cases e
      .cases e
     .cases e;exact⟨hc.2,λ h=>(by cases h),hk⟩
     .cases e
    .cases e
 all_goals first
  | (cases e;done)
  | delta Kb at e | delta YK at e | delta ZE at e | delta ZD at e | delta XF at e | delta SF at e | delta Jw at e | delta KK at e | delta YV at e | delta Sv at e | delta YE at e | delta Vu at e | delta Xd at e
  | delta JX at e | delta Xx at e | delta YA at e | delta TZ at e | delta Wd at e | delta Wm at e | delta Za at e | delta WI at e | delta ZM at e | delta VV at e | delta Tw at e | delta Vt at e | delta Pk at e | delta Yy at e | delta SP at e
  | delta WX at e | delta Xo at e | delta ZK at e | delta Rj at e | delta SE at e | delta VO at e | delta Zo at e | delta Rv at e | delta Re at e | delta Xf at e | delta YZ at e | delta VK at e | delta HV at e | delta RK at e | delta Vv at e
 all_goals (try dsimp only at e)
 case x2 o=>exact uB e hk
 case mkf=>cases e;exact hk
 case mkb=>cases e;exact hk
 case build z ps =>
  split at e
  .rename_i q;cases e;unfold aK;exact⟨_,q,hk⟩
  .cases e
 case bsl s len z ps =>
  split at e
  .rename_i q
   split at e
   .rename_i hc;cases e;unfold aK;exact⟨_,q,hc,hk⟩
   .cases e
  .cases e
 all_goals split at e
 all_goals first
  | (simp only[Qq,Prod.mk.injEq,K9] at e;obtain⟨rfl,rfl,rfl⟩:=e;exact hk)
  | cases e
  | skip
 all_goals (unfold aK;dsimp only)
 .exact ⟨_,rfl,hk⟩
 .split at e
  .rename_i q
   split at e
   .rename_i hc;cases e;exact⟨_,q,hc,hk⟩
   .cases e
  .cases e
 .split at e
  .rename_i q
   split at e
   .rename_i hc;cases e;exact⟨_,q,hc,hk⟩
   .cases e
  .cases e
 .split at e
  .rename_i e0 u
   split at e
   .rename_i hr q
    split at e
    .rename_i hc;cases e;exact⟨_,_,_,u,hr,hc.1,q,hc.2.1,hc.2.2,hk⟩
    .cases e
   .cases e
  .cases e
 .exact ⟨trivial,hk⟩
 .exact ⟨trivial,hk⟩
 .exact ⟨trivial,hk⟩
 .rw [lP] at e
  split at e
  .rename_i q;cases e;exact⟨_,q,hk⟩
  .cases e
 .split at e
  .rename_i q;cases e;exact⟨_,q,hk⟩
  .cases e
 .split at e
  .rename_i q;cases e;exact⟨_,q,hk⟩
  .cases e
 .split at e
  .rename_i hr
   split at e
   .rename_i hb;cases e;exact⟨_,_,hr,hb,hk⟩
   .cases e
  .cases e
 .split at e
  .rename_i hc;cases e;exact⟨hc.1,hc.2.1,hc.2.2.1,hc.2.2.2.1,hc.2.2.2.2,hk⟩
  .cases e
 .split at e
  .rename_i hc;cases e;exact⟨hc,hk⟩
  .cases e
 .split at e
  .rename_i hc;cases e;exact⟨hc,hk⟩
  .cases e
 .split at e
  .rename_i hc
   split at e
   .rename_i hr;cases e;exact⟨hc.1,hc.2,_,hr,hk⟩
   .cases e
  .cases e
 .split at e
  .rename_i e0 u
   split at e
   .rename_i hc;cases e;exact⟨hc.1,hc.2.1,⟨_,u,hc.2.2⟩,hk⟩
   .cases e
  .cases e
 .split at e
  .rename_i hc;cases e;exact⟨hc.1,hc.2,hk⟩
  .cases e
 .split at e
  .rename_i hc;cases e;exact⟨hc.1,hc.2.1,hc.2.2,hk⟩
  .cases e
 .split at e
  .rename_i hc
   split at e
   .rename_i hr;cases e;exact⟨hc,_,hr,hk⟩
   .cases e
  .cases e
 .split at e
  .rename_i hc;cases e;exact⟨hc.1,hc.2.1,hc.2.2,hk⟩
  .cases e
 .split at e
  .rename_i q;cases e;exact⟨_,q,hk⟩
  .cases e
 .exact Xb aA e hk
 .split at e
  .rename_i q
   split at e
   .rename_i hc;cases e;exact⟨_,q,hc,hk⟩
   .cases e
  .cases e
 .split at e
  .rename_i q;cases e;exact⟨_,q,hk⟩
  .cases e
 .split at e
  .rename_i h1 h2
   split at e
   .rename_i hc;cases e;exact⟨_,_,h1,hc.1,hc.2.1,hc.2.2,h2,hk⟩
   .cases e
  .cases e
 .split at e
  .rename_i h1
   split at e
   .rename_i hc;cases e;exact⟨_,h1,hc.1,hc.2.1,hc.2.2.1,hc.2.2.2,hk⟩
   .cases e
  .cases e
 .split at e
  .rename_i hc;cases e;exact⟨hc.1,hc.2.1,hc.2.2.1,hc.2.2.2,hk⟩
  .cases e
 .split at e
  .rename_i h1
   split at e
   .rename_i hc;cases e;exact⟨_,h1,hc,hk⟩
   .cases e
  .cases e
 .split at e
  .rename_i h1
   split at e
   .rename_i hc;cases e;exact⟨_,h1,hc,hk⟩
   .cases e
  .cases e
 .split at e
  .rename_i h1
   split at e
   .rename_i hc;cases e;exact⟨_,h1,hc,hk⟩
   .cases e
  .cases e
 .split at e
  .rename_i f hf
   obtain⟨a1,a2,a3,a4,a5,a6,a7,h⟩:=Xb aA e hk;exact⟨f,a1,a2,a3,a4,a5,a6,a7,hf,h⟩
  .cases e
structure EF (st:St) (s:RS):Prop where
 sz:st.sz=s.sz
 n:st.n=s.n
 t:st.get=s.get
 h:st.hp=s.hp
omit aA in
theorem EF.put {st:St} {s:RS} (a:EF st s) {d:Nat} {v:AV} {t':TS} (ht:∀ j,Bp t' j=if d=j then v else Bp s.t j):EF (st.put (some d) v) { s with t:=t' }:=by
 refine⟨a.sz,a.n,?_,a.h⟩
 funext i
 have h1:=congrFun a.t i;unfold RS.get St.get St.put at *;rw[ht];simp only[AQ]
 by_cases hi:d=i
 .subst hi
  rw[if_pos rfl,if_pos rfl];rfl
 .rw [if_neg hi,if_neg hi]
  exact h1
omit aA in
theorem EF.upd {st:St} {s:RS} (a:EF st s) {up h:List (Nat × Option AD)} (hh:∀ id,(AQ h id).getD none=(AQ (up++s.h) id).getD none):EF (st.upd up) { s with h:=h }:=by
 refine⟨a.sz,a.n,a.t,?_⟩
 funext id
 have h1:=congrFun a.h id;unfold RS.hp at *;rw[VP] at *;show (AQ (up++st.h) id).getD none=(AQ h id).getD none;rw[hh]
 have key:∀ u:List (Nat × Option AD),(AQ (u++st.h) id).getD none=(AQ (u++s.h) id).getD none:=by
  intro u
  induction u with
  | nil=>exact h1
  | cons q u ih =>
    obtain⟨j,e⟩:=q;simp only[Q6,AQ];split
    .rfl
    .exact ih
 exact key up
omit aA in
theorem fR (b:Option Bool) (q:Bool):Jr b q=decide (b=some q):=by
 cases b with
 | none=>rfl
 | some b=>cases b<;>cases q<;>rfl
theorem VH {np n:Nat}:∀ (ops:List Bl) (i:Nat) (st:St) (s:RS) (tr:List (List Nat × List Nat)) (k:Nat->TS->List (Nat × Option AD)->List (List Nat × List Nat)->Rr) (r:Dy × RS) (K:St->List (List Nat × List Nat)->Prop),
  EF st s->Gk sp cf s.sz np ops (n+8*i) k s.t s.h tr=some r->(∀ st' s' u,s'.sz=s.sz->EF st' s'->k (n+8*(i+ops.length)) s'.t s'.h u=some r->K { st' with n:=st.n } u) ->
  BY P np n i ops st tr (λ st' u=>K { st' with n:=st.n } u)/\(ops.all λ o=>o.dst.all (· < s.sz))=true
 | [],i,st,s,tr,k,r,K,ag,e,hK=>⟨hK st s tr rfl ag e,rfl⟩
 | o::os,i,st,s,tr,k,r,K,ag,e,hK=>by
   have ih:=λ (st':St) (s':RS) (u:List (List Nat × List Nat)) (hn:st'.n=st.n) (h7:s'.sz=s.sz) (ha:EF st' s') (e':Gk sp cf s.sz np os (n+8*(i+1)) k s'.t s'.h u=some r)=>VH os (i+1) st' s' u k r K ha (by rw[h7];exact e') (λ st2 s2 tr2 q1 q2 q3=>by
    have:=hK st2 s2 tr2 (q1.trans h7) q2 (by rw[show i+(o::os).length=i+1+os.length by simp;omega];exact q3)
    rw[hn]
    exact this)
   have hu:Gk sp cf s.sz np (o::os) (n+8*i) k s.t s.h tr=Ci (n+8*i+8) λ id'=>Mv sp cf s.sz np (n+8*i) o (Gk sp cf s.sz np os id' k) s.t s.h tr:=rfl;rw[hu,HG,show n+8*i+8=n+8*(i+1) by omega] at e
   have h3:∀ (v:AV) (d:Nat) (h:List (Nat × Option AD)) (u:List (List Nat × List Nat)),DY v s.t d (Ou (Gk sp cf s.sz np os (n+8*(i+1)) k) h u)=some r -> ∃ t',(∀ j,Bp t' j=if d=j then v else Bp s.t j)/\Gk sp cf s.sz np os (n+8*(i+1)) k t' h u=some r:=by
    intro v d h u hs;rcases Lq (γ:=Dy × RS) v s.t d with ⟨t',h1,h2⟩ | h1
    .rw [h1] at hs
     exact⟨t',h2,hs⟩
    .rw [h1] at hs
     cases hs
   have h8:Gc sp cf s.sz np (n+8*i) o (Gk sp cf s.sz np os (n+8*(i+1)) k) s.t s.h tr=some r ->
    (aK P np (n+8*i) o.op (o.xs.map (·.ev st.get)) st.hp λ v rd up=>BY P np n (i+1) os ((st.put o.dst v).upd up) (tr++[(rd,up.map (·.1))]) (λ st' u=>K { st' with n:=st.n } u))/\((o::os).all λ o=>o.dst.all (· < s.sz))=true:=by
    intro h;unfold Gc at h;rw[Ss] at h;have e1:Bp s.t=st.get:=ag.t.symm;have e2:Kh s.h=st.hp:=ag.h.symm;rw[e1,e2] at h;unfold YI at h;split at h
    .cases h
    rename_i v rd up h9;rw[Ey (Xy false)] at h;unfold Xw at h;obtain⟨h',q1,q2⟩:=Ob up s.h;rw[q1] at h;unfold Yr at h;rw[List.all_cons];split at h
    .rename_i q
     have hx:=ih ((st.put none v).upd up) { s with h:=h' } _ rfl rfl (ag.upd q2) h;refine⟨RQ aA h9 ?_,by rw[q,hx.2];rfl⟩
     rw[q];exact hx.1
    .rename_i d q
     split at h
     rotate_left
     .cases h
     rename_i h4;rw[I8] at h;obtain⟨t',h5,h⟩:=h3 _ _ _ _ h;have hx:=ih ((st.put (some d) v).upd up) { s with t:=t',h:=h' } _ rfl rfl ((ag.put h5).upd (s:={ s with t:=t' }) q2) h;refine⟨RQ aA h9 ?_,by rw[q,hx.2];simpa [Nat.blt_eq] using h4⟩
     rw[q];exact hx.1
   unfold Mv at e;unfold BY;split at e
   .rename_i hg
    simp only[hg];exact h8 e
   .rename_i gg want hg
    simp only[hg];unfold Ja at e;split at e
    .cases e
    .rename_i b hb
     have h6:GG (st.get gg)=some b:=by rw[ag.t];exact hb
     rw[fR] at e;split at e
     .rename_i h0
      have h0:=of_decide_eq_true h0;obtain⟨h1,h2⟩:=h8 e;exact⟨⟨b,h6,by rw[if_pos h0];exact h1⟩,h2⟩
     .rename_i h0
      have h0:=of_decide_eq_false h0;unfold R9 at e;rw[List.all_cons];split at e
      .rename_i q
       have hx:=ih st s _ rfl rfl ag e;exact⟨⟨b,h6,by rw[if_neg h0,q];exact hx.1⟩,by rw[q,hx.2];rfl⟩
      .rename_i d q
       split at e
       rotate_left
       .cases e
       rename_i h4;obtain⟨t',h5,h⟩:=h3 _ _ _ _ e;have hx:=ih (st.put (some d) (.tup [])) { s with t:=t' } _ rfl rfl (ag.put h5) h;exact⟨⟨b,h6,by rw[if_neg h0,q];exact hx.1⟩,by rw[q,hx.2];simpa [Nat.blt_eq] using h4⟩
theorem GO {np lf:Nat}:∀ (c:CS) (s:RS) (r:Dy × RS),Ff sp cf np lf c s=some r -> ∀ st,EF st s->Ad P np c (λ e t=>e=r.1/\EF t r.2) st
 | .skip,s,r,h,st,ag=>by cases h;exact⟨rfl,ag⟩
 | .reg draw ops after,⟨sz,t,hh,n⟩,r,h,st,ag=>by
   have h:Gk sp cf sz np ops n (Oy draw ops after sz) t hh []=some r:=h;have hn:st.n=n:=ag.n
   have hx:=VH aA (n:=n) ops 0 st ⟨sz,t,hh,n⟩ [] _ r (λ st' tr=>(draw=true->FE ops after tr=true)/\Dy.normal=r.1/\EF { st' with n:=st.n+8*ops.length } r.2) ag (by rw[Nat.mul_zero,QY];exact h) (λ st' s' tr' q1 q2 q3=>by
    rw[Uc] at q3;unfold Oy at q3;have q1:s'.sz=sz:=q1;split at q3
    .cases q3
     exact⟨λ h=>(by cases h),rfl,⟨q2.sz.trans q1,by rw[hn],q2.t,q2.h⟩⟩
    .split at q3
     .rename_i ho
      cases q3;exact⟨λ _=>ho,rfl,⟨q2.sz.trans q1,by rw[hn],q2.t,q2.h⟩⟩
     .cases q3)
   refine⟨by rw[ag.sz];exact hx.2,?_⟩
   rw[hn];refine EY _ _ _ _ _ _ _ (λ st' tr' hq=>?_) hx.1;rw[hn] at hq;exact hq
 | .seq a b,s,r,h,st,ag=>by
   have h:Ha (Ff sp cf np lf b) (Ff sp cf np lf a s)=some r:=h;unfold Ha at h;show Ad P np a _ st;split at h
   .rename_i s' ha
    refine D6 (λ e t ht=>?_) (GO a s _ ha st ag);obtain⟨rfl,ag'⟩:=ht;exact⟨t,Le.refl _ _,GO b s' r h t ag'⟩
   .rename_i q
    obtain⟨e0,s0⟩:=r;refine D6 (λ e t ht=>?_) (GO a s _ h st ag);obtain⟨rfl,ag'⟩:=ht
    cases e with
    | normal=>exact absurd h (q s0)
    | exit id=>exact⟨rfl,ag'⟩
    | ret=>exact⟨rfl,ag'⟩
 | .cond c a b,s,r,h,st,ag=>by
   have h:Mm (Ff sp cf np lf a) (Ff sp cf np lf b) s (c.ev s.get)=some r:=h;unfold Mm at h;split at h
   .rename_i hc
    exact⟨true,by rw[ag.t];exact hc,GO a s r h st ag⟩
   .rename_i hc
    exact⟨false,by rw[ag.t];exact hc,GO b s r h st ag⟩
   .cases h
 | .block id a,s,r,h,st,ag=>by
   have h:Mf id (Ff sp cf np lf a s)=some r:=h;unfold Mf at h;show Ad P np a _ st;split at h
   .rename_i i s' ha
    refine D6 (λ e t ht=>?_) (GO a s _ ha st ag);obtain⟨rfl,ag'⟩:=ht;simp only;rw[GL] at h;split at h
    .rename_i hi;cases h;rw[if_pos (of_decide_eq_true hi)];exact⟨rfl,ag'⟩
    .rename_i hi;cases h;rw[if_neg (of_decide_eq_false hi)];exact⟨rfl,ag'⟩
   .rename_i q
    obtain⟨e0,s0⟩:=r;refine D6 (λ e t ht=>?_) (GO a s _ h st ag);obtain⟨rfl,ag'⟩:=ht
    cases e with
    | normal=>exact⟨rfl,ag'⟩
    | exit id=>exact absurd h (q id s0)
    | ret=>exact⟨rfl,ag'⟩
 | .loop a,s,r,h,st,ag=>by
   have h:Lg (Ff sp cf np lf a) lf s=some r:=h;refine⟨λ k t=>∃ s',EF t s'/\Lg (Ff sp cf np lf a) k s'=some r,⟨st,lf,Le.refl _ _,s,ag,h⟩,?_⟩
   rintro k t ⟨s',ag',h'⟩
   match k,h' with
   | 0,h'=>cases h'
   | k+1,h' =>
     have h':(match Ff sp cf np lf a s' with | some (.normal,s2)=>Lg (Ff sp cf np lf a) k s2 | r=>r)=some r:=h'
     split at h'
     .rename_i s2 ha
      refine D6 (λ e t ht=>?_) (GO a s' _ ha t ag');obtain⟨rfl,ag2⟩:=ht;exact⟨t,k,Le.refl _ _,⟨s2,ag2,h'⟩,Nat.lt_succ_self k⟩
     .rename_i q
      obtain⟨e0,s0⟩:=r;refine D6 (λ e t ht=>?_) (GO a s' _ h' t ag');obtain⟨rfl,ag2⟩:=ht
      cases e with
      | normal=>exact absurd h' (q s0)
      | exit id=>exact⟨rfl,ag2⟩
      | ret=>exact⟨rfl,ag2⟩
 | .exit id,s,r,h,st,ag=>by cases h;exact⟨rfl,ag⟩
 | .ret,s,r,h,st,ag=>by cases h;exact⟨rfl,ag⟩
 | .bad,s,r,h,st,ag=>by cases h
omit aA in
theorem YR {st:St} {s:RS} (ag:EF st s):∀ l,Ek st l=Kc s l
 | []=>rfl
 | r::rs=>by
   have h1:G2 st r=MO s r:=by
    unfold G2 MO;rw[ag.t,ag.h];rfl
   rw[Ek,Kc,YR ag rs,h1];rfl
omit aA in
theorem YO {np:Nat} {s:RS} {vs:List AV} {q:Bool} {ex sn:List Nat} {res:AV} {hs':List (Option AD)} (h:LW np s vs q ex sn=some (res,hs')):np<=hs'.length /\
  ∀ (st:St) (rs:List (Nat × Option (Bool × Nat))),EF st s->Kc s rs=some vs->AW rs np st res hs':=by
 unfold LW at h;split at h
 .rename_i hc
  simp only[QD,UA,Nat.ble_eq,UO,List.contains_eq_mem,Qd] at hc;obtain⟨c1,c2,c3⟩:=hc;rw[I8,Ey (λ o k=>by cases o<;>simp only[NJ])] at h
  cases h;refine⟨zz,λ st rs ag u=>⟨vs,by rw[YR ag];exact u,ex,sn,Mp _ c1,c2,c3,?_,?_⟩⟩
  .rw [ag.h];exact .refl _
  .rw [ag.h]
 .cases h
omit aA in
theorem kL {rs:List (Nat × Option (Bool × Nat))} {np:Nat} {s:RS} {res:AV} {hs':List (Option AD)} (h:KG rs np s=some (res,hs')):np<=hs'.length /\ ∀ st,EF st s->AW rs np st res hs':=by
 unfold KG at h;split at h
 .cases h
 rename_i vs q;simp only[Ey (HG (β:=Option (AV × List (Option AD))))] at h;split at h
 .obtain ⟨h1,h2⟩:=YO h
  exact⟨h1,λ st ag=>h2 st rs ag q⟩
 .obtain ⟨h1,h2⟩:=YO h
  exact⟨h1,λ st ag=>h2 st rs ag q⟩
theorem aQ {lf:Nat} {af:BW} (s:Src P f af) {args:List AV} {hs:List AD} {res:AV} {hs':List (Option AD)} (h:Lw sp cf lf af args hs=some (res,hs')):Bz P f args hs res hs':=by
 unfold Lw at h;split at h
 .rename_i hc
  simp only[QD,Nat.ble_eq] at hc;rw[Ey (I8 _ _)] at h;obtain⟨t',h,u⟩:=WL _ _ _ _ _ h;rw[Ey (Xy _),HG] at h
  have ag:EF (FQ af args hs) ⟨af.nt,t',hs.zipIdx.map λ (e,k)=>(k,some e),16⟩:=by
   refine⟨rfl,rfl,?_,by funext id;unfold RS.hp;rw[VP];rfl⟩
   funext i
   unfold St.get RS.get FQ;rw[u,XH];simp only
   have key:∀ (l:List AV) (m i:Nat),(AQ ((l.zipIdx m).map λ (a,i)=>(i,a)) (m+i)).getD .dead=l.getD i .dead:=by
    intro l
    induction l with
    | nil=>intro m i;simp[AQ]
    | cons a l ih =>
      intro m i;simp only[List.zipIdx_cons,Qp,AQ]
      cases i with
      | zero=>simp
      | succ i =>
        rw[if_neg zy]
        have:=ih (m+1) i;rw[show m+(i+1)=m+1+i by omega,this]
        rfl
   have h1:=key args 0 i;rw[Uc] at h1;rw[h1];split
   .rw [Nat.sub_zero]
   .rename_i hi
    rw[Qe,QS zy]
    rfl
  have fin:∀ (e0:Dy) (s0:RS),e0 = .normal∨e0 = .ret->Ff sp cf hs.length lf af.code ⟨af.nt,t',hs.zipIdx.map λ (e,k)=>(k,some e),16⟩=some (e0,s0)->KG af.res hs.length s0=some (res,hs')->Bz P f args hs res hs':=by
   intro e0 s0 he hr q;have hw:=GO aA _ _ _ hr _ ag;obtain⟨hl,h0⟩:=kL q;refine s.acalls hc.1 hc.2 hl (D6 (λ e t ht=>?_) hw);obtain⟨rfl,ag'⟩:=ht;exact⟨he,h0 t ag'⟩
  unfold RB at h;split at h
  .rename_i s0 hr;exact fin _ s0 (.inl rfl) hr h
  .rename_i s0 hr;exact fin _ s0 (.inr rfl) hr h
  .cases h
 .cases h
end
theorem Nm {P:Program} {sp:List FuncId} {ext:Cf} {u:List (FuncId × BW)} (he:∀ f a b r c,ext f a b=some (r,c)->Bz P f a b r c) (ht:∀ q∈u,Src P q.1 q.2) (lf:Nat) :
  ∀ (d:Nat) (f:FuncId) (a:List AV) (b:List AD) (r:AV) (c:List (Option AD)),Fg sp ext u lf d f a b=some (r,c)->Bz P f a b r c
 | 0,_,_,_,_,_,h=>by cases h
 | d+1,f,a,b,r,c,h=>by
   have h:MZ (ext f a b) (Me u (λ af=>Lw sp (Fg sp ext u lf d) lf af a b) f)=some (r,c):=h;unfold MZ at h;split at h
   .rename_i hx;cases h;exact he _ _ _ _ _ hx
   .unfold Me at h
    rw[MM] at h;split at h
    .rename_i af hl
     exact aQ (Nm he ht lf d) (ht _ (DD hl)) h
    .cases h
def Lv:List UInt8->List UInt8->Bool
 | [],[]=>true
 | x::xs,y::ys=>Nat.beq x.toNat y.toNat && Lv xs ys
 | _,_=>false
theorem So:∀ {a b:List UInt8},Lv a b=true->a=b
 | [],[],_=>rfl
 | x::xs,y::ys,h=>by
   simp only[Lv,QD] at h;rw[So h.2,UInt8.toNat_inj.1 (Uy h.1)]
 | [],_::_,h=>by cases h
 | _::_,[],h=>by cases h
def Mw (a b:Value):Bool:=match a with
 | .int k m=>(match b with | .int k' n=>Nat.beq (kN k) (kN k') && J2 m n | _=>false)
 | .bool x=>(match b with | .bool y=>x == y | _=>false)
 | .string s=>(match b with | .string u=>Lv s.data.toList u.data.toList | _=>false)
 | .slice none 0 0=>(match b with | .slice none 0 0=>true | _=>false)
 | _=>false
theorem bE {a b:Value} (h:Mw a b=true):a=b:=by
 unfold Mw at h;split at h
 .split at h
  .rw [R5,WK,QD,Qf,beq_iff_eq] at h
   rw[h.1,h.2]
  .cases h
 .split at h
  .rw [beq_iff_eq] at h;rw[h]
  .cases h
 .split at h
  .rename_i s _ u
   have:=So h;obtain⟨⟨s⟩⟩:=s;obtain⟨⟨u⟩⟩:=u;simp only at this;rw[this]
  .cases h
 .split at h
  .rfl
  .cases h
 .cases h
def HD {α:Type} (q:α->α->Bool) (a:List α):List α->Bool :=
 List.rec (motive:=λ _=>List α->Bool) (λ b=>match b with | []=>true | _::_=>false) (λ x _ ih b=>match b with | []=>false | y::ys=>q x y && ih ys) a
theorem Ir {α:Type} {q:α->α->Bool} (hq:∀ x y,q x y=true->x=y):∀ {a b:List α},HD q a b=true->a=b
 | [],[],_=>rfl
 | [],_::_,h=>by cases h
 | _::_,[],h=>by cases h
 | x::xs,y::ys,h=>by
   have h:(q x y && HD q xs ys)=true:=h;rw[QD] at h;rw[hq _ _ h.1,Ir hq h.2]
def N7 (ih:AV->AV->Bool) (a b:AV):Bool:=match a with
 | .sc v=>(match b with | .sc u=>Mw v u | _=>false)
 | .agg xs=>(match b with | .agg ys=>HD ih xs ys | _=>false)
 | .vs s false rows=>(match b with | .vs s' false rows'=>Nat.beq s s' && HD (HD ih) rows rows' | _=>false)
 | _=>false
def II (n:Nat):AV->AV->Bool:=Nat.rec (motive:=λ _=>AV->AV->Bool) (λ _ _=>false) (λ _ ih=>N7 ih) n
theorem Jh:∀ (n:Nat) (a b:AV),II n a b=true->a=b
 | 0,_,_,h=>by cases h
 | n+1,a,b,h=>by
   have ih:=Jh n;have h:N7 (II n) a b=true:=h;unfold N7 at h;split at h
   .split at h
    .rw [bE h]
    .cases h
   .split at h
    .rw [Ir ih h]
    .cases h
   .split at h
    .rw [QD] at h
     rw[Uy h.1,Ir (λ _ _=>Ir ih) h.2]
    .cases h
   .cases h
structure Cy where
 f:FuncId
 args:List AV
 res:AV
 out:List (Option AD)
abbrev Cy.Ok (P:Program) (q:Cy):Prop:=Bz P q.f q.args [] q.res q.out
def JT (l:List Cy) (f:FuncId) (args:List AV):Option (AV × List (Option AD)) :=
 List.rec (motive:=λ _=>Option (AV × List (Option AD))) none (λ q _ ih=>match Nat.beq q.f f && HD (II 6) q.args args with | true=>some (q.res,q.out) | false=>ih) l
def Fv:List Int->Bool
 | []=>true
 | x::l=>(match l with | []=>true | y::_=>Hr x y) && Fv l
def Ll:List (List AV)->Option (List Int)
 | []=>some []
 | [.sc (.int .i64 n)]::r=>match Ll r with | some l=>some (n::l) | none=>none
 | _=>none
def Yi (args:List AV):Option (AV × List (Option AD)):=match args with
 | [.vs 1 false rows]=>match Ll rows with
   | some l=>match Fv l && Nat.ble l.length 1000 with | true=>some (.rs 0 0 l.length,[some ⟨1,AE l,0⟩]) | false=>none
   | none=>none
 | _=>none
def KE (l:List Cy):Cf:=λ f args hs=>match hs with
 | []=>match Nat.beq f 72 with | true=>Yi args | false=>JT l f args
 | _::_=>none
theorem VE:∀ {rows:List (List AV)} {l:List Int},Ll rows=some l->rows=AE l
 | [],l,h=>by cases h;rfl
 | row::rows,l,h=>by
   unfold Ll at h;split at h
   .rename_i he;cases he
   .split at h
    .rename_i hr;cases h;rename_i he _ _ ;injection he with e1 e2;subst e1 e2;rw[VE hr];rfl
    .cases h
   .cases h
theorem SI:∀ {l:List Int},Fv l=true->l.Pairwise (· < ·)
 | [],_=>.nil
 | [x],_=>List.pairwise_singleton _ _
 | x::y::l,h=>by
   simp only[Fv,QD,M6,Qf] at h;have ih:=SI (l:=y::l) (by simp only[Fv,QD,M6];exact h.2)
   refine Uq.2 ⟨λ z hz=>?_,ih⟩;rcases Qw.1 hz with rfl | hz
   .exact h.1
   .have:=(Uq.1 ih).1 z hz;omega
theorem gS {l:List Int} (h:l.Pairwise (· < ·)):Dl l=l:=List.mergeSort_of_pairwise (h.imp λ h=>zw)
theorem dS {l:List Cy} (h:∀ q∈l,q.Ok Tryz.prog):∀ f a b r c,KE l f a b=some (r,c)->AK f a b r c:=by
 intro f a b r c e;unfold KE at e;split at e
 .split at e
  .rename_i hf
   have hf:=Uy hf;subst hf;unfold Yi at e;split at e
   .split at e
    .rename_i L hL
     split at e
     .rename_i hA
      rw[QD] at hA;have hl:L.length<=1099511627776:=QF (Bf hA.2) zy
      replace hA:=hA.1
      cases e;have:=SI hA;rw[VE hL];have h1:=Xc L hl;rw[gS this] at h1;exact h1
     .cases e
    .cases e
   .cases e
  .induction l with
   | nil=>cases e
   | cons q l ih =>
     have e:(match Nat.beq q.f f && HD (II 6) q.args a with | true=>some (q.res,q.out) | false=>JT l f a)=some (r,c):=e
     split at e
     .rename_i hq
      rw[QD] at hq;have e1:=Uy hq.1;have e2:=Ir (λ _ _=>Jh 6 _ _) hq.2
      cases e;rw[<- e1,<- e2];exact h q (Qi ..)
     .exact ih (λ q hq=>h q (Qg _ hq)) e
 .cases e
theorem P8 {P:Program}:∀ q∈([]:List (FuncId × BW)),Src P q.1 q.2:=λ _ h=>(Ua h).elim
theorem AU {P:Program} {f:FuncId} {af:BW} {l:List (FuncId × BW)} (s:Src P f af) (h:∀ q∈l,Src P q.1 q.2):∀ q∈(f,af)::l,Src P q.1 q.2:=λ q hq=>by
 rcases Qw.1 hq with rfl | hq
 .exact s
 .exact h q hq
theorem XL {sp:List FuncId} {l:List Cy} {u:List (FuncId × BW)} (hl:∀ q∈l,q.Ok Tryz.prog) (ht:∀ q∈u,Src Tryz.prog q.1 q.2) {f:FuncId} {a:List AV} {r:AV} {c:List (Option AD)} (h:Fg sp (KE l) u 1000 40 f a []=some (r,c)):AK f a [] r c :=
 Nm (dS hl) ht 1000 40 f a [] r c h
theorem IP {M B H L:List Int} {i:Nat} (hh:hF M i=H) (hB:(M.drop (64*i)).take 64=B) (h:Ho H B B8=L):hF M (i+1)=L:=by rw[hF,hB,hh,h]
theorem PP {b M H:List Int} {n:Nat} {l:List UInt8} (hp:Dv b=M) (hn:M.length / 64=n) (hh:hF M n=H) (ho:(D1 H 8).map (λ n=>UInt8.ofNat n.toNat)=l):DZ b=⟨l.toArray⟩:=by
 unfold DZ;rw[hp,hn,hh,ho]
def M9:ByteArray:=⟨#[190,26,212,186,151,202,223,184,137,97,60,192,247,186,135,199,30,7,87,206,175,129,148,39,100,165,127,212,88,182,181,175]⟩
def Ky:List Int:=[116,114,117,115,116,102,108,111,119,0,0,0,0,0,0,0,1,0,0,0,0,0,0,0,0,0,0,0,0,0,0,0,1,0,0,0,0,0,0,0,0,0,0,0,0,0,0,0,1,0,0,0,0,0,0,0,2,0,0,0,0,0,0,0,4,0,0,0,0,0,0,0,1,0,0,0,0,0,0,0,1,0,0,0,0,0,0,0,5,0,0,0,0,0,0,0,0]
theorem wL:DZ Ky=M9:=by
 have h0:hF [116,114,117,115,116,102,108,111,119,0,0,0,0,0,0,0,1,0,0,0,0,0,0,0,0,0,0,0,0,0,0,0,1,0,0,0,0,0,0,0,0,0,0,0,0,0,0,0,1,0,0,0,0,0,0,0,2,0,0,0,0,0,0,0,4,0,0,0,0,0,0,0,1,0,0,0,0,0,0,0,1,0,0,0,0,0,0,0,5,0,0,0,0,0,0,0,0,128,0,0,0,0,0,0,0,0,0,0,0,0,0,0,0,0,0,0,0,0,0,0,0,0,0,0,0,0,3,8] 0=[1779033703,3144134277,1013904242,2773480762,1359893119,2600822924,528734635,1541459225]:=rfl;have h1:=IP h0 (B:=[116,114,117,115,116,102,108,111,119,0,0,0,0,0,0,0,1,0,0,0,0,0,0,0,0,0,0,0,0,0,0,0,1,0,0,0,0,0,0,0,0,0,0,0,0,0,0,0,1,0,0,0,0,0,0,0,2,0,0,0,0,0,0,0]) (L:=[2987813620,2168006968,935089779,3160081020,4162990771,2186938680,770411043,827362867]) (by kernel_rfl) (Io (by kernel_rfl))
 have h2:=IP h1 (B:=[4,0,0,0,0,0,0,0,1,0,0,0,0,0,0,0,1,0,0,0,0,0,0,0,5,0,0,0,0,0,0,0,0,128,0,0,0,0,0,0,0,0,0,0,0,0,0,0,0,0,0,0,0,0,0,0,0,0,0,0,0,0,3,8]) (L:=[3189429434,2546655160,2304851136,4156196807,503797710,2944504871,1688567764,1488369071]) (by kernel_rfl) (Io (by kernel_rfl))
 exact PP (b:=Ky) (l:=[190,26,212,186,151,202,223,184,137,97,60,192,247,186,135,199,30,7,87,206,175,129,148,39,100,165,127,212,88,182,181,175]) (by kernel_rfl) rfl h2 (by kernel_rfl)
abbrev VW:Cy:=⟨95,[DI Ky],.sc (.string M9),[]⟩
theorem oL:VW.Ok Tryz.prog:=by
 have h:=L4 Ky zx
 rw[wL] at h;exact h
def XK:ByteArray:=⟨#[64,224,62,83,98,50,54,225,167,192,188,126,2,241,206,123,65,50,45,50,91,217,196,179,113,67,126,47,23,42,111,86]⟩
def LP:List Int:=[0,0,0,0,0,0,0,0,0,0,0,0,0,0,0,0,0,0,0,0,0,0,0,0,0,0,0,0,0,0,0,5,0,0,0,0,0,0,0,10,0,0,0,0,0,0,0,0,0,0,0,0,0,0,0,1,0,0,0,0,0,0,0,0,0,0,0,0,0,0,0,2,0,0,0,0,0,0,0,1,0,0,0,0,0,0,0,0,0,0,0,0,0,0,0,0,0,0,0,0,0,0,0,0]
theorem b9:DZ LP=XK:=by
 have h0:hF [0,0,0,0,0,0,0,0,0,0,0,0,0,0,0,0,0,0,0,0,0,0,0,0,0,0,0,0,0,0,0,5,0,0,0,0,0,0,0,10,0,0,0,0,0,0,0,0,0,0,0,0,0,0,0,1,0,0,0,0,0,0,0,0,0,0,0,0,0,0,0,2,0,0,0,0,0,0,0,1,0,0,0,0,0,0,0,0,0,0,0,0,0,0,0,0,0,0,0,0,0,0,0,0,128,0,0,0,0,0,0,0,0,0,0,0,0,0,0,0,0,0,0,0,0,0,3,64] 0=[1779033703,3144134277,1013904242,2773480762,1359893119,2600822924,528734635,1541459225]:=rfl;have h1:=IP h0 (B:=[0,0,0,0,0,0,0,0,0,0,0,0,0,0,0,0,0,0,0,0,0,0,0,0,0,0,0,0,0,0,0,5,0,0,0,0,0,0,0,10,0,0,0,0,0,0,0,0,0,0,0,0,0,0,0,1,0,0,0,0,0,0,0,0]) (L:=[3972660332,550289343,4166514672,1494407205,2458988859,507464931,2439096948,854609618]) (by kernel_rfl) (Io (by kernel_rfl))
 have h2:=IP h1 (B:=[0,0,0,0,0,0,0,2,0,0,0,0,0,0,0,1,0,0,0,0,0,0,0,0,0,0,0,0,0,0,0,0,0,0,0,0,0,0,0,0,128,0,0,0,0,0,0,0,0,0,0,0,0,0,0,0,0,0,0,0,0,0,3,64]) (L:=[1088437843,1647458017,2814426238,49401467,1093807410,1540998323,1900248623,388656982]) (by kernel_rfl) (Io (by kernel_rfl))
 exact PP (b:=LP) (l:=[64,224,62,83,98,50,54,225,167,192,188,126,2,241,206,123,65,50,45,50,91,217,196,179,113,67,126,47,23,42,111,86]) (by kernel_rfl) rfl h2 (by kernel_rfl)
abbrev Rk:Cy:=⟨95,[DI LP],.sc (.string XK),[]⟩
theorem mL:Rk.Ok Tryz.prog:=by
 have h:=L4 LP zx
 rw[b9] at h;exact h
def SK:ByteArray:=⟨#[233,156,229,252,20,70,24,210,114,81,103,185,40,210,73,233,36,80,127,178,214,218,133,169,107,95,139,48,203,68,203,17]⟩
def Ld:List Int:=[190,26,212,186,151,202,223,184,137,97,60,192,247,186,135,199,30,7,87,206,175,129,148,39,100,165,127,212,88,182,181,175,0,0,0,0,0,0,0,0,0,0,0,0,0,0,0,2,0,0,0,0,0,0,0,1,0,0,0,0,0,0,0,0]
theorem dH:DZ Ld=SK:=by
 have h0:hF [190,26,212,186,151,202,223,184,137,97,60,192,247,186,135,199,30,7,87,206,175,129,148,39,100,165,127,212,88,182,181,175,0,0,0,0,0,0,0,0,0,0,0,0,0,0,0,2,0,0,0,0,0,0,0,1,0,0,0,0,0,0,0,0,128,0,0,0,0,0,0,0,0,0,0,0,0,0,0,0,0,0,0,0,0,0,0,0,0,0,0,0,0,0,0,0,0,0,0,0,0,0,0,0,0,0,0,0,0,0,0,0,0,0,0,0,0,0,0,0,0,0,0,0,0,0,2,0] 0=[1779033703,3144134277,1013904242,2773480762,1359893119,2600822924,528734635,1541459225]:=rfl;have h1:=IP h0 (B:=[190,26,212,186,151,202,223,184,137,97,60,192,247,186,135,199,30,7,87,206,175,129,148,39,100,165,127,212,88,182,181,175,0,0,0,0,0,0,0,0,0,0,0,0,0,0,0,2,0,0,0,0,0,0,0,1,0,0,0,0,0,0,0,0]) (L:=[22086206,3805468114,1631538010,93097807,1060976945,2430817550,3614179969,2090206983]) (by kernel_rfl) (Io (by kernel_rfl))
 have h2:=IP h1 (B:=[128,0,0,0,0,0,0,0,0,0,0,0,0,0,0,0,0,0,0,0,0,0,0,0,0,0,0,0,0,0,0,0,0,0,0,0,0,0,0,0,0,0,0,0,0,0,0,0,0,0,0,0,0,0,0,0,0,0,0,0,0,0,2,0]) (L:=[3919373820,340138194,1917937593,684870121,609255346,3604645289,1801423664,3410283281]) (by kernel_rfl) (Io (by kernel_rfl))
 exact PP (b:=Ld) (l:=[233,156,229,252,20,70,24,210,114,81,103,185,40,210,73,233,36,80,127,178,214,218,133,169,107,95,139,48,203,68,203,17]) (by kernel_rfl) rfl h2 (by kernel_rfl)
abbrev W6:Cy:=⟨95,[DI Ld],.sc (.string SK),[]⟩
theorem aV:W6.Ok Tryz.prog:=by
 have h:=L4 Ld zx
 rw[dH] at h;exact h
end Go.Proofs.YtnaemfpgdmfmcaaGreatDoor
namespace Go.Proofs.YtnaemfpgdmfmcaaGreatDoor
open Go
def EZ:List (FuncId × BW):=[(5,Tr.c),(17,Rt.c),(44,RU.c),(18,Zd.c),(47,Zw.c),(94,N8.c),(143,LL.c),(48,LI.c),(50,ZF.c),(98,XI.c),(148,XU.c),(189,ZZ.c),(99,Vx.c),(149,Ru.c),(192,Tn.c),(194,zCr),(253,Rz.c),(154,Ts.c),(206,P4.c),(296,X0.c),(343,SG.c),(254,WD.c),(193,Wy.c),(248,Y3.c),(291,Xg.c),(335,Wv.c),(49,Yn.c),(88,SB.c),(58,KU.c),(130,Y5.c),(89,ZS.c),(131,Vw.c),(132,WB.c),(29,Oh.c),(69,N5.c),(169,SV.c),(214,Vo.c),(263,Th.c),(133,Xe.c),(170,Yx.c),(172,Rp.c),(60,Lm.c),(220,WV.c),(221,SU.c),(275,YP.c),(171,RI.c),(218,VF.c),(268,P2.c),(302,Wx.c),(92,Nr.c),(301,SQ.c),(351,Zv.c),(166,VC.c),(209,Zf.c),(210,WU.c),(147,OE.c),(106,NM.c),(212,S5.c),(353,YW.c),(303,PL.c),(354,V8.c),(385,T7.c),(413,Vj.c),(105,Ki.c),(153,TA.c),(196,Xk.c),(230,Xl.c),(414,WA.c),(437,WY.c),(451,PM.c),(455,Mt.c),(457,OH.c),(304,VN.c),(174,WC.c),(176,Yt.c),(226,Pl.c),(277,zCs),(478,Sx.c),(479,SM.c),(480,Sz.c),(482,WN.c),(481,Zc.c),(64,Mx.c),(355,TD.c),(305,Rd.c),(306,P9.c),(307,SD.c),(356,Xv.c),(357,YF.c),(191,RG.c),(142,LV.c),(141,Ls.c),(244,Yh.c),(245,Xp.c),(269,VJ.c),(308,XA.c),(309,Xt.c),(361,WJ.c),(389,XS.c),(416,V9.c),(439,VB.c),(391,P3.c),(362,Rn.c),(270,WM.c),(271,Sk.c),(310,Pt.c),(274,W9.c),(313,TG.c),(312,RR.c),(219,XE.c),(134,Xs.c),(173,ZI.c),(223,SH.c),(276,Wz.c),(224,XZ.c),(225,Wo.c),(90,Wp.c),(135,TN.c),(175,RN.c),(228,R6.c),(278,WO.c),(316,SL.c),(366,V5.c),(394,V4.c),(317,X6.c),(45,Py.c),(91,YS.c),(137,Sr.c),(178,TH.c),(232,Zk.c),(177,Vl.c),(231,MX.c),(138,Yf.c),(179,TC.c),(234,ZX.c),(281,Wa.c),(321,V1.c),(236,Wc.c),(139,XP.c),(182,Xz.c),(181,X8.c),(185,R8.c),(184,YH.c),(239,Zt.c),(282,TY.c),(330,Zi.c),(329,T4.c),(283,Wi.c),(284,Yu.c),(211,TX.c),(140,TJ.c),(167,Rq),(186,Rb.c),(240,XV.c),(241,Po.c),(251,SW.c),(295,Si.c),(195,Tm.c),(96,Wg.c),(146,Sn.c),(97,YB.c)]
theorem FJ:∀ q∈EZ,Src Tryz.prog q.1 q.2:=(AU Tr.s (AU Rt.s (AU RU.s (AU Zd.s (AU Zw.s (AU N8.s (AU LL.s (AU LI.s (AU ZF.s (AU XI.s (AU XU.s (AU ZZ.s (AU Vx.s (AU Ru.s (AU Tn.s (AU zCt (AU Rz.s (AU Ts.s (AU P4.s (AU X0.s (AU SG.s (AU WD.s (AU Wy.s (AU Y3.s (AU Xg.s (AU Wv.s (AU Yn.s (AU SB.s (AU KU.s (AU Y5.s (AU ZS.s (AU Vw.s (AU WB.s (AU Oh.s (AU N5.s (AU SV.s (AU Vo.s (AU Th.s (AU Xe.s (AU Yx.s (AU Rp.s (AU Lm.s (AU WV.s (AU SU.s (AU YP.s (AU RI.s (AU VF.s (AU P2.s (AU Wx.s (AU Nr.s (AU SQ.s (AU Zv.s (AU VC.s (AU Zf.s (AU WU.s (AU OE.s (AU NM.s (AU S5.s (AU YW.s (AU PL.s (AU V8.s (AU T7.s (AU Vj.s (AU Ki.s (AU TA.s (AU Xk.s (AU Xl.s (AU WA.s (AU WY.s (AU PM.s (AU Mt.s (AU OH.s (AU VN.s (AU WC.s (AU Yt.s (AU Pl.s (AU zCu (AU Sx.s (AU SM.s (AU Sz.s (AU WN.s (AU Zc.s (AU Mx.s (AU TD.s (AU Rd.s (AU P9.s (AU SD.s (AU Xv.s (AU YF.s (AU RG.s (AU LV.s (AU Ls.s (AU Yh.s (AU Xp.s (AU VJ.s (AU XA.s (AU Xt.s (AU WJ.s (AU XS.s (AU V9.s (AU VB.s (AU P3.s (AU Rn.s (AU WM.s (AU Sk.s (AU Pt.s (AU W9.s (AU TG.s (AU RR.s (AU XE.s (AU Xs.s (AU ZI.s (AU SH.s (AU Wz.s (AU XZ.s (AU Wo.s (AU Wp.s (AU TN.s (AU RN.s (AU R6.s (AU WO.s (AU SL.s (AU V5.s (AU V4.s (AU X6.s (AU Py.s (AU YS.s (AU Sr.s (AU TH.s (AU Zk.s (AU Vl.s (AU MX.s (AU Yf.s (AU TC.s (AU ZX.s (AU Wa.s (AU V1.s (AU Wc.s (AU XP.s (AU Xz.s (AU X8.s (AU R8.s (AU YH.s (AU Zt.s (AU TY.s (AU Zi.s (AU T4.s (AU Wi.s (AU Yu.s (AU TX.s (AU TJ.s (AU d8 (AU Rb.s (AU XV.s (AU Po.s (AU SW.s (AU Si.s (AU Tm.s (AU Wg.s (AU Sn.s (AU YB.s P8)))))))))))))))))))))))))))))))))))))))))))))))))))))))))))))))))))))))))))))))))))))))))))))))))))))))))))))))))))))))))))))))))))))))))))))))))))))))))))))))))
def Hf:List (FuncId × BW):=[(46,S7.c),(93,RD.c),(141,Ls.c),(142,LV.c),(24,O6.c),(56,N6.c),(58,KU.c),(57,NX.c)]
theorem KD:∀ q∈Hf,Src Tryz.prog q.1 q.2:=(AU S7.s (AU RD.s (AU Ls.s (AU LV.s (AU O6.s (AU N6.s (AU KU.s (AU NX.s P8))))))))
def HM:List FuncId:=[5,17,44,18,47,48,50,98,148,189,99,149,192,194,154,206,193,49,88,58,130,89,131,132,29,69,169,214,263,133,170,172,60,220,221,275,171,218,268,302,92,301,351,166,209,210,147,212,353,303,354,385,413,414,437,304,174,176,226,277,478,479,480,482,481,305,306,307,356,357,191,142,141,244,245,269,308,309,361,362,270,271,310,274,313,312,219,134,173,223,276,224,225,90,135,175,228,278,45,91,137,178,232,177,231,138,179,139,182,181,185,184,239,330,211,140,167,186,240,251,295,195,96,146,97,95,190,12,246,93,46,272,247]
variable {l:List Cy}
theorem Km:AK 93 [A3] [] (.B true) []:=XL (l:=[]) (λ _ h=>(Ua h).elim) KD (by kernel_rfl:Fg HM (KE []) Hf 1000 40 93 [A3] []=some (.B true,[]))
theorem PA:AK 46 [FM] [] (.I 0) []:=XL (l:=[]) (λ _ h=>(Ua h).elim) KD (by kernel_rfl:Fg HM (KE []) Hf 1000 40 46 [FM] []=some (.I 0,[]))
def TP (args:List AV):Option (AV × List (Option AD)):=match args with
 | [r,.sc (.string s),l,.agg [.sc (.int .i64 _),.sc (.int .i64 _),.sc (.int .i64 _),.sc (.int .i64 _)],.sc (.int .i64 _)] =>
   match II 6 r FM && II 6 l A3 && Nat.beq s.size 32 with
   | true=>some (.tup [.rs 0 0 1,.I 0],[some ⟨1,[[.I 0]],0⟩])
   | false=>none
 | _=>none
def Gu (l:List Cy):Cf:=λ f args hs=>match hs with
 | []=>match Nat.beq f 190 with | true=>TP args | false=>JT l f args
 | _::_=>none
theorem tM (h:∀ q∈l,q.Ok Tryz.prog) {f:FuncId} {a:List AV} {r:AV} {c:List (Option AD)} (e:JT l f a=some (r,c)):AK f a [] r c:=by
 induction l with
 | nil=>cases e
 | cons q l ih =>
   have e:(match Nat.beq q.f f && HD (II 6) q.args a with | true=>some (q.res,q.out) | false=>JT l f a)=some (r,c):=e
   split at e
   .rename_i hq
    rw[QD] at hq;have e1:=Uy hq.1;have e2:=Ir (λ _ _=>Jh 6 _ _) hq.2
    cases e;rw[<- e1,<- e2];exact h q (Qi ..)
   .exact ih (λ q hq=>h q (Qg _ hq)) e
theorem cR (h:∀ q∈l,q.Ok Tryz.prog):∀ f a b r c,Gu l f a b=some (r,c)->AK f a b r c:=by
 intro f a b r c e;unfold Gu at e;split at e
 .split at e
  .rename_i hf
   have hf:=Uy hf;subst hf;unfold TP at e;split at e
   .split at e
    .rename_i hq
     simp only[QD] at hq
     cases e;rw[Jh 6 _ _ hq.1.1,Jh 6 _ _ hq.1.2];exact uL Km _ (Uy hq.2) _ _ _ _ _
    .cases e
   .cases e
  .exact tM h e
 .cases e
theorem IQ {sp:List FuncId} {u:List (FuncId × BW)} (hl:∀ q∈l,q.Ok Tryz.prog) (ht:∀ q∈u,Src Tryz.prog q.1 q.2) {f:FuncId} {a:List AV} {r:AV} {c:List (Option AD)} (h:Fg sp (Gu l) u 1000 40 f a []=some (r,c)):AK f a [] r c :=
 Nm (cR hl) ht 1000 40 f a [] r c h
def gQ:Gr:=⟨64,[],[]⟩
def pQ:Aq:=⟨[0],[2],1⟩
theorem Vm:AG gQ:=AG.of zx zx zx (λ i h=>by simp at h) zx (λ e he=>by simp at he)
theorem S6:BD 64 pQ:=by
 refine⟨by simp[pQ],?_,by simp[pQ],by simp[pQ],by simp[pQ],by simp[pQ],λ i h=>?_⟩
 .show Bh [0] 0 63
  intro i h;have:i=0:=by simp at h;omega
  subst this;simp
 .have:i=0:=by simp[pQ] at h;omega
  subst this;simp[pQ]
theorem Vn:AL (AO gQ pQ.lv) pQ.seeds=[0]:=by decide +kernel
theorem iB:AM gQ pQ (AL (AO gQ pQ.lv) pQ.seeds)=[0]:=by
 obtain⟨l,hl⟩:=cL Vm S6;have h1:=Jl (g:=gQ) (p:=pQ) (AL (AO gQ pQ.lv) pQ.seeds);rw[hl] at h1 ⊢;rw[Vn] at h1;have hs:E8 gQ pQ=[0]:=zx
 rw[hs] at h1 ⊢;have:l=[]:=by simpa using h1
 rw[this];rfl
theorem mE:∃ (fl:List Int) (R:AV),AK 12 [.agg [.I 64,.nilS,.nilS],.agg [A3,.vs 1 false [[.I 2]],.I 1]] [] (.tup [.agg [A3,AA fl,R],.I 0]) []:=by
 obtain⟨f,_,h⟩:=NU gQ pQ Vm S6 zx (.inr (by rw[Vn];decide))
 rw[iB] at h
 exact⟨f,_,cO h ⟨.agg _ _ rfl λ i=>match i with
  | 0=>.refl _ | 1=>.nil _ _ | 2=>.nil _ _ | _+3=>.refl _,.refl _,trivial⟩⟩
abbrev Gv:Cy:=⟨46,[FM],.I 0,[]⟩
abbrev Jx:Cy:=⟨93,[A3],.B true,[]⟩
theorem tD:AK 354 [FM,.vs 13 false [],.I 0] [] (.tup [.agg [.I 64,.nilS,.nilS],.I 0]) [] :=
 IQ (l:=[Gv]) (λ q hq=>by rw[Qt] at hq;rw[hq];exact PA) FJ (by kernel_rfl:Fg HM (Gu [Gv]) EZ 1000 40 354 [FM,.vs 13 false [],.I 0] []=some (_,_))
theorem cK:AK 303 [FM,.vs 13 false [],.I 0] [] (.tup [A3,.I 0]) []:=by
 obtain⟨fl,R,hR⟩:=mE;have hG:=tD;refine PL.s.ai ?_;apply ax [1,2,3] [] [16] 100
 .simp
  rfl
 apply ax [3,8,9] [] [156] 200
 .simp
  refine A0 hG ?_;simp;rfl
 refine AB (ar [3,8,19] [] [] 300 ?_);refine AI _ rfl (λ h=>by simp at h) λ _=>AN ?_
 apply ax [9,10] [] [356] 400
 .simp
  refine A0 hR ?_;simp;rfl
 refine AB (ar [10,29] [] [] 500 ?_);refine AI _ rfl (λ h=>by simp at h) λ _=>AN ?_
 refine ar [6,7] [] [] 600 ?_;exact Bx [] []
theorem Xn:AK 246 [A3] [] (.B true) []:=by
 have hS:=IY [0] zz
 rw[show Dx [0]=[0] from by simp[Dx]] at hS
 have hV:AK 86 [A3] [] (FH [0]) []:=I4 [0];refine tC.s.ai ?_;refine ar [0] [] [] 100 ?_;apply ax [3] [] [116] 200
 .simp
  refine A0 hV ?_;simp;refine Ct hS ?_;simp;rfl
 apply ax [2] [] [] 300
 .simp
  refine A0 Km ?_;simp;rfl
 exact Ca
theorem i4:AK 312 [.nilS,A3,.I 0] [] .nilS []:=IQ (l:=[]) (λ _ h=>(Ua h).elim) FJ (by kernel_rfl:Fg HM (Gu []) EZ 1000 40 312 [.nilS,A3,.I 0] []=some (_,_))
theorem sU:AK 364 [.dead,.pv [A3],.pv [.nilS],.pv [.nilS]] [] (.tup []) []:=IQ (l:=[]) (λ _ h=>(Ua h).elim) (AU ZY.s FJ) (by kernel_rfl:Fg HM (Gu []) ((364,ZY.c)::EZ) 1000 40 364 [.dead,.pv [A3],.pv [.nilS],.pv [.nilS]] []=some (_,_))
theorem uO:AK 311 [A3,.nilS,.nilS] [] (.fn (.func 364) [] [.pv [A3],.pv [.nilS],.pv [.nilS]]) []:=by
 refine vN.s.ai ?_;apply ax [3,4,5] [] [16,24,32] 100
 .simp
  rfl
 refine ar [6] [] [] 200 ?_;exact Ca
end Go.Proofs.YtnaemfpgdmfmcaaGreatDoor
namespace Go.Proofs.YtnaemfpgdmfmcaaGreatDoor
open Go Go.RowKit Go.Shelf Go.Maps Go.Sort
variable {T:Nat->Nat} {vs:Array Value} {w:World}
theorem NW (h:vs.size=3):vs = #[vs.getD 0 undef,vs.getD 1 undef,vs.getD 2 undef]:=by
 apply Array.ext
 .simpa using h
 .intro i h1 h2
  have:i=0∨i=1∨i=2:=by simp at h2;omega
  rcases this with rfl | rfl | rfl<;>simp[Array.getD,h1]<;>intro h3<;>omega
theorem Ow (h:vs.size=5):vs = #[vs.getD 0 undef,vs.getD 1 undef,vs.getD 2 undef,vs.getD 3 undef,vs.getD 4 undef]:=by
 apply Array.ext
 .simpa using h
 .intro i h1 h2
  have:i=0∨i=1∨i=2∨i=3∨i=4:=by simp at h2;omega
  rcases this with rfl | rfl | rfl | rfl | rfl<;>simp[Array.getD,h1]<;>intro h3<;>omega
structure Kp (T:Nat->Nat) (w:World) (T':Nat->Nat) (w':World):Prop where
 tok:EW T' w'
 pres:Ag T w T' w'
 os:w'.os=w.os
 tape:w'.tape=w.tape
 output:w'.output=w.output
 size:w.heap.size<=w'.heap.size
 keep:∀ b,b<w.heap.size->w'.heap[b]? = w.heap[b]? /\ T' b=T b
theorem Kp.refl (h:EW T w):Kp T w T w:=⟨h,Ag.refl _ _,rfl,rfl,rfl,Qk _,λ _ _=>⟨rfl,rfl⟩⟩
theorem Kp.trans {T1 T2:Nat->Nat} {w1 w2:World} (a:Kp T w T1 w1) (b:Kp T1 w1 T2 w2):Kp T w T2 w2 :=
 ⟨b.tok,a.pres.trans b.pres,b.os.trans a.os,b.tape.trans a.tape,b.output.trans a.output,QF a.size b.size,λ k hk=>by
  obtain⟨h1,h2⟩:=a.keep k hk;obtain⟨h3,h4⟩:=b.keep k (Ux hk a.size)
  exact⟨h3.trans h1,h4.trans h2⟩⟩
theorem Kp.alloc (h:EW T w) (o:Obj):Kp T w T (w.alloc o):=by
 have hk:∀ b,b<w.heap.size->(w.alloc o).heap[b]? = w.heap[b]?:=λ b hb=>Below.heap_alloc w o b hb;refine⟨λ b hb=>?_,Ag.alloc h rfl,rfl,rfl,rfl,zz,λ b hb=>⟨hk b hb,rfl⟩⟩
 obtain⟨c,ty,fz,h1,h2⟩:=h b hb;exact⟨c,ty,fz,by rw[hk b (QE.1 h1).1];exact h1,h2⟩
theorem Kp.put {T1:Nat->Nat} {w1:World} (a:Kp T w T1 w1) {l:Nat} {o o':Obj} (hl:w.heap.size<=l) (ho:w1.heap[l]? = some o) (hc:∀ c t f,o ≠ .cells c t f):Kp T w T1 (w1.putObj l o'):=by
 have hk:∀ b,b≠l->(w1.putObj l o').heap[b]? = w1.heap[b]?:=λ b hb=>World.putObj_heap_other hb
 have q:∀ b c t f,w1.heap[b]? = some (.cells c t f)->b≠l:=λ b c t f h e=>by
  subst e;rw[ho] at h;exact hc _ _ _ (Qc h)
 refine⟨λ b hb=>?_,a.pres.trans ⟨λ _=>Qk _,λ b c t f h=>⟨c,f,by rw[hk b (q b c t f h)];exact h,rfl,λ _ _=>rfl⟩⟩,a.os,a.tape,a.output,by simpa using a.size,λ b hb=>?_⟩
 .obtain ⟨c,ty,fz,h1,h2⟩:=a.tok b hb
  exact⟨c,ty,fz,by rw[hk b (q b c ty fz h1)];exact h1,h2⟩
 .rw [hk b zy]
  exact a.keep b hb
theorem Ag.put {l:Nat} {o o':Obj} (ho:w.heap[l]? = some o) (hc:∀ c t f,o ≠ .cells c t f):Ag T w T (w.putObj l o') :=
 ⟨λ _=>Qk _,λ b c t f h=>⟨c,f,by
  rw[World.putObj_heap_other]
  .exact h
  .intro e
   subst e;rw[ho] at h
   exact hc _ _ _ (Qc h),rfl,λ _ _=>rfl⟩⟩
theorem OD {P:Program} {f:FuncId} {xs:List AV} {res:AV} (h:Bz P f xs [] res []) (ht:EW T w) (hr:Ej T w (λ _=>none) xs vs) :
  Calls P f vs w λ e w'=>∃ v T',e = .returned v/\(∃ M',AX T' w' M' res v)/\Kp T w T' w':=by
 refine(h.2.2 T (λ _=>none) w vs ht ⟨λ id e he=>by simp[CW] at he,λ id id' e e' g g' b h1=>by simp[CW] at h1⟩ (λ _ _=>rfl) hr).mono ?_
 rintro e w' ⟨v,T',M',rfl,hv,hs,ha⟩
 have hn:∀ b,¬ Fl 0 (λ _=>none) b:=λ b ⟨k,g,hk,_⟩=>absurd hk (Ut k);exact⟨v,T',rfl,⟨M',hv⟩,ha.tok,ha.pres,ha.os,ha.tape,ha.output,ha.size,λ b hb=>⟨ha.keep b hb (hn b),ha.old b hb (hn b)⟩⟩
theorem Zq {M M':GM} {s:Nat} {f:Bool} {rows:List (List AV)} {v:Value} (h:AX T w M (.vs s f rows) v):AX T w M' (.vs s f rows) v:=by
 cases h with
 | vs _ s f rows a cap c hf hl hw hb h1 h=>exact .vs _ s f rows a cap c hf hl hw hb h1 h
theorem Ph {M M':GM} {cs:List AV} {v:Value} (h:AX T w M (.pv cs) v):AX T w M' (.pv cs) v:=by
 cases h with
 | pv _ cs b off cells ty fz c hb ht hc h1 h=>exact .pv _ cs b off cells ty fz c hb ht hc h1 h
theorem qI:AK 272 [A3,A3,.nilS,.nilS,.I 0] [] .nilS []:=by
 refine⟨⟨_,_,Tryz.func272,rfl,zx⟩,zz,λ T M w vs htok hhs hdom hrep=>?_⟩
 obtain⟨hsz,hr⟩:=hrep;have hr0:=hr 0 zz
 have hr1:=hr 1 zz
 have hr2:=hr 2 zz
 have hr3:=hr 3 zz
 have hr4:=hr 4 zz
 simp only[Us,List.getD_cons_succ] at hr0 hr1 hr2 hr3 hr4;rw[Ow hsz];generalize vs.getD 0 undef=v0 at hr0;generalize vs.getD 1 undef=v1 at hr1;generalize vs.getD 2 undef=v2 at hr2;generalize vs.getD 3 undef=v3 at hr3;generalize vs.getD 4 undef=v4 at hr4;obtain rfl:=Bo hr2 rfl;obtain rfl:=Bo hr3 rfl;obtain rfl:=Bo hr4 rfl;rw[<- callsIn_wide (n:=3)];refine callsIn_of_wp_marks Tryz.func272 rfl trivial ?_ rfl;simp only[Tryz.ntmps272,Q4,QV,U7,Nat.reduceAdd,Nat.reduceSub,Array.replicate_succ,Array.replicate_zero,List.push_toArray,List.append_toArray,Uu,Q6];have k0:=Kp.alloc htok (.cells #[.slice none 0 0] 22);obtain⟨W0,hW0⟩:∃ W0,w.alloc (.cells #[.slice none 0 0] 22)=W0:=⟨_,rfl⟩;have hB0:W0.heap[w.heap.size]? = some (.cells #[.slice none 0 0] 22 (0,0)):=by rw[<- hW0];exact World.alloc_heap_new w _
 rw[hW0] at k0;have hv0:AX T W0 (λ _=>none) A3 v0:=(Zq (M':=λ _=>none) hr0).mono k0.pres (λ _ _ h=>h);have hv1:AX T W0 (λ _=>none) A3 v1:=(Zq (M':=λ _=>none) hr1).mono k0.pres (λ _ _ h=>h);have hs0:w.heap.size<W0.heap.size:=(QE.1 hB0).1
 gi_wp2
 refine⟨trivial,?_⟩;rw[callsIn_wide];refine(OD uO k0.tok (vs:=#[v0,.slice none 0 0,.slice none 0 0]) ⟨rfl,λ i hi=>?_⟩).mono ?_
 .match i,hi with
  | 0,_=>exact hv0
  | 1,_=>exact .sc _ _ rfl
  | 2,_=>exact .sc _ _ rfl
 rintro e W1 ⟨v,T1,rfl,⟨M1,hv⟩,k1⟩
 cases hv with
 | fn _ _ _ _ us ws hx hy h h' =>
 have hus:us = #[]:=by simpa using hx
 subst hus;have hw0:=Ph (M':=λ _=>none) (h' 0 zz)
 have hw1:=Ph (M':=λ _=>none) (h' 1 zz)
 have hw2:=Ph (M':=λ _=>none) (h' 2 zz)
 have hws:=NW (vs:=ws) (by simpa using hy)
 clear h h' hx hy
 generalize ws.getD 0 undef=u0 at hw0 hws;generalize ws.getD 1 undef=u1 at hw1 hws;generalize ws.getD 2 undef=u2 at hw2 hws;subst hws;have hD0:W0.heap.size<=W1.heap.size:=k1.size;have hB1:=(k1.keep _ hs0).1.trans hB0;have k01:=k0.trans k1;obtain⟨D,hD⟩:=AR (W1.heap.size)
 gi_wp2
 refine wpIn_rangeFunc ?_;intro fn _
 have eg:∀ (args:Array Value) (W:World),(callFunc 364 args).run Tryz.prog W = .ok (.enter 364 args) W:=λ args W=>by
  simp[callFunc,show Tryz.prog.funcs[364]? = _ from Tryz.func364,Tryz.f364,Sem.run]
 refine⟨W1.heap.size+1,[{ target:=.collected W1.heap.size,args:=#[] }],?W,{ target:=.fn (.func 364) #[u0,u1,u2],args:=#[.func (.yield (W1.heap.size+1)) #[] #[]] },?W,364,
  #[.func (.yield (W1.heap.size+1)) #[] #[]] ++ #[u0,u1,u2],?W,?e1,?e2,?e3,?e4,?e5,?e6⟩
 case e1=>exact run_enterLoop_outer _ _ _ _ _
 case e2=>simp[resolve,go_sem]
 case e3 =>
  intro f' _;trivial
 case e4=>simp[invoke,go_sem,eg]
 case e5 =>
  intro _;omega
 refine(?_:∀ R:Loop,R.state = .ready->R.pending=none->CallsIn Fence.wide (3 - 1) Tryz.prog 364 (#[.func (.yield (W1.heap.size+1)) #[] #[]] ++ #[u0,u1,u2]) ((W1.alloc (.deferred (some []))).alloc (.loop R)) _) _ rfl rfl;intro R hR1 hR2;have ka:=Kp.alloc k1.tok (.deferred (some []));have kb:=Kp.alloc ka.tok (.loop R);have k2:=(k01.trans ka).trans kb
 have hL2:((W1.alloc (.deferred (some []))).alloc (.loop R)).heap[D+1]? = some (.loop R):=by
  have:=World.alloc_heap_new (W1.alloc (.deferred (some []))) (.loop R)
  rwa [World.size_alloc,<- hD] at this
 have hK2:((W1.alloc (.deferred (some []))).alloc (.loop R)).heap[D]? = some (.deferred (some [])):=by
  rw[Below.heap_alloc _ _ D zw,hD]
  exact World.alloc_heap_new W1 _
 have hB2:((W1.alloc (.deferred (some []))).alloc (.loop R)).heap[w.heap.size]? = some (.cells #[.slice none 0 0] 22 (0,0)):=by
  rw[Below.heap_alloc _ _ _ zw,Below.heap_alloc _ _ _ zy]
  exact hB1
 have hz2:((W1.alloc (.deferred (some []))).alloc (.loop R)).heap.size=D+2:=by simp[hD]
 have g0:=hw0.mono (ka.pres.trans kb.pres) (λ _ _ h=>h);have g1:=hw1.mono (ka.pres.trans kb.pres) (λ _ _ h=>h);have g2:=hw2.mono (ka.pres.trans kb.pres) (λ _ _ h=>h);have g9:=hv1.mono (k1.pres.trans (ka.pres.trans kb.pres)) (λ _ _ h=>h);rw[<- hD];generalize ((W1.alloc (.deferred (some []))).alloc (.loop R))=W2 at k2 hL2 hK2 hB2 hz2 g0 g1 g2 g9 ⊢
 clear ka kb
 rw[callsIn_wide];refine(OD sU k2.tok (vs:=#[.func (.yield (D+1)) #[] #[],u0,u1,u2]) ⟨rfl,λ i hi=>?_⟩).mono ?_
 .match i,hi with
  | 0,_=>exact .dead _ _
  | 1,_=>exact g0
  | 2,_=>exact g1
  | 3,_=>exact g2
 rintro e W3 ⟨v',T3,rfl,_,k3⟩
 have hL3:=(k3.keep (D+1) zy).1.trans hL2
 have hK3:=(k3.keep D zy).1.trans hK2
 have hB3:=(k3.keep w.heap.size zy).1.trans hB2
 have hend:=run_endLoop (P:=Tryz.prog) hL3 (by rw[hR1];decide)
 obtain⟨R2,hR2'⟩:∃ R2:Loop,R2={ R with state:=.exhausted }:=⟨_,rfl⟩;rw[<- hR2'] at hend;rw[hR2] at hend;refine⟨none,_,hend,?_⟩;simp only[<- hD];have k4:=(k2.trans k3).put (l:=D+1) (o':=.loop R2) zy hL3 (λ _ _ _ e=>by cases e)
 have hB4:(W3.putObj (D+1) (.loop R2)).heap[w.heap.size]? = some (.cells #[.slice none 0 0] 22 (0,0)):=(World.putObj_heap_other zy).trans hB3
 have hK4:(W3.putObj (D+1) (.loop R2)).heap[D]? = some (.deferred (some [])):=(World.putObj_heap_other zy).trans hK3
 have g4:=(g9.mono k3.pres (λ _ _ h=>h)).mono (Ag.put (T:=T3) (o':=.loop R2) hL3 (λ _ _ _ e=>by cases e)) (λ _ _ h=>h)
 have hz4:(W3.putObj (D+1) (.loop R2)).heap.size=W3.heap.size:=World.putObj_size;have hz3:=k3.size;generalize (W3.putObj (D+1) (.loop R2))=W4 at k4 hB4 hK4 g4 hz4 ⊢;have hc4:W4.cell? ⟨w.heap.size,0,none⟩=some (.slice none 0 0):=by simp[World.cell?,hB4]
 simp only[Q6,Uu]
 gi_wp2
 refine⟨trivial,?_⟩;rw[callsIn_wide];refine(OD i4 k4.tok (vs:=#[.slice none 0 0,v1,.int .i64 0]) ⟨rfl,λ i hi=>?_⟩).mono ?_
 .match i,hi with
  | 0,_=>exact .sc _ _ rfl
  | 1,_=>exact g4
  | 2,_=>exact .sc _ _ rfl
 rintro e W5 ⟨v'',T5,rfl,⟨M5,hv5⟩,k5⟩
 obtain rfl:=Bo hv5 rfl;have hK5:=(k5.keep D zy).1.trans hK4
 have k45:=k4.trans k5;have k6:=k45.put (l:=D) (o':=.deferred none) zy hK5 (λ _ _ _ e=>by cases e)
 have hz5:=k5.size
 gi_wp2
 simp only[<- hD];refine⟨zz,.inl ⟨_,_,rfl,run_takeDeferred hK5,?_⟩⟩
 refine⟨_,results_tmp rfl _ _ _,.slice none 0 0,T5,λ _=>none,rfl,.sc _ _ rfl,⟨λ id e he=>by simp[Eg] at he,λ id id' e e' g g' b h1=>by simp[Eg] at h1⟩,?_⟩
 exact⟨k6.tok,λ b hb _=>(k6.keep b hb).2,λ k hk=>absurd hk (Ut k),k6.os,k6.tape,k6.output,k6.size,λ b hb _=>(k6.keep b hb).1,k6.pres,λ _ _ _ _ h=>by cases h⟩
abbrev O0:Cy:=⟨303,[FM,.vs 13 false [],.I 0],.tup [A3,.I 0],[]⟩
abbrev KJ:Cy:=⟨246,[A3],.B true,[]⟩
abbrev PK:Cy:=⟨272,[A3,A3,.nilS,.nilS,.I 0],.nilS,[]⟩
abbrev RO:AV:=.agg [.I 0,A3,.sc (.string M9),.B false,.nilS,.nilS]
abbrev JW:Cy:=⟨305,[FM,.vs 13 false [],RO],.tup [.nilS,.I 0],[]⟩
theorem EE {l:List Cy} {q:Cy} (h:q.Ok Tryz.prog) (hl:∀ q∈l,q.Ok Tryz.prog):∀ x∈q::l,x.Ok Tryz.prog:=λ x hx=>by
 rcases Qw.1 hx with rfl | hx
 .exact h
 .exact hl x hx
theorem Tx:∀ q∈([]:List Cy),q.Ok Tryz.prog:=λ _ h=>(Ua h).elim
def lR:List Cy:=[Gv,Jx,KJ]
theorem pR:∀ q∈lR,q.Ok Tryz.prog:=EE PA (EE Km (EE Xn Tx))
def outA (j:Int):List AV:=[FM,.vs 13 false [],RO,.agg [.I 0,.I 2,.I j,.I 0]]
def fOut (j:Int):Cy:=⟨226,outA j,.tup [.agg [.nilS,.nilS],.B false,.I 0],[]⟩
def outB (j:Int):Bool:=match Fg HM (Gu lR) EZ 1000 40 226 (outA j) [] with
 | some (.tup [a,b,c],[])=>II 6 a (.agg [.nilS,.nilS]) && (II 6 b (.B false) && II 6 c (.I 0))
 | _=>false
theorem out_ok {j:Int} (h:outB j=true):(fOut j).Ok Tryz.prog:=by
 unfold outB at h
 split at h
 · rename_i e
   rw[Bool.and_eq_true,Bool.and_eq_true] at h
   rw[Jh 6 _ _ h.1,Jh 6 _ _ h.2.1,Jh 6 _ _ h.2.2] at e
   exact IQ pR FJ e
 · cases h
def outJ (a:Nat):List Int:=(List.range 16).map fun k=>((a+k:Nat):Int)
theorem out_0:(outJ 0).all outB=true:=by kernel_rfl
theorem out_1:(outJ 16).all outB=true:=by kernel_rfl
theorem out_2:(outJ 32).all outB=true:=by kernel_rfl
theorem out_3:(outJ 48).all outB=true:=by kernel_rfl
def lOut:List Cy:=Gv::Jx::(outJ 0++(outJ 16++(outJ 32++outJ 48))).map fOut
theorem lOut_ok:∀ q∈lOut,q.Ok Tryz.prog:=EE PA (EE Km fun q hq=>by
 obtain ⟨j,hj,rfl⟩:=List.mem_map.1 hq
 refine out_ok ?_
 rcases List.mem_append.1 hj with hj | hj
 · exact List.all_eq_true.1 out_0 j hj
 rcases List.mem_append.1 hj with hj | hj
 · exact List.all_eq_true.1 out_1 j hj
 rcases List.mem_append.1 hj with hj | hj
 · exact List.all_eq_true.1 out_2 j hj
 · exact List.all_eq_true.1 out_3 j hj)
theorem uS:JW.Ok Tryz.prog:=IQ lOut_ok FJ (by kernel_rfl:Fg HM (Gu lOut) EZ 1000 40 305 [FM,.vs 13 false [],RO] []=some (_,_))
end Go.Proofs.YtnaemfpgdmfmcaaGreatDoor
namespace Go.Proofs
open Go.Shelf
def Tryz.laysB_ren:Go.Shelf.Ren:=⟨fun | 166=>287 | 169=>290 | 240=>332 | 276=>375 | n=>n,fun | 37=>176 | 70=>375 | 72=>377 | 75=>379 | 80=>384 | 127=>422 | 164=>456 | n=>n,fun | n=>n⟩
theorem Tryz.lays166:Go.Proofs.Lays.n166 Tryz.prog Tryz.laysB_ren:={
 mixed:=by kernel_rfl
 f166:=Tryz.func287.trans (congrArg some (by kernel_rfl))
 f240:=Tryz.func332.trans (congrArg some (by kernel_rfl))
 f276:=Tryz.func375.trans (congrArg some (by kernel_rfl))
 t0:=Tryz.underlying0
 a0:=Tryz.isAgg0
 z0:=Tryz.sizeOf0
 v0:=Tryz.zeroValue0
 t3:=Tryz.underlying3
 a3:=Tryz.isAgg3
 z3:=Tryz.sizeOf3
 v3:=Tryz.zeroValue3
 t4:=Tryz.underlying4
 a4:=Tryz.isAgg4
 z4:=Tryz.sizeOf4
 v4:=Tryz.zeroValue4
 t9:=Tryz.underlying9
 a9:=Tryz.isAgg9
 z9:=Tryz.sizeOf9
 v9:=Tryz.zeroValue9
 t20:=Tryz.underlying20
 a20:=Tryz.isAgg20
 z20:=Tryz.sizeOf20
 v20:=Tryz.zeroValue20
 t37:=Tryz.underlying176
 a37:=Tryz.isAgg176
 z37:=Tryz.sizeOf176
 v37:=Tryz.zeroValue176
 t70:=Tryz.underlying375
 a70:=Tryz.isAgg375
 z70:=Tryz.sizeOf375
 v70:=Tryz.zeroValue375
 t72:=Tryz.underlying377
 a72:=Tryz.isAgg377
 z72:=Tryz.sizeOf377
 v72:=Tryz.zeroValue377
 t75:=Tryz.underlying379
 a75:=Tryz.isAgg379
 z75:=Tryz.sizeOf379
 v75:=Tryz.zeroValue379
 t164:=Tryz.underlying456
 a164:=Tryz.isAgg456
 z164:=Tryz.sizeOf456
 v164:=Tryz.zeroValue456 }
theorem Tryz.lays169:Go.Proofs.Lays.n169 Tryz.prog Tryz.laysB_ren:={
 mixed:=by kernel_rfl
 f169:=Tryz.func290.trans (congrArg some (by kernel_rfl))
 t0:=Tryz.underlying0
 a0:=Tryz.isAgg0
 z0:=Tryz.sizeOf0
 v0:=Tryz.zeroValue0
 t3:=Tryz.underlying3
 a3:=Tryz.isAgg3
 z3:=Tryz.sizeOf3
 v3:=Tryz.zeroValue3
 t9:=Tryz.underlying9
 a9:=Tryz.isAgg9
 z9:=Tryz.sizeOf9
 v9:=Tryz.zeroValue9
 t37:=Tryz.underlying176
 a37:=Tryz.isAgg176
 z37:=Tryz.sizeOf176
 v37:=Tryz.zeroValue176
 t70:=Tryz.underlying375
 a70:=Tryz.isAgg375
 z70:=Tryz.sizeOf375
 v70:=Tryz.zeroValue375
 t72:=Tryz.underlying377
 a72:=Tryz.isAgg377
 z72:=Tryz.sizeOf377
 v72:=Tryz.zeroValue377
 t127:=Tryz.underlying422
 a127:=Tryz.isAgg422
 z127:=Tryz.sizeOf422
 v127:=Tryz.zeroValue422 }
theorem Tryz.extraB:Go.Proofs.Builder.Extra Tryz.prog Tryz.laysB_ren:={
 sizeBuilder:=by kernel_rfl
 liesBuilder:=by kernel_rfl
 t5:=Tryz.underlying5
 a5:=Tryz.isAgg5
 z5:=Tryz.sizeOf5
 v5:=Tryz.zeroValue5
 infoByte:=by kernel_rfl
 cellsByte:=by kernel_rfl
 sizeByte:=by kernel_rfl
 neB5:=by decide }
def Tryz.lays171_ren:Go.Shelf.Ren:=⟨fun | 171=>288 | 243=>333 | 246=>376 | 283=>404 | 284=>405 | 285=>406 | 286=>407 | 129=>206 | 317=>428 | 318=>429 | 319=>430 | 320=>431 | 337=>445 | 338=>446 | n=>n,fun | 3=>3 | 9=>9 | 2=>2 | 4=>4 | 171=>490 | 0=>0 | 53=>224 | 37=>176 | 5=>5 | 173=>492 | 212=>514 | 51=>225 | 20=>20 | 213=>515 | 46=>186 | 232=>538 | 233=>539 | n=>n,fun | 17=>1 | 18=>9 | 19=>10 | n=>n⟩
theorem Tryz.lays171:Go.Proofs.Lays.n171 Tryz.prog Tryz.lays171_ren:={
 mixed:=by kernel_rfl
 f129:=Tryz.func206.trans (congrArg some (by kernel_rfl))
 f171:=Tryz.func288.trans (congrArg some (by kernel_rfl))
 f243:=Tryz.func333.trans (congrArg some (by kernel_rfl))
 f246:=Tryz.func376.trans (congrArg some (by kernel_rfl))
 f283:=Tryz.func404.trans (congrArg some (by kernel_rfl))
 f284:=Tryz.func405.trans (congrArg some (by kernel_rfl))
 f285:=Tryz.func406.trans (congrArg some (by kernel_rfl))
 f286:=Tryz.func407.trans (congrArg some (by kernel_rfl))
 f317:=Tryz.func428.trans (congrArg some (by kernel_rfl))
 f318:=Tryz.func429.trans (congrArg some (by kernel_rfl))
 f319:=Tryz.func430.trans (congrArg some (by kernel_rfl))
 f320:=Tryz.func431.trans (congrArg some (by kernel_rfl))
 f337:=Tryz.func445.trans (congrArg some (by kernel_rfl))
 f338:=Tryz.func446.trans (congrArg some (by kernel_rfl))
 t0:=Tryz.underlying0
 a0:=Tryz.isAgg0
 z0:=Tryz.sizeOf0
 v0:=Tryz.zeroValue0
 t2:=Tryz.underlying2
 a2:=Tryz.isAgg2
 z2:=Tryz.sizeOf2
 v2:=Tryz.zeroValue2
 t3:=Tryz.underlying3
 a3:=Tryz.isAgg3
 z3:=Tryz.sizeOf3
 v3:=Tryz.zeroValue3
 t4:=Tryz.underlying4
 a4:=Tryz.isAgg4
 z4:=Tryz.sizeOf4
 v4:=Tryz.zeroValue4
 t5:=Tryz.underlying5
 a5:=Tryz.isAgg5
 z5:=Tryz.sizeOf5
 v5:=Tryz.zeroValue5
 t9:=Tryz.underlying9
 a9:=Tryz.isAgg9
 z9:=Tryz.sizeOf9
 v9:=Tryz.zeroValue9
 t20:=Tryz.underlying20
 a20:=Tryz.isAgg20
 z20:=Tryz.sizeOf20
 v20:=Tryz.zeroValue20
 t37:=Tryz.underlying176
 a37:=Tryz.isAgg176
 z37:=Tryz.sizeOf176
 v37:=Tryz.zeroValue176
 t46:=Tryz.underlying186
 a46:=Tryz.isAgg186
 z46:=Tryz.sizeOf186
 v46:=Tryz.zeroValue186
 t51:=Tryz.underlying225
 a51:=Tryz.isAgg225
 z51:=Tryz.sizeOf225
 v51:=Tryz.zeroValue225
 t53:=Tryz.underlying224
 a53:=Tryz.isAgg224
 z53:=Tryz.sizeOf224
 v53:=Tryz.zeroValue224
 t171:=Tryz.underlying490
 a171:=Tryz.isAgg490
 z171:=Tryz.sizeOf490
 v171:=Tryz.zeroValue490
 t173:=Tryz.underlying492
 a173:=Tryz.isAgg492
 z173:=Tryz.sizeOf492
 v173:=Tryz.zeroValue492
 t212:=Tryz.underlying514
 a212:=Tryz.isAgg514
 z212:=Tryz.sizeOf514
 v212:=Tryz.zeroValue514
 t213:=Tryz.underlying515
 a213:=Tryz.isAgg515
 z213:=Tryz.sizeOf515
 t232:=Tryz.underlying538
 a232:=Tryz.isAgg538
 z232:=Tryz.sizeOf538
 v232:=Tryz.zeroValue538
 t233:=Tryz.underlying539
 a233:=Tryz.isAgg539
 z233:=Tryz.sizeOf539
 v233:=Tryz.zeroValue539
 g17:=by kernel_rfl
 g18:=by kernel_rfl
 g19:=by kernel_rfl }
end Go.Proofs
namespace Go.Proofs.YtnaemfpgdmfmcaaGreatDoor
open Go Go.RowKit Go.Shelf Go.Maps Go.Sort
theorem Wu {B:Nat} {bs:List Value} {s:ByteArray} {W:World} (h:Lib.IsBuilder 377 5 B B bs W) (q:bs.length+s.size<=140737488355328) (u:B<=W.heap.size) :
  Calls Tryz.prog 287 #[.pointer (some ⟨B,0,none⟩),.string s] W λ e w'=>e = .returned (.tuple #[.int .i64 s.size,.nilIface])/\Lib.IsBuilder 377 5 B B (bs++Lib.strCells s) w'/\Below B W w' :=
 (Any.Builder_WriteString Tryz.lays166 Tryz.extraB B B bs s W h q u).mono λ _ _ ⟨h1,h2,h3⟩=>⟨h1,.inr h2,h3⟩
theorem Pz (i:Nat) (hi:i<100) (W:World):Calls Tryz.prog 288 #[.int .i64 i] W λ e w'=>e = .returned (.string ⟨(Lib.decDigits i).toArray⟩)/\w'=W:=Any.strconv_Itoa_small Tryz.lays171 i hi W
theorem uW {B:Nat} {l:List UInt8} {W:World} (h:Lib.IsBuilder 377 5 B B (Lib.byteCells l) W) (q:B<=W.heap.size) :
  Calls Tryz.prog 290 #[.pointer (some ⟨B,0,none⟩)] W λ e w'=>e = .returned (.string ⟨l.toArray⟩)/\Below B W w':=Any.Builder_String_any Tryz.lays169 Tryz.extraB B B l W h q
theorem O2 (W:World):Calls Tryz.prog 288 #[.int .i64 1] W λ e w'=>e = .returned (.string ⟨#[49]⟩)/\w'=W:=(Pz 1 zx W).mono λ _ _ ⟨h1,h2⟩=>⟨h1.trans (by rw[Lib.decDigits_one zx];rfl),h2⟩
theorem OS (W:World):Calls Tryz.prog 288 #[.int .i64 0] W λ e w'=>e = .returned (.string ⟨#[48]⟩)/\w'=W:=(Pz 0 zx W).mono λ _ _ ⟨h1,h2⟩=>⟨h1.trans (by rw[Lib.decDigits_one zx];rfl),h2⟩
theorem tN:(⟨#[49]⟩++⟨#[44]⟩:ByteArray)=⟨#[49,44]⟩:=zx
theorem rO:(⟨#[48]⟩++⟨#[44]⟩:ByteArray)=⟨#[48,44]⟩:=zx
theorem Kp.below {T:Nat->Nat} {w w1 w2:World} {B:Nat} (ht:EW T w) (hB:w.heap.size<=B) (a:Kp T w T w1) (h:Below B w1 w2):Kp T w T w2:=by
 have hk:∀ b,b<w.heap.size->w2.heap[b]? = w.heap[b]?:=λ b hb=>(h.block b (Ux hb hB)).trans (a.keep b hb).1;refine⟨λ b hb=>?_,⟨λ _=>Qk _,λ b c t f hb=>⟨c,f,(hk b (QE.1 hb).1).trans hb,rfl,λ _ _=>rfl⟩⟩,h.os.trans a.os,h.tape.trans a.tape,h.output.trans a.output,QF a.size h.size,λ b hb=>⟨hk b hb,rfl⟩⟩;obtain⟨c,ty,fz,h1,h2⟩:=ht b hb;exact⟨c,ty,fz,(hk b (QE.1 h1).1).trans h1,h2⟩
theorem n3:AK 247 [.agg [.vs 1 false [[.I 1],[.I 0]],.vs 3 false []]] [] (.sc (.string ⟨#[49,44,48,44]⟩)) []:=by
 refine⟨⟨_,_,Tryz.func247,rfl,zx⟩,zz,λ T M w vs htok hhs hdom hrep=>?_⟩
 obtain⟨hsz,hr⟩:=hrep;have hr0:=hr 0 zz
 simp only[Us] at hr0;rw[Hu hsz];generalize vs.getD 0 undef=v at hr0
 cases hr0 with
 | agg _ cs us hl h1 h =>
 have e0:=h 0 zz
 have e1:=h 1 zz
 simp only[Us,List.getD_cons_succ] at e0 e1;rw[Jj (vs:=us) (by simpa using hl)]
 generalize us.getD 0 undef=u0 at e0;generalize us.getD 1 undef=u1 at e1
 clear h h1 hl us hr hsz
 obtain⟨pa,pc,rfl⟩:∃ pa pc,u1 = .slice pa 0 pc:=by
  cases e1 with
  | vs _ s full rows a cap c hf hlr hw hb h1 h=>exact⟨_,_,rfl⟩
 cases e0 with
 | vs _ s full rows a cap c hf hlr hw hb h1 h =>
 obtain⟨b,off,cells,ty,fz,rfl,hbk,ht,hc⟩:=hb zz
 have r0:=Bo (h 0 0 zz zz) rfl
 have r1:=Bo (h 1 0 zz zz) rfl
 have c0:=hc 0 0 zz zz
 have c1:=hc 1 0 zz zz
 rw[r0] at c0;rw[r1] at c1;simp only[Nat.zero_mul,Nat.one_mul,QY] at c0 c1
 clear r0 r1 hc h h1 hb hw hf
 have hlt:b<w.heap.size:=(QE.1 hbk).1;rw[<- callsIn_wide (n:=3)];refine callsIn_of_wp Tryz.func247 rfl trivial ?_ rfl;simp only[Tryz.ntmps247,Q4,QV,U7,Nat.reduceAdd,Nat.reduceSub,Array.replicate_succ,Array.replicate_zero,List.push_toArray,List.append_toArray,Uu,Q6]
 gi_wp2
 have hbl:Lib.IsBuilder 377 5 (w.heap.size+1) (w.heap.size+1) [] ((w.alloc (Obj.cells #[Value.slice (some { block:=b,off:=off }) 2 cap,Value.slice pa 0 pc] 67)).alloc (Obj.cells #[Value.pointer none,Value.slice none 0 0] 377)):=by
  have:=Lib.fresh_isBuilder 377 5 (w.alloc (Obj.cells #[Value.slice (some { block:=b,off:=off }) 2 cap,Value.slice pa 0 pc] 67))
  simpa using this
 have kk:=(Kp.alloc htok (Obj.cells #[Value.slice (some { block:=b,off:=off }) 2 cap,Value.slice pa 0 pc] 67)).trans (Kp.alloc (Kp.alloc htok (Obj.cells #[Value.slice (some { block:=b,off:=off }) 2 cap,Value.slice pa 0 pc] 67)).tok (Obj.cells #[Value.pointer none,Value.slice none 0 0] 377))
 have hx:((w.alloc (Obj.cells #[Value.slice (some { block:=b,off:=off }) 2 cap,Value.slice pa 0 pc] 67)).alloc (Obj.cells #[Value.pointer none,Value.slice none 0 0] 377)).heap[w.heap.size]? = some (Obj.cells #[Value.slice (some { block:=b,off:=off }) 2 cap,Value.slice pa 0 pc] 67 (0,0)):=by
  rw[Below.heap_alloc _ _ _ zz]
  exact World.alloc_heap_new w _
 have hz:((w.alloc (Obj.cells #[Value.slice (some { block:=b,off:=off }) 2 cap,Value.slice pa 0 pc] 67)).alloc (Obj.cells #[Value.pointer none,Value.slice none 0 0] 377)).heap.size=w.heap.size+2:=zz
 generalize (w.alloc (Obj.cells #[Value.slice (some { block:=b,off:=off }) 2 cap,Value.slice pa 0 pc] 67)).alloc (Obj.cells #[Value.pointer none,Value.slice none 0 0] 377)=W2 at hbl kk hx hz ⊢;have hb2:=(kk.keep b hlt).1.trans hbk;have d0:W2.cell? ⟨b,off,none⟩=some (.int .i64 1):=by simp[World.cell?,hb2,c0]
 have d1:W2.cell? ⟨b,off+1,none⟩=some (.int .i64 0):=by simp[World.cell?,hb2,c1]
 refine wpIn_loop_rounds 3 ?_;rw[roundsIn_succ]
 gi_wp2
 refine⟨trivial,?_⟩;rw[callsIn_wide];refine(O2 W2).mono ?_
 rintro e w' ⟨rfl,h2⟩
 obtain rfl:=h2.symm
 gi_wp2
 rw[tN];refine⟨trivial,?_⟩;rw[callsIn_wide];refine(Wu (s:=⟨#[49,44]⟩) hbl zx zy).mono ?_
 rintro e W3 ⟨rfl,hb3,k3⟩
 have d3:W3.cell? ⟨b,off+1,none⟩=some (.int .i64 0):=by simp[World.cell?,k3.block b zy,hb2,c1]
 have hz3:=k3.size
 gi_wp2
 rw[roundsIn_succ]
 gi_wp2
 refine⟨trivial,?_⟩;rw[callsIn_wide];refine(OS W3).mono ?_
 rintro e w' ⟨rfl,h2⟩
 obtain rfl:=h2.symm
 gi_wp2
 rw[rO];refine⟨trivial,?_⟩;rw[callsIn_wide];refine(Wu (s:=⟨#[48,44]⟩) hb3 zx zy).mono ?_
 rintro e W4 ⟨rfl,hb4,k4⟩
 have k24:=k3.trans k4;have hx4:=(k24.block w.heap.size zy).trans hx
 have p0:W4.cell? ⟨w.heap.size,0,none⟩=some (.slice (some ⟨b,off,none⟩) 2 cap):=by simp[World.cell?,hx4]
 have p1:W4.cell? ⟨w.heap.size,1,none⟩=some (.slice pa 0 pc):=by simp[World.cell?,hx4]
 have hz4:=k4.size
 gi_wp2
 rw[roundsIn_succ]
 gi_wp2
 refine wpIn_loop_rounds 1 ?_;rw[roundsIn_succ]
 gi_wp2
 refine⟨trivial,?_⟩;rw[callsIn_wide];refine(uW (l:=[49,44,48,44]) hb4 zy).mono ?_
 rintro e W5 ⟨rfl,k5⟩
 gi_wp2
 go_ret
 have k6:=Kp.below htok zy kk (k24.trans k5)
 refine⟨_,T,λ _=>none,rfl,.sc _ _ rfl,⟨λ id e he=>by simp[Eg] at he,λ id id' e e' g g' b h1=>by simp[Eg] at h1⟩,?_⟩
 exact⟨k6.tok,λ b hb _=>(k6.keep b hb).2,λ k hk=>absurd hk (Ut k),k6.os,k6.tape,k6.output,k6.size,λ b hb _=>(k6.keep b hb).1,k6.pres,λ _ _ _ _ h=>by cases h⟩
abbrev KS:Cy:=⟨92,[.vs 3 false []],.rs 0 0 0,[some ⟨3,[],0⟩]⟩
theorem cY:KS.Ok Tryz.prog:=by
 refine K8 λ ad c=>?_;refine Nr.s.ai ?_;refine AB (AY ?_);refine CX ⟨8,[(0,.vs 3 false [])],[],40⟩ ?_ ?_
 .refine AB (AY ?_)
  refine AI _ rfl (λ h3=>?_) λ h3=>?_
  .refine arc ⟨8,[(2,.rs 40 0 0)],[(40,some ⟨3,[],0⟩)],48⟩ ?_ ?_
   .simp
    exact Le.lst [] [] [(40,3)] rfl zz zz zz zz zz zz zz (by simp[Up]) zz
   exact Bx [40] []
  exact AN (Le.slots rfl rfl (by simp;exact .mt _ _ _))
 refine AB (Al (s:=?s5) rfl ?o5 ?q5)
 case o5=>simp[List.replicate];rfl
 exact Bx [56] []
abbrev JK:Cy:=⟨231,[.vs 13 false []],.rs 0 0 0,[some ⟨13,[],0⟩]⟩
theorem nZ:JK.Ok Tryz.prog:=by
 refine K8 λ ad c=>?_;refine MX.s.ai ?_;refine AB (AY ?_);refine CX ⟨8,[(0,.vs 13 false [])],[],40⟩ ?_ ?_
 .refine AB (AY ?_)
  refine AI _ rfl (λ h3=>?_) λ h3=>?_
  .refine arc ⟨8,[(2,.rs 40 0 0)],[(40,some ⟨13,[],0⟩)],48⟩ ?_ ?_
   .simp
    exact Le.lst [] [] [(40,13)] rfl zz zz zz zz zz zz zz (by simp[Up]) zz
   exact Bx [40] []
  exact AN (Le.slots rfl rfl (by simp;exact .mt _ _ _))
 refine AB (Al (s:=?s5) rfl ?o5 ?q5)
 case o5=>simp[List.replicate];rfl
 exact Bx [56] []
abbrev Js:Cy:=⟨48,[.vs 1 false []],.rs 0 0 0,[some ⟨1,[],0⟩]⟩
theorem aN:Js.Ok Tryz.prog:=Gy [] zz
abbrev PW:Cy:=⟨247,[.agg [.vs 1 false [[.I 1],[.I 0]],.vs 3 false []]],.sc (.string ⟨#[49,44,48,44]⟩),[]⟩
def lW:List Cy:=[Gv,Jx,KJ,O0,PK,JW,VW,Rk,W6,KS,JK,Js,PW]
theorem Tv:∀ q∈lW,q.Ok Tryz.prog:=EE PA (EE Km (EE Xn (EE cK (EE qI (EE uS (EE oL (EE mL (EE aV (EE cY (EE nZ (EE aN (EE n3 Tx))))))))))))
abbrev Ke:Cy:=⟨44,[FM,.agg [.I 0,.nilS],.I 5],.tup [.rs 0 0 1,.I 0],[some ⟨6,[[.I 10,.I 0,.I 1,.I 0,.rs 1 0 2,.rs 2 0 0]],0⟩,some ⟨1,[[.I 1],[.I 0]],0⟩,some ⟨3,[],0⟩]⟩
theorem g8:Ke.Ok Tryz.prog:=IQ Tv FJ (by kernel_rfl:Fg HM (Gu lW) EZ 1000 40 44 [FM,.agg [.I 0,.nilS],.I 5] []=some (_,_))
theorem gV:AK 5 [] [] (.B true) []:=IQ (EE g8 Tv) FJ (by kernel_rfl:Fg HM (Gu (Ke::lW)) EZ 1000 40 5 [] []=some (_,_))
end Go.Proofs.YtnaemfpgdmfmcaaGreatDoor
namespace Go.Proofs.YtnaemfpgdmfmcaaGreatDoor
open Go Go.ChangeShapes Go.WideShapes Go.ChangeAt Go.RowKit
theorem lV (H:Type) (enc:TypeId × Value->H) (W:World) (base:Nat) (args:Array Value) (ds gs:List (DataW H)) (before:List MemPlace) (u:∀ (j:Nat) t v,Tryz.f3.params[j]? = some t->args[j]? = some v->Value.okWide Tryz.prog W .any base t v) (hW:DataW.Whole enc Tryz.prog Tryz.f3.params.toList Rows.topLossSpec.vars false W args.toList ds gs before) :
  Calls Tryz.prog 3 args W λ e W'=>∃ v,e = .returned v/\Rows.topLossSpec.post enc Tryz.prog Tryz.f3 false true false false W args v W':=by
 have hp:Tryz.f3.params.toList=[22,5]:=by rw[Tryz.params3]
 have h2:∃ d0 d1,ds=[d0,d1]:=by
  obtain⟨p,q,hA,_⟩:=hW;rw[hp] at hA;obtain⟨_,_,d0,d1,_,_,_,rfl,_⟩:=trodAll_two hA;exact⟨d0,d1,rfl⟩
 obtain⟨d0,d1,rfl⟩:=h2;refine oK (P:=Tryz.prog) (f:=Tryz.f3) (s:=Rows.topLossSpec) (n:=2) (tb:=4) tH hp ?_ ?_ Tryz.underlying4 ?_ u hW ?_ ?_ ?_ λ xs h3=>?_
 .kernel_rfl
 .kernel_rfl
 .rfl
 .rfl
 .rfl
 .rfl
 obtain⟨e0,e1,x0,x1,he,rfl,h0,h1⟩:=qP h3;obtain⟨l0,w0⟩:=mP (tI:=3) Tryz.underlying3 Tryz.underlying22 (by kernel_rfl) h0
 obtain⟨n1,rfl,f1,f1b⟩:=jP Tryz.underlying5 h1;refine iN (ys:=[AA l0,.sc (.int .u8 n1)]) rfl (λ i hi=>?_) (bL gV l0 n1 ⟨f1,f1b⟩)
 match i with
 | 0=>exact w0
 | 1=>exact .refl _
end Go.Proofs.YtnaemfpgdmfmcaaGreatDoor
namespace Go.Proofs.YtnaemfpgdmfmcaaGreatDoor
open Go Go.ChangeShapes Go.WideShapes Go.ChangeAt Go.RowKit
theorem oN (os:Os) (q:os.Started) (H:Type) (enc:TypeId × Value->H) :
  ReturnsInHanded {} Tryz.checked os 3 .any (λ w args=>(Rows.topLossSpec.pre enc Tryz.prog Tryz.f3 Rows.topLossRow.domain false w args/\laidMetH Tryz.prog Rows.topLossRow.laid w)/\sizedMet enc Tryz.prog Tryz.f3 (OpenSpec.ofChange Rows.topLossSpec) false w args)
   (Rows.topLossSpec.post enc Tryz.prog Tryz.f3 false true false false):=by
 refine returnsInHanded_of_change_and (C:=Tryz.checked) (X:=λ w _=>laidMetH Tryz.prog Rows.topLossRow.laid w) (λ _ _ _ hh h=>h.of_heap hh) NV q (by kernel_rfl) Tryz.func3
  (ChangeSpec.witness_shaped (enc:=enc) (C:=Tryz.checked) (os:=os) (X:=λ w _=>laidMetH Tryz.prog Rows.topLossRow.laid w) false (World.laidAll Tryz.prog os Rows.topLossRow.laid) #[.slice none 0 0,.int .u8 0] 8 (World.laidAll_os _ _ _)
   (World.shaped_of_ZipB (by kernel_rfl) (by kernel_rfl)) (by kernel_rfl) (by kernel_rfl) (by kernel_rfl)
   (by rw[MakeChecks.laidMetH_plain _ _ _ (by kernel_rfl)];exact laidMet_laidAll _ (by kernel_rfl) (by kernel_rfl))) ?_
 intro W base args ds gs before u hW _ _ _ _;exact lV H enc W base args ds gs before u hW
end Go.Proofs.YtnaemfpgdmfmcaaGreatDoor
