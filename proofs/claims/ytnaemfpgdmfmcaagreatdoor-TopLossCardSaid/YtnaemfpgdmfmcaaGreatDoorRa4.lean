/- Texts of this claim,merged. -/
import Derived.Test.YtnaemfpgdmfmcaaGreatDoorRa3
import Derived.Shelf.SlIterI.Collect
import Derived.RangeFuncLeaves
set_option linter.unusedSimpArgs false
set_option linter.unusedVariables false
set_option linter.unusedSectionVars false
set_option maxRecDepth 100000
set_option maxHeartbeats 8000000
noncomputable section
namespace Go.Proofs.YtnaemfpgdmfmcaaGreatDoor
open Go
theorem Rw (f:FuncId) (aA:List AV) (q:Int->Bool) (l:List Int) (hl:l.length<=1099511627776) (hs:E0 aA) (hc:∀ e∈l,AK f (AV.I e::aA) [] (.B (q e)) []):AK 106 [AA l,.fn (.func f) [] aA] [] (.I (BU l q)) []:=by
 have h5:∀ ρ sn h,aA.map (conv ρ sn h 2)=aA:=λ _ _ _=>hs _ _ _ 1
 have u:∀ ρ sn h,aA.map (conv ρ sn h 3)=aA:=λ _ _ _=>hs _ _ _ 2
 have h1:∀ ρ sn h,aA.map (conv ρ sn h 4)=aA:=λ _ _ _=>hs _ _ _ 3
 refine NM.s.ai ?_;refine AB (AY ?_);refine AB (AB (AY ?_));refine AT (As (ι:=Nat) (λ k=>⟨19,[(0,AA l),(1,.fn (.func f) [] aA),(7,.I l.length),(8,.I k)],[],16⟩) (λ k=>k<=l.length /\ ∀ i,i<k -> ∀ h:i<l.length,q l[i]=false) (λ k=>l.length - k) (0) ?_ (A5 [] (by simp[u])) ?_)
 .simp
 rintro k ⟨hk,hp⟩
 refine AB (AY ?_);refine AB (AI _ rfl (λ h4=>?_) λ h4=>?_)
 .try simp at h4
  have h2:=w6 (x:=((k:Int)+1));have h3:=hc l[k] (Qj h4);refine AN (AB (AT (AB (Al (s:=?s5) rfl ?o5 ?q5))))
  case o5=>simp[h4];rfl
  refine AB (Al (s:=?s6) rfl ?o6 ?q6)
  case o6 =>
   simp[h4];refine A4 h3 ?_ ?_
   .simp [h1]
   simp;rfl
  refine AI _ rfl (λ h7=>?_) λ h7=>?_
  .try simp at h7
   refine AB (AY ?_);exact A8 (AW.one (by simp[Lc h4 hp h7]))
  try simp at h7
  refine AN (Al (s:=?s9) rfl ?o9 ?q9)
  case o9=>simp[h2];rfl
  refine⟨k+1,⟨h4,λ i hi=>?_⟩,zy,A5 [] (by simp[u])⟩
  rcases QI.1 hi with h | rfl
  .exact hp i h
  .exact λ _=>h7
 try simp at h4
 have h0:∀ i,i<l.length -> ∀ h:i<l.length,q l[i]=false:=λ i hi=>hp i zy
 refine Ar (hit (AB (AY ?_)));exact A8 (AW.one (by simp[Lr h0]))
abbrev AE (l:List Int):List (List AV):=l.map λ e=>[AV.I e]
theorem Ww {l:List Int} {q:Int->Bool} (h:∀ i,i<l.length -> ∀ h:i<l.length,q l[i]=false):l.filter (λ e=>!q e)=l:=by
 rw[List.filter_eq_self];intro x hx;obtain⟨i,hi,rfl⟩:=QA.1 hx;simp[h i hi hi]
theorem ZC (l:List Int) (q:Int->Bool) (j:Nat) (h:j<l.length):(l.take (j+1)).filter (λ e=>!q e)=(l.take j).filter (λ e=>!q e)++if q l[j]=true then [] else [l[j]]:=by
 rw[<- Vc h,U9,Va]
 congr 1
 cases hq:q l[j]<;>simp[hq]
theorem vY (f:FuncId) (aA:List AV) (q:Int->Bool) (l:List Int) (n m:Nat) (hn:l.length=n) (hm:(l.filter λ e=>!q e).length=m) (hl:n<=1099511627776) (hs:E0 aA) (hc:∀ e∈l,AK f (AV.I e::aA) [] (.B (q e)) []) :
  AK 64 [.rs 0 0 n,.fn (.func f) [] aA] [⟨1,AE l,0⟩] (.rs 0 0 m) [some ⟨1,AE (l.filter λ e=>!q e)++List.replicate (n - m) [.I 0],0⟩]:=by
 have h4:∀ ρ sn h,aA.map (conv ρ sn h 2)=aA:=λ _ _ _=>hs _ _ _ 1
 have h6:∀ ρ sn h,aA.map (conv ρ sn h 3)=aA:=λ _ _ _=>hs _ _ _ 2
 have h7:∀ ρ sn h,aA.map (conv ρ sn h 4)=aA:=λ _ _ _=>hs _ _ _ 3
 refine Mx.s.ai ?_;have hz:m<=n:=by rw[<- hm,<- hn];exact Q5 _ _
 apply ak [0,1] [0] 24
 .simp
  rfl
 apply ak [0,1,5] [0] 56
 .simp
  refine F6 [0] (Rw f aA q l zy hs hc) ?_ (.sc _) ?_
  .simp [h4,h6,h7,<- hn,AC,B7]
  simp;rfl
 refine AB (arc ⟨42,[(0,.rs 0 0 n),(1,.fn (.func f) [] aA),(5,.I (BU l q)),(12,.B (decide (BU l q = -1)))],[(0,some ⟨1,AE l,0⟩)],72⟩ ?_ ?_)
 .simp
  exact Le.keep rfl (Qk _) (by simp<;>rw[Qv]<;>simp) zz
 refine AI _ rfl (λ h=>?_) λ h=>AN ?_
 .simp only[Qf] at h
  have hh:∀ i,i<l.length -> ∀ h:i<l.length,q l[i]=false:=by
   intro i hi _;unfold BU at h;split at h
   .omega
   .rename_i a0
    have:l.findIdx q=l.length:=by have:=List.findIdx_le_length (xs:=l) (p:=q);omega
    rw[U3] at this;exact this _ (Qj hi)
  have hf:=Ww hh;rw[hf] at hm ⊢;obtain rfl:n=m:=zy
  refine AB (AY ?_);refine A9 ⟨.inr rfl,⟨[.rs 0 0 n],rfl,[],[],by simp[List.range,List.range.loop],zz,zz,?_,?_⟩⟩
  .simp [List.range,List.range.loop]
  .simp [List.range,List.range.loop,AC]
 simp only[Qd] at h
 obtain⟨i0,hk,h1,hb,ho⟩:∃ i0:Nat,BU l q=i0/\i0<l.length/\(∀ i,i<i0 -> ∀ h:i<l.length,q l[i]=false) /\ ∀ h:i0<l.length,q l[i0]=true:=by
  unfold BU at h ⊢;split at h
  .rename_i h1
   refine⟨l.findIdx q,by rw[if_pos h1],h1,λ i hi _=>?_,λ h=>Vd (w:=h)⟩
   simpa using List.not_of_lt_findIdx hi
  .omega
 rw[hk]
 have h8:(l.take (i0+1)).filter (λ e=>!q e)=l.take i0:=by
  rw[ZC l q i0 h1,if_pos (ho h1),Q0];refine Ww λ i hi h=>?_;rw[QU] at hi;simp only[UR];exact hb i zy zy
 have hq:=wq (k:=i0)
 let C:Nat × List Int->St:=λ p=>⟨42,[(0,.rs 0 0 n),(1,.fn (.func f) [] aA),(5,.I ((l.take p.1).filter λ e=>!q e).length),(6,.I p.1)],[(0,some ⟨1,AE ((l.take p.1).filter (λ e=>!q e)++p.2++l.drop p.1),0⟩)],96⟩
 refine AB (Ep (C (i0+1,[l[i0]])) rfl ?_ ?_)
 .simp [hq]
  refine Le.keep rfl (Qk _) ?_ ?_
  .simp only[C,h8]
   simp;omega
  .simp only[C,h8]
   simp
 refine AT (As C (λ p:Nat × List Int=>p.1<=n/\p.2≠[]/\((l.take p.1).filter λ e=>!q e).length+p.2.length=p.1) (λ p:Nat × List Int=>n - p.1) (i0+1,[l[i0]]) ?_ (Le.refl _ _) ?_)
 .simp only[h8]
  simp;omega
 rintro⟨j,M⟩ ⟨hj,hM,h0⟩
 simp only at hj hM h0 ⊢;obtain⟨A,hA⟩:=AR ((l.take j).filter λ e=>!q e);rw[<- hA] at h0;have hC:C (j,M)=⟨42,[(0,.rs 0 0 n),(1,.fn (.func f) [] aA),(5,.I A.length),(6,.I j)],[(0,some ⟨1,AE (A++M++l.drop j),0⟩)],96⟩:=by subst hA;rfl
 rw[hC];refine AB (arc ⟨42,[(0,.rs 0 0 n),(1,.fn (.func f) [] aA),(5,.I A.length),(6,.I j),(19,.B (decide (j<n)))],[(0,some ⟨1,AE (A++M++l.drop j),0⟩)],128⟩ ?_ ?_)
 .simp
  exact Cp
 refine AI _ rfl (λ h=>AN ?_) λ h=>Ar (hit ?_)
 .simp only[Qf] at h
  have h2:j<l.length:=zy
  match M,hM,h0 with
  | m0::M1,_,h0 =>
  simp only[QV] at h0;have u:=ZC l q j h2;rw[<- hA] at u
  have he:(AE (A++m0::M1++l.drop j))[j]? = some [AV.I l[j]]:=by
   rw[QH,Qs zw,Q9,show j+(j - (A++m0::M1).length)=j by simp;omega,Qa h2]
   rfl
  have h9:(AE (A++m0::M1++l.drop j))[A.length]? = some [AV.I m0]:=by
   rw[QH,QG,Qs zy]
   simp
  have hg:(AE (A++m0::M1++l.drop j)).set A.length [AV.I l[j]]=AE ((A++[l[j]])++(M1++[l[j]])++l.drop (j+1)):=by
   have e1:l.drop j=l[j]::l.drop (j+1):=QQ h2;rw[e1];simp[AE,List.set_append]
  have ha:A++m0::M1++l.drop j=A++(m0::M1++[l[j]])++l.drop (j+1):=by
   have e1:l.drop j=l[j]::l.drop (j+1):=QQ h2;rw[e1];simp
  generalize h3:AE (A++m0::M1++l.drop j)=R at *;have a1:R.length=n:=by rw[<- h3];simp;omega
  have hr:=hc l[j] (Qj h2);generalize hv:l[j]=v at *
  refine G1 (ι:=List Int × List Int) (λ p=>⟨42,[(0,.rs 0 0 n),(1,.fn (.func f) [] aA),(5,.I p.1.length),(6,.I j)],[(0,some ⟨1,AE (p.1++p.2++l.drop (j+1)),0⟩)],272⟩)
   (λ p=>p.1=(l.take (j+1)).filter (λ e=>!q e)/\p.2≠[]/\p.1.length+p.2.length=j+1) ?_ ?_
  .refine AT (arc ⟨42,[(0,.rs 0 0 n),(1,.fn (.func f) [] aA),(5,.I A.length),(6,.I j),(7,.I v)],[(0,some ⟨1,R,0⟩)],168⟩ ?_ ?_)
   .simp [h,he]
    exact Cp
   refine arc ⟨42,[(0,.rs 0 0 n),(1,.fn (.func f) [] aA),(5,.I A.length),(6,.I j),(7,.I v),(29,.B (!q v))],[(0,some ⟨1,R,0⟩)],200⟩ ?_ ?_
   .simp
    refine A4 hr ?_ ?_
    .simp [h4,h6,h7]
    simp;exact Cp
   refine AI _ rfl (λ h5=>?_) λ h5=>AN ?_
   .simp only[UO] at h5
    rw[h5] at u;refine arc ⟨42,[(0,.rs 0 0 n),(1,.fn (.func f) [] aA),(5,.I A.length),(6,.I j)],[(0,some ⟨1,AE ((A++[v])++(M1++[v])++l.drop (j+1)),0⟩)],240⟩ ?_ ?_
    .simp [h9,show A.length<n by omega,Ax,hg]
     exact Cp
    have hu:IntKind.i64.wrap ((A.length:Int)+1)=((A.length+1:Nat):Int):=by rw[w6];omega
    refine Ap rfl ?_;simp[hu];refine⟨A++[v],M1++[v],⟨by rw[u];simp,zz,zw⟩,Le.keep rfl (Bf rfl) zz zz⟩
   .simp only[Bool.not_eq_false'] at h5
    rw[h5] at u;refine⟨(A,m0::M1++[v]),⟨by rw[u];simp,zz,zw⟩,Le.keep rfl (Bf rfl) zz ?_⟩
    rw[<- ha,h3];simp
  rintro⟨A',M'⟩ ⟨p1,p2,p3⟩
  simp only at p1 p2 p3 ⊢;have hw:=wq (k:=j);refine Ap rfl ?_;simp[hw];refine⟨j+1,M',⟨zy,p2,by rw[<- p1];omega⟩,zy,?_⟩
  have hD:C (j+1,M')=⟨42,[(0,.rs 0 0 n),(1,.fn (.func f) [] aA),(5,.I A'.length),(6,.I ((j+1:Nat):Int))],[(0,some ⟨1,AE (A'++M'++l.drop (j+1)),0⟩)],96⟩:=by rw[p1]
  rw[hD];refine Le.ents [(0,0)] [] rfl zz zz zz zz zz (by simp[h4,h6,h7]) λ p hp=>?_
  simp at hp;subst hp;exact⟨0,_,_,rfl,zz,rfl,An.eq (by simp[AC]) zz⟩
 simp only[Qd] at h;obtain rfl:j=n:=zy
 have hd:l.drop j=[]:=Um zy
 have ht:l.take j=l:=Qb zy
 rw[ht] at hA;rw[hd,Q0];rw[<- hA] at hm ⊢;subst hm;have hx:(AE (A++M)).take A.length=AE A:=by simp[AE]
 have hy:(AE (A++M)).drop (A.length+(j - A.length))=[]:=Um zw
 have a2:(AE (A++M)).length=j:=zw
 generalize AE (A++M)=R at *;refine arc ⟨42,[(0,.rs 0 0 j),(5,.I A.length)],[(0,some ⟨1,AE A++List.replicate (j - A.length) [.I 0],0⟩)],160⟩ ?_ ?_
 .simp
  refine⟨zy,zy,?_⟩
  rw[hx,hy];exact Cp
 refine AB (Al (s:=?s2) rfl ?o2 ?q2)
 case o2 =>
  simp;refine⟨zy,?_⟩
  rfl
 refine A9 ⟨.inr rfl,⟨[.rs 0 0 A.length],rfl,[],[],by simp[List.range,List.range.loop],zz,zz,?_,?_⟩⟩
 .simp [List.range,List.range.loop]
 .simp [List.range,List.range.loop,AC]
theorem rU (f:FuncId) (aA:List AV) (q:Int->Bool) (l:List Int) (hl:l.length<=1099511627776) (hs:E0 aA) (hc:∀ e∈l,AK f (AV.I e::aA) [] (.B (q e)) []):AK 147 [AA l,.fn (.func f) [] aA] [] (.B (l.any q)) []:=by
 have u:∀ ρ sn h,aA.map (conv ρ sn h 2)=aA:=λ _ _ _=>hs _ _ _ 1
 have h0:∀ ρ sn h,aA.map (conv ρ sn h 3)=aA:=λ _ _ _=>hs _ _ _ 2
 have h1:∀ ρ sn h,aA.map (conv ρ sn h 4)=aA:=λ _ _ _=>hs _ _ _ 3
 refine OE.s.ai ?_;refine AB (AY ?_)
 have hi:decide (0<=BU l q)=l.any q:=by
  unfold BU
  by_cases h:l.findIdx q<l.length
  .rw [if_pos h]
   have:=Vd (w:=h);have h2:l.any q=true:=UB.2 ⟨_,Qj h,this⟩;rw[h2];simp
  .rw [if_neg h]
   have:l.findIdx q=l.length:=by have:=List.findIdx_le_length (xs:=l) (p:=q);omega
   rw[U3] at this
   have h2:l.any q=false:=by
    rw[List.any_eq_false];intro x hx;simp[this x hx]
   rw[h2];simp
 refine arc ⟨9,[(4,.B (l.any q))],[],16⟩ ?_ ?_
 .simp
  refine A4 (Rw f aA q l hl hs hc) ?_ ?_
  .simp [u,h0,h1]
  simp;exact A5 [] (by simp;exact BA hi)
 exact Ca
def Cr (n:Nat) (q:Int->Bool):List Int:=((List.range n).map λ (i:Nat)=>(i:Int)).filter q
theorem b8 (n:Nat) (q:Int->Bool):Cr (n+1) q=Cr n q++if q n=true then [(n:Int)] else []:=by
 unfold Cr;rw[Vh,Ug,Va]
 congr 1
 cases hq:q n<;>simp[hq]
theorem Ms (n:Nat) (q:Int->Bool):(Cr n q).length<=n:=by
 unfold Cr;have:=Q5 q ((List.range n).map λ (i:Nat)=>(i:Int))
 simpa using this
theorem Sh (f:FuncId) (aA:List AV) (q:Int->Bool) (N:Int) (hN:N<=1000000) (hs:E0 aA) (hc:∀ k:Nat,(k:Int)<N->AK f (AV.I k::aA) [] (.B (q k)) []) :
  AK 60 [.I N,.fn (.func f) [] aA] [] (.rs 0 0 (Cr N.toNat q).length) [some ⟨1,AE (Cr N.toNat q),0⟩]:=by
 have u:∀ ρ sn h,aA.map (conv ρ sn h 2)=aA:=λ _ _ _=>hs _ _ _ 1
 have h0:∀ ρ sn h,aA.map (conv ρ sn h 3)=aA:=λ _ _ _=>hs _ _ _ 2
 have h1:∀ ρ sn h,aA.map (conv ρ sn h 4)=aA:=λ _ _ _=>hs _ _ _ 3
 refine Lm.s.ai ?_;refine AB (AY ?_);refine AB (AY ?_);refine AB (AB (AY ?_));refine AT ?_
 let C:Nat->St:=λ k=>⟨20,[(1,.fn (.func f) [] aA),(5,.rs 16 0 (Cr k q).length),(7,.I N),(8,.I k)],[(16,some ⟨1,AE (Cr k q),0⟩)],24⟩
 refine As C (λ k=>k<=N.toNat) (λ k=>N.toNat - k) 0 (Qn _) (Le.lst [] [] [(16,1)] rfl zz zz zz (by simp[C]) zz zz zz (by simp[C,Up,Cr,u,h0,h1]) (by simp[C,Cr])) ?_
 intro k hk;have h7:=Ms k q;have h3:C k=⟨20,[(1,.fn (.func f) [] aA),(5,.rs 16 0 (Cr k q).length),(7,.I N),(8,.I k)],[(16,some ⟨1,AE (Cr k q),0⟩)],24⟩:=rfl;rw[h3];apply ak [1,5,7,8,9] [16] 32
 .simp
  rfl
 refine AB (AI _ rfl (λ h=>AN ?_) λ h=>Ar (hit ?_))
 .simp only[Qf] at h
  have h4:=hc k h;have h2:=b8 k q;have h6:=wq (k:=k);refine CX ⟨20,[(1,.fn (.func f) [] aA),(5,.rs 16 0 (Cr (k+1) q).length),(7,.I N),(8,.I k)],[(16,some ⟨1,AE (Cr (k+1) q),0⟩)],24⟩ ?_ ?_
  .rw [h2]
   generalize Cr k q=W at *;refine AT (AB (AY ?_));apply ak [1,5,6,7,8,13] [16] 72
   .simp
    refine A4 h4 ?_ ?_
    .simp [u,h0,h1]
    simp;rfl
   refine AI _ rfl (λ h5=>?_) λ h5=>AN ?_
   .rw [if_pos h5]
    refine Ap rfl ?_;simp[List.replicate];refine⟨zy,zy,Jg (i:=96) (sn:=[]) rfl rfl zz zz rfl (by simp[AC,B7]) zz (by simp[u,h0,h1])⟩
   .rw [if_neg (by simp[h5]),Q0]
    exact Jg (i:=16) (sn:=[]) rfl rfl zz zz rfl (by simp[AC]) zz (by simp[u,h0,h1])
  refine Ap rfl ?_;simp[h6];exact⟨k+1,zy,zy,Jg (i:=16) (sn:=[]) rfl rfl (by simp[C]) zz rfl (by simp[AC]) zz (by simp[C,u,h0,h1])⟩
 simp only[Qd] at h;obtain rfl:k=N.toNat:=zy
 generalize Cr N.toNat q=W at *;refine AB (AY ?_);exact Bx [16] []
theorem H2 {x:Int} (h1:0<=x) (h2:x<18446744073709551616):IntKind.u64.wrap x=x:=by rw[IntKind.wrap_u64];omega
theorem Md (n:Nat) (h:n<4294967296):Ae .and (.int .u64 (n:Int)) (.int .u64 4294967295)=some (.int .u64 (n:Int)):=by
 have e:(BitVec.ofInt 64 (n:Int) &&& BitVec.ofInt 64 4294967295).toNat=n:=by
  have h1:(BitVec.ofInt 64 (n:Int)).toNat=n:=by
   rw[BitVec.toNat_ofInt];omega
  have h2:(BitVec.ofInt 64 (4294967295:Int)).toNat=2 ^ 32 - 1:=rfl;rw[BitVec.toNat_and,h1,h2,Nat.and_two_pow_sub_one_eq_mod];omega
 show some (Value.int .u64 (IntKind.u64.wrap ((BitVec.ofInt 64 (n:Int) &&& BitVec.ofInt 64 4294967295).toNat:Int)))=_;rw[e,H2 zy zy]
theorem NL (n:Nat) (h:n<4294967296):Ae .shr (.int .u64 (n:Int)) (.int .u64 32)=some (.int .u64 0):=by
 show (if (0:Int)<=32 then some (Value.int .u64 ((n:Int).fdiv (2 ^ (min (32:Int).toNat 64)))) else none)=_
 rw[if_pos zy]
 congr 2
 have:(2:Int) ^ (min (32:Int).toNat 64)=4294967296:=rfl;rw[this,QN _ zy]
 omega
abbrev U (n:Int):AV:=.sc (.int .u64 n)
theorem mX (n:Nat) (h:n<4294967296):AK 152 [U 1,U n] [] (.tup [U 0,U n]) []:=by
 refine aI.s.ai ?_;have a1:Ae .and (.int .u64 1) (.int .u64 4294967295)=some (.int .u64 1):=Md 1 zy
 have a0:Ae .and (.int .u64 0) (.int .u64 4294967295)=some (.int .u64 0):=Md 0 zy
 have an:=Md n h;have s1:Ae .shr (.int .u64 1) (.int .u64 32)=some (.int .u64 0):=NL 1 zy
 have s0:Ae .shr (.int .u64 0) (.int .u64 32)=some (.int .u64 0):=NL 0 zy
 have sn:=NL n h
 have m1:∀ a:Int,Ae .mul (.int .u64 0) (.int .u64 a)=some (.int .u64 0):=λ a=>by
  show some (Value.int .u64 (IntKind.u64.wrap (0*a)))=_;rw[Int.zero_mul];rfl
 have m2:Ae .mul (.int .u64 1) (.int .u64 (n:Int))=some (.int .u64 (n:Int)):=by
  show some (Value.int .u64 (IntKind.u64.wrap (1*(n:Int))))=_;rw[Int.one_mul,H2 zy zy]
 have m3:Ae .mul (.int .u64 1) (.int .u64 0)=some (.int .u64 0):=rfl;have d0:Ae .add (.int .u64 0) (.int .u64 0)=some (.int .u64 0):=rfl;refine AB (AY ?_);refine AB (Al (s:=?z2) rfl ?p2 ?r2)
 case p2=>simp[-Ae,a1];rfl
 refine AB (Al (s:=?z3) rfl ?p3 ?r3)
 case p3=>simp[-Ae,s1];rfl
 refine AB (Al (s:=?z4) rfl ?p4 ?r4)
 case p4=>simp[-Ae,an];rfl
 refine AB (Al (s:=?z5) rfl ?p5 ?r5)
 case p5=>simp[-Ae,sn];rfl
 refine AB (Al (s:=?z6) rfl ?p6 ?r6)
 case p6=>simp[-Ae,m2];rfl
 refine AB (Al (s:=?z7) rfl ?p7 ?r7)
 case p7=>simp[-Ae,m1,sn,d0];rfl
 refine AB (Al (s:=?z8) rfl ?p8 ?r8)
 case p8=>simp[-Ae,a0];rfl
 refine AB (Al (s:=?z9) rfl ?p9 ?r9)
 case p9=>simp[-Ae,s0];rfl
 refine AB (Al (s:=?z10) rfl ?p10 ?r10)
 case p10=>simp[-Ae,m3,d0];rfl
 refine AB (Al (s:=?z11) rfl ?p11 ?r11)
 case p11=>simp[-Ae,m1,d0,s0];rfl
 refine AB (Al (s:=?z12) rfl ?p12 ?r12)
 case p12=>simp[-Ae,m2];rfl
 exact Bx [] []
theorem uV (n:Nat) (h:n<4294967296):AK 104 [U 1,U n] [] (.tup [U 0,U n]) []:=by
 refine mU.s.ai ?_;refine AB (AY ?_);refine AB (AI _ rfl (λ h=>by cases h) λ _=>AN ?_)
 refine AB (Al (s:=?z2) rfl ?p2 ?r2)
 case p2=>simp;refine A4 (mX n h) rfl ?_;simp;rfl
 refine AB (AY ?_);exact Bx [] []
theorem rX (v:Int) (n:Nat) (hn:n<=1000000):AK 59 [AA [v],.I n] [] (.rs 0 0 n) [some ⟨1,List.replicate n [AV.I v],0⟩]:=by
 refine tP.s.ai ?_;have u:IntKind.u64.wrap 1=1:=rfl;have h0:IntKind.u64.wrap (n:Int)=n:=H2 zy zy
 have h1:IntKind.i64.wrap (n:Int)=n:=w6;refine AB (AY ?_);refine AB ?_;apply ak [0,1,10] [] 40
 .simp
  rfl
 refine AI _ rfl (λ h=>by cases h) λ _=>AN ?_
 apply ak [0,1,5,6] [] 128
 .simp [u,h0]
  refine A4 (uV n zy) rfl ?_
  simp;rfl
 refine AB (arc ⟨48,[(0,AA [v]),(1,.I n),(5,U 0),(6,U n),(26,.B false)],[],176⟩ ?_ ?_)
 .simp
  exact Le.keep rfl (Qk _) zw zz
 refine AI _ rfl (λ h=>by cases h) λ _=>AN ?_
 refine arc ⟨48,[(0,AA [v]),(7,.rs 192 0 n)],[(192,some ⟨1,List.replicate n [.I 0],0⟩)],208⟩ ?_ ?_
 .simp [h1]
  exact⟨zy,zy,Cp⟩
 let R:Nat->List (List AV):=λ m=>List.replicate m [AV.I v]++List.replicate (n - m) [AV.I 0]
 have h2:∀ m,m<=n->(R m).length=n:=λ m hm=>by simp[R];omega
 refine arc ⟨48,[(7,.rs 192 0 n),(8,.I (min 1 n:Nat))],[(192,some ⟨1,R (min 1 n),0⟩)],240⟩ ?_ ?_
 .simp
  refine Le.keep rfl (Qk _) zz ?_
  cases n with
  | zero=>simp[R]
  | succ n=>simp[R,List.replicate]
 refine AB (AT (As (ι:=Nat) (λ m=>⟨48,[(7,.rs 192 0 n),(8,.I m)],[(192,some ⟨1,R m,0⟩)],240⟩) (λ m=>m<=n/\(m=0->n=0)) (λ m=>n - m) (min 1 n) ⟨zy,zy⟩ (Le.refl _ _) ?_))
 rintro m ⟨hm,h3⟩
 refine AB ?_;apply ak [7,8,37] [192] 272
 .simp
  rfl
 refine AI _ rfl (λ h=>AN ?_) λ h=>Ar (hit ?_)
 .simp only[Qf] at h
  obtain⟨k,hk⟩:=AR (min m (n - m));have hw:IntKind.i64.wrap ((m:Int)+(k:Int))=((m+k:Nat):Int):=by rw[w6];omega
  have ht:(R m).take m=List.replicate m [AV.I v]:=by simp[R]
  have hd:(R m).drop (m+k)=List.replicate (n - (m+k)) [AV.I 0]:=by
   simp only[R];rw[List.drop_append,Um zz,Uu,List.drop_replicate]
   simp;omega
  have hl:=h2 m hm
  have q:List.replicate m [AV.I v]++(List.replicate k [AV.I v]++List.replicate (n - (m+k)) [AV.I 0])=R (m+k):=by
   simp only[R];rw[<- QG,List.replicate_append_replicate]
  refine AT (ET rfl ?_);generalize R m=X at *;simp[hl,ht];refine⟨zy,zy,_,⟨zy,rfl⟩,rfl,m+k,⟨zy,zy⟩,zy,?_⟩
  have e1:min (List.replicate m (([AV.I v]:List AV))).length (n - m)=k:=by simp[hk]
  rw[e1,hw,hd,List.take_replicate,show min k m=k by omega,q]
  exact Jg (i:=192) (sn:=[]) rfl rfl zz zz rfl (by simp[R]) zz zz
 obtain rfl:m=n:=by simp at h;omega
 refine AB (AY ?_);exact A8 (AW.out [192] [] rfl zz zz zz (by simp[R]))
variable {k:Int} {n:Nat}
def EA (g:Gr) (S:List Int) (k:Int):Bool:=S.contains k && !g.gone.contains k
def dl (g:Gr) (S:List Int):Nat->Int->Int
 | 0,k=>if EA g S k=true then 0 else -1
 | n+1,k=>if 0<=dl g S n k then dl g S n k else if g.edges.any (λ e=>decide (e.t=k) && decide (dl g S n e.f=n))=true then (n:Int)+1 else -1
def DT (g:Gr) (k:Int):Prop:=0<=k/\k<g.size
variable {g:Gr} {S:List Int}
theorem Ev (n:Nat) (k:Int) : -1<=dl g S n k/\dl g S n k<=n:=by
 induction n with
 | zero=>unfold dl;split<;>omega
 | succ n ih=>unfold dl;split<;>(try split)<;>omega
theorem Gs (h:0<=dl g S n k):dl g S (n+1) k=dl g S n k:=by
 rw[dl,if_pos h]
theorem Mq {m:Nat} (q:n<=m) (h:0<=dl g S n k):dl g S m k=dl g S n k:=by
 induction m with
 | zero=>obtain rfl:n=0:=zy
         rfl
 | succ m ih =>
   rcases Ui n (m+1) with h1 | h1
   .have:=ih zy
    rw[Gs zy,this]
   .obtain rfl:n=m+1:=zy
    rfl
theorem Ie (h:0<=dl g S (n+1) k) (h2:¬ 0<=dl g S n k):dl g S (n+1) k=n+1 /\ ∃ e∈g.edges,e.t=k/\dl g S n e.f=n:=by
 rw[dl,if_neg h2] at h ⊢;split at h
 .rename_i ha
  rw[if_pos ha];rw[UB] at ha;obtain⟨e,he,ha⟩:=ha;simp at ha;exact⟨rfl,e,he,ha.1,ha.2⟩
 .omega
theorem N4 (h:0<=dl g S n k):dl g S (dl g S n k).toNat k=dl g S n k:=by
 induction n with
 | zero =>
   have:=Ev (g:=g) (S:=S) 0 k;have e:dl g S 0 k=0:=zy
   rw[e];exact e
 | succ n ih =>
   by_cases h2:0<=dl g S n k
   .rw [Gs h2];exact ih h2
   .obtain ⟨e,_⟩:=Ie h h2
    rw[e];have:((n:Int)+1).toNat=n+1:=zy
    rw[this];exact e
theorem Rf {e:Ed} (he:e∈g.edges) (h:0<=dl g S n e.f):0<=dl g S (n+1) e.t/\dl g S (n+1) e.t<=dl g S n e.f+1:=by
 have q:=N4 h;have hr:=Ev (g:=g) (S:=S) n e.f;obtain⟨m,hm⟩:∃ m:Nat,dl g S n e.f=m:=⟨(dl g S n e.f).toNat,zy⟩
 rw[hm] at q hr ⊢;simp at q
 have key:0<=dl g S (m+1) e.t/\dl g S (m+1) e.t<=m+1:=by
  have u:=Ev (g:=g) (S:=S) (m+1) e.t;refine⟨?_,zy⟩
  rw[dl];split
  .assumption
  .rw [if_pos]
   .omega
   .rw [UB]
    exact⟨e,he,by simp[q]⟩
 have:=Mq (g:=g) (S:=S) (n:=m+1) (m:=n+1) zy key.1
 rw[this];exact key
theorem Nk (h:AG g) (hn:∀ k,DT g k->dl g S n k≠n):∀ (m:Nat),n<=m -> ∀ k,DT g k->dl g S m k=dl g S n k/\dl g S m k≠m:=by
 intro m
 induction m with
 | zero =>
   intro hm k hk;obtain rfl:n=0:=zy
   exact⟨rfl,hn k hk⟩
 | succ m ih =>
   intro hm k hk;rcases Ui n (m+1) with h1 | h1
   .have ihm:=ih zy
    have e:dl g S (m+1) k=dl g S m k:=by
     by_cases h2:0<=dl g S m k
     .exact Gs h2
     .have hr:=Ev (g:=g) (S:=S) m k
      by_cases h3:0<=dl g S (m+1) k
      .obtain ⟨_,e,he,_,h5⟩:=Ie h3 h2
       have hf:=h.fits e he;exact absurd h5 (ihm e.f ⟨hf.1,by have:=hf.2.1;omega⟩).2
      .have q:=Ev (g:=g) (S:=S) (m+1) k
       omega
    have hr:=Ev (g:=g) (S:=S) m k;rw[e,(ihm k hk).1];refine⟨rfl,?_⟩;rw[(ihm k hk).1] at hr;omega
   .obtain rfl:n=m+1:=zy
    exact⟨rfl,hn k hk⟩
def reach (g:Gr) (S:List Int) (n:Nat):Nat:=(List.range g.size.toNat).countP λ (i:Nat)=>decide (0<=dl g S n (i:Int))
theorem Y0 {α:Type} {p q:α->Bool}:∀ {l:List α},(∀ x∈l,p x=true->q x=true)->(∃ x∈l,q x=true/\p x=false)->l.countP p<l.countP q
 | [],_,h=>by obtain⟨_,h,_⟩:=h;simp at h
 | a::l,h1,h2=>by
   have u:l.countP p<=l.countP q:=List.countP_mono_left λ x hx=>h1 x (Qg _ hx);simp only[List.countP_cons];obtain⟨x,hx,hq,hp⟩:=h2;rcases Qw.1 hx with rfl | hx
   .rw [hq,hp]
    simp;omega
   .have ih:=Y0 (λ x hx=>h1 x (Qg _ hx)) ⟨x,hx,hq,hp⟩
    have ha:=h1 a Qi
    cases h0:p a<;>cases h3:q a<;>simp_all<;>omega
theorem vU (hk:DT g k) (h:dl g S (n+1) k=n+1):reach g S n<reach g S (n+1):=by
 refine Y0 (λ i _ hi=>?_) ⟨k.toNat,by simp;have:=hk.1;have:=hk.2;omega,?_,?_⟩
 .simp at hi ⊢
  rw[Gs hi];exact hi
 .have e:((k.toNat:Nat):Int)=k:=by have:=hk.1;omega
  simp[e,h];omega
 .have e:((k.toNat:Nat):Int)=k:=by have:=hk.1;omega
  simp only[e,Qd];intro h2;rw[Gs h2] at h;have:=Ev (g:=g) (S:=S) n k;omega
theorem tQ (h:AG g) (hd:dl g S (n+1) k=n+1):∃ k',DT g k'/\dl g S n k'=n:=by
 have h2:¬ 0<=dl g S n k:=by
  intro h2;rw[Gs h2] at hd;have:=Ev (g:=g) (S:=S) n k;omega
 obtain⟨_,e,he,_,h5⟩:=Ie zy h2
 have hf:=h.fits e he;exact⟨e.f,⟨hf.1,by have:=hf.2.1;omega⟩,h5⟩
theorem WQ (h:AG g):∀ {n:Nat} {k:Int},DT g k->dl g S n k=n->n+1<=reach g S n
 | 0,k,hk,hd=>by
   have:0<reach g S 0:=List.countP_pos_iff.2 ⟨k.toNat,by simp;have:=hk.1;have:=hk.2;omega,by
    have e:((k.toNat:Nat):Int)=k:=by have:=hk.1;omega
    simp[e]
    omega⟩
   omega
 | n+1,k,hk,hd=>by
   have q:dl g S (n+1) k=(n:Int)+1:=by simpa using hd
   obtain⟨k',u,h'⟩:=tQ h q;have:=WQ h u h';have:=vU hk q;omega
theorem dB (n:Nat):reach g S n<=g.size.toNat:=by
 have:=List.countP_le_length (p:=λ (i:Nat)=>decide (0<=dl g S n (i:Int))) (l:=List.range g.size.toNat)
 simpa [reach] using this
theorem Kq (h:AG g) (hk:DT g k) (hd:dl g S n k=n):(n:Int)<g.size:=by
 have h1:=WQ h hk hd;have h2:=dB (g:=g) (S:=S) n;omega
def AZ (g:Gr) (S:List Int) (k:Int):Int:=dl g S g.size.toNat k
theorem Tu (h:AG g) (hn:∀ k,DT g k->dl g S n k≠n) (k:Int) (hk:DT g k):dl g S n k=AZ g S k:=by
 unfold AZ;rcases Nat.le_total n g.size.toNat with h1 | h1
 .exact ((Nk h hn _ h1 k hk).1).symm
 .have hN:∀ k,DT g k->dl g S g.size.toNat k≠g.size.toNat:=by
   intro k hk hd;have:=Kq h hk hd;omega
  exact(Nk h hN _ h1 k hk).1
theorem Pc (k:Int) : -1<=AZ g S k/\AZ g S k<=g.size.toNat:=Ev _ _
theorem X5 (h:AG g) (hk:DT g k):AZ g S k<g.size∨g.size<=0:=by
 have h1:=Pc (g:=g) (S:=S) k
 by_cases h2:AZ g S k=g.size.toNat
 .have:=Kq h hk h2
  omega
 .have:=hk.1;have:=hk.2;omega
theorem Nb (h:AG g):AZ g S k=0↔EA g S k=true:=by
 unfold AZ;constructor
 .intro hd
  have:=N4 (g:=g) (S:=S) (n:=g.size.toNat) (k:=k) zy
  rw[hd] at this;simp at this;rw[dl] at this;split at this
  .assumption
  .omega
 .intro hs
  have h0:dl g S 0 k=0:=by rw[dl,if_pos hs]
  rw[Mq (Qn _) zy,h0]
theorem Sy (h:AG g) {e:Ed} (he:e∈g.edges) (hf:0<=AZ g S e.f):0<=AZ g S e.t/\AZ g S e.t<=AZ g S e.f+1:=by
 have q:=h.fits e he;have h1:=Rf (S:=S) he hf
 have hN:∀ k,DT g k->dl g S g.size.toNat k≠g.size.toNat:=by
  intro k hk hd;have:=Kq h hk hd;omega
 have h2:=(Nk h hN (g.size.toNat+1) zy e.t ⟨q.2.2.1,by have:=q.2.2.2.1;omega⟩).1
 rw[h2] at h1;exact h1
theorem dE (h:AG g) (hd:AZ g S k=(n:Int)+1):∃ e∈g.edges,e.t=k/\AZ g S e.f=n:=by
 have q:=N4 (g:=g) (S:=S) (n:=g.size.toNat) (k:=k) (by show 0<=AZ g S k;omega)
 have u:dl g S g.size.toNat k=(n:Int)+1:=hd;rw[u] at q;have e1:((n:Int)+1).toNat=n+1:=zy
 rw[e1] at q
 have h2:¬ 0<=dl g S n k:=by
  intro h2;rw[Gs h2] at q;have:=Ev (g:=g) (S:=S) n k;omega
 obtain⟨_,e,he,h4,h5⟩:=Ie zy h2
 refine⟨e,he,h4,?_⟩;have hr:=Pc (g:=g) (S:=S) k;have:AZ g S e.f=dl g S n e.f:=Mq zy zy
 omega
variable {F S:List Int} {d:Nat} {g:Gr}
section
variable {P:Program} {np id:Nat} {h:Nat->Option AD} {K:AV->List Nat->List (Nat × Option AD)->Prop} {f:FuncId} {first aA args aB:List AV} {res:AV}
theorem nX {i:Nat} (sn:List Nat) {e e':AD} {hs':List (Option AD)} (q:∀ j∈sn,j≠i) (hi:h i=some e) (u:Ab [(i,0)] sn h 4 e=e') (hc:Bz P f aB [e'] res hs') (h8:hs'.length<=9) (he:(first++args++aA).map (conv [(i,0)] sn h 4)=aB) (hp:Plain res) (h0:∀ e,some e∈hs'->GP e) (hk:K (conv (CL [i] id) [] (λ _=>none) 4 res) (i::sn) ((hs'.zipIdx.map λ (e,k)=>((i::(List.range 8).map (id + ·)).getD k 0,e.map (Ab (CL [i] id) [] (λ _=>none) 4)))++[])):aK P np id .call (.fn (.func f) first aA::args) h K :=
 ⟨[i],sn,false,aB,[e'],res,hs',zz,by simpa using q,zz,by rw[show [i].zipIdx=[(i,0)] from rfl,he];exact E9 _,by rw[show [i].zipIdx=[(i,0)] from rfl];simpa [hi] using u,hc,by simpa using h8,.inr ⟨hp,h0⟩,by simpa [CL] using hk⟩
theorem tL {j:Nat} {e ej:AD} (q:np<=j) (hj:h j=some ej) (hc:Bz P f aB [] res [some e]) (he:(first++args++aA).map (conv [] [j] h 4)=aB) (hk:K (conv (CL [] id) [] (λ _=>none) 4 res) [j] [(id,some (Ab (CL [] id) [] (λ _=>none) 4 e)),(j,some { ej with ro:=ej.rows.length })]):aK P np id .call (.fn (.func f) first aA::args) h K :=
 ⟨[],[j],true,aB,[],res,[some e],zz,zz,by simpa using q,by rw[U8,he];exact E9 _,rfl,hc,zz,.inl rfl,by simpa [CL,hj] using hk⟩
end
theorem u6 {l:List Int} {z:Nat}:GP ⟨1,AE l++List.replicate z [AV.I 0],0⟩:=by
 intro row q x hx;simp only[Qo,Qh,List.mem_replicate] at q;rcases q with ⟨y,_,rfl⟩ | ⟨_,rfl⟩
 .simp at hx;subst hx;exact .sc _
 .simp at hx;subst hx;exact .sc _
theorem pL (g:Gr) (S:List Int) (k:Int) (hS:S.length<=1099511627776) (hg:g.gone.length<=1099511627776):AK 62 [eG g,AA S,.I k] [] (.B (EA g S k)) []:=by
 refine eY.s.ai ?_;refine ar [1,2,3] [] [16] 16 ?_;refine arc ⟨17,[(6,.B (EA g S k))],[],16⟩ ?_ ?_
 .simp
  refine Dc 29 rfl ?_;refine A4 (GR S k zy) rfl ?_
  simp;refine Cs (λ hb=>?_) (λ hb=>?_)
  .simp [hb]
   refine Dc 29 rfl ?_;refine A4 (GR g.gone k zy) rfl ?_
   simp[hb];exact A5 [] (by simp[EA]<;>exact BA (by simp_all))
  .simp [hb]
   exact A5 [] (by simp[EA]<;>exact BA (by simp_all))
 exact Ca
theorem sO (g:Gr) (S:List Int) (k:Int) (hS:S.length<=1099511627776) (hg:g.gone.length<=1099511627776):AK 61 [.I k,.pv (gC g),.pv [AA S]] [] (.B (EA g S k)) []:=by
 refine rT.s.ai ?_;refine AB (AY ?_);refine AB (Al (s:=?s1) rfl ?o1 ?q1)
 case o1=>simp;refine A4 (pL g S k hS hg) rfl ?_;simp;rfl
 exact Ca
def DM (D:List Int) (x:Int):Bool:=!decide (0<=x/\x<D.length) || decide (0<=D.getD x.toNat 0)
theorem fV (D:List Int) (x:Int) (hD:D.length<=1000000):AK 65 [.I x,.pv [AA D]] [] (.B (DM D x)) []:=by
 refine jI.s.ai ?_;have hw:=w6 (x:=((D.length:Int) - 1));refine AB (AY ?_);refine arc ⟨17,[(3,.B (DM D x))],[],16⟩ ?_ ?_
 .simp [hw]
  refine Dc 58 rfl ?_;refine A4 (GF ..) rfl ?_;simp
  by_cases hx:0<=x/\x<D.length
  .obtain ⟨k,rfl⟩:∃ k:Nat,x=k:=⟨x.toNat,zy⟩
   have hk:k<D.length:=zy
   have hb:(!decide (0<=(k:Int)) || !decide ((k:Int)<=(D.length:Int) - 1))=false:=zw
   have ho:DM D k=decide (0<=D[k]):=by
    unfold DM;rw[Q8 hx];simp[hk]
   rw[hb,ho];simp[hk];exact A5 [] zz
  .have hb:(!decide (0<=x) || !decide (x<=(D.length:Int) - 1))=true:=zw
   have ho:DM D x=true:=by
    unfold DM;rw[Ur hx];rfl
   rw[hb,ho];simp;exact A5 [] zz
 exact Ca
def DK (g:Gr) (S:List Int):List Int:=(List.range g.size.toNat).map λ (i:Nat)=>AZ g S (i:Int)
def BQ (g:Gr) (S:List Int) (d:Nat):List Int:=(List.range g.size.toNat).map λ (i:Nat)=>if 0<=dl g S d i/\dl g S d i<d then dl g S d i else -1
def BT (g:Gr) (S:List Int) (d:Nat) (F:List Int):List Int:=(List.range g.size.toNat).map λ (i:Nat)=>if 0<=dl g S d i/\dl g S d i<d then dl g S d i else if (i:Int)∈F then (d:Int) else -1
theorem NE (g:Gr) (S:List Int) (d:Nat):BT g S d []=BQ g S d:=by
 unfold BT BQ;simp
theorem sG (d:Nat) (F:List Int) (hF:∀ x,x∈F↔DT g x/\dl g S d x=d):BT g S d F=BQ g S (d+1):=by
 unfold BT BQ;refine Q7 λ i hi=>?_;simp at hi;have q:DT g i:=⟨zy,zy⟩
 have hr:=Ev (g:=g) (S:=S) d i;have u:=Ev (g:=g) (S:=S) (d+1) i;have hm:(i:Int)∈F↔dl g S d i=d:=by rw[hF];exact⟨λ h=>h.2,λ h=>⟨q,h⟩⟩
 simp only[hm]
 by_cases h0:0<=dl g S d i
 .have e:=Gs h0
  rw[e]
  by_cases h1:dl g S d i<d
  .rw [if_pos ⟨h0,h1⟩,if_pos ⟨h0,zy⟩]
  .have h2:dl g S d i=d:=zy
   rw[if_neg zy,if_pos h2,if_pos ⟨h0,zy⟩,h2]
 .rw [if_neg zy,if_neg zy]
  by_cases h3:0<=dl g S (d+1) i
  .have:=(Ie h3 h0).1
   rw[if_neg zy]
  .rw [if_neg zy]
theorem Jb (g:Gr) (S:List Int) (d:Nat) (F:List Int):(BT g S d F).length=g.size.toNat:=by simp[BT]
theorem Zg (g:Gr) (S:List Int) (d:Nat):(BQ g S d).length=g.size.toNat:=by simp[BQ]
theorem dV {k:Nat} (hk:k<g.size.toNat) (hd:dl g S d k=d):(BT g S d F)[k]'(by rw[Jb];exact hk)=if (k:Int)∈F then (d:Int) else -1:=by
 unfold BT;simp only[List.getElem_map,List.getElem_range];rw[if_neg zy]
theorem VU (F:List Int) {i:Nat} (hi:i<g.size.toNat):(BT g S d F)[i]? = some (if 0<=dl g S d i/\dl g S d i<d then dl g S d i else if (i:Int)∈F then (d:Int) else -1):=by
 simp[BT,hi]
theorem rS {k:Nat} (hk:k<g.size.toNat) (hd:dl g S d k=d):(BT g S d F).set k d=BT g S d (F++[(k:Int)]):=by
 apply List.ext_getElem?;intro i
 by_cases hi:i<g.size.toNat
 .rw [VU _ hi,List.getElem?_set]
  by_cases q:k=i
  .subst q
   rw[if_pos rfl,if_pos (by rw[Jb];exact hk),if_neg zy,if_pos zz]
  .rw [if_neg q,VU _ hi]
   have:(i:Int)∈F++[(k:Int)]↔(i:Int)∈F:=by
    simp;omega
   simp only[this]
 .rw [QS (by rw[UF,Jb];omega),QS (by rw[Jb];omega)]
theorem Yl {F':List Int} (h:∀ x,x∈F↔x∈F'):BT g S d F=BT g S d F':=by
 unfold BT;simp only[h]
theorem fH {l:List Ed} {x:Int} (hx:x∉F):(l.countP λ e=>decide (e.f∈F++[x]))=(l.countP λ e=>decide (e.f∈F))+(Av l x).length:=by
 rw[mS]
 induction l with
 | nil=>rfl
 | cons e l ih =>
   have e1:decide (e.f∈F++[x])=(decide (e.f∈F) || decide (e.f=x)):=zz
   simp only[List.countP_cons,ih,e1]
   by_cases h1:e.f∈F<;>by_cases h2:e.f=x
   .rw [h2] at h1;exact absurd h1 hx
   all_goals
    simp only[hx,h1,h2,decide_true,decide_false,Bool.or_true,Bool.or_false,Bool.true_or,Bool.false_or,UM,Ue,Uv];omega
variable {d n:Int}
structure Aq where
 seeds:List Int
 table:List Int
 lv:Int
variable {p:Aq}
def BD (n:Int) (p:Aq):Prop :=
 p.seeds≠[]/\Bh p.seeds 0 (n - 1)/\1<=p.table.length/\p.table.length<=8/\1<=p.lv/\p.lv<=3 /\ ∀ i (h:i<p.table.length),1<=p.table[i]/\p.table[i]<=1000/\(0<i->p.table[i]<=p.table[i - 1])
def DA (p:Aq) (d:Int):Int:=if d<0 then 0 else p.table.getD d.toNat 1
theorem Ko (h:d<0):DA p d=0:=if_pos h
theorem JB (hp:BD n p) (h:0<=d):1<=DA p d/\DA p d<=1000:=by
 unfold DA;rw[if_neg zy]
 by_cases hd:d.toNat<p.table.length
 .rw [Qe,Qa hd,QO]
  have:=hp.2.2.2.2.2.2 d.toNat hd;omega
 .rw [Qe,QS zy,Option.getD_none]
  omega
theorem bO (hp:BD n p):0<DA p d↔0<=d:=by
 constructor
 .intro h
  refine Decidable.byContradiction λ h1=>?_;rw[Ko zy] at h
  omega
 .intro h
  have:=JB hp h;omega
theorem O8 (hp:BD n p) (d:Int):0<=DA p d/\DA p d<=1000:=by
 by_cases h:0<=d
 .have:=JB hp h;omega
 .rw [Ko zy];omega
def Ao (g:Gr) (p:Aq):List Int:=(DK (AO g p.lv) p.seeds).map (DA p)
def Cv (g:Gr) (p:Aq) (c:List Int) (sinks:List Int):List Ed :=
 ((p.seeds.filter λ x=>decide (0<c.getD x.toNat 0)).map λ x=>⟨0,2+2*x,c.getD x.toNat 0⟩)
 ++ ((List.range c.length).filter λ i=>decide (0<c.getD i 0)).map (λ i=>⟨2+2*(i:Int),3+2*(i:Int),c.getD i 0 - 1⟩)
 ++ ((sinks.filter λ x=>decide (0<c.getD x.toNat 0)).map λ x=>⟨2+2*x,1,1⟩)
 ++ (((AO g p.lv).edges.filter λ e=>decide (0<c.getD e.f.toNat 0)).map λ e=>⟨3+2*e.f,2+2*e.t,64⟩)
structure FG where
 nodes:Int
 arcs:List Ed
def G5 (n:Int) (a:Ed):Prop:=0<=a.f/\a.f<=n - 1/\0<=a.t/\a.t<=n - 1/\a.f≠a.t/\a.t≠0/\a.f≠1/\0<=a.v/\a.v<=1048576
instance (n:Int) (a:Ed):Decidable (G5 n a):=by unfold G5;infer_instance
def C9 (n:FG):Prop:=2<=n.nodes/\n.nodes<=130/\n.arcs.length<=1200 /\ ∀ a∈n.arcs,G5 n.nodes a
instance (n:FG):Decidable (C9 n):=by unfold C9;infer_instance
def Fx (n:FG) (side:List Int):Prop:=C9 n/\Bh side 0 (n.nodes - 1)/\(0:Int)∈side/\(1:Int)∉side
def Bj (arcs:List Ed) (side:List Int):Int:=(arcs.map λ a=>if a.f∈side/\a.t∉side then a.v else 0).sum
def GI (n:FG) (side:List Int) (most:Int):Prop:=Fx n side/\Bj n.arcs side<=most
theorem oW (arcs:List Ed) (side:List Int) (i:Nat) (h:i<arcs.length):Bj (arcs.take (i+1)) side=Bj (arcs.take i) side+if arcs[i].f∈side/\arcs[i].t∉side then arcs[i].v else 0:=by
 unfold Bj;rw[Ql h,Ug,List.sum_append];simp
theorem TT {n:Int} {side:List Int}:∀ {arcs:List Ed},(∀ a∈arcs,G5 n a)->0<=Bj arcs side/\Bj arcs side<=1048576*arcs.length
 | [],_=>by simp[Bj]
 | a::l,h=>by
   have h1:=h a (Qi ..);have h2:=TT (side:=side) λ x hx=>h x (Qg a hx);have h3:Bj (a::l) side=(if a.f∈side/\a.t∉side then a.v else 0)+Bj l side:=by simp[Bj]
   have h4:0<=(if a.f∈side/\a.t∉side then a.v else 0)/\(if a.f∈side/\a.t∉side then a.v else 0)<=1048576:=by
    split
    .exact ⟨h1.2.2.2.2.2.2.2.1,h1.2.2.2.2.2.2.2.2⟩
    .omega
   rw[h3];simp only[QV];omega
def Am (a:List Int):List Int:=((List.range 64).map Int.ofNat).filter λ x=>decide (x∈a)
theorem Ip {a:List Int} {x:Int}:x∈Am a↔x∈a/\0<=x/\x<64:=by
 unfold Am;simp only[Qz,Qh,QP,Qf];constructor
 .rintro ⟨⟨i,hi,rfl⟩,h⟩
  exact⟨h,Int.natCast_nonneg _,by show (i:Int)<64;omega⟩
 .rintro ⟨h,h0,h1⟩
  exact⟨⟨x.toNat,zy,by show ((x.toNat:Nat):Int)=x;omega⟩,h⟩
theorem K6 (a:List Int):(Am a).Pairwise (· < ·):=by
 unfold Am;refine List.Pairwise.filter _ ?_;rw[US];exact List.pairwise_lt_range.imp λ {a b} h=>by show (a:Int)<(b:Int);omega
theorem HT:∀ {a b:List Int},a.Nodup->(∀ x∈a,x∈b)->a.length<=b.length
 | [],_,_,_=>Qn _
 | x::a,b,hn,hs=>by
   have hx:x∈b:=hs x (Qi ..);rw[Q1] at hn;have hb:=List.perm_cons_erase hx;have u:(b.erase x).length+1=b.length:=by have:=hb.length_eq;simp at this;omega
   have:=HT (b:=b.erase x) hn.2 λ y hy=>by
    have q:y≠x:=λ e=>hn.1 (e ▸ hy);exact(List.mem_erase_of_ne q).2 (hs y (Qg _ hy))
   rw[QV];omega
theorem JM {a:List Int} (hn:a.Nodup) (hr:∀ k∈a,0<=k/\k<64):Dl a=Am a:=by
 have h1:(Am a).Nodup:=(K6 a).imp λ {x y} h=>zy
 have h2:a.Perm (Am a):=Pe hn (λ x hx=>Ip.2 ⟨hx,hr x hx⟩) (HT h1 λ x hx=>(Ip.1 hx).1);exact List.Perm.eq_of_pairwise (le:=(· <= ·)) (λ x y _ _ h1 h2=>zy) (MQ a) ((K6 a).imp λ {x y} h=>zy) ((I3 a).trans h2)
def DV (e:Ed):Int × Int:=(e.f,e.t)
theorem nU {A:List Ed} (h:(A.map DV).Nodup) {i j:Nat} (hi:i<A.length) (hj:j<A.length) (h1:(AH A i).f=(AH A j).f) (h2:(AH A i).t=(AH A j).t):i=j:=by
 have hg:∀ k (hk:k<A.length),(A.map DV)[k]'(by simpa using hk)=DV (AH A k):=λ k hk=>by
  rw[List.getElem_map];unfold AH;rw[Qe,Qa hk,QO]
 have he:DV (AH A i)=DV (AH A j):=by unfold DV;rw[h1,h2]
 rcases Vf i j with q | heq | hgt
 .exact absurd ((hg i hi).trans (he.trans (hg j hj).symm)) (QM.1 h i j (by simpa using hi) (by simpa using hj) q)
 .exact heq
 .exact absurd ((hg j hj).trans (he.symm.trans (hg i hi).symm)) (QM.1 h j i (by simpa using hj) (by simpa using hi) hgt)
theorem Pa {α β:Type} {φ:α->β} {l:List α} (h:l.Nodup) (hi:∀ a∈l,∀ b∈l,φ a=φ b->a=b):(l.map φ).Nodup:=by
 rw[List.Nodup,US];exact List.Pairwise.imp_of_mem (λ {a b} ha hb q he=>q (hi a ha b hb he)) h
theorem uP {g:Gr} {p:Aq} {c sinks q:List Int} {E:Int->Int->Prop} (hE:∀ e∈(AO g p.lv).edges,0<c.getD e.f.toNat 0->E e.f e.t) (hS:∀ x∈p.seeds,0<c.getD x.toNat 0->x∈q) (hs:p.seeds.Nodup) (h3:∀ x∈p.seeds,0<=x) (hk:sinks.Nodup) (u:∀ x∈sinks,0<=x) (he:((AO g p.lv).edges.map DV).Nodup) (h2:∀ e∈(AO g p.lv).edges,0<=e.f/\0<=e.t) :
  GZ (Cv g p c sinks) E q sinks λ x=>c.getD x.toNat 0:=by
 refine⟨λ i hi=>?_,λ i j hi hj=>nU ?_ hi hj⟩
 .have hm:=Fz hi
  revert hm
  generalize AH (Cv g p c sinks) i=a;intro hm;unfold Cv at hm;rcases Qo.1 hm with hm | hm
  .rcases Qo.1 hm with hm | hm
   .rcases Qo.1 hm with hm | hm
    .obtain ⟨x,hx,rfl⟩:=Qh.1 hm
     have hx:=Qz.1 hx;exact .inl ⟨x,hS x hx.1 (by simpa using hx.2),h3 x hx.1,rfl⟩
    .obtain ⟨x,hx,rfl⟩:=Qh.1 hm
     exact .inr (.inl ⟨x,Int.natCast_nonneg _,zz⟩)
   .obtain ⟨x,hx,rfl⟩:=Qh.1 hm
    have hx:=(Qz.1 hx).1;exact .inr (.inr (.inl ⟨x,hx,u x hx,rfl⟩))
  .obtain ⟨e,hx,rfl⟩:=Qh.1 hm
   have hx:=Qz.1 hx;have h0:=h2 e hx.1;exact .inr (.inr (.inr ⟨e.f,e.t,h0.1,h0.2,hE e hx.1 (by simpa using hx.2),rfl⟩))
 .unfold Cv
  simp only[Ug,Ub];refine Uj.2 ⟨Uj.2 ⟨Uj.2 ⟨?_,?_,?_⟩,?_,?_⟩,?_,?_⟩
  .exact Pa (hs.filter _) λ a _ b _ h=>by simp[DV] at h;omega
  .exact Pa (List.nodup_range.filter _) λ a _ b _ h=>by simp[DV] at h;omega
  .intro a ha b hb
   obtain⟨x,hx,rfl⟩:=Qh.1 ha;obtain⟨y,hy,rfl⟩:=Qh.1 hb;intro h;simp[DV] at h;omega
  .exact Pa (hk.filter _) λ a _ b _ h=>by simp[DV] at h;omega
  .intro a ha b hb
   obtain⟨y,hy,rfl⟩:=Qh.1 hb;have h4:=u y (Qz.1 hy).1;rcases Qo.1 ha with ha | ha
   .obtain ⟨x,hx,rfl⟩:=Qh.1 ha
    intro h;simp[DV] at h;omega
   .obtain ⟨x,hx,rfl⟩:=Qh.1 ha
    intro h;simp[DV] at h;omega
  .have h1:((AO g p.lv).edges.filter λ e=>decide (0<c.getD e.f.toNat 0)).Pairwise λ a b=>DV a≠DV b:=by
    rw[List.Nodup,US] at he;exact he.filter _
   rw[List.Nodup,US];refine h1.imp λ {a b} h5 h=>h5 ?_;simp[DV] at h;unfold DV;rw[show a.f=b.f by omega,show a.t=b.t by omega]
  .intro a ha b hb
   obtain⟨e,hy,rfl⟩:=Qh.1 hb;have h4:=h2 e (Qz.1 hy).1;rcases Qo.1 ha with ha | ha
   .rcases Qo.1 ha with ha | ha
    .obtain ⟨x,hx,rfl⟩:=Qh.1 ha
     intro h;simp[DV] at h;omega
    .obtain ⟨x,hx,rfl⟩:=Qh.1 ha
     intro h;simp[DV] at h;omega
   .obtain ⟨x,hx,rfl⟩:=Qh.1 ha
    intro h;simp[DV] at h;omega
theorem Le.dn {st st':St} {D D':List (List AV)} (N:Nat) (i j i' j':Nat) (sn:List Nat) (h0:st'.sz=st.sz) (hh:st'.h=[(i',some ⟨1,[[.rs j' 0 N]],0⟩),(j',some ⟨1,D',0⟩)]) (hi:i'<st'.n) (hj:j'<st'.n) (q:i≠j) (u:i'≠j') (hs:∀ k∈sn,k≠i/\k≠j) (h1:st.hp i=some ⟨1,[[.rs j 0 N]],0⟩) (h2:st.hp j=some ⟨1,D,0⟩) (hD:D.map (·.map (conv [(i,i'),(j,j')] sn st.hp 4))=D') (ht:∀ p∈st'.t,Wk (conv [(i,i'),(j,j')] sn st.hp 4 (st.get p.1)) p.2):Le 0 st st' :=
 Le.ents [(i,i'),(j,j')] sn h0 (by simpa using q) (by simpa using u) (by simp[hi,hj]) (by simpa using hs) (Qn _) ht λ p hp=>by
  rw[hh] at hp;simp at hp;rcases hp with rfl | rfl
  .exact ⟨i,_,_,rfl,zz,h1,An.eq (by simp[q]) zz⟩
  .exact ⟨j,_,_,rfl,zz,h2,An.eq (by simp only[Ab,hD]) zz⟩
theorem Yb {l:List Int} {lo hi:Int} (h:Bh l lo hi):∀ (i:Nat) (hi:i<l.length),lo+i<=l[i]
 | 0,hi=>by have:=(h 0 hi).1;simp;omega
 | i+1,hi=>by
   have h1:=Yb h i zy
   have h2:=(h (i+1) hi).2.2 zy
   simp only[Nat.add_sub_cancel] at h2;omega
theorem AG.gone_le {g:Gr} (h:AG g):g.gone.length<=64:=by
 have hr:=h.1.2.2.2;have h1:=h.1.1;have h2:=h.1.2.1;rcases UE g.gone.length with h0 | h0
 .omega
 .have h3:=Yb hr (g.gone.length - 1) zy
  have h4:=(hr (g.gone.length - 1) zy).2.1
  omega
theorem Ry {l:List Ed} {x t:Int}:t∈Av l x ↔ ∃ e∈l,e.f=x/\e.t=t:=by
 unfold Av;simp only[U2];constructor
 .rintro ⟨e,he,h⟩
  split at h
  .exact ⟨e,he,by assumption,by simpa using h⟩
  .cases h
 .rintro ⟨e,he,h1,h2⟩
  exact⟨e,he,by rw[if_pos h1,h2]⟩
theorem uU {g:Gr} {S:List Int} {d:Nat} {F X:List Int} (hg:AG g) (hF:∀ x,x∈F↔DT g x/\dl g S d x=d) (hX:∀ t,t∈X ↔ ∃ x∈F,t∈Av g.edges x) (x:Int) :
  x∈X.filter (λ e=>!DM (BQ g S (d+1)) e)↔DT g x/\dl g S (d+1) x=(d+1:Nat):=by
 rw[Qz,hX];have h0:=Zg g S (d+1);have h8:=hg.1.1;constructor
 .rintro ⟨⟨y,hy,h6⟩,ho⟩
  obtain⟨e,he,rfl,rfl⟩:=Ry.1 h6;have h9:=(hF e.f).1 hy;simp only[DM,Bool.not_or,Bool.not_not,QD,Qf,h0] at ho;have hk:DT g e.t:=⟨ho.1.1,zy⟩
  have h1:=Rf (S:=S) (n:=d) he zy
  refine⟨hk,?_⟩;have u:=ho.2;obtain⟨k,h7⟩:∃ k:Nat,e.t=k:=⟨e.t.toNat,by have:=hk.1;omega⟩
  rw[h7] at u h1 ⊢;have h3:k<g.size.toNat:=by have:=hk.2;omega
  have q:(BQ g S (d+1)).getD k 0=if 0<=dl g S (d+1) k/\dl g S (d+1) k<(d+1:Nat) then dl g S (d+1) k else -1:=by
   simp[BQ,List.getD,h3]
  simp only[U5,q] at u;simp at u;split at u<;>omega
 .rintro ⟨hk,hd⟩
  have h2:¬ 0<=dl g S d x:=by
   intro h2;rw[Gs h2] at hd;have:=Ev (g:=g) (S:=S) d x;omega
  obtain⟨_,e,he,h4,h5⟩:=Ie (g:=g) (S:=S) (n:=d) (k:=x) zy h2
  have hf:=hg.fits e he;refine⟨⟨e.f,(hF _).2 ⟨⟨hf.1,by have:=hf.2.1;omega⟩,h5⟩,Ry.2 ⟨e,he,rfl,h4⟩⟩,?_⟩
  obtain⟨k,rfl⟩:∃ k:Nat,x=k:=⟨x.toNat,by have:=hk.1;omega⟩
  have h3:k<g.size.toNat:=by have:=hk.2;omega
  have q:(BQ g S (d+1)).getD k 0=if 0<=dl g S (d+1) k/\dl g S (d+1) k<(d+1:Nat) then dl g S (d+1) k else -1:=by
   simp[BQ,List.getD,h3]
  simp only[DM,U5,q,h0];rw[if_neg zy]
  simp;omega
theorem fO {F:List Int} {i:Nat} (h:i<F.length) (x:Int):x∈F.take (i+1)↔x∈F.take i++[F[i]]:=by
 rw[<- Vc h,U9]
theorem OM (g:Gr) (S:List Int) (hg:AG g) (hS:S.length<=1099511627776):AK 26 [eG g,AA S] [] (.rs 0 0 g.size.toNat) [some ⟨1,AE (DK g S),0⟩]:=by
 refine lI.s.ai ?_;have b3:=hg.1.1;have av:=hg.1.2.1;have hq:=hg.1.2.2.1;have a4:g.gone.length<=1000000:=QF hg.gone_le zy
 obtain⟨N,hN⟩:∃ N:Nat,N=g.size.toNat:=⟨_,rfl⟩;have a5:(if 0<g.size then g.size else 0)=(N:Int):=by split<;>omega
 refine ar [2,3] [] [16,24] 40 ?_;apply ak [2,3,5] [80,72] 96
 .simp [a5]
  refine tL (j:=40) (Qn _) rfl (rX (-1) N zy) ?_ ?_
  .simp
  simp;rfl
 have h0:List.replicate N [AV.I (-1)]=AE (BQ g S 0):=by
  unfold BQ AE;rw[Ub];apply List.ext_getElem
  .simp [hN]
  .intro i h1 h2
   simp;omega
 rw[h0];obtain⟨F0,hh⟩:∃ F,F=Cr N (EA g S):=⟨_,rfl⟩
 have hu:∀ x,x∈F0↔DT g x/\dl g S 0 x=((0:Nat):Int):=by
  intro x;rw[hh];unfold Cr;simp only[Qz,Qh,QP];constructor
  .rintro ⟨⟨i,hi,rfl⟩,hs⟩
   exact⟨⟨zy,zy⟩,by rw[dl,if_pos hs];rfl⟩
  .rintro ⟨⟨k1,k2⟩,hs⟩
   refine⟨⟨x.toNat,zy,zy⟩,?_⟩
   rw[dl] at hs;split at hs
   .assumption
   .simp at hs
 have hv:F0.length<=500:=by have:=Ms N (EA g S);rw[hh];omega
 refine arc ⟨50,[(2,.pv (gC g)),(5,.pt 80 0 0),(6,AA F0)],[(80,some ⟨1,[[.rs 72 0 N]],0⟩),(72,some ⟨1,AE (BQ g S 0),0⟩)],136⟩ ?_ ?_
 .simp
  refine Ct (Sh 61 [.pv (gC g),.pv [AA S]] (EA g S) g.size zy (λ ρ sn h n=>zz) (λ k _=>sO g S k hS zy)) ?_
  rw[<- hN,<- hh];simp[AC];exact Le.dn N 80 72 80 72 [120] rfl rfl zz zz zx zx zz rfl rfl (by simp[AC]) (by simp[AC,B7])
 refine AB ?_;apply ak [2,5,6,7] [80,72] 144
 .simp
  rfl
 refine AT (As (ι:=Nat × List Int) (λ p=>⟨50,[(2,.pv (gC g)),(5,.pt 80 0 0),(6,AA p.2),(7,.I p.1)],[(80,some ⟨1,[[.rs 72 0 N]],0⟩),(72,some ⟨1,AE (BQ g S p.1),0⟩)],144⟩) (λ p=>p.1<=64/\p.2.length<=500 /\ ∀ x,x∈p.2↔DT g x/\dl g S p.1 x=p.1) (λ p=>64 - p.1) (0,F0) ⟨zz,hv,hu⟩ (Le.refl _ _) ?_)
 rintro⟨d,F⟩ ⟨hd,a6,h5⟩
 simp only at hd a6 h5 ⊢;refine AB (arc ⟨50,[(2,.pv (gC g)),(5,.pt 80 0 0),(6,AA F),(7,.I d),(22,.B (decide (0<F.length)))],[(80,some ⟨1,[[.rs 72 0 N]],0⟩),(72,some ⟨1,AE (BQ g S d),0⟩)],168⟩ ?_ ?_)
 .simp
  exact Le.keep rfl (Qk _) (by simp<;>rw[Qv]<;>simp) zz
 refine AI _ rfl (λ h=>AN ?_) λ h=>Ar (hit ?_)
 .simp only[Qf] at h
  have b0:(d:Int)<g.size:=by
   have:=h5 F[0];have h1:=(this.1 (Qj _));exact Kq hg h1.1 h1.2
  refine G1 (ι:=List Int) (λ F'=>⟨50,[(2,.pv (gC g)),(5,.pt 80 0 0),(6,AA F'),(7,.I d)],[(80,some ⟨1,[[.rs 72 0 N]],0⟩),(72,some ⟨1,AE (BQ g S (d+1)),0⟩)],144⟩) (λ F'=>F'.length<=500 /\ ∀ x,x∈F'↔DT g x/\dl g S (d+1) x=(d+1:Nat)) ?_ ?_
  .refine AT ?_
   apply ak [2,5,6,7,8] [80,72] 176
   .simp
    rfl
   rw[<- NE];refine AB (AB (AY ?_));refine AT ?_
   let C:Nat × List Int->St:=λ p=>⟨50,[(2,.pv (gC g)),(5,.pt 80 0 0),(7,.I d),(8,.rs 16 0 p.2.length),(25,AA F),(26,.I F.length),(27,.I p.1)],[(80,some ⟨1,[[.rs 72 0 N]],0⟩),(72,some ⟨1,AE (BT g S d (F.take p.1)),0⟩),(16,some ⟨1,AE p.2,0⟩)],200⟩
   refine As C (λ p:Nat × List Int=>p.1<=F.length/\(∀ t,t∈p.2 ↔ ∃ x∈F.take p.1,t∈Av g.edges x)/\p.2.length=g.edges.countP λ e=>decide (e.f∈F.take p.1)) (λ p:Nat × List Int=>F.length - p.1) (0,[]) ⟨Qn _,zz,zz⟩ ?_ ?_
   .refine Le.lst [(80,80),(72,72)] [] [(16,1)] rfl zz zz (by simp[C]) (by simp[C]) zz zz zz (by simp[C,Up]) λ p hp e' hj=>?_
    simp[C] at hp;rcases hp with rfl | rfl | rfl
    .cases hj
     exact .inl ⟨(80,80),zz,rfl,_,rfl,An.eq zz zz⟩
    .cases hj
     exact .inl ⟨(72,72),zz,rfl,_,rfl,An.eq (by simp[AC,NE]) zz⟩
    .cases hj
     exact .inr ⟨zz,zz,rfl⟩
   rintro⟨i,X⟩ ⟨hi,h6,h7⟩
   simp only at hi h6 h7 ⊢;have b1:X.length<=500:=by rw[h7];exact QF List.countP_le_length hq
   have hC:C (i,X)=⟨50,[(2,.pv (gC g)),(5,.pt 80 0 0),(7,.I d),(8,.rs 16 0 X.length),(25,AA F),(26,.I F.length),(27,.I i)],[(80,some ⟨1,[[.rs 72 0 N]],0⟩),(72,some ⟨1,AE (BT g S d (F.take i)),0⟩),(16,some ⟨1,AE X,0⟩)],200⟩:=rfl;rw[hC];apply ak [2,5,7,8,25,26,27,28] [80,72,16] 208
   .simp
    rfl
   refine AB (AI _ rfl (λ h2=>AN ?_) λ h2=>Ar (hit ?_))
   .simp only[Qf] at h2
    have hx:=(h5 F[i]).1 (Qj h2);obtain⟨k,hk⟩:∃ k:Nat,F[i]=k:=⟨F[i].toNat,by have:=hx.1.1;omega⟩
    have hw:k<g.size.toNat:=by have:=hx.1.2;omega
    have hy:dl g S d k=d:=by rw[<- hk];exact hx.2
    have h8:=fO h2;rw[hk] at h8;refine G1 (ι:=List Int) (λ X'=>⟨50,[(2,.pv (gC g)),(5,.pt 80 0 0),(7,.I d),(8,.rs 16 0 X'.length),(25,AA F),(26,.I F.length),(27,.I i)],[(80,some ⟨1,[[.rs 72 0 N]],0⟩),(72,some ⟨1,AE (BT g S d (F.take (i+1))),0⟩),(16,some ⟨1,AE X',0⟩)],200⟩) (λ X'=>(∀ t,t∈X' ↔ ∃ x∈F.take (i+1),t∈Av g.edges x)/\X'.length=g.edges.countP λ e=>decide (e.f∈F.take (i+1))) ?_ ?_
    .have hl:(BT g S d (F.take i)).length=N:=by rw[Jb,hN]
     have hm:=dV (g:=g) (S:=S) (d:=d) (F:=F.take i) hw hy
     have h4:AE ((BT g S d (F.take i)).set k d)=AE (BT g S d (F.take (i+1))):=by
      rw[rS hw hy]
      congr 1
      exact Yl λ x=>(h8 x).symm
     have hn:(AE (BT g S d (F.take i))).set k [AV.I d]=AE (BT g S d (F.take (i+1))):=by
      rw[<- h4,AE,AE,List.map_set]
     clear h4
     have hc:(AE (BT g S d (F.take i)))[k]? = some [AV.I (if (k:Int)∈F.take i then (d:Int) else -1)]:=by
      rw[QH,Qa zy,hm]
      rfl
     have b4:(AE (BT g S d (F.take i))).length=N:=by simp[hl]
     generalize hO:AE (BT g S d (F.take i))=O at *;refine AT ?_;apply ak [2,5,7,8,25,26,27,10] [80,72,16] 232
     .simp [h2,hk]
      rfl
     refine AB (arc ⟨50,[(2,.pv (gC g)),(5,.pt 80 0 0),(7,.I d),(8,.rs 16 0 X.length),(25,AA F),(26,.I F.length),(27,.I i),(10,.I k),(35,.B (decide ((k:Int)∈F.take i)))],[(80,some ⟨1,[[.rs 72 0 N]],0⟩),(72,some ⟨1,O,0⟩),(16,some ⟨1,AE X,0⟩)],272⟩ ?_ ?_)
     .simp [hc,show k<N by omega]
      refine Le.keep rfl (Qk _) ?_ zz
      by_cases a7:(k:Int)∈F.take i<;>simp[a7]
     refine AI _ rfl (λ h3=>Ar (hit ?_)) λ h3=>AN ?_
     .simp only[Qf] at h3
      have q:∀ x,x∈F.take (i+1)↔x∈F.take i:=by
       intro x;rw[h8 x];simp
       rintro rfl
       exact h3
      refine⟨X,⟨λ t=>?_,?_⟩,?_⟩
      .rw [h6]
       simp only[q]
      .rw [h7]
       simp only[q]
      .rw [Yl q,hO]
       refine Le.ents [(80,80),(72,72),(16,16)] [] rfl zz zz zz zz zz zz λ p hp=>?_
       simp at hp;rcases hp with rfl | rfl | rfl
       .exact ⟨80,_,_,rfl,zz,rfl,An.eq zz zz⟩
       .exact ⟨72,_,_,rfl,zz,rfl,An.eq (by rw[<- hO];simp[AC]) zz⟩
       .exact ⟨16,_,_,rfl,zz,rfl,An.eq (by simp[AC]) zz⟩
     simp only[Qd] at h3;refine arc ⟨50,[(2,.pv (gC g)),(5,.pt 80 0 0),(7,.I d),(8,.rs 16 0 X.length),(25,AA F),(26,.I F.length),(27,.I i),(10,.I k)],[(80,some ⟨1,[[.rs 72 0 N]],0⟩),(72,some ⟨1,AE (BT g S d (F.take (i+1))),0⟩),(16,some ⟨1,AE X,0⟩)],312⟩ ?_ ?_
     .simp [hc,show k<N by omega,Ax]
      exact Le.keep rfl (Qk _) zz (by simp;exact hn)
     have ha:=fH (l:=g.edges) h3;have b5:=NH g.edges k;refine Ap rfl ?_;simp;refine Fm (TV g k zy) rfl ?_
     simp[AC]
     have a8:(λ e:Ed=>decide (e.f∈F.take (i+1)))=λ e:Ed=>decide (e.f∈F.take i++[(k:Int)]):=by
      funext e
      simp only[h8]
     refine⟨zy,zy,X++Dx (Av g.edges k),⟨λ t=>?_,?_⟩,?_⟩
     .rw [Qo,kE,h6]
      simp only[h8,Qo,Qt];constructor
      .rintro (⟨x,hx,ht⟩ | ht)
       .exact ⟨x,.inl hx,ht⟩
       .exact ⟨k,.inr rfl,ht⟩
      .rintro ⟨x,hx | rfl,ht⟩
       .exact .inl ⟨x,hx,ht⟩
       .exact .inr ht
     .rw [Qm,IN,h7,a8,ha]
     .have e1:List.take X.length (AE X)=AE X:=Qb zz
      have e2:List.take (Av g.edges k).length (AE (Dx (Av g.edges k)))=AE (Dx (Av g.edges k)):=Qb (by rw[AE,QB,IN];exact Qk _)
      have e3:(X++Dx (Av g.edges k)).length=X.length+(Av g.edges k).length:=by rw[Qm,IN]
      rw[e1,e3];refine Le.ents [(80,80),(72,72),(344,16)] [] rfl zz zz zz zz zz zz λ p hp=>?_
      simp at hp;rcases hp with rfl | rfl | rfl
      .exact ⟨80,_,_,rfl,zz,rfl,An.eq zz zz⟩
      .exact ⟨72,_,_,rfl,zz,rfl,An.eq (by simp[AC]) zz⟩
      .refine ⟨344,_,_,rfl,zz,rfl,An.eq ?_ zz⟩
       have e4:AE X++List.take (Av g.edges k).length (AE (Dx (Av g.edges k)))=AE X++AE (Dx (Av g.edges k)):=by rw[e2]
       have e5:(⟨1,AE X++List.take (Av g.edges k).length (AE (Dx (Av g.edges k))),0⟩:AD)=⟨1,AE X++AE (Dx (Av g.edges k)),0⟩:=by rw[e4]
       refine(congrArg _ e5).trans ?_;simp[AC]
    rintro X' ⟨k1,k2⟩
    have a9:=wq (k:=i);refine Ap rfl ?_;simp[a9];refine⟨i+1,X',⟨zy,k1,k2⟩,zy,Le.ents [(80,80),(72,72),(16,16)] [] rfl zz zz (by simp[C]) zz (by simp[C]) (by simp[C]) λ p hp=>?_⟩
    simp[C] at hp;rcases hp with rfl | rfl | rfl
    .exact ⟨80,_,_,rfl,zz,rfl,An.eq zz zz⟩
    .exact ⟨72,_,_,rfl,zz,rfl,An.eq (by simp[AC]) zz⟩
    .exact ⟨16,_,_,rfl,zz,rfl,An.eq (by simp[AC]) zz⟩
   simp only[Qd] at h2;obtain rfl:i=F.length:=zy
   rw[Qb (Qk _)] at h6 h7 ⊢;rw[sG d F h5];obtain⟨F',hb⟩:∃ F',F'=X.filter λ e=>!DM (BQ g S (d+1)) e:=⟨_,rfl⟩;have b2:F'.length<=X.length:=by rw[hb];exact Q5 _ _
   have ho:=Zg g S (d+1);have hf:=vY 65 [.pv [AA (BQ g S (d+1))]] (DM (BQ g S (d+1))) X X.length F'.length rfl (by rw[hb]) zy (λ ρ sn h n=>zz) (λ e _=>fV (BQ g S (d+1)) e (by rw[ho];omega))
   rw[<- hb] at hf;have ag:List.take N (AE (BQ g S (d+1)))=AE (BQ g S (d+1)):=Qb (by rw[AE,QB,ho];omega)
   have an:N<=(AE (BQ g S (d+1))).length:=by rw[AE,QB,ho];omega
   have hz:=λ x=>uU hg h5 h6 x;rw[<- hb] at hz;generalize hO:BQ g S (d+1)=O at *;refine Ap rfl ?_;simp
   refine nX (i:=16) [80,72] zz rfl (e':=⟨1,AE X,0⟩) (by simp[AC]) hf zz ?_ (.rs _ _ _) (by
    intro e he;simp at he;subst he
    exact u6) ?_
   .have a0:N<=O.length:=by simpa using an
    have a1:List.take N (List.map (λ x=>[AV.I x]) O)=List.map (λ x=>[AV.I x]) O:=ag;simp[AC,a0,a1]
   simp[AC];refine⟨F',⟨zy,hz⟩,?_⟩
   rw[NE,hO];exact Le.dn N 80 72 80 72 [16] rfl rfl zz zz zx zx zz rfl rfl (by simp[AC]) (by simp[AC,B7])
  rintro F' ⟨k1,k2⟩
  have au:=wq (k:=d);refine Ap rfl ?_;simp[au];exact⟨d+1,F',⟨zy,k1,k2⟩,zy,Le.dn N 80 72 80 72 [] rfl rfl zz zz zx zx zz rfl rfl (by simp[AC]) zz⟩
 simp only[Qd] at h;have a2:F=[]:=QK zy
 have u:∀ k,DT g k->dl g S d k≠d:=by
  intro k hk he;have:=(h5 k).2 ⟨hk,he⟩;rw[a2] at this;simp at this
 have a3:BQ g S d=DK g S:=by
  unfold BQ DK;refine Q7 λ i hi=>?_;simp at hi;have h9:DT g i:=⟨zy,zy⟩
  rw[Tu hg u i h9];have hr:=Ev (g:=g) (S:=S) d i;have:=u i h9;rw[Tu hg u i h9] at this hr;split<;>omega
 rw[a3];refine AB (AY ?_);refine A9 ?_;rw[<- hN];exact⟨.inr rfl,AW.out [72] [] rfl zz zz zz (by simp[AC])⟩
variable {g:Gr} {S:List Int}
theorem Le.l1 {st st':St} {D:List Int} (i j:Nat) (sn:List Nat) (q:st'.sz=st.sz) (hh:st'.h=[(j,some ⟨1,AE D,0⟩)]) (hj:j<st'.n) (hs:∀ k∈sn,k≠i) (he:st.hp i=some ⟨1,AE D,0⟩) (ht:∀ p∈st'.t,Wk (conv [(i,j)] sn st.hp 4 (st.get p.1)) p.2):Le 0 st st' :=
 Jg q hh hj hs he (by simp[AC]) zz ht
def D4 (c:Int->Int->Int):List Int->Int->List Int
 | [],x=>[x]
 | y::r,x=>if c x y<0 then y::D4 c r x else x::y::r
def Fj (c:Int->Int->Int) (M:List Int):List Int:=M.foldl (D4 c) []
def Eu (c:Int->Int->Int) (M:List Int):List Int:=(Fj c M).reverse
theorem K4 (c:Int->Int->Int):∀ (r:List Int) (x:Int),(D4 c r x).Perm (x::r)
 | [],x=>.refl _
 | y::r,x=>by
   unfold D4;split
   .exact ((K4 c r x).cons y).trans (.swap _ _ _)
   .exact .refl _
theorem fB (c:Int->Int->Int) (M:List Int) (k:Nat) (h:k<M.length):Fj c (M.take (k+1))=D4 c (Fj c (M.take k)) M[k]:=by
 unfold Fj;rw[<- Vc h,U9,UW];rfl
theorem MS (c:Int->Int->Int) (M:List Int):(Fj c M).Perm M:=by
 have key:∀ (M acc:List Int),(M.foldl (D4 c) acc).Perm (M++acc):=by
  intro M
  induction M with
  | nil=>intro acc;exact .refl _
  | cons x M ih =>
    intro acc;refine(ih _).trans ?_;refine((K4 c acc x).append_left M).trans ?_;simp only[Q6];exact List.perm_middle
 simpa [Fj] using key M []
theorem XJ (c:Int->Int->Int) (M:List Int):(Fj c M).length=M.length:=(MS c M).length_eq
theorem nS (c:Int->Int->Int) (x:Int):Fj c [x]=[x]:=rfl
theorem Le.np1 {st st':St} {D:List Int} (sn:List Nat) (q:st'.sz=st.sz) (hn:1<=st'.n) (hh:st'.h=[(0,some ⟨1,AE D,0⟩)]) (hs:∀ k∈sn,1<=k) (he:st.hp 0=some ⟨1,AE D,0⟩) (ht:∀ p∈st'.t,Wk (conv [(0,0)] sn st.hp 4 (st.get p.1)) p.2):Le 1 st st' :=
 Le.ents [(0,0)] sn q zz zz zw (λ k hk=>⟨hs k hk,by have:=hs k hk;simp;omega⟩) hn ht (λ p hp=>by
  rw[hh] at hp;simp at hp;subst hp
  exact⟨0,_,_,rfl,zz,he,An.eq (by simp[AC]) zz⟩)
theorem Te {H T:List Int} {y x:Int} {h:Nat} (hh:H.length=h):(AE (H++y::x::T))[h]? = some [AV.I y]/\(AE (H++y::x::T))[h+1]? = some [AV.I x]:=by
 subst hh;constructor
 .rw [QH,Qs zy]
  simp
 .rw [QH,Qs zy]
  simp
theorem sA {H T:List Int} {y x:Int} {h:Nat} (hh:H.length=h):((AE (H++y::x::T)).set (h+1) [AV.I y]).set h [AV.I x]=AE (H++x::y::T):=by
 subst hh;simp[AE,List.set_append]
theorem lZ (f:FuncId) (aA:List AV) (c:Int->Int->Int) (A M B:List Int) (n a b:Nat) (hn:(A++M++B).length=n) (ha:A.length=a) (hb:a+M.length=b) (hl:n<=1000000) (hs:E0 aA) (hc:∀ x∈M,∀ y∈M,AK f (AV.I x::AV.I y::aA) [] (.I (c x y)) []) :
  AK 207 [.rs 0 0 n,.I a,.I b,.fn (.func f) [] aA] [⟨1,AE (A++M++B),0⟩] (.tup []) [some ⟨1,AE (A++Eu c M++B),0⟩]:=by
 have h7:∀ ρ sn h,aA.map (conv ρ sn h 2)=aA:=λ _ _ _=>hs _ _ _ 1
 have h8:∀ ρ sn h,aA.map (conv ρ sn h 3)=aA:=λ _ _ _=>hs _ _ _ 2
 have h3:∀ ρ sn h,aA.map (conv ρ sn h 4)=aA:=λ _ _ _=>hs _ _ _ 3
 refine vO.s.acalls (Bf rfl) (Bf rfl) (Bf rfl) ?_;show Ad _ 1 _ _ ⟨53,[(0,.rs 0 0 n),(1,.I a),(2,.I b),(3,.fn (.func f) [] aA)],[(0,some ⟨1,AE (A++M++B),0⟩)],16⟩
 have a9:a+(M.length+B.length)=n:=by
  simp only[Qm] at hn;omega
 have ai:b<=n:=zy
 have hw:=wq (k:=a)
 let Lk:Nat->List Int:=λ k=>A++((Fj c (M.take k)).reverse++(M.drop k++B))
 have a0:A++M++B=Lk 1:=by
  cases M with
  | nil=>simp[Lk,Fj]
  | cons m M=>simp[Lk,nS]
 rw[a0];apply ak [0,1,2,3,8] [0] 40
 .simp [hw]
  rfl
 refine AT (As (ι:=Nat) (λ k=>⟨53,[(0,.rs 0 0 n),(1,.I a),(2,.I b),(3,.fn (.func f) [] aA),(8,.I (a+k:Nat))],[(0,some ⟨1,AE (Lk k),0⟩)],40⟩) (λ k=>1<=k/\k<=M.length+1/\(M.length<=k->AE (Lk k)=AE (A++Eu c M++B))) (λ k=>M.length+1 - k) 1 ?_ (Le.refl _ _) ?_)
 .refine ⟨Qk _,zy,λ h=>?_⟩
  simp only[Lk];rw[Qb h,Um h];simp[Eu]
 rintro k ⟨an,au,a1⟩
 refine AB (arc ⟨53,[(0,.rs 0 0 n),(1,.I a),(2,.I b),(3,.fn (.func f) [] aA),(8,.I (a+k:Nat)),(14,.B (decide (k<M.length)))],[(0,some ⟨1,AE (Lk k),0⟩)],64⟩ ?_ ?_)
 .simp
  exact Le.keep rfl (Qk _) (by simp<;>omega) zz
 refine AI _ rfl (λ h=>AN ?_) λ h=>Ar (hit ?_)
 .simp only[Qf] at h
  refine CX ⟨53,[(0,.rs 0 0 n),(1,.I a),(2,.I b),(3,.fn (.func f) [] aA),(8,.I (a+k:Nat))],[(0,some ⟨1,AE (Lk (k+1)),0⟩)],64⟩ ?_ ?_
  .have hx:M[k]∈M:=Qj h
   have hd:M.drop k=M[k]::M.drop (k+1):=QQ h;have hf:=fB c M k h;generalize M[k]=x at *;obtain⟨D,hD⟩:=AR (M.drop (k+1)++B);obtain⟨R,hR⟩:=AR (Fj c (M.take k))
   have a2:∀ y∈R,y∈M:=λ y hy=>by
    rw[hR] at hy;exact QR ((MS c _).mem_iff.1 hy)
   have hm:R.length=k:=by rw[hR,XJ];simp;omega
   have av:D.length+k+1=M.length+B.length:=by rw[hD];simp;omega
   have a3:Lk k=A++R.reverse++x::D:=by simp only[Lk];rw[hd,<- hR,hD];simp
   have ho:Lk (k+1)=A++(D4 c R x).reverse++D:=by simp only[Lk];rw[hf,<- hR,hD];simp
   rw[a3,ho];refine AT (arc ⟨53,[(0,.rs 0 0 n),(1,.I a),(2,.I b),(3,.fn (.func f) [] aA),(8,.I (a+k:Nat)),(9,.I (a+k:Nat))],[(0,some ⟨1,AE (A++R.reverse++x::D),0⟩)],80⟩ ?_ ?_)
   .simp
    exact Cp
   refine AT ?_
   let C:List Int × List Int->St:=λ p=>⟨53,[(0,.rs 0 0 n),(1,.I a),(2,.I b),(3,.fn (.func f) [] aA),(8,.I (a+k:Nat)),(9,.I (a+p.2.length:Nat))],[(0,some ⟨1,AE (A++p.2.reverse++x::(p.1++D)),0⟩)],80⟩
   refine As C (λ p:List Int × List Int=>D4 c R x=p.1.reverse++D4 c p.2 x/\p.1.length+p.2.length=k /\ ∀ y∈p.2,y∈M) (λ p:List Int × List Int=>p.2.length) ([],R) ⟨rfl,by simpa using hm,a2⟩ ?_ ?_
   .simp only[C,hm,Uu]
    exact Le.refl _ _
   rintro⟨U,V⟩ ⟨u,h0,h1⟩
   simp only at u h0 h1
   match V,u,h0,h1 with
   | [],u,h0,h1 =>
     have hC:C (U,[])=⟨53,[(0,.rs 0 0 n),(1,.I a),(2,.I b),(3,.fn (.func f) [] aA),(8,.I (a+k:Nat)),(9,.I a)],[(0,some ⟨1,AE (A++x::(U++D)),0⟩)],80⟩:=by simp[C]
     rw[hC];refine AB (Cd ⟨53,[(0,.rs 0 0 n),(1,.I a),(2,.I b),(3,.fn (.func f) [] aA),(8,.I (a+k:Nat)),(34,.B false)],[(0,some ⟨1,AE (A++x::(U++D)),0⟩)],216⟩ ?_ ?_)
     .simp
      exact⟨rfl,Cp⟩
     refine AI _ rfl (λ h=>by cases h) λ h=>Ar (hit ?_)
     have e:A++x::(U++D)=A++(D4 c R x).reverse++D:=by rw[u];simp[D4]
     rw[<- e];exact Le.np1 [] rfl zz rfl zz rfl (by simp[h7,h8,h3])
   | y::V',u,h0,h1 =>
     obtain⟨H,hH⟩:=AR (A++V'.reverse);obtain⟨T,hT⟩:=AR (U++D);obtain⟨q,hq⟩:=AR (a+V'.length);obtain⟨j,hj⟩:=AR (q+1);have h4:H.length=q:=by rw[hH,hq];simp;omega
     have hr:(H++y::x::T).length=n:=by
      have e:(H++y::x::T).length=H.length+(T.length+2):=zz
      rw[e,h4,hT,Qm];simp at h0;omega
     have hg:=(Te (T:=T) (y:=y) (x:=x) h4).1;have hh:=(Te (T:=T) (y:=y) (x:=x) h4).2;have h6:=sA (T:=T) (y:=y) (x:=x) h4;rw[<- hj] at hh h6
     have hC:C (U,y::V')=⟨53,[(0,.rs 0 0 n),(1,.I a),(2,.I b),(3,.fn (.func f) [] aA),(8,.I (a+k:Nat)),(9,.I j)],[(0,some ⟨1,AE (H++y::x::T),0⟩)],80⟩:=by
      simp[C,hH,hT,hj,hq,UG]
     rw[hC];have a4:=hc x hx y (h1 y Qi);have ht:j<n:=by rw[<- hr,hj,<- h4];simp
     have hi:IntKind.i64.wrap ((j:Int) - 1)=(q:Int):=by rw[w6];omega
     have hu:q<n:=zy
     have a5:a<j:=zy
     have ag:(AE (H++y::x::T)).length=n:=by rw[AE,QB,hr]
     generalize hX:AE (H++y::x::T)=X at *;have hk:∀ ρ sn h m,X.map (List.map (conv ρ sn h (m+1)))=X:=λ ρ sn h m=>by rw[<- hX];simp[AC]
     refine AB ?_;apply al [0,1,2,3,8,9,34] [0] 216
     .simp [a5,ht,hu,hg,hh,hi]
      refine A4 a4 ?_ ?_
      .simp [h3]
      simp;exact⟨rfl,rfl⟩
     refine AI _ rfl (λ h5=>AN ?_) λ h5=>Ar (hit ?_)
     .simp only[Qf] at h5
      have a6:(X.set j [AV.I y])[q]? = some [AV.I y]:=by
       rw[List.getElem?_set,if_neg zy]
       exact hg
      generalize hY:AE (H++x::y::T)=Y at h6;refine CX ⟨53,[(0,.rs 0 0 n),(1,.I a),(2,.I b),(3,.fn (.func f) [] aA),(8,.I (a+k:Nat)),(9,.I j)],[(0,some ⟨1,Y,0⟩)],360⟩ ?_ ?_
      .refine AT (ET rfl ?_)
       simp[ht,hu,hg,hh,a6,hi,Ax];exact⟨rfl,Le.keep rfl (Qk _) zz (by simp;exact h6)⟩
      refine Ap rfl ?_;simp[hi];refine⟨y::U,V',⟨?_,?_,?_⟩,?_,?_⟩
      .rw [u,D4,if_pos h5];simp
      .simp at h0 ⊢;omega
      .exact λ z hz=>h1 z (Qg _ hz)
      .simp
      .have a7:C (y::U,V')=⟨53,[(0,.rs 0 0 n),(1,.I a),(2,.I b),(3,.fn (.func f) [] aA),(8,.I (a+k:Nat)),(9,.I q)],[(0,some ⟨1,Y,0⟩)],80⟩:=by rw[<- hY];simp[C,hH,hT,hq]
       rw[a7];have h9:∀ ρ sn h m,Y.map (List.map (conv ρ sn h (m+1)))=Y:=λ ρ sn h m=>by rw[<- hY];simp[AC]
       exact Le.ents [(0,0)] [] rfl zz zz zz zz zz (by simp[h7,h8,h3]) λ p hp=>by
        simp at hp;subst hp;exact⟨0,_,_,rfl,zz,rfl,An.eq (by simp only[Ab,h9]) zz⟩
     .simp only[Qd] at h5
      have e:H++y::x::T=A++(D4 c R x).reverse++D:=by rw[u,D4,if_neg h5,hH,hT];simp
      rw[<- e,hX]
      exact Le.ents [(0,0)] [] rfl zz zz zz zz zz (by simp[h7,h8,h3]) λ p hp=>by
       simp at hp;subst hp;exact⟨0,_,_,rfl,zz,rfl,An.eq (by simp only[Ab,hk]) zz⟩
  have a8:IntKind.i64.wrap (((a+k:Nat):Int)+1)=((a+(k+1):Nat):Int):=by rw[w6];omega
  refine Ap rfl ?_;have hv:IntKind.i64.wrap ((a:Int)+(k:Int)+1)=((a+(k+1):Nat):Int):=by rw[<- a8];congr 1
  simp[hv];refine⟨k+1,⟨zy,zy,λ h2=>?_⟩,zy,?_⟩
  .have he:M.length=k+1:=zy
   simp only[Lk];rw[Qb zy,Um zy]
   simp[Eu]
  .exact Le.np1 [] rfl zz rfl zz rfl (by simp[h7,h8,h3])
 simp only[Qd] at h;rw[a1 zy]
 exact⟨.inl rfl,⟨[],rfl,[],[],by simp[List.range,List.range.loop],zz,zz,zz,by simp[List.range,List.range.loop,AC]⟩⟩
theorem bS (f:FuncId) (aA:List AV) (c:Int->Int->Int) (l:List Int) (n:Nat) (hn:l.length=n) (hl:n<20) (hs:E0 aA) (hc:∀ x∈l,∀ y∈l,AK f (AV.I x::AV.I y::aA) [] (.I (c x y)) []) :
  AK 155 [.rs 0 0 n,.I n,.fn (.func f) [] aA] [⟨1,AE l,0⟩] (.tup []) [some ⟨1,AE (Eu c l),0⟩]:=by
 have h0:∀ ρ sn h,aA.map (conv ρ sn h 2)=aA:=λ _ _ _=>hs _ _ _ 1
 have u:∀ ρ sn h,aA.map (conv ρ sn h 3)=aA:=λ _ _ _=>hs _ _ _ 2
 have h1:∀ ρ sn h,aA.map (conv ρ sn h 4)=aA:=λ _ _ _=>hs _ _ _ 3
 refine gJ.s.ai ?_;have q:=lZ f aA c [] l [] n 0 n (by simpa using hn) rfl (by simpa using hn) zy hs hc
 simp only[Uu,Q0] at q;refine AB (AY ?_);apply ak [0,1,2,6,7,8] [0] 48
 .simp
  rfl
 refine AB (AT (As (ι:=Unit) (λ _=>⟨63,[(0,.rs 0 0 n),(1,.I n),(2,.fn (.func f) [] aA),(6,.I 20),(7,.I 0),(8,.I 20)],[(0,some ⟨1,AE l,0⟩)],48⟩) (λ _=>True) (λ _=>0) () trivial (Le.refl _ _) ?_));intro _ _;refine AB (arc ⟨63,[(0,.rs 0 0 n),(1,.I n),(2,.fn (.func f) [] aA),(6,.I 20),(7,.I 0),(8,.I 20),(13,.B false)],[(0,some ⟨1,AE l,0⟩)],72⟩ ?_ ?_)
 .simp
  exact Le.keep rfl (Qk _) zw zz
 refine AI _ rfl (λ h=>by cases h) λ _=>Ar (hit ?_)
 apply ak [1,6] [0] 112
 .simp
  refine B6 (i:=0) rfl (e':=⟨1,AE l,0⟩) (by simp[AC]) q zz ?_ ?_
  .simp [u]
  simp[AC];rfl
 refine AT (As (ι:=Unit) (λ _=>⟨63,[(1,.I n),(6,.I 20)],[(0,some ⟨1,AE (Eu c l),0⟩)],112⟩) (λ _=>True) (λ _=>0) () trivial (Le.refl _ _) ?_);intro _ _;refine AB (arc ⟨63,[(1,.I n),(6,.I 20),(30,.B false)],[(0,some ⟨1,AE (Eu c l),0⟩)],136⟩ ?_ ?_)
 .simp
  exact Le.keep rfl (Qk _) zw zz
 refine AI _ rfl (λ h=>by cases h) λ _=>Ar (hit ?_)
 exact⟨.inl rfl,⟨[],rfl,[],[],by simp[List.range,List.range.loop],zz,zz,zz,by simp[List.range,List.range.loop,AC]⟩⟩
theorem fC (f:FuncId) (aA:List AV) (c:Int->Int->Int) (l:List Int) (n:Nat) (hn:l.length=n) (hl:n<20) (hs:E0 aA) (hc:∀ x∈l,∀ y∈l,AK f (AV.I x::AV.I y::aA) [] (.I (c x y)) []) :
  AK 110 [.rs 0 0 n,.fn (.func f) [] aA] [⟨1,AE l,0⟩] (.tup []) [some ⟨1,AE (Eu c l),0⟩]:=by
 have q:∀ ρ sn h,aA.map (conv ρ sn h 2)=aA:=λ _ _ _=>hs _ _ _ 1
 have u:∀ ρ sn h,aA.map (conv ρ sn h 3)=aA:=λ _ _ _=>hs _ _ _ 2
 have h0:∀ ρ sn h,aA.map (conv ρ sn h 4)=aA:=λ _ _ _=>hs _ _ _ 3
 refine sM.s.ai ?_;refine Al (s:=?s1) rfl ?o1 ?q1
 case o1 =>
  simp;refine B6 (i:=0) rfl (e':=⟨1,AE l,0⟩) (by simp[AC]) (bS f aA c l n hn hl hs hc) zz ?_ ?_
  .simp [q,u,h0]
  simp[AC];rfl
 exact⟨.inl rfl,⟨[],rfl,[],[],by simp[List.range,List.range.loop],zz,zz,zz,by simp[List.range,List.range.loop,AC]⟩⟩
theorem t8 (D:List Int) (k:Nat) (hk:k<D.length):AK 109 [.I k,.pv [AA D]] [] (.B (decide (0<=D.getD k 0))) []:=by
 refine iF.s.ai ?_;refine AB (AY ?_);refine AB (Al (s:=?s1) rfl ?o1 ?q1)
 case o1=>simp[hk];rfl
 exact A8 (AW.one (by simp[hk]))
theorem iZ (D:List Int) (a b:Nat) (ha:a<D.length) (hb:b<D.length):AK 111 [.I a,.I b,.pv [AA D]] [] (.I (CG (D.getD a 0) (D.getD b 0))) []:=by
 refine cM.s.ai ?_;refine AB (AY ?_);refine AB (G9 (s:=?s1) (tr:=?t1) rfl ?o1 ?r1 ?q1)
 case o1=>simp[ha,hb];refine A4 (Ib ..) rfl ?_;simp;constructor<;>rfl
 case r1=>rfl
 exact A8 (AW.one (by simp[ha,hb]))
variable {g:Gr} {S:List Int}
theorem u5 {k:Nat} (hk:k<g.size.toNat):(DK g S).getD k 0=AZ g S k:=by simp[DK,List.getD,hk]
theorem Nx:(DK g S).length=g.size.toNat:=by simp[DK]
def Lt (g:Gr) (S:List Int) (a b:Int):Prop:=AZ g S a<AZ g S b∨AZ g S a=AZ g S b/\a<b
def cD (g:Gr) (S:List Int) (a b:Int):Int:=CG (AZ g S a) (AZ g S b)
def DE (g:Gr) (S:List Int):Nat->List Int
 | 0=>[]
 | m+1=>DE g S m++Cr g.size.toNat λ k=>decide (AZ g S k=m)
def AL (g:Gr) (S:List Int):List Int:=DE g S g.size.toNat
theorem Il {n:Nat} {q:Int->Bool} {x:Int}:x∈Cr n q↔(0<=x/\x<n)/\q x=true:=by
 unfold Cr;simp only[Qz,Qh,QP];constructor
 .rintro ⟨⟨i,hi,rfl⟩,h⟩
  exact⟨⟨zy,zy⟩,h⟩
 .rintro ⟨⟨h1,h2⟩,h⟩
  exact⟨⟨x.toNat,zy,zy⟩,h⟩
theorem ML (n:Nat) (q:Int->Bool):(Cr n q).Pairwise (· < ·):=by
 unfold Cr;refine List.Pairwise.filter _ ?_;rw[US];exact List.pairwise_lt_range.imp λ h=>zy
theorem JS {m:Nat} {x:Int}:x∈DE g S m↔(0<=x/\x<g.size.toNat)/\0<=AZ g S x/\AZ g S x<m:=by
 induction m with
 | zero=>simp[DE]<;>omega
 | succ m ih =>
   rw[DE,Qo,ih,Il];simp only[Qf];constructor
   .rintro (⟨h1,h2,h3⟩ | ⟨h1,h2⟩)
    .exact ⟨h1,h2,zy⟩
    .exact ⟨h1,zy,zy⟩
   .rintro ⟨h1,h2,h3⟩
    by_cases h4:AZ g S x=m
    .exact .inr ⟨h1,h4⟩
    .exact .inl ⟨h1,h2,zy⟩
theorem Sa (m:Nat):(DE g S m).Pairwise (Lt g S):=by
 induction m with
 | zero=>exact .nil
 | succ m ih =>
   rw[DE,List.pairwise_append];refine⟨ih,?_,λ a ha b hb=>?_⟩
   .refine (ML _ _).imp_of_mem λ {a b} ha hb q=>?_
    have h1:=(Il.1 ha).2;have h2:=(Il.1 hb).2;simp at h1 h2;exact .inr ⟨zy,q⟩
   .have h1:=JS.1 ha
    have h2:=(Il.1 hb).2;simp at h2;exact .inl zy
theorem Td {a b:Int}:cD g S a b<0↔AZ g S a<AZ g S b:=by
 simp only[cD,CG]
 grind
theorem We:∀ (r:List Int) (x:Int),r.Pairwise (λ a b=>Lt g S b a)->(∀ y∈r,y<x)->(D4 (cD g S) r x).Pairwise λ a b=>Lt g S b a
 | [],x,_,_=>by simp[D4]
 | y::r,x,hp,hx=>by
   unfold D4;rw[Uq] at hp;split
   .rename_i h
    rw[Td] at h;rw[Uq];refine⟨λ z hz=>?_,We r x hp.2 λ z hz=>hx z (Qg _ hz)⟩;have:=(K4 (cD g S) r x).mem_iff.1 hz;rcases Qw.1 this with rfl | hz
    .exact .inl h
    .exact hp.1 z hz
   .rename_i h
    rw[Td] at h;rw[Uq,Uq];have q:=hx y Qi;refine⟨λ z hz=>?_,hp.1,hp.2⟩;rcases Qw.1 hz with rfl | hz
    .unfold Lt;omega
    .have h1:=hp.1 z hz
     have h2:=hx z (Qg _ hz);unfold Lt at *;omega
theorem pY {l:List Int} (h:l.Pairwise (· < ·)):(Eu (cD g S) l).Pairwise (Lt g S):=by
 have key:∀ (l acc:List Int),l.Pairwise (· < ·)->acc.Pairwise (λ a b=>Lt g S b a)->(∀ y∈acc,∀ x∈l,y<x)->(l.foldl (D4 (cD g S)) acc).Pairwise λ a b=>Lt g S b a:=by
  intro l
  induction l with
  | nil=>intro acc _ h _;exact h
  | cons x l ih =>
    intro acc hl q u;rw[Uq] at hl;refine ih _ hl.2 (We acc x q λ y hy=>u y hy x Qi) λ y hy z hz=>?_;have:=(K4 (cD g S) acc x).mem_iff.1 hy;rcases Qw.1 this with rfl | hy
    .exact hl.1 z hz
    .exact u y hy z (Qg _ hz)
 unfold Eu Fj;rw[List.pairwise_reverse];exact key l [] h .nil zz
theorem Yd {R:Int->Int->Prop} (hR:∀ a b,R a b->¬ R b a):∀ {l1 l2:List Int},l1.Pairwise R->l2.Pairwise R->(∀ x,x∈l1↔x∈l2)->l1=l2
 | [],[],_,_,_=>rfl
 | [],b::l2,_,_,h=>absurd ((h b).2 Qi) zz
 | a::l1,[],_,_,h=>absurd ((h a).1 Qi) zz
 | a::l1,b::l2,h1,h2,h=>by
   rw[Uq] at h1 h2
   have u:a=b:=by
    rcases Qw.1 ((h a).1 Qi) with e | ha
    .exact e
    .rcases Qw.1 ((h b).2 Qi) with e | hb
     .exact e.symm
     .exact absurd (h1.1 b hb) (hR _ _ (h2.1 a ha))
   subst u
   congr 1
   refine Yd hR h1.2 h2.2 λ x=>?_;constructor
   .intro hx
    rcases Qw.1 ((h x).1 (Qg _ hx)) with rfl | hx2
    .exact absurd (h1.1 x hx) (λ q=>hR _ _ q q)
    .exact hx2
   .intro hx
    rcases Qw.1 ((h x).2 (Qg _ hx)) with rfl | hx2
    .exact absurd (h2.1 x hx) (λ q=>hR _ _ q q)
    .exact hx2
theorem nO (hg:AG g):Eu (cD g S) (Cr g.size.toNat λ k=>decide (0<=AZ g S k))=AL g S:=by
 refine Yd (R:=Lt g S) (λ a b h1 h2=>by unfold Lt at *;omega) (pY (ML _ _)) (Sa _) λ x=>?_
 have hp:x∈Eu (cD g S) (Cr g.size.toNat λ k=>decide (0<=AZ g S k))↔x∈Cr g.size.toNat λ k=>decide (0<=AZ g S k):=by
  unfold Eu;rw[List.mem_reverse];exact(MS _ _).mem_iff
 rw[hp,Il];have hm:=JS (g:=g) (S:=S) (m:=g.size.toNat) (x:=x);unfold AL;rw[hm];simp only[Qf];constructor
 .rintro ⟨h1,h2⟩
  refine⟨h1,h2,?_⟩;rcases X5 hg (S:=S) (k:=x) ⟨h1.1,zy⟩ with h | h<;>omega
 .rintro ⟨h1,h2,_⟩
  exact⟨h1,h2⟩
structure A6 where
 key:Int
 acc:Bool
 before:List Int
 paths:List (List Int)
 side:List Int
theorem GJ (g:Gr) (S:List Int):(AL g S).Nodup:=by
 refine(Sa (g:=g) (S:=S) g.size.toNat).imp λ {a b} h e=>?_;subst e;unfold Lt at h;omega
theorem HN {g:Gr} {S:List Int} {k:Int} (h:k∈AL g S):0<=k/\k<g.size:=by
 have:=JS.1 h;omega
open Classical in
def Hg (g:Gr) (p:Aq) (x:A6):Int :=
 let order:=AL (AO g p.lv) p.seeds
 let c:=Ao g p
 if x.key∉order then 11
 else if ¬ EM order x.before x.key∨(x.acc=true/\x.side≠[])∨(x.acc=false/\x.paths≠[]) then 1
 else if x.acc=true then (if G7 g p.lv p.seeds order c x.paths (x.before++[x.key]) then 0 else 52)
 else if GI ⟨2+2*g.size,Cv g p c (Dl (x.before++[x.key]))⟩ x.side x.before.length then 0 else 52
open Classical in
def M7 (g:Gr) (p:Aq) (x:A6):Int :=
 let order:=AL (AO g p.lv) p.seeds
 let c:=Ao g p
 if x.key∉order then 11
 else if ¬ EM order x.before x.key∨(x.acc=true/\x.side≠[])∨(x.acc=false/\x.paths≠[]) then 1
 else if x.acc=true then (if Jv g p.lv p.seeds order c x.paths (x.before++[x.key]) then 0 else 52)
 else if GI ⟨2+2*g.size,Cv g p c (Am (x.before++[x.key]))⟩ x.side x.before.length then 0 else 52
theorem i3 {g:Gr} (hs:g.size<=64) (p:Aq) (x:A6):Hg g p x=M7 g p x:=by
 unfold Hg M7;simp only;have u:=GJ (AO g p.lv) p.seeds
 have q:∀ k∈AL (AO g p.lv) p.seeds,0<=k/\k<64:=λ k hk=>by
  have:=HN hk;have h2:(AO g p.lv).size=g.size:=rfl;omega
 generalize AL (AO g p.lv) p.seeds=o at *
 by_cases h1:x.key∈o
 .by_cases h2:¬ EM o x.before x.key∨(x.acc=true/\x.side≠[])∨(x.acc=false/\x.paths≠[])
  .rw [if_neg (not_not_intro h1),if_pos h2,if_neg (not_not_intro h1),if_pos h2]
  .rw [if_neg (not_not_intro h1),if_neg h2,if_neg (not_not_intro h1),if_neg h2]
   have h3:EM o x.before x.key:=Classical.byContradiction λ h=>h2 (.inl h);have h4:=h3.nodup u
   have h5:∀ k∈x.before++[x.key],0<=k/\k<64:=λ k hk=>by
    rcases Qo.1 hk with hk | hk
    .exact q k ((List.takeWhile_sublist _).subset (h3.subset hk))
    .rw [Qt] at hk
     rw[hk];exact q _ h1
   rw[JM h4 h5]
   by_cases ha:x.acc=true
   .rw [if_pos ha,if_pos ha]
    by_cases hc:G7 g p.lv p.seeds o (Ao g p) x.paths (x.before++[x.key])
    .rw [if_pos hc,if_pos ((VR h4).1 hc)]
    .rw [if_neg hc,if_neg λ h=>hc ((VR h4).2 h)]
   .rw [if_neg ha,if_neg ha]
 .rw [if_pos h1,if_pos h1]
variable {g:Gr} {k:Int} {p:Aq}
theorem Ym (h0:0<=k) (h1:k<g.size):(Ao g p).getD k.toNat 0=DA p (AZ (AO g p.lv) p.seeds k):=by
 unfold Ao DK;have h2:k.toNat<(AO g p.lv).size.toNat:=by show k.toNat<g.size.toNat;omega
 rw[Qe,QH,QH,List.getElem?_range h2];simp only[Uo,QO];rw[show ((k.toNat:Nat):Int)=k by omega]
theorem dL (h1:g.size<=k):(Ao g p).getD k.toNat 0=0:=by
 unfold Ao DK;have h2:¬ k.toNat<(AO g p.lv).size.toNat:=by show ¬ k.toNat<g.size.toNat;omega
 rw[Qe,QS zw]
 rfl
theorem OZ {n:Int} (hp:BD n p):∀ x∈Ao g p,0<=x:=λ x hx=>by
 unfold Ao at hx;obtain⟨d,_,rfl⟩:=Qh.1 hx;exact(O8 hp d).1
theorem Ng {n:Int} (hp:BD n p) (h0:0<=k):0<(Ao g p).getD k.toNat 0↔k<g.size/\0<=AZ (AO g p.lv) p.seeds k:=by
 by_cases h1:k<g.size
 .rw [Ym h0 h1,bO hp]
  exact⟨λ h=>⟨h1,h⟩,λ h=>h.2⟩
 .rw [dL zy]
  constructor
  .intro h;omega
  .intro h;exact absurd h.1 h1
theorem AG.level (h:AG g) (v:Int):AG (AO g v):=by
 refine⟨⟨h.1.1,h.1.2.1,QF (Q5 _ _) h.1.2.2.1,h.1.2.2.2⟩,λ i hi=>?_⟩;have hm:(AO g v).edges[i]∈g.edges:=(Qz.1 (Qj hi)).1;obtain⟨j,hj,q⟩:=QA.1 hm;have h1:=h.2 j hj;rw[q] at h1;refine⟨h1.1,h1.2.1,h1.2.2.1,λ h0=>?_⟩;rw[I7];have hp:(AO g v).edges.Pairwise CD:=h.pair.filter _;exact QM.1 hp (i - 1) i zy hi zy
theorem Nq (h:AG g) {S:List Int}:k∈AL g S↔DT g k/\0<=AZ g S k:=by
 unfold AL;rw[JS];constructor
 .rintro ⟨⟨h1,h2⟩,h3,_⟩
  exact⟨⟨h1,zy⟩,h3⟩
 .rintro ⟨h1,h2⟩
  have h3:=X5 (S:=S) h h1;have h4:=h1.1;have h5:=h1.2;exact⟨⟨h4,zy⟩,h2,zy⟩
theorem Ml (h:AG g) (v:Int):((AO g v).edges.map DV).Nodup /\ ∀ e∈(AO g v).edges,0<=e.f/\e.f<g.size/\0<=e.t/\e.t<g.size:=by
 have hl:=h.level v;refine⟨?_,λ e he=>?_⟩
 .rw [List.Nodup,US]
  refine hl.pair.imp λ {a b} q he=>?_;unfold CD at q;unfold DV at he;simp at he;omega
 .obtain ⟨i,hi,rfl⟩:=QA.1 he
  have h1:=(hl.2 i hi).1;have h2:(AO g v).size=g.size:=rfl;unfold BS at h1;omega
theorem Bh.nodup {l:List Int} {lo hi:Int} (h:Bh l lo hi):l.Nodup /\ ∀ x∈l,lo<=x/\x<=hi:=by
 have u:∀ (j i:Nat) (hj:j<l.length) (q:i<j),l[i]<l[j]:=by
  intro j
  induction j with
  | zero=>intro i _ q;omega
  | succ j ih =>
    intro i hj q;have h1:=(h (j+1) hj).2.2 zy
    simp only[Nat.add_sub_cancel] at h1;rcases Ui i j with h2 | h2
    .have:=ih i zy h2
     omega
    .have:i=j:=zy
     subst this;exact h1
 refine⟨QM.2 λ i j hi hj q he=>?_,λ x hx=>?_⟩
 .have:=u j i hj q
  omega
 .obtain ⟨i,hi,rfl⟩:=QA.1 hx
  have:=h i hi;exact⟨this.1,this.2.1⟩
theorem pO {sinks u f:List Int} {W:List (List Nat)} (hg:AG g) (hp:BD g.size p) (hk:sinks.Nodup) (ha:∀ x∈sinks,0<=x) (h4:u.Perm sinks) (hf:Bm (Cv g p (Ao g p) sinks) f) (hw:∀ w∈W,Bg (Cv g p (Ao g p) sinks) 0 w 1/\(Ai (Cv g p (Ao g p) sinks) w).Nodup) (hs:∀ i,i<(Cv g p (Ao g p) sinks).length->(CT (List.count i) W:Int)<=f.getD i 0) (hl:W.length=sinks.length) :
  Jv g p.lv p.seeds (AL (AO g p.lv) p.seeds) (Ao g p) (W.map (B5 (Cv g p (Ao g p) sinks))) u:=by
 have h5:=hg.level p.lv;have h6:=hp.2.1.nodup;have q:=Ml hg p.lv
 have hb:∀ k,0<=k->0<(Ao g p).getD k.toNat 0->k∈AL (AO g p.lv) p.seeds:=λ k h0 hc=>by
  have h1:=(Ng hp h0).1 hc;exact(Nq h5).2 ⟨⟨h0,h1.1⟩,h1.2⟩
 have h8:GZ (Cv g p (Ao g p) sinks) (λ x y=>IX g p.lv x y/\y∈AL (AO g p.lv) p.seeds) (p.seeds.filter λ x=>decide (x∈AL (AO g p.lv) p.seeds)) sinks λ x=>(Ao g p).getD x.toNat 0:=by
  refine uP (λ e he hc=>?_) (λ x hx hc=>?_) h6.1 (λ x hx=>(h6.2 x hx).1) hk ha q.1 λ e he=>⟨(q.2 e he).1,(q.2 e he).2.2.1⟩
  .have h0:=q.2 e he
   have h1:=(Ng hp h0.1).1 hc;have h2:=Sy h5 he h1.2;refine⟨?_,(Nq h5).2 ⟨⟨h0.2.2.1,h0.2.2.2⟩,h2.1⟩⟩;unfold AO at he;have h3:=Qz.1 he;refine⟨e,h3.1,rfl,rfl,?_⟩;have:=h3.2;simp at this;omega
  .exact Qz.2 ⟨hx,by simpa using hb x (h6.2 x hx).1 hc⟩
 obtain⟨q1,q2,q3,q4⟩:=fD h8 hf hw hs (OZ hp);refine⟨by rw[QB,hl,h4.length_eq],h4.nodup_iff.2 hk,λ w hd=>?_,λ k hh=>h4.mem_iff.2 (q3 k hh),q2,q1⟩
 obtain⟨⟨k,h7,hj⟩,h2,h3⟩:=q4 w hd;have h9:=Qz.1 hj;have hm:k∈AL (AO g p.lv) p.seeds:=by simpa using h9.2
 refine⟨⟨k,h7,h9.1⟩,λ x hx=>?_,h2,λ i hi=>(h3 i hi).1⟩;obtain⟨i,hi,rfl⟩:=QA.1 hx
 cases i with
 | zero =>
   rw[List.head?_eq_getElem?,Qa hi] at h7;rw[Qc h7];exact hm
 | succ i=>exact(h3 i hi).2
variable {A:List Ed} {N:Nat} {P Q:List (List Int)} {c:List Int}
theorem fQ (h:P.Perm Q) (k:Int):CC P k=CC Q k:=h.countP_eq _
theorem lK (h:P.Perm Q) (k:Int):Bt P k=Bt Q k:=(h.flatMap_right _).count_eq k
theorem jQ (h:P.Sublist Q) (k:Int):CC P k<=CC Q k:=h.countP_le
theorem lO (h:P.Sublist Q) (k:Int):Bt P k<=Bt Q k:=by
 unfold Bt
 induction h with
 | slnil=>exact Qk _
 | cons a _ ih=>rw[U4,UV];omega
 | cons_cons a _ ih=>rw[U4,U4,UV,UV];omega
theorem FS.perm (h:FS c P) (hp:P.Perm Q):FS c Q:=λ k hk=>by
 rw[<- fQ hp,<- lK hp];exact h k hk
theorem FS.sub (h:FS c Q) (hs:P.Sublist Q):FS c P:=λ k hk=>by
 have h1:=h k hk;have h2:=jQ hs k;have h3:=lO hs k;omega
theorem fI (h:P.Perm Q):(Cc P).Perm (Cc Q):=h.filterMap _
theorem G7.perm {g:Gr} {lv:Int} {seeds order:List Int} {u q:List Int} (h:G7 g lv seeds order c P u) (hp:P.Perm Q) (he:u.Perm q):G7 g lv seeds order c Q q :=
 ⟨λ w hw=>h.1 w (hp.mem_iff.2 hw),h.2.1.perm hp,ME.2 (((fI hp).symm.trans (ME.1 h.2.2)).trans he)⟩
theorem Ni (hn:C8 N A):BL N A (A.map λ _=>0):=by
 have hs:∀ (φ:Ed->Int->Int),(∀ e,φ e 0=0) -> ∀ A:List Ed,Ac φ A (A.map λ _=>0)=0:=by
  intro φ hφ A
  induction A with
  | nil=>simp[Ac]
  | cons e A ih=>simp only[Qp,Ac];rw[hφ,ih];omega
 refine⟨?_,λ x _ _=>?_⟩
 .have h0:∀ B:List Ed,(∀ e∈B,0<=e.v)->Bm B (B.map λ _=>0):=by
   intro B
   induction B with
   | nil=>intro _;exact True.intro
   | cons e B ih=>intro h;exact⟨⟨Uw _,h e (Qi ..)⟩,ih λ x hx=>h x (Qg _ hx)⟩
  exact h0 A λ e he=>(hn.arc e he).2.2.2.2.2.2.2
 .unfold Br Eh
  rw[hs _ λ e=>by split<;>rfl,hs _ λ e=>by split<;>rfl]
theorem Kt (hn:C8 N A):∃ f,BL N A f /\ ∀ f',BL N A f'->Aa A f'<=Aa A f:=by
 have hb:∀ f,BL N A f->Aa A f<=BM (λ x=>decide (x=0)) A:=λ f hf=>Kg hn hf zz zz
 have key:∀ (n:Nat) (f:List Int),BL N A f->BM (λ x=>decide (x=0)) A - Aa A f<=n -> ∃ f,BL N A f /\ ∀ f',BL N A f'->Aa A f'<=Aa A f:=by
  intro n
  induction n with
  | zero =>
    intro f hf h;exact⟨f,hf,λ f' q=>by have:=hb f' q;omega⟩
  | succ n ih =>
    intro f hf h
    by_cases hm:∀ f',BL N A f'->Aa A f'<=Aa A f
    .exact ⟨f,hf,hm⟩
    .obtain ⟨f',q⟩:=Classical.not_forall.1 hm
     obtain⟨h1,h2⟩:=Classical.not_imp.1 q;exact ih f' h1 zy
 exact key _ _ (Ni hn) (Int.self_le_toNat _)
def CN (N:Nat) (A:List Ed):Int:=open Classical in if h:∃ f,BL N A f /\ ∀ f',BL N A f'->Aa A f'<=Aa A f then Aa A h.choose else 0
theorem Hk {f:List Int} (hf:BL N A f) (hm:∀ f',BL N A f'->Aa A f'<=Aa A f):CN N A=Aa A f:=by
 have h:∃ f,BL N A f /\ ∀ f',BL N A f'->Aa A f'<=Aa A f:=⟨f,hf,hm⟩;unfold CN;rw[dif_pos h];have h1:=h.choose_spec;have h2:=hm _ h1.1;have h3:=h1.2 _ hf;omega
theorem iT (hn:C8 N A) {f:List Int} (hf:BL N A f):Aa A f<=CN N A:=by
 obtain⟨m,h1,h2⟩:=Kt hn;rw[Hk h1 h2];exact h2 f hf
theorem Sc (hn:C8 N A):∃ f,BL N A f/\Aa A f=CN N A:=by
 obtain⟨m,h1,h2⟩:=Kt hn;exact⟨m,h1,(Hk h1 h2).symm⟩
theorem fP {g:Gr} {p:Aq} {sinks:List Int} (hg:AG g) (hp:BD g.size p) (hk:∀ x∈sinks,0<=x/\x<g.size):C8 (2+2*g.size).toNat (Cv g p (Ao g p) sinks):=by
 have h0:=hg.1.1;have q:=hp.2.1.nodup;have u:=Ml hg p.lv;have h4:(Ao g p).length=g.size.toNat:=by unfold Ao;rw[QB,Nx];rfl
 refine⟨zy,λ a ha=>?_⟩
 unfold Cv at ha;rcases Qo.1 ha with ha | ha
 .rcases Qo.1 ha with ha | ha
  .rcases Qo.1 ha with ha | ha
   .obtain ⟨x,hx,rfl⟩:=Qh.1 ha
    have h1:=Qz.1 hx;have h2:=q.2 x h1.1;have h3:0<(Ao g p).getD x.toNat 0:=by simpa using h1.2
    simp only;omega
   .obtain ⟨i,hx,rfl⟩:=Qh.1 ha
    have h1:=Qz.1 hx;have h2:=QP.1 h1.1;have h3:0<(Ao g p).getD i 0:=by simpa using h1.2
    simp only;omega
  .obtain ⟨x,hx,rfl⟩:=Qh.1 ha
   have h2:=hk x (Qz.1 hx).1;simp only;omega
 .obtain ⟨e,hx,rfl⟩:=Qh.1 ha
  have h2:=u.2 e (Qz.1 hx).1;simp only;omega
def C5 (s:BH):Int:=if s.2 then -((s.1:Int)+1) else (s.1:Int)+1
def FN (v:Int):BH:=if 0<v then ((v - 1).toNat,false) else ((-v - 1).toNat,true)
theorem PZ (s:BH):FN (C5 s)=s:=by
 obtain⟨i,b⟩:=s;unfold FN C5
 cases b
 .simp only[Ue,Uv]
  rw[if_pos zy]
  congr 1
  omega
 .simp only[UM]
  rw[if_neg zy]
  congr 1
  omega
theorem WS (s:BH):C5 s≠0:=by unfold C5;split<;>omega
structure C1 (N:Nat) (A:List Ed) (f D b:List Int):Prop where
 tree:HX A f D λ x=>FN (b.getD x.toNat 0)
 rng:∀ x∈D,0<=x/\x<N
 len:b.length=N
 zero:b.getD 0 0=0
 out:∀ x:Int,0<=x->x∉D->b.getD x.toNat 0=0
 inn:∀ x∈D,x≠0->b.getD x.toNat 0≠0
def Hv (A:List Ed) (f D:List Int) (m:Nat):Prop:=∀ s:BH,s.1<A.length->Ch A s∈D.take m->0<CF A f s->Az A s∈D
def VL (A:List Ed) (f D:List Int) (k:Int) (i:Nat):Prop:=∀ s:BH,s.1<i->Ch A s=k->0<CF A f s->Az A s∈D
variable {N:Nat} {A:List Ed} {f D b:List Int}
theorem C1.start (hN:0<N):C1 N A f [0] (List.replicate N 0):=by
 have h0:∀ i,(List.replicate N (0:Int)).getD i 0=0:=λ i=>by
  rw[Qe,List.getElem?_replicate];split<;>rfl
 exact⟨⟨rfl,zz,λ j h hj=>by simp at h;omega⟩,λ x hx=>by simp at hx;omega,zz,h0 0,λ x _ _=>h0 _,λ x hx hn=>absurd (by simpa using hx) hn⟩
theorem C1.mem0 (h:C1 N A f D b):(0:Int)∈D:=List.mem_of_mem_head? (by rw[h.tree.zero];rfl)
theorem C1.push (h:C1 N A f D b) {s:BH} (hs:s.1<A.length) (hF:Ch A s∈D) (hr:0<CF A f s) (hT:Az A s∉D) (h0:0<=Az A s) (h1:Az A s<N):C1 N A f (D++[Az A s]) (b.set (Az A s).toNat (C5 s)):=by
 have hb:(Az A s).toNat<b.length:=by rw[h.len];omega
 have u:∀ x:Int,0<=x->x≠Az A s->(b.set (Az A s).toNat (C5 s)).getD x.toNat 0=b.getD x.toNat 0:=λ x hx q=>by
  rw[Qe,List.getElem?_set_ne zy,Qe]
 have heq:(b.set (Az A s).toNat (C5 s)).getD (Az A s).toNat 0=C5 s:=by
  rw[Qe,List.getElem?_set_self hb,QO]
 have h5:Az A s≠0:=λ e=>hT (e ▸ h.mem0);refine⟨⟨?_,?_,λ j hj hj0=>?_⟩,λ x hx=>?_,by rw[UF];exact h.len,?_,λ x hx q=>?_,λ x hx q=>?_⟩
 .rw [List.head?_append,h.tree.zero]
  rfl
 .rw [Uj]
  exact⟨h.tree.nodup,zz,λ a ha c hc=>by rw[Qt] at hc;subst hc;rintro rfl;exact hT ha⟩
 .rw [Qm,QT] at hj
  by_cases h3:j<D.length
  .have hm:=Qj h3
   have hx:D[j]≠Az A s:=λ e=>hT (e ▸ hm);simp only[Q2 h3];rw[u _ (h.rng _ hm).1 hx];obtain⟨q1,q2,q3,q4⟩:=h.tree.step j h3 hj0;refine⟨q1,q2,?_,q4⟩;rw[Ud zy]
   exact q3
  .obtain rfl:j=D.length:=zy
   have e:(D++[Az A s])[D.length]' zz=Az A s:=zz
   simp only[e];rw[heq,PZ];refine⟨hs,rfl,?_,hr⟩;rw[Ud (Qk _),QW];exact hF
 .rcases Qo.1 hx with h2 | h2
  .exact h.rng x h2
  .rw [Qt] at h2
   subst h2;exact⟨h0,h1⟩
 .have:=u 0 (Uw _) (Ne.symm h5)
  simp only[Int.toNat_zero] at this;rw[this];exact h.zero
 .rw [Qo,Qt,not_or] at q
  rw[u x hx q.2];exact h.out x hx q.1
 .by_cases h4:x=Az A s
  .subst h4
   rw[heq];exact WS s
  .rcases Qo.1 hx with h2 | h2
   .rw [u x (h.rng x h2).1 h4]
    exact h.inn x h2 q
   .exact absurd (Qt.1 h2) h4
theorem C1.few (h:C1 N A f D b):D.length<=N:=by
 have:=HT (b:=(List.range N).map λ i:Nat=>(i:Int)) h.tree.nodup λ x hx=>by
  have:=h.rng x hx;exact Qh.2 ⟨x.toNat,QP.2 zy,zy⟩
 simpa using this
theorem Hv.next {m:Nat} (hm:m<D.length) {D':List Int} (h:Hv A f D m) (hi:VL A f D' D[m] A.length) {l:List Int} (hD:D'=D++l):Hv A f D' (m+1):=by
 subst hD;intro s hs hF hr;rw[Ud zy,Ql hm] at hF
 rcases Qo.1 hF with h1 | h1
 .exact QZ _ (h s hs h1 hr)
 .exact hi s hs (Qt.1 h1) hr
theorem Hv.all (h:Hv A f D D.length):HK A f D:=λ s hs hF hr=>h s hs (by rw[QW];exact hF) hr
variable {A:List Ed} {l:List BH} {v:Int}
theorem XW {α:Type} {l:List α} (h:l.Nodup):l.reverse.Nodup:=List.pairwise_reverse.2 (h.imp λ q e=>q e.symm)
theorem sI (hv:v≠0):C5 (FN v)=v:=by
 unfold FN C5
 by_cases h:0<v
 .rw [if_pos h];simp;omega
 .rw [if_neg h];simp;omega
def DW (A:List Ed) (u:Int) (l:List BH):Nat->Int
 | 0=>u
 | j+1=>Az A (l.getD j (0,false))
theorem ZL {u:Int} {s:BH} (j:Nat):DW A u (s::l) (j+1)=DW A (Az A s) l j:=by
 cases j<;>rfl
theorem T8 {A:List Ed}:∀ {l:List BH} {u w:Int},C0 A u l w -> ∀ j (hj:j<l.length),Ch A l[j]=DW A u l j
 | s::l,u,w,h,0,_=>h.2.1
 | s::l,u,w,h,j+1,hj=>by
   rw[ZL];exact T8 h.2.2 j (by simpa using hj)
theorem W7 {A:List Ed}:∀ {l:List BH} {u w:Int},C0 A u l w->DW A u l l.length=w
 | [],u,w,h=>h
 | s::l,u,w,h=>by
   rw[QV,ZL];exact W7 h.2.2
variable {N:Nat} {A:List Ed} {f D b:List Int}
structure IM (N:Nat) (A:List Ed) (f b:List Int) (l:List BH):Prop where
 way:C0 A 0 l 1
 nodup:(l.map (·.1)).Nodup
 at_:∀ j (h:j<l.length),l[j].1<A.length/\0<CF A f l[j]/\Az A l[j]≠0/\0<=Az A l[j]/\Az A l[j]<N/\b.getD (Az A l[j]).toNat 0=C5 l[j]
theorem C1.chain (h:C1 N A f D b) (h1:(1:Int)∈D):∃ l,IM N A f b l:=by
 obtain⟨j,hj,hx⟩:=QA.1 h1;obtain⟨l,l1,l2,l3⟩:=h.tree.way j j hj (Qk _);rw[hx] at l1;refine⟨l,l1,l2,λ i hi=>?_⟩;obtain⟨q1,q2,q3,q4,_,q5⟩:=l3 _ (Qj hi);have hm:=QR q5;have hr:=h.rng _ hm;have q:=h.inn _ hm q4;refine⟨q1,q2,q4,hr.1,hr.2,?_⟩;rw[<- sI q,q3]
theorem IM.from_ (h:IM N A f b l) (j:Nat) (hj:j<l.length):Ch A l[j]=DW A 0 l j:=T8 h.way j hj
def ES (v:Int) (f:List Int) (l:List BH) (j:Nat):List Int:=EX v f (l.drop j).reverse
theorem eZ (v:Int) (f:List Int) (l:List BH):ES v f l l.length=f:=by simp[ES,EX]
theorem fY (v:Int) (f:List Int) (l:List BH) (j:Nat):(ES v f l j).length=f.length:=Jn
theorem gX {f:List Int} (j:Nat) (hj:j<l.length):ES v f l j=E4 v (ES v f l (j+1)) l[j]:=by
 unfold ES EX;rw[QQ hj,List.reverse_cons,UW];rfl
theorem aZ (hn:(l.map (·.1)).Nodup) (hr:∀ s∈l,s.1<f.length) (j:Nat) (hj:j<l.length):(ES v f l (j+1)).getD l[j].1 0=f.getD l[j].1 0:=by
 refine(J8 (δ:=v) (f:=f) (i:=l[j].1) (l:=(l.drop (j+1)).reverse) ?_ ?_).1 ?_
 .rw [List.map_reverse]
  refine XW ?_;exact hn.sublist ((List.drop_sublist _ _).map _)
 .intro s hs
  exact hr s (UC (List.mem_reverse.1 hs))
 .rw [List.map_reverse,List.mem_reverse]
  intro hm;obtain⟨s,hs,he⟩:=Qh.1 hm;obtain⟨i,hi,rfl⟩:=QA.1 hs;rw[UH] at hi;rw[List.getElem_drop] at he;have h1:=(QM.1 hn) j (j+1+i) (by rw[QB];exact hj) (by rw[QB];omega) zy
  rw[List.getElem_map,List.getElem_map] at h1;exact h1 he.symm
theorem kI (hn:(l.map (·.1)).Nodup) (hr:∀ s∈l,s.1<f.length):ES v f l 0=EX v f l:=by
 unfold ES;rw[Vb];have q:(l.reverse.map (·.1)).Nodup:=by rw[List.map_reverse];exact XW hn
 have u:∀ s∈l.reverse,s.1<f.length:=λ s hs=>hr s (List.mem_reverse.1 hs);apply List.ext_getElem (by rw[Jn,Jn])
 intro i h1 h2;have e:∀ (L:List Int) (h:i<L.length),L[i]=L.getD i 0:=λ L h=>by rw[Qe,Qa h,QO]
 rw[e _ h1,e _ h2];have g1:=J8 (δ:=v) (f:=f) (i:=i) q u;have g2:=J8 (δ:=v) (f:=f) (i:=i) hn hr
 by_cases hm:i∈l.map (·.1)
 .obtain ⟨s,hs,rfl⟩:=Qh.1 hm
  rw[g1.2 s.2 (List.mem_reverse.2 hs),g2.2 s.2 hs]
 .rw [g1.1 (by rw[List.map_reverse,List.mem_reverse];exact hm),g2.1 hm]
theorem IM.push (hn:C8 N A) (hf:BL N A f) (h:IM N A f b l) (h0:0<=v) (hv:∀ s∈l,v<=CF A f s):BL N A (ES v f l 0)/\Aa A (ES v f l 0)=Aa A f+v:=by
 have hr:∀ s∈l,s.1<A.length:=λ s hs=>by
  obtain⟨i,hi,rfl⟩:=QA.1 hs;exact(h.at_ i hi).1
 rw[kI h.nodup λ s hs=>by rw[hf.fit.len];exact hr s hs]
 exact nB hn hf h0 h.way h.nodup λ s hs=>⟨hr s hs,hv s hs⟩
theorem H4 {A:List Ed} {N:Nat} (h:C9 ⟨N,A⟩):C8 N A:=by
 obtain⟨h1,_,_,h4⟩:=h;simp only at h1 h4;refine⟨zy,λ e he=>?_⟩
 obtain⟨q1,q2,q3,q4,q5,q6,q7,q8,_⟩:=h4 e he;exact⟨q1,zy,q3,zy,q5,q6,q7,q8⟩
end Go.Proofs.YtnaemfpgdmfmcaaGreatDoor
namespace Go.Proofs.YtnaemfpgdmfmcaaGreatDoor
open Go Go.RowKit Go.Shelf Go.Maps Go.Sort
attribute [local go_sem] Oper.semAt_some
def IS:Go.Shelf.Ren:=⟨fun | 11=>165 | n=>n,fun | 0=>0 | 24=>22 | 26=>3 | 28=>163 | 33=>73 | n=>n,fun | n=>n⟩
theorem Mk:SlLaysZI.n11 Tryz.prog IS:={
 mixed:=by kernel_rfl
 f11:=⟨Tryz.f165.name,zx,Tryz.func165.trans (congrArg some (by kernel_rfl))⟩
 t0:=Tryz.underlying0
 a0:=Tryz.isAgg0
 z0:=Tryz.sizeOf0
 v0:=Tryz.zeroValue0
 t24:=Tryz.underlying22
 a24:=Tryz.isAgg22
 z24:=Tryz.sizeOf22
 v24:=Tryz.zeroValue22
 t26:=Tryz.underlying3
 a26:=Tryz.isAgg3
 z26:=Tryz.sizeOf3
 v26:=Tryz.zeroValue3
 t28:=Tryz.underlying163
 a28:=Tryz.isAgg163
 z28:=Tryz.sizeOf163
 v28:=Tryz.zeroValue163
 i26:=by kernel_rfl
}
theorem vZ {l:List Int} {k:Nat} (h:k<l.length):l.take (k+1)=l.take k++[l[k]]:=Ql h
theorem qF (F:Fence) (n:Nat) (h7:F.fn 127) (hro:F.round=none) (hn:1<=n) (l Bs B0 b off cap:Nat) (a:Option Addr) (zs:List Int) (ha:zs≠[]->a=some ⟨b,off,none⟩) (hreach:zs.length<=17592186044416) (J:List Int->World->Prop) (W:World) (hJ:∀ pre W1,J pre W1 -> ∀ j (h:j<zs.length),W1.cell? ⟨b,off+j,none⟩=some (.int .i64 zs[j])) (hY:∀ pre x W1,J pre W1->pre.length<zs.length->YieldAt F (n - 1) Tryz.prog l #[.int .i64 x] W1 λ e W'=>e = .returned (.bool true)/\J (pre++[x]) W'/\KeepsWalks W1 W') (hBs:W.cell? ⟨Bs,B0,none⟩=some (.slice a zs.length cap)) (h0:J [] W) :
  CallsIn F n Tryz.prog 127 #[.func (.yield l) #[] #[],.pointer (some ⟨Bs,B0,none⟩)] W λ e W'=>(∃ v,e = .returned v)/\J zs W':=by
 refine callsIn_of_wp Tryz.func127 rfl h7 ?_ hro;simp only[Tryz.ntmps127,Q4,QV,U7,Nat.reduceAdd,Nat.reduceSub,Array.replicate_succ,Array.replicate_zero,List.push_toArray,List.append_toArray,Uu,Q6]
 gi_wp2
 gi_loopw [7] (λ i wr=>∃ k:Nat,k<=zs.length/\i = .int .i64 k/\J (zs.take k) wr) (λ i _=>zs.length - (intOf i).toNat)
 case atStart=>exact⟨0,Qn _,rfl,by simpa using h0⟩
 case round =>
  obtain⟨k,hk,rfl,hJs⟩:=hrel
  by_cases hlt:k<zs.length
  .have hcx':wr.cell? ⟨b,off+k,none⟩=some (.int .i64 zs[k]):=hJ _ _ hJs k hlt
   obtain rfl:=ha (by rintro rfl;simp at hlt)
   obtain⟨fn,tmps,assign,body,hy,hR⟩:=hY _ zs[k] wr hJs (by rw[QU];omega)
   gi_wp2
   refine hR.mono ?_
   rintro e W3 ⟨rfl,hJ3,hk3⟩
   gi_wp2
   go_roundw
   case rel=>exact⟨k+1,zy,zz,by rw[vZ hlt];exact hJ3⟩
   case measure=>simp[intOf];omega
  .obtain rfl:k=zs.length:=zy
   gi_wp2
   go_end0
   exact⟨⟨_,rfl⟩,by simpa using hJs⟩
theorem nL (F:Fence) (n:Nat) (h11:F.fn 165) (hFg:F.fn 127) (hro:F.round=none) (hn:2<=n) (Bs B0 b off cap:Nat) (a:Option Addr) (zs:List Int) (ha:zs≠[]->a=some ⟨b,off,none⟩) (hN:zs.length<=1099511627776) (w:World) (hBs:w.cell? ⟨Bs,B0,none⟩=some (.slice a zs.length cap)) (hBl:Bs<w.heap.size) (hbl:zs≠[]->b<w.heap.size) (hc:∀ j (h:j<zs.length),w.cell? ⟨b,off+j,none⟩=some (.int .i64 zs[j])) :
  CallsIn F n Tryz.prog 165 #[.slice none 0 0,.func (.func 127) #[] #[.pointer (some ⟨Bs,B0,none⟩)]] w λ e w'=>∃ v:Value,e = .returned v/\w'.ownsRow w.heap.size 3 1 v zs.length (zs.map encZ)/\Below w.heap.size w w':=by
 have h1:1<=n:=zy
 have hmax:zs.length<=maxLen:=by unfold maxLen;omega
 have L:=Mk;have hne:(22:Nat)≠3:=zx
 have eg:∀ args w,(callFunc 127 args).run Tryz.prog w = .ok (.enter 127 args) w:=λ args w=>(enters_of Tryz.func127 (by kernel_rfl) rfl) args w
 refine callsIn_of_wp_marks Tryz.func165 rfl h11 ?_ hro;simp only[Tryz.ntmps165,Q4,QV,U7,Nat.reduceAdd,Nat.reduceSub,Array.replicate_succ,Array.replicate_zero,List.push_toArray,List.append_toArray,Uu,Q6]
 gi_wp2
 refine wpIn_rangeFunc ?_;intro fn hfn;rw[hro];obtain⟨W0,hW0⟩:∃ W0,w.alloc (.cells #[.slice none 0 0] 22)=W0:=⟨_,rfl⟩;have hs0:W0.heap.size=w.heap.size+1:=by rw[<- hW0];simp
 have hv0:W0.heap[w.heap.size]? = some (.cells #[.slice none 0 0] 22 (0,0)):=by rw[<- hW0];exact World.alloc_heap_new w _
 have hb0:Below w.heap.size w W0:=by rw[<- hW0];exact(Below.refl _ w).alloc (Qk _) _
 rw[hW0];obtain⟨sv,hsv⟩:∃ sv:Value,sv = .func (.func 127) #[] #[.pointer (some ⟨Bs,B0,none⟩)]:=⟨_,rfl⟩;rw[<- hsv];obtain⟨W1,hW1⟩:∃ W1,(W0.alloc (.deferred (some []))).alloc (.loop (AnyZI.apRec IS fn sv w.heap.size W0.heap.size .ready none))=W1:=⟨_,rfl⟩
 have hold:∀ k,k<W0.heap.size->W1.heap[k]? = W0.heap[k]?:=λ k hk=>by
  rw[<- hW1];exact(Below.heap_alloc _ _ k zw).trans (Below.heap_alloc _ _ k hk)
 have hb1:Below w.heap.size w W1:=by rw[<- hW1];exact(hb0.alloc hb0.size _).alloc (by have:=hb0.size;simp;omega) _
 have hs1:W1.heap.size=W0.heap.size+2:=by rw[<- hW1];simp
 have hM:AnyZI.ApAt IS w fn sv w.heap.size (W0.heap.size+1) W0.heap.size [] W1 :=
  ⟨⟨_,(hold w.heap.size zy).trans hv0,⟨rfl,.inl ⟨rfl,rfl⟩⟩,zz⟩,
   by rw[<- hW1];have:=World.alloc_heap_new (W0.alloc (.deferred (some []))) (.loop (AnyZI.apRec IS fn sv w.heap.size W0.heap.size .ready none));rwa [World.size_alloc] at this,
   by rw[<- hW1];exact(Below.heap_alloc _ _ _ zz).trans (World.alloc_heap_new W0 _),hb1⟩
 refine⟨W0.heap.size+1,[{ target:=.collected W0.heap.size,args:=#[] }],W1,{ target:=.fn (.func 127) #[.pointer (some ⟨Bs,B0,none⟩)],args:=#[.func (.yield (W0.heap.size+1)) #[] #[]] },W1,127,
  #[.func (.yield (W0.heap.size+1)) #[] #[]] ++ #[.pointer (some ⟨Bs,B0,none⟩)],W1,?_,?_,?_,?_,λ _=>h1,?_⟩
 .rw [<- hW1];exact run_enterLoop_outer _ _ _ _ _
 .rw [hsv];simp[resolve,go_sem]
 .intro f' hf';simp[Target.leads] at hf';subst hf';exact hFg
 .simp [invoke,go_sem,eg]
 .refine (qF F (n - 1) hFg hro zy (W0.heap.size+1) Bs B0 b off cap a zs ha zy (AnyZI.ApAt IS w fn sv w.heap.size (W0.heap.size+1) W0.heap.size) W1 (λ pre W' h' j hj=>(h'.below.cell (p:=⟨b,off+j,none⟩) (hbl (by rintro rfl;simp at hj))).trans (hc j hj))
   (λ pre x W hJ hl=>AnyZI.apYield { L with } F (n - 1 - 1) w fn hfn _ w.heap.size (W0.heap.size+1) W0.heap.size zy zy zy (Qk _) zy zs.length hmax zy pre x W hJ hl) ((hb1.cell (p:=⟨Bs,B0,none⟩) hBl).trans hBs) hM).mono ?_
  rintro e W2 ⟨⟨v0,rfl⟩,h2⟩
  obtain⟨v,hv,hrow,hnil⟩:=h2.box;have hend:=run_endLoop (P:=Tryz.prog) h2.L (by simp[AnyZI.apRec])
  obtain⟨W3,hW3⟩:∃ W3,W2.putObj (W0.heap.size+1) (.loop { AnyZI.apRec IS fn sv w.heap.size W0.heap.size .ready none with state:=.exhausted })=W3:=⟨_,rfl⟩;rw[hW3] at hend;have hg3:W2.grownBy W3 (some (W0.heap.size+1)):=by rw[<- hW3];exact grownBy_putObj_a _ _ _
  have hv3:W3.heap[w.heap.size]? = some (.cells #[v] 22 (0,0)):=by rw[<- hW3];exact(World.putObj_heap_other zy).trans hv
  have hK3:W3.heap[W0.heap.size]? = some (.deferred (some [])):=by rw[<- hW3];exact(World.putObj_heap_other zy).trans h2.K
  have hrow3:=hrow.kept hg3 (ownsRow_ne_a hrow h2.L (λ cur e=>by first | cases e | exact hne (Obj.cells.inj e).2.1))
  have hb3:Below w.heap.size w W3:=h2.below.grown hg3 h2.below.size (λ k e=>by cases e;omega)
  obtain⟨hc3,hf3⟩:=cell_of_box_a hv3
  clear hW3
  refine⟨none,W3,hend,?_⟩
  gi_wp2
  rw[<- hs0];refine⟨zz,.inl ⟨_,_,rfl,run_takeDeferred hK3,?_⟩⟩
  exact⟨_,results_tmp rfl _ _ _,v,rfl,hrow3.kept (grownBy_putObj_a _ _ _) (ownsRow_ne_a hrow3 hK3 (λ cur e=>by first | cases e | exact hne (Obj.cells.inj e).2.1)),hb3.grown (grownBy_putObj_a _ _ _) hb3.size (λ k e=>by cases e;omega)⟩
abbrev pC (p:Aq):List AV:=[AA p.seeds,AA p.table,.I p.lv]
abbrev eP (p:Aq):AV:=.agg (pC p)
def Jd (p:Aq) (i:Nat):Prop:=∀ h:i<p.table.length,1<=p.table[i]/\p.table[i]<=1000/\(0<i->p.table[i]<=p.table[i - 1])
def KH (n:Int) (p:Aq):Prop:=p.seeds≠[]/\Bh p.seeds 0 (n - 1)/\(1<=p.table.length/\p.table.length<=8)/\(1<=p.lv/\p.lv<=3)
theorem Nz {n:Int} {p:Aq}:BD n p↔KH n p /\ ∀ i,Jd p i:=by
 unfold BD KH Jd;constructor
 .rintro ⟨a,b,c,d,e,f,g⟩;exact⟨⟨a,b,⟨c,d⟩,e,f⟩,g⟩
 .rintro ⟨⟨a,b,⟨c,d⟩,e,f⟩,g⟩;exact⟨a,b,c,d,e,f,g⟩
theorem SY (p:Aq) (d:Int):AK 30 [eP p,.I d] [] (.I (DA p d)) []:=by
 refine iK.s.ai ?_;refine rs [1,2] [] [16] ?_;refine G1 (ι:=Unit) (λ _=>⟨19,[],[],200⟩) (λ _=>0<=d/\(p.table.length:Int)<=d) ?_ λ _ hd=>?_
 .refine AT (rs [1,2,5] [] [] ?_)
  refine AI _ rfl (λ h3=>?_) λ h3=>?_
  .simp at h3
   refine rs [4] [] [] ?_;exact A8 (AW.one (by simp[Ko h3]))
  simp at h3;refine rs [1,2,8] [] [] ?_;refine AI _ rfl (λ h6=>?_) λ h6=>?_
  .simp at h6
   obtain⟨k,rfl⟩:∃ k:Nat,d=k:=⟨d.toNat,zy⟩
   have hk:k<p.table.length:=zy
   refine rx (s:=?s7) [4] [] [] rfl ?o7 ?q7
   case o7=>simp[hk];rfl
   exact A8 (AW.one (by simp[DA,hk,show ¬ ((k:Int)<0) by omega]))
  simp at h6;exact AN ⟨(),⟨h3,h6⟩,Le.keep rfl (Bf rfl) zz zz⟩
 refine rs [4] [] [] ?_;refine A9 ?_
 have h1:DA p d=1:=by
  unfold DA;rw[if_neg zy,Qe,QS zy]
  rfl
 exact⟨.inr rfl,AW.one (by simp[h1])⟩
open Classical in
theorem L0 (g:Gr) (p:Aq) (hl:g.edges.length<=140737488355328) (h1:g.gone.length<=140737488355328) (hs:p.seeds.length<=140737488355328) (ht:p.table.length<=140737488355328) :
  AK 24 [eG g,eP p] [] (.I (if AG g then if BD g.size p then 0 else 15 else 14)) []:=by
 refine O6.s.ai ?_;refine rs [2,3] [] [16,24] ?_;refine AB (rx (s:=?s2) [2,3,5] [] [] rfl ?o2 ?q2)
 case o2=>simp;refine A4 (mG g hl h1) zz ?_;simp;rfl
 refine rs [2,3,5,11] [] [] ?_;refine AI _ rfl (λ h4=>?_) λ h4=>?_
 .simp at h4
  refine rs [4] [] [] ?_;exact A8 (AW.one (by simp[h4]))
 simp at h4;have h5:=h4.1.1;have h6:=h4.1.2.1;refine AN (AB (arc ⟨65,[(3,.pv (pC p)),(38,.B (decide (¬ KH g.size p)))],[],288⟩ ?_ ?_))
 .simp
  repeat' first
   | (refine Dc 57 rfl ?_;have hw:IntKind.i64.wrap (g.size - 1)=g.size - 1:=w6;rw[hw];refine A4 (MW _ _ _ hs) rfl ?_;simp)
   | (refine Dc 58 rfl ?_;refine A4 (GF ..) rfl ?_;simp)
   | (refine Cs (λ hb=>?_) (λ hb=>?_)<;>(try rw[hb])<;>(try simp at hb)<;>simp[hb])
  all_goals exact A5 [] (by simp;first | exact BA (by (try simp at *);grind [KH]) | exact⟨by rw[show pC p=[.vs 1 false [],AA p.table,.I p.lv] by simp[pC,AA,hb]];exact .refl _,BA (by (try simp at *);grind [KH])⟩)
 refine AI _ rfl (λ h7=>?_) λ h7=>?_
 .simp at h7
  refine rs [4] [] [] ?_;exact A8 (AW.one (by simp[h4,Nz,h7]))
 simp at h7;refine AN (AB (rs [3,40,41,42] [] [] ?_));refine AT (As (ι:=Nat) (λ i=>⟨65,[(3,.pv (pC p)),(40,AA p.table),(41,.I p.table.length),(42,.I i)],[],320⟩) (λ i=>i<=p.table.length /\ ∀ k,k<i->Jd p k) (λ i=>p.table.length - i) 0 zz (BP [] []) ?_)
 rintro i ⟨hi,hp⟩
 refine rs [3,40,41,42,43] [] [] ?_;refine AB (AI _ rfl (λ q=>?_) λ q=>?_)
 .simp at q
  have h2:=w6 (x:=((i:Int)+1));have h3:0<i->IntKind.i64.wrap ((i:Int) - 1)=((i - 1:Nat):Int):=λ h=>by rw[w6];omega
  have h0:i - 1<p.table.length:=zy
  refine AN (AB (AT (rx (s:=?s12) [3,6,7,40,41,42] [] [] rfl ?o12 ?q12)))
  case o12=>simp[q];rfl
  refine arc ⟨65,[(3,.pv (pC p)),(40,AA p.table),(41,.I p.table.length),(42,.I i),(63,.B (decide (¬ Jd p i)))],[],504⟩ ?_ ?_
  .simp
   repeat' first
    | (refine Dc 58 rfl ?_;refine A4 (GF ..) rfl ?_;simp)
    | (refine Cs (λ hb=>?_) (λ hb=>?_)<;>(try rw[hb])<;>(try simp at hb)<;>simp[hb,q,h0,h3])
   all_goals exact A5 [] (by simp;exact BA (by (try simp at *);grind [Jd]))
  refine AI _ rfl (λ u=>?_) λ u=>?_
  .refine rs [4] [] [] ?_
   refine A9 ?_;have hn:¬ BD g.size p:=λ h=>by simp at u;exact u ((Nz.1 h).2 i)
   exact⟨.inr rfl,AW.one (by simp[h4,hn])⟩
  simp at u;refine AN (AY ?_);refine⟨i+1,⟨q,λ k hk=>?_⟩,?_,AJ [] [] (by simp[h2])⟩
  .rcases QI.1 hk with h | rfl
   .exact hp k h
   .exact u
  .omega
 simp at q;have hy:BD g.size p:=Nz.2 ⟨h7,λ k hk=>hp k zy hk⟩
 refine Ar (hit (rs [4] [] [] ?_));exact A8 (AW.one (by simp[h4,hy]))
section
variable {P:Program} {np id:Nat} {h:Nat->Option AD} {K:AV->List Nat->List (Nat × Option AD)->Prop} {f:FuncId} {first aA args aB:List AV} {res:AV}
theorem JU (sn:List Nat) {e:AD} (hc:Bz P f aB [] res [some e]) (he:(first++args++aA).map (conv [] sn h 4)=aB) (hp:Plain res) (u:GP e) (hk:K (conv (CL [] id) [] (λ _=>none) 4 res) sn [(id,some (Ab (CL [] id) [] (λ _=>none) 4 e))]):aK P np id .call (.fn (.func f) first aA::args) h K :=
 ⟨[],sn,false,aB,[],res,[some e],zz,zz,zz,by rw[U8,he];exact E9 _,rfl,hc,zz,.inr ⟨hp,λ e' q=>by simp at q;subst q;exact u⟩,by simpa [CL] using hk⟩
end
theorem Na {l:List Int}:GP ⟨1,AE l,0⟩:=by
 intro row q x hx;simp only[Qh] at q;obtain⟨y,_,rfl⟩:=q;simp at hx;subst hx;exact .sc _
variable {g:Gr} {S:List Int}
theorem NK (hg:AG g) (hN:g.size<20∨(AL g S).length<20) (hS:S.length<=1099511627776):AK 70 [eG g,AA S] [] (.rs 0 0 (AL g S).length) [some ⟨1,AE (AL g S),0⟩]:=by
 refine l9.s.ai ?_;have he:=hg.1.1;have hc:=hg.1.2.1;obtain⟨N,h8⟩:∃ N:Nat,N=g.size.toNat:=⟨_,rfl⟩;have q:=OM g S hg hS;have u:(DK g S).length=N:=by rw[Nx,h8]
 have h4:∀ k:Nat,k<N->(DK g S).getD k 0=AZ g S k:=λ k hk=>u5 zy
 rw[<- h8] at q;obtain⟨D,hD⟩:=AR (DK g S);rw[<- hD] at q u h4;obtain⟨W,hW⟩:=AR (Cr N λ k=>decide (0<=AZ g S k));have hf:W.length<=N:=by rw[hW];exact Ms _ _
 have h5:∀ x∈W,0<=x/\x<N:=λ x hx=>by rw[hW] at hx;exact(Il.1 hx).1
 have h6:AK 60 [.I N,.fn (.func 109) [] [.pv [AA D]]] [] (.rs 0 0 W.length) [some ⟨1,AE W,0⟩]:=by
  have:=Sh 109 [.pv [AA D]] (λ k=>decide (0<=AZ g S k)) N zy (λ ρ sn h n=>zz) (λ k hk=>by
   have h1:=t8 D k zy
   rw[h4 k zy] at h1
   exact h1)
  simpa [<- hW] using this
 have h7:Eu (cD g S) W=AL g S:=by rw[hW,h8];exact nO hg
 have h9:(AL g S).length=W.length:=by
  rw[<- h7];unfold Eu;rw[List.length_reverse,XJ]
 have hd:W.length<20:=by
  rcases hN with hN | hN
  .omega
  .omega
 have h0:=fC 111 [.pv [AA D]] (cD g S) W W.length rfl zy (λ ρ sn h n=>zz) (λ x hx y hy=>by
  obtain⟨a,ha⟩:∃ a:Nat,x=a:=⟨x.toNat,by have:=h5 x hx;omega⟩
  obtain⟨b,hb⟩:∃ b:Nat,y=b:=⟨y.toNat,by have:=h5 y hy;omega⟩
  have h1:=h5 x hx;have h2:=h5 y hy;subst ha hb;have h3:=iZ D a b zy zy
  rw[h4 a zy,h4 b zy] at h3
  exact h3)
 rw[h7] at h0;have hh:List.take N (AE D)=AE D:=Qb (by simp[u])
 have hi:(AE D).length=N:=by simp[u]
 refine ar [1,2] [] [16] 32 ?_;refine arc ⟨18,[(5,.pv [AA D])],[],72⟩ ?_ ?_
 .simp
  refine Fm q rfl ?_;simp[AC];exact A5 [48,56] (by simp[AC,<- u,B7])
 refine arc ⟨18,[(5,.pv [AA D]),(6,.rs 96 0 W.length)],[(96,some ⟨1,AE W,0⟩)],112⟩ ?_ ?_
 .simp [u]
  refine Ct h6 ?_;simp[AC];exact Cp
 rw[h9];refine arc ⟨18,[(6,.rs 96 0 W.length)],[(96,some ⟨1,AE (AL g S),0⟩)],136⟩ ?_ ?_
 .simp
  refine B6 (i:=96) rfl (e':=⟨1,AE W,0⟩) (by simp[AC]) h0 zz zz ?_
  simp[AC];exact Cp
 refine AB (AY ?_);exact Bx [96] []
variable {g:Gr} {p:Aq}
theorem AG.edges_le (h:AG g):g.edges.length<=500:=h.1.2.2.1
theorem Fh:(Ao g p).length=g.size.toNat:=by simp[Ao,DK,AO]
def Dz (g:Gr) (p:Aq) (k:Nat):List Int:=(Ao g p).take k++(DK (AO g p.lv) p.seeds).drop k
theorem Y2 (k:Nat) (hk:k<=g.size.toNat):(Dz g p k).length=g.size.toNat:=by simp[Dz,Fh,DK,AO];omega
theorem j6:Dz g p 0=DK (AO g p.lv) p.seeds:=by simp[Dz]
theorem gH:Dz g p g.size.toNat=Ao g p:=by
 unfold Dz;rw[Qb (by rw[Fh];exact Qk _),Um (by simp[DK,AO])]
 simp
theorem gO {k:Nat} (hk:k<g.size.toNat):(Dz g p k)[k]? = some (AZ (AO g p.lv) p.seeds k):=by
 unfold Dz;rw[Qs (by simp[Fh];omega)]
 simp[Fh,UZ (Nat.le_of_lt hk),DK,AO,hk]
theorem iU {k:Nat} (hk:k<g.size.toNat):(AE (Dz g p k)).set k [AV.I (DA p (AZ (AO g p.lv) p.seeds k))]=AE (Dz g p (k+1)):=by
 rw[show [AV.I (DA p (AZ (AO g p.lv) p.seeds k))]=(λ n:Int=>[AV.I n]) (DA p (AZ (AO g p.lv) p.seeds k)) from rfl]
 show (List.map (λ n:Int=>[AV.I n]) (Dz g p k)).set k _=List.map (λ n:Int=>[AV.I n]) _;rw[<- List.map_set]
 congr 1
 have hc:k<(Ao g p).length:=by rw[Fh];exact hk
 have hd:k<(DK (AO g p.lv) p.seeds).length:=by simp[DK,AO,hk]
 unfold Dz;rw[List.set_append,if_neg (by simp[Fh];omega)]
 rw[show k - ((Ao g p).take k).length=0 by simp[Fh];omega]
 rw[QQ hd,List.set_cons_zero,Ql hc,QG]
 congr 2
 simp[Ao,DK]
theorem TE (g:Gr) (p:Aq) (hg:AG g) (hs:p.seeds.length<=1099511627776):AK 82 [eG g,eP p] [] (.rs 0 0 g.size.toNat) [some ⟨1,AE (Ao g p),0⟩]:=by
 refine qZ.s.ai ?_;have h5:=hg.1.1;have h4:=hg.1.2.1;have h7:=hg.edges_le;have h8:=hg.gone_le;have q:=OM (AO g p.lv) p.seeds (hg.level p.lv) hs;have h1:(AO g p.lv).size=g.size:=rfl;rw[h1,<- j6] at q;obtain⟨N,u⟩:∃ N:Nat,N=g.size.toNat:=⟨_,rfl⟩;rw[<- u] at q;have h9:∀ k,k<=N->(AE (Dz g p k)).length=N:=λ k hk=>by rw[QB,Y2 k zy,u]
 have h2:∀ (k:Nat) (h:k<(Dz g p k).length),k<N->(Dz g p k)[k]=AZ (AO g p.lv) p.seeds k:=λ k h hk=>by
  have:=gO (g:=g) (p:=p) (k:=k) zy
  rw[Qa h] at this;exact Qc this
 have h0:∀ k,k<=N->(Dz g p k).length=N:=λ k hk=>by rw[Y2 k zy,u]
 have h3:∀ k:Nat,k<N->(AE (Dz g p k)).set k [AV.I (DA p (AZ (AO g p.lv) p.seeds k))]=AE (Dz g p (k+1)):=λ k hk=>iU zy
 refine rs [2,3] [] [16,24] ?_;apply al [3,5] [88] 104
 .simp
  refine A0 (Ij g p.lv zy zy) ?_
  simp;refine Fm q rfl ?_;simp[AC];exact⟨rfl,rfl⟩
 refine AB (rk (s:=?s3) [3,5,15,16,17] [88] rfl ?o3 ?q3)
 case o3=>simp;rfl
 refine AT (As (ι:=Nat) (λ i=>⟨30,[(3,.pv (pC p)),(5,.rs 88 0 N),(15,.rs 88 0 N),(16,.I N),(17,.I i)],[(88,some ⟨1,AE (Dz g p i),0⟩)],128⟩) (λ i=>i<=N) (λ i=>N - i) 0 zz (Cp) ?_)
 intro i hi;refine rk (s:=?s5) [3,5,15,16,17,18] [88] rfl ?o5 ?q5
 case o5=>simp;rfl
 refine AB (AI _ rfl (λ h6=>?_) λ h6=>?_)
 .simp at h6
  have hw:=w6 (x:=((i:Int)+1));refine AN (AB (AT (rk (s:=?s7) [3,5,6,7,15,16,17] [88] rfl ?o7 ?q7)))
  case o7=>simp[h6,h0,h2,hi];rfl
  refine Al (s:=?s8) rfl ?o8 ?q8
  case o8 =>
   simp;refine A0 (SY p (AZ (AO g p.lv) p.seeds i)) ?_;simp[h6,h0,hi,h3];rfl
  refine Al (s:=?s9) rfl ?o9 ?q9
  case o9=>simp[hw];rfl
  exact⟨i+1,zy,zy,CO [(88,88)] []⟩
 simp at h6;obtain rfl:i=N:=zy
 refine Ar (hit (rk (s:=?s10) [4] [88] rfl ?o10 ?q10))
 case o10=>simp;rfl
 refine A9 ⟨.inr rfl,AW.out [88] [] rfl zz zz (by simp[u]) (by simp[AC,u,gH])⟩
abbrev xC (g:Gr) (seeds caps order:List Int):List AV:=[.I g.size,BO g.edges,AA g.gone,AA seeds,AA caps,AA order]
abbrev Dn (g:Gr) (seeds caps order:List Int):AV:=.agg (xC g seeds caps order)
abbrev Hp (g:Gr) (p:Aq):AV:=Dn (AO g p.lv) p.seeds (Ao g p) (AL (AO g p.lv) p.seeds)
theorem kM (g:Gr) (p:Aq) (hg:AG g) (hN:g.size<20) (hs:p.seeds.length<=1099511627776):AK 41 [eG g,eP p] [] (Hp g p) []:=by
 refine vW.s.ac ?_;show Ad _ 0 _ _ ⟨21,[(0,eG g),(1,eP p)],[],16⟩;have h2:=hg.edges_le;have h3:=hg.gone_le;have q:=TE g p hg hs;have u:=NK (g:=AO g p.lv) (S:=p.seeds) (hg.level p.lv) (.inl hN) hs;have h1:(Ao g p).length=g.size.toNat:=Fh;rw[<- h1] at q;obtain⟨G,hG⟩:=AR (AO g p.lv);obtain⟨O,hO⟩:=AR (AL (AO g p.lv) p.seeds);obtain⟨C,hC⟩:=AR (Ao g p);show Ad _ 0 _ (λ e st=>(e = .normal∨e = .ret)/\AW _ 0 st (Dn (AO g p.lv) p.seeds (Ao g p) (AL (AO g p.lv) p.seeds)) []) _;have h0:=Ij g p.lv zy zy
 rw[<- hC] at q;rw[<- hO,<- hG] at u;rw[<- hG] at h0;rw[<- hO,<- hG,<- hC];refine A2 ⟨21,[(2,.pv (gC g)),(3,.pv (pC p)),(4,.pt 32 0 0)],[(32,some ⟨6,[[.I 0,.nilS,.nilS,.nilS,.nilS,.nilS]],0⟩)],40⟩ [(32,32)] [16,24] ?_;refine arc ⟨21,[(2,.pv (gC g)),(3,.pv (pC p)),(4,.pt 32 0 0),(5,.pv (gC G))],[(32,some ⟨6,[[.I 0,.nilS,.nilS,.nilS,.nilS,.nilS]],0⟩)],88⟩ ?_ ?_
 .simp
  refine A0 h0 ?_;simp;exact BP [(32,32)] [72]
 refine Cd ⟨21,[(4,.pt 32 0 0)],[(32,some ⟨6,[[.I G.size,BO G.edges,AA G.gone,AA p.seeds,.rs 128 0 C.length,.rs 160 0 O.length]],0⟩),(128,some ⟨1,AE C,0⟩),(160,some ⟨1,AE O,0⟩)],184⟩ ?_ ?_
 .simp
  refine Fm q rfl ?_;simp[AC];refine Fm u rfl ?_;simp[AC];exact⟨rfl,Cp⟩
 exact A8 (AW.out [] [128,160] rfl zz zz (by simp[AC,B7]) zz)
theorem YD {β:Type} (f:Int->β) (l:List Int) (r:Int->Int->Bool):List.take l.length (List.map f (l.mergeSort r))=List.map f (l.mergeSort r):=Qb (by simp[List.length_mergeSort])
def Lh (g:Gr) (order w:List Int) (i:Nat):Prop:=∀ h:i<w.length,(w[i]∈order/\w[i]∉w.take i)/\(0<i->w[i]∈Av g.edges w[i - 1])
def Fp (g:Gr) (seeds order w:List Int):Prop:=(∃ k,w.head? = some k/\k∈seeds) /\ ∀ i,Lh g order w i
theorem uG {w:List Int}:w.Nodup ↔ ∀ i (h:i<w.length),w[i]∉w.take i:=by
 constructor
 .intro h1 i h hm
  obtain⟨j,hj,e⟩:=Ul hm;rw[UR] at e;have q:j<i:=by rw[QU] at hj;omega
  exact(QM.1 h1) j i zy h q e
 .intro h
  refine QM.2 λ i j hi hj u e=>?_;refine h j hj ?_;rw[<- e];exact List.mem_take_iff_getElem.2 ⟨i,zy,rfl⟩
theorem nH {g:Gr} {lv:Int} {seeds order w:List Int}:Fp (AO g lv) seeds order w↔Ix g lv seeds order w:=by
 unfold Fp Ix Lh;rw[uG];simp only[iS];constructor
 .rintro ⟨h0,h⟩
  refine⟨h0,λ k hk=>?_,λ i hi=>(h i hi).1.2,λ i hi=>(h (i+1) hi).2 (Nat.succ_pos _)⟩;obtain⟨i,hi,rfl⟩:=Ul hk;exact(h i hi).1.1
 .rintro ⟨h0,h1,h2,h3⟩
  refine⟨h0,λ i hi=>⟨⟨h1 _ (Qj hi),h2 i hi⟩,λ hp=>?_⟩⟩;obtain⟨j,rfl⟩:∃ j,i=j+1:=⟨i - 1,zy⟩
  exact h3 j hi
open Classical in
theorem vR (g:Gr) (seeds q order w:List Int) (hg:g.edges.length<=1099511627776) (hs:seeds.length<=140737488355328) (ho:order.length<=140737488355328) (hw:w.length<=140737488355328) :
  AK 125 [Dn g seeds q order,AA w] [] (.B (decide (Fp g seeds order w))) []:=by
 refine d4.s.ac ?_;show Ad _ 0 _ _ ⟨53,[(0,Dn g seeds q order),(1,AA w)],[],16⟩;refine rs [1,2] [] [16] ?_;refine AB (rs [1,2,7,8,9] [] [] ?_);refine AT (As (ι:=Nat) (λ i=>⟨53,[(1,AA w),(2,.pv (xC g seeds q order)),(7,AA w),(8,.I w.length),(9,.I i)],[],56⟩) (λ i=>i<=w.length /\ ∀ k,k<i->Lh g order w k) (λ i=>w.length - i) 0 zz (BP [] []) ?_)
 rintro i ⟨hi,hp⟩
 refine rs [1,2,7,8,9,10] [] [] ?_;refine AB (AI _ rfl (λ h4=>?_) λ h4=>?_)
 .simp at h4
  have h1:=w6 (x:=((i:Int)+1));have h2:0<i->IntKind.i64.wrap ((i:Int) - 1)=((i - 1:Nat):Int):=λ h=>by rw[w6];omega
  have h3:i - 1<w.length:=zy
  have h5:(w.take i).length<=140737488355328:=by rw[QU];omega
  have hc:=GR (w.take i) w[i] h5;have h9:(Av g.edges w[i - 1]).length<=g.edges.length:=List.length_filterMap_le ..;have h6:=GR (Dx (Av g.edges w[i - 1])) w[i] (by rw[IN];omega)
  refine AN (AB (AT (rx (s:=?s5) [1,2,5,6,7,8,9] [] [] rfl ?o5 ?q5)))
  case o5=>simp[h4];rfl
  refine AB (arc ⟨53,[(1,AA w),(2,.pv (xC g seeds q order)),(5,.I i),(6,.I w[i]),(7,AA w),(8,.I w.length),(9,.I i),(25,.B (decide (¬ (w[i]∈order/\w[i]∉w.take i))))],[],200⟩ ?_ ?_)
  .simp
   have h8:=GR order w[i] ho;refine A0 h8 ?_;simp;refine Cs (λ hb=>?_) (λ hb=>?_)<;>(try rw[hb])<;>(try simp at hb)<;>simp[hb,hi]
   .exact A5 [] (by simp<;>exact BA (by (try simp at *);grind))
   .refine A0 hc ?_
    simp;exact A5 [] (by simp<;>exact BA (by (try simp at *);grind))
  refine AI _ rfl (λ h7=>?_) λ h7=>?_
  .refine rs [4] [] [] ?_
   refine A9 ?_;have hn:¬ Fp g seeds order w:=λ h=>by simp at h7;rcases h7 with h7 | h7;exact h7 (h.2 i h4).1.1;exact(h.2 i h4).1.2 h7
   exact⟨.inr rfl,AW.one (by simp[hn])⟩
  simp at h7;refine AN (Cd ⟨53,[(1,AA w),(2,.pv (xC g seeds q order)),(7,AA w),(8,.I w.length),(9,.I i),(40,.B (decide (¬ (0<i->w[i]∈Av g.edges w[i - 1]))))],[],320⟩ ?_ ?_)
  .simp
   refine Cs (λ hb=>?_) (λ hb=>?_)<;>(try rw[hb])<;>(try simp at hb)<;>simp[hb,h3,h2]
   .refine Ct (TV ⟨g.size,g.edges,g.gone⟩ w[i - 1] hg) ?_
    simp[AC];refine F6 [280] h6 (by simp[YD]) (.sc _) ?_
    simp;exact⟨rfl,A5 [] (by simp<;>exact BA (by (try simp at *);grind))⟩
   .exact ⟨rfl,A5 [] (by simp<;>exact BA (by (try simp at *);grind))⟩
  refine AI _ rfl (λ u=>?_) λ u=>?_
  .refine rs [4] [] [] ?_
   refine A9 ?_;have hn:¬ Fp g seeds order w:=λ h=>by simp at u;exact u.2 ((h.2 i h4).2 u.1)
   exact⟨.inr rfl,AW.one (by simp[hn])⟩
  simp at u;refine AN (Ap rfl ?_);simp[h1];refine⟨i+1,⟨h4,λ k hk=>?_⟩,zy,BP [] []⟩
  rcases QI.1 hk with h | rfl
  .exact hp k h
  .intro h
   exact⟨h7,u⟩
 simp at h4;refine Ar (hit (Cd ⟨53,[(4,.B (decide (Fp g seeds order w)))],[],160⟩ ?_ ?_))
 .simp
  have h0:∀ i,Lh g order w i:=λ k hk=>hp k zy hk
  cases w with
  | nil =>
    simp;refine⟨rfl,A5 [] (by simp[Fp])⟩
  | cons a w =>
    simp;refine Dc 29 rfl ?_;refine A0 (GR seeds a hs) ?_;simp;refine⟨rfl,A5 [] (by simp[Fp,h0])⟩
 exact Ca
end Go.Proofs.YtnaemfpgdmfmcaaGreatDoor
namespace Go.Proofs.YtnaemfpgdmfmcaaGreatDoor
open Go Go.RowKit Go.Shelf Go.Maps Go.Sort
theorem Jj {vs:Array Value} (h:vs.size=2):vs = #[vs.getD 0 undef,vs.getD 1 undef]:=by
 apply Array.ext
 .simpa using h
 .intro i h1 h2
  have:i=0∨i=1:=by simp at h2;omega
  rcases this with rfl | rfl<;>simp[Array.getD,h1]<;>intro h3<;>omega
theorem vP (x:Int):(encZ x:Value) = .int .i64 x:=rfl
theorem cT (l:List Int) (hl:l.length<=1099511627776):AK 165 [.nilS,.fn (.func 127) [] [.pv [AA l]]] [] (.rs 0 0 l.length) [some ⟨1,AE l,0⟩]:=by
 refine⟨⟨_,_,Tryz.func165,rfl,zx⟩,zz,λ T M w vs h7 b5 b3 hq=>?_⟩
 obtain⟨a5,hr⟩:=hq;have h8:=hr 0 zz
 have h9:=hr 1 zz
 simp only[Us,List.getD_cons_succ] at h8 h9;rw[Jj a5];generalize vs.getD 0 undef=v0 at h8;generalize vs.getD 1 undef=v1 at h9
 cases h8
 cases h9 with
 | fn _ _ _ _ us ws hx hy h h' =>
 have a6:us = #[]:=by simpa using hx
 subst a6;have a7:=Hu (vs:=ws) hy;have hc:=h' 0 zz
 simp only[Us] at hc;rw[a7];generalize ws.getD 0 undef=u at hc
 cases hc with
 | pv _ _ Bs B0 cells ty fz c hb ht a8 ho hh =>
 have hB:=a8 0 zz
 have hv:=hh 0 zz
 simp only[Us,QY] at hB hv;have a9:Bs<w.heap.size:=(QE.1 hb).1;generalize c 0=sv at hB hv
 cases hv with
 | vs _ _ _ _ a cap cc hf b6 hw ag h1 ai =>
 have hs:(l.map λ n=>[AV.I n]).length=l.length:=zz
 rw[hs] at hB
 have hd:∃ b off,(l≠[]->a=some ⟨b,off,none⟩/\b<w.heap.size) /\ ∀ j (h:j<l.length),w.cell? ⟨b,off+j,none⟩=some (.int .i64 l[j]):=by
  by_cases h0:l=[]
  .exact ⟨0,0,λ h=>absurd h0 h,λ j hj=>by subst h0;simp at hj⟩
  .obtain ⟨b,off,cs,ty',fz',ha,hu,_,a0⟩:=ag (by simpa using h0)
   refine⟨b,off,λ _=>⟨ha,(QE.1 hu).1⟩,λ j hj=>?_⟩;have h2:=a0 j 0 (by simpa using hj) zx
   have h3:=ai j 0 (by simpa using hj) zx
   have e:((l.map λ n=>[AV.I n]).getD j []).getD 0 .dead = .I l[j]:=by simp[List.getD,hj]
   rw[e] at h3;have h4:=Bo h3 rfl;rw[h4] at h2;simp only[World.cell?,hu]
   simpa using h2
 obtain⟨b,off,a1,an⟩:=hd;rw[<- callsIn_wide (n:=2)];refine(nL Fence.wide 2 trivial trivial rfl zy Bs B0 b off cap a l (λ h=>(a1 h).1) hl w ?_ a9 (λ h=>(a1 h).2) an).mono ?_
 .simp only[World.cell?,hb]
  exact hB
 rintro e w' ⟨v,rfl,⟨_,a2⟩,h5⟩
 have au:Ag T w T w':=⟨λ _=>Qk _,λ b' cs' ty' fz' h=>⟨cs',fz',by rw[h5.block b' (QE.1 h).1];exact h,rfl,λ _ _=>rfl⟩⟩
 have av:∀ b',w.heap.size<=b'->T b'=0:=λ b' q=>by
  rcases UE (T b') with e | e
  .exact e
  .obtain ⟨cells,ty,fz,h1,_⟩:=h7 b' e
   have:=(QE.1 h1).1;omega
 have hm:EW T w':=λ b' q=>by
  obtain⟨cells,ty,fz,h1,h2⟩:=h7 b' q;exact⟨cells,ty,fz,by rw[h5.block b' (QE.1 h1).1];exact h1,h2⟩
 have fin:∀ g:GE,(∀ b,g.blk=some b->w.heap.size<=b)->HR T w' (λ k=>if k=0 then some g else none) ⟨1,AE l,0⟩ g->AX T w' (λ k=>if k=0 then some g else none) (.rs 0 0 l.length) v ->
   ∃ v' T' M',Ending.returned v = .returned v'/\AX T' w' M' (.rs 0 0 l.length) v'/\DR T' w' M' (Eg [some ⟨1,AE l,0⟩])/\FO 0 T M w T' M' w':=by
  intro g hg ent hv;refine⟨v,T,_,rfl,hv,?_,⟨hm,λ _ _ _=>rfl,λ k hk=>absurd hk (Ut k),h5.os,h5.tape,h5.output,h5.size,λ b' q _=>h5.block b' q,au,λ k g1 b1 _ h1 h2=>?_⟩⟩
  .rw [show ([some ⟨1,AE l,0⟩]:List (Option AD))=List.map some [⟨1,AE l,0⟩] from rfl,Mg]
   have z:∀ id e,CW [(⟨1,AE l,0⟩:AD)] id=some e->id=0/\e=⟨1,AE l,0⟩:=by
    intro id e he
    cases id with
    | zero=>simp[CW] at he;exact⟨rfl,he.symm⟩
    | succ k=>simp[CW] at he
   refine⟨λ id e he=>?_,λ id id' e e' _ _ _ h1 h2 _ _ _ _=>by rw[(z _ _ h1).1,(z _ _ h2).1]⟩
   obtain⟨rfl,rfl⟩:=z _ _ he;exact⟨g,rfl,ent⟩
  .by_cases hk:k=0
   .subst hk
    simp at h1;subst h1;exact .inr (hg b1 h2)
   .simp [hk] at h1
 have h6:∀ row∈AE l,row.length=1:=by intro row hr;simp at hr;obtain⟨x,_,rfl⟩:=hr;rfl
 rcases a2 with ⟨rfl,h0⟩ | ⟨g,cp,cur,rfl,hg,a3,a4,bo,b4,b0⟩
 .have b2:l=[]:=UT.1 h0
  subst b2;exact fin ⟨none,0,1,false⟩ zz ⟨rfl,Qn _,λ _=>h6,(λ _=>rfl),(λ hz=>absurd hz (UI 0)),λ _ b' q=>by cases q⟩ (.rs _ _ _ _ _ _ _ rfl (UI 0) (Qk _) (λ _=>⟨rfl,rfl⟩) λ b' q=>by cases q)
 .refine fin ⟨some g,0,1,false⟩ (λ b' q=>by cases q;exact hg) ⟨rfl,Qn _,λ _=>h6,(λ hn=>by cases hn),(λ hz=>absurd hz (UI 0)),λ _ b' q=>?_⟩ (.rs _ _ _ _ cp _ _ rfl (UI 0) a4 (λ hn=>by cases hn) λ b' q=>?_)
  .obtain rfl:=Qc q
   refine⟨cur,3,⟨_,a3,.inl rfl⟩,by rw[av g hg];exact Qn _,zw,λ i j hi hj=>?_⟩
   have hi':i<l.length:=by simpa using hi
   obtain rfl:j=0:=by simpa using hj
   refine⟨.int .i64 l[i],?_,rfl,?_⟩
   .have:(cur.toList.take (l.length*1))[i]? = (l.map encZ)[i]?:=by rw[b0]
    rw[Un,if_pos zy] at this
    simpa [hi',vP] using this
   .have e:((AE l).getD i []).getD 0 .dead = .I l[i]:=by simp[List.getD,hi']
    rw[e];exact .sc _ _ rfl
  .obtain rfl:=Qc q
   exact⟨.inr zz,cur,3,(0,0),a3,zw⟩
section
variable {P:Program} {np id:Nat} {h:Nat->Option AD} {K:AV->List Nat->List (Nat × Option AD)->Prop} {f:FuncId} {first aA args aB:List AV} {res:AV}
theorem IU (sn:List Nat) (q:∀ i∈sn,np<=i) (hc:Bz P f aB [] res []) (hw:(first++args++aA).map (conv [] sn h 4)=aB) (hk:K (conv (((List.range 8).map (id + ·)).zipIdx.map λ (a,b)=>(b,a)) [] (λ _=>none) 4 res) sn (sn.filterMap λ i=>(h i).map λ e=>(i,some { e with ro:=e.rows.length }))):aK P np id .call (.fn (.func f) first aA::args) h K :=
 ⟨[],sn,true,aB,[],res,[],zz,zz,λ _=>q,by rw[U8,hw];exact E9 _,rfl,hc,zz,.inl rfl,by simpa using hk⟩
end
abbrev FH (l:List Int):AV:=.fn (.func 127) [] [.pv [AA l]]
theorem I4 (l:List Int):AK 86 [AA l] [] (FH l) []:=by
 refine mJ.s.ai ?_;refine rk (s:=?s1) [1] [16] rfl ?o1 ?q1
 case o1=>simp;rfl
 refine rk (s:=?s2) [2] [16] rfl ?o2 ?q2
 case o2=>simp;rfl
 exact Bx [] [16]
theorem l8 (l:List Int) (hl:l.length<=1099511627776):AK 126 [FH l] [] (.rs 0 0 l.length) [some ⟨1,AE l,0⟩]:=by
 refine jD.s.ai ?_;refine rk (s:=?s1) [0] [] rfl ?o1 ?q1
 case o1=>simp;rfl
 refine rk (s:=?s2) [2] [32] rfl ?o2 ?q2
 case o2 =>
  simp;refine Ct (cT l hl) ?_;simp[AC];rfl
 exact Bx [32] []
theorem IY (l:List Int) (hl:l.length<=1099511627776):AK 85 [FH l] [] (.rs 0 0 l.length) [some ⟨1,AE (Dx l),0⟩]:=by
 refine kK.s.ai ?_;refine rk (s:=?s1) [0] [] rfl ?o1 ?q1
 case o1=>simp;rfl
 refine rk (s:=?s2) [3] [32] rfl ?o2 ?q2
 case o2 =>
  simp;refine Ct (l8 l hl) ?_;simp[AC];rfl
 refine rk (s:=?s3) [3] [32] rfl ?o3 ?q3
 case o3 =>
  simp;refine B6 (i:=32) rfl (e':=⟨1,DS l,0⟩) (by simp[AC,DS]) (Pp l zy) zz zz ?_
  simp[AC,DS];rfl
 refine rk (s:=?s4) [2] [32] rfl ?o4 ?q4
 case o4=>simp;rfl
 exact Bx [32] []
variable {k:Nat}
abbrev Cx (P:List (List Int)):AV:=.vs 1 false (P.map λ w=>[AA w])
def CR (f:Int->Int):List AV:=(List.range 64).map λ (k:Nat)=>AV.I (f (k:Int))
theorem Gm (f:Int->Int):(CR f).length=64:=by simp[CR]
theorem kS:CR (λ _=>0)=List.replicate 64 (AV.I 0):=by simp[CR,List.map_const']
theorem K0 (f:Int->Int) (hk:k<64):(CR f).drop k=AV.I (f k)::(CR f).drop (k+1):=by
 rw[QQ (by rw[Gm];exact hk)]
 simp[CR]
theorem pP (f:Int->Int) (hk:k<64) (v:Int):Ax (CR f) k [AV.I v]=CR λ j=>if j=k then v else f j:=by
 apply List.ext_getElem?;intro i;unfold Ax;rcases Vf i k with h | h | h
 .rw [QG,QC (by simp[Gm];omega),Un,if_pos h]
  simp[CR,show i<64 by omega,show ¬ ((i:Int)=k) by omega]
 .subst h
  rw[QG,Qs (by simp[Gm];omega),QC (by simp[Gm];omega)]
  simp[CR,hk,UZ (Nat.le_of_lt hk)]
 .rw [Qs (by simp[Gm];omega)]
  by_cases h2:i<64
  .simp [CR,h2,UZ (Nat.le_of_lt hk),show ¬ ((i:Int)=k) by omega]
   rw[List.getElem?_range zy]
   simp
   congr 1
   omega
  .simp [CR,UZ (Nat.le_of_lt hk)]
   rw[QS zw,QS zw]
   rfl
theorem Yg (f:Int->Int) (hk:k<64) (v:Int):List.take k (CR f)++AV.I v::List.drop (k+1) (CR f)=CR λ j=>if j=k then v else f j:=by
 have:=pP f hk v
 simpa [Ax] using this
@[simp] theorem yM {ρ:List (Nat × Nat)} {sn:List Nat} {h:Nat->Option AD} {f:Int->Int}:(CR f).map (conv ρ sn h 4)=CR f:=by
 unfold CR;rw[Ub];rfl
@[simp] theorem xU {nl:List (Nat × Nat)} {f:Int->Int}:An nl ⟨64,[CR f],0⟩ ⟨64,[CR f],0⟩:=An.rfl' (Qn _)
theorem lX (P:List (List Int)) (i:Nat) (h:i<P.length) (k:Int):CC (P.take (i+1)) k=CC (P.take i) k+if P[i].head? = some k then 1 else 0:=by
 unfold CC;rw[Ql h,List.countP_append];simp[List.countP_cons]
theorem d6 (P:List (List Int)) (i:Nat) (h:i<P.length) (k:Int):Bt (P.take (i+1)) k=Bt (P.take i) k+P[i].dropLast.count k:=by
 unfold Bt;rw[Ql h,List.flatMap_append,UV];simp
theorem dU (P:List (List Int)) (k:Int):CC P k<=P.length:=List.countP_le_length
theorem eQ {P:List (List Int)} {m:Nat} (h:∀ w∈P,w.length<=m) (k:Int):Bt P k<=m*P.length:=by
 unfold Bt;refine QF List.count_le_length ?_
 induction P with
 | nil=>simp
 | cons w P ih =>
   rw[U4,Qm,QV,Nat.mul_add,Nat.mul_one];have h1:=ih λ x hx=>h x (Qg _ hx);have h2:=h w (Qi ..);rw[Ve];omega
theorem bY (l:List Int) (j:Nat) (h:j<l.length) (k:Int):(l.take (j+1)).count k=(l.take j).count k+if l[j]=k then 1 else 0:=by
 rw[Ql h,UV];simp[List.count_cons]
theorem oO (P:List (List Int)) (i:Nat) (h:i<P.length) (q:P[i]≠[]):Cc (P.take (i+1))=Cc (P.take i)++[P[i].getLast q]:=by
 unfold Cc;rw[Ql h,List.filterMap_append];simp[List.getLast?_eq_some_getLast q]
def IT (g:Gr) (seeds order caps:List Int) (P:List (List Int)) (ends:List Int):Prop :=
 (∀ w∈P,Fp g seeds order w)/\FS caps P/\Dl (Cc P)=Dl ends
def LC (caps:List Int) (P:List (List Int)) (k:Nat):Prop:=∀ h:k<caps.length,(CC P k:Int)<=caps[k]/\(Bt P k:Int)<=max 0 (caps[k] - 1)
theorem Y9 {c:List Int} {P:List (List Int)}:FS c P ↔ ∀ k,LC c P k:=Iff.rfl
open Classical in
theorem gF (g:Gr) (seeds q order:List Int) (P:List (List Int)) (u:List Int) (hg:g.edges.length<=500) (hs:seeds.length<=140737488355328) (ho:order.length<=140737488355328)
  (hy:∀ k∈order,0<=k/\k<64) (cq:q.length<=64) (a9:∀ c∈q,0<=c/\c<=1000) (hP:P.length<=100000) (hz:∀ w∈P,w.length<=100000) (hE:u.length<=1099511627776) :
  AK 84 [Dn g seeds q order,Cx P,AA u] [] (.B (decide (IT g seeds order q P u))) []:=by
 refine oG.s.ac ?_;show Ad _ 0 _ _ ⟨89,[(0,Dn g seeds q order),(1,Cx P),(2,AA u)],[],16⟩;refine rs [1,2,3] [] [16] ?_;refine arc ⟨89,[(1,Cx P),(2,AA u),(3,.pv (xC g seeds q order)),(7,.pt 32 0 0),(8,.pt 40 0 0)],[(32,some ⟨64,[CR λ _=>0],0⟩),(40,some ⟨64,[CR λ _=>0],0⟩)],48⟩ ?_ ?_
 .rw [kS]
  simp;exact Le.keep rfl (Qk _) zz (by simp[List.replicate])
 refine rk (s:=?s3) [1,2,3,7,8,9] [32,40] rfl ?o3 ?q3
 case o3=>simp;rfl
 refine AB (rk (s:=?s4) [2,3,7,8,9,16,17,18] [32,40] rfl ?o4 ?q4)
 case o4=>simp;rfl
 refine AT ?_
 let B:Nat->Int->Int:=λ i k=>CC (P.take i) k
 let U:Nat->Int->Int:=λ i k=>Bt (P.take i) k
 let L:Nat->List Int:=λ i=>Cc (P.take i)
 have ag:B 0=λ _=>0:=by funext k;simp[B,CC]
 have ai:U 0=λ _=>0:=by funext k;simp[U,Bt]
 have an:L 0=[]:=by simp[L,Cc]
 refine As (ι:=Nat) (λ i=>⟨89,[(2,AA u),(3,.pv (xC g seeds q order)),(7,.pt 32 0 0),(8,.pt 40 0 0),(9,.rs 16 0 i),(16,Cx P),(17,.I P.length),(18,.I i)],[(32,some ⟨64,[CR (B i)],0⟩),(40,some ⟨64,[CR (U i)],0⟩),(16,some ⟨1,AE (L i),0⟩)],80⟩)
  (λ i=>i<=P.length /\ ∀ w∈P.take i,Fp g seeds order w) (λ i=>P.length - i) 0 zz (Le.lst [(32,32),(40,40)] [] [(16,1)] rfl zz zz zz zz zz zz zz (by simp[Up]) (by simp[ag,ai,an])) ?_
 rintro i ⟨hi,hp⟩
 have h0:(L i).length=i:=by
  have h1:=MP (P:=P.take i) λ w hw=>by obtain⟨k,hk,_⟩:=(hp w hw).1;rintro rfl;simp at hk
  rw[QU,UZ hi] at h1;exact h1
 refine rk (s:=?s5) [2,3,7,8,9,16,17,18,19] [32,40,16] rfl ?o5 ?q5
 case o5=>simp;rfl
 refine AB (AI _ rfl (λ h6=>?_) λ h6=>?_)
 .simp at h6
  have au:=w6 (x:=((i:Int)+1));refine AN (AB (AT ?_));obtain⟨w,ha⟩:=AR (P[i]);have d3:w.length<=100000:=by rw[ha];exact hz _ (Qj h6)
  refine rk (s:=?s7) [2,3,7,8,9,11,16,17,18] [32,40,16] rfl ?o7 ?q7
  case o7=>simp[h6,<- ha];rfl
  refine AB (rk (s:=?s8) [2,3,7,8,9,11,16,17,18,25] [32,40,16] rfl ?o8 ?q8)
  case o8 =>
   simp;refine A0 (vR g seeds q order w zy hs ho zy) ?_
   simp;rfl
  refine AI _ rfl (λ h9=>?_) λ h9=>?_
  .refine rk (s:=?s10) [6] [] rfl ?o10 ?q10
   case o10=>simp;rfl
   refine A9 ?_;have hn:¬ IT g seeds order q P u:=λ h=>by simp at h9;exact h9 (ha ▸ h.1 _ (Qj h6))
   exact⟨.inr rfl,AW.one (by simp[hn])⟩
  simp at h9;have hc:∀ j (h:j<w.length),0<=w[j]/\w[j]<64:=λ j h=>hy _ (h9.2 j h).1.1;have hf:w≠[]:=by obtain⟨k,hk,_⟩:=h9.1;rintro rfl;simp at hk
  have he:0<w.length:=U6.2 hf;obtain⟨k0,a0,hh⟩:∃ k0:Nat,w[0]=k0/\k0<64:=⟨w[0].toNat,by have:=hc 0 he;omega,by have:=hc 0 he;omega⟩
  have av:w.head? = some (k0:Int):=by rw[List.head?_eq_getElem?,Qa he,a0]
  have d0:B i k0<=100000:=by
   have:=dU (P.take i) k0;have:=List.length_take_le i P;simp only[B];omega
  have d1:0<=B i k0:=by simp only[B];omega
  have b0:=w6 (x:=B i k0+1)
  have b1:(λ j=>if j=(k0:Int) then B i k0+1 else B i j)=B (i+1):=by
   funext j
   simp only[B];rw[lX P i h6 j,<- ha,av]
   by_cases h:j=(k0:Int)
   .subst h;simp
   .simp [h,Ne.symm h]
  have b2:=K0 (B i) hh;have a1:=Yg (B i) hh (B i k0+1);rw[b1] at a1;refine AN (arc ⟨89,[(2,AA u),(3,.pv (xC g seeds q order)),(7,.pt 32 0 0),(8,.pt 40 0 0),(9,.rs 16 0 i),(11,AA w),(16,Cx P),(17,.I P.length),(18,.I i)],[(32,some ⟨64,[CR (B (i+1))],0⟩),(40,some ⟨64,[CR (U i)],0⟩),(16,some ⟨1,AE (L i),0⟩)],208⟩ ?_ ?_)
  .simp [he,a0,hh,b2,b0,Gm,a1]
   refine⟨zy,zy,?_⟩
   exact Cp
  obtain⟨d,hd⟩:=AR (w.dropLast);have b3:d.length=w.length - 1:=by rw[hd,Ve]
  have b4:∀ f:Int->List AV,List.take (w.length - 1) (List.map f w)=List.map f d:=λ f=>by rw[<- UX,hd,List.dropLast_eq_take]
  have a2:IntKind.i64.wrap ((w.length:Int) - 1)=((w.length - 1:Nat):Int):=by rw[w6];omega
  refine AB (arc ⟨89,[(2,AA u),(3,.pv (xC g seeds q order)),(7,.pt 32 0 0),(8,.pt 40 0 0),(9,.rs 16 0 i),(11,AA w),(16,Cx P),(17,.I P.length),(18,.I i),(37,AA d),(38,.I d.length),(39,.I 0)],[(32,some ⟨64,[CR (B (i+1))],0⟩),(40,some ⟨64,[CR (U i)],0⟩),(16,some ⟨1,AE (L i),0⟩)],264⟩ ?_ ?_)
  .simp [a2,b4,b3]
   exact Cp
  refine AT ?_
  let V:Nat->Int->Int:=λ j k=>U i k+((d.take j).count k:Nat)
  have b5:V 0=U i:=by funext k;simp[V]
  refine As (ι:=Nat) (λ j=>⟨89,[(2,AA u),(3,.pv (xC g seeds q order)),(7,.pt 32 0 0),(8,.pt 40 0 0),(9,.rs 16 0 i),(11,AA w),(16,Cx P),(17,.I P.length),(18,.I i),(37,AA d),(38,.I d.length),(39,.I j)],[(32,some ⟨64,[CR (B (i+1))],0⟩),(40,some ⟨64,[CR (V j)],0⟩),(16,some ⟨1,AE (L i),0⟩)],264⟩)
   (λ j=>j<=d.length) (λ j=>d.length - j) 0 (Qn _) (Le.keep rfl (Qk _) zz (by simp[b5])) ?_
  intro j hj;refine rk (s:=?s13) [2,3,7,8,9,11,16,17,18,37,38,39,40] [32,40,16] rfl ?o13 ?q13
  case o13=>simp;rfl
  refine AB (AI _ rfl (λ hl=>?_) λ hl=>?_)
  .simp at hl
   have b6:=w6 (x:=((j:Int)+1));have d7:d[j]=w[j]' zy:=by simp[hd]
   obtain⟨k1,a3,hm⟩:∃ k1:Nat,d[j]=k1/\k1<64:=⟨d[j].toNat,by have:=hc j zy;omega,by have:=hc j zy;omega⟩
   have d2:0<=V j k1/\V j k1<=100000000000000:=by
    have h1:=eQ (P:=P.take i) (m:=100000) (λ x hx=>hz x (QR hx)) k1;have h2:=UD i P;have h3:(d.take j).count (k1:Int)<=d.length:=QF List.count_le_length (UD j d);have h4:100000*(P.take i).length<=100000*P.length:=Nat.mul_le_mul_left _ h2;have h5:100000*P.length<=100000*100000:=Nat.mul_le_mul_left _ hP;simp only[V,U];omega
   have bo:=w6 (x:=V j k1+1)
   have bs:(λ k=>if k=(k1:Int) then V j k1+1 else V j k)=V (j+1):=by
    funext k
    simp only[V];rw[bY d j hl k,a3]
    by_cases h:k=(k1:Int)
    .subst h;simp;omega
    .simp [h,Ne.symm h]
   have bt:=K0 (V j) hm;have a4:=Yg (V j) hm (V j k1+1);rw[bs] at a4;refine AN (AB (AT (rk (s:=?s15) [2,3,7,8,9,11,13,16,17,18,37,38,39] [32,40,16] rfl ?o15 ?q15)))
   case o15=>simp[hl,a3];rfl
   refine Al (s:=?s16) rfl ?o16 ?q16
   case o16 =>
    simp[hm,bt,bo,Gm,a4];refine⟨zy,zy,?_⟩
    rfl
   refine Al (s:=?s17) rfl ?o17 ?q17
   case o17=>simp[b6];rfl
   exact⟨j+1,zy,zy,BP [(32,32),(40,40),(16,16)] []⟩
  simp at hl;obtain rfl:j=d.length:=zy
  have c0:V d.length=U (i+1):=by
   funext k
   simp only[V,U];rw[d6 P i h6 k,<- ha,<- hd,Qb (Qk _)];simp
  have c1:L (i+1)=L i++[w.getLast hf]:=by
   have:=oO P i h6 (ha ▸ hf);simp only[L];rw[this]
   congr 3
   exact ha.symm
  have c2:w[w.length - 1]' zy=w.getLast hf:=(List.getLast_eq_getElem hf).symm
  have c3:∀ f:Int->List AV,List.take i (List.map f (L i))=List.map f (L i):=λ f=>Qb (by simp[h0])
  refine Ar (hit (Al (s:=?s18) rfl ?o18 ?q18))
  case o18 =>
   simp[a2,hf,show w.length - 1<w.length by omega,c2,h0,c3]
   refine⟨zy,zy,?_⟩
   rfl
  refine Al (s:=?s19) rfl ?o19 ?q19
  case o19=>simp[au];rfl
  refine⟨i+1,⟨h6,λ x hx=>?_⟩,zy,AJ [(32,32),(40,40),(336,16)] [] zz (by simp[c0,c1])⟩
  rw[Ql h6] at hx;rcases Qo.1 hx with hx | hx
  .exact hp x hx
  .rw [Qt] at hx
   rw[hx,<- ha];exact h9
 simp at h6;obtain rfl:i=P.length:=zy
 have c4:∀ k,B P.length k=CC P k:=λ k=>by simp[B]
 have c5:∀ k,U P.length k=Bt P k:=λ k=>by simp[U]
 have c6:L P.length=Cc P:=by simp[L]
 have cb:∀ w∈P,Fp g seeds order w:=λ w hw=>hp w (by simpa using hw)
 rw[c6] at h0 ⊢;refine Ar (hit (AB (rk (s:=?s20) [2,7,8,9,60,61,62] [32,40,16] rfl ?o20 ?q20)))
 case o20=>simp;rfl
 refine AT ?_
 refine As (ι:=Nat) (λ k=>⟨89,[(2,AA u),(7,.pt 32 0 0),(8,.pt 40 0 0),(9,.rs 16 0 P.length),(60,AA q),(61,.I q.length),(62,.I k)],[(32,some ⟨64,[CR (B P.length)],0⟩),(40,some ⟨64,[CR (U P.length)],0⟩),(16,some ⟨1,AE (Cc P),0⟩)],120⟩)
  (λ k=>k<=q.length /\ ∀ x,x<k->LC q P x) (λ k=>q.length - k) 0 zz (Cp) ?_
 rintro k ⟨hk,hq⟩
 refine rk (s:=?s21) [2,7,8,9,60,61,62,63] [32,40,16] rfl ?o21 ?q21
 case o21=>simp;rfl
 refine AB (AI _ rfl (λ h7=>?_) λ h7=>?_)
 .simp at h7
  have cd:=w6 (x:=((k:Int)+1));have dd:=a9 _ (Qj h7);have cl:=w6 (x:=q[k] - 1);have ht:=K0 (B P.length) (k:=k) zy
  have hu:=K0 (U P.length) (k:=k) zy
  rw[c4] at ht;rw[c5] at hu;have hr:k<64:=zy
  have a5:LC q P k↔((CC P k:Int)<=q[k]/\(Bt P k:Int)<=max 0 (q[k] - 1)):=⟨λ h=>h h7,λ h _=>h⟩;refine AN (AB (AT (rk (s:=?s22) [2,7,8,9,14,15,60,61,62] [32,40,16] rfl ?o22 ?q22)))
  case o22=>simp[h7];rfl
  refine arc ⟨89,[(2,AA u),(7,.pt 32 0 0),(8,.pt 40 0 0),(9,.rs 16 0 P.length),(60,AA q),(61,.I q.length),(62,.I k),(80,.B (decide (¬ LC q P k)))],[(32,some ⟨64,[CR (B P.length)],0⟩),(40,some ⟨64,[CR (U P.length)],0⟩),(16,some ⟨1,AE (Cc P),0⟩)],280⟩ ?_ ?_
  .simp [hr,ht,hu,Gm]
   refine⟨zy,?_⟩
   refine Cs (λ hb=>?_) (λ hb=>?_)<;>(try rw[hb])<;>(try simp at hb)<;>simp[hb,hr,ht,hu,Gm,cl]
   .exact AJ [(32,32),(40,40),(16,16)] [] (by simp<;>exact BA (by rw[Qv];simp[a5];omega))
   .refine ⟨zy,?_⟩
    exact AJ [(32,32),(40,40),(16,16)] [] (by simp<;>exact BA (by rw[Qv];simp[a5,hb];split<;>omega))
  refine AI _ rfl (λ h8=>?_) λ h8=>?_
  .refine rk (s:=?s23) [6] [] rfl ?o23 ?q23
   case o23=>simp;rfl
   refine A9 ?_;have hn:¬ IT g seeds order q P u:=λ h=>by simp at h8;exact h8 (Y9.1 h.2.1 k)
   exact⟨.inr rfl,AW.one (by simp[hn])⟩
  simp at h8;refine AN (Al (s:=?s24) rfl ?o24 ?q24)
  case o24=>simp[cd];rfl
  refine⟨k+1,⟨h7,λ x hx=>?_⟩,zy,BP [(32,32),(40,40),(16,16)] []⟩
  rcases QI.1 hx with h | rfl
  .exact hq x h
  .exact h8
 simp at h7;have hv:FS q P:=Y9.2 λ x hx=>hq x zy hx
 have cp:(Cc P).length<=1099511627776:=zy
 have a6:∀ f:Int->List AV,List.take P.length (List.map f (Cc P))=List.map f (Cc P):=λ f=>Qb (by simp[h0])
 have a7:∀ (f:Int->List AV) (r:Int->Int->Bool),List.take P.length (List.map f ((Cc P).mergeSort r))=List.map f ((Cc P).mergeSort r):=λ f r=>Qb (by simp[List.length_mergeSort,h0])
 refine Ar (hit (rx (s:=?s25) [6] [] [] rfl ?o25 ?q25))
 case o25 =>
  simp;refine IU [16] zz (I4 (Cc P)) (by simp[a6,h0]) ?_
  simp[a6,h0];refine Ct (IY (Cc P) cp) ?_;simp[AC];refine A0 (I4 u) ?_;simp;refine Ct (IY u hE) ?_;simp[AC];refine F6 [144,168] (TO (Dx (Cc P)) (Dx u) (by rw[IN];omega)) (by simp[h0,a7,YD]) (.sc _) ?_
  simp;rfl
 refine A9 ?_;have a8:IT g seeds order q P u↔Dx (Cc P)=Dx u:=⟨λ h=>h.2.2,λ h=>⟨cb,hv,h⟩⟩;exact⟨.inr rfl,AW.one (by simp[a8])⟩
section
variable {P:Program} {np id:Nat} {h:Nat->Option AD} {K:AV->List Nat->List (Nat × Option AD)->Prop} {s s' l k:Nat} {f:Bool} {rows:List (List AV)}
@[simp] theorem zH:aK P np id (.slc s true true false) [.vs s' f rows,.sc (.int .i64 (l:Int)),.sc (.int .i64 (k:Int))] h K=(l<=k/\k<=rows.length/\s'=s/\K (.vs s false ((rows.drop l).take (k - l))) [] []):=by
 rw[FT];refine propext ⟨?_,?_⟩
 .rintro ⟨l',r,m,n,h1,h2,h4,h5,h6,h7,h3,q,h8,h9⟩
  simp at h4 h1;subst h1;obtain⟨rfl,rfl⟩:l=l'/\k=r:=zy
  exact⟨h2,h3,h8,by simpa using h9⟩
 .rintro ⟨h1,h2,h3,h4⟩
  exact⟨l,k,0,rows.length,rfl,h1,zz,(λ h=>by cases h),(λ h=>by cases h),(λ h=>by cases h),h2,(λ h=>by cases h),h3,by simpa using h4⟩
end
theorem VI {k:Int} {l:List Int}:∀ {s:List Int},(k::l).Sublist s↔k∈s/\l.Sublist (s.drop (s.idxOf k+1))
 | []=>zz
 | x::s=>by
   rw[gL]
   by_cases h:x=k
   .subst h
    simp[List.idxOf_cons_self]
   .rw [if_neg h,VI]
    have hb:(x == k)=false:=by simpa using h
    simp[List.idxOf_cons,Ne.symm h,hb]
theorem Rl (key:Int):∀ (o:List Int),F1 o key=o.take (o.idxOf key)
 | []=>rfl
 | x::o=>by
   rw[Sq]
   by_cases h:x=key
   .subst h
    simp[List.idxOf_cons_self]
   .rw [if_neg h,Rl key o]
    have hb:(x == key)=false:=by simpa using h
    simp[List.idxOf_cons,hb]
open Classical in
theorem nK (g:Gr) (seeds h0 order l:List Int) (key:Int) (ho:order.length<=1000000) (hl:l.length<=140737488355328) (hk:key∈order) :
  AK 83 [Dn g seeds h0 order,AA l,.I key] [] (.B (decide (EM order l key))) []:=by
 refine oX.s.ac ?_;show Ad _ 0 _ _ ⟨36,[(0,Dn g seeds h0 order),(1,AA l),(2,.I key)],[],16⟩;obtain⟨e,he⟩:=AR (order.idxOf key);have hd:e<order.length:=by rw[he];exact List.idxOf_lt_length_of_mem hk
 have h8:CZ order key=e:=by unfold CZ;rw[if_pos hk,he]
 have h1:=N0 order key zy
 rw[h8] at h1;have hA:F1 order key=order.take e:=by rw[Rl,he]
 refine rs [1,2,3] [] [16] ?_;refine rs [1,2,3,7] [] [] ?_;refine rx (s:=?s3) [1,3,7,8] [] [] rfl ?o3 ?q3
 case o3=>simp;refine A4 h1 zz ?_;simp;rfl
 refine AB (rs [3,7,8,16,17,18] [] [] ?_);refine AT ?_
 refine As (ι:=Nat × Nat) (λ p=>⟨36,[(3,.pv (xC g seeds h0 order)),(7,.I p.2),(8,.I e),(16,AA l),(17,.I l.length),(18,.I p.1)],[],104⟩)
  (λ p=>p.1<=l.length/\p.2<=e/\(EM order l key↔(l.drop p.1).Sublist ((order.take e).drop p.2))) (λ p=>l.length - p.1) (0,0) ⟨Qn _,Qn _,by unfold EM;rw[hA];simp⟩ (BP [] []) ?_
 rintro⟨i,a⟩ ⟨hi,ha,hq⟩
 simp only at hi ha hq;refine rs [3,7,8,16,17,18,19] [] [] ?_;refine AB (AI _ rfl (λ h6=>?_) λ h6=>?_)
 .simp at h6
  have h9:=w6 (x:=((i:Int)+1));rw[QQ h6,VI] at hq;obtain⟨s,hs⟩:=AR ((order.take e).drop a);have hf:s.length=e - a:=by rw[hs];simp;omega
  have h3:∀ f:Int->List AV,List.take (e - a) (List.drop a (List.map f order))=List.map f s:=λ f=>by
   rw[hs,List.drop_take,UX,Vi]
  have h2:=N0 s l[i] zy
  rw[<- hs] at hq;refine AN (AB (AT (rx (s:=?s7) [3,7,8,10,16,17,18] [] [] rfl ?o7 ?q7)))
  case o7=>simp[h6];rfl
  refine rx (s:=?s8) [3,7,8,11,16,17,18] [] [] rfl ?o8 ?q8
  case o8 =>
   simp[ha,show e<=order.length by omega]
   refine A4 h2 (by simp[h3]) ?_
   simp;rfl
  refine AB (rs [3,7,8,11,16,17,18,30] [] [] ?_);refine AI _ rfl (λ u=>?_) λ u=>?_
  .simp at u
   refine rs [6] [] [] ?_;refine A9 ?_
   have hn:¬ EM order l key:=λ h=>by
    have hm:=(hq.1 h).1;unfold CZ at u;rw[if_pos hm] at u;omega
   exact⟨.inr rfl,AW.one (by simp[hn])⟩
  simp at u
  have hm:l[i]∈s:=by
   unfold CZ at u;split at u
   .assumption
   .omega
  have hb:s.idxOf l[i]<s.length:=List.idxOf_lt_length_of_mem hm;have h4:CZ s l[i]=(s.idxOf l[i]:Int):=by unfold CZ;rw[if_pos hm]
  obtain⟨q,h5⟩:∃ q,q=s.idxOf l[i]:=⟨_,rfl⟩;rw[<- h5] at h4 hb;have hc:IntKind.i64.wrap (CZ s l[i]+1)=(q:Int)+1:=by rw[h4,w6]
  have h7:=w6 (x:=(a:Int)+((q:Int)+1));refine AN (Al (s:=?s12) rfl ?o12 ?q12)
  case o12=>simp[hc,h7];rfl
  refine Al (s:=?s13) rfl ?o13 ?q13
  case o13=>simp[h9];rfl
  refine⟨(i+1,a+(q+1)),⟨by simp only;omega,by simp only;omega,?_⟩,by simp only;omega,AJ [] [] (by simp[h7])⟩
  simp only;rw[hq,<- h5,hs,List.drop_drop];simp only[<- hs,hm,true_and]
 simp at h6;obtain rfl:i=l.length:=zy
 have hy:EM order l key:=hq.2 zz
 refine Ar (hit (rs [6] [] [] ?_));exact A8 (AW.one (by simp[hy]))
theorem Su {g:Gr} {p:Aq} {n:Int} (hp:BD n p):∀ c∈Ao g p,0<=c/\c<=1000:=by
 intro c hc;obtain⟨d,_,rfl⟩:=Qh.1 hc;exact O8 hp d
theorem I1 {g:Gr} {S:List Int} (hg:0<=g.size):(AL g S).length<=g.size.toNat:=by
 have h:=HT (a:=AL g S) (b:=(List.range g.size.toNat).map λ (i:Nat)=>(i:Int)) (GJ g S) λ x hx=>by
  have:=HN hx;exact Qh.2 ⟨x.toNat,QP.2 zy,by show ((x.toNat:Nat):Int)=x;omega⟩
 simpa using h
theorem Sm (l:List Int) (n:Int) (hl:l.length<=140737488355328):AK 15 [AA l,.I n] [] (.B (decide (n∈l))) []:=by
 refine vB.s.ac ?_;show Ad _ 0 _ _ ⟨18,[(0,AA l),(1,.I n)],[],16⟩;refine rs [0,1] [] [] ?_;refine AB (rs [0,1,5] [] [] ?_);refine AT (As (ι:=Nat) (λ i=>⟨18,[(0,AA l),(1,.I n),(5,.I i)],[],32⟩) (λ i=>i<=l.length/\n∉l.take i) (λ i=>l.length - i) 0 zz (BP [] []) ?_)
 rintro i ⟨hi,hp⟩
 refine AB (rs [0,1,5,9] [] [] ?_);refine AI _ rfl (λ h4=>?_) λ h4=>?_
 .simp at h4
  have hw:=w6 (x:=((i:Int)+1));refine AN (AB (AT (rx (s:=?s5) [0,1,5,17] [] [] rfl ?o5 ?q5)))
  case o5=>simp[h4];rfl
  refine AI _ rfl (λ h7=>?_) λ h7=>?_
  .simp at h7
   refine rs [4] [] [] ?_;refine A9 ?_;have hm:n∈l:=h7 ▸ Qj h4;exact⟨.inr rfl,AW.one (by simp[hm])⟩
  simp at h7;refine AN (Ap rfl ?_);simp[hw];refine⟨i+1,⟨h4,?_⟩,zy,BP [] []⟩
  rw[Ql h4,Qo,Qt];exact λ h=>h.elim hp λ e=>h7 e.symm
 simp at h4;have hn:n∉l:=by rw[Qb zy] at hp;exact hp
 refine Ar (hit (rs [4] [] [] ?_));exact A8 (AW.one (by simp[hn]))
abbrev nC (n:FG):List AV:=[.I n.nodes,BO n.arcs]
abbrev eN (n:FG):AV:=.agg (nC n)
theorem Ro (f:FuncId) (aA:List AV) (q:Ed->Bool) (l:List Ed) (hl:l.length<=1099511627776) (hs:E0 aA) (hc:∀ e∈l,AK f (eE e::aA) [] (.B (q e)) []):AK 161 [BO l,.fn (.func f) [] aA] [] (.I (BU l q)) []:=by
 have h5:∀ ρ sn h,aA.map (conv ρ sn h 2)=aA:=λ _ _ _=>hs _ _ _ 1
 have u:∀ ρ sn h,aA.map (conv ρ sn h 3)=aA:=λ _ _ _=>hs _ _ _ 2
 have h1:∀ ρ sn h,aA.map (conv ρ sn h 4)=aA:=λ _ _ _=>hs _ _ _ 3
 refine m6.s.ai ?_;refine AB (AY ?_);refine AB (AB (AY ?_));refine AT (As (ι:=Nat) (λ k=>⟨19,[(0,BO l),(1,.fn (.func f) [] aA),(7,.I l.length),(8,.I k)],[],16⟩) (λ k=>k<=l.length /\ ∀ i,i<k -> ∀ h:i<l.length,q l[i]=false) (λ k=>l.length - k) (0) ?_ (A5 [] (by simp[u])) ?_)
 .simp
 rintro k ⟨hk,hp⟩
 refine AB (AY ?_);refine AB (AI _ rfl (λ h4=>?_) λ h4=>?_)
 .try simp at h4
  have h2:=w6 (x:=((k:Int)+1));have h3:=hc l[k] (Qj h4);refine AN (AB (AT (AB (Al (s:=?s5) rfl ?o5 ?q5))))
  case o5=>simp[h4];rfl
  refine AB (Al (s:=?s6) rfl ?o6 ?q6)
  case o6 =>
   simp[h4];refine A4 h3 ?_ ?_
   .simp [h1]
   simp;rfl
  refine AI _ rfl (λ h7=>?_) λ h7=>?_
  .try simp at h7
   refine AB (AY ?_);exact A8 (AW.one (by simp[Lc h4 hp h7]))
  try simp at h7
  refine AN (Al (s:=?s9) rfl ?o9 ?q9)
  case o9=>simp[h2];rfl
  refine⟨k+1,⟨h4,λ i hi=>?_⟩,zy,A5 [] (by simp[u])⟩
  rcases QI.1 hi with h | rfl
  .exact hp i h
  .exact λ _=>h7
 try simp at h4
 have h0:∀ i,i<l.length -> ∀ h:i<l.length,q l[i]=false:=λ i hi=>hp i zy
 refine Ar (hit (AB (AY ?_)));exact A8 (AW.one (by simp[Lr h0]))
theorem uR (f:FuncId) (aA:List AV) (q:Ed->Bool) (l:List Ed) (hl:l.length<=1099511627776) (hs:E0 aA) (hc:∀ e∈l,AK f (eE e::aA) [] (.B (q e)) []):AK 158 [BO l,.fn (.func f) [] aA] [] (.B (l.any q)) []:=by
 have u:∀ ρ sn h,aA.map (conv ρ sn h 2)=aA:=λ _ _ _=>hs _ _ _ 1
 have h0:∀ ρ sn h,aA.map (conv ρ sn h 3)=aA:=λ _ _ _=>hs _ _ _ 2
 have h1:∀ ρ sn h,aA.map (conv ρ sn h 4)=aA:=λ _ _ _=>hs _ _ _ 3
 refine fJ.s.ai ?_;refine AB (AY ?_)
 have hi:decide (0<=BU l q)=l.any q:=by
  unfold BU
  by_cases h:l.findIdx q<l.length
  .rw [if_pos h]
   have:=Vd (w:=h);have h2:l.any q=true:=UB.2 ⟨_,Qj h,this⟩;rw[h2];simp
  .rw [if_neg h]
   have:l.findIdx q=l.length:=by have:=List.findIdx_le_length (xs:=l) (p:=q);omega
   rw[U3] at this
   have h2:l.any q=false:=by
    rw[List.any_eq_false];intro x hx;simp[this x hx]
   rw[h2];simp
 refine arc ⟨9,[(4,.B (l.any q))],[],16⟩ ?_ ?_
 .simp
  refine A4 (Ro f aA q l hl hs hc) ?_ ?_
  .simp [u,h0,h1]
  simp;exact A5 [] (by simp;exact BA hi)
 exact Ca
theorem oI (n:FG) (a:Ed) (h2:2<=n.nodes) (h3:n.nodes<=130):AK 157 [eE a,.pv (nC n)] [] (.B (!decide (G5 n.nodes a))) []:=by
 refine lJ.s.ai ?_;have hw:=w6 (x:=n.nodes - 1);refine rs [1,2] [] [16] ?_;refine arc ⟨43,[(3,.B (!decide (G5 n.nodes a)))],[],400⟩ ?_ ?_
 .simp [hw]
  repeat' first
   | (refine Dc 58 rfl ?_;refine A4 (GF ..) rfl ?_;simp[hw])
   | (refine Cs (λ hb=>?_) (λ hb=>?_)<;>(try rw[hb])<;>(try simp at hb)<;>simp[hb,hw])
  all_goals exact A5 [] (by simp<;>exact BA (by (try simp at *);grind [G5]))
 exact Ca
theorem K7 (n:FG) (hl:n.arcs.length<=1099511627776):AK 116 [eN n] [] (.I (if C9 n then 0 else 16)) []:=by
 refine qG.s.ai ?_;refine rs [1] [] [16] ?_;refine rs [1,3] [] [] ?_;refine AB (arc ⟨21,[(20,.B (!decide (C9 n)))],[],300⟩ ?_ ?_)
 .by_cases h2:2<=n.nodes/\n.nodes<=130
  .have hcf:=uR 157 [.pv (nC n)] (λ a=>!decide (G5 n.nodes a)) n.arcs hl (λ ρ sn h k=>zz) (λ e _=>oI n e h2.1 h2.2)
   simp;refine A4 (GF ..) rfl ?_;simp[h2]
   by_cases h3:n.arcs.length<=1200
   .simp [show ¬ (1200<n.arcs.length) by omega,show ¬ (1200<(n.arcs.length:Int)) by omega]
    refine A0 hcf ?_;simp;refine A5 [] (by simp<;>exact BA (by rw[Qv];simp[C9,h2,h3]))
   .simp [show (1200<(n.arcs.length:Int)) by omega]
    refine A5 [] (by simp[C9,h3])
  .simp
   refine A4 (GF ..) rfl ?_;have q:(decide (2<=n.nodes) && decide (n.nodes<=130))=false:=by simpa using λ h=>zy
   simp[q];have hn:¬ C9 n:=λ h=>h2 ⟨h.1,h.2.1⟩;refine A5 [] (by simp[hn])
 refine AI _ rfl (λ h7=>?_) λ h7=>?_
 .simp at h7
  refine rs [2] [] [] ?_;exact A8 (AW.one (by simp[h7]))
 simp at h7;refine AN (rs [2] [] [] ?_);exact A8 (AW.one (by simp[h7]))
open Classical in
theorem Wh (n:FG) (side:List Int) (hl:n.arcs.length<=1099511627776) (hs:side.length<=9223372036854775807):AK 128 [eN n,AA side] [] (.B (decide (Fx n side))) []:=by
 refine pH.s.ac ?_;show Ad _ 0 _ _ ⟨24,[(0,eN n),(1,AA side)],[],16⟩;refine rs [1,2] [] [16] ?_;refine arc ⟨24,[(4,.B (decide (Fx n side)))],[],300⟩ ?_ ?_
 .have hc:=K7 n hl
  by_cases hn:C9 n
  .rw [if_pos hn] at hc
   have hw:IntKind.i64.wrap (n.nodes - 1)=n.nodes - 1:=Ih (by have:=hn.1;omega) (by have:=hn.2.1;omega)
   simp;refine A0 hc ?_;simp[hw];refine A0 (XY side 0 (n.nodes - 1) hs) ?_;simp;refine Cs (λ hb=>?_) (λ hb=>?_)<;>(try rw[hb])<;>(try simp at hb)<;>simp[hb]
   .refine A0 (My side 0 hs) ?_
    simp;refine Cs (λ q=>?_) (λ q=>?_)<;>(try rw[q])<;>(try simp at q)<;>simp[q]
    .refine A0 (My side 1 hs) ?_
     simp;exact A5 [] (by simp[Fx,hn,hb,q])
    .exact A5 [] (by simp[Fx,hn,hb,q])
   .exact A5 [] (by simp[Fx,hn,hb])
  .rw [if_neg hn] at hc
   simp;refine A0 hc ?_;simp;exact A5 [] (by simp[Fx,hn])
 exact Ca
variable {N k:Nat}
def DJ (N:Nat) (s:List Int):List (List AV):=(List.range N).map λ (k:Nat)=>[AV.B (decide ((k:Int)∈s))]
theorem JE (N:Nat) (s:List Int):(DJ N s).length=N:=by simp[DJ]
theorem mD (N:Nat):DJ N []=List.replicate N [AV.B false]:=by
 unfold DJ;simp[List.map_const']
theorem jF (hk:k<N) (s:List Int):(DJ N s)[k]? = some [AV.B (decide ((k:Int)∈s))]:=by simp[DJ,hk]
@[simp] theorem zz6 {s:List Int} (h:k<(DJ N s).length):(DJ N s)[k]=[AV.B (decide ((k:Int)∈s))]:=by simp[DJ]
theorem tJ (s:List Int):(DJ N s).set k [AV.B true]=DJ N (s++[(k:Int)]):=by
 apply List.ext_getElem?;intro i;rw[List.getElem?_set]
 by_cases h:k=i
 .subst h
  rw[if_pos rfl]
  by_cases hk:k<N
  .rw [if_pos (by rw[JE];exact hk),jF hk]
   simp
  .rw [if_neg (by rw[JE];exact hk)]
   simp[DJ,hk]
 .rw [if_neg h]
  unfold DJ;simp only[QH]
  by_cases hi:i<N
  .simp [hi,show ¬ ((i:Int)=k) by omega]
  .simp [hi]
@[simp] theorem zA {ρ:List (Nat × Nat)} {sn:List Nat} {h:Nat->Option AD} {s:List Int}:(DJ N s).map (·.map (conv ρ sn h 4))=DJ N s:=by
 unfold DJ;rw[Ub];rfl
open Classical in
theorem vA (n:FG) (side:List Int) (hl:n.arcs.length<=1099511627776) (hs:side.length<=9223372036854775807):AK 129 [eN n,AA side] [] (.I (if Fx n side then Bj n.arcs side else 0)) []:=by
 refine gM.s.ac ?_;show Ad _ 0 _ _ ⟨54,[(0,eN n),(1,AA side)],[],16⟩;refine rs [1,2] [] [16] ?_;refine AB (rx (s:=?s2) [1,2,14] [] [] rfl ?o2 ?q2)
 case o2=>simp;refine A4 (Wh n side hl hs) zz ?_;simp;rfl
 refine AI _ rfl (λ h3=>?_) λ h3=>?_
 .simp at h3
  refine rs [4] [] [] ?_;exact A8 (AW.one (by simp[h3]))
 simp at h3;have hc:=h3.1.2.2.1;have hd:=h3.1.1;have he:=h3.1.2.1;obtain⟨N,hN,hg⟩:∃ N:Nat,n.nodes=N/\N<=130:=⟨n.nodes.toNat,zy,zy⟩
 have h1:∀ k∈side,∃ j:Nat,k=j/\j<N:=λ k hk=>by
  obtain⟨i,hi,rfl⟩:=Ul hk;have:=(h3.2.1 i hi);exact⟨side[i].toNat,zy,zy⟩
 refine AN (arc ⟨54,[(1,AA side),(2,.pv (nC n)),(5,.rs 80 0 N)],[(80,some ⟨1,DJ N [],0⟩)],96⟩ ?_ ?_)
 .rw [mD]
  simp[hN];refine⟨zy,?_⟩
  exact Le.keep rfl (Qk _) (by simp[hN]) (by simp[hN])
 refine AB (rk (s:=?s5) [1,2,5,18,19,20] [80] rfl ?o5 ?q5)
 case o5=>simp;rfl
 refine AT (As (ι:=Nat) (λ i=>⟨54,[(1,AA side),(2,.pv (nC n)),(5,.rs 80 0 N),(18,AA side),(19,.I side.length),(20,.I i)],[(80,some ⟨1,DJ N (side.take i),0⟩)],120⟩) (λ i=>i<=side.length) (λ i=>side.length - i) 0 zz (Cp) ?_)
 intro i hi;refine rk (s:=?s6) [1,2,5,18,19,20,21] [80] rfl ?o6 ?q6
 case o6=>simp;rfl
 refine AB (AI _ rfl (λ h7=>?_) λ h7=>?_)
 .simp at h7
  have hw:=w6 (x:=((i:Int)+1));obtain⟨j,hj,h6⟩:=h1 _ (Qj h7)
  have h2:(DJ N (side.take i)).set j [AV.sc (.bool true)]=DJ N (side.take (i+1)):=by
   rw[Ql h7,hj];exact tJ _
  refine AN (AB (AT (rk (s:=?s8) [1,2,5,7,18,19,20] [80] rfl ?o8 ?q8)))
  case o8=>simp[h7,hj];rfl
  refine Al (s:=?s9) rfl ?o9 ?q9
  case o9=>simp[h6,JE,h2];rfl
  refine Al (s:=?s10) rfl ?o10 ?q10
  case o10=>simp[hw];rfl
  exact⟨i+1,zy,zy,BP [(80,80)] []⟩
 simp at h7;obtain rfl:i=side.length:=zy
 rw[Qb (Qk _)];refine Ar (hit (rk (s:=?s11) [1,2,5,8] [80] rfl ?o11 ?q11))
 case o11=>simp;rfl
 refine AB (rk (s:=?s12) [5,8,29,30,31] [80] rfl ?o12 ?q12)
 case o12=>simp;rfl
 refine AT (As (ι:=Nat) (λ i=>⟨54,[(5,.rs 80 0 N),(8,.I (Bj (n.arcs.take i) side)),(29,BO n.arcs),(30,.I n.arcs.length),(31,.I i)],[(80,some ⟨1,DJ N side,0⟩)],168⟩) (λ i=>i<=n.arcs.length) (λ i=>n.arcs.length - i) 0 zz (AJ [(80,80)] [] (by simp[Bj]) zz) ?_)
 intro i hi;have hh:=TT (n:=n.nodes) (side:=side) (arcs:=n.arcs.take i) λ a ha=>h3.1.2.2.2 a (QR ha);have hm:=UD i n.arcs;refine rk (s:=?s13) [5,8,29,30,31,32] [80] rfl ?o13 ?q13
 case o13=>simp;rfl
 refine AB (AI _ rfl (λ h7=>?_) λ h7=>?_)
 .simp at h7
  have hw:=w6 (x:=((i:Int)+1));have h0:=oW n.arcs side i h7;have q:=h3.1.2.2.2 _ (Qj h7);have h4:IntKind.i64.wrap (Bj (n.arcs.take i) side+n.arcs[i].v)=Bj (n.arcs.take i) side+n.arcs[i].v:=Ih (by have:=q.2.2.2.2.2.2.2.1;omega) (by have:=q.2.2.2.2.2.2.2.2;omega)
  obtain⟨x,hx⟩:=AR (n.arcs[i]);rw[<- hx] at h0 q h4;obtain⟨f,hf,h9⟩:∃ f:Nat,x.f=f/\f<N:=⟨x.f.toNat,by have:=q.1;omega,by have:=q.1;have:=q.2.1;omega⟩
  obtain⟨u,hu,h5⟩:∃ u:Nat,x.t=u/\u<N:=⟨x.t.toNat,by have:=q.2.2.1;omega,by have:=q.2.2.1;have:=q.2.2.2.1;omega⟩
  refine AN (CX ⟨54,[(5,.rs 80 0 N),(8,.I (Bj (n.arcs.take (i+1)) side)),(29,BO n.arcs),(30,.I n.arcs.length),(31,.I i)],[(80,some ⟨1,DJ N side,0⟩)],400⟩ ?_ ?_)
  .refine AT (arc ⟨54,[(5,.rs 80 0 N),(8,.I (Bj (n.arcs.take i) side)),(10,.pv (eC x)),(29,BO n.arcs),(30,.I n.arcs.length),(31,.I i)],[(80,some ⟨1,DJ N side,0⟩)],208⟩ ?_ ?_)
   .simp [h7,<- hx]
    exact BP [(80,80)] [192]
   refine arc ⟨54,[(5,.rs 80 0 N),(8,.I (Bj (n.arcs.take i) side)),(10,.pv (eC x)),(29,BO n.arcs),(30,.I n.arcs.length),(31,.I i),(47,.B (decide ((f:Int)∈side/\(u:Int)∉side)))],[(80,some ⟨1,DJ N side,0⟩)],312⟩ ?_ ?_
   .simp [hf,hu,h9,h5,JE]
    refine Cs (λ hb=>?_) (λ hb=>?_)<;>(try rw[hb])<;>(try simp at hb)<;>simp[hb,hu,h5,JE]
    .exact AJ [(80,80)] [] (by simp[hb])
    .exact AJ [(80,80)] [] (by simp[hb])
   rw[<- hf,<- hu];refine AI _ rfl (λ h8=>?_) λ h8=>?_
   .rw [Qf] at h8
    rw[if_pos h8] at h0;refine AY ?_;exact AJ [(80,80)] [] (by simp[h0,h4])
   .rw [Qd] at h8
    rw[if_neg h8] at h0;exact AN (AJ [(80,80)] [] (by simp[h0]))
  refine AY ?_;exact⟨i+1,zy,zy,AJ [(80,80)] [] (by simp[hw])⟩
 simp at h7;obtain rfl:i=n.arcs.length:=zy
 refine Ar (hit (rk (s:=?s16) [4] [] rfl ?o16 ?q16))
 case o16=>simp;rfl
 exact A8 (AW.one (by simp[h3]))
open Classical in
theorem mZ (n:FG) (side:List Int) (most:Int) (hl:n.arcs.length<=1099511627776) (hs:side.length<=9223372036854775807):AK 87 [eN n,AA side,.I most] [] (.B (decide (GI n side most))) []:=by
 refine dG.s.ac ?_;show Ad _ 0 _ _ ⟨17,[(0,eN n),(1,AA side),(2,.I most)],[],16⟩;refine rs [1,2,3] [] [16] ?_;refine arc ⟨17,[(6,.B (decide (GI n side most)))],[],300⟩ ?_ ?_
 .have hc:=vA n side hl hs
  simp;refine A0 (Wh n side hl hs) ?_;simp
  by_cases hv:Fx n side
  .rw [if_pos hv] at hc
   simp[hv];refine A0 hc ?_;simp;exact A5 [] (by simp[GI,hv])
  .simp [hv]
   exact A5 [] (by simp[GI,hv])
 exact Ca
open Classical in
theorem kU (n:FG) (side:List Int) (most:Int) (hl:n.arcs.length<=1099511627776) (hs:side.length<=140737488355328):AK 87 [eN n,AA side,.I most] [] (.B (decide (GI n side most))) [] :=
 mZ n side most hl zy
section
variable {P:Program} {np id:Nat} {h:Nat->Option AD} {K:AV->List Nat->List (Nat × Option AD)->Prop} {f:FuncId} {first aA args aB:List AV} {res:AV}
theorem Ik {i j:Nat} {e1 e2 e1' e2':AD} {hs':List (Option AD)} (q:i≠j) (h1:h i=some e1) (h2:h j=some e2) (u:Ab [(i,0),(j,1)] [] h 4 e1=e1') (h0:Ab [(i,0),(j,1)] [] h 4 e2=e2') (hc:Bz P f aB [e1',e2'] res hs') (h8:hs'.length<=10) (he:(first++args++aA).map (conv [(i,0),(j,1)] [] h 4)=aB) (hk:K (conv (CL [i,j] id) [] (λ _=>none) 4 res) [i,j] (hs'.zipIdx.map λ (e,k)=>((i::j::(List.range 8).map (id + ·)).getD k 0,e.map (Ab (CL [i,j] id) [] (λ _=>none) 4)))):aK P np id .call (.fn (.func f) first aA::args) h K :=
 ⟨[i,j],[],true,aB,[e1',e2'],res,hs',by simp[q],zz,zz,by rw[show [i,j].zipIdx=[(i,0),(j,1)] from rfl,he];exact E9 _,by
  rw[show [i,j].zipIdx=[(i,0),(j,1)] from rfl]
  simp only[Qp,UN,h1,h2,Uo,u,h0],hc,by simpa using h8,.inl rfl,by simpa [CL] using hk⟩
end
theorem He (k:Int) (h:0<=k) (h2:k<=1000000):AK 113 [.I k] [] (.I (2+2*k)) []:=by
 refine wS.s.ai ?_;have q:=w6 (x:=2*k);have u:=w6 (x:=2+2*k);refine rs [0] [] [] ?_;refine rx (s:=?s2) [2] [] [] rfl ?o2 ?q2
 case o2=>simp[q,u];rfl
 exact Ca
theorem Se (k:Int) (h:0<=k) (h2:k<=1000000):AK 115 [.I k] [] (.I (3+2*k)) []:=by
 refine mV.s.ai ?_;have q:IntKind.i64.wrap (2+2*k+1)=3+2*k:=by rw[w6];omega
 refine rs [0] [] [] ?_;refine rx (s:=?s2) [2] [] [] rfl ?o2 ?q2
 case o2=>simp;refine A4 (He k h h2) zz ?_;simp[q];rfl
 exact Ca
abbrev Cn (N:Int) (B n:Nat):AD:=⟨2,[[.I N,.rs B 0 n]],0⟩
theorem Lf (N f t v:Int) (L:List Ed) (n:Nat) (hL:L.length=n) (hn:n<=1000000):AK 114 [.I f,.I t,.I v,.pt 0 0 0] [Cn N 1 n,⟨3,CM L,0⟩] (.tup []) [some (Cn N 2 (n+1)),none,some ⟨3,CM (L++[⟨f,t,v⟩]),0⟩]:=by
 refine b7.s.ai ?_;have q:∀ f:Ed->List AV,List.take n (List.map f L)=List.map f L:=λ f=>Qb (by simp[hL])
 refine Al (s:=?s1) rfl ?o1 ?q1
 case o1=>simp[hL,q];refine⟨zy,zy,?_⟩;rfl
 refine⟨.inl rfl,⟨[],rfl,[72],[],by simp[List.range,List.range.loop],zz,zz,zz,?_⟩⟩
 simp[List.range,List.range.loop]
variable {α:Type}
def Dt (c:List Int) (x:Int):List Ed:=if 0<c.getD x.toNat 0 then [⟨0,2+2*x,c.getD x.toNat 0⟩] else []
def Dw (c:List Int) (i:Nat):List Ed:=if 0<c.getD i 0 then [⟨2+2*(i:Int),3+2*(i:Int),c.getD i 0 - 1⟩] else []
def Dp (c:List Int) (x:Int):List Ed:=if 0<c.getD x.toNat 0 then [⟨2+2*x,1,1⟩] else []
def D0 (c:List Int) (e:Ed):List Ed:=if 0<c.getD e.f.toNat 0 then [⟨3+2*e.f,2+2*e.t,64⟩] else []
theorem L7 (q:α->Bool) (f:α->Ed) (l:List α):(l.filter q).map f=l.flatMap λ x=>if q x=true then [f x] else []:=by
 induction l with
 | nil=>rfl
 | cons x l ih=>by_cases h:q x=true<;>simp[h,ih]
theorem Sg (g:Gr) (p:Aq) (c sinks:List Int):Cv g p c sinks=p.seeds.flatMap (Dt c)++(List.range c.length).flatMap (Dw c)++sinks.flatMap (Dp c)++(AO g p.lv).edges.flatMap (D0 c):=by
 unfold Cv;rw[L7,L7,L7,L7];simp only[Qf];rfl
theorem Kw (f:α->List Ed) (l:List α) (i:Nat) (h:i<l.length):(l.take (i+1)).flatMap f=(l.take i).flatMap f++f l[i]:=by
 rw[Ql h,List.flatMap_append];simp
theorem GU (f:α->List Ed) (hf:∀ x,(f x).length<=1) (l:List α):(l.flatMap f).length<=l.length:=by
 induction l with
 | nil=>simp
 | cons x l ih=>rw[U4,Qm,QV];have:=hf x;omega
theorem Ol (c:List Int) (x:Int):(Dt c x).length<=1:=by unfold Dt;split<;>simp
theorem MJ (c:List Int) (x:Nat):(Dw c x).length<=1:=by unfold Dw;split<;>simp
theorem MY (c:List Int) (x:Int):(Dp c x).length<=1:=by unfold Dp;split<;>simp
theorem Ma (c:List Int) (x:Ed):(D0 c x).length<=1:=by unfold D0;split<;>simp
theorem LG (f:α->List Ed) (hf:∀ x,(f x).length<=1) (l:List α) (i:Nat):((l.take i).flatMap f).length<=l.length:=QF (GU f hf _) (UD i l)
theorem Mi (g:Gr) (p:Aq) (sinks:List Int) (hg:AG g) (hp:BD g.size p) (hr:Bh sinks 0 (g.size - 1)) (hs:p.seeds.length<=64) (a3:sinks.length<=64) :
  AK 71 [eG g,eP p,AA sinks] [] (.tup [eN ⟨2+2*g.size,Cv g p (Ao g p) sinks⟩,.I 0]) []:=by
 refine Zy.s.ai ?_;have a4:=hg.1.1;have an:=hg.1.2.1;have a5:=hg.edges_le;have av:=hg.gone_le;have ha:=L0 g p zy zy zy (by have:=hp.2.2.2.1;omega)
 rw[if_pos hg,if_pos hp] at ha;have h5:=TE g p hg zy
 have ht:=Su (g:=g) hp;have hv:(Ao g p).length=g.size.toNat:=Fh;rw[<- hv] at h5;have hb:=Ij g p.lv zy zy
 rw[Sg];obtain⟨C,hC⟩:=AR (Ao g p);rw[<- hC] at h5 hv ht ⊢;have hy:∀ e∈(AO g p.lv).edges,e∈g.edges:=λ e he=>(Qz.1 he).1;have hz:(AO g p.lv).edges.length<=500:=QF (Q5 ..) a5;obtain⟨G,hG⟩:=AR (AO g p.lv);rw[<- hG] at hb hy hz ⊢;have a6:=w6 (x:=g.size - 1)
 have a0:∀ e∈G.edges,(0<=e.f/\e.f<g.size)/\(0<=e.t/\e.t<g.size):=λ e he=>by
  have:=hg.fits e (hy e he);unfold BS at this;omega
 have h3:∀ k:Int,0<=k->k<g.size -> ∃ j:Nat,k=j/\j<C.length/\j<64:=λ k h0 h1=>⟨k.toNat,zy,zy,zy⟩
 have hd:∀ k∈p.seeds,∃ j:Nat,k=j/\j<C.length/\j<64:=λ k hk=>by
  obtain⟨i,hi,rfl⟩:=Ul hk;have:=hp.2.1 i hi;exact h3 _ zy zy
 have hf:∀ k∈sinks,∃ j:Nat,k=j/\j<C.length/\j<64:=λ k hk=>by
  obtain⟨i,hi,rfl⟩:=Ul hk;have:=hr i hi;exact h3 _ zy zy
 refine ar [2,3,4,6] [(32,32)] [16,24] 48 ?_;refine AB (rk (s:=?s2) [2,3,4,6,8] [32] rfl ?o2 ?q2)
 case o2=>simp;refine A4 ha zz ?_;simp;rfl
 refine rk (s:=?s3) [2,3,4,6,24] [32] rfl ?o3 ?q3
 case o3=>simp;rfl
 refine AI _ rfl (λ h4=>?_) λ h4=>AN ?_
 .simp at h4
 refine AB (rk (s:=?s5) [2,3,4,6,32] [32] rfl ?o5 ?q5)
 case o5=>simp[a6];refine A4 (MW sinks 0 (g.size - 1) zy) zz ?_;simp[hr];rfl
 refine AI _ rfl (λ h6=>?_) λ h6=>AN ?_
 .simp at h6
 refine rk (s:=?s7) [2,3,4,6,9] [32,176] rfl ?o7 ?q7
 case o7=>simp;refine A4 (He g.size a4 zy) zz ?_;simp;rfl
 obtain⟨N,hN⟩:∃ N:Int,N=2+2*g.size:=⟨_,rfl⟩;simp only[<- hN];refine rk (s:=?s8) [2,3,4,6,9,10] [32,176] rfl ?o8 ?q8
 case o8=>simp;rfl
 refine arc ⟨123,[(2,AA sinks),(3,.pv (gC g)),(4,.pv (pC p)),(6,.pt 32 0 0),(9,.pt 176 0 0),(10,.fn (.func 114) [] [.pt 176 0 0]),(11,AA C)],[(32,some ⟨2,[[.I 0,.nilS]],0⟩),(176,some ⟨2,[[.I N,.nilS]],0⟩)],240⟩ ?_ ?_
 .simp
  refine Ct h5 ?_;simp[AC];exact AJ [(32,32),(176,176)] [224] (by simp[AC,B7])
 have a7:(p.seeds.flatMap (Dt C)).length<=64:=QF (GU _ (Ol C) _) hs;have a8:((List.range C.length).flatMap (Dw C)).length<=64:=QF (GU _ (MJ C) _) (by rw[UP];omega)
 have a9:(sinks.flatMap (Dp C)).length<=64:=QF (GU _ (MY C) _) a3;have ag:(G.edges.flatMap (D0 C)).length<=500:=QF (GU _ (Ma C) _) hz;obtain⟨X1,hh⟩:∃ X,X=p.seeds.flatMap (Dt C):=⟨_,rfl⟩;obtain⟨X2,hj⟩:∃ X,X=(List.range C.length).flatMap (Dw C):=⟨_,rfl⟩;obtain⟨X3,hl⟩:∃ X,X=sinks.flatMap (Dp C):=⟨_,rfl⟩;obtain⟨X4,hm⟩:∃ X,X=G.edges.flatMap (D0 C):=⟨_,rfl⟩;obtain⟨Z2,hn⟩:∃ Z,Z=X1++X2:=⟨_,rfl⟩;obtain⟨Z3,ho⟩:∃ Z,Z=Z2++X3:=⟨_,rfl⟩;obtain⟨Z4,a1⟩:∃ Z,Z=Z3++X4:=⟨_,rfl⟩;rw[<- hh] at a7;rw[<- hj] at a8;rw[<- hl] at a9;rw[<- hm] at ag;rw[<- hh,<- hj,<- hl,<- hm,<- hn,<- ho,<- a1];have b0:Z2.length<=128:=by rw[hn,Qm];omega
 have b1:Z3.length<=192:=by rw[ho,Qm];omega
 refine AB (rk (s:=?sa1) [2,3,4,6,9,10,11,43,44,45] [32,176] rfl ?oa1 ?qa1)
 case oa1=>simp;rfl
 refine AT ?_
 obtain⟨Fa,Fa0,Fas,Fal,FaN⟩:∃ F:Nat->List Ed,F 0=[]/\(∀ i (h:i<(p.seeds).length),F (i+1)=F i++Dt C (p.seeds)[i])/\(∀ i,(F i).length<=64)/\F (p.seeds).length=(p.seeds).flatMap (Dt C) :=
  ⟨λ i=>((p.seeds).take i).flatMap (Dt C),zz,λ i h=>by simp only[Kw _ _ i h,QG],λ i=>by have:=LG _ (Ol C) (p.seeds) i;exact QF this hs,zz⟩
 rw[<- hh] at FaN;refine As (ι:=Nat) (λ i=>⟨123,[(2,AA sinks),(3,.pv (gC g)),(4,.pv (pC p)),(6,.pt 32 0 0),(9,.pt 176 0 0),(10,.fn (.func 114) [] [.pt 176 0 0]),(11,AA C),(43,AA p.seeds),(44,.I p.seeds.length),(45,.I i)],[(32,some ⟨2,[[.I 0,.nilS]],0⟩),(176,some (Cn N 16 (Fa i).length)),(16,some ⟨3,CM (Fa i),0⟩)],272⟩) (λ i=>i<=p.seeds.length) (λ i=>p.seeds.length - i) 0 (Qn _) (Le.lst [(32,32),(176,176)] [] [(16,3)] rfl zz zz zz zz zz zz zz (by simp[Up]) (by simp[Fa0];refine⟨An.rfl' zz,An.row rfl zy (by simp[D9,Up])⟩)) ?_
 intro i hi;refine rk (s:=?sa2) [2,3,4,6,9,10,11,43,44,45,46] [32,176,16] rfl ?oa2 ?qa2
 case oa2=>simp;rfl
 refine AB (AI _ rfl (λ h7=>?_) λ h7=>?_)
 .simp at h7
  have hw:=w6 (x:=((i:Int)+1));have hq:=Fal i;obtain⟨k,hk,h2,hc⟩:=hd _ (Qj h7)
  have q:Fa (i+1)=Fa i++if 0<C[k] then [⟨0,2+2*(k:Int),C[k]⟩] else []:=by
   rw[Fas i h7,hk];unfold Dt;simp[h2]
  refine AN (CX ⟨123,[(2,AA sinks),(3,.pv (gC g)),(4,.pv (pC p)),(6,.pt 32 0 0),(9,.pt 176 0 0),(10,.fn (.func 114) [] [.pt 176 0 0]),(11,AA C),(43,AA p.seeds),(44,.I p.seeds.length),(45,.I i)],[(32,some ⟨2,[[.I 0,.nilS]],0⟩),(176,some (Cn N 16 (Fa (i+1)).length)),(16,some ⟨3,CM (Fa (i+1)),0⟩)],700⟩ ?_ ?_)
  .refine AT (rk (s:=?sa3) [2,3,4,6,9,10,11,13,43,44,45] [32,176,16] rfl ?oa3 ?qa3)
   case oa3=>simp[h7,hk];rfl
   refine rk (s:=?sa4) [2,3,4,6,9,10,11,13,43,44,45,53] [32,176,16] rfl ?oa4 ?qa4
   case oa4=>simp[h2];rfl
   refine AI _ rfl (λ h8=>?_) λ h8=>?_
   .simp at h8
    rw[if_pos h8] at q;refine ET rfl ?_;simp[h2];refine A0 (He k zy zy) ?_
    simp[h2];refine Ik (i:=176) (j:=16) zx rfl rfl (e1':=Cn N 1 (Fa i).length) (e2':=⟨3,CM (Fa i),0⟩) zz (by simp[AC]) (Lf N 0 (2+2*(k:Int)) C[k] (Fa i) _ rfl zy) zz zz ?_
    simp[AC];exact⟨rfl,AJ [(32,32),(176,176),(400,16)] [] (by simp[q]) (by simp[q,AC])⟩
   .simp at h8
    rw[if_neg zy] at q
    exact AN (AJ [(32,32),(176,176),(16,16)] [] (by simp[q]) (by simp[q,AC]))
  refine AY ?_;exact⟨i+1,zy,zy,AJ [(32,32),(176,176),(16,16)] [] (by simp[hw]) (by simp[AC])⟩
 simp at h7;obtain rfl:i=p.seeds.length:=zy
 rw[FaN];refine Ar (hit ?_);refine AB (rk (s:=?sb1) [2,3,4,6,9,10,11,63,64,65] [32,176,16] rfl ?ob1 ?qb1)
 case ob1=>simp;rfl
 refine AT ?_
 obtain⟨Fb,Fb0,Fbs,Fbl,FbN⟩:∃ F:Nat->List Ed,F 0=X1/\(∀ i (h:i<(List.range C.length).length),F (i+1)=F i++Dw C (List.range C.length)[i])/\(∀ i,(F i).length<=200)/\F (List.range C.length).length=X1++(List.range C.length).flatMap (Dw C) :=
  ⟨λ i=>X1++((List.range C.length).take i).flatMap (Dw C),zz,λ i h=>by simp only[Kw _ _ i h,QG],λ i=>by have:=LG _ (MJ C) (List.range C.length) i;rw[UP] at this;rw[Qm];omega,zz⟩
 rw[UP,<- hj,<- hn] at FbN;refine As (ι:=Nat) (λ i=>⟨123,[(2,AA sinks),(3,.pv (gC g)),(4,.pv (pC p)),(6,.pt 32 0 0),(9,.pt 176 0 0),(10,.fn (.func 114) [] [.pt 176 0 0]),(11,AA C),(63,AA C),(64,.I C.length),(65,.I i)],[(32,some ⟨2,[[.I 0,.nilS]],0⟩),(176,some (Cn N 16 (Fb i).length)),(16,some ⟨3,CM (Fb i),0⟩)],304⟩) (λ i=>i<=C.length) (λ i=>C.length - i) 0 (Qn _) (AJ [(32,32),(176,176),(16,16)] [] (by simp[Fb0]) (by simp[Fb0,AC])) ?_
 intro i hi;refine rk (s:=?sb2) [2,3,4,6,9,10,11,63,64,65,66] [32,176,16] rfl ?ob2 ?qb2
 case ob2=>simp;rfl
 refine AB (AI _ rfl (λ h7=>?_) λ h7=>?_)
 .simp at h7
  have hw:=w6 (x:=((i:Int)+1));have hq:=Fbl i;have h2:=h7
  have q:Fb (i+1)=Fb i++if 0<C[i] then [⟨2+2*(i:Int),3+2*(i:Int),C[i] - 1⟩] else []:=by
   rw[Fbs i (by simpa using h7)]
   unfold Dw;simp[h2]
  have b2:=ht _ (Qj h7);have a2:=w6 (x:=C[i] - 1);refine AN (CX ⟨123,[(2,AA sinks),(3,.pv (gC g)),(4,.pv (pC p)),(6,.pt 32 0 0),(9,.pt 176 0 0),(10,.fn (.func 114) [] [.pt 176 0 0]),(11,AA C),(63,AA C),(64,.I C.length),(65,.I i)],[(32,some ⟨2,[[.I 0,.nilS]],0⟩),(176,some (Cn N 16 (Fb (i+1)).length)),(16,some ⟨3,CM (Fb (i+1)),0⟩)],700⟩ ?_ ?_)
  .refine AT (rk (s:=?sb3) [2,3,4,6,9,10,11,14,15,63,64,65] [32,176,16] rfl ?ob3 ?qb3)
   case ob3=>simp[h7];rfl
   refine rk (s:=?sb4) [2,3,4,6,9,10,11,14,15,63,64,65,71] [32,176,16] rfl ?ob4 ?qb4
   case ob4=>simp[h2];rfl
   refine AI _ rfl (λ h8=>?_) λ h8=>?_
   .simp at h8
    rw[if_pos h8] at q;refine Ap rfl ?_;simp[h2];refine A0 (He i zy zy) ?_
    simp[a2];refine A0 (Se i zy zy) ?_
    simp[a2];refine Ik (i:=176) (j:=16) zx rfl rfl (e1':=Cn N 1 (Fb i).length) (e2':=⟨3,CM (Fb i),0⟩) zz (by simp[AC]) (Lf N (2+2*(i:Int)) (3+2*(i:Int)) (C[i] - 1) (Fb i) _ rfl zy) zz zz ?_
    simp[AC];exact AJ [(32,32),(176,176),(424,16)] [] (by simp[q]) (by simp[q,AC])
   .simp at h8
    rw[if_neg zy] at q
    exact AN (AJ [(32,32),(176,176),(16,16)] [] (by simp[q]) (by simp[q,AC]))
  refine AY ?_;exact⟨i+1,zy,zy,AJ [(32,32),(176,176),(16,16)] [] (by simp[hw]) (by simp[AC])⟩
 simp at h7;obtain rfl:i=C.length:=zy
 rw[FbN];refine Ar (hit ?_);refine AB (rk (s:=?sc1) [3,4,6,9,10,11,81,82,83] [32,176,16] rfl ?oc1 ?qc1)
 case oc1=>simp;rfl
 refine AT ?_
 obtain⟨Fc,Fc0,Fcs,Fcl,FcN⟩:∃ F:Nat->List Ed,F 0=Z2/\(∀ i (h:i<(sinks).length),F (i+1)=F i++Dp C (sinks)[i])/\(∀ i,(F i).length<=300)/\F (sinks).length=Z2++(sinks).flatMap (Dp C) :=
  ⟨λ i=>Z2++((sinks).take i).flatMap (Dp C),zz,λ i h=>by simp only[Kw _ _ i h,QG],λ i=>by have:=LG _ (MY C) (sinks) i;simp only[Qm];omega,zz⟩
 rw[<- hl,<- ho] at FcN;refine As (ι:=Nat) (λ i=>⟨123,[(3,.pv (gC g)),(4,.pv (pC p)),(6,.pt 32 0 0),(9,.pt 176 0 0),(10,.fn (.func 114) [] [.pt 176 0 0]),(11,AA C),(81,AA sinks),(82,.I sinks.length),(83,.I i)],[(32,some ⟨2,[[.I 0,.nilS]],0⟩),(176,some (Cn N 16 (Fc i).length)),(16,some ⟨3,CM (Fc i),0⟩)],336⟩) (λ i=>i<=sinks.length) (λ i=>sinks.length - i) 0 (Qn _) (AJ [(32,32),(176,176),(16,16)] [] (by simp[Fc0]) (by simp[Fc0,AC])) ?_
 intro i hi;refine rk (s:=?sc2) [3,4,6,9,10,11,81,82,83,84] [32,176,16] rfl ?oc2 ?qc2
 case oc2=>simp;rfl
 refine AB (AI _ rfl (λ h7=>?_) λ h7=>?_)
 .simp at h7
  have hw:=w6 (x:=((i:Int)+1));have hq:=Fcl i;obtain⟨k,hk,h2,hc⟩:=hf _ (Qj h7)
  have q:Fc (i+1)=Fc i++if 0<C[k] then [⟨2+2*(k:Int),1,1⟩] else []:=by
   rw[Fcs i h7,hk];unfold Dp;simp[h2]
  refine AN (CX ⟨123,[(3,.pv (gC g)),(4,.pv (pC p)),(6,.pt 32 0 0),(9,.pt 176 0 0),(10,.fn (.func 114) [] [.pt 176 0 0]),(11,AA C),(81,AA sinks),(82,.I sinks.length),(83,.I i)],[(32,some ⟨2,[[.I 0,.nilS]],0⟩),(176,some (Cn N 16 (Fc (i+1)).length)),(16,some ⟨3,CM (Fc (i+1)),0⟩)],700⟩ ?_ ?_)
  .refine AT (rk (s:=?sc3) [3,4,6,9,10,11,17,81,82,83] [32,176,16] rfl ?oc3 ?qc3)
   case oc3=>simp[h7,hk];rfl
   refine rk (s:=?sc4) [3,4,6,9,10,11,17,81,82,83,91] [32,176,16] rfl ?oc4 ?qc4
   case oc4=>simp[h2];rfl
   refine AI _ rfl (λ h8=>?_) λ h8=>?_
   .simp at h8
    rw[if_pos h8] at q;refine Ap rfl ?_;simp[h2];refine A0 (He k zy zy) ?_
    simp;refine Ik (i:=176) (j:=16) zx rfl rfl (e1':=Cn N 1 (Fc i).length) (e2':=⟨3,CM (Fc i),0⟩) zz (by simp[AC]) (Lf N (2+2*(k:Int)) 1 1 (Fc i) _ rfl zy) zz zz ?_
    simp[AC];exact AJ [(32,32),(176,176),(432,16)] [] (by simp[q]) (by simp[q,AC])
   .simp at h8
    rw[if_neg zy] at q
    exact AN (AJ [(32,32),(176,176),(16,16)] [] (by simp[q]) (by simp[q,AC]))
  refine AY ?_;exact⟨i+1,zy,zy,AJ [(32,32),(176,176),(16,16)] [] (by simp[hw]) (by simp[AC])⟩
 simp at h7;obtain rfl:i=sinks.length:=zy
 rw[FcN];refine Ar (hit ?_);refine AB (rk (s:=?sd1) [6,9,10,11,101,102,103] [32,176,16] rfl ?od1 ?qd1)
 case od1=>simp;refine A4 hb zz ?_;simp;rfl
 refine AT ?_
 obtain⟨Fd,Fd0,Fds,Fdl,FdN⟩:∃ F:Nat->List Ed,F 0=Z3/\(∀ i (h:i<(G.edges).length),F (i+1)=F i++D0 C (G.edges)[i])/\(∀ i,(F i).length<=900)/\F (G.edges).length=Z3++(G.edges).flatMap (D0 C) :=
  ⟨λ i=>Z3++((G.edges).take i).flatMap (D0 C),zz,λ i h=>by simp only[Kw _ _ i h,QG],λ i=>by have:=LG _ (Ma C) (G.edges) i;simp only[Qm];omega,zz⟩
 rw[<- hm,<- a1] at FdN;refine As (ι:=Nat) (λ i=>⟨123,[(6,.pt 32 0 0),(9,.pt 176 0 0),(10,.fn (.func 114) [] [.pt 176 0 0]),(11,AA C),(101,BO G.edges),(102,.I G.edges.length),(103,.I i)],[(32,some ⟨2,[[.I 0,.nilS]],0⟩),(176,some (Cn N 16 (Fd i).length)),(16,some ⟨3,CM (Fd i),0⟩)],400⟩) (λ i=>i<=G.edges.length) (λ i=>G.edges.length - i) 0 (Qn _) (AJ [(32,32),(176,176),(16,16)] [] (by simp[Fd0]) (by simp[Fd0,AC])) ?_
 intro i hi;refine rk (s:=?sd2) [6,9,10,11,101,102,103,104] [32,176,16] rfl ?od2 ?qd2
 case od2=>simp;rfl
 refine AB (AI _ rfl (λ h7=>?_) λ h7=>?_)
 .simp at h7
  have hw:=w6 (x:=((i:Int)+1));have hq:=Fdl i;obtain⟨x,hx⟩:=AR (G.edges[i]);have h9:=a0 _ (Qj h7);rw[<- hx] at h9;obtain⟨k,hk,h2,hc⟩:=h3 x.f h9.1.1 h9.1.2;obtain⟨u,hu,b3,au⟩:=h3 x.t h9.2.1 h9.2.2
  have q:Fd (i+1)=Fd i++if 0<C[k] then [⟨3+2*(k:Int),2+2*(u:Int),64⟩] else []:=by
   rw[Fds i h7,<- hx];unfold D0;rw[hk,hu];simp[h2]
  refine AN (CX ⟨123,[(6,.pt 32 0 0),(9,.pt 176 0 0),(10,.fn (.func 114) [] [.pt 176 0 0]),(11,AA C),(101,BO G.edges),(102,.I G.edges.length),(103,.I i)],[(32,some ⟨2,[[.I 0,.nilS]],0⟩),(176,some (Cn N 16 (Fd (i+1)).length)),(16,some ⟨3,CM (Fd (i+1)),0⟩)],700⟩ ?_ ?_)
  .refine AT ?_
   apply ax [6,9,10,11,19,101,102,103] [(32,32),(176,176),(16,16)] [424] 440
   .simp [h7,<- hx]
    rfl
   refine rk (s:=?sd4) [6,9,10,11,19,101,102,103,112] [32,176,16] rfl ?od4 ?qd4
   case od4=>simp[hk,h2];rfl
   refine AI _ rfl (λ h8=>?_) λ h8=>?_
   .simp at h8
    rw[if_pos h8] at q;refine ET rfl ?_;simp[hk,hu];refine A0 (Se k zy zy) ?_
    simp[h2];refine A0 (He u zy zy) ?_
    simp;refine Ik (i:=176) (j:=16) zx rfl rfl (e1':=Cn N 1 (Fd i).length) (e2':=⟨3,CM (Fd i),0⟩) zz (by simp[AC]) (Lf N (3+2*(k:Int)) (2+2*(u:Int)) 64 (Fd i) _ rfl zy) zz zz ?_
    simp[AC];exact⟨rfl,AJ [(32,32),(176,176),(544,16)] [] (by simp[q]) (by simp[q,AC])⟩
   .simp at h8
    rw[if_neg zy] at q
    exact AN (AJ [(32,32),(176,176),(16,16)] [] (by simp[q]) (by simp[q,AC]))
  refine AY ?_;exact⟨i+1,zy,zy,AJ [(32,32),(176,176),(16,16)] [] (by simp[hw]) (by simp[AC])⟩
 simp at h7;obtain rfl:i=G.edges.length:=zy
 rw[FdN];refine Ar (hit (rk (s:=?sz) [6,7] [32,16] rfl ?oz ?qz))
 case oz=>simp;rfl
 exact A8 (AW.out [] [16] rfl zz zz (by simp[hN,AC,B7]) zz)
instance (g:Gr) (lv f t:Int):Decidable (IX g lv f t):=by unfold IX;infer_instance
abbrev xE (x:A6):List AV:=[.I x.key,.B x.acc,AA x.before,Cx x.paths,AA x.side]
abbrev eX (x:A6):AV:=.agg (xE x)
theorem oA {g:Gr} {lv:Int} {seeds order c:List Int} {P:List (List Int)} {q:List Int}:IT (AO g lv) seeds order c P q↔G7 g lv seeds order c P q:=by
 unfold IT G7;simp only[nH]
theorem Hc {a:List Int} {n:Int} (h:∀ k∈a,0<=k/\k<n):Bh (Am a) 0 (n - 1):=by
 intro i hi;have hm:=Ip.1 (Qj hi);have:=h _ hm.1;refine⟨zy,zy,λ hp=>?_⟩
 exact(QM.1 (K6 a)) (i - 1) i zy hi zy
theorem Hj (a:List Int):(Am a).length<=64:=QF (Q5 ..) zz
def FW (order:List Int) (x:A6):Prop:=¬ EM order x.before x.key∨(x.acc=true/\x.side≠[])∨(x.acc=false/\x.paths≠[])
structure Pj (x:A6):Prop where
 b:x.before.length<=100000
 p:x.paths.length<=100000
 w:∀ w∈x.paths,w.length<=100000
 s:x.side.length<=100000
theorem WT (g:Gr) (p:Aq) (sinks:List Int) (hg:AG g) (hs:p.seeds.length<=64) (q:sinks.length<=64):(Cv g p (Ao g p) sinks).length<=1000:=by
 rw[Sg];have h1:=GU _ (Ol (Ao g p)) p.seeds;have h2:=GU _ (MJ (Ao g p)) (List.range (Ao g p).length);have h3:=GU _ (MY (Ao g p)) sinks;have h4:=GU _ (Ma (Ao g p)) (AO g p.lv).edges;have h5:(AO g p.lv).edges.length<=g.edges.length:=Q5 ..;have h6:=hg.edges_le;have h7:=hg.1.2.1;have h8:=hg.1.1;rw[UP] at h2;have h9:(Ao g p).length=g.size.toNat:=Fh;simp only[Qm];omega
open Classical in
theorem fT (g:Gr) (p:Aq) (x:A6) (hg:AG g) (hp:BD g.size p) (hN:g.size<20) (hs:p.seeds.length<=64) (hx:Pj x) :
  AK 43 [Hp g p,eG g,eP p,eX x] [] (.I (Hg g p x)) []:=by
 refine qB.s.ac ?_;show Ad _ 0 _ _ ⟨82,[(0,Dn (AO g p.lv) p.seeds (Ao g p) (AL (AO g p.lv) p.seeds)),(1,eG g),(2,eP p),(3,eX x)],[],16⟩;have hy:=hg.1.1;have hi:=I1 (g:=AO g p.lv) (S:=p.seeds) hy;rw[show (AO g p.lv).size=g.size from rfl] at hi
 have h8:∀ k∈AL (AO g p.lv) p.seeds,0<=k/\k<g.size:=λ k hk=>by have h:=HN hk;exact h
 have hj:=GJ (AO g p.lv) p.seeds;have hr:=Su (g:=g) hp;have hz:(Ao g p).length=g.size.toNat:=Fh;have hge:(AO g p.lv).edges.length<=500:=(hg.level p.lv).edges_le;have h5:=λ (he:List Int) (hE:he.length<=1099511627776)=>gF (AO g p.lv) p.seeds (Ao g p) (AL (AO g p.lv) p.seeds) x.paths he hge zy zy (λ k hk=>by have:=h8 k hk;omega) zy hr hx.p hx.w hE
 have h7:=λ hk=>nK (AO g p.lv) p.seeds (Ao g p) (AL (AO g p.lv) p.seeds) x.before x.key zy (by have:=hx.b;omega) hk
 have h9:=GR (AL (AO g p.lv) p.seeds) x.key zy
 have hf:=λ (sinks:List Int) h1 h2=>Mi g p sinks hg hp h1 hs h2;unfold Hg;simp only[<- oA];obtain⟨O,hO⟩:=AR (AL (AO g p.lv) p.seeds);obtain⟨G,hG⟩:=AR (AO g p.lv);simp only[<- hG] at hO hi h8 hj hge h5 h7 h9 ⊢;simp only[<- hO] at hi h8 hj h5 h7 h9 ⊢;obtain⟨C,hC⟩:=AR (Ao g p);simp only[<- hC] at hr hz h5 h7 hf ⊢;refine rs [4,5,6,7] [] [16,24,32,40] ?_;refine AB (rx (s:=?s2) [4,5,6,7,17] [] [] rfl ?o2 ?q2)
 case o2=>simp;refine A4 h9 zz ?_;simp;rfl
 refine AI _ rfl (λ h3=>?_) λ h3=>?_
 .simp at h3
  refine rs [8] [] [] ?_;exact A8 (AW.one (by simp[h3]))
 simp at h3;refine AN (AB (arc ⟨82,[(4,.pv (xC G p.seeds C O)),(5,.pv (gC g)),(6,.pv (pC p)),(7,.pv (xE x)),(45,.B (decide (FW O x)))],[],328⟩ ?_ ?_))
 .simp
  refine A0 (h7 h3) ?_;simp
  by_cases hb:EM O x.before x.key
  .simp [hb]
   cases q:x.acc with
   | true =>
     simp
     by_cases u:x.side.length=0
     .have h4:x.side=[]:=UT.1 u
      have hF:¬ FW O x:=by simp[FW,hb,q,h4]
      rw[Ur hF];simp[u];exact A5 [] (by simp[q,xE,Wk.refl])
     .have h4:x.side≠[]:=λ h=>u (by rw[h];rfl)
      have hF:FW O x:=by simp[FW,q,h4]
      have h0:0<x.side.length:=zy
      rw[Q8 hF];simp[h0];exact A5 [] (by simp[q,xE,Wk.refl])
   | false =>
     simp
     by_cases u:x.paths.length=0
     .have h4:x.paths=[]:=UT.1 u
      have hF:¬ FW O x:=by simp[FW,hb,q,h4]
      rw[Ur hF];simp[u];exact A5 [] (by simp[q,xE,Wk.refl])
     .have h4:x.paths≠[]:=λ h=>u (by rw[h];rfl)
      have hF:FW O x:=by simp[FW,q,h4]
      have h0:0<x.paths.length:=zy
      rw[Q8 hF];simp[h0];exact A5 [] (by simp[q,xE,Wk.refl])
  .simp [hb]
   exact A5 [] (by simp[FW,hb])
 refine AI _ rfl (λ h6=>?_) λ h6=>?_
 .rw [Qf] at h6
  refine rs [8] [] [] ?_;refine A9 ⟨.inr rfl,AW.one ?_⟩;unfold FW at h6;rw[if_neg (not_not_intro h3),if_pos h6];simp
 rw[Qd] at h6;unfold FW at h6;rw[if_neg (not_not_intro h3),if_neg h6];have hb:EM O x.before x.key:=Classical.byContradiction λ h=>h6 (.inl h);have ht:=hb.nodup hj
 have hl:∀ k∈x.before++[x.key],0<=k/\k<g.size:=λ k hk=>by
  rcases Qo.1 hk with hk | hk
  .exact h8 k ((List.takeWhile_sublist _).subset (hb.subset hk))
  .rw [Qt] at hk
   rw[hk];exact h8 _ h3
 have a1:=hx.b;refine AN ?_;obtain⟨A,hA⟩:=AR (x.before++[x.key]);have a2:A.length=x.before.length+1:=by rw[hA];simp
 rw[<- hA] at ht hl ⊢;refine Cd ⟨82,[(4,.pv (xC G p.seeds C O)),(5,.pv (gC g)),(6,.pv (pC p)),(7,.pv (xE x)),(9,AA A)],[],392⟩ ?_ ?_
 .simp
  refine Ct (Gy x.before zy) ?_
  simp[AC,B7];refine⟨zy,zy,rfl,A5 [376] (by simp[AC,hA,AA,Wk.refl,Qb])⟩
 refine AB (rs [4,5,6,7,9,54] [] [] ?_);refine AI _ rfl (λ hm=>?_) λ hm=>?_
 .rw [if_pos hm]
  refine AB (rx (s:=?s11) [60] [] [] rfl ?o11 ?q11)
  case o11=>simp;refine A4 (h5 A zy) zz ?_;simp;rfl
  refine AI _ rfl (λ ha=>?_) λ ha=>?_
  .simp at ha
   refine rs [8] [] [] ?_;exact A8 (AW.one (by simp[ha]))
  simp at ha;refine AN (rs [8] [] [] ?_);exact A8 (AW.one (by simp[ha]))
 rw[if_neg (by simp[hm])]
 have hu:Dl A=Am A:=JM ht λ k hk=>by have:=hl k hk;omega
 have hv:(Dx A:List Int)=Dl A:=rfl;have ho:(Dl A).length<=64:=by rw[hu];exact Hj A
 have hq:=hf (Dl A) (by rw[hu];exact Hc hl) ho
 have hc:=WT g p (Dl A) hg hs ho;rw[<- hC] at hc;obtain⟨S,hS⟩:=AR (Dl A);have a0:S.length=A.length:=by rw[hS,<- hv,IN]
 have hh:=IY A zy
 rw[hv,<- hS] at hh;rw[<- hS] at hq hc ho ⊢;obtain⟨n,hn⟩:∃ n:FG,n=⟨2+2*g.size,Cv g p C S⟩:=⟨_,rfl⟩;rw[<- hn] at hq ⊢;have a3:n.arcs.length<=1000:=by rw[hn];exact hc
 have hw:=hx.s;refine AN (Cd ⟨82,[(7,.pv (xE x)),(10,.pv (nC n)),(11,.I 0)],[],504⟩ ?_ ?_)
 .simp
  refine A0 (I4 A) ?_;simp;refine Ct hh ?_;simp[AC];refine IU [440] zz hq (by simp[<- a0,B7]) ?_
  simp;refine⟨rfl,A5 [480] zz⟩
 refine AB (arc ⟨82,[(81,.B (decide (¬ GI n x.side x.before.length)))],[],600⟩ ?_ ?_)
 .simp
  refine A0 (kU n x.side x.before.length zy zy) ?_
  simp;exact A5 [] zz
 refine AI _ rfl (λ hd=>?_) λ hd=>?_
 .rw [Qf] at hd
  refine rs [8] [] [] ?_;exact A8 (AW.one (by simp[hd]))
 rw[Qd,Decidable.not_not] at hd;refine AN (rs [8] [] [] ?_);exact A8 (AW.one (by simp[hd]))
variable {g:Gr}
def A1 (g:Gr):Nat:=(2+2*g.size).toNat
theorem LY (hg:AG g):((A1 g:Nat):Int)=2+2*g.size:=by unfold A1;have:=hg.1.1;omega
abbrev Ah (g:Gr) (p:Aq) (ks:List Int):List Ed:=Cv g p (Ao g p) ks
def Ba (g:Gr) (p:Aq) (ks:List Int):Prop:=CN (A1 g) (Ah g p ks)=ks.length
theorem Ju {p:Aq} {ks:List Int} (hg:AG g) (hp:BD g.size p) (hk:∀ x∈ks,0<=x/\x<g.size):C8 (A1 g) (Ah g p ks):=fP hg hp hk
theorem MB {p:Aq} {ks:List Int} (hg:AG g) (hp:BD g.size p) (hk:∀ x∈ks,0<=x/\x<g.size) (hs:p.seeds.length<=64) (u:ks.length<=64):C9 ⟨A1 g,Ah g p ks⟩:=by
 have h1:=Ju hg hp hk;have h2:(Ah g p ks).length<=1000:=WT g p ks hg hs u;have h3:=hg.1.2.1;have hN:=LY hg;have h0:=hg.1.1
 have q:∀ i:Nat,(Ao g p).getD i 0<=1000:=λ i=>by
  rw[Qe]
  cases h:(Ao g p)[i]? with
  | none=>simp
  | some v =>
    have hm:=QX h;unfold Ao at hm;obtain⟨d,_,rfl⟩:=Qh.1 hm;exact(O8 hp d).2
 refine⟨by simp only;omega,by simp only;omega,by simp only;omega,λ a ha=>?_⟩
 obtain⟨q1,q2,q3,q4,q5,q6,q7,q8⟩:=h1.arc a ha;refine⟨q1,by simp only;omega,q3,by simp only;omega,q5,q6,q7,q8,?_⟩
 simp only[Ah,Cv] at ha;rcases Qo.1 ha with ha | ha
 .rcases Qo.1 ha with ha | ha
  .rcases Qo.1 ha with ha | ha
   .obtain ⟨x,hx,rfl⟩:=Qh.1 ha
    have:=q x.toNat;simp only;omega
   .obtain ⟨i,hx,rfl⟩:=Qh.1 ha
    have:=q i;simp only;omega
  .obtain ⟨x,hx,rfl⟩:=Qh.1 ha
   simp
 .obtain ⟨e,hx,rfl⟩:=Qh.1 ha
  simp
open Classical in
def HO (g:Gr) (p:Aq) (x:A6):Int:=if AG g then if BD g.size p then Hg g p x else 15 else 14
variable {k:Int} {l:List Int}
def BX:List Int->Int->Nat
 | [],_=>0
 | x::l,k=>if x<k then BX l k+1 else 0
def CQ (l:List Int) (k:Int):List Int:=if l[BX l k]? = some k then l else l.take (BX l k)++k::l.drop (BX l k)
theorem LJ:∀ (l:List Int) (k:Int),BX l k<=l.length
 | [],_=>Qk _
 | x::l,k=>by unfold BX;have:=LJ l k;split<;>simp<;>omega
theorem Nv:∀ {l:List Int} {k:Int} {i:Nat} (h:i<l.length),i<BX l k->l[i]<k
 | x::l,k,0,_,h=>by
   unfold BX at h;split at h
   .simpa
   .omega
 | x::l,k,i+1,hi,h=>by
   unfold BX at h;split at h
   .simpa using Nv (l:=l) (by simpa using hi) zy
   .omega
theorem Mu:∀ {l:List Int} {k:Int} (h:BX l k<l.length),¬ l[BX l k]<k
 | x::l,k,h=>by
   by_cases hx:x<k
   .have e:BX (x::l) k=BX l k+1:=by simp[BX,hx]
    simp only[e,List.getElem_cons_succ];exact Mu (by rw[e] at h;simpa using h)
   .have e:BX (x::l) k=0:=by simp[BX,hx]
    simp only[e,List.getElem_cons_zero];exact hx
theorem pD {i:Nat} (hi:i<=l.length) (h1:∀ j (h:j<l.length),j<i->l[j]<k) (h2:∀ h:i<l.length,¬ l[i]<k):BX l k=i:=by
 rcases Vf (BX l k) i with h | h | h
 .exact absurd (h1 _ zy h) (Mu zy)
 .exact h
 .have hl:=LJ l k
  exact absurd (Nv zy h) (h2 zy)
theorem bX (l:List Int) (k:Int):(CQ l k).length<=l.length+1:=by
 unfold CQ;split
 .omega
 .simp;have:=LJ l k;omega
theorem Y4 {x:Int}:x∈CQ l k↔x∈l∨x=k:=by
 unfold CQ;split
 .rename_i h
  constructor
  .exact .inl
  .rintro (h1 | rfl)
   .exact h1
   .exact QX h
 .rw [Qo,Qw]
  conv=>rhs;rw[<- UK (BX l k) l,Qo]
  constructor
  .rintro (h | rfl | h)
   .exact .inl (.inl h)
   .exact .inr rfl
   .exact .inl (.inr h)
  .rintro ((h | h) | rfl)
   .exact .inl h
   .exact .inr (.inr h)
   .exact .inr (.inl rfl)
theorem iP (h:l.Pairwise (· < ·)):(CQ l k).Pairwise (· < ·):=by
 unfold CQ;split
 .exact h
 .rename_i q
  have hd:∀ y∈l.drop (BX l k),k<y:=by
   intro y hy;obtain⟨i,hi,rfl⟩:=Ul hy;rw[UH] at hi;rw[List.getElem_drop];have h0:BX l k<l.length:=zy
   have h1:=Mu h0;have h2:l[BX l k]≠k:=λ e=>q (by rw[Qa h0,e])
   rcases UE i with rfl | hp
   .simp only[QY];omega
   .have:=(QM.1 h) (BX l k) (BX l k+i) h0 zy zy
    omega
  have ht:∀ y∈l.take (BX l k),y<k:=by
   intro y hy;obtain⟨i,hi,rfl⟩:=Ul hy;rw[QU] at hi;rw[UR];exact Nv zy zy
  rw[List.pairwise_append,Uq];refine⟨h.sublist (Vg ..),⟨hd,h.sublist (List.drop_sublist ..)⟩,λ x hx y hy=>?_⟩;rcases Qw.1 hy with rfl | hy
  .exact ht x hx
  .have:=ht x hx;have:=hd y hy;omega
theorem V3 {n:Int} (h:l.Pairwise (· < ·)) (hr:∀ k∈l,0<=k/\k<n):Bh l 0 (n - 1):=by
 intro i hi;have:=hr _ (Qj hi);refine⟨zy,zy,λ hp=>?_⟩
 exact(QM.1 h) (i - 1) i zy hi zy
theorem nF (l:List Int) (k:Int) (hl:l.length<=1000000):AK 23 [AA l,.I k] [] (.rs 0 0 (CQ l k).length) [some ⟨1,AE (CQ l k),0⟩]:=by
 refine fE.s.ai ?_;refine rs [0,1] [] [] ?_;refine rs [0,1,5] [] [] ?_;refine G1 (ι:=Nat) (λ i=>⟨45,[(0,AA l),(1,.I k),(5,.I i)],[],200⟩) (λ i=>i=BX l k) ?_ λ i u=>?_
 .refine AT (As (ι:=Nat) (λ i=>⟨45,[(0,AA l),(1,.I k),(5,.I i)],[],32⟩) (λ i=>i<=l.length /\ ∀ j (h:j<l.length),j<i->l[j]<k) (λ i=>l.length - i) 0 zz (BP [] []) ?_)
  rintro i ⟨hi,hp⟩
  refine AB (arc ⟨45,[(0,AA l),(1,.I k),(5,.I i),(17,.B (decide (∃ h:i<l.length,l[i]<k)))],[],200⟩ ?_ ?_)
  .by_cases h1:i<l.length
   .simp [h1]
    exact A5 [] zz
   .have h0:¬ ∃ h:i<l.length,l[i]<k:=λ ⟨h,_⟩=>h1 h
    rw[Ur h0];simp[h1];exact A5 [] zz
  refine AI _ rfl (λ h2=>?_) λ h2=>?_
  .rw [Qf] at h2
   obtain⟨h1,h2⟩:=h2;have hw:=w6 (x:=((i:Int)+1));refine AN (AT (AY ?_));refine⟨i+1,⟨h1,λ j hj h6=>?_⟩,zy,AJ [] [] (by simp[hw])⟩
   rcases QI.1 h6 with h | rfl
   .exact hp j hj h
   .exact h2
  .rw [Qd] at h2
   exact Ar (hit ⟨i,(pD hi hp λ h h3=>h2 ⟨h,h3⟩).symm,BP [] []⟩)
 have h4:=LJ l k;rw[<- u] at h4;refine AB (arc ⟨45,[(0,AA l),(1,.I k),(5,.I i),(31,.B (decide (l[i]? = some k)))],[],400⟩ ?_ ?_)
 .by_cases h1:i<l.length
  .simp [h1]
   exact A5 [] (by simp;exact BA (by rw[Qv];simp))
  .have h0:¬ l[i]? = some k:=by rw[QS zy];simp
   rw[Ur h0];simp[h1];exact A5 [] zz
 refine AI _ rfl (λ h2=>?_) λ h2=>?_
 .rw [Qf] at h2
  have q:CQ l k=l:=by unfold CQ;rw[<- u,if_pos h2]
  rw[q];refine rk (s:=?s6) [4] [408] rfl ?o6 ?q6
  case o6=>simp;refine⟨zy,zy,?_⟩;rfl
  exact Bx [408] []
 rw[Qd] at h2;have q:CQ l k=l.take i++k::l.drop i:=by unfold CQ;rw[<- u,if_neg h2]
 have hpl:(CQ l k).length=l.length+1:=by rw[q];simp;omega
 have h5:(CQ l k).length=i+1+(l.length - i):=zy
 refine AN (Cd ⟨45,[(4,.rs 480 0 (CQ l k).length)],[(480,some ⟨1,AE (CQ l k),0⟩)],600⟩ ?_ ?_)
 .simp [h4]
  refine⟨zy,zy,zy,zy,zy,zy,rfl,AJ [(480,480)] [] (by simp[h5]) (by simp[q,AC,Qb,h4])⟩
 exact Bx [480] []
variable {k:Int} {o:List Int}
theorem V6:∀ {a b:List Int},a.Pairwise (· < ·)->b.Pairwise (· < ·)->(∀ x,x∈a↔x∈b)->a=b
 | [],[],_,_,_=>rfl
 | [],y::b,_,_,h=>by have:=(h y).2 zz;cases this
 | x::a,[],_,_,h=>by have:=(h x).1 zz;cases this
 | x::a,y::b,ha,hb,h=>by
   have q:=Uq.1 ha;have u:=Uq.1 hb
   have h0:x=y:=by
    have h1:=(h x).1 zz
    have h2:=(h y).2 zz
    rcases Qw.1 h1 with e | e
    .exact e
    .rcases Qw.1 h2 with e2 | e2
     .exact e2.symm
     .have:=u.1 x e
      have:=q.1 y e2;omega
   subst h0
   congr 1
   refine V6 q.2 u.2 λ z=>⟨λ hz=>?_,λ hz=>?_⟩
   .rcases Qw.1 ((h z).1 (Qg _ hz)) with rfl | e
    .have:=q.1 z hz;omega
    .exact e
   .rcases Qw.1 ((h z).2 (Qg _ hz)) with rfl | e
    .have:=u.1 z hz;omega
    .exact e
open Classical in
def AM (g:Gr) (p:Aq) (o:List Int):List Int:=o.foldl (λ acc k=>if Ba g p (Am (acc++[k])) then acc++[k] else acc) []
variable {g:Gr} {p:Aq}
theorem MK:AM g p []=[]:=rfl
open Classical in
theorem GV {o:List Int} {k:Int} (h:Ba g p (Am (AM g p o++[k]))):AM g p (o++[k])=AM g p o++[k]:=by
 have h2:AM g p (o++[k])=if Ba g p (Am (AM g p o++[k])) then AM g p o++[k] else AM g p o:=by unfold AM;rw[UW];rfl
 rw[h2,if_pos h]
open Classical in
theorem H8 {o:List Int} {k:Int} (h:¬ Ba g p (Am (AM g p o++[k]))):AM g p (o++[k])=AM g p o:=by
 have h2:AM g p (o++[k])=if Ba g p (Am (AM g p o++[k])) then AM g p o++[k] else AM g p o:=by unfold AM;rw[UW];rfl
 rw[h2,if_neg h]
theorem O1 (o:List Int) (k:Int):AM g p (o++[k])=AM g p o∨AM g p (o++[k])=AM g p o++[k]:=by
 by_cases h:Ba g p (Am (AM g p o++[k]))
 .exact .inr (GV h)
 .exact .inl (H8 h)
theorem Gz:∀ (n:Nat) (o:List Int),o.length=n->(AM g p o).Sublist o
 | 0,o,h=>by
   obtain rfl:=QK h;exact List.nil_sublist _
 | n+1,o,h=>by
   have q:o≠[]:=λ e=>by rw[e] at h;cases h
   rw[<- U1 q];have ih:=Gz n o.dropLast (by rw[Ve,h];rfl)
   rcases O1 (g:=g) (p:=p) o.dropLast (o.getLast q) with e | e
   .rw [e];exact ih.trans (List.sublist_append_left _ _)
   .rw [e];exact ih.append (List.Sublist.refl _)
theorem Ig {x:Int} (h:x∈AM g p o):x∈o:=(Gz _ o rfl).subset h
theorem Jl (o:List Int):(AM g p o).length<=o.length:=(Gz _ o rfl).length_le
open Classical in
def Di (N:Nat) (A:List Ed):List Int:=((List.range N).map λ k:Nat=>(k:Int)).filter λ k=>decide (∀ S:Int->Bool,S 0=true->S 1=false->BM S A=CN N A->S k=true)
theorem Zx {N:Nat} {A:List Ed} {f D:List Int} {by_:Int->BH} (hn:C8 N A) (hf:BL N A f) (hm:∀ f',BL N A f'->Aa A f'<=Aa A f) (ht:HX A f D by_) (h0:(0:Int)∈D) (h1:(1:Int)∉D) (hc:HK A f D) :
  ((List.range N).map λ k:Nat=>(k:Int)).filter (λ k=>decide (k∈D))=Di N A:=by
 unfold Di;refine List.filter_congr λ k _=>?_;rw[decide_eq_decide];have q:=Hk hf hm;constructor
 .intro hk S s0 s1 hS
  exact ZT hn hf ht s0 s1 (hS.trans q) k hk
 .intro h
  have:=h (λ x=>decide (x∈D)) (by simpa using h0) (by simpa using h1) (by rw[q];exact(Lu hn hf h0 h1 hc).1.symm)
  simpa using this
open Classical in
def Dh (g:Gr) (p:Aq) (o:List Int):List Int × List (Int × List Int) :=
 o.foldl (λ s k=>if Ba g p (Am (s.1++[k])) then (s.1++[k],s.2) else (s.1,s.2++[(k,Di (A1 g) (Ah g p (Am (s.1++[k]))))])) ([],[])
def Bc (g:Gr) (p:Aq) (o:List Int):List (Int × List Int):=(Dh g p o).2
open Classical in
theorem Nc (o:List Int) (k:Int):Dh g p (o++[k])=if Ba g p (Am ((Dh g p o).1++[k])) then ((Dh g p o).1++[k],(Dh g p o).2) else ((Dh g p o).1,(Dh g p o).2++[(k,Di (A1 g) (Ah g p (Am ((Dh g p o).1++[k]))))]):=by
 unfold Dh;rw[UW];rfl
theorem Oc:∀ (n:Nat) (o:List Int),o.length=n->(Dh g p o).1=AM g p o
 | 0,o,h=>by
   obtain rfl:=QK h;rfl
 | n+1,o,h=>by
   have q:o≠[]:=λ e=>by rw[e] at h;cases h
   rw[<- U1 q];have ih:=Oc n o.dropLast (by rw[Ve,h];rfl)
   rw[Nc,ih];split
   .rename_i h1
    rw[GV h1]
   .rename_i h1
    rw[H8 h1]
theorem JN (h:Ba g p (Am (AM g p o++[k]))):Bc g p (o++[k])=Bc g p o:=by
 unfold Bc;rw[Nc,Oc _ o rfl,if_pos h]
theorem Ka (h:¬ Ba g p (Am (AM g p o++[k]))):Bc g p (o++[k])=Bc g p o++[(k,Di (A1 g) (Ah g p (Am (AM g p o++[k]))))]:=by
 unfold Bc;rw[Nc,Oc _ o rfl,if_neg h]
structure PT (g:Gr) (p:Aq) (acc:List Int) (k:Int) (side:List Int):Prop where
 no:¬ Ba g p (Am (acc++[k]))
 ok:Fx ⟨A1 g,Ah g p (Am (acc++[k]))⟩ side
 cut:Bj (Ah g p (Am (acc++[k]))) side=CN (A1 g) (Ah g p (Am (acc++[k])))
 len:side.length<=130
 eq:side=Di (A1 g) (Ah g p (Am (acc++[k])))
structure FZ (g:Gr) (p:Aq) (o:List Int) (R:List (Int × List Int)):Prop where
 all:∀ i (h:i<o.length),o[i]∉AM g p (o.take (i+1)) -> ∃ side,(o[i],side)∈R
 right:∀ r∈R,∃ i,∃ h:i<o.length,o[i]=r.1/\PT g p (AM g p (o.take i)) r.1 r.2
 len:R.length<=o.length
 eq:R=Bc g p o
theorem FZ.nil:FZ g p [] []:=⟨λ i h=>absurd h (Ut _),(λ r h=>nomatch h),Qk _,rfl⟩
theorem FZ.yes {R:List (Int × List Int)} (hr:FZ g p o R) (h:Ba g p (Am (AM g p o++[k]))):FZ g p (o++[k]) R:=by
 refine⟨λ i hi hn=>?_,λ r u=>?_,QF hr.len zz,by rw[JN h];exact hr.eq⟩
 .rw [Qm,QT] at hi
  by_cases q:i<o.length
  .rw [Q2 q] at hn ⊢
   rw[Ud zy] at hn
   exact hr.all i q hn
  .obtain rfl:i=o.length:=zy
   refine absurd ?_ hn;rw[Qb zz,GV h]
   simp
 .obtain ⟨i,hi,h1,h2⟩:=hr.right r u
  refine⟨i,zw,by rw[Q2 hi];exact h1,?_⟩
  rw[Ud zy]
  exact h2
theorem FZ.no {R:List (Int × List Int)} {side:List Int} (hr:FZ g p o R) (h:PT g p (AM g p o) k side):FZ g p (o++[k]) (R++[(k,side)]):=by
 refine⟨λ i hi hn=>?_,λ r u=>?_,by have:=hr.len;simp;omega,by rw[Ka h.no,<- hr.eq,<- h.eq]⟩
 .rw [Qm,QT] at hi
  by_cases q:i<o.length
  .rw [Q2 q] at hn ⊢
   rw[Ud zy] at hn
   obtain⟨s,hs⟩:=hr.all i q hn;exact⟨s,QZ _ hs⟩
  .obtain rfl:i=o.length:=zy
   exact⟨side,zz⟩
 .rcases Qo.1 u with h3 | h3
  .obtain ⟨i,hi,h1,h2⟩:=hr.right r h3
   refine⟨i,zw,by rw[Q2 hi];exact h1,?_⟩
   rw[Ud zy]
   exact h2
  .rw [Qt] at h3
   subst h3;refine⟨o.length,zz,zz,?_⟩
   rw[Ud (Qk _),QW];exact h
theorem Wq (side:List Int):∀ A:List Ed,Bj A side=BM (λ x=>decide (x∈side)) A
 | []=>rfl
 | e::A=>by
   have h1:Bj (e::A) side=(if e.f∈side/\e.t∉side then e.v else 0)+Bj A side:=by simp[Bj]
   have h2:BM (λ x=>decide (x∈side)) (e::A)=(if decide (e.f∈side)=true/\decide (e.t∈side)=false then e.v else 0)+BM (λ x=>decide (x∈side)) A:=rfl
   rw[h1,h2,Wq side A];simp
def De:List Int->List Int->List Int->Bool
 | [],a,r=>a.isEmpty && r.isEmpty
 | x::o,a,r=>if a.head? = some x then De o a.tail r else if r.head? = some x then De o a r.tail else false
theorem Oo:∀ {o a r:List Int} {k:Int},De o a r=true->k∉o->De (o++[k]) (a++[k]) r=true
 | [],a,r,k,h,_=>by
   simp[De] at h;rw[h.1,h.2];simp[De]
 | x::o,a,r,k,h,hk=>by
   have u:k≠x:=λ e=>hk (by simp[e])
   have q:k∉o:=λ e=>hk (Qg _ e);simp only[De] at h;simp only[Q6,De];split at h
   .rename_i h1
    cases a with
    | nil=>cases h1
    | cons y a =>
      have:y=x:=by simpa using h1
      subst this
      simpa using Oo h q
   .rename_i h1
    split at h
    .rename_i h2
     have h3:(a++[k]).head? ≠ some x:=by
      cases a with
      | nil=>simpa using u
      | cons y a=>simpa using h1
     rw[if_neg h3,if_pos h2];exact Oo h q
    .cases h
theorem Pb:∀ {o a r:List Int} {k:Int},De o a r=true->k∉o->De (o++[k]) a (r++[k])=true
 | [],a,r,k,h,_=>by
   simp[De] at h;rw[h.1,h.2];simp[De]
 | x::o,a,r,k,h,hk=>by
   have u:k≠x:=λ e=>hk (by simp[e])
   have q:k∉o:=λ e=>hk (Qg _ e);simp only[De] at h;simp only[Q6,De];split at h
   .rename_i h1
    rw[if_pos h1];exact Pb h q
   .rename_i h1
    rw[if_neg h1];split at h
    .rename_i h2
     cases r with
     | nil=>cases h2
     | cons y r =>
       have:y=x:=by simpa using h2
       subst this
       simpa using Pb h q
    .cases h
def Om (g:Gr) (p:Aq) (b:List Int) (r:Int × List Int):Prop:=GI ⟨A1 g,Ah g p (Am (b++[r.1]))⟩ r.2 b.length
def FC (g:Gr) (p:Aq):List Int->List Int->List Int->List (Int × List Int)->Prop
 | _,[],_,_=>True
 | b,x::o,a,R=>if a.head? = some x then FC g p (b++[x]) o a.tail R else match R with
   | []=>True
   | r::R=>Om g p b r/\FC g p b o a R
def H9 (R:List (Int × List Int)):List Int:=R.map (·.1)
variable {l:List Nat}
def F8 (g:List Int):Nat:=(g.map Int.toNat).sum
theorem Yp:∀ {g:List Int} {k:Nat},k<g.length->0<g.getD k 0->F8 (g.set k (g.getD k 0 - 1))<F8 g
 | [],k,h,_=>by simp at h
 | x::g,0,_,h=>by
   have h:0<x:=h;simp only[List.set_cons_zero,F8,Qp,Q3,Us];omega
 | x::g,k+1,hk,h=>by
   have ih:=Yp (g:=g) (k:=k) (by simpa using hk) h
   simp only[List.set_cons_succ,F8,Qp,Q3,List.getD_cons_succ] at ih ⊢;omega
theorem Bg.last {A:List Ed}:∀ {l:List Nat} {u w:Int},Bg A u l w->(u::Ai A l)[l.length]? = some w
 | [],u,w,h=>by
   have:u=w:=h;simp[Ai,this]
 | i::l,u,w,h=>by
   have:=Bg.last h.2.2
   simpa [Ai] using this
structure EU (N:Nat) (A:List Ed) (f:List Int):Prop where
 len:f.length=A.length
 nonneg:∀ i,0<=f.getD i 0
 bal:∀ x:Int,2<=x->x<N->B2 A f x=0
variable {N:Nat} {A:List Ed} {f g:List Int}
theorem BL.balF (h:BL N A f):EU N A f:=by
 have hf:=GX.1 h.fit;refine⟨hf.1,λ i=>?_,λ x h2 h3=>?_⟩
 .by_cases hi:i<A.length
  .exact (hf.2 i hi).1
  .rw [Qe,QS (by rw[hf.1];omega)]
   exact Uw _
 .have:=h.bal x.toNat zy zy
  rw[Int.toNat_of_nonneg zy] at this
  unfold B2;omega
theorem El.go_on (hn:C8 N A) (hf:EU N A f) {w:Int} (h:El A f g l w) (hw:w≠1) (hv:l=[]->0<B2 A f 0):∃ i,i<A.length/\(AH A i).f=w/\0<g.getD i 0:=by
 refine vH h.len h.nonneg ?_;rw[h.ex w];have hl:=h.way.last
 cases l with
 | nil =>
   have e:(0:Int)=w:=h.way;subst e;have:=hv rfl;simp;exact this
 | cons i l =>
   have hm:w∈Ai A (i::l):=by
    rw[QV,List.getElem?_cons_succ] at hl;exact QX hl
   have hw0:w≠0:=λ e=>by
    have:=(Q1.1 h.met).1;exact this (e ▸ hm)
   obtain⟨j,hj,rfl⟩:=Qh.1 hm
   have hja:j<A.length:=by
    have:∀ {l:List Nat} {u w:Int},Bg A u l w -> ∀ j∈l,j<A.length:=by
     intro l
     induction l with
     | nil=>intro _ _ _ j hj;cases hj
     | cons i l ih =>
       intro u w hw j hj;rcases Qw.1 hj with rfl | hj
       .exact hw.1
       .exact ih hw.2.2 j hj
    exact this h.way j hj
   have ha:=hn.arc _ (Fz hja);rw[hf.bal _ zy zy,if_neg hw0,if_pos rfl]
   omega
theorem El.balF (hf:EU N A f) (h:El A f g l 1):EU N A g/\B2 A g 0=B2 A f 0 - 1:=by
 refine⟨⟨h.len,h.nonneg,λ x h2 h3=>?_⟩,?_⟩
 .rw [h.ex x,hf.bal x h2 h3,if_neg zy,if_neg zy]
  rfl
 .rw [h.ex 0,if_pos rfl,if_neg zx]
  omega
theorem kJ (hn:C8 N A) (hf:EU N A f):0<=B2 A f 0:=by
 unfold B2;rw[Jk hn];have:0<=Br A f 0:=M4 hf.nonneg λ e v hv=>by split<;>omega
 omega
structure GQ (N:Nat) (A:List Ed) (f g:List Int) (W:List (List Nat)):Prop where
 bal:EU N A g
 ex:B2 A g 0=B2 A f 0 - W.length
 ways:∀ w∈W,Bg A 0 w 1/\(Ai A w).Nodup
 used:∀ i,g.getD i 0+(CT (List.count i) W:Int)<=f.getD i 0
theorem GQ.nil (hf:EU N A f):GQ N A f f []:=⟨hf,zz,zz,λ i=>by simp[CT]⟩
theorem GQ.more {g':List Int} {W:List (List Nat)} (h:GQ N A f g W) (hl:El A g g' l 1):GQ N A f g' (W++[l]):=by
 obtain⟨b1,b2⟩:=hl.balF h.bal;refine⟨b1,by rw[b2,h.ex,Qm,QT];omega,λ w hw=>?_,λ i=>?_⟩
 .rcases Qo.1 hw with hw | hw
  .exact h.ways w hw
  .rw [Qt] at hw
   subst hw;exact⟨hl.way,(Q1.1 hl.met).2⟩
 .have h1:=h.used i
  have h2:=hl.used i;have h3:CT (List.count i) (W++[l])=CT (List.count i) W+l.count i:=by unfold CT;simp
  rw[h3];omega
theorem Jf (S:Int->Bool):∀ A:List Ed,BM S A=(A.map λ e=>if S e.f=true/\S e.t=false then e.v else 0).sum
 | []=>rfl
 | e::A=>by
   have ih:=Jf S A;unfold BM at ih ⊢;simp only[Qp,Ac,Q3];rw[ih]
theorem Kj {α:Type} {h:α->Int}:∀ {l:List α},(∀ x∈l,h x=0)->(l.map h).sum=0
 | [],_=>rfl
 | x::l,hx=>by
   rw[Qp,Q3,hx x (Qi ..),Kj λ y hy=>hx y (Qg _ hy)];rfl
theorem Yj {α:Type} {h:α->Int}:∀ {l:List α},(∀ x∈l,h x<=1)->(l.map h).sum<=l.length
 | [],_=>Uw _
 | x::l,hx=>by
   have ih:=Yj (l:=l) λ y hy=>hx y (Qg _ hy);have h1:=hx x (Qi ..);rw[Qp,Q3,QV];omega
theorem IW {g:Gr} {p:Aq} {ks:List Int} (hg:AG g) (hp:BD g.size p) (hk:∀ x∈ks,0<=x/\x<g.size):CN (A1 g) (Ah g p ks)<=ks.length:=by
 have q:=Ju hg hp hk;obtain⟨f,hf,hv⟩:=Sc q;rw[<- hv];refine Int.le_trans (Kg (S:=λ x=>decide (x≠1)) q hf zz zz) ?_
 rw[Jf];simp only[Ah,Cv,Ug,List.sum_append,Ub];have u:=Ml hg p.lv;rw[Kj,Kj,Kj (l:=(AO g p.lv).edges.filter _)]
 .have h1:=Yj (h:=(λ e:Ed=>if (decide (e.f≠1))=true/\(decide (e.t≠1))=false then e.v else 0)∘λ x:Int=>(⟨2+2*x,1,1⟩:Ed)) (l:=ks.filter λ x=>decide (0<(Ao g p).getD x.toNat 0)) λ x _=>by
   simp only[Function.comp];split<;>omega
  have h2:=Q5 (λ x=>decide (0<(Ao g p).getD x.toNat 0)) ks;omega
 .intro e he
  have:=u.2 e (Qz.1 he).1;simp only[Function.comp];rw[if_neg];simp;omega
 .intro i _
  simp only[Function.comp];rw[if_neg];simp;omega
 .intro x _
  simp only[Function.comp];rw[if_neg];simp;omega
theorem XQ {N:Nat} {A:List Ed} {f:List Int} (hn:C8 N A):B2 A f 0=Aa A f:=by
 unfold B2 Aa;rw[Jk hn];omega
end Go.Proofs.YtnaemfpgdmfmcaaGreatDoor
