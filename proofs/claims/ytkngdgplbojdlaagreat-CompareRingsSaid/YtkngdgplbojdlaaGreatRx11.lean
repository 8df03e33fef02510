/- Texts of this claim,merged. -/
import Derived.Test.YtkngdgplbojdlaaGreatRx10
import Derived.Test.YtkngdgplbojdlaaGreatRx7
set_option linter.unusedSimpArgs false
set_option linter.unusedVariables false
set_option linter.unusedSectionVars false
namespace Go.Proofs.YtkngdgplbojdlaaGreat
open Go
theorem zjZ (f : FuncId) (capt : List AV) (q : Int->Bool) (l : List Int) (hl : l.length<=1099511627776) (hs : zlI capt) (hc : ∀ e∈l,zaj Tryz.prog f (AV.I e::capt) [] (.B (q e)) []) : zaj Tryz.prog zaH [ints l,.fn (.func f) [] capt] [] (.I (idxQ l q)) []:=by
 have hs2 : ∀ ρ sn h,capt.map (conv ρ sn h 2)=capt:=λ _ _ _=>hs _ _ _ 1
 have hs3 : ∀ ρ sn h,capt.map (conv ρ sn h 3)=capt:=λ _ _ _=>hs _ _ _ 2
 have hs4 : ∀ ρ sn h,capt.map (conv ρ sn h 4)=capt:=λ _ _ _=>hs _ _ _ 3
 refine zbf.ac ?_;show awp _ 0 _ _ ⟨19,[(0,ints l),(1,.fn (.func f) [] capt)],[],16⟩;refine zab ?_;refine zan ?_;refine zab ?_;refine zab ?_;refine zan ?_;refine zaf ?_;refine zas (ι:=Nat) (λ k=>⟨19,[(0,ints l),(1,.fn (.func f) [] capt),(7,.I l.length),(8,.I k)],[],16⟩) (λ k=>k<=l.length /\ ∀ i,i<k -> ∀ h : i<l.length,q l[i]=false) (λ k=>l.length - k) (0) ?_ (Le.snap [] rfl rfl (by simp [hs2,hs3,hs4])) ?_
 .simp
 rintro k ⟨hk,hp⟩
 refine zab ?_;refine zan ?_;refine zab ?_;refine zad _ rfl (λ h4=>?_) λ h4=>?_
 .try simp at h4
  have hw2 : IntKind.i64.wrap ((k : Int)+1)=(k : Int)+1:=w6;have hck:=hc l[k] (List.getElem_mem h4);refine zae ?_;refine zab ?_;refine zaf ?_;refine zab ?_;refine zar (s:=?s5) rfl ?o5 ?q5
  case o5=>simp [h4,hw2]; rfl
  refine zab ?_;refine zar (s:=?s6) rfl ?o6 ?q6
  case o6 =>
   simp [h4,hw2];refine zap hck ?_ ?_
   .simp [hs2,hs3,hs4]
   simp [h4,hw2]; rfl
  refine zad _ rfl (λ h7=>?_) λ h7=>?_
  .try simp at h7
   refine zab ?_;refine zar (s:=?s8) rfl ?o8 ?q8
   case o8=>simp [h4,hw2]; rfl
   refine zai ?_;exact ⟨.inr rfl,zao.one (by simp [zrC h4 hp h7])⟩
  try simp at h7
  refine zae ?_;refine zar (s:=?s9) rfl ?o9 ?q9
  case o9=>simp [h4,hw2]; rfl
  refine ⟨k+1,⟨h4,λ i hi=>?_⟩,by omega,Le.snap [] rfl rfl (by simp [h4,hw2,hs2,hs3,hs4])⟩
  rcases Nat.lt_succ_iff_lt_or_eq.1 hi with h | rfl
  .exact hp i h
  .exact λ _=>h7
 try simp at h4
 have hall : ∀ i,i<l.length -> ∀ h : i<l.length,q l[i]=false:=λ i hi=>hp i (by omega)
 refine zaq ?_;refine hit ?_;refine zab ?_;refine zan ?_;refine zai ?_;exact ⟨.inr rfl,zao.one (by simp [zrF hall])⟩
abbrev zag (l : List Int) : List (List AV):=l.map λ e=>[AV.I e]
theorem zjf {l : List Int} {q : Int->Bool} (h : ∀ i,i<l.length -> ∀ h : i<l.length,q l[i]=false) : l.filter (λ e=>!q e)=l:=by
 rw [List.filter_eq_self];intro x hx;obtain ⟨i,hi,rfl⟩:=List.mem_iff_getElem.1 hx;simp [h i hi hi]
theorem zg5 (l : List Int) (q : Int->Bool) (j : Nat) (h : j<l.length) : (l.take (j+1)).filter (λ e=>!q e)=(l.take j).filter (λ e=>!q e)++if q l[j]=true then [] else [l[j]]:=by
 rw [<- List.take_concat_get h,List.concat_eq_append,List.filter_append]
 congr 1
 cases hq : q l[j] <;> simp [hq]
set_option maxRecDepth 100000 in
theorem znu (f : FuncId) (capt : List AV) (q : Int->Bool) (l : List Int) (n m : Nat) (hn : l.length=n) (hm : (l.filter λ e=>!q e).length=m) (hl : n<=1099511627776) (hs : zlI capt) (hc : ∀ e∈l,zaj Tryz.prog f (AV.I e::capt) [] (.B (q e)) []) :
  zaj Tryz.prog zbd [.rs 0 0 n,.fn (.func f) [] capt] [⟨1,zag l,0⟩] (.rs 0 0 m) [some ⟨1,zag (l.filter λ e=>!q e)++List.replicate (n - m) [.I 0],0⟩]:=by
 have hs2 : ∀ ρ sn h,capt.map (conv ρ sn h 2)=capt:=λ _ _ _=>hs _ _ _ 1
 have hs3 : ∀ ρ sn h,capt.map (conv ρ sn h 3)=capt:=λ _ _ _=>hs _ _ _ 2
 have hs4 : ∀ ρ sn h,capt.map (conv ρ sn h 4)=capt:=λ _ _ _=>hs _ _ _ 3
 refine zch.acalls (nbz rfl) (nbz rfl) (nbz rfl) ?_;show awp _ 1 _ _ ⟨42,[(0,.rs 0 0 n),(1,.fn (.func f) [] capt)],[(0,some ⟨1,zag l,0⟩)],16⟩;have hmn : m<=n:=by rw [<- hm,<- hn]; exact List.length_filter_le _ _
 refine zaa ⟨42,[(0,.rs 0 0 n),(1,.fn (.func f) [] capt)],[(0,some ⟨1,zag l,0⟩)],24⟩ rfl ?_ ?_
 .simp
  exact Le.keep rfl (Nat.le_refl _) (by simp) (by simp)
 refine zaa ⟨42,[(0,.rs 0 0 n),(1,.fn (.func f) [] capt),(5,.I (idxQ l q))],[(0,some ⟨1,zag l,0⟩)],56⟩ rfl ?_ ?_
 .simp
  refine zi1 [0] (zjZ f capt q l (by omega) hs hc) ?_ (.sc _) ?_
  .simp [hs2,hs3,hs4,<- hn,fcd,zac]
  simp;exact Le.keep rfl (Nat.le_refl _) (by simp) (by simp)
 refine zab ?_;refine zaa ⟨42,[(0,.rs 0 0 n),(1,.fn (.func f) [] capt),(5,.I (idxQ l q)),(12,.B (decide (idxQ l q = -1)))],[(0,some ⟨1,zag l,0⟩)],72⟩ rfl ?_ ?_
 .simp
  exact Le.keep rfl (Nat.le_refl _) (by simp <;> rw [Bool.eq_iff_iff] <;> simp) (by simp)
 refine zad _ rfl (λ h=>?_) λ h=>zae ?_
 .simp only [decide_eq_true_eq] at h
  have hno : ∀ i,i<l.length -> ∀ h : i<l.length,q l[i]=false:=by
   intro i hi _;unfold idxQ at h;split at h
   .omega
   .rename_i hnl
    have : l.findIdx q=l.length:=by have:=List.findIdx_le_length (xs:=l) (p:=q); omega
    rw [List.findIdx_eq_length] at this;exact this _ (List.getElem_mem hi)
  have hf:=zjf hno;rw [hf] at hm ⊢;obtain rfl : n=m:=by omega
  refine zab ?_;refine zan ?_;refine zai ?_;refine ⟨.inr rfl,⟨[.rs 0 0 n],rfl,[],[],by simp [List.range,List.range.loop],by simp,by simp,?_,?_⟩⟩
  .simp [List.range,List.range.loop]
  .simp [List.range,List.range.loop,fcd]
 simp only [decide_eq_false_iff_not] at h
 obtain ⟨i0,hi0,hlt,hbef,hat⟩ : ∃ i0 : Nat,idxQ l q=i0/\i0<l.length/\(∀ i,i<i0 -> ∀ h : i<l.length,q l[i]=false) /\ ∀ h : i0<l.length,q l[i0]=true:=by
  unfold idxQ at h ⊢;split at h
  .rename_i hlt
   refine ⟨l.findIdx q,by rw [if_pos hlt],hlt,λ i hi _=>?_,λ h=>List.findIdx_getElem (w:=h)⟩
   simpa using List.not_of_lt_findIdx hi
  .omega
 rw [hi0]
 have hA0 : (l.take (i0+1)).filter (λ e=>!q e)=l.take i0:=by
  rw [zg5 l q i0 hlt,if_pos (hat hlt),List.append_nil];refine zjf λ i hi h=>?_;rw [List.length_take] at hi;simp only [List.getElem_take];exact hbef i (by omega) (by omega)
 have hw0 : IntKind.i64.wrap ((i0 : Int)+1)=((i0+1 : Nat) : Int):=by rw [w6]; omega
 let C : Nat × List Int->St:=λ p=>⟨42,[(0,.rs 0 0 n),(1,.fn (.func f) [] capt),(5,.I ((l.take p.1).filter λ e=>!q e).length),(6,.I p.1)],[(0,some ⟨1,zag ((l.take p.1).filter (λ e=>!q e)++p.2++l.drop p.1),0⟩)],96⟩
 refine zab ?_;refine zaa (C (i0+1,[l[i0]])) rfl ?_ ?_
 .simp [hw0]
  refine Le.keep rfl (Nat.le_refl _) ?_ ?_
  .simp only [C,hA0]
   simp;omega
  .simp only [C,hA0]
   simp
 refine zaf ?_;refine zas C (λ p : Nat × List Int=>p.1<=n/\p.2≠[]/\((l.take p.1).filter λ e=>!q e).length+p.2.length=p.1) (λ p : Nat × List Int=>n - p.1) (i0+1,[l[i0]]) ?_ (Le.refl _ _) ?_
 .simp only [hA0]
  simp;omega
 rintro ⟨j,M⟩ ⟨hj,hM,hlen⟩
 simp only at hj hM hlen ⊢;obtain ⟨A,hA⟩ : ∃ A,A=(l.take j).filter λ e=>!q e:=⟨_,rfl⟩;rw [<- hA] at hlen;have hC : C (j,M)=⟨42,[(0,.rs 0 0 n),(1,.fn (.func f) [] capt),(5,.I A.length),(6,.I j)],[(0,some ⟨1,zag (A++M++l.drop j),0⟩)],96⟩:=by subst hA; rfl
 rw [hC];refine zab ?_;refine zaa ⟨42,[(0,.rs 0 0 n),(1,.fn (.func f) [] capt),(5,.I A.length),(6,.I j),(19,.B (decide (j<n)))],[(0,some ⟨1,zag (A++M++l.drop j),0⟩)],128⟩ rfl ?_ ?_
 .simp
  exact Le.keep rfl (Nat.le_refl _) (by simp) (by simp)
 refine zad _ rfl (λ h=>zae ?_) λ h=>zaq (hit ?_)
 .simp only [decide_eq_true_eq] at h
  have hjl : j<l.length:=by omega
  match M,hM,hlen with
  | m0::M1,_,hlen =>
  simp only [List.length_cons] at hlen;have hnext:=zg5 l q j hjl;rw [<- hA] at hnext
  have hget : (zag (A++m0::M1++l.drop j))[j]? = some [AV.I l[j]]:=by
   rw [List.getElem?_map,List.getElem?_append_right (by simp; omega),List.getElem?_drop,show j+(j - (A++m0::M1).length)=j by simp; omega,List.getElem?_eq_getElem hjl]
   rfl
  have hget2 : (zag (A++m0::M1++l.drop j))[A.length]? = some [AV.I m0]:=by
   rw [List.getElem?_map,List.append_assoc,List.getElem?_append_right (by omega)]
   simp
  have hset : (zag (A++m0::M1++l.drop j)).set A.length [AV.I l[j]]=zag ((A++[l[j]])++(M1++[l[j]])++l.drop (j+1)):=by
   have e1 : l.drop j=l[j]::l.drop (j+1):=List.drop_eq_getElem_cons hjl;rw [e1];simp [zag,List.set_append]
  have hmore : A++m0::M1++l.drop j=A++(m0::M1++[l[j]])++l.drop (j+1):=by
   have e1 : l.drop j=l[j]::l.drop (j+1):=List.drop_eq_getElem_cons hjl;rw [e1];simp
  generalize hrows : zag (A++m0::M1++l.drop j)=R at *;have hRl : R.length=n:=by rw [<- hrows]; simp; omega
  have hck:=hc l[j] (List.getElem_mem hjl);generalize hv : l[j]=v at *
  refine zaO (ι:=List Int × List Int) (λ p=>⟨42,[(0,.rs 0 0 n),(1,.fn (.func f) [] capt),(5,.I p.1.length),(6,.I j)],[(0,some ⟨1,zag (p.1++p.2++l.drop (j+1)),0⟩)],272⟩)
   (λ p=>p.1=(l.take (j+1)).filter (λ e=>!q e)/\p.2≠[]/\p.1.length+p.2.length=j+1) ?_ ?_
  .refine zaf ?_
   refine zaa ⟨42,[(0,.rs 0 0 n),(1,.fn (.func f) [] capt),(5,.I A.length),(6,.I j),(7,.I v)],[(0,some ⟨1,R,0⟩)],168⟩ rfl ?_ ?_
   .simp [h,hget]
    exact Le.keep rfl (Nat.le_refl _) (by simp) (by simp)
   refine zaa ⟨42,[(0,.rs 0 0 n),(1,.fn (.func f) [] capt),(5,.I A.length),(6,.I j),(7,.I v),(29,.B (!q v))],[(0,some ⟨1,R,0⟩)],200⟩ rfl ?_ ?_
   .simp
    refine zap hck ?_ ?_
    .simp [hs2,hs3,hs4]
    simp;exact Le.keep rfl (Nat.le_refl _) (by simp) (by simp)
   refine zad _ rfl (λ h5=>?_) λ h5=>zae ?_
   .simp only [Bool.not_eq_true'] at h5
    rw [h5] at hnext;refine zaa ⟨42,[(0,.rs 0 0 n),(1,.fn (.func f) [] capt),(5,.I A.length),(6,.I j)],[(0,some ⟨1,zag ((A++[v])++(M1++[v])++l.drop (j+1)),0⟩)],240⟩ rfl ?_ ?_
    .simp [hget2,show A.length<n by omega,zat,hset]
     exact Le.keep rfl (Nat.le_refl _) (by simp) (by simp)
    have hwA : IntKind.i64.wrap ((A.length : Int)+1)=((A.length+1 : Nat) : Int):=by rw [w6]; omega
    refine zav rfl ?_;simp [hwA];refine ⟨A++[v],M1++[v],⟨by rw [hnext]; simp,by simp,by simp; omega⟩,Le.keep rfl (nbz rfl) (by simp) (by simp)⟩
   .simp only [Bool.not_eq_false'] at h5
    rw [h5] at hnext;refine ⟨(A,m0::M1++[v]),⟨by rw [hnext]; simp,by simp,by simp; omega⟩,Le.keep rfl (nbz rfl) (by simp) ?_⟩
    rw [<- hmore,hrows];simp
  rintro ⟨A',M'⟩ ⟨p1,p2,p3⟩
  simp only at p1 p2 p3 ⊢;have hwj : IntKind.i64.wrap ((j : Int)+1)=((j+1 : Nat) : Int):=by rw [w6]; omega
  refine zav rfl ?_;simp [hwj];refine ⟨j+1,M',⟨by omega,p2,by rw [<- p1]; omega⟩,by omega,?_⟩
  have hD : C (j+1,M')=⟨42,[(0,.rs 0 0 n),(1,.fn (.func f) [] capt),(5,.I A'.length),(6,.I ((j+1 : Nat) : Int))],[(0,some ⟨1,zag (A'++M'++l.drop (j+1)),0⟩)],96⟩:=by rw [p1]
  rw [hD];refine Le.ents [(0,0)] [] rfl (by simp) (by simp) (by simp) (by simp) (by simp) (by simp [hs2,hs3,hs4]) λ p hp=>?_
  simp at hp;subst hp;exact ⟨0,_,_,rfl,by simp,rfl,zaN.eq (by simp [fcd]) (by simp)⟩
 simp only [decide_eq_false_iff_not] at h;obtain rfl : j=n:=by omega
 have hd : l.drop j=[]:=List.drop_eq_nil_of_le (by omega)
 have ht : l.take j=l:=List.take_of_length_le (by omega)
 rw [ht] at hA;rw [hd,List.append_nil];rw [<- hA] at hm ⊢;subst hm;have hAM : (zag (A++M)).take A.length=zag A:=by simp [zag]
 have hAd : (zag (A++M)).drop (A.length+(j - A.length))=[]:=List.drop_eq_nil_of_le (by simp; omega)
 have hAl : (zag (A++M)).length=j:=by simp; omega
 generalize zag (A++M)=R at *;refine zaa ⟨42,[(0,.rs 0 0 j),(5,.I A.length)],[(0,some ⟨1,zag A++List.replicate (j - A.length) [.I 0],0⟩)],160⟩ rfl ?_ ?_
 .simp
  refine ⟨by omega,by omega,?_⟩
  rw [hAM,hAd];exact Le.keep rfl (Nat.le_refl _) (by simp) (by simp)
 refine zab ?_;refine zar (s:=?s2) rfl ?o2 ?q2
 case o2 =>
  simp;refine ⟨by omega,?_⟩
  rfl
 refine zai ?_;refine ⟨.inr rfl,⟨[.rs 0 0 A.length],rfl,[],[],by simp [List.range,List.range.loop],by simp,by simp,?_,?_⟩⟩
 .simp [List.range,List.range.loop]
 .simp [List.range,List.range.loop,fcd]
theorem zlG (f : FuncId) (capt : List AV) (q : Int->Bool) (l : List Int) (hl : l.length<=1099511627776) (hs : zlI capt) (hc : ∀ e∈l,zaj Tryz.prog f (AV.I e::capt) [] (.B (q e)) []) : zaj Tryz.prog zaW [ints l,.fn (.func f) [] capt] [] (.B (l.any q)) []:=by
 have hs2 : ∀ ρ sn h,capt.map (conv ρ sn h 2)=capt:=λ _ _ _=>hs _ _ _ 1
 have hs3 : ∀ ρ sn h,capt.map (conv ρ sn h 3)=capt:=λ _ _ _=>hs _ _ _ 2
 have hs4 : ∀ ρ sn h,capt.map (conv ρ sn h 4)=capt:=λ _ _ _=>hs _ _ _ 3
 refine zb3.ac ?_;show awp _ 0 _ _ ⟨9,[(0,ints l),(1,.fn (.func f) [] capt)],[],16⟩;refine zab ?_;refine zan ?_
 have hi : decide (0<=idxQ l q)=l.any q:=by
  unfold idxQ
  by_cases h : l.findIdx q<l.length
  .rw [if_pos h]
   have:=List.findIdx_getElem (w:=h);have h2 : l.any q=true:=List.any_eq_true.2 ⟨_,List.getElem_mem h,this⟩;rw [h2];simp
  .rw [if_neg h]
   have : l.findIdx q=l.length:=by have:=List.findIdx_le_length (xs:=l) (p:=q); omega
   rw [List.findIdx_eq_length] at this
   have h2 : l.any q=false:=by
    rw [List.any_eq_false];intro x hx;simp [this x hx]
   rw [h2];simp
 refine zaa ⟨9,[(4,.B (l.any q))],[],16⟩ rfl ?_ ?_
 .simp
  refine zap (zjZ f capt q l hl hs hc) ?_ ?_
  .simp [hs2,hs3,hs4]
  simp;exact Le.snap [] rfl rfl (by simp; exact wkB hi)
 refine zai ?_;exact ⟨.inr rfl,zao.one (by simp)⟩
def za7 (n : Nat) (q : Int->Bool) : List Int:=((List.range n).map λ (i : Nat)=>(i : Int)).filter q
theorem zhg (n : Nat) (q : Int->Bool) : za7 (n+1) q=za7 n q++if q n=true then [(n : Int)] else []:=by
 unfold za7;rw [List.range_succ,List.map_append,List.filter_append]
 congr 1
 cases hq : q n <;> simp [hq]
theorem zfQ (n : Nat) (q : Int->Bool) : (za7 n q).length<=n:=by
 unfold za7;have:=List.length_filter_le q ((List.range n).map λ (i : Nat)=>(i : Int))
 simpa using this
set_option maxRecDepth 100000 in
theorem zkc (f : FuncId) (capt : List AV) (q : Int->Bool) (N : Int) (hN : N<=1000000) (hs : zlI capt) (hc : ∀ k : Nat,(k : Int)<N->zaj Tryz.prog f (AV.I k::capt) [] (.B (q k)) []) :
  zaj Tryz.prog zbt [.I N,.fn (.func f) [] capt] [] (.rs 0 0 (za7 N.toNat q).length) [some ⟨1,zag (za7 N.toNat q),0⟩]:=by
 have hs2 : ∀ ρ sn h,capt.map (conv ρ sn h 2)=capt:=λ _ _ _=>hs _ _ _ 1
 have hs3 : ∀ ρ sn h,capt.map (conv ρ sn h 3)=capt:=λ _ _ _=>hs _ _ _ 2
 have hs4 : ∀ ρ sn h,capt.map (conv ρ sn h 4)=capt:=λ _ _ _=>hs _ _ _ 3
 refine zgi.ac ?_;show awp _ 0 _ _ ⟨20,[(0,.I N),(1,.fn (.func f) [] capt)],[],16⟩;refine zab ?_;refine zan ?_;refine zab ?_;refine zan ?_;refine zab ?_;refine zab ?_;refine zan ?_;refine zaf ?_
 let C : Nat->St:=λ k=>⟨20,[(1,.fn (.func f) [] capt),(5,.rs 16 0 (za7 k q).length),(7,.I N),(8,.I k)],[(16,some ⟨1,zag (za7 k q),0⟩)],24⟩
 refine zas C (λ k=>k<=N.toNat) (λ k=>N.toNat - k) 0 (Nat.zero_le _) (Le.lst [] [] [(16,1)] rfl (by simp) (by simp) (by simp) (by simp [C]) (by simp) (by simp) (by simp) (by simp [C,Up,za7,hs2,hs3,hs4]) (by simp [C,za7])) ?_
 intro k hk;have hwl:=zfQ k q;have hCk : C k=⟨20,[(1,.fn (.func f) [] capt),(5,.rs 16 0 (za7 k q).length),(7,.I N),(8,.I k)],[(16,some ⟨1,zag (za7 k q),0⟩)],24⟩:=rfl;rw [hCk];refine zaa ⟨20,[(1,.fn (.func f) [] capt),(5,.rs 16 0 (za7 k q).length),(7,.I N),(8,.I k),(9,.B (decide ((k : Int)<N)))],[(16,some ⟨1,zag (za7 k q),0⟩)],32⟩ rfl ?_ ?_
 .simp
  exact Le.keep rfl (Nat.le_refl _) (by simp) (by simp)
 refine zab ?_;refine zad _ rfl (λ h=>zae ?_) λ h=>zaq (hit ?_)
 .simp only [decide_eq_true_eq] at h
  have hck:=hc k h;have hnext:=zhg k q;have hw2 : IntKind.i64.wrap ((k : Int)+1)=((k+1 : Nat) : Int):=by rw [w6]; omega
  refine zaO (ι:=Unit) (λ _=>⟨20,[(1,.fn (.func f) [] capt),(5,.rs 16 0 (za7 (k+1) q).length),(7,.I N),(8,.I k)],[(16,some ⟨1,zag (za7 (k+1) q),0⟩)],24⟩) (λ _=>True) ?_ λ _ _=>?_
  .rw [hnext]
   generalize za7 k q=W at *;refine zaf ?_;refine zab ?_;refine zan ?_;refine zaa ⟨20,[(1,.fn (.func f) [] capt),(5,.rs 16 0 W.length),(6,.I k),(7,.I N),(8,.I k),(13,.B (q k))],[(16,some ⟨1,zag W,0⟩)],72⟩ rfl ?_ ?_
   .simp
    refine zap hck ?_ ?_
    .simp [hs2,hs3,hs4]
    simp;exact Le.keep rfl (Nat.le_refl _) (by simp) (by simp)
   refine zad _ rfl (λ h5=>?_) λ h5=>zae ?_
   .rw [if_pos h5]
    refine zav rfl ?_;simp [List.replicate];refine ⟨by omega,by omega,zky (i:=96) (sn:=[]) rfl rfl (by simp) (by simp) rfl (by simp [fcd,zac]) (by simp) (by simp [hs2,hs3,hs4])⟩
   .rw [if_neg (by simp [h5]),List.append_nil]
    exact ⟨(),trivial,zky (i:=16) (sn:=[]) rfl rfl (by simp) (by simp) rfl (by simp [fcd]) (by simp) (by simp [hs2,hs3,hs4])⟩
  refine zav rfl ?_;simp [hw2];exact ⟨k+1,by omega,by omega,zky (i:=16) (sn:=[]) rfl rfl (by simp [C]) (by simp) rfl (by simp [fcd]) (by simp) (by simp [C,hs2,hs3,hs4])⟩
 simp only [decide_eq_false_iff_not] at h;obtain rfl : k=N.toNat:=by omega
 generalize za7 N.toNat q=W at *;refine zab ?_;refine zan ?_;refine zai ?_;exact ⟨.inr rfl,zao.out [16] [] rfl (by simp) (by simp) (by simp) (by simp [fcd])⟩
theorem wu64 {x : Int} (h1 : 0<=x) (h2 : x<18446744073709551616) : IntKind.u64.wrap x=x:=by rw [IntKind.wrap_u64]; omega
theorem zx2 (n : Nat) (h : n<4294967296) : binV .and (.int .u64 (n : Int)) (.int .u64 4294967295)=some (.int .u64 (n : Int)):=by
 have e : (BitVec.ofInt 64 (n : Int) &&& BitVec.ofInt 64 4294967295).toNat=n:=by
  have h1 : (BitVec.ofInt 64 (n : Int)).toNat=n:=by
   rw [BitVec.toNat_ofInt];omega
  have h2 : (BitVec.ofInt 64 (4294967295 : Int)).toNat=2 ^ 32 - 1:=rfl;rw [BitVec.toNat_and,h1,h2,Nat.and_two_pow_sub_one_eq_mod];omega
 show some (Value.int .u64 (IntKind.u64.wrap ((BitVec.ofInt 64 (n : Int) &&& BitVec.ofInt 64 4294967295).toNat : Int)))=_;rw [e,wu64 (by omega) (by omega)]
theorem zyh (n : Nat) (h : n<4294967296) : binV .shr (.int .u64 (n : Int)) (.int .u64 32)=some (.int .u64 0):=by
 show (if (0 : Int)<=32 then some (Value.int .u64 ((n : Int).fdiv (2 ^ (min (32 : Int).toNat 64)))) else none)=_
 rw [if_pos (by omega)]
 congr 2
 have : (2 : Int) ^ (min (32 : Int).toNat 64)=4294967296:=rfl;rw [this,Int.fdiv_eq_ediv_of_nonneg _ (by omega)]
 omega
abbrev U (n : Int) : AV:=.sc (.int .u64 n)
theorem zwO (n : Nat) (h : n<4294967296) : zaj Tryz.prog zb6 [U 1,U n] [] (.tup [U 0,U n]) []:=by
 refine zdR.ac ?_;show awp _ 0 _ _ ⟨51,[(0,U 1),(1,U n)],[],16⟩;have a1 : binV .and (.int .u64 1) (.int .u64 4294967295)=some (.int .u64 1):=zx2 1 (by omega)
 have a0 : binV .and (.int .u64 0) (.int .u64 4294967295)=some (.int .u64 0):=zx2 0 (by omega)
 have an:=zx2 n h;have s1 : binV .shr (.int .u64 1) (.int .u64 32)=some (.int .u64 0):=zyh 1 (by omega)
 have s0 : binV .shr (.int .u64 0) (.int .u64 32)=some (.int .u64 0):=zyh 0 (by omega)
 have sn:=zyh n h
 have m1 : ∀ a : Int,binV .mul (.int .u64 0) (.int .u64 a)=some (.int .u64 0):=λ a=>by
  show some (Value.int .u64 (IntKind.u64.wrap (0*a)))=_;rw [Int.zero_mul];rfl
 have m2 : binV .mul (.int .u64 1) (.int .u64 (n : Int))=some (.int .u64 (n : Int)):=by
  show some (Value.int .u64 (IntKind.u64.wrap (1*(n : Int))))=_;rw [Int.one_mul,wu64 (by omega) (by omega)]
 have m3 : binV .mul (.int .u64 1) (.int .u64 0)=some (.int .u64 0):=rfl;have d0 : binV .add (.int .u64 0) (.int .u64 0)=some (.int .u64 0):=rfl;refine zab ?_;refine zan ?_;refine zab ?_;refine zar (s:=?z2) rfl ?p2 ?r2
 case p2=>simp [-binV,a1]; rfl
 refine zab ?_;refine zar (s:=?z3) rfl ?p3 ?r3
 case p3=>simp [-binV,s1]; rfl
 refine zab ?_;refine zar (s:=?z4) rfl ?p4 ?r4
 case p4=>simp [-binV,an]; rfl
 refine zab ?_;refine zar (s:=?z5) rfl ?p5 ?r5
 case p5=>simp [-binV,sn]; rfl
 refine zab ?_;refine zar (s:=?z6) rfl ?p6 ?r6
 case p6=>simp [-binV,m2]; rfl
 refine zab ?_;refine zar (s:=?z7) rfl ?p7 ?r7
 case p7=>simp [-binV,m1,sn,d0]; rfl
 refine zab ?_;refine zar (s:=?z8) rfl ?p8 ?r8
 case p8=>simp [-binV,a0]; rfl
 refine zab ?_;refine zar (s:=?z9) rfl ?p9 ?r9
 case p9=>simp [-binV,s0]; rfl
 refine zab ?_;refine zar (s:=?z10) rfl ?p10 ?r10
 case p10=>simp [-binV,m3,d0]; rfl
 refine zab ?_;refine zar (s:=?z11) rfl ?p11 ?r11
 case p11=>simp [-binV,m1,d0,s0]; rfl
 refine zab ?_;refine zar (s:=?z12) rfl ?p12 ?r12
 case p12=>simp [-binV,m2]; rfl
 refine zai ?_;exact ⟨.inr rfl,zao.out [] [] rfl (by simp) (by simp) (by simp) (by simp)⟩
theorem zAf (n : Nat) (h : n<4294967296) : zaj Tryz.prog zdO [U 1,U n] [] (.tup [U 0,U n]) []:=by
 refine zgL.ac ?_;show awp _ 0 _ _ ⟨30,[(0,U 1),(1,U n)],[],16⟩;refine zab ?_;refine zan ?_;refine zab ?_;refine zad _ rfl (λ h=>by cases h) λ _=>zae ?_
 refine zab ?_;refine zar (s:=?z2) rfl ?p2 ?r2
 case p2=>simp; refine zap (zwO n h) rfl ?_; simp; rfl
 refine zab ?_;refine zan ?_;refine zai ?_;exact ⟨.inr rfl,zao.out [] [] rfl (by simp) (by simp) (by simp) (by simp)⟩
set_option maxRecDepth 100000 in
theorem zvl (v : Int) (n : Nat) (hn : n<=1000000) : zaj Tryz.prog zbx [ints [v],.I n] [] (.rs 0 0 n) [some ⟨1,List.replicate n [AV.I v],0⟩]:=by
 refine zc0.ac ?_;show awp _ 0 _ _ ⟨48,[(0,ints [v]),(1,.I n)],[],16⟩;have hu1 : IntKind.u64.wrap 1=1:=rfl;have hun : IntKind.u64.wrap (n : Int)=n:=wu64 (by omega) (by omega)
 have hin : IntKind.i64.wrap (n : Int)=n:=w6;refine zab ?_;refine zan ?_;refine zab ?_;refine zaa ⟨48,[(0,ints [v]),(1,.I n),(10,.B false)],[],40⟩ rfl ?_ ?_
 .simp
  exact Le.keep rfl (Nat.le_refl _) (by simp) (by simp)
 refine zad _ rfl (λ h=>by cases h) λ _=>zae ?_
 refine zaa ⟨48,[(0,ints [v]),(1,.I n),(5,U 0),(6,U n)],[],128⟩ rfl ?_ ?_
 .simp [hu1,hun]
  refine zap (zAf n (by omega)) rfl ?_
  simp;exact Le.keep rfl (Nat.le_refl _) (by simp) (by simp)
 refine zab ?_;refine zaa ⟨48,[(0,ints [v]),(1,.I n),(5,U 0),(6,U n),(26,.B false)],[],176⟩ rfl ?_ ?_
 .simp
  exact Le.keep rfl (Nat.le_refl _) (by simp; omega) (by simp)
 refine zad _ rfl (λ h=>by cases h) λ _=>zae ?_
 refine zaa ⟨48,[(0,ints [v]),(7,.rs 192 0 n)],[(192,some ⟨1,List.replicate n [.I 0],0⟩)],208⟩ rfl ?_ ?_
 .simp [hin]
  exact ⟨by omega,by omega,Le.keep rfl (Nat.le_refl _) (by simp) (by simp)⟩
 let R : Nat->List (List AV):=λ m=>List.replicate m [AV.I v]++List.replicate (n - m) [AV.I 0]
 have hRl : ∀ m,m<=n->(R m).length=n:=λ m hm=>by simp [R]; omega
 refine zaa ⟨48,[(7,.rs 192 0 n),(8,.I (min 1 n : Nat))],[(192,some ⟨1,R (min 1 n),0⟩)],240⟩ rfl ?_ ?_
 .simp
  refine Le.keep rfl (Nat.le_refl _) (by simp) ?_
  cases n with
  | zero=>simp [R]
  | succ n=>simp [R,List.replicate]
 refine zab ?_;refine zaf ?_;refine zas (ι:=Nat) (λ m=>⟨48,[(7,.rs 192 0 n),(8,.I m)],[(192,some ⟨1,R m,0⟩)],240⟩) (λ m=>m<=n/\(m=0->n=0)) (λ m=>n - m) (min 1 n) ⟨by omega,by omega⟩ (Le.refl _ _) ?_
 rintro m ⟨hm,hm0⟩
 refine zab ?_;refine zaa ⟨48,[(7,.rs 192 0 n),(8,.I m),(37,.B (decide (m<n)))],[(192,some ⟨1,R m,0⟩)],272⟩ rfl ?_ ?_
 .simp
  exact Le.keep rfl (Nat.le_refl _) (by simp) (by simp)
 refine zad _ rfl (λ h=>zae ?_) λ h=>zaq (hit ?_)
 .simp only [decide_eq_true_eq] at h
  obtain ⟨k,hk⟩ : ∃ k,k=min m (n - m):=⟨_,rfl⟩;have hw : IntKind.i64.wrap ((m : Int)+(k : Int))=((m+k : Nat) : Int):=by rw [w6]; omega
  have ht : (R m).take m=List.replicate m [AV.I v]:=by simp [R]
  have hd : (R m).drop (m+k)=List.replicate (n - (m+k)) [AV.I 0]:=by
   simp only [R];rw [List.drop_append,List.drop_eq_nil_of_le (by simp),List.nil_append,List.drop_replicate]
   simp;omega
  have hl:=hRl m hm
  have hnew : List.replicate m [AV.I v]++(List.replicate k [AV.I v]++List.replicate (n - (m+k)) [AV.I 0])=R (m+k):=by
   simp only [R];rw [<- List.append_assoc,List.replicate_append_replicate]
  refine zaf ?_;refine zcP rfl ?_;generalize R m=X at *;simp [hl,ht];refine ⟨by omega,by omega,_,⟨by omega,rfl⟩,rfl,m+k,⟨by omega,by omega⟩,by omega,?_⟩
  have e1 : min (List.replicate m (([AV.I v] : List AV))).length (n - m)=k:=by simp [hk]
  rw [e1,hw,hd,List.take_replicate,show min k m=k by omega,hnew]
  exact zky (i:=192) (sn:=[]) rfl rfl (by simp) (by simp) rfl (by simp [R]) (by simp) (by simp)
 obtain rfl : m=n:=by simp at h; omega
 refine zab ?_;refine zan ?_;refine zai ?_;exact ⟨.inr rfl,zao.out [192] [] rfl (by simp) (by simp) (by simp) (by simp [R])⟩
def zfb (g : Gr) (S : List Int) (k : Int) : Bool:=S.contains k && !g.gone.contains k
def dl (g : Gr) (S : List Int) : Nat->Int->Int
 | 0,k=>if zfb g S k=true then 0 else -1
 | n+1,k=>if 0<=dl g S n k then dl g S n k else if g.edges.any (λ e=>decide (e.t=k) && decide (dl g S n e.f=n))=true then (n : Int)+1 else -1
def Key (g : Gr) (k : Int) : Prop:=0<=k/\k<g.size
variable {g : Gr} {S : List Int}
theorem zcD (n : Nat) (k : Int) : -1<=dl g S n k/\dl g S n k<=n:=by
 induction n with
 | zero=>unfold dl; split <;> omega
 | succ n ih=>unfold dl; split <;> (try split) <;> omega
theorem zgM {n : Nat} {k : Int} (h : 0<=dl g S n k) : dl g S (n+1) k=dl g S n k:=by
 rw [dl,if_pos h]
theorem zyj {n m : Nat} {k : Int} (hnm : n<=m) (h : 0<=dl g S n k) : dl g S m k=dl g S n k:=by
 induction m with
 | zero=>obtain rfl : n=0:=by omega
         rfl
 | succ m ih =>
   rcases Nat.lt_or_ge n (m+1) with h1 | h1
   .have:=ih (by omega)
    rw [zgM (by omega),this]
   .obtain rfl : n=m+1:=by omega
    rfl
theorem zqN {n : Nat} {k : Int} (h : 0<=dl g S (n+1) k) (h2 : ¬ 0<=dl g S n k) : dl g S (n+1) k=n+1 /\ ∃ e∈g.edges,e.t=k/\dl g S n e.f=n:=by
 rw [dl,if_neg h2] at h ⊢;split at h
 .rename_i ha
  rw [if_pos ha];rw [List.any_eq_true] at ha;obtain ⟨e,he,ha⟩:=ha;simp at ha;exact ⟨rfl,e,he,ha.1,ha.2⟩
 .omega
theorem zBg {n : Nat} {k : Int} (h : 0<=dl g S n k) : dl g S (dl g S n k).toNat k=dl g S n k:=by
 induction n with
 | zero =>
   have:=zcD (g:=g) (S:=S) 0 k;have e : dl g S 0 k=0:=by omega
   rw [e]; exact e
 | succ n ih =>
   by_cases h2 : 0<=dl g S n k
   .rw [zgM h2]; exact ih h2
   .obtain ⟨e,_⟩:=zqN h h2
    rw [e];have : ((n : Int)+1).toNat=n+1:=by omega
    rw [this]; exact e
theorem zug {n : Nat} {e : Ed} (he : e∈g.edges) (h : 0<=dl g S n e.f) : 0<=dl g S (n+1) e.t/\dl g S (n+1) e.t<=dl g S n e.f+1:=by
 have hat:=zBg h;have hr:=zcD (g:=g) (S:=S) n e.f;obtain ⟨m,hm⟩ : ∃ m : Nat,dl g S n e.f=m:=⟨(dl g S n e.f).toNat,by omega⟩
 rw [hm] at hat hr ⊢;simp at hat
 have key : 0<=dl g S (m+1) e.t/\dl g S (m+1) e.t<=m+1:=by
  have hr2:=zcD (g:=g) (S:=S) (m+1) e.t;refine ⟨?_,by omega⟩
  rw [dl];split
  .assumption
  .rw [if_pos]
   .omega
   .rw [List.any_eq_true]
    exact ⟨e,he,by simp [hat]⟩
 have:=zyj (g:=g) (S:=S) (n:=m+1) (m:=n+1) (by omega) key.1
 rw [this];exact key
theorem zrE (h : GrOk g) {n : Nat} (hn : ∀ k,Key g k->dl g S n k≠n) : ∀ (m : Nat),n<=m -> ∀ k,Key g k->dl g S m k=dl g S n k/\dl g S m k≠m:=by
 intro m
 induction m with
 | zero =>
   intro hm k hk;obtain rfl : n=0:=by omega
   exact ⟨rfl,hn k hk⟩
 | succ m ih =>
   intro hm k hk;rcases Nat.lt_or_ge n (m+1) with h1 | h1
   .have ihm:=ih (by omega)
    have e : dl g S (m+1) k=dl g S m k:=by
     by_cases h2 : 0<=dl g S m k
     .exact zgM h2
     .have hr:=zcD (g:=g) (S:=S) m k
      by_cases h3 : 0<=dl g S (m+1) k
      .obtain ⟨_,e,he,_,h5⟩:=zqN h3 h2
       have hf:=h.fits e he;exact absurd h5 (ihm e.f ⟨hf.1,by have:=hf.2.1; omega⟩).2
      .have hr2:=zcD (g:=g) (S:=S) (m+1) k
       omega
    have hr:=zcD (g:=g) (S:=S) m k;rw [e,(ihm k hk).1];refine ⟨rfl,?_⟩;rw [(ihm k hk).1] at hr;omega
   .obtain rfl : n=m+1:=by omega
    exact ⟨rfl,hn k hk⟩
def reach (g : Gr) (S : List Int) (n : Nat) : Nat:=(List.range g.size.toNat).countP λ (i : Nat)=>decide (0<=dl g S n (i : Int))
theorem zre {α : Type} {p q : α->Bool} : ∀ {l : List α},(∀ x∈l,p x=true->q x=true)->(∃ x∈l,q x=true/\p x=false)->l.countP p<l.countP q
 | [],_,h=>by obtain ⟨_,h,_⟩:=h; simp at h
 | a::l,h1,h2=>by
   have hle : l.countP p<=l.countP q:=List.countP_mono_left λ x hx=>h1 x (List.mem_cons_of_mem _ hx);simp only [List.countP_cons];obtain ⟨x,hx,hq,hp⟩:=h2;rcases List.mem_cons.1 hx with rfl | hx
   .rw [hq,hp]
    simp;omega
   .have ih:=zre (λ x hx=>h1 x (List.mem_cons_of_mem _ hx)) ⟨x,hx,hq,hp⟩
    have ha:=h1 a List.mem_cons_self
    cases hpa : p a <;> cases hqa : q a <;> simp_all <;> omega
theorem zsj {n : Nat} {k : Int} (hk : Key g k) (h : dl g S (n+1) k=n+1) : reach g S n<reach g S (n+1):=by
 refine zre (λ i _ hi=>?_) ⟨k.toNat,by simp; have:=hk.1; have:=hk.2; omega,?_,?_⟩
 .simp at hi ⊢
  rw [zgM hi]; exact hi
 .have e : ((k.toNat : Nat) : Int)=k:=by have:=hk.1; omega
  simp [e,h];omega
 .have e : ((k.toNat : Nat) : Int)=k:=by have:=hk.1; omega
  simp only [e,decide_eq_false_iff_not];intro h2;rw [zgM h2] at h;have:=zcD (g:=g) (S:=S) n k;omega
theorem zyd (h : GrOk g) {n : Nat} {k : Int} (hd : dl g S (n+1) k=n+1) : ∃ k',Key g k'/\dl g S n k'=n:=by
 have h2 : ¬ 0<=dl g S n k:=by
  intro h2;rw [zgM h2] at hd;have:=zcD (g:=g) (S:=S) n k;omega
 obtain ⟨_,e,he,_,h5⟩:=zqN (by omega) h2
 have hf:=h.fits e he;exact ⟨e.f,⟨hf.1,by have:=hf.2.1; omega⟩,h5⟩
theorem zsB (h : GrOk g) : ∀ {n : Nat} {k : Int},Key g k->dl g S n k=n->n+1<=reach g S n
 | 0,k,hk,hd=>by
   have : 0<reach g S 0:=List.countP_pos_iff.2 ⟨k.toNat,by simp; have:=hk.1; have:=hk.2; omega,by
    have e : ((k.toNat : Nat) : Int)=k:=by have:=hk.1; omega
    simp [e]
    omega⟩
   omega
 | n+1,k,hk,hd=>by
   have hd' : dl g S (n+1) k=(n : Int)+1:=by simpa using hd
   obtain ⟨k',hk',h'⟩:=zyd h hd';have:=zsB h hk' h';have:=zsj hk hd';omega
theorem zwu (n : Nat) : reach g S n<=g.size.toNat:=by
 have:=List.countP_le_length (p:=λ (i : Nat)=>decide (0<=dl g S n (i : Int))) (l:=List.range g.size.toNat)
 simpa [reach] using this
theorem ztg (h : GrOk g) {n : Nat} {k : Int} (hk : Key g k) (hd : dl g S n k=n) : (n : Int)<g.size:=by
 have h1:=zsB h hk hd;have h2:=zwu (g:=g) (S:=S) n;omega
def dist (g : Gr) (S : List Int) (k : Int) : Int:=dl g S g.size.toNat k
theorem zqx (h : GrOk g) {n : Nat} (hn : ∀ k,Key g k->dl g S n k≠n) (k : Int) (hk : Key g k) : dl g S n k=dist g S k:=by
 unfold dist;rcases Nat.le_total n g.size.toNat with h1 | h1
 .exact ((zrE h hn _ h1 k hk).1).symm
 .have hN : ∀ k,Key g k->dl g S g.size.toNat k≠g.size.toNat:=by
   intro k hk hd;have:=ztg h hk hd;omega
  exact (zrE h hN _ h1 k hk).1
theorem ztn (k : Int) : -1<=dist g S k/\dist g S k<=g.size.toNat:=zcD _ _
theorem zrs (h : GrOk g) {k : Int} (hk : Key g k) : dist g S k<g.size∨g.size<=0:=by
 have h1:=ztn (g:=g) (S:=S) k
 by_cases h2 : dist g S k=g.size.toNat
 .have:=ztg h hk h2
  omega
 .have:=hk.1; have:=hk.2; omega
theorem zvj (h : GrOk g) {e : Ed} (he : e∈g.edges) (hf : 0<=dist g S e.f) : 0<=dist g S e.t/\dist g S e.t<=dist g S e.f+1:=by
 have hfit:=h.fits e he;have h1:=zug (S:=S) he hf
 have hN : ∀ k,Key g k->dl g S g.size.toNat k≠g.size.toNat:=by
  intro k hk hd;have:=ztg h hk hd;omega
 have h2:=(zrE h hN (g.size.toNat+1) (by omega) e.t ⟨hfit.2.2.1,by have:=hfit.2.2.2.1; omega⟩).1
 rw [h2] at h1;exact h1
section
variable {P : Program} {np id : Nat} {h : Nat->Option Ent} {K : AV->List Nat->List (Nat × Option Ent)->Prop} {f : FuncId} {first capt args args' : List AV} {res : AV}
theorem zxZ {i : Nat} (sn : List Nat) {e e' : Ent} {hs' : List (Option Ent)} (hij : ∀ j∈sn,j≠i) (hi : h i=some e) (hee : zay [(i,0)] sn h 4 e=e') (hc : zaj P f args' [e'] res hs') (h8 : hs'.length<=9) (he : (first++args++capt).map (conv [(i,0)] sn h 4)=args')
  (hp : Plain res) (hpe : ∀ e,some e∈hs'->zi5 e)
  (hk : K (conv (swp [i] id) [] (λ _=>none) 4 res) (i::sn) ((hs'.zipIdx.map λ (e,k)=>((i::(List.range 8).map (id + ·)).getD k 0,e.map (zay (swp [i] id) [] (λ _=>none) 4)))++[])) : aK P np id .call (.fn (.func f) first capt::args) h K :=
 ⟨[i],sn,false,args',[e'],res,hs',by simp,by simpa using hij,by simp,by rw [show [i].zipIdx=[(i,0)] from rfl,he]; exact zdy _,by rw [show [i].zipIdx=[(i,0)] from rfl]; simpa [hi] using hee,hc,by simpa using h8,.inr ⟨hp,hpe⟩,by simpa [swp] using hk⟩
theorem zxU {j : Nat} {e ej : Ent} (hnp : np<=j) (hj : h j=some ej) (hc : zaj P f args' [] res [some e]) (he : (first++args++capt).map (conv [] [j] h 4)=args')
  (hk : K (conv (swp [] id) [] (λ _=>none) 4 res) [j] [(id,some (zay (swp [] id) [] (λ _=>none) 4 e)),(j,some { ej with ro:=ej.rows.length })]) : aK P np id .call (.fn (.func f) first capt::args) h K :=
 ⟨[],[j],true,args',[],res,[some e],by simp,by simp,by simpa using hnp,by rw [List.zipIdx_nil,he]; exact zdy _,rfl,hc,by simp,.inl rfl,by simpa [swp,hj] using hk⟩
end
theorem zrU {l : List Int} {z : Nat} : zi5 ⟨1,zag l++List.replicate z [AV.I 0],0⟩:=by
 intro row hrow x hx;simp only [List.mem_append,List.mem_map,List.mem_replicate] at hrow;rcases hrow with ⟨y,_,rfl⟩ | ⟨_,rfl⟩
 .simp at hx; subst hx; exact .sc _
 .simp at hx; subst hx; exact .sc _
theorem zxi (g : Gr) (S : List Int) (k : Int) (hS : S.length<=1099511627776) (hg : g.gone.length<=1099511627776) : zaj Tryz.prog zdi [eG g,ints S,.I k] [] (.B (zfb g S k)) []:=by
 refine zfU.ac ?_;show awp _ 0 _ _ ⟨17,[(0,eG g),(1,ints S),(2,.I k)],[],16⟩;refine zaa ⟨17,[(1,ints S),(2,.I k),(3,.pv (gC g))],[],16⟩ rfl ?_ ?_
 .simp
  exact Le.snap [16] rfl rfl (by simp)
 refine zaa ⟨17,[(6,.B (zfb g S k))],[],16⟩ rfl ?_ ?_
 .simp
  refine zf4 zam rfl ?_;refine zap (zdj S k (by omega)) rfl ?_
  simp;refine zem (λ hb=>?_) (λ hb=>?_)
  .simp [hb]
   refine zf4 zam rfl ?_;refine zap (zdj g.gone k (by omega)) rfl ?_
   simp [hb];exact Le.snap [] rfl rfl (by simp [zfb] <;> exact wkB (by simp_all))
  .simp [hb]
   exact Le.snap [] rfl rfl (by simp [zfb] <;> exact wkB (by simp_all))
 refine zai ?_;exact ⟨.inr rfl,zao.one (by simp)⟩
theorem zvp (g : Gr) (S : List Int) (k : Int) (hS : S.length<=1099511627776) (hg : g.gone.length<=1099511627776) : zaj Tryz.prog zcw [.I k,.pv (gC g),.pv [ints S]] [] (.B (zfb g S k)) []:=by
 refine zft.ac ?_;show awp _ 0 _ _ ⟨9,[(0,.I k),(1,.pv (gC g)),(2,.pv [ints S])],[],16⟩;refine zab ?_;refine zan ?_;refine zab ?_;refine zar (s:=?s1) rfl ?o1 ?q1
 case o1=>simp; refine zap (zxi g S k hS hg) rfl ?_; simp; rfl
 refine zai ?_;exact ⟨.inr rfl,zao.one (by simp)⟩
def offQ (D : List Int) (x : Int) : Bool:=!decide (0<=x/\x<D.length) || decide (0<=D.getD x.toNat 0)
theorem zvP (D : List Int) (x : Int) (hD : D.length<=1000000) : zaj Tryz.prog zcx [.I x,.pv [ints D]] [] (.B (offQ D x)) []:=by
 refine zfr.ac ?_;show awp _ 0 _ _ ⟨17,[(0,.I x),(1,.pv [ints D])],[],16⟩;have hw : IntKind.i64.wrap ((D.length : Int) - 1)=(D.length : Int) - 1:=w6;refine zab ?_;refine zan ?_;refine zaa ⟨17,[(3,.B (offQ D x))],[],16⟩ rfl ?_ ?_
 .simp [hw]
  refine zf4 zaF rfl ?_;refine zap (zcl ..) rfl ?_;simp
  by_cases hx : 0<=x/\x<D.length
  .obtain ⟨k,rfl⟩ : ∃ k : Nat,x=k:=⟨x.toNat,by omega⟩
   have hk : k<D.length:=by omega
   have hb : (!decide (0<=(k : Int)) || !decide ((k : Int)<=(D.length : Int) - 1))=false:=by simp; omega
   have ho : offQ D k=decide (0<=D[k]):=by
    unfold offQ;rw [decide_eq_true hx];simp [hk]
   rw [hb,ho];simp [hk];exact Le.snap [] rfl rfl (by simp)
  .have hb : (!decide (0<=x) || !decide (x<=(D.length : Int) - 1))=true:=by simp; omega
   have ho : offQ D x=true:=by
    unfold offQ;rw [decide_eq_false hx];rfl
   rw [hb,ho];simp;exact Le.snap [] rfl rfl (by simp)
 refine zai ?_;exact ⟨.inr rfl,zao.one (by simp)⟩
def zcL (g : Gr) (S : List Int) : List Int:=(List.range g.size.toNat).map λ (i : Nat)=>dist g S (i : Int)
def outL (g : Gr) (S : List Int) (d : Nat) : List Int:=(List.range g.size.toNat).map λ (i : Nat)=>if 0<=dl g S d i/\dl g S d i<d then dl g S d i else -1
def outP (g : Gr) (S : List Int) (d : Nat) (F : List Int) : List Int:=(List.range g.size.toNat).map λ (i : Nat)=>if 0<=dl g S d i/\dl g S d i<d then dl g S d i else if (i : Int)∈F then (d : Int) else -1
theorem zoA (g : Gr) (S : List Int) (d : Nat) : outP g S d []=outL g S d:=by
 unfold outP outL;simp
theorem zuC {g : Gr} {S : List Int} (d : Nat) (F : List Int) (hF : ∀ x,x∈F↔Key g x/\dl g S d x=d) : outP g S d F=outL g S (d+1):=by
 unfold outP outL;refine List.map_congr_left λ i hi=>?_;simp at hi;have hkey : Key g i:=⟨by omega,by omega⟩
 have hr:=zcD (g:=g) (S:=S) d i;have hr2:=zcD (g:=g) (S:=S) (d+1) i;have hm : (i : Int)∈F↔dl g S d i=d:=by rw [hF]; exact ⟨λ h=>h.2,λ h=>⟨hkey,h⟩⟩
 simp only [hm]
 by_cases h0 : 0<=dl g S d i
 .have e:=zgM h0
  rw [e]
  by_cases h1 : dl g S d i<d
  .rw [if_pos ⟨h0,h1⟩,if_pos ⟨h0,by omega⟩]
  .have h2 : dl g S d i=d:=by omega
   rw [if_neg (by omega),if_pos h2,if_pos ⟨h0,by omega⟩,h2]
 .rw [if_neg (by omega),if_neg (by omega)]
  by_cases h3 : 0<=dl g S (d+1) i
  .have:=(zqN h3 h0).1
   rw [if_neg (by omega)]
  .rw [if_neg (by omega)]
theorem zjN (g : Gr) (S : List Int) (d : Nat) (F : List Int) : (outP g S d F).length=g.size.toNat:=by simp [outP]
theorem zs8 (g : Gr) (S : List Int) (d : Nat) : (outL g S d).length=g.size.toNat:=by simp [outL]
theorem zxb {g : Gr} {S : List Int} {d : Nat} {F : List Int} {k : Nat} (hk : k<g.size.toNat) (hd : dl g S d k=d) : (outP g S d F)[k]'(by rw [zjN]; exact hk)=if (k : Int)∈F then (d : Int) else -1:=by
 unfold outP;simp only [List.getElem_map,List.getElem_range];rw [if_neg (by omega)]
theorem zuV {g : Gr} {S : List Int} {d : Nat} (F : List Int) {i : Nat} (hi : i<g.size.toNat) : (outP g S d F)[i]? = some (if 0<=dl g S d i/\dl g S d i<d then dl g S d i else if (i : Int)∈F then (d : Int) else -1):=by
 simp [outP,hi]
theorem zw0 {g : Gr} {S : List Int} {d : Nat} {F : List Int} {k : Nat} (hk : k<g.size.toNat) (hd : dl g S d k=d) : (outP g S d F).set k d=outP g S d (F++[(k : Int)]):=by
 apply List.ext_getElem?;intro i
 by_cases hi : i<g.size.toNat
 .rw [zuV _ hi,List.getElem?_set]
  by_cases hki : k=i
  .subst hki
   rw [if_pos rfl,if_pos (by rw [zjN]; exact hk),if_neg (by omega),if_pos (by simp)]
  .rw [if_neg hki,zuV _ hi]
   have : (i : Int)∈F++[(k : Int)]↔(i : Int)∈F:=by
    simp;omega
   simp only [this]
 .rw [List.getElem?_eq_none (by rw [List.length_set,zjN]; omega),List.getElem?_eq_none (by rw [zjN]; omega)]
theorem zs0 {g : Gr} {S : List Int} {d : Nat} {F F' : List Int} (h : ∀ x,x∈F↔x∈F') : outP g S d F=outP g S d F':=by
 unfold outP;simp only [h]
theorem ztq {l : List Ed} {F : List Int} {x : Int} (hx : x∉F) : (l.countP λ e=>decide (e.f∈F++[x]))=(l.countP λ e=>decide (e.f∈F))+(outs l x).length:=by
 rw [zt8]
 induction l with
 | nil=>rfl
 | cons e l ih =>
   have e1 : decide (e.f∈F++[x])=(decide (e.f∈F) || decide (e.f=x)):=by simp
   simp only [List.countP_cons,ih,e1]
   by_cases h1 : e.f∈F <;> by_cases h2 : e.f=x
   .rw [h2] at h1; exact absurd h1 hx
   all_goals
    simp only [hx,h1,h2,decide_true,decide_false,Bool.or_true,Bool.or_false,Bool.true_or,Bool.false_or,if_true,Bool.false_eq_true,if_false];omega
structure Pol where
 seeds : List Int
 table : List Int
 lv : Int
def zbu (n : Int) (p : Pol) : Prop :=
 p.seeds≠[]/\Rise p.seeds 0 (n - 1)/\1<=p.table.length/\p.table.length<=8/\1<=p.lv/\p.lv<=3 /\ ∀ i (h : i<p.table.length),1<=p.table[i]/\p.table[i]<=1000/\(0<i->p.table[i]<=p.table[i - 1])
def zf9 (p : Pol) (d : Int) : Int:=if d<0 then 0 else p.table.getD d.toNat 1
theorem zh2 {p : Pol} {d : Int} (h : d<0) : zf9 p d=0:=if_pos h
theorem zsL {p : Pol} {n : Int} (hp : zbu n p) {d : Int} (h : 0<=d) : 1<=zf9 p d/\zf9 p d<=1000:=by
 unfold zf9;rw [if_neg (by omega)]
 by_cases hd : d.toNat<p.table.length
 .rw [List.getD_eq_getElem?_getD,List.getElem?_eq_getElem hd,Option.getD_some]
  have:=hp.2.2.2.2.2.2 d.toNat hd;omega
 .rw [List.getD_eq_getElem?_getD,List.getElem?_eq_none (by omega),Option.getD_none]
  omega
theorem zqS {p : Pol} {n : Int} (hp : zbu n p) {d : Int} : 0<zf9 p d↔0<=d:=by
 constructor
 .intro h
  refine Decidable.byContradiction λ h1=>?_;rw [zh2 (by omega)] at h
  omega
 .intro h
  have:=zsL hp h;omega
theorem zjh {p : Pol} {n : Int} (hp : zbu n p) (d : Int) : 0<=zf9 p d/\zf9 p d<=1000:=by
 by_cases h : 0<=d
 .have:=zsL hp h; omega
 .rw [zh2 (by omega)]; omega
theorem zqH (g : Gr) (v : Int) : zal (zal g v) v=zal g v:=by
 unfold zal;simp only [List.filter_filter,Bool.and_self]
def zaQ (g : Gr) (p : Pol) : List Int:=(zcL (zal g p.lv) p.seeds).map (zf9 p)
def zbK (g : Gr) (p : Pol) (c : List Int) (sinks : List Int) : List Ed :=
 ((p.seeds.filter λ x=>decide (0<c.getD x.toNat 0)).map λ x=>⟨0,2+2*x,c.getD x.toNat 0⟩)
 ++ ((List.range c.length).filter λ i=>decide (0<c.getD i 0)).map (λ i=>⟨2+2*(i : Int),3+2*(i : Int),c.getD i 0 - 1⟩)
 ++ ((sinks.filter λ x=>decide (0<c.getD x.toNat 0)).map λ x=>⟨2+2*x,1,1⟩)
 ++ (((zal g p.lv).edges.filter λ e=>decide (0<c.getD e.f.toNat 0)).map λ e=>⟨3+2*e.f,2+2*e.t,64⟩)
structure Net where
 nodes : Int
 arcs : List Ed
def zmb (n : Int) (a : Ed) : Prop:=0<=a.f/\a.f<=n - 1/\0<=a.t/\a.t<=n - 1/\a.f≠a.t/\a.t≠0/\a.f≠1/\0<=a.v/\a.v<=1048576
instance (n : Int) (a : Ed) : Decidable (zmb n a):=by unfold zmb; infer_instance
def zbX (n : Net) : Prop:=2<=n.nodes/\n.nodes<=130/\n.arcs.length<=1200 /\ ∀ a∈n.arcs,zmb n.nodes a
instance (n : Net) : Decidable (zbX n):=by unfold zbX; infer_instance
def zqK (n : Net) (side : List Int) : Prop:=zbX n/\Rise side 0 (n.nodes - 1)/\(0 : Int)∈side/\(1 : Int)∉side
def cutV (arcs : List Ed) (side : List Int) : Int:=(arcs.map λ a=>if a.f∈side/\a.t∉side then a.v else 0).sum
def zpr (n : Net) (side : List Int) (most : Int) : Prop:=zqK n side/\cutV n.arcs side<=most
def zaM (a : List Int) : List Int:=((List.range 64).map Int.ofNat).filter λ x=>decide (x∈a)
theorem zfL {a : List Int} {x : Int} : x∈zaM a↔x∈a/\0<=x/\x<64:=by
 unfold zaM;simp only [List.mem_filter,List.mem_map,List.mem_range,decide_eq_true_eq];constructor
 .rintro ⟨⟨i,hi,rfl⟩,h⟩
  exact ⟨h,Int.natCast_nonneg _,by show (i : Int)<64; omega⟩
 .rintro ⟨h,h0,h1⟩
  exact ⟨⟨x.toNat,by omega,by show ((x.toNat : Nat) : Int)=x; omega⟩,h⟩
theorem ziG (a : List Int) : (zaM a).Pairwise (· < ·):=by
 unfold zaM;refine List.Pairwise.filter _ ?_;rw [List.pairwise_map];exact List.pairwise_lt_range.imp λ {a b} h=>by show (a : Int)<(b : Int); omega
theorem zbm : ∀ {a b : List Int},a.Nodup->(∀ x∈a,x∈b)->a.length<=b.length
 | [],_,_,_=>Nat.zero_le _
 | x::a,b,hn,hs=>by
   have hx : x∈b:=hs x (List.mem_cons_self ..);rw [List.nodup_cons] at hn;have hb:=List.perm_cons_erase hx;have hlb : (b.erase x).length+1=b.length:=by have:=hb.length_eq; simp at this; omega
   have:=zbm (b:=b.erase x) hn.2 λ y hy=>by
    have hne : y≠x:=λ e=>hn.1 (e ▸ hy);exact (List.mem_erase_of_ne hne).2 (hs y (List.mem_cons_of_mem _ hy))
   rw [List.length_cons];omega
theorem zpo {a : List Int} (hn : a.Nodup) (hr : ∀ k∈a,0<=k/\k<64) : srt a=zaM a:=by
 have h1 : (zaM a).Nodup:=(ziG a).imp λ {x y} h=>by omega
 have h2 : a.Perm (zaM a):=zeM hn (λ x hx=>zfL.2 ⟨hx,hr x hx⟩) (zbm h1 λ x hx=>(zfL.1 hx).1);exact List.Perm.eq_of_pairwise (le:=(· <= ·)) (λ x y _ _ h1 h2=>by omega) (zv0 a) ((ziG a).imp λ {x y} h=>by omega) ((ziH a).trans h2)
def zgd (e : Ed) : Int × Int:=(e.f,e.t)
theorem zoU {A : List Ed} (h : (A.map zgd).Nodup) {i j : Nat} (hi : i<A.length) (hj : j<A.length) (h1 : (arcD A i).f=(arcD A j).f) (h2 : (arcD A i).t=(arcD A j).t) : i=j:=by
 have hg : ∀ k (hk : k<A.length),(A.map zgd)[k]'(by simpa using hk)=zgd (arcD A k):=λ k hk=>by
  rw [List.getElem_map];unfold arcD;rw [List.getD_eq_getElem?_getD,List.getElem?_eq_getElem hk,Option.getD_some]
 have he : zgd (arcD A i)=zgd (arcD A j):=by unfold zgd; rw [h1,h2]
 rcases Nat.lt_trichotomy i j with hlt | heq | hgt
 .exact absurd ((hg i hi).trans (he.trans (hg j hj).symm)) (List.pairwise_iff_getElem.1 h i j (by simpa using hi) (by simpa using hj) hlt)
 .exact heq
 .exact absurd ((hg j hj).trans (he.symm.trans (hg i hi).symm)) (List.pairwise_iff_getElem.1 h j i (by simpa using hj) (by simpa using hi) hgt)
theorem ziA {α β : Type} {φ : α->β} {l : List α} (h : l.Nodup) (hi : ∀ a∈l,∀ b∈l,φ a=φ b->a=b) : (l.map φ).Nodup:=by
 rw [List.Nodup,List.pairwise_map];exact List.Pairwise.imp_of_mem (λ {a b} ha hb hab he=>hab (hi a ha b hb he)) h
theorem zsk {g : Gr} {p : Pol} {c sinks seeds' : List Int} {E : Int->Int->Prop} (hE : ∀ e∈(zal g p.lv).edges,0<c.getD e.f.toNat 0->E e.f e.t) (hS : ∀ x∈p.seeds,0<c.getD x.toNat 0->x∈seeds') (hs : p.seeds.Nodup) (hs0 : ∀ x∈p.seeds,0<=x) (hk : sinks.Nodup) (hk0 : ∀ x∈sinks,0<=x) (he : ((zal g p.lv).edges.map zgd).Nodup) (he0 : ∀ e∈(zal g p.lv).edges,0<=e.f/\0<=e.t) :
  zj0 (zbK g p c sinks) E seeds' sinks λ x=>c.getD x.toNat 0:=by
 refine ⟨λ i hi=>?_,λ i j hi hj=>zoU ?_ hi hj⟩
 .have hm:=zfz hi
  revert hm
  generalize arcD (zbK g p c sinks) i=a;intro hm;unfold zbK at hm;rcases List.mem_append.1 hm with hm | hm
  .rcases List.mem_append.1 hm with hm | hm
   .rcases List.mem_append.1 hm with hm | hm
    .obtain ⟨x,hx,rfl⟩:=List.mem_map.1 hm
     have hx:=List.mem_filter.1 hx;exact .inl ⟨x,hS x hx.1 (by simpa using hx.2),hs0 x hx.1,rfl⟩
    .obtain ⟨x,hx,rfl⟩:=List.mem_map.1 hm
     exact .inr (.inl ⟨x,Int.natCast_nonneg _,by simp⟩)
   .obtain ⟨x,hx,rfl⟩:=List.mem_map.1 hm
    have hx:=(List.mem_filter.1 hx).1;exact .inr (.inr (.inl ⟨x,hx,hk0 x hx,rfl⟩))
  .obtain ⟨e,hx,rfl⟩:=List.mem_map.1 hm
   have hx:=List.mem_filter.1 hx;have h0:=he0 e hx.1;exact .inr (.inr (.inr ⟨e.f,e.t,h0.1,h0.2,hE e hx.1 (by simpa using hx.2),rfl⟩))
 .unfold zbK
  simp only [List.map_append,List.map_map];refine List.nodup_append.2 ⟨List.nodup_append.2 ⟨List.nodup_append.2 ⟨?_,?_,?_⟩,?_,?_⟩,?_,?_⟩
  .exact ziA (hs.filter _) λ a _ b _ h=>by simp [zgd] at h; omega
  .exact ziA (List.nodup_range.filter _) λ a _ b _ h=>by simp [zgd] at h; omega
  .intro a ha b hb
   obtain ⟨x,hx,rfl⟩:=List.mem_map.1 ha;obtain ⟨y,hy,rfl⟩:=List.mem_map.1 hb;intro h;simp [zgd] at h;omega
  .exact ziA (hk.filter _) λ a _ b _ h=>by simp [zgd] at h; omega
  .intro a ha b hb
   obtain ⟨y,hy,rfl⟩:=List.mem_map.1 hb;have hy0:=hk0 y (List.mem_filter.1 hy).1;rcases List.mem_append.1 ha with ha | ha
   .obtain ⟨x,hx,rfl⟩:=List.mem_map.1 ha
    intro h;simp [zgd] at h;omega
   .obtain ⟨x,hx,rfl⟩:=List.mem_map.1 ha
    intro h;simp [zgd] at h;omega
  .have h1 : ((zal g p.lv).edges.filter λ e=>decide (0<c.getD e.f.toNat 0)).Pairwise λ a b=>zgd a≠zgd b:=by
    rw [List.Nodup,List.pairwise_map] at he;exact he.filter _
   rw [List.Nodup,List.pairwise_map];refine h1.imp λ {a b} hab h=>hab ?_;simp [zgd] at h;unfold zgd;rw [show a.f=b.f by omega,show a.t=b.t by omega]
  .intro a ha b hb
   obtain ⟨e,hy,rfl⟩:=List.mem_map.1 hb;have hy0:=he0 e (List.mem_filter.1 hy).1;rcases List.mem_append.1 ha with ha | ha
   .rcases List.mem_append.1 ha with ha | ha
    .obtain ⟨x,hx,rfl⟩:=List.mem_map.1 ha
     intro h;simp [zgd] at h;omega
    .obtain ⟨x,hx,rfl⟩:=List.mem_map.1 ha
     intro h;simp [zgd] at h;omega
   .obtain ⟨x,hx,rfl⟩:=List.mem_map.1 ha
    intro h;simp [zgd] at h;omega
theorem Le.dn {st st' : St} {D D' : List (List AV)} (N : Nat) (i j i' j' : Nat) (sn : List Nat) (hsz : st'.sz=st.sz) (hh : st'.h=[(i',some ⟨1,[[.rs j' 0 N]],0⟩),(j',some ⟨1,D',0⟩)]) (hi : i'<st'.n) (hj : j'<st'.n) (hij : i≠j) (hij' : i'≠j') (hs : ∀ k∈sn,k≠i/\k≠j)
  (h1 : st.hp i=some ⟨1,[[.rs j 0 N]],0⟩) (h2 : st.hp j=some ⟨1,D,0⟩) (hD : D.map (·.map (conv [(i,i'),(j,j')] sn st.hp 4))=D') (ht : ∀ p∈st'.t,Wk (conv [(i,i'),(j,j')] sn st.hp 4 (st.get p.1)) p.2) : Le 0 st st' :=
 Le.ents [(i,i'),(j,j')] sn hsz (by simpa using hij) (by simpa using hij') (by simp [hi,hj]) (by simpa using hs) (Nat.zero_le _) ht λ p hp=>by
  rw [hh] at hp;simp at hp;rcases hp with rfl | rfl
  .exact ⟨i,_,_,rfl,by simp,h1,zaN.eq (by simp [hij]) (by simp)⟩
  .exact ⟨j,_,_,rfl,by simp,h2,zaN.eq (by simp only [zay,hD]) (by simp)⟩
theorem zsJ {l : List Int} {lo hi : Int} (h : Rise l lo hi) : ∀ (i : Nat) (hi : i<l.length),lo+i<=l[i]
 | 0,hi=>by have:=(h 0 hi).1; simp; omega
 | i+1,hi=>by
   have h1:=zsJ h i (by omega)
   have h2:=(h (i+1) hi).2.2 (by omega)
   simp only [Nat.add_sub_cancel] at h2;omega
theorem GrOk.gone_le {g : Gr} (h : GrOk g) : g.gone.length<=64:=by
 have hr:=h.1.2.2.2;have h1:=h.1.1;have h2:=h.1.2.1;rcases Nat.eq_zero_or_pos g.gone.length with h0 | h0
 .omega
 .have h3:=zsJ hr (g.gone.length - 1) (by omega)
  have h4:=(hr (g.gone.length - 1) (by omega)).2.1
  omega
theorem zs3 {l : List Ed} {x t : Int} : t∈outs l x ↔ ∃ e∈l,e.f=x/\e.t=t:=by
 unfold outs;simp only [List.mem_filterMap];constructor
 .rintro ⟨e,he,h⟩
  split at h
  .exact ⟨e,he,by assumption,by simpa using h⟩
  .cases h
 .rintro ⟨e,he,h1,h2⟩
  exact ⟨e,he,by rw [if_pos h1,h2]⟩
theorem zty {g : Gr} {S : List Int} {d : Nat} {F X : List Int} (hg : GrOk g) (hF : ∀ x,x∈F↔Key g x/\dl g S d x=d) (hX : ∀ t,t∈X ↔ ∃ x∈F,t∈outs g.edges x) (x : Int) :
  x∈X.filter (λ e=>!offQ (outL g S (d+1)) e)↔Key g x/\dl g S (d+1) x=(d+1 : Nat):=by
 rw [List.mem_filter,hX];have hlen:=zs8 g S (d+1);have hsz:=hg.1.1;constructor
 .rintro ⟨⟨y,hy,hxy⟩,ho⟩
  obtain ⟨e,he,rfl,rfl⟩:=zs3.1 hxy;have hyF:=(hF e.f).1 hy;simp only [offQ,Bool.not_or,Bool.not_not,Bool.and_eq_true,decide_eq_true_eq,hlen] at ho;have hk : Key g e.t:=⟨ho.1.1,by omega⟩
  have h1:=zug (S:=S) (n:=d) he (by omega)
  refine ⟨hk,?_⟩;have ho2:=ho.2;obtain ⟨k,hk2⟩ : ∃ k : Nat,e.t=k:=⟨e.t.toNat,by have:=hk.1; omega⟩
  rw [hk2] at ho2 h1 ⊢;have hkN : k<g.size.toNat:=by have:=hk.2; omega
  have hget : (outL g S (d+1)).getD k 0=if 0<=dl g S (d+1) k/\dl g S (d+1) k<(d+1 : Nat) then dl g S (d+1) k else -1:=by
   simp [outL,List.getD,hkN]
  simp only [Int.toNat_natCast,hget] at ho2;simp at ho2;split at ho2 <;> omega
 .rintro ⟨hk,hd⟩
  have h2 : ¬ 0<=dl g S d x:=by
   intro h2;rw [zgM h2] at hd;have:=zcD (g:=g) (S:=S) d x;omega
  obtain ⟨_,e,he,h4,h5⟩:=zqN (g:=g) (S:=S) (n:=d) (k:=x) (by omega) h2
  have hf:=hg.fits e he;refine ⟨⟨e.f,(hF _).2 ⟨⟨hf.1,by have:=hf.2.1; omega⟩,h5⟩,zs3.2 ⟨e,he,rfl,h4⟩⟩,?_⟩
  obtain ⟨k,rfl⟩ : ∃ k : Nat,x=k:=⟨x.toNat,by have:=hk.1; omega⟩
  have hkN : k<g.size.toNat:=by have:=hk.2; omega
  have hget : (outL g S (d+1)).getD k 0=if 0<=dl g S (d+1) k/\dl g S (d+1) k<(d+1 : Nat) then dl g S (d+1) k else -1:=by
   simp [outL,List.getD,hkN]
  simp only [offQ,Int.toNat_natCast,hget,hlen];rw [if_neg (by omega)]
  simp;omega
theorem zpJ {F : List Int} {i : Nat} (h : i<F.length) (x : Int) : x∈F.take (i+1)↔x∈F.take i++[F[i]]:=by
 rw [<- List.take_concat_get h,List.concat_eq_append]
set_option maxHeartbeats 4000000 in
set_option maxRecDepth 100000 in
theorem zix (g : Gr) (S : List Int) (hg : GrOk g) (hS : S.length<=1099511627776) : zaj Tryz.prog zcU [eG g,ints S] [] (.rs 0 0 g.size.toNat) [some ⟨1,zag (zcL g S),0⟩]:=by
 refine zhs.ac ?_;show awp _ 0 _ _ ⟨50,[(0,eG g),(1,ints S)],[],16⟩;have hsz:=hg.1.1;have hsz2:=hg.1.2.1;have h500:=hg.1.2.2.1;have hgone : g.gone.length<=1000000:=Nat.le_trans hg.gone_le (by omega)
 obtain ⟨N,hN⟩ : ∃ N : Nat,N=g.size.toNat:=⟨_,rfl⟩;have hNs : (if 0<g.size then g.size else 0)=(N : Int):=by split <;> omega
 refine zaa ⟨50,[(2,.pv (gC g)),(3,.pv [ints S])],[],40⟩ rfl ?_ ?_
 .simp
  exact Le.snap [16,24] rfl rfl (by simp)
 refine zaa ⟨50,[(2,.pv (gC g)),(3,.pv [ints S]),(5,.pt 80 0 0)],[(80,some ⟨1,[[.rs 72 0 N]],0⟩),(72,some ⟨1,List.replicate N [.I (-1)],0⟩)],96⟩ rfl ?_ ?_
 .simp [hNs]
  refine zxU (j:=40) (Nat.zero_le _) rfl (zvl (-1) N (by omega)) ?_ ?_
  .simp
  simp;exact Le.keep rfl (Nat.le_refl _) (by simp) (by simp)
 have h0 : List.replicate N [AV.I (-1)]=zag (outL g S 0):=by
  unfold outL zag;rw [List.map_map];apply List.ext_getElem
  .simp [hN]
  .intro i h1 h2
   simp;omega
 rw [h0];obtain ⟨F0,hF0⟩ : ∃ F,F=za7 N (zfb g S):=⟨_,rfl⟩
 have hF0m : ∀ x,x∈F0↔Key g x/\dl g S 0 x=((0 : Nat) : Int):=by
  intro x;rw [hF0];unfold za7;simp only [List.mem_filter,List.mem_map,List.mem_range];constructor
  .rintro ⟨⟨i,hi,rfl⟩,hs⟩
   exact ⟨⟨by omega,by omega⟩,by rw [dl,if_pos hs]; rfl⟩
  .rintro ⟨⟨k1,k2⟩,hs⟩
   refine ⟨⟨x.toNat,by omega,by omega⟩,?_⟩
   rw [dl] at hs;split at hs
   .assumption
   .simp at hs
 have hF0l : F0.length<=500:=by have:=zfQ N (zfb g S); rw [hF0]; omega
 refine zaa ⟨50,[(2,.pv (gC g)),(5,.pt 80 0 0),(6,ints F0)],[(80,some ⟨1,[[.rs 72 0 N]],0⟩),(72,some ⟨1,zag (outL g S 0),0⟩)],136⟩ rfl ?_ ?_
 .simp
  refine zbz (zkc zcw [.pv (gC g),.pv [ints S]] (zfb g S) g.size (by omega) (λ ρ sn h n=>by simp) (λ k _=>zvp g S k hS (by omega))) (by simp) ?_
  rw [<- hN,<- hF0];simp [fcd];exact Le.dn N 80 72 80 72 [120] rfl rfl (by simp) (by simp) (by decide) (by decide) (by simp) rfl rfl (by simp [fcd]) (by simp [fcd,zac])
 refine zab ?_;refine zaa ⟨50,[(2,.pv (gC g)),(5,.pt 80 0 0),(6,ints F0),(7,.I 0)],[(80,some ⟨1,[[.rs 72 0 N]],0⟩),(72,some ⟨1,zag (outL g S 0),0⟩)],144⟩ rfl ?_ ?_
 .simp
  exact Le.keep rfl (Nat.le_refl _) (by simp) (by simp)
 refine zaf ?_;refine zas (ι:=Nat × List Int) (λ p=>⟨50,[(2,.pv (gC g)),(5,.pt 80 0 0),(6,ints p.2),(7,.I p.1)],[(80,some ⟨1,[[.rs 72 0 N]],0⟩),(72,some ⟨1,zag (outL g S p.1),0⟩)],144⟩) (λ p=>p.1<=64/\p.2.length<=500 /\ ∀ x,x∈p.2↔Key g x/\dl g S p.1 x=p.1) (λ p=>64 - p.1) (0,F0) ⟨by simp,hF0l,hF0m⟩ (Le.refl _ _) ?_
 rintro ⟨d,F⟩ ⟨hd,hFl,hFm⟩
 simp only at hd hFl hFm ⊢;refine zab ?_;refine zaa ⟨50,[(2,.pv (gC g)),(5,.pt 80 0 0),(6,ints F),(7,.I d),(22,.B (decide (0<F.length)))],[(80,some ⟨1,[[.rs 72 0 N]],0⟩),(72,some ⟨1,zag (outL g S d),0⟩)],168⟩ rfl ?_ ?_
 .simp
  exact Le.keep rfl (Nat.le_refl _) (by simp <;> rw [Bool.eq_iff_iff] <;> simp) (by simp)
 refine zad _ rfl (λ h=>zae ?_) λ h=>zaq (hit ?_)
 .simp only [decide_eq_true_eq] at h
  have hdlt : (d : Int)<g.size:=by
   have:=hFm F[0];have h1:=(this.1 (List.getElem_mem _));exact ztg hg h1.1 h1.2
  refine zaO (ι:=List Int) (λ F'=>⟨50,[(2,.pv (gC g)),(5,.pt 80 0 0),(6,ints F'),(7,.I d)],[(80,some ⟨1,[[.rs 72 0 N]],0⟩),(72,some ⟨1,zag (outL g S (d+1)),0⟩)],144⟩) (λ F'=>F'.length<=500 /\ ∀ x,x∈F'↔Key g x/\dl g S (d+1) x=(d+1 : Nat)) ?_ ?_
  .refine zaf ?_
   refine zaa ⟨50,[(2,.pv (gC g)),(5,.pt 80 0 0),(6,ints F),(7,.I d),(8,.nilS)],[(80,some ⟨1,[[.rs 72 0 N]],0⟩),(72,some ⟨1,zag (outL g S d),0⟩)],176⟩ rfl ?_ ?_
   .simp
    exact Le.keep rfl (Nat.le_refl _) (by simp) (by simp)
   rw [<- zoA];refine zab ?_;refine zab ?_;refine zan ?_;refine zaf ?_
   let C : Nat × List Int->St:=λ p=>⟨50,[(2,.pv (gC g)),(5,.pt 80 0 0),(7,.I d),(8,.rs 16 0 p.2.length),(25,ints F),(26,.I F.length),(27,.I p.1)],[(80,some ⟨1,[[.rs 72 0 N]],0⟩),(72,some ⟨1,zag (outP g S d (F.take p.1)),0⟩),(16,some ⟨1,zag p.2,0⟩)],200⟩
   refine zas C (λ p : Nat × List Int=>p.1<=F.length/\(∀ t,t∈p.2 ↔ ∃ x∈F.take p.1,t∈outs g.edges x)/\p.2.length=g.edges.countP λ e=>decide (e.f∈F.take p.1)) (λ p : Nat × List Int=>F.length - p.1) (0,[]) ⟨Nat.zero_le _,by simp,by simp⟩ ?_ ?_
   .refine Le.lst [(80,80),(72,72)] [] [(16,1)] rfl (by simp) (by simp) (by simp [C]) (by simp [C]) (by simp) (by simp) (by simp) (by simp [C,Up]) λ p hp e' he'=>?_
    simp [C] at hp;rcases hp with rfl | rfl | rfl
    .cases he'
     exact .inl ⟨(80,80),by simp,rfl,_,rfl,zaN.eq (by simp) (by simp)⟩
    .cases he'
     exact .inl ⟨(72,72),by simp,rfl,_,rfl,zaN.eq (by simp [fcd,zoA]) (by simp)⟩
    .cases he'
     exact .inr ⟨by simp,by simp,rfl⟩
   rintro ⟨i,X⟩ ⟨hi,hXm,hXl⟩
   simp only at hi hXm hXl ⊢;have hXle : X.length<=500:=by rw [hXl]; exact Nat.le_trans List.countP_le_length h500
   have hC : C (i,X)=⟨50,[(2,.pv (gC g)),(5,.pt 80 0 0),(7,.I d),(8,.rs 16 0 X.length),(25,ints F),(26,.I F.length),(27,.I i)],[(80,some ⟨1,[[.rs 72 0 N]],0⟩),(72,some ⟨1,zag (outP g S d (F.take i)),0⟩),(16,some ⟨1,zag X,0⟩)],200⟩:=rfl;rw [hC];refine zaa ⟨50,[(2,.pv (gC g)),(5,.pt 80 0 0),(7,.I d),(8,.rs 16 0 X.length),(25,ints F),(26,.I F.length),(27,.I i),(28,.B (decide (i<F.length)))],[(80,some ⟨1,[[.rs 72 0 N]],0⟩),(72,some ⟨1,zag (outP g S d (F.take i)),0⟩),(16,some ⟨1,zag X,0⟩)],208⟩ rfl ?_ ?_
   .simp
    exact Le.keep rfl (Nat.le_refl _) (by simp) (by simp)
   refine zab ?_;refine zad _ rfl (λ h2=>zae ?_) λ h2=>zaq (hit ?_)
   .simp only [decide_eq_true_eq] at h2
    have hx:=(hFm F[i]).1 (List.getElem_mem h2);obtain ⟨k,hk⟩ : ∃ k : Nat,F[i]=k:=⟨F[i].toNat,by have:=hx.1.1; omega⟩
    have hkN : k<g.size.toNat:=by have:=hx.1.2; omega
    have hkd : dl g S d k=d:=by rw [<- hk]; exact hx.2
    have hmt:=zpJ h2;rw [hk] at hmt;refine zaO (ι:=List Int) (λ X'=>⟨50,[(2,.pv (gC g)),(5,.pt 80 0 0),(7,.I d),(8,.rs 16 0 X'.length),(25,ints F),(26,.I F.length),(27,.I i)],[(80,some ⟨1,[[.rs 72 0 N]],0⟩),(72,some ⟨1,zag (outP g S d (F.take (i+1))),0⟩),(16,some ⟨1,zag X',0⟩)],200⟩) (λ X'=>(∀ t,t∈X' ↔ ∃ x∈F.take (i+1),t∈outs g.edges x)/\X'.length=g.edges.countP λ e=>decide (e.f∈F.take (i+1))) ?_ ?_
    .have hOlen : (outP g S d (F.take i)).length=N:=by rw [zjN,hN]
     have hOget:=zxb (g:=g) (S:=S) (d:=d) (F:=F.take i) hkN hkd
     have hOset0 : zag ((outP g S d (F.take i)).set k d)=zag (outP g S d (F.take (i+1))):=by
      rw [zw0 hkN hkd]
      congr 1
      exact zs0 λ x=>(hmt x).symm
     have hOset : (zag (outP g S d (F.take i))).set k [AV.I d]=zag (outP g S d (F.take (i+1))):=by
      rw [<- hOset0,zag,zag,List.map_set]
     clear hOset0
     have hrow : (zag (outP g S d (F.take i)))[k]? = some [AV.I (if (k : Int)∈F.take i then (d : Int) else -1)]:=by
      rw [List.getElem?_map,List.getElem?_eq_getElem (by omega),hOget]
      rfl
     have hOl : (zag (outP g S d (F.take i))).length=N:=by simp [hOlen]
     generalize hO : zag (outP g S d (F.take i))=O at *;refine zaf ?_;refine zaa ⟨50,[(2,.pv (gC g)),(5,.pt 80 0 0),(7,.I d),(8,.rs 16 0 X.length),(25,ints F),(26,.I F.length),(27,.I i),(10,.I k)],[(80,some ⟨1,[[.rs 72 0 N]],0⟩),(72,some ⟨1,O,0⟩),(16,some ⟨1,zag X,0⟩)],232⟩ rfl ?_ ?_
     .simp [h2,hk]
      exact Le.keep rfl (Nat.le_refl _) (by simp) (by simp)
     refine zab ?_;refine zaa ⟨50,[(2,.pv (gC g)),(5,.pt 80 0 0),(7,.I d),(8,.rs 16 0 X.length),(25,ints F),(26,.I F.length),(27,.I i),(10,.I k),(35,.B (decide ((k : Int)∈F.take i)))],[(80,some ⟨1,[[.rs 72 0 N]],0⟩),(72,some ⟨1,O,0⟩),(16,some ⟨1,zag X,0⟩)],272⟩ rfl ?_ ?_
     .simp [hrow,show k<N by omega]
      refine Le.keep rfl (Nat.le_refl _) ?_ (by simp)
      by_cases hin : (k : Int)∈F.take i <;> simp [hin]
     refine zad _ rfl (λ h3=>zaq (hit ?_)) λ h3=>zae ?_
     .simp only [decide_eq_true_eq] at h3
      have hsame : ∀ x,x∈F.take (i+1)↔x∈F.take i:=by
       intro x;rw [hmt x];simp
       rintro rfl
       exact h3
      refine ⟨X,⟨λ t=>?_,?_⟩,?_⟩
      .rw [hXm]
       simp only [hsame]
      .rw [hXl]
       simp only [hsame]
      .rw [zs0 hsame,hO]
       refine Le.ents [(80,80),(72,72),(16,16)] [] rfl (by simp) (by simp) (by simp) (by simp) (by simp) (by simp) λ p hp=>?_
       simp at hp;rcases hp with rfl | rfl | rfl
       .exact ⟨80,_,_,rfl,by simp,rfl,zaN.eq (by simp) (by simp)⟩
       .exact ⟨72,_,_,rfl,by simp,rfl,zaN.eq (by rw [<- hO]; simp [fcd]) (by simp)⟩
       .exact ⟨16,_,_,rfl,by simp,rfl,zaN.eq (by simp [fcd]) (by simp)⟩
     simp only [decide_eq_false_iff_not] at h3;refine zaa ⟨50,[(2,.pv (gC g)),(5,.pt 80 0 0),(7,.I d),(8,.rs 16 0 X.length),(25,ints F),(26,.I F.length),(27,.I i),(10,.I k)],[(80,some ⟨1,[[.rs 72 0 N]],0⟩),(72,some ⟨1,zag (outP g S d (F.take (i+1))),0⟩),(16,some ⟨1,zag X,0⟩)],312⟩ rfl ?_ ?_
     .simp [hrow,show k<N by omega,zat]
      exact Le.keep rfl (Nat.le_refl _) (by simp) (by simp; exact hOset)
     have hcount:=ztq (l:=g.edges) h3;have hol:=zsh g.edges k;refine zav rfl ?_;simp;refine zbz (zqV g k (by omega)) rfl ?_
     simp [fcd]
     have hcm : (λ e : Ed=>decide (e.f∈F.take (i+1)))=λ e : Ed=>decide (e.f∈F.take i++[(k : Int)]):=by
      funext e
      simp only [hmt]
     refine ⟨by omega,by omega,X++ziE (outs g.edges k),⟨λ t=>?_,?_⟩,?_⟩
     .rw [List.mem_append,zt5,hXm]
      simp only [hmt,List.mem_append,List.mem_singleton];constructor
      .rintro (⟨x,hx,ht⟩ | ht)
       .exact ⟨x,.inl hx,ht⟩
       .exact ⟨k,.inr rfl,ht⟩
      .rintro ⟨x,hx | rfl,ht⟩
       .exact .inl ⟨x,hx,ht⟩
       .exact .inr ht
     .rw [List.length_append,zkM,hXl,hcm,hcount]
     .have e1 : List.take X.length (zag X)=zag X:=List.take_of_length_le (by simp)
      have e2 : List.take (outs g.edges k).length (zag (ziE (outs g.edges k)))=zag (ziE (outs g.edges k)):=List.take_of_length_le (by rw [zag,List.length_map,zkM]; exact Nat.le_refl _)
      have e3 : (X++ziE (outs g.edges k)).length=X.length+(outs g.edges k).length:=by rw [List.length_append,zkM]
      rw [e1,e3];refine Le.ents [(80,80),(72,72),(344,16)] [] rfl (by simp) (by simp) (by simp) (by simp) (by simp) (by simp) λ p hp=>?_
      simp at hp;rcases hp with rfl | rfl | rfl
      .exact ⟨80,_,_,rfl,by simp,rfl,zaN.eq (by simp) (by simp)⟩
      .exact ⟨72,_,_,rfl,by simp,rfl,zaN.eq (by simp [fcd]) (by simp)⟩
      .refine ⟨344,_,_,rfl,by simp,rfl,zaN.eq ?_ (by simp)⟩
       have e4 : zag X++List.take (outs g.edges k).length (zag (ziE (outs g.edges k)))=zag X++zag (ziE (outs g.edges k)):=by rw [e2]
       have e5 : (⟨1,zag X++List.take (outs g.edges k).length (zag (ziE (outs g.edges k))),0⟩ : Ent)=⟨1,zag X++zag (ziE (outs g.edges k)),0⟩:=by rw [e4]
       refine (congrArg _ e5).trans ?_;simp [fcd]
    rintro X' ⟨k1,k2⟩
    have hwi : IntKind.i64.wrap ((i : Int)+1)=((i+1 : Nat) : Int):=by rw [w6]; omega
    refine zav rfl ?_;simp [hwi];refine ⟨i+1,X',⟨by omega,k1,k2⟩,by omega,Le.ents [(80,80),(72,72),(16,16)] [] rfl (by simp) (by simp) (by simp [C]) (by simp) (by simp [C]) (by simp [C]) λ p hp=>?_⟩
    simp [C] at hp;rcases hp with rfl | rfl | rfl
    .exact ⟨80,_,_,rfl,by simp,rfl,zaN.eq (by simp) (by simp)⟩
    .exact ⟨72,_,_,rfl,by simp,rfl,zaN.eq (by simp [fcd]) (by simp)⟩
    .exact ⟨16,_,_,rfl,by simp,rfl,zaN.eq (by simp [fcd]) (by simp)⟩
   simp only [decide_eq_false_iff_not] at h2;obtain rfl : i=F.length:=by omega
   rw [List.take_of_length_le (Nat.le_refl _)] at hXm hXl ⊢;rw [zuC d F hFm];obtain ⟨F',hF'⟩ : ∃ F',F'=X.filter λ e=>!offQ (outL g S (d+1)) e:=⟨_,rfl⟩;have hF'l : F'.length<=X.length:=by rw [hF']; exact List.length_filter_le _ _
   have hDl:=zs8 g S (d+1);have hdel:=znu zcx [.pv [ints (outL g S (d+1))]] (offQ (outL g S (d+1))) X X.length F'.length rfl (by rw [hF']) (by omega) (λ ρ sn h n=>by simp) (λ e _=>zvP (outL g S (d+1)) e (by rw [hDl]; omega))
   rw [<- hF'] at hdel;have htk : List.take N (zag (outL g S (d+1)))=zag (outL g S (d+1)):=List.take_of_length_le (by rw [zag,List.length_map,hDl]; omega)
   have hle : N<=(zag (outL g S (d+1))).length:=by rw [zag,List.length_map,hDl]; omega
   have hnf:=λ x=>zty hg hFm hXm x;rw [<- hF'] at hnf;generalize hO : outL g S (d+1)=O at *;refine zav rfl ?_;simp
   refine zxZ (i:=16) [80,72] (by simp) rfl (e':=⟨1,zag X,0⟩) (by simp [fcd]) hdel (by simp) ?_ (.rs _ _ _) (by
    intro e he;simp at he;subst he
    exact zrU) ?_
   .have hle2 : N<=O.length:=by simpa using hle
    have htk2 : List.take N (List.map (λ x=>[AV.I x]) O)=List.map (λ x=>[AV.I x]) O:=htk;simp [fcd,hle2,htk2]
   simp [fcd];refine ⟨F',⟨by omega,hnf⟩,?_⟩
   rw [zoA,hO];exact Le.dn N 80 72 80 72 [16] rfl rfl (by simp) (by simp) (by decide) (by decide) (by simp) rfl rfl (by simp [fcd]) (by simp [fcd,zac])
  rintro F' ⟨k1,k2⟩
  have hwd : IntKind.i64.wrap ((d : Int)+1)=((d+1 : Nat) : Int):=by rw [w6]; omega
  refine zav rfl ?_;simp [hwd];exact ⟨d+1,F',⟨by omega,k1,k2⟩,by omega,Le.dn N 80 72 80 72 [] rfl rfl (by simp) (by simp) (by decide) (by decide) (by simp) rfl rfl (by simp [fcd]) (by simp)⟩
 simp only [decide_eq_false_iff_not] at h;have hnil : F=[]:=List.eq_nil_of_length_eq_zero (by omega)
 have hstop : ∀ k,Key g k->dl g S d k≠d:=by
  intro k hk he;have:=(hFm k).2 ⟨hk,he⟩;rw [hnil] at this;simp at this
 have hout : outL g S d=zcL g S:=by
  unfold outL zcL;refine List.map_congr_left λ i hi=>?_;simp at hi;have hkey : Key g i:=⟨by omega,by omega⟩
  rw [zqx hg hstop i hkey];have hr:=zcD (g:=g) (S:=S) d i;have:=hstop i hkey;rw [zqx hg hstop i hkey] at this hr;split <;> omega
 rw [hout];refine zab ?_;refine zan ?_;refine zai ?_;rw [<- hN];exact ⟨.inr rfl,zao.out [72] [] rfl (by simp) (by simp) (by simp) (by simp [fcd])⟩
def dP (g : Gr) (S : List Int) (n i : Nat) (k : Int) : Int:=if 0<=dl g S n k then dl g S n k else if (g.edges.take i).any (λ e=>decide (e.t=k) && decide (dl g S n e.f=n))=true then (n : Int)+1 else -1
variable {g : Gr} {S : List Int}
theorem zrT (n : Nat) (k : Int) : dP g S n 0 k=dl g S n k:=by
 unfold dP;have:=zcD (g:=g) (S:=S) n k;split
 .rfl
 .simp; omega
theorem zAu (n : Nat) (k : Int) : dP g S n g.edges.length k=dl g S (n+1) k:=by
 unfold dP;rw [List.take_of_length_le (Nat.le_refl _),dl]
theorem zBf (n i : Nat) (k : Int) : dP g S n i k=n↔dl g S n k=n:=by
 unfold dP;have:=zcD (g:=g) (S:=S) n k;split
 .exact Iff.rfl
 .split <;> omega
theorem zu1 (n i : Nat) (hi : i<g.edges.length) (k : Int) : dP g S n (i+1) k=if dl g S n g.edges[i].f=n/\dP g S n i g.edges[i].t = -1/\k=g.edges[i].t then (n : Int)+1 else dP g S n i k:=by
 have hany : ∀ k,(g.edges.take (i+1)).any (λ e=>decide (e.t=k) && decide (dl g S n e.f=n))=((g.edges.take i).any (λ e=>decide (e.t=k) && decide (dl g S n e.f=n)) || (decide (g.edges[i].t=k) && decide (dl g S n g.edges[i].f=n))):=by
  intro k;rw [<- List.take_concat_get hi,List.concat_eq_append,List.any_append];simp
 unfold dP;rw [hany]
 by_cases h1 : dl g S n g.edges[i].f=n
 .by_cases h2 : k=g.edges[i].t
  .subst h2
   simp only [h1,decide_true,Bool.and_self,Bool.or_true,if_true,and_true,true_and];have:=zcD (g:=g) (S:=S) n g.edges[i].t
   by_cases h3 : 0<=dl g S n g.edges[i].t
   .simp only [h3,if_true]
    rw [if_neg (by omega)]
   .simp only [h3,if_false]
    split <;> simp
  .have h3 : decide (g.edges[i].t=k)=false:=by simpa using λ h=>h2 h.symm
   simp only [h3,h2,Bool.false_and,Bool.or_false,and_false,if_false]
 .simp only [h1,decide_false,Bool.and_false,Bool.or_false,false_and,if_false]
def zgf (g : Gr) (S : List Int) (k : Nat) : List Int:=(List.range k).map λ (i : Nat)=>dl g S 0 (i : Int)
def midL (g : Gr) (S : List Int) (n i : Nat) : List Int:=(List.range g.size.toNat).map λ (k : Nat)=>dP g S n i (k : Int)
theorem zlV (n i : Nat) : (midL g S n i).length=g.size.toNat:=by simp [midL]
theorem ztV : midL g S 0 0=zgf g S g.size.toNat:=by unfold midL zgf; simp only [zrT]
theorem zwg (n : Nat) : midL g S n g.edges.length=midL g S (n+1) 0:=by unfold midL; simp only [zAu,zrT]
theorem zvM : midL g S g.size.toNat 0=zcL g S:=by unfold midL zcL dist; simp only [zrT]
theorem zsv (n i : Nat) {k : Nat} (hk : k<g.size.toNat) : (zag (midL g S n i))[k]? = some [AV.I (dP g S n i k)]:=by
 simp [midL,hk]
theorem zvZ (n i : Nat) (hi : i<g.edges.length) (h : ¬ (dl g S n g.edges[i].f=n/\dP g S n i g.edges[i].t = -1)) : midL g S n (i+1)=midL g S n i:=by
 unfold midL;refine List.map_congr_left λ k _=>?_;rw [zu1 n i hi,if_neg]
 rintro ⟨h1,h2,_⟩
 exact h ⟨h1,h2⟩
theorem zwX (n i : Nat) (hi : i<g.edges.length) {k : Nat} (hk : g.edges[i].t=k) (hkN : k<g.size.toNat) (h1 : dl g S n g.edges[i].f=n) (h2 : dP g S n i g.edges[i].t = -1) : (zag (midL g S n i)).set k [AV.I ((n : Int)+1)]=zag (midL g S n (i+1)):=by
 have e : (midL g S n i).set k ((n : Int)+1)=midL g S n (i+1):=by
  apply List.ext_getElem?;intro j
  by_cases hj : j<g.size.toNat
  .have e1 : (midL g S n (i+1))[j]? = some (dP g S n (i+1) j):=by simp [midL,hj]
   have e2 : (midL g S n i)[j]? = some (dP g S n i j):=by simp [midL,hj]
   rw [List.getElem?_set,e1,e2,zu1 n i hi,zlV]
   by_cases hkj : k=j
   .subst hkj
    rw [if_pos rfl,if_pos hkN,if_pos ⟨h1,h2,hk.symm⟩]
   .rw [if_neg hkj,if_neg]
    rintro ⟨_,_,h3⟩
    rw [hk] at h3;omega
  .rw [List.getElem?_eq_none (by rw [List.length_set,zlV]; omega),List.getElem?_eq_none (by rw [zlV]; omega)]
 rw [<- e,zag,zag,List.map_set]
theorem zrJ (k : Nat) : zgf g S (k+1)=zgf g S k++[dl g S 0 k]:=by
 unfold zgf;rw [List.range_succ,List.map_append];rfl
theorem Le.l1 {st st' : St} {D : List Int} (i j : Nat) (sn : List Nat) (hsz : st'.sz=st.sz) (hh : st'.h=[(j,some ⟨1,zag D,0⟩)]) (hj : j<st'.n) (hs : ∀ k∈sn,k≠i) (he : st.hp i=some ⟨1,zag D,0⟩) (ht : ∀ p∈st'.t,Wk (conv [(i,j)] sn st.hp 4 (st.get p.1)) p.2) : Le 0 st st' :=
 zky hsz hh hj hs he (by simp [fcd]) (by simp) ht
set_option maxHeartbeats 4000000 in
set_option maxRecDepth 100000 in
theorem zin (g : Gr) (S : List Int) (hg : GrOk g) (hS : S.length<=1099511627776) : zaj Tryz.prog zg4 [eG g,ints S] [] (.rs 0 0 g.size.toNat) [some ⟨1,zag (zcL g S),0⟩]:=by
 refine ztk.ac ?_;show awp _ 0 _ _ ⟨72,[(0,eG g),(1,ints S)],[],16⟩;have hsz:=hg.1.1;have hsz2:=hg.1.2.1;have h500:=hg.1.2.2.1;have hgone : g.gone.length<=1000000:=Nat.le_trans hg.gone_le (by omega)
 obtain ⟨N,hN⟩ : ∃ N : Nat,N=g.size.toNat:=⟨_,rfl⟩;refine zaa ⟨72,[(1,ints S),(2,.pv (gC g))],[],32⟩ rfl ?_ ?_
 .simp
  exact Le.snap [16] rfl rfl (by simp)
 refine zab ?_;refine zan ?_;refine zab ?_;refine zab ?_;refine zan ?_;refine zaf ?_
 let C : Nat->St:=λ k=>⟨72,[(1,ints S),(2,.pv (gC g)),(5,.rs 16 0 k),(6,.I k)],[(16,some ⟨1,zag (zgf g S k),0⟩)],48⟩
 refine zas C (λ k=>k<=N) (λ k=>N - k) 0 (Nat.zero_le _) (Le.lst [] [] [(16,1)] rfl (by simp) (by simp) (by simp) (by simp [C]) (by simp) (by simp) (by simp) (by simp [C,Up]) (by simp [C,zgf])) ?_
 intro k hk;have hCk : C k=⟨72,[(1,ints S),(2,.pv (gC g)),(5,.rs 16 0 k),(6,.I k)],[(16,some ⟨1,zag (zgf g S k),0⟩)],48⟩:=rfl;rw [hCk];refine zab ?_;refine zaa ⟨72,[(1,ints S),(2,.pv (gC g)),(5,.rs 16 0 k),(6,.I k),(13,.B (decide ((k : Int)<g.size)))],[(16,some ⟨1,zag (zgf g S k),0⟩)],80⟩ rfl ?_ ?_
 .simp
  exact Le.keep rfl (Nat.le_refl _) (by simp) (by simp)
 refine zad _ rfl (λ h=>zae ?_) λ h=>zaq (hit ?_)
 .simp only [decide_eq_true_eq] at h
  refine zaO (ι:=Unit) (λ _=>⟨72,[(1,ints S),(2,.pv (gC g)),(5,.rs 16 0 (k+1)),(6,.I k)],[(16,some ⟨1,zag (zgf g S (k+1)),0⟩)],48⟩) (λ _=>True) ?_ λ _ _=>?_
  .rw [zrJ]
   have hAl : (zgf g S k).length=k:=by simp [zgf]
   generalize zgf g S k=A at *;refine zaf ?_;refine zaa ⟨72,[(1,ints S),(2,.pv (gC g)),(5,.rs 96 0 (k+1)),(6,.I k)],[(96,some ⟨1,zag A++[[.I (-1)]],0⟩)],112⟩ rfl ?_ ?_
   .simp [List.replicate,hAl]
    refine ⟨by omega,by omega,?_⟩
    have e1 : List.take k (zag A)=zag A:=List.take_of_length_le (by simp [hAl])
    exact zky (i:=96) (sn:=[]) rfl rfl (by simp) (by simp) rfl (by rw [e1]; simp [fcd]) (by simp) (by simp)
   refine zaa ⟨72,[(1,ints S),(2,.pv (gC g)),(5,.rs 96 0 (k+1)),(6,.I k),(28,.B (zfb g S k))],[(96,some ⟨1,zag A++[[.I (-1)]],0⟩)],192⟩ rfl ?_ ?_
   .simp
    refine zf4 zbs rfl ?_;refine zap (znd S k (by omega)) rfl ?_
    simp;refine zem (λ hb=>?_) (λ hb=>?_)
    .simp [hb]
     refine zf4 zbs rfl ?_;refine zap (znd g.gone k (by omega)) rfl ?_
     simp [hb];exact zky (i:=96) (sn:=[]) rfl rfl (by simp) (by simp) rfl (by simp [fcd]) (by simp) (by simp [zfb] <;> exact wkB (by simp_all))
    .simp [hb]
     exact zky (i:=96) (sn:=[]) rfl rfl (by simp) (by simp) rfl (by simp [fcd]) (by simp) (by simp [zfb] <;> exact wkB (by simp_all))
   refine zad _ rfl (λ h5=>?_) λ h5=>zae ?_
   .have h0 : dl g S 0 k=0:=by rw [dl,if_pos h5]
    rw [h0];refine zav rfl ?_
    have hset : (zag A++[[AV.I (-1)]]).set k [AV.I 0]=zag A++[[AV.I 0]]:=by
     rw [List.set_append,if_neg (by simp [hAl])]
     simp [hAl]
    have hget : (zag A++[[AV.I (-1)]])[k]? = some [AV.I (-1)]:=by
     rw [List.getElem?_append_right (by simp [hAl])]
     simp [hAl]
    simp [hget,zat,hset];refine ⟨by omega,zky (i:=96) (sn:=[]) rfl rfl (by simp) (by simp) rfl (by simp [fcd]) (by simp) (by simp)⟩
   .have h0 : dl g S 0 k = -1:=by rw [dl,if_neg (by simp [h5])]
    rw [h0];exact ⟨(),trivial,zky (i:=96) (sn:=[]) rfl rfl (by simp) (by simp) rfl (by simp [fcd]) (by simp) (by simp)⟩
  have hwk : IntKind.i64.wrap ((k : Int)+1)=((k+1 : Nat) : Int):=by rw [w6]; omega
  refine zav rfl ?_;simp [hwk];exact ⟨k+1,by omega,by omega,Le.l1 16 16 [] rfl rfl (by simp [C]) (by simp) rfl (by simp [C])⟩
 simp only [decide_eq_false_iff_not] at h;obtain rfl : k=N:=by omega
 have hf : zgf g S k=midL g S 0 0:=by rw [ztV,hN]
 rw [hf];refine zab ?_;refine zaa ⟨72,[(2,.pv (gC g)),(5,.rs 16 0 k),(7,.I 0)],[(16,some ⟨1,zag (midL g S 0 0),0⟩)],88⟩ rfl ?_ ?_
 .simp
  exact Le.keep rfl (Nat.le_refl _) (by simp) (by simp)
 refine zaf ?_;refine zas (ι:=Nat) (λ n=>⟨72,[(2,.pv (gC g)),(5,.rs 16 0 k),(7,.I n)],[(16,some ⟨1,zag (midL g S n 0),0⟩)],88⟩) (λ n=>n<=k) (λ n=>k - n) 0 (Nat.zero_le _) (Le.refl _ _) ?_;intro n hn;refine zab ?_;refine zaa ⟨72,[(2,.pv (gC g)),(5,.rs 16 0 k),(7,.I n),(35,.B (decide ((n : Int)<g.size)))],[(16,some ⟨1,zag (midL g S n 0),0⟩)],120⟩ rfl ?_ ?_
 .simp
  exact Le.keep rfl (Nat.le_refl _) (by simp) (by simp)
 refine zad _ rfl (λ h=>zae ?_) λ h=>zaq (hit ?_)
 .simp only [decide_eq_true_eq] at h
  refine zaO (ι:=Unit) (λ _=>⟨72,[(2,.pv (gC g)),(5,.rs 16 0 k),(7,.I n)],[(16,some ⟨1,zag (midL g S (n+1) 0),0⟩)],88⟩) (λ _=>True) ?_ λ _ _=>?_
  .rw [<- zwg]
   refine zaf ?_;refine zaa ⟨72,[(2,.pv (gC g)),(5,.rs 16 0 k),(7,.I n),(8,.I 0)],[(16,some ⟨1,zag (midL g S n 0),0⟩)],128⟩ rfl ?_ ?_
   .simp
    exact Le.keep rfl (Nat.le_refl _) (by simp) (by simp)
   refine zaf ?_;refine zas (ι:=Nat) (λ i=>⟨72,[(2,.pv (gC g)),(5,.rs 16 0 k),(7,.I n),(8,.I i)],[(16,some ⟨1,zag (midL g S n i),0⟩)],128⟩) (λ i=>i<=g.edges.length) (λ i=>g.edges.length - i) 0 (Nat.zero_le _) (Le.refl _ _) ?_;intro i hi;refine zab ?_;refine zaa ⟨72,[(2,.pv (gC g)),(5,.rs 16 0 k),(7,.I n),(8,.I i),(42,.B (decide (i<g.edges.length)))],[(16,some ⟨1,zag (midL g S n i),0⟩)],168⟩ rfl ?_ ?_
   .simp
    exact Le.keep rfl (Nat.le_refl _) (by simp) (by simp)
   refine zad _ rfl (λ h2=>zae ?_) λ h2=>zaq (hit ?_)
   .simp only [decide_eq_true_eq] at h2
    refine zaO (ι:=Unit) (λ _=>⟨72,[(2,.pv (gC g)),(5,.rs 16 0 k),(7,.I n),(8,.I i)],[(16,some ⟨1,zag (midL g S n (i+1)),0⟩)],128⟩) (λ _=>True) ?_ λ _ _=>?_
    .have hfit:=hg.fits g.edges[i] (List.getElem_mem h2)
     obtain ⟨a,ha⟩ : ∃ a : Nat,g.edges[i].f=a:=⟨g.edges[i].f.toNat,by have:=hfit.1; omega⟩
     obtain ⟨b,hb⟩ : ∃ b : Nat,g.edges[i].t=b:=⟨g.edges[i].t.toNat,by have:=hfit.2.2.1; omega⟩
     have haN : a<g.size.toNat:=by have:=hfit.2.1; omega
     have hbN : b<g.size.toNat:=by have:=hfit.2.2.2.1; omega
     have hga:=zsv (g:=g) (S:=S) n i haN;have hgb:=zsv (g:=g) (S:=S) n i hbN;have hml : (zag (midL g S n i)).length=k:=by rw [zag,List.length_map,zlV,hN]
     have hsame:=zvZ (S:=S) n i h2;have hset:=zwX (S:=S) n i h2 hb hbN;rw [ha] at hsame hset;rw [hb] at hsame hset;have hdat:=zBf (g:=g) (S:=S) n i a;generalize hD1 : dP g S n i a=va at *;generalize hD2 : dP g S n i b=vb at *;generalize hM : zag (midL g S n i)=M at *;have hwn : IntKind.i64.wrap ((n : Int)+1)=(n : Int)+1:=w6;refine zaf ?_;refine zaa ⟨72,[(2,.pv (gC g)),(5,.rs 16 0 k),(7,.I n),(8,.I i),(9,.pv (eC g.edges[i]))],[(16,some ⟨1,M,0⟩)],128⟩ rfl ?_ ?_
     .simp [h2]
      exact zky (i:=16) (sn:=[208]) rfl rfl (by simp) (by simp) rfl (by rw [<- hM]; simp [fcd]) (by simp) (by simp)
     refine zaa ⟨72,[(2,.pv (gC g)),(5,.rs 16 0 k),(7,.I n),(8,.I i),(9,.pv (eC g.edges[i])),(64,.B (decide (va=n/\vb = -1)))],[(16,some ⟨1,M,0⟩)],248⟩ rfl ?_ ?_
     .simp [ha,hb,hga,hgb,show a<k by omega,show b<k by omega]
      refine zem (λ hx=>?_) (λ hx=>?_)
      .simp [hx,ha,hb,hga,hgb,show a<k by omega,show b<k by omega]
       refine Le.keep rfl (Nat.le_refl _) (by simp <;> simp_all <;> rw [Bool.eq_iff_iff] <;> simp) (by simp)
      .simp [hx]
       refine Le.keep rfl (Nat.le_refl _) (by simp <;> simp_all) (by simp)
     refine zad _ rfl (λ h5=>?_) λ h5=>zae ?_
     .simp only [decide_eq_true_eq] at h5
      have hs2:=hset (hdat.1 h5.1) h5.2;refine zav rfl ?_;simp [ha,hb,hgb,show b<k by omega,zat,hwn,hs2]
      exact Le.l1 16 16 [] rfl rfl (by simp) (by simp) rfl (by simp)
     .simp only [decide_eq_false_iff_not] at h5
      rw [hsame (λ hq=>h5 ⟨hdat.2 hq.1,hq.2⟩),hM];exact ⟨(),trivial,zky (i:=16) (sn:=[]) rfl rfl (by simp) (by simp) rfl (by rw [<- hM]; simp [fcd]) (by simp) (by simp)⟩
    have hwi : IntKind.i64.wrap ((i : Int)+1)=((i+1 : Nat) : Int):=by rw [w6]; omega
    refine zav rfl ?_;simp [hwi];exact ⟨i+1,by omega,by omega,Le.l1 16 16 [] rfl rfl (by simp) (by simp) rfl (by simp)⟩
   simp only [decide_eq_false_iff_not] at h2;obtain rfl : i=g.edges.length:=by omega
   exact ⟨(),trivial,Le.l1 16 16 [] rfl rfl (by simp) (by simp) rfl (by simp)⟩
  have hwn : IntKind.i64.wrap ((n : Int)+1)=((n+1 : Nat) : Int):=by rw [w6]; omega
  refine zav rfl ?_;simp [hwn];exact ⟨n+1,by omega,by omega,Le.l1 16 16 [] rfl rfl (by simp) (by simp) rfl (by simp)⟩
 simp only [decide_eq_false_iff_not] at h;obtain rfl : n=k:=by omega
 rw [hN,zvM,<- hN];refine zab ?_;refine zan ?_;refine zai ?_;exact ⟨.inr rfl,zao.out [16] [] rfl (by simp) (by simp) (by simp) (by simp [fcd])⟩
def zeI (c : Int->Int->Int) : List Int->Int->List Int
 | [],x=>[x]
 | y::r,x=>if c x y<0 then y::zeI c r x else x::y::r
def zdS (c : Int->Int->Int) (M : List Int) : List Int:=M.foldl (zeI c) []
def ziV (c : Int->Int->Int) (M : List Int) : List Int:=(zdS c M).reverse
theorem zhx (c : Int->Int->Int) : ∀ (r : List Int) (x : Int),(zeI c r x).Perm (x::r)
 | [],x=>.refl _
 | y::r,x=>by
   unfold zeI;split
   .exact ((zhx c r x).cons y).trans (.swap _ _ _)
   .exact .refl _
theorem zpP (c : Int->Int->Int) (M : List Int) (k : Nat) (h : k<M.length) : zdS c (M.take (k+1))=zeI c (zdS c (M.take k)) M[k]:=by
 unfold zdS;rw [<- List.take_concat_get h,List.concat_eq_append,List.foldl_append];rfl
theorem zhb (c : Int->Int->Int) (M : List Int) : (zdS c M).Perm M:=by
 have key : ∀ (M acc : List Int),(M.foldl (zeI c) acc).Perm (M++acc):=by
  intro M
  induction M with
  | nil=>intro acc; exact .refl _
  | cons x M ih =>
    intro acc;refine (ih _).trans ?_;refine ((zhx c acc x).append_left M).trans ?_;simp only [List.cons_append];exact List.perm_middle
 simpa [zdS] using key M []
theorem zlg (c : Int->Int->Int) (M : List Int) : (zdS c M).length=M.length:=(zhb c M).length_eq
theorem zuG (c : Int->Int->Int) (x : Int) : zdS c [x]=[x]:=rfl
theorem Le.np1 {st st' : St} {D : List Int} (sn : List Nat) (hsz : st'.sz=st.sz) (hn : 1<=st'.n) (hh : st'.h=[(0,some ⟨1,zag D,0⟩)]) (hs : ∀ k∈sn,1<=k) (he : st.hp 0=some ⟨1,zag D,0⟩) (ht : ∀ p∈st'.t,Wk (conv [(0,0)] sn st.hp 4 (st.get p.1)) p.2) : Le 1 st st' :=
 Le.ents [(0,0)] sn hsz (by simp) (by simp) (by simp; omega) (λ k hk=>⟨hs k hk,by have:=hs k hk; simp; omega⟩) hn ht (λ p hp=>by
  rw [hh] at hp;simp at hp;subst hp
  exact ⟨0,_,_,rfl,by simp,he,zaN.eq (by simp [fcd]) (by simp)⟩)
theorem zuJ {H T : List Int} {y x : Int} {h : Nat} (hh : H.length=h) : (zag (H++y::x::T))[h]? = some [AV.I y]/\(zag (H++y::x::T))[h+1]? = some [AV.I x]:=by
 subst hh;constructor
 .rw [List.getElem?_map,List.getElem?_append_right (by omega)]
  simp
 .rw [List.getElem?_map,List.getElem?_append_right (by omega)]
  simp
theorem zyr {H T : List Int} {y x : Int} {h : Nat} (hh : H.length=h) : ((zag (H++y::x::T)).set (h+1) [AV.I y]).set h [AV.I x]=zag (H++x::y::T):=by
 subst hh;simp [zag,List.set_append]
set_option maxHeartbeats 4000000 in
set_option maxRecDepth 100000 in
theorem zqj (f : FuncId) (capt : List AV) (c : Int->Int->Int) (A M B : List Int) (n a b : Nat) (hn : (A++M++B).length=n) (ha : A.length=a) (hb : a+M.length=b) (hl : n<=1000000) (hs : zlI capt)
  (hc : ∀ x∈M,∀ y∈M,zaj Tryz.prog f (AV.I x::AV.I y::capt) [] (.I (c x y)) []) :
  zaj Tryz.prog zaK [.rs 0 0 n,.I a,.I b,.fn (.func f) [] capt] [⟨1,zag (A++M++B),0⟩] (.tup []) [some ⟨1,zag (A++ziV c M++B),0⟩]:=by
 have hs2 : ∀ ρ sn h,capt.map (conv ρ sn h 2)=capt:=λ _ _ _=>hs _ _ _ 1
 have hs3 : ∀ ρ sn h,capt.map (conv ρ sn h 3)=capt:=λ _ _ _=>hs _ _ _ 2
 have hs4 : ∀ ρ sn h,capt.map (conv ρ sn h 4)=capt:=λ _ _ _=>hs _ _ _ 3
 refine zbA.acalls (nbz rfl) (nbz rfl) (nbz rfl) ?_;show awp _ 1 _ _ ⟨53,[(0,.rs 0 0 n),(1,.I a),(2,.I b),(3,.fn (.func f) [] capt)],[(0,some ⟨1,zag (A++M++B),0⟩)],16⟩
 have hlen : a+(M.length+B.length)=n:=by
  simp only [List.length_append] at hn;omega
 have hbn : b<=n:=by omega
 have hwa : IntKind.i64.wrap ((a : Int)+1)=((a+1 : Nat) : Int):=by rw [w6]; omega
 let Lk : Nat->List Int:=λ k=>A++((zdS c (M.take k)).reverse++(M.drop k++B))
 have hL1 : A++M++B=Lk 1:=by
  cases M with
  | nil=>simp [Lk,zdS]
  | cons m M=>simp [Lk,zuG]
 rw [hL1];refine zaa ⟨53,[(0,.rs 0 0 n),(1,.I a),(2,.I b),(3,.fn (.func f) [] capt),(8,.I (a+1 : Nat))],[(0,some ⟨1,zag (Lk 1),0⟩)],40⟩ rfl ?_ ?_
 .simp [hwa]
  exact Le.keep rfl (Nat.le_refl _) (by simp) (by simp)
 refine zaf ?_;refine zas (ι:=Nat) (λ k=>⟨53,[(0,.rs 0 0 n),(1,.I a),(2,.I b),(3,.fn (.func f) [] capt),(8,.I (a+k : Nat))],[(0,some ⟨1,zag (Lk k),0⟩)],40⟩) (λ k=>1<=k/\k<=M.length+1/\(M.length<=k->zag (Lk k)=zag (A++ziV c M++B))) (λ k=>M.length+1 - k) 1 ?_ (Le.refl _ _) ?_
 .refine ⟨Nat.le_refl _,by omega,λ h=>?_⟩
  simp only [Lk];rw [List.take_of_length_le h,List.drop_eq_nil_of_le h];simp [ziV]
 rintro k ⟨hk1,hk2,hk3⟩
 refine zab ?_;refine zaa ⟨53,[(0,.rs 0 0 n),(1,.I a),(2,.I b),(3,.fn (.func f) [] capt),(8,.I (a+k : Nat)),(14,.B (decide (k<M.length)))],[(0,some ⟨1,zag (Lk k),0⟩)],64⟩ rfl ?_ ?_
 .simp
  exact Le.keep rfl (Nat.le_refl _) (by simp <;> omega) (by simp)
 refine zad _ rfl (λ h=>zae ?_) λ h=>zaq (hit ?_)
 .simp only [decide_eq_true_eq] at h
  refine zaO (ι:=Unit) (λ _=>⟨53,[(0,.rs 0 0 n),(1,.I a),(2,.I b),(3,.fn (.func f) [] capt),(8,.I (a+k : Nat))],[(0,some ⟨1,zag (Lk (k+1)),0⟩)],64⟩) (λ _=>True) ?_ λ _ _=>?_
  .have hx : M[k]∈M:=List.getElem_mem h
   have hdrop : M.drop k=M[k]::M.drop (k+1):=List.drop_eq_getElem_cons h;have hsucc:=zpP c M k h;generalize M[k]=x at *;obtain ⟨D,hD⟩ : ∃ D,D=M.drop (k+1)++B:=⟨_,rfl⟩;obtain ⟨R,hR⟩ : ∃ R,R=zdS c (M.take k):=⟨_,rfl⟩
   have hRm : ∀ y∈R,y∈M:=λ y hy=>by
    rw [hR] at hy;exact List.mem_of_mem_take ((zhb c _).mem_iff.1 hy)
   have hRl : R.length=k:=by rw [hR,zlg]; simp; omega
   have hDl : D.length+k+1=M.length+B.length:=by rw [hD]; simp; omega
   have hLk : Lk k=A++R.reverse++x::D:=by simp only [Lk]; rw [hdrop,<- hR,hD]; simp
   have hLk1 : Lk (k+1)=A++(zeI c R x).reverse++D:=by simp only [Lk]; rw [hsucc,<- hR,hD]; simp
   rw [hLk,hLk1];refine zaf ?_;refine zaa ⟨53,[(0,.rs 0 0 n),(1,.I a),(2,.I b),(3,.fn (.func f) [] capt),(8,.I (a+k : Nat)),(9,.I (a+k : Nat))],[(0,some ⟨1,zag (A++R.reverse++x::D),0⟩)],80⟩ rfl ?_ ?_
   .simp
    exact Le.keep rfl (Nat.le_refl _) (by simp) (by simp)
   refine zaf ?_
   let C : List Int × List Int->St:=λ p=>⟨53,[(0,.rs 0 0 n),(1,.I a),(2,.I b),(3,.fn (.func f) [] capt),(8,.I (a+k : Nat)),(9,.I (a+p.2.length : Nat))],[(0,some ⟨1,zag (A++p.2.reverse++x::(p.1++D)),0⟩)],80⟩
   refine zas C (λ p : List Int × List Int=>zeI c R x=p.1.reverse++zeI c p.2 x/\p.1.length+p.2.length=k /\ ∀ y∈p.2,y∈M) (λ p : List Int × List Int=>p.2.length) ([],R) ⟨rfl,by simpa using hRl,hRm⟩ ?_ ?_
   .simp only [C,hRl,List.nil_append]
    exact Le.refl _ _
   rintro ⟨U,V⟩ ⟨hins,hUV,hVm⟩
   simp only at hins hUV hVm
   match V,hins,hUV,hVm with
   | [],hins,hUV,hVm =>
     have hC : C (U,[])=⟨53,[(0,.rs 0 0 n),(1,.I a),(2,.I b),(3,.fn (.func f) [] capt),(8,.I (a+k : Nat)),(9,.I a)],[(0,some ⟨1,zag (A++x::(U++D)),0⟩)],80⟩:=by simp [C]
     rw [hC];refine zab ?_;refine zaC ⟨53,[(0,.rs 0 0 n),(1,.I a),(2,.I b),(3,.fn (.func f) [] capt),(8,.I (a+k : Nat)),(34,.B false)],[(0,some ⟨1,zag (A++x::(U++D)),0⟩)],216⟩ rfl ?_ ?_
     .simp
      exact ⟨rfl,Le.keep rfl (Nat.le_refl _) (by simp) (by simp)⟩
     refine zad _ rfl (λ h=>by cases h) λ h=>zaq (hit ?_)
     have e : A++x::(U++D)=A++(zeI c R x).reverse++D:=by rw [hins]; simp [zeI]
     rw [<- e];exact ⟨(),trivial,Le.np1 [] rfl (by simp) rfl (by simp) rfl (by simp [hs2,hs3,hs4])⟩
   | y::V',hins,hUV,hVm =>
     obtain ⟨H,hH⟩ : ∃ H,H=A++V'.reverse:=⟨_,rfl⟩;obtain ⟨T,hT⟩ : ∃ T,T=U++D:=⟨_,rfl⟩;obtain ⟨q,hq⟩ : ∃ q,q=a+V'.length:=⟨_,rfl⟩;obtain ⟨j,hj⟩ : ∃ j,j=q+1:=⟨_,rfl⟩;have hHl : H.length=q:=by rw [hH,hq]; simp; omega
     have hgl : (H++y::x::T).length=n:=by
      have e : (H++y::x::T).length=H.length+(T.length+2):=by simp
      rw [e,hHl,hT,List.length_append];simp at hUV;omega
     have hg1:=(zuJ (T:=T) (y:=y) (x:=x) hHl).1;have hg2:=(zuJ (T:=T) (y:=y) (x:=x) hHl).2;have hset:=zyr (T:=T) (y:=y) (x:=x) hHl;rw [<- hj] at hg2 hset
     have hC : C (U,y::V')=⟨53,[(0,.rs 0 0 n),(1,.I a),(2,.I b),(3,.fn (.func f) [] capt),(8,.I (a+k : Nat)),(9,.I j)],[(0,some ⟨1,zag (H++y::x::T),0⟩)],80⟩:=by
      simp [C,hH,hT,hj,hq,Nat.add_assoc]
     rw [hC];have hcy:=hc x hx y (hVm y List.mem_cons_self);have hjn : j<n:=by rw [<- hgl,hj,<- hHl]; simp
     have hwj : IntKind.i64.wrap ((j : Int) - 1)=(q : Int):=by rw [w6]; omega
     have hqn : q<n:=by omega
     have haj : a<j:=by omega
     have hRl2 : (zag (H++y::x::T)).length=n:=by rw [zag,List.length_map,hgl]
     generalize hX : zag (H++y::x::T)=X at *;have hflat : ∀ ρ sn h m,X.map (List.map (conv ρ sn h (m+1)))=X:=λ ρ sn h m=>by rw [<- hX]; simp [fcd]
     refine zab ?_;refine zaC ⟨53,[(0,.rs 0 0 n),(1,.I a),(2,.I b),(3,.fn (.func f) [] capt),(8,.I (a+k : Nat)),(9,.I j),(34,.B (decide (c x y<0)))],[(0,some ⟨1,X,0⟩)],216⟩ rfl ?_ ?_
     .simp [haj,hjn,hqn,hg1,hg2,hwj]
      refine zap hcy ?_ ?_
      .simp [hs4]
      simp;exact ⟨rfl,Le.keep rfl (Nat.le_refl _) (by simp) (by simp)⟩
     refine zad _ rfl (λ h5=>zae ?_) λ h5=>zaq (hit ?_)
     .simp only [decide_eq_true_eq] at h5
      have hg3 : (X.set j [AV.I y])[q]? = some [AV.I y]:=by
       rw [List.getElem?_set,if_neg (by omega)]
       exact hg1
      generalize hY : zag (H++x::y::T)=Y at hset;refine zaO (ι:=Unit) (λ _=>⟨53,[(0,.rs 0 0 n),(1,.I a),(2,.I b),(3,.fn (.func f) [] capt),(8,.I (a+k : Nat)),(9,.I j)],[(0,some ⟨1,Y,0⟩)],360⟩) (λ _=>True) ?_ λ _ _=>?_
      .refine zaf ?_
       refine zcP rfl ?_;simp [hjn,hqn,hg1,hg2,hg3,hwj,zat];exact ⟨rfl,Le.keep rfl (Nat.le_refl _) (by simp) (by simp; exact hset)⟩
      refine zav rfl ?_;simp [hwj];refine ⟨y::U,V',⟨?_,?_,?_⟩,?_,?_⟩
      .rw [hins,zeI,if_pos h5]; simp
      .simp at hUV ⊢; omega
      .exact λ z hz=>hVm z (List.mem_cons_of_mem _ hz)
      .simp
      .have hC2 : C (y::U,V')=⟨53,[(0,.rs 0 0 n),(1,.I a),(2,.I b),(3,.fn (.func f) [] capt),(8,.I (a+k : Nat)),(9,.I q)],[(0,some ⟨1,Y,0⟩)],80⟩:=by rw [<- hY]; simp [C,hH,hT,hq]
       rw [hC2];have hflat2 : ∀ ρ sn h m,Y.map (List.map (conv ρ sn h (m+1)))=Y:=λ ρ sn h m=>by rw [<- hY]; simp [fcd]
       exact Le.ents [(0,0)] [] rfl (by simp) (by simp) (by simp) (by simp) (by simp) (by simp [hs2,hs3,hs4]) λ p hp=>by
        simp at hp;subst hp;exact ⟨0,_,_,rfl,by simp,rfl,zaN.eq (by simp only [zay,hflat2]) (by simp)⟩
     .simp only [decide_eq_false_iff_not] at h5
      have e : H++y::x::T=A++(zeI c R x).reverse++D:=by rw [hins,zeI,if_neg h5,hH,hT]; simp
      rw [<- e,hX]
      exact ⟨(),trivial,Le.ents [(0,0)] [] rfl (by simp) (by simp) (by simp) (by simp) (by simp) (by simp [hs2,hs3,hs4]) λ p hp=>by
       simp at hp;subst hp
       exact ⟨0,_,_,rfl,by simp,rfl,zaN.eq (by simp only [zay,hflat]) (by simp)⟩⟩
  have hwk : IntKind.i64.wrap (((a+k : Nat) : Int)+1)=((a+(k+1) : Nat) : Int):=by rw [w6]; omega
  refine zav rfl ?_;have hwk' : IntKind.i64.wrap ((a : Int)+(k : Int)+1)=((a+(k+1) : Nat) : Int):=by rw [<- hwk]; congr 1
  simp [hwk'];refine ⟨k+1,⟨by omega,by omega,λ h2=>?_⟩,by omega,?_⟩
  .have he : M.length=k+1:=by omega
   simp only [Lk];rw [List.take_of_length_le (by omega),List.drop_eq_nil_of_le (by omega)]
   simp [ziV]
  .exact Le.np1 [] rfl (by simp) rfl (by simp) rfl (by simp [hs2,hs3,hs4])
 simp only [decide_eq_false_iff_not] at h;rw [hk3 (by omega)]
 exact ⟨.inl rfl,⟨[],rfl,[],[],by simp [List.range,List.range.loop],by simp,by simp,by simp,by simp [List.range,List.range.loop,fcd]⟩⟩
end Go.Proofs.YtkngdgplbojdlaaGreat
