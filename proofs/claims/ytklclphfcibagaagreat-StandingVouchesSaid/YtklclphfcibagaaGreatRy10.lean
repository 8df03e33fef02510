/- Texts of this claim,merged. -/
import Derived.Test.YtklclphfcibagaaGreatRy9
import Derived.Test.YtklclphfcibagaaGreatRy8
import Derived.Test.YtklclphfcibagaaGreatRy7
import Derived.Shelf.SlIterI.Collect
import Derived.RangeFuncLeaves
set_option linter.unusedSimpArgs false
set_option linter.unusedVariables false
set_option linter.unusedSectionVars false
namespace Go.Proofs.YtklclphfcibagaaGreat
open Go
def zj2 (capt : List AV) : Prop:=∀ ρ sn h n,capt.map (conv ρ sn h (n + 1)) = capt
def idxQ {α : Type} (l : List α) (q : α → Bool) : Int:=if l.findIdx q < l.length then (l.findIdx q : Int) else -1
theorem zpv {α : Type} {l : List α} {q : α → Bool} {k : Nat} (hk : k < l.length) (h1 : ∀ i,i < k → ∀ h : i < l.length,q l[i] = false) (h2 : q l[k] = true) : idxQ l q = k:=by
 have : l.findIdx q = k:=by
  rw [List.findIdx_eq hk]
  exact ⟨h2,fun j hj=>by simpa using h1 j hj (by omega)⟩
 unfold idxQ
 rw [this,if_pos hk]
theorem zo4 {α : Type} {l : List α} {q : α → Bool} (h1 : ∀ i,i < l.length → ∀ h : i < l.length,q l[i] = false) : idxQ l q = -1:=by
 have : l.findIdx q = l.length:=by
  rw [List.findIdx_eq_length]
  intro x hx
  obtain ⟨i,hi,rfl⟩:=List.mem_iff_getElem.1 hx
  exact h1 i hi hi
 unfold idxQ
 rw [this,if_neg (by omega)]
theorem zmQ (f : FuncId) (capt : List AV) (q : Ed → Bool) (l : List Ed) (hl : l.length ≤ 1099511627776) (hs : zj2 capt) (hc : ∀ e ∈ l,zao Tryz.prog f (eE e :: capt) [] (.B (q e)) []) : zao Tryz.prog zbf [eEs l,.fn (.func f) [] capt] [] (.I (idxQ l q)) []:=by
 have hs2 : ∀ ρ sn h,capt.map (conv ρ sn h 2) = capt:=fun _ _ _=>hs _ _ _ 1
 have hs3 : ∀ ρ sn h,capt.map (conv ρ sn h 3) = capt:=fun _ _ _=>hs _ _ _ 2
 have hs4 : ∀ ρ sn h,capt.map (conv ρ sn h 4) = capt:=fun _ _ _=>hs _ _ _ 3
 refine zcS.ac ?_
 show awp _ 0 _ _ ⟨19,[(0,eEs l),(1,.fn (.func f) [] capt)],[],16⟩
 refine zac ?_
 refine zau ?_
 refine zac ?_
 refine zac ?_
 refine zau ?_
 refine zai ?_
 refine zaI (ι:=Nat) (fun k=>⟨19,[(0,eEs l),(1,.fn (.func f) [] capt),(7,.I l.length),(8,.I k)],[],16⟩) (fun k=>k ≤ l.length ∧ ∀ i,i < k → ∀ h : i < l.length,q l[i] = false) (fun k=>l.length - k) (0) ?_ (Le.snap [] rfl rfl (by simp [hs2,hs3,hs4])) ?_
 ·simp
 rintro k ⟨hk,hp⟩
 refine zac ?_
 refine zau ?_
 refine zac ?_
 refine zak _ rfl (fun h4=>?_) fun h4=>?_
 ·try simp at h4
  have hw2 : IntKind.i64.wrap ((k : Int) + 1) = (k : Int) + 1:=w6
  have hck:=hc l[k] (List.getElem_mem h4)
  refine zal ?_
  refine zac ?_
  refine zai ?_
  refine zac ?_
  refine zax (s:=?s5) rfl ?o5 ?q5
  case o5=>simp [h4,hw2]; rfl
  refine zac ?_
  refine zax (s:=?s6) rfl ?o6 ?q6
  case o6 =>
   simp [h4,hw2]
   refine zaJ hck ?_ ?_
   ·simp [hs2,hs3,hs4]
   simp [h4,hw2]; rfl
  refine zak _ rfl (fun h7=>?_) fun h7=>?_
  ·try simp at h7
   refine zac ?_
   refine zax (s:=?s8) rfl ?o8 ?q8
   case o8=>simp [h4,hw2]; rfl
   refine zan ?_
   exact ⟨.inr rfl,zat.one (by simp [zpv h4 hp h7])⟩
  try simp at h7
  refine zal ?_
  refine zax (s:=?s9) rfl ?o9 ?q9
  case o9=>simp [h4,hw2]; rfl
  refine ⟨k + 1,⟨h4,fun i hi=>?_⟩,by omega,Le.snap [] rfl rfl (by simp [h4,hw2,hs2,hs3,hs4])⟩
  rcases Nat.lt_succ_iff_lt_or_eq.1 hi with h | rfl
  ·exact hp i h
  ·exact fun _=>h7
 try simp at h4
 have hall : ∀ i,i < l.length → ∀ h : i < l.length,q l[i] = false:=fun i hi=>hp i (by omega)
 refine zaD ?_
 refine hit ?_
 refine zac ?_
 refine zau ?_
 refine zan ?_
 exact ⟨.inr rfl,zat.one (by simp [zo4 hall])⟩
abbrev zb4 (l : List Ed) : List (List AV):=l.map fun e=>[AV.I e.f,AV.I e.t,AV.I e.v]
theorem zhN {l : List Ed} {q : Ed → Bool} (h : ∀ i,i < l.length → ∀ h : i < l.length,q l[i] = false) : l.filter (fun e=>!q e) = l:=by
 rw [List.filter_eq_self]
 intro x hx
 obtain ⟨i,hi,rfl⟩:=List.mem_iff_getElem.1 hx
 simp [h i hi hi]
theorem zfX (l : List Ed) (q : Ed → Bool) (j : Nat) (h : j < l.length) : (l.take (j + 1)).filter (fun e=>!q e) = (l.take j).filter (fun e=>!q e) ++ if q l[j] = true then [] else [l[j]]:=by
 rw [← List.take_concat_get h,List.concat_eq_append,List.filter_append]
 congr 1
 cases hq : q l[j] <;> simp [hq]
set_option maxRecDepth 100000 in
theorem zll (f : FuncId) (capt : List AV) (q : Ed → Bool) (l : List Ed) (n m : Nat) (hn : l.length = n) (hm : (l.filter fun e=>!q e).length = m) (hl : n ≤ 1099511627776) (hs : zj2 capt) (hc : ∀ e ∈ l,zao Tryz.prog f (eE e :: capt) [] (.B (q e)) []) :
  zao Tryz.prog zbc [.rs 0 0 n,.fn (.func f) [] capt] [⟨3,zb4 l,0⟩] (.rs 0 0 m) [some ⟨3,zb4 (l.filter fun e=>!q e) ++ List.replicate (n - m) [.I 0,.I 0,.I 0],0⟩]:=by
 have hs2 : ∀ ρ sn h,capt.map (conv ρ sn h 2) = capt:=fun _ _ _=>hs _ _ _ 1
 have hs3 : ∀ ρ sn h,capt.map (conv ρ sn h 3) = capt:=fun _ _ _=>hs _ _ _ 2
 have hs4 : ∀ ρ sn h,capt.map (conv ρ sn h 4) = capt:=fun _ _ _=>hs _ _ _ 3
 refine zcL.acalls (nbz rfl) (nbz rfl) (nbz rfl) ?_
 show awp _ 1 _ _ ⟨42,[(0,.rs 0 0 n),(1,.fn (.func f) [] capt)],[(0,some ⟨3,zb4 l,0⟩)],16⟩
 have hmn : m ≤ n:=by rw [← hm,← hn]; exact List.length_filter_le _ _
 refine zad ⟨42,[(0,.rs 0 0 n),(1,.fn (.func f) [] capt)],[(0,some ⟨3,zb4 l,0⟩)],24⟩ rfl ?_ ?_
 ·simp
  exact Le.keep rfl (Nat.le_refl _) (by simp) (by simp)
 refine zad ⟨42,[(0,.rs 0 0 n),(1,.fn (.func f) [] capt),(5,.I (idxQ l q))],[(0,some ⟨3,zb4 l,0⟩)],56⟩ rfl ?_ ?_
 ·simp
  refine zl7 [0] (zmQ f capt q l (by omega) hs hc) ?_ (.sc _) ?_
  ·simp [hs2,hs3,hs4,← hn,fcd,zaU]
  simp
  exact Le.keep rfl (Nat.le_refl _) (by simp) (by simp)
 refine zac ?_
 refine zad ⟨42,[(0,.rs 0 0 n),(1,.fn (.func f) [] capt),(5,.I (idxQ l q)),(12,.B (decide (idxQ l q = -1)))],[(0,some ⟨3,zb4 l,0⟩)],72⟩ rfl ?_ ?_
 ·simp
  exact Le.keep rfl (Nat.le_refl _) (by simp <;> rw [Bool.eq_iff_iff] <;> simp) (by simp)
 refine zak _ rfl (fun h=>?_) fun h=>zal ?_
 ·simp only [decide_eq_true_eq] at h
  have hno : ∀ i,i < l.length → ∀ h : i < l.length,q l[i] = false:=by
   intro i hi _
   unfold idxQ at h
   split at h
   ·omega
   ·rename_i hnl
    have : l.findIdx q = l.length:=by have:=List.findIdx_le_length (xs:=l) (p:=q); omega
    rw [List.findIdx_eq_length] at this
    exact this _ (List.getElem_mem hi)
  have hf:=zhN hno
  rw [hf] at hm ⊢
  obtain rfl : n = m:=by omega
  refine zac ?_
  refine zau ?_
  refine zan ?_
  refine ⟨.inr rfl,⟨[.rs 0 0 n],rfl,[],[],by simp [List.range,List.range.loop],by simp,by simp,?_,?_⟩⟩
  ·simp [List.range,List.range.loop]
  ·simp [List.range,List.range.loop,fcd]
 simp only [decide_eq_false_iff_not] at h
 obtain ⟨i0,hi0,hlt,hbef,hat⟩ : ∃ i0 : Nat,idxQ l q = i0 ∧ i0 < l.length ∧ (∀ i,i < i0 → ∀ h : i < l.length,q l[i] = false) ∧ ∀ h : i0 < l.length,q l[i0] = true:=by
  unfold idxQ at h ⊢
  split at h
  ·rename_i hlt
   refine ⟨l.findIdx q,by rw [if_pos hlt],hlt,fun i hi _=>?_,fun h=>List.findIdx_getElem (w:=h)⟩
   simpa using List.not_of_lt_findIdx hi
  ·omega
 rw [hi0]
 have hA0 : (l.take (i0 + 1)).filter (fun e=>!q e) = l.take i0:=by
  rw [zfX l q i0 hlt,if_pos (hat hlt),List.append_nil]
  refine zhN fun i hi h=>?_
  rw [List.length_take] at hi
  simp only [List.getElem_take]
  exact hbef i (by omega) (by omega)
 have hw0 : IntKind.i64.wrap ((i0 : Int) + 1) = ((i0 + 1 : Nat) : Int):=by rw [w6]; omega
 let C : Nat × List Ed → St:=fun p=>⟨42,[(0,.rs 0 0 n),(1,.fn (.func f) [] capt),(5,.I ((l.take p.1).filter fun e=>!q e).length),(6,.I p.1)],[(0,some ⟨3,zb4 ((l.take p.1).filter (fun e=>!q e) ++ p.2 ++ l.drop p.1),0⟩)],96⟩
 refine zac ?_
 refine zad (C (i0 + 1,[l[i0]])) rfl ?_ ?_
 ·simp [hw0]
  refine Le.keep rfl (Nat.le_refl _) ?_ ?_
  ·simp only [C,hA0]
   simp
   omega
  ·simp only [C,hA0]
   simp
 refine zai ?_
 refine zaI C (fun p : Nat × List Ed=>p.1 ≤ n ∧ p.2 ≠ [] ∧ ((l.take p.1).filter fun e=>!q e).length + p.2.length = p.1) (fun p : Nat × List Ed=>n - p.1) (i0 + 1,[l[i0]]) ?_ (Le.refl _ _) ?_
 ·simp only [hA0]
  simp
  omega
 rintro ⟨j,M⟩ ⟨hj,hM,hlen⟩
 simp only at hj hM hlen ⊢
 obtain ⟨A,hA⟩ : ∃ A,A = (l.take j).filter fun e=>!q e:=⟨_,rfl⟩
 rw [← hA] at hlen
 have hC : C (j,M) = ⟨42,[(0,.rs 0 0 n),(1,.fn (.func f) [] capt),(5,.I A.length),(6,.I j)],[(0,some ⟨3,zb4 (A ++ M ++ l.drop j),0⟩)],96⟩:=by subst hA; rfl
 rw [hC]
 refine zac ?_
 refine zad ⟨42,[(0,.rs 0 0 n),(1,.fn (.func f) [] capt),(5,.I A.length),(6,.I j),(19,.B (decide (j < n)))],[(0,some ⟨3,zb4 (A ++ M ++ l.drop j),0⟩)],128⟩ rfl ?_ ?_
 ·simp
  exact Le.keep rfl (Nat.le_refl _) (by simp) (by simp)
 refine zak _ rfl (fun h=>zal ?_) fun h=>zaD (hit ?_)
 ·simp only [decide_eq_true_eq] at h
  have hjl : j < l.length:=by omega
  match M,hM,hlen with
  | m0 :: M1,_,hlen =>
  simp only [List.length_cons] at hlen
  have hnext:=zfX l q j hjl
  rw [← hA] at hnext
  have hget : (zb4 (A ++ m0 :: M1 ++ l.drop j))[j]? = some [AV.I l[j].f,AV.I l[j].t,AV.I l[j].v]:=by
   rw [List.getElem?_map,List.getElem?_append_right (by simp; omega),List.getElem?_drop,show j + (j - (A ++ m0 :: M1).length) = j by simp; omega,List.getElem?_eq_getElem hjl]
   rfl
  have hget2 : (zb4 (A ++ m0 :: M1 ++ l.drop j))[A.length]? = some [AV.I m0.f,AV.I m0.t,AV.I m0.v]:=by
   rw [List.getElem?_map,List.append_assoc,List.getElem?_append_right (by omega)]
   simp
  have hset : (zb4 (A ++ m0 :: M1 ++ l.drop j)).set A.length [AV.I l[j].f,AV.I l[j].t,AV.I l[j].v] = zb4 ((A ++ [l[j]]) ++ (M1 ++ [l[j]]) ++ l.drop (j + 1)):=by
   have e1 : l.drop j = l[j] :: l.drop (j + 1):=List.drop_eq_getElem_cons hjl
   rw [e1]
   simp [zb4,List.set_append]
  have hmore : A ++ m0 :: M1 ++ l.drop j = A ++ (m0 :: M1 ++ [l[j]]) ++ l.drop (j + 1):=by
   have e1 : l.drop j = l[j] :: l.drop (j + 1):=List.drop_eq_getElem_cons hjl
   rw [e1]
   simp
  generalize hrows : zb4 (A ++ m0 :: M1 ++ l.drop j) = R at *
  have hRl : R.length = n:=by rw [← hrows]; simp; omega
  have hck:=hc l[j] (List.getElem_mem hjl)
  generalize hv : l[j] = v at *
  refine zbM (ι:=List Ed × List Ed) (fun p=>⟨42,[(0,.rs 0 0 n),(1,.fn (.func f) [] capt),(5,.I p.1.length),(6,.I j)],[(0,some ⟨3,zb4 (p.1 ++ p.2 ++ l.drop (j + 1)),0⟩)],272⟩)
   (fun p=>p.1 = (l.take (j + 1)).filter (fun e=>!q e) ∧ p.2 ≠ [] ∧ p.1.length + p.2.length = j + 1) ?_ ?_
  ·refine zai ?_
   refine zad ⟨42,[(0,.rs 0 0 n),(1,.fn (.func f) [] capt),(5,.I A.length),(6,.I j),(7,.pt 160 0 0)],[(0,some ⟨3,R,0⟩),(160,some ⟨3,[[.I v.f,.I v.t,.I v.v]],0⟩)],176⟩ rfl ?_ ?_
   ·simp [h,hget]
    exact Le.keep rfl (Nat.le_refl _) (by simp) (by simp)
   refine zad ⟨42,[(0,.rs 0 0 n),(1,.fn (.func f) [] capt),(5,.I A.length),(6,.I j),(7,.pt 160 0 0),(29,.B (!q v))],[(0,some ⟨3,R,0⟩),(160,some ⟨3,[[.I v.f,.I v.t,.I v.v]],0⟩)],208⟩ rfl ?_ ?_
   ·simp
    refine zaJ hck ?_ ?_
    ·simp [hs2,hs3,hs4]
    simp
    exact Le.keep rfl (Nat.le_refl _) (by simp) (by simp)
   refine zak _ rfl (fun h5=>?_) fun h5=>zal ?_
   ·simp only [Bool.not_eq_true'] at h5
    rw [h5] at hnext
    refine zad ⟨42,[(0,.rs 0 0 n),(1,.fn (.func f) [] capt),(5,.I A.length),(6,.I j)],[(0,some ⟨3,zb4 ((A ++ [v]) ++ (M1 ++ [v]) ++ l.drop (j + 1)),0⟩)],248⟩ rfl ?_ ?_
    ·simp [hget2,show A.length < n by omega,zbR,hset]
     exact Le.keep rfl (Nat.le_refl _) (by simp) (by simp)
    have hwA : IntKind.i64.wrap ((A.length : Int) + 1) = ((A.length + 1 : Nat) : Int):=by rw [w6]; omega
    refine zaV rfl ?_
    simp [hwA]
    refine ⟨A ++ [v],M1 ++ [v],⟨by rw [hnext]; simp,by simp,by simp; omega⟩,Le.keep rfl (Nat.le_refl _) (by simp) (by simp)⟩
   ·simp only [Bool.not_eq_false'] at h5
    rw [h5] at hnext
    refine ⟨(A,m0 :: M1 ++ [v]),⟨by rw [hnext]; simp,by simp,by simp; omega⟩,Le.keep rfl (nbz rfl) (by simp) ?_⟩
    rw [← hmore,hrows]
    simp
  rintro ⟨A',M'⟩ ⟨p1,p2,p3⟩
  simp only at p1 p2 p3 ⊢
  have hwj : IntKind.i64.wrap ((j : Int) + 1) = ((j + 1 : Nat) : Int):=by rw [w6]; omega
  refine zaV rfl ?_
  simp [hwj]
  refine ⟨j + 1,M',⟨by omega,p2,by rw [← p1]; omega⟩,by omega,?_⟩
  have hD : C (j + 1,M') = ⟨42,[(0,.rs 0 0 n),(1,.fn (.func f) [] capt),(5,.I A'.length),(6,.I ((j + 1 : Nat) : Int))],[(0,some ⟨3,zb4 (A' ++ M' ++ l.drop (j + 1)),0⟩)],96⟩:=by rw [p1]
  rw [hD]
  refine Le.ents [(0,0)] [] rfl (by simp) (by simp) (by simp) (by simp) (by simp) (by simp [hs2,hs3,hs4]) fun p hp=>?_
  simp at hp
  subst hp
  exact ⟨0,_,_,rfl,by simp,rfl,zba.eq (by simp [fcd]) (by simp)⟩
 simp only [decide_eq_false_iff_not] at h
 obtain rfl : j = n:=by omega
 have hd : l.drop j = []:=List.drop_eq_nil_of_le (by omega)
 have ht : l.take j = l:=List.take_of_length_le (by omega)
 rw [ht] at hA
 rw [hd,List.append_nil]
 rw [← hA] at hm ⊢
 subst hm
 have hAM : (zb4 (A ++ M)).take A.length = zb4 A:=by simp [zb4]
 have hAd : (zb4 (A ++ M)).drop (A.length + (j - A.length)) = []:=List.drop_eq_nil_of_le (by simp; omega)
 have hAl : (zb4 (A ++ M)).length = j:=by simp; omega
 generalize zb4 (A ++ M) = R at *
 refine zad ⟨42,[(0,.rs 0 0 j),(5,.I A.length)],[(0,some ⟨3,zb4 A ++ List.replicate (j - A.length) [.I 0,.I 0,.I 0],0⟩)],160⟩ rfl ?_ ?_
 ·simp
  refine ⟨by omega,by omega,?_⟩
  rw [hAM,hAd]
  exact Le.keep rfl (Nat.le_refl _) (by simp) (by simp)
 refine zac ?_
 refine zax (s:=?s2) rfl ?o2 ?q2
 case o2 =>
  simp
  refine ⟨by omega,?_⟩
  rfl
 refine zan ?_
 refine ⟨.inr rfl,⟨[.rs 0 0 A.length],rfl,[],[],by simp [List.range,List.range.loop],by simp,by simp,?_,?_⟩⟩
 ·simp [List.range,List.range.loop]
 ·simp [List.range,List.range.loop,fcd]
def zas (g : Gr) (v : Int) : Gr:=⟨g.size,g.edges.filter fun e=>!decide (e.v < v),g.gone⟩
theorem ziH (e : Ed) (v : Int) : zao Tryz.prog zdh [eE e,.pv [.I v]] [] (.B (decide (e.v < v))) []:=by
 refine zkj.ac ?_
 show awp _ 0 _ _ ⟨8,[(0,eE e),(1,.pv [.I v])],[],16⟩
 refine zad ⟨8,[(1,.pv [.I v]),(2,.pv (eC e))],[],16⟩ rfl ?_ ?_
 ·simp
  exact Le.snap [16] rfl rfl (by simp)
 refine zac ?_
 refine zau ?_
 refine zan ?_
 exact ⟨.inr rfl,zat.one (by simp)⟩
set_option maxRecDepth 100000 in
theorem ze5 (g : Gr) (v : Int) (hl : g.edges.length ≤ 1099511627776) (hl2 : g.gone.length ≤ 1099511627776) : zao Tryz.prog zd0 [eG g,.I v] [] (eG (zas g v)) []:=by
 refine znX.ac ?_
 show awp _ 0 _ _ ⟨14,[(0,eG g),(1,.I v)],[],16⟩
 obtain ⟨E,hE⟩ : ∃ E,E = g.edges.filter fun e=>!decide (e.v < v):=⟨_,rfl⟩
 have hEl : E.length ≤ g.edges.length:=by rw [hE]; exact List.length_filter_le _ _
 have hdel:=zll zdh [.pv [.I v]] (fun e=>decide (e.v < v)) g.edges g.edges.length E.length rfl (by rw [hE]) hl (fun ρ sn h n=>by simp) (fun e _=>ziH e v)
 rw [← hE] at hdel
 have hres : zas g v = ⟨g.size,E,g.gone⟩:=by rw [hE]; rfl
 rw [hres]
 refine zad ⟨14,[(2,.pv (gC g)),(3,.pt 24 0 0),(4,.pt 32 0 0)],[(24,some ⟨1,[[.I v]],0⟩),(32,some zG)],40⟩ rfl ?_ ?_
 ·simp
  refine Le.ents [(24,24),(32,32)] [16] rfl (by simp) (by simp) (by simp) (by simp) (by simp) (by simp) fun p hp=>?_
  simp at hp
  rcases hp with rfl | rfl
  ·exact ⟨24,_,_,rfl,by simp,rfl,zba.eq (by simp) (by simp)⟩
  ·exact ⟨32,_,_,rfl,by simp,rfl,zba.eq (by simp) (by simp)⟩
 refine zad ⟨14,[(3,.pt 24 0 0),(4,.pt 32 0 0),(5,.pt 56 0 0)],[(24,some ⟨1,[[.I v]],0⟩),(32,some zG),(56,some ⟨3,[[.I g.size,.rs 48 0 g.edges.length,.rs 49 0 g.gone.length]],0⟩),(48,some ⟨3,zb4 g.edges,0⟩),(49,some ⟨1,g.gone.map fun n=>[AV.I n],0⟩)],72⟩ rfl ?_ ?_
 ·simp
  refine zx1 (zke g (by omega) (by omega)) rfl ?_
  simp [fcd]
  exact Le.keep rfl (Nat.le_refl _) (by simp) (by simp)
 refine zad ⟨14,[(4,.pt 32 0 0),(5,.pt 56 0 0)],[(32,some zG),(56,some ⟨3,[[.I g.size,.rs 48 0 E.length,.rs 49 0 g.gone.length]],0⟩),(48,some ⟨3,zb4 E ++ List.replicate (g.edges.length - E.length) [.I 0,.I 0,.I 0],0⟩),(49,some ⟨1,g.gone.map fun n=>[AV.I n],0⟩)],120⟩ rfl ?_ ?_
 ·simp
  refine zwq (i:=48) (j:=24) (by decide) (Nat.zero_le _) rfl rfl ?_ hdel (by simp) ?_ ?_
  ·simp [fcd]
  ·simp
  simp [fcd]
  exact Le.keep rfl (Nat.le_refl _) (by simp) (by simp)
 refine zac ?_
 refine zau ?_
 refine zan ?_
 refine ⟨.inr rfl,?_⟩
 show zat [(4,some (true,3))] 0 _ _ _
 refine zat.out (vs:=[.agg [.I g.size,.rs 48 0 E.length,.rs 49 0 g.gone.length]]) [] [48,49] (by simp) (by simp) (by simp) ?_ (by simp)
 simp [fcd,zaU]
def zqv (g : Gr) (lv f t : Int) : Prop:=∃ e ∈ g.edges,e.f = f ∧ e.t = t ∧ lv ≤ e.v
theorem zdM : ∀ {a b : List Int},a.Nodup → (∀ x ∈ a,x ∈ b) → b.length ≤ a.length → a.Perm b
 | [],b,_,_,hl=>by
   have : b = []:=List.length_eq_zero_iff.1 (by simpa using hl)
   rw [this]
 | x :: a,b,hn,hs,hl=>by
   have hx : x ∈ b:=hs x (List.mem_cons_self ..)
   rw [List.nodup_cons] at hn
   have hb:=List.perm_cons_erase hx
   have hlb : (b.erase x).length + 1 = b.length:=by have:=hb.length_eq; simp at this; omega
   refine (List.Perm.cons x (zdM hn.2 (fun y hy=>?_) ?_)).trans hb.symm
   ·have hy2:=hs y (List.mem_cons_of_mem _ hy)
    have hne : y ≠ x:=fun e=>hn.1 (e ▸ hy)
    exact (List.mem_erase_of_ne hne).2 hy2
   ·rw [List.length_cons] at hl
    omega
def srt (l : List Int) : List Int:=l.mergeSort fun x y=>decide (x ≤ y)
theorem zgL (l : List Int) : (srt l).Perm l:=List.mergeSort_perm ..
theorem zso (l : List Int) : (srt l).Pairwise (· ≤ ·):=by
 have h:=List.pairwise_mergeSort (le:=fun x y : Int=>decide (x ≤ y)) (fun a b c h1 h2=>by simp at *; omega) (fun a b=>by simp; omega) l
 exact h.imp fun {a b} h=>by simpa using h
theorem zgI {a b : List Int} : srt a = srt b ↔ a.Perm b:=by
 constructor
 ·intro h
  exact (zgL a).symm.trans (h ▸ zgL b)
 ·intro h
  exact List.Perm.eq_of_pairwise (le:=(· ≤ ·)) (fun x y _ _ h1 h2=>by omega) (zso a) (zso b) (((zgL a).trans h).trans (zgL b).symm)
def zuy (g : Gr) (lv : Int) (seeds order w : List Int) : Prop :=
 (∃ k,w.head? = some k ∧ k ∈ seeds) ∧ (∀ k ∈ w,k ∈ order) ∧ w.Nodup ∧ ∀ i (h : i + 1 < w.length),zqv g lv w[i] w[i + 1]
def begC (P : List (List Int)) (k : Int) : Nat:=P.countP fun w=>decide (w.head? = some k)
def useC (P : List (List Int)) (k : Int) : Nat:=(P.flatMap List.dropLast).count k
def zmx (c : List Int) (P : List (List Int)) : Prop:=∀ k (h : k < c.length),(begC P k : Int) ≤ c[k] ∧ (useC P k : Int) ≤ max 0 (c[k] - 1)
def zil (P : List (List Int)) : List Int:=P.filterMap List.getLast?
def ziK (g : Gr) (lv : Int) (seeds order c : List Int) (P : List (List Int)) (ends : List Int) : Prop :=
 (∀ w ∈ P,zuy g lv seeds order w) ∧ zmx c P ∧ srt (zil P) = srt ends
def zlc (g : Gr) (lv : Int) (seeds order c : List Int) (P : List (List Int)) (ends : List Int) : Prop :=
 P.length = ends.length ∧ ends.Nodup ∧ (∀ w ∈ P,zuy g lv seeds order w) ∧ (∀ k ∈ zil P,k ∈ ends) ∧ (zil P).Nodup ∧ zmx c P
theorem zuy.ne {g : Gr} {lv : Int} {seeds order w : List Int} (h : zuy g lv seeds order w) : w ≠ []:=by
 rintro rfl
 obtain ⟨k,hk,_⟩:=h.1
 cases hk
theorem znI {P : List (List Int)} (h : ∀ w ∈ P,w ≠ []) : (zil P).length = P.length:=by
 unfold zil
 induction P with
 | nil=>rfl
 | cons w P ih =>
   have hw:=h w (List.mem_cons_self ..)
   rw [List.filterMap_cons,List.getLast?_eq_some_getLast hw]
   simp only [List.length_cons]
   rw [ih fun x hx=>h x (List.mem_cons_of_mem _ hx)]
theorem zlX {g : Gr} {lv : Int} {seeds order c : List Int} {P : List (List Int)} {ends : List Int} (hn : ends.Nodup) : ziK g lv seeds order c P ends ↔ zlc g lv seeds order c P ends:=by
 constructor
 ·rintro ⟨h1,h2,h3⟩
  have hp:=zgI.1 h3
  have hl:=znI fun w hw=>(h1 w hw).ne
  exact ⟨by rw [← hl,hp.length_eq],hn,h1,fun k hk=>hp.mem_iff.1 hk,hp.nodup_iff.2 hn,h2⟩
 ·rintro ⟨h0,_,h1,h2,h3,h4⟩
  have hl:=znI fun w hw=>(h1 w hw).ne
  exact ⟨h1,h4,zgI.2 (zdM h3 h2 (by omega))⟩
def zid (order : List Int) (key : Int) : List Int:=order.takeWhile fun x=>decide (x ≠ key)
theorem zpj (x : Int) (o : List Int) (key : Int) : zid (x :: o) key = if x = key then [] else x :: zid o key:=by
 unfold zid
 rw [List.takeWhile_cons]
 by_cases h : x = key <;> simp [h]
def zgt (order l : List Int) (key : Int) : Prop:=l.Sublist (zid order key)
theorem zld (order : List Int) (key : Int) : key ∉ zid order key:=by
 induction order with
 | nil=>simp [zid]
 | cons x o ih =>
   rw [zpj]
   split
   ·simp
   ·rename_i h
    simp only [List.mem_cons,not_or]
    exact ⟨fun e=>h e.symm,ih⟩
theorem zgt.nodup {order l : List Int} {key : Int} (h : zgt order l key) (hn : order.Nodup) : (l ++ [key]).Nodup:=by
 rw [List.nodup_append]
 refine ⟨(hn.sublist (List.takeWhile_sublist _)).sublist h,by simp,fun x hx y hy=>?_⟩
 rw [List.mem_singleton] at hy
 subst hy
 rintro rfl
 exact zld order x (h.subset hx)
theorem zq1 (l : List Ed) (key : Int) : (outs l key).length = l.countP fun e=>decide (e.f = key):=by
 induction l with
 | nil=>rfl
 | cons e l ih =>
   unfold outs at *
   by_cases h : e.f = key <;> simp [List.filterMap_cons,List.countP_cons,h,ih]
theorem GrOk.fits {g : Gr} (h : GrOk g) : ∀ e ∈ g.edges,Fits g e:=by
 intro e he
 obtain ⟨i,hi,rfl⟩:=List.mem_iff_getElem.1 he
 exact (h.2 i hi).1
theorem EqG.rfl' (a : Gr) : EqG a a:=⟨rfl,rfl,rfl⟩
abbrev zgi (l : List Int) : List Int:=l.mergeSort fun x y=>decide (x ≤ y)
theorem ziw (l : List Int) : (zgi l).length = l.length:=List.length_mergeSort ..
theorem zrt {l : List Int} {x : Int} : x ∈ zgi l ↔ x ∈ l:=List.mem_mergeSort
theorem GrOk.pair {g : Gr} (h : GrOk g) : g.edges.Pairwise Bef:=by
 rw [List.pairwise_iff_getElem]
 intro i j hi hj hij
 exact h.lt j i hi hj hij
theorem zr0 {st st' : St} {i j : Nat} {sn : List Nat} {e e' : Ent} (hsz : st'.sz = st.sz) (hh : st'.h = [(j,some e')]) (hj : j < st'.n) (hs : ∀ k ∈ sn,k ≠ i) (he : st.hp i = some e) (hee : zaw [(i,j)] sn st.hp 4 e = e') (hr : e'.ro ≤ e'.rows.length) (ht : ∀ p ∈ st'.t,Wk (conv [(i,j)] sn st.hp 4 (st.get p.1)) p.2) : Le 0 st st' :=
 Le.ents [(i,j)] sn hsz (by simp) (by simp) (by simpa using hj) (by simpa using hs) (Nat.zero_le _) ht (fun p hp=>by
  rw [hh] at hp
  simp at hp
  subst hp
  exact ⟨i,e,e',rfl,by simp,he,zba.eq hee hr⟩)
theorem zic (f : FuncId) (capt : List AV) (q : Int → Bool) (l : List Int) (hl : l.length ≤ 1099511627776) (hs : zj2 capt) (hc : ∀ e ∈ l,zao Tryz.prog f (AV.I e :: capt) [] (.B (q e)) []) : zao Tryz.prog zbr [ints l,.fn (.func f) [] capt] [] (.I (idxQ l q)) []:=by
 have hs2 : ∀ ρ sn h,capt.map (conv ρ sn h 2) = capt:=fun _ _ _=>hs _ _ _ 1
 have hs3 : ∀ ρ sn h,capt.map (conv ρ sn h 3) = capt:=fun _ _ _=>hs _ _ _ 2
 have hs4 : ∀ ρ sn h,capt.map (conv ρ sn h 4) = capt:=fun _ _ _=>hs _ _ _ 3
 refine zeQ.ac ?_
 show awp _ 0 _ _ ⟨19,[(0,ints l),(1,.fn (.func f) [] capt)],[],16⟩
 refine zac ?_
 refine zau ?_
 refine zac ?_
 refine zac ?_
 refine zau ?_
 refine zai ?_
 refine zaI (ι:=Nat) (fun k=>⟨19,[(0,ints l),(1,.fn (.func f) [] capt),(7,.I l.length),(8,.I k)],[],16⟩) (fun k=>k ≤ l.length ∧ ∀ i,i < k → ∀ h : i < l.length,q l[i] = false) (fun k=>l.length - k) (0) ?_ (Le.snap [] rfl rfl (by simp [hs2,hs3,hs4])) ?_
 ·simp
 rintro k ⟨hk,hp⟩
 refine zac ?_
 refine zau ?_
 refine zac ?_
 refine zak _ rfl (fun h4=>?_) fun h4=>?_
 ·try simp at h4
  have hw2 : IntKind.i64.wrap ((k : Int) + 1) = (k : Int) + 1:=w6
  have hck:=hc l[k] (List.getElem_mem h4)
  refine zal ?_
  refine zac ?_
  refine zai ?_
  refine zac ?_
  refine zax (s:=?s5) rfl ?o5 ?q5
  case o5=>simp [h4,hw2]; rfl
  refine zac ?_
  refine zax (s:=?s6) rfl ?o6 ?q6
  case o6 =>
   simp [h4,hw2]
   refine zaJ hck ?_ ?_
   ·simp [hs2,hs3,hs4]
   simp [h4,hw2]; rfl
  refine zak _ rfl (fun h7=>?_) fun h7=>?_
  ·try simp at h7
   refine zac ?_
   refine zax (s:=?s8) rfl ?o8 ?q8
   case o8=>simp [h4,hw2]; rfl
   refine zan ?_
   exact ⟨.inr rfl,zat.one (by simp [zpv h4 hp h7])⟩
  try simp at h7
  refine zal ?_
  refine zax (s:=?s9) rfl ?o9 ?q9
  case o9=>simp [h4,hw2]; rfl
  refine ⟨k + 1,⟨h4,fun i hi=>?_⟩,by omega,Le.snap [] rfl rfl (by simp [h4,hw2,hs2,hs3,hs4])⟩
  rcases Nat.lt_succ_iff_lt_or_eq.1 hi with h | rfl
  ·exact hp i h
  ·exact fun _=>h7
 try simp at h4
 have hall : ∀ i,i < l.length → ∀ h : i < l.length,q l[i] = false:=fun i hi=>hp i (by omega)
 refine zaD ?_
 refine hit ?_
 refine zac ?_
 refine zau ?_
 refine zan ?_
 exact ⟨.inr rfl,zat.one (by simp [zo4 hall])⟩
abbrev zaj (l : List Int) : List (List AV):=l.map fun e=>[AV.I e]
theorem zgW {l : List Int} {q : Int → Bool} (h : ∀ i,i < l.length → ∀ h : i < l.length,q l[i] = false) : l.filter (fun e=>!q e) = l:=by
 rw [List.filter_eq_self]
 intro x hx
 obtain ⟨i,hi,rfl⟩:=List.mem_iff_getElem.1 hx
 simp [h i hi hi]
theorem zfm (l : List Int) (q : Int → Bool) (j : Nat) (h : j < l.length) : (l.take (j + 1)).filter (fun e=>!q e) = (l.take j).filter (fun e=>!q e) ++ if q l[j] = true then [] else [l[j]]:=by
 rw [← List.take_concat_get h,List.concat_eq_append,List.filter_append]
 congr 1
 cases hq : q l[j] <;> simp [hq]
set_option maxRecDepth 100000 in
theorem zlz (f : FuncId) (capt : List AV) (q : Int → Bool) (l : List Int) (n m : Nat) (hn : l.length = n) (hm : (l.filter fun e=>!q e).length = m) (hl : n ≤ 1099511627776) (hs : zj2 capt) (hc : ∀ e ∈ l,zao Tryz.prog f (AV.I e :: capt) [] (.B (q e)) []) :
  zao Tryz.prog zbO [.rs 0 0 n,.fn (.func f) [] capt] [⟨1,zaj l,0⟩] (.rs 0 0 m) [some ⟨1,zaj (l.filter fun e=>!q e) ++ List.replicate (n - m) [.I 0],0⟩]:=by
 have hs2 : ∀ ρ sn h,capt.map (conv ρ sn h 2) = capt:=fun _ _ _=>hs _ _ _ 1
 have hs3 : ∀ ρ sn h,capt.map (conv ρ sn h 3) = capt:=fun _ _ _=>hs _ _ _ 2
 have hs4 : ∀ ρ sn h,capt.map (conv ρ sn h 4) = capt:=fun _ _ _=>hs _ _ _ 3
 refine zeN.acalls (nbz rfl) (nbz rfl) (nbz rfl) ?_
 show awp _ 1 _ _ ⟨42,[(0,.rs 0 0 n),(1,.fn (.func f) [] capt)],[(0,some ⟨1,zaj l,0⟩)],16⟩
 have hmn : m ≤ n:=by rw [← hm,← hn]; exact List.length_filter_le _ _
 refine zad ⟨42,[(0,.rs 0 0 n),(1,.fn (.func f) [] capt)],[(0,some ⟨1,zaj l,0⟩)],24⟩ rfl ?_ ?_
 ·simp
  exact Le.keep rfl (Nat.le_refl _) (by simp) (by simp)
 refine zad ⟨42,[(0,.rs 0 0 n),(1,.fn (.func f) [] capt),(5,.I (idxQ l q))],[(0,some ⟨1,zaj l,0⟩)],56⟩ rfl ?_ ?_
 ·simp
  refine zl7 [0] (zic f capt q l (by omega) hs hc) ?_ (.sc _) ?_
  ·simp [hs2,hs3,hs4,← hn,fcd,zaU]
  simp
  exact Le.keep rfl (Nat.le_refl _) (by simp) (by simp)
 refine zac ?_
 refine zad ⟨42,[(0,.rs 0 0 n),(1,.fn (.func f) [] capt),(5,.I (idxQ l q)),(12,.B (decide (idxQ l q = -1)))],[(0,some ⟨1,zaj l,0⟩)],72⟩ rfl ?_ ?_
 ·simp
  exact Le.keep rfl (Nat.le_refl _) (by simp <;> rw [Bool.eq_iff_iff] <;> simp) (by simp)
 refine zak _ rfl (fun h=>?_) fun h=>zal ?_
 ·simp only [decide_eq_true_eq] at h
  have hno : ∀ i,i < l.length → ∀ h : i < l.length,q l[i] = false:=by
   intro i hi _
   unfold idxQ at h
   split at h
   ·omega
   ·rename_i hnl
    have : l.findIdx q = l.length:=by have:=List.findIdx_le_length (xs:=l) (p:=q); omega
    rw [List.findIdx_eq_length] at this
    exact this _ (List.getElem_mem hi)
  have hf:=zgW hno
  rw [hf] at hm ⊢
  obtain rfl : n = m:=by omega
  refine zac ?_
  refine zau ?_
  refine zan ?_
  refine ⟨.inr rfl,⟨[.rs 0 0 n],rfl,[],[],by simp [List.range,List.range.loop],by simp,by simp,?_,?_⟩⟩
  ·simp [List.range,List.range.loop]
  ·simp [List.range,List.range.loop,fcd]
 simp only [decide_eq_false_iff_not] at h
 obtain ⟨i0,hi0,hlt,hbef,hat⟩ : ∃ i0 : Nat,idxQ l q = i0 ∧ i0 < l.length ∧ (∀ i,i < i0 → ∀ h : i < l.length,q l[i] = false) ∧ ∀ h : i0 < l.length,q l[i0] = true:=by
  unfold idxQ at h ⊢
  split at h
  ·rename_i hlt
   refine ⟨l.findIdx q,by rw [if_pos hlt],hlt,fun i hi _=>?_,fun h=>List.findIdx_getElem (w:=h)⟩
   simpa using List.not_of_lt_findIdx hi
  ·omega
 rw [hi0]
 have hA0 : (l.take (i0 + 1)).filter (fun e=>!q e) = l.take i0:=by
  rw [zfm l q i0 hlt,if_pos (hat hlt),List.append_nil]
  refine zgW fun i hi h=>?_
  rw [List.length_take] at hi
  simp only [List.getElem_take]
  exact hbef i (by omega) (by omega)
 have hw0 : IntKind.i64.wrap ((i0 : Int) + 1) = ((i0 + 1 : Nat) : Int):=by rw [w6]; omega
 let C : Nat × List Int → St:=fun p=>⟨42,[(0,.rs 0 0 n),(1,.fn (.func f) [] capt),(5,.I ((l.take p.1).filter fun e=>!q e).length),(6,.I p.1)],[(0,some ⟨1,zaj ((l.take p.1).filter (fun e=>!q e) ++ p.2 ++ l.drop p.1),0⟩)],96⟩
 refine zac ?_
 refine zad (C (i0 + 1,[l[i0]])) rfl ?_ ?_
 ·simp [hw0]
  refine Le.keep rfl (Nat.le_refl _) ?_ ?_
  ·simp only [C,hA0]
   simp
   omega
  ·simp only [C,hA0]
   simp
 refine zai ?_
 refine zaI C (fun p : Nat × List Int=>p.1 ≤ n ∧ p.2 ≠ [] ∧ ((l.take p.1).filter fun e=>!q e).length + p.2.length = p.1) (fun p : Nat × List Int=>n - p.1) (i0 + 1,[l[i0]]) ?_ (Le.refl _ _) ?_
 ·simp only [hA0]
  simp
  omega
 rintro ⟨j,M⟩ ⟨hj,hM,hlen⟩
 simp only at hj hM hlen ⊢
 obtain ⟨A,hA⟩ : ∃ A,A = (l.take j).filter fun e=>!q e:=⟨_,rfl⟩
 rw [← hA] at hlen
 have hC : C (j,M) = ⟨42,[(0,.rs 0 0 n),(1,.fn (.func f) [] capt),(5,.I A.length),(6,.I j)],[(0,some ⟨1,zaj (A ++ M ++ l.drop j),0⟩)],96⟩:=by subst hA; rfl
 rw [hC]
 refine zac ?_
 refine zad ⟨42,[(0,.rs 0 0 n),(1,.fn (.func f) [] capt),(5,.I A.length),(6,.I j),(19,.B (decide (j < n)))],[(0,some ⟨1,zaj (A ++ M ++ l.drop j),0⟩)],128⟩ rfl ?_ ?_
 ·simp
  exact Le.keep rfl (Nat.le_refl _) (by simp) (by simp)
 refine zak _ rfl (fun h=>zal ?_) fun h=>zaD (hit ?_)
 ·simp only [decide_eq_true_eq] at h
  have hjl : j < l.length:=by omega
  match M,hM,hlen with
  | m0 :: M1,_,hlen =>
  simp only [List.length_cons] at hlen
  have hnext:=zfm l q j hjl
  rw [← hA] at hnext
  have hget : (zaj (A ++ m0 :: M1 ++ l.drop j))[j]? = some [AV.I l[j]]:=by
   rw [List.getElem?_map,List.getElem?_append_right (by simp; omega),List.getElem?_drop,show j + (j - (A ++ m0 :: M1).length) = j by simp; omega,List.getElem?_eq_getElem hjl]
   rfl
  have hget2 : (zaj (A ++ m0 :: M1 ++ l.drop j))[A.length]? = some [AV.I m0]:=by
   rw [List.getElem?_map,List.append_assoc,List.getElem?_append_right (by omega)]
   simp
  have hset : (zaj (A ++ m0 :: M1 ++ l.drop j)).set A.length [AV.I l[j]] = zaj ((A ++ [l[j]]) ++ (M1 ++ [l[j]]) ++ l.drop (j + 1)):=by
   have e1 : l.drop j = l[j] :: l.drop (j + 1):=List.drop_eq_getElem_cons hjl
   rw [e1]
   simp [zaj,List.set_append]
  have hmore : A ++ m0 :: M1 ++ l.drop j = A ++ (m0 :: M1 ++ [l[j]]) ++ l.drop (j + 1):=by
   have e1 : l.drop j = l[j] :: l.drop (j + 1):=List.drop_eq_getElem_cons hjl
   rw [e1]
   simp
  generalize hrows : zaj (A ++ m0 :: M1 ++ l.drop j) = R at *
  have hRl : R.length = n:=by rw [← hrows]; simp; omega
  have hck:=hc l[j] (List.getElem_mem hjl)
  generalize hv : l[j] = v at *
  refine zbM (ι:=List Int × List Int) (fun p=>⟨42,[(0,.rs 0 0 n),(1,.fn (.func f) [] capt),(5,.I p.1.length),(6,.I j)],[(0,some ⟨1,zaj (p.1 ++ p.2 ++ l.drop (j + 1)),0⟩)],272⟩)
   (fun p=>p.1 = (l.take (j + 1)).filter (fun e=>!q e) ∧ p.2 ≠ [] ∧ p.1.length + p.2.length = j + 1) ?_ ?_
  ·refine zai ?_
   refine zad ⟨42,[(0,.rs 0 0 n),(1,.fn (.func f) [] capt),(5,.I A.length),(6,.I j),(7,.I v)],[(0,some ⟨1,R,0⟩)],168⟩ rfl ?_ ?_
   ·simp [h,hget]
    exact Le.keep rfl (Nat.le_refl _) (by simp) (by simp)
   refine zad ⟨42,[(0,.rs 0 0 n),(1,.fn (.func f) [] capt),(5,.I A.length),(6,.I j),(7,.I v),(29,.B (!q v))],[(0,some ⟨1,R,0⟩)],200⟩ rfl ?_ ?_
   ·simp
    refine zaJ hck ?_ ?_
    ·simp [hs2,hs3,hs4]
    simp
    exact Le.keep rfl (Nat.le_refl _) (by simp) (by simp)
   refine zak _ rfl (fun h5=>?_) fun h5=>zal ?_
   ·simp only [Bool.not_eq_true'] at h5
    rw [h5] at hnext
    refine zad ⟨42,[(0,.rs 0 0 n),(1,.fn (.func f) [] capt),(5,.I A.length),(6,.I j)],[(0,some ⟨1,zaj ((A ++ [v]) ++ (M1 ++ [v]) ++ l.drop (j + 1)),0⟩)],240⟩ rfl ?_ ?_
    ·simp [hget2,show A.length < n by omega,zbR,hset]
     exact Le.keep rfl (Nat.le_refl _) (by simp) (by simp)
    have hwA : IntKind.i64.wrap ((A.length : Int) + 1) = ((A.length + 1 : Nat) : Int):=by rw [w6]; omega
    refine zaV rfl ?_
    simp [hwA]
    refine ⟨A ++ [v],M1 ++ [v],⟨by rw [hnext]; simp,by simp,by simp; omega⟩,Le.keep rfl (nbz rfl) (by simp) (by simp)⟩
   ·simp only [Bool.not_eq_false'] at h5
    rw [h5] at hnext
    refine ⟨(A,m0 :: M1 ++ [v]),⟨by rw [hnext]; simp,by simp,by simp; omega⟩,Le.keep rfl (nbz rfl) (by simp) ?_⟩
    rw [← hmore,hrows]
    simp
  rintro ⟨A',M'⟩ ⟨p1,p2,p3⟩
  simp only at p1 p2 p3 ⊢
  have hwj : IntKind.i64.wrap ((j : Int) + 1) = ((j + 1 : Nat) : Int):=by rw [w6]; omega
  refine zaV rfl ?_
  simp [hwj]
  refine ⟨j + 1,M',⟨by omega,p2,by rw [← p1]; omega⟩,by omega,?_⟩
  have hD : C (j + 1,M') = ⟨42,[(0,.rs 0 0 n),(1,.fn (.func f) [] capt),(5,.I A'.length),(6,.I ((j + 1 : Nat) : Int))],[(0,some ⟨1,zaj (A' ++ M' ++ l.drop (j + 1)),0⟩)],96⟩:=by rw [p1]
  rw [hD]
  refine Le.ents [(0,0)] [] rfl (by simp) (by simp) (by simp) (by simp) (by simp) (by simp [hs2,hs3,hs4]) fun p hp=>?_
  simp at hp
  subst hp
  exact ⟨0,_,_,rfl,by simp,rfl,zba.eq (by simp [fcd]) (by simp)⟩
 simp only [decide_eq_false_iff_not] at h
 obtain rfl : j = n:=by omega
 have hd : l.drop j = []:=List.drop_eq_nil_of_le (by omega)
 have ht : l.take j = l:=List.take_of_length_le (by omega)
 rw [ht] at hA
 rw [hd,List.append_nil]
 rw [← hA] at hm ⊢
 subst hm
 have hAM : (zaj (A ++ M)).take A.length = zaj A:=by simp [zaj]
 have hAd : (zaj (A ++ M)).drop (A.length + (j - A.length)) = []:=List.drop_eq_nil_of_le (by simp; omega)
 have hAl : (zaj (A ++ M)).length = j:=by simp; omega
 generalize zaj (A ++ M) = R at *
 refine zad ⟨42,[(0,.rs 0 0 j),(5,.I A.length)],[(0,some ⟨1,zaj A ++ List.replicate (j - A.length) [.I 0],0⟩)],160⟩ rfl ?_ ?_
 ·simp
  refine ⟨by omega,by omega,?_⟩
  rw [hAM,hAd]
  exact Le.keep rfl (Nat.le_refl _) (by simp) (by simp)
 refine zac ?_
 refine zax (s:=?s2) rfl ?o2 ?q2
 case o2 =>
  simp
  refine ⟨by omega,?_⟩
  rfl
 refine zan ?_
 refine ⟨.inr rfl,⟨[.rs 0 0 A.length],rfl,[],[],by simp [List.range,List.range.loop],by simp,by simp,?_,?_⟩⟩
 ·simp [List.range,List.range.loop]
 ·simp [List.range,List.range.loop,fcd]
theorem zjS (f : FuncId) (capt : List AV) (q : Int → Bool) (l : List Int) (hl : l.length ≤ 1099511627776) (hs : zj2 capt) (hc : ∀ e ∈ l,zao Tryz.prog f (AV.I e :: capt) [] (.B (q e)) []) : zao Tryz.prog zbL [ints l,.fn (.func f) [] capt] [] (.B (l.any q)) []:=by
 have hs2 : ∀ ρ sn h,capt.map (conv ρ sn h 2) = capt:=fun _ _ _=>hs _ _ _ 1
 have hs3 : ∀ ρ sn h,capt.map (conv ρ sn h 3) = capt:=fun _ _ _=>hs _ _ _ 2
 have hs4 : ∀ ρ sn h,capt.map (conv ρ sn h 4) = capt:=fun _ _ _=>hs _ _ _ 3
 refine zd3.ac ?_
 show awp _ 0 _ _ ⟨9,[(0,ints l),(1,.fn (.func f) [] capt)],[],16⟩
 refine zac ?_
 refine zau ?_
 have hi : decide (0 ≤ idxQ l q) = l.any q:=by
  unfold idxQ
  by_cases h : l.findIdx q < l.length
  ·rw [if_pos h]
   have:=List.findIdx_getElem (w:=h)
   have h2 : l.any q = true:=List.any_eq_true.2 ⟨_,List.getElem_mem h,this⟩
   rw [h2]
   simp
  ·rw [if_neg h]
   have : l.findIdx q = l.length:=by have:=List.findIdx_le_length (xs:=l) (p:=q); omega
   rw [List.findIdx_eq_length] at this
   have h2 : l.any q = false:=by
    rw [List.any_eq_false]
    intro x hx
    simp [this x hx]
   rw [h2]
   simp
 refine zad ⟨9,[(4,.B (l.any q))],[],16⟩ rfl ?_ ?_
 ·simp
  refine zaJ (zic f capt q l hl hs hc) ?_ ?_
  ·simp [hs2,hs3,hs4]
  simp
  exact Le.snap [] rfl rfl (by simp; exact wkB hi)
 refine zan ?_
 exact ⟨.inr rfl,zat.one (by simp)⟩
def zbQ (n : Nat) (q : Int → Bool) : List Int:=((List.range n).map fun (i : Nat)=>(i : Int)).filter q
theorem zpb (n : Nat) (q : Int → Bool) : zbQ (n + 1) q = zbQ n q ++ if q n = true then [(n : Int)] else []:=by
 unfold zbQ
 rw [List.range_succ,List.map_append,List.filter_append]
 congr 1
 cases hq : q n <;> simp [hq]
theorem zkV (n : Nat) (q : Int → Bool) : (zbQ n q).length ≤ n:=by
 unfold zbQ
 have:=List.length_filter_le q ((List.range n).map fun (i : Nat)=>(i : Int))
 simpa using this
set_option maxRecDepth 100000 in
theorem zqq (f : FuncId) (capt : List AV) (q : Int → Bool) (N : Int) (hN : N ≤ 1000000) (hs : zj2 capt) (hc : ∀ k : Nat,(k : Int) < N → zao Tryz.prog f (AV.I k :: capt) [] (.B (q k)) []) :
  zao Tryz.prog zcC [.I N,.fn (.func f) [] capt] [] (.rs 0 0 (zbQ N.toNat q).length) [some ⟨1,zaj (zbQ N.toNat q),0⟩]:=by
 have hs2 : ∀ ρ sn h,capt.map (conv ρ sn h 2) = capt:=fun _ _ _=>hs _ _ _ 1
 have hs3 : ∀ ρ sn h,capt.map (conv ρ sn h 3) = capt:=fun _ _ _=>hs _ _ _ 2
 have hs4 : ∀ ρ sn h,capt.map (conv ρ sn h 4) = capt:=fun _ _ _=>hs _ _ _ 3
 refine zjy.ac ?_
 show awp _ 0 _ _ ⟨20,[(0,.I N),(1,.fn (.func f) [] capt)],[],16⟩
 refine zac ?_
 refine zau ?_
 refine zac ?_
 refine zau ?_
 refine zac ?_
 refine zac ?_
 refine zau ?_
 refine zai ?_
 let C : Nat → St:=fun k=>⟨20,[(1,.fn (.func f) [] capt),(5,.rs 16 0 (zbQ k q).length),(7,.I N),(8,.I k)],[(16,some ⟨1,zaj (zbQ k q),0⟩)],24⟩
 refine zaI C (fun k=>k ≤ N.toNat) (fun k=>N.toNat - k) 0 (Nat.zero_le _) (Le.lst [] [] [(16,1)] rfl (by simp) (by simp) (by simp) (by simp [C]) (by simp) (by simp) (by simp) (by simp [C,Up,zbQ,hs2,hs3,hs4]) (by simp [C,zbQ])) ?_
 intro k hk
 have hwl:=zkV k q
 have hCk : C k = ⟨20,[(1,.fn (.func f) [] capt),(5,.rs 16 0 (zbQ k q).length),(7,.I N),(8,.I k)],[(16,some ⟨1,zaj (zbQ k q),0⟩)],24⟩:=rfl
 rw [hCk]
 refine zad ⟨20,[(1,.fn (.func f) [] capt),(5,.rs 16 0 (zbQ k q).length),(7,.I N),(8,.I k),(9,.B (decide ((k : Int) < N)))],[(16,some ⟨1,zaj (zbQ k q),0⟩)],32⟩ rfl ?_ ?_
 ·simp
  exact Le.keep rfl (Nat.le_refl _) (by simp) (by simp)
 refine zac ?_
 refine zak _ rfl (fun h=>zal ?_) fun h=>zaD (hit ?_)
 ·simp only [decide_eq_true_eq] at h
  have hck:=hc k h
  have hnext:=zpb k q
  have hw2 : IntKind.i64.wrap ((k : Int) + 1) = ((k + 1 : Nat) : Int):=by rw [w6]; omega
  refine zbM (ι:=Unit) (fun _=>⟨20,[(1,.fn (.func f) [] capt),(5,.rs 16 0 (zbQ (k + 1) q).length),(7,.I N),(8,.I k)],[(16,some ⟨1,zaj (zbQ (k + 1) q),0⟩)],24⟩) (fun _=>True) ?_ fun _ _=>?_
  ·rw [hnext]
   generalize zbQ k q = W at *
   refine zai ?_
   refine zac ?_
   refine zau ?_
   refine zad ⟨20,[(1,.fn (.func f) [] capt),(5,.rs 16 0 W.length),(6,.I k),(7,.I N),(8,.I k),(13,.B (q k))],[(16,some ⟨1,zaj W,0⟩)],72⟩ rfl ?_ ?_
   ·simp
    refine zaJ hck ?_ ?_
    ·simp [hs2,hs3,hs4]
    simp
    exact Le.keep rfl (Nat.le_refl _) (by simp) (by simp)
   refine zak _ rfl (fun h5=>?_) fun h5=>zal ?_
   ·rw [if_pos h5]
    refine zaV rfl ?_
    simp [List.replicate]
    refine ⟨by omega,by omega,zr0 (i:=96) (sn:=[]) rfl rfl (by simp) (by simp) rfl (by simp [fcd,zaU]) (by simp) (by simp [hs2,hs3,hs4])⟩
   ·rw [if_neg (by simp [h5]),List.append_nil]
    exact ⟨(),trivial,zr0 (i:=16) (sn:=[]) rfl rfl (by simp) (by simp) rfl (by simp [fcd]) (by simp) (by simp [hs2,hs3,hs4])⟩
  refine zaV rfl ?_
  simp [hw2]
  exact ⟨k + 1,by omega,by omega,zr0 (i:=16) (sn:=[]) rfl rfl (by simp [C]) (by simp) rfl (by simp [fcd]) (by simp) (by simp [C,hs2,hs3,hs4])⟩
 simp only [decide_eq_false_iff_not] at h
 obtain rfl : k = N.toNat:=by omega
 generalize zbQ N.toNat q = W at *
 refine zac ?_
 refine zau ?_
 refine zan ?_
 exact ⟨.inr rfl,zat.out [16] [] rfl (by simp) (by simp) (by simp) (by simp [fcd])⟩
theorem wu64 {x : Int} (h1 : 0 ≤ x) (h2 : x < 18446744073709551616) : IntKind.u64.wrap x = x:=by rw [IntKind.wrap_u64]; omega
theorem zwi (n : Nat) (h : n < 4294967296) : binV .and (.int .u64 (n : Int)) (.int .u64 4294967295) = some (.int .u64 (n : Int)):=by
 have e : (BitVec.ofInt 64 (n : Int) &&& BitVec.ofInt 64 4294967295).toNat = n:=by
  have h1 : (BitVec.ofInt 64 (n : Int)).toNat = n:=by
   rw [BitVec.toNat_ofInt]
   omega
  have h2 : (BitVec.ofInt 64 (4294967295 : Int)).toNat = 2 ^ 32 - 1:=rfl
  rw [BitVec.toNat_and,h1,h2,Nat.and_two_pow_sub_one_eq_mod]
  omega
 show some (Value.int .u64 (IntKind.u64.wrap ((BitVec.ofInt 64 (n : Int) &&& BitVec.ofInt 64 4294967295).toNat : Int))) = _
 rw [e,wu64 (by omega) (by omega)]
theorem zwv (n : Nat) (h : n < 4294967296) : binV .shr (.int .u64 (n : Int)) (.int .u64 32) = some (.int .u64 0):=by
 show (if (0 : Int) ≤ 32 then some (Value.int .u64 ((n : Int).fdiv (2 ^ (min (32 : Int).toNat 64)))) else none) = _
 rw [if_pos (by omega)]
 congr 2
 have : (2 : Int) ^ (min (32 : Int).toNat 64) = 4294967296:=rfl
 rw [this,Int.fdiv_eq_ediv_of_nonneg _ (by omega)]
 omega
abbrev U (n : Int) : AV:=.sc (.int .u64 n)
theorem zva (n : Nat) (h : n < 4294967296) : zao Tryz.prog zd5 [U 1,U n] [] (.tup [U 0,U n]) []:=by
 refine zjK.ac ?_
 show awp _ 0 _ _ ⟨51,[(0,U 1),(1,U n)],[],16⟩
 have a1 : binV .and (.int .u64 1) (.int .u64 4294967295) = some (.int .u64 1):=zwi 1 (by omega)
 have a0 : binV .and (.int .u64 0) (.int .u64 4294967295) = some (.int .u64 0):=zwi 0 (by omega)
 have an:=zwi n h
 have s1 : binV .shr (.int .u64 1) (.int .u64 32) = some (.int .u64 0):=zwv 1 (by omega)
 have s0 : binV .shr (.int .u64 0) (.int .u64 32) = some (.int .u64 0):=zwv 0 (by omega)
 have sn:=zwv n h
 have m1 : ∀ a : Int,binV .mul (.int .u64 0) (.int .u64 a) = some (.int .u64 0):=fun a=>by
  show some (Value.int .u64 (IntKind.u64.wrap (0 * a))) = _
  rw [Int.zero_mul]
  rfl
 have m2 : binV .mul (.int .u64 1) (.int .u64 (n : Int)) = some (.int .u64 (n : Int)):=by
  show some (Value.int .u64 (IntKind.u64.wrap (1 * (n : Int)))) = _
  rw [Int.one_mul,wu64 (by omega) (by omega)]
 have m3 : binV .mul (.int .u64 1) (.int .u64 0) = some (.int .u64 0):=rfl
 have d0 : binV .add (.int .u64 0) (.int .u64 0) = some (.int .u64 0):=rfl
 refine zac ?_
 refine zau ?_
 refine zac ?_
 refine zax (s:=?z2) rfl ?p2 ?r2
 case p2=>simp [-binV,a1]; rfl
 refine zac ?_
 refine zax (s:=?z3) rfl ?p3 ?r3
 case p3=>simp [-binV,s1]; rfl
 refine zac ?_
 refine zax (s:=?z4) rfl ?p4 ?r4
 case p4=>simp [-binV,an]; rfl
 refine zac ?_
 refine zax (s:=?z5) rfl ?p5 ?r5
 case p5=>simp [-binV,sn]; rfl
 refine zac ?_
 refine zax (s:=?z6) rfl ?p6 ?r6
 case p6=>simp [-binV,m2]; rfl
 refine zac ?_
 refine zax (s:=?z7) rfl ?p7 ?r7
 case p7=>simp [-binV,m1,sn,d0]; rfl
 refine zac ?_
 refine zax (s:=?z8) rfl ?p8 ?r8
 case p8=>simp [-binV,a0]; rfl
 refine zac ?_
 refine zax (s:=?z9) rfl ?p9 ?r9
 case p9=>simp [-binV,s0]; rfl
 refine zac ?_
 refine zax (s:=?z10) rfl ?p10 ?r10
 case p10=>simp [-binV,m3,d0]; rfl
 refine zac ?_
 refine zax (s:=?z11) rfl ?p11 ?r11
 case p11=>simp [-binV,m1,d0,s0]; rfl
 refine zac ?_
 refine zax (s:=?z12) rfl ?p12 ?r12
 case p12=>simp [-binV,m2]; rfl
 refine zan ?_
 exact ⟨.inr rfl,zat.out [] [] rfl (by simp) (by simp) (by simp) (by simp)⟩
theorem zxo (n : Nat) (h : n < 4294967296) : zao Tryz.prog zff [U 1,U n] [] (.tup [U 0,U n]) []:=by
 refine zly.ac ?_
 show awp _ 0 _ _ ⟨30,[(0,U 1),(1,U n)],[],16⟩
 refine zac ?_
 refine zau ?_
 refine zac ?_
 refine zak _ rfl (fun h=>by cases h) fun _=>zal ?_
 refine zac ?_
 refine zax (s:=?z2) rfl ?p2 ?r2
 case p2=>simp; refine zaJ (zva n h) rfl ?_; simp; rfl
 refine zac ?_
 refine zau ?_
 refine zan ?_
 exact ⟨.inr rfl,zat.out [] [] rfl (by simp) (by simp) (by simp) (by simp)⟩
set_option maxRecDepth 100000 in
theorem zry (v : Int) (n : Nat) (hn : n ≤ 1000000) : zao Tryz.prog zcl [ints [v],.I n] [] (.rs 0 0 n) [some ⟨1,List.replicate n [AV.I v],0⟩]:=by
 refine zft.ac ?_
 show awp _ 0 _ _ ⟨48,[(0,ints [v]),(1,.I n)],[],16⟩
 have hu1 : IntKind.u64.wrap 1 = 1:=rfl
 have hun : IntKind.u64.wrap (n : Int) = n:=wu64 (by omega) (by omega)
 have hin : IntKind.i64.wrap (n : Int) = n:=w6
 refine zac ?_
 refine zau ?_
 refine zac ?_
 refine zad ⟨48,[(0,ints [v]),(1,.I n),(10,.B false)],[],40⟩ rfl ?_ ?_
 ·simp
  exact Le.keep rfl (Nat.le_refl _) (by simp) (by simp)
 refine zak _ rfl (fun h=>by cases h) fun _=>zal ?_
 refine zad ⟨48,[(0,ints [v]),(1,.I n),(5,U 0),(6,U n)],[],128⟩ rfl ?_ ?_
 ·simp [hu1,hun]
  refine zaJ (zxo n (by omega)) rfl ?_
  simp
  exact Le.keep rfl (Nat.le_refl _) (by simp) (by simp)
 refine zac ?_
 refine zad ⟨48,[(0,ints [v]),(1,.I n),(5,U 0),(6,U n),(26,.B false)],[],176⟩ rfl ?_ ?_
 ·simp
  exact Le.keep rfl (Nat.le_refl _) (by simp; omega) (by simp)
 refine zak _ rfl (fun h=>by cases h) fun _=>zal ?_
 refine zad ⟨48,[(0,ints [v]),(7,.rs 192 0 n)],[(192,some ⟨1,List.replicate n [.I 0],0⟩)],208⟩ rfl ?_ ?_
 ·simp [hin]
  exact ⟨by omega,by omega,Le.keep rfl (Nat.le_refl _) (by simp) (by simp)⟩
 let R : Nat → List (List AV):=fun m=>List.replicate m [AV.I v] ++ List.replicate (n - m) [AV.I 0]
 have hRl : ∀ m,m ≤ n → (R m).length = n:=fun m hm=>by simp [R]; omega
 refine zad ⟨48,[(7,.rs 192 0 n),(8,.I (min 1 n : Nat))],[(192,some ⟨1,R (min 1 n),0⟩)],240⟩ rfl ?_ ?_
 ·simp
  refine Le.keep rfl (Nat.le_refl _) (by simp) ?_
  cases n with
  | zero=>simp [R]
  | succ n=>simp [R,List.replicate]
 refine zac ?_
 refine zai ?_
 refine zaI (ι:=Nat) (fun m=>⟨48,[(7,.rs 192 0 n),(8,.I m)],[(192,some ⟨1,R m,0⟩)],240⟩) (fun m=>m ≤ n ∧ (m = 0 → n = 0)) (fun m=>n - m) (min 1 n) ⟨by omega,by omega⟩ (Le.refl _ _) ?_
 rintro m ⟨hm,hm0⟩
 refine zac ?_
 refine zad ⟨48,[(7,.rs 192 0 n),(8,.I m),(37,.B (decide (m < n)))],[(192,some ⟨1,R m,0⟩)],272⟩ rfl ?_ ?_
 ·simp
  exact Le.keep rfl (Nat.le_refl _) (by simp) (by simp)
 refine zak _ rfl (fun h=>zal ?_) fun h=>zaD (hit ?_)
 ·simp only [decide_eq_true_eq] at h
  obtain ⟨k,hk⟩ : ∃ k,k = min m (n - m):=⟨_,rfl⟩
  have hw : IntKind.i64.wrap ((m : Int) + (k : Int)) = ((m + k : Nat) : Int):=by rw [w6]; omega
  have ht : (R m).take m = List.replicate m [AV.I v]:=by simp [R]
  have hd : (R m).drop (m + k) = List.replicate (n - (m + k)) [AV.I 0]:=by
   simp only [R]
   rw [List.drop_append,List.drop_eq_nil_of_le (by simp),List.nil_append,List.drop_replicate]
   simp
   omega
  have hl:=hRl m hm
  have hnew : List.replicate m [AV.I v] ++ (List.replicate k [AV.I v] ++ List.replicate (n - (m + k)) [AV.I 0]) = R (m + k):=by
   simp only [R]
   rw [← List.append_assoc,List.replicate_append_replicate]
  refine zai ?_
  refine zdp rfl ?_
  generalize R m = X at *
  simp [hl,ht]
  refine ⟨by omega,by omega,_,⟨by omega,rfl⟩,rfl,m + k,⟨by omega,by omega⟩,by omega,?_⟩
  have e1 : min (List.replicate m (([AV.I v] : List AV))).length (n - m) = k:=by simp [hk]
  rw [e1,hw,hd,List.take_replicate,show min k m = k by omega,hnew]
  exact zr0 (i:=192) (sn:=[]) rfl rfl (by simp) (by simp) rfl (by simp [R]) (by simp) (by simp)
 obtain rfl : m = n:=by simp at h; omega
 refine zac ?_
 refine zau ?_
 refine zan ?_
 exact ⟨.inr rfl,zat.out [192] [] rfl (by simp) (by simp) (by simp) (by simp [R])⟩
def zd8 (g : Gr) (S : List Int) (k : Int) : Bool:=S.contains k && !g.gone.contains k
def dl (g : Gr) (S : List Int) : Nat → Int → Int
 | 0,k=>if zd8 g S k = true then 0 else -1
 | n + 1,k=>if 0 ≤ dl g S n k then dl g S n k else if g.edges.any (fun e=>decide (e.t = k) && decide (dl g S n e.f = n)) = true then (n : Int) + 1 else -1
def Key (g : Gr) (k : Int) : Prop:=0 ≤ k ∧ k < g.size
variable {g : Gr} {S : List Int}
theorem zcr (n : Nat) (k : Int) : -1 ≤ dl g S n k ∧ dl g S n k ≤ n:=by
 induction n with
 | zero=>unfold dl; split <;> omega
 | succ n ih=>unfold dl; split <;> (try split) <;> omega
theorem zfw {n : Nat} {k : Int} (h : 0 ≤ dl g S n k) : dl g S (n + 1) k = dl g S n k:=by
 rw [dl,if_pos h]
theorem zpz {n m : Nat} {k : Int} (hnm : n ≤ m) (h : 0 ≤ dl g S n k) : dl g S m k = dl g S n k:=by
 induction m with
 | zero=>obtain rfl : n = 0:=by omega
         rfl
 | succ m ih =>
   rcases Nat.lt_or_ge n (m + 1) with h1 | h1
   ·have:=ih (by omega)
    rw [zfw (by omega),this]
   ·obtain rfl : n = m + 1:=by omega
    rfl
theorem zmj {n : Nat} {k : Int} (h : 0 ≤ dl g S (n + 1) k) (h2 : ¬ 0 ≤ dl g S n k) : dl g S (n + 1) k = n + 1 ∧ ∃ e ∈ g.edges,e.t = k ∧ dl g S n e.f = n:=by
 rw [dl,if_neg h2] at h ⊢
 split at h
 ·rename_i ha
  rw [if_pos ha]
  rw [List.any_eq_true] at ha
  obtain ⟨e,he,ha⟩:=ha
  simp at ha
  exact ⟨rfl,e,he,ha.1,ha.2⟩
 ·omega
theorem zwu {n : Nat} {k : Int} (h : 0 ≤ dl g S n k) : dl g S (dl g S n k).toNat k = dl g S n k:=by
 induction n with
 | zero =>
   have:=zcr (g:=g) (S:=S) 0 k
   have e : dl g S 0 k = 0:=by omega
   rw [e]; exact e
 | succ n ih =>
   by_cases h2 : 0 ≤ dl g S n k
   ·rw [zfw h2]; exact ih h2
   ·obtain ⟨e,_⟩:=zmj h h2
    rw [e]
    have : ((n : Int) + 1).toNat = n + 1:=by omega
    rw [this]; exact e
theorem zrw {n : Nat} {e : Ed} (he : e ∈ g.edges) (h : 0 ≤ dl g S n e.f) : 0 ≤ dl g S (n + 1) e.t ∧ dl g S (n + 1) e.t ≤ dl g S n e.f + 1:=by
 have hat:=zwu h
 have hr:=zcr (g:=g) (S:=S) n e.f
 obtain ⟨m,hm⟩ : ∃ m : Nat,dl g S n e.f = m:=⟨(dl g S n e.f).toNat,by omega⟩
 rw [hm] at hat hr ⊢
 simp at hat
 have key : 0 ≤ dl g S (m + 1) e.t ∧ dl g S (m + 1) e.t ≤ m + 1:=by
  have hr2:=zcr (g:=g) (S:=S) (m + 1) e.t
  refine ⟨?_,by omega⟩
  rw [dl]
  split
  ·assumption
  ·rw [if_pos]
   ·omega
   ·rw [List.any_eq_true]
    exact ⟨e,he,by simp [hat]⟩
 have:=zpz (g:=g) (S:=S) (n:=m + 1) (m:=n + 1) (by omega) key.1
 rw [this]
 exact key
theorem zoS (h : GrOk g) {n : Nat} (hn : ∀ k,Key g k → dl g S n k ≠ n) : ∀ (m : Nat),n ≤ m → ∀ k,Key g k → dl g S m k = dl g S n k ∧ dl g S m k ≠ m:=by
 intro m
 induction m with
 | zero =>
   intro hm k hk
   obtain rfl : n = 0:=by omega
   exact ⟨rfl,hn k hk⟩
 | succ m ih =>
   intro hm k hk
   rcases Nat.lt_or_ge n (m + 1) with h1 | h1
   ·have ihm:=ih (by omega)
    have e : dl g S (m + 1) k = dl g S m k:=by
     by_cases h2 : 0 ≤ dl g S m k
     ·exact zfw h2
     ·have hr:=zcr (g:=g) (S:=S) m k
      by_cases h3 : 0 ≤ dl g S (m + 1) k
      ·obtain ⟨_,e,he,_,h5⟩:=zmj h3 h2
       have hf:=h.fits e he
       exact absurd h5 (ihm e.f ⟨hf.1,by have:=hf.2.1; omega⟩).2
      ·have hr2:=zcr (g:=g) (S:=S) (m + 1) k
       omega
    have hr:=zcr (g:=g) (S:=S) m k
    rw [e,(ihm k hk).1]
    refine ⟨rfl,?_⟩
    rw [(ihm k hk).1] at hr
    omega
   ·obtain rfl : n = m + 1:=by omega
    exact ⟨rfl,hn k hk⟩
def reach (g : Gr) (S : List Int) (n : Nat) : Nat:=(List.range g.size.toNat).countP fun (i : Nat)=>decide (0 ≤ dl g S n (i : Int))
theorem znG {α : Type} {p q : α → Bool} : ∀ {l : List α},(∀ x ∈ l,p x = true → q x = true) → (∃ x ∈ l,q x = true ∧ p x = false) → l.countP p < l.countP q
 | [],_,h=>by obtain ⟨_,h,_⟩:=h; simp at h
 | a :: l,h1,h2=>by
   have hle : l.countP p ≤ l.countP q:=List.countP_mono_left fun x hx=>h1 x (List.mem_cons_of_mem _ hx)
   simp only [List.countP_cons]
   obtain ⟨x,hx,hq,hp⟩:=h2
   rcases List.mem_cons.1 hx with rfl | hx
   ·rw [hq,hp]
    simp
    omega
   ·have ih:=znG (fun x hx=>h1 x (List.mem_cons_of_mem _ hx)) ⟨x,hx,hq,hp⟩
    have ha:=h1 a List.mem_cons_self
    cases hpa : p a <;> cases hqa : q a <;> simp_all <;> omega
theorem zpm {n : Nat} {k : Int} (hk : Key g k) (h : dl g S (n + 1) k = n + 1) : reach g S n < reach g S (n + 1):=by
 refine znG (fun i _ hi=>?_) ⟨k.toNat,by simp; have:=hk.1; have:=hk.2; omega,?_,?_⟩
 ·simp at hi ⊢
  rw [zfw hi]; exact hi
 ·have e : ((k.toNat : Nat) : Int) = k:=by have:=hk.1; omega
  simp [e,h]
  omega
 ·have e : ((k.toNat : Nat) : Int) = k:=by have:=hk.1; omega
  simp only [e,decide_eq_false_iff_not]
  intro h2
  rw [zfw h2] at h
  have:=zcr (g:=g) (S:=S) n k
  omega
theorem zwa (h : GrOk g) {n : Nat} {k : Int} (hd : dl g S (n + 1) k = n + 1) : ∃ k',Key g k' ∧ dl g S n k' = n:=by
 have h2 : ¬ 0 ≤ dl g S n k:=by
  intro h2
  rw [zfw h2] at hd
  have:=zcr (g:=g) (S:=S) n k
  omega
 obtain ⟨_,e,he,_,h5⟩:=zmj (by omega) h2
 have hf:=h.fits e he
 exact ⟨e.f,⟨hf.1,by have:=hf.2.1; omega⟩,h5⟩
theorem zqp (h : GrOk g) : ∀ {n : Nat} {k : Int},Key g k → dl g S n k = n → n + 1 ≤ reach g S n
 | 0,k,hk,hd=>by
   have : 0 < reach g S 0:=List.countP_pos_iff.2 ⟨k.toNat,by simp; have:=hk.1; have:=hk.2; omega,by
    have e : ((k.toNat : Nat) : Int) = k:=by have:=hk.1; omega
    simp [e]
    omega⟩
   omega
 | n + 1,k,hk,hd=>by
   have hd' : dl g S (n + 1) k = (n : Int) + 1:=by simpa using hd
   obtain ⟨k',hk',h'⟩:=zwa h hd'
   have:=zqp h hk' h'
   have:=zpm hk hd'
   omega
theorem ztv (n : Nat) : reach g S n ≤ g.size.toNat:=by
 have:=List.countP_le_length (p:=fun (i : Nat)=>decide (0 ≤ dl g S n (i : Int))) (l:=List.range g.size.toNat)
 simpa [reach] using this
theorem zqd (h : GrOk g) {n : Nat} {k : Int} (hk : Key g k) (hd : dl g S n k = n) : (n : Int) < g.size:=by
 have h1:=zqp h hk hd
 have h2:=ztv (g:=g) (S:=S) n
 omega
def dist (g : Gr) (S : List Int) (k : Int) : Int:=dl g S g.size.toNat k
theorem zoz (h : GrOk g) {n : Nat} (hn : ∀ k,Key g k → dl g S n k ≠ n) (k : Int) (hk : Key g k) : dl g S n k = dist g S k:=by
 unfold dist
 rcases Nat.le_total n g.size.toNat with h1 | h1
 ·exact ((zoS h hn _ h1 k hk).1).symm
 ·have hN : ∀ k,Key g k → dl g S g.size.toNat k ≠ g.size.toNat:=by
   intro k hk hd
   have:=zqd h hk hd
   omega
  exact (zoS h hN _ h1 k hk).1
theorem zlJ (k : Int) : -1 ≤ dist g S k ∧ dist g S k ≤ g.size.toNat:=zcr _ _
theorem zs7 (h : GrOk g) {k : Int} (hk : Key g k) : dist g S k < g.size ∨ g.size ≤ 0:=by
 have h1:=zlJ (g:=g) (S:=S) k
 by_cases h2 : dist g S k = g.size.toNat
 ·have:=zqd h hk h2
  omega
 ·have:=hk.1; have:=hk.2; omega
theorem zkm (h : GrOk g) {k : Int} : dist g S k = 0 ↔ zd8 g S k = true:=by
 unfold dist
 constructor
 ·intro hd
  have:=zwu (g:=g) (S:=S) (n:=g.size.toNat) (k:=k) (by omega)
  rw [hd] at this
  simp at this
  rw [dl] at this
  split at this
  ·assumption
  ·omega
 ·intro hs
  have h0 : dl g S 0 k = 0:=by rw [dl,if_pos hs]
  rw [zpz (Nat.zero_le _) (by omega),h0]
theorem zoo (h : GrOk g) {e : Ed} (he : e ∈ g.edges) (hf : 0 ≤ dist g S e.f) : 0 ≤ dist g S e.t ∧ dist g S e.t ≤ dist g S e.f + 1:=by
 have hfit:=h.fits e he
 have h1:=zrw (S:=S) he hf
 have hN : ∀ k,Key g k → dl g S g.size.toNat k ≠ g.size.toNat:=by
  intro k hk hd
  have:=zqd h hk hd
  omega
 have h2:=(zoS h hN (g.size.toNat + 1) (by omega) e.t ⟨hfit.2.2.1,by have:=hfit.2.2.2.1; omega⟩).1
 rw [h2] at h1
 exact h1
theorem zoD (h : GrOk g) {k : Int} {n : Nat} (hd : dist g S k = (n : Int) + 1) : ∃ e ∈ g.edges,e.t = k ∧ dist g S e.f = n:=by
 have hat:=zwu (g:=g) (S:=S) (n:=g.size.toNat) (k:=k) (by show 0 ≤ dist g S k; omega)
 have hd' : dl g S g.size.toNat k = (n : Int) + 1:=hd
 rw [hd'] at hat
 have e1 : ((n : Int) + 1).toNat = n + 1:=by omega
 rw [e1] at hat
 have h2 : ¬ 0 ≤ dl g S n k:=by
  intro h2
  rw [zfw h2] at hat
  have:=zcr (g:=g) (S:=S) n k
  omega
 obtain ⟨_,e,he,h4,h5⟩:=zmj (by omega) h2
 refine ⟨e,he,h4,?_⟩
 have hr:=zlJ (g:=g) (S:=S) k
 have : dist g S e.f = dl g S n e.f:=zpz (by omega) (by omega)
 omega
section
variable {P : Program} {np id : Nat} {h : Nat → Option Ent} {K : AV → List Nat → List (Nat × Option Ent) → Prop} {f : FuncId} {first capt args args' : List AV} {res : AV}
theorem zv3 {i : Nat} (sn : List Nat) {e e' : Ent} {hs' : List (Option Ent)} (hij : ∀ j ∈ sn,j ≠ i) (hi : h i = some e) (hee : zaw [(i,0)] sn h 4 e = e') (hc : zao P f args' [e'] res hs') (h8 : hs'.length ≤ 9) (he : (first ++ args ++ capt).map (conv [(i,0)] sn h 4) = args')
  (hp : Plain res) (hpe : ∀ e,some e ∈ hs' → zgS e)
  (hk : K (conv (swp [i] id) [] (fun _=>none) 4 res) (i :: sn) ((hs'.zipIdx.map fun (e,k)=>((i :: (List.range 8).map (id + ·)).getD k 0,e.map (zaw (swp [i] id) [] (fun _=>none) 4))) ++ [])) : aK P np id .call (.fn (.func f) first capt :: args) h K :=
 ⟨[i],sn,false,args',[e'],res,hs',by simp,by simpa using hij,by simp,by rw [show [i].zipIdx = [(i,0)] from rfl,he]; exact zcY _,by rw [show [i].zipIdx = [(i,0)] from rfl]; simpa [hi] using hee,hc,by simpa using h8,.inr ⟨hp,hpe⟩,by simpa [swp] using hk⟩
theorem zv1 {j : Nat} {e ej : Ent} (hnp : np ≤ j) (hj : h j = some ej) (hc : zao P f args' [] res [some e]) (he : (first ++ args ++ capt).map (conv [] [j] h 4) = args')
  (hk : K (conv (swp [] id) [] (fun _=>none) 4 res) [j] [(id,some (zaw (swp [] id) [] (fun _=>none) 4 e)),(j,some { ej with ro:=ej.rows.length })]) : aK P np id .call (.fn (.func f) first capt :: args) h K :=
 ⟨[],[j],true,args',[],res,[some e],by simp,by simp,by simpa using hnp,by rw [List.zipIdx_nil,he]; exact zcY _,rfl,hc,by simp,.inl rfl,by simpa [swp,hj] using hk⟩
end
theorem zpa {l : List Int} {z : Nat} : zgS ⟨1,zaj l ++ List.replicate z [AV.I 0],0⟩:=by
 intro row hrow x hx
 simp only [List.mem_append,List.mem_map,List.mem_replicate] at hrow
 rcases hrow with ⟨y,_,rfl⟩ | ⟨_,rfl⟩
 ·simp at hx; subst hx; exact .sc _
 ·simp at hx; subst hx; exact .sc _
theorem ztC (g : Gr) (S : List Int) (k : Int) (hS : S.length ≤ 1099511627776) (hg : g.gone.length ≤ 1099511627776) : zao Tryz.prog zew [eG g,ints S,.I k] [] (.B (zd8 g S k)) []:=by
 refine zkb.ac ?_
 show awp _ 0 _ _ ⟨17,[(0,eG g),(1,ints S),(2,.I k)],[],16⟩
 refine zad ⟨17,[(1,ints S),(2,.I k),(3,.pv (gC g))],[],16⟩ rfl ?_ ?_
 ·simp
  exact Le.snap [16] rfl rfl (by simp)
 refine zad ⟨17,[(6,.B (zd8 g S k))],[],16⟩ rfl ?_ ?_
 ·simp
  refine zhP zap rfl ?_
  refine zaJ (zhk S k (by omega)) rfl ?_
  simp
  refine zol (fun hb=>?_) (fun hb=>?_)
  ·simp [hb]
   refine zhP zap rfl ?_
   refine zaJ (zhk g.gone k (by omega)) rfl ?_
   simp [hb]
   exact Le.snap [] rfl rfl (by simp [zd8] <;> exact wkB (by simp_all))
  ·simp [hb]
   exact Le.snap [] rfl rfl (by simp [zd8] <;> exact wkB (by simp_all))
 refine zan ?_
 exact ⟨.inr rfl,zat.one (by simp)⟩
theorem zsZ (g : Gr) (S : List Int) (k : Int) (hS : S.length ≤ 1099511627776) (hg : g.gone.length ≤ 1099511627776) : zao Tryz.prog zcX [.I k,.pv (gC g),.pv [ints S]] [] (.B (zd8 g S k)) []:=by
 refine zjD.ac ?_
 show awp _ 0 _ _ ⟨9,[(0,.I k),(1,.pv (gC g)),(2,.pv [ints S])],[],16⟩
 refine zac ?_
 refine zau ?_
 refine zac ?_
 refine zax (s:=?s1) rfl ?o1 ?q1
 case o1=>simp; refine zaJ (ztC g S k hS hg) rfl ?_; simp; rfl
 refine zan ?_
 exact ⟨.inr rfl,zat.one (by simp)⟩
def offQ (D : List Int) (x : Int) : Bool:=!decide (0 ≤ x ∧ x < D.length) || decide (0 ≤ D.getD x.toNat 0)
theorem zrU (D : List Int) (x : Int) (hD : D.length ≤ 1000000) : zao Tryz.prog zcW [.I x,.pv [ints D]] [] (.B (offQ D x)) []:=by
 refine zjC.ac ?_
 show awp _ 0 _ _ ⟨17,[(0,.I x),(1,.pv [ints D])],[],16⟩
 have hw : IntKind.i64.wrap ((D.length : Int) - 1) = (D.length : Int) - 1:=w6
 refine zac ?_
 refine zau ?_
 refine zad ⟨17,[(3,.B (offQ D x))],[],16⟩ rfl ?_ ?_
 ·simp [hw]
  refine zhP zaY rfl ?_
  refine zaJ (zb6 ..) rfl ?_
  simp
  by_cases hx : 0 ≤ x ∧ x < D.length
  ·obtain ⟨k,rfl⟩ : ∃ k : Nat,x = k:=⟨x.toNat,by omega⟩
   have hk : k < D.length:=by omega
   have hb : (!decide (0 ≤ (k : Int)) || !decide ((k : Int) ≤ (D.length : Int) - 1)) = false:=by simp; omega
   have ho : offQ D k = decide (0 ≤ D[k]):=by
    unfold offQ
    rw [decide_eq_true hx]
    simp [hk]
   rw [hb,ho]
   simp [hk]
   exact Le.snap [] rfl rfl (by simp)
  ·have hb : (!decide (0 ≤ x) || !decide (x ≤ (D.length : Int) - 1)) = true:=by simp; omega
   have ho : offQ D x = true:=by
    unfold offQ
    rw [decide_eq_false hx]
    rfl
   rw [hb,ho]
   simp
   exact Le.snap [] rfl rfl (by simp)
 refine zan ?_
 exact ⟨.inr rfl,zat.one (by simp)⟩
def zeP (g : Gr) (S : List Int) : List Int:=(List.range g.size.toNat).map fun (i : Nat)=>dist g S (i : Int)
def outL (g : Gr) (S : List Int) (d : Nat) : List Int:=(List.range g.size.toNat).map fun (i : Nat)=>if 0 ≤ dl g S d i ∧ dl g S d i < d then dl g S d i else -1
def outP (g : Gr) (S : List Int) (d : Nat) (F : List Int) : List Int:=(List.range g.size.toNat).map fun (i : Nat)=>if 0 ≤ dl g S d i ∧ dl g S d i < d then dl g S d i else if (i : Int) ∈ F then (d : Int) else -1
theorem zmy (g : Gr) (S : List Int) (d : Nat) : outP g S d [] = outL g S d:=by
 unfold outP outL
 simp
theorem zrP {g : Gr} {S : List Int} (d : Nat) (F : List Int) (hF : ∀ x,x ∈ F ↔ Key g x ∧ dl g S d x = d) : outP g S d F = outL g S (d + 1):=by
 unfold outP outL
 refine List.map_congr_left fun i hi=>?_
 simp at hi
 have hkey : Key g i:=⟨by omega,by omega⟩
 have hr:=zcr (g:=g) (S:=S) d i
 have hr2:=zcr (g:=g) (S:=S) (d + 1) i
 have hm : (i : Int) ∈ F ↔ dl g S d i = d:=by rw [hF]; exact ⟨fun h=>h.2,fun h=>⟨hkey,h⟩⟩
 simp only [hm]
 by_cases h0 : 0 ≤ dl g S d i
 ·have e:=zfw h0
  rw [e]
  by_cases h1 : dl g S d i < d
  ·rw [if_pos ⟨h0,h1⟩,if_pos ⟨h0,by omega⟩]
  ·have h2 : dl g S d i = d:=by omega
   rw [if_neg (by omega),if_pos h2,if_pos ⟨h0,by omega⟩,h2]
 ·rw [if_neg (by omega),if_neg (by omega)]
  by_cases h3 : 0 ≤ dl g S (d + 1) i
  ·have:=(zmj h3 h0).1
   rw [if_neg (by omega)]
  ·rw [if_neg (by omega)]
theorem zia (g : Gr) (S : List Int) (d : Nat) (F : List Int) : (outP g S d F).length = g.size.toNat:=by simp [outP]
theorem zpR (g : Gr) (S : List Int) (d : Nat) : (outL g S d).length = g.size.toNat:=by simp [outL]
theorem zt2 {g : Gr} {S : List Int} {d : Nat} {F : List Int} {k : Nat} (hk : k < g.size.toNat) (hd : dl g S d k = d) : (outP g S d F)[k]'(by rw [zia]; exact hk) = if (k : Int) ∈ F then (d : Int) else -1:=by
 unfold outP
 simp only [List.getElem_map,List.getElem_range]
 rw [if_neg (by omega)]
theorem zs8 {g : Gr} {S : List Int} {d : Nat} (F : List Int) {i : Nat} (hi : i < g.size.toNat) : (outP g S d F)[i]? = some (if 0 ≤ dl g S d i ∧ dl g S d i < d then dl g S d i else if (i : Int) ∈ F then (d : Int) else -1):=by
 simp [outP,hi]
theorem zuX {g : Gr} {S : List Int} {d : Nat} {F : List Int} {k : Nat} (hk : k < g.size.toNat) (hd : dl g S d k = d) : (outP g S d F).set k d = outP g S d (F ++ [(k : Int)]):=by
 apply List.ext_getElem?
 intro i
 by_cases hi : i < g.size.toNat
 ·rw [zs8 _ hi,List.getElem?_set]
  by_cases hki : k = i
  ·subst hki
   rw [if_pos rfl,if_pos (by rw [zia]; exact hk),if_neg (by omega),if_pos (by simp)]
  ·rw [if_neg hki,zs8 _ hi]
   have : (i : Int) ∈ F ++ [(k : Int)] ↔ (i : Int) ∈ F:=by
    simp
    omega
   simp only [this]
 ·rw [List.getElem?_eq_none (by rw [List.length_set,zia]; omega),List.getElem?_eq_none (by rw [zia]; omega)]
theorem zpP {g : Gr} {S : List Int} {d : Nat} {F F' : List Int} (h : ∀ x,x ∈ F ↔ x ∈ F') : outP g S d F = outP g S d F':=by
 unfold outP
 simp only [h]
theorem zqL {l : List Ed} {F : List Int} {x : Int} (hx : x ∉ F) : (l.countP fun e=>decide (e.f ∈ F ++ [x])) = (l.countP fun e=>decide (e.f ∈ F)) + (outs l x).length:=by
 rw [zq1]
 induction l with
 | nil=>rfl
 | cons e l ih =>
   have e1 : decide (e.f ∈ F ++ [x]) = (decide (e.f ∈ F) || decide (e.f = x)):=by simp
   simp only [List.countP_cons,ih,e1]
   by_cases h1 : e.f ∈ F <;> by_cases h2 : e.f = x
   ·rw [h2] at h1; exact absurd h1 hx
   all_goals
    simp only [hx,h1,h2,decide_true,decide_false,Bool.or_true,Bool.or_false,Bool.true_or,Bool.false_or,if_true,Bool.false_eq_true,if_false]
    omega
structure Pol where
 seeds : List Int
 table : List Int
 lv : Int
def zcx (n : Int) (p : Pol) : Prop :=
 p.seeds ≠ [] ∧ Rise p.seeds 0 (n - 1) ∧ 1 ≤ p.table.length ∧ p.table.length ≤ 8 ∧ 1 ≤ p.lv ∧ p.lv ≤ 3 ∧ ∀ i (h : i < p.table.length),1 ≤ p.table[i] ∧ p.table[i] ≤ 1000 ∧ (0 < i → p.table[i] ≤ p.table[i - 1])
def zgx (p : Pol) (d : Int) : Int:=if d < 0 then 0 else p.table.getD d.toNat 1
theorem zkD {p : Pol} {d : Int} (h : d < 0) : zgx p d = 0:=if_pos h
theorem zqc {p : Pol} {n : Int} (hp : zcx n p) {d : Int} (h : 0 ≤ d) : 1 ≤ zgx p d ∧ zgx p d ≤ 1000:=by
 unfold zgx
 rw [if_neg (by omega)]
 by_cases hd : d.toNat < p.table.length
 ·rw [List.getD_eq_getElem?_getD,List.getElem?_eq_getElem hd,Option.getD_some]
  have:=hp.2.2.2.2.2.2 d.toNat hd
  omega
 ·rw [List.getD_eq_getElem?_getD,List.getElem?_eq_none (by omega),Option.getD_none]
  omega
theorem zsx {p : Pol} {n : Int} (hp : zcx n p) {d : Int} : 0 < zgx p d ↔ 0 ≤ d:=by
 constructor
 ·intro h
  refine Decidable.byContradiction fun h1=>?_
  rw [zkD (by omega)] at h
  omega
 ·intro h
  have:=zqc hp h
  omega
theorem zhp {p : Pol} {n : Int} (hp : zcx n p) (d : Int) : 0 ≤ zgx p d ∧ zgx p d ≤ 1000:=by
 by_cases h : 0 ≤ d
 ·have:=zqc hp h; omega
 ·rw [zkD (by omega)]; omega
def zaX (g : Gr) (p : Pol) : List Int:=(zeP (zas g p.lv) p.seeds).map (zgx p)
def zbm (g : Gr) (p : Pol) (c : List Int) (sinks : List Int) : List Ed :=
 ((p.seeds.filter fun x=>decide (0 < c.getD x.toNat 0)).map fun x=>⟨0,2 + 2 * x,c.getD x.toNat 0⟩)
 ++ ((List.range c.length).filter fun i=>decide (0 < c.getD i 0)).map (fun i=>⟨2 + 2 * (i : Int),3 + 2 * (i : Int),c.getD i 0 - 1⟩)
 ++ ((sinks.filter fun x=>decide (0 < c.getD x.toNat 0)).map fun x=>⟨2 + 2 * x,1,1⟩)
 ++ (((zas g p.lv).edges.filter fun e=>decide (0 < c.getD e.f.toNat 0)).map fun e=>⟨3 + 2 * e.f,2 + 2 * e.t,64⟩)
structure Net where
 nodes : Int
 arcs : List Ed
def znD (n : Int) (a : Ed) : Prop:=0 ≤ a.f ∧ a.f ≤ n - 1 ∧ 0 ≤ a.t ∧ a.t ≤ n - 1 ∧ a.f ≠ a.t ∧ a.t ≠ 0 ∧ a.f ≠ 1 ∧ 0 ≤ a.v ∧ a.v ≤ 1048576
instance (n : Int) (a : Ed) : Decidable (znD n a):=by unfold znD; infer_instance
def zcF (n : Net) : Prop:=2 ≤ n.nodes ∧ n.nodes ≤ 130 ∧ n.arcs.length ≤ 1200 ∧ ∀ a ∈ n.arcs,znD n.nodes a
instance (n : Net) : Decidable (zcF n):=by unfold zcF; infer_instance
def zvS (n : Net) (side : List Int) : Prop:=zcF n ∧ Rise side 0 (n.nodes - 1) ∧ (0 : Int) ∈ side ∧ (1 : Int) ∉ side
def cutV (arcs : List Ed) (side : List Int) : Int:=(arcs.map fun a=>if a.f ∈ side ∧ a.t ∉ side then a.v else 0).sum
def zpG (n : Net) (side : List Int) (most : Int) : Prop:=zvS n side ∧ cutV n.arcs side ≤ most
def za3 (a : List Int) : List Int:=((List.range 64).map Int.ofNat).filter fun x=>decide (x ∈ a)
theorem zeG {a : List Int} {x : Int} : x ∈ za3 a ↔ x ∈ a ∧ 0 ≤ x ∧ x < 64:=by
 unfold za3
 simp only [List.mem_filter,List.mem_map,List.mem_range,decide_eq_true_eq]
 constructor
 ·rintro ⟨⟨i,hi,rfl⟩,h⟩
  exact ⟨h,Int.natCast_nonneg _,by show (i : Int) < 64; omega⟩
 ·rintro ⟨h,h0,h1⟩
  exact ⟨⟨x.toNat,by omega,by show ((x.toNat : Nat) : Int) = x; omega⟩,h⟩
theorem zjW (a : List Int) : (za3 a).Pairwise (· < ·):=by
 unfold za3
 refine List.Pairwise.filter _ ?_
 rw [List.pairwise_map]
 exact List.pairwise_lt_range.imp fun {a b} h=>by show (a : Int) < (b : Int); omega
theorem zcm : ∀ {a b : List Int},a.Nodup → (∀ x ∈ a,x ∈ b) → a.length ≤ b.length
 | [],_,_,_=>Nat.zero_le _
 | x :: a,b,hn,hs=>by
   have hx : x ∈ b:=hs x (List.mem_cons_self ..)
   rw [List.nodup_cons] at hn
   have hb:=List.perm_cons_erase hx
   have hlb : (b.erase x).length + 1 = b.length:=by have:=hb.length_eq; simp at this; omega
   have:=zcm (b:=b.erase x) hn.2 fun y hy=>by
    have hne : y ≠ x:=fun e=>hn.1 (e ▸ hy)
    exact (List.mem_erase_of_ne hne).2 (hs y (List.mem_cons_of_mem _ hy))
   rw [List.length_cons]
   omega
theorem zmR {a : List Int} (hn : a.Nodup) (hr : ∀ k ∈ a,0 ≤ k ∧ k < 64) : srt a = za3 a:=by
 have h1 : (za3 a).Nodup:=(zjW a).imp fun {x y} h=>by omega
 have h2 : a.Perm (za3 a):=zdM hn (fun x hx=>zeG.2 ⟨hx,hr x hx⟩) (zcm h1 fun x hx=>(zeG.1 hx).1)
 exact List.Perm.eq_of_pairwise (le:=(· ≤ ·)) (fun x y _ _ h1 h2=>by omega) (zso a) ((zjW a).imp fun {x y} h=>by omega) ((zgL a).trans h2)
def encS (s : Stp) : Int:=if s.2 then -((s.1 : Int) + 1) else (s.1 : Int) + 1
def decS (v : Int) : Stp:=if 0 < v then ((v - 1).toNat,false) else ((-v - 1).toNat,true)
theorem zpw (s : Stp) : decS (encS s) = s:=by
 obtain ⟨i,b⟩:=s
 unfold decS encS
 cases b
 ·simp only [Bool.false_eq_true,if_false]
  rw [if_pos (by omega)]
  congr 1
  omega
 ·simp only [if_true]
  rw [if_neg (by omega)]
  congr 1
  omega
theorem zvI (s : Stp) : encS s ≠ 0:=by unfold encS; split <;> omega
structure Bfs (N : Nat) (A : List Ed) (f D b : List Int) : Prop where
 tree : zsI A f D fun x=>decS (b.getD x.toNat 0)
 rng : ∀ x ∈ D,0 ≤ x ∧ x < N
 len : b.length = N
 zero : b.getD 0 0 = 0
 out : ∀ x : Int,0 ≤ x → x ∉ D → b.getD x.toNat 0 = 0
 inn : ∀ x ∈ D,x ≠ 0 → b.getD x.toNat 0 ≠ 0
def zhw (A : List Ed) (f D : List Int) (m : Nat) : Prop:=∀ s : Stp,s.1 < A.length → stF A s ∈ D.take m → 0 < zcz A f s → stT A s ∈ D
def zs0 (A : List Ed) (f D : List Int) (k : Int) (i : Nat) : Prop:=∀ s : Stp,s.1 < i → stF A s = k → 0 < zcz A f s → stT A s ∈ D
variable {N : Nat} {A : List Ed} {f D b : List Int}
theorem Bfs.start (hN : 0 < N) : Bfs N A f [0] (List.replicate N 0):=by
 have h0 : ∀ i,(List.replicate N (0 : Int)).getD i 0 = 0:=fun i=>by
  rw [List.getD_eq_getElem?_getD,List.getElem?_replicate]
  split <;> rfl
 exact ⟨⟨rfl,by simp,fun j h hj=>by simp at h; omega⟩,fun x hx=>by simp at hx; omega,by simp,h0 0,fun x _ _=>h0 _,fun x hx hn=>absurd (by simpa using hx) hn⟩
theorem Bfs.mem0 (h : Bfs N A f D b) : (0 : Int) ∈ D:=List.mem_of_mem_head? (by rw [h.tree.zero]; rfl)
theorem Bfs.push (h : Bfs N A f D b) {s : Stp} (hs : s.1 < A.length) (hF : stF A s ∈ D) (hr : 0 < zcz A f s) (hT : stT A s ∉ D) (h0 : 0 ≤ stT A s) (h1 : stT A s < N) : Bfs N A f (D ++ [stT A s]) (b.set (stT A s).toNat (encS s)):=by
 have hb : (stT A s).toNat < b.length:=by rw [h.len]; omega
 have hne : ∀ x : Int,0 ≤ x → x ≠ stT A s → (b.set (stT A s).toNat (encS s)).getD x.toNat 0 = b.getD x.toNat 0:=fun x hx hxn=>by
  rw [List.getD_eq_getElem?_getD,List.getElem?_set_ne (by omega),List.getD_eq_getElem?_getD]
 have heq : (b.set (stT A s).toNat (encS s)).getD (stT A s).toNat 0 = encS s:=by
  rw [List.getD_eq_getElem?_getD,List.getElem?_set_self hb,Option.getD_some]
 have hn0 : stT A s ≠ 0:=fun e=>hT (e ▸ h.mem0)
 refine ⟨⟨?_,?_,fun j hj hj0=>?_⟩,fun x hx=>?_,by rw [List.length_set]; exact h.len,?_,fun x hx hxn=>?_,fun x hx hxn=>?_⟩
 ·rw [List.head?_append,h.tree.zero]
  rfl
 ·rw [List.nodup_append]
  exact ⟨h.tree.nodup,by simp,fun a ha c hc=>by rw [List.mem_singleton] at hc; subst hc; rintro rfl; exact hT ha⟩
 ·rw [List.length_append,List.length_singleton] at hj
  by_cases hjl : j < D.length
  ·have hm:=List.getElem_mem hjl
   have hx : D[j] ≠ stT A s:=fun e=>hT (e ▸ hm)
   simp only [List.getElem_append_left hjl]
   rw [hne _ (h.rng _ hm).1 hx]
   obtain ⟨q1,q2,q3,q4⟩:=h.tree.step j hjl hj0
   refine ⟨q1,q2,?_,q4⟩
   rw [List.take_append_of_le_length (by omega)]
   exact q3
  ·obtain rfl : j = D.length:=by omega
   have e : (D ++ [stT A s])[D.length]'(by simp) = stT A s:=by simp
   simp only [e]
   rw [heq,zpw]
   refine ⟨hs,rfl,?_,hr⟩
   rw [List.take_append_of_le_length (Nat.le_refl _),List.take_length]
   exact hF
 ·rcases List.mem_append.1 hx with h2 | h2
  ·exact h.rng x h2
  ·rw [List.mem_singleton] at h2
   subst h2
   exact ⟨h0,h1⟩
 ·have:=hne 0 (Int.le_refl _) (Ne.symm hn0)
  simp only [Int.toNat_zero] at this
  rw [this]
  exact h.zero
 ·rw [List.mem_append,List.mem_singleton,not_or] at hxn
  rw [hne x hx hxn.2]
  exact h.out x hx hxn.1
 ·by_cases hxt : x = stT A s
  ·subst hxt
   rw [heq]
   exact zvI s
  ·rcases List.mem_append.1 hx with h2 | h2
   ·rw [hne x (h.rng x h2).1 hxt]
    exact h.inn x h2 hxn
   ·exact absurd (List.mem_singleton.1 h2) hxt
theorem Bfs.few (h : Bfs N A f D b) : D.length ≤ N:=by
 have:=zcm (b:=(List.range N).map fun i : Nat=>(i : Int)) h.tree.nodup fun x hx=>by
  have:=h.rng x hx
  exact List.mem_map.2 ⟨x.toNat,List.mem_range.2 (by omega),by omega⟩
 simpa using this
theorem zhw.next {m : Nat} (hm : m < D.length) {D' : List Int} (h : zhw A f D m) (hi : zs0 A f D' D[m] A.length) {l : List Int} (hD : D' = D ++ l) : zhw A f D' (m + 1):=by
 subst hD
 intro s hs hF hr
 rw [List.take_append_of_le_length (by omega),List.take_succ_eq_append_getElem hm] at hF
 rcases List.mem_append.1 hF with h1 | h1
 ·exact List.mem_append_left _ (h s hs h1 hr)
 ·exact hi s hs (List.mem_singleton.1 h1) hr
theorem zhw.all (h : zhw A f D D.length) : zgn A f D:=fun s hs hF hr=>h s hs (by rw [List.take_length]; exact hF) hr
def zgO (l : List (Int × AV)) : List (List AV):=l.map fun p=>[.sc (.int .i64 p.1),p.2]
theorem zhi (n : Int) : ∀ l : List (Int × AV),zdX n (zgO l) = (l.find? (fun p=>p.1 = n)).map (·.2)
 | []=>rfl
 | (k,x) :: l=>by
   have ih:=zhi n l
   simp only [zgO] at ih
   simp only [zgO,List.map_cons,zdX,List.find?_cons]
   by_cases h : n = k
   ·simp [h]
   ·have h' : ¬ k = n:=fun e=>h e.symm
    simp [h,h',ih]
def MapR (rows : List (List AV)) (φ : Int → Option AV) : Prop:=∃ l : List (Int × AV),rows = zgO l ∧ (l.map (·.1)).Nodup ∧ ∀ n,zdX n rows = φ n
theorem MapR.find {rows : List (List AV)} {φ : Int → Option AV} (h : MapR rows φ) (n : Int) : zdX n rows = φ n:=by
 obtain ⟨_,_,_,h⟩:=h
 exact h n
theorem MapR.nil : MapR [] fun _=>none:=⟨[],rfl,by simp,fun _=>rfl⟩
theorem zl9 (n : Int) (y : AV) : ∀ l : List (Int × AV),∃ l',mset n y (zgO l) = zgO l' ∧ (∀ k,k ∈ l'.map (·.1) ↔ k = n ∨ k ∈ l.map (·.1)) ∧ ((l.map (·.1)).Nodup → (l'.map (·.1)).Nodup) ∧ ∀ k,zdX k (zgO l') = if k = n then some y else zdX k (zgO l)
 | []=>⟨[(n,y)],rfl,by simp,by simp,fun k=>by simp [zgO,zdX]⟩
 | (i,x) :: l=>by
   by_cases h : n = i
   ·subst h
    refine ⟨(n,y) :: l,by simp [zgO,mset],by simp,by simp,fun k=>?_⟩
    simp only [zgO,List.map_cons,zdX]
    split <;> rfl
   ·obtain ⟨l',h1,h2,h3,h4⟩:=zl9 n y l
    refine ⟨(i,x) :: l',?_,fun k=>?_,fun hn=>?_,fun k=>?_⟩
    ·simp only [zgO] at h1
     simp [zgO,mset,h,h1]
    ·simp only [List.map_cons,List.mem_cons,h2]
     constructor
     ·rintro (h | h | h) <;> simp [h]
     ·rintro (h | h | h) <;> simp [h]
    ·rw [List.map_cons,List.nodup_cons] at hn ⊢
     exact ⟨fun hm=>((h2 i).1 hm).elim (fun e=>h e.symm) hn.1,h3 hn.2⟩
    ·have h4:=h4 k
     simp only [zgO] at h4
     simp only [zgO,List.map_cons,zdX,h4]
     by_cases hk : k = i
     ·subst hk
      simp [show ¬ k = n from fun e=>h e.symm]
     ·simp [hk]
theorem MapR.set {rows : List (List AV)} {φ : Int → Option AV} (h : MapR rows φ) (n : Int) (y : AV) : MapR (mset n y rows) fun k=>if k = n then some y else φ k:=by
 obtain ⟨l,rfl,hn,hf⟩:=h
 obtain ⟨l',h1,_,h3,h4⟩:=zl9 n y l
 exact ⟨l',h1,h3 hn,fun k=>by rw [h1,h4,hf]⟩
def zqT (s : Stp) : AV:=.agg [.I s.1,.sc (.bool s.2)]
open Classical in
noncomputable def camF (D b : List Int) : Int → Option AV:=fun x=>if x ∈ D then some (if x = 0 then .agg [.I (-1),.sc (.bool false)] else zqT (decS (b.getD x.toNat 0))) else none
theorem zqM (b : List Int) : camF [0] b = fun x=>if x = 0 then some (.agg [.I (-1),.sc (.bool false)]) else none:=by
 funext x
 by_cases h : x = 0 <;> simp [camF,h]
theorem zrx {N : Nat} {A : List Ed} {f D b : List Int} (h : Bfs N A f D b) {s : Stp} (hT : stT A s ∉ D) (h0 : 0 ≤ stT A s) (h1 : stT A s < N) :
  camF (D ++ [stT A s]) (b.set (stT A s).toNat (encS s)) = fun x=>if x = stT A s then some (zqT s) else camF D b x:=by
 have hb : (stT A s).toNat < b.length:=by rw [h.len]; omega
 have hn0 : stT A s ≠ 0:=fun e=>hT (e ▸ h.mem0)
 funext x
 by_cases hx : x = stT A s
 ·subst hx
  simp only [camF,List.mem_append,List.mem_singleton,or_true,if_true,if_neg hn0]
  rw [List.getD_eq_getElem?_getD,List.getElem?_set_self hb,Option.getD_some,zpw]
 ·simp only [camF,List.mem_append,List.mem_singleton,hx,or_false,if_false]
  by_cases hD : x ∈ D
  ·have hr:=h.rng x hD
   rw [if_pos hD,if_pos hD,List.getD_eq_getElem?_getD,List.getElem?_set_ne (by omega),List.getD_eq_getElem?_getD]
  ·rw [if_neg hD,if_neg hD]
theorem zho (D b : List Int) (x : Int) : (camF D b x).isSome = decide (x ∈ D):=by
 by_cases h : x ∈ D <;> simp [camF,h]
end Go.Proofs.YtklclphfcibagaaGreat
namespace Go.Proofs.YtklclphfcibagaaGreat
open Go Go.RowKit Go.Shelf Go.Maps Go.Sort
attribute [local go_sem] Oper.semAt_some
def zis : Go.Shelf.Ren:=⟨fun | 11=>299 | n=>n,fun | 0=>0 | 24=>22 | 26=>3 | 28=>249 | 33=>118 | n=>n,fun | n=>n⟩
theorem seqL : SlLaysZI.n11 Tryz.prog zis:={
 mixed:=by kernel_rfl
 f11:=⟨Tryz.f299.name,by decide,Tryz.func299.trans (congrArg some (by kernel_rfl))⟩
 t0:=Tryz.underlying0
 a0:=Tryz.isAgg0
 z0:=Tryz.sizeOf0
 v0:=Tryz.zeroValue0
 t24:=Tryz.underlying22
 a24:=Tryz.isAgg22
 z24:=Tryz.sizeOf22
 v24:=Tryz.zeroValue22
 t26:=Tryz.underlying3
 a26:=Tryz.isAgg3
 z26:=Tryz.sizeOf3
 v26:=Tryz.zeroValue3
 t28:=Tryz.underlying249
 a28:=Tryz.isAgg249
 z28:=Tryz.sizeOf249
 v28:=Tryz.zeroValue249
 i26:=by kernel_rfl
}
theorem zo3 {l : List Int} {k : Nat} (h : k < l.length) : l.take (k + 1) = l.take k ++ [l[k]]:=List.take_succ_eq_append_getElem h
set_option maxRecDepth 100000 in
set_option maxHeartbeats 2000000 in
theorem zre (F : Fence) (n : Nat) (h7 : F.fn 272) (hro : F.round = none) (hn : 1 ≤ n) (l Bs B0 b off cap : Nat) (a : Option Addr) (zs : List Int) (ha : zs ≠ [] → a = some ⟨b,off,none⟩) (hreach : zs.length ≤ 17592186044416) (J : List Int → World → Prop) (W : World)
  (hJ : ∀ pre W1,J pre W1 → ∀ j (h : j < zs.length),W1.cell? ⟨b,off + j,none⟩ = some (.int .i64 zs[j]))
  (hY : ∀ pre x W1,J pre W1 → pre.length < zs.length → YieldAt F (n - 1) Tryz.prog l #[.int .i64 x] W1 fun e W'=>e = .returned (.bool true) ∧ J (pre ++ [x]) W' ∧ KeepsWalks W1 W')
  (hBs : W.cell? ⟨Bs,B0,none⟩ = some (.slice a zs.length cap)) (h0 : J [] W) :
  CallsIn F n Tryz.prog 272 #[.func (.yield l) #[] #[],.pointer (some ⟨Bs,B0,none⟩)] W fun e W'=>(∃ v,e = .returned v) ∧ J zs W':=by
 refine callsIn_of_wp Tryz.func272 rfl h7 ?_ hro
 simp only [Tryz.ntmps272,List.size_toArray,List.length_cons,List.length_nil,Nat.reduceAdd,Nat.reduceSub,Array.replicate_succ,Array.replicate_zero,List.push_toArray,List.append_toArray,List.nil_append,List.cons_append]
 gi_wp2
 gi_loopw [7] (fun i wr=>∃ k : Nat,k ≤ zs.length ∧ i = .int .i64 k ∧ J (zs.take k) wr) (fun i _=>zs.length - (intOf i).toNat)
 case atStart=>exact ⟨0,Nat.zero_le _,rfl,by simpa using h0⟩
 case round =>
  obtain ⟨k,hk,rfl,hJs⟩:=hrel
  by_cases hlt : k < zs.length
  ·have hcx' : wr.cell? ⟨b,off + k,none⟩ = some (.int .i64 zs[k]):=hJ _ _ hJs k hlt
   obtain rfl:=ha (by rintro rfl; simp at hlt)
   obtain ⟨fn,tmps,assign,body,hy,hR⟩:=hY _ zs[k] wr hJs (by rw [List.length_take]; omega)
   gi_wp2
   refine hR.mono ?_
   rintro e W3 ⟨rfl,hJ3,hk3⟩
   gi_wp2
   go_roundw
   case rel=>exact ⟨k + 1,by omega,by simp,by rw [zo3 hlt]; exact hJ3⟩
   case measure=>simp [intOf]; omega
  ·obtain rfl : k = zs.length:=by omega
   gi_wp2
   go_end0
   exact ⟨⟨_,rfl⟩,by simpa using hJs⟩
set_option maxRecDepth 100000 in
set_option maxHeartbeats 2000000 in
theorem zmM (F : Fence) (n : Nat) (h11 : F.fn 299) (hFg : F.fn 272) (hro : F.round = none) (hn : 2 ≤ n) (Bs B0 b off cap : Nat) (a : Option Addr) (zs : List Int) (ha : zs ≠ [] → a = some ⟨b,off,none⟩) (hN : zs.length ≤ 1099511627776) (w : World)
  (hBs : w.cell? ⟨Bs,B0,none⟩ = some (.slice a zs.length cap)) (hBl : Bs < w.heap.size) (hbl : zs ≠ [] → b < w.heap.size) (hc : ∀ j (h : j < zs.length),w.cell? ⟨b,off + j,none⟩ = some (.int .i64 zs[j])) :
  CallsIn F n Tryz.prog 299 #[.slice none 0 0,.func (.func 272) #[] #[.pointer (some ⟨Bs,B0,none⟩)]] w fun e w'=>∃ v : Value,e = .returned v ∧ w'.ownsRow w.heap.size 3 1 v zs.length (zs.map encZ) ∧ Below w.heap.size w w':=by
 have h1 : 1 ≤ n:=by omega
 have hmax : zs.length ≤ maxLen:=by unfold maxLen; omega
 have L:=seqL
 have hne : (22 : Nat) ≠ 3:=by decide
 have eg : ∀ args w,(callFunc 272 args).run Tryz.prog w = .ok (.enter 272 args) w:=fun args w=>(enters_of Tryz.func272 (by kernel_rfl) rfl) args w
 refine callsIn_of_wp_marks Tryz.func299 rfl h11 ?_ hro
 simp only [Tryz.ntmps299,List.size_toArray,List.length_cons,List.length_nil,Nat.reduceAdd,Nat.reduceSub,Array.replicate_succ,Array.replicate_zero,List.push_toArray,List.append_toArray,List.nil_append,List.cons_append]
 gi_wp2
 refine wpIn_rangeFunc ?_
 intro fn hfn
 rw [hro]
 obtain ⟨W0,hW0⟩ : ∃ W0,w.alloc (.cells #[.slice none 0 0] 22) = W0:=⟨_,rfl⟩
 have hs0 : W0.heap.size = w.heap.size + 1:=by rw [← hW0]; simp
 have hv0 : W0.heap[w.heap.size]? = some (.cells #[.slice none 0 0] 22 (0,0)):=by rw [← hW0]; exact World.alloc_heap_new w _
 have hb0 : Below w.heap.size w W0:=by rw [← hW0]; exact (Below.refl _ w).alloc (Nat.le_refl _) _
 rw [hW0]
 obtain ⟨sv,hsv⟩ : ∃ sv : Value,sv = .func (.func 272) #[] #[.pointer (some ⟨Bs,B0,none⟩)]:=⟨_,rfl⟩
 rw [← hsv]
 obtain ⟨W1,hW1⟩ : ∃ W1,(W0.alloc (.deferred (some []))).alloc (.loop (AnyZI.apRec zis fn sv w.heap.size W0.heap.size .ready none)) = W1:=⟨_,rfl⟩
 have hold : ∀ k,k < W0.heap.size → W1.heap[k]? = W0.heap[k]?:=fun k hk=>by
  rw [← hW1]; exact (Below.heap_alloc _ _ k (by simp; omega)).trans (Below.heap_alloc _ _ k hk)
 have hb1 : Below w.heap.size w W1:=by rw [← hW1]; exact (hb0.alloc hb0.size _).alloc (by have:=hb0.size; simp; omega) _
 have hs1 : W1.heap.size = W0.heap.size + 2:=by rw [← hW1]; simp
 have hM : AnyZI.ApAt zis w fn sv w.heap.size (W0.heap.size + 1) W0.heap.size [] W1 :=
  ⟨⟨_,(hold w.heap.size (by omega)).trans hv0,⟨rfl,.inl ⟨rfl,rfl⟩⟩,by simp⟩,
   by rw [← hW1]; have:=World.alloc_heap_new (W0.alloc (.deferred (some []))) (.loop (AnyZI.apRec zis fn sv w.heap.size W0.heap.size .ready none)); rwa [World.size_alloc] at this,
   by rw [← hW1]; exact (Below.heap_alloc _ _ _ (by simp)).trans (World.alloc_heap_new W0 _),hb1⟩
 refine ⟨W0.heap.size + 1,[{ target:=.collected W0.heap.size,args:=#[] }],W1,{ target:=.fn (.func 272) #[.pointer (some ⟨Bs,B0,none⟩)],args:=#[.func (.yield (W0.heap.size + 1)) #[] #[]] },W1,272,
  #[.func (.yield (W0.heap.size + 1)) #[] #[]] ++ #[.pointer (some ⟨Bs,B0,none⟩)],W1,?_,?_,?_,?_,fun _=>h1,?_⟩
 ·rw [← hW1]; exact run_enterLoop_outer _ _ _ _ _
 ·rw [hsv]; simp [resolve,go_sem]
 ·intro f' hf'; simp [Target.leads] at hf'; subst hf'; exact hFg
 ·simp [invoke,go_sem,eg]
 ·refine (zre F (n - 1) hFg hro (by omega) (W0.heap.size + 1) Bs B0 b off cap a zs ha (by omega) (AnyZI.ApAt zis w fn sv w.heap.size (W0.heap.size + 1) W0.heap.size) W1 (fun pre W' h' j hj=>(h'.below.cell (p:=⟨b,off + j,none⟩) (hbl (by rintro rfl; simp at hj))).trans (hc j hj))
   (fun pre x W hJ hl=>AnyZI.apYield { L with } F (n - 1 - 1) w fn hfn _ w.heap.size (W0.heap.size + 1) W0.heap.size (by omega) (by omega) (by omega) (Nat.le_refl _) (by omega) zs.length hmax (by omega) pre x W hJ hl) ((hb1.cell (p:=⟨Bs,B0,none⟩) hBl).trans hBs) hM).mono ?_
  rintro e W2 ⟨⟨v0,rfl⟩,h2⟩
  obtain ⟨v,hv,hrow,hnil⟩:=h2.box
  have hend:=run_endLoop (P:=Tryz.prog) h2.L (by simp [AnyZI.apRec])
  obtain ⟨W3,hW3⟩ : ∃ W3,W2.putObj (W0.heap.size + 1) (.loop { AnyZI.apRec zis fn sv w.heap.size W0.heap.size .ready none with state:=.exhausted }) = W3:=⟨_,rfl⟩
  rw [hW3] at hend
  have hg3 : W2.grownBy W3 (some (W0.heap.size + 1)):=by rw [← hW3]; exact grownBy_putObj_a _ _ _
  have hv3 : W3.heap[w.heap.size]? = some (.cells #[v] 22 (0,0)):=by rw [← hW3]; exact (World.putObj_heap_other (by omega)).trans hv
  have hK3 : W3.heap[W0.heap.size]? = some (.deferred (some [])):=by rw [← hW3]; exact (World.putObj_heap_other (by omega)).trans h2.K
  have hrow3:=hrow.kept hg3 (ownsRow_ne_a hrow h2.L (fun cur e=>by first | cases e | exact hne (Obj.cells.inj e).2.1))
  have hb3 : Below w.heap.size w W3:=h2.below.grown hg3 h2.below.size (fun k e=>by cases e; omega)
  obtain ⟨hc3,hf3⟩:=cell_of_box_a hv3
  clear hW3
  refine ⟨none,W3,hend,?_⟩
  gi_wp2
  rw [← hs0]
  refine ⟨by simp,.inl ⟨_,_,rfl,run_takeDeferred hK3,?_⟩⟩
  exact ⟨_,results_tmp rfl _ _ _,v,rfl,hrow3.kept (grownBy_putObj_a _ _ _) (ownsRow_ne_a hrow3 hK3 (fun cur e=>by first | cases e | exact hne (Obj.cells.inj e).2.1)),hb3.grown (grownBy_putObj_a _ _ _) hb3.size (fun k e=>by cases e; omega)⟩
theorem zrR {P : Program} {np : Nat} {α : Type} : ∀ (ops : List zbI) (n i : Nat) (st : St) (tr : List (List Nat × List Nat)) (K : α → St → List (List Nat × List Nat) → Prop),zbh P np n i ops st tr (fun s t=>∃ x,K x s t) → ∃ x,zbh P np n i ops st tr (K x):=by
 intro ops
 induction ops with
 | nil=>intro n i st tr K h; exact h
 | cons o os ih =>
   intro n i st tr K h
   have hgo : ∀ (op : AOp) (xs : List AV) (h : Nat → Option Ent) (F : AV → List Nat → List (Nat × Option Ent) → (St → List (List Nat × List Nat) → Prop) → Prop),
     (∀ v rd up,F v rd up (fun s t=>∃ x,K x s t) → ∃ x,F v rd up (K x)) → aK P np (n + 8 * i) op xs h (fun v rd up=>F v rd up (fun s t=>∃ x,K x s t)) → ∃ x,aK P np (n + 8 * i) op xs h (fun v rd up=>F v rd up (K x)):=by
    intro op xs h F hF hk
    obtain ⟨v,rd,up,h1,h2⟩:=zoT hk
    obtain ⟨x,hx⟩:=hF v rd up h1
    refine ⟨x,zrX (fun a b c e=>?_) h2⟩
    obtain ⟨rfl,rfl,rfl⟩:=e
    exact hx
   unfold zbh at h ⊢
   cases hg : o.guard with
   | none =>
     simp only [hg] at h ⊢
     exact hgo _ _ _ (fun v rd up K'=>zbh P np n (i + 1) os ((st.put o.dst v).upd up) (tr ++ [(rd,up.map (·.1))]) K') (fun v rd up=>ih _ _ _ _ _) h
   | some gw =>
     obtain ⟨g,want⟩:=gw
     simp only [hg] at h ⊢
     obtain ⟨b,hb,h⟩:=h
     by_cases hbw : b = some want
     ·rw [if_pos hbw] at h
      obtain ⟨x,hx⟩:=hgo _ _ _ (fun v rd up K'=>zbh P np n (i + 1) os ((st.put o.dst v).upd up) (tr ++ [(rd,up.map (·.1))]) K') (fun v rd up=>ih _ _ _ _ _) h
      exact ⟨x,b,hb,by rw [if_pos hbw]; exact hx⟩
     ·rw [if_neg hbw] at h
      obtain ⟨x,hx⟩:=ih _ _ _ _ _ h
      exact ⟨x,b,hb,by rw [if_neg hbw]; exact hx⟩
theorem Le.trans' {np : Nat} {a b c : St} (h1 : Le np a b) (h2 : Le np b c) : Le np a c:=by
 intro T0 M0 w0 T M ac w ok hn
 obtain ⟨T',M',ok',hn'⟩:=h1 T0 M0 w0 T M ac w ok hn
 exact h2 T0 M0 w0 T' M' ac w ok' hn'
theorem zyk {P : Program} {np : Nat} : ∀ {c : zdu} {α : Type} {Q : α → zcP → St → Prop} {st : St},awp P np c (fun e s=>∃ x,Q x e s) st → ∃ x,awp P np c (Q x) st:=by
 intro c
 induction c with
 | skip=>intro α Q st h; exact h
 | reg draw ops after =>
   intro α Q st hw
   obtain ⟨x,hx⟩:=zrR ops st.n 0 st [] (fun x st' tr=>(draw = true → zdE ops after tr = true) ∧ Q x .normal { st' with n:=st.n + 8 * ops.length })
    (zch _ _ _ _ _ _ _ (fun s t h=>by obtain ⟨h1,x,h2⟩:=h; exact ⟨x,h1,h2⟩) hw.2)
   exact ⟨x,hw.1,hx⟩
 | seq a b iha ihb =>
   intro α Q st hw
   refine iha (zb2 (fun e s hs=>?_) hw)
   cases e with
   | normal =>
     obtain ⟨st2,hle,h2⟩:=hs
     obtain ⟨x,hx⟩:=ihb h2
     exact ⟨x,st2,hle,hx⟩
   | exit id=>exact hs
   | ret=>exact hs
 | cond c a b iha ihb =>
   intro α Q st hw
   obtain ⟨t,ht,hw⟩:=hw
   cases t
   ·obtain ⟨x,hx⟩:=ihb hw
    exact ⟨x,false,ht,hx⟩
   ·obtain ⟨x,hx⟩:=iha hw
    exact ⟨x,true,ht,hx⟩
 | block id a iha =>
   intro α Q st hw
   refine iha (zb2 (fun e s hs=>?_) hw)
   cases e with
   | normal=>exact hs
   | exit id' =>
     simp only at hs ⊢
     by_cases hi : id' = id
     ·simp only [if_pos hi] at hs ⊢; exact hs
     ·simp only [if_neg hi] at hs ⊢; exact hs
   | ret=>exact hs
 | loop a iha =>
   intro α Q st hw
   obtain ⟨I,⟨st0,k0,hle,hI⟩,hb⟩:=hw
   have key : ∀ k s,I k s → ∃ x,awp P np (.loop a) (Q x) s:=by
    intro k
    induction k using Nat.strongRecOn with
    | ind k ihk =>
      intro s hs
      have hpre : awp P np a (fun e s'=>∃ y : { y : α × Nat × (Nat → St → Prop) // ∀ k' s',y.2.2 k' s' → awp P np a (fun e st'=>match e with | .normal=>∃ st2 k2,Le np st' st2 ∧ y.2.2 k2 st2 ∧ k2 < k' | e=>Q y.1 e st') s' },
        match e with | .normal=>∃ st2,Le np s' st2 ∧ y.1.2.2 y.1.2.1 st2 | e=>Q y.1.1 e s') s:=by
       refine zb2 (fun e s' h=>?_) (hb k s hs)
       cases e with
       | normal =>
         obtain ⟨st2,k2,h1,h2,h3⟩:=h
         obtain ⟨x,J,⟨st3,k3,h4,h5⟩,h6⟩:=ihk k2 h3 st2 h2
         exact ⟨⟨(x,k3,J),h6⟩,st3,Le.trans' h1 h4,h5⟩
       | exit id=>obtain ⟨x,h⟩:=h; exact ⟨⟨(x,0,fun _ _=>False),fun _ _ h=>h.elim⟩,h⟩
       | ret=>obtain ⟨x,h⟩:=h; exact ⟨⟨(x,0,fun _ _=>False),fun _ _ h=>h.elim⟩,h⟩
      obtain ⟨⟨⟨x,q,J⟩,hJ⟩,hy⟩:=iha hpre
      simp only at hJ hy
      refine ⟨x,fun k' s'=>J k' s' ∨ (k' = q + 1 ∧ s' = s),⟨s,q + 1,Le.refl _ _,.inr ⟨rfl,rfl⟩⟩,?_⟩
      rintro k' s' (h | ⟨rfl,rfl⟩)
      ·refine zb2 (fun e s2 h2=>?_) (hJ k' s' h)
       cases e with
       | normal=>obtain ⟨st2,k2,h1,h2,h3⟩:=h2; exact ⟨st2,k2,h1,.inl h2,h3⟩
       | exit id=>exact h2
       | ret=>exact h2
      ·refine zb2 (fun e s2 h2=>?_) hy
       cases e with
       | normal=>obtain ⟨st2,h1,h2⟩:=h2; exact ⟨st2,q,h1,.inl h2,Nat.lt_succ_self q⟩
       | exit id=>exact h2
       | ret=>exact h2
   obtain ⟨x,hx⟩:=key k0 st0 hI
   obtain ⟨J,⟨s3,k3,h4,h5⟩,h6⟩:=hx
   exact ⟨x,J,⟨s3,k3,Le.trans' hle h4,h5⟩,h6⟩
 | exit id=>intro α Q st h; exact h
 | ret=>intro α Q st h; exact h
 | bad=>intro α Q st h; exact h.elim
def zo1 {α : Type} (rs : List (Nat × Option (Bool × Nat))) (np : Nat) (F : α → AV) (H : α → List (Option Ent)) (R : α → Prop) (e : zcP) (st : St) : Prop:=(e = .normal ∨ e = .ret) ∧ ∃ x,R x ∧ zat rs np st (F x) (H x)
theorem zo1.mk {α : Type} {rs : List (Nat × Option (Bool × Nat))} {np : Nat} {F : α → AV} {H : α → List (Option Ent)} {R : α → Prop} {e : zcP} {st : St} (he : e = .normal ∨ e = .ret) (x : α) (hx : R x) (h : zat rs np st (F x) (H x)) : zo1 rs np F H R e st:=⟨he,x,hx,h⟩
theorem Src.acallsX {P : Program} {f : FuncId} {af : AFun} (s : Src P f af) {α : Type} (F : α → AV) (H : α → List (Option Ent)) (R : α → Prop) {args : List AV} {hs : List Ent}
  (hnt : args.length ≤ af.nt) (hn16 : hs.length ≤ 16) (hlen : ∀ x,hs.length ≤ (H x).length)
  (h : awp P hs.length af.code (zo1 af.res hs.length F H R) (zfj af args hs)) : ∃ x,R x ∧ zao P f args hs (F x) (H x):=by
 obtain ⟨⟨x,hx⟩,hw⟩:=zyk (α:={ x : α // R x }) (Q:=fun x e st=>(e = .normal ∨ e = .ret) ∧ zat af.res hs.length st (F x.1) (H x.1)) (zb2 (fun e st h=>by
  obtain ⟨h1,x,h2,h3⟩:=h
  exact ⟨⟨x,h2⟩,h1,h3⟩) h)
 exact ⟨x,hx,s.acalls hnt hn16 (hlen x) hw⟩
def idm (l : List Nat) : List (Nat × Nat):=l.map fun i=>(i,i)
def cutS (live keep sn : List Nat) (n : Nat) (st : St) : St :=
 ⟨st.sz,live.map (fun i=>(i,conv (idm keep) sn st.hp 4 (st.get i))),keep.map (fun i=>(i,(st.hp i).map (zaw (idm keep) sn st.hp 4))),n⟩
def roOk (keep : List Nat) (st : St) : Prop:=∀ i ∈ keep,∀ e,st.hp i = some e → e.ro ≤ e.rows.length
def zo9 (np n : Nat) (ρ : List (Nat × Nat)) (sn : List Nat) : Bool :=
 decide (ρ.map (·.1)).Nodup && decide (ρ.map (·.2)).Nodup && ρ.all (fun p=>decide (p.2 < n) && (decide (np ≤ p.2) || p.1 == p.2)) && sn.all (fun i=>decide (np ≤ i) && !(ρ.map (·.1)).contains i) && decide (np ≤ n)
theorem Le.go {np : Nat} {st st' : St} (ρ : List (Nat × Nat)) (sn : List Nat) (hsz : st'.sz = st.sz) (hside : zo9 np st'.n ρ sn = true)
  (ht : ∀ p ∈ st'.t,Wk (conv ρ sn st.hp 4 (st.get p.1)) p.2) (hh : ∀ p ∈ st'.h,∃ q ∈ ρ,q.2 = p.1 ∧ (st.hp q.1).map (zaw ρ sn st.hp 4) = p.2 ∧ ∀ e,p.2 = some e → e.ro ≤ e.rows.length) : Le np st st':=by
 simp only [zo9,Bool.and_eq_true,List.all_eq_true,decide_eq_true_eq,Bool.or_eq_true,beq_iff_eq,Bool.not_eq_true',List.contains_eq_mem,decide_eq_false_iff_not] at hside
 obtain ⟨⟨⟨⟨h1,h2⟩,h3⟩,h4⟩,h5⟩:=hside
 refine Le.lst ρ sn [] hsz h1 h2 (fun p hp=>⟨(h3 p hp).1,fun hlt=>?_⟩) (by simp) (fun i hi=>h4 i hi) h5 (by simp) (fun p hp=>.inl (ht p hp)) fun p hp e' he'=>?_
 ·rcases (h3 p hp).2 with h | h
  ·omega
  ·exact h
 ·obtain ⟨q,hq,hq2,hm,hr⟩:=hh p hp
  rw [he'] at hm
  cases hs : st.hp q.1 with
  | none=>rw [hs] at hm; cases hm
  | some e =>
    rw [hs] at hm
    have hm' : zaw ρ sn st.hp 4 e = e':=by simpa using hm
    exact .inl ⟨q,hq,hq2,e,hs,by rw [hm']; exact zba.rfl' (hr e' he')⟩
theorem LeH {np : Nat} {st st' : St} (ρ : List (Nat × Nat)) (sn : List Nat) (hsz : st'.sz = st.sz:=by rfl) (hside : zo9 np st'.n ρ sn = true:=by rfl) (ht : ∀ p ∈ st'.t,Wk (conv ρ sn st.hp 4 (st.get p.1)) p.2:=by simp) (hh : ∀ p ∈ st'.h,∃ q ∈ ρ,q.2 = p.1 ∧ (st.hp q.1).map (zaw ρ sn st.hp 4) = p.2 ∧ ∀ e,p.2 = some e → e.ro ≤ e.rows.length:=by simp) : Le np st st':=Le.go ρ sn hsz hside ht hh
theorem LeI {np : Nat} {st st' : St} (ρ : List (Nat × Nat)) (sn : List Nat) (hsz : st'.sz = st.sz:=by rfl) (hside : zo9 np st'.n ρ sn = true:=by rfl) (ht : ∀ p ∈ st'.t,Wk (conv ρ sn st.hp 4 (st.get p.1)) p.2:=by simp) (hh : ∀ p ∈ st'.h,∃ q ∈ ρ,q.2 = p.1 ∧ (st.hp q.1).map (zaw ρ sn st.hp 4) = p.2 ∧ ∀ e,p.2 = some e → e.ro ≤ e.rows.length:=by simp [fcd]) : Le np st st':=Le.go ρ sn hsz hside ht hh
theorem Le.cut {np : Nat} {st : St} (live keep sn : List Nat) (n : Nat) (hside : zo9 np n (idm keep) sn = true) (hr : roOk keep st) : Le np st (cutS live keep sn n st):=by
 refine Le.go (idm keep) sn rfl hside (fun p hp=>?_) fun p hp=>?_
 ·obtain ⟨i,_,rfl⟩:=List.mem_map.1 hp
  exact .refl _
 ·obtain ⟨i,hi,rfl⟩:=List.mem_map.1 hp
  refine ⟨(i,i),List.mem_map.2 ⟨i,hi,rfl⟩,rfl,rfl,fun e he=>?_⟩
  simp only at he
  cases hs : st.hp i with
  | none=>rw [hs] at he; cases he
  | some e0 =>
    rw [hs] at he
    have he' : zaw (idm keep) sn st.hp 4 e0 = e:=by simpa using he
    subst he'
    have:=hr i hi e0 hs
    simpa [zaw] using this
theorem rx {P : Program} {np : Nat} {ops : List zbI} {Q : zcP → St → Prop} {sz n : Nat} {t : List (Nat × AV)} {h : List (Nat × Option Ent)} {af : List (List Nat)} {b : zdu} {s : St} (live keep sn : List Nat)
  (hd : ((ops.all fun o=>o.dst.all (· < sz)) && zo9 np (n + 8 * ops.length) (idm keep) sn) = true) (ho : zbh P np n 0 ops ⟨sz,t,h,n⟩ [] fun st' _=>roOk keep st' ∧ cutS live keep sn (n + 8 * ops.length) st' = s) (hq : awp P np b Q s) : awp P np (.seq (.reg false ops af) b) Q ⟨sz,t,h,n⟩:=by
 rw [Bool.and_eq_true] at hd
 refine zad s hd.1 (zch _ _ _ _ _ _ _ (fun st' _ hc=>?_) ho) hq
 obtain ⟨h1,rfl⟩:=hc
 exact Le.cut (st:=⟨st'.sz,st'.t,st'.h,n + 8 * ops.length⟩) live keep sn _ hd.2 h1
theorem rs {P : Program} {np : Nat} {ops : List zbI} {Q : zcP → St → Prop} {sz n : Nat} {t : List (Nat × AV)} {h : List (Nat × Option Ent)} {af : List (List Nat)} {b : zdu} {s : St} (live keep sn : List Nat) (hq : awp P np b Q s)
  (hd : ((ops.all fun o=>o.dst.all (· < sz)) && zo9 np (n + 8 * ops.length) (idm keep) sn) = true:=by rfl) (ho : zbh P np n 0 ops ⟨sz,t,h,n⟩ [] (fun st' _=>roOk keep st' ∧ cutS live keep sn (n + 8 * ops.length) st' = s):=by simp; rfl) : awp P np (.seq (.reg false ops af) b) Q ⟨sz,t,h,n⟩:=rx live keep sn hd ho hq
def cutK (live keep : List Nat) (n : Nat) (st : St) : St:=⟨st.sz,live.map (fun i=>(i,st.get i)),keep.map (fun i=>(i,st.hp i)),n⟩
theorem Le.cutk {np : Nat} {st : St} (live keep : List Nat) (n : Nat) (hn : st.n ≤ n) : Le np st (cutK live keep n st) :=
 Le.keep rfl hn (fun p hp=>by obtain ⟨i,_,rfl⟩:=List.mem_map.1 hp; rfl) fun p hp e he=>by
  obtain ⟨i,_,rfl⟩:=List.mem_map.1 hp
  exact he
theorem rk {P : Program} {np : Nat} {ops : List zbI} {Q : zcP → St → Prop} {sz n : Nat} {t : List (Nat × AV)} {h : List (Nat × Option Ent)} {af : List (List Nat)} {b : zdu} {s : St} (live keep : List Nat)
  (hd : (ops.all fun o=>o.dst.all (· < sz)) = true) (ho : zbh P np n 0 ops ⟨sz,t,h,n⟩ [] fun st' _=>cutK live keep (n + 8 * ops.length) st' = s) (hq : awp P np b Q s) : awp P np (.seq (.reg false ops af) b) Q ⟨sz,t,h,n⟩:=by
 refine zad s hd (zch _ _ _ _ _ _ _ (fun st' _ hc=>?_) ho) hq
 subst hc
 exact Le.cutk (st:=⟨st'.sz,st'.t,st'.h,n + 8 * ops.length⟩) live keep _ (Nat.le_refl _)
@[simp] theorem zAm : idm [] = []:=(rfl)
@[simp] theorem zyJ {i : Nat} {l : List Nat} : idm (i :: l) = (i,i) :: idm l:=(rfl)
@[simp] theorem zyH {st : St} : roOk [] st = True:=by simp [roOk]
@[simp] theorem zyp {i : Nat} {l : List Nat} {st : St} : roOk (i :: l) st = ((∀ e,st.hp i = some e → e.ro ≤ e.rows.length) ∧ roOk l st):=by simp [roOk]
@[simp] theorem zyD {live keep sn : List Nat} {n sz m : Nat} {t : List (Nat × AV)} {h : List (Nat × Option Ent)} : cutS live keep sn n ⟨sz,t,h,m⟩ = ⟨sz,live.map (fun i=>(i,conv (idm keep) sn (St.mk sz t h m).hp 4 ((St.mk sz t h m).get i))),keep.map (fun i=>(i,((St.mk sz t h m).hp i).map (zaw (idm keep) sn (St.mk sz t h m).hp 4))),n⟩:=(rfl)
@[simp] theorem zyN {live keep : List Nat} {n sz m : Nat} {t : List (Nat × AV)} {h : List (Nat × Option Ent)} : cutK live keep n ⟨sz,t,h,m⟩ = ⟨sz,live.map (fun i=>(i,(St.mk sz t h m).get i)),keep.map (fun i=>(i,(St.mk sz t h m).hp i)),n⟩:=(rfl)
end Go.Proofs.YtklclphfcibagaaGreat
