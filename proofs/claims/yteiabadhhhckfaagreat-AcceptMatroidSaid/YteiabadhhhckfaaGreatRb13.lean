/- Texts of this claim,merged. -/
import Derived.Test.YteiabadhhhckfaaGreatRb12
import Derived.Test.YteiabadhhhckfaaGreatRb11
set_option linter.unusedSimpArgs false
set_option linter.unusedVariables false
set_option linter.unusedSectionVars false
namespace Go.Proofs.YteiabadhhhckfaaGreat
open Go
structure MSt where
 j : Nat
 v : Int
def zlG (A : List Ed) (f : List Int) (l : List Stp) (j : Nat) (v : Int) : Prop:=∀ t ∈ l.drop j,v ≤ za8 A f t
set_option maxRecDepth 100000 in
set_option maxHeartbeats 4000000 in
theorem zuf (N : Nat) (A : List Ed) (hn : za0 ⟨N,A⟩) :
  ∃ f : List Int,(zay N A f ∧ ∀ f',zay N A f' → valF A f' ≤ valF A f) ∧ zai Tryz.prog zhm [eN ⟨N,A⟩] [] (.tup [.rs 0 0 A.length,.I 0]) [some ⟨1,zag f,0⟩]:=by
 refine zoQ.acallsX (args:=[eN ⟨N,A⟩]) (hs:=[]) (fun f=>.tup [.rs 0 0 A.length,.I 0]) (fun f=>[some ⟨1,zag f,0⟩]) (fun f : List Int=>zay N A f ∧ ∀ f',zay N A f' → valF A f' ≤ valF A f) (Nat.le_of_ble_eq_true rfl) (Nat.le_of_ble_eq_true rfl) (fun _=>by simp) ?_
 show awp _ 0 _ _ ⟨112,[(0,eN ⟨N,A⟩)],[],16⟩
 have hno:=zeO hn
 have hchk:=zfY ⟨N,A⟩ (by have:=hn.2.2.1; simp only at this ⊢; omega)
 rw [if_pos hn] at hchk
 have hres:=fun f hf=>zo2 N A f hn hf
 obtain ⟨hn0,hn1,hal,hav⟩:=hn
 simp only at hn0 hn1 hal hav
 refine rx (s:=?s1) [1] [] [16] rfl ?o1 ?q1
 case o1=>simp; rfl
 refine zaa ?_
 refine rx (s:=?s2) [1,13] [] [] rfl ?o2 ?q2
 case o2=>simp; refine zal hchk (by simp) ?_; simp; rfl
 refine zac _ rfl (fun h3=>by cases h3) fun h3=>?_
 refine zae ?_
 refine zab ⟨112,[(1,.pv (nC ⟨N,A⟩)),(4,.rs 88 0 A.length)],[(88,some ⟨1,zag (A.map fun _=>0),0⟩)],104⟩ rfl ?_ ?_
 ·simp
  refine ⟨by omega,by omega,?_⟩
  exact Le.go [(88,88)] [] rfl rfl (by simp) (by simp [List.map_const',fcd])
 refine zaf ?_
 refine zap (ι:=List Int) (fun f=>⟨112,[(1,.pv (nC ⟨N,A⟩)),(4,.rs 88 0 A.length)],[(88,some ⟨1,zag f,0⟩)],104⟩) (fun f=>zay N A f) (fun f=>(capS (fun x=>decide (x = 0)) A - valF A f).toNat) (A.map fun _=>0) (zgB hno) (Le.go [(88,88)] [] rfl rfl (by simp) (by simp [fcd])) ?_
 intro f hf
 have hfl:=hf.fit.len
 obtain ⟨⟨D,b⟩,⟨hb,hcl⟩,hcall⟩:=hres f hfl
 simp only at hb hcl hcall
 have hblen:=hb.len
 have htake : ∀ g : Int → List AV,List.take A.length (List.map g f) = List.map g f:=fun g=>List.take_of_length_le (by simp; omega)
 refine zaf ?_
 refine zab ⟨112,[(1,.pv (nC ⟨N,A⟩)),(4,.rs 88 0 A.length),(5,.rs 90 0 N)],[(88,some ⟨1,zag f,0⟩),(90,some ⟨1,zag b,0⟩)],200⟩ rfl ?_ ?_
 ·simp
  refine zkQ [88] hcall (by simp [fcd,htake,hfl]) (.rs _ _ _) zsc ?_
  simp
  exact Le.go [(88,88),(120,90)] [] rfl rfl (by simp) (by simp [fcd])
 obtain ⟨y1,hy1⟩ : ∃ y,y = b.getD 1 0:=⟨_,rfl⟩
 have hb1 : b[1]? = some y1:=by rw [hy1,List.getD_eq_getElem?_getD,List.getElem?_eq_getElem (by omega),Option.getD_some]
 refine zaa ?_
 refine zab ⟨112,[(1,.pv (nC ⟨N,A⟩)),(4,.rs 88 0 A.length),(5,.rs 90 0 N),(24,.B (y1 == 0))],[(88,some ⟨1,zag f,0⟩),(90,some ⟨1,zag b,0⟩)],300⟩ rfl ?_ ?_
 ·have h1N : (1 : Int) < N:=by omega
  simp [hb1,h1N]
  exact Le.go [(88,88),(90,90)] [] rfl rfl (by simp) (by simp [fcd])
 have hcode : ∀ k : Nat,k < N → b[k]? = some (b.getD k 0):=fun k hk=>by rw [List.getD_eq_getElem?_getD,List.getElem?_eq_getElem (by omega),Option.getD_some]
 refine zac _ rfl (fun h8=>?_) fun h8=>?_
 ·simp at h8
  refine zab ⟨112,[(2,.rs 88 0 A.length),(3,.I 0)],[(88,some ⟨1,zag f,0⟩)],400⟩ rfl ?_ ?_
  ·simp
   exact Le.go [(88,88)] [] rfl rfl (by simp) (by simp [fcd])
  have h1D : (1 : Int) ∉ D:=fun hm=>by
   have h2:=hb.inn 1 hm (by decide)
   exact h2 (by rw [show b.getD (Int.toNat 1) 0 = y1 from hy1.symm,h8])
  refine zah ?_
  exact zib.mk (.inr rfl) f ⟨hf,(zgv hno hf hb.mem0 h1D hcl).2⟩ (zam.out [88] [] rfl (by simp) (by simp) (by simp) (by simp [fcd]))
 simp at h8
 have h1D : (1 : Int) ∈ D:=Decidable.byContradiction fun hm=>h8 (by rw [hy1]; exact hb.out 1 (by decide) hm)
 obtain ⟨l,hl⟩:=hb.chain h1D
 have hle:=znE hl.way
 have hfit:=zcG.1 hf.fit
 have hlr : ∀ s ∈ l,s.1 < f.length:=fun s hs=>by
  obtain ⟨i,hi,rfl⟩:=List.mem_iff_getElem.1 hs
  have:=(hl.at_ i hi).1
  omega
 have hl0 : 0 < l.length:=by
  cases hll : l with
  | nil=>rw [hll] at hle; cases hle
  | cons=>simp
 refine zae ?_
 refine zab ⟨112,[(1,.pv (nC ⟨N,A⟩)),(4,.rs 88 0 A.length),(5,.rs 90 0 N),(6,.I 1048576)],[(88,some ⟨1,zag f,0⟩),(90,some ⟨1,zag b,0⟩)],400⟩ rfl ?_ ?_
 ·simp
  exact Le.go [(88,88),(90,90)] [] rfl rfl (by simp) (by simp [fcd])
 refine zaH (ι:=Int) (fun v=>⟨112,[(1,.pv (nC ⟨N,A⟩)),(4,.rs 88 0 A.length),(5,.rs 90 0 N),(6,.I v)],[(88,some ⟨1,zag f,0⟩),(90,some ⟨1,zag b,0⟩)],600⟩) (fun v=>1 ≤ v ∧ v ≤ 1048576 ∧ zlG A f l 0 v) ?_ fun v hv=>?_
 ·refine zab ⟨112,[(1,.pv (nC ⟨N,A⟩)),(4,.rs 88 0 A.length),(5,.rs 90 0 N),(6,.I 1048576),(7,.I 1)],[(88,some ⟨1,zag f,0⟩),(90,some ⟨1,zag b,0⟩)],500⟩ rfl ?_ ?_
  ·simp
   exact Le.go [(88,88),(90,90)] [] rfl rfl (by simp) (by simp [fcd])
  refine zaf ?_
  refine zap (ι:=MSt) (fun s=>⟨112,[(1,.pv (nC ⟨N,A⟩)),(4,.rs 88 0 A.length),(5,.rs 90 0 N),(6,.I s.v),(7,.I (endW A 0 l s.j))],[(88,some ⟨1,zag f,0⟩),(90,some ⟨1,zag b,0⟩)],600⟩)
   (fun s=>s.j ≤ l.length ∧ 1 ≤ s.v ∧ s.v ≤ 1048576 ∧ zlG A f l s.j s.v) (fun s=>s.j) ⟨l.length,1048576⟩ ⟨Nat.le_refl _,by simp,by simp,by simp [zlG]⟩ (Le.go [(88,88),(90,90)] [] rfl rfl (by simp [hle]) (by simp [fcd])) ?_
  rintro ⟨j,v⟩ ⟨hj,hv1,hv2,hv3⟩
  simp only at hj hv1 hv2 hv3
  refine zaa ?_
  refine rk (s:=?s12) [1,4,5,6,7,27] [88,90] rfl ?o12 ?q12
  case o12=>simp; rfl
  refine zac _ rfl (fun h13=>?_) fun h13=>?_
  ·simp at h13
   obtain ⟨i,rfl⟩ : ∃ i,j = i + 1:=by
    cases j with
    | zero=>exact absurd rfl h13
    | succ i=>exact ⟨i,rfl⟩
   have hi : i < l.length:=by omega
   obtain ⟨q1,q2,q3,q4,q5,q6⟩:=hl.at_ i hi
   have hfr:=hl.from_ i hi
   obtain ⟨s,hs⟩ : ∃ s,s = l[i]:=⟨_,rfl⟩
   have hk : endW A 0 l (i + 1) = stT A s:=by
    show stT A (l.getD i (0,false)) = _
    rw [List.getD_eq_getElem?_getD,List.getElem?_eq_getElem hi,hs]
    rfl
   have hvn : ∀ v' : Int,v' ≤ v → v' ≤ za8 A f s → zlG A f l i v':=fun v' h1 h2 t ht=>by
    rw [List.drop_eq_getElem_cons hi,← hs] at ht
    rcases List.mem_cons.1 ht with rfl | ht
    ·exact h2
    ·exact Int.le_trans h1 (hv3 t ht)
   rw [← hs] at q1 q2 q3 q4 q5 q6 hfr
   rw [hk]
   obtain ⟨k,hkd⟩ : ∃ k,k = stT A s:=⟨_,rfl⟩
   rw [← hkd] at q4 q5 q6 ⊢
   have hbk:=hcode k.toNat (by omega)
   obtain ⟨x,hx⟩ : ∃ x,x = encS s:=⟨_,rfl⟩
   rw [q6,← hx] at hbk
   refine zae ?_
   refine zaf ?_
   refine rk (s:=?s14) [1,4,5,6,8] [88,90] rfl ?o14 ?q14
   case o14=>simp [hbk,q4,q5]; rfl
   have hfa:=hfit.2 s.1 q1
   have heo:=hav _ (zdl q1)
   obtain ⟨e,he⟩ : ∃ e,e = arcD A s.1:=⟨_,rfl⟩
   obtain ⟨w,hw⟩ : ∃ w,w = f.getD s.1 0:=⟨_,rfl⟩
   have hg1 : A[s.1]? = some e:=by rw [he]; unfold arcD; rw [List.getD_eq_getElem?_getD,List.getElem?_eq_getElem q1,Option.getD_some]
   have hg2 : f[s.1]? = some w:=by rw [hw,List.getD_eq_getElem?_getD,List.getElem?_eq_getElem (by omega),Option.getD_some]
   rw [← he,← hw] at hfa
   rw [← he] at heo
   obtain ⟨e1,e2,e3,e4,e5,e6,e7,e8,e9⟩:=heo
   obtain ⟨a,c⟩:=s
   simp only at q1 hg1 hg2 he hw
   have hal' : a < A.length:=q1
   have ha0 : (0 : Int) ≤ a ∧ (a : Int) < A.length:=by omega
   have hafl : a < f.length:=by omega
   have hAe : A[a] = e:=by rw [List.getElem?_eq_getElem hal'] at hg1; exact Option.some.inj hg1
   have hfw : f[a] = w:=by rw [List.getElem?_eq_getElem hafl] at hg2; exact Option.some.inj hg2
   cases c with
   | false =>
     have hen : encS (a,false) = (a : Int) + 1:=rfl
     have hro : za8 A f (a,false) = e.v - w:=by unfold za8; simp [he,hw]
     have hst : stF A (a,false) = e.f:=by unfold stF; simp [he]
     rw [hen] at hx
     rw [hst] at hfr
     rw [hro] at q2 hvn
     have hw1 : IntKind.i64.wrap (x - 1) = (a : Int):=by rw [w64 (by omega) (by omega)]; omega
     have hw2 : IntKind.i64.wrap (e.v - w) = e.v - w:=w64 (by omega) (by omega)
     refine rk (s:=?s15) [1,4,5,6,8,33] [88,90] rfl ?o15 ?q15
     case o15=>simp; rfl
     refine zac _ rfl (fun h16=>?_) fun h16=>?_
     ·refine zbm rfl ?_
      simp [hw1,hw2,ha0,hal',hafl,hAe,hfw]
      refine ⟨rfl,⟨i,if e.v - w < v then e.v - w else v⟩,⟨by simp only; omega,by simp only; split <;> omega,by simp only; split <;> omega,hvn (if e.v - w < v then e.v - w else v) (by split <;> omega) (by split <;> omega)⟩,Nat.lt_succ_self i,Le.go [(88,88),(90,90)] [] rfl rfl (by simp [hfr]) (by simp [fcd])⟩
     ·simp at h16
      omega
   | true =>
     have hen : encS (a,true) = -((a : Int) + 1):=rfl
     have hro : za8 A f (a,true) = w:=by unfold za8; simp [hw]
     have hst : stF A (a,true) = e.t:=by unfold stF; simp [he]
     rw [hen] at hx
     rw [hst] at hfr
     rw [hro] at q2 hvn
     have hw0 : IntKind.i64.wrap (-x) = (a : Int) + 1:=by rw [w64 (by omega) (by omega)]; omega
     have hw1 : IntKind.i64.wrap (a : Int) = (a : Int):=w64 (by omega) (by omega)
     refine rk (s:=?s25) [1,4,5,6,8,33] [88,90] rfl ?o25 ?q25
     case o25=>simp; rfl
     refine zac _ rfl (fun h16=>?_) fun h16=>?_
     ·simp at h16
      omega
     ·refine zbm rfl ?_
      simp [hw0,hw1,ha0,hal',hafl,hAe,hfw]
      refine ⟨rfl,⟨i,if w < v then w else v⟩,⟨by simp only; omega,by simp only; split <;> omega,by simp only; split <;> omega,hvn (if w < v then w else v) (by split <;> omega) (by split <;> omega)⟩,Nat.lt_succ_self i,Le.go [(88,88),(90,90)] [] rfl rfl (by simp [hfr]) (by simp [fcd])⟩
  simp at h13
  obtain rfl : j = 0:=by
   cases j with
   | zero=>rfl
   | succ i =>
     have h2:=(hl.at_ i (by omega)).2.2.1
     refine absurd ?_ h2
     have h3 : endW A 0 l (i + 1) = stT A (l.getD i (0,false)):=rfl
     rw [h3,List.getD_eq_getElem?_getD,List.getElem?_eq_getElem (by omega)] at h13
     exact h13
  refine zan ?_
  refine hit ?_
  exact ⟨v,⟨hv1,hv2,hv3⟩,Le.go [(88,88),(90,90)] [] rfl rfl (by simp) (by simp [fcd])⟩
 obtain ⟨hv1,hv2,hv3⟩:=hv
 have hv3' : ∀ s ∈ l,v ≤ za8 A f s:=fun s hs=>hv3 s (by simpa using hs)
 obtain ⟨hf2,hval⟩:=hl.push hno hf (by omega) hv3'
 have hbnd:=zdt (S:=fun x=>decide (x = 0)) hno hf2 (by simp) (by simp)
 refine zab ⟨112,[(1,.pv (nC ⟨N,A⟩)),(4,.rs 88 0 A.length),(5,.rs 90 0 N),(6,.I v),(9,.I 1)],[(88,some ⟨1,zag f,0⟩),(90,some ⟨1,zag b,0⟩)],700⟩ rfl ?_ ?_
 ·simp
  exact Le.go [(88,88),(90,90)] [] rfl rfl (by simp) (by simp [fcd])
 refine zaf ?_
 refine zap (ι:=Nat) (fun j=>⟨112,[(1,.pv (nC ⟨N,A⟩)),(4,.rs 88 0 A.length),(5,.rs 90 0 N),(6,.I v),(9,.I (endW A 0 l j))],[(88,some ⟨1,zag (zdi v f l j),0⟩),(90,some ⟨1,zag b,0⟩)],800⟩)
  (fun j=>j ≤ l.length) (fun j=>j) l.length (Nat.le_refl _) (Le.go [(88,88),(90,90)] [] rfl rfl (by simp [hle]) (by simp [fcd,zmM])) ?_
 intro j hj
 refine zaa ?_
 refine zab ⟨112,[(1,.pv (nC ⟨N,A⟩)),(4,.rs 88 0 A.length),(5,.rs 90 0 N),(6,.I v),(9,.I (endW A 0 l j)),(73,.B (!decide (endW A 0 l j = 0)))],[(88,some ⟨1,zag (zdi v f l j),0⟩),(90,some ⟨1,zag b,0⟩)],900⟩ rfl ?_ ?_
 ·simp
  exact Le.go [(88,88),(90,90)] [] rfl rfl (by simp <;> exact wkB (by rw [Bool.eq_iff_iff]; simp)) (by simp [fcd])
 refine zac _ rfl (fun h19=>?_) fun h19=>?_
 ·simp at h19
  obtain ⟨i,rfl⟩ : ∃ i,j = i + 1:=by
   cases j with
   | zero=>exact absurd rfl h19
   | succ i=>exact ⟨i,rfl⟩
  have hi : i < l.length:=by omega
  obtain ⟨q1,q2,q3,q4,q5,q6⟩:=hl.at_ i hi
  have hfr:=hl.from_ i hi
  have hstep:=zkr (v:=v) (f:=f) i hi
  have hget:=zlU (v:=v) hl.nodup hlr i hi
  have hroom:=hv3' _ (List.getElem_mem hi)
  obtain ⟨s,hs⟩ : ∃ s,s = l[i]:=⟨_,rfl⟩
  have hk : endW A 0 l (i + 1) = stT A s:=by
   show stT A (l.getD i (0,false)) = _
   rw [List.getD_eq_getElem?_getD,List.getElem?_eq_getElem hi,hs]
   rfl
  rw [← hs] at q1 q2 q3 q4 q5 q6 hfr hstep hget hroom
  rw [hk]
  obtain ⟨k,hkd⟩ : ∃ k,k = stT A s:=⟨_,rfl⟩
  rw [← hkd] at q4 q5 q6 ⊢
  have hbk:=hcode k.toNat (by omega)
  obtain ⟨x,hx⟩ : ∃ x,x = encS s:=⟨_,rfl⟩
  rw [q6,← hx] at hbk
  have hFl : (zdi v f l (i + 1)).length = A.length:=by rw [zlR,hfl]
  obtain ⟨F,hF⟩ : ∃ F,F = zdi v f l (i + 1):=⟨_,rfl⟩
  rw [← hF] at hFl hget hstep ⊢
  have hfa:=hfit.2 s.1 q1
  have heo:=hav _ (zdl q1)
  obtain ⟨e,he⟩ : ∃ e,e = arcD A s.1:=⟨_,rfl⟩
  obtain ⟨w,hw⟩ : ∃ w,w = f.getD s.1 0:=⟨_,rfl⟩
  have hg1 : A[s.1]? = some e:=by rw [he]; unfold arcD; rw [List.getD_eq_getElem?_getD,List.getElem?_eq_getElem q1,Option.getD_some]
  have hg2 : F[s.1]? = some w:=by rw [hw,← hget,List.getD_eq_getElem?_getD,List.getElem?_eq_getElem (by omega),Option.getD_some]
  rw [← he,← hw] at hfa
  rw [← he] at heo
  obtain ⟨e1,e2,e3,e4,e5,e6,e7,e8,e9⟩:=heo
  obtain ⟨a,c⟩:=s
  simp only at q1 hg1 hg2 he hw
  have hal' : a < A.length:=q1
  have ha0 : (0 : Int) ≤ a ∧ (a : Int) < A.length:=by omega
  have hafl : a < F.length:=by omega
  have hAe : A[a] = e:=by rw [List.getElem?_eq_getElem hal'] at hg1; exact Option.some.inj hg1
  have hfw : F[a] = w:=by rw [List.getElem?_eq_getElem hafl] at hg2; exact Option.some.inj hg2
  have hset : zdi v f l i = F.set a (w + if c then -v else v):=by rw [hstep]; unfold zf6; simp only [hget]; rw [hw]
  refine zae ?_
  refine zaf ?_
  refine zab ⟨112,[(1,.pv (nC ⟨N,A⟩)),(4,.rs 88 0 A.length),(5,.rs 90 0 N),(6,.I v),(10,.I x)],[(88,some ⟨1,zag F,0⟩),(90,some ⟨1,zag b,0⟩)],1000⟩ rfl ?_ ?_
  ·simp [hbk,q4,q5]
   exact Le.go [(88,88),(90,90)] [] rfl rfl (by simp) (by simp [fcd])
  refine zab ⟨112,[(1,.pv (nC ⟨N,A⟩)),(4,.rs 88 0 A.length),(5,.rs 90 0 N),(6,.I v),(10,.I x),(79,.B (decide (0 < x)))],[(88,some ⟨1,zag F,0⟩),(90,some ⟨1,zag b,0⟩)],1100⟩ rfl ?_ ?_
  ·simp
   exact Le.go [(88,88),(90,90)] [] rfl rfl (by simp) (by simp [fcd])
  cases c with
  | false =>
    have hen : encS (a,false) = (a : Int) + 1:=rfl
    have hro : za8 A f (a,false) = e.v - w:=by unfold za8; simp [he,hw]
    have hst : stF A (a,false) = e.f:=by unfold stF; simp [he]
    rw [hen] at hx
    rw [hst] at hfr
    rw [hro] at hroom
    have hw1 : IntKind.i64.wrap (x - 1) = (a : Int):=by rw [w64 (by omega) (by omega)]; omega
    have hw2 : IntKind.i64.wrap (w + v) = w + v:=w64 (by omega) (by omega)
    refine zac _ rfl (fun h16=>?_) fun h16=>?_
    ·refine zab ⟨112,[(1,.pv (nC ⟨N,A⟩)),(4,.rs 88 0 A.length),(5,.rs 90 0 N),(6,.I v),(10,.I x)],[(88,some ⟨1,zag (F.set a (w + v)),0⟩),(90,some ⟨1,zag b,0⟩)],1300⟩ rfl ?_ ?_
     ·simp [hw1,hw2,ha0,hal',hafl,hAe,hfw,zaU]
      exact Le.go [(88,88),(90,90)] [] rfl rfl (by simp) (by simp [fcd])
     refine zau rfl ?_
     simp [hw1,ha0,hal',hAe]
     exact ⟨i,by omega,by omega,Le.go [(88,88),(90,90)] [] rfl rfl (by simp [hfr]) (by simp [fcd,hset])⟩
    ·simp at h16
     omega
  | true =>
    have hen : encS (a,true) = -((a : Int) + 1):=rfl
    have hro : za8 A f (a,true) = w:=by unfold za8; simp [hw]
    have hst : stF A (a,true) = e.t:=by unfold stF; simp [he]
    rw [hen] at hx
    rw [hst] at hfr
    rw [hro] at hroom
    have hw0 : IntKind.i64.wrap (-x) = (a : Int) + 1:=by rw [w64 (by omega) (by omega)]; omega
    have hw1 : IntKind.i64.wrap (a : Int) = (a : Int):=w64 (by omega) (by omega)
    have hw2 : IntKind.i64.wrap (w - v) = w + -v:=by rw [w64 (by omega) (by omega)]; omega
    refine zac _ rfl (fun h16=>?_) fun h16=>?_
    ·simp at h16
     omega
    ·refine zab ⟨112,[(1,.pv (nC ⟨N,A⟩)),(4,.rs 88 0 A.length),(5,.rs 90 0 N),(6,.I v),(10,.I x)],[(88,some ⟨1,zag (F.set a (w + -v)),0⟩),(90,some ⟨1,zag b,0⟩)],1300⟩ rfl ?_ ?_
     ·simp [hw0,hw1,hw2,ha0,hal',hafl,hAe,hfw,zaU]
      exact Le.go [(88,88),(90,90)] [] rfl rfl (by simp) (by simp [fcd])
     refine zau rfl ?_
     simp [hw0,hw1,ha0,hal',hAe]
     exact ⟨i,by omega,by omega,Le.go [(88,88),(90,90)] [] rfl rfl (by simp [hfr]) (by simp [fcd,hset])⟩
 simp at h19
 obtain rfl : j = 0:=by
  cases j with
  | zero=>rfl
  | succ i =>
    have h2:=(hl.at_ i (by omega)).2.2.1
    refine absurd ?_ h2
    have h3 : endW A 0 l (i + 1) = stT A (l.getD i (0,false)):=rfl
    rw [h3,List.getD_eq_getElem?_getD,List.getElem?_eq_getElem (by omega)] at h19
    exact h19
 refine zan ?_
 refine hit ?_
 exact ⟨zdi v f l 0,hf2,by rw [hval]; omega,Le.go [(88,88)] [] rfl rfl (by simp) (by simp [fcd])⟩
theorem zoq : toAV (Value.agg #[Value.int IntKind.i64 0,Value.bool false]) = .agg [.sc (.int .i64 0),.sc (.bool false)]:=by simp [toAV,Value.oneCell']
theorem ztq {a b : Int} : Plain (.tup [.I a,.I b]):=.tup _ fun i=>match i with
 | 0=>.sc _
 | 1=>.sc _
 | _ + 2=>.dead
structure ztN where
 j : Nat
 v : Int
def wayB (l : List Stp) (j : Nat) : List Stp:=(l.drop j).reverse
theorem zop (l : List Stp) (j : Nat) : (wayB l j).length = l.length - j:=by simp [wayB]
theorem zp7 {l : List Stp} {j : Nat} (h : j < l.length) : wayB l j = wayB l (j + 1) ++ [l[j]]:=by
 unfold wayB
 rw [List.drop_eq_getElem_cons h,List.reverse_cons]
theorem zrs (l : List Stp) : wayB l l.length = []:=by simp [wayB]
theorem zo3 {N : Nat} {A : List Ed} {f D b : List Int} {l : List Stp} (hb : Bfs N A f D b) (hl : zkz N A f b l) {j : Nat} (hj : j < l.length) : camF D b (stT A l[j]) = some (zpC l[j]):=by
 obtain ⟨q1,q2,q3,q4,q5,q6⟩:=hl.at_ j hj
 have hD : stT A l[j] ∈ D:=Decidable.byContradiction fun h=>zr4 l[j] (by rw [← q6]; exact hb.out _ q4 h)
 unfold camF
 rw [if_pos hD,if_neg q3,q6,znY]
set_option maxRecDepth 100000 in
set_option maxHeartbeats 8000000 in
theorem ztb (N : Nat) (A : List Ed) (f : List Int) (hn : za0 ⟨N,A⟩) (hf : zay N A f) :
  ∃ x : Bool × List Int,(if x.1 then zay N A x.2 ∧ valF A f + 1 ≤ valF A x.2 else x.2 = f ∧ ∀ f',zay N A f' → valF A f' ≤ valF A f) ∧ zai Tryz.prog zco [eR N A (.rs 0 0 A.length)] [⟨1,zag f,0⟩] (.B x.1) [some ⟨1,zag x.2,0⟩]:=by
 refine zga.acallsX (args:=[eR N A (.rs 0 0 A.length)]) (hs:=[⟨1,zag f,0⟩]) (fun x=>.B x.1) (fun x=>[some ⟨1,zag x.2,0⟩]) (fun x : Bool × List Int=>if x.1 then zay N A x.2 ∧ valF A f + 1 ≤ valF A x.2 else x.2 = f ∧ ∀ f',zay N A f' → valF A f' ≤ valF A f) (Nat.le_of_ble_eq_true rfl) (Nat.le_of_ble_eq_true rfl) (fun _=>by simp) ?_
 show awp _ 1 _ _ ⟨86,[(0,eR N A (.rs 0 0 A.length))],[(0,some ⟨1,zag f,0⟩)],16⟩
 have hno:=zeO hn
 have hfl:=hf.fit.len
 have hfit:=zcG.1 hf.fit
 obtain ⟨⟨D,b,R⟩,⟨hb,hcl,hR⟩,hcall⟩:=zoE N A f hn hf.fit
 simp only at hb hcl hR hcall
 have hroom:=fun s hs=>zp0 N A f s hn hf.fit hs
 obtain ⟨hn0,hn1,hal,hav⟩:=hn
 simp only at hn0 hn1 hal hav
 have htake : ∀ g : Int → List AV,List.take A.length (List.map g f) = List.map g f:=fun g=>List.take_of_length_le (by simp; omega)
 have hfind:=hR.is.find
 have hsome:=zgl D b 1
 refine zab ⟨86,[(1,.pt 16 0 0)],[(0,some ⟨1,zag f,0⟩),(16,some ⟨4,[rC N A (.rs 0 0 A.length)],0⟩)],32⟩ rfl ?_ ?_
 ·simp
  exact Le.go [(0,0),(16,16)] [] rfl rfl (by simp) (by simp [fcd])
 refine zab ⟨86,[(1,.pt 16 0 0),(3,.mp 60)],[(0,some ⟨1,zag f,0⟩),(16,some ⟨4,[rC N A (.rs 0 0 A.length)],0⟩),(60,some ⟨0,R,0⟩)],100⟩ rfl ?_ ?_
 ·simp
  refine zkQ [0] hcall (by simp [fcd,htake,hfl]) (.mp _) (hR.plain _ _) ?_
  simp
  exact Le.go [(0,0),(16,16),(40,60)] [] rfl rfl (by simp) (by simp [fcd,hR.conv'])
 refine zaa ?_
 have hgd : ∃ u v,(camF D b 1).getD (toAV (Value.agg #[Value.int IntKind.i64 0,Value.bool false])) = .agg [.sc u,.sc v]:=by
  cases hc : camF D b 1 with
  | none=>exact ⟨_,_,zoq⟩
  | some x =>
    obtain ⟨u,v,rfl⟩:=ze6 _ _ _ _ hc
    exact ⟨u,v,rfl⟩
 refine zab ⟨86,[(1,.pt 16 0 0),(3,.mp 60),(5,.B (decide ((1 : Int) ∈ D)))],[(0,some ⟨1,zag f,0⟩),(16,some ⟨4,[rC N A (.rs 0 0 A.length)],0⟩),(60,some ⟨0,R,0⟩)],200⟩ rfl ?_ ?_
 ·obtain ⟨u,v,huv⟩:=hgd
  simp [hfind,hsome,huv]
  exact Le.go [(0,0),(16,16),(60,60)] [] rfl rfl (by simp) (by simp [fcd,hR.conv'])
 refine zab ⟨86,[(1,.pt 16 0 0),(3,.mp 60),(22,.B (!decide ((1 : Int) ∈ D)))],[(0,some ⟨1,zag f,0⟩),(16,some ⟨4,[rC N A (.rs 0 0 A.length)],0⟩),(60,some ⟨0,R,0⟩)],300⟩ rfl ?_ ?_
 ·simp
  exact Le.go [(0,0),(16,16),(60,60)] [] rfl rfl (by simp) (by simp [fcd,hR.conv'])
 refine zac _ rfl (fun h5=>?_) fun h5=>?_
 ·have h1D : (1 : Int) ∉ D:=by simpa using h5
  refine zab ⟨86,[(2,.B false)],[(0,some ⟨1,zag f,0⟩)],400⟩ rfl ?_ ?_
  ·simp
   exact Le.go [(0,0)] [] rfl rfl (by simp) (by simp [fcd])
  refine zah ?_
  exact zib.mk (.inr rfl) (false,f) ⟨rfl,(zgv hno hf hb.mem0 h1D hcl).2⟩ (zam.k1 rfl (by simp) (by simp [fcd]))
 have h1D : (1 : Int) ∈ D:=by simpa using h5
 obtain ⟨l,hl⟩:=hb.chain h1D
 have hle:=znE hl.way
 have hlr : ∀ s ∈ l,s.1 < f.length:=fun s hs=>by
  obtain ⟨i,hi,rfl⟩:=List.mem_iff_getElem.1 hs
  have:=(hl.at_ i hi).1
  omega
 have hl0 : 0 < l.length:=by
  cases hll : l with
  | nil=>rw [hll] at hle; cases hle
  | cons=>simp
 have hlA : l.length ≤ A.length:=by
  have:=zbc (a:=l.map fun s=>(s.1 : Int)) (b:=(List.range A.length).map fun i : Nat=>(i : Int)) (by
   have:=hl.nodup
   have e : (l.map fun s=>(s.1 : Int)) = (l.map (·.1)).map fun i : Nat=>(i : Int):=by simp
   rw [e]
   exact zdu (fun i j h=>by have h2 : (i : Int) = j:=h; omega) this) fun x hx=>by
   obtain ⟨s,hs,rfl⟩:=List.mem_map.1 hx
   exact List.mem_map.2 ⟨s.1,List.mem_range.2 (by have:=hlr s hs; omega),rfl⟩
  rw [List.length_map,List.length_map,List.length_range] at this
  exact this
 have hcam:=fun j (hj : j < l.length)=>zo3 hb hl hj
 refine zae ?_
 refine zab ⟨86,[(1,.pt 16 0 0),(3,.mp 60),(6,.rs 61 0 0)],[(0,some ⟨1,zag f,0⟩),(16,some ⟨4,[rC N A (.rs 0 0 A.length)],0⟩),(60,some ⟨0,R,0⟩),(61,some ⟨2,[],0⟩)],400⟩ rfl ?_ ?_
 ·simp
  refine Le.lst [(0,0),(16,16),(60,60)] [] [(61,2)] rfl (by simp) (by simp) (by simp) (by simp) (by simp) (by simp) (by simp) (by simp [Up]) ?_
  simp [fcd,hR.conv']
  exact ⟨zaF.rfl' (Nat.zero_le _),zaF.rfl' (Nat.zero_le _),zaF.rfl' (Nat.zero_le _)⟩
 refine zab ⟨86,[(1,.pt 16 0 0),(3,.mp 60),(6,.rs 61 0 0),(7,.I 1048576)],[(0,some ⟨1,zag f,0⟩),(16,some ⟨4,[rC N A (.rs 0 0 A.length)],0⟩),(60,some ⟨0,R,0⟩),(61,some ⟨2,[],0⟩)],500⟩ rfl ?_ ?_
 ·simp
  exact Le.go [(0,0),(16,16),(60,60),(61,61)] [] rfl rfl (by simp) (by simp [fcd,hR.conv'])
 refine zaH (ι:=Int) (fun v=>⟨86,[(1,.pt 16 0 0),(6,.rs 61 0 l.length),(7,.I v)],[(0,some ⟨1,zag f,0⟩),(16,some ⟨4,[rC N A (.rs 0 0 A.length)],0⟩),(61,some ⟨2,(wayB l 0).map zbp,0⟩)],600⟩) (fun v=>1 ≤ v ∧ v ≤ 1048576 ∧ zlG A f l 0 v) ?_ fun v hv=>?_
 ·refine zab ⟨86,[(1,.pt 16 0 0),(3,.mp 60),(6,.rs 61 0 0),(7,.I 1048576),(8,.I 1)],[(0,some ⟨1,zag f,0⟩),(16,some ⟨4,[rC N A (.rs 0 0 A.length)],0⟩),(60,some ⟨0,R,0⟩),(61,some ⟨2,[],0⟩)],600⟩ rfl ?_ ?_
  ·simp
   exact Le.go [(0,0),(16,16),(60,60),(61,61)] [] rfl rfl (by simp) (by simp [fcd,hR.conv'])
  refine zaf ?_
  refine zap (ι:=ztN) (fun s=>⟨86,[(1,.pt 16 0 0),(3,.mp 60),(6,.rs 61 0 (l.length - s.j)),(7,.I s.v),(8,.I (endW A 0 l s.j))],[(0,some ⟨1,zag f,0⟩),(16,some ⟨4,[rC N A (.rs 0 0 A.length)],0⟩),(60,some ⟨0,R,0⟩),(61,some ⟨2,(wayB l s.j).map zbp,0⟩)],600⟩)
   (fun s=>s.j ≤ l.length ∧ 1 ≤ s.v ∧ s.v ≤ 1048576 ∧ zlG A f l s.j s.v) (fun s=>s.j) ⟨l.length,1048576⟩ ⟨Nat.le_refl _,by simp,by simp,by simp [zlG]⟩ (Le.go [(0,0),(16,16),(60,60),(61,61)] [] rfl rfl (by simp [hle]) (by simp [fcd,hR.conv',zrs])) ?_
  rintro ⟨j,v⟩ ⟨hj,hv1,hv2,hv3⟩
  simp only at hj hv1 hv2 hv3
  refine zaa ?_
  refine zab ⟨86,[(1,.pt 16 0 0),(3,.mp 60),(6,.rs 61 0 (l.length - j)),(7,.I v),(8,.I (endW A 0 l j)),(24,.B (!decide (endW A 0 l j = 0)))],[(0,some ⟨1,zag f,0⟩),(16,some ⟨4,[rC N A (.rs 0 0 A.length)],0⟩),(60,some ⟨0,R,0⟩),(61,some ⟨2,(wayB l j).map zbp,0⟩)],700⟩ rfl ?_ ?_
  ·simp
   exact Le.go [(0,0),(16,16),(60,60),(61,61)] [] rfl rfl (by simp <;> exact wkB (by rw [Bool.eq_iff_iff]; simp)) (by simp [fcd,hR.conv'])
  refine zac _ rfl (fun h13=>?_) fun h13=>?_
  ·simp at h13
   obtain ⟨i,rfl⟩ : ∃ i,j = i + 1:=by
    cases j with
    | zero=>exact absurd rfl h13
    | succ i=>exact ⟨i,rfl⟩
   have hi : i < l.length:=by omega
   obtain ⟨q1,q2,q3,q4,q5,q6⟩:=hl.at_ i hi
   have hfr:=hl.from_ i hi
   have hca:=hcam i hi
   have hws:=zp7 hi
   have hwl:=zop l (i + 1)
   obtain ⟨s,hs⟩ : ∃ s,s = l[i]:=⟨_,rfl⟩
   have hk : endW A 0 l (i + 1) = stT A s:=by
    show stT A (l.getD i (0,false)) = _
    rw [List.getD_eq_getElem?_getD,List.getElem?_eq_getElem hi,hs]
    rfl
   have hvn : ∀ v' : Int,v' ≤ v → v' ≤ za8 A f s → zlG A f l i v':=fun v' h1 h2 t ht=>by
    rw [List.drop_eq_getElem_cons hi,← hs] at ht
    rcases List.mem_cons.1 ht with rfl | ht
    ·exact h2
    ·exact Int.le_trans h1 (hv3 t ht)
   rw [← hs] at q1 q2 q3 q4 q5 q6 hfr hca hws
   have hrm:=hroom s q1
   have hrmb : za8 A f s ≤ 1048576:=by
    have h1:=hfit.2 s.1 q1
    have h2:=(hav _ (zdl q1)).2.2.2.2.2.2.2.2
    unfold za8
    split <;> omega
   rw [hk]
   obtain ⟨k,hkd⟩ : ∃ k,k = stT A s:=⟨_,rfl⟩
   obtain ⟨rm,hrd⟩ : ∃ rm,rm = za8 A f s:=⟨_,rfl⟩
   obtain ⟨W,hW⟩ : ∃ W,W = wayB l (i + 1):=⟨_,rfl⟩
   rw [← hkd] at q3 q4 q5 q6 hca hrm ⊢
   rw [← hrd] at q2 hrm hrmb hvn
   rw [← hW] at hws hwl
   have hAe:=zmG q1
   have hlen : l.length - (i + 1) = W.length:=by omega
   rw [hlen,← hW]
   refine zae ?_
   refine zaf ?_
   refine zab ⟨86,[(1,.pt 16 0 0),(3,.mp 60),(6,.rs 61 0 W.length),(7,.I v),(9,.pv (zbp s))],[(0,some ⟨1,zag f,0⟩),(16,some ⟨4,[rC N A (.rs 0 0 A.length)],0⟩),(60,some ⟨0,R,0⟩),(61,some ⟨2,W.map zbp,0⟩)],800⟩ rfl ?_ ?_
   ·simp [hfind,hca,zpC]
    exact Le.go [(0,0),(16,16),(60,60),(61,61)] [724] rfl rfl (by simp) (by simp [fcd,hR.conv'])
   refine zab ⟨86,[(1,.pt 16 0 0),(3,.mp 60),(6,.rs 61 0 W.length),(7,.I v),(9,.pv (zbp s)),(10,.I rm)],[(0,some ⟨1,zag f,0⟩),(16,some ⟨4,[rC N A (.rs 0 0 A.length)],0⟩),(60,some ⟨0,R,0⟩),(61,some ⟨2,W.map zbp,0⟩)],900⟩ rfl ?_ ?_
   ·simp
    refine zeT [0] hrm (by simp [fcd,htake,hfl]) ztq ?_
    simp
    exact Le.go [(0,0),(16,16),(60,60),(61,61)] [] rfl rfl (by simp) (by simp [fcd,hR.conv'])
   refine zab ⟨86,[(1,.pt 16 0 0),(3,.mp 60),(6,.rs 62 0 (W.length + 1)),(7,.I (if rm < v then rm else v)),(9,.pv (zbp s))],[(0,some ⟨1,zag f,0⟩),(16,some ⟨4,[rC N A (.rs 0 0 A.length)],0⟩),(60,some ⟨0,R,0⟩),(62,some ⟨2,(W ++ [s]).map zbp,0⟩)],1000⟩ rfl ?_ ?_
   ·have hmw : ∀ g : Stp → List AV,List.take W.length (List.map g W) = List.map g W:=fun g=>List.take_of_length_le (by simp)
    simp [hmw]
    exact ⟨by omega,by omega,Le.go [(0,0),(16,16),(60,60),(924,62)] [] rfl rfl (by simp) (by simp [fcd,hR.conv'])⟩
   have hst : stF A s = if s.2 then (arcD A s.1).t else (arcD A s.1).f:=rfl
   have hqi : (s.1 : Int) < A.length:=by omega
   refine zab ⟨86,[(1,.pt 16 0 0),(3,.mp 60),(6,.rs 62 0 (W.length + 1)),(7,.I (if rm < v then rm else v)),(8,.I (arcD A s.1).f),(9,.pv (zbp s))],[(0,some ⟨1,zag f,0⟩),(16,some ⟨4,[rC N A (.rs 0 0 A.length)],0⟩),(60,some ⟨0,R,0⟩),(62,some ⟨2,(W ++ [s]).map zbp,0⟩)],1100⟩ rfl ?_ ?_
   ·have hAe' : A[s.1] = arcD A s.1:=by rw [List.getElem?_eq_getElem q1] at hAe; exact Option.some.inj hAe
    simp [q1,hAe']
    exact Le.go [(0,0),(16,16),(60,60),(62,62)] [] rfl rfl (by simp) (by simp [fcd,hR.conv'])
   refine zab ⟨86,[(1,.pt 16 0 0),(3,.mp 60),(6,.rs 62 0 (W.length + 1)),(7,.I (if rm < v then rm else v)),(8,.I (arcD A s.1).f),(9,.pv (zbp s)),(50,.B s.2)],[(0,some ⟨1,zag f,0⟩),(16,some ⟨4,[rC N A (.rs 0 0 A.length)],0⟩),(60,some ⟨0,R,0⟩),(62,some ⟨2,(W ++ [s]).map zbp,0⟩)],1200⟩ rfl ?_ ?_
   ·simp
    exact Le.go [(0,0),(16,16),(60,60),(62,62)] [] rfl rfl (by simp) (by simp [fcd,hR.conv'])
   have hwl2 : l.length - i = W.length + 1:=by omega
   have hinv : i ≤ l.length ∧ 1 ≤ (if rm < v then rm else v) ∧ (if rm < v then rm else v) ≤ 1048576 ∧ zlG A f l i (if rm < v then rm else v):=⟨by omega,by split <;> omega,by split <;> omega,hvn _ (by split <;> omega) (by split <;> omega)⟩
   refine zac _ rfl (fun h16=>?_) fun h16=>?_
   ·have hAe' : A[s.1] = arcD A s.1:=by rw [List.getElem?_eq_getElem q1] at hAe; exact Option.some.inj hAe
    rw [if_pos h16] at hst
    refine zau rfl ?_
    simp [q1,hAe']
    exact ⟨⟨i,if rm < v then rm else v⟩,hinv,Nat.lt_succ_self i,Le.go [(0,0),(16,16),(60,60),(62,61)] [] rfl rfl (by simp [hwl2,← hfr,hst]) (by simp [fcd,hR.conv',hws])⟩
   ·rw [if_neg (by simp [h16])] at hst
    refine zae ?_
    exact ⟨⟨i,if rm < v then rm else v⟩,hinv,Nat.lt_succ_self i,Le.go [(0,0),(16,16),(60,60),(62,61)] [] rfl rfl (by simp [hwl2,← hfr,hst]) (by simp [fcd,hR.conv',hws])⟩
  simp at h13
  obtain rfl : j = 0:=by
   cases j with
   | zero=>rfl
   | succ i =>
     have h2:=(hl.at_ i (by omega)).2.2.1
     refine absurd ?_ h2
     have h3 : endW A 0 l (i + 1) = stT A (l.getD i (0,false)):=rfl
     rw [h3,List.getD_eq_getElem?_getD,List.getElem?_eq_getElem (by omega)] at h13
     exact h13
  refine zan ?_
  refine hit ?_
  exact ⟨v,⟨hv1,hv2,hv3⟩,Le.go [(0,0),(16,16),(61,61)] [] rfl rfl (by simp) (by simp [fcd])⟩
 obtain ⟨hv1,hv2,hv3⟩:=hv
 have hv3' : ∀ s ∈ l,v ≤ za8 A f s:=fun s hs=>hv3 s (by simpa using hs)
 obtain ⟨hf2,hval⟩:=hl.push hno hf (by omega) hv3'
 have hWl:=zop l 0
 obtain ⟨W,hW⟩ : ∃ W,W = wayB l 0:=⟨_,rfl⟩
 rw [← hW] at hWl ⊢
 have hWl : l.length = W.length:=by omega
 refine zaa ?_
 refine zab ⟨86,[(1,.pt 16 0 0),(7,.I v),(59,.vs 2 false (W.map zbp)),(60,.I W.length),(61,.I 0)],[(0,some ⟨1,zag f,0⟩),(16,some ⟨4,[rC N A (.rs 0 0 A.length)],0⟩)],700⟩ rfl ?_ ?_
 ·have hmw : ∀ g : Stp → List AV,List.take W.length (List.map g W) = List.map g W:=fun g=>List.take_of_length_le (by simp)
  simp
  exact Le.go [(0,0),(16,16)] [61] rfl rfl (by simp [hWl,hmw,fcd]) (by simp [fcd])
 refine zaf ?_
 refine zap (ι:=Nat) (fun i=>⟨86,[(1,.pt 16 0 0),(7,.I v),(59,.vs 2 false (W.map zbp)),(60,.I W.length),(61,.I i)],[(0,some ⟨1,zag (zdi v f l (l.length - i)),0⟩),(16,some ⟨4,[rC N A (.rs 0 0 A.length)],0⟩)],700⟩) (fun i=>i ≤ W.length) (fun i=>W.length - i) 0 (Nat.zero_le _) (Le.go [(0,0),(16,16)] [] rfl rfl (by simp) (by simp [fcd,zmM])) ?_
 intro i hi
 have hFl0 : (zdi v f l (l.length - i)).length = A.length:=by rw [zlR,hfl]
 refine zab ⟨86,[(1,.pt 16 0 0),(7,.I v),(59,.vs 2 false (W.map zbp)),(60,.I W.length),(61,.I i),(62,.B (decide (i < W.length)))],[(0,some ⟨1,zag (zdi v f l (l.length - i)),0⟩),(16,some ⟨4,[rC N A (.rs 0 0 A.length)],0⟩)],800⟩ rfl ?_ ?_
 ·simp
  exact Le.go [(0,0),(16,16)] [] rfl rfl (by simp) (by simp [fcd])
 refine zaa ?_
 refine zac _ rfl (fun h20=>?_) fun h20=>?_
 ·simp at h20
  have hw1 : IntKind.i64.wrap ((i : Int) + 1) = (i : Int) + 1:=w64 (by omega) (by omega)
  obtain ⟨j,hj⟩ : ∃ j,l.length - i = j + 1:=⟨l.length - i - 1,by omega⟩
  have hjl : j < l.length:=by omega
  have hj2 : l.length - (i + 1) = j:=by omega
  have hWi : W[i] = l[j]:=by
   have : W[i]? = some l[j]:=by
    rw [hW]
    unfold wayB
    rw [List.drop_zero,List.getElem?_reverse (by omega),List.getElem?_eq_getElem (by omega)]
    congr 1
    congr 1
    omega
   rw [List.getElem?_eq_getElem h20] at this
   exact Option.some.inj this
  rw [hj] at hFl0 ⊢
  obtain ⟨q1,q2,q3,q4,q5,q6⟩:=hl.at_ j hjl
  have hstep:=zkr (v:=v) (f:=f) j hjl
  have hget:=zlU (v:=v) hl.nodup hlr j hjl
  have hroomj:=hv3' _ (List.getElem_mem hjl)
  obtain ⟨s,hs⟩ : ∃ s,s = l[j]:=⟨_,rfl⟩
  rw [← hs] at q1 hstep hget hroomj hWi
  obtain ⟨F,hF⟩ : ∃ F,F = zdi v f l (j + 1):=⟨_,rfl⟩
  rw [← hF] at hFl0 hget hstep ⊢
  have hfa:=hfit.2 s.1 q1
  have heo:=(hav _ (zdl q1)).2.2.2.2.2.2.2.2
  obtain ⟨w,hw⟩ : ∃ w,w = f.getD s.1 0:=⟨_,rfl⟩
  have haf : s.1 < F.length:=by omega
  have hg2 : F[s.1] = w:=by
   have : F[s.1]? = some w:=by rw [hw,← hget,List.getD_eq_getElem?_getD,List.getElem?_eq_getElem haf,Option.getD_some]
   rw [List.getElem?_eq_getElem haf] at this
   exact Option.some.inj this
  rw [← hw] at hfa
  have hset : zdi v f l j = F.set s.1 (w + if s.2 then -v else v):=by rw [hstep]; unfold zf6; rw [hget,← hw]
  have hro : za8 A f s = if s.2 then w else (arcD A s.1).v - w:=by unfold za8; rw [← hw]
  refine zae ?_
  refine zaa ?_
  refine zaf ?_
  refine zab ⟨86,[(1,.pt 16 0 0),(7,.I v),(13,.pv (zbp s)),(59,.vs 2 false (W.map zbp)),(60,.I W.length),(61,.I i)],[(0,some ⟨1,zag F,0⟩),(16,some ⟨4,[rC N A (.rs 0 0 A.length)],0⟩)],900⟩ rfl ?_ ?_
  ·simp [h20,hWi]
   exact Le.go [(0,0),(16,16)] [816] rfl rfl (by simp) (by simp [fcd])
  refine zab ⟨86,[(1,.pt 16 0 0),(7,.I v),(13,.pv (zbp s)),(59,.vs 2 false (W.map zbp)),(60,.I W.length),(61,.I i),(66,.B s.2)],[(0,some ⟨1,zag F,0⟩),(16,some ⟨4,[rC N A (.rs 0 0 A.length)],0⟩)],1000⟩ rfl ?_ ?_
  ·simp
   exact Le.go [(0,0),(16,16)] [] rfl rfl (by simp) (by simp [fcd])
  have hsA : (s.1 : Int) < A.length:=by omega
  refine zac _ rfl (fun h16=>?_) fun h16=>?_
  ·rw [if_pos h16] at hset hro
   have hw2 : IntKind.i64.wrap (w - v) = w + -v:=by rw [w64 (by omega) (by omega)]; omega
   refine zau rfl ?_
   simp [q1,haf,hg2,hw2,zaU]
   refine zau rfl ?_
   simp
   exact ⟨i + 1,by omega,by omega,Le.go [(0,0),(16,16)] [] rfl rfl (by simp [hw1]) (by simp [fcd,hj2,hset])⟩
  ·rw [if_neg (by simp [h16])] at hset hro
   have hw2 : IntKind.i64.wrap (w + v) = w + v:=w64 (by omega) (by omega)
   refine zau rfl ?_
   simp [q1,haf,hg2,hw2,zaU]
   refine zau rfl ?_
   simp
   exact ⟨i + 1,by omega,by omega,Le.go [(0,0),(16,16)] [] rfl rfl (by simp [hw1]) (by simp [fcd,hj2,hset])⟩
 simp at h20
 obtain rfl : i = W.length:=by omega
 rw [show l.length - W.length = 0 by omega]
 refine zan ?_
 refine hit ?_
 refine zab ⟨86,[(2,.B true)],[(0,some ⟨1,zag (zdi v f l 0),0⟩)],900⟩ rfl ?_ ?_
 ·simp
  exact Le.go [(0,0)] [] rfl rfl (by simp) (by simp [fcd])
 refine zah ?_
 exact zib.mk (.inr rfl) (true,zdi v f l 0) ⟨hf2,by rw [hval]; omega⟩ (zam.k1 rfl (by simp) (by simp [fcd]))
open Classical in
theorem zhU (n : Net) (side : List Int) (hl : n.arcs.length ≤ 1099511627776) (hs : side.length ≤ 140737488355328) : zai Tryz.prog zfJ [eN n,ints side] [] (.B (decide (zft n side))) []:=by
 refine zo4.acalls (Nat.le_of_ble_eq_true rfl) (Nat.le_of_ble_eq_true rfl) (Nat.le_refl _) ?_
 show awp _ 0 _ _ ⟨24,[(0,eN n),(1,ints side)],[],16⟩
 refine rx (s:=?s1) [1,2] [] [16] rfl ?o1 ?q1
 case o1=>simp; rfl
 refine zab ⟨24,[(4,.B (decide (zft n side)))],[],300⟩ rfl ?_ ?_
 ·have hc:=zeo n hl
  by_cases hn : za0 n
  ·rw [if_pos hn] at hc
   have hw : IntKind.i64.wrap (n.nodes - 1) = n.nodes - 1:=w64 (by have:=hn.1; omega) (by have:=hn.2.1; omega)
   simp
   refine zal hc (by simp) ?_
   simp [hw]
   refine zal (zbX side 0 (n.nodes - 1) hs) (by simp) ?_
   simp
   refine zcA (fun hb=>?_) (fun hb=>?_) <;> (try rw [hb]) <;> (try simp at hb) <;> simp [hb]
   ·refine zal (zcS side 0 hs) (by simp) ?_
    simp
    refine zcA (fun hb2=>?_) (fun hb2=>?_) <;> (try rw [hb2]) <;> (try simp at hb2) <;> simp [hb2]
    ·refine zal (zcS side 1 hs) (by simp) ?_
     simp
     exact Le.snap [] rfl rfl (by simp [zft,hn,hb,hb2])
    ·exact Le.snap [] rfl rfl (by simp [zft,hn,hb,hb2])
   ·exact Le.snap [] rfl rfl (by simp [zft,hn,hb])
  ·rw [if_neg hn] at hc
   simp
   refine zal hc (by simp) ?_
   simp
   exact Le.snap [] rfl rfl (by simp [zft,hn])
 refine zah ?_
 exact ⟨.inr rfl,zam.one (by simp)⟩
def zdh (N : Nat) (s : List Int) : List (List AV):=(List.range N).map fun (k : Nat)=>[AV.B (decide ((k : Int) ∈ s))]
theorem ze9 (N : Nat) (s : List Int) : (zdh N s).length = N:=by simp [zdh]
theorem zqY (N : Nat) : zdh N [] = List.replicate N [AV.B false]:=by
 unfold zdh
 simp [List.map_const']
theorem zpP {N k : Nat} (hk : k < N) (s : List Int) : (zdh N s)[k]? = some [AV.B (decide ((k : Int) ∈ s))]:=by simp [zdh,hk]
@[simp] theorem zt3 {N k : Nat} {s : List Int} (h : k < (zdh N s).length) : (zdh N s)[k] = [AV.B (decide ((k : Int) ∈ s))]:=by simp [zdh]
theorem zpI {N k : Nat} (s : List Int) : (zdh N s).set k [AV.B true] = zdh N (s ++ [(k : Int)]):=by
 apply List.ext_getElem?
 intro i
 rw [List.getElem?_set]
 by_cases h : k = i
 ·subst h
  rw [if_pos rfl]
  by_cases hk : k < N
  ·rw [if_pos (by rw [ze9]; exact hk),zpP hk]
   simp
  ·rw [if_neg (by rw [ze9]; exact hk)]
   simp [zdh,hk]
 ·rw [if_neg h]
  unfold zdh
  simp only [List.getElem?_map]
  by_cases hi : i < N
  ·simp [hi,show ¬ ((i : Int) = k) by omega]
  ·simp [hi]
@[simp] theorem zsP {ρ : List (Nat × Nat)} {sn : List Nat} {h : Nat → Option Ent} {N : Nat} {s : List Int} : (zdh N s).map (·.map (conv ρ sn h 4)) = zdh N s:=by
 unfold zdh
 rw [List.map_map]
 rfl
set_option maxRecDepth 100000 in
open Classical in
theorem zjf (n : Net) (side : List Int) (hl : n.arcs.length ≤ 1099511627776) (hs : side.length ≤ 140737488355328) : zai Tryz.prog zeM [eN n,ints side] [] (.I (if zft n side then cutV n.arcs side else 0)) []:=by
 refine zlE.acalls (Nat.le_of_ble_eq_true rfl) (Nat.le_of_ble_eq_true rfl) (Nat.le_refl _) ?_
 show awp _ 0 _ _ ⟨54,[(0,eN n),(1,ints side)],[],16⟩
 refine rx (s:=?s1) [1,2] [] [16] rfl ?o1 ?q1
 case o1=>simp; rfl
 refine zaa ?_
 refine rx (s:=?s2) [1,2,14] [] [] rfl ?o2 ?q2
 case o2=>simp; refine zal (zhU n side hl hs) (by simp) ?_; simp; rfl
 refine zac _ rfl (fun h3=>?_) fun h3=>?_
 ·simp at h3
  refine rx (s:=?s4) [4] [] [] rfl ?o4 ?q4
  case o4=>simp; rfl
  refine zah ?_
  exact ⟨.inr rfl,zam.one (by simp [h3])⟩
 simp at h3
 have hb1:=h3.1.2.2.1
 have hn2:=h3.1.1
 have hn3:=h3.1.2.1
 obtain ⟨N,hN,hN3⟩ : ∃ N : Nat,n.nodes = N ∧ N ≤ 130:=⟨n.nodes.toNat,by omega,by omega⟩
 have hside : ∀ k ∈ side,∃ j : Nat,k = j ∧ j < N:=fun k hk=>by
  obtain ⟨i,hi,rfl⟩:=List.getElem_of_mem hk
  have:=(h3.2.1 i hi)
  exact ⟨side[i].toNat,by omega,by omega⟩
 refine zae ?_
 refine zab ⟨54,[(1,ints side),(2,.pv (nC n)),(5,.rs 80 0 N)],[(80,some ⟨1,zdh N [],0⟩)],96⟩ rfl ?_ ?_
 ·rw [zqY]
  simp [hN]
  refine ⟨by omega,?_⟩
  exact Le.keep rfl (Nat.le_refl _) (by simp [hN]) (by simp [hN])
 refine zaa ?_
 refine rk (s:=?s5) [1,2,5,18,19,20] [80] rfl ?o5 ?q5
 case o5=>simp; rfl
 refine zaf ?_
 refine zap (ι:=Nat) (fun i=>⟨54,[(1,ints side),(2,.pv (nC n)),(5,.rs 80 0 N),(18,ints side),(19,.I side.length),(20,.I i)],[(80,some ⟨1,zdh N (side.take i),0⟩)],120⟩) (fun i=>i ≤ side.length) (fun i=>side.length - i) 0 (by simp) (Le.keep rfl (Nat.le_refl _) (by simp) (by simp)) ?_
 intro i hi
 refine rk (s:=?s6) [1,2,5,18,19,20,21] [80] rfl ?o6 ?q6
 case o6=>simp; rfl
 refine zaa ?_
 refine zac _ rfl (fun h7=>?_) fun h7=>?_
 ·simp at h7
  have hw : IntKind.i64.wrap ((i : Int) + 1) = (i : Int) + 1:=w64 (by omega) (by omega)
  obtain ⟨j,hj,hjN⟩:=hside _ (List.getElem_mem h7)
  have hset : (zdh N (side.take i)).set j [AV.sc (.bool true)] = zdh N (side.take (i + 1)):=by
   rw [List.take_succ_eq_append_getElem h7,hj]
   exact zpI _
  refine zae ?_
  refine zaa ?_
  refine zaf ?_
  refine rk (s:=?s8) [1,2,5,7,18,19,20] [80] rfl ?o8 ?q8
  case o8=>simp [h7,hj]; rfl
  refine zad (s:=?s9) rfl ?o9 ?q9
  case o9=>simp [hjN,ze9,hset]; rfl
  refine zad (s:=?s10) rfl ?o10 ?q10
  case o10=>simp [hw]; rfl
  exact ⟨i + 1,by omega,by omega,Le.go [(80,80)] [] rfl rfl (by simp) (by simp)⟩
 simp at h7
 obtain rfl : i = side.length:=by omega
 rw [List.take_of_length_le (Nat.le_refl _)]
 refine zan ?_
 refine hit ?_
 refine rk (s:=?s11) [1,2,5,8] [80] rfl ?o11 ?q11
 case o11=>simp; rfl
 refine zaa ?_
 refine rk (s:=?s12) [5,8,29,30,31] [80] rfl ?o12 ?q12
 case o12=>simp; rfl
 refine zaf ?_
 refine zap (ι:=Nat) (fun i=>⟨54,[(5,.rs 80 0 N),(8,.I (cutV (n.arcs.take i) side)),(29,eEs n.arcs),(30,.I n.arcs.length),(31,.I i)],[(80,some ⟨1,zdh N side,0⟩)],168⟩) (fun i=>i ≤ n.arcs.length) (fun i=>n.arcs.length - i) 0 (by simp) (Le.go [(80,80)] [] rfl rfl (by simp [cutV]) (by simp)) ?_
 intro i hi
 have hcb:=zke (n:=n.nodes) (side:=side) (arcs:=n.arcs.take i) fun a ha=>h3.1.2.2.2 a (List.mem_of_mem_take ha)
 have htl:=List.length_take_le' i n.arcs
 refine rk (s:=?s13) [5,8,29,30,31,32] [80] rfl ?o13 ?q13
 case o13=>simp; rfl
 refine zaa ?_
 refine zac _ rfl (fun h7=>?_) fun h7=>?_
 ·simp at h7
  have hw : IntKind.i64.wrap ((i : Int) + 1) = (i : Int) + 1:=w64 (by omega) (by omega)
  have hcs:=zqR n.arcs side i h7
  have hav:=h3.1.2.2.2 _ (List.getElem_mem h7)
  have hwv : IntKind.i64.wrap (cutV (n.arcs.take i) side + n.arcs[i].v) = cutV (n.arcs.take i) side + n.arcs[i].v:=w64 (by have:=hav.2.2.2.2.2.2.2.1; omega) (by have:=hav.2.2.2.2.2.2.2.2; omega)
  obtain ⟨x,hx⟩ : ∃ x,x = n.arcs[i]:=⟨_,rfl⟩
  rw [← hx] at hcs hav hwv
  obtain ⟨f,hf,hfN⟩ : ∃ f : Nat,x.f = f ∧ f < N:=⟨x.f.toNat,by have:=hav.1; omega,by have:=hav.1; have:=hav.2.1; omega⟩
  obtain ⟨u,hu,huN⟩ : ∃ u : Nat,x.t = u ∧ u < N:=⟨x.t.toNat,by have:=hav.2.2.1; omega,by have:=hav.2.2.1; have:=hav.2.2.2.1; omega⟩
  refine zae ?_
  refine zaH (ι:=Unit) (fun _=>⟨54,[(5,.rs 80 0 N),(8,.I (cutV (n.arcs.take (i + 1)) side)),(29,eEs n.arcs),(30,.I n.arcs.length),(31,.I i)],[(80,some ⟨1,zdh N side,0⟩)],400⟩) (fun _=>True) ?_ fun _ _=>?_
  ·refine zaf ?_
   refine zab ⟨54,[(5,.rs 80 0 N),(8,.I (cutV (n.arcs.take i) side)),(10,.pv (eC x)),(29,eEs n.arcs),(30,.I n.arcs.length),(31,.I i)],[(80,some ⟨1,zdh N side,0⟩)],208⟩ rfl ?_ ?_
   ·simp [h7,← hx]
    exact Le.go [(80,80)] [192] rfl rfl (by simp) (by simp)
   refine zab ⟨54,[(5,.rs 80 0 N),(8,.I (cutV (n.arcs.take i) side)),(10,.pv (eC x)),(29,eEs n.arcs),(30,.I n.arcs.length),(31,.I i),(47,.B (decide ((f : Int) ∈ side ∧ (u : Int) ∉ side)))],[(80,some ⟨1,zdh N side,0⟩)],312⟩ rfl ?_ ?_
   ·simp [hf,hu,hfN,huN,ze9]
    refine zcA (fun hb=>?_) (fun hb=>?_) <;> (try rw [hb]) <;> (try simp at hb) <;> simp [hb,hu,huN,ze9]
    ·exact Le.go [(80,80)] [] rfl rfl (by simp [hb]) (by simp)
    ·exact Le.go [(80,80)] [] rfl rfl (by simp [hb]) (by simp)
   rw [← hf,← hu]
   refine zac _ rfl (fun h8=>?_) fun h8=>?_
   ·rw [decide_eq_true_eq] at h8
    rw [if_pos h8] at hcs
    refine zad (s:=?s14) rfl ?o14 ?q14
    case o14=>simp; rfl
    exact ⟨(),trivial,Le.go [(80,80)] [] rfl rfl (by simp [hcs,hwv]) (by simp)⟩
   ·rw [decide_eq_false_iff_not] at h8
    rw [if_neg h8] at hcs
    refine zae ?_
    exact ⟨(),trivial,Le.go [(80,80)] [] rfl rfl (by simp [hcs]) (by simp)⟩
  refine zad (s:=?s15) rfl ?o15 ?q15
  case o15=>simp; rfl
  exact ⟨i + 1,by omega,by omega,Le.go [(80,80)] [] rfl rfl (by simp [hw]) (by simp)⟩
 simp at h7
 obtain rfl : i = n.arcs.length:=by omega
 refine zan ?_
 refine hit ?_
 refine rk (s:=?s16) [4] [] rfl ?o16 ?q16
 case o16=>simp; rfl
 refine zah ?_
 exact ⟨.inr rfl,zam.one (by simp [h3])⟩
open Classical in
theorem zkH (n : Net) (side : List Int) (most : Int) (hl : n.arcs.length ≤ 1099511627776) (hs : side.length ≤ 140737488355328) : zai Tryz.prog zf5 [eN n,ints side,.I most] [] (.B (decide (zeN n side most))) []:=by
 refine zn3.acalls (Nat.le_of_ble_eq_true rfl) (Nat.le_of_ble_eq_true rfl) (Nat.le_refl _) ?_
 show awp _ 0 _ _ ⟨17,[(0,eN n),(1,ints side),(2,.I most)],[],16⟩
 refine rx (s:=?s1) [1,2,3] [] [16] rfl ?o1 ?q1
 case o1=>simp; rfl
 refine zab ⟨17,[(6,.B (decide (zeN n side most)))],[],300⟩ rfl ?_ ?_
 ·have hc:=zjf n side hl hs
  simp
  refine zal (zhU n side hl hs) (by simp) ?_
  simp
  by_cases hv : zft n side
  ·rw [if_pos hv] at hc
   simp [hv]
   refine zal hc (by simp) ?_
   simp
   exact Le.snap [] rfl rfl (by simp [zeN,hv])
  ·simp [hv]
   exact Le.snap [] rfl rfl (by simp [zeN,hv])
 refine zah ?_
 exact ⟨.inr rfl,zam.one (by simp)⟩
section
variable {P : Program} {np id : Nat} {h : Nat → Option Ent} {K : AV → List Nat → List (Nat × Option Ent) → Prop} {f : FuncId} {first capt args args' : List AV} {res : AV}
theorem zkw {i j : Nat} {e1 e2 e1' e2' : Ent} {hs' : List (Option Ent)} (hij : i ≠ j) (h1 : h i = some e1) (h2 : h j = some e2) (he1 : zaz [(i,0),(j,1)] [] h 4 e1 = e1') (he2 : zaz [(i,0),(j,1)] [] h 4 e2 = e2')
  (hc : zai P f args' [e1',e2'] res hs') (h8 : hs'.length ≤ 10) (he : (first ++ args ++ capt).map (conv [(i,0),(j,1)] [] h 4) = args')
  (hk : K (conv (swp [i,j] id) [] (fun _=>none) 4 res) [i,j] (hs'.zipIdx.map fun (e,k)=>((i :: j :: (List.range 8).map (id + ·)).getD k 0,e.map (zaz (swp [i,j] id) [] (fun _=>none) 4)))) : aK P np id .call (.fn (.func f) first capt :: args) h K :=
 ⟨[i,j],[],true,args',[e1',e2'],res,hs',by simp [hij],by simp,by simp,by rw [show [i,j].zipIdx = [(i,0),(j,1)] from rfl,he]; exact zb5 _,by
  rw [show [i,j].zipIdx = [(i,0),(j,1)] from rfl]
  simp only [List.map_cons,List.map_nil,h1,h2,Option.map_some,he1,he2],hc,by simpa using h8,.inl rfl,by simpa [swp] using hk⟩
end
theorem zbO (k : Int) (h : 0 ≤ k) (h2 : k ≤ 1000000) : zai Tryz.prog zbF [.I k] [] (.I (2 + 2 * k)) []:=by
 refine zmC.acalls (Nat.le_of_ble_eq_true rfl) (Nat.le_of_ble_eq_true rfl) (Nat.le_refl _) ?_
 show awp _ 0 _ _ ⟨6,[(0,.I k)],[],16⟩
 have hw1 : IntKind.i64.wrap (2 * k) = 2 * k:=w64 (by omega) (by omega)
 have hw2 : IntKind.i64.wrap (2 + 2 * k) = 2 + 2 * k:=w64 (by omega) (by omega)
 refine rx (s:=?s1) [0] [] [] rfl ?o1 ?q1
 case o1=>simp; rfl
 refine rx (s:=?s2) [2] [] [] rfl ?o2 ?q2
 case o2=>simp [hw1,hw2]; rfl
 refine zah ?_
 exact ⟨.inr rfl,zam.one (by simp)⟩
theorem zgy (k : Int) (h : 0 ≤ k) (h2 : k ≤ 1000000) : zai Tryz.prog zei [.I k] [] (.I (3 + 2 * k)) []:=by
 refine zno.acalls (Nat.le_of_ble_eq_true rfl) (Nat.le_of_ble_eq_true rfl) (Nat.le_refl _) ?_
 show awp _ 0 _ _ ⟨_,[(0,.I k)],[],16⟩
 have hw2 : IntKind.i64.wrap (2 + 2 * k + 1) = 3 + 2 * k:=by rw [w64 (by omega) (by omega)]; omega
 refine rx (s:=?s1) [0] [] [] rfl ?o1 ?q1
 case o1=>simp; rfl
 refine rx (s:=?s2) [2] [] [] rfl ?o2 ?q2
 case o2=>simp; refine zal (zbO k h h2) (by simp) ?_; simp [hw2]; rfl
 refine zah ?_
 exact ⟨.inr rfl,zam.one (by simp)⟩
theorem zc1 (k : Int) (h : 0 ≤ k) (h2 : k ≤ 1000000) : zai Tryz.prog zcs [.I k] [] (.I (2 + 2 * k)) []:=by
 refine zmw.acalls (Nat.le_of_ble_eq_true rfl) (Nat.le_of_ble_eq_true rfl) (Nat.le_refl _) ?_
 show awp _ 0 _ _ ⟨_,[(0,.I k)],[],16⟩
 have hw1 : IntKind.i64.wrap (2 * k) = 2 * k:=w64 (by omega) (by omega)
 have hw2 : IntKind.i64.wrap (2 + 2 * k) = 2 + 2 * k:=w64 (by omega) (by omega)
 refine rx (s:=?s1) [0] [] [] rfl ?o1 ?q1
 case o1=>simp; rfl
 refine rx (s:=?s2) [2] [] [] rfl ?o2 ?q2
 case o2=>simp [hw1,hw2]; rfl
 refine zah ?_
 exact ⟨.inr rfl,zam.one (by simp)⟩
theorem zgG (k : Int) (h : 0 ≤ k) (h2 : k ≤ 1000000) : zai Tryz.prog zey [.I k] [] (.I (3 + 2 * k)) []:=by
 refine zm7.acalls (Nat.le_of_ble_eq_true rfl) (Nat.le_of_ble_eq_true rfl) (Nat.le_refl _) ?_
 show awp _ 0 _ _ ⟨_,[(0,.I k)],[],16⟩
 have hw1 : IntKind.i64.wrap (2 * k) = 2 * k:=w64 (by omega) (by omega)
 have hw2 : IntKind.i64.wrap (3 + 2 * k) = 3 + 2 * k:=w64 (by omega) (by omega)
 refine rx (s:=?s1) [0] [] [] rfl ?o1 ?q1
 case o1=>simp; rfl
 refine rx (s:=?s2) [2] [] [] rfl ?o2 ?q2
 case o2=>simp [hw1,hw2]; rfl
 refine zah ?_
 exact ⟨.inr rfl,zam.one (by simp)⟩
abbrev outV (N : Int) (B n : Nat) : Ent:=⟨2,[[.I N,.rs B 0 n]],0⟩
theorem zow (N f t v : Int) (L : List Ed) (n : Nat) (hL : L.length = n) (hn : n ≤ 1000000) : zai Tryz.prog zaE [.I f,.I t,.I v,.pt 0 0 0] [outV N 1 n,⟨3,zaT L,0⟩] (.tup []) [some (outV N 2 (n + 1)),none,some ⟨3,zaT (L ++ [⟨f,t,v⟩]),0⟩]:=by
 refine zho.acalls (Nat.le_of_ble_eq_true rfl) (Nat.le_of_ble_eq_true rfl) (Nat.le_of_ble_eq_true rfl) ?_
 show awp _ 2 _ _ ⟨16,[(0,.I f),(1,.I t),(2,.I v),(3,.pt 0 0 0)],[(0,some (outV N 1 n)),(1,some ⟨3,zaT L,0⟩)],16⟩
 have htl : ∀ f : Ed → List AV,List.take n (List.map f L) = List.map f L:=fun f=>List.take_of_length_le (by simp [hL])
 refine zad (s:=?s1) rfl ?o1 ?q1
 case o1=>simp [hL,htl]; refine ⟨by omega,by omega,?_⟩; rfl
 refine ⟨.inl rfl,⟨[],rfl,[72],[],by simp [List.range,List.range.loop],by simp,by simp,by simp,?_⟩⟩
 simp [List.range,List.range.loop]
theorem zg5 {φ : Ed → Int → Int} : ∀ {A : List Ed} {f : List Int} (i : Nat) (h1 : i < A.length) (h2 : i < f.length),sumF φ (A.take (i + 1)) (f.take (i + 1)) = sumF φ (A.take i) (f.take i) + φ A[i] f[i]
 | e :: A,v :: f,0,_,_=>by simp [sumF]
 | e :: A,v :: f,i + 1,h1,h2=>by
   have:=zg5 (φ:=φ) (A:=A) (f:=f) i (by simpa using h1) (by simpa using h2)
   simp only [List.take_succ_cons,sumF,this,List.getElem_cons_succ]
   omega
def netG (A : List Ed) (f : List Int) (i : Nat) (x : Int) : Int:=inF (A.take i) (f.take i) x - outF (A.take i) (f.take i) x
variable {N : Nat} {A : List Ed} {f : List Int}
theorem ziL (x : Int) : netG A f 0 x = 0:=by simp [netG,inF,outF,sumF]
theorem ziz {i : Nat} (h1 : i < A.length) (h2 : i < f.length) (x : Int) : netG A f (i + 1) x = netG A f i x + (if A[i].t = x then f[i] else 0) - if A[i].f = x then f[i] else 0:=by
 unfold netG inF outF
 rw [zg5 i h1 h2,zg5 i h1 h2]
 omega
theorem zor (hl : f.length = A.length) (x : Int) : netG A f A.length x = - exF A f x:=by
 unfold netG exF
 rw [List.take_of_length_le (Nat.le_refl _),List.take_of_length_le (by omega)]
 omega
theorem zhG (hl : f.length = A.length) (hb : ∀ j (h : j < f.length),0 ≤ f[j] ∧ f[j] ≤ 1048576) (x : Int) : ∀ i,i ≤ A.length → -(1048576 * (i : Int)) ≤ netG A f i x ∧ netG A f i x ≤ 1048576 * (i : Int)
 | 0,_=>by rw [ziL]; omega
 | i + 1,h=>by
   have ih:=zhG hl hb x i (by omega)
   have h2:=hb i (by omega)
   rw [ziz (by omega) (by omega)]
   split <;> split <;> omega
theorem zmW {i : Nat} (h1 : i < A.length) (h2 : i < f.length) (x : Int) : outF (A.take (i + 1)) (f.take (i + 1)) x = outF (A.take i) (f.take i) x + if A[i].f = x then f[i] else 0:=by
 unfold outF
 rw [zg5 i h1 h2]
theorem zko (hl : f.length = A.length) (hb : ∀ j (h : j < f.length),0 ≤ f[j] ∧ f[j] ≤ 1048576) (x : Int) : ∀ i,i ≤ A.length → 0 ≤ outF (A.take i) (f.take i) x ∧ outF (A.take i) (f.take i) x ≤ 1048576 * (i : Int)
 | 0,_=>by simp [outF,sumF]
 | i + 1,h=>by
   have ih:=zko hl hb x i (by omega)
   have h2:=hb i (by omega)
   rw [zmW (by omega) (by omega)]
   split <;> omega
def rowR (N : Nat) (g : Int → Int) : List Int:=(List.range N).map fun k : Nat=>g k
theorem zeQ (N : Nat) (g : Int → Int) : (rowR N g).length = N:=by simp [rowR]
theorem zdV {g : Int → Int} {x : Int} (h0 : 0 ≤ x) (h1 : x < N) : (rowR N g)[x.toNat]? = some (g x):=by
 unfold rowR
 rw [List.getElem?_map,List.getElem?_range (by omega)]
 simp only [Option.map_some,Int.toNat_of_nonneg h0]
theorem zir {g : Int → Int} {x v : Int} (h0 : 0 ≤ x) (h1 : x < N) : (rowR N g).set x.toNat v = rowR N fun y=>if y = x then v else g y:=by
 apply List.ext_getElem?
 intro j
 by_cases hj : j < N
 ·have e1:=zdV (N:=N) (g:=fun y=>if y = x then v else g y) (x:=(j : Int)) (by omega) (by omega)
  have e2:=zdV (N:=N) (g:=g) (x:=(j : Int)) (by omega) (by omega)
  simp only [Int.toNat_natCast] at e1 e2
  rw [List.getElem?_set,e1,e2,zeQ]
  by_cases hx : x.toNat = j
  ·rw [if_pos hx,if_pos (by omega),if_pos (by omega)]
  ·rw [if_neg hx,if_neg (by omega)]
 ·rw [List.getElem?_eq_none (by rw [List.length_set,zeQ]; omega),List.getElem?_eq_none (by rw [zeQ]; omega)]
theorem zhq {g h : Int → Int} (e : ∀ x,g x = h x) : rowR N g = rowR N h:=by
 obtain rfl : g = h:=funext e
 rfl
set_option maxRecDepth 100000 in
set_option maxHeartbeats 4000000 in
theorem zhX (hn : za0 ⟨N,A⟩) (hf : zay N A f) : zai Tryz.prog ze4 [eN ⟨N,A⟩,ints f] [] (.B true) []:=by
 refine zms.acalls (Nat.le_of_ble_eq_true rfl) (Nat.le_of_ble_eq_true rfl) (Nat.le_refl _) ?_
 show awp _ 0 _ _ ⟨87,[(0,eN ⟨N,A⟩),(1,ints f)],[],16⟩
 have hfl:=hf.fit.len
 have hfit:=zcG.1 hf.fit
 have hchk:=zfY ⟨N,A⟩ (by have:=hn.2.2.1; simp only at this ⊢; omega)
 rw [if_pos hn] at hchk
 obtain ⟨hn0,hn1,hal,hav⟩:=hn
 simp only at hn0 hn1 hal hav
 have hfb : ∀ j (h : j < f.length),0 ≤ f[j] ∧ f[j] ≤ (A[j]'(by omega)).v ∧ (A[j]'(by omega)).v ≤ 1048576:=fun j hj=>by
  have h1:=hfit.2 j (by omega)
  have e1 : f.getD j 0 = f[j]:=by rw [List.getD_eq_getElem?_getD,List.getElem?_eq_getElem hj,Option.getD_some]
  have e2 : arcD A j = A[j]'(by omega):=by unfold arcD; rw [List.getD_eq_getElem?_getD,List.getElem?_eq_getElem (by omega),Option.getD_some]
  rw [e1,e2] at h1
  exact ⟨h1.1,h1.2,(hav _ (List.getElem_mem (by omega))).2.2.2.2.2.2.2.2⟩
 have hbd:=zhG hfl fun j hj=>⟨(hfb j hj).1,by have:=hfb j hj; omega⟩
 refine rx (s:=?s1) [1,2] [] [16] rfl ?o1 ?q1
 case o1=>simp; rfl
 refine zaa ?_
 refine zab ⟨87,[(1,ints f),(2,.pv (nC ⟨N,A⟩)),(18,.B false)],[],120⟩ rfl ?_ ?_
 ·simp
  refine zal hchk (by simp) ?_
  simp
  exact Le.snap [] rfl rfl (by simp <;> exact wkB (by simp [hfl]))
 refine zac _ rfl (fun h3=>by cases h3) fun _=>?_
 refine zae ?_
 refine zab ⟨87,[(1,ints f),(2,.pv (nC ⟨N,A⟩)),(5,.rs 136 0 N)],[(136,some ⟨1,zag (rowR N (netG A f 0)),0⟩)],144⟩ rfl ?_ ?_
 ·simp
  refine ⟨by omega,by omega,?_⟩
  have : rowR N (netG A f 0) = List.replicate N 0:=by
   unfold rowR
   simp only [ziL]
   simp [List.map_const']
  rw [this]
  exact Le.go [(136,136)] [] rfl rfl (by simp) (by simp)
 refine zaa ?_
 refine zab ⟨87,[(1,ints f),(2,.pv (nC ⟨N,A⟩)),(5,.rs 136 0 N),(6,.I 0)],[(136,some ⟨1,zag (rowR N (netG A f 0)),0⟩)],160⟩ rfl ?_ ?_
 ·simp
  exact Le.go [(136,136)] [] rfl rfl (by simp) (by simp [fcd])
 refine zaf ?_
 refine zap (ι:=Nat) (fun i=>⟨87,[(1,ints f),(2,.pv (nC ⟨N,A⟩)),(5,.rs 136 0 N),(6,.I i)],[(136,some ⟨1,zag (rowR N (netG A f i)),0⟩)],160⟩) (fun i=>i ≤ A.length) (fun i=>A.length - i) 0 (Nat.zero_le _) (Le.go [(136,136)] [] rfl rfl (by simp) (by simp [fcd])) ?_
 intro i hi
 refine zaa ?_
 refine zab ⟨87,[(1,ints f),(2,.pv (nC ⟨N,A⟩)),(5,.rs 136 0 N),(6,.I i),(25,.B (decide (i < f.length)))],[(136,some ⟨1,zag (rowR N (netG A f i)),0⟩)],192⟩ rfl ?_ ?_
 ·simp
  exact Le.go [(136,136)] [] rfl rfl (by simp) (by simp [fcd])
 refine zac _ rfl (fun h8=>?_) fun h8=>?_
 ·simp at h8
  have hiA : i < A.length:=by omega
  have hw1 : IntKind.i64.wrap ((i : Int) + 1) = (i : Int) + 1:=w64 (by omega) (by omega)
  obtain ⟨b1,b2,b3⟩:=hfb i h8
  have heo:=hav _ (List.getElem_mem hiA)
  have hsucc:=ziz hiA h8
  have hbe:=fun x=>hbd x i (by omega)
  obtain ⟨e,he⟩ : ∃ e,e = A[i]:=⟨_,rfl⟩
  obtain ⟨w,hw⟩ : ∃ w,w = f[i]:=⟨_,rfl⟩
  rw [← he,← hw] at hsucc b2
  rw [← hw] at b1
  rw [← he] at b3 heo
  obtain ⟨e1,e2,e3,e4,e5,_⟩:=heo
  have hg1 : A[i]? = some e:=by rw [List.getElem?_eq_getElem hiA,he]
  have hg2 : f[i]? = some w:=by rw [List.getElem?_eq_getElem h8,hw]
  have h2N : e.f < (N : Int) ∧ e.t < (N : Int):=by omega
  have h1:=hbe e.f
  have h2:=hbe e.t
  have hwx : IntKind.i64.wrap (netG A f i e.f - w) = netG A f i e.f - w:=w64 (by omega) (by omega)
  have hwy : IntKind.i64.wrap (netG A f i e.t + w) = netG A f i e.t + w:=w64 (by omega) (by omega)
  have hr1:=zdV (N:=N) (g:=netG A f i) (x:=e.f) e1 (by omega)
  have hs1:=zir (N:=N) (g:=netG A f i) (x:=e.f) (v:=netG A f i e.f - w) e1 (by omega)
  obtain ⟨g1,hg1d⟩ : ∃ g1 : Int → Int,g1 = fun y=>if y = e.f then netG A f i e.f - w else netG A f i y:=⟨_,rfl⟩
  rw [← hg1d] at hs1
  have hg1t : g1 e.t = netG A f i e.t:=by rw [hg1d]; exact if_neg fun h=>e5 h.symm
  have hr2:=zdV (N:=N) (g:=g1) (x:=e.t) e3 (by omega)
  rw [hg1t] at hr2
  have hs2:=zir (N:=N) (g:=g1) (x:=e.t) (v:=netG A f i e.t + w) e3 (by omega)
  have hend : (rowR N fun y=>if y = e.t then netG A f i e.t + w else g1 y) = rowR N (netG A f (i + 1)):=zhq fun x=>by
   rw [hsucc,hg1d]
   simp only
   by_cases h3 : x = e.t
   ·rw [h3,if_pos rfl,if_pos rfl,if_neg e5]
    omega
   ·by_cases h4 : x = e.f
    ·rw [if_neg h3,if_pos h4,if_neg fun h=>h3 h.symm,if_pos h4.symm,h4]
     omega
    ·rw [if_neg h3,if_neg h4,if_neg fun h=>h3 h.symm,if_neg fun h=>h4 h.symm]
     omega
  rw [hend] at hs2
  refine zae ?_
  refine zaH (ι:=Unit) (fun _=>⟨87,[(1,ints f),(2,.pv (nC ⟨N,A⟩)),(5,.rs 136 0 N),(6,.I i)],[(136,some ⟨1,zag (rowR N (netG A f (i + 1))),0⟩)],1000⟩) (fun _=>True) ?_ fun _ _=>?_
  ·refine zaf ?_
   refine zaa ?_
   refine zat ⟨87,[(1,ints f),(2,.pv (nC ⟨N,A⟩)),(5,.rs 136 0 N),(6,.I i),(45,.B false)],[(136,some ⟨1,zag (rowR N (netG A f i)),0⟩)],500⟩ rfl ?_ ?_
   ·have hc1 : ¬ w < 0:=by omega
    have hc2 : ¬ e.v < w:=by omega
    simp [hg1,hg2,hiA,h8,← he,← hw,hc1,hc2]
    exact ⟨rfl,Le.go [(136,136)] [] rfl rfl (by simp [hc2]) (by simp [fcd])⟩
   refine zac _ rfl (fun h=>by cases h) fun _=>?_
   refine zae ?_
   refine zat ⟨87,[(1,ints f),(2,.pv (nC ⟨N,A⟩)),(5,.rs 136 0 N),(6,.I i)],[(136,some ⟨1,zag (rowR N g1),0⟩)],700⟩ rfl ?_ ?_
   ·simp [hg1,hg2,hiA,h8,← he,← hw,hr1,e1,h2N,hwx,zaU]
    exact ⟨rfl,Le.go [(136,136)] [] rfl rfl (by simp) (by simp [fcd,← hs1])⟩
   refine zbm rfl ?_
   simp [hg1,hg2,hiA,h8,← he,← hw,hr2,e3,h2N,hwy,zaU]
   exact ⟨rfl,Le.go [(136,136)] [] rfl rfl (by simp) (by simp [fcd,← hs2])⟩
  refine zad (s:=?s20) rfl ?o20 ?q20
  case o20=>simp; rfl
  exact ⟨i + 1,by omega,by omega,Le.go [(136,136)] [] rfl rfl (by simp [hw1]) (by simp [fcd])⟩
 simp at h8
 obtain rfl : i = A.length:=by omega
 refine zan ?_
 refine hit ?_
 refine zaa ?_
 refine zab ⟨87,[(2,.pv (nC ⟨N,A⟩)),(5,.rs 136 0 N),(7,.I 2)],[(136,some ⟨1,zag (rowR N (netG A f A.length)),0⟩)],200⟩ rfl ?_ ?_
 ·simp
  exact Le.go [(136,136)] [] rfl rfl (by simp) (by simp [fcd])
 refine zaf ?_
 refine zap (ι:=Nat) (fun k=>⟨87,[(2,.pv (nC ⟨N,A⟩)),(5,.rs 136 0 N),(7,.I k)],[(136,some ⟨1,zag (rowR N (netG A f A.length)),0⟩)],200⟩) (fun k=>2 ≤ k ∧ k ≤ N) (fun k=>N - k) 2 (by omega) (Le.go [(136,136)] [] rfl rfl (by simp) (by simp [fcd])) ?_
 rintro k ⟨hk1,hk2⟩
 refine zaa ?_
 refine zab ⟨87,[(2,.pv (nC ⟨N,A⟩)),(5,.rs 136 0 N),(7,.I k),(79,.B (decide (k < N)))],[(136,some ⟨1,zag (rowR N (netG A f A.length)),0⟩)],300⟩ rfl ?_ ?_
 ·simp
  exact Le.go [(136,136)] [] rfl rfl (by simp) (by simp [fcd])
 refine zac _ rfl (fun h15=>?_) fun h15=>?_
 ·simp at h15
  have hz : netG A f A.length k = 0:=by
   rw [zor hfl]
   have:=hf.bal k hk1 h15
   unfold exF
   omega
  have hr:=zdV (N:=N) (g:=netG A f A.length) (x:=(k : Int)) (by omega) (by omega)
  rw [hz] at hr
  simp only [Int.toNat_natCast] at hr
  have hw1 : IntKind.i64.wrap ((k : Int) + 1) = (k : Int) + 1:=w64 (by omega) (by omega)
  refine zae ?_
  refine zaa ?_
  refine zaf ?_
  refine zab ⟨87,[(2,.pv (nC ⟨N,A⟩)),(5,.rs 136 0 N),(7,.I k),(86,.B false)],[(136,some ⟨1,zag (rowR N (netG A f A.length)),0⟩)],400⟩ rfl ?_ ?_
  ·simp [hr,h15]
   exact Le.go [(136,136)] [] rfl rfl (by simp) (by simp [fcd])
  refine zac _ rfl (fun h=>by cases h) fun _=>?_
  refine zae ?_
  refine zad (s:=?s21) rfl ?o21 ?q21
  case o21=>simp; rfl
  exact ⟨k + 1,by omega,by omega,Le.go [(136,136)] [] rfl rfl (by simp [hw1]) (by simp [fcd])⟩
 simp at h15
 refine zan ?_
 refine hit ?_
 refine zab ⟨87,[(4,.B true)],[],400⟩ rfl ?_ ?_
 ·simp
  exact Le.go [] [] rfl rfl (by simp) (by simp)
 refine zah ?_
 exact ⟨.inr rfl,zam.one (by simp)⟩
theorem zh8 (hn : za0 ⟨N,A⟩) (hf : zay N A f) : zai Tryz.prog zfe [eN ⟨N,A⟩,ints f] [] (.I (valF A f)) []:=by
 refine zmP.acalls (Nat.le_of_ble_eq_true rfl) (Nat.le_of_ble_eq_true rfl) (Nat.le_refl _) ?_
 show awp _ 0 _ _ ⟨31,[(0,eN ⟨N,A⟩),(1,ints f)],[],16⟩
 have hchk:=zhX hn hf
 have hfl:=hf.fit.len
 have hfit:=zcG.1 hf.fit
 obtain ⟨hn0,hn1,hal,hav⟩:=hn
 simp only at hn0 hn1 hal hav
 have hfb : ∀ j (h : j < f.length),0 ≤ f[j] ∧ f[j] ≤ 1048576:=fun j hj=>by
  have h1:=hfit.2 j (by omega)
  have e1 : f.getD j 0 = f[j]:=by rw [List.getD_eq_getElem?_getD,List.getElem?_eq_getElem hj,Option.getD_some]
  have e2 : arcD A j = A[j]'(by omega):=by unfold arcD; rw [List.getD_eq_getElem?_getD,List.getElem?_eq_getElem (by omega),Option.getD_some]
  rw [e1,e2] at h1
  have h2:=(hav _ (List.getElem_mem (show j < A.length by omega))).2.2.2.2.2.2.2.2
  omega
 have hbd:=zko hfl hfb 0
 have hall : outF (A.take A.length) (f.take A.length) 0 = valF A f:=by
  unfold valF
  rw [List.take_of_length_le (Nat.le_refl _),List.take_of_length_le (by omega)]
 refine rx (s:=?s1) [1,2] [] [16] rfl ?o1 ?q1
 case o1=>simp; rfl
 refine zaa ?_
 refine rx (s:=?s2) [1,2,10] [] [] rfl ?o2 ?q2
 case o2=>simp; refine zal hchk (by simp) ?_; simp; rfl
 refine zac _ rfl (fun h=>by cases h) fun _=>?_
 refine zae ?_
 refine rx (s:=?s5) [1,2,5] [] [] rfl ?o5 ?q5
 case o5=>simp; rfl
 refine zaa ?_
 refine rx (s:=?s6) [1,2,5,6] [] [] rfl ?o6 ?q6
 case o6=>simp; rfl
 refine zaf ?_
 refine zap (ι:=Nat) (fun i=>⟨31,[(1,ints f),(2,.pv (nC ⟨N,A⟩)),(5,.I (outF (A.take i) (f.take i) 0)),(6,.I i)],[],80⟩) (fun i=>i ≤ A.length) (fun i=>A.length - i) 0 (Nat.zero_le _) (Le.go [] [] rfl rfl (by simp [outF,sumF]) (by simp)) ?_
 intro i hi
 have hbi:=hbd i hi
 refine zaa ?_
 refine rx (s:=?s7) [1,2,5,6,14] [] [] rfl ?o7 ?q7
 case o7=>simp; rfl
 refine zac _ rfl (fun h8=>?_) fun h8=>?_
 ·simp at h8
  have hiA : i < A.length:=by omega
  have hw1 : IntKind.i64.wrap ((i : Int) + 1) = (i : Int) + 1:=w64 (by omega) (by omega)
  have hsucc:=zmW hiA h8 0
  have hb:=hfb i h8
  refine zae ?_
  refine zaH (ι:=Unit) (fun _=>⟨31,[(1,ints f),(2,.pv (nC ⟨N,A⟩)),(5,.I (outF (A.take (i + 1)) (f.take (i + 1)) 0)),(6,.I i)],[],400⟩) (fun _=>True) ?_ fun _ _=>?_
  ·refine zaf ?_
   refine zab ⟨31,[(1,ints f),(2,.pv (nC ⟨N,A⟩)),(5,.I (outF (A.take i) (f.take i) 0)),(6,.I i),(23,.B (decide (A[i].f = 0)))],[],200⟩ rfl ?_ ?_
   ·simp [hiA]
    exact Le.go [] [] rfl rfl (by simp <;> exact wkB (by rw [Bool.eq_iff_iff]; simp)) (by simp)
   refine zac _ rfl (fun h10=>?_) fun h10=>?_
   ·rw [decide_eq_true_eq] at h10
    rw [if_pos h10] at hsucc
    have hw2 : IntKind.i64.wrap (outF (A.take i) (f.take i) 0 + f[i]) = outF (A.take i) (f.take i) 0 + f[i]:=w64 (by omega) (by omega)
    refine zad (s:=?s9) rfl ?o9 ?q9
    case o9=>simp [h8]; rfl
    exact ⟨(),trivial,Le.go [] [] rfl rfl (by simp [hsucc,hw2]) (by simp)⟩
   ·rw [decide_eq_false_iff_not] at h10
    rw [if_neg h10,Int.add_zero] at hsucc
    refine zae ?_
    exact ⟨(),trivial,Le.go [] [] rfl rfl (by simp [hsucc]) (by simp)⟩
  refine zad (s:=?s10) rfl ?o10 ?q10
  case o10=>simp; rfl
  exact ⟨i + 1,by omega,by omega,Le.go [] [] rfl rfl (by simp [hw1]) (by simp)⟩
 simp at h8
 obtain rfl : i = A.length:=by omega
 rw [hall]
 refine zan ?_
 refine hit ?_
 refine rx (s:=?s11) [4] [] [] rfl ?o11 ?q11
 case o11=>simp; rfl
 refine zah ?_
 exact ⟨.inr rfl,zam.one (by simp)⟩
theorem zpn {g : Gr} {p : Pol} {sinks : List Int} (hg : GrOk g) (hp : za3 g.size p) (hk : ∀ x ∈ sinks,0 ≤ x ∧ x < g.size) : zdG (2 + 2 * g.size).toNat (za2 g p (zaI g p) sinks):=by
 have hs0:=hg.1.1
 have hse:=hp.2.1.nodup
 have hle:=zhi hg p.lv
 have hcl : (zaI g p).length = g.size.toNat:=by unfold zaI; rw [List.length_map,zjr]; rfl
 refine ⟨by omega,fun a ha=>?_⟩
 unfold za2 at ha
 rcases List.mem_append.1 ha with ha | ha
 ·rcases List.mem_append.1 ha with ha | ha
  ·rcases List.mem_append.1 ha with ha | ha
   ·obtain ⟨x,hx,rfl⟩:=List.mem_map.1 ha
    have h1:=List.mem_filter.1 hx
    have h2:=hse.2 x h1.1
    have h3 : 0 < (zaI g p).getD x.toNat 0:=by simpa using h1.2
    simp only
    omega
   ·obtain ⟨i,hx,rfl⟩:=List.mem_map.1 ha
    have h1:=List.mem_filter.1 hx
    have h2:=List.mem_range.1 h1.1
    have h3 : 0 < (zaI g p).getD i 0:=by simpa using h1.2
    simp only
    omega
  ·obtain ⟨x,hx,rfl⟩:=List.mem_map.1 ha
   have h2:=hk x (List.mem_filter.1 hx).1
   simp only
   omega
 ·obtain ⟨e,hx,rfl⟩:=List.mem_map.1 ha
  have h2:=hle.2 e (List.mem_filter.1 hx).1
  simp only
  omega
def arc1 (c : List Int) (x : Int) : List Ed:=if 0 < c.getD x.toNat 0 then [⟨0,2 + 2 * x,c.getD x.toNat 0⟩] else []
def arc2 (c : List Int) (i : Nat) : List Ed:=if 0 < c.getD i 0 then [⟨2 + 2 * (i : Int),3 + 2 * (i : Int),c.getD i 0 - 1⟩] else []
def arc3 (c : List Int) (x : Int) : List Ed:=if 0 < c.getD x.toNat 0 then [⟨2 + 2 * x,1,1⟩] else []
def arc4 (c : List Int) (e : Ed) : List Ed:=if 0 < c.getD e.f.toNat 0 then [⟨3 + 2 * e.f,2 + 2 * e.t,64⟩] else []
theorem zcH {α : Type} (q : α → Bool) (f : α → Ed) (l : List α) : (l.filter q).map f = l.flatMap fun x=>if q x = true then [f x] else []:=by
 induction l with
 | nil=>rfl
 | cons x l ih=>by_cases h : q x = true <;> simp [h,ih]
theorem zfn (g : Gr) (p : Pol) (c sinks : List Int) : za2 g p c sinks = p.seeds.flatMap (arc1 c) ++ (List.range c.length).flatMap (arc2 c) ++ sinks.flatMap (arc3 c) ++ (zaj g p.lv).edges.flatMap (arc4 c):=by
 unfold za2
 rw [zcH,zcH,zcH,zcH]
 simp only [decide_eq_true_eq]
 rfl
theorem zc8 {α : Type} (f : α → List Ed) (l : List α) (i : Nat) (h : i < l.length) : (l.take (i + 1)).flatMap f = (l.take i).flatMap f ++ f l[i]:=by
 rw [List.take_succ_eq_append_getElem h,List.flatMap_append]
 simp
theorem zb3 {α : Type} (f : α → List Ed) (hf : ∀ x,(f x).length ≤ 1) (l : List α) : (l.flatMap f).length ≤ l.length:=by
 induction l with
 | nil=>simp
 | cons x l ih=>rw [List.flatMap_cons,List.length_append,List.length_cons]; have:=hf x; omega
theorem zgV (c : List Int) (x : Int) : (arc1 c x).length ≤ 1:=by unfold arc1; split <;> simp
theorem zgr (c : List Int) (x : Nat) : (arc2 c x).length ≤ 1:=by unfold arc2; split <;> simp
theorem zgz (c : List Int) (x : Int) : (arc3 c x).length ≤ 1:=by unfold arc3; split <;> simp
theorem zgZ (c : List Int) (x : Ed) : (arc4 c x).length ≤ 1:=by unfold arc4; split <;> simp
theorem zbo {α : Type} (f : α → List Ed) (hf : ∀ x,(f x).length ≤ 1) (l : List α) (i : Nat) : ((l.take i).flatMap f).length ≤ l.length:=Nat.le_trans (zb3 f hf _) (List.length_take_le' i l)
set_option maxRecDepth 100000 in
set_option maxHeartbeats 4000000 in
theorem zhZ (g : Gr) (p : Pol) (sinks : List Int) (hg : GrOk g) (hp : za3 g.size p) (hr : Rise sinks 0 (g.size - 1)) (hs : p.seeds.length ≤ 64) (hsl : sinks.length ≤ 64) :
  zai Tryz.prog zd8 [eG g,eP p,ints sinks] [] (.tup [eN ⟨2 + 2 * g.size,za2 g p (zaI g p) sinks⟩,.I 0]) []:=by
 refine zjL.acalls (Nat.le_of_ble_eq_true rfl) (Nat.le_of_ble_eq_true rfl) (Nat.le_refl _) ?_
 show awp _ 0 _ _ ⟨123,[(0,eG g),(1,eP p),(2,ints sinks)],[],16⟩
 have hsz:=hg.1.1
 have hsz2:=hg.1.2.1
 have hel:=hg.edges_le
 have hgl:=hg.gone_le
 have hchk:=zb8 g p (by omega) (by omega) (by omega) (by have:=hp.2.2.2.1; omega)
 rw [if_pos hg,if_pos hp] at hchk
 have hcap:=zfy g p hg (by omega)
 have hcb:=ziS (g:=g) hp
 have hcl : (zaI g p).length = g.size.toNat:=zbz
 rw [← hcl] at hcap
 have hlev:=zd9 g p.lv (by omega) (by omega)
 rw [zfn]
 obtain ⟨C,hC⟩ : ∃ C,C = zaI g p:=⟨_,rfl⟩
 rw [← hC] at hcap hcl hcb ⊢
 have hGe : ∀ e ∈ (zaj g p.lv).edges,e ∈ g.edges:=fun e he=>(List.mem_filter.1 he).1
 have hGl : (zaj g p.lv).edges.length ≤ 500:=Nat.le_trans (List.length_filter_le ..) hel
 obtain ⟨G,hG⟩ : ∃ G,G = zaj g p.lv:=⟨_,rfl⟩
 rw [← hG] at hlev hGe hGl ⊢
 have hw1 : IntKind.i64.wrap (g.size - 1) = g.size - 1:=w64 (by omega) (by omega)
 have hfit : ∀ e ∈ G.edges,(0 ≤ e.f ∧ e.f < g.size) ∧ (0 ≤ e.t ∧ e.t < g.size):=fun e he=>by
  have:=hg.fits e (hGe e he)
  unfold Fits at this
  omega
 have hkey : ∀ k : Int,0 ≤ k → k < g.size → ∃ j : Nat,k = j ∧ j < C.length ∧ j < 64:=fun k h0 h1=>⟨k.toNat,by omega,by omega,by omega⟩
 have hseed : ∀ k ∈ p.seeds,∃ j : Nat,k = j ∧ j < C.length ∧ j < 64:=fun k hk=>by
  obtain ⟨i,hi,rfl⟩:=List.getElem_of_mem hk
  have:=hp.2.1 i hi
  exact hkey _ (by omega) (by omega)
 have hsink : ∀ k ∈ sinks,∃ j : Nat,k = j ∧ j < C.length ∧ j < 64:=fun k hk=>by
  obtain ⟨i,hi,rfl⟩:=List.getElem_of_mem hk
  have:=hr i hi
  exact hkey _ (by omega) (by omega)
 refine zab ⟨123,[(2,ints sinks),(3,.pv (gC g)),(4,.pv (pC p)),(6,.pt 32 0 0)],[(32,some ⟨2,[[.I 0,.nilS]],0⟩)],48⟩ rfl ?_ ?_
 ·simp
  exact Le.go [(32,32)] [16,24] rfl rfl (by simp) (by simp)
 refine zaa ?_
 refine rk (s:=?s2) [2,3,4,6,8] [32] rfl ?o2 ?q2
 case o2=>simp; refine zal hchk (by simp) ?_; simp; rfl
 refine rk (s:=?s3) [2,3,4,6,24] [32] rfl ?o3 ?q3
 case o3=>simp; rfl
 refine zac _ rfl (fun h4=>?_) fun h4=>zae ?_
 ·simp at h4
 refine zaa ?_
 refine rk (s:=?s5) [2,3,4,6,32] [32] rfl ?o5 ?q5
 case o5=>simp [hw1]; refine zal (zbX sinks 0 (g.size - 1) (by omega)) (by simp) ?_; simp [hr]; rfl
 refine zac _ rfl (fun h6=>?_) fun h6=>zae ?_
 ·simp at h6
 refine rk (s:=?s7) [2,3,4,6,9] [32,176] rfl ?o7 ?q7
 case o7=>simp; refine zal (zbO g.size hsz (by omega)) (by simp) ?_; simp; rfl
 obtain ⟨N,hN⟩ : ∃ N : Int,N = 2 + 2 * g.size:=⟨_,rfl⟩
 simp only [← hN]
 refine rk (s:=?s8) [2,3,4,6,9,10] [32,176] rfl ?o8 ?q8
 case o8=>simp; rfl
 refine zab ⟨123,[(2,ints sinks),(3,.pv (gC g)),(4,.pv (pC p)),(6,.pt 32 0 0),(9,.pt 176 0 0),(10,.fn (.func zaE) [] [.pt 176 0 0]),(11,ints C)],[(32,some ⟨2,[[.I 0,.nilS]],0⟩),(176,some ⟨2,[[.I N,.nilS]],0⟩)],240⟩ rfl ?_ ?_
 ·simp
  refine zaQ hcap (by simp) ?_
  simp [fcd]
  exact Le.go [(32,32),(176,176)] [224] rfl rfl (by simp [fcd,zao]) (by simp)
 have hb1 : (p.seeds.flatMap (arc1 C)).length ≤ 64:=Nat.le_trans (zb3 _ (zgV C) _) hs
 have hb2 : ((List.range C.length).flatMap (arc2 C)).length ≤ 64:=Nat.le_trans (zb3 _ (zgr C) _) (by rw [List.length_range]; omega)
 have hb3 : (sinks.flatMap (arc3 C)).length ≤ 64:=Nat.le_trans (zb3 _ (zgz C) _) hsl
 have hb4 : (G.edges.flatMap (arc4 C)).length ≤ 500:=Nat.le_trans (zb3 _ (zgZ C) _) hGl
 obtain ⟨X1,hX1⟩ : ∃ X,X = p.seeds.flatMap (arc1 C):=⟨_,rfl⟩
 obtain ⟨X2,hX2⟩ : ∃ X,X = (List.range C.length).flatMap (arc2 C):=⟨_,rfl⟩
 obtain ⟨X3,hX3⟩ : ∃ X,X = sinks.flatMap (arc3 C):=⟨_,rfl⟩
 obtain ⟨X4,hX4⟩ : ∃ X,X = G.edges.flatMap (arc4 C):=⟨_,rfl⟩
 obtain ⟨Z2,hZ2⟩ : ∃ Z,Z = X1 ++ X2:=⟨_,rfl⟩
 obtain ⟨Z3,hZ3⟩ : ∃ Z,Z = Z2 ++ X3:=⟨_,rfl⟩
 obtain ⟨Z4,hZ4⟩ : ∃ Z,Z = Z3 ++ X4:=⟨_,rfl⟩
 rw [← hX1] at hb1
 rw [← hX2] at hb2
 rw [← hX3] at hb3
 rw [← hX4] at hb4
 rw [← hX1,← hX2,← hX3,← hX4,← hZ2,← hZ3,← hZ4]
 have hz2 : Z2.length ≤ 128:=by rw [hZ2,List.length_append]; omega
 have hz3 : Z3.length ≤ 192:=by rw [hZ3,List.length_append]; omega
 refine zaa ?_
 refine rk (s:=?sa1) [2,3,4,6,9,10,11,43,44,45] [32,176] rfl ?oa1 ?qa1
 case oa1=>simp; rfl
 refine zaf ?_
 obtain ⟨Fa,Fa0,Fas,Fal,FaN⟩ : ∃ F : Nat → List Ed,F 0 = [] ∧ (∀ i (h : i < (p.seeds).length),F (i + 1) = F i ++ arc1 C (p.seeds)[i]) ∧ (∀ i,(F i).length ≤ 64) ∧ F (p.seeds).length = (p.seeds).flatMap (arc1 C) :=
  ⟨fun i=>((p.seeds).take i).flatMap (arc1 C),by simp,fun i h=>by simp only [zc8 _ _ i h,List.append_assoc],fun i=>by have:=zbo _ (zgV C) (p.seeds) i; exact Nat.le_trans this hs,by simp⟩
 rw [← hX1] at FaN
 refine zap (ι:=Nat) (fun i=>⟨123,[(2,ints sinks),(3,.pv (gC g)),(4,.pv (pC p)),(6,.pt 32 0 0),(9,.pt 176 0 0),(10,.fn (.func zaE) [] [.pt 176 0 0]),(11,ints C),(43,ints p.seeds),(44,.I p.seeds.length),(45,.I i)],[(32,some ⟨2,[[.I 0,.nilS]],0⟩),(176,some (outV N 16 (Fa i).length)),(16,some ⟨3,zaT (Fa i),0⟩)],272⟩) (fun i=>i ≤ p.seeds.length) (fun i=>p.seeds.length - i) 0 (Nat.zero_le _) (Le.lst [(32,32),(176,176)] [] [(16,3)] rfl (by simp) (by simp) (by simp) (by simp) (by simp) (by simp) (by simp) (by simp [Up]) (by simp [Fa0]; refine ⟨zaF.rfl' (by simp),zaF.row rfl (by omega) (by simp [UpL,Up])⟩)) ?_
 intro i hi
 refine rk (s:=?sa2) [2,3,4,6,9,10,11,43,44,45,46] [32,176,16] rfl ?oa2 ?qa2
 case oa2=>simp; rfl
 refine zaa ?_
 refine zac _ rfl (fun h7=>?_) fun h7=>?_
 ·simp at h7
  have hw : IntKind.i64.wrap ((i : Int) + 1) = (i : Int) + 1:=w64 (by omega) (by omega)
  have hFi:=Fal i
  obtain ⟨k,hk,hkC,hk64⟩:=hseed _ (List.getElem_mem h7)
  have hFn : Fa (i + 1) = Fa i ++ if 0 < C[k] then [⟨0,2 + 2 * (k : Int),C[k]⟩] else []:=by
   rw [Fas i h7,hk]
   unfold arc1
   simp [hkC]
  refine zae ?_
  refine zaH (ι:=Unit) (fun _=>⟨123,[(2,ints sinks),(3,.pv (gC g)),(4,.pv (pC p)),(6,.pt 32 0 0),(9,.pt 176 0 0),(10,.fn (.func zaE) [] [.pt 176 0 0]),(11,ints C),(43,ints p.seeds),(44,.I p.seeds.length),(45,.I i)],[(32,some ⟨2,[[.I 0,.nilS]],0⟩),(176,some (outV N 16 (Fa (i + 1)).length)),(16,some ⟨3,zaT (Fa (i + 1)),0⟩)],700⟩) (fun _=>True) ?_ fun _ _=>?_
  ·refine zaf ?_
   refine rk (s:=?sa3) [2,3,4,6,9,10,11,13,43,44,45] [32,176,16] rfl ?oa3 ?qa3
   case oa3=>simp [h7,hk]; rfl
   refine rk (s:=?sa4) [2,3,4,6,9,10,11,13,43,44,45,53] [32,176,16] rfl ?oa4 ?qa4
   case oa4=>simp [hkC]; rfl
   refine zac _ rfl (fun h8=>?_) fun h8=>?_
   ·simp at h8
    rw [if_pos h8] at hFn
    refine zbm rfl ?_
    simp [hkC]
    refine zal (zbO k (by omega) (by omega)) (by simp) ?_
    simp [hkC]
    refine zkw (i:=176) (j:=16) (by decide) rfl rfl (e1':=outV N 1 (Fa i).length) (e2':=⟨3,zaT (Fa i),0⟩) (by simp) (by simp [fcd]) (zow N 0 (2 + 2 * (k : Int)) C[k] (Fa i) _ rfl (by omega)) (by simp) (by simp) ?_
    simp [fcd]
    exact ⟨rfl,Le.go [(32,32),(176,176),(400,16)] [] rfl rfl (by simp [hFn]) (by simp [hFn,fcd])⟩
   ·simp at h8
    rw [if_neg (by omega)] at hFn
    refine zae ?_
    exact ⟨(),trivial,Le.go [(32,32),(176,176),(16,16)] [] rfl rfl (by simp [hFn]) (by simp [hFn,fcd])⟩
  refine zad (s:=?sa9) rfl ?oa9 ?qa9
  case oa9=>simp; rfl
  exact ⟨i + 1,by omega,by omega,Le.go [(32,32),(176,176),(16,16)] [] rfl rfl (by simp [hw]) (by simp [fcd])⟩
 simp at h7
 obtain rfl : i = p.seeds.length:=by omega
 rw [FaN]
 refine zan ?_
 refine hit ?_
 refine zaa ?_
 refine rk (s:=?sb1) [2,3,4,6,9,10,11,63,64,65] [32,176,16] rfl ?ob1 ?qb1
 case ob1=>simp; rfl
 refine zaf ?_
 obtain ⟨Fb,Fb0,Fbs,Fbl,FbN⟩ : ∃ F : Nat → List Ed,F 0 = X1 ∧ (∀ i (h : i < (List.range C.length).length),F (i + 1) = F i ++ arc2 C (List.range C.length)[i]) ∧ (∀ i,(F i).length ≤ 200) ∧ F (List.range C.length).length = X1 ++ (List.range C.length).flatMap (arc2 C) :=
  ⟨fun i=>X1 ++ ((List.range C.length).take i).flatMap (arc2 C),by simp,fun i h=>by simp only [zc8 _ _ i h,List.append_assoc],fun i=>by have:=zbo _ (zgr C) (List.range C.length) i; rw [List.length_range] at this; rw [List.length_append]; omega,by simp⟩
 rw [List.length_range,← hX2,← hZ2] at FbN
 refine zap (ι:=Nat) (fun i=>⟨123,[(2,ints sinks),(3,.pv (gC g)),(4,.pv (pC p)),(6,.pt 32 0 0),(9,.pt 176 0 0),(10,.fn (.func zaE) [] [.pt 176 0 0]),(11,ints C),(63,ints C),(64,.I C.length),(65,.I i)],[(32,some ⟨2,[[.I 0,.nilS]],0⟩),(176,some (outV N 16 (Fb i).length)),(16,some ⟨3,zaT (Fb i),0⟩)],304⟩) (fun i=>i ≤ C.length) (fun i=>C.length - i) 0 (Nat.zero_le _) (Le.go [(32,32),(176,176),(16,16)] [] rfl rfl (by simp [Fb0]) (by simp [Fb0,fcd])) ?_
 intro i hi
 refine rk (s:=?sb2) [2,3,4,6,9,10,11,63,64,65,66] [32,176,16] rfl ?ob2 ?qb2
 case ob2=>simp; rfl
 refine zaa ?_
 refine zac _ rfl (fun h7=>?_) fun h7=>?_
 ·simp at h7
  have hw : IntKind.i64.wrap ((i : Int) + 1) = (i : Int) + 1:=w64 (by omega) (by omega)
  have hFi:=Fbl i
  have hkC:=h7
  have hFn : Fb (i + 1) = Fb i ++ if 0 < C[i] then [⟨2 + 2 * (i : Int),3 + 2 * (i : Int),C[i] - 1⟩] else []:=by
   rw [Fbs i (by simpa using h7)]
   unfold arc2
   simp [hkC]
  have hci:=hcb _ (List.getElem_mem h7)
  have hwc : IntKind.i64.wrap (C[i] - 1) = C[i] - 1:=w64 (by omega) (by omega)
  refine zae ?_
  refine zaH (ι:=Unit) (fun _=>⟨123,[(2,ints sinks),(3,.pv (gC g)),(4,.pv (pC p)),(6,.pt 32 0 0),(9,.pt 176 0 0),(10,.fn (.func zaE) [] [.pt 176 0 0]),(11,ints C),(63,ints C),(64,.I C.length),(65,.I i)],[(32,some ⟨2,[[.I 0,.nilS]],0⟩),(176,some (outV N 16 (Fb (i + 1)).length)),(16,some ⟨3,zaT (Fb (i + 1)),0⟩)],700⟩) (fun _=>True) ?_ fun _ _=>?_
  ·refine zaf ?_
   refine rk (s:=?sb3) [2,3,4,6,9,10,11,14,15,63,64,65] [32,176,16] rfl ?ob3 ?qb3
   case ob3=>simp [h7]; rfl
   refine rk (s:=?sb4) [2,3,4,6,9,10,11,14,15,63,64,65,71] [32,176,16] rfl ?ob4 ?qb4
   case ob4=>simp [hkC]; rfl
   refine zac _ rfl (fun h8=>?_) fun h8=>?_
   ·simp at h8
    rw [if_pos h8] at hFn
    refine zau rfl ?_
    simp [hkC]
    refine zal (zbO i (by omega) (by omega)) (by simp) ?_
    simp [hkC,hwc]
    refine zal (zgy i (by omega) (by omega)) (by simp) ?_
    simp [hkC,hwc]
    refine zkw (i:=176) (j:=16) (by decide) rfl rfl (e1':=outV N 1 (Fb i).length) (e2':=⟨3,zaT (Fb i),0⟩) (by simp) (by simp [fcd]) (zow N (2 + 2 * (i : Int)) (3 + 2 * (i : Int)) (C[i] - 1) (Fb i) _ rfl (by omega)) (by simp) (by simp) ?_
    simp [fcd]
    exact Le.go [(32,32),(176,176),(424,16)] [] rfl rfl (by simp [hFn]) (by simp [hFn,fcd])
   ·simp at h8
    rw [if_neg (by omega)] at hFn
    refine zae ?_
    exact ⟨(),trivial,Le.go [(32,32),(176,176),(16,16)] [] rfl rfl (by simp [hFn]) (by simp [hFn,fcd])⟩
  refine zad (s:=?sb9) rfl ?ob9 ?qb9
  case ob9=>simp; rfl
  exact ⟨i + 1,by omega,by omega,Le.go [(32,32),(176,176),(16,16)] [] rfl rfl (by simp [hw]) (by simp [fcd])⟩
 simp at h7
 obtain rfl : i = C.length:=by omega
 rw [FbN]
 refine zan ?_
 refine hit ?_
 refine zaa ?_
 refine rk (s:=?sc1) [3,4,6,9,10,11,81,82,83] [32,176,16] rfl ?oc1 ?qc1
 case oc1=>simp; rfl
 refine zaf ?_
 obtain ⟨Fc,Fc0,Fcs,Fcl,FcN⟩ : ∃ F : Nat → List Ed,F 0 = Z2 ∧ (∀ i (h : i < (sinks).length),F (i + 1) = F i ++ arc3 C (sinks)[i]) ∧ (∀ i,(F i).length ≤ 300) ∧ F (sinks).length = Z2 ++ (sinks).flatMap (arc3 C) :=
  ⟨fun i=>Z2 ++ ((sinks).take i).flatMap (arc3 C),by simp,fun i h=>by simp only [zc8 _ _ i h,List.append_assoc],fun i=>by have:=zbo _ (zgz C) (sinks) i; simp only [List.length_append]; omega,by simp⟩
 rw [← hX3,← hZ3] at FcN
 refine zap (ι:=Nat) (fun i=>⟨123,[(3,.pv (gC g)),(4,.pv (pC p)),(6,.pt 32 0 0),(9,.pt 176 0 0),(10,.fn (.func zaE) [] [.pt 176 0 0]),(11,ints C),(81,ints sinks),(82,.I sinks.length),(83,.I i)],[(32,some ⟨2,[[.I 0,.nilS]],0⟩),(176,some (outV N 16 (Fc i).length)),(16,some ⟨3,zaT (Fc i),0⟩)],336⟩) (fun i=>i ≤ sinks.length) (fun i=>sinks.length - i) 0 (Nat.zero_le _) (Le.go [(32,32),(176,176),(16,16)] [] rfl rfl (by simp [Fc0]) (by simp [Fc0,fcd])) ?_
 intro i hi
 refine rk (s:=?sc2) [3,4,6,9,10,11,81,82,83,84] [32,176,16] rfl ?oc2 ?qc2
 case oc2=>simp; rfl
 refine zaa ?_
 refine zac _ rfl (fun h7=>?_) fun h7=>?_
 ·simp at h7
  have hw : IntKind.i64.wrap ((i : Int) + 1) = (i : Int) + 1:=w64 (by omega) (by omega)
  have hFi:=Fcl i
  obtain ⟨k,hk,hkC,hk64⟩:=hsink _ (List.getElem_mem h7)
  have hFn : Fc (i + 1) = Fc i ++ if 0 < C[k] then [⟨2 + 2 * (k : Int),1,1⟩] else []:=by
   rw [Fcs i h7,hk]
   unfold arc3
   simp [hkC]
  refine zae ?_
  refine zaH (ι:=Unit) (fun _=>⟨123,[(3,.pv (gC g)),(4,.pv (pC p)),(6,.pt 32 0 0),(9,.pt 176 0 0),(10,.fn (.func zaE) [] [.pt 176 0 0]),(11,ints C),(81,ints sinks),(82,.I sinks.length),(83,.I i)],[(32,some ⟨2,[[.I 0,.nilS]],0⟩),(176,some (outV N 16 (Fc (i + 1)).length)),(16,some ⟨3,zaT (Fc (i + 1)),0⟩)],700⟩) (fun _=>True) ?_ fun _ _=>?_
  ·refine zaf ?_
   refine rk (s:=?sc3) [3,4,6,9,10,11,17,81,82,83] [32,176,16] rfl ?oc3 ?qc3
   case oc3=>simp [h7,hk]; rfl
   refine rk (s:=?sc4) [3,4,6,9,10,11,17,81,82,83,91] [32,176,16] rfl ?oc4 ?qc4
   case oc4=>simp [hkC]; rfl
   refine zac _ rfl (fun h8=>?_) fun h8=>?_
   ·simp at h8
    rw [if_pos h8] at hFn
    refine zau rfl ?_
    simp [hkC]
    refine zal (zbO k (by omega) (by omega)) (by simp) ?_
    simp [hkC]
    refine zkw (i:=176) (j:=16) (by decide) rfl rfl (e1':=outV N 1 (Fc i).length) (e2':=⟨3,zaT (Fc i),0⟩) (by simp) (by simp [fcd]) (zow N (2 + 2 * (k : Int)) 1 1 (Fc i) _ rfl (by omega)) (by simp) (by simp) ?_
    simp [fcd]
    exact Le.go [(32,32),(176,176),(432,16)] [] rfl rfl (by simp [hFn]) (by simp [hFn,fcd])
   ·simp at h8
    rw [if_neg (by omega)] at hFn
    refine zae ?_
    exact ⟨(),trivial,Le.go [(32,32),(176,176),(16,16)] [] rfl rfl (by simp [hFn]) (by simp [hFn,fcd])⟩
  refine zad (s:=?sc9) rfl ?oc9 ?qc9
  case oc9=>simp; rfl
  exact ⟨i + 1,by omega,by omega,Le.go [(32,32),(176,176),(16,16)] [] rfl rfl (by simp [hw]) (by simp [fcd])⟩
 simp at h7
 obtain rfl : i = sinks.length:=by omega
 rw [FcN]
 refine zan ?_
 refine hit ?_
 refine zaa ?_
 refine rk (s:=?sd1) [6,9,10,11,101,102,103] [32,176,16] rfl ?od1 ?qd1
 case od1=>simp; refine zal hlev (by simp) ?_; simp; rfl
 refine zaf ?_
 obtain ⟨Fd,Fd0,Fds,Fdl,FdN⟩ : ∃ F : Nat → List Ed,F 0 = Z3 ∧ (∀ i (h : i < (G.edges).length),F (i + 1) = F i ++ arc4 C (G.edges)[i]) ∧ (∀ i,(F i).length ≤ 900) ∧ F (G.edges).length = Z3 ++ (G.edges).flatMap (arc4 C) :=
  ⟨fun i=>Z3 ++ ((G.edges).take i).flatMap (arc4 C),by simp,fun i h=>by simp only [zc8 _ _ i h,List.append_assoc],fun i=>by have:=zbo _ (zgZ C) (G.edges) i; simp only [List.length_append]; omega,by simp⟩
 rw [← hX4,← hZ4] at FdN
 refine zap (ι:=Nat) (fun i=>⟨123,[(6,.pt 32 0 0),(9,.pt 176 0 0),(10,.fn (.func zaE) [] [.pt 176 0 0]),(11,ints C),(101,eEs G.edges),(102,.I G.edges.length),(103,.I i)],[(32,some ⟨2,[[.I 0,.nilS]],0⟩),(176,some (outV N 16 (Fd i).length)),(16,some ⟨3,zaT (Fd i),0⟩)],400⟩) (fun i=>i ≤ G.edges.length) (fun i=>G.edges.length - i) 0 (Nat.zero_le _) (Le.go [(32,32),(176,176),(16,16)] [] rfl rfl (by simp [Fd0]) (by simp [Fd0,fcd])) ?_
 intro i hi
 refine rk (s:=?sd2) [6,9,10,11,101,102,103,104] [32,176,16] rfl ?od2 ?qd2
 case od2=>simp; rfl
 refine zaa ?_
 refine zac _ rfl (fun h7=>?_) fun h7=>?_
 ·simp at h7
  have hw : IntKind.i64.wrap ((i : Int) + 1) = (i : Int) + 1:=w64 (by omega) (by omega)
  have hFi:=Fdl i
  obtain ⟨x,hx⟩ : ∃ x,x = G.edges[i]:=⟨_,rfl⟩
  have hfx:=hfit _ (List.getElem_mem h7)
  rw [← hx] at hfx
  obtain ⟨k,hk,hkC,hk64⟩:=hkey x.f hfx.1.1 hfx.1.2
  obtain ⟨u,hu,huC,hu64⟩:=hkey x.t hfx.2.1 hfx.2.2
  have hFn : Fd (i + 1) = Fd i ++ if 0 < C[k] then [⟨3 + 2 * (k : Int),2 + 2 * (u : Int),64⟩] else []:=by
   rw [Fds i h7,← hx]
   unfold arc4
   rw [hk,hu]
   simp [hkC]
  refine zae ?_
  refine zaH (ι:=Unit) (fun _=>⟨123,[(6,.pt 32 0 0),(9,.pt 176 0 0),(10,.fn (.func zaE) [] [.pt 176 0 0]),(11,ints C),(101,eEs G.edges),(102,.I G.edges.length),(103,.I i)],[(32,some ⟨2,[[.I 0,.nilS]],0⟩),(176,some (outV N 16 (Fd (i + 1)).length)),(16,some ⟨3,zaT (Fd (i + 1)),0⟩)],700⟩) (fun _=>True) ?_ fun _ _=>?_
  ·refine zaf ?_
   refine zab ⟨123,[(6,.pt 32 0 0),(9,.pt 176 0 0),(10,.fn (.func zaE) [] [.pt 176 0 0]),(11,ints C),(19,.pv (eC x)),(101,eEs G.edges),(102,.I G.edges.length),(103,.I i)],[(32,some ⟨2,[[.I 0,.nilS]],0⟩),(176,some (outV N 16 (Fd i).length)),(16,some ⟨3,zaT (Fd i),0⟩)],440⟩ rfl ?_ ?_
   ·simp [h7,← hx]
    exact Le.go [(32,32),(176,176),(16,16)] [424] rfl rfl (by simp) (by simp [fcd])
   refine rk (s:=?sd4) [6,9,10,11,19,101,102,103,112] [32,176,16] rfl ?od4 ?qd4
   case od4=>simp [hk,hkC]; rfl
   refine zac _ rfl (fun h8=>?_) fun h8=>?_
   ·simp at h8
    rw [if_pos h8] at hFn
    refine zbm rfl ?_
    simp [hk,hu]
    refine zal (zgy k (by omega) (by omega)) (by simp) ?_
    simp [hkC]
    refine zal (zbO u (by omega) (by omega)) (by simp) ?_
    simp [hkC]
    refine zkw (i:=176) (j:=16) (by decide) rfl rfl (e1':=outV N 1 (Fd i).length) (e2':=⟨3,zaT (Fd i),0⟩) (by simp) (by simp [fcd]) (zow N (3 + 2 * (k : Int)) (2 + 2 * (u : Int)) 64 (Fd i) _ rfl (by omega)) (by simp) (by simp) ?_
    simp [fcd]
    exact ⟨rfl,Le.go [(32,32),(176,176),(544,16)] [] rfl rfl (by simp [hFn]) (by simp [hFn,fcd])⟩
   ·simp at h8
    rw [if_neg (by omega)] at hFn
    refine zae ?_
    exact ⟨(),trivial,Le.go [(32,32),(176,176),(16,16)] [] rfl rfl (by simp [hFn]) (by simp [hFn,fcd])⟩
  refine zad (s:=?sd9) rfl ?od9 ?qd9
  case od9=>simp; rfl
  exact ⟨i + 1,by omega,by omega,Le.go [(32,32),(176,176),(16,16)] [] rfl rfl (by simp [hw]) (by simp [fcd])⟩
 simp at h7
 obtain rfl : i = G.edges.length:=by omega
 rw [FdN]
 refine zan ?_
 refine hit ?_
 refine rk (s:=?sz) [6,7] [32,16] rfl ?oz ?qz
 case oz=>simp; rfl
 refine zah ?_
 exact ⟨.inr rfl,zam.out [] [16] rfl (by simp) (by simp) (by simp [hN,fcd,zao]) (by simp)⟩
end Go.Proofs.YteiabadhhhckfaaGreat
