/- Texts of this claim,merged. -/
import Derived.Test.YteiabadhhhckfaaGreatRg10
import Derived.Test.YteiabadhhhckfaaGreatRg11
set_option linter.unusedSimpArgs false
set_option linter.unusedVariables false
set_option linter.unusedSectionVars false
namespace Go.Proofs.YteiabadhhhckfaaGreat
open Go
section
variable {P : Program} {np id : Nat} {h : Nat → Option Ent} {K : AV → List Nat → List (Nat × Option Ent) → Prop}
theorem zt9 {s i off len : Nat} (l : Nat) {e : Ent} (he : h i = some e) (hs : e.s = s) (hl : l ≤ len) (hK : K (.rs i (off + l) (len - l)) [i] []) : aK P np id (.slc s true false false) [.rs i off len,.sc (.int .i64 l)] h K:=by
 rw [ziD]
 exact ⟨l,len,0,len,rfl,hl,rfl,by simp,by simp,by simp,Nat.le_refl _,rfl,⟨e,he,hs⟩,hK⟩
theorem zwo {s i off len : Nat} (r : Nat) {e : Ent} (he : h i = some e) (hs : e.s = s) (hr : r ≤ len) (hK : K (.rs i off r) [i] []) : aK P np id (.slc s false true false) [.rs i off len,.sc (.int .i64 r)] h K:=by
 rw [ziD]
 exact ⟨0,r,0,len,rfl,Nat.zero_le _,rfl,by simp,by simp,by simp,hr,rfl,⟨e,he,hs⟩,hK⟩
end
structure BSt where
 D : List Int
 b : List Int
 Z : List Int
 off : Nat
 q : Nat
structure BInv (N : Nat) (A : List Ed) (f : List Int) (s : BSt) (m : Nat) : Prop where
 bfs : Bfs N A f s.D s.b
 z : s.off + s.q = s.Z.length
 d : m + s.q = s.D.length
 same : s.Z.drop s.off = s.D.drop m
section
variable {N : Nat} {A : List Ed} {f : List Int}
theorem ztP {i : Nat} {k : Int} {D b : List Int} (hi : i < A.length) (hf : i < f.length) : tryS A f k (i,false) (D,b) = if A[i].f = k ∧ f[i] < A[i].v ∧ A[i].t ∉ D then (D ++ [A[i].t],b.set A[i].t.toNat ((i : Int) + 1)) else (D,b):=by
 have he : arcD A i = A[i]:=by unfold arcD; rw [List.getD_eq_getElem?_getD,List.getElem?_eq_getElem hi,Option.getD_some]
 have hg : f.getD i 0 = f[i]:=by rw [List.getD_eq_getElem?_getD,List.getElem?_eq_getElem hf,Option.getD_some]
 unfold tryS stF stT zbd encS
 simp only [Bool.false_eq_true,if_false,he,hg,Int.sub_pos]
theorem ztL {i : Nat} {k : Int} {D b : List Int} (hi : i < A.length) (hf : i < f.length) : tryS A f k (i,true) (D,b) = if A[i].t = k ∧ 0 < f[i] ∧ A[i].f ∉ D then (D ++ [A[i].f],b.set A[i].f.toNat (-((i : Int) + 1))) else (D,b):=by
 have he : arcD A i = A[i]:=by unfold arcD; rw [List.getD_eq_getElem?_getD,List.getElem?_eq_getElem hi,Option.getD_some]
 have hg : f.getD i 0 = f[i]:=by rw [List.getD_eq_getElem?_getD,List.getElem?_eq_getElem hf,Option.getD_some]
 unfold tryS stF stT zbd encS
 simp only [if_true,he,hg]
theorem BInv.more {s : BSt} {m : Nat} (h : BInv N A f s m) {x : Int} {b' : List Int} (hb : Bfs N A f (s.D ++ [x]) b') : BInv N A f ⟨s.D ++ [x],b',s.Z.drop s.off ++ [x],0,s.q + 1⟩ m:=by
 have h1:=h.z
 have h2:=h.d
 refine ⟨hb,?_,?_,?_⟩
 ·simp only [List.length_append,List.length_drop,List.length_singleton]; omega
 ·simp only [List.length_append,List.length_singleton]; omega
 ·simp only [List.drop_zero]
  rw [h.same,List.drop_append_of_le_length (by omega)]
theorem BInv.pop {s : BSt} {m : Nat} (h : BInv N A f s m) (hq : 0 < s.q) : BInv N A f { s with off:=s.off + 1,q:=s.q - 1 } (m + 1):=by
 have h1:=h.z
 have h2:=h.d
 refine ⟨h.bfs,by simp only; omega,by simp only; omega,?_⟩
 simp only
 rw [← List.drop_drop,h.same,List.drop_drop]
theorem BInv.head {s : BSt} {m : Nat} (h : BInv N A f s m) (hq : 0 < s.q) : ∃ hm : m < s.D.length,s.Z[s.off]? = some s.D[m]:=by
 have h1:=h.z
 have h2:=h.d
 refine ⟨by omega,?_⟩
 have e : (s.Z.drop s.off)[0]? = (s.D.drop m)[0]?:=by rw [h.same]
 rw [List.getElem?_drop,List.getElem?_drop,Nat.add_zero,Nat.add_zero] at e
 rw [e,List.getElem?_eq_getElem (by omega)]
end
set_option maxRecDepth 100000 in
set_option maxHeartbeats 4000000 in
theorem zly (N : Nat) (A : List Ed) (f : List Int) (hn : za7 ⟨N,A⟩) (hf : f.length = A.length) :
  ∃ x : List Int × List Int,(Bfs N A f x.1 x.2 ∧ zex A f x.1) ∧ zak Tryz.prog zcM [eN ⟨N,A⟩,ints f] [] (.rs 0 0 N) [some ⟨1,zae x.2,0⟩]:=by
 refine zj3.acallsX (args:=[eN ⟨N,A⟩,ints f]) (hs:=[]) (fun x=>.rs 0 0 N) (fun x=>[some ⟨1,zae x.2,0⟩]) (fun x : List Int × List Int=>Bfs N A f x.1 x.2 ∧ zex A f x.1) (nbz rfl) (nbz rfl) (fun _=>by simp) ?_
 show awp _ 0 _ _ ⟨112,[(0,eN ⟨N,A⟩),(1,ints f)],[],16⟩
 obtain ⟨hn0,hn1,hal,hav⟩:=hn
 simp only at hn0 hn1 hal hav
 refine rx (s:=?s1) [1,2] [] [16] rfl ?o1 ?q1
 case o1=>simp; rfl
 refine zaa ⟨112,[(1,ints f),(2,.pv (nC ⟨N,A⟩)),(5,.rs 48 0 N)],[(48,some ⟨1,zae (List.replicate N 0),0⟩)],56⟩ rfl ?_ ?_
 ·simp
  refine ⟨by omega,by omega,?_⟩
  exact LeH [(48,48)] []
 refine zaa ⟨112,[(1,ints f),(2,.pv (nC ⟨N,A⟩)),(5,.rs 48 0 N),(6,.rs 80 0 N)],[(48,some ⟨1,zae (List.replicate N 0),0⟩),(80,some ⟨1,zh0 (List.replicate N false),0⟩)],88⟩ rfl ?_ ?_
 ·simp
  refine ⟨by omega,?_⟩
  exact LeH [(48,48),(72,80)] []
 have hmf:=zog (N:=N) (by omega)
 refine zaa ⟨112,[(1,ints f),(2,.pv (nC ⟨N,A⟩)),(5,.rs 48 0 N),(6,.rs 80 0 N)],[(48,some ⟨1,zae (List.replicate N 0),0⟩),(80,some ⟨1,zh0 (zbR N [0]),0⟩)],112⟩ rfl ?_ ?_
 ·have h0 : 0 < N:=by omega
  simp [h0,zaw]
  exact Le.go [(48,48),(80,80)] [] rfl rfl (by simp) (by simp [← hmf])
 refine zaa ⟨112,[(1,ints f),(2,.pv (nC ⟨N,A⟩)),(5,.rs 48 0 N),(6,.rs 80 0 N),(7,.rs 120 0 1)],[(48,some ⟨1,zae (List.replicate N 0),0⟩),(80,some ⟨1,zh0 (zbR N [0]),0⟩),(120,some ⟨1,zae [0],0⟩)],136⟩ rfl ?_ ?_
 ·simp
  exact LeH [(48,48),(80,80),(112,120)] []
 refine zab ?_
 refine zaf ?_
 refine zao (ι:=BSt × Nat) (fun s=>⟨112,[(1,ints f),(2,.pv (nC ⟨N,A⟩)),(5,.rs 48 0 N),(6,.rs 80 0 N),(7,.rs 120 s.1.off s.1.q)],[(48,some ⟨1,zae s.1.b,0⟩),(80,some ⟨1,zh0 (zbR N s.1.D),0⟩),(120,some ⟨1,zae s.1.Z,0⟩)],136⟩)
  (fun s=>BInv N A f s.1 s.2 ∧ zeR A f s.1.D s.2) (fun s=>N - s.2) (⟨[0],List.replicate N 0,[0],0,1⟩,0)
  ⟨⟨Bfs.start (by omega),rfl,rfl,rfl⟩,fun s _ h=>by simp at h⟩ (LeH [(48,48),(80,80),(120,120)] []) ?_
 rintro ⟨s,m⟩ ⟨hb,hcl⟩
 simp only at hb hcl
 have hfew:=hb.bfs.few
 have hbd:=hb.d
 have hbz:=hb.z
 refine zab ?_
 refine rk (s:=?s6) [1,2,5,6,7,22] [48,80,120] rfl ?o6 ?q6
 case o6=>simp; rfl
 refine zac _ rfl (fun h7=>?_) fun h7=>?_
 ·simp at h7
  obtain ⟨hmD,hk⟩:=hb.head h7
  have hoff : s.off < s.Z.length:=by omega
  obtain ⟨k,hkd⟩ : ∃ k,k = s.D[m]:=⟨_,rfl⟩
  rw [← hkd] at hk
  have hkD : k ∈ s.D:=hkd ▸ List.getElem_mem hmD
  refine zad ?_
  refine zaf ?_
  refine rk (s:=?s8) [1,2,5,6,7,8] [48,80,120] rfl ?o8 ?q8
  case o8=>simp [hk,h7]; rfl
  refine zaa ⟨112,[(1,ints f),(2,.pv (nC ⟨N,A⟩)),(5,.rs 48 0 N),(6,.rs 80 0 N),(7,.rs 120 (s.off + 1) (s.q - 1)),(8,.I k)],[(48,some ⟨1,zae s.b,0⟩),(80,some ⟨1,zh0 (zbR N s.D),0⟩),(120,some ⟨1,zae s.Z,0⟩)],300⟩ rfl ?_ ?_
  ·simp
   refine zt9 1 (i:=120) rfl rfl h7 ?_
   simp
   exact LeH [(48,48),(80,80),(120,120)] []
  have hpop:=hb.pop h7
  refine rk (s:=?s10) [1,2,5,6,7,8,9] [48,80,120] rfl ?o10 ?q10
  case o10=>simp; rfl
  refine zaf ?_
  refine zao (ι:=BSt × Nat) (fun s=>⟨112,[(1,ints f),(2,.pv (nC ⟨N,A⟩)),(5,.rs 48 0 N),(6,.rs 80 0 N),(7,.rs 120 s.1.off s.1.q),(8,.I k),(9,.I s.2)],[(48,some ⟨1,zae s.1.b,0⟩),(80,some ⟨1,zh0 (zbR N s.1.D),0⟩),(120,some ⟨1,zae s.1.Z,0⟩)],400⟩)
   (fun t=>BInv N A f t.1 (m + 1) ∧ t.2 ≤ A.length ∧ zeZ A f t.1.D k t.2 ∧ ∃ l,t.1.D = s.D ++ l) (fun t=>A.length - t.2) ({ s with off:=s.off + 1,q:=s.q - 1 },0)
   ⟨hpop,Nat.zero_le _,fun s h=>by omega,[],by simp⟩ (LeH [(48,48),(80,80),(120,120)] []) ?_
  rintro ⟨t,i⟩ ⟨ht,hi,htc,l,htl⟩
  simp only at ht hi htc htl
  refine zab ?_
  refine rk (s:=?s11) [1,2,5,6,7,8,9,32] [48,80,120] rfl ?o11 ?q11
  case o11=>simp; rfl
  refine zac _ rfl (fun h12=>?_) fun h12=>?_
  ·simp at h12
   have hif : i < f.length:=by omega
   have hw : IntKind.i64.wrap ((i : Int) + 1) = (i : Int) + 1:=w64 (by omega) (by omega)
   have hw2 : IntKind.i64.wrap (-((i : Int) + 1)) = -((i : Int) + 1):=w64 (by omega) (by omega)
   obtain ⟨e,he⟩ : ∃ e,e = A[i]:=⟨_,rfl⟩
   obtain ⟨v,hv⟩ : ∃ v,v = f[i]:=⟨_,rfl⟩
   have hfwd:=fun (D b : List Int)=>ztP (k:=k) (D:=D) (b:=b) h12 hif
   have hbwd:=fun (D b : List Int)=>ztL (k:=k) (D:=D) (b:=b) h12 hif
   rw [← he,← hv] at hfwd hbwd
   have heo:=hav _ (List.getElem_mem h12)
   rw [← he] at heo
   obtain ⟨e1,e2,e3,e4,_⟩:=heo
   have hg1 : A[i]? = some e:=by rw [List.getElem?_eq_getElem h12,he]
   have hg2 : f[i]? = some v:=by rw [List.getElem?_eq_getElem hif,hv]
   have hkt : k ∈ t.D:=by rw [htl]; exact List.mem_append_left _ hkD
   refine zad ?_
   refine zaI (ι:=BSt) (fun u=>⟨112,[(1,ints f),(2,.pv (nC ⟨N,A⟩)),(5,.rs 48 0 N),(6,.rs 80 0 N),(7,.rs 120 u.off u.q),(8,.I k),(9,.I i)],[(48,some ⟨1,zae u.b,0⟩),(80,some ⟨1,zh0 (zbR N u.D),0⟩),(120,some ⟨1,zae u.Z,0⟩)],2000⟩)
    (fun u=>BInv N A f u (m + 1) ∧ zeZ A f u.D k (i + 1) ∧ ∃ l,u.D = t.D ++ l) ?_ fun u hu=>?_
   ·refine zaf ?_
    refine zaa ⟨112,[(1,ints f),(2,.pv (nC ⟨N,A⟩)),(5,.rs 48 0 N),(6,.rs 80 0 N),(7,.rs 120 t.off t.q),(8,.I k),(9,.I i),(10,.pv (eC e))],[(48,some ⟨1,zae t.b,0⟩),(80,some ⟨1,zh0 (zbR N t.D),0⟩),(120,some ⟨1,zae t.Z,0⟩)],600⟩ rfl ?_ ?_
    ·simp [h12,← he]
     exact LeH [(48,48),(80,80),(120,120)] [480]
    refine zaI (ι:=BSt) (fun u=>⟨112,[(1,ints f),(2,.pv (nC ⟨N,A⟩)),(5,.rs 48 0 N),(6,.rs 80 0 N),(7,.rs 120 u.off u.q),(8,.I k),(9,.I i),(10,.pv (eC e))],[(48,some ⟨1,zae u.b,0⟩),(80,some ⟨1,zh0 (zbR N u.D),0⟩),(120,some ⟨1,zae u.Z,0⟩)],1000⟩)
     (fun u=>BInv N A f u (m + 1) ∧ (u.D,u.b) = tryS A f k (i,false) (t.D,t.b)) ?_ fun u hu=>?_
    ·have hmk : (zbR N t.D)[e.t.toNat]? = some (decide (e.t ∈ t.D)):=zf4 e3 (by omega)
     have hlt : e.t.toNat < N:=by omega
     have hlt2 : e.t < (N : Int):=by omega
     refine zaq ⟨112,[(1,ints f),(2,.pv (nC ⟨N,A⟩)),(5,.rs 48 0 N),(6,.rs 80 0 N),(7,.rs 120 t.off t.q),(8,.I k),(9,.I i),(10,.pv (eC e)),(60,.B (decide (e.f = k ∧ v < e.v ∧ e.t ∉ t.D)))],[(48,some ⟨1,zae t.b,0⟩),(80,some ⟨1,zh0 (zbR N t.D),0⟩),(120,some ⟨1,zae t.Z,0⟩)],800⟩ rfl ?_ ?_
     ·by_cases hm : e.t ∈ t.D
      ·rw [decide_eq_true hm] at hmk
       simp
       repeat' first
        | (refine zb2 (fun hb=>?_) (fun hb=>?_) <;> (try rw [hb]) <;> (try simp at hb) <;> simp [hb,hmk,hg2,e3,hlt2,hif,← hv])
       all_goals exact ⟨rfl,Le.go [(48,48),(80,80),(120,120)] [] rfl rfl (by simp [hb,hm]) (by simp)⟩
      ·rw [decide_eq_false hm] at hmk
       simp
       repeat' first
        | (refine zb2 (fun hb=>?_) (fun hb=>?_) <;> (try rw [hb]) <;> (try simp at hb) <;> simp [hb,hmk,hg2,e3,hlt2,hif,← hv])
       all_goals exact ⟨rfl,Le.go [(48,48),(80,80),(120,120)] [] rfl rfl (by simp [hm]) (by simp)⟩
     refine zac _ rfl (fun h15=>?_) fun h15=>?_
     ·rw [decide_eq_true_eq] at h15
      have hs1:=hfwd t.D t.b
      rw [if_pos h15] at hs1
      have hbk : ∃ y,t.b[e.t.toNat]? = some y:=⟨_,List.getElem?_eq_getElem (by rw [ht.bfs.len]; omega)⟩
      obtain ⟨y,hy⟩:=hbk
      have hbl : e.t.toNat < t.b.length:=by rw [ht.bfs.len]; omega
      have hbt : ∀ g : Int → List AV,List.take t.q (List.drop t.off (List.map g t.Z)) = List.map g (t.Z.drop t.off):=fun g=>by rw [← List.map_drop,List.take_of_length_le (by have:=ht.z; simp; omega)]
      have htz:=ht.z
      have htd:=ht.d
      have hms:=zid (D:=t.D) e3 hlt2
      have hbu : Bfs N A f (t.D ++ [e.t]) (t.b.set e.t.toNat ((i : Int) + 1)):=by
       have h3:=zrS (A:=A) (f:=f) (k:=k) (s:=(i,false)) (st:=(t.D,t.b)) ht.bfs hkt h12 (by unfold stT arcD; rw [List.getD_eq_getElem?_getD,hg1]; exact e3) (by unfold stT arcD; rw [List.getD_eq_getElem?_getD,hg1]; exact hlt2)
       rw [hs1] at h3
       exact h3
      have hfw:=hbu.few
      rw [List.length_append,List.length_singleton] at hfw
      refine zaq ⟨112,[(1,ints f),(2,.pv (nC ⟨N,A⟩)),(5,.rs 48 0 N),(6,.rs 80 0 N),(7,.rs 120 t.off t.q),(8,.I k),(9,.I i),(10,.pv (eC e))],[(48,some ⟨1,zae (t.b.set e.t.toNat ((i : Int) + 1)),0⟩),(80,some ⟨1,zh0 (zbR N (t.D ++ [e.t])),0⟩),(120,some ⟨1,zae t.Z,0⟩)],900⟩ rfl ?_ ?_
      ·simp [hmk,e3,hlt2,hw,hy,zaw]
       exact ⟨rfl,Le.go [(48,48),(80,80),(120,120)] [] rfl rfl (by simp) (by simp [← hms,fcd])⟩
      refine zar rfl ?_
      simp [hbt]
      exact ⟨by omega,by omega,by omega,⟨t.D ++ [e.t],t.b.set e.t.toNat ((i : Int) + 1),t.Z.drop t.off ++ [e.t],0,t.q + 1⟩,⟨ht.more hbu,hs1.symm⟩,LeI [(48,48),(80,80),(932,120)] []⟩
     ·rw [decide_eq_false_iff_not] at h15
      have hs1:=hfwd t.D t.b
      rw [if_neg h15] at hs1
      refine zad ?_
      exact ⟨t,⟨ht,hs1.symm⟩,LeH [(48,48),(80,80),(120,120)] []⟩
    obtain ⟨hu1,hu2⟩:=hu
    have hku : k ∈ u.D:=by
     obtain ⟨l1,e1⟩:=zi2 (A:=A) (f:=f) (k:=k) (s:=(i,false)) (st:=(t.D,t.b))
     rw [← hu2] at e1
     simp only at e1
     rw [e1]
     exact List.mem_append_left _ hkt
    have hul : ∃ l,u.D = t.D ++ l:=by
     obtain ⟨l1,e1⟩:=zi2 (A:=A) (f:=f) (k:=k) (s:=(i,false)) (st:=(t.D,t.b))
     rw [← hu2] at e1
     exact ⟨l1,e1⟩
    have hcl2 : zeZ A f (tryS A f k (i,true) (u.D,u.b)).1 k (i + 1):=by
     rw [hu2]
     exact zeZ.try2 (st:=(t.D,t.b)) htc
    have hmk : (zbR N u.D)[e.f.toNat]? = some (decide (e.f ∈ u.D)):=zf4 e1 (by omega)
    have hlt : e.f.toNat < N:=by omega
    have hlt2 : e.f < (N : Int):=by omega
    have hub:=hbwd u.D u.b
    refine zaa ⟨112,[(1,ints f),(2,.pv (nC ⟨N,A⟩)),(5,.rs 48 0 N),(6,.rs 80 0 N),(7,.rs 120 u.off u.q),(8,.I k),(9,.I i),(10,.pv (eC e)),(94,.B (decide (e.t = k ∧ 0 < v ∧ e.f ∉ u.D)))],[(48,some ⟨1,zae u.b,0⟩),(80,some ⟨1,zh0 (zbR N u.D),0⟩),(120,some ⟨1,zae u.Z,0⟩)],1200⟩ rfl ?_ ?_
    ·by_cases hm : e.f ∈ u.D
     ·rw [decide_eq_true hm] at hmk
      simp
      repeat' first
       | (refine zb2 (fun hb=>?_) (fun hb=>?_) <;> (try rw [hb]) <;> (try simp at hb) <;> simp [hb,hmk,hg2,e1,hlt2,hif,← hv])
      all_goals exact Le.go [(48,48),(80,80),(120,120)] [] rfl rfl (by simp [hb,hm]) (by simp)
     ·rw [decide_eq_false hm] at hmk
      simp
      repeat' first
       | (refine zb2 (fun hb=>?_) (fun hb=>?_) <;> (try rw [hb]) <;> (try simp at hb) <;> simp [hb,hmk,hg2,e1,hlt2,hif,← hv])
      all_goals exact Le.go [(48,48),(80,80),(120,120)] [] rfl rfl (by simp [hm]) (by simp)
    refine zac _ rfl (fun h15=>?_) fun h15=>?_
    ·rw [decide_eq_true_eq] at h15
     rw [if_pos h15] at hub
     obtain ⟨y,hy⟩ : ∃ y,u.b[e.f.toNat]? = some y:=⟨_,List.getElem?_eq_getElem (by rw [hu1.bfs.len]; omega)⟩
     have hbt : ∀ g : Int → List AV,List.take u.q (List.drop u.off (List.map g u.Z)) = List.map g (u.Z.drop u.off):=fun g=>by rw [← List.map_drop,List.take_of_length_le (by have:=hu1.z; simp; omega)]
     have htz:=hu1.z
     have htd:=hu1.d
     have hms:=zid (D:=u.D) e1 hlt2
     have hbu : Bfs N A f (u.D ++ [e.f]) (u.b.set e.f.toNat (-((i : Int) + 1))):=by
      have h3:=zrS (A:=A) (f:=f) (k:=k) (s:=(i,true)) (st:=(u.D,u.b)) hu1.bfs hku h12 (by unfold stT arcD; rw [List.getD_eq_getElem?_getD,hg1]; exact e1) (by unfold stT arcD; rw [List.getD_eq_getElem?_getD,hg1]; exact hlt2)
      rw [hub] at h3
      exact h3
     have hfw:=hbu.few
     rw [List.length_append,List.length_singleton] at hfw
     refine zaq ⟨112,[(1,ints f),(2,.pv (nC ⟨N,A⟩)),(5,.rs 48 0 N),(6,.rs 80 0 N),(7,.rs 120 u.off u.q),(8,.I k),(9,.I i),(10,.pv (eC e))],[(48,some ⟨1,zae (u.b.set e.f.toNat (-((i : Int) + 1))),0⟩),(80,some ⟨1,zh0 (zbR N (u.D ++ [e.f])),0⟩),(120,some ⟨1,zae u.Z,0⟩)],1400⟩ rfl ?_ ?_
     ·simp [hmk,e1,hlt2,hw,hw2,hy,zaw]
      exact ⟨rfl,Le.go [(48,48),(80,80),(120,120)] [] rfl rfl (by simp) (by simp [← hms,fcd])⟩
     refine zar rfl ?_
     simp [hbt]
     rw [hub] at hcl2
     refine ⟨by omega,by omega,by omega,⟨u.D ++ [e.f],u.b.set e.f.toNat (-((i : Int) + 1)),u.Z.drop u.off ++ [e.f],0,u.q + 1⟩,⟨hu1.more hbu,hcl2,?_⟩,LeI [(48,48),(80,80),(1432,120)] []⟩
     obtain ⟨l1,e1⟩:=hul
     exact ⟨l1 ++ [e.f],by simp only [e1,List.append_assoc]⟩
    ·rw [decide_eq_false_iff_not] at h15
     rw [if_neg h15] at hub
     rw [hub] at hcl2
     refine zad ?_
     exact ⟨u,⟨hu1,hcl2,hul⟩,LeH [(48,48),(80,80),(120,120)] []⟩
   obtain ⟨hu1,hu2,l2,hu3⟩:=hu
   refine zag (s:=?s30) rfl ?o30 ?q30
   case o30=>simp; rfl
   exact ⟨(u,i + 1),⟨hu1,h12,hu2,l ++ l2,by rw [hu3,htl,List.append_assoc]⟩,Nat.sub_lt_sub_left h12 (Nat.lt_succ_self i),Le.go [(48,48),(80,80),(120,120)] [] rfl rfl (by simp [hw]) (by simp)⟩
  simp at h12
  obtain rfl : i = A.length:=by omega
  refine zam ?_
  refine hit ?_
  rw [hkd] at htc
  refine ⟨(t,m + 1),⟨ht,zeR.next hmD hcl htc htl⟩,?_,LeH [(48,48),(80,80),(120,120)] []⟩
  simp only
  omega
 simp at h7
 have hmD : m = s.D.length:=by omega
 refine zam ?_
 refine hit ?_
 refine rk (s:=?s23) [4] [48] rfl ?o23 ?q23
 case o23=>simp; rfl
 refine zah ?_
 exact zdZ.mk (.inr rfl) (s.D,s.b) ⟨hb.bfs,by rw [hmD] at hcl; exact hcl.all⟩ (zan.out [48] [] rfl (by simp) (by simp) (by simp) (by simp [fcd]))
theorem zoe {α : Type} {l : List α} (h : l.Nodup) : l.reverse.Nodup:=List.pairwise_reverse.2 (h.imp fun hne e=>hne e.symm)
theorem zuf {v : Int} (hv : v ≠ 0) : encS (decS v) = v:=by
 unfold decS encS
 by_cases h : 0 < v
 ·rw [if_pos h]; simp; omega
 ·rw [if_neg h]; simp; omega
def endW (A : List Ed) (u : Int) (l : List Stp) : Nat → Int
 | 0=>u
 | j + 1=>stT A (l.getD j (0,false))
theorem znD {A : List Ed} {u : Int} {s : Stp} {l : List Stp} (j : Nat) : endW A u (s :: l) (j + 1) = endW A (stT A s) l j:=by
 cases j <;> rfl
theorem zt0 {A : List Ed} : ∀ {l : List Stp} {u w : Int},WayS A u l w → ∀ j (hj : j < l.length),stF A l[j] = endW A u l j
 | s :: l,u,w,h,0,_=>h.2.1
 | s :: l,u,w,h,j + 1,hj=>by
   rw [znD]
   exact zt0 h.2.2 j (by simpa using hj)
theorem zoJ {A : List Ed} : ∀ {l : List Stp} {u w : Int},WayS A u l w → endW A u l l.length = w
 | [],u,w,h=>h
 | s :: l,u,w,h=>by
   rw [List.length_cons,znD]
   exact zoJ h.2.2
variable {N : Nat} {A : List Ed} {f D b : List Int}
structure zlg (N : Nat) (A : List Ed) (f b : List Int) (l : List Stp) : Prop where
 way : WayS A 0 l 1
 nodup : (l.map (·.1)).Nodup
 at_ : ∀ j (h : j < l.length),l[j].1 < A.length ∧ 0 < zbd A f l[j] ∧ stT A l[j] ≠ 0 ∧ 0 ≤ stT A l[j] ∧ stT A l[j] < N ∧ b.getD (stT A l[j]).toNat 0 = encS l[j]
theorem Bfs.chain (h : Bfs N A f D b) (h1 : (1 : Int) ∈ D) : ∃ l,zlg N A f b l:=by
 obtain ⟨j,hj,hx⟩:=List.mem_iff_getElem.1 h1
 obtain ⟨l,l1,l2,l3⟩:=h.tree.way j j hj (Nat.le_refl _)
 rw [hx] at l1
 refine ⟨l,l1,l2,fun i hi=>?_⟩
 obtain ⟨q1,q2,q3,q4,_,q5⟩:=l3 _ (List.getElem_mem hi)
 have hm:=List.mem_of_mem_take q5
 have hr:=h.rng _ hm
 have hne:=h.inn _ hm q4
 refine ⟨q1,q2,q4,hr.1,hr.2,?_⟩
 rw [← zuf hne,q3]
theorem zlg.from_ {l : List Stp} (h : zlg N A f b l) (j : Nat) (hj : j < l.length) : stF A l[j] = endW A 0 l j:=zt0 h.way j hj
def zdI (v : Int) (f : List Int) (l : List Stp) (j : Nat) : List Int:=zgG v f (l.drop j).reverse
theorem znZ (v : Int) (f : List Int) (l : List Stp) : zdI v f l l.length = f:=by simp [zdI,zgG]
theorem zm5 (v : Int) (f : List Int) (l : List Stp) (j : Nat) : (zdI v f l j).length = f.length:=zfN
theorem zlh {v : Int} {f : List Int} {l : List Stp} (j : Nat) (hj : j < l.length) : zdI v f l j = zgF v (zdI v f l (j + 1)) l[j]:=by
 unfold zdI zgG
 rw [List.drop_eq_getElem_cons hj,List.reverse_cons,List.foldl_append]
 rfl
theorem znn {v : Int} {l : List Stp} (hn : (l.map (·.1)).Nodup) (hr : ∀ s ∈ l,s.1 < f.length) (j : Nat) (hj : j < l.length) : (zdI v f l (j + 1)).getD l[j].1 0 = f.getD l[j].1 0:=by
 refine (zf1 (δ:=v) (f:=f) (i:=l[j].1) (l:=(l.drop (j + 1)).reverse) ?_ ?_).1 ?_
 ·rw [List.map_reverse]
  refine zoe ?_
  exact hn.sublist ((List.drop_sublist _ _).map _)
 ·intro s hs
  exact hr s (List.mem_of_mem_drop (List.mem_reverse.1 hs))
 ·rw [List.map_reverse,List.mem_reverse]
  intro hm
  obtain ⟨s,hs,he⟩:=List.mem_map.1 hm
  obtain ⟨i,hi,rfl⟩:=List.mem_iff_getElem.1 hs
  rw [List.length_drop] at hi
  rw [List.getElem_drop] at he
  have h1:=(List.pairwise_iff_getElem.1 hn) j (j + 1 + i) (by rw [List.length_map]; exact hj) (by rw [List.length_map]; omega) (by omega)
  rw [List.getElem_map,List.getElem_map] at h1
  exact h1 he.symm
theorem zsH {v : Int} {l : List Stp} (hn : (l.map (·.1)).Nodup) (hr : ∀ s ∈ l,s.1 < f.length) : zdI v f l 0 = zgG v f l:=by
 unfold zdI
 rw [List.drop_zero]
 have hn' : (l.reverse.map (·.1)).Nodup:=by rw [List.map_reverse]; exact zoe hn
 have hr' : ∀ s ∈ l.reverse,s.1 < f.length:=fun s hs=>hr s (List.mem_reverse.1 hs)
 apply List.ext_getElem (by rw [zfN,zfN])
 intro i h1 h2
 have e : ∀ (L : List Int) (h : i < L.length),L[i] = L.getD i 0:=fun L h=>by rw [List.getD_eq_getElem?_getD,List.getElem?_eq_getElem h,Option.getD_some]
 rw [e _ h1,e _ h2]
 have g1:=zf1 (δ:=v) (f:=f) (i:=i) hn' hr'
 have g2:=zf1 (δ:=v) (f:=f) (i:=i) hn hr
 by_cases hm : i ∈ l.map (·.1)
 ·obtain ⟨s,hs,rfl⟩:=List.mem_map.1 hm
  rw [g1.2 s.2 (List.mem_reverse.2 hs),g2.2 s.2 hs]
 ·rw [g1.1 (by rw [List.map_reverse,List.mem_reverse]; exact hm),g2.1 hm]
theorem zlg.push {l : List Stp} (hn : zc5 N A) (hf : zaE N A f) (h : zlg N A f b l) {v : Int} (h0 : 0 ≤ v) (hv : ∀ s ∈ l,v ≤ zbd A f s) : zaE N A (zdI v f l 0) ∧ valF A (zdI v f l 0) = valF A f + v:=by
 have hr : ∀ s ∈ l,s.1 < A.length:=fun s hs=>by
  obtain ⟨i,hi,rfl⟩:=List.mem_iff_getElem.1 hs
  exact (h.at_ i hi).1
 rw [zsH h.nodup fun s hs=>by rw [hf.fit.len]; exact hr s hs]
 exact zuH hn hf h0 h.way h.nodup fun s hs=>⟨hr s hs,hv s hs⟩
theorem zdE {A : List Ed} {N : Nat} (h : za7 ⟨N,A⟩) : zc5 N A:=by
 obtain ⟨h1,_,_,h4⟩:=h
 simp only at h1 h4
 refine ⟨by omega,fun e he=>?_⟩
 obtain ⟨q1,q2,q3,q4,q5,q6,q7,q8,_⟩:=h4 e he
 exact ⟨q1,by omega,q3,by omega,q5,q6,q7,q8⟩
theorem zrn {P Q : List (List Int)} (h : P.Perm Q) (k : Int) : begC P k = begC Q k:=h.countP_eq _
theorem zs2 {P Q : List (List Int)} (h : P.Perm Q) (k : Int) : useC P k = useC Q k:=(h.flatMap_right _).count_eq k
theorem zty {P Q : List (List Int)} (h : P.Sublist Q) (k : Int) : begC P k ≤ begC Q k:=h.countP_le
theorem ztS {P Q : List (List Int)} (h : P.Sublist Q) (k : Int) : useC P k ≤ useC Q k:=by
 unfold useC
 induction h with
 | slnil=>exact Nat.le_refl _
 | cons a _ ih=>rw [List.flatMap_cons,List.count_append]; omega
 | cons_cons a _ ih=>rw [List.flatMap_cons,List.flatMap_cons,List.count_append,List.count_append]; omega
theorem zkY.perm {c : List Int} {P Q : List (List Int)} (h : zkY c P) (hp : P.Perm Q) : zkY c Q:=fun k hk=>by
 rw [← zrn hp,← zs2 hp]
 exact h k hk
theorem zkY.sub {c : List Int} {P Q : List (List Int)} (h : zkY c Q) (hs : P.Sublist Q) : zkY c P:=fun k hk=>by
 have h1:=h k hk
 have h2:=zty hs k
 have h3:=ztS hs k
 omega
theorem zq0 {P Q : List (List Int)} (h : P.Perm Q) : (lasts P).Perm (lasts Q):=h.filterMap _
theorem zh9.perm {g : Gr} {lv : Int} {seeds order c : List Int} {P Q : List (List Int)} {ends ends' : List Int} (h : zh9 g lv seeds order c P ends) (hp : P.Perm Q) (he : ends.Perm ends') : zh9 g lv seeds order c Q ends' :=
 ⟨fun w hw=>h.1 w (hp.mem_iff.2 hw),h.2.1.perm hp,zf6.2 (((zq0 hp).symm.trans (zf6.1 h.2.2)).trans he)⟩
theorem zgO {N : Nat} {A : List Ed} (hn : zc5 N A) : zaE N A (A.map fun _=>0):=by
 have hs : ∀ (φ : Ed → Int → Int),(∀ e,φ e 0 = 0) → ∀ A : List Ed,sumF φ A (A.map fun _=>0) = 0:=by
  intro φ hφ A
  induction A with
  | nil=>simp [sumF]
  | cons e A ih=>simp only [List.map_cons,sumF]; rw [hφ,ih]; omega
 refine ⟨?_,fun x _ _=>?_⟩
 ·have h0 : ∀ B : List Ed,(∀ e ∈ B,0 ≤ e.v) → Fit2 B (B.map fun _=>0):=by
   intro B
   induction B with
   | nil=>intro _; exact True.intro
   | cons e B ih=>intro h; exact ⟨⟨Int.le_refl _,h e (List.mem_cons_self ..)⟩,ih fun x hx=>h x (List.mem_cons_of_mem _ hx)⟩
  exact h0 A fun e he=>(hn.arc e he).2.2.2.2.2.2.2
 ·unfold outF inF
  rw [hs _ fun e=>by split <;> rfl,hs _ fun e=>by split <;> rfl]
theorem zgm {N : Nat} {A : List Ed} (hn : zc5 N A) : ∃ f,zaE N A f ∧ ∀ f',zaE N A f' → valF A f' ≤ valF A f:=by
 have hb : ∀ f,zaE N A f → valF A f ≤ capS (fun x=>decide (x = 0)) A:=fun f hf=>zdM hn hf (by simp) (by simp)
 have key : ∀ (n : Nat) (f : List Int),zaE N A f → capS (fun x=>decide (x = 0)) A - valF A f ≤ n → ∃ f,zaE N A f ∧ ∀ f',zaE N A f' → valF A f' ≤ valF A f:=by
  intro n
  induction n with
  | zero =>
    intro f hf h
    exact ⟨f,hf,fun f' hf'=>by have:=hb f' hf'; omega⟩
  | succ n ih =>
    intro f hf h
    by_cases hm : ∀ f',zaE N A f' → valF A f' ≤ valF A f
    ·exact ⟨f,hf,hm⟩
    ·obtain ⟨f',hf'⟩:=Classical.not_forall.1 hm
     obtain ⟨h1,h2⟩:=Classical.not_imp.1 hf'
     exact ih f' h1 (by omega)
 exact key _ _ (zgO hn) (Int.self_le_toNat _)
noncomputable def maxF (N : Nat) (A : List Ed) : Int:=open Classical in if h : ∃ f,zaE N A f ∧ ∀ f',zaE N A f' → valF A f' ≤ valF A f then valF A h.choose else 0
theorem ze8 {N : Nat} {A : List Ed} {f : List Int} (hf : zaE N A f) (hm : ∀ f',zaE N A f' → valF A f' ≤ valF A f) : maxF N A = valF A f:=by
 have h : ∃ f,zaE N A f ∧ ∀ f',zaE N A f' → valF A f' ≤ valF A f:=⟨f,hf,hm⟩
 unfold maxF
 rw [dif_pos h]
 have h1:=h.choose_spec
 have h2:=hm _ h1.1
 have h3:=h1.2 _ hf
 omega
theorem zur {N : Nat} {A : List Ed} (hn : zc5 N A) {f : List Int} (hf : zaE N A f) : valF A f ≤ maxF N A:=by
 obtain ⟨m,h1,h2⟩:=zgm hn
 rw [ze8 h1 h2]
 exact h2 f hf
theorem zpH {N : Nat} {A : List Ed} (hn : zc5 N A) : ∃ f,zaE N A f ∧ valF A f = maxF N A:=by
 obtain ⟨m,h1,h2⟩:=zgm hn
 exact ⟨m,h1,(ze8 h1 h2).symm⟩
structure MSt where
 j : Nat
 v : Int
def zl7 (A : List Ed) (f : List Int) (l : List Stp) (j : Nat) (v : Int) : Prop:=∀ t ∈ l.drop j,v ≤ zbd A f t
set_option maxRecDepth 100000 in
set_option maxHeartbeats 4000000 in
theorem zuI (N : Nat) (A : List Ed) (hn : za7 ⟨N,A⟩) :
  ∃ f : List Int,(zaE N A f ∧ ∀ f',zaE N A f' → valF A f' ≤ valF A f) ∧ zak Tryz.prog zeN [eN ⟨N,A⟩] [] (.tup [.rs 0 0 A.length,.I 0]) [some ⟨1,zae f,0⟩]:=by
 refine zqg.acallsX (args:=[eN ⟨N,A⟩]) (hs:=[]) (fun f=>.tup [.rs 0 0 A.length,.I 0]) (fun f=>[some ⟨1,zae f,0⟩]) (fun f : List Int=>zaE N A f ∧ ∀ f',zaE N A f' → valF A f' ≤ valF A f) (nbz rfl) (nbz rfl) (fun _=>by simp) ?_
 show awp _ 0 _ _ ⟨112,[(0,eN ⟨N,A⟩)],[],16⟩
 have hno:=zdE hn
 have hchk:=zgi ⟨N,A⟩ (by have:=hn.2.2.1; simp only at this ⊢; omega)
 rw [if_pos hn] at hchk
 have hres:=fun f hf=>zly N A f hn hf
 obtain ⟨hn0,hn1,hal,hav⟩:=hn
 simp only at hn0 hn1 hal hav
 refine rx (s:=?s1) [1] [] [16] rfl ?o1 ?q1
 case o1=>simp; rfl
 refine zab ?_
 refine rx (s:=?s2) [1,13] [] [] rfl ?o2 ?q2
 case o2=>simp; refine zal hchk (by simp) ?_; simp; rfl
 refine zac _ rfl (fun h3=>by cases h3) fun h3=>?_
 refine zad ?_
 refine zaa ⟨112,[(1,.pv (nC ⟨N,A⟩)),(4,.rs 88 0 A.length)],[(88,some ⟨1,zae (A.map fun _=>0),0⟩)],104⟩ rfl ?_ ?_
 ·simp
  refine ⟨by omega,by omega,?_⟩
  exact Le.go [(88,88)] [] rfl rfl (by simp) (by simp [List.map_const',fcd])
 refine zaf ?_
 refine zao (ι:=List Int) (fun f=>⟨112,[(1,.pv (nC ⟨N,A⟩)),(4,.rs 88 0 A.length)],[(88,some ⟨1,zae f,0⟩)],104⟩) (fun f=>zaE N A f) (fun f=>(capS (fun x=>decide (x = 0)) A - valF A f).toNat) (A.map fun _=>0) (zgO hno) (LeI [(88,88)] []) ?_
 intro f hf
 have hfl:=hf.fit.len
 obtain ⟨⟨D,b⟩,⟨hb,hcl⟩,hcall⟩:=hres f hfl
 simp only at hb hcl hcall
 have hblen:=hb.len
 have htake : ∀ g : Int → List AV,List.take A.length (List.map g f) = List.map g f:=fun g=>List.take_of_length_le (by simp; omega)
 refine zaf ?_
 refine zaa ⟨112,[(1,.pv (nC ⟨N,A⟩)),(4,.rs 88 0 A.length),(5,.rs 90 0 N)],[(88,some ⟨1,zae f,0⟩),(90,some ⟨1,zae b,0⟩)],200⟩ rfl ?_ ?_
 ·simp
  refine zgI [88] hcall (by simp [fcd,htake,hfl]) (.rs _ _ _) znA ?_
  simp
  exact LeI [(88,88),(120,90)] []
 obtain ⟨y1,hy1⟩ : ∃ y,y = b.getD 1 0:=⟨_,rfl⟩
 have hb1 : b[1]? = some y1:=by rw [hy1,List.getD_eq_getElem?_getD,List.getElem?_eq_getElem (by omega),Option.getD_some]
 refine zab ?_
 refine zaa ⟨112,[(1,.pv (nC ⟨N,A⟩)),(4,.rs 88 0 A.length),(5,.rs 90 0 N),(24,.B (y1 == 0))],[(88,some ⟨1,zae f,0⟩),(90,some ⟨1,zae b,0⟩)],300⟩ rfl ?_ ?_
 ·have h1N : (1 : Int) < N:=by omega
  simp [hb1,h1N]
  exact LeI [(88,88),(90,90)] []
 have hcode : ∀ k : Nat,k < N → b[k]? = some (b.getD k 0):=fun k hk=>by rw [List.getD_eq_getElem?_getD,List.getElem?_eq_getElem (by omega),Option.getD_some]
 refine zac _ rfl (fun h8=>?_) fun h8=>?_
 ·simp at h8
  refine zaa ⟨112,[(2,.rs 88 0 A.length),(3,.I 0)],[(88,some ⟨1,zae f,0⟩)],400⟩ rfl ?_ ?_
  ·simp
   exact LeI [(88,88)] []
  have h1D : (1 : Int) ∉ D:=fun hm=>by
   have h2:=hb.inn 1 hm (by decide)
   exact h2 (by rw [show b.getD (Int.toNat 1) 0 = y1 from hy1.symm,h8])
  refine zah ?_
  exact zdZ.mk (.inr rfl) f ⟨hf,(zhG hno hf hb.mem0 h1D hcl).2⟩ (zan.out [88] [] rfl (by simp) (by simp) (by simp) (by simp [fcd]))
 simp at h8
 have h1D : (1 : Int) ∈ D:=Decidable.byContradiction fun hm=>h8 (by rw [hy1]; exact hb.out 1 (by decide) hm)
 obtain ⟨l,hl⟩:=hb.chain h1D
 have hle:=zoJ hl.way
 have hfit:=zb8.1 hf.fit
 have hlr : ∀ s ∈ l,s.1 < f.length:=fun s hs=>by
  obtain ⟨i,hi,rfl⟩:=List.mem_iff_getElem.1 hs
  have:=(hl.at_ i hi).1
  omega
 have hl0 : 0 < l.length:=by
  cases hll : l with
  | nil=>rw [hll] at hle; cases hle
  | cons=>simp
 refine zad ?_
 refine zaa ⟨112,[(1,.pv (nC ⟨N,A⟩)),(4,.rs 88 0 A.length),(5,.rs 90 0 N),(6,.I 1048576)],[(88,some ⟨1,zae f,0⟩),(90,some ⟨1,zae b,0⟩)],400⟩ rfl ?_ ?_
 ·simp
  exact LeI [(88,88),(90,90)] []
 refine zaI (ι:=Int) (fun v=>⟨112,[(1,.pv (nC ⟨N,A⟩)),(4,.rs 88 0 A.length),(5,.rs 90 0 N),(6,.I v)],[(88,some ⟨1,zae f,0⟩),(90,some ⟨1,zae b,0⟩)],600⟩) (fun v=>1 ≤ v ∧ v ≤ 1048576 ∧ zl7 A f l 0 v) ?_ fun v hv=>?_
 ·refine zaa ⟨112,[(1,.pv (nC ⟨N,A⟩)),(4,.rs 88 0 A.length),(5,.rs 90 0 N),(6,.I 1048576),(7,.I 1)],[(88,some ⟨1,zae f,0⟩),(90,some ⟨1,zae b,0⟩)],500⟩ rfl ?_ ?_
  ·simp
   exact LeI [(88,88),(90,90)] []
  refine zaf ?_
  refine zao (ι:=MSt) (fun s=>⟨112,[(1,.pv (nC ⟨N,A⟩)),(4,.rs 88 0 A.length),(5,.rs 90 0 N),(6,.I s.v),(7,.I (endW A 0 l s.j))],[(88,some ⟨1,zae f,0⟩),(90,some ⟨1,zae b,0⟩)],600⟩)
   (fun s=>s.j ≤ l.length ∧ 1 ≤ s.v ∧ s.v ≤ 1048576 ∧ zl7 A f l s.j s.v) (fun s=>s.j) ⟨l.length,1048576⟩ ⟨Nat.le_refl _,by simp,by simp,by simp [zl7]⟩ (Le.go [(88,88),(90,90)] [] rfl rfl (by simp [hle]) (by simp [fcd])) ?_
  rintro ⟨j,v⟩ ⟨hj,hv1,hv2,hv3⟩
  simp only at hj hv1 hv2 hv3
  refine zab ?_
  refine rk (s:=?s12) [1,4,5,6,7,27] [88,90] rfl ?o12 ?q12
  case o12=>simp; rfl
  refine zac _ rfl (fun h13=>?_) fun h13=>?_
  ·simp at h13
   obtain ⟨i,rfl⟩ : ∃ i,j = i + 1:=by
    cases j with
    | zero=>exact absurd rfl h13
    | succ i=>exact ⟨i,rfl⟩
   have hi : i < l.length:=by omega
   obtain ⟨q1,q2,q3,q4,q5,q6⟩:=hl.at_ i hi
   have hfr:=hl.from_ i hi
   obtain ⟨s,hs⟩ : ∃ s,s = l[i]:=⟨_,rfl⟩
   have hk : endW A 0 l (i + 1) = stT A s:=by
    show stT A (l.getD i (0,false)) = _
    rw [List.getD_eq_getElem?_getD,List.getElem?_eq_getElem hi,hs]
    rfl
   have hvn : ∀ v' : Int,v' ≤ v → v' ≤ zbd A f s → zl7 A f l i v':=fun v' h1 h2 t ht=>by
    rw [List.drop_eq_getElem_cons hi,← hs] at ht
    rcases List.mem_cons.1 ht with rfl | ht
    ·exact h2
    ·exact Int.le_trans h1 (hv3 t ht)
   rw [← hs] at q1 q2 q3 q4 q5 q6 hfr
   rw [hk]
   obtain ⟨k,hkd⟩ : ∃ k,k = stT A s:=⟨_,rfl⟩
   rw [← hkd] at q4 q5 q6 ⊢
   have hbk:=hcode k.toNat (by omega)
   obtain ⟨x,hx⟩ : ∃ x,x = encS s:=⟨_,rfl⟩
   rw [q6,← hx] at hbk
   refine zad ?_
   refine zaf ?_
   refine rk (s:=?s14) [1,4,5,6,8] [88,90] rfl ?o14 ?q14
   case o14=>simp [hbk,q4,q5]; rfl
   have hfa:=hfit.2 s.1 q1
   have heo:=hav _ (zbD q1)
   obtain ⟨e,he⟩ : ∃ e,e = arcD A s.1:=⟨_,rfl⟩
   obtain ⟨w,hw⟩ : ∃ w,w = f.getD s.1 0:=⟨_,rfl⟩
   have hg1 : A[s.1]? = some e:=by rw [he]; unfold arcD; rw [List.getD_eq_getElem?_getD,List.getElem?_eq_getElem q1,Option.getD_some]
   have hg2 : f[s.1]? = some w:=by rw [hw,List.getD_eq_getElem?_getD,List.getElem?_eq_getElem (by omega),Option.getD_some]
   rw [← he,← hw] at hfa
   rw [← he] at heo
   obtain ⟨e1,e2,e3,e4,e5,e6,e7,e8,e9⟩:=heo
   obtain ⟨a,c⟩:=s
   simp only at q1 hg1 hg2 he hw
   have hal' : a < A.length:=q1
   have ha0 : (0 : Int) ≤ a ∧ (a : Int) < A.length:=by omega
   have hafl : a < f.length:=by omega
   have hAe : A[a] = e:=by rw [List.getElem?_eq_getElem hal'] at hg1; exact Option.some.inj hg1
   have hfw : f[a] = w:=by rw [List.getElem?_eq_getElem hafl] at hg2; exact Option.some.inj hg2
   cases c with
   | false =>
     have hen : encS (a,false) = (a : Int) + 1:=rfl
     have hro : zbd A f (a,false) = e.v - w:=by unfold zbd; simp [he,hw]
     have hst : stF A (a,false) = e.f:=by unfold stF; simp [he]
     rw [hen] at hx
     rw [hst] at hfr
     rw [hro] at q2 hvn
     have hw1 : IntKind.i64.wrap (x - 1) = (a : Int):=by rw [w64 (by omega) (by omega)]; omega
     have hw2 : IntKind.i64.wrap (e.v - w) = e.v - w:=w64 (by omega) (by omega)
     refine rk (s:=?s15) [1,4,5,6,8,33] [88,90] rfl ?o15 ?q15
     case o15=>simp; rfl
     refine zac _ rfl (fun h16=>?_) fun h16=>?_
     ·refine zbI rfl ?_
      simp [hw1,hw2,ha0,hal',hafl,hAe,hfw]
      refine ⟨rfl,⟨i,if e.v - w < v then e.v - w else v⟩,⟨by simp only; omega,by simp only; split <;> omega,by simp only; split <;> omega,hvn (if e.v - w < v then e.v - w else v) (by split <;> omega) (by split <;> omega)⟩,Nat.lt_succ_self i,Le.go [(88,88),(90,90)] [] rfl rfl (by simp [hfr]) (by simp [fcd])⟩
     ·simp at h16
      omega
   | true =>
     have hen : encS (a,true) = -((a : Int) + 1):=rfl
     have hro : zbd A f (a,true) = w:=by unfold zbd; simp [hw]
     have hst : stF A (a,true) = e.t:=by unfold stF; simp [he]
     rw [hen] at hx
     rw [hst] at hfr
     rw [hro] at q2 hvn
     have hw0 : IntKind.i64.wrap (-x) = (a : Int) + 1:=by rw [w64 (by omega) (by omega)]; omega
     have hw1 : IntKind.i64.wrap (a : Int) = (a : Int):=w64 (by omega) (by omega)
     refine rk (s:=?s25) [1,4,5,6,8,33] [88,90] rfl ?o25 ?q25
     case o25=>simp; rfl
     refine zac _ rfl (fun h16=>?_) fun h16=>?_
     ·simp at h16
      omega
     ·refine zbI rfl ?_
      simp [hw0,hw1,ha0,hal',hafl,hAe,hfw]
      refine ⟨rfl,⟨i,if w < v then w else v⟩,⟨by simp only; omega,by simp only; split <;> omega,by simp only; split <;> omega,hvn (if w < v then w else v) (by split <;> omega) (by split <;> omega)⟩,Nat.lt_succ_self i,Le.go [(88,88),(90,90)] [] rfl rfl (by simp [hfr]) (by simp [fcd])⟩
  simp at h13
  obtain rfl : j = 0:=by
   cases j with
   | zero=>rfl
   | succ i =>
     have h2:=(hl.at_ i (by omega)).2.2.1
     refine absurd ?_ h2
     have h3 : endW A 0 l (i + 1) = stT A (l.getD i (0,false)):=rfl
     rw [h3,List.getD_eq_getElem?_getD,List.getElem?_eq_getElem (by omega)] at h13
     exact h13
  refine zam ?_
  refine hit ?_
  exact ⟨v,⟨hv1,hv2,hv3⟩,LeI [(88,88),(90,90)] []⟩
 obtain ⟨hv1,hv2,hv3⟩:=hv
 have hv3' : ∀ s ∈ l,v ≤ zbd A f s:=fun s hs=>hv3 s (by simpa using hs)
 obtain ⟨hf2,hval⟩:=hl.push hno hf (by omega) hv3'
 have hbnd:=zdM (S:=fun x=>decide (x = 0)) hno hf2 (by simp) (by simp)
 refine zaa ⟨112,[(1,.pv (nC ⟨N,A⟩)),(4,.rs 88 0 A.length),(5,.rs 90 0 N),(6,.I v),(9,.I 1)],[(88,some ⟨1,zae f,0⟩),(90,some ⟨1,zae b,0⟩)],700⟩ rfl ?_ ?_
 ·simp
  exact LeI [(88,88),(90,90)] []
 refine zaf ?_
 refine zao (ι:=Nat) (fun j=>⟨112,[(1,.pv (nC ⟨N,A⟩)),(4,.rs 88 0 A.length),(5,.rs 90 0 N),(6,.I v),(9,.I (endW A 0 l j))],[(88,some ⟨1,zae (zdI v f l j),0⟩),(90,some ⟨1,zae b,0⟩)],800⟩)
  (fun j=>j ≤ l.length) (fun j=>j) l.length (Nat.le_refl _) (Le.go [(88,88),(90,90)] [] rfl rfl (by simp [hle]) (by simp [fcd,znZ])) ?_
 intro j hj
 refine zab ?_
 refine zaa ⟨112,[(1,.pv (nC ⟨N,A⟩)),(4,.rs 88 0 A.length),(5,.rs 90 0 N),(6,.I v),(9,.I (endW A 0 l j)),(73,.B (!decide (endW A 0 l j = 0)))],[(88,some ⟨1,zae (zdI v f l j),0⟩),(90,some ⟨1,zae b,0⟩)],900⟩ rfl ?_ ?_
 ·simp
  exact Le.go [(88,88),(90,90)] [] rfl rfl (by simp <;> exact wkB (by rw [Bool.eq_iff_iff]; simp)) (by simp [fcd])
 refine zac _ rfl (fun h19=>?_) fun h19=>?_
 ·simp at h19
  obtain ⟨i,rfl⟩ : ∃ i,j = i + 1:=by
   cases j with
   | zero=>exact absurd rfl h19
   | succ i=>exact ⟨i,rfl⟩
  have hi : i < l.length:=by omega
  obtain ⟨q1,q2,q3,q4,q5,q6⟩:=hl.at_ i hi
  have hfr:=hl.from_ i hi
  have hstep:=zlh (v:=v) (f:=f) i hi
  have hget:=znn (v:=v) hl.nodup hlr i hi
  have hroom:=hv3' _ (List.getElem_mem hi)
  obtain ⟨s,hs⟩ : ∃ s,s = l[i]:=⟨_,rfl⟩
  have hk : endW A 0 l (i + 1) = stT A s:=by
   show stT A (l.getD i (0,false)) = _
   rw [List.getD_eq_getElem?_getD,List.getElem?_eq_getElem hi,hs]
   rfl
  rw [← hs] at q1 q2 q3 q4 q5 q6 hfr hstep hget hroom
  rw [hk]
  obtain ⟨k,hkd⟩ : ∃ k,k = stT A s:=⟨_,rfl⟩
  rw [← hkd] at q4 q5 q6 ⊢
  have hbk:=hcode k.toNat (by omega)
  obtain ⟨x,hx⟩ : ∃ x,x = encS s:=⟨_,rfl⟩
  rw [q6,← hx] at hbk
  have hFl : (zdI v f l (i + 1)).length = A.length:=by rw [zm5,hfl]
  obtain ⟨F,hF⟩ : ∃ F,F = zdI v f l (i + 1):=⟨_,rfl⟩
  rw [← hF] at hFl hget hstep ⊢
  have hfa:=hfit.2 s.1 q1
  have heo:=hav _ (zbD q1)
  obtain ⟨e,he⟩ : ∃ e,e = arcD A s.1:=⟨_,rfl⟩
  obtain ⟨w,hw⟩ : ∃ w,w = f.getD s.1 0:=⟨_,rfl⟩
  have hg1 : A[s.1]? = some e:=by rw [he]; unfold arcD; rw [List.getD_eq_getElem?_getD,List.getElem?_eq_getElem q1,Option.getD_some]
  have hg2 : F[s.1]? = some w:=by rw [hw,← hget,List.getD_eq_getElem?_getD,List.getElem?_eq_getElem (by omega),Option.getD_some]
  rw [← he,← hw] at hfa
  rw [← he] at heo
  obtain ⟨e1,e2,e3,e4,e5,e6,e7,e8,e9⟩:=heo
  obtain ⟨a,c⟩:=s
  simp only at q1 hg1 hg2 he hw
  have hal' : a < A.length:=q1
  have ha0 : (0 : Int) ≤ a ∧ (a : Int) < A.length:=by omega
  have hafl : a < F.length:=by omega
  have hAe : A[a] = e:=by rw [List.getElem?_eq_getElem hal'] at hg1; exact Option.some.inj hg1
  have hfw : F[a] = w:=by rw [List.getElem?_eq_getElem hafl] at hg2; exact Option.some.inj hg2
  have hset : zdI v f l i = F.set a (w + if c then -v else v):=by rw [hstep]; unfold zgF; simp only [hget]; rw [hw]
  refine zad ?_
  refine zaf ?_
  refine zaa ⟨112,[(1,.pv (nC ⟨N,A⟩)),(4,.rs 88 0 A.length),(5,.rs 90 0 N),(6,.I v),(10,.I x)],[(88,some ⟨1,zae F,0⟩),(90,some ⟨1,zae b,0⟩)],1000⟩ rfl ?_ ?_
  ·simp [hbk,q4,q5]
   exact LeI [(88,88),(90,90)] []
  refine zaa ⟨112,[(1,.pv (nC ⟨N,A⟩)),(4,.rs 88 0 A.length),(5,.rs 90 0 N),(6,.I v),(10,.I x),(79,.B (decide (0 < x)))],[(88,some ⟨1,zae F,0⟩),(90,some ⟨1,zae b,0⟩)],1100⟩ rfl ?_ ?_
  ·simp
   exact LeI [(88,88),(90,90)] []
  cases c with
  | false =>
    have hen : encS (a,false) = (a : Int) + 1:=rfl
    have hro : zbd A f (a,false) = e.v - w:=by unfold zbd; simp [he,hw]
    have hst : stF A (a,false) = e.f:=by unfold stF; simp [he]
    rw [hen] at hx
    rw [hst] at hfr
    rw [hro] at hroom
    have hw1 : IntKind.i64.wrap (x - 1) = (a : Int):=by rw [w64 (by omega) (by omega)]; omega
    have hw2 : IntKind.i64.wrap (w + v) = w + v:=w64 (by omega) (by omega)
    refine zac _ rfl (fun h16=>?_) fun h16=>?_
    ·refine zaa ⟨112,[(1,.pv (nC ⟨N,A⟩)),(4,.rs 88 0 A.length),(5,.rs 90 0 N),(6,.I v),(10,.I x)],[(88,some ⟨1,zae (F.set a (w + v)),0⟩),(90,some ⟨1,zae b,0⟩)],1300⟩ rfl ?_ ?_
     ·simp [hw1,hw2,ha0,hal',hafl,hAe,hfw,zaw]
      exact LeI [(88,88),(90,90)] []
     refine zar rfl ?_
     simp [hw1,ha0,hal',hAe]
     exact ⟨i,by omega,by omega,Le.go [(88,88),(90,90)] [] rfl rfl (by simp [hfr]) (by simp [fcd,hset])⟩
    ·simp at h16
     omega
  | true =>
    have hen : encS (a,true) = -((a : Int) + 1):=rfl
    have hro : zbd A f (a,true) = w:=by unfold zbd; simp [hw]
    have hst : stF A (a,true) = e.t:=by unfold stF; simp [he]
    rw [hen] at hx
    rw [hst] at hfr
    rw [hro] at hroom
    have hw0 : IntKind.i64.wrap (-x) = (a : Int) + 1:=by rw [w64 (by omega) (by omega)]; omega
    have hw1 : IntKind.i64.wrap (a : Int) = (a : Int):=w64 (by omega) (by omega)
    have hw2 : IntKind.i64.wrap (w - v) = w + -v:=by rw [w64 (by omega) (by omega)]; omega
    refine zac _ rfl (fun h16=>?_) fun h16=>?_
    ·simp at h16
     omega
    ·refine zaa ⟨112,[(1,.pv (nC ⟨N,A⟩)),(4,.rs 88 0 A.length),(5,.rs 90 0 N),(6,.I v),(10,.I x)],[(88,some ⟨1,zae (F.set a (w + -v)),0⟩),(90,some ⟨1,zae b,0⟩)],1300⟩ rfl ?_ ?_
     ·simp [hw0,hw1,hw2,ha0,hal',hafl,hAe,hfw,zaw]
      exact LeI [(88,88),(90,90)] []
     refine zar rfl ?_
     simp [hw0,hw1,ha0,hal',hAe]
     exact ⟨i,by omega,by omega,Le.go [(88,88),(90,90)] [] rfl rfl (by simp [hfr]) (by simp [fcd,hset])⟩
 simp at h19
 obtain rfl : j = 0:=by
  cases j with
  | zero=>rfl
  | succ i =>
    have h2:=(hl.at_ i (by omega)).2.2.1
    refine absurd ?_ h2
    have h3 : endW A 0 l (i + 1) = stT A (l.getD i (0,false)):=rfl
    rw [h3,List.getD_eq_getElem?_getD,List.getElem?_eq_getElem (by omega)] at h19
    exact h19
 refine zam ?_
 refine hit ?_
 exact ⟨zdI v f l 0,hf2,by rw [hval]; omega,LeI [(88,88)] []⟩
theorem zgK {φ : Ed → Int → Int} : ∀ {A : List Ed} {f : List Int} (i : Nat) (h1 : i < A.length) (h2 : i < f.length),sumF φ (A.take (i + 1)) (f.take (i + 1)) = sumF φ (A.take i) (f.take i) + φ A[i] f[i]
 | e :: A,v :: f,0,_,_=>by simp [sumF]
 | e :: A,v :: f,i + 1,h1,h2=>by
   have:=zgK (φ:=φ) (A:=A) (f:=f) i (by simpa using h1) (by simpa using h2)
   simp only [List.take_succ_cons,sumF,this,List.getElem_cons_succ]
   omega
def netG (A : List Ed) (f : List Int) (i : Nat) (x : Int) : Int:=inF (A.take i) (f.take i) x - outF (A.take i) (f.take i) x
variable {N : Nat} {A : List Ed} {f : List Int}
theorem zjz (x : Int) : netG A f 0 x = 0:=by simp [netG,inF,outF,sumF]
theorem zjj {i : Nat} (h1 : i < A.length) (h2 : i < f.length) (x : Int) : netG A f (i + 1) x = netG A f i x + (if A[i].t = x then f[i] else 0) - if A[i].f = x then f[i] else 0:=by
 unfold netG inF outF
 rw [zgK i h1 h2,zgK i h1 h2]
 omega
theorem zpM (hl : f.length = A.length) (x : Int) : netG A f A.length x = - exF A f x:=by
 unfold netG exF
 rw [List.take_of_length_le (Nat.le_refl _),List.take_of_length_le (by omega)]
 omega
theorem zic (hl : f.length = A.length) (hb : ∀ j (h : j < f.length),0 ≤ f[j] ∧ f[j] ≤ 1048576) (x : Int) : ∀ i,i ≤ A.length → -(1048576 * (i : Int)) ≤ netG A f i x ∧ netG A f i x ≤ 1048576 * (i : Int)
 | 0,_=>by rw [zjz]; omega
 | i + 1,h=>by
   have ih:=zic hl hb x i (by omega)
   have h2:=hb i (by omega)
   rw [zjj (by omega) (by omega)]
   split <;> split <;> omega
theorem zm8 {i : Nat} (h1 : i < A.length) (h2 : i < f.length) (x : Int) : outF (A.take (i + 1)) (f.take (i + 1)) x = outF (A.take i) (f.take i) x + if A[i].f = x then f[i] else 0:=by
 unfold outF
 rw [zgK i h1 h2]
theorem zie (hl : f.length = A.length) (hb : ∀ j (h : j < f.length),0 ≤ f[j] ∧ f[j] ≤ 1048576) (x : Int) : ∀ i,i ≤ A.length → 0 ≤ outF (A.take i) (f.take i) x ∧ outF (A.take i) (f.take i) x ≤ 1048576 * (i : Int)
 | 0,_=>by simp [outF,sumF]
 | i + 1,h=>by
   have ih:=zie hl hb x i (by omega)
   have h2:=hb i (by omega)
   rw [zm8 (by omega) (by omega)]
   split <;> omega
def rowR (N : Nat) (g : Int → Int) : List Int:=(List.range N).map fun k : Nat=>g k
theorem zfi (N : Nat) (g : Int → Int) : (rowR N g).length = N:=by simp [rowR]
theorem zco {g : Int → Int} {x : Int} (h0 : 0 ≤ x) (h1 : x < N) : (rowR N g)[x.toNat]? = some (g x):=by
 unfold rowR
 rw [List.getElem?_map,List.getElem?_range (by omega)]
 simp only [Option.map_some,Int.toNat_of_nonneg h0]
theorem zf7 {g : Int → Int} {x v : Int} (h0 : 0 ≤ x) (h1 : x < N) : (rowR N g).set x.toNat v = rowR N fun y=>if y = x then v else g y:=by
 apply List.ext_getElem?
 intro j
 by_cases hj : j < N
 ·have e1:=zco (N:=N) (g:=fun y=>if y = x then v else g y) (x:=(j : Int)) (by omega) (by omega)
  have e2:=zco (N:=N) (g:=g) (x:=(j : Int)) (by omega) (by omega)
  simp only [Int.toNat_natCast] at e1 e2
  rw [List.getElem?_set,e1,e2,zfi]
  by_cases hx : x.toNat = j
  ·rw [if_pos hx,if_pos (by omega),if_pos (by omega)]
  ·rw [if_neg hx,if_neg (by omega)]
 ·rw [List.getElem?_eq_none (by rw [List.length_set,zfi]; omega),List.getElem?_eq_none (by rw [zfi]; omega)]
theorem zii {g h : Int → Int} (e : ∀ x,g x = h x) : rowR N g = rowR N h:=by
 obtain rfl : g = h:=funext e
 rfl
set_option maxRecDepth 100000 in
set_option maxHeartbeats 4000000 in
theorem ziO (hn : za7 ⟨N,A⟩) (hf : zaE N A f) : zak Tryz.prog zfE [eN ⟨N,A⟩,ints f] [] (.B true) []:=by
 refine zmO.acalls (nbz rfl) (nbz rfl) (Nat.le_refl _) ?_
 show awp _ 0 _ _ ⟨87,[(0,eN ⟨N,A⟩),(1,ints f)],[],16⟩
 have hfl:=hf.fit.len
 have hfit:=zb8.1 hf.fit
 have hchk:=zgi ⟨N,A⟩ (by have:=hn.2.2.1; simp only at this ⊢; omega)
 rw [if_pos hn] at hchk
 obtain ⟨hn0,hn1,hal,hav⟩:=hn
 simp only at hn0 hn1 hal hav
 have hfb : ∀ j (h : j < f.length),0 ≤ f[j] ∧ f[j] ≤ (A[j]'(by omega)).v ∧ (A[j]'(by omega)).v ≤ 1048576:=fun j hj=>by
  have h1:=hfit.2 j (by omega)
  have e1 : f.getD j 0 = f[j]:=by rw [List.getD_eq_getElem?_getD,List.getElem?_eq_getElem hj,Option.getD_some]
  have e2 : arcD A j = A[j]'(by omega):=by unfold arcD; rw [List.getD_eq_getElem?_getD,List.getElem?_eq_getElem (by omega),Option.getD_some]
  rw [e1,e2] at h1
  exact ⟨h1.1,h1.2,(hav _ (List.getElem_mem (by omega))).2.2.2.2.2.2.2.2⟩
 have hbd:=zic hfl fun j hj=>⟨(hfb j hj).1,by have:=hfb j hj; omega⟩
 refine rx (s:=?s1) [1,2] [] [16] rfl ?o1 ?q1
 case o1=>simp; rfl
 refine zab ?_
 refine zaa ⟨87,[(1,ints f),(2,.pv (nC ⟨N,A⟩)),(18,.B false)],[],120⟩ rfl ?_ ?_
 ·simp
  refine zal hchk (by simp) ?_
  simp
  exact Le.snap [] rfl rfl (by simp <;> exact wkB (by simp [hfl]))
 refine zac _ rfl (fun h3=>by cases h3) fun _=>?_
 refine zad ?_
 refine zaa ⟨87,[(1,ints f),(2,.pv (nC ⟨N,A⟩)),(5,.rs 136 0 N)],[(136,some ⟨1,zae (rowR N (netG A f 0)),0⟩)],144⟩ rfl ?_ ?_
 ·simp
  refine ⟨by omega,by omega,?_⟩
  have : rowR N (netG A f 0) = List.replicate N 0:=by
   unfold rowR
   simp only [zjz]
   simp [List.map_const']
  rw [this]
  exact LeH [(136,136)] []
 refine zab ?_
 refine zaa ⟨87,[(1,ints f),(2,.pv (nC ⟨N,A⟩)),(5,.rs 136 0 N),(6,.I 0)],[(136,some ⟨1,zae (rowR N (netG A f 0)),0⟩)],160⟩ rfl ?_ ?_
 ·simp
  exact LeI [(136,136)] []
 refine zaf ?_
 refine zao (ι:=Nat) (fun i=>⟨87,[(1,ints f),(2,.pv (nC ⟨N,A⟩)),(5,.rs 136 0 N),(6,.I i)],[(136,some ⟨1,zae (rowR N (netG A f i)),0⟩)],160⟩) (fun i=>i ≤ A.length) (fun i=>A.length - i) 0 (Nat.zero_le _) (LeI [(136,136)] []) ?_
 intro i hi
 refine zab ?_
 refine zaa ⟨87,[(1,ints f),(2,.pv (nC ⟨N,A⟩)),(5,.rs 136 0 N),(6,.I i),(25,.B (decide (i < f.length)))],[(136,some ⟨1,zae (rowR N (netG A f i)),0⟩)],192⟩ rfl ?_ ?_
 ·simp
  exact LeI [(136,136)] []
 refine zac _ rfl (fun h8=>?_) fun h8=>?_
 ·simp at h8
  have hiA : i < A.length:=by omega
  have hw1 : IntKind.i64.wrap ((i : Int) + 1) = (i : Int) + 1:=w64 (by omega) (by omega)
  obtain ⟨b1,b2,b3⟩:=hfb i h8
  have heo:=hav _ (List.getElem_mem hiA)
  have hsucc:=zjj hiA h8
  have hbe:=fun x=>hbd x i (by omega)
  obtain ⟨e,he⟩ : ∃ e,e = A[i]:=⟨_,rfl⟩
  obtain ⟨w,hw⟩ : ∃ w,w = f[i]:=⟨_,rfl⟩
  rw [← he,← hw] at hsucc b2
  rw [← hw] at b1
  rw [← he] at b3 heo
  obtain ⟨e1,e2,e3,e4,e5,_⟩:=heo
  have hg1 : A[i]? = some e:=by rw [List.getElem?_eq_getElem hiA,he]
  have hg2 : f[i]? = some w:=by rw [List.getElem?_eq_getElem h8,hw]
  have h2N : e.f < (N : Int) ∧ e.t < (N : Int):=by omega
  have h1:=hbe e.f
  have h2:=hbe e.t
  have hwx : IntKind.i64.wrap (netG A f i e.f - w) = netG A f i e.f - w:=w64 (by omega) (by omega)
  have hwy : IntKind.i64.wrap (netG A f i e.t + w) = netG A f i e.t + w:=w64 (by omega) (by omega)
  have hr1:=zco (N:=N) (g:=netG A f i) (x:=e.f) e1 (by omega)
  have hs1:=zf7 (N:=N) (g:=netG A f i) (x:=e.f) (v:=netG A f i e.f - w) e1 (by omega)
  obtain ⟨g1,hg1d⟩ : ∃ g1 : Int → Int,g1 = fun y=>if y = e.f then netG A f i e.f - w else netG A f i y:=⟨_,rfl⟩
  rw [← hg1d] at hs1
  have hg1t : g1 e.t = netG A f i e.t:=by rw [hg1d]; exact if_neg fun h=>e5 h.symm
  have hr2:=zco (N:=N) (g:=g1) (x:=e.t) e3 (by omega)
  rw [hg1t] at hr2
  have hs2:=zf7 (N:=N) (g:=g1) (x:=e.t) (v:=netG A f i e.t + w) e3 (by omega)
  have hend : (rowR N fun y=>if y = e.t then netG A f i e.t + w else g1 y) = rowR N (netG A f (i + 1)):=zii fun x=>by
   rw [hsucc,hg1d]
   simp only
   by_cases h3 : x = e.t
   ·rw [h3,if_pos rfl,if_pos rfl,if_neg e5]
    omega
   ·by_cases h4 : x = e.f
    ·rw [if_neg h3,if_pos h4,if_neg fun h=>h3 h.symm,if_pos h4.symm,h4]
     omega
    ·rw [if_neg h3,if_neg h4,if_neg fun h=>h3 h.symm,if_neg fun h=>h4 h.symm]
     omega
  rw [hend] at hs2
  refine zad ?_
  refine zaI (ι:=Unit) (fun _=>⟨87,[(1,ints f),(2,.pv (nC ⟨N,A⟩)),(5,.rs 136 0 N),(6,.I i)],[(136,some ⟨1,zae (rowR N (netG A f (i + 1))),0⟩)],1000⟩) (fun _=>True) ?_ fun _ _=>?_
  ·refine zaf ?_
   refine zab ?_
   refine zaq ⟨87,[(1,ints f),(2,.pv (nC ⟨N,A⟩)),(5,.rs 136 0 N),(6,.I i),(45,.B false)],[(136,some ⟨1,zae (rowR N (netG A f i)),0⟩)],500⟩ rfl ?_ ?_
   ·have hc1 : ¬ w < 0:=by omega
    have hc2 : ¬ e.v < w:=by omega
    simp [hg1,hg2,hiA,h8,← he,← hw,hc1,hc2]
    exact ⟨rfl,Le.go [(136,136)] [] rfl rfl (by simp [hc2]) (by simp [fcd])⟩
   refine zac _ rfl (fun h=>by cases h) fun _=>?_
   refine zad ?_
   refine zaq ⟨87,[(1,ints f),(2,.pv (nC ⟨N,A⟩)),(5,.rs 136 0 N),(6,.I i)],[(136,some ⟨1,zae (rowR N g1),0⟩)],700⟩ rfl ?_ ?_
   ·simp [hg1,hg2,hiA,h8,← he,← hw,hr1,e1,h2N,hwx,zaw]
    exact ⟨rfl,Le.go [(136,136)] [] rfl rfl (by simp) (by simp [fcd,← hs1])⟩
   refine zbI rfl ?_
   simp [hg1,hg2,hiA,h8,← he,← hw,hr2,e3,h2N,hwy,zaw]
   exact ⟨rfl,Le.go [(136,136)] [] rfl rfl (by simp) (by simp [fcd,← hs2])⟩
  refine zag (s:=?s20) rfl ?o20 ?q20
  case o20=>simp; rfl
  exact ⟨i + 1,by omega,by omega,Le.go [(136,136)] [] rfl rfl (by simp [hw1]) (by simp [fcd])⟩
 simp at h8
 obtain rfl : i = A.length:=by omega
 refine zam ?_
 refine hit ?_
 refine zab ?_
 refine zaa ⟨87,[(2,.pv (nC ⟨N,A⟩)),(5,.rs 136 0 N),(7,.I 2)],[(136,some ⟨1,zae (rowR N (netG A f A.length)),0⟩)],200⟩ rfl ?_ ?_
 ·simp
  exact LeI [(136,136)] []
 refine zaf ?_
 refine zao (ι:=Nat) (fun k=>⟨87,[(2,.pv (nC ⟨N,A⟩)),(5,.rs 136 0 N),(7,.I k)],[(136,some ⟨1,zae (rowR N (netG A f A.length)),0⟩)],200⟩) (fun k=>2 ≤ k ∧ k ≤ N) (fun k=>N - k) 2 (by omega) (LeI [(136,136)] []) ?_
 rintro k ⟨hk1,hk2⟩
 refine zab ?_
 refine zaa ⟨87,[(2,.pv (nC ⟨N,A⟩)),(5,.rs 136 0 N),(7,.I k),(79,.B (decide (k < N)))],[(136,some ⟨1,zae (rowR N (netG A f A.length)),0⟩)],300⟩ rfl ?_ ?_
 ·simp
  exact LeI [(136,136)] []
 refine zac _ rfl (fun h15=>?_) fun h15=>?_
 ·simp at h15
  have hz : netG A f A.length k = 0:=by
   rw [zpM hfl]
   have:=hf.bal k hk1 h15
   unfold exF
   omega
  have hr:=zco (N:=N) (g:=netG A f A.length) (x:=(k : Int)) (by omega) (by omega)
  rw [hz] at hr
  simp only [Int.toNat_natCast] at hr
  have hw1 : IntKind.i64.wrap ((k : Int) + 1) = (k : Int) + 1:=w64 (by omega) (by omega)
  refine zad ?_
  refine zab ?_
  refine zaf ?_
  refine zaa ⟨87,[(2,.pv (nC ⟨N,A⟩)),(5,.rs 136 0 N),(7,.I k),(86,.B false)],[(136,some ⟨1,zae (rowR N (netG A f A.length)),0⟩)],400⟩ rfl ?_ ?_
  ·simp [hr,h15]
   exact LeI [(136,136)] []
  refine zac _ rfl (fun h=>by cases h) fun _=>?_
  refine zad ?_
  refine zag (s:=?s21) rfl ?o21 ?q21
  case o21=>simp; rfl
  exact ⟨k + 1,by omega,by omega,Le.go [(136,136)] [] rfl rfl (by simp [hw1]) (by simp [fcd])⟩
 simp at h15
 refine zam ?_
 refine hit ?_
 refine zaa ⟨87,[(4,.B true)],[],400⟩ rfl ?_ ?_
 ·simp
  exact LeH [] []
 refine zah ?_
 exact ⟨.inr rfl,zan.one (by simp)⟩
theorem ziF (hn : za7 ⟨N,A⟩) (hf : zaE N A f) : zak Tryz.prog zfY [eN ⟨N,A⟩,ints f] [] (.I (valF A f)) []:=by
 refine zmM.acalls (nbz rfl) (nbz rfl) (Nat.le_refl _) ?_
 show awp _ 0 _ _ ⟨31,[(0,eN ⟨N,A⟩),(1,ints f)],[],16⟩
 have hchk:=ziO hn hf
 have hfl:=hf.fit.len
 have hfit:=zb8.1 hf.fit
 obtain ⟨hn0,hn1,hal,hav⟩:=hn
 simp only at hn0 hn1 hal hav
 have hfb : ∀ j (h : j < f.length),0 ≤ f[j] ∧ f[j] ≤ 1048576:=fun j hj=>by
  have h1:=hfit.2 j (by omega)
  have e1 : f.getD j 0 = f[j]:=by rw [List.getD_eq_getElem?_getD,List.getElem?_eq_getElem hj,Option.getD_some]
  have e2 : arcD A j = A[j]'(by omega):=by unfold arcD; rw [List.getD_eq_getElem?_getD,List.getElem?_eq_getElem (by omega),Option.getD_some]
  rw [e1,e2] at h1
  have h2:=(hav _ (List.getElem_mem (show j < A.length by omega))).2.2.2.2.2.2.2.2
  omega
 have hbd:=zie hfl hfb 0
 have hall : outF (A.take A.length) (f.take A.length) 0 = valF A f:=by
  unfold valF
  rw [List.take_of_length_le (Nat.le_refl _),List.take_of_length_le (by omega)]
 refine rx (s:=?s1) [1,2] [] [16] rfl ?o1 ?q1
 case o1=>simp; rfl
 refine zab ?_
 refine rx (s:=?s2) [1,2,10] [] [] rfl ?o2 ?q2
 case o2=>simp; refine zal hchk (by simp) ?_; simp; rfl
 refine zac _ rfl (fun h=>by cases h) fun _=>?_
 refine zad ?_
 refine rx (s:=?s5) [1,2,5] [] [] rfl ?o5 ?q5
 case o5=>simp; rfl
 refine zab ?_
 refine rx (s:=?s6) [1,2,5,6] [] [] rfl ?o6 ?q6
 case o6=>simp; rfl
 refine zaf ?_
 refine zao (ι:=Nat) (fun i=>⟨31,[(1,ints f),(2,.pv (nC ⟨N,A⟩)),(5,.I (outF (A.take i) (f.take i) 0)),(6,.I i)],[],80⟩) (fun i=>i ≤ A.length) (fun i=>A.length - i) 0 (Nat.zero_le _) (Le.go [] [] rfl rfl (by simp [outF,sumF]) (by simp)) ?_
 intro i hi
 have hbi:=hbd i hi
 refine zab ?_
 refine rx (s:=?s7) [1,2,5,6,14] [] [] rfl ?o7 ?q7
 case o7=>simp; rfl
 refine zac _ rfl (fun h8=>?_) fun h8=>?_
 ·simp at h8
  have hiA : i < A.length:=by omega
  have hw1 : IntKind.i64.wrap ((i : Int) + 1) = (i : Int) + 1:=w64 (by omega) (by omega)
  have hsucc:=zm8 hiA h8 0
  have hb:=hfb i h8
  refine zad ?_
  refine zaI (ι:=Unit) (fun _=>⟨31,[(1,ints f),(2,.pv (nC ⟨N,A⟩)),(5,.I (outF (A.take (i + 1)) (f.take (i + 1)) 0)),(6,.I i)],[],400⟩) (fun _=>True) ?_ fun _ _=>?_
  ·refine zaf ?_
   refine zaa ⟨31,[(1,ints f),(2,.pv (nC ⟨N,A⟩)),(5,.I (outF (A.take i) (f.take i) 0)),(6,.I i),(23,.B (decide (A[i].f = 0)))],[],200⟩ rfl ?_ ?_
   ·simp [hiA]
    exact Le.go [] [] rfl rfl (by simp <;> exact wkB (by rw [Bool.eq_iff_iff]; simp)) (by simp)
   refine zac _ rfl (fun h10=>?_) fun h10=>?_
   ·rw [decide_eq_true_eq] at h10
    rw [if_pos h10] at hsucc
    have hw2 : IntKind.i64.wrap (outF (A.take i) (f.take i) 0 + f[i]) = outF (A.take i) (f.take i) 0 + f[i]:=w64 (by omega) (by omega)
    refine zag (s:=?s9) rfl ?o9 ?q9
    case o9=>simp [h8]; rfl
    exact ⟨(),trivial,Le.go [] [] rfl rfl (by simp [hsucc,hw2]) (by simp)⟩
   ·rw [decide_eq_false_iff_not] at h10
    rw [if_neg h10,Int.add_zero] at hsucc
    refine zad ?_
    exact ⟨(),trivial,Le.go [] [] rfl rfl (by simp [hsucc]) (by simp)⟩
  refine zag (s:=?s10) rfl ?o10 ?q10
  case o10=>simp; rfl
  exact ⟨i + 1,by omega,by omega,Le.go [] [] rfl rfl (by simp [hw1]) (by simp)⟩
 simp at h8
 obtain rfl : i = A.length:=by omega
 rw [hall]
 refine zam ?_
 refine hit ?_
 refine rx (s:=?s11) [4] [] [] rfl ?o11 ?q11
 case o11=>simp; rfl
 refine zah ?_
 exact ⟨.inr rfl,zan.one (by simp)⟩
theorem zqZ {g : Gr} {p : Pol} {sinks : List Int} (hg : GrOk g) (hp : zaV g.size p) (hk : ∀ x ∈ sinks,0 ≤ x ∧ x < g.size) : zc5 (2 + 2 * g.size).toNat (zaX g p (zaC g p) sinks):=by
 have hs0:=hg.1.1
 have hse:=hp.2.1.nodup
 have hle:=zhJ hg p.lv
 have hcl : (zaC g p).length = g.size.toNat:=by unfold zaC; rw [List.length_map,zhd]; rfl
 refine ⟨by omega,fun a ha=>?_⟩
 unfold zaX at ha
 rcases List.mem_append.1 ha with ha | ha
 ·rcases List.mem_append.1 ha with ha | ha
  ·rcases List.mem_append.1 ha with ha | ha
   ·obtain ⟨x,hx,rfl⟩:=List.mem_map.1 ha
    have h1:=List.mem_filter.1 hx
    have h2:=hse.2 x h1.1
    have h3 : 0 < (zaC g p).getD x.toNat 0:=by simpa using h1.2
    simp only
    omega
   ·obtain ⟨i,hx,rfl⟩:=List.mem_map.1 ha
    have h1:=List.mem_filter.1 hx
    have h2:=List.mem_range.1 h1.1
    have h3 : 0 < (zaC g p).getD i 0:=by simpa using h1.2
    simp only
    omega
  ·obtain ⟨x,hx,rfl⟩:=List.mem_map.1 ha
   have h2:=hk x (List.mem_filter.1 hx).1
   simp only
   omega
 ·obtain ⟨e,hx,rfl⟩:=List.mem_map.1 ha
  have h2:=hle.2 e (List.mem_filter.1 hx).1
  simp only
  omega
section
variable {P : Program} {np id : Nat} {h : Nat → Option Ent} {K : AV → List Nat → List (Nat × Option Ent) → Prop} {f : FuncId} {first capt args args' : List AV} {res : AV}
theorem zls {i j : Nat} {e1 e2 e1' e2' : Ent} {hs' : List (Option Ent)} (hij : i ≠ j) (h1 : h i = some e1) (h2 : h j = some e2) (he1 : zax [(i,0),(j,1)] [] h 4 e1 = e1') (he2 : zax [(i,0),(j,1)] [] h 4 e2 = e2')
  (hc : zak P f args' [e1',e2'] res hs') (h8 : hs'.length ≤ 10) (he : (first ++ args ++ capt).map (conv [(i,0),(j,1)] [] h 4) = args')
  (hk : K (conv (swp [i,j] id) [] (fun _=>none) 4 res) [i,j] (hs'.zipIdx.map fun (e,k)=>((i :: j :: (List.range 8).map (id + ·)).getD k 0,e.map (zax (swp [i,j] id) [] (fun _=>none) 4)))) : aK P np id .call (.fn (.func f) first capt :: args) h K :=
 ⟨[i,j],[],true,args',[e1',e2'],res,hs',by simp [hij],by simp,by simp,by rw [show [i,j].zipIdx = [(i,0),(j,1)] from rfl,he]; exact zbV _,by
  rw [show [i,j].zipIdx = [(i,0),(j,1)] from rfl]
  simp only [List.map_cons,List.map_nil,h1,h2,Option.map_some,he1,he2],hc,by simpa using h8,.inl rfl,by simpa [swp] using hk⟩
end
theorem zbu (k : Int) (h : 0 ≤ k) (h2 : k ≤ 1000000) : zak Tryz.prog zbq [.I k] [] (.I (2 + 2 * k)) []:=by
 refine zn6.acalls (nbz rfl) (nbz rfl) (Nat.le_refl _) ?_
 show awp _ 0 _ _ ⟨6,[(0,.I k)],[],16⟩
 have hw1 : IntKind.i64.wrap (2 * k) = 2 * k:=w64 (by omega) (by omega)
 have hw2 : IntKind.i64.wrap (2 + 2 * k) = 2 + 2 * k:=w64 (by omega) (by omega)
 refine rx (s:=?s1) [0] [] [] rfl ?o1 ?q1
 case o1=>simp; rfl
 refine rx (s:=?s2) [2] [] [] rfl ?o2 ?q2
 case o2=>simp [hw1,hw2]; rfl
 refine zah ?_
 exact ⟨.inr rfl,zan.one (by simp)⟩
theorem zho (k : Int) (h : 0 ≤ k) (h2 : k ≤ 1000000) : zak Tryz.prog zeT [.I k] [] (.I (3 + 2 * k)) []:=by
 refine zo7.acalls (nbz rfl) (nbz rfl) (Nat.le_refl _) ?_
 show awp _ 0 _ _ ⟨_,[(0,.I k)],[],16⟩
 have hw2 : IntKind.i64.wrap (2 + 2 * k + 1) = 3 + 2 * k:=by rw [w64 (by omega) (by omega)]; omega
 refine rx (s:=?s1) [0] [] [] rfl ?o1 ?q1
 case o1=>simp; rfl
 refine rx (s:=?s2) [2] [] [] rfl ?o2 ?q2
 case o2=>simp; refine zal (zbu k h h2) (by simp) ?_; simp [hw2]; rfl
 refine zah ?_
 exact ⟨.inr rfl,zan.one (by simp)⟩
theorem zdg (k : Int) (h : 0 ≤ k) (h2 : k ≤ 1000000) : zak Tryz.prog zcF [.I k] [] (.I (2 + 2 * k)) []:=by
 refine znY.acalls (nbz rfl) (nbz rfl) (Nat.le_refl _) ?_
 show awp _ 0 _ _ ⟨_,[(0,.I k)],[],16⟩
 have hw1 : IntKind.i64.wrap (2 * k) = 2 * k:=w64 (by omega) (by omega)
 have hw2 : IntKind.i64.wrap (2 + 2 * k) = 2 + 2 * k:=w64 (by omega) (by omega)
 refine rx (s:=?s1) [0] [] [] rfl ?o1 ?q1
 case o1=>simp; rfl
 refine rx (s:=?s2) [2] [] [] rfl ?o2 ?q2
 case o2=>simp [hw1,hw2]; rfl
 refine zah ?_
 exact ⟨.inr rfl,zan.one (by simp)⟩
theorem zha (k : Int) (h : 0 ≤ k) (h2 : k ≤ 1000000) : zak Tryz.prog ze7 [.I k] [] (.I (3 + 2 * k)) []:=by
 refine zo5.acalls (nbz rfl) (nbz rfl) (Nat.le_refl _) ?_
 show awp _ 0 _ _ ⟨_,[(0,.I k)],[],16⟩
 have hw1 : IntKind.i64.wrap (2 * k) = 2 * k:=w64 (by omega) (by omega)
 have hw2 : IntKind.i64.wrap (3 + 2 * k) = 3 + 2 * k:=w64 (by omega) (by omega)
 refine rx (s:=?s1) [0] [] [] rfl ?o1 ?q1
 case o1=>simp; rfl
 refine rx (s:=?s2) [2] [] [] rfl ?o2 ?q2
 case o2=>simp [hw1,hw2]; rfl
 refine zah ?_
 exact ⟨.inr rfl,zan.one (by simp)⟩
abbrev outV (N : Int) (B n : Nat) : Ent:=⟨2,[[.I N,.rs B 0 n]],0⟩
theorem zpG (N f t v : Int) (L : List Ed) (n : Nat) (hL : L.length = n) (hn : n ≤ 1000000) : zak Tryz.prog zaG [.I f,.I t,.I v,.pt 0 0 0] [outV N 1 n,⟨3,zaW L,0⟩] (.tup []) [some (outV N 2 (n + 1)),none,some ⟨3,zaW (L ++ [⟨f,t,v⟩]),0⟩]:=by
 refine zia.acalls (nbz rfl) (nbz rfl) (nbz rfl) ?_
 show awp _ 2 _ _ ⟨16,[(0,.I f),(1,.I t),(2,.I v),(3,.pt 0 0 0)],[(0,some (outV N 1 n)),(1,some ⟨3,zaW L,0⟩)],16⟩
 have htl : ∀ f : Ed → List AV,List.take n (List.map f L) = List.map f L:=fun f=>List.take_of_length_le (by simp [hL])
 refine zag (s:=?s1) rfl ?o1 ?q1
 case o1=>simp [hL,htl]; refine ⟨by omega,by omega,?_⟩; rfl
 refine ⟨.inl rfl,⟨[],rfl,[72],[],by simp [List.range,List.range.loop],by simp,by simp,by simp,?_⟩⟩
 simp [List.range,List.range.loop]
def arc1 (c : List Int) (x : Int) : List Ed:=if 0 < c.getD x.toNat 0 then [⟨0,2 + 2 * x,c.getD x.toNat 0⟩] else []
def arc2 (c : List Int) (i : Nat) : List Ed:=if 0 < c.getD i 0 then [⟨2 + 2 * (i : Int),3 + 2 * (i : Int),c.getD i 0 - 1⟩] else []
def arc3 (c : List Int) (x : Int) : List Ed:=if 0 < c.getD x.toNat 0 then [⟨2 + 2 * x,1,1⟩] else []
def arc4 (c : List Int) (e : Ed) : List Ed:=if 0 < c.getD e.f.toNat 0 then [⟨3 + 2 * e.f,2 + 2 * e.t,64⟩] else []
theorem zcT {α : Type} (q : α → Bool) (f : α → Ed) (l : List α) : (l.filter q).map f = l.flatMap fun x=>if q x = true then [f x] else []:=by
 induction l with
 | nil=>rfl
 | cons x l ih=>by_cases h : q x = true <;> simp [h,ih]
theorem zfI (g : Gr) (p : Pol) (c sinks : List Int) : zaX g p c sinks = p.seeds.flatMap (arc1 c) ++ (List.range c.length).flatMap (arc2 c) ++ sinks.flatMap (arc3 c) ++ (zai g p.lv).edges.flatMap (arc4 c):=by
 unfold zaX
 rw [zcT,zcT,zcT,zcT]
 simp only [decide_eq_true_eq]
 rfl
theorem zdu {α : Type} (f : α → List Ed) (l : List α) (i : Nat) (h : i < l.length) : (l.take (i + 1)).flatMap f = (l.take i).flatMap f ++ f l[i]:=by
 rw [List.take_succ_eq_append_getElem h,List.flatMap_append]
 simp
theorem zca {α : Type} (f : α → List Ed) (hf : ∀ x,(f x).length ≤ 1) (l : List α) : (l.flatMap f).length ≤ l.length:=by
 induction l with
 | nil=>simp
 | cons x l ih=>rw [List.flatMap_cons,List.length_append,List.length_cons]; have:=hf x; omega
theorem zhe (c : List Int) (x : Int) : (arc1 c x).length ≤ 1:=by unfold arc1; split <;> simp
theorem zhc (c : List Int) (x : Nat) : (arc2 c x).length ≤ 1:=by unfold arc2; split <;> simp
theorem zhp (c : List Int) (x : Int) : (arc3 c x).length ≤ 1:=by unfold arc3; split <;> simp
theorem zg0 (c : List Int) (x : Ed) : (arc4 c x).length ≤ 1:=by unfold arc4; split <;> simp
theorem zbn {α : Type} (f : α → List Ed) (hf : ∀ x,(f x).length ≤ 1) (l : List α) (i : Nat) : ((l.take i).flatMap f).length ≤ l.length:=Nat.le_trans (zca f hf _) (List.length_take_le' i l)
set_option maxRecDepth 100000 in
set_option maxHeartbeats 4000000 in
theorem zfo (g : Gr) (p : Pol) (sinks : List Int) (hg : GrOk g) (hp : zaV g.size p) (hr : Rise sinks 0 (g.size - 1)) (hs : p.seeds.length ≤ 64) (hsl : sinks.length ≤ 64) :
  zak Tryz.prog zdf [eG g,eP p,ints sinks] [] (.tup [eN ⟨2 + 2 * g.size,zaX g p (zaC g p) sinks⟩,.I 0]) []:=by
 refine zkZ.acalls (nbz rfl) (nbz rfl) (Nat.le_refl _) ?_
 show awp _ 0 _ _ ⟨123,[(0,eG g),(1,eP p),(2,ints sinks)],[],16⟩
 have hsz:=hg.1.1
 have hsz2:=hg.1.2.1
 have hel:=hg.edges_le
 have hgl:=hg.gone_le
 have hchk:=zbE g p (by omega) (by omega) (by omega) (by have:=hp.2.2.2.1; omega)
 rw [if_pos hg,if_pos hp] at hchk
 have hcap:=zjY g p hg (by omega)
 have hcb:=zkj (g:=g) hp
 have hcl : (zaC g p).length = g.size.toNat:=zbP
 rw [← hcl] at hcap
 have hlev:=zdq g p.lv (by omega) (by omega)
 rw [zfI]
 obtain ⟨C,hC⟩ : ∃ C,C = zaC g p:=⟨_,rfl⟩
 rw [← hC] at hcap hcl hcb ⊢
 have hGe : ∀ e ∈ (zai g p.lv).edges,e ∈ g.edges:=fun e he=>(List.mem_filter.1 he).1
 have hGl : (zai g p.lv).edges.length ≤ 500:=Nat.le_trans (List.length_filter_le ..) hel
 obtain ⟨G,hG⟩ : ∃ G,G = zai g p.lv:=⟨_,rfl⟩
 rw [← hG] at hlev hGe hGl ⊢
 have hw1 : IntKind.i64.wrap (g.size - 1) = g.size - 1:=w64 (by omega) (by omega)
 have hfit : ∀ e ∈ G.edges,(0 ≤ e.f ∧ e.f < g.size) ∧ (0 ≤ e.t ∧ e.t < g.size):=fun e he=>by
  have:=hg.fits e (hGe e he)
  unfold Fits at this
  omega
 have hkey : ∀ k : Int,0 ≤ k → k < g.size → ∃ j : Nat,k = j ∧ j < C.length ∧ j < 64:=fun k h0 h1=>⟨k.toNat,by omega,by omega,by omega⟩
 have hseed : ∀ k ∈ p.seeds,∃ j : Nat,k = j ∧ j < C.length ∧ j < 64:=fun k hk=>by
  obtain ⟨i,hi,rfl⟩:=List.getElem_of_mem hk
  have:=hp.2.1 i hi
  exact hkey _ (by omega) (by omega)
 have hsink : ∀ k ∈ sinks,∃ j : Nat,k = j ∧ j < C.length ∧ j < 64:=fun k hk=>by
  obtain ⟨i,hi,rfl⟩:=List.getElem_of_mem hk
  have:=hr i hi
  exact hkey _ (by omega) (by omega)
 refine zaa ⟨123,[(2,ints sinks),(3,.pv (gC g)),(4,.pv (pC p)),(6,.pt 32 0 0)],[(32,some ⟨2,[[.I 0,.nilS]],0⟩)],48⟩ rfl ?_ ?_
 ·simp
  exact LeH [(32,32)] [16,24]
 refine zab ?_
 refine rk (s:=?s2) [2,3,4,6,8] [32] rfl ?o2 ?q2
 case o2=>simp; refine zal hchk (by simp) ?_; simp; rfl
 refine rk (s:=?s3) [2,3,4,6,24] [32] rfl ?o3 ?q3
 case o3=>simp; rfl
 refine zac _ rfl (fun h4=>?_) fun h4=>zad ?_
 ·simp at h4
 refine zab ?_
 refine rk (s:=?s5) [2,3,4,6,32] [32] rfl ?o5 ?q5
 case o5=>simp [hw1]; refine zal (zd0 sinks 0 (g.size - 1) (by omega)) (by simp) ?_; simp [hr]; rfl
 refine zac _ rfl (fun h6=>?_) fun h6=>zad ?_
 ·simp at h6
 refine rk (s:=?s7) [2,3,4,6,9] [32,176] rfl ?o7 ?q7
 case o7=>simp; refine zal (zbu g.size hsz (by omega)) (by simp) ?_; simp; rfl
 obtain ⟨N,hN⟩ : ∃ N : Int,N = 2 + 2 * g.size:=⟨_,rfl⟩
 simp only [← hN]
 refine rk (s:=?s8) [2,3,4,6,9,10] [32,176] rfl ?o8 ?q8
 case o8=>simp; rfl
 refine zaa ⟨123,[(2,ints sinks),(3,.pv (gC g)),(4,.pv (pC p)),(6,.pt 32 0 0),(9,.pt 176 0 0),(10,.fn (.func zaG) [] [.pt 176 0 0]),(11,ints C)],[(32,some ⟨2,[[.I 0,.nilS]],0⟩),(176,some ⟨2,[[.I N,.nilS]],0⟩)],240⟩ rfl ?_ ?_
 ·simp
  refine zaM hcap (by simp) ?_
  simp [fcd]
  exact Le.go [(32,32),(176,176)] [224] rfl rfl (by simp [fcd,zaj]) (by simp)
 have hb1 : (p.seeds.flatMap (arc1 C)).length ≤ 64:=Nat.le_trans (zca _ (zhe C) _) hs
 have hb2 : ((List.range C.length).flatMap (arc2 C)).length ≤ 64:=Nat.le_trans (zca _ (zhc C) _) (by rw [List.length_range]; omega)
 have hb3 : (sinks.flatMap (arc3 C)).length ≤ 64:=Nat.le_trans (zca _ (zhp C) _) hsl
 have hb4 : (G.edges.flatMap (arc4 C)).length ≤ 500:=Nat.le_trans (zca _ (zg0 C) _) hGl
 obtain ⟨X1,hX1⟩ : ∃ X,X = p.seeds.flatMap (arc1 C):=⟨_,rfl⟩
 obtain ⟨X2,hX2⟩ : ∃ X,X = (List.range C.length).flatMap (arc2 C):=⟨_,rfl⟩
 obtain ⟨X3,hX3⟩ : ∃ X,X = sinks.flatMap (arc3 C):=⟨_,rfl⟩
 obtain ⟨X4,hX4⟩ : ∃ X,X = G.edges.flatMap (arc4 C):=⟨_,rfl⟩
 obtain ⟨Z2,hZ2⟩ : ∃ Z,Z = X1 ++ X2:=⟨_,rfl⟩
 obtain ⟨Z3,hZ3⟩ : ∃ Z,Z = Z2 ++ X3:=⟨_,rfl⟩
 obtain ⟨Z4,hZ4⟩ : ∃ Z,Z = Z3 ++ X4:=⟨_,rfl⟩
 rw [← hX1] at hb1
 rw [← hX2] at hb2
 rw [← hX3] at hb3
 rw [← hX4] at hb4
 rw [← hX1,← hX2,← hX3,← hX4,← hZ2,← hZ3,← hZ4]
 have hz2 : Z2.length ≤ 128:=by rw [hZ2,List.length_append]; omega
 have hz3 : Z3.length ≤ 192:=by rw [hZ3,List.length_append]; omega
 refine zab ?_
 refine rk (s:=?sa1) [2,3,4,6,9,10,11,43,44,45] [32,176] rfl ?oa1 ?qa1
 case oa1=>simp; rfl
 refine zaf ?_
 obtain ⟨Fa,Fa0,Fas,Fal,FaN⟩ : ∃ F : Nat → List Ed,F 0 = [] ∧ (∀ i (h : i < (p.seeds).length),F (i + 1) = F i ++ arc1 C (p.seeds)[i]) ∧ (∀ i,(F i).length ≤ 64) ∧ F (p.seeds).length = (p.seeds).flatMap (arc1 C) :=
  ⟨fun i=>((p.seeds).take i).flatMap (arc1 C),by simp,fun i h=>by simp only [zdu _ _ i h,List.append_assoc],fun i=>by have:=zbn _ (zhe C) (p.seeds) i; exact Nat.le_trans this hs,by simp⟩
 rw [← hX1] at FaN
 refine zao (ι:=Nat) (fun i=>⟨123,[(2,ints sinks),(3,.pv (gC g)),(4,.pv (pC p)),(6,.pt 32 0 0),(9,.pt 176 0 0),(10,.fn (.func zaG) [] [.pt 176 0 0]),(11,ints C),(43,ints p.seeds),(44,.I p.seeds.length),(45,.I i)],[(32,some ⟨2,[[.I 0,.nilS]],0⟩),(176,some (outV N 16 (Fa i).length)),(16,some ⟨3,zaW (Fa i),0⟩)],272⟩) (fun i=>i ≤ p.seeds.length) (fun i=>p.seeds.length - i) 0 (Nat.zero_le _) (Le.lst [(32,32),(176,176)] [] [(16,3)] rfl (by simp) (by simp) (by simp) (by simp) (by simp) (by simp) (by simp) (by simp [Up]) (by simp [Fa0]; refine ⟨zay.rfl' (by simp),zay.row rfl (by omega) (by simp [UpL,Up])⟩)) ?_
 intro i hi
 refine rk (s:=?sa2) [2,3,4,6,9,10,11,43,44,45,46] [32,176,16] rfl ?oa2 ?qa2
 case oa2=>simp; rfl
 refine zab ?_
 refine zac _ rfl (fun h7=>?_) fun h7=>?_
 ·simp at h7
  have hw : IntKind.i64.wrap ((i : Int) + 1) = (i : Int) + 1:=w64 (by omega) (by omega)
  have hFi:=Fal i
  obtain ⟨k,hk,hkC,hk64⟩:=hseed _ (List.getElem_mem h7)
  have hFn : Fa (i + 1) = Fa i ++ if 0 < C[k] then [⟨0,2 + 2 * (k : Int),C[k]⟩] else []:=by
   rw [Fas i h7,hk]
   unfold arc1
   simp [hkC]
  refine zad ?_
  refine zaI (ι:=Unit) (fun _=>⟨123,[(2,ints sinks),(3,.pv (gC g)),(4,.pv (pC p)),(6,.pt 32 0 0),(9,.pt 176 0 0),(10,.fn (.func zaG) [] [.pt 176 0 0]),(11,ints C),(43,ints p.seeds),(44,.I p.seeds.length),(45,.I i)],[(32,some ⟨2,[[.I 0,.nilS]],0⟩),(176,some (outV N 16 (Fa (i + 1)).length)),(16,some ⟨3,zaW (Fa (i + 1)),0⟩)],700⟩) (fun _=>True) ?_ fun _ _=>?_
  ·refine zaf ?_
   refine rk (s:=?sa3) [2,3,4,6,9,10,11,13,43,44,45] [32,176,16] rfl ?oa3 ?qa3
   case oa3=>simp [h7,hk]; rfl
   refine rk (s:=?sa4) [2,3,4,6,9,10,11,13,43,44,45,53] [32,176,16] rfl ?oa4 ?qa4
   case oa4=>simp [hkC]; rfl
   refine zac _ rfl (fun h8=>?_) fun h8=>?_
   ·simp at h8
    rw [if_pos h8] at hFn
    refine zbI rfl ?_
    simp [hkC]
    refine zal (zbu k (by omega) (by omega)) (by simp) ?_
    simp [hkC]
    refine zls (i:=176) (j:=16) (by decide) rfl rfl (e1':=outV N 1 (Fa i).length) (e2':=⟨3,zaW (Fa i),0⟩) (by simp) (by simp [fcd]) (zpG N 0 (2 + 2 * (k : Int)) C[k] (Fa i) _ rfl (by omega)) (by simp) (by simp) ?_
    simp [fcd]
    exact ⟨rfl,Le.go [(32,32),(176,176),(400,16)] [] rfl rfl (by simp [hFn]) (by simp [hFn,fcd])⟩
   ·simp at h8
    rw [if_neg (by omega)] at hFn
    refine zad ?_
    exact ⟨(),trivial,Le.go [(32,32),(176,176),(16,16)] [] rfl rfl (by simp [hFn]) (by simp [hFn,fcd])⟩
  refine zag (s:=?sa9) rfl ?oa9 ?qa9
  case oa9=>simp; rfl
  exact ⟨i + 1,by omega,by omega,Le.go [(32,32),(176,176),(16,16)] [] rfl rfl (by simp [hw]) (by simp [fcd])⟩
 simp at h7
 obtain rfl : i = p.seeds.length:=by omega
 rw [FaN]
 refine zam ?_
 refine hit ?_
 refine zab ?_
 refine rk (s:=?sb1) [2,3,4,6,9,10,11,63,64,65] [32,176,16] rfl ?ob1 ?qb1
 case ob1=>simp; rfl
 refine zaf ?_
 obtain ⟨Fb,Fb0,Fbs,Fbl,FbN⟩ : ∃ F : Nat → List Ed,F 0 = X1 ∧ (∀ i (h : i < (List.range C.length).length),F (i + 1) = F i ++ arc2 C (List.range C.length)[i]) ∧ (∀ i,(F i).length ≤ 200) ∧ F (List.range C.length).length = X1 ++ (List.range C.length).flatMap (arc2 C) :=
  ⟨fun i=>X1 ++ ((List.range C.length).take i).flatMap (arc2 C),by simp,fun i h=>by simp only [zdu _ _ i h,List.append_assoc],fun i=>by have:=zbn _ (zhc C) (List.range C.length) i; rw [List.length_range] at this; rw [List.length_append]; omega,by simp⟩
 rw [List.length_range,← hX2,← hZ2] at FbN
 refine zao (ι:=Nat) (fun i=>⟨123,[(2,ints sinks),(3,.pv (gC g)),(4,.pv (pC p)),(6,.pt 32 0 0),(9,.pt 176 0 0),(10,.fn (.func zaG) [] [.pt 176 0 0]),(11,ints C),(63,ints C),(64,.I C.length),(65,.I i)],[(32,some ⟨2,[[.I 0,.nilS]],0⟩),(176,some (outV N 16 (Fb i).length)),(16,some ⟨3,zaW (Fb i),0⟩)],304⟩) (fun i=>i ≤ C.length) (fun i=>C.length - i) 0 (Nat.zero_le _) (Le.go [(32,32),(176,176),(16,16)] [] rfl rfl (by simp [Fb0]) (by simp [Fb0,fcd])) ?_
 intro i hi
 refine rk (s:=?sb2) [2,3,4,6,9,10,11,63,64,65,66] [32,176,16] rfl ?ob2 ?qb2
 case ob2=>simp; rfl
 refine zab ?_
 refine zac _ rfl (fun h7=>?_) fun h7=>?_
 ·simp at h7
  have hw : IntKind.i64.wrap ((i : Int) + 1) = (i : Int) + 1:=w64 (by omega) (by omega)
  have hFi:=Fbl i
  have hkC:=h7
  have hFn : Fb (i + 1) = Fb i ++ if 0 < C[i] then [⟨2 + 2 * (i : Int),3 + 2 * (i : Int),C[i] - 1⟩] else []:=by
   rw [Fbs i (by simpa using h7)]
   unfold arc2
   simp [hkC]
  have hci:=hcb _ (List.getElem_mem h7)
  have hwc : IntKind.i64.wrap (C[i] - 1) = C[i] - 1:=w64 (by omega) (by omega)
  refine zad ?_
  refine zaI (ι:=Unit) (fun _=>⟨123,[(2,ints sinks),(3,.pv (gC g)),(4,.pv (pC p)),(6,.pt 32 0 0),(9,.pt 176 0 0),(10,.fn (.func zaG) [] [.pt 176 0 0]),(11,ints C),(63,ints C),(64,.I C.length),(65,.I i)],[(32,some ⟨2,[[.I 0,.nilS]],0⟩),(176,some (outV N 16 (Fb (i + 1)).length)),(16,some ⟨3,zaW (Fb (i + 1)),0⟩)],700⟩) (fun _=>True) ?_ fun _ _=>?_
  ·refine zaf ?_
   refine rk (s:=?sb3) [2,3,4,6,9,10,11,14,15,63,64,65] [32,176,16] rfl ?ob3 ?qb3
   case ob3=>simp [h7]; rfl
   refine rk (s:=?sb4) [2,3,4,6,9,10,11,14,15,63,64,65,71] [32,176,16] rfl ?ob4 ?qb4
   case ob4=>simp [hkC]; rfl
   refine zac _ rfl (fun h8=>?_) fun h8=>?_
   ·simp at h8
    rw [if_pos h8] at hFn
    refine zar rfl ?_
    simp [hkC]
    refine zal (zbu i (by omega) (by omega)) (by simp) ?_
    simp [hkC,hwc]
    refine zal (zho i (by omega) (by omega)) (by simp) ?_
    simp [hkC,hwc]
    refine zls (i:=176) (j:=16) (by decide) rfl rfl (e1':=outV N 1 (Fb i).length) (e2':=⟨3,zaW (Fb i),0⟩) (by simp) (by simp [fcd]) (zpG N (2 + 2 * (i : Int)) (3 + 2 * (i : Int)) (C[i] - 1) (Fb i) _ rfl (by omega)) (by simp) (by simp) ?_
    simp [fcd]
    exact Le.go [(32,32),(176,176),(424,16)] [] rfl rfl (by simp [hFn]) (by simp [hFn,fcd])
   ·simp at h8
    rw [if_neg (by omega)] at hFn
    refine zad ?_
    exact ⟨(),trivial,Le.go [(32,32),(176,176),(16,16)] [] rfl rfl (by simp [hFn]) (by simp [hFn,fcd])⟩
  refine zag (s:=?sb9) rfl ?ob9 ?qb9
  case ob9=>simp; rfl
  exact ⟨i + 1,by omega,by omega,Le.go [(32,32),(176,176),(16,16)] [] rfl rfl (by simp [hw]) (by simp [fcd])⟩
 simp at h7
 obtain rfl : i = C.length:=by omega
 rw [FbN]
 refine zam ?_
 refine hit ?_
 refine zab ?_
 refine rk (s:=?sc1) [3,4,6,9,10,11,81,82,83] [32,176,16] rfl ?oc1 ?qc1
 case oc1=>simp; rfl
 refine zaf ?_
 obtain ⟨Fc,Fc0,Fcs,Fcl,FcN⟩ : ∃ F : Nat → List Ed,F 0 = Z2 ∧ (∀ i (h : i < (sinks).length),F (i + 1) = F i ++ arc3 C (sinks)[i]) ∧ (∀ i,(F i).length ≤ 300) ∧ F (sinks).length = Z2 ++ (sinks).flatMap (arc3 C) :=
  ⟨fun i=>Z2 ++ ((sinks).take i).flatMap (arc3 C),by simp,fun i h=>by simp only [zdu _ _ i h,List.append_assoc],fun i=>by have:=zbn _ (zhp C) (sinks) i; simp only [List.length_append]; omega,by simp⟩
 rw [← hX3,← hZ3] at FcN
 refine zao (ι:=Nat) (fun i=>⟨123,[(3,.pv (gC g)),(4,.pv (pC p)),(6,.pt 32 0 0),(9,.pt 176 0 0),(10,.fn (.func zaG) [] [.pt 176 0 0]),(11,ints C),(81,ints sinks),(82,.I sinks.length),(83,.I i)],[(32,some ⟨2,[[.I 0,.nilS]],0⟩),(176,some (outV N 16 (Fc i).length)),(16,some ⟨3,zaW (Fc i),0⟩)],336⟩) (fun i=>i ≤ sinks.length) (fun i=>sinks.length - i) 0 (Nat.zero_le _) (Le.go [(32,32),(176,176),(16,16)] [] rfl rfl (by simp [Fc0]) (by simp [Fc0,fcd])) ?_
 intro i hi
 refine rk (s:=?sc2) [3,4,6,9,10,11,81,82,83,84] [32,176,16] rfl ?oc2 ?qc2
 case oc2=>simp; rfl
 refine zab ?_
 refine zac _ rfl (fun h7=>?_) fun h7=>?_
 ·simp at h7
  have hw : IntKind.i64.wrap ((i : Int) + 1) = (i : Int) + 1:=w64 (by omega) (by omega)
  have hFi:=Fcl i
  obtain ⟨k,hk,hkC,hk64⟩:=hsink _ (List.getElem_mem h7)
  have hFn : Fc (i + 1) = Fc i ++ if 0 < C[k] then [⟨2 + 2 * (k : Int),1,1⟩] else []:=by
   rw [Fcs i h7,hk]
   unfold arc3
   simp [hkC]
  refine zad ?_
  refine zaI (ι:=Unit) (fun _=>⟨123,[(3,.pv (gC g)),(4,.pv (pC p)),(6,.pt 32 0 0),(9,.pt 176 0 0),(10,.fn (.func zaG) [] [.pt 176 0 0]),(11,ints C),(81,ints sinks),(82,.I sinks.length),(83,.I i)],[(32,some ⟨2,[[.I 0,.nilS]],0⟩),(176,some (outV N 16 (Fc (i + 1)).length)),(16,some ⟨3,zaW (Fc (i + 1)),0⟩)],700⟩) (fun _=>True) ?_ fun _ _=>?_
  ·refine zaf ?_
   refine rk (s:=?sc3) [3,4,6,9,10,11,17,81,82,83] [32,176,16] rfl ?oc3 ?qc3
   case oc3=>simp [h7,hk]; rfl
   refine rk (s:=?sc4) [3,4,6,9,10,11,17,81,82,83,91] [32,176,16] rfl ?oc4 ?qc4
   case oc4=>simp [hkC]; rfl
   refine zac _ rfl (fun h8=>?_) fun h8=>?_
   ·simp at h8
    rw [if_pos h8] at hFn
    refine zar rfl ?_
    simp [hkC]
    refine zal (zbu k (by omega) (by omega)) (by simp) ?_
    simp [hkC]
    refine zls (i:=176) (j:=16) (by decide) rfl rfl (e1':=outV N 1 (Fc i).length) (e2':=⟨3,zaW (Fc i),0⟩) (by simp) (by simp [fcd]) (zpG N (2 + 2 * (k : Int)) 1 1 (Fc i) _ rfl (by omega)) (by simp) (by simp) ?_
    simp [fcd]
    exact Le.go [(32,32),(176,176),(432,16)] [] rfl rfl (by simp [hFn]) (by simp [hFn,fcd])
   ·simp at h8
    rw [if_neg (by omega)] at hFn
    refine zad ?_
    exact ⟨(),trivial,Le.go [(32,32),(176,176),(16,16)] [] rfl rfl (by simp [hFn]) (by simp [hFn,fcd])⟩
  refine zag (s:=?sc9) rfl ?oc9 ?qc9
  case oc9=>simp; rfl
  exact ⟨i + 1,by omega,by omega,Le.go [(32,32),(176,176),(16,16)] [] rfl rfl (by simp [hw]) (by simp [fcd])⟩
 simp at h7
 obtain rfl : i = sinks.length:=by omega
 rw [FcN]
 refine zam ?_
 refine hit ?_
 refine zab ?_
 refine rk (s:=?sd1) [6,9,10,11,101,102,103] [32,176,16] rfl ?od1 ?qd1
 case od1=>simp; refine zal hlev (by simp) ?_; simp; rfl
 refine zaf ?_
 obtain ⟨Fd,Fd0,Fds,Fdl,FdN⟩ : ∃ F : Nat → List Ed,F 0 = Z3 ∧ (∀ i (h : i < (G.edges).length),F (i + 1) = F i ++ arc4 C (G.edges)[i]) ∧ (∀ i,(F i).length ≤ 900) ∧ F (G.edges).length = Z3 ++ (G.edges).flatMap (arc4 C) :=
  ⟨fun i=>Z3 ++ ((G.edges).take i).flatMap (arc4 C),by simp,fun i h=>by simp only [zdu _ _ i h,List.append_assoc],fun i=>by have:=zbn _ (zg0 C) (G.edges) i; simp only [List.length_append]; omega,by simp⟩
 rw [← hX4,← hZ4] at FdN
 refine zao (ι:=Nat) (fun i=>⟨123,[(6,.pt 32 0 0),(9,.pt 176 0 0),(10,.fn (.func zaG) [] [.pt 176 0 0]),(11,ints C),(101,eEs G.edges),(102,.I G.edges.length),(103,.I i)],[(32,some ⟨2,[[.I 0,.nilS]],0⟩),(176,some (outV N 16 (Fd i).length)),(16,some ⟨3,zaW (Fd i),0⟩)],400⟩) (fun i=>i ≤ G.edges.length) (fun i=>G.edges.length - i) 0 (Nat.zero_le _) (Le.go [(32,32),(176,176),(16,16)] [] rfl rfl (by simp [Fd0]) (by simp [Fd0,fcd])) ?_
 intro i hi
 refine rk (s:=?sd2) [6,9,10,11,101,102,103,104] [32,176,16] rfl ?od2 ?qd2
 case od2=>simp; rfl
 refine zab ?_
 refine zac _ rfl (fun h7=>?_) fun h7=>?_
 ·simp at h7
  have hw : IntKind.i64.wrap ((i : Int) + 1) = (i : Int) + 1:=w64 (by omega) (by omega)
  have hFi:=Fdl i
  obtain ⟨x,hx⟩ : ∃ x,x = G.edges[i]:=⟨_,rfl⟩
  have hfx:=hfit _ (List.getElem_mem h7)
  rw [← hx] at hfx
  obtain ⟨k,hk,hkC,hk64⟩:=hkey x.f hfx.1.1 hfx.1.2
  obtain ⟨u,hu,huC,hu64⟩:=hkey x.t hfx.2.1 hfx.2.2
  have hFn : Fd (i + 1) = Fd i ++ if 0 < C[k] then [⟨3 + 2 * (k : Int),2 + 2 * (u : Int),64⟩] else []:=by
   rw [Fds i h7,← hx]
   unfold arc4
   rw [hk,hu]
   simp [hkC]
  refine zad ?_
  refine zaI (ι:=Unit) (fun _=>⟨123,[(6,.pt 32 0 0),(9,.pt 176 0 0),(10,.fn (.func zaG) [] [.pt 176 0 0]),(11,ints C),(101,eEs G.edges),(102,.I G.edges.length),(103,.I i)],[(32,some ⟨2,[[.I 0,.nilS]],0⟩),(176,some (outV N 16 (Fd (i + 1)).length)),(16,some ⟨3,zaW (Fd (i + 1)),0⟩)],700⟩) (fun _=>True) ?_ fun _ _=>?_
  ·refine zaf ?_
   refine zaa ⟨123,[(6,.pt 32 0 0),(9,.pt 176 0 0),(10,.fn (.func zaG) [] [.pt 176 0 0]),(11,ints C),(19,.pv (eC x)),(101,eEs G.edges),(102,.I G.edges.length),(103,.I i)],[(32,some ⟨2,[[.I 0,.nilS]],0⟩),(176,some (outV N 16 (Fd i).length)),(16,some ⟨3,zaW (Fd i),0⟩)],440⟩ rfl ?_ ?_
   ·simp [h7,← hx]
    exact LeI [(32,32),(176,176),(16,16)] [424]
   refine rk (s:=?sd4) [6,9,10,11,19,101,102,103,112] [32,176,16] rfl ?od4 ?qd4
   case od4=>simp [hk,hkC]; rfl
   refine zac _ rfl (fun h8=>?_) fun h8=>?_
   ·simp at h8
    rw [if_pos h8] at hFn
    refine zbI rfl ?_
    simp [hk,hu]
    refine zal (zho k (by omega) (by omega)) (by simp) ?_
    simp [hkC]
    refine zal (zbu u (by omega) (by omega)) (by simp) ?_
    simp [hkC]
    refine zls (i:=176) (j:=16) (by decide) rfl rfl (e1':=outV N 1 (Fd i).length) (e2':=⟨3,zaW (Fd i),0⟩) (by simp) (by simp [fcd]) (zpG N (3 + 2 * (k : Int)) (2 + 2 * (u : Int)) 64 (Fd i) _ rfl (by omega)) (by simp) (by simp) ?_
    simp [fcd]
    exact ⟨rfl,Le.go [(32,32),(176,176),(544,16)] [] rfl rfl (by simp [hFn]) (by simp [hFn,fcd])⟩
   ·simp at h8
    rw [if_neg (by omega)] at hFn
    refine zad ?_
    exact ⟨(),trivial,Le.go [(32,32),(176,176),(16,16)] [] rfl rfl (by simp [hFn]) (by simp [hFn,fcd])⟩
  refine zag (s:=?sd9) rfl ?od9 ?qd9
  case od9=>simp; rfl
  exact ⟨i + 1,by omega,by omega,Le.go [(32,32),(176,176),(16,16)] [] rfl rfl (by simp [hw]) (by simp [fcd])⟩
 simp at h7
 obtain rfl : i = G.edges.length:=by omega
 rw [FdN]
 refine zam ?_
 refine hit ?_
 refine rk (s:=?sz) [6,7] [32,16] rfl ?oz ?qz
 case oz=>simp; rfl
 refine zah ?_
 exact ⟨.inr rfl,zan.out [] [16] rfl (by simp) (by simp) (by simp [hN,fcd,zaj]) (by simp)⟩
end Go.Proofs.YteiabadhhhckfaaGreat
