/- Texts of this claim,merged. -/
import Derived.Test.YteiabadhhhckfaaGreatRh10
import Derived.Test.YteiabadhhhckfaaGreatRh11
set_option linter.unusedSimpArgs false
set_option linter.unusedVariables false
set_option linter.unusedSectionVars false
namespace Go.Proofs.YteiabadhhhckfaaGreat
open Go
section
variable {P : Program} {np id : Nat} {h : Nat → Option Ent} {K : AV → List Nat → List (Nat × Option Ent) → Prop}
theorem ztz {s i off len : Nat} (l : Nat) {e : Ent} (he : h i = some e) (hs : e.s = s) (hl : l ≤ len) (hK : K (.rs i (off + l) (len - l)) [i] []) : aK P np id (.slc s true false false) [.rs i off len,.sc (.int .i64 l)] h K:=by
 rw [zjO]
 exact ⟨l,len,0,len,rfl,hl,rfl,by simp,by simp,by simp,Nat.le_refl _,rfl,⟨e,he,hs⟩,hK⟩
end
structure BSt where
 D : List Int
 b : List Int
 Z : List Int
 off : Nat
 q : Nat
structure BInv (N : Nat) (A : List Ed) (f : List Int) (s : BSt) (m : Nat) : Prop where
 bfs : Bfs N A f s.D s.b
 z : s.off + s.q = s.Z.length
 d : m + s.q = s.D.length
 same : s.Z.drop s.off = s.D.drop m
section
variable {N : Nat} {A : List Ed} {f : List Int}
theorem zs0 {i : Nat} {k : Int} {D b : List Int} (hi : i < A.length) (hf : i < f.length) : tryS A f k (i,false) (D,b) = if A[i].f = k ∧ f[i] < A[i].v ∧ A[i].t ∉ D then (D ++ [A[i].t],b.set A[i].t.toNat ((i : Int) + 1)) else (D,b):=by
 have he : arcD A i = A[i]:=by unfold arcD; rw [List.getD_eq_getElem?_getD,List.getElem?_eq_getElem hi,Option.getD_some]
 have hg : f.getD i 0 = f[i]:=by rw [List.getD_eq_getElem?_getD,List.getElem?_eq_getElem hf,Option.getD_some]
 unfold tryS stF stT zbc encS
 simp only [Bool.false_eq_true,if_false,he,hg,Int.sub_pos]
theorem zsV {i : Nat} {k : Int} {D b : List Int} (hi : i < A.length) (hf : i < f.length) : tryS A f k (i,true) (D,b) = if A[i].t = k ∧ 0 < f[i] ∧ A[i].f ∉ D then (D ++ [A[i].f],b.set A[i].f.toNat (-((i : Int) + 1))) else (D,b):=by
 have he : arcD A i = A[i]:=by unfold arcD; rw [List.getD_eq_getElem?_getD,List.getElem?_eq_getElem hi,Option.getD_some]
 have hg : f.getD i 0 = f[i]:=by rw [List.getD_eq_getElem?_getD,List.getElem?_eq_getElem hf,Option.getD_some]
 unfold tryS stF stT zbc encS
 simp only [if_true,he,hg]
theorem BInv.more {s : BSt} {m : Nat} (h : BInv N A f s m) {x : Int} {b' : List Int} (hb : Bfs N A f (s.D ++ [x]) b') : BInv N A f ⟨s.D ++ [x],b',s.Z.drop s.off ++ [x],0,s.q + 1⟩ m:=by
 have h1:=h.z
 have h2:=h.d
 refine ⟨hb,?_,?_,?_⟩
 ·simp only [List.length_append,List.length_drop,List.length_singleton]; omega
 ·simp only [List.length_append,List.length_singleton]; omega
 ·simp only [List.drop_zero]
  rw [h.same,List.drop_append_of_le_length (by omega)]
theorem BInv.pop {s : BSt} {m : Nat} (h : BInv N A f s m) (hq : 0 < s.q) : BInv N A f { s with off:=s.off + 1,q:=s.q - 1 } (m + 1):=by
 have h1:=h.z
 have h2:=h.d
 refine ⟨h.bfs,by simp only; omega,by simp only; omega,?_⟩
 simp only
 rw [← List.drop_drop,h.same,List.drop_drop]
theorem BInv.head {s : BSt} {m : Nat} (h : BInv N A f s m) (hq : 0 < s.q) : ∃ hm : m < s.D.length,s.Z[s.off]? = some s.D[m]:=by
 have h1:=h.z
 have h2:=h.d
 refine ⟨by omega,?_⟩
 have e : (s.Z.drop s.off)[0]? = (s.D.drop m)[0]?:=by rw [h.same]
 rw [List.getElem?_drop,List.getElem?_drop,Nat.add_zero,Nat.add_zero] at e
 rw [e,List.getElem?_eq_getElem (by omega)]
end
set_option maxRecDepth 100000 in
set_option maxHeartbeats 4000000 in
theorem zk8 (N : Nat) (A : List Ed) (f : List Int) (hn : zaX ⟨N,A⟩) (hf : f.length = A.length) :
  ∃ x : List Int × List Int,(Bfs N A f x.1 x.2 ∧ zep A f x.1) ∧ zai Tryz.prog zcR [eN ⟨N,A⟩,ints f] [] (.rs 0 0 N) [some ⟨1,zag x.2,0⟩]:=by
 refine zjH.acallsX (args:=[eN ⟨N,A⟩,ints f]) (hs:=[]) (fun x=>.rs 0 0 N) (fun x=>[some ⟨1,zag x.2,0⟩]) (fun x : List Int × List Int=>Bfs N A f x.1 x.2 ∧ zep A f x.1) (nbz rfl) (nbz rfl) (fun _=>by simp) ?_
 show awp _ 0 _ _ ⟨112,[(0,eN ⟨N,A⟩),(1,ints f)],[],16⟩
 obtain ⟨hn0,hn1,hal,hav⟩:=hn
 simp only at hn0 hn1 hal hav
 refine rx (s:=?s1) [1,2] [] [16] rfl ?o1 ?q1
 case o1=>simp; rfl
 refine zab ⟨112,[(1,ints f),(2,.pv (nC ⟨N,A⟩)),(5,.rs 48 0 N)],[(48,some ⟨1,zag (List.replicate N 0),0⟩)],56⟩ rfl ?_ ?_
 ·simp
  refine ⟨by omega,by omega,?_⟩
  exact LeH [(48,48)] []
 refine zab ⟨112,[(1,ints f),(2,.pv (nC ⟨N,A⟩)),(5,.rs 48 0 N),(6,.rs 80 0 N)],[(48,some ⟨1,zag (List.replicate N 0),0⟩),(80,some ⟨1,zhM (List.replicate N false),0⟩)],88⟩ rfl ?_ ?_
 ·simp
  refine ⟨by omega,?_⟩
  exact LeH [(48,48),(72,80)] []
 have hmf:=zm8 (N:=N) (by omega)
 refine zab ⟨112,[(1,ints f),(2,.pv (nC ⟨N,A⟩)),(5,.rs 48 0 N),(6,.rs 80 0 N)],[(48,some ⟨1,zag (List.replicate N 0),0⟩),(80,some ⟨1,zhM (zbL N [0]),0⟩)],112⟩ rfl ?_ ?_
 ·have h0 : 0 < N:=by omega
  simp [h0,zaE]
  exact Le.go [(48,48),(80,80)] [] rfl rfl (by simp) (by simp [← hmf])
 refine zab ⟨112,[(1,ints f),(2,.pv (nC ⟨N,A⟩)),(5,.rs 48 0 N),(6,.rs 80 0 N),(7,.rs 120 0 1)],[(48,some ⟨1,zag (List.replicate N 0),0⟩),(80,some ⟨1,zhM (zbL N [0]),0⟩),(120,some ⟨1,zag [0],0⟩)],136⟩ rfl ?_ ?_
 ·simp
  exact LeH [(48,48),(80,80),(112,120)] []
 refine zaa ?_
 refine zaf ?_
 refine zap (ι:=BSt × Nat) (fun s=>⟨112,[(1,ints f),(2,.pv (nC ⟨N,A⟩)),(5,.rs 48 0 N),(6,.rs 80 0 N),(7,.rs 120 s.1.off s.1.q)],[(48,some ⟨1,zag s.1.b,0⟩),(80,some ⟨1,zhM (zbL N s.1.D),0⟩),(120,some ⟨1,zag s.1.Z,0⟩)],136⟩)
  (fun s=>BInv N A f s.1 s.2 ∧ zeI A f s.1.D s.2) (fun s=>N - s.2) (⟨[0],List.replicate N 0,[0],0,1⟩,0)
  ⟨⟨Bfs.start (by omega),rfl,rfl,rfl⟩,fun s _ h=>by simp at h⟩ (LeH [(48,48),(80,80),(120,120)] []) ?_
 rintro ⟨s,m⟩ ⟨hb,hcl⟩
 simp only at hb hcl
 have hfew:=hb.bfs.few
 have hbd:=hb.d
 have hbz:=hb.z
 refine zaa ?_
 refine rk (s:=?s6) [1,2,5,6,7,22] [48,80,120] rfl ?o6 ?q6
 case o6=>simp; rfl
 refine zac _ rfl (fun h7=>?_) fun h7=>?_
 ·simp at h7
  obtain ⟨hmD,hk⟩:=hb.head h7
  have hoff : s.off < s.Z.length:=by omega
  obtain ⟨k,hkd⟩ : ∃ k,k = s.D[m]:=⟨_,rfl⟩
  rw [← hkd] at hk
  have hkD : k ∈ s.D:=hkd ▸ List.getElem_mem hmD
  refine zad ?_
  refine zaf ?_
  refine rk (s:=?s8) [1,2,5,6,7,8] [48,80,120] rfl ?o8 ?q8
  case o8=>simp [hk,h7]; rfl
  refine zab ⟨112,[(1,ints f),(2,.pv (nC ⟨N,A⟩)),(5,.rs 48 0 N),(6,.rs 80 0 N),(7,.rs 120 (s.off + 1) (s.q - 1)),(8,.I k)],[(48,some ⟨1,zag s.b,0⟩),(80,some ⟨1,zhM (zbL N s.D),0⟩),(120,some ⟨1,zag s.Z,0⟩)],300⟩ rfl ?_ ?_
  ·simp
   refine ztz 1 (i:=120) rfl rfl h7 ?_
   simp
   exact LeH [(48,48),(80,80),(120,120)] []
  have hpop:=hb.pop h7
  refine rk (s:=?s10) [1,2,5,6,7,8,9] [48,80,120] rfl ?o10 ?q10
  case o10=>simp; rfl
  refine zaf ?_
  refine zap (ι:=BSt × Nat) (fun s=>⟨112,[(1,ints f),(2,.pv (nC ⟨N,A⟩)),(5,.rs 48 0 N),(6,.rs 80 0 N),(7,.rs 120 s.1.off s.1.q),(8,.I k),(9,.I s.2)],[(48,some ⟨1,zag s.1.b,0⟩),(80,some ⟨1,zhM (zbL N s.1.D),0⟩),(120,some ⟨1,zag s.1.Z,0⟩)],400⟩)
   (fun t=>BInv N A f t.1 (m + 1) ∧ t.2 ≤ A.length ∧ zeT A f t.1.D k t.2 ∧ ∃ l,t.1.D = s.D ++ l) (fun t=>A.length - t.2) ({ s with off:=s.off + 1,q:=s.q - 1 },0)
   ⟨hpop,Nat.zero_le _,fun s h=>by omega,[],by simp⟩ (LeH [(48,48),(80,80),(120,120)] []) ?_
  rintro ⟨t,i⟩ ⟨ht,hi,htc,l,htl⟩
  simp only at ht hi htc htl
  refine zaa ?_
  refine rk (s:=?s11) [1,2,5,6,7,8,9,32] [48,80,120] rfl ?o11 ?q11
  case o11=>simp; rfl
  refine zac _ rfl (fun h12=>?_) fun h12=>?_
  ·simp at h12
   have hif : i < f.length:=by omega
   have hw : IntKind.i64.wrap ((i : Int) + 1) = (i : Int) + 1:=w64 (by omega) (by omega)
   have hw2 : IntKind.i64.wrap (-((i : Int) + 1)) = -((i : Int) + 1):=w64 (by omega) (by omega)
   obtain ⟨e,he⟩ : ∃ e,e = A[i]:=⟨_,rfl⟩
   obtain ⟨v,hv⟩ : ∃ v,v = f[i]:=⟨_,rfl⟩
   have hfwd:=fun (D b : List Int)=>zs0 (k:=k) (D:=D) (b:=b) h12 hif
   have hbwd:=fun (D b : List Int)=>zsV (k:=k) (D:=D) (b:=b) h12 hif
   rw [← he,← hv] at hfwd hbwd
   have heo:=hav _ (List.getElem_mem h12)
   rw [← he] at heo
   obtain ⟨e1,e2,e3,e4,_⟩:=heo
   have hg1 : A[i]? = some e:=by rw [List.getElem?_eq_getElem h12,he]
   have hg2 : f[i]? = some v:=by rw [List.getElem?_eq_getElem hif,hv]
   have hkt : k ∈ t.D:=by rw [htl]; exact List.mem_append_left _ hkD
   refine zad ?_
   refine zaI (ι:=BSt) (fun u=>⟨112,[(1,ints f),(2,.pv (nC ⟨N,A⟩)),(5,.rs 48 0 N),(6,.rs 80 0 N),(7,.rs 120 u.off u.q),(8,.I k),(9,.I i)],[(48,some ⟨1,zag u.b,0⟩),(80,some ⟨1,zhM (zbL N u.D),0⟩),(120,some ⟨1,zag u.Z,0⟩)],2000⟩)
    (fun u=>BInv N A f u (m + 1) ∧ zeT A f u.D k (i + 1) ∧ ∃ l,u.D = t.D ++ l) ?_ fun u hu=>?_
   ·refine zaf ?_
    refine zab ⟨112,[(1,ints f),(2,.pv (nC ⟨N,A⟩)),(5,.rs 48 0 N),(6,.rs 80 0 N),(7,.rs 120 t.off t.q),(8,.I k),(9,.I i),(10,.pv (eC e))],[(48,some ⟨1,zag t.b,0⟩),(80,some ⟨1,zhM (zbL N t.D),0⟩),(120,some ⟨1,zag t.Z,0⟩)],600⟩ rfl ?_ ?_
    ·simp [h12,← he]
     exact LeH [(48,48),(80,80),(120,120)] [480]
    refine zaI (ι:=BSt) (fun u=>⟨112,[(1,ints f),(2,.pv (nC ⟨N,A⟩)),(5,.rs 48 0 N),(6,.rs 80 0 N),(7,.rs 120 u.off u.q),(8,.I k),(9,.I i),(10,.pv (eC e))],[(48,some ⟨1,zag u.b,0⟩),(80,some ⟨1,zhM (zbL N u.D),0⟩),(120,some ⟨1,zag u.Z,0⟩)],1000⟩)
     (fun u=>BInv N A f u (m + 1) ∧ (u.D,u.b) = tryS A f k (i,false) (t.D,t.b)) ?_ fun u hu=>?_
    ·have hmk : (zbL N t.D)[e.t.toNat]? = some (decide (e.t ∈ t.D)):=zf8 e3 (by omega)
     have hlt : e.t.toNat < N:=by omega
     have hlt2 : e.t < (N : Int):=by omega
     refine zar ⟨112,[(1,ints f),(2,.pv (nC ⟨N,A⟩)),(5,.rs 48 0 N),(6,.rs 80 0 N),(7,.rs 120 t.off t.q),(8,.I k),(9,.I i),(10,.pv (eC e)),(60,.B (decide (e.f = k ∧ v < e.v ∧ e.t ∉ t.D)))],[(48,some ⟨1,zag t.b,0⟩),(80,some ⟨1,zhM (zbL N t.D),0⟩),(120,some ⟨1,zag t.Z,0⟩)],800⟩ rfl ?_ ?_
     ·by_cases hm : e.t ∈ t.D
      ·rw [decide_eq_true hm] at hmk
       simp
       repeat' first
        | (refine zbU (fun hb=>?_) (fun hb=>?_) <;> (try rw [hb]) <;> (try simp at hb) <;> simp [hb,hmk,hg2,e3,hlt2,hif,← hv])
       all_goals exact ⟨rfl,Le.go [(48,48),(80,80),(120,120)] [] rfl rfl (by simp [hb,hm]) (by simp)⟩
      ·rw [decide_eq_false hm] at hmk
       simp
       repeat' first
        | (refine zbU (fun hb=>?_) (fun hb=>?_) <;> (try rw [hb]) <;> (try simp at hb) <;> simp [hb,hmk,hg2,e3,hlt2,hif,← hv])
       all_goals exact ⟨rfl,Le.go [(48,48),(80,80),(120,120)] [] rfl rfl (by simp [hm]) (by simp)⟩
     refine zac _ rfl (fun h15=>?_) fun h15=>?_
     ·rw [decide_eq_true_eq] at h15
      have hs1:=hfwd t.D t.b
      rw [if_pos h15] at hs1
      have hbk : ∃ y,t.b[e.t.toNat]? = some y:=⟨_,List.getElem?_eq_getElem (by rw [ht.bfs.len]; omega)⟩
      obtain ⟨y,hy⟩:=hbk
      have hbl : e.t.toNat < t.b.length:=by rw [ht.bfs.len]; omega
      have hbt : ∀ g : Int → List AV,List.take t.q (List.drop t.off (List.map g t.Z)) = List.map g (t.Z.drop t.off):=fun g=>by rw [← List.map_drop,List.take_of_length_le (by have:=ht.z; simp; omega)]
      have htz:=ht.z
      have htd:=ht.d
      have hms:=zh1 (D:=t.D) e3 hlt2
      have hbu : Bfs N A f (t.D ++ [e.t]) (t.b.set e.t.toNat ((i : Int) + 1)):=by
       have h3:=zrk (A:=A) (f:=f) (k:=k) (s:=(i,false)) (st:=(t.D,t.b)) ht.bfs hkt h12 (by unfold stT arcD; rw [List.getD_eq_getElem?_getD,hg1]; exact e3) (by unfold stT arcD; rw [List.getD_eq_getElem?_getD,hg1]; exact hlt2)
       rw [hs1] at h3
       exact h3
      have hfw:=hbu.few
      rw [List.length_append,List.length_singleton] at hfw
      refine zar ⟨112,[(1,ints f),(2,.pv (nC ⟨N,A⟩)),(5,.rs 48 0 N),(6,.rs 80 0 N),(7,.rs 120 t.off t.q),(8,.I k),(9,.I i),(10,.pv (eC e))],[(48,some ⟨1,zag (t.b.set e.t.toNat ((i : Int) + 1)),0⟩),(80,some ⟨1,zhM (zbL N (t.D ++ [e.t])),0⟩),(120,some ⟨1,zag t.Z,0⟩)],900⟩ rfl ?_ ?_
      ·simp [hmk,e3,hlt2,hw,hy,zaE]
       exact ⟨rfl,Le.go [(48,48),(80,80),(120,120)] [] rfl rfl (by simp) (by simp [← hms,fcd])⟩
      refine zau rfl ?_
      simp [hbt]
      exact ⟨by omega,by omega,by omega,⟨t.D ++ [e.t],t.b.set e.t.toNat ((i : Int) + 1),t.Z.drop t.off ++ [e.t],0,t.q + 1⟩,⟨ht.more hbu,hs1.symm⟩,LeI [(48,48),(80,80),(932,120)] []⟩
     ·rw [decide_eq_false_iff_not] at h15
      have hs1:=hfwd t.D t.b
      rw [if_neg h15] at hs1
      refine zad ?_
      exact ⟨t,⟨ht,hs1.symm⟩,LeH [(48,48),(80,80),(120,120)] []⟩
    obtain ⟨hu1,hu2⟩:=hu
    have hku : k ∈ u.D:=by
     obtain ⟨l1,e1⟩:=ziZ (A:=A) (f:=f) (k:=k) (s:=(i,false)) (st:=(t.D,t.b))
     rw [← hu2] at e1
     simp only at e1
     rw [e1]
     exact List.mem_append_left _ hkt
    have hul : ∃ l,u.D = t.D ++ l:=by
     obtain ⟨l1,e1⟩:=ziZ (A:=A) (f:=f) (k:=k) (s:=(i,false)) (st:=(t.D,t.b))
     rw [← hu2] at e1
     exact ⟨l1,e1⟩
    have hcl2 : zeT A f (tryS A f k (i,true) (u.D,u.b)).1 k (i + 1):=by
     rw [hu2]
     exact zeT.try2 (st:=(t.D,t.b)) htc
    have hmk : (zbL N u.D)[e.f.toNat]? = some (decide (e.f ∈ u.D)):=zf8 e1 (by omega)
    have hlt : e.f.toNat < N:=by omega
    have hlt2 : e.f < (N : Int):=by omega
    have hub:=hbwd u.D u.b
    refine zab ⟨112,[(1,ints f),(2,.pv (nC ⟨N,A⟩)),(5,.rs 48 0 N),(6,.rs 80 0 N),(7,.rs 120 u.off u.q),(8,.I k),(9,.I i),(10,.pv (eC e)),(94,.B (decide (e.t = k ∧ 0 < v ∧ e.f ∉ u.D)))],[(48,some ⟨1,zag u.b,0⟩),(80,some ⟨1,zhM (zbL N u.D),0⟩),(120,some ⟨1,zag u.Z,0⟩)],1200⟩ rfl ?_ ?_
    ·by_cases hm : e.f ∈ u.D
     ·rw [decide_eq_true hm] at hmk
      simp
      repeat' first
       | (refine zbU (fun hb=>?_) (fun hb=>?_) <;> (try rw [hb]) <;> (try simp at hb) <;> simp [hb,hmk,hg2,e1,hlt2,hif,← hv])
      all_goals exact Le.go [(48,48),(80,80),(120,120)] [] rfl rfl (by simp [hb,hm]) (by simp)
     ·rw [decide_eq_false hm] at hmk
      simp
      repeat' first
       | (refine zbU (fun hb=>?_) (fun hb=>?_) <;> (try rw [hb]) <;> (try simp at hb) <;> simp [hb,hmk,hg2,e1,hlt2,hif,← hv])
      all_goals exact Le.go [(48,48),(80,80),(120,120)] [] rfl rfl (by simp [hm]) (by simp)
    refine zac _ rfl (fun h15=>?_) fun h15=>?_
    ·rw [decide_eq_true_eq] at h15
     rw [if_pos h15] at hub
     obtain ⟨y,hy⟩ : ∃ y,u.b[e.f.toNat]? = some y:=⟨_,List.getElem?_eq_getElem (by rw [hu1.bfs.len]; omega)⟩
     have hbt : ∀ g : Int → List AV,List.take u.q (List.drop u.off (List.map g u.Z)) = List.map g (u.Z.drop u.off):=fun g=>by rw [← List.map_drop,List.take_of_length_le (by have:=hu1.z; simp; omega)]
     have htz:=hu1.z
     have htd:=hu1.d
     have hms:=zh1 (D:=u.D) e1 hlt2
     have hbu : Bfs N A f (u.D ++ [e.f]) (u.b.set e.f.toNat (-((i : Int) + 1))):=by
      have h3:=zrk (A:=A) (f:=f) (k:=k) (s:=(i,true)) (st:=(u.D,u.b)) hu1.bfs hku h12 (by unfold stT arcD; rw [List.getD_eq_getElem?_getD,hg1]; exact e1) (by unfold stT arcD; rw [List.getD_eq_getElem?_getD,hg1]; exact hlt2)
      rw [hub] at h3
      exact h3
     have hfw:=hbu.few
     rw [List.length_append,List.length_singleton] at hfw
     refine zar ⟨112,[(1,ints f),(2,.pv (nC ⟨N,A⟩)),(5,.rs 48 0 N),(6,.rs 80 0 N),(7,.rs 120 u.off u.q),(8,.I k),(9,.I i),(10,.pv (eC e))],[(48,some ⟨1,zag (u.b.set e.f.toNat (-((i : Int) + 1))),0⟩),(80,some ⟨1,zhM (zbL N (u.D ++ [e.f])),0⟩),(120,some ⟨1,zag u.Z,0⟩)],1400⟩ rfl ?_ ?_
     ·simp [hmk,e1,hlt2,hw,hw2,hy,zaE]
      exact ⟨rfl,Le.go [(48,48),(80,80),(120,120)] [] rfl rfl (by simp) (by simp [← hms,fcd])⟩
     refine zau rfl ?_
     simp [hbt]
     rw [hub] at hcl2
     refine ⟨by omega,by omega,by omega,⟨u.D ++ [e.f],u.b.set e.f.toNat (-((i : Int) + 1)),u.Z.drop u.off ++ [e.f],0,u.q + 1⟩,⟨hu1.more hbu,hcl2,?_⟩,LeI [(48,48),(80,80),(1432,120)] []⟩
     obtain ⟨l1,e1⟩:=hul
     exact ⟨l1 ++ [e.f],by simp only [e1,List.append_assoc]⟩
    ·rw [decide_eq_false_iff_not] at h15
     rw [if_neg h15] at hub
     rw [hub] at hcl2
     refine zad ?_
     exact ⟨u,⟨hu1,hcl2,hul⟩,LeH [(48,48),(80,80),(120,120)] []⟩
   obtain ⟨hu1,hu2,l2,hu3⟩:=hu
   refine zae (s:=?s30) rfl ?o30 ?q30
   case o30=>simp; rfl
   exact ⟨(u,i + 1),⟨hu1,h12,hu2,l ++ l2,by rw [hu3,htl,List.append_assoc]⟩,Nat.sub_lt_sub_left h12 (Nat.lt_succ_self i),Le.go [(48,48),(80,80),(120,120)] [] rfl rfl (by simp [hw]) (by simp)⟩
  simp at h12
  obtain rfl : i = A.length:=by omega
  refine zan ?_
  refine hit ?_
  rw [hkd] at htc
  refine ⟨(t,m + 1),⟨ht,zeI.next hmD hcl htc htl⟩,?_,LeH [(48,48),(80,80),(120,120)] []⟩
  simp only
  omega
 simp at h7
 have hmD : m = s.D.length:=by omega
 refine zan ?_
 refine hit ?_
 refine rk (s:=?s23) [4] [48] rfl ?o23 ?q23
 case o23=>simp; rfl
 refine zah ?_
 exact zhI.mk (.inr rfl) (s.D,s.b) ⟨hb.bfs,by rw [hmD] at hcl; exact hcl.all⟩ (zam.out [48] [] rfl (by simp) (by simp) (by simp) (by simp [fcd]))
theorem zmZ {α : Type} {l : List α} (h : l.Nodup) : l.reverse.Nodup:=List.pairwise_reverse.2 (h.imp fun hne e=>hne e.symm)
theorem zt3 {v : Int} (hv : v ≠ 0) : encS (decS v) = v:=by
 unfold decS encS
 by_cases h : 0 < v
 ·rw [if_pos h]; simp; omega
 ·rw [if_neg h]; simp; omega
def endW (A : List Ed) (u : Int) (l : List Stp) : Nat → Int
 | 0=>u
 | j + 1=>stT A (l.getD j (0,false))
theorem znf {A : List Ed} {u : Int} {s : Stp} {l : List Stp} (j : Nat) : endW A u (s :: l) (j + 1) = endW A (stT A s) l j:=by
 cases j <;> rfl
theorem zts {A : List Ed} : ∀ {l : List Stp} {u w : Int},WayS A u l w → ∀ j (hj : j < l.length),stF A l[j] = endW A u l j
 | s :: l,u,w,h,0,_=>h.2.1
 | s :: l,u,w,h,j + 1,hj=>by
   rw [znf]
   exact zts h.2.2 j (by simpa using hj)
theorem zoN {A : List Ed} : ∀ {l : List Stp} {u w : Int},WayS A u l w → endW A u l l.length = w
 | [],u,w,h=>h
 | s :: l,u,w,h=>by
   rw [List.length_cons,znf]
   exact zoN h.2.2
variable {N : Nat} {A : List Ed} {f D b : List Int}
structure zk2 (N : Nat) (A : List Ed) (f b : List Int) (l : List Stp) : Prop where
 way : WayS A 0 l 1
 nodup : (l.map (·.1)).Nodup
 at_ : ∀ j (h : j < l.length),l[j].1 < A.length ∧ 0 < zbc A f l[j] ∧ stT A l[j] ≠ 0 ∧ 0 ≤ stT A l[j] ∧ stT A l[j] < N ∧ b.getD (stT A l[j]).toNat 0 = encS l[j]
theorem Bfs.chain (h : Bfs N A f D b) (h1 : (1 : Int) ∈ D) : ∃ l,zk2 N A f b l:=by
 obtain ⟨j,hj,hx⟩:=List.mem_iff_getElem.1 h1
 obtain ⟨l,l1,l2,l3⟩:=h.tree.way j j hj (Nat.le_refl _)
 rw [hx] at l1
 refine ⟨l,l1,l2,fun i hi=>?_⟩
 obtain ⟨q1,q2,q3,q4,_,q5⟩:=l3 _ (List.getElem_mem hi)
 have hm:=List.mem_of_mem_take q5
 have hr:=h.rng _ hm
 have hne:=h.inn _ hm q4
 refine ⟨q1,q2,q4,hr.1,hr.2,?_⟩
 rw [← zt3 hne,q3]
theorem zk2.from_ {l : List Stp} (h : zk2 N A f b l) (j : Nat) (hj : j < l.length) : stF A l[j] = endW A 0 l j:=zts h.way j hj
def zdD (v : Int) (f : List Int) (l : List Stp) (j : Nat) : List Int:=zgS v f (l.drop j).reverse
theorem zmV (v : Int) (f : List Int) (l : List Stp) : zdD v f l l.length = f:=by simp [zdD,zgS]
theorem zne (v : Int) (f : List Int) (l : List Stp) (j : Nat) : (zdD v f l j).length = f.length:=zf0
theorem zlr {v : Int} {f : List Int} {l : List Stp} (j : Nat) (hj : j < l.length) : zdD v f l j = zgT v (zdD v f l (j + 1)) l[j]:=by
 unfold zdD zgS
 rw [List.drop_eq_getElem_cons hj,List.reverse_cons,List.foldl_append]
 rfl
theorem znx {v : Int} {l : List Stp} (hn : (l.map (·.1)).Nodup) (hr : ∀ s ∈ l,s.1 < f.length) (j : Nat) (hj : j < l.length) : (zdD v f l (j + 1)).getD l[j].1 0 = f.getD l[j].1 0:=by
 refine (zfI (δ:=v) (f:=f) (i:=l[j].1) (l:=(l.drop (j + 1)).reverse) ?_ ?_).1 ?_
 ·rw [List.map_reverse]
  refine zmZ ?_
  exact hn.sublist ((List.drop_sublist _ _).map _)
 ·intro s hs
  exact hr s (List.mem_of_mem_drop (List.mem_reverse.1 hs))
 ·rw [List.map_reverse,List.mem_reverse]
  intro hm
  obtain ⟨s,hs,he⟩:=List.mem_map.1 hm
  obtain ⟨i,hi,rfl⟩:=List.mem_iff_getElem.1 hs
  rw [List.length_drop] at hi
  rw [List.getElem_drop] at he
  have h1:=(List.pairwise_iff_getElem.1 hn) j (j + 1 + i) (by rw [List.length_map]; exact hj) (by rw [List.length_map]; omega) (by omega)
  rw [List.getElem_map,List.getElem_map] at h1
  exact h1 he.symm
theorem zrl {v : Int} {l : List Stp} (hn : (l.map (·.1)).Nodup) (hr : ∀ s ∈ l,s.1 < f.length) : zdD v f l 0 = zgS v f l:=by
 unfold zdD
 rw [List.drop_zero]
 have hn' : (l.reverse.map (·.1)).Nodup:=by rw [List.map_reverse]; exact zmZ hn
 have hr' : ∀ s ∈ l.reverse,s.1 < f.length:=fun s hs=>hr s (List.mem_reverse.1 hs)
 apply List.ext_getElem (by rw [zf0,zf0])
 intro i h1 h2
 have e : ∀ (L : List Int) (h : i < L.length),L[i] = L.getD i 0:=fun L h=>by rw [List.getD_eq_getElem?_getD,List.getElem?_eq_getElem h,Option.getD_some]
 rw [e _ h1,e _ h2]
 have g1:=zfI (δ:=v) (f:=f) (i:=i) hn' hr'
 have g2:=zfI (δ:=v) (f:=f) (i:=i) hn hr
 by_cases hm : i ∈ l.map (·.1)
 ·obtain ⟨s,hs,rfl⟩:=List.mem_map.1 hm
  rw [g1.2 s.2 (List.mem_reverse.2 hs),g2.2 s.2 hs]
 ·rw [g1.1 (by rw [List.map_reverse,List.mem_reverse]; exact hm),g2.1 hm]
theorem zk2.push {l : List Stp} (hn : zdW N A) (hf : zay N A f) (h : zk2 N A f b l) {v : Int} (h0 : 0 ≤ v) (hv : ∀ s ∈ l,v ≤ zbc A f s) : zay N A (zdD v f l 0) ∧ valF A (zdD v f l 0) = valF A f + v:=by
 have hr : ∀ s ∈ l,s.1 < A.length:=fun s hs=>by
  obtain ⟨i,hi,rfl⟩:=List.mem_iff_getElem.1 hs
  exact (h.at_ i hi).1
 rw [zrl h.nodup fun s hs=>by rw [hf.fit.len]; exact hr s hs]
 exact ztB hn hf h0 h.way h.nodup fun s hs=>⟨hr s hs,hv s hs⟩
theorem zd9 {A : List Ed} {N : Nat} (h : zaX ⟨N,A⟩) : zdW N A:=by
 obtain ⟨h1,_,_,h4⟩:=h
 simp only at h1 h4
 refine ⟨by omega,fun e he=>?_⟩
 obtain ⟨q1,q2,q3,q4,q5,q6,q7,q8,_⟩:=h4 e he
 exact ⟨q1,by omega,q3,by omega,q5,q6,q7,q8⟩
theorem zrF {P Q : List (List Int)} (h : P.Perm Q) (k : Int) : begC P k = begC Q k:=h.countP_eq _
theorem zrP {P Q : List (List Int)} (h : P.Perm Q) (k : Int) : useC P k = useC Q k:=(h.flatMap_right _).count_eq k
theorem zsZ {P Q : List (List Int)} (h : P.Sublist Q) (k : Int) : begC P k ≤ begC Q k:=h.countP_le
theorem zta {P Q : List (List Int)} (h : P.Sublist Q) (k : Int) : useC P k ≤ useC Q k:=by
 unfold useC
 induction h with
 | slnil=>exact Nat.le_refl _
 | cons a _ ih=>rw [List.flatMap_cons,List.count_append]; omega
 | cons_cons a _ ih=>rw [List.flatMap_cons,List.flatMap_cons,List.count_append,List.count_append]; omega
theorem zlz.perm {c : List Int} {P Q : List (List Int)} (h : zlz c P) (hp : P.Perm Q) : zlz c Q:=fun k hk=>by
 rw [← zrF hp,← zrP hp]
 exact h k hk
theorem zlz.sub {c : List Int} {P Q : List (List Int)} (h : zlz c Q) (hs : P.Sublist Q) : zlz c P:=fun k hk=>by
 have h1:=h k hk
 have h2:=zsZ hs k
 have h3:=zta hs k
 omega
theorem zqQ {P Q : List (List Int)} (h : P.Perm Q) : (zh4 P).Perm (zh4 Q):=h.filterMap _
theorem zhT.perm {g : Gr} {lv : Int} {seeds order c : List Int} {P Q : List (List Int)} {ends ends' : List Int} (h : zhT g lv seeds order c P ends) (hp : P.Perm Q) (he : ends.Perm ends') : zhT g lv seeds order c Q ends' :=
 ⟨fun w hw=>h.1 w (hp.mem_iff.2 hw),h.2.1.perm hp,zgd.2 (((zqQ hp).symm.trans (zgd.1 h.2.2)).trans he)⟩
theorem zhn {N : Nat} {A : List Ed} (hn : zdW N A) : zay N A (A.map fun _=>0):=by
 have hs : ∀ (φ : Ed → Int → Int),(∀ e,φ e 0 = 0) → ∀ A : List Ed,sumF φ A (A.map fun _=>0) = 0:=by
  intro φ hφ A
  induction A with
  | nil=>simp [sumF]
  | cons e A ih=>simp only [List.map_cons,sumF]; rw [hφ,ih]; omega
 refine ⟨?_,fun x _ _=>?_⟩
 ·have h0 : ∀ B : List Ed,(∀ e ∈ B,0 ≤ e.v) → Fit2 B (B.map fun _=>0):=by
   intro B
   induction B with
   | nil=>intro _; exact True.intro
   | cons e B ih=>intro h; exact ⟨⟨Int.le_refl _,h e (List.mem_cons_self ..)⟩,ih fun x hx=>h x (List.mem_cons_of_mem _ hx)⟩
  exact h0 A fun e he=>(hn.arc e he).2.2.2.2.2.2.2
 ·unfold outF inF
  rw [hs _ fun e=>by split <;> rfl,hs _ fun e=>by split <;> rfl]
theorem ze3 {N : Nat} {A : List Ed} (hn : zdW N A) : ∃ f,zay N A f ∧ ∀ f',zay N A f' → valF A f' ≤ valF A f:=by
 have hb : ∀ f,zay N A f → valF A f ≤ capS (fun x=>decide (x = 0)) A:=fun f hf=>zdM hn hf (by simp) (by simp)
 have key : ∀ (n : Nat) (f : List Int),zay N A f → capS (fun x=>decide (x = 0)) A - valF A f ≤ n → ∃ f,zay N A f ∧ ∀ f',zay N A f' → valF A f' ≤ valF A f:=by
  intro n
  induction n with
  | zero =>
    intro f hf h
    exact ⟨f,hf,fun f' hf'=>by have:=hb f' hf'; omega⟩
  | succ n ih =>
    intro f hf h
    by_cases hm : ∀ f',zay N A f' → valF A f' ≤ valF A f
    ·exact ⟨f,hf,hm⟩
    ·obtain ⟨f',hf'⟩:=Classical.not_forall.1 hm
     obtain ⟨h1,h2⟩:=Classical.not_imp.1 hf'
     exact ih f' h1 (by omega)
 exact key _ _ (zhn hn) (Int.self_le_toNat _)
noncomputable def maxF (N : Nat) (A : List Ed) : Int:=open Classical in if h : ∃ f,zay N A f ∧ ∀ f',zay N A f' → valF A f' ≤ valF A f then valF A h.choose else 0
theorem zeK {N : Nat} {A : List Ed} {f : List Int} (hf : zay N A f) (hm : ∀ f',zay N A f' → valF A f' ≤ valF A f) : maxF N A = valF A f:=by
 have h : ∃ f,zay N A f ∧ ∀ f',zay N A f' → valF A f' ≤ valF A f:=⟨f,hf,hm⟩
 unfold maxF
 rw [dif_pos h]
 have h1:=h.choose_spec
 have h2:=hm _ h1.1
 have h3:=h1.2 _ hf
 omega
theorem zss {N : Nat} {A : List Ed} (hn : zdW N A) {f : List Int} (hf : zay N A f) : valF A f ≤ maxF N A:=by
 obtain ⟨m,h1,h2⟩:=ze3 hn
 rw [zeK h1 h2]
 exact h2 f hf
theorem zpk {N : Nat} {A : List Ed} (hn : zdW N A) : ∃ f,zay N A f ∧ valF A f = maxF N A:=by
 obtain ⟨m,h1,h2⟩:=ze3 hn
 exact ⟨m,h1,(zeK h1 h2).symm⟩
structure MSt where
 j : Nat
 v : Int
def zmr (A : List Ed) (f : List Int) (l : List Stp) (j : Nat) (v : Int) : Prop:=∀ t ∈ l.drop j,v ≤ zbc A f t
set_option maxRecDepth 100000 in
set_option maxHeartbeats 4000000 in
theorem zuI (N : Nat) (A : List Ed) (hn : zaX ⟨N,A⟩) :
  ∃ f : List Int,(zay N A f ∧ ∀ f',zay N A f' → valF A f' ≤ valF A f) ∧ zai Tryz.prog zgb [eN ⟨N,A⟩] [] (.tup [.rs 0 0 A.length,.I 0]) [some ⟨1,zag f,0⟩]:=by
 refine zqB.acallsX (args:=[eN ⟨N,A⟩]) (hs:=[]) (fun f=>.tup [.rs 0 0 A.length,.I 0]) (fun f=>[some ⟨1,zag f,0⟩]) (fun f : List Int=>zay N A f ∧ ∀ f',zay N A f' → valF A f' ≤ valF A f) (nbz rfl) (nbz rfl) (fun _=>by simp) ?_
 show awp _ 0 _ _ ⟨112,[(0,eN ⟨N,A⟩)],[],16⟩
 have hno:=zd9 hn
 have hchk:=zc9 ⟨N,A⟩ (by have:=hn.2.2.1; simp only at this ⊢; omega)
 rw [if_pos hn] at hchk
 have hres:=fun f hf=>zk8 N A f hn hf
 obtain ⟨hn0,hn1,hal,hav⟩:=hn
 simp only at hn0 hn1 hal hav
 refine rx (s:=?s1) [1] [] [16] rfl ?o1 ?q1
 case o1=>simp; rfl
 refine zaa ?_
 refine rx (s:=?s2) [1,13] [] [] rfl ?o2 ?q2
 case o2=>simp; refine zak hchk (by simp) ?_; simp; rfl
 refine zac _ rfl (fun h3=>by cases h3) fun h3=>?_
 refine zad ?_
 refine zab ⟨112,[(1,.pv (nC ⟨N,A⟩)),(4,.rs 88 0 A.length)],[(88,some ⟨1,zag (A.map fun _=>0),0⟩)],104⟩ rfl ?_ ?_
 ·simp
  refine ⟨by omega,by omega,?_⟩
  exact Le.go [(88,88)] [] rfl rfl (by simp) (by simp [List.map_const',fcd])
 refine zaf ?_
 refine zap (ι:=List Int) (fun f=>⟨112,[(1,.pv (nC ⟨N,A⟩)),(4,.rs 88 0 A.length)],[(88,some ⟨1,zag f,0⟩)],104⟩) (fun f=>zay N A f) (fun f=>(capS (fun x=>decide (x = 0)) A - valF A f).toNat) (A.map fun _=>0) (zhn hno) (LeI [(88,88)] []) ?_
 intro f hf
 have hfl:=hf.fit.len
 obtain ⟨⟨D,b⟩,⟨hb,hcl⟩,hcall⟩:=hres f hfl
 simp only at hb hcl hcall
 have hblen:=hb.len
 have htake : ∀ g : Int → List AV,List.take A.length (List.map g f) = List.map g f:=fun g=>List.take_of_length_le (by simp; omega)
 refine zaf ?_
 refine zab ⟨112,[(1,.pv (nC ⟨N,A⟩)),(4,.rs 88 0 A.length),(5,.rs 90 0 N)],[(88,some ⟨1,zag f,0⟩),(90,some ⟨1,zag b,0⟩)],200⟩ rfl ?_ ?_
 ·simp
  refine zjd [88] hcall (by simp [fcd,htake,hfl]) (.rs _ _ _) zrO ?_
  simp
  exact LeI [(88,88),(120,90)] []
 obtain ⟨y1,hy1⟩ : ∃ y,y = b.getD 1 0:=⟨_,rfl⟩
 have hb1 : b[1]? = some y1:=by rw [hy1,List.getD_eq_getElem?_getD,List.getElem?_eq_getElem (by omega),Option.getD_some]
 refine zaa ?_
 refine zab ⟨112,[(1,.pv (nC ⟨N,A⟩)),(4,.rs 88 0 A.length),(5,.rs 90 0 N),(24,.B (y1 == 0))],[(88,some ⟨1,zag f,0⟩),(90,some ⟨1,zag b,0⟩)],300⟩ rfl ?_ ?_
 ·have h1N : (1 : Int) < N:=by omega
  simp [hb1,h1N]
  exact LeI [(88,88),(90,90)] []
 have hcode : ∀ k : Nat,k < N → b[k]? = some (b.getD k 0):=fun k hk=>by rw [List.getD_eq_getElem?_getD,List.getElem?_eq_getElem (by omega),Option.getD_some]
 refine zac _ rfl (fun h8=>?_) fun h8=>?_
 ·simp at h8
  refine zab ⟨112,[(2,.rs 88 0 A.length),(3,.I 0)],[(88,some ⟨1,zag f,0⟩)],400⟩ rfl ?_ ?_
  ·simp
   exact LeI [(88,88)] []
  have h1D : (1 : Int) ∉ D:=fun hm=>by
   have h2:=hb.inn 1 hm (by decide)
   exact h2 (by rw [show b.getD (Int.toNat 1) 0 = y1 from hy1.symm,h8])
  refine zah ?_
  exact zhI.mk (.inr rfl) f ⟨hf,(zge hno hf hb.mem0 h1D hcl).2⟩ (zam.out [88] [] rfl (by simp) (by simp) (by simp) (by simp [fcd]))
 simp at h8
 have h1D : (1 : Int) ∈ D:=Decidable.byContradiction fun hm=>h8 (by rw [hy1]; exact hb.out 1 (by decide) hm)
 obtain ⟨l,hl⟩:=hb.chain h1D
 have hle:=zoN hl.way
 have hfit:=zcP.1 hf.fit
 have hlr : ∀ s ∈ l,s.1 < f.length:=fun s hs=>by
  obtain ⟨i,hi,rfl⟩:=List.mem_iff_getElem.1 hs
  have:=(hl.at_ i hi).1
  omega
 have hl0 : 0 < l.length:=by
  cases hll : l with
  | nil=>rw [hll] at hle; cases hle
  | cons=>simp
 refine zad ?_
 refine zab ⟨112,[(1,.pv (nC ⟨N,A⟩)),(4,.rs 88 0 A.length),(5,.rs 90 0 N),(6,.I 1048576)],[(88,some ⟨1,zag f,0⟩),(90,some ⟨1,zag b,0⟩)],400⟩ rfl ?_ ?_
 ·simp
  exact LeI [(88,88),(90,90)] []
 refine zaI (ι:=Int) (fun v=>⟨112,[(1,.pv (nC ⟨N,A⟩)),(4,.rs 88 0 A.length),(5,.rs 90 0 N),(6,.I v)],[(88,some ⟨1,zag f,0⟩),(90,some ⟨1,zag b,0⟩)],600⟩) (fun v=>1 ≤ v ∧ v ≤ 1048576 ∧ zmr A f l 0 v) ?_ fun v hv=>?_
 ·refine zab ⟨112,[(1,.pv (nC ⟨N,A⟩)),(4,.rs 88 0 A.length),(5,.rs 90 0 N),(6,.I 1048576),(7,.I 1)],[(88,some ⟨1,zag f,0⟩),(90,some ⟨1,zag b,0⟩)],500⟩ rfl ?_ ?_
  ·simp
   exact LeI [(88,88),(90,90)] []
  refine zaf ?_
  refine zap (ι:=MSt) (fun s=>⟨112,[(1,.pv (nC ⟨N,A⟩)),(4,.rs 88 0 A.length),(5,.rs 90 0 N),(6,.I s.v),(7,.I (endW A 0 l s.j))],[(88,some ⟨1,zag f,0⟩),(90,some ⟨1,zag b,0⟩)],600⟩)
   (fun s=>s.j ≤ l.length ∧ 1 ≤ s.v ∧ s.v ≤ 1048576 ∧ zmr A f l s.j s.v) (fun s=>s.j) ⟨l.length,1048576⟩ ⟨Nat.le_refl _,by simp,by simp,by simp [zmr]⟩ (Le.go [(88,88),(90,90)] [] rfl rfl (by simp [hle]) (by simp [fcd])) ?_
  rintro ⟨j,v⟩ ⟨hj,hv1,hv2,hv3⟩
  simp only at hj hv1 hv2 hv3
  refine zaa ?_
  refine rk (s:=?s12) [1,4,5,6,7,27] [88,90] rfl ?o12 ?q12
  case o12=>simp; rfl
  refine zac _ rfl (fun h13=>?_) fun h13=>?_
  ·simp at h13
   obtain ⟨i,rfl⟩ : ∃ i,j = i + 1:=by
    cases j with
    | zero=>exact absurd rfl h13
    | succ i=>exact ⟨i,rfl⟩
   have hi : i < l.length:=by omega
   obtain ⟨q1,q2,q3,q4,q5,q6⟩:=hl.at_ i hi
   have hfr:=hl.from_ i hi
   obtain ⟨s,hs⟩ : ∃ s,s = l[i]:=⟨_,rfl⟩
   have hk : endW A 0 l (i + 1) = stT A s:=by
    show stT A (l.getD i (0,false)) = _
    rw [List.getD_eq_getElem?_getD,List.getElem?_eq_getElem hi,hs]
    rfl
   have hvn : ∀ v' : Int,v' ≤ v → v' ≤ zbc A f s → zmr A f l i v':=fun v' h1 h2 t ht=>by
    rw [List.drop_eq_getElem_cons hi,← hs] at ht
    rcases List.mem_cons.1 ht with rfl | ht
    ·exact h2
    ·exact Int.le_trans h1 (hv3 t ht)
   rw [← hs] at q1 q2 q3 q4 q5 q6 hfr
   rw [hk]
   obtain ⟨k,hkd⟩ : ∃ k,k = stT A s:=⟨_,rfl⟩
   rw [← hkd] at q4 q5 q6 ⊢
   have hbk:=hcode k.toNat (by omega)
   obtain ⟨x,hx⟩ : ∃ x,x = encS s:=⟨_,rfl⟩
   rw [q6,← hx] at hbk
   refine zad ?_
   refine zaf ?_
   refine rk (s:=?s14) [1,4,5,6,8] [88,90] rfl ?o14 ?q14
   case o14=>simp [hbk,q4,q5]; rfl
   have hfa:=hfit.2 s.1 q1
   have heo:=hav _ (zdJ q1)
   obtain ⟨e,he⟩ : ∃ e,e = arcD A s.1:=⟨_,rfl⟩
   obtain ⟨w,hw⟩ : ∃ w,w = f.getD s.1 0:=⟨_,rfl⟩
   have hg1 : A[s.1]? = some e:=by rw [he]; unfold arcD; rw [List.getD_eq_getElem?_getD,List.getElem?_eq_getElem q1,Option.getD_some]
   have hg2 : f[s.1]? = some w:=by rw [hw,List.getD_eq_getElem?_getD,List.getElem?_eq_getElem (by omega),Option.getD_some]
   rw [← he,← hw] at hfa
   rw [← he] at heo
   obtain ⟨e1,e2,e3,e4,e5,e6,e7,e8,e9⟩:=heo
   obtain ⟨a,c⟩:=s
   simp only at q1 hg1 hg2 he hw
   have hal' : a < A.length:=q1
   have ha0 : (0 : Int) ≤ a ∧ (a : Int) < A.length:=by omega
   have hafl : a < f.length:=by omega
   have hAe : A[a] = e:=by rw [List.getElem?_eq_getElem hal'] at hg1; exact Option.some.inj hg1
   have hfw : f[a] = w:=by rw [List.getElem?_eq_getElem hafl] at hg2; exact Option.some.inj hg2
   cases c with
   | false =>
     have hen : encS (a,false) = (a : Int) + 1:=rfl
     have hro : zbc A f (a,false) = e.v - w:=by unfold zbc; simp [he,hw]
     have hst : stF A (a,false) = e.f:=by unfold stF; simp [he]
     rw [hen] at hx
     rw [hst] at hfr
     rw [hro] at q2 hvn
     have hw1 : IntKind.i64.wrap (x - 1) = (a : Int):=by rw [w64 (by omega) (by omega)]; omega
     have hw2 : IntKind.i64.wrap (e.v - w) = e.v - w:=w64 (by omega) (by omega)
     refine rk (s:=?s15) [1,4,5,6,8,33] [88,90] rfl ?o15 ?q15
     case o15=>simp; rfl
     refine zac _ rfl (fun h16=>?_) fun h16=>?_
     ·refine za4 rfl ?_
      simp [hw1,hw2,ha0,hal',hafl,hAe,hfw]
      refine ⟨rfl,⟨i,if e.v - w < v then e.v - w else v⟩,⟨by simp only; omega,by simp only; split <;> omega,by simp only; split <;> omega,hvn (if e.v - w < v then e.v - w else v) (by split <;> omega) (by split <;> omega)⟩,Nat.lt_succ_self i,Le.go [(88,88),(90,90)] [] rfl rfl (by simp [hfr]) (by simp [fcd])⟩
     ·simp at h16
      omega
   | true =>
     have hen : encS (a,true) = -((a : Int) + 1):=rfl
     have hro : zbc A f (a,true) = w:=by unfold zbc; simp [hw]
     have hst : stF A (a,true) = e.t:=by unfold stF; simp [he]
     rw [hen] at hx
     rw [hst] at hfr
     rw [hro] at q2 hvn
     have hw0 : IntKind.i64.wrap (-x) = (a : Int) + 1:=by rw [w64 (by omega) (by omega)]; omega
     have hw1 : IntKind.i64.wrap (a : Int) = (a : Int):=w64 (by omega) (by omega)
     refine rk (s:=?s25) [1,4,5,6,8,33] [88,90] rfl ?o25 ?q25
     case o25=>simp; rfl
     refine zac _ rfl (fun h16=>?_) fun h16=>?_
     ·simp at h16
      omega
     ·refine za4 rfl ?_
      simp [hw0,hw1,ha0,hal',hafl,hAe,hfw]
      refine ⟨rfl,⟨i,if w < v then w else v⟩,⟨by simp only; omega,by simp only; split <;> omega,by simp only; split <;> omega,hvn (if w < v then w else v) (by split <;> omega) (by split <;> omega)⟩,Nat.lt_succ_self i,Le.go [(88,88),(90,90)] [] rfl rfl (by simp [hfr]) (by simp [fcd])⟩
  simp at h13
  obtain rfl : j = 0:=by
   cases j with
   | zero=>rfl
   | succ i =>
     have h2:=(hl.at_ i (by omega)).2.2.1
     refine absurd ?_ h2
     have h3 : endW A 0 l (i + 1) = stT A (l.getD i (0,false)):=rfl
     rw [h3,List.getD_eq_getElem?_getD,List.getElem?_eq_getElem (by omega)] at h13
     exact h13
  refine zan ?_
  refine hit ?_
  exact ⟨v,⟨hv1,hv2,hv3⟩,LeI [(88,88),(90,90)] []⟩
 obtain ⟨hv1,hv2,hv3⟩:=hv
 have hv3' : ∀ s ∈ l,v ≤ zbc A f s:=fun s hs=>hv3 s (by simpa using hs)
 obtain ⟨hf2,hval⟩:=hl.push hno hf (by omega) hv3'
 have hbnd:=zdM (S:=fun x=>decide (x = 0)) hno hf2 (by simp) (by simp)
 refine zab ⟨112,[(1,.pv (nC ⟨N,A⟩)),(4,.rs 88 0 A.length),(5,.rs 90 0 N),(6,.I v),(9,.I 1)],[(88,some ⟨1,zag f,0⟩),(90,some ⟨1,zag b,0⟩)],700⟩ rfl ?_ ?_
 ·simp
  exact LeI [(88,88),(90,90)] []
 refine zaf ?_
 refine zap (ι:=Nat) (fun j=>⟨112,[(1,.pv (nC ⟨N,A⟩)),(4,.rs 88 0 A.length),(5,.rs 90 0 N),(6,.I v),(9,.I (endW A 0 l j))],[(88,some ⟨1,zag (zdD v f l j),0⟩),(90,some ⟨1,zag b,0⟩)],800⟩)
  (fun j=>j ≤ l.length) (fun j=>j) l.length (Nat.le_refl _) (Le.go [(88,88),(90,90)] [] rfl rfl (by simp [hle]) (by simp [fcd,zmV])) ?_
 intro j hj
 refine zaa ?_
 refine zab ⟨112,[(1,.pv (nC ⟨N,A⟩)),(4,.rs 88 0 A.length),(5,.rs 90 0 N),(6,.I v),(9,.I (endW A 0 l j)),(73,.B (!decide (endW A 0 l j = 0)))],[(88,some ⟨1,zag (zdD v f l j),0⟩),(90,some ⟨1,zag b,0⟩)],900⟩ rfl ?_ ?_
 ·simp
  exact Le.go [(88,88),(90,90)] [] rfl rfl (by simp <;> exact wkB (by rw [Bool.eq_iff_iff]; simp)) (by simp [fcd])
 refine zac _ rfl (fun h19=>?_) fun h19=>?_
 ·simp at h19
  obtain ⟨i,rfl⟩ : ∃ i,j = i + 1:=by
   cases j with
   | zero=>exact absurd rfl h19
   | succ i=>exact ⟨i,rfl⟩
  have hi : i < l.length:=by omega
  obtain ⟨q1,q2,q3,q4,q5,q6⟩:=hl.at_ i hi
  have hfr:=hl.from_ i hi
  have hstep:=zlr (v:=v) (f:=f) i hi
  have hget:=znx (v:=v) hl.nodup hlr i hi
  have hroom:=hv3' _ (List.getElem_mem hi)
  obtain ⟨s,hs⟩ : ∃ s,s = l[i]:=⟨_,rfl⟩
  have hk : endW A 0 l (i + 1) = stT A s:=by
   show stT A (l.getD i (0,false)) = _
   rw [List.getD_eq_getElem?_getD,List.getElem?_eq_getElem hi,hs]
   rfl
  rw [← hs] at q1 q2 q3 q4 q5 q6 hfr hstep hget hroom
  rw [hk]
  obtain ⟨k,hkd⟩ : ∃ k,k = stT A s:=⟨_,rfl⟩
  rw [← hkd] at q4 q5 q6 ⊢
  have hbk:=hcode k.toNat (by omega)
  obtain ⟨x,hx⟩ : ∃ x,x = encS s:=⟨_,rfl⟩
  rw [q6,← hx] at hbk
  have hFl : (zdD v f l (i + 1)).length = A.length:=by rw [zne,hfl]
  obtain ⟨F,hF⟩ : ∃ F,F = zdD v f l (i + 1):=⟨_,rfl⟩
  rw [← hF] at hFl hget hstep ⊢
  have hfa:=hfit.2 s.1 q1
  have heo:=hav _ (zdJ q1)
  obtain ⟨e,he⟩ : ∃ e,e = arcD A s.1:=⟨_,rfl⟩
  obtain ⟨w,hw⟩ : ∃ w,w = f.getD s.1 0:=⟨_,rfl⟩
  have hg1 : A[s.1]? = some e:=by rw [he]; unfold arcD; rw [List.getD_eq_getElem?_getD,List.getElem?_eq_getElem q1,Option.getD_some]
  have hg2 : F[s.1]? = some w:=by rw [hw,← hget,List.getD_eq_getElem?_getD,List.getElem?_eq_getElem (by omega),Option.getD_some]
  rw [← he,← hw] at hfa
  rw [← he] at heo
  obtain ⟨e1,e2,e3,e4,e5,e6,e7,e8,e9⟩:=heo
  obtain ⟨a,c⟩:=s
  simp only at q1 hg1 hg2 he hw
  have hal' : a < A.length:=q1
  have ha0 : (0 : Int) ≤ a ∧ (a : Int) < A.length:=by omega
  have hafl : a < F.length:=by omega
  have hAe : A[a] = e:=by rw [List.getElem?_eq_getElem hal'] at hg1; exact Option.some.inj hg1
  have hfw : F[a] = w:=by rw [List.getElem?_eq_getElem hafl] at hg2; exact Option.some.inj hg2
  have hset : zdD v f l i = F.set a (w + if c then -v else v):=by rw [hstep]; unfold zgT; simp only [hget]; rw [hw]
  refine zad ?_
  refine zaf ?_
  refine zab ⟨112,[(1,.pv (nC ⟨N,A⟩)),(4,.rs 88 0 A.length),(5,.rs 90 0 N),(6,.I v),(10,.I x)],[(88,some ⟨1,zag F,0⟩),(90,some ⟨1,zag b,0⟩)],1000⟩ rfl ?_ ?_
  ·simp [hbk,q4,q5]
   exact LeI [(88,88),(90,90)] []
  refine zab ⟨112,[(1,.pv (nC ⟨N,A⟩)),(4,.rs 88 0 A.length),(5,.rs 90 0 N),(6,.I v),(10,.I x),(79,.B (decide (0 < x)))],[(88,some ⟨1,zag F,0⟩),(90,some ⟨1,zag b,0⟩)],1100⟩ rfl ?_ ?_
  ·simp
   exact LeI [(88,88),(90,90)] []
  cases c with
  | false =>
    have hen : encS (a,false) = (a : Int) + 1:=rfl
    have hro : zbc A f (a,false) = e.v - w:=by unfold zbc; simp [he,hw]
    have hst : stF A (a,false) = e.f:=by unfold stF; simp [he]
    rw [hen] at hx
    rw [hst] at hfr
    rw [hro] at hroom
    have hw1 : IntKind.i64.wrap (x - 1) = (a : Int):=by rw [w64 (by omega) (by omega)]; omega
    have hw2 : IntKind.i64.wrap (w + v) = w + v:=w64 (by omega) (by omega)
    refine zac _ rfl (fun h16=>?_) fun h16=>?_
    ·refine zab ⟨112,[(1,.pv (nC ⟨N,A⟩)),(4,.rs 88 0 A.length),(5,.rs 90 0 N),(6,.I v),(10,.I x)],[(88,some ⟨1,zag (F.set a (w + v)),0⟩),(90,some ⟨1,zag b,0⟩)],1300⟩ rfl ?_ ?_
     ·simp [hw1,hw2,ha0,hal',hafl,hAe,hfw,zaE]
      exact LeI [(88,88),(90,90)] []
     refine zau rfl ?_
     simp [hw1,ha0,hal',hAe]
     exact ⟨i,by omega,by omega,Le.go [(88,88),(90,90)] [] rfl rfl (by simp [hfr]) (by simp [fcd,hset])⟩
    ·simp at h16
     omega
  | true =>
    have hen : encS (a,true) = -((a : Int) + 1):=rfl
    have hro : zbc A f (a,true) = w:=by unfold zbc; simp [hw]
    have hst : stF A (a,true) = e.t:=by unfold stF; simp [he]
    rw [hen] at hx
    rw [hst] at hfr
    rw [hro] at hroom
    have hw0 : IntKind.i64.wrap (-x) = (a : Int) + 1:=by rw [w64 (by omega) (by omega)]; omega
    have hw1 : IntKind.i64.wrap (a : Int) = (a : Int):=w64 (by omega) (by omega)
    have hw2 : IntKind.i64.wrap (w - v) = w + -v:=by rw [w64 (by omega) (by omega)]; omega
    refine zac _ rfl (fun h16=>?_) fun h16=>?_
    ·simp at h16
     omega
    ·refine zab ⟨112,[(1,.pv (nC ⟨N,A⟩)),(4,.rs 88 0 A.length),(5,.rs 90 0 N),(6,.I v),(10,.I x)],[(88,some ⟨1,zag (F.set a (w + -v)),0⟩),(90,some ⟨1,zag b,0⟩)],1300⟩ rfl ?_ ?_
     ·simp [hw0,hw1,hw2,ha0,hal',hafl,hAe,hfw,zaE]
      exact LeI [(88,88),(90,90)] []
     refine zau rfl ?_
     simp [hw0,hw1,ha0,hal',hAe]
     exact ⟨i,by omega,by omega,Le.go [(88,88),(90,90)] [] rfl rfl (by simp [hfr]) (by simp [fcd,hset])⟩
 simp at h19
 obtain rfl : j = 0:=by
  cases j with
  | zero=>rfl
  | succ i =>
    have h2:=(hl.at_ i (by omega)).2.2.1
    refine absurd ?_ h2
    have h3 : endW A 0 l (i + 1) = stT A (l.getD i (0,false)):=rfl
    rw [h3,List.getD_eq_getElem?_getD,List.getElem?_eq_getElem (by omega)] at h19
    exact h19
 refine zan ?_
 refine hit ?_
 exact ⟨zdD v f l 0,hf2,by rw [hval]; omega,LeI [(88,88)] []⟩
theorem zgX {φ : Ed → Int → Int} : ∀ {A : List Ed} {f : List Int} (i : Nat) (h1 : i < A.length) (h2 : i < f.length),sumF φ (A.take (i + 1)) (f.take (i + 1)) = sumF φ (A.take i) (f.take i) + φ A[i] f[i]
 | e :: A,v :: f,0,_,_=>by simp [sumF]
 | e :: A,v :: f,i + 1,h1,h2=>by
   have:=zgX (φ:=φ) (A:=A) (f:=f) i (by simpa using h1) (by simpa using h2)
   simp only [List.take_succ_cons,sumF,this,List.getElem_cons_succ]
   omega
def netG (A : List Ed) (f : List Int) (i : Nat) (x : Int) : Int:=inF (A.take i) (f.take i) x - outF (A.take i) (f.take i) x
variable {N : Nat} {A : List Ed} {f : List Int}
theorem zfD (x : Int) : netG A f 0 x = 0:=by simp [netG,inF,outF,sumF]
theorem zfH {i : Nat} (h1 : i < A.length) (h2 : i < f.length) (x : Int) : netG A f (i + 1) x = netG A f i x + (if A[i].t = x then f[i] else 0) - if A[i].f = x then f[i] else 0:=by
 unfold netG inF outF
 rw [zgX i h1 h2,zgX i h1 h2]
 omega
theorem zl5 (hl : f.length = A.length) (x : Int) : netG A f A.length x = - exF A f x:=by
 unfold netG exF
 rw [List.take_of_length_le (Nat.le_refl _),List.take_of_length_le (by omega)]
 omega
theorem zhU (hl : f.length = A.length) (hb : ∀ j (h : j < f.length),0 ≤ f[j] ∧ f[j] ≤ 1048576) (x : Int) : ∀ i,i ≤ A.length → -(1048576 * (i : Int)) ≤ netG A f i x ∧ netG A f i x ≤ 1048576 * (i : Int)
 | 0,_=>by rw [zfD]; omega
 | i + 1,h=>by
   have ih:=zhU hl hb x i (by omega)
   have h2:=hb i (by omega)
   rw [zfH (by omega) (by omega)]
   split <;> split <;> omega
theorem zn1 {i : Nat} (h1 : i < A.length) (h2 : i < f.length) (x : Int) : outF (A.take (i + 1)) (f.take (i + 1)) x = outF (A.take i) (f.take i) x + if A[i].f = x then f[i] else 0:=by
 unfold outF
 rw [zgX i h1 h2]
theorem zlo (hl : f.length = A.length) (hb : ∀ j (h : j < f.length),0 ≤ f[j] ∧ f[j] ≤ 1048576) (x : Int) : ∀ i,i ≤ A.length → 0 ≤ outF (A.take i) (f.take i) x ∧ outF (A.take i) (f.take i) x ≤ 1048576 * (i : Int)
 | 0,_=>by simp [outF,sumF]
 | i + 1,h=>by
   have ih:=zlo hl hb x i (by omega)
   have h2:=hb i (by omega)
   rw [zn1 (by omega) (by omega)]
   split <;> omega
def rowR (N : Nat) (g : Int → Int) : List Int:=(List.range N).map fun k : Nat=>g k
theorem zeH (N : Nat) (g : Int → Int) : (rowR N g).length = N:=by simp [rowR]
theorem zcS {g : Int → Int} {x : Int} (h0 : 0 ≤ x) (h1 : x < N) : (rowR N g)[x.toNat]? = some (g x):=by
 unfold rowR
 rw [List.getElem?_map,List.getElem?_range (by omega)]
 simp only [Option.map_some,Int.toNat_of_nonneg h0]
theorem zga {g : Int → Int} {x v : Int} (h0 : 0 ≤ x) (h1 : x < N) : (rowR N g).set x.toNat v = rowR N fun y=>if y = x then v else g y:=by
 apply List.ext_getElem?
 intro j
 by_cases hj : j < N
 ·have e1:=zcS (N:=N) (g:=fun y=>if y = x then v else g y) (x:=(j : Int)) (by omega) (by omega)
  have e2:=zcS (N:=N) (g:=g) (x:=(j : Int)) (by omega) (by omega)
  simp only [Int.toNat_natCast] at e1 e2
  rw [List.getElem?_set,e1,e2,zeH]
  by_cases hx : x.toNat = j
  ·rw [if_pos hx,if_pos (by omega),if_pos (by omega)]
  ·rw [if_neg hx,if_neg (by omega)]
 ·rw [List.getElem?_eq_none (by rw [List.length_set,zeH]; omega),List.getElem?_eq_none (by rw [zeH]; omega)]
theorem zgg {g h : Int → Int} (e : ∀ x,g x = h x) : rowR N g = rowR N h:=by
 obtain rfl : g = h:=funext e
 rfl
set_option maxRecDepth 100000 in
set_option maxHeartbeats 4000000 in
theorem ziH (hn : zaX ⟨N,A⟩) (hf : zay N A f) : zai Tryz.prog zdq [eN ⟨N,A⟩,ints f] [] (.B true) []:=by
 refine zis.acalls (nbz rfl) (nbz rfl) (Nat.le_refl _) ?_
 show awp _ 0 _ _ ⟨87,[(0,eN ⟨N,A⟩),(1,ints f)],[],16⟩
 have hfl:=hf.fit.len
 have hfit:=zcP.1 hf.fit
 have hchk:=zc9 ⟨N,A⟩ (by have:=hn.2.2.1; simp only at this ⊢; omega)
 rw [if_pos hn] at hchk
 obtain ⟨hn0,hn1,hal,hav⟩:=hn
 simp only at hn0 hn1 hal hav
 have hfb : ∀ j (h : j < f.length),0 ≤ f[j] ∧ f[j] ≤ (A[j]'(by omega)).v ∧ (A[j]'(by omega)).v ≤ 1048576:=fun j hj=>by
  have h1:=hfit.2 j (by omega)
  have e1 : f.getD j 0 = f[j]:=by rw [List.getD_eq_getElem?_getD,List.getElem?_eq_getElem hj,Option.getD_some]
  have e2 : arcD A j = A[j]'(by omega):=by unfold arcD; rw [List.getD_eq_getElem?_getD,List.getElem?_eq_getElem (by omega),Option.getD_some]
  rw [e1,e2] at h1
  exact ⟨h1.1,h1.2,(hav _ (List.getElem_mem (by omega))).2.2.2.2.2.2.2.2⟩
 have hbd:=zhU hfl fun j hj=>⟨(hfb j hj).1,by have:=hfb j hj; omega⟩
 refine rx (s:=?s1) [1,2] [] [16] rfl ?o1 ?q1
 case o1=>simp; rfl
 refine zaa ?_
 refine zab ⟨87,[(1,ints f),(2,.pv (nC ⟨N,A⟩)),(18,.B false)],[],120⟩ rfl ?_ ?_
 ·simp
  refine zak hchk (by simp) ?_
  simp
  exact Le.snap [] rfl rfl (by simp <;> exact wkB (by simp [hfl]))
 refine zac _ rfl (fun h3=>by cases h3) fun _=>?_
 refine zad ?_
 refine zab ⟨87,[(1,ints f),(2,.pv (nC ⟨N,A⟩)),(5,.rs 136 0 N)],[(136,some ⟨1,zag (rowR N (netG A f 0)),0⟩)],144⟩ rfl ?_ ?_
 ·simp
  refine ⟨by omega,by omega,?_⟩
  have : rowR N (netG A f 0) = List.replicate N 0:=by
   unfold rowR
   simp only [zfD]
   simp [List.map_const']
  rw [this]
  exact LeH [(136,136)] []
 refine zaa ?_
 refine zab ⟨87,[(1,ints f),(2,.pv (nC ⟨N,A⟩)),(5,.rs 136 0 N),(6,.I 0)],[(136,some ⟨1,zag (rowR N (netG A f 0)),0⟩)],160⟩ rfl ?_ ?_
 ·simp
  exact LeI [(136,136)] []
 refine zaf ?_
 refine zap (ι:=Nat) (fun i=>⟨87,[(1,ints f),(2,.pv (nC ⟨N,A⟩)),(5,.rs 136 0 N),(6,.I i)],[(136,some ⟨1,zag (rowR N (netG A f i)),0⟩)],160⟩) (fun i=>i ≤ A.length) (fun i=>A.length - i) 0 (Nat.zero_le _) (LeI [(136,136)] []) ?_
 intro i hi
 refine zaa ?_
 refine zab ⟨87,[(1,ints f),(2,.pv (nC ⟨N,A⟩)),(5,.rs 136 0 N),(6,.I i),(25,.B (decide (i < f.length)))],[(136,some ⟨1,zag (rowR N (netG A f i)),0⟩)],192⟩ rfl ?_ ?_
 ·simp
  exact LeI [(136,136)] []
 refine zac _ rfl (fun h8=>?_) fun h8=>?_
 ·simp at h8
  have hiA : i < A.length:=by omega
  have hw1 : IntKind.i64.wrap ((i : Int) + 1) = (i : Int) + 1:=w64 (by omega) (by omega)
  obtain ⟨b1,b2,b3⟩:=hfb i h8
  have heo:=hav _ (List.getElem_mem hiA)
  have hsucc:=zfH hiA h8
  have hbe:=fun x=>hbd x i (by omega)
  obtain ⟨e,he⟩ : ∃ e,e = A[i]:=⟨_,rfl⟩
  obtain ⟨w,hw⟩ : ∃ w,w = f[i]:=⟨_,rfl⟩
  rw [← he,← hw] at hsucc b2
  rw [← hw] at b1
  rw [← he] at b3 heo
  obtain ⟨e1,e2,e3,e4,e5,_⟩:=heo
  have hg1 : A[i]? = some e:=by rw [List.getElem?_eq_getElem hiA,he]
  have hg2 : f[i]? = some w:=by rw [List.getElem?_eq_getElem h8,hw]
  have h2N : e.f < (N : Int) ∧ e.t < (N : Int):=by omega
  have h1:=hbe e.f
  have h2:=hbe e.t
  have hwx : IntKind.i64.wrap (netG A f i e.f - w) = netG A f i e.f - w:=w64 (by omega) (by omega)
  have hwy : IntKind.i64.wrap (netG A f i e.t + w) = netG A f i e.t + w:=w64 (by omega) (by omega)
  have hr1:=zcS (N:=N) (g:=netG A f i) (x:=e.f) e1 (by omega)
  have hs1:=zga (N:=N) (g:=netG A f i) (x:=e.f) (v:=netG A f i e.f - w) e1 (by omega)
  obtain ⟨g1,hg1d⟩ : ∃ g1 : Int → Int,g1 = fun y=>if y = e.f then netG A f i e.f - w else netG A f i y:=⟨_,rfl⟩
  rw [← hg1d] at hs1
  have hg1t : g1 e.t = netG A f i e.t:=by rw [hg1d]; exact if_neg fun h=>e5 h.symm
  have hr2:=zcS (N:=N) (g:=g1) (x:=e.t) e3 (by omega)
  rw [hg1t] at hr2
  have hs2:=zga (N:=N) (g:=g1) (x:=e.t) (v:=netG A f i e.t + w) e3 (by omega)
  have hend : (rowR N fun y=>if y = e.t then netG A f i e.t + w else g1 y) = rowR N (netG A f (i + 1)):=zgg fun x=>by
   rw [hsucc,hg1d]
   simp only
   by_cases h3 : x = e.t
   ·rw [h3,if_pos rfl,if_pos rfl,if_neg e5]
    omega
   ·by_cases h4 : x = e.f
    ·rw [if_neg h3,if_pos h4,if_neg fun h=>h3 h.symm,if_pos h4.symm,h4]
     omega
    ·rw [if_neg h3,if_neg h4,if_neg fun h=>h3 h.symm,if_neg fun h=>h4 h.symm]
     omega
  rw [hend] at hs2
  refine zad ?_
  refine zaI (ι:=Unit) (fun _=>⟨87,[(1,ints f),(2,.pv (nC ⟨N,A⟩)),(5,.rs 136 0 N),(6,.I i)],[(136,some ⟨1,zag (rowR N (netG A f (i + 1))),0⟩)],1000⟩) (fun _=>True) ?_ fun _ _=>?_
  ·refine zaf ?_
   refine zaa ?_
   refine zar ⟨87,[(1,ints f),(2,.pv (nC ⟨N,A⟩)),(5,.rs 136 0 N),(6,.I i),(45,.B false)],[(136,some ⟨1,zag (rowR N (netG A f i)),0⟩)],500⟩ rfl ?_ ?_
   ·have hc1 : ¬ w < 0:=by omega
    have hc2 : ¬ e.v < w:=by omega
    simp [hg1,hg2,hiA,h8,← he,← hw,hc1,hc2]
    exact ⟨rfl,Le.go [(136,136)] [] rfl rfl (by simp [hc2]) (by simp [fcd])⟩
   refine zac _ rfl (fun h=>by cases h) fun _=>?_
   refine zad ?_
   refine zar ⟨87,[(1,ints f),(2,.pv (nC ⟨N,A⟩)),(5,.rs 136 0 N),(6,.I i)],[(136,some ⟨1,zag (rowR N g1),0⟩)],700⟩ rfl ?_ ?_
   ·simp [hg1,hg2,hiA,h8,← he,← hw,hr1,e1,h2N,hwx,zaE]
    exact ⟨rfl,Le.go [(136,136)] [] rfl rfl (by simp) (by simp [fcd,← hs1])⟩
   refine za4 rfl ?_
   simp [hg1,hg2,hiA,h8,← he,← hw,hr2,e3,h2N,hwy,zaE]
   exact ⟨rfl,Le.go [(136,136)] [] rfl rfl (by simp) (by simp [fcd,← hs2])⟩
  refine zae (s:=?s20) rfl ?o20 ?q20
  case o20=>simp; rfl
  exact ⟨i + 1,by omega,by omega,Le.go [(136,136)] [] rfl rfl (by simp [hw1]) (by simp [fcd])⟩
 simp at h8
 obtain rfl : i = A.length:=by omega
 refine zan ?_
 refine hit ?_
 refine zaa ?_
 refine zab ⟨87,[(2,.pv (nC ⟨N,A⟩)),(5,.rs 136 0 N),(7,.I 2)],[(136,some ⟨1,zag (rowR N (netG A f A.length)),0⟩)],200⟩ rfl ?_ ?_
 ·simp
  exact LeI [(136,136)] []
 refine zaf ?_
 refine zap (ι:=Nat) (fun k=>⟨87,[(2,.pv (nC ⟨N,A⟩)),(5,.rs 136 0 N),(7,.I k)],[(136,some ⟨1,zag (rowR N (netG A f A.length)),0⟩)],200⟩) (fun k=>2 ≤ k ∧ k ≤ N) (fun k=>N - k) 2 (by omega) (LeI [(136,136)] []) ?_
 rintro k ⟨hk1,hk2⟩
 refine zaa ?_
 refine zab ⟨87,[(2,.pv (nC ⟨N,A⟩)),(5,.rs 136 0 N),(7,.I k),(79,.B (decide (k < N)))],[(136,some ⟨1,zag (rowR N (netG A f A.length)),0⟩)],300⟩ rfl ?_ ?_
 ·simp
  exact LeI [(136,136)] []
 refine zac _ rfl (fun h15=>?_) fun h15=>?_
 ·simp at h15
  have hz : netG A f A.length k = 0:=by
   rw [zl5 hfl]
   have:=hf.bal k hk1 h15
   unfold exF
   omega
  have hr:=zcS (N:=N) (g:=netG A f A.length) (x:=(k : Int)) (by omega) (by omega)
  rw [hz] at hr
  simp only [Int.toNat_natCast] at hr
  have hw1 : IntKind.i64.wrap ((k : Int) + 1) = (k : Int) + 1:=w64 (by omega) (by omega)
  refine zad ?_
  refine zaa ?_
  refine zaf ?_
  refine zab ⟨87,[(2,.pv (nC ⟨N,A⟩)),(5,.rs 136 0 N),(7,.I k),(86,.B false)],[(136,some ⟨1,zag (rowR N (netG A f A.length)),0⟩)],400⟩ rfl ?_ ?_
  ·simp [hr,h15]
   exact LeI [(136,136)] []
  refine zac _ rfl (fun h=>by cases h) fun _=>?_
  refine zad ?_
  refine zae (s:=?s21) rfl ?o21 ?q21
  case o21=>simp; rfl
  exact ⟨k + 1,by omega,by omega,Le.go [(136,136)] [] rfl rfl (by simp [hw1]) (by simp [fcd])⟩
 simp at h15
 refine zan ?_
 refine hit ?_
 refine zab ⟨87,[(4,.B true)],[],400⟩ rfl ?_ ?_
 ·simp
  exact LeH [] []
 refine zah ?_
 exact ⟨.inr rfl,zam.one (by simp)⟩
theorem zfl (hn : zaX ⟨N,A⟩) (hf : zay N A f) : zai Tryz.prog zdn [eN ⟨N,A⟩,ints f] [] (.I (valF A f)) []:=by
 refine zil.acalls (nbz rfl) (nbz rfl) (Nat.le_refl _) ?_
 show awp _ 0 _ _ ⟨31,[(0,eN ⟨N,A⟩),(1,ints f)],[],16⟩
 have hchk:=ziH hn hf
 have hfl:=hf.fit.len
 have hfit:=zcP.1 hf.fit
 obtain ⟨hn0,hn1,hal,hav⟩:=hn
 simp only at hn0 hn1 hal hav
 have hfb : ∀ j (h : j < f.length),0 ≤ f[j] ∧ f[j] ≤ 1048576:=fun j hj=>by
  have h1:=hfit.2 j (by omega)
  have e1 : f.getD j 0 = f[j]:=by rw [List.getD_eq_getElem?_getD,List.getElem?_eq_getElem hj,Option.getD_some]
  have e2 : arcD A j = A[j]'(by omega):=by unfold arcD; rw [List.getD_eq_getElem?_getD,List.getElem?_eq_getElem (by omega),Option.getD_some]
  rw [e1,e2] at h1
  have h2:=(hav _ (List.getElem_mem (show j < A.length by omega))).2.2.2.2.2.2.2.2
  omega
 have hbd:=zlo hfl hfb 0
 have hall : outF (A.take A.length) (f.take A.length) 0 = valF A f:=by
  unfold valF
  rw [List.take_of_length_le (Nat.le_refl _),List.take_of_length_le (by omega)]
 refine rx (s:=?s1) [1,2] [] [16] rfl ?o1 ?q1
 case o1=>simp; rfl
 refine zaa ?_
 refine rx (s:=?s2) [1,2,10] [] [] rfl ?o2 ?q2
 case o2=>simp; refine zak hchk (by simp) ?_; simp; rfl
 refine zac _ rfl (fun h=>by cases h) fun _=>?_
 refine zad ?_
 refine rx (s:=?s5) [1,2,5] [] [] rfl ?o5 ?q5
 case o5=>simp; rfl
 refine zaa ?_
 refine rx (s:=?s6) [1,2,5,6] [] [] rfl ?o6 ?q6
 case o6=>simp; rfl
 refine zaf ?_
 refine zap (ι:=Nat) (fun i=>⟨31,[(1,ints f),(2,.pv (nC ⟨N,A⟩)),(5,.I (outF (A.take i) (f.take i) 0)),(6,.I i)],[],80⟩) (fun i=>i ≤ A.length) (fun i=>A.length - i) 0 (Nat.zero_le _) (Le.go [] [] rfl rfl (by simp [outF,sumF]) (by simp)) ?_
 intro i hi
 have hbi:=hbd i hi
 refine zaa ?_
 refine rx (s:=?s7) [1,2,5,6,14] [] [] rfl ?o7 ?q7
 case o7=>simp; rfl
 refine zac _ rfl (fun h8=>?_) fun h8=>?_
 ·simp at h8
  have hiA : i < A.length:=by omega
  have hw1 : IntKind.i64.wrap ((i : Int) + 1) = (i : Int) + 1:=w64 (by omega) (by omega)
  have hsucc:=zn1 hiA h8 0
  have hb:=hfb i h8
  refine zad ?_
  refine zaI (ι:=Unit) (fun _=>⟨31,[(1,ints f),(2,.pv (nC ⟨N,A⟩)),(5,.I (outF (A.take (i + 1)) (f.take (i + 1)) 0)),(6,.I i)],[],400⟩) (fun _=>True) ?_ fun _ _=>?_
  ·refine zaf ?_
   refine zab ⟨31,[(1,ints f),(2,.pv (nC ⟨N,A⟩)),(5,.I (outF (A.take i) (f.take i) 0)),(6,.I i),(23,.B (decide (A[i].f = 0)))],[],200⟩ rfl ?_ ?_
   ·simp [hiA]
    exact Le.go [] [] rfl rfl (by simp <;> exact wkB (by rw [Bool.eq_iff_iff]; simp)) (by simp)
   refine zac _ rfl (fun h10=>?_) fun h10=>?_
   ·rw [decide_eq_true_eq] at h10
    rw [if_pos h10] at hsucc
    have hw2 : IntKind.i64.wrap (outF (A.take i) (f.take i) 0 + f[i]) = outF (A.take i) (f.take i) 0 + f[i]:=w64 (by omega) (by omega)
    refine zae (s:=?s9) rfl ?o9 ?q9
    case o9=>simp [h8]; rfl
    exact ⟨(),trivial,Le.go [] [] rfl rfl (by simp [hsucc,hw2]) (by simp)⟩
   ·rw [decide_eq_false_iff_not] at h10
    rw [if_neg h10,Int.add_zero] at hsucc
    refine zad ?_
    exact ⟨(),trivial,Le.go [] [] rfl rfl (by simp [hsucc]) (by simp)⟩
  refine zae (s:=?s10) rfl ?o10 ?q10
  case o10=>simp; rfl
  exact ⟨i + 1,by omega,by omega,Le.go [] [] rfl rfl (by simp [hw1]) (by simp)⟩
 simp at h8
 obtain rfl : i = A.length:=by omega
 rw [hall]
 refine zan ?_
 refine hit ?_
 refine rx (s:=?s11) [4] [] [] rfl ?o11 ?q11
 case o11=>simp; rfl
 refine zah ?_
 exact ⟨.inr rfl,zam.one (by simp)⟩
theorem zqe {g : Gr} {p : Pol} {sinks : List Int} (hg : GrOk g) (hp : za8 g.size p) (hk : ∀ x ∈ sinks,0 ≤ x ∧ x < g.size) : zdW (2 + 2 * g.size).toNat (za0 g p (zaK g p) sinks):=by
 have hs0:=hg.1.1
 have hse:=hp.2.1.nodup
 have hle:=zhV hg p.lv
 have hcl : (zaK g p).length = g.size.toNat:=by unfold zaK; rw [List.length_map,zki]; rfl
 refine ⟨by omega,fun a ha=>?_⟩
 unfold za0 at ha
 rcases List.mem_append.1 ha with ha | ha
 ·rcases List.mem_append.1 ha with ha | ha
  ·rcases List.mem_append.1 ha with ha | ha
   ·obtain ⟨x,hx,rfl⟩:=List.mem_map.1 ha
    have h1:=List.mem_filter.1 hx
    have h2:=hse.2 x h1.1
    have h3 : 0 < (zaK g p).getD x.toNat 0:=by simpa using h1.2
    simp only
    omega
   ·obtain ⟨i,hx,rfl⟩:=List.mem_map.1 ha
    have h1:=List.mem_filter.1 hx
    have h2:=List.mem_range.1 h1.1
    have h3 : 0 < (zaK g p).getD i 0:=by simpa using h1.2
    simp only
    omega
  ·obtain ⟨x,hx,rfl⟩:=List.mem_map.1 ha
   have h2:=hk x (List.mem_filter.1 hx).1
   simp only
   omega
 ·obtain ⟨e,hx,rfl⟩:=List.mem_map.1 ha
  have h2:=hle.2 e (List.mem_filter.1 hx).1
  simp only
  omega
theorem zlT (l : List Int) (n : Int) (hl : l.length ≤ 9223372036854775807) : zai Tryz.prog zaQ [ints l,.I n] [] (.B (l.contains n)) []:=by
 refine zk1.acalls (by simp [zh6]) (by simp) (by simp) ?_
 show awp _ 0 _ _ ⟨18,[(0,ints l),(1,.I n)],[],16⟩
 refine zaa (zae (s:=?s1) rfl ?o1 ?q1)
 case o1=>simp; rfl
 refine zaa (zaa (zae (s:=?s2) rfl ?o2 ?q2))
 case o2=>simp; rfl
 refine zaf ?_
 refine zap (ι:=Nat) (fun k=>{ sz:=18,t:=[(0,ints l),(1,.I n),(5,.I k)],h:=[],n:=16 }) (fun k=>k ≤ l.length ∧ n ∉ l.take k) (fun k=>l.length - k) 0 (by simp) ?_ ?_
 ·refine Le.slots rfl rfl ?_
  simp [ints]
 ·rintro k ⟨hk,hn⟩
  refine zaa (zaa (zae (s:=?s3) rfl ?o3 ?q3))
  case o3=>simp; rfl
  refine zac _ rfl ?_ ?_
  ·intro hlt
   simp only [decide_eq_true_eq,Int.ofNat_lt] at hlt
   show awp _ _ _ _ _
   refine zaa (zaf (zaa (zae (s:=?s4) rfl ?o4 ?q4)))
   case o4=>simp [hlt]; rfl
   refine zac _ rfl ?_ ?_
   ·intro heq
    refine zaa (zae (s:=?s5) rfl ?o5 ?q5)
    case o5=>simp; rfl
    refine ⟨.inr rfl,zam.one ?_⟩
    have : n ∈ l:=by simp at heq; simp [← heq]
    simp [this]
   ·intro hne
    refine zad (zae (s:=?s6) rfl ?o6 ?q6)
    case o6=>simp; rfl
    refine ⟨k + 1,⟨by omega,?_⟩,by omega,Le.slots rfl rfl ?_⟩
    ·intro hm
     simp at hne
     rw [List.take_succ_eq_append_getElem hlt] at hm
     rcases List.mem_append.1 hm with h | h
     ·exact hn h
     ·exact hne (List.mem_singleton.1 h).symm
    ·have hw : IntKind.i64.wrap ((k : Int) + 1) = ((k + 1 : Nat) : Int):=w64 (by omega) (by omega)
     simp [Wk.refl,hw]
  ·intro hge
   refine zan (hit ?_)
   refine zaa (zae (s:=?s7) rfl ?o7 ?q7)
   case o7=>simp; rfl
   refine zah ⟨.inr rfl,zam.one ?_⟩
   simp at hge
   have : n ∉ l:=by
    have : l.take k = l:=List.take_of_length_le hge
    rw [this] at hn
    exact hn
   simp [this]
open Classical in
theorem zlM (l : List Int) (n : Int) (hl : l.length ≤ 9223372036854775807) : zai Tryz.prog zb9 [ints l,.I n] [] (.B (decide (Rise l 0 (n - 1)))) []:=by
 refine zls.acalls (nbz rfl) (nbz rfl) (Nat.le_refl _) ?_
 show awp _ 0 _ _ ⟨41,[(0,ints l),(1,.I n)],[],16⟩
 refine zaa ?_
 refine zae (s:=?s1) rfl ?o1 ?q1
 case o1=>simp; rfl
 refine zaa ?_
 refine zaa ?_
 refine zae (s:=?s2) rfl ?o2 ?q2
 case o2=>simp; rfl
 refine zaf ?_
 refine zap (ι:=Nat) (fun k=>⟨41,[(0,ints l),(1,.I n),(5,.I k)],[],16⟩) (fun k=>k ≤ l.length ∧ ∀ i,i < k → zgn l 0 (n - 1) i) (fun k=>l.length - k) (0) ?_ (Le.snap [] rfl rfl (by simp)) ?_
 ·simp
 rintro k ⟨hk,hp⟩
 refine zaa ?_
 refine zaa ?_
 refine zae (s:=?s3) rfl ?o3 ?q3
 case o3=>simp; rfl
 refine zac _ rfl (fun h4=>?_) fun h4=>?_
 ·try simp at h4
  have hw2 : IntKind.i64.wrap ((k : Int) + 1) = (k : Int) + 1:=w64 (by omega) (by omega)
  have hwp : 0 < k → IntKind.i64.wrap ((k : Int) - 1) = ((k - 1 : Nat) : Int):=fun h=>by rw [w64 (by omega) (by omega)]; omega
  have hkp : k - 1 < l.length:=by omega
  refine zad ?_
  refine zaa ?_
  refine zaf ?_
  refine zar ⟨41,[(0,ints l),(1,.I n),(5,.I k),(40,.B (decide (¬ zgn l 0 (n - 1) k)))],[],16⟩ rfl ?_ ?_
  ·simp [h4,hw2,hwp,hkp]
   repeat' first
    | (refine zbU (fun hb=>?_) (fun hb=>?_) <;> (try rw [hb]) <;> (try simp at hb) <;> simp [hb,h4,hw2,hwp,hkp])
   all_goals exact ⟨rfl,Le.snap [] rfl rfl (by simp; exact wkB (by (try simp at *); grind [zgn]))⟩
  refine zac _ rfl (fun h5=>?_) fun h5=>?_
  ·try simp at h5
   refine zaa ?_
   refine zae (s:=?s6) rfl ?o6 ?q6
   case o6=>simp [h4,hw2,hwp,hkp]; rfl
   refine zah ?_
   have hn : ¬ Rise l 0 (n - 1):=fun h=>h5 (h k)
   exact ⟨.inr rfl,zam.one (by simp [hn])⟩
  try simp at h5
  refine zad ?_
  refine zae (s:=?s7) rfl ?o7 ?q7
  case o7=>simp [h4,hw2,hwp,hkp]; rfl
  refine ⟨k + 1,⟨h4,fun i hi=>?_⟩,by omega,Le.snap [] rfl rfl (by simp [h4,hw2,hwp,hkp])⟩
  rcases Nat.lt_succ_iff_lt_or_eq.1 hi with h | rfl
  ·exact hp i h
  ·exact h5
 try simp at h4
 have hall : ∀ i,i < l.length → zgn l 0 (n - 1) i:=fun i hi=>hp i (by omega)
 refine zan ?_
 refine hit ?_
 refine zaa ?_
 refine zae (s:=?s8) rfl ?o8 ?q8
 case o8=>simp; rfl
 refine zah ?_
 have hy : Rise l 0 (n - 1):=fun i hi=>hall i hi hi
 exact ⟨.inr rfl,zam.one (by simp [hy])⟩
open Classical in
theorem zhu (n : Net) (side : List Int) (hl : n.arcs.length ≤ 1099511627776) (hs : side.length ≤ 9223372036854775807) : zai Tryz.prog zgc [eN n,ints side] [] (.B (decide (zch n side))) []:=by
 refine zqj.acalls (nbz rfl) (nbz rfl) (Nat.le_refl _) ?_
 show awp _ 0 _ _ ⟨24,[(0,eN n),(1,ints side)],[],16⟩
 refine rx (s:=?s1) [1,2] [] [16] rfl ?o1 ?q1
 case o1=>simp; rfl
 refine zab ⟨24,[(4,.B (decide (zch n side)))],[],300⟩ rfl ?_ ?_
 ·have hc:=zeM n hl
  by_cases hn : zaX n
  ·rw [if_pos hn] at hc
   have hw : IntKind.i64.wrap (n.nodes - 1) = n.nodes - 1:=w64 (by have:=hn.1; omega) (by have:=hn.2.1; omega)
   simp
   refine zak hc (by simp) ?_
   simp [hw]
   refine zak (zfm side 0 (n.nodes - 1) hs) (by simp) ?_
   simp
   refine zbU (fun hb=>?_) (fun hb=>?_) <;> (try rw [hb]) <;> (try simp at hb) <;> simp [hb]
   ·refine zak (zfB side 0 hs) (by simp) ?_
    simp
    refine zbU (fun hb2=>?_) (fun hb2=>?_) <;> (try rw [hb2]) <;> (try simp at hb2) <;> simp [hb2]
    ·refine zak (zfB side 1 hs) (by simp) ?_
     simp
     exact Le.snap [] rfl rfl (by simp [zch,hn,hb,hb2])
    ·exact Le.snap [] rfl rfl (by simp [zch,hn,hb,hb2])
   ·exact Le.snap [] rfl rfl (by simp [zch,hn,hb])
  ·rw [if_neg hn] at hc
   simp
   refine zak hc (by simp) ?_
   simp
   exact Le.snap [] rfl rfl (by simp [zch,hn])
 refine zah ?_
 exact ⟨.inr rfl,zam.one (by simp)⟩
open Classical in
theorem zfA (n : Net) (side : List Int) (hl : n.arcs.length ≤ 1099511627776) (hs : side.length ≤ 9223372036854775807) : zai Tryz.prog zeb [eN n,ints side] [] (.B (decide (zch n side))) []:=by
 refine zog.acalls (nbz rfl) (nbz rfl) (Nat.le_refl _) ?_
 show awp _ 0 _ _ ⟨23,[(0,eN n),(1,ints side)],[],16⟩
 refine rx (s:=?s1) [1,2] [] [16] rfl ?o1 ?q1
 case o1=>simp; rfl
 refine zab ⟨23,[(4,.B (decide (zch n side)))],[],300⟩ rfl ?_ ?_
 ·have hc:=zc9 n hl
  by_cases hn : zaX n
  ·rw [if_pos hn] at hc
   simp
   refine zak hc (by simp) ?_
   simp
   refine zak (zlM side n.nodes hs) (by simp) ?_
   simp
   refine zbU (fun hb=>?_) (fun hb=>?_) <;> (try rw [hb]) <;> (try simp at hb) <;> simp [hb]
   ·refine zak (zlT side 0 hs) (by simp) ?_
    simp
    refine zbU (fun hb2=>?_) (fun hb2=>?_) <;> (try rw [hb2]) <;> (try simp at hb2) <;> simp [hb2]
    ·refine zak (zlT side 1 hs) (by simp) ?_
     simp
     exact Le.snap [] rfl rfl (by simp [zch,hn,hb,hb2])
    ·exact Le.snap [] rfl rfl (by simp [zch,hn,hb,hb2])
   ·exact Le.snap [] rfl rfl (by simp [zch,hn,hb])
  ·rw [if_neg hn] at hc
   simp
   refine zak hc (by simp) ?_
   simp
   exact Le.snap [] rfl rfl (by simp [zch,hn])
 refine zah ?_
 exact ⟨.inr rfl,zam.one (by simp)⟩
open Classical in
theorem zg5 (n : Net) (side : List Int) (hl : n.arcs.length ≤ 1099511627776) (hs : side.length ≤ 9223372036854775807) : zai Tryz.prog zdN [eN n,ints side] [] (.I (if zch n side then cutV n.arcs side else 0)) []:=by
 refine zjj.acalls (nbz rfl) (nbz rfl) (Nat.le_refl _) ?_
 show awp _ 0 _ _ ⟨46,[(0,eN n),(1,ints side)],[],16⟩
 refine rx (s:=?s1) [1,2] [] [16] rfl ?o1 ?q1
 case o1=>simp; rfl
 refine zaa ?_
 refine rx (s:=?s2) [1,2,10] [] [] rfl ?o2 ?q2
 case o2=>simp; refine zak (zfA n side hl hs) (by simp) ?_; simp; rfl
 refine zac _ rfl (fun h3=>?_) fun h3=>?_
 ·simp at h3
  refine rx (s:=?s4) [4] [] [] rfl ?o4 ?q4
  case o4=>simp; rfl
  refine zah ?_
  exact ⟨.inr rfl,zam.one (by simp [h3])⟩
 simp at h3
 have hb1:=h3.1.2.2.1
 refine zad ?_
 refine rx (s:=?s5) [1,2,5] [] [] rfl ?o5 ?q5
 case o5=>simp; rfl
 refine zaa ?_
 refine rx (s:=?s6) [1,2,5,6] [] [] rfl ?o6 ?q6
 case o6=>simp; rfl
 refine zaf ?_
 refine zap (ι:=Nat) (fun i=>⟨46,[(1,ints side),(2,.pv (nC n)),(5,.I (cutV (n.arcs.take i) side)),(6,.I i)],[],80⟩) (fun i=>i ≤ n.arcs.length) (fun i=>n.arcs.length - i) 0 (by simp) (Le.go [] [] rfl rfl (by simp [cutV]) (by simp)) ?_
 intro i hi
 have hcb:=zhO (n:=n.nodes) (side:=side) (arcs:=n.arcs.take i) fun a ha=>h3.1.2.2.2 a (List.mem_of_mem_take ha)
 have htl:=List.length_take_le' i n.arcs
 refine zaa ?_
 refine rx (s:=?s7) [1,2,5,6,15] [] [] rfl ?o7 ?q7
 case o7=>simp; rfl
 refine zac _ rfl (fun h7=>?_) fun h7=>?_
 ·simp at h7
  have hw : IntKind.i64.wrap ((i : Int) + 1) = (i : Int) + 1:=w64 (by omega) (by omega)
  have hcs:=zng n.arcs side i h7
  have hav:=h3.1.2.2.2 _ (List.getElem_mem h7)
  have hwv : IntKind.i64.wrap (cutV (n.arcs.take i) side + n.arcs[i].v) = cutV (n.arcs.take i) side + n.arcs[i].v:=w64 (by have:=hav.2.2.2.2.2.2.2.1; omega) (by have:=hav.2.2.2.2.2.2.2.2; omega)
  refine zad ?_
  refine zaI (ι:=Unit) (fun _=>⟨46,[(1,ints side),(2,.pv (nC n)),(5,.I (cutV (n.arcs.take (i + 1)) side)),(6,.I i)],[],400⟩) (fun _=>True) ?_ fun _ _=>?_
  ·refine zaf ?_
   refine zab ⟨46,[(1,ints side),(2,.pv (nC n)),(5,.I (cutV (n.arcs.take i) side)),(6,.I i),(36,.B (decide (n.arcs[i].f ∈ side ∧ n.arcs[i].t ∉ side)))],[],300⟩ rfl ?_ ?_
   ·simp [h7]
    refine zak (zlT side n.arcs[i].f hs) (by simp) ?_
    simp
    refine zbU (fun hb=>?_) (fun hb=>?_) <;> (try rw [hb]) <;> (try simp at hb) <;> simp [hb,h7]
    ·refine zak (zlT side n.arcs[i].t hs) (by simp) ?_
     simp
     exact Le.snap [] rfl rfl (by simp [hb])
    ·exact Le.snap [] rfl rfl (by simp [hb])
   refine zac _ rfl (fun h8=>?_) fun h8=>?_
   ·rw [decide_eq_true_eq] at h8
    rw [if_pos h8] at hcs
    refine zae (s:=?s9) rfl ?o9 ?q9
    case o9=>simp [h7]; rfl
    exact ⟨(),trivial,Le.go [] [] rfl rfl (by simp [hcs,hwv]) (by simp)⟩
   ·rw [decide_eq_false_iff_not] at h8
    rw [if_neg h8] at hcs
    refine zad ?_
    exact ⟨(),trivial,Le.go [] [] rfl rfl (by simp [hcs]) (by simp)⟩
  refine zae (s:=?s10) rfl ?o10 ?q10
  case o10=>simp; rfl
  exact ⟨i + 1,by omega,by omega,Le.go [] [] rfl rfl (by simp [hw]) (by simp)⟩
 simp at h7
 obtain rfl : i = n.arcs.length:=by omega
 refine zan ?_
 refine hit ?_
 refine rx (s:=?s11) [4] [] [] rfl ?o11 ?q11
 case o11=>simp; rfl
 refine zah ?_
 exact ⟨.inr rfl,zam.one (by simp [h3])⟩
open Classical in
theorem ziC (n : Net) (side : List Int) (most : Int) (hl : n.arcs.length ≤ 1099511627776) (hs : side.length ≤ 9223372036854775807) : zai Tryz.prog zeV [eN n,ints side,.I most] [] (.B (decide (zcL n side most))) []:=by
 refine zl6.acalls (nbz rfl) (nbz rfl) (Nat.le_refl _) ?_
 show awp _ 0 _ _ ⟨17,[(0,eN n),(1,ints side),(2,.I most)],[],16⟩
 refine rx (s:=?s1) [1,2,3] [] [16] rfl ?o1 ?q1
 case o1=>simp; rfl
 refine zab ⟨17,[(6,.B (decide (zcL n side most)))],[],300⟩ rfl ?_ ?_
 ·have hc:=zg5 n side hl hs
  simp
  refine zak (zfA n side hl hs) (by simp) ?_
  simp
  by_cases hv : zch n side
  ·rw [if_pos hv] at hc
   simp [hv]
   refine zak hc (by simp) ?_
   simp
   exact Le.snap [] rfl rfl (by simp [zcL,hv])
  ·simp [hv]
   exact Le.snap [] rfl rfl (by simp [zcL,hv])
 refine zah ?_
 exact ⟨.inr rfl,zam.one (by simp)⟩
def zdH (N : Nat) (s : List Int) : List (List AV):=(List.range N).map fun (k : Nat)=>[AV.B (decide ((k : Int) ∈ s))]
theorem zfz (N : Nat) (s : List Int) : (zdH N s).length = N:=by simp [zdH]
theorem zrV (N : Nat) : zdH N [] = List.replicate N [AV.B false]:=by
 unfold zdH
 simp [List.map_const']
theorem zre {N k : Nat} (hk : k < N) (s : List Int) : (zdH N s)[k]? = some [AV.B (decide ((k : Int) ∈ s))]:=by simp [zdH,hk]
@[simp] theorem zvc {N k : Nat} {s : List Int} (h : k < (zdH N s).length) : (zdH N s)[k] = [AV.B (decide ((k : Int) ∈ s))]:=by simp [zdH]
theorem zrn {N k : Nat} (s : List Int) : (zdH N s).set k [AV.B true] = zdH N (s ++ [(k : Int)]):=by
 apply List.ext_getElem?
 intro i
 rw [List.getElem?_set]
 by_cases h : k = i
 ·subst h
  rw [if_pos rfl]
  by_cases hk : k < N
  ·rw [if_pos (by rw [zfz]; exact hk),zre hk]
   simp
  ·rw [if_neg (by rw [zfz]; exact hk)]
   simp [zdH,hk]
 ·rw [if_neg h]
  unfold zdH
  simp only [List.getElem?_map]
  by_cases hi : i < N
  ·simp [hi,show ¬ ((i : Int) = k) by omega]
  ·simp [hi]
@[simp] theorem zuh {ρ : List (Nat × Nat)} {sn : List Nat} {h : Nat → Option Ent} {N : Nat} {s : List Int} : (zdH N s).map (·.map (conv ρ sn h 4)) = zdH N s:=by
 unfold zdH
 rw [List.map_map]
 rfl
set_option maxRecDepth 100000 in
open Classical in
theorem ziB (n : Net) (side : List Int) (hl : n.arcs.length ≤ 1099511627776) (hs : side.length ≤ 9223372036854775807) : zai Tryz.prog zeL [eN n,ints side] [] (.I (if zch n side then cutV n.arcs side else 0)) []:=by
 refine zlL.acalls (nbz rfl) (nbz rfl) (Nat.le_refl _) ?_
 show awp _ 0 _ _ ⟨54,[(0,eN n),(1,ints side)],[],16⟩
 refine rx (s:=?s1) [1,2] [] [16] rfl ?o1 ?q1
 case o1=>simp; rfl
 refine zaa ?_
 refine rx (s:=?s2) [1,2,14] [] [] rfl ?o2 ?q2
 case o2=>simp; refine zak (zhu n side hl hs) (by simp) ?_; simp; rfl
 refine zac _ rfl (fun h3=>?_) fun h3=>?_
 ·simp at h3
  refine rx (s:=?s4) [4] [] [] rfl ?o4 ?q4
  case o4=>simp; rfl
  refine zah ?_
  exact ⟨.inr rfl,zam.one (by simp [h3])⟩
 simp at h3
 have hb1:=h3.1.2.2.1
 have hn2:=h3.1.1
 have hn3:=h3.1.2.1
 obtain ⟨N,hN,hN3⟩ : ∃ N : Nat,n.nodes = N ∧ N ≤ 130:=⟨n.nodes.toNat,by omega,by omega⟩
 have hside : ∀ k ∈ side,∃ j : Nat,k = j ∧ j < N:=fun k hk=>by
  obtain ⟨i,hi,rfl⟩:=List.getElem_of_mem hk
  have:=(h3.2.1 i hi)
  exact ⟨side[i].toNat,by omega,by omega⟩
 refine zad ?_
 refine zab ⟨54,[(1,ints side),(2,.pv (nC n)),(5,.rs 80 0 N)],[(80,some ⟨1,zdH N [],0⟩)],96⟩ rfl ?_ ?_
 ·rw [zrV]
  simp [hN]
  refine ⟨by omega,?_⟩
  exact Le.keep rfl (Nat.le_refl _) (by simp [hN]) (by simp [hN])
 refine zaa ?_
 refine rk (s:=?s5) [1,2,5,18,19,20] [80] rfl ?o5 ?q5
 case o5=>simp; rfl
 refine zaf ?_
 refine zap (ι:=Nat) (fun i=>⟨54,[(1,ints side),(2,.pv (nC n)),(5,.rs 80 0 N),(18,ints side),(19,.I side.length),(20,.I i)],[(80,some ⟨1,zdH N (side.take i),0⟩)],120⟩) (fun i=>i ≤ side.length) (fun i=>side.length - i) 0 (by simp) (Le.keep rfl (Nat.le_refl _) (by simp) (by simp)) ?_
 intro i hi
 refine rk (s:=?s6) [1,2,5,18,19,20,21] [80] rfl ?o6 ?q6
 case o6=>simp; rfl
 refine zaa ?_
 refine zac _ rfl (fun h7=>?_) fun h7=>?_
 ·simp at h7
  have hw : IntKind.i64.wrap ((i : Int) + 1) = (i : Int) + 1:=w64 (by omega) (by omega)
  obtain ⟨j,hj,hjN⟩:=hside _ (List.getElem_mem h7)
  have hset : (zdH N (side.take i)).set j [AV.sc (.bool true)] = zdH N (side.take (i + 1)):=by
   rw [List.take_succ_eq_append_getElem h7,hj]
   exact zrn _
  refine zad ?_
  refine zaa ?_
  refine zaf ?_
  refine rk (s:=?s8) [1,2,5,7,18,19,20] [80] rfl ?o8 ?q8
  case o8=>simp [h7,hj]; rfl
  refine zae (s:=?s9) rfl ?o9 ?q9
  case o9=>simp [hjN,zfz,hset]; rfl
  refine zae (s:=?s10) rfl ?o10 ?q10
  case o10=>simp [hw]; rfl
  exact ⟨i + 1,by omega,by omega,LeH [(80,80)] []⟩
 simp at h7
 obtain rfl : i = side.length:=by omega
 rw [List.take_of_length_le (Nat.le_refl _)]
 refine zan ?_
 refine hit ?_
 refine rk (s:=?s11) [1,2,5,8] [80] rfl ?o11 ?q11
 case o11=>simp; rfl
 refine zaa ?_
 refine rk (s:=?s12) [5,8,29,30,31] [80] rfl ?o12 ?q12
 case o12=>simp; rfl
 refine zaf ?_
 refine zap (ι:=Nat) (fun i=>⟨54,[(5,.rs 80 0 N),(8,.I (cutV (n.arcs.take i) side)),(29,eEs n.arcs),(30,.I n.arcs.length),(31,.I i)],[(80,some ⟨1,zdH N side,0⟩)],168⟩) (fun i=>i ≤ n.arcs.length) (fun i=>n.arcs.length - i) 0 (by simp) (Le.go [(80,80)] [] rfl rfl (by simp [cutV]) (by simp)) ?_
 intro i hi
 have hcb:=zhO (n:=n.nodes) (side:=side) (arcs:=n.arcs.take i) fun a ha=>h3.1.2.2.2 a (List.mem_of_mem_take ha)
 have htl:=List.length_take_le' i n.arcs
 refine rk (s:=?s13) [5,8,29,30,31,32] [80] rfl ?o13 ?q13
 case o13=>simp; rfl
 refine zaa ?_
 refine zac _ rfl (fun h7=>?_) fun h7=>?_
 ·simp at h7
  have hw : IntKind.i64.wrap ((i : Int) + 1) = (i : Int) + 1:=w64 (by omega) (by omega)
  have hcs:=zng n.arcs side i h7
  have hav:=h3.1.2.2.2 _ (List.getElem_mem h7)
  have hwv : IntKind.i64.wrap (cutV (n.arcs.take i) side + n.arcs[i].v) = cutV (n.arcs.take i) side + n.arcs[i].v:=w64 (by have:=hav.2.2.2.2.2.2.2.1; omega) (by have:=hav.2.2.2.2.2.2.2.2; omega)
  obtain ⟨x,hx⟩ : ∃ x,x = n.arcs[i]:=⟨_,rfl⟩
  rw [← hx] at hcs hav hwv
  obtain ⟨f,hf,hfN⟩ : ∃ f : Nat,x.f = f ∧ f < N:=⟨x.f.toNat,by have:=hav.1; omega,by have:=hav.1; have:=hav.2.1; omega⟩
  obtain ⟨u,hu,huN⟩ : ∃ u : Nat,x.t = u ∧ u < N:=⟨x.t.toNat,by have:=hav.2.2.1; omega,by have:=hav.2.2.1; have:=hav.2.2.2.1; omega⟩
  refine zad ?_
  refine zaI (ι:=Unit) (fun _=>⟨54,[(5,.rs 80 0 N),(8,.I (cutV (n.arcs.take (i + 1)) side)),(29,eEs n.arcs),(30,.I n.arcs.length),(31,.I i)],[(80,some ⟨1,zdH N side,0⟩)],400⟩) (fun _=>True) ?_ fun _ _=>?_
  ·refine zaf ?_
   refine zab ⟨54,[(5,.rs 80 0 N),(8,.I (cutV (n.arcs.take i) side)),(10,.pv (eC x)),(29,eEs n.arcs),(30,.I n.arcs.length),(31,.I i)],[(80,some ⟨1,zdH N side,0⟩)],208⟩ rfl ?_ ?_
   ·simp [h7,← hx]
    exact LeH [(80,80)] [192]
   refine zab ⟨54,[(5,.rs 80 0 N),(8,.I (cutV (n.arcs.take i) side)),(10,.pv (eC x)),(29,eEs n.arcs),(30,.I n.arcs.length),(31,.I i),(47,.B (decide ((f : Int) ∈ side ∧ (u : Int) ∉ side)))],[(80,some ⟨1,zdH N side,0⟩)],312⟩ rfl ?_ ?_
   ·simp [hf,hu,hfN,huN,zfz]
    refine zbU (fun hb=>?_) (fun hb=>?_) <;> (try rw [hb]) <;> (try simp at hb) <;> simp [hb,hu,huN,zfz]
    ·exact Le.go [(80,80)] [] rfl rfl (by simp [hb]) (by simp)
    ·exact Le.go [(80,80)] [] rfl rfl (by simp [hb]) (by simp)
   rw [← hf,← hu]
   refine zac _ rfl (fun h8=>?_) fun h8=>?_
   ·rw [decide_eq_true_eq] at h8
    rw [if_pos h8] at hcs
    refine zae (s:=?s14) rfl ?o14 ?q14
    case o14=>simp; rfl
    exact ⟨(),trivial,Le.go [(80,80)] [] rfl rfl (by simp [hcs,hwv]) (by simp)⟩
   ·rw [decide_eq_false_iff_not] at h8
    rw [if_neg h8] at hcs
    refine zad ?_
    exact ⟨(),trivial,Le.go [(80,80)] [] rfl rfl (by simp [hcs]) (by simp)⟩
  refine zae (s:=?s15) rfl ?o15 ?q15
  case o15=>simp; rfl
  exact ⟨i + 1,by omega,by omega,Le.go [(80,80)] [] rfl rfl (by simp [hw]) (by simp)⟩
 simp at h7
 obtain rfl : i = n.arcs.length:=by omega
 refine zan ?_
 refine hit ?_
 refine rk (s:=?s16) [4] [] rfl ?o16 ?q16
 case o16=>simp; rfl
 refine zah ?_
 exact ⟨.inr rfl,zam.one (by simp [h3])⟩
open Classical in
theorem zkv (n : Net) (side : List Int) (most : Int) (hl : n.arcs.length ≤ 1099511627776) (hs : side.length ≤ 9223372036854775807) : zai Tryz.prog zgv [eN n,ints side,.I most] [] (.B (decide (zcL n side most))) []:=by
 refine zoA.acalls (nbz rfl) (nbz rfl) (Nat.le_refl _) ?_
 show awp _ 0 _ _ ⟨17,[(0,eN n),(1,ints side),(2,.I most)],[],16⟩
 refine rx (s:=?s1) [1,2,3] [] [16] rfl ?o1 ?q1
 case o1=>simp; rfl
 refine zab ⟨17,[(6,.B (decide (zcL n side most)))],[],300⟩ rfl ?_ ?_
 ·have hc:=ziB n side hl hs
  simp
  refine zak (zhu n side hl hs) (by simp) ?_
  simp
  by_cases hv : zch n side
  ·rw [if_pos hv] at hc
   simp [hv]
   refine zak hc (by simp) ?_
   simp
   exact Le.snap [] rfl rfl (by simp [zcL,hv])
  ·simp [hv]
   exact Le.snap [] rfl rfl (by simp [zcL,hv])
 refine zah ?_
 exact ⟨.inr rfl,zam.one (by simp)⟩
section
variable {P : Program} {np id : Nat} {h : Nat → Option Ent} {K : AV → List Nat → List (Nat × Option Ent) → Prop} {f : FuncId} {first capt args args' : List AV} {res : AV}
theorem zln {i j : Nat} {e1 e2 e1' e2' : Ent} {hs' : List (Option Ent)} (hij : i ≠ j) (h1 : h i = some e1) (h2 : h j = some e2) (he1 : zaz [(i,0),(j,1)] [] h 4 e1 = e1') (he2 : zaz [(i,0),(j,1)] [] h 4 e2 = e2')
  (hc : zai P f args' [e1',e2'] res hs') (h8 : hs'.length ≤ 10) (he : (first ++ args ++ capt).map (conv [(i,0),(j,1)] [] h 4) = args')
  (hk : K (conv (swp [i,j] id) [] (fun _=>none) 4 res) [i,j] (hs'.zipIdx.map fun (e,k)=>((i :: j :: (List.range 8).map (id + ·)).getD k 0,e.map (zaz (swp [i,j] id) [] (fun _=>none) 4)))) : aK P np id .call (.fn (.func f) first capt :: args) h K :=
 ⟨[i,j],[],true,args',[e1',e2'],res,hs',by simp [hij],by simp,by simp,by rw [show [i,j].zipIdx = [(i,0),(j,1)] from rfl,he]; exact zbK _,by
  rw [show [i,j].zipIdx = [(i,0),(j,1)] from rfl]
  simp only [List.map_cons,List.map_nil,h1,h2,Option.map_some,he1,he2],hc,by simpa using h8,.inl rfl,by simpa [swp] using hk⟩
end
theorem zbQ (k : Int) (h : 0 ≤ k) (h2 : k ≤ 1000000) : zai Tryz.prog zbF [.I k] [] (.I (2 + 2 * k)) []:=by
 refine znd.acalls (nbz rfl) (nbz rfl) (Nat.le_refl _) ?_
 show awp _ 0 _ _ ⟨6,[(0,.I k)],[],16⟩
 have hw1 : IntKind.i64.wrap (2 * k) = 2 * k:=w64 (by omega) (by omega)
 have hw2 : IntKind.i64.wrap (2 + 2 * k) = 2 + 2 * k:=w64 (by omega) (by omega)
 refine rx (s:=?s1) [0] [] [] rfl ?o1 ?q1
 case o1=>simp; rfl
 refine rx (s:=?s2) [2] [] [] rfl ?o2 ?q2
 case o2=>simp [hw1,hw2]; rfl
 refine zah ?_
 exact ⟨.inr rfl,zam.one (by simp)⟩
theorem zhi (k : Int) (h : 0 ≤ k) (h2 : k ≤ 1000000) : zai Tryz.prog zfb [.I k] [] (.I (3 + 2 * k)) []:=by
 refine zo8.acalls (nbz rfl) (nbz rfl) (Nat.le_refl _) ?_
 show awp _ 0 _ _ ⟨_,[(0,.I k)],[],16⟩
 have hw2 : IntKind.i64.wrap (2 + 2 * k + 1) = 3 + 2 * k:=by rw [w64 (by omega) (by omega)]; omega
 refine rx (s:=?s1) [0] [] [] rfl ?o1 ?q1
 case o1=>simp; rfl
 refine rx (s:=?s2) [2] [] [] rfl ?o2 ?q2
 case o2=>simp; refine zak (zbQ k h h2) (by simp) ?_; simp [hw2]; rfl
 refine zah ?_
 exact ⟨.inr rfl,zam.one (by simp)⟩
theorem zde (k : Int) (h : 0 ≤ k) (h2 : k ≤ 1000000) : zai Tryz.prog zcv [.I k] [] (.I (2 + 2 * k)) []:=by
 refine znH.acalls (nbz rfl) (nbz rfl) (Nat.le_refl _) ?_
 show awp _ 0 _ _ ⟨_,[(0,.I k)],[],16⟩
 have hw1 : IntKind.i64.wrap (2 * k) = 2 * k:=w64 (by omega) (by omega)
 have hw2 : IntKind.i64.wrap (2 + 2 * k) = 2 + 2 * k:=w64 (by omega) (by omega)
 refine rx (s:=?s1) [0] [] [] rfl ?o1 ?q1
 case o1=>simp; rfl
 refine rx (s:=?s2) [2] [] [] rfl ?o2 ?q2
 case o2=>simp [hw1,hw2]; rfl
 refine zah ?_
 exact ⟨.inr rfl,zam.one (by simp)⟩
theorem zhD (k : Int) (h : 0 ≤ k) (h2 : k ≤ 1000000) : zai Tryz.prog zeW [.I k] [] (.I (3 + 2 * k)) []:=by
 refine zoR.acalls (nbz rfl) (nbz rfl) (Nat.le_refl _) ?_
 show awp _ 0 _ _ ⟨_,[(0,.I k)],[],16⟩
 have hw1 : IntKind.i64.wrap (2 * k) = 2 * k:=w64 (by omega) (by omega)
 have hw2 : IntKind.i64.wrap (3 + 2 * k) = 3 + 2 * k:=w64 (by omega) (by omega)
 refine rx (s:=?s1) [0] [] [] rfl ?o1 ?q1
 case o1=>simp; rfl
 refine rx (s:=?s2) [2] [] [] rfl ?o2 ?q2
 case o2=>simp [hw1,hw2]; rfl
 refine zah ?_
 exact ⟨.inr rfl,zam.one (by simp)⟩
abbrev outV (N : Int) (B n : Nat) : Ent:=⟨2,[[.I N,.rs B 0 n]],0⟩
theorem zp1 (N f t v : Int) (L : List Ed) (n : Nat) (hL : L.length = n) (hn : n ≤ 1000000) : zai Tryz.prog zaH [.I f,.I t,.I v,.pt 0 0 0] [outV N 1 n,⟨3,zaY L,0⟩] (.tup []) [some (outV N 2 (n + 1)),none,some ⟨3,zaY (L ++ [⟨f,t,v⟩]),0⟩]:=by
 refine zie.acalls (nbz rfl) (nbz rfl) (nbz rfl) ?_
 show awp _ 2 _ _ ⟨16,[(0,.I f),(1,.I t),(2,.I v),(3,.pt 0 0 0)],[(0,some (outV N 1 n)),(1,some ⟨3,zaY L,0⟩)],16⟩
 have htl : ∀ f : Ed → List AV,List.take n (List.map f L) = List.map f L:=fun f=>List.take_of_length_le (by simp [hL])
 refine zae (s:=?s1) rfl ?o1 ?q1
 case o1=>simp [hL,htl]; refine ⟨by omega,by omega,?_⟩; rfl
 refine ⟨.inl rfl,⟨[],rfl,[72],[],by simp [List.range,List.range.loop],by simp,by simp,by simp,?_⟩⟩
 simp [List.range,List.range.loop]
end Go.Proofs.YteiabadhhhckfaaGreat
