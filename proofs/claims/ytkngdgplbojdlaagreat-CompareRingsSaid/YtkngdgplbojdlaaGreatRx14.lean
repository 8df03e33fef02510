/- Texts of this claim,merged. -/
import Derived.Test.YtkngdgplbojdlaaGreatRx12
import Derived.Test.YtkngdgplbojdlaaGreatRx13
import Derived.Test.YtkngdgplbojdlaaGreatRx10
set_option linter.unusedSimpArgs false
set_option linter.unusedVariables false
set_option linter.unusedSectionVars false
namespace Go.Proofs.YtkngdgplbojdlaaGreat
open Go
section
variable {P : Program} {np id : Nat} {h : Nat->Option Ent} {K : AV->List Nat->List (Nat × Option Ent)->Prop}
theorem zyJ {s i off len : Nat} (l : Nat) {e : Ent} (he : h i=some e) (hs : e.s=s) (hl : l<=len) (hK : K (.rs i (off+l) (len - l)) [i] []) : aK P np id (.slc s true false false) [.rs i off len,.sc (.int .i64 l)] h K:=by
 rw [zmd];exact ⟨l,len,0,len,rfl,hl,rfl,by simp,by simp,by simp,Nat.le_refl _,rfl,⟨e,he,hs⟩,hK⟩
end
structure BSt where
 D : List Int
 b : List Int
 Z : List Int
 off : Nat
 q : Nat
structure BInv (N : Nat) (A : List Ed) (f : List Int) (s : BSt) (m : Nat) : Prop where
 bfs : Bfs N A f s.D s.b
 z : s.off+s.q=s.Z.length
 d : m+s.q=s.D.length
 same : s.Z.drop s.off=s.D.drop m
section
variable {N : Nat} {A : List Ed} {f : List Int}
theorem zxh {i : Nat} {k : Int} {D b : List Int} (hi : i<A.length) (hf : i<f.length) : tryS A f k (i,false) (D,b)=if A[i].f=k/\f[i]<A[i].v/\A[i].t∉D then (D++[A[i].t],b.set A[i].t.toNat ((i : Int)+1)) else (D,b):=by
 have he : arcD A i=A[i]:=by unfold arcD; rw [List.getD_eq_getElem?_getD,List.getElem?_eq_getElem hi,Option.getD_some]
 have hg : f.getD i 0=f[i]:=by rw [List.getD_eq_getElem?_getD,List.getElem?_eq_getElem hf,Option.getD_some]
 unfold tryS stF stT zca encS;simp only [Bool.false_eq_true,if_false,he,hg,Int.sub_pos]
theorem zwJ {i : Nat} {k : Int} {D b : List Int} (hi : i<A.length) (hf : i<f.length) : tryS A f k (i,true) (D,b)=if A[i].t=k/\0<f[i]/\A[i].f∉D then (D++[A[i].f],b.set A[i].f.toNat (-((i : Int)+1))) else (D,b):=by
 have he : arcD A i=A[i]:=by unfold arcD; rw [List.getD_eq_getElem?_getD,List.getElem?_eq_getElem hi,Option.getD_some]
 have hg : f.getD i 0=f[i]:=by rw [List.getD_eq_getElem?_getD,List.getElem?_eq_getElem hf,Option.getD_some]
 unfold tryS stF stT zca encS;simp only [if_true,he,hg]
theorem BInv.more {s : BSt} {m : Nat} (h : BInv N A f s m) {x : Int} {b' : List Int} (hb : Bfs N A f (s.D++[x]) b') : BInv N A f ⟨s.D++[x],b',s.Z.drop s.off++[x],0,s.q+1⟩ m:=by
 have h1:=h.z;have h2:=h.d;refine ⟨hb,?_,?_,?_⟩
 .simp only [List.length_append,List.length_drop,List.length_singleton]; omega
 .simp only [List.length_append,List.length_singleton]; omega
 .simp only [List.drop_zero]
  rw [h.same,List.drop_append_of_le_length (by omega)]
theorem BInv.pop {s : BSt} {m : Nat} (h : BInv N A f s m) (hq : 0<s.q) : BInv N A f { s with off:=s.off+1,q:=s.q - 1 } (m+1):=by
 have h1:=h.z;have h2:=h.d;refine ⟨h.bfs,by simp only; omega,by simp only; omega,?_⟩
 simp only;rw [<- List.drop_drop,h.same,List.drop_drop]
theorem BInv.head {s : BSt} {m : Nat} (h : BInv N A f s m) (hq : 0<s.q) : ∃ hm : m<s.D.length,s.Z[s.off]? = some s.D[m]:=by
 have h1:=h.z;have h2:=h.d;refine ⟨by omega,?_⟩
 have e : (s.Z.drop s.off)[0]? = (s.D.drop m)[0]?:=by rw [h.same]
 rw [List.getElem?_drop,List.getElem?_drop,Nat.add_zero,Nat.add_zero] at e;rw [e,List.getElem?_eq_getElem (by omega)]
end
set_option maxRecDepth 100000 in
set_option maxHeartbeats 4000000 in
theorem zog (N : Nat) (A : List Ed) (f : List Int) (hn : zbX ⟨N,A⟩) (hf : f.length=A.length) :
  ∃ x : List Int × List Int,(Bfs N A f x.1 x.2/\zgA A f x.1)/\zaj Tryz.prog zep [eN ⟨N,A⟩,ints f] [] (.rs 0 0 N) [some ⟨1,zag x.2,0⟩]:=by
 refine zm7.acallsX (args:=[eN ⟨N,A⟩,ints f]) (hs:=[]) (λ x=>.rs 0 0 N) (λ x=>[some ⟨1,zag x.2,0⟩]) (λ x : List Int × List Int=>Bfs N A f x.1 x.2/\zgA A f x.1) (nbz rfl) (nbz rfl) (λ _=>by simp) ?_
 show awp _ 0 _ _ ⟨112,[(0,eN ⟨N,A⟩),(1,ints f)],[],16⟩;obtain ⟨hn0,hn1,hal,hav⟩:=hn;simp only at hn0 hn1 hal hav;refine rs [1,2] [] [16] ?_;refine zaa ⟨112,[(1,ints f),(2,.pv (nC ⟨N,A⟩)),(5,.rs 48 0 N)],[(48,some ⟨1,zag (List.replicate N 0),0⟩)],56⟩ rfl ?_ ?_
 .simp
  refine ⟨by omega,by omega,?_⟩
  exact LeH [(48,48)] []
 refine zaa ⟨112,[(1,ints f),(2,.pv (nC ⟨N,A⟩)),(5,.rs 48 0 N),(6,.rs 80 0 N)],[(48,some ⟨1,zag (List.replicate N 0),0⟩),(80,some ⟨1,zkX (List.replicate N false),0⟩)],88⟩ rfl ?_ ?_
 .simp
  refine ⟨by omega,?_⟩
  exact LeH [(48,48),(72,80)] []
 have hmf:=zqG (N:=N) (by omega)
 refine zaa ⟨112,[(1,ints f),(2,.pv (nC ⟨N,A⟩)),(5,.rs 48 0 N),(6,.rs 80 0 N)],[(48,some ⟨1,zag (List.replicate N 0),0⟩),(80,some ⟨1,zkX (zc4 N [0]),0⟩)],112⟩ rfl ?_ ?_
 .have h0 : 0<N:=by omega
  simp [h0,zat];exact Le.go [(48,48),(80,80)] [] rfl rfl (by simp) (by simp [<- hmf])
 refine zaa ⟨112,[(1,ints f),(2,.pv (nC ⟨N,A⟩)),(5,.rs 48 0 N),(6,.rs 80 0 N),(7,.rs 120 0 1)],[(48,some ⟨1,zag (List.replicate N 0),0⟩),(80,some ⟨1,zkX (zc4 N [0]),0⟩),(120,some ⟨1,zag [0],0⟩)],136⟩ rfl ?_ ?_
 .simp
  exact LeH [(48,48),(80,80),(112,120)] []
 refine zab ?_;refine zaf ?_
 refine zas (ι:=BSt × Nat) (λ s=>⟨112,[(1,ints f),(2,.pv (nC ⟨N,A⟩)),(5,.rs 48 0 N),(6,.rs 80 0 N),(7,.rs 120 s.1.off s.1.q)],[(48,some ⟨1,zag s.1.b,0⟩),(80,some ⟨1,zkX (zc4 N s.1.D),0⟩),(120,some ⟨1,zag s.1.Z,0⟩)],136⟩)
  (λ s=>BInv N A f s.1 s.2/\zhd A f s.1.D s.2) (λ s=>N - s.2) (⟨[0],List.replicate N 0,[0],0,1⟩,0)
  ⟨⟨Bfs.start (by omega),rfl,rfl,rfl⟩,λ s _ h=>by simp at h⟩ (LeH [(48,48),(80,80),(120,120)] []) ?_
 rintro ⟨s,m⟩ ⟨hb,hcl⟩
 simp only at hb hcl;have hfew:=hb.bfs.few;have hbd:=hb.d;have hbz:=hb.z;refine zab ?_;refine rk (s:=?s6) [1,2,5,6,7,22] [48,80,120] rfl ?o6 ?q6
 case o6=>simp; rfl
 refine zad _ rfl (λ h7=>?_) λ h7=>?_
 .simp at h7
  obtain ⟨hmD,hk⟩:=hb.head h7;have hoff : s.off<s.Z.length:=by omega
  obtain ⟨k,hkd⟩ : ∃ k,k=s.D[m]:=⟨_,rfl⟩;rw [<- hkd] at hk;have hkD : k∈s.D:=hkd ▸ List.getElem_mem hmD;refine zae ?_;refine zaf ?_;refine rk (s:=?s8) [1,2,5,6,7,8] [48,80,120] rfl ?o8 ?q8
  case o8=>simp [hk,h7]; rfl
  refine zaa ⟨112,[(1,ints f),(2,.pv (nC ⟨N,A⟩)),(5,.rs 48 0 N),(6,.rs 80 0 N),(7,.rs 120 (s.off+1) (s.q - 1)),(8,.I k)],[(48,some ⟨1,zag s.b,0⟩),(80,some ⟨1,zkX (zc4 N s.D),0⟩),(120,some ⟨1,zag s.Z,0⟩)],300⟩ rfl ?_ ?_
  .simp
   refine zyJ 1 (i:=120) rfl rfl h7 ?_;simp;exact LeH [(48,48),(80,80),(120,120)] []
  have hpop:=hb.pop h7;refine rk (s:=?s10) [1,2,5,6,7,8,9] [48,80,120] rfl ?o10 ?q10
  case o10=>simp; rfl
  refine zaf ?_
  refine zas (ι:=BSt × Nat) (λ s=>⟨112,[(1,ints f),(2,.pv (nC ⟨N,A⟩)),(5,.rs 48 0 N),(6,.rs 80 0 N),(7,.rs 120 s.1.off s.1.q),(8,.I k),(9,.I s.2)],[(48,some ⟨1,zag s.1.b,0⟩),(80,some ⟨1,zkX (zc4 N s.1.D),0⟩),(120,some ⟨1,zag s.1.Z,0⟩)],400⟩)
   (λ t=>BInv N A f t.1 (m+1)/\t.2<=A.length/\zhw A f t.1.D k t.2 /\ ∃ l,t.1.D=s.D++l) (λ t=>A.length - t.2) ({ s with off:=s.off+1,q:=s.q - 1 },0)
   ⟨hpop,Nat.zero_le _,λ s h=>by omega,[],by simp⟩ (LeH [(48,48),(80,80),(120,120)] []) ?_
  rintro ⟨t,i⟩ ⟨ht,hi,htc,l,htl⟩
  simp only at ht hi htc htl;refine zab ?_;refine rk (s:=?s11) [1,2,5,6,7,8,9,32] [48,80,120] rfl ?o11 ?q11
  case o11=>simp; rfl
  refine zad _ rfl (λ h12=>?_) λ h12=>?_
  .simp at h12
   have hif : i<f.length:=by omega
   have hw : IntKind.i64.wrap ((i : Int)+1)=(i : Int)+1:=w6;have hw2 : IntKind.i64.wrap (-((i : Int)+1)) = -((i : Int)+1):=w6;obtain ⟨e,he⟩ : ∃ e,e=A[i]:=⟨_,rfl⟩;obtain ⟨v,hv⟩ : ∃ v,v=f[i]:=⟨_,rfl⟩;have hfwd:=λ (D b : List Int)=>zxh (k:=k) (D:=D) (b:=b) h12 hif;have hbwd:=λ (D b : List Int)=>zwJ (k:=k) (D:=D) (b:=b) h12 hif;rw [<- he,<- hv] at hfwd hbwd;have heo:=hav _ (List.getElem_mem h12);rw [<- he] at heo;obtain ⟨e1,e2,e3,e4,_⟩:=heo;have hg1 : A[i]? = some e:=by rw [List.getElem?_eq_getElem h12,he]
   have hg2 : f[i]? = some v:=by rw [List.getElem?_eq_getElem hif,hv]
   have hkt : k∈t.D:=by rw [htl]; exact List.mem_append_left _ hkD
   refine zae ?_
   refine zaO (ι:=BSt) (λ u=>⟨112,[(1,ints f),(2,.pv (nC ⟨N,A⟩)),(5,.rs 48 0 N),(6,.rs 80 0 N),(7,.rs 120 u.off u.q),(8,.I k),(9,.I i)],[(48,some ⟨1,zag u.b,0⟩),(80,some ⟨1,zkX (zc4 N u.D),0⟩),(120,some ⟨1,zag u.Z,0⟩)],2000⟩)
    (λ u=>BInv N A f u (m+1)/\zhw A f u.D k (i+1) /\ ∃ l,u.D=t.D++l) ?_ λ u hu=>?_
   .refine zaf ?_
    refine zaa ⟨112,[(1,ints f),(2,.pv (nC ⟨N,A⟩)),(5,.rs 48 0 N),(6,.rs 80 0 N),(7,.rs 120 t.off t.q),(8,.I k),(9,.I i),(10,.pv (eC e))],[(48,some ⟨1,zag t.b,0⟩),(80,some ⟨1,zkX (zc4 N t.D),0⟩),(120,some ⟨1,zag t.Z,0⟩)],600⟩ rfl ?_ ?_
    .simp [h12,<- he]
     exact LeH [(48,48),(80,80),(120,120)] [480]
    refine zaO (ι:=BSt) (λ u=>⟨112,[(1,ints f),(2,.pv (nC ⟨N,A⟩)),(5,.rs 48 0 N),(6,.rs 80 0 N),(7,.rs 120 u.off u.q),(8,.I k),(9,.I i),(10,.pv (eC e))],[(48,some ⟨1,zag u.b,0⟩),(80,some ⟨1,zkX (zc4 N u.D),0⟩),(120,some ⟨1,zag u.Z,0⟩)],1000⟩)
     (λ u=>BInv N A f u (m+1)/\(u.D,u.b)=tryS A f k (i,false) (t.D,t.b)) ?_ λ u hu=>?_
    .have hmk : (zc4 N t.D)[e.t.toNat]? = some (decide (e.t∈t.D)):=ziR e3 (by omega)
     have hlt : e.t.toNat<N:=by omega
     have hlt2 : e.t<(N : Int):=by omega
     refine zaC ⟨112,[(1,ints f),(2,.pv (nC ⟨N,A⟩)),(5,.rs 48 0 N),(6,.rs 80 0 N),(7,.rs 120 t.off t.q),(8,.I k),(9,.I i),(10,.pv (eC e)),(60,.B (decide (e.f=k/\v<e.v/\e.t∉t.D)))],[(48,some ⟨1,zag t.b,0⟩),(80,some ⟨1,zkX (zc4 N t.D),0⟩),(120,some ⟨1,zag t.Z,0⟩)],800⟩ rfl ?_ ?_
     .by_cases hm : e.t∈t.D
      .rw [decide_eq_true hm] at hmk
       simp
       repeat' first
        | (refine zem (λ hb=>?_) (λ hb=>?_) <;> (try rw [hb]) <;> (try simp at hb) <;> simp [hb,hmk,hg2,e3,hlt2,hif,<- hv])
       all_goals exact ⟨rfl,Le.go [(48,48),(80,80),(120,120)] [] rfl rfl (by simp [hb,hm]) (by simp)⟩
      .rw [decide_eq_false hm] at hmk
       simp
       repeat' first
        | (refine zem (λ hb=>?_) (λ hb=>?_) <;> (try rw [hb]) <;> (try simp at hb) <;> simp [hb,hmk,hg2,e3,hlt2,hif,<- hv])
       all_goals exact ⟨rfl,Le.go [(48,48),(80,80),(120,120)] [] rfl rfl (by simp [hm]) (by simp)⟩
     refine zad _ rfl (λ h15=>?_) λ h15=>?_
     .rw [decide_eq_true_eq] at h15
      have hs1:=hfwd t.D t.b;rw [if_pos h15] at hs1;have hbk : ∃ y,t.b[e.t.toNat]? = some y:=⟨_,List.getElem?_eq_getElem (by rw [ht.bfs.len]; omega)⟩
      obtain ⟨y,hy⟩:=hbk;have hbl : e.t.toNat<t.b.length:=by rw [ht.bfs.len]; omega
      have hbt : ∀ g : Int->List AV,List.take t.q (List.drop t.off (List.map g t.Z))=List.map g (t.Z.drop t.off):=λ g=>by rw [<- List.map_drop,List.take_of_length_le (by have:=ht.z; simp; omega)]
      have htz:=ht.z;have htd:=ht.d;have hms:=zkE (D:=t.D) e3 hlt2
      have hbu : Bfs N A f (t.D++[e.t]) (t.b.set e.t.toNat ((i : Int)+1)):=by
       have h3:=zvH (A:=A) (f:=f) (k:=k) (s:=(i,false)) (st:=(t.D,t.b)) ht.bfs hkt h12 (by unfold stT arcD; rw [List.getD_eq_getElem?_getD,hg1]; exact e3) (by unfold stT arcD; rw [List.getD_eq_getElem?_getD,hg1]; exact hlt2)
       rw [hs1] at h3;exact h3
      have hfw:=hbu.few;rw [List.length_append,List.length_singleton] at hfw;refine zaC ⟨112,[(1,ints f),(2,.pv (nC ⟨N,A⟩)),(5,.rs 48 0 N),(6,.rs 80 0 N),(7,.rs 120 t.off t.q),(8,.I k),(9,.I i),(10,.pv (eC e))],[(48,some ⟨1,zag (t.b.set e.t.toNat ((i : Int)+1)),0⟩),(80,some ⟨1,zkX (zc4 N (t.D++[e.t])),0⟩),(120,some ⟨1,zag t.Z,0⟩)],900⟩ rfl ?_ ?_
      .simp [hmk,e3,hlt2,hw,hy,zat]
       exact ⟨rfl,Le.go [(48,48),(80,80),(120,120)] [] rfl rfl (by simp) (by simp [<- hms,fcd])⟩
      refine zav rfl ?_;simp [hbt];exact ⟨by omega,by omega,by omega,⟨t.D++[e.t],t.b.set e.t.toNat ((i : Int)+1),t.Z.drop t.off++[e.t],0,t.q+1⟩,⟨ht.more hbu,hs1.symm⟩,LeI [(48,48),(80,80),(932,120)] []⟩
     .rw [decide_eq_false_iff_not] at h15
      have hs1:=hfwd t.D t.b;rw [if_neg h15] at hs1;refine zae ?_;exact ⟨t,⟨ht,hs1.symm⟩,LeH [(48,48),(80,80),(120,120)] []⟩
    obtain ⟨hu1,hu2⟩:=hu
    have hku : k∈u.D:=by
     obtain ⟨l1,e1⟩:=zlW (A:=A) (f:=f) (k:=k) (s:=(i,false)) (st:=(t.D,t.b));rw [<- hu2] at e1;simp only at e1;rw [e1];exact List.mem_append_left _ hkt
    have hul : ∃ l,u.D=t.D++l:=by
     obtain ⟨l1,e1⟩:=zlW (A:=A) (f:=f) (k:=k) (s:=(i,false)) (st:=(t.D,t.b));rw [<- hu2] at e1;exact ⟨l1,e1⟩
    have hcl2 : zhw A f (tryS A f k (i,true) (u.D,u.b)).1 k (i+1):=by
     rw [hu2];exact zhw.try2 (st:=(t.D,t.b)) htc
    have hmk : (zc4 N u.D)[e.f.toNat]? = some (decide (e.f∈u.D)):=ziR e1 (by omega)
    have hlt : e.f.toNat<N:=by omega
    have hlt2 : e.f<(N : Int):=by omega
    have hub:=hbwd u.D u.b;refine zaa ⟨112,[(1,ints f),(2,.pv (nC ⟨N,A⟩)),(5,.rs 48 0 N),(6,.rs 80 0 N),(7,.rs 120 u.off u.q),(8,.I k),(9,.I i),(10,.pv (eC e)),(94,.B (decide (e.t=k/\0<v/\e.f∉u.D)))],[(48,some ⟨1,zag u.b,0⟩),(80,some ⟨1,zkX (zc4 N u.D),0⟩),(120,some ⟨1,zag u.Z,0⟩)],1200⟩ rfl ?_ ?_
    .by_cases hm : e.f∈u.D
     .rw [decide_eq_true hm] at hmk
      simp
      repeat' first
       | (refine zem (λ hb=>?_) (λ hb=>?_) <;> (try rw [hb]) <;> (try simp at hb) <;> simp [hb,hmk,hg2,e1,hlt2,hif,<- hv])
      all_goals exact Le.go [(48,48),(80,80),(120,120)] [] rfl rfl (by simp [hb,hm]) (by simp)
     .rw [decide_eq_false hm] at hmk
      simp
      repeat' first
       | (refine zem (λ hb=>?_) (λ hb=>?_) <;> (try rw [hb]) <;> (try simp at hb) <;> simp [hb,hmk,hg2,e1,hlt2,hif,<- hv])
      all_goals exact Le.go [(48,48),(80,80),(120,120)] [] rfl rfl (by simp [hm]) (by simp)
    refine zad _ rfl (λ h15=>?_) λ h15=>?_
    .rw [decide_eq_true_eq] at h15
     rw [if_pos h15] at hub;obtain ⟨y,hy⟩ : ∃ y,u.b[e.f.toNat]? = some y:=⟨_,List.getElem?_eq_getElem (by rw [hu1.bfs.len]; omega)⟩
     have hbt : ∀ g : Int->List AV,List.take u.q (List.drop u.off (List.map g u.Z))=List.map g (u.Z.drop u.off):=λ g=>by rw [<- List.map_drop,List.take_of_length_le (by have:=hu1.z; simp; omega)]
     have htz:=hu1.z;have htd:=hu1.d;have hms:=zkE (D:=u.D) e1 hlt2
     have hbu : Bfs N A f (u.D++[e.f]) (u.b.set e.f.toNat (-((i : Int)+1))):=by
      have h3:=zvH (A:=A) (f:=f) (k:=k) (s:=(i,true)) (st:=(u.D,u.b)) hu1.bfs hku h12 (by unfold stT arcD; rw [List.getD_eq_getElem?_getD,hg1]; exact e1) (by unfold stT arcD; rw [List.getD_eq_getElem?_getD,hg1]; exact hlt2)
      rw [hub] at h3;exact h3
     have hfw:=hbu.few;rw [List.length_append,List.length_singleton] at hfw;refine zaC ⟨112,[(1,ints f),(2,.pv (nC ⟨N,A⟩)),(5,.rs 48 0 N),(6,.rs 80 0 N),(7,.rs 120 u.off u.q),(8,.I k),(9,.I i),(10,.pv (eC e))],[(48,some ⟨1,zag (u.b.set e.f.toNat (-((i : Int)+1))),0⟩),(80,some ⟨1,zkX (zc4 N (u.D++[e.f])),0⟩),(120,some ⟨1,zag u.Z,0⟩)],1400⟩ rfl ?_ ?_
     .simp [hmk,e1,hlt2,hw,hw2,hy,zat]
      exact ⟨rfl,Le.go [(48,48),(80,80),(120,120)] [] rfl rfl (by simp) (by simp [<- hms,fcd])⟩
     refine zav rfl ?_;simp [hbt];rw [hub] at hcl2;refine ⟨by omega,by omega,by omega,⟨u.D++[e.f],u.b.set e.f.toNat (-((i : Int)+1)),u.Z.drop u.off++[e.f],0,u.q+1⟩,⟨hu1.more hbu,hcl2,?_⟩,LeI [(48,48),(80,80),(1432,120)] []⟩
     obtain ⟨l1,e1⟩:=hul;exact ⟨l1++[e.f],by simp only [e1,List.append_assoc]⟩
    .rw [decide_eq_false_iff_not] at h15
     rw [if_neg h15] at hub;rw [hub] at hcl2;refine zae ?_;exact ⟨u,⟨hu1,hcl2,hul⟩,LeH [(48,48),(80,80),(120,120)] []⟩
   obtain ⟨hu1,hu2,l2,hu3⟩:=hu;refine zan ?_;exact ⟨(u,i+1),⟨hu1,h12,hu2,l++l2,by rw [hu3,htl,List.append_assoc]⟩,Nat.sub_lt_sub_left h12 (Nat.lt_succ_self i),Le.go [(48,48),(80,80),(120,120)] [] rfl rfl (by simp [hw]) (by simp)⟩
  simp at h12;obtain rfl : i=A.length:=by omega
  refine zaq ?_;refine hit ?_;rw [hkd] at htc;refine ⟨(t,m+1),⟨ht,zhd.next hmD hcl htc htl⟩,?_,LeH [(48,48),(80,80),(120,120)] []⟩
  simp only;omega
 simp at h7;have hmD : m=s.D.length:=by omega
 refine zaq ?_;refine hit ?_;refine rk (s:=?s23) [4] [48] rfl ?o23 ?q23
 case o23=>simp; rfl
 refine zai ?_;exact zm0.mk (.inr rfl) (s.D,s.b) ⟨hb.bfs,by rw [hmD] at hcl; exact hcl.all⟩ (zao.out [48] [] rfl (by simp) (by simp) (by simp) (by simp [fcd]))
structure MSt where
 j : Nat
 v : Int
def zo4 (A : List Ed) (f : List Int) (l : List Stp) (j : Nat) (v : Int) : Prop:=∀ t∈l.drop j,v<=zca A f t
set_option maxRecDepth 100000 in
set_option maxHeartbeats 4000000 in
theorem zyZ (N : Nat) (A : List Ed) (hn : zbX ⟨N,A⟩) :
  ∃ f : List Int,(zaJ N A f /\ ∀ f',zaJ N A f'->valF A f'<=valF A f)/\zaj Tryz.prog ziO [eN ⟨N,A⟩] [] (.tup [.rs 0 0 A.length,.I 0]) [some ⟨1,zag f,0⟩]:=by
 refine zt6.acallsX (args:=[eN ⟨N,A⟩]) (hs:=[]) (λ f=>.tup [.rs 0 0 A.length,.I 0]) (λ f=>[some ⟨1,zag f,0⟩]) (λ f : List Int=>zaJ N A f /\ ∀ f',zaJ N A f'->valF A f'<=valF A f) (nbz rfl) (nbz rfl) (λ _=>by simp) ?_
 show awp _ 0 _ _ ⟨112,[(0,eN ⟨N,A⟩)],[],16⟩;have hno:=zgx hn;have hchk:=zi7 ⟨N,A⟩ (by have:=hn.2.2.1; simp only at this ⊢; omega)
 rw [if_pos hn] at hchk;have hres:=λ f hf=>zog N A f hn hf;obtain ⟨hn0,hn1,hal,hav⟩:=hn;simp only at hn0 hn1 hal hav;refine rs [1] [] [16] ?_;refine zab ?_;refine rx (s:=?s2) [1,13] [] [] rfl ?o2 ?q2
 case o2=>simp; refine zap hchk (by simp) ?_; simp; rfl
 refine zad _ rfl (λ h3=>by cases h3) λ h3=>?_
 refine zae ?_;refine zaa ⟨112,[(1,.pv (nC ⟨N,A⟩)),(4,.rs 88 0 A.length)],[(88,some ⟨1,zag (A.map λ _=>0),0⟩)],104⟩ rfl ?_ ?_
 .simp
  refine ⟨by omega,by omega,?_⟩
  exact Le.go [(88,88)] [] rfl rfl (by simp) (by simp [List.map_const',fcd])
 refine zaf ?_;refine zas (ι:=List Int) (λ f=>⟨112,[(1,.pv (nC ⟨N,A⟩)),(4,.rs 88 0 A.length)],[(88,some ⟨1,zag f,0⟩)],104⟩) (λ f=>zaJ N A f) (λ f=>(capS (λ x=>decide (x=0)) A - valF A f).toNat) (A.map λ _=>0) (zko hno) (LeI [(88,88)] []) ?_;intro f hf;have hfl:=hf.fit.len;obtain ⟨⟨D,b⟩,⟨hb,hcl⟩,hcall⟩:=hres f hfl;simp only at hb hcl hcall;have hblen:=hb.len;have htake : ∀ g : Int->List AV,List.take A.length (List.map g f)=List.map g f:=λ g=>List.take_of_length_le (by simp; omega)
 refine zaf ?_;refine zaa ⟨112,[(1,.pv (nC ⟨N,A⟩)),(4,.rs 88 0 A.length),(5,.rs 90 0 N)],[(88,some ⟨1,zag f,0⟩),(90,some ⟨1,zag b,0⟩)],200⟩ rfl ?_ ?_
 .simp
  refine zm4 [88] hcall (by simp [fcd,htake,hfl]) (.rs _ _ _) zv4 ?_
  simp;exact LeI [(88,88),(120,90)] []
 obtain ⟨y1,hy1⟩ : ∃ y,y=b.getD 1 0:=⟨_,rfl⟩;have hb1 : b[1]? = some y1:=by rw [hy1,List.getD_eq_getElem?_getD,List.getElem?_eq_getElem (by omega),Option.getD_some]
 refine zab ?_;refine zaa ⟨112,[(1,.pv (nC ⟨N,A⟩)),(4,.rs 88 0 A.length),(5,.rs 90 0 N),(24,.B (y1 == 0))],[(88,some ⟨1,zag f,0⟩),(90,some ⟨1,zag b,0⟩)],300⟩ rfl ?_ ?_
 .have h1N : (1 : Int)<N:=by omega
  simp [hb1,h1N];exact LeI [(88,88),(90,90)] []
 have hcode : ∀ k : Nat,k<N->b[k]? = some (b.getD k 0):=λ k hk=>by rw [List.getD_eq_getElem?_getD,List.getElem?_eq_getElem (by omega),Option.getD_some]
 refine zad _ rfl (λ h8=>?_) λ h8=>?_
 .simp at h8
  refine zaa ⟨112,[(2,.rs 88 0 A.length),(3,.I 0)],[(88,some ⟨1,zag f,0⟩)],400⟩ rfl ?_ ?_
  .simp
   exact LeI [(88,88)] []
  have h1D : (1 : Int)∉D:=λ hm=>by
   have h2:=hb.inn 1 hm (by decide)
   exact h2 (by rw [show b.getD (Int.toNat 1) 0=y1 from hy1.symm,h8])
  refine zai ?_;exact zm0.mk (.inr rfl) f ⟨hf,(ziF hno hf hb.mem0 h1D hcl).2⟩ (zao.out [88] [] rfl (by simp) (by simp) (by simp) (by simp [fcd]))
 simp at h8;have h1D : (1 : Int)∈D:=Decidable.byContradiction λ hm=>h8 (by rw [hy1]; exact hb.out 1 (by decide) hm)
 obtain ⟨l,hl⟩:=hb.chain h1D;have hle:=zro hl.way;have hfit:=zeB.1 hf.fit
 have hlr : ∀ s∈l,s.1<f.length:=λ s hs=>by
  obtain ⟨i,hi,rfl⟩:=List.mem_iff_getElem.1 hs;have:=(hl.at_ i hi).1;omega
 have hl0 : 0<l.length:=by
  cases hll : l with
  | nil=>rw [hll] at hle; cases hle
  | cons=>simp
 refine zae ?_;refine zaa ⟨112,[(1,.pv (nC ⟨N,A⟩)),(4,.rs 88 0 A.length),(5,.rs 90 0 N),(6,.I 1048576)],[(88,some ⟨1,zag f,0⟩),(90,some ⟨1,zag b,0⟩)],400⟩ rfl ?_ ?_
 .simp
  exact LeI [(88,88),(90,90)] []
 refine zaO (ι:=Int) (λ v=>⟨112,[(1,.pv (nC ⟨N,A⟩)),(4,.rs 88 0 A.length),(5,.rs 90 0 N),(6,.I v)],[(88,some ⟨1,zag f,0⟩),(90,some ⟨1,zag b,0⟩)],600⟩) (λ v=>1<=v/\v<=1048576/\zo4 A f l 0 v) ?_ λ v hv=>?_
 .refine zaa ⟨112,[(1,.pv (nC ⟨N,A⟩)),(4,.rs 88 0 A.length),(5,.rs 90 0 N),(6,.I 1048576),(7,.I 1)],[(88,some ⟨1,zag f,0⟩),(90,some ⟨1,zag b,0⟩)],500⟩ rfl ?_ ?_
  .simp
   exact LeI [(88,88),(90,90)] []
  refine zaf ?_
  refine zas (ι:=MSt) (λ s=>⟨112,[(1,.pv (nC ⟨N,A⟩)),(4,.rs 88 0 A.length),(5,.rs 90 0 N),(6,.I s.v),(7,.I (endW A 0 l s.j))],[(88,some ⟨1,zag f,0⟩),(90,some ⟨1,zag b,0⟩)],600⟩)
   (λ s=>s.j<=l.length/\1<=s.v/\s.v<=1048576/\zo4 A f l s.j s.v) (λ s=>s.j) ⟨l.length,1048576⟩ ⟨Nat.le_refl _,by simp,by simp,by simp [zo4]⟩ (Le.go [(88,88),(90,90)] [] rfl rfl (by simp [hle]) (by simp [fcd])) ?_
  rintro ⟨j,v⟩ ⟨hj,hv1,hv2,hv3⟩
  simp only at hj hv1 hv2 hv3;refine zab ?_;refine rk (s:=?s12) [1,4,5,6,7,27] [88,90] rfl ?o12 ?q12
  case o12=>simp; rfl
  refine zad _ rfl (λ h13=>?_) λ h13=>?_
  .simp at h13
   obtain ⟨i,rfl⟩ : ∃ i,j=i+1:=by
    cases j with
    | zero=>exact absurd rfl h13
    | succ i=>exact ⟨i,rfl⟩
   have hi : i<l.length:=by omega
   obtain ⟨q1,q2,q3,q4,q5,q6⟩:=hl.at_ i hi;have hfr:=hl.from_ i hi;obtain ⟨s,hs⟩ : ∃ s,s=l[i]:=⟨_,rfl⟩
   have hk : endW A 0 l (i+1)=stT A s:=by
    show stT A (l.getD i (0,false))=_;rw [List.getD_eq_getElem?_getD,List.getElem?_eq_getElem hi,hs];rfl
   have hvn : ∀ v' : Int,v'<=v->v'<=zca A f s->zo4 A f l i v':=λ v' h1 h2 t ht=>by
    rw [List.drop_eq_getElem_cons hi,<- hs] at ht;rcases List.mem_cons.1 ht with rfl | ht
    .exact h2
    .exact Int.le_trans h1 (hv3 t ht)
   rw [<- hs] at q1 q2 q3 q4 q5 q6 hfr;rw [hk];obtain ⟨k,hkd⟩ : ∃ k,k=stT A s:=⟨_,rfl⟩;rw [<- hkd] at q4 q5 q6 ⊢;have hbk:=hcode k.toNat (by omega)
   obtain ⟨x,hx⟩ : ∃ x,x=encS s:=⟨_,rfl⟩;rw [q6,<- hx] at hbk;refine zae ?_;refine zaf ?_;refine rk (s:=?s14) [1,4,5,6,8] [88,90] rfl ?o14 ?q14
   case o14=>simp [hbk,q4,q5]; rfl
   have hfa:=hfit.2 s.1 q1;have heo:=hav _ (zfz q1);obtain ⟨e,he⟩ : ∃ e,e=arcD A s.1:=⟨_,rfl⟩;obtain ⟨w,hw⟩ : ∃ w,w=f.getD s.1 0:=⟨_,rfl⟩;have hg1 : A[s.1]? = some e:=by rw [he]; unfold arcD; rw [List.getD_eq_getElem?_getD,List.getElem?_eq_getElem q1,Option.getD_some]
   have hg2 : f[s.1]? = some w:=by rw [hw,List.getD_eq_getElem?_getD,List.getElem?_eq_getElem (by omega),Option.getD_some]
   rw [<- he,<- hw] at hfa;rw [<- he] at heo;obtain ⟨e1,e2,e3,e4,e5,e6,e7,e8,e9⟩:=heo;obtain ⟨a,c⟩:=s;simp only at q1 hg1 hg2 he hw;have hal' : a<A.length:=q1;have ha0 : (0 : Int)<=a/\(a : Int)<A.length:=by omega
   have hafl : a<f.length:=by omega
   have hAe : A[a]=e:=by rw [List.getElem?_eq_getElem hal'] at hg1; exact Option.some.inj hg1
   have hfw : f[a]=w:=by rw [List.getElem?_eq_getElem hafl] at hg2; exact Option.some.inj hg2
   cases c with
   | false =>
     have hen : encS (a,false)=(a : Int)+1:=rfl;have hro : zca A f (a,false)=e.v - w:=by unfold zca; simp [he,hw]
     have hst : stF A (a,false)=e.f:=by unfold stF; simp [he]
     rw [hen] at hx;rw [hst] at hfr;rw [hro] at q2 hvn;have hw1 : IntKind.i64.wrap (x - 1)=(a : Int):=by rw [w6]; omega
     have hw2 : IntKind.i64.wrap (e.v - w)=e.v - w:=w6;refine rk (s:=?s15) [1,4,5,6,8,33] [88,90] rfl ?o15 ?q15
     case o15=>simp; rfl
     refine zad _ rfl (λ h16=>?_) λ h16=>?_
     .refine zcP rfl ?_
      simp [hw1,hw2,ha0,hal',hafl,hAe,hfw];refine ⟨rfl,⟨i,if e.v - w<v then e.v - w else v⟩,⟨by simp only; omega,by simp only; split <;> omega,by simp only; split <;> omega,hvn (if e.v - w<v then e.v - w else v) (by split <;> omega) (by split <;> omega)⟩,Nat.lt_succ_self i,Le.go [(88,88),(90,90)] [] rfl rfl (by simp [hfr]) (by simp [fcd])⟩
     .simp at h16
      omega
   | true =>
     have hen : encS (a,true) = -((a : Int)+1):=rfl;have hro : zca A f (a,true)=w:=by unfold zca; simp [hw]
     have hst : stF A (a,true)=e.t:=by unfold stF; simp [he]
     rw [hen] at hx;rw [hst] at hfr;rw [hro] at q2 hvn;have hw0 : IntKind.i64.wrap (-x)=(a : Int)+1:=by rw [w6]; omega
     have hw1 : IntKind.i64.wrap (a : Int)=(a : Int):=w6;refine rk (s:=?s25) [1,4,5,6,8,33] [88,90] rfl ?o25 ?q25
     case o25=>simp; rfl
     refine zad _ rfl (λ h16=>?_) λ h16=>?_
     .simp at h16
      omega
     .refine zcP rfl ?_
      simp [hw0,hw1,ha0,hal',hafl,hAe,hfw];refine ⟨rfl,⟨i,if w<v then w else v⟩,⟨by simp only; omega,by simp only; split <;> omega,by simp only; split <;> omega,hvn (if w<v then w else v) (by split <;> omega) (by split <;> omega)⟩,Nat.lt_succ_self i,Le.go [(88,88),(90,90)] [] rfl rfl (by simp [hfr]) (by simp [fcd])⟩
  simp at h13
  obtain rfl : j=0:=by
   cases j with
   | zero=>rfl
   | succ i =>
     have h2:=(hl.at_ i (by omega)).2.2.1
     refine absurd ?_ h2;have h3 : endW A 0 l (i+1)=stT A (l.getD i (0,false)):=rfl;rw [h3,List.getD_eq_getElem?_getD,List.getElem?_eq_getElem (by omega)] at h13
     exact h13
  refine zaq ?_;refine hit ?_;exact ⟨v,⟨hv1,hv2,hv3⟩,LeI [(88,88),(90,90)] []⟩
 obtain ⟨hv1,hv2,hv3⟩:=hv;have hv3' : ∀ s∈l,v<=zca A f s:=λ s hs=>hv3 s (by simpa using hs)
 obtain ⟨hf2,hval⟩:=hl.push hno hf (by omega) hv3'
 have hbnd:=zfH (S:=λ x=>decide (x=0)) hno hf2 (by simp) (by simp)
 refine zaa ⟨112,[(1,.pv (nC ⟨N,A⟩)),(4,.rs 88 0 A.length),(5,.rs 90 0 N),(6,.I v),(9,.I 1)],[(88,some ⟨1,zag f,0⟩),(90,some ⟨1,zag b,0⟩)],700⟩ rfl ?_ ?_
 .simp
  exact LeI [(88,88),(90,90)] []
 refine zaf ?_
 refine zas (ι:=Nat) (λ j=>⟨112,[(1,.pv (nC ⟨N,A⟩)),(4,.rs 88 0 A.length),(5,.rs 90 0 N),(6,.I v),(9,.I (endW A 0 l j))],[(88,some ⟨1,zag (zfD v f l j),0⟩),(90,some ⟨1,zag b,0⟩)],800⟩)
  (λ j=>j<=l.length) (λ j=>j) l.length (Nat.le_refl _) (Le.go [(88,88),(90,90)] [] rfl rfl (by simp [hle]) (by simp [fcd,zq6])) ?_
 intro j hj;refine zab ?_;refine zaa ⟨112,[(1,.pv (nC ⟨N,A⟩)),(4,.rs 88 0 A.length),(5,.rs 90 0 N),(6,.I v),(9,.I (endW A 0 l j)),(73,.B (!decide (endW A 0 l j=0)))],[(88,some ⟨1,zag (zfD v f l j),0⟩),(90,some ⟨1,zag b,0⟩)],900⟩ rfl ?_ ?_
 .simp
  exact Le.go [(88,88),(90,90)] [] rfl rfl (by simp <;> exact wkB (by rw [Bool.eq_iff_iff]; simp)) (by simp [fcd])
 refine zad _ rfl (λ h19=>?_) λ h19=>?_
 .simp at h19
  obtain ⟨i,rfl⟩ : ∃ i,j=i+1:=by
   cases j with
   | zero=>exact absurd rfl h19
   | succ i=>exact ⟨i,rfl⟩
  have hi : i<l.length:=by omega
  obtain ⟨q1,q2,q3,q4,q5,q6⟩:=hl.at_ i hi;have hfr:=hl.from_ i hi;have hstep:=zop (v:=v) (f:=f) i hi;have hget:=zq9 (v:=v) hl.nodup hlr i hi;have hroom:=hv3' _ (List.getElem_mem hi);obtain ⟨s,hs⟩ : ∃ s,s=l[i]:=⟨_,rfl⟩
  have hk : endW A 0 l (i+1)=stT A s:=by
   show stT A (l.getD i (0,false))=_;rw [List.getD_eq_getElem?_getD,List.getElem?_eq_getElem hi,hs];rfl
  rw [<- hs] at q1 q2 q3 q4 q5 q6 hfr hstep hget hroom;rw [hk];obtain ⟨k,hkd⟩ : ∃ k,k=stT A s:=⟨_,rfl⟩;rw [<- hkd] at q4 q5 q6 ⊢;have hbk:=hcode k.toNat (by omega)
  obtain ⟨x,hx⟩ : ∃ x,x=encS s:=⟨_,rfl⟩;rw [q6,<- hx] at hbk;have hFl : (zfD v f l (i+1)).length=A.length:=by rw [zq3,hfl]
  obtain ⟨F,hF⟩ : ∃ F,F=zfD v f l (i+1):=⟨_,rfl⟩;rw [<- hF] at hFl hget hstep ⊢;have hfa:=hfit.2 s.1 q1;have heo:=hav _ (zfz q1);obtain ⟨e,he⟩ : ∃ e,e=arcD A s.1:=⟨_,rfl⟩;obtain ⟨w,hw⟩ : ∃ w,w=f.getD s.1 0:=⟨_,rfl⟩;have hg1 : A[s.1]? = some e:=by rw [he]; unfold arcD; rw [List.getD_eq_getElem?_getD,List.getElem?_eq_getElem q1,Option.getD_some]
  have hg2 : F[s.1]? = some w:=by rw [hw,<- hget,List.getD_eq_getElem?_getD,List.getElem?_eq_getElem (by omega),Option.getD_some]
  rw [<- he,<- hw] at hfa;rw [<- he] at heo;obtain ⟨e1,e2,e3,e4,e5,e6,e7,e8,e9⟩:=heo;obtain ⟨a,c⟩:=s;simp only at q1 hg1 hg2 he hw;have hal' : a<A.length:=q1;have ha0 : (0 : Int)<=a/\(a : Int)<A.length:=by omega
  have hafl : a<F.length:=by omega
  have hAe : A[a]=e:=by rw [List.getElem?_eq_getElem hal'] at hg1; exact Option.some.inj hg1
  have hfw : F[a]=w:=by rw [List.getElem?_eq_getElem hafl] at hg2; exact Option.some.inj hg2
  have hset : zfD v f l i=F.set a (w+if c then -v else v):=by rw [hstep]; unfold zji; simp only [hget]; rw [hw]
  refine zae ?_;refine zaf ?_;refine zaa ⟨112,[(1,.pv (nC ⟨N,A⟩)),(4,.rs 88 0 A.length),(5,.rs 90 0 N),(6,.I v),(10,.I x)],[(88,some ⟨1,zag F,0⟩),(90,some ⟨1,zag b,0⟩)],1000⟩ rfl ?_ ?_
  .simp [hbk,q4,q5]
   exact LeI [(88,88),(90,90)] []
  refine zaa ⟨112,[(1,.pv (nC ⟨N,A⟩)),(4,.rs 88 0 A.length),(5,.rs 90 0 N),(6,.I v),(10,.I x),(79,.B (decide (0<x)))],[(88,some ⟨1,zag F,0⟩),(90,some ⟨1,zag b,0⟩)],1100⟩ rfl ?_ ?_
  .simp
   exact LeI [(88,88),(90,90)] []
  cases c with
  | false =>
    have hen : encS (a,false)=(a : Int)+1:=rfl;have hro : zca A f (a,false)=e.v - w:=by unfold zca; simp [he,hw]
    have hst : stF A (a,false)=e.f:=by unfold stF; simp [he]
    rw [hen] at hx;rw [hst] at hfr;rw [hro] at hroom;have hw1 : IntKind.i64.wrap (x - 1)=(a : Int):=by rw [w6]; omega
    have hw2 : IntKind.i64.wrap (w+v)=w+v:=w6;refine zad _ rfl (λ h16=>?_) λ h16=>?_
    .refine zaa ⟨112,[(1,.pv (nC ⟨N,A⟩)),(4,.rs 88 0 A.length),(5,.rs 90 0 N),(6,.I v),(10,.I x)],[(88,some ⟨1,zag (F.set a (w+v)),0⟩),(90,some ⟨1,zag b,0⟩)],1300⟩ rfl ?_ ?_
     .simp [hw1,hw2,ha0,hal',hafl,hAe,hfw,zat]
      exact LeI [(88,88),(90,90)] []
     refine zav rfl ?_;simp [hw1,ha0,hal',hAe];exact ⟨i,by omega,by omega,Le.go [(88,88),(90,90)] [] rfl rfl (by simp [hfr]) (by simp [fcd,hset])⟩
    .simp at h16
     omega
  | true =>
    have hen : encS (a,true) = -((a : Int)+1):=rfl;have hro : zca A f (a,true)=w:=by unfold zca; simp [hw]
    have hst : stF A (a,true)=e.t:=by unfold stF; simp [he]
    rw [hen] at hx;rw [hst] at hfr;rw [hro] at hroom;have hw0 : IntKind.i64.wrap (-x)=(a : Int)+1:=by rw [w6]; omega
    have hw1 : IntKind.i64.wrap (a : Int)=(a : Int):=w6;have hw2 : IntKind.i64.wrap (w - v)=w + -v:=by rw [w6]; omega
    refine zad _ rfl (λ h16=>?_) λ h16=>?_
    .simp at h16
     omega
    .refine zaa ⟨112,[(1,.pv (nC ⟨N,A⟩)),(4,.rs 88 0 A.length),(5,.rs 90 0 N),(6,.I v),(10,.I x)],[(88,some ⟨1,zag (F.set a (w + -v)),0⟩),(90,some ⟨1,zag b,0⟩)],1300⟩ rfl ?_ ?_
     .simp [hw0,hw1,hw2,ha0,hal',hafl,hAe,hfw,zat]
      exact LeI [(88,88),(90,90)] []
     refine zav rfl ?_;simp [hw0,hw1,ha0,hal',hAe];exact ⟨i,by omega,by omega,Le.go [(88,88),(90,90)] [] rfl rfl (by simp [hfr]) (by simp [fcd,hset])⟩
 simp at h19
 obtain rfl : j=0:=by
  cases j with
  | zero=>rfl
  | succ i =>
    have h2:=(hl.at_ i (by omega)).2.2.1
    refine absurd ?_ h2;have h3 : endW A 0 l (i+1)=stT A (l.getD i (0,false)):=rfl;rw [h3,List.getD_eq_getElem?_getD,List.getElem?_eq_getElem (by omega)] at h19
    exact h19
 refine zaq ?_;refine hit ?_;exact ⟨zfD v f l 0,hf2,by rw [hval]; omega,LeI [(88,88)] []⟩
theorem zka {φ : Ed->Int->Int} : ∀ {A : List Ed} {f : List Int} (i : Nat) (h1 : i<A.length) (h2 : i<f.length),sumF φ (A.take (i+1)) (f.take (i+1))=sumF φ (A.take i) (f.take i)+φ A[i] f[i]
 | e::A,v::f,0,_,_=>by simp [sumF]
 | e::A,v::f,i+1,h1,h2=>by
   have:=zka (φ:=φ) (A:=A) (f:=f) i (by simpa using h1) (by simpa using h2)
   simp only [List.take_succ_cons,sumF,this,List.getElem_cons_succ];omega
def netG (A : List Ed) (f : List Int) (i : Nat) (x : Int) : Int:=inF (A.take i) (f.take i) x - outF (A.take i) (f.take i) x
variable {N : Nat} {A : List Ed} {f : List Int}
theorem zmX (x : Int) : netG A f 0 x=0:=by simp [netG,inF,outF,sumF]
theorem zmV {i : Nat} (h1 : i<A.length) (h2 : i<f.length) (x : Int) : netG A f (i+1) x=netG A f i x+(if A[i].t=x then f[i] else 0) - if A[i].f=x then f[i] else 0:=by
 unfold netG inF outF;rw [zka i h1 h2,zka i h1 h2];omega
theorem ztf (hl : f.length=A.length) (x : Int) : netG A f A.length x = - exF A f x:=by
 unfold netG exF;rw [List.take_of_length_le (Nat.le_refl _),List.take_of_length_le (by omega)]
 omega
theorem zkW (hl : f.length=A.length) (hb : ∀ j (h : j<f.length),0<=f[j]/\f[j]<=1048576) (x : Int) : ∀ i,i<=A.length -> -(1048576*(i : Int))<=netG A f i x/\netG A f i x<=1048576*(i : Int)
 | 0,_=>by rw [zmX]; omega
 | i+1,h=>by
   have ih:=zkW hl hb x i (by omega)
   have h2:=hb i (by omega)
   rw [zmV (by omega) (by omega)]
   split <;> split <;> omega
theorem zqd {i : Nat} (h1 : i<A.length) (h2 : i<f.length) (x : Int) : outF (A.take (i+1)) (f.take (i+1)) x=outF (A.take i) (f.take i) x+if A[i].f=x then f[i] else 0:=by
 unfold outF;rw [zka i h1 h2]
theorem zoj (hl : f.length=A.length) (hb : ∀ j (h : j<f.length),0<=f[j]/\f[j]<=1048576) (x : Int) : ∀ i,i<=A.length->0<=outF (A.take i) (f.take i) x/\outF (A.take i) (f.take i) x<=1048576*(i : Int)
 | 0,_=>by simp [outF,sumF]
 | i+1,h=>by
   have ih:=zoj hl hb x i (by omega)
   have h2:=hb i (by omega)
   rw [zqd (by omega) (by omega)]
   split <;> omega
def rowR (N : Nat) (g : Int->Int) : List Int:=(List.range N).map λ k : Nat=>g k
theorem zhi (N : Nat) (g : Int->Int) : (rowR N g).length=N:=by simp [rowR]
theorem zgq {g : Int->Int} {x : Int} (h0 : 0<=x) (h1 : x<N) : (rowR N g)[x.toNat]? = some (g x):=by
 unfold rowR;rw [List.getElem?_map,List.getElem?_range (by omega)]
 simp only [Option.map_some,Int.toNat_of_nonneg h0]
theorem zlX {g : Int->Int} {x v : Int} (h0 : 0<=x) (h1 : x<N) : (rowR N g).set x.toNat v=rowR N λ y=>if y=x then v else g y:=by
 apply List.ext_getElem?;intro j
 by_cases hj : j<N
 .have e1:=zgq (N:=N) (g:=λ y=>if y=x then v else g y) (x:=(j : Int)) (by omega) (by omega)
  have e2:=zgq (N:=N) (g:=g) (x:=(j : Int)) (by omega) (by omega)
  simp only [Int.toNat_natCast] at e1 e2;rw [List.getElem?_set,e1,e2,zhi]
  by_cases hx : x.toNat=j
  .rw [if_pos hx,if_pos (by omega),if_pos (by omega)]
  .rw [if_neg hx,if_neg (by omega)]
 .rw [List.getElem?_eq_none (by rw [List.length_set,zhi]; omega),List.getElem?_eq_none (by rw [zhi]; omega)]
theorem zkQ {g h : Int->Int} (e : ∀ x,g x=h x) : rowR N g=rowR N h:=by
 obtain rfl : g=h:=funext e;rfl
set_option maxRecDepth 100000 in
set_option maxHeartbeats 4000000 in
theorem zlp (hn : zbX ⟨N,A⟩) (hf : zaJ N A f) : zaj Tryz.prog zic [eN ⟨N,A⟩,ints f] [] (.B true) []:=by
 refine zq2.ac ?_;show awp _ 0 _ _ ⟨87,[(0,eN ⟨N,A⟩),(1,ints f)],[],16⟩;have hfl:=hf.fit.len;have hfit:=zeB.1 hf.fit;have hchk:=zi7 ⟨N,A⟩ (by have:=hn.2.2.1; simp only at this ⊢; omega)
 rw [if_pos hn] at hchk;obtain ⟨hn0,hn1,hal,hav⟩:=hn;simp only at hn0 hn1 hal hav
 have hfb : ∀ j (h : j<f.length),0<=f[j]/\f[j]<=(A[j]'(by omega)).v/\(A[j]'(by omega)).v<=1048576:=λ j hj=>by
  have h1:=hfit.2 j (by omega)
  have e1 : f.getD j 0=f[j]:=by rw [List.getD_eq_getElem?_getD,List.getElem?_eq_getElem hj,Option.getD_some]
  have e2 : arcD A j=A[j]'(by omega):=by unfold arcD; rw [List.getD_eq_getElem?_getD,List.getElem?_eq_getElem (by omega),Option.getD_some]
  rw [e1,e2] at h1;exact ⟨h1.1,h1.2,(hav _ (List.getElem_mem (by omega))).2.2.2.2.2.2.2.2⟩
 have hbd:=zkW hfl λ j hj=>⟨(hfb j hj).1,by have:=hfb j hj; omega⟩
 refine rs [1,2] [] [16] ?_;refine zab ?_;refine zaa ⟨87,[(1,ints f),(2,.pv (nC ⟨N,A⟩)),(18,.B false)],[],120⟩ rfl ?_ ?_
 .simp
  refine zap hchk (by simp) ?_
  simp;exact Le.snap [] rfl rfl (by simp <;> exact wkB (by simp [hfl]))
 refine zad _ rfl (λ h3=>by cases h3) λ _=>?_
 refine zae ?_;refine zaa ⟨87,[(1,ints f),(2,.pv (nC ⟨N,A⟩)),(5,.rs 136 0 N)],[(136,some ⟨1,zag (rowR N (netG A f 0)),0⟩)],144⟩ rfl ?_ ?_
 .simp
  refine ⟨by omega,by omega,?_⟩
  have : rowR N (netG A f 0)=List.replicate N 0:=by
   unfold rowR;simp only [zmX];simp [List.map_const']
  rw [this];exact LeH [(136,136)] []
 refine zab ?_;refine zaa ⟨87,[(1,ints f),(2,.pv (nC ⟨N,A⟩)),(5,.rs 136 0 N),(6,.I 0)],[(136,some ⟨1,zag (rowR N (netG A f 0)),0⟩)],160⟩ rfl ?_ ?_
 .simp
  exact LeI [(136,136)] []
 refine zaf ?_;refine zas (ι:=Nat) (λ i=>⟨87,[(1,ints f),(2,.pv (nC ⟨N,A⟩)),(5,.rs 136 0 N),(6,.I i)],[(136,some ⟨1,zag (rowR N (netG A f i)),0⟩)],160⟩) (λ i=>i<=A.length) (λ i=>A.length - i) 0 (Nat.zero_le _) (LeI [(136,136)] []) ?_;intro i hi;refine zab ?_;refine zaa ⟨87,[(1,ints f),(2,.pv (nC ⟨N,A⟩)),(5,.rs 136 0 N),(6,.I i),(25,.B (decide (i<f.length)))],[(136,some ⟨1,zag (rowR N (netG A f i)),0⟩)],192⟩ rfl ?_ ?_
 .simp
  exact LeI [(136,136)] []
 refine zad _ rfl (λ h8=>?_) λ h8=>?_
 .simp at h8
  have hiA : i<A.length:=by omega
  have hw1 : IntKind.i64.wrap ((i : Int)+1)=(i : Int)+1:=w6;obtain ⟨b1,b2,b3⟩:=hfb i h8;have heo:=hav _ (List.getElem_mem hiA);have hsucc:=zmV hiA h8;have hbe:=λ x=>hbd x i (by omega)
  obtain ⟨e,he⟩ : ∃ e,e=A[i]:=⟨_,rfl⟩;obtain ⟨w,hw⟩ : ∃ w,w=f[i]:=⟨_,rfl⟩;rw [<- he,<- hw] at hsucc b2;rw [<- hw] at b1;rw [<- he] at b3 heo;obtain ⟨e1,e2,e3,e4,e5,_⟩:=heo;have hg1 : A[i]? = some e:=by rw [List.getElem?_eq_getElem hiA,he]
  have hg2 : f[i]? = some w:=by rw [List.getElem?_eq_getElem h8,hw]
  have h2N : e.f<(N : Int)/\e.t<(N : Int):=by omega
  have h1:=hbe e.f;have h2:=hbe e.t;have hwx : IntKind.i64.wrap (netG A f i e.f - w)=netG A f i e.f - w:=w6;have hwy : IntKind.i64.wrap (netG A f i e.t+w)=netG A f i e.t+w:=w6;have hr1:=zgq (N:=N) (g:=netG A f i) (x:=e.f) e1 (by omega)
  have hs1:=zlX (N:=N) (g:=netG A f i) (x:=e.f) (v:=netG A f i e.f - w) e1 (by omega)
  obtain ⟨g1,hg1d⟩ : ∃ g1 : Int->Int,g1=λ y=>if y=e.f then netG A f i e.f - w else netG A f i y:=⟨_,rfl⟩
  rw [<- hg1d] at hs1;have hg1t : g1 e.t=netG A f i e.t:=by rw [hg1d]; exact if_neg λ h=>e5 h.symm
  have hr2:=zgq (N:=N) (g:=g1) (x:=e.t) e3 (by omega)
  rw [hg1t] at hr2;have hs2:=zlX (N:=N) (g:=g1) (x:=e.t) (v:=netG A f i e.t+w) e3 (by omega)
  have hend : (rowR N λ y=>if y=e.t then netG A f i e.t+w else g1 y)=rowR N (netG A f (i+1)):=zkQ λ x=>by
   rw [hsucc,hg1d];simp only
   by_cases h3 : x=e.t
   .rw [h3,if_pos rfl,if_pos rfl,if_neg e5]
    omega
   .by_cases h4 : x=e.f
    .rw [if_neg h3,if_pos h4,if_neg λ h=>h3 h.symm,if_pos h4.symm,h4]
     omega
    .rw [if_neg h3,if_neg h4,if_neg λ h=>h3 h.symm,if_neg λ h=>h4 h.symm]
     omega
  rw [hend] at hs2;refine zae ?_;refine zaO (ι:=Unit) (λ _=>⟨87,[(1,ints f),(2,.pv (nC ⟨N,A⟩)),(5,.rs 136 0 N),(6,.I i)],[(136,some ⟨1,zag (rowR N (netG A f (i+1))),0⟩)],1000⟩) (λ _=>True) ?_ λ _ _=>?_
  .refine zaf ?_
   refine zab ?_;refine zaC ⟨87,[(1,ints f),(2,.pv (nC ⟨N,A⟩)),(5,.rs 136 0 N),(6,.I i),(45,.B false)],[(136,some ⟨1,zag (rowR N (netG A f i)),0⟩)],500⟩ rfl ?_ ?_
   .have hc1 : ¬ w<0:=by omega
    have hc2 : ¬ e.v<w:=by omega
    simp [hg1,hg2,hiA,h8,<- he,<- hw,hc1,hc2];exact ⟨rfl,Le.go [(136,136)] [] rfl rfl (by simp [hc2]) (by simp [fcd])⟩
   refine zad _ rfl (λ h=>by cases h) λ _=>?_
   refine zae ?_;refine zaC ⟨87,[(1,ints f),(2,.pv (nC ⟨N,A⟩)),(5,.rs 136 0 N),(6,.I i)],[(136,some ⟨1,zag (rowR N g1),0⟩)],700⟩ rfl ?_ ?_
   .simp [hg1,hg2,hiA,h8,<- he,<- hw,hr1,e1,h2N,hwx,zat]
    exact ⟨rfl,Le.go [(136,136)] [] rfl rfl (by simp) (by simp [fcd,<- hs1])⟩
   refine zcP rfl ?_;simp [hg1,hg2,hiA,h8,<- he,<- hw,hr2,e3,h2N,hwy,zat];exact ⟨rfl,Le.go [(136,136)] [] rfl rfl (by simp) (by simp [fcd,<- hs2])⟩
  refine zan ?_;exact ⟨i+1,by omega,by omega,Le.go [(136,136)] [] rfl rfl (by simp [hw1]) (by simp [fcd])⟩
 simp at h8;obtain rfl : i=A.length:=by omega
 refine zaq ?_;refine hit ?_;refine zab ?_;refine zaa ⟨87,[(2,.pv (nC ⟨N,A⟩)),(5,.rs 136 0 N),(7,.I 2)],[(136,some ⟨1,zag (rowR N (netG A f A.length)),0⟩)],200⟩ rfl ?_ ?_
 .simp
  exact LeI [(136,136)] []
 refine zaf ?_;refine zas (ι:=Nat) (λ k=>⟨87,[(2,.pv (nC ⟨N,A⟩)),(5,.rs 136 0 N),(7,.I k)],[(136,some ⟨1,zag (rowR N (netG A f A.length)),0⟩)],200⟩) (λ k=>2<=k/\k<=N) (λ k=>N - k) 2 (by omega) (LeI [(136,136)] []) ?_
 rintro k ⟨hk1,hk2⟩
 refine zab ?_;refine zaa ⟨87,[(2,.pv (nC ⟨N,A⟩)),(5,.rs 136 0 N),(7,.I k),(79,.B (decide (k<N)))],[(136,some ⟨1,zag (rowR N (netG A f A.length)),0⟩)],300⟩ rfl ?_ ?_
 .simp
  exact LeI [(136,136)] []
 refine zad _ rfl (λ h15=>?_) λ h15=>?_
 .simp at h15
  have hz : netG A f A.length k=0:=by
   rw [ztf hfl];have:=hf.bal k hk1 h15;unfold exF;omega
  have hr:=zgq (N:=N) (g:=netG A f A.length) (x:=(k : Int)) (by omega) (by omega)
  rw [hz] at hr;simp only [Int.toNat_natCast] at hr;have hw1 : IntKind.i64.wrap ((k : Int)+1)=(k : Int)+1:=w6;refine zae ?_;refine zab ?_;refine zaf ?_;refine zaa ⟨87,[(2,.pv (nC ⟨N,A⟩)),(5,.rs 136 0 N),(7,.I k),(86,.B false)],[(136,some ⟨1,zag (rowR N (netG A f A.length)),0⟩)],400⟩ rfl ?_ ?_
  .simp [hr,h15]
   exact LeI [(136,136)] []
  refine zad _ rfl (λ h=>by cases h) λ _=>?_
  refine zae ?_;refine zan ?_;exact ⟨k+1,by omega,by omega,Le.go [(136,136)] [] rfl rfl (by simp [hw1]) (by simp [fcd])⟩
 simp at h15;refine zaq ?_;refine hit ?_;refine zaa ⟨87,[(4,.B true)],[],400⟩ rfl ?_ ?_
 .simp
  exact LeH [] []
 refine zai ?_;exact ⟨.inr rfl,zao.one (by simp)⟩
theorem zlL (hn : zbX ⟨N,A⟩) (hf : zaJ N A f) : zaj Tryz.prog ziC [eN ⟨N,A⟩,ints f] [] (.I (valF A f)) []:=by
 refine zpZ.ac ?_;show awp _ 0 _ _ ⟨31,[(0,eN ⟨N,A⟩),(1,ints f)],[],16⟩;have hchk:=zlp hn hf;have hfl:=hf.fit.len;have hfit:=zeB.1 hf.fit;obtain ⟨hn0,hn1,hal,hav⟩:=hn;simp only at hn0 hn1 hal hav
 have hfb : ∀ j (h : j<f.length),0<=f[j]/\f[j]<=1048576:=λ j hj=>by
  have h1:=hfit.2 j (by omega)
  have e1 : f.getD j 0=f[j]:=by rw [List.getD_eq_getElem?_getD,List.getElem?_eq_getElem hj,Option.getD_some]
  have e2 : arcD A j=A[j]'(by omega):=by unfold arcD; rw [List.getD_eq_getElem?_getD,List.getElem?_eq_getElem (by omega),Option.getD_some]
  rw [e1,e2] at h1;have h2:=(hav _ (List.getElem_mem (show j<A.length by omega))).2.2.2.2.2.2.2.2
  omega
 have hbd:=zoj hfl hfb 0
 have hall : outF (A.take A.length) (f.take A.length) 0=valF A f:=by
  unfold valF;rw [List.take_of_length_le (Nat.le_refl _),List.take_of_length_le (by omega)]
 refine rs [1,2] [] [16] ?_;refine zab ?_;refine rx (s:=?s2) [1,2,10] [] [] rfl ?o2 ?q2
 case o2=>simp; refine zap hchk (by simp) ?_; simp; rfl
 refine zad _ rfl (λ h=>by cases h) λ _=>?_
 refine zae ?_;refine rs [1,2,5] [] [] ?_;refine zab ?_;refine rs [1,2,5,6] [] [] ?_;refine zaf ?_;refine zas (ι:=Nat) (λ i=>⟨31,[(1,ints f),(2,.pv (nC ⟨N,A⟩)),(5,.I (outF (A.take i) (f.take i) 0)),(6,.I i)],[],80⟩) (λ i=>i<=A.length) (λ i=>A.length - i) 0 (Nat.zero_le _) (Le.go [] [] rfl rfl (by simp [outF,sumF]) (by simp)) ?_
 intro i hi;have hbi:=hbd i hi;refine zab ?_;refine rs [1,2,5,6,14] [] [] ?_;refine zad _ rfl (λ h8=>?_) λ h8=>?_
 .simp at h8
  have hiA : i<A.length:=by omega
  have hw1 : IntKind.i64.wrap ((i : Int)+1)=(i : Int)+1:=w6;have hsucc:=zqd hiA h8 0;have hb:=hfb i h8;refine zae ?_;refine zaO (ι:=Unit) (λ _=>⟨31,[(1,ints f),(2,.pv (nC ⟨N,A⟩)),(5,.I (outF (A.take (i+1)) (f.take (i+1)) 0)),(6,.I i)],[],400⟩) (λ _=>True) ?_ λ _ _=>?_
  .refine zaf ?_
   refine zaa ⟨31,[(1,ints f),(2,.pv (nC ⟨N,A⟩)),(5,.I (outF (A.take i) (f.take i) 0)),(6,.I i),(23,.B (decide (A[i].f=0)))],[],200⟩ rfl ?_ ?_
   .simp [hiA]
    exact Le.go [] [] rfl rfl (by simp <;> exact wkB (by rw [Bool.eq_iff_iff]; simp)) (by simp)
   refine zad _ rfl (λ h10=>?_) λ h10=>?_
   .rw [decide_eq_true_eq] at h10
    rw [if_pos h10] at hsucc;have hw2 : IntKind.i64.wrap (outF (A.take i) (f.take i) 0+f[i])=outF (A.take i) (f.take i) 0+f[i]:=w6;refine zar (s:=?s9) rfl ?o9 ?q9
    case o9=>simp [h8]; rfl
    exact ⟨(),trivial,Le.go [] [] rfl rfl (by simp [hsucc,hw2]) (by simp)⟩
   .rw [decide_eq_false_iff_not] at h10
    rw [if_neg h10,Int.add_zero] at hsucc;refine zae ?_;exact ⟨(),trivial,Le.go [] [] rfl rfl (by simp [hsucc]) (by simp)⟩
  refine zan ?_;exact ⟨i+1,by omega,by omega,Le.go [] [] rfl rfl (by simp [hw1]) (by simp)⟩
 simp at h8;obtain rfl : i=A.length:=by omega
 rw [hall];refine zaq ?_;refine hit ?_;refine rs [4] [] [] ?_;refine zai ?_;exact ⟨.inr rfl,zao.one (by simp)⟩
structure zod (g : Gr) (p : Pol) (ks f : List Int) : Prop where
 ok : zaJ (netN g) (netA g p ks) f
 most : ∀ f',zaJ (netN g) (netA g p ks) f'->valF (netA g p ks) f'<=valF (netA g p ks) f
 val : valF (netA g p ks) f=maxF (netN g) (netA g p ks)
theorem zmg {ks : List Int} {n : Int} (h : Rise ks 0 (n - 1)) : ∀ x∈ks,0<=x/\x<n:=λ x hx=>by
 have:=h.nodup.2 x hx;omega
set_option maxRecDepth 100000 in
set_option maxHeartbeats 4000000 in
open Classical in
theorem zst (g : Gr) (p : Pol) (ks : List Int) (hg : GrOk g) (hp : zbu g.size p) (hr : Rise ks 0 (g.size - 1)) (hs : p.seeds.length<=64) (hsl : ks.length<=64) :
  ∃ f,zod g p ks f/\zaj Tryz.prog zfE [eG g,eP p,ints ks] [] (.tup [eN ⟨netN g,netA g p ks⟩,.rs 0 0 (netA g p ks).length,.B (decide (zau g p ks))]) [some ⟨1,zag f,0⟩]:=by
 have hnet:=zlm g p ks hg hp hr hs hsl;rw [<- zlR hg] at hnet;have hnv:=zlU hg hp (zmg hr) hs hsl;obtain ⟨f,⟨hf1,hf2⟩,hmax⟩:=zyZ _ _ hnv;have hval:=zlL hnv hf1;have hmf:=ziw hf1 hf2;refine ⟨f,⟨hf1,hf2,hmf.symm⟩,?_⟩;have hcs : zau g p ks↔valF (netA g p ks) f=ks.length:=by unfold zau; rw [hmf]
 have hfl:=hf1.fit.len;obtain ⟨A,hA⟩ : ∃ A,A=netA g p ks:=⟨_,rfl⟩;obtain ⟨N,hN⟩ : ∃ N,N=netN g:=⟨_,rfl⟩;rw [show zbK g p (zaQ g p) ks=A from hA.symm,<- hN] at hnet
 rw [<- hA,<- hN] at hmax hval;rw [<- hA] at hcs hfl ⊢;rw [<- hN];refine zoX.ac ?_;show awp _ 0 _ _ ⟨33,[(0,eG g),(1,eP p),(2,ints ks)],[],16⟩;have htake : ∀ g : Int->List AV,List.take A.length (List.map g f)=List.map g f:=λ g=>List.take_of_length_le (by simp; omega)
 refine rs [2,3,4,6] [32] [16,24] ?_;refine rx (s:=?s2) [2,6,9] [32] [112] rfl ?o2 ?q2
 case o2=>simp; refine zap hnet (by simp) ?_; simp; rfl
 refine zaa ⟨33,[(2,ints ks),(6,.pt 32 0 0),(9,.pv (nC ⟨N,A⟩)),(11,.rs 33 0 A.length)],[(32,some ⟨2,[[.I 0,.sc (.slice none 0 0)]],0⟩),(33,some ⟨1,zag f,0⟩)],300⟩ rfl ?_ ?_
 .simp
  refine zbz hmax (by simp) ?_
  simp;exact LeI [(32,32),(144,33)] []
 refine zaC ⟨33,[(6,.pt 32 0 0),(7,.rs 33 0 A.length),(8,.B (decide (zau g p ks)))],[(32,some ⟨2,[nC ⟨N,A⟩],0⟩),(33,some ⟨1,zag f,0⟩)],600⟩ rfl ?_ ?_
 .simp
  refine zi1 [33] hval (by simp [fcd,htake,hfl]) (.sc _) ?_
  simp [zat];exact ⟨rfl,Le.go [(32,32),(33,33)] [] rfl rfl (by simp <;> exact wkB (by rw [Bool.eq_iff_iff]; simp [hcs])) (by simp [fcd])⟩
 refine zai ?_;exact ⟨.inr rfl,zao.out [33] [] rfl (by simp) (by simp) (by simp) (by simp [fcd])⟩
theorem zx9 (L : List Int) (a : Nat) {l : List Int} (h : 0<l.length) : ofD L a l∈l:=by
 have:=zgk (L:=L) (a:=a) (n:=l.length) (by omega)
 obtain ⟨q,hq⟩ : ∃ q : Nat,(zax L a l.length).1=q:=⟨(zax L a l.length).1.toNat,by omega⟩
 have hql : q<l.length:=by omega
 unfold ofD;rw [hq];simp [hql]
theorem znh (L : List Int) (a : Nat) (n : Int) (hl : L.length<=400) (ha : a<=L.length) (h0 : 0<n) (hn : n<=1000000) : ∃ (x : Nat) (b : Nat),(b<=L.length/\(x : Int)<n)/\zaj Tryz.prog zaz [.pt 0 0 0,.I n] [dice L a] (.I x) [some (dice L b)]:=by
 have:=zgk (L:=L) (a:=a) h0;obtain ⟨q,hq⟩ : ∃ q : Nat,(zax L a n).1=q:=⟨(zax L a n).1.toNat,by omega⟩
 exact ⟨q,_,⟨zc2 ha,by omega⟩,by rw [<- hq]; exact zpk L a n (by omega) ha (by omega)⟩
theorem Of_a (L : List Int) (a : Nat) (l : List Int) (hl : L.length<=400) (ha : a<=L.length) (h0 : 0<l.length) (hl2 : l.length<=100) : ∃ (x : Int) (b : Nat),(b<=L.length/\x∈l)/\zaj Tryz.prog zer [.pt 0 0 0,ints l] [dice L a] (.I x) [some (dice L b)] :=
 ⟨_,_,⟨zc2 ha,zx9 L a h0⟩,zA6 L a l (by omega) ha h0 (by omega)⟩
theorem zAU (L : List Int) (a : Nat) (n : Int) (hl : L.length<=400) (ha : a<=L.length) (hn0 : 0<=n) (hn : n<=1000000) : ∃ (x : Bool) (b : Nat),b<=L.length/\zaj Tryz.prog zdG [.pt 0 0 0,.I n] [dice L a] (.B x) [some (dice L b)] :=
 ⟨_,_,zc2 ha,zxy L a n (by omega) ha hn0 (by omega)⟩
section
variable {P : Program} {np id : Nat} {h : Nat->Option Ent} {K : AV->List Nat->List (Nat × Option Ent)->Prop} {f : FuncId} {first capt args args' : List AV} {res : AV}
theorem zsz {j : Nat} {e ej : Ent} (hnp : np<=j) (hj : h j=some ej) (hc : zaj P f args' [] res [some e]) (he : (first++args++capt).map (conv [] [j] h 4)=args')
  (hk : K (conv (swp [] id) [] (λ _=>none) 4 res) [j] [(id,some (zay (swp [] id) [] (λ _=>none) 4 e)),(j,some { ej with ro:=ej.rows.length })]) : aK P np id .call (.fn (.func f) first capt::args) h K :=
 ⟨[],[j],true,args',[],res,[some e],by simp,by simp,by simpa using hnp,by rw [List.zipIdx_nil,he]; exact zdy _,rfl,hc,by simp,.inl rfl,by simpa [swp,hj] using hk⟩
end
def TabL (t : List Int) : Prop:=∀ i (h : i<t.length),1<=t[i]/\t[i]<=1000/\(0<i->t[i]<=t[i - 1])
theorem zui {t : List Int} {v : Int} (h : TabL t) (h1 : 1<=v) (h2 : v<=1000) (h3 : ∀ x∈t,v<=x) : TabL (t++[v]):=by
 intro i hi;rw [List.length_append,List.length_singleton] at hi
 by_cases hit : i<t.length
 .rw [List.getElem_append_left hit]
  obtain ⟨a,b,c⟩:=h i hit;refine ⟨a,b,λ hp=>?_⟩;rw [List.getElem_append_left (by omega)]
  exact c hp
 .obtain rfl : i=t.length:=by omega
  simp only [List.getElem_concat_length];refine ⟨h1,h2,λ hp=>?_⟩;rw [List.getElem_append_left (by omega)]
  exact h3 _ (List.getElem_mem _)
set_option maxRecDepth 100000 in
set_option maxHeartbeats 4000000 in
theorem zwQ (L : List Int) (a : Nat) (g : Gr) (hl : L.length<=400) (ha : a<=L.length) (h0 : 0<g.size) (hn : g.size<=1000) :
  ∃ x : Pol × Nat,(zbu g.size x.1/\x.1.seeds.length<=2/\x.1.table.length<=4/\x.2<=L.length)/\zaj Tryz.prog zeX [.pt 0 0 0,eG g] [dice L a] (eP x.1) [some (dice L x.2)]:=by
 refine zkY.acallsX (args:=[.pt 0 0 0,eG g]) (hs:=[dice L a]) (λ x=>eP x.1) (λ x=>[some (dice L x.2)]) (λ x : Pol × Nat=>zbu g.size x.1/\x.1.seeds.length<=2/\x.1.table.length<=4/\x.2<=L.length) (nbz rfl) (nbz rfl) (λ _=>by simp) ?_
 show awp _ 1 _ _ ⟨50,[(0,.pt 0 0 0),(1,eG g)],[(0,some (dice L a))],16⟩;obtain ⟨k1,b1,⟨hb1,hk1⟩,hc1⟩:=znh L a g.size hl ha h0 (by omega)
 obtain ⟨lv,b2,⟨hb2,hlv⟩,hc2⟩:=Of_a L b1 [1,1,2,3] hl hb1 (by simp) (by simp)
 have hlv' : 1<=lv/\lv<=3:=by simp at hlv; omega
 obtain ⟨o,b3,hb3,hc3⟩:=zAU L b2 3 hl hb2 (by omega) (by omega)
 refine zaa ⟨50,[(0,.pt 0 0 0),(3,.pv (gC g)),(4,.pt 24 0 0)],[(0,some (dice L a)),(24,some ⟨3,[[.nilS,.nilS,.I 0]],0⟩)],32⟩ rfl ?_ ?_
 .simp
  exact LeH [(0,0),(24,24)] [16]
 refine zaa ⟨50,[(0,.pt 0 0 0),(3,.pv (gC g)),(4,.pt 24 0 0),(5,.pt 104 0 0)],[(0,some (dice L b2)),(24,some ⟨3,[[.nilS,.nilS,.I 0]],0⟩),(104,some ⟨3,[[.rs 17 0 1,.nilS,.I lv]],0⟩),(17,some ⟨1,zag [(k1 : Int)],0⟩)],120⟩ rfl ?_ ?_
 .simp
  refine zcz (i:=0) rfl (e':=dice L a) (by simp) hc1 (by simp) (by simp) ?_
  simp;refine zox (i:=0) (j:=80) (by decide) (by decide) rfl rfl (e':=dice L b1) (by simp) hc2 (by simp) (by simp) ?_
  simp;exact LeH [(0,0),(24,24),(104,104),(64,17)] []
 refine zaO (ι:=List Int × Nat) (λ s=>⟨50,[(0,.pt 0 0 0),(4,.pt 24 0 0),(5,.pt 104 0 0)],[(0,some (dice L s.2)),(24,some ⟨3,[[.nilS,.nilS,.I 0]],0⟩),(104,some ⟨3,[[.rs 17 0 s.1.length,.nilS,.I lv]],0⟩),(17,some ⟨1,zag s.1,0⟩)],300⟩)
  (λ s=>s.2<=L.length/\s.1≠[]/\s.1.length<=2/\s.1.Pairwise (· < ·) /\ ∀ k∈s.1,0<=k/\k<g.size) ?_ λ s hs=>?_
 .refine zaa ⟨50,[(0,.pt 0 0 0),(3,.pv (gC g)),(4,.pt 24 0 0),(5,.pt 104 0 0),(18,.B o)],[(0,some (dice L b3)),(24,some ⟨3,[[.nilS,.nilS,.I 0]],0⟩),(104,some ⟨3,[[.rs 17 0 1,.nilS,.I lv]],0⟩),(17,some ⟨1,zag [(k1 : Int)],0⟩)],136⟩ rfl ?_ ?_
  .simp
   refine zcz (i:=0) rfl (e':=dice L b2) (by simp) hc3 (by simp) (by simp) ?_
   simp;exact Le.keep rfl (Nat.le_refl _) (by simp) (by simp)
  cases o with
  | true =>
    refine zad _ rfl (λ _=>?_) λ h=>by cases h
    obtain ⟨k2,b4,⟨hb4,hk2⟩,hc4⟩:=znh L b3 g.size hl hb3 h0 (by omega)
    have hput:=zxz [(k1 : Int)] k2 (by simp)
    obtain ⟨S,hS⟩ : ∃ S,S=putL [(k1 : Int)] k2:=⟨_,rfl⟩;rw [<- hS] at hput;refine zcP rfl ?_;simp;refine zcz (i:=0) rfl (e':=dice L b3) (by simp) hc4 (by simp) (by simp) ?_
    simp;refine zsz (j:=17) (by decide) rfl hput (by simp) ?_
    simp [fcd];refine ⟨rfl,S,b4,⟨hb4,?_,?_,?_,λ k hk=>?_⟩,LeI [(0,0),(24,24),(104,104),(184,17)] []⟩
    .intro h
     have : (k1 : Int)∈S:=by rw [hS]; exact zpI.2 (.inl (by simp))
     rw [h] at this
     cases this
    .rw [hS]; exact zwM _ _
    .rw [hS]; exact zqC (by simp)
    .rw [hS] at hk
     rcases zpI.1 hk with h | h
     .simp at h; omega
     .omega
  | false =>
    refine zad _ rfl (λ h=>by cases h) λ _=>?_
    refine zae ?_;exact ⟨([(k1 : Int)],b3),⟨hb3,by simp,by simp,by simp,by simp; omega⟩,LeH [(0,0),(24,24),(104,104),(17,17)] []⟩
 obtain ⟨S,b4⟩:=s;obtain ⟨hb4,hS1,hS2,hS3,hS4⟩:=hs;simp only at hb4 hS1 hS2 hS3 hS4;obtain ⟨v0,b5,⟨hb5,hv0⟩,hc5⟩:=Of_a L b4 [3,2,1,6,0] hl hb4 (by simp) (by simp)
 have hv0' : 0<=v0/\v0<=6:=by simp at hv0; omega
 have hwv : IntKind.i64.wrap (1+v0)=1+v0:=w6;obtain ⟨n0,b6,⟨hb6,hn0⟩,hc6⟩:=znh L b5 4 hl hb5 (by omega) (by omega)
 have hwn : IntKind.i64.wrap (1+(n0 : Int))=((n0+1 : Nat) : Int):=by rw [w6]; omega
 refine zaa ⟨50,[(0,.pt 0 0 0),(4,.pt 24 0 0),(5,.pt 104 0 0),(6,.I (1+v0))],[(0,some (dice L b5)),(24,some ⟨3,[[.nilS,.nilS,.I 0]],0⟩),(104,some ⟨3,[[.rs 17 0 S.length,.nilS,.I lv]],0⟩),(17,some ⟨1,zag S,0⟩)],400⟩ rfl ?_ ?_
 .simp
  refine zox (i:=0) (j:=308) (by decide) (by decide) rfl rfl (e':=dice L b4) (by simp) hc5 (by simp) (by simp) ?_
  simp [hwv];exact LeI [(0,0),(24,24),(104,104),(17,17)] []
 refine zab ?_;refine zaa ⟨50,[(0,.pt 0 0 0),(4,.pt 24 0 0),(5,.pt 104 0 0),(6,.I (1+v0)),(7,.I (n0+1 : Nat))],[(0,some (dice L b6)),(24,some ⟨3,[[.nilS,.nilS,.I 0]],0⟩),(104,some ⟨3,[[.rs 17 0 S.length,.nilS,.I lv]],0⟩),(17,some ⟨1,zag S,0⟩)],432⟩ rfl ?_ ?_
 .simp
  refine zcz (i:=0) rfl (e':=dice L b5) (by simp) hc6 (by simp) (by simp) ?_
  simp [hwn];exact LeI [(0,0),(24,24),(104,104),(17,17)] []
 refine zaf ?_
 refine zas (ι:=(List Int × Int) × (Nat × Nat)) (λ s=>⟨50,[(0,.pt 0 0 0),(4,.pt 24 0 0),(5,.pt 104 0 0),(6,.I s.1.2),(7,.I s.2.1)],[(0,some (dice L s.2.2)),(24,some ⟨3,[[.nilS,.nilS,.I 0]],0⟩),(104,some ⟨3,[[.rs 17 0 S.length,.rs 18 0 s.1.1.length,.I lv]],0⟩),(17,some ⟨1,zag S,0⟩),(18,some ⟨1,zag s.1.1,0⟩)],432⟩)
  (λ s=>s.1.1.length+s.2.1=n0+1/\TabL s.1.1/\(1<=s.1.2/\s.1.2<=7)/\(∀ x∈s.1.1,s.1.2<=x)/\s.2.2<=L.length) (λ s=>s.2.1) (([],1+v0),(n0+1,b6)) ⟨by simp,λ i h=>by simp at h,⟨by simp only; omega,by simp only; omega⟩,by simp,hb6⟩
  (Le.lst [(0,0),(24,24),(104,104),(17,17)] [] [(18,1)] rfl (by simp) (by simp) (by simp) (by simp) (by simp) (by simp) (by simp) (by simp [Up]) (by simp [fcd]; exact ⟨zaN.rfl' (by simp),zaN.rfl' (by simp),zaN.row rfl (by omega) (by simp [UpL,Up]),zaN.rfl' (by simp)⟩)) ?_
 rintro ⟨⟨T,v⟩,n,b⟩ ⟨hTn,hT,hv,hTv,hb⟩
 simp only at hTn hT hv hTv hb;refine zab ?_;refine rk (s:=?s7) [0,4,5,6,7,35] [0,24,104,17,18] rfl ?o7 ?q7
 case o7=>simp; rfl
 refine zad _ rfl (λ h8=>?_) λ h8=>?_
 .simp at h8
  obtain ⟨m,rfl⟩ : ∃ m,n=m+1:=⟨n - 1,by omega⟩
  have hwm : IntKind.i64.wrap (((m+1 : Nat) : Int) - 1)=(m : Int):=by rw [w6]; omega
  have hwm2 : IntKind.i64.wrap (m : Int)=(m : Int):=w6;obtain ⟨d,b',⟨hb',hd⟩,hc7⟩:=znh L b 3 hl hb (by omega) (by omega)
  have hwd : IntKind.i64.wrap (v - (d : Int))=v - (d : Int):=w6;have htl : ∀ f : Int->List AV,List.take T.length (List.map f T)=List.map f T:=λ f=>List.take_of_length_le (by simp)
  refine zae ?_;refine zab ?_;refine zaf ?_;refine zaa ⟨50,[(0,.pt 0 0 0),(4,.pt 24 0 0),(5,.pt 104 0 0),(6,.I v),(7,.I (m+1 : Nat))],[(0,some (dice L b)),(24,some ⟨3,[[.nilS,.nilS,.I 0]],0⟩),(104,some ⟨3,[[.rs 17 0 S.length,.rs 18 0 (T++[v]).length,.I lv]],0⟩),(17,some ⟨1,zag S,0⟩),(18,some ⟨1,zag (T++[v]),0⟩)],512⟩ rfl ?_ ?_
  .simp [htl]
   refine ⟨by omega,by omega,?_⟩
   exact LeI [(0,0),(24,24),(104,104),(17,17),(480,18)] []
  refine zar (s:=?s9) rfl ?o9 ?q9
  case o9 =>
   simp;refine zcz (i:=0) rfl (e':=dice L b) (by simp) hc7 (by simp) (by simp) ?_
   simp [hwd];rfl
  refine zan ?_;refine ⟨((T++[v],if 1<v - d then v - d else 1),(m,b')),⟨by simp only [List.length_append,List.length_singleton]; omega,zui hT hv.1 (by omega) hTv,⟨by simp only; split <;> omega,by simp only; split <;> omega⟩,λ x hx=>?_,hb'⟩,by simp only; omega,Le.go [(0,0),(24,24),(104,104),(17,17),(18,18)] [] rfl rfl (by simp [hwm2]) (by simp [fcd])⟩
  have : v<=x:=by
   rcases List.mem_append.1 hx with h | h
   .exact hTv x h
   .rw [List.mem_singleton] at h; omega
  simp only;split <;> omega
 simp at h8;obtain rfl : n=0:=by omega
 refine zaq ?_;refine hit ?_;refine rk (s:=?s11) [4] [0,24,17,18] rfl ?o11 ?q11
 case o11=>simp; rfl
 refine zai ?_;refine zm0.mk (.inr rfl) (⟨S,T,lv⟩,b) ⟨⟨hS1,zh3 hS3 hS4,by simp only; omega,by simp only; omega,hlv'.1,hlv'.2,hT⟩,hS2,by simp only; omega,hb⟩ ?_
 refine ⟨_,rfl,[],[17,18],by simp [List.range,List.range.loop],by simp,by simp,?_,?_⟩
 .simp [List.range,List.range.loop,fcd,zac]
 .simp [List.range,List.range.loop]
def inD (D : List Int) (n : Nat) : List Int:=((List.range n).map λ k : Nat=>(k : Int)).filter λ k=>decide (k∈D)
theorem zoZ (D : List Int) (n : Nat) : inD D (n+1)=inD D n++if (n : Int)∈D then [(n : Int)] else []:=by
 unfold inD;rw [List.range_succ,List.map_append,List.filter_append];simp only [List.map_cons,List.map_nil,List.filter_cons,List.filter_nil];split <;> simp_all
theorem zoN {D : List Int} {n : Nat} {x : Int} : x∈inD D n↔(0<=x/\x<n)/\x∈D:=by
 unfold inD;rw [List.mem_filter,List.mem_map];constructor
 .rintro ⟨⟨k,hk,rfl⟩,h⟩
  have:=List.mem_range.1 hk;exact ⟨by omega,by simpa using h⟩
 .rintro ⟨h,h2⟩
  exact ⟨⟨x.toNat,List.mem_range.2 (by omega),by omega⟩,by simpa using h2⟩
theorem zsG (D : List Int) (n : Nat) : (inD D n).Pairwise (· < ·):=by
 unfold inD;refine List.Pairwise.filter _ ?_;rw [List.pairwise_map];exact List.pairwise_lt_range.imp λ h=>by omega
theorem zr1 (D : List Int) (n : Nat) : (inD D n).length<=n:=by
 unfold inD;refine Nat.le_trans (List.length_filter_le ..) (by simp)
set_option maxRecDepth 100000 in
set_option maxHeartbeats 4000000 in
theorem zv6 (N : Nat) (A : List Ed) (hn : zbX ⟨N,A⟩) :
  ∃ side : List Int,(zqK ⟨N,A⟩ side/\cutV A side=maxF N A/\side.length<=130/\side=zgT N A)/\zaj Tryz.prog zgN [eN ⟨N,A⟩] [] (.tup [.rs 0 0 side.length,.I 0]) [some ⟨1,zag side,0⟩]:=by
 have hno:=zgx hn;obtain ⟨f,⟨hf1,hf2⟩,hmax⟩:=zyZ N A hn;have hfl:=hf1.fit.len;obtain ⟨⟨D,b⟩,⟨hb,hcl⟩,hcall⟩:=zog N A f hn hfl;simp only at hb hcl hcall
 have h1D : (1 : Int)∉D:=λ hm=>by
  obtain ⟨l,hl⟩:=hb.chain hm
  have h1:=hl.push hno hf1 (v:=1) (by omega) λ s hs=>by
   obtain ⟨i,hi,rfl⟩:=List.mem_iff_getElem.1 hs;have:=(hl.at_ i hi).2.1;omega
  have h2:=hf2 _ h1.1;omega
 have hgr:=(ziF hno hf1 hb.mem0 h1D hcl).1;have hmf:=ziw hf1 hf2;have hn':=hn;obtain ⟨hn0,hn1,hal,hav⟩:=hn;simp only at hn0 hn1 hal hav
 have hmD : ∀ x,x∈inD D N↔x∈D:=λ x=>by
  rw [zoN];exact ⟨λ h=>h.2,λ h=>⟨hb.rng x h,h⟩⟩
 have hside : zqK ⟨N,A⟩ (inD D N):=⟨hn',zh3 (zsG D N) λ k hk=>by have:=(zoN.1 hk).1; simp only; omega,(hmD 0).2 hb.mem0,λ h=>h1D ((hmD 1).1 h)⟩
 have hcut : cutV A (inD D N)=maxF N A:=by
  rw [zl6,hmf,hgr]
  congr 1
  funext x
  exact decide_eq_decide.2 (hmD x)
 refine ⟨inD D N,⟨hside,hcut,Nat.le_trans (zr1 D N) (by omega),zo8 hno hf1 hf2 hb.tree hb.mem0 h1D hcl⟩,?_⟩
 have hblen:=hb.len
 have hbk : ∀ k : Nat,1<=k->k<N->b[k]? = some (b.getD k 0)/\(b.getD k 0=0↔(k : Int)∉D):=λ k h1 h2=>by
  refine ⟨by rw [List.getD_eq_getElem?_getD,List.getElem?_eq_getElem (by omega),Option.getD_some],λ h hm=>?_,λ h=>?_⟩
  .have:=hb.inn k hm (by omega)
   simp only [Int.toNat_natCast] at this;exact this h
  .have:=hb.out k (by omega) h
   simpa using this
 have htake : ∀ g : Int->List AV,List.take A.length (List.map g f)=List.map g f:=λ g=>List.take_of_length_le (by simp; omega)
 refine znL.ac ?_;show awp _ 0 _ _ ⟨37,[(0,eN ⟨N,A⟩)],[],16⟩;refine rs [1] [] [16] ?_;refine zaa ⟨37,[(1,.pv (nC ⟨N,A⟩)),(4,.rs 33 0 A.length),(5,.I 0)],[(33,some ⟨1,zag f,0⟩)],100⟩ rfl ?_ ?_
 .simp
  refine zbz hmax (by simp) ?_
  simp;exact LeI [(48,33)] []
 refine zab ?_;refine zaa ⟨37,[(1,.pv (nC ⟨N,A⟩)),(4,.rs 33 0 A.length),(15,.B false)],[(33,some ⟨1,zag f,0⟩)],200⟩ rfl ?_ ?_
 .simp
  exact LeI [(33,33)] []
 refine zad _ rfl (λ h=>by cases h) λ _=>?_
 refine zae ?_;refine zaa ⟨37,[(1,.pv (nC ⟨N,A⟩)),(6,.rs 34 0 N)],[(34,some ⟨1,zag b,0⟩)],300⟩ rfl ?_ ?_
 .simp
  refine zm4 [33] hcall (by simp [fcd,htake,hfl]) (.rs _ _ _) zv4 ?_
  simp;exact LeI [(216,34)] []
 have hi1 : inD D 1=[0]:=by
  rw [zoZ];have : ((0 : Nat) : Int)∈D:=hb.mem0;rw [if_pos this];rfl
 refine zaa ⟨37,[(1,.pv (nC ⟨N,A⟩)),(6,.rs 34 0 N),(7,.rs 35 0 (inD D 1).length)],[(34,some ⟨1,zag b,0⟩),(35,some ⟨1,zag (inD D 1),0⟩)],400⟩ rfl ?_ ?_
 .rw [hi1]
  simp;exact LeI [(34,34),(300,35)] []
 refine zab ?_;refine zaa ⟨37,[(1,.pv (nC ⟨N,A⟩)),(6,.rs 34 0 N),(7,.rs 35 0 (inD D 1).length),(8,.I 1)],[(34,some ⟨1,zag b,0⟩),(35,some ⟨1,zag (inD D 1),0⟩)],500⟩ rfl ?_ ?_
 .simp
  exact LeI [(34,34),(35,35)] []
 refine zaf ?_;refine zas (ι:=Nat) (λ k=>⟨37,[(1,.pv (nC ⟨N,A⟩)),(6,.rs 34 0 N),(7,.rs 35 0 (inD D k).length),(8,.I k)],[(34,some ⟨1,zag b,0⟩),(35,some ⟨1,zag (inD D k),0⟩)],500⟩) (λ k=>1<=k/\k<=N) (λ k=>N - k) 1 (by omega) (LeI [(34,34),(35,35)] []) ?_
 rintro k ⟨hk1,hk2⟩
 have hdl:=zr1 D k;refine zab ?_;refine zaa ⟨37,[(1,.pv (nC ⟨N,A⟩)),(6,.rs 34 0 N),(7,.rs 35 0 (inD D k).length),(8,.I k),(24,.B (decide (k<N)))],[(34,some ⟨1,zag b,0⟩),(35,some ⟨1,zag (inD D k),0⟩)],600⟩ rfl ?_ ?_
 .simp
  exact LeI [(34,34),(35,35)] []
 refine zad _ rfl (λ h10=>?_) λ h10=>?_
 .simp at h10
  obtain ⟨hbe,hbi⟩:=hbk k hk1 h10;obtain ⟨y,hy⟩ : ∃ y,y=b.getD k 0:=⟨_,rfl⟩;rw [<- hy] at hbe hbi;have hsu:=zoZ D k;have hw1 : IntKind.i64.wrap ((k : Int)+1)=(k : Int)+1:=w6;refine zae ?_;refine zaO (ι:=Unit) (λ _=>⟨37,[(1,.pv (nC ⟨N,A⟩)),(6,.rs 34 0 N),(7,.rs 35 0 (inD D (k+1)).length),(8,.I k)],[(34,some ⟨1,zag b,0⟩),(35,some ⟨1,zag (inD D (k+1)),0⟩)],1000⟩) (λ _=>True) ?_ λ _ _=>?_
  .refine zaf ?_
   refine zaa ⟨37,[(1,.pv (nC ⟨N,A⟩)),(6,.rs 34 0 N),(7,.rs 35 0 (inD D k).length),(8,.I k),(31,.B (!decide (y=0)))],[(34,some ⟨1,zag b,0⟩),(35,some ⟨1,zag (inD D k),0⟩)],700⟩ rfl ?_ ?_
   .simp [hbe,h10]
    exact Le.go [(34,34),(35,35)] [] rfl rfl (by simp <;> exact wkB (by rw [Bool.eq_iff_iff]; simp)) (by simp [fcd])
   refine zad _ rfl (λ h12=>?_) λ h12=>?_
   .simp at h12
    rw [if_pos (Decidable.byContradiction λ h=>h12 (hbi.2 h))] at hsu;rw [hsu];obtain ⟨E,hE⟩ : ∃ E,E=inD D k:=⟨_,rfl⟩;rw [<- hE] at hdl ⊢;have htk : ∀ g : Int->List AV,List.take E.length (List.map g E)=List.map g E:=λ g=>List.take_of_length_le (by simp)
    refine zav rfl ?_;simp [htk];exact ⟨by omega,by omega,LeI [(34,34),(724,35)] []⟩
   .simp at h12
    rw [if_neg (hbi.1 h12),List.append_nil] at hsu;rw [hsu];refine zae ?_;exact ⟨(),trivial,LeI [(34,34),(35,35)] []⟩
  refine zan ?_;exact ⟨k+1,by omega,by omega,Le.go [(34,34),(35,35)] [] rfl rfl (by simp [hw1]) (by simp [fcd])⟩
 simp at h10;obtain rfl : k=N:=by omega
 refine zaq ?_;refine hit ?_;refine zaa ⟨37,[(2,.rs 35 0 (inD D k).length),(3,.I 0)],[(35,some ⟨1,zag (inD D k),0⟩)],700⟩ rfl ?_ ?_
 .simp
  exact LeI [(35,35)] []
 refine zai ?_;exact ⟨.inr rfl,zao.out [35] [] rfl (by simp) (by simp) (by simp) (by simp [fcd])⟩
abbrev zbo (R : List (Int × List Int)) : List (List AV):=R.map λ r=>[.I r.1,ints r.2]
abbrev eAcc (acc flow : List Int) (R : List (Int × List Int)) : AV:=.agg [ints acc,ints flow,.vs 2 false (zbo R)]
structure RSt where
 i : Nat
 R : List (Int × List Int)
set_option maxRecDepth 100000 in
set_option maxHeartbeats 4000000 in
open Classical in
theorem zAc (g : Gr) (p : Pol) (hg : GrOk g) (hp : zbu g.size p) (hs : p.seeds.length<=64) :
  ∃ x : List (Int × List Int) × List Int,(zjW g p (ordL (zal g p.lv) p.seeds) x.1/\zod g p (zaM (accR g p (ordL (zal g p.lv) p.seeds))) x.2) /\
    zaj Tryz.prog ziJ [eG g,eP p] [] (.tup [eAcc (accR g p (ordL (zal g p.lv) p.seeds)) x.2 x.1,.I 0]) []:=by
 refine zt0.acallsX (args:=[eG g,eP p]) (hs:=[]) (λ x=>.tup [eAcc (accR g p (ordL (zal g p.lv) p.seeds)) x.2 x.1,.I 0]) (λ _=>[]) (λ x : List (Int × List Int) × List Int=>zjW g p (ordL (zal g p.lv) p.seeds) x.1/\zod g p (zaM (accR g p (ordL (zal g p.lv) p.seeds))) x.2) (nbz rfl) (nbz rfl) (λ _=>Nat.le_refl _) ?_;show awp _ 0 _ _ ⟨84,[(0,eG g),(1,eP p)],[],16⟩;have hsz:=hg.1.1;have hsz2:=hg.1.2.1;have hel:=hg.edges_le;have hgl:=hg.gone_le;have hchk:=zgz g p (by omega) (by omega) (by omega) (by have:=hp.2.2.2.1; omega)
 rw [if_pos hg,if_pos hp] at hchk;have hlev:=zgC g p.lv (by omega) (by omega)
 have hord:=znF (g:=zal g p.lv) (S:=p.seeds) (hg.level p.lv) (by omega)
 obtain ⟨o,ho⟩ : ∃ o,o=ordL (zal g p.lv) p.seeds:=⟨_,rfl⟩;have hor : ∀ k∈o,0<=k/\k<g.size:=λ k hk=>by rw [ho] at hk; have h:=zeV hk; exact h
 have hon : o.Nodup:=by rw [ho]; exact zcv _ _
 rw [<- ho] at hord ⊢
 have hol : o.length<=64:=by
  have:=zbm (b:=(List.range g.size.toNat).map λ i : Nat=>(i : Int)) hon λ x hx=>by
   have:=hor x hx;exact List.mem_map.2 ⟨x.toNat,List.mem_range.2 (by omega),by omega⟩
  simp at this;omega
 have hjr : ∀ a : List Int,(∀ x∈a,0<=x/\x<g.size)->Rise (zaM a) 0 (g.size - 1):=λ a h=>ziq h;have hj0 : zaM []=[]:=rfl;refine rs [2,3,4] [32] [16,24] ?_;refine zab ?_;refine rx (s:=?s2) [2,3,4,6] [32] [] rfl ?o2 ?q2
 case o2=>simp; refine zap hchk (by simp) ?_; simp; rfl
 refine rs [2,3,4,6,21] [32] [] ?_;refine zad _ rfl (λ h=>by cases h) λ _=>?_
 refine zae ?_;refine zaa ⟨84,[(2,.pv (gC g)),(3,.pv (pC p)),(4,.pt 32 0 0),(7,.pt 40 0 0)],[(32,some ⟨3,[[.nilS,.nilS,.nilS]],0⟩),(40,some ⟨3,[[.nilS,.nilS,.nilS]],0⟩)],200⟩ rfl ?_ ?_
 .simp
  exact LeH [(32,32),(96,40)] []
 refine zaa ⟨84,[(2,.pv (gC g)),(3,.pv (pC p)),(4,.pt 32 0 0),(7,.pt 40 0 0),(8,.vs 1 false [])],[(32,some ⟨3,[[.nilS,.nilS,.nilS]],0⟩),(40,some ⟨3,[[.nilS,.nilS,.nilS]],0⟩)],300⟩ rfl ?_ ?_
 .simp
  exact LeH [(32,32),(40,40)] []
 refine zaC ⟨84,[(2,.pv (gC g)),(3,.pv (pC p)),(4,.pt 32 0 0),(7,.pt 40 0 0),(8,.vs 1 false []),(9,ints o)],[(32,some ⟨3,[[.nilS,.nilS,.nilS]],0⟩),(40,some ⟨3,[[.nilS,.nilS,.nilS]],0⟩)],400⟩ rfl ?_ ?_
 .simp
  refine zap hlev (by simp) ?_
  simp;refine zbz hord (by simp) ?_
  simp;exact ⟨rfl,Le.go [(32,32),(40,40)] [348] rfl rfl (by simp [fcd,zac]) (by simp)⟩
 refine zab ?_;refine zaa ⟨84,[(2,.pv (gC g)),(3,.pv (pC p)),(4,.pt 32 0 0),(7,.pt 40 0 0),(8,.vs 1 false []),(9,ints o),(10,.I 0)],[(32,some ⟨3,[[.nilS,.nilS,.nilS]],0⟩),(40,some ⟨3,[[.nilS,.nilS,.nilS]],0⟩)],500⟩ rfl ?_ ?_
 .simp
  exact LeH [(32,32),(40,40)] []
 refine zaf ?_
 refine zas (ι:=RSt) (λ s=>⟨84,[(2,.pv (gC g)),(3,.pv (pC p)),(4,.pt 32 0 0),(7,.pt 40 0 0),(8,ints (zaM (accR g p (o.take s.i)))),(9,ints o),(10,.I s.i)],
   [(32,some ⟨3,[[.nilS,.nilS,.nilS]],0⟩),(40,some ⟨3,[[.rs 41 0 (accR g p (o.take s.i)).length,.nilS,.rs 42 0 s.R.length]],0⟩),(41,some ⟨1,zag (accR g p (o.take s.i)),0⟩),(42,some ⟨2,zbo s.R,0⟩)],500⟩)
  (λ s=>s.i<=o.length/\zjW g p (o.take s.i) s.R) (λ s=>o.length - s.i) ⟨0,[]⟩ ⟨Nat.zero_le _,zjW.nil⟩
  (Le.lst [(32,32),(40,40)] [] [(41,1),(42,2)] rfl (by simp) (by simp) (by simp) (by simp) (by simp) (by simp) (by simp) (by simp [Up,zl0,hj0]; exact .refl _) (by simp [zl0,fcd]; exact ⟨zaN.rfl' (by simp),zaN.row rfl (by omega) (by simp [UpL,Up,Wk.refl])⟩)) ?_
 rintro ⟨i,R⟩ ⟨hi,hR⟩
 simp only at hi hR;obtain ⟨acc,hacc⟩ : ∃ acc,acc=accR g p (o.take i):=⟨_,rfl⟩;have hai : ∀ x∈acc,0<=x/\x<g.size:=λ x hx=>hor x (List.mem_of_mem_take (zfF (hacc ▸ hx)))
 have hal : acc.length<=64:=by
  have h1:=zoL (g:=g) (p:=p) (o.take i);rw [<- hacc] at h1;exact Nat.le_trans h1 (Nat.le_trans (List.length_take_le' i o) hol)
 have hRl:=hR.len;have hRl2:=List.length_take_le' i o;rw [<- hacc];refine zab ?_
 refine zaa ⟨84,[(2,.pv (gC g)),(3,.pv (pC p)),(4,.pt 32 0 0),(7,.pt 40 0 0),(8,ints (zaM acc)),(9,ints o),(10,.I i),(34,.B (decide (i<o.length)))],
   [(32,some ⟨3,[[.nilS,.nilS,.nilS]],0⟩),(40,some ⟨3,[[.rs 41 0 acc.length,.nilS,.rs 42 0 R.length]],0⟩),(41,some ⟨1,zag acc,0⟩),(42,some ⟨2,zbo R,0⟩)],600⟩ rfl ?_ ?_
 .simp
  exact LeI [(32,32),(40,40),(41,41),(42,42)] []
 refine zad _ rfl (λ h11=>?_) λ h11=>?_
 .simp at h11
  have hw1 : IntKind.i64.wrap ((i : Int)+1)=(i : Int)+1:=w6;obtain ⟨k,hk⟩ : ∃ k,k=o[i]:=⟨_,rfl⟩;have hkr:=hor _ (List.getElem_mem h11);rw [<- hk] at hkr;have hts : o.take (i+1)=o.take i++[k]:=by rw [List.take_succ_eq_append_getElem h11,hk]
  have hput:=zxz (zaM acc) k (by have:=zgS acc; omega)
  rw [zuu hkr.1 (by omega)] at hput
  have hks : ∀ x∈acc++[k],0<=x/\x<g.size:=λ x hx=>by
   rcases List.mem_append.1 hx with h | h
   .exact hai x h
   .rw [List.mem_singleton] at h; subst h; exact hkr
  have hrise:=hjr _ hks;have hJl:=zgS (acc++[k]);obtain ⟨f,hf,hsv⟩:=zst g p (zaM (acc++[k])) hg hp hrise hs hJl;have hnv:=zlU hg hp (zmg hrise) hs hJl;obtain ⟨side,⟨hsd1,hsd2,hsd3,hsd4⟩,hnear⟩:=zv6 _ _ hnv;have hyes:=zc3 (g:=g) (p:=p) (o:=o.take i) (k:=k);have hno:=zjE (g:=g) (p:=p) (o:=o.take i) (k:=k);rw [<- hacc,<- hts] at hyes hno;have hRy:=hR.yes (k:=k);have hRn:=λ h=>hR.no (k:=k) (side:=side) h;rw [<- hacc,<- hts] at hRy hRn;obtain ⟨J,hJ⟩ : ∃ J,J=zaM (acc++[k]):=⟨_,rfl⟩;rw [<- hJ] at hput hsv hnear hsd1 hsd2 hsd4 hyes hno hRy hf;refine zae ?_
  refine zaO (ι:=RSt) (λ s=>⟨84,[(2,.pv (gC g)),(3,.pv (pC p)),(4,.pt 32 0 0),(7,.pt 40 0 0),(8,ints (zaM (accR g p (o.take (i+1))))),(9,ints o),(10,.I i)],
   [(32,some ⟨3,[[.nilS,.nilS,.nilS]],0⟩),(40,some ⟨3,[[.rs 41 0 (accR g p (o.take (i+1))).length,.nilS,.rs 42 0 s.R.length]],0⟩),(41,some ⟨1,zag (accR g p (o.take (i+1))),0⟩),(42,some ⟨2,zbo s.R,0⟩)],3000⟩)
   (λ s=>zjW g p (o.take (i+1)) s.R) ?_ λ s hs'=>?_
  .refine zaf ?_
   refine zaa ⟨84,[(2,.pv (gC g)),(3,.pv (pC p)),(4,.pt 32 0 0),(7,.pt 40 0 0),(8,ints (zaM acc)),(9,ints o),(10,.I i),(11,.I k)],
    [(32,some ⟨3,[[.nilS,.nilS,.nilS]],0⟩),(40,some ⟨3,[[.rs 41 0 acc.length,.nilS,.rs 42 0 R.length]],0⟩),(41,some ⟨1,zag acc,0⟩),(42,some ⟨2,zbo R,0⟩)],700⟩ rfl ?_ ?_
   .simp [h11,<- hk]
    exact LeI [(32,32),(40,40),(41,41),(42,42)] []
   refine zaC ⟨84,[(2,.pv (gC g)),(3,.pv (pC p)),(4,.pt 32 0 0),(7,.pt 40 0 0),(8,ints (zaM acc)),(9,ints o),(10,.I i),(11,.I k),(12,.pv (nC ⟨netN g,netA g p J⟩)),(14,.B (decide (zau g p J)))],
    [(32,some ⟨3,[[.nilS,.nilS,.nilS]],0⟩),(40,some ⟨3,[[.rs 41 0 acc.length,.nilS,.rs 42 0 R.length]],0⟩),(41,some ⟨1,zag acc,0⟩),(42,some ⟨2,zbo R,0⟩)],900⟩ rfl ?_ ?_
   .simp
    refine zbz hput (by simp) ?_
    simp;refine zsz (j:=732) (by decide) rfl hsv (by simp [fcd,zac]) ?_
    simp;exact ⟨rfl,Le.go [(32,32),(40,40),(41,41),(42,42)] [780,732,740] rfl rfl (by simp [zac]) (by simp [fcd])⟩
   refine zab ?_
   refine zaa ⟨84,[(2,.pv (gC g)),(3,.pv (pC p)),(4,.pt 32 0 0),(7,.pt 40 0 0),(8,ints (zaM acc)),(9,ints o),(10,.I i),(11,.I k),(12,.pv (nC ⟨netN g,netA g p J⟩)),(51,.B (decide (zau g p J)))],
    [(32,some ⟨3,[[.nilS,.nilS,.nilS]],0⟩),(40,some ⟨3,[[.rs 41 0 acc.length,.nilS,.rs 42 0 R.length]],0⟩),(41,some ⟨1,zag acc,0⟩),(42,some ⟨2,zbo R,0⟩)],1000⟩ rfl ?_ ?_
   .simp
    exact LeI [(32,32),(40,40),(41,41),(42,42)] []
   refine zad _ rfl (λ h15=>?_) λ h15=>?_
   .have h15' : zau g p J:=of_decide_eq_true h15
    have hy:=hyes h15';have hRy':=hRy h15'
    refine zaa ⟨84,[(2,.pv (gC g)),(3,.pv (pC p)),(4,.pt 32 0 0),(7,.pt 40 0 0),(8,ints J),(9,ints o),(10,.I i)],
     [(32,some ⟨3,[[.nilS,.nilS,.nilS]],0⟩),(40,some ⟨3,[[.rs 41 0 (acc++[k]).length,.nilS,.rs 42 0 R.length]],0⟩),(41,some ⟨1,zag (acc++[k]),0⟩),(42,some ⟨2,zbo R,0⟩)],1200⟩ rfl ?_ ?_
    .simp [zac]
     refine ⟨by omega,by omega,?_⟩
     refine zbz hput (by simp) ?_
     simp [zat];exact Le.go [(32,32),(40,40),(1032,41),(42,42)] [1056] rfl rfl (by simp [fcd,zac]) (by simp [fcd])
    refine zaq ?_;refine hit ?_;exact ⟨⟨i,R⟩,hRy',Le.go [(32,32),(40,40),(41,41),(42,42)] [] rfl rfl (by simp [hy,<- hJ]) (by simp [hy,fcd])⟩
   .have h15' : ¬ zau g p J:=of_decide_eq_false h15
    have hn':=hno h15';have hRn':=hRn ⟨by rw [<- hJ]; exact h15',by rw [<- hJ]; exact hsd1,by rw [<- hJ]; exact hsd2,hsd3,by rw [<- hJ]; exact hsd4⟩
    refine zae ?_
    refine zaa ⟨84,[(2,.pv (gC g)),(3,.pv (pC p)),(4,.pt 32 0 0),(7,.pt 40 0 0),(8,ints (zaM acc)),(9,ints o),(10,.I i),(11,.I k),(15,ints side)],
     [(32,some ⟨3,[[.nilS,.nilS,.nilS]],0⟩),(40,some ⟨3,[[.rs 41 0 acc.length,.nilS,.rs 42 0 R.length]],0⟩),(41,some ⟨1,zag acc,0⟩),(42,some ⟨2,zbo R,0⟩)],1200⟩ rfl ?_ ?_
    .simp
     refine zbz hnear (by simp) ?_
     simp;exact Le.go [(32,32),(40,40),(41,41),(42,42)] [1008] rfl rfl (by simp [fcd,zac]) (by simp [fcd])
    have htR : ∀ h : Int × List Int->List AV,List.take R.length (List.map h R)=List.map h R:=λ h=>List.take_of_length_le (by simp)
    refine zav rfl ?_;simp [htR,zat];exact ⟨by omega,by omega,⟨i,R++[(k,side)]⟩,hRn',Le.go [(32,32),(40,40),(41,41),(1248,42)] [] rfl rfl (by simp [hn']) (by simp [hn',fcd])⟩
  refine zan ?_;exact ⟨⟨i+1,s.R⟩,⟨h11,hs'⟩,Nat.sub_lt_sub_left h11 (Nat.lt_succ_self i),Le.go [(32,32),(40,40),(41,41),(42,42)] [] rfl rfl (by simp [hw1]) (by simp [fcd])⟩
 simp at h11;obtain rfl : i=o.length:=by omega
 rw [List.take_length] at hacc hR;obtain ⟨f,hf,hsv⟩:=zst g p (zaM acc) hg hp (hjr _ hai) hs (zgS acc);refine zaq ?_;refine hit ?_;have hfl:=hf.ok.fit.len;have htf : ∀ h : Int->List AV,List.take (netA g p (zaM acc)).length (List.map h f)=List.map h f:=λ h=>List.take_of_length_le (by simp; omega)
 refine zaa ⟨84,[(4,.pt 32 0 0),(7,.pt 40 0 0)],
   [(32,some ⟨3,[[.nilS,.nilS,.nilS]],0⟩),(40,some ⟨3,[[ints acc,ints f,.vs 2 false (zbo R)]],0⟩)],1200⟩ rfl ?_ ?_
 .simp
  refine zbz hsv (by simp) ?_
  simp [zat];exact Le.go [(32,32),(40,40)] [41,42,624] rfl rfl (by simp) (by simp [fcd,zac,htf,hfl])
 refine zaa ⟨84,[(4,.pt 32 0 0),(5,.I 0)],[(32,some ⟨3,[[ints acc,ints f,.vs 2 false (zbo R)]],0⟩)],1400⟩ rfl ?_ ?_
 .simp [zat]
  exact LeI [(32,32)] []
 refine zai ?_;exact zm0.mk (.inr rfl) (R,f) ⟨hR,by rw [<- hacc]; exact hf⟩ (zao.out [] [] rfl (by simp) (by simp) (by simp [<- hacc]) (by simp))
theorem WayA.mem {A : List Ed} : ∀ {l : List Nat} {u w : Int},WayA A u l w -> ∀ j∈l,j<A.length
 | i::l,u,w,hw,j,hj=>by
   rcases List.mem_cons.1 hj with rfl | hj
   .exact hw.1
   .exact WayA.mem hw.2.2 j hj
theorem zmw.few {N : Nat} {A : List Ed} {f g : List Int} {l : List Nat} {w : Int} (hn : zfO N A) (h : zmw A f g l w) : l.length+1<=N:=by
 have:=zbm (b:=(List.range N).map λ i : Nat=>(i : Int)) h.met λ x hx=>by
  rcases List.mem_cons.1 hx with rfl | hx
  .have:=hn.two
   exact List.mem_map.2 ⟨0,List.mem_range.2 (by omega),rfl⟩
  .obtain ⟨j,hj,rfl⟩:=List.mem_map.1 hx
   have ha:=hn.arc _ (zfz (h.way.mem j hj));exact List.mem_map.2 ⟨(arcD A j).t.toNat,List.mem_range.2 (by omega),by omega⟩
 simpa [metA] using this
section
variable {P : Program} {np id : Nat} {h : Nat->Option Ent} {K : AV->List Nat->List (Nat × Option Ent)->Prop} {f : FuncId} {first capt args args' : List AV} {res : AV}
end
def zxJ (g : Gr) (p : Pol) (ks : List Int) (W : List (List Nat)) : Prop :=
 ∃ f g',zod g p (zaM ks) f/\zn8 (netN g) (netA g p (zaM ks)) f g' W/\(W.length : Int)=maxF (netN g) (netA g p (zaM ks)) /\ ∀ w∈W,w.length<=130
def befL (o acc : List Int) (i : Nat) : List Int:=(o.take i).filter λ k=>decide (k∈acc)
theorem zvF {o acc : List Int} {i : Nat} (h : i<o.length) : befL o acc (i+1)=befL o acc i++if o[i]∈acc then [o[i]] else []:=by
 unfold befL;rw [List.take_succ_eq_append_getElem h,List.filter_append];simp only [List.filter_cons,List.filter_nil,decide_eq_true_eq]
structure ForR (g : Gr) (p : Pol) (o : List Int) (key : Int) (x : Expl) : Prop where
 key_ : x.key=key
 bef : ∃ i,∃ h : i<o.length,o[i]=key/\x.before=befL o (accR g p o) i
 yes : key∈accR g p o->x.acc=true/\x.side=[] /\ ∃ W,zxJ g p (x.before++[key]) W/\x.paths=W.map (zek (netA g p (zaM (x.before++[key]))))
 no : key∉accR g p o->x.acc=false/\x.paths=[] /\ ∃ R,zjW g p o R/\(key,x.side)∈R
variable {g : Gr} {p : Pol}
theorem zpH : ∀ (b a : List Int),∃ l,accR g p (a++b)=accR g p a++l /\ ∀ x∈l,x∈b
 | [],a=>⟨[],by simp,by simp⟩
 | x::b,a=>by
   obtain ⟨l,hl,hm⟩:=zpH b (a++[x]);have e : a++x::b=a++[x]++b:=by simp
   rw [e,hl];rcases zqv (g:=g) (p:=p) a x with h | h
   .exact ⟨l,by rw [h],λ y hy=>List.mem_cons_of_mem _ (hm y hy)⟩
   .refine ⟨[x]++l,by rw [h,List.append_assoc],λ y hy=>?_⟩
    rcases List.mem_append.1 hy with h | h
    .rw [List.mem_singleton.1 h]; exact List.mem_cons_self
    .exact List.mem_cons_of_mem _ (hm y h)
theorem zpL {o : List Int} (hn : o.Nodup) {i : Nat} (h : i<o.length) : o[i]∈accR g p o↔zau g p (zaM (accR g p (o.take i)++[o[i]])):=by
 have hs : o.take (i+1)=o.take i++[o[i]]:=List.take_succ_eq_append_getElem h;obtain ⟨l,hl,hm⟩:=zpH (g:=g) (p:=p) (o.drop (i+1)) (o.take (i+1));rw [List.take_append_drop] at hl
 have hni : o[i]∉o.take i:=λ hx=>by
  obtain ⟨j,hj,e⟩:=List.mem_take_iff_getElem.1 hx;have:=(List.getElem_inj hn).1 e;omega
 have hnd : o[i]∉o.drop (i+1):=λ hx=>by
  obtain ⟨j,hj,e⟩:=List.mem_drop_iff_getElem.1 hx;have:=(List.getElem_inj hn).1 e;omega
 constructor
 .intro hx
  by_cases hc : zau g p (zaM (accR g p (o.take i)++[o[i]]))
  .exact hc
  .rw [hl,hs,zjE hc] at hx
   rcases List.mem_append.1 hx with h1 | h1
   .exact absurd (zfF h1) hni
   .exact absurd (hm _ h1) hnd
 .intro hc
  rw [hl,hs,zc3 hc];exact List.mem_append_left _ (List.mem_append_right _ (List.mem_singleton.2 rfl))
theorem zsx {o : List Int} (hn : o.Nodup) : ∀ i,i<=o.length->befL o (accR g p o) i=accR g p (o.take i)
 | 0,_=>by simp [befL,zl0]
 | i+1,h=>by
   have hi : i<o.length:=h;rw [zvF hi,zsx hn i (by omega),List.take_succ_eq_append_getElem hi]
   by_cases hc : zau g p (zaM (accR g p (o.take i)++[o[i]]))
   .rw [if_pos ((zpL hn hi).2 hc),zc3 hc]
   .rw [if_neg (λ h=>hc ((zpL hn hi).1 h)),zjE hc,List.append_nil]
theorem ze8 {l : List Int} (h : l.Pairwise (· < ·)) : l.Nodup:=h.imp λ h=>by omega
theorem znk {a : List Int} (hn : a.Nodup) (hr : ∀ k∈a,0<=k/\k<64) : a.Perm (zaM a):=by
 rw [<- zpo hn hr];exact (ziH a).symm
theorem zou {a : List Int} (hn : a.Nodup) (hr : ∀ k∈a,0<=k/\k<64) : (zaM a).length=a.length:=(znk hn hr).length_eq.symm
structure AtO (g : Gr) (p : Pol) (key : Int) (before : List Int) : Prop where
 mem : key∈ordL (zal g p.lv) p.seeds
 bef : zhO (ordL (zal g p.lv) p.seeds) before key
 nodup : (before++[key]).Nodup
 range : ∀ k∈before++[key],0<=k/\k<g.size
 serve : key∈accR g p (ordL (zal g p.lv) p.seeds)↔zau g p (zaM (before++[key]))
theorem zrY {o : List Int} (hn : o.Nodup) {i : Nat} (h : i<o.length) : zkj o o[i]=o.take i:=by
 unfold zkj;rw [List.takeWhile_eq_take_findIdx_not]
 congr 1
 rw [List.findIdx_eq h];refine ⟨by simp,λ j hj=>?_⟩
 have : o[j]≠o[i]:=λ e=>by have:=(List.getElem_inj hn).1 e; omega
 simp [this]
theorem ForR.at_ {key : Int} {x : Expl} (h : ForR g p (ordL (zal g p.lv) p.seeds) key x) (hg : GrOk g) : x.key=key/\AtO g p key x.before /\ ∃ i,∃ hi : i<(ordL (zal g p.lv) p.seeds).length,(ordL (zal g p.lv) p.seeds)[i]=key/\x.before=accR g p ((ordL (zal g p.lv) p.seeds).take i):=by
 have hn:=zcv (zal g p.lv) p.seeds;have hr : ∀ k∈ordL (zal g p.lv) p.seeds,0<=k/\k<g.size:=λ k hk=>by have h:=zeV hk; exact h
 obtain ⟨o,ho⟩ : ∃ o,o=ordL (zal g p.lv) p.seeds:=⟨_,rfl⟩;rw [<- ho] at h hn hr ⊢;obtain ⟨i,hi,hk,hb⟩:=h.bef;rw [zsx hn i (by omega)] at hb
 refine ⟨h.key_,?_,i,hi,hk,hb⟩
 have hsub : x.before.Sublist (zkj o key):=by
  rw [hb,<- hk,zrY hn hi];exact zgp _ _ rfl
 refine ⟨by rw [<- ho,<- hk]; exact List.getElem_mem hi,by rw [<- ho]; exact hsub,zhO.nodup (order:=o) hsub hn,λ k hkm=>?_,?_⟩
 .rcases List.mem_append.1 hkm with h1 | h1
  .refine hr k ?_
   rw [hb] at h1;exact List.mem_of_mem_take (zfF h1)
  .rw [List.mem_singleton.1 h1,<- hk]; exact hr _ (List.getElem_mem hi)
 .rw [<- ho,hb,<- hk]
  exact zpL hn hi
theorem AtO.joined {key : Int} {before : List Int} (h : AtO g p key before) (hg : GrOk g) : (zaM (before++[key])).Nodup/\(before++[key]).Perm (zaM (before++[key]))/\(∀ x∈zaM (before++[key]),0<=x/\x<g.size):=by
 have h64:=hg.1.2.1;have hr : ∀ k∈before++[key],0<=k/\k<64:=λ k hk=>⟨(h.range k hk).1,by have:=(h.range k hk).2; omega⟩
 exact ⟨ze8 (ziG _),znk h.nodup hr,λ x hx=>h.range x (zfL.1 hx).1⟩
theorem zrP {key : Int} {before : List Int} {W : List (List Nat)} (hg : GrOk g) (hp : zbu g.size p) (ha : AtO g p key before) (hc : zau g p (zaM (before++[key]))) (hW : zxJ g p (before++[key]) W) :
  zmC g p.lv p.seeds (ordL (zal g p.lv) p.seeds) (zaQ g p) (W.map (zek (netA g p (zaM (before++[key]))))) (before++[key]):=by
 obtain ⟨f,g',hgf,ht,hl,_⟩:=hW;obtain ⟨j1,j2,j3⟩:=ha.joined hg;refine zrc hg hp j1 (λ x hx=>(j3 x hx).1) j2 hgf.ok.fit ht.ways (λ i _=>?_) ?_
 .have h1:=ht.used i
  have h2:=ht.bal.nonneg i;omega
 .have : maxF (netN g) (netA g p (zaM (before++[key])))=(zaM (before++[key])).length:=hc
  omega
theorem ForR.yes_serves {key : Int} {x : Expl} (h : ForR g p (ordL (zal g p.lv) p.seeds) key x) (hg : GrOk g) (hp : zbu g.size p) (hk : key∈accR g p (ordL (zal g p.lv) p.seeds)) :
  zmC g p.lv p.seeds (ordL (zal g p.lv) p.seeds) (zaQ g p) x.paths (x.before++[key]):=by
 obtain ⟨_,ha,_⟩:=h.at_ hg;obtain ⟨_,_,W,hW,hpa⟩:=h.yes hk;rw [hpa];exact zrP hg hp ha (ha.serve.1 hk) hW
theorem ForR.no_proves {key : Int} {x : Expl} (h : ForR g p (ordL (zal g p.lv) p.seeds) key x) (hg : GrOk g) (hp : zbu g.size p) (hk : key∉accR g p (ordL (zal g p.lv) p.seeds)) :
  zpr ⟨2+2*g.size,zbK g p (zaQ g p) (zaM (x.before++[key]))⟩ x.side x.before.length:=by
 obtain ⟨_,ha,i,hi,hik,hib⟩:=h.at_ hg;obtain ⟨_,_,R,hR,hs⟩:=h.no hk;obtain ⟨i',hi',hik',hn⟩:=hR.right _ hs;simp only at hik' hn;have hii : i'=i:=(List.getElem_inj (zcv (zal g p.lv) p.seeds)).1 (hik'.trans hik.symm);subst hii;rw [<- hib] at hn;obtain ⟨j1,j2,j3⟩:=ha.joined hg;have hfew:=zjF hg hp j3;have hno : maxF (netN g) (netA g p (zaM (x.before++[key])))≠(zaM (x.before++[key])).length:=hn.no;have hlen:=j2.length_eq;rw [List.length_append,List.length_singleton] at hlen;have hcut:=hn.cut;have hok:=hn.ok;rw [zlR hg] at hok;exact ⟨hok,by rw [hcut]; omega⟩
theorem ForR.checked {key : Int} {x : Expl} (h : ForR g p (ordL (zal g p.lv) p.seeds) key x) (hg : GrOk g) (hp : zbu g.size p) : zva g p x=0:=by
 rw [zto hg.1.2.1];obtain ⟨hk,ha,_⟩:=h.at_ hg;unfold zuQ;simp only;rw [hk,if_neg (by simpa using ha.mem)]
 by_cases hacc : key∈accR g p (ordL (zal g p.lv) p.seeds)
 .obtain ⟨h1,h2,_⟩:=h.yes hacc
  rw [if_neg (by rw [h1,h2]; simpa using ha.bef),if_pos h1,if_pos (h.yes_serves hg hp hacc)]
 .obtain ⟨h1,h2,_⟩:=h.no hacc
  rw [if_neg (by rw [h1,h2]; simpa using ha.bef),if_neg (by rw [h1]; simp),if_pos (h.no_proves hg hp hacc)]
end Go.Proofs.YtkngdgplbojdlaaGreat
