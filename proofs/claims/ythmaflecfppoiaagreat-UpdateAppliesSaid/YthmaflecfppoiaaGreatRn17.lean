/- Texts of this claim,merged. -/
import Derived.Test.YthmaflecfppoiaaGreatRn16
import Derived.Test.YthmaflecfppoiaaGreatRn13
import Derived.Test.YthmaflecfppoiaaGreatRn15
import Derived.Test.YthmaflecfppoiaaGreatRn12
set_option linter.unusedSimpArgs false
set_option linter.unusedVariables false
set_option linter.unusedSectionVars false
namespace Go.Proofs.YthmaflecfppoiaaGreat
open Go
section
variable {P : Program} {np id : Nat} {h : Nat → Option Ent} {K : AV → List Nat → List (Nat × Option Ent) → Prop} {f : FuncId} {first capt args args' : List AV} {res : AV}
theorem zwf {e e2 e3 : Ent} (hc : zai P f args' [] res [some e,some e2,some e3]) (he : (first ++ args ++ capt).map (conv [] [] h 4) = args')
  (hk : K (conv (swp [] id) [] (fun _=>none) 4 res) [] [(id,some (zaz (swp [] id) [] (fun _=>none) 4 e)),(id + 1,some (zaz (swp [] id) [] (fun _=>none) 4 e2)),(id + 2,some (zaz (swp [] id) [] (fun _=>none) 4 e3))]) : aK P np id .call (.fn (.func f) first capt :: args) h K :=
 ⟨[],[],true,args',[],res,[some e,some e2,some e3],by simp,by simp,by simp,by rw [List.zipIdx_nil,he]; exact zbQ _,rfl,hc,by simp,.inl rfl,hk⟩
end
theorem zmJ (p : Pol) (hs : p.seeds.length ≤ 1000000) (ht : p.table.length ≤ 1000000) : zai Tryz.prog zdo [eP p] [] (eP p) []:=by
 refine zis.acalls (nbz rfl) (nbz rfl) (Nat.zero_le _) ?_
 show awp _ 0 _ _ ⟨12,[(0,eP p)],[],16⟩
 refine zaa ⟨12,[(1,.pv (pC p)),(2,.pt 24 0 0)],[(24,some ⟨3,[[.nilS,.nilS,.I 0]],0⟩)],100⟩ rfl ?_ ?_
 ·simp
  exact LeH [(24,24)] [16]
 refine zan ⟨12,[(2,.pt 24 0 0)],[(24,some ⟨3,[pC p],0⟩)],300⟩ rfl ?_ ?_
 ·simp [zau]
  exact ⟨by omega,by omega,by omega,by omega,rfl,Le.go [(24,24)] [116,140] rfl rfl (by simp) (by simp [fcd,zap])⟩
 refine zag ?_
 exact ⟨.inr rfl,zak.out [] [24] rfl (by simp) (by simp) (by simp) (by simp)⟩
structure TLen (g : Gr) (p : Pol) (acc f : List Int) (R : List (Int × List Int)) : Prop where
 e : g.edges.length ≤ 1000000
 o : g.gone.length ≤ 1000000
 s : p.seeds.length ≤ 1000000
 t : p.table.length ≤ 1000000
 a : acc.length ≤ 1000
 f : f.length ≤ 2000
 r : R.length ≤ 1000
 d : ∀ r ∈ R,r.2.length ≤ 1000
section
variable {g : Gr} {p : Pol} {acc f : List Int} {R : List (Int × List Int)} {s : GStp} {e : Int}
theorem zdZ (h : TLen g p acc f R) : zai Tryz.prog zel [eT g p acc f R] [] (eT g p acc f R) []:=by
 have h1:=zdY g (by have:=h.e; omega) (by have:=h.o; omega)
 have h2:=zmJ p h.s h.t
 have h3:=zj5 acc f R h.a h.f h.r h.d
 refine zql.acalls (nbz rfl) (nbz rfl) (Nat.zero_le _) ?_
 show awp _ 0 _ _ ⟨13,[(0,eT g p acc f R)],[],16⟩
 refine zaa ⟨13,[(1,.pv (tC g p acc f R)),(2,.pt 24 0 0)],[(24,some ⟨9,[[.I 0,.nilS,.nilS,.nilS,.nilS,.I 0,.nilS,.nilS,.nilS]],0⟩)],100⟩ rfl ?_ ?_
 ·simp
  exact LeH [(24,24)] [16]
 refine zan ⟨13,[(2,.pt 24 0 0)],[(24,some ⟨9,[tC g p acc f R],0⟩)],300⟩ rfl ?_ ?_
 ·simp
  refine zj1 h1 (by simp) ?_
  simp
  refine zaj h2 (by simp) ?_
  simp
  refine zwf h3 (by simp) ?_
  simp [zau]
  exact ⟨rfl,Le.go [(24,24)] [116,117,164,165,166] rfl rfl (by simp) (by simp [fcd,zap])⟩
 refine zag ?_
 exact ⟨.inr rfl,zak.out [] [24] rfl (by simp) (by simp) (by simp) (by simp)⟩
theorem zhb {f f' : List Int} (he : g.edges.length ≤ 1000000) (ho : g.gone.length ≤ 1000000) (hs : p.seeds.length ≤ 1000000) (ht : p.table.length ≤ 1000000) (ha : acc.length ≤ 1000000) (hR : R.length ≤ 1000) (hd : ∀ r ∈ R,r.2.length ≤ 140737488355328) :
  zai Tryz.prog zeD [eT g p acc f R,eT g p acc f' R] [] (.B true) []:=by
 have h1:=zmF g g (by omega) (by omega)
 rw [decide_eq_true (show EqG g g from ⟨rfl,rfl,rfl⟩)] at h1
 have h2:=zb7 p.seeds p.seeds (by omega)
 rw [decide_eq_true rfl] at h2
 have h3:=zb7 p.table p.table (by omega)
 rw [decide_eq_true rfl] at h3
 have h4:=zub acc f acc f' R R (by omega) hR hR hd
 rw [decide_eq_true (show acc = acc ∧ R = R from ⟨rfl,rfl⟩)] at h4
 refine zok.acalls (nbz rfl) (nbz rfl) (Nat.zero_le _) ?_
 show awp _ 0 _ _ ⟨44,[(0,eT g p acc f R),(1,eT g p acc f' R)],[],16⟩
 refine zaa ⟨44,[(2,.pv (tC g p acc f R)),(3,.pv (tC g p acc f' R))],[],100⟩ rfl ?_ ?_
 ·simp
  exact LeH [] [16,24]
 refine zaa ⟨44,[(4,.B true)],[],600⟩ rfl ?_ ?_
 ·simp
  refine zaj h1 (by simp) ?_
  simp
  refine zaj h2 (by simp) ?_
  simp
  refine zaj h3 (by simp) ?_
  simp
  refine zaj h4 (by simp) ?_
  simp
  exact LeH [] []
 refine zag ?_
 exact ⟨.inr rfl,zak.one (by simp)⟩
theorem zcQ {f : List Int} (hg : GrOk g) (hp : za0 g.size p) (hf : zcW g p (zaw (accG g p)) f) : TLen g p (accG g p) f (refG g p):=by
 have h1:=zjT hg hp
 have h2:=hg.edges_le
 have h3:=hg.gone_le
 have h4:=hp.2.2.2.1
 have h5:=zgP hg p
 have h6:=zuw hg p
 have h8:=hg.1.2.1
 have h7:=zts hg hp (fun x hx=>zms p x (zdF.1 hx).1) (by have:=hg.1.2.1; omega) (zbm _) hf
 exact ⟨by omega,by omega,by omega,by omega,by omega,by omega,by omega,fun r hr=>by have:=ztC hg p r hr; omega⟩
theorem zif (hg : GrOk g) (hp : za0 g.size p) : ∃ f,zcW g p (zaw (accG g p)) f ∧ zai Tryz.prog zeL [eG g,eP p] [] (.tup [eT g p (accG g p) f (refG g p),.I 0]) []:=by
 obtain ⟨⟨R,f⟩,⟨hR,hf⟩,hrun⟩:=zxe g p hg hp (by have:=zjT hg hp; have:=hg.1.2.1; omega)
 have hR:=hR.eq
 simp only at hR hf hrun
 rw [hR] at hrun
 have hf : zcW g p (zaw (accG g p)) f:=hf
 refine ⟨f,hf,?_⟩
 have hcp:=zdZ (zcQ hg hp hf)
 have hrun : zai Tryz.prog zgL [eG g,eP p] [] (.tup [eAcc (accG g p) f (refG g p),.I 0]) []:=hrun
 generalize accG g p = acc at *
 generalize refG g p = R at *
 refine zo4.acalls (nbz rfl) (nbz rfl) (Nat.zero_le _) ?_
 show awp _ 0 _ _ ⟨23,[(0,eG g),(1,eP p)],[],16⟩
 refine zaa ⟨23,[(2,.pv (gC g)),(3,.pv (pC p)),(4,.pt 32 0 0)],[(32,some ⟨9,[[.I 0,.nilS,.nilS,.nilS,.nilS,.I 0,.nilS,.nilS,.nilS]],0⟩)],100⟩ rfl ?_ ?_
 ·simp
  exact LeH [(32,32)] [16,24]
 refine zaa ⟨23,[(2,.pv (gC g)),(3,.pv (pC p)),(4,.pt 32 0 0),(6,.pv [ints acc,ints f,.vs 2 false (zaJ R)]),(7,.I 0)],[(32,some ⟨9,[[.I 0,.nilS,.nilS,.nilS,.nilS,.I 0,.nilS,.nilS,.nilS]],0⟩)],200⟩ rfl ?_ ?_
 ·simp
  refine zaj hrun (by simp) ?_
  simp
  exact LeH [(32,32)] [148]
 refine zab ?_
 refine zaa ⟨23,[(2,.pv (gC g)),(3,.pv (pC p)),(4,.pt 32 0 0),(6,.pv [ints acc,ints f,.vs 2 false (zaJ R)]),(15,.B false)],[(32,some ⟨9,[[.I 0,.nilS,.nilS,.nilS,.nilS,.I 0,.nilS,.nilS,.nilS]],0⟩)],300⟩ rfl ?_ ?_
 ·simp
  exact LeH [(32,32)] []
 refine zac _ rfl (fun h=>by cases h) fun _=>?_
 refine zae ?_
 refine zaa ⟨23,[(4,.pt 32 0 0),(5,.I 0)],[(32,some ⟨9,[tC g p acc f R],0⟩)],500⟩ rfl ?_ ?_
 ·simp
  refine zaj hcp (by simp) ?_
  simp [zau]
  exact LeH [(32,32)] []
 refine zag ?_
 exact ⟨.inr rfl,zak.out [] [32] rfl (by simp) (by simp) (by simp <;> exact .refl _) (by simp)⟩
theorem zgr {a b : List Int} (hn : a.Nodup) (hr : ∀ k ∈ a,0 ≤ k ∧ k < 64) : zex a b = zaw (a.filter fun x=>!decide (x ∈ b)):=by
 unfold zex
 exact zjR (hn.sublist List.filter_sublist) fun k hk=>hr k (List.mem_filter.1 hk).1
theorem zlT {a b : List Int} (hn : a.Nodup) (hr : ∀ k ∈ a,0 ≤ k ∧ k < 64) (ha : a.length ≤ 1000) (hb : b.length ≤ 1000000) : zai Tryz.prog zdt [ints a,ints b] [] (ints (zex a b)) []:=by
 rw [zgr hn hr]
 have hj0 : zaw [] = []:=rfl
 refine zlQ.acalls (nbz rfl) (nbz rfl) (Nat.le_refl _) ?_
 show awp _ 0 _ _ ⟨27,[(0,ints a),(1,ints b)],[],16⟩
 refine zaa ⟨27,[(0,ints a),(1,ints b)],[],60⟩ rfl ?_ ?_
 ·simp
  exact LeH [] []
 refine zaa ⟨27,[(0,ints a),(1,ints b),(5,.vs 1 false [])],[],80⟩ rfl ?_ ?_
 ·simp
  exact LeH [] []
 refine zab ?_
 refine zaa ⟨27,[(0,ints a),(1,ints b),(5,.vs 1 false []),(6,.I 0)],[],100⟩ rfl ?_ ?_
 ·simp
  exact LeH [] []
 refine zaf ?_
 refine zao (ι:=Nat) (fun i=>⟨27,[(0,ints a),(1,ints b),(5,ints (zaw ((a.take i).filter fun x=>!decide (x ∈ b)))),(6,.I i)],[],200⟩) (fun i=>i ≤ a.length) (fun i=>a.length - i) 0 (Nat.zero_le _) (Le.go [] [] rfl rfl (by simp [hj0]; exact .refl _) (by simp)) ?_
 intro i hi
 obtain ⟨J,hJ⟩ : ∃ J,J = zaw ((a.take i).filter fun x=>!decide (x ∈ b)):=⟨_,rfl⟩
 have hJl : J.length ≤ 64:=by rw [hJ]; exact zbm _
 rw [← hJ]
 refine zab ?_
 refine zaa ⟨27,[(0,ints a),(1,ints b),(5,ints J),(6,.I i),(10,.B (decide (i < a.length)))],[],300⟩ rfl ?_ ?_
 ·simp
  exact LeH [] []
 refine zac _ rfl (fun h5=>?_) fun h5=>?_
 ·rw [decide_eq_true_eq] at h5
  have hw1 : IntKind.i64.wrap ((i : Int) + 1) = (i : Int) + 1:=w64 (by omega) (by omega)
  have hxr:=hr _ (List.getElem_mem h5)
  have hhas:=zl2 b a[i] (by omega)
  have hbc : b.contains a[i] = decide (a[i] ∈ b):=List.contains_eq_mem _ _
  rw [hbc] at hhas
  refine zae ?_
  refine zab ?_
  refine zaf ?_
  by_cases hin : a[i] ∈ b
  ·rw [decide_eq_true hin] at hhas
   have hJ' : zaw ((a.take (i + 1)).filter fun x=>!decide (x ∈ b)) = J:=by
    rw [hJ,List.take_succ_eq_append_getElem h5,List.filter_append]
    simp [hin]
   refine zaa ⟨27,[(0,ints a),(1,ints b),(5,ints J),(6,.I i),(19,.B false)],[],400⟩ rfl ?_ ?_
   ·simp [h5]
    refine zaj hhas (by simp) ?_
    simp
    exact LeH [] []
   refine zac _ rfl (fun h=>by cases h) fun _=>?_
   refine zae ?_
   refine zar rfl ?_
   simp
   exact ⟨i + 1,by omega,by omega,Le.go [] [] rfl rfl (by simp [hw1,hJ']) (by simp)⟩
  ·rw [decide_eq_false hin] at hhas
   have hput:=zo0 J a[i] (by omega)
   have hJ' : putL J a[i] = zaw ((a.take (i + 1)).filter fun x=>!decide (x ∈ b)):=by
    rw [hJ,zhK hxr.1 hxr.2,List.take_succ_eq_append_getElem h5,List.filter_append]
    simp [hin]
   rw [hJ'] at hput
   obtain ⟨J',hJ2⟩ : ∃ J',J' = zaw ((a.take (i + 1)).filter fun x=>!decide (x ∈ b)):=⟨_,rfl⟩
   rw [← hJ2] at hput
   refine zaa ⟨27,[(0,ints a),(1,ints b),(5,ints J),(6,.I i),(19,.B true)],[],400⟩ rfl ?_ ?_
   ·simp [h5]
    refine zaj hhas (by simp) ?_
    simp
    exact LeH [] []
   refine zac _ rfl (fun _=>?_) fun h=>by cases h
   refine zar rfl ?_
   simp [h5]
   refine zaW hput (by simp) ?_
   simp
   refine zar rfl ?_
   simp
   exact ⟨i + 1,by omega,by omega,Le.go [] [440] rfl rfl (by simp [hw1,← hJ2,fcd,zap]) (by simp)⟩
 rw [decide_eq_false_iff_not] at h5
 obtain rfl : i = a.length:=by omega
 rw [List.take_length] at hJ
 rw [← hJ]
 refine zam ?_
 refine hit ?_
 refine zaa ⟨27,[(4,ints J)],[],500⟩ rfl ?_ ?_
 ·simp
  exact LeH [] []
 refine zag ?_
 exact ⟨.inr rfl,zak.one (by simp)⟩
section
variable (hT : TLen g p acc f R) (hc : zai Tryz.prog zbg [eG g,eP p,eAcc acc f R] [] (.I 0) [])
include hT hc
theorem zfX (h : (zas g s).2 ≠ 0) : zai Tryz.prog zdG [eT g p acc f R,eSt s] [] (.tup [eT g p acc f R,ints [],ints [],.I (zas g s).2]) []:=by
 have hcp:=zdZ hT
 obtain ⟨go,e⟩:=s
 have hel:=hT.e
 have hgl:=hT.o
 have hwith:=zfg g e (by omega) (by omega)
 have hwout:=zfO g e.f e.t (by omega) (by omega)
 unfold zas at h ⊢
 refine zjc.acalls (nbz rfl) (nbz rfl) (Nat.zero_le _) ?_
 show awp _ 0 _ _ ⟨71,[(0,eT g p acc f R),(1,eSt ⟨go,e⟩)],[],16⟩
 refine zaa ⟨71,[(2,.pt 16 0 0),(3,.pv (stC ⟨go,e⟩)),(4,.pt 32 0 0)],[(16,some ⟨9,[tC g p acc f R],0⟩),(32,some ⟨9,[[.I 0,.nilS,.nilS,.nilS,.nilS,.I 0,.nilS,.nilS,.nilS]],0⟩)],100⟩ rfl ?_ ?_
 ·simp
  exact LeH [(16,16),(32,32)] [24]
 refine zaa ⟨71,[(2,.pv (tC g p acc f R)),(3,.pv (stC ⟨go,e⟩)),(4,.pt 32 0 0)],[(32,some ⟨9,[[.I 0,.nilS,.nilS,.nilS,.nilS,.I 0,.nilS,.nilS,.nilS]],0⟩)],200⟩ rfl ?_ ?_
 ·simp
  refine zaj hcp (by simp) ?_
  simp [zau]
  exact LeH [(32,32)] [16]
 refine zab ?_
 refine zaa ⟨71,[(2,.pv (tC g p acc f R)),(3,.pv (stC ⟨go,e⟩)),(4,.pt 32 0 0),(23,.B false)],[(32,some ⟨9,[[.I 0,.nilS,.nilS,.nilS,.nilS,.I 0,.nilS,.nilS,.nilS]],0⟩)],300⟩ rfl ?_ ?_
 ·simp
  refine zaj hc (by simp) ?_
  simp
  exact LeH [(32,32)] []
 refine zac _ rfl (fun h=>by cases h) fun _=>?_
 refine zae ?_
 generalize zbz g e = r1 at *
 generalize zaR g e.f e.t = r2 at *
 obtain ⟨g1,x1⟩:=r1
 obtain ⟨g2,x2⟩:=r2
 refine zaa ⟨71,[(2,.pv (tC g p acc f R)),(3,.pv (stC ⟨go,e⟩)),(4,.pt 32 0 0),(8,.pt 40 0 0),(9,.I x1)],[(32,some ⟨9,[[.I 0,.nilS,.nilS,.nilS,.nilS,.I 0,.nilS,.nilS,.nilS]],0⟩),(40,some ⟨3,[gC g1],0⟩)],400⟩ rfl ?_ ?_
 ·simp
  refine zaj hwith (by simp) ?_
  simp [zau]
  exact LeH [(32,32),(364,40)] []
 refine zab ?_
 refine zaa ⟨71,[(2,.pv (tC g p acc f R)),(3,.pv (stC ⟨go,e⟩)),(4,.pt 32 0 0),(8,.pt 40 0 0),(9,.I x1),(34,.B go)],[(32,some ⟨9,[[.I 0,.nilS,.nilS,.nilS,.nilS,.I 0,.nilS,.nilS,.nilS]],0⟩),(40,some ⟨3,[gC g1],0⟩)],500⟩ rfl ?_ ?_
 ·simp
  exact LeH [(32,32),(40,40)] []
 refine zac _ rfl (fun hgo=>?_) fun hgo=>?_
 ·subst hgo
  have h' : x2 ≠ 0:=by simpa using h
  have he' : (x2 != 0) = true:=by simp [h']
  refine zar rfl ?_
  simp
  refine zaj hwout (by simp) ?_
  simp [zau]
  refine zab ?_
  refine zaa ⟨71,[(2,.pv (tC g p acc f R)),(4,.pt 32 0 0),(9,.I x2),(48,.B true)],[(32,some ⟨9,[[.I 0,.nilS,.nilS,.nilS,.nilS,.I 0,.nilS,.nilS,.nilS]],0⟩)],700⟩ rfl ?_ ?_
  ·simp
   exact Le.go [(32,32)] [] rfl rfl (by simp [he']) (by simp)
  refine zac _ rfl (fun _=>?_) fun h=>by cases h
  refine zaa ⟨71,[(4,.pt 32 0 0),(5,.vs 1 false []),(6,.vs 1 false []),(7,.I x2)],[(32,some ⟨9,[tC g p acc f R],0⟩)],800⟩ rfl ?_ ?_
  ·simp [zau]
   exact LeH [(32,32)] []
  refine zag ?_
  exact ⟨.inr rfl,zak.out [] [32] rfl (by simp) (by simp) (by simp <;> exact .refl _) (by simp)⟩
 ·subst hgo
  have h' : x1 ≠ 0:=by simpa using h
  have he' : (x1 != 0) = true:=by simp [h']
  refine zae ?_
  refine zab ?_
  refine zaa ⟨71,[(2,.pv (tC g p acc f R)),(4,.pt 32 0 0),(9,.I x1),(48,.B true)],[(32,some ⟨9,[[.I 0,.nilS,.nilS,.nilS,.nilS,.I 0,.nilS,.nilS,.nilS]],0⟩)],700⟩ rfl ?_ ?_
  ·simp
   exact Le.go [(32,32)] [] rfl rfl (by simp [he']) (by simp)
  refine zac _ rfl (fun _=>?_) fun h=>by cases h
  refine zaa ⟨71,[(4,.pt 32 0 0),(5,.vs 1 false []),(6,.vs 1 false []),(7,.I x1)],[(32,some ⟨9,[tC g p acc f R],0⟩)],800⟩ rfl ?_ ?_
  ·simp [zau]
   exact LeH [(32,32)] []
  refine zag ?_
  exact ⟨.inr rfl,zak.out [] [32] rfl (by simp) (by simp) (by simp <;> exact .refl _) (by simp)⟩
theorem zf0 (hg : GrOk g) (hp : za0 g.size p) (hn : acc.Nodup) (hr : ∀ k ∈ acc,0 ≤ k ∧ k < 64) (h : (zas g s).2 = 0) :
  ∃ f',zcW (zas g s).1 p (zaw (accG (zas g s).1 p)) f' ∧ zai Tryz.prog zdG [eT g p acc f R,eSt s] [] (.tup [eT (zas g s).1 p (accG (zas g s).1 p) f' (refG (zas g s).1 p),ints (zex (accG (zas g s).1 p) acc),ints (zex acc (accG (zas g s).1 p)),.I 0]) []:=by
 have hcp:=zdZ hT
 obtain ⟨k1,k2,k3,k4⟩:=zed hg h
 obtain ⟨f',hf',hst⟩:=zif (p:=p) k1 (by rw [k2]; exact hp)
 refine ⟨f',hf',?_⟩
 have hal:=zgP k1 p
 have han : (accG (zas g s).1 p).Nodup:=(zbj _ _).sublist (zd7 _ _ rfl)
 have har : ∀ k ∈ accG (zas g s).1 p,0 ≤ k ∧ k < 64:=fun k hk=>by have h1:=zms p k hk; have h2:=k1.1.2.1; omega
 obtain ⟨go,e⟩:=s
 have hel:=hT.e
 have hgl:=hT.o
 have ha:=hT.a
 have hwith:=zfg g e (by omega) (by omega)
 have hwout:=zfO g e.f e.t (by omega) (by omega)
 obtain ⟨g',hg'⟩ : ∃ g',g' = (zas g ⟨go,e⟩).1:=⟨_,rfl⟩
 rw [← hg'] at hst hal han har ⊢
 have hstep : (if go = true then zaR g e.f e.t else zbz g e) = (g',0):=by
  have : zas g ⟨go,e⟩ = (g',0):=Prod.ext hg'.symm h
  unfold zas at this
  simpa using this
 clear hg' k1 k2 k3 k4 hf' h
 generalize accG g' p = acc' at *
 generalize refG g' p = R' at *
 have hl1:=zlT han har (b:=acc) (by omega) (by omega)
 have hl2:=zlT hn hr (b:=acc') (by omega) (by omega)
 generalize zex acc' acc = gi at *
 generalize zex acc acc' = lo at *
 refine zjc.acalls (nbz rfl) (nbz rfl) (Nat.zero_le _) ?_
 show awp _ 0 _ _ ⟨71,[(0,eT g p acc f R),(1,eSt ⟨go,e⟩)],[],16⟩
 refine zaa ⟨71,[(2,.pt 16 0 0),(3,.pv (stC ⟨go,e⟩)),(4,.pt 32 0 0)],[(16,some ⟨9,[tC g p acc f R],0⟩),(32,some ⟨9,[[.I 0,.nilS,.nilS,.nilS,.nilS,.I 0,.nilS,.nilS,.nilS]],0⟩)],100⟩ rfl ?_ ?_
 ·simp
  exact LeH [(16,16),(32,32)] [24]
 refine zaa ⟨71,[(2,.pv (tC g p acc f R)),(3,.pv (stC ⟨go,e⟩)),(4,.pt 32 0 0)],[(32,some ⟨9,[[.I 0,.nilS,.nilS,.nilS,.nilS,.I 0,.nilS,.nilS,.nilS]],0⟩)],200⟩ rfl ?_ ?_
 ·simp
  refine zaj hcp (by simp) ?_
  simp [zau]
  exact LeH [(32,32)] [16]
 refine zab ?_
 refine zaa ⟨71,[(2,.pv (tC g p acc f R)),(3,.pv (stC ⟨go,e⟩)),(4,.pt 32 0 0),(23,.B false)],[(32,some ⟨9,[[.I 0,.nilS,.nilS,.nilS,.nilS,.I 0,.nilS,.nilS,.nilS]],0⟩)],300⟩ rfl ?_ ?_
 ·simp
  refine zaj hc (by simp) ?_
  simp
  exact LeH [(32,32)] []
 refine zac _ rfl (fun h=>by cases h) fun _=>?_
 refine zae ?_
 generalize zbz g e = r1 at *
 generalize zaR g e.f e.t = r2 at *
 obtain ⟨g1,x1⟩:=r1
 obtain ⟨g2,x2⟩:=r2
 refine zaa ⟨71,[(2,.pv (tC g p acc f R)),(3,.pv (stC ⟨go,e⟩)),(4,.pt 32 0 0),(8,.pt 40 0 0),(9,.I x1)],[(32,some ⟨9,[[.I 0,.nilS,.nilS,.nilS,.nilS,.I 0,.nilS,.nilS,.nilS]],0⟩),(40,some ⟨3,[gC g1],0⟩)],400⟩ rfl ?_ ?_
 ·simp
  refine zaj hwith (by simp) ?_
  simp [zau]
  exact LeH [(32,32),(364,40)] []
 refine zab ?_
 refine zaa ⟨71,[(2,.pv (tC g p acc f R)),(3,.pv (stC ⟨go,e⟩)),(4,.pt 32 0 0),(8,.pt 40 0 0),(9,.I x1),(34,.B go)],[(32,some ⟨9,[[.I 0,.nilS,.nilS,.nilS,.nilS,.I 0,.nilS,.nilS,.nilS]],0⟩),(40,some ⟨3,[gC g1],0⟩)],500⟩ rfl ?_ ?_
 ·simp
  exact LeH [(32,32),(40,40)] []
 refine zac _ rfl (fun hgo=>?_) fun hgo=>?_
 ·subst hgo
  have hx : (g2,x2) = (g',0):=by simpa using hstep
  cases hx
  refine zar rfl ?_
  simp
  refine zaj hwout (by simp) ?_
  simp [zau]
  refine zab ?_
  refine zaa ⟨71,[(2,.pv (tC g p acc f R)),(4,.pt 32 0 0),(8,.pv (gC g')),(48,.B false)],[(32,some ⟨9,[[.I 0,.nilS,.nilS,.nilS,.nilS,.I 0,.nilS,.nilS,.nilS]],0⟩)],700⟩ rfl ?_ ?_
  ·simp
   exact LeH [(32,32)] [40]
  refine zac _ rfl (fun h=>by cases h) fun _=>?_
  refine zae ?_
  refine zaa ⟨71,[(2,.pv (tC g p acc f R)),(4,.pt 32 0 0),(10,.pv (tC g' p acc' f' R'))],[(32,some ⟨9,[[.I 0,.nilS,.nilS,.nilS,.nilS,.I 0,.nilS,.nilS,.nilS]],0⟩)],800⟩ rfl ?_ ?_
  ·simp
   refine zaj hst (by simp) ?_
   simp [zau]
   exact LeH [(32,32)] [756]
  refine zan ⟨71,[(4,.pt 32 0 0),(10,.pv (tC g' p acc' f' R')),(12,ints acc),(13,ints acc')],[(32,some ⟨9,[[.I 0,.nilS,.nilS,.nilS,.nilS,.I 0,.nilS,.nilS,.nilS]],0⟩)],900⟩ rfl ?_ ?_
  ·simp
   exact ⟨rfl,LeH [(32,32)] []⟩
  refine zan ⟨71,[(4,.pt 32 0 0),(5,ints gi),(6,ints lo),(7,.I 0)],[(32,some ⟨9,[tC g' p acc' f' R'],0⟩)],1100⟩ rfl ?_ ?_
  ·simp
   refine zaj hl1 (by simp) ?_
   simp
   refine zaj hl2 (by simp) ?_
   simp [zau]
   exact ⟨rfl,LeH [(32,32)] []⟩
  refine zag ?_
  exact ⟨.inr rfl,zak.out [] [32] rfl (by simp) (by simp) (by simp <;> exact .refl _) (by simp)⟩
 ·subst hgo
  have hx : (g1,x1) = (g',0):=by simpa using hstep
  cases hx
  refine zae ?_
  refine zab ?_
  refine zaa ⟨71,[(2,.pv (tC g p acc f R)),(4,.pt 32 0 0),(8,.pv (gC g')),(48,.B false)],[(32,some ⟨9,[[.I 0,.nilS,.nilS,.nilS,.nilS,.I 0,.nilS,.nilS,.nilS]],0⟩)],700⟩ rfl ?_ ?_
  ·simp
   exact LeH [(32,32)] [40]
  refine zac _ rfl (fun h=>by cases h) fun _=>?_
  refine zae ?_
  refine zaa ⟨71,[(2,.pv (tC g p acc f R)),(4,.pt 32 0 0),(10,.pv (tC g' p acc' f' R'))],[(32,some ⟨9,[[.I 0,.nilS,.nilS,.nilS,.nilS,.I 0,.nilS,.nilS,.nilS]],0⟩)],800⟩ rfl ?_ ?_
  ·simp
   refine zaj hst (by simp) ?_
   simp [zau]
   exact LeH [(32,32)] [756]
  refine zan ⟨71,[(4,.pt 32 0 0),(10,.pv (tC g' p acc' f' R')),(12,ints acc),(13,ints acc')],[(32,some ⟨9,[[.I 0,.nilS,.nilS,.nilS,.nilS,.I 0,.nilS,.nilS,.nilS]],0⟩)],900⟩ rfl ?_ ?_
  ·simp
   exact ⟨rfl,LeH [(32,32)] []⟩
  refine zan ⟨71,[(4,.pt 32 0 0),(5,ints gi),(6,ints lo),(7,.I 0)],[(32,some ⟨9,[tC g' p acc' f' R'],0⟩)],1100⟩ rfl ?_ ?_
  ·simp
   refine zaj hl1 (by simp) ?_
   simp
   refine zaj hl2 (by simp) ?_
   simp [zau]
   exact ⟨rfl,LeH [(32,32)] []⟩
  refine zag ?_
  exact ⟨.inr rfl,zak.out [] [32] rfl (by simp) (by simp) (by simp <;> exact .refl _) (by simp)⟩
end
end
structure AlS where
 i : Nat
 g : Gr
 acc : List Int
 f : List Int
 R : List (Int × List Int)
def OnW (p : Pol) (g0 : Gr) (acc0 f0 : List Int) (R0 : List (Int × List Int)) (n : Nat) (g : Gr) (acc f : List Int) (R : List (Int × List Int)) : Prop :=
 (n = 0 ∧ g = g0 ∧ acc = acc0 ∧ f = f0 ∧ R = R0) ∨ (0 < n ∧ acc = accG g p ∧ R = refG g p ∧ zcW g p (zaw (accG g p)) f)
structure AlI (p : Pol) (g0 : Gr) (acc0 f0 : List Int) (R0 : List (Int × List Int)) (l : List GStp) (s : AlS) : Prop where
 le : s.i ≤ l.length
 ok : GrOk s.g
 pol : za0 s.g.size p
 sz : s.g.size < 20
 on : OnW p g0 acc0 f0 R0 s.i s.g s.acc s.f s.R
 run : runS g0 l = ((runS s.g (l.drop s.i)).1,(runS s.g (l.drop s.i)).2.1 + s.i,(runS s.g (l.drop s.i)).2.2)
variable {p : Pol} {g0 : Gr} {acc0 f0 : List Int} {R0 : List (Int × List Int)} {l : List GStp} {s : AlS}
theorem zbN {g : Gr} {f : List Int} (hg : GrOk g) (hp : za0 g.size p) (hN : g.size < 20) (hf : zcW g p (zaw (accG g p)) f) :
  zai Tryz.prog zbd [eG g,eP p,eAcc (accG g p) f (refG g p)] [] (.I 0) [] ∧ zai Tryz.prog zbg [eG g,eP p,eAcc (accG g p) f (refG g p)] [] (.I 0) []:=by
 have hT:=zcQ hg hp hf
 have hs:=zjT hg hp
 have h1:=zky g p (accG g p) f (refG g p) hg hp (by omega) hN hT.a hT.r (by have:=hT.f; omega) (fun r hr=>by have:=hT.d r hr; omega)
 have h2:=zlI g p (accG g p) f (refG g p) hg hp (by omega) hT.a hT.r (by have:=hT.f; omega) (fun r hr=>by have:=hT.d r hr; omega)
 rw [show zia g p (accG g p) f (refG g p) = 0 from zoI hg hp (by omega) hf] at h1 h2
 exact ⟨h1,h2⟩
theorem AlI.start (hg : GrOk g0) (hp : za0 g0.size p) (hN : g0.size < 20) : AlI p g0 acc0 f0 R0 l ⟨0,g0,acc0,f0,R0⟩ :=
 ⟨Nat.zero_le _,hg,hp,hN,.inl ⟨rfl,rfl,rfl,rfl,rfl⟩,by simp⟩
theorem AlI.len (h : AlI p g0 acc0 f0 R0 l s) (hT : TLen g0 p acc0 f0 R0) : TLen s.g p s.acc s.f s.R:=by
 rcases h.on with ⟨_,h1,h2,h3,h4⟩ | ⟨_,h1,h2,h3⟩
 ·rw [h1,h2,h3,h4]; exact hT
 ·rw [h1,h2]; exact zcQ h.ok h.pol h3
theorem AlI.chk (h : AlI p g0 acc0 f0 R0 l s) (hc : zai Tryz.prog zbd [eG g0,eP p,eAcc acc0 f0 R0] [] (.I 0) []) : zai Tryz.prog zbd [eG s.g,eP p,eAcc s.acc s.f s.R] [] (.I 0) []:=by
 rcases h.on with ⟨_,h1,h2,h3,h4⟩ | ⟨_,h1,h2,h3⟩
 ·rw [h1,h2,h3,h4]; exact hc
 ·rw [h1,h2]; exact (zbN h.ok h.pol h.sz h3).1
theorem AlI.chk' (h : AlI p g0 acc0 f0 R0 l s) (hc : zai Tryz.prog zbg [eG g0,eP p,eAcc acc0 f0 R0] [] (.I 0) []) : zai Tryz.prog zbg [eG s.g,eP p,eAcc s.acc s.f s.R] [] (.I 0) []:=by
 rcases h.on with ⟨_,h1,h2,h3,h4⟩ | ⟨_,h1,h2,h3⟩
 ·rw [h1,h2,h3,h4]; exact hc
 ·rw [h1,h2]; exact (zbN h.ok h.pol h.sz h3).2
theorem ziA (g : Gr) (p : Pol) : (accG g p).Nodup:=(zbj _ _).sublist (zd7 _ _ rfl)
theorem zmd {g : Gr} (hg : GrOk g) (p : Pol) : ∀ k ∈ accG g p,0 ≤ k ∧ k < 64:=fun k hk=>by have h1:=zms p k hk; have h2:=hg.1.2.1; omega
theorem AlI.nod (h : AlI p g0 acc0 f0 R0 l s) (hn : acc0.Nodup) (hr : ∀ k ∈ acc0,0 ≤ k ∧ k < 64) : s.acc.Nodup ∧ ∀ k ∈ s.acc,0 ≤ k ∧ k < 64:=by
 rcases h.on with ⟨_,h1,h2,h3,h4⟩ | ⟨_,h1,h2,h3⟩
 ·rw [h2]; exact ⟨hn,hr⟩
 ·rw [h1]; exact ⟨ziA _ _,zmd h.ok p⟩
theorem AlI.next (h : AlI p g0 acc0 f0 R0 l s) (hi : s.i < l.length) (hs : (zas s.g l[s.i]).2 = 0) {f' : List Int} (hf : zcW (zas s.g l[s.i]).1 p (zaw (accG (zas s.g l[s.i]).1 p)) f') :
  AlI p g0 acc0 f0 R0 l ⟨s.i + 1,(zas s.g l[s.i]).1,accG (zas s.g l[s.i]).1 p,f',refG (zas s.g l[s.i]).1 p⟩:=by
 obtain ⟨k1,k2,k3,k4⟩:=zed h.ok hs
 refine ⟨hi,k1,by simp only; rw [k2]; exact h.pol,by simp only; rw [k2]; exact h.sz,.inr ⟨Nat.succ_pos _,rfl,rfl,hf⟩,?_⟩
 have h1:=h.run
 rw [List.drop_eq_getElem_cons hi,zqk hs] at h1
 rw [h1]
 simp only
 refine Prod.ext rfl (Prod.ext ?_ rfl)
 simp only
 omega
theorem AlI.stop (h : AlI p g0 acc0 f0 R0 l s) (hi : s.i < l.length) (hs : (zas s.g l[s.i]).2 ≠ 0) : runS g0 l = (s.g,s.i,(zas s.g l[s.i]).2):=by
 have h1:=h.run
 rw [List.drop_eq_getElem_cons hi,zs3 hs] at h1
 rw [h1]
 simp
theorem AlI.done (h : AlI p g0 acc0 f0 R0 l s) (hi : s.i = l.length) : runS g0 l = (s.g,l.length,0):=by
 have h1:=h.run
 rw [hi,List.drop_length] at h1
 rw [h1]
 simp [runS]
set_option maxRecDepth 100000 in
theorem zja (hc : zai Tryz.prog zbd [eG g0,eP p,eAcc acc0 f0 R0] [] (.I 0) []) (hg : GrOk g0) (hp : za0 g0.size p) (hN : g0.size < 20) (hT : TLen g0 p acc0 f0 R0) (hl : l.length ≤ 1000) :
  ∃ x : List Int × List Int × List (Int × List Int),OnW p g0 acc0 f0 R0 (runS g0 l).2.1 (runS g0 l).1 x.1 x.2.1 x.2.2 ∧ zai Tryz.prog zft [eT g0 p acc0 f0 R0,eSts l] [] (.tup [eT (runS g0 l).1 p x.1 x.2.1 x.2.2,.I (runS g0 l).2.1,.I (runS g0 l).2.2]) []:=by
 obtain ⟨⟨gF,n,e⟩,hrr⟩ : ∃ rr,rr = runS g0 l:=⟨_,rfl⟩
 rw [← hrr]
 refine zpo.acallsX (args:=[eT g0 p acc0 f0 R0,eSts l]) (hs:=[]) (fun x=>.tup [eT gF p x.1 x.2.1 x.2.2,.I n,.I e]) (fun _=>[]) (fun x : List Int × List Int × List (Int × List Int)=>OnW p g0 acc0 f0 R0 n gF x.1 x.2.1 x.2.2) (nbz rfl) (nbz rfl) (fun _=>Nat.zero_le _) ?_
 show awp _ 0 _ _ ⟨38,[(0,eT g0 p acc0 f0 R0),(1,eSts l)],[],16⟩
 refine zaa ⟨38,[(1,eSts l),(2,.pt 16 0 0),(4,.pt 24 0 0)],[(16,some ⟨9,[tC g0 p acc0 f0 R0],0⟩),(24,some ⟨9,[[.I 0,.nilS,.nilS,.nilS,.nilS,.I 0,.nilS,.nilS,.nilS]],0⟩)],100⟩ rfl ?_ ?_
 ·simp
  exact LeH [(16,16),(24,24)] []
 refine zab ?_
 refine zaa ⟨38,[(1,eSts l),(2,.pt 16 0 0),(4,.pt 24 0 0),(13,eSts l),(14,.I l.length),(15,.I 0)],[(16,some ⟨9,[tC g0 p acc0 f0 R0],0⟩),(24,some ⟨9,[[.I 0,.nilS,.nilS,.nilS,.nilS,.I 0,.nilS,.nilS,.nilS]],0⟩)],200⟩ rfl ?_ ?_
 ·simp
  exact LeH [(16,16),(24,24)] []
 refine zaf ?_
 refine zao (ι:=AlS) (fun s=>⟨38,[(1,eSts l),(2,.pt 16 0 0),(4,.pt 24 0 0),(13,eSts l),(14,.I l.length),(15,.I s.i)],[(16,some ⟨9,[tC s.g p s.acc s.f s.R],0⟩),(24,some ⟨9,[[.I 0,.nilS,.nilS,.nilS,.nilS,.I 0,.nilS,.nilS,.nilS]],0⟩)],300⟩) (AlI p g0 acc0 f0 R0 l) (fun s=>l.length - s.i) ⟨0,g0,acc0,f0,R0⟩ (AlI.start hg hp hN) (LeH [(16,16),(24,24)] []) ?_
 intro s hI
 have hi:=hI.le
 have hT':=hI.len hT
 have hc':=hI.chk hc
 refine zaa ⟨38,[(1,eSts l),(2,.pt 16 0 0),(4,.pt 24 0 0),(13,eSts l),(14,.I l.length),(15,.I s.i),(16,.B (decide (s.i < l.length)))],[(16,some ⟨9,[tC s.g p s.acc s.f s.R],0⟩),(24,some ⟨9,[[.I 0,.nilS,.nilS,.nilS,.nilS,.I 0,.nilS,.nilS,.nilS]],0⟩)],400⟩ rfl ?_ ?_
 ·simp
  exact LeH [(16,16),(24,24)] []
 refine zab ?_
 refine zac _ rfl (fun h5=>?_) fun h5=>?_
 ·rw [decide_eq_true_eq] at h5
  have hw1 : IntKind.i64.wrap ((s.i : Int) + 1) = (s.i : Int) + 1:=w64 (by omega) (by omega)
  refine zae ?_
  refine zab ?_
  refine zaf ?_
  refine zaa ⟨38,[(1,eSts l),(2,.pt 16 0 0),(4,.pt 24 0 0),(7,.I s.i),(8,.pv (stC l[s.i])),(13,eSts l),(14,.I l.length),(15,.I s.i)],[(16,some ⟨9,[tC s.g p s.acc s.f s.R],0⟩),(24,some ⟨9,[[.I 0,.nilS,.nilS,.nilS,.nilS,.I 0,.nilS,.nilS,.nilS]],0⟩)],500⟩ rfl ?_ ?_
  ·simp [h5,zau]
   exact LeH [(16,16),(24,24)] [424]
  by_cases hs : (zas s.g l[s.i]).2 = 0
  ·obtain ⟨f',hf',hap⟩:=zdP hc' hI.ok hI.pol hI.sz hT'.a hs
   have hnx:=hI.next h5 hs hf'
   generalize zex (accG (zas s.g l[s.i]).1 p) s.acc = gi at *
   generalize zex s.acc (accG (zas s.g l[s.i]).1 p) = lo at *
   generalize accG (zas s.g l[s.i]).1 p = acc' at *
   generalize refG (zas s.g l[s.i]).1 p = R' at *
   generalize (zas s.g l[s.i]).1 = g' at *
   refine zaa ⟨38,[(1,eSts l),(2,.pt 16 0 0),(4,.pt 24 0 0),(9,.pv (tC g' p acc' f' R')),(12,.I 0),(13,eSts l),(14,.I l.length),(15,.I s.i)],[(16,some ⟨9,[tC s.g p s.acc s.f s.R],0⟩),(24,some ⟨9,[[.I 0,.nilS,.nilS,.nilS,.nilS,.I 0,.nilS,.nilS,.nilS]],0⟩)],700⟩ rfl ?_ ?_
   ·simp
    refine zaj hap (by simp) ?_
    simp [zau]
    exact LeH [(16,16),(24,24)] [564]
   refine zab ?_
   refine zaa ⟨38,[(1,eSts l),(2,.pt 16 0 0),(4,.pt 24 0 0),(9,.pv (tC g' p acc' f' R')),(13,eSts l),(14,.I l.length),(15,.I s.i),(29,.B false)],[(16,some ⟨9,[tC s.g p s.acc s.f s.R],0⟩),(24,some ⟨9,[[.I 0,.nilS,.nilS,.nilS,.nilS,.I 0,.nilS,.nilS,.nilS]],0⟩)],800⟩ rfl ?_ ?_
   ·simp
    exact LeH [(16,16),(24,24)] []
   refine zac _ rfl (fun h=>by cases h) fun _=>?_
   refine zae ?_
   refine zar rfl ?_
   simp [zau]
   refine zar rfl ?_
   simp
   exact ⟨⟨s.i + 1,g',acc',f',R'⟩,hnx,by simp only; omega,Le.go [(16,16),(24,24)] [] rfl rfl (by simp [hw1]) (by simp)⟩
  ·have hst:=hI.stop h5 hs
   have hap:=zfM hc' hT'.e hT'.o hs
   rw [hst] at hrr
   generalize (zas s.g l[s.i]).2 = x at *
   cases hrr
   have he' : (e != 0) = true:=by simp [hs]
   refine zaa ⟨38,[(2,.pt 16 0 0),(4,.pt 24 0 0),(7,.I s.i),(12,.I e)],[(16,some ⟨9,[tC s.g p s.acc s.f s.R],0⟩),(24,some ⟨9,[[.I 0,.nilS,.nilS,.nilS,.nilS,.I 0,.nilS,.nilS,.nilS]],0⟩)],700⟩ rfl ?_ ?_
   ·simp
    refine zaj hap (by simp) ?_
    simp [zau]
    exact LeH [(16,16),(24,24)] []
   refine zab ?_
   refine zaa ⟨38,[(2,.pt 16 0 0),(4,.pt 24 0 0),(7,.I s.i),(12,.I e),(29,.B true)],[(16,some ⟨9,[tC s.g p s.acc s.f s.R],0⟩),(24,some ⟨9,[[.I 0,.nilS,.nilS,.nilS,.nilS,.I 0,.nilS,.nilS,.nilS]],0⟩)],800⟩ rfl ?_ ?_
   ·simp
    exact Le.go [(16,16),(24,24)] [] rfl rfl (by simp [he']) (by simp)
   refine zac _ rfl (fun _=>?_) fun h=>by cases h
   refine zaa ⟨38,[(4,.pt 24 0 0),(5,.I s.i),(6,.I e)],[(24,some ⟨9,[tC s.g p s.acc s.f s.R],0⟩)],900⟩ rfl ?_ ?_
   ·simp [zau]
    exact LeH [(24,24)] []
   refine zag ?_
   exact zfU.mk (.inr rfl) (s.acc,s.f,s.R) hI.on (zak.out [] [24] rfl (by simp) (by simp) (by simp) (by simp))
 rw [decide_eq_false_iff_not] at h5
 have hil : s.i = l.length:=by omega
 have hdn:=hI.done hil
 rw [hdn] at hrr
 cases hrr
 have hon:=hI.on
 rw [hil] at hon
 refine zam ?_
 refine hit ?_
 refine zaa ⟨38,[(4,.pt 24 0 0),(5,.I l.length),(6,.I 0)],[(24,some ⟨9,[tC s.g p s.acc s.f s.R],0⟩)],900⟩ rfl ?_ ?_
 ·simp [zau]
  exact LeH [(24,24)] []
 refine zag ?_
 exact zfU.mk (.inr rfl) (s.acc,s.f,s.R) hon (zak.out [] [24] rfl (by simp) (by simp) (by simp) (by simp))
set_option maxRecDepth 100000 in
theorem zqt (hc : zai Tryz.prog zbg [eG g0,eP p,eAcc acc0 f0 R0] [] (.I 0) []) (hg : GrOk g0) (hp : za0 g0.size p) (hN : g0.size < 20) (hT : TLen g0 p acc0 f0 R0) (hn : acc0.Nodup) (hr : ∀ k ∈ acc0,0 ≤ k ∧ k < 64) (hl : l.length ≤ 1000) :
  ∃ x : List Int × List Int × List (Int × List Int),OnW p g0 acc0 f0 R0 (runS g0 l).2.1 (runS g0 l).1 x.1 x.2.1 x.2.2 ∧ zai Tryz.prog ziL [eT g0 p acc0 f0 R0,eSts l] [] (.tup [eT (runS g0 l).1 p x.1 x.2.1 x.2.2,.I (runS g0 l).2.1,.I (runS g0 l).2.2]) []:=by
 obtain ⟨⟨gF,n,e⟩,hrr⟩ : ∃ rr,rr = runS g0 l:=⟨_,rfl⟩
 rw [← hrr]
 have hcp:=zdZ hT
 refine zry.acallsX (args:=[eT g0 p acc0 f0 R0,eSts l]) (hs:=[]) (fun x=>.tup [eT gF p x.1 x.2.1 x.2.2,.I n,.I e]) (fun _=>[]) (fun x : List Int × List Int × List (Int × List Int)=>OnW p g0 acc0 f0 R0 n gF x.1 x.2.1 x.2.2) (nbz rfl) (nbz rfl) (fun _=>Nat.zero_le _) ?_
 show awp _ 0 _ _ ⟨40,[(0,eT g0 p acc0 f0 R0),(1,eSts l)],[],16⟩
 refine zaa ⟨40,[(1,eSts l),(2,.pt 16 0 0),(4,.pt 24 0 0)],[(16,some ⟨9,[tC g0 p acc0 f0 R0],0⟩),(24,some ⟨9,[[.I 0,.nilS,.nilS,.nilS,.nilS,.I 0,.nilS,.nilS,.nilS]],0⟩)],100⟩ rfl ?_ ?_
 ·simp
  exact LeH [(16,16),(24,24)] []
 refine zaa ⟨40,[(1,eSts l),(2,.pt 16 0 0),(4,.pt 24 0 0)],[(16,some ⟨9,[tC g0 p acc0 f0 R0],0⟩),(24,some ⟨9,[[.I 0,.nilS,.nilS,.nilS,.nilS,.I 0,.nilS,.nilS,.nilS]],0⟩)],150⟩ rfl ?_ ?_
 ·simp
  refine zaj hcp (by simp) ?_
  simp [zau]
  exact LeH [(16,16),(24,24)] []
 refine zab ?_
 refine zaa ⟨40,[(1,eSts l),(2,.pt 16 0 0),(4,.pt 24 0 0),(7,.I 0)],[(16,some ⟨9,[tC g0 p acc0 f0 R0],0⟩),(24,some ⟨9,[[.I 0,.nilS,.nilS,.nilS,.nilS,.I 0,.nilS,.nilS,.nilS]],0⟩)],200⟩ rfl ?_ ?_
 ·simp
  exact LeH [(16,16),(24,24)] []
 refine zaf ?_
 refine zao (ι:=AlS) (fun s=>⟨40,[(1,eSts l),(2,.pt 16 0 0),(4,.pt 24 0 0),(7,.I s.i)],[(16,some ⟨9,[tC s.g p s.acc s.f s.R],0⟩),(24,some ⟨9,[[.I 0,.nilS,.nilS,.nilS,.nilS,.I 0,.nilS,.nilS,.nilS]],0⟩)],300⟩) (AlI p g0 acc0 f0 R0 l) (fun s=>l.length - s.i) ⟨0,g0,acc0,f0,R0⟩ (AlI.start hg hp hN) (LeH [(16,16),(24,24)] []) ?_
 intro s hI
 have hi:=hI.le
 have hT':=hI.len hT
 have hc':=hI.chk' hc
 have hnd:=hI.nod hn hr
 refine zab ?_
 refine zaa ⟨40,[(1,eSts l),(2,.pt 16 0 0),(4,.pt 24 0 0),(7,.I s.i),(17,.B (decide (s.i < l.length)))],[(16,some ⟨9,[tC s.g p s.acc s.f s.R],0⟩),(24,some ⟨9,[[.I 0,.nilS,.nilS,.nilS,.nilS,.I 0,.nilS,.nilS,.nilS]],0⟩)],400⟩ rfl ?_ ?_
 ·simp
  exact LeH [(16,16),(24,24)] []
 refine zac _ rfl (fun h5=>?_) fun h5=>?_
 ·rw [decide_eq_true_eq] at h5
  have hw1 : IntKind.i64.wrap ((s.i : Int) + 1) = (s.i : Int) + 1:=w64 (by omega) (by omega)
  refine zae ?_
  refine zab ?_
  refine zaf ?_
  by_cases hs : (zas s.g l[s.i]).2 = 0
  ·obtain ⟨f',hf',hap⟩:=zf0 hT' hc' hI.ok hI.pol hnd.1 hnd.2 hs
   have hnx:=hI.next h5 hs hf'
   obtain ⟨sp,hsp⟩ : ∃ sp,sp = l[s.i]:=⟨_,rfl⟩
   rw [← hsp] at hap hnx
   generalize zex (accG (zas s.g sp).1 p) s.acc = gi at *
   generalize zex s.acc (accG (zas s.g sp).1 p) = lo at *
   generalize accG (zas s.g sp).1 p = acc' at *
   generalize refG (zas s.g sp).1 p = R' at *
   generalize (zas s.g sp).1 = g' at *
   refine zan ⟨40,[(1,eSts l),(2,.pt 16 0 0),(4,.pt 24 0 0),(7,.I s.i),(8,.pv (tC g' p acc' f' R')),(11,.I 0)],[(16,some ⟨9,[tC s.g p s.acc s.f s.R],0⟩),(24,some ⟨9,[[.I 0,.nilS,.nilS,.nilS,.nilS,.I 0,.nilS,.nilS,.nilS]],0⟩)],700⟩ rfl ?_ ?_
   ·simp [h5,← hsp]
    refine zaj hap (by simp) ?_
    simp [zau]
    exact ⟨rfl,LeH [(16,16),(24,24)] [488]⟩
   refine zab ?_
   refine zaa ⟨40,[(1,eSts l),(2,.pt 16 0 0),(4,.pt 24 0 0),(7,.I s.i),(8,.pv (tC g' p acc' f' R')),(32,.B false)],[(16,some ⟨9,[tC s.g p s.acc s.f s.R],0⟩),(24,some ⟨9,[[.I 0,.nilS,.nilS,.nilS,.nilS,.I 0,.nilS,.nilS,.nilS]],0⟩)],800⟩ rfl ?_ ?_
   ·simp
    exact LeH [(16,16),(24,24)] []
   refine zac _ rfl (fun h=>by cases h) fun _=>?_
   refine zae ?_
   refine zar rfl ?_
   simp [zau]
   refine zar rfl ?_
   simp
   exact ⟨⟨s.i + 1,g',acc',f',R'⟩,hnx,by simp only; omega,Le.go [(16,16),(24,24)] [] rfl rfl (by simp [hw1]) (by simp)⟩
  ·have hst:=hI.stop h5 hs
   have hap:=zfX hT' hc' hs
   rw [hst] at hrr
   obtain ⟨sp,hsp⟩ : ∃ sp,sp = l[s.i]:=⟨_,rfl⟩
   rw [← hsp] at hap hrr hs
   generalize (zas s.g sp).2 = x at *
   cases hrr
   have he' : (e != 0) = true:=by simp [hs]
   refine zan ⟨40,[(2,.pt 16 0 0),(4,.pt 24 0 0),(7,.I s.i),(11,.I e)],[(16,some ⟨9,[tC s.g p s.acc s.f s.R],0⟩),(24,some ⟨9,[[.I 0,.nilS,.nilS,.nilS,.nilS,.I 0,.nilS,.nilS,.nilS]],0⟩)],700⟩ rfl ?_ ?_
   ·simp [h5,← hsp]
    refine zaj hap (by simp) ?_
    simp [zau]
    exact ⟨rfl,LeH [(16,16),(24,24)] []⟩
   refine zab ?_
   refine zaa ⟨40,[(2,.pt 16 0 0),(4,.pt 24 0 0),(7,.I s.i),(11,.I e),(32,.B true)],[(16,some ⟨9,[tC s.g p s.acc s.f s.R],0⟩),(24,some ⟨9,[[.I 0,.nilS,.nilS,.nilS,.nilS,.I 0,.nilS,.nilS,.nilS]],0⟩)],800⟩ rfl ?_ ?_
   ·simp
    exact Le.go [(16,16),(24,24)] [] rfl rfl (by simp [he']) (by simp)
   refine zac _ rfl (fun _=>?_) fun h=>by cases h
   refine zaa ⟨40,[(4,.pt 24 0 0),(5,.I s.i),(6,.I e)],[(24,some ⟨9,[tC s.g p s.acc s.f s.R],0⟩)],900⟩ rfl ?_ ?_
   ·simp [zau]
    exact LeH [(24,24)] []
   refine zag ?_
   exact zfU.mk (.inr rfl) (s.acc,s.f,s.R) hI.on (zak.out [] [24] rfl (by simp) (by simp) (by simp) (by simp))
 rw [decide_eq_false_iff_not] at h5
 have hil : s.i = l.length:=by omega
 have hdn:=hI.done hil
 rw [hdn] at hrr
 cases hrr
 have hon:=hI.on
 rw [hil] at hon
 refine zam ?_
 refine hit ?_
 refine zaa ⟨40,[(4,.pt 24 0 0),(5,.I l.length),(6,.I 0)],[(24,some ⟨9,[tC s.g p s.acc s.f s.R],0⟩)],900⟩ rfl ?_ ?_
 ·simp [zau]
  exact LeH [(24,24)] []
 refine zag ?_
 exact zfU.mk (.inr rfl) (s.acc,s.f,s.R) hon (zak.out [] [24] rfl (by simp) (by simp) (by simp) (by simp))
def gU1 : Gr:=⟨3,[⟨0,1,1⟩],[]⟩
def gU3 : Gr:=⟨3,[⟨0,2,1⟩],[]⟩
def pU : Pol:=⟨[0],[3,1],1⟩
theorem zji : GrOk gU1:=GrOk.of (by decide) (by decide) (by decide) (fun i h=>by simp at h) (by simp) (by decide)
theorem zsD : GrOk gU3:=GrOk.of (by decide) (by decide) (by decide) (fun i h=>by simp at h) (by simp) (by decide)
theorem ziT : za0 3 pU:=by
 refine ⟨by decide +revert,fun i h=>?_,by decide +revert,by decide +revert,by decide +revert,by decide +revert,fun i h=>?_⟩
 ·obtain rfl : i = 0:=by simp [pU] at h; omega
  exact ⟨by decide +revert,by decide +revert,fun h=>by cases h⟩
 ·have : i = 0 ∨ i = 1:=by simp [pU] at h; omega
  rcases this with rfl | rfl
  ·exact ⟨by decide +revert,by decide +revert,fun h=>by cases h⟩
  ·exact ⟨by decide +revert,by decide +revert,fun h=>by decide +revert⟩
theorem zkZ {g : Gr} {p : Pol} (hg : GrOk g) (hp : za0 g.size p) {ks f : List Int} (hr : ∀ x ∈ ks,0 ≤ x ∧ x < g.size) (hf : zaA (netN g) (netA g p ks) f) (hv : valF (netA g p ks) f = ks.length) : zat g p ks:=by
 have h1:=zh8 (p:=p) hg hp hr
 have h2:=zsE (zkj hg hp hr) (f:=f) hf
 rw [hv] at h2
 unfold zat
 omega
theorem zv8 : accG gU1 pU = [0,1]:=by
 have c0 : zat gU1 pU [0]:=zkZ (f:=[1,0,0,1,0]) zji ziT (by decide) (zqz (by decide)) (by decide)
 have c1 : zat gU1 pU [0,1]:=zkZ (f:=[2,1,0,1,1,1]) zji ziT (by decide) (zqz (by decide)) (by decide)
 have ho : ordL (zal gU1 pU.lv) pU.seeds = [0,1]:=by decide
 have h0 : accR gU1 pU [0] = [0]:=zbP (o:=[]) (k:=0) c0
 show accR gU1 pU (ordL (zal gU1 pU.lv) pU.seeds) = _
 rw [ho]
 have h:=zbP (g:=gU1) (p:=pU) (o:=[0]) (k:=1) (by rw [h0]; exact c1)
 rw [h0] at h
 exact h
theorem zxq : accG gU3 pU = [0,2]:=by
 have c0 : zat gU3 pU [0]:=zkZ (f:=[1,0,0,1,0]) zsD ziT (by decide) (zqz (by decide)) (by decide)
 have c1 : zat gU3 pU [0,2]:=zkZ (f:=[2,1,0,1,1,1]) zsD ziT (by decide) (zqz (by decide)) (by decide)
 have ho : ordL (zal gU3 pU.lv) pU.seeds = [0,2]:=by decide
 have h0 : accR gU3 pU [0] = [0]:=zbP (o:=[]) (k:=0) c0
 show accR gU3 pU (ordL (zal gU3 pU.lv) pU.seeds) = _
 rw [ho]
 have h:=zbP (g:=gU3) (p:=pU) (o:=[0]) (k:=2) (by rw [h0]; exact c1)
 rw [h0] at h
 exact h
theorem zvb : accG gF pU = [0,1,2]:=by
 have c0 : zat gF pU [0]:=zkZ (f:=[1,0,0,0,1,0,0]) zmB ziT (by decide) (zqz (by decide)) (by decide)
 have c1 : zat gF pU [0,1]:=zkZ (f:=[2,1,0,0,1,1,1,0]) zmB ziT (by decide) (zqz (by decide)) (by decide)
 have c2 : zat gF pU [0,1,2]:=zkZ (f:=[3,2,0,0,1,1,1,1,1]) zmB ziT (by decide) (zqz (by decide)) (by decide)
 have ho : ordL (zal gF pU.lv) pU.seeds = [0,1,2]:=by decide
 have h0 : accR gF pU [0] = [0]:=zbP (o:=[]) (k:=0) c0
 have h1 : accR gF pU [0,1] = [0,1]:=by
  have h:=zbP (g:=gF) (p:=pU) (o:=[0]) (k:=1) (by rw [h0]; exact c1)
  rw [h0] at h
  exact h
 show accR gF pU (ordL (zal gF pU.lv) pU.seeds) = _
 rw [ho]
 have h:=zbP (g:=gF) (p:=pU) (o:=[0,1]) (k:=2) (by rw [h1]; exact c2)
 rw [h1] at h
 exact h
theorem zuU : zas gU1 ⟨false,⟨0,2,1⟩⟩ = (gF,0):=by
 have h : OkS gU1 ⟨false,⟨0,2,1⟩⟩:=by
  refine ⟨by decide,by decide,?_⟩
  rintro ⟨x,hx,h1,h2⟩
  have : x = ⟨0,1,1⟩:=by simpa [gU1] using hx
  subst this
  simp at h2
 obtain ⟨h1,h2⟩:=zpU zji (by decide) h
 have h3 : (zas gU1 ⟨false,⟨0,2,1⟩⟩).1 = gF:=zuW h2.ok zmB h2.size h2.gone fun x=>by
  rw [h2.mem]; simp [gU1,gF]
  exact Or.comm
 exact Prod.ext h3 h1
theorem zuP : zas gF ⟨true,⟨0,1,0⟩⟩ = (gU3,0):=by
 have h : OkS gF ⟨true,⟨0,1,0⟩⟩:=⟨⟨0,1,1⟩,by simp [gF],rfl,rfl⟩
 obtain ⟨h1,h2⟩:=zpU zmB (by decide) h
 have h3 : (zas gF ⟨true,⟨0,1,0⟩⟩).1 = gU3:=zuW h2.ok zsD h2.size h2.gone fun x=>by
  rw [h2.mem]; simp [gU3,gF]
  constructor
  ·rintro ⟨h | h,h4⟩
   ·subst h; simp at h4
   ·exact h
  ·intro h
   subst h
   exact ⟨.inr rfl,by simp⟩
 exact Prod.ext h3 h1
set_option maxRecDepth 100000 in
theorem zmk : zai Tryz.prog zeH [] [] (.B true) []:=by
 obtain ⟨f1,hf1,hst⟩:=zeX gU1 pU zji ziT (by decide)
 have hc1:=(zbN zji ziT (by decide) hf1).1
 have hs1 : (zas gU1 ⟨false,⟨0,2,1⟩⟩).2 = 0:=by rw [zuU]
 obtain ⟨f2,hf2,hap⟩:=zdP (s:=⟨false,⟨0,2,1⟩⟩) hc1 zji ziT (by decide) (by have:=zgP zji pU; omega) hs1
 rw [zuU] at hap hf2
 simp only at hap hf2
 have hT2:=zcQ zmB ziT hf2
 have hc2:=(zbN zmB ziT (by decide) hf2).1
 have hrun : runS gF [⟨true,⟨0,1,0⟩⟩] = (gU3,1,0):=by
  rw [zqk (by rw [zuP]),zuP]
  rfl
 obtain ⟨⟨acc3,f3,R3⟩,hon,hal⟩:=zja (l:=[⟨true,⟨0,1,0⟩⟩]) hc2 zmB ziT (by decide) hT2 (by decide)
 rw [hrun] at hon hal
 simp only at hon hal
 have hacc3 : acc3 = [0,2]:=by
  rcases hon with ⟨h,_⟩ | ⟨_,h,_⟩
  ·cases h
  ·rw [h,zxq]
 have hg1 : zex (accG gF pU) (accG gU1 pU) = [2]:=by
  rw [zgr (ziA _ _) (zmd zmB _),zv8,zvb]
  decide
 have hg2 : zex (accG gU1 pU) (accG gF pU) = []:=by
  rw [zgr (ziA _ _) (zmd zji _),zv8,zvb]
  decide
 obtain ⟨G1,hG1⟩ : ∃ G1 : List Int,G1 = [2]:=⟨_,rfl⟩
 obtain ⟨G0,hG0⟩ : ∃ G0 : List Int,G0 = []:=⟨_,rfl⟩
 rw [hg1,hg2,← hG1,← hG0] at hap
 have hA2:=zvb
 generalize accG gU1 pU = A1 at *
 generalize accG gF pU = A2 at *
 generalize refG gU1 pU = R1 at *
 generalize refG gF pU = R2 at *
 refine zoz.acalls (nbz rfl) (nbz rfl) (Nat.le_refl _) ?_
 show awp _ 0 _ _ ⟨84,[],[],16⟩
 refine zaa ⟨84,[],[],60⟩ rfl ?_ ?_
 ·simp
  exact LeH [] []
 refine zaa ⟨84,[(1,.pv (gC gU1))],[],200⟩ rfl ?_ ?_
 ·simp [zau]
  exact Le.go [] [68,84] rfl rfl (by simp; exact .pv _ _ rfl fun i=>match i with | 0=>.refl _ | 1=>wkE rfl | 2=>.nil _ _ | _ + 3=>.refl _) (by simp)
 refine zaa ⟨84,[(2,.pv (tC gU1 pU A1 f1 R1)),(3,.I 0)],[],400⟩ rfl ?_ ?_
 ·simp
  refine zpb [208,216] (by simp) hst (by simp [gU1,pU]) ?_
  simp [zau]
  exact LeH [] [264]
 refine zaa ⟨84,[(3,.I 0),(4,.pv (tC gF pU A2 f2 R2)),(5,ints G1),(6,ints G0),(7,.I 0)],[],600⟩ rfl ?_ ?_
 ·simp
  refine zaj hap (by simp) ?_
  simp [zau]
  exact LeH [] [472]
 refine zaa ⟨84,[(3,.I 0),(4,.pv (tC gF pU A2 f2 R2)),(5,ints G1),(6,ints G0),(7,.I 0),(8,.pv (tC gU3 pU acc3 f3 R3)),(9,.I 1),(10,.I 0)],[],800⟩ rfl ?_ ?_
 ·simp
  refine zpb [624] (by simp) hal (by simp) ?_
  simp [zau]
  exact LeH [] [672]
 subst hacc3 hG1 hG0
 rw [hA2]
 refine zaa ⟨84,[(0,.B true)],[],1400⟩ rfl ?_ ?_
 ·simp
  exact LeH [] []
 refine zag ?_
 exact ⟨.inr rfl,zak.one (by simp)⟩
section
variable {g : Gr} {p : Pol} {acc f f' : List Int} {R : List (Int × List Int)} {e : Int}
theorem zod (hc : zai Tryz.prog zbg [eG g,eP p,eAcc acc f R] [] (.I 0) []) (hT : TLen g p acc f R) : zai Tryz.prog zer [eT g p acc f R,eT g p acc f' R,.I 0,.I 0] [] (.B true) []:=by
 have hal:=zhb (acc:=acc) (f:=f) (f':=f') hT.e hT.o hT.s hT.t (by have:=hT.a; omega) hT.r (fun r hr=>by have:=hT.d r hr; omega)
 refine zkg.acalls (nbz rfl) (nbz rfl) (Nat.le_refl _) ?_
 show awp _ 0 _ _ ⟨31,[(0,eT g p acc f R),(1,eT g p acc f' R),(2,.I 0),(3,.I 0)],[],16⟩
 refine zaa ⟨31,[(2,.I 0),(3,.I 0),(4,.pv (tC g p acc f R)),(5,.pv (tC g p acc f' R))],[],100⟩ rfl ?_ ?_
 ·simp
  exact LeH [] [16,24]
 refine zaa ⟨31,[(8,.B true)],[],400⟩ rfl ?_ ?_
 ·simp
  refine zaj hal (by simp) ?_
  simp
  refine zaj hc (by simp) ?_
  simp
  exact LeH [] []
 refine zag ?_
 exact ⟨.inr rfl,zak.one (by simp)⟩
theorem zrT (he : e ≠ 0) (hT : TLen g p acc f R) : zai Tryz.prog zer [eT g p acc f R,eT g p acc f' R,.I e,.I e] [] (.B true) []:=by
 have he' : (e != 0) = true:=by simp [he]
 have hal:=zhb (acc:=acc) (f:=f) (f':=f') hT.e hT.o hT.s hT.t (by have:=hT.a; omega) hT.r (fun r hr=>by have:=hT.d r hr; omega)
 refine zkg.acalls (nbz rfl) (nbz rfl) (Nat.le_refl _) ?_
 show awp _ 0 _ _ ⟨31,[(0,eT g p acc f R),(1,eT g p acc f' R),(2,.I e),(3,.I e)],[],16⟩
 refine zaa ⟨31,[(2,.I e),(3,.I e),(4,.pv (tC g p acc f R)),(5,.pv (tC g p acc f' R))],[],100⟩ rfl ?_ ?_
 ·simp
  exact LeH [] [16,24]
 refine zaa ⟨31,[(8,.B true)],[],400⟩ rfl ?_ ?_
 ·simp
  refine zaj hal (by simp) ?_
  simp [he']
  exact LeH [] []
 refine zag ?_
 exact ⟨.inr rfl,zak.one (by simp)⟩
end
structure StpS where
 k : Nat
 b : Nat
 l : List GStp
structure StpE where
 s : GStp
 b : Nat
set_option maxRecDepth 100000 in
set_option maxHeartbeats 4000000 in
theorem zsK (L : List Int) (a : Nat) (g : Gr) (m : Nat) (hm : m ≤ 10) (hl : L.length ≤ 400) (ha : a ≤ L.length) (h0 : 0 < g.size) (hn : g.size ≤ 1000) (hel : g.edges.length ≤ 1000) :
  ∃ x : List GStp × Nat,(x.1.length ≤ m ∧ x.2 ≤ L.length) ∧ zai Tryz.prog zgm [.pt 0 0 0,eG g,.I m] [dice L a] (.rs 1 0 x.1.length) [some (dice L x.2),some ⟨4,x.1.map fun s=>stC s,0⟩]:=by
 refine zpl.acallsX (args:=[.pt 0 0 0,eG g,.I m]) (hs:=[dice L a]) (fun x=>.rs 1 0 x.1.length) (fun x=>[some (dice L x.2),some ⟨4,x.1.map fun s=>stC s,0⟩]) (fun x : List GStp × Nat=>x.1.length ≤ m ∧ x.2 ≤ L.length) (nbz rfl) (nbz rfl) (fun _=>by simp) ?_
 show awp _ 1 _ _ ⟨61,[(0,.pt 0 0 0),(1,eG g),(2,.I m)],[(0,some (dice L a))],16⟩
 obtain ⟨k0,b0,⟨hb0,hk0⟩,hc0⟩:=zg7 L a ((m + 1 : Nat) : Int) hl ha (by omega) (by omega)
 have hwm : IntKind.i64.wrap ((m : Int) + 1) = ((m + 1 : Nat) : Int):=by rw [w64 (by omega) (by omega)]; omega
 refine zaa ⟨61,[(0,.pt 0 0 0),(2,.I m),(4,.pv (gC g))],[(0,some (dice L a))],60⟩ rfl ?_ ?_
 ·simp
  exact LeH [(0,0)] [16]
 refine zaa ⟨61,[(0,.pt 0 0 0),(2,.I m),(4,.pv (gC g)),(7,.nilS)],[(0,some (dice L a))],80⟩ rfl ?_ ?_
 ·simp
  exact LeH [(0,0)] []
 refine zab ?_
 refine zaa ⟨61,[(0,.pt 0 0 0),(4,.pv (gC g)),(7,.nilS),(8,.I k0)],[(0,some (dice L b0))],200⟩ rfl ?_ ?_
 ·simp [hwm]
  refine zbf (i:=0) rfl (e':=dice L a) (by simp) hc0 (by simp) (by simp) ?_
  simp
  exact LeH [(0,0)] []
 refine zaf ?_
 refine zao (ι:=StpS) (fun s=>⟨61,[(0,.pt 0 0 0),(4,.pv (gC g)),(7,.rs 31 0 s.l.length),(8,.I s.k)],[(0,some (dice L s.b)),(31,some ⟨4,s.l.map fun s=>stC s,0⟩)],300⟩) (fun s=>s.b ≤ L.length ∧ s.l.length + s.k ≤ m) (fun s=>s.k) ⟨k0,b0,[]⟩ ⟨hb0,by simp only [List.length_nil]; omega⟩ (Le.lst [(0,0)] [] [(31,4)] rfl (by simp) (by simp) (by simp) (by simp) (by simp) (by simp) (by simp) (by simp [Up]) (by simp; exact zaH.rfl' (by simp))) ?_
 rintro ⟨k,b,l⟩ ⟨hb,hlk⟩
 simp only at hb hlk
 refine zab ?_
 refine zaa ⟨61,[(0,.pt 0 0 0),(4,.pv (gC g)),(7,.rs 31 0 l.length),(8,.I k),(15,.B (decide (0 < k)))],[(0,some (dice L b)),(31,some ⟨4,l.map fun s=>stC s,0⟩)],400⟩ rfl ?_ ?_
 ·simp
  exact LeI [(0,0),(31,31)] []
 refine zac _ rfl (fun h5=>?_) fun h5=>?_
 ·rw [decide_eq_true_eq] at h5
  have hwk : IntKind.i64.wrap ((k : Int) - 1) = ((k - 1 : Nat) : Int):=by rw [w64 (by omega) (by omega)]; omega
  obtain ⟨o,b1,hb1,hc1⟩:=zwg L b 2 hl hb (by omega) (by omega)
  obtain ⟨x,b2,⟨hb2,hx⟩,hc2⟩:=zg7 L b1 g.size hl hb1 h0 (by omega)
  obtain ⟨y,b3,⟨hb3,hy⟩,hc3⟩:=zg7 L b2 g.size hl hb2 h0 (by omega)
  obtain ⟨z,b4,⟨hb4,hz⟩,hc4⟩:=zg7 L b3 3 hl hb3 (by omega) (by omega)
  have hwz : IntKind.i64.wrap (1 + (z : Int)) = 1 + (z : Int):=w64 (by omega) (by omega)
  refine zae ?_
  refine zab ?_
  refine zaf ?_
  refine zan ⟨61,[(0,.pt 0 0 0),(4,.pv (gC g)),(7,.rs 31 0 l.length),(8,.I k),(9,.pt 60 0 0)],[(0,some (dice L b4)),(31,some ⟨4,l.map fun s=>stC s,0⟩),(60,some ⟨4,[stC ⟨o,⟨x,y,1 + z⟩⟩],0⟩)],700⟩ rfl ?_ ?_
  ·simp
   refine zbf (i:=0) rfl (e':=dice L b) (by simp) hc1 (by simp) (by simp) ?_
   simp
   refine zbf (i:=0) rfl (e':=dice L b1) (by simp) hc2 (by simp) (by simp) ?_
   simp
   refine zbf (i:=0) rfl (e':=dice L b2) (by simp) hc3 (by simp) (by simp) ?_
   simp
   refine zbf (i:=0) rfl (e':=dice L b3) (by simp) hc4 (by simp) (by simp) ?_
   simp [zau,hwz]
   exact ⟨rfl,LeI [(0,0),(31,31),(520,60)] []⟩
  refine zaL (ι:=StpE) (fun q=>⟨61,[(0,.pt 0 0 0),(4,.pv (gC g)),(7,.rs 31 0 l.length),(8,.I k),(9,.pt 60 0 0)],[(0,some (dice L q.b)),(31,some ⟨4,l.map fun s=>stC s,0⟩),(60,some ⟨4,[stC q.s],0⟩)],1500⟩) (fun q=>q.b ≤ L.length) ?_ ?_
  ·by_cases ho : o = true ∧ 0 < g.edges.length
   ·obtain ⟨rfl,he⟩:=ho
    obtain ⟨q,b5,⟨hb5,hq⟩,hc5⟩:=zg7 L b4 4 hl hb4 (by omega) (by omega)
    refine zaa ⟨61,[(0,.pt 0 0 0),(4,.pv (gC g)),(7,.rs 31 0 l.length),(8,.I k),(9,.pt 60 0 0),(45,.B (decide (0 < q)))],[(0,some (dice L b5)),(31,some ⟨4,l.map fun s=>stC s,0⟩),(60,some ⟨4,[stC ⟨true,⟨x,y,1 + z⟩⟩],0⟩)],1000⟩ rfl ?_ ?_
    ·simp [he]
     refine zbf (i:=0) rfl (e':=dice L b4) (by simp) hc5 (by simp) (by simp) ?_
     simp
     exact LeI [(0,0),(31,31),(60,60)] []
    refine zac _ rfl (fun h8=>?_) fun h8=>?_
    ·obtain ⟨r,b6,⟨hb6,hr⟩,hc6⟩:=zg7 L b5 g.edges.length hl hb5 (by omega) (by omega)
     have hr' : r < g.edges.length:=by omega
     refine zbx rfl ?_
     simp
     refine zbf (i:=0) rfl (e':=dice L b5) (by simp) hc6 (by simp) (by simp) ?_
     simp [hr',zau]
     exact ⟨rfl,⟨⟨true,g.edges[r]⟩,b6⟩,hb6,LeI [(0,0),(31,31),(60,60)] []⟩
    ·refine zae ?_
     exact ⟨⟨⟨true,⟨x,y,1 + z⟩⟩,b5⟩,hb5,LeI [(0,0),(31,31),(60,60)] []⟩
   ·refine zaa ⟨61,[(0,.pt 0 0 0),(4,.pv (gC g)),(7,.rs 31 0 l.length),(8,.I k),(9,.pt 60 0 0),(45,.B false)],[(0,some (dice L b4)),(31,some ⟨4,l.map fun s=>stC s,0⟩),(60,some ⟨4,[stC ⟨o,⟨x,y,1 + z⟩⟩],0⟩)],1000⟩ rfl ?_ ?_
    ·cases o
     ·simp
      exact LeI [(0,0),(31,31),(60,60)] []
     ·have he : ¬ 0 < g.edges.length:=fun h=>ho ⟨rfl,h⟩
      simp [he]
      exact LeI [(0,0),(31,31),(60,60)] []
    refine zac _ rfl (fun h=>by cases h) fun _=>?_
    refine zae ?_
    exact ⟨⟨⟨o,⟨x,y,1 + z⟩⟩,b4⟩,hb4,LeI [(0,0),(31,31),(60,60)] []⟩
  rintro ⟨st,b7⟩ hb7
  simp only at hb7
  have htl : ∀ h : GStp → List AV,List.take l.length (List.map h l) = List.map h l:=fun h=>List.take_of_length_le (by simp)
  refine zar rfl ?_
  simp [zau,htl]
  refine ⟨by omega,by omega,?_⟩
  refine zar rfl ?_
  simp [hwk]
  exact ⟨⟨k - 1,b7,l ++ [st]⟩,⟨hb7,by simp only [List.length_append,List.length_singleton]; omega⟩,by simp only; omega,LeI [(0,0),(1524,31)] []⟩
 rw [decide_eq_false_iff_not] at h5
 refine zam ?_
 refine hit ?_
 refine zaa ⟨61,[(6,.rs 31 0 l.length)],[(0,some (dice L b)),(31,some ⟨4,l.map fun s=>stC s,0⟩)],600⟩ rfl ?_ ?_
 ·simp
  exact LeI [(0,0),(31,31)] []
 refine zag ?_
 exact zfU.mk (.inr rfl) (l,b) ⟨by simp only; omega,hb⟩ (zak.k1n 31 (by decide) rfl (by simp) (by simp) (by simp [fcd]))
theorem zo2 : ∀ (l : List GStp) {g : Gr},GrOk g → GrOk (runS g l).1 ∧ (runS g l).1.size = g.size
 | [],g,h=>⟨h,rfl⟩
 | s :: l,g,h=>by
   by_cases hs : (zas g s).2 = 0
   ·rw [zqk hs]
    obtain ⟨h1,h2,_⟩:=zed h hs
    obtain ⟨h3,h4⟩:=zo2 l h1
    exact ⟨h3,h4.trans h2⟩
   ·rw [zs3 hs]
    exact ⟨h,rfl⟩
section
variable {p : Pol} {g0 : Gr} {acc0 f0 : List Int} {R0 : List (Int × List Int)} {n : Nat} {g : Gr} {acc f acc' f' : List Int} {R R' : List (Int × List Int)}
theorem OnW.same (h : OnW p g0 acc0 f0 R0 n g acc f R) (h' : OnW p g0 acc0 f0 R0 n g acc' f' R') : acc = acc' ∧ R = R':=by
 rcases h with ⟨h0,h1,h2,h3,h4⟩ | ⟨h0,h1,h2,h3⟩ <;> rcases h' with ⟨k0,k1,k2,k3,k4⟩ | ⟨k0,k1,k2,k3⟩
 ·exact ⟨h2.trans k2.symm,h4.trans k4.symm⟩
 ·omega
 ·omega
 ·exact ⟨h1.trans k1.symm,h2.trans k2.symm⟩
theorem OnW.len (h : OnW p g0 acc0 f0 R0 n g acc f R) (hT : TLen g0 p acc0 f0 R0) (hg : GrOk g) (hp : za0 g.size p) : TLen g p acc f R:=by
 rcases h with ⟨h0,h1,h2,h3,h4⟩ | ⟨h0,h1,h2,h3⟩
 ·rw [h1,h2,h3,h4]; exact hT
 ·rw [h1,h2]; exact zcQ hg hp h3
end
structure ztn (p : Pol) (N : Int) (m : Nat) (s : AlS) : Prop where
 le : s.i ≤ m
 ok : GrOk s.g
 sz : s.g.size = N
 acc : s.acc = accG s.g p
 ref : s.R = refG s.g p
 great : zcW s.g p (zaw (accG s.g p)) s.f
set_option maxRecDepth 100000 in
set_option maxHeartbeats 4000000 in
theorem zfR (L : List Int) (s : GStp) : zai Tryz.prog zdS [ints L,eSt s] [] (.B true) []:=by
 refine zgT.acalls (nbz rfl) (nbz rfl) (Nat.le_refl _) ?_
 show awp _ 0 _ _ ⟨139,[(0,ints L),(1,eSt s)],[],16⟩
 refine zaa ⟨139,[(0,ints L),(3,.pv (stC s))],[],60⟩ rfl ?_ ?_
 ·simp
  exact LeH [] [16]
 refine zab ?_
 refine rx (s:=?s2) [0,3,30] [] [] rfl ?o2 ?q2
 case o2=>simp; refine zaj (zuc L) (by simp) ?_; simp; rfl
 refine zac _ rfl (fun h3=>?_) fun h3=>?_
 ·refine rx (s:=?s4) [4] [] [] rfl ?o4 ?q4
  case o4=>simp; refine zaj zmk (by simp) ?_; simp; rfl
  refine zag ?_
  exact ⟨.inr rfl,zak.one (by simp)⟩
 simp at h3
 obtain ⟨g,b1,⟨hg,hg2,hg9,hb1⟩,hcg⟩:=zww L h3
 obtain ⟨⟨p,b2⟩,⟨hp,hp2,hp3,hb2⟩,hcp⟩:=ztZ L b1 g h3 hb1 (by omega) (by omega)
 simp only at hp hp2 hp3 hb2 hcp
 have hel:=hg.edges_le
 have hgl:=hg.gone_le
 obtain ⟨f1,hf1,hst1⟩:=zeX g p hg hp (by omega)
 obtain ⟨f2,hf2,hst2⟩:=zif hg hp
 have hck1:=zbN hg hp (by omega) hf1
 have hck2:=zbN hg hp (by omega) hf2
 have hT1:=zcQ hg hp hf1
 have hT2:=zcQ hg hp hf2
 have hsame:=zod (f':=f2) hck1.2 hT1
 obtain ⟨⟨l0,b3⟩,⟨hl0,hb3⟩,hcs⟩:=zsK L b2 g 4 (by omega) h3 hb2 (by omega) (by omega) (by omega)
 simp only at hl0 hb3 hcs
 obtain ⟨l,hl⟩ : ∃ l,l = l0 ++ [s]:=⟨_,rfl⟩
 have hll : l.length = l0.length + 1:=by rw [hl]; simp
 obtain ⟨⟨a3,f3,R3⟩,hon3,hal3⟩:=zja (l:=l) hck2.1 hg hp (by omega) hT2 (by omega)
 obtain ⟨⟨a4,f4,R4⟩,hon4,hal4⟩:=zqt (l:=l) hck2.2 hg hp (by omega) hT2 (ziA _ _) (zmd hg p) (by omega)
 simp only at hon3 hal3 hon4 hal4
 obtain ⟨rfl,rfl⟩:=hon3.same hon4
 obtain ⟨hgF,hgFs⟩:=zo2 l hg
 have hTF:=hon3.len hT2 hgF (by rw [hgFs]; exact hp)
 have hlike:=zhb (acc:=a3) (f:=f3) (f':=f4) hTF.e hTF.o hTF.s hTF.t (by have:=hTF.a; omega) hTF.r (fun r hr=>by have:=hTF.d r hr; omega)
 clear hon3 hon4 hTF hgFs hgF
 generalize runS g l = rr at *
 obtain ⟨gF,nF,eF⟩:=rr
 simp only at hal3 hal4 hlike
 refine zae ?_
 refine zaa ⟨139,[(3,.pv (stC s)),(5,.pt 20 0 0)],[(20,some (dice L 0))],200⟩ rfl ?_ ?_
 ·simp
  refine zaW (zuY L) (by simp) ?_
  simp
  exact LeH [(92,20)] []
 refine zaa ⟨139,[(3,.pv (stC s)),(5,.pt 20 0 0),(6,.pv (gC g))],[(20,some (dice L b1))],300⟩ rfl ?_ ?_
 ·simp
  refine zbf (i:=20) rfl (e':=dice L 0) (by simp) hcg (by simp) (by simp) ?_
  simp
  exact LeH [(20,20)] [216]
 refine zaa ⟨139,[(3,.pv (stC s)),(5,.pt 20 0 0),(6,.pv (gC g)),(7,.pv (pC p))],[(20,some (dice L b2))],400⟩ rfl ?_ ?_
 ·simp
  refine zbf (i:=20) rfl (e':=dice L b1) (by simp) hcp (by simp) (by simp) ?_
  simp
  exact LeH [(20,20)] [324]
 obtain ⟨acc,hacc⟩ : ∃ acc,acc = accG g p:=⟨_,rfl⟩
 obtain ⟨R,hR⟩ : ∃ R,R = refG g p:=⟨_,rfl⟩
 rw [← hacc,← hR] at hst1 hst2 hsame hal3 hal4
 refine zaa ⟨139,[(3,.pv (stC s)),(5,.pt 20 0 0),(6,.pv (gC g)),(7,.pv (pC p)),(8,.pv (tC g p acc f1 R)),(9,.I 0)],[(20,some (dice L b2))],500⟩ rfl ?_ ?_
 ·simp
  refine zaj hst1 (by simp) ?_
  simp [zau]
  exact LeH [(20,20)] [448]
 refine zaa ⟨139,[(3,.pv (stC s)),(5,.pt 20 0 0),(6,.pv (gC g)),(8,.pv (tC g p acc f1 R)),(9,.I 0),(10,.pt 40 0 0),(11,.I 0)],[(20,some (dice L b2)),(40,some ⟨9,[tC g p acc f2 R],0⟩)],600⟩ rfl ?_ ?_
 ·simp
  refine zaj hst2 (by simp) ?_
  simp [zau]
  exact LeH [(20,20),(548,40)] []
 refine zab ?_
 refine zaa ⟨139,[(3,.pv (stC s)),(5,.pt 20 0 0),(6,.pv (gC g)),(10,.pt 40 0 0),(56,.B false)],[(20,some (dice L b2)),(40,some ⟨9,[tC g p acc f2 R],0⟩)],700⟩ rfl ?_ ?_
 ·simp
  refine zaj hsame (by simp) ?_
  simp
  exact LeH [(20,20),(40,40)] []
 refine zac _ rfl (fun h=>by cases h) fun _=>?_
 refine zae ?_
 have htl : ∀ h : GStp → List AV,List.take l0.length (List.map h l0) = List.map h l0:=fun h=>List.take_of_length_le (by simp)
 have htl2 : ∀ (h : GStp → List AV) (u : List AV),List.take (l0.length + 1) (List.map h l0 ++ [u]) = List.map h l0 ++ [u]:=fun h u=>List.take_of_length_le (by simp)
 refine zan ⟨139,[(10,.pt 40 0 0),(12,eSts l)],[(40,some ⟨9,[tC g p acc f2 R],0⟩)],900⟩ rfl ?_ ?_
 ·simp
  refine zbf (i:=20) rfl (e':=dice L b2) (by simp) hcs (by simp) (by simp) ?_
  simp [htl]
  exact ⟨by omega,by omega,rfl,Le.go [(40,40)] [740] rfl rfl (by simp [htl2,fcd,hl]; exact wkE (by show _ = AV.vs 4 false ((l0 ++ [s]).map fun s=>stC s); rw [List.map_append]; rfl)) (by simp)⟩
 refine zaa ⟨139,[(10,.pt 40 0 0),(12,eSts l),(13,.pv (tC gF p a3 f3 R3)),(14,.I nF),(15,.I eF)],[(40,some ⟨9,[tC g p acc f2 R],0⟩)],1000⟩ rfl ?_ ?_
 ·simp
  refine zaj hal3 (by simp) ?_
  simp [zau]
  exact LeH [(40,40)] [956]
 refine zaa ⟨139,[(10,.pt 40 0 0),(12,eSts l),(13,.pv (tC gF p a3 f3 R3)),(14,.I nF),(15,.I eF),(16,.pv (tC gF p a3 f4 R3)),(17,.I nF),(18,.I eF)],[(40,some ⟨9,[tC g p acc f2 R],0⟩)],1100⟩ rfl ?_ ?_
 ·simp
  refine zaj hal4 (by simp) ?_
  simp [zau]
  exact LeH [(40,40)] [1056]
 refine zab ?_
 refine zaa ⟨139,[(10,.pt 40 0 0),(12,eSts l),(90,.B false)],[(40,some ⟨9,[tC g p acc f2 R],0⟩)],1300⟩ rfl ?_ ?_
 ·simp
  refine zaj hlike (by simp) ?_
  simp
  exact LeH [(40,40)] []
 refine zac _ rfl (fun h=>by cases h) fun _=>?_
 refine zae ?_
 refine zab ?_
 refine zaa ⟨139,[(10,.pt 40 0 0),(12,eSts l),(19,.I 0)],[(40,some ⟨9,[tC g p acc f2 R],0⟩)],1400⟩ rfl ?_ ?_
 ·simp
  exact LeH [(40,40)] []
 refine zaf ?_
 refine zao (ι:=AlS) (fun q=>⟨139,[(10,.pt 40 0 0),(12,eSts l),(19,.I q.i)],[(40,some ⟨9,[tC q.g p q.acc q.f q.R],0⟩)],1500⟩) (ztn p g.size l.length) (fun q=>l.length - q.i) ⟨0,g,acc,f2,R⟩ ⟨Nat.zero_le _,hg,rfl,hacc,hR,hf2⟩ (LeH [(40,40)] []) ?_
 rintro ⟨i,g1,acc1,fq,R1⟩ ⟨hi,hg1,hs1,ha1,hr1,hfq⟩
 simp only at hi hg1 hs1 ha1 hr1 hfq
 subst ha1 hr1
 have hp1 : za0 g1.size p:=by rw [hs1]; exact hp
 have hTq:=zcQ hg1 hp1 hfq
 have hckq:=zbN hg1 hp1 (by omega) hfq
 refine zab ?_
 refine zaa ⟨139,[(10,.pt 40 0 0),(12,eSts l),(19,.I i),(94,.B (decide (i < l.length)))],[(40,some ⟨9,[tC g1 p (accG g1 p) fq (refG g1 p)],0⟩)],1600⟩ rfl ?_ ?_
 ·simp
  exact LeH [(40,40)] []
 refine zac _ rfl (fun h5=>?_) fun h5=>?_
 ·rw [decide_eq_true_eq] at h5
  have hw1 : IntKind.i64.wrap ((i : Int) + 1) = (i : Int) + 1:=w64 (by omega) (by omega)
  have hnodq:=ziA g1 p
  have h64q:=zmd hg1 p
  refine zae ?_
  refine zab ?_
  refine zaf ?_
  obtain ⟨u,hu⟩ : ∃ u,u = l[i]:=⟨_,rfl⟩
  by_cases hs : (zas g1 u).2 = 0
  ·obtain ⟨f5,hf5,hap5⟩:=zdP hckq.1 hg1 hp1 (by omega) hTq.a hs
   obtain ⟨f6,hf6,hap6⟩:=zf0 hTq hckq.2 hg1 hp1 hnodq h64q hs
   obtain ⟨k1,k2,_⟩:=zed hg1 hs
   have hp2 : za0 (zas g1 u).1.size p:=by rw [k2]; exact hp1
   have hsm:=zod (f':=f6) (zbN k1 hp2 (by omega) hf5).2 (zcQ k1 hp2 hf5)
   have hinv : ztn p g.size l.length ⟨i + 1,(zas g1 u).1,accG (zas g1 u).1 p,f6,refG (zas g1 u).1 p⟩:=⟨h5,k1,k2.trans hs1,rfl,rfl,hf6⟩
   have hal5:=zgP k1 p
   have hal6:=zgP hg1 p
   have hgl1 : (zex (accG (zas g1 u).1 p) (accG g1 p)).length ≤ 1000:=by
    rw [zgr (ziA _ _) (zmd k1 _)]; have:=zbm ((accG (zas g1 u).1 p).filter fun x=>!decide (x ∈ accG g1 p)); omega
   have hgl2 : (zex (accG g1 p) (accG (zas g1 u).1 p)).length ≤ 1000:=by
    rw [zgr hnodq h64q]; have:=zbm ((accG g1 p).filter fun x=>!decide (x ∈ accG (zas g1 u).1 p)); omega
   clear hf5 hf6 k1 k2 hp2 hal5 hal6 hfq hTq hckq hnodq h64q hs
   generalize zex (accG (zas g1 u).1 p) (accG g1 p) = gi at *
   generalize zex (accG g1 p) (accG (zas g1 u).1 p) = lo at *
   generalize accG (zas g1 u).1 p = acc' at *
   generalize refG (zas g1 u).1 p = R' at *
   generalize (zas g1 u).1 = g' at *
   generalize accG g1 p = acc1 at *
   generalize refG g1 p = R1 at *
   have hsi1:=zb7 gi gi (by omega)
   rw [decide_eq_true rfl] at hsi1
   have hsi2:=zb7 lo lo (by omega)
   rw [decide_eq_true rfl] at hsi2
   refine zan ⟨139,[(10,.pt 40 0 0),(12,eSts l),(19,.I i),(20,.pv (tC g' p acc' f5 R')),(21,ints gi),(22,ints lo),(23,.I 0)],[(40,some ⟨9,[tC g1 p acc1 fq R1],0⟩)],1800⟩ rfl ?_ ?_
   ·simp [h5,← hu]
    refine zaj hap5 (by simp) ?_
    simp [zau]
    exact ⟨rfl,LeH [(40,40)] [1688]⟩
   refine zan ⟨139,[(10,.pt 40 0 0),(12,eSts l),(19,.I i),(20,.pv (tC g' p acc' f5 R')),(21,ints gi),(22,ints lo),(23,.I 0),(24,.pv (tC g' p acc' f6 R')),(25,ints gi),(26,ints lo),(27,.I 0)],[(40,some ⟨9,[tC g1 p acc1 fq R1],0⟩)],2000⟩ rfl ?_ ?_
   ·simp [h5,← hu]
    refine zaj hap6 (by simp) ?_
    simp [zau]
    exact ⟨rfl,LeH [(40,40)] [1888]⟩
   refine zab ?_
   refine zaa ⟨139,[(10,.pt 40 0 0),(12,eSts l),(19,.I i),(24,.pv (tC g' p acc' f6 R')),(136,.B false)],[(40,some ⟨9,[tC g1 p acc1 fq R1],0⟩)],2200⟩ rfl ?_ ?_
   ·simp
    refine zaj hsm (by simp) ?_
    simp
    refine zaj hsi1 (by simp) ?_
    simp
    refine zaj hsi2 (by simp) ?_
    simp
    exact LeH [(40,40)] []
   refine zac _ rfl (fun h=>by cases h) fun _=>?_
   refine zae ?_
   refine zar rfl ?_
   simp [zau]
   refine zar rfl ?_
   simp
   exact ⟨⟨i + 1,g',acc',f6,R'⟩,hinv,by simp only; omega,Le.go [(40,40)] [] rfl rfl (by simp [hw1]) (by simp)⟩
  ·have hap5:=zfM hckq.1 hTq.e hTq.o hs
   have hap6:=zfX hTq hckq.2 hs
   have hsm:=zrT (f':=fq) hs hTq
   have hinv : ztn p g.size l.length ⟨i + 1,g1,accG g1 p,fq,refG g1 p⟩:=⟨h5,hg1,hs1,rfl,rfl,hfq⟩
   clear hTq hckq hnodq h64q hfq
   generalize (zas g1 u).2 = x at *
   generalize accG g1 p = acc1 at *
   generalize refG g1 p = R1 at *
   have hsi:=zb7 [] [] (by simp)
   rw [decide_eq_true rfl] at hsi
   refine zan ⟨139,[(10,.pt 40 0 0),(12,eSts l),(19,.I i),(20,.pv (tC g1 p acc1 fq R1)),(21,.vs 1 false []),(22,.vs 1 false []),(23,.I x)],[(40,some ⟨9,[tC g1 p acc1 fq R1],0⟩)],1800⟩ rfl ?_ ?_
   ·simp [h5,← hu]
    refine zaj hap5 (by simp) ?_
    simp [zau]
    exact ⟨rfl,LeH [(40,40)] [1688]⟩
   refine zan ⟨139,[(10,.pt 40 0 0),(12,eSts l),(19,.I i),(20,.pv (tC g1 p acc1 fq R1)),(21,.vs 1 false []),(22,.vs 1 false []),(23,.I x),(24,.pv (tC g1 p acc1 fq R1)),(25,.vs 1 false []),(26,.vs 1 false []),(27,.I x)],[(40,some ⟨9,[tC g1 p acc1 fq R1],0⟩)],2000⟩ rfl ?_ ?_
   ·simp [h5,← hu]
    refine zaj hap6 (by simp) ?_
    simp [zau]
    exact ⟨rfl,LeH [(40,40)] [1888]⟩
   refine zab ?_
   refine zaa ⟨139,[(10,.pt 40 0 0),(12,eSts l),(19,.I i),(24,.pv (tC g1 p acc1 fq R1)),(136,.B false)],[(40,some ⟨9,[tC g1 p acc1 fq R1],0⟩)],2200⟩ rfl ?_ ?_
   ·simp
    refine zaj hsm (by simp) ?_
    simp
    refine zaj hsi (by simp) ?_
    simp
    refine zaj hsi (by simp) ?_
    simp
    exact LeH [(40,40)] []
   refine zac _ rfl (fun h=>by cases h) fun _=>?_
   refine zae ?_
   refine zar rfl ?_
   simp [zau]
   refine zar rfl ?_
   simp
   exact ⟨⟨i + 1,g1,acc1,fq,R1⟩,hinv,by simp only; omega,Le.go [(40,40)] [] rfl rfl (by simp [hw1]) (by simp)⟩
 refine zam ?_
 refine hit ?_
 refine rx (s:=?s60) [4] [] [] rfl ?o60 ?q60
 case o60=>simp; refine zaj zmk (by simp) ?_; simp; rfl
 refine zag ?_
 exact ⟨.inr rfl,zak.one (by simp)⟩
end Go.Proofs.YthmaflecfppoiaaGreat
