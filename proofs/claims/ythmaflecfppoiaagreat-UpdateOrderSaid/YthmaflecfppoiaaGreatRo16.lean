/- Texts of this claim,merged. -/
import Derived.Test.YthmaflecfppoiaaGreatRo15
import Derived.Test.YthmaflecfppoiaaGreatRo9
import Derived.Test.YthmaflecfppoiaaGreatRo10
import Derived.Test.YthmaflecfppoiaaGreatRo13
import Derived.Test.YthmaflecfppoiaaGreatRo14
import Derived.Test.YthmaflecfppoiaaGreatRo12
set_option linter.unusedSimpArgs false
set_option linter.unusedVariables false
set_option linter.unusedSectionVars false
namespace Go.Proofs.YthmaflecfppoiaaGreat
open Go
abbrev tC (g : Gr) (p : Pol) (acc f : List Int) (R : List (Int × List Int)) : List AV:=[.I g.size,eEs g.edges,ints g.gone,ints p.seeds,ints p.table,.I p.lv,ints acc,ints f,.vs 2 false (zaN R)]
abbrev eT (g : Gr) (p : Pol) (acc f : List Int) (R : List (Int × List Int)) : AV:=.agg (tC g p acc f R)
abbrev stC (s : GStp) : List AV:=[.B s.gone,.I s.e.f,.I s.e.t,.I s.e.v]
abbrev eSt (s : GStp) : AV:=.agg (stC s)
abbrev eSts (l : List GStp) : AV:=.vs 4 false (l.map fun s=>stC s)
@[simp] theorem zvL {ρ : List (Nat × Nat)} {sn : List Nat} {h : Nat → Option Ent} {n : Nat} {t : TypeId} {v : AV} : conv ρ sn h (n + 1) (.ifc t v) = .ifc t (conv ρ sn h n v):=(rfl)
def zfm (a b : List Int) : List Int:=srt (a.filter fun x=>!decide (x ∈ b))
section
variable {P : Program} {np id : Nat} {h : Nat → Option Ent} {K : AV → List Nat → List (Nat × Option Ent) → Prop} {args args' : List AV} {res : AV}
theorem ztO {tbl : List (TypeId × FuncId)} {t : TypeId} {f : FuncId} {x : AV} (hl : lkp tbl t = some f) (hc : zai P f args' [] res []) (he : (x :: args).map (conv [] [] h 4) = args')
  (hk : K (conv (swp [] id) [] (fun _=>none) 4 res) [] []) : aK P np id (.inv tbl) (.ifc t x :: args) h K :=
 ⟨f,[],[],true,args',[],res,[],hl,by simp,by simp,by simp,by rw [List.zipIdx_nil,he]; exact zb0 _,rfl,hc,by simp,.inl rfl,by simpa [swp] using hk⟩
end
theorem zjj (p : Pol) (hs : p.seeds.length ≤ 1000000) (ht : p.table.length ≤ 1000000) : zai Tryz.prog zeG [eP p] [] (eP p) []:=by
 refine zkP.acalls (nbz rfl) (nbz rfl) (Nat.zero_le _) ?_
 show awp _ 0 _ _ ⟨12,[(0,eP p)],[],16⟩
 refine zab ⟨12,[(1,.pv (pC p)),(2,.pt 24 0 0)],[(24,some ⟨3,[[.nilS,.nilS,.I 0]],0⟩)],100⟩ rfl ?_ ?_
 ·simp
  exact LeH [(24,24)] [16]
 refine zap ⟨12,[(2,.pt 24 0 0)],[(24,some ⟨3,[pC p],0⟩)],300⟩ rfl ?_ ?_
 ·simp
  refine zbc (zfX p.seeds (by omega)) (by simp) ?_
  simp
  refine zbc (zfX p.table (by omega)) (by simp) ?_
  simp [zaG]
  exact ⟨rfl,Le.go [(24,24)] [116,140] rfl rfl (by simp) (by simp [fcd,zaq])⟩
 refine zag ?_
 exact ⟨.inr rfl,zak.out [] [24] rfl (by simp) (by simp) (by simp) (by simp)⟩
theorem zih (b : List Int) (x : Int) (hb : b.length ≤ 1000000) : zai Tryz.prog zc0 [.I x,.pv [ints b]] [] (.B (decide (x ∈ b))) []:=by
 refine zke.acalls (nbz rfl) (nbz rfl) (Nat.le_refl _) ?_
 show awp _ 0 _ _ ⟨7,[(0,.I x),(1,.pv [ints b])],[],16⟩
 refine rx (s:=?s1) [0,1] [] [] rfl ?o1 ?q1
 case o1=>simp; rfl
 refine rx (s:=?s2) [3] [] [] rfl ?o2 ?q2
 case o2=>simp; refine zaj (zfh b x (by omega)) (by simp) ?_; simp; rfl
 refine zag ?_
 exact ⟨.inr rfl,zak.one (by simp)⟩
theorem zgz (a b : List Int) (ha : a.length ≤ 1000000) (hb : b.length ≤ 1000000) : zai Tryz.prog zeq [ints a,ints b] [] (ints (zfm a b)) []:=by
 obtain ⟨F,hF⟩ : ∃ F,F = a.filter fun x=>!decide (x ∈ b):=⟨_,rfl⟩
 have hFl : F.length ≤ a.length:=by rw [hF]; exact List.length_filter_le _ _
 have hdel:=zgv zc0 [.pv [ints b]] (fun x=>decide (x ∈ b)) a a.length F.length rfl (by rw [hF]) (by omega) (fun ρ sn h n=>by simp) (fun e _=>zih b e hb)
 rw [← hF] at hdel
 have hsort:=zfz F (by omega)
 have hsl : (srt F).length = F.length:=List.length_mergeSort F
 have htk : ∀ h : Int → List AV,List.take F.length (List.map h (srt F)) = List.map h (srt F):=fun h=>List.take_of_length_le (by rw [List.length_map,hsl]; exact Nat.le_refl _)
 unfold zfm
 rw [← hF]
 refine znJ.acalls (nbz rfl) (nbz rfl) (Nat.zero_le _) ?_
 show awp _ 0 _ _ ⟨10,[(0,ints a),(1,ints b)],[],16⟩
 refine zab ⟨10,[(0,ints a),(3,.pv [ints b])],[],100⟩ rfl ?_ ?_
 ·simp
  exact LeH [] [16]
 refine zab ⟨10,[(4,ints (srt F))],[],300⟩ rfl ?_ ?_
 ·simp
  refine zbc (zfX a (by omega)) (by simp) ?_
  simp
  refine za0 (i:=108) rfl (e':=⟨1,zah a,0⟩) (by simp [fcd]) hdel (by simp) (by simp) ?_
  simp [fcd]
  refine zm5 [108] hsort (by simp [fcd]) (.rs _ _ _) ztZ ?_
  simp [fcd]
  exact Le.go [] [132] rfl rfl (by simp [hsl,htk,fcd]) (by simp)
 refine zag ?_
 exact ⟨.inr rfl,zak.one (by simp)⟩
theorem zqu {g : Gr} (hg : GrOk g) : zal g 0 = g:=by
 obtain ⟨s,E,go⟩:=g
 unfold zal
 congr 1
 refine List.filter_eq_self.2 fun e he=>?_
 have:=(hg.val e he).1
 simp
 omega
theorem zdl (g : Gr) (p : Pol) (hg : GrOk g) (hp : za6 g.size p) (hN : g.size < 20) :
  ∃ f,zfp g p (zaz (accG g p)) f ∧ zai Tryz.prog zb9 [eG g,eP p] [] (.tup [eT g p (accG g p) f (refG g p),.I 0]) []:=by
 have hsl:=zmE hg hp
 have hel:=hg.edges_le
 have hgl:=hg.gone_le
 have htl:=hp.2.2.2.1
 obtain ⟨f,hf,hrun⟩:=zng g p hg hp (by omega) hN
 refine ⟨f,hf,?_⟩
 have hlev:=zdm g 0 (by omega) (by omega)
 rw [zqu hg] at hlev
 have hpol:=zjj p (by omega) (by omega)
 have hrun : zai Tryz.prog zeW [eG g,eP p] [] (.tup [eAcc (accG g p) f (refG g p),.I 0]) []:=hrun
 generalize accG g p = acc at *
 generalize refG g p = R at *
 refine zl6.acalls (nbz rfl) (nbz rfl) (Nat.zero_le _) ?_
 show awp _ 0 _ _ ⟨24,[(0,eG g),(1,eP p)],[],16⟩
 refine zab ⟨24,[(2,.pv (gC g)),(3,.pv (pC p)),(4,.pt 32 0 0)],[(32,some ⟨9,[[.I 0,.nilS,.nilS,.nilS,.nilS,.I 0,.nilS,.nilS,.nilS]],0⟩)],100⟩ rfl ?_ ?_
 ·simp
  exact LeH [(32,32)] [16,24]
 refine zab ⟨24,[(2,.pv (gC g)),(3,.pv (pC p)),(4,.pt 32 0 0),(6,.pv [ints acc,ints f,.vs 2 false (zaN R)]),(7,.I 0)],[(32,some ⟨9,[[.I 0,.nilS,.nilS,.nilS,.nilS,.I 0,.nilS,.nilS,.nilS]],0⟩)],200⟩ rfl ?_ ?_
 ·simp
  refine zaj hrun (by simp) ?_
  simp
  exact LeH [(32,32)] [148]
 refine zaa ?_
 refine zab ⟨24,[(2,.pv (gC g)),(3,.pv (pC p)),(4,.pt 32 0 0),(6,.pv [ints acc,ints f,.vs 2 false (zaN R)]),(15,.B false)],[(32,some ⟨9,[[.I 0,.nilS,.nilS,.nilS,.nilS,.I 0,.nilS,.nilS,.nilS]],0⟩)],300⟩ rfl ?_ ?_
 ·simp
  exact LeH [(32,32)] []
 refine zac _ rfl (fun h=>by cases h) fun _=>?_
 refine zae ?_
 refine zap ⟨24,[(4,.pt 32 0 0),(5,.I 0)],[(32,some ⟨9,[tC g p acc f R],0⟩)],500⟩ rfl ?_ ?_
 ·simp
  refine zaj hlev (by simp) ?_
  simp
  refine zaj hpol (by simp) ?_
  simp [zaG]
  exact ⟨rfl,LeH [(32,32)] []⟩
 refine zag ?_
 exact ⟨.inr rfl,zak.out [] [32] rfl (by simp) (by simp) (by simp) (by simp)⟩
theorem zkv (e : Ed) (g : Gr) (hl : g.edges.length ≤ 1000000) (hl2 : g.gone.length ≤ 1000000) : zai Tryz.prog zbi [eE e,eG g] [] (.tup [eG (zbn g e).1,.I (zbn g e).2]) []:=by
 have hw:=zlO g e (by omega) (by omega)
 generalize zbn g e = r at *
 obtain ⟨g',x⟩:=r
 refine zgt.acalls (nbz rfl) (nbz rfl) (Nat.zero_le _) ?_
 show awp _ 0 _ _ ⟨11,[(0,eE e),(1,eG g)],[],16⟩
 refine zab ⟨11,[(2,.pv (eC e)),(3,.pv (gC g)),(4,.pt 32 0 0)],[(32,some ⟨3,[[.I 0,.nilS,.nilS]],0⟩)],100⟩ rfl ?_ ?_
 ·simp
  exact LeH [(32,32)] [16,24]
 refine zab ⟨11,[(4,.pt 32 0 0),(5,.I x)],[(32,some ⟨3,[gC g'],0⟩)],300⟩ rfl ?_ ?_
 ·simp
  refine zaj hw (by simp) ?_
  simp [zaG]
  exact LeH [(32,32)] []
 refine zag ?_
 exact ⟨.inr rfl,zak.out [] [32] rfl (by simp) (by simp) (by simp) (by simp)⟩
theorem zk5 (e : Ed) (g : Gr) (hl : g.edges.length ≤ 1000000) (hl2 : g.gone.length ≤ 1000000) : zai Tryz.prog zbq [eE e,eG g] [] (.tup [eG (zbr g e.f e.t).1,.I (zbr g e.f e.t).2]) []:=by
 have hw:=zi4 g e.f e.t (by omega) (by omega)
 generalize zbr g e.f e.t = r at *
 obtain ⟨g',x⟩:=r
 refine zgU.acalls (nbz rfl) (nbz rfl) (Nat.zero_le _) ?_
 show awp _ 0 _ _ ⟨14,[(0,eE e),(1,eG g)],[],16⟩
 refine zab ⟨14,[(2,.pv (eC e)),(3,.pv (gC g)),(4,.pt 32 0 0)],[(32,some ⟨3,[[.I 0,.nilS,.nilS]],0⟩)],100⟩ rfl ?_ ?_
 ·simp
  exact LeH [(32,32)] [16,24]
 refine zab ⟨14,[(4,.pt 32 0 0),(5,.I x)],[(32,some ⟨3,[gC g'],0⟩)],300⟩ rfl ?_ ?_
 ·simp
  refine zaj hw (by simp) ?_
  simp [zaG]
  exact LeH [(32,32)] []
 refine zag ?_
 exact ⟨.inr rfl,zak.out [] [32] rfl (by simp) (by simp) (by simp) (by simp)⟩
theorem ziG (s : GStp) : zai Tryz.prog zii [eSt s] [] (.ifc (if s.gone = true then 141 else 142) (eE s.e)) []:=by
 obtain ⟨go,e⟩:=s
 refine zq5.acalls (nbz rfl) (nbz rfl) (Nat.zero_le _) ?_
 show awp _ 0 _ _ ⟨11,[(0,eSt ⟨go,e⟩)],[],16⟩
 refine zab ⟨11,[(1,.pv (stC ⟨go,e⟩))],[],100⟩ rfl ?_ ?_
 ·simp
  exact LeH [] [16]
 refine zaa ?_
 refine zab ⟨11,[(1,.pv (stC ⟨go,e⟩)),(4,.B go)],[],200⟩ rfl ?_ ?_
 ·simp
  exact LeH [] []
 refine zac _ rfl (fun h=>?_) fun h=>?_
 ·subst h
  refine zab ⟨11,[(2,.ifc 141 (eE e))],[],300⟩ rfl ?_ ?_
  ·simp
   exact LeH [] []
  refine zag ?_
  exact ⟨.inr rfl,zak.one (by simp)⟩
 ·subst h
  refine zae ?_
  refine zab ⟨11,[(2,.ifc 142 (eE e))],[],300⟩ rfl ?_ ?_
  ·simp
   exact LeH [] []
  refine zag ?_
  exact ⟨.inr rfl,zak.one (by simp)⟩
theorem zpX (g : Gr) (s : GStp) (hl : g.edges.length ≤ 1000000) (hl2 : g.gone.length ≤ 1000000) : ∃ f,lkp [(141,zbq),(142,zbi)] (if s.gone = true then 141 else 142) = some f ∧
  zai Tryz.prog f [eE s.e,eG g] [] (.tup [eG (zau g s).1,.I (zau g s).2]) []:=by
 obtain ⟨go,e⟩:=s
 cases go
 ·exact ⟨zbi,rfl,zkv e g hl hl2⟩
 ·exact ⟨zbq,rfl,zk5 e g hl hl2⟩
section
variable {g : Gr} {p : Pol} {acc f : List Int} {R : List (Int × List Int)} {s : GStp}
theorem zjR (hl : g.edges.length ≤ 1000000) (hl2 : g.gone.length ≤ 1000000) (h : (zau g s).2 ≠ 0) : zai Tryz.prog zes [eT g p acc f R,eSt s] [] (.tup [eT g p acc f R,.I (zau g s).2]) []:=by
 obtain ⟨fm,htb,haf⟩:=zpX g s hl hl2
 have hof:=ziG s
 generalize hty : (if s.gone = true then (141 : Nat) else 142) = ty at *
 generalize zau g s = r at *
 obtain ⟨g',x⟩:=r
 simp only at h haf
 have he' : (x != 0) = true:=by simp [h]
 refine ziC.acalls (nbz rfl) (nbz rfl) (Nat.zero_le _) ?_
 show awp _ 0 _ _ ⟨26,[(0,eT g p acc f R),(1,eSt s)],[],16⟩
 refine zab ⟨26,[(2,.pv (tC g p acc f R)),(3,.pv (stC s)),(4,.pt 32 0 0)],[(32,some ⟨9,[[.I 0,.nilS,.nilS,.nilS,.nilS,.I 0,.nilS,.nilS,.nilS]],0⟩)],100⟩ rfl ?_ ?_
 ·simp
  exact LeH [(32,32)] [16,24]
 refine zap ⟨26,[(2,.pv (tC g p acc f R)),(4,.pt 32 0 0),(7,.I x)],[(32,some ⟨9,[[.I 0,.nilS,.nilS,.nilS,.nilS,.I 0,.nilS,.nilS,.nilS]],0⟩)],200⟩ rfl ?_ ?_
 ·simp
  refine zaj hof (by simp) ?_
  simp
  refine ztO htb haf (by simp) ?_
  simp [zaG]
  exact ⟨rfl,LeH [(32,32)] []⟩
 refine zaa ?_
 refine zab ⟨26,[(2,.pv (tC g p acc f R)),(4,.pt 32 0 0),(7,.I x),(17,.B true)],[(32,some ⟨9,[[.I 0,.nilS,.nilS,.nilS,.nilS,.I 0,.nilS,.nilS,.nilS]],0⟩)],300⟩ rfl ?_ ?_
 ·simp
  exact Le.go [(32,32)] [] rfl rfl (by simp [he']) (by simp)
 refine zac _ rfl (fun _=>?_) fun h=>by cases h
 refine zab ⟨26,[(4,.pt 32 0 0),(5,.I x)],[(32,some ⟨9,[tC g p acc f R],0⟩)],400⟩ rfl ?_ ?_
 ·simp [zaG]
  exact LeH [(32,32)] []
 refine zag ?_
 exact ⟨.inr rfl,zak.out [] [32] rfl (by simp) (by simp) (by simp <;> exact .refl _) (by simp)⟩
theorem zjt (hg : GrOk g) (hp : za6 g.size p) (hN : g.size < 20) (h : (zau g s).2 = 0) :
  ∃ f',zfp (zau g s).1 p (zaz (accG (zau g s).1 p)) f' ∧ zai Tryz.prog zes [eT g p acc f R,eSt s] [] (.tup [eT (zau g s).1 p (accG (zau g s).1 p) f' (refG (zau g s).1 p),.I 0]) []:=by
 have hel:=hg.edges_le
 have hgl:=hg.gone_le
 obtain ⟨k1,k2,k3,k4⟩:=zeN hg h
 obtain ⟨fm,htb,haf⟩:=zpX g s (by omega) (by omega)
 have hof:=ziG s
 generalize hty : (if s.gone = true then (141 : Nat) else 142) = ty at *
 rw [h] at haf
 generalize (zau g s).1 = g' at *
 obtain ⟨f',hf',hst⟩:=zdl g' p k1 (by rw [k2]; exact hp) (by omega)
 refine ⟨f',hf',?_⟩
 generalize accG g' p = acc' at *
 generalize refG g' p = R' at *
 refine ziC.acalls (nbz rfl) (nbz rfl) (Nat.zero_le _) ?_
 show awp _ 0 _ _ ⟨26,[(0,eT g p acc f R),(1,eSt s)],[],16⟩
 refine zab ⟨26,[(2,.pv (tC g p acc f R)),(3,.pv (stC s)),(4,.pt 32 0 0)],[(32,some ⟨9,[[.I 0,.nilS,.nilS,.nilS,.nilS,.I 0,.nilS,.nilS,.nilS]],0⟩)],100⟩ rfl ?_ ?_
 ·simp
  exact LeH [(32,32)] [16,24]
 refine zap ⟨26,[(2,.pv (tC g p acc f R)),(4,.pt 32 0 0),(6,.pv (gC g')),(7,.I 0)],[(32,some ⟨9,[[.I 0,.nilS,.nilS,.nilS,.nilS,.I 0,.nilS,.nilS,.nilS]],0⟩)],200⟩ rfl ?_ ?_
 ·simp
  refine zaj hof (by simp) ?_
  simp
  refine ztO htb haf (by simp) ?_
  simp [zaG]
  exact ⟨rfl,LeH [(32,32)] [164]⟩
 refine zaa ?_
 refine zab ⟨26,[(2,.pv (tC g p acc f R)),(4,.pt 32 0 0),(6,.pv (gC g')),(17,.B false)],[(32,some ⟨9,[[.I 0,.nilS,.nilS,.nilS,.nilS,.I 0,.nilS,.nilS,.nilS]],0⟩)],300⟩ rfl ?_ ?_
 ·simp
  exact LeH [(32,32)] []
 refine zac _ rfl (fun h=>by cases h) fun _=>?_
 refine zae ?_
 refine zab ⟨26,[(4,.pt 32 0 0),(5,.I 0)],[(32,some ⟨9,[tC g' p acc' f' R'],0⟩)],400⟩ rfl ?_ ?_
 ·simp
  refine zaj hst (by simp) ?_
  simp [zaG]
  exact LeH [(32,32)] []
 refine zag ?_
 exact ⟨.inr rfl,zak.out [] [32] rfl (by simp) (by simp) (by simp <;> exact .refl _) (by simp)⟩
variable {e : Int}
theorem zfu (hc : zai Tryz.prog zbd [eG g,eP p,eAcc acc f R] [] (.I 0) []) (hl : g.edges.length ≤ 1000000) (hl2 : g.gone.length ≤ 1000000) (h : (zau g s).2 ≠ 0) :
  zai Tryz.prog zbL [eT g p acc f R,eSt s] [] (.tup [eT g p acc f R,ints [],ints [],.I (zau g s).2]) []:=by
 have hnx:=zjR (p:=p) (acc:=acc) (f:=f) (R:=R) hl hl2 h
 generalize (zau g s).2 = x at *
 have he' : (x != 0) = true:=by simp [h]
 refine zhw.acalls (nbz rfl) (nbz rfl) (Nat.zero_le _) ?_
 show awp _ 0 _ _ ⟨44,[(0,eT g p acc f R),(1,eSt s)],[],16⟩
 refine zab ⟨44,[(2,.pv (tC g p acc f R)),(3,.pv (stC s)),(4,.pt 32 0 0)],[(32,some ⟨9,[[.I 0,.nilS,.nilS,.nilS,.nilS,.I 0,.nilS,.nilS,.nilS]],0⟩)],100⟩ rfl ?_ ?_
 ·simp
  exact LeH [(32,32)] [16,24]
 refine zaa ?_
 refine zab ⟨44,[(2,.pv (tC g p acc f R)),(3,.pv (stC s)),(4,.pt 32 0 0),(19,.B false)],[(32,some ⟨9,[[.I 0,.nilS,.nilS,.nilS,.nilS,.I 0,.nilS,.nilS,.nilS]],0⟩)],200⟩ rfl ?_ ?_
 ·simp
  refine zaj hc (by simp) ?_
  simp
  exact LeH [(32,32)] []
 refine zac _ rfl (fun h=>by cases h) fun _=>?_
 refine zae ?_
 refine zab ⟨44,[(2,.pv (tC g p acc f R)),(4,.pt 32 0 0),(9,.I x)],[(32,some ⟨9,[[.I 0,.nilS,.nilS,.nilS,.nilS,.I 0,.nilS,.nilS,.nilS]],0⟩)],300⟩ rfl ?_ ?_
 ·simp
  refine zaj hnx (by simp) ?_
  simp [zaG]
  exact LeH [(32,32)] []
 refine zaa ?_
 refine zab ⟨44,[(2,.pv (tC g p acc f R)),(4,.pt 32 0 0),(9,.I x),(28,.B true)],[(32,some ⟨9,[[.I 0,.nilS,.nilS,.nilS,.nilS,.I 0,.nilS,.nilS,.nilS]],0⟩)],400⟩ rfl ?_ ?_
 ·simp
  exact Le.go [(32,32)] [] rfl rfl (by simp [he']) (by simp)
 refine zac _ rfl (fun _=>?_) fun h=>by cases h
 refine zab ⟨44,[(4,.pt 32 0 0),(5,.vs 1 false []),(6,.vs 1 false []),(7,.I x)],[(32,some ⟨9,[tC g p acc f R],0⟩)],500⟩ rfl ?_ ?_
 ·simp [zaG]
  exact LeH [(32,32)] []
 refine zag ?_
 exact ⟨.inr rfl,zak.out [] [32] rfl (by simp) (by simp) (by simp <;> exact .refl _) (by simp)⟩
theorem zcs (hc : zai Tryz.prog zbd [eG g,eP p,eAcc acc f R] [] (.I 0) []) (hg : GrOk g) (hp : za6 g.size p) (hN : g.size < 20) (ha : acc.length ≤ 1000) (h : (zau g s).2 = 0) :
  ∃ f',zfp (zau g s).1 p (zaz (accG (zau g s).1 p)) f' ∧ zai Tryz.prog zbL [eT g p acc f R,eSt s] [] (.tup [eT (zau g s).1 p (accG (zau g s).1 p) f' (refG (zau g s).1 p),ints (zfm (accG (zau g s).1 p) acc),ints (zfm acc (accG (zau g s).1 p)),.I 0]) []:=by
 obtain ⟨f',hf',hnx⟩:=zjt (acc:=acc) (f:=f) (R:=R) hg hp hN h
 refine ⟨f',hf',?_⟩
 have hal:=zmd (zeN hg h).1 p
 generalize (zau g s).1 = g' at *
 generalize accG g' p = acc' at *
 generalize refG g' p = R' at *
 have hl1:=zgz acc' acc (by omega) (by omega)
 have hl2:=zgz acc acc' (by omega) (by omega)
 generalize zfm acc' acc = gi at *
 generalize zfm acc acc' = lo at *
 refine zhw.acalls (nbz rfl) (nbz rfl) (Nat.zero_le _) ?_
 show awp _ 0 _ _ ⟨44,[(0,eT g p acc f R),(1,eSt s)],[],16⟩
 refine zab ⟨44,[(2,.pv (tC g p acc f R)),(3,.pv (stC s)),(4,.pt 32 0 0)],[(32,some ⟨9,[[.I 0,.nilS,.nilS,.nilS,.nilS,.I 0,.nilS,.nilS,.nilS]],0⟩)],100⟩ rfl ?_ ?_
 ·simp
  exact LeH [(32,32)] [16,24]
 refine zaa ?_
 refine zab ⟨44,[(2,.pv (tC g p acc f R)),(3,.pv (stC s)),(4,.pt 32 0 0),(19,.B false)],[(32,some ⟨9,[[.I 0,.nilS,.nilS,.nilS,.nilS,.I 0,.nilS,.nilS,.nilS]],0⟩)],200⟩ rfl ?_ ?_
 ·simp
  refine zaj hc (by simp) ?_
  simp
  exact LeH [(32,32)] []
 refine zac _ rfl (fun h=>by cases h) fun _=>?_
 refine zae ?_
 refine zab ⟨44,[(2,.pv (tC g p acc f R)),(4,.pt 32 0 0),(8,.pv (tC g' p acc' f' R')),(9,.I 0)],[(32,some ⟨9,[[.I 0,.nilS,.nilS,.nilS,.nilS,.I 0,.nilS,.nilS,.nilS]],0⟩)],300⟩ rfl ?_ ?_
 ·simp
  refine zaj hnx (by simp) ?_
  simp [zaG]
  exact LeH [(32,32)] [248]
 refine zaa ?_
 refine zab ⟨44,[(2,.pv (tC g p acc f R)),(4,.pt 32 0 0),(8,.pv (tC g' p acc' f' R')),(28,.B false)],[(32,some ⟨9,[[.I 0,.nilS,.nilS,.nilS,.nilS,.I 0,.nilS,.nilS,.nilS]],0⟩)],400⟩ rfl ?_ ?_
 ·simp
  exact LeH [(32,32)] []
 refine zac _ rfl (fun h=>by cases h) fun _=>?_
 refine zae ?_
 refine zap ⟨44,[(4,.pt 32 0 0),(8,.pv (tC g' p acc' f' R')),(10,ints acc),(11,ints acc')],[(32,some ⟨9,[[.I 0,.nilS,.nilS,.nilS,.nilS,.I 0,.nilS,.nilS,.nilS]],0⟩)],500⟩ rfl ?_ ?_
 ·simp
  exact ⟨rfl,LeH [(32,32)] []⟩
 refine zap ⟨44,[(4,.pt 32 0 0),(5,ints gi),(6,ints lo),(7,.I 0)],[(32,some ⟨9,[tC g' p acc' f' R'],0⟩)],700⟩ rfl ?_ ?_
 ·simp
  refine zaj hl1 (by simp) ?_
  simp
  refine zaj hl2 (by simp) ?_
  simp [zaG]
  exact ⟨rfl,LeH [(32,32)] []⟩
 refine zag ?_
 exact ⟨.inr rfl,zak.out [] [32] rfl (by simp) (by simp) (by simp <;> exact .refl _) (by simp)⟩
end
section
variable {P : Program} {np id : Nat} {h : Nat → Option Ent} {K : AV → List Nat → List (Nat × Option Ent) → Prop} {f : FuncId} {first capt args args' : List AV} {res : AV}
end
structure TLen (g : Gr) (p : Pol) (acc f : List Int) (R : List (Int × List Int)) : Prop where
 e : g.edges.length ≤ 1000000
 o : g.gone.length ≤ 1000000
 s : p.seeds.length ≤ 1000000
 t : p.table.length ≤ 1000000
 a : acc.length ≤ 1000
 f : f.length ≤ 2000
 r : R.length ≤ 1000
 d : ∀ r ∈ R,r.2.length ≤ 1000
section
variable {g : Gr} {p : Pol} {acc f : List Int} {R : List (Int × List Int)} {s : GStp} {e : Int}
theorem zgR {f f' : List Int} (he : g.edges.length ≤ 1000000) (ho : g.gone.length ≤ 1000000) (hs : p.seeds.length ≤ 1000000) (ht : p.table.length ≤ 1000000) (ha : acc.length ≤ 1000000) (hR : R.length ≤ 1000) (hd : ∀ r ∈ R,r.2.length ≤ 140737488355328) :
  zai Tryz.prog zdr [eT g p acc f R,eT g p acc f' R] [] (.B true) []:=by
 have h1:=zlX g g (by omega) (by omega)
 rw [decide_eq_true (show EqG g g from ⟨rfl,rfl,rfl⟩)] at h1
 have h2:=zcx p.seeds p.seeds (by omega)
 rw [decide_eq_true rfl] at h2
 have h3:=zcx p.table p.table (by omega)
 rw [decide_eq_true rfl] at h3
 have h4:=ztj acc f acc f' R R (by omega) hR hR hd
 rw [decide_eq_true (show acc = acc ∧ R = R from ⟨rfl,rfl⟩)] at h4
 refine znr.acalls (nbz rfl) (nbz rfl) (Nat.zero_le _) ?_
 show awp _ 0 _ _ ⟨44,[(0,eT g p acc f R),(1,eT g p acc f' R)],[],16⟩
 refine zab ⟨44,[(2,.pv (tC g p acc f R)),(3,.pv (tC g p acc f' R))],[],100⟩ rfl ?_ ?_
 ·simp
  exact LeH [] [16,24]
 refine zab ⟨44,[(4,.B true)],[],600⟩ rfl ?_ ?_
 ·simp
  refine zaj h1 (by simp) ?_
  simp
  refine zaj h2 (by simp) ?_
  simp
  refine zaj h3 (by simp) ?_
  simp
  refine zaj h4 (by simp) ?_
  simp
  exact LeH [] []
 refine zag ?_
 exact ⟨.inr rfl,zak.one (by simp)⟩
theorem zdV {f : List Int} (hg : GrOk g) (hp : za6 g.size p) (hf : zfp g p (zaz (accG g p)) f) : TLen g p (accG g p) f (refG g p):=by
 have h1:=zmE hg hp
 have h2:=hg.edges_le
 have h3:=hg.gone_le
 have h4:=hp.2.2.2.1
 have h5:=zmd hg p
 have h6:=ztx hg p
 have h8:=hg.1.2.1
 have h7:=zrR hg hp (fun x hx=>zp3 p x (zdv.1 hx).1) (by have:=hg.1.2.1; omega) (zcq _) hf
 exact ⟨by omega,by omega,by omega,by omega,by omega,by omega,by omega,fun r hr=>by have:=zrT hg p r hr; omega⟩
theorem zm9 {a b : List Int} (hn : a.Nodup) (hr : ∀ k ∈ a,0 ≤ k ∧ k < 64) : zfm a b = zaz (a.filter fun x=>!decide (x ∈ b)):=by
 unfold zfm
 exact zjl (hn.sublist List.filter_sublist) fun k hk=>hr k (List.mem_filter.1 hk).1
section
variable (hT : TLen g p acc f R) (hc : zai Tryz.prog zdt [eG g,eP p,eAcc acc f R] [] (.I 0) [])
include hT hc
end
end
structure AlS where
 i : Nat
 g : Gr
 acc : List Int
 f : List Int
 R : List (Int × List Int)
def OnW (p : Pol) (g0 : Gr) (acc0 f0 : List Int) (R0 : List (Int × List Int)) (n : Nat) (g : Gr) (acc f : List Int) (R : List (Int × List Int)) : Prop :=
 (n = 0 ∧ g = g0 ∧ acc = acc0 ∧ f = f0 ∧ R = R0) ∨ (0 < n ∧ acc = accG g p ∧ R = refG g p ∧ zfp g p (zaz (accG g p)) f)
structure AlI (p : Pol) (g0 : Gr) (acc0 f0 : List Int) (R0 : List (Int × List Int)) (l : List GStp) (s : AlS) : Prop where
 le : s.i ≤ l.length
 ok : GrOk s.g
 pol : za6 s.g.size p
 sz : s.g.size < 20
 on : OnW p g0 acc0 f0 R0 s.i s.g s.acc s.f s.R
 run : runS g0 l = ((runS s.g (l.drop s.i)).1,(runS s.g (l.drop s.i)).2.1 + s.i,(runS s.g (l.drop s.i)).2.2)
variable {p : Pol} {g0 : Gr} {acc0 f0 : List Int} {R0 : List (Int × List Int)} {l : List GStp} {s : AlS}
theorem zcD {g : Gr} {f : List Int} (hg : GrOk g) (hp : za6 g.size p) (hN : g.size < 20) (hf : zfp g p (zaz (accG g p)) f) :
  zai Tryz.prog zbd [eG g,eP p,eAcc (accG g p) f (refG g p)] [] (.I 0) [] ∧ zai Tryz.prog zdt [eG g,eP p,eAcc (accG g p) f (refG g p)] [] (.I 0) []:=by
 have hT:=zdV hg hp hf
 have hs:=zmE hg hp
 have h1:=zjy g p (accG g p) f (refG g p) hg hp (by omega) hN hT.a hT.r (by have:=hT.f; omega) (fun r hr=>by have:=hT.d r hr; omega)
 have h2:=zkM g p (accG g p) f (refG g p) hg hp (by omega) hT.a hT.r (by have:=hT.f; omega) (fun r hr=>by have:=hT.d r hr; omega)
 rw [show zhj g p (accG g p) f (refG g p) = 0 from znp hg hp (by omega) hf] at h1 h2
 exact ⟨h1,h2⟩
theorem AlI.start (hg : GrOk g0) (hp : za6 g0.size p) (hN : g0.size < 20) : AlI p g0 acc0 f0 R0 l ⟨0,g0,acc0,f0,R0⟩ :=
 ⟨Nat.zero_le _,hg,hp,hN,.inl ⟨rfl,rfl,rfl,rfl,rfl⟩,by simp⟩
theorem AlI.len (h : AlI p g0 acc0 f0 R0 l s) (hT : TLen g0 p acc0 f0 R0) : TLen s.g p s.acc s.f s.R:=by
 rcases h.on with ⟨_,h1,h2,h3,h4⟩ | ⟨_,h1,h2,h3⟩
 ·rw [h1,h2,h3,h4]; exact hT
 ·rw [h1,h2]; exact zdV h.ok h.pol h3
theorem AlI.chk (h : AlI p g0 acc0 f0 R0 l s) (hc : zai Tryz.prog zbd [eG g0,eP p,eAcc acc0 f0 R0] [] (.I 0) []) : zai Tryz.prog zbd [eG s.g,eP p,eAcc s.acc s.f s.R] [] (.I 0) []:=by
 rcases h.on with ⟨_,h1,h2,h3,h4⟩ | ⟨_,h1,h2,h3⟩
 ·rw [h1,h2,h3,h4]; exact hc
 ·rw [h1,h2]; exact (zcD h.ok h.pol h.sz h3).1
theorem zmr (g : Gr) (p : Pol) : (accG g p).Nodup:=(zbv _ _).sublist (zep _ _ rfl)
theorem zpM {g : Gr} (hg : GrOk g) (p : Pol) : ∀ k ∈ accG g p,0 ≤ k ∧ k < 64:=fun k hk=>by have h1:=zp3 p k hk; have h2:=hg.1.2.1; omega
theorem AlI.next (h : AlI p g0 acc0 f0 R0 l s) (hi : s.i < l.length) (hs : (zau s.g l[s.i]).2 = 0) {f' : List Int} (hf : zfp (zau s.g l[s.i]).1 p (zaz (accG (zau s.g l[s.i]).1 p)) f') :
  AlI p g0 acc0 f0 R0 l ⟨s.i + 1,(zau s.g l[s.i]).1,accG (zau s.g l[s.i]).1 p,f',refG (zau s.g l[s.i]).1 p⟩:=by
 obtain ⟨k1,k2,k3,k4⟩:=zeN h.ok hs
 refine ⟨hi,k1,by simp only; rw [k2]; exact h.pol,by simp only; rw [k2]; exact h.sz,.inr ⟨Nat.succ_pos _,rfl,rfl,hf⟩,?_⟩
 have h1:=h.run
 rw [List.drop_eq_getElem_cons hi,zeU hs] at h1
 rw [h1]
 simp only
 refine Prod.ext rfl (Prod.ext ?_ rfl)
 simp only
 omega
theorem AlI.stop (h : AlI p g0 acc0 f0 R0 l s) (hi : s.i < l.length) (hs : (zau s.g l[s.i]).2 ≠ 0) : runS g0 l = (s.g,s.i,(zau s.g l[s.i]).2):=by
 have h1:=h.run
 rw [List.drop_eq_getElem_cons hi,zmn hs] at h1
 rw [h1]
 simp
theorem AlI.done (h : AlI p g0 acc0 f0 R0 l s) (hi : s.i = l.length) : runS g0 l = (s.g,l.length,0):=by
 have h1:=h.run
 rw [hi,List.drop_length] at h1
 rw [h1]
 simp [runS]
set_option maxRecDepth 100000 in
theorem zfG (hc : zai Tryz.prog zbd [eG g0,eP p,eAcc acc0 f0 R0] [] (.I 0) []) (hg : GrOk g0) (hp : za6 g0.size p) (hN : g0.size < 20) (hT : TLen g0 p acc0 f0 R0) (hl : l.length ≤ 1000) :
  ∃ x : List Int × List Int × List (Int × List Int),OnW p g0 acc0 f0 R0 (runS g0 l).2.1 (runS g0 l).1 x.1 x.2.1 x.2.2 ∧ zai Tryz.prog zd9 [eT g0 p acc0 f0 R0,eSts l] [] (.tup [eT (runS g0 l).1 p x.1 x.2.1 x.2.2,.I (runS g0 l).2.1,.I (runS g0 l).2.2]) []:=by
 obtain ⟨⟨gF,n,e⟩,hrr⟩ : ∃ rr,rr = runS g0 l:=⟨_,rfl⟩
 rw [← hrr]
 refine zoJ.acallsX (args:=[eT g0 p acc0 f0 R0,eSts l]) (hs:=[]) (fun x=>.tup [eT gF p x.1 x.2.1 x.2.2,.I n,.I e]) (fun _=>[]) (fun x : List Int × List Int × List (Int × List Int)=>OnW p g0 acc0 f0 R0 n gF x.1 x.2.1 x.2.2) (nbz rfl) (nbz rfl) (fun _=>Nat.zero_le _) ?_
 show awp _ 0 _ _ ⟨38,[(0,eT g0 p acc0 f0 R0),(1,eSts l)],[],16⟩
 refine zab ⟨38,[(1,eSts l),(2,.pt 16 0 0),(4,.pt 24 0 0)],[(16,some ⟨9,[tC g0 p acc0 f0 R0],0⟩),(24,some ⟨9,[[.I 0,.nilS,.nilS,.nilS,.nilS,.I 0,.nilS,.nilS,.nilS]],0⟩)],100⟩ rfl ?_ ?_
 ·simp
  exact LeH [(16,16),(24,24)] []
 refine zaa ?_
 refine zab ⟨38,[(1,eSts l),(2,.pt 16 0 0),(4,.pt 24 0 0),(13,eSts l),(14,.I l.length),(15,.I 0)],[(16,some ⟨9,[tC g0 p acc0 f0 R0],0⟩),(24,some ⟨9,[[.I 0,.nilS,.nilS,.nilS,.nilS,.I 0,.nilS,.nilS,.nilS]],0⟩)],200⟩ rfl ?_ ?_
 ·simp
  exact LeH [(16,16),(24,24)] []
 refine zaf ?_
 refine zao (ι:=AlS) (fun s=>⟨38,[(1,eSts l),(2,.pt 16 0 0),(4,.pt 24 0 0),(13,eSts l),(14,.I l.length),(15,.I s.i)],[(16,some ⟨9,[tC s.g p s.acc s.f s.R],0⟩),(24,some ⟨9,[[.I 0,.nilS,.nilS,.nilS,.nilS,.I 0,.nilS,.nilS,.nilS]],0⟩)],300⟩) (AlI p g0 acc0 f0 R0 l) (fun s=>l.length - s.i) ⟨0,g0,acc0,f0,R0⟩ (AlI.start hg hp hN) (LeH [(16,16),(24,24)] []) ?_
 intro s hI
 have hi:=hI.le
 have hT':=hI.len hT
 have hc':=hI.chk hc
 refine zab ⟨38,[(1,eSts l),(2,.pt 16 0 0),(4,.pt 24 0 0),(13,eSts l),(14,.I l.length),(15,.I s.i),(16,.B (decide (s.i < l.length)))],[(16,some ⟨9,[tC s.g p s.acc s.f s.R],0⟩),(24,some ⟨9,[[.I 0,.nilS,.nilS,.nilS,.nilS,.I 0,.nilS,.nilS,.nilS]],0⟩)],400⟩ rfl ?_ ?_
 ·simp
  exact LeH [(16,16),(24,24)] []
 refine zaa ?_
 refine zac _ rfl (fun h5=>?_) fun h5=>?_
 ·rw [decide_eq_true_eq] at h5
  have hw1 : IntKind.i64.wrap ((s.i : Int) + 1) = (s.i : Int) + 1:=w64 (by omega) (by omega)
  refine zae ?_
  refine zaa ?_
  refine zaf ?_
  refine zab ⟨38,[(1,eSts l),(2,.pt 16 0 0),(4,.pt 24 0 0),(7,.I s.i),(8,.pv (stC l[s.i])),(13,eSts l),(14,.I l.length),(15,.I s.i)],[(16,some ⟨9,[tC s.g p s.acc s.f s.R],0⟩),(24,some ⟨9,[[.I 0,.nilS,.nilS,.nilS,.nilS,.I 0,.nilS,.nilS,.nilS]],0⟩)],500⟩ rfl ?_ ?_
  ·simp [h5,zaG]
   exact LeH [(16,16),(24,24)] [424]
  by_cases hs : (zau s.g l[s.i]).2 = 0
  ·obtain ⟨f',hf',hap⟩:=zcs hc' hI.ok hI.pol hI.sz hT'.a hs
   have hnx:=hI.next h5 hs hf'
   generalize zfm (accG (zau s.g l[s.i]).1 p) s.acc = gi at *
   generalize zfm s.acc (accG (zau s.g l[s.i]).1 p) = lo at *
   generalize accG (zau s.g l[s.i]).1 p = acc' at *
   generalize refG (zau s.g l[s.i]).1 p = R' at *
   generalize (zau s.g l[s.i]).1 = g' at *
   refine zab ⟨38,[(1,eSts l),(2,.pt 16 0 0),(4,.pt 24 0 0),(9,.pv (tC g' p acc' f' R')),(12,.I 0),(13,eSts l),(14,.I l.length),(15,.I s.i)],[(16,some ⟨9,[tC s.g p s.acc s.f s.R],0⟩),(24,some ⟨9,[[.I 0,.nilS,.nilS,.nilS,.nilS,.I 0,.nilS,.nilS,.nilS]],0⟩)],700⟩ rfl ?_ ?_
   ·simp
    refine zaj hap (by simp) ?_
    simp [zaG]
    exact LeH [(16,16),(24,24)] [564]
   refine zaa ?_
   refine zab ⟨38,[(1,eSts l),(2,.pt 16 0 0),(4,.pt 24 0 0),(9,.pv (tC g' p acc' f' R')),(13,eSts l),(14,.I l.length),(15,.I s.i),(29,.B false)],[(16,some ⟨9,[tC s.g p s.acc s.f s.R],0⟩),(24,some ⟨9,[[.I 0,.nilS,.nilS,.nilS,.nilS,.I 0,.nilS,.nilS,.nilS]],0⟩)],800⟩ rfl ?_ ?_
   ·simp
    exact LeH [(16,16),(24,24)] []
   refine zac _ rfl (fun h=>by cases h) fun _=>?_
   refine zae ?_
   refine zav rfl ?_
   simp [zaG]
   refine zav rfl ?_
   simp
   exact ⟨⟨s.i + 1,g',acc',f',R'⟩,hnx,by simp only; omega,Le.go [(16,16),(24,24)] [] rfl rfl (by simp [hw1]) (by simp)⟩
  ·have hst:=hI.stop h5 hs
   have hap:=zfu hc' hT'.e hT'.o hs
   rw [hst] at hrr
   generalize (zau s.g l[s.i]).2 = x at *
   cases hrr
   have he' : (e != 0) = true:=by simp [hs]
   refine zab ⟨38,[(2,.pt 16 0 0),(4,.pt 24 0 0),(7,.I s.i),(12,.I e)],[(16,some ⟨9,[tC s.g p s.acc s.f s.R],0⟩),(24,some ⟨9,[[.I 0,.nilS,.nilS,.nilS,.nilS,.I 0,.nilS,.nilS,.nilS]],0⟩)],700⟩ rfl ?_ ?_
   ·simp
    refine zaj hap (by simp) ?_
    simp [zaG]
    exact LeH [(16,16),(24,24)] []
   refine zaa ?_
   refine zab ⟨38,[(2,.pt 16 0 0),(4,.pt 24 0 0),(7,.I s.i),(12,.I e),(29,.B true)],[(16,some ⟨9,[tC s.g p s.acc s.f s.R],0⟩),(24,some ⟨9,[[.I 0,.nilS,.nilS,.nilS,.nilS,.I 0,.nilS,.nilS,.nilS]],0⟩)],800⟩ rfl ?_ ?_
   ·simp
    exact Le.go [(16,16),(24,24)] [] rfl rfl (by simp [he']) (by simp)
   refine zac _ rfl (fun _=>?_) fun h=>by cases h
   refine zab ⟨38,[(4,.pt 24 0 0),(5,.I s.i),(6,.I e)],[(24,some ⟨9,[tC s.g p s.acc s.f s.R],0⟩)],900⟩ rfl ?_ ?_
   ·simp [zaG]
    exact LeH [(24,24)] []
   refine zag ?_
   exact zij.mk (.inr rfl) (s.acc,s.f,s.R) hI.on (zak.out [] [24] rfl (by simp) (by simp) (by simp) (by simp))
 rw [decide_eq_false_iff_not] at h5
 have hil : s.i = l.length:=by omega
 have hdn:=hI.done hil
 rw [hdn] at hrr
 cases hrr
 have hon:=hI.on
 rw [hil] at hon
 refine zan ?_
 refine hit ?_
 refine zab ⟨38,[(4,.pt 24 0 0),(5,.I l.length),(6,.I 0)],[(24,some ⟨9,[tC s.g p s.acc s.f s.R],0⟩)],900⟩ rfl ?_ ?_
 ·simp [zaG]
  exact LeH [(24,24)] []
 refine zag ?_
 exact zij.mk (.inr rfl) (s.acc,s.f,s.R) hon (zak.out [] [24] rfl (by simp) (by simp) (by simp) (by simp))
def gU1 : Gr:=⟨3,[⟨0,1,1⟩],[]⟩
def gU3 : Gr:=⟨3,[⟨0,2,1⟩],[]⟩
def pU : Pol:=⟨[0],[3,1],1⟩
theorem ziE : GrOk gU1:=GrOk.of (by decide) (by decide) (by decide) (fun i h=>by simp at h) (by simp) (by decide)
theorem zsC : GrOk gU3:=GrOk.of (by decide) (by decide) (by decide) (fun i h=>by simp at h) (by simp) (by decide)
theorem zic : za6 3 pU:=by
 refine ⟨by decide +revert,fun i h=>?_,by decide +revert,by decide +revert,by decide +revert,by decide +revert,fun i h=>?_⟩
 ·obtain rfl : i = 0:=by simp [pU] at h; omega
  exact ⟨by decide +revert,by decide +revert,fun h=>by cases h⟩
 ·have : i = 0 ∨ i = 1:=by simp [pU] at h; omega
  rcases this with rfl | rfl
  ·exact ⟨by decide +revert,by decide +revert,fun h=>by cases h⟩
  ·exact ⟨by decide +revert,by decide +revert,fun h=>by decide +revert⟩
theorem zkc {g : Gr} {p : Pol} (hg : GrOk g) (hp : za6 g.size p) {ks f : List Int} (hr : ∀ x ∈ ks,0 ≤ x ∧ x < g.size) (hf : zaB (netN g) (netA g p ks) f) (hv : valF (netA g p ks) f = ks.length) : zat g p ks:=by
 have h1:=zhy (p:=p) hg hp hr
 have h2:=zsP (zko hg hp hr) (f:=f) hf
 rw [hv] at h2
 unfold zat
 omega
theorem zvu : accG gU1 pU = [0,1]:=by
 have c0 : zat gU1 pU [0]:=zkc (f:=[1,0,0,1,0]) ziE zic (by decide) (zpm (by decide)) (by decide)
 have c1 : zat gU1 pU [0,1]:=zkc (f:=[2,1,0,1,1,1]) ziE zic (by decide) (zpm (by decide)) (by decide)
 have ho : ordL (zal gU1 pU.lv) pU.seeds = [0,1]:=by decide
 have h0 : accR gU1 pU [0] = [0]:=zbY (o:=[]) (k:=0) c0
 show accR gU1 pU (ordL (zal gU1 pU.lv) pU.seeds) = _
 rw [ho]
 have h:=zbY (g:=gU1) (p:=pU) (o:=[0]) (k:=1) (by rw [h0]; exact c1)
 rw [h0] at h
 exact h
theorem zwj : accG gU3 pU = [0,2]:=by
 have c0 : zat gU3 pU [0]:=zkc (f:=[1,0,0,1,0]) zsC zic (by decide) (zpm (by decide)) (by decide)
 have c1 : zat gU3 pU [0,2]:=zkc (f:=[2,1,0,1,1,1]) zsC zic (by decide) (zpm (by decide)) (by decide)
 have ho : ordL (zal gU3 pU.lv) pU.seeds = [0,2]:=by decide
 have h0 : accR gU3 pU [0] = [0]:=zbY (o:=[]) (k:=0) c0
 show accR gU3 pU (ordL (zal gU3 pU.lv) pU.seeds) = _
 rw [ho]
 have h:=zbY (g:=gU3) (p:=pU) (o:=[0]) (k:=2) (by rw [h0]; exact c1)
 rw [h0] at h
 exact h
theorem zuA : accG gF pU = [0,1,2]:=by
 have c0 : zat gF pU [0]:=zkc (f:=[1,0,0,0,1,0,0]) zmZ zic (by decide) (zpm (by decide)) (by decide)
 have c1 : zat gF pU [0,1]:=zkc (f:=[2,1,0,0,1,1,1,0]) zmZ zic (by decide) (zpm (by decide)) (by decide)
 have c2 : zat gF pU [0,1,2]:=zkc (f:=[3,2,0,0,1,1,1,1,1]) zmZ zic (by decide) (zpm (by decide)) (by decide)
 have ho : ordL (zal gF pU.lv) pU.seeds = [0,1,2]:=by decide
 have h0 : accR gF pU [0] = [0]:=zbY (o:=[]) (k:=0) c0
 have h1 : accR gF pU [0,1] = [0,1]:=by
  have h:=zbY (g:=gF) (p:=pU) (o:=[0]) (k:=1) (by rw [h0]; exact c1)
  rw [h0] at h
  exact h
 show accR gF pU (ordL (zal gF pU.lv) pU.seeds) = _
 rw [ho]
 have h:=zbY (g:=gF) (p:=pU) (o:=[0,1]) (k:=2) (by rw [h1]; exact c2)
 rw [h1] at h
 exact h
theorem ztL : zau gU1 ⟨false,⟨0,2,1⟩⟩ = (gF,0):=by
 have h : OkS gU1 ⟨false,⟨0,2,1⟩⟩:=by
  refine ⟨by decide,by decide,?_⟩
  rintro ⟨x,hx,h1,h2⟩
  have : x = ⟨0,1,1⟩:=by simpa [gU1] using hx
  subst this
  simp at h2
 obtain ⟨h1,h2⟩:=zfA ziE (by decide) h
 have h3 : (zau gU1 ⟨false,⟨0,2,1⟩⟩).1 = gF:=zrw h2.ok zmZ h2.size h2.gone fun x=>by
  rw [h2.mem]; simp [gU1,gF]
  exact Or.comm
 exact Prod.ext h3 h1
theorem ztX : zau gF ⟨true,⟨0,1,0⟩⟩ = (gU3,0):=by
 have h : OkS gF ⟨true,⟨0,1,0⟩⟩:=⟨⟨0,1,1⟩,by simp [gF],rfl,rfl⟩
 obtain ⟨h1,h2⟩:=zfA zmZ (by decide) h
 have h3 : (zau gF ⟨true,⟨0,1,0⟩⟩).1 = gU3:=zrw h2.ok zsC h2.size h2.gone fun x=>by
  rw [h2.mem]; simp [gU3,gF]
  constructor
  ·rintro ⟨h | h,h4⟩
   ·subst h; simp at h4
   ·exact h
  ·intro h
   subst h
   exact ⟨.inr rfl,by simp⟩
 exact Prod.ext h3 h1
set_option maxRecDepth 100000 in
theorem zcG : zai Tryz.prog zbJ [] [] (.B true) []:=by
 obtain ⟨f1,hf1,hst⟩:=zdl gU1 pU ziE zic (by decide)
 have hc1:=(zcD ziE zic (by decide) hf1).1
 have hs1 : (zau gU1 ⟨false,⟨0,2,1⟩⟩).2 = 0:=by rw [ztL]
 obtain ⟨f2,hf2,hap⟩:=zcs (s:=⟨false,⟨0,2,1⟩⟩) hc1 ziE zic (by decide) (by have:=zmd ziE pU; omega) hs1
 rw [ztL] at hap hf2
 simp only at hap hf2
 have hT2:=zdV zmZ zic hf2
 have hc2:=(zcD zmZ zic (by decide) hf2).1
 have hrun : runS gF [⟨true,⟨0,1,0⟩⟩] = (gU3,1,0):=by
  rw [zeU (by rw [ztX]),ztX]
  rfl
 obtain ⟨⟨acc3,f3,R3⟩,hon,hal⟩:=zfG (l:=[⟨true,⟨0,1,0⟩⟩]) hc2 zmZ zic (by decide) hT2 (by decide)
 rw [hrun] at hon hal
 simp only at hon hal
 have hacc3 : acc3 = [0,2]:=by
  rcases hon with ⟨h,_⟩ | ⟨_,h,_⟩
  ·cases h
  ·rw [h,zwj]
 have hg1 : zfm (accG gF pU) (accG gU1 pU) = [2]:=by
  rw [zm9 (zmr _ _) (zpM zmZ _),zvu,zuA]
  decide
 have hg2 : zfm (accG gU1 pU) (accG gF pU) = []:=by
  rw [zm9 (zmr _ _) (zpM ziE _),zvu,zuA]
  decide
 obtain ⟨G1,hG1⟩ : ∃ G1 : List Int,G1 = [2]:=⟨_,rfl⟩
 obtain ⟨G0,hG0⟩ : ∃ G0 : List Int,G0 = []:=⟨_,rfl⟩
 rw [hg1,hg2,← hG1,← hG0] at hap
 have hA2:=zuA
 generalize accG gU1 pU = A1 at *
 generalize accG gF pU = A2 at *
 generalize refG gU1 pU = R1 at *
 generalize refG gF pU = R2 at *
 refine zor.acalls (nbz rfl) (nbz rfl) (Nat.le_refl _) ?_
 show awp _ 0 _ _ ⟨84,[],[],16⟩
 refine zab ⟨84,[],[],60⟩ rfl ?_ ?_
 ·simp
  exact LeH [] []
 refine zab ⟨84,[(1,.pv (gC gU1))],[],200⟩ rfl ?_ ?_
 ·simp [zaG]
  exact Le.go [] [68,84] rfl rfl (by simp; exact .pv _ _ rfl fun i=>match i with | 0=>.refl _ | 1=>wkE rfl | 2=>.nil _ _ | _ + 3=>.refl _) (by simp)
 refine zab ⟨84,[(2,.pv (tC gU1 pU A1 f1 R1)),(3,.I 0)],[],400⟩ rfl ?_ ?_
 ·simp
  refine zly [208,216] (by simp) hst (by simp [gU1,pU]) ?_
  simp [zaG]
  exact LeH [] [264]
 refine zab ⟨84,[(3,.I 0),(4,.pv (tC gF pU A2 f2 R2)),(5,ints G1),(6,ints G0),(7,.I 0)],[],600⟩ rfl ?_ ?_
 ·simp
  refine zaj hap (by simp) ?_
  simp [zaG]
  exact LeH [] [472]
 refine zab ⟨84,[(3,.I 0),(4,.pv (tC gF pU A2 f2 R2)),(5,ints G1),(6,ints G0),(7,.I 0),(8,.pv (tC gU3 pU acc3 f3 R3)),(9,.I 1),(10,.I 0)],[],800⟩ rfl ?_ ?_
 ·simp
  refine zly [624] (by simp) hal (by simp) ?_
  simp [zaG]
  exact LeH [] [672]
 subst hacc3 hG1 hG0
 rw [hA2]
 refine zab ⟨84,[(0,.B true)],[],1400⟩ rfl ?_ ?_
 ·simp
  exact LeH [] []
 refine zag ?_
 exact ⟨.inr rfl,zak.one (by simp)⟩
section
variable {g : Gr} {p : Pol} {acc f f' : List Int} {R : List (Int × List Int)} {e : Int}
end
structure StpS where
 k : Nat
 b : Nat
 l : List GStp
structure StpE where
 s : GStp
 b : Nat
set_option maxRecDepth 100000 in
set_option maxHeartbeats 4000000 in
theorem zrD (L : List Int) (a : Nat) (g : Gr) (m : Nat) (hm : m ≤ 10) (hl : L.length ≤ 400) (ha : a ≤ L.length) (h0 : 0 < g.size) (hn : g.size ≤ 1000) (hel : g.edges.length ≤ 1000) :
  ∃ x : List GStp × Nat,(x.1.length ≤ m ∧ x.2 ≤ L.length) ∧ zai Tryz.prog zfL [.pt 0 0 0,eG g,.I m] [dice L a] (.rs 1 0 x.1.length) [some (dice L x.2),some ⟨4,x.1.map fun s=>stC s,0⟩]:=by
 refine zoC.acallsX (args:=[.pt 0 0 0,eG g,.I m]) (hs:=[dice L a]) (fun x=>.rs 1 0 x.1.length) (fun x=>[some (dice L x.2),some ⟨4,x.1.map fun s=>stC s,0⟩]) (fun x : List GStp × Nat=>x.1.length ≤ m ∧ x.2 ≤ L.length) (nbz rfl) (nbz rfl) (fun _=>by simp) ?_
 show awp _ 1 _ _ ⟨61,[(0,.pt 0 0 0),(1,eG g),(2,.I m)],[(0,some (dice L a))],16⟩
 obtain ⟨k0,b0,⟨hb0,hk0⟩,hc0⟩:=zeR L a ((m + 1 : Nat) : Int) hl ha (by omega) (by omega)
 have hwm : IntKind.i64.wrap ((m : Int) + 1) = ((m + 1 : Nat) : Int):=by rw [w64 (by omega) (by omega)]; omega
 refine zab ⟨61,[(0,.pt 0 0 0),(2,.I m),(4,.pv (gC g))],[(0,some (dice L a))],60⟩ rfl ?_ ?_
 ·simp
  exact LeH [(0,0)] [16]
 refine zab ⟨61,[(0,.pt 0 0 0),(2,.I m),(4,.pv (gC g)),(7,.nilS)],[(0,some (dice L a))],80⟩ rfl ?_ ?_
 ·simp
  exact LeH [(0,0)] []
 refine zaa ?_
 refine zab ⟨61,[(0,.pt 0 0 0),(4,.pv (gC g)),(7,.nilS),(8,.I k0)],[(0,some (dice L b0))],200⟩ rfl ?_ ?_
 ·simp [hwm]
  refine za0 (i:=0) rfl (e':=dice L a) (by simp) hc0 (by simp) (by simp) ?_
  simp
  exact LeH [(0,0)] []
 refine zaf ?_
 refine zao (ι:=StpS) (fun s=>⟨61,[(0,.pt 0 0 0),(4,.pv (gC g)),(7,.rs 31 0 s.l.length),(8,.I s.k)],[(0,some (dice L s.b)),(31,some ⟨4,s.l.map fun s=>stC s,0⟩)],300⟩) (fun s=>s.b ≤ L.length ∧ s.l.length + s.k ≤ m) (fun s=>s.k) ⟨k0,b0,[]⟩ ⟨hb0,by simp only [List.length_nil]; omega⟩ (Le.lst [(0,0)] [] [(31,4)] rfl (by simp) (by simp) (by simp) (by simp) (by simp) (by simp) (by simp) (by simp [Up]) (by simp; exact zaI.rfl' (by simp))) ?_
 rintro ⟨k,b,l⟩ ⟨hb,hlk⟩
 simp only at hb hlk
 refine zaa ?_
 refine zab ⟨61,[(0,.pt 0 0 0),(4,.pv (gC g)),(7,.rs 31 0 l.length),(8,.I k),(15,.B (decide (0 < k)))],[(0,some (dice L b)),(31,some ⟨4,l.map fun s=>stC s,0⟩)],400⟩ rfl ?_ ?_
 ·simp
  exact LeI [(0,0),(31,31)] []
 refine zac _ rfl (fun h5=>?_) fun h5=>?_
 ·rw [decide_eq_true_eq] at h5
  have hwk : IntKind.i64.wrap ((k : Int) - 1) = ((k - 1 : Nat) : Int):=by rw [w64 (by omega) (by omega)]; omega
  obtain ⟨o,b1,hb1,hc1⟩:=zvp L b 2 hl hb (by omega) (by omega)
  obtain ⟨x,b2,⟨hb2,hx⟩,hc2⟩:=zeR L b1 g.size hl hb1 h0 (by omega)
  obtain ⟨y,b3,⟨hb3,hy⟩,hc3⟩:=zeR L b2 g.size hl hb2 h0 (by omega)
  obtain ⟨z,b4,⟨hb4,hz⟩,hc4⟩:=zeR L b3 3 hl hb3 (by omega) (by omega)
  have hwz : IntKind.i64.wrap (1 + (z : Int)) = 1 + (z : Int):=w64 (by omega) (by omega)
  refine zae ?_
  refine zaa ?_
  refine zaf ?_
  refine zap ⟨61,[(0,.pt 0 0 0),(4,.pv (gC g)),(7,.rs 31 0 l.length),(8,.I k),(9,.pt 60 0 0)],[(0,some (dice L b4)),(31,some ⟨4,l.map fun s=>stC s,0⟩),(60,some ⟨4,[stC ⟨o,⟨x,y,1 + z⟩⟩],0⟩)],700⟩ rfl ?_ ?_
  ·simp
   refine za0 (i:=0) rfl (e':=dice L b) (by simp) hc1 (by simp) (by simp) ?_
   simp
   refine za0 (i:=0) rfl (e':=dice L b1) (by simp) hc2 (by simp) (by simp) ?_
   simp
   refine za0 (i:=0) rfl (e':=dice L b2) (by simp) hc3 (by simp) (by simp) ?_
   simp
   refine za0 (i:=0) rfl (e':=dice L b3) (by simp) hc4 (by simp) (by simp) ?_
   simp [zaG,hwz]
   exact ⟨rfl,LeI [(0,0),(31,31),(520,60)] []⟩
  refine zaL (ι:=StpE) (fun q=>⟨61,[(0,.pt 0 0 0),(4,.pv (gC g)),(7,.rs 31 0 l.length),(8,.I k),(9,.pt 60 0 0)],[(0,some (dice L q.b)),(31,some ⟨4,l.map fun s=>stC s,0⟩),(60,some ⟨4,[stC q.s],0⟩)],1500⟩) (fun q=>q.b ≤ L.length) ?_ ?_
  ·by_cases ho : o = true ∧ 0 < g.edges.length
   ·obtain ⟨rfl,he⟩:=ho
    obtain ⟨q,b5,⟨hb5,hq⟩,hc5⟩:=zeR L b4 4 hl hb4 (by omega) (by omega)
    refine zab ⟨61,[(0,.pt 0 0 0),(4,.pv (gC g)),(7,.rs 31 0 l.length),(8,.I k),(9,.pt 60 0 0),(45,.B (decide (0 < q)))],[(0,some (dice L b5)),(31,some ⟨4,l.map fun s=>stC s,0⟩),(60,some ⟨4,[stC ⟨true,⟨x,y,1 + z⟩⟩],0⟩)],1000⟩ rfl ?_ ?_
    ·simp [he]
     refine za0 (i:=0) rfl (e':=dice L b4) (by simp) hc5 (by simp) (by simp) ?_
     simp
     exact LeI [(0,0),(31,31),(60,60)] []
    refine zac _ rfl (fun h8=>?_) fun h8=>?_
    ·obtain ⟨r,b6,⟨hb6,hr⟩,hc6⟩:=zeR L b5 g.edges.length hl hb5 (by omega) (by omega)
     have hr' : r < g.edges.length:=by omega
     refine zbP rfl ?_
     simp
     refine za0 (i:=0) rfl (e':=dice L b5) (by simp) hc6 (by simp) (by simp) ?_
     simp [hr',zaG]
     exact ⟨rfl,⟨⟨true,g.edges[r]⟩,b6⟩,hb6,LeI [(0,0),(31,31),(60,60)] []⟩
    ·refine zae ?_
     exact ⟨⟨⟨true,⟨x,y,1 + z⟩⟩,b5⟩,hb5,LeI [(0,0),(31,31),(60,60)] []⟩
   ·refine zab ⟨61,[(0,.pt 0 0 0),(4,.pv (gC g)),(7,.rs 31 0 l.length),(8,.I k),(9,.pt 60 0 0),(45,.B false)],[(0,some (dice L b4)),(31,some ⟨4,l.map fun s=>stC s,0⟩),(60,some ⟨4,[stC ⟨o,⟨x,y,1 + z⟩⟩],0⟩)],1000⟩ rfl ?_ ?_
    ·cases o
     ·simp
      exact LeI [(0,0),(31,31),(60,60)] []
     ·have he : ¬ 0 < g.edges.length:=fun h=>ho ⟨rfl,h⟩
      simp [he]
      exact LeI [(0,0),(31,31),(60,60)] []
    refine zac _ rfl (fun h=>by cases h) fun _=>?_
    refine zae ?_
    exact ⟨⟨⟨o,⟨x,y,1 + z⟩⟩,b4⟩,hb4,LeI [(0,0),(31,31),(60,60)] []⟩
  rintro ⟨st,b7⟩ hb7
  simp only at hb7
  have htl : ∀ h : GStp → List AV,List.take l.length (List.map h l) = List.map h l:=fun h=>List.take_of_length_le (by simp)
  refine zav rfl ?_
  simp [zaG,htl]
  refine ⟨by omega,by omega,?_⟩
  refine zav rfl ?_
  simp [hwk]
  exact ⟨⟨k - 1,b7,l ++ [st]⟩,⟨hb7,by simp only [List.length_append,List.length_singleton]; omega⟩,by simp only; omega,LeI [(0,0),(1524,31)] []⟩
 rw [decide_eq_false_iff_not] at h5
 refine zan ?_
 refine hit ?_
 refine zab ⟨61,[(6,.rs 31 0 l.length)],[(0,some (dice L b)),(31,some ⟨4,l.map fun s=>stC s,0⟩)],600⟩ rfl ?_ ?_
 ·simp
  exact LeI [(0,0),(31,31)] []
 refine zag ?_
 exact zij.mk (.inr rfl) (l,b) ⟨by simp only; omega,hb⟩ (zak.k1n 31 (by decide) rfl (by simp) (by simp) (by simp [fcd]))
theorem znz : ∀ (l : List GStp) {g : Gr},GrOk g → GrOk (runS g l).1 ∧ (runS g l).1.size = g.size
 | [],g,h=>⟨h,rfl⟩
 | s :: l,g,h=>by
   by_cases hs : (zau g s).2 = 0
   ·rw [zeU hs]
    obtain ⟨h1,h2,_⟩:=zeN h hs
    obtain ⟨h3,h4⟩:=znz l h1
    exact ⟨h3,h4.trans h2⟩
   ·rw [zmn hs]
    exact ⟨h,rfl⟩
section
variable {p : Pol} {g0 : Gr} {acc0 f0 : List Int} {R0 : List (Int × List Int)} {n : Nat} {g : Gr} {acc f acc' f' : List Int} {R R' : List (Int × List Int)}
theorem OnW.same (h : OnW p g0 acc0 f0 R0 n g acc f R) (h' : OnW p g0 acc0 f0 R0 n g acc' f' R') : acc = acc' ∧ R = R':=by
 rcases h with ⟨h0,h1,h2,h3,h4⟩ | ⟨h0,h1,h2,h3⟩ <;> rcases h' with ⟨k0,k1,k2,k3,k4⟩ | ⟨k0,k1,k2,k3⟩
 ·exact ⟨h2.trans k2.symm,h4.trans k4.symm⟩
 ·omega
 ·omega
 ·exact ⟨h1.trans k1.symm,h2.trans k2.symm⟩
theorem OnW.len (h : OnW p g0 acc0 f0 R0 n g acc f R) (hT : TLen g0 p acc0 f0 R0) (hg : GrOk g) (hp : za6 g.size p) : TLen g p acc f R:=by
 rcases h with ⟨h0,h1,h2,h3,h4⟩ | ⟨h0,h1,h2,h3⟩
 ·rw [h1,h2,h3,h4]; exact hT
 ·rw [h1,h2]; exact zdV hg hp h3
end
@[simp] theorem zwv {P : Program} {np id : Nat} {h : Nat → Option Ent} {K : AV → List Nat → List (Nat × Option Ent) → Prop} {s s' : Nat} {f : Bool} {rows : List (List AV)} : aK P np id (.slc s false true false) [.vs s' f rows,.sc (.int .i64 2)] h K = (2 ≤ rows.length ∧ s' = s ∧ K (.vs s false (rows.take 2)) [] []):=zvi (k:=2)
theorem zsx {g : Gr} (hg : GrOk g) (h9 : g.size ≤ 9) : g.edges.length ≤ 81:=by
 have hn : (g.edges.map fun e=>e.f * 9 + e.t).Nodup:=by
  rw [List.Nodup,List.pairwise_map]
  refine hg.pair.imp_of_mem fun {a b} ha hb hab=>?_
  have h1:=hg.fits a ha
  have h2:=hg.fits b hb
  unfold Fits at h1 h2
  unfold Bef at hab
  omega
 have:=zbz (b:=(List.range 81).map fun i : Nat=>(i : Int)) hn fun x hx=>by
  obtain ⟨e,he,rfl⟩:=List.mem_map.1 hx
  have h1:=hg.fits e he
  unfold Fits at h1
  exact List.mem_map.2 ⟨(e.f * 9 + e.t).toNat,List.mem_range.2 (by omega),by omega⟩
 simpa using this
set_option maxRecDepth 100000 in
set_option maxHeartbeats 4000000 in
theorem zgp (L : List Int) : zai Tryz.prog zen [ints L] [] (.B true) []:=by
 refine zhl.acalls (nbz rfl) (nbz rfl) (Nat.le_refl _) ?_
 show awp _ 0 _ _ ⟨117,[(0,ints L)],[],16⟩
 refine zab ⟨117,[(0,ints L)],[],60⟩ rfl ?_ ?_
 ·simp
  exact LeH [] []
 refine zaa ?_
 refine rx (s:=?s2) [0,16] [] [] rfl ?o2 ?q2
 case o2=>simp; refine zaj (zqo L) (by simp) ?_; simp; rfl
 refine zac _ rfl (fun h3=>?_) fun h3=>?_
 ·refine rx (s:=?s4) [2] [] [] rfl ?o4 ?q4
  case o4=>simp; refine zaj zcG (by simp) ?_; simp; rfl
  refine zag ?_
  exact ⟨.inr rfl,zak.one (by simp)⟩
 simp at h3
 obtain ⟨g,b1,⟨hg,hg2,hg9,hb1⟩,hcg⟩:=ztS L h3
 obtain ⟨⟨p,b2⟩,⟨hp,hp2,hp3,hb2⟩,hcp⟩:=zqk L b1 g h3 hb1 (by omega) (by omega)
 simp only at hp hp2 hp3 hb2 hcp
 have hel:=hg.edges_le
 have hgl:=hg.gone_le
 obtain ⟨f1,hf1,hst1⟩:=zdl g p hg hp (by omega)
 have hck1:=zcD hg hp (by omega) hf1
 have hT1:=zdV hg hp hf1
 have hnod1:=zmr g p
 have h641:=zpM hg p
 obtain ⟨⟨l,b3⟩,⟨hl0,hb3⟩,hcs⟩:=zrD L b2 g 6 (by omega) h3 hb2 (by omega) (by omega) (by omega)
 simp only at hl0 hb3 hcs
 refine zae ?_
 refine zab ⟨117,[(3,.pt 20 0 0)],[(20,some (dice L 0))],200⟩ rfl ?_ ?_
 ·simp
  refine zbc (zsE L) (by simp) ?_
  simp
  exact LeH [(92,20)] []
 refine zab ⟨117,[(3,.pt 20 0 0),(4,.pv (gC g))],[(20,some (dice L b1))],300⟩ rfl ?_ ?_
 ·simp
  refine za0 (i:=20) rfl (e':=dice L 0) (by simp) hcg (by simp) (by simp) ?_
  simp
  exact LeH [(20,20)] [216]
 obtain ⟨acc,hacc⟩ : ∃ acc,acc = accG g p:=⟨_,rfl⟩
 obtain ⟨R,hR⟩ : ∃ R,R = refG g p:=⟨_,rfl⟩
 rw [← hacc,← hR] at hst1
 refine zap ⟨117,[(3,.pt 20 0 0),(4,.pv (gC g)),(5,.pv (tC g p acc f1 R)),(6,.I 0)],[(20,some (dice L b2))],500⟩ rfl ?_ ?_
 ·simp
  refine za0 (i:=20) rfl (e':=dice L b1) (by simp) hcp (by simp) (by simp) ?_
  simp
  refine zaj hst1 (by simp) ?_
  simp [zaG]
  exact ⟨rfl,LeH [(20,20)] [364]⟩
 have htl : ∀ h : GStp → List AV,List.take l.length (List.map h l) = List.map h l:=fun h=>List.take_of_length_le (by simp)
 refine zab ⟨117,[(5,.pv (tC g p acc f1 R)),(6,.I 0),(7,eSts l)],[],700⟩ rfl ?_ ?_
 ·simp
  refine za0 (i:=20) rfl (e':=dice L b2) (by simp) hcs (by simp) (by simp) ?_
  simp
  exact Le.go [] [516] rfl rfl (by simp [htl,fcd]) (by simp)
 refine zaa ?_
 by_cases hl2 : l.length < 2
 ·have hl2' : decide ((l.length : Int) < 2) = true:=by simp; omega
  refine zap ⟨117,[(6,.I 0),(65,.B true)],[],1300⟩ rfl ?_ ?_
  ·simp [hl2']
   exact ⟨rfl,LeH [] []⟩
  refine zac _ rfl (fun _=>?_) fun h=>by cases h
  refine zab ⟨117,[(2,.B true)],[],1500⟩ rfl ?_ ?_
  ·simp
   refine zaj zcG (by simp) ?_
   simp
   exact LeH [] []
  refine zag ?_
  exact ⟨.inr rfl,zak.one (by simp)⟩
 obtain ⟨s,u,r,rfl⟩ : ∃ s u r,l = s :: u :: r:=by
  match l,hl2 with
  | [],h=>simp at h
  | [_],h=>simp at h
  | s :: u :: r,_=>exact ⟨s,u,r,rfl⟩
 have hlt : ¬ ((r.length : Int) + 1 + 1 < 2):=by omega
 have hbe : ((s.e.f == u.e.f) && (s.e.t == u.e.t)) = decide (s.e.f = u.e.f ∧ s.e.t = u.e.t):=by
  rw [Bool.eq_iff_iff]; simp
 refine zap ⟨117,[(5,.pv (tC g p acc f1 R)),(6,.I 0),(7,eSts (s :: u :: r)),(65,.B (decide (s.e.f = u.e.f ∧ s.e.t = u.e.t)))],[],1300⟩ rfl ?_ ?_
 ·by_cases hf : s.e.f = u.e.f
  ·have hf' : (s.e.f == u.e.f) = true:=by simp [hf]
   by_cases ht : s.e.t = u.e.t
   ·have ht' : (s.e.t == u.e.t) = true:=by simp [ht]
    simp [hlt,hf',ht']
    exact ⟨rfl,Le.go [] [] rfl rfl (by simp [hf,ht]; exact wkE rfl) (by simp)⟩
   ·have ht' : (s.e.t == u.e.t) = false:=by simp [ht]
    simp [hlt,hf',ht']
    exact ⟨rfl,Le.go [] [] rfl rfl (by simp [hf,ht]; exact wkE rfl) (by simp)⟩
  ·have hf' : (s.e.f == u.e.f) = false:=by simp [hf]
   simp [hlt,hf']
   exact ⟨rfl,Le.go [] [] rfl rfl (by simp [hf]; exact wkE rfl) (by simp)⟩
 refine zac _ rfl (fun _=>?_) fun hne=>?_
 ·refine zab ⟨117,[(2,.B true)],[],1500⟩ rfl ?_ ?_
  ·simp
   refine zaj zcG (by simp) ?_
   simp
   exact LeH [] []
  refine zag ?_
  exact ⟨.inr rfl,zak.one (by simp)⟩
 rw [decide_eq_false_iff_not] at hne
 obtain ⟨hcm1,hcm2⟩:=zqL hg (by have:=zsx hg hg9; omega) s u hne
 obtain ⟨⟨a3,f3,R3⟩,hon3,hal3⟩:=zfG (l:=[s,u]) hck1.1 hg hp (by omega) hT1 (by simp)
 obtain ⟨⟨a4,f4,R4⟩,hon4,hal4⟩:=zfG (l:=[u,s]) hck1.1 hg hp (by omega) hT1 (by simp)
 simp only at hon3 hal3 hon4 hal4
 obtain ⟨hgF,hgFs⟩:=znz [s,u] hg
 have hTF:=hon3.len hT1 hgF (by rw [hgFs]; exact hp)
 rw [← hacc,← hR] at hal3 hal4
 have hz : (runS g [s,u]).2.2 = 0 → a3 = a4 ∧ R3 = R4 ∧ (runS g [s,u]).1 = (runS g [u,s]).1 ∧ (runS g [s,u]).2.1 = 2 ∧ (runS g [u,s]).2.1 = 2:=fun h=>by
  obtain ⟨h1,h2,h4⟩:=hcm2 h
  rw [← h1,h4,← h2] at hon4
  obtain ⟨h5,h6⟩:=hon3.same hon4
  exact ⟨h5,h6,h1,h2,h4⟩
 clear hon3 hon4 hcm2 hgF hgFs
 generalize runS g [s,u] = r1 at *
 generalize runS g [u,s] = r2 at *
 obtain ⟨g1,n1,e1⟩:=r1
 obtain ⟨g2,n2,e2⟩:=r2
 simp only at hal3 hal4 hcm1 hz hTF
 refine zae ?_
 refine zap ⟨117,[(5,.pv (tC g p acc f1 R)),(7,eSts (s :: u :: r)),(8,.pv (tC g1 p a3 f3 R3)),(9,.I n1),(10,.I e1)],[],1500⟩ rfl ?_ ?_
 ·simp
  refine zaj hal3 (by simp) ?_
  simp [zaG]
  exact ⟨rfl,Le.go [] [1364] rfl rfl (by simp; exact wkE rfl) (by simp)⟩
 refine zap ⟨117,[(8,.pv (tC g1 p a3 f3 R3)),(9,.I n1),(10,.I e1),(11,.pv (tC g2 p a4 f4 R4)),(12,.I n2),(13,.I e2)],[],1800⟩ rfl ?_ ?_
 ·simp
  refine zly [1556] (by simp) hal4 (by simp) ?_
  simp [zaG]
  exact ⟨rfl,LeH [] [1604]⟩
 refine zab ⟨117,[(2,.B true)],[],2400⟩ rfl ?_ ?_
 ·by_cases he : e1 = 0
  ·have he2 : e2 = 0:=hcm1.1 he
   subst he
   obtain ⟨rfl,rfl,rfl,rfl,rfl⟩:=hz rfl
   subst he2
   have hlike:=zgR (acc:=a3) (f:=f3) (f':=f4) hTF.e hTF.o hTF.s hTF.t (by have:=hTF.a; omega) hTF.r (fun r hr=>by have:=hTF.d r hr; omega)
   simp
   refine zaj zcG (by simp) ?_
   simp
   refine zaj hlike (by simp) ?_
   simp
   exact LeH [] []
  ·have he2 : ¬ e2 = 0:=fun h=>he (hcm1.2 h)
   have q1 : (e1 == 0) = false:=by simp [he]
   have q2 : (e2 == 0) = false:=by simp [he2]
   have q3 : (e1 != 0) = true:=by simp [he]
   simp
   refine zaj zcG (by simp) ?_
   simp [q1,q2,q3]
   exact LeH [] []
 refine zag ?_
 exact ⟨.inr rfl,zak.one (by simp)⟩
theorem ztB {a b : List Int} {x : Int} : x ∈ zfm a b ↔ x ∈ a ∧ x ∉ b:=by
 unfold zfm srt
 rw [List.mem_mergeSort,List.mem_filter]
 simp
theorem zqm (a b : List Int) (x : Int) : (zfm a b).contains x = (a.contains x && !b.contains x):=by
 rw [Bool.eq_iff_iff]
 simp [ztB]
theorem zqc (a b : List Int) : (zfm a b).length ≤ a.length:=by
 unfold zfm srt
 rw [List.length_mergeSort]
 exact List.length_filter_le _ _
set_option maxRecDepth 100000 in
set_option maxHeartbeats 4000000 in
theorem zgJ (L : List Int) : zai Tryz.prog zeM [ints L] [] (.B true) []:=by
 refine zif.acalls (nbz rfl) (nbz rfl) (Nat.le_refl _) ?_
 show awp _ 0 _ _ ⟨152,[(0,ints L)],[],16⟩
 refine zab ⟨152,[(0,ints L)],[],60⟩ rfl ?_ ?_
 ·simp
  exact LeH [] []
 refine zaa ?_
 refine rx (s:=?s2) [0,21] [] [] rfl ?o2 ?q2
 case o2=>simp; refine zaj (zqo L) (by simp) ?_; simp; rfl
 refine zac _ rfl (fun h3=>?_) fun h3=>?_
 ·refine rx (s:=?s4) [2] [] [] rfl ?o4 ?q4
  case o4=>simp; refine zaj zcG (by simp) ?_; simp; rfl
  refine zag ?_
  exact ⟨.inr rfl,zak.one (by simp)⟩
 simp at h3
 obtain ⟨g,b1,⟨hg,hg2,hg9,hb1⟩,hcg⟩:=ztS L h3
 obtain ⟨⟨p,b2⟩,⟨hp,hp2,hp3,hb2⟩,hcp⟩:=zqk L b1 g h3 hb1 (by omega) (by omega)
 simp only at hp hp2 hp3 hb2 hcp
 have hel:=hg.edges_le
 have hgl:=hg.gone_le
 obtain ⟨f1,hf1,hst1⟩:=zdl g p hg hp (by omega)
 have hck1:=zcD hg hp (by omega) hf1
 have hT1:=zdV hg hp hf1
 have hnod1:=zmr g p
 have h641:=zpM hg p
 obtain ⟨x,b3,⟨hb3,hx⟩,hc3⟩:=zeR L b2 g.size h3 hb2 (by omega) (by omega)
 obtain ⟨y,b4,⟨hb4,hy⟩,hc4⟩:=zeR L b3 g.size h3 hb3 (by omega) (by omega)
 obtain ⟨z,b5,⟨hb5,hz⟩,hc5⟩:=zeR L b4 3 h3 hb4 (by omega) (by omega)
 have hwz : IntKind.i64.wrap (1 + (z : Int)) = 1 + (z : Int):=w64 (by omega) (by omega)
 obtain ⟨s,hs⟩ : ∃ s : GStp,s = ⟨false,⟨x,y,1 + z⟩⟩:=⟨_,rfl⟩
 refine zae ?_
 refine zab ⟨152,[(3,.pt 20 0 0)],[(20,some (dice L 0))],200⟩ rfl ?_ ?_
 ·simp
  refine zbc (zsE L) (by simp) ?_
  simp
  exact LeH [(92,20)] []
 refine zab ⟨152,[(3,.pt 20 0 0),(4,.pv (gC g))],[(20,some (dice L b1))],300⟩ rfl ?_ ?_
 ·simp
  refine za0 (i:=20) rfl (e':=dice L 0) (by simp) hcg (by simp) (by simp) ?_
  simp
  exact LeH [(20,20)] [216]
 obtain ⟨acc,hacc⟩ : ∃ acc,acc = accG g p:=⟨_,rfl⟩
 obtain ⟨R,hR⟩ : ∃ R,R = refG g p:=⟨_,rfl⟩
 rw [← hacc,← hR] at hst1
 refine zap ⟨152,[(3,.pt 20 0 0),(4,.pv (gC g)),(5,.pv (tC g p acc f1 R)),(6,.I 0)],[(20,some (dice L b2))],500⟩ rfl ?_ ?_
 ·simp
  refine za0 (i:=20) rfl (e':=dice L b1) (by simp) hcp (by simp) (by simp) ?_
  simp
  refine zaj hst1 (by simp) ?_
  simp [zaG]
  exact ⟨rfl,LeH [(20,20)] [364]⟩
 refine zap ⟨152,[(4,.pv (gC g)),(5,.pv (tC g p acc f1 R)),(6,.I 0),(7,.pv (stC s))],[],700⟩ rfl ?_ ?_
 ·simp
  refine za0 (i:=20) rfl (e':=dice L b2) (by simp) hc3 (by simp) (by simp) ?_
  simp
  refine za0 (i:=20) rfl (e':=dice L b3) (by simp) hc4 (by simp) (by simp) ?_
  simp
  refine za0 (i:=20) rfl (e':=dice L b4) (by simp) hc5 (by simp) (by simp) ?_
  simp [zaG,hwz]
  exact ⟨rfl,Le.go [] [604] rfl rfl (by simp [hs]) (by simp)⟩
 have hsf : s.gone = false:=by rw [hs]
 clear hs hc3 hc4 hc5 hcg hcp
 by_cases hst : (zau g s).2 = 0
 ·obtain ⟨f2,hf2,hap⟩:=zcs hck1.1 hg hp (by omega) hT1.a hst
  obtain ⟨k1,k2,_⟩:=zeN hg hst
  have hp' : za6 (zau g s).1.size p:=by rw [k2]; exact hp
  have hck2:=zcD k1 hp' (by omega) hf2
  have hT2:=zdV k1 hp' hf2
  have hback : zau (zau g s).1 ⟨true,s.e⟩ = (g,0):=by
   have h1 : (zbn g s.e).2 = 0:=by unfold zau at hst; rw [hsf] at hst; exact hst
   have h2:=(zqI h1).1
   have h3 : (zau g s).1 = (zbn g s.e).1:=by unfold zau; rw [hsf]; rfl
   rw [h3]
   unfold zau
   exact h2
  obtain ⟨f3,hf3,hap3⟩:=zcs (s:=⟨true,s.e⟩) hck2.1 k1 hp' (by omega) hT2.a (by rw [hback])
  rw [hback] at hap3 hf3
  simp only at hap3 hf3
  have hlike:=zgR (acc:=accG g p) (R:=refG g p) (f:=f1) (f':=f3) hT1.e hT1.o hT1.s hT1.t (by have:=hT1.a; omega) hT1.r (fun r hr=>by have:=hT1.d r hr; omega)
  have hgi:=zqm (accG (zau g s).1 p) (accG g p)
  have hlo:=zqm (accG g p) (accG (zau g s).1 p)
  have hgil:=zqc (accG (zau g s).1 p) (accG g p)
  have hlol:=zqc (accG g p) (accG (zau g s).1 p)
  have hal1:=hT1.a
  have hal2:=hT2.a
  rw [← hacc,← hR] at hap hap3 hlike
  rw [← hacc] at hgi hlo hgil hlol hal1
  clear hf1 hf2 hf3 hck1 hck2 hT1 hT2 k1 k2 hp' hback hst1 hnod1 h641
  generalize zfm (accG (zau g s).1 p) acc = gi at *
  generalize zfm acc (accG (zau g s).1 p) = lo at *
  generalize accG (zau g s).1 p = acc' at *
  generalize refG (zau g s).1 p = R' at *
  generalize (zau g s).1 = g' at *
  have hsi1:=zcx gi gi (by omega)
  rw [decide_eq_true rfl] at hsi1
  have hsi2:=zcx lo lo (by omega)
  rw [decide_eq_true rfl] at hsi2
  refine zab ⟨152,[(4,.pv (gC g)),(5,.pv (tC g p acc f1 R)),(6,.I 0),(7,.pv (stC s)),(8,.pv (tC g' p acc' f2 R')),(9,ints gi),(10,ints lo),(11,.I 0)],[],900⟩ rfl ?_ ?_
  ·simp
   refine zaj hap (by simp) ?_
   simp [zaG]
   exact LeH [] [764]
  refine zaa ?_
  refine zab ⟨152,[(4,.pv (gC g)),(5,.pv (tC g p acc f1 R)),(6,.I 0),(7,.pv (stC s)),(8,.pv (tC g' p acc' f2 R')),(9,ints gi),(10,ints lo),(57,.B false)],[],1000⟩ rfl ?_ ?_
  ·simp
   exact LeH [] []
  refine zac _ rfl (fun h=>by cases h) fun _=>?_
  refine zae ?_
  refine zab ⟨152,[(4,.pv (gC g)),(5,.pv (tC g p acc f1 R)),(6,.I 0),(8,.pv (tC g' p acc' f2 R')),(9,ints gi),(10,ints lo),(12,.pv (tC g p acc f3 R)),(13,ints lo),(14,ints gi),(15,.I 0)],[],1200⟩ rfl ?_ ?_
  ·simp
   refine zaj hap3 (by simp) ?_
   simp [zaG]
   exact LeH [] [1080]
  refine zap ⟨152,[(4,.pv (gC g)),(5,.pv (tC g p acc f1 R)),(6,.I 0),(9,ints gi),(10,ints lo),(12,.pv (tC g p acc f3 R)),(13,ints lo),(14,ints gi),(15,.I 0),(16,ints acc),(17,ints acc')],[],1300⟩ rfl ?_ ?_
  ·simp
   exact ⟨rfl,LeH [] []⟩
  refine zaa ?_
  refine zab ⟨152,[(4,.pv (gC g)),(5,.pv (tC g p acc f1 R)),(6,.I 0),(9,ints gi),(10,ints lo),(12,.pv (tC g p acc f3 R)),(13,ints lo),(14,ints gi),(15,.I 0),(16,ints acc),(17,ints acc'),(18,.I 0)],[],1400⟩ rfl ?_ ?_
  ·simp
   exact LeH [] []
  obtain ⟨N,hN,hN9⟩ : ∃ N : Nat,g.size = N ∧ N ≤ 9:=⟨g.size.toNat,by omega,by omega⟩
  refine zaf ?_
  refine zao (ι:=Nat) (fun i=>⟨152,[(4,.pv (gC g)),(5,.pv (tC g p acc f1 R)),(6,.I 0),(9,ints gi),(10,ints lo),(12,.pv (tC g p acc f3 R)),(13,ints lo),(14,ints gi),(15,.I 0),(16,ints acc),(17,ints acc'),(18,.I i)],[],1500⟩) (fun i=>i ≤ N) (fun i=>N - i) 0 (Nat.zero_le _) (LeH [] []) ?_
  intro i hi
  refine zaa ?_
  refine zab ⟨152,[(4,.pv (gC g)),(5,.pv (tC g p acc f1 R)),(6,.I 0),(9,ints gi),(10,ints lo),(12,.pv (tC g p acc f3 R)),(13,ints lo),(14,ints gi),(15,.I 0),(16,ints acc),(17,ints acc'),(18,.I i),(97,.B (decide (i < N)))],[],1600⟩ rfl ?_ ?_
  ·simp
   exact Le.go [] [] rfl rfl (by simp [hN]) (by simp)
  refine zac _ rfl (fun h5=>?_) fun h5=>?_
  ·rw [decide_eq_true_eq] at h5
   have hw1 : IntKind.i64.wrap ((i : Int) + 1) = (i : Int) + 1:=w64 (by omega) (by omega)
   have q1:=zhD gi (i : Int) (by omega)
   have q2:=zhD acc' (i : Int) (by omega)
   have q3:=zhD acc (i : Int) (by omega)
   have q4:=zhD lo (i : Int) (by omega)
   rw [hgi] at q1
   rw [hlo] at q4
   generalize acc'.contains (i : Int) = u1 at *
   generalize acc.contains (i : Int) = u2 at *
   refine zae ?_
   refine zaa ?_
   refine zaf ?_
   refine zab ⟨152,[(4,.pv (gC g)),(5,.pv (tC g p acc f1 R)),(6,.I 0),(9,ints gi),(10,ints lo),(12,.pv (tC g p acc f3 R)),(13,ints lo),(14,ints gi),(15,.I 0),(16,ints acc),(17,ints acc'),(18,.I i),(127,.B false)],[],1900⟩ rfl ?_ ?_
   ·cases u1 <;> cases u2
    ·simp
     refine zaj q1 (by simp) ?_
     simp
     refine zaj q2 (by simp) ?_
     simp
     refine zaj q4 (by simp) ?_
     simp
     refine zaj q3 (by simp) ?_
     simp
     exact LeH [] []
    ·simp
     refine zaj q1 (by simp) ?_
     simp
     refine zaj q2 (by simp) ?_
     simp
     refine zaj q4 (by simp) ?_
     simp
     refine zaj q3 (by simp) ?_
     simp
     refine zaj q2 (by simp) ?_
     simp
     exact LeH [] []
    ·simp
     refine zaj q1 (by simp) ?_
     simp
     refine zaj q2 (by simp) ?_
     simp
     refine zaj q3 (by simp) ?_
     simp
     refine zaj q4 (by simp) ?_
     simp
     refine zaj q3 (by simp) ?_
     simp
     exact LeH [] []
    ·simp
     refine zaj q1 (by simp) ?_
     simp
     refine zaj q2 (by simp) ?_
     simp
     refine zaj q3 (by simp) ?_
     simp
     refine zaj q4 (by simp) ?_
     simp
     refine zaj q3 (by simp) ?_
     simp
     refine zaj q2 (by simp) ?_
     simp
     exact LeH [] []
   refine zac _ rfl (fun h=>by cases h) fun _=>?_
   refine zae ?_
   refine zav rfl ?_
   simp
   exact ⟨i + 1,by omega,by omega,Le.go [] [] rfl rfl (by simp [hw1]) (by simp)⟩
  refine zan ?_
  refine hit ?_
  refine zab ⟨152,[(2,.B true)],[],2400⟩ rfl ?_ ?_
  ·simp
   refine zaj zcG (by simp) ?_
   simp
   refine zaj hlike (by simp) ?_
   simp
   refine zaj hsi1 (by simp) ?_
   simp
   refine zaj hsi2 (by simp) ?_
   simp
   exact LeH [] []
  refine zag ?_
  exact ⟨.inr rfl,zak.one (by simp)⟩
 ·have hap:=zfu hck1.1 (by omega) (by omega) hst
  have hlike:=zgR (acc:=accG g p) (R:=refG g p) (f:=f1) (f':=f1) hT1.e hT1.o hT1.s hT1.t (by have:=hT1.a; omega) hT1.r (fun r hr=>by have:=hT1.d r hr; omega)
  rw [← hacc,← hR] at hap hlike
  generalize (zau g s).2 = e at *
  have he' : (e != 0) = true:=by simp [hst]
  refine zab ⟨152,[(5,.pv (tC g p acc f1 R)),(6,.I 0),(8,.pv (tC g p acc f1 R)),(9,.vs 1 false []),(10,.vs 1 false []),(11,.I e)],[],900⟩ rfl ?_ ?_
  ·simp
   refine zaj hap (by simp) ?_
   simp [zaG]
   exact LeH [] [764]
  refine zaa ?_
  refine zab ⟨152,[(5,.pv (tC g p acc f1 R)),(6,.I 0),(8,.pv (tC g p acc f1 R)),(9,.vs 1 false []),(10,.vs 1 false []),(57,.B true)],[],1000⟩ rfl ?_ ?_
  ·simp
   exact Le.go [] [] rfl rfl (by simp [he']) (by simp)
  refine zac _ rfl (fun _=>?_) fun h=>by cases h
  refine zab ⟨152,[(2,.B true)],[],1400⟩ rfl ?_ ?_
  ·simp
   refine zaj zcG (by simp) ?_
   simp
   refine zaj hlike (by simp) ?_
   simp
   exact LeH [] []
  refine zag ?_
  exact ⟨.inr rfl,zak.one (by simp)⟩
end Go.Proofs.YthmaflecfppoiaaGreat
