/- Texts of this claim,merged. -/
import Derived.Test.YtkngdgplbojdlaaGreatRv14
import Derived.Test.YtkngdgplbojdlaaGreatRv11
import Derived.Test.YtkngdgplbojdlaaGreatRv12
import Derived.Test.YtkngdgplbojdlaaGreatRv13
import Derived.Test.YtkngdgplbojdlaaGreatRv9
import Derived.Test.YtkngdgplbojdlaaGreatRv6
set_option linter.unusedSimpArgs false
set_option linter.unusedVariables false
set_option linter.unusedSectionVars false
namespace Go.Proofs.YtkngdgplbojdlaaGreat
open Go
theorem zsh (e : Ed) (k : Int) : zak Tryz.prog zdT [eE e,.pv [.I k]] [] (.B (decide (e.f=k) || decide (e.t=k))) []:=by
 refine zk4.acalls (nbz rfl) (nbz rfl) (Nat.le_refl _) ?_
 show awp _ 0 _ _ ⟨14,[(0,eE e),(1,.pv [.I k])],[],16⟩
 refine rx (s:=?s1) [1,2] [] [16] rfl ?o1 ?q1
 case o1=>simp; rfl
 refine zab ⟨14,[(3,.B (decide (e.f=k) || decide (e.t=k)))],[],200⟩ rfl ?_ ?_
 ·simp
  repeat' first
   | (refine zgF (fun hb=>?_) (fun hb=>?_) <;> (try rw [hb]) <;> (try simp at hb) <;> simp [hb])
  all_goals exact Le.snap [] rfl rfl (by simp <;> exact wkB (by (try simp at *); grind))
 refine zag ?_
 exact ⟨.inr rfl,zan.one (by simp)⟩
theorem zkI (f : FuncId) (capt : List AV) (q : Ed→Bool) (l : List Ed) (hl : l.length≤1099511627776) (hs : zk2 capt) (hc : ∀ e∈l,zak Tryz.prog f (eE e::capt) [] (.B (q e)) []) : zak Tryz.prog zbb [eEs l,.fn (.func f) [] capt] [] (.B (l.any q)) []:=by
 have hs2 : ∀ ρ sn h,capt.map (conv ρ sn h 2)=capt:=fun _ _ _=>hs _ _ _ 1
 have hs3 : ∀ ρ sn h,capt.map (conv ρ sn h 3)=capt:=fun _ _ _=>hs _ _ _ 2
 have hs4 : ∀ ρ sn h,capt.map (conv ρ sn h 4)=capt:=fun _ _ _=>hs _ _ _ 3
 refine zdj.acalls (nbz rfl) (nbz rfl) (Nat.le_refl _) ?_
 show awp _ 0 _ _ ⟨9,[(0,eEs l),(1,.fn (.func f) [] capt)],[],16⟩
 refine zaa ?_
 refine zac (s:=?s1) rfl ?o1 ?q1
 case o1=>simp; rfl
 have hi : decide (0≤idxQ l q)=l.any q:=by
  unfold idxQ
  by_cases h : l.findIdx q<l.length
  ·rw [if_pos h]
   have:=List.findIdx_getElem (w:=h)
   have h2 : l.any q=true:=List.any_eq_true.2 ⟨_,List.getElem_mem h,this⟩
   rw [h2]
   simp
  ·rw [if_neg h]
   have : l.findIdx q=l.length:=by have:=List.findIdx_le_length (xs:=l) (p:=q); omega
   rw [List.findIdx_eq_length] at this
   have h2 : l.any q=false:=by
    rw [List.any_eq_false]
    intro x hx
    simp [this x hx]
   rw [h2]
   simp
 refine zab ⟨9,[(4,.B (l.any q))],[],16⟩ rfl ?_ ?_
 ·simp
  refine zaq (zjn f capt q l hl hs hc) ?_ ?_
  ·simp [hs2,hs3,hs4]
  simp
  exact Le.snap [] rfl rfl (by simp; exact wkB hi)
 refine zag ?_
 exact ⟨.inr rfl,zan.one (by simp)⟩
set_option maxHeartbeats 1000000 in
theorem zwW (g : Gr) (p : Pol) (x k : Int) (hl : g.edges.length≤1099511627776) (hl2 : g.gone.length≤1099511627776) (hs : p.seeds.length≤1099511627776) : zak Tryz.prog zgJ [eG g,eP p,.I x,.I k] [] (.B (zlq g p x k)) []:=by
 refine zou.acalls (nbz rfl) (nbz rfl) (Nat.le_refl _) ?_
 show awp _ 0 _ _ ⟨35,[(0,eG g),(1,eP p),(2,.I x),(3,.I k)],[],16⟩
 have hcf:=zkI zdT [.pv [.I k]] (fun e=>decide (e.f=k) || decide (e.t=k)) g.edges hl (fun ρ sn h n=>by simp) fun e _=>zsh e k
 have hc1:=zdm g.gone k (by omega)
 have hc2:=zdm p.seeds k (by omega)
 refine zab ⟨35,[(2,.I x),(4,.pv (gC g)),(5,.pv (pC p)),(7,.pt 32 0 0)],[(32,some ⟨1,[[.I k]],0⟩)],100⟩ rfl ?_ ?_
 ·simp
  exact LeH [(32,32)] [16,24]
 obtain ⟨b,hb0⟩ : ∃ b,b=g.edges.any fun e=>decide (e.f=k) || decide (e.t=k):=⟨_,rfl⟩
 rw [← hb0] at hcf
 refine zab ⟨35,[(2,.I x),(4,.pv (gC g)),(5,.pv (pC p)),(7,.pv [.I k]),(9,.B b)],[],200⟩ rfl ?_ ?_
 ·simp
  refine zlC [32] hcf (by simp) (.sc _) ?_
  simp
  exact LeH [] [32]
 have hq : zlq g p x k=(!decide (k=x) && (!b && (!decide (k∈g.gone) && !decide (k∈p.seeds)))):=by rw [hb0]; rfl
 rw [hq]
 refine zab ⟨35,[(8,.B (!decide (k=x) && (!b && (!decide (k∈g.gone) && !decide (k∈p.seeds)))))],[],400⟩ rfl ?_ ?_
 ·by_cases h1 : k=x
  ·have hne : (k != x)=false:=by simp [h1]
   simp [h1,hne]
   exact LeH [] []
  have hne : (k != x)=true:=by simp [h1]
  cases b with
  | true =>
    simp [h1,hne]
    exact LeH [] []
  | false =>
    simp [h1,hne]
    refine zaq hc1 (by simp) ?_
    by_cases h3 : k∈g.gone
    ·simp [h3]
     exact LeH [] []
    ·simp [h3]
     refine zaq hc2 (by simp) ?_
     simp
     exact LeH [] []
 refine zag ?_
 exact ⟨.inr rfl,zan.one (by simp)⟩
theorem zsm (g : Gr) (p : Pol) (x k : Int) (hl : g.edges.length≤1099511627776) (hl2 : g.gone.length≤1099511627776) (hs : p.seeds.length≤1099511627776) : zak Tryz.prog zdN [.I k,.pv (gC g),.pv (pC p),.pv [.I x]] [] (.B (zlq g p x k)) []:=by
 refine zkP.acalls (nbz rfl) (nbz rfl) (Nat.le_refl _) ?_
 show awp _ 0 _ _ ⟨11,[(0,.I k),(1,.pv (gC g)),(2,.pv (pC p)),(3,.pv [.I x])],[],16⟩
 refine rx (s:=?s1) [0,1,2,3] [] [] rfl ?o1 ?q1
 case o1=>simp; rfl
 refine zab ⟨11,[(5,.B (zlq g p x k))],[],200⟩ rfl ?_ ?_
 ·simp
  refine zaq (zwW g p x k hl hl2 hs) (by simp) ?_
  simp
  exact LeH [] []
 refine zag ?_
 exact ⟨.inr rfl,zan.one (by simp)⟩
abbrev outG (N : Int) (go : List Int) (B n : Nat) : Ent:=⟨3,[[.I N,.rs B 0 n,ints go]],0⟩
theorem ztw (N : Int) (go : List Int) (f t : Int) (L : List Ed) (n : Nat) (hL : L.length=n) (hn : n≤1000000) : zak Tryz.prog zaX [.I f,.I t,.pt 0 0 0] [outG N go 1 n,⟨3,za3 L,0⟩] (.tup []) [some (outG N go 2 (n+1)),none,some ⟨3,za3 (L++[⟨f,t,3⟩]),0⟩]:=by
 refine zk1.acalls (nbz rfl) (nbz rfl) (nbz rfl) ?_
 show awp _ 2 _ _ ⟨13,[(0,.I f),(1,.I t),(2,.pt 0 0 0)],[(0,some (outG N go 1 n)),(1,some ⟨3,za3 L,0⟩)],16⟩
 have htl : ∀ f : Ed→List AV,List.take n (List.map f L)=List.map f L:=fun f=>List.take_of_length_le (by simp [hL])
 refine zac (s:=?s1) rfl ?o1 ?q1
 case o1=>simp [hL,htl]; refine ⟨by omega,by omega,?_⟩; rfl
 refine ⟨.inl rfl,⟨[],rfl,[64],[],by simp [List.range,List.range.loop],by simp,by simp,by simp,?_⟩⟩
 simp [List.range,List.range.loop]
theorem zlB (g : Gr) (v : Int) (hall : zaj g v=g) (hl : g.edges.length≤1099511627776) (hl2 : g.gone.length≤1099511627776) : zak Tryz.prog zbQ [eG g,.I v] [] (.agg [.I g.size,.rs 0 0 g.edges.length,ints g.gone]) [some ⟨3,za3 g.edges,0⟩]:=by
 refine zf9.acalls (nbz rfl) (nbz rfl) (Nat.zero_le _) ?_
 show awp _ 0 _ _ ⟨14,[(0,eG g),(1,.I v)],[],16⟩
 have hee : (g.edges.filter fun e=>!decide (e.v<v))=g.edges:=congrArg Gr.edges hall
 obtain ⟨E,hE⟩ : ∃ E,E=g.edges.filter fun e=>!decide (e.v<v):=⟨_,rfl⟩
 have hEl : E.length≤g.edges.length:=by rw [hE]; exact List.length_filter_le _ _
 have hdel:=zis zcj [.pv [.I v]] (fun e=>decide (e.v<v)) g.edges g.edges.length E.length rfl (by rw [hE]) hl (fun ρ sn h n=>by simp) (fun e _=>zgx e v)
 rw [← hE] at hdel
 have hEg : E=g.edges:=hE.trans hee
 refine zab ⟨14,[(2,.pv (gC g)),(3,.pt 24 0 0),(4,.pt 32 0 0)],[(24,some ⟨1,[[.I v]],0⟩),(32,some zG)],40⟩ rfl ?_ ?_
 ·simp
  refine Le.ents [(24,24),(32,32)] [16] rfl (by simp) (by simp) (by simp) (by simp) (by simp) (by simp) fun p hp=>?_
  simp at hp
  rcases hp with rfl | rfl
  ·exact ⟨24,_,_,rfl,by simp,rfl,zaM.eq (by simp) (by simp)⟩
  ·exact ⟨32,_,_,rfl,by simp,rfl,zaM.eq (by simp) (by simp)⟩
 refine zab ⟨14,[(3,.pt 24 0 0),(4,.pt 32 0 0),(5,.pt 56 0 0)],[(24,some ⟨1,[[.I v]],0⟩),(32,some zG),(56,some ⟨3,[[.I g.size,.rs 48 0 g.edges.length,.rs 49 0 g.gone.length]],0⟩),(48,some ⟨3,za3 g.edges,0⟩),(49,some ⟨1,g.gone.map fun n=>[AV.I n],0⟩)],72⟩ rfl ?_ ?_
 ·simp
  refine zrn (zhC g (by omega) (by omega)) rfl ?_
  simp [fcd]
  exact Le.keep rfl (Nat.le_refl _) (by simp) (by simp)
 refine zab ⟨14,[(4,.pt 32 0 0),(5,.pt 56 0 0)],[(32,some zG),(56,some ⟨3,[[.I g.size,.rs 48 0 E.length,.rs 49 0 g.gone.length]],0⟩),(48,some ⟨3,za3 E++List.replicate (g.edges.length - E.length) [.I 0,.I 0,.I 0],0⟩),(49,some ⟨1,g.gone.map fun n=>[AV.I n],0⟩)],120⟩ rfl ?_ ?_
 ·simp
  refine zoy (i:=48) (j:=24) (by decide) (Nat.zero_le _) rfl rfl ?_ hdel (by simp) ?_ ?_
  ·simp [fcd]
  ·simp
  simp [fcd]
  exact Le.keep rfl (Nat.le_refl _) (by simp) (by simp)
 refine zaa ?_
 refine zac (s:=?s21) rfl ?o21 ?q21
 case o21=>simp; rfl
 refine zag ?_
 refine ⟨.inr rfl,?_⟩
 show zan [(4,some (true,3))] 0 _ _ _
 subst hEg
 refine zan.out (vs:=[.agg [.I g.size,.rs 48 0 g.edges.length,.rs 49 0 g.gone.length]]) [48] [49] (by simp) (by simp) (by simp) ?_ (by simp [fcd])
 simp [fcd,zao]
structure MapI (rows : List (List AV)) (φ : Int→Option AV) : Prop where
 is : MapR rows φ
 flat : ∀ n x,φ n=some x → ∃ v,x = .sc v
theorem MapI.mem {rows : List (List AV)} {φ : Int→Option AV} (h : MapI rows φ) {r : List AV} (hr : r∈rows) : ∃ k v,r=[.sc k,.sc v]:=by
 obtain ⟨⟨l,rfl,hn,hf⟩,hfl⟩:=h
 obtain ⟨q,hq,rfl⟩:=List.mem_map.1 hr
 obtain ⟨v,e⟩:=hfl q.1 q.2 (by rw [← hf]; exact zml hn hq)
 exact ⟨_,v,by rw [e]⟩
theorem MapI.conv' {rows : List (List AV)} {φ : Int→Option AV} (h : MapI rows φ) (ρ : List (Nat × Nat)) (sn : List Nat) (g : Nat→Option Ent) : rows.map (List.map (Go.Proofs.YtkngdgplbojdlaaGreat.conv ρ sn g 4))=rows:=by
 conv=>rhs; rw [← List.map_id rows]
 refine List.map_congr_left fun r hr=>?_
 obtain ⟨k,v,rfl⟩:=h.mem hr
 simp
theorem MapI.set {rows : List (List AV)} {φ ψ : Int→Option AV} (h : MapI rows φ) (n v : Int) (he : ψ=fun k=>if k=n then some (.I v) else φ k) : MapI (mset n (.I v) rows) ψ:=by
 subst he
 refine ⟨h.is.set n (.I v),fun k x hx=>?_⟩
 split at hx
 ·cases hx; exact ⟨_,rfl⟩
 ·exact h.flat k x hx
variable {g : Gr} {p : Pol}
theorem ForR.uniq {key : Int} {x y : Expl} (hg : GrOk g) (hx : ForR g p (ordL (zaj g p.lv) p.seeds) key x) (hy : ForR g p (ordL (zaj g p.lv) p.seeds) key y) :
  x.key=y.key∧x.acc=y.acc∧x.before=y.before∧x.side=y.side∧x.paths.length=y.paths.length:=by
 obtain ⟨hx1,hx2,i,hi,hik,hib⟩:=hx.at_ hg
 obtain ⟨hy1,hy2,j,hj,hjk,hjb⟩:=hy.at_ hg
 have hij : i=j:=(List.getElem_inj (zct (zaj g p.lv) p.seeds)).1 (hik.trans hjk.symm)
 subst hij
 have hb : x.before=y.before:=hib.trans hjb.symm
 refine ⟨hx1.trans hy1.symm,?_⟩
 by_cases hacc : key∈accR g p (ordL (zaj g p.lv) p.seeds)
 ·obtain ⟨x1,x2,W,⟨f,g',_,_,hl,_⟩,x3⟩:=hx.yes hacc
  obtain ⟨y1,y2,V,⟨f',g'',_,_,hl',_⟩,y3⟩:=hy.yes hacc
  refine ⟨x1.trans y1.symm,hb,x2.trans y2.symm,?_⟩
  rw [x3,y3,List.length_map,List.length_map]
  rw [hb] at hl
  omega
 ·obtain ⟨x1,x2,R,hR,hs⟩:=hx.no hacc
  obtain ⟨y1,y2,R',hR',hs'⟩:=hy.no hacc
  refine ⟨x1.trans y1.symm,hb,?_,by rw [x2,y2]⟩
  obtain ⟨a,ha,hak,hn⟩:=hR.right _ hs
  obtain ⟨b,hb',hbk,hn'⟩:=hR'.right _ hs'
  simp only at hak hbk hn hn'
  have h1 : a=i:=(List.getElem_inj (zct (zaj g p.lv) p.seeds)).1 (hak.trans hik.symm)
  have h2 : b=i:=(List.getElem_inj (zct (zaj g p.lv) p.seeds)).1 (hbk.trans hik.symm)
  subst h1
  subst h2
  rw [hn.eq,hn'.eq]
def g1 : Gr:=⟨1,[],[]⟩
def p1 : Pol:=⟨[0],[2],1⟩
section
variable {P : Program} {np id : Nat} {h : Nat→Option Ent} {K : AV→List Nat→List (Nat × Option Ent)→Prop} {f : FuncId} {first capt args args' : List AV} {res : AV}
end
open Classical in
noncomputable def chkE (g : Gr) (p : Pol) : Int:=if GrOk g then if zbl g.size p then 0 else 15 else 14
theorem zjJ {g : Gr} {p : Pol} : chkE g p=0↔GrOk g∧zbl g.size p:=by
 unfold chkE
 by_cases h1 : GrOk g
 ·by_cases h2 : zbl g.size p
  ·simp [h1,h2]
  ·simp [h1,h2]
 ·simp [h1]
theorem zpv (g : Gr) (p : Pol) (hl : g.edges.length≤140737488355328) (hl2 : g.gone.length≤140737488355328) (hs : p.seeds.length≤140737488355328) (ht : p.table.length≤140737488355328) :
  zak Tryz.prog zbM [eG g,eP p] [] (.I (chkE g p)) []:=zeO g p hl hl2 hs ht
variable {g : Gr} {p : Pol}
open Classical in
noncomputable def zc7 (g : Gr) (p : Pol) (x n : Int) : Gr × List Int × Int :=
 if chkE g p≠0 then (zdJ,[],chkE g p)
 else if ¬ (0≤x∧x≤g.size - 1)∨x∈g.gone then (zdJ,[],4)
 else if n<1 then (zdJ,[],2)
 else if ((zcC g p x).length : Int)<n then (zdJ,[],3)
 else if 500<g.edges.length+(tieL x ((zcC g p x).take n.toNat)).length then (zdJ,[],3)
 else (za6 g x ((zcC g p x).take n.toNat),(zcC g p x).take n.toNat,0)
theorem wkT3 {a b c a' b' c' : AV} (h1 : Wk a a') (h2 : Wk b b') (h3 : Wk c c') : Wk (.tup [a,b,c]) (.tup [a',b',c']) :=
 .tup _ _ rfl fun i=>match i with | 0=>h1 | 1=>h2 | 2=>h3 | _+3=>.refl _
abbrev zxO (r : Gr × List Int × Int) : AV:=.tup [eG r.1,ints r.2.1,.I r.2.2]
theorem ztI {g : Gr} (hg : GrOk g) : zaj g 0=g:=by
 unfold zaj
 have : (g.edges.filter fun e=>!decide (e.v<0))=g.edges:=List.filter_eq_self.2 fun e he=>by
  have:=hg.val e he
  simp
  omega
 rw [this]
def tieF (g : Gr) (x : Int) (l : List Int) (i : Nat) : List Ed:=g.edges++(List.range i).flatMap (tieI x l)
theorem zpB (g : Gr) (x : Int) (l : List Int) (i : Nat) : tieF g x l (i+1)=tieF g x l i++tieI x l i:=by
 unfold tieF
 rw [List.range_succ,List.flatMap_append,List.append_assoc]
 simp
theorem zvn (x : Int) (l : List Int) (i : Nat) : (tieI x l i).length≤3:=by
 unfold tieI
 split <;> simp
theorem zk7 (g : Gr) (x : Int) (l : List Int) : ∀ i,(tieF g x l i).length≤g.edges.length+3*i
 | 0=>by simp [tieF]
 | i+1=>by
   rw [zpB,List.length_append]
   have h1:=zk7 g x l i
   have h2:=zvn x l i
   omega
set_option maxRecDepth 100000 in
set_option maxHeartbeats 4000000 in
theorem zhp (g : Gr) (p : Pol) (x n : Int) (hl : g.edges.length≤1000000) (hl2 : g.gone.length≤1000000) (hs : p.seeds.length≤1000000) (ht : p.table.length≤1000000) :
  zak Tryz.prog zfq [eG g,eP p,.I x,.I n] [] (zxO (zc7 g p x n)) []:=by
 refine zop.acalls (nbz rfl) (nbz rfl) (Nat.le_refl _) ?_
 show awp _ 0 _ _ ⟨96,[(0,eG g),(1,eP p),(2,.I x),(3,.I n)],[],16⟩
 have hchk:=zpv g p (by omega) (by omega) (by omega) (by omega)
 generalize hring : zc7 g p x n=r
 unfold zc7 at hring
 replace hring:=hring.symm
 have hcz:=zjJ (g:=g) (p:=p)
 obtain ⟨c,hc⟩ : ∃ c,c=chkE g p:=⟨_,rfl⟩
 rw [← hc] at hchk hring hcz
 have herr : ∀ (e : Int) (m : Nat),r=(zdJ,[],e)→zan [(8,some (true,3)),(9,none),(10,none)] 0 ⟨96,[(8,.pt 40 0 0),(9,.nilS),(10,.I e)],[(40,some zG)],m⟩ (zxO r) []:=by
  intro e m he
  rw [he]
  exact zan.out [] [40] rfl (by simp) (by simp) (wkT3 (by simp; exact wkA3 (.refl _) (.nil _ _) (.nil _ _)) (.nil _ _) (.refl _)) (by simp)
 refine zab ⟨96,[(3,.I n),(4,.pv (gC g)),(5,.pv (pC p)),(6,.pv [.I x]),(8,.pt 40 0 0)],[(40,some zG)],100⟩ rfl ?_ ?_
 ·simp
  exact LeH [(40,40)] [16,24,32]
 refine zaa ?_
 refine zab ⟨96,[(3,.I n),(4,.pv (gC g)),(5,.pv (pC p)),(6,.pv [.I x]),(8,.pt 40 0 0),(11,.I c)],[(40,some zG)],200⟩ rfl ?_ ?_
 ·simp
  refine zaq hchk (by simp) ?_
  simp
  exact LeH [(40,40)] []
 refine zah ?_
 refine zab ⟨96,[(3,.I n),(4,.pv (gC g)),(5,.pv (pC p)),(6,.pv [.I x]),(8,.pt 40 0 0),(11,.I c),(20,.B (decide (c≠0)))],[(40,some zG)],300⟩ rfl ?_ ?_
 ·simp
  exact Le.go [(40,40)] [] rfl rfl (by simp <;> exact wkB (by rw [Bool.eq_iff_iff]; simp)) (by simp)
 refine zae _ rfl (fun h4=>?_) fun h4=>?_
 ·rw [decide_eq_true_eq] at h4
  rw [if_pos h4] at hring
  refine zab ⟨96,[(8,.pt 40 0 0),(9,.nilS),(10,.I c)],[(40,some zG)],400⟩ rfl ?_ ?_
  ·simp [zaZ]
   exact LeH [(40,40)] []
  refine zag ?_
  exact ⟨.inr rfl,herr c _ hring⟩
 rw [decide_eq_false_iff_not] at h4
 rw [if_neg h4] at hring
 obtain ⟨hg,hp⟩:=hcz.1 (Decidable.byContradiction h4)
 have hsz:=hg.1.1
 have hsz2:=hg.1.2.1
 have hel:=hg.edges_le
 have hw1 : IntKind.i64.wrap (g.size - 1)=g.size - 1:=w64 (by omega) (by omega)
 have hcon:=zdm g.gone x (by omega)
 refine zab ⟨96,[(3,.I n),(4,.pv (gC g)),(5,.pv (pC p)),(6,.pv [.I x]),(8,.pt 40 0 0),(25,.B (decide (¬ (0≤x∧x≤g.size - 1)∨x∈g.gone)))],[(40,some zG)],600⟩ rfl ?_ ?_
 ·simp [hw1]
  refine zaq (zcb x 0 (g.size - 1)) (by simp) ?_
  by_cases hin : 0≤x∧x≤g.size - 1
  ·simp [hin]
   refine zaq hcon (by simp) ?_
   simp
   exact Le.go [(40,40)] [] rfl rfl (by simp <;> exact wkB (by simp [hin]; intro h; omega)) (by simp)
  ·have hin2 : (decide (0≤x) && decide (x≤g.size - 1))=false:=by
    rw [← Bool.decide_and]
    exact decide_eq_false hin
   simp [hin2]
   exact Le.go [(40,40)] [] rfl rfl (by simp <;> exact wkB (by simp; exact .inl (by omega))) (by simp)
 refine zae _ rfl (fun h7=>?_) fun h7=>?_
 ·rw [decide_eq_true_eq] at h7
  rw [if_pos h7] at hring
  refine zab ⟨96,[(8,.pt 40 0 0),(9,.nilS),(10,.I 4)],[(40,some zG)],700⟩ rfl ?_ ?_
  ·simp [zaZ]
   exact LeH [(40,40)] []
  refine zag ?_
  exact ⟨.inr rfl,herr 4 _ hring⟩
 rw [decide_eq_false_iff_not] at h7
 rw [if_neg h7] at hring
 have hx : 0≤x∧x<g.size:=by
  have : ¬ ¬ (0≤x∧x≤g.size - 1):=fun h=>h7 (.inl h)
  omega
 have hxg : x∉g.gone:=fun h=>h7 (.inr h)
 refine zab ⟨96,[(3,.I n),(4,.pv (gC g)),(5,.pv (pC p)),(6,.pv [.I x]),(8,.pt 40 0 0),(39,.B (decide (n<1)))],[(40,some zG)],800⟩ rfl ?_ ?_
 ·simp
  exact LeH [(40,40)] []
 refine zae _ rfl (fun h10=>?_) fun h10=>?_
 ·rw [decide_eq_true_eq] at h10
  rw [if_pos h10] at hring
  refine zab ⟨96,[(8,.pt 40 0 0),(9,.nilS),(10,.I 2)],[(40,some zG)],900⟩ rfl ?_ ?_
  ·simp [zaZ]
   exact LeH [(40,40)] []
  refine zag ?_
  exact ⟨.inr rfl,herr 2 _ hring⟩
 rw [decide_eq_false_iff_not] at h10
 rw [if_neg h10] at hring
 have hwh:=zjg zdN [.pv (gC g),.pv (pC p),.pv [.I x]] (zlq g p x) g.size (by omega) (fun ρ sn h k=>by simp) fun k _=>zsm g p x k (by omega) (by omega) (by omega)
 have hL : zbp g.size.toNat (zlq g p x)=zcC g p x:=rfl
 rw [hL] at hwh
 obtain ⟨L,hLd⟩ : ∃ L,L=zcC g p x:=⟨_,rfl⟩
 rw [← hLd] at hwh hring
 have hLlen : L.length≤64:=by
  have h1 : (zbp g.size.toNat (zlq g p x)).length≤g.size.toNat:=by
   unfold zbp
   have:=List.length_filter_le (zlq g p x) ((List.range g.size.toNat).map fun (i : Nat)=>(i : Int))
   simpa using this
  rw [hLd,← hL]
  omega
 refine zaf ?_
 refine zab ⟨96,[(3,.I n),(4,.pv (gC g)),(6,.pv [.I x]),(8,.pt 40 0 0),(12,ints L)],[(40,some zG)],1000⟩ rfl ?_ ?_
 ·simp
  refine zcq hwh (by simp) ?_
  simp
  exact Le.go [(40,40)] [824] rfl rfl (by simp [fcd,zao]) (by simp)
 refine zaa ?_
 refine zab ⟨96,[(3,.I n),(4,.pv (gC g)),(6,.pv [.I x]),(8,.pt 40 0 0),(12,ints L),(50,.B (decide ((L.length : Int)<n)))],[(40,some zG)],1100⟩ rfl ?_ ?_
 ·simp
  exact LeH [(40,40)] []
 refine zae _ rfl (fun h14=>?_) fun h14=>?_
 ·rw [decide_eq_true_eq] at h14
  rw [if_pos h14] at hring
  refine zab ⟨96,[(8,.pt 40 0 0),(9,.nilS),(10,.I 3)],[(40,some zG)],1200⟩ rfl ?_ ?_
  ·simp [zaZ]
   exact LeH [(40,40)] []
  refine zag ?_
  exact ⟨.inr rfl,herr 3 _ hring⟩
 rw [decide_eq_false_iff_not] at h14
 rw [if_neg h14] at hring
 obtain ⟨N,rfl⟩ : ∃ N : Nat,n=N:=⟨n.toNat,by omega⟩
 rw [Int.toNat_natCast] at hring
 obtain ⟨l,hld⟩ : ∃ l,l=L.take N:=⟨_,rfl⟩
 rw [← hld] at hring
 have hll : l.length=N:=by rw [hld,List.length_take]; omega
 have hl64 : N≤64:=by omega
 have hfk : zeD g p x l:=by rw [hld,hLd]; exact zfB _
 have hlz : zaj g 0=g:=ztI hg
 have hlev:=zlB g 0 hlz (by omega) (by omega)
 refine zaf ?_
 refine zab ⟨96,[(3,.I N),(4,.pv (gC g)),(6,.pv [.I x]),(8,.pt 40 0 0),(12,ints l)],[(40,some zG)],1300⟩ rfl ?_ ?_
 ·simp
  refine ⟨by omega,?_⟩
  exact Le.go [(40,40)] [] rfl rfl (by simp [hld]; exact List.map_take ▸ .refl _) (by simp)
 refine zab ⟨96,[(3,.I N),(6,.pv [.I x]),(8,.pt 40 0 0),(12,ints l),(13,.pt 50 0 0)],[(40,some zG),(50,some (outG g.size g.gone 60 g.edges.length)),(60,some ⟨3,za3 g.edges,0⟩)],1400⟩ rfl ?_ ?_
 ·simp
  refine zcq hlev (by simp) ?_
  simp [zaZ,fcd]
  exact Le.go [(40,40),(1316,50),(1308,60)] [] rfl rfl (by simp) (by simp [fcd,zaZ])
 refine zab ⟨96,[(3,.I N),(6,.pv [.I x]),(8,.pt 40 0 0),(12,ints l),(13,.pt 50 0 0),(14,.fn (.func zaX) [] [.pt 50 0 0])],[(40,some zG),(50,some (outG g.size g.gone 60 g.edges.length)),(60,some ⟨3,za3 g.edges,0⟩)],1500⟩ rfl ?_ ?_
 ·simp
  exact LeI [(40,40),(50,50),(60,60)] []
 refine zaa ?_
 refine zab ⟨96,[(3,.I N),(6,.pv [.I x]),(8,.pt 40 0 0),(12,ints l),(13,.pt 50 0 0),(14,.fn (.func zaX) [] [.pt 50 0 0]),(58,ints l),(59,.I l.length),(60,.I 0)],[(40,some zG),(50,some (outG g.size g.gone 60 g.edges.length)),(60,some ⟨3,za3 g.edges,0⟩)],1600⟩ rfl ?_ ?_
 ·simp
  exact LeI [(40,40),(50,50),(60,60)] []
 have hF0 : tieF g x l 0=g.edges:=by simp [tieF]
 refine zah ?_
 refine zav (ι:=Nat) (fun i=>⟨96,[(3,.I N),(6,.pv [.I x]),(8,.pt 40 0 0),(12,ints l),(13,.pt 50 0 0),(14,.fn (.func zaX) [] [.pt 50 0 0]),(58,ints l),(59,.I l.length),(60,.I i)],[(40,some zG),(50,some (outG g.size g.gone 60 (tieF g x l i).length)),(60,some ⟨3,za3 (tieF g x l i),0⟩)],1700⟩) (fun i=>i≤l.length) (fun i=>l.length - i) 0 (Nat.zero_le _) (Le.go [(40,40),(50,50),(60,60)] [] rfl rfl (by simp [hF0]) (by simp [hF0,fcd])) ?_
 intro i hi
 have hFl:=zk7 g x l i
 refine zab ⟨96,[(3,.I N),(6,.pv [.I x]),(8,.pt 40 0 0),(12,ints l),(13,.pt 50 0 0),(14,.fn (.func zaX) [] [.pt 50 0 0]),(58,ints l),(59,.I l.length),(60,.I i),(61,.B (decide (i<l.length)))],[(40,some zG),(50,some (outG g.size g.gone 60 (tieF g x l i).length)),(60,some ⟨3,za3 (tieF g x l i),0⟩)],1800⟩ rfl ?_ ?_
 ·simp
  exact LeI [(40,40),(50,50),(60,60)] []
 refine zaa ?_
 refine zae _ rfl (fun h21=>?_) fun h21=>?_
 ·rw [decide_eq_true_eq] at h21
  have hFs:=zpB g x l i
  obtain ⟨k,hk⟩ : ∃ k,k=l.getD i 0:=⟨_,rfl⟩
  have hki : l[i]=k:=by rw [hk,List.getD_eq_getElem?_getD,List.getElem?_eq_getElem h21,Option.getD_some]
  have hw2 : IntKind.i64.wrap ((i : Int)+1)=(i : Int)+1:=w64 (by omega) (by omega)
  obtain ⟨F,hF⟩ : ∃ F,F=tieF g x l i:=⟨_,rfl⟩
  rw [← hF] at hFs hFl ⊢
  have hti : tieI x l i=[⟨x,k,3⟩,⟨k,x,3⟩]++(if 1<l.length then [⟨k,l.getD ((i+1) % l.length) 0,3⟩] else []):=by rw [hk]; rfl
  rw [hti] at hFs
  refine zaf ?_
  refine zbH (ι:=Unit) (fun _=>⟨96,[(3,.I N),(6,.pv [.I x]),(8,.pt 40 0 0),(12,ints l),(13,.pt 50 0 0),(14,.fn (.func zaX) [] [.pt 50 0 0]),(58,ints l),(59,.I l.length),(60,.I i)],[(40,some zG),(50,some (outG g.size g.gone 60 (tieF g x l (i+1)).length)),(60,some ⟨3,za3 (tieF g x l (i+1)),0⟩)],4000⟩) (fun _=>True) ?_ fun _ _=>?_
  ·refine zah ?_
   refine zab ⟨96,[(3,.I N),(6,.pv [.I x]),(8,.pt 40 0 0),(12,ints l),(13,.pt 50 0 0),(14,.fn (.func zaX) [] [.pt 50 0 0]),(15,.I i),(16,.I k),(58,ints l),(59,.I l.length),(60,.I i)],[(40,some zG),(50,some (outG g.size g.gone 60 F.length)),(60,some ⟨3,za3 F,0⟩)],2000⟩ rfl ?_ ?_
   ·simp [h21,hki]
    exact LeI [(40,40),(50,50),(60,60)] []
   refine zab ⟨96,[(3,.I N),(6,.pv [.I x]),(8,.pt 40 0 0),(12,ints l),(13,.pt 50 0 0),(14,.fn (.func zaX) [] [.pt 50 0 0]),(15,.I i),(16,.I k),(58,ints l),(59,.I l.length),(60,.I i)],[(40,some zG),(50,some (outG g.size g.gone 60 (F.length+1))),(60,some ⟨3,za3 (F++[⟨x,k,3⟩]),0⟩)],2200⟩ rfl ?_ ?_
   ·simp
    refine zi7 (i:=50) (j:=60) (by decide) rfl rfl (e1':=outG g.size g.gone 1 F.length) (e2':=⟨3,za3 F,0⟩) (by simp) (by simp [fcd]) (ztw g.size g.gone x k F _ rfl (by omega)) (by simp) (by simp) ?_
    simp [fcd]
    exact LeI [(40,40),(50,50),(2024,60)] []
   refine zab ⟨96,[(3,.I N),(6,.pv [.I x]),(8,.pt 40 0 0),(12,ints l),(13,.pt 50 0 0),(14,.fn (.func zaX) [] [.pt 50 0 0]),(15,.I i),(16,.I k),(58,ints l),(59,.I l.length),(60,.I i)],[(40,some zG),(50,some (outG g.size g.gone 60 (F.length+1+1))),(60,some ⟨3,za3 (F++[⟨x,k,3⟩]++[⟨k,x,3⟩]),0⟩)],2400⟩ rfl ?_ ?_
   ·simp
    refine zi7 (i:=50) (j:=60) (by decide) rfl rfl (e1':=outG g.size g.gone 1 (F.length+1)) (e2':=⟨3,za3 (F++[⟨x,k,3⟩]),0⟩) (by simp) (by simp [fcd]) (ztw g.size g.gone k x (F++[⟨x,k,3⟩]) _ (by simp) (by omega)) (by simp) (by simp) ?_
    simp [fcd]
    exact LeI [(40,40),(50,50),(2224,60)] []
   obtain ⟨F2,hF2⟩ : ∃ F2,F2=F++[⟨x,k,3⟩]++[⟨k,x,3⟩]:=⟨_,rfl⟩
   have hF2l : F.length+1+1=F2.length:=by rw [hF2]; simp
   rw [← hF2,hF2l]
   refine zab ⟨96,[(3,.I N),(6,.pv [.I x]),(8,.pt 40 0 0),(12,ints l),(13,.pt 50 0 0),(14,.fn (.func zaX) [] [.pt 50 0 0]),(15,.I i),(16,.I k),(58,ints l),(59,.I l.length),(60,.I i),(74,.B (decide ((1 : Int)<N)))],[(40,some zG),(50,some (outG g.size g.gone 60 F2.length)),(60,some ⟨3,za3 F2,0⟩)],2600⟩ rfl ?_ ?_
   ·simp
    exact LeI [(40,40),(50,50),(60,60)] []
   refine zae _ rfl (fun h26=>?_) fun h26=>?_
   ·rw [decide_eq_true_eq] at h26
    rw [if_pos (by omega),← List.append_assoc,show F++[⟨x,k,3⟩,⟨k,x,3⟩]=F2 by rw [hF2]; simp] at hFs
    have hrem : ((i : Int)+1).tmod (N : Int)=(((i+1) % l.length : Nat) : Int):=by rw [hll]; exact (Int.ofNat_tmod (i+1) N).symm
    have hj : (i+1) % l.length<l.length:=Nat.mod_lt _ (by omega)
    obtain ⟨j,hjd⟩ : ∃ j,j=(i+1) % l.length:=⟨_,rfl⟩
    rw [← hjd] at hrem hj hFs
    have hkj : l[j]=l.getD j 0:=by rw [List.getD_eq_getElem?_getD,List.getElem?_eq_getElem hj,Option.getD_some]
    obtain ⟨k2,hk2⟩ : ∃ k2,k2=l.getD j 0:=⟨_,rfl⟩
    rw [← hk2] at hkj hFs
    have hN0 : ¬ N=0:=by omega
    refine zaL rfl ?_
    simp [hw2,hrem,hj,hkj]
    refine ⟨_,⟨hN0,rfl⟩,?_⟩
    simp [hj,hkj]
    refine zi7 (i:=50) (j:=60) (by decide) rfl rfl (e1':=outG g.size g.gone 1 F2.length) (e2':=⟨3,za3 F2,0⟩) (by simp) (by simp [fcd]) (ztw g.size g.gone k k2 F2 _ rfl (by omega)) (by simp) (by simp) ?_
    simp [fcd]
    exact Le.go [(40,40),(50,50),(2672,60)] [] rfl rfl (by simp [hFs]) (by simp [hFs,fcd])
   ·rw [decide_eq_false_iff_not] at h26
    rw [if_neg (by omega),List.append_nil,show F++[⟨x,k,3⟩,⟨k,x,3⟩]=F2 by rw [hF2]; simp] at hFs
    refine zaf ?_
    exact ⟨(),trivial,Le.go [(40,40),(50,50),(60,60)] [] rfl rfl (by simp [hFs]) (by simp [hFs,fcd])⟩
  refine zaL rfl ?_
  simp
  exact ⟨i+1,by omega,by omega,Le.go [(40,40),(50,50),(60,60)] [] rfl rfl (by simp [hw2]) (by simp [fcd])⟩
 rw [decide_eq_false_iff_not] at h21
 obtain rfl : i=l.length:=by omega
 have hFt : tieF g x l l.length=g.edges++tieL x l:=rfl
 refine zas ?_
 refine hit ?_
 refine zaa ?_
 obtain ⟨A,hA⟩ : ∃ A,A=g.edges++tieL x l:=⟨_,rfl⟩
 rw [hFt,← hA]
 have hAl : g.edges.length+(tieL x l).length=A.length:=by rw [hA,List.length_append]
 have hAle : A.length≤1000000:=by rw [hA,← hFt]; have:=zk7 g x l l.length; omega
 rw [hAl] at hring
 refine zab ⟨96,[(8,.pt 40 0 0),(12,ints l),(13,.pt 50 0 0),(89,.B (decide ((500 : Int)<A.length)))],[(40,some zG),(50,some (outG g.size g.gone 60 A.length)),(60,some ⟨3,za3 A,0⟩)],5000⟩ rfl ?_ ?_
 ·simp
  exact LeI [(40,40),(50,50),(60,60)] []
 refine zae _ rfl (fun h28=>?_) fun h28=>?_
 ·rw [decide_eq_true_eq] at h28
  rw [if_pos (by omega)] at hring
  refine zab ⟨96,[(8,.pt 40 0 0),(9,.nilS),(10,.I 3)],[(40,some zG)],5100⟩ rfl ?_ ?_
  ·simp [zaZ]
   exact LeH [(40,40)] []
  refine zag ?_
  exact ⟨.inr rfl,herr 3 _ hring⟩
 rw [decide_eq_false_iff_not] at h28
 rw [if_neg (by omega)] at hring
 have hAp : A.Pairwise zl2:=by
  rw [hA,List.pairwise_append]
  refine ⟨hg.pair.imp fun {a b} h=>?_,zoP hfk.nodup fun h=>hfk.ne x h rfl,fun a ha b hb=>?_⟩
  ·unfold Bef at h; unfold zl2; omega
  ·have h1:=(zlf hb).2
   rintro ⟨e1,e2⟩
   rcases h1 with ⟨_,h⟩ | ⟨_,h⟩ | ⟨h,_⟩
   ·exact (hfk.edge _ h a ha).2 e2
   ·exact (hfk.edge _ h a ha).1 e1
   ·exact (hfk.edge _ h a ha).1 e1
 have hA0 : A≠[]:=by
  have h1 : 0<l.length:=by omega
  have h2:=zqX (x:=x) (l:=l) (List.getElem_mem h1)
  intro h
  rw [hA,List.append_eq_nil_iff] at h
  rw [h.2] at h2
  exact List.not_mem_nil h2
 have hsort:=zsz A hA0 (by omega) hAp
 have hrg : za6 g x l=⟨g.size,zjA A,g.gone⟩:=by rw [hA]; rfl
 have hsl : (zjA A).length=A.length:=(zfw A).length_eq
 obtain ⟨Z,hZ⟩ : ∃ Z,Z=zjA A:=⟨_,rfl⟩
 rw [← hZ] at hsort hrg hsl
 have htz : ∀ f : Ed→List AV,List.take A.length (List.map f Z)=List.map f Z:=fun f=>List.take_of_length_le (by simp [hsl])
 refine zaf ?_
 refine zab ⟨96,[(8,.pt 40 0 0),(12,ints l),(13,.pt 50 0 0)],[(40,some zG),(50,some (outG g.size g.gone 60 A.length)),(60,some ⟨3,za3 Z,0⟩)],6000⟩ rfl ?_ ?_
 ·simp
  refine zcJ (i:=60) rfl (by simp [fcd]) hsort (by simp) (by simp) ?_
  simp [fcd]
  exact LeI [(40,40),(50,50),(60,60)] []
 refine zab ⟨96,[(8,.pt 40 0 0),(9,ints l),(10,.I 0)],[(40,some ⟨3,[[.I g.size,eEs Z,ints g.gone]],0⟩)],7000⟩ rfl ?_ ?_
 ·simp [zaZ]
  exact Le.go [(40,40)] [60] rfl rfl (by simp) (by simp [fcd,zaZ,htz,hsl])
 refine zag ?_
 rw [hring,hrg]
 exact ⟨.inr rfl,zan.out [] [40] rfl (by simp) (by simp) (wkT3 (by simp) (.refl _) (.refl _)) (by simp)⟩
theorem zwO {g : Gr} (hg : GrOk g) (p : Pol) : (ordL (zaj g p.lv) p.seeds).length≤64:=by
 have hsz:=hg.1.1
 have hsz2:=hg.1.2.1
 have hr : ∀ x∈ordL (zaj g p.lv) p.seeds,0≤x∧x<g.size:=fun x hx=>by have h:=zgv hx; exact h
 have:=zbt (b:=(List.range g.size.toNat).map fun i : Nat=>(i : Int)) (zct (zaj g p.lv) p.seeds) fun x hx=>by
  have:=hr x hx
  exact List.mem_map.2 ⟨x.toNat,List.mem_range.2 (by omega),by omega⟩
 rw [List.length_map,List.length_range] at this
 omega
variable {N : Nat} {A : List Ed} {f : List Int}
end Go.Proofs.YtkngdgplbojdlaaGreat
namespace Go.Proofs.YtkngdgplbojdlaaGreat
open Go
noncomputable abbrev accG (g : Gr) (p : Pol) : List Int:=accR g p (ordL (zaj g p.lv) p.seeds)
theorem zrM {g : Gr} (hg : GrOk g) (p : Pol) : (accG g p).length≤64:=Nat.le_trans (zrV _) (zwO hg p)
def inC (N : Nat) (l a : List Int) : Nat:=(zbp N fun k=>decide (k∈l) && decide (k∈a)).length
def outC (N : Nat) (l a : List Int) : Nat:=(zbp N fun k=>decide (k∈l) && !decide (k∈a)).length
noncomputable def zgO (g : Gr) (p : Pol) (x n : Int) : Int × Int × Int :=
 if (zc7 g p x n).2.2≠0 then (0,0,(zc7 g p x n).2.2)
 else ((inC g.size.toNat (zc7 g p x n).2.1 (accG (zc7 g p x n).1 p) : Int),(outC g.size.toNat (accG g p) (accG (zc7 g p x n).1 p) : Int),0)
theorem zsM {g : Gr} {p : Pol} {x n : Int} (h : (zc7 g p x n).2.2=0) :
  GrOk g∧zbl g.size p∧(0≤x∧x<g.size)∧x∉g.gone∧1≤n ∧ ∃ l,l=(zcC g p x).take n.toNat∧(l.length : Int)=n∧zeD g p x l∧GrOk (za6 g x l)∧zc7 g p x n=(za6 g x l,l,0):=by
 have hcz:=zjJ (g:=g) (p:=p)
 unfold zc7 at h ⊢
 by_cases h1 : chkE g p≠0
 ·rw [if_pos h1] at h; exact absurd h h1
 rw [if_neg h1] at h ⊢
 by_cases h2 : ¬ (0≤x∧x≤g.size - 1)∨x∈g.gone
 ·rw [if_pos h2] at h; cases h
 rw [if_neg h2] at h ⊢
 by_cases h3 : n<1
 ·rw [if_pos h3] at h; cases h
 rw [if_neg h3] at h ⊢
 by_cases h4 : ((zcC g p x).length : Int)<n
 ·rw [if_pos h4] at h; cases h
 rw [if_neg h4] at h ⊢
 by_cases h5 : 500<g.edges.length+(tieL x ((zcC g p x).take n.toNat)).length
 ·rw [if_pos h5] at h; cases h
 rw [if_neg h5] at h ⊢
 obtain ⟨hg,hp⟩:=hcz.1 (Decidable.byContradiction h1)
 have hx : 0≤x∧x<g.size:=by
  have : ¬ ¬ (0≤x∧x≤g.size - 1):=fun h=>h2 (.inl h)
  omega
 have hxg : x∉g.gone:=fun h=>h2 (.inr h)
 refine ⟨hg,hp,hx,hxg,by omega,_,rfl,?_,zfB _,zom hg (zfB _) hx hxg (by omega),rfl⟩
 rw [List.length_take]
 omega
theorem zsr (l acc f : List Int) (R : List (Int × List Int)) (k : Int) (hl : l.length≤1000000) (ha : acc.length≤1000000) : zak Tryz.prog zdS [.I k,.pv [ints l],.pv [ints acc,ints f,.vs 2 false (zeF R)]] [] (.B (decide (k∈l) && decide (k∈acc))) []:=by
 refine zkV.acalls (nbz rfl) (nbz rfl) (Nat.le_refl _) ?_
 show awp _ 0 _ _ ⟨13,[(0,.I k),(1,.pv [ints l]),(2,.pv [ints acc,ints f,.vs 2 false (zeF R)])],[],16⟩
 refine rx (s:=?s1) [0,1,2] [] [] rfl ?o1 ?q1
 case o1=>simp; rfl
 refine zab ⟨13,[(4,.B (decide (k∈l) && decide (k∈acc)))],[],200⟩ rfl ?_ ?_
 ·simp
  refine zaq (zdm l k (by omega)) (by simp) ?_
  by_cases h : k∈l
  ·simp [h]
   refine zaq (zeB acc f R k (by omega)) (by simp) ?_
   simp
   exact LeH [] []
  ·simp [h]
   exact LeH [] []
 refine zag ?_
 exact ⟨.inr rfl,zan.one (by simp)⟩
theorem zsR (a1 f1 a2 f2 : List Int) (R1 R2 : List (Int × List Int)) (k : Int) (h1 : a1.length≤1000000) (h2 : a2.length≤1000000) : zak Tryz.prog zdO [.I k,.pv [ints a1,ints f1,.vs 2 false (zeF R1)],.pv [ints a2,ints f2,.vs 2 false (zeF R2)]] [] (.B (decide (k∈a1) && !decide (k∈a2))) []:=by
 refine zkH.acalls (nbz rfl) (nbz rfl) (Nat.le_refl _) ?_
 show awp _ 0 _ _ ⟨14,[(0,.I k),(1,.pv [ints a1,ints f1,.vs 2 false (zeF R1)]),(2,.pv [ints a2,ints f2,.vs 2 false (zeF R2)])],[],16⟩
 refine rx (s:=?s1) [0,1,2] [] [] rfl ?o1 ?q1
 case o1=>simp; rfl
 refine zab ⟨14,[(4,.B (decide (k∈a1) && !decide (k∈a2)))],[],200⟩ rfl ?_ ?_
 ·simp
  refine zaq (zeB a1 f1 R1 k (by omega)) (by simp) ?_
  by_cases h : k∈a1
  ·simp [h]
   refine zaq (zeB a2 f2 R2 k (by omega)) (by simp) ?_
   simp
   exact LeH [] []
  ·simp [h]
   exact LeH [] []
 refine zag ?_
 exact ⟨.inr rfl,zan.one (by simp)⟩
theorem zuk {g : Gr} {p : Pol} (hg : GrOk g) (hp : zbl g.size p) : p.seeds.length≤64:=by
 have:=zbt (a:=p.seeds) (b:=(List.range 64).map Int.ofNat) hp.2.1.nodup.1 fun x hx=>by
  have h1:=hp.2.1.nodup.2 x hx
  have h2:=hg.1.2.1
  exact List.mem_map.2 ⟨x.toNat,List.mem_range.2 (by omega),by simp; omega⟩
 simpa using this
set_option maxRecDepth 100000 in
set_option maxHeartbeats 4000000 in
theorem zhY (g : Gr) (p : Pol) (x n : Int) (hl : g.edges.length≤1000000) (hl2 : g.gone.length≤1000000) (hs : p.seeds.length≤1000000) (ht : p.table.length≤1000000) (hN : GrOk g→g.size<20) :
  zak Tryz.prog zfu [eG g,eP p,.I x,.I n] [] (.tup [.I (zgO g p x n).1,.I (zgO g p x n).2.1,.I (zgO g p x n).2.2]) []:=by
 refine znF.acalls (nbz rfl) (nbz rfl) (Nat.le_refl _) ?_
 show awp _ 0 _ _ ⟨56,[(0,eG g),(1,eP p),(2,.I x),(3,.I n)],[],16⟩
 have hring:=zhp g p x n hl hl2 hs ht
 have hright:=zsM (g:=g) (p:=p) (x:=x) (n:=n)
 generalize hres : zgO g p x n=res
 unfold zgO at hres
 replace hres:=hres.symm
 generalize zc7 g p x n=r at *
 obtain ⟨h,l,e⟩:=r
 simp only at *
 refine zab ⟨56,[(2,.I x),(3,.I n),(4,.pv (gC g)),(5,.pv (pC p))],[],100⟩ rfl ?_ ?_
 ·simp
  exact LeH [] [16,24]
 refine zab ⟨56,[(4,.pv (gC g)),(5,.pv (pC p)),(11,.pv (gC h)),(12,.pv [ints l]),(13,.I e)],[],300⟩ rfl ?_ ?_
 ·simp
  refine zaq hring (by simp) ?_
  simp [zaZ]
  exact LeH [] [172,180]
 refine zaa ?_
 refine zab ⟨56,[(4,.pv (gC g)),(5,.pv (pC p)),(11,.pv (gC h)),(12,.pv [ints l]),(13,.I e),(30,.B (decide (e≠0)))],[],400⟩ rfl ?_ ?_
 ·simp
  exact Le.go [] [] rfl rfl (by simp <;> exact wkB (by rw [Bool.eq_iff_iff]; simp)) (by simp)
 refine zae _ rfl (fun h4=>?_) fun h4=>?_
 ·rw [decide_eq_true_eq] at h4
  rw [if_pos h4] at hres
  refine zab ⟨56,[(8,.I 0),(9,.I 0),(10,.I e)],[],500⟩ rfl ?_ ?_
  ·simp
   exact LeH [] []
  refine zag ?_
  rw [hres]
  exact ⟨.inr rfl,zan.out [] [] rfl (by simp) (by simp) (wkT3 (.refl _) (.refl _) (.refl _)) (by simp)⟩
 rw [decide_eq_false_iff_not] at h4
 rw [if_neg h4] at hres
 obtain ⟨hg,hp,hx,hxg,hn1,l',hl',hll,hfk,hro,hrr⟩:=hright (Decidable.byContradiction h4)
 injection hrr with e1 e2
 injection e2 with e2 e3
 subst e2 e3
 have hp1 : zbl h.size p:=by rw [e1]; exact hp
 rw [← e1] at hro
 have hsz : h.size=g.size:=by rw [e1]; rfl
 have hlen : l.length≤64:=by
  have:=zbt (a:=l) (b:=(List.range 64).map Int.ofNat) hfk.nodup fun x hx=>by
   have h1:=hfk.rng x hx
   have h2:=hg.1.2.1
   exact List.mem_map.2 ⟨x.toNat,List.mem_range.2 (by omega),by simp; omega⟩
  simpa using this
 have hs64:=zuk hg hp
 obtain ⟨f1,hf1,hrun1⟩:=zhs g p hg hp hs64 (hN hg)
 obtain ⟨f2,hf2,hrun2⟩:=zhs h p hro hp1 hs64 (by rw [hsz]; exact hN hg)
 have ha1:=zrM hg p
 have ha2:=zrM hro p
 simp only [accG] at ha1 ha2 hres
 obtain ⟨a1,hA1⟩ : ∃ a,a=accR g p (ordL (zaj g p.lv) p.seeds):=⟨_,rfl⟩
 obtain ⟨a2,hA2⟩ : ∃ a,a=accR h p (ordL (zaj h p.lv) p.seeds):=⟨_,rfl⟩
 obtain ⟨R1,hR1⟩ : ∃ R,R=refR g p (ordL (zaj g p.lv) p.seeds):=⟨_,rfl⟩
 obtain ⟨R2,hR2⟩ : ∃ R,R=refR h p (ordL (zaj h p.lv) p.seeds):=⟨_,rfl⟩
 rw [← hA1,← hR1] at hrun1
 rw [← hA2,← hR2] at hrun2
 rw [← hA1] at ha1
 rw [← hA2] at ha2
 rw [← hA1,← hA2] at hres
 have hw1:=zjg zdS [.pv [ints l],.pv [ints a2,ints f2,.vs 2 false (zeF R2)]] (fun k=>decide (k∈l) && decide (k∈a2)) g.size (by have:=hg.1.2.1; omega) (fun ρ sn h k=>by simp) fun k _=>zsr l a2 f2 R2 k (by omega) (by omega)
 have hw2:=zjg zdO [.pv [ints a1,ints f1,.vs 2 false (zeF R1)],.pv [ints a2,ints f2,.vs 2 false (zeF R2)]] (fun k=>decide (k∈a1) && !decide (k∈a2)) g.size (by have:=hg.1.2.1; omega) (fun ρ sn h k=>by simp) fun k _=>zsR a1 f1 a2 f2 R1 R2 k (by omega) (by omega)
 unfold inC outC at hres
 obtain ⟨W1,hW1⟩ : ∃ W,W=zbp g.size.toNat fun k=>decide (k∈l) && decide (k∈a2):=⟨_,rfl⟩
 obtain ⟨W2,hW2⟩ : ∃ W,W=zbp g.size.toNat fun k=>decide (k∈a1) && !decide (k∈a2):=⟨_,rfl⟩
 rw [← hW1] at hw1 hres
 rw [← hW2] at hw2 hres
 refine zaf ?_
 refine zab ⟨56,[(4,.pv (gC g)),(5,.pv (pC p)),(11,.pv (gC h)),(12,.pv [ints l]),(14,.pv [ints a1,ints f1,.vs 2 false (zeF R1)])],[],600⟩ rfl ?_ ?_
 ·simp
  refine zaq hrun1 (by simp) ?_
  simp [zaZ]
  exact LeH [] [448]
 refine zab ⟨56,[(4,.pv (gC g)),(12,.pv [ints l]),(14,.pv [ints a1,ints f1,.vs 2 false (zeF R1)]),(16,.pv [ints a2,ints f2,.vs 2 false (zeF R2)])],[],700⟩ rfl ?_ ?_
 ·simp
  refine zaq hrun2 (by simp) ?_
  simp [zaZ]
  exact LeH [] [648]
 refine zab ⟨56,[(4,.pv (gC g)),(14,.pv [ints a1,ints f1,.vs 2 false (zeF R1)]),(16,.pv [ints a2,ints f2,.vs 2 false (zeF R2)]),(18,ints W1)],[],800⟩ rfl ?_ ?_
 ·simp
  refine zcq hw1 (by simp) ?_
  simp
  exact Le.go [] [724] rfl rfl (by simp [fcd,zao]) (by simp)
 refine zab ⟨56,[(18,ints W1),(19,ints W2)],[],900⟩ rfl ?_ ?_
 ·simp
  refine zcq hw2 (by simp) ?_
  simp
  exact Le.go [] [824] rfl rfl (by simp [fcd,zao]) (by simp)
 refine zab ⟨56,[(8,.I W1.length),(9,.I W2.length),(10,.I 0)],[],1000⟩ rfl ?_ ?_
 ·simp
  exact LeH [] []
 refine zag ?_
 rw [hres]
 exact ⟨.inr rfl,zan.out [] [] rfl (by simp) (by simp) (wkT3 (.refl _) (.refl _) (.refl _)) (by simp)⟩
def gS : Gr:=⟨12,[⟨0,1,1⟩],[]⟩
def pS : Pol:=⟨[0],[5,4],1⟩
theorem zsg : GrOk gS:=GrOk.of (by decide) (by decide) (by decide) (fun i h=>by simp at h) (by decide) (by decide)
theorem zmQ : zbl 12 pS:=by
 refine ⟨by decide +revert,fun i h=>?_,by decide +revert,by decide +revert,by decide +revert,by decide +revert,fun i h=>?_⟩
 ·obtain rfl : i=0:=by simp [pS] at h; omega
  exact ⟨by decide +revert,by decide +revert,fun h=>by cases h⟩
 ·have : i=0∨i=1:=by simp [pS] at h; omega
  rcases this with rfl | rfl
  ·exact ⟨by decide +revert,by decide +revert,fun h=>by cases h⟩
  ·exact ⟨by decide +revert,by decide +revert,fun h=>by decide +revert⟩
theorem zgN {g : Gr} {p : Pol} (hg : GrOk g) (hp : zbl g.size p) {ks f : List Int} (hr : ∀ x∈ks,0≤x∧x<g.size) (hf : zaO (netN g) (netA g p ks) f) (hv : valF (netA g p ks) f=ks.length) : zap g p ks:=by
 have h1:=zjS (p:=p) hg hp hr
 have h2:=zs5 (zlP hg hp hr) (f:=f) hf
 rw [hv] at h2
 unfold zap
 omega
theorem ordS : ordL (zaj gS pS.lv) pS.seeds=[0,1]:=by decide
theorem accS : accR gS pS [0,1]=[0,1]∧refR gS pS [0,1]=[]:=by
 have c0 : zap gS pS [0]:=zgN (f:=[1,0,0,1,0]) zsg zmQ (by decide) (zql (by decide)) (by decide)
 have c1 : zap gS pS [0,1]:=zgN (f:=[2,1,0,1,1,1]) zsg zmQ (by decide) (zql (by decide)) (by decide)
 have h0 : accR gS pS [0]=[0]:=zcG (o:=[]) (k:=0) c0
 have r0 : refR gS pS [0]=[]:=zh9 (o:=[]) (k:=0) c0
 have h:=zcG (g:=gS) (p:=pS) (o:=[0]) (k:=1) (by rw [h0]; exact c1)
 have h':=zh9 (g:=gS) (p:=pS) (o:=[0]) (k:=1) (by rw [h0]; exact c1)
 rw [h0] at h
 rw [r0] at h'
 exact ⟨h,h'⟩
def hS : Gr:=⟨12,[⟨0,1,1⟩,⟨1,2,3⟩,⟨1,3,3⟩,⟨1,4,3⟩,⟨1,5,3⟩,⟨1,6,3⟩,⟨1,7,3⟩,⟨1,8,3⟩,⟨1,9,3⟩,⟨1,10,3⟩,⟨1,11,3⟩,⟨2,1,3⟩,⟨2,3,3⟩,⟨3,1,3⟩,⟨3,4,3⟩,⟨4,1,3⟩,⟨4,5,3⟩,⟨5,1,3⟩,⟨5,6,3⟩,⟨6,1,3⟩,⟨6,7,3⟩,⟨7,1,3⟩,⟨7,8,3⟩,⟨8,1,3⟩,⟨8,9,3⟩,⟨9,1,3⟩,⟨9,10,3⟩,⟨10,1,3⟩,⟨10,11,3⟩,⟨11,1,3⟩,⟨11,2,3⟩],[]⟩
def lS : List Int:=[2,3,4,5,6,7,8,9,10,11]
theorem zxj : zcC gS pS 1=lS:=by decide
set_option maxRecDepth 100000 in
theorem zqp : GrOk hS:=GrOk.of (by decide) (by decide) (by decide) (fun i h=>by simp at h) (by decide +kernel) (by decide +kernel)
theorem fkS : zeD gS pS 1 lS:=by
 have h:=zfB (g:=gS) (p:=pS) (x:=1) 10
 rw [zxj] at h
 exact h
theorem zwM : za6 gS 1 lS=hS:=by
 have hr : GrOk (za6 gS 1 lS):=zom zsg fkS (by decide) (by decide) (by decide)
 refine zxE hr zqp rfl rfl fun e=>?_
 rw [zeS]
 have hp : (gS.edges++tieL 1 lS).Perm hS.edges:=by decide +kernel
 rw [← List.mem_append,hp.mem_iff]
theorem chkS : chkE gS pS=0:=zjJ.2 ⟨zsg,zmQ⟩
theorem zvt : zc7 gS pS 1 10=(hS,lS,0):=by
 unfold zc7
 rw [if_neg (by rw [chkS]; decide),if_neg (by decide),if_neg (by decide),zxj,if_neg (by decide)]
 have h : List.take (10 : Int).toNat lS=lS:=by decide
 rw [h,if_neg (by decide),zwM]
theorem zte : ∃ h : Gr,zc7 gS pS 1 2=(h,[2,3],0)∧h.edges.length=7:=by
 refine ⟨za6 gS 1 [2,3],?_,by rw [zrQ]; decide⟩
 unfold zc7
 rw [if_neg (by rw [chkS]; decide),if_neg (by decide),if_neg (by decide),zxj,if_neg (by decide)]
 have h : List.take (2 : Int).toNat lS=[2,3]:=by decide
 rw [h,if_neg (by decide)]
set_option maxRecDepth 100000 in
theorem ordH : ordL (zaj hS pS.lv) pS.seeds=[0,1]++lS:=by decide +kernel
set_option maxRecDepth 100000 in
set_option maxHeartbeats 4000000 in
theorem accH : accR hS pS ([0,1]++lS)=[0,1,2,3,4]:=by
 have c0 : zap hS pS [0]:=zgN (f:=[1,0,0,0,0,0,0,0,0,0,0,0,0,1,0,0,0,0,0,0,0,0,0,0,0,0,0,0,0,0,0,0,0,0,0,0,0,0,0,0,0,0,0,0,0]) zqp zmQ (by decide) (zql (by decide +kernel)) (by decide +kernel)
 have c1 : zap hS pS [0,1]:=zgN (f:=[2,1,0,0,0,0,0,0,0,0,0,0,0,1,1,1,0,0,0,0,0,0,0,0,0,0,0,0,0,0,0,0,0,0,0,0,0,0,0,0,0,0,0,0,0,0]) zqp zmQ (by decide) (zql (by decide +kernel)) (by decide +kernel)
 have c2 : zap hS pS [0,1,2]:=zgN (f:=[3,2,1,0,0,0,0,0,0,0,0,0,0,1,1,1,2,1,0,0,0,0,0,0,0,0,0,0,0,0,0,0,0,0,0,0,0,0,0,0,0,0,0,0,0,0,0]) zqp zmQ (by decide) (zql (by decide +kernel)) (by decide +kernel)
 have c3 : zap hS pS [0,1,2,3]:=zgN (f:=[4,3,2,0,0,0,0,0,0,0,0,0,0,1,1,1,1,3,1,1,0,0,0,0,0,0,0,0,0,0,0,0,0,0,0,0,0,0,0,0,0,0,0,0,0,0,0,0]) zqp zmQ (by decide) (zql (by decide +kernel)) (by decide +kernel)
 have c4 : zap hS pS [0,1,2,3,4]:=zgN (f:=[5,4,3,0,0,0,0,0,0,0,0,0,0,1,1,1,1,1,4,1,1,1,0,0,0,0,0,0,0,0,0,0,0,0,0,0,0,0,0,0,0,0,0,0,0,0,0,0,0]) zqp zmQ (by decide) (zql (by decide +kernel)) (by decide +kernel)
 have h0 : accR hS pS [0]=[0]:=zcG (o:=[]) (k:=0) c0
 have h1 : accR hS pS [0,1]=[0,1]:=by
  have h:=zcG (g:=hS) (p:=pS) (o:=[0]) (k:=1) (by rw [h0]; exact c1)
  rw [h0] at h
  exact h
 have h2 : accR hS pS [0,1,2]=[0,1,2]:=by
  have h:=zcG (g:=hS) (p:=pS) (o:=[0,1]) (k:=2) (by rw [h1]; exact c2)
  rw [h1] at h
  exact h
 have h3 : accR hS pS [0,1,2,3]=[0,1,2,3]:=by
  have h:=zcG (g:=hS) (p:=pS) (o:=[0,1,2]) (k:=3) (by rw [h2]; exact c3)
  rw [h2] at h
  exact h
 have h4 : accR hS pS [0,1,2,3,4]=[0,1,2,3,4]:=by
  have h:=zcG (g:=hS) (p:=pS) (o:=[0,1,2,3]) (k:=4) (by rw [h3]; exact c4)
  rw [h3] at h
  exact h
 obtain ⟨t,ht,hm⟩:=zi9 (g:=hS) (p:=pS) [5,6,7,8,9,10,11] [0,1,2,3,4]
 rw [h4] at ht
 have hb:=zrr (g:=gS) (p:=pS) (x:=1) (l:=lS) zsg zmQ (by decide) ⟨by decide,by decide⟩ fkS (by rw [zwM]; exact zqp)
 have hc : max 0 ((zaz gS pS).getD (1 : Int).toNat 0 - 1)=3:=by decide +kernel
 have e : [0,1]++lS=[0,1,2,3,4]++[5,6,7,8,9,10,11]:=rfl
 unfold inN ordR at hb
 rw [hc,zwM,ordH,e,ht,List.filter_append,List.length_append] at hb
 have h5 : ([0,1,2,3,4].filter fun k=>decide (k∈lS)).length=3:=by decide
 have h6 : t.filter (fun k=>decide (k∈lS))=t:=List.filter_eq_self.2 fun k hk=>by
  have:=hm k hk
  have h7 : ∀ k∈([5,6,7,8,9,10,11] : List Int),decide (k∈lS)=true:=by decide
  exact h7 k this
 rw [h5,h6] at hb
 have : t=[]:=List.eq_nil_of_length_eq_zero (by omega)
 rw [e,ht,this,List.append_nil]
theorem zzJ : zgO gS pS 1 10=(3,0,0):=by
 unfold zgO accG
 rw [zvt]
 simp only
 rw [if_neg (by decide),ordS,ordH,accS.1,accH]
 decide +kernel
section
variable {β : Type}
def fcN (n : Nat) (k : Nat→β) : β:=match n with | 0=>k 0 | p+1=>k (p+1)
def fcI (n : Int) (k : Int→β) : β:=match n with | .ofNat m=>fcN m fun m=>k (.ofNat m) | .negSucc m=>fcN m fun m=>k (.negSucc m)
def fcB (b : Bool) (k : Value→β) : β:=match b with | true=>k (.bool true) | false=>k (.bool false)
def fcV (v : Value) (k : Value→β) : β:=match v with
 | .int d n=>fcI n fun n=>k (.int d n)
 | .bool b=>fcB b k
 | v=>k v
noncomputable def fcL {α : Type} (f : α→(α→β)→β) (l : List α) : (List α→β)→β :=
 List.rec (motive:=fun _=>(List α→β)→β) (fun k=>k []) (fun x _ ih k=>f x fun x=>ih fun xs=>k (x::xs)) l
noncomputable def fcX (deep : Bool) (ih : AV→(AV→β)→β) (x : AV) (k : AV→β) : β:=match x with
 | .dead=>k .dead
 | .sc v=>fcV v fun v=>k (.sc v)
 | .agg cs=>fcL ih cs fun cs=>k (.agg cs)
 | .tup cs=>fcL ih cs fun cs=>k (.tup cs)
 | .vs s f rows=>match deep with | true=>fcN s fun s=>fcL (fcL ih) rows fun rows=>k (.vs s f rows) | false=>k (.vs s f rows)
 | .rs a b c=>fcN a fun a=>fcN b fun b=>fcN c fun c=>k (.rs a b c)
 | .rk a b c d=>fcN a fun a=>fcN b fun b=>fcN c fun c=>fcN d fun d=>k (.rk a b c d)
 | .pv cs=>match deep with | true=>fcL ih cs fun cs=>k (.pv cs) | false=>k (.pv cs)
 | .pt a b c=>fcN a fun a=>fcN b fun b=>fcN c fun c=>k (.pt a b c)
 | .mp a=>fcN a fun a=>k (.mp a)
 | .fn f a b=>fcL ih a fun a=>fcL ih b fun b=>k (.fn f a b)
 | .ifc t v=>ih v fun v=>k (.ifc t v)
noncomputable def fcA (deep : Bool) (n : Nat) : AV→(AV→β)→β :=
 Nat.rec (motive:=fun _=>AV→(AV→β)→β) (fun x k=>k x) (fun _ ih=>fcX deep ih) n
noncomputable def fcE (deep : Bool) (e : Ent) (k : Ent→β) : β:=match e with | ⟨s,rows,ro⟩=>fcN s fun s=>fcN ro fun ro=>fcL (fcL (fcA deep 5)) rows fun rows=>k ⟨s,rows,ro⟩
noncomputable def fcO (deep : Bool) (p : Nat × Option Ent) (k : Nat × Option Ent→β) : β:=match p with
 | (i,none)=>fcN i fun i=>k (i,none)
 | (i,some e)=>fcN i fun i=>fcE deep e fun e=>k (i,some e)
end
def modF (k : IntKind) : Nat:=match k with
 | .i8=>256 | .u8=>256 | .i16=>65536 | .u16=>65536 | .i32=>4294967296 | .u32=>4294967296 | .i64=>18446744073709551616 | .u64=>18446744073709551616
def zim (k : IntKind) : Nat:=match k with
 | .i8=>128 | .u8=>128 | .i16=>32768 | .u16=>32768 | .i32=>2147483648 | .u32=>2147483648 | .i64=>9223372036854775808 | .u64=>9223372036854775808
def cutF (sg : Bool) (M H r : Nat) : Int:=cond (sg && Nat.ble H r) (Int.negSucc (M - r - 1)) (Int.ofNat r)
def zlF (k : IntKind) (n : Int) : Int:=match n with
 | .ofNat m=>cond (Nat.blt m (zim k)) (.ofNat m) (cutF k.signed (modF k) (zim k) (m % modF k))
 | .negSucc m=>cutF k.signed (modF k) (zim k) (modF k - 1 - m % modF k)
def natF (k : IntKind) (n : Int) : Nat:=match n with
 | .ofNat m=>m % modF k
 | .negSucc m=>modF k - 1 - m % modF k
def kN (k : IntKind) : Nat:=match k with | .i8=>0 | .u8=>1 | .i16=>2 | .u16=>3 | .i32=>4 | .u32=>5 | .i64=>6 | .u64=>7
def ltF (a b : Int) : Bool:=match a with
 | .ofNat m=>(match b with | .ofNat n=>Nat.blt m n | .negSucc _=>false)
 | .negSucc m=>(match b with | .ofNat _=>true | .negSucc n=>Nat.blt n m)
def eqF (a b : Int) : Bool:=match a with
 | .ofNat m=>(match b with | .ofNat n=>Nat.beq m n | .negSucc _=>false)
 | .negSucc m=>(match b with | .ofNat _=>false | .negSucc n=>Nat.beq n m)
def minF (m n : Nat) : Nat:=cond (Nat.ble m n) m n
def shlF (k : IntKind) (a b : Int) : Option Value:=match b with
 | .ofNat n=>some (.int k (zlF k (a*Int.ofNat (Nat.pow 2 (minF n k.bits)))))
 | .negSucc _=>none
def shrF (k : IntKind) (a b : Int) : Option Value:=match b with
 | .ofNat n=>some (.int k (match a with | .ofNat m=>.ofNat (Nat.div m (Nat.pow 2 (minF n k.bits))) | .negSucc m=>(Int.negSucc m).fdiv (Int.ofNat (Nat.pow 2 (minF n k.bits)))))
 | .negSucc _=>none
def quoF (k : IntKind) (a b : Int) : Option Value:=match b with
 | .ofNat (n+1)=>some (.int k (zlF k (match a with | .ofNat m=>.ofNat (Nat.div m (n+1)) | .negSucc m=>(Int.negSucc m).tdiv (.ofNat (n+1)))))
 | b=>binV .quo (.int k a) (.int k b)
def remF (k : IntKind) (a b : Int) : Option Value:=match b with
 | .ofNat (n+1)=>some (.int k (match a with | .ofNat m=>.ofNat (Nat.mod m (n+1)) | .negSucc m=>(Int.negSucc m).tmod (.ofNat (n+1))))
 | b=>binV .rem (.int k a) (.int k b)
def intF (op : BinOp) (k : IntKind) (a b : Int) : Option Value:=match op with
 | .shl=>shlF k a b
 | .shr=>shrF k a b
 | .add=>some (.int k (zlF k (a+b)))
 | .sub=>some (.int k (zlF k (a - b)))
 | .mul=>some (.int k (zlF k (a*b)))
 | .quo=>quoF k a b
 | .rem=>remF k a b
 | .and=>some (.int k (zlF k (Int.ofNat (Nat.land (natF k a) (natF k b)))))
 | .or=>some (.int k (zlF k (Int.ofNat (Nat.lor (natF k a) (natF k b)))))
 | .xor=>some (.int k (zlF k (Int.ofNat (Nat.xor (natF k a) (natF k b)))))
 | .eql=>some (.bool (eqF a b))
 | .neq=>some (.bool (!eqF a b))
 | .lss=>some (.bool (ltF a b))
 | .gtr=>some (.bool (ltF b a))
 | .leq=>some (.bool (!ltF b a))
 | .geq=>some (.bool (!ltF a b))
 | op=>binV op (.int k a) (.int k b)
def mixF (op : BinOp) (k k' : IntKind) (a b : Int) : Option Value:=match op with
 | .shl=>shlF k a b
 | .shr=>shrF k a b
 | op=>binV op (.int k a) (.int k' b)
def binF (op : BinOp) (x y : Value) : Option Value:=match x with
 | .int k a=>(match y with
   | .int k' b=>cond (Nat.beq (kN k) (kN k')) (intF op k a b) (mixF op k k' a b)
   | y=>binV op (.int k a) y)
 | x=>binV op x y
inductive TS where
 | lf
 | nd (v : AV) (l r : TS)
structure RS where
 sz : Nat
 t : TS
 h : List (Nat × Option Ent)
 n : Nat
noncomputable def nthA (t : TS) : Nat→AV :=
 TS.rec (motive:=fun _=>Nat→AV) (fun _=>.dead) (fun v _ _ l r i=>Nat.rec (motive:=fun _=>AV) v (fun j _=>Bool.rec (motive:=fun _=>AV) (r (Nat.div j 2)) (l (Nat.div j 2)) (Nat.beq (Nat.mod j 2) 0)) i) t
noncomputable def zuN (n : Nat) : TS:=Nat.rec (motive:=fun _=>TS) .lf (fun _ t=>.nd .dead t t) n
noncomputable def lkB {α : Type} (l : List (Nat × α)) (j : Nat) : Option α :=
 List.rec (motive:=fun _=>Option α) none (fun p _ ih=>Bool.rec (motive:=fun _=>Option α) ih (some p.2) (Nat.beq p.1 j)) l
def zyQ {α : Type} : Option (Option α)→Option α | some x=>x | none=>none
noncomputable def hpB (h : List (Nat × Option Ent)) (id : Nat) : Option Ent:=zyQ (lkB h id)
noncomputable def RS.get (s : RS) (i : Nat) : AV:=nthA s.t i
noncomputable def RS.hp (s : RS) (id : Nat) : Option Ent:=hpB s.h id
abbrev Rr:=Option (zec × RS)
noncomputable def setA {γ : Type} (v : AV) (t : TS) : Nat→(TS→Option γ)→Option γ :=
 TS.rec (motive:=fun _=>Nat→(TS→Option γ)→Option γ) (fun _ _=>none)
  (fun x tl tr l r i k=>Nat.rec (motive:=fun _=>Option γ) (k (.nd v tl tr)) (fun j _=>Bool.rec (motive:=fun _=>Option γ) (r (Nat.div j 2) fun tr'=>k (.nd x tl tr')) (l (Nat.div j 2) fun tl'=>k (.nd x tl' tr)) (Nat.beq (Nat.mod j 2) 0)) i) t
noncomputable def argT {γ : Type} (xs : List AV) : Nat→TS→(TS→Option γ)→Option γ :=
 List.rec (motive:=fun _=>Nat→TS→(TS→Option γ)→Option γ) (fun _ t k=>k t) (fun x _ ih i t k=>setA x t i fun t'=>ih (i+1) t' k) xs
noncomputable def ersH (i : Nat) (l : List (Nat × Option Ent)) : (List (Nat × Option Ent)→Rr)→Rr :=
 List.rec (motive:=fun _=>(List (Nat × Option Ent)→Rr)→Rr) (fun k=>k []) (fun p _ ih k=>Bool.rec (motive:=fun _=>Rr) (ih fun l'=>k (p::l')) (ih k) (Nat.beq p.1 i)) l
def updK (p : Nat × Option Ent) (k : List (Nat × Option Ent)→Rr) (h : List (Nat × Option Ent)) : Rr:=match p with
 | (_,none)=>k h
 | (i,some e)=>k ((i,some e)::h)
noncomputable def updH (up h : List (Nat × Option Ent)) : (List (Nat × Option Ent)→Rr)→Rr :=
 List.rec (motive:=fun _=>(List (Nat × Option Ent)→Rr)→Rr) (fun k=>k h) (fun p _ ih k=>ih fun h=>ersH p.1 h (updK p k)) up
noncomputable def evXs (t : TS) (xs : List Opd) : List AV :=
 List.rec (motive:=fun _=>List AV) [] (fun x _ ih=>x.ev (nthA t)::ih) xs
def idsI : Nat→AV→List Nat
 | 0,_=>[]
 | n+1,x=>match x with
   | .rs a _ _=>[a]
   | .rk a _ _ _=>[a]
   | .pt a _ _=>[a]
   | .mp a=>[a]
   | .agg cs=>cs.flatMap (idsI n)
   | .tup cs=>cs.flatMap (idsI n)
   | .fn _ a b=>a.flatMap (idsI n)++b.flatMap (idsI n)
   | .ifc _ v=>idsI n v
   | _=>[]
def addI (l : List Nat) : List Nat→List Nat
 | []=>l
 | i::is=>if l.contains i then addI l is else addI (l++[i]) is
def idsE (h : Nat→Option Ent) (i : Nat) : List Nat:=match h i with | some e=>e.rows.flatMap (·.flatMap (idsI 4)) | none=>[]
def zw4 (h : Nat→Option Ent) : Nat→List Nat→List Nat
 | 0,l=>l
 | n+1,l=>let l':=addI l (l.flatMap (idsE h)); if l'.length=l.length then l else zw4 h n l'
def zkE : Nat→AV→Bool
 | 0,_=>false
 | n+1,x=>match x with
   | .dead=>true
   | .sc _=>true
   | .agg xs=>xs.all (zkE n)
   | .tup xs=>xs.all (zkE n)
   | .rs _ _ _=>true
   | .pt _ _ _=>true
   | .mp _=>true
   | _=>false
def zws : Option Ent→Bool
 | none=>true
 | some e=>e.rows.all (·.all (zkE 4))
def zo1 : List Nat→Bool
 | []=>true
 | i::is=>!is.contains i && zo1 is
def zv3 : List (Option Ent)→Option (List Ent)
 | []=>some []
 | none::_=>none
 | some e::l=>match zv3 l with | some es=>some (e::es) | none=>none
abbrev Cf:=FuncId→List AV→List Ent→Option (AV × List (Option Ent))
abbrev Rs3:=Option (AV × List Nat × List (Nat × Option Ent))
def scB (x : AV) : Bool:=match x with | .sc _=>true | _=>false
noncomputable def zvp (xs : List AV) : Bool:=List.rec (motive:=fun _=>Bool) true (fun x _ ih=>Bool.rec (motive:=fun _=>Bool) false ih (scB x)) xs
def zyU (ids : List Nat) (id : Nat) : List (Nat × Nat):=(ids++(List.range 8).map (id + ·)).zipIdx.map fun (a,b)=>(b,a)
def zrK (ids sn : List Nat) (id : Nat) (h : Nat→Option Ent) (raise : Bool) (hs' : List (Option Ent)) : List (Nat × Option Ent) :=
 (hs'.zipIdx.map fun (e,k)=>((ids++(List.range 8).map (id + ·)).getD k 0,e.map (zau (zyU ids id) [] (fun _=>none) 4)))++(if raise then sn.filterMap (fun i=>(h i).map fun e=>(i,some { e with ro:=e.rows.length })) else [])
def zqd (ids sn : List Nat) (np nh : Nat) (raise : Bool) (hs' : List (Option Ent)) : Bool :=
 zo1 ids && ((sn.all fun i=>!ids.contains i) && ((!raise || sn.all fun i=>Nat.ble np i) && Nat.ble hs'.length (nh+8)))
def zog (ids sn : List Nat) (np id nh : Nat) (h : Nat→Option Ent) (res : AV) (hs' : List (Option Ent)) (raise : Bool) : Rs3 :=
 cond (zqd ids sn np nh raise hs') (some (conv (zyU ids id) [] (fun _=>none) 4 res,ids++sn,zrK ids sn id h raise hs')) none
def zs9 (ids sn : List Nat) (np id nh : Nat) (h : Nat→Option Ent) : Option (AV × List (Option Ent))→Rs3
 | none=>none
 | some (res,hs')=>zog ids sn np id nh h res hs' (match sn with | []=>true | _=>!(zkE 5 res && hs'.all zws))
def zrl (id : Nat) : Option (AV × List (Option Ent))→Rs3
 | some (.sc v,[])=>some (.sc v,[],[])
 | some (res,hs')=>zog [] [] 0 id 0 (fun _=>none) res hs' true
 | none=>none
noncomputable def zpR (cf : Cf) (np id : Nat) (h : Nat→Option Ent) (f : FuncId) (xs : List AV) (deep : Bool) (ids sn : List Nat) : Rs3 :=
 fcL (fcA deep 6) (xs.map (conv ids.zipIdx sn h 4)) fun args =>
 match zv3 (ids.map fun i=>(h i).map (zau ids.zipIdx sn h 4)) with
 | none=>none
 | some hs0=>fcL (fcE deep) hs0 fun hs=>zs9 ids sn np id hs.length h (cf f args hs)
noncomputable def zrc (sp : List FuncId) (cf : Cf) (np id : Nat) (h : Nat→Option Ent) (f : FuncId) (xs : List AV) : Rs3 :=
 match zvp xs with
 | true=>zrl id (cf f xs [])
 | false =>
   fcL fcN (addI [] (xs.flatMap (idsI 4))) fun top =>
   fcL fcN (zw4 h 4 top) fun all =>
   match sp.contains f with
   | true=>zpR cf np id h f xs true [] all
   | false=>match Nat.ble all.length 16 with
     | true=>zpR cf np id h f xs false all []
     | false=>fcL fcN (all.filter fun i=>!top.contains i) fun sn=>zpR cf np id h f xs true top sn
def zqq : Bool→Bool→Nat→List AV→Option (Nat × Nat)
 | false,false,n,[]=>some (0,n)
 | true,false,n,[.sc (.int .i64 l)]=>if 0≤l then some (l.toNat,n) else none
 | false,true,_,[.sc (.int .i64 r)]=>if 0≤r then some (0,r.toNat) else none
 | true,true,_,[.sc (.int .i64 l),.sc (.int .i64 r)]=>if 0≤l∧0≤r then some (l.toNat,r.toNat) else none
 | _,_,_,_=>none
def zyE (h : Nat→Option Ent) (s l r : Nat) (hi : Bool) : AV→Rs3
 | .vs s' f rows=>if s'=s then some (.vs s (f && !hi) ((rows.drop l).take (r - l)),[],[]) else none
 | .rs i off _=>match h i with | some e=>if e.s=s then some (.rs i (off+l) (r - l),[i],[]) else none | none=>none
 | .sc (.slice none 0 0)=>some (.nilS,[],[])
 | _=>none
def e_mv : List AV→Rs3
 | [x]=>some (x,[],[])
 | _=>none
def zwn : List AV→Rs3
 | [.sc (.bool t),a,b]=>some (if t then a else b,[],[])
 | _=>none
def ztp (id : Nat) (z : List Value) : List AV→Rs3
 | []=>some (.pt id 0 0,[],[(id,some { s:=z.length,rows:=[z.map .sc] })])
 | _=>none
def zy0 (id : Nat) (s : Nat) : List AV→Rs3
 | [x]=>match cellsOf x with
   | some cs=>if cs.length=s then some (.pt id 0 0,[],[(id,some { s:=s,rows:=[cs] })]) else none
   | none=>none
 | _=>none
def zsW (z : List Value) (ps : List (Nat × Nat)) : List AV→Rs3
 | xs=>match zoR (z.map .sc) ps xs with | some cs=>some (.agg cs,[],[]) | none=>none
def zxG (id : Nat) (s : Nat) (len : Nat) (z : List Value) (ps : List Nat) : List AV→Rs3
 | xs=>match zkq s (List.replicate len (z.map .sc)) ps xs with
   | some rows=>if z.length=s then some (.rs id 0 len,[],[(id,some { s:=s,rows:=rows })]) else none
   | none=>none
def e_ld (h : Nat→Option Ent) (ag : Bool) (s : Nat) : List AV→Rs3
 | [x]=>match zd4 h x with
   | some cs=>if s≤cs.length then some (if ag then .agg (cs.take s) else cs.headD .dead,zb0 x,[]) else none
   | none=>none
 | _=>none
def e_st (h : Nat→Option Ent) (s : Nat) : List AV→Rs3
 | [.pt i k j,x]=>match h i with
   | some e=>match e.rows[k]?,cellsOf x with
     | some row,some cs=>if e.ro≤k∧cs.length=s∧j+s≤row.length then some (.dead,[i],[(i,some { e with rows:=e.rows.set k (zaZ row j cs) })]) else none
     | _,_=>none
   | none=>none
 | _=>none
def zy6 : List AV→Rs3
 | [.pt a b c]=>some (.pt a b c,[],[])
 | [.pv cs]=>some (.pv cs,[],[])
 | [.ifc t v]=>some (.ifc t v,[],[])
 | _=>none
def zyr (op : BinOp) : List AV→Rs3
 | [.sc a,.sc b]=>match binF op a b with | some v=>some (.sc v,[],[]) | none=>none
 | _=>none
def zyz (neg : Bool) : List AV→Rs3
 | [.sc (.bool a),.sc (.bool b)]=>some (.sc (.bool ((a == b) != neg)),[],[])
 | _=>none
def zxV (neg : Bool) (ks : List Nat) : List AV→Rs3
 | [.agg xs,.agg ys]=>match eqs ks xs ys with | some b=>some (.sc (.bool (b != neg)),[],[]) | none=>none
 | _=>none
def zwf (neg : Bool) : List AV→Rs3
 | [.vs _ _ (_::_)]=>some (.sc (.bool neg),[],[])
 | [.sc (.slice a _ _)]=>some (.sc (.bool (a.isNone != neg)),[],[])
 | _=>none
def e_un (op : UnOp) : List AV→Rs3
 | [.sc a]=>match unV op a with | some v=>some (.sc v,[],[]) | none=>none
 | _=>none
def zy7 (k : IntKind) : List AV→Rs3
 | [.sc (.int _ n)]=>some (.sc (.int k (zlF k n)),[],[])
 | _=>none
def zxF (h : Nat→Option Ent) : List AV→Rs3
 | [x]=>match zbD 1 h x with
   | some rows=>match zd0 rows with | some bs=>some (.sc (.string ⟨bs.toArray⟩),zb0 x,[]) | none=>none
   | none=>none
 | _=>none
def zyA (f : FuncId) : List AV→Rs3
 | xs=>some (.fn (.func f) [] xs,[],[])
def zyn (f : FuncId) : List AV→Rs3
 | xs=>some (.fn (.func f) xs [],[],[])
def zx4 (id : Nat) (s : Nat) (bytes : Nat) (z : List Value) : List AV→Rs3
 | [.sc (.int _ l),.sc (.int _ c)]=>if 0≤l∧l≤c∧c*bytes≤140737488355328∧c≤140737488355328∧z.length=s then some (.rs id 0 l.toNat,[],[(id,some { s:=s,rows:=List.replicate l.toNat (z.map .sc) })]) else none
 | _=>none
def zxJ (h : Nat→Option Ent) (s : Nat) (lo : Bool) (hi : Bool) : List AV→Rs3
 | x::bs=>match lenOf x with
   | none=>none
   | some n=>match zqq lo hi n bs with
     | none=>none
     | some (l,r)=>if l≤r∧r≤n then zyE h s l r hi x else none
 | _=>none
def zyk (off : Nat) : List AV→Rs3
 | [.pv cs]=>if off≤cs.length then some (.pv (cs.drop off),[],[]) else none
 | [.pt i k j]=>some (.pt i k (j+off),[],[])
 | _=>none
def zy2 (ag : Bool) (off : Nat) (s : Nat) : List AV→Rs3
 | [.agg cs]=>if off+s≤cs.length then some (if ag then .agg ((cs.drop off).take s) else cs.getD off .dead,[],[]) else none
 | _=>none
def zxN (h : Nat→Option Ent) (s : Nat) : List AV→Rs3
 | [.vs s' _ rows,.sc (.int _ n)]=>if s'=s∧0≤n then match rows[n.toNat]? with | some row=>some (.pv row,[],[]) | none=>none else none
 | [.rs i off len,.sc (.int _ n)]=>match h i with | some e=>if 0≤n∧n<len∧e.s=s then some (.pt i (off+n.toNat) 0,[i],[]) else none | none=>none
 | _=>none
def zyC (l : Nat) (s : Nat) : List AV→Rs3
 | [.pt i k j,.sc (.int _ n)]=>if 0≤n∧n<l then some (.pt i k (j+n.toNat*s),[],[]) else none
 | [.pv cs,.sc (.int _ n)]=>if 0≤n∧n<l∧l*s≤cs.length then some (.pv (cs.drop (n.toNat*s)),[],[]) else none
 | _=>none
def zyL : List AV→Rs3
 | [.sc (.string b),.sc (.int _ n)]=>if 0≤n then match b.data.toList[n.toNat]? with | some c=>some (.sc (.int .u8 c.toNat),[],[]) | none=>none else none
 | _=>none
def zyi (i : Nat) : List AV→Rs3
 | [.tup vs]=>match vs[i]? with | some v=>some (v,[],[]) | none=>none
 | _=>none
noncomputable def zwd (sp : List FuncId) (cf : Cf) (np id : Nat) (h : Nat→Option Ent) : List AV→Rs3
 | .fn (.func f) first capt::args=>zrc sp cf np id h f (first++args++capt)
 | _=>none
noncomputable def zyl (sp : List FuncId) (cf : Cf) (np id : Nat) (h : Nat→Option Ent) (tbl : List (TypeId × FuncId)) : List AV→Rs3
 | .ifc t x::args=>match lkp tbl t with | some f=>zrc sp cf np id h f (x::args) | none=>none
 | _=>none
def zyG (id : Nat) (h : Nat→Option Ent) (s : Nat) (bytes : Nat) : List AV→Rs3
 | [x,y]=>match x with
   | .rk _ _ _ _=>none
   | x=>match zbD s h y with
     | some new=>match zcf s h new x with
       | some old=>if (old.1.length+new.length)*bytes≤140737488355328∧old.1.length+new.length≤140737488355328 then some (.rs id 0 (old.1.length+new.length),zb0 x++zb0 y,(id,some { s:=s,rows:=old.1++new,ro:=old.2.1 })::old.2.2) else none
       | none=>none
     | none=>none
 | _=>none
def zv8 (id : Nat) (h : Nat→Option Ent) : List AV→Rs3
 | [x,.sc (.string b)]=>match zcf 1 h (zei b) x with
   | some old=>if old.1.length+b.size≤140737488355328 then some (.rs id 0 (old.1.length+b.size),zb0 x,(id,some { s:=1,rows:=old.1++zei b,ro:=old.2.1 })::old.2.2) else none
   | none=>none
 | _=>none
def zyg (id : Nat) (s : Nat) (bytes : Nat) (z : List Value) : List AV→Rs3
 | [.sc (.slice none 0 0),.sc (.int _ n)]=>if z.length=s∧0<n∧n.toNat*bytes≤140737488355328∧n.toNat≤140737488355328 then some (.rs id 0 n.toNat,[],[(id,some { s:=s,rows:=List.replicate n.toNat (z.map .sc) })]) else none
 | _=>none
def zyN : List AV→Rs3
 | [x]=>match lenOf x with | some n=>some (AV.I n,[],[]) | none=>none
 | _=>none
def zwi : List AV→Rs3
 | [.sc (.string b)]=>some (AV.I b.size,[],[])
 | _=>none
def zxC : List AV→Rs3
 | [.rk _ _ _ c]=>some (AV.I c,[],[])
 | [.sc (.slice none 0 0)]=>some (AV.I 0,[],[])
 | _=>none
def zyP (h : Nat→Option Ent) (s : Nat) : List AV→Rs3
 | [.rs i off len,y]=>match h i,zbD s h y with
   | some e,some new=>if e.s=s∧e.ro≤off∧off+len≤e.rows.length then some (AV.I (min new.length len : Nat),i::zb0 y,[(i,some { e with rows:=e.rows.take off++new.take (min new.length len)++e.rows.drop (off+min new.length len) })]) else none
   | _,_=>none
 | _=>none
def zyZ (h : Nat→Option Ent) (s : Nat) (z : List Value) : List AV→Rs3
 | [.rs i off len]=>match h i with
   | some e=>if e.s=s∧z.length=s∧e.ro≤off∧off+len≤e.rows.length then some (.dead,[i],[(i,some { e with rows:=e.rows.take off++List.replicate len (z.map .sc)++e.rows.drop (off+len) })]) else none
   | none=>none
 | _=>none
def zyS : List AV→Rs3
 | [.sc (.int k a),.sc (.int _ b)]=>some (.sc (.int k (if a<b then b else a)),[],[])
 | _=>none
def zy9 : List AV→Rs3
 | [.sc (.int k a),.sc (.int _ b)]=>some (.sc (.int k (if b<a then b else a)),[],[])
 | _=>none
def zx7 (t : TypeId) : List AV→Rs3
 | [x]=>some (.ifc t x,[],[])
 | _=>none
def zyH (id : Nat) : List AV→Rs3
 | []=>some (.mp id,[],[(id,some { s:=0,rows:=[] })])
 | _=>none
def zyd (h : Nat→Option Ent) (z : Value) (ok : Bool) : List AV→Rs3
 | [.mp i,.sc (.int .i64 n)]=>match h i with
   | some e=>if e.s=0 then some (if ok then .tup [(ze0 n e.rows).getD (toAV z),.sc (.bool (ze0 n e.rows).isSome)] else (ze0 n e.rows).getD (toAV z),[i],[]) else none
   | none=>none
 | _=>none
def zyv (h : Nat→Option Ent) : List AV→Rs3
 | [.mp i,.sc (.int .i64 n),x]=>match h i with
   | some e=>if e.s=0 then some (.dead,[i],[(i,some { e with rows:=mset n x e.rows })]) else none
   | none=>none
 | _=>none
def zxL (h : Nat→Option Ent) : List AV→Rs3
 | [.mp i,.sc (.int .i64 n)]=>match h i with
   | some e=>if e.s=0 then some (.tup [],[i],[(i,some { e with rows:=mdel n e.rows,ro:=0 })]) else none
   | none=>none
 | _=>none
def zyh (l : Nat) : List AV→Rs3
 | [.agg cs,.sc (.int _ n)]=>if 0≤n∧n<l∧l≤cs.length then some (cs.getD n.toNat .dead,[],[]) else none
 | _=>none
noncomputable def aEv (sp : List FuncId) (cf : Cf) (np id : Nat) (h : Nat→Option Ent) (op : AOp) (xs : List AV) : Rs3:=match op with
 | .mv=>e_mv xs
 | .pick=>zwn xs
 | .alloc z'=>ztp id z' xs
 | .box s'=>zy0 id s' xs
 | .build z' ps'=>zsW z' ps' xs
 | .bsl s' len' z' ps'=>zxG id s' len' z' ps' xs
 | .ld ag' s'=>e_ld h ag' s' xs
 | .st s'=>e_st h s' xs
 | .nil=>zy6 xs
 | .bin op'=>zyr op' xs
 | .beq neg'=>zyz neg' xs
 | .aeq neg' ks'=>zxV neg' ks' xs
 | .snil neg'=>zwf neg' xs
 | .un op'=>e_un op' xs
 | .cvt k'=>zy7 k' xs
 | .b2s=>zxF h xs
 | .mkf f'=>zyA f' xs
 | .mkb f'=>zyn f' xs
 | .mks s' bytes' z'=>zx4 id s' bytes' z' xs
 | .slc s' lo' hi' mx'=>match mx' with | false=>zxJ h s' lo' hi' xs | true=>none
 | .fad off'=>zyk off' xs
 | .fld ag' off' s'=>zy2 ag' off' s' xs
 | .iad s'=>zxN h s' xs
 | .iaa l' s'=>zyC l' s' xs
 | .ixs=>zyL xs
 | .ixv l'=>zyh l' xs
 | .ext i'=>zyi i' xs
 | .call=>zwd sp cf np id h xs
 | .inv tbl'=>zyl sp cf np id h tbl' xs
 | .app s' bytes'=>zyG id h s' bytes' xs
 | .apps=>zv8 id h xs
 | .apz s' bytes' z'=>zyg id s' bytes' z' xs
 | .len=>zyN xs
 | .lens=>zwi xs
 | .cap=>zxC xs
 | .cpy s'=>zyP h s' xs
 | .clr s' z'=>zyZ h s' z' xs
 | .mx2=>zyS xs
 | .mn2=>zy9 xs
 | .mki t'=>zx7 t' xs
 | .mkm=>zyH id xs
 | .mlk z' ok'=>zyd h z' ok' xs
 | .mup=>zyv h xs
 | .mdl=>zxL h xs
 | _=>none
def zwX (next : TS→List (Nat × Option Ent)→List (List Nat × List Nat)→Rr) (h : List (Nat × Option Ent)) (tr : List (List Nat × List Nat)) (t : TS) : Rr:=next t h tr
noncomputable def zwo (sz : Nat) (dst : Option Nat) (next : TS→List (Nat × Option Ent)→List (List Nat × List Nat)→Rr) (t : TS) (tr : List (List Nat × List Nat)) (v : AV) (h : List (Nat × Option Ent)) : Rr :=
 match dst with
 | none=>next t h tr
 | some d=>match Nat.blt d sz with
   | true=>fcA false 6 v fun v=>setA v t d (zwX next h tr)
   | false=>none
noncomputable def zv4 (sz : Nat) (dst : Option Nat) (next : TS→List (Nat × Option Ent)→List (List Nat × List Nat)→Rr) (t : TS) (h : List (Nat × Option Ent)) (tr : List (List Nat × List Nat)) (v : AV) (rd : List Nat) (up : List (Nat × Option Ent)) : Rr :=
 updH up h (zwo sz dst next t (tr++[(rd,up.map (·.1))]) v)
noncomputable def zxP (sz : Nat) (dst : Option Nat) (next : TS→List (Nat × Option Ent)→List (List Nat × List Nat)→Rr) (t : TS) (h : List (Nat × Option Ent)) (tr : List (List Nat × List Nat)) : Rs3→Rr
 | none=>none
 | some (v,rd,up)=>fcL (fcO false) up (zv4 sz dst next t h tr v rd)
noncomputable def opGo (sp : List FuncId) (cf : Cf) (sz np id : Nat) (o : zb7) (next : TS→List (Nat × Option Ent)→List (List Nat × List Nat)→Rr) (t : TS) (h : List (Nat × Option Ent)) (tr : List (List Nat × List Nat)) : Rr :=
 zxP sz o.dst next t h tr (aEv sp cf np id (hpB h) o.op (evXs t o.xs))
def eqOB : Option Bool→Bool→Bool
 | some true,true=>true
 | some false,false=>true
 | _,_=>false
noncomputable def zv5 (sz : Nat) (dst : Option Nat) (next : TS→List (Nat × Option Ent)→List (List Nat × List Nat)→Rr) (t : TS) (h : List (Nat × Option Ent)) (tr : List (List Nat × List Nat)) : Rr :=
 match dst with
 | none=>next t h (tr++[([],[])])
 | some d=>match Nat.blt d sz with
   | true=>setA (.tup []) t d (zwX next h (tr++[([],[])]))
   | false=>none
noncomputable def opGd (sp : List FuncId) (cf : Cf) (sz np id : Nat) (o : zb7) (next : TS→List (Nat × Option Ent)→List (List Nat × List Nat)→Rr) (t : TS) (h : List (Nat × Option Ent)) (tr : List (List Nat × List Nat)) (want : Bool) : Option (Option Bool)→Rr
 | none=>none
 | some b=>match eqOB b want with
   | true=>opGo sp cf sz np id o next t h tr
   | false=>zv5 sz o.dst next t h tr
noncomputable def ztS (sp : List FuncId) (cf : Cf) (sz np id : Nat) (o : zb7) (next : TS→List (Nat × Option Ent)→List (List Nat × List Nat)→Rr) (t : TS) (h : List (Nat × Option Ent)) (tr : List (List Nat × List Nat)) : Rr :=
 match o.guard with
 | none=>opGo sp cf sz np id o next t h tr
 | some (g,want)=>opGd sp cf sz np id o next t h tr want (gdV (nthA t g))
noncomputable def znR (sp : List FuncId) (cf : Cf) (sz np : Nat) (ops : List zb7) : Nat→(Nat→TS→List (Nat × Option Ent)→List (List Nat × List Nat)→Rr)→TS→List (Nat × Option Ent)→List (List Nat × List Nat)→Rr :=
 List.rec (motive:=fun _=>Nat→(Nat→TS→List (Nat × Option Ent)→List (List Nat × List Nat)→Rr)→TS→List (Nat × Option Ent)→List (List Nat × List Nat)→Rr)
  (fun id k t h tr=>k id t h tr)
  (fun o _ ih id k t h tr=>fcN (id+8) fun id'=>ztS sp cf sz np id o (ih id' k) t h tr) ops
noncomputable def zrS (body : RS→Rr) (n : Nat) : RS→Rr :=
 Nat.rec (motive:=fun _=>RS→Rr) (fun _=>none) (fun _ ih s=>match body s with
  | some (.normal,s')=>ih s'
  | r=>r) n
def zs1 (draw : Bool) (ops : List zb7) (after : List (List Nat)) (sz n : Nat) (t : TS) (h : List (Nat × Option Ent)) (tr : List (List Nat × List Nat)) : Rr :=
 match draw with
 | false=>some (.normal,⟨sz,t,h,n⟩)
 | true=>match zeK ops after tr with
   | true=>some (.normal,⟨sz,t,h,n⟩)
   | false=>none
def seqK (b : RS→Rr) : Rr→Rr
 | some (.normal,s)=>b s
 | r=>r
def zwy (a b : RS→Rr) (s : RS) : AV→Rr
 | .sc (.bool true)=>a s
 | .sc (.bool false)=>b s
 | _=>none
def zuO (id : Nat) : Rr→Rr
 | some (.exit i,s)=>match Nat.beq i id with | true=>some (.normal,s) | false=>some (.exit i,s)
 | r=>r
noncomputable def regK (sp : List FuncId) (cf : Cf) (np : Nat) (draw : Bool) (ops : List zb7) (after : List (List Nat)) : RS→Rr
 | ⟨sz,t,h,n⟩=>znR sp cf sz np ops n (zs1 draw ops after sz) t h []
noncomputable def zkO (sp : List FuncId) (cf : Cf) (np lf : Nat) (c : zfo) : RS→Rr :=
 zfo.rec (motive:=fun _=>RS→Rr)
  (fun s=>some (.normal,s))
  (fun draw ops after=>regK sp cf np draw ops after)
  (fun _ _ a b s=>seqK b (a s))
  (fun c _ _ a b s=>zwy a b s (c.ev (nthA s.t)))
  (fun id _ a s=>zuO id (a s))
  (fun _ a s=>zrS a lf s)
  (fun id s=>some (.exit id,s))
  (fun s=>some (.ret,s))
  (fun _=>none) c
noncomputable def zqM (s : RS) (r : Nat × Option (Bool × Nat)) : Option AV :=
 match r with
 | (t,none)=>some (s.get t)
 | (t,some (ag,n))=>match zd4 s.hp (s.get t) with
   | some cs=>if n≤cs.length∧(ag=true∨n=1) then some (if ag then .agg (cs.take n) else cs.headD .dead) else none
   | none=>none
noncomputable def zmh (s : RS) : List (Nat × Option (Bool × Nat))→Option (List AV)
 | []=>some []
 | r::rs=>match zqM s r,zmh s rs with
   | some v,some vs=>some (v::vs)
   | _,_=>none
noncomputable def zrt (np : Nat) (s : RS) (vs : List AV) (small : Bool) (ex sn : List Nat) : Option (AV × List (Option Ent)) :=
 match zo1 (List.range np++ex) && ((ex.all fun i=>Nat.ble np i) && sn.all fun i=>!ex.contains i && Nat.ble np i) with
 | true =>
   fcA (!small) 6 (conv (List.range np++ex).zipIdx sn s.hp 4 (resV vs)) fun r =>
   fcL (fun (o : Option Ent) k=>match o with | none=>k none | some e=>fcE (!small) e fun e=>k (some e)) ((List.range np++ex).map fun i=>(s.hp i).map (zau (List.range np++ex).zipIdx sn s.hp 4)) fun es=>some (r,es)
 | false=>none
noncomputable def ztW (rs : List (Nat × Option (Bool × Nat))) (np : Nat) (s : RS) : Option (AV × List (Option Ent)) :=
 match zmh s rs with
 | none=>none
 | some vs =>
   fcL fcN (addI [] (idsI 5 (resV vs))) fun top =>
   fcL fcN ((zw4 s.hp 4 (addI (List.range np) top)).filter fun i=>Nat.ble np i) fun new =>
   match Nat.ble new.length 8 with
   | true=>zrt np s vs true new []
   | false =>
     fcL fcN (top.filter fun i=>Nat.ble np i) fun ex =>
     fcL fcN (new.filter fun i=>!ex.contains i) fun sn=>zrt np s vs false ex sn
noncomputable def zwu (rs : List (Nat × Option (Bool × Nat))) (np : Nat) : Rr→Option (AV × List (Option Ent))
 | some (.normal,s)=>ztW rs np s
 | some (.ret,s)=>ztW rs np s
 | _=>none
noncomputable def zvM (sp : List FuncId) (cf : Cf) (lf : Nat) (af : AFun) (args : List AV) (hs : List Ent) : Option (AV × List (Option Ent)) :=
 match Nat.ble args.length af.nt && Nat.ble hs.length 16 with
 | true =>
   fcL (fcA false 6) args fun args =>
   argT args 0 (zuN 9) fun t =>
   fcL (fcO false) (hs.zipIdx.map fun (e,k)=>(k,some e)) fun h =>
   fcN hs.length fun np=>zwu af.res np (zkO sp cf np lf af.code ⟨af.nt,t,h,16⟩)
 | false=>none
noncomputable def evT (tbl : List (FuncId × AFun)) (k : AFun→Option (AV × List (Option Ent))) (f : FuncId) : Option (AV × List (Option Ent)) :=
 match lkB tbl f with
 | some af=>k af
 | none=>none
noncomputable def evX (x y : Option (AV × List (Option Ent))) : Option (AV × List (Option Ent)):=match x with
 | some r=>some r
 | none=>y
noncomputable def evN (sp : List FuncId) (ext : Cf) (tbl : List (FuncId × AFun)) (lf d : Nat) : Cf :=
 Nat.rec (motive:=fun _=>Cf) (fun _ _ _=>none) (fun _ ih f args hs=>evX (ext f args hs) (evT tbl (fun af=>zvM sp ih lf af args hs) f)) d
end Go.Proofs.YtkngdgplbojdlaaGreat
