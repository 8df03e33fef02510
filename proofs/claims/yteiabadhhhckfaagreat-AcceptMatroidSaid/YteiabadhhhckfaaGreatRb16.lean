/- Texts of this claim,merged. -/
import Derived.Test.YteiabadhhhckfaaGreatRb15
set_option linter.unusedSimpArgs false
set_option linter.unusedVariables false
set_option linter.unusedSectionVars false
namespace Go.Proofs.YteiabadhhhckfaaGreat
open Go
structure SetS (g : Gr) (p : Pol) (a : List Int) : Prop where
 pair : a.Pairwise (· < ·)
 sub : ∀ x ∈ a,x ∈ ordL (zaj g p.lv) p.seeds
 can : zaq g p a
theorem SetS.nil {g : Gr} {p : Pol} (hg : GrOk g) (hp : za3 g.size p) : SetS g p []:=⟨List.Pairwise.nil,by simp,zaq.nil hg hp⟩
theorem zi5 {g : Gr} {p : Pol} (hg : GrOk g) {a : List Int} (h1 : a.Pairwise (· < ·)) (h2 : ∀ x ∈ a,x ∈ ordL (zaj g p.lv) p.seeds) : zbb g p a ↔ zaq g p a:=by
 have hr : ∀ x ∈ a,0 ≤ x ∧ x < g.size:=fun x hx=>by have h3:=zbx (h2 x hx); exact h3
 exact ⟨fun h=>h.2.2,fun hc=>⟨zdU h1 hr,fun k hk=>((zg6 (hg.level p.lv)).1 (h2 k hk)).2,hc⟩⟩
theorem SetS.served {g : Gr} {p : Pol} (hg : GrOk g) {a : List Int} (h : SetS g p a) : zbb g p a:=(zi5 hg h.pair h.sub).2 h.can
theorem SetS.put {g : Gr} {p : Pol} {a : List Int} {k : Int} (h : SetS g p a) (hk : k ∈ ordL (zaj g p.lv) p.seeds) (hc : zbb g p (putL a k)) : SetS g p (putL a k) :=
 ⟨zgC h.pair,fun x hx=>(zfE.1 hx).elim (h.sub x) (fun e=>e ▸ hk),hc.2.2⟩
theorem SetS.len {g : Gr} {p : Pol} (hg : GrOk g) {a : List Int} (h : SetS g p a) : a.length ≤ 64 :=
 Nat.le_trans (zbc (zcf h.pair) h.sub) (zg9 hg p)
theorem SetS.sublist {g : Gr} {p : Pol} (hg : GrOk g) (hp : za3 g.size p) {a b : List Int} (h : SetS g p b) (hs : a.Sublist b) : SetS g p a :=
 ⟨h.pair.sublist hs,fun x hx=>h.sub x (hs.subset hx),h.can.sublist hg hp (zfA hg hp h.sub) hs⟩
theorem SetS.more {g : Gr} {p : Pol} (hg : GrOk g) (hp : za3 g.size p) {a b : List Int} (ha : SetS g p a) (hb : SetS g p b) (hl : a.length < b.length) : ∃ k ∈ b,k ∉ a ∧ zbb g p (putL a k):=by
 have hao:=zfA hg hp ha.sub
 have hbo:=zfA hg hp hb.sub
 obtain ⟨k,hk,hka,hc⟩:=zrX hg hp hao hbo (zcf hb.pair) ha.can hb.can hl
 refine ⟨k,hk,hka,?_⟩
 have hpair:=zgC (k:=k) ha.pair
 have hsub : ∀ x ∈ putL a k,x ∈ ordL (zaj g p.lv) p.seeds:=fun x hx=>(zfE.1 hx).elim (ha.sub x) (fun e=>e ▸ hb.sub k hk)
 rw [zi5 hg hpair hsub]
 have hkk : zaS g p (a ++ [k]):=hao.append (hbo.sub fun x hx=>by rw [List.mem_singleton] at hx; subst hx; exact hk)
 refine hc.perm hg hp hkk ?_
 have hn : (a ++ [k]).Nodup:=List.nodup_append.2 ⟨zcf ha.pair,by simp,fun x hx y hy=>by
  rw [List.mem_singleton] at hy
  subst hy
  rintro rfl
  exact hka hx⟩
 rw [List.perm_ext_iff_of_nodup hn (zcf hpair)]
 intro x
 rw [zfE,List.mem_append,List.mem_singleton]
section
variable {P : Program} {np id : Nat} {h : Nat → Option Ent} {K : AV → List Nat → List (Nat × Option Ent) → Prop}
theorem ztJ {s : Nat} {f : Bool} {rows : List (List AV)} {l : Int} (k : Nat) (e : l = k) (hk : k ≤ rows.length) (hK : K (.vs s f (rows.drop k)) [] []) : aK P np id (.slc s true false false) [.vs s f rows,.sc (.int .i64 l)] h K:=by
 subst e
 rw [ztI]
 exact ⟨hk,rfl,hK⟩
end
structure MoSt where
 i : Nat
 m : Bool
structure MtSt where
 i : Nat
 a : List Int
 b : List Int
 d : Nat
set_option maxRecDepth 100000 in
set_option maxHeartbeats 8000000 in
open Classical in
theorem zeZ (L : List Int) : zai Tryz.prog zdg [ints L] [] (.B true) []:=by
 refine zfQ.acalls (Nat.le_of_ble_eq_true rfl) (Nat.le_of_ble_eq_true rfl) (Nat.le_refl _) ?_
 show awp _ 0 _ _ ⟨136,[(0,ints L)],[],16⟩
 have hlight:=zod L
 refine rx (s:=?s1) [0] [] [] rfl ?o1 ?q1
 case o1=>simp; rfl
 refine zaa ?_
 refine zab ⟨136,[(0,ints L),(16,.B (!decide (L.length ≤ 400)))],[],100⟩ rfl ?_ ?_
 ·simp
  refine zal hlight (by simp) ?_
  simp
  exact Le.go [] [] rfl rfl (by simp <;> exact wkB (by rw [Bool.eq_iff_iff]; simp)) (by simp)
 refine zac _ rfl (fun h3=>?_) fun h3=>?_
 ·refine rx (s:=?s4) [2] [] [] rfl ?o4 ?q4
  case o4=>simp; refine zal zed (by simp) ?_; simp; rfl
  refine zah ?_
  exact ⟨.inr rfl,zam.one (by simp)⟩
 have h3 : L.length ≤ 400:=by simpa using h3
 obtain ⟨g,b1,⟨hg,hg2,hg9,hb1⟩,hcg⟩:=zr5 L h3
 obtain ⟨⟨p,b2⟩,⟨hp1,hp2,hp3,hb2⟩,hcp⟩:=zn5 L b1 g h3 hb1 (by omega) (by omega)
 simp only at hp1 hp2 hp3 hb2 hcp
 have hel:=hg.edges_le
 have hgl:=hg.gone_le
 refine zae ?_
 refine zab ⟨136,[(3,.pt 20 0 0)],[(20,some (dice L 0))],200⟩ rfl ?_ ?_
 ·simp
  refine zaQ (zpH L) (by simp) ?_
  simp
  exact Le.go [(108,20)] [] rfl rfl (by simp) (by simp)
 refine zab ⟨136,[(3,.pt 20 0 0),(4,.pv (gC g))],[(20,some (dice L b1))],300⟩ rfl ?_ ?_
 ·simp
  refine zbd (i:=20) rfl (e':=dice L 0) (by simp) hcg (by simp) (by simp) ?_
  simp
  exact Le.go [(20,20)] [216] rfl rfl (by simp) (by simp)
 refine zab ⟨136,[(3,.pt 20 0 0),(4,.pv (gC g)),(5,.pv (pC p))],[(20,some (dice L b2))],400⟩ rfl ?_ ?_
 ·simp
  refine zbd (i:=20) rfl (e':=dice L b1) (by simp) hcp (by simp) (by simp) ?_
  simp
  exact Le.go [(20,20)] [324] rfl rfl (by simp) (by simp)
 have hlev:=zc6 g p.lv (by omega) (by omega)
 have hord:=zf1 (g:=zaj g p.lv) (S:=p.seeds) (hg.level p.lv) (by omega)
 have hol:=zg9 hg p
 have hser:=fun (a : List Int) (h : a.length ≤ 1000)=>zck g p a hg hp1 (by omega) (by omega)
 have hS0 : SetS g p []:=SetS.nil hg hp1
 have hSput:=fun {a : List Int} {k : Int} (h : SetS g p a)=>h.put (k:=k)
 have hSsub:=fun {a : List Int} (h : SetS g p a)=>h.sub
 obtain ⟨o,ho⟩ : ∃ o,o = ordL (zaj g p.lv) p.seeds:=⟨_,rfl⟩
 have hor : ∀ k ∈ o,0 ≤ k ∧ k < g.size:=fun k hk=>by rw [ho] at hk; have h:=zbx hk; exact h
 rw [← ho] at hord hol
 have hSput : ∀ {a : List Int} {k : Int},SetS g p a → k ∈ o → zbb g p (putL a k) → SetS g p (putL a k):=fun h hk hc=>h.put (ho ▸ hk) hc
 refine zat ⟨136,[(3,.pt 20 0 0),(4,.pv (gC g)),(5,.pv (pC p)),(6,ints o)],[(20,some (dice L b2))],500⟩ rfl ?_ ?_
 ·simp
  refine zal hlev (by simp) ?_
  simp
  refine zaQ hord (by simp) ?_
  simp
  exact ⟨rfl,Le.go [(20,20)] [448] rfl rfl (by simp [fcd,zao]) (by simp)⟩
 refine zab ⟨136,[(3,.pt 20 0 0),(4,.pv (gC g)),(5,.pv (pC p)),(6,ints o),(7,.vs 1 false []),(8,.vs 1 false [])],[(20,some (dice L b2))],600⟩ rfl ?_ ?_
 ·simp
  exact Le.go [(20,20)] [] rfl rfl (by simp) (by simp)
 refine zaa ?_
 refine zab ⟨136,[(3,.pt 20 0 0),(4,.pv (gC g)),(5,.pv (pC p)),(6,ints o),(7,.vs 1 false []),(8,.vs 1 false []),(9,.I 0)],[(20,some (dice L b2))],700⟩ rfl ?_ ?_
 ·simp
  exact Le.go [(20,20)] [] rfl rfl (by simp) (by simp)
 refine zaf ?_
 refine zap (ι:=MtSt) (fun s=>⟨136,[(3,.pt 20 0 0),(4,.pv (gC g)),(5,.pv (pC p)),(6,ints o),(7,ints s.a),(8,ints s.b),(9,.I s.i)],[(20,some (dice L s.d))],800⟩) (fun s=>s.i ≤ o.length ∧ SetS g p s.a ∧ SetS g p s.b ∧ s.d ≤ L.length) (fun s=>o.length - s.i) ⟨0,[],[],b2⟩ ⟨Nat.zero_le _,hS0,hS0,hb2⟩ (Le.go [(20,20)] [] rfl rfl (by simp; exact .refl _) (by simp)) ?_
 rintro ⟨i,a,b,d⟩ ⟨hi,ha,hb,hd⟩
 simp only at hi ha hb hd
 have hal:=ha.len hg
 have hbl:=hb.len hg
 refine zaa ?_
 refine zab ⟨136,[(3,.pt 20 0 0),(4,.pv (gC g)),(5,.pv (pC p)),(6,ints o),(7,ints a),(8,ints b),(9,.I i),(35,.B (decide (i < o.length)))],[(20,some (dice L d))],900⟩ rfl ?_ ?_
 ·simp
  exact Le.go [(20,20)] [] rfl rfl (by simp) (by simp)
 refine zac _ rfl (fun h12=>?_) fun h12=>?_
 ·simp at h12
  have hw1 : IntKind.i64.wrap ((i : Int) + 1) = (i : Int) + 1:=w64 (by omega) (by omega)
  obtain ⟨x,hx⟩ : ∃ x,x = o[i]:=⟨_,rfl⟩
  have hxo : x ∈ o:=hx ▸ List.getElem_mem h12
  have hxr:=hor x hxo
  have hput:=zkE a x (by omega)
  have hpl:=ziu a x
  have hs1:=hser (putL a x) (by omega)
  have hSa:=hSput ha hxo
  obtain ⟨c,d1,hd1,hone⟩:=ztC L d 2 h3 hd (by omega) (by omega)
  obtain ⟨W,hW⟩ : ∃ W,W = putL a x:=⟨_,rfl⟩
  rw [← hW] at hput hs1 hSa hpl
  refine zae ?_
  refine zaa ?_
  refine zaf ?_
  refine zaH (ι:=List Int) (fun a'=>⟨136,[(3,.pt 20 0 0),(4,.pv (gC g)),(5,.pv (pC p)),(6,ints o),(7,ints a'),(8,ints b),(9,.I i)],[(20,some (dice L d1))],2000⟩) (fun a'=>SetS g p a') ?_ fun a' ha'=>?_
  ·refine zat ⟨136,[(3,.pt 20 0 0),(4,.pv (gC g)),(5,.pv (pC p)),(6,ints o),(7,ints a),(8,ints b),(9,.I i),(50,.B (c && decide (zbb g p W)))],[(20,some (dice L d1))],1100⟩ rfl ?_ ?_
   ·cases c with
    | true =>
      simp
      refine zbd (i:=20) rfl (e':=dice L d) (by simp) hone (by simp) (by simp) ?_
      simp [h12,← hx]
      refine zaQ hput (by simp) ?_
      simp
      refine zeT [980] hs1 (by simp [fcd,zao]) (.sc _) ?_
      simp
      exact ⟨rfl,Le.go [(20,20)] [] rfl rfl (by simp) (by simp)⟩
    | false =>
      simp
      refine zbd (i:=20) rfl (e':=dice L d) (by simp) hone (by simp) (by simp) ?_
      simp
      exact ⟨rfl,Le.go [(20,20)] [] rfl rfl (by simp) (by simp)⟩
   refine zac _ rfl (fun h14=>?_) fun h14=>?_
   ·have h14' : zbb g p W:=by
     rw [Bool.and_eq_true] at h14
     exact of_decide_eq_true h14.2
    refine zau rfl ?_
    simp [h12,← hx]
    refine zaQ hput (by simp) ?_
    simp
    exact ⟨W,hSa h14',Le.go [(20,20)] [1140] rfl rfl (by simp [fcd,zao]) (by simp)⟩
   ·refine zae ?_
    exact ⟨a,ha,Le.go [(20,20)] [] rfl rfl (by simp) (by simp)⟩
  obtain ⟨y,hy⟩ : ∃ y,y = o[o.length - 1 - i]:=⟨_,rfl⟩
  have hyo : y ∈ o:=hy ▸ List.getElem_mem _
  have hput2:=zkE b y (by omega)
  have hpl2:=ziu b y
  have hs2:=hser (putL b y) (by omega)
  have hSb:=hSput hb hyo
  obtain ⟨z,d2,⟨hd2,hz⟩,hnext⟩:=zkG L d1 3 h3 hd1 (by omega) (by omega)
  obtain ⟨W2,hW2⟩ : ∃ W2,W2 = putL b y:=⟨_,rfl⟩
  rw [← hW2] at hput2 hs2 hSb hpl2
  have hw2 : IntKind.i64.wrap ((o.length : Int) - 1) = (o.length : Int) - 1:=w64 (by omega) (by omega)
  have hw3 : IntKind.i64.wrap ((o.length : Int) - 1 - i) = ((o.length - 1 - i : Nat) : Int):=by rw [w64 (by omega) (by omega)]; omega
  have hlt : o.length - 1 - i < o.length:=by omega
  refine zab ⟨136,[(3,.pt 20 0 0),(4,.pv (gC g)),(5,.pv (pC p)),(6,ints o),(7,ints a'),(8,ints b),(9,.I i),(10,.I y)],[(20,some (dice L d1))],2200⟩ rfl ?_ ?_
  ·simp [hw2,hw3,hlt,← hy]
   exact Le.go [(20,20)] [] rfl rfl (by simp) (by simp)
  refine zat ⟨136,[(3,.pt 20 0 0),(4,.pv (gC g)),(5,.pv (pC p)),(6,ints o),(7,ints a'),(8,ints b),(9,.I i),(10,.I y),(75,.B (decide (0 < z) && decide (zbb g p W2)))],[(20,some (dice L d2))],2400⟩ rfl ?_ ?_
  ·by_cases hz0 : 0 < z
   ·simp
    refine zbd (i:=20) rfl (e':=dice L d1) (by simp) hnext (by simp) (by simp) ?_
    simp [hz0]
    refine zaQ hput2 (by simp) ?_
    simp
    refine zeT [2264] hs2 (by simp [fcd,zao]) (.sc _) ?_
    simp
    exact ⟨rfl,Le.go [(20,20)] [] rfl rfl (by simp [hz0]) (by simp)⟩
   ·simp
    refine zbd (i:=20) rfl (e':=dice L d1) (by simp) hnext (by simp) (by simp) ?_
    simp [hz0]
    exact ⟨rfl,Le.go [(20,20)] [] rfl rfl (by simp [hz0]) (by simp)⟩
  refine zac _ rfl (fun h17=>?_) fun h17=>?_
  ·have h17' : zbb g p W2:=by
    rw [Bool.and_eq_true] at h17
    exact of_decide_eq_true h17.2
   refine zau rfl ?_
   simp
   refine zaQ hput2 (by simp) ?_
   simp
   refine zau rfl ?_
   simp
   exact ⟨⟨i + 1,a',W2,d2⟩,⟨h12,ha',hSb h17',hd2⟩,by simp only; omega,Le.go [(20,20)] [2416] rfl rfl (by simp [hw1,fcd,zao]) (by simp)⟩
  refine zae ?_
  refine zau rfl ?_
  simp
  exact ⟨⟨i + 1,a',b,d2⟩,⟨h12,ha',hb,hd2⟩,by simp only; omega,Le.go [(20,20)] [] rfl rfl (by simp [hw1]) (by simp)⟩
 refine zan ?_
 refine hit ?_
 refine zaH (ι:=Unit) (fun _=>⟨136,[(4,.pv (gC g)),(5,.pv (pC p)),(7,ints a),(8,ints b)],[],2000⟩) (fun _=>True) ?_ fun _ _=>?_
 ·refine zab ⟨136,[(3,.pt 20 0 0),(4,.pv (gC g)),(5,.pv (pC p)),(7,ints a),(8,ints b),(81,.B (decide (0 < a.length)))],[(20,some (dice L d))],1000⟩ rfl ?_ ?_
  ·simp
   exact Le.go [(20,20)] [] rfl rfl (by simp) (by simp)
  refine zac _ rfl (fun h22=>?_) fun h22=>?_
  ·rw [decide_eq_true_eq] at h22
   obtain ⟨k,d2,⟨hd2,hk⟩,hnext⟩:=zkG L d a.length h3 hd (by omega) (by omega)
   have hkl : k < a.length:=by omega
   have hsubl : (a.take k ++ a.drop (k + 1)).Sublist a:=by
    have h1 : (a.drop (k + 1)).Sublist (a.drop k):=List.drop_sublist_drop_left a (by omega)
    have h2:=(List.Sublist.refl (a.take k)).append h1
    rwa [List.take_append_drop] at h2
   have hsv:=hser (a.take k ++ a.drop (k + 1)) (by have:=hsubl.length_le; omega)
   rw [decide_eq_true ((ha.sublist hg hp1 hsubl).served hg)] at hsv
   have hw4 : IntKind.i64.wrap ((k : Int) + 1) = ((k + 1 : Nat) : Int):=by rw [w64 (by omega) (by omega)]; omega
   refine zab ⟨136,[(4,.pv (gC g)),(5,.pv (pC p)),(7,ints a),(8,ints b),(11,.I k)],[],1200⟩ rfl ?_ ?_
   ·simp
    refine zbd (i:=20) rfl (e':=dice L d) (by simp) hnext (by simp) (by simp) ?_
    simp
    exact Le.go [] [] rfl rfl (by simp) (by simp)
   refine zat ⟨136,[(4,.pv (gC g)),(5,.pv (pC p)),(7,ints a),(8,ints b),(98,.B false)],[],1400⟩ rfl ?_ ?_
   ·simp [hw4,hkl,Nat.le_of_lt hkl]
    refine ⟨by omega,by omega,ztJ (k + 1) rfl (by simp; omega) ?_⟩
    have hmn : min k a.length = k:=by omega
    have hdl : (a.drop (k + 1)).length = a.length - (k + 1):=List.length_drop
    simp [hmn]
    refine ⟨by omega,by omega,?_⟩
    refine zeT [1280] hsv (by
     simp [fcd,hmn,List.map_take,List.map_drop,List.take_take]
     exact List.take_of_length_le (by simp [hmn])) (.sc _) ?_
    simp
    exact ⟨rfl,Le.go [] [] rfl rfl (by simp) (by simp)⟩
   refine zac _ rfl (fun h=>by cases h) fun _=>?_
   refine zae ?_
   exact ⟨(),trivial,Le.go [] [] rfl rfl (by simp) (by simp)⟩
  ·refine zae ?_
   exact ⟨(),trivial,Le.go [] [] rfl rfl (by simp) (by simp)⟩
 refine zaa ?_
 refine zab ⟨136,[(4,.pv (gC g)),(5,.pv (pC p)),(7,ints a),(8,ints b),(103,.B (decide (a.length < b.length)))],[],2100⟩ rfl ?_ ?_
 ·simp
  exact Le.go [] [] rfl rfl (by simp) (by simp)
 refine zac _ rfl (fun h28=>?_) fun h28=>?_
 ·rw [decide_eq_true_eq] at h28
  obtain ⟨k,hkb,hka,hks⟩:=ha.more hg hp1 hb h28
  refine zab ⟨136,[(4,.pv (gC g)),(5,.pv (pC p)),(7,ints a),(8,ints b),(12,.B false)],[],2200⟩ rfl ?_ ?_
  ·simp
   exact Le.go [] [] rfl rfl (by simp) (by simp)
  refine zaa ?_
  refine zab ⟨136,[(4,.pv (gC g)),(5,.pv (pC p)),(7,ints a),(8,ints b),(12,.B false),(13,.I 0)],[],2300⟩ rfl ?_ ?_
  ·simp
   exact Le.go [] [] rfl rfl (by simp) (by simp)
  refine zaf ?_
  refine zap (ι:=MoSt) (fun s=>⟨136,[(4,.pv (gC g)),(5,.pv (pC p)),(7,ints a),(8,ints b),(12,.B s.m),(13,.I s.i)],[],2400⟩) (fun s=>s.i ≤ b.length ∧ (s.m = true ↔ ∃ x ∈ b.take s.i,x ∉ a ∧ zbb g p (putL a x))) (fun s=>b.length - s.i) ⟨0,false⟩ ⟨Nat.zero_le _,by simp⟩ (Le.go [] [] rfl rfl (by simp) (by simp)) ?_
  rintro ⟨i,m⟩ ⟨hi,hm⟩
  simp only at hi hm
  refine zaa ?_
  refine zab ⟨136,[(4,.pv (gC g)),(5,.pv (pC p)),(7,ints a),(8,ints b),(12,.B m),(13,.I i),(107,.B (decide (i < b.length)))],[],2500⟩ rfl ?_ ?_
  ·simp
   exact Le.go [] [] rfl rfl (by simp) (by simp)
  refine zac _ rfl (fun h32=>?_) fun h32=>?_
  ·simp at h32
   have hw1 : IntKind.i64.wrap ((i : Int) + 1) = (i : Int) + 1:=w64 (by omega) (by omega)
   obtain ⟨x,hx⟩ : ∃ x,x = b[i]:=⟨_,rfl⟩
   have hhas:=zmu a x (by omega)
   rw [show a.contains x = decide (x ∈ a) by rw [Bool.eq_iff_iff]; simp] at hhas
   have hput:=zkE a x (by omega)
   have hpl:=ziu a x
   have hs1:=hser (putL a x) (by omega)
   have hbt : b.take (i + 1) = b.take i ++ [x]:=by rw [List.take_succ_eq_append_getElem h32,hx]
   have hnext : ((m || (!decide (x ∈ a) && decide (zbb g p (putL a x)))) = true) ↔ ∃ y ∈ b.take (i + 1),y ∉ a ∧ zbb g p (putL a y):=by
    rw [Bool.or_eq_true,hm,hbt]
    simp only [List.mem_append,List.mem_singleton,Bool.and_eq_true,Bool.not_eq_true',decide_eq_false_iff_not,decide_eq_true_eq]
    constructor
    ·rintro (⟨y,h1,h2⟩ | h)
     ·exact ⟨y,.inl h1,h2⟩
     ·exact ⟨x,.inr rfl,h⟩
    ·rintro ⟨y,h1 | rfl,h2⟩
     ·exact .inl ⟨y,h1,h2⟩
     ·exact .inr h2
   obtain ⟨W,hW⟩ : ∃ W,W = putL a x:=⟨_,rfl⟩
   rw [← hW] at hput hs1 hpl hnext
   refine zae ?_
   refine zaa ?_
   refine zaf ?_
   cases m with
   | true =>
     refine zbm rfl ?_
     simp
     refine ⟨rfl,?_⟩
     refine zau rfl ?_
     simp
     exact ⟨⟨i + 1,true⟩,⟨by simp only; omega,by simpa using hnext⟩,by simp only; omega,Le.go [] [] rfl rfl (by simp [hw1]) (by simp)⟩
   | false =>
     by_cases hxa : x ∈ a
     ·rw [decide_eq_true hxa] at hhas
      refine zbm rfl ?_
      simp [h32,← hx]
      refine zal hhas (by simp) ?_
      simp
      refine ⟨rfl,?_⟩
      refine zau rfl ?_
      simp
      exact ⟨⟨i + 1,false⟩,⟨by simp only; omega,by simpa [hxa] using hnext⟩,by simp only; omega,Le.go [] [] rfl rfl (by simp [hw1]) (by simp)⟩
     ·rw [decide_eq_false hxa] at hhas
      refine zbm rfl ?_
      simp [h32,← hx]
      refine zal hhas (by simp) ?_
      simp [h32,← hx]
      refine zaQ hput (by simp) ?_
      simp
      refine zeT [2636] hs1 (by simp [fcd,zao]) (.sc _) ?_
      simp
      refine ⟨rfl,?_⟩
      refine zau rfl ?_
      simp
      exact ⟨⟨i + 1,decide (zbb g p W)⟩,⟨by simp only; omega,by simpa [hxa] using hnext⟩,by simp only; omega,Le.go [] [] rfl rfl (by simp [hw1]) (by simp)⟩
  simp at h32
  obtain rfl : i = b.length:=by omega
  rw [List.take_length] at hm
  have hmt : m = true:=hm.2 ⟨k,hkb,hka,hks⟩
  subst hmt
  refine zan ?_
  refine hit ?_
  refine zab ⟨136,[(2,.B true)],[],2600⟩ rfl ?_ ?_
  ·simp
   refine zal zed (by simp) ?_
   simp
   exact Le.go [] [] rfl rfl (by simp) (by simp)
  refine zah ?_
  exact ⟨.inr rfl,zam.one (by simp)⟩
 refine zae ?_
 refine zab ⟨136,[(2,.B true)],[],2600⟩ rfl ?_ ?_
 ·simp
  refine zal zed (by simp) ?_
  simp
  exact Le.go [] [] rfl rfl (by simp) (by simp)
 refine zah ?_
 exact ⟨.inr rfl,zam.one (by simp)⟩
end Go.Proofs.YteiabadhhhckfaaGreat
