/- Texts of this claim,merged. -/
import Derived.Test.YteiabadhhhckfaaGreatRg14
import Derived.Test.YteiabadhhhckfaaGreatRg11
import Derived.Test.YteiabadhhhckfaaGreatRg12
import Derived.Test.YteiabadhhhckfaaGreatRg13
set_option linter.unusedSimpArgs false
set_option linter.unusedVariables false
set_option linter.unusedSectionVars false
namespace Go.Proofs.YteiabadhhhckfaaGreat
open Go
theorem zh6 (g : Gr) (p : Pol) (hg : GrOk g) (hs : p.seeds.length ≤ 1099511627776) :
  zak Tryz.prog zdi [eG g,eP p] [] (.rs 0 0 (ordL (zai g p.lv) p.seeds).length) [some ⟨1,zae (ordL (zai g p.lv) p.seeds),0⟩]:=by
 refine zky.acalls (nbz rfl) (nbz rfl) (Nat.zero_le _) ?_
 show awp _ 0 _ _ ⟨12,[(0,eG g),(1,eP p)],[],16⟩
 have hel:=hg.edges_le
 have hgl:=hg.gone_le
 have hord:=zgj (g:=zai g p.lv) (S:=p.seeds) (hg.level p.lv) hs
 refine rx (s:=?s1) [2,3] [] [16,24] rfl ?o1 ?q1
 case o1=>simp; rfl
 refine rkd (s:=?s2) [4] [88] rfl ?o2 ?q2
 case o2 =>
  simp
  refine zal (zcl g p.lv (by omega) (by omega)) (by simp) ?_
  simp
  refine zaM hord (by simp) ?_
  simp [fcd]
  refine ⟨rfl,?_⟩
  rfl
 refine zah ?_
 exact ⟨.inr rfl,zan.out [88] [] rfl (by simp) (by simp) (by simp) (by simp [fcd])⟩
def befL (o acc : List Int) (i : Nat) : List Int:=(o.take i).filter fun k=>decide (k ∈ acc)
theorem zjW {o acc : List Int} {i : Nat} (h : i < o.length) : befL o acc (i + 1) = befL o acc i ++ if o[i] ∈ acc then [o[i]] else []:=by
 unfold befL
 rw [List.take_succ_eq_append_getElem h,List.filter_append]
 simp only [List.filter_cons,List.filter_nil,decide_eq_true_eq]
theorem zp2 (o acc : List Int) (i : Nat) : (befL o acc i).length ≤ o.length:=by
 unfold befL
 exact Nat.le_trans (List.length_filter_le ..) (List.length_take_le' ..)
theorem zpq {o acc : List Int} {i : Nat} {x : Int} (h : x ∈ befL o acc i) : x ∈ o:=List.mem_of_mem_take (List.mem_filter.1 h).1
structure ForR (g : Gr) (p : Pol) (o : List Int) (key : Int) (x : Expl) : Prop where
 key_ : x.key = key
 bef : ∃ i,∃ h : i < o.length,o[i] = key ∧ x.before = befL o (accR g p o) i
 yes : key ∈ accR g p o → x.acc = true ∧ x.side = [] ∧ ∃ W,zjk g p (x.before ++ [key]) W ∧ x.paths = W.map (zaY (netA g p (zav (x.before ++ [key]))))
 no : key ∉ accR g p o → x.acc = false ∧ x.paths = [] ∧ ∃ R,zhv g p o R ∧ (key,x.side) ∈ R
theorem zpK {g : Gr} {p : Pol} : ∀ (b a : List Int),∃ l,accR g p (a ++ b) = accR g p a ++ l
 | [],a=>⟨[],by simp⟩
 | x :: b,a=>by
   obtain ⟨l,hl⟩:=zpK b (a ++ [x])
   rw [List.append_assoc] at hl
   have e : a ++ x :: b = a ++ ([x] ++ b):=rfl
   rw [e,hl]
   rcases zjH (g:=g) (p:=p) a x with h | h
   ·exact ⟨l,by rw [h]⟩
   ·exact ⟨[x] ++ l,by rw [h,List.append_assoc]⟩
theorem zn0 {g : Gr} {p : Pol} {o : List Int} {n : Nat} {x : Int} (h : x ∈ accR g p (o.take n)) : x ∈ accR g p o:=by
 obtain ⟨l,hl⟩:=zpK (g:=g) (p:=p) (o.drop n) (o.take n)
 rw [List.take_append_drop] at hl
 rw [hl]
 exact List.mem_append_left _ h
theorem wkX {k a b p s p' s' c : AV} (hp : Wk p p') (hs : Wk s s') : Wk (.tup [.agg [k,a,b,p,s],c]) (.tup [.agg [k,a,b,p',s'],c]):=by
 refine .tup _ _ rfl fun i=>?_
 match i with
 | 0 =>
   refine .agg _ _ rfl fun j=>?_
   match j with
   | 0=>exact .refl _
   | 1=>exact .refl _
   | 2=>exact .refl _
   | 3=>exact hp
   | 4=>exact hs
   | _ + 5=>exact .refl _
 | 1=>exact .refl _
 | _ + 2=>exact .refl _
structure FSt where
 j : Nat
 sd : List Int
set_option maxRecDepth 100000 in
set_option maxHeartbeats 4000000 in
theorem zu2 (g : Gr) (p : Pol) (key : Int) (hg : GrOk g) (hp : zaV g.size p) (hs : p.seeds.length ≤ 64) (hkey : key ∈ ordL (zai g p.lv) p.seeds) :
  ∃ x,ForR g p (ordL (zai g p.lv) p.seeds) key x ∧ zak Tryz.prog zc3 [eG g,eP p,.I key] [] (.tup [eX x,.I 0]) []:=by
 refine zhI.acallsX (args:=[eG g,eP p,.I key]) (hs:=[]) (fun x=>.tup [eX x,.I 0]) (fun _=>[]) (fun x : Expl=>ForR g p (ordL (zai g p.lv) p.seeds) key x) (nbz rfl) (nbz rfl) (fun _=>Nat.le_refl _) ?_
 show awp _ 0 _ _ ⟨114,[(0,eG g),(1,eP p),(2,.I key)],[],16⟩
 have hsz:=hg.1.1
 have hsz2:=hg.1.2.1
 have hel:=hg.edges_le
 have hgl:=hg.gone_le
 have hchk:=zbU g p (by omega) (by omega) (by omega) (by have:=hp.2.2.2.1; omega)
 rw [if_pos hg,if_pos hp] at hchk
 have hre:=zh6 g p hg (by omega)
 obtain ⟨⟨R,fl⟩,⟨hR,_⟩,hrun⟩:=zvo g p hg hp hs
 simp only at hR hrun
 obtain ⟨o,ho⟩ : ∃ o,o = ordL (zai g p.lv) p.seeds:=⟨_,rfl⟩
 have hor : ∀ k ∈ o,0 ≤ k ∧ k < g.size:=fun k hk=>by rw [ho] at hk; have h:=zbF hk; exact h
 have hol : o.length ≤ 64:=by
  have h1:=zdD (g:=zai g p.lv) (S:=p.seeds) hsz
  have h2 : (zai g p.lv).size = g.size:=rfl
  rw [← ho] at h1
  omega
 rw [← ho] at hre hR hrun hkey ⊢
 obtain ⟨i0,hi0,hik⟩:=List.mem_iff_getElem.1 hkey
 have hRl:=hR.len
 obtain ⟨acc,hacc⟩ : ∃ acc,acc = accR g p o:=⟨_,rfl⟩
 rw [← hacc] at hrun
 have hal : acc.length ≤ 64:=by rw [hacc]; exact Nat.le_trans (zgP o) hol
 have hh1:=zdl o key (by omega)
 rw [decide_eq_true hkey] at hh1
 refine zaa ⟨114,[(2,.I key),(3,.pv (gC g)),(4,.pv (pC p)),(6,.pt 32 0 0)],[(32,some ⟨5,[[.I 0,.B false,.nilS,.nilS,.nilS]],0⟩)],100⟩ rfl ?_ ?_
 ·simp
  exact LeH [(32,32)] [16,24]
 refine zab ?_
 refine zaa ⟨114,[(2,.I key),(3,.pv (gC g)),(4,.pv (pC p)),(6,.pt 32 0 0),(8,.I 0)],[(32,some ⟨5,[[.I 0,.B false,.nilS,.nilS,.nilS]],0⟩)],200⟩ rfl ?_ ?_
 ·simp
  refine zal hchk (by simp) ?_
  simp
  exact LeH [(32,32)] []
 refine zaa ⟨114,[(2,.I key),(3,.pv (gC g)),(4,.pv (pC p)),(6,.pt 32 0 0),(19,.B false)],[(32,some ⟨5,[[.I 0,.B false,.nilS,.nilS,.nilS]],0⟩)],300⟩ rfl ?_ ?_
 ·simp
  exact LeH [(32,32)] []
 refine zac _ rfl (fun h=>by cases h) fun _=>?_
 refine zad ?_
 refine zaa ⟨114,[(2,.I key),(3,.pv (gC g)),(4,.pv (pC p)),(6,.pt 32 0 0),(9,ints o)],[(32,some ⟨5,[[.I 0,.B false,.nilS,.nilS,.nilS]],0⟩)],400⟩ rfl ?_ ?_
 ·simp
  refine zaM hre (by simp) ?_
  simp
  exact Le.go [(32,32)] [316] rfl rfl (by simp [zaj,fcd]) (by simp)
 refine zab ?_
 refine zaa ⟨114,[(2,.I key),(3,.pv (gC g)),(4,.pv (pC p)),(6,.pt 32 0 0),(9,ints o),(28,.B false)],[(32,some ⟨5,[[.I 0,.B false,.nilS,.nilS,.nilS]],0⟩)],500⟩ rfl ?_ ?_
 ·simp
  refine zal hh1 (by simp) ?_
  simp
  exact LeH [(32,32)] []
 refine zac _ rfl (fun h=>by cases h) fun _=>?_
 refine zad ?_
 refine zaa ⟨114,[(2,.I key),(3,.pv (gC g)),(4,.pv (pC p)),(6,.pt 32 0 0),(9,ints o),(10,.pv [ints acc,ints fl,.vs 2 false (zaZ R)]),(11,.I 0)],[(32,some ⟨5,[[.I 0,.B false,.nilS,.nilS,.nilS]],0⟩)],600⟩ rfl ?_ ?_
 ·simp
  refine zal hrun (by simp) ?_
  simp
  exact LeH [(32,32)] [548]
 refine zab ?_
 refine zaa ⟨114,[(2,.I key),(3,.pv (gC g)),(4,.pv (pC p)),(6,.pt 32 0 0),(9,ints o),(10,.pv [ints acc,ints fl,.vs 2 false (zaZ R)]),(37,.B false)],[(32,some ⟨5,[[.I 0,.B false,.nilS,.nilS,.nilS]],0⟩)],700⟩ rfl ?_ ?_
 ·simp
  exact LeH [(32,32)] []
 refine zac _ rfl (fun h=>by cases h) fun _=>?_
 refine zad ?_
 refine zaa ⟨114,[(2,.I key),(3,.pv (gC g)),(4,.pv (pC p)),(6,.pt 32 0 0),(9,ints o),(10,.pv [ints acc,ints fl,.vs 2 false (zaZ R)]),(12,.pt 50 0 0)],[(32,some ⟨5,[[.I 0,.B false,.nilS,.nilS,.nilS]],0⟩),(50,some ⟨5,[[.I key,.B false,.nilS,.nilS,.nilS]],0⟩)],800⟩ rfl ?_ ?_
 ·simp [zaw]
  exact LeH [(32,32),(716,50)] []
 refine zab ?_
 refine zaa ⟨114,[(2,.I key),(3,.pv (gC g)),(4,.pv (pC p)),(6,.pt 32 0 0),(9,ints o),(10,.pv [ints acc,ints fl,.vs 2 false (zaZ R)]),(12,.pt 50 0 0),(13,.I 0)],[(32,some ⟨5,[[.I 0,.B false,.nilS,.nilS,.nilS]],0⟩),(50,some ⟨5,[[.I key,.B false,.nilS,.nilS,.nilS]],0⟩)],900⟩ rfl ?_ ?_
 ·simp
  exact LeH [(32,32),(50,50)] []
 refine zaf ?_
 refine zao (ι:=Nat) (fun i=>⟨114,[(2,.I key),(3,.pv (gC g)),(4,.pv (pC p)),(6,.pt 32 0 0),(9,ints o),(10,.pv [ints acc,ints fl,.vs 2 false (zaZ R)]),(12,.pt 50 0 0),(13,.I i)],[(32,some ⟨5,[[.I 0,.B false,.nilS,.nilS,.nilS]],0⟩),(50,some ⟨5,[[.I key,.B false,.rs 51 0 (befL o acc i).length,.nilS,.nilS]],0⟩),(51,some ⟨1,zae (befL o acc i),0⟩)],900⟩)
  (fun i=>i < o.length ∧ ∀ q (h : q < o.length),q < i → o[q] ≠ key) (fun i=>o.length - i) 0 ⟨by omega,fun q _ h=>by omega⟩
  (Le.lst [(32,32),(50,50)] [] [(51,1)] rfl (by simp) (by simp) (by simp) (by simp) (by simp) (by simp) (by simp) (by simp [Up]) (by simp [befL,fcd]; exact ⟨zay.rfl' (by simp),zay.row rfl (by omega) (by simp [UpL,Up,Wk.refl])⟩)) ?_
 rintro i ⟨hi,hip⟩
 have hbl:=zp2 o acc i
 have hwi : IntKind.i64.wrap ((i : Int) + 1) = ((i + 1 : Nat) : Int):=by rw [w64 (by omega) (by omega)]; omega
 have hoi : o[i]? = some o[i]:=List.getElem?_eq_getElem hi
 obtain ⟨k,hk⟩ : ∃ k,k = o[i]:=⟨_,rfl⟩
 rw [← hk] at hoi
 refine zab ?_
 refine zaa ⟨114,[(2,.I key),(3,.pv (gC g)),(4,.pv (pC p)),(6,.pt 32 0 0),(9,ints o),(10,.pv [ints acc,ints fl,.vs 2 false (zaZ R)]),(12,.pt 50 0 0),(13,.I i),(53,.B (!decide (k = key)))],[(32,some ⟨5,[[.I 0,.B false,.nilS,.nilS,.nilS]],0⟩),(50,some ⟨5,[[.I key,.B false,.rs 51 0 (befL o acc i).length,.nilS,.nilS]],0⟩),(51,some ⟨1,zae (befL o acc i),0⟩)],1100⟩ rfl ?_ ?_
 ·simp [hi,hoi,← hk]
  exact Le.go [(32,32),(50,50),(51,51)] [] rfl rfl (by simp <;> exact wkB (by rw [Bool.eq_iff_iff]; simp)) (by simp [fcd])
 refine zac _ rfl (fun h17=>?_) fun h17=>?_
 ·simp at h17
  have hi2 : i + 1 < o.length:=by
   rcases Nat.lt_or_ge (i + 1) o.length with h | h
   ·exact h
   ·exfalso
    rcases Nat.lt_or_ge i0 i with h2 | h2
    ·exact hip i0 hi0 h2 hik
    ·obtain rfl : i0 = i:=by omega
     exact h17 (hk.trans hik)
  have hsu:=zjW (o:=o) (acc:=acc) hi
  rw [← hk] at hsu
  have hha:=zdl acc k (by omega)
  refine zad ?_
  refine zaI (ι:=Unit) (fun _=>⟨114,[(2,.I key),(3,.pv (gC g)),(4,.pv (pC p)),(6,.pt 32 0 0),(9,ints o),(10,.pv [ints acc,ints fl,.vs 2 false (zaZ R)]),(12,.pt 50 0 0),(13,.I i)],[(32,some ⟨5,[[.I 0,.B false,.nilS,.nilS,.nilS]],0⟩),(50,some ⟨5,[[.I key,.B false,.rs 51 0 (befL o acc (i + 1)).length,.nilS,.nilS]],0⟩),(51,some ⟨1,zae (befL o acc (i + 1)),0⟩)],2000⟩) (fun _=>True) ?_ fun _ _=>?_
  ·refine zaf ?_
   refine zaq ⟨114,[(2,.I key),(3,.pv (gC g)),(4,.pv (pC p)),(6,.pt 32 0 0),(9,ints o),(10,.pv [ints acc,ints fl,.vs 2 false (zaZ R)]),(12,.pt 50 0 0),(13,.I i),(62,.B (decide (k ∈ acc)))],[(32,some ⟨5,[[.I 0,.B false,.nilS,.nilS,.nilS]],0⟩),(50,some ⟨5,[[.I key,.B false,.rs 51 0 (befL o acc i).length,.nilS,.nilS]],0⟩),(51,some ⟨1,zae (befL o acc i),0⟩)],1200⟩ rfl ?_ ?_
   ·simp [hi,hoi,← hk]
    refine zal hha (by simp) ?_
    simp
    exact ⟨rfl,LeI [(32,32),(50,50),(51,51)] []⟩
   refine zac _ rfl (fun h19=>?_) fun h19=>?_
   ·rw [decide_eq_true_eq] at h19
    rw [if_pos h19] at hsu
    rw [hsu]
    obtain ⟨E,hE⟩ : ∃ E,E = befL o acc i:=⟨_,rfl⟩
    rw [← hE] at hbl ⊢
    refine zbI rfl ?_
    simp [hi,hoi,← hk,zaj,zaw]
    exact ⟨by omega,by omega,rfl,LeI [(32,32),(50,50),(1256,51)] []⟩
   ·rw [decide_eq_false_iff_not] at h19
    rw [if_neg h19,List.append_nil] at hsu
    rw [hsu]
    refine zad ?_
    exact ⟨(),trivial,LeI [(32,32),(50,50),(51,51)] []⟩
  refine zag (s:=?s20) rfl ?o20 ?q20
  case o20=>simp; rfl
  refine ⟨i + 1,⟨hi2,fun q hq hlt=>?_⟩,by omega,Le.go [(32,32),(50,50),(51,51)] [] rfl rfl (by simp [hwi]) (by simp [fcd])⟩
  rcases Nat.lt_succ_iff_lt_or_eq.1 hlt with h | rfl
  ·exact hip q hq h
  ·exact fun e=>h17 (hk.trans e)
 simp at h17
 have hok : o[i] = key:=hk.symm.trans h17
 clear hoi
 refine zam ?_
 refine hit ?_
 obtain ⟨E,hE⟩ : ∃ E,E = befL o acc i:=⟨_,rfl⟩
 rw [← hE] at hbl ⊢
 have hha:=zdl acc key (by omega)
 refine zab ?_
 refine zaa ⟨114,[(2,.I key),(3,.pv (gC g)),(4,.pv (pC p)),(6,.pt 32 0 0),(10,.pv [ints acc,ints fl,.vs 2 false (zaZ R)]),(12,.pt 50 0 0),(75,.B (decide (key ∈ acc)))],[(32,some ⟨5,[[.I 0,.B false,.nilS,.nilS,.nilS]],0⟩),(50,some ⟨5,[[.I key,.B false,.rs 51 0 E.length,.nilS,.nilS]],0⟩),(51,some ⟨1,zae E,0⟩)],1200⟩ rfl ?_ ?_
 ·simp
  refine zal hha (by simp) ?_
  simp
  exact LeI [(32,32),(50,50),(51,51)] []
 refine zac _ rfl (fun h21=>?_) fun h21=>?_
 ·rw [decide_eq_true_eq] at h21
  obtain ⟨W,hW,hpa⟩:=zrB g p (E ++ [key]) hg hp hs (fun x hx=>by
   rcases List.mem_append.1 hx with h | h
   ·rw [hE] at h; exact hor x (zpq h)
   ·rw [List.mem_singleton] at h; subst h; exact hor _ hkey) (by simp; omega)
  obtain ⟨Q,hQ⟩ : ∃ Q,Q = W.map (zaY (netA g p (zav (E ++ [key])))):=⟨_,rfl⟩
  rw [← hQ] at hpa
  refine zaa ⟨114,[(2,.I key),(3,.pv (gC g)),(4,.pv (pC p)),(6,.pt 32 0 0),(12,.pt 50 0 0)],[(32,some ⟨5,[[.I 0,.B false,.nilS,.nilS,.nilS]],0⟩),(50,some ⟨5,[[.I key,.B true,.rs 51 0 E.length,.nilS,.nilS]],0⟩),(51,some ⟨1,zae E,0⟩)],1300⟩ rfl ?_ ?_
  ·simp [zaw]
   exact LeI [(32,32),(50,50),(51,51)] []
  refine zaq ⟨114,[(6,.pt 32 0 0),(12,.pt 50 0 0)],[(32,some ⟨5,[[.I 0,.B false,.nilS,.nilS,.nilS]],0⟩),(50,some ⟨5,[[.I key,.B true,ints E,zaS Q,.nilS]],0⟩)],1600⟩ rfl ?_ ?_
  ·have htE : ∀ h : Int → List AV,List.take (E.length + 1) (List.map h E) = List.map h E:=fun h=>List.take_of_length_le (by simp)
   simp [zaj]
   refine ⟨by omega,by omega,by omega,by omega,zsX (j:=1364) (by decide) rfl hpa (by simp [fcd,List.take_append,zaj,htE]) ?_⟩
   simp [zaw]
   exact ⟨rfl,Le.go [(32,32),(50,50)] [51,1364] rfl rfl (by simp) (by simp [fcd,zaj])⟩
  refine zaa ⟨114,[(6,.pt 32 0 0),(7,.I 0)],[(32,some ⟨5,[[.I key,.B true,ints E,zaS Q,.nilS]],0⟩)],1700⟩ rfl ?_ ?_
  ·simp [zaw]
   exact LeI [(32,32)] []
  refine zah ?_
  rw [hacc] at h21
  refine zdZ.mk (.inr rfl) ⟨key,true,E,Q,[]⟩ ⟨rfl,⟨i,hi,hok,by rw [← hacc]; exact hE⟩,fun _=>⟨rfl,rfl,W,hW,hQ⟩,fun h=>absurd h21 h⟩ (zan.out [] [] rfl (by simp) (by simp) (by simp; exact wkX (.refl _) (.nil _ _)) (by simp))
 rw [decide_eq_false_iff_not] at h21
 refine zad ?_
 refine zab ?_
 refine zaa ⟨114,[(2,.I key),(6,.pt 32 0 0),(10,.pv [ints acc,ints fl,.vs 2 false (zaZ R)]),(12,.pt 50 0 0),(14,.I 0)],[(32,some ⟨5,[[.I 0,.B false,.nilS,.nilS,.nilS]],0⟩),(50,some ⟨5,[[.I key,.B false,ints E,.nilS,.nilS]],0⟩)],1300⟩ rfl ?_ ?_
 ·simp
  exact Le.go [(32,32),(50,50)] [51] rfl rfl (by simp) (by simp [fcd,zaj])
 refine zaf ?_
 refine zao (ι:=FSt) (fun s=>⟨114,[(2,.I key),(6,.pt 32 0 0),(10,.pv [ints acc,ints fl,.vs 2 false (zaZ R)]),(12,.pt 50 0 0),(14,.I s.j)],[(32,some ⟨5,[[.I 0,.B false,.nilS,.nilS,.nilS]],0⟩),(50,some ⟨5,[[.I key,.B false,ints E,.nilS,ints s.sd]],0⟩)],1300⟩)
  (fun s=>s.j ≤ R.length ∧ s.sd.length ≤ 130 ∧ ((key,s.sd) ∈ R ∨ ∀ q (h : q < R.length),q < s.j → R[q].1 ≠ key)) (fun s=>R.length - s.j) ⟨0,[]⟩ ⟨Nat.zero_le _,by simp,.inr fun q _ h=>absurd h (Nat.not_lt_zero _)⟩
  (Le.lst [(32,32),(50,50)] [] [] rfl (by simp) (by simp) (by simp) (by simp) (by simp) (by simp) (by simp) (by simp [Up]) (by simp [fcd]; exact ⟨zay.rfl' (by simp),zay.row rfl (by omega) (by simp [UpL,Up,Wk.refl]; exact .nil _ _)⟩)) ?_
 rintro ⟨j,sd⟩ ⟨hj,hsl,hsd⟩
 simp only at hj hsl hsd
 refine zab ?_
 refine zaa ⟨114,[(2,.I key),(6,.pt 32 0 0),(10,.pv [ints acc,ints fl,.vs 2 false (zaZ R)]),(12,.pt 50 0 0),(14,.I j),(93,.B (decide (j < R.length)))],[(32,some ⟨5,[[.I 0,.B false,.nilS,.nilS,.nilS]],0⟩),(50,some ⟨5,[[.I key,.B false,ints E,.nilS,ints sd]],0⟩)],1500⟩ rfl ?_ ?_
 ·simp
  exact LeI [(32,32),(50,50)] []
 refine zac _ rfl (fun h27=>?_) fun h27=>?_
 ·simp at h27
  have hwj : IntKind.i64.wrap ((j : Int) + 1) = ((j + 1 : Nat) : Int):=by rw [w64 (by omega) (by omega)]; omega
  obtain ⟨⟨k,side⟩,hks⟩ : ∃ r,r = R[j]:=⟨_,rfl⟩
  have hRj : R[j]? = some (k,side):=by rw [List.getElem?_eq_getElem h27,← hks]
  have hkm : (k,side) ∈ R:=by rw [hks]; exact List.getElem_mem h27
  obtain ⟨_,_,_,hnear⟩:=hR.right _ hkm
  have hsl2:=hnear.len
  simp only at hsl2
  refine zad ?_
  refine zaI (ι:=List Int) (fun sd=>⟨114,[(2,.I key),(6,.pt 32 0 0),(10,.pv [ints acc,ints fl,.vs 2 false (zaZ R)]),(12,.pt 50 0 0),(14,.I j)],[(32,some ⟨5,[[.I 0,.B false,.nilS,.nilS,.nilS]],0⟩),(50,some ⟨5,[[.I key,.B false,ints E,.nilS,ints sd]],0⟩)],2500⟩)
   (fun sd=>sd.length ≤ 130 ∧ ((key,sd) ∈ R ∨ ∀ q (h : q < R.length),q < j + 1 → R[q].1 ≠ key)) ?_ fun sd2 hsd2=>?_
  ·refine zaf ?_
   refine zaa ⟨114,[(2,.I key),(6,.pt 32 0 0),(10,.pv [ints acc,ints fl,.vs 2 false (zaZ R)]),(12,.pt 50 0 0),(14,.I j),(103,.B (decide (k = key)))],[(32,some ⟨5,[[.I 0,.B false,.nilS,.nilS,.nilS]],0⟩),(50,some ⟨5,[[.I key,.B false,ints E,.nilS,ints sd]],0⟩)],1700⟩ rfl ?_ ?_
   ·simp [hRj]
    exact Le.go [(32,32),(50,50)] [] rfl rfl (by simp <;> exact wkB (by rw [Bool.eq_iff_iff]; simp)) (by simp [fcd])
   refine zac _ rfl (fun h29=>?_) fun h29=>?_
   ·rw [decide_eq_true_eq] at h29
    refine zar rfl ?_
    simp [hRj,zaw]
    exact ⟨by omega,by omega,side,⟨hsl2,.inl (h29 ▸ hkm)⟩,Le.go [(32,32),(50,50)] [1756] rfl rfl (by simp) (by simp [fcd,zaj])⟩
   ·rw [decide_eq_false_iff_not] at h29
    refine zad ?_
    refine ⟨sd,⟨hsl,?_⟩,LeI [(32,32),(50,50)] []⟩
    rcases hsd with h | h
    ·exact .inl h
    ·refine .inr fun q hq hlt=>?_
     rcases Nat.lt_succ_iff_lt_or_eq.1 hlt with h2 | rfl
     ·exact h q hq h2
     ·rw [← hks]; exact h29
  refine zag (s:=?s30) rfl ?o30 ?q30
  case o30=>simp; rfl
  exact ⟨⟨j + 1,sd2⟩,⟨h27,hsd2.1,hsd2.2⟩,Nat.sub_lt_sub_left h27 (Nat.lt_succ_self j),Le.go [(32,32),(50,50)] [] rfl rfl (by simp [hwj]) (by simp [fcd])⟩
 simp at h27
 have hin : (key,sd) ∈ R:=by
  rcases hsd with h | h
  ·exact h
  ·rw [hacc] at h21
   obtain ⟨side,hs2⟩:=hR.all i hi (fun hm=>h21 (by rw [← hok]; exact zn0 hm))
   rw [hok] at hs2
   obtain ⟨q,hq,he⟩:=List.mem_iff_getElem.1 hs2
   exact absurd (by rw [he]) (h q hq (by omega))
 refine zam ?_
 refine hit ?_
 refine zaa ⟨114,[(6,.pt 32 0 0),(7,.I 0)],[(32,some ⟨5,[[.I key,.B false,ints E,.nilS,ints sd]],0⟩)],1700⟩ rfl ?_ ?_
 ·simp [zaw]
  exact LeI [(32,32)] []
 refine zah ?_
 rw [hacc] at h21
 refine zdZ.mk (.inr rfl) ⟨key,false,E,[],sd⟩ ⟨rfl,⟨i,hi,hok,by rw [← hacc]; exact hE⟩,fun h=>absurd h h21,fun _=>⟨rfl,rfl,R,hR,hin⟩⟩ (zan.out [] [] rfl (by simp) (by simp) (by simp; exact wkX (.nil _ _) (.refl _)) (by simp))
def surG (A : List Ed) (f : List Int) (i : Nat) (x : Int) : Int:=- netG A f i x
variable {N : Nat} {A : List Ed} {f : List Int}
theorem ztQ (hl : f.length = A.length) (x : Int) : surG A f A.length x = exF A f x:=by
 unfold surG
 rw [zpM hl]
 omega
set_option maxRecDepth 100000 in
set_option maxHeartbeats 4000000 in
theorem zk9 (hn : za7 ⟨N,A⟩) (hfl : f.length = A.length) (hfb : ∀ j (h : j < f.length),0 ≤ f[j] ∧ f[j] ≤ 1048576) : zak Tryz.prog zdH [eN ⟨N,A⟩,ints f] [] (.rs 0 0 N) [some ⟨1,zae (rowR N (exF A f)),0⟩]:=by
 refine zlQ.acalls (nbz rfl) (nbz rfl) (Nat.zero_le _) ?_
 show awp _ 0 _ _ ⟨43,[(0,eN ⟨N,A⟩),(1,ints f)],[],16⟩
 obtain ⟨hn0,hn1,hal,hav⟩:=hn
 simp only at hn0 hn1 hal hav
 have hbd:=zic hfl hfb
 refine rx (s:=?s1) [1,2] [] [16] rfl ?o1 ?q1
 case o1=>simp; rfl
 refine zaa ⟨43,[(1,ints f),(2,.pv (nC ⟨N,A⟩)),(5,.rs 48 0 N)],[(48,some ⟨1,zae (rowR N (surG A f 0)),0⟩)],64⟩ rfl ?_ ?_
 ·simp
  refine ⟨by omega,by omega,?_⟩
  have : rowR N (surG A f 0) = List.replicate N 0:=by
   unfold rowR surG
   simp only [zjz]
   simp [List.map_const']
  rw [this]
  exact LeH [(48,48)] []
 refine zab ?_
 refine zaa ⟨43,[(1,ints f),(5,.rs 48 0 N),(12,eEs A),(13,.I A.length),(14,.I 0)],[(48,some ⟨1,zae (rowR N (surG A f 0)),0⟩)],96⟩ rfl ?_ ?_
 ·simp
  exact LeI [(48,48)] []
 refine zaf ?_
 refine zao (ι:=Nat) (fun i=>⟨43,[(1,ints f),(5,.rs 48 0 N),(12,eEs A),(13,.I A.length),(14,.I i)],[(48,some ⟨1,zae (rowR N (surG A f i)),0⟩)],96⟩) (fun i=>i ≤ A.length) (fun i=>A.length - i) 0 (Nat.zero_le _) (LeI [(48,48)] []) ?_
 intro i hi
 refine zaa ⟨43,[(1,ints f),(5,.rs 48 0 N),(12,eEs A),(13,.I A.length),(14,.I i),(15,.B (decide (i < A.length)))],[(48,some ⟨1,zae (rowR N (surG A f i)),0⟩)],104⟩ rfl ?_ ?_
 ·simp
  exact LeI [(48,48)] []
 refine zab ?_
 refine zac _ rfl (fun h5=>?_) fun h5=>?_
 ·simp at h5
  have h8 : i < f.length:=by omega
  have hw1 : IntKind.i64.wrap ((i : Int) + 1) = (i : Int) + 1:=w64 (by omega) (by omega)
  obtain ⟨b1,b3⟩:=hfb i h8
  have heo:=hav _ (List.getElem_mem h5)
  have hsucc:=zjj h5 h8
  have hbe:=fun x=>hbd x i (by omega)
  obtain ⟨e,he⟩ : ∃ e,e = A[i]:=⟨_,rfl⟩
  obtain ⟨w,hw⟩ : ∃ w,w = f[i]:=⟨_,rfl⟩
  rw [← he,← hw] at hsucc
  rw [← hw] at b1 b3
  rw [← he] at heo
  obtain ⟨e1,e2,e3,e4,e5,_⟩:=heo
  have hg1 : A[i]? = some e:=by rw [List.getElem?_eq_getElem h5,he]
  have hg2 : f[i]? = some w:=by rw [List.getElem?_eq_getElem h8,hw]
  have h2N : e.f < (N : Int) ∧ e.t < (N : Int):=by omega
  have h1:=hbe e.f
  have h2:=hbe e.t
  have hwx : IntKind.i64.wrap (surG A f i e.f + w) = surG A f i e.f + w:=w64 (by unfold surG; omega) (by unfold surG; omega)
  have hwy : IntKind.i64.wrap (surG A f i e.t - w) = surG A f i e.t - w:=w64 (by unfold surG; omega) (by unfold surG; omega)
  have hr1:=zco (N:=N) (g:=surG A f i) (x:=e.f) e1 (by omega)
  have hs1:=zf7 (N:=N) (g:=surG A f i) (x:=e.f) (v:=surG A f i e.f + w) e1 (by omega)
  obtain ⟨g1,hg1d⟩ : ∃ g1 : Int → Int,g1 = fun y=>if y = e.f then surG A f i e.f + w else surG A f i y:=⟨_,rfl⟩
  rw [← hg1d] at hs1
  have hg1t : g1 e.t = surG A f i e.t:=by rw [hg1d]; exact if_neg fun h=>e5 h.symm
  have hr2:=zco (N:=N) (g:=g1) (x:=e.t) e3 (by omega)
  rw [hg1t] at hr2
  have hs2:=zf7 (N:=N) (g:=g1) (x:=e.t) (v:=surG A f i e.t - w) e3 (by omega)
  have hend : (rowR N fun y=>if y = e.t then surG A f i e.t - w else g1 y) = rowR N (surG A f (i + 1)):=zii fun x=>by
   unfold surG at hg1d ⊢
   rw [hsucc,hg1d]
   simp only
   by_cases h3 : x = e.t
   ·rw [h3,if_pos rfl,if_pos rfl,if_neg e5]
    omega
   ·by_cases h4 : x = e.f
    ·rw [if_neg h3,if_pos h4,if_neg fun h=>h3 h.symm,if_pos h4.symm,h4]
     omega
    ·rw [if_neg h3,if_neg h4,if_neg fun h=>h3 h.symm,if_neg fun h=>h4 h.symm]
     omega
  rw [hend] at hs2
  refine zad ?_
  refine zab ?_
  refine zaf ?_
  refine zaa ⟨43,[(1,ints f),(5,.rs 48 0 N),(6,.I i),(7,.pv (eC e)),(12,eEs A),(13,.I A.length),(14,.I i)],[(48,some ⟨1,zae (rowR N (surG A f i)),0⟩)],152⟩ rfl ?_ ?_
  ·simp [h5,← he]
   exact LeI [(48,48)] [128]
  refine zaq ⟨43,[(1,ints f),(5,.rs 48 0 N),(6,.I i),(7,.pv (eC e)),(12,eEs A),(13,.I A.length),(14,.I i)],[(48,some ⟨1,zae (rowR N g1),0⟩)],400⟩ rfl ?_ ?_
  ·simp [hg2,h8,← hw,hr1,e1,h2N,hwx,zaw]
   exact ⟨rfl,Le.go [(48,48)] [] rfl rfl (by simp) (by simp [fcd,← hs1])⟩
  refine zbI rfl ?_
  simp [hg2,h8,← hw,hr2,e3,h2N,hwy,zaw]
  refine ⟨rfl,?_⟩
  refine zar rfl ?_
  simp
  exact ⟨i + 1,by omega,by omega,Le.go [(48,48)] [] rfl rfl (by simp [hw1]) (by simp [fcd,← hs2])⟩
 simp at h5
 obtain rfl : i = A.length:=by omega
 refine zam ?_
 refine hit ?_
 have hfin : rowR N (surG A f A.length) = rowR N (exF A f):=zii fun x=>ztQ hfl x
 rw [hfin]
 refine zaa ⟨43,[(4,.rs 48 0 N)],[(48,some ⟨1,zae (rowR N (exF A f)),0⟩)],200⟩ rfl ?_ ?_
 ·simp
  exact LeI [(48,48)] []
 refine zah ?_
 exact ⟨.inr rfl,zan.out [48] [] rfl (by simp) (by simp) (by simp) (by simp [fcd])⟩
def zr4 (A : List Ed) (f : List Int) (i : Nat) : Prop:=0 ≤ f.getD i 0 ∧ f.getD i 0 ≤ (arcD A i).v
theorem zih : zaE N A f ↔ f.length = A.length ∧ (∀ i,i < A.length → zr4 A f i) ∧ ∀ x : Nat,2 ≤ x → x < N → exF A f x = 0:=by
 constructor
 ·intro h
  have h1:=zb8.1 h.fit
  exact ⟨h1.1,h1.2,fun x h2 h3=>by have:=h.bal x h2 h3; unfold exF; omega⟩
 ·rintro ⟨h1,h2,h3⟩
  exact ⟨zb8.2 ⟨h1,h2⟩,fun x h4 h5=>by have:=h3 x h4 h5; unfold exF at this; omega⟩
theorem zt8 (g : Int → Int) (N : Nat) : ((rowR N g).drop 2).any (fun x=>!decide (x = 0)) = true ↔ ¬ ∀ x : Nat,2 ≤ x → x < N → g x = 0:=by
 rw [List.any_eq_true]
 constructor
 ·rintro ⟨y,hy,h⟩ hall
  obtain ⟨j,hj,rfl⟩:=List.mem_iff_getElem.1 hy
  rw [List.length_drop,zfi] at hj
  have:=hall (2 + j) (by omega) (by omega)
  simp [rowR] at h
  exact h (by simpa using this)
 ·intro h
  obtain ⟨x,hx⟩:=Classical.not_forall.1 h
  obtain ⟨h1,hx⟩:=Classical.not_imp.1 hx
  obtain ⟨h2,hx⟩:=Classical.not_imp.1 hx
  refine ⟨g x,List.mem_iff_getElem.2 ⟨x - 2,by rw [List.length_drop,zfi]; omega,?_⟩,by simpa using hx⟩
  simp [rowR,show 2 + (x - 2) = x by omega]
theorem ziJ (x : Int) : zak Tryz.prog zdr [.I x] [] (.B (!decide (x = 0))) []:=by
 refine zkL.acalls (nbz rfl) (nbz rfl) (Nat.le_refl _) ?_
 show awp _ 0 _ _ ⟨5,[(0,.I x)],[],16⟩
 refine rx (s:=?s1) [0] [] [] rfl ?o1 ?q1
 case o1=>simp; rfl
 refine zaa ⟨5,[(2,.B (!decide (x = 0)))],[],100⟩ rfl ?_ ?_
 ·simp
  exact Le.go [] [] rfl rfl (by simp <;> exact wkB (by rw [Bool.eq_iff_iff]; simp)) (by simp)
 refine zah ?_
 exact ⟨.inr rfl,zan.one (by simp)⟩
set_option maxRecDepth 100000 in
set_option maxHeartbeats 4000000 in
open Classical in
theorem zhE (hn : za7 ⟨N,A⟩) (hl : f.length ≤ 1099511627776) : zak Tryz.prog zeO [eN ⟨N,A⟩,ints f] [] (.B (decide (zaE N A f))) []:=by
 refine zpf.acalls (nbz rfl) (nbz rfl) (Nat.le_refl _) ?_
 show awp _ 0 _ _ ⟨41,[(0,eN ⟨N,A⟩),(1,ints f)],[],16⟩
 have hchk:=ze5 ⟨N,A⟩ (by have:=hn.2.2.1; simp only at this ⊢; omega)
 rw [if_pos hn] at hchk
 have hn':=hn
 obtain ⟨hn0,hn1,hal,hav⟩:=hn
 simp only at hn0 hn1 hal hav
 refine rx (s:=?s1) [1,2] [] [16] rfl ?o1 ?q1
 case o1=>simp; rfl
 refine zab ?_
 refine zaa ⟨41,[(1,ints f),(2,.pv (nC ⟨N,A⟩)),(17,.B (!decide (f.length = A.length)))],[],120⟩ rfl ?_ ?_
 ·simp
  refine zal hchk (by simp) ?_
  simp
  exact Le.go [] [] rfl rfl (by simp <;> exact wkB (by rw [Bool.eq_iff_iff]; simp <;> omega)) (by simp)
 refine zac _ rfl (fun h3=>?_) fun h3=>?_
 ·simp at h3
  refine rx (s:=?s4) [4] [] [] rfl ?o4 ?q4
  case o4=>simp; rfl
  refine zah ?_
  have hno : ¬ zaE N A f:=fun h=>h3 (zih.1 h).1
  exact ⟨.inr rfl,zan.one (by simp [hno])⟩
 simp at h3
 refine zad ?_
 refine zab ?_
 refine rx (s:=?s5) [1,2,19,20,21] [] [] rfl ?o5 ?q5
 case o5=>simp; rfl
 refine zaf ?_
 refine zao (ι:=Nat) (fun i=>⟨41,[(1,ints f),(2,.pv (nC ⟨N,A⟩)),(19,eEs A),(20,.I A.length),(21,.I i)],[],152⟩) (fun i=>i ≤ A.length ∧ ∀ k,k < i → zr4 A f k) (fun i=>A.length - i) 0 (by simp) (LeH [] []) ?_
 rintro i ⟨hi,hp⟩
 refine rx (s:=?s6) [1,2,19,20,21,22] [] [] rfl ?o6 ?q6
 case o6=>simp; rfl
 refine zab ?_
 refine zac _ rfl (fun h7=>?_) fun h7=>?_
 ·simp at h7
  have hw1 : IntKind.i64.wrap ((i : Int) + 1) = (i : Int) + 1:=w64 (by omega) (by omega)
  have hif : i < f.length:=by omega
  obtain ⟨e,he⟩ : ∃ e,e = A[i]:=⟨_,rfl⟩
  obtain ⟨w,hw⟩ : ∃ w,w = f[i]:=⟨_,rfl⟩
  have hfa : zr4 A f i ↔ 0 ≤ w ∧ w ≤ e.v:=by
   unfold zr4 arcD
   rw [List.getD_eq_getElem?_getD,List.getElem?_eq_getElem hif,Option.getD_some,List.getD_eq_getElem?_getD,List.getElem?_eq_getElem h7,Option.getD_some,he,hw]
  refine zad ?_
  refine zab ?_
  refine zaf ?_
  refine zaa ⟨41,[(1,ints f),(2,.pv (nC ⟨N,A⟩)),(5,.I i),(6,.pv (eC e)),(19,eEs A),(20,.I A.length),(21,.I i)],[],300⟩ rfl ?_ ?_
  ·simp [h7,← he]
   exact LeH [] [184]
  refine zaq ⟨41,[(1,ints f),(2,.pv (nC ⟨N,A⟩)),(19,eEs A),(20,.I A.length),(21,.I i),(33,.B (!decide (0 ≤ w ∧ w ≤ e.v)))],[],400⟩ rfl ?_ ?_
  ·simp [hif,← hw]
   refine zal (zbv w 0 e.v) (by simp) ?_
   simp
   exact ⟨rfl,Le.go [] [] rfl rfl (by simp <;> exact wkB (by rw [Bool.eq_iff_iff]; simp)) (by simp)⟩
  refine zac _ rfl (fun h10=>?_) fun h10=>?_
  ·have h10' : ¬ (0 ≤ w ∧ w ≤ e.v):=by simp at h10; omega
   refine rx (s:=?s11) [4] [] [] rfl ?o11 ?q11
   case o11=>simp; rfl
   refine zah ?_
   have hno : ¬ zaE N A f:=fun h=>h10' (hfa.1 ((zih.1 h).2.1 i h7))
   exact ⟨.inr rfl,zan.one (by simp [hno])⟩
  have h10' : 0 ≤ w ∧ w ≤ e.v:=by simpa using h10
  refine zad ?_
  refine zar rfl ?_
  simp
  refine ⟨i + 1,⟨by omega,fun k hk=>?_⟩,by omega,Le.go [] [] rfl rfl (by simp [hw1]) (by simp)⟩
  rcases Nat.lt_succ_iff_lt_or_eq.1 hk with h | h
  ·exact hp k h
  ·rw [h]; exact hfa.2 h10'
 simp at h7
 obtain rfl : i = A.length:=by omega
 have hfb : ∀ j (h : j < f.length),0 ≤ f[j] ∧ f[j] ≤ 1048576:=fun j hj=>by
  have h1:=hp j (by omega)
  unfold zr4 at h1
  have e1 : f.getD j 0 = f[j]:=by rw [List.getD_eq_getElem?_getD,List.getElem?_eq_getElem hj,Option.getD_some]
  have e2 : arcD A j = A[j]'(by omega):=by unfold arcD; rw [List.getD_eq_getElem?_getD,List.getElem?_eq_getElem (by omega),Option.getD_some]
  rw [e1,e2] at h1
  have h2:=(hav _ (List.getElem_mem (show j < A.length by omega))).2.2.2.2.2.2.2.2
  omega
 refine zam ?_
 refine hit ?_
 have hsur:=zk9 hn' h3 hfb
 have hcf:=ziL zdr [] (fun x=>!decide (x = 0)) ((rowR N (exF A f)).drop 2) (by rw [List.length_drop,zfi]; omega) (fun ρ sn h k=>by simp) (fun e _=>ziJ e)
 have hiff : zaE N A f ↔ ((rowR N (exF A f)).drop 2).any (fun x=>!decide (x = 0)) = false:=by
  rw [← Bool.not_eq_true,zt8,Classical.not_not,zih]
  exact ⟨fun h=>h.2.2,fun h=>⟨h3,hp,h⟩⟩
 obtain ⟨l,hld⟩ : ∃ l,l = rowR N (exF A f):=⟨_,rfl⟩
 have hll : l.length = N:=by rw [hld,zfi]
 rw [← hld] at hsur hcf hiff
 obtain ⟨b,hb⟩ : ∃ b,b = (l.drop 2).any (fun x=>!decide (x = 0)):=⟨_,rfl⟩
 rw [← hb] at hcf hiff
 refine zaa ⟨41,[(4,.B (!b))],[],300⟩ rfl ?_ ?_
 ·simp
  refine zaM hsur (by simp) ?_
  simp
  refine zt9 2 (i:=176) rfl rfl (by omega) ?_
  simp
  have h2N : 2 + (N - 2) ≤ N:=by omega
  refine zeG [176] hcf (by simp [fcd,hll,h2N]; exact List.take_of_length_le (by simp; omega)) (.sc _) ?_
  simp
  exact LeH [] []
 refine zah ?_
 exact ⟨.inr rfl,zan.one (by simp [hiff])⟩
set_option maxRecDepth 100000 in
open Classical in
theorem zhw (hn : za7 ⟨N,A⟩) (hl : f.length ≤ 1099511627776) : zak Tryz.prog ze4 [eN ⟨N,A⟩,ints f] [] (.I (if zaE N A f then valF A f else 0)) []:=by
 refine zo1.acalls (nbz rfl) (nbz rfl) (Nat.le_refl _) ?_
 show awp _ 0 _ _ ⟨14,[(0,eN ⟨N,A⟩),(1,ints f)],[],16⟩
 have hvl:=zhE hn hl
 refine rx (s:=?s1) [1,2] [] [16] rfl ?o1 ?q1
 case o1=>simp; rfl
 refine zab ?_
 refine rx (s:=?s2) [1,2,8] [] [] rfl ?o2 ?q2
 case o2=>simp; refine zal hvl (by simp) ?_; simp; rfl
 refine zac _ rfl (fun h3=>?_) fun h3=>?_
 ·simp at h3
  refine rx (s:=?s4) [4] [] [] rfl ?o4 ?q4
  case o4=>simp; rfl
  refine zah ?_
  exact ⟨.inr rfl,zan.one (by simp [h3])⟩
 simp at h3
 have h31:=zb8.1 h3.fit
 have hav:=hn.2.2.2
 simp only at hav
 have hfb : ∀ j (h : j < f.length),0 ≤ f[j] ∧ f[j] ≤ 1048576:=fun j hj=>by
  have h1:=h31.2 j (by omega)
  have e1 : f.getD j 0 = f[j]:=by rw [List.getD_eq_getElem?_getD,List.getElem?_eq_getElem hj,Option.getD_some]
  have e2 : arcD A j = A[j]'(by omega):=by unfold arcD; rw [List.getD_eq_getElem?_getD,List.getElem?_eq_getElem (by omega),Option.getD_some]
  rw [e1,e2] at h1
  have h2:=(hav _ (List.getElem_mem (show j < A.length by omega))).2.2.2.2.2.2.2.2
  omega
 have hsur:=zk9 hn h31.1 hfb
 have hv:=zoZ (f:=f) (zdE hn)
 have hn0:=hn.1
 simp only at hn0
 have hr:=zco (N:=N) (g:=exF A f) (x:=0) (Int.le_refl _) (by omega)
 rw [hv] at hr
 obtain ⟨l,hld⟩ : ∃ l,l = rowR N (exF A f):=⟨_,rfl⟩
 rw [← hld] at hsur hr
 simp only [Int.toNat_zero] at hr
 refine zad ?_
 refine zaa ⟨14,[(4,.I (valF A f))],[],300⟩ rfl ?_ ?_
 ·simp
  refine zaM hsur (by simp) ?_
  have h0N : 0 < (N : Int):=by omega
  simp [hr,h0N]
  exact ⟨by omega,LeH [] []⟩
 refine zah ?_
 exact ⟨.inr rfl,zan.one (by simp [h3])⟩
structure PwSt where
 W : List (List Nat)
 g : List Int
structure PiSt where
 l : List Nat
 w : Int
 g : List Int
 V : List Int
 R : List (List AV)
structure zwg (A : List Ed) (f : List Int) (s : PiSt) : Prop where
 left : zeE A f s.g s.l s.w
 v : s.V.take s.l.length = natL s.l
 vl : s.l.length ≤ s.V.length
 r : MapI s.R (metF A s.l)
set_option maxRecDepth 100000 in
set_option maxHeartbeats 8000000 in
open Classical in
theorem znt (N : Nat) (A : List Ed) (f : List Int) (hn : za7 ⟨N,A⟩) (hf : zaE N A f) (hNl : N ≤ 130) :
  ∃ W : List (List Nat),((∃ g',zeH N A f g' W) ∧ (W.length : Int) = valF A f ∧ ∀ w ∈ W,w.length ≤ 130) ∧ zak Tryz.prog zgJ [eN ⟨N,A⟩,ints f] [] (.tup [.vs 1 false (W.map fun w=>[ints (natL w)]),.I 0]) []:=by
 refine zoN.acallsX (args:=[eN ⟨N,A⟩,ints f]) (hs:=[]) (fun W=>.tup [.vs 1 false (W.map fun w=>[ints (natL w)]),.I 0]) (fun _=>[]) (fun W : List (List Nat)=>(∃ g',zeH N A f g' W) ∧ (W.length : Int) = valF A f ∧ ∀ w ∈ W,w.length ≤ 130) (nbz rfl) (nbz rfl) (fun _=>Nat.le_refl _) ?_
 show awp _ 0 _ _ ⟨119,[(0,eN ⟨N,A⟩),(1,ints f)],[],16⟩
 have hno:=zdE hn
 have hfit:=zb8.1 hf.fit
 have hfl:=hf.fit.len
 have hal:=hn.2.2.1
 simp only at hal
 have hchk:=ze5 ⟨N,A⟩ (by simp only; omega)
 rw [if_pos hn] at hchk
 have hvld:=zhE (f:=f) hn (by omega)
 rw [decide_eq_true hf] at hvld
 have hval:=zhw (f:=f) hn (by omega)
 rw [if_pos hf] at hval
 have hclone:=zeA f (by omega)
 have hex:=zoZ (f:=f) hno
 have hbal:=hf.balF
 have hv0:=zhY hno hbal
 have hfb : ∀ i,f.getD i 0 ≤ 1048576:=fun i=>by
  by_cases hi : i < A.length
  ·have h1:=hfit.2 i hi
   have h2 : (arcD A i).v ≤ 1048576:=(hn.2.2.2 _ (zbD hi)).2.2.2.2.2.2.2.2
   omega
  ·rw [List.getD_eq_getElem?_getD,List.getElem?_eq_none (by omega)]
   simp
 obtain ⟨vl,hvl⟩ : ∃ vl : Nat,valF A f = (vl : Int):=⟨(valF A f).toNat,by omega⟩
 rw [hvl] at hval hex
 have htf : ∀ h : Int → List AV,List.take A.length (List.map h f) = List.map h f:=fun h=>List.take_of_length_le (by simp; omega)
 have hvb : vl ≤ 10000000000:=by
  have hb:=zie (A:=A) (f:=f) hfl (fun q hq=>⟨by have:=(hfit.2 q (by omega)).1; rwa [zek hq] at this,by have:=hfb q; rwa [zek hq] at this⟩) 0 A.length (Nat.le_refl _)
  rw [List.take_of_length_le (Nat.le_refl _),List.take_of_length_le (by omega)] at hb
  unfold exF at hex
  rw [zfz hno] at hex
  omega
 refine zaa ⟨119,[(1,ints f),(2,.pv (nC ⟨N,A⟩))],[],100⟩ rfl ?_ ?_
 ·simp
  exact LeH [] [16]
 refine zab ?_
 refine zaa ⟨119,[(1,ints f),(2,.pv (nC ⟨N,A⟩)),(6,.I 0)],[],200⟩ rfl ?_ ?_
 ·simp
  refine zal hchk (by simp) ?_
  simp
  exact LeH [] []
 refine zaa ⟨119,[(1,ints f),(2,.pv (nC ⟨N,A⟩)),(20,.B false)],[],300⟩ rfl ?_ ?_
 ·simp
  exact LeH [] []
 refine zac _ rfl (fun h=>by cases h) fun _=>?_
 refine zad ?_
 refine zab ?_
 refine zaa ⟨119,[(1,ints f),(2,.pv (nC ⟨N,A⟩)),(25,.B false)],[],400⟩ rfl ?_ ?_
 ·simp
  refine zal hvld (by simp) ?_
  simp
  exact LeH [] []
 refine zac _ rfl (fun h=>by cases h) fun _=>?_
 refine zad ?_
 refine zaa ⟨119,[(1,ints f),(2,.pv (nC ⟨N,A⟩)),(7,.rs 18 0 A.length)],[(18,some ⟨1,zae f,0⟩)],500⟩ rfl ?_ ?_
 ·simp
  refine zaM hclone (by simp) ?_
  simp
  exact Le.go [(408,18)] [] rfl rfl (by simp [hfl]) (by simp [fcd])
 refine zaa ⟨119,[(1,ints f),(2,.pv (nC ⟨N,A⟩)),(7,.rs 18 0 A.length),(8,.nilS)],[(18,some ⟨1,zae f,0⟩)],600⟩ rfl ?_ ?_
 ·simp
  exact LeI [(18,18)] []
 refine zab ?_
 refine zaa ⟨119,[(2,.pv (nC ⟨N,A⟩)),(7,.rs 18 0 A.length),(8,.nilS),(30,.I vl),(31,.I 0)],[(18,some ⟨1,zae f,0⟩)],700⟩ rfl ?_ ?_
 ·simp
  refine zal hval (by simp) ?_
  simp
  exact LeI [(18,18)] []
 refine zaf ?_
 refine zao (ι:=PwSt) (fun s=>⟨119,[(2,.pv (nC ⟨N,A⟩)),(7,.rs 18 0 A.length),(8,.rs 17 0 s.W.length),(30,.I vl),(31,.I s.W.length)],[(18,some ⟨1,zae s.g,0⟩),(17,some ⟨1,s.W.map fun w=>[ints (natL w)],0⟩)],700⟩)
  (fun s=>zeH N A f s.g s.W ∧ s.W.length ≤ vl ∧ ∀ w ∈ s.W,w.length ≤ 130) (fun s=>vl - s.W.length) ⟨[],f⟩ ⟨zeH.nil hbal,Nat.zero_le _,by simp⟩
  (Le.lst [(18,18)] [] [(17,1)] rfl (by simp) (by simp) (by simp) (by simp) (by simp) (by simp) (by simp) (by simp [Up]) (by simp [fcd]; exact zay.rfl' (by simp))) ?_
 rintro ⟨W,g0⟩ ⟨hT,hWv,hWl⟩
 simp only at hT hWv hWl
 have hg0l:=hT.bal.len
 have hg0b : ∀ i,g0.getD i 0 ≤ 1048576:=fun i=>by
  have h1:=hT.used i
  have h2:=hfb i
  omega
 have htW : ∀ h : List Nat → List AV,List.take W.length (List.map h W) = List.map h W:=fun h=>List.take_of_length_le (by simp)
 refine zaa ⟨119,[(2,.pv (nC ⟨N,A⟩)),(7,.rs 18 0 A.length),(8,.rs 17 0 W.length),(30,.I vl),(31,.I W.length),(32,.B (decide (W.length < vl)))],[(18,some ⟨1,zae g0,0⟩),(17,some ⟨1,W.map fun w=>[ints (natL w)],0⟩)],800⟩ rfl ?_ ?_
 ·simp
  exact LeI [(18,18),(17,17)] []
 refine zab ?_
 refine zac _ rfl (fun h13=>?_) fun h13=>?_
 ·rw [decide_eq_true_eq] at h13
  have hpos : 0 < exF A g0 0:=by have:=hT.ex; omega
  refine zad ?_
  refine zab ?_
  refine zaf ?_
  refine zaa ⟨119,[(2,.pv (nC ⟨N,A⟩)),(7,.rs 18 0 A.length),(8,.rs 17 0 W.length),(9,.nilS),(30,.I vl),(31,.I W.length)],[(18,some ⟨1,zae g0,0⟩),(17,some ⟨1,W.map fun w=>[ints (natL w)],0⟩)],900⟩ rfl ?_ ?_
  ·simp
   exact LeI [(18,18),(17,17)] []
  refine zaa ⟨119,[(2,.pv (nC ⟨N,A⟩)),(7,.rs 18 0 A.length),(8,.rs 17 0 W.length),(9,.nilS),(10,.mp 20),(30,.I vl),(31,.I W.length)],[(18,some ⟨1,zae g0,0⟩),(17,some ⟨1,W.map fun w=>[ints (natL w)],0⟩),(20,some ⟨0,[[.I 0,.I 0]],0⟩)],1000⟩ rfl ?_ ?_
  ·simp [mset]
   exact LeI [(18,18),(17,17),(900,20)] []
  refine zab ?_
  refine zaa ⟨119,[(2,.pv (nC ⟨N,A⟩)),(7,.rs 18 0 A.length),(8,.rs 17 0 W.length),(9,.nilS),(10,.mp 20),(11,.pt 21 0 0),(30,.I vl),(31,.I W.length)],[(18,some ⟨1,zae g0,0⟩),(17,some ⟨1,W.map fun w=>[ints (natL w)],0⟩),(20,some ⟨0,[[.I 0,.I 0]],0⟩),(21,some ⟨1,[[.I 0]],0⟩)],1100⟩ rfl ?_ ?_
  ·simp
   exact LeI [(18,18),(17,17),(20,20),(1000,21)] []
  refine zaf ?_
  refine zao (ι:=PiSt) (fun s=>⟨119,[(2,.pv (nC ⟨N,A⟩)),(7,.rs 18 0 A.length),(8,.rs 17 0 W.length),(9,.rs 19 0 s.l.length),(10,.mp 20),(11,.pt 21 0 0),(30,.I vl),(31,.I W.length)],[(18,some ⟨1,zae s.g,0⟩),(17,some ⟨1,W.map fun w=>[ints (natL w)],0⟩),(19,some ⟨1,zae s.V,0⟩),(20,some ⟨0,s.R,0⟩),(21,some ⟨1,[[.I s.w]],0⟩)],1100⟩)
   (fun s=>zwg A g0 s) (fun s=>totN s.g) ⟨[],0,g0,[],[[.I 0,.I 0]]⟩ ⟨zeE.start hg0l hT.bal.nonneg,rfl,Nat.le_refl _,zqf A⟩
   (Le.lst [(18,18),(17,17),(20,20),(21,21)] [] [(19,1)] rfl (by simp) (by simp) (by simp) (by simp) (by simp) (by simp) (by simp) (by simp [Up]) (by simp [fcd]; exact ⟨zay.rfl' (by simp),zay.rfl' (by simp),zay.rfl' (by simp),zay.rfl' (by simp)⟩)) ?_
  rintro ⟨l,w,g,V,R⟩ ⟨hL,hV,hVl,hR⟩
  simp only at hL hV hVl hR
  have hfew:=hL.few hno
  have hgl:=hL.len
  have htV : ∀ h : Int → List AV,List.take l.length (List.map h V) = List.map h (natL l):=fun h=>by rw [← List.map_take,hV]
  have hRc:=fun ρ sn h=>hR.conv' ρ sn h
  refine zab ?_
  refine zaa ⟨119,[(2,.pv (nC ⟨N,A⟩)),(7,.rs 18 0 A.length),(8,.rs 17 0 W.length),(9,.rs 19 0 l.length),(10,.mp 20),(11,.pt 21 0 0),(30,.I vl),(31,.I W.length),(36,.B (decide (w ≠ 1)))],[(18,some ⟨1,zae g,0⟩),(17,some ⟨1,W.map fun w=>[ints (natL w)],0⟩),(19,some ⟨1,zae V,0⟩),(20,some ⟨0,R,0⟩),(21,some ⟨1,[[.I w]],0⟩)],1200⟩ rfl ?_ ?_
  ·simp
   exact Le.go [(18,18),(17,17),(19,19),(20,20),(21,21)] [] rfl rfl (by simp <;> exact wkB (by rw [Bool.eq_iff_iff]; simp)) (by simp [fcd,hRc])
  refine zac _ rfl (fun h18=>?_) fun h18=>?_
  ·rw [decide_eq_true_eq] at h18
   obtain ⟨j,hj,hjf,hjg⟩:=hL.go_on hno hT.bal h18 fun _=>hpos
   have hjq : decide (A[j].f = w) = true:=by rw [decide_eq_true_eq,← hjf,zcQ hj]
   obtain ⟨i0,hi0,hi0j⟩:=zuh (q:=fun e : Ed=>decide (e.f = w)) hj hjq
   have hidx:=zhg zdn [.pv [.I w]] (fun e=>decide (e.f = w)) A (by omega) (fun ρ sn h k=>by simp [conv]) fun e _=>ziV e w
   rw [hi0] at hidx
   refine zad ?_
   refine zab ?_
   refine zaf ?_
   refine zaa ⟨119,[(2,.pv (nC ⟨N,A⟩)),(7,.rs 18 0 A.length),(8,.rs 17 0 W.length),(9,.rs 19 0 l.length),(10,.mp 20),(11,.pt 21 0 0),(12,.I i0),(30,.I vl),(31,.I W.length)],[(18,some ⟨1,zae g,0⟩),(17,some ⟨1,W.map fun w=>[ints (natL w)],0⟩),(19,some ⟨1,zae V,0⟩),(20,some ⟨0,R,0⟩),(21,some ⟨1,[[.I w]],0⟩)],1300⟩ rfl ?_ ?_
   ·simp
    refine zeG [21] hidx (by simp) (.sc _) ?_
    simp
    exact Le.go [(18,18),(17,17),(19,19),(20,20),(21,21)] [] rfl rfl (by simp) (by simp [fcd,hRc])
   refine zab ?_
   refine zaf ?_
   refine zao (ι:=Nat) (fun i=>⟨119,[(2,.pv (nC ⟨N,A⟩)),(7,.rs 18 0 A.length),(8,.rs 17 0 W.length),(9,.rs 19 0 l.length),(10,.mp 20),(11,.pt 21 0 0),(12,.I i),(30,.I vl),(31,.I W.length)],[(18,some ⟨1,zae g,0⟩),(17,some ⟨1,W.map fun w=>[ints (natL w)],0⟩),(19,some ⟨1,zae V,0⟩),(20,some ⟨0,R,0⟩),(21,some ⟨1,[[.I w]],0⟩)],1300⟩) (fun i=>i ≤ j) (fun i=>j - i) i0 hi0j (Le.go [(18,18),(17,17),(19,19),(20,20),(21,21)] [] rfl rfl (by simp) (by simp [fcd,hRc])) ?_
   intro i hij
   have hi : i < A.length:=by omega
   have hig : i < g.length:=by omega
   have hi1 : (0 : Int) ≤ i ∧ (i : Int) < A.length:=by omega
   have hgA : A[i]? = some A[i]:=List.getElem?_eq_getElem hi
   have hgg : g[i]? = some g[i]:=List.getElem?_eq_getElem hig
   have hwi : IntKind.i64.wrap ((i : Int) + 1) = ((i + 1 : Nat) : Int):=by rw [w64 (by omega) (by omega)]; omega
   obtain ⟨b,hb⟩ : ∃ b,b = decide (A[i].f ≠ w ∨ g[i] = 0):=⟨_,rfl⟩
   refine zab ?_
   refine zaq ⟨119,[(2,.pv (nC ⟨N,A⟩)),(7,.rs 18 0 A.length),(8,.rs 17 0 W.length),(9,.rs 19 0 l.length),(10,.mp 20),(11,.pt 21 0 0),(12,.I i),(30,.I vl),(31,.I W.length),(62,.B b)],[(18,some ⟨1,zae g,0⟩),(17,some ⟨1,W.map fun w=>[ints (natL w)],0⟩),(19,some ⟨1,zae V,0⟩),(20,some ⟨0,R,0⟩),(21,some ⟨1,[[.I w]],0⟩)],1600⟩ rfl ?_ ?_
   ·by_cases c1 : A[i].f = w
    ·have hb' : b = decide (g[i] = 0):=by rw [hb,decide_eq_decide]; simp [c1]
     simp [hi,hi1,hgA,c1,hig,hgg]
     exact ⟨rfl,Le.go [(18,18),(17,17),(19,19),(20,20),(21,21)] [] rfl rfl (by simp <;> exact wkB (by rw [hb',Bool.eq_iff_iff]; simp)) (by simp [fcd,hRc])⟩
    ·have hb' : b = true:=by rw [hb,decide_eq_true_eq]; exact .inl c1
     have c1' : (A[i].f != w) = true:=by simp [c1]
     simp [hi,hi1,hgA,c1']
     exact ⟨rfl,Le.go [(18,18),(17,17),(19,19),(20,20),(21,21)] [] rfl rfl (by simp [hb']) (by simp [fcd,hRc])⟩
   refine zac _ rfl (fun h21=>?_) fun h21=>?_
   ·rw [h21] at hb
    have hne : i ≠ j:=fun e=>by
     subst e
     have:=of_decide_eq_true hb.symm
     rw [zcQ hi] at hjf
     rcases this with h | h
     ·exact h hjf
     ·rw [zek hig,h] at hjg
      exact absurd hjg (by omega)
    refine zad ?_
    refine zaf ?_
    refine zar rfl ?_
    simp
    exact ⟨i + 1,by omega,by omega,Le.go [(18,18),(17,17),(19,19),(20,20),(21,21)] [] rfl rfl (by simp [hwi]) (by simp [fcd,hRc])⟩
   rw [h21] at hb
   have hbn:=of_decide_eq_false hb.symm
   have hif : (arcD A i).f = w:=by rw [zcQ hi]; exact Decidable.byContradiction fun h=>hbn (.inl h)
   have hgi0:=hL.nonneg i
   have hgn : g[i] ≠ 0:=fun h=>hbn (.inr h)
   have hgp : 0 < g.getD i 0:=by rw [zek hig] at hgi0 ⊢; omega
   obtain ⟨x,hx⟩ : ∃ x,x = g.getD i 0:=⟨_,rfl⟩
   have hgi : g[i] = x:=by rw [hx,zek hig]
   have hus:=hL.used i
   have hg0i:=hg0b i
   obtain ⟨g2,hg2⟩ : ∃ g2,g2 = g.set i (x - 1):=⟨_,rfl⟩
   have hmore:=hL.more hi hif hgp
   have htot:=zmn hig hgp
   rw [← hx] at hgp hus hmore htot
   rw [← hg2] at hmore htot
   obtain ⟨t,ht⟩ : ∃ t,t = (arcD A i).t:=⟨_,rfl⟩
   rw [← ht] at hmore
   have hAt : A[i].t = t:=by rw [ht,zcQ hi]
   have hwx : IntKind.i64.wrap (x - 1) = x - 1:=w64 (by omega) (by omega)
   refine zam ?_
   refine hit ?_
   refine zaa ⟨119,[(2,.pv (nC ⟨N,A⟩)),(7,.rs 18 0 A.length),(8,.rs 17 0 W.length),(9,.rs 19 0 l.length),(10,.mp 20),(11,.pt 21 0 0),(12,.I i),(30,.I vl),(31,.I W.length)],[(18,some ⟨1,zae g2,0⟩),(17,some ⟨1,W.map fun w=>[ints (natL w)],0⟩),(19,some ⟨1,zae V,0⟩),(20,some ⟨0,R,0⟩),(21,some ⟨1,[[.I w]],0⟩)],1700⟩ rfl ?_ ?_
   ·simp [hi1,hi,hgi,hig,hwx,zaw]
    exact Le.go [(18,18),(17,17),(19,19),(20,20),(21,21)] [] rfl rfl (by simp) (by simp [fcd,hg2,hRc])
   obtain ⟨V2,hV2⟩ : ∃ V2,V2 = natL l ++ [(i : Int)]:=⟨_,rfl⟩
   have hV2l : V2.length = l.length + 1:=by rw [hV2]; simp [natL]
   obtain ⟨L1,hL1⟩ : ∃ L1,L1 = l.length + 1:=⟨_,rfl⟩
   refine zaq ⟨119,[(2,.pv (nC ⟨N,A⟩)),(7,.rs 18 0 A.length),(8,.rs 17 0 W.length),(9,.rs 19 0 L1),(10,.mp 20),(11,.pt 21 0 0),(30,.I vl),(31,.I W.length)],[(18,some ⟨1,zae g2,0⟩),(17,some ⟨1,W.map fun w=>[ints (natL w)],0⟩),(19,some ⟨1,zae V2,0⟩),(20,some ⟨0,R,0⟩),(21,some ⟨1,[[.I t]],0⟩)],1900⟩ rfl ?_ ?_
   ·simp [hi1,hi,htV,hAt,zaw]
    refine ⟨by omega,by omega,by omega,rfl,Le.go [(18,18),(17,17),(1724,19),(20,20),(21,21)] [] rfl rfl (by simp [hL1]) (by simp [fcd,hRc,hV2])⟩
   cases hpk : posN ((0 : Int) :: metA A l) t with
   | none =>
     have hmn:=zrN hpk
     have htn : t ∉ (0 : Int) :: metA A l:=zjv.1 hpk
     have hl2:=hmore.1 htn
     have hR2 : MapI (mset t (.I (L1 : Int)) R) (metF A (l ++ [i])):=hR.set t _ (by rw [zsd (by rw [← ht]; exact htn),ht,hL1])
     obtain ⟨R2,hR2d⟩ : ∃ R2,R2 = mset t (.I (L1 : Int)) R:=⟨_,rfl⟩
     have hfind:=hR.is.find t
     rw [hmn] at hfind
     have hR2c:=fun ρ sn h=>hR2.conv' ρ sn h
     rw [← hR2d] at hR2
     refine zab ?_
     refine zaa ⟨119,[(2,.pv (nC ⟨N,A⟩)),(7,.rs 18 0 A.length),(8,.rs 17 0 W.length),(9,.rs 19 0 L1),(10,.mp 20),(11,.pt 21 0 0),(14,.B false),(30,.I vl),(31,.I W.length)],[(18,some ⟨1,zae g2,0⟩),(17,some ⟨1,W.map fun w=>[ints (natL w)],0⟩),(19,some ⟨1,zae V2,0⟩),(20,some ⟨0,R,0⟩),(21,some ⟨1,[[.I t]],0⟩)],2000⟩ rfl ?_ ?_
     ·simp [hfind]
      exact Le.go [(18,18),(17,17),(19,19),(20,20),(21,21)] [] rfl rfl (by simp) (by simp [fcd,hRc])
     refine zaa ⟨119,[(2,.pv (nC ⟨N,A⟩)),(7,.rs 18 0 A.length),(8,.rs 17 0 W.length),(9,.rs 19 0 L1),(10,.mp 20),(11,.pt 21 0 0),(30,.I vl),(31,.I W.length),(87,.B false)],[(18,some ⟨1,zae g2,0⟩),(17,some ⟨1,W.map fun w=>[ints (natL w)],0⟩),(19,some ⟨1,zae V2,0⟩),(20,some ⟨0,R,0⟩),(21,some ⟨1,[[.I t]],0⟩)],2100⟩ rfl ?_ ?_
     ·simp
      exact Le.go [(18,18),(17,17),(19,19),(20,20),(21,21)] [] rfl rfl (by simp) (by simp [fcd,hRc])
     refine zac _ rfl (fun h=>by cases h) fun _=>?_
     refine zad ?_
     refine zar rfl ?_
     simp
     refine rk (s:=?s32) [2,7,8,9,10,30,31,111] [18,17,19,20] rfl ?o32 ?q32
     case o32=>simp; rfl
     refine zar rfl ?_
     simp
     refine ⟨⟨l ++ [i],t,g2,V2,R2⟩,⟨hl2,?_,by simp only [List.length_append,List.length_singleton]; omega,hR2⟩,htot,Le.go [(18,18),(17,17),(19,19),(20,20),(2148,21)] [] rfl rfl (by simp [hL1]) (by simp [fcd,hR2c,hR2d])⟩
     simp only
     rw [List.take_of_length_le (by simp; omega),hV2]
     simp [natL]
   | some k =>
     have hms:=zrA hpk
     have hpg:=zl5 hpk
     have hl2:=hmore.2 k hpg
     have hkl : k ≤ l.length:=by
      have:=(List.getElem?_eq_some_iff.1 hpg).1
      simp [metA] at this
      omega
     have hback:=zrK hL.met (i:=i) (by rw [← ht]; exact hpk)
     have hfind:=hR.is.find t
     rw [hms] at hfind
     refine zab ?_
     refine zaa ⟨119,[(2,.pv (nC ⟨N,A⟩)),(7,.rs 18 0 A.length),(8,.rs 17 0 W.length),(9,.rs 19 0 L1),(10,.mp 20),(11,.pt 21 0 0),(13,.I k),(14,.B true),(30,.I vl),(31,.I W.length)],[(18,some ⟨1,zae g2,0⟩),(17,some ⟨1,W.map fun w=>[ints (natL w)],0⟩),(19,some ⟨1,zae V2,0⟩),(20,some ⟨0,R,0⟩),(21,some ⟨1,[[.I t]],0⟩)],2000⟩ rfl ?_ ?_
     ·simp [hfind]
      exact Le.go [(18,18),(17,17),(19,19),(20,20),(21,21)] [] rfl rfl (by simp) (by simp [fcd,hRc])
     refine zaa ⟨119,[(2,.pv (nC ⟨N,A⟩)),(7,.rs 18 0 A.length),(8,.rs 17 0 W.length),(9,.rs 19 0 L1),(10,.mp 20),(11,.pt 21 0 0),(13,.I k),(30,.I vl),(31,.I W.length),(87,.B true)],[(18,some ⟨1,zae g2,0⟩),(17,some ⟨1,W.map fun w=>[ints (natL w)],0⟩),(19,some ⟨1,zae V2,0⟩),(20,some ⟨0,R,0⟩),(21,some ⟨1,[[.I t]],0⟩)],2100⟩ rfl ?_ ?_
     ·simp
      exact Le.go [(18,18),(17,17),(19,19),(20,20),(21,21)] [] rfl rfl (by simp) (by simp [fcd,hRc])
     refine zac _ rfl (fun _=>?_) fun h=>by cases h
     refine zab ?_
     obtain ⟨m,hm⟩ : ∃ m,m = l.length + 1 - k:=⟨_,rfl⟩
     have hL1m : m = L1 - k:=by omega
     obtain ⟨d,hd⟩ : ∃ d,d = (l ++ [i]).drop k:=⟨_,rfl⟩
     have hdl : d.length = m:=by rw [hd,hm]; simp
     have hVd : ∀ (q : Nat) (h : q < d.length),V2[k + q]? = some ((d[q] : Nat) : Int):=fun q h=>by
      have e : V2 = natL (l ++ [i]):=by rw [hV2]; simp [natL]
      subst hd
      rw [e]
      unfold natL
      rw [List.getElem?_map,List.getElem_drop,List.getElem?_eq_getElem (by simp at h ⊢; omega)]
      rfl
     have hdm : ∀ (q : Nat) (h : q < d.length),d[q] < A.length:=fun q h=>by
      have : d[q] ∈ l ++ [i]:=by
       subst hd
       exact List.mem_of_mem_drop (List.getElem_mem h)
      rcases List.mem_append.1 this with h2 | h2
      ·exact hL.way.mem _ h2
      ·rw [List.mem_singleton.1 h2]; exact hi
     rw [← hd] at hback
     refine zaa ⟨119,[(2,.pv (nC ⟨N,A⟩)),(7,.rs 18 0 A.length),(8,.rs 17 0 W.length),(9,.rs 19 0 L1),(10,.mp 20),(11,.pt 21 0 0),(13,.I k),(30,.I vl),(31,.I W.length),(90,.rs 19 k m),(91,.I m),(92,.I 0)],[(18,some ⟨1,zae g2,0⟩),(17,some ⟨1,W.map fun w=>[ints (natL w)],0⟩),(19,some ⟨1,zae V2,0⟩),(20,some ⟨0,R,0⟩),(21,some ⟨1,[[.I t]],0⟩)],2300⟩ rfl ?_ ?_
     ·simp
      refine ⟨by omega,?_⟩
      rw [← hL1m]
      exact Le.go [(18,18),(17,17),(19,19),(20,20),(21,21)] [] rfl rfl (by simp) (by simp [fcd,hRc])
     refine zaf ?_
     refine zao (ι:=Nat × List (List AV)) (fun s=>⟨119,[(2,.pv (nC ⟨N,A⟩)),(7,.rs 18 0 A.length),(8,.rs 17 0 W.length),(9,.rs 19 0 L1),(10,.mp 20),(11,.pt 21 0 0),(13,.I k),(30,.I vl),(31,.I W.length),(90,.rs 19 k m),(91,.I m),(92,.I s.1)],[(18,some ⟨1,zae g2,0⟩),(17,some ⟨1,W.map fun w=>[ints (natL w)],0⟩),(19,some ⟨1,zae V2,0⟩),(20,some ⟨0,s.2,0⟩),(21,some ⟨1,[[.I t]],0⟩)],2300⟩)
      (fun s=>s.1 ≤ m ∧ MapI s.2 (delF A l (d.take s.1))) (fun s=>m - s.1) (0,R) ⟨Nat.zero_le _,by rw [List.take_zero,ztJ]; exact hR⟩ (Le.go [(18,18),(17,17),(19,19),(20,20),(21,21)] [] rfl rfl (by simp) (by simp [fcd,hRc])) ?_
     clear hRc hfind
     rintro ⟨q,R⟩ ⟨hq,hR⟩
     simp only at hq hR
     have hRc:=fun ρ sn h=>hR.conv' ρ sn h
     refine zaa ⟨119,[(2,.pv (nC ⟨N,A⟩)),(7,.rs 18 0 A.length),(8,.rs 17 0 W.length),(9,.rs 19 0 L1),(10,.mp 20),(11,.pt 21 0 0),(13,.I k),(30,.I vl),(31,.I W.length),(90,.rs 19 k m),(91,.I m),(92,.I q),(93,.B (decide (q < m)))],[(18,some ⟨1,zae g2,0⟩),(17,some ⟨1,W.map fun w=>[ints (natL w)],0⟩),(19,some ⟨1,zae V2,0⟩),(20,some ⟨0,R,0⟩),(21,some ⟨1,[[.I t]],0⟩)],2400⟩ rfl ?_ ?_
     ·simp
      exact Le.go [(18,18),(17,17),(19,19),(20,20),(21,21)] [] rfl rfl (by simp) (by simp [fcd,hRc])
     refine zab ?_
     refine zac _ rfl (fun h29=>?_) fun h29=>?_
     ·rw [decide_eq_true_eq] at h29
      have hqd : q < d.length:=by omega
      have hVq:=hVd q hqd
      have hdq:=hdm q hqd
      obtain ⟨a,ha⟩ : ∃ a,a = d[q]:=⟨_,rfl⟩
      rw [← ha] at hVq hdq
      have hdt : d.take (q + 1) = d.take q ++ [a]:=by rw [ha]; exact List.take_succ_eq_append_getElem hqd
      have hwq : IntKind.i64.wrap ((q : Int) + 1) = ((q + 1 : Nat) : Int):=by rw [w64 (by omega) (by omega)]; omega
      have hA1 : A[a]? = some A[a]:=List.getElem?_eq_getElem hdq
      have ha1 : (0 : Int) ≤ a ∧ (a : Int) < A.length:=by omega
      have hR3 : MapI (mdel A[a].t R) (delF A l (d.take (q + 1))):=hR.del A[a].t (by rw [hdt,zsj,zcQ hdq])
      obtain ⟨R3,hR3d⟩ : ∃ R3,R3 = mdel A[a].t R:=⟨_,rfl⟩
      rw [← hR3d] at hR3
      have hR3c:=fun ρ sn h=>hR3.conv' ρ sn h
      refine zad ?_
      refine zab ?_
      refine zaf ?_
      refine zaa ⟨119,[(2,.pv (nC ⟨N,A⟩)),(7,.rs 18 0 A.length),(8,.rs 17 0 W.length),(9,.rs 19 0 L1),(10,.mp 20),(11,.pt 21 0 0),(13,.I k),(16,.I a),(30,.I vl),(31,.I W.length),(90,.rs 19 k m),(91,.I m),(92,.I q)],[(18,some ⟨1,zae g2,0⟩),(17,some ⟨1,W.map fun w=>[ints (natL w)],0⟩),(19,some ⟨1,zae V2,0⟩),(20,some ⟨0,R,0⟩),(21,some ⟨1,[[.I t]],0⟩)],2500⟩ rfl ?_ ?_
      ·simp [h29,hVq]
       exact Le.go [(18,18),(17,17),(19,19),(20,20),(21,21)] [] rfl rfl (by simp) (by simp [fcd,hRc])
      refine zar rfl ?_
      simp [ha1,hA1,hdq]
      rw [← hR3d]
      refine zar rfl ?_
      simp
      exact ⟨q + 1,R3,⟨by omega,hR3⟩,by omega,Le.go [(18,18),(17,17),(19,19),(20,20),(21,21)] [] rfl rfl (by simp [hwq]) (by simp [fcd,hR3c])⟩
     rw [decide_eq_false_iff_not] at h29
     obtain rfl : q = m:=by omega
     rw [List.take_of_length_le (by omega)] at hR
     have hR4 : MapI (mset t (.I (k : Int)) R) (metF A (l.take k)):=hR.set t k (by
      rw [hback]
      funext x
      unfold delF
      rw [hd,ht])
     obtain ⟨R4,hR4d⟩ : ∃ R4,R4 = mset t (.I (k : Int)) R:=⟨_,rfl⟩
     have hR4c:=fun ρ sn h=>hR4.conv' ρ sn h
     rw [← hR4d] at hR4
     refine zam ?_
     refine hit ?_
     refine zar rfl ?_
     simp
     refine ⟨by omega,?_⟩
     refine zar rfl ?_
     simp
     refine rk (s:=?s33) [2,7,8,9,10,30,31,111] [18,17,19,20] rfl ?o33 ?q33
     case o33=>simp; rfl
     refine zar rfl ?_
     simp
     have hlk : (l.take k).length = k:=by rw [List.length_take]; omega
     refine ⟨⟨l.take k,t,g2,V2,R4⟩,⟨hl2,?_,by simp only [hlk]; omega,hR4⟩,htot,Le.go [(18,18),(17,17),(19,19),(20,20),(2480,21)] [] rfl rfl (by simp [hlk]) (by simp [fcd,hR4c,hR4d])⟩
     simp only [hlk]
     rw [hV2,List.take_append_of_le_length (by rw [zdo]; exact hkl)]
     unfold natL
     rw [List.map_take]
  rw [decide_eq_false_iff_not,Decidable.not_not] at h18
  subst h18
  have hT2:=hT.more hL
  have hcl2:=zeA (natL l) (by rw [zdo]; omega)
  have hwW : IntKind.i64.wrap ((W.length : Int) + 1) = ((W.length + 1 : Nat) : Int):=by rw [w64 (by omega) (by omega)]; omega
  refine zam ?_
  refine hit ?_
  refine zar rfl ?_
  simp
  refine zgI [19] hcl2 (by simp [fcd,htV,hVl,zdo]) (.rs _ _ _) znA ?_
  simp [htW]
  refine ⟨by omega,by omega,?_⟩
  refine zar rfl ?_
  simp
  refine ⟨⟨W ++ [l],g⟩,⟨hT2,by simp only [List.length_append,List.length_singleton]; omega,fun w hw=>?_⟩,by simp only [List.length_append,List.length_singleton]; omega,Le.go [(18,18),(1232,17)] [1216] rfl rfl (by simp [hwW]) (by simp [fcd,zaj])⟩
  rcases List.mem_append.1 hw with h | h
  ·exact hWl w h
  ·rw [List.mem_singleton] at h
   subst h
   omega
 rw [decide_eq_false_iff_not] at h13
 refine zam ?_
 refine hit ?_
 refine zaa ⟨119,[(4,.vs 1 false (W.map fun w=>[ints (natL w)])),(5,.I 0)],[],1500⟩ rfl ?_ ?_
 ·simp
  exact Le.go [] [17] rfl rfl (by simp [htW,fcd]) (by simp)
 refine zah ?_
 exact zdZ.mk (.inr rfl) W ⟨⟨g0,hT⟩,by omega,hWl⟩ (zan.out [] [] rfl (by simp) (by simp) (by simp) (by simp))
structure SSt where
 s : BSt
 R : List (List AV)
 m : Nat
 i : Nat
def zja (A : List Ed) (f D : List Int) (l : List Stp) : Prop:=∀ s ∈ l,0 < zbd A f s → stT A s ∈ D
theorem zja.nil {A : List Ed} {f D : List Int} : zja A f D []:=fun s h=>by simp at h
set_option maxRecDepth 100000 in
set_option maxHeartbeats 4000000 in
theorem zpI (N : Nat) (A : List Ed) (f : List Int) (hn : za7 ⟨N,A⟩) (hf : Fit2 A f) :
  ∃ x : List Int × List Int × List (List AV),(Bfs N A f x.1 x.2.1 ∧ zex A f x.1 ∧ MapF x.2.2 (camF x.1 x.2.1)) ∧ zak Tryz.prog zbs [eR N A (ints f)] [] (.mp 0) [some ⟨0,x.2.2,0⟩]:=by
 refine zfT.acallsX (args:=[eR N A (ints f)]) (hs:=[]) (fun x=>.mp 0) (fun x=>[some ⟨0,x.2.2,0⟩]) (fun x : List Int × List Int × List (List AV)=>Bfs N A f x.1 x.2.1 ∧ zex A f x.1 ∧ MapF x.2.2 (camF x.1 x.2.1)) (nbz rfl) (nbz rfl) (fun _=>by simp) ?_
 show awp _ 0 _ _ ⟨59,[(0,eR N A (ints f))],[],16⟩
 have hroom:=fun s hs=>zrZ N A f s hn hf hs
 have hrng:=fun (s : Stp) (hs : s.1 < A.length)=>zkV hn hs
 obtain ⟨hn0,hn1,hal,hav⟩:=hn
 simp only at hn0 hn1 hal hav
 have hR0 : MapF ([[.I 0,.agg [.I (-1),.B false]]]) (camF [0] (List.replicate N 0)):=⟨by rw [zqo]; exact MapR.nil.set 0 (.agg [.I (-1),.B false]),zfD _ _⟩
 refine zaa ⟨59,[(1,.pv (rC N A (ints f)))],[],32⟩ rfl ?_ ?_
 ·simp
  exact LeH [] [16]
 refine zaa ⟨59,[(1,.pv (rC N A (ints f))),(3,.mp 32)],[(32,some ⟨0,[[.I 0,.agg [.I (-1),.B false]]],0⟩)],72⟩ rfl ?_ ?_
 ·simp [mset]
  exact LeH [(32,32)] []
 obtain ⟨R0,hR0d⟩ : ∃ R0 : List (List AV),R0 = [[.I 0,.agg [.I (-1),.B false]]]:=⟨_,rfl⟩
 rw [← hR0d] at hR0 ⊢
 refine zab ?_
 refine zaa ⟨59,[(1,.pv (rC N A (ints f))),(3,.mp 32),(4,.rs 72 0 1)],[(32,some ⟨0,R0,0⟩),(72,some ⟨1,zae [0],0⟩)],88⟩ rfl ?_ ?_
 ·simp
  exact Le.go [(32,32),(72,72)] [] rfl rfl (by simp) (by simp [hR0.conv'])
 refine zaf ?_
 refine zao (ι:=SSt) (fun t=>⟨59,[(1,.pv (rC N A (ints f))),(3,.mp 32),(4,.rs 72 t.s.off t.s.q)],[(32,some ⟨0,t.R,0⟩),(72,some ⟨1,zae t.s.Z,0⟩)],88⟩)
  (fun t=>BInv N A f t.s t.m ∧ zeR A f t.s.D t.m ∧ MapF t.R (camF t.s.D t.s.b)) (fun t=>N - t.m) ⟨⟨[0],List.replicate N 0,[0],0,1⟩,R0,0,0⟩
  ⟨⟨Bfs.start (by omega),rfl,rfl,rfl⟩,fun s _ h=>by simp at h,hR0⟩ (Le.go [(32,32),(72,72)] [] rfl rfl (by simp) (by simp [hR0.conv'])) ?_
 rintro ⟨s,R,m,_⟩ ⟨hb,hcl,hR⟩
 simp only at hb hcl hR
 have hfew:=hb.bfs.few
 have hbd:=hb.d
 have hbz:=hb.z
 refine zab ?_
 refine zaa ⟨59,[(1,.pv (rC N A (ints f))),(3,.mp 32),(4,.rs 72 s.off s.q),(17,.B (decide (0 < s.q)))],[(32,some ⟨0,R,0⟩),(72,some ⟨1,zae s.Z,0⟩)],112⟩ rfl ?_ ?_
 ·simp
  exact Le.go [(32,32),(72,72)] [] rfl rfl (by simp) (by simp [hR.conv',fcd])
 refine zac _ rfl (fun h5=>?_) fun h5=>?_
 ·simp at h5
  obtain ⟨hmD,hk⟩:=hb.head h5
  have hoff : s.off < s.Z.length:=by omega
  obtain ⟨k,hkd⟩ : ∃ k,k = s.D[m]:=⟨_,rfl⟩
  rw [← hkd] at hk
  have hkD : k ∈ s.D:=hkd ▸ List.getElem_mem hmD
  have hkr:=hb.bfs.rng k hkD
  obtain ⟨kn,hkn,hknN⟩ : ∃ kn : Nat,k = kn ∧ kn < N:=⟨k.toNat,by omega,by omega⟩
  obtain ⟨L,hL⟩ : ∃ L,L = zgL A A.length kn:=⟨_,rfl⟩
  have hLm : ∀ st : Stp,st ∈ L ↔ st.1 < A.length ∧ stF A st = k:=fun st=>by rw [hL,hkn]; exact zli
  have hLl : L.length ≤ 2 * A.length:=by rw [hL]; exact zhO A kn A.length
  have hfe : famE A A.length kn = L.map zbp:=by rw [hL]; rfl
  refine zad ?_
  refine zab ?_
  refine zaf ?_
  refine zaq ⟨59,[(1,.pv (rC N A (ints f))),(3,.mp 32),(4,.rs 72 s.off s.q),(26,.vs 2 false (L.map zbp)),(27,.I L.length),(28,.I 0)],[(32,some ⟨0,R,0⟩),(72,some ⟨1,zae s.Z,0⟩)],184⟩ rfl ?_ ?_
  ·simp [hk,h5,hkn,hknN,hfe]
   exact ⟨rfl,Le.go [(32,32),(72,72)] [] rfl rfl (by simp [hfe]) (by simp [hR.conv',fcd])⟩
  refine zaf ?_
  refine zao (ι:=SSt) (fun t=>⟨59,[(1,.pv (rC N A (ints f))),(3,.mp 32),(4,.rs 72 t.s.off t.s.q),(26,.vs 2 false (L.map zbp)),(27,.I L.length),(28,.I t.i)],[(32,some ⟨0,t.R,0⟩),(72,some ⟨1,zae t.s.Z,0⟩)],184⟩)
   (fun t=>BInv N A f t.s m ∧ MapF t.R (camF t.s.D t.s.b) ∧ t.i ≤ L.length ∧ zja A f t.s.D (L.take t.i) ∧ ∃ l,t.s.D = s.D ++ l) (fun t=>L.length - t.i) ⟨s,R,m,0⟩
   ⟨hb,hR,Nat.zero_le _,by rw [List.take_zero]; exact zja.nil,[],by simp⟩ (Le.go [(32,32),(72,72)] [] rfl rfl (by simp) (by simp [hR.conv',fcd])) ?_
  rintro ⟨t,R,_,i⟩ ⟨ht,hR,hi,htc,l,htl⟩
  simp only at ht hR hi htc htl
  have htz:=ht.z
  have htd:=ht.d
  have htf:=ht.bfs.few
  refine zaa ⟨59,[(1,.pv (rC N A (ints f))),(3,.mp 32),(4,.rs 72 t.off t.q),(26,.vs 2 false (L.map zbp)),(27,.I L.length),(28,.I i),(29,.B (decide (i < L.length)))],[(32,some ⟨0,R,0⟩),(72,some ⟨1,zae t.Z,0⟩)],192⟩ rfl ?_ ?_
  ·simp
   exact Le.go [(32,32),(72,72)] [] rfl rfl (by simp) (by simp [hR.conv',fcd])
  refine zab ?_
  refine zac _ rfl (fun h8=>?_) fun h8=>?_
  ·simp at h8
   have hw : IntKind.i64.wrap ((i : Int) + 1) = (i : Int) + 1:=w64 (by omega) (by omega)
   obtain ⟨st,hst⟩ : ∃ st,st = L[i]:=⟨_,rfl⟩
   obtain ⟨hs1,hs2⟩:=(hLm st).1 (hst ▸ List.getElem_mem h8)
   have hrm:=hroom st hs1
   obtain ⟨hr1,hr2⟩:=hrng st hs1
   have hpush:=fun (h1 : 0 < zbd A f st) (h2 : stT A st ∉ t.D)=>ht.bfs.push (s:=st) hs1 (by rw [hs2,htl]; exact List.mem_append_left _ hkD) h1 h2 hr1 hr2
   have hcam:=fun (h2 : stT A st ∉ t.D)=>zsI ht.bfs h2 hr1 hr2
   have hsome:=zgv t.D t.b (stT A st)
   have hfind:=hR.is.find (stT A st)
   have htake : ∀ D',(∃ l,D' = t.D ++ l) → stT A st ∈ D' ∨ ¬ 0 < zbd A f st → zja A f D' (L.take (i + 1)):=fun D' hD' h s' hs' hr=>by
    rw [List.take_succ_eq_append_getElem h8,← hst] at hs'
    obtain ⟨l',rfl⟩:=hD'
    rcases List.mem_append.1 hs' with h' | h'
    ·exact List.mem_append_left _ (htc s' h' hr)
    ·rw [List.mem_singleton] at h'
     subst h'
     exact h.resolve_right fun hn=>hn hr
   obtain ⟨T,hT⟩ : ∃ T,T = stT A st:=⟨_,rfl⟩
   obtain ⟨rm,hrmd⟩ : ∃ rm,rm = zbd A f st:=⟨_,rfl⟩
   rw [← hT,← hrmd] at hrm hpush htake
   rw [← hT] at hcam hsome hfind
   refine zad ?_
   refine zab ?_
   refine zaf ?_
   refine zaa ⟨59,[(1,.pv (rC N A (ints f))),(3,.mp 32),(4,.rs 72 t.off t.q),(6,.pv (zbp st)),(26,.vs 2 false (L.map zbp)),(27,.I L.length),(28,.I i)],[(32,some ⟨0,R,0⟩),(72,some ⟨1,zae t.Z,0⟩)],232⟩ rfl ?_ ?_
   ·simp [h8,← hst]
    exact Le.go [(32,32),(72,72)] [208] rfl rfl (by simp) (by simp [hR.conv',fcd])
   refine zaa ⟨59,[(1,.pv (rC N A (ints f))),(3,.mp 32),(4,.rs 72 t.off t.q),(6,.pv (zbp st)),(7,.I rm),(8,.I T),(26,.vs 2 false (L.map zbp)),(27,.I L.length),(28,.I i)],[(32,some ⟨0,R,0⟩),(72,some ⟨1,zae t.Z,0⟩)],300⟩ rfl ?_ ?_
   ·simp
    refine zal hrm (by simp) ?_
    simp
    exact Le.go [(32,32),(72,72)] [] rfl rfl (by simp) (by simp [hR.conv',fcd])
   refine zaa ⟨59,[(1,.pv (rC N A (ints f))),(3,.mp 32),(4,.rs 72 t.off t.q),(6,.pv (zbp st)),(7,.I rm),(8,.I T),(10,.B (decide (T ∈ t.D))),(26,.vs 2 false (L.map zbp)),(27,.I L.length),(28,.I i)],[(32,some ⟨0,R,0⟩),(72,some ⟨1,zae t.Z,0⟩)],400⟩ rfl ?_ ?_
   ·have hgd : ∃ u v,(camF t.D t.b T).getD (toAV (Value.agg #[Value.int IntKind.i64 0,Value.bool false])) = .agg [.sc u,.sc v]:=by
     cases hc : camF t.D t.b T with
     | none=>exact ⟨.int .i64 0,.bool false,by simp [toAV,Value.oneCell']⟩
     | some x =>
       obtain ⟨u,v,rfl⟩:=zfD _ _ _ _ hc
       exact ⟨u,v,rfl⟩
    obtain ⟨u,v,huv⟩:=hgd
    simp [hfind,hsome,huv]
    exact Le.go [(32,32),(72,72)] [] rfl rfl (by simp) (by simp [hR.conv',fcd])
   refine zaa ⟨59,[(1,.pv (rC N A (ints f))),(3,.mp 32),(4,.rs 72 t.off t.q),(6,.pv (zbp st)),(8,.I T),(26,.vs 2 false (L.map zbp)),(27,.I L.length),(28,.I i),(49,.B (decide (0 < rm ∧ T ∉ t.D)))],[(32,some ⟨0,R,0⟩),(72,some ⟨1,zae t.Z,0⟩)],500⟩ rfl ?_ ?_
   ·simp
    refine zb2 (fun hb=>?_) (fun hb=>?_) <;> (try rw [hb]) <;> (try simp at hb) <;> simp [hb]
    ·exact Le.go [(32,32),(72,72)] [] rfl rfl (by simp [hb]) (by simp [hR.conv',fcd])
    ·exact Le.go [(32,32),(72,72)] [] rfl rfl (by simp [hb]) (by simp [hR.conv',fcd])
   refine zac _ rfl (fun h13=>?_) fun h13=>?_
   ·rw [decide_eq_true_eq] at h13
    have hbu:=hpush h13.1 h13.2
    have hRu:=hR.set T (zqN st) (hcam h13.2)
    have hmore:=ht.more hbu
    have hfw:=hbu.few
    rw [List.length_append,List.length_singleton] at hfw
    have hbt : ∀ g : Int → List AV,List.take t.q (List.drop t.off (List.map g t.Z)) = List.map g (t.Z.drop t.off):=fun g=>by rw [← List.map_drop,List.take_of_length_le (by simp; omega)]
    obtain ⟨R',hR'⟩ : ∃ R',R' = mset T (zqN st) R:=⟨_,rfl⟩
    rw [← hR'] at hRu
    refine zaa ⟨59,[(1,.pv (rC N A (ints f))),(3,.mp 32),(4,.rs 72 t.off t.q),(8,.I T),(26,.vs 2 false (L.map zbp)),(27,.I L.length),(28,.I i)],[(32,some ⟨0,R',0⟩),(72,some ⟨1,zae t.Z,0⟩)],600⟩ rfl ?_ ?_
    ·simp
     rw [show mset T (.agg [.I st.1,.B st.2]) R = R' from hR'.symm]
     exact Le.go [(32,32),(72,72)] [] rfl rfl (by simp) (by simp [hRu.conv',fcd])
    refine zar rfl ?_
    simp [hbt]
    refine ⟨by omega,by omega,by omega,?_⟩
    refine zar rfl ?_
    simp
    refine ⟨⟨⟨t.D ++ [T],t.b.set T.toNat (encS st),t.Z.drop t.off ++ [T],0,t.q + 1⟩,R',m,i + 1⟩,⟨hmore,hRu,h8,htake _ ⟨[T],rfl⟩ (.inl (by simp)),l ++ [T],by simp only [htl,List.append_assoc]⟩,by simp only; omega,?_⟩
    exact Le.go [(32,32),(624,72)] [] rfl rfl (by simp [hw]) (by simp [hRu.conv',fcd])
   ·rw [decide_eq_false_iff_not] at h13
    refine zad ?_
    refine zar rfl ?_
    simp
    refine ⟨⟨t,R,m,i + 1⟩,⟨ht,hR,h8,htake _ ⟨[],by simp⟩ ?_,l,htl⟩,by simp only; omega,Le.go [(32,32),(72,72)] [] rfl rfl (by simp [hw]) (by simp [hR.conv',fcd])⟩
    by_cases h : 0 < rm
    ·exact .inl (Decidable.byContradiction fun hn=>h13 ⟨h,hn⟩)
    ·exact .inr h
  simp at h8
  obtain rfl : i = L.length:=by omega
  refine zam ?_
  refine hit ?_
  have hlen : t.D.length = s.D.length + l.length:=by rw [htl,List.length_append]
  have hq : 0 < t.q:=by omega
  have htc' : zeZ A f t.D s.D[m] A.length:=fun st h1 h2 h3=>by
   refine htc st ?_ h3
   rw [List.take_length]
   exact (hLm st).2 ⟨h1,by rw [hkd]; exact h2⟩
  refine zar rfl ?_
  simp
  refine zt9 1 (i:=72) rfl rfl hq ?_
  simp
  exact ⟨⟨{ t with off:=t.off + 1,q:=t.q - 1 },R,m + 1,0⟩,⟨ht.pop hq,zeR.next hmD hcl htc' htl,hR⟩,by simp only; omega,Le.go [(32,32),(72,72)] [] rfl rfl (by simp) (by simp [hR.conv',fcd])⟩
 simp at h5
 have hmD : m = s.D.length:=by omega
 refine zam ?_
 refine hit ?_
 refine zaa ⟨59,[(2,.mp 32)],[(32,some ⟨0,R,0⟩)],200⟩ rfl ?_ ?_
 ·simp
  exact Le.go [(32,32)] [] rfl rfl (by simp) (by simp [hR.conv'])
 refine zah ?_
 exact zdZ.mk (.inr rfl) (s.D,s.b,R) ⟨hb.bfs,by rw [hmD] at hcl; exact hcl.all,hR⟩ (zan.out [32] [] rfl (by simp) (by simp) (by simp) (by simp [hR.conv']))
theorem zp1 : toAV (Value.agg #[Value.int IntKind.i64 0,Value.bool false]) = .agg [.sc (.int .i64 0),.sc (.bool false)]:=by simp [toAV,Value.oneCell']
theorem zu3 {a b : Int} : Plain (.tup [.I a,.I b]):=.tup _ fun i=>match i with
 | 0=>.sc _
 | 1=>.sc _
 | _ + 2=>.dead
structure zu9 where
 j : Nat
 v : Int
def wayB (l : List Stp) (j : Nat) : List Stp:=(l.drop j).reverse
theorem zps (l : List Stp) (j : Nat) : (wayB l j).length = l.length - j:=by simp [wayB]
theorem zrO {l : List Stp} {j : Nat} (h : j < l.length) : wayB l j = wayB l (j + 1) ++ [l[j]]:=by
 unfold wayB
 rw [List.drop_eq_getElem_cons h,List.reverse_cons]
theorem ztH (l : List Stp) : wayB l l.length = []:=by simp [wayB]
theorem zqe {N : Nat} {A : List Ed} {f D b : List Int} {l : List Stp} (hb : Bfs N A f D b) (hl : zlg N A f b l) {j : Nat} (hj : j < l.length) : camF D b (stT A l[j]) = some (zqN l[j]):=by
 obtain ⟨q1,q2,q3,q4,q5,q6⟩:=hl.at_ j hj
 have hD : stT A l[j] ∈ D:=Decidable.byContradiction fun h=>zt2 l[j] (by rw [← q6]; exact hb.out _ q4 h)
 unfold camF
 rw [if_pos hD,if_neg q3,q6,zoH]
set_option maxRecDepth 100000 in
set_option maxHeartbeats 8000000 in
theorem zvl (N : Nat) (A : List Ed) (f : List Int) (hn : za7 ⟨N,A⟩) (hf : zaE N A f) :
  ∃ x : Bool × List Int,(if x.1 then zaE N A x.2 ∧ valF A f + 1 ≤ valF A x.2 else x.2 = f ∧ ∀ f',zaE N A f' → valF A f' ≤ valF A f) ∧ zak Tryz.prog zcv [eR N A (.rs 0 0 A.length)] [⟨1,zae f,0⟩] (.B x.1) [some ⟨1,zae x.2,0⟩]:=by
 refine zgC.acallsX (args:=[eR N A (.rs 0 0 A.length)]) (hs:=[⟨1,zae f,0⟩]) (fun x=>.B x.1) (fun x=>[some ⟨1,zae x.2,0⟩]) (fun x : Bool × List Int=>if x.1 then zaE N A x.2 ∧ valF A f + 1 ≤ valF A x.2 else x.2 = f ∧ ∀ f',zaE N A f' → valF A f' ≤ valF A f) (nbz rfl) (nbz rfl) (fun _=>by simp) ?_
 show awp _ 1 _ _ ⟨86,[(0,eR N A (.rs 0 0 A.length))],[(0,some ⟨1,zae f,0⟩)],16⟩
 have hno:=zdE hn
 have hfl:=hf.fit.len
 have hfit:=zb8.1 hf.fit
 obtain ⟨⟨D,b,R⟩,⟨hb,hcl,hR⟩,hcall⟩:=zpI N A f hn hf.fit
 simp only at hb hcl hR hcall
 have hroom:=fun s hs=>zrZ N A f s hn hf.fit hs
 obtain ⟨hn0,hn1,hal,hav⟩:=hn
 simp only at hn0 hn1 hal hav
 have htake : ∀ g : Int → List AV,List.take A.length (List.map g f) = List.map g f:=fun g=>List.take_of_length_le (by simp; omega)
 have hfind:=hR.is.find
 have hsome:=zgv D b 1
 refine zaa ⟨86,[(1,.pt 16 0 0)],[(0,some ⟨1,zae f,0⟩),(16,some ⟨4,[rC N A (.rs 0 0 A.length)],0⟩)],32⟩ rfl ?_ ?_
 ·simp
  exact LeI [(0,0),(16,16)] []
 refine zaa ⟨86,[(1,.pt 16 0 0),(3,.mp 60)],[(0,some ⟨1,zae f,0⟩),(16,some ⟨4,[rC N A (.rs 0 0 A.length)],0⟩),(60,some ⟨0,R,0⟩)],100⟩ rfl ?_ ?_
 ·simp
  refine zgI [0] hcall (by simp [fcd,htake,hfl]) (.mp _) (hR.plain _ _) ?_
  simp
  exact Le.go [(0,0),(16,16),(40,60)] [] rfl rfl (by simp) (by simp [fcd,hR.conv'])
 refine zab ?_
 have hgd : ∃ u v,(camF D b 1).getD (toAV (Value.agg #[Value.int IntKind.i64 0,Value.bool false])) = .agg [.sc u,.sc v]:=by
  cases hc : camF D b 1 with
  | none=>exact ⟨_,_,zp1⟩
  | some x =>
    obtain ⟨u,v,rfl⟩:=zfD _ _ _ _ hc
    exact ⟨u,v,rfl⟩
 refine zaa ⟨86,[(1,.pt 16 0 0),(3,.mp 60),(5,.B (decide ((1 : Int) ∈ D)))],[(0,some ⟨1,zae f,0⟩),(16,some ⟨4,[rC N A (.rs 0 0 A.length)],0⟩),(60,some ⟨0,R,0⟩)],200⟩ rfl ?_ ?_
 ·obtain ⟨u,v,huv⟩:=hgd
  simp [hfind,hsome,huv]
  exact Le.go [(0,0),(16,16),(60,60)] [] rfl rfl (by simp) (by simp [fcd,hR.conv'])
 refine zaa ⟨86,[(1,.pt 16 0 0),(3,.mp 60),(22,.B (!decide ((1 : Int) ∈ D)))],[(0,some ⟨1,zae f,0⟩),(16,some ⟨4,[rC N A (.rs 0 0 A.length)],0⟩),(60,some ⟨0,R,0⟩)],300⟩ rfl ?_ ?_
 ·simp
  exact Le.go [(0,0),(16,16),(60,60)] [] rfl rfl (by simp) (by simp [fcd,hR.conv'])
 refine zac _ rfl (fun h5=>?_) fun h5=>?_
 ·have h1D : (1 : Int) ∉ D:=by simpa using h5
  refine zaa ⟨86,[(2,.B false)],[(0,some ⟨1,zae f,0⟩)],400⟩ rfl ?_ ?_
  ·simp
   exact LeI [(0,0)] []
  refine zah ?_
  exact zdZ.mk (.inr rfl) (false,f) ⟨rfl,(zhG hno hf hb.mem0 h1D hcl).2⟩ (zan.k1 rfl (by simp) (by simp [fcd]))
 have h1D : (1 : Int) ∈ D:=by simpa using h5
 obtain ⟨l,hl⟩:=hb.chain h1D
 have hle:=zoJ hl.way
 have hlr : ∀ s ∈ l,s.1 < f.length:=fun s hs=>by
  obtain ⟨i,hi,rfl⟩:=List.mem_iff_getElem.1 hs
  have:=(hl.at_ i hi).1
  omega
 have hl0 : 0 < l.length:=by
  cases hll : l with
  | nil=>rw [hll] at hle; cases hle
  | cons=>simp
 have hlA : l.length ≤ A.length:=by
  have:=za5 (a:=l.map fun s=>(s.1 : Int)) (b:=(List.range A.length).map fun i : Nat=>(i : Int)) (by
   have:=hl.nodup
   have e : (l.map fun s=>(s.1 : Int)) = (l.map (·.1)).map fun i : Nat=>(i : Int):=by simp
   rw [e]
   exact zdL (fun i j h=>by have h2 : (i : Int) = j:=h; omega) this) fun x hx=>by
   obtain ⟨s,hs,rfl⟩:=List.mem_map.1 hx
   exact List.mem_map.2 ⟨s.1,List.mem_range.2 (by have:=hlr s hs; omega),rfl⟩
  rw [List.length_map,List.length_map,List.length_range] at this
  exact this
 have hcam:=fun j (hj : j < l.length)=>zqe hb hl hj
 refine zad ?_
 refine zaa ⟨86,[(1,.pt 16 0 0),(3,.mp 60),(6,.rs 61 0 0)],[(0,some ⟨1,zae f,0⟩),(16,some ⟨4,[rC N A (.rs 0 0 A.length)],0⟩),(60,some ⟨0,R,0⟩),(61,some ⟨2,[],0⟩)],400⟩ rfl ?_ ?_
 ·simp
  refine Le.lst [(0,0),(16,16),(60,60)] [] [(61,2)] rfl (by simp) (by simp) (by simp) (by simp) (by simp) (by simp) (by simp) (by simp [Up]) ?_
  simp [fcd,hR.conv']
  exact ⟨zay.rfl' (Nat.zero_le _),zay.rfl' (Nat.zero_le _),zay.rfl' (Nat.zero_le _)⟩
 refine zaa ⟨86,[(1,.pt 16 0 0),(3,.mp 60),(6,.rs 61 0 0),(7,.I 1048576)],[(0,some ⟨1,zae f,0⟩),(16,some ⟨4,[rC N A (.rs 0 0 A.length)],0⟩),(60,some ⟨0,R,0⟩),(61,some ⟨2,[],0⟩)],500⟩ rfl ?_ ?_
 ·simp
  exact Le.go [(0,0),(16,16),(60,60),(61,61)] [] rfl rfl (by simp) (by simp [fcd,hR.conv'])
 refine zaI (ι:=Int) (fun v=>⟨86,[(1,.pt 16 0 0),(6,.rs 61 0 l.length),(7,.I v)],[(0,some ⟨1,zae f,0⟩),(16,some ⟨4,[rC N A (.rs 0 0 A.length)],0⟩),(61,some ⟨2,(wayB l 0).map zbp,0⟩)],600⟩) (fun v=>1 ≤ v ∧ v ≤ 1048576 ∧ zl7 A f l 0 v) ?_ fun v hv=>?_
 ·refine zaa ⟨86,[(1,.pt 16 0 0),(3,.mp 60),(6,.rs 61 0 0),(7,.I 1048576),(8,.I 1)],[(0,some ⟨1,zae f,0⟩),(16,some ⟨4,[rC N A (.rs 0 0 A.length)],0⟩),(60,some ⟨0,R,0⟩),(61,some ⟨2,[],0⟩)],600⟩ rfl ?_ ?_
  ·simp
   exact Le.go [(0,0),(16,16),(60,60),(61,61)] [] rfl rfl (by simp) (by simp [fcd,hR.conv'])
  refine zaf ?_
  refine zao (ι:=zu9) (fun s=>⟨86,[(1,.pt 16 0 0),(3,.mp 60),(6,.rs 61 0 (l.length - s.j)),(7,.I s.v),(8,.I (endW A 0 l s.j))],[(0,some ⟨1,zae f,0⟩),(16,some ⟨4,[rC N A (.rs 0 0 A.length)],0⟩),(60,some ⟨0,R,0⟩),(61,some ⟨2,(wayB l s.j).map zbp,0⟩)],600⟩)
   (fun s=>s.j ≤ l.length ∧ 1 ≤ s.v ∧ s.v ≤ 1048576 ∧ zl7 A f l s.j s.v) (fun s=>s.j) ⟨l.length,1048576⟩ ⟨Nat.le_refl _,by simp,by simp,by simp [zl7]⟩ (Le.go [(0,0),(16,16),(60,60),(61,61)] [] rfl rfl (by simp [hle]) (by simp [fcd,hR.conv',ztH])) ?_
  rintro ⟨j,v⟩ ⟨hj,hv1,hv2,hv3⟩
  simp only at hj hv1 hv2 hv3
  refine zab ?_
  refine zaa ⟨86,[(1,.pt 16 0 0),(3,.mp 60),(6,.rs 61 0 (l.length - j)),(7,.I v),(8,.I (endW A 0 l j)),(24,.B (!decide (endW A 0 l j = 0)))],[(0,some ⟨1,zae f,0⟩),(16,some ⟨4,[rC N A (.rs 0 0 A.length)],0⟩),(60,some ⟨0,R,0⟩),(61,some ⟨2,(wayB l j).map zbp,0⟩)],700⟩ rfl ?_ ?_
  ·simp
   exact Le.go [(0,0),(16,16),(60,60),(61,61)] [] rfl rfl (by simp <;> exact wkB (by rw [Bool.eq_iff_iff]; simp)) (by simp [fcd,hR.conv'])
  refine zac _ rfl (fun h13=>?_) fun h13=>?_
  ·simp at h13
   obtain ⟨i,rfl⟩ : ∃ i,j = i + 1:=by
    cases j with
    | zero=>exact absurd rfl h13
    | succ i=>exact ⟨i,rfl⟩
   have hi : i < l.length:=by omega
   obtain ⟨q1,q2,q3,q4,q5,q6⟩:=hl.at_ i hi
   have hfr:=hl.from_ i hi
   have hca:=hcam i hi
   have hws:=zrO hi
   have hwl:=zps l (i + 1)
   obtain ⟨s,hs⟩ : ∃ s,s = l[i]:=⟨_,rfl⟩
   have hk : endW A 0 l (i + 1) = stT A s:=by
    show stT A (l.getD i (0,false)) = _
    rw [List.getD_eq_getElem?_getD,List.getElem?_eq_getElem hi,hs]
    rfl
   have hvn : ∀ v' : Int,v' ≤ v → v' ≤ zbd A f s → zl7 A f l i v':=fun v' h1 h2 t ht=>by
    rw [List.drop_eq_getElem_cons hi,← hs] at ht
    rcases List.mem_cons.1 ht with rfl | ht
    ·exact h2
    ·exact Int.le_trans h1 (hv3 t ht)
   rw [← hs] at q1 q2 q3 q4 q5 q6 hfr hca hws
   have hrm:=hroom s q1
   have hrmb : zbd A f s ≤ 1048576:=by
    have h1:=hfit.2 s.1 q1
    have h2:=(hav _ (zbD q1)).2.2.2.2.2.2.2.2
    unfold zbd
    split <;> omega
   rw [hk]
   obtain ⟨k,hkd⟩ : ∃ k,k = stT A s:=⟨_,rfl⟩
   obtain ⟨rm,hrd⟩ : ∃ rm,rm = zbd A f s:=⟨_,rfl⟩
   obtain ⟨W,hW⟩ : ∃ W,W = wayB l (i + 1):=⟨_,rfl⟩
   rw [← hkd] at q3 q4 q5 q6 hca hrm ⊢
   rw [← hrd] at q2 hrm hrmb hvn
   rw [← hW] at hws hwl
   have hAe:=zmT q1
   have hlen : l.length - (i + 1) = W.length:=by omega
   rw [hlen,← hW]
   refine zad ?_
   refine zaf ?_
   refine zaa ⟨86,[(1,.pt 16 0 0),(3,.mp 60),(6,.rs 61 0 W.length),(7,.I v),(9,.pv (zbp s))],[(0,some ⟨1,zae f,0⟩),(16,some ⟨4,[rC N A (.rs 0 0 A.length)],0⟩),(60,some ⟨0,R,0⟩),(61,some ⟨2,W.map zbp,0⟩)],800⟩ rfl ?_ ?_
   ·simp [hfind,hca,zqN]
    exact Le.go [(0,0),(16,16),(60,60),(61,61)] [724] rfl rfl (by simp) (by simp [fcd,hR.conv'])
   refine zaa ⟨86,[(1,.pt 16 0 0),(3,.mp 60),(6,.rs 61 0 W.length),(7,.I v),(9,.pv (zbp s)),(10,.I rm)],[(0,some ⟨1,zae f,0⟩),(16,some ⟨4,[rC N A (.rs 0 0 A.length)],0⟩),(60,some ⟨0,R,0⟩),(61,some ⟨2,W.map zbp,0⟩)],900⟩ rfl ?_ ?_
   ·simp
    refine zeG [0] hrm (by simp [fcd,htake,hfl]) zu3 ?_
    simp
    exact Le.go [(0,0),(16,16),(60,60),(61,61)] [] rfl rfl (by simp) (by simp [fcd,hR.conv'])
   refine zaa ⟨86,[(1,.pt 16 0 0),(3,.mp 60),(6,.rs 62 0 (W.length + 1)),(7,.I (if rm < v then rm else v)),(9,.pv (zbp s))],[(0,some ⟨1,zae f,0⟩),(16,some ⟨4,[rC N A (.rs 0 0 A.length)],0⟩),(60,some ⟨0,R,0⟩),(62,some ⟨2,(W ++ [s]).map zbp,0⟩)],1000⟩ rfl ?_ ?_
   ·have hmw : ∀ g : Stp → List AV,List.take W.length (List.map g W) = List.map g W:=fun g=>List.take_of_length_le (by simp)
    simp [hmw]
    exact ⟨by omega,by omega,Le.go [(0,0),(16,16),(60,60),(924,62)] [] rfl rfl (by simp) (by simp [fcd,hR.conv'])⟩
   have hst : stF A s = if s.2 then (arcD A s.1).t else (arcD A s.1).f:=rfl
   have hqi : (s.1 : Int) < A.length:=by omega
   refine zaa ⟨86,[(1,.pt 16 0 0),(3,.mp 60),(6,.rs 62 0 (W.length + 1)),(7,.I (if rm < v then rm else v)),(8,.I (arcD A s.1).f),(9,.pv (zbp s))],[(0,some ⟨1,zae f,0⟩),(16,some ⟨4,[rC N A (.rs 0 0 A.length)],0⟩),(60,some ⟨0,R,0⟩),(62,some ⟨2,(W ++ [s]).map zbp,0⟩)],1100⟩ rfl ?_ ?_
   ·have hAe' : A[s.1] = arcD A s.1:=by rw [List.getElem?_eq_getElem q1] at hAe; exact Option.some.inj hAe
    simp [q1,hAe']
    exact Le.go [(0,0),(16,16),(60,60),(62,62)] [] rfl rfl (by simp) (by simp [fcd,hR.conv'])
   refine zaa ⟨86,[(1,.pt 16 0 0),(3,.mp 60),(6,.rs 62 0 (W.length + 1)),(7,.I (if rm < v then rm else v)),(8,.I (arcD A s.1).f),(9,.pv (zbp s)),(50,.B s.2)],[(0,some ⟨1,zae f,0⟩),(16,some ⟨4,[rC N A (.rs 0 0 A.length)],0⟩),(60,some ⟨0,R,0⟩),(62,some ⟨2,(W ++ [s]).map zbp,0⟩)],1200⟩ rfl ?_ ?_
   ·simp
    exact Le.go [(0,0),(16,16),(60,60),(62,62)] [] rfl rfl (by simp) (by simp [fcd,hR.conv'])
   have hwl2 : l.length - i = W.length + 1:=by omega
   have hinv : i ≤ l.length ∧ 1 ≤ (if rm < v then rm else v) ∧ (if rm < v then rm else v) ≤ 1048576 ∧ zl7 A f l i (if rm < v then rm else v):=⟨by omega,by split <;> omega,by split <;> omega,hvn _ (by split <;> omega) (by split <;> omega)⟩
   refine zac _ rfl (fun h16=>?_) fun h16=>?_
   ·have hAe' : A[s.1] = arcD A s.1:=by rw [List.getElem?_eq_getElem q1] at hAe; exact Option.some.inj hAe
    rw [if_pos h16] at hst
    refine zar rfl ?_
    simp [q1,hAe']
    exact ⟨⟨i,if rm < v then rm else v⟩,hinv,Nat.lt_succ_self i,Le.go [(0,0),(16,16),(60,60),(62,61)] [] rfl rfl (by simp [hwl2,← hfr,hst]) (by simp [fcd,hR.conv',hws])⟩
   ·rw [if_neg (by simp [h16])] at hst
    refine zad ?_
    exact ⟨⟨i,if rm < v then rm else v⟩,hinv,Nat.lt_succ_self i,Le.go [(0,0),(16,16),(60,60),(62,61)] [] rfl rfl (by simp [hwl2,← hfr,hst]) (by simp [fcd,hR.conv',hws])⟩
  simp at h13
  obtain rfl : j = 0:=by
   cases j with
   | zero=>rfl
   | succ i =>
     have h2:=(hl.at_ i (by omega)).2.2.1
     refine absurd ?_ h2
     have h3 : endW A 0 l (i + 1) = stT A (l.getD i (0,false)):=rfl
     rw [h3,List.getD_eq_getElem?_getD,List.getElem?_eq_getElem (by omega)] at h13
     exact h13
  refine zam ?_
  refine hit ?_
  exact ⟨v,⟨hv1,hv2,hv3⟩,LeI [(0,0),(16,16),(61,61)] []⟩
 obtain ⟨hv1,hv2,hv3⟩:=hv
 have hv3' : ∀ s ∈ l,v ≤ zbd A f s:=fun s hs=>hv3 s (by simpa using hs)
 obtain ⟨hf2,hval⟩:=hl.push hno hf (by omega) hv3'
 have hWl:=zps l 0
 obtain ⟨W,hW⟩ : ∃ W,W = wayB l 0:=⟨_,rfl⟩
 rw [← hW] at hWl ⊢
 have hWl : l.length = W.length:=by omega
 refine zab ?_
 refine zaa ⟨86,[(1,.pt 16 0 0),(7,.I v),(59,.vs 2 false (W.map zbp)),(60,.I W.length),(61,.I 0)],[(0,some ⟨1,zae f,0⟩),(16,some ⟨4,[rC N A (.rs 0 0 A.length)],0⟩)],700⟩ rfl ?_ ?_
 ·have hmw : ∀ g : Stp → List AV,List.take W.length (List.map g W) = List.map g W:=fun g=>List.take_of_length_le (by simp)
  simp
  exact Le.go [(0,0),(16,16)] [61] rfl rfl (by simp [hWl,hmw,fcd]) (by simp [fcd])
 refine zaf ?_
 refine zao (ι:=Nat) (fun i=>⟨86,[(1,.pt 16 0 0),(7,.I v),(59,.vs 2 false (W.map zbp)),(60,.I W.length),(61,.I i)],[(0,some ⟨1,zae (zdI v f l (l.length - i)),0⟩),(16,some ⟨4,[rC N A (.rs 0 0 A.length)],0⟩)],700⟩) (fun i=>i ≤ W.length) (fun i=>W.length - i) 0 (Nat.zero_le _) (Le.go [(0,0),(16,16)] [] rfl rfl (by simp) (by simp [fcd,znZ])) ?_
 intro i hi
 have hFl0 : (zdI v f l (l.length - i)).length = A.length:=by rw [zm5,hfl]
 refine zaa ⟨86,[(1,.pt 16 0 0),(7,.I v),(59,.vs 2 false (W.map zbp)),(60,.I W.length),(61,.I i),(62,.B (decide (i < W.length)))],[(0,some ⟨1,zae (zdI v f l (l.length - i)),0⟩),(16,some ⟨4,[rC N A (.rs 0 0 A.length)],0⟩)],800⟩ rfl ?_ ?_
 ·simp
  exact LeI [(0,0),(16,16)] []
 refine zab ?_
 refine zac _ rfl (fun h20=>?_) fun h20=>?_
 ·simp at h20
  have hw1 : IntKind.i64.wrap ((i : Int) + 1) = (i : Int) + 1:=w64 (by omega) (by omega)
  obtain ⟨j,hj⟩ : ∃ j,l.length - i = j + 1:=⟨l.length - i - 1,by omega⟩
  have hjl : j < l.length:=by omega
  have hj2 : l.length - (i + 1) = j:=by omega
  have hWi : W[i] = l[j]:=by
   have : W[i]? = some l[j]:=by
    rw [hW]
    unfold wayB
    rw [List.drop_zero,List.getElem?_reverse (by omega),List.getElem?_eq_getElem (by omega)]
    congr 1
    congr 1
    omega
   rw [List.getElem?_eq_getElem h20] at this
   exact Option.some.inj this
  rw [hj] at hFl0 ⊢
  obtain ⟨q1,q2,q3,q4,q5,q6⟩:=hl.at_ j hjl
  have hstep:=zlh (v:=v) (f:=f) j hjl
  have hget:=znn (v:=v) hl.nodup hlr j hjl
  have hroomj:=hv3' _ (List.getElem_mem hjl)
  obtain ⟨s,hs⟩ : ∃ s,s = l[j]:=⟨_,rfl⟩
  rw [← hs] at q1 hstep hget hroomj hWi
  obtain ⟨F,hF⟩ : ∃ F,F = zdI v f l (j + 1):=⟨_,rfl⟩
  rw [← hF] at hFl0 hget hstep ⊢
  have hfa:=hfit.2 s.1 q1
  have heo:=(hav _ (zbD q1)).2.2.2.2.2.2.2.2
  obtain ⟨w,hw⟩ : ∃ w,w = f.getD s.1 0:=⟨_,rfl⟩
  have haf : s.1 < F.length:=by omega
  have hg2 : F[s.1] = w:=by
   have : F[s.1]? = some w:=by rw [hw,← hget,List.getD_eq_getElem?_getD,List.getElem?_eq_getElem haf,Option.getD_some]
   rw [List.getElem?_eq_getElem haf] at this
   exact Option.some.inj this
  rw [← hw] at hfa
  have hset : zdI v f l j = F.set s.1 (w + if s.2 then -v else v):=by rw [hstep]; unfold zgF; rw [hget,← hw]
  have hro : zbd A f s = if s.2 then w else (arcD A s.1).v - w:=by unfold zbd; rw [← hw]
  refine zad ?_
  refine zab ?_
  refine zaf ?_
  refine zaa ⟨86,[(1,.pt 16 0 0),(7,.I v),(13,.pv (zbp s)),(59,.vs 2 false (W.map zbp)),(60,.I W.length),(61,.I i)],[(0,some ⟨1,zae F,0⟩),(16,some ⟨4,[rC N A (.rs 0 0 A.length)],0⟩)],900⟩ rfl ?_ ?_
  ·simp [h20,hWi]
   exact LeI [(0,0),(16,16)] [816]
  refine zaa ⟨86,[(1,.pt 16 0 0),(7,.I v),(13,.pv (zbp s)),(59,.vs 2 false (W.map zbp)),(60,.I W.length),(61,.I i),(66,.B s.2)],[(0,some ⟨1,zae F,0⟩),(16,some ⟨4,[rC N A (.rs 0 0 A.length)],0⟩)],1000⟩ rfl ?_ ?_
  ·simp
   exact LeI [(0,0),(16,16)] []
  have hsA : (s.1 : Int) < A.length:=by omega
  refine zac _ rfl (fun h16=>?_) fun h16=>?_
  ·rw [if_pos h16] at hset hro
   have hw2 : IntKind.i64.wrap (w - v) = w + -v:=by rw [w64 (by omega) (by omega)]; omega
   refine zar rfl ?_
   simp [q1,haf,hg2,hw2,zaw]
   refine zar rfl ?_
   simp
   exact ⟨i + 1,by omega,by omega,Le.go [(0,0),(16,16)] [] rfl rfl (by simp [hw1]) (by simp [fcd,hj2,hset])⟩
  ·rw [if_neg (by simp [h16])] at hset hro
   have hw2 : IntKind.i64.wrap (w + v) = w + v:=w64 (by omega) (by omega)
   refine zar rfl ?_
   simp [q1,haf,hg2,hw2,zaw]
   refine zar rfl ?_
   simp
   exact ⟨i + 1,by omega,by omega,Le.go [(0,0),(16,16)] [] rfl rfl (by simp [hw1]) (by simp [fcd,hj2,hset])⟩
 simp at h20
 obtain rfl : i = W.length:=by omega
 rw [show l.length - W.length = 0 by omega]
 refine zam ?_
 refine hit ?_
 refine zaa ⟨86,[(2,.B true)],[(0,some ⟨1,zae (zdI v f l 0),0⟩)],900⟩ rfl ?_ ?_
 ·simp
  exact LeI [(0,0)] []
 refine zah ?_
 exact zdZ.mk (.inr rfl) (true,zdI v f l 0) ⟨hf2,by rw [hval]; omega⟩ (zan.k1 rfl (by simp) (by simp [fcd]))
theorem zan.k2n {rs : List (Nat × Option (Bool × Nat))} {st : St} {vs : List AV} {res : AV} {e0 e1 e : Ent} (i : Nat) (hi : 2 ≤ i) (h1 : zfl st rs = some vs) (hw : Wk (conv [(0,0),(1,1),(i,2)] [] st.hp 4 (resV vs)) res)
  (h0 : (st.hp 0).map (zax [(0,0),(1,1),(i,2)] [] st.hp 4) = some e0) (h2 : (st.hp 1).map (zax [(0,0),(1,1),(i,2)] [] st.hp 4) = some e1) (he : (st.hp i).map (zax [(0,0),(1,1),(i,2)] [] st.hp 4) = some e) : zan rs 2 st res [some e0,some e1,some e]:=by
 have e2 : List.range 2 ++ [i] = [0,1,i]:=rfl
 refine ⟨vs,h1,[i],[],?_,by simpa using hi,by simp,?_,?_⟩
 ·rw [e2]
  simp
  omega
 ·rw [e2]
  exact hw
 ·rw [e2]
  show [_,_,_] = _
  have h0' : Option.map (zax (([0,1,i] : List Nat).zipIdx) [] st.hp 4) (st.hp 0) = some e0:=h0
  have h2' : Option.map (zax (([0,1,i] : List Nat).zipIdx) [] st.hp 4) (st.hp 1) = some e1:=h2
  have he' : Option.map (zax (([0,1,i] : List Nat).zipIdx) [] st.hp 4) (st.hp i) = some e:=he
  simp only [List.map_cons,List.map_nil,h0',h2',he']
theorem zan.k2 {rs : List (Nat × Option (Bool × Nat))} {st : St} {vs : List AV} {res : AV} {e0 e1 : Ent} (h1 : zfl st rs = some vs) (hw : Wk (conv [(0,0),(1,1)] [] st.hp 4 (resV vs)) res)
  (h0 : (st.hp 0).map (zax [(0,0),(1,1)] [] st.hp 4) = some e0) (h2 : (st.hp 1).map (zax [(0,0),(1,1)] [] st.hp 4) = some e1) : zan rs 2 st res [some e0,some e1] :=
 ⟨vs,h1,[],[],by decide,by simp,by simp,hw,by
  show [_,_] = _
  have h0' : Option.map (zax ((List.range 2 ++ [] : List Nat).zipIdx) [] st.hp 4) (st.hp 0) = some e0:=h0
  have h2' : Option.map (zax ((List.range 2 ++ [] : List Nat).zipIdx) [] st.hp 4) (st.hp 1) = some e1:=h2
  simp only [h0',h2']⟩
set_option maxRecDepth 100000 in
theorem zlC {N : Nat} {D b : List Int} {R : List (List AV)} (hR : MapF R (camF D b)) (k : Int) : zak Tryz.prog zaH [.I k,.pt 0 0 0] [⟨1,[[.mp 1]],0⟩,⟨0,R,0⟩] (.B (decide (k ∈ D))) [some ⟨1,[[.mp 1]],0⟩,some ⟨0,R,0⟩]:=by
 refine ziY.acalls (nbz rfl) (nbz rfl) (Nat.le_refl _) ?_
 show awp _ 2 _ _ ⟨13,[(0,.I k),(1,.pt 0 0 0)],[(0,some ⟨1,[[.mp 1]],0⟩),(1,some ⟨0,R,0⟩)],16⟩
 have hfind:=hR.is.find
 have hsome:=zgv D b k
 have hgd : ∃ u v,(camF D b k).getD (toAV (Value.agg #[Value.int IntKind.i64 0,Value.bool false])) = .agg [.sc u,.sc v]:=by
  cases hc : camF D b k with
  | none=>exact ⟨_,_,zp1⟩
  | some x =>
    obtain ⟨u,v,rfl⟩:=zfD _ _ _ _ hc
    exact ⟨u,v,rfl⟩
 obtain ⟨u,v,huv⟩:=hgd
 refine rk (s:=?s1) [0,1] [0,1] rfl ?o1 ?q1
 case o1=>simp; rfl
 refine zaa ⟨13,[(5,.B (decide (k ∈ D)))],[(0,some ⟨1,[[.mp 1]],0⟩),(1,some ⟨0,R,0⟩)],200⟩ rfl ?_ ?_
 ·simp [hfind,hsome,huv]
  exact Le.go [(0,0),(1,1)] [] rfl rfl (by simp) (by simp [hR.conv'])
 refine zaa ⟨13,[(3,.B (decide (k ∈ D)))],[(0,some ⟨1,[[.mp 1]],0⟩),(1,some ⟨0,R,0⟩)],300⟩ rfl ?_ ?_
 ·simp
  exact Le.go [(0,0),(1,1)] [] rfl rfl (by simp) (by simp [hR.conv'])
 refine zah ?_
 exact ⟨.inr rfl,zan.k2 rfl (by simp) (by simp) (by simp [hR.conv'])⟩
set_option maxRecDepth 100000 in
set_option maxHeartbeats 1000000 in
theorem zsz {D b : List Int} {R : List (List AV)} (hR : MapF R (camF D b)) (N : Nat) (hN : N ≤ 1000000) :
  zak Tryz.prog zb5 [.I N,.fn (.func zaH) [] [.pt 0 0 0]] [⟨1,[[.mp 1]],0⟩,⟨0,R,0⟩] (.rs 2 0 (inD D N).length) [some ⟨1,[[.mp 1]],0⟩,some ⟨0,R,0⟩,some ⟨1,zae (inD D N),0⟩]:=by
 refine ziq.acalls (nbz rfl) (nbz rfl) (by simp) ?_
 show awp _ 2 _ _ ⟨20,[(0,.I N),(1,.fn (.func zaH) [] [.pt 0 0 0])],[(0,some ⟨1,[[.mp 1]],0⟩),(1,some ⟨0,R,0⟩)],16⟩
 refine zaa ⟨20,[(0,.I N),(1,.fn (.func zaH) [] [.pt 0 0 0])],[(0,some ⟨1,[[.mp 1]],0⟩),(1,some ⟨0,R,0⟩)],24⟩ rfl ?_ ?_
 ·simp
  exact Le.go [(0,0),(1,1)] [] rfl rfl (by simp) (by simp [hR.conv'])
 refine zaa ⟨20,[(0,.I N),(1,.fn (.func zaH) [] [.pt 0 0 0]),(5,.rs 50 0 0)],[(0,some ⟨1,[[.mp 1]],0⟩),(1,some ⟨0,R,0⟩),(50,some ⟨1,[],0⟩)],100⟩ rfl ?_ ?_
 ·simp
  refine Le.lst [(0,0),(1,1)] [] [(50,1)] rfl (by simp) (by simp) (by simp) (by simp) (by simp) (by simp) (by simp) (by simp [Up,conv]) ?_
  simp [hR.conv']
  exact ⟨zay.rfl' (Nat.zero_le _),zay.rfl' (Nat.zero_le _)⟩
 refine zab ?_
 refine zaa ⟨20,[(1,.fn (.func zaH) [] [.pt 0 0 0]),(5,.rs 50 0 0),(7,.I N),(8,.I 0)],[(0,some ⟨1,[[.mp 1]],0⟩),(1,some ⟨0,R,0⟩),(50,some ⟨1,[],0⟩)],200⟩ rfl ?_ ?_
 ·simp
  exact Le.go [(0,0),(1,1),(50,50)] [] rfl rfl (by simp [conv]) (by simp [hR.conv'])
 refine zaf ?_
 refine zao (ι:=Nat) (fun k=>⟨20,[(1,.fn (.func zaH) [] [.pt 0 0 0]),(5,.rs 50 0 (inD D k).length),(7,.I N),(8,.I k)],[(0,some ⟨1,[[.mp 1]],0⟩),(1,some ⟨0,R,0⟩),(50,some ⟨1,zae (inD D k),0⟩)],200⟩) (fun k=>k ≤ N) (fun k=>N - k) 0 (Nat.zero_le _) (Le.go [(0,0),(1,1),(50,50)] [] rfl rfl (by simp [conv,inD]) (by simp [hR.conv',inD])) ?_
 intro k hk
 have hwl:=zoC D k
 refine zaa ⟨20,[(1,.fn (.func zaH) [] [.pt 0 0 0]),(5,.rs 50 0 (inD D k).length),(7,.I N),(8,.I k),(9,.B (decide (k < N)))],[(0,some ⟨1,[[.mp 1]],0⟩),(1,some ⟨0,R,0⟩),(50,some ⟨1,zae (inD D k),0⟩)],300⟩ rfl ?_ ?_
 ·simp
  exact Le.go [(0,0),(1,1),(50,50)] [] rfl rfl (by simp [conv]) (by simp [hR.conv',fcd])
 refine zab ?_
 refine zac _ rfl (fun h=>?_) fun h=>?_
 ·simp at h
  have hw2 : IntKind.i64.wrap ((k : Int) + 1) = (k : Int) + 1:=w64 (by omega) (by omega)
  have hnext:=zlT D k
  refine zad ?_
  refine zaI (ι:=Unit) (fun _=>⟨20,[(1,.fn (.func zaH) [] [.pt 0 0 0]),(5,.rs 50 0 (inD D (k + 1)).length),(7,.I N),(8,.I k)],[(0,some ⟨1,[[.mp 1]],0⟩),(1,some ⟨0,R,0⟩),(50,some ⟨1,zae (inD D (k + 1)),0⟩)],1000⟩) (fun _=>True) ?_ fun _ _=>?_
  ·rw [hnext]
   obtain ⟨W,hW⟩ : ∃ W,W = inD D k:=⟨_,rfl⟩
   rw [← hW] at hwl ⊢
   refine zaf ?_
   refine zaa ⟨20,[(1,.fn (.func zaH) [] [.pt 0 0 0]),(5,.rs 50 0 W.length),(6,.I k),(7,.I N),(8,.I k)],[(0,some ⟨1,[[.mp 1]],0⟩),(1,some ⟨0,R,0⟩),(50,some ⟨1,zae W,0⟩)],400⟩ rfl ?_ ?_
   ·simp
    exact Le.go [(0,0),(1,1),(50,50)] [] rfl rfl (by simp [conv]) (by simp [hR.conv',fcd])
   refine zaa ⟨20,[(1,.fn (.func zaH) [] [.pt 0 0 0]),(5,.rs 50 0 W.length),(6,.I k),(7,.I N),(8,.I k),(13,.B (decide ((k : Int) ∈ D)))],[(0,some ⟨1,[[.mp 1]],0⟩),(1,some ⟨0,R,0⟩),(50,some ⟨1,zae W,0⟩)],500⟩ rfl ?_ ?_
   ·simp
    refine zls (i:=0) (j:=1) (by decide) rfl rfl (by simp) (by simp [hR.conv']) (zlC (N:=N) hR k) (by simp) (by simp) ?_
    simp [hR.conv']
    exact Le.go [(0,0),(1,1),(50,50)] [] rfl rfl (by simp [conv]) (by simp [hR.conv',fcd])
   refine zac _ rfl (fun h5=>?_) fun h5=>?_
   ·rw [decide_eq_true_eq] at h5
    rw [if_pos h5]
    have hmw : ∀ g : Int → List AV,List.take W.length (List.map g W) = List.map g W:=fun g=>List.take_of_length_le (by simp)
    refine zar rfl ?_
    simp [hmw]
    exact ⟨by omega,by omega,Le.go [(0,0),(1,1),(524,50)] [] rfl rfl (by simp [conv]) (by simp [hR.conv',fcd])⟩
   ·rw [decide_eq_false_iff_not] at h5
    rw [if_neg h5,List.append_nil]
    refine zad ?_
    exact ⟨(),trivial,Le.go [(0,0),(1,1),(50,50)] [] rfl rfl (by simp [conv]) (by simp [hR.conv',fcd])⟩
  refine zar rfl ?_
  simp [hw2]
  exact ⟨k + 1,by omega,by omega,Le.go [(0,0),(1,1),(50,50)] [] rfl rfl (by simp [conv,hw2]) (by simp [hR.conv',fcd])⟩
 simp at h
 obtain rfl : k = N:=by omega
 refine zam ?_
 refine hit ?_
 refine zaa ⟨20,[(4,.rs 50 0 (inD D k).length)],[(0,some ⟨1,[[.mp 1]],0⟩),(1,some ⟨0,R,0⟩),(50,some ⟨1,zae (inD D k),0⟩)],400⟩ rfl ?_ ?_
 ·simp
  exact Le.go [(0,0),(1,1),(50,50)] [] rfl rfl (by simp) (by simp [hR.conv',fcd])
 refine zah ?_
 exact ⟨.inr rfl,zan.k2n 50 (by omega) rfl (by simp) (by simp) (by simp [hR.conv']) (by simp [fcd])⟩
end Go.Proofs.YteiabadhhhckfaaGreat
