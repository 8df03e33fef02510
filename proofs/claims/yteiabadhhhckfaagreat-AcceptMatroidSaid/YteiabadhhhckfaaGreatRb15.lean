/- Texts of this claim,merged. -/
import Derived.Test.YteiabadhhhckfaaGreatRb14
import Derived.Test.YteiabadhhhckfaaGreatRb12
import Derived.Test.YteiabadhhhckfaaGreatRb9
import Derived.Test.YteiabadhhhckfaaGreatRb6
set_option linter.unusedSimpArgs false
set_option linter.unusedVariables false
set_option linter.unusedSectionVars false
namespace Go.Proofs.YteiabadhhhckfaaGreat
open Go
section
variable {P : Program} {np id : Nat} {h : Nat → Option Ent} {K : AV → List Nat → List (Nat × Option Ent) → Prop} {f : FuncId} {first capt args args' : List AV} {res : AV}
end
def zr7 (g : Gr) (p : Pol) (ks : List Int) (W : List (List Nat)) : Prop :=
 ∃ f g',zme g p (zaw ks) f ∧ zkt (netN g) (netA g p (zaw ks)) f g' W ∧ (W.length : Int) = maxF (netN g) (netA g p (zaw ks)) ∧ ∀ w ∈ W,w.length ≤ 130
def befL (o acc : List Int) (i : Nat) : List Int:=(o.take i).filter fun k=>decide (k ∈ acc)
theorem zpK {o acc : List Int} {i : Nat} (h : i < o.length) : befL o acc (i + 1) = befL o acc i ++ if o[i] ∈ acc then [o[i]] else []:=by
 unfold befL
 rw [List.take_succ_eq_append_getElem h,List.filter_append]
 simp only [List.filter_cons,List.filter_nil,decide_eq_true_eq]
structure ForR (g : Gr) (p : Pol) (o : List Int) (key : Int) (x : Expl) : Prop where
 key_ : x.key = key
 bef : ∃ i,∃ h : i < o.length,o[i] = key ∧ x.before = befL o (accR g p o) i
 yes : key ∈ accR g p o → x.acc = true ∧ x.side = [] ∧ ∃ W,zr7 g p (x.before ++ [key]) W ∧ x.paths = W.map (zcD (netA g p (zaw (x.before ++ [key]))))
 no : key ∉ accR g p o → x.acc = false ∧ x.paths = [] ∧ ∃ R,zkI g p o R ∧ (key,x.side) ∈ R
variable {g : Gr} {p : Pol}
theorem zoG : ∀ (b a : List Int),∃ l,accR g p (a ++ b) = accR g p a ++ l ∧ ∀ x ∈ l,x ∈ b
 | [],a=>⟨[],by simp,by simp⟩
 | x :: b,a=>by
   obtain ⟨l,hl,hm⟩:=zoG b (a ++ [x])
   have e : a ++ x :: b = a ++ [x] ++ b:=by simp
   rw [e,hl]
   rcases ziZ (g:=g) (p:=p) a x with h | h
   ·exact ⟨l,by rw [h],fun y hy=>List.mem_cons_of_mem _ (hm y hy)⟩
   ·refine ⟨[x] ++ l,by rw [h,List.append_assoc],fun y hy=>?_⟩
    rcases List.mem_append.1 hy with h | h
    ·rw [List.mem_singleton.1 h]; exact List.mem_cons_self
    ·exact List.mem_cons_of_mem _ (hm y h)
theorem zio {o : List Int} (hn : o.Nodup) {i : Nat} (h : i < o.length) : o[i] ∈ accR g p o ↔ zaq g p (zaw (accR g p (o.take i) ++ [o[i]])):=by
 have hs : o.take (i + 1) = o.take i ++ [o[i]]:=List.take_succ_eq_append_getElem h
 obtain ⟨l,hl,hm⟩:=zoG (g:=g) (p:=p) (o.drop (i + 1)) (o.take (i + 1))
 rw [List.take_append_drop] at hl
 have hni : o[i] ∉ o.take i:=fun hx=>by
  obtain ⟨j,hj,e⟩:=List.mem_take_iff_getElem.1 hx
  have:=(List.getElem_inj hn).1 e
  omega
 have hnd : o[i] ∉ o.drop (i + 1):=fun hx=>by
  obtain ⟨j,hj,e⟩:=List.mem_drop_iff_getElem.1 hx
  have:=(List.getElem_inj hn).1 e
  omega
 constructor
 ·intro hx
  by_cases hc : zaq g p (zaw (accR g p (o.take i) ++ [o[i]]))
  ·exact hc
  ·rw [hl,hs,zfx hc] at hx
   rcases List.mem_append.1 hx with h1 | h1
   ·exact absurd (zdo h1) hni
   ·exact absurd (hm _ h1) hnd
 ·intro hc
  rw [hl,hs,zcn hc]
  exact List.mem_append_left _ (List.mem_append_right _ (List.mem_singleton.2 rfl))
theorem zom {o : List Int} (hn : o.Nodup) : ∀ i,i ≤ o.length → befL o (accR g p o) i = accR g p (o.take i)
 | 0,_=>by simp [befL,zk5]
 | i + 1,h=>by
   have hi : i < o.length:=h
   rw [zpK hi,zom hn i (by omega),List.take_succ_eq_append_getElem hi]
   by_cases hc : zaq g p (zaw (accR g p (o.take i) ++ [o[i]]))
   ·rw [if_pos ((zio hn hi).2 hc),zcn hc]
   ·rw [if_neg (fun h=>hc ((zio hn hi).1 h)),zfx hc,List.append_nil]
theorem zcf {l : List Int} (h : l.Pairwise (· < ·)) : l.Nodup:=h.imp fun h=>by omega
theorem zfm {a : List Int} (hn : a.Nodup) (hr : ∀ k ∈ a,0 ≤ k ∧ k < 64) : a.Perm (zaw a):=by
 rw [← zlD hn hr]
 exact (zfF a).symm
theorem zis {a : List Int} (hn : a.Nodup) (hr : ∀ k ∈ a,0 ≤ k ∧ k < 64) : (zaw a).length = a.length:=(zfm hn hr).length_eq.symm
structure AtO (g : Gr) (p : Pol) (key : Int) (before : List Int) : Prop where
 mem : key ∈ ordL (zaj g p.lv) p.seeds
 bef : zff (ordL (zaj g p.lv) p.seeds) before key
 nodup : (before ++ [key]).Nodup
 range : ∀ k ∈ before ++ [key],0 ≤ k ∧ k < g.size
 serve : key ∈ accR g p (ordL (zaj g p.lv) p.seeds) ↔ zaq g p (zaw (before ++ [key]))
theorem znw {o : List Int} (hn : o.Nodup) {i : Nat} (h : i < o.length) : zg1 o o[i] = o.take i:=by
 unfold zg1
 rw [List.takeWhile_eq_take_findIdx_not]
 congr 1
 rw [List.findIdx_eq h]
 refine ⟨by simp,fun j hj=>?_⟩
 have : o[j] ≠ o[i]:=fun e=>by have:=(List.getElem_inj hn).1 e; omega
 simp [this]
theorem ForR.at_ {key : Int} {x : Expl} (h : ForR g p (ordL (zaj g p.lv) p.seeds) key x) (hg : GrOk g) : x.key = key ∧ AtO g p key x.before ∧ ∃ i,∃ hi : i < (ordL (zaj g p.lv) p.seeds).length,(ordL (zaj g p.lv) p.seeds)[i] = key ∧ x.before = accR g p ((ordL (zaj g p.lv) p.seeds).take i):=by
 have hn:=zbQ (zaj g p.lv) p.seeds
 have hr : ∀ k ∈ ordL (zaj g p.lv) p.seeds,0 ≤ k ∧ k < g.size:=fun k hk=>by have h:=zbx hk; exact h
 obtain ⟨o,ho⟩ : ∃ o,o = ordL (zaj g p.lv) p.seeds:=⟨_,rfl⟩
 rw [← ho] at h hn hr ⊢
 obtain ⟨i,hi,hk,hb⟩:=h.bef
 rw [zom hn i (by omega)] at hb
 refine ⟨h.key_,?_,i,hi,hk,hb⟩
 have hsub : x.before.Sublist (zg1 o key):=by
  rw [hb,← hk,znw hn hi]
  exact zdW _ _ rfl
 refine ⟨by rw [← ho,← hk]; exact List.getElem_mem hi,by rw [← ho]; exact hsub,zff.nodup (order:=o) hsub hn,fun k hkm=>?_,?_⟩
 ·rcases List.mem_append.1 hkm with h1 | h1
  ·refine hr k ?_
   rw [hb] at h1
   exact List.mem_of_mem_take (zdo h1)
  ·rw [List.mem_singleton.1 h1,← hk]; exact hr _ (List.getElem_mem hi)
 ·rw [← ho,hb,← hk]
  exact zio hn hi
theorem AtO.joined {key : Int} {before : List Int} (h : AtO g p key before) (hg : GrOk g) : (zaw (before ++ [key])).Nodup ∧ (before ++ [key]).Perm (zaw (before ++ [key])) ∧ (∀ x ∈ zaw (before ++ [key]),0 ≤ x ∧ x < g.size):=by
 have h64:=hg.1.2.1
 have hr : ∀ k ∈ before ++ [key],0 ≤ k ∧ k < 64:=fun k hk=>⟨(h.range k hk).1,by have:=(h.range k hk).2; omega⟩
 exact ⟨zcf (zek _),zfm h.nodup hr,fun x hx=>h.range x (zcE.1 hx).1⟩
theorem znZ {key : Int} {before : List Int} {W : List (List Nat)} (hg : GrOk g) (hp : za3 g.size p) (ha : AtO g p key before) (hc : zaq g p (zaw (before ++ [key]))) (hW : zr7 g p (before ++ [key]) W) :
  zjA g p.lv p.seeds (ordL (zaj g p.lv) p.seeds) (zaI g p) (W.map (zcD (netA g p (zaw (before ++ [key]))))) (before ++ [key]):=by
 obtain ⟨f,g',hgf,ht,hl,_⟩:=hW
 obtain ⟨j1,j2,j3⟩:=ha.joined hg
 refine zmY hg hp j1 (fun x hx=>(j3 x hx).1) j2 hgf.ok.fit ht.ways (fun i _=>?_) ?_
 ·have h1:=ht.used i
  have h2:=ht.bal.nonneg i
  omega
 ·have : maxF (netN g) (netA g p (zaw (before ++ [key]))) = (zaw (before ++ [key])).length:=hc
  omega
theorem ForR.yes_serves {key : Int} {x : Expl} (h : ForR g p (ordL (zaj g p.lv) p.seeds) key x) (hg : GrOk g) (hp : za3 g.size p) (hk : key ∈ accR g p (ordL (zaj g p.lv) p.seeds)) :
  zjA g p.lv p.seeds (ordL (zaj g p.lv) p.seeds) (zaI g p) x.paths (x.before ++ [key]):=by
 obtain ⟨_,ha,_⟩:=h.at_ hg
 obtain ⟨_,_,W,hW,hpa⟩:=h.yes hk
 rw [hpa]
 exact znZ hg hp ha (ha.serve.1 hk) hW
theorem ForR.no_proves {key : Int} {x : Expl} (h : ForR g p (ordL (zaj g p.lv) p.seeds) key x) (hg : GrOk g) (hp : za3 g.size p) (hk : key ∉ accR g p (ordL (zaj g p.lv) p.seeds)) :
  zeN ⟨2 + 2 * g.size,za2 g p (zaI g p) (zaw (x.before ++ [key]))⟩ x.side x.before.length:=by
 obtain ⟨_,ha,i,hi,hik,hib⟩:=h.at_ hg
 obtain ⟨_,_,R,hR,hs⟩:=h.no hk
 obtain ⟨i',hi',hik',hn⟩:=hR.right _ hs
 simp only at hik' hn
 have hii : i' = i:=(List.getElem_inj (zbQ (zaj g p.lv) p.seeds)).1 (hik'.trans hik.symm)
 subst hii
 rw [← hib] at hn
 obtain ⟨j1,j2,j3⟩:=ha.joined hg
 have hfew:=zgH hg hp j3
 have hno : maxF (netN g) (netA g p (zaw (x.before ++ [key]))) ≠ (zaw (x.before ++ [key])).length:=hn.no
 have hlen:=j2.length_eq
 rw [List.length_append,List.length_singleton] at hlen
 have hcut:=hn.cut
 have hok:=hn.ok
 rw [zg3 hg] at hok
 exact ⟨hok,by rw [hcut]; omega⟩
theorem ForR.checked {key : Int} {x : Expl} (h : ForR g p (ordL (zaj g p.lv) p.seeds) key x) (hg : GrOk g) (hp : za3 g.size p) : zp8 g p x = 0:=by
 rw [zoV hg.1.2.1]
 obtain ⟨hk,ha,_⟩:=h.at_ hg
 unfold zqB
 simp only
 rw [hk,if_neg (by simpa using ha.mem)]
 by_cases hacc : key ∈ accR g p (ordL (zaj g p.lv) p.seeds)
 ·obtain ⟨h1,h2,_⟩:=h.yes hacc
  rw [if_neg (by rw [h1,h2]; simpa using ha.bef),if_pos h1,if_pos (h.yes_serves hg hp hacc)]
 ·obtain ⟨h1,h2,_⟩:=h.no hacc
  rw [if_neg (by rw [h1,h2]; simpa using ha.bef),if_neg (by rw [h1]; simp),if_pos (h.no_proves hg hp hacc)]
theorem zjy (l : List Int) (hl : l.length ≤ 1099511627776) : zai Tryz.prog zel [ints l] [] (.rs 0 0 l.length) [some ⟨1,zag (srt l),0⟩]:=by
 refine zk6.acalls (Nat.le_of_ble_eq_true rfl) (Nat.le_of_ble_eq_true rfl) (Nat.zero_le _) ?_
 show awp _ 0 _ _ ⟨6,[(0,ints l)],[],16⟩
 have hs : zai Tryz.prog zbU [seqF l] [] (.rs 0 0 l.length) [some ⟨1,zag (srt l),0⟩]:=zqt l hl
 refine rx (s:=?s1) [0] [] [] rfl ?o1 ?q1
 case o1=>simp; rfl
 refine zab ⟨6,[(2,.rs 50 0 l.length)],[(50,some ⟨1,zag (srt l),0⟩)],100⟩ rfl ?_ ?_
 ·simp
  refine zal (zqK l) (by simp) ?_
  simp
  refine zaQ hs (by simp [conv]) ?_
  simp
  exact Le.go [(40,50)] [] rfl rfl (by simp) (by simp [fcd])
 refine zah ?_
 exact ⟨.inr rfl,zam.out [50] [] rfl (by simp) (by simp) (by simp) (by simp [fcd])⟩
theorem zfp (g : Gr) (p : Pol) (hg : GrOk g) (hN : g.size < 20) (hs : p.seeds.length ≤ 1099511627776) : zai Tryz.prog zdm [eG g,eP p] [] (.rs 0 0 (ordL (zaj g p.lv) p.seeds).length) [some ⟨1,zag (ordL (zaj g p.lv) p.seeds),0⟩]:=by
 refine zlx.acalls (Nat.le_of_ble_eq_true rfl) (Nat.le_of_ble_eq_true rfl) (Nat.zero_le _) ?_
 show awp _ 0 _ _ ⟨12,[(0,eG g),(1,eP p)],[],16⟩
 have hel:=hg.edges_le
 have hgl:=hg.gone_le
 have hsz:=hg.1.2.1
 have hlev:=zd9 g p.lv (by omega) (by omega)
 have hord:=zhE (g:=zaj g p.lv) (S:=p.seeds) (hg.level p.lv) hN hs
 obtain ⟨o,ho⟩ : ∃ o,o = ordL (zaj g p.lv) p.seeds:=⟨_,rfl⟩
 rw [← ho] at hord ⊢
 refine rx (s:=?s1) [2,3] [] [16,24] rfl ?o1 ?q1
 case o1=>simp; rfl
 refine zat ⟨12,[(4,.rs 50 0 o.length)],[(50,some ⟨1,zag o,0⟩)],200⟩ rfl ?_ ?_
 ·simp
  refine zal hlev (by simp) ?_
  simp
  refine zaQ hord (by simp) ?_
  simp
  exact ⟨rfl,Le.go [(88,50)] [] rfl rfl (by simp) (by simp [fcd])⟩
 refine zah ?_
 exact ⟨.inr rfl,zam.out [50] [] rfl (by simp) (by simp) (by simp) (by simp [fcd])⟩
theorem zfX (l : List Int) (x : Int) (hl : l.length ≤ 1000000) : zai Tryz.prog zdT [ints l,.I x] [] (.rs 0 0 (l.length + 1)) [some ⟨1,zag (l ++ [x]),0⟩]:=by
 refine zmx.acalls (Nat.le_of_ble_eq_true rfl) (Nat.le_of_ble_eq_true rfl) (Nat.zero_le _) ?_
 show awp _ 0 _ _ ⟨14,[(0,ints l),(1,.I x)],[],16⟩
 refine rx (s:=?s1) [0,1] [] [] rfl ?o1 ?q1
 case o1=>simp; rfl
 refine zab ⟨14,[(4,.rs 50 0 (l.length + 1))],[(50,some ⟨1,zag (l ++ [x]),0⟩)],200⟩ rfl ?_ ?_
 ·have hsl : ∀ {id : Nat} {h : Nat → Option Ent} {K : AV → List Nat → List (Nat × Option Ent) → Prop},K (.vs 1 true (l.map fun n=>[AV.I n])) [] [] → aK Tryz.prog 0 id (.slc 1 false true true) [ints l,.I (l.length : Nat),.I (l.length : Nat)] h K:=fun hK=>by
   rw [ziB]
   refine ⟨0,l.length,l.length,l.length,by simp,Nat.zero_le _,rfl,by simp,by simp,by simp,Nat.le_refl _,fun _=>rfl,rfl,?_⟩
   rw [List.drop_zero,Nat.sub_zero,List.take_of_length_le (by simp)]
   exact hK
  simp
  refine hsl ?_
  simp
  exact ⟨by omega,by omega,Le.go [(88,50)] [] rfl rfl (by simp) (by simp [fcd])⟩
 refine zah ?_
 exact ⟨.inr rfl,zam.out [50] [] rfl (by simp) (by simp) (by simp) (by simp [fcd])⟩
theorem zbB (g : Gr) (p : Pol) (ks : List Int) (hg : GrOk g) (hp : za3 g.size p) (hk : ks.Nodup) (hr : ∀ k ∈ ks,0 ≤ k ∧ k < g.size) (hs : p.seeds.length ≤ 64) : zai Tryz.prog zbf [eG g,eP p,ints ks] [] (eN ⟨netN g,netA g p (zaw ks)⟩) []:=by
 refine ziC.acalls (Nat.le_of_ble_eq_true rfl) (Nat.le_of_ble_eq_true rfl) (Nat.zero_le _) ?_
 show awp _ 0 _ _ ⟨18,[(0,eG g),(1,eP p),(2,ints ks)],[],16⟩
 have hsz:=hg.1.2.1
 have hr64 : ∀ k ∈ ks,0 ≤ k ∧ k < 64:=fun k h=>by have:=hr k h; omega
 have hlen:=zis hk hr64
 have hJl:=zci ks
 have hsort:=zjy ks (by omega)
 rw [zlD hk hr64,← hlen] at hsort
 have hnet:=zhZ g p (zaw ks) hg hp (zcK hr) hs hJl
 rw [← zg3 hg,show za2 g p (zaI g p) (zaw ks) = netA g p (zaw ks) from rfl] at hnet
 obtain ⟨J,hJ⟩ : ∃ J,J = zaw ks:=⟨_,rfl⟩
 obtain ⟨A,hA⟩ : ∃ A,A = netA g p (zaw ks):=⟨_,rfl⟩
 rw [← hA] at hnet ⊢
 rw [← hJ] at hnet hsort
 refine rx (s:=?s1) [2,3,4,6] [32] [16,24] rfl ?o1 ?q1
 case o1=>simp; rfl
 refine zat ⟨18,[(6,.pt 32 0 0),(7,.pv (nC ⟨netN g,A⟩))],[(32,some ⟨2,[[.I 0,.nilS]],0⟩)],300⟩ rfl ?_ ?_
 ·simp
  refine zaQ hsort (by simp) ?_
  simp
  refine zsb [64] (by simp) hnet (by simp [fcd,zao]) ?_
  simp
  exact ⟨rfl,Le.go [(32,32)] [104] rfl rfl (by simp) (by simp)⟩
 refine zab ⟨18,[(6,.pt 32 0 0)],[(32,some ⟨2,[nC ⟨netN g,A⟩],0⟩)],400⟩ rfl ?_ ?_
 ·simp [zaU]
  exact Le.go [(32,32)] [] rfl rfl (by simp) (by simp)
 refine zah ?_
 exact ⟨.inr rfl,zam.out [] [32] rfl (by simp) (by simp) (by simp) (by simp)⟩
def ztx (N : Nat) (A : List Ed) (f : List Int) : Prop:=zay N A f ∧ ∀ f',zay N A f' → valF A f' ≤ valF A f
theorem zfW (N : Nat) (A : List Ed) (k : Int) (hn : za0 ⟨N,A⟩) :
  ∃ f : List Int,ztx N A f ∧ zai Tryz.prog zb1 [eN ⟨N,A⟩,.I k] [] (.tup [.rs 0 0 A.length,.B (decide (valF A f = k))]) [some ⟨1,zag f,0⟩]:=by
 obtain ⟨f,hf,hmax⟩:=zoU N A hn
 refine ⟨f,hf,?_⟩
 have hfl:=hf.1.fit.len
 have hal:=hn.2.2.1
 simp only at hal
 have hval:=zgR (f:=f) hn (by omega)
 rw [if_pos hf.1] at hval
 have htake : ∀ g : Int → List AV,List.take A.length (List.map g f) = List.map g f:=fun g=>List.take_of_length_le (by simp; omega)
 refine zk0.acalls (Nat.le_of_ble_eq_true rfl) (Nat.le_of_ble_eq_true rfl) (Nat.zero_le _) ?_
 show awp _ 0 _ _ ⟨19,[(0,eN ⟨N,A⟩),(1,.I k)],[],16⟩
 refine rx (s:=?s1) [1,2] [] [16] rfl ?o1 ?q1
 case o1=>simp; rfl
 refine zab ⟨19,[(1,.I k),(2,.pv (nC ⟨N,A⟩)),(6,.rs 50 0 A.length)],[(50,some ⟨1,zag f,0⟩)],100⟩ rfl ?_ ?_
 ·simp
  refine zaQ hmax (by simp) ?_
  simp
  exact Le.go [(48,50)] [] rfl rfl (by simp) (by simp [fcd])
 refine zab ⟨19,[(4,.rs 50 0 A.length),(5,.B (decide (valF A f = k)))],[(50,some ⟨1,zag f,0⟩)],200⟩ rfl ?_ ?_
 ·simp
  refine zeT [50] hval (by simp [fcd,htake,hfl]) (.sc _) ?_
  simp
  exact Le.go [(50,50)] [] rfl rfl (by simp <;> exact wkB (by rw [Bool.eq_iff_iff]; simp)) (by simp [fcd])
 refine zah ?_
 exact ⟨.inr rfl,zam.out [50] [] rfl (by simp) (by simp) (by simp) (by simp [fcd])⟩
theorem zk7 (g : Gr) (p : Pol) : ∀ (n : Nat) (o : List Int),o.length = n → (refR g p o).length ≤ n
 | 0,o,h=>by
   obtain rfl:=List.eq_nil_of_length_eq_zero h
   exact Nat.le_refl _
 | n + 1,o,h=>by
   have hne : o ≠ []:=fun e=>by rw [e] at h; cases h
   rw [← List.dropLast_concat_getLast hne]
   have ih:=zk7 g p n o.dropLast (by rw [List.length_dropLast,h]; rfl)
   by_cases hc : zaq g p (zaw (accR g p o.dropLast ++ [o.getLast hne]))
   ·rw [zev hc]; omega
   ·rw [zhh hc,List.length_append,List.length_singleton]; omega
theorem zmt (N : Nat) (A : List Ed) : (zeu N A).length ≤ N:=by
 unfold zeu
 exact Nat.le_trans (List.length_filter_le ..) (by simp)
set_option maxRecDepth 100000 in
set_option maxHeartbeats 8000000 in
theorem zhN (g : Gr) (p : Pol) (hg : GrOk g) (hp : za3 g.size p) (hs : p.seeds.length ≤ 64) (hN : g.size < 20) :
  ∃ f : List Int,zme g p (zaw (accR g p (ordL (zaj g p.lv) p.seeds))) f ∧
    zai Tryz.prog zer [eG g,eP p] [] (.tup [eAcc (accR g p (ordL (zaj g p.lv) p.seeds)) f (refR g p (ordL (zaj g p.lv) p.seeds)),.I 0]) []:=by
 have hsz:=hg.1.1
 have hsz2:=hg.1.2.1
 have hel:=hg.edges_le
 have hgl:=hg.gone_le
 have hchk:=zb8 g p (by omega) (by omega) (by omega) (by have:=hp.2.2.2.1; omega)
 rw [if_pos hg,if_pos hp] at hchk
 have hord:=zfp g p hg hN (by omega)
 obtain ⟨o,ho⟩ : ∃ o,o = ordL (zaj g p.lv) p.seeds:=⟨_,rfl⟩
 have hor : ∀ k ∈ o,0 ≤ k ∧ k < g.size:=fun k hk=>by rw [ho] at hk; have h:=zbx hk; exact h
 have hon : o.Nodup:=by rw [ho]; exact zbQ _ _
 rw [← ho] at hord ⊢
 have hol : o.length ≤ 64:=by
  have:=zbc (b:=(List.range g.size.toNat).map fun i : Nat=>(i : Int)) hon fun x hx=>by
   have:=hor x hx
   exact List.mem_map.2 ⟨x.toNat,List.mem_range.2 (by omega),by omega⟩
  simp at this
  omega
 have h64 : ∀ a : List Int,(∀ x ∈ a,0 ≤ x ∧ x < g.size) → ∀ x ∈ a,0 ≤ x ∧ x < 64:=fun a h x hx=>by have:=h x hx; omega
 have hnv : ∀ a : List Int,(∀ x ∈ a,0 ≤ x ∧ x < g.size) → za0 ⟨netN g,netA g p (zaw a)⟩:=fun a h=>zfM hg hp (zge (zcK h)) hs (zci a)
 have hserve : ∀ a : List Int,a.Nodup → (∀ x ∈ a,0 ≤ x ∧ x < g.size) → ∃ f,zme g p (zaw a) f ∧ zai Tryz.prog zb1 [eN ⟨netN g,netA g p (zaw a)⟩,.I (a.length : Nat)] [] (.tup [.rs 0 0 (netA g p (zaw a)).length,.B (@decide (zaq g p (zaw a)) (Classical.propDecidable _))]) [some ⟨1,zag f,0⟩]:=fun a h1 h2=>by
  obtain ⟨f,hf,hc⟩:=zfW _ _ (a.length : Nat) (hnv a h2)
  have hmf:=zfg hf.1 hf.2
  refine ⟨f,⟨hf.1,hf.2,hmf.symm⟩,?_⟩
  have hjl:=zis h1 (h64 a h2)
  have : decide (valF (netA g p (zaw a)) f = (a.length : Nat)) = @decide (zaq g p (zaw a)) (Classical.propDecidable _):=by
   rw [decide_eq_decide]
   unfold zaq
   rw [hmf,hjl]
  rw [this] at hc
  exact hc
 have haccn : ∀ i,(accR g p (o.take i)).Nodup:=fun i=>(hon.sublist ((zdW _ _ rfl).trans (List.take_sublist _ _)))
 have haccr : ∀ i,∀ x ∈ accR g p (o.take i),0 ≤ x ∧ x < g.size:=fun i x hx=>hor x (List.mem_of_mem_take (zdo hx))
 obtain ⟨f,hf,hlast⟩:=hserve (accR g p o) (by have:=haccn o.length; rwa [List.take_length] at this) (by have:=haccr o.length; rwa [List.take_length] at this)
 refine ⟨f,hf,?_⟩
 have hnl:=zbB g p (accR g p o) hg hp (by have:=haccn o.length; rwa [List.take_length] at this) (by have:=haccr o.length; rwa [List.take_length] at this) hs
 have hlf:=hf.ok.fit.len
 refine znK.acalls (Nat.le_of_ble_eq_true rfl) (Nat.le_of_ble_eq_true rfl) (Nat.zero_le _) ?_
 show awp _ 0 _ _ ⟨72,[(0,eG g),(1,eP p)],[],16⟩
 refine rx (s:=?s1) [2,3,4] [32] [16,24] rfl ?o1 ?q1
 case o1=>simp; rfl
 refine zaa ?_
 refine rx (s:=?s2) [2,3,4,6] [32] [] rfl ?o2 ?q2
 case o2=>simp; refine zal hchk (by simp) ?_; simp; rfl
 refine rx (s:=?s3) [2,3,4,18] [32] [] rfl ?o3 ?q3
 case o3=>simp; rfl
 refine zac _ rfl (fun h=>by cases h) fun _=>?_
 refine zae ?_
 refine zab ⟨72,[(2,.pv (gC g)),(3,.pv (pC p)),(4,.pt 32 0 0),(7,.pt 40 0 0)],[(32,some ⟨3,[[.nilS,.nilS,.nilS]],0⟩),(40,some ⟨3,[[.nilS,.nilS,.nilS]],0⟩)],200⟩ rfl ?_ ?_
 ·simp
  exact Le.go [(32,32),(96,40)] [] rfl rfl (by simp) (by simp)
 refine zaa ?_
 refine zab ⟨72,[(2,.pv (gC g)),(3,.pv (pC p)),(4,.pt 32 0 0),(7,.pt 40 0 0),(23,ints o),(24,.I o.length),(25,.I 0)],[(32,some ⟨3,[[.nilS,.nilS,.nilS]],0⟩),(40,some ⟨3,[[.nilS,.nilS,.nilS]],0⟩)],400⟩ rfl ?_ ?_
 ·simp
  refine zaQ hord (by simp) ?_
  simp
  exact Le.go [(32,32),(40,40)] [216] rfl rfl (by simp [fcd,zao]) (by simp)
 refine zaf ?_
 have hR0 : refR g p [] = []:=rfl
 refine zap (ι:=Nat) (fun i=>⟨72,[(2,.pv (gC g)),(3,.pv (pC p)),(4,.pt 32 0 0),(7,.pt 40 0 0),(23,ints o),(24,.I o.length),(25,.I i)],
   [(32,some ⟨3,[[.nilS,.nilS,.nilS]],0⟩),(40,some ⟨3,[[ints (accR g p (o.take i)),.nilS,.rs 42 0 (refR g p (o.take i)).length]],0⟩),(42,some ⟨2,za7 (refR g p (o.take i)),0⟩)],500⟩)
  (fun i=>i ≤ o.length) (fun i=>o.length - i) 0 (Nat.zero_le _)
  (Le.lst [(32,32),(40,40)] [] [(42,2)] rfl (by simp) (by simp) (by simp) (by simp) (by simp) (by simp) (by simp) (by simp [Up]) (by simp [zk5,hR0,fcd]; exact ⟨zaF.rfl' (by simp),zaF.row rfl (by omega) (by simp [UpL,Up,Wk.refl]; exact Wk.nil _ _)⟩)) ?_
 intro i hi
 have haN:=haccn i
 have haR:=haccr i
 have hal : (accR g p (o.take i)).length ≤ 64:=Nat.le_trans (zot _) (Nat.le_trans (List.length_take_le' i o) hol)
 have hRl:=zk7 g p _ (o.take i) rfl
 have hRl2:=List.length_take_le' i o
 have hyes:=fun k=>zcn (g:=g) (p:=p) (o:=o.take i) (k:=k)
 have hno:=fun k=>zfx (g:=g) (p:=p) (o:=o.take i) (k:=k)
 have hryes:=fun k=>zev (g:=g) (p:=p) (o:=o.take i) (k:=k)
 have hrno:=fun k=>zhh (g:=g) (p:=p) (o:=o.take i) (k:=k)
 have hmem : ∀ x ∈ accR g p (o.take i),x ∈ o.take i:=fun x hx=>zdo hx
 obtain ⟨acc,hacc⟩ : ∃ acc,acc = accR g p (o.take i):=⟨_,rfl⟩
 obtain ⟨R,hR⟩ : ∃ R,R = refR g p (o.take i):=⟨_,rfl⟩
 rw [← hacc] at haN haR hal hmem hyes hno hryes hrno
 rw [← hR] at hRl hryes hrno
 rw [← hacc,← hR]
 refine zab ⟨72,[(2,.pv (gC g)),(3,.pv (pC p)),(4,.pt 32 0 0),(7,.pt 40 0 0),(23,ints o),(24,.I o.length),(25,.I i),(26,.B (decide (i < o.length)))],
   [(32,some ⟨3,[[.nilS,.nilS,.nilS]],0⟩),(40,some ⟨3,[[ints acc,.nilS,.rs 42 0 R.length]],0⟩),(42,some ⟨2,za7 R,0⟩)],600⟩ rfl ?_ ?_
 ·simp
  exact Le.go [(32,32),(40,40),(42,42)] [] rfl rfl (by simp) (by simp [fcd])
 refine zaa ?_
 refine zac _ rfl (fun h11=>?_) fun h11=>?_
 ·simp at h11
  have hw1 : IntKind.i64.wrap ((i : Int) + 1) = (i : Int) + 1:=w64 (by omega) (by omega)
  obtain ⟨k,hk⟩ : ∃ k,k = o[i]:=⟨_,rfl⟩
  have hkr:=hor _ (List.getElem_mem h11)
  rw [← hk] at hkr
  have hts : o.take (i + 1) = o.take i ++ [k]:=by rw [List.take_succ_eq_append_getElem h11,hk]
  have hkacc : k ∉ acc:=fun h=>by
   have h2:=hmem k h
   obtain ⟨j,hj,hjk⟩:=List.mem_iff_getElem.1 h2
   rw [List.getElem_take] at hjk
   rw [List.length_take] at hj
   have:=(List.pairwise_iff_getElem.1 hon) j i (by omega) h11 (by omega)
   exact this (hjk.trans hk)
  have hks : ∀ x ∈ acc ++ [k],0 ≤ x ∧ x < g.size:=fun x hx=>by
   rcases List.mem_append.1 hx with h | h
   ·exact haR x h
   ·rw [List.mem_singleton] at h; subst h; exact hkr
  have hkn : (acc ++ [k]).Nodup:=List.nodup_append.2 ⟨haN,by simp,fun a ha b hb=>by
   rw [List.mem_singleton] at hb
   subst hb
   rintro rfl
   exact hkacc ha⟩
  have hwith:=zfX acc k (by omega)
  have hnet:=zbB g p (acc ++ [k]) hg hp hkn hks hs
  obtain ⟨fl,hfl,hsv⟩:=hserve (acc ++ [k]) hkn hks
  have hreach:=ziG _ _ fl (hnv _ hks) hfl.ok hfl.most
  have hflen:=hfl.ok.fit.len
  have hnl2:=zmt (netN g) (netA g p (zaw (acc ++ [k])))
  have hyes:=hyes k
  have hno:=hno k
  have hryes:=hryes k
  have hrno:=hrno k
  rw [← hts] at hyes hno hryes hrno
  obtain ⟨A,hA⟩ : ∃ A,A = netA g p (zaw (acc ++ [k])):=⟨_,rfl⟩
  obtain ⟨side,hside⟩ : ∃ side,side = zeu (netN g) A:=⟨_,rfl⟩
  rw [← hA] at hnet hsv hreach hflen hrno
  rw [← hside] at hreach hrno
  have htf : ∀ h : Int → List AV,List.take A.length (List.map h fl) = List.map h fl:=fun h=>List.take_of_length_le (by simp; omega)
  obtain ⟨W,hW⟩ : ∃ W,W = acc ++ [k]:=⟨_,rfl⟩
  have hWl : W.length = acc.length + 1:=by rw [hW]; simp
  rw [← hW] at hwith hnet hsv hyes hno hryes hrno
  rw [← hWl] at hwith
  refine zae ?_
  refine zaH (ι:=Unit) (fun _=>⟨72,[(2,.pv (gC g)),(3,.pv (pC p)),(4,.pt 32 0 0),(7,.pt 40 0 0),(23,ints o),(24,.I o.length),(25,.I i)],
   [(32,some ⟨3,[[.nilS,.nilS,.nilS]],0⟩),(40,some ⟨3,[[ints (accR g p (o.take (i + 1))),.nilS,.rs 42 0 (refR g p (o.take (i + 1))).length]],0⟩),(42,some ⟨2,za7 (refR g p (o.take (i + 1))),0⟩)],3000⟩) (fun _=>True) ?_ fun _ _=>?_
  ·refine zaf ?_
   refine zab ⟨72,[(2,.pv (gC g)),(3,.pv (pC p)),(4,.pt 32 0 0),(7,.pt 40 0 0),(9,.I k),(23,ints o),(24,.I o.length),(25,.I i)],
    [(32,some ⟨3,[[.nilS,.nilS,.nilS]],0⟩),(40,some ⟨3,[[ints acc,.nilS,.rs 42 0 R.length]],0⟩),(42,some ⟨2,za7 R,0⟩)],700⟩ rfl ?_ ?_
   ·simp [h11,← hk]
    exact Le.go [(32,32),(40,40),(42,42)] [] rfl rfl (by simp) (by simp [fcd])
   refine zab ⟨72,[(2,.pv (gC g)),(3,.pv (pC p)),(4,.pt 32 0 0),(7,.pt 40 0 0),(9,.I k),(10,ints W),(23,ints o),(24,.I o.length),(25,.I i)],
    [(32,some ⟨3,[[.nilS,.nilS,.nilS]],0⟩),(40,some ⟨3,[[ints acc,.nilS,.rs 42 0 R.length]],0⟩),(42,some ⟨2,za7 R,0⟩)],800⟩ rfl ?_ ?_
   ·simp
    refine zaQ hwith (by simp) ?_
    simp
    exact Le.go [(32,32),(40,40),(42,42)] [724] rfl rfl (by simp [fcd,zao]) (by simp [fcd])
   refine zab ⟨72,[(2,.pv (gC g)),(3,.pv (pC p)),(4,.pt 32 0 0),(7,.pt 40 0 0),(9,.I k),(10,ints W),(11,.pv (nC ⟨netN g,A⟩)),(23,ints o),(24,.I o.length),(25,.I i)],
    [(32,some ⟨3,[[.nilS,.nilS,.nilS]],0⟩),(40,some ⟨3,[[ints acc,.nilS,.rs 42 0 R.length]],0⟩),(42,some ⟨2,za7 R,0⟩)],900⟩ rfl ?_ ?_
   ·simp
    refine zal hnet (by simp) ?_
    simp
    exact Le.go [(32,32),(40,40),(42,42)] [832] rfl rfl (by simp) (by simp [fcd])
   refine zab ⟨72,[(2,.pv (gC g)),(3,.pv (pC p)),(4,.pt 32 0 0),(7,.pt 40 0 0),(9,.I k),(10,ints W),(11,.pv (nC ⟨netN g,A⟩)),(12,.rs 43 0 A.length),(13,.B (@decide (zaq g p (zaw W)) (Classical.propDecidable _))),(23,ints o),(24,.I o.length),(25,.I i)],
    [(32,some ⟨3,[[.nilS,.nilS,.nilS]],0⟩),(40,some ⟨3,[[ints acc,.nilS,.rs 42 0 R.length]],0⟩),(42,some ⟨2,za7 R,0⟩),(43,some ⟨1,zag fl,0⟩)],1000⟩ rfl ?_ ?_
   ·simp
    refine zaQ hsv (by simp) ?_
    simp
    exact Le.go [(32,32),(40,40),(42,42),(924,43)] [] rfl rfl (by simp) (by simp [fcd])
   refine zaa ?_
   refine zab ⟨72,[(2,.pv (gC g)),(3,.pv (pC p)),(4,.pt 32 0 0),(7,.pt 40 0 0),(9,.I k),(10,ints W),(11,.pv (nC ⟨netN g,A⟩)),(12,.rs 43 0 A.length),(44,.B (@decide (zaq g p (zaw W)) (Classical.propDecidable _))),(23,ints o),(24,.I o.length),(25,.I i)],
    [(32,some ⟨3,[[.nilS,.nilS,.nilS]],0⟩),(40,some ⟨3,[[ints acc,.nilS,.rs 42 0 R.length]],0⟩),(42,some ⟨2,za7 R,0⟩),(43,some ⟨1,zag fl,0⟩)],1100⟩ rfl ?_ ?_
   ·simp
    exact Le.go [(32,32),(40,40),(42,42),(43,43)] [] rfl rfl (by simp) (by simp [fcd])
   refine zac _ rfl (fun h15=>?_) fun h15=>?_
   ·have h15' : zaq g p (zaw W):=@of_decide_eq_true _ (Classical.propDecidable _) h15
    have hy:=hyes h15'
    have hry:=hryes h15'
    refine zab ⟨72,[(2,.pv (gC g)),(3,.pv (pC p)),(4,.pt 32 0 0),(7,.pt 40 0 0),(23,ints o),(24,.I o.length),(25,.I i)],
     [(32,some ⟨3,[[.nilS,.nilS,.nilS]],0⟩),(40,some ⟨3,[[ints W,.nilS,.rs 42 0 R.length]],0⟩),(42,some ⟨2,za7 R,0⟩)],1200⟩ rfl ?_ ?_
    ·simp [zaU]
     exact Le.go [(32,32),(40,40),(42,42)] [] rfl rfl (by simp) (by simp [fcd])
    refine zan ?_
    refine hit ?_
    exact ⟨(),trivial,Le.go [(32,32),(40,40),(42,42)] [] rfl rfl (by simp) (by simp [hy,hry,fcd])⟩
   ·have h15' : ¬ zaq g p (zaw W):=@of_decide_eq_false _ (Classical.propDecidable _) h15
    have hn':=hno h15'
    have hrn:=hrno h15'
    have htR : ∀ h : Int × List Int → List AV,List.take R.length (List.map h R) = List.map h R:=fun h=>List.take_of_length_le (by simp)
    refine zae ?_
    refine zbm rfl ?_
    simp
    refine zbd (i:=43) rfl (by simp [fcd]) hreach (by simp) (by simp) ?_
    simp [htR,zaU]
    exact ⟨by omega,by omega,rfl,Le.go [(32,32),(40,40),(1164,42)] [1140] rfl rfl (by simp) (by simp [hn',hrn,fcd,zao])⟩
  refine zau rfl ?_
  simp [hw1]
  exact ⟨i + 1,by omega,by omega,Le.go [(32,32),(40,40),(42,42)] [] rfl rfl (by simp [hw1]) (by simp [fcd])⟩
 simp at h11
 obtain rfl : i = o.length:=by omega
 rw [List.take_length] at hacc hR
 rw [← hacc] at hlast hnl hlf
 have hl1 : ((acc.length : Nat) : Int) = acc.length:=rfl
 obtain ⟨A,hA⟩ : ∃ A,A = netA g p (zaw acc):=⟨_,rfl⟩
 rw [← hA] at hnl hlast hlf
 have htf : ∀ h : Int → List AV,List.take A.length (List.map h f) = List.map h f:=fun h=>List.take_of_length_le (by simp; omega)
 refine zan ?_
 refine hit ?_
 refine zat ⟨72,[(4,.pt 32 0 0),(7,.pt 40 0 0)],
   [(32,some ⟨3,[[.nilS,.nilS,.nilS]],0⟩),(40,some ⟨3,[[ints acc,ints f,.vs 2 false (za7 R)]],0⟩)],1200⟩ rfl ?_ ?_
 ·simp
  refine zal hnl (by simp) ?_
  simp
  refine zaQ hlast (by simp) ?_
  simp [zaU]
  exact ⟨rfl,Le.go [(32,32),(40,40)] [42,664] rfl rfl (by simp) (by simp [fcd,zao,htf,hlf])⟩
 refine zab ⟨72,[(4,.pt 32 0 0),(5,.I 0)],[(32,some ⟨3,[[ints acc,ints f,.vs 2 false (za7 R)]],0⟩)],1400⟩ rfl ?_ ?_
 ·simp [zaU]
  exact Le.go [(32,32)] [] rfl rfl (by simp) (by simp [fcd])
 refine zah ?_
 rw [← hacc,← hR]
 exact ⟨.inr rfl,zam.out [] [32] rfl (by simp) (by simp) (by simp) (by simp)⟩
section
variable {P : Program} {np id : Nat} {h : Nat → Option Ent} {K : AV → List Nat → List (Nat × Option Ent) → Prop} {f : FuncId} {first capt args args' : List AV} {res : AV}
end
theorem zr5 (L : List Int) (hl : L.length ≤ 400) : ∃ (g : Gr) (b : Nat),(GrOk g ∧ 2 ≤ g.size ∧ g.size ≤ 9 ∧ b ≤ L.length) ∧ zai Tryz.prog zbK [.pt 0 0 0] [dice L 0] (eG g) [some (dice L b)] :=
 have h:=znr L 0 (Nat.zero_le _)
 ⟨_,_,⟨h.ok,h.lo,h.hi,h.at_⟩,zrq L 0 hl (Nat.zero_le _)⟩
variable {g : Gr} {p : Pol}
def zbb (g : Gr) (p : Pol) (ks : List Int) : Prop:=Rise ks 0 (g.size - 1) ∧ (∀ k ∈ ks,0 ≤ dist (zaj g p.lv) p.seeds k) ∧ zaq g p ks
theorem Rise.pair {l : List Int} {lo hi : Int} (h : Rise l lo hi) : l.Pairwise (· < ·):=by
 have hlt : ∀ (j i : Nat) (hj : j < l.length) (hij : i < j),l[i] < l[j]:=by
  intro j
  induction j with
  | zero=>intro i _ hij; omega
  | succ j ih =>
    intro i hj hij
    have h1:=(h (j + 1) hj).2.2 (by omega)
    simp only [Nat.add_sub_cancel] at h1
    rcases Nat.lt_or_ge i j with h2 | h2
    ·have:=ih i (by omega) h2
     omega
    ·have : i = j:=by omega
     subst this
     exact h1
 exact List.pairwise_iff_getElem.2 fun i j hi hj hij=>hlt j i hj hij
theorem zcT (acc f : List Int) (R : List (Int × List Int)) (k : Int) (hl : acc.length ≤ 140737488355328) : zai Tryz.prog zbD [eAcc acc f R,.I k] [] (.B (decide (k ∈ acc))) []:=by
 refine zi9.acalls (Nat.le_of_ble_eq_true rfl) (Nat.le_of_ble_eq_true rfl) (Nat.zero_le _) ?_
 show awp _ 0 _ _ ⟨9,[(0,eAcc acc f R),(1,.I k)],[],16⟩
 refine zab ⟨9,[(1,.I k),(2,.pv [ints acc,ints f,.vs 2 false (za7 R)])],[],100⟩ rfl ?_ ?_
 ·simp
  exact Le.go [] [16] rfl rfl (by simp) (by simp)
 refine zab ⟨9,[(4,.B (decide (k ∈ acc)))],[],200⟩ rfl ?_ ?_
 ·simp
  refine zal (zcS acc k hl) (by simp) ?_
  simp
  exact Le.go [] [] rfl rfl (by simp) (by simp)
 refine zah ?_
 exact ⟨.inr rfl,zam.one (by simp)⟩
theorem zf9 (C : List Int) (k : Int) (h0 : 0 ≤ k) (h1 : k < C.length) : zai Tryz.prog zb2 [.I k,.pv [ints C]] [] (.B (decide (C.getD k.toNat 0 = 0))) []:=by
 refine zhs.acalls (Nat.le_of_ble_eq_true rfl) (Nat.le_of_ble_eq_true rfl) (Nat.zero_le _) ?_
 show awp _ 0 _ _ ⟨9,[(0,.I k),(1,.pv [ints C])],[],16⟩
 have hk : k.toNat < C.length:=by omega
 have hget : C[k.toNat]? = some (C.getD k.toNat 0):=by rw [List.getD_eq_getElem?_getD,List.getElem?_eq_getElem hk,Option.getD_some]
 obtain ⟨v,hv⟩ : ∃ v,v = C.getD k.toNat 0:=⟨_,rfl⟩
 rw [← hv] at hget ⊢
 refine rx (s:=?s1) [0,1] [] [] rfl ?o1 ?q1
 case o1=>simp; rfl
 refine zab ⟨9,[(3,.B (decide (v = 0)))],[],200⟩ rfl ?_ ?_
 ·have hv' : C[k.toNat] = v:=by rw [List.getElem?_eq_getElem hk] at hget; exact Option.some.inj hget
  simp [hget,hk,h0,hv']
  exact Le.go [] [] rfl rfl (by simp <;> exact wkB (by rw [Bool.eq_iff_iff]; simp)) (by simp)
 refine zah ?_
 exact ⟨.inr rfl,zam.one (by simp)⟩
set_option maxRecDepth 100000 in
set_option maxHeartbeats 1000000 in
open Classical in
theorem zck (g : Gr) (p : Pol) (ks : List Int) (hg : GrOk g) (hp : za3 g.size p) (hs : p.seeds.length ≤ 64) (hl : ks.length ≤ 1099511627776) :
  zai Tryz.prog zaZ [eG g,eP p,ints ks] [] (.B (decide (zbb g p ks))) []:=by
 refine zjZ.acalls (Nat.le_of_ble_eq_true rfl) (Nat.le_of_ble_eq_true rfl) (Nat.le_refl _) ?_
 show awp _ 0 _ _ ⟨39,[(0,eG g),(1,eP p),(2,ints ks)],[],16⟩
 have hsz:=hg.1.1
 have hsz2:=hg.1.2.1
 have hel:=hg.edges_le
 have hgl:=hg.gone_le
 have hchk:=zb8 g p (by omega) (by omega) (by omega) (by have:=hp.2.2.2.1; omega)
 rw [if_pos hg,if_pos hp] at hchk
 have hris:=zbX ks 0 (g.size - 1) (by omega)
 have hall:=zfy g p hg (by omega)
 have hcl : (zaI g p).length = g.size.toNat:=zbz
 have hcr:=fun (k : Int) (h0 : 0 ≤ k)=>zfH (g:=g) hp h0
 have hcn:=zhQ (g:=g) hp
 obtain ⟨C,hC⟩ : ∃ C,C = zaI g p:=⟨_,rfl⟩
 rw [← hC] at hall hcl hcr hcn
 rw [← hcl] at hall
 have hw : IntKind.i64.wrap (g.size - 1) = g.size - 1:=w64 (by omega) (by omega)
 refine zab ⟨39,[(2,ints ks),(3,.pv (gC g)),(4,.pv (pC p))],[],100⟩ rfl ?_ ?_
 ·simp
  exact Le.go [] [16,24] rfl rfl (by simp) (by simp)
 refine zaa ?_
 refine zab ⟨39,[(2,ints ks),(3,.pv (gC g)),(4,.pv (pC p)),(21,.B (decide (¬ Rise ks 0 (g.size - 1))))],[],300⟩ rfl ?_ ?_
 ·simp
  refine zal hchk (by simp) ?_
  simp [hw]
  refine zal hris (by simp) ?_
  simp
  exact Le.go [] [] rfl rfl (by simp) (by simp)
 refine zac _ rfl (fun h3=>?_) fun h3=>?_
 ·rw [decide_eq_true_eq] at h3
  have hno : ¬ zbb g p ks:=fun h=>h3 h.1
  rw [decide_eq_false hno]
  refine rx (s:=?s4) [6] [] [] rfl ?o4 ?q4
  case o4=>simp; rfl
  refine zah ?_
  exact ⟨.inr rfl,zam.one (by simp)⟩
 rw [decide_eq_false_iff_not,Decidable.not_not] at h3
 have hr:=zge h3
 have hkn:=h3.nodup.1
 have hkl : ks.length ≤ 64:=by
  have:=zbc (a:=ks) (b:=(List.range 64).map Int.ofNat) hkn fun x hx=>by
   have:=hr x hx
   exact List.mem_map.2 ⟨x.toNat,List.mem_range.2 (by omega),by simp; omega⟩
  simpa using this
 have hcf:=zeX zb2 [.pv [ints C]] (fun k=>decide (C.getD k.toNat 0 = 0)) ks hl (fun ρ sn h k=>by simp) fun e he=>zf9 C e (hr e he).1 (by have:=hr e he; omega)
 have hany : (ks.any fun k=>decide (C.getD k.toNat 0 = 0)) = true ↔ ¬ ∀ k ∈ ks,0 ≤ dist (zaj g p.lv) p.seeds k:=by
  rw [List.any_eq_true]
  constructor
  ·rintro ⟨k,hk,h⟩ hall
   have h1:=(hcr k (hr k hk).1).2 ⟨(hr k hk).2,hall k hk⟩
   have h2 : C.getD k.toNat 0 = 0:=by simpa using h
   omega
  ·intro h
   obtain ⟨k,hk⟩:=Classical.not_forall.1 h
   obtain ⟨h1,h2⟩:=Classical.not_imp.1 hk
   refine ⟨k,h1,?_⟩
   have h4 : ¬ 0 < C.getD k.toNat 0:=fun h5=>h2 ((hcr k (hr k h1).1).1 h5).2
   have h5 : 0 ≤ C.getD k.toNat 0:=by
    rw [List.getD_eq_getElem?_getD]
    cases hh : C[k.toNat]? with
    | none=>simp
    | some v=>exact hcn v (List.mem_of_getElem? hh)
   simp only [decide_eq_true_eq]
   omega
 obtain ⟨b,hb⟩ : ∃ b,b = ks.any fun k=>decide (C.getD k.toNat 0 = 0):=⟨_,rfl⟩
 rw [← hb] at hcf hany
 refine zae ?_
 refine zab ⟨39,[(2,ints ks),(3,.pv (gC g)),(4,.pv (pC p)),(7,.pv [ints C])],[],400⟩ rfl ?_ ?_
 ·simp
  refine zaQ hall (by simp) ?_
  simp
  exact Le.go [] [316,324] rfl rfl (by simp [fcd,zao]) (by simp)
 refine zaa ?_
 refine zab ⟨39,[(2,ints ks),(3,.pv (gC g)),(4,.pv (pC p)),(27,.B b)],[],500⟩ rfl ?_ ?_
 ·simp
  refine zal hcf (by simp) ?_
  simp
  exact Le.go [] [] rfl rfl (by simp) (by simp)
 refine zac _ rfl (fun h7=>?_) fun h7=>?_
 ·have hno : ¬ zbb g p ks:=fun h=>hany.1 h7 h.2.1
  rw [decide_eq_false hno]
  refine rx (s:=?s8) [6] [] [] rfl ?o8 ?q8
  case o8=>simp; rfl
  refine zah ?_
  exact ⟨.inr rfl,zam.one (by simp)⟩
 have h7' : ∀ k ∈ ks,0 ≤ dist (zaj g p.lv) p.seeds k:=Decidable.byContradiction fun h=>by
  have:=hany.2 h
  rw [show b = false from h7] at this
  cases this
 have hks : zaw ks = ks:=zhn (zek ks) h3.pair fun x=>by
  rw [zcE]
  exact ⟨fun h=>h.1,fun h=>⟨h,by have:=hr x h; omega⟩⟩
 have hnet:=zbB g p ks hg hp hkn hr hs
 rw [hks] at hnet
 have hnv:=zfM hg hp hr hs hkl
 obtain ⟨fl,hfl,hsv⟩:=zfW _ _ (ks.length : Nat) hnv
 have hcs : decide (valF (netA g p ks) fl = (ks.length : Nat)) = decide (zbb g p ks):=by
  rw [decide_eq_decide]
  have hmf:=zfg hfl.1 hfl.2
  unfold zbb zaq
  rw [hmf]
  exact ⟨fun h=>⟨h3,h7',h⟩,fun h=>h.2.2⟩
 rw [hcs] at hsv
 obtain ⟨A,hA⟩ : ∃ A,A = netA g p ks:=⟨_,rfl⟩
 rw [← hA] at hnet hsv
 refine zae ?_
 refine zab ⟨39,[(9,.B (decide (zbb g p ks)))],[],700⟩ rfl ?_ ?_
 ·simp
  refine zal hnet (by simp) ?_
  simp
  refine zaQ hsv (by simp) ?_
  simp
  exact Le.go [] [] rfl rfl (by simp) (by simp)
 refine zab ⟨39,[(6,.B (decide (zbb g p ks)))],[],800⟩ rfl ?_ ?_
 ·simp
  exact Le.go [] [] rfl rfl (by simp) (by simp)
 refine zah ?_
 exact ⟨.inr rfl,zam.one (by simp)⟩
def za9 : List Int → List Int → List Int → Bool
 | [],a,r=>a.isEmpty && r.isEmpty
 | x :: o,a,r=>if a.head? = some x then za9 o a.tail r else if r.head? = some x then za9 o a r.tail else false
def zby : Nat → List Int → List Int → List Int → List Nat
 | _,[],_,_=>[]
 | c,x :: o,a,r=>if a.head? = some x then zby (c + 1) o a.tail r else if r.head? = some x then c :: zby c o a r.tail else []
theorem zjd : ∀ {o a r : List Int},za9 o a r = true → a.Sublist o ∧ r.Sublist o
 | [],a,r,h=>by
   simp [za9] at h
   rw [h.1,h.2]
   exact ⟨List.nil_sublist _,List.nil_sublist _⟩
 | x :: o,a,r,h=>by
   simp only [za9] at h
   split at h
   ·rename_i h1
    obtain ⟨h2,h3⟩:=zjd h
    cases a with
    | nil=>cases h1
    | cons y a =>
      have : y = x:=by simpa using h1
      subst this
      exact ⟨h2.cons_cons _,h3.cons _⟩
   ·split at h
    ·rename_i h1
     obtain ⟨h2,h3⟩:=zjd h
     cases r with
     | nil=>cases h1
     | cons y r =>
       have : y = x:=by simpa using h1
       subst this
       exact ⟨h2.cons _,h3.cons_cons _⟩
    ·cases h
theorem zja : ∀ {o a r : List Int},za9 o a r = true → ∀ x ∈ o,x ∈ a ∨ x ∈ r
 | [],a,r,_,x,hx=>by simp at hx
 | x :: o,a,r,h,y,hy=>by
   simp only [za9] at h
   split at h
   ·rename_i h1
    cases a with
    | nil=>cases h1
    | cons z a =>
      have : z = x:=by simpa using h1
      subst this
      rcases List.mem_cons.1 hy with rfl | hy
      ·exact .inl (by simp)
      ·rcases zja h y hy with h2 | h2
       ·exact .inl (List.mem_cons_of_mem _ h2)
       ·exact .inr h2
   ·split at h
    ·rename_i h1
     cases r with
     | nil=>cases h1
     | cons z r =>
       have : z = x:=by simpa using h1
       subst this
       rcases List.mem_cons.1 hy with rfl | hy
       ·exact .inr (by simp)
       ·rcases zja h y hy with h2 | h2
        ·exact .inl h2
        ·exact .inr (List.mem_cons_of_mem _ h2)
    ·cases h
theorem zgt : ∀ {o a r : List Int},za9 o a r = true → o.length = a.length + r.length
 | [],a,r,h=>by
   simp [za9] at h
   rw [h.1,h.2]
   rfl
 | x :: o,a,r,h=>by
   simp only [za9] at h
   split at h
   ·rename_i h1
    cases a with
    | nil=>cases h1
    | cons z a =>
      have:=zgt h
      simp at this ⊢
      omega
   ·split at h
    ·rename_i h1
     cases r with
     | nil=>cases h1
     | cons z r =>
       have:=zgt h
       simp at this ⊢
       omega
    ·cases h
theorem zfL : ∀ {o a r : List Int} {c : Nat},za9 o a r = true → (zby c o a r).length = r.length
 | [],a,r,c,h=>by
   simp [za9] at h
   rw [h.2]
   rfl
 | x :: o,a,r,c,h=>by
   simp only [za9] at h
   simp only [zby]
   split at h
   ·rename_i h1
    rw [if_pos h1]
    exact zfL h
   ·rename_i h1
    rw [if_neg h1]
    split at h
    ·rename_i h2
     rw [if_pos h2,List.length_cons,zfL h]
     cases r with
     | nil=>cases h2
     | cons y r=>rfl
    ·cases h
theorem zgu : ∀ {o a r : List Int} {c m : Nat},m ∈ zby c o a r → c ≤ m ∧ m ≤ c + a.length
 | [],a,r,c,m,h=>by simp [zby] at h
 | x :: o,a,r,c,m,h=>by
   simp only [zby] at h
   split at h
   ·rename_i h1
    have:=zgu h
    cases a with
    | nil=>cases h1
    | cons y a=>simp at this ⊢; omega
   ·split at h
    ·rcases List.mem_cons.1 h with rfl | h
     ·omega
     ·exact zgu h
    ·simp at h
theorem ziR : ∀ {o a r : List Int} {k : Int},za9 o a r = true → k ∉ o → za9 (o ++ [k]) (a ++ [k]) r = true
 | [],a,r,k,h,_=>by
   simp [za9] at h
   rw [h.1,h.2]
   simp [za9]
 | x :: o,a,r,k,h,hk=>by
   have hkx : k ≠ x:=fun e=>hk (by simp [e])
   have hko : k ∉ o:=fun e=>hk (List.mem_cons_of_mem _ e)
   simp only [za9] at h
   simp only [List.cons_append,za9]
   split at h
   ·rename_i h1
    cases a with
    | nil=>cases h1
    | cons y a =>
      have : y = x:=by simpa using h1
      subst this
      simpa using ziR h hko
   ·rename_i h1
    split at h
    ·rename_i h2
     have h3 : (a ++ [k]).head? ≠ some x:=by
      cases a with
      | nil=>simpa using hkx
      | cons y a=>simpa using h1
     rw [if_neg h3,if_pos h2]
     exact ziR h hko
    ·cases h
theorem zjs : ∀ {o a r : List Int} {k : Int},za9 o a r = true → k ∉ o → za9 (o ++ [k]) a (r ++ [k]) = true
 | [],a,r,k,h,_=>by
   simp [za9] at h
   rw [h.1,h.2]
   simp [za9]
 | x :: o,a,r,k,h,hk=>by
   have hkx : k ≠ x:=fun e=>hk (by simp [e])
   have hko : k ∉ o:=fun e=>hk (List.mem_cons_of_mem _ e)
   simp only [za9] at h
   simp only [List.cons_append,za9]
   split at h
   ·rename_i h1
    rw [if_pos h1]
    exact zjs h hko
   ·rename_i h1
    rw [if_neg h1]
    split at h
    ·rename_i h2
     cases r with
     | nil=>cases h2
     | cons y r =>
       have : y = x:=by simpa using h2
       subst this
       simpa using zjs h hko
    ·cases h
def zih (g : Gr) (p : Pol) (b : List Int) (r : Int × List Int) : Prop:=zeN ⟨netN g,netA g p (zaw (b ++ [r.1]))⟩ r.2 b.length
def zeA (g : Gr) (p : Pol) : List Int → List Int → List Int → List (Int × List Int) → Prop
 | _,[],_,_=>True
 | b,x :: o,a,R=>if a.head? = some x then zeA g p (b ++ [x]) o a.tail R else match R with
   | []=>True
   | r :: R=>zih g p b r ∧ zeA g p b o a R
def za6 (R : List (Int × List Int)) : List Int:=R.map (·.1)
theorem ziw {g : Gr} {p : Pol} : ∀ {o b a : List Int} {R : List (Int × List Int)},za9 o a (za6 R) = true →
  (zeA g p b o a R ↔ ∀ i (h : i < R.length),zih g p (b ++ a.take ((zby b.length o a (za6 R)).getD i 0 - b.length)) R[i])
 | [],b,a,R,h=>by
   simp [za9,za6] at h
   obtain ⟨_,rfl⟩:=h
   simp [zeA]
 | x :: o,b,a,R,h=>by
   simp only [za9] at h
   simp only [zeA,zby]
   split at h
   ·rename_i h1
    rw [if_pos h1,if_pos h1]
    have ih:=ziw (g:=g) (p:=p) (b:=b ++ [x]) h
    rw [List.length_append,List.length_singleton] at ih
    rw [ih]
    cases a with
    | nil=>cases h1
    | cons y a =>
      have : y = x:=by simpa using h1
      subst this
      simp only [List.tail_cons] at h ih ⊢
      have key : ∀ i (hi : i < R.length),b ++ [y] ++ a.take ((zby (b.length + 1) o a (za6 R)).getD i 0 - (b.length + 1)) = b ++ (y :: a).take ((zby (b.length + 1) o a (za6 R)).getD i 0 - b.length):=fun i hi=>by
       have hl : i < (zby (b.length + 1) o a (za6 R)).length:=by
        rw [zfL h,za6,List.length_map]
        exact hi
       have hm:=zgu (List.getElem_mem hl)
       have e : (zby (b.length + 1) o a (za6 R)).getD i 0 = (zby (b.length + 1) o a (za6 R))[i]:=by rw [List.getD_eq_getElem?_getD,List.getElem?_eq_getElem hl,Option.getD_some]
       rw [e]
       obtain ⟨q,hq⟩ : ∃ q,(zby (b.length + 1) o a (za6 R))[i] = b.length + 1 + q:=⟨_,(Nat.add_sub_cancel' hm.1).symm⟩
       rw [hq,show b.length + 1 + q - (b.length + 1) = q by omega,show b.length + 1 + q - b.length = q + 1 by omega,List.take_succ_cons,List.append_assoc]
       rfl
      constructor
      ·intro h2 i hi
       rw [← key i hi]
       exact h2 i hi
      ·intro h2 i hi
       have:=h2 i hi
       rw [← key i hi] at this
       exact this
   ·rename_i h1
    rw [if_neg h1,if_neg h1]
    split at h
    ·rename_i h2
     cases R with
     | nil=>cases h2
     | cons r R =>
       rw [if_pos h2]
       have ih:=ziw (g:=g) (p:=p) (b:=b) (R:=R) h
       simp only
       rw [ih]
       constructor
       ·rintro ⟨h3,h4⟩ i hi
        cases i with
        | zero=>simpa using h3
        | succ i=>exact h4 i (by simpa using hi)
       ·intro h3
        refine ⟨by
         have h4:=h3 0 (Nat.zero_lt_succ _)
         simp only [List.getD_cons_zero,Nat.sub_self,List.take_zero,List.append_nil] at h4
         exact h4,fun i hi=>h3 (i + 1) (by simpa using hi)⟩
    ·cases h
open Classical in
noncomputable def zos (g : Gr) (p : Pol) (acc flow : List Int) (R : List (Int × List Int)) : Int :=
 if za9 (ordL (zaj g p.lv) p.seeds) acc (za6 R) = true then
  if zay (netN g) (netA g p (zaw acc)) flow ∧ valF (netA g p (zaw acc)) flow = acc.length then
   if zeA g p [] (ordL (zaj g p.lv) p.seeds) acc R then 0 else 18
  else 17
 else 1
theorem zjT {l : List Int} {i : Nat} (h : i < l.length) : (l.drop i).head? = some l[i]:=by rw [List.head?_drop,List.getElem?_eq_getElem h]
theorem zf0 {l : List Int} {i : Nat} (h : ¬ i < l.length) : (l.drop i).head? = none:=by rw [List.head?_drop,List.getElem?_eq_none (by omega)]
structure PtSt where
 n : Nat
 i : Nat
 k : Nat
 L : List Int
set_option maxRecDepth 100000 in
set_option maxHeartbeats 4000000 in
theorem ziW (o acc f : List Int) (R : List (Int × List Int)) (hol : o.length ≤ 100) (ha : acc.length ≤ 1000) (hR : R.length ≤ 1000) :
  ∃ L : List Int,(za9 o acc (za6 R) = true → L = (zby 0 o acc (za6 R)).map fun (n : Nat)=>(n : Int)) ∧ zai Tryz.prog zd4 [ints o,eAcc acc f R] [] (.tup [ints L,.B (za9 o acc (za6 R))]) []:=by
 refine zjX.acallsX (args:=[ints o,eAcc acc f R]) (hs:=[]) (fun L=>.tup [ints L,.B (za9 o acc (za6 R))]) (fun _=>[]) (fun L : List Int=>za9 o acc (za6 R) = true → L = (zby 0 o acc (za6 R)).map fun (n : Nat)=>(n : Int)) (Nat.le_of_ble_eq_true rfl) (Nat.le_of_ble_eq_true rfl) (fun _=>Nat.le_refl _) ?_
 show awp _ 0 _ _ ⟨70,[(0,ints o),(1,eAcc acc f R)],[],16⟩
 have hkl : (za6 R).length = R.length:=by simp [za6]
 obtain ⟨b,hb⟩ : ∃ b,b = za9 o acc (za6 R):=⟨_,rfl⟩
 rw [← hb]
 refine zab ⟨70,[(0,ints o),(3,.pv [ints acc,ints f,.vs 2 false (za7 R)])],[],40⟩ rfl ?_ ?_
 ·simp
  exact Le.go [] [16] rfl rfl (by simp) (by simp)
 refine zab ⟨70,[(0,ints o),(3,.pv [ints acc,ints f,.vs 2 false (za7 R)]),(6,.rs 50 0 0)],[(50,some ⟨1,[],0⟩)],100⟩ rfl ?_ ?_
 ·simp
  exact Le.lst [] [] [(50,1)] rfl (by simp) (by simp) (by simp) (by simp) (by simp) (by simp) (by simp) (by simp [Up]) (by simp)
 refine zab ⟨70,[(0,ints o),(3,.pv [ints acc,ints f,.vs 2 false (za7 R)]),(6,.rs 50 0 0),(7,.I 0),(8,.I 0)],[(50,some ⟨1,[],0⟩)],200⟩ rfl ?_ ?_
 ·simp
  exact Le.go [(50,50)] [] rfl rfl (by simp) (by simp)
 refine zaa ?_
 refine zab ⟨70,[(3,.pv [ints acc,ints f,.vs 2 false (za7 R)]),(6,.rs 50 0 0),(7,.I 0),(8,.I 0),(11,ints o),(12,.I o.length),(13,.I 0)],[(50,some ⟨1,[],0⟩)],300⟩ rfl ?_ ?_
 ·simp
  exact Le.go [(50,50)] [] rfl rfl (by simp) (by simp)
 refine zaf ?_
 refine zap (ι:=PtSt) (fun s=>⟨70,[(3,.pv [ints acc,ints f,.vs 2 false (za7 R)]),(6,.rs 50 0 s.L.length),(7,.I s.i),(8,.I s.k),(11,ints o),(12,.I o.length),(13,.I s.n)],[(50,some ⟨1,zag s.L,0⟩)],300⟩)
  (fun s=>s.n ≤ o.length ∧ s.i ≤ acc.length ∧ s.k ≤ R.length ∧ s.L.length ≤ s.n ∧ b = za9 (o.drop s.n) (acc.drop s.i) ((za6 R).drop s.k) ∧ s.L ++ (zby s.i (o.drop s.n) (acc.drop s.i) ((za6 R).drop s.k)).map (fun (n : Nat)=>(n : Int)) = (zby 0 o acc (za6 R)).map (fun (n : Nat)=>(n : Int)))
  (fun s=>o.length - s.n) ⟨0,0,0,[]⟩ ⟨Nat.zero_le _,Nat.zero_le _,Nat.zero_le _,Nat.le_refl _,by simpa using hb,by simp⟩ (Le.go [(50,50)] [] rfl rfl (by simp) (by simp)) ?_
 rintro ⟨n,i,k,L⟩ ⟨hn,hi,hk,hL,hp,hah⟩
 simp only at hn hi hk hL hp hah
 refine zab ⟨70,[(3,.pv [ints acc,ints f,.vs 2 false (za7 R)]),(6,.rs 50 0 L.length),(7,.I i),(8,.I k),(11,ints o),(12,.I o.length),(13,.I n),(14,.B (decide (n < o.length)))],[(50,some ⟨1,zag L,0⟩)],400⟩ rfl ?_ ?_
 ·simp
  exact Le.go [(50,50)] [] rfl rfl (by simp) (by simp [fcd])
 refine zaa ?_
 refine zac _ rfl (fun h6=>?_) fun h6=>?_
 ·simp at h6
  have hw1 : IntKind.i64.wrap ((n : Int) + 1) = (n : Int) + 1:=w64 (by omega) (by omega)
  have hw2 : IntKind.i64.wrap ((i : Int) + 1) = (i : Int) + 1:=w64 (by omega) (by omega)
  have hw3 : IntKind.i64.wrap ((k : Int) + 1) = (k : Int) + 1:=w64 (by omega) (by omega)
  obtain ⟨x,hx⟩ : ∃ x,x = o[n]:=⟨_,rfl⟩
  have hod : o.drop n = x :: o.drop (n + 1):=by rw [List.drop_eq_getElem_cons h6,hx]
  rw [hod] at hp hah
  simp only [za9,zby,List.tail_drop] at hp hah
  refine zae ?_
  refine zaa ?_
  refine zaf ?_
  refine zab ⟨70,[(3,.pv [ints acc,ints f,.vs 2 false (za7 R)]),(6,.rs 50 0 L.length),(7,.I i),(8,.I k),(10,.I x),(11,ints o),(12,.I o.length),(13,.I n)],[(50,some ⟨1,zag L,0⟩)],500⟩ rfl ?_ ?_
  ·simp [h6,← hx]
   exact Le.go [(50,50)] [] rfl rfl (by simp) (by simp [fcd])
  refine zaf ?_
  refine zab ⟨70,[(3,.pv [ints acc,ints f,.vs 2 false (za7 R)]),(6,.rs 50 0 L.length),(7,.I i),(8,.I k),(10,.I x),(11,ints o),(12,.I o.length),(13,.I n),(17,.B (decide ((acc.drop i).head? = some x)))],[(50,some ⟨1,zag L,0⟩)],700⟩ rfl ?_ ?_
  ·by_cases hia : i < acc.length
   ·have hh:=zjT hia
    simp [hia]
    exact Le.go [(50,50)] [] rfl rfl (by simp <;> exact wkB (by rw [Bool.eq_iff_iff]; simp [hia])) (by simp [fcd])
   ·have hh:=zf0 hia
    have hai : acc.length ≤ i:=by omega
    simp [hia]
    exact Le.go [(50,50)] [] rfl rfl (by simp [hia]) (by simp [fcd])
  refine zac _ rfl (fun h9=>?_) fun h9=>?_
  ·rw [decide_eq_true_eq] at h9
   rw [if_pos h9] at hp hah
   have hia : i < acc.length:=Decidable.byContradiction fun h=>by rw [zf0 h] at h9; cases h9
   refine zau rfl ?_
   simp
   refine zau rfl ?_
   simp
   exact ⟨⟨n + 1,i + 1,k,L⟩,⟨by simp only; omega,by simp only; omega,hk,by simp only; omega,hp,hah⟩,by simp only; omega,Le.go [(50,50)] [] rfl rfl (by simp [hw1,hw2]) (by simp [fcd])⟩
  rw [decide_eq_false_iff_not] at h9
  rw [if_neg h9] at hp hah
  refine zab ⟨70,[(3,.pv [ints acc,ints f,.vs 2 false (za7 R)]),(6,.rs 50 0 L.length),(7,.I i),(8,.I k),(11,ints o),(12,.I o.length),(13,.I n),(34,.B (decide (((za6 R).drop k).head? = some x)))],[(50,some ⟨1,zag L,0⟩)],900⟩ rfl ?_ ?_
  ·by_cases hkR : k < R.length
   ·have hh : ((za6 R).drop k).head? = some R[k].1:=by rw [List.head?_drop,za6,List.getElem?_map,List.getElem?_eq_getElem hkR]; rfl
    have hh2 : (za6 R)[k]? = some R[k].1:=by rw [← List.head?_drop]; exact hh
    simp [hkR]
    exact Le.go [(50,50)] [] rfl rfl (by simp [hh2] <;> exact wkB (by rw [Bool.eq_iff_iff]; simp)) (by simp [fcd])
   ·have hh : ((za6 R).drop k).head? = none:=by rw [List.head?_drop,List.getElem?_eq_none (by omega)]
    have hh2 : (za6 R)[k]? = none:=by rw [← List.head?_drop]; exact hh
    simp [hkR]
    exact Le.go [(50,50)] [] rfl rfl (by simp [hh2,hkR]) (by simp [fcd])
  refine zac _ rfl (fun h11=>?_) fun h11=>?_
  ·rw [decide_eq_true_eq] at h11
   rw [if_pos h11] at hp hah
   have hkR : k < R.length:=Decidable.byContradiction fun h=>by rw [List.head?_drop,List.getElem?_eq_none (by omega)] at h11; cases h11
   refine zab ⟨70,[(3,.pv [ints acc,ints f,.vs 2 false (za7 R)]),(6,.rs 50 0 L.length),(7,.I i),(8,.I (k + 1 : Nat)),(11,ints o),(12,.I o.length),(13,.I n)],[(50,some ⟨1,zag L,0⟩)],1000⟩ rfl ?_ ?_
   ·simp
    exact Le.go [(50,50)] [] rfl rfl (by simp [hw3]) (by simp [fcd])
   have htL : ∀ h : Int → List AV,List.take L.length (List.map h L) = List.map h L:=fun h=>List.take_of_length_le (by simp)
   refine zau rfl ?_
   simp [htL]
   refine ⟨by omega,by omega,?_⟩
   refine zau rfl ?_
   simp
   exact ⟨⟨n + 1,i,k + 1,L ++ [(i : Int)]⟩,⟨by simp only; omega,hi,hkR,by simp; omega,hp,by simpa using hah⟩,by simp only; omega,Le.go [(1024,50)] [] rfl rfl (by simp [hw1]) (by simp [fcd])⟩
  rw [decide_eq_false_iff_not] at h11
  rw [if_neg h11] at hp
  subst hp
  refine zab ⟨70,[(4,ints []),(5,.B false)],[],1000⟩ rfl ?_ ?_
  ·simp
   exact Le.go [] [] rfl rfl (by simp; exact Wk.nil _ _) (by simp)
  refine zah ?_
  exact zib.mk (.inr rfl) [] (fun h=>by cases h) (zam.out [] [] rfl (by simp) (by simp) (by simp; exact .refl _) (by simp))
 simp at h6
 obtain rfl : n = o.length:=by omega
 rw [List.drop_length] at hp hah
 have hp2 : b = (decide (i = acc.length) && decide (k = R.length)):=by
  rw [hp]
  simp only [za9]
  rw [Bool.eq_iff_iff]
  simp [List.isEmpty_iff]
  omega
 refine zan ?_
 refine hit ?_
 have htL : ∀ h : Int → List AV,List.take L.length (List.map h L) = List.map h L:=fun h=>List.take_of_length_le (by simp)
 refine zat ⟨70,[(4,ints L),(5,.B b)],[],1000⟩ rfl ?_ ?_
 ·by_cases hia : i = acc.length
  ·simp [hia]
   exact ⟨rfl,Le.go [] [50] rfl rfl (by simp [hp2,hia,fcd,htL] <;> exact wkB (by rw [Bool.eq_iff_iff]; simp; omega)) (by simp)⟩
  ·have hia2 : ¬ (i : Int) = acc.length:=by omega
   have hia3 : ((i : Int) == (acc.length : Int)) = false:=by simpa using hia2
   simp [hia3]
   exact ⟨rfl,Le.go [] [50] rfl rfl (by simp [hp2,hia,fcd,htL]) (by simp)⟩
 refine zah ?_
 exact zib.mk (.inr rfl) L (fun _=>by simpa [zby] using hah) (zam.out [] [] rfl (by simp) (by simp) (by simp) (by simp))
theorem zoO {o a r : List Int} (hn : o.Nodup) (h : za9 o a r = true) : o.Perm (a ++ r) :=
 zb7 hn (fun x hx=>List.mem_append.2 (zja h x hx)) (by rw [zgt h,List.length_append]; exact Nat.le_refl _)
theorem zg9 {g : Gr} (hg : GrOk g) (p : Pol) : (ordL (zaj g p.lv) p.seeds).length ≤ 64:=by
 have hsz:=hg.1.1
 have hsz2:=hg.1.2.1
 have hr : ∀ x ∈ ordL (zaj g p.lv) p.seeds,0 ≤ x ∧ x < g.size:=fun x hx=>by have h:=zbx hx; exact h
 have:=zbc (b:=(List.range g.size.toNat).map fun i : Nat=>(i : Int)) (zbQ (zaj g p.lv) p.seeds) fun x hx=>by
  have:=hr x hx
  exact List.mem_map.2 ⟨x.toNat,List.mem_range.2 (by omega),by omega⟩
 rw [List.length_map,List.length_range] at this
 omega
set_option maxRecDepth 100000 in
set_option maxHeartbeats 4000000 in
open Classical in
theorem zji (g : Gr) (p : Pol) (acc f : List Int) (R : List (Int × List Int)) (hg : GrOk g) (hp : za3 g.size p) (hs : p.seeds.length ≤ 64) (hN : g.size < 20) (ha : acc.length ≤ 1000) (hR : R.length ≤ 1000) (hf : f.length ≤ 1099511627776) (hsd : ∀ r ∈ R,r.2.length ≤ 140737488355328) :
  zai Tryz.prog zeJ [eG g,eP p,eAcc acc f R] [] (.I (zos g p acc f R)) []:=by
 have hsz:=hg.1.1
 have hsz2:=hg.1.2.1
 have hel:=hg.edges_le
 have hgl:=hg.gone_le
 have hchk:=zb8 g p (by omega) (by omega) (by omega) (by have:=hp.2.2.2.1; omega)
 rw [if_pos hg,if_pos hp] at hchk
 have hord:=zfp g p hg hN (by omega)
 have hol:=zg9 hg p
 unfold zos
 obtain ⟨o,ho⟩ : ∃ o,o = ordL (zaj g p.lv) p.seeds:=⟨_,rfl⟩
 have hor : ∀ k ∈ o,0 ≤ k ∧ k < g.size:=fun k hk=>by rw [ho] at hk; have h:=zbx hk; exact h
 have hon : o.Nodup:=by rw [ho]; exact zbQ _ _
 rw [← ho] at hord hol ⊢
 obtain ⟨L,hL,hpart⟩:=ziW o acc f R (by omega) ha hR
 refine zkK.acalls (Nat.le_of_ble_eq_true rfl) (Nat.le_of_ble_eq_true rfl) (Nat.le_refl _) ?_
 show awp _ 0 _ _ ⟨80,[(0,eG g),(1,eP p),(2,eAcc acc f R)],[],16⟩
 refine zab ⟨80,[(3,.pv (gC g)),(4,.pv (pC p)),(5,.pv [ints acc,ints f,.vs 2 false (za7 R)])],[],60⟩ rfl ?_ ?_
 ·simp
  exact Le.go [] [16,24,32] rfl rfl (by simp) (by simp)
 refine zaa ?_
 refine rx (s:=?s2) [3,4,5,7] [] [] rfl ?o2 ?q2
 case o2=>simp; refine zal hchk (by simp) ?_; simp; rfl
 refine rx (s:=?s3) [3,4,5,18] [] [] rfl ?o3 ?q3
 case o3=>simp; rfl
 refine zac _ rfl (fun h=>by cases h) fun _=>?_
 refine zae ?_
 refine zat ⟨80,[(3,.pv (gC g)),(4,.pv (pC p)),(5,.pv [ints acc,ints f,.vs 2 false (za7 R)]),(8,ints L),(9,.B (za9 o acc (za6 R)))],[],300⟩ rfl ?_ ?_
 ·simp
  refine zaQ hord (by simp) ?_
  simp
  refine zsb [124] (by simp) hpart (by simp [fcd,zao]) ?_
  simp
  exact ⟨rfl,Le.go [] [] rfl rfl (by simp) (by simp)⟩
 refine zaa ?_
 refine zab ⟨80,[(3,.pv (gC g)),(4,.pv (pC p)),(5,.pv [ints acc,ints f,.vs 2 false (za7 R)]),(8,ints L),(29,.B (!za9 o acc (za6 R)))],[],400⟩ rfl ?_ ?_
 ·simp
  exact Le.go [] [] rfl rfl (by simp) (by simp)
 refine zac _ rfl (fun h8=>?_) fun h8=>?_
 ·have h8' : ¬ za9 o acc (za6 R) = true:=by simpa using h8
  rw [if_neg h8']
  refine rx (s:=?s9) [6] [] [] rfl ?o9 ?q9
  case o9=>simp; rfl
  refine zah ?_
  exact ⟨.inr rfl,zam.one (by simp)⟩
 have h8' : za9 o acc (za6 R) = true:=by simpa using h8
 rw [if_pos h8']
 have hL:=hL h8'
 have hsub:=zjd h8'
 have hperm:=(zoO hon h8').nodup_iff.1 hon
 have hkl : (za6 R).length = R.length:=by simp [za6]
 have hrk : ∀ k ∈ za6 R,0 ≤ k ∧ k < g.size:=fun k hk=>hor k (hsub.2.subset hk)
 have hak : ∀ k ∈ acc,0 ≤ k ∧ k < g.size:=fun k hk=>hor k (hsub.1.subset hk)
 have han : acc.Nodup:=(List.nodup_append.1 hperm).1
 have hnet:=zbB g p acc hg hp han hak hs
 have hnv : ∀ a : List Int,(∀ x ∈ a,0 ≤ x ∧ x < g.size) → za0 ⟨netN g,netA g p (zaw a)⟩:=fun a h=>zfM hg hp (zge (zcK h)) hs (zci a)
 have hval:=zg2 (f:=f) (hnv acc hak) hf
 have hvv:=zgR (f:=f) (hnv acc hak) hf
 have hcut:=ziw (g:=g) (p:=p) (b:=[]) h8'
 obtain ⟨A,hA⟩ : ∃ A,A = netA g p (zaw acc):=⟨_,rfl⟩
 rw [← hA] at hnet hval hvv
 rw [← hA]
 refine zae ?_
 refine zaa ?_
 refine zab ⟨80,[(3,.pv (gC g)),(4,.pv (pC p)),(5,.pv [ints acc,ints f,.vs 2 false (za7 R)]),(8,ints L),(10,.pv (nC ⟨netN g,A⟩))],[],500⟩ rfl ?_ ?_
 ·simp
  refine zal hnet (by simp) ?_
  simp
  exact Le.go [] [440] rfl rfl (by simp) (by simp)
 refine zat ⟨80,[(3,.pv (gC g)),(4,.pv (pC p)),(5,.pv [ints acc,ints f,.vs 2 false (za7 R)]),(8,ints L),(49,.B (!decide (zay (netN g) A f ∧ valF A f = acc.length)))],[],700⟩ rfl ?_ ?_
 ·by_cases hfo : zay (netN g) A f
  ·rw [decide_eq_true hfo] at hval
   rw [if_pos hfo] at hvv
   simp
   refine zal hval (by simp) ?_
   simp
   refine zal hvv (by simp) ?_
   simp
   exact ⟨rfl,Le.go [] [] rfl rfl (by simp [hfo] <;> exact wkB (by rw [Bool.eq_iff_iff]; simp)) (by simp)⟩
  ·rw [decide_eq_false hfo] at hval
   simp
   refine zal hval (by simp) ?_
   simp
   exact ⟨rfl,Le.go [] [] rfl rfl (by simp [hfo]) (by simp)⟩
 refine zac _ rfl (fun h12=>?_) fun h12=>?_
 ·have h12' : ¬ (zay (netN g) A f ∧ valF A f = acc.length):=fun h=>by rw [decide_eq_true h] at h12; cases h12
  rw [if_neg h12']
  refine rx (s:=?s13) [6] [] [] rfl ?o13 ?q13
  case o13=>simp; rfl
  refine zah ?_
  exact ⟨.inr rfl,zam.one (by simp)⟩
 have h12' : zay (netN g) A f ∧ valF A f = acc.length:=by simpa using h12
 rw [if_pos h12']
 refine zae ?_
 refine zaa ?_
 refine rx (s:=?s14) [3,4,5,8,51,52,53] [] [] rfl ?o14 ?q14
 case o14=>simp; rfl
 refine zaf ?_
 refine zap (ι:=Nat) (fun i=>⟨80,[(3,.pv (gC g)),(4,.pv (pC p)),(5,.pv [ints acc,ints f,.vs 2 false (za7 R)]),(8,ints L),(51,.vs 2 false (za7 R)),(52,.I R.length),(53,.I i)],[],800⟩)
  (fun i=>i ≤ R.length ∧ ∀ j (h : j < R.length),j < i → zih g p ([] ++ acc.take ((zby 0 o acc (za6 R)).getD j 0 - 0)) R[j]) (fun i=>R.length - i) 0 ⟨Nat.zero_le _,fun j _ h=>absurd h (Nat.not_lt_zero _)⟩ (Le.go [] [] rfl rfl (by simp) (by simp)) ?_
 rintro i ⟨hi,hpre⟩
 refine rx (s:=?s15) [3,4,5,8,51,52,53,54] [] [] rfl ?o15 ?q15
 case o15=>simp; rfl
 refine zaa ?_
 refine zac _ rfl (fun h16=>?_) fun h16=>?_
 ·simp at h16
  have hw1 : IntKind.i64.wrap ((i : Int) + 1) = (i : Int) + 1:=w64 (by omega) (by omega)
  have hail : i < (zby 0 o acc (za6 R)).length:=by rw [zfL h8',hkl]; exact h16
  have hage:=zgu (List.getElem_mem hail)
  have hgd : (zby 0 o acc (za6 R)).getD i 0 = (zby 0 o acc (za6 R))[i]:=by rw [List.getD_eq_getElem?_getD,List.getElem?_eq_getElem hail,Option.getD_some]
  obtain ⟨m,hm⟩ : ∃ m,m = (zby 0 o acc (za6 R))[i]:=⟨_,rfl⟩
  rw [← hm] at hage hgd
  have hLi : L[i]? = some (m : Int):=by rw [hL,List.getElem?_map,List.getElem?_eq_getElem hail,← hm]; rfl
  have hiL : i < L.length:=(List.getElem?_eq_some_iff.1 hLi).1
  have hLi' : L[i] = (m : Int):=by rw [List.getElem?_eq_getElem hiL] at hLi; exact Option.some.inj hLi
  have hgoal : zih g p ([] ++ acc.take ((zby 0 o acc (za6 R)).getD i 0 - 0)) R[i] ↔ zih g p (acc.take m) R[i]:=by rw [hgd,Nat.sub_zero,List.nil_append]
  have hsdi:=hsd _ (List.getElem_mem h16)
  obtain ⟨r,hr⟩ : ∃ r,r = R[i]:=⟨_,rfl⟩
  have hrm : r.1 ∈ za6 R:=by rw [hr]; exact List.mem_map.2 ⟨_,List.getElem_mem h16,rfl⟩
  rw [← hr] at hgoal hsdi
  have htl : (acc.take m).length = m:=by rw [List.length_take]; omega
  have hks : ∀ x ∈ acc.take m ++ [r.1],0 ≤ x ∧ x < g.size:=fun x hx=>by
   rcases List.mem_append.1 hx with h | h
   ·exact hak x (List.mem_of_mem_take h)
   ·rw [List.mem_singleton] at h; subst h; exact hrk _ hrm
  have hkn : (acc.take m ++ [r.1]).Nodup:=List.nodup_append.2 ⟨han.sublist (List.take_sublist _ _),by simp,fun a ha b hb=>by
   rw [List.mem_singleton] at hb
   subst hb
   exact (List.nodup_append.1 hperm).2.2 a (List.mem_of_mem_take ha) _ hrm⟩
  have hwith:=zfX (acc.take m) r.1 (by omega)
  have hnet2:=zbB g p (acc.take m ++ [r.1]) hg hp hkn hks hs
  have hprv:=zkH ⟨netN g,netA g p (zaw (acc.take m ++ [r.1]))⟩ r.2 m (by have:=(hnv _ hks).2.2.1; simp only at this ⊢; omega) hsdi
  have hpd : decide (zeN ⟨netN g,netA g p (zaw (acc.take m ++ [r.1]))⟩ r.2 m) = decide (zih g p (acc.take m) r):=by
   unfold zih
   rw [htl]
  rw [hpd] at hprv
  rw [htl] at hwith
  obtain ⟨W,hW⟩ : ∃ W,W = acc.take m ++ [r.1]:=⟨_,rfl⟩
  have hWl : W.length = m + 1:=by rw [hW,List.length_append,htl]; rfl
  rw [← hW] at hwith hnet2 hprv
  rw [← hWl] at hwith
  obtain ⟨A2,hA2⟩ : ∃ A2,A2 = netA g p (zaw W):=⟨_,rfl⟩
  rw [← hA2] at hnet2 hprv
  have hw2 : IntKind.i64.wrap ((W.length : Int) - 1) = (m : Int):=by rw [hWl,w64 (by omega) (by omega)]; omega
  have hma : m ≤ acc.length:=by omega
  refine zae ?_
  refine zaa ?_
  refine zaf ?_
  refine zab ⟨80,[(3,.pv (gC g)),(4,.pv (pC p)),(5,.pv [ints acc,ints f,.vs 2 false (za7 R)]),(8,ints L),(11,.I i),(12,.pv [.I r.1,ints r.2]),(51,.vs 2 false (za7 R)),(52,.I R.length),(53,.I i)],[],1000⟩ rfl ?_ ?_
  ·simp [h16,← hr]
   exact Le.go [] [832] rfl rfl (by simp) (by simp)
  refine zat ⟨80,[(3,.pv (gC g)),(4,.pv (pC p)),(5,.pv [ints acc,ints f,.vs 2 false (za7 R)]),(8,ints L),(12,.pv [.I r.1,ints r.2]),(13,ints W),(51,.vs 2 false (za7 R)),(52,.I R.length),(53,.I i)],[],1200⟩ rfl ?_ ?_
  ·simp [hiL,hLi',hma]
   refine zaQ hwith (by simp [List.map_take]) ?_
   simp
   exact ⟨rfl,Le.go [] [1072] rfl rfl (by simp [fcd,zao]) (by simp)⟩
  refine zat ⟨80,[(3,.pv (gC g)),(4,.pv (pC p)),(5,.pv [ints acc,ints f,.vs 2 false (za7 R)]),(8,ints L),(51,.vs 2 false (za7 R)),(52,.I R.length),(53,.I i),(78,.B (!decide (zih g p (acc.take m) r)))],[],1400⟩ rfl ?_ ?_
  ·simp
   refine zal hnet2 (by simp) ?_
   simp [hw2]
   refine zal hprv (by simp) ?_
   simp
   exact ⟨rfl,Le.go [] [] rfl rfl (by simp) (by simp)⟩
  refine zac _ rfl (fun h20=>?_) fun h20=>?_
  ·have h20' : ¬ zih g p (acc.take m) r:=by simpa using h20
   have hno : ¬ zeA g p [] o acc R:=fun h=>h20' (hgoal.1 (by rw [hr]; exact hcut.1 h i h16))
   rw [if_neg hno]
   refine rx (s:=?s21) [6] [] [] rfl ?o21 ?q21
   case o21=>simp; rfl
   refine zah ?_
   exact ⟨.inr rfl,zam.one (by simp)⟩
  have h20' : zih g p (acc.take m) r:=by simpa using h20
  refine zae ?_
  refine zau rfl ?_
  simp
  refine ⟨i + 1,⟨h16,fun j hj hji=>?_⟩,by omega,Le.go [] [] rfl rfl (by simp [hw1]) (by simp)⟩
  rcases Nat.lt_succ_iff_lt_or_eq.1 hji with h | h
  ·exact hpre j hj h
  ·subst h
   have h5:=hgoal.2 h20'
   rw [hr] at h5
   exact h5
 simp at h16
 obtain rfl : i = R.length:=by omega
 have hyes : zeA g p [] o acc R:=hcut.2 fun j hj=>hpre j hj hj
 rw [if_pos hyes]
 refine zan ?_
 refine hit ?_
 refine rx (s:=?s22) [6] [] [] rfl ?o22 ?q22
 case o22=>simp; rfl
 refine zah ?_
 exact ⟨.inr rfl,zam.one (by simp)⟩
variable {N : Nat} {A : List Ed} {f : List Int}
set_option maxRecDepth 100000
theorem zo8 {N : Nat} {A : List Ed} (hn : za0 ⟨N,A⟩) : zft ⟨N,A⟩ (zeu N A) ∧ cutV A (zeu N A) = maxF N A:=by
 have hno:=zeO hn
 obtain ⟨f,hf,hm⟩:=zeH hno
 obtain ⟨D,b,hb,hc⟩:=Bfs.grow hno N [0] _ (Bfs.start (f:=f) (by have:=hno.two; omega)) (by omega)
 have h1:=zn1 hno hf hm hb
 have hmf:=zfg hf hm
 have he : inD D N = zeu N A:=zn6 hno hf hm hb.tree hb.mem0 h1 hc
 have hgr:=(zgv hno hf hb.mem0 h1 hc).1
 have hmD : ∀ x,x ∈ inD D N ↔ x ∈ D:=fun x=>by
  rw [zqr]
  exact ⟨fun h=>h.2,fun h=>⟨hb.rng x h,h⟩⟩
 rw [← he]
 refine ⟨⟨hn,zdU (zrz D N) fun k hk=>by have:=(zqr.1 hk).1; simp only; omega,(hmD 0).2 hb.mem0,fun h=>h1 ((hmD 1).1 h)⟩,?_⟩
 rw [zmZ,hmf,hgr]
 congr 1
 funext x
 exact decide_eq_decide.2 (hmD x)
section
variable {g : Gr} {p : Pol}
theorem zjc : ∀ {o b a : List Int} {R : List (Int × List Int)} {k : Int},za9 o a (za6 R) = true → k ∉ o → zeA g p b o a R → zeA g p b (o ++ [k]) (a ++ [k]) R
 | [],b,a,R,k,h,_,_=>by
   simp [za9,za6] at h
   obtain ⟨rfl,rfl⟩:=h
   simp [zeA]
 | x :: o,b,a,R,k,h,hk,hc=>by
   have hkx : k ≠ x:=fun e=>hk (by simp [e])
   have hko : k ∉ o:=fun e=>hk (List.mem_cons_of_mem _ e)
   simp only [za9] at h
   simp only [zeA] at hc
   simp only [List.cons_append,zeA]
   split at h
   ·rename_i h1
    rw [if_pos h1] at hc
    cases a with
    | nil=>cases h1
    | cons y a =>
      have : y = x:=by simpa using h1
      subst this
      simpa using zjc h hko hc
   ·rename_i h1
    rw [if_neg h1] at hc
    have h3 : (a ++ [k]).head? ≠ some x:=by
     cases a with
     | nil=>simpa using hkx
     | cons y a=>simpa using h1
    rw [if_neg h3]
    split at h
    ·cases R with
     | nil=>trivial
     | cons r R=>exact ⟨hc.1,zjc h hko hc.2⟩
    ·cases h
theorem ziP : ∀ {o b a : List Int} {R : List (Int × List Int)} {r : Int × List Int},za9 o a (za6 R) = true → r.1 ∉ o → zih g p (b ++ a) r → zeA g p b o a R → zeA g p b (o ++ [r.1]) a (R ++ [r])
 | [],b,a,R,r,h,_,hr,_=>by
   simp [za9,za6] at h
   obtain ⟨rfl,rfl⟩:=h
   rw [List.append_nil] at hr
   simp [zeA,hr]
 | x :: o,b,a,R,r,h,hk,hr,hc=>by
   have hko : r.1 ∉ o:=fun e=>hk (List.mem_cons_of_mem _ e)
   simp only [za9] at h
   simp only [zeA] at hc
   simp only [List.cons_append,zeA]
   split at h
   ·rename_i h1
    rw [if_pos h1] at hc
    rw [if_pos h1]
    cases a with
    | nil=>cases h1
    | cons y a =>
      have : y = x:=by simpa using h1
      subst this
      exact ziP h hko (by simpa using hr) hc
   ·rename_i h1
    rw [if_neg h1] at hc
    rw [if_neg h1]
    split at h
    ·rename_i h2
     cases R with
     | nil=>cases h2
     | cons q R=>exact ⟨hc.1,ziP h hko hr hc.2⟩
    ·cases h
theorem zfA (hg : GrOk g) (hp : za3 g.size p) {a : List Int} (h : ∀ x ∈ a,x ∈ ordL (zaj g p.lv) p.seeds) : zaS g p a:=by
 refine ⟨fun x hx=>?_,fun x hx=>?_⟩
 ·have h2:=zbx (h x hx)
  exact h2
 ·have h2:=(zg6 (hg.level p.lv)).1 (h x hx)
  exact (zfH hp h2.1.1).2 ⟨h2.1.2,h2.2⟩
theorem zaS.join {a : List Int} (h : zaS g p a) : zaS g p (zaw a):=h.sub fun _ hx=>(zcE.1 hx).1
theorem zlK (hg : GrOk g) (hp : za3 g.size p) (hs : p.seeds.length ≤ 64) : ∀ (n : Nat) (o : List Int),o.length = n → o.Nodup → zaS g p o →
  zaq g p (zaw (accR g p o)) ∧ za9 o (accR g p o) (za6 (refR g p o)) = true ∧ zeA g p [] o (accR g p o) (refR g p o)
 | 0,o,h,_,_=>by
   obtain rfl:=List.eq_nil_of_length_eq_zero h
   exact ⟨zaq.nil hg hp,rfl,trivial⟩
 | n + 1,o,h,hon,hok=>by
   have hne : o ≠ []:=fun e=>by rw [e] at h; cases h
   obtain ⟨q,hq⟩ : ∃ q,q = o.dropLast:=⟨_,rfl⟩
   obtain ⟨k,hk⟩ : ∃ k,k = o.getLast hne:=⟨_,rfl⟩
   have ho : o = q ++ [k]:=by rw [hq,hk]; exact (List.dropLast_concat_getLast hne).symm
   have hql : q.length = n:=by rw [hq,List.length_dropLast,h]; rfl
   rw [ho] at hon hok ⊢
   have hqn : q.Nodup:=(List.nodup_append.1 hon).1
   have hkq : k ∉ q:=fun hm=>(List.nodup_append.1 hon).2.2 k hm k (by simp) rfl
   have hqok : zaS g p q:=hok.sub fun x hx=>List.mem_append_left _ hx
   obtain ⟨ih1,ih2,ih3⟩:=zlK hg hp hs n q hql hqn hqok
   by_cases hc : zaq g p (zaw (accR g p q ++ [k]))
   ·rw [zcn hc,zev hc]
    exact ⟨hc,ziR ih2 hkq,zjc ih2 hkq ih3⟩
   ·rw [zfx hc,zhh hc]
    have hsz2:=hg.1.2.1
    have hrng : ∀ x ∈ accR g p q ++ [k],0 ≤ x ∧ x < g.size:=fun x hx=>hok.rng x (by
     rcases List.mem_append.1 hx with h2 | h2
     ·exact List.mem_append_left _ (zdo h2)
     ·exact List.mem_append_right _ h2)
    have hnd : (accR g p q ++ [k]).Nodup:=List.nodup_append.2 ⟨hqn.sublist (zdW _ _ rfl),by simp,fun a ha b hb=>by
     rw [List.mem_singleton] at hb
     subst hb
     rintro rfl
     exact hkq (zdo ha)⟩
    have hjl:=zis hnd fun x hx=>by have:=hrng x hx; omega
    have hnv:=zfM hg hp (zge (zcK hrng)) hs (zci (accR g p q ++ [k]))
    have hside:=zo8 hnv
    have hfew:=zgH (p:=p) (ks:=zaw (accR g p q ++ [k])) hg hp (zge (zcK hrng))
    have hcut : zih g p (accR g p q) (k,zeu (netN g) (netA g p (zaw (accR g p q ++ [k])))):=by
     refine ⟨hside.1,?_⟩
     simp only
     rw [hside.2]
     have : maxF (netN g) (netA g p (zaw (accR g p q ++ [k]))) ≠ (zaw (accR g p q ++ [k])).length:=hc
     rw [hjl,List.length_append,List.length_singleton] at this hfew
     omega
    refine ⟨ih1,?_,?_⟩
    ·have:=zjs (r:=za6 (refR g p q)) ih2 hkq
     simpa [za6] using this
    ·exact ziP (r:=(k,zeu (netN g) (netA g p (zaw (accR g p q ++ [k]))))) ih2 hkq (by rw [List.nil_append]; exact hcut) ih3
theorem zfC (hg : GrOk g) (hp : za3 g.size p) : zaS g p (ordL (zaj g p.lv) p.seeds):=zfA hg hp fun _ h=>h
theorem zmz (hg : GrOk g) (hp : za3 g.size p) (hs : p.seeds.length ≤ 64) {f : List Int} (hf : zme g p (zaw (accR g p (ordL (zaj g p.lv) p.seeds))) f) :
  zos g p (accR g p (ordL (zaj g p.lv) p.seeds)) f (refR g p (ordL (zaj g p.lv) p.seeds)) = 0:=by
 have hon:=zbQ (zaj g p.lv) p.seeds
 obtain ⟨h1,h2,h3⟩:=zlK hg hp hs _ _ rfl hon (zfC hg hp)
 have hsz2:=hg.1.2.1
 have hjl:=zis (hon.sublist (zdW (g:=g) (p:=p) _ _ rfl)) fun x hx=>by
  have:=(zfC hg hp).rng x (zdo hx)
  omega
 unfold zos
 rw [if_pos h2,if_pos ⟨hf.ok,by rw [hf.val,← hjl]; exact h1⟩,if_pos h3]
end
def gF : Gr:=⟨3,[⟨0,1,1⟩,⟨0,2,1⟩],[]⟩
def pF : Pol:=⟨[0],[2,1],1⟩
theorem zjR : GrOk gF:=by
 refine ⟨⟨by decide +revert,by decide +revert,by decide +revert,fun i h=>by simp [gF] at h⟩,fun i h=>?_⟩
 have : i = 0 ∨ i = 1:=by simp [gF] at h; omega
 rcases this with rfl | rfl
 ·exact ⟨by unfold Fits; simp [gF],by decide +revert,by decide +revert,fun h=>by cases h⟩
 ·exact ⟨by unfold Fits; simp [gF],by decide +revert,by decide +revert,fun h=>by decide +revert⟩
theorem zkT : za3 gF.size pF:=by
 refine ⟨by decide +revert,fun i h=>?_,by decide +revert,by decide +revert,by decide +revert,by decide +revert,fun i h=>?_⟩
 ·obtain rfl : i = 0:=by simp [pF] at h; omega
  exact ⟨by decide +revert,by decide +revert,fun h=>by cases h⟩
 ·have : i = 0 ∨ i = 1:=by simp [pF] at h; omega
  rcases this with rfl | rfl
  ·exact ⟨by decide +revert,by decide +revert,fun h=>by cases h⟩
  ·exact ⟨by decide +revert,by decide +revert,fun h=>by decide +revert⟩
theorem zoK : ordL (zaj gF pF.lv) pF.seeds = [0,1,2]:=by decide
theorem zqZ : ∀ {ks : List Int},(∀ x ∈ ks,x = 0 ∨ x = 1 ∨ x = 2) → ∀ x ∈ ks,0 ≤ x ∧ x < gF.size:=fun h x hx=>by
 have : gF.size = 3:=rfl
 rcases h x hx with rfl | rfl | rfl <;> omega
theorem zqm {ks f : List Int} {A : List Ed} (hk : ∀ x ∈ ks,x = 0 ∨ x = 1 ∨ x = 2) (hA : netA gF pF ks = A) (hf : zay 8 A f) (hv : valF A f = ks.length) : zaq gF pF ks:=by
 have hr:=zqZ hk
 have h1:=zgH (p:=pF) zjR zkT hr
 have h2:=zqI (zcF zjR zkT hr) (f:=f) (by rw [hA]; exact hf)
 rw [hA,hv] at h2
 rw [hA] at h1
 unfold zaq
 rw [hA]
 have h3 : netN gF = 8:=rfl
 rw [h3] at h1 h2 ⊢
 omega
theorem zsz {N : Nat} {A : List Ed} {f : List Int} (h : (decide (f.length = A.length) && ((List.range A.length).all fun i=>decide (0 ≤ f.getD i 0 ∧ f.getD i 0 ≤ (arcD A i).v)) && ((List.range N).all fun x=>decide (x < 2 ∨ exF A f x = 0))) = true) : zay N A f:=by
 simp only [Bool.and_eq_true,decide_eq_true_eq,List.all_eq_true,List.mem_range] at h
 exact zfK.2 ⟨h.1.1,fun i hi=>h.1.2 i hi,fun x h1 h2=>(h.2 x h2).resolve_left (by omega)⟩
theorem zsC : zaq gF pF [0]:=zqm (f:=[1,0,0,0,1,0,0]) (by simp) rfl (zsz (by decide)) (by decide)
theorem zpT : zaq gF pF [0,1]:=zqm (f:=[2,1,0,0,1,1,1,0]) (by simp) rfl (zsz (by decide)) (by decide)
theorem zts : zaq gF pF [0,2]:=zqm (f:=[2,1,0,0,1,1,0,1]) (by simp) rfl (zsz (by decide)) (by decide)
theorem zls : ¬ zaq gF pF [0,1,2]:=fun h=>by
 have h1:=zi2 (zcF zjR zkT (zqZ (ks:=[0,1,2]) (by simp))) (S:=fun x=>decide (x = 0)) (by decide) (by decide)
 have h2 : maxF (netN gF) (netA gF pF [0,1,2]) = 3:=h
 rw [h2] at h1
 revert h1
 decide
theorem zs8 : accR gF pF [0,1,2] = [0,1]:=by
 have h0 : accR gF pF [0] = [0]:=zcn (o:=[]) (k:=0) zsC
 have h1 : accR gF pF [0,1] = [0,1]:=by
  have h:=zcn (g:=gF) (p:=pF) (o:=[0]) (k:=1) (by rw [h0]; exact zpT)
  rw [h0] at h
  exact h
 have h:=zfx (g:=gF) (p:=pF) (o:=[0,1]) (k:=2) (by rw [h1]; exact zls)
 rw [h1] at h
 exact h
theorem zs7 : ∃ side,refR gF pF [0,1,2] = [(2,side)]:=by
 have h0 : accR gF pF [0] = [0]:=zcn (o:=[]) (k:=0) zsC
 have h1 : accR gF pF [0,1] = [0,1]:=by
  have h:=zcn (g:=gF) (p:=pF) (o:=[0]) (k:=1) (by rw [h0]; exact zpT)
  rw [h0] at h
  exact h
 have r0 : refR gF pF [0] = []:=zev (o:=[]) (k:=0) zsC
 have r1 : refR gF pF [0,1] = []:=by
  have h:=zev (g:=gF) (p:=pF) (o:=[0]) (k:=1) (by rw [h0]; exact zpT)
  rw [r0] at h
  exact h
 have h:=zhh (g:=gF) (p:=pF) (o:=[0,1]) (k:=2) (by rw [h1]; exact zls)
 rw [r1] at h
 exact ⟨_,h⟩
theorem zmA (g : Gr) (p : Pol) : ∀ (n : Nat) (o : List Int),o.length = n → ∀ r ∈ refR g p o,r.2.length ≤ netN g
 | 0,o,h,r,hr=>by
   obtain rfl:=List.eq_nil_of_length_eq_zero h
   cases hr
 | n + 1,o,h,r,hr=>by
   have hne : o ≠ []:=fun e=>by rw [e] at h; cases h
   rw [← List.dropLast_concat_getLast hne] at hr
   have ih:=zmA g p n o.dropLast (by rw [List.length_dropLast,h]; rfl)
   by_cases hc : zaq g p (zaw (accR g p o.dropLast ++ [o.getLast hne]))
   ·rw [zev hc] at hr; exact ih r hr
   ·rw [zhh hc] at hr
    rcases List.mem_append.1 hr with h2 | h2
    ·exact ih r h2
    ·rw [List.mem_singleton] at h2
     rw [h2]
     exact zmt _ _
noncomputable abbrev accG (g : Gr) (p : Pol) : List Int:=accR g p (ordL (zaj g p.lv) p.seeds)
noncomputable abbrev refG (g : Gr) (p : Pol) : List (Int × List Int):=refR g p (ordL (zaj g p.lv) p.seeds)
theorem zrk {g : Gr} (hg : GrOk g) (p : Pol) : (accG g p).length ≤ 64:=Nat.le_trans (zot _) (zg9 hg p)
theorem zro {g : Gr} (hg : GrOk g) (p : Pol) : (refG g p).length ≤ 64:=Nat.le_trans (zk7 _ _ _ _ rfl) (zg9 hg p)
theorem zp9 {g : Gr} (hg : GrOk g) (p : Pol) : ∀ r ∈ refG g p,r.2.length ≤ 130:=fun r hr=>by
 have h1:=zmA g p _ _ rfl r hr
 have h2:=zg3 hg
 have h3:=hg.1.2.1
 omega
theorem zq0 {g : Gr} {p : Pol} {ks f : List Int} (hg : GrOk g) (hp : za3 g.size p) (hr : ∀ x ∈ ks,0 ≤ x ∧ x < g.size) (hs : p.seeds.length ≤ 64) (hl : ks.length ≤ 64) (hf : zme g p ks f) : f.length ≤ 1200:=by
 have h1:=zfM hg hp hr hs hl
 have h2:=hf.ok.fit.len
 have h3:=h1.2.2.1
 simp only at h3
 omega
theorem zrm {g : Gr} (p : Pol) : ∀ x ∈ accG g p,0 ≤ x ∧ x < g.size:=fun x hx=>by
 have h:=zbx (zdo hx)
 exact h
theorem ztu : zai Tryz.prog zhy [] [] (.tup [eG gF,eP pF]) []:=by
 refine zpq.acalls (Nat.le_of_ble_eq_true rfl) (Nat.le_of_ble_eq_true rfl) (Nat.le_refl _) ?_
 show awp _ 0 _ _ ⟨9,[],[],16⟩
 refine rx (s:=?s1) [0,1] [16,24] [] rfl ?o1 ?q1
 case o1=>simp; rfl
 refine zab ⟨9,[(0,.pt 16 0 0),(1,.pt 24 0 0)],[(16,some ⟨3,[[.I 3,eEs [⟨0,1,1⟩,⟨0,2,1⟩],.nilS]],0⟩),(24,some ⟨3,[[ints [0],ints [2,1],.I 1]],0⟩)],300⟩ rfl ?_ ?_
 ·simp
  exact Le.go [(16,16),(24,24)] [48,64,72] rfl rfl (by simp) (by simp)
 refine zah ?_
 exact ⟨.inr rfl,zam.out [] [16,24] rfl (by simp) (by simp) (wkT2 (wkA3 (.refl _) (.refl _) (.nil _ _)) (wkA3 (.refl _) (.refl _) (.refl _))) (by simp)⟩
set_option maxRecDepth 100000 in
set_option maxHeartbeats 4000000 in
open Classical in
theorem zed : zai Tryz.prog zbW [] [] (.B true) []:=by
 obtain ⟨f,hf,hrun⟩:=zhN gF pF zjR zkT (by decide) (by decide)
 have hchk:=zmz zjR zkT (by decide) hf
 have hcheck:=fun (R : List (Int × List Int)) (h1 : R.length ≤ 1000) (h2 : ∀ r ∈ R,r.2.length ≤ 140737488355328)=>zji gF pF [0,1] f R zjR zkT (by decide) (by decide) (by decide) h1 (by have:=zq0 zjR zkT (zge (zcK (zrm pF))) (by decide) (zci _) hf; omega) h2
 have hrs:=zp9 zjR pF
 unfold refG at hrs
 rw [zoK,zs8] at hrun hchk hf
 rw [zoK] at hrs
 obtain ⟨side,hside⟩:=zs7
 rw [hside] at hrun hchk hrs
 have hcheck:=hcheck [(2,side)] (by simp) (fun r hr=>by have:=hrs r hr; omega)
 rw [hchk] at hcheck
 have ha1:=zcT [0,1] f [(2,side)] 1 (by decide)
 have ha2:=zcT [0,1] f [(2,side)] 2 (by decide)
 rw [show decide ((1 : Int) ∈ [(0 : Int),1]) = true by decide] at ha1
 rw [show decide ((2 : Int) ∈ [(0 : Int),1]) = false by decide] at ha2
 have hs1:=zck gF pF [0,2] zjR zkT (by decide) (by decide)
 have hs2:=zck gF pF [0,1,2] zjR zkT (by decide) (by decide)
 have hy1 : zbb gF pF [0,2]:=⟨zdU (by decide) (zqZ (by simp)),by decide,zts⟩
 have hn1 : ¬ zbb gF pF [0,1,2]:=fun h=>zls h.2.2
 rw [decide_eq_true hy1] at hs1
 rw [decide_eq_false hn1] at hs2
 refine zm5.acalls (Nat.le_of_ble_eq_true rfl) (Nat.le_of_ble_eq_true rfl) (Nat.le_refl _) ?_
 show awp _ 0 _ _ ⟨73,[],[],16⟩
 refine rx (s:=?s1) [] [] [] rfl ?o1 ?q1
 case o1=>simp; rfl
 refine zab ⟨73,[(1,.pv (gC gF)),(2,.pv (pC pF))],[],200⟩ rfl ?_ ?_
 ·simp
  refine zal ztu (by simp) ?_
  simp
  exact Le.go [] [56,64] rfl rfl (by simp) (by simp)
 refine zab ⟨73,[(1,.pv (gC gF)),(2,.pv (pC pF)),(3,.pv [ints [0,1],ints f,.vs 2 false (za7 [(2,side)])]),(4,.I 0)],[],400⟩ rfl ?_ ?_
 ·simp
  refine zal hrun (by simp) ?_
  simp
  exact Le.go [] [248] rfl rfl (by simp; exact .refl _) (by simp)
 refine zab ⟨73,[(0,.B true)],[],2000⟩ rfl ?_ ?_
 ·simp
  refine zal hcheck (by simp) ?_
  simp
  refine zal ha1 (by simp) ?_
  simp
  refine zal ha2 (by simp) ?_
  simp
  refine zeT [784] hs1 (by simp) (.sc _) ?_
  simp
  refine zeT [832] hs2 (by simp) (.sc _) ?_
  simp
  exact Le.go [] [] rfl rfl (by simp) (by simp)
 refine zah ?_
 exact ⟨.inr rfl,zam.one (by simp)⟩
variable {g : Gr} {p : Pol}
theorem zl8 (hg : GrOk g) (hp : za3 g.size p) {a b : List Int} (ha : zaS g p a) (h : a.Perm b) : maxF (netN g) (netA g p a) = maxF (netN g) (netA g p b):=by
 have hb : zaS g p b:=ha.sub fun x hx=>h.mem_iff.2 hx
 obtain ⟨X,x0,x1,hx,_⟩:=zfN (zcF (ks:=a) hg hp ha.rng)
 obtain ⟨Y,y0,y1,hy,_⟩:=zfN (zcF (ks:=b) hg hp hb.rng)
 have h1:=zi2 (zcF (ks:=b) hg hp hb.rng) x0 x1
 have h2:=zi2 (zcF (ks:=a) hg hp ha.rng) y0 y1
 rw [zbC x1 ha.reach] at hx
 rw [zbC y1 hb.reach] at hy
 rw [zbC x1 hb.reach,← zfI X h] at h1
 rw [zbC y1 ha.reach,zfI Y h] at h2
 omega
theorem h64 (hg : GrOk g) {a : List Int} (h : ∀ x ∈ a,0 ≤ x ∧ x < g.size) : ∀ x ∈ a,0 ≤ x ∧ x < 64:=fun x hx=>by
 have:=h x hx
 have:=hg.1.2.1
 omega
theorem zof {o : List Int} (hn : o.Nodup) {i : Nat} (h : i < o.length) : o[i] ∈ accR g p o ↔ zaq g p (zaw (accR g p (o.take i) ++ [o[i]])):=zio hn h
theorem zgM (g : Gr) (p : Pol) (o : List Int) : ∀ (n i : Nat),o.length - i = n → (accR g p (o.take i)).Sublist (accR g p o)
 | 0,i,h=>by
   rw [List.take_of_length_le (by omega)]
   exact List.Sublist.refl _
 | n + 1,i,h=>by
   have hi : i < o.length:=by omega
   have ih:=zgM g p o n (i + 1) (by omega)
   rw [List.take_succ_eq_append_getElem hi] at ih
   rcases ziZ (g:=g) (p:=p) (o.take i) o[i] with e | e
   ·rw [e] at ih; exact ih
   ·rw [e] at ih
    exact (List.sublist_append_left _ _).trans ih
theorem zrP (hg : GrOk g) (hp : za3 g.size p) (hs : p.seeds.length ≤ 64) {o : List Int} (hon : o.Nodup) (hok : zaS g p o) : maxF (netN g) (netA g p (zaw o)) = (accR g p o).length:=by
 obtain ⟨h1,_,_⟩:=zlK hg hp hs _ o rfl hon hok
 have hsub:=zdW (g:=g) (p:=p) _ o rfl
 have haok : zaS g p (accR g p o):=hok.sub fun x hx=>hsub.subset hx
 have han:=hon.sublist hsub
 have hpj:=zfm han (h64 hg haok.rng)
 have hpo:=zfm hon (h64 hg hok.rng)
 have hacc : zaq g p (accR g p o):=h1.perm hg hp haok.join hpj.symm
 obtain ⟨t,ht⟩ : ∃ t,t = o.filter fun x=>decide (x ∉ accR g p o):=⟨_,rfl⟩
 have htn : (accR g p o ++ t).Nodup:=List.nodup_append.2 ⟨han,by rw [ht]; exact hon.filter _,fun a ha b hb=>by
  rw [ht] at hb
  rintro rfl
  have:=(List.mem_filter.1 hb).2
  simp [ha] at this⟩
 have hperm : (accR g p o ++ t).Perm o:=by
  rw [List.perm_ext_iff_of_nodup htn hon]
  intro x
  rw [List.mem_append,ht,List.mem_filter]
  constructor
  ·rintro (h | h)
   ·exact hsub.subset h
   ·exact h.1
  ·intro h
   by_cases hx : x ∈ accR g p o
   ·exact .inl hx
   ·exact .inr ⟨h,by simpa using hx⟩
 have hok2 : zaS g p (accR g p o ++ t):=hok.sub fun x hx=>hperm.mem_iff.1 hx
 have he : maxF (netN g) (netA g p (zaw o)) = maxF (netN g) (netA g p (accR g p o ++ t)):=(zl8 hg hp hok2 (hperm.trans hpo)).symm
 rw [he]
 have hge : ((accR g p o).length : Int) ≤ maxF (netN g) (netA g p (accR g p o ++ t)):=by
  have hok3 : zaS g p (t ++ accR g p o):=hok2.sub fun x hx=>by simpa [or_comm] using hx
  have:=zpY hg hp hok3 hacc
  rw [zl8 hg hp hok3 List.perm_append_comm] at this
  exact this
 have hle : ¬ ((accR g p o).length : Int) < maxF (netN g) (netA g p (accR g p o ++ t)):=fun hlt=>by
  obtain ⟨k,hk,hc⟩:=zoj hg hp hok2 hacc hlt
  rw [ht] at hk
  obtain ⟨hko,hka⟩:=List.mem_filter.1 hk
  have hka : k ∉ accR g p o:=by simpa using hka
  obtain ⟨j,hj,rfl⟩:=List.mem_iff_getElem.1 hko
  have hsubj:=zgM g p o _ j rfl
  have hkk : zaS g p (accR g p o ++ [o[j]]):=haok.append (hok.sub fun x hx=>by rw [List.mem_singleton] at hx; subst hx; exact hko)
  have h2 : zaq g p (accR g p (o.take j) ++ [o[j]]):=hc.sublist hg hp hkk (hsubj.append (List.Sublist.refl _))
  have hkj : zaS g p (accR g p (o.take j) ++ [o[j]]):=hkk.sub fun x hx=>(hsubj.append (List.Sublist.refl _)).subset hx
  have hnj : (accR g p (o.take j) ++ [o[j]]).Nodup:=(List.nodup_append.2 ⟨han,by simp,fun a ha b hb=>by
   rw [List.mem_singleton] at hb
   subst hb
   rintro rfl
   exact hka ha⟩ : (accR g p o ++ [o[j]]).Nodup).sublist (hsubj.append (List.Sublist.refl _))
  exact hka ((zof hon hj).2 (h2.perm hg hp hkj (zfm hnj (h64 hg hkj.rng))))
 omega
theorem zmH (hg : GrOk g) {a : List Int} (h : ∀ x ∈ a,x ∈ ordL (zaj g p.lv) p.seeds) : zbb g p (zaw a) ↔ zaq g p (zaw a):=by
 have hr : ∀ x ∈ a,0 ≤ x ∧ x < g.size:=fun x hx=>by have h2:=zbx (h x hx); exact h2
 constructor
 ·exact fun h=>h.2.2
 ·exact fun hc=>⟨zcK hr,fun k hk=>((zg6 (hg.level p.lv)).1 (h k (zcE.1 hk).1)).2,hc⟩
theorem zlA (hg : GrOk g) (hp : za3 g.size p) (hs : p.seeds.length ≤ 64) : (accR g p (ordL (zaj g p.lv) p.seeds)).length + (refR g p (ordL (zaj g p.lv) p.seeds)).length = (ordL (zaj g p.lv) p.seeds).length:=by
 have h:=zgt (zlK hg hp hs _ _ rfl (zbQ (zaj g p.lv) p.seeds) (zfC hg hp)).2.1
 rw [h,za6,List.length_map]
set_option maxRecDepth 100000 in
set_option maxHeartbeats 4000000 in
open Classical in
theorem zgp (L : List Int) : zai Tryz.prog zef [ints L] [] (.B true) []:=by
 refine zhA.acalls (Nat.le_of_ble_eq_true rfl) (Nat.le_of_ble_eq_true rfl) (Nat.le_refl _) ?_
 show awp _ 0 _ _ ⟨115,[(0,ints L)],[],16⟩
 have hlight:=zod L
 refine rx (s:=?s1) [0] [] [] rfl ?o1 ?q1
 case o1=>simp; rfl
 refine zaa ?_
 refine zab ⟨115,[(0,ints L),(19,.B (!decide (L.length ≤ 400)))],[],100⟩ rfl ?_ ?_
 ·simp
  refine zal hlight (by simp) ?_
  simp
  exact Le.go [] [] rfl rfl (by simp <;> exact wkB (by rw [Bool.eq_iff_iff]; simp)) (by simp)
 refine zac _ rfl (fun h3=>?_) fun h3=>?_
 ·refine rx (s:=?s4) [2] [] [] rfl ?o4 ?q4
  case o4=>simp; refine zal zed (by simp) ?_; simp; rfl
  refine zah ?_
  exact ⟨.inr rfl,zam.one (by simp)⟩
 have h3 : L.length ≤ 400:=by simpa using h3
 obtain ⟨g,b1,⟨hg,hg2,hg9,hb1⟩,hcg⟩:=zr5 L h3
 obtain ⟨⟨p,b2⟩,⟨hp1,hp2,hp3,hb2⟩,hcp⟩:=zn5 L b1 g h3 hb1 (by omega) (by omega)
 simp only at hp1 hp2 hp3 hb2 hcp
 have hel:=hg.edges_le
 have hgl:=hg.gone_le
 refine zae ?_
 refine zab ⟨115,[(3,.pt 20 0 0)],[(20,some (dice L 0))],200⟩ rfl ?_ ?_
 ·simp
  refine zaQ (zpH L) (by simp) ?_
  simp
  exact Le.go [(108,20)] [] rfl rfl (by simp) (by simp)
 refine zab ⟨115,[(3,.pt 20 0 0),(4,.pv (gC g))],[(20,some (dice L b1))],300⟩ rfl ?_ ?_
 ·simp
  refine zbd (i:=20) rfl (e':=dice L 0) (by simp) hcg (by simp) (by simp) ?_
  simp
  exact Le.go [(20,20)] [216] rfl rfl (by simp) (by simp)
 refine zab ⟨115,[(3,.pt 20 0 0),(4,.pv (gC g)),(5,.pv (pC p))],[(20,some (dice L b2))],400⟩ rfl ?_ ?_
 ·simp
  refine zbd (i:=20) rfl (e':=dice L b1) (by simp) hcp (by simp) (by simp) ?_
  simp
  exact Le.go [(20,20)] [324] rfl rfl (by simp) (by simp)
 obtain ⟨fl,hfl,hrun⟩:=zhN g p hg hp1 (by omega) (by omega)
 have hal:=zrk hg p
 have hrl:=zro hg p
 have hmost:=zrP hg hp1 (by omega) (zbQ (zaj g p.lv) p.seeds) (zfC hg hp1)
 have hsum:=zlA hg hp1 (by omega)
 have hlev:=zc6 g p.lv (by omega) (by omega)
 have hord:=zf1 (g:=zaj g p.lv) (S:=p.seeds) (hg.level p.lv) (by omega)
 have hol:=zg9 hg p
 have hsp:=fun (a : List Int) (h : ∀ x ∈ a,x ∈ ordL (zaj g p.lv) p.seeds)=>zmH (p:=p) hg h
 simp only [accG,refG] at hal hrl
 obtain ⟨o,ho⟩ : ∃ o,o = ordL (zaj g p.lv) p.seeds:=⟨_,rfl⟩
 have hor : ∀ k ∈ o,0 ≤ k ∧ k < g.size:=fun k hk=>by rw [ho] at hk; have h:=zbx hk; exact h
 have hon : o.Nodup:=by rw [ho]; exact zbQ _ _
 rw [← ho] at hord
 rw [← ho] at hol
 rw [← ho] at hrun
 rw [← ho] at hal
 rw [← ho] at hrl
 rw [← ho] at hmost
 rw [← ho] at hsum
 rw [← ho] at hsp
 have hturn:=fun i (h : i < o.length)=>zof (g:=g) (p:=p) hon h
 have hyes:=fun i (k : Int)=>zcn (g:=g) (p:=p) (o:=o.take i) (k:=k)
 have hno:=fun i (k : Int)=>zfx (g:=g) (p:=p) (o:=o.take i) (k:=k)
 obtain ⟨acc,hacc⟩ : ∃ acc,acc = accR g p o:=⟨_,rfl⟩
 obtain ⟨R,hR⟩ : ∃ R,R = refR g p o:=⟨_,rfl⟩
 rw [← hacc,← hR] at hrun hsum
 rw [← hacc] at hmost hal hturn
 rw [← hR] at hrl
 have hacc1:=fun k=>zcT acc fl R k (by omega)
 have hj0 : zaw [] = []:=rfl
 refine zab ⟨115,[(4,.pv (gC g)),(5,.pv (pC p)),(6,.pv [ints acc,ints fl,.vs 2 false (za7 R)]),(7,.I 0)],[],500⟩ rfl ?_ ?_
 ·simp
  refine zal hrun (by simp) ?_
  simp
  exact Le.go [] [448] rfl rfl (by simp) (by simp)
 refine zat ⟨115,[(4,.pv (gC g)),(5,.pv (pC p)),(6,.pv [ints acc,ints fl,.vs 2 false (za7 R)]),(7,.I 0),(8,ints o)],[],600⟩ rfl ?_ ?_
 ·simp
  refine zal hlev (by simp) ?_
  simp
  refine zaQ hord (by simp) ?_
  simp
  exact ⟨rfl,Le.go [] [548] rfl rfl (by simp [fcd,zao]) (by simp)⟩
 refine zab ⟨115,[(4,.pv (gC g)),(5,.pv (pC p)),(6,.pv [ints acc,ints fl,.vs 2 false (za7 R)]),(7,.I 0),(8,ints o),(9,.vs 1 false []),(10,.vs 1 false [])],[],700⟩ rfl ?_ ?_
 ·simp
  exact Le.go [] [] rfl rfl (by simp) (by simp)
 refine zaa ?_
 refine zab ⟨115,[(4,.pv (gC g)),(5,.pv (pC p)),(6,.pv [ints acc,ints fl,.vs 2 false (za7 R)]),(7,.I 0),(8,ints o),(9,.vs 1 false []),(10,.vs 1 false []),(11,.I 0)],[],800⟩ rfl ?_ ?_
 ·simp
  exact Le.go [] [] rfl rfl (by simp) (by simp)
 refine zaf ?_
 refine zap (ι:=Nat) (fun i=>⟨115,[(4,.pv (gC g)),(5,.pv (pC p)),(6,.pv [ints acc,ints fl,.vs 2 false (za7 R)]),(7,.I 0),(8,ints o),(9,ints (zaw (o.take i))),(10,ints (zaw (accR g p (o.take i)))),(11,.I i)],[],900⟩) (fun i=>i ≤ o.length) (fun i=>o.length - i) 0 (Nat.zero_le _) (Le.go [] [] rfl rfl (by simp [zk5,hj0]; exact .refl _) (by simp)) ?_
 intro i hi
 refine zaa ?_
 refine zab ⟨115,[(4,.pv (gC g)),(5,.pv (pC p)),(6,.pv [ints acc,ints fl,.vs 2 false (za7 R)]),(7,.I 0),(8,ints o),(9,ints (zaw (o.take i))),(10,ints (zaw (accR g p (o.take i)))),(11,.I i),(44,.B (decide (i < o.length)))],[],1000⟩ rfl ?_ ?_
 ·simp
  exact Le.go [] [] rfl rfl (by simp) (by simp)
 refine zac _ rfl (fun h13=>?_) fun h13=>?_
 ·simp at h13
  have hw1 : IntKind.i64.wrap ((i : Int) + 1) = (i : Int) + 1:=w64 (by omega) (by omega)
  obtain ⟨x,hx⟩ : ∃ x,x = o[i]:=⟨_,rfl⟩
  have hxo : x ∈ o:=hx ▸ List.getElem_mem h13
  have hxr:=hor x hxo
  have hts : o.take (i + 1) = o.take i ++ [x]:=by rw [List.take_succ_eq_append_getElem h13,hx]
  have hturn:=hturn i h13
  rw [← hx] at hturn
  have hput1:=zkE (zaw (o.take i)) x (by have:=zci (o.take i); omega)
  have hput2:=zkE (zaw (accR g p (o.take i))) x (by have:=zci (accR g p (o.take i)); omega)
  rw [zqN hxr.1 (by omega)] at hput1 hput2
  rw [← hts] at hput1
  have hsub : ∀ y ∈ accR g p (o.take i) ++ [x],y ∈ o:=fun y hy=>by
   rcases List.mem_append.1 hy with h | h
   ·exact List.mem_of_mem_take (zdo h)
   ·rw [List.mem_singleton] at h; subst h; exact hxo
  have hserv:=zck g p (zaw (accR g p (o.take i) ++ [x])) hg hp1 (by omega) (by have:=zci (accR g p (o.take i) ++ [x]); omega)
  have hdec : decide (zbb g p (zaw (accR g p (o.take i) ++ [x]))) = decide (x ∈ acc):=by
   rw [decide_eq_decide,hsp _ hsub,hturn]
  rw [hdec] at hserv
  have hyes:=hyes i x
  have hno:=hno i x
  rw [← hts] at hyes hno
  obtain ⟨J,hJ⟩ : ∃ J,J = zaw (o.take (i + 1)):=⟨_,rfl⟩
  obtain ⟨B,hB⟩ : ∃ B,B = zaw (accR g p (o.take i)):=⟨_,rfl⟩
  obtain ⟨W,hW⟩ : ∃ W,W = zaw (accR g p (o.take i) ++ [x]):=⟨_,rfl⟩
  obtain ⟨B0,hB0⟩ : ∃ B0,B0 = zaw (o.take i):=⟨_,rfl⟩
  rw [← hJ,← hB0] at hput1
  rw [← hB,← hW] at hput2
  rw [← hW] at hserv
  rw [← hB,← hB0]
  refine zae ?_
  refine zaH (ι:=Unit) (fun _=>⟨115,[(4,.pv (gC g)),(5,.pv (pC p)),(6,.pv [ints acc,ints fl,.vs 2 false (za7 R)]),(7,.I 0),(8,ints o),(9,ints J),(10,ints (zaw (accR g p (o.take (i + 1))))),(11,.I i)],[],2000⟩) (fun _=>True) ?_ fun _ _=>?_
  ·refine zaf ?_
   refine zab ⟨115,[(4,.pv (gC g)),(5,.pv (pC p)),(6,.pv [ints acc,ints fl,.vs 2 false (za7 R)]),(7,.I 0),(8,ints o),(9,ints J),(10,ints B),(11,.I i)],[],1100⟩ rfl ?_ ?_
   ·simp [h13,← hx]
    refine zaQ hput1 (by simp) ?_
    simp
    exact Le.go [] [1040] rfl rfl (by simp [fcd,zao]) (by simp)
   refine zab ⟨115,[(4,.pv (gC g)),(5,.pv (pC p)),(6,.pv [ints acc,ints fl,.vs 2 false (za7 R)]),(7,.I 0),(8,ints o),(9,ints J),(10,ints B),(11,.I i),(12,ints W)],[],1200⟩ rfl ?_ ?_
   ·simp [h13,← hx]
    refine zaQ hput2 (by simp) ?_
    simp
    exact Le.go [] [1140] rfl rfl (by simp [fcd,zao]) (by simp)
   refine zaa ?_
   refine zat ⟨115,[(4,.pv (gC g)),(5,.pv (pC p)),(6,.pv [ints acc,ints fl,.vs 2 false (za7 R)]),(7,.I 0),(8,ints o),(9,ints J),(10,ints B),(11,.I i),(12,ints W),(69,.B false)],[],1400⟩ rfl ?_ ?_
   ·simp
    refine zal hserv (by simp) ?_
    simp [h13,← hx]
    refine zal (hacc1 x) (by simp) ?_
    simp
    exact ⟨rfl,Le.go [] [] rfl rfl (by simp) (by simp)⟩
   refine zac _ rfl (fun h=>by cases h) fun _=>?_
   refine zae ?_
   refine zat ⟨115,[(4,.pv (gC g)),(5,.pv (pC p)),(6,.pv [ints acc,ints fl,.vs 2 false (za7 R)]),(7,.I 0),(8,ints o),(9,ints J),(10,ints B),(11,.I i),(12,ints W),(75,.B (decide (x ∈ acc)))],[],1600⟩ rfl ?_ ?_
   ·simp [h13,← hx]
    refine zal (hacc1 x) (by simp) ?_
    simp
    exact ⟨rfl,Le.go [] [] rfl rfl (by simp) (by simp)⟩
   refine zac _ rfl (fun h20=>?_) fun h20=>?_
   ·have hy:=hyes (hturn.1 (of_decide_eq_true h20))
    refine zau rfl ?_
    simp
    exact Le.go [] [] rfl rfl (by simp [hy,← hW]) (by simp)
   ·have hn:=hno fun h=>(of_decide_eq_false h20) (hturn.2 h)
    refine zae ?_
    exact ⟨(),trivial,Le.go [] [] rfl rfl (by simp [hn,← hB]) (by simp)⟩
  refine zau rfl ?_
  simp
  exact ⟨i + 1,by omega,by omega,Le.go [] [] rfl rfl (by simp [hw1,← hJ]) (by simp)⟩
 simp at h13
 obtain rfl : i = o.length:=by omega
 rw [List.take_length,← hacc]
 have hnet:=zh2 g p (zaw o) hg hp1 (zcK hor) (by omega) (zci o)
 rw [← zg3 hg,show za2 g p (zaI g p) (zaw o) = netA g p (zaw o) from rfl] at hnet
 have hnv:=zfM hg hp1 (zge (zcK hor)) (by omega) (zci o)
 obtain ⟨f,⟨hf1,hf2⟩,hmax⟩:=zuf _ _ hnv
 have hfl2:=hf1.fit.len
 have hval:=zh8 hnv hf1
 have hv : valF (netA g p (zaw o)) f = acc.length:=by rw [← zfg hf1 hf2]; exact hmost
 rw [hv] at hval
 obtain ⟨A,hA⟩ : ∃ A,A = netA g p (zaw o):=⟨_,rfl⟩
 obtain ⟨J,hJ⟩ : ∃ J,J = zaw o:=⟨_,rfl⟩
 rw [← hA] at hnet hmax hval hfl2
 rw [← hJ] at hnet
 rw [← hJ]
 have htf : ∀ h : Int → List AV,List.take A.length (List.map h f) = List.map h f:=fun h=>List.take_of_length_le (by simp; omega)
 have hw3 : IntKind.i64.wrap ((acc.length : Int) + (R.length : Int)) = (o.length : Int):=by rw [w64 (by omega) (by omega)]; omega
 refine zan ?_
 refine hit ?_
 refine zab ⟨115,[(6,.pv [ints acc,ints fl,.vs 2 false (za7 R)]),(7,.I 0),(8,ints o),(13,.pv (nC ⟨netN g,A⟩))],[],1200⟩ rfl ?_ ?_
 ·simp
  refine zal hnet (by simp) ?_
  simp
  exact Le.go [] [1056] rfl rfl (by simp) (by simp)
 refine zab ⟨115,[(6,.pv [ints acc,ints fl,.vs 2 false (za7 R)]),(7,.I 0),(8,ints o),(13,.pv (nC ⟨netN g,A⟩)),(15,ints f)],[],1300⟩ rfl ?_ ?_
 ·simp
  refine zaQ hmax (by simp) ?_
  simp
  exact Le.go [] [1208] rfl rfl (by simp [fcd,htf,hfl2]) (by simp)
 refine zat ⟨115,[(2,.B true)],[],1600⟩ rfl ?_ ?_
 ·simp
  refine zal zed (by simp) ?_
  simp
  refine zal hval (by simp) ?_
  simp [hw3]
  exact ⟨rfl,Le.go [] [] rfl rfl (by simp) (by simp)⟩
 refine zah ?_
 exact ⟨.inr rfl,zam.one (by simp)⟩
end Go.Proofs.YteiabadhhhckfaaGreat
