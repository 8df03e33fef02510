/- Texts of this claim,merged. -/
import Derived.Test.YteiabadhhhckfaaGreatRc15
set_option linter.unusedSimpArgs false
set_option linter.unusedVariables false
set_option linter.unusedSectionVars false
namespace Go.Proofs.YteiabadhhhckfaaGreat
open Go
variable {g : Gr} {p : Pol}
def sv (A : List Ed) : List Int:=(A.filter fun e=>decide (e.t = 1)).map fun e=>(e.f - 2) / 2
theorem zsA {A : List Ed} {i : Nat} (h : i < A.length) : sv (A.take (i + 1)) = if A[i].t = 1 then sv (A.take i) ++ [(A[i].f - 2) / 2] else sv (A.take i):=by
 unfold sv
 rw [List.take_succ_eq_append_getElem h,List.filter_append]
 by_cases h1 : A[i].t = 1
 ·rw [if_pos h1]
  simp [h1]
 ·rw [if_neg h1]
  simp [h1]
theorem zsc (hp : zaZ g.size p) {ks : List Int} (hk : zaX g p ks) : sv (netA g p ks) = ks:=by
 unfold sv
 simp only [netA,zaT,List.filter_append,List.map_append]
 have h1 : (((p.seeds.filter fun x=>decide (0 < (zaD g p).getD x.toNat 0)).map fun x=>(⟨0,2 + 2 * x,(zaD g p).getD x.toNat 0⟩ : Ed)).filter fun e=>decide (e.t = 1)) = []:=by
  rw [List.filter_eq_nil_iff]
  intro e he
  obtain ⟨x,_,rfl⟩:=List.mem_map.1 he
  simp only [decide_eq_true_eq]
  omega
 have h2 : ((((List.range (zaD g p).length).filter fun i=>decide (0 < (zaD g p).getD i 0)).map fun (i : Nat)=>(⟨2 + 2 * (i : Int),3 + 2 * (i : Int),(zaD g p).getD i 0 - 1⟩ : Ed)).filter fun e=>decide (e.t = 1)) = []:=by
  rw [List.filter_eq_nil_iff]
  intro e he
  obtain ⟨x,_,rfl⟩:=List.mem_map.1 he
  simp only [decide_eq_true_eq]
  omega
 have h4 : ((((zai g p.lv).edges.filter fun e=>decide (0 < (zaD g p).getD e.f.toNat 0)).map fun e=>(⟨3 + 2 * e.f,2 + 2 * e.t,64⟩ : Ed)).filter fun e=>decide (e.t = 1)) = []:=by
  rw [List.filter_eq_nil_iff]
  intro e he
  obtain ⟨x,_,rfl⟩:=List.mem_map.1 he
  simp only [decide_eq_true_eq]
  omega
 have h3 : (ks.filter fun x=>decide (0 < (zaD g p).getD x.toNat 0)) = ks:=by
  rw [List.filter_eq_self]
  intro x hx
  exact decide_eq_true (hk.reach x hx)
 have h5 : ((ks.map fun x=>(⟨2 + 2 * x,1,1⟩ : Ed)).filter fun e=>decide (e.t = 1)) = ks.map fun x=>(⟨2 + 2 * x,1,1⟩ : Ed):=by
  rw [List.filter_eq_self]
  intro e he
  obtain ⟨x,_,rfl⟩:=List.mem_map.1 he
  exact decide_eq_true rfl
 rw [h1,h2,h3,h4,h5]
 simp only [List.map_nil,List.nil_append,List.append_nil,List.map_map]
 conv=>rhs; rw [← List.map_id ks]
 refine List.map_congr_left fun x _=>?_
 simp only [Function.comp,id]
 omega
theorem ztH {ks : List Int} (hk : zaX g p ks) (hp : zaZ g.size p) : ∀ e ∈ netA g p ks,e.t = 1 → ∃ k,(0 ≤ k ∧ k < g.size) ∧ e.f = 2 + 2 * k:=fun e he h1=>by
 have : (e.f - 2) / 2 ∈ sv (netA g p ks):=List.mem_map.2 ⟨e,List.mem_filter.2 ⟨he,decide_eq_true h1⟩,rfl⟩
 rw [zsc hp hk] at this
 have h2:=hk.rng _ this
 simp only [netA,zaT,List.mem_append,List.mem_map] at he
 rcases he with ((⟨x,_,rfl⟩ | ⟨x,_,rfl⟩) | ⟨x,_,rfl⟩) | ⟨x,_,rfl⟩
 ·simp only at h1; omega
 ·simp only at h1; omega
 ·exact ⟨x,by simp only at h2; omega,rfl⟩
 ·simp only at h1; omega
theorem zqT (a : List Int) : zar (zar a) = zar a:=by
 have h : ∀ x ∈ zar a,0 ≤ x ∧ x < 64:=fun x hx=>(zb8.1 hx).2
 have h1:=zdj (zar a)
 have h2:=zdj a
 refine zei h1 h2 fun x=>?_
 rw [zb8 (a:=zar a)]
 exact ⟨fun h=>h.1,fun hx=>⟨hx,h x hx⟩⟩
theorem zr6 (hg : GrOk g) (hp : zaZ g.size p) (hs : p.seeds.length ≤ 64) {a : List Int} {k : Int} (hk : zaX g p (a ++ [k])) (hnd : (a ++ [k]).Nodup) (ha : zap g p (zar a)) (hc : ¬ zap g p (zar (a ++ [k]))) :
  zcn ⟨netN g,netA g p (zar (a ++ [k]))⟩ (zdf (netN g) (netA g p (zar (a ++ [k])))) ∧ cutV (netA g p (zar (a ++ [k]))) (zdf (netN g) (netA g p (zar (a ++ [k])))) = (a.length : Int):=by
 have hka : zaX g p a:=hk.sub fun x hx=>List.mem_append_left _ hx
 have hna : a.Nodup:=(List.nodup_append.1 hnd).1
 have hjl:=zfM hnd (h64 hg hk.rng)
 have hnv:=zd3 hg hp (zeb (zbE hk.rng)) hs (zbw (a ++ [k]))
 have hside:=zky hnv
 have hfew:=zfK (p:=p) (ks:=zar (a ++ [k])) hg hp (zeb (zbE hk.rng))
 refine ⟨hside.1,?_⟩
 rw [hside.2]
 have h1 : maxF (netN g) (netA g p (zar (a ++ [k]))) ≠ (zar (a ++ [k])).length:=hc
 have h2:=zfm hnd (h64 hg hk.rng)
 have h3 : zap g p a:=ha.perm hg hp hka.join (zfm hna (h64 hg hka.rng)).symm
 have h4 : ([k] ++ a).Perm (zar (a ++ [k])):=List.perm_append_comm.trans h2
 have hk2 : zaX g p ([k] ++ a):=hk.sub fun x hx=>by
  rcases List.mem_append.1 hx with h | h
  ·exact List.mem_append_right _ h
  ·exact List.mem_append_left _ h
 have h5:=zri hg hp hk2 h3
 rw [zqR hg hp hk2 h4] at h5
 rw [hjl,List.length_append,List.length_singleton] at hfew h1
 omega
theorem zos : ∀ (b a : List Int),∃ l,refR g p (a ++ b) = refR g p a ++ l
 | [],a=>⟨[],by simp⟩
 | x :: b,a=>by
   obtain ⟨l,hl⟩:=zos b (a ++ [x])
   have e : a ++ x :: b = a ++ [x] ++ b:=by simp
   rw [e,hl]
   by_cases h : zap g p (zar (accR g p a ++ [x]))
   ·exact ⟨l,by rw [zdo h]⟩
   ·exact ⟨_,by rw [zeO h,List.append_assoc]⟩
theorem zqF {o : List Int} {i : Nat} (h : i < o.length) (hc : ¬ zap g p (zar (accR g p (o.take i) ++ [o[i]]))) : ∃ hn : (refR g p (o.take i)).length < (refR g p o).length,(refR g p o)[(refR g p (o.take i)).length] = (o[i],zdf (netN g) (netA g p (zar (accR g p (o.take i) ++ [o[i]])))):=by
 obtain ⟨l,hl⟩:=zos (g:=g) (p:=p) (o.drop (i + 1)) (o.take (i + 1))
 rw [List.take_append_drop,List.take_succ_eq_append_getElem h,zeO hc] at hl
 have h3 : (refR g p o)[(refR g p (o.take i)).length]? = some (o[i],zdf (netN g) (netA g p (zar (accR g p (o.take i) ++ [o[i]])))):=by
  rw [hl,List.append_assoc,List.getElem?_append_right (Nat.le_refl _),Nat.sub_self]
  rfl
 obtain ⟨hn,h4⟩:=List.getElem?_eq_some_iff.1 h3
 exact ⟨hn,h4⟩
theorem zsK (hg : GrOk g) (hp : zaZ g.size p) (hs : p.seeds.length ≤ 64) {o : List Int} (hon : o.Nodup) (hok : zaX g p o) (i : Nat) : zap g p (zar (accR g p (o.take i))) :=
 (zjt hg hp hs _ (o.take i) rfl (hon.sublist (List.take_sublist _ _)) (hok.sub fun _ hx=>List.mem_of_mem_take hx)).1
set_option maxHeartbeats 2000000 in
theorem zjr (N : Nat) (A : List Ed) (hA : A.length ≤ 100000) (h : ∀ e ∈ A,e.t = 1 → ∃ k,(0 ≤ k ∧ k < 64) ∧ e.f = 2 + 2 * k) : zaj Tryz.prog zeA [eN ⟨N,A⟩] [] (ints (zar (sv A))) []:=by
 refine zlo.acalls (Nat.le_of_ble_eq_true rfl) (Nat.le_of_ble_eq_true rfl) (Nat.le_refl _) ?_
 show awp _ 0 _ _ ⟨30,[(0,eN ⟨N,A⟩)],[],16⟩
 have hj0 : zar [] = []:=rfl
 refine zab ⟨30,[(1,.pv (nC ⟨N,A⟩))],[],50⟩ rfl ?_ ?_
 ·simp
  exact Le.go [] [16] rfl rfl (by simp) (by simp)
 refine zab ⟨30,[(1,.pv (nC ⟨N,A⟩)),(3,.vs 1 false [])],[],100⟩ rfl ?_ ?_
 ·simp
  exact Le.go [] [] rfl rfl (by simp) (by simp)
 refine zaa ?_
 refine zab ⟨30,[(1,.pv (nC ⟨N,A⟩)),(3,.vs 1 false []),(4,.I 0)],[],200⟩ rfl ?_ ?_
 ·simp
  exact Le.go [] [] rfl rfl (by simp) (by simp)
 refine zaf ?_
 refine zao (ι:=Nat) (fun i=>⟨30,[(1,.pv (nC ⟨N,A⟩)),(3,ints (zar (sv (A.take i)))),(4,.I i)],[],300⟩) (fun i=>i ≤ A.length) (fun i=>A.length - i) 0 (Nat.zero_le _) (Le.go [] [] rfl rfl (by simp [sv,hj0]; exact .refl _) (by simp)) ?_
 intro i hi
 refine zaa ?_
 refine zab ⟨30,[(1,.pv (nC ⟨N,A⟩)),(3,ints (zar (sv (A.take i)))),(4,.I i),(9,.B (decide (i < A.length)))],[],400⟩ rfl ?_ ?_
 ·simp
  exact Le.go [] [] rfl rfl (by simp) (by simp)
 refine zad _ rfl (fun h7=>?_) fun h7=>?_
 ·simp at h7
  have hw : IntKind.i64.wrap ((i : Int) + 1) = (i : Int) + 1:=w64 (by omega) (by omega)
  have hs:=zsA h7
  obtain ⟨J,hJ⟩ : ∃ J,J = sv (A.take i):=⟨_,rfl⟩
  obtain ⟨J2,hJ2⟩ : ∃ J2,J2 = sv (A.take (i + 1)):=⟨_,rfl⟩
  rw [← hJ,← hJ2] at hs
  rw [← hJ]
  refine zae ?_
  refine zaI (ι:=Unit) (fun _=>⟨30,[(1,.pv (nC ⟨N,A⟩)),(3,ints (zar J2)),(4,.I i)],[],2000⟩) (fun _=>True) ?_ fun _ _=>?_
  ·refine zaf ?_
   refine zab ⟨30,[(1,.pv (nC ⟨N,A⟩)),(3,ints (zar J)),(4,.I i),(18,.B (decide (A[i].t = 1)))],[],600⟩ rfl ?_ ?_
   ·simp [h7]
    exact Le.go [] [] rfl rfl (by simp <;> exact wkB (by rw [Bool.eq_iff_iff]; simp)) (by simp)
   refine zad _ rfl (fun h8=>?_) fun h8=>?_
   ·rw [decide_eq_true_eq] at h8
    rw [if_pos h8] at hs
    obtain ⟨k,hk,hf⟩:=h _ (List.getElem_mem h7) h8
    have hput:=zpV (zar J) k (by have:=zbw J; omega)
    rw [zmP hk.1 hk.2] at hput
    have hq : (A[i].f - 2) / 2 = k:=by omega
    rw [hq] at hs
    rw [← hs] at hput
    have hw2 : IntKind.i64.wrap (A[i].f - 2) = 2 * k:=by rw [w64 (by omega) (by omega)]; omega
    have hw3 : IntKind.i64.wrap ((2 * k).tdiv 2) = k:=by rw [Int.tdiv_eq_ediv_of_nonneg (by omega),w64 (by omega) (by omega)]; omega
    have hw4 : IntKind.i64.wrap k = k:=w64 (by omega) (by omega)
    obtain ⟨W,hW⟩ : ∃ W,W = zar J2:=⟨_,rfl⟩
    rw [← hW] at hput ⊢
    refine zav rfl ?_
    simp [h7,hw2,hw3,hw4]
    refine za1 hput (by simp) ?_
    simp
    exact Le.go [] [672] rfl rfl (by simp [fcd,zaq]) (by simp)
   ·rw [decide_eq_false_iff_not] at h8
    rw [if_neg h8] at hs
    refine zae ?_
    exact ⟨(),trivial,Le.go [] [] rfl rfl (by simp [hs]) (by simp)⟩
  refine zav rfl ?_
  simp
  exact ⟨i + 1,by omega,by omega,Le.go [] [] rfl rfl (by simp [hw,← hJ2]) (by simp)⟩
 simp at h7
 obtain rfl : i = A.length:=by omega
 rw [List.take_length]
 refine zan ?_
 refine hit ?_
 refine zab ⟨30,[(2,ints (zar (sv A)))],[],500⟩ rfl ?_ ?_
 ·simp
  exact Le.go [] [] rfl rfl (by simp) (by simp)
 refine zag ?_
 exact ⟨.inr rfl,zam.one (by simp)⟩
set_option maxRecDepth 100000 in
set_option maxHeartbeats 4000000 in
open Classical in
theorem zfP (L : List Int) : zaj Tryz.prog zdY [ints L] [] (.B true) []:=by
 refine zgQ.acalls (Nat.le_of_ble_eq_true rfl) (Nat.le_of_ble_eq_true rfl) (Nat.le_refl _) ?_
 show awp _ 0 _ _ ⟨148,[(0,ints L)],[],16⟩
 have hlight:=zov L
 refine rx (s:=?s1) [0] [] [] rfl ?o1 ?q1
 case o1=>simp; rfl
 refine zaa ?_
 refine zab ⟨148,[(0,ints L),(19,.B (!decide (L.length ≤ 400)))],[],100⟩ rfl ?_ ?_
 ·simp
  refine zal hlight (by simp) ?_
  simp
  exact Le.go [] [] rfl rfl (by simp <;> exact wkB (by rw [Bool.eq_iff_iff]; simp)) (by simp)
 refine zad _ rfl (fun h3=>?_) fun h3=>?_
 ·refine rx (s:=?s4) [2] [] [] rfl ?o4 ?q4
  case o4=>simp; refine zal zfI (by simp) ?_; simp; rfl
  refine zag ?_
  exact ⟨.inr rfl,zam.one (by simp)⟩
 have h3 : L.length ≤ 400:=by simpa using h3
 obtain ⟨g,b1,⟨hg,hg2,hg9,hb1⟩,hcg⟩:=zsb L h3
 obtain ⟨⟨p,b2⟩,⟨hp1,hp2,hp3,hb2⟩,hcp⟩:=znZ L b1 g h3 hb1 (by omega) (by omega)
 simp only at hp1 hp2 hp3 hb2 hcp
 have hel:=hg.edges_le
 have hgl:=hg.gone_le
 refine zae ?_
 refine zab ⟨148,[(3,.pt 20 0 0)],[(20,some (dice L 0))],200⟩ rfl ?_ ?_
 ·simp
  refine za1 (zqq L) (by simp) ?_
  simp
  exact Le.go [(108,20)] [] rfl rfl (by simp) (by simp)
 refine zab ⟨148,[(3,.pt 20 0 0),(4,.pv (gC g))],[(20,some (dice L b1))],300⟩ rfl ?_ ?_
 ·simp
  refine zby (i:=20) rfl (e':=dice L 0) (by simp) hcg (by simp) (by simp) ?_
  simp
  exact Le.go [(20,20)] [216] rfl rfl (by simp) (by simp)
 refine zab ⟨148,[(3,.pt 20 0 0),(4,.pv (gC g)),(5,.pv (pC p))],[(20,some (dice L b2))],400⟩ rfl ?_ ?_
 ·simp
  refine zby (i:=20) rfl (e':=dice L b1) (by simp) hcp (by simp) (by simp) ?_
  simp
  exact Le.go [(20,20)] [324] rfl rfl (by simp) (by simp)
 obtain ⟨fl,hfl,hrun⟩:=zfv g p hg hp1 (by omega) (by omega)
 have hal:=zob hg p
 have hrl:=zop hg p
 have hlev:=zc3 g p.lv (by omega) (by omega)
 have hord:=zjP (g:=zai g p.lv) (S:=p.seeds) (hg.level p.lv) (by omega)
 have hol:=zkT hg p
 have hok:=zdt hg hp1
 have hrall:=zkM hg hp1 (by omega)
 simp only [accG,refG] at hal hrl
 obtain ⟨o,ho⟩ : ∃ o,o = ordL (zai g p.lv) p.seeds:=⟨_,rfl⟩
 have hon : o.Nodup:=by rw [ho]; exact zbu _ _
 rw [← ho] at hord hol hrun hal hrl hok hfl hrall
 have hor : ∀ k ∈ o,0 ≤ k ∧ k < g.size:=hok.rng
 have hsz:=hg.1.1
 have hsz2:=hg.1.2.1
 have hturn:=fun i (h : i < o.length)=>zrW (g:=g) (p:=p) hon h
 have hyes:=fun i (k : Int)=>zb2 (g:=g) (p:=p) (o:=o.take i) (k:=k)
 have hno:=fun i (k : Int)=>zfw (g:=g) (p:=p) (o:=o.take i) (k:=k)
 have hryes:=fun i (k : Int)=>zdo (g:=g) (p:=p) (o:=o.take i) (k:=k)
 have hrno:=fun i (k : Int)=>zeO (g:=g) (p:=p) (o:=o.take i) (k:=k)
 have hrturn:=fun i (h : i < o.length)=>zqF (g:=g) (p:=p) h
 have hcan:=fun i=>zsK (g:=g) (p:=p) hg hp1 (by omega) hon hok i
 have hcanL:=hcan o.length
 rw [List.take_length] at hcanL
 obtain ⟨acc,hacc⟩ : ∃ acc,acc = accR g p o:=⟨_,rfl⟩
 obtain ⟨R,hR⟩ : ∃ R,R = refR g p o:=⟨_,rfl⟩
 rw [← hacc,← hR] at hrun
 rw [← hacc] at hal hturn hfl hcanL
 rw [← hR] at hrl hrturn
 have haccn : acc.Nodup:=by rw [hacc]; exact hon.sublist (zdm _ _ rfl)
 have hakr : zaX g p acc:=hok.sub fun x hx=>by rw [hacc] at hx; exact zcz hx
 have hj0 : zar [] = []:=rfl
 have hr0 : refR g p [] = []:=rfl
 refine zab ⟨148,[(4,.pv (gC g)),(5,.pv (pC p)),(6,.pv [ints acc,ints fl,.vs 2 false (zaJ R)]),(7,.I 0)],[],500⟩ rfl ?_ ?_
 ·simp
  refine zal hrun (by simp) ?_
  simp
  exact Le.go [] [448] rfl rfl (by simp) (by simp)
 refine zaw ⟨148,[(4,.pv (gC g)),(5,.pv (pC p)),(6,.pv [ints acc,ints fl,.vs 2 false (zaJ R)]),(7,.I 0),(8,ints o)],[],600⟩ rfl ?_ ?_
 ·simp
  refine zal hlev (by simp) ?_
  simp
  refine za1 hord (by simp) ?_
  simp
  exact ⟨rfl,Le.go [] [548] rfl rfl (by simp [fcd,zaq]) (by simp)⟩
 refine zab ⟨148,[(4,.pv (gC g)),(5,.pv (pC p)),(6,.pv [ints acc,ints fl,.vs 2 false (zaJ R)]),(7,.I 0),(8,ints o),(9,.vs 1 false [])],[],700⟩ rfl ?_ ?_
 ·simp
  exact Le.go [] [] rfl rfl (by simp) (by simp)
 refine zab ⟨148,[(4,.pv (gC g)),(5,.pv (pC p)),(6,.pv [ints acc,ints fl,.vs 2 false (zaJ R)]),(7,.I 0),(8,ints o),(9,.vs 1 false []),(10,.I 0)],[],750⟩ rfl ?_ ?_
 ·simp
  exact Le.go [] [] rfl rfl (by simp) (by simp)
 refine zaa ?_
 refine zab ⟨148,[(4,.pv (gC g)),(5,.pv (pC p)),(6,.pv [ints acc,ints fl,.vs 2 false (zaJ R)]),(7,.I 0),(8,ints o),(9,.vs 1 false []),(10,.I 0),(11,.I 0)],[],800⟩ rfl ?_ ?_
 ·simp
  exact Le.go [] [] rfl rfl (by simp) (by simp)
 refine zaf ?_
 refine zao (ι:=Nat) (fun i=>⟨148,[(4,.pv (gC g)),(5,.pv (pC p)),(6,.pv [ints acc,ints fl,.vs 2 false (zaJ R)]),(7,.I 0),(8,ints o),(9,ints (zar (accR g p (o.take i)))),(10,.I (refR g p (o.take i)).length),(11,.I i)],[],900⟩) (fun i=>i ≤ o.length) (fun i=>o.length - i) 0 (Nat.zero_le _) (Le.go [] [] rfl rfl (by simp [zkP,hj0,hr0]; exact .refl _) (by simp)) ?_
 intro i hi
 refine zaa ?_
 refine zab ⟨148,[(4,.pv (gC g)),(5,.pv (pC p)),(6,.pv [ints acc,ints fl,.vs 2 false (zaJ R)]),(7,.I 0),(8,ints o),(9,ints (zar (accR g p (o.take i)))),(10,.I (refR g p (o.take i)).length),(11,.I i),(48,.B (decide (i < o.length)))],[],1000⟩ rfl ?_ ?_
 ·by_cases hc : i < o.length <;> simp [hc]
  ·exact Le.go [] [] rfl rfl (by simp [hc]) (by simp)
  ·exact Le.go [] [] rfl rfl (by simp [hc]) (by simp)
 refine zad _ rfl (fun h13=>?_) fun h13=>?_
 ·simp at h13
  have hw1 : IntKind.i64.wrap ((i : Int) + 1) = (i : Int) + 1:=w64 (by omega) (by omega)
  obtain ⟨x,hx⟩ : ∃ x,x = o[i]:=⟨_,rfl⟩
  have hxo : x ∈ o:=hx ▸ List.getElem_mem h13
  have hxr:=hor x hxo
  have hts : o.take (i + 1) = o.take i ++ [x]:=by rw [List.take_succ_eq_append_getElem h13,hx]
  have hturn:=hturn i h13
  have hrturn:=hrturn i h13
  rw [← hx] at hturn hrturn
  have hput:=zpV (zar (accR g p (o.take i))) x (by have:=zbw (accR g p (o.take i)); omega)
  rw [zmP hxr.1 (by omega)] at hput
  have hsub : ∀ y ∈ accR g p (o.take i) ++ [x],y ∈ o:=fun y hy=>by
   rcases List.mem_append.1 hy with h | h
   ·exact List.mem_of_mem_take (zcz h)
   ·rw [List.mem_singleton] at h; subst h; exact hxo
  have hka : zaX g p (accR g p (o.take i) ++ [x]):=hok.sub hsub
  have hxt : x ∉ o.take i:=fun hm=>by
   obtain ⟨j,hj,hjx⟩:=List.getElem_of_mem hm
   rw [List.length_take] at hj
   rw [List.getElem_take,hx] at hjx
   have:=(List.getElem_inj hon).1 hjx
   omega
  have hnd : (accR g p (o.take i) ++ [x]).Nodup:=List.nodup_append.2 ⟨(hon.sublist (List.take_sublist _ _)).sublist (zdm _ _ rfl),by simp,fun a ha b hb=>by
   rw [List.mem_singleton] at hb
   subst hb
   rintro rfl
   exact hxt (zcz ha)⟩
  have hside:=zr6 hg hp1 (by omega) hka hnd (hcan i)
  have hjl : (zar (accR g p (o.take i))).length = (accR g p (o.take i)).length:=zfM (List.nodup_append.1 hnd).1 (h64 hg fun y hy=>hka.rng y (List.mem_append_left _ hy))
  have hnet:=zeX g p (zar (accR g p (o.take i) ++ [x])) hg hp1 (zbE hka.rng) (by omega) (zbw _)
  rw [← zfD hg,show zaT g p (zaD g p) (zar (accR g p (o.take i) ++ [x])) = netA g p (zar (accR g p (o.take i) ++ [x])) from rfl] at hnet
  have hnv:=zd3 hg hp1 (zeb (zbE hka.rng)) (by omega) (zbw (accR g p (o.take i) ++ [x]))
  have hAl:=hnv.2.2.1
  have hsl:=zix (netN g) (netA g p (zar (accR g p (o.take i) ++ [x])))
  have hNl : netN g ≤ 1000:=by unfold netN; omega
  have hyes:=hyes i x
  have hno:=hno i x
  have hryes:=hryes i x
  have hrno:=hrno i x
  rw [← hts] at hyes hno hryes hrno
  obtain ⟨C,hC⟩ : ∃ C : Prop,C = zap g p (zar (accR g p (o.take i) ++ [x])):=⟨_,rfl⟩
  rw [← hC] at hyes hno hryes hrno hrturn hside hturn
  obtain ⟨W,hW⟩ : ∃ W,W = zar (accR g p (o.take i) ++ [x]):=⟨_,rfl⟩
  obtain ⟨B,hB⟩ : ∃ B,B = zar (accR g p (o.take i)):=⟨_,rfl⟩
  rw [← hW] at hput hnet hrturn hside hAl hsl
  rw [← hB] at hput hjl
  rw [← hB]
  obtain ⟨A,hA⟩ : ∃ A,A = netA g p W:=⟨_,rfl⟩
  rw [← hA] at hnet hside hAl hsl hrturn
  obtain ⟨sd,hsd⟩ : ∃ sd,sd = zdf (netN g) A:=⟨_,rfl⟩
  rw [← hsd] at hside hsl hrturn
  obtain ⟨n,hn⟩ : ∃ n,n = (refR g p (o.take i)).length:=⟨_,rfl⟩
  rw [← hn]
  rw [← hn] at hrturn
  simp only at hAl
  have hval:=zfU ⟨netN g,A⟩ sd (by simp only; omega) (by omega)
  have hcap:=zhb ⟨netN g,A⟩ sd (by simp only; omega) (by omega)
  have hhas:=zf2 acc x (by omega)
  refine zae ?_
  refine zaI (ι:=Unit) (fun _=>⟨148,[(4,.pv (gC g)),(5,.pv (pC p)),(6,.pv [ints acc,ints fl,.vs 2 false (zaJ R)]),(7,.I 0),(8,ints o),(9,ints (zar (accR g p (o.take (i + 1))))),(10,.I (refR g p (o.take (i + 1))).length),(11,.I i)],[],4000⟩) (fun _=>True) ?_ fun _ _=>?_
  ·refine zaf ?_
   refine zaa ?_
   refine zaw ⟨148,[(4,.pv (gC g)),(5,.pv (pC p)),(6,.pv [ints acc,ints fl,.vs 2 false (zaJ R)]),(7,.I 0),(8,ints o),(9,ints B),(10,.I n),(11,.I i),(57,.B (acc.contains x))],[],1100⟩ rfl ?_ ?_
   ·simp [h13,← hx]
    refine zal hhas (by simp) ?_
    simp
    exact ⟨rfl,Le.go [] [] rfl rfl (by simp) (by simp)⟩
   refine zad _ rfl (fun h20=>?_) fun h20=>?_
   ·have hCC : C:=hturn.1 (by simpa using h20)
    have hy:=hyes hCC
    have hry:=hryes hCC
    refine zab ⟨148,[(4,.pv (gC g)),(5,.pv (pC p)),(6,.pv [ints acc,ints fl,.vs 2 false (zaJ R)]),(7,.I 0),(8,ints o),(9,ints W),(10,.I n),(11,.I i)],[],1200⟩ rfl ?_ ?_
    ·simp [h13,← hx]
     refine za1 hput (by simp) ?_
     simp
     exact Le.go [] [1140] rfl rfl (by simp [fcd,zaq]) (by simp)
    refine zan ?_
    refine hit ?_
    exact ⟨(),trivial,Le.go [] [] rfl rfl (by simp [hy,hry,← hW,← hn]) (by simp)⟩
   ·have hCC : ¬ C:=fun h=>by have:=hturn.2 h; simp [this] at h20
    have hnn:=hno hCC
    have hrn:=hrno hCC
    obtain ⟨hnl,hat⟩:=hrturn hCC
    have hside:=hside hCC
    rw [if_pos hside.1,hside.2] at hcap
    rw [show decide (zcn ⟨netN g,A⟩ sd) = true from decide_eq_true hside.1] at hval
    have hat1 : R[n].1 = x:=by rw [hat]
    have hat2 : R[n].2 = sd:=by rw [hat]
    have hw2 : IntKind.i64.wrap ((n : Int) + 1) = (n : Int) + 1:=w64 (by omega) (by omega)
    have hle : ¬ R.length ≤ n:=by omega
    refine zae ?_
    refine zaa ?_
    refine zaw ⟨148,[(4,.pv (gC g)),(5,.pv (pC p)),(6,.pv [ints acc,ints fl,.vs 2 false (zaJ R)]),(7,.I 0),(8,ints o),(9,ints B),(10,.I n),(11,.I i),(81,.B false)],[],1400⟩ rfl ?_ ?_
    ·simp [h13,← hx,hle,hnl,zaJ,hat1]
     exact ⟨rfl,Le.go [] [] rfl rfl (by simp [zaJ]) (by simp)⟩
    refine zad _ rfl (fun h=>by cases h) fun _=>?_
    refine zae ?_
    refine zaw ⟨148,[(4,.pv (gC g)),(5,.pv (pC p)),(6,.pv [ints acc,ints fl,.vs 2 false (zaJ R)]),(7,.I 0),(8,ints o),(9,ints B),(10,.I n),(11,.I i),(12,.pv (nC ⟨netN g,A⟩))],[],1700⟩ rfl ?_ ?_
    ·simp [h13,← hx]
     refine za1 hput (by simp) ?_
     simp
     refine zp8 [1456] (by simp) hnet (by simp [fcd,zaq]) ?_
     simp
     exact ⟨rfl,Le.go [] [1496] rfl rfl (by simp) (by simp)⟩
    refine zab ⟨148,[(4,.pv (gC g)),(5,.pv (pC p)),(6,.pv [ints acc,ints fl,.vs 2 false (zaJ R)]),(7,.I 0),(8,ints o),(9,ints B),(10,.I n),(11,.I i),(12,.pv (nC ⟨netN g,A⟩)),(14,ints sd)],[],1900⟩ rfl ?_ ?_
    ·simp [hnl,zaJ,hat2]
     exact Le.go [] [] rfl rfl (by simp [zaJ]) (by simp)
    refine zaa ?_
    refine zab ⟨148,[(4,.pv (gC g)),(5,.pv (pC p)),(6,.pv [ints acc,ints fl,.vs 2 false (zaJ R)]),(7,.I 0),(8,ints o),(9,ints B),(10,.I n),(11,.I i),(111,.B false)],[],2100⟩ rfl ?_ ?_
    ·simp
     refine zal hval (by simp) ?_
     simp
     refine zal hcap (by simp) ?_
     simp [hjl]
     exact Le.go [] [] rfl rfl (by simp) (by simp)
    refine zad _ rfl (fun h=>by cases h) fun _=>?_
    refine zae ?_
    refine zav rfl ?_
    simp
    exact Le.go [] [] rfl rfl (by simp [hw2,hnn,hrn,← hB,← hn]) (by simp)
  refine zav rfl ?_
  simp
  exact ⟨i + 1,by omega,by omega,Le.go [] [] rfl rfl (by simp [hw1]) (by simp)⟩
 simp at h13
 obtain rfl : i = o.length:=by omega
 rw [List.take_length,← hacc,← hR]
 have hnet:=zeX g p (zar acc) hg hp1 (zbE hakr.rng) (by omega) (zbw acc)
 rw [← zfD hg,show zaT g p (zaD g p) (zar acc) = netA g p (zar acc) from rfl] at hnet
 have hnv:=zd3 hg hp1 (zeb (zbE hakr.rng)) (by omega) (zbw acc)
 have hval:=zh7 hnv hfl.ok
 rw [hfl.val,show maxF (netN g) (netA g p (zar acc)) = (zar acc).length from hcanL] at hval
 have hrng:=ztH hakr.join hp1
 have hserved:=zjr (netN g) (netA g p (zar acc)) (by have:=hnv.2.2.1; simp only at this; omega) fun e he h1=>by
  obtain ⟨k,hk,hf⟩:=hrng e he h1
  exact ⟨k,by omega,hf⟩
 rw [zsc hp1 hakr.join,zqT] at hserved
 have hjl:=zbw acc
 obtain ⟨A,hA⟩ : ∃ A,A = netA g p (zar acc):=⟨_,rfl⟩
 obtain ⟨J,hJ⟩ : ∃ J,J = zar acc:=⟨_,rfl⟩
 rw [← hA,← hJ] at hnet hval hserved
 rw [← hJ] at hjl
 rw [← hJ]
 have hsame:=znJ J J (by omega)
 rw [show decide (J = J) = true from decide_eq_true rfl] at hsame
 refine zan ?_
 refine hit ?_
 refine zab ⟨148,[(6,.pv [ints acc,ints fl,.vs 2 false (zaJ R)]),(7,.I 0),(9,ints J),(10,.I R.length),(15,.pv (nC ⟨netN g,A⟩))],[],1200⟩ rfl ?_ ?_
 ·simp
  refine zal hnet (by simp) ?_
  simp
  exact Le.go [] [1056] rfl rfl (by simp) (by simp)
 refine zab ⟨148,[(2,.B true)],[],1800⟩ rfl ?_ ?_
 ·simp
  refine zal zfI (by simp) ?_
  simp [zaJ]
  refine zal hval (by simp) ?_
  simp
  refine zal hserved (by simp) ?_
  simp
  refine zal hsame (by simp) ?_
  simp
  exact Le.go [] [] rfl rfl (by simp) (by simp)
 refine zag ?_
 exact ⟨.inr rfl,zam.one (by simp)⟩
end Go.Proofs.YteiabadhhhckfaaGreat
