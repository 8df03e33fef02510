/- Texts of this claim,merged. -/
import Derived.Test.YtfdbhehkkobfgaaRt13
import Derived.Test.YtfdbhehkkobfgaaRt10
import Derived.Test.YtfdbhehkkobfgaaRt11
set_option linter.unusedSimpArgs false
set_option linter.unusedVariables false
set_option linter.unusedSectionVars false
namespace Go.Proofs.Ytfdbhehkkobfgaa
open Go
theorem zgt (a b : Nat) : zaj Try.prog zeZ [.I a,.I b] [] (.I (Nat.gcd a b : Nat)) []:=by
 refine znH.acalls (nbz rfl) (nbz rfl) (Nat.le_refl _) ?_
 show awp _ 0 _ _ ⟨12,[(0,.I a),(1,.I b)],[],16⟩
 refine rx (s:=?z1) [0,1] [] [] rfl ?p1 ?r1
 case p1=>simp; rfl
 refine zaa ?_
 refine zaf ?_
 refine zap (ι:=Nat × Nat) (fun i=>⟨12,[(0,.I i.1),(1,.I i.2)],[],100⟩) (fun i=>Nat.gcd i.1 i.2 = Nat.gcd a b) (fun i=>i.2) (a,b) rfl (LeH [] []) ?_
 rintro ⟨x,y⟩ hxy
 simp only at hxy
 refine zaa ?_
 refine rx (s:=?z2) [0,1,6] [] [] rfl ?p2 ?r2
 case p2=>simp; rfl
 refine zad _ rfl (fun hc=>?_) fun hc=>?_
 ·simp at hc
  have f1 : binV .rem (.int .i64 (x : Int)) (.int .i64 (y : Int)) = some (.int .i64 ((x % y : Nat) : Int)):=by
   show (if (y : Int) = 0 then none else some (Value.int .i64 ((x : Int).tmod y))) = _
   rw [if_neg (by omega)]
   simp [Int.tmod_eq_emod_of_nonneg]
  refine zae ?_
  refine zaf ?_
  refine zc3 rfl ?_
  simp [-binV,f1,-Int.natCast_emod]
  exact ⟨rfl,y,x % y,zm4 hxy,Nat.mod_lt _ (by omega),LeH [] []⟩
 ·simp at hc
  subst hc
  rw [Nat.gcd_zero_right] at hxy
  refine zal ?_
  refine hit ?_
  refine rx (s:=?z9) [4] [] [] rfl ?p9 ?r9
  case p9=>simp; rfl
  refine zag ?_
  exact ⟨.inr rfl,zao.one (by simp [hxy])⟩
theorem zl9 (a b : Nat) (ha : 0 < a) (hb : 0 < b) (hab : a * b < 9223372036854775808) : zaj Try.prog zc4 [.I a,.I b] [] (.I (Nat.lcm a b : Nat)) []:=by
 refine zg7.acalls (nbz rfl) (nbz rfl) (Nat.le_refl _) ?_
 show awp _ 0 _ _ ⟨18,[(0,.I a),(1,.I b)],[],16⟩
 have hg:=zgt a b
 have hg0 : 0 < Nat.gcd a b:=Nat.gcd_pos_of_pos_left b ha
 have hl : a / Nat.gcd a b * b = Nat.lcm a b:=by
  unfold Nat.lcm
  rw [Nat.mul_comm,← Nat.mul_div_assoc _ (Nat.gcd_dvd_left a b),Nat.mul_comm]
 have hla : a / Nat.gcd a b ≤ a:=Nat.div_le_self _ _
 have hal : a ≤ a * b:=Nat.le_mul_of_pos_right a hb
 have hlb : a / Nat.gcd a b * b ≤ a * b:=Nat.mul_le_mul_right b hla
 obtain ⟨d,hd⟩ : ∃ d,d = Nat.gcd a b:=⟨_,rfl⟩
 rw [← hd] at hg hg0 hl hla hlb
 obtain ⟨q,hq⟩ : ∃ q,q = a / d:=⟨_,rfl⟩
 rw [← hq] at hl hla hlb
 rw [hl] at hlb
 have f1 : binV .quo (.int .i64 (a : Int)) (.int .i64 (d : Int)) = some (.int .i64 (q : Int)):=by
  show (if (d : Int) = 0 then none else some (Value.int .i64 (IntKind.i64.wrap ((a : Int).tdiv d)))) = _
  rw [if_neg (by omega),show ((a : Int).tdiv d) = ((a / d : Nat) : Int) by simp,← hq,w64 (by omega) (by omega)]
 have f2 : binV .mul (.int .i64 (q : Int)) (.int .i64 (b : Int)) = some (.int .i64 ((Nat.lcm a b : Nat) : Int)):=by
  show some (Value.int .i64 (IntKind.i64.wrap ((q : Int) * b))) = _
  rw [← Int.natCast_mul,hl,w64 (by omega) (by omega)]
 refine rx (s:=?z1) [0,1] [] [] rfl ?p1 ?r1
 case p1=>simp; rfl
 refine zaa ?_
 refine zab ⟨18,[(0,.I a),(1,.I b),(10,.B false)],[],100⟩ rfl ?_ ?_
 ·have f0 : ∀ k : Nat,0 < k → binV .lss (.int .i64 (k : Int)) (.int .i64 1) = some (.bool false):=fun k hk=>by simp; omega
  simp [-binV,f0 a ha,f0 b hb]
  exact LeH [] []
 refine zad _ rfl (fun h=>by simp at h) fun _=>?_
 refine zae ?_
 refine rx (s:=?z3) [4] [] [] rfl ?p3 ?r3
 case p3=>simp [-binV]; refine zan hg (by simp) ?_; simp [-binV,f1,f2]; rfl
 refine zag ?_
 exact ⟨.inr rfl,zao.one (by simp)⟩
theorem zrc (s a q : Int) : IntKind.u64.wrap (IntKind.u64.wrap s + IntKind.u64.wrap (IntKind.u64.wrap a * q)) = IntKind.u64.wrap (s + a * q):=by
 have e : IntKind.u64.wrap (IntKind.u64.wrap a * q) = IntKind.u64.wrap (a * q):=by
  rw [wmod,wmod,wmod,Int.mul_emod,Int.emod_emod,← Int.mul_emod]
 rw [e,wmod,wmod,wmod,wmod,← Int.add_emod]
set_option maxRecDepth 100000 in
set_option maxHeartbeats 16000000 in
theorem zgB (L : List Int) : zaj Try.prog zb5 [ints L] [] (.B true) []:=by
 refine zdJ.acalls (nbz rfl) (nbz rfl) (Nat.le_refl _) ?_
 show awp _ 0 _ _ ⟨209,[(0,ints L)],[],16⟩
 have hlight:=zj3 L
 refine rx (s:=?s1) [0] [] [] rfl ?o1 ?q1
 case o1=>simp; rfl
 refine zaa ?_
 refine zab ⟨209,[(0,ints L),(21,.B (!decide (L.length ≤ 400)))],[],100⟩ rfl ?_ ?_
 ·simp
  refine zan hlight (by simp) ?_
  simp
  exact Le.go [] [] rfl rfl (by simp <;> exact wkB (by rw [Bool.eq_iff_iff]; simp)) (by simp)
 refine zad _ rfl (fun h3=>?_) fun h3=>?_
 ·refine rx (s:=?s4) [2] [] [] rfl ?o4 ?q4
  case o4=>simp; refine zan zbu (by simp) ?_; simp; rfl
  refine zag ?_
  exact ⟨.inr rfl,zao.one (by simp)⟩
 have h3 : L.length ≤ 400:=by simpa using h3
 obtain ⟨g,b1,⟨hg,hg2,hg9,hb1⟩,hcg⟩:=zoY L h3
 obtain ⟨⟨p,b2⟩,⟨hp1,hp2,hp3,hb2⟩,hcp⟩:=zjz L b1 g h3 hb1 (by omega) (by omega)
 simp only at hp1 hp2 hp3 hb2 hcp
 have hel:=hg.edges_le
 have hgl:=hg.gone_le
 refine zae ?_
 refine zab ⟨209,[(3,.pt 20 0 0)],[(20,some (dice L 0))],200⟩ rfl ?_ ?_
 ·simp
  refine zcC (zlX L) (by simp) ?_
  simp
  exact LeH [(108,20)] []
 refine zab ⟨209,[(3,.pt 20 0 0),(4,.pv (gC g))],[(20,some (dice L b1))],300⟩ rfl ?_ ?_
 ·simp
  refine zbh (i:=20) rfl (e':=dice L 0) (by simp) hcg (by simp) (by simp) ?_
  simp
  exact LeH [(20,20)] [216]
 refine zab ⟨209,[(3,.pt 20 0 0),(4,.pv (gC g)),(5,.pv (pC p))],[(20,some (dice L b2))],400⟩ rfl ?_ ?_
 ·simp
  refine zbh (i:=20) rfl (e':=dice L b1) (by simp) hcp (by simp) (by simp) ?_
  simp
  exact LeH [(20,20)] [324]
 obtain ⟨x0,b3,⟨hb3,hx0⟩,hcn⟩:=zhn L b2 5 h3 hb2 (by omega) (by omega)
 have hs1:=hg.1.1
 obtain ⟨r,hrd⟩ : ∃ r : Int,r = 1 + x0:=⟨_,rfl⟩
 have hwx : IntKind.i64.wrap (1 + (x0 : Int)) = r:=by rw [hrd]; exact w64 (by omega) (by omega)
 have hr1 : 1 ≤ r:=by omega
 have hr5 : r ≤ 5:=by omega
 refine zab ⟨209,[(4,.pv (gC g)),(5,.pv (pC p)),(6,.I r)],[],500⟩ rfl ?_ ?_
 ·simp
  refine zbh (i:=20) rfl (e':=dice L b2) (by simp) hcn (by simp) (by simp) ?_
  simp
  exact Le.go [] [] rfl rfl (by simp [hwx]) (by simp)
 have hW:=zcs g p r hg hp1 (by omega) hr1 hr5 (by omega) (by omega)
 have hM:=fun k : Int=>zoX g p r hg hp1 (by omega) hr1 hr5 (by omega) (by omega) k
 have hSk:=zm2 g p r hg hp1 (by omega) hr1 hr5 (by omega) (by omega)
 have hlev:=zdp g p.lv (by omega) (by omega)
 have hGg:=hg.level p.lv
 have hall:=zeO (zam g p.lv) p.seeds hGg (by omega)
 have hord:=zin (g:=zam g p.lv) (S:=p.seeds) hGg (by omega)
 have hGs : (zam g p.lv).size = g.size:=rfl
 obtain ⟨G,hGd⟩ : ∃ G,G = zam g p.lv:=⟨_,rfl⟩
 rw [← hGd] at hW hSk hlev hGg hall hord hGs
 simp only [← hGd] at hM
 have hGe:=hGg.edges_le
 obtain ⟨n,hn⟩ : ∃ n : Nat,g.size = n:=⟨g.size.toNat,by omega⟩
 have hGn : G.size.toNat = n:=by omega
 rw [hGn] at hall
 have hDl : (zce G p.seeds).length = n:=by simp [zce,hGn]
 have hDk : ∀ (k : Nat) (h : k < (zce G p.seeds).length),(zce G p.seeds)[k] = dist G p.seeds k:=fun k h=>by simp [zce]
 obtain ⟨D,hDd⟩ : ∃ D,D = zce G p.seeds:=⟨_,rfl⟩
 rw [← hDd] at hall hDl
 simp only [← hDd] at hDk
 have hDT : ∀ f : Int → List AV,(D.map f).take n = D.map f:=fun f=>List.take_of_length_le (by simp [hDl])
 have hK9 : (zak G p.seeds).length ≤ 9:=by
  have:=zev (g:=G) (S:=p.seeds)
  omega
 have hstat : zei G p.seeds r = if zak G p.seeds = [] then ([],11) else (outK G p.seeds r,0):=by
  unfold zei
  rw [if_neg (show ¬ 9 < (zak G p.seeds).length by omega)]
 have hKo : (ordL G p.seeds).length = (zak G p.seeds).length:=by
  have:=(zcN (ordL G p.seeds)).length_eq
  rw [zjK hGg] at this
  exact this.symm
 rw [hstat] at hW
 obtain ⟨o,ho⟩ : ∃ o,o = (if zak G p.seeds = [] then (([] : List Int),(11 : Int)) else (outK G p.seeds r,0)):=⟨_,rfl⟩
 rw [← ho] at hW
 refine zab ⟨209,[(4,.pv (gC g)),(5,.pv (pC p)),(6,.I r),(7,ints o.1),(8,.I o.2)],[],600⟩ rfl ?_ ?_
 ·simp
  refine zan hW (by simp) ?_
  simp
  exact LeH [] []
 refine zab ⟨209,[(4,.pv (gC g)),(5,.pv (pC p)),(6,.I r),(7,ints o.1),(8,.I o.2),(9,.pv (gC G))],[],700⟩ rfl ?_ ?_
 ·simp
  refine zan hlev (by simp) ?_
  simp
  exact LeH [] [632]
 refine zab ⟨209,[(4,.pv (gC g)),(5,.pv (pC p)),(6,.I r),(7,ints o.1),(8,.I o.2),(9,.pv (gC G)),(10,ints D)],[],800⟩ rfl ?_ ?_
 ·simp
  refine zcC hall (by simp) ?_
  simp
  exact Le.go [] [724] rfl rfl (by simp [hDl,hDT,fcd]) (by simp)
 refine zaa ?_
 refine rx (s:=?z4) [4,5,6,7,9,10,49] [] [] rfl ?p4 ?r4
 case p4=>simp; rfl
 refine zad _ rfl (fun hc=>?_) fun hc=>?_
 ·have hK : zak G p.seeds = []:=Decidable.byContradiction fun h=>by
   rw [if_neg h] at ho
   rw [ho] at hc
   simp at hc
  rw [hK] at hKo
  have hon : ordL G p.seeds = []:=List.length_eq_zero_iff.1 hKo
  rw [hon] at hord
  refine zab ⟨209,[(2,.B true)],[],1500⟩ rfl ?_ ?_
  ·simp
   refine zan zbu (by simp) ?_
   simp
   refine zcC hord (by simp) ?_
   simp
   exact LeH [] []
  refine zag ?_
  exact ⟨.inr rfl,zao.one (by simp)⟩
 have hK : zak G p.seeds ≠ []:=fun h=>by
  rw [if_pos h] at ho
  rw [ho] at hc
  simp at hc
 rw [if_neg hK] at ho
 have hK0 : 0 < (zak G p.seeds).length:=List.length_pos_iff.2 hK
 obtain ⟨w,hwd⟩ : ∃ w,w = o.1:=⟨_,rfl⟩
 have hwo : w = outK G p.seeds r:=by rw [hwd,ho]
 have hwl : w.length = n:=by rw [hwo]; simp [outK,hGn]
 have hwk : ∀ (k : Nat) (h : k < w.length),w[k] = wAt G p.seeds r k:=fun k h=>by
  unfold wAt
  rw [← hwo]
  simp [h]
 have hbnd:=fun k=>zpA (r:=r) hGg hr1 hr5 hSk hK9 (y:=k)
 have hin : ∀ k : Nat,k < n → ((k : Int) ∈ zak G p.seeds ↔ 0 ≤ dist G p.seeds k):=fun k hk=>by
  rw [zaQ]
  exact ⟨fun h=>h.2,fun h=>⟨⟨by omega,by omega⟩,h⟩⟩
 have hpos : ∀ k : Nat,k < n → (0 < wAt G p.seeds r k ↔ 0 ≤ dist G p.seeds k):=fun k hk=>by
  rw [← hin k hk]
  unfold wAt
  rw [List.getD_eq_getElem?_getD]
  by_cases hm : (k : Int) ∈ zak G p.seeds
  ·obtain ⟨v,h1,h2⟩:=zjW (r:=r) hGg hr1 hr5 hSk hK9 hm
   rw [h1]
   simp [hm,h2]
  ·rw [zle hm (by omega)]
   simp [hm]
 have hmass : ∀ k : Nat,(k : Int) ∈ zak G p.seeds → znw G p.seeds r k = (zco G p.seeds r k : Nat):=fun k hk=>by
  unfold znw
  rw [if_pos hk,zgW hGg hr1 hr5]
 have hmp : ∀ k : Nat,(k : Int) ∈ zak G p.seeds → 0 < zco G p.seeds r k ∧ zco G p.seeds r k ≤ 72:=fun k hk=>⟨zkd hGg hr1 hr5 hSk hK9 hk,zmX hGg hr1 hr5 hK9 k⟩
 have haN : ∀ i,i ≤ n → 0 < allN G p.seeds r i ∧ allN G p.seeds r i ≤ 51998697814228992:=fun i hi=>by
  obtain ⟨h1,h2⟩:=zoq (r:=r) hGg hr1 hr5 hSk hK9 i
  refine ⟨h1,Nat.le_trans h2 (Nat.le_trans (Nat.pow_le_pow_right (by omega) (by omega : i ≤ 9)) (by decide))⟩
 have hdone:=zq1 (r:=r) hGg hr1 hr5 hSk hK9 hK0
 rw [hGn] at hdone
 refine zae ?_
 refine zaa ?_
 refine zab ⟨209,[(4,.pv (gC g)),(5,.pv (pC p)),(6,.I r),(7,ints w),(9,.pv (gC G)),(10,ints D),(63,.B false)],[],2000⟩ rfl ?_ ?_
 ·simp
  exact Le.go [] [] rfl rfl (by simp [← hwd,hwl,hn]) (by simp)
 refine zad _ rfl (fun h=>by simp at h) fun _=>?_
 refine zae ?_
 refine zab ⟨209,[(4,.pv (gC g)),(5,.pv (pC p)),(6,.I r),(7,ints w),(9,.pv (gC G)),(10,ints D),(11,.I 1),(12,.I 0)],[],2100⟩ rfl ?_ ?_
 ·simp
  exact LeH [] []
 refine zaw (ι:=Unit) (fun _=>⟨209,[(4,.pv (gC g)),(5,.pv (pC p)),(6,.I r),(7,ints w),(9,.pv (gC G)),(10,ints D),(11,.I (allN G p.seeds r n : Nat)),(12,.I (1 : Int))],[],5000⟩) (fun _=>True) ?_ fun _ _=>?_
 ·refine zab ⟨209,[(4,.pv (gC g)),(5,.pv (pC p)),(6,.I r),(7,ints w),(9,.pv (gC G)),(10,ints D),(11,.I 1),(12,.I 0),(13,.I 0)],[],2200⟩ rfl ?_ ?_
  ·simp
   exact LeH [] []
  refine zaf ?_
  refine zap (ι:=Nat) (fun i=>⟨209,[(4,.pv (gC g)),(5,.pv (pC p)),(6,.I r),(7,ints w),(9,.pv (gC G)),(10,ints D),(11,.I (allN G p.seeds r i : Nat)),(12,.I (divN G p.seeds r i : Nat)),(13,.I i)],[],2300⟩) (fun i=>i ≤ n) (fun i=>n - i) 0 (Nat.zero_le _) (Le.go [] [] rfl rfl (by simp [allN,divN]) (by simp)) ?_
  intro i hi
  refine zaa ?_
  refine rx (s:=?z10) [4,5,6,7,9,10,11,12,13,67] [] [] rfl ?p10 ?r10
  case p10=>simp [hn]; rfl
  refine zad _ rfl (fun hc=>?_) fun hc=>?_
  ·simp at hc
   have hiD : i < D.length:=by omega
   have hiw : i < w.length:=by omega
   have hDi:=hDk i hiD
   have hwi:=hwk i hiw
   have hw1 : IntKind.i64.wrap ((i : Int) + 1) = (i : Int) + 1:=w64 (by omega) (by omega)
   have hb0:=(hbnd i).1
   have hb1:=(hbnd i).2
   have hpi:=hpos i hc
   have hii:=hin i hc
   obtain ⟨wi,hwid⟩ : ∃ wi,wi = wAt G p.seeds r i:=⟨_,rfl⟩
   obtain ⟨di,hdid⟩ : ∃ di,di = dist G p.seeds i:=⟨_,rfl⟩
   rw [← hwid] at hwi hb0 hb1 hpi
   rw [← hdid] at hDi hpi hii
   have hdec : decide (0 ≤ di) = decide (0 < wi):=by rw [Bool.eq_iff_iff]; simp [hpi]
   refine zae ?_
   refine zaw (ι:=Unit) (fun _=>⟨209,[(4,.pv (gC g)),(5,.pv (pC p)),(6,.I r),(7,ints w),(9,.pv (gC G)),(10,ints D),(11,.I (allN G p.seeds r (i + 1) : Nat)),(12,.I (divN G p.seeds r (i + 1) : Nat)),(13,.I i)],[],4500⟩) (fun _=>True) ?_ fun _ _=>?_
   ·refine zaf ?_
    refine zaa ?_
    refine zbb ⟨209,[(4,.pv (gC g)),(5,.pv (pC p)),(6,.I r),(7,ints w),(9,.pv (gC G)),(10,ints D),(11,.I (allN G p.seeds r i : Nat)),(12,.I (divN G p.seeds r i : Nat)),(13,.I i),(87,.B false)],[],2800⟩ rfl ?_ ?_
    ·have hnw : ¬ wi < 0:=by omega
     simp [hiD,hiw,hDi,hwi,hdec,hnw]
     exact ⟨rfl,LeH [] []⟩
    refine zad _ rfl (fun h=>by simp at h) fun _=>?_
    refine zae ?_
    refine rx (s:=?z12) [4,5,6,7,9,10,11,12,13,92] [] [] rfl ?p12 ?r12
    case p12=>simp [hiD,hDi]; rfl
    refine zad _ rfl (fun hd=>?_) fun hd=>?_
    ·simp at hd
     have hm:=hii.2 hd
     obtain ⟨hm0,hm72⟩:=hmp i hm
     have hMi:=hM i
     rw [hmass i hm] at hMi
     obtain ⟨ha0,ha1⟩:=haN i hi
     have hmul:=zl9 (allN G p.seeds r i) (zco G p.seeds r i) ha0 hm0 (Nat.lt_of_le_of_lt (Nat.mul_le_mul ha1 hm72) (by decide))
     have han : allN G p.seeds r (i + 1) = Nat.lcm (allN G p.seeds r i) (zco G p.seeds r i):=by rw [allN,if_pos hm]
     rw [← han] at hmul
     have hdn : divN G p.seeds r (i + 1) = Nat.gcd wi.toNat (divN G p.seeds r i):=by rw [divN,if_pos hm,hwid]
     have hgc:=zgt wi.toNat (divN G p.seeds r i)
     rw [← hdn,show ((wi.toNat : Nat) : Int) = wi by omega] at hgc
     obtain ⟨q1,hq1⟩ : ∃ q,q = allN G p.seeds r i:=⟨_,rfl⟩
     obtain ⟨q2,hq2⟩ : ∃ q,q = allN G p.seeds r (i + 1):=⟨_,rfl⟩
     obtain ⟨q3,hq3⟩ : ∃ q,q = divN G p.seeds r i:=⟨_,rfl⟩
     obtain ⟨q4,hq4⟩ : ∃ q,q = divN G p.seeds r (i + 1):=⟨_,rfl⟩
     rw [← hq1,← hq2] at hmul
     rw [← hq3,← hq4] at hgc
     refine zab ⟨209,[(4,.pv (gC g)),(5,.pv (pC p)),(6,.I r),(7,ints w),(9,.pv (gC G)),(10,ints D),(11,.I (q2 : Nat)),(12,.I (q3 : Nat)),(13,.I i)],[],3500⟩ rfl ?_ ?_
     ·simp [← hq1]
      refine zan hMi (by simp) ?_
      simp
      refine zan hmul (by simp) ?_
      simp
      exact Le.go [] [] rfl rfl (by simp [hq3]) (by simp)
     refine zaC rfl ?_
     simp [hiw,hwi]
     refine zan hgc (by simp) ?_
     simp [← hq2,← hq4]
     exact LeH [] []
    ·simp at hd
     have hm : ¬ (i : Int) ∈ zak G p.seeds:=fun h=>by have:=hii.1 h; omega
     have han : allN G p.seeds r (i + 1) = allN G p.seeds r i:=by rw [allN,if_neg hm]
     have hdn : divN G p.seeds r (i + 1) = divN G p.seeds r i:=by rw [divN,if_neg hm]
     refine zae ?_
     refine ⟨(),trivial,?_⟩
     rw [han,hdn]
     exact LeH [] []
   refine zac (s:=?z14) rfl ?p14 ?r14
   case p14=>simp [hw1]; rfl
   exact ⟨i + 1,by omega,by omega,LeH [] []⟩
  ·simp at hc
   obtain rfl : i = n:=by omega
   refine zal ?_
   refine hit ?_
   refine ⟨(),trivial,?_⟩
   rw [hdone]
   exact LeH [] []
 obtain ⟨ha0,ha1⟩:=haN n (Nat.le_refl n)
 have hadv:=fun k hk hm=>zmF (r:=r) hGg hr1 hr5 hSk hK9 n k hk hm
 obtain ⟨all,hald⟩ : ∃ all,all = allN G p.seeds r n:=⟨_,rfl⟩
 rw [← hald] at ha0 ha1
 simp only [← hald] at hadv
 have hsum : ∀ y : Nat,(y : Int) ∈ zak G p.seeds → sumB G p.seeds r all y n = wAt G p.seeds r y * all:=fun y hy=>by
  have:=zqN (r:=r) hGg hr1 hr5 hSk hK9 (all:=all) hy fun k hk=>hadv k (by have:=(zaQ.1 hk).1; unfold Key at this; omega) hk
  rwa [hGn] at this
 refine zaa ?_
 refine zab ⟨209,[(4,.pv (gC g)),(5,.pv (pC p)),(6,.I r),(7,ints w),(9,.pv (gC G)),(10,ints D),(11,.I (all : Nat)),(12,.I (1 : Int)),(111,.B (decide (16777216 < all)))],[],5200⟩ rfl ?_ ?_
 ·have h1 : ¬ (all : Int) < 1:=by omega
  have f0 : binV .lss (.int .i64 (all : Int)) (.int .i64 1) = some (.bool false):=by simp; omega
  have f1 : binV .gtr (.int .i64 (all : Int)) (.int .i64 16777216) = some (.bool (decide (16777216 < all))):=by
   show some (Value.bool (decide ((all : Int) > 16777216))) = _
   congr 2
   rw [Bool.eq_iff_iff]
   simp
   omega
  simp [-binV,← hald,f0,f1]
  exact LeH [] []
 refine zad _ rfl (fun hc=>?_) fun hc=>?_
 ·refine rx (s:=?z20) [2] [] [] rfl ?p20 ?r20
  case p20=>simp; refine zan zbu (by simp) ?_; simp; rfl
  refine zag ?_
  exact ⟨.inr rfl,zao.one (by simp)⟩
 rw [decide_eq_false_iff_not] at hc
 refine zae ?_
 refine zaw (ι:=Unit) (fun _=>⟨209,[(12,.I (1 : Int))],[],30000⟩) (fun _=>True) ?_ fun _ _=>?_
 ·refine zab ⟨209,[(4,.pv (gC g)),(5,.pv (pC p)),(6,.I r),(7,ints w),(9,.pv (gC G)),(10,ints D),(11,.I (all : Nat)),(12,.I (1 : Int)),(14,.I 0)],[],5400⟩ rfl ?_ ?_
  ·simp
   exact LeH [] []
  refine zaf ?_
  refine zap (ι:=Nat) (fun y=>⟨209,[(4,.pv (gC g)),(5,.pv (pC p)),(6,.I r),(7,ints w),(9,.pv (gC G)),(10,ints D),(11,.I (all : Nat)),(12,.I (1 : Int)),(14,.I y)],[],6000⟩) (fun y=>y ≤ n) (fun y=>n - y) 0 (Nat.zero_le _) (LeH [] []) ?_
  intro y hy
  refine zaa ?_
  refine rx (s:=?z30) [4,5,6,7,9,10,11,12,14,116] [] [] rfl ?p30 ?r30
  case p30=>simp [hn]; rfl
  refine zad _ rfl (fun hcy=>?_) fun hcy=>?_
  ·simp at hcy
   have hyD : y < D.length:=by omega
   have hyw : y < w.length:=by omega
   have hDy:=hDk y hyD
   have hwy:=hwk y hyw
   have hwy1 : IntKind.i64.wrap ((y : Int) + 1) = (y : Int) + 1:=w64 (by omega) (by omega)
   have hby:=hbnd y
   have hiny:=hin y hcy
   have hhas:=zh0 p.seeds y (by omega)
   refine zae ?_
   refine zaw (ι:=Unit) (fun _=>⟨209,[(4,.pv (gC g)),(5,.pv (pC p)),(6,.I r),(7,ints w),(9,.pv (gC G)),(10,ints D),(11,.I (all : Nat)),(12,.I (1 : Int)),(14,.I y)],[],25000⟩) (fun _=>True) ?_ fun _ _=>?_
   ·refine zaf ?_
    refine zaa ?_
    refine rx (s:=?z31) [4,5,6,7,9,10,11,12,14,123] [] [] rfl ?p31 ?r31
    case p31=>simp [hyD,hDy]; rfl
    refine zad _ rfl (fun hd=>?_) fun hd=>?_
    ·refine zal ?_
     refine hit ?_
     exact ⟨(),trivial,LeH [] []⟩
    have hd2 : 0 ≤ dist G p.seeds y:=by simpa using hd
    have hym:=hiny.2 hd2
    have hsy:=hsum y hym
    refine zae ?_
    refine rx (s:=?z32) [4,5,6,7,9,10,11,12,14,15] [] [] rfl ?p32 ?r32
    case p32=>simp; rfl
    refine zaw (ι:=Unit) (fun _=>⟨209,[(4,.pv (gC g)),(5,.pv (pC p)),(6,.I r),(7,ints w),(9,.pv (gC G)),(10,ints D),(11,.I (all : Nat)),(12,.I (1 : Int)),(14,.I y),(15,U (IntKind.u64.wrap (wAt G p.seeds r y * all)))],[],20000⟩) (fun _=>True) ?_ fun _ _=>?_
    ·refine zab ⟨209,[(4,.pv (gC g)),(5,.pv (pC p)),(6,.I r),(7,ints w),(9,.pv (gC G)),(10,ints D),(11,.I (all : Nat)),(12,.I (1 : Int)),(14,.I y),(15,U 0),(16,.I 0)],[],6500⟩ rfl ?_ ?_
     ·simp
      exact LeH [] []
     refine zaf ?_
     refine zap (ι:=Nat) (fun x=>⟨209,[(4,.pv (gC g)),(5,.pv (pC p)),(6,.I r),(7,ints w),(9,.pv (gC G)),(10,ints D),(11,.I (all : Nat)),(12,.I (1 : Int)),(14,.I y),(15,U (IntKind.u64.wrap (sumB G p.seeds r all y x))),(16,.I x)],[],7000⟩) (fun x=>x ≤ n) (fun x=>n - x) 0 (Nat.zero_le _) (Le.go [] [] rfl rfl (by simp [sumB] <;> exact .refl _) (by simp)) ?_
     intro x hx
     refine zaa ?_
     refine rx (s:=?z33) [4,5,6,7,9,10,11,12,14,15,16,127] [] [] rfl ?p33 ?r33
     case p33=>simp [hn]; rfl
     refine zad _ rfl (fun hcx=>?_) fun hcx=>?_
     ·simp at hcx
      have hxD : x < D.length:=by omega
      have hxw : x < w.length:=by omega
      have hDx:=hDk x hxD
      have hwx2:=hwk x hxw
      have hwx1 : IntKind.i64.wrap ((x : Int) + 1) = (x : Int) + 1:=w64 (by omega) (by omega)
      have hbx:=hbnd x
      have hinx:=hin x hcx
      have hss:=zoR G p.seeds r all y x
      refine zae ?_
      refine zaw (ι:=Unit) (fun _=>⟨209,[(4,.pv (gC g)),(5,.pv (pC p)),(6,.I r),(7,ints w),(9,.pv (gC G)),(10,ints D),(11,.I (all : Nat)),(12,.I (1 : Int)),(14,.I y),(15,U (IntKind.u64.wrap (sumB G p.seeds r all y (x + 1)))),(16,.I x)],[],15000⟩) (fun _=>True) ?_ fun _ _=>?_
      ·refine zaf ?_
       refine zaa ?_
       refine rx (s:=?z34) [4,5,6,7,9,10,11,12,14,15,16,134] [] [] rfl ?p34 ?r34
       case p34=>simp [hxD,hDx]; rfl
       refine zad _ rfl (fun he=>?_) fun he=>?_
       ·have hxm : ¬ (x : Int) ∈ zak G p.seeds:=fun h=>by have:=hinx.1 h; simp at he; omega
        rw [if_neg hxm,Int.add_zero] at hss
        refine zal ?_
        refine hit ?_
        refine ⟨(),trivial,?_⟩
        rw [hss]
        exact LeH [] []
       have he2 : 0 ≤ dist G p.seeds x:=by simpa using he
       have hxm:=hinx.2 he2
       rw [if_pos hxm] at hss
       obtain ⟨hm0,hm72⟩:=hmp x hxm
       have hMx:=hM x
       rw [hmass x hxm] at hMx
       have hway:=zfW hGg hr1 hr5 (S:=p.seeds) (x : Int) (y : Int)
       have hedW : edWl (G.edges.take G.edges.length) (x : Int) (y : Int) = edW G x y:=by rw [List.take_length]; rfl
       obtain ⟨sx,hsx⟩ : ∃ s,s = sumB G p.seeds r all y x:=⟨_,rfl⟩
       obtain ⟨sx1,hsx1⟩ : ∃ s,s = sumB G p.seeds r all y (x + 1):=⟨_,rfl⟩
       rw [← hsx1,← hsx] at hss
       refine zae ?_
       refine zab ⟨209,[(4,.pv (gC g)),(5,.pv (pC p)),(6,.I r),(7,ints w),(9,.pv (gC G)),(10,ints D),(11,.I (all : Nat)),(12,.I (1 : Int)),(14,.I y),(15,U (IntKind.u64.wrap sx)),(16,.I x),(17,.I 0)],[],7500⟩ rfl ?_ ?_
       ·simp
        exact Le.go [] [] rfl rfl (by simp [hsx]) (by simp)
       refine zaw (ι:=Unit) (fun _=>⟨209,[(4,.pv (gC g)),(5,.pv (pC p)),(6,.I r),(7,ints w),(9,.pv (gC G)),(10,ints D),(11,.I (all : Nat)),(12,.I (1 : Int)),(14,.I y),(15,U (IntKind.u64.wrap sx)),(16,.I x),(17,.I (edW G x y))],[],11000⟩) (fun _=>True) ?_ fun _ _=>?_
       ·refine zab ⟨209,[(4,.pv (gC g)),(5,.pv (pC p)),(6,.I r),(7,ints w),(9,.pv (gC G)),(10,ints D),(11,.I (all : Nat)),(12,.I (1 : Int)),(14,.I y),(15,U (IntKind.u64.wrap sx)),(16,.I x),(17,.I 0),(18,.I 0)],[],7600⟩ rfl ?_ ?_
        ·simp
         exact LeH [] []
        refine zaf ?_
        refine zap (ι:=Nat) (fun i=>⟨209,[(4,.pv (gC g)),(5,.pv (pC p)),(6,.I r),(7,ints w),(9,.pv (gC G)),(10,ints D),(11,.I (all : Nat)),(12,.I (1 : Int)),(14,.I y),(15,U (IntKind.u64.wrap sx)),(16,.I x),(17,.I (edWl (G.edges.take i) x y)),(18,.I i)],[],8000⟩) (fun i=>i ≤ G.edges.length) (fun i=>G.edges.length - i) 0 (Nat.zero_le _) (Le.go [] [] rfl rfl (by simp [edWl]) (by simp)) ?_
        intro i hi
        refine zaa ?_
        refine rx (s:=?z35) [4,5,6,7,9,10,11,12,14,15,16,17,18,139] [] [] rfl ?p35 ?r35
        case p35=>simp; rfl
        refine zad _ rfl (fun hci=>?_) fun hci=>?_
        ·simp at hci
         have hwi1 : IntKind.i64.wrap ((i : Int) + 1) = (i : Int) + 1:=w64 (by omega) (by omega)
         have hel:=zhi hci (x : Int) (y : Int)
         have heb:=zoH hGg i (x : Int) (y : Int)
         have hev:=hGg.val G.edges[i] (List.getElem_mem hci)
         obtain ⟨e,hed⟩ : ∃ e,e = G.edges[i]:=⟨_,rfl⟩
         obtain ⟨v,hvd⟩ : ∃ v,v = edWl (G.edges.take i) (x : Int) (y : Int):=⟨_,rfl⟩
         obtain ⟨v2,hvd2⟩ : ∃ v,v = edWl (G.edges.take (i + 1)) (x : Int) (y : Int):=⟨_,rfl⟩
         rw [← hvd,← hvd2,← hed] at hel
         rw [← hvd] at heb
         rw [← hed] at hev
         refine zae ?_
         refine zaw (ι:=Unit) (fun _=>⟨209,[(4,.pv (gC g)),(5,.pv (pC p)),(6,.I r),(7,ints w),(9,.pv (gC G)),(10,ints D),(11,.I (all : Nat)),(12,.I (1 : Int)),(14,.I y),(15,U (IntKind.u64.wrap sx)),(16,.I x),(17,.I v2),(18,.I i)],[],10000⟩) (fun _=>True) ?_ fun _ _=>?_
         ·refine zaf ?_
          refine zab ⟨209,[(4,.pv (gC g)),(5,.pv (pC p)),(6,.I r),(7,ints w),(9,.pv (gC G)),(10,ints D),(11,.I (all : Nat)),(12,.I (1 : Int)),(14,.I y),(15,U (IntKind.u64.wrap sx)),(16,.I x),(17,.I v),(18,.I i),(159,.B (decide (e.f = x) && decide (e.t = y)))],[],8500⟩ rfl ?_ ?_
          ·by_cases hf : e.f = x
           ·simp [hci,← hed,hf]
            exact Le.go [] [] rfl rfl (by simp [hvd,hf,← hed] <;> exact wkB (by rw [Bool.eq_iff_iff]; simp)) (by simp)
           ·have hfb : (e.f == (x : Int)) = false:=by simpa using hf
            simp [hci,← hed,hfb]
            exact Le.go [] [] rfl rfl (by simp [hvd,hf,hfb,← hed]) (by simp)
          refine zad _ rfl (fun hb=>?_) fun hb=>?_
          ·rw [Bool.and_eq_true,decide_eq_true_eq,decide_eq_true_eq] at hb
           rw [if_pos hb] at hel
           have hwv : IntKind.i64.wrap (v + e.v) = v2:=by rw [hel]; exact w64 (by omega) (by omega)
           refine zaC rfl ?_
           simp [hci,← hed,hwv]
           exact LeH [] []
          ·rw [Bool.and_eq_false_iff,decide_eq_false_iff_not,decide_eq_false_iff_not] at hb
           rw [if_neg (fun h=>by rcases hb with hb | hb; exact hb h.1; exact hb h.2),Int.add_zero] at hel
           refine zae ?_
           refine ⟨(),trivial,?_⟩
           rw [hel]
           exact LeH [] []
         refine zac (s:=?z37) rfl ?p37 ?r37
         case p37=>simp [hwi1]; rfl
         refine ⟨i + 1,by omega,by omega,?_⟩
         rw [← hvd2]
         exact LeH [] []
        ·simp at hci
         obtain rfl : i = G.edges.length:=by omega
         refine zal ?_
         refine hit ?_
         refine ⟨(),trivial,?_⟩
         rw [hedW]
         exact LeH [] []
       have hwd2 : wayW G p.seeds r x y = (if p.seeds.contains (y : Int) then r else 0) + edW G x y:=rfl
       have hedb:=zmi hGg (x : Int) (y : Int)
       obtain ⟨ew,hew⟩ : ∃ e,e = edW G (x : Int) (y : Int):=⟨_,rfl⟩
       rw [← hew] at hwd2 hedb
       obtain ⟨wa,hwa⟩ : ∃ a,a = wayW G p.seeds r (x : Int) (y : Int):=⟨_,rfl⟩
       rw [← hwa] at hwd2 hway
       refine zaw (ι:=Unit) (fun _=>⟨209,[(4,.pv (gC g)),(5,.pv (pC p)),(6,.I r),(7,ints w),(9,.pv (gC G)),(10,ints D),(11,.I (all : Nat)),(12,.I (1 : Int)),(14,.I y),(15,U (IntKind.u64.wrap sx)),(16,.I x),(17,.I wa)],[],13000⟩) (fun _=>True) ?_ fun _ _=>?_
       ·refine rx (s:=?z38) [4,5,6,7,9,10,11,12,14,15,16,17,171] [] [] rfl ?p38 ?r38
        case p38=>simp [← hew]; refine zan hhas (by simp) ?_; simp; rfl
        refine zad _ rfl (fun hb=>?_) fun hb=>?_
        ·have hb2 : p.seeds.contains (y : Int) = true:=by simpa using hb
         rw [if_pos hb2] at hwd2
         have hwv : IntKind.i64.wrap (ew + r) = wa:=by rw [hwd2,Int.add_comm]; exact w64 (by omega) (by omega)
         refine zaC rfl ?_
         simp [hwv]
         exact LeH [] []
        ·have hb2 : ¬ p.seeds.contains (y : Int) = true:=by simpa using hb
         rw [if_neg hb2,Int.zero_add] at hwd2
         subst hwd2
         refine zae ?_
         exact ⟨(),trivial,LeH [] []⟩
       have hq : binV .quo (.int .i64 (all : Int)) (.int .i64 ((zco G p.seeds r x : Nat) : Int)) = some (.int .i64 ((all / zco G p.seeds r x : Nat) : Int)):=by
        show (if ((zco G p.seeds r x : Nat) : Int) = 0 then none else some (Value.int .i64 (IntKind.i64.wrap ((all : Int).tdiv ((zco G p.seeds r x : Nat) : Int))))) = _
        have hdl:=Nat.div_le_self all (zco G p.seeds r x)
        rw [if_neg (by omega),show ((all : Int).tdiv ((zco G p.seeds r x : Nat) : Int)) = ((all / zco G p.seeds r x : Nat) : Int) by simp]
        obtain ⟨z,hz⟩ : ∃ z,z = all / zco G p.seeds r x:=⟨_,rfl⟩
        rw [← hz] at hdl ⊢
        rw [w64 (by omega) (by omega)]
       have hdl:=Nat.div_le_self all (zco G p.seeds r x)
       have hterm : zlz G p.seeds r all y x = wAt G p.seeds r x * wa * ((all / zco G p.seeds r x : Nat) : Int):=by unfold zlz; rw [hwa]
       rw [hterm] at hss
       obtain ⟨z,hz⟩ : ∃ z,z = all / zco G p.seeds r x:=⟨_,rfl⟩
       rw [← hz] at hss hdl hq
       obtain ⟨wx,hwxd⟩ : ∃ v,v = wAt G p.seeds r x:=⟨_,rfl⟩
       rw [← hwxd] at hss hwx2 hbx
       have hstep:=zrc sx (wx * wa) (z : Int)
       rw [← hss] at hstep
       have hu1 : IntKind.u64.wrap wx = wx:=wu64 (by omega) (by omega)
       have hu2 : IntKind.u64.wrap wa = wa:=wu64 (by omega) (by omega)
       have hu3 : IntKind.u64.wrap (z : Int) = z:=wu64 (by omega) (by omega)
       have m1 : ∀ a b : Int,binV .mul (.int .u64 a) (.int .u64 b) = some (.int .u64 (IntKind.u64.wrap (a * b))):=fun _ _=>rfl
       have m2 : ∀ a b : Int,binV .add (.int .u64 a) (.int .u64 b) = some (.int .u64 (IntKind.u64.wrap (a + b))):=fun _ _=>rfl
       refine zc3 rfl ?_
       simp [-binV,m1,m2,hxw,hwx2,hu1,hu2]
       refine zan hMx (by simp) ?_
       simp [-binV,m1,m2,hq,hu3,hstep]
       rw [← hsx1]
       exact ⟨rfl,LeH [] []⟩
      refine zac (s:=?z40) rfl ?p40 ?r40
      case p40=>simp [hwx1]; rfl
      exact ⟨x + 1,by omega,by omega,LeH [] []⟩
     ·simp at hcx
      obtain rfl : x = n:=by omega
      refine zal ?_
      refine hit ?_
      refine ⟨(),trivial,?_⟩
      rw [hsy]
      exact LeH [] []
    have hwb : IntKind.u64.wrap (wAt G p.seeds r y) = wAt G p.seeds r y:=wu64 (by omega) (by omega)
    have hwc : IntKind.u64.wrap (all : Int) = all:=wu64 (by omega) (by omega)
    refine zab ⟨209,[(4,.pv (gC g)),(5,.pv (pC p)),(6,.I r),(7,ints w),(9,.pv (gC G)),(10,ints D),(11,.I (all : Nat)),(12,.I (1 : Int)),(14,.I y),(203,.B false)],[],22000⟩ rfl ?_ ?_
    ·simp [hyw,hwy,hwb,hwc]
     exact LeH [] []
    refine zad _ rfl (fun h=>by simp at h) fun _=>?_
    refine zae ?_
    exact ⟨(),trivial,LeH [] []⟩
   refine zac (s:=?z42) rfl ?p42 ?r42
   case p42=>simp [hwy1]; rfl
   exact ⟨y + 1,by omega,by omega,LeH [] []⟩
  ·refine zal ?_
   refine hit ?_
   exact ⟨(),trivial,LeH [] []⟩
 refine zab ⟨209,[(2,.B true)],[],40000⟩ rfl ?_ ?_
 ·simp
  refine zan zbu (by simp) ?_
  simp
  exact LeH [] []
 refine zag ?_
 exact ⟨.inr rfl,zao.one (by simp)⟩
end Go.Proofs.Ytfdbhehkkobfgaa
