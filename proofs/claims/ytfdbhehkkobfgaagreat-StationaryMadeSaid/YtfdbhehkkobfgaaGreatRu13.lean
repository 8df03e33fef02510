/- Texts of this claim,merged. -/
import Derived.Test.YtfdbhehkkobfgaaGreatRu12
import Derived.Test.YtfdbhehkkobfgaaGreatRu11
import Derived.Test.YtfdbhehkkobfgaaGreatRu10
set_option linter.unusedSimpArgs false
set_option linter.unusedVariables false
set_option linter.unusedSectionVars false
namespace Go.Proofs.YtfdbhehkkobfgaaGreat
open Go
theorem zlK {s N : Nat} {E E' : Nat → List (List AV)} (h : ∀ k < N,E k = E' k) : za0 s N E = za0 s N E':=by
 unfold za0
 rw [zku (E:=E) (E':=E') fun k hk=>by rw [h k hk]]
 congr 1
 unfold famH
 refine List.map_congr_left fun k hk=>?_
 rw [h k (List.mem_range.1 hk)]
theorem zf7 {B B' : Nat → Nat → Nat} {M k : Nat} (h : ∀ j,j < M → B k j = B' k j) : uRow B M k = uRow B' M k:=by
 unfold uRow
 refine List.map_congr_left fun j hj=>?_
 rw [h j (List.mem_range.1 hj)]
def rowW (W : Mat) (N i : Nat) : List Int:=(List.range (N + 1)).map fun j=>W i j
theorem zg7 (W : Mat) (N i : Nat) : (rowW W N i).length = N + 1:=by simp [rowW]
theorem zo0 {W : Mat} {N i c : Nat} (h : c < (rowW W N i).length) : (rowW W N i)[c] = W i c:=by simp [rowW]
theorem zrg (W : Mat) (N i : Nat) : (rowW W N i).sum = smN (N + 1) (W i):=by
 rw [zmb,zg7]
 refine zbn _ fun j hj=>?_
 simp [rowW,List.getD_eq_getElem?_getD,hj]
section
variable (K : List Int) (L : List (List Int)) (W : Mat) (N root : Nat) (hl : L.length = N + 1) (h8 : N ≤ 8) (hr : root < N + 1)
 (hL : ∀ i,i < N + 1 → L[i]? = some (rowW W N i)) (hW : ∀ i j,0 ≤ W i j ∧ W i j ≤ 8)
 (hm : ∀ i,i < N + 1 → zaj Tryz.prog zaF [eWk K L,.I i] [] (.I (smN (N + 1) (W i))) [])
 (hs : ∀ i,i < N + 1 → 0 ≤ smN (N + 1) (W i) - W i i ∧ smN (N + 1) (W i) ≤ 100)
 (hA : MM N (redM W N root)) (hp : ∀ k,k ≤ N → (zdk k fun i=>redM W N root i i) ≤ 722204136308736)
include hl h8 hr hL hW hm hs hA hp
set_option maxRecDepth 100000 in
set_option maxHeartbeats 8000000 in
theorem zqv : zaj Tryz.prog za5 [eWk K L,.I root] [] (.I (zfv W N root)) []:=by
 refine zep.acalls (nbz rfl) (nbz rfl) (Nat.le_refl _) ?_
 show awp _ 0 _ _ ⟨139,[(0,eWk K L),(1,.I root)],[],16⟩
 have hlz : ∀ i : Nat,i < N + 1 → i < L.length:=fun i hi=>by omega
 have hLg : ∀ (i : Nat) (h : i < L.length),L[i] = rowW W N i:=fun i h=>by
  have:=hL i (by omega)
  rw [List.getElem?_eq_getElem h] at this
  exact Option.some.inj this
 refine rx (s:=?z1) [1,2] [] [16] rfl ?p1 ?r1
 case p1=>simp; rfl
 refine rx (s:=?z2) [1,2,5] [] [] rfl ?p2 ?r2
 case p2=>simp; rfl
 refine zat (ι:=Unit) (fun _=>⟨139,[(5,.rs 50 0 N)],za0 1 N (uRow (b0 W N root) N),9000⟩) (fun _=>True) ?_ fun _ _=>?_
 ·refine rx (s:=?z3) [1,2,5,18,19,20] [] [] rfl ?p3 ?r3
  case p3=>simp [hl]; rfl
  refine zaf ?_
  refine zan (ι:=Nat) (fun i=>⟨139,[(1,.I root),(2,.pv [ints K,zaB L]),(5,.rs 50 0 (cntS root i)),(18,zaB L),(19,.I (N + 1 : Nat)),(20,.I i)],za0 1 (cntS root i) (uRow (b0 W N root) N),3000⟩) (fun i=>i ≤ N + 1) (fun i=>N + 1 - i) 0 (Nat.zero_le _) ?_ ?_
  ·refine Le.lst [] [] [(50,1)] rfl (by simp) (by simp) (by simp) (by simp) (by simp) (by simp) (by simp) (by simp [Up,zcK]) (by simp [zcK,famH,famO])
  intro i hi
  refine zab ⟨139,[(1,.I root),(2,.pv [ints K,zaB L]),(5,.rs 50 0 (cntS root i)),(18,zaB L),(19,.I (N + 1 : Nat)),(20,.I i),(21,.B (decide (i < N + 1)))],za0 1 (cntS root i) (uRow (b0 W N root) N),3100⟩ rfl ?_ ?_
  ·simp
   exact Le.slot (by omega) (by simp [beqN] <;> omega)
  refine zaa ?_
  refine zad _ rfl (fun hc=>?_) fun hc=>?_
  ·rw [decide_eq_true_eq] at hc
   have hw1 : IntKind.i64.wrap ((i : Int) + 1) = (i : Int) + 1:=w64 (by omega) (by omega)
   have hil:=hlz i hc
   have hLi:=hLg i hil
   refine zae ?_
   refine zat (ι:=Unit) (fun _=>⟨139,[(1,.I root),(2,.pv [ints K,zaB L]),(5,.rs 50 0 (cntS root (i + 1))),(18,zaB L),(19,.I (N + 1 : Nat)),(20,.I i)],za0 1 (cntS root (i + 1)) (uRow (b0 W N root) N),8000⟩) (fun _=>True) ?_ fun _ _=>?_
   ·refine zaf ?_
    refine zab ⟨139,[(1,.I root),(2,.pv [ints K,zaB L]),(5,.rs 50 0 (cntS root i)),(6,.I i),(7,ints (rowW W N i)),(18,zaB L),(19,.I (N + 1 : Nat)),(20,.I i)],za0 1 (cntS root i) (uRow (b0 W N root) N),3200⟩ rfl ?_ ?_
    ·simp [hil,hLi]
     exact Le.slot (by omega) (by simp)
    refine zaa ?_
    refine zab ⟨139,[(1,.I root),(2,.pv [ints K,zaB L]),(5,.rs 50 0 (cntS root i)),(6,.I i),(7,ints (rowW W N i)),(18,zaB L),(19,.I (N + 1 : Nat)),(20,.I i),(27,.B (decide (i = root)))],za0 1 (cntS root i) (uRow (b0 W N root) N),3300⟩ rfl ?_ ?_
    ·simp
     exact Le.slot (by omega) (by simp [beqN] <;> omega)
    refine zad _ rfl (fun he=>?_) fun he=>?_
    ·rw [decide_eq_true_eq] at he
     subst he
     refine zak ?_
     refine hit ?_
     refine ⟨(),trivial,?_⟩
     rw [zfx]
     exact Le.slot (by omega) (by simp)
    rw [decide_eq_false_iff_not] at he
    have hML:=zjy he hr hc
    have hms:=zfF he
    refine zae ?_
    refine zab ⟨139,[(1,.I root),(2,.pv [ints K,zaB L]),(5,.rs 50 0 (cntS root i)),(6,.I i),(7,ints (rowW W N i)),(8,.nilS),(18,zaB L),(19,.I (N + 1 : Nat)),(20,.I i)],za0 1 (cntS root i) (uRow (b0 W N root) N),3400⟩ rfl ?_ ?_
    ·simp
     exact Le.slot (by omega) (by simp)
    refine zaa ?_
    refine zab ⟨139,[(1,.I root),(2,.pv [ints K,zaB L]),(5,.rs 50 0 (cntS root i)),(6,.I i),(8,.nilS),(18,zaB L),(19,.I (N + 1 : Nat)),(20,.I i),(28,ints (rowW W N i)),(29,.I (N + 1 : Nat)),(30,.I 0)],za0 1 (cntS root i) (uRow (b0 W N root) N),3500⟩ rfl ?_ ?_
    ·simp [zg7]
     exact Le.slot (by omega) (by simp)
    refine zaf ?_
    refine zan (ι:=Nat) (fun c=>⟨139,[(1,.I root),(2,.pv [ints K,zaB L]),(5,.rs 50 0 (cntS root i)),(6,.I i),(8,.rs 60 0 (cntS root c)),(18,zaB L),(19,.I (N + 1 : Nat)),(20,.I i),(28,ints (rowW W N i)),(29,.I (N + 1 : Nat)),(30,.I c)],(60,some ⟨1,uRow (b0 W N root) (cntS root c) (cntS root i),0⟩) :: za0 1 (cntS root i) (uRow (b0 W N root) N),4000⟩) (fun c=>c ≤ N + 1) (fun c=>N + 1 - c) 0 (Nat.zero_le _) ?_ ?_
    ·exact Le.famX (m:=0) true ⟨by omega,.inl (by omega)⟩ (by omega) (fun k _=>zbN _ _ k) (fun k hk=>zdo hk) zgu (.inr (.inl ⟨rfl,by simp [zcK,uRow]⟩)) (by simp [Up,famG,lkp,zcK])
    intro c hcl
    refine zab ⟨139,[(1,.I root),(2,.pv [ints K,zaB L]),(5,.rs 50 0 (cntS root i)),(6,.I i),(8,.rs 60 0 (cntS root c)),(18,zaB L),(19,.I (N + 1 : Nat)),(20,.I i),(28,ints (rowW W N i)),(29,.I (N + 1 : Nat)),(30,.I c),(31,.B (decide (c < N + 1)))],(60,some ⟨1,uRow (b0 W N root) (cntS root c) (cntS root i),0⟩) :: za0 1 (cntS root i) (uRow (b0 W N root) N),4100⟩ rfl ?_ ?_
    ·simp
     exact Le.slot (by omega) (by simp [beqN] <;> omega)
    refine zaa ?_
    refine zad _ rfl (fun hcc=>?_) fun hcc=>?_
    ·rw [decide_eq_true_eq] at hcc
     have hw2 : IntKind.i64.wrap ((c : Int) + 1) = (c : Int) + 1:=w64 (by omega) (by omega)
     have hWic:=hW i c
     have hsi:=hs i hc
     have hfam : ∀ {a b d e : Nat × Option Ent} {t : List (Nat × AV)} {n k : Nat},k < cntS root i → a.1 ≠ k + 1000 → b.1 ≠ k + 1000 → d.1 ≠ k + 1000 → e.1 ≠ k + 1000 → (⟨139,t,a :: b :: d :: e :: za0 1 (cntS root i) (uRow (b0 W N root) N),n⟩ : St).hp (k + 1000) = some ⟨1,uRow (b0 W N root) N k,0⟩:=fun {a b d e t n k} hk h1 h2 h3 h4=>by
      obtain ⟨a1,a2⟩:=a; obtain ⟨b1,b2⟩:=b; obtain ⟨d1,d2⟩:=d; obtain ⟨e1,e2⟩:=e
      rw [hpN h1,hpN h2,hpN h3,hpN h4,zdo hk]
     refine zae ?_
     refine zat (ι:=Unit) (fun _=>⟨139,[(1,.I root),(2,.pv [ints K,zaB L]),(5,.rs 50 0 (cntS root i)),(6,.I i),(8,.rs 60 0 (cntS root (c + 1))),(18,zaB L),(19,.I (N + 1 : Nat)),(20,.I i),(28,ints (rowW W N i)),(29,.I (N + 1 : Nat)),(30,.I c)],(60,some ⟨1,uRow (b0 W N root) (cntS root (c + 1)) (cntS root i),0⟩) :: za0 1 (cntS root i) (uRow (b0 W N root) N),7000⟩) (fun _=>True) ?_ fun _ _=>?_
     ·refine zaf ?_
      refine zab ⟨139,[(1,.I root),(2,.pv [ints K,zaB L]),(5,.rs 50 0 (cntS root i)),(6,.I i),(8,.rs 60 0 (cntS root c)),(9,.I c),(10,.I (W i c)),(18,zaB L),(19,.I (N + 1 : Nat)),(20,.I i),(28,ints (rowW W N i)),(29,.I (N + 1 : Nat)),(30,.I c)],(60,some ⟨1,uRow (b0 W N root) (cntS root c) (cntS root i),0⟩) :: za0 1 (cntS root i) (uRow (b0 W N root) N),4200⟩ rfl ?_ ?_
      ·simp [hcc,zg7,zo0]
       exact Le.slot (by omega) (by simp)
      refine zaf ?_
      refine zab ⟨139,[(1,.I root),(2,.pv [ints K,zaB L]),(5,.rs 50 0 (cntS root i)),(6,.I i),(8,.rs 60 0 (cntS root c)),(9,.I c),(10,.I (W i c)),(18,zaB L),(19,.I (N + 1 : Nat)),(20,.I i),(28,ints (rowW W N i)),(29,.I (N + 1 : Nat)),(30,.I c),(42,.B (decide (c = root)))],(60,some ⟨1,uRow (b0 W N root) (cntS root c) (cntS root i),0⟩) :: za0 1 (cntS root i) (uRow (b0 W N root) N),4300⟩ rfl ?_ ?_
      ·simp
       exact Le.slot (by omega) (by simp [beqN] <;> omega)
      refine zad _ rfl (fun h1=>?_) fun h1=>?_
      ·rw [decide_eq_true_eq] at h1
       subst h1
       refine zae ?_
       refine ⟨(),trivial,?_⟩
       rw [zfx]
       exact Le.slot (by omega) (by simp)
      rw [decide_eq_false_iff_not] at h1
      have hcs:=zfF h1
      have hcl2:=zjy h1 hr hcc
      refine zab ⟨139,[(1,.I root),(2,.pv [ints K,zaB L]),(5,.rs 50 0 (cntS root i)),(6,.I i),(8,.rs 60 0 (cntS root c)),(9,.I c),(10,.I (W i c)),(18,zaB L),(19,.I (N + 1 : Nat)),(20,.I i),(28,ints (rowW W N i)),(29,.I (N + 1 : Nat)),(30,.I c),(46,.B (decide (c = i)))],(60,some ⟨1,uRow (b0 W N root) (cntS root c) (cntS root i),0⟩) :: za0 1 (cntS root i) (uRow (b0 W N root) N),4500⟩ rfl ?_ ?_
      ·simp
       exact Le.slot (by omega) (by simp [beqN] <;> omega)
      refine zad _ rfl (fun h2=>?_) fun h2=>?_
      ·rw [decide_eq_true_eq] at h2
       subst h2
       have hv:=zr1 (W:=W) (N:=N) he rfl rfl hsi.1 (by omega)
       have hwa : IntKind.i64.wrap (smN (N + 1) (W c) - W c c) = smN (N + 1) (W c) - W c c:=w64 (by omega) (by omega)
       have hwb : IntKind.u64.wrap (smN (N + 1) (W c) - W c c) = ((b0 W N root (cntS root c) (cntS root c) : Nat) : Int):=by rw [hv]; exact wu64 (by omega) (by omega)
       refine zaC rfl ?_
       simp
       refine zal (hm c hc) (by simp) ?_
       simp [hwa,hwb,zbE]
       refine ⟨by omega,by omega,?_⟩
       refine Le.famX (m:=4564) false ⟨by omega,.inr (by omega)⟩ (by omega) (fun k _=>zbN _ _ k) (fun k hk=>hfam hk (by simp only; omega) (by simp only; omega) (by simp only; omega) (by simp only; omega)) (by simp [zgu]) (.inr (.inr ⟨rfl,_,zbN _ _ _,rfl,?_⟩)) (by simp [Up,famG,lkp,hcs])
       rw [zeC,if_pos rfl,hcs,zkL,List.take_of_length_le (by rw [zbE]; exact Nat.le_refl _)]
      ·rw [decide_eq_false_iff_not] at h2
       have hv:=zs8 (W:=W) (N:=N) he h1 (fun e=>h2 e.symm) rfl hWic.1 hWic.2
       have hwa : IntKind.u64.wrap (W i c) = W i c:=wu64 (by omega) (by omega)
       have hwb : IntKind.u64.wrap (2305843009213693951 - W i c) = 2305843009213693951 - W i c:=wu64 (by omega) (by omega)
       have hwc : (2305843009213693951 - W i c).tmod 2305843009213693951 = ((b0 W N root (cntS root i) (cntS root c) : Nat) : Int):=by rw [hv,Int.tmod_eq_emod_of_nonneg (by omega)]
       refine zaC rfl ?_
       simp [hwa,hwb,hwc,zbE]
       refine ⟨by omega,by omega,?_⟩
       refine Le.famX (m:=4548) false ⟨by omega,.inr (by omega)⟩ (by omega) (fun k _=>zbN _ _ k) (fun k hk=>hfam hk (by simp only; omega) (by simp only; omega) (by simp only; omega) (by simp only; omega)) (by simp [zgu]) (.inr (.inr ⟨rfl,_,zbN _ _ _,rfl,?_⟩)) (by simp [Up,famG,lkp,hcs])
       rw [zeC,if_pos rfl,hcs,zkL,List.take_of_length_le (by rw [zbE]; exact Nat.le_refl _)]
     refine zac (s:=?z59) rfl ?o59 ?q59
     case o59=>simp [hw2]; rfl
     exact ⟨c + 1,by omega,by omega,Le.famX (m:=60) false ⟨by omega,.inl (by omega)⟩ (by omega) (fun k _=>zbN _ _ k) (fun k hk=>by rw [hpN (by omega),zdo hk]) (by simp [zgu]) (.inr (.inr ⟨rfl,_,zbN _ _ _,rfl,by rw [zeC,if_pos rfl]⟩)) (by simp [Up,famG,lkp])⟩
    rw [decide_eq_false_iff_not] at hcc
    obtain rfl : c = N + 1:=by omega
    refine zak ?_
    refine hit ?_
    refine zaC rfl ?_
    simp [zgu,znk]
    refine ⟨by omega,by omega,?_⟩
    rw [hms]
    refine Le.famNew (m:=60) (x:=4124) (E:=uRow (b0 W N root) N) (R:=uRow (b0 W N root) (cntS root (N + 1)) (cntS root i)) (by omega) (.inl (by omega)) (by omega) (by omega) (fun k _=>zbN _ _ k) (zbN _ _ _) (fun _ _=>rfl) (by rw [zhh hr]) (fun k hk=>?_) ?_ ?_ ?_
    ·rw [hpN (by omega),hpN (by omega),hpN (by omega),hpN (by omega),zdo hk]
    ·rw [hpN (by omega),hpN (by omega),hpN (by omega),zeC,if_pos rfl]
    ·rw [zeC,if_pos rfl,zbE,List.take_of_length_le (by rw [znk]; exact Nat.le_refl _)]
    ·simp [famN,lkp]
   have hcb : cntS root (i + 1) ≤ i + 1:=by unfold cntS; split <;> omega
   refine zac (s:=?z64) rfl ?o64 ?q64
   case o64=>simp [hw1]; rfl
   exact ⟨i + 1,by omega,by omega,Le.famK (by omega) (fun k _=>zbN _ _ k) (by simp [Up,famG,lkp])⟩
  ·rw [decide_eq_false_iff_not] at hc
   obtain rfl : i = N + 1:=by omega
   refine zak ?_
   refine hit ?_
   refine ⟨(),trivial,?_⟩
   rw [zhh hr]
   exact Le.slot (by omega) (by simp)
 refine zab ⟨139,[(5,.rs 50 0 N),(11,U 1)],za0 1 N (uRow (b0 W N root) N),9100⟩ rfl ?_ ?_
 ·simp
  exact Le.slot (by omega) (by simp)
 refine zaa ?_
 refine zab ⟨139,[(5,.rs 50 0 N),(11,U 1),(66,.I N),(67,.I 0)],za0 1 N (uRow (b0 W N root) N),9200⟩ rfl ?_ ?_
 ·simp
  exact Le.slot (by omega) (by simp)
 refine zaf ?_
 refine zan (ι:=Nat × Nat × (Nat → Nat → Nat)) (fun x=>⟨139,[(5,.rs 50 0 N),(11,U (x.2.1 : Int)),(66,.I N),(67,.I x.1)],za0 1 N (uRow x.2.2 N),10000⟩) (fun x=>zh9 (redM W N root) N x.1 x.2.1 x.2.2) (fun x=>N - x.1) (0,1,b0 W N root) (zh9.start W N root) (Le.slot (by omega) (by simp)) ?_
 rintro ⟨k,o,B⟩ hE
 simp only at hE
 refine zab ⟨139,[(5,.rs 50 0 N),(11,U o),(66,.I N),(67,.I k),(68,.B (decide (k < N)))],za0 1 N (uRow B N),10100⟩ rfl ?_ ?_
 ·simp
  exact Le.slot (by omega) (by simp [beqN] <;> omega)
 refine zaa ?_
 refine zad _ rfl (fun hk=>?_) fun hk=>?_
 ·rw [decide_eq_true_eq] at hk
  have hw1 : IntKind.i64.wrap ((k : Int) + 1) = (k : Int) + 1:=w64 (by omega) (by omega)
  have hpiv:=hE.piv hA hk (hp (k + 1) hk)
  have hlt:=hE.lt
  have holt:=hE.olt
  have hP : (2305843009213693951 : Nat) = P61:=rfl
  obtain ⟨inv,hinv⟩ : ∃ z,z = B k k ^ (P61 - 2) % P61:=⟨_,rfl⟩
  have hic:=znI (B k k) (hlt k k)
  rw [← hinv] at hic
  have hinvl : inv < 2305843009213693951:=by rw [hinv]; exact Nat.mod_lt _ (by decide)
  have hone : B k k * inv % 2305843009213693951 = 1:=by
   have h1:=zuc hpiv (hlt k k)
   rw [hinv,hP,Nat.mul_mod_mod]
   exact h1
  have hnx:=hE.next hk hone
  have htc:=zhb o (B k k) holt (hlt k k)
  rw [← hP] at htc
  obtain ⟨o2,ho2⟩ : ∃ z,z = o * B k k % 2305843009213693951:=⟨_,rfl⟩
  rw [← ho2] at htc hnx
  refine zae ?_
  refine zat (ι:=Unit) (fun _=>⟨139,[(5,.rs 50 0 N),(11,U o2),(66,.I N),(67,.I k)],za0 1 N (uRow (newB 2305843009213693951 k inv B) N),18000⟩) (fun _=>True) ?_ fun _ _=>?_
  ·refine zaf ?_
   refine zab ⟨139,[(5,.rs 50 0 N),(11,U o),(12,.I k),(66,.I N),(67,.I k)],za0 1 N (uRow B N),10200⟩ rfl ?_ ?_
   ·simp
    exact Le.slot (by omega) (by simp)
   refine zab ⟨139,[(5,.rs 50 0 N),(11,U o2),(12,.I k),(66,.I N),(67,.I k)],za0 1 N (uRow B N),10400⟩ rfl ?_ ?_
   ·simp [zgu,zdo hk,zec hk,famV,zbE,zhx,zd4 hk,hk]
    refine zal htc (by simp) ?_
    simp
    exact Le.slot (by omega) (by simp)
   refine zab ⟨139,[(5,.rs 50 0 N),(11,U o2),(12,.I k),(13,U inv),(66,.I N),(67,.I k)],za0 1 N (uRow B N),10600⟩ rfl ?_ ?_
   ·simp [zgu,zdo hk,zec hk,famV,zbE,zhx,zd4 hk,hk]
    refine zal hic (by simp) ?_
    simp
    exact Le.slot (by omega) (by simp)
   refine zab ⟨139,[(5,.rs 50 0 N),(11,U o2),(12,.I k),(13,U inv),(14,.I (k + 1 : Nat)),(66,.I N),(67,.I k)],za0 1 N (uRow B N),10700⟩ rfl ?_ ?_
   ·simp [hw1]
    exact Le.slot (by omega) (by simp)
   refine zaf ?_
   refine zan (ι:=Nat) (fun i=>⟨139,[(5,.rs 50 0 N),(11,U o2),(12,.I k),(13,U inv),(14,.I i),(66,.I N),(67,.I k)],za0 1 N (uRow (midB 2305843009213693951 k inv B i k) N),11000⟩) (fun i=>k < i ∧ i ≤ N) (fun i=>N - i) (k + 1) ⟨by omega,by omega⟩ (by rw [zpa]; exact Le.slot (by omega) (by simp)) ?_
   rintro i ⟨hki,hiN⟩
   refine zaa ?_
   refine zab ⟨139,[(5,.rs 50 0 N),(11,U o2),(12,.I k),(13,U inv),(14,.I i),(66,.I N),(67,.I k),(92,.B (decide (i < N)))],za0 1 N (uRow (midB 2305843009213693951 k inv B i k) N),11100⟩ rfl ?_ ?_
   ·simp
    exact Le.slot (by omega) (by simp [beqN] <;> omega)
   refine zad _ rfl (fun hi=>?_) fun hi=>?_
   ·rw [decide_eq_true_eq] at hi
    have hw2 : IntKind.i64.wrap ((i : Int) + 1) = (i : Int) + 1:=w64 (by omega) (by omega)
    have hsc:=zhb (B i k) inv (hlt i k) hinvl
    rw [← hP] at hsc
    have hshl : B i k * inv % 2305843009213693951 < 2305843009213693951:=Nat.mod_lt _ (by decide)
    obtain ⟨sh,hsh⟩ : ∃ z,z = B i k * inv % 2305843009213693951:=⟨_,rfl⟩
    rw [← hsh] at hsc hshl
    refine zae ?_
    refine zat (ι:=Unit) (fun _=>⟨139,[(5,.rs 50 0 N),(11,U o2),(12,.I k),(13,U inv),(14,.I i),(66,.I N),(67,.I k)],za0 1 N (uRow (midB 2305843009213693951 k inv B i N) N),16000⟩) (fun _=>True) ?_ fun _ _=>?_
    ·refine zaf ?_
     refine zab ⟨139,[(5,.rs 50 0 N),(11,U o2),(12,.I k),(13,U inv),(14,.I i),(15,U sh),(66,.I N),(67,.I k)],za0 1 N (uRow (midB 2305843009213693951 k inv B i k) N),11400⟩ rfl ?_ ?_
     ·simp [zgu,zdo hi,zec hi,famV,zbE,zhx,zd4 hk,hi,hk,zsF hki]
      refine zal hsc (by simp) ?_
      simp
      exact Le.slot (by omega) (by simp)
     refine zab ⟨139,[(5,.rs 50 0 N),(11,U o2),(12,.I k),(13,U inv),(14,.I i),(15,U sh),(16,.I k),(66,.I N),(67,.I k)],za0 1 N (uRow (midB 2305843009213693951 k inv B i k) N),11500⟩ rfl ?_ ?_
     ·simp
      exact Le.slot (by omega) (by simp)
     refine zaf ?_
     refine zan (ι:=Nat) (fun j=>⟨139,[(5,.rs 50 0 N),(11,U o2),(12,.I k),(13,U inv),(14,.I i),(15,U sh),(16,.I j),(66,.I N),(67,.I k)],za0 1 N (uRow (midB 2305843009213693951 k inv B i j) N),12000⟩) (fun j=>k ≤ j ∧ j ≤ N) (fun j=>N - j) k ⟨by omega,by omega⟩ (Le.slot (by omega) (by simp)) ?_
     rintro j ⟨hkj,hjN⟩
     refine zaa ?_
     refine zab ⟨139,[(5,.rs 50 0 N),(11,U o2),(12,.I k),(13,U inv),(14,.I i),(15,U sh),(16,.I j),(66,.I N),(67,.I k),(108,.B (decide (j < N)))],za0 1 N (uRow (midB 2305843009213693951 k inv B i j) N),12100⟩ rfl ?_ ?_
     ·simp
      exact Le.slot (by omega) (by simp [beqN] <;> omega)
     refine zad _ rfl (fun hj=>?_) fun hj=>?_
     ·rw [decide_eq_true_eq] at hj
      have hw3 : IntKind.i64.wrap ((j : Int) + 1) = (j : Int) + 1:=w64 (by omega) (by omega)
      have htt:=zhb sh (B k j) hshl (hlt k j)
      rw [← hP] at htt
      have htl : sh * B k j % 2305843009213693951 < 2305843009213693951:=Nat.mod_lt _ (by decide)
      have hval:=zqd (hlt i j) htl
      have hset : ∀ c,c < N → midB 2305843009213693951 k inv B i (j + 1) i c = if c = j then (B i j + 2305843009213693951 - sh * B k j % 2305843009213693951) % 2305843009213693951 else midB 2305843009213693951 k inv B i j i c:=fun c _=>by rw [hsh]; exact zqT hki hkj
      have hrow:=zqK (M:=N) hset
      obtain ⟨tt,htd⟩ : ∃ z,z = sh * B k j % 2305843009213693951:=⟨_,rfl⟩
      rw [← htd] at htt hval hrow
      obtain ⟨vv,hvd⟩ : ∃ z,z = (B i j + 2305843009213693951 - tt) % 2305843009213693951:=⟨_,rfl⟩
      rw [← hvd] at hval hrow
      have hcu:=zsz (P:=2305843009213693951) (inv:=inv) (B:=B) hki hkj
      have hlow : midB 2305843009213693951 k inv B i j k j = B k j:=zsb (Nat.le_refl k)
      refine zae ?_
      refine zat (ι:=Unit) (fun _=>⟨139,[(5,.rs 50 0 N),(11,U o2),(12,.I k),(13,U inv),(14,.I i),(15,U sh),(16,.I j),(66,.I N),(67,.I k)],za0 1 N (uRow (midB 2305843009213693951 k inv B i (j + 1)) N),14000⟩) (fun _=>True) ?_ fun _ _=>?_
      ·refine zaf ?_
       refine zcj rfl ?_
       simp [zgu,zdo hi,zdo hk,zec hi,zec hk,famV,zbE,zhx,zd4 hj,hi,hk,hj,hcu,hlow]
       refine zal htt (by simp) ?_
       simp [hval,zgu,zdo hi,zdo hk,zec hi,zec hk,famV,zbE,zhx,zd4 hj,hi,hk,hj,hcu,hlow,hrow]
       refine ⟨rfl,?_⟩
       refine Le.famSet (a:=i) (by omega) (fun a _ ha=>?_) (by rw [zbE,zbE]) (by simp)
       exact zf7 fun c _=>zpt ha
      refine zac (s:=?z109) rfl ?o109 ?q109
      case o109=>simp [hw3]; rfl
      exact ⟨j + 1,⟨by omega,by omega⟩,by omega,Le.famK (by omega) (fun k _=>zbN _ _ k) (by simp [Up,famG,lkp])⟩
     ·rw [decide_eq_false_iff_not] at hj
      obtain rfl : j = N:=by omega
      refine zak ?_
      refine hit ?_
      exact ⟨(),trivial,Le.slot (by omega) (by simp)⟩
    refine zac (s:=?z93) rfl ?o93 ?q93
    case o93=>simp [hw2]; rfl
    have hE2 : uRow (midB 2305843009213693951 k inv B i N) N = uRow (midB 2305843009213693951 k inv B (i + 1) k) N:=by
     funext a
     exact zf7 fun c hc=>zqM hc
    refine ⟨i + 1,⟨by omega,by omega⟩,by omega,?_⟩
    rw [hE2]
    exact Le.famK (by omega) (fun k _=>zbN _ _ k) (by simp [Up,famG,lkp])
   ·rw [decide_eq_false_iff_not] at hi
    obtain rfl : i = N:=by omega
    refine zak ?_
    refine hit ?_
    refine ⟨(),trivial,?_⟩
    rw [zlK (E:=uRow (newB 2305843009213693951 k inv B) i) (E':=uRow (midB 2305843009213693951 k inv B i k) i) fun a ha=>zf7 fun c _=>(zr7 ha).symm]
    exact Le.slot (by omega) (by simp)
  refine zac (s:=?z136) rfl ?o136 ?q136
  case o136=>simp [hw1]; rfl
  exact ⟨(k + 1,o2,newB 2305843009213693951 k inv B),hnx,by simp only; omega,Le.famK (by omega) (fun k _=>zbN _ _ k) (by simp [Up,famG,lkp])⟩
 ·rw [decide_eq_false_iff_not] at hk
  have hkN : k = N:=by have:=hE.le; omega
  subst hkN
  have hdone:=hE.done hA (hp k (Nat.le_refl k))
  have ho:=hE.olt
  refine zak ?_
  refine hit ?_
  have hw : IntKind.i64.wrap (o : Int) = zfv W k root:=by
   rw [w64 (by omega) (by omega),hdone]
   rfl
  refine zab ⟨139,[(4,.I (zfv W k root))],[],20000⟩ rfl ?_ ?_
  ·simp [hw]
   exact Le.keepF rfl (by simp) (by simp) (fun j e h=>by simp at h)
  refine zag ?_
  exact ⟨.inr rfl,zam.one (by simp)⟩
end
theorem zhS : ∀ (l : List Nat) (x : Nat),gcdL (l ++ [x]) = Nat.gcd (gcdL l) x
 | [],x=>by simp [gcdL]
 | y :: l,x=>by
   simp only [List.cons_append,gcdL]
   rw [zhS l x,Nat.gcd_assoc]
def zfl (G : Gr) (S : List Int) (r : Int) : List Int × Int:=if zap G S = [] then ([],11) else if 9 < (zap G S).length then ([],3) else (outK G S r,0)
def oA (G : Gr) (S : List Int) (r : Int) (i : Nat) : List Int:=(List.range G.size.toNat).map fun (k : Nat)=>if (k : Int) ∈ (zap G S).take i then ((rawK G S r ((zap G S).idxOf (k : Int)) : Nat) : Int) else 0
def oB (G : Gr) (S : List Int) (r : Int) (j : Nat) : List Int:=(List.range G.size.toNat).map fun (k : Nat)=>if (k : Int) ∈ zap G S then (if (k : Int) ∈ (zap G S).take j then ((rawK G S r ((zap G S).idxOf (k : Int)) / gcdL (zgY G S r) : Nat) : Int) else ((rawK G S r ((zap G S).idxOf (k : Int)) : Nat) : Int)) else 0
section
variable {G : Gr} {S : List Int} {r : Int}
theorem zrN (i : Nat) : (oA G S r i).length = G.size.toNat:=by simp [oA]
theorem zrA (i : Nat) : (oB G S r i).length = G.size.toNat:=by simp [oB]
theorem zoo : zah (oA G S r 0) = List.replicate G.size.toNat [AV.I 0]:=by simp [oA,fcd,List.map_const']
theorem zrP : oA G S r (zap G S).length = oB G S r 0:=by
 unfold oA oB
 refine List.map_congr_left fun k _=>?_
 rw [List.take_length]
 simp
theorem zrB : oB G S r (zap G S).length = outK G S r:=by
 unfold oB outK
 refine List.map_congr_left fun k _=>?_
 rw [List.take_length]
 by_cases h : (k : Int) ∈ zap G S
 ·rw [if_pos h,if_pos h,if_pos h]
 ·rw [if_neg h,if_neg h]
theorem zhC {K : List Int} (hn : K.Nodup) {i y : Nat} (hi : i < K.length) (hy : K[i] = (y : Int)) (k : Nat) : (k : Int) ∈ K.take (i + 1) ↔ (k : Int) ∈ K.take i ∨ k = y:=by
 rw [List.take_succ_eq_append_getElem hi,List.mem_append,List.mem_singleton,hy]
 constructor
 ·rintro (h | h)
  ·exact .inl h
  ·exact .inr (by omega)
 ·rintro (h | h)
  ·exact .inl h
  ·exact .inr (by omega)
theorem zq9 {K : List Int} (hn : K.Nodup) {i : Nat} (hi : i < K.length) : K[i] ∉ K.take i:=fun h=>by
 obtain ⟨j,hj,e⟩:=List.mem_iff_getElem.1 h
 simp at hj
 rw [List.getElem_take] at e
 have:=(List.getElem_inj hn).1 e
 omega
theorem zrz {i y : Nat} (hi : i < (zap G S).length) (hy : (zap G S)[i] = (y : Int)) : (zah (oA G S r i)).set y [AV.I ((rawK G S r i : Nat) : Int)] = zah (oA G S r (i + 1)):=by
 rw [zcZ]
 congr 1
 unfold oA
 rw [zh0]
 refine List.map_congr_left fun k _=>?_
 have h:=zhC za4 hi hy k
 by_cases hk : k = y
 ·subst hk
  rw [if_pos rfl,if_pos (h.2 (.inr rfl)),← hy,za4.idxOf_getElem i hi]
 ·rw [if_neg hk]
  by_cases h1 : (k : Int) ∈ (zap G S).take i
  ·rw [if_pos h1,if_pos (h.2 (.inl h1))]
  ·rw [if_neg h1,if_neg fun q=>by rcases h.1 q with q | q; exact h1 q; exact hk q]
theorem zrQ {i y : Nat} (hi : i < (zap G S).length) (hy : (zap G S)[i] = (y : Int)) (hyl : y < G.size.toNat) : (oA G S r (i + 1))[y]? = some ((rawK G S r i : Nat) : Int):=by
 unfold oA
 rw [List.getElem?_map,List.getElem?_range hyl,Option.map_some,if_pos ((zhC za4 hi hy y).2 (.inr rfl)),← hy,za4.idxOf_getElem i hi]
theorem zrM {i y : Nat} (hi : i < (zap G S).length) (hy : (zap G S)[i] = (y : Int)) (hyl : y < G.size.toNat) : (oB G S r i)[y]? = some ((rawK G S r i : Nat) : Int):=by
 unfold oB
 have h1 : (y : Int) ∈ zap G S:=by rw [← hy]; exact List.getElem_mem hi
 have h2 : ¬ (y : Int) ∈ (zap G S).take i:=by rw [← hy]; exact zq9 za4 hi
 rw [List.getElem?_map,List.getElem?_range hyl,Option.map_some,if_pos h1,if_neg h2,← hy,za4.idxOf_getElem i hi]
theorem zrO {i y : Nat} (hi : i < (zap G S).length) (hy : (zap G S)[i] = (y : Int)) : (zah (oB G S r i)).set y [AV.I ((rawK G S r i / gcdL (zgY G S r) : Nat) : Int)] = zah (oB G S r (i + 1)):=by
 rw [zcZ]
 congr 1
 unfold oB
 rw [zh0]
 refine List.map_congr_left fun k _=>?_
 have h:=zhC za4 hi hy k
 by_cases hk : k = y
 ·subst hk
  have h1 : (k : Int) ∈ zap G S:=by rw [← hy]; exact List.getElem_mem hi
  rw [if_pos rfl,if_pos h1,if_pos (h.2 (.inr rfl)),← hy,za4.idxOf_getElem i hi]
 ·rw [if_neg hk]
  by_cases h1 : (k : Int) ∈ (zap G S).take i
  ·rw [if_pos h1,if_pos (h.2 (.inl h1))]
  ·have h2 : ¬ (k : Int) ∈ (zap G S).take (i + 1):=fun q=>by rcases h.1 q with q | q; exact h1 q; exact hk q
   rw [if_neg h1,if_neg h2]
theorem zeI {i : Nat} (h : i < (zap G S).length) : (zbG G S r)[i]? = some (zaW G S r (zbI G S i)):=by
 unfold zbG
 rw [List.getElem?_map,List.getElem?_eq_getElem h,zfQ h]
 rfl
theorem zkw {i N : Nat} (hN : (zap G S).length = N + 1) : rowW (zfi G S r) N i = zaW G S r (zbI G S i):=by
 unfold rowW zaW zfi znZ
 rw [← hN]
 exact zl0 (zap G S) fun y=>wayW G S r (zbI G S i) y
theorem zno (hg : GrOk G) (hr : 1 ≤ r) (hr5 : r ≤ 5) (hS : ∀ s ∈ S,Key G s) (h9 : (zap G S).length ≤ 9) (h0 : 0 < (zap G S).length) : 0 < gcdL (zgY G S r) :=
 zqZ ⟨_,List.mem_map.2 ⟨0,List.mem_range.2 h0,rfl⟩,(zml hg hr hr5 hS h9 h0).2.1⟩
end
section
variable (G : Gr) (S : List Int) (r : Int) (hg : GrOk G) (hr : 1 ≤ r) (hr5 : r ≤ 5) (hS : ∀ s ∈ S,Key G s)
include hg hr hr5
theorem zh8 {i : Nat} (h : i < (zap G S).length) : zaj Tryz.prog zaF [eWk (zap G S) (zbG G S r),.I i] [] (.I (zdd G S r (zbI G S i))) []:=by
 refine zsC _ _ _ _ (zeI h) (fun x hx=>?_) ?_
 ·obtain ⟨y,_,rfl⟩:=List.mem_map.1 hx
  exact zdE hg hr hr5 _ y
 ·have:=zdb (g:=G) (S:=S)
  have:=hg.1.2.1
  simp [zaW]
  omega
include hS
theorem zpX (h9 : (zap G S).length ≤ 9) {i : Nat} (h : i < (zap G S).length) : zaj Tryz.prog za5 [eWk (zap G S) (zbG G S r),.I i] [] (.I (zg1 G S r i)) []:=by
 obtain ⟨N,hN⟩ : ∃ N,(zap G S).length = N + 1:=⟨(zap G S).length - 1,by omega⟩
 have hw:=zsg hg hr hS h
 have hms : ∀ j,smN (N + 1) (zfi G S r j) = zdd G S r (zbI G S j):=fun j=>by rw [← hN]; exact zje
 have hW : ∀ i j,0 ≤ zfi G S r i j ∧ zfi G S r i j ≤ 8:=fun i j=>zdE hg hr hr5 _ _
 have hN1 : (zap G S).length - 1 = N:=by omega
 unfold zg1
 rw [hN1] at hw ⊢
 refine zqv (zap G S) (zbG G S r) (zfi G S r) N i (by simp [zbG,hN]) (by omega) (by omega) (fun j hj=>?_) hW (fun j hj=>?_) (fun j hj=>?_) (znf hw) (fun k hk=>?_)
 ·rw [zeI (by omega),zkw hN]
 ·rw [hms]
  exact zh8 G S r hg hr hr5 (by omega)
 ·rw [hms]
  have h1:=zfz hg hr hr5 (S:=S) (zbI G S j)
  have h2 : zfi G S r j j ≤ zdd G S r (zbI G S j):=zlm (fun v hv=>by
   obtain ⟨y,_,rfl⟩:=List.mem_map.1 hv
   exact (zdE hg hr hr5 _ y).1) (List.mem_map.2 ⟨zbI G S j,zhU (by omega),rfl⟩)
  omega
 ·have:=ztq hg hr hr5 hS h9 (i:=i) (k:=k) (by omega) (by omega)
  rw [hN1] at this
  exact this
end
section
variable {used n c : Nat}
theorem zqk (hc : c ≤ n) : unL used n = unL used c ++ unG used n c:=by
 unfold unL unG
 rw [← List.filter_append]
 congr 1
 have e : List.range' 0 c ++ List.range' (0 + c) (n - c) = List.range' 0 (c + (n - c)):=List.range'_append_1
 rw [Nat.zero_add,show c + (n - c) = n by omega] at e
 rw [List.range_eq_range',List.range_eq_range',e]
theorem ztH (hc : c < n) (h : free used c = true) : (unL (used ||| 2 ^ c) n).length + 1 = (unL used n).length:=by
 rw [zrG hc h,zqk (Nat.le_of_lt hc),zmK hc h]
 simp
 omega
theorem zmX : free used c = true ↔ ¬ used / 2 ^ c % 2 = 1:=by
 unfold free
 rw [Nat.testBit_eq_decide_div_mod_eq]
 simp
end
abbrev W64 (x : Int) : Int:=IntKind.i64.wrap x
theorem w_at (x : Int) : ∃ k,W64 x = x + 18446744073709551616 * k:=⟨((x + 9223372036854775808) % 18446744073709551616 - 9223372036854775808 - x) / 18446744073709551616,by unfold W64; rw [IntKind.wrap_i64]; omega⟩
theorem zrR {x y : Int} (k : Int) (h : x = y + 18446744073709551616 * k) : W64 x = W64 y:=by
 unfold W64
 rw [IntKind.wrap_i64,IntKind.wrap_i64]
 omega
theorem zs7 (a b : Int) : W64 (a * W64 b) = W64 (a * b):=by
 obtain ⟨k,hk⟩:=w_at b
 rw [hk]
 exact zrR (a * k) (by grind)
theorem zs2 (a b : Int) : W64 (W64 a * b) = W64 (a * b):=by
 rw [Int.mul_comm,zs7,Int.mul_comm]
theorem zud (a b : Int) : W64 (W64 a + W64 b) = W64 (a + b):=by
 obtain ⟨k,hk⟩:=w_at a
 obtain ⟨l,hl⟩:=w_at b
 rw [hk,hl]
 exact zrR (k + l) (by grind)
theorem bofi (a : Nat) (h : a < 9223372036854775808) : (BitVec.ofInt 64 (a : Int)).toNat = a:=bofn a (by omega)
theorem ishr (a s : Nat) (hs : s ≤ 64) : binV .shr (.int .i64 (a : Int)) (.int .u64 (s : Int)) = some (.int .i64 ((a / 2 ^ s : Nat) : Int)):=by
 show (if (0 : Int) ≤ s then some (Value.int .i64 ((a : Int).fdiv (2 ^ (min (s : Int).toNat 64)))) else none) = _
 rw [if_pos (by omega)]
 have : min (s : Int).toNat 64 = s:=by omega
 have h0 : (0 : Int) ≤ 2 ^ s:=by have:=Int.pow_pos (n:=2) (m:=s) (by omega); omega
 rw [this,Int.fdiv_eq_ediv_of_nonneg _ h0]
 congr 2
theorem zuf (a : Nat) (h : a < 9223372036854775808) : binV .and (.int .i64 (a : Int)) (.int .i64 1) = some (.int .i64 ((a % 2 : Nat) : Int)):=by
 have h2 : (BitVec.ofInt 64 (1 : Int)).toNat = 2 ^ 1 - 1:=rfl
 show some (Value.int .i64 (IntKind.i64.wrap ((BitVec.ofInt 64 (a : Int) &&& BitVec.ofInt 64 1).toNat : Int))) = _
 rw [BitVec.toNat_and,bofi a h,h2,Nat.and_two_pow_sub_one_eq_mod,w64 (by omega) (by omega)]
theorem ior (a b : Nat) (ha : a < 9223372036854775808) (hb : b < 9223372036854775808) (h : a ||| b < 9223372036854775808) : binV .or (.int .i64 (a : Int)) (.int .i64 (b : Int)) = some (.int .i64 ((a ||| b : Nat) : Int)):=by
 show some (Value.int .i64 (IntKind.i64.wrap ((BitVec.ofInt 64 (a : Int) ||| BitVec.ofInt 64 (b : Int)).toNat : Int))) = _
 rw [BitVec.toNat_or,bofi a ha,bofi b hb]
 obtain ⟨z,hz⟩ : ∃ z,z = a ||| b:=⟨_,rfl⟩
 rw [← hz] at h ⊢
 rw [w64 (by omega) (by omega)]
theorem ztx (c : Nat) (hc : c ≤ 20) : binV .shl (.int .i64 1) (.int .u64 (c : Int)) = some (.int .i64 ((2 ^ c : Nat) : Int)):=by
 show (if (0 : Int) ≤ c then some (Value.int .i64 (IntKind.i64.wrap ((1 : Int) * 2 ^ (min (c : Int).toNat 64)))) else none) = _
 rw [if_pos (by omega)]
 have : min (c : Int).toNat 64 = c:=by omega
 have h1 : (2 : Nat) ^ c ≤ 2 ^ 20:=Nat.pow_le_pow_right (by omega) hc
 have h2 : ((2 : Int) ^ c) = ((2 ^ c : Nat) : Int):=by simp
 rw [this,Int.one_mul,h2]
 obtain ⟨z,hz⟩ : ∃ z : Nat,z = 2 ^ c:=⟨_,rfl⟩
 rw [← hz] at h1 ⊢
 rw [w64 (by omega) (by have : (2 : Nat) ^ 20 = 1048576:=rfl; omega)]
abbrev zcS (l : List Bool) : List (List AV):=l.map fun b=>[AV.B b]
structure zeU (A : Mat) (n : Nat) (kn : List Int) (sn : List Bool) : Prop where
 kl : kn.length = 2 ^ n
 sl : sn.length = 2 ^ n
 ok : ∀ (u : Nat) (h : u < sn.length) (h2 : u < kn.length),sn[u] = true → kn[u] = W64 (detU A n (n - (unL u n).length) u)
theorem zeU.put {A : Mat} {n used : Nat} {kn : List Int} {sn : List Bool} (h : zeU A n kn sn) {row : Nat} (hr : row = n - (unL used n).length) : zeU A n (kn.set used (W64 (detU A n row used))) (sn.set used true):=by
 refine ⟨by rw [List.length_set,h.kl],by rw [List.length_set,h.sl],fun u h1 h2 hs=>?_⟩
 rw [List.length_set] at h1 h2
 rw [List.getElem_set] at hs ⊢
 by_cases hu : used = u
 ·subst hu
  rw [if_pos rfl,hr]
 ·rw [if_neg hu] at hs ⊢
  exact h.ok u h1 h2 hs
structure zq6 where
 c : Nat
 kn : List Int
 sn : List Bool
section
variable (A : Mat) (M : List (List Int)) (n : Nat) (hn : n ≤ 8) (hM : M.length = n) (hA : ∀ i,i < n → M[i]? = some ((List.range n).map fun j=>A i j))
include hn hM hA
set_option maxRecDepth 100000 in
set_option maxHeartbeats 8000000 in
theorem ztm : ∀ (k row used : Nat) (kn : List Int) (sn : List Bool),row + k = n → (unL used n).length = k → used < 2 ^ n → zeU A n kn sn →
  ∃ x : List Int × List Bool,zeU A n x.1 x.2 ∧ zaj Tryz.prog zbd [zaB M,.I row,.I used,.rs 0 0 (2 ^ n),.rs 1 0 (2 ^ n)] [⟨1,zah kn,0⟩,⟨1,zcS sn,0⟩] (.I (W64 (detU A n row used))) [some ⟨1,zah x.1,0⟩,some ⟨1,zcS x.2,0⟩]:=by
 intro k
 have h256 : 2 ^ n ≤ 256:=Nat.pow_le_pow_right (n:=2) (by omega) hn
 obtain ⟨Z,hZ⟩ : ∃ Z,Z = 2 ^ n:=⟨_,rfl⟩
 rw [← hZ] at h256
 induction k with
 | zero =>
   intro row used kn sn hrow hlen hu hmemo
   obtain rfl : row = n:=by omega
   refine ⟨(kn,sn),hmemo,?_⟩
   rw [zqu,← hZ]
   refine zdl.acalls (nbz rfl) (nbz rfl) (Nat.le_refl _) ?_
   show awp _ 2 _ _ ⟨79,[(0,zaB M),(1,.I row),(2,.I used),(3,.rs 0 0 Z),(4,.rs 1 0 Z)],[(0,some ⟨1,zah kn,0⟩),(1,some ⟨1,zcS sn,0⟩)],16⟩
   refine rx (s:=?z1) [0,1] [0,1] [] rfl ?p1 ?r1
   case p1=>simp [fcd]; rfl
   refine zaa ?_
   refine rx (s:=?z2) [17] [0,1] [] rfl ?p2 ?r2
   case p2=>simp [hM,fcd]; rfl
   refine zad _ rfl (fun _=>?_) fun h=>by simp at h
   refine rx (s:=?z3) [10] [0,1] [] rfl ?p3 ?r3
   case p3=>simp [fcd]; rfl
   refine zag ?_
   exact ⟨.inr rfl,zam.k2 rfl (by simp; exact .refl _) (by simp [fcd]) (by simp [fcd])⟩
 | succ k ih =>
   intro row used kn sn hrow hlen hu hmemo
   rw [← hZ] at hu
   have hrn : row < n:=by omega
   have hkl:=hmemo.kl
   have hsl:=hmemo.sl
   rw [← hZ] at hkl hsl
   have hMr : row < M.length:=by omega
   have hMe : M[row] = (List.range n).map fun j=>A row j:=by
    have:=hA row hrn
    rw [List.getElem?_eq_getElem hMr] at this
    exact Option.some.inj this
   have hR : ∀ c (h : c < (M[row]).length),(M[row])[c] = A row c:=fun c h=>by simp [hMe]
   have hRl : (M[row]).length = n:=by rw [hMe]; simp
   obtain ⟨Rw,hRw⟩ : ∃ Rw,Rw = M[row]:=⟨_,rfl⟩
   simp only [← hRw] at hR hRl
   have hrowE : row = n - (unL used n).length:=by omega
   refine zdl.acallsX (args:=[zaB M,.I row,.I used,.rs 0 0 (2 ^ n),.rs 1 0 (2 ^ n)]) (hs:=[⟨1,zah kn,0⟩,⟨1,zcS sn,0⟩]) (fun _=>.I (W64 (detU A n row used))) (fun x=>[some ⟨1,zah x.1,0⟩,some ⟨1,zcS x.2,0⟩]) (fun x : List Int × List Bool=>zeU A n x.1 x.2) (nbz rfl) (nbz rfl) (fun _=>by simp) ?_
   show awp _ 2 _ _ ⟨79,[(0,zaB M),(1,.I row),(2,.I used),(3,.rs 0 0 (2 ^ n)),(4,.rs 1 0 (2 ^ n))],[(0,some ⟨1,zah kn,0⟩),(1,some ⟨1,zcS sn,0⟩)],16⟩
   rw [← hZ]
   refine rx (s:=?y1) [0,1,2,3,4] [0,1] [] rfl ?o1 ?q1
   case o1=>simp [fcd]; rfl
   refine zaa ?_
   refine zab ⟨79,[(0,zaB M),(1,.I row),(2,.I used),(3,.rs 0 0 Z),(4,.rs 1 0 Z),(17,.B false)],[(0,some ⟨1,zah kn,0⟩),(1,some ⟨1,zcS sn,0⟩)],200⟩ rfl ?_ ?_
   ·simp
    exact Le.go [(0,0),(1,1)] [] rfl rfl (by simp <;> exact wkB (by simp [hM]; omega)) (by simp [fcd])
   refine zad _ rfl (fun h=>by simp at h) fun _=>?_
   refine zae ?_
   refine zaa ?_
   have hus : used < sn.length:=by omega
   have huk : used < kn.length:=by omega
   refine rx (s:=?y3) [0,1,2,3,4,21] [0,1] [] rfl ?o3 ?q3
   case o3=>simp [hu,hus,hsl,fcd]; rfl
   refine zad _ rfl (fun hb=>?_) fun hb=>?_
   ·have hkv:=hmemo.ok used hus huk (by simpa using hb)
    rw [← hrowE] at hkv
    refine zab ⟨79,[(10,.I (W64 (detU A n row used)))],[(0,some ⟨1,zah kn,0⟩),(1,some ⟨1,zcS sn,0⟩)],400⟩ rfl ?_ ?_
    ·simp [hu,huk,hkl,hkv]
     exact LeI [(0,0),(1,1)] []
    refine zag ?_
    exact znu.mk (.inr rfl) (kn,sn) hmemo (zam.k2 rfl (by simp) (by simp [fcd]) (by simp [fcd]))
   refine zae ?_
   have hst0 : ∀ c,zeL A n row used c = zeL A n row used c:=fun _=>rfl
   refine zab ⟨79,[(0,zaB M),(1,.I row),(2,.I used),(3,.rs 0 0 Z),(4,.rs 1 0 Z),(11,.I 0),(12,.I 1)],[(0,some ⟨1,zah kn,0⟩),(1,some ⟨1,zcS sn,0⟩)],500⟩ rfl ?_ ?_
   ·simp
    exact LeI [(0,0),(1,1)] []
   refine zat (ι:=zq6) (fun x=>⟨79,[(2,.I used),(3,.rs 0 0 Z),(4,.rs 1 0 Z),(11,.I (W64 (detU A n row used)))],[(0,some ⟨1,zah x.kn,0⟩),(1,some ⟨1,zcS x.sn,0⟩)],9000⟩) (fun x=>zeU A n x.kn x.sn) ?_ fun x hx=>?_
   ·refine zab ⟨79,[(0,zaB M),(1,.I row),(2,.I used),(3,.rs 0 0 Z),(4,.rs 1 0 Z),(11,.I 0),(12,.I 1),(13,.I 0)],[(0,some ⟨1,zah kn,0⟩),(1,some ⟨1,zcS sn,0⟩)],600⟩ rfl ?_ ?_
    ·simp
     exact LeI [(0,0),(1,1)] []
    refine zaf ?_
    refine zan (ι:=zq6) (fun x=>⟨79,[(0,zaB M),(1,.I row),(2,.I used),(3,.rs 0 0 Z),(4,.rs 1 0 Z),(11,.I (W64 (detU A n row used - zeL A n row used x.c))),(12,.I (sg (unL used x.c).length)),(13,.I x.c)],[(0,some ⟨1,zah x.kn,0⟩),(1,some ⟨1,zcS x.sn,0⟩)],1000⟩) (fun x=>x.c ≤ n ∧ zeU A n x.kn x.sn) (fun x=>n - x.c) ⟨0,kn,sn⟩ ⟨Nat.zero_le _,hmemo⟩ (Le.go [(0,0),(1,1)] [] rfl rfl (by simp [zlI hrn,W64]; exact ⟨.refl _,.refl _⟩) (by simp [fcd])) ?_
    rintro ⟨c,kn,sn⟩ ⟨hc,hmemo⟩
    simp only at hc hmemo
    clear hkl hsl hus huk hb
    obtain ⟨sm,hsm⟩ : ∃ s,s = W64 (detU A n row used - zeL A n row used c):=⟨_,rfl⟩
    refine zaa ?_
    refine zab ⟨79,[(0,zaB M),(1,.I row),(2,.I used),(3,.rs 0 0 Z),(4,.rs 1 0 Z),(11,.I sm),(12,.I (sg (unL used c).length)),(13,.I c),(29,.B (decide (c < n)))],[(0,some ⟨1,zah kn,0⟩),(1,some ⟨1,zcS sn,0⟩)],1100⟩ rfl ?_ ?_
    ·simp [hM]
     exact Le.go [(0,0),(1,1)] [] rfl rfl (by simp [hsm]) (by simp [fcd])
    refine zad _ rfl (fun hcc=>?_) fun hcc=>?_
    ·rw [decide_eq_true_eq] at hcc
     have hwc : IntKind.i64.wrap ((c : Int) + 1) = (c : Int) + 1:=w64 (by omega) (by omega)
     have hwr : IntKind.i64.wrap ((row : Int) + 1) = ((row + 1 : Nat) : Int):=by rw [w64 (by omega) (by omega)]; omega
     have hcu : IntKind.u64.wrap (c : Int) = c:=wu64 (by omega) (by omega)
     have f1:=ishr used c (by omega)
     have f2:=zuf (used / 2 ^ c) (Nat.lt_of_le_of_lt (Nat.div_le_self _ _) (by omega))
     have f3 : ∀ k : Nat,binV .eql (.int .i64 (k : Int)) (.int .i64 1) = some (.bool (decide (k = 1))):=fun k=>by
      show some (Value.bool ((k : Int) == 1)) = _
      by_cases hk : k = 1
      ·subst hk; rfl
      ·have h2 : ¬ (k : Int) = 1:=by omega
       simp [hk,h2]
     refine zae ?_
     refine zat (ι:=zq6) (fun x=>⟨79,[(0,zaB M),(1,.I row),(2,.I used),(3,.rs 0 0 Z),(4,.rs 1 0 Z),(11,.I (W64 (detU A n row used - zeL A n row used (c + 1)))),(12,.I (sg (unL used (c + 1)).length)),(13,.I c)],[(0,some ⟨1,zah x.kn,0⟩),(1,some ⟨1,zcS x.sn,0⟩)],6000⟩) (fun x=>zeU A n x.kn x.sn) ?_ fun x hx=>?_
     ·refine zaf ?_
      refine zaa ?_
      refine zab ⟨79,[(0,zaB M),(1,.I row),(2,.I used),(3,.rs 0 0 Z),(4,.rs 1 0 Z),(11,.I sm),(12,.I (sg (unL used c).length)),(13,.I c),(37,.B (decide (used / 2 ^ c % 2 = 1)))],[(0,some ⟨1,zah kn,0⟩),(1,some ⟨1,zcS sn,0⟩)],1300⟩ rfl ?_ ?_
      ·simp [-binV,hcu,f1,f2,f3,-Int.natCast_ediv,-Int.natCast_emod]
       exact LeI [(0,0),(1,1)] []
      refine zad _ rfl (fun hb=>?_) fun hb=>?_
      ·rw [decide_eq_true_eq] at hb
       have hf : free used c = false:=by
        cases h : free used c
        ·rfl
        ·exact absurd hb (zmX.1 h)
       refine zak ?_
       refine hit ?_
       refine ⟨⟨c,kn,sn⟩,hmemo,?_⟩
       rw [← znx hcc hf,zni hf,← hsm]
       exact LeI [(0,0),(1,1)] []
      rw [decide_eq_false_iff_not] at hb
      have hf : free used c = true:=zmX.2 hb
      have hrf:=znQ (A:=A) (row:=row) hcc hf
      have hul:=ztH hcc hf
      have hsgs : sg (unL used (c + 1)).length = - sg (unL used c).length:=by rw [zm9 hf,List.length_append]; exact zoD _
      have hsg1 : sg (unL used c).length = 1 ∨ sg (unL used c).length = -1:=by unfold sg; split <;> simp
      obtain ⟨s,hs⟩ : ∃ s,s = sg (unL used c).length:=⟨_,rfl⟩
      rw [← hs] at hrf hsgs hsg1
      rw [hsgs]
      refine zae ?_
      refine zat (ι:=zq6) (fun x=>⟨79,[(0,zaB M),(1,.I row),(2,.I used),(3,.rs 0 0 Z),(4,.rs 1 0 Z),(11,.I (W64 (detU A n row used - zeL A n row used (c + 1)))),(12,.I s),(13,.I c)],[(0,some ⟨1,zah x.kn,0⟩),(1,some ⟨1,zcS x.sn,0⟩)],4000⟩) (fun x=>zeU A n x.kn x.sn) ?_ fun x hx=>?_
      ·have hcR : c < Rw.length:=by omega
       refine zab ⟨79,[(0,zaB M),(1,.I row),(2,.I used),(3,.rs 0 0 Z),(4,.rs 1 0 Z),(11,.I sm),(12,.I s),(13,.I c),(45,.B (!decide (A row c = 0)))],[(0,some ⟨1,zah kn,0⟩),(1,some ⟨1,zcS sn,0⟩)],1500⟩ rfl ?_ ?_
       ·simp [hMr,← hRw,hcR,hR]
        exact Le.go [(0,0),(1,1)] [] rfl rfl (by simp [hs] <;> exact wkB (by rw [Bool.eq_iff_iff]; simp)) (by simp [fcd])
       refine zad _ rfl (fun hz=>?_) fun hz=>?_
       ·have f4:=ztx c (by omega)
        have h2c : (2 : Nat) ^ c ≤ 2 ^ 8:=Nat.pow_le_pow_right (by omega) (by omega)
        have h28 : (2 : Nat) ^ 8 = 256:=rfl
        have hor : used ||| 2 ^ c < 2 ^ n:=Nat.or_lt_two_pow (by omega) (Nat.pow_lt_pow_right (by omega) hcc)
        have f5:=ior used (2 ^ c) (by omega) (by omega) (by omega)
        obtain ⟨y,hy,hcall⟩:=ih (row + 1) (used ||| 2 ^ c) kn sn (by omega) (by omega) hor hmemo
        rw [← hZ] at hcall
        obtain ⟨dt,hdt⟩ : ∃ d,d = detU A n (row + 1) (used ||| 2 ^ c):=⟨_,rfl⟩
        rw [← hdt] at hrf hcall
        obtain ⟨u2,hu2⟩ : ∃ u,u = used ||| 2 ^ c:=⟨_,rfl⟩
        rw [← hu2] at hcall f5
        obtain ⟨pc,hpc⟩ : ∃ u,u = 2 ^ c:=⟨_,rfl⟩
        rw [← hpc] at f4 f5
        have hval : IntKind.i64.wrap (sm + IntKind.i64.wrap (IntKind.i64.wrap (s * A row c) * W64 dt)) = W64 (detU A n row used - zeL A n row used (c + 1)):=by
         have e1 : IntKind.i64.wrap (IntKind.i64.wrap (s * A row c) * W64 dt) = W64 (s * A row c * dt):=(zs7 (W64 (s * A row c)) dt).trans (zs2 (s * A row c) dt)
         rw [e1,hsm]
         refine (zud _ _).trans ?_
         congr 1
         rw [hrf]
         omega
        have m1 : ∀ a b : Int,binV .mul (.int .i64 a) (.int .i64 b) = some (.int .i64 (IntKind.i64.wrap (a * b))):=fun _ _=>rfl
        have m2 : ∀ a b : Int,binV .add (.int .i64 a) (.int .i64 b) = some (.int .i64 (IntKind.i64.wrap (a + b))):=fun _ _=>rfl
        refine zcj rfl ?_
        simp [-binV,m1,m2,hMr,← hRw,hcR,hR,hwr,hcu,f4,f5]
        refine zrL (i:=0) (j:=1) (by omega) rfl rfl (e1':=⟨1,zah kn,0⟩) (e2':=⟨1,zcS sn,0⟩) (by simp [fcd]) (by simp [fcd]) hcall (by simp) (by simp) ?_
        simp [-binV,m1,m2,hval]
        exact ⟨rfl,⟨c,y.1,y.2⟩,hy,Le.go [(0,0),(1,1)] [] rfl rfl (by simp [hs]) (by simp [fcd])⟩
       ·have hz0 : A row c = 0:=by simpa using hz
        rw [hz0] at hrf
        simp at hrf
        refine zae ?_
        refine ⟨⟨c,kn,sn⟩,hmemo,?_⟩
        rw [← hrf,← hsm]
        exact LeI [(0,0),(1,1)] []
      have hneg : IntKind.i64.wrap (0 - s) = -s:=by rw [w64 (by omega) (by omega)]; omega
      have hneg2 : IntKind.i64.wrap (-s) = -s:=w64 (by omega) (by omega)
      refine zaC rfl ?_
      simp [hneg,hneg2]
      exact ⟨x,hx,LeI [(0,0),(1,1)] []⟩
     refine zac (s:=?y30) rfl ?o30 ?q30
     case o30=>simp [hwc]; rfl
     exact ⟨⟨c + 1,x.kn,x.sn⟩,⟨by simp only; omega,hx⟩,by simp only; omega,LeI [(0,0),(1,1)] []⟩
    ·rw [decide_eq_false_iff_not] at hcc
     obtain rfl : c = n:=by omega
     rw [zpc,Int.sub_zero] at hsm
     refine zak ?_
     refine hit ?_
     refine ⟨⟨c,kn,sn⟩,hmemo,?_⟩
     rw [← hsm]
     exact LeI [(0,0),(1,1)] []
   ·have h1:=hx.kl
    have h2:=hx.sl
    rw [← hZ] at h1 h2
    have hput:=hx.put hrowE
    have hset1 : (zah x.kn).set used [AV.I (W64 (detU A n row used))] = zah (x.kn.set used (W64 (detU A n row used))):=zcZ
    have hset2 : (zcS x.sn).set used [AV.B true] = zcS (x.sn.set used true):=by
     show (x.sn.map fun b=>[AV.B b]).set used ((fun b : Bool=>[AV.B b]) true) = (x.sn.set used true).map fun b=>[AV.B b]
     rw [List.map_set]
    obtain ⟨d,hd⟩ : ∃ d,d = W64 (detU A n row used):=⟨_,rfl⟩
    rw [← hd] at hput hset1
    obtain ⟨kn2,hk2⟩ : ∃ l,l = x.kn.set used d:=⟨_,rfl⟩
    obtain ⟨sn2,hs2⟩ : ∃ l,l = x.sn.set used true:=⟨_,rfl⟩
    rw [← hk2] at hset1 hput
    rw [← hs2] at hset2 hput
    refine zab ⟨79,[(11,.I d)],[(0,some ⟨1,zah kn2,0⟩),(1,some ⟨1,zcS sn2,0⟩)],9500⟩ rfl ?_ ?_
    ·simp [hu,h1,h2,← hd,hset1,hset2]
     exact LeI [(0,0),(1,1)] []
    refine rx (s:=?y50) [10] [0,1] [] rfl ?o50 ?q50
    case o50=>simp [fcd]; rfl
    refine zag ?_
    exact znu.mk (.inr rfl) (kn2,sn2) hput (zam.k2 rfl (by simp [hd]) (by simp [fcd]) (by simp [fcd]))
end
section
variable (g : Gr) (p : Pol) (r : Int) (hg : GrOk g) (hp : zbx g.size p) (hN : g.size < 20) (hr : 1 ≤ r) (hr5 : r ≤ 5) (hs : p.seeds.length ≤ 64) (ht : p.table.length ≤ 8)
include hg hp hN hr hr5 hs ht
theorem zqy : ∀ s ∈ p.seeds,Key (zao g p.lv) s:=fun s h=>by
 have hR:=hp.2.1
 obtain ⟨i,hi,rfl⟩:=List.getElem_of_mem h
 have:=hR i hi
 exact ⟨this.1,by show p.seeds[i] < g.size; omega⟩
set_option maxRecDepth 100000 in
set_option maxHeartbeats 8000000 in
theorem zgh : zaj Tryz.prog zaG [eG g,eP p,.I r] [] (.tup [ints (zfl (zao g p.lv) p.seeds r).1,.I (zfl (zao g p.lv) p.seeds r).2]) []:=by
 refine zc1.acalls (nbz rfl) (nbz rfl) (Nat.le_refl _) ?_
 show awp _ 0 _ _ ⟨81,[(0,eG g),(1,eP p),(2,.I r)],[],16⟩
 have hgiv:=zm7 g p r hg hp hN hr hr5 hs ht
 have hGg:=hg.level p.lv
 have hS:=zqy g p r hg hp hN hr hr5 hs ht
 have hsz : (zao g p.lv).size = g.size:=rfl
 obtain ⟨G,hGd⟩ : ∃ G,G = zao g p.lv:=⟨_,rfl⟩
 rw [← hGd] at hgiv hGg hS hsz ⊢
 have hmass:=fun i (h : i < (zap G p.seeds).length)=>zh8 G p.seeds r hGg hr hr5 (i:=i) h
 have htree:=fun (h9 : (zap G p.seeds).length ≤ 9) i (h : i < (zap G p.seeds).length)=>zpX G p.seeds r hGg hr hr5 hS h9 (i:=i) h
 have hraw:=fun (h9 : (zap G p.seeds).length ≤ 9) i (h : i < (zap G p.seeds).length)=>zml hGg hr hr5 hS h9 (i:=i) h
 have hgp:=fun (h9 : (zap G p.seeds).length ≤ 9) (h : 0 < (zap G p.seeds).length)=>zno hGg hr hr5 hS h9 h
 have hin:=fun i (h : i < (zap G p.seeds).length)=>zcI.1 (List.getElem_mem h)
 have hK64 : (zap G p.seeds).length ≤ 64:=by
  have:=zdb (g:=G) (S:=p.seeds)
  have:=hGg.1.2.1
  omega
 have hs0:=hg.1.1
 have hs1:=hg.1.2.1
 have hoA:=fun i y (h : i < (zap G p.seeds).length) h2=>zrz (G:=G) (S:=p.seeds) (r:=r) (i:=i) (y:=y) h h2
 have hoB:=fun i y (h : i < (zap G p.seeds).length) h2=>zrO (G:=G) (S:=p.seeds) (r:=r) (i:=i) (y:=y) h h2
 have hoG:=fun i y (h : i < (zap G p.seeds).length) h2 h3=>zrQ (G:=G) (S:=p.seeds) (r:=r) (i:=i) (y:=y) h h2 h3
 have hoH:=fun i y (h : i < (zap G p.seeds).length) h2 h3=>zrM (G:=G) (S:=p.seeds) (r:=r) (i:=i) (y:=y) h h2 h3
 obtain ⟨K,hKd⟩ : ∃ K,K = zap G p.seeds:=⟨_,rfl⟩
 obtain ⟨L,hLd⟩ : ∃ L,L = zbG G p.seeds r:=⟨_,rfl⟩
 have hsg : zfl G p.seeds r = if K = [] then ([],11) else if 9 < K.length then ([],3) else (outK G p.seeds r,0):=by rw [hKd]; rfl
 rw [hsg]
 have hall : oA G p.seeds r K.length = oB G p.seeds r 0:=by rw [hKd]; exact zrP
 have hall2 : oB G p.seeds r K.length = outK G p.seeds r:=by rw [hKd]; exact zrB
 rw [← hKd] at hK64
 simp only [← hKd,← hLd] at hgiv hmass htree hraw hgp hin hoA hoB hoG hoH
 refine zab ⟨81,[(2,.I r),(3,.pv (gC g)),(4,.pv (pC p)),(6,.nilS),(7,.I 0)],[],100⟩ rfl ?_ ?_
 ·simp
  exact LeH [] [16,24]
 refine zab ⟨81,[(3,.pv (gC g)),(6,.nilS),(7,.I 0),(8,.pv [ints K,zaB L]),(9,.I 0)],[],200⟩ rfl ?_ ?_
 ·simp
  refine zal hgiv (by simp) ?_
  simp
  exact LeH [] [156]
 refine zat (ι:=Unit) (fun _=>⟨81,[(3,.pv (gC g)),(8,.pv [ints K,zaB L])],[],900⟩) (fun _=>K ≠ [] ∧ K.length ≤ 9) ?_ fun _ hK=>?_
 ·refine zaf ?_
  refine rx (s:=?z3) [3,6,7,8,9,23] [] [] rfl ?p3 ?r3
  case p3=>simp; rfl
  refine zad _ rfl (fun h=>by simp at h) fun _=>?_
  refine zab ⟨81,[(3,.pv (gC g)),(6,.nilS),(7,.I 0),(8,.pv [ints K,zaB L]),(27,.B (decide (K = [])))],[],400⟩ rfl ?_ ?_
  ·simp
   exact Le.go [] [] rfl rfl (by simp <;> exact wkB (by rw [Bool.eq_iff_iff]; simp [List.length_eq_zero_iff])) (by simp)
  refine zad _ rfl (fun h=>?_) fun h=>?_
  ·rw [decide_eq_true_eq] at h
   rw [if_pos h]
   refine rx (s:=?z4) [6,7] [] [] rfl ?p4 ?r4
   case p4=>simp; rfl
   refine zag ?_
   exact ⟨.inr rfl,zam.out [] [] rfl (by simp) (by simp) (by simp; exact wkT2 (.nil 1 false) (.refl _)) (by simp)⟩
  rw [decide_eq_false_iff_not] at h
  rw [if_neg h]
  refine zab ⟨81,[(3,.pv (gC g)),(6,.nilS),(7,.I 0),(8,.pv [ints K,zaB L]),(32,.B (decide (9 < K.length)))],[],500⟩ rfl ?_ ?_
  ·simp
   exact Le.go [] [] rfl rfl (by simp <;> exact wkB (by rw [Bool.eq_iff_iff]; simp; omega)) (by simp)
  refine zad _ rfl (fun h2=>?_) fun h2=>?_
  ·rw [decide_eq_true_eq] at h2
   rw [if_pos h2]
   refine rx (s:=?z5) [6,7] [] [] rfl ?p5 ?r5
   case p5=>simp; rfl
   refine zag ?_
   exact ⟨.inr rfl,zam.out [] [] rfl (by simp) (by simp) (by simp; exact wkT2 (.nil 1 false) (.refl _)) (by simp)⟩
  rw [decide_eq_false_iff_not] at h2
  refine zae ?_
  exact ⟨(),⟨h,by omega⟩,LeH [] []⟩
 obtain ⟨hKne,hK9⟩:=hK
 have hK0 : 0 < K.length:=List.length_pos_iff.2 hKne
 rw [if_neg hKne,if_neg (by omega)]
 obtain ⟨n,hn⟩ : ∃ n,n = K.length:=⟨_,rfl⟩
 obtain ⟨N,hNd⟩ : ∃ N,N = G.size.toNat:=⟨_,rfl⟩
 have hgs : g.size = N:=by omega
 have hNl : ∀ i,(oA G p.seeds r i).length = N:=fun i=>by rw [zrN,hNd]
 have hNl2 : ∀ i,(oB G p.seeds r i).length = N:=fun i=>by rw [zrA,hNd]
 have hz : zah (oA G p.seeds r 0) = List.replicate N [AV.I 0]:=by rw [zoo,hNd]
 refine zab ⟨81,[(8,.pv [ints K,zaB L]),(10,.rs 50 0 N)],[(50,some ⟨1,zah (oA G p.seeds r 0),0⟩)],1000⟩ rfl ?_ ?_
 ·simp [hgs]
  exact ⟨by omega,by omega,Le.go [(916,50)] [] rfl rfl (by simp) (by simp [hz,fcd])⟩
 refine rx (s:=?z8) [8,10,11] [50] [] rfl ?p8 ?r8
 case p8=>simp [fcd]; rfl
 have hg0 : gcdL ((List.range 0).map (rawK G p.seeds r)) = 0:=rfl
 refine zat (ι:=Unit) (fun _=>⟨81,[(8,.pv [ints K,zaB L]),(10,.rs 50 0 N),(11,.I (gcdL (zgY G p.seeds r) : Nat))],[(50,some ⟨1,zah (oB G p.seeds r 0),0⟩)],4000⟩) (fun _=>True) ?_ fun _ _=>?_
 ·refine rx (s:=?z9) [8,10,11,41,42,43] [50] [] rfl ?p9 ?r9
  case p9=>simp [← hn,fcd]; rfl
  refine zaf ?_
  refine zan (ι:=Nat) (fun i=>⟨81,[(8,.pv [ints K,zaB L]),(10,.rs 50 0 N),(11,.I (gcdL ((List.range i).map (rawK G p.seeds r)) : Nat)),(41,ints K),(42,.I n),(43,.I i)],[(50,some ⟨1,zah (oA G p.seeds r i),0⟩)],1200⟩) (fun i=>i ≤ n) (fun i=>n - i) 0 (Nat.zero_le _) (Le.go [(50,50)] [] rfl rfl (by simp [gcdL]) (by simp [fcd])) ?_
  intro i hi
  refine rx (s:=?z10) [8,10,11,41,42,43,44] [50] [] rfl ?p10 ?r10
  case p10=>simp [fcd]; rfl
  refine zaa ?_
  refine zad _ rfl (fun hc=>?_) fun hc=>?_
  ·simp at hc
   have hiK : i < K.length:=by omega
   have hw1 : IntKind.i64.wrap ((i : Int) + 1) = (i : Int) + 1:=w64 (by omega) (by omega)
   have hkey:=(hin i hiK).1
   obtain ⟨y,hy⟩ : ∃ y : Nat,K[i] = (y : Int):=⟨K[i].toNat,by have:=hkey.1; omega⟩
   have hyN : y < N:=by have:=hkey.2; rw [hy] at this; omega
   obtain ⟨hr1,hr2,hr3⟩:=hraw hK9 i hiK
   have hset:=hoA i y hiK hy
   have hget:=hoG i y hiK hy (by omega)
   have hm:=hmass i hiK
   have htr:=htree hK9 i hiK
   have hwr : IntKind.i64.wrap (zdd G p.seeds r (zbI G p.seeds i) * zg1 G p.seeds r i) = ((rawK G p.seeds r i : Nat) : Int):=by rw [← hr1]; exact w64 (by omega) (by omega)
   have hcm:=zon (gcdL ((List.range i).map (rawK G p.seeds r))) (rawK G p.seeds r i)
   have hgs2 : gcdL ((List.range (i + 1)).map (rawK G p.seeds r)) = Nat.gcd (gcdL ((List.range i).map (rawK G p.seeds r))) (rawK G p.seeds r i):=by
    rw [List.range_succ,List.map_append]
    exact zhS _ _
   rw [← hgs2] at hcm
   obtain ⟨q1,hq1⟩ : ∃ q,q = gcdL ((List.range i).map (rawK G p.seeds r)):=⟨_,rfl⟩
   obtain ⟨q2,hq2⟩ : ∃ q,q = gcdL ((List.range (i + 1)).map (rawK G p.seeds r)):=⟨_,rfl⟩
   rw [← hq1,← hq2] at hcm
   obtain ⟨w,hwd⟩ : ∃ w,w = rawK G p.seeds r i:=⟨_,rfl⟩
   rw [← hwd] at hwr hset hget hcm
   have hga : ∀ h : y < (oA G p.seeds r (i + 1)).length,(oA G p.seeds r (i + 1))[y] = ((w : Nat) : Int):=fun h=>by
    rw [List.getElem?_eq_getElem h] at hget
    exact Option.some.inj hget
   refine zae ?_
   refine zat (ι:=Unit) (fun _=>⟨81,[(8,.pv [ints K,zaB L]),(10,.rs 50 0 N),(11,.I (q2 : Nat)),(41,ints K),(42,.I n),(43,.I i)],[(50,some ⟨1,zah (oA G p.seeds r (i + 1)),0⟩)],3000⟩) (fun _=>True) ?_ fun _ _=>?_
   ·refine zaf ?_
    refine zab ⟨81,[(8,.pv [ints K,zaB L]),(10,.rs 50 0 N),(11,.I (q1 : Nat)),(12,.I i),(13,.I y),(41,ints K),(42,.I n),(43,.I i)],[(50,some ⟨1,zah (oA G p.seeds r i),0⟩)],1500⟩ rfl ?_ ?_
    ·simp [hiK,hy]
     exact Le.go [(50,50)] [] rfl rfl (by simp [hq1]) (by simp [fcd])
    refine zaO ⟨81,[(8,.pv [ints K,zaB L]),(10,.rs 50 0 N),(11,.I (q1 : Nat)),(12,.I i),(13,.I y),(41,ints K),(42,.I n),(43,.I i)],[(50,some ⟨1,zah (oA G p.seeds r (i + 1)),0⟩)],1800⟩ rfl ?_ ?_
    ·simp
     refine zal hm (by simp) ?_
     simp
     refine zal htr (by simp) ?_
     simp [hwr,hyN,hNl,hset]
     exact ⟨rfl,LeI [(50,50)] []⟩
    refine zaC rfl ?_
    simp [hyN,hNl,hga]
    refine zal hcm (by simp) ?_
    simp
    exact LeI [(50,50)] []
   refine zac (s:=?z12) rfl ?p12 ?r12
   case p12=>simp [hw1]; rfl
   refine ⟨i + 1,by omega,by omega,?_⟩
   rw [← hq2]
   exact LeI [(50,50)] []
  ·simp at hc
   obtain rfl : i = n:=by omega
   have hgf : gcdL ((List.range i).map (rawK G p.seeds r)) = gcdL (zgY G p.seeds r):=by unfold zgY; rw [hn,hKd]
   refine zak ?_
   refine hit ?_
   refine ⟨(),trivial,?_⟩
   rw [hgf,← hall,← hn]
   exact LeI [(50,50)] []
 have hd0:=hgp hK9 hK0
 obtain ⟨d,hdd⟩ : ∃ d,d = gcdL (zgY G p.seeds r):=⟨_,rfl⟩
 rw [← hdd] at hd0
 simp only [← hdd] at hoB
 refine zat (ι:=Unit) (fun _=>⟨81,[(10,.rs 50 0 N)],[(50,some ⟨1,zah (outK G p.seeds r),0⟩)],8000⟩) (fun _=>True) ?_ fun _ _=>?_
 ·refine zab ⟨81,[(10,.rs 50 0 N),(11,.I (d : Nat)),(66,ints K),(67,.I n),(68,.I 0)],[(50,some ⟨1,zah (oB G p.seeds r 0),0⟩)],4500⟩ rfl ?_ ?_
  ·simp [← hn]
   exact Le.go [(50,50)] [] rfl rfl (by simp [hdd]) (by simp [fcd])
  refine zaf ?_
  refine zan (ι:=Nat) (fun i=>⟨81,[(10,.rs 50 0 N),(11,.I (d : Nat)),(66,ints K),(67,.I n),(68,.I i)],[(50,some ⟨1,zah (oB G p.seeds r i),0⟩)],5000⟩) (fun i=>i ≤ n) (fun i=>n - i) 0 (Nat.zero_le _) (LeI [(50,50)] []) ?_
  intro i hi
  refine rx (s:=?z20) [10,11,66,67,68,69] [50] [] rfl ?p20 ?r20
  case p20=>simp [fcd]; rfl
  refine zaa ?_
  refine zad _ rfl (fun hc=>?_) fun hc=>?_
  ·simp at hc
   have hiK : i < K.length:=by omega
   have hw1 : IntKind.i64.wrap ((i : Int) + 1) = (i : Int) + 1:=w64 (by omega) (by omega)
   have hkey:=(hin i hiK).1
   obtain ⟨y,hy⟩ : ∃ y : Nat,K[i] = (y : Int):=⟨K[i].toNat,by have:=hkey.1; omega⟩
   have hyN : y < N:=by have:=hkey.2; rw [hy] at this; omega
   obtain ⟨hr1,hr2,hr3⟩:=hraw hK9 i hiK
   have hset:=hoB i y hiK hy
   have hget:=hoH i y hiK hy (by omega)
   obtain ⟨w,hwd⟩ : ∃ w,w = rawK G p.seeds r i:=⟨_,rfl⟩
   rw [← hwd] at hr3 hset hget
   have hga : ∀ h : y < (oB G p.seeds r i).length,(oB G p.seeds r i)[y] = ((w : Nat) : Int):=fun h=>by
    rw [List.getElem?_eq_getElem h] at hget
    exact Option.some.inj hget
   have hdl:=Nat.div_le_self w d
   have hq : binV .quo (.int .i64 (w : Int)) (.int .i64 (d : Int)) = some (.int .i64 ((w / d : Nat) : Int)):=by
    show (if (d : Int) = 0 then none else some (Value.int .i64 (IntKind.i64.wrap ((w : Int).tdiv d)))) = _
    have hwz : IntKind.i64.wrap ((w / d : Nat) : Int) = ((w / d : Nat) : Int):=by
     obtain ⟨z,hz⟩ : ∃ z,z = w / d:=⟨_,rfl⟩
     rw [← hz] at hdl ⊢
     exact w64 (by omega) (by omega)
    rw [if_neg (by omega),show ((w : Int).tdiv d) = ((w / d : Nat) : Int) by simp,hwz]
   refine zae ?_
   refine zat (ι:=Unit) (fun _=>⟨81,[(10,.rs 50 0 N),(11,.I (d : Nat)),(66,ints K),(67,.I n),(68,.I i)],[(50,some ⟨1,zah (oB G p.seeds r (i + 1)),0⟩)],7000⟩) (fun _=>True) ?_ fun _ _=>?_
   ·refine zaf ?_
    refine zab ⟨81,[(10,.rs 50 0 N),(11,.I (d : Nat)),(15,.I y),(66,ints K),(67,.I n),(68,.I i)],[(50,some ⟨1,zah (oB G p.seeds r i),0⟩)],5500⟩ rfl ?_ ?_
    ·simp [hiK,hy]
     exact LeI [(50,50)] []
    refine zaC rfl ?_
    simp [-binV,-Int.natCast_ediv,hyN,hNl2,hga,hq,hset]
    exact LeI [(50,50)] []
   refine zac (s:=?z22) rfl ?p22 ?r22
   case p22=>simp [hw1]; rfl
   exact ⟨i + 1,by omega,by omega,LeI [(50,50)] []⟩
  ·simp at hc
   obtain rfl : i = n:=by omega
   refine zak ?_
   refine hit ?_
   refine ⟨(),trivial,?_⟩
   rw [← hall2,← hn]
   exact LeI [(50,50)] []
 have hol : (outK G p.seeds r).length = N:=by simp [outK,hNd]
 have hoT : ∀ f : Int → List AV,((outK G p.seeds r).map f).take N = (outK G p.seeds r).map f:=fun f=>List.take_of_length_le (by simp [hol])
 refine zab ⟨81,[(6,ints (outK G p.seeds r)),(7,.I 0)],[],9000⟩ rfl ?_ ?_
 ·simp
  exact Le.go [] [50] rfl rfl (by simp [hol,hoT,fcd]) (by simp)
 refine zag ?_
 exact ⟨.inr rfl,zam.out [] [] rfl (by simp) (by simp) (by simp) (by simp)⟩
theorem zmT (l : List Int) (hl : l.length ≤ 140737488355328) : zaj Tryz.prog zaS [eG g,eP p,.I r,ints l] [] (.B (decide ((zfl (zao g p.lv) p.seeds r).2 = 0 ∧ l = (zfl (zao g p.lv) p.seeds r).1))) []:=by
 refine zdJ.acalls (nbz rfl) (nbz rfl) (Nat.le_refl _) ?_
 show awp _ 0 _ _ ⟨25,[(0,eG g),(1,eP p),(2,.I r),(3,ints l)],[],16⟩
 have hW:=zgh g p r hg hp hN hr hr5 hs ht
 obtain ⟨o,ho⟩ : ∃ o,o = zfl (zao g p.lv) p.seeds r:=⟨_,rfl⟩
 rw [← ho] at hW ⊢
 have heq:=zkF l o.1 hl
 refine zab ⟨25,[(2,.I r),(3,ints l),(4,.pv (gC g)),(5,.pv (pC p))],[],100⟩ rfl ?_ ?_
 ·simp
  exact LeH [] [16,24]
 refine rx (s:=?z2) [3,9,10] [] [] rfl ?p2 ?r2
 case p2=>simp; refine zal hW (by simp) ?_; simp; rfl
 refine zab ⟨25,[(8,.B (decide (o.2 = 0 ∧ l = o.1)))],[],400⟩ rfl ?_ ?_
 ·by_cases h0 : o.2 = 0
  ·simp [h0]
   refine zal heq (by simp) ?_
   simp
   exact Le.go [] [] rfl rfl (by simp [h0]) (by simp)
  ·have hb : (o.2 == 0) = false:=by simpa using h0
   simp [hb]
   exact Le.go [] [] rfl rfl (by simp [h0,hb]) (by simp)
 refine zag ?_
 exact ⟨.inr rfl,zam.one (by simp)⟩
def zmq (G : Gr) (S : List Int) (r key : Int) : Int:=if key ∈ zap G S then zdd G S r key else 0
set_option maxRecDepth 100000 in
theorem zoB (key : Int) : zaj Tryz.prog zbb [eG g,eP p,.I r,.I key] [] (.I (zmq (zao g p.lv) p.seeds r key)) []:=by
 refine zek.acalls (nbz rfl) (nbz rfl) (Nat.le_refl _) ?_
 show awp _ 0 _ _ ⟨32,[(0,eG g),(1,eP p),(2,.I r),(3,.I key)],[],16⟩
 have hgiv:=zm7 g p r hg hp hN hr hr5 hs ht
 have hGg:=hg.level p.lv
 obtain ⟨G,hGd⟩ : ∃ G,G = zao g p.lv:=⟨_,rfl⟩
 rw [← hGd] at hgiv hGg ⊢
 have hmass:=fun i (h : i < (zap G p.seeds).length)=>zh8 G p.seeds r hGg hr hr5 (i:=i) h
 have hK64 : (zap G p.seeds).length ≤ 64:=by
  have:=zdb (g:=G) (S:=p.seeds)
  have:=hGg.1.2.1
  omega
 have hidx:=zbl (zap G p.seeds) key (by omega)
 refine zab ⟨32,[(2,.I r),(3,.I key),(4,.pv (gC g)),(5,.pv (pC p))],[],100⟩ rfl ?_ ?_
 ·simp
  exact LeH [] [16,24]
 refine zab ⟨32,[(3,.I key),(9,.pv [ints (zap G p.seeds),zaB (zbG G p.seeds r)]),(10,.I 0)],[],300⟩ rfl ?_ ?_
 ·simp
  refine zal hgiv (by simp) ?_
  simp
  exact LeH [] [156]
 refine zaa ?_
 refine rx (s:=?z3) [9,10,11] [] [] rfl ?p3 ?r3
 case p3=>simp; refine zal hidx (by simp) ?_; simp; rfl
 refine zab ⟨32,[(9,.pv [ints (zap G p.seeds),zaB (zbG G p.seeds r)]),(11,.I (idxI (zap G p.seeds) key)),(28,.B (decide (key ∈ zap G p.seeds)))],[],600⟩ rfl ?_ ?_
 ·simp
  exact Le.go [] [] rfl rfl (by simp <;> exact wkB (by rw [Bool.eq_iff_iff]; unfold idxI; split <;> rename_i h <;> simp [h])) (by simp)
 refine zad _ rfl (fun hc=>?_) fun hc=>?_
 ·rw [decide_eq_true_eq] at hc
  have hil:=List.idxOf_lt_length_iff.2 hc
  have hm:=hmass _ hil
  have hka : zbI G p.seeds ((zap G p.seeds).idxOf key) = key:=by rw [zfQ hil]; exact List.getElem_idxOf hil
  rw [hka] at hm
  have hxi : idxI (zap G p.seeds) key = ((zap G p.seeds).idxOf key : Nat):=by unfold idxI; rw [if_pos hc]
  have hma : zmq G p.seeds r key = zdd G p.seeds r key:=if_pos hc
  refine rx (s:=?z5) [8] [] [] rfl ?p5 ?r5
  case p5=>simp; refine zal hm (by simp [hxi]) ?_; simp; rfl
  refine zag ?_
  exact ⟨.inr rfl,zam.one (by simp [hma])⟩
 ·rw [decide_eq_false_iff_not] at hc
  have hma : zmq G p.seeds r key = 0:=if_neg hc
  refine zae ?_
  refine rx (s:=?z6) [8] [] [] rfl ?p6 ?r6
  case p6=>simp; rfl
  refine zag ?_
  exact ⟨.inr rfl,zam.one (by simp [hma])⟩
end
theorem zi8 (R : List Int) (hR : ∀ x ∈ R,0 ≤ x ∧ x ≤ 8) (hl : R.length ≤ 1000) : zaj Tryz.prog zbH [ints R] [] (.I R.sum) []:=by
 refine zlj.acalls (nbz rfl) (nbz rfl) (Nat.le_refl _) ?_
 show awp _ 0 _ _ ⟨18,[(0,ints R)],[],16⟩
 refine rx (s:=?z1) [0] [] [] rfl ?p1 ?r1
 case p1=>simp; rfl
 refine rx (s:=?z2) [0,3] [] [] rfl ?p2 ?r2
 case p2=>simp; rfl
 refine zaa ?_
 refine rx (s:=?z3) [0,3,4] [] [] rfl ?p3 ?r3
 case p3=>simp; rfl
 refine zaf ?_
 refine zan (ι:=Nat) (fun k=>⟨18,[(0,ints R),(3,.I (R.take k).sum),(4,.I k)],[],300⟩) (fun k=>k ≤ R.length) (fun k=>R.length - k) 0 (Nat.zero_le _) (LeH [] []) ?_
 intro k hk
 have hb:=zmV 8 (l:=R.take k) fun x hx=>hR x (List.mem_of_mem_take hx)
 have htl : (R.take k).length = k:=by simp; omega
 rw [htl] at hb
 refine zaa ?_
 refine rx (s:=?z4) [0,3,4,8] [] [] rfl ?p4 ?r4
 case p4=>simp; rfl
 refine zad _ rfl (fun hc=>?_) fun hc=>?_
 ·simp at hc
  have hx:=hR R[k] (List.getElem_mem hc)
  have hw : IntKind.i64.wrap ((k : Int) + 1) = (k : Int) + 1:=w64 (by omega) (by omega)
  have hs:=zmA hc
  have hw2 : IntKind.i64.wrap ((R.take k).sum + R[k]) = (R.take (k + 1)).sum:=by rw [w64 (by omega) (by omega),hs]
  refine zae ?_
  refine zaa ?_
  refine zaf ?_
  refine zac (s:=?z6) rfl ?p6 ?r6
  case p6=>simp [hc,hw2]; rfl
  refine zac (s:=?z7) rfl ?p7 ?r7
  case p7=>simp [hw]; rfl
  exact ⟨k + 1,by omega,by omega,LeH [] []⟩
 ·simp at hc
  have hkl : R.take k = R:=List.take_of_length_le (by omega)
  rw [hkl]
  refine zak ?_
  refine hit ?_
  refine rx (s:=?z9) [2] [] [] rfl ?p9 ?r9
  case p9=>simp; rfl
  refine zag ?_
  exact ⟨.inr rfl,zam.one (by simp)⟩
theorem zkk (a b : Nat) : zaj Tryz.prog zgn [.I a,.I b] [] (.I (Nat.gcd a b : Nat)) []:=by
 refine znw.acalls (nbz rfl) (nbz rfl) (Nat.le_refl _) ?_
 show awp _ 0 _ _ ⟨12,[(0,.I a),(1,.I b)],[],16⟩
 refine rx (s:=?z1) [0,1] [] [] rfl ?p1 ?r1
 case p1=>simp; rfl
 refine zaa ?_
 refine zaf ?_
 refine zan (ι:=Nat × Nat) (fun i=>⟨12,[(0,.I i.1),(1,.I i.2)],[],100⟩) (fun i=>Nat.gcd i.1 i.2 = Nat.gcd a b) (fun i=>i.2) (a,b) rfl (LeH [] []) ?_
 rintro ⟨x,y⟩ hxy
 simp only at hxy
 refine zaa ?_
 refine rx (s:=?z2) [0,1,6] [] [] rfl ?p2 ?r2
 case p2=>simp; rfl
 refine zad _ rfl (fun hc=>?_) fun hc=>?_
 ·simp at hc
  have f1 : binV .rem (.int .i64 (x : Int)) (.int .i64 (y : Int)) = some (.int .i64 ((x % y : Nat) : Int)):=by
   show (if (y : Int) = 0 then none else some (Value.int .i64 ((x : Int).tmod y))) = _
   rw [if_neg (by omega)]
   simp [Int.tmod_eq_emod_of_nonneg]
  refine zae ?_
  refine zaf ?_
  refine zcj rfl ?_
  simp [-binV,f1,-Int.natCast_emod]
  exact ⟨rfl,y,x % y,zns hxy,Nat.mod_lt _ (by omega),LeH [] []⟩
 ·simp at hc
  subst hc
  rw [Nat.gcd_zero_right] at hxy
  refine zak ?_
  refine hit ?_
  refine rx (s:=?z9) [4] [] [] rfl ?p9 ?r9
  case p9=>simp; rfl
  refine zag ?_
  exact ⟨.inr rfl,zam.one (by simp [hxy])⟩
def redR (W : Mat) (N r a : Nat) (k : Nat) : List Int:=(List.range k).map fun c=>redM W N r a c
theorem zhf (W : Mat) (N r a k : Nat) : (redR W N r a k).length = k:=by simp [redR]
theorem zph (W : Mat) (N r a k : Nat) : redR W N r a (k + 1) = redR W N r a k ++ [redM W N r a k]:=by simp [redR,List.range_succ]
def redL (W : Mat) (N r : Nat) (k : Nat) : List (List Int):=(List.range k).map fun a=>redR W N r a N
theorem zfD (W : Mat) (N r k : Nat) : (redL W N r k).length = k:=by simp [redL]
theorem zpj (W : Mat) (N r k : Nat) : redL W N r (k + 1) = redL W N r k ++ [redR W N r k N]:=by simp [redL,List.range_succ]
section
variable (L : List (List Int)) (W : Mat) (N root : Nat) (hl : L.length = N + 1) (h8 : N ≤ 8) (hr : root < N + 1)
 (hL : ∀ i,i < N + 1 → L[i]? = some (rowW W N i)) (hW : ∀ i j,0 ≤ W i j ∧ W i j ≤ 8)
 (hs : ∀ i,i < N + 1 → 0 ≤ smN (N + 1) (W i) - W i i ∧ smN (N + 1) (W i) ≤ 100)
 (ht : 0 < zfv W N root ∧ zfv W N root ≤ 722204136308736)
include hl h8 hr hL hW hs ht
set_option maxRecDepth 100000 in
set_option maxHeartbeats 8000000 in
theorem znC : zaj Tryz.prog zdp [zaB L,.I root] [] (.I (zfv W N root)) []:=by
 refine zkc.acalls (nbz rfl) (nbz rfl) (Nat.le_refl _) ?_
 show awp _ 0 _ _ ⟨73,[(0,zaB L),(1,.I root)],[],16⟩
 have hLg : ∀ (i : Nat) (h : i < L.length),L[i] = rowW W N i:=fun i h=>by
  have:=hL i (by omega)
  rw [List.getElem?_eq_getElem h] at this
  exact Option.some.inj this
 have hLT : ∀ (k : Nat) (f : List Int → List AV),((redL W N root k).map f).take k = (redL W N root k).map f:=fun k f=>List.take_of_length_le (by simp [zfD])
 have hRT : ∀ (a k : Nat) (f : Int → List AV),((redR W N root a k).map f).take k = (redR W N root a k).map f:=fun a k f=>List.take_of_length_le (by simp [zhf])
 refine rx (s:=?z1) [0,1] [] [] rfl ?p1 ?r1
 case p1=>simp; rfl
 refine rx (s:=?z2) [0,1,5] [] [] rfl ?p2 ?r2
 case p2=>simp; rfl
 refine zat (ι:=Unit) (fun _=>⟨73,[(5,zaB (redL W N root N))],[],9000⟩) (fun _=>True) ?_ fun _ _=>?_
 ·refine rx (s:=?z3) [0,1,5,6] [] [] rfl ?p3 ?r3
  case p3=>simp; rfl
  refine zaf ?_
  refine zan (ι:=Nat) (fun i=>⟨73,[(0,zaB L),(1,.I root),(5,.rs 50 0 (cntS root i)),(6,.I i)],[(50,some ⟨1,zaM (redL W N root (cntS root i)),0⟩)],1000⟩) (fun i=>i ≤ N + 1) (fun i=>N + 1 - i) 0 (Nat.zero_le _) (Le.lst [] [] [(50,1)] rfl (by simp) (by simp) (by simp) (by simp) (by simp) (by simp) (by simp) (by simp [Up,zcK]) (by simp [zcK,redL])) ?_
  intro i hi
  refine zaa ?_
  refine zab ⟨73,[(0,zaB L),(1,.I root),(5,.rs 50 0 (cntS root i)),(6,.I i),(12,.B (decide (i < N + 1)))],[(50,some ⟨1,zaM (redL W N root (cntS root i)),0⟩)],1100⟩ rfl ?_ ?_
  ·simp [hl]
   exact Le.go [(50,50)] [] rfl rfl (by simp <;> exact wkB (by rw [Bool.eq_iff_iff]; simp; omega)) (by simp)
  refine zad _ rfl (fun hc=>?_) fun hc=>?_
  ·rw [decide_eq_true_eq] at hc
   have hiL : i < L.length:=by omega
   have hLi:=hLg i hiL
   have hwi : IntKind.i64.wrap ((i : Int) + 1) = (i : Int) + 1:=w64 (by omega) (by omega)
   refine zae ?_
   refine zat (ι:=Unit) (fun _=>⟨73,[(0,zaB L),(1,.I root),(5,.rs 50 0 (cntS root (i + 1))),(6,.I i)],[(50,some ⟨1,zaM (redL W N root (cntS root (i + 1))),0⟩)],8000⟩) (fun _=>True) ?_ fun _ _=>?_
   ·refine zaf ?_
    refine zaa ?_
    refine zab ⟨73,[(0,zaB L),(1,.I root),(5,.rs 50 0 (cntS root i)),(6,.I i),(17,.B (decide (i = root)))],[(50,some ⟨1,zaM (redL W N root (cntS root i)),0⟩)],1200⟩ rfl ?_ ?_
    ·simp
     exact Le.go [(50,50)] [] rfl rfl (by simp [beqN] <;> exact .refl _) (by simp)
    refine zad _ rfl (fun he=>?_) fun he=>?_
    ·rw [decide_eq_true_eq] at he
     subst he
     refine zak ?_
     refine hit ?_
     refine ⟨(),trivial,?_⟩
     rw [zfx]
     exact LeH [(50,50)] []
    rw [decide_eq_false_iff_not] at he
    have hcl:=zjy he hr hc
    have hms:=zfF he
    refine zae ?_
    refine zab ⟨73,[(0,zaB L),(1,.I root),(5,.rs 50 0 (cntS root i)),(6,.I i),(7,.nilS)],[(50,some ⟨1,zaM (redL W N root (cntS root i)),0⟩)],1300⟩ rfl ?_ ?_
    ·simp
     exact LeH [(50,50)] []
    refine zat (ι:=Unit) (fun _=>⟨73,[(0,zaB L),(1,.I root),(5,.rs 50 0 (cntS root i)),(6,.I i),(7,.rs 51 0 N)],[(50,some ⟨1,zaM (redL W N root (cntS root i)),0⟩),(51,some ⟨1,zah (redR W N root (cntS root i) N),0⟩)],6000⟩) (fun _=>True) ?_ fun _ _=>?_
    ·refine zab ⟨73,[(0,zaB L),(1,.I root),(5,.rs 50 0 (cntS root i)),(6,.I i),(7,.nilS),(8,.I 0)],[(50,some ⟨1,zaM (redL W N root (cntS root i)),0⟩)],1400⟩ rfl ?_ ?_
     ·simp
      exact LeH [(50,50)] []
     refine zaf ?_
     refine zan (ι:=Nat) (fun c=>⟨73,[(0,zaB L),(1,.I root),(5,.rs 50 0 (cntS root i)),(6,.I i),(7,.rs 51 0 (cntS root c)),(8,.I c)],[(50,some ⟨1,zaM (redL W N root (cntS root i)),0⟩),(51,some ⟨1,zah (redR W N root (cntS root i) (cntS root c)),0⟩)],1500⟩) (fun c=>c ≤ N + 1) (fun c=>N + 1 - c) 0 (Nat.zero_le _) (Le.lst [(50,50)] [] [(51,1)] rfl (by simp) (by simp) (by simp) (by simp) (by simp) (by simp) (by simp) (by simp [Up,zcK]) (by simp [zcK,redR]; exact zaD.rfl' (by simp))) ?_
     intro c hcl2
     refine zaa ?_
     refine zab ⟨73,[(0,zaB L),(1,.I root),(5,.rs 50 0 (cntS root i)),(6,.I i),(7,.rs 51 0 (cntS root c)),(8,.I c),(21,.B (decide (c < N + 1)))],[(50,some ⟨1,zaM (redL W N root (cntS root i)),0⟩),(51,some ⟨1,zah (redR W N root (cntS root i) (cntS root c)),0⟩)],1600⟩ rfl ?_ ?_
     ·simp [hl]
      exact Le.go [(50,50),(51,51)] [] rfl rfl (by simp <;> exact wkB (by rw [Bool.eq_iff_iff]; simp; omega)) (by simp [fcd])
     refine zad _ rfl (fun hcc=>?_) fun hcc=>?_
     ·rw [decide_eq_true_eq] at hcc
      have hwc : IntKind.i64.wrap ((c : Int) + 1) = (c : Int) + 1:=w64 (by omega) (by omega)
      have hWic:=hW i c
      have hWii:=hW i i
      have hsi:=hs i hc
      have hrl:=zg7 W N i
      have hra : ∀ (k : Nat) (h : k < (rowW W N i).length),(rowW W N i)[k] = W i k:=fun k h=>zo0 h
      have hrs:=zrg W N i
      have htot:=zi8 (rowW W N i) (fun x hx=>by
       obtain ⟨j,_,rfl⟩:=List.mem_map.1 hx
       exact hW i j) (by rw [hrl]; omega)
      rw [hrs] at htot
      refine zae ?_
      refine zat (ι:=Unit) (fun _=>⟨73,[(0,zaB L),(1,.I root),(5,.rs 50 0 (cntS root i)),(6,.I i),(7,.rs 51 0 (cntS root (c + 1))),(8,.I c)],[(50,some ⟨1,zaM (redL W N root (cntS root i)),0⟩),(51,some ⟨1,zah (redR W N root (cntS root i) (cntS root (c + 1))),0⟩)],5000⟩) (fun _=>True) ?_ fun _ _=>?_
      ·refine zaf ?_
       refine zaa ?_
       refine zab ⟨73,[(0,zaB L),(1,.I root),(5,.rs 50 0 (cntS root i)),(6,.I i),(7,.rs 51 0 (cntS root c)),(8,.I c),(26,.B (decide (c = root)))],[(50,some ⟨1,zaM (redL W N root (cntS root i)),0⟩),(51,some ⟨1,zah (redR W N root (cntS root i) (cntS root c)),0⟩)],1700⟩ rfl ?_ ?_
       ·simp
        exact Le.go [(50,50),(51,51)] [] rfl rfl (by simp [beqN] <;> exact .refl _) (by simp [fcd])
       refine zad _ rfl (fun h1=>?_) fun h1=>?_
       ·rw [decide_eq_true_eq] at h1
        subst h1
        refine zak ?_
        refine hit ?_
        refine ⟨(),trivial,?_⟩
        rw [zfx]
        exact LeI [(50,50),(51,51)] []
       rw [decide_eq_false_iff_not] at h1
       have hcs:=zfF h1
       have hcl3:=zjy h1 hr hcc
       have hRs:=zph W N root (cntS root i) (cntS root c)
       refine zae ?_
       refine zab ⟨73,[(0,zaB L),(1,.I root),(5,.rs 50 0 (cntS root i)),(6,.I i),(7,.rs 51 0 (cntS root c)),(8,.I c),(29,.B (decide (i = c)))],[(50,some ⟨1,zaM (redL W N root (cntS root i)),0⟩),(51,some ⟨1,zah (redR W N root (cntS root i) (cntS root c)),0⟩)],1800⟩ rfl ?_ ?_
       ·simp
        exact Le.go [(50,50),(51,51)] [] rfl rfl (by simp [beqN] <;> exact .refl _) (by simp [fcd])
       rw [hcs,hRs]
       refine zad _ rfl (fun h2=>?_) fun h2=>?_
       ·rw [decide_eq_true_eq] at h2
        subst h2
        have hred : redM W N root (cntS root i) (cntS root i) = smN (N + 1) (W i) - W i i:=by unfold redM; rw [if_pos rfl,ze2 he]
        have hwv : IntKind.i64.wrap (smN (N + 1) (W i) - W i i) = redM W N root (cntS root i) (cntS root i):=by rw [hred]; exact w64 (by omega) (by omega)
        refine zcj rfl ?_
        simp [hiL,hLi]
        refine zal htot (by simp) ?_
        simp [hiL,hLi,hrl,hra,hc,hwv,zhf]
        exact ⟨by omega,by omega,rfl,Le.go [(50,50),(1920,51)] [] rfl rfl (by simp) (by simp [fcd,hRT])⟩
       ·rw [decide_eq_false_iff_not] at h2
        have hred : redM W N root (cntS root i) (cntS root c) = - W i c:=by unfold redM; rw [if_neg (fun h=>h2 ((zmL he h1).1 h)),ze2 he,ze2 h1]
        have hwv : IntKind.i64.wrap (- W i c) = redM W N root (cntS root i) (cntS root c):=by rw [hred]; exact w64 (by omega) (by omega)
        refine zaC rfl ?_
        simp [hiL,hLi,hrl,hra,hcc,hwv,zhf]
        exact ⟨by omega,by omega,Le.go [(50,50),(1880,51)] [] rfl rfl (by simp) (by simp [fcd,hRT])⟩
      refine zac (s:=?z22) rfl ?p22 ?r22
      case p22=>simp [hwc]; rfl
      exact ⟨c + 1,by omega,by omega,LeI [(50,50),(51,51)] []⟩
     ·rw [decide_eq_false_iff_not] at hcc
      obtain rfl : c = N + 1:=by omega
      refine zak ?_
      refine hit ?_
      refine ⟨(),trivial,?_⟩
      rw [zhh hr]
      exact LeI [(50,50),(51,51)] []
    rw [hms,zpj]
    refine zaC rfl ?_
    simp [zfD]
    exact ⟨by omega,by omega,Le.go [(6024,50)] [51] rfl rfl (by simp) (by simp [fcd,hRT,hLT,zhf])⟩
   refine zac (s:=?z13) rfl ?p13 ?r13
   case p13=>simp [hwi]; rfl
   exact ⟨i + 1,by omega,by omega,LeH [(50,50)] []⟩
  ·rw [decide_eq_false_iff_not] at hc
   obtain rfl : i = N + 1:=by omega
   refine zak ?_
   refine hit ?_
   refine ⟨(),trivial,?_⟩
   rw [zhh hr]
   exact Le.go [] [50] rfl rfl (by simp [hLT,zfD,fcd]) (by simp)
 obtain ⟨Z,hZ⟩ : ∃ Z,Z = 2 ^ N:=⟨_,rfl⟩
 have hZ1 : Z ≤ 256:=by rw [hZ]; exact Nat.pow_le_pow_right (n:=2) (by omega) h8
 have hu0 : (unL 0 N).length = N:=by
  have : unL 0 N = List.range N:=by
   unfold unL
   rw [List.filter_eq_self]
   intro x _
   simp [free]
  rw [this,List.length_range]
 have hmemo : zeU (redM W N root) N (List.replicate Z 0) (List.replicate Z false):=⟨by rw [List.length_replicate,hZ],by rw [List.length_replicate,hZ],fun u h _ hs=>by simp at hs⟩
 obtain ⟨y,_,hcall⟩:=ztm (redM W N root) (redL W N root N) N h8 (zfD W N root N) (fun i hi=>by simp [redL,hi,redR]) N 0 0 (List.replicate Z 0) (List.replicate Z false) (by omega) hu0 (Nat.two_pow_pos N) hmemo
 have hdv : W64 (detU (redM W N root) N 0 0) = zfv W N root:=by
  rw [znX]
  exact w64 (by show -9223372036854775808 ≤ zfv W N root; omega) (by show zfv W N root < 9223372036854775808; omega)
 rw [hdv,← hZ] at hcall
 have hcall2 : zaj Tryz.prog zbd [zaB (redL W N root N),.I 0,.I 0,.rs 0 0 Z,.rs 1 0 Z] [⟨1,zah (List.replicate Z 0),0⟩,⟨1,zcS (List.replicate Z false),0⟩] (.I (zfv W N root)) [some ⟨1,zah y.1,0⟩,some ⟨1,zcS y.2,0⟩]:=hcall
 have hr1 : zah (List.replicate Z (0 : Int)) = List.replicate Z [AV.I 0]:=by simp
 have hr2 : zcS (List.replicate Z false) = List.replicate Z [AV.B false]:=by simp
 rw [hr1,hr2] at hcall2
 have f1:=ztx N (by omega)
 rw [← hZ] at f1
 have hcu : IntKind.u64.wrap (N : Int) = N:=wu64 (by omega) (by omega)
 refine zaO ⟨73,[(4,.I (zfv W N root))],[],12000⟩ rfl ?_ ?_
 ·simp [-binV,zfD,hcu,f1]
  refine ⟨by omega,by omega,?_⟩
  refine zrL (i:=9040) (j:=9080) (by omega) rfl rfl (e1':=⟨1,List.replicate Z [AV.I 0],0⟩) (e2':=⟨1,List.replicate Z [AV.B false],0⟩) (by simp) (by simp) hcall2 (by simp) (by simp) ?_
  simp
  exact ⟨rfl,LeH [] []⟩
 refine zag ?_
 exact ⟨.inr rfl,zam.one (by simp)⟩
end
end Go.Proofs.YtfdbhehkkobfgaaGreat
