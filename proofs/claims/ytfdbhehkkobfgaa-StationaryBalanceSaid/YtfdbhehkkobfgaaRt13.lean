/- Texts of this claim,merged. -/
import Derived.Test.YtfdbhehkkobfgaaRt12
import Derived.Test.YtfdbhehkkobfgaaRt11
import Derived.Test.YtfdbhehkkobfgaaRt8
import Derived.Test.YtfdbhehkkobfgaaRt6
import Derived.Test.YtfdbhehkkobfgaaRt7
import Derived.Test.YtfdbhehkkobfgaaRt10
set_option linter.unusedSimpArgs false
set_option linter.unusedVariables false
set_option linter.unusedSectionVars false
namespace Go.Proofs.Ytfdbhehkkobfgaa
open Go
theorem zlU {s N : Nat} {E E' : Nat → List (List AV)} (h : ∀ k < N,E k = E' k) : zaZ s N E = zaZ s N E':=by
 unfold zaZ
 rw [zlo (E:=E) (E':=E') fun k hk=>by rw [h k hk]]
 congr 1
 unfold famH
 refine List.map_congr_left fun k hk=>?_
 rw [h k (List.mem_range.1 hk)]
theorem zfS {B B' : Nat → Nat → Nat} {M k : Nat} (h : ∀ j,j < M → B k j = B' k j) : uRow B M k = uRow B' M k:=by
 unfold uRow
 refine List.map_congr_left fun j hj=>?_
 rw [h j (List.mem_range.1 hj)]
def rowW (W : Mat) (N i : Nat) : List Int:=(List.range (N + 1)).map fun j=>W i j
theorem zmn (W : Mat) (N i : Nat) : (rowW W N i).length = N + 1:=by simp [rowW]
theorem zr2 {W : Mat} {N i c : Nat} (h : c < (rowW W N i).length) : (rowW W N i)[c] = W i c:=by simp [rowW]
section
variable (K : List Int) (L : List (List Int)) (W : Mat) (N root : Nat) (hl : L.length = N + 1) (h8 : N ≤ 8) (hr : root < N + 1)
 (hL : ∀ i,i < N + 1 → L[i]? = some (rowW W N i)) (hW : ∀ i j,0 ≤ W i j ∧ W i j ≤ 8)
 (hm : ∀ i,i < N + 1 → zaj Try.prog zaG [eWk K L,.I i] [] (.I (smN (N + 1) (W i))) [])
 (hs : ∀ i,i < N + 1 → 0 ≤ smN (N + 1) (W i) - W i i ∧ smN (N + 1) (W i) ≤ 100)
 (hA : MM N (redM W N root)) (hp : ∀ k,k ≤ N → (zde k fun i=>redM W N root i i) ≤ 722204136308736)
include hl h8 hr hL hW hm hs hA hp
set_option maxRecDepth 100000 in
set_option maxHeartbeats 8000000 in
theorem zp3 : zaj Try.prog za2 [eWk K L,.I root] [] (.I (zdy W N root)) []:=by
 refine zeh.acalls (nbz rfl) (nbz rfl) (Nat.le_refl _) ?_
 show awp _ 0 _ _ ⟨139,[(0,eWk K L),(1,.I root)],[],16⟩
 have hlz : ∀ i : Nat,i < N + 1 → i < L.length:=fun i hi=>by omega
 have hLg : ∀ (i : Nat) (h : i < L.length),L[i] = rowW W N i:=fun i h=>by
  have:=hL i (by omega)
  rw [List.getElem?_eq_getElem h] at this
  exact Option.some.inj this
 refine rx (s:=?z1) [1,2] [] [16] rfl ?p1 ?r1
 case p1=>simp; rfl
 refine rx (s:=?z2) [1,2,5] [] [] rfl ?p2 ?r2
 case p2=>simp; rfl
 refine zaw (ι:=Unit) (fun _=>⟨139,[(5,.rs 50 0 N)],zaZ 1 N (uRow (b0 W N root) N),9000⟩) (fun _=>True) ?_ fun _ _=>?_
 ·refine rx (s:=?z3) [1,2,5,18,19,20] [] [] rfl ?p3 ?r3
  case p3=>simp [hl]; rfl
  refine zaf ?_
  refine zap (ι:=Nat) (fun i=>⟨139,[(1,.I root),(2,.pv [ints K,zbj L]),(5,.rs 50 0 (cntS root i)),(18,zbj L),(19,.I (N + 1 : Nat)),(20,.I i)],zaZ 1 (cntS root i) (uRow (b0 W N root) N),3000⟩) (fun i=>i ≤ N + 1) (fun i=>N + 1 - i) 0 (Nat.zero_le _) ?_ ?_
  ·refine Le.lst [] [] [(50,1)] rfl (by simp) (by simp) (by simp) (by simp) (by simp) (by simp) (by simp) (by simp [Up,zfn]) (by simp [zfn,famH,famO])
  intro i hi
  refine zab ⟨139,[(1,.I root),(2,.pv [ints K,zbj L]),(5,.rs 50 0 (cntS root i)),(18,zbj L),(19,.I (N + 1 : Nat)),(20,.I i),(21,.B (decide (i < N + 1)))],zaZ 1 (cntS root i) (uRow (b0 W N root) N),3100⟩ rfl ?_ ?_
  ·simp
   exact Le.slot (by omega) (by simp [beqN] <;> omega)
  refine zaa ?_
  refine zad _ rfl (fun hc=>?_) fun hc=>?_
  ·rw [decide_eq_true_eq] at hc
   have hw1 : IntKind.i64.wrap ((i : Int) + 1) = (i : Int) + 1:=w64 (by omega) (by omega)
   have hil:=hlz i hc
   have hLi:=hLg i hil
   refine zae ?_
   refine zaw (ι:=Unit) (fun _=>⟨139,[(1,.I root),(2,.pv [ints K,zbj L]),(5,.rs 50 0 (cntS root (i + 1))),(18,zbj L),(19,.I (N + 1 : Nat)),(20,.I i)],zaZ 1 (cntS root (i + 1)) (uRow (b0 W N root) N),8000⟩) (fun _=>True) ?_ fun _ _=>?_
   ·refine zaf ?_
    refine zab ⟨139,[(1,.I root),(2,.pv [ints K,zbj L]),(5,.rs 50 0 (cntS root i)),(6,.I i),(7,ints (rowW W N i)),(18,zbj L),(19,.I (N + 1 : Nat)),(20,.I i)],zaZ 1 (cntS root i) (uRow (b0 W N root) N),3200⟩ rfl ?_ ?_
    ·simp [hil,hLi]
     exact Le.slot (by omega) (by simp)
    refine zaa ?_
    refine zab ⟨139,[(1,.I root),(2,.pv [ints K,zbj L]),(5,.rs 50 0 (cntS root i)),(6,.I i),(7,ints (rowW W N i)),(18,zbj L),(19,.I (N + 1 : Nat)),(20,.I i),(27,.B (decide (i = root)))],zaZ 1 (cntS root i) (uRow (b0 W N root) N),3300⟩ rfl ?_ ?_
    ·simp
     exact Le.slot (by omega) (by simp [beqN] <;> omega)
    refine zad _ rfl (fun he=>?_) fun he=>?_
    ·rw [decide_eq_true_eq] at he
     subst he
     refine zal ?_
     refine hit ?_
     refine ⟨(),trivial,?_⟩
     rw [zky]
     exact Le.slot (by omega) (by simp)
    rw [decide_eq_false_iff_not] at he
    have hML:=znY he hr hc
    have hms:=zkT he
    refine zae ?_
    refine zab ⟨139,[(1,.I root),(2,.pv [ints K,zbj L]),(5,.rs 50 0 (cntS root i)),(6,.I i),(7,ints (rowW W N i)),(8,.nilS),(18,zbj L),(19,.I (N + 1 : Nat)),(20,.I i)],zaZ 1 (cntS root i) (uRow (b0 W N root) N),3400⟩ rfl ?_ ?_
    ·simp
     exact Le.slot (by omega) (by simp)
    refine zaa ?_
    refine zab ⟨139,[(1,.I root),(2,.pv [ints K,zbj L]),(5,.rs 50 0 (cntS root i)),(6,.I i),(8,.nilS),(18,zbj L),(19,.I (N + 1 : Nat)),(20,.I i),(28,ints (rowW W N i)),(29,.I (N + 1 : Nat)),(30,.I 0)],zaZ 1 (cntS root i) (uRow (b0 W N root) N),3500⟩ rfl ?_ ?_
    ·simp [zmn]
     exact Le.slot (by omega) (by simp)
    refine zaf ?_
    refine zap (ι:=Nat) (fun c=>⟨139,[(1,.I root),(2,.pv [ints K,zbj L]),(5,.rs 50 0 (cntS root i)),(6,.I i),(8,.rs 60 0 (cntS root c)),(18,zbj L),(19,.I (N + 1 : Nat)),(20,.I i),(28,ints (rowW W N i)),(29,.I (N + 1 : Nat)),(30,.I c)],(60,some ⟨1,uRow (b0 W N root) (cntS root c) (cntS root i),0⟩) :: zaZ 1 (cntS root i) (uRow (b0 W N root) N),4000⟩) (fun c=>c ≤ N + 1) (fun c=>N + 1 - c) 0 (Nat.zero_le _) ?_ ?_
    ·exact Le.famX (m:=0) true ⟨by omega,.inl (by omega)⟩ (by omega) (fun k _=>zbH _ _ k) (fun k hk=>zdi hk) zf8 (.inr (.inl ⟨rfl,by simp [zfn,uRow]⟩)) (by simp [Up,famG,lkp,zfn])
    intro c hcl
    refine zab ⟨139,[(1,.I root),(2,.pv [ints K,zbj L]),(5,.rs 50 0 (cntS root i)),(6,.I i),(8,.rs 60 0 (cntS root c)),(18,zbj L),(19,.I (N + 1 : Nat)),(20,.I i),(28,ints (rowW W N i)),(29,.I (N + 1 : Nat)),(30,.I c),(31,.B (decide (c < N + 1)))],(60,some ⟨1,uRow (b0 W N root) (cntS root c) (cntS root i),0⟩) :: zaZ 1 (cntS root i) (uRow (b0 W N root) N),4100⟩ rfl ?_ ?_
    ·simp
     exact Le.slot (by omega) (by simp [beqN] <;> omega)
    refine zaa ?_
    refine zad _ rfl (fun hcc=>?_) fun hcc=>?_
    ·rw [decide_eq_true_eq] at hcc
     have hw2 : IntKind.i64.wrap ((c : Int) + 1) = (c : Int) + 1:=w64 (by omega) (by omega)
     have hWic:=hW i c
     have hsi:=hs i hc
     have hfam : ∀ {a b d e : Nat × Option Ent} {t : List (Nat × AV)} {n k : Nat},k < cntS root i → a.1 ≠ k + 1000 → b.1 ≠ k + 1000 → d.1 ≠ k + 1000 → e.1 ≠ k + 1000 → (⟨139,t,a :: b :: d :: e :: zaZ 1 (cntS root i) (uRow (b0 W N root) N),n⟩ : St).hp (k + 1000) = some ⟨1,uRow (b0 W N root) N k,0⟩:=fun {a b d e t n k} hk h1 h2 h3 h4=>by
      obtain ⟨a1,a2⟩:=a; obtain ⟨b1,b2⟩:=b; obtain ⟨d1,d2⟩:=d; obtain ⟨e1,e2⟩:=e
      rw [hpN h1,hpN h2,hpN h3,hpN h4,zdi hk]
     refine zae ?_
     refine zaw (ι:=Unit) (fun _=>⟨139,[(1,.I root),(2,.pv [ints K,zbj L]),(5,.rs 50 0 (cntS root i)),(6,.I i),(8,.rs 60 0 (cntS root (c + 1))),(18,zbj L),(19,.I (N + 1 : Nat)),(20,.I i),(28,ints (rowW W N i)),(29,.I (N + 1 : Nat)),(30,.I c)],(60,some ⟨1,uRow (b0 W N root) (cntS root (c + 1)) (cntS root i),0⟩) :: zaZ 1 (cntS root i) (uRow (b0 W N root) N),7000⟩) (fun _=>True) ?_ fun _ _=>?_
     ·refine zaf ?_
      refine zab ⟨139,[(1,.I root),(2,.pv [ints K,zbj L]),(5,.rs 50 0 (cntS root i)),(6,.I i),(8,.rs 60 0 (cntS root c)),(9,.I c),(10,.I (W i c)),(18,zbj L),(19,.I (N + 1 : Nat)),(20,.I i),(28,ints (rowW W N i)),(29,.I (N + 1 : Nat)),(30,.I c)],(60,some ⟨1,uRow (b0 W N root) (cntS root c) (cntS root i),0⟩) :: zaZ 1 (cntS root i) (uRow (b0 W N root) N),4200⟩ rfl ?_ ?_
      ·simp [hcc,zmn,zr2]
       exact Le.slot (by omega) (by simp)
      refine zaf ?_
      refine zab ⟨139,[(1,.I root),(2,.pv [ints K,zbj L]),(5,.rs 50 0 (cntS root i)),(6,.I i),(8,.rs 60 0 (cntS root c)),(9,.I c),(10,.I (W i c)),(18,zbj L),(19,.I (N + 1 : Nat)),(20,.I i),(28,ints (rowW W N i)),(29,.I (N + 1 : Nat)),(30,.I c),(42,.B (decide (c = root)))],(60,some ⟨1,uRow (b0 W N root) (cntS root c) (cntS root i),0⟩) :: zaZ 1 (cntS root i) (uRow (b0 W N root) N),4300⟩ rfl ?_ ?_
      ·simp
       exact Le.slot (by omega) (by simp [beqN] <;> omega)
      refine zad _ rfl (fun h1=>?_) fun h1=>?_
      ·rw [decide_eq_true_eq] at h1
       subst h1
       refine zae ?_
       refine ⟨(),trivial,?_⟩
       rw [zky]
       exact Le.slot (by omega) (by simp)
      rw [decide_eq_false_iff_not] at h1
      have hcs:=zkT h1
      have hcl2:=znY h1 hr hcc
      refine zab ⟨139,[(1,.I root),(2,.pv [ints K,zbj L]),(5,.rs 50 0 (cntS root i)),(6,.I i),(8,.rs 60 0 (cntS root c)),(9,.I c),(10,.I (W i c)),(18,zbj L),(19,.I (N + 1 : Nat)),(20,.I i),(28,ints (rowW W N i)),(29,.I (N + 1 : Nat)),(30,.I c),(46,.B (decide (c = i)))],(60,some ⟨1,uRow (b0 W N root) (cntS root c) (cntS root i),0⟩) :: zaZ 1 (cntS root i) (uRow (b0 W N root) N),4500⟩ rfl ?_ ?_
      ·simp
       exact Le.slot (by omega) (by simp [beqN] <;> omega)
      refine zad _ rfl (fun h2=>?_) fun h2=>?_
      ·rw [decide_eq_true_eq] at h2
       subst h2
       have hv:=zse (W:=W) (N:=N) he rfl rfl hsi.1 (by omega)
       have hwa : IntKind.i64.wrap (smN (N + 1) (W c) - W c c) = smN (N + 1) (W c) - W c c:=w64 (by omega) (by omega)
       have hwb : IntKind.u64.wrap (smN (N + 1) (W c) - W c c) = ((b0 W N root (cntS root c) (cntS root c) : Nat) : Int):=by rw [hv]; exact wu64 (by omega) (by omega)
       refine zaC rfl ?_
       simp
       refine zan (hm c hc) (by simp) ?_
       simp [hwa,hwb,zby]
       refine ⟨by omega,by omega,?_⟩
       refine Le.famX (m:=4564) false ⟨by omega,.inr (by omega)⟩ (by omega) (fun k _=>zbH _ _ k) (fun k hk=>hfam hk (by simp only; omega) (by simp only; omega) (by simp only; omega) (by simp only; omega)) (by simp [zf8]) (.inr (.inr ⟨rfl,_,zbH _ _ _,rfl,?_⟩)) (by simp [Up,famG,lkp,hcs])
       rw [zeR,if_pos rfl,hcs,zka,List.take_of_length_le (by rw [zby]; exact Nat.le_refl _)]
      ·rw [decide_eq_false_iff_not] at h2
       have hv:=ztB (W:=W) (N:=N) he h1 (fun e=>h2 e.symm) rfl hWic.1 hWic.2
       have hwa : IntKind.u64.wrap (W i c) = W i c:=wu64 (by omega) (by omega)
       have hwb : IntKind.u64.wrap (2305843009213693951 - W i c) = 2305843009213693951 - W i c:=wu64 (by omega) (by omega)
       have hwc : (2305843009213693951 - W i c).tmod 2305843009213693951 = ((b0 W N root (cntS root i) (cntS root c) : Nat) : Int):=by rw [hv,Int.tmod_eq_emod_of_nonneg (by omega)]
       refine zaC rfl ?_
       simp [hwa,hwb,hwc,zby]
       refine ⟨by omega,by omega,?_⟩
       refine Le.famX (m:=4548) false ⟨by omega,.inr (by omega)⟩ (by omega) (fun k _=>zbH _ _ k) (fun k hk=>hfam hk (by simp only; omega) (by simp only; omega) (by simp only; omega) (by simp only; omega)) (by simp [zf8]) (.inr (.inr ⟨rfl,_,zbH _ _ _,rfl,?_⟩)) (by simp [Up,famG,lkp,hcs])
       rw [zeR,if_pos rfl,hcs,zka,List.take_of_length_le (by rw [zby]; exact Nat.le_refl _)]
     refine zac (s:=?z59) rfl ?o59 ?q59
     case o59=>simp [hw2]; rfl
     exact ⟨c + 1,by omega,by omega,Le.famX (m:=60) false ⟨by omega,.inl (by omega)⟩ (by omega) (fun k _=>zbH _ _ k) (fun k hk=>by rw [hpN (by omega),zdi hk]) (by simp [zf8]) (.inr (.inr ⟨rfl,_,zbH _ _ _,rfl,by rw [zeR,if_pos rfl]⟩)) (by simp [Up,famG,lkp])⟩
    rw [decide_eq_false_iff_not] at hcc
    obtain rfl : c = N + 1:=by omega
    refine zal ?_
    refine hit ?_
    refine zaC rfl ?_
    simp [zf8,zmy]
    refine ⟨by omega,by omega,?_⟩
    rw [hms]
    refine Le.famNew (m:=60) (x:=4124) (E:=uRow (b0 W N root) N) (R:=uRow (b0 W N root) (cntS root (N + 1)) (cntS root i)) (by omega) (.inl (by omega)) (by omega) (by omega) (fun k _=>zbH _ _ k) (zbH _ _ _) (fun _ _=>rfl) (by rw [zmY hr]) (fun k hk=>?_) ?_ ?_ ?_
    ·rw [hpN (by omega),hpN (by omega),hpN (by omega),hpN (by omega),zdi hk]
    ·rw [hpN (by omega),hpN (by omega),hpN (by omega),zeR,if_pos rfl]
    ·rw [zeR,if_pos rfl,zby,List.take_of_length_le (by rw [zmy]; exact Nat.le_refl _)]
    ·simp [famN,lkp]
   have hcb : cntS root (i + 1) ≤ i + 1:=by unfold cntS; split <;> omega
   refine zac (s:=?z64) rfl ?o64 ?q64
   case o64=>simp [hw1]; rfl
   exact ⟨i + 1,by omega,by omega,Le.famK (by omega) (fun k _=>zbH _ _ k) (by simp [Up,famG,lkp])⟩
  ·rw [decide_eq_false_iff_not] at hc
   obtain rfl : i = N + 1:=by omega
   refine zal ?_
   refine hit ?_
   refine ⟨(),trivial,?_⟩
   rw [zmY hr]
   exact Le.slot (by omega) (by simp)
 refine zab ⟨139,[(5,.rs 50 0 N),(11,U 1)],zaZ 1 N (uRow (b0 W N root) N),9100⟩ rfl ?_ ?_
 ·simp
  exact Le.slot (by omega) (by simp)
 refine zaa ?_
 refine zab ⟨139,[(5,.rs 50 0 N),(11,U 1),(66,.I N),(67,.I 0)],zaZ 1 N (uRow (b0 W N root) N),9200⟩ rfl ?_ ?_
 ·simp
  exact Le.slot (by omega) (by simp)
 refine zaf ?_
 refine zap (ι:=Nat × Nat × (Nat → Nat → Nat)) (fun x=>⟨139,[(5,.rs 50 0 N),(11,U (x.2.1 : Int)),(66,.I N),(67,.I x.1)],zaZ 1 N (uRow x.2.2 N),10000⟩) (fun x=>zht (redM W N root) N x.1 x.2.1 x.2.2) (fun x=>N - x.1) (0,1,b0 W N root) (zht.start W N root) (Le.slot (by omega) (by simp)) ?_
 rintro ⟨k,o,B⟩ hE
 simp only at hE
 refine zab ⟨139,[(5,.rs 50 0 N),(11,U o),(66,.I N),(67,.I k),(68,.B (decide (k < N)))],zaZ 1 N (uRow B N),10100⟩ rfl ?_ ?_
 ·simp
  exact Le.slot (by omega) (by simp [beqN] <;> omega)
 refine zaa ?_
 refine zad _ rfl (fun hk=>?_) fun hk=>?_
 ·rw [decide_eq_true_eq] at hk
  have hw1 : IntKind.i64.wrap ((k : Int) + 1) = (k : Int) + 1:=w64 (by omega) (by omega)
  have hpiv:=hE.piv hA hk (hp (k + 1) hk)
  have hlt:=hE.lt
  have holt:=hE.olt
  have hP : (2305843009213693951 : Nat) = P61:=rfl
  obtain ⟨inv,hinv⟩ : ∃ z,z = B k k ^ (P61 - 2) % P61:=⟨_,rfl⟩
  have hic:=znE (B k k) (hlt k k)
  rw [← hinv] at hic
  have hinvl : inv < 2305843009213693951:=by rw [hinv]; exact Nat.mod_lt _ (by decide)
  have hone : B k k * inv % 2305843009213693951 = 1:=by
   have h1:=zt8 hpiv (hlt k k)
   rw [hinv,hP,Nat.mul_mod_mod]
   exact h1
  have hnx:=hE.next hk hone
  have htc:=zgV o (B k k) holt (hlt k k)
  rw [← hP] at htc
  obtain ⟨o2,ho2⟩ : ∃ z,z = o * B k k % 2305843009213693951:=⟨_,rfl⟩
  rw [← ho2] at htc hnx
  refine zae ?_
  refine zaw (ι:=Unit) (fun _=>⟨139,[(5,.rs 50 0 N),(11,U o2),(66,.I N),(67,.I k)],zaZ 1 N (uRow (newB 2305843009213693951 k inv B) N),18000⟩) (fun _=>True) ?_ fun _ _=>?_
  ·refine zaf ?_
   refine zab ⟨139,[(5,.rs 50 0 N),(11,U o),(12,.I k),(66,.I N),(67,.I k)],zaZ 1 N (uRow B N),10200⟩ rfl ?_ ?_
   ·simp
    exact Le.slot (by omega) (by simp)
   refine zab ⟨139,[(5,.rs 50 0 N),(11,U o2),(12,.I k),(66,.I N),(67,.I k)],zaZ 1 N (uRow B N),10400⟩ rfl ?_ ?_
   ·simp [zf8,zdi hk,zdW hk,famV,zby,zhj,zd6 hk,hk]
    refine zan htc (by simp) ?_
    simp
    exact Le.slot (by omega) (by simp)
   refine zab ⟨139,[(5,.rs 50 0 N),(11,U o2),(12,.I k),(13,U inv),(66,.I N),(67,.I k)],zaZ 1 N (uRow B N),10600⟩ rfl ?_ ?_
   ·simp [zf8,zdi hk,zdW hk,famV,zby,zhj,zd6 hk,hk]
    refine zan hic (by simp) ?_
    simp
    exact Le.slot (by omega) (by simp)
   refine zab ⟨139,[(5,.rs 50 0 N),(11,U o2),(12,.I k),(13,U inv),(14,.I (k + 1 : Nat)),(66,.I N),(67,.I k)],zaZ 1 N (uRow B N),10700⟩ rfl ?_ ?_
   ·simp [hw1]
    exact Le.slot (by omega) (by simp)
   refine zaf ?_
   refine zap (ι:=Nat) (fun i=>⟨139,[(5,.rs 50 0 N),(11,U o2),(12,.I k),(13,U inv),(14,.I i),(66,.I N),(67,.I k)],zaZ 1 N (uRow (midB 2305843009213693951 k inv B i k) N),11000⟩) (fun i=>k < i ∧ i ≤ N) (fun i=>N - i) (k + 1) ⟨by omega,by omega⟩ (by rw [zpm]; exact Le.slot (by omega) (by simp)) ?_
   rintro i ⟨hki,hiN⟩
   refine zaa ?_
   refine zab ⟨139,[(5,.rs 50 0 N),(11,U o2),(12,.I k),(13,U inv),(14,.I i),(66,.I N),(67,.I k),(92,.B (decide (i < N)))],zaZ 1 N (uRow (midB 2305843009213693951 k inv B i k) N),11100⟩ rfl ?_ ?_
   ·simp
    exact Le.slot (by omega) (by simp [beqN] <;> omega)
   refine zad _ rfl (fun hi=>?_) fun hi=>?_
   ·rw [decide_eq_true_eq] at hi
    have hw2 : IntKind.i64.wrap ((i : Int) + 1) = (i : Int) + 1:=w64 (by omega) (by omega)
    have hsc:=zgV (B i k) inv (hlt i k) hinvl
    rw [← hP] at hsc
    have hshl : B i k * inv % 2305843009213693951 < 2305843009213693951:=Nat.mod_lt _ (by decide)
    obtain ⟨sh,hsh⟩ : ∃ z,z = B i k * inv % 2305843009213693951:=⟨_,rfl⟩
    rw [← hsh] at hsc hshl
    refine zae ?_
    refine zaw (ι:=Unit) (fun _=>⟨139,[(5,.rs 50 0 N),(11,U o2),(12,.I k),(13,U inv),(14,.I i),(66,.I N),(67,.I k)],zaZ 1 N (uRow (midB 2305843009213693951 k inv B i N) N),16000⟩) (fun _=>True) ?_ fun _ _=>?_
    ·refine zaf ?_
     refine zab ⟨139,[(5,.rs 50 0 N),(11,U o2),(12,.I k),(13,U inv),(14,.I i),(15,U sh),(66,.I N),(67,.I k)],zaZ 1 N (uRow (midB 2305843009213693951 k inv B i k) N),11400⟩ rfl ?_ ?_
     ·simp [zf8,zdi hi,zdW hi,famV,zby,zhj,zd6 hk,hi,hk,zrK hki]
      refine zan hsc (by simp) ?_
      simp
      exact Le.slot (by omega) (by simp)
     refine zab ⟨139,[(5,.rs 50 0 N),(11,U o2),(12,.I k),(13,U inv),(14,.I i),(15,U sh),(16,.I k),(66,.I N),(67,.I k)],zaZ 1 N (uRow (midB 2305843009213693951 k inv B i k) N),11500⟩ rfl ?_ ?_
     ·simp
      exact Le.slot (by omega) (by simp)
     refine zaf ?_
     refine zap (ι:=Nat) (fun j=>⟨139,[(5,.rs 50 0 N),(11,U o2),(12,.I k),(13,U inv),(14,.I i),(15,U sh),(16,.I j),(66,.I N),(67,.I k)],zaZ 1 N (uRow (midB 2305843009213693951 k inv B i j) N),12000⟩) (fun j=>k ≤ j ∧ j ≤ N) (fun j=>N - j) k ⟨by omega,by omega⟩ (Le.slot (by omega) (by simp)) ?_
     rintro j ⟨hkj,hjN⟩
     refine zaa ?_
     refine zab ⟨139,[(5,.rs 50 0 N),(11,U o2),(12,.I k),(13,U inv),(14,.I i),(15,U sh),(16,.I j),(66,.I N),(67,.I k),(108,.B (decide (j < N)))],zaZ 1 N (uRow (midB 2305843009213693951 k inv B i j) N),12100⟩ rfl ?_ ?_
     ·simp
      exact Le.slot (by omega) (by simp [beqN] <;> omega)
     refine zad _ rfl (fun hj=>?_) fun hj=>?_
     ·rw [decide_eq_true_eq] at hj
      have hw3 : IntKind.i64.wrap ((j : Int) + 1) = (j : Int) + 1:=w64 (by omega) (by omega)
      have htt:=zgV sh (B k j) hshl (hlt k j)
      rw [← hP] at htt
      have htl : sh * B k j % 2305843009213693951 < 2305843009213693951:=Nat.mod_lt _ (by decide)
      have hval:=zqW (hlt i j) htl
      have hset : ∀ c,c < N → midB 2305843009213693951 k inv B i (j + 1) i c = if c = j then (B i j + 2305843009213693951 - sh * B k j % 2305843009213693951) % 2305843009213693951 else midB 2305843009213693951 k inv B i j i c:=fun c _=>by rw [hsh]; exact zqm hki hkj
      have hrow:=zqH (M:=N) hset
      obtain ⟨tt,htd⟩ : ∃ z,z = sh * B k j % 2305843009213693951:=⟨_,rfl⟩
      rw [← htd] at htt hval hrow
      obtain ⟨vv,hvd⟩ : ∃ z,z = (B i j + 2305843009213693951 - tt) % 2305843009213693951:=⟨_,rfl⟩
      rw [← hvd] at hval hrow
      have hcu:=zsi (P:=2305843009213693951) (inv:=inv) (B:=B) hki hkj
      have hlow : midB 2305843009213693951 k inv B i j k j = B k j:=zrS (Nat.le_refl k)
      refine zae ?_
      refine zaw (ι:=Unit) (fun _=>⟨139,[(5,.rs 50 0 N),(11,U o2),(12,.I k),(13,U inv),(14,.I i),(15,U sh),(16,.I j),(66,.I N),(67,.I k)],zaZ 1 N (uRow (midB 2305843009213693951 k inv B i (j + 1)) N),14000⟩) (fun _=>True) ?_ fun _ _=>?_
      ·refine zaf ?_
       refine zc3 rfl ?_
       simp [zf8,zdi hi,zdi hk,zdW hi,zdW hk,famV,zby,zhj,zd6 hj,hi,hk,hj,hcu,hlow]
       refine zan htt (by simp) ?_
       simp [hval,zf8,zdi hi,zdi hk,zdW hi,zdW hk,famV,zby,zhj,zd6 hj,hi,hk,hj,hcu,hlow,hrow]
       refine ⟨rfl,?_⟩
       refine Le.famSet (a:=i) (by omega) (fun a _ ha=>?_) (by rw [zby,zby]) (by simp)
       exact zfS fun c _=>zo0 ha
      refine zac (s:=?z109) rfl ?o109 ?q109
      case o109=>simp [hw3]; rfl
      exact ⟨j + 1,⟨by omega,by omega⟩,by omega,Le.famK (by omega) (fun k _=>zbH _ _ k) (by simp [Up,famG,lkp])⟩
     ·rw [decide_eq_false_iff_not] at hj
      obtain rfl : j = N:=by omega
      refine zal ?_
      refine hit ?_
      exact ⟨(),trivial,Le.slot (by omega) (by simp)⟩
    refine zac (s:=?z93) rfl ?o93 ?q93
    case o93=>simp [hw2]; rfl
    have hE2 : uRow (midB 2305843009213693951 k inv B i N) N = uRow (midB 2305843009213693951 k inv B (i + 1) k) N:=by
     funext a
     exact zfS fun c hc=>zqV hc
    refine ⟨i + 1,⟨by omega,by omega⟩,by omega,?_⟩
    rw [hE2]
    exact Le.famK (by omega) (fun k _=>zbH _ _ k) (by simp [Up,famG,lkp])
   ·rw [decide_eq_false_iff_not] at hi
    obtain rfl : i = N:=by omega
    refine zal ?_
    refine hit ?_
    refine ⟨(),trivial,?_⟩
    rw [zlU (E:=uRow (newB 2305843009213693951 k inv B) i) (E':=uRow (midB 2305843009213693951 k inv B i k) i) fun a ha=>zfS fun c _=>(zr3 ha).symm]
    exact Le.slot (by omega) (by simp)
  refine zac (s:=?z136) rfl ?o136 ?q136
  case o136=>simp [hw1]; rfl
  exact ⟨(k + 1,o2,newB 2305843009213693951 k inv B),hnx,by simp only; omega,Le.famK (by omega) (fun k _=>zbH _ _ k) (by simp [Up,famG,lkp])⟩
 ·rw [decide_eq_false_iff_not] at hk
  have hkN : k = N:=by have:=hE.le; omega
  subst hkN
  have hdone:=hE.done hA (hp k (Nat.le_refl k))
  have ho:=hE.olt
  refine zal ?_
  refine hit ?_
  have hw : IntKind.i64.wrap (o : Int) = zdy W k root:=by
   rw [w64 (by omega) (by omega),hdone]
   rfl
  refine zab ⟨139,[(4,.I (zdy W k root))],[],20000⟩ rfl ?_ ?_
  ·simp [hw]
   exact Le.keepF rfl (by simp) (by simp) (fun j e h=>by simp at h)
  refine zag ?_
  exact ⟨.inr rfl,zao.one (by simp)⟩
end
theorem zkx : ∀ (l : List Nat) (x : Nat),gcdL (l ++ [x]) = Nat.gcd (gcdL l) x
 | [],x=>by simp [gcdL]
 | y :: l,x=>by
   simp only [List.cons_append,gcdL]
   rw [zkx l x,Nat.gcd_assoc]
def zei (G : Gr) (S : List Int) (r : Int) : List Int × Int:=if zak G S = [] then ([],11) else if 9 < (zak G S).length then ([],3) else (outK G S r,0)
def oA (G : Gr) (S : List Int) (r : Int) (i : Nat) : List Int:=(List.range G.size.toNat).map fun (k : Nat)=>if (k : Int) ∈ (zak G S).take i then ((rawK G S r ((zak G S).idxOf (k : Int)) : Nat) : Int) else 0
def oB (G : Gr) (S : List Int) (r : Int) (j : Nat) : List Int:=(List.range G.size.toNat).map fun (k : Nat)=>if (k : Int) ∈ zak G S then (if (k : Int) ∈ (zak G S).take j then ((rawK G S r ((zak G S).idxOf (k : Int)) / gcdL (zdl G S r) : Nat) : Int) else ((rawK G S r ((zak G S).idxOf (k : Int)) : Nat) : Int)) else 0
section
variable {G : Gr} {S : List Int} {r : Int}
theorem zsK (i : Nat) : (oA G S r i).length = G.size.toNat:=by simp [oA]
theorem zsA (i : Nat) : (oB G S r i).length = G.size.toNat:=by simp [oB]
theorem zsn : zai (oA G S r 0) = List.replicate G.size.toNat [AV.I 0]:=by simp [oA,fcd,List.map_const']
theorem zsB : oA G S r (zak G S).length = oB G S r 0:=by
 unfold oA oB
 refine List.map_congr_left fun k _=>?_
 rw [List.take_length]
 simp
theorem zsJ : oB G S r (zak G S).length = outK G S r:=by
 unfold oB outK
 refine List.map_congr_left fun k _=>?_
 rw [List.take_length]
 by_cases h : (k : Int) ∈ zak G S
 ·rw [if_pos h,if_pos h,if_pos h]
 ·rw [if_neg h,if_neg h]
theorem zhz {K : List Int} (hn : K.Nodup) {i y : Nat} (hi : i < K.length) (hy : K[i] = (y : Int)) (k : Nat) : (k : Int) ∈ K.take (i + 1) ↔ (k : Int) ∈ K.take i ∨ k = y:=by
 rw [List.take_succ_eq_append_getElem hi,List.mem_append,List.mem_singleton,hy]
 constructor
 ·rintro (h | h)
  ·exact .inl h
  ·exact .inr (by omega)
 ·rintro (h | h)
  ·exact .inl h
  ·exact .inr (by omega)
theorem zqc {K : List Int} (hn : K.Nodup) {i : Nat} (hi : i < K.length) : K[i] ∉ K.take i:=fun h=>by
 obtain ⟨j,hj,e⟩:=List.mem_iff_getElem.1 h
 simp at hj
 rw [List.getElem_take] at e
 have:=(List.getElem_inj hn).1 e
 omega
theorem zsZ {i y : Nat} (hi : i < (zak G S).length) (hy : (zak G S)[i] = (y : Int)) : (zai (oA G S r i)).set y [AV.I ((rawK G S r i : Nat) : Int)] = zai (oA G S r (i + 1)):=by
 rw [zfR]
 congr 1
 unfold oA
 rw [zj5]
 refine List.map_congr_left fun k _=>?_
 have h:=zhz zaR hi hy k
 by_cases hk : k = y
 ·subst hk
  rw [if_pos rfl,if_pos (h.2 (.inr rfl)),← hy,zaR.idxOf_getElem i hi]
 ·rw [if_neg hk]
  by_cases h1 : (k : Int) ∈ (zak G S).take i
  ·rw [if_pos h1,if_pos (h.2 (.inl h1))]
  ·rw [if_neg h1,if_neg fun q=>by rcases h.1 q with q | q; exact h1 q; exact hk q]
theorem ztm {i y : Nat} (hi : i < (zak G S).length) (hy : (zak G S)[i] = (y : Int)) (hyl : y < G.size.toNat) : (oA G S r (i + 1))[y]? = some ((rawK G S r i : Nat) : Int):=by
 unfold oA
 rw [List.getElem?_map,List.getElem?_range hyl,Option.map_some,if_pos ((zhz zaR hi hy y).2 (.inr rfl)),← hy,zaR.idxOf_getElem i hi]
theorem ztu {i y : Nat} (hi : i < (zak G S).length) (hy : (zak G S)[i] = (y : Int)) (hyl : y < G.size.toNat) : (oB G S r i)[y]? = some ((rawK G S r i : Nat) : Int):=by
 unfold oB
 have h1 : (y : Int) ∈ zak G S:=by rw [← hy]; exact List.getElem_mem hi
 have h2 : ¬ (y : Int) ∈ (zak G S).take i:=by rw [← hy]; exact zqc zaR hi
 rw [List.getElem?_map,List.getElem?_range hyl,Option.map_some,if_pos h1,if_neg h2,← hy,zaR.idxOf_getElem i hi]
theorem ztl {i y : Nat} (hi : i < (zak G S).length) (hy : (zak G S)[i] = (y : Int)) : (zai (oB G S r i)).set y [AV.I ((rawK G S r i / gcdL (zdl G S r) : Nat) : Int)] = zai (oB G S r (i + 1)):=by
 rw [zfR]
 congr 1
 unfold oB
 rw [zj5]
 refine List.map_congr_left fun k _=>?_
 have h:=zhz zaR hi hy k
 by_cases hk : k = y
 ·subst hk
  have h1 : (k : Int) ∈ zak G S:=by rw [← hy]; exact List.getElem_mem hi
  rw [if_pos rfl,if_pos h1,if_pos (h.2 (.inr rfl)),← hy,zaR.idxOf_getElem i hi]
 ·rw [if_neg hk]
  by_cases h1 : (k : Int) ∈ (zak G S).take i
  ·rw [if_pos h1,if_pos (h.2 (.inl h1))]
  ·have h2 : ¬ (k : Int) ∈ (zak G S).take (i + 1):=fun q=>by rcases h.1 q with q | q; exact h1 q; exact hk q
   rw [if_neg h1,if_neg h2]
theorem zkJ {i : Nat} (h : i < (zak G S).length) : (zez G S r)[i]? = some (zck G S r (zbT G S i)):=by
 unfold zez
 rw [List.getElem?_map,List.getElem?_eq_getElem h,zeN h]
 rfl
theorem zpy {i N : Nat} (hN : (zak G S).length = N + 1) : rowW (zdA G S r) N i = zck G S r (zbT G S i):=by
 unfold rowW zck zdA zlv
 rw [← hN]
 exact zoT (zak G S) fun y=>wayW G S r (zbT G S i) y
theorem zjP (hg : GrOk G) (hr : 1 ≤ r) (hr5 : r ≤ 5) (hS : ∀ s ∈ S,Key G s) (h9 : (zak G S).length ≤ 9) (h0 : 0 < (zak G S).length) : 0 < gcdL (zdl G S r) :=
 zm6 ⟨_,List.mem_map.2 ⟨0,List.mem_range.2 h0,rfl⟩,(zfg hg hr hr5 hS h9 h0).2.1⟩
end
section
variable (G : Gr) (S : List Int) (r : Int) (hg : GrOk G) (hr : 1 ≤ r) (hr5 : r ≤ 5) (hS : ∀ s ∈ S,Key G s)
include hg hr hr5
theorem zhE {i : Nat} (h : i < (zak G S).length) : zaj Try.prog zaG [eWk (zak G S) (zez G S r),.I i] [] (.I (zdm G S r (zbT G S i))) []:=by
 refine zrC _ _ _ _ (zkJ h) (fun x hx=>?_) ?_
 ·obtain ⟨y,_,rfl⟩:=List.mem_map.1 hx
  exact zfW hg hr hr5 _ y
 ·have:=zev (g:=G) (S:=S)
  have:=hg.1.2.1
  simp [zck]
  omega
include hS
theorem zpR (h9 : (zak G S).length ≤ 9) {i : Nat} (h : i < (zak G S).length) : zaj Try.prog za2 [eWk (zak G S) (zez G S r),.I i] [] (.I (zfh G S r i)) []:=by
 obtain ⟨N,hN⟩ : ∃ N,(zak G S).length = N + 1:=⟨(zak G S).length - 1,by omega⟩
 have hw:=zpc hg hr hS h
 have hms : ∀ j,smN (N + 1) (zdA G S r j) = zdm G S r (zbT G S j):=fun j=>by rw [← hN]; exact zhT
 have hW : ∀ i j,0 ≤ zdA G S r i j ∧ zdA G S r i j ≤ 8:=fun i j=>zfW hg hr hr5 _ _
 have hN1 : (zak G S).length - 1 = N:=by omega
 unfold zfh
 rw [hN1] at hw ⊢
 refine zp3 (zak G S) (zez G S r) (zdA G S r) N i (by simp [zez,hN]) (by omega) (by omega) (fun j hj=>?_) hW (fun j hj=>?_) (fun j hj=>?_) (zj9 hw) (fun k hk=>?_)
 ·rw [zkJ (by omega),zpy hN]
 ·rw [hms]
  exact zhE G S r hg hr hr5 (by omega)
 ·rw [hms]
  have h1:=zeT hg hr hr5 (S:=S) (zbT G S j)
  have h2 : zdA G S r j j ≤ zdm G S r (zbT G S j):=zmm (fun v hv=>by
   obtain ⟨y,_,rfl⟩:=List.mem_map.1 hv
   exact (zfW hg hr hr5 _ y).1) (List.mem_map.2 ⟨zbT G S j,zfJ (by omega),rfl⟩)
  omega
 ·have:=ztg hg hr hr5 hS h9 (i:=i) (k:=k) (by omega) (by omega)
  rw [hN1] at this
  exact this
end
section
variable (g : Gr) (p : Pol) (r : Int) (hg : GrOk g) (hp : zb9 g.size p) (hN : g.size < 20) (hr : 1 ≤ r) (hr5 : r ≤ 5) (hs : p.seeds.length ≤ 64) (ht : p.table.length ≤ 8)
include hg hp hN hr hr5 hs ht
theorem zm2 : ∀ s ∈ p.seeds,Key (zam g p.lv) s:=fun s h=>by
 have hR:=hp.2.1
 obtain ⟨i,hi,rfl⟩:=List.getElem_of_mem h
 have:=hR i hi
 exact ⟨this.1,by show p.seeds[i] < g.size; omega⟩
set_option maxRecDepth 100000 in
set_option maxHeartbeats 8000000 in
theorem zcs : zaj Try.prog zaB [eG g,eP p,.I r] [] (.tup [ints (zei (zam g p.lv) p.seeds r).1,.I (zei (zam g p.lv) p.seeds r).2]) []:=by
 refine zfl.acalls (nbz rfl) (nbz rfl) (Nat.le_refl _) ?_
 show awp _ 0 _ _ ⟨81,[(0,eG g),(1,eP p),(2,.I r)],[],16⟩
 have hgiv:=zmB g p r hg hp hN hr hr5 hs ht
 have hGg:=hg.level p.lv
 have hS:=zm2 g p r hg hp hN hr hr5 hs ht
 have hsz : (zam g p.lv).size = g.size:=rfl
 obtain ⟨G,hGd⟩ : ∃ G,G = zam g p.lv:=⟨_,rfl⟩
 rw [← hGd] at hgiv hGg hS hsz ⊢
 have hmass:=fun i (h : i < (zak G p.seeds).length)=>zhE G p.seeds r hGg hr hr5 (i:=i) h
 have htree:=fun (h9 : (zak G p.seeds).length ≤ 9) i (h : i < (zak G p.seeds).length)=>zpR G p.seeds r hGg hr hr5 hS h9 (i:=i) h
 have hraw:=fun (h9 : (zak G p.seeds).length ≤ 9) i (h : i < (zak G p.seeds).length)=>zfg hGg hr hr5 hS h9 (i:=i) h
 have hgp:=fun (h9 : (zak G p.seeds).length ≤ 9) (h : 0 < (zak G p.seeds).length)=>zjP hGg hr hr5 hS h9 h
 have hin:=fun i (h : i < (zak G p.seeds).length)=>zaQ.1 (List.getElem_mem h)
 have hK64 : (zak G p.seeds).length ≤ 64:=by
  have:=zev (g:=G) (S:=p.seeds)
  have:=hGg.1.2.1
  omega
 have hs0:=hg.1.1
 have hs1:=hg.1.2.1
 have hoA:=fun i y (h : i < (zak G p.seeds).length) h2=>zsZ (G:=G) (S:=p.seeds) (r:=r) (i:=i) (y:=y) h h2
 have hoB:=fun i y (h : i < (zak G p.seeds).length) h2=>ztl (G:=G) (S:=p.seeds) (r:=r) (i:=i) (y:=y) h h2
 have hoG:=fun i y (h : i < (zak G p.seeds).length) h2 h3=>ztm (G:=G) (S:=p.seeds) (r:=r) (i:=i) (y:=y) h h2 h3
 have hoH:=fun i y (h : i < (zak G p.seeds).length) h2 h3=>ztu (G:=G) (S:=p.seeds) (r:=r) (i:=i) (y:=y) h h2 h3
 obtain ⟨K,hKd⟩ : ∃ K,K = zak G p.seeds:=⟨_,rfl⟩
 obtain ⟨L,hLd⟩ : ∃ L,L = zez G p.seeds r:=⟨_,rfl⟩
 have hsg : zei G p.seeds r = if K = [] then ([],11) else if 9 < K.length then ([],3) else (outK G p.seeds r,0):=by rw [hKd]; rfl
 rw [hsg]
 have hall : oA G p.seeds r K.length = oB G p.seeds r 0:=by rw [hKd]; exact zsB
 have hall2 : oB G p.seeds r K.length = outK G p.seeds r:=by rw [hKd]; exact zsJ
 rw [← hKd] at hK64
 simp only [← hKd,← hLd] at hgiv hmass htree hraw hgp hin hoA hoB hoG hoH
 refine zab ⟨81,[(2,.I r),(3,.pv (gC g)),(4,.pv (pC p)),(6,.nilS),(7,.I 0)],[],100⟩ rfl ?_ ?_
 ·simp
  exact LeH [] [16,24]
 refine zab ⟨81,[(3,.pv (gC g)),(6,.nilS),(7,.I 0),(8,.pv [ints K,zbj L]),(9,.I 0)],[],200⟩ rfl ?_ ?_
 ·simp
  refine zan hgiv (by simp) ?_
  simp
  exact LeH [] [156]
 refine zaw (ι:=Unit) (fun _=>⟨81,[(3,.pv (gC g)),(8,.pv [ints K,zbj L])],[],900⟩) (fun _=>K ≠ [] ∧ K.length ≤ 9) ?_ fun _ hK=>?_
 ·refine zaf ?_
  refine rx (s:=?z3) [3,6,7,8,9,23] [] [] rfl ?p3 ?r3
  case p3=>simp; rfl
  refine zad _ rfl (fun h=>by simp at h) fun _=>?_
  refine zab ⟨81,[(3,.pv (gC g)),(6,.nilS),(7,.I 0),(8,.pv [ints K,zbj L]),(27,.B (decide (K = [])))],[],400⟩ rfl ?_ ?_
  ·simp
   exact Le.go [] [] rfl rfl (by simp <;> exact wkB (by rw [Bool.eq_iff_iff]; simp [List.length_eq_zero_iff])) (by simp)
  refine zad _ rfl (fun h=>?_) fun h=>?_
  ·rw [decide_eq_true_eq] at h
   rw [if_pos h]
   refine rx (s:=?z4) [6,7] [] [] rfl ?p4 ?r4
   case p4=>simp; rfl
   refine zag ?_
   exact ⟨.inr rfl,zao.out [] [] rfl (by simp) (by simp) (by simp; exact wkT2 (.nil 1 false) (.refl _)) (by simp)⟩
  rw [decide_eq_false_iff_not] at h
  rw [if_neg h]
  refine zab ⟨81,[(3,.pv (gC g)),(6,.nilS),(7,.I 0),(8,.pv [ints K,zbj L]),(32,.B (decide (9 < K.length)))],[],500⟩ rfl ?_ ?_
  ·simp
   exact Le.go [] [] rfl rfl (by simp <;> exact wkB (by rw [Bool.eq_iff_iff]; simp; omega)) (by simp)
  refine zad _ rfl (fun h2=>?_) fun h2=>?_
  ·rw [decide_eq_true_eq] at h2
   rw [if_pos h2]
   refine rx (s:=?z5) [6,7] [] [] rfl ?p5 ?r5
   case p5=>simp; rfl
   refine zag ?_
   exact ⟨.inr rfl,zao.out [] [] rfl (by simp) (by simp) (by simp; exact wkT2 (.nil 1 false) (.refl _)) (by simp)⟩
  rw [decide_eq_false_iff_not] at h2
  refine zae ?_
  exact ⟨(),⟨h,by omega⟩,LeH [] []⟩
 obtain ⟨hKne,hK9⟩:=hK
 have hK0 : 0 < K.length:=List.length_pos_iff.2 hKne
 rw [if_neg hKne,if_neg (by omega)]
 obtain ⟨n,hn⟩ : ∃ n,n = K.length:=⟨_,rfl⟩
 obtain ⟨N,hNd⟩ : ∃ N,N = G.size.toNat:=⟨_,rfl⟩
 have hgs : g.size = N:=by omega
 have hNl : ∀ i,(oA G p.seeds r i).length = N:=fun i=>by rw [zsK,hNd]
 have hNl2 : ∀ i,(oB G p.seeds r i).length = N:=fun i=>by rw [zsA,hNd]
 have hz : zai (oA G p.seeds r 0) = List.replicate N [AV.I 0]:=by rw [zsn,hNd]
 refine zab ⟨81,[(8,.pv [ints K,zbj L]),(10,.rs 50 0 N)],[(50,some ⟨1,zai (oA G p.seeds r 0),0⟩)],1000⟩ rfl ?_ ?_
 ·simp [hgs]
  exact ⟨by omega,by omega,Le.go [(916,50)] [] rfl rfl (by simp) (by simp [hz,fcd])⟩
 refine rx (s:=?z8) [8,10,11] [50] [] rfl ?p8 ?r8
 case p8=>simp [fcd]; rfl
 have hg0 : gcdL ((List.range 0).map (rawK G p.seeds r)) = 0:=rfl
 refine zaw (ι:=Unit) (fun _=>⟨81,[(8,.pv [ints K,zbj L]),(10,.rs 50 0 N),(11,.I (gcdL (zdl G p.seeds r) : Nat))],[(50,some ⟨1,zai (oB G p.seeds r 0),0⟩)],4000⟩) (fun _=>True) ?_ fun _ _=>?_
 ·refine rx (s:=?z9) [8,10,11,41,42,43] [50] [] rfl ?p9 ?r9
  case p9=>simp [← hn,fcd]; rfl
  refine zaf ?_
  refine zap (ι:=Nat) (fun i=>⟨81,[(8,.pv [ints K,zbj L]),(10,.rs 50 0 N),(11,.I (gcdL ((List.range i).map (rawK G p.seeds r)) : Nat)),(41,ints K),(42,.I n),(43,.I i)],[(50,some ⟨1,zai (oA G p.seeds r i),0⟩)],1200⟩) (fun i=>i ≤ n) (fun i=>n - i) 0 (Nat.zero_le _) (Le.go [(50,50)] [] rfl rfl (by simp [gcdL]) (by simp [fcd])) ?_
  intro i hi
  refine rx (s:=?z10) [8,10,11,41,42,43,44] [50] [] rfl ?p10 ?r10
  case p10=>simp [fcd]; rfl
  refine zaa ?_
  refine zad _ rfl (fun hc=>?_) fun hc=>?_
  ·simp at hc
   have hiK : i < K.length:=by omega
   have hw1 : IntKind.i64.wrap ((i : Int) + 1) = (i : Int) + 1:=w64 (by omega) (by omega)
   have hkey:=(hin i hiK).1
   obtain ⟨y,hy⟩ : ∃ y : Nat,K[i] = (y : Int):=⟨K[i].toNat,by have:=hkey.1; omega⟩
   have hyN : y < N:=by have:=hkey.2; rw [hy] at this; omega
   obtain ⟨hr1,hr2,hr3⟩:=hraw hK9 i hiK
   have hset:=hoA i y hiK hy
   have hget:=hoG i y hiK hy (by omega)
   have hm:=hmass i hiK
   have htr:=htree hK9 i hiK
   have hwr : IntKind.i64.wrap (zdm G p.seeds r (zbT G p.seeds i) * zfh G p.seeds r i) = ((rawK G p.seeds r i : Nat) : Int):=by rw [← hr1]; exact w64 (by omega) (by omega)
   have hcm:=zpI (gcdL ((List.range i).map (rawK G p.seeds r))) (rawK G p.seeds r i)
   have hgs2 : gcdL ((List.range (i + 1)).map (rawK G p.seeds r)) = Nat.gcd (gcdL ((List.range i).map (rawK G p.seeds r))) (rawK G p.seeds r i):=by
    rw [List.range_succ,List.map_append]
    exact zkx _ _
   rw [← hgs2] at hcm
   obtain ⟨q1,hq1⟩ : ∃ q,q = gcdL ((List.range i).map (rawK G p.seeds r)):=⟨_,rfl⟩
   obtain ⟨q2,hq2⟩ : ∃ q,q = gcdL ((List.range (i + 1)).map (rawK G p.seeds r)):=⟨_,rfl⟩
   rw [← hq1,← hq2] at hcm
   obtain ⟨w,hwd⟩ : ∃ w,w = rawK G p.seeds r i:=⟨_,rfl⟩
   rw [← hwd] at hwr hset hget hcm
   have hga : ∀ h : y < (oA G p.seeds r (i + 1)).length,(oA G p.seeds r (i + 1))[y] = ((w : Nat) : Int):=fun h=>by
    rw [List.getElem?_eq_getElem h] at hget
    exact Option.some.inj hget
   refine zae ?_
   refine zaw (ι:=Unit) (fun _=>⟨81,[(8,.pv [ints K,zbj L]),(10,.rs 50 0 N),(11,.I (q2 : Nat)),(41,ints K),(42,.I n),(43,.I i)],[(50,some ⟨1,zai (oA G p.seeds r (i + 1)),0⟩)],3000⟩) (fun _=>True) ?_ fun _ _=>?_
   ·refine zaf ?_
    refine zab ⟨81,[(8,.pv [ints K,zbj L]),(10,.rs 50 0 N),(11,.I (q1 : Nat)),(12,.I i),(13,.I y),(41,ints K),(42,.I n),(43,.I i)],[(50,some ⟨1,zai (oA G p.seeds r i),0⟩)],1500⟩ rfl ?_ ?_
    ·simp [hiK,hy]
     exact Le.go [(50,50)] [] rfl rfl (by simp [hq1]) (by simp [fcd])
    refine zbb ⟨81,[(8,.pv [ints K,zbj L]),(10,.rs 50 0 N),(11,.I (q1 : Nat)),(12,.I i),(13,.I y),(41,ints K),(42,.I n),(43,.I i)],[(50,some ⟨1,zai (oA G p.seeds r (i + 1)),0⟩)],1800⟩ rfl ?_ ?_
    ·simp
     refine zan hm (by simp) ?_
     simp
     refine zan htr (by simp) ?_
     simp [hwr,hyN,hNl,hset]
     exact ⟨rfl,LeI [(50,50)] []⟩
    refine zaC rfl ?_
    simp [hyN,hNl,hga]
    refine zan hcm (by simp) ?_
    simp
    exact LeI [(50,50)] []
   refine zac (s:=?z12) rfl ?p12 ?r12
   case p12=>simp [hw1]; rfl
   refine ⟨i + 1,by omega,by omega,?_⟩
   rw [← hq2]
   exact LeI [(50,50)] []
  ·simp at hc
   obtain rfl : i = n:=by omega
   have hgf : gcdL ((List.range i).map (rawK G p.seeds r)) = gcdL (zdl G p.seeds r):=by unfold zdl; rw [hn,hKd]
   refine zal ?_
   refine hit ?_
   refine ⟨(),trivial,?_⟩
   rw [hgf,← hall,← hn]
   exact LeI [(50,50)] []
 have hd0:=hgp hK9 hK0
 obtain ⟨d,hdd⟩ : ∃ d,d = gcdL (zdl G p.seeds r):=⟨_,rfl⟩
 rw [← hdd] at hd0
 simp only [← hdd] at hoB
 refine zaw (ι:=Unit) (fun _=>⟨81,[(10,.rs 50 0 N)],[(50,some ⟨1,zai (outK G p.seeds r),0⟩)],8000⟩) (fun _=>True) ?_ fun _ _=>?_
 ·refine zab ⟨81,[(10,.rs 50 0 N),(11,.I (d : Nat)),(66,ints K),(67,.I n),(68,.I 0)],[(50,some ⟨1,zai (oB G p.seeds r 0),0⟩)],4500⟩ rfl ?_ ?_
  ·simp [← hn]
   exact Le.go [(50,50)] [] rfl rfl (by simp [hdd]) (by simp [fcd])
  refine zaf ?_
  refine zap (ι:=Nat) (fun i=>⟨81,[(10,.rs 50 0 N),(11,.I (d : Nat)),(66,ints K),(67,.I n),(68,.I i)],[(50,some ⟨1,zai (oB G p.seeds r i),0⟩)],5000⟩) (fun i=>i ≤ n) (fun i=>n - i) 0 (Nat.zero_le _) (LeI [(50,50)] []) ?_
  intro i hi
  refine rx (s:=?z20) [10,11,66,67,68,69] [50] [] rfl ?p20 ?r20
  case p20=>simp [fcd]; rfl
  refine zaa ?_
  refine zad _ rfl (fun hc=>?_) fun hc=>?_
  ·simp at hc
   have hiK : i < K.length:=by omega
   have hw1 : IntKind.i64.wrap ((i : Int) + 1) = (i : Int) + 1:=w64 (by omega) (by omega)
   have hkey:=(hin i hiK).1
   obtain ⟨y,hy⟩ : ∃ y : Nat,K[i] = (y : Int):=⟨K[i].toNat,by have:=hkey.1; omega⟩
   have hyN : y < N:=by have:=hkey.2; rw [hy] at this; omega
   obtain ⟨hr1,hr2,hr3⟩:=hraw hK9 i hiK
   have hset:=hoB i y hiK hy
   have hget:=hoH i y hiK hy (by omega)
   obtain ⟨w,hwd⟩ : ∃ w,w = rawK G p.seeds r i:=⟨_,rfl⟩
   rw [← hwd] at hr3 hset hget
   have hga : ∀ h : y < (oB G p.seeds r i).length,(oB G p.seeds r i)[y] = ((w : Nat) : Int):=fun h=>by
    rw [List.getElem?_eq_getElem h] at hget
    exact Option.some.inj hget
   have hdl:=Nat.div_le_self w d
   have hq : binV .quo (.int .i64 (w : Int)) (.int .i64 (d : Int)) = some (.int .i64 ((w / d : Nat) : Int)):=by
    show (if (d : Int) = 0 then none else some (Value.int .i64 (IntKind.i64.wrap ((w : Int).tdiv d)))) = _
    have hwz : IntKind.i64.wrap ((w / d : Nat) : Int) = ((w / d : Nat) : Int):=by
     obtain ⟨z,hz⟩ : ∃ z,z = w / d:=⟨_,rfl⟩
     rw [← hz] at hdl ⊢
     exact w64 (by omega) (by omega)
    rw [if_neg (by omega),show ((w : Int).tdiv d) = ((w / d : Nat) : Int) by simp,hwz]
   refine zae ?_
   refine zaw (ι:=Unit) (fun _=>⟨81,[(10,.rs 50 0 N),(11,.I (d : Nat)),(66,ints K),(67,.I n),(68,.I i)],[(50,some ⟨1,zai (oB G p.seeds r (i + 1)),0⟩)],7000⟩) (fun _=>True) ?_ fun _ _=>?_
   ·refine zaf ?_
    refine zab ⟨81,[(10,.rs 50 0 N),(11,.I (d : Nat)),(15,.I y),(66,ints K),(67,.I n),(68,.I i)],[(50,some ⟨1,zai (oB G p.seeds r i),0⟩)],5500⟩ rfl ?_ ?_
    ·simp [hiK,hy]
     exact LeI [(50,50)] []
    refine zaC rfl ?_
    simp [-binV,-Int.natCast_ediv,hyN,hNl2,hga,hq,hset]
    exact LeI [(50,50)] []
   refine zac (s:=?z22) rfl ?p22 ?r22
   case p22=>simp [hw1]; rfl
   exact ⟨i + 1,by omega,by omega,LeI [(50,50)] []⟩
  ·simp at hc
   obtain rfl : i = n:=by omega
   refine zal ?_
   refine hit ?_
   refine ⟨(),trivial,?_⟩
   rw [← hall2,← hn]
   exact LeI [(50,50)] []
 have hol : (outK G p.seeds r).length = N:=by simp [outK,hNd]
 have hoT : ∀ f : Int → List AV,((outK G p.seeds r).map f).take N = (outK G p.seeds r).map f:=fun f=>List.take_of_length_le (by simp [hol])
 refine zab ⟨81,[(6,ints (outK G p.seeds r)),(7,.I 0)],[],9000⟩ rfl ?_ ?_
 ·simp
  exact Le.go [] [50] rfl rfl (by simp [hol,hoT,fcd]) (by simp)
 refine zag ?_
 exact ⟨.inr rfl,zao.out [] [] rfl (by simp) (by simp) (by simp) (by simp)⟩
theorem zm8 (l : List Int) (hl : l.length ≤ 140737488355328) : zaj Try.prog zbF [eG g,eP p,.I r,ints l] [] (.B (decide ((zei (zam g p.lv) p.seeds r).2 = 0 ∧ l = (zei (zam g p.lv) p.seeds r).1))) []:=by
 refine zf5.acalls (nbz rfl) (nbz rfl) (Nat.le_refl _) ?_
 show awp _ 0 _ _ ⟨25,[(0,eG g),(1,eP p),(2,.I r),(3,ints l)],[],16⟩
 have hW:=zcs g p r hg hp hN hr hr5 hs ht
 obtain ⟨o,ho⟩ : ∃ o,o = zei (zam g p.lv) p.seeds r:=⟨_,rfl⟩
 rw [← ho] at hW ⊢
 have heq:=zpl l o.1 hl
 refine zab ⟨25,[(2,.I r),(3,ints l),(4,.pv (gC g)),(5,.pv (pC p))],[],100⟩ rfl ?_ ?_
 ·simp
  exact LeH [] [16,24]
 refine rx (s:=?z2) [3,9,10] [] [] rfl ?p2 ?r2
 case p2=>simp; refine zan hW (by simp) ?_; simp; rfl
 refine zab ⟨25,[(8,.B (decide (o.2 = 0 ∧ l = o.1)))],[],400⟩ rfl ?_ ?_
 ·by_cases h0 : o.2 = 0
  ·simp [h0]
   refine zan heq (by simp) ?_
   simp
   exact Le.go [] [] rfl rfl (by simp [h0]) (by simp)
  ·have hb : (o.2 == 0) = false:=by simpa using h0
   simp [hb]
   exact Le.go [] [] rfl rfl (by simp [h0,hb]) (by simp)
 refine zag ?_
 exact ⟨.inr rfl,zao.one (by simp)⟩
def znw (G : Gr) (S : List Int) (r key : Int) : Int:=if key ∈ zak G S then zdm G S r key else 0
set_option maxRecDepth 100000 in
theorem zoX (key : Int) : zaj Try.prog zbq [eG g,eP p,.I r,.I key] [] (.I (znw (zam g p.lv) p.seeds r key)) []:=by
 refine zgI.acalls (nbz rfl) (nbz rfl) (Nat.le_refl _) ?_
 show awp _ 0 _ _ ⟨32,[(0,eG g),(1,eP p),(2,.I r),(3,.I key)],[],16⟩
 have hgiv:=zmB g p r hg hp hN hr hr5 hs ht
 have hGg:=hg.level p.lv
 obtain ⟨G,hGd⟩ : ∃ G,G = zam g p.lv:=⟨_,rfl⟩
 rw [← hGd] at hgiv hGg ⊢
 have hmass:=fun i (h : i < (zak G p.seeds).length)=>zhE G p.seeds r hGg hr hr5 (i:=i) h
 have hK64 : (zak G p.seeds).length ≤ 64:=by
  have:=zev (g:=G) (S:=p.seeds)
  have:=hGg.1.2.1
  omega
 have hidx:=zb7 (zak G p.seeds) key (by omega)
 refine zab ⟨32,[(2,.I r),(3,.I key),(4,.pv (gC g)),(5,.pv (pC p))],[],100⟩ rfl ?_ ?_
 ·simp
  exact LeH [] [16,24]
 refine zab ⟨32,[(3,.I key),(9,.pv [ints (zak G p.seeds),zbj (zez G p.seeds r)]),(10,.I 0)],[],300⟩ rfl ?_ ?_
 ·simp
  refine zan hgiv (by simp) ?_
  simp
  exact LeH [] [156]
 refine zaa ?_
 refine rx (s:=?z3) [9,10,11] [] [] rfl ?p3 ?r3
 case p3=>simp; refine zan hidx (by simp) ?_; simp; rfl
 refine zab ⟨32,[(9,.pv [ints (zak G p.seeds),zbj (zez G p.seeds r)]),(11,.I (idxI (zak G p.seeds) key)),(28,.B (decide (key ∈ zak G p.seeds)))],[],600⟩ rfl ?_ ?_
 ·simp
  exact Le.go [] [] rfl rfl (by simp <;> exact wkB (by rw [Bool.eq_iff_iff]; unfold idxI; split <;> rename_i h <;> simp [h])) (by simp)
 refine zad _ rfl (fun hc=>?_) fun hc=>?_
 ·rw [decide_eq_true_eq] at hc
  have hil:=List.idxOf_lt_length_iff.2 hc
  have hm:=hmass _ hil
  have hka : zbT G p.seeds ((zak G p.seeds).idxOf key) = key:=by rw [zeN hil]; exact List.getElem_idxOf hil
  rw [hka] at hm
  have hxi : idxI (zak G p.seeds) key = ((zak G p.seeds).idxOf key : Nat):=by unfold idxI; rw [if_pos hc]
  have hma : znw G p.seeds r key = zdm G p.seeds r key:=if_pos hc
  refine rx (s:=?z5) [8] [] [] rfl ?p5 ?r5
  case p5=>simp; refine zan hm (by simp [hxi]) ?_; simp; rfl
  refine zag ?_
  exact ⟨.inr rfl,zao.one (by simp [hma])⟩
 ·rw [decide_eq_false_iff_not] at hc
  have hma : znw G p.seeds r key = 0:=if_neg hc
  refine zae ?_
  refine rx (s:=?z6) [8] [] [] rfl ?p6 ?r6
  case p6=>simp; rfl
  refine zag ?_
  exact ⟨.inr rfl,zao.one (by simp [hma])⟩
end
def gX : Gr:=⟨2,[⟨0,1,1⟩],[]⟩
def pX : Pol:=⟨[0],[2],1⟩
theorem zq3 : GrOk gX:=by
 refine ⟨⟨by decide +revert,by decide +revert,by decide +revert,fun i h=>by simp [gX] at h⟩,fun i h=>?_⟩
 obtain rfl : i = 0:=by simp [gX] at h; omega
 exact ⟨by unfold Fits; simp [gX],by decide +revert,by decide +revert,fun h=>by cases h⟩
theorem zpW : zb9 gX.size pX:=by
 refine ⟨by decide +revert,fun i h=>?_,by decide +revert,by decide +revert,by decide +revert,by decide +revert,fun i h=>?_⟩
 ·obtain rfl : i = 0:=by simp [pX] at h; omega
  exact ⟨by decide +revert,by decide +revert,fun h=>by cases h⟩
 ·obtain rfl : i = 0:=by simp [pX] at h; omega
  exact ⟨by decide +revert,by decide +revert,fun h=>by cases h⟩
theorem zsf : zei (zam gX pX.lv) pX.seeds 1 = ([2,1],0):=by decide +kernel
theorem zrR : znw (zam gX pX.lv) pX.seeds 1 0 = 2:=by decide +kernel
set_option maxRecDepth 100000 in
theorem zbu : zaj Try.prog zaN [] [] (.B true) []:=by
 refine zlh.acalls (nbz rfl) (nbz rfl) (Nat.le_refl _) ?_
 show awp _ 0 _ _ ⟨55,[],[],16⟩
 have hW:=zcs gX pX 1 zq3 zpW (by decide) (by omega) (by omega) (by decide) (by decide)
 have hM:=zoX gX pX 1 zq3 zpW (by decide) (by omega) (by omega) (by decide) (by decide) 0
 have hC:=zm8 gX pX 1 zq3 zpW (by decide) (by omega) (by omega) (by decide) (by decide) [2,1] (by decide)
 have hD:=zm8 gX pX 1 zq3 zpW (by decide) (by omega) (by omega) (by decide) (by decide) [4,2] (by decide)
 rw [zsf] at hW hC hD
 rw [zrR] at hM
 refine rx (s:=?z1) [] [] [] rfl ?p1 ?r1
 case p1=>simp; rfl
 refine zab ⟨55,[(1,.pv (gC gX))],[],300⟩ rfl ?_ ?_
 ·simp [zhr,ze7]
  exact Le.go [] [32,48] rfl rfl (by simp [gX]; exact .pv _ _ rfl fun i=>match i with | 0=>.refl _ | 1=>.refl _ | 2=>.nil 1 false | _ + 3=>.refl _) (by simp)
 refine zab ⟨55,[(1,.pv (gC gX)),(2,.pv (pC pX))],[],500⟩ rfl ?_ ?_
 ·simp [zhr,ze7]
  exact Le.go [] [300,308,324] rfl rfl (by simp [pX]; exact .refl _) (by simp)
 refine zab ⟨55,[(1,.pv (gC gX)),(2,.pv (pC pX)),(3,ints [2,1]),(4,.I 0)],[],700⟩ rfl ?_ ?_
 ·simp
  refine zan hW (by simp) ?_
  simp
  exact Le.go [] [] rfl rfl (by simp; exact .refl _) (by simp)
 refine zab ⟨55,[(0,.B true)],[],2000⟩ rfl ?_ ?_
 ·simp
  refine zan hM (by simp) ?_
  simp
  refine zan hC (by simp) ?_
  simp
  refine zmC [972] hD (by simp) (.sc _) ?_
  simp
  exact LeH [] []
 refine zag ?_
 exact ⟨.inr rfl,zao.one (by simp)⟩
theorem zrk {l : List Int} {lo hi : Int} (h : Rise l lo hi) : l.Pairwise (· < ·):=by
 rw [List.pairwise_iff_getElem]
 intro i j hi hj hij
 induction j with
 | zero=>omega
 | succ j ih =>
   have h1:=(h (j + 1) hj).2.2 (by omega)
   simp only [Nat.add_sub_cancel] at h1
   by_cases hji : i = j
   ·subst hji; exact h1
   ·have:=ih (by omega) (by omega)
    omega
section
variable {n : Int} {S : List Int} {r : Int}
abbrev gAl (n : Int) : Gr:=⟨n,[],[]⟩
theorem zkc (h0 : 0 ≤ n) (h1 : n ≤ 64) : GrOk (gAl n):=⟨⟨h0,h1,by simp,fun i h=>by simp at h⟩,fun i h=>by simp at h⟩
theorem zoD (v : Int) : zam (gAl n) v = gAl n:=by simp [zam]
theorem zp8 (h0 : 0 ≤ n) (h1 : n ≤ 64) {k : Int} : 0 ≤ dist (gAl n) S k ↔ k ∈ S:=by
 constructor
 ·intro h
  have hz : dist (gAl n) S k = 0:=by
   rcases Int.lt_or_eq_of_le h with h2 | h2
   ·obtain ⟨m,hm⟩ : ∃ m : Nat,dist (gAl n) S k = (m : Int) + 1:=⟨(dist (gAl n) S k).toNat - 1,by omega⟩
    obtain ⟨e,he,_⟩:=zhG (zkc h0 h1) hm
    simp at he
   ·omega
  have:=(zc2 (zkc h0 h1)).1 hz
  simpa [zbS] using this
 ·intro h
  rw [(zc2 (zkc h0 h1)).2 (by simpa [zbS] using h)]
  omega
theorem zqj (h0 : 0 ≤ n) (h1 : n ≤ 64) (hS : Rise S 0 (n - 1)) : zak (gAl n) S = S:=by
 have hm : ∀ k,k ∈ zak (gAl n) S ↔ k ∈ S:=fun k=>by
  rw [zaQ,zp8 h0 h1]
  constructor
  ·exact fun h=>h.2
  ·intro h
   obtain ⟨i,hi,rfl⟩:=List.getElem_of_mem h
   have:=hS i hi
   exact ⟨⟨this.1,by show S[i] < n; omega⟩,h⟩
 have hp : (zak (gAl n) S).Perm S:=(List.perm_ext_iff_of_nodup zaR ((zrk hS).imp fun {a b} h=>by omega)).2 hm
 exact List.Perm.eq_of_pairwise (le:=(· ≤ ·)) (fun x y _ _ h1 h2=>by omega) (zjX.imp fun {a b} h=>by omega) ((zrk hS).imp fun {a b} h=>by omega) hp
theorem zrZ {x y : Int} (hy : y ∈ S) : wayW (gAl n) S r x y = r:=by
 unfold wayW edW
 simp [hy]
theorem zrd (h0 : 0 ≤ n) (h1 : n ≤ 64) (hS : Rise S 0 (n - 1)) (hne : S ≠ []) (h9 : S.length ≤ 9) (hr : 1 ≤ r) (hr5 : r ≤ 5) : zei (gAl n) S r = ((List.range n.toNat).map fun (k : Nat)=>if S.contains (k : Int) then 1 else 0,0):=by
 have hK:=zqj h0 h1 hS
 have hg:=zkc h0 h1
 have hSk : ∀ s ∈ S,Key (gAl n) s:=fun s h=>by rw [← hK] at h; exact (zaQ.1 h).1
 unfold zei
 rw [hK,if_neg hne,if_neg (by omega)]
 congr 1
 have hlen : 0 < S.length:=List.length_pos_iff.2 hne
 obtain ⟨N,hN⟩ : ∃ N,S.length = N + 1:=⟨S.length - 1,by omega⟩
 have hkl : (zak (gAl n) S).length = N + 1:=by rw [hK,hN]
 have hW : ∀ i j,i < N + 1 → j < N + 1 → zdA (gAl n) S r i j = r:=fun i j hi hj=>zrZ (by
  have : j < (zak (gAl n) S).length:=by omega
  have h:=zfJ this
  rw [hK] at h
  unfold zbT at h
  exact h)
 have hwk : ∀ i,i < N + 1 → Walk (zdA (gAl n) S r) N i:=fun i hi=>by
  have:=zpc hg hr hSk (i:=i) (by omega)
  rwa [hkl,Nat.add_sub_cancel] at this
 have htr : ∀ i,i < N + 1 → zfh (gAl n) S r i = zfh (gAl n) S r 0:=fun i hi=>by
  unfold zfh
  rw [hkl,Nat.add_sub_cancel]
  exact zl8 hwk (by omega) hW hi (by omega)
 have hms : ∀ i,i < N + 1 → zdm (gAl n) S r (zbT (gAl n) S i) = ((N + 1 : Nat) : Int) * r:=fun i hi=>by
  rw [← zhT,hkl,zaF (N + 1) (f:=zdA (gAl n) S r i) (g:=fun _=>r) fun j hj=>hW i j hi hj,zhk]
 have hraw : ∀ i,i < N + 1 → rawK (gAl n) S r i = rawK (gAl n) S r 0:=fun i hi=>by
  unfold rawK
  rw [htr i hi,hms i hi,hms 0 (by omega)]
 have hpos:=(zfg hg hr hr5 hSk (by omega) (i:=0) (by omega)).2.1
 have hgc : gcdL (zdl (gAl n) S r) = rawK (gAl n) S r 0:=by
  refine ziA ?_ fun x hx=>?_
  ·unfold zdl
   intro h
   have:=congrArg List.length h
   simp [hkl] at this
  ·obtain ⟨i,hi,rfl⟩:=List.mem_map.1 hx
   exact hraw i (by have:=List.mem_range.1 hi; omega)
 unfold outK
 refine List.map_congr_left fun k hk=>?_
 rw [hgc]
 by_cases h : (k : Int) ∈ zak (gAl n) S
 ·have hix:=List.idxOf_lt_length_iff.2 h
  rw [if_pos h,hraw _ (by omega),Nat.div_self hpos,if_pos (by rw [hK] at h; simpa using h)]
  rfl
 ·rw [if_neg h,if_neg (by rw [hK] at h; simpa using h)]
end
section
variable {P : Program} {np id : Nat} {h : Nat → Option Ent} {K : AV → List Nat → List (Nat × Option Ent) → Prop} {f : FuncId} {first capt args args' : List AV} {res : AV}
end
theorem wkG3 {a b c a' b' c' : AV} (h1 : Wk a a') (h2 : Wk b b') (h3 : Wk c c') : Wk (.agg [a,b,c]) (.agg [a',b',c']) :=
 .agg _ _ rfl fun i=>match i with | 0=>h1 | 1=>h2 | 2=>h3 | _ + 3=>.refl _
theorem zoY (L : List Int) (hl : L.length ≤ 400) : ∃ (g : Gr) (b : Nat),(GrOk g ∧ 2 ≤ g.size ∧ g.size ≤ 9 ∧ b ≤ L.length) ∧ zaj Try.prog za8 [.pt 0 0 0] [dice L 0] (eG g) [some (dice L b)] :=
 have h:=zls L 0 (Nat.zero_le _)
 ⟨_,_,⟨h.ok,h.lo,h.hi,h.at_⟩,zqw L 0 hl (Nat.zero_le _)⟩
set_option maxRecDepth 100000 in
set_option maxHeartbeats 8000000 in
theorem zia (L : List Int) : zaj Try.prog zcm [ints L] [] (.B true) []:=by
 refine zel.acalls (nbz rfl) (nbz rfl) (Nat.le_refl _) ?_
 show awp _ 0 _ _ ⟨91,[(0,ints L)],[],16⟩
 have hlight:=zj3 L
 refine rx (s:=?s1) [0] [] [] rfl ?o1 ?q1
 case o1=>simp; rfl
 refine zaa ?_
 refine zab ⟨91,[(0,ints L),(17,.B (!decide (L.length ≤ 400)))],[],100⟩ rfl ?_ ?_
 ·simp
  refine zan hlight (by simp) ?_
  simp
  exact Le.go [] [] rfl rfl (by simp <;> exact wkB (by rw [Bool.eq_iff_iff]; simp)) (by simp)
 refine zad _ rfl (fun h3=>?_) fun h3=>?_
 ·refine rx (s:=?s4) [2] [] [] rfl ?o4 ?q4
  case o4=>simp; refine zan zbu (by simp) ?_; simp; rfl
  refine zag ?_
  exact ⟨.inr rfl,zao.one (by simp)⟩
 have h3 : L.length ≤ 400:=by simpa using h3
 obtain ⟨g,b1,⟨hg,hg2,hg9,hb1⟩,hcg⟩:=zoY L h3
 obtain ⟨⟨p,b2⟩,⟨hp1,hp2,hp3,hb2⟩,hcp⟩:=zjz L b1 g h3 hb1 (by omega) (by omega)
 simp only at hp1 hp2 hp3 hb2 hcp
 have hel:=hg.edges_le
 have hgl:=hg.gone_le
 refine zae ?_
 refine zab ⟨91,[(3,.pt 20 0 0)],[(20,some (dice L 0))],200⟩ rfl ?_ ?_
 ·simp
  refine zcC (zlX L) (by simp) ?_
  simp
  exact LeH [(108,20)] []
 refine zab ⟨91,[(3,.pt 20 0 0),(4,.pv (gC g))],[(20,some (dice L b1))],300⟩ rfl ?_ ?_
 ·simp
  refine zbh (i:=20) rfl (e':=dice L 0) (by simp) hcg (by simp) (by simp) ?_
  simp
  exact LeH [(20,20)] [216]
 refine zab ⟨91,[(3,.pt 20 0 0),(4,.pv (gC g)),(5,.pv (pC p))],[(20,some (dice L b2))],400⟩ rfl ?_ ?_
 ·simp
  refine zbh (i:=20) rfl (e':=dice L b1) (by simp) hcp (by simp) (by simp) ?_
  simp
  exact LeH [(20,20)] [324]
 obtain ⟨x,b3,⟨hb3,hx⟩,hcn⟩:=zhn L b2 5 h3 hb2 (by omega) (by omega)
 have hs1:=hg.1.1
 have hs2:=hg.1.2.1
 have hr1 : (1 : Int) ≤ 1 + x:=by omega
 have hr5 : (1 : Int) + x ≤ 5:=by omega
 obtain ⟨r,hrd⟩ : ∃ r : Int,r = 1 + x:=⟨_,rfl⟩
 have hwx : IntKind.i64.wrap (1 + (x : Int)) = r:=by rw [hrd]; exact w64 (by omega) (by omega)
 rw [← hrd] at hr1 hr5
 refine zab ⟨91,[(4,.pv (gC g)),(5,.pv (pC p)),(6,.I r)],[],500⟩ rfl ?_ ?_
 ·simp
  refine zbh (i:=20) rfl (e':=dice L b2) (by simp) hcn (by simp) (by simp) ?_
  simp
  exact Le.go [] [] rfl rfl (by simp [hwx]) (by simp)
 have hW0:=zcs (gAl g.size) p r (zkc hs1 hs2) hp1 (by show g.size < 20; omega) hr1 hr5 (by omega) (by omega)
 rw [zoD,zrd hs1 hs2 hp1.2.1 hp1.1 (by omega) hr1 hr5] at hW0
 obtain ⟨n,hn⟩ : ∃ n : Nat,g.size = n:=⟨g.size.toNat,by omega⟩
 obtain ⟨w,hw⟩ : ∃ w : List Int,w = (List.range g.size.toNat).map fun (k : Nat)=>if p.seeds.contains (k : Int) then (1 : Int) else 0:=⟨_,rfl⟩
 rw [← hw] at hW0
 have hwl : w.length = n:=by rw [hw]; simp; omega
 have hwg : ∀ k (h : k < w.length),w[k] = if p.seeds.contains (k : Int) then (1 : Int) else 0:=fun k h=>by subst hw; simp
 refine zab ⟨91,[(4,.pv (gC g)),(5,.pv (pC p)),(6,.I r),(7,ints w),(8,.I 0)],[],700⟩ rfl ?_ ?_
 ·simp [zhr]
  refine zs5 hW0 (by simp; exact wkG3 (.refl _) (.nil 3 false) (.nil 1 false)) ?_
  simp
  exact LeH [] []
 refine zaa ?_
 refine zab ⟨91,[(4,.pv (gC g)),(5,.pv (pC p)),(6,.I r),(7,ints w),(46,.B false)],[],900⟩ rfl ?_ ?_
 ·simp
  exact Le.go [] [] rfl rfl (by simp [hwl,hn]) (by simp)
 refine zad _ rfl (fun h=>by simp at h) fun _=>?_
 refine zae ?_
 refine zaw (ι:=Unit) (fun _=>⟨91,[(4,.pv (gC g)),(5,.pv (pC p)),(6,.I r)],[],3000⟩) (fun _=>True) ?_ fun _ _=>?_
 ·refine rx (s:=?z9) [4,5,6,7,9] [] [] rfl ?p9 ?r9
  case p9=>simp; rfl
  refine zaf ?_
  refine zap (ι:=Nat) (fun k=>⟨91,[(4,.pv (gC g)),(5,.pv (pC p)),(6,.I r),(7,ints w),(9,.I k)],[],1000⟩) (fun k=>k ≤ n) (fun k=>n - k) 0 (Nat.zero_le _) (LeH [] []) ?_
  intro k hk
  refine zaa ?_
  refine rx (s:=?z10) [4,5,6,7,9,50] [] [] rfl ?p10 ?r10
  case p10=>simp [hn]; rfl
  refine zad _ rfl (fun hc=>?_) fun hc=>?_
  ·simp at hc
   have hkw : k < w.length:=by omega
   have hw1 : IntKind.i64.wrap ((k : Int) + 1) = (k : Int) + 1:=w64 (by omega) (by omega)
   have hgk:=hwg k hkw
   have hhas:=zh0 p.seeds k (by omega)
   obtain ⟨want,hwd⟩ : ∃ want : Int,want = if p.seeds.contains (k : Int) then (1 : Int) else 0:=⟨_,rfl⟩
   rw [← hwd] at hgk
   refine zae ?_
   refine zaw (ι:=Unit) (fun _=>⟨91,[(4,.pv (gC g)),(5,.pv (pC p)),(6,.I r),(7,ints w),(9,.I k)],[],2500⟩) (fun _=>True) ?_ fun _ _=>?_
   ·refine zaf ?_
    refine rx (s:=?z11) [4,5,6,7,9,10] [] [] rfl ?p11 ?r11
    case p11=>simp; rfl
    refine zaw (ι:=Unit) (fun _=>⟨91,[(4,.pv (gC g)),(5,.pv (pC p)),(6,.I r),(7,ints w),(9,.I k),(10,.I want)],[],1800⟩) (fun _=>True) ?_ fun _ _=>?_
    ·refine rx (s:=?z12) [4,5,6,7,9,10,56] [] [] rfl ?p12 ?r12
     case p12=>simp; refine zan hhas (by simp) ?_; simp; rfl
     refine zad _ rfl (fun hb=>?_) fun hb=>?_
     ·have hb2 : p.seeds.contains (k : Int) = true:=by simpa using hb
      rw [if_pos hb2] at hwd
      subst hwd
      refine zaC rfl ?_
      simp
      exact LeH [] []
     ·have hb2 : ¬ p.seeds.contains (k : Int) = true:=by simpa using hb
      rw [if_neg hb2] at hwd
      subst hwd
      refine zae ?_
      exact ⟨(),trivial,LeH [] []⟩
    refine zab ⟨91,[(4,.pv (gC g)),(5,.pv (pC p)),(6,.I r),(7,ints w),(9,.I k),(62,.B false)],[],2200⟩ rfl ?_ ?_
    ·simp [hkw,hgk]
     exact LeH [] []
    refine zad _ rfl (fun h=>by simp at h) fun _=>?_
    refine zae ?_
    exact ⟨(),trivial,LeH [] []⟩
   refine zac (s:=?z13) rfl ?p13 ?r13
   case p13=>simp [hw1]; rfl
   exact ⟨k + 1,by omega,by omega,LeH [] []⟩
  ·refine zal ?_
   refine hit ?_
   exact ⟨(),trivial,LeH [] []⟩
 have hW1:=zcs g p r hg hp1 (by omega) hr1 hr5 (by omega) (by omega)
 have hW2:=zcs (zam g p.lv) p r (hg.level p.lv) hp1 (by show g.size < 20; omega) hr1 hr5 (by omega) (by omega)
 rw [zk9] at hW2
 have hlev:=zdp g p.lv (by omega) (by omega)
 have hol : (zei (zam g p.lv) p.seeds r).1.length ≤ 140737488355328:=by
  unfold zei
  split
  ·simp
  ·split
   ·simp
   ·simp [outK,zam]; omega
 have hsame:=zl6 (zei (zam g p.lv) p.seeds r).1 (zei (zam g p.lv) p.seeds r).1 hol
 obtain ⟨o,ho⟩ : ∃ o,o = zei (zam g p.lv) p.seeds r:=⟨_,rfl⟩
 rw [← ho] at hW1 hW2 hsame
 obtain ⟨lg,hlg⟩ : ∃ lg,lg = zam g p.lv:=⟨_,rfl⟩
 rw [← hlg] at hlev hW2
 refine zab ⟨91,[(4,.pv (gC g)),(5,.pv (pC p)),(6,.I r),(11,ints o.1),(12,.I o.2)],[],4000⟩ rfl ?_ ?_
 ·simp
  refine zan hW1 (by simp) ?_
  simp
  exact LeH [] []
 refine zbb ⟨91,[(11,ints o.1),(12,.I o.2),(13,ints o.1),(14,.I o.2)],[],5000⟩ rfl ?_ ?_
 ·simp
  refine zan hlev (by simp) ?_
  simp
  refine zan hW2 (by simp) ?_
  simp
  exact ⟨rfl,LeH [] []⟩
 refine zab ⟨91,[(2,.B true)],[],6000⟩ rfl ?_ ?_
 ·simp
  refine zan zbu (by simp) ?_
  simp
  refine zan hsame (by simp) ?_
  simp
  exact LeH [] []
 refine zag ?_
 exact ⟨.inr rfl,zao.one (by simp)⟩
section
variable {g : Gr} {S : List Int} {r : Int}
theorem zjW (hg : GrOk g) (hr : 1 ≤ r) (hr5 : r ≤ 5) (hS : ∀ s ∈ S,Key g s) (h9 : (zak g S).length ≤ 9) {k : Nat} (hk : (k : Int) ∈ zak g S) : ∃ v : Int,(outK g S r)[k]? = some v ∧ 0 < v:=by
 have hkey:=(zaQ.1 hk).1
 have hkn : k < g.size.toNat:=by have:=hkey.2; omega
 have hix:=List.idxOf_lt_length_iff.2 hk
 refine ⟨_,by unfold outK; rw [List.getElem?_map,List.getElem?_range hkn,Option.map_some],?_⟩
 rw [if_pos hk]
 have hd : gcdL (zdl g S r) ∣ rawK g S r ((zak g S).idxOf (k : Int)):=zfr (List.mem_map.2 ⟨_,List.mem_range.2 hix,rfl⟩)
 have hp:=(zfg hg hr hr5 hS h9 hix).2.1
 have h2:=Nat.div_pos (Nat.le_of_dvd hp hd) (zjP hg hr hr5 hS h9 (by omega))
 omega
theorem zle {k : Nat} (hk : (k : Int) ∉ zak g S) (hkn : k < g.size.toNat) : (outK g S r)[k]? = some 0:=by
 unfold outK
 rw [List.getElem?_map,List.getElem?_range hkn,Option.map_some,if_neg hk]
end
abbrev twoG (g : Gr) : Gr:=⟨g.size + 2,g.edges,g.gone⟩
theorem zkp {l : List Int} {lo hi hi2 : Int} (h : Rise l lo hi) (hh : hi ≤ hi2) : Rise l lo hi2:=fun i hi3=>by
 have:=h i hi3
 exact ⟨this.1,by omega,this.2.2⟩
theorem zoy {g : Gr} (hg : GrOk g) (h : g.size ≤ 62) : GrOk (twoG g):=by
 refine ⟨⟨by have:=hg.1.1; show 0 ≤ g.size + 2; omega,by show g.size + 2 ≤ 64; omega,hg.1.2.2.1,zkp hg.1.2.2.2 (by show g.size - 1 ≤ g.size + 2 - 1; omega)⟩,fun i hi=>?_⟩
 have h1:=hg.2 i hi
 refine ⟨?_,h1.2⟩
 have h2:=h1.1
 unfold Fits at h2 ⊢
 obtain ⟨a1,a2,a3,a4,a5,a6,a7⟩:=h2
 exact ⟨a1,by show g.edges[i].f ≤ g.size + 2 - 1; omega,a3,by show g.edges[i].t ≤ g.size + 2 - 1; omega,a5,a6,a7⟩
section
variable {g : Gr} {e : Ed}
theorem zjO (hg : GrOk g) (hf : Fits g e) (hv : 1 ≤ e.v ∧ e.v ≤ 3) (hl : g.edges.length < 500) (hn : ∀ x ∈ g.edges,¬ (x.f = e.f ∧ x.t = e.t)) : GrOk (zbM g e).1 ∧ (zbM g e).1.size = g.size ∧ (zbM g e).1.gone = g.gone ∧ (∀ x,x ∈ (zbM g e).1.edges ↔ x = e ∨ x ∈ g.edges) ∧ (zbM g e).1.edges.length ≤ g.edges.length + 1:=by
 have h0:=(zqB hg hl).2 ⟨hf,hv,fun ⟨x,hx,h1,h2⟩=>hn x hx ⟨h1,h2⟩⟩
 obtain ⟨_,_,_,_,_,he,hok⟩:=zi6 h0
 rw [he]
 refine ⟨hok,rfl,rfl,zoF g e,?_⟩
 simp [zhu]
 omega
end
theorem zhh {g : Gr} (hg : GrOk g) (h9 : g.size ≤ 9) : g.edges.length ≤ 81:=by
 have hn : (g.edges.map fun e=>e.f * 9 + e.t).Nodup:=by
  rw [List.Nodup,List.pairwise_map]
  refine hg.pair.imp_of_mem fun {a b} ha hb hab=>?_
  have h1:=hg.fits a ha
  have h2:=hg.fits b hb
  unfold Fits at h1 h2
  unfold Bef at hab
  omega
 have:=zbG (b:=(List.range 81).map fun i : Nat=>(i : Int)) hn fun x hx=>by
  obtain ⟨e,he,rfl⟩:=List.mem_map.1 hx
  have h1:=hg.fits e he
  unfold Fits at h1
  exact List.mem_map.2 ⟨(e.f * 9 + e.t).toNat,List.mem_range.2 (by omega),by omega⟩
 simpa using this
noncomputable def zih (g : Gr) (x : Int) : Gr:=(zbM (twoG g) ⟨x,g.size,3⟩).1
noncomputable def zic (g : Gr) (x : Int) : Gr:=(zbM (zih g x) ⟨g.size,g.size + 1,3⟩).1
noncomputable def zii (g : Gr) (x : Int) : Gr:=(zbM (zic g x) ⟨g.size + 1,g.size,3⟩).1
theorem zru {g : Gr} (hg : GrOk g) : ∀ k ∈ g.gone,k < g.size:=fun k hk=>by
 obtain ⟨i,hi,rfl⟩:=List.getElem_of_mem hk
 have:=hg.1.2.2.2 i hi
 omega
theorem zhf {g : Gr} {x : Int} (hg : GrOk g) (h7 : g.size ≤ 7) (hx : 0 ≤ x ∧ x < g.size) (hxg : x ∉ g.gone) :
  GrOk (zih g x) ∧ GrOk (zic g x) ∧ GrOk (zii g x) ∧ (zii g x).size = g.size + 2 ∧ (zii g x).gone = g.gone ∧ (⟨x,g.size,3⟩ : Ed) ∈ (zii g x).edges ∧ (⟨g.size,g.size + 1,3⟩ : Ed) ∈ (zii g x).edges:=by
 have hgo:=zru hg
 have h0:=zoy hg (by omega)
 have hfit : ∀ e ∈ g.edges,e.f < g.size ∧ e.t < g.size:=fun e he=>by
  have:=hg.fits e he
  unfold Fits at this
  omega
 have ha : g.size ∉ g.gone:=fun h=>by have:=hgo _ h; omega
 have hb : g.size + 1 ∉ g.gone:=fun h=>by have:=hgo _ h; omega
 have he0:=zhh h0 (by show g.size + 2 ≤ 9; omega)
 obtain ⟨h1,s1,o1,m1,l1⟩:=zjO (e:=⟨x,g.size,3⟩) h0 ⟨hx.1,by show x ≤ g.size + 2 - 1; omega,by show 0 ≤ g.size; omega,by show g.size ≤ g.size + 2 - 1; omega,by show x ≠ g.size; omega,hxg,ha⟩ ⟨by simp,by simp⟩ (by omega) (fun e he=>by have:=hfit e he; simp only; omega)
 have hs1 : (zih g x).size = g.size + 2:=s1
 have ho1 : (zih g x).gone = g.gone:=o1
 have he1:=zhh h1 (by rw [s1]; show g.size + 2 ≤ 9; omega)
 obtain ⟨h2,s2,o2,m2,l2⟩:=zjO (g:=zih g x) (e:=⟨g.size,g.size + 1,3⟩) h1 ⟨by show 0 ≤ g.size; omega,by show g.size ≤ (zih g x).size - 1; omega,by show 0 ≤ g.size + 1; omega,by show g.size + 1 ≤ (zih g x).size - 1; omega,by show g.size ≠ g.size + 1; omega,by rw [ho1]; exact ha,by rw [ho1]; exact hb⟩ ⟨by simp,by simp⟩ (by show (zih g x).edges.length < 500; unfold zih; omega) (fun e he=>by
  rcases (m1 e).1 he with rfl | he
  ·simp only; omega
  ·have:=hfit e he; simp only; omega)
 have hs2 : (zic g x).size = g.size + 2:=by rw [← hs1]; exact s2
 have ho2 : (zic g x).gone = g.gone:=by rw [← ho1]; exact o2
 have he2 : (zic g x).edges.length ≤ 81:=zhh h2 (by show (zic g x).size ≤ 9; omega)
 obtain ⟨h3,s3,o3,m3,l3⟩:=zjO (g:=zic g x) (e:=⟨g.size + 1,g.size,3⟩) h2 ⟨by show 0 ≤ g.size + 1; omega,by show g.size + 1 ≤ (zic g x).size - 1; omega,by show 0 ≤ g.size; omega,by show g.size ≤ (zic g x).size - 1; omega,by show g.size + 1 ≠ g.size; omega,by rw [ho2]; exact hb,by rw [ho2]; exact ha⟩ ⟨by simp,by simp⟩ (by omega) (fun e he=>by
  rcases (m2 e).1 he with rfl | he
  ·simp only; omega
  ·rcases (m1 e).1 he with rfl | he
   ·simp only; omega
   ·have:=hfit e he; simp only; omega)
 exact ⟨h1,h2,h3,by rw [← hs2]; exact s3,by rw [← ho2]; exact o3,(m3 _).2 (.inr ((m2 _).2 (.inr ((m1 _).2 (.inl rfl))))),(m3 _).2 (.inr ((m2 _).2 (.inl rfl)))⟩
theorem zps {g : Gr} {S : List Int} {x lv : Int} (hg : GrOk g) (h7 : g.size ≤ 7) (hS : ∀ s ∈ S,0 ≤ s ∧ s < g.size) (hxS : x ∈ S) (hxg : x ∉ g.gone) (hlv : lv ≤ 3) :
  ∃ w : List Int,zei (zam (zii g x) lv) S 1 = (w,0) ∧ w.length = (g.size + 2).toNat ∧ (∃ v,w[g.size.toNat]? = some v ∧ 0 < v) ∧ ∃ v,w[g.size.toNat + 1]? = some v ∧ 0 < v:=by
 have hx:=hS x hxS
 obtain ⟨_,_,h3,hs,ho,e1,e2⟩:=zhf hg h7 hx hxg
 have h0:=hg.1.1
 have hG:=h3.level lv
 obtain ⟨G,hGd⟩ : ∃ G,G = zam (zii g x) lv:=⟨_,rfl⟩
 rw [← hGd] at hG ⊢
 have hGs : G.size = g.size + 2:=by rw [hGd]; exact hs
 have hGo : G.gone = g.gone:=by rw [hGd]; exact ho
 have hE1 : (⟨x,g.size,3⟩ : Ed) ∈ G.edges:=by rw [hGd]; exact List.mem_filter.2 ⟨e1,by simpa using hlv⟩
 have hE2 : (⟨g.size,g.size + 1,3⟩ : Ed) ∈ G.edges:=by rw [hGd]; exact List.mem_filter.2 ⟨e2,by simpa using hlv⟩
 have hdx : dist G S x = 0:=(zc2 hG).2 (by simp [zbS,hxS,hGo,hxg])
 have hda:=(zfL hG hE1 (S:=S) (by simp only [hdx]; omega)).1
 simp only at hda
 have hdb:=(zfL hG hE2 (S:=S) hda).1
 simp only at hdb
 have hka : ((g.size.toNat : Nat) : Int) ∈ zak G S:=zaQ.2 ⟨⟨by omega,by omega⟩,by rw [show ((g.size.toNat : Nat) : Int) = g.size by omega]; exact hda⟩
 have hkb : ((g.size.toNat + 1 : Nat) : Int) ∈ zak G S:=zaQ.2 ⟨⟨by omega,by omega⟩,by rw [show ((g.size.toNat + 1 : Nat) : Int) = g.size + 1 by omega]; exact hdb⟩
 have h9 : (zak G S).length ≤ 9:=by
  have:=zev (g:=G) (S:=S)
  omega
 have hSk : ∀ s ∈ S,Key G s:=fun s h=>by
  have:=hS s h
  exact ⟨this.1,by omega⟩
 refine ⟨outK G S 1,?_,by simp [outK,hGs],zjW hG (by omega) (by omega) hSk h9 hka,zjW hG (by omega) (by omega) hSk h9 hkb⟩
 unfold zei
 rw [if_neg (fun h=>by rw [h] at hka; simp at hka),if_neg (by omega)]
theorem znr {n m : Int} {p : Pol} (h : zb9 n p) (hm : n ≤ m) : zb9 m p:=⟨h.1,zkp h.2.1 (by omega),h.2.2⟩
noncomputable def zkr (g : Gr) (x : Int) : Nat → Gr
 | 0=>twoG g
 | 1=>zih g x
 | 2=>zic g x
 | _=>zii g x
abbrev zqZ (g : Gr) (x : Int) : List Ed:=[⟨x,g.size,3⟩,⟨g.size,g.size + 1,3⟩,⟨g.size + 1,g.size,3⟩]
theorem znf (g : Gr) (x : Int) : ∀ i (h : i < (zqZ g x).length),(zbM (zkr g x i) (zqZ g x)[i]).1 = zkr g x (i + 1)
 | 0,_=>rfl
 | 1,_=>rfl
 | 2,_=>rfl
 | i + 3,h=>absurd h (by show ¬ i + 3 < 3; omega)
theorem zqQ {g : Gr} {x : Int} (hg : GrOk g) (h7 : g.size ≤ 7) (hx : 0 ≤ x ∧ x < g.size) (hxg : x ∉ g.gone) : ∀ i,GrOk (zkr g x i)
 | 0=>zoy hg (by omega)
 | 1=>(zhf hg h7 hx hxg).1
 | 2=>(zhf hg h7 hx hxg).2.1
 | _ + 3=>(zhf hg h7 hx hxg).2.2.1
set_option maxRecDepth 100000 in
set_option maxHeartbeats 8000000 in
theorem zjv (L : List Int) : zaj Try.prog zcG [ints L] [] (.B true) []:=by
 refine zeG.acalls (nbz rfl) (nbz rfl) (Nat.le_refl _) ?_
 show awp _ 0 _ _ ⟨119,[(0,ints L)],[],16⟩
 have hlight:=zj3 L
 refine rx (s:=?s1) [0] [] [] rfl ?o1 ?q1
 case o1=>simp; rfl
 refine zaa ?_
 refine zab ⟨119,[(0,ints L),(16,.B (!decide (L.length ≤ 400)))],[],100⟩ rfl ?_ ?_
 ·simp
  refine zan hlight (by simp) ?_
  simp
  exact Le.go [] [] rfl rfl (by simp <;> exact wkB (by rw [Bool.eq_iff_iff]; simp)) (by simp)
 refine zad _ rfl (fun h3=>?_) fun h3=>?_
 ·refine rx (s:=?s4) [2] [] [] rfl ?o4 ?q4
  case o4=>simp; refine zan zbu (by simp) ?_; simp; rfl
  refine zag ?_
  exact ⟨.inr rfl,zao.one (by simp)⟩
 have h3 : L.length ≤ 400:=by simpa using h3
 obtain ⟨g,b1,⟨hg,hg2,hg9,hb1⟩,hcg⟩:=zoY L h3
 obtain ⟨⟨p,b2⟩,⟨hp1,hp2,hp3,hb2⟩,hcp⟩:=zjz L b1 g h3 hb1 (by omega) (by omega)
 simp only at hp1 hp2 hp3 hb2 hcp
 have hel:=hg.edges_le
 have hgl:=hg.gone_le
 refine zae ?_
 refine zab ⟨119,[(3,.pt 20 0 0)],[(20,some (dice L 0))],200⟩ rfl ?_ ?_
 ·simp
  refine zcC (zlX L) (by simp) ?_
  simp
  exact LeH [(108,20)] []
 refine zab ⟨119,[(3,.pt 20 0 0),(4,.pv (gC g))],[(20,some (dice L b1))],300⟩ rfl ?_ ?_
 ·simp
  refine zbh (i:=20) rfl (e':=dice L 0) (by simp) hcg (by simp) (by simp) ?_
  simp
  exact LeH [(20,20)] [216]
 refine zab ⟨119,[(3,.pt 20 0 0),(4,.pv (gC g)),(5,.pv (pC p))],[(20,some (dice L b2))],400⟩ rfl ?_ ?_
 ·simp
  refine zbh (i:=20) rfl (e':=dice L b1) (by simp) hcp (by simp) (by simp) ?_
  simp
  exact LeH [(20,20)] [324]
 obtain ⟨y,b3,⟨hb3,hy⟩,hcn⟩:=zhn L b2 g.size h3 hb2 (by omega) (by omega)
 have hs1:=hg.1.1
 have hlev:=zdp g p.lv (by omega) (by omega)
 have hall:=zeO (zam g p.lv) p.seeds (hg.level p.lv) (by omega)
 have hDl : (zce (zam g p.lv) p.seeds).length = g.size.toNat:=by simp [zce,zam]
 obtain ⟨D,hD⟩ : ∃ D,D = zce (zam g p.lv) p.seeds:=⟨_,rfl⟩
 rw [← hD] at hall hDl
 obtain ⟨n,hn⟩ : ∃ n : Nat,g.size = n:=⟨g.size.toNat,by omega⟩
 have hsl : (zam g p.lv).size.toNat = n:=by show g.size.toNat = n; omega
 rw [hsl] at hall
 have hyD : y < D.length:=by omega
 have hyn : y < n:=by omega
 have hDq : D[y]? = some D[y]:=List.getElem?_eq_getElem hyD
 have hDg : ∀ h : y < D.length,D[y] = D[y]:=fun _=>rfl
 obtain ⟨lg,hlg⟩ : ∃ lg,lg = zam g p.lv:=⟨_,rfl⟩
 rw [← hlg] at hlev hall
 refine zaa ?_
 refine zbb ⟨119,[(4,.pv (gC g)),(5,.pv (pC p)),(43,.B (decide (7 < g.size) || decide (D[y] < 0)))],[],1000⟩ rfl ?_ ?_
 ·by_cases h7 : 7 < g.size
  ·simp [h7]
   exact ⟨rfl,Le.go [] [] rfl rfl (by simp [h7]) (by simp)⟩
  ·simp [h7]
   refine zan hlev (by simp) ?_
   simp
   refine zcC hall (by simp) ?_
   simp
   refine zbh (i:=20) rfl (e':=dice L b2) (by simp) hcn (by simp) (by simp) ?_
   simp [hyn,hDq,hDg]
   exact ⟨rfl,Le.go [] [] rfl rfl (by simp [h7]) (by simp)⟩
 refine zad _ rfl (fun hq=>?_) fun hq=>?_
 ·refine rx (s:=?z4) [2] [] [] rfl ?p4 ?r4
  case p4=>simp; refine zan zbu (by simp) ?_; simp; rfl
  refine zag ?_
  exact ⟨.inr rfl,zao.one (by simp)⟩
 rw [Bool.or_eq_false_iff,decide_eq_false_iff_not] at hq
 have h7 : g.size ≤ 7:=by have:=hq.1; omega
 have hSn : p.seeds ≠ []:=hp1.1
 have hSl : 0 < p.seeds.length:=List.length_pos_iff.2 hSn
 have hSk : ∀ s ∈ p.seeds,0 ≤ s ∧ s < g.size:=fun s h=>by
  obtain ⟨i,hi,rfl⟩:=List.getElem_of_mem h
  have:=hp1.2.1 i hi
  omega
 have hlv : p.lv ≤ 3:=hp1.2.2.2.2.2.1
 obtain ⟨x,hxd⟩ : ∃ x,x = p.seeds[0]:=⟨_,rfl⟩
 have hxS : x ∈ p.seeds:=by rw [hxd]; exact List.getElem_mem hSl
 have hxk:=hSk x hxS
 have hhas:=zh0 g.gone x (by omega)
 refine zae ?_
 refine rx (s:=?z5) [4,5,6] [] [] rfl ?p5 ?r5
 case p5=>simp [hSl,← hxd]; rfl
 refine zaa ?_
 refine rx (s:=?z6) [4,5,6,52] [] [] rfl ?p6 ?r6
 case p6=>simp; refine zan hhas (by simp) ?_; simp; rfl
 refine zad _ rfl (fun hb=>?_) fun hb=>?_
 ·refine rx (s:=?z7) [2] [] [] rfl ?p7 ?r7
  case p7=>simp; refine zan zbu (by simp) ?_; simp; rfl
  refine zag ?_
  exact ⟨.inr rfl,zao.one (by simp)⟩
 have hxg : x ∉ g.gone:=by simpa using hb
 have hcp:=zdY g (by omega) (by omega)
 refine zae ?_
 have hE2 : ∀ f : Ed → List AV,(g.edges.map f).take g.edges.length = g.edges.map f:=fun f=>List.take_of_length_le (by simp)
 have hG2 : ∀ f : Int → List AV,(g.gone.map f).take g.gone.length = g.gone.map f:=fun f=>List.take_of_length_le (by simp)
 refine zab ⟨119,[(4,.pv (gC g)),(5,.pv (pC p)),(6,.I x),(7,.pt 50 0 0)],[(50,some ⟨3,[gC g],0⟩)],2000⟩ rfl ?_ ?_
 ·simp
  refine zmk hcp (by simp) ?_
  simp
  exact Le.go [(1088,50)] [1080,1081] rfl rfl (by simp) (by simp [fcd,hE2,hG2])
 obtain ⟨_,_,hR3,hRs,hRo,_,_⟩:=zhf hg h7 hxk hxg
 have hRI:=zqQ hg h7 hxk hxg
 obtain ⟨w,hst,hwl,⟨va,hva,hva0⟩,vb,hvb,hvb0⟩:=zps (lv:=p.lv) hg h7 hSk hxS hxg hlv
 have hW:=zcs (zii g x) p 1 hR3 (by rw [hRs]; exact znr hp1 (by omega)) (by rw [hRs]; omega) (by omega) (by omega) (by omega) (by omega)
 rw [hst] at hW
 have hwn : w.length = n + 2:=by omega
 have hgn : g.size.toNat = n:=by omega
 rw [hgn] at hva hvb
 have hna : n < w.length:=by omega
 have hnb : n + 1 < w.length:=by omega
 have hwa : ∀ h : n < w.length,w[n] = va:=fun h=>by rw [List.getElem?_eq_getElem h] at hva; exact Option.some.inj hva
 have hwb : ∀ h : n + 1 < w.length,w[n + 1] = vb:=fun h=>by rw [List.getElem?_eq_getElem h] at hvb; exact Option.some.inj hvb
 have hw2 : IntKind.i64.wrap (g.size + 2) = g.size + 2:=w64 (by omega) (by omega)
 have hw1 : IntKind.i64.wrap (g.size + 1) = g.size + 1:=w64 (by omega) (by omega)
 refine zab ⟨119,[(4,.pv (gC g)),(5,.pv (pC p)),(6,.I x),(7,.pt 50 0 0)],[(50,some ⟨3,[gC (zkr g x 0)],0⟩)],2100⟩ rfl ?_ ?_
 ·simp [hw2]
  exact Le.go [(50,50)] [] rfl rfl (by simp) (by simp [zkr])
 refine zbb ⟨119,[(5,.pv (pC p)),(6,.I x),(7,.pt 50 0 0),(8,.I g.size),(9,.I (g.size + 1))],[(50,some ⟨3,[gC (zkr g x 0)],0⟩)],2300⟩ rfl ?_ ?_
 ·simp [hw1]
  exact ⟨rfl,LeH [(50,50)] []⟩
 have hIl : (zqZ g x).length = 3:=rfl
 have hIn:=znf g x
 have hI3 : zkr g x 3 = zii g x:=rfl
 obtain ⟨E,hE⟩ : ∃ E,E = zqZ g x:=⟨_,rfl⟩
 have hEv : E = [⟨x,g.size,3⟩,⟨g.size,g.size + 1,3⟩,⟨g.size + 1,g.size,3⟩]:=hE
 obtain ⟨R,hR⟩ : ∃ R,R = zkr g x:=⟨_,rfl⟩
 rw [← hR] at hRI hIn hI3
 rw [← hE] at hIl hIn
 refine zaw (ι:=Unit) (fun _=>⟨119,[(5,.pv (pC p)),(7,.pt 50 0 0),(8,.I g.size),(9,.I (g.size + 1))],[(50,some ⟨3,[gC (R 3)],0⟩)],6000⟩) (fun _=>True) ?_ fun _ _=>?_
 ·refine zab ⟨119,[(5,.pv (pC p)),(7,.pt 50 0 0),(8,.I g.size),(9,.I (g.size + 1)),(74,eEs E),(75,.I 3),(76,.I 0)],[(50,some ⟨3,[gC (R 0)],0⟩)],2800⟩ rfl ?_ ?_
  ·simp [zhr,ze7]
   exact Le.go [(50,50)] [2300 + 72] rfl rfl (by simp [hEv]; exact .refl _) (by simp [hR])
  refine zaf ?_
  refine zap (ι:=Nat) (fun i=>⟨119,[(5,.pv (pC p)),(7,.pt 50 0 0),(8,.I g.size),(9,.I (g.size + 1)),(74,eEs E),(75,.I 3),(76,.I i)],[(50,some ⟨3,[gC (R i)],0⟩)],3000⟩) (fun i=>i ≤ 3) (fun i=>3 - i) 0 (Nat.zero_le _) (LeH [(50,50)] []) ?_
  intro i hi
  refine rx (s:=?z10) [5,7,8,9,74,75,76,77] [50] [] rfl ?p10 ?r10
  case p10=>simp; rfl
  refine zaa ?_
  refine zad _ rfl (fun hc=>?_) fun hc=>?_
  ·simp at hc
   have hil : i < E.length:=by omega
   have hwi : IntKind.i64.wrap ((i : Int) + 1) = (i : Int) + 1:=w64 (by omega) (by omega)
   have hRe:=(hRI i).edges_le
   have hRg:=(hRI i).gone_le
   have hwith:=zfH (R i) E[i] (by omega) (by omega)
   rw [hIn i hil] at hwith
   refine zae ?_
   refine zaa ?_
   refine zaf ?_
   refine zab ⟨119,[(5,.pv (pC p)),(7,.pt 50 0 0),(8,.I g.size),(9,.I (g.size + 1)),(11,.pv (eC E[i])),(74,eEs E),(75,.I 3),(76,.I i)],[(50,some ⟨3,[gC (R i)],0⟩)],3500⟩ rfl ?_ ?_
   ·simp [hil]
    exact LeH [(50,50)] [3024]
   refine zaC rfl ?_
   simp
   refine zan hwith (by simp) ?_
   simp
   refine zac (s:=?z12) rfl ?p12 ?r12
   case p12=>simp [hwi]; rfl
   exact ⟨i + 1,by omega,by omega,LeH [(50,50)] []⟩
  ·simp at hc
   obtain rfl : i = 3:=by omega
   refine zal ?_
   refine hit ?_
   exact ⟨(),trivial,LeH [(50,50)] []⟩
 obtain ⟨R3,hR3d⟩ : ∃ R3,R3 = R 3:=⟨_,rfl⟩
 rw [hI3] at hR3d
 rw [← hR3d] at hW hRs
 have hI4 : R 3 = R3:=by rw [hI3,hR3d]
 refine zab ⟨119,[(7,.pv (gC R3)),(8,.I g.size),(9,.I (g.size + 1)),(12,ints w),(13,.I 0)],[],7000⟩ rfl ?_ ?_
 ·simp [hI4]
  refine zan hW (by simp) ?_
  simp
  exact Le.go [] [50] rfl rfl (by simp [hI4]) (by simp)
 refine zab ⟨119,[(2,.B true)],[],9000⟩ rfl ?_ ?_
 ·simp
  refine zan zbu (by simp) ?_
  have hlen : (w.length : Int) = R3.size:=by rw [hRs,hwn]; omega
  simp [hlen,hn,hna,hnb,hwa,hwb,hva0,hvb0]
  exact ⟨by omega,LeH [] []⟩
 refine zag ?_
 exact ⟨.inr rfl,zao.one (by simp)⟩
section
variable (G : Gr) (S : List Int) (r : Int)
def wAt (k : Nat) : Int:=(outK G S r).getD k 0
def zco (k : Nat) : Nat:=(zdm G S r (k : Int)).toNat
open Classical in
def allN : Nat → Nat
 | 0=>1
 | i + 1=>if (i : Int) ∈ zak G S then Nat.lcm (allN i) (zco G S r i) else allN i
def divN : Nat → Nat
 | 0=>0
 | i + 1=>if (i : Int) ∈ zak G S then Nat.gcd (wAt G S r i).toNat (divN i) else divN i
def zlz (all : Nat) (y : Int) (k : Nat) : Int:=wAt G S r k * wayW G S r (k : Int) y * ((all / zco G S r k : Nat) : Int)
def sumB (all : Nat) (y : Int) (i : Nat) : Int:=((List.range i).map fun (k : Nat)=>if (k : Int) ∈ zak G S then zlz G S r all y k else 0).sum
theorem zoR (all : Nat) (y : Int) (i : Nat) : sumB G S r all y (i + 1) = sumB G S r all y i + if (i : Int) ∈ zak G S then zlz G S r all y i else 0:=by
 unfold sumB
 rw [List.range_succ,List.map_append,List.sum_append]
 simp
end
theorem zi1 {α : Type} (p : α → Bool) (f : α → Int) : ∀ l : List α,(l.map fun k=>if p k then f k else 0).sum = ((l.filter p).map f).sum
 | []=>rfl
 | x :: l=>by
   rw [List.map_cons,List.sum_cons,zi1 p f l,List.filter_cons]
   cases h : p x <;> simp
section
variable {G : Gr} {S : List Int} {r : Int} (hg : GrOk G) (hr : 1 ≤ r) (hr5 : r ≤ 5) (hS : ∀ s ∈ S,Key G s) (h9 : (zak G S).length ≤ 9)
include hg hr hr5
theorem zgW (k : Nat) : ((zco G S r k : Nat) : Int) = zdm G S r (k : Int):=by
 have:=zeT hg hr hr5 (S:=S) (k : Int)
 unfold zco
 omega
include h9
theorem zmX (k : Nat) : zco G S r k ≤ 72:=by
 have h:=zeT hg hr hr5 (S:=S) (k : Int)
 have:=zgW (S:=S) hg hr hr5 k
 omega
include hS
theorem zkd {k : Nat} (hk : (k : Int) ∈ zak G S) : 0 < zco G S r k:=by
 have h:=zml hg hr hr5 hS hk (k : Int)
 have:=zgW (S:=S) hg hr hr5 k
 omega
theorem zoq : ∀ i,0 < allN G S r i ∧ allN G S r i ≤ 72 ^ i
 | 0=>by simp [allN]
 | i + 1=>by
   obtain ⟨h1,h2⟩:=zoq i
   unfold allN
   split
   ·rename_i hk
    have hp:=zkd hg hr hr5 hS h9 hk
    have hl:=zmX (S:=S) hg hr hr5 h9 i
    refine ⟨Nat.lcm_pos h1 hp,?_⟩
    have h3 : Nat.lcm (allN G S r i) (zco G S r i) ≤ allN G S r i * zco G S r i:=Nat.le_of_dvd (Nat.mul_pos h1 hp) (Nat.lcm_dvd (Nat.dvd_mul_right _ _) (Nat.dvd_mul_left _ _))
    rw [Nat.pow_succ]
    exact Nat.le_trans h3 (Nat.mul_le_mul h2 hl)
   ·refine ⟨h1,Nat.le_trans h2 ?_⟩
    rw [Nat.pow_succ]
    omega
theorem zmF : ∀ i k : Nat,k < i → (k : Int) ∈ zak G S → zco G S r k ∣ allN G S r i
 | i + 1,k,hki,hk=>by
   unfold allN
   rcases Nat.lt_succ_iff_lt_or_eq.1 hki with h | h
   ·have ih:=zmF i k h hk
    split
    ·exact Nat.dvd_trans ih (Nat.dvd_lcm_left _ _)
    ·exact ih
   ·subst h
    rw [if_pos hk]
    exact Nat.dvd_lcm_right _ _
theorem zms : ∀ i k : Nat,k < i → (k : Int) ∈ zak G S → divN G S r i ∣ (wAt G S r k).toNat
 | i + 1,k,hki,hk=>by
   unfold divN
   rcases Nat.lt_succ_iff_lt_or_eq.1 hki with h | h
   ·have ih:=zms i k h hk
    split
    ·exact Nat.dvd_trans (Nat.gcd_dvd_right _ _) ih
    ·exact ih
   ·subst h
    rw [if_pos hk]
    exact Nat.gcd_dvd_left _ _
theorem zjr {i y : Nat} (hi : i < (zak G S).length) (hy : (zak G S)[i] = (y : Int)) : wAt G S r y = ((rawK G S r i / gcdL (zdl G S r) : Nat) : Int):=by
 have hm : (y : Int) ∈ zak G S:=by rw [← hy]; exact List.getElem_mem hi
 have hk:=(zaQ.1 hm).1
 unfold wAt outK
 rw [List.getD_eq_getElem?_getD,List.getElem?_map,List.getElem?_range (by have:=hk.2; omega),Option.map_some,if_pos hm,← hy,zaR.idxOf_getElem i hi]
 rfl
theorem zpA {y : Nat} : 0 ≤ wAt G S r y ∧ wAt G S r y ≤ 51998697814228992:=by
 unfold wAt
 by_cases hy : y < G.size.toNat
 ·by_cases hm : (y : Int) ∈ zak G S
  ·have hi:=List.idxOf_lt_length_iff.2 hm
   have h:=zjr hg hr hr5 hS h9 (r:=r) (i:=(zak G S).idxOf (y : Int)) (y:=y) hi (List.getElem_idxOf hi)
   unfold wAt at h
   rw [h]
   have h2:=(zfg hg hr hr5 hS h9 hi).2.2
   have h3:=Nat.div_le_self (rawK G S r ((zak G S).idxOf (y : Int))) (gcdL (zdl G S r))
   generalize rawK G S r ((zak G S).idxOf (y : Int)) / gcdL (zdl G S r) = z at *
   omega
  ·rw [List.getD_eq_getElem?_getD,zle hm hy]
   simp
 ·have : (outK G S r)[y]? = none:=by simp [outK]; omega
  rw [List.getD_eq_getElem?_getD,this]
  simp
theorem zq1 (h0 : 0 < (zak G S).length) : divN G S r G.size.toNat = 1:=by
 have hd : gcdL ((zdl G S r).map fun x=>x / gcdL (zdl G S r)) = 1:=zqY ⟨_,List.mem_map.2 ⟨0,List.mem_range.2 h0,rfl⟩,(zfg hg hr hr5 hS h9 h0).2.1⟩
 have h1 : divN G S r G.size.toNat ∣ gcdL ((zdl G S r).map fun x=>x / gcdL (zdl G S r)):=(zjw fun x hx=>by
  obtain ⟨x',hx',rfl⟩:=List.mem_map.1 hx
  obtain ⟨i,hi,rfl⟩:=List.mem_map.1 hx'
  have hi:=List.mem_range.1 hi
  have hk:=(zaQ.1 (List.getElem_mem hi)).1
  have hy : (zak G S)[i] = (((zak G S)[i].toNat : Nat) : Int):=by have:=hk.1; omega
  have hm : (((zak G S)[i].toNat : Nat) : Int) ∈ zak G S:=by rw [← hy]; exact List.getElem_mem hi
  have h2:=zms hg hr hr5 hS h9 (r:=r) G.size.toNat (zak G S)[i].toNat (by have:=hk.2; have:=hk.1; omega) hm
  rw [zjr hg hr hr5 hS h9 hi hy] at h2
  rw [Int.toNat_natCast] at h2; exact h2).1
 rw [hd] at h1
 exact Nat.dvd_one.1 h1
theorem zqN {y : Nat} {all : Nat} (hy : (y : Int) ∈ zak G S) (hall : ∀ k : Nat,(k : Int) ∈ zak G S → zco G S r k ∣ all) : sumB G S r all y G.size.toNat = wAt G S r y * all:=by
 have hiy:=List.idxOf_lt_length_iff.2 hy
 obtain ⟨N,hN⟩ : ∃ N,(zak G S).length = N + 1:=⟨(zak G S).length - 1,by omega⟩
 have hyk : (zak G S)[(zak G S).idxOf (y : Int)] = (y : Int):=List.getElem_idxOf hiy
 obtain ⟨j,hj⟩ : ∃ j,j = (zak G S).idxOf (y : Int):=⟨_,rfl⟩
 rw [← hj] at hiy
 have hyj : (zak G S)[j] = (y : Int):=by subst hj; exact hyk
 have e1 : sumB G S r all y G.size.toNat = ((zak G S).map fun k : Int=>zlz G S r all y k.toNat).sum:=by
  have h:=zi1 (fun k : Int=>decide (0 ≤ dist G S k)) (fun k : Int=>zlz G S r all y k.toNat) ((List.range G.size.toNat).map Int.ofNat)
  unfold zak
  rw [← h,List.map_map]
  unfold sumB
  congr 1
  refine List.map_congr_left fun k hk=>?_
  have hkl:=List.mem_range.1 hk
  simp only [fcd,Int.ofNat_eq_natCast,Int.toNat_natCast,decide_eq_true_eq]
  have hiff : (k : Int) ∈ zak G S ↔ 0 ≤ dist G S (k : Int):=by
   rw [zaQ]
   exact ⟨fun h=>h.2,fun h=>⟨⟨by omega,by omega⟩,h⟩⟩
  by_cases hm : (k : Int) ∈ zak G S
  ·rw [if_pos hm,if_pos (hiff.1 hm)]
  ·rw [if_neg hm,if_neg fun h=>hm (hiff.2 h)]
 have hkn : ∀ i (h : i < (zak G S).length),((((zak G S)[i]).toNat : Nat) : Int) = (zak G S)[i]:=fun i h=>by
  have:=(zaQ.1 (List.getElem_mem h)).1.1
  omega
 have hd:=zjP hg hr hr5 hS h9 (r:=r) (by omega)
 have hwk : ∀ i,i < N + 1 → Walk (zdA G S r) N i:=fun i hi=>by
  have:=zpc hg hr hS (i:=i) (by omega)
  rwa [hN,Nat.add_sub_cancel] at this
 have hb:=zok hwk (y:=j) (by omega)
 have hms : ∀ i,smN (N + 1) (zdA G S r i) = zdm G S r (zbT G S i):=fun i=>by rw [← hN]; exact zhT
 rw [hms] at hb
 have htr : ∀ i,zdy (zdA G S r) N i = zfh G S r i:=fun i=>by unfold zfh; rw [hN,Nat.add_sub_cancel]
 simp only [htr] at hb
 have hdr : ∀ i,i < N + 1 → gcdL (zdl G S r) ∣ rawK G S r i:=fun i hi=>zfr (List.mem_map.2 ⟨i,List.mem_range.2 (by omega),rfl⟩)
 have key:=zkC (N:=N) (y:=j) (W:=zdA G S r) (d:=(gcdL (zdl G S r) : Nat)) (all:=(all : Int)) (t:=zfh G S r) (m:=fun i=>zdm G S r (zbT G S i)) (w:=fun i=>((rawK G S r i / gcdL (zdl G S r) : Nat) : Int)) (q:=fun i=>((all / zco G S r (zbT G S i).toNat : Nat) : Int)) (by omega) (by omega) (fun i hi=>?_) (fun i hi=>?_) hb
 ·rw [e1,zlH,List.length_map,hN,zjr hg hr hr5 hS h9 hiy hyj,← key]
  refine zaF _ fun i hi=>?_
  have hil : i < (zak G S).length:=by omega
  rw [List.getD_eq_getElem?_getD,List.getElem?_map,List.getElem?_eq_getElem hil,Option.map_some,Option.getD_some]
  unfold zlz
  rw [zjr hg hr hr5 hS h9 hil (hkn i hil).symm,hkn i hil,zeN hil]
  congr 2
  unfold zdA zlv
  simp [hil,hiy,hyj]
 ·rw [← Int.natCast_mul,Nat.div_mul_cancel (hdr i hi),(zfg hg hr hr5 hS h9 (by omega : i < (zak G S).length)).1,Int.mul_comm]
 ·have hil : i < (zak G S).length:=by omega
  have hm : (((zbT G S i).toNat : Nat) : Int) = zbT G S i:=by rw [zeN hil]; exact hkn i hil
  have h1:=hall (zbT G S i).toNat (by rw [hm]; exact zfJ hil)
  have h2:=zgW (S:=S) hg hr hr5 (zbT G S i).toNat
  rw [hm] at h2
  rw [← h2,← Int.natCast_mul,Nat.div_mul_cancel h1]
end
end Go.Proofs.Ytfdbhehkkobfgaa
