/- Texts of this claim,merged. -/
import Derived.Test.YtfdbhehkkobfgaaGreatRu10
import Derived.Test.YtfdbhehkkobfgaaGreatRu8
import Derived.Test.YtfdbhehkkobfgaaGreatRu7
import Derived.Test.YtfdbhehkkobfgaaGreatRu9
import Derived.Test.YtfdbhehkkobfgaaGreatRu6
set_option linter.unusedSimpArgs false
set_option linter.unusedVariables false
set_option linter.unusedSectionVars false
namespace Go.Proofs.YtfdbhehkkobfgaaGreat
open Go
def Cg (p x y : Int) : Prop:=p ∣ x - y
section
variable {p x y z u v : Int}
theorem Cg.refl (x : Int) : Cg p x x:=by unfold Cg; rw [Int.sub_self]; exact Int.dvd_zero p
theorem Cg.symm (h : Cg p x y) : Cg p y x:=by
 unfold Cg at *
 obtain ⟨k,hk⟩:=h
 exact ⟨-k,by grind⟩
theorem Cg.trans (h : Cg p x y) (h2 : Cg p y z) : Cg p x z:=by
 unfold Cg at *
 obtain ⟨k,hk⟩:=h
 obtain ⟨l,hl⟩:=h2
 exact ⟨k + l,by grind⟩
theorem Cg.add (h : Cg p x y) (h2 : Cg p u v) : Cg p (x + u) (y + v):=by
 unfold Cg at *
 obtain ⟨k,hk⟩:=h
 obtain ⟨l,hl⟩:=h2
 exact ⟨k + l,by grind⟩
theorem Cg.sub (h : Cg p x y) (h2 : Cg p u v) : Cg p (x - u) (y - v):=by
 unfold Cg at *
 obtain ⟨k,hk⟩:=h
 obtain ⟨l,hl⟩:=h2
 exact ⟨k - l,by grind⟩
theorem Cg.mul (h : Cg p x y) (h2 : Cg p u v) : Cg p (x * u) (y * v):=by
 unfold Cg at *
 obtain ⟨k,hk⟩:=h
 obtain ⟨l,hl⟩:=h2
 exact ⟨k * u + y * l,by grind⟩
theorem Cg.pow (h : Cg p x y) : ∀ n : Nat,Cg p (x ^ n) (y ^ n)
 | 0=>by rw [Int.pow_zero,Int.pow_zero]; exact .refl 1
 | n + 1=>by rw [Int.pow_succ,Int.pow_succ]; exact (h.pow n).mul h
theorem Cg.emod (x : Int) : Cg p (x % p) x:=by
 unfold Cg
 exact ⟨- (x / p),by have:=Int.mul_ediv_add_emod x p; grind⟩
theorem Cg.eq (h : Cg p x y) (hx : 0 ≤ x) (hxp : x < p) (hy : 0 ≤ y) (hyp : y < p) : x = y:=by
 unfold Cg at h
 have h1:=(Int.emod_emod_of_dvd x (Int.dvd_refl p))
 have h2 : x % p = y % p:=Int.emod_eq_emod_iff_emod_sub_eq_zero.2 (Int.emod_eq_zero_of_dvd h)
 rwa [Int.emod_eq_of_lt hx hxp,Int.emod_eq_of_lt hy hyp] at h2
end
section
variable {p : Int} {F G : List Vec → Int} {f g : Nat → Vec} {r : Nat}
theorem zkf (hF : ∀ l : List Nat,Cg p (F (l.map f)) (G (l.map g))) (hfg : ∀ j i,Cg p (f j i) (g j i)) : ∀ rest pre : List Nat,Cg p (lapS F r (pre.map f) (rest.map f)) (lapS G r (pre.map g) (rest.map g))
 | [],_=>.refl 0
 | c :: rest,pre=>by
   have h1:=zkf hF hfg rest (pre ++ [c])
   have h2:=hF (pre ++ rest)
   simp only [List.map_append,List.map_cons,List.map_nil] at h1 h2
   simp only [lapS,List.map_cons,List.length_map]
   exact (((Cg.refl _).mul (hfg c r)).mul h2).add h1
theorem zlf (hfg : ∀ j i,Cg p (f j i) (g j i)) : ∀ (n r : Nat) (l : List Nat),Cg p (detC n r (l.map f)) (detC n r (l.map g))
 | 0,_,_=>.refl 1
 | n + 1,r,l=>by
   have:=zkf (r:=r) (zlf hfg n (r + 1)) hfg l []
   simpa only [detC,List.map_nil] using this
theorem zi2 (a : Int) {n : Nat} (hF : ∀ l : List Nat,l.length = n → F (l.map fun j=>fun i=>a * f j i) = a ^ n * F (l.map f)) : ∀ rest pre : List Nat,pre.length + rest.length = n + 1 →
  lapS F r (pre.map fun j=>fun i=>a * f j i) (rest.map fun j=>fun i=>a * f j i) = a ^ (n + 1) * lapS F r (pre.map f) (rest.map f)
 | [],_,_=>by simp [lapS]
 | c :: rest,pre,h=>by
   simp only [List.length_cons] at h
   have h1:=zi2 a hF rest (pre ++ [c]) (by simp; omega)
   have h2:=hF (pre ++ rest) (by simp; omega)
   simp only [List.map_append,List.map_cons,List.map_nil] at h1 h2
   simp only [lapS,List.map_cons,List.length_map]
   rw [h1,h2]
   grind
theorem ziJ (a : Int) : ∀ (n r : Nat) (l : List Nat),l.length = n → detC n r (l.map fun j=>fun i=>a * f j i) = a ^ n * detC n r (l.map f)
 | 0,_,_,_=>by simp [detC]
 | n + 1,r,l,h=>by
   have:=zi2 (r:=r) a (ziJ a n (r + 1)) l [] (by simpa using h)
   simpa only [detC,List.map_nil] using this
end
theorem zj8 {p : Int} {A B : Mat} (h : ∀ i j,Cg p (A i j) (B i j)) (n : Nat) : Cg p (detM n A) (detM n B) :=
 zlf (f:=fun j=>fun i=>A i j) (g:=fun j=>fun i=>B i j) (fun j i=>h i j) n 0 (List.range n)
theorem zn7 (a : Int) (n : Nat) (A : Mat) : detM n (fun i j=>a * A i j) = a ^ n * detM n A :=
 ziJ (f:=fun j=>fun i=>A i j) a n 0 (List.range n) (by simp)
theorem zq4 (A : Mat) : detM 1 A = A 0 0:=by
 simp [detM,detC,lapS,List.range_succ,sg]
theorem zo5 (A : Mat) : detM 0 A = 1:=rfl
theorem zpK {p inv : Int} {B S : Mat} (hi : Cg p (B 0 0 * inv) 1) (hS : ∀ i j,Cg p (S i j) (B (i + 1) (j + 1) - B (i + 1) 0 * inv * B 0 (j + 1))) (m : Nat) : Cg p (detM (m + 1) B) (B 0 0 * detM m S):=by
 have h1 : ∀ i j,Cg p (chio B i j) (B 0 0 * S i j):=fun i j=>by
  have e1:=(Cg.refl (p:=p) (B 0 0)).mul (hS i j)
  refine Cg.trans ?_ e1.symm
  unfold chio
  have e2 : Cg p (B (i + 1) 0 * (B 0 0 * inv) * B 0 (j + 1)) (B (i + 1) 0 * 1 * B 0 (j + 1)):=((Cg.refl _).mul hi).mul (Cg.refl _)
  have e3:=(Cg.refl (p:=p) (B 0 0 * B (i + 1) (j + 1))).sub e2.symm
  have e4 : B 0 0 * B (i + 1) (j + 1) - B (i + 1) 0 * 1 * B 0 (j + 1) = B 0 0 * B (i + 1) (j + 1) - B 0 (j + 1) * B (i + 1) 0:=by grind
  have e5 : B 0 0 * B (i + 1) (j + 1) - B (i + 1) 0 * (B 0 0 * inv) * B 0 (j + 1) = B 0 0 * (B (i + 1) (j + 1) - B (i + 1) 0 * inv * B 0 (j + 1)):=by grind
  rwa [e4,e5] at e3
 have h2:=zj8 h1 m
 rw [zn7] at h2
 have h3:=zhD m B
 have h4:=(Cg.refl (p:=p) (B 0 0)).mul h2
 rw [← h3] at h4
 have h5:=(Cg.refl (p:=p) (inv ^ m)).mul h4
 have hp:=hi.pow m
 rw [Int.one_pow,Int.mul_pow] at hp
 have h6:=hp.mul (Cg.refl (p:=p) (detM (m + 1) B))
 have h7:=hp.mul (Cg.refl (p:=p) (B 0 0 * detM m S))
 have e1 : inv ^ m * (B 0 0 ^ m * detM (m + 1) B) = B 0 0 ^ m * inv ^ m * detM (m + 1) B:=by grind
 have e2 : inv ^ m * (B 0 0 * (B 0 0 ^ m * detM m S)) = B 0 0 ^ m * inv ^ m * (B 0 0 * detM m S):=by grind
 rw [e1,e2] at h5
 rw [Int.one_mul] at h6 h7
 exact (h6.symm.trans h5).trans h7
theorem zoW (S : Nat → Bool) : ∀ (n m : Nat) (f : Nat → Int),m ≤ n → (smN n fun j=>if (S j && decide (j < m)) then f j else 0) = smN m fun j=>if S j then f j else 0
 | n,0,f,_=>by
   have h:=zbn n (f:=fun j=>if (S j && decide (j < 0)) then f j else 0) (g:=fun _=>0) fun j _=>by simp
   rw [h,zg9]
   rfl
 | n + 1,m + 1,f,h=>by
   have h1:=zoW (fun j=>S (j + 1)) n m (fun j=>f (j + 1)) (by omega)
   have h2:=zbn n (f:=fun j=>if (S (j + 1) && decide (j + 1 < m + 1)) then f (j + 1) else 0) (g:=fun j=>if (S (j + 1) && decide (j < m)) then f (j + 1) else 0) fun j _=>by simp
   simp only [smN]
   rw [h2,h1]
   simp
theorem MM.lead {n m : Nat} {A : Mat} (h : MM n A) (hm : m ≤ n) : MM m A:=by
 have hin : ∀ (S : Nat → Bool) i,inR n A (fun j=>S j && decide (j < m)) i = inR m A S i:=fun S i=>zoW S n m (fun j=>A i j) hm
 refine ⟨fun i j hi hj hne=>h.off i j (by omega) (by omega) hne,fun S i hi hs=>?_,fun S hS=>?_⟩
 ·have:=h.non (fun j=>S j && decide (j < m)) i (by omega) (by simp [hs,hi])
  rwa [hin] at this
 ·obtain ⟨k,hk,hks⟩:=hS
  obtain ⟨i,hi,hs,hp⟩:=h.leak (fun j=>S j && decide (j < m)) ⟨k,by omega,by simp [hks,hk]⟩
  simp at hs
  rw [hin] at hp
  exact ⟨i,hs.2,hs.1,hp⟩
structure Elim (p : Int) (A : Mat) (k : Nat) (o : Int) (B : Mat) : Prop where
 det : ∀ m,Cg p (detM (k + m) A) (o * detM m B)
theorem Elim.start (p : Int) (A : Mat) : Elim p A 0 1 A:=⟨fun m=>by rw [Nat.zero_add,Int.one_mul]; exact .refl _⟩
theorem Elim.next {p inv o : Int} {A B S : Mat} {k : Nat} (h : Elim p A k o B) (hi : Cg p (B 0 0 * inv) 1) (hS : ∀ i j,Cg p (S i j) (B (i + 1) (j + 1) - B (i + 1) 0 * inv * B 0 (j + 1))) {o' : Int} (ho : Cg p o' (o * B 0 0)) : Elim p A (k + 1) o' S:=⟨fun m=>by
 have h1:=h.det (m + 1)
 rw [show k + 1 + m = k + (m + 1) by omega]
 refine h1.trans ?_
 have h2:=(Cg.refl (p:=p) o).mul (zpK hi hS m)
 have h3:=ho.mul (Cg.refl (p:=p) (detM m S))
 rw [show o * (B 0 0 * detM m S) = o * B 0 0 * detM m S by grind] at h2
 exact h2.trans h3.symm⟩
theorem Elim.piv {p o : Int} {A B : Mat} {k n : Nat} (h : Elim p A k o B) (hA : MM n A) (hk : k < n) (hp : (zdk (k + 1) fun i=>A i i) < p) : ¬ Cg p (B 0 0) 0:=fun hz=>by
 have h1:=h.det 1
 rw [zq4] at h1
 have h2:=h1.trans ((Cg.refl o).mul hz)
 rw [Int.mul_zero] at h2
 have h3:=zhe (k + 1) (hA.lead (by omega))
 have h4:=zjP (k + 1) (hA.lead (by omega))
 have h5:=h2.eq (by omega) (by omega) (Int.le_refl 0) (by omega)
 omega
theorem Elim.done {p o : Int} {A B : Mat} {n : Nat} (h : Elim p A n o B) (hA : MM n A) (hp : (zdk n fun i=>A i i) < p) (ho : 0 ≤ o) (hop : o < p) : o = detM n A:=by
 have h1:=h.det 0
 rw [zo5,Int.mul_one,Nat.add_zero] at h1
 have h3:=zhe n hA
 have h4:=zjP n hA
 exact (h1.eq (by omega) (by omega) ho hop).symm
def Prm (q : Nat) : Prop:=1 < q ∧ ∀ d,d ∣ q → d = 1 ∨ d = q
theorem Prm.cop {q a : Nat} (h : Prm q) (ha : ¬ q ∣ a) : Nat.Coprime q a:=by
 rcases h.2 (Nat.gcd q a) (Nat.gcd_dvd_left q a) with h1 | h1
 ·exact h1
 ·exact absurd (h1 ▸ Nat.gcd_dvd_right q a) ha
theorem Prm.euclid {q a b : Nat} (h : Prm q) (hd : q ∣ a * b) : q ∣ a ∨ q ∣ b:=by
 by_cases ha : q ∣ a
 ·exact .inl ha
 ·exact .inr ((h.cop ha).dvd_of_dvd_mul_left hd)
theorem zmn {q x y : Nat} (h : y % q = x % q) : q ∣ y - x:=Nat.dvd_of_mod_eq_zero (Nat.sub_mod_eq_zero_of_mod_eq h)
theorem zrW {q x y : Nat} (hxy : x ≤ y) (h : q ∣ y - x) : y % q = x % q:=by
 obtain ⟨t,ht⟩:=h
 rw [show y = x + q * t by omega,Nat.add_mul_mod_self_left]
theorem zhq : ∀ {a b : List Nat},a.Nodup → (∀ x ∈ a,x ∈ b) → a.length = b.length → a.Perm b
 | [],b,_,_,hl=>by
   have : b = []:=List.length_eq_zero_iff.1 hl.symm
   rw [this]
 | x :: a,b,hn,hs,hl=>by
   have hx:=hs x (by simp)
   have h1:=List.perm_cons_erase hx
   rw [List.nodup_cons] at hn
   have h2 : a.Perm (b.erase x):=by
    refine zhq hn.2 (fun y hy=>?_) ?_
    ·have hne : y ≠ x:=fun h=>hn.1 (h ▸ hy)
     exact (List.mem_erase_of_ne hne).2 (hs y (by simp [hy]))
    ·rw [List.length_erase_of_mem hx]
     simp only [List.length_cons] at hl
     omega
   exact (h2.cons x).trans h1.symm
def mulL : List Nat → Nat
 | []=>1
 | x :: l=>x * mulL l
theorem zpD {a b : List Nat} (h : a.Perm b) : mulL a = mulL b:=by
 induction h with
 | nil=>rfl
 | cons x _ ih=>simp only [mulL]; rw [ih]
 | swap x y l=>simp only [mulL]; grind
 | trans _ _ ih1 ih2=>exact ih1.trans ih2
theorem zmx (q a : Nat) : ∀ l : List Nat,mulL (l.map fun x=>a * x % q) % q = a ^ l.length * mulL l % q
 | []=>by simp [mulL]
 | x :: l=>by
   have h:=zmx q a l
   simp only [List.map_cons,mulL,List.length_cons]
   rw [Nat.mul_mod,h,Nat.mod_mod,← Nat.mul_mod]
   congr 1
   grind
theorem zms {q : Nat} (h : Prm q) : ∀ l : List Nat,q ∣ mulL l → ∃ x ∈ l,q ∣ x
 | [],hd=>by
   have:=Nat.le_of_dvd (by decide) hd
   have:=h.1
   simp only [mulL] at *
   omega
 | x :: l,hd=>by
   rcases h.euclid hd with h1 | h1
   ·exact ⟨x,by simp,h1⟩
   ·obtain ⟨y,hy,h2⟩:=zms h l h1
    exact ⟨y,by simp [hy],h2⟩
theorem zrv {q a : Nat} (h : Prm q) (ha : ¬ q ∣ a) : a ^ (q - 1) % q = 1:=by
 have h1:=h.1
 let l:=List.range' 1 (q - 1)
 have hlen : l.length = q - 1:=by simp [l]
 have hml : ∀ x ∈ l,1 ≤ x ∧ x < q:=fun x hx=>by
  have:=List.mem_range'_1.1 hx
  omega
 have hnod : l.Nodup:=List.nodup_range'
 have hcop:=h.cop ha
 have hp : (l.map fun x=>a * x % q).Perm l:=by
  refine zhq ?_ (fun y hy=>?_) (by simp)
  ·rw [List.Nodup,List.pairwise_map]
   refine hnod.imp_of_mem fun {x y} hx hy hne he=>hne ?_
   have hx':=hml x hx
   have hy':=hml y hy
   have key : ∀ x y : Nat,x ≤ y → y < q → a * x % q = a * y % q → x = y:=fun x y hxy hyq he=>by
    have h2 : q ∣ a * y - a * x:=zmn he.symm
    rw [← Nat.mul_sub] at h2
    have h3 : q ∣ y - x:=hcop.dvd_of_dvd_mul_left h2
    rcases Nat.eq_zero_or_pos (y - x) with h4 | h4
    ·omega
    ·have:=Nat.le_of_dvd h4 h3
     omega
   rcases Nat.le_total x y with h5 | h5
   ·exact key x y h5 hy'.2 he
   ·exact (key y x h5 hx'.2 he.symm).symm
  ·obtain ⟨x,hx,rfl⟩:=List.mem_map.1 hy
   have hx':=hml x hx
   refine List.mem_range'_1.2 ?_
   have h3 : a * x % q < q:=Nat.mod_lt _ (by omega)
   have h4 : a * x % q ≠ 0:=fun h0=>by
    have h5:=Nat.dvd_of_mod_eq_zero h0
    have h6:=hcop.dvd_of_dvd_mul_left h5
    have:=Nat.le_of_dvd (by omega) h6
    omega
   omega
 have h2:=zmx q a l
 rw [zpD hp,hlen] at h2
 have hnd : ¬ q ∣ mulL l:=fun hd=>by
  obtain ⟨x,hx,h3⟩:=zms h l hd
  have h4:=hml x hx
  have:=Nat.le_of_dvd (by omega) h3
  omega
 have hpos : 1 ≤ a ^ (q - 1):=Nat.pow_pos (Nat.pos_of_ne_zero fun h0=>ha (h0 ▸ Nat.dvd_zero q))
 have h3 : q ∣ a ^ (q - 1) * mulL l - 1 * mulL l:=by
  refine zmn ?_
  rw [Nat.one_mul]
  exact h2.symm
 rw [← Nat.sub_mul] at h3
 have h4:=(h.cop hnd).dvd_of_dvd_mul_right h3
 rw [zrW hpos h4,Nat.mod_eq_of_lt h1]
theorem znM : ∀ (n : Nat),1 < n → ∃ q,Prm q ∧ q ∣ n:=by
 intro n
 induction n using Nat.strongRecOn with
 | _ n ih =>
   intro hn
   by_cases h : Prm n
   ·exact ⟨n,h,Nat.dvd_refl n⟩
   ·have : ∃ d,d ∣ n ∧ d ≠ 1 ∧ d ≠ n:=Classical.byContradiction fun hc=>h ⟨hn,fun d hd=>by
     by_cases h1 : d = 1
     ·exact .inl h1
     ·by_cases h2 : d = n
      ·exact .inr h2
      ·exact absurd ⟨d,hd,h1,h2⟩ hc⟩
    obtain ⟨d,hd,h1,h2⟩:=this
    have h3:=Nat.le_of_dvd (by omega) hd
    have h4 : d ≠ 0:=fun h0=>by subst h0; have:=Nat.eq_zero_of_zero_dvd hd; omega
    obtain ⟨q,hq,h5⟩:=ih d (by omega) (by omega)
    exact ⟨q,hq,Nat.dvd_trans h5 hd⟩
def P61 : Nat:=2305843009213693951
def powm (m : Nat) : Nat → Nat → Nat → Nat → Nat
 | 0,_,_,acc=>acc
 | f + 1,a,n,acc=>powm m f (a * a % m) (n / 2) (if n % 2 = 1 then acc * a % m else acc)
theorem zp6 (m : Nat) : ∀ (f a n acc : Nat),n < 2 ^ f → powm m f a n acc % m = acc * a ^ n % m
 | 0,a,n,acc,h=>by
   have : n = 0:=by simpa using h
   subst this
   simp [powm]
 | f + 1,a,n,acc,h=>by
   have h1:=zp6 m f (a * a % m) (n / 2) (if n % 2 = 1 then acc * a % m else acc) (by rw [Nat.pow_succ] at h; omega)
   simp only [powm]
   rw [h1]
   have h2 : (a * a % m) ^ (n / 2) % m = (a * a) ^ (n / 2) % m:=(Nat.pow_mod _ _ _).symm
   have h3 : (a * a) ^ (n / 2) = a ^ (2 * (n / 2)):=by rw [Nat.pow_mul,Nat.pow_two]
   rw [Nat.mul_mod,h2,h3]
   split
   ·rename_i h4
    rw [Nat.mod_mod,← Nat.mul_mod,Nat.mul_assoc,Nat.mul_comm a,← Nat.pow_succ]
    congr 3
    omega
   ·rename_i h4
    rw [← Nat.mul_mod]
    congr 3
    omega
theorem zsr {q h : Nat} (hq : 1 < q) (m n : Nat) : h ^ m % q = 1 → h ^ n % q = 1 → h ^ Nat.gcd m n % q = 1:=by
 induction m,n using Nat.gcd.induction with
 | H0 n=>intro _ h2; simpa using h2
 | H1 m n hm ih =>
   intro h1 h2
   rw [Nat.gcd_rec]
   refine ih ?_ h1
   have e : h ^ n = (h ^ m) ^ (n / m) * h ^ (n % m):=by
    rw [← Nat.pow_mul,← Nat.pow_add,Nat.div_add_mod]
   rw [e,Nat.mul_mod,Nat.pow_mod,h1,Nat.one_pow,Nat.mod_eq_of_lt hq,Nat.one_mul,Nat.mod_mod] at h2
   exact h2
theorem zjC {q r h u : Nat} (hq : Prm q) (hr : Prm r) (hd : q ∣ P61) (hr2 : r < 2 ^ 11) (hp : powm P61 11 h r 1 % P61 = 1) (h2 : (h - 1) * u % P61 = 1) : r ∣ q - 1:=Classical.byContradiction fun hn=>by
 have hq1:=hq.1
 have h1 : h ^ r % P61 = 1:=by
  rw [zp6 P61 11 h r 1 hr2,Nat.one_mul] at hp
  exact hp
 have hmod : ∀ x,x % P61 = 1 → x % q = 1:=fun x hx=>by
  rw [← Nat.mod_mod_of_dvd x hd,hx,Nat.mod_eq_of_lt hq1]
 have e1:=hmod _ h1
 have hqh : ¬ q ∣ h:=fun hdv=>by
  obtain ⟨k,hk⟩ : ∃ k,r = k + 1:=⟨r - 1,by have:=hr.1; omega⟩
  have : q ∣ h ^ r:=by rw [hk,Nat.pow_succ]; exact Nat.dvd_trans hdv (Nat.dvd_mul_left h (h ^ k))
  rw [Nat.mod_eq_zero_of_dvd this] at e1
  omega
 have e2:=zrv hq hqh
 have hc : Nat.gcd r (q - 1) = 1:=hr.cop hn
 have e3:=zsr hq1 r (q - 1) e1 e2
 rw [hc,Nat.pow_one] at e3
 have e4:=hmod _ h2
 have e5 : q ∣ h - 1:=zmn (by rw [e3,Nat.mod_eq_of_lt hq1])
 have e6 : q ∣ (h - 1) * u:=Nat.dvd_trans e5 (Nat.dvd_mul_right _ _)
 rw [Nat.mod_eq_zero_of_dvd e6] at e4
 omega
theorem zjD {r : Nat} (h1 : 1 < r) (h : ∀ d,d < r → d ≤ 1 ∨ ¬ d ∣ r) : Prm r:=⟨h1,fun d hd=>by
 have h2:=Nat.le_of_dvd (by omega) hd
 by_cases h3 : d = r
 ·exact .inr h3
 ·rcases h d (by omega) with h4 | h4
  ·have : d ≠ 0:=fun h0=>by subst h0; have:=Nat.eq_zero_of_zero_dvd hd; omega
   exact .inl (by omega)
  ·exact absurd hd h4⟩
def zsd (r : Nat) : Nat → Bool
 | 0=>true
 | d + 1=>(d ≤ 1 || r % d != 0) && zsd r d
theorem zfG {r : Nat} : ∀ n,zsd r n = true → ∀ d,d < n → d ≤ 1 ∨ ¬ d ∣ r
 | n + 1,h,d,hd=>by
   simp only [zsd,Bool.and_eq_true,Bool.or_eq_true,decide_eq_true_eq] at h
   by_cases he : d = n
   ·subst he
    rcases h.1 with h1 | h1
    ·exact .inl h1
    ·exact .inr fun hdv=>by simp [Nat.mod_eq_zero_of_dvd hdv] at h1
   ·exact zfG n h.2 d (by omega)
theorem zr0 {q : Nat} (hq : Prm q) (hd : q ∣ P61) : 1321 ∣ q - 1:=by
 exact zjC (h:=30210013857155493) (u:=2165998172066445805) hq (zjD (by decide) (zfG 1321 (by decide +kernel))) hd (by decide) (by decide +kernel) (by decide +kernel)
theorem ztr {q : Nat} (hq : Prm q) (hd : q ∣ P61) : 331 ∣ q - 1:=by
 exact zjC (h:=185945230422323302) (u:=1960352316127796739) hq (zjD (by decide) (zfG 331 (by decide +kernel))) hd (by decide) (by decide +kernel) (by decide +kernel)
theorem ztP {q : Nat} (hq : Prm q) (hd : q ∣ P61) : 151 ∣ q - 1:=by
 exact zjC (h:=1433721343585656393) (u:=68233547637592170) hq (zjD (by decide) (zfG 151 (by decide +kernel))) hd (by decide) (by decide +kernel) (by decide +kernel)
theorem zuI {q : Nat} (hq : Prm q) (hd : q ∣ P61) : 61 ∣ q - 1:=by
 exact zjC (h:=35184372088832) (u:=329365932848850065) hq (zjD (by decide) (zfG 61 (by decide +kernel))) hd (by decide) (by decide +kernel) (by decide +kernel)
theorem zn0 {P : Nat} (hP : 1 < P) (key : ∀ m,1 < m → m ∣ P → P < m * m) : Prm P:=⟨hP,fun d hd=>Classical.byContradiction fun hc=>by
 have hc1 : d ≠ 1:=fun h=>hc (.inl h)
 have hc2 : d ≠ P:=fun h=>hc (.inr h)
 obtain ⟨e,he⟩:=hd
 have hd0 : d ≠ 0:=fun h=>by rw [h,Nat.zero_mul] at he; omega
 have he0 : e ≠ 0:=fun h=>by rw [h,Nat.mul_zero] at he; omega
 have he1 : e ≠ 1:=fun h=>by rw [h,Nat.mul_one] at he; exact hc2 he.symm
 have k1:=key d (by omega) ⟨e,he⟩
 have k2:=key e (by omega) ⟨d,by rw [Nat.mul_comm]; exact he⟩
 rcases Nat.le_total d e with h | h
 ·have:=Nat.mul_le_mul_left d h
  omega
 ·have:=Nat.mul_le_mul_right e h
  omega⟩
theorem zuD {q : Nat} (hq1 : 1 < q) (h1 : 1321 ∣ q - 1) (h2 : 331 ∣ q - 1) (h3 : 151 ∣ q - 1) (h4 : 61 ∣ q - 1) : 4027518961 ≤ q - 1:=by
 have h5 : 1321 * 331 ∣ q - 1:=Nat.Coprime.mul_dvd_of_dvd_of_dvd (by decide +kernel : Nat.Coprime 1321 331) h1 h2
 have h6 : 1321 * 331 * 151 ∣ q - 1:=Nat.Coprime.mul_dvd_of_dvd_of_dvd (by decide +kernel : Nat.Coprime (1321 * 331) 151) h5 h3
 have h7 : 1321 * 331 * 151 * 61 ∣ q - 1:=Nat.Coprime.mul_dvd_of_dvd_of_dvd (by decide +kernel : Nat.Coprime (1321 * 331 * 151) 61) h6 h4
 have h0 : 0 < q - 1:=Nat.sub_pos_of_lt hq1
 exact Nat.le_of_dvd h0 h7
theorem zuy {m : Nat} (h : 4027518961 ≤ m) : P61 < m * m:=Nat.lt_of_lt_of_le (by decide +kernel : P61 < 4027518961 * 4027518961) (Nat.mul_le_mul h h)
theorem zuz (m : Nat) (hm : 1 < m) (hmd : m ∣ P61) : P61 < m * m:=by
 obtain ⟨q,hq,hqm⟩:=znM m hm
 have hqd:=Nat.dvd_trans hqm hmd
 have h8:=zuD hq.1 (zr0 hq hqd) (ztr hq hqd) (ztP hq hqd) (zuI hq hqd)
 have h9 : q ≤ m:=Nat.le_of_dvd (Nat.lt_trans Nat.zero_lt_one hm) hqm
 exact zuy (Nat.le_trans h8 (Nat.le_trans (Nat.sub_le q 1) h9))
theorem zuC : Prm P61:=zn0 (by decide +kernel) zuz
theorem zuc {a : Nat} (h0 : 0 < a) (h : a < P61) : a * a ^ (P61 - 2) % P61 = 1:=by
 have h1:=zrv zuC (a:=a) fun hd=>by
  have:=Nat.le_of_dvd h0 hd
  omega
 rw [Nat.mul_comm,← Nat.pow_succ]
 exact h1
def skp (r j : Nat) : Nat:=if j < r then j else j + 1
theorem ztB (r j : Nat) : skp r j ≠ r:=by unfold skp; split <;> omega
theorem zel {r j N : Nat} (hr : r < N + 1) (hj : j < N) : skp r j < N + 1:=by unfold skp; split <;> omega
theorem zpQ {r k N : Nat} (hk : k < N + 1) (hne : k ≠ r) (hr : r < N + 1) : ∃ j,j < N ∧ skp r j = k:=by
 rcases Nat.lt_or_ge k r with h | h
 ·exact ⟨k,by omega,by unfold skp; rw [if_pos h]⟩
 ·exact ⟨k - 1,by omega,by unfold skp; rw [if_neg (by omega)]; omega⟩
theorem zl9 : ∀ (n : Nat) (f g : Nat → Int),smN n (fun j=>f j + g j) = smN n f + smN n g
 | 0,_,_=>rfl
 | n + 1,f,g=>by
   simp only [smN]
   rw [zl9 n]
   omega
theorem ze1 : ∀ (n : Nat) {f : Nat → Int},(∀ i,i < n → 0 ≤ f i) → 0 ≤ smN n f
 | 0,_,_=>Int.le_refl _
 | n + 1,f,h=>by
   simp only [smN]
   have h1:=h 0 (by omega)
   have h2:=ze1 n (f:=fun i=>f (i + 1)) fun i hi=>h (i + 1) (by omega)
   omega
theorem zo7 : ∀ (n : Nat) {f : Nat → Int},(∀ i,i < n → 0 ≤ f i) → (∃ i,i < n ∧ 0 < f i) → 0 < smN n f
 | 0,_,_,h=>by obtain ⟨i,hi,_⟩:=h; omega
 | n + 1,f,h,he=>by
   simp only [smN]
   have h1:=h 0 (by omega)
   have h2:=ze1 n (f:=fun i=>f (i + 1)) fun i hi=>h (i + 1) (by omega)
   obtain ⟨i,hi,hp⟩:=he
   cases i with
   | zero=>omega
   | succ i =>
     have h3:=zo7 n (f:=fun i=>f (i + 1)) (fun i hi=>h (i + 1) (by omega)) ⟨i,by omega,hp⟩
     omega
theorem zoq : ∀ (N r : Nat) (f : Nat → Int),r < N + 1 → smN (N + 1) f = f r + smN N fun j=>f (skp r j)
 | N,0,f,_=>by
   have:=zbn N (f:=fun j=>f (skp 0 j)) (g:=fun j=>f (j + 1)) fun j _=>by simp [skp]
   rw [this]
   rfl
 | 0,r + 1,f,h=>by omega
 | N + 1,r + 1,f,h=>by
   have h1:=zoq N r (fun j=>f (j + 1)) (by omega)
   have h2 : smN (N + 1) (fun j=>f (skp (r + 1) j)) = f 0 + smN N fun j=>f (skp r j + 1):=by
    simp only [smN]
    congr 1
    refine zbn N fun j _=>?_
    congr 1
    unfold skp
    split <;> split <;> omega
   rw [h2]
   show f 0 + smN (N + 1) (fun j=>f (j + 1)) = _
   rw [h1]
   omega
def redM (W : Mat) (N r : Nat) : Mat:=fun i j=>if i = j then smN (N + 1) (W (skp r i)) - W (skp r i) (skp r i) else - W (skp r i) (skp r j)
structure Walk (W : Mat) (N r : Nat) : Prop where
 root : r < N + 1
 non : ∀ i j,i < N + 1 → j < N + 1 → 0 ≤ W i j
 out : ∀ S : Nat → Bool,S r = false → (∃ i,i < N + 1 ∧ S i = true) → ∃ i j,i < N + 1 ∧ j < N + 1 ∧ S i = true ∧ S j = false ∧ 0 < W i j
section
variable {W : Mat} {N r : Nat}
theorem zoC (hr : r < N + 1) (S : Nat → Bool) {i : Nat} (hi : i < N) (hs : S i = true) : inR N (redM W N r) S i = W (skp r i) r + smN N fun j=>if S j then 0 else W (skp r i) (skp r j):=by
 have h1:=zoq N r (W (skp r i)) hr
 have h2:=zgt N (fun _=>smN (N + 1) (W (skp r i))) i hi
 have h3 : inR N (redM W N r) S i = smN N fun j=>(if decide (j = i) then smN (N + 1) (W (skp r i)) else 0) + (if S j then - W (skp r i) (skp r j) else 0):=by
  unfold inR
  refine zbn N fun j _=>?_
  unfold redM
  by_cases hj : j = i
  ·subst hj
   simp [hs]
   omega
  ·have hj' : ¬ i = j:=fun h=>hj h.symm
   cases hsj : S j <;> simp [hj,hj']
 rw [h3,zl9,h2,h1,Int.add_assoc,← zl9]
 congr 1
 refine zbn N fun j _=>?_
 cases S j <;> simp <;> omega
theorem znf (h : Walk W N r) : MM N (redM W N r):=by
 have hr:=h.root
 refine ⟨fun i j hi hj hne=>?_,fun S i hi hs=>?_,fun S hS=>?_⟩
 ·have:=h.non (skp r i) (skp r j) (zel hr hi) (zel hr hj)
  unfold redM
  rw [if_neg hne]
  omega
 ·rw [zoC hr S hi hs]
  have h1:=h.non (skp r i) r (zel hr hi) hr
  have h2:=ze1 N (f:=fun j=>if S j then 0 else W (skp r i) (skp r j)) fun j hj=>by
   have:=h.non (skp r i) (skp r j) (zel hr hi) (zel hr hj)
   split <;> omega
  omega
 ·obtain ⟨k,hk,hks⟩:=hS
  let T : Nat → Bool:=fun x=>decide (x ≠ r) && S (if x < r then x else x - 1)
  have hT : ∀ j,T (skp r j) = S j:=fun j=>by
   have h1:=ztB r j
   have e : (if skp r j < r then skp r j else skp r j - 1) = j:=by
    by_cases hj : j < r
    ·have e1 : skp r j = j:=by unfold skp; rw [if_pos hj]
     rw [e1,if_pos hj]
    ·have e1 : skp r j = j + 1:=by unfold skp; rw [if_neg hj]
     have e2 : ¬ j + 1 < r:=by omega
     rw [e1,if_neg e2,Nat.add_sub_cancel]
   show (decide (skp r j ≠ r) && S (if skp r j < r then skp r j else skp r j - 1)) = S j
   rw [e,decide_eq_true h1,Bool.true_and]
  obtain ⟨i,j,hi,hj,hTi,hTj,hp⟩:=h.out T (by simp [T]) ⟨skp r k,zel hr hk,by rw [hT]; exact hks⟩
  have hir : i ≠ r:=fun he=>by subst he; simp [T] at hTi
  obtain ⟨a,ha,rfl⟩:=zpQ hi hir hr
  rw [hT] at hTi
  refine ⟨a,ha,hTi,?_⟩
  rw [zoC hr S ha hTi]
  have h1:=h.non (skp r a) r (zel hr ha) hr
  have h0 : ∀ j,j < N → 0 ≤ (if S j then 0 else W (skp r a) (skp r j)):=fun j hj=>by
   have:=h.non (skp r a) (skp r j) (zel hr ha) (zel hr hj)
   split <;> omega
  have h2:=ze1 N h0
  by_cases hjr : j = r
  ·subst hjr
   omega
  ·obtain ⟨b,hb,rfl⟩:=zpQ hj hjr hr
   rw [hT] at hTj
   have h3:=zo7 N h0 ⟨b,hb,by rw [hTj]; exact hp⟩
   omega
theorem zng (c : Int) (hc : 0 ≤ c) : ∀ (n : Nat) {f : Nat → Int},(∀ i,i < n → 0 ≤ f i ∧ f i ≤ c) → zdk n f ≤ c ^ n
 | 0,_,_=>by simp [zdk]
 | n + 1,f,h=>by
   have h0:=h 0 (by omega)
   have h1:=zng c hc n (f:=fun i=>f (i + 1)) fun i hi=>h (i + 1) (by omega)
   have h2:=zeF n (f:=fun i=>f (i + 1)) fun i hi=>(h (i + 1) (by omega)).1
   simp only [zdk]
   have h3:=Int.mul_le_mul h0.2 h1 h2 hc
   grind
theorem zk3 (h : Walk W N r) {c : Int} (hc : ∀ i,i < N + 1 → smN (N + 1) (W i) ≤ c) (hc0 : 0 ≤ c) {k : Nat} (hk : k ≤ N) : (zdk k fun i=>redM W N r i i) ≤ c ^ k:=by
 refine zng c hc0 k fun i hi=>?_
 have hm:=znf h
 have h1:=hm.diag i (by omega)
 refine ⟨h1,?_⟩
 have h2:=hc (skp r i) (zel h.root (by omega))
 have h3:=h.non (skp r i) (skp r i) (zel h.root (by omega)) (zel h.root (by omega))
 unfold redM
 rw [if_pos rfl]
 omega
end
def del (L : Mat) (x : Nat) : Mat:=fun i j=>L (skp x i) (skp x j)
def trs (n : Nat) (L : Mat) (x : Nat) : Int:=detM n (del L x)
theorem zqR (L : Mat) (x : Nat) : chio (del L (x + 1)) = del (chio L) x:=by
 have h0 : skp (x + 1) 0 = 0:=by simp [skp]
 have h1 : ∀ i,skp (x + 1) (i + 1) = skp x i + 1:=fun i=>by
  unfold skp
  by_cases h : i < x
  ·rw [if_pos h,if_pos (by omega)]
  ·rw [if_neg h,if_neg (by omega)]
 funext i j
 simp only [chio,del,h0,h1]
structure Lp (n : Nat) (L : Mat) : Prop where
 off : ∀ i j,i < n + 1 → j < n + 1 → i ≠ j → L i j ≤ 0
 sum : ∀ i,i < n + 1 → smN (n + 1) (L i) = 0
 red : ∀ x,x < n + 1 → MM n (del L x)
def bal (n : Nat) (L : Mat) (y : Nat) : Int:=smN (n + 1) fun x=>trs n L x * L x y
section
variable {n : Nat} {L : Mat}
theorem Lp.pos (h : Lp (n + 1) L) : 0 < L 0 0:=(h.red 1 (by omega)).pos
theorem Lp.chio (h : Lp (n + 1) L) : Lp n (chio L):=by
 have h0:=h.pos
 refine ⟨fun i j hi hj hne=>?_,fun i hi=>?_,fun x hx=>?_⟩
 ·have h1:=h.off (i + 1) (j + 1) (by omega) (by omega) (by omega)
  have h2:=h.off 0 (j + 1) (by omega) (by omega) (by omega)
  have h3:=h.off (i + 1) 0 (by omega) (by omega) (by omega)
  have h4:=Int.mul_nonneg_of_nonpos_of_nonpos h2 h3
  have h5:=Int.mul_nonneg (Int.le_of_lt h0) (Int.neg_nonneg_of_nonpos h1)
  rw [Int.mul_neg] at h5
  unfold Go.Proofs.YtfdbhehkkobfgaaGreat.chio
  omega
 ·have h1:=h.sum (i + 1) (by omega)
  have h2:=h.sum 0 (by omega)
  have h3:=zjT (L 0 0) (L (i + 1) 0) (n + 1) (fun j=>L (i + 1) (j + 1)) (fun j=>L 0 (j + 1))
  have h4:=zbn (n + 1) (f:=Go.Proofs.YtfdbhehkkobfgaaGreat.chio L i) (g:=fun j=>L 0 0 * L (i + 1) (j + 1) - L (i + 1) 0 * L 0 (j + 1)) fun j _=>by
   simp only [Go.Proofs.YtfdbhehkkobfgaaGreat.chio]
   grind
  rw [h4,h3]
  have e1 : L (i + 1) 0 + smN (n + 1) (fun j=>L (i + 1) (j + 1)) = 0:=h1
  have e2 : L 0 0 + smN (n + 1) (fun j=>L 0 (j + 1)) = 0:=h2
  have e3 : smN (n + 1) (fun j=>L (i + 1) (j + 1)) = - L (i + 1) 0:=by omega
  have e4 : smN (n + 1) (fun j=>L 0 (j + 1)) = - L 0 0:=by omega
  rw [e3,e4]
  grind
 ·rw [← zqR]
  exact (h.red (x + 1) (by omega)).chio
end
section
variable {W : Mat} {N : Nat}
def zfv (W : Mat) (N x : Nat) : Int:=detM N (redM W N x)
theorem zpL {x : Nat} (h : Walk W N x) : 0 < zfv W N x:=zhe N (znf h)
theorem zqP {x : Nat} (h : Walk W N x) {c : Int} (hc : ∀ i,i < N + 1 → smN (N + 1) (W i) ≤ c) (hc0 : 0 ≤ c) : zfv W N x ≤ c ^ N :=
 Int.le_trans (zjP N (znf h)) (zk3 h hc hc0 (Nat.le_refl N))
end
section
variable {g : Gr} {S : List Int}
theorem ziF (h : GrOk g) (T : Int → Bool) (hT : ∀ k,zct g S k = true → T k = true) : ∀ (n : Nat) (k : Int),dist g S k = n → T k = false → ∃ e ∈ g.edges,T e.f = true ∧ T e.t = false ∧ 0 ≤ dist g S e.f ∧ 0 ≤ dist g S e.t
 | 0,k,hd,hk=>by
   have:=hT k ((zfS h).1 hd)
   rw [hk] at this
   cases this
 | n + 1,k,hd,hk=>by
   obtain ⟨e,he,h1,h2⟩:=zkN h (by rw [hd]; omega : dist g S k = (n : Int) + 1)
   cases hf : T e.f
   ·exact ziF h T hT n e.f h2 hf
   ·exact ⟨e,he,hf,by rw [h1]; exact hk,by omega,by rw [h1]; omega⟩
def edW (g : Gr) (x y : Int) : Int:=((g.edges.filter fun e=>decide (e.f = x) && decide (e.t = y)).map fun e=>e.v).sum
def wayW (g : Gr) (S : List Int) (restart : Int) (x y : Int) : Int:=(if S.contains y then restart else 0) + edW g x y
def znZ (g : Gr) (S : List Int) (restart : Int) (K : List Int) : Mat:=fun i j=>wayW g S restart (K.getD i 0) (K.getD j 0)
theorem zc5 : ∀ {l : List Int},(∀ x ∈ l,0 ≤ x) → 0 ≤ l.sum
 | [],_=>by simp
 | x :: l,h=>by
   have h1:=h x (by simp)
   have h2:=zc5 (l:=l) fun y hy=>h y (by simp [hy])
   rw [List.sum_cons]
   omega
theorem zlm : ∀ {l : List Int} {y : Int},(∀ x ∈ l,0 ≤ x) → y ∈ l → y ≤ l.sum
 | x :: l,y,h,hy=>by
   have h1:=h x (by simp)
   have h2:=zc5 (l:=l) fun y hy=>h y (by simp [hy])
   rw [List.sum_cons]
   rcases List.mem_cons.1 hy with rfl | hy
   ·omega
   ·have:=zlm (l:=l) (fun y hy=>h y (by simp [hy])) hy
    omega
theorem ziZ (hv : ∀ e ∈ g.edges,0 ≤ e.v) (x y : Int) : 0 ≤ edW g x y:=zc5 fun v hv'=>by
 obtain ⟨e,he,rfl⟩:=List.mem_map.1 hv'
 exact hv e (List.mem_filter.1 he).1
theorem zrZ (hv : ∀ e ∈ g.edges,1 ≤ e.v) {e : Ed} (he : e ∈ g.edges) : 0 < edW g e.f e.t:=by
 have h1 : e.v ≤ edW g e.f e.t:=zlm (fun v hv'=>by
  obtain ⟨e,he,rfl⟩:=List.mem_map.1 hv'
  have:=hv e (List.mem_filter.1 he).1
  omega) (List.mem_map.2 ⟨e,List.mem_filter.2 ⟨he,by simp⟩,rfl⟩)
 have:=hv e he
 omega
theorem zsD (h : GrOk g) (hv : ∀ e ∈ g.edges,1 ≤ e.v) {restart : Int} (hr : 1 ≤ restart) {K : List Int} (hK : ∀ k,k ∈ K ↔ Key g k ∧ 0 ≤ dist g S k) (hn : K.Nodup) (hS : ∀ s ∈ S,Key g s) {N : Nat} (hN : K.length = N + 1) {r : Nat} (hrN : r < N + 1) : Walk (znZ g S restart K) N r:=by
 have hnn : ∀ x y,0 ≤ wayW g S restart x y:=fun x y=>by
  have:=ziZ (fun e he=>by have:=hv e he; omega) x y
  unfold wayW
  split <;> omega
 refine ⟨hrN,fun i j _ _=>hnn _ _,fun A hA hex=>?_⟩
 obtain ⟨i,hi,hAi⟩:=hex
 by_cases hst : ∃ s,s < N + 1 ∧ S.contains (K.getD s 0) = true ∧ A s = false
 ·obtain ⟨s,hs,h1,h2⟩:=hst
  refine ⟨i,s,hi,hs,hAi,h2,?_⟩
  have:=ziZ (fun e he=>by have:=hv e he; omega) (K.getD i 0) (K.getD s 0)
  unfold znZ wayW
  rw [if_pos h1]
  omega
 ·
  have hat : ∀ {k : Int},k ∈ K → K.idxOf k < N + 1 ∧ K.getD (K.idxOf k) 0 = k:=fun {k} hk=>by
   have h1:=List.idxOf_lt_length_iff.2 hk
   refine ⟨by omega,?_⟩
   simp [h1]
  let T : Int → Bool:=fun k=>decide (k ∈ K) && A (K.idxOf k)
  have hT : ∀ k,zct g S k = true → T k = true:=fun k hk=>by
   have hd:=(zfS h).2 hk
   have hs : S.contains k = true:=by
    unfold zct at hk
    simp only [Bool.and_eq_true] at hk
    exact hk.1
   have hkK : k ∈ K:=(hK k).2 ⟨hS k (by simpa using hs),by omega⟩
   obtain ⟨h1,h2⟩:=hat hkK
   have h3 : A (K.idxOf k) = true:=by
    cases h4 : A (K.idxOf k)
    ·exact absurd ⟨K.idxOf k,h1,by rw [h2]; exact hs,h4⟩ hst
    ·rfl
   simp [T,hkK,h3]
  have hrl : r < K.length:=by omega
  have hkr : K[r] ∈ K:=List.getElem_mem hrl
  have hdr:=((hK K[r]).1 hkr).2
  have hir : K.idxOf K[r] = r:=hn.idxOf_getElem r hrl
  obtain ⟨e,he,h1,h2,h3,h4⟩:=ziF h T hT (dist g S K[r]).toNat K[r] (by omega) (by simp [T,hir,hA])
  have hef : e.f ∈ K ∧ A (K.idxOf e.f) = true:=by simpa [T] using h1
  have het : e.t ∈ K:=(hK e.t).2 ⟨by have:=h.fits e he; unfold Fits at this; unfold Key; omega,h4⟩
  have hat2 : A (K.idxOf e.t) = false:=by simpa [T,het] using h2
  obtain ⟨q1,q2⟩:=hat hef.1
  obtain ⟨q3,q4⟩:=hat het
  refine ⟨K.idxOf e.f,K.idxOf e.t,q1,q3,hef.2,hat2,?_⟩
  unfold znZ wayW
  rw [q2,q4]
  have:=zrZ hv he
  split <;> omega
end
def gcdL : List Nat → Nat
 | []=>0
 | x :: l=>Nat.gcd x (gcdL l)
theorem znj : ∀ {l : List Nat} {x : Nat},x ∈ l → gcdL l ∣ x
 | y :: l,x,hx=>by
   rcases List.mem_cons.1 hx with rfl | hx
   ·exact Nat.gcd_dvd_left _ _
   ·exact Nat.dvd_trans (Nat.gcd_dvd_right _ _) (znj hx)
theorem zqZ : ∀ {l : List Nat},(∃ x ∈ l,0 < x) → 0 < gcdL l
 | [],h=>by obtain ⟨x,hx,_⟩:=h; cases hx
 | y :: l,h=>by
   obtain ⟨x,hx,hp⟩:=h
   have hd:=znj hx
   rcases Nat.eq_zero_or_pos (gcdL (y :: l)) with h0 | h0
   ·rw [h0] at hd
    have:=Nat.eq_zero_of_zero_dvd hd
    omega
   ·exact h0
structure DigG (b y1 y0 u3 u1 q r : Nat) : Prop where
 eq : q * y1 + r = u3
 ge : (u3 * b + u1) / (y1 * b + y0) ≤ q
section
variable {b y1 y0 u3 u1 q r : Nat}
theorem DigG.start (hy : 0 < y1) (hu : u1 < b) : DigG b y1 y0 u3 u1 (u3 / y1) (u3 - u3 / y1 * y1):=by
 have h1:=Nat.div_mul_le_self u3 y1
 refine ⟨by omega,?_⟩
 have hb : 0 < b:=by omega
 have h2 : (u3 * b + u1) / (y1 * b) ≤ u3 / y1:=by
  rw [Nat.mul_comm y1 b,← Nat.div_div_eq_div_mul,Nat.mul_comm u3 b,Nat.mul_add_div hb,Nat.div_eq_of_lt hu,Nat.add_zero]
  exact Nat.le_refl _
 refine Nat.le_trans ?_ h2
 exact Nat.div_le_div_left (by omega) (Nat.mul_pos hy hb)
theorem DigG.fits (h : DigG b y1 y0 u3 u1 q r) (hy : 0 < y1) (hb : 0 < b) (hq : q * y0 ≤ b * r + u1) : q = (u3 * b + u1) / (y1 * b + y0):=by
 refine Nat.le_antisymm ?_ h.ge
 have hp : 0 < y1 * b + y0:=by have:=Nat.mul_pos hy hb; omega
 rw [Nat.le_div_iff_mul_le hp]
 have h1:=h.eq
 have h2 : q * (y1 * b + y0) = q * y1 * b + q * y0:=by rw [Nat.mul_add,Nat.mul_assoc]
 have h3 : u3 * b = q * y1 * b + r * b:=by rw [← h1,Nat.add_mul]
 have h4 : b * r = r * b:=Nat.mul_comm _ _
 omega
theorem DigG.big (h : DigG b y1 y0 u3 u1 q r) (hy : 0 < y1) (hb : 0 < b) (hq : q < b) (hy0 : y0 < b) (hr : b ≤ r) : q = (u3 * b + u1) / (y1 * b + y0):=by
 refine h.fits hy hb ?_
 have h1 : q * y0 ≤ b * b:=Nat.mul_le_mul (by omega) (by omega)
 have h2 : b * b ≤ b * r:=Nat.mul_le_mul_left b hr
 omega
theorem DigG.less (h : DigG b y1 y0 u3 u1 q r) (hy : 0 < y1) (hb : 0 < b) (hU : u3 * b + u1 < (y1 * b + y0) * b) (hq : b ≤ q ∨ b * r + u1 < q * y0) : 1 ≤ q ∧ DigG b y1 y0 u3 u1 (q - 1) (r + y1):=by
 have h1:=h.eq
 have hp : 0 < y1 * b + y0:=by have:=Nat.mul_pos hy hb; omega
 have hlt : (u3 * b + u1) / (y1 * b + y0) < q:=by
  rcases hq with h2 | h2
  ·have:=Nat.div_lt_of_lt_mul hU
   omega
  ·rw [Nat.div_lt_iff_lt_mul hp]
   have h3 : q * (y1 * b + y0) = q * y1 * b + q * y0:=by rw [Nat.mul_add,Nat.mul_assoc]
   have h4 : u3 * b = q * y1 * b + r * b:=by rw [← h1,Nat.add_mul]
   have h5 : b * r = r * b:=Nat.mul_comm _ _
   omega
 have hq1 : 0 < q:=Nat.lt_of_le_of_lt (Nat.zero_le _) hlt
 refine ⟨hq1,?_,Nat.le_sub_one_of_lt hlt⟩
 clear hlt
 obtain ⟨k,rfl⟩ : ∃ k,q = k + 1:=⟨q - 1,by omega⟩
 rw [Nat.add_mul,Nat.one_mul] at h1
 simp only [Nat.add_sub_cancel]
 omega
end
theorem zny {b y u3 u1 u0 : Nat} (hy : 0 < y) : ((u3 * b + u1) % y * b + u0) % y = ((u3 * b + u1) * b + u0) % y:=by
 rw [Nat.add_mod,Nat.mul_mod,Nat.mod_mod,← Nat.mul_mod,← Nat.add_mod]
theorem zqa {s x y : Nat} : (2 ^ s * x) % (2 ^ s * y) / 2 ^ s = x % y:=by
 rw [Nat.mul_mod_mul_left,Nat.mul_div_cancel_left _ (Nat.two_pow_pos s)]
def free (used : Nat) (c : Nat) : Bool:=!used.testBit c
def unL (used c : Nat) : List Nat:=(List.range c).filter (free used)
def unG (used n c : Nat) : List Nat:=(List.range' c (n - c)).filter (free used)
section
variable {used n c : Nat}
theorem zm9 (h : free used c = true) : unL used (c + 1) = unL used c ++ [c]:=by
 unfold unL
 rw [List.range_succ,List.filter_append]
 simp [h]
theorem zni (h : free used c = false) : unL used (c + 1) = unL used c:=by
 unfold unL
 rw [List.range_succ,List.filter_append]
 simp [h]
theorem zj5 (hc : c < n) : List.range' c (n - c) = c :: List.range' (c + 1) (n - (c + 1)):=by
 rw [show n - c = (n - (c + 1)) + 1 by omega,List.range'_succ]
theorem zmK (hc : c < n) (h : free used c = true) : unG used n c = c :: unG used n (c + 1):=by
 unfold unG
 rw [zj5 hc,List.filter_cons,if_pos h]
theorem zro (hc : c < n) (h : free used c = false) : unG used n c = unG used n (c + 1):=by
 unfold unG
 rw [zj5 hc,List.filter_cons,if_neg (by simp [h])]
theorem zsm : unG used n n = []:=by
 unfold unG
 rw [Nat.sub_self]
 rfl
theorem ztg : unL used n = unG used n 0:=by
 unfold unL unG
 rw [List.range_eq_range',Nat.sub_zero]
theorem zm6 (x : Nat) : free (used ||| 2 ^ c) x = (free used x && decide (x ≠ c)):=by
 unfold free
 rw [Nat.testBit_or,Nat.testBit_two_pow]
 by_cases h : c = x
 ·subst h
  simp
 ·have h' : ¬ x = c:=fun he=>h he.symm
  simp [h,h']
theorem zrG (hc : c < n) (h : free used c = true) : unL (used ||| 2 ^ c) n = unL used c ++ unG used n (c + 1):=by
 have h1 : ∀ l : List Nat,(∀ x ∈ l,x ≠ c) → l.filter (free (used ||| 2 ^ c)) = l.filter (free used):=fun l hl=>List.filter_congr fun x hx=>by
  rw [zm6,decide_eq_true (hl x hx),Bool.and_true]
 have h2 : List.range n = List.range c ++ c :: List.range' (c + 1) (n - (c + 1)):=by
  have e : List.range' 0 c ++ List.range' (0 + c) (n - c) = List.range' 0 (c + (n - c)):=List.range'_append_1
  rw [Nat.zero_add,show c + (n - c) = n by omega] at e
  rw [← zj5 hc,List.range_eq_range',List.range_eq_range',e]
 unfold unL unG
 rw [h2,List.filter_append,List.filter_cons,if_neg (by rw [zm6]; simp),h1 _ (fun x hx=>by have:=List.mem_range.1 hx; omega),h1 _ (fun x hx=>by have:=List.mem_range'_1.1 hx; omega)]
end
def detU (A : Mat) (n row used : Nat) : Int:=detC (n - row) row ((unL used n).map fun j=>fun i=>A i j)
theorem znX (A : Mat) (n : Nat) : detU A n 0 0 = detM n A:=by
 unfold detU detM
 rw [Nat.sub_zero]
 congr 2
 unfold unL
 rw [List.filter_eq_self]
 intro x _
 simp [free]
theorem zqu (A : Mat) (n used : Nat) : detU A n n used = 1:=by
 unfold detU
 rw [Nat.sub_self]
 rfl
def zeL (A : Mat) (n row used c : Nat) : Int:=lapS (detC (n - (row + 1)) (row + 1)) row ((unL used c).map fun j=>fun i=>A i j) ((unG used n c).map fun j=>fun i=>A i j)
section
variable {A : Mat} {n row used c : Nat}
theorem zlI (h : row < n) : zeL A n row used 0 = detU A n row used:=by
 unfold zeL detU
 rw [ztg (used:=used) (n:=n),show n - row = (n - (row + 1)) + 1 by omega]
 rfl
theorem zpc : zeL A n row used n = 0:=by
 unfold zeL
 rw [zsm]
 rfl
theorem znx (hc : c < n) (h : free used c = false) : zeL A n row used c = zeL A n row used (c + 1):=by
 unfold zeL
 rw [zro hc h,zni h]
theorem znQ (hc : c < n) (h : free used c = true) : zeL A n row used c = sg (unL used c).length * A row c * detU A n (row + 1) (used ||| 2 ^ c) + zeL A n row used (c + 1):=by
 unfold zeL detU
 rw [zmK hc h,zm9 h,zrG hc h]
 simp [lapS]
end
theorem zrk (P a n out : Nat) : (if n % 2 = 1 then out * a % P else out) * (a * a % P) ^ (n / 2) % P = out * a ^ n % P:=by
 have h2 : (a * a % P) ^ (n / 2) % P = (a * a) ^ (n / 2) % P:=(Nat.pow_mod _ _ _).symm
 have h3 : (a * a) ^ (n / 2) = a ^ (2 * (n / 2)):=by rw [Nat.pow_mul,Nat.pow_two]
 rw [Nat.mul_mod,h2,h3]
 split
 ·rename_i h4
  rw [Nat.mod_mod,← Nat.mul_mod,Nat.mul_assoc,Nat.mul_comm a,← Nat.pow_succ]
  congr 3
  omega
 ·rename_i h4
  rw [← Nat.mul_mod]
  congr 3
  omega
structure GStp where
 gone : Bool
 e : Ed
def HasE (g : Gr) (f t : Int) : Prop:=∃ x ∈ g.edges,x.f = f ∧ x.t = t
theorem Bef.irrefl (a : Ed) : ¬ Bef a a:=by unfold Bef; omega
variable {g : Gr} {f t : Int} {e : Ed}
theorem GrOk.val (hg : GrOk g) : ∀ e ∈ g.edges,1 ≤ e.v ∧ e.v ≤ 3:=fun e he=>by
 obtain ⟨i,hi,rfl⟩:=List.getElem_of_mem he
 exact ⟨(hg.2 i hi).2.1,(hg.2 i hi).2.2.1⟩
theorem GrOk.uniq (hg : GrOk g) {x y : Ed} (hx : x ∈ g.edges) (hy : y ∈ g.edges) (hf : x.f = y.f) (ht : x.t = y.t) : x = y:=by
 obtain ⟨i,hi,rfl⟩:=List.getElem_of_mem hx
 obtain ⟨j,hj,rfl⟩:=List.getElem_of_mem hy
 rcases Nat.lt_trichotomy i j with h | h | h
 ·have:=hg.lt j i hi hj h
  unfold Bef at this
  omega
 ·subst h; rfl
 ·have:=hg.lt i j hj hi h
  unfold Bef at this
  omega
structure zrE (g g' : Gr) (s : GStp) : Prop where
 ok : GrOk g'
 size : g'.size = g.size
 gone : g'.gone = g.gone
 len : g'.edges.length ≤ g.edges.length + 1
 mem : ∀ x,x ∈ g'.edges ↔ (s.gone = false ∧ x = s.e) ∨ (x ∈ g.edges ∧ ¬ (s.gone = true ∧ x.f = s.e.f ∧ x.t = s.e.t))
theorem zrE.has {g' : Gr} {s : GStp} (h : zrE g g' s) {f t : Int} (hne : ¬ (s.e.f = f ∧ s.e.t = t)) : HasE g' f t ↔ HasE g f t:=by
 constructor
 ·rintro ⟨x,hx,hf,ht⟩
  rcases (h.mem x).1 hx with h1 | h1
  ·obtain ⟨_,rfl⟩:=h1
   exact absurd ⟨hf,ht⟩ hne
  ·exact ⟨x,h1.1,hf,ht⟩
 ·rintro ⟨x,hx,hf,ht⟩
  refine ⟨x,(h.mem x).2 (.inr ⟨hx,fun hc=>hne ?_⟩),hf,ht⟩
  exact ⟨hc.2.1.symm.trans hf,hc.2.2.symm.trans ht⟩
theorem GrOk.nodup (hg : GrOk g) : g.edges.Nodup:=hg.pair.imp fun h he=>by subst he; exact Bef.irrefl _ h
def zap (g : Gr) (S : List Int) : List Int:=((List.range g.size.toNat).map Int.ofNat).filter fun k=>decide (0 ≤ dist g S k)
def zaW (g : Gr) (S : List Int) (r : Int) (x : Int) : List Int:=(zap g S).map fun y=>wayW g S r x y
def zbG (g : Gr) (S : List Int) (r : Int) : List (List Int):=(zap g S).map (zaW g S r)
def zdd (g : Gr) (S : List Int) (r : Int) (x : Int) : Int:=(zaW g S r x).sum
def zbI (g : Gr) (S : List Int) (i : Nat) : Int:=(zap g S).getD i 0
def zfi (g : Gr) (S : List Int) (r : Int) : Mat:=znZ g S r (zap g S)
def zg1 (g : Gr) (S : List Int) (r : Int) (i : Nat) : Int:=zfv (zfi g S r) ((zap g S).length - 1) i
def rawK (g : Gr) (S : List Int) (r : Int) (i : Nat) : Nat:=(zdd g S r (zbI g S i) * zg1 g S r i).toNat
def zgY (g : Gr) (S : List Int) (r : Int) : List Nat:=(List.range (zap g S).length).map (rawK g S r)
def outK (g : Gr) (S : List Int) (r : Int) : List Int:=(List.range g.size.toNat).map fun (k : Nat) =>
 if (k : Int) ∈ zap g S then ((rawK g S r ((zap g S).idxOf (k : Int)) / gcdL (zgY g S r) : Nat) : Int) else 0
section
variable {g : Gr} {S : List Int} {r : Int}
theorem zcI {k : Int} : k ∈ zap g S ↔ Key g k ∧ 0 ≤ dist g S k:=by
 unfold zap Key
 simp only [List.mem_filter,List.mem_map,List.mem_range,decide_eq_true_eq]
 constructor
 ·rintro ⟨⟨i,hi,rfl⟩,h⟩
  exact ⟨by simp only [Int.ofNat_eq_natCast]; omega,h⟩
 ·rintro ⟨h,h2⟩
  exact ⟨⟨k.toNat,by omega,by simp only [Int.ofNat_eq_natCast]; omega⟩,h2⟩
theorem zm0 : (zap g S).Pairwise (· < ·):=by
 unfold zap
 refine List.Pairwise.filter _ ?_
 rw [List.pairwise_map]
 exact List.pairwise_lt_range.imp fun {a b} h=>by simp only [Int.ofNat_eq_natCast]; omega
theorem za4 : (zap g S).Nodup:=zm0.imp fun {a b} h=>by omega
theorem zdb : (zap g S).length ≤ g.size.toNat:=by
 unfold zap
 exact Nat.le_trans (List.length_filter_le _ _) (by simp)
theorem zmr (h : GrOk g) : srt (ordL g S) = zap g S:=by
 have h1 : (ordL g S).Perm (zap g S):=(List.perm_ext_iff_of_nodup (zb9 g S) za4).2 fun k=>by rw [zjg h,zcI]
 rw [zdQ.2 h1]
 exact List.Perm.eq_of_pairwise (le:=(· ≤ ·)) (fun x y _ _ h1 h2=>by omega) (zmY _) (zm0.imp fun {a b} h=>by omega) (zdt _)
theorem zfQ {i : Nat} (h : i < (zap g S).length) : zbI g S i = (zap g S)[i]:=by simp [zbI,h]
theorem zhU {i : Nat} (h : i < (zap g S).length) : zbI g S i ∈ zap g S:=by rw [zfQ h]; exact List.getElem_mem h
theorem zmb : ∀ l : List Int,l.sum = smN l.length fun j=>l.getD j 0
 | []=>rfl
 | x :: l=>by
   simp only [List.sum_cons,List.length_cons,smN,List.getD_cons_zero,List.getD_cons_succ]
   rw [zmb l]
theorem zje {i : Nat} : smN (zap g S).length (zfi g S r i) = zdd g S r (zbI g S i):=by
 unfold zdd
 rw [zmb]
 simp only [zaW,List.length_map]
 refine zbn _ fun j hj=>?_
 rw [List.getD_eq_getElem?_getD,List.getElem?_map,List.getElem?_eq_getElem hj]
 simp [zfi,znZ,zbI,hj]
theorem zne (hg : GrOk g) (x y : Int) : 0 ≤ edW g x y ∧ edW g x y ≤ 3:=by
 have hp:=hg.pair.filter fun e=>decide (e.f = x) && decide (e.t = y)
 have hm : ∀ e ∈ g.edges.filter (fun e=>decide (e.f = x) && decide (e.t = y)),e.f = x ∧ e.t = y ∧ 1 ≤ e.v ∧ e.v ≤ 3:=fun e he=>by
  have h1:=List.mem_filter.1 he
  simp only [Bool.and_eq_true,decide_eq_true_eq] at h1
  exact ⟨h1.2.1,h1.2.2,hg.val e h1.1⟩
 unfold edW
 generalize g.edges.filter (fun e=>decide (e.f = x) && decide (e.t = y)) = l at hp hm
 match l,hp,hm with
 | [],_,_=>simp
 | [e],_,hm=>have:=hm e (by simp); simp; omega
 | a :: b :: l,hp,hm =>
   have h1:=hm a (by simp)
   have h2:=hm b (by simp)
   have h3 : Bef a b:=by simp only [List.pairwise_cons] at hp; exact hp.1 b (by simp)
   unfold Bef at h3
   omega
theorem zdE (hg : GrOk g) (hr : 1 ≤ r) (hr5 : r ≤ 5) (x y : Int) : 0 ≤ wayW g S r x y ∧ wayW g S r x y ≤ 8:=by
 have:=zne hg x y
 unfold wayW
 split <;> omega
theorem zmV (c : Int) : ∀ {l : List Int},(∀ x ∈ l,0 ≤ x ∧ x ≤ c) → 0 ≤ l.sum ∧ l.sum ≤ c * l.length
 | [],_=>by simp
 | x :: l,h=>by
   have h1:=h x (by simp)
   have h2:=zmV c (l:=l) fun y hy=>h y (by simp [hy])
   simp only [List.sum_cons,List.length_cons]
   have e : c * ((l.length + 1 : Nat) : Int) = c * l.length + c:=by rw [Int.natCast_add]; exact Int.mul_add _ _ _ ▸ by simp
   omega
theorem zfz (hg : GrOk g) (hr : 1 ≤ r) (hr5 : r ≤ 5) (x : Int) : 0 ≤ zdd g S r x ∧ zdd g S r x ≤ 8 * (zap g S).length:=by
 have h:=zmV 8 (l:=zaW g S r x) fun v hv=>by
  obtain ⟨y,_,rfl⟩:=List.mem_map.1 hv
  exact zdE hg hr hr5 x y
 have e : (zaW g S r x).length = (zap g S).length:=by simp [zaW]
 rw [e] at h
 exact h
theorem zsg (hg : GrOk g) (hr : 1 ≤ r) (hS : ∀ s ∈ S,Key g s) {i : Nat} (hi : i < (zap g S).length) : Walk (zfi g S r) ((zap g S).length - 1) i :=
 zsD hg (fun e he=>(hg.val e he).1) hr (fun _=>zcI) za4 hS (N:=(zap g S).length - 1) (by omega) (by omega)
theorem pow9 {m : Int} {n : Nat} (h0 : 0 ≤ m) (hm : m ≤ 72) (hn : n ≤ 8) : m ^ n ≤ 722204136308736:=by
 have h1 : m ^ n ≤ 72 ^ n:=by
  obtain ⟨k,rfl⟩ : ∃ k : Nat,m = k:=⟨m.toNat,by omega⟩
  have:=Nat.pow_le_pow_left (n:=k) (m:=72) (by omega) n
  have e : ((k ^ n : Nat) : Int) ≤ ((72 ^ n : Nat) : Int):=by omega
  simpa using e
 have h2 : (72 : Nat) ^ n ≤ 72 ^ 8:=Nat.pow_le_pow_right (by omega) hn
 have e : ((72 ^ n : Nat) : Int) ≤ ((72 ^ 8 : Nat) : Int):=by omega
 have e2 : ((72 ^ 8 : Nat) : Int) = 722204136308736:=by decide
 have e3 : ((72 ^ n : Nat) : Int) = (72 : Int) ^ n:=by simp
 omega
theorem zmN (hg : GrOk g) (hr : 1 ≤ r) (hr5 : r ≤ 5) (hS : ∀ s ∈ S,Key g s) (h9 : (zap g S).length ≤ 9) {i : Nat} (hi : i < (zap g S).length) : 0 < zg1 g S r i ∧ zg1 g S r i ≤ 722204136308736:=by
 have hw:=zsg hg hr hS hi
 refine ⟨zpL hw,Int.le_trans (zqP hw (c:=72) (fun j hj=>?_) (by omega)) (pow9 (by omega) (by omega) (by omega))⟩
 rw [show (zap g S).length - 1 + 1 = (zap g S).length by omega,zje]
 have:=zfz hg hr hr5 (S:=S) (zbI g S j)
 omega
theorem ztq (hg : GrOk g) (hr : 1 ≤ r) (hr5 : r ≤ 5) (hS : ∀ s ∈ S,Key g s) (h9 : (zap g S).length ≤ 9) {i k : Nat} (hi : i < (zap g S).length) (hk : k ≤ (zap g S).length - 1) : (zdk k fun j=>redM (zfi g S r) ((zap g S).length - 1) i j j) ≤ 722204136308736:=by
 have hw:=zsg hg hr hS hi
 refine Int.le_trans (zk3 hw (c:=72) (fun j hj=>?_) (by omega) hk) (pow9 (by omega) (by omega) (by omega))
 rw [show (zap g S).length - 1 + 1 = (zap g S).length by omega,zje]
 have:=zfz hg hr hr5 (S:=S) (zbI g S j)
 omega
theorem zqf (hg : GrOk g) (hr : 1 ≤ r) (hr5 : r ≤ 5) (hS : ∀ s ∈ S,Key g s) {k : Int} (hk : k ∈ zap g S) (x : Int) : 0 < zdd g S r x:=by
 have hd:=(zcI.1 hk).2
 obtain ⟨s,hs⟩ : ∃ s,zct g S s = true:=by
  obtain ⟨n,hn⟩ : ∃ n : Nat,dist g S k = n:=⟨(dist g S k).toNat,by omega⟩
  clear hk hd
  induction n generalizing k with
  | zero=>exact ⟨k,(zfS hg).1 hn⟩
  | succ n ih =>
    obtain ⟨e,_,h1,h2⟩:=zkN hg (by rw [hn]; omega : dist g S k = (n : Int) + 1)
    exact ih h2
 have hsS : S.contains s = true:=by
  unfold zct at hs
  simp only [Bool.and_eq_true] at hs
  exact hs.1
 have hsm : s ∈ S:=by simpa using hsS
 have hsk : s ∈ zap g S:=zcI.2 ⟨hS s hsm,by rw [(zfS hg).2 hs]; omega⟩
 have h1 : wayW g S r x s ≤ zdd g S r x:=zlm (fun v hv=>by
  obtain ⟨y,_,rfl⟩:=List.mem_map.1 hv
  exact (zdE hg hr hr5 x y).1) (List.mem_map.2 ⟨s,hsk,rfl⟩)
 have h2:=zne hg x s
 unfold wayW at h1
 rw [if_pos hsS] at h1
 omega
theorem zml (hg : GrOk g) (hr : 1 ≤ r) (hr5 : r ≤ 5) (hS : ∀ s ∈ S,Key g s) (h9 : (zap g S).length ≤ 9) {i : Nat} (hi : i < (zap g S).length) :
  ((rawK g S r i : Nat) : Int) = zdd g S r (zbI g S i) * zg1 g S r i ∧ 0 < rawK g S r i ∧ rawK g S r i ≤ 51998697814228992:=by
 have h1:=zmN hg hr hr5 hS h9 hi
 have h2:=zfz hg hr hr5 (S:=S) (zbI g S i)
 have h3:=zqf hg hr hr5 hS (zhU hi) (zbI g S i)
 have h4 : 0 < zdd g S r (zbI g S i) * zg1 g S r i:=Int.mul_pos h3 h1.1
 have h5 : zdd g S r (zbI g S i) * zg1 g S r i ≤ 72 * 722204136308736:=Int.mul_le_mul (by omega) h1.2 (by omega) (by omega)
 unfold rawK
 omega
end
theorem zns {a b x y : Nat} (h : Nat.gcd x y = Nat.gcd a b) : Nat.gcd y (x % y) = Nat.gcd a b:=by
 rw [← h,Nat.gcd_comm x y,Nat.gcd_rec y x,Nat.gcd_comm]
theorem zon (a b : Nat) : zaj Tryz.prog zcf [.I a,.I b] [] (.I (Nat.gcd a b : Nat)) []:=by
 refine zfJ.acalls (nbz rfl) (nbz rfl) (Nat.le_refl _) ?_
 show awp _ 0 _ _ ⟨12,[(0,.I a),(1,.I b)],[],16⟩
 refine rx (s:=?z1) [0,1] [] [] rfl ?p1 ?r1
 case p1=>simp; rfl
 refine zaa ?_
 refine zaf ?_
 refine zan (ι:=Nat × Nat) (fun i=>⟨12,[(0,.I i.1),(1,.I i.2)],[],100⟩) (fun i=>Nat.gcd i.1 i.2 = Nat.gcd a b) (fun i=>i.2) (a,b) rfl (LeH [] []) ?_
 rintro ⟨x,y⟩ hxy
 simp only at hxy
 refine zaa ?_
 refine rx (s:=?z2) [0,1,6] [] [] rfl ?p2 ?r2
 case p2=>simp; rfl
 refine zad _ rfl (fun hc=>?_) fun hc=>?_
 ·simp at hc
  have f1 : binV .rem (.int .i64 (x : Int)) (.int .i64 (y : Int)) = some (.int .i64 ((x % y : Nat) : Int)):=by
   show (if (y : Int) = 0 then none else some (Value.int .i64 ((x : Int).tmod y))) = _
   rw [if_neg (by omega)]
   simp [Int.tmod_eq_emod_of_nonneg]
  refine zae ?_
  refine zaf ?_
  refine zcj rfl ?_
  simp [-binV,f1,-Int.natCast_emod]
  exact ⟨rfl,y,x % y,zns hxy,Nat.mod_lt _ (by omega),LeH [] []⟩
 ·simp at hc
  subst hc
  rw [Nat.gcd_zero_right] at hxy
  refine zak ?_
  refine hit ?_
  refine rx (s:=?z9) [4] [] [] rfl ?p9 ?r9
  case p9=>simp; rfl
  refine zag ?_
  exact ⟨.inr rfl,zam.one (by simp [hxy])⟩
theorem zmA {l : List Int} {i : Nat} (h : i < l.length) : (l.take (i + 1)).sum = (l.take i).sum + l[i]:=by
 rw [List.take_succ_eq_append_getElem h,List.sum_append]
 simp
abbrev zaB (L : List (List Int)) : AV:=.vs 1 false (L.map fun l=>[ints l])
abbrev eWk (K : List Int) (L : List (List Int)) : AV:=.agg [ints K,zaB L]
theorem zsC (K : List Int) (L : List (List Int)) (i : Nat) (R : List Int) (hi : L[i]? = some R) (hR : ∀ x ∈ R,0 ≤ x ∧ x ≤ 8) (hl : R.length ≤ 1000) : zaj Tryz.prog zaF [eWk K L,.I i] [] (.I R.sum) []:=by
 refine zeY.acalls (nbz rfl) (nbz rfl) (Nat.le_refl _) ?_
 show awp _ 0 _ _ ⟨23,[(0,eWk K L),(1,.I i)],[],16⟩
 have hil : i < L.length:=(List.getElem?_eq_some_iff.1 hi).1
 have hie : L[i] = R:=(List.getElem?_eq_some_iff.1 hi).2
 refine rx (s:=?z1) [1,2] [] [16] rfl ?p1 ?r1
 case p1=>simp; rfl
 refine rx (s:=?z2) [1,2,5] [] [] rfl ?p2 ?r2
 case p2=>simp; rfl
 refine zaa ?_
 refine rx (s:=?z3) [5,12,13,14] [] [] rfl ?p3 ?r3
 case p3=>simp [hil,hie]; rfl
 refine zaf ?_
 refine zan (ι:=Nat) (fun k=>⟨23,[(5,.I (R.take k).sum),(12,ints R),(13,.I R.length),(14,.I k)],[],300⟩) (fun k=>k ≤ R.length) (fun k=>R.length - k) 0 (Nat.zero_le _) (LeH [] []) ?_
 intro k hk
 have hb:=zmV 8 (l:=R.take k) fun x hx=>hR x (List.mem_of_mem_take hx)
 have htl : (R.take k).length = k:=by simp; omega
 rw [htl] at hb
 refine rx (s:=?z4) [5,12,13,14,15] [] [] rfl ?p4 ?r4
 case p4=>simp; rfl
 refine zaa ?_
 refine zad _ rfl (fun hc=>?_) fun hc=>?_
 ·simp at hc
  have hx:=hR R[k] (List.getElem_mem hc)
  have hw : IntKind.i64.wrap ((k : Int) + 1) = (k : Int) + 1:=w64 (by omega) (by omega)
  have hs:=zmA hc
  have hw2 : IntKind.i64.wrap ((R.take k).sum + R[k]) = (R.take (k + 1)).sum:=by rw [w64 (by omega) (by omega),hs]
  refine zae ?_
  refine zaa ?_
  refine zaf ?_
  refine rx (s:=?z5) [5,7,12,13,14] [] [] rfl ?p5 ?r5
  case p5=>simp [hc]; rfl
  refine zac (s:=?z6) rfl ?p6 ?r6
  case p6=>simp [hw2]; rfl
  refine zac (s:=?z7) rfl ?p7 ?r7
  case p7=>simp [hw]; rfl
  exact ⟨k + 1,by omega,by omega,LeH [] []⟩
 ·simp at hc
  have hkl : R.take k = R:=List.take_of_length_le (by omega)
  rw [hkl]
  refine zak ?_
  refine hit ?_
  refine rx (s:=?z9) [4] [] [] rfl ?p9 ?r9
  case p9=>simp; rfl
  refine zag ?_
  exact ⟨.inr rfl,zam.one (by simp)⟩
def famH (s N : Nat) (E : Nat → List (List AV)) : List (Nat × Option Ent):=(List.range N).map fun k=>(k + 1000,some ⟨s,E k,0⟩)
def famV (E : Nat → List (List AV)) (k : Nat) : AV:=.rs (k + 1000) 0 (E k).length
def famO (N : Nat) (E : Nat → List (List AV)) : List (List AV):=(List.range N).map fun k=>[famV E k]
theorem znk (N : Nat) (E : Nat → List (List AV)) : (famO N E).length = N:=by simp [famO]
theorem zec {N k : Nat} {E : Nat → List (List AV)} (h : k < N) : (famO N E)[k]? = some [famV E k]:=by simp [famO,h]
@[simp] theorem zuM {N k : Nat} {E : Nat → List (List AV)} (h : k < (famO N E).length) : (famO N E)[k] = [famV E k]:=by simp [famO]
theorem zgs {α β : Type} {f : α → β} (hf : ∀ i j,f i = f j → i = j) : ∀ {l : List α},l.Nodup → (l.map f).Nodup
 | [],_=>List.nodup_nil
 | x :: l,h=>by
   rw [List.nodup_cons] at h
   rw [List.map_cons,List.nodup_cons]
   refine ⟨fun hx=>?_,zgs hf h.2⟩
   obtain ⟨y,hy,e⟩:=List.mem_map.1 hx
   exact h.1 (hf _ _ e ▸ hy)
theorem zmg {α : Type} (f : Nat → Nat) (hf : ∀ i j,f i = f j → i = j) (g : Nat → α) (l : List Nat) (k : Nat) : lkp (l.map fun k=>(f k,g k)) (f k) = if k ∈ l then some (g k) else none:=by
 induction l with
 | nil=>simp [lkp]
 | cons i l ih =>
   simp only [List.map_cons,lkp]
   by_cases h : i = k
   ·subst h; simp
   ·have h1 : f i ≠ f k:=fun e=>h (hf _ _ e)
    have h2 : ¬ k = i:=fun e=>h e.symm
    simp [h1,ih,h2]
theorem zkg {α : Type} (f : Nat → Nat) (g : Nat → α) (l : List Nat) (j : Nat) (h : ∀ k ∈ l,f k ≠ j) : lkp (l.map fun k=>(f k,g k)) j = none:=by
 induction l with
 | nil=>simp [lkp]
 | cons i l ih =>
   simp only [List.map_cons,lkp]
   rw [if_neg (h i (by simp)),ih fun k hk=>h k (by simp [hk])]
theorem zsw {s N : Nat} {E : Nat → List (List AV)} {r : List (Nat × Option Ent)} {k : Nat} (h : k < N) : lkp (famH s N E ++ r) (k + 1000) = some (some ⟨s,E k,0⟩):=by
 rw [zdF,famH,zmg (fun k=>k + 1000) (fun i j h=>by simpa using h)]
 simp [h]
theorem zmO {s N : Nat} {E : Nat → List (List AV)} {r : List (Nat × Option Ent)} {j : Nat} (h : j < 1000 ∨ 1000 + N ≤ j) : lkp (famH s N E ++ r) j = lkp r j:=by
 rw [zdF,famH,zkg (fun k=>k + 1000) _ _ _ (fun k hk e=>by have:=List.mem_range.1 hk; omega)]
 simp
section
variable {sz n s N : Nat} {t : List (Nat × AV)} {E : Nat → List (List AV)} {r : List (Nat × Option Ent)}
theorem ztI {k : Nat} (h : k < N) : (⟨sz,t,famH s N E ++ r,n⟩ : St).hp (k + 1000) = some ⟨s,E k,0⟩:=by
 show (lkp _ _).getD none = _
 rw [zsw h]
 rfl
theorem zpd {j : Nat} (h : j < 1000) : (⟨sz,t,famH s N E ++ r,n⟩ : St).hp j = (⟨sz,t,r,n⟩ : St).hp j:=by
 show (lkp _ _).getD none = (lkp _ _).getD none
 rw [zmO (.inl h)]
theorem zss {j : Nat} (h : 1000 + N ≤ j) : (⟨sz,t,famH s N E ++ r,n⟩ : St).hp j = (⟨sz,t,r,n⟩ : St).hp j:=by
 show (lkp _ _).getD none = (lkp _ _).getD none
 rw [zmO (.inr h)]
end
def grow {α : Type} (E : Nat → List α) (a : Nat) (r : α) : Nat → List α:=fun k=>if k = a then E a ++ [r] else E k
theorem zmp (f : AV → AV) (hf : ∀ v,f (.sc v) = .sc v) (rows : List (List AV)) (hr : ∀ r ∈ rows,∀ x ∈ r,∃ v,x = .sc v) : rows.map (·.map f) = rows:=by
 conv=>rhs; rw [← List.map_id rows]
 refine List.map_congr_left fun r hr'=>?_
 conv=>rhs; rw [id,← List.map_id r]
 refine List.map_congr_left fun x hx=>?_
 obtain ⟨v,rfl⟩:=hr r hr' x hx
 exact hf v
def famI (N : Nat) : List Nat:=(List.range N).map (· + 1000)
theorem zbQ {N j : Nat} : j ∈ famI N ↔ 1000 ≤ j ∧ j < 1000 + N:=by
 simp only [famI,List.mem_map,List.mem_range]
 exact ⟨fun ⟨k,h,e⟩=>by omega,fun h=>⟨j - 1000,by omega,by omega⟩⟩
def zcl (l : List (Int × AV)) : List (List AV):=l.map fun p=>[.sc (.int .i64 p.1),p.2]
theorem zd1 (n : Int) : ∀ l : List (Int × AV),zcp n (zcl l) = (l.find? (fun p=>p.1 = n)).map (·.2)
 | []=>rfl
 | (k,x) :: l=>by
   have ih:=zd1 n l
   simp only [zcl] at ih
   simp only [zcl,List.map_cons,zcp,List.find?_cons]
   by_cases h : n = k
   ·simp [h]
   ·have h' : ¬ k = n:=fun e=>h e.symm
    simp [h,h',ih]
def MapR (rows : List (List AV)) (φ : Int → Option AV) : Prop:=∃ l : List (Int × AV),rows = zcl l ∧ (l.map (·.1)).Nodup ∧ ∀ n,zcp n rows = φ n
theorem MapR.find {rows : List (List AV)} {φ : Int → Option AV} (h : MapR rows φ) (n : Int) : zcp n rows = φ n:=by
 obtain ⟨_,_,_,h⟩:=h
 exact h n
theorem MapR.nil : MapR [] fun _=>none:=⟨[],rfl,by simp,fun _=>rfl⟩
theorem ziB (n : Int) (y : AV) : ∀ l : List (Int × AV),∃ l',mset n y (zcl l) = zcl l' ∧ (∀ k,k ∈ l'.map (·.1) ↔ k = n ∨ k ∈ l.map (·.1)) ∧ ((l.map (·.1)).Nodup → (l'.map (·.1)).Nodup) ∧ ∀ k,zcp k (zcl l') = if k = n then some y else zcp k (zcl l)
 | []=>⟨[(n,y)],rfl,by simp,by simp,fun k=>by simp [zcl,zcp]⟩
 | (i,x) :: l=>by
   by_cases h : n = i
   ·subst h
    refine ⟨(n,y) :: l,by simp [zcl,mset],by simp,by simp,fun k=>?_⟩
    simp only [zcl,List.map_cons,zcp]
    split <;> rfl
   ·obtain ⟨l',h1,h2,h3,h4⟩:=ziB n y l
    refine ⟨(i,x) :: l',?_,fun k=>?_,fun hn=>?_,fun k=>?_⟩
    ·simp only [zcl] at h1
     simp [zcl,mset,h,h1]
    ·simp only [List.map_cons,List.mem_cons,h2]
     constructor
     ·rintro (h | h | h) <;> simp [h]
     ·rintro (h | h | h) <;> simp [h]
    ·rw [List.map_cons,List.nodup_cons] at hn ⊢
     exact ⟨fun hm=>((h2 i).1 hm).elim (fun e=>h e.symm) hn.1,h3 hn.2⟩
    ·have h4:=h4 k
     simp only [zcl] at h4
     simp only [zcl,List.map_cons,zcp,h4]
     by_cases hk : k = i
     ·subst hk
      simp [show ¬ k = n from fun e=>h e.symm]
     ·simp [hk]
theorem MapR.set {rows : List (List AV)} {φ : Int → Option AV} (h : MapR rows φ) (n : Int) (y : AV) : MapR (mset n y rows) fun k=>if k = n then some y else φ k:=by
 obtain ⟨l,rfl,hn,hf⟩:=h
 obtain ⟨l',h1,_,h3,h4⟩:=ziB n y l
 exact ⟨l',h1,h3 hn,fun k=>by rw [h1,h4,hf]⟩
theorem ziA (n : Int) : ∀ l : List (Int × AV),(l.map (·.1)).Nodup → ∃ l',mdel n (zcl l) = zcl l' ∧ (∀ k,k ∈ l'.map (·.1) → k ∈ l.map (·.1)) ∧ (l'.map (·.1)).Nodup ∧ ∀ k,zcp k (zcl l') = if k = n then none else zcp k (zcl l)
 | [],_=>⟨[],rfl,by simp,by simp,fun k=>by simp [zcl,zcp]⟩
 | (i,x) :: l,hn=>by
   rw [List.map_cons,List.nodup_cons] at hn
   by_cases h : n = i
   ·subst h
    refine ⟨l,by simp [zcl,mdel],fun k hk=>by simp only [List.map_cons,List.mem_cons]; exact .inr hk,hn.2,fun k=>?_⟩
    simp only [zcl,List.map_cons,zcp]
    by_cases hk : k = n
    ·subst hk
     rw [if_pos rfl,show List.map (fun p : Int × AV=>[AV.sc (.int .i64 p.1),p.2]) l = zcl l from rfl,zd1]
     rw [List.find?_eq_none.2]
     ·rfl
     ·intro p hp
      simp only [decide_eq_true_eq]
      exact fun e=>hn.1 (List.mem_map.2 ⟨p,hp,e⟩)
    ·simp [hk]
   ·obtain ⟨l',h1,h2,h3,h4⟩:=ziA n l hn.2
    refine ⟨(i,x) :: l',?_,fun k=>?_,?_,fun k=>?_⟩
    ·simp only [zcl] at h1
     simp [zcl,mdel,h,h1]
    ·simp only [List.map_cons,List.mem_cons]
     rintro (e | e)
     ·exact .inl e
     ·exact .inr (h2 k e)
    ·rw [List.map_cons,List.nodup_cons]
     exact ⟨fun hm=>hn.1 (h2 i hm),h3⟩
    ·have h4:=h4 k
     simp only [zcl] at h4
     simp only [zcl,List.map_cons,zcp,h4]
     by_cases hk : k = i
     ·subst hk
      simp [show ¬ k = n from fun e=>h e.symm]
     ·simp [hk]
theorem MapR.del {rows : List (List AV)} {φ : Int → Option AV} (h : MapR rows φ) (n : Int) : MapR (mdel n rows) fun k=>if k = n then none else φ k:=by
 obtain ⟨l,rfl,hn,hf⟩:=h
 obtain ⟨l',h1,_,h3,h4⟩:=ziA n l hn
 exact ⟨l',h1,h3,fun k=>by rw [h1,h4,hf]⟩
def zup (s : Stp) : AV:=.agg [.I s.1,.sc (.bool s.2)]
open Classical in
noncomputable def camF (D b : List Int) : Int → Option AV:=fun x=>if x ∈ D then some (if x = 0 then .agg [.I (-1),.sc (.bool false)] else zup (decS (b.getD x.toNat 0))) else none
theorem Le.slot {np sz n n' : Nat} {t t' : List (Nat × AV)} {h : List (Nat × Option Ent)} (hn : n ≤ n') (ht : ∀ p ∈ t',(⟨sz,t,h,n⟩ : St).get p.1 = p.2) : Le np ⟨sz,t,h,n⟩ ⟨sz,t',h,n'⟩:=by
 intro T0 M0 w0 T M a w ok hnp
 refine ⟨T,M,⟨ok.sz,ok.df,fun i=>?_,ok.hs,fun id g hg=>Nat.lt_of_lt_of_le (ok.dom id g hg) hn,ok.after⟩,Nat.le_trans hnp hn⟩
 show Rep T w M ((lkp t' i).getD .dead) _
 cases hl : lkp t' i with
 | none=>exact .dead _ _
 | some v =>
   have:=ht _ (za1 hl)
   simp only at this
   show Rep T w M v _
   rw [← this]
   exact ok.tm i
section
variable {sz n N m : Nat} {t : List (Nat × AV)} {A : List Ed} {f : List Int} {E : Nat → List (List AV)}
end
theorem zhj : ∀ {l : List (Int × AV)} {q : Int × AV},(l.map (·.1)).Nodup → q ∈ l → zcp q.1 (zcl l) = some q.2
 | (k,x) :: l,q,hn,h=>by
   rw [List.map_cons,List.nodup_cons] at hn
   rw [zd1,List.find?_cons]
   rcases List.mem_cons.1 h with rfl | h
   ·simp
   ·have hne : ¬ k = q.1:=fun e=>hn.1 (e ▸ List.mem_map.2 ⟨q,h,rfl⟩)
    have ih:=zhj hn.2 h
    rw [zd1] at ih
    simpa [hne] using ih
structure MapF (rows : List (List AV)) (φ : Int → Option AV) : Prop where
 is : MapR rows φ
 flat : ∀ n x,φ n = some x → ∃ u v,x = .agg [.sc u,.sc v]
theorem MapF.mem {rows : List (List AV)} {φ : Int → Option AV} (h : MapF rows φ) {r : List AV} (hr : r ∈ rows) : ∃ k u v,r = [.sc k,.agg [.sc u,.sc v]]:=by
 obtain ⟨⟨l,rfl,hn,hf⟩,hfl⟩:=h
 obtain ⟨q,hq,rfl⟩:=List.mem_map.1 hr
 obtain ⟨u,v,e⟩:=hfl q.1 q.2 (by rw [← hf]; exact zhj hn hq)
 exact ⟨_,u,v,by rw [e]⟩
theorem MapF.conv {rows : List (List AV)} {φ : Int → Option AV} (h : MapF rows φ) (ρ : List (Nat × Nat)) (sn : List Nat) (g : Nat → Option Ent) : rows.map (·.map (conv ρ sn g 4)) = rows:=by
 conv=>rhs; rw [← List.map_id rows]
 refine List.map_congr_left fun r hr=>?_
 obtain ⟨k,u,v,rfl⟩:=h.mem hr
 simp
theorem MapF.plain {rows : List (List AV)} {φ : Int → Option AV} (h : MapF rows φ) (s ro : Nat) : ziY ⟨s,rows,ro⟩:=by
 intro r hr x hx
 obtain ⟨k,u,v,rfl⟩:=h.mem hr
 simp only [List.mem_cons,List.not_mem_nil,or_false] at hx
 rcases hx with rfl | rfl
 ·exact .sc _
 ·refine .agg _ fun i=>?_
  match i with
  | 0=>exact .sc _
  | 1=>exact .sc _
  | i + 2=>exact .dead
theorem zo4 (D b : List Int) (n : Int) (x : AV) (h : camF D b n = some x) : ∃ u v,x = .agg [.sc u,.sc v]:=by
 unfold camF at h
 split at h
 ·split at h
  ·cases h; exact ⟨_,_,rfl⟩
  ·cases h; exact ⟨_,_,rfl⟩
 ·cases h
theorem MapF.set {rows : List (List AV)} {D b D' b' : List Int} (h : MapF rows (camF D b)) (n : Int) (y : AV) (he : camF D' b' = fun k=>if k = n then some y else camF D b k) : MapF (mset n y rows) (camF D' b') :=
 ⟨by rw [he]; exact h.is.set n y,zo4 D' b'⟩
def zpE (A : List Ed) (f D : List Int) (l : List Stp) : Prop:=∀ s ∈ l,0 < zdM A f s → stT A s ∈ D
theorem zpE.nil {A : List Ed} {f D : List Int} : zpE A f D []:=fun s h=>by simp at h
theorem zam.k2 {rs : List (Nat × Option (Bool × Nat))} {st : St} {vs : List AV} {res : AV} {e0 e1 : Ent} (h1 : zfd st rs = some vs) (hw : Wk (conv [(0,0),(1,1)] [] st.hp 4 (resV vs)) res)
  (h0 : (st.hp 0).map (zaz [(0,0),(1,1)] [] st.hp 4) = some e0) (h2 : (st.hp 1).map (zaz [(0,0),(1,1)] [] st.hp 4) = some e1) : zam rs 2 st res [some e0,some e1] :=
 ⟨vs,h1,[],[],by decide,by simp,by simp,hw,by
  show [_,_] = _
  have h0' : Option.map (zaz ((List.range 2 ++ [] : List Nat).zipIdx) [] st.hp 4) (st.hp 0) = some e0:=h0
  have h2' : Option.map (zaz ((List.range 2 ++ [] : List Nat).zipIdx) [] st.hp 4) (st.hp 1) = some e1:=h2
  simp only [h0',h2']⟩
theorem WayA.last {A : List Ed} : ∀ {l : List Nat} {u w : Int},WayA A u l w → (u :: metA A l)[l.length]? = some w
 | [],u,w,h=>by
   have : u = w:=h
   simp [metA,this]
 | i :: l,u,w,h=>by
   have:=WayA.last h.2.2
   simpa [metA] using this
structure BalF (N : Nat) (A : List Ed) (f : List Int) : Prop where
 len : f.length = A.length
 nonneg : ∀ i,0 ≤ f.getD i 0
 bal : ∀ x : Int,2 ≤ x → x < N → exF A f x = 0
variable {N : Nat} {A : List Ed} {f g : List Int}
theorem zaY.balF (h : zaY N A f) : BalF N A f:=by
 have hf:=zjV.1 h.fit
 refine ⟨hf.1,fun i=>?_,fun x h2 h3=>?_⟩
 ·by_cases hi : i < A.length
  ·exact (hf.2 i hi).1
  ·rw [List.getD_eq_getElem?_getD,List.getElem?_eq_none (by rw [hf.1]; omega)]
   exact Int.le_refl _
 ·have:=h.bal x.toNat (by omega) (by omega)
  rw [Int.toNat_of_nonneg (by omega)] at this
  unfold exF
  omega
theorem zhI.balF (hf : BalF N A f) {l : List Nat} (h : zhI A f g l 1) : BalF N A g ∧ exF A g 0 = exF A f 0 - 1:=by
 refine ⟨⟨h.len,h.nonneg,fun x h2 h3=>?_⟩,?_⟩
 ·rw [h.ex x,hf.bal x h2 h3,if_neg (by omega),if_neg (by omega)]
  rfl
 ·rw [h.ex 0,if_pos rfl,if_neg (by decide)]
  omega
structure ziC (N : Nat) (A : List Ed) (f g : List Int) (W : List (List Nat)) : Prop where
 bal : BalF N A g
 ex : exF A g 0 = exF A f 0 - W.length
 ways : ∀ w ∈ W,WayA A 0 w 1 ∧ (metA A w).Nodup
 used : ∀ i,g.getD i 0 + (sumN (List.count i) W : Int) ≤ f.getD i 0
theorem ziC.nil (hf : BalF N A f) : ziC N A f f []:=⟨hf,by simp,by simp,fun i=>by simp [sumN]⟩
theorem ziC.more {g' : List Int} {W : List (List Nat)} {l : List Nat} (h : ziC N A f g W) (hl : zhI A g g' l 1) : ziC N A f g' (W ++ [l]):=by
 obtain ⟨b1,b2⟩:=hl.balF h.bal
 refine ⟨b1,by rw [b2,h.ex,List.length_append,List.length_singleton]; omega,fun w hw=>?_,fun i=>?_⟩
 ·rcases List.mem_append.1 hw with hw | hw
  ·exact h.ways w hw
  ·rw [List.mem_singleton] at hw
   subst hw
   exact ⟨hl.way,(List.nodup_cons.1 hl.met).2⟩
 ·have h1:=h.used i
  have h2:=hl.used i
  have h3 : sumN (List.count i) (W ++ [l]) = sumN (List.count i) W + l.count i:=by unfold sumN; simp
  rw [h3]
  omega
theorem zjN (S : Int → Bool) : ∀ A : List Ed,capS S A = (A.map fun e=>if S e.f = true ∧ S e.t = false then e.v else 0).sum
 | []=>rfl
 | e :: A=>by
   have ih:=zjN S A
   unfold capS at ih ⊢
   simp only [List.map_cons,sumF,List.sum_cons]
   rw [ih]
theorem zg6 {α : Type} {h : α → Int} : ∀ {l : List α},(∀ x ∈ l,h x = 0) → (l.map h).sum = 0
 | [],_=>rfl
 | x :: l,hx=>by
   rw [List.map_cons,List.sum_cons,hx x (List.mem_cons_self ..),zg6 fun y hy=>hx y (List.mem_cons_of_mem _ hy)]
   rfl
theorem zoF {α : Type} {h : α → Int} : ∀ {l : List α},(∀ x ∈ l,h x ≤ 1) → (l.map h).sum ≤ l.length
 | [],_=>Int.le_refl _
 | x :: l,hx=>by
   have ih:=zoF (l:=l) fun y hy=>hx y (List.mem_cons_of_mem _ hy)
   have h1:=hx x (List.mem_cons_self ..)
   rw [List.map_cons,List.sum_cons,List.length_cons]
   omega
theorem zji {g : Gr} {p : Pol} {ks : List Int} (hg : GrOk g) (hp : zbx g.size p) (hk : ∀ x ∈ ks,0 ≤ x ∧ x < g.size) : maxF (netN g) (netA g p ks) ≤ ks.length:=by
 have hno:=zmc hg hp hk
 obtain ⟨f,hf,hv⟩:=zmC hno
 rw [← hv]
 refine Int.le_trans (ze0 (S:=fun x=>decide (x ≠ 1)) hno hf (by simp) (by simp)) ?_
 rw [zjN]
 simp only [netA,zbB,List.map_append,List.sum_append,List.map_map]
 have hle:=zgf hg p.lv
 rw [zg6,zg6,zg6 (l:=(zao g p.lv).edges.filter _)]
 ·have h1:=zoF (h:=(fun e : Ed=>if (decide (e.f ≠ 1)) = true ∧ (decide (e.t ≠ 1)) = false then e.v else 0) ∘ fun x : Int=>(⟨2 + 2 * x,1,1⟩ : Ed)) (l:=ks.filter fun x=>decide (0 < (zbW g p).getD x.toNat 0)) fun x _=>by
   simp only [Function.comp]
   split <;> omega
  have h2:=List.length_filter_le (fun x=>decide (0 < (zbW g p).getD x.toNat 0)) ks
  omega
 ·intro e he
  have:=hle.2 e (List.mem_filter.1 he).1
  simp only [Function.comp]
  rw [if_neg]
  simp
  omega
 ·intro i _
  simp only [Function.comp]
  rw [if_neg]
  simp
  omega
 ·intro x _
  simp only [Function.comp]
  rw [if_neg]
  simp
  omega
variable {N : Nat} {A : List Ed} {f : List Int}
section
variable {N : Nat} {A : List Ed} {f : List Int}
theorem zoR (hn : zdP N A) {s : Stp} (hs : s.1 < A.length) : 0 ≤ stT A s ∧ stT A s < N:=by
 have:=hn.arc _ (zjs hs)
 unfold stT
 split <;> omega
theorem Bfs.grow (hn : zdP N A) : ∀ (n : Nat) (D b : List Int),Bfs N A f D b → N - D.length ≤ n → ∃ D' b',Bfs N A f D' b' ∧ zh7 A f D'
 | n,D,b,h,hl=>by
   by_cases hc : zh7 A f D
   ·exact ⟨D,b,h,hc⟩
   ·unfold zh7 at hc
    obtain ⟨s,hs⟩:=Classical.not_forall.1 hc
    obtain ⟨h1,hs⟩:=Classical.not_imp.1 hs
    obtain ⟨h2,hs⟩:=Classical.not_imp.1 hs
    obtain ⟨h3,h4⟩:=Classical.not_imp.1 hs
    have hr:=zoR hn h1
    have hp:=h.push h1 h2 h3 h4 hr.1 hr.2
    have hf:=hp.few
    rw [List.length_append,List.length_singleton] at hf
    match n,hl with
    | 0,hl=>omega
    | n + 1,hl=>exact Bfs.grow hn n _ _ hp (by rw [List.length_append,List.length_singleton]; omega)
theorem zsB (hn : zdP N A) {D b : List Int} (hf1 : zaY N A f) (hf2 : ∀ f',zaY N A f' → valF A f' ≤ valF A f) (hb : Bfs N A f D b) : (1 : Int) ∉ D:=fun hm=>by
 obtain ⟨l,hl⟩:=hb.chain hm
 have h1:=hl.push hn hf1 (v:=1) (by omega) fun s hs=>by
  obtain ⟨i,hi,rfl⟩:=List.mem_iff_getElem.1 hs
  have:=(hl.at_ i hi).2.1
  omega
 have h2:=hf2 _ h1.1
 omega
theorem zsG (hn : zdP N A) {S : Int → Bool} (h0 : S 0 = true) (h1 : S 1 = false) : maxF N A ≤ capS S A:=by
 obtain ⟨f,hf,hv⟩:=zmC hn
 rw [← hv]
 exact ze0 hn hf h0 h1
theorem zqF (hn : zdP N A) : ∃ X : Int → Bool,X 0 = true ∧ X 1 = false ∧ capS X A = maxF N A ∧ ∀ S : Int → Bool,S 0 = true → S 1 = false → capS S A = maxF N A → ∀ x,X x = true → S x = true:=by
 obtain ⟨f,hf,hm⟩:=zfg hn
 obtain ⟨D,b,hb,hc⟩:=Bfs.grow hn N [0] _ (Bfs.start (f:=f) (by have:=hn.two; omega)) (by omega)
 have h1:=zsB hn hf hm hb
 have hmf:=zlP hf hm
 refine ⟨fun x=>decide (x ∈ D),by simpa using hb.mem0,by simpa using h1,?_,fun S s0 s1 hS x hx=>?_⟩
 ·rw [hmf]
  exact (zqn hn hf hb.mem0 h1 hc).1.symm
 ·exact zoa hn hf hb.tree s0 s1 (hS.trans hmf) x (by simpa using hx)
end
def zsv (g : Gr) (p : Pol) (S : Int → Bool) : Int:=capS S (netA g p [])
def zgZ (S : Int → Bool) (ks : List Int) : Int:=(ks.map fun k=>if S (2 + 2 * k) = true then 1 else 0).sum
variable {g : Gr} {p : Pol}
def zrC (g : Gr) (p : Pol) (k : Int) : Prop:=0 < (zbW g p).getD k.toNat 0
theorem ziP {S : Int → Bool} (h1 : S 1 = false) {ks : List Int} (hk : ∀ k ∈ ks,zrC g p k) : capS S (netA g p ks) = zsv g p S + zgZ S ks:=by
 have hf : ks.filter (fun x=>decide (0 < (zbW g p).getD x.toNat 0)) = ks:=List.filter_eq_self.2 fun x hx=>decide_eq_true (hk x hx)
 unfold zsv zgZ
 simp only [zjN,netA,zbB,List.map_append,List.sum_append,List.map_map,hf]
 have e : ((fun e : Ed=>if S e.f = true ∧ S e.t = false then e.v else 0) ∘ fun x : Int=>(⟨2 + 2 * x,1,1⟩ : Ed)) = fun k=>if S (2 + 2 * k) = true then 1 else 0:=by
  funext k
  simp only [Function.comp,h1,and_true]
 rw [e]
 simp only [List.filter_nil,List.map_nil,List.sum_nil]
 omega
theorem zmE (S : Int → Bool) : ∀ ks : List Int,zgZ S ks ≤ ks.length
 | []=>Int.le_refl _
 | k :: ks=>by
   have ih:=zmE S ks
   unfold zgZ at ih ⊢
   simp only [List.map_cons,List.sum_cons,List.length_cons]
   split <;> omega
theorem zli (S : Int → Bool) (a b : List Int) : zgZ S (a ++ b) = zgZ S a + zgZ S b:=by simp [zgZ]
theorem zod (S : Int → Bool) {a b : List Int} (h : a.Perm b) : zgZ S a = zgZ S b:=by
 unfold zgZ
 induction h with
 | nil=>rfl
 | cons x _ ih=>simp only [List.map_cons,List.sum_cons,ih]
 | swap x y l=>simp only [List.map_cons,List.sum_cons]; omega
 | trans _ _ ih1 ih2=>exact ih1.trans ih2
structure zcu (g : Gr) (p : Pol) (ks : List Int) : Prop where
 rng : ∀ x ∈ ks,0 ≤ x ∧ x < g.size
 reach : ∀ x ∈ ks,zrC g p x
theorem zcu.sub {a b : List Int} (h : zcu g p b) (hs : ∀ x ∈ a,x ∈ b) : zcu g p a:=⟨fun x hx=>h.rng x (hs x hx),fun x hx=>h.reach x (hs x hx)⟩
theorem zcu.nil : zcu g p []:=⟨fun _ h=>(List.not_mem_nil h).elim,fun _ h=>(List.not_mem_nil h).elim⟩
theorem zcu.append {a b : List Int} (h : zcu g p a) (h' : zcu g p b) : zcu g p (a ++ b) :=
 ⟨fun x hx=>(List.mem_append.1 hx).elim (h.rng x) (h'.rng x),fun x hx=>(List.mem_append.1 hx).elim (h.reach x) (h'.reach x)⟩
theorem zdu (hg : GrOk g) (hp : zbx g.size p) {ks : List Int} (hk : zcu g p ks) : zaA g p ks ↔ ∀ S : Int → Bool,S 0 = true → S 1 = false → (ks.length : Int) ≤ zsv g p S + zgZ S ks:=by
 have hn:=zmc hg hp hk.rng
 unfold zaA
 constructor
 ·intro h S h0 h1
  rw [← ziP h1 hk.reach,← h]
  exact zsG hn h0 h1
 ·intro h
  obtain ⟨X,h0,h1,hc,_⟩:=zqF hn
  have h2:=h X h0 h1
  rw [← ziP h1 hk.reach,hc] at h2
  have h3:=zji (p:=p) hg hp hk.rng
  omega
theorem zaA.perm (hg : GrOk g) (hp : zbx g.size p) {a b : List Int} (ha : zcu g p a) (h : zaA g p a) (hp' : a.Perm b) : zaA g p b:=by
 have hb : zcu g p b:=ha.sub fun x hx=>hp'.mem_iff.2 hx
 rw [zdu hg hp hb]
 rw [zdu hg hp ha] at h
 intro S h0 h1
 rw [← zod S hp',← hp'.length_eq]
 exact h S h0 h1
theorem zaA.left (hg : GrOk g) (hp : zbx g.size p) {a b : List Int} (hk : zcu g p (a ++ b)) (h : zaA g p (a ++ b)) : zaA g p a:=by
 have ha : zcu g p a:=hk.sub fun x hx=>List.mem_append_left _ hx
 rw [zdu hg hp ha]
 rw [zdu hg hp hk] at h
 intro S h0 h1
 have:=h S h0 h1
 rw [zli,List.length_append] at this
 have:=zmE S b
 omega
theorem zaA.sublist (hg : GrOk g) (hp : zbx g.size p) {a b : List Int} (hk : zcu g p b) (h : zaA g p b) (hs : a.Sublist b) : zaA g p a:=by
 obtain ⟨c,hc⟩ : ∃ c,(a ++ c).Perm b:=by
  induction hs with
  | slnil=>exact ⟨[],.refl _⟩
  | cons x hs ih =>
    obtain ⟨c,hc⟩:=ih (hk.sub fun y hy=>List.mem_cons_of_mem _ hy) (by
     have h2 : zaA g p (_ ++ [x]):=h.perm hg hp hk (List.perm_append_comm (l₁:=[x]))
     exact h2.left hg hp (hk.sub fun y hy=>by simpa [or_comm] using hy))
    exact ⟨x :: c,List.perm_middle.trans (hc.cons x)⟩
  | cons_cons x hs ih =>
    obtain ⟨c,hc⟩:=ih (hk.sub fun y hy=>List.mem_cons_of_mem _ hy) (by
     have h2 : zaA g p (_ ++ [x]):=h.perm hg hp hk (List.perm_append_comm (l₁:=[x]))
     exact h2.left hg hp (hk.sub fun y hy=>by simpa [or_comm] using hy))
    exact ⟨c,hc.cons x⟩
 exact (h.perm hg hp hk hc.symm).left hg hp (hk.sub fun x hx=>hc.mem_iff.1 hx)
theorem zaA.nil (hg : GrOk g) (hp : zbx g.size p) : zaA g p []:=by
 have h1:=zji (p:=p) (ks:=[]) hg hp (by simp)
 have hn:=zmc (p:=p) (ks:=[]) hg hp (by simp)
 have h2:=zr5 hn (zlv hn)
 have h3 : valF (netA g p []) ((netA g p []).map fun _=>0) = 0:=by
  unfold valF outF
  have : ∀ A : List Ed,sumF (fun e v=>if e.f = 0 then v else 0) A (A.map fun _=>0) = 0:=by
   intro A
   induction A with
   | nil=>rfl
   | cons e A ih=>simp only [List.map_cons,sumF,ih]; split <;> rfl
  exact this _
 unfold zaA
 simp at h1 ⊢
 omega
@[simp] theorem zsO {i : Nat} : cellsOf (.mp i) = some [.mp i]:=(rfl)
theorem WayA.mem {A : List Ed} : ∀ {l : List Nat} {u w : Int},WayA A u l w → ∀ j ∈ l,j < A.length
 | i :: l,u,w,hw,j,hj=>by
   rcases List.mem_cons.1 hj with rfl | hj
   ·exact hw.1
   ·exact WayA.mem hw.2.2 j hj
theorem zhI.few {N : Nat} {A : List Ed} {f g : List Int} {l : List Nat} {w : Int} (hn : zdP N A) (h : zhI A f g l w) : l.length + 1 ≤ N:=by
 have:=zbM (b:=(List.range N).map fun i : Nat=>(i : Int)) h.met fun x hx=>by
  rcases List.mem_cons.1 hx with rfl | hx
  ·have:=hn.two
   exact List.mem_map.2 ⟨0,List.mem_range.2 (by omega),rfl⟩
  ·obtain ⟨j,hj,rfl⟩:=List.mem_map.1 hx
   have ha:=hn.arc _ (zjs (h.way.mem j hj))
   exact List.mem_map.2 ⟨(arcD A j).t.toNat,List.mem_range.2 (by omega),by omega⟩
 simpa [metA] using this
section
variable {P : Program} {np id : Nat} {h : Nat → Option Ent} {K : AV → List Nat → List (Nat × Option Ent) → Prop} {f : FuncId} {first capt args args' : List AV} {res : AV}
end
def zrI (g : Gr) (p : Pol) (ks : List Int) (W : List (List Nat)) : Prop :=
 ∃ f g',ztv g p (za2 ks) f ∧ ziC (netN g) (netA g p (za2 ks)) f g' W ∧ (W.length : Int) = maxF (netN g) (netA g p (za2 ks)) ∧ ∀ w ∈ W,w.length ≤ 130
def befL (o acc : List Int) (i : Nat) : List Int:=(o.take i).filter fun k=>decide (k ∈ acc)
theorem zol {o acc : List Int} {i : Nat} (h : i < o.length) : befL o acc (i + 1) = befL o acc i ++ if o[i] ∈ acc then [o[i]] else []:=by
 unfold befL
 rw [List.take_succ_eq_append_getElem h,List.filter_append]
 simp only [List.filter_cons,List.filter_nil,decide_eq_true_eq]
structure ForR (g : Gr) (p : Pol) (o : List Int) (key : Int) (x : Expl) : Prop where
 key_ : x.key = key
 bef : ∃ i,∃ h : i < o.length,o[i] = key ∧ x.before = befL o (accR g p o) i
 yes : key ∈ accR g p o → x.acc = true ∧ x.side = [] ∧ ∃ W,zrI g p (x.before ++ [key]) W ∧ x.paths = W.map (zce (netA g p (za2 (x.before ++ [key]))))
 no : key ∉ accR g p o → x.acc = false ∧ x.paths = [] ∧ ∃ R,zjQ g p o R ∧ (key,x.side) ∈ R
variable {g : Gr} {p : Pol}
theorem zmJ : ∀ (b a : List Int),∃ l,accR g p (a ++ b) = accR g p a ++ l ∧ ∀ x ∈ l,x ∈ b
 | [],a=>⟨[],by simp,by simp⟩
 | x :: b,a=>by
   obtain ⟨l,hl,hm⟩:=zmJ b (a ++ [x])
   have e : a ++ x :: b = a ++ [x] ++ b:=by simp
   rw [e,hl]
   rcases zkY (g:=g) (p:=p) a x with h | h
   ·exact ⟨l,by rw [h],fun y hy=>List.mem_cons_of_mem _ (hm y hy)⟩
   ·refine ⟨[x] ++ l,by rw [h,List.append_assoc],fun y hy=>?_⟩
    rcases List.mem_append.1 hy with h | h
    ·rw [List.mem_singleton.1 h]; exact List.mem_cons_self
    ·exact List.mem_cons_of_mem _ (hm y h)
theorem zjL {o : List Int} (hn : o.Nodup) {i : Nat} (h : i < o.length) : o[i] ∈ accR g p o ↔ zaA g p (za2 (accR g p (o.take i) ++ [o[i]])):=by
 have hs : o.take (i + 1) = o.take i ++ [o[i]]:=List.take_succ_eq_append_getElem h
 obtain ⟨l,hl,hm⟩:=zmJ (g:=g) (p:=p) (o.drop (i + 1)) (o.take (i + 1))
 rw [List.take_append_drop] at hl
 have hni : o[i] ∉ o.take i:=fun hx=>by
  obtain ⟨j,hj,e⟩:=List.mem_take_iff_getElem.1 hx
  have:=(List.getElem_inj hn).1 e
  omega
 have hnd : o[i] ∉ o.drop (i + 1):=fun hx=>by
  obtain ⟨j,hj,e⟩:=List.mem_drop_iff_getElem.1 hx
  have:=(List.getElem_inj hn).1 e
  omega
 constructor
 ·intro hx
  by_cases hc : zaA g p (za2 (accR g p (o.take i) ++ [o[i]]))
  ·exact hc
  ·rw [hl,hs,zjn hc] at hx
   rcases List.mem_append.1 hx with h1 | h1
   ·exact absurd (znb h1) hni
   ·exact absurd (hm _ h1) hnd
 ·intro hc
  rw [hl,hs,zfX hc]
  exact List.mem_append_left _ (List.mem_append_right _ (List.mem_singleton.2 rfl))
theorem zm3 {o : List Int} (hn : o.Nodup) : ∀ i,i ≤ o.length → befL o (accR g p o) i = accR g p (o.take i)
 | 0,_=>by simp [befL,zqO]
 | i + 1,h=>by
   have hi : i < o.length:=h
   rw [zol hi,zm3 hn i (by omega),List.take_succ_eq_append_getElem hi]
   by_cases hc : zaA g p (za2 (accR g p (o.take i) ++ [o[i]]))
   ·rw [if_pos ((zjL hn hi).2 hc),zfX hc]
   ·rw [if_neg (fun h=>hc ((zjL hn hi).1 h)),zjn hc,List.append_nil]
theorem zim {l : List Int} (h : l.Pairwise (· < ·)) : l.Nodup:=h.imp fun h=>by omega
theorem zoE {a : List Int} (hn : a.Nodup) (hr : ∀ k ∈ a,0 ≤ k ∧ k < 64) : a.Perm (za2 a):=by
 rw [← zmt hn hr]
 exact (zdt a).symm
structure AtO (g : Gr) (p : Pol) (key : Int) (before : List Int) : Prop where
 mem : key ∈ ordL (zao g p.lv) p.seeds
 bef : zeS (ordL (zao g p.lv) p.seeds) before key
 nodup : (before ++ [key]).Nodup
 range : ∀ k ∈ before ++ [key],0 ≤ k ∧ k < g.size
 serve : key ∈ accR g p (ordL (zao g p.lv) p.seeds) ↔ zaA g p (za2 (before ++ [key]))
theorem zmi {o : List Int} (hn : o.Nodup) {i : Nat} (h : i < o.length) : zfu o o[i] = o.take i:=by
 unfold zfu
 rw [List.takeWhile_eq_take_findIdx_not]
 congr 1
 rw [List.findIdx_eq h]
 refine ⟨by simp,fun j hj=>?_⟩
 have : o[j] ≠ o[i]:=fun e=>by have:=(List.getElem_inj hn).1 e; omega
 simp [this]
theorem ForR.at_ {key : Int} {x : Expl} (h : ForR g p (ordL (zao g p.lv) p.seeds) key x) (hg : GrOk g) : x.key = key ∧ AtO g p key x.before ∧ ∃ i,∃ hi : i < (ordL (zao g p.lv) p.seeds).length,(ordL (zao g p.lv) p.seeds)[i] = key ∧ x.before = accR g p ((ordL (zao g p.lv) p.seeds).take i):=by
 have hn:=zb9 (zao g p.lv) p.seeds
 have hr : ∀ k ∈ ordL (zao g p.lv) p.seeds,0 ≤ k ∧ k < g.size:=fun k hk=>by have h:=zgx hk; exact h
 obtain ⟨o,ho⟩ : ∃ o,o = ordL (zao g p.lv) p.seeds:=⟨_,rfl⟩
 rw [← ho] at h hn hr ⊢
 obtain ⟨i,hi,hk,hb⟩:=h.bef
 rw [zm3 hn i (by omega)] at hb
 refine ⟨h.key_,?_,i,hi,hk,hb⟩
 have hsub : x.before.Sublist (zfu o key):=by
  rw [hb,← hk,zmi hn hi]
  exact zi4 _ _ rfl
 refine ⟨by rw [← ho,← hk]; exact List.getElem_mem hi,by rw [← ho]; exact hsub,zeS.nodup (order:=o) hsub hn,fun k hkm=>?_,?_⟩
 ·rcases List.mem_append.1 hkm with h1 | h1
  ·refine hr k ?_
   rw [hb] at h1
   exact List.mem_of_mem_take (znb h1)
  ·rw [List.mem_singleton.1 h1,← hk]; exact hr _ (List.getElem_mem hi)
 ·rw [← ho,hb,← hk]
  exact zjL hn hi
theorem AtO.joined {key : Int} {before : List Int} (h : AtO g p key before) (hg : GrOk g) : (za2 (before ++ [key])).Nodup ∧ (before ++ [key]).Perm (za2 (before ++ [key])) ∧ (∀ x ∈ za2 (before ++ [key]),0 ≤ x ∧ x < g.size):=by
 have h64:=hg.1.2.1
 have hr : ∀ k ∈ before ++ [key],0 ≤ k ∧ k < 64:=fun k hk=>⟨(h.range k hk).1,by have:=(h.range k hk).2; omega⟩
 exact ⟨zim (zjW _),zoE h.nodup hr,fun x hx=>h.range x (zf3.1 hx).1⟩
theorem zmf {key : Int} {before : List Int} {W : List (List Nat)} (hg : GrOk g) (hp : zbx g.size p) (ha : AtO g p key before) (hc : zaA g p (za2 (before ++ [key]))) (hW : zrI g p (before ++ [key]) W) :
  zh4 g p.lv p.seeds (ordL (zao g p.lv) p.seeds) (zbW g p) (W.map (zce (netA g p (za2 (before ++ [key]))))) (before ++ [key]):=by
 obtain ⟨f,g',hgf,ht,hl,_⟩:=hW
 obtain ⟨j1,j2,j3⟩:=ha.joined hg
 refine zlg hg hp j1 (fun x hx=>(j3 x hx).1) j2 hgf.ok.fit ht.ways (fun i _=>?_) ?_
 ·have h1:=ht.used i
  have h2:=ht.bal.nonneg i
  omega
 ·have : maxF (netN g) (netA g p (za2 (before ++ [key]))) = (za2 (before ++ [key])).length:=hc
  omega
theorem ForR.yes_serves {key : Int} {x : Expl} (h : ForR g p (ordL (zao g p.lv) p.seeds) key x) (hg : GrOk g) (hp : zbx g.size p) (hk : key ∈ accR g p (ordL (zao g p.lv) p.seeds)) :
  zh4 g p.lv p.seeds (ordL (zao g p.lv) p.seeds) (zbW g p) x.paths (x.before ++ [key]):=by
 obtain ⟨_,ha,_⟩:=h.at_ hg
 obtain ⟨_,_,W,hW,hpa⟩:=h.yes hk
 rw [hpa]
 exact zmf hg hp ha (ha.serve.1 hk) hW
theorem ForR.no_proves {key : Int} {x : Expl} (h : ForR g p (ordL (zao g p.lv) p.seeds) key x) (hg : GrOk g) (hp : zbx g.size p) (hk : key ∉ accR g p (ordL (zao g p.lv) p.seeds)) :
  zme ⟨2 + 2 * g.size,zbB g p (zbW g p) (za2 (x.before ++ [key]))⟩ x.side x.before.length:=by
 obtain ⟨_,ha,i,hi,hik,hib⟩:=h.at_ hg
 obtain ⟨_,_,R,hR,hs⟩:=h.no hk
 obtain ⟨i',hi',hik',hn⟩:=hR.right _ hs
 simp only at hik' hn
 have hii : i' = i:=(List.getElem_inj (zb9 (zao g p.lv) p.seeds)).1 (hik'.trans hik.symm)
 subst hii
 rw [← hib] at hn
 obtain ⟨j1,j2,j3⟩:=ha.joined hg
 have hfew:=zji hg hp j3
 have hno : maxF (netN g) (netA g p (za2 (x.before ++ [key]))) ≠ (za2 (x.before ++ [key])).length:=hn.no
 have hlen:=j2.length_eq
 rw [List.length_append,List.length_singleton] at hlen
 have hcut:=hn.cut
 have hok:=hn.ok
 rw [zqX hg] at hok
 exact ⟨hok,by rw [hcut]; omega⟩
theorem ForR.checked {key : Int} {x : Expl} (h : ForR g p (ordL (zao g p.lv) p.seeds) key x) (hg : GrOk g) (hp : zbx g.size p) : zpN g p x = 0:=by
 rw [zoc hg.1.2.1]
 obtain ⟨hk,ha,_⟩:=h.at_ hg
 unfold zpb
 simp only
 rw [hk,if_neg (by simpa using ha.mem)]
 by_cases hacc : key ∈ accR g p (ordL (zao g p.lv) p.seeds)
 ·obtain ⟨h1,h2,_⟩:=h.yes hacc
  rw [if_neg (by rw [h1,h2]; simpa using ha.bef),if_pos h1,if_pos (h.yes_serves hg hp hacc)]
 ·obtain ⟨h1,h2,_⟩:=h.no hacc
  rw [if_neg (by rw [h1,h2]; simpa using ha.bef),if_neg (by rw [h1]; simp),if_pos (h.no_proves hg hp hacc)]
theorem zhl (l : List Int) (hl : l.length ≤ 1099511627776) : zaj Tryz.prog zd2 [ints l] [] (.rs 0 0 l.length) [some ⟨1,zah (srt l),0⟩]:=by
 refine zjB.acalls (nbz rfl) (nbz rfl) (Nat.zero_le _) ?_
 show awp _ 0 _ _ ⟨6,[(0,ints l)],[],16⟩
 have hs : zaj Tryz.prog zbF [seqF l] [] (.rs 0 0 l.length) [some ⟨1,zah (srt l),0⟩]:=zoi l hl
 refine rx (s:=?s1) [0] [] [] rfl ?o1 ?q1
 case o1=>simp; rfl
 refine zab ⟨6,[(2,.rs 50 0 l.length)],[(50,some ⟨1,zah (srt l),0⟩)],100⟩ rfl ?_ ?_
 ·simp
  refine zal (zpO l) (by simp) ?_
  simp
  refine zdK hs (by simp [conv]) ?_
  simp
  exact LeI [(40,50)] []
 refine zag ?_
 exact ⟨.inr rfl,zam.out [50] [] rfl (by simp) (by simp) (by simp) (by simp [fcd])⟩
theorem zh0 {α : Type} (n k : Nat) (f : Nat → α) (v : α) : ((List.range n).map f).set k v = (List.range n).map fun j=>if j = k then v else f j:=by
 apply List.ext_getElem?
 intro i
 rw [List.getElem?_set]
 by_cases hi : i < n
 ·by_cases hk : k = i
  ·subst hk; simp [hi]
  ·have : ¬ i = k:=fun e=>hk e.symm
   simp [hi,hk,this]
 ·by_cases hk : k = i
  ·subst hk; simp [hi]
  ·simp [hi,hk]
theorem zl0 {α : Type} (K : List Int) (f : Int → α) : ((List.range K.length).map fun j=>f (K.getD j 0)) = K.map f:=by
 apply List.ext_getElem?
 intro i
 by_cases hi : i < K.length
 ·simp [hi]
 ·simp [hi]
theorem zcZ {l : List Int} {k : Nat} {v : Int} : (zah l).set k [AV.I v] = zah (l.set k v):=by
 show (l.map fun n=>[AV.I n]).set k ((fun n : Int=>[AV.I n]) v) = (l.set k v).map fun n=>[AV.I n]
 rw [List.map_set]
def edWl (l : List Ed) (x y : Int) : Int:=((l.filter fun e=>decide (e.f = x) && decide (e.t = y)).map fun e=>e.v).sum
theorem zhy {l : List Ed} {m : Nat} (h : m < l.length) (x y : Int) : edWl (l.take (m + 1)) x y = edWl (l.take m) x y + if l[m].f = x ∧ l[m].t = y then l[m].v else 0:=by
 unfold edWl
 rw [List.take_succ_eq_append_getElem h,List.filter_append,List.map_append,List.sum_append]
 congr 1
 by_cases h1 : l[m].f = x ∧ l[m].t = y
 ·simp [h1]
 ·rw [if_neg h1]
  have : (decide (l[m].f = x) && decide (l[m].t = y)) = false:=by simpa using fun a b=>h1 ⟨a,b⟩
  simp [this]
theorem zo3 {g : Gr} (hg : GrOk g) (m : Nat) (x y : Int) : 0 ≤ edWl (g.edges.take m) x y ∧ edWl (g.edges.take m) x y ≤ 3:=by
 have h2 : ∀ k,0 ≤ edWl (g.edges.drop k) x y:=fun k=>zc5 fun v hv=>by
  obtain ⟨e,he,rfl⟩:=List.mem_map.1 hv
  have:=(hg.val e (List.mem_of_mem_drop (List.mem_filter.1 he).1)).1
  omega
 have h3 : 0 ≤ edWl (g.edges.take m) x y:=zc5 fun v hv=>by
  obtain ⟨e,he,rfl⟩:=List.mem_map.1 hv
  have:=(hg.val e (List.mem_of_mem_take (List.mem_filter.1 he).1)).1
  omega
 have h4 : edW g x y = edWl (g.edges.take m) x y + edWl (g.edges.drop m) x y:=by
  unfold edW edWl
  rw [← List.sum_append,← List.map_append,← List.filter_append,List.take_append_drop]
 have:=zne hg x y
 have:=h2 m
 omega
def rowA (S K : List Int) (r : Int) (k : Nat) : List Int:=(List.range K.length).map fun j=>if j < k ∧ S.contains (K.getD j 0) = true then r else 0
def rowP (E : List Ed) (S K : List Int) (r x : Int) (m : Nat) : List Int:=(List.range K.length).map fun j=>(if S.contains (K.getD j 0) then r else 0) + edWl (E.take m) x (K.getD j 0)
section
variable {E : List Ed} {S K : List Int} {r x : Int}
theorem zqh (k : Nat) : (rowA S K r k).length = K.length:=by simp [rowA]
theorem zjf (m : Nat) : (rowP E S K r x m).length = K.length:=by simp [rowP]
theorem zpm : zah (rowA S K r 0) = List.replicate K.length [AV.I 0]:=by
 simp [rowA,fcd,List.map_const']
theorem zok {k : Nat} (hk : k < K.length) (h : K[k] ∈ S) : (zah (rowA S K r k)).set k [AV.I r] = zah (rowA S K r (k + 1)):=by
 rw [zcZ]
 congr 1
 unfold rowA
 rw [zh0]
 refine List.map_congr_left fun j hj=>?_
 by_cases hjk : j = k
 ·subst hjk
  rw [if_pos rfl,if_pos ⟨by omega,by simpa [hk] using h⟩]
 ·rw [if_neg hjk]
  by_cases h1 : j < k
  ·by_cases h2 : S.contains (K.getD j 0) = true
   ·rw [if_pos ⟨h1,h2⟩,if_pos ⟨by omega,h2⟩]
   ·rw [if_neg (fun q=>h2 q.2),if_neg (fun q=>h2 q.2)]
  ·rw [if_neg (fun q=>h1 q.1),if_neg (fun q=>by have:=q.1; omega)]
theorem zpq {k : Nat} (hk : k < K.length) (h : ¬ K[k] ∈ S) : rowA S K r (k + 1) = rowA S K r k:=by
 unfold rowA
 refine List.map_congr_left fun j hj=>?_
 by_cases hjk : j = k
 ·subst hjk
  have : ¬ S.contains (K.getD j 0) = true:=by simpa [hk] using h
  rw [if_neg (fun q=>this q.2),if_neg (fun q=>this q.2)]
 ·by_cases h2 : S.contains (K.getD j 0) = true
  ·by_cases h1 : j < k
   ·rw [if_pos ⟨by omega,h2⟩,if_pos ⟨h1,h2⟩]
   ·rw [if_neg (fun q=>by have:=q.1; omega),if_neg (fun q=>h1 q.1)]
  ·rw [if_neg (fun q=>h2 q.2),if_neg (fun q=>h2 q.2)]
theorem zq1 : rowA S K r K.length = rowP E S K r x 0:=by
 unfold rowA rowP
 refine List.map_congr_left fun j hj=>?_
 have:=List.mem_range.1 hj
 by_cases h2 : S.contains (K.getD j 0) = true
 ·rw [if_pos ⟨this,h2⟩,if_pos h2]; simp [edWl]
 ·rw [if_neg (fun q=>h2 q.2),if_neg h2]; simp [edWl]
theorem zq5 {m j : Nat} (h : j < (rowP E S K r x m).length) : (rowP E S K r x m)[j] = (if S.contains (K.getD j 0) then r else 0) + edWl (E.take m) x (K.getD j 0):=by simp [rowP]
theorem zp2 {m : Nat} (hm : m < E.length) (h : ¬ E[m].f = x) : rowP E S K r x (m + 1) = rowP E S K r x m:=by
 unfold rowP
 refine List.map_congr_left fun j hj=>?_
 have he:=zhy hm x (K.getD j 0)
 rw [if_neg (fun q=>h q.1),Int.add_zero] at he
 rw [he]
theorem zqe {m k : Nat} (hn : K.Nodup) (hm : m < E.length) (h : E[m].f = x) (hk : k < K.length) (hkt : K[k] = E[m].t) : (zah (rowP E S K r x m)).set k [AV.I ((if S.contains (K.getD k 0) then r else 0) + edWl (E.take m) x (K.getD k 0) + E[m].v)] = zah (rowP E S K r x (m + 1)):=by
 rw [zcZ]
 congr 1
 unfold rowP
 rw [zh0]
 refine List.map_congr_left fun j hj=>?_
 have hjl:=List.mem_range.1 hj
 have he:=zhy hm x (K.getD j 0)
 by_cases hjk : j = k
 ·subst hjk
  have : K.getD j 0 = E[m].t:=by simp [hk,hkt]
  rw [this,if_pos ⟨h,rfl⟩] at he
  rw [if_pos rfl,this,he,Int.add_assoc]
 ·have : ¬ E[m].t = K.getD j 0:=fun e=>by
   have e2 : K[j] = K[k]:=by rw [hkt,e]; simp [hjl]
   exact hjk ((List.getElem_inj hn).1 e2)
  rw [if_neg (fun q=>this q.2),Int.add_zero] at he
  rw [if_neg hjk,he]
end
theorem zqY (G : Gr) (S : List Int) (r x : Int) : rowP G.edges S (zap G S) r x G.edges.length = zaW G S r x:=by
 unfold rowP zaW
 rw [List.take_length]
 exact zl0 (zap G S) (fun y=>(if S.contains y then r else 0) + edWl G.edges x y)
end Go.Proofs.YtfdbhehkkobfgaaGreat
