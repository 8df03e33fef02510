/- Texts of this claim,merged. -/
import Derived.Test.YtfdbhehkkobfgaaRt1
import Derived.Test.YtfdbhehkkobfgaaRt6
import Derived.Shelf.Sort.Plain
import Derived.Test.YtfdbhehkkobfgaaProg
import Derived.Shelf.Slices.In.SortNone
set_option linter.unusedSimpArgs false
set_option linter.unusedVariables false
set_option linter.unusedSectionVars false
namespace Go.Proofs.Ytfdbhehkkobfgaa
open Go
def sg (k : Nat) : Int:=if k % 2 = 0 then 1 else -1
theorem zrI (k : Nat) : sg (k + 1) = - sg k:=by
 unfold sg
 rcases Nat.mod_two_eq_zero_or_one k with h | h
 ·have h' : ¬ (k + 1) % 2 = 0:=by omega
  rw [if_pos h,if_neg h']
 ·have h' : (k + 1) % 2 = 0:=by omega
  have h'' : ¬ k % 2 = 0:=by omega
  rw [if_neg h'',if_pos h']
  rfl
abbrev Vec:=Nat → Int
def lapS (F : List Vec → Int) (r : Nat) : List Vec → List Vec → Int
 | _,[]=>0
 | pre,c :: rest=>sg pre.length * c r * F (pre ++ rest) + lapS F r (pre ++ [c]) rest
def detC : Nat → Nat → List Vec → Int
 | 0,_,_=>1
 | n + 1,r,cs=>lapS (detC n (r + 1)) r [] cs
def LinC (n : Nat) (F : List Vec → Int) : Prop:=∀ (x y : Int) (u v : Vec) (pre post : List Vec),pre.length + 1 + post.length = n → F (pre ++ (fun i=>x * u i + y * v i) :: post) = x * F (pre ++ u :: post) + y * F (pre ++ v :: post)
def Alt (n : Nat) (F : List Vec → Int) : Prop:=∀ (u : Vec) (pre post : List Vec),pre.length + 2 + post.length = n → F (pre ++ u :: u :: post) = 0
section
variable {F : List Vec → Int} {n r : Nat} {u v w : Vec} {x y : Int}
theorem zkM (hF : LinC n F) : ∀ (rest p1 p2 : List Vec),p1.length + 1 + p2.length + rest.length = n + 1 → lapS F r (p1 ++ (fun i=>x * u i + y * v i) :: p2) rest = x * lapS F r (p1 ++ u :: p2) rest + y * lapS F r (p1 ++ v :: p2) rest
 | [],_,_,_=>by simp [lapS]
 | c :: rest,p1,p2,hl=>by
   simp only [List.length_cons] at hl
   have h1:=zkM hF rest p1 (p2 ++ [c]) (by simp; omega)
   have h2:=hF x y u v p1 (p2 ++ rest) (by simp; omega)
   simp only [lapS,List.append_assoc,List.cons_append,List.length_append,List.length_cons] at *
   rw [h1,h2]
   grind
theorem zkH (hF : LinC n F) : ∀ (pre pre0 post : List Vec),pre0.length + pre.length + 1 + post.length = n + 1 → lapS F r pre0 (pre ++ (fun i=>x * u i + y * v i) :: post) = x * lapS F r pre0 (pre ++ u :: post) + y * lapS F r pre0 (pre ++ v :: post)
 | [],pre0,post,hl=>by
   simp only [List.length_nil] at hl
   have h1:=zkM (r:=r) (x:=x) (y:=y) (u:=u) (v:=v) hF post pre0 [] (by simp; omega)
   simp only [lapS,List.nil_append]
   rw [h1]
   grind
 | c :: pre,pre0,post,hl=>by
   simp only [List.length_cons] at hl
   have h1:=zkH hF pre (pre0 ++ [c]) post (by simp; omega)
   have h2:=hF x y u v (pre0 ++ pre) post (by simp; omega)
   simp only [lapS,List.append_assoc,List.cons_append] at *
   rw [h1,h2]
   grind
theorem zkU (hF : Alt n F) : ∀ (rest p1 p2 : List Vec),p1.length + 2 + p2.length + rest.length = n + 1 → lapS F r (p1 ++ u :: u :: p2) rest = 0
 | [],_,_,_=>by simp [lapS]
 | c :: rest,p1,p2,hl=>by
   simp only [List.length_cons] at hl
   have h1:=zkU hF rest p1 (p2 ++ [c]) (by simp; omega)
   have h2:=hF u p1 (p2 ++ rest) (by simp; omega)
   simp only [lapS,List.append_assoc,List.cons_append,List.length_append,List.length_cons] at *
   rw [h1,h2]
   simp
theorem zke (hF : Alt n F) : ∀ (pre pre0 post : List Vec),pre0.length + pre.length + 2 + post.length = n + 1 → lapS F r pre0 (pre ++ u :: u :: post) = 0
 | [],pre0,post,hl=>by
   simp only [List.length_nil] at hl
   have h1:=zkU (r:=r) (u:=u) hF post pre0 [] (by simp; omega)
   simp only [lapS,List.nil_append,List.append_assoc,List.cons_append,List.length_append,List.length_cons,List.length_nil,Nat.zero_add] at *
   rw [h1,zrI]
   grind
 | c :: pre,pre0,post,hl=>by
   simp only [List.length_cons] at hl
   have h1:=zke hF pre (pre0 ++ [c]) post (by simp; omega)
   have h2:=hF u (pre0 ++ pre) post (by simp; omega)
   simp only [lapS,List.append_assoc,List.cons_append] at *
   rw [h1,h2]
   simp
end
theorem zmI : ∀ (n r : Nat),LinC n (detC n r)
 | 0,_=>fun _ _ _ _ pre post h=>by omega
 | n + 1,r=>fun x y u v pre post h=>zkH (zmI n (r + 1)) pre [] post (by simpa using h)
theorem zmW : ∀ (n r : Nat),Alt n (detC n r)
 | 0,_=>fun _ pre post h=>by omega
 | n + 1,r=>fun u pre post h=>zke (zmW n (r + 1)) pre [] post (by simpa using h)
section
variable {F : List Vec → Int} {n : Nat}
theorem zqR (hL : LinC n F) (hA : Alt n F) (u v : Vec) (pre post : List Vec) (h : pre.length + 2 + post.length = n) : F (pre ++ u :: v :: post) = - F (pre ++ v :: u :: post):=by
 have e1:=hA (fun i=>1 * u i + 1 * v i) pre post h
 have e2:=hL 1 1 u v pre ((fun i=>1 * u i + 1 * v i) :: post) (by simp; omega)
 have e3:=hL 1 1 u v (pre ++ [u]) post (by simp; omega)
 have e4:=hL 1 1 u v (pre ++ [v]) post (by simp; omega)
 have e5:=hA u pre post h
 have e6:=hA v pre post h
 simp only [List.append_assoc,List.cons_append,List.nil_append] at *
 rw [e2,e3,e4,e5,e6] at e1
 omega
theorem zo4 (hL : LinC n F) (hA : Alt n F) (u : Vec) : ∀ (mid pre post : List Vec),pre.length + 2 + mid.length + post.length = n → F (pre ++ u :: mid ++ u :: post) = 0
 | [],pre,post,h=>by
   have:=hA u pre post (by simpa using h)
   simpa using this
 | c :: mid,pre,post,h=>by
   simp only [List.length_cons] at h
   have h1:=zo4 hL hA u mid (pre ++ [c]) post (by simp; omega)
   have h2:=zqR hL hA u c pre (mid ++ u :: post) (by simp; omega)
   simp only [List.append_assoc,List.cons_append,List.nil_append] at *
   rw [h2,h1]
   rfl
theorem zmz (hL : LinC n F) (hA : Alt n F) (c : Vec) (a : Int) (lam : Vec → Int) : ∀ (rest pre : List Vec),pre.length + 1 + rest.length = n →
  F (c :: pre ++ rest.map fun v=>fun i=>a * v i + - lam v * c i) = a ^ rest.length * F (c :: pre ++ rest)
 | [],pre,_=>by simp
 | v :: rest,pre,h=>by
   simp only [List.length_cons] at h
   have h1:=zmz hL hA c a lam rest (pre ++ [fun i=>a * v i + - lam v * c i]) (by simp; omega)
   have h2:=hL a (- lam v) v c (c :: pre) rest (by simp; omega)
   have h3:=zo4 hL hA c pre [] rest (by simp; omega)
   simp only [List.append_assoc,List.cons_append,List.nil_append,List.map_cons,List.length_cons] at *
   rw [h1,h2,h3]
   grind
end
theorem zkX {F : List Vec → Int} {r : Nat} : ∀ (rest pre : List Vec),(∀ v ∈ rest,v r = 0) → lapS F r pre rest = 0
 | [],_,_=>rfl
 | c :: rest,pre,h=>by
   simp only [lapS]
   rw [h c (by simp),zkX rest (pre ++ [c]) fun v hv=>h v (by simp [hv])]
   simp
theorem zoo (n r : Nat) (c : Vec) (cs : List Vec) (h : cs.length = n) : c r ^ n * detC (n + 1) r (c :: cs) = c r * detC n (r + 1) (cs.map fun v=>fun i=>c r * v i + - v r * c i):=by
 have h1:=zmz (zmI (n + 1) r) (zmW (n + 1) r) c (c r) (fun v=>v r) cs [] (by simp; omega)
 simp only [List.cons_append,List.nil_append] at h1
 rw [h] at h1
 rw [← h1]
 simp only [detC,lapS,List.length_nil,List.nil_append]
 rw [zkX _ [c] fun v hv=>by
  obtain ⟨w,_,rfl⟩:=List.mem_map.1 hv
  grind]
 simp [sg]
theorem zix {F G : List Vec → Int} {r : Nat} (s : Vec → Vec) (hs : ∀ v,v (r + 1) = s v r) : ∀ (rest pre : List Vec),(∀ l : List Vec,l.length + 1 = pre.length + rest.length → F l = G (l.map s)) → lapS F (r + 1) pre rest = lapS G r (pre.map s) (rest.map s)
 | [],_,_=>rfl
 | c :: rest,pre,h=>by
   simp only [List.length_cons] at h
   have h1:=zix s hs rest (pre ++ [c]) (fun l hl=>h l (by simp at hl; omega))
   have h2:=h (pre ++ rest) (by simp; omega)
   simp only [lapS,List.map_cons,List.length_map]
   rw [h1,h2,hs c]
   simp
theorem ziD : ∀ (n r : Nat) (cs : List Vec),detC n (r + 1) cs = detC n r (cs.map fun v=>fun i=>v (i + 1))
 | 0,_,_=>rfl
 | n + 1,r,cs=>by
   simp only [detC]
   exact zix (fun v=>fun i=>v (i + 1)) (fun _=>rfl) cs [] fun l _=>ziD n (r + 1) l
abbrev Mat:=Nat → Nat → Int
def detM (n : Nat) (A : Mat) : Int:=detC n 0 ((List.range n).map fun j=>fun i=>A i j)
def chio (A : Mat) : Mat:=fun i j=>A 0 0 * A (i + 1) (j + 1) - A 0 (j + 1) * A (i + 1) 0
theorem zdK (n : Nat) (A : Mat) : A 0 0 ^ n * detM (n + 1) A = A 0 0 * detM n (chio A):=by
 unfold detM
 rw [List.range_succ_eq_map,List.map_cons]
 have h:=zoo n 0 (fun i=>A i 0) (((List.range n).map Nat.succ).map fun j=>fun i=>A i j) (by simp)
 rw [h,ziD]
 congr 2
 rw [List.map_map,List.map_map,List.map_map]
 refine List.map_congr_left fun j _=>?_
 funext i
 simp only [Function.comp_apply,chio,Nat.succ_eq_add_one]
 grind
def smN : Nat → (Nat → Int) → Int
 | 0,_=>0
 | n + 1,f=>f 0 + smN n fun i=>f (i + 1)
theorem zaF : ∀ (n : Nat) {f g : Nat → Int},(∀ i,i < n → f i = g i) → smN n f = smN n g
 | 0,_,_,_=>rfl
 | n + 1,f,g,h=>by
   simp only [smN]
   rw [h 0 (by omega),zaF n fun i hi=>h (i + 1) (by omega)]
theorem zd9 (a b : Int) : ∀ (n : Nat) (f g : Nat → Int),smN n (fun j=>a * f j - b * g j) = a * smN n f - b * smN n g
 | 0,_,_=>by simp [smN]
 | n + 1,f,g=>by
   simp only [smN]
   rw [zd9 a b n]
   grind
theorem zgX : ∀ (n : Nat),smN n (fun _=>0) = 0
 | 0=>rfl
 | n + 1=>by simp only [smN]; rw [zgX n]; rfl
def zde : Nat → (Nat → Int) → Int
 | 0,_=>1
 | n + 1,f=>f 0 * zde n fun i=>f (i + 1)
def inR (n : Nat) (A : Mat) (S : Nat → Bool) (i : Nat) : Int:=smN n fun j=>if S j then A i j else 0
structure MM (n : Nat) (A : Mat) : Prop where
 off : ∀ i j,i < n → j < n → i ≠ j → A i j ≤ 0
 non : ∀ (S : Nat → Bool) (i : Nat),i < n → S i = true → 0 ≤ inR n A S i
 leak : ∀ S : Nat → Bool,(∃ i,i < n ∧ S i = true) → ∃ i,i < n ∧ S i = true ∧ 0 < inR n A S i
def zfV (b : Bool) (S : Nat → Bool) : Nat → Bool
 | 0=>b
 | j + 1=>S j
section
variable {n : Nat} {A : Mat}
theorem zgU (S : Nat → Bool) (i : Nat) : inR (n + 1) A (zfV true S) i = A i 0 + smN n fun j=>if S j then A i (j + 1) else 0:=by
 rfl
theorem zn1 (S : Nat → Bool) (i : Nat) : inR (n + 1) A (zfV false S) i = smN n fun j=>if S j then A i (j + 1) else 0:=by
 show (0 : Int) + smN n (fun j=>if S j then A i (j + 1) else 0) = _
 rw [Int.zero_add]
theorem MM.pos (h : MM (n + 1) A) : 0 < A 0 0:=by
 obtain ⟨i,hi,hs,hp⟩:=h.leak (zfV true fun _=>false) ⟨0,by omega,rfl⟩
 cases i with
 | zero =>
   rw [zgU] at hp
   simp [zgX] at hp
   exact hp
 | succ i=>simp [zfV] at hs
theorem zgZ (S : Nat → Bool) (i : Nat) : inR n (chio A) S i = A 0 0 * inR (n + 1) A (zfV true S) (i + 1) - A (i + 1) 0 * inR (n + 1) A (zfV true S) 0:=by
 rw [zgU,zgU]
 have h:=zd9 (A 0 0) (A (i + 1) 0) n (fun j=>if S j then A (i + 1) (j + 1) else 0) (fun j=>if S j then A 0 (j + 1) else 0)
 have h2 : inR n (chio A) S i = smN n (fun j=>A 0 0 * (if S j then A (i + 1) (j + 1) else 0) - A (i + 1) 0 * (if S j then A 0 (j + 1) else 0)):=by
  unfold inR
  refine zaF n fun j _=>?_
  cases S j
  ·simp
  ·simp [chio]; grind
 rw [h2,h]
 grind
theorem MM.chio (h : MM (n + 1) A) : MM n (chio A):=by
 have h0:=h.pos
 refine ⟨fun i j hi hj hne=>?_,fun S i hi hs=>?_,fun S hS=>?_⟩
 ·have h1:=h.off (i + 1) (j + 1) (by omega) (by omega) (by omega)
  have h2:=h.off 0 (j + 1) (by omega) (by omega) (by omega)
  have h3:=h.off (i + 1) 0 (by omega) (by omega) (by omega)
  have h4:=Int.mul_nonneg_of_nonpos_of_nonpos h2 h3
  have h5:=Int.mul_nonneg (Int.le_of_lt h0) (Int.neg_nonneg_of_nonpos h1)
  rw [Int.mul_neg] at h5
  unfold Go.Proofs.Ytfdbhehkkobfgaa.chio
  omega
 ·rw [zgZ]
  have h1:=h.non (zfV true S) (i + 1) (by omega) hs
  have h2:=h.non (zfV true S) 0 (by omega) rfl
  have h3:=h.off (i + 1) 0 (by omega) (by omega) (by omega)
  have h4:=Int.mul_nonneg (Int.le_of_lt h0) h1
  have h5:=Int.mul_nonneg (Int.neg_nonneg_of_nonpos h3) h2
  rw [Int.neg_mul] at h5
  omega
 ·obtain ⟨k,hk,hks⟩:=hS
  obtain ⟨i,hi,hs,hp⟩:=h.leak (zfV true S) ⟨0,by omega,rfl⟩
  have h2:=h.non (zfV true S) 0 (by omega) rfl
  cases i with
  | succ i =>
    refine ⟨i,by omega,hs,?_⟩
    rw [zgZ]
    have h3:=h.off (i + 1) 0 (by omega) (by omega) (by omega)
    have h4:=Int.mul_pos h0 hp
    have h5:=Int.mul_nonneg (Int.neg_nonneg_of_nonpos h3) h2
    rw [Int.neg_mul] at h5
    omega
  | zero =>
    by_cases hex : ∃ j,j < n ∧ S j = true ∧ A (j + 1) 0 ≠ 0
    ·obtain ⟨j,hj,hjs,hjn⟩:=hex
     refine ⟨j,hj,hjs,?_⟩
     rw [zgZ]
     have h1:=h.non (zfV true S) (j + 1) (by omega) hjs
     have h3:=h.off (j + 1) 0 (by omega) (by omega) (by omega)
     have h4:=Int.mul_nonneg (Int.le_of_lt h0) h1
     have h5:=Int.mul_pos (a:=- A (j + 1) 0) (by omega) hp
     rw [Int.neg_mul] at h5
     omega
    ·obtain ⟨i,hi,hs,hp⟩:=h.leak (zfV false S) ⟨k + 1,by omega,hks⟩
     cases i with
     | zero=>simp [zfV] at hs
     | succ i =>
       refine ⟨i,by omega,hs,?_⟩
       have hz : A (i + 1) 0 = 0:=Classical.byContradiction fun hz=>hex ⟨i,by omega,hs,hz⟩
       rw [zgZ,hz,zgU,hz]
       rw [zn1] at hp
       have h4:=Int.mul_pos h0 hp
       simpa using h4
theorem zgY : ∀ (n : Nat) {A : Mat},MM n A → 0 < detM n A
 | 0,_,_=>by show (0 : Int) < 1; decide
 | n + 1,A,h=>by
   have h0:=h.pos
   have h1:=zgY n h.chio
   have h2:=zdK n A
   have h3 : 0 < A 0 0 ^ n:=Int.pow_pos h0
   have h4:=Int.mul_pos h0 h1
   rw [← h2] at h4
   exact Int.pos_of_mul_pos_right h4 h3
theorem zdG : ∀ (n : Nat) (f : Nat → Int) (i : Nat),i < n → (smN n fun j=>if decide (j = i) then f j else 0) = f i
 | n + 1,f,0,_=>by
   have h:=zaF n (f:=fun j=>if decide (j + 1 = 0) then f (j + 1) else 0) (g:=fun _=>0) fun j _=>by simp
   simp only [smN]
   rw [h,zgX]
   simp
 | n + 1,f,i + 1,hi=>by
   have h:=zdG n (fun j=>f (j + 1)) i (by omega)
   have h2:=zaF n (f:=fun j=>if decide (j + 1 = i + 1) then f (j + 1) else 0) (g:=fun j=>if decide (j = i) then f (j + 1) else 0) fun j _=>by simp
   simp only [smN]
   rw [h2,h]
   simp
theorem MM.diag (h : MM n A) : ∀ i,i < n → 0 ≤ A i i:=fun i hi=>by
 have h1:=h.non (fun j=>decide (j = i)) i hi (by simp)
 unfold inR at h1
 rw [zdG n (fun j=>A i j) i hi] at h1
 exact h1
theorem zeQ : ∀ (n : Nat) {f : Nat → Int},(∀ i,i < n → 0 ≤ f i) → 0 ≤ zde n f
 | 0,_,_=>by show (0 : Int) ≤ 1; decide
 | n + 1,f,h=>Int.mul_nonneg (h 0 (by omega)) (zeQ n fun i hi=>h (i + 1) (by omega))
theorem ziM : ∀ (n : Nat) {f g : Nat → Int},(∀ i,i < n → 0 ≤ f i ∧ f i ≤ g i) → zde n f ≤ zde n g
 | 0,_,_,_=>Int.le_refl _
 | n + 1,f,g,h=>by
   have h0:=h 0 (by omega)
   have h1:=ziM n (f:=fun i=>f (i + 1)) (g:=fun i=>g (i + 1)) fun i hi=>h (i + 1) (by omega)
   have h2:=zeQ n (f:=fun i=>f (i + 1)) fun i hi=>(h (i + 1) (by omega)).1
   exact Int.mul_le_mul h0.2 h1 h2 (by omega)
theorem zh2 (a : Int) : ∀ (n : Nat) (f : Nat → Int),zde n (fun i=>a * f i) = a ^ n * zde n f
 | 0,_=>by simp [zde]
 | n + 1,f=>by
   simp only [zde]
   rw [zh2 a n]
   grind
theorem zjs : ∀ (n : Nat) {A : Mat},MM n A → detM n A ≤ zde n fun i=>A i i
 | 0,_,_=>Int.le_refl _
 | n + 1,A,h=>by
   have h0:=h.pos
   have h1:=zjs n h.chio
   have h2:=zdK n A
   have h3 : 0 < A 0 0 ^ n:=Int.pow_pos h0
   have hd:=h.chio.diag
   have hm : (zde n fun i=>Go.Proofs.Ytfdbhehkkobfgaa.chio A i i) ≤ zde n fun i=>A 0 0 * A (i + 1) (i + 1):=ziM n fun i hi=>by
    refine ⟨hd i hi,?_⟩
    have h4:=h.off 0 (i + 1) (by omega) (by omega) (by omega)
    have h5:=h.off (i + 1) 0 (by omega) (by omega) (by omega)
    have h6:=Int.mul_nonneg_of_nonpos_of_nonpos h4 h5
    unfold Go.Proofs.Ytfdbhehkkobfgaa.chio
    omega
   rw [zh2 (A 0 0) n fun i=>A (i + 1) (i + 1)] at hm
   have h7 : A 0 0 ^ n * detM (n + 1) A ≤ A 0 0 ^ n * (A 0 0 * zde n fun i=>A (i + 1) (i + 1)):=by
    rw [h2]
    have h8:=Int.mul_le_mul_of_nonneg_left (Int.le_trans h1 hm) (Int.le_of_lt h0)
    grind
   exact Int.le_of_mul_le_mul_left h7 h3
end
def Cg (p x y : Int) : Prop:=p ∣ x - y
section
variable {p x y z u v : Int}
theorem Cg.refl (x : Int) : Cg p x x:=by unfold Cg; rw [Int.sub_self]; exact Int.dvd_zero p
theorem Cg.symm (h : Cg p x y) : Cg p y x:=by
 unfold Cg at *
 obtain ⟨k,hk⟩:=h
 exact ⟨-k,by grind⟩
theorem Cg.trans (h : Cg p x y) (h2 : Cg p y z) : Cg p x z:=by
 unfold Cg at *
 obtain ⟨k,hk⟩:=h
 obtain ⟨l,hl⟩:=h2
 exact ⟨k + l,by grind⟩
theorem Cg.add (h : Cg p x y) (h2 : Cg p u v) : Cg p (x + u) (y + v):=by
 unfold Cg at *
 obtain ⟨k,hk⟩:=h
 obtain ⟨l,hl⟩:=h2
 exact ⟨k + l,by grind⟩
theorem Cg.sub (h : Cg p x y) (h2 : Cg p u v) : Cg p (x - u) (y - v):=by
 unfold Cg at *
 obtain ⟨k,hk⟩:=h
 obtain ⟨l,hl⟩:=h2
 exact ⟨k - l,by grind⟩
theorem Cg.mul (h : Cg p x y) (h2 : Cg p u v) : Cg p (x * u) (y * v):=by
 unfold Cg at *
 obtain ⟨k,hk⟩:=h
 obtain ⟨l,hl⟩:=h2
 exact ⟨k * u + y * l,by grind⟩
theorem Cg.pow (h : Cg p x y) : ∀ n : Nat,Cg p (x ^ n) (y ^ n)
 | 0=>by rw [Int.pow_zero,Int.pow_zero]; exact .refl 1
 | n + 1=>by rw [Int.pow_succ,Int.pow_succ]; exact (h.pow n).mul h
theorem Cg.emod (x : Int) : Cg p (x % p) x:=by
 unfold Cg
 exact ⟨- (x / p),by have:=Int.mul_ediv_add_emod x p; grind⟩
theorem Cg.eq (h : Cg p x y) (hx : 0 ≤ x) (hxp : x < p) (hy : 0 ≤ y) (hyp : y < p) : x = y:=by
 unfold Cg at h
 have h1:=(Int.emod_emod_of_dvd x (Int.dvd_refl p))
 have h2 : x % p = y % p:=Int.emod_eq_emod_iff_emod_sub_eq_zero.2 (Int.emod_eq_zero_of_dvd h)
 rwa [Int.emod_eq_of_lt hx hxp,Int.emod_eq_of_lt hy hyp] at h2
end
section
variable {p : Int} {F G : List Vec → Int} {f g : Nat → Vec} {r : Nat}
theorem zkY (hF : ∀ l : List Nat,Cg p (F (l.map f)) (G (l.map g))) (hfg : ∀ j i,Cg p (f j i) (g j i)) : ∀ rest pre : List Nat,Cg p (lapS F r (pre.map f) (rest.map f)) (lapS G r (pre.map g) (rest.map g))
 | [],_=>.refl 0
 | c :: rest,pre=>by
   have h1:=zkY hF hfg rest (pre ++ [c])
   have h2:=hF (pre ++ rest)
   simp only [List.map_append,List.map_cons,List.map_nil] at h1 h2
   simp only [lapS,List.map_cons,List.length_map]
   exact (((Cg.refl _).mul (hfg c r)).mul h2).add h1
theorem zkk (hfg : ∀ j i,Cg p (f j i) (g j i)) : ∀ (n r : Nat) (l : List Nat),Cg p (detC n r (l.map f)) (detC n r (l.map g))
 | 0,_,_=>.refl 1
 | n + 1,r,l=>by
   have:=zkY (r:=r) (zkk hfg n (r + 1)) hfg l []
   simpa only [detC,List.map_nil] using this
theorem zi2 (a : Int) {n : Nat} (hF : ∀ l : List Nat,l.length = n → F (l.map fun j=>fun i=>a * f j i) = a ^ n * F (l.map f)) : ∀ rest pre : List Nat,pre.length + rest.length = n + 1 →
  lapS F r (pre.map fun j=>fun i=>a * f j i) (rest.map fun j=>fun i=>a * f j i) = a ^ (n + 1) * lapS F r (pre.map f) (rest.map f)
 | [],_,_=>by simp [lapS]
 | c :: rest,pre,h=>by
   simp only [List.length_cons] at h
   have h1:=zi2 a hF rest (pre ++ [c]) (by simp; omega)
   have h2:=hF (pre ++ rest) (by simp; omega)
   simp only [List.map_append,List.map_cons,List.map_nil] at h1 h2
   simp only [lapS,List.map_cons,List.length_map]
   rw [h1,h2]
   grind
theorem ziB (a : Int) : ∀ (n r : Nat) (l : List Nat),l.length = n → detC n r (l.map fun j=>fun i=>a * f j i) = a ^ n * detC n r (l.map f)
 | 0,_,_,_=>by simp [detC]
 | n + 1,r,l,h=>by
   have:=zi2 (r:=r) a (ziB a n (r + 1)) l [] (by simpa using h)
   simpa only [detC,List.map_nil] using this
end
theorem zll {p : Int} {A B : Mat} (h : ∀ i j,Cg p (A i j) (B i j)) (n : Nat) : Cg p (detM n A) (detM n B) :=
 zkk (f:=fun j=>fun i=>A i j) (g:=fun j=>fun i=>B i j) (fun j i=>h i j) n 0 (List.range n)
theorem ziL (a : Int) (n : Nat) (A : Mat) : detM n (fun i j=>a * A i j) = a ^ n * detM n A :=
 ziB (f:=fun j=>fun i=>A i j) a n 0 (List.range n) (by simp)
theorem zje (A : Mat) : detM 1 A = A 0 0:=by
 simp [detM,detC,lapS,List.range_succ,sg]
theorem zn8 (A : Mat) : detM 0 A = 1:=rfl
theorem zpx {p inv : Int} {B S : Mat} (hi : Cg p (B 0 0 * inv) 1) (hS : ∀ i j,Cg p (S i j) (B (i + 1) (j + 1) - B (i + 1) 0 * inv * B 0 (j + 1))) (m : Nat) : Cg p (detM (m + 1) B) (B 0 0 * detM m S):=by
 have h1 : ∀ i j,Cg p (chio B i j) (B 0 0 * S i j):=fun i j=>by
  have e1:=(Cg.refl (p:=p) (B 0 0)).mul (hS i j)
  refine Cg.trans ?_ e1.symm
  unfold chio
  have e2 : Cg p (B (i + 1) 0 * (B 0 0 * inv) * B 0 (j + 1)) (B (i + 1) 0 * 1 * B 0 (j + 1)):=((Cg.refl _).mul hi).mul (Cg.refl _)
  have e3:=(Cg.refl (p:=p) (B 0 0 * B (i + 1) (j + 1))).sub e2.symm
  have e4 : B 0 0 * B (i + 1) (j + 1) - B (i + 1) 0 * 1 * B 0 (j + 1) = B 0 0 * B (i + 1) (j + 1) - B 0 (j + 1) * B (i + 1) 0:=by grind
  have e5 : B 0 0 * B (i + 1) (j + 1) - B (i + 1) 0 * (B 0 0 * inv) * B 0 (j + 1) = B 0 0 * (B (i + 1) (j + 1) - B (i + 1) 0 * inv * B 0 (j + 1)):=by grind
  rwa [e4,e5] at e3
 have h2:=zll h1 m
 rw [ziL] at h2
 have h3:=zdK m B
 have h4:=(Cg.refl (p:=p) (B 0 0)).mul h2
 rw [← h3] at h4
 have h5:=(Cg.refl (p:=p) (inv ^ m)).mul h4
 have hp:=hi.pow m
 rw [Int.one_pow,Int.mul_pow] at hp
 have h6:=hp.mul (Cg.refl (p:=p) (detM (m + 1) B))
 have h7:=hp.mul (Cg.refl (p:=p) (B 0 0 * detM m S))
 have e1 : inv ^ m * (B 0 0 ^ m * detM (m + 1) B) = B 0 0 ^ m * inv ^ m * detM (m + 1) B:=by grind
 have e2 : inv ^ m * (B 0 0 * (B 0 0 ^ m * detM m S)) = B 0 0 ^ m * inv ^ m * (B 0 0 * detM m S):=by grind
 rw [e1,e2] at h5
 rw [Int.one_mul] at h6 h7
 exact (h6.symm.trans h5).trans h7
theorem zoW (S : Nat → Bool) : ∀ (n m : Nat) (f : Nat → Int),m ≤ n → (smN n fun j=>if (S j && decide (j < m)) then f j else 0) = smN m fun j=>if S j then f j else 0
 | n,0,f,_=>by
   have h:=zaF n (f:=fun j=>if (S j && decide (j < 0)) then f j else 0) (g:=fun _=>0) fun j _=>by simp
   rw [h,zgX]
   rfl
 | n + 1,m + 1,f,h=>by
   have h1:=zoW (fun j=>S (j + 1)) n m (fun j=>f (j + 1)) (by omega)
   have h2:=zaF n (f:=fun j=>if (S (j + 1) && decide (j + 1 < m + 1)) then f (j + 1) else 0) (g:=fun j=>if (S (j + 1) && decide (j < m)) then f (j + 1) else 0) fun j _=>by simp
   simp only [smN]
   rw [h2,h1]
   simp
theorem MM.lead {n m : Nat} {A : Mat} (h : MM n A) (hm : m ≤ n) : MM m A:=by
 have hin : ∀ (S : Nat → Bool) i,inR n A (fun j=>S j && decide (j < m)) i = inR m A S i:=fun S i=>zoW S n m (fun j=>A i j) hm
 refine ⟨fun i j hi hj hne=>h.off i j (by omega) (by omega) hne,fun S i hi hs=>?_,fun S hS=>?_⟩
 ·have:=h.non (fun j=>S j && decide (j < m)) i (by omega) (by simp [hs,hi])
  rwa [hin] at this
 ·obtain ⟨k,hk,hks⟩:=hS
  obtain ⟨i,hi,hs,hp⟩:=h.leak (fun j=>S j && decide (j < m)) ⟨k,by omega,by simp [hks,hk]⟩
  simp at hs
  rw [hin] at hp
  exact ⟨i,hs.2,hs.1,hp⟩
structure Elim (p : Int) (A : Mat) (k : Nat) (o : Int) (B : Mat) : Prop where
 det : ∀ m,Cg p (detM (k + m) A) (o * detM m B)
theorem Elim.start (p : Int) (A : Mat) : Elim p A 0 1 A:=⟨fun m=>by rw [Nat.zero_add,Int.one_mul]; exact .refl _⟩
theorem Elim.next {p inv o : Int} {A B S : Mat} {k : Nat} (h : Elim p A k o B) (hi : Cg p (B 0 0 * inv) 1) (hS : ∀ i j,Cg p (S i j) (B (i + 1) (j + 1) - B (i + 1) 0 * inv * B 0 (j + 1))) {o' : Int} (ho : Cg p o' (o * B 0 0)) : Elim p A (k + 1) o' S:=⟨fun m=>by
 have h1:=h.det (m + 1)
 rw [show k + 1 + m = k + (m + 1) by omega]
 refine h1.trans ?_
 have h2:=(Cg.refl (p:=p) o).mul (zpx hi hS m)
 have h3:=ho.mul (Cg.refl (p:=p) (detM m S))
 rw [show o * (B 0 0 * detM m S) = o * B 0 0 * detM m S by grind] at h2
 exact h2.trans h3.symm⟩
theorem Elim.piv {p o : Int} {A B : Mat} {k n : Nat} (h : Elim p A k o B) (hA : MM n A) (hk : k < n) (hp : (zde (k + 1) fun i=>A i i) < p) : ¬ Cg p (B 0 0) 0:=fun hz=>by
 have h1:=h.det 1
 rw [zje] at h1
 have h2:=h1.trans ((Cg.refl o).mul hz)
 rw [Int.mul_zero] at h2
 have h3:=zgY (k + 1) (hA.lead (by omega))
 have h4:=zjs (k + 1) (hA.lead (by omega))
 have h5:=h2.eq (by omega) (by omega) (Int.le_refl 0) (by omega)
 omega
theorem Elim.done {p o : Int} {A B : Mat} {n : Nat} (h : Elim p A n o B) (hA : MM n A) (hp : (zde n fun i=>A i i) < p) (ho : 0 ≤ o) (hop : o < p) : o = detM n A:=by
 have h1:=h.det 0
 rw [zn8,Int.mul_one,Nat.add_zero] at h1
 have h3:=zgY n hA
 have h4:=zjs n hA
 exact (h1.eq (by omega) (by omega) ho hop).symm
def Prm (q : Nat) : Prop:=1 < q ∧ ∀ d,d ∣ q → d = 1 ∨ d = q
theorem Prm.cop {q a : Nat} (h : Prm q) (ha : ¬ q ∣ a) : Nat.Coprime q a:=by
 rcases h.2 (Nat.gcd q a) (Nat.gcd_dvd_left q a) with h1 | h1
 ·exact h1
 ·exact absurd (h1 ▸ Nat.gcd_dvd_right q a) ha
theorem Prm.euclid {q a b : Nat} (h : Prm q) (hd : q ∣ a * b) : q ∣ a ∨ q ∣ b:=by
 by_cases ha : q ∣ a
 ·exact .inl ha
 ·exact .inr ((h.cop ha).dvd_of_dvd_mul_left hd)
theorem zlp {q x y : Nat} (h : y % q = x % q) : q ∣ y - x:=Nat.dvd_of_mod_eq_zero (Nat.sub_mod_eq_zero_of_mod_eq h)
theorem zrF {q x y : Nat} (hxy : x ≤ y) (h : q ∣ y - x) : y % q = x % q:=by
 obtain ⟨t,ht⟩:=h
 rw [show y = x + q * t by omega,Nat.add_mul_mod_self_left]
theorem zhK : ∀ {a b : List Nat},a.Nodup → (∀ x ∈ a,x ∈ b) → a.length = b.length → a.Perm b
 | [],b,_,_,hl=>by
   have : b = []:=List.length_eq_zero_iff.1 hl.symm
   rw [this]
 | x :: a,b,hn,hs,hl=>by
   have hx:=hs x (by simp)
   have h1:=List.perm_cons_erase hx
   rw [List.nodup_cons] at hn
   have h2 : a.Perm (b.erase x):=by
    refine zhK hn.2 (fun y hy=>?_) ?_
    ·have hne : y ≠ x:=fun h=>hn.1 (h ▸ hy)
     exact (List.mem_erase_of_ne hne).2 (hs y (by simp [hy]))
    ·rw [List.length_erase_of_mem hx]
     simp only [List.length_cons] at hl
     omega
   exact (h2.cons x).trans h1.symm
def mulL : List Nat → Nat
 | []=>1
 | x :: l=>x * mulL l
theorem zoU {a b : List Nat} (h : a.Perm b) : mulL a = mulL b:=by
 induction h with
 | nil=>rfl
 | cons x _ ih=>simp only [mulL]; rw [ih]
 | swap x y l=>simp only [mulL]; grind
 | trans _ _ ih1 ih2=>exact ih1.trans ih2
theorem zmH (q a : Nat) : ∀ l : List Nat,mulL (l.map fun x=>a * x % q) % q = a ^ l.length * mulL l % q
 | []=>by simp [mulL]
 | x :: l=>by
   have h:=zmH q a l
   simp only [List.map_cons,mulL,List.length_cons]
   rw [Nat.mul_mod,h,Nat.mod_mod,← Nat.mul_mod]
   congr 1
   grind
theorem zmQ {q : Nat} (h : Prm q) : ∀ l : List Nat,q ∣ mulL l → ∃ x ∈ l,q ∣ x
 | [],hd=>by
   have:=Nat.le_of_dvd (by decide) hd
   have:=h.1
   simp only [mulL] at *
   omega
 | x :: l,hd=>by
   rcases h.euclid hd with h1 | h1
   ·exact ⟨x,by simp,h1⟩
   ·obtain ⟨y,hy,h2⟩:=zmQ h l h1
    exact ⟨y,by simp [hy],h2⟩
theorem zro {q a : Nat} (h : Prm q) (ha : ¬ q ∣ a) : a ^ (q - 1) % q = 1:=by
 have h1:=h.1
 let l:=List.range' 1 (q - 1)
 have hlen : l.length = q - 1:=by simp [l]
 have hml : ∀ x ∈ l,1 ≤ x ∧ x < q:=fun x hx=>by
  have:=List.mem_range'_1.1 hx
  omega
 have hnod : l.Nodup:=List.nodup_range'
 have hcop:=h.cop ha
 have hp : (l.map fun x=>a * x % q).Perm l:=by
  refine zhK ?_ (fun y hy=>?_) (by simp)
  ·rw [List.Nodup,List.pairwise_map]
   refine hnod.imp_of_mem fun {x y} hx hy hne he=>hne ?_
   have hx':=hml x hx
   have hy':=hml y hy
   have key : ∀ x y : Nat,x ≤ y → y < q → a * x % q = a * y % q → x = y:=fun x y hxy hyq he=>by
    have h2 : q ∣ a * y - a * x:=zlp he.symm
    rw [← Nat.mul_sub] at h2
    have h3 : q ∣ y - x:=hcop.dvd_of_dvd_mul_left h2
    rcases Nat.eq_zero_or_pos (y - x) with h4 | h4
    ·omega
    ·have:=Nat.le_of_dvd h4 h3
     omega
   rcases Nat.le_total x y with h5 | h5
   ·exact key x y h5 hy'.2 he
   ·exact (key y x h5 hx'.2 he.symm).symm
  ·obtain ⟨x,hx,rfl⟩:=List.mem_map.1 hy
   have hx':=hml x hx
   refine List.mem_range'_1.2 ?_
   have h3 : a * x % q < q:=Nat.mod_lt _ (by omega)
   have h4 : a * x % q ≠ 0:=fun h0=>by
    have h5:=Nat.dvd_of_mod_eq_zero h0
    have h6:=hcop.dvd_of_dvd_mul_left h5
    have:=Nat.le_of_dvd (by omega) h6
    omega
   omega
 have h2:=zmH q a l
 rw [zoU hp,hlen] at h2
 have hnd : ¬ q ∣ mulL l:=fun hd=>by
  obtain ⟨x,hx,h3⟩:=zmQ h l hd
  have h4:=hml x hx
  have:=Nat.le_of_dvd (by omega) h3
  omega
 have hpos : 1 ≤ a ^ (q - 1):=Nat.pow_pos (Nat.pos_of_ne_zero fun h0=>ha (h0 ▸ Nat.dvd_zero q))
 have h3 : q ∣ a ^ (q - 1) * mulL l - 1 * mulL l:=by
  refine zlp ?_
  rw [Nat.one_mul]
  exact h2.symm
 rw [← Nat.sub_mul] at h3
 have h4:=(h.cop hnd).dvd_of_dvd_mul_right h3
 rw [zrF hpos h4,Nat.mod_eq_of_lt h1]
theorem znP : ∀ (n : Nat),1 < n → ∃ q,Prm q ∧ q ∣ n:=by
 intro n
 induction n using Nat.strongRecOn with
 | _ n ih =>
   intro hn
   by_cases h : Prm n
   ·exact ⟨n,h,Nat.dvd_refl n⟩
   ·have : ∃ d,d ∣ n ∧ d ≠ 1 ∧ d ≠ n:=Classical.byContradiction fun hc=>h ⟨hn,fun d hd=>by
     by_cases h1 : d = 1
     ·exact .inl h1
     ·by_cases h2 : d = n
      ·exact .inr h2
      ·exact absurd ⟨d,hd,h1,h2⟩ hc⟩
    obtain ⟨d,hd,h1,h2⟩:=this
    have h3:=Nat.le_of_dvd (by omega) hd
    have h4 : d ≠ 0:=fun h0=>by subst h0; have:=Nat.eq_zero_of_zero_dvd hd; omega
    obtain ⟨q,hq,h5⟩:=ih d (by omega) (by omega)
    exact ⟨q,hq,Nat.dvd_trans h5 hd⟩
def P61 : Nat:=2305843009213693951
def powm (m : Nat) : Nat → Nat → Nat → Nat → Nat
 | 0,_,_,acc=>acc
 | f + 1,a,n,acc=>powm m f (a * a % m) (n / 2) (if n % 2 = 1 then acc * a % m else acc)
theorem znW (m : Nat) : ∀ (f a n acc : Nat),n < 2 ^ f → powm m f a n acc % m = acc * a ^ n % m
 | 0,a,n,acc,h=>by
   have : n = 0:=by simpa using h
   subst this
   simp [powm]
 | f + 1,a,n,acc,h=>by
   have h1:=znW m f (a * a % m) (n / 2) (if n % 2 = 1 then acc * a % m else acc) (by rw [Nat.pow_succ] at h; omega)
   simp only [powm]
   rw [h1]
   have h2 : (a * a % m) ^ (n / 2) % m = (a * a) ^ (n / 2) % m:=(Nat.pow_mod _ _ _).symm
   have h3 : (a * a) ^ (n / 2) = a ^ (2 * (n / 2)):=by rw [Nat.pow_mul,Nat.pow_two]
   rw [Nat.mul_mod,h2,h3]
   split
   ·rename_i h4
    rw [Nat.mod_mod,← Nat.mul_mod,Nat.mul_assoc,Nat.mul_comm a,← Nat.pow_succ]
    congr 3
    omega
   ·rename_i h4
    rw [← Nat.mul_mod]
    congr 3
    omega
theorem zrN {q h : Nat} (hq : 1 < q) (m n : Nat) : h ^ m % q = 1 → h ^ n % q = 1 → h ^ Nat.gcd m n % q = 1:=by
 induction m,n using Nat.gcd.induction with
 | H0 n=>intro _ h2; simpa using h2
 | H1 m n hm ih =>
   intro h1 h2
   rw [Nat.gcd_rec]
   refine ih ?_ h1
   have e : h ^ n = (h ^ m) ^ (n / m) * h ^ (n % m):=by
    rw [← Nat.pow_mul,← Nat.pow_add,Nat.div_add_mod]
   rw [e,Nat.mul_mod,Nat.pow_mod,h1,Nat.one_pow,Nat.mod_eq_of_lt hq,Nat.one_mul,Nat.mod_mod] at h2
   exact h2
theorem zj7 {q r h u : Nat} (hq : Prm q) (hr : Prm r) (hd : q ∣ P61) (hr2 : r < 2 ^ 11) (hp : powm P61 11 h r 1 % P61 = 1) (h2 : (h - 1) * u % P61 = 1) : r ∣ q - 1:=Classical.byContradiction fun hn=>by
 have hq1:=hq.1
 have h1 : h ^ r % P61 = 1:=by
  rw [znW P61 11 h r 1 hr2,Nat.one_mul] at hp
  exact hp
 have hmod : ∀ x,x % P61 = 1 → x % q = 1:=fun x hx=>by
  rw [← Nat.mod_mod_of_dvd x hd,hx,Nat.mod_eq_of_lt hq1]
 have e1:=hmod _ h1
 have hqh : ¬ q ∣ h:=fun hdv=>by
  obtain ⟨k,hk⟩ : ∃ k,r = k + 1:=⟨r - 1,by have:=hr.1; omega⟩
  have : q ∣ h ^ r:=by rw [hk,Nat.pow_succ]; exact Nat.dvd_trans hdv (Nat.dvd_mul_left h (h ^ k))
  rw [Nat.mod_eq_zero_of_dvd this] at e1
  omega
 have e2:=zro hq hqh
 have hc : Nat.gcd r (q - 1) = 1:=hr.cop hn
 have e3:=zrN hq1 r (q - 1) e1 e2
 rw [hc,Nat.pow_one] at e3
 have e4:=hmod _ h2
 have e5 : q ∣ h - 1:=zlp (by rw [e3,Nat.mod_eq_of_lt hq1])
 have e6 : q ∣ (h - 1) * u:=Nat.dvd_trans e5 (Nat.dvd_mul_right _ _)
 rw [Nat.mod_eq_zero_of_dvd e6] at e4
 omega
theorem zjk {r : Nat} (h1 : 1 < r) (h : ∀ d,d < r → d ≤ 1 ∨ ¬ d ∣ r) : Prm r:=⟨h1,fun d hd=>by
 have h2:=Nat.le_of_dvd (by omega) hd
 by_cases h3 : d = r
 ·exact .inr h3
 ·rcases h d (by omega) with h4 | h4
  ·have : d ≠ 0:=fun h0=>by subst h0; have:=Nat.eq_zero_of_zero_dvd hd; omega
   exact .inl (by omega)
  ·exact absurd hd h4⟩
def zrx (r : Nat) : Nat → Bool
 | 0=>true
 | d + 1=>(d ≤ 1 || r % d != 0) && zrx r d
theorem zfo {r : Nat} : ∀ n,zrx r n = true → ∀ d,d < n → d ≤ 1 ∨ ¬ d ∣ r
 | n + 1,h,d,hd=>by
   simp only [zrx,Bool.and_eq_true,Bool.or_eq_true,decide_eq_true_eq] at h
   by_cases he : d = n
   ·subst he
    rcases h.1 with h1 | h1
    ·exact .inl h1
    ·exact .inr fun hdv=>by simp [Nat.mod_eq_zero_of_dvd hdv] at h1
   ·exact zfo n h.2 d (by omega)
theorem zsj {q : Nat} (hq : Prm q) (hd : q ∣ P61) : 1321 ∣ q - 1:=by
 exact zj7 (h:=30210013857155493) (u:=2165998172066445805) hq (zjk (by decide) (zfo 1321 (by decide +kernel))) hd (by decide) (by decide +kernel) (by decide +kernel)
theorem zs6 {q : Nat} (hq : Prm q) (hd : q ∣ P61) : 331 ∣ q - 1:=by
 exact zj7 (h:=185945230422323302) (u:=1960352316127796739) hq (zjk (by decide) (zfo 331 (by decide +kernel))) hd (by decide) (by decide +kernel) (by decide +kernel)
theorem zsG {q : Nat} (hq : Prm q) (hd : q ∣ P61) : 151 ∣ q - 1:=by
 exact zj7 (h:=1433721343585656393) (u:=68233547637592170) hq (zjk (by decide) (zfo 151 (by decide +kernel))) hd (by decide) (by decide +kernel) (by decide +kernel)
theorem zt4 {q : Nat} (hq : Prm q) (hd : q ∣ P61) : 61 ∣ q - 1:=by
 exact zj7 (h:=35184372088832) (u:=329365932848850065) hq (zjk (by decide) (zfo 61 (by decide +kernel))) hd (by decide) (by decide +kernel) (by decide +kernel)
theorem znT {P : Nat} (hP : 1 < P) (key : ∀ m,1 < m → m ∣ P → P < m * m) : Prm P:=⟨hP,fun d hd=>Classical.byContradiction fun hc=>by
 have hc1 : d ≠ 1:=fun h=>hc (.inl h)
 have hc2 : d ≠ P:=fun h=>hc (.inr h)
 obtain ⟨e,he⟩:=hd
 have hd0 : d ≠ 0:=fun h=>by rw [h,Nat.zero_mul] at he; omega
 have he0 : e ≠ 0:=fun h=>by rw [h,Nat.mul_zero] at he; omega
 have he1 : e ≠ 1:=fun h=>by rw [h,Nat.mul_one] at he; exact hc2 he.symm
 have k1:=key d (by omega) ⟨e,he⟩
 have k2:=key e (by omega) ⟨d,by rw [Nat.mul_comm]; exact he⟩
 rcases Nat.le_total d e with h | h
 ·have:=Nat.mul_le_mul_left d h
  omega
 ·have:=Nat.mul_le_mul_right e h
  omega⟩
theorem zuh {q : Nat} (hq1 : 1 < q) (h1 : 1321 ∣ q - 1) (h2 : 331 ∣ q - 1) (h3 : 151 ∣ q - 1) (h4 : 61 ∣ q - 1) : 4027518961 ≤ q - 1:=by
 have h5 : 1321 * 331 ∣ q - 1:=Nat.Coprime.mul_dvd_of_dvd_of_dvd (by decide +kernel : Nat.Coprime 1321 331) h1 h2
 have h6 : 1321 * 331 * 151 ∣ q - 1:=Nat.Coprime.mul_dvd_of_dvd_of_dvd (by decide +kernel : Nat.Coprime (1321 * 331) 151) h5 h3
 have h7 : 1321 * 331 * 151 * 61 ∣ q - 1:=Nat.Coprime.mul_dvd_of_dvd_of_dvd (by decide +kernel : Nat.Coprime (1321 * 331 * 151) 61) h6 h4
 have h0 : 0 < q - 1:=Nat.sub_pos_of_lt hq1
 exact Nat.le_of_dvd h0 h7
theorem zug {m : Nat} (h : 4027518961 ≤ m) : P61 < m * m:=Nat.lt_of_lt_of_le (by decide +kernel : P61 < 4027518961 * 4027518961) (Nat.mul_le_mul h h)
theorem zup (m : Nat) (hm : 1 < m) (hmd : m ∣ P61) : P61 < m * m:=by
 obtain ⟨q,hq,hqm⟩:=znP m hm
 have hqd:=Nat.dvd_trans hqm hmd
 have h8:=zuh hq.1 (zsj hq hqd) (zs6 hq hqd) (zsG hq hqd) (zt4 hq hqd)
 have h9 : q ≤ m:=Nat.le_of_dvd (Nat.lt_trans Nat.zero_lt_one hm) hqm
 exact zug (Nat.le_trans h8 (Nat.le_trans (Nat.sub_le q 1) h9))
theorem zt5 : Prm P61:=znT (by decide +kernel) zup
theorem zt8 {a : Nat} (h0 : 0 < a) (h : a < P61) : a * a ^ (P61 - 2) % P61 = 1:=by
 have h1:=zro zt5 (a:=a) fun hd=>by
  have:=Nat.le_of_dvd h0 hd
  omega
 rw [Nat.mul_comm,← Nat.pow_succ]
 exact h1
def skp (r j : Nat) : Nat:=if j < r then j else j + 1
theorem zs4 (r j : Nat) : skp r j ≠ r:=by unfold skp; split <;> omega
theorem zrE {r i j : Nat} (h : skp r i = skp r j) : i = j:=by unfold skp at h; split at h <;> split at h <;> omega
theorem zec {r j N : Nat} (hr : r < N + 1) (hj : j < N) : skp r j < N + 1:=by unfold skp; split <;> omega
theorem zpv {r k N : Nat} (hk : k < N + 1) (hne : k ≠ r) (hr : r < N + 1) : ∃ j,j < N ∧ skp r j = k:=by
 rcases Nat.lt_or_ge k r with h | h
 ·exact ⟨k,by omega,by unfold skp; rw [if_pos h]⟩
 ·exact ⟨k - 1,by omega,by unfold skp; rw [if_neg (by omega)]; omega⟩
theorem zlM : ∀ (n : Nat) (f g : Nat → Int),smN n (fun j=>f j + g j) = smN n f + smN n g
 | 0,_,_=>rfl
 | n + 1,f,g=>by
   simp only [smN]
   rw [zlM n]
   omega
theorem zeV : ∀ (n : Nat) {f : Nat → Int},(∀ i,i < n → 0 ≤ f i) → 0 ≤ smN n f
 | 0,_,_=>Int.le_refl _
 | n + 1,f,h=>by
   simp only [smN]
   have h1:=h 0 (by omega)
   have h2:=zeV n (f:=fun i=>f (i + 1)) fun i hi=>h (i + 1) (by omega)
   omega
theorem zoN : ∀ (n : Nat) {f : Nat → Int},(∀ i,i < n → 0 ≤ f i) → (∃ i,i < n ∧ 0 < f i) → 0 < smN n f
 | 0,_,_,h=>by obtain ⟨i,hi,_⟩:=h; omega
 | n + 1,f,h,he=>by
   simp only [smN]
   have h1:=h 0 (by omega)
   have h2:=zeV n (f:=fun i=>f (i + 1)) fun i hi=>h (i + 1) (by omega)
   obtain ⟨i,hi,hp⟩:=he
   cases i with
   | zero=>omega
   | succ i =>
     have h3:=zoN n (f:=fun i=>f (i + 1)) (fun i hi=>h (i + 1) (by omega)) ⟨i,by omega,hp⟩
     omega
theorem zoB : ∀ (N r : Nat) (f : Nat → Int),r < N + 1 → smN (N + 1) f = f r + smN N fun j=>f (skp r j)
 | N,0,f,_=>by
   have:=zaF N (f:=fun j=>f (skp 0 j)) (g:=fun j=>f (j + 1)) fun j _=>by simp [skp]
   rw [this]
   rfl
 | 0,r + 1,f,h=>by omega
 | N + 1,r + 1,f,h=>by
   have h1:=zoB N r (fun j=>f (j + 1)) (by omega)
   have h2 : smN (N + 1) (fun j=>f (skp (r + 1) j)) = f 0 + smN N fun j=>f (skp r j + 1):=by
    simp only [smN]
    congr 1
    refine zaF N fun j _=>?_
    congr 1
    unfold skp
    split <;> split <;> omega
   rw [h2]
   show f 0 + smN (N + 1) (fun j=>f (j + 1)) = _
   rw [h1]
   omega
def redM (W : Mat) (N r : Nat) : Mat:=fun i j=>if i = j then smN (N + 1) (W (skp r i)) - W (skp r i) (skp r i) else - W (skp r i) (skp r j)
structure Walk (W : Mat) (N r : Nat) : Prop where
 root : r < N + 1
 non : ∀ i j,i < N + 1 → j < N + 1 → 0 ≤ W i j
 out : ∀ S : Nat → Bool,S r = false → (∃ i,i < N + 1 ∧ S i = true) → ∃ i j,i < N + 1 ∧ j < N + 1 ∧ S i = true ∧ S j = false ∧ 0 < W i j
section
variable {W : Mat} {N r : Nat}
theorem zoV (hr : r < N + 1) (S : Nat → Bool) {i : Nat} (hi : i < N) (hs : S i = true) : inR N (redM W N r) S i = W (skp r i) r + smN N fun j=>if S j then 0 else W (skp r i) (skp r j):=by
 have h1:=zoB N r (W (skp r i)) hr
 have h2:=zdG N (fun _=>smN (N + 1) (W (skp r i))) i hi
 have h3 : inR N (redM W N r) S i = smN N fun j=>(if decide (j = i) then smN (N + 1) (W (skp r i)) else 0) + (if S j then - W (skp r i) (skp r j) else 0):=by
  unfold inR
  refine zaF N fun j _=>?_
  unfold redM
  by_cases hj : j = i
  ·subst hj
   simp [hs]
   omega
  ·have hj' : ¬ i = j:=fun h=>hj h.symm
   cases hsj : S j <;> simp [hj,hj']
 rw [h3,zlM,h2,h1,Int.add_assoc,← zlM]
 congr 1
 refine zaF N fun j _=>?_
 cases S j <;> simp <;> omega
theorem zj9 (h : Walk W N r) : MM N (redM W N r):=by
 have hr:=h.root
 refine ⟨fun i j hi hj hne=>?_,fun S i hi hs=>?_,fun S hS=>?_⟩
 ·have:=h.non (skp r i) (skp r j) (zec hr hi) (zec hr hj)
  unfold redM
  rw [if_neg hne]
  omega
 ·rw [zoV hr S hi hs]
  have h1:=h.non (skp r i) r (zec hr hi) hr
  have h2:=zeV N (f:=fun j=>if S j then 0 else W (skp r i) (skp r j)) fun j hj=>by
   have:=h.non (skp r i) (skp r j) (zec hr hi) (zec hr hj)
   split <;> omega
  omega
 ·obtain ⟨k,hk,hks⟩:=hS
  let T : Nat → Bool:=fun x=>decide (x ≠ r) && S (if x < r then x else x - 1)
  have hT : ∀ j,T (skp r j) = S j:=fun j=>by
   have h1:=zs4 r j
   have e : (if skp r j < r then skp r j else skp r j - 1) = j:=by
    by_cases hj : j < r
    ·have e1 : skp r j = j:=by unfold skp; rw [if_pos hj]
     rw [e1,if_pos hj]
    ·have e1 : skp r j = j + 1:=by unfold skp; rw [if_neg hj]
     have e2 : ¬ j + 1 < r:=by omega
     rw [e1,if_neg e2,Nat.add_sub_cancel]
   show (decide (skp r j ≠ r) && S (if skp r j < r then skp r j else skp r j - 1)) = S j
   rw [e,decide_eq_true h1,Bool.true_and]
  obtain ⟨i,j,hi,hj,hTi,hTj,hp⟩:=h.out T (by simp [T]) ⟨skp r k,zec hr hk,by rw [hT]; exact hks⟩
  have hir : i ≠ r:=fun he=>by subst he; simp [T] at hTi
  obtain ⟨a,ha,rfl⟩:=zpv hi hir hr
  rw [hT] at hTi
  refine ⟨a,ha,hTi,?_⟩
  rw [zoV hr S ha hTi]
  have h1:=h.non (skp r a) r (zec hr ha) hr
  have h0 : ∀ j,j < N → 0 ≤ (if S j then 0 else W (skp r a) (skp r j)):=fun j hj=>by
   have:=h.non (skp r a) (skp r j) (zec hr ha) (zec hr hj)
   split <;> omega
  have h2:=zeV N h0
  by_cases hjr : j = r
  ·subst hjr
   omega
  ·obtain ⟨b,hb,rfl⟩:=zpv hj hjr hr
   rw [hT] at hTj
   have h3:=zoN N h0 ⟨b,hb,by rw [hTj]; exact hp⟩
   omega
theorem zna (c : Int) (hc : 0 ≤ c) : ∀ (n : Nat) {f : Nat → Int},(∀ i,i < n → 0 ≤ f i ∧ f i ≤ c) → zde n f ≤ c ^ n
 | 0,_,_=>by simp [zde]
 | n + 1,f,h=>by
   have h0:=h 0 (by omega)
   have h1:=zna c hc n (f:=fun i=>f (i + 1)) fun i hi=>h (i + 1) (by omega)
   have h2:=zeQ n (f:=fun i=>f (i + 1)) fun i hi=>(h (i + 1) (by omega)).1
   simp only [zde]
   have h3:=Int.mul_le_mul h0.2 h1 h2 hc
   grind
theorem zkG (h : Walk W N r) {c : Int} (hc : ∀ i,i < N + 1 → smN (N + 1) (W i) ≤ c) (hc0 : 0 ≤ c) {k : Nat} (hk : k ≤ N) : (zde k fun i=>redM W N r i i) ≤ c ^ k:=by
 refine zna c hc0 k fun i hi=>?_
 have hm:=zj9 h
 have h1:=hm.diag i (by omega)
 refine ⟨h1,?_⟩
 have h2:=hc (skp r i) (zec h.root (by omega))
 have h3:=h.non (skp r i) (skp r i) (zec h.root (by omega)) (zec h.root (by omega))
 unfold redM
 rw [if_pos rfl]
 omega
end
def sw : Nat → Nat
 | 0=>1
 | 1=>0
 | i + 2=>i + 2
theorem zk8 (i : Nat) : sw (sw i) = i:=by
 match i with
 | 0=>rfl
 | 1=>rfl
 | i + 2=>rfl
theorem zkz {i n : Nat} (h : i < n + 2) : sw i < n + 2:=by
 match i with
 | 0=>simp [sw]
 | 1=>simp [sw]
 | i + 2=>exact h
def swM (A : Mat) : Mat:=fun i j=>A (sw i) (sw j)
theorem zpt (n : Nat) (f : Nat → Int) : smN (n + 2) (fun j=>f (sw j)) = smN (n + 2) f:=by
 show f 1 + (f 0 + smN n fun i=>f (i + 2)) = f 0 + (f 1 + smN n fun i=>f (i + 2))
 omega
def qM (A : Mat) : Mat:=fun i j=>(A 0 0 * A 1 1 - A 0 1 * A 1 0) * A (i + 2) (j + 2) - A 1 1 * A (i + 2) 0 * A 0 (j + 2) - A 0 0 * A (i + 2) 1 * A 1 (j + 2) + A 1 0 * A (i + 2) 1 * A 0 (j + 2) + A 0 1 * A (i + 2) 0 * A 1 (j + 2)
theorem zor (A : Mat) : chio (chio A) = fun i j=>A 0 0 * qM A i j:=by
 funext i j
 simp only [chio,qM]
 grind
theorem zul (A : Mat) : qM (swM A) = qM A:=by
 funext i j
 simp only [qM,swM,sw]
 grind
theorem zsP {n : Nat} {A : Mat} (h : MM (n + 2) A) : (chio A 0 0) ^ n * detM (n + 2) A = chio A 0 0 * detM n (qM A):=by
 have h0:=h.pos
 have h1:=zdK (n + 1) A
 have h2:=zdK n (chio A)
 rw [zor,ziL] at h2
 have h3 : 0 < A 0 0 ^ (n + 1):=Int.pow_pos h0
 have e : A 0 0 ^ (n + 1) * (chio A 0 0 ^ n * detM (n + 2) A) = A 0 0 ^ (n + 1) * (chio A 0 0 * detM n (qM A)):=by
  have e1 : A 0 0 ^ (n + 1) * (chio A 0 0 ^ n * detM (n + 2) A) = chio A 0 0 ^ n * (A 0 0 ^ (n + 1) * detM (n + 2) A):=by grind
  rw [e1,h1]
  have e2 : chio A 0 0 ^ n * (A 0 0 * detM (n + 1) (chio A)) = A 0 0 * (chio A 0 0 ^ n * detM (n + 1) (chio A)):=by grind
  rw [e2,h2,Int.pow_succ]
  grind
 exact Int.eq_of_mul_eq_mul_left (Int.ne_of_gt h3) e
theorem MM.sw {n : Nat} {A : Mat} (h : MM (n + 2) A) : MM (n + 2) (swM A):=by
 have hin : ∀ (S : Nat → Bool) i,inR (n + 2) (swM A) S i = inR (n + 2) A (fun j=>S (Go.Proofs.Ytfdbhehkkobfgaa.sw j)) (Go.Proofs.Ytfdbhehkkobfgaa.sw i):=fun S i=>by
  have:=zpt n (fun j=>if S (Go.Proofs.Ytfdbhehkkobfgaa.sw j) then A (Go.Proofs.Ytfdbhehkkobfgaa.sw i) j else 0)
  simp only [zk8] at this
  exact this
 refine ⟨fun i j hi hj hne=>h.off _ _ (zkz hi) (zkz hj) fun he=>hne (by have:=congrArg Go.Proofs.Ytfdbhehkkobfgaa.sw he; rwa [zk8,zk8] at this),fun S i hi hs=>?_,fun S hS=>?_⟩
 ·rw [hin]
  exact h.non _ _ (zkz hi) (by rw [zk8]; exact hs)
 ·obtain ⟨k,hk,hks⟩:=hS
  obtain ⟨i,hi,hs,hp⟩:=h.leak (fun j=>S (Go.Proofs.Ytfdbhehkkobfgaa.sw j)) ⟨Go.Proofs.Ytfdbhehkkobfgaa.sw k,zkz hk,by rw [zk8]; exact hks⟩
  refine ⟨Go.Proofs.Ytfdbhehkkobfgaa.sw i,zkz hi,hs,?_⟩
  rw [hin,zk8]
  exact hp
theorem ztt {n : Nat} {A : Mat} (h : MM (n + 2) A) : detM (n + 2) (swM A) = detM (n + 2) A:=by
 have h1:=zsP h
 have h2:=zsP h.sw
 have h3 : chio (swM A) 0 0 = chio A 0 0:=by
  simp only [chio,swM,Go.Proofs.Ytfdbhehkkobfgaa.sw]
  grind
 have h4:=h.chio.pos
 have h5 : 0 < chio A 0 0 ^ n:=Int.pow_pos h4
 rw [zul,h3,← h1] at h2
 exact Int.eq_of_mul_eq_mul_left (Int.ne_of_gt h5) h2
def del (L : Mat) (x : Nat) : Mat:=fun i j=>L (skp x i) (skp x j)
def trs (n : Nat) (L : Mat) (x : Nat) : Int:=detM n (del L x)
theorem zmU (L : Mat) (x : Nat) : chio (del L (x + 1)) = del (chio L) x:=by
 have h0 : skp (x + 1) 0 = 0:=by simp [skp]
 have h1 : ∀ i,skp (x + 1) (i + 1) = skp x i + 1:=fun i=>by
  unfold skp
  by_cases h : i < x
  ·rw [if_pos h,if_pos (by omega)]
  ·rw [if_neg h,if_neg (by omega)]
 funext i j
 simp only [chio,del,h0,h1]
structure Lp (n : Nat) (L : Mat) : Prop where
 off : ∀ i j,i < n + 1 → j < n + 1 → i ≠ j → L i j ≤ 0
 sum : ∀ i,i < n + 1 → smN (n + 1) (L i) = 0
 red : ∀ x,x < n + 1 → MM n (del L x)
def bal (n : Nat) (L : Mat) (y : Nat) : Int:=smN (n + 1) fun x=>trs n L x * L x y
section
variable {n : Nat} {L : Mat}
theorem Lp.pos (h : Lp (n + 1) L) : 0 < L 0 0:=(h.red 1 (by omega)).pos
theorem Lp.chio (h : Lp (n + 1) L) : Lp n (chio L):=by
 have h0:=h.pos
 refine ⟨fun i j hi hj hne=>?_,fun i hi=>?_,fun x hx=>?_⟩
 ·have h1:=h.off (i + 1) (j + 1) (by omega) (by omega) (by omega)
  have h2:=h.off 0 (j + 1) (by omega) (by omega) (by omega)
  have h3:=h.off (i + 1) 0 (by omega) (by omega) (by omega)
  have h4:=Int.mul_nonneg_of_nonpos_of_nonpos h2 h3
  have h5:=Int.mul_nonneg (Int.le_of_lt h0) (Int.neg_nonneg_of_nonpos h1)
  rw [Int.mul_neg] at h5
  unfold Go.Proofs.Ytfdbhehkkobfgaa.chio
  omega
 ·have h1:=h.sum (i + 1) (by omega)
  have h2:=h.sum 0 (by omega)
  have h3:=zd9 (L 0 0) (L (i + 1) 0) (n + 1) (fun j=>L (i + 1) (j + 1)) (fun j=>L 0 (j + 1))
  have h4:=zaF (n + 1) (f:=Go.Proofs.Ytfdbhehkkobfgaa.chio L i) (g:=fun j=>L 0 0 * L (i + 1) (j + 1) - L (i + 1) 0 * L 0 (j + 1)) fun j _=>by
   simp only [Go.Proofs.Ytfdbhehkkobfgaa.chio]
   grind
  rw [h4,h3]
  have e1 : L (i + 1) 0 + smN (n + 1) (fun j=>L (i + 1) (j + 1)) = 0:=h1
  have e2 : L 0 0 + smN (n + 1) (fun j=>L 0 (j + 1)) = 0:=h2
  have e3 : smN (n + 1) (fun j=>L (i + 1) (j + 1)) = - L (i + 1) 0:=by omega
  have e4 : smN (n + 1) (fun j=>L 0 (j + 1)) = - L 0 0:=by omega
  rw [e3,e4]
  grind
 ·rw [← zmU]
  exact (h.red (x + 1) (by omega)).chio
theorem zqa (x : Nat) : L 0 0 ^ n * trs (n + 1) L (x + 1) = L 0 0 * trs n (chio L) x:=by
 have h:=zdK n (del L (x + 1))
 rw [zmU] at h
 exact h
theorem zer (a : Int) : ∀ (n : Nat) (f : Nat → Int),smN n (fun j=>a * f j) = a * smN n f:=fun n f=>by
 have h:=zd9 a 0 n f f
 have h2:=zaF n (f:=fun j=>a * f j) (g:=fun j=>a * f j - 0 * f j) fun j _=>by rw [Int.zero_mul,Int.sub_zero]
 rw [h2,h,Int.zero_mul,Int.sub_zero]
theorem zlP (h : Lp (n + 1) L) {y : Nat} (ih : bal n (chio L) y = 0) : L 0 0 * bal (n + 1) L (y + 1) = L 0 (y + 1) * bal (n + 1) L 0:=by
 have h0:=h.pos
 have hp : 0 < L 0 0 ^ n:=Int.pow_pos h0
 have h1 : L 0 0 ^ n * smN (n + 1) (fun x=>trs (n + 1) L (x + 1) * chio L x y) = 0:=by
  rw [← zer]
  have:=zaF (n + 1) (f:=fun x=>L 0 0 ^ n * (trs (n + 1) L (x + 1) * chio L x y)) (g:=fun x=>L 0 0 * (trs n (chio L) x * chio L x y)) fun x _=>by
   have:=zqa (n:=n) (L:=L) x
   grind
  rw [this,zer]
  unfold bal at ih
  rw [ih,Int.mul_zero]
 have h2 : smN (n + 1) (fun x=>trs (n + 1) L (x + 1) * chio L x y) = 0:=by
  rcases Int.mul_eq_zero.1 h1 with h3 | h3
  ·omega
  ·exact h3
 have h3:=zd9 (L 0 0) (L 0 (y + 1)) (n + 1) (fun x=>trs (n + 1) L (x + 1) * L (x + 1) (y + 1)) (fun x=>trs (n + 1) L (x + 1) * L (x + 1) 0)
 have h4:=zaF (n + 1) (f:=fun x=>trs (n + 1) L (x + 1) * chio L x y) (g:=fun x=>L 0 0 * (trs (n + 1) L (x + 1) * L (x + 1) (y + 1)) - L 0 (y + 1) * (trs (n + 1) L (x + 1) * L (x + 1) 0)) fun x _=>by
  simp only [chio]
  grind
 rw [h4,h3] at h2
 have e1 : bal (n + 1) L (y + 1) = trs (n + 1) L 0 * L 0 (y + 1) + smN (n + 1) (fun x=>trs (n + 1) L (x + 1) * L (x + 1) (y + 1)):=rfl
 have e2 : bal (n + 1) L 0 = trs (n + 1) L 0 * L 0 0 + smN (n + 1) (fun x=>trs (n + 1) L (x + 1) * L (x + 1) 0):=rfl
 rw [e1,e2]
 grind
theorem ziH (x : Nat) : del (swM L) (x + 2) = swM (del L (x + 2)):=by
 have h : ∀ i,sw (skp (x + 2) i) = skp (x + 2) (sw i):=fun i=>by
  match i with
  | 0=>simp [skp,sw]
  | 1=>simp [skp,sw]
  | i + 2 =>
    have e : skp (x + 2) (i + 2) = skp x i + 2:=by
     unfold skp
     by_cases hi : i < x
     ·rw [if_pos hi,if_pos (by omega)]
     ·rw [if_neg hi,if_neg (by omega)]
    show sw (skp (x + 2) (i + 2)) = skp (x + 2) (i + 2)
    rw [e]
    rfl
 funext i j
 simp only [del,swM,h]
theorem zhN : del (swM L) 0 = del L 1:=by
 have h : ∀ i,sw (skp 0 i) = skp 1 i:=fun i=>by
  match i with
  | 0=>rfl
  | i + 1=>simp [skp,sw]
 funext i j
 simp only [del,swM,h]
theorem ziJ : del (swM L) 1 = del L 0:=by
 have h : ∀ i,sw (skp 1 i) = skp 0 i:=fun i=>by
  match i with
  | 0=>rfl
  | i + 1=>simp [skp,sw]
 funext i j
 simp only [del,swM,h]
theorem Lp.sw (h : Lp (n + 2) L) : Lp (n + 2) (swM L):=by
 refine ⟨fun i j hi hj hne=>h.off _ _ (zkz hi) (zkz hj) fun he=>hne (by have:=congrArg Go.Proofs.Ytfdbhehkkobfgaa.sw he; rwa [zk8,zk8] at this),fun i hi=>?_,fun x hx=>?_⟩
 ·have h1:=zpt (n + 1) (L (Go.Proofs.Ytfdbhehkkobfgaa.sw i))
  have h2:=h.sum _ (zkz (n:=n + 1) hi)
  rw [h2] at h1
  exact h1
 ·match x with
  | 0=>rw [zhN]; exact h.red 1 (by omega)
  | 1=>rw [ziJ]; exact h.red 0 (by omega)
  | x + 2=>rw [ziH]; exact (h.red (x + 2) hx).sw
theorem ztz (h : Lp (n + 2) L) {x : Nat} (hx : x < n + 3) : trs (n + 2) (swM L) x = trs (n + 2) L (sw x):=by
 unfold trs
 match x with
 | 0=>rw [zhN]; rfl
 | 1=>rw [ziJ]; rfl
 | x + 2=>rw [ziH]; exact ztt (h.red (x + 2) hx)
theorem zri (h : Lp (n + 2) L) (y : Nat) : bal (n + 2) (swM L) y = bal (n + 2) L (sw y):=by
 unfold bal
 rw [← zpt (n + 1) (fun x=>trs (n + 2) L x * L x (sw y))]
 refine zaF _ fun x hx=>?_
 rw [ztz h hx]
 rfl
end
theorem zg1 : ∀ (n : Nat) {L : Mat},Lp n L → ∀ y,y < n + 1 → bal n L y = 0
 | 0,L,h,y,hy=>by
   obtain rfl : y = 0:=by omega
   have h1 : L 0 0 + 0 = 0:=h.sum 0 (by omega)
   have h2 : bal 0 L 0 = 1 * L 0 0 + 0:=rfl
   rw [h2]
   omega
 | 1,L,h,y,hy=>by
   have h0:=h.pos
   have e1 : L 1 0 + (L 1 1 + 0) = 0:=h.sum 1 (by omega)
   have t0 : trs 1 L 0 = L 1 1:=zje _
   have t1 : trs 1 L 1 = L 0 0:=zje _
   have h2 : bal 1 L 0 = trs 1 L 0 * L 0 0 + (trs 1 L 1 * L 1 0 + 0):=rfl
   have hz : bal 1 L 0 = 0:=by
    rw [h2,t0,t1]
    have : L 1 1 = - L 1 0:=by omega
    rw [this]
    grind
   match y,hy with
   | 0,_=>exact hz
   | 1,_ =>
     have h3:=zlP h (zg1 0 h.chio 0 (by omega))
     rw [hz,Int.mul_zero] at h3
     rcases Int.mul_eq_zero.1 h3 with h4 | h4
     ·omega
     ·exact h4
 | n + 2,L,h,y,hy=>by
   have h0:=h.pos
   have hr : ∀ y,y < n + 2 → L 0 0 * bal (n + 2) L (y + 1) = L 0 (y + 1) * bal (n + 2) L 0:=fun y hy=>zlP h (zg1 (n + 1) h.chio y hy)
   have r1:=hr 0 (by omega)
   have r2:=zlP h.sw (zg1 (n + 1) h.sw.chio 0 (by omega))
   rw [zri h,zri h] at r2
   have r3 : L 1 1 * bal (n + 2) L 0 = L 1 0 * bal (n + 2) L 1:=r2
   have hd : 0 < L 0 0 * L 1 1 - L 0 1 * L 1 0:=(h.red 2 (by omega)).chio.pos
   have e : (L 0 0 * L 1 1 - L 0 1 * L 1 0) * bal (n + 2) L 0 = 0:=by
    have e1 : (L 0 0 * L 1 1 - L 0 1 * L 1 0) * bal (n + 2) L 0 = L 0 0 * (L 1 1 * bal (n + 2) L 0) - L 1 0 * (L 0 1 * bal (n + 2) L 0):=by grind
    rw [e1,r3,← r1]
    grind
   have hz : bal (n + 2) L 0 = 0:=by
    rcases Int.mul_eq_zero.1 e with h4 | h4
    ·omega
    ·exact h4
   match y,hy with
   | 0,_=>exact hz
   | y + 1,hy =>
     have h3:=hr y (by omega)
     rw [hz,Int.mul_zero] at h3
     rcases Int.mul_eq_zero.1 h3 with h4 | h4
     ·omega
     ·exact h4
def lapM (W : Mat) (N : Nat) : Mat:=fun i j=>if i = j then smN (N + 1) (W i) - W i i else - W i j
theorem zpi (W : Mat) (N x : Nat) : del (lapM W N) x = redM W N x:=by
 funext i j
 unfold del lapM redM
 by_cases h : i = j
 ·subst h
  rw [if_pos rfl,if_pos rfl]
 ·rw [if_neg (fun he=>h (zrE he)),if_neg h]
theorem zqg (W : Mat) (N : Nat) {i : Nat} (hi : i < N + 1) : smN (N + 1) (lapM W N i) = 0:=by
 have h1:=zdG (N + 1) (fun _=>smN (N + 1) (W i)) i hi
 have h2:=zd9 1 1 (N + 1) (fun j=>if decide (j = i) then smN (N + 1) (W i) else 0) (W i)
 have h3:=zaF (N + 1) (f:=lapM W N i) (g:=fun j=>1 * (if decide (j = i) then smN (N + 1) (W i) else 0) - 1 * W i j) fun j _=>by
  unfold lapM
  by_cases h : i = j
  ·subst h
   simp
  ·have h' : ¬ j = i:=fun he=>h he.symm
   simp [h,h']
 rw [h3,h2,h1]
 omega
section
variable {W : Mat} {N : Nat}
theorem zrW (h : ∀ r,r < N + 1 → Walk W N r) : Lp N (lapM W N):=by
 refine ⟨fun i j hi hj hne=>?_,fun i hi=>zqg W N hi,fun x hx=>?_⟩
 ·have:=(h 0 (by omega)).non i j hi hj
  unfold lapM
  rw [if_neg hne]
  omega
 ·rw [zpi]
  exact zj9 (h x hx)
def zdy (W : Mat) (N x : Nat) : Int:=detM N (redM W N x)
theorem zpL {x : Nat} (h : Walk W N x) : 0 < zdy W N x:=zgY N (zj9 h)
theorem zql {x : Nat} (h : Walk W N x) {c : Int} (hc : ∀ i,i < N + 1 → smN (N + 1) (W i) ≤ c) (hc0 : 0 ≤ c) : zdy W N x ≤ c ^ N :=
 Int.le_trans (zjs N (zj9 h)) (zkG h hc hc0 (Nat.le_refl N))
theorem zok (h : ∀ r,r < N + 1 → Walk W N r) {y : Nat} (hy : y < N + 1) : smN (N + 1) (fun x=>zdy W N x * W x y) = zdy W N y * smN (N + 1) (W y):=by
 have h0:=zg1 N (zrW h) y hy
 unfold bal at h0
 have h1:=zdG (N + 1) (fun x=>zdy W N x * smN (N + 1) (W x)) y hy
 have h2:=zd9 1 1 (N + 1) (fun x=>if decide (x = y) then zdy W N x * smN (N + 1) (W x) else 0) (fun x=>zdy W N x * W x y)
 have h3:=zaF (N + 1) (f:=fun x=>trs N (lapM W N) x * lapM W N x y) (g:=fun x=>1 * (if decide (x = y) then zdy W N x * smN (N + 1) (W x) else 0) - 1 * (zdy W N x * W x y)) fun x _=>by
  have e : trs N (lapM W N) x = zdy W N x:=by unfold trs zdy; rw [zpi]
  rw [e]
  unfold lapM
  by_cases hx : x = y
  ·subst hx
   simp
   grind
  ·simp [hx,Int.mul_neg]
 rw [h3,h2,h1] at h0
 omega
end
def sumF (φ : Ed → Int → Int) : List Ed → List Int → Int
 | e :: A,v :: f=>φ e v + sumF φ A f
 | _,_=>0
def outF (A : List Ed) (f : List Int) (x : Int) : Int:=sumF (fun e v=>if e.f = x then v else 0) A f
def inF (A : List Ed) (f : List Int) (x : Int) : Int:=sumF (fun e v=>if e.t = x then v else 0) A f
structure zdv (N : Nat) (A : List Ed) : Prop where
 two : 2 ≤ N
 arc : ∀ e ∈ A,0 ≤ e.f ∧ e.f < N ∧ 0 ≤ e.t ∧ e.t < N ∧ e.f ≠ e.t ∧ e.t ≠ 0 ∧ e.f ≠ 1 ∧ 0 ≤ e.v
def Fit2 : List Ed → List Int → Prop
 | e :: A,v :: f=>(0 ≤ v ∧ v ≤ e.v) ∧ Fit2 A f
 | [],[]=>True
 | _,_=>False
structure zaY (N : Nat) (A : List Ed) (f : List Int) : Prop where
 fit : Fit2 A f
 bal : ∀ x : Nat,2 ≤ x → x < N → outF A f x = inF A f x
def valF (A : List Ed) (f : List Int) : Int:=outF A f 0
theorem Fit2.len : ∀ {A : List Ed} {f : List Int},Fit2 A f → f.length = A.length
 | [],[],_=>rfl
 | _ :: _,_ :: _,h=>by simp [h.2.len]
 | [],_ :: _,h=>h.elim
 | _ :: _,[],h=>h.elim
theorem zm1 (φ ψ : Ed → Int → Int) : ∀ (A : List Ed) (f : List Int),sumF (fun e v=>φ e v + ψ e v) A f = sumF φ A f + sumF ψ A f
 | [],_=>by simp [sumF]
 | _ :: _,[]=>by simp [sumF]
 | e :: A,v :: f=>by
   simp only [sumF]
   rw [zm1 φ ψ A f]
   omega
theorem zjy (φ ψ : Ed → Int → Int) : ∀ (A : List Ed) (f : List Int),sumF (fun e v=>φ e v - ψ e v) A f = sumF φ A f - sumF ψ A f
 | [],_=>by simp [sumF]
 | _ :: _,[]=>by simp [sumF]
 | e :: A,v :: f=>by
   simp only [sumF]
   rw [zjy φ ψ A f]
   omega
theorem zcq {φ ψ : Ed → Int → Int} : ∀ {A : List Ed} {f : List Int},(∀ e ∈ A,∀ v,φ e v = ψ e v) → sumF φ A f = sumF ψ A f
 | [],_,_=>by simp [sumF]
 | _ :: _,[],_=>by simp [sumF]
 | e :: A,v :: f,h=>by
   simp only [sumF]
   rw [h e List.mem_cons_self v,zcq fun x hx=>h x (List.mem_cons_of_mem _ hx)]
theorem zeL : ∀ {A : List Ed} {f : List Int},sumF (fun _ _=>0) A f = 0
 | [],_=>by simp [sumF]
 | _ :: _,[]=>by simp [sumF]
 | e :: A,v :: f=>by simp [sumF,zeL (A:=A) (f:=f)]
theorem zlJ {φ ψ : Ed → Int → Int} : ∀ {A : List Ed} {f : List Int},Fit2 A f → (∀ e ∈ A,∀ v,0 ≤ v → v ≤ e.v → φ e v ≤ ψ e v) → sumF φ A f ≤ sumF ψ A f
 | [],[],_,_=>by simp [sumF]
 | [],_ :: _,h,_=>h.elim
 | _ :: _,[],h,_=>h.elim
 | e :: A,v :: f,h,hh=>by
   simp only [sumF]
   have h1:=hh e List.mem_cons_self v h.1.1 h.1.2
   have h2:=zlJ h.2 fun x hx=>hh x (List.mem_cons_of_mem _ hx)
   omega
def zcL (S : Int → Bool) (g : Int → Int) : Nat → Int
 | 0=>0
 | n + 1=>zcL S g n + if S n then g n else 0
theorem zhm (S : Int → Bool) (g h : Int → Int) : ∀ n,zcL S (fun x=>g x - h x) n = zcL S g n - zcL S h n
 | 0=>rfl
 | n + 1=>by
   simp only [zcL]
   rw [zhm S g h n]
   split <;> omega
theorem ze8 (S : Int → Bool) (A : List Ed) (f : List Int) (π : Ed → Int) : ∀ n : Nat,(∀ e ∈ A,0 ≤ π e) → zcL S (fun x=>sumF (fun e v=>if π e = x then v else 0) A f) n = sumF (fun e v=>if π e < n ∧ S (π e) = true then v else 0) A f
 | 0,h=>by
   rw [zcq (ψ:=fun _ _=>0) fun e he v=>if_neg fun h2=>by have:=h e he; omega,zeL]
   rfl
 | n + 1,h=>by
   have ih:=ze8 S A f π n h
   simp only [zcL]
   rw [ih]
   by_cases hs : S n = true
   ·rw [if_pos hs,← zm1]
    refine zcq fun e he v=>?_
    have h0:=h e he
    by_cases h1 : π e = n
    ·have h2 : ¬ (π e < (n : Int) ∧ S (π e) = true):=by omega
     have h3 : π e < ((n + 1 : Nat) : Int) ∧ S (π e) = true:=⟨by omega,by rw [h1]; exact hs⟩
     rw [if_neg h2,if_pos h1,if_pos h3,Int.zero_add]
    ·rw [if_neg h1,Int.add_zero]
     by_cases h2 : π e < (n : Int) ∧ S (π e) = true
     ·rw [if_pos h2,if_pos ⟨by omega,h2.2⟩]
     ·rw [if_neg h2,if_neg fun h3=>h2 ⟨by omega,h3.2⟩]
   ·rw [if_neg hs,Int.add_zero]
    refine zcq fun e he v=>?_
    have h0:=h e he
    by_cases h2 : π e < (n : Int) ∧ S (π e) = true
    ·rw [if_pos h2,if_pos ⟨by omega,h2.2⟩]
    ·rw [if_neg h2,if_neg fun h3=>h2 ⟨?_,h3.2⟩]
     have h4 : π e ≠ n:=fun h5=>hs (h5 ▸ h3.2)
     omega
def outS (S : Int → Bool) (A : List Ed) (f : List Int) : Int:=sumF (fun e v=>if S e.f = true ∧ S e.t = false then v else 0) A f
def inS (S : Int → Bool) (A : List Ed) (f : List Int) : Int:=sumF (fun e v=>if S e.f = false ∧ S e.t = true then v else 0) A f
def capS (S : Int → Bool) (A : List Ed) : Int:=sumF (fun e _=>if S e.f = true ∧ S e.t = false then e.v else 0) A (A.map fun _=>0)
theorem zhU (S : Int → Bool) (g : Int → Int) (N : Nat) (h0 : S 0 = true) (h1 : S 1 = false) (hg : ∀ x : Nat,2 ≤ x → x < N → g x = 0) : ∀ n,n ≤ N → 1 ≤ n → zcL S g n = g 0
 | 0,_,h=>by omega
 | 1,_,_=>by simp [zcL,h0]
 | n + 2,h,_=>by
   have ih:=zhU S g N h0 h1 hg (n + 1) (by omega) (by omega)
   simp only [zcL] at ih ⊢
   rw [ih]
   cases n with
   | zero=>simp [h1]
   | succ n =>
     have:=hg (n + 1 + 1) (by omega) (by omega)
     split <;> omega
theorem zjH {N : Nat} {A : List Ed} {f : List Int} (hn : zdv N A) (hf : zaY N A f) {S : Int → Bool} (h0 : S 0 = true) (h1 : S 1 = false) : valF A f = outS S A f - inS S A f:=by
 have e1:=zhU S (fun x=>outF A f x - inF A f x) N h0 h1 (fun x h2 h3=>by have:=hf.bal x h2 h3; omega) N (Nat.le_refl _) (by have:=hn.two; omega)
 have e2 : inF A f 0 = 0:=by
  unfold inF
  rw [zcq (ψ:=fun _ _=>0) fun e he v=>if_neg (hn.arc e he).2.2.2.2.2.1,zeL]
 rw [zhm] at e1
 have e3:=ze8 S A f (·.f) N fun e he=>(hn.arc e he).1
 have e4:=ze8 S A f (·.t) N fun e he=>(hn.arc e he).2.2.1
 have e5 : zcL S (outF A f) N = _:=e3
 have e6 : zcL S (inF A f) N = _:=e4
 rw [e5,e6,← zjy] at e1
 unfold valF outS inS
 rw [← zjy]
 have e7 : outF A f 0 = outF A f 0 - inF A f 0:=by omega
 rw [e7,← e1]
 refine zcq fun e he v=>?_
 obtain ⟨q1,q2,q3,q4,_⟩:=hn.arc e he
 cases hf1 : S e.f <;> cases ht1 : S e.t <;> simp [q2,q4]
theorem zl2 {A : List Ed} {f : List Int} (hf : Fit2 A f) (S : Int → Bool) : outS S A f ≤ capS S A:=by
 have key : ∀ {A : List Ed} {f : List Int},Fit2 A f → sumF (fun e _=>if S e.f = true ∧ S e.t = false then e.v else 0) A (A.map fun _=>0) = sumF (fun e _=>if S e.f = true ∧ S e.t = false then e.v else 0) A f:=by
  intro A
  induction A with
  | nil=>intro f _; simp [sumF]
  | cons e A ih =>
    intro f h
    cases f with
    | nil=>exact h.elim
    | cons v f=>simp only [sumF,List.map_cons]; rw [ih h.2]
 unfold outS capS
 rw [key hf]
 exact zlJ hf fun e _ v h1 h2=>by split <;> omega
theorem zf6 {A : List Ed} {f : List Int} (hf : Fit2 A f) (S : Int → Bool) : 0 ≤ inS S A f:=by
 have : sumF (fun _ _=>0) A f ≤ inS S A f:=zlJ hf fun e _ v h1 h2=>by split <;> omega
 rw [zeL] at this
 exact this
theorem zeY {N : Nat} {A : List Ed} {f : List Int} (hn : zdv N A) (hf : zaY N A f) {S : Int → Bool} (h0 : S 0 = true) (h1 : S 1 = false) : valF A f ≤ capS S A:=by
 rw [zjH hn hf h0 h1]
 have:=zl2 hf.fit S
 have:=zf6 hf.fit S
 omega
def arcD (A : List Ed) (i : Nat) : Ed:=A.getD i ⟨0,0,0⟩
theorem zjD {A : List Ed} {i : Nat} (h : i < A.length) : arcD A i ∈ A:=by
 unfold arcD
 rw [List.getD_eq_getElem?_getD,List.getElem?_eq_getElem h]
 exact List.getElem_mem h
abbrev Stp:=Nat × Bool
def stF (A : List Ed) (s : Stp) : Int:=if s.2 then (arcD A s.1).t else (arcD A s.1).f
def stT (A : List Ed) (s : Stp) : Int:=if s.2 then (arcD A s.1).f else (arcD A s.1).t
def zdI (A : List Ed) (f : List Int) (s : Stp) : Int:=if s.2 then f.getD s.1 0 else (arcD A s.1).v - f.getD s.1 0
def zgF (δ : Int) (f : List Int) (s : Stp) : List Int:=f.set s.1 (f.getD s.1 0 + if s.2 then -δ else δ)
def zgj (δ : Int) (f : List Int) (l : List Stp) : List Int:=l.foldl (zgF δ) f
theorem zjU (φ : Ed → Int → Int) : ∀ (A : List Ed) (f : List Int) (i : Nat) (v : Int),i < A.length → f.length = A.length → sumF φ A (f.set i v) = sumF φ A f + (φ (arcD A i) v - φ (arcD A i) (f.getD i 0))
 | [],_,_,_,h,_=>by simp at h
 | _ :: _,[],_,_,_,h=>by simp at h
 | e :: A,w :: f,0,v,_,_=>by
   simp only [List.set_cons_zero,sumF]
   have h1 : arcD (e :: A) 0 = e:=rfl
   have h2 : (w :: f).getD 0 0 = w:=rfl
   rw [h1,h2]
   omega
 | e :: A,w :: f,i + 1,v,h,hl=>by
   simp only [List.set_cons_succ,sumF]
   have h1 : arcD (e :: A) (i + 1) = arcD A i:=by simp [arcD]
   have h2 : (w :: f).getD (i + 1) 0 = f.getD i 0:=by simp
   rw [zjU φ A f i v (by simpa using h) (by simpa using hl),h1,h2]
   omega
def exF (A : List Ed) (f : List Int) (x : Int) : Int:=outF A f x - inF A f x
theorem zhO {δ : Int} {f : List Int} {s : Stp} : (zgF δ f s).length = f.length:=List.length_set ..
theorem zfy {δ : Int} : ∀ {l : List Stp} {f : List Int},(zgj δ f l).length = f.length
 | [],_=>rfl
 | s :: l,f=>by
   show (zgj δ (zgF δ f s) l).length = _
   rw [zfy,zhO]
theorem zmP {A : List Ed} {f : List Int} {δ : Int} {s : Stp} (hs : s.1 < A.length) (hl : f.length = A.length) (x : Int) :
  exF A (zgF δ f s) x = exF A f x + (if stF A s = x then δ else 0) - if stT A s = x then δ else 0:=by
 unfold exF outF inF zgF
 rw [zjU _ A f s.1 _ hs hl,zjU _ A f s.1 _ hs hl]
 unfold stF stT
 generalize arcD A s.1 = e
 generalize f.getD s.1 0 = v
 generalize sumF _ A f = p
 generalize sumF _ A f = q
 obtain ⟨i,b⟩:=s
 cases b
 ·simp only [Bool.false_eq_true,if_false]
  by_cases h1 : e.f = x <;> by_cases h2 : e.t = x <;> simp only [h1,h2,if_true,if_false] <;> omega
 ·simp only [if_true]
  by_cases h1 : e.f = x <;> by_cases h2 : e.t = x <;> simp only [h1,h2,if_true,if_false] <;> omega
def WayS (A : List Ed) : Int → List Stp → Int → Prop
 | u,[],w=>u = w
 | u,s :: l,w=>s.1 < A.length ∧ stF A s = u ∧ WayS A (stT A s) l w
theorem zmT {A : List Ed} {δ : Int} (x w : Int) : ∀ {l : List Stp} {f : List Int} {u : Int},f.length = A.length → WayS A u l w → exF A (zgj δ f l) x = exF A f x + (if u = x then δ else 0) - if w = x then δ else 0
 | [],f,u,_,h=>by
   have h' : u = w:=h
   subst h'
   show exF A f x = _
   omega
 | s :: l,f,u,hl,h=>by
   obtain ⟨h1,h2,h3⟩:=h
   show exF A (zgj δ (zgF δ f s) l) x = _
   rw [zmT x w (by rw [zhO,hl]) h3,zmP h1 hl x,h2]
   omega
theorem zi7 {A : List Ed} {f : List Int} : Fit2 A f ↔ f.length = A.length ∧ ∀ i,i < A.length → 0 ≤ f.getD i 0 ∧ f.getD i 0 ≤ (arcD A i).v:=by
 induction A generalizing f with
 | nil =>
   cases f with
   | nil=>simp [Fit2]
   | cons v f=>simp [Fit2]
 | cons e A ih =>
   cases f with
   | nil=>simp [Fit2]
   | cons v f =>
     show (0 ≤ v ∧ v ≤ e.v) ∧ Fit2 A f ↔ _
     rw [ih]
     constructor
     ·rintro ⟨h1,h2,h3⟩
      refine ⟨by simp [h2],fun i hi=>?_⟩
      cases i with
      | zero=>exact h1
      | succ i =>
        have:=h3 i (by simpa using hi)
        simpa [arcD] using this
     ·rintro ⟨h1,h2⟩
      refine ⟨h2 0 (by simp),by simpa using h1,fun i hi=>?_⟩
      have:=h2 (i + 1) (by simpa using hi)
      simpa [arcD] using this
theorem zfp {δ : Int} : ∀ {l : List Stp} {f : List Int} {i : Nat},(l.map (·.1)).Nodup → (∀ s ∈ l,s.1 < f.length) →
  (i ∉ l.map (·.1) → (zgj δ f l).getD i 0 = f.getD i 0) ∧ ∀ b,(i,b) ∈ l → (zgj δ f l).getD i 0 = f.getD i 0 + if b then -δ else δ
 | [],f,i,_,_=>⟨fun _=>rfl,fun b hb=>by simp at hb⟩
 | s :: l,f,i,hn,hr=>by
   rw [List.map_cons,List.nodup_cons] at hn
   have ih:=zfp (δ:=δ) (l:=l) (f:=zgF δ f s) (i:=i) hn.2 fun x hx=>by rw [zhO]; exact hr x (List.mem_cons_of_mem _ hx)
   have hs:=hr s (List.mem_cons_self ..)
   have hget : ∀ j,(zgF δ f s).getD j 0 = if s.1 = j then f.getD j 0 + (if s.2 then -δ else δ) else f.getD j 0:=fun j=>by
    unfold zgF
    by_cases hj : s.1 = j
    ·subst hj
     rw [if_pos rfl,List.getD_eq_getElem?_getD,List.getElem?_set_self hs,Option.getD_some]
    ·rw [if_neg hj,List.getD_eq_getElem?_getD,List.getElem?_set_ne hj,List.getD_eq_getElem?_getD]
   refine ⟨fun hi=>?_,fun b hb=>?_⟩
   ·rw [List.map_cons,List.mem_cons,not_or] at hi
    show (zgj δ (zgF δ f s) l).getD i 0 = _
    rw [ih.1 hi.2,hget,if_neg fun e=>hi.1 e.symm]
   ·show (zgj δ (zgF δ f s) l).getD i 0 = _
    rcases List.mem_cons.1 hb with hb | hb
    ·subst hb
     rw [ih.1 hn.1,hget,if_pos rfl]
    ·have hne : s.1 ≠ i:=fun e=>hn.1 (e ▸ List.mem_map.2 ⟨_,hb,rfl⟩)
     rw [ih.2 b hb,hget,if_neg hne]
theorem zoQ {A : List Ed} {f : List Int} {δ : Int} {l : List Stp} (hf : Fit2 A f) (h0 : 0 ≤ δ) (hn : (l.map (·.1)).Nodup) (hr : ∀ s ∈ l,s.1 < A.length ∧ δ ≤ zdI A f s) : Fit2 A (zgj δ f l):=by
 rw [zi7] at hf ⊢
 refine ⟨by rw [zfy,hf.1],fun i hi=>?_⟩
 have hg:=zfp (δ:=δ) (f:=f) (i:=i) hn fun s hs=>by rw [hf.1]; exact (hr s hs).1
 have hfi:=hf.2 i hi
 by_cases hm : i ∈ l.map (·.1)
 ·obtain ⟨⟨j,b⟩,hs,rfl⟩:=List.mem_map.1 hm
  have h1:=hg.2 b hs
  have h2:=(hr _ hs).2
  simp only at h1 h2 hfi ⊢
  rw [h1]
  unfold zdI at h2
  cases b
  ·simp only [Bool.false_eq_true,if_false] at h2 ⊢
   omega
  ·simp only [if_true] at h2 ⊢
   omega
 ·rw [hg.1 hm]
  exact hfi
theorem zkh {N : Nat} {A : List Ed} (hn : zdv N A) (f : List Int) : inF A f 0 = 0:=by
 unfold inF
 rw [zcq (ψ:=fun _ _=>0) fun e he v=>if_neg (hn.arc e he).2.2.2.2.2.1,zeL]
theorem zrP {N : Nat} {A : List Ed} {f : List Int} {δ : Int} {l : List Stp} (hn : zdv N A) (hf : zaY N A f) (h0 : 0 ≤ δ) (hw : WayS A 0 l 1) (hd : (l.map (·.1)).Nodup) (hr : ∀ s ∈ l,s.1 < A.length ∧ δ ≤ zdI A f s) :
  zaY N A (zgj δ f l) ∧ valF A (zgj δ f l) = valF A f + δ:=by
 have hl:=hf.fit.len
 have hx:=fun x=>zmT (A:=A) (δ:=δ) x 1 (l:=l) (f:=f) hl hw
 refine ⟨⟨zoQ hf.fit h0 hd hr,fun x h2 hN=>?_⟩,?_⟩
 ·have h3:=hx x
  have h4:=hf.bal x h2 hN
  rw [if_neg (by omega),if_neg (by omega)] at h3
  unfold exF at h3
  omega
 ·have h3:=hx 0
  rw [if_pos rfl,if_neg (by omega)] at h3
  unfold exF at h3
  rw [zkh hn,zkh hn] at h3
  unfold valF
  omega
theorem znp {N : Nat} {A : List Ed} {f : List Int} (hn : zdv N A) (hf : zaY N A f) {S : Int → Bool} (h0 : S 0 = true) (h1 : S 1 = false)
  (hc : ∀ s : Stp,s.1 < A.length → S (stF A s) = true → 0 < zdI A f s → S (stT A s) = true) : valF A f = capS S A:=by
 rw [zjH hn hf h0 h1]
 have key : ∀ {A : List Ed} {f : List Int},Fit2 A f → (∀ s : Stp,s.1 < A.length → S (stF A s) = true → 0 < zdI A f s → S (stT A s) = true) → outS S A f = capS S A ∧ inS S A f = 0:=by
  intro A
  induction A with
  | nil=>intro f _ _; simp [outS,inS,capS,sumF]
  | cons e A ih =>
    intro f hf hc
    cases f with
    | nil=>exact hf.elim
    | cons v f =>
      have h2:=ih hf.2 fun s hs hsf hr=>by
       have:=hc (s.1 + 1,s.2) (by simpa using hs) (by simpa [stF,arcD] using hsf) (by simpa [zdI,arcD] using hr)
       simpa [stT,arcD] using this
      have ha:=hc (0,false) (by simp)
      have hb:=hc (0,true) (by simp)
      simp [stF,stT,zdI,arcD] at ha hb
      have hv:=hf.1
      unfold outS inS capS at h2 ⊢
      simp only [sumF,List.map_cons]
      obtain ⟨p1,p2⟩:=h2
      rw [p1,p2]
      cases hF : S e.f <;> cases hT : S e.t <;> simp [hF,hT] at ha hb ⊢ <;> omega
 obtain ⟨p1,p2⟩:=key hf.fit hc
 rw [p1,p2]
 omega
theorem WayS.snoc {A : List Ed} : ∀ {l : List Stp} {u w : Int} {s : Stp},WayS A u l w → s.1 < A.length → stF A s = w → WayS A u (l ++ [s]) (stT A s)
 | [],u,w,s,h,h1,h2=>⟨h1,by rw [h2]; exact (show u = w from h).symm,rfl⟩
 | t :: l,u,w,s,h,h1,h2=>⟨h.1,h.2.1,WayS.snoc h.2.2 h1 h2⟩
structure zq9 (A : List Ed) (f : List Int) (D : List Int) (by_ : Int → Stp) : Prop where
 zero : D.head? = some 0
 nodup : D.Nodup
 step : ∀ j (h : j < D.length),0 < j → (by_ D[j]).1 < A.length ∧ stT A (by_ D[j]) = D[j] ∧ stF A (by_ D[j]) ∈ D.take j ∧ 0 < zdI A f (by_ D[j])
theorem zlt {A : List Ed} {s t : Stp} (h : s.1 = t.1) : (stF A s = stF A t ∧ stT A s = stT A t) ∨ (stF A s = stT A t ∧ stT A s = stF A t):=by
 obtain ⟨i,b⟩:=s
 obtain ⟨j,c⟩:=t
 simp only at h
 subst h
 unfold stF stT
 cases b <;> cases c <;> simp
theorem zq9.way {A : List Ed} {f D : List Int} {by_ : Int → Stp} (h : zq9 A f D by_) : ∀ (n j : Nat) (hj : j < D.length),j ≤ n →
  ∃ l,WayS A 0 l D[j] ∧ (l.map (·.1)).Nodup ∧ ∀ s ∈ l,s.1 < A.length ∧ 0 < zdI A f s ∧ by_ (stT A s) = s ∧ stT A s ≠ 0 ∧ stF A s ∈ D.take (j + 1) ∧ stT A s ∈ D.take (j + 1)
 | n,0,hj,_=>by
   refine ⟨[],?_,by simp,by simp⟩
   show (0 : Int) = D[0]
   have h0:=h.zero
   rw [List.head?_eq_getElem?,List.getElem?_eq_getElem hj] at h0
   exact (Option.some.inj h0).symm
 | 0,j + 1,_,hn=>by omega
 | n + 1,j + 1,hj,hn=>by
   obtain ⟨h1,h2,h3,h4⟩:=h.step (j + 1) hj (by omega)
   obtain ⟨i,hi,hiF⟩:=List.mem_iff_getElem.1 h3
   rw [List.length_take] at hi
   rw [List.getElem_take] at hiF
   have hij : i < j + 1:=by omega
   obtain ⟨l,w1,w2,w3⟩:=h.way n i (by omega) (by omega)
   have hne : ∀ (k m : Nat) (hk : k < D.length) (hm : m < D.length),k ≠ m → D[k] ≠ D[m]:=fun k m hk hm hkm he=>by
    rcases Nat.lt_or_ge k m with hlt | hge
    ·exact List.pairwise_iff_getElem.1 h.nodup k m hk hm hlt he
    ·exact List.pairwise_iff_getElem.1 h.nodup m k hm hk (by omega) he.symm
   have hnot : D[j + 1] ∉ D.take (i + 1):=fun hm=>by
    obtain ⟨k,hk,hkD⟩:=List.mem_iff_getElem.1 hm
    rw [List.length_take] at hk
    rw [List.getElem_take] at hkD
    exact hne k (j + 1) (by omega) hj (by omega) hkD
   have hup : ∀ x,x ∈ D.take (i + 1) → x ∈ D.take (j + 1 + 1):=fun x hx=>(List.take_sublist_take_left (by omega : i + 1 ≤ j + 1 + 1)).subset hx
   have h0 : D[j + 1] ≠ 0:=fun he=>by
    have hz:=h.zero
    rw [List.head?_eq_getElem?,List.getElem?_eq_getElem (by omega)] at hz
    exact hne 0 (j + 1) (by omega) hj (by omega) ((Option.some.inj hz).trans he.symm)
   refine ⟨l ++ [by_ D[j + 1]],?_,?_,fun s hs=>?_⟩
   ·have:=WayS.snoc (s:=by_ D[j + 1]) w1 h1 hiF.symm
    rw [h2] at this
    exact this
   ·rw [List.map_append,List.nodup_append]
    refine ⟨w2,by simp,fun a ha b hb=>?_⟩
    obtain ⟨t,ht,rfl⟩:=List.mem_map.1 ha
    simp only [List.map_cons,List.map_nil,List.mem_singleton] at hb
    subst hb
    intro he
    obtain ⟨_,_,_,_,q1,q2⟩:=w3 t ht
    rcases zlt (A:=A) he with ⟨e1,e2⟩ | ⟨e1,e2⟩
    ·rw [e2,h2] at q2
     exact hnot q2
    ·rw [e1,h2] at q1
     exact hnot q1
   ·rcases List.mem_append.1 hs with hs | hs
    ·obtain ⟨p1,p2,p3,p4,p5,p6⟩:=w3 s hs
     exact ⟨p1,p2,p3,p4,hup _ p5,hup _ p6⟩
    ·rw [List.mem_singleton] at hs
     subst hs
     refine ⟨h1,h4,by rw [h2],by rw [h2]; exact h0,?_,?_⟩
     ·exact (List.take_sublist_take_left (by omega : j + 1 ≤ j + 1 + 1)).subset h3
     ·rw [h2]
      refine List.mem_iff_getElem.2 ⟨j + 1,by rw [List.length_take]; omega,by rw [List.getElem_take]⟩
def zh3 (A : List Ed) (f D : List Int) : Prop:=∀ s : Stp,s.1 < A.length → stF A s ∈ D → 0 < zdI A f s → stT A s ∈ D
theorem zqE {N : Nat} {A : List Ed} {f D : List Int} (hn : zdv N A) (hf : zaY N A f) (h0 : (0 : Int) ∈ D) (h1 : (1 : Int) ∉ D) (hc : zh3 A f D) : valF A f = capS (fun x=>decide (x ∈ D)) A ∧ ∀ f',zaY N A f' → valF A f' ≤ valF A f:=by
 have e:=znp (S:=fun x=>decide (x ∈ D)) hn hf (by simpa using h0) (by simpa using h1) fun s hs hF hr=>by
  have:=hc s hs (by simpa using hF) hr
  simpa using this
 refine ⟨e,fun f' hf'=>?_⟩
 rw [e]
 exact zeY hn hf' (by simpa using h0) (by simpa using h1)
theorem zny {N : Nat} {A : List Ed} {f D : List Int} {by_ : Int → Stp} (hn : zdv N A) (hf : zaY N A f) (ht : zq9 A f D by_) {S : Int → Bool} (h0 : S 0 = true) (h1 : S 1 = false) (hS : capS S A = valF A f) : ∀ x ∈ D,S x = true:=by
 have hv:=zjH hn hf h0 h1
 have ho:=zl2 hf.fit S
 have hi:=zf6 hf.fit S
 have ho2 : outS S A f = capS S A:=by omega
 have hi2 : inS S A f = 0:=by omega
 have key : ∀ {A : List Ed} {f : List Int},Fit2 A f → outS S A f = capS S A → inS S A f = 0 → ∀ s : Stp,s.1 < A.length → S (stF A s) = true → 0 < zdI A f s → S (stT A s) = true:=by
  intro A
  induction A with
  | nil=>intro f _ _ _ s hs; simp at hs
  | cons e A ih =>
    intro f hf ho hi s hs hF hr
    cases f with
    | nil=>exact hf.elim
    | cons v f =>
      have k1:=zl2 hf.2 S
      have k2:=zf6 hf.2 S
      have hv:=hf.1
      have e1 : outS S (e :: A) (v :: f) = (if S e.f = true ∧ S e.t = false then v else 0) + outS S A f:=rfl
      have e2 : inS S (e :: A) (v :: f) = (if S e.f = false ∧ S e.t = true then v else 0) + inS S A f:=rfl
      have e3 : capS S (e :: A) = (if S e.f = true ∧ S e.t = false then e.v else 0) + capS S A:=rfl
      rw [e1,e3] at ho
      rw [e2] at hi
      obtain ⟨i,b⟩:=s
      cases i with
      | zero =>
        cases b
        ·simp [stF,stT,zdI,arcD] at hF hr ⊢
         cases hT : S e.t
         ·simp [hF,hT] at ho
          omega
         ·rfl
        ·simp [stF,stT,zdI,arcD] at hF hr ⊢
         cases hT : S e.f
         ·simp [hF,hT] at hi
          omega
         ·rfl
      | succ i =>
        have q1 : outS S A f = capS S A:=by
         split at ho <;> omega
        have q2 : inS S A f = 0:=by
         split at hi <;> omega
        have:=ih hf.2 q1 q2 (i,b) (by simpa using hs) (by simpa [stF,arcD] using hF) (by simpa [zdI,arcD] using hr)
        simpa [stT,arcD] using this
 have hcl:=key hf.fit ho2 hi2
 have hind : ∀ (n j : Nat) (hj : j < D.length),j ≤ n → S D[j] = true:=by
  intro n
  induction n with
  | zero =>
    intro j hj hn
    have hj0 : j = 0:=by omega
    subst hj0
    have hz:=ht.zero
    rw [List.head?_eq_getElem?,List.getElem?_eq_getElem hj] at hz
    rw [Option.some.inj hz]
    exact h0
  | succ n ih =>
    intro j hj hn
    rcases Nat.eq_zero_or_pos j with hj0 | hj0
    ·exact ih j hj (by omega)
    ·obtain ⟨q1,q2,q3,q4⟩:=ht.step j hj hj0
     obtain ⟨i,hi,hiF⟩:=List.mem_iff_getElem.1 q3
     rw [List.length_take] at hi
     rw [List.getElem_take] at hiF
     have:=hcl _ q1 (by rw [← hiF]; exact ih i (by omega) (by omega)) q4
     rw [q2] at this
     exact this
 intro x hx
 obtain ⟨j,hj,rfl⟩:=List.mem_iff_getElem.1 hx
 exact hind j j hj (Nat.le_refl _)
def WayA (A : List Ed) : Int → List Nat → Int → Prop
 | u,[],w=>u = w
 | u,i :: l,w=>i < A.length ∧ (arcD A i).f = u ∧ WayA A (arcD A i).t l w
theorem WayA.snoc {A : List Ed} : ∀ {l : List Nat} {u w : Int} {i : Nat},WayA A u l w → i < A.length → (arcD A i).f = w → WayA A u (l ++ [i]) (arcD A i).t
 | [],u,w,i,h,h1,h2=>⟨h1,by rw [h2]; exact (show u = w from h).symm,rfl⟩
 | j :: l,u,w,i,h,h1,h2=>⟨h.1,h.2.1,WayA.snoc h.2.2 h1 h2⟩
def metA (A : List Ed) (l : List Nat) : List Int:=l.map fun i=>(arcD A i).t
theorem zoh (A : List Ed) (l : List Nat) (i : Nat) : metA A (l ++ [i]) = metA A l ++ [(arcD A i).t]:=by simp [metA]
theorem WayA.take {A : List Ed} : ∀ {l : List Nat} {u w : Int} (n : Nat),WayA A u l w → ∀ x,(u :: metA A l)[n]? = some x → WayA A u (l.take n) x
 | l,u,w,0,_,x,hx=>by
   have : u = x:=by simpa using hx
   exact this
 | [],u,w,n + 1,_,x,hx=>by simp [metA] at hx
 | i :: l,u,w,n + 1,h,x,hx=>by
   refine ⟨h.1,h.2.1,WayA.take n h.2.2 x ?_⟩
   simpa [metA] using hx
theorem zjV (l : List Nat) (n i : Nat) : (l.take n).count i ≤ l.count i:=(List.take_sublist n l).count_le i
structure zhB (A : List Ed) (f g : List Int) (l : List Nat) (w : Int) : Prop where
 len : g.length = A.length
 nonneg : ∀ i,0 ≤ g.getD i 0
 way : WayA A 0 l w
 met : ((0 : Int) :: metA A l).Nodup
 used : ∀ i,g.getD i 0 + (l.count i : Int) ≤ f.getD i 0
 ex : ∀ x,exF A g x = exF A f x - (if x = 0 then 1 else 0) + if x = w then 1 else 0
theorem zhB.start {A : List Ed} {f : List Int} (hl : f.length = A.length) (h0 : ∀ i,0 ≤ f.getD i 0) : zhB A f f [] 0 :=
 ⟨hl,h0,rfl,by simp [metA],fun i=>by simp,fun x=>by split <;> omega⟩
theorem zmV (f : List Int) (i j : Nat) (v : Int) (h : i < f.length) : (f.set i v).getD j 0 = if i = j then v else f.getD j 0:=by
 by_cases hj : i = j
 ·subst hj
  rw [if_pos rfl,List.getD_eq_getElem?_getD,List.getElem?_set_self h,Option.getD_some]
 ·rw [if_neg hj,List.getD_eq_getElem?_getD,List.getElem?_set_ne hj,List.getD_eq_getElem?_getD]
theorem zhB.more {A : List Ed} {f g : List Int} {l : List Nat} {w : Int} (h : zhB A f g l w) {k : Nat} (hk : k < A.length) (hf : (arcD A k).f = w) (hg : 0 < g.getD k 0) :
  ((arcD A k).t ∉ ((0 : Int) :: metA A l) → zhB A f (g.set k (g.getD k 0 - 1)) (l ++ [k]) (arcD A k).t) ∧
  ∀ n,((0 : Int) :: metA A l)[n]? = some (arcD A k).t → zhB A f (g.set k (g.getD k 0 - 1)) (l.take n) (arcD A k).t:=by
 have hkl : k < g.length:=by rw [h.len]; exact hk
 have hnn : ∀ i,0 ≤ (g.set k (g.getD k 0 - 1)).getD i 0:=fun i=>by
  rw [zmV g k i _ hkl]
  split
  ·omega
  ·exact h.nonneg i
 have hex : ∀ x,exF A (g.set k (g.getD k 0 - 1)) x = exF A f x - (if x = 0 then 1 else 0) + if x = (arcD A k).t then 1 else 0:=fun x=>by
  have h1:=zmP (A:=A) (f:=g) (δ:=-1) (s:=(k,false)) hk h.len x
  have h2 : zgF (-1) g (k,false) = g.set k (g.getD k 0 - 1):=rfl
  have h3 : stF A (k,false) = w:=hf
  have h4 : stT A (k,false) = (arcD A k).t:=rfl
  rw [h2,h3,h4,h.ex x] at h1
  rw [h1]
  have e1 : (if w = x then (-1 : Int) else 0) = - if x = w then 1 else 0:=by
   by_cases hh : w = x
   ·rw [if_pos hh,if_pos hh.symm]
   ·rw [if_neg hh,if_neg fun e=>hh e.symm,Int.neg_zero]
  have e2 : (if (arcD A k).t = x then (-1 : Int) else 0) = - if x = (arcD A k).t then 1 else 0:=by
   by_cases hh : (arcD A k).t = x
   ·rw [if_pos hh,if_pos hh.symm]
   ·rw [if_neg hh,if_neg fun e=>hh e.symm,Int.neg_zero]
  rw [e1,e2]
  omega
 have hus : ∀ i,(g.set k (g.getD k 0 - 1)).getD i 0 + ((l ++ [k]).count i : Int) ≤ f.getD i 0:=fun i=>by
  have h1:=h.used i
  rw [zmV g k i _ hkl,List.count_append]
  by_cases hi : k = i
  ·subst hi
   rw [if_pos rfl,show List.count k [k] = 1 by simp]
   omega
  ·rw [if_neg hi,show List.count i [k] = 0 from List.count_eq_zero.2 (by simpa using fun e=>hi e.symm)]
   omega
 refine ⟨fun hm=>⟨by rw [List.length_set]; exact h.len,hnn,h.way.snoc hk hf,?_,hus,hex⟩,fun n hn=>⟨by rw [List.length_set]; exact h.len,hnn,h.way.take n _ hn,?_,fun i=>?_,hex⟩⟩
 ·rw [zoh,← List.cons_append,List.nodup_append]
  exact ⟨h.met,by simp,fun a ha b hb=>by rw [List.mem_singleton] at hb; subst hb; rintro rfl; exact hm ha⟩
 ·have hs : ((0 : Int) :: metA A (l.take n)).Sublist ((0 : Int) :: metA A l):=((List.take_sublist n l).map _).cons_cons 0
  exact h.met.sublist hs
 ·have h1:=hus i
  have h2 : (l.take n).count i ≤ (l ++ [k]).count i:=Nat.le_trans (zjV l n i) (by rw [List.count_append]; omega)
  omega
theorem zaD {α β : Type} (f : α → β) (l : List α) : List.take l.length (List.map f l) = List.map f l:=List.take_of_length_le (by simp)
def zc5 : Gr:=⟨0,[],[]⟩
def zhu (g : Gr) (e : Ed) : Gr:=⟨g.size,g.edges.take (idxE g.edges ⟨e.f,e.t,0⟩) ++ e :: g.edges.drop (idxE g.edges ⟨e.f,e.t,0⟩),g.gone⟩
open Classical in
noncomputable def zbM (g : Gr) (e : Ed) : Gr × Int :=
 if ¬ GrOk g then (zc5,14) else if ¬ Fits g e then (zc5,4) else if ¬ (1 ≤ e.v ∧ e.v ≤ 3) then (zc5,2)
 else if AtE g.edges (idxE g.edges ⟨e.f,e.t,0⟩) e.f e.t then (zc5,19) else if g.edges.length = 500 then (zc5,3) else (zhu g e,0)
open Classical in
theorem zfH (g : Gr) (e : Ed) (hl : g.edges.length * 24 ≤ 140737488355328) (hl2 : g.gone.length * 8 ≤ 140737488355328) : zaj Try.prog zdQ [eG g,eE e] [] (.tup [eG (zbM g e).1,.I (zbM g e).2]) []:=by
 refine zlN.acalls (nbz rfl) (nbz rfl) (Nat.le_refl _) ?_
 show awp _ 0 _ _ ⟨103,[(0,eG g),(1,eE e)],[],16⟩
 refine zab ⟨103,[(2,.pv (gC g)),(3,.pv (eC e)),(4,.pt 32 0 0)],[(32,some ⟨3,[[.I 0,.nilS,.nilS]],0⟩)],40⟩ rfl ?_ ?_
 ·simp
  exact Le.var1 32 [16,24] rfl rfl (nbz rfl) (by decide) rfl (by simp) (by simp) (by simp)
 refine zaa ?_
 refine zaa ?_
 refine zac (s:=?s1) rfl ?o1 ?q1
 case o1=>simp; refine zan (ziv g (by omega) (by omega)) rfl ?_; simp; rfl
 refine zad _ rfl (fun h2=>?_) fun h2=>?_
 ·have hg : ¬ GrOk g:=by
   intro hg
   simp [hg] at h2
  refine zaa ?_
  refine zac (s:=?s3) rfl ?o3 ?q3
  case o3=>simp; rfl
  refine zag ?_
  refine ⟨.inr rfl,?_⟩
  show zao [(4,some (true,3)),(5,none)] 0 _ _ _
  refine zao.out (vs:=[.agg [.I 0,.nilS,.nilS],.I 14]) [] [] (by simp) (by simp) (by simp) ?_ (by simp)
  have hr : zbM g e = (zc5,14):=by grind [zbM]
  simp [hr,zc5]
  exact wkT2 (wkA3 (.refl _) (.nil _ _) (.nil _ _)) (.refl _)
 have hg : GrOk g:=by
  rcases Classical.em (GrOk g) with h | h
  ·exact h
  ·simp [h] at h2
 refine zae ?_
 refine zaa ?_
 refine zac (s:=?s4) rfl ?o4 ?q4
 case o4=>simp; refine zan (zif g _ _ (by omega)) rfl ?_; simp; rfl
 refine zaa ?_
 refine zaf ?_
 refine zab ⟨103,[(2,.pv (gC g)),(3,.pv (eC e)),(4,.pt 32 0 0),(6,.I (idxE g.edges ⟨e.f,e.t,0⟩)),(7,.B (decide (AtE g.edges (idxE g.edges ⟨e.f,e.t,0⟩) e.f e.t))),(22,.B (decide (¬ Fits g e)))],[(32,some ⟨3,[[.I 0,.nilS,.nilS]],0⟩)],40⟩ rfl ?_ ?_
 ·simp
  repeat' first
   | (refine zdE zaS rfl ?_; refine zan (zh0 _ _ (by omega)) rfl ?_; simp)
   | (refine zeS (fun hb=>?_) (fun hb=>?_) <;> (try rw [hb]) <;> (try simp at hb) <;> simp [*])
  all_goals exact Le.var1 32 [] rfl rfl (nbz rfl) (by decide) rfl (by simp) (by simp) (by simp <;> exact wkB (by (try simp at *); grind [Fits]))
 refine zad _ rfl (fun h5=>?_) fun h5=>?_
 ·try simp at h5
  refine zaa ?_
  refine zac (s:=?s6) rfl ?o6 ?q6
  case o6=>simp; rfl
  refine zag ?_
  refine ⟨.inr rfl,?_⟩
  show zao [(4,some (true,3)),(5,none)] 0 _ _ _
  refine zao.out (vs:=[.agg [.I 0,.nilS,.nilS],.I 4]) [] [] (by simp) (by simp) (by simp) ?_ (by simp)
  have hr : zbM g e = (zc5,4):=by grind [zbM]
  simp [hr,zc5]
  exact wkT2 (wkA3 (.refl _) (.nil _ _) (.nil _ _)) (.refl _)
 try simp at h5
 refine zab ⟨103,[(2,.pv (gC g)),(3,.pv (eC e)),(4,.pt 32 0 0),(6,.I (idxE g.edges ⟨e.f,e.t,0⟩)),(7,.B (decide (AtE g.edges (idxE g.edges ⟨e.f,e.t,0⟩) e.f e.t))),(67,.B (decide (¬ (1 ≤ e.v ∧ e.v ≤ 3))))],[(32,some ⟨3,[[.I 0,.nilS,.nilS]],0⟩)],40⟩ rfl ?_ ?_
 ·simp
  repeat' first
   | (refine zeS (fun hb=>?_) (fun hb=>?_) <;> (try rw [hb]) <;> (try simp at hb) <;> simp [*])
  all_goals exact Le.var1 32 [] rfl rfl (nbz rfl) (by decide) rfl (by simp) (by simp) (by simp <;> exact wkB (by (try simp at *); grind [Fits]))
 refine zad _ rfl (fun h7=>?_) fun h7=>?_
 ·try simp at h7
  refine zaa ?_
  refine zac (s:=?s8) rfl ?o8 ?q8
  case o8=>simp; rfl
  refine zag ?_
  refine ⟨.inr rfl,?_⟩
  show zao [(4,some (true,3)),(5,none)] 0 _ _ _
  refine zao.out (vs:=[.agg [.I 0,.nilS,.nilS],.I 2]) [] [] (by simp) (by simp) (by simp) ?_ (by simp)
  have hr : zbM g e = (zc5,2):=by grind [zbM]
  simp [hr,zc5]
  exact wkT2 (wkA3 (.refl _) (.nil _ _) (.nil _ _)) (.refl _)
 try simp at h7
 refine zaa ?_
 refine zac (s:=?s9) rfl ?o9 ?q9
 case o9=>simp; rfl
 refine zad _ rfl (fun h10=>?_) fun h10=>?_
 ·try simp at h10
  refine zaa ?_
  refine zac (s:=?s11) rfl ?o11 ?q11
  case o11=>simp; rfl
  refine zag ?_
  refine ⟨.inr rfl,?_⟩
  show zao [(4,some (true,3)),(5,none)] 0 _ _ _
  refine zao.out (vs:=[.agg [.I 0,.nilS,.nilS],.I 19]) [] [] (by simp) (by simp) (by simp) ?_ (by simp)
  have hr : zbM g e = (zc5,19):=by grind [zbM]
  simp [hr,zc5]
  exact wkT2 (wkA3 (.refl _) (.nil _ _) (.nil _ _)) (.refl _)
 try simp at h10
 refine zaa ?_
 refine zac (s:=?s12) rfl ?o12 ?q12
 case o12=>simp; rfl
 refine zad _ rfl (fun h13=>?_) fun h13=>?_
 ·try simp at h13
  refine zaa ?_
  refine zac (s:=?s14) rfl ?o14 ?q14
  case o14=>simp; rfl
  refine zag ?_
  refine ⟨.inr rfl,?_⟩
  show zao [(4,some (true,3)),(5,none)] 0 _ _ _
  refine zao.out (vs:=[.agg [.I 0,.nilS,.nilS],.I 3]) [] [] (by simp) (by simp) (by simp) ?_ (by simp)
  have hr : zbM g e = (zc5,3):=by grind [zbM]
  simp [hr,zc5]
  exact wkT2 (wkA3 (.refl _) (.nil _ _) (.nil _ _)) (.refl _)
 try simp at h13
 refine zae ?_
 have hle:=zof g.edges ⟨e.f,e.t,0⟩
 refine zaa ?_
 refine zac (s:=?s20) rfl ?o20 ?q20
 case o20=>simp; refine zmk (zdY g hl hl2) rfl ?_; simp [fcd]; rfl
 have h500 : g.edges.length ≤ 500:=hg.1.2.2.1
 have hmin : min (idxE g.edges ⟨e.f,e.t,0⟩) g.edges.length = idxE g.edges ⟨e.f,e.t,0⟩:=Nat.min_eq_left hle
 have hr : zbM g e = (zhu g e,0):=by grind [zbM]
 rw [hr]
 unfold zhu
 generalize idxE g.edges ⟨e.f,e.t,0⟩ = k at *
 have htk : List.take (k + 1) (List.take k (List.map (fun e : Ed=>[AV.I e.f,AV.I e.t,AV.I e.v]) g.edges) ++ [[AV.I e.f,AV.I e.t,AV.I e.v]]) = List.take k (List.map (fun e : Ed=>[AV.I e.f,AV.I e.t,AV.I e.v]) g.edges) ++ [[AV.I e.f,AV.I e.t,AV.I e.v]]:=List.take_of_length_le (by simp; exact Nat.min_le_left _ _)
 obtain ⟨E,hE⟩ : ∃ E,E = g.edges.take k ++ e :: g.edges.drop k:=⟨_,rfl⟩
 have hEl : k + 1 + (g.edges.length - k) = E.length:=by subst hE; simp; omega
 have hrows : List.take k (List.map (fun e : Ed=>[AV.I e.f,AV.I e.t,AV.I e.v]) g.edges) ++ [AV.I e.f,AV.I e.t,AV.I e.v] :: List.drop k (List.map (fun e : Ed=>[AV.I e.f,AV.I e.t,AV.I e.v]) g.edges) = E.map fun e : Ed=>[AV.I e.f,AV.I e.t,AV.I e.v]:=by subst hE; simp [List.map_take,List.map_drop]
 rw [← hE]
 refine zaa ?_
 refine zcO (s:=?s15) (tr:=?t15) rfl ?o15 ?r15 ?q15
 case o15 =>
  simp [hmin,hle,htk,hEl,hrows]
  repeat' apply And.intro
  all_goals first | omega | rfl
 case r15=>rfl
 refine zaa ?_
 refine zac (s:=?s16) rfl ?o16 ?q16
 case o16=>simp; rfl
 refine zag ?_
 refine ⟨.inr rfl,?_⟩
 show zao [(4,some (true,3)),(5,none)] 0 _ _ _
 refine zao.out (vs:=[.agg [.I g.size,.rs 224 0 E.length,.rs 105 0 g.gone.length],.I 0]) [] [224,105] (by simp) (by simp) (by simp) ?_ (by simp)
 simp [fcd,zaD]
end Go.Proofs.Ytfdbhehkkobfgaa
namespace Go.Proofs
open Go.Shelf
def Try.lays189_ren : Go.Shelf.Ren:=⟨fun | 189=>67 | 125=>81 | 257=>80 | 128=>96 | 129=>86 | 294=>87 | 295=>88 | 296=>89 | 297=>90 | 298=>91 | 299=>92 | 216=>93 | 300=>94 | 301=>95 | 328=>99 | 329=>100 | 330=>101 | 331=>102 | 332=>103 | 215=>76 | 343=>105 | n=>n,fun | 28=>22 | 3=>3 | 46=>85 | 0=>0 | 51=>114 | 53=>42 | 4=>4 | 183=>108 | 182=>107 | 131=>63 | 5=>5 | 9=>9 | 218=>117 | 222=>121 | 228=>123 | 229=>124 | n=>n,fun | n=>n⟩
theorem Try.lays189 : Go.Proofs.Lays.n189 Try.prog Try.lays189_ren:={
 mixed:=by kernel_rfl
 f125:=Try.func81.trans (congrArg some (by kernel_rfl))
 f128:=Try.func96.trans (congrArg some (by kernel_rfl))
 f129:=Try.func86.trans (congrArg some (by kernel_rfl))
 f189:=Try.func67.trans (congrArg some (by kernel_rfl))
 f215:=Try.func76.trans (congrArg some (by kernel_rfl))
 f216:=Try.func93.trans (congrArg some (by kernel_rfl))
 f257:=Try.func80.trans (congrArg some (by kernel_rfl))
 f294:=Try.func87.trans (congrArg some (by kernel_rfl))
 f295:=Try.func88.trans (congrArg some (by kernel_rfl))
 f296:=Try.func89.trans (congrArg some (by kernel_rfl))
 f297:=Try.func90.trans (congrArg some (by kernel_rfl))
 f298:=Try.func91.trans (congrArg some (by kernel_rfl))
 f299:=Try.func92.trans (congrArg some (by kernel_rfl))
 f300:=Try.func94.trans (congrArg some (by kernel_rfl))
 f301:=Try.func95.trans (congrArg some (by kernel_rfl))
 f328:=Try.func99.trans (congrArg some (by kernel_rfl))
 f329:=Try.func100.trans (congrArg some (by kernel_rfl))
 f330:=Try.func101.trans (congrArg some (by kernel_rfl))
 f331:=Try.func102.trans (congrArg some (by kernel_rfl))
 f332:=Try.func103.trans (congrArg some (by kernel_rfl))
 f343:=Try.func105.trans (congrArg some (by kernel_rfl))
 t0:=Try.underlying0
 a0:=Try.isAgg0
 z0:=Try.sizeOf0
 v0:=Try.zeroValue0
 t3:=Try.underlying3
 a3:=Try.isAgg3
 z3:=Try.sizeOf3
 v3:=Try.zeroValue3
 t4:=Try.underlying4
 a4:=Try.isAgg4
 z4:=Try.sizeOf4
 v4:=Try.zeroValue4
 t5:=Try.underlying5
 a5:=Try.isAgg5
 z5:=Try.sizeOf5
 v5:=Try.zeroValue5
 t9:=Try.underlying9
 a9:=Try.isAgg9
 z9:=Try.sizeOf9
 v9:=Try.zeroValue9
 t28:=Try.underlying22
 a28:=Try.isAgg22
 z28:=Try.sizeOf22
 v28:=Try.zeroValue22
 t46:=Try.underlying85
 a46:=Try.isAgg85
 z46:=Try.sizeOf85
 v46:=Try.zeroValue85
 t51:=Try.underlying114
 a51:=Try.isAgg114
 z51:=Try.sizeOf114
 v51:=Try.zeroValue114
 t53:=Try.underlying42
 a53:=Try.isAgg42
 z53:=Try.sizeOf42
 v53:=Try.zeroValue42
 t131:=Try.underlying63
 a131:=Try.isAgg63
 z131:=Try.sizeOf63
 v131:=Try.zeroValue63
 t182:=Try.underlying107
 a182:=Try.isAgg107
 z182:=Try.sizeOf107
 v182:=Try.zeroValue107
 t183:=Try.underlying108
 a183:=Try.isAgg108
 z183:=Try.sizeOf108
 v183:=Try.zeroValue108
 t218:=Try.underlying117
 a218:=Try.isAgg117
 z218:=Try.sizeOf117
 v218:=Try.zeroValue117
 t222:=Try.underlying121
 a222:=Try.isAgg121
 z222:=Try.sizeOf121
 v222:=Try.zeroValue121
 t228:=Try.underlying123
 a228:=Try.isAgg123
 z228:=Try.sizeOf123
 v228:=Try.zeroValue123
 t229:=Try.underlying124
 a229:=Try.isAgg124
 z229:=Try.sizeOf124
 v229:=Try.zeroValue124 }
end Go.Proofs
namespace Go.Proofs.Ytfdbhehkkobfgaa
open Go
def zdf (l : List Int) : List (List AV):=l.map fun n=>[AV.I n]
theorem Src.body {P : Program} {f : FuncId} {af : AFun} (s : Src P f af) : ∃ fn c,P.funcs[f]? = some fn ∧ fn.body = some c ∧ fn.name ≠ "runtime.NumGoroutine":=by
 obtain ⟨_,fn,hf,hc,hn⟩:=s
 unfold zpU at hc
 cases hb : fn.body with
 | none=>rw [hb] at hc; cases hc
 | some c=>exact ⟨fn,c,hf,hb,hn⟩
theorem zo9 (zs : List Int) (h0 : zs ≠ []) (hl : zs.length < 4611686018427387904) :
  zaj Try.prog zaU [.rs 0 0 zs.length] [{ s:=1,rows:=zdf zs }] (.tup []) ([{ s:=1,rows:=zdf (zs.mergeSort fun x y=>decide (x ≤ y)) }].map some):=by
 refine ⟨zcF.body,by simp,fun T M w vs htok hhs hdom hrep=>?_⟩
 have hpos : 0 < zs.length:=List.length_pos_iff.2 h0
 obtain ⟨hsz,hr⟩:=hrep
 have hr0:=hr 0 (by simp)
 simp only [List.getD_cons_zero] at hr0
 have hvs : vs = #[vs.getD 0 undef]:=by
  apply Array.ext
  ·simpa using hsz
  ·intro i h1 h2
   have : i = 0:=by simp at h2; omega
   subst this
   simp [Array.getD,h1]
 rw [hvs]
 generalize vs.getD 0 undef = v at hr0
 cases hr0 with
 | rs _ _ _ _ cap a g hg hgz hlc hn hb =>
 obtain ⟨g',hg',ent⟩:=hhs.ent 0 _ rfl
 rw [hg] at hg'
 obtain rfl:=Option.some.inj hg'
 have hrl : (zdf zs).length = zs.length:=by simp [zdf]
 cases hblk : g.blk with
 | none =>
   have:=ent.none hblk
   simp [zdf] at this
   exact absurd this h0
 | some b =>
 obtain ⟨hcap,c0,t0,f0,hc0,hle0⟩:=hb b hblk
 obtain ⟨cells,ty,hw,htb,hlen,hrows⟩:=ent.blk (Nat.succ_ne_zero 0) b hblk
 have ha : a = some ⟨b,g.base + 0 * g.s,none⟩:=by
  rcases hcap with h | h
  ·omega
  ·exact h
 subst ha
 simp only [Nat.zero_mul,Nat.add_zero] at *
 have hcell : ∀ i,(hi : i < zs.length) → cells[g.base + i]? = some (.int .i64 zs[i]):=by
  intro i hi
  obtain ⟨u,hu,_,hru⟩:=hrows i 0 (by rw [hrl]; exact hi) (by decide)
  simp only [Nat.mul_one,Nat.add_zero] at hu
  rw [hu]
  have : ((zdf zs).getD i []).getD 0 .dead = .I zs[i]:=by simp [zdf,List.getD,hi]
  rw [this] at hru
  cases hru
  rfl
 have hb' : b < w.heap.size:=(Array.getElem?_eq_some_iff.1 hw).1
 refine (Any.slices_Sort_int Try.lays189 b g.base cap zs w ?_ hb' hl).mono ?_
 ·intro j hj
  have hj' : j < zs.length:=by simpa using hj
  constructor
  ·show w.cell? _ = _
   unfold World.cell?
   simp only [hw]
   rw [hcell j hj']
   simp [hj']
  ·unfold World.frozen?
   simp only [hw]
   simp
 ·rintro e w' ⟨rfl,n,os,rfl⟩
  have hsl : (zs.mergeSort fun x y=>decide (x ≤ y)).length = zs.length:=List.length_mergeSort zs
  generalize (zs.mergeSort fun x y=>decide (x ≤ y)) = ys at hsl
  have hh : ∀ b',b' < w.heap.size → (Go.Sort.grow (Go.Sort.putRow (Value.int .i64) (Go.Sort.ahead w n) b g.base ys.toArray) os).heap[b']? = if b' = b then some (.cells (Go.Sort.putCells (Value.int .i64) g.base ys.toArray cells) ty (0,0)) else w.heap[b']?:=by
   intro b' hb1
   have hsz' : (w.heap.modify b (Go.Sort.onCells (Go.Sort.putCells (Value.int .i64) g.base ys.toArray))).size = w.heap.size:=Array.size_modify
   show ((w.heap.modify b (Go.Sort.onCells (Go.Sort.putCells (Value.int .i64) g.base ys.toArray))) ++ os)[b']? = _
   rw [Array.getElem?_append_left (by rw [hsz']; exact hb1),Array.getElem?_modify]
   by_cases hbb : b = b'
   ·subst hbb
    rw [if_pos rfl,if_pos rfl,hw]
    rfl
   ·rw [if_neg hbb,if_neg (Ne.symm hbb)]
  have hput : ∀ o,(o < g.base ∨ g.base + ys.length ≤ o) → (Go.Sort.putCells (Value.int .i64) g.base ys.toArray cells)[o]? = cells[o]?:=by
   intro o ho
   unfold Go.Sort.putCells
   rw [Array.getElem?_mapIdx]
   cases hc : cells[o]? with
   | none=>rfl
   | some u =>
     simp only [Option.map_some]
     rw [if_neg]
     simp
     omega
  have hput2 : ∀ i,(hi : i < ys.length) → (Go.Sort.putCells (Value.int .i64) g.base ys.toArray cells)[g.base + i]? = some (.int .i64 ys[i]):=by
   intro i hi
   unfold Go.Sort.putCells
   rw [Array.getElem?_mapIdx,hcell i (by omega)]
   simp only [Option.map_some]
   rw [if_pos (by simp; omega)]
   simp [hi]
  have hcs : (Go.Sort.putCells (Value.int .i64) g.base ys.toArray cells).size = cells.size:=by
   unfold Go.Sort.putCells
   exact Array.size_mapIdx
  have hbig : w.heap.size ≤ (Go.Sort.grow (Go.Sort.putRow (Value.int .i64) (Go.Sort.ahead w n) b g.base ys.toArray) os).heap.size:=by
   show w.heap.size ≤ ((w.heap.modify b _) ++ os).size
   rw [Array.size_append,Array.size_modify]
   omega
  have htb' : T b ≤ g.base:=by simpa using htb
  generalize hw' : (Go.Sort.grow (Go.Sort.putRow (Value.int .i64) (Go.Sort.ahead w n) b g.base ys.toArray) os) = w' at hh hbig
  have hlt : ∀ b' o,w.heap[b']? = some o → b' < w.heap.size:=fun b' o h=>(Array.getElem?_eq_some_iff.1 h).1
  have hpr : Pres T w T w':=by
   refine ⟨fun _=>Nat.le_refl _,fun b' cs' ty' fz' h=>?_⟩
   rw [hh b' (hlt _ _ h)]
   by_cases hbb : b' = b
   ·subst hbb
    rw [hw] at h
    cases h
    exact ⟨_,_,if_pos rfl,hcs,fun o ho=>hput o (.inl (by omega))⟩
   ·exact ⟨cs',fz',by rw [if_neg hbb]; exact h,rfl,fun _ _=>rfl⟩
  rw [zf0]
  refine ⟨_,T,M,rfl,.tup M [] #[] rfl (fun i hi=>by simp at hi),⟨fun id e he=>?_,fun id id' e e' g1 g2 b' h1 h2 h3 h4 h5 h6=>?_⟩,⟨fun b' hb1=>?_,fun _ _ _=>rfl,fun _ _=>rfl,?_,?_,?_,hbig,fun b' hb1 hb2=>?_,hpr,fun k g1 b' hk hg1 _=>?_⟩⟩
  ·have hid : id = 0:=by
    cases id with
    | zero=>rfl
    | succ k=>simp [hpOf] at he
   subst hid
   simp only [hpOf,List.getElem?_cons_zero,Option.some.injEq] at he
   subst he
   refine ⟨g,hg,⟨ent.s,Nat.zero_le _,fun _ row hr=>?_,fun hn=>(by rw [hblk] at hn; cases hn),fun hz=>absurd hz (Nat.succ_ne_zero 0),fun _ b' hb1=>?_⟩⟩
   ·simp [zdf] at hr
    obtain ⟨x,_,rfl⟩:=hr
    rfl
   ·rw [hblk] at hb1
    obtain rfl:=Option.some.inj hb1
    refine ⟨_,ty,by rw [hh _ hb',if_pos rfl],by simpa using htb',by simp [zdf,hcs,hsl]; simpa [zdf] using hlen,fun i j hi hj=>?_⟩
    have hi' : i < ys.length:=by simpa [zdf] using hi
    have hj' : j = 0:=by simp at hj; omega
    subst hj'
    refine ⟨.int .i64 ys[i],by simpa using hput2 i hi',rfl,?_⟩
    have : ((zdf ys).getD i []).getD 0 .dead = .I ys[i]:=by simp [zdf,List.getD,hi']
    rw [this]
    exact .sc _ _ rfl
  ·have h0 : ∀ id e,hpOf [({ s:=1,rows:=zdf ys } : Ent)] id = some e → id = 0:=by
    intro id e he
    cases id with
    | zero=>rfl
    | succ k=>simp [hpOf] at he
   rw [h0 _ _ h1,h0 _ _ h2]
  ·obtain ⟨c1,ty1,fz1,h1,h2⟩:=htok b' hb1
   obtain ⟨c2,fz2,h3,h4,_⟩:=hpr.cell b' c1 ty1 fz1 h1
   exact ⟨c2,ty1,fz2,h3,by omega⟩
  ·rw [← hw']; rfl
  ·rw [← hw']; rfl
  ·rw [← hw']; rfl
  ·rw [hh b' hb1,if_neg]
   intro hbb
   exact hb2 ⟨0,g,by simp,hg,by rw [hblk,hbb]⟩
  ·rw [hdom k hk] at hg1
   cases hg1
theorem zgr.refl {n : Nat} {T : Nat → Nat} {M : GM} {w : World} (htok : TOk T w) (hdom : ∀ k,n ≤ k → M k = none) : zgr n T M w T M w :=
 ⟨htok,fun _ _ _=>rfl,fun _ _=>rfl,rfl,rfl,rfl,Nat.le_refl _,fun _ _ _=>rfl,⟨fun _=>Nat.le_refl _,fun _ cells _ fz h=>⟨cells,fz,h,rfl,fun _ _=>rfl⟩⟩,fun k g b hk h=>by rw [hdom k hk] at h; cases h⟩
theorem arr1 {vs : Array Value} (h : vs.size = 1) : vs = #[vs.getD 0 undef]:=by
 apply Array.ext
 ·simpa using h
 ·intro i h1 h2
  have : i = 0:=by simp at h2; omega
  subst this
  simp [Array.getD,h1]
theorem zph (zs : List Int) (hl : zs.length < 4611686018427387904) :
  zaj Try.prog zaU [.rs 0 0 zs.length] [{ s:=1,rows:=zdf zs }] (.tup []) ([{ s:=1,rows:=zdf (zs.mergeSort fun x y=>decide (x ≤ y)) }].map some):=by
 by_cases h0 : zs = []
 ·subst h0
  refine ⟨zcF.body,by simp,fun T M w vs htok hhs hdom hrep=>?_⟩
  obtain ⟨hsz,hr⟩:=hrep
  have hr0:=hr 0 (by simp)
  simp only [List.getD_cons_zero] at hr0
  rw [arr1 hsz]
  generalize vs.getD 0 undef = v at hr0
  cases hr0 with
  | rs _ _ _ _ cap a g hg hgz hlc hn hb =>
  refine (Any.slices_Sort_int_none Try.lays189 a cap w).mono ?_
  rintro e w' ⟨rfl,rfl⟩
  exact ⟨_,T,M,rfl,.tup M [] #[] rfl (fun i hi=>by simp at hi),by rw [zf0]; simpa using hhs,zgr.refl htok hdom⟩
 ·exact zo9 zs h0 hl
end Go.Proofs.Ytfdbhehkkobfgaa
