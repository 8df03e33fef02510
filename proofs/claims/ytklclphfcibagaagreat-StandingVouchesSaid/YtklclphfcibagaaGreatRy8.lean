/- Texts of this claim,merged. -/
import Derived.Test.YtklclphfcibagaaGreatRy7
import Derived.Shelf.Sort.Plain
import Derived.Test.YtklclphfcibagaaGreatProg
import Derived.Shelf.Slices.In.SortNone
set_option linter.unusedSimpArgs false
set_option linter.unusedVariables false
set_option linter.unusedSectionVars false
namespace Go.Proofs.YtklclphfcibagaaGreat
open Go
section
variable {β : Type}
theorem zjk (n : Nat) (k : Nat → β) : fcN n k = k n:=by cases n <;> rfl
theorem zxz (n : Int) (k : Int → β) : fcI n k = k n:=by
 cases n <;> (unfold fcI; exact zjk _ _)
theorem zxe (v : Value) (k : Value → β) : fcV v k = k v:=by
 unfold fcV
 split
 ·exact zxz _ _
 ·rename_i b; cases b <;> rfl
 ·rfl
theorem zeT {α : Type} {f : α → (α → β) → β} (hf : ∀ x k,f x k = k x) : ∀ (l : List α) (k : List α → β),fcL f l k = k l
 | [],k=>rfl
 | x :: xs,k=>by
   show f x (fun x=>fcL f xs fun xs=>k (x :: xs)) = _
   rw [hf,zeT hf xs]
theorem zyo (d : Bool) {ih : AV → (AV → β) → β} (h : ∀ x k,ih x k = k x) (x : AV) (k : AV → β) : fcX d ih x k = k x:=by
 unfold fcX
 split <;> (try split) <;> simp only [zjk,zxe,zeT h,h,zeT (zeT h)]
theorem zlW (d : Bool) : ∀ (n : Nat) (x : AV) (k : AV → β),fcA d n x k = k x
 | 0,_,_=>rfl
 | n + 1,x,k=>zyo d (zlW d n) x k
theorem zsP (d : Bool) (e : Ent) (k : Ent → β) : fcE d e k = k e:=by
 obtain ⟨s,rows,ro⟩:=e
 simp only [fcE,zjk,zeT (zeT (zlW d 5))]
theorem zvx (d : Bool) (p : Nat × Option Ent) (k : Nat × Option Ent → β) : fcO d p k = k p:=by
 obtain ⟨i,e⟩:=p
 cases e <;> simp only [fcO,zjk,zsP]
end
theorem ze8 {i j : Nat} : Nat.beq i j = decide (i = j):=by
 cases h : Nat.beq i j with
 | true=>rw [decide_eq_true (Nat.eq_of_beq_eq_true h)]
 | false=>rw [decide_eq_false (Nat.ne_of_beq_eq_false h)]
theorem zsd {α : Type} : ∀ (l : List (Nat × α)) (j : Nat),lkB l j = lkp l j
 | [],_=>rfl
 | (i,x) :: l,j=>by
   show Bool.rec (motive:=fun _=>Option α) (lkB l j) (some x) (Nat.beq i j) = _
   rw [zsd l j,ze8,lkp]
   by_cases h : i = j
   ·rw [decide_eq_true h,if_pos h]
   ·rw [decide_eq_false h,if_neg h]
theorem zt5 {α : Type} (o : Option (Option α)) : zxP o = o.getD none:=by cases o <;> rfl
theorem zsH (h : List (Nat × Option Ent)) (id : Nat) : hpB h id = (lkp h id).getD none:=by
 unfold hpB
 rw [zsd,zt5]
theorem zhl (v : AV) (l r : TS) (i : Nat) : nthA (.nd v l r) (i + 1) = if i % 2 = 0 then nthA l (i / 2) else nthA r (i / 2):=by
 show Bool.rec (motive:=fun _=>AV) (nthA r (i / 2)) (nthA l (i / 2)) (Nat.beq (i % 2) 0) = _
 rw [ze8]
 by_cases h : i % 2 = 0
 ·rw [decide_eq_true h,if_pos h]
 ·rw [decide_eq_false h,if_neg h]
theorem znq {γ : Type} (v : AV) : ∀ (t : TS) (i : Nat),(∃ t',(∀ k : TS → Option γ,setA v t i k = k t') ∧ ∀ j,nthA t' j = if i = j then v else nthA t j) ∨ ∀ k : TS → Option γ,setA v t i k = none
 | .lf,_=>.inr fun _=>rfl
 | .nd x l r,0=>.inl ⟨.nd v l r,fun _=>rfl,fun j=>by
   cases j with
   | zero=>rfl
   | succ j=>rw [if_neg (by omega),zhl,zhl]⟩
 | .nd x l r,i + 1=>by
   have hu : ∀ k : TS → Option γ,setA v (.nd x l r) (i + 1) k = Bool.rec (motive:=fun _=>Option γ) (setA v r (i / 2) fun tr'=>k (.nd x l tr')) (setA v l (i / 2) fun tl'=>k (.nd x tl' r)) (Nat.beq (i % 2) 0):=fun _=>rfl
   by_cases h : i % 2 = 0
   ·rcases znq (γ:=γ) v l (i / 2) with ⟨t',h1,h2⟩ | h1
    ·refine .inl ⟨.nd x t' r,fun k=>by rw [hu,ze8,decide_eq_true h]; exact h1 _,fun j=>?_⟩
     cases j with
     | zero=>rw [if_neg (by omega)]; rfl
     | succ j =>
       rw [zhl,zhl,h2]
       by_cases hj : j % 2 = 0
       ·rw [if_pos hj,if_pos hj]
        by_cases he : i = j
        ·subst he; rw [if_pos rfl,if_pos rfl]
        ·rw [if_neg (by omega),if_neg (by omega)]
       ·rw [if_neg hj,if_neg hj,if_neg (by omega)]
    ·exact .inr fun k=>by rw [hu,ze8,decide_eq_true h]; exact h1 _
   ·rcases znq (γ:=γ) v r (i / 2) with ⟨t',h1,h2⟩ | h1
    ·refine .inl ⟨.nd x l t',fun k=>by rw [hu,ze8,decide_eq_false h]; exact h1 _,fun j=>?_⟩
     cases j with
     | zero=>rw [if_neg (by omega)]; rfl
     | succ j =>
       rw [zhl,zhl,h2]
       by_cases hj : j % 2 = 0
       ·rw [if_pos hj,if_pos hj,if_neg (by omega)]
       ·rw [if_neg hj,if_neg hj]
        by_cases he : i = j
        ·subst he; rw [if_pos rfl,if_pos rfl]
        ·rw [if_neg (by omega),if_neg (by omega)]
    ·exact .inr fun k=>by rw [hu,ze8,decide_eq_false h]; exact h1 _
theorem zky : ∀ (n i : Nat),nthA (zqJ n) i = .dead
 | 0,_=>rfl
 | n + 1,0=>rfl
 | n + 1,i + 1=>by
   have hu : zqJ (n + 1) = .nd .dead (zqJ n) (zqJ n):=rfl
   rw [hu,zhl,zky,ite_self]
theorem zpe {γ : Type} : ∀ (xs : List AV) (i : Nat) (t : TS) (k : TS → Option γ) (r : γ),argT xs i t k = some r → ∃ t',k t' = some r ∧ ∀ j,nthA t' j = if i ≤ j ∧ j < i + xs.length then xs.getD (j - i) .dead else nthA t j
 | [],i,t,k,r,h=>⟨t,h,fun j=>by rw [if_neg (by simp)]⟩
 | x :: xs,i,t,k,r,h=>by
   have h : setA x t i (fun t'=>argT xs (i + 1) t' k) = some r:=h
   rcases znq (γ:=γ) x t i with ⟨t1,h1,h2⟩ | h1
   ·rw [h1] at h
    obtain ⟨t2,h3,h4⟩:=zpe xs (i + 1) t1 k r h
    refine ⟨t2,h3,fun j=>?_⟩
    rw [h4,h2]
    simp only [List.length_cons]
    by_cases hj : i = j
    ·subst hj
     rw [if_neg (by omega),if_pos rfl,if_pos (by omega),Nat.sub_self]
     rfl
    ·by_cases hr : i ≤ j ∧ j < i + (xs.length + 1)
     ·rw [if_pos (by omega),if_pos hr,show j - i = (j - (i + 1)) + 1 by omega]
      rfl
     ·rw [if_neg (by omega),if_neg hj,if_neg hr]
   ·rw [h1] at h
    cases h
theorem zoH (i : Nat) : ∀ (l : List (Nat × Option Ent)),∃ l',(∀ k,ersH i l k = k l') ∧ ∀ j,lkp l' j = if j = i then none else lkp l j
 | []=>⟨[],fun _=>rfl,fun j=>by simp [lkp]⟩
 | (j,e) :: l=>by
   obtain ⟨l',h1,h2⟩:=zoH i l
   have hu : ∀ k,ersH i ((j,e) :: l) k = Bool.rec (motive:=fun _=>Rr) (ersH i l fun l'=>k ((j,e) :: l')) (ersH i l k) (Nat.beq j i):=fun _=>rfl
   by_cases hj : j = i
   ·refine ⟨l',fun k=>by rw [hu,ze8,decide_eq_true hj]; exact h1 k,fun j'=>?_⟩
    rw [h2]
    by_cases hj' : j' = i
    ·simp [hj']
    ·have : j ≠ j':=fun e=>hj' (e ▸ hj)
     simp [hj',lkp,this]
   ·refine ⟨(j,e) :: l',fun k=>by rw [hu,ze8,decide_eq_false hj]; exact h1 _,fun j'=>?_⟩
    simp only [lkp]
    by_cases hj' : j = j'
    ·subst hj'; simp [hj]
    ·simp [hj',h2]
theorem zpE : ∀ (up h : List (Nat × Option Ent)),∃ h',(∀ k,updH up h k = k h') ∧ ∀ id,(lkp h' id).getD none = (lkp (up ++ h) id).getD none
 | [],h=>⟨h,fun _=>rfl,fun _=>rfl⟩
 | (i,none) :: up,h=>by
   obtain ⟨h1,q1,q2⟩:=zpE up h
   obtain ⟨h2,r1,r2⟩:=zoH i h1
   refine ⟨h2,fun k=>by show updH up h (fun h=>ersH i h (updK (i,none) k)) = _; rw [q1,r1]; rfl,fun id=>?_⟩
   rw [r2,List.cons_append,lkp]
   by_cases hi : i = id
   ·subst hi; simp
   ·rw [if_neg (fun e=>hi e.symm),if_neg hi,q2]
 | (i,some e) :: up,h=>by
   obtain ⟨h1,q1,q2⟩:=zpE up h
   obtain ⟨h2,r1,r2⟩:=zoH i h1
   refine ⟨(i,some e) :: h2,fun k=>by show updH up h (fun h=>ersH i h (updK (i,some e) k)) = _; rw [q1,r1]; rfl,fun id=>?_⟩
   rw [List.cons_append,lkp,lkp]
   by_cases hi : i = id
   ·subst hi; simp
   ·rw [if_neg hi,if_neg hi,r2,if_neg (fun e=>hi e.symm),q2]
theorem zr9 (t : TS) : ∀ xs : List Opd,evXs t xs = xs.map (·.ev (nthA t))
 | []=>rfl
 | x :: xs=>by
   show x.ev (nthA t) :: evXs t xs = _
   rw [zr9 t xs]
   rfl
theorem zpO : ∀ xs : List AV,zts xs = true → ∀ x ∈ xs,∃ v,x = .sc v
 | [],_,x,hx=>(List.not_mem_nil hx).elim
 | y :: xs,h,x,hx=>by
   have hu : zts (y :: xs) = Bool.rec (motive:=fun _=>Bool) false (zts xs) (scB y):=rfl
   rw [hu] at h
   cases hy : scB y with
   | false=>rw [hy] at h; cases h
   | true =>
     rw [hy] at h
     rcases List.mem_cons.1 hx with rfl | hx
     ·unfold scB at hy
      split at hy
      ·exact ⟨_,rfl⟩
      ·cases hy
     ·exact zpO xs h x hx
theorem zsb (k : IntKind) : modF k = 2 ^ k.bits:=by cases k <;> rfl
theorem zuU (k : IntKind) : zgQ k = 2 ^ (k.bits - 1):=by cases k <;> rfl
theorem zpV (k : IntKind) : modF k = 2 * zgQ k ∧ 0 < zgQ k:=by cases k <;> exact ⟨rfl,by decide⟩
theorem zta (k : IntKind) (n : Int) : (natF k n : Int) = n % ((2 ^ k.bits : Nat) : Int):=by
 have h0 : 0 < modF k:=by have:=zpV k; omega
 rw [← zsb]
 cases n with
 | ofNat m=>simp [natF]
 | negSucc m =>
   simp only [natF]
   generalize hM : modF k = M at *
   have h1:=Nat.div_add_mod m M
   have h2:=Nat.mod_lt m h0
   have h3 : Int.negSucc m = ((M - 1 - m % M : Nat) : Int) + (M : Int) * (-((m / M : Nat) : Int) - 1):=by
    rw [Int.negSucc_eq]
    have h4 : ((M - 1 - m % M : Nat) : Int) = (M : Int) - 1 - ((m % M : Nat) : Int):=by omega
    have h5 : (m : Int) = (M : Int) * ((m / M : Nat) : Int) + ((m % M : Nat) : Int):=by exact_mod_cast h1.symm
    rw [h4,h5,Int.mul_sub,Int.mul_neg]
    have h6 : ((M * (m / M) + m % M : Nat) : Int) = (m : Int):=by exact_mod_cast h1
    omega
   rw [h3,Int.add_mul_emod_self_left,Int.emod_eq_of_lt (by omega) (by omega)]
theorem zwD (k : IntKind) (r : Nat) (hr : r < modF k) : cutF k.signed (modF k) (zgQ k) r = if k.signed && decide ((r : Int) ≥ (2 ^ (k.bits - 1) : Int)) then (r : Int) - (2 ^ k.bits : Int) else r:=by
 have e1 : (2 ^ k.bits : Int) = ((modF k : Nat) : Int):=by rw [zsb]; norm_cast
 have e2 : (2 ^ (k.bits - 1) : Int) = ((zgQ k : Nat) : Int):=by rw [zuU]; norm_cast
 rw [e1,e2]
 unfold cutF
 have e3 : (decide ((r : Int) ≥ ((zgQ k : Nat) : Int))) = Nat.ble (zgQ k) r:=by
  rw [Bool.eq_iff_iff,decide_eq_true_eq,Nat.ble_eq]
  omega
 rw [e3]
 cases hc : (k.signed && Nat.ble (zgQ k) r) with
 | true =>
   simp only [cond_true,if_true]
   rw [Int.negSucc_eq]
   omega
 | false=>simp
theorem zj0 (k : IntKind) (n : Int) : zkq k n = k.wrap n:=by
 have h2:=zpV k
 have e1 : (2 ^ k.bits : Int) = ((2 ^ k.bits : Nat) : Int):=by norm_cast
 have hlt : natF k n < modF k:=by cases n <;> simp only [natF] <;> first | exact Nat.mod_lt _ (by omega) | omega
 have main : cutF k.signed (modF k) (zgQ k) (natF k n) = k.wrap n:=by
  rw [zwD k _ hlt]
  unfold IntKind.wrap
  simp only
  rw [zta,← e1]
 rw [← main]
 cases n with
 | ofNat m =>
   simp only [zkq,natF]
   cases hb : Nat.blt m (zgQ k) with
   | true =>
     have hm : m < zgQ k:=by simpa [Nat.blt_eq] using hb
     rw [cond_true,Nat.mod_eq_of_lt (by omega)]
     unfold cutF
     have : Nat.ble (zgQ k) m = false:=by
      cases h : Nat.ble (zgQ k) m with
      | false=>rfl
      | true=>have:=nbz h; omega
     rw [this,Bool.and_false,cond_false]
   | false=>rfl
 | negSucc m=>rfl
theorem zp8 (n : Nat) : (2 : Int) ^ n = Int.ofNat (Nat.pow 2 n):=by
 show (2 : Int) ^ n = ((2 ^ n : Nat) : Int)
 norm_cast
theorem zxN {k k' : IntKind} : Nat.beq (kN k) (kN k') = decide (k = k'):=by cases k <;> cases k' <;> rfl
theorem zsR (a b : Int) : ltF a b = decide (a < b):=by
 unfold ltF
 cases a <;> cases b <;> simp only <;> rw [Bool.eq_iff_iff] <;> simp [Nat.blt_eq] <;> omega
theorem zve (a b : Int) : eqF a b = (a == b):=by
 unfold eqF
 cases a <;> cases b <;> simp only [ze8] <;> rw [Bool.eq_iff_iff] <;> simp <;> omega
theorem zsY (m n : Nat) : minF m n = min m n:=by
 unfold minF
 cases h : Nat.ble m n with
 | true=>have:=nbz h; rw [cond_true]; omega
 | false =>
   have : ¬ m ≤ n:=fun h2=>by rw [Nat.ble_eq_true_of_le h2] at h; cases h
   rw [cond_false]; omega
theorem zsj (k k' : IntKind) (a b : Int) : shlF k a b = binV .shl (.int k a) (.int k' b):=by
 unfold shlF
 cases b with
 | ofNat n=>simp only [binV,zj0,zp8,zsY]; simp
 | negSucc n=>simp only [binV]; rw [if_neg (by omega)]
theorem zrL (k k' : IntKind) (a b : Int) : shrF k a b = binV .shr (.int k a) (.int k' b):=by
 unfold shrF
 cases b with
 | ofNat n =>
   simp only [binV,zp8,zsY]
   rw [if_pos (by simp)]
   cases a with
   | ofNat m =>
     have h : ∀ q : Nat,(Int.ofNat m).fdiv (Int.ofNat q) = Int.ofNat (m / q):=fun q=>(Int.ofNat_fdiv m q).symm
     simp only [h]
     rfl
   | negSucc m=>rfl
 | negSucc n=>simp only [binV]; rw [if_neg (by omega)]
theorem zwB (k : IntKind) (a b : Int) : quoF k a b = binV .quo (.int k a) (.int k b):=by
 unfold quoF
 split
 ·simp only [binV,if_true,zj0]
  rw [if_neg (by simp; omega)]
  cases a <;> rfl
 ·rfl
theorem zwz (k : IntKind) (a b : Int) : remF k a b = binV .rem (.int k a) (.int k b):=by
 unfold remF
 split
 ·simp only [binV,if_true]
  rw [if_neg (by simp; omega)]
  cases a <;> rfl
 ·rfl
theorem zwn (op : BinOp) (k : IntKind) (a b : Int) : intF op k a b = binV op (.int k a) (.int k b):=by
 have hb : ∀ z : Int,(BitVec.ofInt k.bits z).toNat = natF k z:=fun z=>by
  have h1:=BitVec.toNat_ofInt (n:=k.bits) z
  rw [h1]
  have h2:=zta k z
  omega
 unfold intF
 cases op <;> simp only [zsj k k,zrL k k,zwB,zwz] <;> (try rfl)
 all_goals simp only [binV,if_true,zj0,zsR,zve]
 all_goals first
  | rfl
  | (simp only [BitVec.toNat_and,BitVec.toNat_or,BitVec.toNat_xor,hb]; rfl)
  | (congr 2; rw [Bool.eq_iff_iff]; simp)
  | (congr 2; rw [Bool.eq_iff_iff]; simp; done)
theorem zwE (op : BinOp) (x y : Value) : binF op x y = binV op x y:=by
 unfold binF
 split
 ·rename_i k a
  split
  ·rename_i k' b
   rw [zxN]
   by_cases h : k = k'
   ·subst h
    rw [decide_eq_true rfl,cond_true,zwn]
   ·rw [decide_eq_false h,cond_false]
    unfold mixF
    split
    ·exact zsj _ _ _ _
    ·exact zrL _ _ _ _
    ·rfl
  ·rfl
 ·rfl
theorem zj9 : ∀ (n : Nat) (x : AV),zjt n x = true → Plain x
 | 0,_,h=>by cases h
 | n + 1,x,h=>by
   have ih:=zj9 n
   have hl : ∀ xs : List AV,xs.all (zjt n) = true → ∀ i : Nat,Plain (xs.getD i .dead):=by
    intro xs hx i
    simp only [List.getD]
    cases hi : xs[i]? with
    | none=>exact .dead
    | some y=>exact ih y (List.all_eq_true.1 hx y (List.mem_of_getElem? hi))
   unfold zjt at h
   split at h
   ·exact .dead
   ·exact .sc _
   ·exact .agg _ (hl _ h)
   ·exact .tup _ (hl _ h)
   ·exact .rs _ _ _
   ·exact .pt _ _ _
   ·exact .mp _
   ·cases h
theorem WkL.self : ∀ xs : List AV,WkL xs xs
 | []=>trivial
 | x :: xs=>⟨.refl x,WkL.self xs⟩
theorem zlb : ∀ l : List Nat,znS l = true → l.Nodup
 | [],_=>List.nodup_nil
 | i :: is,h=>by
   simp only [znS,Bool.and_eq_true,Bool.not_eq_true',List.contains_eq_mem,decide_eq_false_iff_not] at h
   exact List.nodup_cons.2 ⟨h.1,zlb is h.2⟩
theorem zqw : ∀ (l : List (Option Ent)) (es : List Ent),ztX l = some es → l = es.map some
 | [],es,h=>by cases h; rfl
 | none :: _,_,h=>by cases h
 | some e :: l,es,h=>by
   unfold ztX at h
   split at h
   ·rename_i es' h'; cases h; rw [List.map_cons,← zqw l es' h']
   ·cases h
section
variable {P : Program} {sp : List FuncId} {cf : Cf} (hcf : ∀ f a b r c,cf f a b = some (r,c) → zao P f a b r c)
include hcf
def zwf (P : Program) (np id : Nat) (h : Nat → Option Ent) (f : FuncId) (xs : List AV) (K : AV → List Nat → List (Nat × Option Ent) → Prop) : Prop :=
    ∃ (ids sn : List Nat) (raise : Bool) (args' : List AV) (hs : List Ent) (res : AV) (hs' : List (Option Ent)),
      ids.Nodup ∧ (∀ i ∈ sn,i ∉ ids) ∧ (raise = true → ∀ i ∈ sn,np ≤ i) ∧ WkL (xs.map (conv ids.zipIdx sn h 4)) args' ∧
      ids.map (fun i=>(h i).map (zaw ids.zipIdx sn h 4)) = hs.map some ∧ zao P f args' hs res hs' ∧ hs'.length ≤ hs.length + 8 ∧
      (raise = true ∨ (Plain res ∧ ∀ e,some e ∈ hs' → zgS e)) ∧
      K (conv ((ids ++ (List.range 8).map (id + ·)).zipIdx.map fun (a,b)=>(b,a)) [] (fun _=>none) 4 res) (ids ++ sn)
        ((hs'.zipIdx.map fun (e,k)=>((ids ++ (List.range 8).map (id + ·)).getD k 0,e.map (zaw ((ids ++ (List.range 8).map (id + ·)).zipIdx.map fun (a,b)=>(b,a)) [] (fun _=>none) 4))) ++
         (if raise then sn.filterMap (fun i=>(h i).map fun e=>(i,some { e with ro:=e.rows.length })) else []))
omit hcf in
theorem zmb {np np' id : Nat} {h h' : Nat → Option Ent} {f : FuncId} {xs : List AV} {v : AV} {rd : List Nat} {up : List (Nat × Option Ent)} {ids sn : List Nat} {raise : Bool} {args' : List AV} {hs : List Ent} {res : AV} {hs' : List (Option Ent)}
  (hwk : WkL (xs.map (conv ids.zipIdx sn h 4)) args') (hids : ids.map (fun i=>(h i).map (zaw ids.zipIdx sn h 4)) = hs.map some) (hc : zao P f args' hs res hs') (hpl : raise = true ∨ (Plain res ∧ ∀ e,some e ∈ hs' → zgS e))
  (e : zna ids sn np' id hs.length h' res hs' raise = some (v,rd,up)) (hsn : sn = [] ∨ (np' = np ∧ h' = h)) {K : AV → List Nat → List (Nat × Option Ent) → Prop} (hk : K v rd up) : zwf P np id h f xs K:=by
 unfold zna at e
 cases hck : zoU ids sn np' hs.length raise hs' with
 | false=>rw [hck] at e; cases e
 | true =>
   rw [hck] at e
   simp only [cond_true,Option.some.injEq,Prod.mk.injEq] at e
   obtain ⟨rfl,rfl,rfl⟩:=e
   unfold zoU at hck
   simp only [Bool.and_eq_true,Bool.or_eq_true,Bool.not_eq_true',Nat.ble_eq,List.all_eq_true,List.contains_eq_mem,decide_eq_false_iff_not] at hck
   obtain ⟨c1,c2,c3,c4⟩:=hck
   refine ⟨ids,sn,raise,args',hs,res,hs',zlb _ c1,c2,fun hr i hi=>?_,hwk,hids,hc,c4,hpl,?_⟩
   ·rcases hsn with rfl | ⟨rfl,_⟩
    ·exact (List.not_mem_nil hi).elim
    ·rcases c3 with h1 | h1
     ·rw [hr] at h1; cases h1
     ·exact h1 i hi
   ·rcases hsn with rfl | ⟨_,rfl⟩
    ·have : zqe ids [] id h' raise hs' = zqe ids [] id h raise hs':=by unfold zqe; simp
     rw [this] at hk
     exact hk
    ·exact hk
theorem zkW {np id : Nat} {h : Nat → Option Ent} {f : FuncId} {xs : List AV} {v : AV} {rd : List Nat} {up : List (Nat × Option Ent)} {deep : Bool} {ids sn : List Nat} (e : zow cf np id h f xs deep ids sn = some (v,rd,up))
  {K : AV → List Nat → List (Nat × Option Ent) → Prop} (hk : K v rd up) : zwf P np id h f xs K:=by
 unfold zow at e
 rw [zeT (zlW _ 6)] at e
 split at e
 ·cases e
 rename_i hs0 hseq
 rw [zeT (zsP _)] at e
 unfold zsm at e
 split at e
 ·cases e
 rename_i res hs' hcall
 refine zmb (WkL.self _) (zqw _ _ hseq) (hcf _ _ _ _ _ hcall) ?_ e (.inr ⟨rfl,rfl⟩) hk
 split
 ·exact .inl rfl
 ·cases hs : (!(zjt 5 res && hs'.all zvo)) with
  | true=>exact .inl rfl
  | false =>
    right
    simp only [Bool.not_eq_false',Bool.and_eq_true] at hs
    refine ⟨zj9 _ _ hs.1,fun e he row hrow x hx=>?_⟩
    have h1:=List.all_eq_true.1 hs.2 _ he
    exact zj9 _ _ (List.all_eq_true.1 (List.all_eq_true.1 h1 row hrow) x hx)
theorem zoF {np id : Nat} {h : Nat → Option Ent} {f : FuncId} {xs : List AV} {v : AV} {rd : List Nat} {up : List (Nat × Option Ent)} (e : zqy sp cf np id h f xs = some (v,rd,up))
  {K : AV → List Nat → List (Nat × Option Ent) → Prop} (hk : K v rd up) : zwf P np id h f xs K:=by
 unfold zqy at e
 split at e
 ·rename_i hsc
  have hx : xs.map (conv ([] : List Nat).zipIdx [] h 4) = xs:=by
   have : xs.map (conv ([] : List Nat).zipIdx [] h 4) = xs.map (fun x=>x):=List.map_congr_left fun x hx=>by
    obtain ⟨v,rfl⟩:=zpO xs hsc x hx
    rfl
   rw [this,List.map_id']
  unfold zp3 at e
  split at e
  ·rename_i v0 hcall
   cases e
   exact ⟨[],[],true,xs,[],.sc v0,[],List.nodup_nil,by simp,by simp,by rw [hx]; exact WkL.self _,rfl,hcf _ _ _ _ _ hcall,by simp,.inl rfl,by simpa [conv] using hk⟩
  ·rename_i res hs' _ hcall
   exact zmb (hs:=[]) (by rw [hx]; exact WkL.self _) rfl (hcf _ _ _ _ _ hcall) (.inl rfl) e (.inl rfl) hk
  ·cases e
 ·simp only [zeT (zjk (β:=Rs3))] at e
  split at e
  ·exact zkW hcf e hk
  ·split at e
   ·exact zkW hcf e hk
   ·exact zkW hcf e hk
omit hcf in
theorem zrs {lo hi : Bool} {n l r : Nat} {bs : List AV} (h : zpi lo hi n bs = some (l,r)) : bs = (if lo then [AV.I l] else []) ++ (if hi then [AV.I r] else []) ∧ (lo = false → l = 0) ∧ (hi = false → r = n):=by
 unfold zpi at h
 split at h
 ·cases h; simp
 ·split at h
  ·rename_i hp; cases h; simp [Int.toNat_of_nonneg hp]
  ·cases h
 ·split at h
  ·rename_i hp; cases h; simp [Int.toNat_of_nonneg hp]
  ·cases h
 ·split at h
  ·rename_i hp; cases h; simp [Int.toNat_of_nonneg hp.1,Int.toNat_of_nonneg hp.2]
  ·cases h
 ·cases h
theorem zvD {np id : Nat} {h : Nat → Option Ent} {op : AOp} {xs : List AV} {v : AV} {rd : List Nat} {up : List (Nat × Option Ent)} (e : aEv sp cf np id h op xs = some (v,rd,up))
  {K : AV → List Nat → List (Nat × Option Ent) → Prop} (hk : K v rd up) : aK P np id op xs h K:=by
 cases op <;> simp only [aEv] at e
 case app s b =>
  unfold zyi at e
  split at e
  ·rename_i x y
   split at e
   ·cases e
   ·rename_i x hx
    rw [zl3 (fun ⟨i,o,l,c,e⟩=>hx i o l c e)]
    split at e
    ·rename_i new hnew
     split at e
     ·rename_i old hold
      split at e
      ·rename_i hc
       cases e
       exact ⟨new,old,hnew,hold,hc.1,hc.2,hk⟩
      ·cases e
     ·cases e
    ·cases e
  ·cases e
 case slc s lo hi mx =>
  cases mx with
  | true=>simp only at e; cases e
  | false =>
    simp only at e
    unfold zxg at e
    split at e
    rotate_left
    ·cases e
    unfold aK
    dsimp only
    split at e
    ·cases e
    rename_i n hn
    split at e
    ·cases e
    rename_i l r hlr
    obtain ⟨c1,c2,c3⟩:=zrs hlr
    split at e
    ·rename_i hc
     refine ⟨l,r,0,n,hn,hc.1,by simpa using c1,c2,c3,fun h=>(by cases h),?_⟩
     unfold zx3 at e
     split at e
     ·split at e
      ·rename_i hs
       cases e
       refine ⟨hc.2,fun h=>(by cases h),hs,?_⟩
       simpa using hk
      ·cases e
     ·split at e
      ·rename_i e0 he0
       split at e
       ·rename_i hs; cases e; exact ⟨hc.2,rfl,⟨_,he0,hs⟩,hk⟩
       ·cases e
      ·cases e
     ·cases e; exact ⟨hc.2,fun h=>(by cases h),hk⟩
     ·cases e
    ·cases e
 all_goals first
  | (cases e; done)
  | delta e_mv at e | delta zvn at e | delta zru at e | delta zyt at e | delta zsu at e | delta zw5 at e | delta e_ld at e | delta e_st at e | delta zxO at e | delta zxt at e | delta zyv at e | delta zxU at e | delta zvk at e
  | delta e_un at e | delta zyj at e | delta zxB at e | delta zxj at e | delta zyb at e | delta zxd at e | delta zxK at e | delta zx4 at e | delta zx0 at e | delta zx6 at e | delta zxc at e | delta zw7 at e | delta zxx at e | delta zvX at e | delta zvB at e
  | delta zxQ at e | delta zvR at e | delta zxp at e | delta zx9 at e | delta zxZ at e | delta zyr at e | delta zxR at e | delta zx7 at e | delta zwW at e | delta zyh at e | delta zxk at e | delta zxm at e | delta zyd at e | delta zxJ at e
 all_goals (try dsimp only at e)
 case mkf=>cases e; exact hk
 case mkb=>cases e; exact hk
 case build z ps =>
  split at e
  ·rename_i hcs; cases e; unfold aK; exact ⟨_,hcs,hk⟩
  ·cases e
 case bsl s len z ps =>
  split at e
  ·rename_i hcs
   split at e
   ·rename_i hc; cases e; unfold aK; exact ⟨_,hcs,hc,hk⟩
   ·cases e
  ·cases e
 all_goals split at e
 all_goals first
  | (simp only [Option.some.injEq,Prod.mk.injEq,zj0] at e; obtain ⟨rfl,rfl,rfl⟩:=e; exact hk)
  | cases e
  | skip
 all_goals (unfold aK; dsimp only)
 ·exact ⟨_,rfl,hk⟩
 ·split at e
  ·rename_i hcs
   split at e
   ·rename_i hc; cases e; exact ⟨_,hcs,hc,hk⟩
   ·cases e
  ·cases e
 ·split at e
  ·rename_i hcs
   split at e
   ·rename_i hc; cases e; exact ⟨_,hcs,hc,hk⟩
   ·cases e
  ·cases e
 ·split at e
  ·rename_i e0 he0
   split at e
   ·rename_i hr hcs
    split at e
    ·rename_i hc; cases e; exact ⟨_,_,_,he0,hr,hc.1,hcs,hc.2.1,hc.2.2,hk⟩
    ·cases e
   ·cases e
  ·cases e
 ·exact ⟨trivial,hk⟩
 ·exact ⟨trivial,hk⟩
 ·exact ⟨trivial,hk⟩
 ·rw [zwE] at e
  split at e
  ·rename_i hcs; cases e; exact ⟨_,hcs,hk⟩
  ·cases e
 ·split at e
  ·rename_i hcs; cases e; exact ⟨_,hcs,hk⟩
  ·cases e
 ·split at e
  ·rename_i hcs; cases e; exact ⟨_,hcs,hk⟩
  ·cases e
 ·split at e
  ·rename_i hr
   split at e
   ·rename_i hb; cases e; exact ⟨_,_,hr,hb,hk⟩
   ·cases e
  ·cases e
 ·split at e
  ·rename_i hc; cases e; exact ⟨hc.1,hc.2.1,hc.2.2.1,hc.2.2.2.1,hc.2.2.2.2,hk⟩
  ·cases e
 ·split at e
  ·rename_i hc; cases e; exact ⟨hc,hk⟩
  ·cases e
 ·split at e
  ·rename_i hc; cases e; exact ⟨hc,hk⟩
  ·cases e
 ·split at e
  ·rename_i hc
   split at e
   ·rename_i hr; cases e; exact ⟨hc.1,hc.2,_,hr,hk⟩
   ·cases e
  ·cases e
 ·split at e
  ·rename_i e0 he0
   split at e
   ·rename_i hc; cases e; exact ⟨hc.1,hc.2.1,⟨_,he0,hc.2.2⟩,hk⟩
   ·cases e
  ·cases e
 ·split at e
  ·rename_i hc; cases e; exact ⟨hc.1,hc.2,hk⟩
  ·cases e
 ·split at e
  ·rename_i hc; cases e; exact ⟨hc.1,hc.2.1,hc.2.2,hk⟩
  ·cases e
 ·split at e
  ·rename_i hc
   split at e
   ·rename_i hr; cases e; exact ⟨hc,_,hr,hk⟩
   ·cases e
  ·cases e
 ·split at e
  ·rename_i hc; cases e; exact ⟨hc.1,hc.2.1,hc.2.2,hk⟩
  ·cases e
 ·split at e
  ·rename_i hcs; cases e; exact ⟨_,hcs,hk⟩
  ·cases e
 ·exact zoF hcf e hk
 ·split at e
  ·rename_i hcs
   split at e
   ·rename_i hc; cases e; exact ⟨_,hcs,hc,hk⟩
   ·cases e
  ·cases e
 ·split at e
  ·rename_i hcs; cases e; exact ⟨_,hcs,hk⟩
  ·cases e
 ·split at e
  ·rename_i h1 h2
   split at e
   ·rename_i hc; cases e; exact ⟨_,_,h1,hc.1,hc.2.1,hc.2.2,h2,hk⟩
   ·cases e
  ·cases e
 ·split at e
  ·rename_i h1
   split at e
   ·rename_i hc; cases e; exact ⟨_,h1,hc.1,hc.2.1,hc.2.2.1,hc.2.2.2,hk⟩
   ·cases e
  ·cases e
 ·split at e
  ·rename_i hc; cases e; exact ⟨hc.1,hc.2.1,hc.2.2.1,hc.2.2.2,hk⟩
  ·cases e
 ·split at e
  ·rename_i h1
   split at e
   ·rename_i hc; cases e; exact ⟨_,h1,hc,hk⟩
   ·cases e
  ·cases e
 ·split at e
  ·rename_i h1
   split at e
   ·rename_i hc; cases e; exact ⟨_,h1,hc,hk⟩
   ·cases e
  ·cases e
 ·split at e
  ·rename_i h1
   split at e
   ·rename_i hc; cases e; exact ⟨_,h1,hc,hk⟩
   ·cases e
  ·cases e
 ·split at e
  ·rename_i f hf
   obtain ⟨a1,a2,a3,a4,a5,a6,a7,h⟩:=zoF hcf e hk
   exact ⟨f,a1,a2,a3,a4,a5,a6,a7,hf,h⟩
  ·cases e
structure zf3 (st : St) (s : RS) : Prop where
 sz : st.sz = s.sz
 n : st.n = s.n
 t : st.get = s.get
 h : st.hp = s.hp
omit hcf in
theorem zf3.put {st : St} {s : RS} (a : zf3 st s) {d : Nat} {v : AV} {t' : TS} (ht : ∀ j,nthA t' j = if d = j then v else nthA s.t j) : zf3 (st.put (some d) v) { s with t:=t' }:=by
 refine ⟨a.sz,a.n,?_,a.h⟩
 funext i
 have h1:=congrFun a.t i
 unfold RS.get St.get St.put at *
 rw [ht]
 simp only [lkp]
 by_cases hi : d = i
 ·subst hi
  rw [if_pos rfl,if_pos rfl]
  rfl
 ·rw [if_neg hi,if_neg hi]
  exact h1
omit hcf in
theorem zf3.upd {st : St} {s : RS} (a : zf3 st s) {up h : List (Nat × Option Ent)} (hh : ∀ id,(lkp h id).getD none = (lkp (up ++ s.h) id).getD none) : zf3 (st.upd up) { s with h:=h }:=by
 refine ⟨a.sz,a.n,a.t,?_⟩
 funext id
 have h1:=congrFun a.h id
 unfold RS.hp at *
 rw [zsH] at *
 show (lkp (up ++ st.h) id).getD none = (lkp h id).getD none
 rw [hh]
 have key : ∀ u : List (Nat × Option Ent),(lkp (u ++ st.h) id).getD none = (lkp (u ++ s.h) id).getD none:=by
  intro u
  induction u with
  | nil=>exact h1
  | cons q u ih =>
    obtain ⟨j,e⟩:=q
    simp only [List.cons_append,lkp]
    split
    ·rfl
    ·exact ih
 exact key up
omit hcf in
theorem zwt (b : Option Bool) (want : Bool) : eqOB b want = decide (b = some want):=by
 cases b with
 | none=>rfl
 | some b=>cases b <;> cases want <;> rfl
theorem zqF {np n : Nat} : ∀ (ops : List zbI) (i : Nat) (st : St) (s : RS) (tr : List (List Nat × List Nat)) (k : Nat → TS → List (Nat × Option Ent) → List (List Nat × List Nat) → Rr) (r : zcP × RS) (K : St → List (List Nat × List Nat) → Prop),
  zf3 st s → znl sp cf s.sz np ops (n + 8 * i) k s.t s.h tr = some r → (∀ st' s' tr',s'.sz = s.sz → zf3 st' s' → k (n + 8 * (i + ops.length)) s'.t s'.h tr' = some r → K { st' with n:=st.n } tr') →
  zbh P np n i ops st tr (fun st' tr'=>K { st' with n:=st.n } tr') ∧ (ops.all fun o=>o.dst.all (· < s.sz)) = true
 | [],i,st,s,tr,k,r,K,ag,e,hK=>⟨hK st s tr rfl ag e,rfl⟩
 | o :: os,i,st,s,tr,k,r,K,ag,e,hK=>by
   have ih:=fun (st' : St) (s' : RS) (tr' : List (List Nat × List Nat)) (hn : st'.n = st.n) (hsz : s'.sz = s.sz) (ag' : zf3 st' s') (e' : znl sp cf s.sz np os (n + 8 * (i + 1)) k s'.t s'.h tr' = some r)=>zqF os (i + 1) st' s' tr' k r K ag' (by rw [hsz]; exact e') (fun st2 s2 tr2 q1 q2 q3=>by
    have:=hK st2 s2 tr2 (q1.trans hsz) q2 (by rw [show i + (o :: os).length = i + 1 + os.length by simp; omega]; exact q3)
    rw [hn]
    exact this)
   have hu : znl sp cf s.sz np (o :: os) (n + 8 * i) k s.t s.h tr = fcN (n + 8 * i + 8) fun id'=>zsf sp cf s.sz np (n + 8 * i) o (znl sp cf s.sz np os id' k) s.t s.h tr:=rfl
   rw [hu,zjk,show n + 8 * i + 8 = n + 8 * (i + 1) by omega] at e
   have hset : ∀ (v : AV) (d : Nat) (h : List (Nat × Option Ent)) (tr' : List (List Nat × List Nat)),setA v s.t d (zwb (znl sp cf s.sz np os (n + 8 * (i + 1)) k) h tr') = some r → ∃ t',(∀ j,nthA t' j = if d = j then v else nthA s.t j) ∧ znl sp cf s.sz np os (n + 8 * (i + 1)) k t' h tr' = some r:=by
    intro v d h tr' hs
    rcases znq (γ:=zcP × RS) v s.t d with ⟨t',h1,h2⟩ | h1
    ·rw [h1] at hs
     exact ⟨t',h2,hs⟩
    ·rw [h1] at hs
     cases hs
   have hgo : opGo sp cf s.sz np (n + 8 * i) o (znl sp cf s.sz np os (n + 8 * (i + 1)) k) s.t s.h tr = some r →
    (aK P np (n + 8 * i) o.op (o.xs.map (·.ev st.get)) st.hp fun v rd up=>zbh P np n (i + 1) os ((st.put o.dst v).upd up) (tr ++ [(rd,up.map (·.1))]) (fun st' tr'=>K { st' with n:=st.n } tr')) ∧ ((o :: os).all fun o=>o.dst.all (· < s.sz)) = true:=by
    intro h
    unfold opGo at h
    rw [zr9] at h
    have e1 : nthA s.t = st.get:=ag.t.symm
    have e2 : hpB s.h = st.hp:=ag.h.symm
    rw [e1,e2] at h
    unfold zxi at h
    split at h
    ·cases h
    rename_i v rd up hev
    rw [zeT (zvx false)] at h
    unfold zvf at h
    obtain ⟨h',q1,q2⟩:=zpE up s.h
    rw [q1] at h
    unfold zvp at h
    rw [List.all_cons]
    split at h
    ·rename_i hdst
     have hx:=ih ((st.put none v).upd up) { s with h:=h' } _ rfl rfl (ag.upd q2) h
     refine ⟨zvD hcf hev ?_,by rw [hdst,hx.2]; rfl⟩
     rw [hdst]
     exact hx.1
    ·rename_i d hdst
     split at h
     rotate_left
     ·cases h
     rename_i hlt
     rw [zlW] at h
     obtain ⟨t',ht',h⟩:=hset _ _ _ _ h
     have hx:=ih ((st.put (some d) v).upd up) { s with t:=t',h:=h' } _ rfl rfl ((ag.put ht').upd (s:={ s with t:=t' }) q2) h
     refine ⟨zvD hcf hev ?_,by rw [hdst,hx.2]; simpa [Nat.blt_eq] using hlt⟩
     rw [hdst]
     exact hx.1
   unfold zsf at e
   unfold zbh
   split at e
   ·rename_i hg
    simp only [hg]
    exact hgo e
   ·rename_i gg want hg
    simp only [hg]
    unfold opGd at e
    split at e
    ·cases e
    ·rename_i b hb
     have hb' : gdV (st.get gg) = some b:=by rw [ag.t]; exact hb
     rw [zwt] at e
     split at e
     ·rename_i hbw
      have hbw:=of_decide_eq_true hbw
      obtain ⟨h1,h2⟩:=hgo e
      exact ⟨⟨b,hb',by rw [if_pos hbw]; exact h1⟩,h2⟩
     ·rename_i hbw
      have hbw:=of_decide_eq_false hbw
      unfold zvj at e
      rw [List.all_cons]
      split at e
      ·rename_i hdst
       have hx:=ih st s _ rfl rfl ag e
       exact ⟨⟨b,hb',by rw [if_neg hbw,hdst]; exact hx.1⟩,by rw [hdst,hx.2]; rfl⟩
      ·rename_i d hdst
       split at e
       rotate_left
       ·cases e
       rename_i hlt
       obtain ⟨t',ht',h⟩:=hset _ _ _ _ e
       have hx:=ih (st.put (some d) (.tup [])) { s with t:=t' } _ rfl rfl (ag.put ht') h
       exact ⟨⟨b,hb',by rw [if_neg hbw,hdst]; exact hx.1⟩,by rw [hdst,hx.2]; simpa [Nat.blt_eq] using hlt⟩
theorem zdn {np lf : Nat} : ∀ (c : zdu) (s : RS) (r : zcP × RS),zii sp cf np lf c s = some r → ∀ st,zf3 st s → awp P np c (fun e t=>e = r.1 ∧ zf3 t r.2) st
 | .skip,s,r,h,st,ag=>by cases h; exact ⟨rfl,ag⟩
 | .reg draw ops after,⟨sz,t,hh,n⟩,r,h,st,ag=>by
   have h : znl sp cf sz np ops n (zsz draw ops after sz) t hh [] = some r:=h
   have hn : st.n = n:=ag.n
   have hx:=zqF hcf (n:=n) ops 0 st ⟨sz,t,hh,n⟩ [] _ r (fun st' tr=>(draw = true → zdE ops after tr = true) ∧ zcP.normal = r.1 ∧ zf3 { st' with n:=st.n + 8 * ops.length } r.2) ag (by rw [Nat.mul_zero,Nat.add_zero]; exact h) (fun st' s' tr' q1 q2 q3=>by
    rw [Nat.zero_add] at q3
    unfold zsz at q3
    have q1 : s'.sz = sz:=q1
    split at q3
    ·cases q3
     exact ⟨fun h=>(by cases h),rfl,⟨q2.sz.trans q1,by rw [hn],q2.t,q2.h⟩⟩
    ·split at q3
     ·rename_i ho
      cases q3
      exact ⟨fun _=>ho,rfl,⟨q2.sz.trans q1,by rw [hn],q2.t,q2.h⟩⟩
     ·cases q3)
   refine ⟨by rw [ag.sz]; exact hx.2,?_⟩
   rw [hn]
   refine zch _ _ _ _ _ _ _ (fun st' tr' hq=>?_) hx.1
   rw [hn] at hq
   exact hq
 | .seq a b,s,r,h,st,ag=>by
   have h : seqK (zii sp cf np lf b) (zii sp cf np lf a s) = some r:=h
   unfold seqK at h
   show awp P np a _ st
   split at h
   ·rename_i s' ha
    refine zb2 (fun e t ht=>?_) (zdn a s _ ha st ag)
    obtain ⟨rfl,ag'⟩:=ht
    exact ⟨t,Le.refl _ _,zdn b s' r h t ag'⟩
   ·rename_i hno
    obtain ⟨e0,s0⟩:=r
    refine zb2 (fun e t ht=>?_) (zdn a s _ h st ag)
    obtain ⟨rfl,ag'⟩:=ht
    cases e with
    | normal=>exact absurd h (hno s0)
    | exit id=>exact ⟨rfl,ag'⟩
    | ret=>exact ⟨rfl,ag'⟩
 | .cond c a b,s,r,h,st,ag=>by
   have h : zv4 (zii sp cf np lf a) (zii sp cf np lf b) s (c.ev s.get) = some r:=h
   unfold zv4 at h
   split at h
   ·rename_i hc
    exact ⟨true,by rw [ag.t]; exact hc,zdn a s r h st ag⟩
   ·rename_i hc
    exact ⟨false,by rw [ag.t]; exact hc,zdn b s r h st ag⟩
   ·cases h
 | .block id a,s,r,h,st,ag=>by
   have h : zsO id (zii sp cf np lf a s) = some r:=h
   unfold zsO at h
   show awp P np a _ st
   split at h
   ·rename_i i s' ha
    refine zb2 (fun e t ht=>?_) (zdn a s _ ha st ag)
    obtain ⟨rfl,ag'⟩:=ht
    simp only
    rw [ze8] at h
    split at h
    ·rename_i hi; cases h; rw [if_pos (of_decide_eq_true hi)]; exact ⟨rfl,ag'⟩
    ·rename_i hi; cases h; rw [if_neg (of_decide_eq_false hi)]; exact ⟨rfl,ag'⟩
   ·rename_i hno
    obtain ⟨e0,s0⟩:=r
    refine zb2 (fun e t ht=>?_) (zdn a s _ h st ag)
    obtain ⟨rfl,ag'⟩:=ht
    cases e with
    | normal=>exact ⟨rfl,ag'⟩
    | exit id=>exact absurd h (hno id s0)
    | ret=>exact ⟨rfl,ag'⟩
 | .loop a,s,r,h,st,ag=>by
   have h : zpT (zii sp cf np lf a) lf s = some r:=h
   refine ⟨fun k t=>∃ s',zf3 t s' ∧ zpT (zii sp cf np lf a) k s' = some r,⟨st,lf,Le.refl _ _,s,ag,h⟩,?_⟩
   rintro k t ⟨s',ag',h'⟩
   match k,h' with
   | 0,h'=>cases h'
   | k + 1,h' =>
     have h' : (match zii sp cf np lf a s' with | some (.normal,s2)=>zpT (zii sp cf np lf a) k s2 | r=>r) = some r:=h'
     split at h'
     ·rename_i s2 ha
      refine zb2 (fun e t ht=>?_) (zdn a s' _ ha t ag')
      obtain ⟨rfl,ag2⟩:=ht
      exact ⟨t,k,Le.refl _ _,⟨s2,ag2,h'⟩,Nat.lt_succ_self k⟩
     ·rename_i hno
      obtain ⟨e0,s0⟩:=r
      refine zb2 (fun e t ht=>?_) (zdn a s' _ h' t ag')
      obtain ⟨rfl,ag2⟩:=ht
      cases e with
      | normal=>exact absurd h' (hno s0)
      | exit id=>exact ⟨rfl,ag2⟩
      | ret=>exact ⟨rfl,ag2⟩
 | .exit id,s,r,h,st,ag=>by cases h; exact ⟨rfl,ag⟩
 | .ret,s,r,h,st,ag=>by cases h; exact ⟨rfl,ag⟩
 | .bad,s,r,h,st,ag=>by cases h
omit hcf in
theorem zqf {st : St} {s : RS} (ag : zf3 st s) : ∀ l,ze0 st l = zkd s l
 | []=>rfl
 | r :: rs=>by
   have h1 : zib st r = zo0 s r:=by
    unfold zib zo0
    rw [ag.t,ag.h]
    rfl
   rw [ze0,zkd,zqf ag rs,h1]
   rfl
omit hcf in
theorem zop {np : Nat} {s : RS} {vs : List AV} {small : Bool} {ex sn : List Nat} {res : AV} {hs' : List (Option Ent)} (h : zqo np s vs small ex sn = some (res,hs')) : np ≤ hs'.length ∧
  ∀ (st : St) (rs : List (Nat × Option (Bool × Nat))),zf3 st s → zkd s rs = some vs → zat rs np st res hs':=by
 unfold zqo at h
 split at h
 ·rename_i hc
  simp only [Bool.and_eq_true,List.all_eq_true,Nat.ble_eq,Bool.not_eq_true',List.contains_eq_mem,decide_eq_false_iff_not] at hc
  obtain ⟨c1,c2,c3⟩:=hc
  rw [zlW,zeT (fun o k=>by cases o <;> simp only [zsP])] at h
  cases h
  refine ⟨by simp,fun st rs ag hvs=>⟨vs,by rw [zqf ag]; exact hvs,ex,sn,zlb _ c1,c2,c3,?_,?_⟩⟩
  ·rw [ag.h]; exact .refl _
  ·rw [ag.h]
 ·cases h
omit hcf in
theorem zqD {rs : List (Nat × Option (Bool × Nat))} {np : Nat} {s : RS} {res : AV} {hs' : List (Option Ent)} (h : zq0 rs np s = some (res,hs')) : np ≤ hs'.length ∧ ∀ st,zf3 st s → zat rs np st res hs':=by
 unfold zq0 at h
 split at h
 ·cases h
 rename_i vs hvs
 simp only [zeT (zjk (β:=Option (AV × List (Option Ent))))] at h
 split at h
 ·obtain ⟨h1,h2⟩:=zop h
  exact ⟨h1,fun st ag=>h2 st rs ag hvs⟩
 ·obtain ⟨h1,h2⟩:=zop h
  exact ⟨h1,fun st ag=>h2 st rs ag hvs⟩
theorem zt8 {lf : Nat} {f : FuncId} {af : AFun} (s : Src P f af) {args : List AV} {hs : List Ent} {res : AV} {hs' : List (Option Ent)} (h : zuh sp cf lf af args hs = some (res,hs')) : zao P f args hs res hs':=by
 unfold zuh at h
 split at h
 ·rename_i hc
  simp only [Bool.and_eq_true,Nat.ble_eq] at hc
  rw [zeT (zlW _ _)] at h
  obtain ⟨t',h,ht'⟩:=zpe _ _ _ _ _ h
  rw [zeT (zvx _),zjk] at h
  have ag : zf3 (zfj af args hs) ⟨af.nt,t',hs.zipIdx.map fun (e,k)=>(k,some e),16⟩:=by
   refine ⟨rfl,rfl,?_,by funext id; unfold RS.hp; rw [zsH]; rfl⟩
   funext i
   unfold St.get RS.get zfj
   rw [ht',zky]
   simp only
   have key : ∀ (l : List AV) (m i : Nat),(lkp ((l.zipIdx m).map fun (a,i)=>(i,a)) (m + i)).getD .dead = l.getD i .dead:=by
    intro l
    induction l with
    | nil=>intro m i; simp [lkp]
    | cons a l ih =>
      intro m i
      simp only [List.zipIdx_cons,List.map_cons,lkp]
      cases i with
      | zero=>simp
      | succ i =>
        rw [if_neg (by omega)]
        have:=ih (m + 1) i
        rw [show m + (i + 1) = m + 1 + i by omega,this]
        rfl
   have h1:=key args 0 i
   rw [Nat.zero_add] at h1
   rw [h1]
   split
   ·rw [Nat.sub_zero]
   ·rename_i hi
    rw [List.getD_eq_getElem?_getD,List.getElem?_eq_none (by omega)]
    rfl
  have fin : ∀ (e0 : zcP) (s0 : RS),e0 = .normal ∨ e0 = .ret → zii sp cf hs.length lf af.code ⟨af.nt,t',hs.zipIdx.map fun (e,k)=>(k,some e),16⟩ = some (e0,s0) → zq0 af.res hs.length s0 = some (res,hs') → zao P f args hs res hs':=by
   intro e0 s0 he hr hret
   have hw:=zdn hcf _ _ _ hr _ ag
   obtain ⟨hl,hro⟩:=zqD hret
   refine s.acalls hc.1 hc.2 hl (zb2 (fun e t ht=>?_) hw)
   obtain ⟨rfl,ag'⟩:=ht
   exact ⟨he,hro t ag'⟩
  unfold zqg at h
  split at h
  ·rename_i s0 hr; exact fin _ s0 (.inl rfl) hr h
  ·rename_i s0 hr; exact fin _ s0 (.inr rfl) hr h
  ·cases h
 ·cases h
end
theorem zbp {P : Program} {sp : List FuncId} {ext : Cf} {tbl : List (FuncId × AFun)} (he : ∀ f a b r c,ext f a b = some (r,c) → zao P f a b r c) (ht : ∀ q ∈ tbl,Src P q.1 q.2) (lf : Nat) :
  ∀ (d : Nat) (f : FuncId) (a : List AV) (b : List Ent) (r : AV) (c : List (Option Ent)),evN sp ext tbl lf d f a b = some (r,c) → zao P f a b r c
 | 0,_,_,_,_,_,h=>by cases h
 | d + 1,f,a,b,r,c,h=>by
   have h : evX (ext f a b) (evT tbl (fun af=>zuh sp (evN sp ext tbl lf d) lf af a b) f) = some (r,c):=h
   unfold evX at h
   split at h
   ·rename_i hx; cases h; exact he _ _ _ _ _ hx
   ·unfold evT at h
    rw [zsd] at h
    split at h
    ·rename_i af hl
     exact zt8 (zbp he ht lf d) (ht _ (zbK hl)) h
    ·cases h
theorem zaU {α β : Type} (f : α → β) (l : List α) : List.take l.length (List.map f l) = List.map f l:=List.take_of_length_le (by simp)
end Go.Proofs.YtklclphfcibagaaGreat
namespace Go.Proofs
open Go.Shelf
def Tryz.lays189_ren : Go.Shelf.Ren:=⟨fun | 189=>136 | 125=>194 | 257=>193 | 128=>266 | 129=>267 | 294=>257 | 295=>258 | 296=>259 | 297=>260 | 298=>261 | 299=>262 | 216=>263 | 300=>264 | 301=>265 | 328=>290 | 329=>291 | 330=>292 | 331=>293 | 332=>294 | 215=>269 | 343=>324 | n=>n,fun | 28=>22 | 3=>3 | 46=>228 | 0=>0 | 51=>268 | 53=>270 | 4=>4 | 183=>293 | 182=>292 | 131=>288 | 5=>5 | 9=>9 | 218=>319 | 222=>323 | 228=>362 | 229=>254 | n=>n,fun | n=>n⟩
theorem Tryz.lays189 : Go.Proofs.Lays.n189 Tryz.prog Tryz.lays189_ren:={
 mixed:=by kernel_rfl
 f125:=Tryz.func194.trans (congrArg some (by kernel_rfl))
 f128:=Tryz.func266.trans (congrArg some (by kernel_rfl))
 f129:=Tryz.func267.trans (congrArg some (by kernel_rfl))
 f189:=Tryz.func136.trans (congrArg some (by kernel_rfl))
 f215:=Tryz.func269.trans (congrArg some (by kernel_rfl))
 f216:=Tryz.func263.trans (congrArg some (by kernel_rfl))
 f257:=Tryz.func193.trans (congrArg some (by kernel_rfl))
 f294:=Tryz.func257.trans (congrArg some (by kernel_rfl))
 f295:=Tryz.func258.trans (congrArg some (by kernel_rfl))
 f296:=Tryz.func259.trans (congrArg some (by kernel_rfl))
 f297:=Tryz.func260.trans (congrArg some (by kernel_rfl))
 f298:=Tryz.func261.trans (congrArg some (by kernel_rfl))
 f299:=Tryz.func262.trans (congrArg some (by kernel_rfl))
 f300:=Tryz.func264.trans (congrArg some (by kernel_rfl))
 f301:=Tryz.func265.trans (congrArg some (by kernel_rfl))
 f328:=Tryz.func290.trans (congrArg some (by kernel_rfl))
 f329:=Tryz.func291.trans (congrArg some (by kernel_rfl))
 f330:=Tryz.func292.trans (congrArg some (by kernel_rfl))
 f331:=Tryz.func293.trans (congrArg some (by kernel_rfl))
 f332:=Tryz.func294.trans (congrArg some (by kernel_rfl))
 f343:=Tryz.func324.trans (congrArg some (by kernel_rfl))
 t0:=Tryz.underlying0
 a0:=Tryz.isAgg0
 z0:=Tryz.sizeOf0
 v0:=Tryz.zeroValue0
 t3:=Tryz.underlying3
 a3:=Tryz.isAgg3
 z3:=Tryz.sizeOf3
 v3:=Tryz.zeroValue3
 t4:=Tryz.underlying4
 a4:=Tryz.isAgg4
 z4:=Tryz.sizeOf4
 v4:=Tryz.zeroValue4
 t5:=Tryz.underlying5
 a5:=Tryz.isAgg5
 z5:=Tryz.sizeOf5
 v5:=Tryz.zeroValue5
 t9:=Tryz.underlying9
 a9:=Tryz.isAgg9
 z9:=Tryz.sizeOf9
 v9:=Tryz.zeroValue9
 t28:=Tryz.underlying22
 a28:=Tryz.isAgg22
 z28:=Tryz.sizeOf22
 v28:=Tryz.zeroValue22
 t46:=Tryz.underlying228
 a46:=Tryz.isAgg228
 z46:=Tryz.sizeOf228
 v46:=Tryz.zeroValue228
 t51:=Tryz.underlying268
 a51:=Tryz.isAgg268
 z51:=Tryz.sizeOf268
 v51:=Tryz.zeroValue268
 t53:=Tryz.underlying270
 a53:=Tryz.isAgg270
 z53:=Tryz.sizeOf270
 v53:=Tryz.zeroValue270
 t131:=Tryz.underlying288
 a131:=Tryz.isAgg288
 z131:=Tryz.sizeOf288
 v131:=Tryz.zeroValue288
 t182:=Tryz.underlying292
 a182:=Tryz.isAgg292
 z182:=Tryz.sizeOf292
 v182:=Tryz.zeroValue292
 t183:=Tryz.underlying293
 a183:=Tryz.isAgg293
 z183:=Tryz.sizeOf293
 v183:=Tryz.zeroValue293
 t218:=Tryz.underlying319
 a218:=Tryz.isAgg319
 z218:=Tryz.sizeOf319
 v218:=Tryz.zeroValue319
 t222:=Tryz.underlying323
 a222:=Tryz.isAgg323
 z222:=Tryz.sizeOf323
 v222:=Tryz.zeroValue323
 t228:=Tryz.underlying362
 a228:=Tryz.isAgg362
 z228:=Tryz.sizeOf362
 v228:=Tryz.zeroValue362
 t229:=Tryz.underlying254
 a229:=Tryz.isAgg254
 z229:=Tryz.sizeOf254
 v229:=Tryz.zeroValue254 }
end Go.Proofs
namespace Go.Proofs.YtklclphfcibagaaGreat
open Go
def zeS (l : List Int) : List (List AV):=l.map fun n=>[AV.I n]
theorem Src.body {P : Program} {f : FuncId} {af : AFun} (s : Src P f af) : ∃ fn c,P.funcs[f]? = some fn ∧ fn.body = some c ∧ fn.name ≠ "runtime.NumGoroutine":=by
 obtain ⟨_,fn,hf,hc,hn⟩:=s
 unfold zss at hc
 cases hb : fn.body with
 | none=>rw [hb] at hc; cases hc
 | some c=>exact ⟨fn,c,hf,hb,hn⟩
theorem zr8 (zs : List Int) (h0 : zs ≠ []) (hl : zs.length < 4611686018427387904) :
  zao Tryz.prog zaZ [.rs 0 0 zs.length] [{ s:=1,rows:=zeS zs }] (.tup []) ([{ s:=1,rows:=zeS (zs.mergeSort fun x y=>decide (x ≤ y)) }].map some):=by
 refine ⟨zbY.body,by simp,fun T M w vs htok hhs hdom hrep=>?_⟩
 have hpos : 0 < zs.length:=List.length_pos_iff.2 h0
 obtain ⟨hsz,hr⟩:=hrep
 have hr0:=hr 0 (by simp)
 simp only [List.getD_cons_zero] at hr0
 have hvs : vs = #[vs.getD 0 undef]:=by
  apply Array.ext
  ·simpa using hsz
  ·intro i h1 h2
   have : i = 0:=by simp at h2; omega
   subst this
   simp [Array.getD,h1]
 rw [hvs]
 generalize vs.getD 0 undef = v at hr0
 cases hr0 with
 | rs _ _ _ _ cap a g hg hgz hlc hn hb =>
 obtain ⟨g',hg',ent⟩:=hhs.ent 0 _ rfl
 rw [hg] at hg'
 obtain rfl:=Option.some.inj hg'
 have hrl : (zeS zs).length = zs.length:=by simp [zeS]
 cases hblk : g.blk with
 | none =>
   have:=ent.none hblk
   simp [zeS] at this
   exact absurd this h0
 | some b =>
 obtain ⟨hcap,c0,t0,f0,hc0,hle0⟩:=hb b hblk
 obtain ⟨cells,ty,hw,htb,hlen,hrows⟩:=ent.blk (Nat.succ_ne_zero 0) b hblk
 have ha : a = some ⟨b,g.base + 0 * g.s,none⟩:=by
  rcases hcap with h | h
  ·omega
  ·exact h
 subst ha
 simp only [Nat.zero_mul,Nat.add_zero] at *
 have hcell : ∀ i,(hi : i < zs.length) → cells[g.base + i]? = some (.int .i64 zs[i]):=by
  intro i hi
  obtain ⟨u,hu,_,hru⟩:=hrows i 0 (by rw [hrl]; exact hi) (by decide)
  simp only [Nat.mul_one,Nat.add_zero] at hu
  rw [hu]
  have : ((zeS zs).getD i []).getD 0 .dead = .I zs[i]:=by simp [zeS,List.getD,hi]
  rw [this] at hru
  cases hru
  rfl
 have hb' : b < w.heap.size:=(Array.getElem?_eq_some_iff.1 hw).1
 refine (Any.slices_Sort_int Tryz.lays189 b g.base cap zs w ?_ hb' hl).mono ?_
 ·intro j hj
  have hj' : j < zs.length:=by simpa using hj
  constructor
  ·show w.cell? _ = _
   unfold World.cell?
   simp only [hw]
   rw [hcell j hj']
   simp [hj']
  ·unfold World.frozen?
   simp only [hw]
   simp
 ·rintro e w' ⟨rfl,n,os,rfl⟩
  have hsl : (zs.mergeSort fun x y=>decide (x ≤ y)).length = zs.length:=List.length_mergeSort zs
  generalize (zs.mergeSort fun x y=>decide (x ≤ y)) = ys at hsl
  have hh : ∀ b',b' < w.heap.size → (Go.Sort.grow (Go.Sort.putRow (Value.int .i64) (Go.Sort.ahead w n) b g.base ys.toArray) os).heap[b']? = if b' = b then some (.cells (Go.Sort.putCells (Value.int .i64) g.base ys.toArray cells) ty (0,0)) else w.heap[b']?:=by
   intro b' hb1
   have hsz' : (w.heap.modify b (Go.Sort.onCells (Go.Sort.putCells (Value.int .i64) g.base ys.toArray))).size = w.heap.size:=Array.size_modify
   show ((w.heap.modify b (Go.Sort.onCells (Go.Sort.putCells (Value.int .i64) g.base ys.toArray))) ++ os)[b']? = _
   rw [Array.getElem?_append_left (by rw [hsz']; exact hb1),Array.getElem?_modify]
   by_cases hbb : b = b'
   ·subst hbb
    rw [if_pos rfl,if_pos rfl,hw]
    rfl
   ·rw [if_neg hbb,if_neg (Ne.symm hbb)]
  have hput : ∀ o,(o < g.base ∨ g.base + ys.length ≤ o) → (Go.Sort.putCells (Value.int .i64) g.base ys.toArray cells)[o]? = cells[o]?:=by
   intro o ho
   unfold Go.Sort.putCells
   rw [Array.getElem?_mapIdx]
   cases hc : cells[o]? with
   | none=>rfl
   | some u =>
     simp only [Option.map_some]
     rw [if_neg]
     simp
     omega
  have hput2 : ∀ i,(hi : i < ys.length) → (Go.Sort.putCells (Value.int .i64) g.base ys.toArray cells)[g.base + i]? = some (.int .i64 ys[i]):=by
   intro i hi
   unfold Go.Sort.putCells
   rw [Array.getElem?_mapIdx,hcell i (by omega)]
   simp only [Option.map_some]
   rw [if_pos (by simp; omega)]
   simp [hi]
  have hcs : (Go.Sort.putCells (Value.int .i64) g.base ys.toArray cells).size = cells.size:=by
   unfold Go.Sort.putCells
   exact Array.size_mapIdx
  have hbig : w.heap.size ≤ (Go.Sort.grow (Go.Sort.putRow (Value.int .i64) (Go.Sort.ahead w n) b g.base ys.toArray) os).heap.size:=by
   show w.heap.size ≤ ((w.heap.modify b _) ++ os).size
   rw [Array.size_append,Array.size_modify]
   omega
  have htb' : T b ≤ g.base:=by simpa using htb
  generalize hw' : (Go.Sort.grow (Go.Sort.putRow (Value.int .i64) (Go.Sort.ahead w n) b g.base ys.toArray) os) = w' at hh hbig
  have hlt : ∀ b' o,w.heap[b']? = some o → b' < w.heap.size:=fun b' o h=>(Array.getElem?_eq_some_iff.1 h).1
  have hpr : Pres T w T w':=by
   refine ⟨fun _=>Nat.le_refl _,fun b' cs' ty' fz' h=>?_⟩
   rw [hh b' (hlt _ _ h)]
   by_cases hbb : b' = b
   ·subst hbb
    rw [hw] at h
    cases h
    exact ⟨_,_,if_pos rfl,hcs,fun o ho=>hput o (.inl (by omega))⟩
   ·exact ⟨cs',fz',by rw [if_neg hbb]; exact h,rfl,fun _ _=>rfl⟩
  rw [zim]
  refine ⟨_,T,M,rfl,.tup M [] #[] rfl (fun i hi=>by simp at hi),⟨fun id e he=>?_,fun id id' e e' g1 g2 b' h1 h2 h3 h4 h5 h6=>?_⟩,⟨fun b' hb1=>?_,fun _ _ _=>rfl,fun _ _=>rfl,?_,?_,?_,hbig,fun b' hb1 hb2=>?_,hpr,fun k g1 b' hk hg1 _=>?_⟩⟩
  ·have hid : id = 0:=by
    cases id with
    | zero=>rfl
    | succ k=>simp [hpOf] at he
   subst hid
   simp only [hpOf,List.getElem?_cons_zero,Option.some.injEq] at he
   subst he
   refine ⟨g,hg,⟨ent.s,Nat.zero_le _,fun _ row hr=>?_,fun hn=>(by rw [hblk] at hn; cases hn),fun hz=>absurd hz (Nat.succ_ne_zero 0),fun _ b' hb1=>?_⟩⟩
   ·simp [zeS] at hr
    obtain ⟨x,_,rfl⟩:=hr
    rfl
   ·rw [hblk] at hb1
    obtain rfl:=Option.some.inj hb1
    refine ⟨_,ty,by rw [hh _ hb',if_pos rfl],by simpa using htb',by simp [zeS,hcs,hsl]; simpa [zeS] using hlen,fun i j hi hj=>?_⟩
    have hi' : i < ys.length:=by simpa [zeS] using hi
    have hj' : j = 0:=by simp at hj; omega
    subst hj'
    refine ⟨.int .i64 ys[i],by simpa using hput2 i hi',rfl,?_⟩
    have : ((zeS ys).getD i []).getD 0 .dead = .I ys[i]:=by simp [zeS,List.getD,hi']
    rw [this]
    exact .sc _ _ rfl
  ·have h0 : ∀ id e,hpOf [({ s:=1,rows:=zeS ys } : Ent)] id = some e → id = 0:=by
    intro id e he
    cases id with
    | zero=>rfl
    | succ k=>simp [hpOf] at he
   rw [h0 _ _ h1,h0 _ _ h2]
  ·obtain ⟨c1,ty1,fz1,h1,h2⟩:=htok b' hb1
   obtain ⟨c2,fz2,h3,h4,_⟩:=hpr.cell b' c1 ty1 fz1 h1
   exact ⟨c2,ty1,fz2,h3,by omega⟩
  ·rw [← hw']; rfl
  ·rw [← hw']; rfl
  ·rw [← hw']; rfl
  ·rw [hh b' hb1,if_neg]
   intro hbb
   exact hb2 ⟨0,g,by simp,hg,by rw [hblk,hbb]⟩
  ·rw [hdom k hk] at hg1
   cases hg1
theorem zi0.refl {n : Nat} {T : Nat → Nat} {M : GM} {w : World} (htok : TOk T w) (hdom : ∀ k,n ≤ k → M k = none) : zi0 n T M w T M w :=
 ⟨htok,fun _ _ _=>rfl,fun _ _=>rfl,rfl,rfl,rfl,Nat.le_refl _,fun _ _ _=>rfl,⟨fun _=>Nat.le_refl _,fun _ cells _ fz h=>⟨cells,fz,h,rfl,fun _ _=>rfl⟩⟩,fun k g b hk h=>by rw [hdom k hk] at h; cases h⟩
theorem arr1 {vs : Array Value} (h : vs.size = 1) : vs = #[vs.getD 0 undef]:=by
 apply Array.ext
 ·simpa using h
 ·intro i h1 h2
  have : i = 0:=by simp at h2; omega
  subst this
  simp [Array.getD,h1]
theorem zr4 (zs : List Int) (hl : zs.length < 4611686018427387904) :
  zao Tryz.prog zaZ [.rs 0 0 zs.length] [{ s:=1,rows:=zeS zs }] (.tup []) ([{ s:=1,rows:=zeS (zs.mergeSort fun x y=>decide (x ≤ y)) }].map some):=by
 by_cases h0 : zs = []
 ·subst h0
  refine ⟨zbY.body,by simp,fun T M w vs htok hhs hdom hrep=>?_⟩
  obtain ⟨hsz,hr⟩:=hrep
  have hr0:=hr 0 (by simp)
  simp only [List.getD_cons_zero] at hr0
  rw [arr1 hsz]
  generalize vs.getD 0 undef = v at hr0
  cases hr0 with
  | rs _ _ _ _ cap a g hg hgz hlc hn hb =>
  refine (Any.slices_Sort_int_none Tryz.lays189 a cap w).mono ?_
  rintro e w' ⟨rfl,rfl⟩
  exact ⟨_,T,M,rfl,.tup M [] #[] rfl (fun i hi=>by simp at hi),by rw [zim]; simpa using hhs,zi0.refl htok hdom⟩
 ·exact zr8 zs h0 hl
def outs (l : List Ed) (key : Int) : List Int:=l.filterMap fun e=>if e.f = key then some e.t else none
theorem znw (l : List Ed) (key : Int) (k : Nat) (h : k < l.length) : outs (l.take (k + 1)) key = outs (l.take k) key ++ if l[k].f = key then [l[k].t] else []:=by
 unfold outs
 rw [← List.take_concat_get h,List.concat_eq_append,List.filterMap_append]
 congr 1
 by_cases hc : l[k].f = key <;> simp [hc]
theorem zo2 (l : List Ed) (key : Int) : (outs l key).length ≤ l.length:=List.length_filterMap_le _ _
theorem znA (g : Gr) (key : Int) (hl : g.edges.length ≤ 1099511627776) : zao Tryz.prog ziM [eG g,.I key] [] (.rs 0 0 (outs g.edges key).length) [some ⟨1,((outs g.edges key).mergeSort fun x y=>decide (x ≤ y)).map fun n=>[AV.I n],0⟩]:=by
 refine zrh.ac ?_
 show awp _ 0 _ _ ⟨28,[(0,eG g),(1,.I key)],[],16⟩
 refine zac ?_
 refine zau ?_
 refine zac ?_
 refine zau ?_
 refine zac ?_
 refine zac ?_
 refine zau ?_
 refine zai ?_
 refine zaI (ι:=Nat) (fun k=>⟨28,[(1,.I key),(5,.rs 16 0 (outs (g.edges.take k) key).length),(9,eEs g.edges),(10,.I g.edges.length),(11,.I k)],[(16,some ⟨1,(outs (g.edges.take k) key).map fun n=>[AV.I n],0⟩)],24⟩) (fun k=>k ≤ g.edges.length) (fun k=>g.edges.length - k) (0) ?_ (Le.lst [] [] [(16,1)] rfl (by simp) (by simp) (by simp) (by simp) (by simp) (by simp) (by simp) (by simp [Up,outs]) (by simp [outs])) ?_
 ·simp
 rintro k hk
 have hol : (outs (g.edges.take k) key).length ≤ k:=Nat.le_trans (zo2 _ _) (by simp; exact Nat.min_le_left _ _)
 refine zac ?_
 refine zau ?_
 refine zac ?_
 refine zak _ rfl (fun h4=>?_) fun h4=>?_
 ·try simp at h4
  have hw2 : IntKind.i64.wrap ((k : Int) + 1) = (k : Int) + 1:=w6
  have hwp : 0 < k → IntKind.i64.wrap ((k : Int) - 1) = ((k - 1 : Nat) : Int):=fun h=>by rw [w6]; omega
  have hkp : k - 1 < g.edges.length:=by omega
  refine zal ?_
  refine zac ?_
  refine zai ?_
  refine zad ⟨28,[(1,.I key),(5,.rs 16 0 (outs (g.edges.take k) key).length),(7,.pv (eC g.edges[k])),(9,eEs g.edges),(10,.I g.edges.length),(11,.I k)],[(16,some ⟨1,(outs (g.edges.take k) key).map fun n=>[AV.I n],0⟩)],24⟩ rfl ?_ ?_
  ·simp [h4,hw2,hwp,hkp]
   exact Le.var1 16 [48] rfl rfl (nbz rfl) (by decide) rfl (by simp [fcd]) (by simp) (by simp [h4,hw2,hwp,hkp])
  refine zac ?_
  refine zax (s:=?s5) rfl ?o5 ?q5
  case o5=>simp [h4,hw2,hwp,hkp]; rfl
  refine zak _ rfl (fun h6=>?_) fun h6=>?_
  ·try simp at h6
   refine zax (s:=?s7) rfl ?o7 ?q7
   case o7 =>
    simp [h4,hw2,hwp,hkp,List.replicate]
    refine ⟨by omega,by omega,?_⟩
    rfl
   refine zax (s:=?s8) rfl ?o8 ?q8
   case o8=>simp [h4,hw2,hwp,hkp]; rfl
   have hs:=znw g.edges key k h4
   rw [if_pos h6] at hs
   refine ⟨k + 1,h4,by omega,Le.ren1 88 16 [] rfl rfl (nbz rfl) (by decide) rfl (by simp [hs,fcd,zaU]) (by simp) (by simp [hs,hw2])⟩
  try simp at h6
  refine zal ?_
  refine zax (s:=?s9) rfl ?o9 ?q9
  case o9=>simp [h4,hw2,hwp,hkp]; rfl
  have hs:=znw g.edges key k h4
  rw [if_neg h6,List.append_nil] at hs
  refine ⟨k + 1,h4,by omega,Le.var1 16 [] rfl rfl (nbz rfl) (by decide) rfl (by simp [hs,fcd,zaU]) (by simp) (by simp [hs,hw2])⟩
 try simp at h4
 have hkl : k = g.edges.length:=by omega
 subst hkl
 have hol2:=zo2 g.edges key
 refine zaD ?_
 refine hit ?_
 refine zac ?_
 refine zax (s:=?s10) rfl ?o10 ?q10
 case o10 =>
  simp
  refine zh1 (i:=16) rfl (e':=⟨1,zeS (outs g.edges key),0⟩) (by simp [zeS,fcd]) (zr4 (outs g.edges key) (by omega)) (by simp) (by simp) ?_
  simp [zeS,fcd]
  rfl
 refine zac ?_
 refine zau ?_
 refine zan ?_
 exact ⟨.inr rfl,zat.out [16] [] rfl (by simp) (by simp) (by simp) (by simp [fcd])⟩
@[simp] theorem zAM {ρ : List (Nat × Nat)} {sn : List Nat} {h : Nat → Option Ent} {n : Nat} {f : Fn} {a b : List AV} : conv ρ sn h (n + 1) (.fn f a b) = .fn f (a.map (conv ρ sn h n)) (b.map (conv ρ sn h n)):=(rfl)
end Go.Proofs.YtklclphfcibagaaGreat
