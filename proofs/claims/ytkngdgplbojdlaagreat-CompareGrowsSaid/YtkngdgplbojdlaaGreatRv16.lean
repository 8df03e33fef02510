/- Texts of this claim,merged. -/
import Derived.Test.YtkngdgplbojdlaaGreatRv15
import Derived.Test.YtkngdgplbojdlaaGreatRv14
import Derived.Test.YtkngdgplbojdlaaGreatRv9
import Derived.Test.YtkngdgplbojdlaaGreatRv11
import Derived.Test.YtkngdgplbojdlaaGreatRv6
set_option linter.unusedSimpArgs false
set_option linter.unusedVariables false
set_option linter.unusedSectionVars false
namespace Go.Proofs.YtkngdgplbojdlaaGreat
open Go
section
variable {β : Type}
theorem zkB (n : Nat) (k : Nat→β) : fcN n k=k n:=by cases n <;> rfl
theorem zx8 (n : Int) (k : Int→β) : fcI n k=k n:=by
 cases n <;> (unfold fcI; exact zkB _ _)
theorem zyO (v : Value) (k : Value→β) : fcV v k=k v:=by
 unfold fcV
 split
 ·exact zx8 _ _
 ·rename_i b; cases b <;> rfl
 ·rfl
theorem zgb {α : Type} {f : α→(α→β)→β} (hf : ∀ x k,f x k=k x) : ∀ (l : List α) (k : List α→β),fcL f l k=k l
 | [],k=>rfl
 | x::xs,k=>by
   show f x (fun x=>fcL f xs fun xs=>k (x::xs))=_
   rw [hf,zgb hf xs]
theorem zyq (d : Bool) {ih : AV→(AV→β)→β} (h : ∀ x k,ih x k=k x) (x : AV) (k : AV→β) : fcX d ih x k=k x:=by
 unfold fcX
 split <;> (try split) <;> simp only [zkB,zyO,zgb h,h,zgb (zgb h)]
theorem zni (d : Bool) : ∀ (n : Nat) (x : AV) (k : AV→β),fcA d n x k=k x
 | 0,_,_=>rfl
 | n+1,x,k=>zyq d (zni d n) x k
theorem zut (d : Bool) (e : Ent) (k : Ent→β) : fcE d e k=k e:=by
 obtain ⟨s,rows,ro⟩:=e
 simp only [fcE,zkB,zgb (zgb (zni d 5))]
theorem zwe (d : Bool) (p : Nat × Option Ent) (k : Nat × Option Ent→β) : fcO d p k=k p:=by
 obtain ⟨i,e⟩:=p
 cases e <;> simp only [fcO,zkB,zut]
end
theorem zgg {i j : Nat} : Nat.beq i j=decide (i=j):=by
 cases h : Nat.beq i j with
 | true=>rw [decide_eq_true (Nat.eq_of_beq_eq_true h)]
 | false=>rw [decide_eq_false (Nat.ne_of_beq_eq_false h)]
theorem zsV {α : Type} : ∀ (l : List (Nat × α)) (j : Nat),lkB l j=lkp l j
 | [],_=>rfl
 | (i,x)::l,j=>by
   show Bool.rec (motive:=fun _=>Option α) (lkB l j) (some x) (Nat.beq i j)=_
   rw [zsV l j,zgg,lkp]
   by_cases h : i=j
   ·rw [decide_eq_true h,if_pos h]
   ·rw [decide_eq_false h,if_neg h]
theorem zvx {α : Type} (o : Option (Option α)) : zyQ o=o.getD none:=by cases o <;> rfl
theorem zwa (h : List (Nat × Option Ent)) (id : Nat) : hpB h id=(lkp h id).getD none:=by
 unfold hpB
 rw [zsV,zvx]
theorem ziH (v : AV) (l r : TS) (i : Nat) : nthA (.nd v l r) (i+1)=if i % 2=0 then nthA l (i / 2) else nthA r (i / 2):=by
 show Bool.rec (motive:=fun _=>AV) (nthA r (i / 2)) (nthA l (i / 2)) (Nat.beq (i % 2) 0)=_
 rw [zgg]
 by_cases h : i % 2=0
 ·rw [decide_eq_true h,if_pos h]
 ·rw [decide_eq_false h,if_neg h]
theorem zor {γ : Type} (v : AV) : ∀ (t : TS) (i : Nat),(∃ t',(∀ k : TS→Option γ,setA v t i k=k t') ∧ ∀ j,nthA t' j=if i=j then v else nthA t j) ∨ ∀ k : TS→Option γ,setA v t i k=none
 | .lf,_=>.inr fun _=>rfl
 | .nd x l r,0=>.inl ⟨.nd v l r,fun _=>rfl,fun j=>by
   cases j with
   | zero=>rfl
   | succ j=>rw [if_neg (by omega),ziH,ziH]⟩
 | .nd x l r,i+1=>by
   have hu : ∀ k : TS→Option γ,setA v (.nd x l r) (i+1) k=Bool.rec (motive:=fun _=>Option γ) (setA v r (i / 2) fun tr'=>k (.nd x l tr')) (setA v l (i / 2) fun tl'=>k (.nd x tl' r)) (Nat.beq (i % 2) 0):=fun _=>rfl
   by_cases h : i % 2=0
   ·rcases zor (γ:=γ) v l (i / 2) with ⟨t',h1,h2⟩ | h1
    ·refine .inl ⟨.nd x t' r,fun k=>by rw [hu,zgg,decide_eq_true h]; exact h1 _,fun j=>?_⟩
     cases j with
     | zero=>rw [if_neg (by omega)]; rfl
     | succ j =>
       rw [ziH,ziH,h2]
       by_cases hj : j % 2=0
       ·rw [if_pos hj,if_pos hj]
        by_cases he : i=j
        ·subst he; rw [if_pos rfl,if_pos rfl]
        ·rw [if_neg (by omega),if_neg (by omega)]
       ·rw [if_neg hj,if_neg hj,if_neg (by omega)]
    ·exact .inr fun k=>by rw [hu,zgg,decide_eq_true h]; exact h1 _
   ·rcases zor (γ:=γ) v r (i / 2) with ⟨t',h1,h2⟩ | h1
    ·refine .inl ⟨.nd x l t',fun k=>by rw [hu,zgg,decide_eq_false h]; exact h1 _,fun j=>?_⟩
     cases j with
     | zero=>rw [if_neg (by omega)]; rfl
     | succ j =>
       rw [ziH,ziH,h2]
       by_cases hj : j % 2=0
       ·rw [if_pos hj,if_pos hj,if_neg (by omega)]
       ·rw [if_neg hj,if_neg hj]
        by_cases he : i=j
        ·subst he; rw [if_pos rfl,if_pos rfl]
        ·rw [if_neg (by omega),if_neg (by omega)]
    ·exact .inr fun k=>by rw [hu,zgg,decide_eq_false h]; exact h1 _
theorem zoN : ∀ (n i : Nat),nthA (zuN n) i = .dead
 | 0,_=>rfl
 | n+1,0=>rfl
 | n+1,i+1=>by
   have hu : zuN (n+1) = .nd .dead (zuN n) (zuN n):=rfl
   rw [hu,ziH,zoN,ite_self]
theorem zuo {γ : Type} : ∀ (xs : List AV) (i : Nat) (t : TS) (k : TS→Option γ) (r : γ),argT xs i t k=some r → ∃ t',k t'=some r ∧ ∀ j,nthA t' j=if i≤j∧j<i+xs.length then xs.getD (j - i) .dead else nthA t j
 | [],i,t,k,r,h=>⟨t,h,fun j=>by rw [if_neg (by simp)]⟩
 | x::xs,i,t,k,r,h=>by
   have h : setA x t i (fun t'=>argT xs (i+1) t' k)=some r:=h
   rcases zor (γ:=γ) x t i with ⟨t1,h1,h2⟩ | h1
   ·rw [h1] at h
    obtain ⟨t2,h3,h4⟩:=zuo xs (i+1) t1 k r h
    refine ⟨t2,h3,fun j=>?_⟩
    rw [h4,h2]
    simp only [List.length_cons]
    by_cases hj : i=j
    ·subst hj
     rw [if_neg (by omega),if_pos rfl,if_pos (by omega),Nat.sub_self]
     rfl
    ·by_cases hr : i≤j∧j<i+(xs.length+1)
     ·rw [if_pos (by omega),if_pos hr,show j - i=(j - (i+1))+1 by omega]
      rfl
     ·rw [if_neg (by omega),if_neg hj,if_neg hr]
   ·rw [h1] at h
    cases h
theorem zq0 (i : Nat) : ∀ (l : List (Nat × Option Ent)),∃ l',(∀ k,ersH i l k=k l') ∧ ∀ j,lkp l' j=if j=i then none else lkp l j
 | []=>⟨[],fun _=>rfl,fun j=>by simp [lkp]⟩
 | (j,e)::l=>by
   obtain ⟨l',h1,h2⟩:=zq0 i l
   have hu : ∀ k,ersH i ((j,e)::l) k=Bool.rec (motive:=fun _=>Rr) (ersH i l fun l'=>k ((j,e)::l')) (ersH i l k) (Nat.beq j i):=fun _=>rfl
   by_cases hj : j=i
   ·refine ⟨l',fun k=>by rw [hu,zgg,decide_eq_true hj]; exact h1 k,fun j'=>?_⟩
    rw [h2]
    by_cases hj' : j'=i
    ·simp [hj']
    ·have : j≠j':=fun e=>hj' (e ▸ hj)
     simp [hj',lkp,this]
   ·refine ⟨(j,e)::l',fun k=>by rw [hu,zgg,decide_eq_false hj]; exact h1 _,fun j'=>?_⟩
    simp only [lkp]
    by_cases hj' : j=j'
    ·subst hj'; simp [hj]
    ·simp [hj',h2]
theorem zp1 : ∀ (up h : List (Nat × Option Ent)),∃ h',(∀ k,updH up h k=k h') ∧ ∀ id,(lkp h' id).getD none=(lkp (up++h) id).getD none
 | [],h=>⟨h,fun _=>rfl,fun _=>rfl⟩
 | (i,none)::up,h=>by
   obtain ⟨h1,q1,q2⟩:=zp1 up h
   obtain ⟨h2,r1,r2⟩:=zq0 i h1
   refine ⟨h2,fun k=>by show updH up h (fun h=>ersH i h (updK (i,none) k))=_; rw [q1,r1]; rfl,fun id=>?_⟩
   rw [r2,List.cons_append,lkp]
   by_cases hi : i=id
   ·subst hi; simp
   ·rw [if_neg (fun e=>hi e.symm),if_neg hi,q2]
 | (i,some e)::up,h=>by
   obtain ⟨h1,q1,q2⟩:=zp1 up h
   obtain ⟨h2,r1,r2⟩:=zq0 i h1
   refine ⟨(i,some e)::h2,fun k=>by show updH up h (fun h=>ersH i h (updK (i,some e) k))=_; rw [q1,r1]; rfl,fun id=>?_⟩
   rw [List.cons_append,lkp,lkp]
   by_cases hi : i=id
   ·subst hi; simp
   ·rw [if_neg hi,if_neg hi,r2,if_neg (fun e=>hi e.symm),q2]
theorem zt0 (t : TS) : ∀ xs : List Opd,evXs t xs=xs.map (·.ev (nthA t))
 | []=>rfl
 | x::xs=>by
   show x.ev (nthA t)::evXs t xs=_
   rw [zt0 t xs]
   rfl
theorem zrN : ∀ xs : List AV,zvp xs=true → ∀ x∈xs,∃ v,x = .sc v
 | [],_,x,hx=>(List.not_mem_nil hx).elim
 | y::xs,h,x,hx=>by
   have hu : zvp (y::xs)=Bool.rec (motive:=fun _=>Bool) false (zvp xs) (scB y):=rfl
   rw [hu] at h
   cases hy : scB y with
   | false=>rw [hy] at h; cases h
   | true =>
     rw [hy] at h
     rcases List.mem_cons.1 hx with rfl | hx
     ·unfold scB at hy
      split at hy
      ·exact ⟨_,rfl⟩
      ·cases hy
     ·exact zrN xs h x hx
theorem zt4 (k : IntKind) : modF k=2 ^ k.bits:=by cases k <;> rfl
theorem zvo (k : IntKind) : zim k=2 ^ (k.bits - 1):=by cases k <;> rfl
theorem zrH (k : IntKind) : modF k=2*zim k∧0<zim k:=by cases k <;> exact ⟨rfl,by decide⟩
theorem ztF (k : IntKind) (n : Int) : (natF k n : Int)=n % ((2 ^ k.bits : Nat) : Int):=by
 have h0 : 0<modF k:=by have:=zrH k; omega
 rw [← zt4]
 cases n with
 | ofNat m=>simp [natF]
 | negSucc m =>
   simp only [natF]
   generalize hM : modF k=M at *
   have h1:=Nat.div_add_mod m M
   have h2:=Nat.mod_lt m h0
   have h3 : Int.negSucc m=((M - 1 - m % M : Nat) : Int)+(M : Int)*(-((m / M : Nat) : Int) - 1):=by
    rw [Int.negSucc_eq]
    have h4 : ((M - 1 - m % M : Nat) : Int)=(M : Int) - 1 - ((m % M : Nat) : Int):=by omega
    have h5 : (m : Int)=(M : Int)*((m / M : Nat) : Int)+((m % M : Nat) : Int):=by exact_mod_cast h1.symm
    rw [h4,h5,Int.mul_sub,Int.mul_neg]
    have h6 : ((M*(m / M)+m % M : Nat) : Int)=(m : Int):=by exact_mod_cast h1
    omega
   rw [h3,Int.add_mul_emod_self_left,Int.emod_eq_of_lt (by omega) (by omega)]
theorem zwS (k : IntKind) (r : Nat) (hr : r<modF k) : cutF k.signed (modF k) (zim k) r=if k.signed && decide ((r : Int)≥(2 ^ (k.bits - 1) : Int)) then (r : Int) - (2 ^ k.bits : Int) else r:=by
 have e1 : (2 ^ k.bits : Int)=((modF k : Nat) : Int):=by rw [zt4]; norm_cast
 have e2 : (2 ^ (k.bits - 1) : Int)=((zim k : Nat) : Int):=by rw [zvo]; norm_cast
 rw [e1,e2]
 unfold cutF
 have e3 : (decide ((r : Int)≥((zim k : Nat) : Int)))=Nat.ble (zim k) r:=by
  rw [Bool.eq_iff_iff,decide_eq_true_eq,Nat.ble_eq]
  omega
 rw [e3]
 cases hc : (k.signed && Nat.ble (zim k) r) with
 | true =>
   simp only [cond_true,if_true]
   rw [Int.negSucc_eq]
   omega
 | false=>simp
theorem zk9 (k : IntKind) (n : Int) : zlF k n=k.wrap n:=by
 have h2:=zrH k
 have e1 : (2 ^ k.bits : Int)=((2 ^ k.bits : Nat) : Int):=by norm_cast
 have hlt : natF k n<modF k:=by cases n <;> simp only [natF] <;> first | exact Nat.mod_lt _ (by omega) | omega
 have main : cutF k.signed (modF k) (zim k) (natF k n)=k.wrap n:=by
  rw [zwS k _ hlt]
  unfold IntKind.wrap
  simp only
  rw [ztF,← e1]
 rw [← main]
 cases n with
 | ofNat m =>
   simp only [zlF,natF]
   cases hb : Nat.blt m (zim k) with
   | true =>
     have hm : m<zim k:=by simpa [Nat.blt_eq] using hb
     rw [cond_true,Nat.mod_eq_of_lt (by omega)]
     unfold cutF
     have : Nat.ble (zim k) m=false:=by
      cases h : Nat.ble (zim k) m with
      | false=>rfl
      | true=>have:=nbz h; omega
     rw [this,Bool.and_false,cond_false]
   | false=>rfl
 | negSucc m=>rfl
theorem zrg (n : Nat) : (2 : Int) ^ n=Int.ofNat (Nat.pow 2 n):=by
 show (2 : Int) ^ n=((2 ^ n : Nat) : Int)
 norm_cast
theorem zyY {k k' : IntKind} : Nat.beq (kN k) (kN k')=decide (k=k'):=by cases k <;> cases k' <;> rfl
theorem ztZ (a b : Int) : ltF a b=decide (a<b):=by
 unfold ltF
 cases a <;> cases b <;> simp only <;> rw [Bool.eq_iff_iff] <;> simp [Nat.blt_eq] <;> omega
theorem zwh (a b : Int) : eqF a b=(a == b):=by
 unfold eqF
 cases a <;> cases b <;> simp only [zgg] <;> rw [Bool.eq_iff_iff] <;> simp <;> omega
theorem zs4 (m n : Nat) : minF m n=min m n:=by
 unfold minF
 cases h : Nat.ble m n with
 | true=>have:=nbz h; rw [cond_true]; omega
 | false =>
   have : ¬ m≤n:=fun h2=>by rw [Nat.ble_eq_true_of_le h2] at h; cases h
   rw [cond_false]; omega
theorem ztP (k k' : IntKind) (a b : Int) : shlF k a b=binV .shl (.int k a) (.int k' b):=by
 unfold shlF
 cases b with
 | ofNat n=>simp only [binV,zk9,zrg,zs4]; simp
 | negSucc n=>simp only [binV]; rw [if_neg (by omega)]
theorem ztU (k k' : IntKind) (a b : Int) : shrF k a b=binV .shr (.int k a) (.int k' b):=by
 unfold shrF
 cases b with
 | ofNat n =>
   simp only [binV,zrg,zs4]
   rw [if_pos (by simp)]
   cases a with
   | ofNat m =>
     have h : ∀ q : Nat,(Int.ofNat m).fdiv (Int.ofNat q)=Int.ofNat (m / q):=fun q=>(Int.ofNat_fdiv m q).symm
     simp only [h]
     rfl
   | negSucc m=>rfl
 | negSucc n=>simp only [binV]; rw [if_neg (by omega)]
theorem zxn (k : IntKind) (a b : Int) : quoF k a b=binV .quo (.int k a) (.int k b):=by
 unfold quoF
 split
 ·simp only [binV,if_true,zk9]
  rw [if_neg (by simp; omega)]
  cases a <;> rfl
 ·rfl
theorem zxa (k : IntKind) (a b : Int) : remF k a b=binV .rem (.int k a) (.int k b):=by
 unfold remF
 split
 ·simp only [binV,if_true]
  rw [if_neg (by simp; omega)]
  cases a <;> rfl
 ·rfl
theorem zw0 (op : BinOp) (k : IntKind) (a b : Int) : intF op k a b=binV op (.int k a) (.int k b):=by
 have hb : ∀ z : Int,(BitVec.ofInt k.bits z).toNat=natF k z:=fun z=>by
  have h1:=BitVec.toNat_ofInt (n:=k.bits) z
  rw [h1]
  have h2:=ztF k z
  omega
 unfold intF
 cases op <;> simp only [ztP k k,ztU k k,zxn,zxa] <;> (try rfl)
 all_goals simp only [binV,if_true,zk9,ztZ,zwh]
 all_goals first
  | rfl
  | (simp only [BitVec.toNat_and,BitVec.toNat_or,BitVec.toNat_xor,hb]; rfl)
  | (congr 2; rw [Bool.eq_iff_iff]; simp)
  | (congr 2; rw [Bool.eq_iff_iff]; simp; done)
theorem zw3 (op : BinOp) (x y : Value) : binF op x y=binV op x y:=by
 unfold binF
 split
 ·rename_i k a
  split
  ·rename_i k' b
   rw [zyY]
   by_cases h : k=k'
   ·subst h
    rw [decide_eq_true rfl,cond_true,zw0]
   ·rw [decide_eq_false h,cond_false]
    unfold mixF
    split
    ·exact ztP _ _ _ _
    ·exact ztU _ _ _ _
    ·rfl
  ·rfl
 ·rfl
theorem zmr : ∀ (n : Nat) (x : AV),zkE n x=true→Plain x
 | 0,_,h=>by cases h
 | n+1,x,h=>by
   have ih:=zmr n
   have hl : ∀ xs : List AV,xs.all (zkE n)=true → ∀ i : Nat,Plain (xs.getD i .dead):=by
    intro xs hx i
    simp only [List.getD]
    cases hi : xs[i]? with
    | none=>exact .dead
    | some y=>exact ih y (List.all_eq_true.1 hx y (List.mem_of_getElem? hi))
   unfold zkE at h
   split at h
   ·exact .dead
   ·exact .sc _
   ·exact .agg _ (hl _ h)
   ·exact .tup _ (hl _ h)
   ·exact .rs _ _ _
   ·exact .pt _ _ _
   ·exact .mp _
   ·cases h
theorem WkL.self : ∀ xs : List AV,WkL xs xs
 | []=>trivial
 | x::xs=>⟨.refl x,WkL.self xs⟩
theorem zlp : ∀ l : List Nat,zo1 l=true→l.Nodup
 | [],_=>List.nodup_nil
 | i::is,h=>by
   simp only [zo1,Bool.and_eq_true,Bool.not_eq_true',List.contains_eq_mem,decide_eq_false_iff_not] at h
   exact List.nodup_cons.2 ⟨h.1,zlp is h.2⟩
theorem zre : ∀ (l : List (Option Ent)) (es : List Ent),zv3 l=some es→l=es.map some
 | [],es,h=>by cases h; rfl
 | none::_,_,h=>by cases h
 | some e::l,es,h=>by
   unfold zv3 at h
   split at h
   ·rename_i es' h'; cases h; rw [List.map_cons,← zre l es' h']
   ·cases h
section
variable {P : Program} {sp : List FuncId} {cf : Cf} (hcf : ∀ f a b r c,cf f a b=some (r,c)→zak P f a b r c)
include hcf
def zwH (P : Program) (np id : Nat) (h : Nat→Option Ent) (f : FuncId) (xs : List AV) (K : AV→List Nat→List (Nat × Option Ent)→Prop) : Prop :=
    ∃ (ids sn : List Nat) (raise : Bool) (args' : List AV) (hs : List Ent) (res : AV) (hs' : List (Option Ent)),
      ids.Nodup∧(∀ i∈sn,i∉ids)∧(raise=true → ∀ i∈sn,np≤i)∧WkL (xs.map (conv ids.zipIdx sn h 4)) args' ∧
      ids.map (fun i=>(h i).map (zau ids.zipIdx sn h 4))=hs.map some∧zak P f args' hs res hs'∧hs'.length≤hs.length+8 ∧
      (raise=true∨(Plain res ∧ ∀ e,some e∈hs'→zir e)) ∧
      K (conv ((ids++(List.range 8).map (id + ·)).zipIdx.map fun (a,b)=>(b,a)) [] (fun _=>none) 4 res) (ids++sn)
        ((hs'.zipIdx.map fun (e,k)=>((ids++(List.range 8).map (id + ·)).getD k 0,e.map (zau ((ids++(List.range 8).map (id + ·)).zipIdx.map fun (a,b)=>(b,a)) [] (fun _=>none) 4))) ++
         (if raise then sn.filterMap (fun i=>(h i).map fun e=>(i,some { e with ro:=e.rows.length })) else []))
omit hcf in
theorem zmZ {np np' id : Nat} {h h' : Nat→Option Ent} {f : FuncId} {xs : List AV} {v : AV} {rd : List Nat} {up : List (Nat × Option Ent)} {ids sn : List Nat} {raise : Bool} {args' : List AV} {hs : List Ent} {res : AV} {hs' : List (Option Ent)}
  (hwk : WkL (xs.map (conv ids.zipIdx sn h 4)) args') (hids : ids.map (fun i=>(h i).map (zau ids.zipIdx sn h 4))=hs.map some) (hc : zak P f args' hs res hs') (hpl : raise=true∨(Plain res ∧ ∀ e,some e∈hs'→zir e))
  (e : zog ids sn np' id hs.length h' res hs' raise=some (v,rd,up)) (hsn : sn=[]∨(np'=np∧h'=h)) {K : AV→List Nat→List (Nat × Option Ent)→Prop} (hk : K v rd up) : zwH P np id h f xs K:=by
 unfold zog at e
 cases hck : zqd ids sn np' hs.length raise hs' with
 | false=>rw [hck] at e; cases e
 | true =>
   rw [hck] at e
   simp only [cond_true,Option.some.injEq,Prod.mk.injEq] at e
   obtain ⟨rfl,rfl,rfl⟩:=e
   unfold zqd at hck
   simp only [Bool.and_eq_true,Bool.or_eq_true,Bool.not_eq_true',Nat.ble_eq,List.all_eq_true,List.contains_eq_mem,decide_eq_false_iff_not] at hck
   obtain ⟨c1,c2,c3,c4⟩:=hck
   refine ⟨ids,sn,raise,args',hs,res,hs',zlp _ c1,c2,fun hr i hi=>?_,hwk,hids,hc,c4,hpl,?_⟩
   ·rcases hsn with rfl | ⟨rfl,_⟩
    ·exact (List.not_mem_nil hi).elim
    ·rcases c3 with h1 | h1
     ·rw [hr] at h1; cases h1
     ·exact h1 i hi
   ·rcases hsn with rfl | ⟨_,rfl⟩
    ·have : zrK ids [] id h' raise hs'=zrK ids [] id h raise hs':=by unfold zrK; simp
     rw [this] at hk
     exact hk
    ·exact hk
theorem zlu {np id : Nat} {h : Nat→Option Ent} {f : FuncId} {xs : List AV} {v : AV} {rd : List Nat} {up : List (Nat × Option Ent)} {deep : Bool} {ids sn : List Nat} (e : zpR cf np id h f xs deep ids sn=some (v,rd,up))
  {K : AV→List Nat→List (Nat × Option Ent)→Prop} (hk : K v rd up) : zwH P np id h f xs K:=by
 unfold zpR at e
 rw [zgb (zni _ 6)] at e
 split at e
 ·cases e
 rename_i hs0 hseq
 rw [zgb (zut _)] at e
 unfold zs9 at e
 split at e
 ·cases e
 rename_i res hs' hcall
 refine zmZ (WkL.self _) (zre _ _ hseq) (hcf _ _ _ _ _ hcall) ?_ e (.inr ⟨rfl,rfl⟩) hk
 split
 ·exact .inl rfl
 ·cases hs : (!(zkE 5 res && hs'.all zws)) with
  | true=>exact .inl rfl
  | false =>
    right
    simp only [Bool.not_eq_false',Bool.and_eq_true] at hs
    refine ⟨zmr _ _ hs.1,fun e he row hrow x hx=>?_⟩
    have h1:=List.all_eq_true.1 hs.2 _ he
    exact zmr _ _ (List.all_eq_true.1 (List.all_eq_true.1 h1 row hrow) x hx)
theorem zo6 {np id : Nat} {h : Nat→Option Ent} {f : FuncId} {xs : List AV} {v : AV} {rd : List Nat} {up : List (Nat × Option Ent)} (e : zrc sp cf np id h f xs=some (v,rd,up))
  {K : AV→List Nat→List (Nat × Option Ent)→Prop} (hk : K v rd up) : zwH P np id h f xs K:=by
 unfold zrc at e
 split at e
 ·rename_i hsc
  have hx : xs.map (conv ([] : List Nat).zipIdx [] h 4)=xs:=by
   have : xs.map (conv ([] : List Nat).zipIdx [] h 4)=xs.map (fun x=>x):=List.map_congr_left fun x hx=>by
    obtain ⟨v,rfl⟩:=zrN xs hsc x hx
    rfl
   rw [this,List.map_id']
  unfold zrl at e
  split at e
  ·rename_i v0 hcall
   cases e
   exact ⟨[],[],true,xs,[],.sc v0,[],List.nodup_nil,by simp,by simp,by rw [hx]; exact WkL.self _,rfl,hcf _ _ _ _ _ hcall,by simp,.inl rfl,by simpa [conv] using hk⟩
  ·rename_i res hs' _ hcall
   exact zmZ (hs:=[]) (by rw [hx]; exact WkL.self _) rfl (hcf _ _ _ _ _ hcall) (.inl rfl) e (.inl rfl) hk
  ·cases e
 ·simp only [zgb (zkB (β:=Rs3))] at e
  split at e
  ·exact zlu hcf e hk
  ·split at e
   ·exact zlu hcf e hk
   ·exact zlu hcf e hk
omit hcf in
theorem zsy {lo hi : Bool} {n l r : Nat} {bs : List AV} (h : zqq lo hi n bs=some (l,r)) : bs=(if lo then [AV.I l] else [])++(if hi then [AV.I r] else [])∧(lo=false→l=0)∧(hi=false→r=n):=by
 unfold zqq at h
 split at h
 ·cases h; simp
 ·split at h
  ·rename_i hp; cases h; simp [Int.toNat_of_nonneg hp]
  ·cases h
 ·split at h
  ·rename_i hp; cases h; simp [Int.toNat_of_nonneg hp]
  ·cases h
 ·split at h
  ·rename_i hp; cases h; simp [Int.toNat_of_nonneg hp.1,Int.toNat_of_nonneg hp.2]
  ·cases h
 ·cases h
theorem zwt {np id : Nat} {h : Nat→Option Ent} {op : AOp} {xs : List AV} {v : AV} {rd : List Nat} {up : List (Nat × Option Ent)} (e : aEv sp cf np id h op xs=some (v,rd,up))
  {K : AV→List Nat→List (Nat × Option Ent)→Prop} (hk : K v rd up) : aK P np id op xs h K:=by
 cases op <;> simp only [aEv] at e
 case app s b =>
  unfold zyG at e
  split at e
  ·rename_i x y
   split at e
   ·cases e
   ·rename_i x hx
    rw [znf (fun ⟨i,o,l,c,e⟩=>hx i o l c e)]
    split at e
    ·rename_i new hnew
     split at e
     ·rename_i old hold
      split at e
      ·rename_i hc
       cases e
       exact ⟨new,old,hnew,hold,hc.1,hc.2,hk⟩
      ·cases e
     ·cases e
    ·cases e
  ·cases e
 case slc s lo hi mx =>
  cases mx with
  | true=>simp only at e; cases e
  | false =>
    simp only at e
    unfold zxJ at e
    split at e
    rotate_left
    ·cases e
    unfold aK
    dsimp only
    split at e
    ·cases e
    rename_i n hn
    split at e
    ·cases e
    rename_i l r hlr
    obtain ⟨c1,c2,c3⟩:=zsy hlr
    split at e
    ·rename_i hc
     refine ⟨l,r,0,n,hn,hc.1,by simpa using c1,c2,c3,fun h=>(by cases h),?_⟩
     unfold zyE at e
     split at e
     ·split at e
      ·rename_i hs
       cases e
       refine ⟨hc.2,fun h=>(by cases h),hs,?_⟩
       simpa using hk
      ·cases e
     ·split at e
      ·rename_i e0 he0
       split at e
       ·rename_i hs; cases e; exact ⟨hc.2,rfl,⟨_,he0,hs⟩,hk⟩
       ·cases e
      ·cases e
     ·cases e; exact ⟨hc.2,fun h=>(by cases h),hk⟩
     ·cases e
    ·cases e
 all_goals first
  | (cases e; done)
  | delta e_mv at e | delta zwn at e | delta ztp at e | delta zy0 at e | delta zsW at e | delta zxG at e | delta e_ld at e | delta e_st at e | delta zy6 at e | delta zyr at e | delta zyz at e | delta zxV at e | delta zwf at e
  | delta e_un at e | delta zy7 at e | delta zxF at e | delta zyA at e | delta zyn at e | delta zx4 at e | delta zyk at e | delta zy2 at e | delta zxN at e | delta zyC at e | delta zyL at e | delta zyi at e | delta zyh at e | delta zwd at e | delta zv8 at e
  | delta zyN at e | delta zwi at e | delta zxC at e | delta zyP at e | delta zyZ at e | delta zyg at e | delta zyS at e | delta zy9 at e | delta zyH at e | delta zyd at e | delta zyv at e | delta zxL at e | delta zx7 at e | delta zyl at e
 all_goals (try dsimp only at e)
 case mkf=>cases e; exact hk
 case mkb=>cases e; exact hk
 case build z ps =>
  split at e
  ·rename_i hcs; cases e; unfold aK; exact ⟨_,hcs,hk⟩
  ·cases e
 case bsl s len z ps =>
  split at e
  ·rename_i hcs
   split at e
   ·rename_i hc; cases e; unfold aK; exact ⟨_,hcs,hc,hk⟩
   ·cases e
  ·cases e
 all_goals split at e
 all_goals first
  | (simp only [Option.some.injEq,Prod.mk.injEq,zk9] at e; obtain ⟨rfl,rfl,rfl⟩:=e; exact hk)
  | cases e
  | skip
 all_goals (unfold aK; dsimp only)
 ·exact ⟨_,rfl,hk⟩
 ·split at e
  ·rename_i hcs
   split at e
   ·rename_i hc; cases e; exact ⟨_,hcs,hc,hk⟩
   ·cases e
  ·cases e
 ·split at e
  ·rename_i hcs
   split at e
   ·rename_i hc; cases e; exact ⟨_,hcs,hc,hk⟩
   ·cases e
  ·cases e
 ·split at e
  ·rename_i e0 he0
   split at e
   ·rename_i hr hcs
    split at e
    ·rename_i hc; cases e; exact ⟨_,_,_,he0,hr,hc.1,hcs,hc.2.1,hc.2.2,hk⟩
    ·cases e
   ·cases e
  ·cases e
 ·exact ⟨trivial,hk⟩
 ·exact ⟨trivial,hk⟩
 ·exact ⟨trivial,hk⟩
 ·rw [zw3] at e
  split at e
  ·rename_i hcs; cases e; exact ⟨_,hcs,hk⟩
  ·cases e
 ·split at e
  ·rename_i hcs; cases e; exact ⟨_,hcs,hk⟩
  ·cases e
 ·split at e
  ·rename_i hcs; cases e; exact ⟨_,hcs,hk⟩
  ·cases e
 ·split at e
  ·rename_i hr
   split at e
   ·rename_i hb; cases e; exact ⟨_,_,hr,hb,hk⟩
   ·cases e
  ·cases e
 ·split at e
  ·rename_i hc; cases e; exact ⟨hc.1,hc.2.1,hc.2.2.1,hc.2.2.2.1,hc.2.2.2.2,hk⟩
  ·cases e
 ·split at e
  ·rename_i hc; cases e; exact ⟨hc,hk⟩
  ·cases e
 ·split at e
  ·rename_i hc; cases e; exact ⟨hc,hk⟩
  ·cases e
 ·split at e
  ·rename_i hc
   split at e
   ·rename_i hr; cases e; exact ⟨hc.1,hc.2,_,hr,hk⟩
   ·cases e
  ·cases e
 ·split at e
  ·rename_i e0 he0
   split at e
   ·rename_i hc; cases e; exact ⟨hc.1,hc.2.1,⟨_,he0,hc.2.2⟩,hk⟩
   ·cases e
  ·cases e
 ·split at e
  ·rename_i hc; cases e; exact ⟨hc.1,hc.2,hk⟩
  ·cases e
 ·split at e
  ·rename_i hc; cases e; exact ⟨hc.1,hc.2.1,hc.2.2,hk⟩
  ·cases e
 ·split at e
  ·rename_i hc
   split at e
   ·rename_i hr; cases e; exact ⟨hc,_,hr,hk⟩
   ·cases e
  ·cases e
 ·split at e
  ·rename_i hc; cases e; exact ⟨hc.1,hc.2.1,hc.2.2,hk⟩
  ·cases e
 ·split at e
  ·rename_i hcs; cases e; exact ⟨_,hcs,hk⟩
  ·cases e
 ·exact zo6 hcf e hk
 ·split at e
  ·rename_i hcs
   split at e
   ·rename_i hc; cases e; exact ⟨_,hcs,hc,hk⟩
   ·cases e
  ·cases e
 ·split at e
  ·rename_i hcs; cases e; exact ⟨_,hcs,hk⟩
  ·cases e
 ·split at e
  ·rename_i h1 h2
   split at e
   ·rename_i hc; cases e; exact ⟨_,_,h1,hc.1,hc.2.1,hc.2.2,h2,hk⟩
   ·cases e
  ·cases e
 ·split at e
  ·rename_i h1
   split at e
   ·rename_i hc; cases e; exact ⟨_,h1,hc.1,hc.2.1,hc.2.2.1,hc.2.2.2,hk⟩
   ·cases e
  ·cases e
 ·split at e
  ·rename_i hc; cases e; exact ⟨hc.1,hc.2.1,hc.2.2.1,hc.2.2.2,hk⟩
  ·cases e
 ·split at e
  ·rename_i h1
   split at e
   ·rename_i hc; cases e; exact ⟨_,h1,hc,hk⟩
   ·cases e
  ·cases e
 ·split at e
  ·rename_i h1
   split at e
   ·rename_i hc; cases e; exact ⟨_,h1,hc,hk⟩
   ·cases e
  ·cases e
 ·split at e
  ·rename_i h1
   split at e
   ·rename_i hc; cases e; exact ⟨_,h1,hc,hk⟩
   ·cases e
  ·cases e
 ·split at e
  ·rename_i f hf
   obtain ⟨a1,a2,a3,a4,a5,a6,a7,h⟩:=zo6 hcf e hk
   exact ⟨f,a1,a2,a3,a4,a5,a6,a7,hf,h⟩
  ·cases e
structure zhU (st : St) (s : RS) : Prop where
 sz : st.sz=s.sz
 n : st.n=s.n
 t : st.get=s.get
 h : st.hp=s.hp
omit hcf in
theorem zhU.put {st : St} {s : RS} (a : zhU st s) {d : Nat} {v : AV} {t' : TS} (ht : ∀ j,nthA t' j=if d=j then v else nthA s.t j) : zhU (st.put (some d) v) { s with t:=t' }:=by
 refine ⟨a.sz,a.n,?_,a.h⟩
 funext i
 have h1:=congrFun a.t i
 unfold RS.get St.get St.put at *
 rw [ht]
 simp only [lkp]
 by_cases hi : d=i
 ·subst hi
  rw [if_pos rfl,if_pos rfl]
  rfl
 ·rw [if_neg hi,if_neg hi]
  exact h1
omit hcf in
theorem zhU.upd {st : St} {s : RS} (a : zhU st s) {up h : List (Nat × Option Ent)} (hh : ∀ id,(lkp h id).getD none=(lkp (up++s.h) id).getD none) : zhU (st.upd up) { s with h:=h }:=by
 refine ⟨a.sz,a.n,a.t,?_⟩
 funext id
 have h1:=congrFun a.h id
 unfold RS.hp at *
 rw [zwa] at *
 show (lkp (up++st.h) id).getD none=(lkp h id).getD none
 rw [hh]
 have key : ∀ u : List (Nat × Option Ent),(lkp (u++st.h) id).getD none=(lkp (u++s.h) id).getD none:=by
  intro u
  induction u with
  | nil=>exact h1
  | cons q u ih =>
    obtain ⟨j,e⟩:=q
    simp only [List.cons_append,lkp]
    split
    ·rfl
    ·exact ih
 exact key up
omit hcf in
theorem zxp (b : Option Bool) (want : Bool) : eqOB b want=decide (b=some want):=by
 cases b with
 | none=>rfl
 | some b=>cases b <;> cases want <;> rfl
theorem zrY {np n : Nat} : ∀ (ops : List zb7) (i : Nat) (st : St) (s : RS) (tr : List (List Nat × List Nat)) (k : Nat→TS→List (Nat × Option Ent)→List (List Nat × List Nat)→Rr) (r : zec × RS) (K : St→List (List Nat × List Nat)→Prop),
  zhU st s→znR sp cf s.sz np ops (n+8*i) k s.t s.h tr=some r→(∀ st' s' tr',s'.sz=s.sz→zhU st' s'→k (n+8*(i+ops.length)) s'.t s'.h tr'=some r→K { st' with n:=st.n } tr') →
  zbq P np n i ops st tr (fun st' tr'=>K { st' with n:=st.n } tr')∧(ops.all fun o=>o.dst.all (· < s.sz))=true
 | [],i,st,s,tr,k,r,K,ag,e,hK=>⟨hK st s tr rfl ag e,rfl⟩
 | o::os,i,st,s,tr,k,r,K,ag,e,hK=>by
   have ih:=fun (st' : St) (s' : RS) (tr' : List (List Nat × List Nat)) (hn : st'.n=st.n) (hsz : s'.sz=s.sz) (ag' : zhU st' s') (e' : znR sp cf s.sz np os (n+8*(i+1)) k s'.t s'.h tr'=some r)=>zrY os (i+1) st' s' tr' k r K ag' (by rw [hsz]; exact e') (fun st2 s2 tr2 q1 q2 q3=>by
    have:=hK st2 s2 tr2 (q1.trans hsz) q2 (by rw [show i+(o::os).length=i+1+os.length by simp; omega]; exact q3)
    rw [hn]
    exact this)
   have hu : znR sp cf s.sz np (o::os) (n+8*i) k s.t s.h tr=fcN (n+8*i+8) fun id'=>ztS sp cf s.sz np (n+8*i) o (znR sp cf s.sz np os id' k) s.t s.h tr:=rfl
   rw [hu,zkB,show n+8*i+8=n+8*(i+1) by omega] at e
   have hset : ∀ (v : AV) (d : Nat) (h : List (Nat × Option Ent)) (tr' : List (List Nat × List Nat)),setA v s.t d (zwX (znR sp cf s.sz np os (n+8*(i+1)) k) h tr')=some r → ∃ t',(∀ j,nthA t' j=if d=j then v else nthA s.t j)∧znR sp cf s.sz np os (n+8*(i+1)) k t' h tr'=some r:=by
    intro v d h tr' hs
    rcases zor (γ:=zec × RS) v s.t d with ⟨t',h1,h2⟩ | h1
    ·rw [h1] at hs
     exact ⟨t',h2,hs⟩
    ·rw [h1] at hs
     cases hs
   have hgo : opGo sp cf s.sz np (n+8*i) o (znR sp cf s.sz np os (n+8*(i+1)) k) s.t s.h tr=some r →
    (aK P np (n+8*i) o.op (o.xs.map (·.ev st.get)) st.hp fun v rd up=>zbq P np n (i+1) os ((st.put o.dst v).upd up) (tr++[(rd,up.map (·.1))]) (fun st' tr'=>K { st' with n:=st.n } tr'))∧((o::os).all fun o=>o.dst.all (· < s.sz))=true:=by
    intro h
    unfold opGo at h
    rw [zt0] at h
    have e1 : nthA s.t=st.get:=ag.t.symm
    have e2 : hpB s.h=st.hp:=ag.h.symm
    rw [e1,e2] at h
    unfold zxP at h
    split at h
    ·cases h
    rename_i v rd up hev
    rw [zgb (zwe false)] at h
    unfold zv4 at h
    obtain ⟨h',q1,q2⟩:=zp1 up s.h
    rw [q1] at h
    unfold zwo at h
    rw [List.all_cons]
    split at h
    ·rename_i hdst
     have hx:=ih ((st.put none v).upd up) { s with h:=h' } _ rfl rfl (ag.upd q2) h
     refine ⟨zwt hcf hev ?_,by rw [hdst,hx.2]; rfl⟩
     rw [hdst]
     exact hx.1
    ·rename_i d hdst
     split at h
     rotate_left
     ·cases h
     rename_i hlt
     rw [zni] at h
     obtain ⟨t',ht',h⟩:=hset _ _ _ _ h
     have hx:=ih ((st.put (some d) v).upd up) { s with t:=t',h:=h' } _ rfl rfl ((ag.put ht').upd (s:={ s with t:=t' }) q2) h
     refine ⟨zwt hcf hev ?_,by rw [hdst,hx.2]; simpa [Nat.blt_eq] using hlt⟩
     rw [hdst]
     exact hx.1
   unfold ztS at e
   unfold zbq
   split at e
   ·rename_i hg
    simp only [hg]
    exact hgo e
   ·rename_i gg want hg
    simp only [hg]
    unfold opGd at e
    split at e
    ·cases e
    ·rename_i b hb
     have hb' : gdV (st.get gg)=some b:=by rw [ag.t]; exact hb
     rw [zxp] at e
     split at e
     ·rename_i hbw
      have hbw:=of_decide_eq_true hbw
      obtain ⟨h1,h2⟩:=hgo e
      exact ⟨⟨b,hb',by rw [if_pos hbw]; exact h1⟩,h2⟩
     ·rename_i hbw
      have hbw:=of_decide_eq_false hbw
      unfold zv5 at e
      rw [List.all_cons]
      split at e
      ·rename_i hdst
       have hx:=ih st s _ rfl rfl ag e
       exact ⟨⟨b,hb',by rw [if_neg hbw,hdst]; exact hx.1⟩,by rw [hdst,hx.2]; rfl⟩
      ·rename_i d hdst
       split at e
       rotate_left
       ·cases e
       rename_i hlt
       obtain ⟨t',ht',h⟩:=hset _ _ _ _ e
       have hx:=ih (st.put (some d) (.tup [])) { s with t:=t' } _ rfl rfl (ag.put ht') h
       exact ⟨⟨b,hb',by rw [if_neg hbw,hdst]; exact hx.1⟩,by rw [hdst,hx.2]; simpa [Nat.blt_eq] using hlt⟩
theorem zeT {np lf : Nat} : ∀ (c : zfo) (s : RS) (r : zec × RS),zkO sp cf np lf c s=some r → ∀ st,zhU st s→awp P np c (fun e t=>e=r.1∧zhU t r.2) st
 | .skip,s,r,h,st,ag=>by cases h; exact ⟨rfl,ag⟩
 | .reg draw ops after,⟨sz,t,hh,n⟩,r,h,st,ag=>by
   have h : znR sp cf sz np ops n (zs1 draw ops after sz) t hh []=some r:=h
   have hn : st.n=n:=ag.n
   have hx:=zrY hcf (n:=n) ops 0 st ⟨sz,t,hh,n⟩ [] _ r (fun st' tr=>(draw=true→zeK ops after tr=true)∧zec.normal=r.1∧zhU { st' with n:=st.n+8*ops.length } r.2) ag (by rw [Nat.mul_zero,Nat.add_zero]; exact h) (fun st' s' tr' q1 q2 q3=>by
    rw [Nat.zero_add] at q3
    unfold zs1 at q3
    have q1 : s'.sz=sz:=q1
    split at q3
    ·cases q3
     exact ⟨fun h=>(by cases h),rfl,⟨q2.sz.trans q1,by rw [hn],q2.t,q2.h⟩⟩
    ·split at q3
     ·rename_i ho
      cases q3
      exact ⟨fun _=>ho,rfl,⟨q2.sz.trans q1,by rw [hn],q2.t,q2.h⟩⟩
     ·cases q3)
   refine ⟨by rw [ag.sz]; exact hx.2,?_⟩
   rw [hn]
   refine zcM _ _ _ _ _ _ _ (fun st' tr' hq=>?_) hx.1
   rw [hn] at hq
   exact hq
 | .seq a b,s,r,h,st,ag=>by
   have h : seqK (zkO sp cf np lf b) (zkO sp cf np lf a s)=some r:=h
   unfold seqK at h
   show awp P np a _ st
   split at h
   ·rename_i s' ha
    refine zcH (fun e t ht=>?_) (zeT a s _ ha st ag)
    obtain ⟨rfl,ag'⟩:=ht
    exact ⟨t,Le.refl _ _,zeT b s' r h t ag'⟩
   ·rename_i hno
    obtain ⟨e0,s0⟩:=r
    refine zcH (fun e t ht=>?_) (zeT a s _ h st ag)
    obtain ⟨rfl,ag'⟩:=ht
    cases e with
    | normal=>exact absurd h (hno s0)
    | exit id=>exact ⟨rfl,ag'⟩
    | ret=>exact ⟨rfl,ag'⟩
 | .cond c a b,s,r,h,st,ag=>by
   have h : zwy (zkO sp cf np lf a) (zkO sp cf np lf b) s (c.ev s.get)=some r:=h
   unfold zwy at h
   split at h
   ·rename_i hc
    exact ⟨true,by rw [ag.t]; exact hc,zeT a s r h st ag⟩
   ·rename_i hc
    exact ⟨false,by rw [ag.t]; exact hc,zeT b s r h st ag⟩
   ·cases h
 | .block id a,s,r,h,st,ag=>by
   have h : zuO id (zkO sp cf np lf a s)=some r:=h
   unfold zuO at h
   show awp P np a _ st
   split at h
   ·rename_i i s' ha
    refine zcH (fun e t ht=>?_) (zeT a s _ ha st ag)
    obtain ⟨rfl,ag'⟩:=ht
    simp only
    rw [zgg] at h
    split at h
    ·rename_i hi; cases h; rw [if_pos (of_decide_eq_true hi)]; exact ⟨rfl,ag'⟩
    ·rename_i hi; cases h; rw [if_neg (of_decide_eq_false hi)]; exact ⟨rfl,ag'⟩
   ·rename_i hno
    obtain ⟨e0,s0⟩:=r
    refine zcH (fun e t ht=>?_) (zeT a s _ h st ag)
    obtain ⟨rfl,ag'⟩:=ht
    cases e with
    | normal=>exact ⟨rfl,ag'⟩
    | exit id=>exact absurd h (hno id s0)
    | ret=>exact ⟨rfl,ag'⟩
 | .loop a,s,r,h,st,ag=>by
   have h : zrS (zkO sp cf np lf a) lf s=some r:=h
   refine ⟨fun k t=>∃ s',zhU t s'∧zrS (zkO sp cf np lf a) k s'=some r,⟨st,lf,Le.refl _ _,s,ag,h⟩,?_⟩
   rintro k t ⟨s',ag',h'⟩
   match k,h' with
   | 0,h'=>cases h'
   | k+1,h' =>
     have h' : (match zkO sp cf np lf a s' with | some (.normal,s2)=>zrS (zkO sp cf np lf a) k s2 | r=>r)=some r:=h'
     split at h'
     ·rename_i s2 ha
      refine zcH (fun e t ht=>?_) (zeT a s' _ ha t ag')
      obtain ⟨rfl,ag2⟩:=ht
      exact ⟨t,k,Le.refl _ _,⟨s2,ag2,h'⟩,Nat.lt_succ_self k⟩
     ·rename_i hno
      obtain ⟨e0,s0⟩:=r
      refine zcH (fun e t ht=>?_) (zeT a s' _ h' t ag')
      obtain ⟨rfl,ag2⟩:=ht
      cases e with
      | normal=>exact absurd h' (hno s0)
      | exit id=>exact ⟨rfl,ag2⟩
      | ret=>exact ⟨rfl,ag2⟩
 | .exit id,s,r,h,st,ag=>by cases h; exact ⟨rfl,ag⟩
 | .ret,s,r,h,st,ag=>by cases h; exact ⟨rfl,ag⟩
 | .bad,s,r,h,st,ag=>by cases h
omit hcf in
theorem zrX {st : St} {s : RS} (ag : zhU st s) : ∀ l,zge st l=zmh s l
 | []=>rfl
 | r::rs=>by
   have h1 : zji st r=zqM s r:=by
    unfold zji zqM
    rw [ag.t,ag.h]
    rfl
   rw [zge,zmh,zrX ag rs,h1]
   rfl
omit hcf in
theorem zpb {np : Nat} {s : RS} {vs : List AV} {small : Bool} {ex sn : List Nat} {res : AV} {hs' : List (Option Ent)} (h : zrt np s vs small ex sn=some (res,hs')) : np≤hs'.length ∧
  ∀ (st : St) (rs : List (Nat × Option (Bool × Nat))),zhU st s→zmh s rs=some vs→zan rs np st res hs':=by
 unfold zrt at h
 split at h
 ·rename_i hc
  simp only [Bool.and_eq_true,List.all_eq_true,Nat.ble_eq,Bool.not_eq_true',List.contains_eq_mem,decide_eq_false_iff_not] at hc
  obtain ⟨c1,c2,c3⟩:=hc
  rw [zni,zgb (fun o k=>by cases o <;> simp only [zut])] at h
  cases h
  refine ⟨by simp,fun st rs ag hvs=>⟨vs,by rw [zrX ag]; exact hvs,ex,sn,zlp _ c1,c2,c3,?_,?_⟩⟩
  ·rw [ag.h]; exact .refl _
  ·rw [ag.h]
 ·cases h
omit hcf in
theorem zvA {rs : List (Nat × Option (Bool × Nat))} {np : Nat} {s : RS} {res : AV} {hs' : List (Option Ent)} (h : ztW rs np s=some (res,hs')) : np≤hs'.length ∧ ∀ st,zhU st s→zan rs np st res hs':=by
 unfold ztW at h
 split at h
 ·cases h
 rename_i vs hvs
 simp only [zgb (zkB (β:=Option (AV × List (Option Ent))))] at h
 split at h
 ·obtain ⟨h1,h2⟩:=zpb h
  exact ⟨h1,fun st ag=>h2 st rs ag hvs⟩
 ·obtain ⟨h1,h2⟩:=zpb h
  exact ⟨h1,fun st ag=>h2 st rs ag hvs⟩
theorem zvB {lf : Nat} {f : FuncId} {af : AFun} (s : Src P f af) {args : List AV} {hs : List Ent} {res : AV} {hs' : List (Option Ent)} (h : zvM sp cf lf af args hs=some (res,hs')) : zak P f args hs res hs':=by
 unfold zvM at h
 split at h
 ·rename_i hc
  simp only [Bool.and_eq_true,Nat.ble_eq] at hc
  rw [zgb (zni _ _)] at h
  obtain ⟨t',h,ht'⟩:=zuo _ _ _ _ _ h
  rw [zgb (zwe _),zkB] at h
  have ag : zhU (zhf af args hs) ⟨af.nt,t',hs.zipIdx.map fun (e,k)=>(k,some e),16⟩:=by
   refine ⟨rfl,rfl,?_,by funext id; unfold RS.hp; rw [zwa]; rfl⟩
   funext i
   unfold St.get RS.get zhf
   rw [ht',zoN]
   simp only
   have key : ∀ (l : List AV) (m i : Nat),(lkp ((l.zipIdx m).map fun (a,i)=>(i,a)) (m+i)).getD .dead=l.getD i .dead:=by
    intro l
    induction l with
    | nil=>intro m i; simp [lkp]
    | cons a l ih =>
      intro m i
      simp only [List.zipIdx_cons,List.map_cons,lkp]
      cases i with
      | zero=>simp
      | succ i =>
        rw [if_neg (by omega)]
        have:=ih (m+1) i
        rw [show m+(i+1)=m+1+i by omega,this]
        rfl
   have h1:=key args 0 i
   rw [Nat.zero_add] at h1
   rw [h1]
   split
   ·rw [Nat.sub_zero]
   ·rename_i hi
    rw [List.getD_eq_getElem?_getD,List.getElem?_eq_none (by omega)]
    rfl
  have fin : ∀ (e0 : zec) (s0 : RS),e0 = .normal∨e0 = .ret→zkO sp cf hs.length lf af.code ⟨af.nt,t',hs.zipIdx.map fun (e,k)=>(k,some e),16⟩=some (e0,s0)→ztW af.res hs.length s0=some (res,hs')→zak P f args hs res hs':=by
   intro e0 s0 he hr hret
   have hw:=zeT hcf _ _ _ hr _ ag
   obtain ⟨hl,hro⟩:=zvA hret
   refine s.acalls hc.1 hc.2 hl (zcH (fun e t ht=>?_) hw)
   obtain ⟨rfl,ag'⟩:=ht
   exact ⟨he,hro t ag'⟩
  unfold zwu at h
  split at h
  ·rename_i s0 hr; exact fin _ s0 (.inl rfl) hr h
  ·rename_i s0 hr; exact fin _ s0 (.inr rfl) hr h
  ·cases h
 ·cases h
end
theorem zwk {P : Program} {sp : List FuncId} {ext : Cf} {tbl : List (FuncId × AFun)} (he : ∀ f a b r c,ext f a b=some (r,c)→zak P f a b r c) (ht : ∀ q∈tbl,Src P q.1 q.2) (lf : Nat) :
  ∀ (d : Nat) (f : FuncId) (a : List AV) (b : List Ent) (r : AV) (c : List (Option Ent)),evN sp ext tbl lf d f a b=some (r,c)→zak P f a b r c
 | 0,_,_,_,_,_,h=>by cases h
 | d+1,f,a,b,r,c,h=>by
   have h : evX (ext f a b) (evT tbl (fun af=>zvM sp (evN sp ext tbl lf d) lf af a b) f)=some (r,c):=h
   unfold evX at h
   split at h
   ·rename_i hx; cases h; exact he _ _ _ _ _ hx
   ·unfold evT at h
    rw [zsV] at h
    split at h
    ·rename_i af hl
     exact zvB (zwk he ht lf d) (ht _ (zbV hl)) h
    ·cases h
theorem zak.wk {P : Program} {f : FuncId} {args args' : List AV} {hs : List Ent} {res : AV} {hs' : List (Option Ent)} (h : zak P f args' hs res hs') (hw : WkL args args') : zak P f args hs res hs':=by
 refine ⟨h.1,h.2.1,fun T M w vs h1 h2 h3 hr=>h.2.2 T M w vs h1 h2 h3 ⟨hr.1.trans hw.length,fun i hi=>?_⟩⟩
 have hi' : i<args.length:=by rw [hw.length]; exact hi
 exact (hw.get i hi').rep (hr.2 i hi')
def bqF : List UInt8→List UInt8→Bool
 | [],[]=>true
 | x::xs,y::ys=>Nat.beq x.toNat y.toNat && bqF xs ys
 | _,_=>false
theorem zwc : ∀ {a b : List UInt8},bqF a b=true→a=b
 | [],[],_=>rfl
 | x::xs,y::ys,h=>by
   simp only [bqF,Bool.and_eq_true] at h
   rw [zwc h.2,UInt8.toNat_inj.1 (Nat.eq_of_beq_eq_true h.1)]
 | [],_::_,h=>by cases h
 | _::_,[],h=>by cases h
def vqF (a b : Value) : Bool:=match a with
 | .int k m=>(match b with | .int k' n=>Nat.beq (kN k) (kN k') && eqF m n | _=>false)
 | .bool x=>(match b with | .bool y=>x == y | _=>false)
 | .string s=>(match b with | .string u=>bqF s.data.toList u.data.toList | _=>false)
 | .slice none 0 0=>(match b with | .slice none 0 0=>true | _=>false)
 | _=>false
theorem zxS {a b : Value} (h : vqF a b=true) : a=b:=by
 unfold vqF at h
 split at h
 ·split at h
  ·rw [zyY,zwh,Bool.and_eq_true,decide_eq_true_eq,beq_iff_eq] at h
   rw [h.1,h.2]
  ·cases h
 ·split at h
  ·rw [beq_iff_eq] at h; rw [h]
  ·cases h
 ·split at h
  ·rename_i s _ u
   have:=zwc h
   obtain ⟨⟨s⟩⟩:=s
   obtain ⟨⟨u⟩⟩:=u
   simp only at this
   rw [this]
  ·cases h
 ·split at h
  ·rfl
  ·cases h
 ·cases h
noncomputable def lqF {α : Type} (q : α→α→Bool) (a : List α) : List α→Bool :=
 List.rec (motive:=fun _=>List α→Bool) (fun b=>match b with | []=>true | _::_=>false) (fun x _ ih b=>match b with | []=>false | y::ys=>q x y && ih ys) a
theorem zpW {α : Type} {q : α→α→Bool} (hq : ∀ x y,q x y=true→x=y) : ∀ {a b : List α},lqF q a b=true→a=b
 | [],[],_=>rfl
 | [],_::_,h=>by cases h
 | _::_,[],h=>by cases h
 | x::xs,y::ys,h=>by
   have h : (q x y && lqF q xs ys)=true:=h
   rw [Bool.and_eq_true] at h
   rw [hq _ _ h.1,zpW hq h.2]
noncomputable def aqX (ih : AV→AV→Bool) (a b : AV) : Bool:=match a with
 | .sc v=>(match b with | .sc u=>vqF v u | _=>false)
 | .agg xs=>(match b with | .agg ys=>lqF ih xs ys | _=>false)
 | .vs s false rows=>(match b with | .vs s' false rows'=>Nat.beq s s' && lqF (lqF ih) rows rows' | _=>false)
 | _=>false
noncomputable def aqF (n : Nat) : AV→AV→Bool:=Nat.rec (motive:=fun _=>AV→AV→Bool) (fun _ _=>false) (fun _ ih=>aqX ih) n
theorem zv9 : ∀ (n : Nat) (a b : AV),aqF n a b=true→a=b
 | 0,_,_,h=>by cases h
 | n+1,a,b,h=>by
   have ih:=zv9 n
   have h : aqX (aqF n) a b=true:=h
   unfold aqX at h
   split at h
   ·split at h
    ·rw [zxS h]
    ·cases h
   ·split at h
    ·rw [zpW ih h]
    ·cases h
   ·split at h
    ·rw [Bool.and_eq_true] at h
     rw [Nat.eq_of_beq_eq_true h.1,zpW (fun _ _=>zpW ih) h.2]
    ·cases h
   ·cases h
structure Fct where
 f : FuncId
 args : List AV
 res : AV
 out : List (Option Ent)
abbrev Fct.Ok (P : Program) (q : Fct) : Prop:=zak P q.f q.args [] q.res q.out
noncomputable def zx1 (l : List Fct) (f : FuncId) (args : List AV) : Option (AV × List (Option Ent)) :=
 List.rec (motive:=fun _=>Option (AV × List (Option Ent))) none (fun q _ ih=>match Nat.beq q.f f && lqF (aqF 6) q.args args with | true=>some (q.res,q.out) | false=>ih) l
def ascB : List Int→Bool
 | []=>true
 | x::l=>(match l with | []=>true | y::_=>ltF x y) && ascB l
def zvS : List (List AV)→Option (List Int)
 | []=>some []
 | [.sc (.int .i64 n)]::r=>match zvS r with | some l=>some (n::l) | none=>none
 | _=>none
def zyc (args : List AV) : Option (AV × List (Option Ent)):=match args with
 | [.vs 1 false rows]=>match zvS rows with
   | some l=>match ascB l && Nat.ble l.length 1000 with | true=>some (.rs 0 0 l.length,[some ⟨1,zai l,0⟩]) | false=>none
   | none=>none
 | _=>none
noncomputable def zhh (l : List Fct) : Cf:=fun f args hs=>match hs with
 | []=>match Nat.beq f zcS with | true=>zyc args | false=>zx1 l f args
 | _::_=>none
theorem zra : ∀ {rows : List (List AV)} {l : List Int},zvS rows=some l→rows=zai l
 | [],l,h=>by cases h; rfl
 | row::rows,l,h=>by
   unfold zvS at h
   split at h
   ·rename_i he; cases he
   ·split at h
    ·rename_i hr; cases h; rename_i he _ _ ; injection he with e1 e2; subst e1 e2; rw [zra hr]; rfl
    ·cases h
   ·cases h
theorem ztO : ∀ {l : List Int},ascB l=true→l.Pairwise (· < ·)
 | [],_=>.nil
 | [x],_=>List.pairwise_singleton _ _
 | x::y::l,h=>by
   simp only [ascB,Bool.and_eq_true,ztZ,decide_eq_true_eq] at h
   have ih:=ztO (l:=y::l) (by simp only [ascB,Bool.and_eq_true,ztZ]; exact h.2)
   refine List.pairwise_cons.2 ⟨fun z hz=>?_,ih⟩
   rcases List.mem_cons.1 hz with rfl | hz
   ·exact h.1
   ·have:=(List.pairwise_cons.1 ih).1 z hz; omega
theorem zwG {l : List Int} (h : l.Pairwise (· < ·)) : srt l=l:=List.mergeSort_of_pairwise (h.imp fun h=>by simp; omega)
theorem zuv {l : List Fct} (h : ∀ q∈l,q.Ok Tryz.prog) : ∀ f a b r c,zhh l f a b=some (r,c)→zak Tryz.prog f a b r c:=by
 intro f a b r c e
 unfold zhh at e
 split at e
 ·split at e
  ·rename_i hf
   have hf:=Nat.eq_of_beq_eq_true hf
   subst hf
   unfold zyc at e
   split at e
   ·split at e
    ·rename_i L hL
     split at e
     ·rename_i hA
      rw [Bool.and_eq_true] at hA
      have hl : L.length≤1099511627776:=Nat.le_trans (nbz hA.2) (by omega)
      replace hA:=hA.1
      cases e
      have:=ztO hA
      rw [zra hL]
      have h1:=zhA L hl
      rw [zwG this] at h1
      exact h1
     ·cases e
    ·cases e
   ·cases e
  ·induction l with
   | nil=>cases e
   | cons q l ih =>
     have e : (match Nat.beq q.f f && lqF (aqF 6) q.args a with | true=>some (q.res,q.out) | false=>zx1 l f a)=some (r,c):=e
     split at e
     ·rename_i hq
      rw [Bool.and_eq_true] at hq
      have e1:=Nat.eq_of_beq_eq_true hq.1
      have e2:=zpW (fun _ _=>zv9 6 _ _) hq.2
      cases e
      rw [← e1,← e2]
      exact h q (List.mem_cons_self ..)
     ·exact ih (fun q hq=>h q (List.mem_cons_of_mem _ hq)) e
 ·cases e
set_option maxRecDepth 100000
theorem zkh {P : Program} : ∀ q∈([] : List (FuncId × AFun)),Src P q.1 q.2:=fun _ h=>(List.not_mem_nil h).elim
theorem zad {P : Program} {f : FuncId} {af : AFun} {l : List (FuncId × AFun)} (s : Src P f af) (h : ∀ q∈l,Src P q.1 q.2) : ∀ q∈(f,af)::l,Src P q.1 q.2:=fun q hq=>by
 rcases List.mem_cons.1 hq with rfl | hq
 ·exact s
 ·exact h q hq
theorem zh2 {P : Program} : ∀ q∈([] : List Fct),q.Ok P:=fun _ h=>(List.not_mem_nil h).elim
theorem zfm {P : Program} {q0 : Fct} {l : List Fct} (s : q0.Ok P) (h : ∀ q∈l,q.Ok P) : ∀ q∈q0::l,q.Ok P:=fun q hq=>by
 rcases List.mem_cons.1 hq with rfl | hq
 ·exact s
 ·exact h q hq
theorem zox {sp : List FuncId} {l : List Fct} {tbl : List (FuncId × AFun)} (hl : ∀ q∈l,q.Ok Tryz.prog) (ht : ∀ q∈tbl,Src Tryz.prog q.1 q.2) {f : FuncId} {a : List AV} {r : AV} {c : List (Option Ent)} (h : evN sp (zhh l) tbl 1000 40 f a []=some (r,c)) : zak Tryz.prog f a [] r c :=
 zwk (zuv hl) ht 1000 40 f a [] r c h
abbrev gSv : AV:=.agg [.I 12,.vs 3 false [[.I 0,.I 1,.I 1]],.nilS]
abbrev pSv : AV:=.agg [.vs 1 false [[.I 0]],.vs 1 false [[.I 5],[.I 4]],.I 1]
abbrev sSv : AV:=.sc (.string ⟨#[115]⟩)
abbrev uSv (n : Int) : AV:=.sc (.int .u64 n)
abbrev oSv : AV:=.vs 1 false [[.I 2],[.I 3],[.I 4],[.I 5],[.I 6],[.I 7],[.I 8],[.I 9],[.I 10],[.I 11]]
def spE : List FuncId:=[zcS,zbT,zaV,zaH,zbZ,zbg,zbm,zd3]
abbrev by25 (l : List Int) : AV:=.vs 1 false (l.map fun n=>[.sc (.int .u8 n)])
noncomputable def okS (r : Option (AV × List (Option Ent))) : Bool:=match r with | some (.sc (.string s),[])=>true | _=>false
theorem zwv {r : Option (AV × List (Option Ent))} (h : okS r=true) : ∃ s,r=some (.sc (.string s),[]):=by
 unfold okS at h
 split at h
 ·exact ⟨_,rfl⟩
 ·cases h
def tblD : List (FuncId × AFun):=[(zgk,ziB),(zcP,zeu),(zc6,zey),(zd1,zfE),(zbZ,zlI)]
theorem srcD : ∀ q∈tblD,Src Tryz.prog q.1 q.2:=zad zmF (zad zgU (zad zhl (zad ziE (zad zqi zkh))))
theorem dig0 : okS (evN spE (zhh []) tblD 1000 40 zbZ [by25 [0,0,0,0,0,0,0,1,115,0,0,0,0,0,0,0,0,0,0,0,0,0,0,0,1]] [])=true:=by kernel_rfl
theorem dig1 : okS (evN spE (zhh []) tblD 1000 40 zbZ [by25 [0,0,0,0,0,0,0,1,115,0,0,0,0,0,0,0,1,0,0,0,0,0,0,0,0]] [])=true:=by kernel_rfl
def tblE : List (FuncId × AFun):=[(zaC,zhF),(zgo,zix),(zhc,zjh),(zbY,zcY),(zcA,zeX),(zb8,zeW),(zaT,za8),(zaN,zbA),(zaR,zcw),(zeH,zig),(zlW,zpu),(zdg,ze1),(zcT,zen),(zcI,zeb),(zdc,zga),(zbT,zd5),(zlo,zo8),(zhT,zpz),(zj0,zna),(za5,zbC),(zaK,zch),(za2,zbu),(zdr,zgG),(zdZ,zfP),(zfi,zhe),(zg7,zju),(zdx,zfj),(zaU,zcm),(zdv,zfl),(zej,zf8),(zam,zbL),(zeg,zf1),(zaE,zbc),(zaP,zbX),(zbg,zhX)]
theorem srcE : ∀ q∈tblE,Src Tryz.prog q.1 q.2:=zad zhw (zad zmI (zad zoD (zad zdQ (zad zgh (zad zeV (zad zbw (zad zcs (zad zbO (zad zid (zad zt3 (zad zhM (zad zgI (zad zgA (zad zjd (zad zgy (zad zuS (zad zuZ (zad zsb (zad zc5 (zad zdX (zad zcQ (zad zkk (zad ziX (zad zkT (zad zn4 (zad zin (zad zcl (zad zio (zad zjq (zad zbI (zad zjL (zad zbd (zad zbW (zad zmn zkh))))))))))))))))))))))))))))))))))
theorem esc0 (s0 s1 : ByteArray) : evN spE (zhh [⟨zbZ,[by25 [0,0,0,0,0,0,0,1,115,0,0,0,0,0,0,0,0,0,0,0,0,0,0,0,1]],.sc (.string s0),[]⟩,⟨zbZ,[by25 [0,0,0,0,0,0,0,1,115,0,0,0,0,0,0,0,1,0,0,0,0,0,0,0,0]],.sc (.string s1),[]⟩]) tblE 1000 40 zbg [gSv,sSv,.I 0,.I 3,oSv] []=some (.I 0,[]):=by kernel_rfl
theorem esc1 (s0 s1 : ByteArray) : evN spE (zhh [⟨zbZ,[by25 [0,0,0,0,0,0,0,1,115,0,0,0,0,0,0,0,0,0,0,0,0,0,0,0,1]],.sc (.string s0),[]⟩,⟨zbZ,[by25 [0,0,0,0,0,0,0,1,115,0,0,0,0,0,0,0,1,0,0,0,0,0,0,0,0]],.sc (.string s1),[]⟩]) tblE 1000 40 zbg [gSv,sSv,.I 1,.I 3,oSv] []=some (.I 0,[]):=by kernel_rfl
def tblI : List (FuncId × AFun):=[(zb1,zdR),(zbY,zcY),(zbJ,zcB),(zdU,ze7),(za1,zeG),(zbE,zfX)]
theorem srcI : ∀ q∈tblI,Src Tryz.prog q.1 q.2:=zad zdK (zad zdQ (zad zdI (zad zhk (zad zgH (zad ziP zkh)))))
theorem tim1 : evN spE (zhh []) tblI 1000 40 za1 [uSv 1,uSv 1] []=some (uSv 1,[]):=by kernel_rfl
theorem inv1 : evN spE (zhh [⟨za1,[uSv 1,uSv 1],uSv 1,[]⟩]) tblI 1000 40 zbE [uSv 1] []=some (uSv 1,[]):=by kernel_rfl
def tblW : List (FuncId × AFun):=[(zaC,zhF),(zb6,zjf),(zaU,zcm),(zam,zbL),(zfT,zlz),(zb8,zeW),(zbv,ze9),(zeR,zmj),(zdB,ziA),(zf4,zky),(zbM,zhx),(zaH,zbx),(zaV,zck),(zeh,zg5),(zcj,zfA),(zay,zbj),(zaF,zbe),(zbQ,zhD),(zdL,zfh),(zb1,zdR),(zdy,zgp),(zbr,zcO),(zdn,zfU),(zcu,ze6),(zbo,zht),(zbY,zcY),(zcA,zeX),(zaT,za8),(zaN,zbA),(zaR,zcw),(zeH,zig),(zcv,ze8),(zaE,zbc),(za9,zcc),(zcV,zgQ),(zbs,zes),(zbS,zek),(zaG,zbz),(zaS,zb5),(zbK,zcD),(zaJ,zca),(zbh,zcE),(zaY,zbG),(zci,zfF),(zeC,zgu),(zcz,zeY),(zbJ,zcB),(zdU,ze7),(za1,zeG),(zc4,zez),(zer,zf6),(zbm,zfQ)]
theorem srcW : ∀ q∈tblW,Src Tryz.prog q.1 q.2:=zad zhw (zad zjw (zad zcl (zad zbI (zad zmo (zad zeV (zad zfa (zad zlv (zad zit (zad zkC (zad zh4 (zad za7 (zad zbB (zad zgT (zad zfM (zad zbi (zad zbf (zad zf9 (zad zhg (zad zdK (zad zgn (zad zcR (zad zfz (zad zfd (zad zf5 (zad zdQ (zad zgh (zad zbw (zad zcs (zad zbO (zad zid (zad zfc (zad zbd (zad zcg (zad zgL (zad zeo (zad zev (zad zby (zad zdb (zad zdE (zad zdp (zad zcF (zad zbF (zad zfC (zad zka (zad zhB (zad zdI (zad zhk (zad zgH (zad zhm (zad zjt (zad ziZ zkh)))))))))))))))))))))))))))))))))))))))))))))))))))
theorem wei1 : evN spE (zhh [⟨zbE,[uSv 1],uSv 1,[]⟩]) tblW 1000 40 zbm [gSv,pSv,.I 1] []=some (.tup [.rs 0 0 12,.I 0],[some ⟨1,[[.I 2],[.I 1],[.I 0],[.I 0],[.I 0],[.I 0],[.I 0],[.I 0],[.I 0],[.I 0],[.I 0],[.I 0]],0⟩]):=by kernel_rfl
def tblM : List (FuncId × AFun):=[(zaC,zhF),(zhq,zkD),(zdo,zkt),(zgl,ziz),(zdA,ziC),(za4,zcp),(zaW,zb2),(zfI,zlh),(zaV,zck),(zgt,znl),(zcd,zfy),(zbN,ze2),(zcU,zfG),(zh7,znt),(zhy,zpq),(zeq,zjp),(zaE,zbc),(zaP,zbX),(zdH,ziw),(zg8,zlm),(zfD,zlL),(zd3,zlU)]
theorem srcM : ∀ q∈tblM,Src Tryz.prog q.1 q.2:=zad zhw (zad zpU (zad zoL (zad zmN (zad ziu (zad zco (zad zb3 (zad zlG (zad zbB (zad znq (zad zfR (zad ze5 (zad zfL (zad znb (zad zpT (zad zjj (zad zbd (zad zbW (zad ziy (zad zln (zad zmm (zad zp9 zkh)))))))))))))))))))))
theorem mos1 : evN spE (zhh []) tblM 1000 40 zd3 [gSv,.I 1,.I 0,.I 1] []=some (.I 1,[]):=by kernel_rfl
def tblT : List (FuncId × AFun):=[(zdF,ziq),(zbP,zhP),(zbv,ze9),(zb8,zeW),(zeL,zgD),(zcV,zgQ),(zcu,ze6),(zcv,ze8),(zci,zfF),(zbs,zes),(zbS,zek),(zdn,zfU),(zbQ,zhD),(zcj,zfA),(zeH,zig),(zeh,zg5),(zaC,zhF),(zbo,zht),(zcA,zeX),(zbY,zcY),(zdy,zgp),(zdL,zfh),(zb1,zdR),(zaH,zbx),(zaV,zck),(zam,zbL),(zaF,zbe),(za9,zcc),(zay,zbj),(zaE,zbc),(zaU,zcm),(zbr,zcO),(zaY,zbG),(zaR,zcw),(zaG,zbz),(zaT,za8),(zaN,zbA),(zbK,zcD),(zbh,zcE),(zaS,zb5),(zaJ,zca)]
theorem srcT : ∀ q∈tblT,Src Tryz.prog q.1 q.2:=zad zmK (zad zhQ (zad zfa (zad zeV (zad zj2 (zad zgL (zad zfd (zad zfc (zad zfC (zad zeo (zad zev (zad zfz (zad zf9 (zad zfM (zad zid (zad zgT (zad zhw (zad zf5 (zad zgh (zad zdQ (zad zgn (zad zhg (zad zdK (zad za7 (zad zbB (zad zbI (zad zbf (zad zcg (zad zbi (zad zbd (zad zcl (zad zcR (zad zbF (zad zbO (zad zby (zad zbw (zad zcs (zad zdE (zad zcF (zad zdb (zad zdp zkh))))))))))))))))))))))))))))))))))))))))
theorem tab1 (f : List (List AV)) : evN spE (zhh [⟨zbg,[gSv,sSv,.I 0,.I 3,oSv],.I 0,[]⟩,⟨zbg,[gSv,sSv,.I 1,.I 3,oSv],.I 0,[]⟩,⟨zbm,[gSv,pSv,.I 1],.tup [.rs 0 0 12,.I 0],[some ⟨1,[[.I 2],[.I 1],[.I 0],[.I 0],[.I 0],[.I 0],[.I 0],[.I 0],[.I 0],[.I 0],[.I 0],[.I 0]],0⟩]⟩,⟨zd3,[gSv,.I 1,.I 0,.I 1],.I 1,[]⟩,
 ⟨zdV,[gSv,pSv],.tup [.agg [.vs 1 false [[.I 0],[.I 1]],.vs 1 false f,.vs 2 false []],.I 0],[]⟩]) tblT 1000 40 zdF [gSv,pSv,sSv,.I 3,.I 1] []=some (.tup [.rs 0 0 2,.I 0],[some ⟨6,[[.I 0,.I 0,.I 0,.I 0,.I 2,.B true],[.I 1,.I 1,.I 1,.I 0,.I 1,.B true]],0⟩]):=by kernel_rfl
theorem zsG : zak Tryz.prog zdF [gSv,pSv,sSv,.I 3,.I 1] [] (.tup [.rs 0 0 2,.I 0]) [some ⟨6,[[.I 0,.I 0,.I 0,.I 0,.I 2,.B true],[.I 1,.I 1,.I 1,.I 0,.I 1,.B true]],0⟩]:=by
 obtain ⟨s0,h0⟩:=zwv dig0
 obtain ⟨s1,h1⟩:=zwv dig1
 have d0:=zox zh2 srcD h0
 have d1:=zox zh2 srcD h1
 have fd:=zfm (q0:=⟨zbZ,[by25 [0,0,0,0,0,0,0,1,115,0,0,0,0,0,0,0,0,0,0,0,0,0,0,0,1]],.sc (.string s0),[]⟩) d0 (zfm (q0:=⟨zbZ,[by25 [0,0,0,0,0,0,0,1,115,0,0,0,0,0,0,0,1,0,0,0,0,0,0,0,0]],.sc (.string s1),[]⟩) d1 zh2)
 have e0:=zox fd srcE (esc0 s0 s1)
 have e1:=zox fd srcE (esc1 s0 s1)
 have i1:=zox (zfm (q0:=⟨za1,[uSv 1,uSv 1],uSv 1,[]⟩) (zox zh2 srcI tim1) zh2) srcI inv1
 have w1:=zox (zfm (q0:=⟨zbE,[uSv 1],uSv 1,[]⟩) i1 zh2) srcW wei1
 have m1:=zox zh2 srcM mos1
 obtain ⟨f,_,hrun⟩:=zhs gS pS zsg zmQ (by decide) (by decide)
 rw [ordS,accS.1,accS.2] at hrun
 have hrun : zak Tryz.prog zdV [gSv,pSv] [] (.tup [.agg [.vs 1 false [[.I 0],[.I 1]],.vs 1 false (f.map fun n=>[AV.I n]),.vs 2 false []],.I 0]) [] :=
  hrun.wk ⟨wkA3 (.refl _) (.refl _) (.nil _ _),.refl _,trivial⟩
 exact zox (zfm (q0:=⟨zbg,[gSv,sSv,.I 0,.I 3,oSv],.I 0,[]⟩) e0 (zfm (q0:=⟨zbg,[gSv,sSv,.I 1,.I 3,oSv],.I 0,[]⟩) e1 (zfm (q0:=⟨zbm,[gSv,pSv,.I 1],.tup [.rs 0 0 12,.I 0],[some ⟨1,[[.I 2],[.I 1],[.I 0],[.I 0],[.I 0],[.I 0],[.I 0],[.I 0],[.I 0],[.I 0],[.I 0],[.I 0]],0⟩]⟩) w1 (zfm (q0:=⟨zd3,[gSv,.I 1,.I 0,.I 1],.I 1,[]⟩) m1 (zfm hrun zh2))))) srcT (tab1 _)
theorem zxh : zak Tryz.prog ziY [] [] (.tup [gSv,pSv]) []:=by
 refine zp6.acalls (nbz rfl) (nbz rfl) (Nat.le_refl _) ?_
 show awp _ 0 _ _ ⟨8,[],[],16⟩
 refine rx (s:=?s1) [0,1] [16,24] [] rfl ?o1 ?q1
 case o1=>simp; rfl
 refine zab ⟨8,[(0,.pt 16 0 0),(1,.pt 24 0 0)],[(16,some ⟨3,[[.I 12,.vs 3 false [[.I 0,.I 1,.I 1]],.nilS]],0⟩),(24,some ⟨3,[[.vs 1 false [[.I 0]],.vs 1 false [[.I 5],[.I 4]],.I 1]],0⟩)],300⟩ rfl ?_ ?_
 ·simp
  exact Le.go [(16,16),(24,24)] [40,56,64] rfl rfl (by simp) (by simp [zaZ])
 refine zag ?_
 exact ⟨.inr rfl,zan.out [] [16,24] rfl (by simp) (by simp) (.refl _) (by simp)⟩
set_option maxRecDepth 100000 in
set_option maxHeartbeats 4000000 in
theorem zj4 : zak Tryz.prog zeZ [] [] (.B true) []:=by
 have hwk : ∀ x y : AV,WkL [gSv,pSv,x,y] [eG gS,eP pS,x,y]:=fun x y=>⟨wkA3 (.refl _) (.refl _) (.nil _ _),.refl _,.refl _,.refl _,trivial⟩
 have hharm:=(zhY gS pS 1 10 (by decide) (by decide) (by decide) (by decide) (fun _=>by decide)).wk (hwk _ _)
 rw [zzJ] at hharm
 have hring:=(zhp gS pS 1 2 (by decide) (by decide) (by decide) (by decide)).wk (hwk _ _)
 obtain ⟨h,hr,h7⟩:=zte
 rw [hr] at hring
 have htab:=zsG
 refine zpH.acalls (nbz rfl) (nbz rfl) (Nat.le_refl _) ?_
 show awp _ 0 _ _ ⟨102,[],[],16⟩
 refine rx (s:=?s1) [] [] [] rfl ?o1 ?q1
 case o1=>simp; rfl
 refine zab ⟨102,[(1,.pv [.I 12,.vs 3 false [[.I 0,.I 1,.I 1]],.nilS]),(2,.pv [.vs 1 false [[.I 0]],.vs 1 false [[.I 5],[.I 4]],.I 1])],[],200⟩ rfl ?_ ?_
 ·simp
  refine zaq zxh (by simp) ?_
  simp [zaZ]
  exact LeH [] [56,64]
 refine zab ⟨102,[(1,.pv [.I 12,.vs 3 false [[.I 0,.I 1,.I 1]],.nilS]),(2,.pv [.vs 1 false [[.I 0]],.vs 1 false [[.I 5],[.I 4]],.I 1]),(3,.I 3),(4,.I 0),(5,.I 0)],[],300⟩ rfl ?_ ?_
 ·simp
  refine zaq hharm (by simp) ?_
  simp
  exact LeH [] []
 refine zab ⟨102,[(1,.pv [.I 12,.vs 3 false [[.I 0,.I 1,.I 1]],.nilS]),(2,.pv [.vs 1 false [[.I 0]],.vs 1 false [[.I 5],[.I 4]],.I 1]),(3,.I 3),(4,.I 0),(5,.I 0),(6,.pv (gC h)),(7,.vs 1 false [[.I 2],[.I 3]]),(8,.I 0)],[],400⟩ rfl ?_ ?_
 ·simp
  refine zaq hring (by simp) ?_
  simp [zaZ]
  exact LeH [] [356]
 refine zab ⟨102,[(3,.I 3),(4,.I 0),(5,.I 0),(6,.pv (gC h)),(7,.vs 1 false [[.I 2],[.I 3]]),(8,.I 0),(9,.vs 6 false [[.I 0,.I 0,.I 0,.I 0,.I 2,.B true],[.I 1,.I 1,.I 1,.I 0,.I 1,.B true]]),(10,.I 0)],[],500⟩ rfl ?_ ?_
 ·simp
  refine zcq htab (by simp) ?_
  simp
  exact LeH [] [416]
 refine zab ⟨102,[(0,.B true)],[],2000⟩ rfl ?_ ?_
 ·simp [h7]
  exact LeH [] []
 refine zag ?_
 exact ⟨.inr rfl,zan.one (by simp)⟩
variable {g : Gr} {p : Pol} {x : Int} {l : List Int}
def zcW (g : Gr) (m : Int) : Gr:=⟨g.size+m,g.edges,g.gone⟩
theorem zvy (hg : GrOk g) {m : Int} (h0 : 0≤m) (h : g.size+m≤64) : GrOk (zcW g m):=by
 refine GrOk.of (by have:=hg.1.1; omega) h hg.1.2.2.1 (fun i hi=>?_) hg.pair fun e he=>?_
 ·have:=hg.1.2.2.2 i hi
  exact ⟨this.1,by show g.gone[i]≤g.size+m - 1; omega,this.2.2⟩
 ·have h1:=hg.fits e he
  refine ⟨?_,hg.val e he⟩
  unfold Fits at h1 ⊢
  exact ⟨h1.1,by show e.f≤g.size+m - 1; omega,h1.2.2.1,by show e.t≤g.size+m - 1; omega,h1.2.2.2.2⟩
theorem zvs {n m : Int} (hp : zbl n p) (h0 : 0≤m) : zbl (n+m) p:=by
 refine ⟨hp.1,fun i hi=>?_,hp.2.2⟩
 have:=hp.2.1 i hi
 exact ⟨this.1,by omega,this.2.2⟩
theorem zqK (g : Gr) (S : List Int) (m : Int) : ∀ (n : Nat) (k : Int),dl (zcW g m) S n k=dl g S n k
 | 0,_=>rfl
 | n+1,k=>by
   rw [dl,dl,zqK g S m n k]
   have : (zcW g m).edges.any (fun e=>decide (e.t=k) && decide (dl (zcW g m) S n e.f=n))=g.edges.any (fun e=>decide (e.t=k) && decide (dl g S n e.f=n)):=by
    show g.edges.any _=_
    congr 1
    funext e
    rw [zqK g S m n e.f]
   rw [this]
theorem zt7 (hg : GrOk g) (S : List Int) {m : Int} (h0 : 0≤m) {k : Int} (hk : Key g k) : dist (zcW g m) S k=dist g S k:=by
 have h1 : dist (zcW g m) S k=dl g S (g.size+m).toNat k:=zqK g S m _ k
 rw [h1]
 refine zma hg (fun k' hk' he=>?_) k hk
 have h2:=zpy hg hk' he
 have:=hg.1.1
 omega
theorem ztv (hg : GrOk g) (hp : zbl g.size p) {m : Nat} (hx : Key g x) : m≤(zcC (zcW g m) p x).length:=by
 have hz:=hg.1.1
 have h1:=zbt (a:=(List.range m).map fun (i : Nat)=>g.size+(i : Int)) (b:=zcC (zcW g m) p x) (by
  refine List.pairwise_map.2 (List.nodup_range.imp fun {a b} h e=>h ?_)
  omega) fun k hk=>by
  obtain ⟨i,hi,rfl⟩:=List.mem_map.1 hk
  have hi:=List.mem_range.1 hi
  refine zc3.2 ⟨⟨by omega,by show g.size+(i : Int)<((g.size+(m : Int)).toNat : Int); omega⟩,?_⟩
  unfold zlq
  have e1 : ¬ g.size+(i : Int)=x:=by have:=hx.2; omega
  have e2 : (zcW g m).edges.any (fun e=>decide (e.f=g.size+(i : Int)) || decide (e.t=g.size+(i : Int)))=false:=by
   rw [List.any_eq_false]
   intro e he
   have h1:=hg.fits e he
   unfold Fits at h1
   have e3 : ¬ e.f=g.size+(i : Int):=by omega
   have e4 : ¬ e.t=g.size+(i : Int):=by omega
   simp [e3,e4]
  have e5 : g.size+(i : Int)∉(zcW g m).gone:=fun h=>by
   have:=hg.1.2.2.2.nodup.2 _ h
   omega
  have e6 : g.size+(i : Int)∉p.seeds:=fun h=>by
   have:=hp.2.1.nodup.2 _ h
   omega
  rw [decide_eq_false e1,e2,decide_eq_false e5,decide_eq_false e6]
  rfl
 simpa using h1
theorem zzZ (hf : zeD g p x l) : inC g.size.toNat l (accG (za6 g x l) p)=inN g p x l:=by
 unfold inC inN
 rw [zwB hf.nodup (fun k hk=>by have:=hf.rng k hk; omega),zxm hf.nodup (zr8 (za6 g x l) p)]
theorem zuw (n : Nat) (a : List Int) : outC n a a=0:=by
 unfold outC
 rw [List.length_eq_zero_iff]
 refine List.eq_nil_iff_forall_not_mem.2 fun k hk=>?_
 have:=(zc3.1 hk).2
 cases h : decide (k∈a) <;> rw [h] at this <;> cases this
theorem zmb (hg : GrOk g) (hp : zbl g.size p) (hx : Key g x) (hxg : x∉g.gone) {n : Nat} (h1 : 1≤n) (h2 : n≤(zcC g p x).length) (h3 : g.edges.length+3*n≤500) :
  GrOk (za6 g x ((zcC g p x).take n))∧zgO g p x n=((inN g p x ((zcC g p x).take n) : Int),(outC g.size.toNat (accG g p) (accG (za6 g x ((zcC g p x).take n)) p) : Int),0)∧(dist (zaj g p.lv) p.seeds x<0→inN g p x ((zcC g p x).take n)=0∧outC g.size.toNat (accG g p) (accG (za6 g x ((zcC g p x).take n)) p)=0):=by
 have hfk : zeD g p x ((zcC g p x).take n):=zfB n
 have hll : ((zcC g p x).take n).length=n:=by rw [List.length_take]; omega
 have htl : g.edges.length+(tieL x ((zcC g p x).take n)).length≤500:=by
  have h4:=zk7 g x ((zcC g p x).take n) ((zcC g p x).take n).length
  have h5 : tieF g x ((zcC g p x).take n) ((zcC g p x).take n).length=g.edges++tieL x ((zcC g p x).take n):=rfl
  rw [h5,List.length_append,hll] at h4
  omega
 have hro:=zom hg hfk ⟨hx.1,hx.2⟩ hxg htl
 have hres : zc7 g p x n=(za6 g x ((zcC g p x).take n),(zcC g p x).take n,0):=by
  unfold zc7
  rw [if_neg (by rw [zjJ.2 ⟨hg,hp⟩]; decide),if_neg (by
   rintro (h | h)
   ·exact h ⟨hx.1,by have:=hx.2; omega⟩
   ·exact hxg h),if_neg (by omega),if_neg (by omega),Int.toNat_natCast,if_neg (by omega)]
 refine ⟨hro,?_,fun hd=>⟨zkA hg hp hx hfk hro hd,?_⟩⟩
 ·unfold zgO
  rw [hres]
  simp only
  rw [if_neg (by decide),zzZ hfk]
 ·have:=(zn3 hg hp hx hfk hro hd).2
  rw [show accG (za6 g x ((zcC g p x).take n)) p=accG g p from this]
  exact zuw _ _
theorem ztK (hg : GrOk g) : inN g p x []=0:=by
 unfold inN
 rw [List.length_eq_zero_iff,List.filter_eq_nil_iff]
 intro k _ h
 simp at h
theorem ztn (hg : GrOk g) (hp : zbl g.size p) (hx : Key g x) (hxg : x∉g.gone) {n : Nat} (h2 : n+1≤(zcC g p x).length) (h3 : g.edges.length+3*(n+1)≤500) : inN g p x ((zcC g p x).take n)≤inN g p x ((zcC g p x).take (n+1)):=by
 have h4 : (zcC g p x).take (n+1)=(zcC g p x).take n++[(zcC g p x)[n]'(by omega)]:=List.take_succ_eq_append_getElem (by omega)
 by_cases h0 : n=0
 ·subst h0
  rw [show (zcC g p x).take 0=[] from rfl,ztK hg]
  exact Nat.zero_le _
 have r1:=(zmb (p:=p) hg hp hx hxg (n:=n) (by omega) (by omega) (by omega)).1
 have r2:=(zmb (p:=p) hg hp hx hxg (n:=n+1) (by omega) h2 h3).1
 have hfk : zeD g p x ((zcC g p x).take (n+1)):=zfB (n+1)
 rw [h4] at r2 hfk ⊢
 exact zw6 hg hp hx hfk r1 r2
theorem zsQ {g : Gr} (hg : GrOk g) (h9 : g.size≤9) : g.edges.length≤81:=by
 have hn : (g.edges.map fun e=>e.f*9+e.t).Nodup:=by
  rw [List.Nodup,List.pairwise_map]
  refine hg.pair.imp_of_mem fun {a b} ha hb hab=>?_
  have h1:=hg.fits a ha
  have h2:=hg.fits b hb
  unfold Fits at h1 h2
  unfold Bef at hab
  omega
 have:=zbt (b:=(List.range 81).map fun i : Nat=>(i : Int)) hn fun x hx=>by
  obtain ⟨e,he,rfl⟩:=List.mem_map.1 hx
  have h1:=hg.fits e he
  unfold Fits at h1
  exact List.mem_map.2 ⟨(e.f*9+e.t).toNat,List.mem_range.2 (by omega),by omega⟩
 simpa using this
set_option maxRecDepth 100000 in
set_option maxHeartbeats 8000000 in
theorem zhJ (L : List Int) : zak Tryz.prog zfK [ints L] [] (.B true) []:=by
 refine ziU.acalls (nbz rfl) (nbz rfl) (Nat.le_refl _) ?_
 show awp _ 0 _ _ ⟨93,[(0,ints L)],[],16⟩
 have hlight:=zv0 L
 refine rx (s:=?s1) [0] [] [] rfl ?o1 ?q1
 case o1=>simp; rfl
 refine zaa ?_
 refine zab ⟨93,[(0,ints L),(15,.B (!decide (L.length≤400)))],[],100⟩ rfl ?_ ?_
 ·simp
  refine zaq hlight (by simp) ?_
  simp
  exact Le.go [] [] rfl rfl (by simp <;> exact wkB (by rw [Bool.eq_iff_iff]; simp)) (by simp)
 refine zae _ rfl (fun h3=>?_) fun h3=>?_
 ·refine rx (s:=?s4) [2] [] [] rfl ?o4 ?q4
  case o4=>simp; refine zaq zj4 (by simp) ?_; simp; rfl
  refine zag ?_
  exact ⟨.inr rfl,zan.one (by simp)⟩
 have h3 : L.length≤400:=by simpa using h3
 obtain ⟨g,b1,⟨hg,hg2,hg9,hb1⟩,hcg⟩:=zy1 L h3
 obtain ⟨⟨p,b2⟩,⟨hp1,hp2,hp3,hb2⟩,hcp⟩:=zvi L b1 g h3 hb1 (by omega) (by omega)
 simp only at hp1 hp2 hp3 hb2 hcp
 have hel:=hg.edges_le
 have hgl:=hg.gone_le
 refine zaf ?_
 refine zab ⟨93,[(3,.pt 20 0 0)],[(20,some (dice L 0))],200⟩ rfl ?_ ?_
 ·simp
  refine zcq (zw7 L) (by simp) ?_
  simp
  exact LeH [(108,20)] []
 refine zab ⟨93,[(3,.pt 20 0 0),(4,.pt 30 0 0)],[(20,some (dice L b1)),(30,some ⟨3,[gC g],0⟩)],300⟩ rfl ?_ ?_
 ·simp
  refine zcJ (i:=20) rfl (e':=dice L 0) (by simp) hcg (by simp) (by simp) ?_
  simp
  exact Le.go [(20,20),(216,30)] [] rfl rfl (by simp) (by simp [zaZ])
 refine zab ⟨93,[(3,.pt 20 0 0),(4,.pt 30 0 0),(5,.pv (pC p))],[(20,some (dice L b2)),(30,some ⟨3,[gC g],0⟩)],400⟩ rfl ?_ ?_
 ·simp
  refine zcJ (i:=20) rfl (e':=dice L b1) (by simp) hcp (by simp) (by simp) ?_
  simp
  exact Le.go [(20,20),(30,30)] [324] rfl rfl (by simp) (by simp [zaZ])
 have hlev:=ziv g p.lv (by omega) (by omega)
 have hall:=zkx (zaj g p.lv) p.seeds (hg.level p.lv) (by omega)
 have hDl : (zc8 (zaj g p.lv) p.seeds).length=g.size.toNat:=zl3
 have hDx : ∀ (x : Nat) (h : x<(zc8 (zaj g p.lv) p.seeds).length),(zc8 (zaj g p.lv) p.seeds)[x]=dist (zaj g p.lv) p.seeds x:=fun x h=>by
  have:=zpr (g:=zaj g p.lv) (S:=p.seeds) (k:=x) (show x<g.size.toNat by omega)
  rw [← this,List.getD,List.getElem?_eq_getElem h]
  rfl
 have hDd:=fun k (hk : Key g k)=>zt7 (hg.level p.lv) p.seeds (m:=7) (by decide) (k:=k) hk
 rw [show (zaj g p.lv).size.toNat=(zc8 (zaj g p.lv) p.seeds).length from hDl.symm] at hall
 obtain ⟨D,hD⟩ : ∃ D,D=zc8 (zaj g p.lv) p.seeds:=⟨_,rfl⟩
 rw [← hD] at hall hDl
 simp only [← hD] at hDx
 refine zba ⟨93,[(3,.pt 20 0 0),(4,.pt 30 0 0),(5,.pv (pC p)),(6,ints D)],[(20,some (dice L b2)),(30,some ⟨3,[gC g],0⟩)],500⟩ rfl ?_ ?_
 ·simp
  refine zaq hlev (by simp [zaZ]) ?_
  simp
  refine zcq hall (by simp) ?_
  simp
  exact ⟨rfl,Le.go [(20,20),(30,30)] [448] rfl rfl (by simp [fcd,zao]) (by simp [zaZ])⟩
 obtain ⟨x,b3,⟨hb3,hx⟩,hnx⟩:=zoW L b2 g.size h3 hb2 (by omega) (by omega)
 refine zab ⟨93,[(4,.pt 30 0 0),(5,.pv (pC p)),(6,ints D),(7,.I x)],[(30,some ⟨3,[gC g],0⟩)],600⟩ rfl ?_ ?_
 ·simp
  refine zcJ (i:=20) rfl (e':=dice L b2) (by simp) hnx (by simp) (by simp) ?_
  simp
  exact Le.go [(30,30)] [] rfl rfl (by simp [fcd,zao]) (by simp [zaZ])
 have hhas:=zpJ g.gone x (by omega)
 refine zaa ?_
 refine zab ⟨93,[(4,.pt 30 0 0),(5,.pv (pC p)),(6,ints D),(7,.I x),(38,.B (g.gone.contains (x : Int)))],[(30,some ⟨3,[gC g],0⟩)],700⟩ rfl ?_ ?_
 ·simp
  refine zaq hhas (by simp) ?_
  simp
  exact Le.go [(30,30)] [] rfl rfl (by simp [fcd,zao]) (by simp [zaZ])
 refine zae _ rfl (fun h11=>?_) fun h11=>?_
 ·refine rx (s:=?s12) [2] [] [] rfl ?o12 ?q12
  case o12=>simp; refine zaq zj4 (by simp) ?_; simp; rfl
  refine zag ?_
  exact ⟨.inr rfl,zan.one (by simp)⟩
 have hgx : (x : Int)∉g.gone:=by simpa using h11
 refine zaf ?_
 have hg' : GrOk (zcW g 7):=zvy hg (by decide) (by omega)
 have hp' : zbl (zcW g 7).size p:=zvs hp1 (by decide)
 have hkx : Key g x:=⟨by omega,hx⟩
 have hkx' : Key (zcW g 7) x:=⟨by omega,by show (x : Int)<g.size+7; omega⟩
 have hroom : 7≤(zcC (zcW g 7) p x).length:=ztv (m:=7) hg hp1 hkx
 have hw7 : IntKind.i64.wrap (g.size+7)=g.size+7:=w64 (by omega) (by omega)
 have hed:=zsQ hg hg9
 have hturn:=fun (n : Nat) (h1 : 1≤n) (h7 : n≤7)=>zmb hg' hp' hkx' hgx h1 (by omega) (show g.edges.length+3*n≤500 by omega)
 have hnext:=fun (n : Nat) (h7 : n<7)=>ztn hg' hp' hkx' hgx (n:=n) (by omega) (show g.edges.length+3*(n+1)≤500 by omega)
 have hharm:=fun n=>zhY (zcW g 7) p x n (show g.edges.length≤_ by omega) (show g.gone.length≤_ by omega) (by omega) (by omega) (fun _=>by show g.size+7<20; omega)
 have hcap:=zpi (zcW g 7) p hg' (by omega)
 have hcl : (zaz (zcW g 7) p).length=(zcW g 7).size.toNat:=zce
 rw [← hcl] at hcap
 have hxc : x<(zaz (zcW g 7) p).length:=by rw [hcl]; show x<(g.size+7).toNat; omega
 have hcb:=zmi (g:=zcW g 7) hp1 _ (List.getElem_mem hxc)
 have hbnd:=zrr hg' hp' (zuk hg' hp') hkx' (zfB 7) (hturn 7 (by decide) (by decide)).1
 rw [Int.toNat_natCast,List.getD,List.getElem?_eq_getElem hxc,Option.getD_some] at hbnd
 have hF0 : inN (zcW g 7) p x ((zcC (zcW g 7) p x).take 0)=0:=ztK hg'
 have hlv : zaj (zcW g 7) p.lv=zcW (zaj g p.lv) 7:=rfl
 have hst:=fun (n : Nat) (h1 : 1≤n) (h7 : n≤7)=>(hturn n h1 h7).2
 simp only [hlv,hDd x hkx] at hst
 have hxD : x<D.length:=by omega
 rw [← hDx x hxD] at hst
 obtain ⟨F,hF⟩ : ∃ F : Nat→Nat,∀ n,F n=inN (zcW g 7) p x ((zcC (zcW g 7) p x).take n):=⟨_,fun _=>rfl⟩
 obtain ⟨O,hO⟩ : ∃ O : Nat→Nat,∀ n,O n=outC (zcW g 7).size.toNat (accG (zcW g 7) p) (accG (za6 (zcW g 7) x ((zcC (zcW g 7) p x).take n)) p):=⟨_,fun _=>rfl⟩
 simp only [← hF,← hO] at hst hnext hbnd hF0
 obtain ⟨C,hC⟩ : ∃ C,C=zaz (zcW g 7) p:=⟨_,rfl⟩
 simp only [← hC] at hcap hbnd hcb hxc
 obtain ⟨c,hc⟩ : ∃ c,c=C[x]:=⟨_,rfl⟩
 rw [← hc] at hcb hbnd
 have hwc : IntKind.i64.wrap (c - 1)=c - 1:=w64 (by omega) (by omega)
 refine zab ⟨93,[(4,.pv (gC (zcW g 7))),(5,.pv (pC p)),(6,ints D),(7,.I x)],[],800⟩ rfl ?_ ?_
 ·simp [hw7,zaZ]
  exact Le.go [] [30] rfl rfl (by simp [fcd,zao,zaZ,zcW]) (by simp)
 refine zab ⟨93,[(4,.pv (gC (zcW g 7))),(5,.pv (pC p)),(6,ints D),(7,.I x),(8,.I 0)],[],900⟩ rfl ?_ ?_
 ·simp
  exact Le.go [] [] rfl rfl (by simp [fcd,zao]) (by simp)
 refine zaa ?_
 refine zab ⟨93,[(4,.pv (gC (zcW g 7))),(5,.pv (pC p)),(6,ints D),(7,.I x),(8,.I 0),(9,.I 1)],[],1000⟩ rfl ?_ ?_
 ·simp
  exact Le.go [] [] rfl rfl (by simp [fcd,zao]) (by simp)
 refine zah ?_
 refine zav (ι:=Nat) (fun i=>⟨93,[(4,.pv (gC (zcW g 7))),(5,.pv (pC p)),(6,ints D),(7,.I x),(8,.I (F i)),(9,.I ((i+1 : Nat) : Int))],[],1100⟩) (fun i=>i≤7) (fun i=>7 - i) 0 (Nat.zero_le _)
  (Le.go [] [] rfl rfl (by simp [fcd,zao,hF0]) (by simp)) ?_
 intro i hi
 refine zaa ?_
 refine zab ⟨93,[(4,.pv (gC (zcW g 7))),(5,.pv (pC p)),(6,ints D),(7,.I x),(8,.I (F i)),(9,.I ((i+1 : Nat) : Int)),(45,.B (decide (i<7)))],[],1200⟩ rfl ?_ ?_
 ·simp
  exact Le.go [] [] rfl rfl (by simp [fcd,zao] <;> exact wkB (by rw [Bool.eq_iff_iff]; simp; omega)) (by simp)
 refine zae _ rfl (fun h17=>?_) fun h17=>?_
 ·rw [decide_eq_true_eq] at h17
  have hwi : IntKind.i64.wrap (((i+1 : Nat) : Int)+1)=((i+1+1 : Nat) : Int):=by rw [w64 (by omega) (by omega)]; omega
  obtain ⟨hres,hzero⟩:=hst (i+1) (by omega) (by omega)
  have hn:=hnext i h17
  have hh:=hharm ((i+1 : Nat) : Int)
  rw [hres] at hh
  simp only at hh
  obtain ⟨n,hn'⟩ : ∃ n : Nat,n=i+1:=⟨_,rfl⟩
  rw [← hn'] at hh hzero hn hwi ⊢
  refine zaf ?_
  refine zaa ?_
  refine zah ?_
  refine zab ⟨93,[(4,.pv (gC (zcW g 7))),(5,.pv (pC p)),(6,ints D),(7,.I x),(8,.I (F i)),(9,.I (n : Int)),(10,.I (F n)),(11,.I (O n)),(12,.I 0)],[],1300⟩ rfl ?_ ?_
  ·simp
   refine zaq hh (by simp) ?_
   simp
   exact Le.go [] [] rfl rfl (by simp [fcd,zao]) (by simp)
  refine zaa ?_
  refine zab ⟨93,[(4,.pv (gC (zcW g 7))),(5,.pv (pC p)),(6,ints D),(7,.I x),(9,.I (n : Int)),(10,.I (F n)),(78,.B false)],[],1400⟩ rfl ?_ ?_
  ·have hlt : ¬ F n<F i:=by omega
   by_cases hneg : D[x]<0
   ·obtain ⟨z1,z2⟩:=hzero hneg
    have z0 : F i=0:=by omega
    simp [hxD,hneg,z0,z1,z2]
    exact Le.go [] [] rfl rfl (by simp [fcd,zao,z1]) (by simp)
   ·simp [hlt,hxD,hneg]
    exact Le.go [] [] rfl rfl (by simp [fcd,zao]) (by simp)
  refine zae _ rfl (fun h=>by cases h) fun _=>?_
  refine zaf ?_
  refine zaL rfl ?_
  simp
  refine zaL rfl ?_
  simp [hwi]
  exact ⟨n,by omega,by omega,Le.go [] [] rfl rfl (by simp [fcd,zao]) (by simp)⟩
 rw [decide_eq_false_iff_not] at h17
 have h7 : i=7:=by omega
 subst h7
 refine zas ?_
 refine hit ?_
 refine zab ⟨93,[(2,.B true)],[],3000⟩ rfl ?_ ?_
 ·simp
  refine zaq zj4 (by simp) ?_
  simp
  refine zcq hcap (by simp) ?_
  simp [hxc,← hc,hwc]
  exact Le.go [] [] rfl rfl (by simp <;> exact wkB (by rw [Bool.eq_iff_iff]; simp; split <;> omega)) (by simp)
 refine zag ?_
 exact ⟨.inr rfl,zan.one (by simp)⟩
end Go.Proofs.YtkngdgplbojdlaaGreat
