/- Texts of this claim,merged. -/
import Derived.Test.YtkngdgplbojdlaaGreatRw16
import Derived.Test.YtkngdgplbojdlaaGreatRw15
import Derived.Test.YtkngdgplbojdlaaGreatRw9
import Derived.Test.YtkngdgplbojdlaaGreatRw12
import Derived.Test.YtkngdgplbojdlaaGreatRw11
import Derived.Test.YtkngdgplbojdlaaGreatRw6
set_option linter.unusedSimpArgs false
set_option linter.unusedVariables false
set_option linter.unusedSectionVars false
namespace Go.Proofs.YtkngdgplbojdlaaGreat
open Go
section
variable {β : Type}
theorem zlk (n : Nat) (k : Nat->β) : fcN n k=k n:=by cases n <;> rfl
theorem zzw (n : Int) (k : Int->β) : fcI n k=k n:=by
 cases n <;> (unfold fcI; exact zlk _ _)
theorem zAI (v : Value) (k : Value->β) : fcV v k=k v:=by
 unfold fcV;split
 .exact zzw _ _
 .rename_i b; cases b <;> rfl
 .rfl
theorem zgl {α : Type} {f : α->(α->β)->β} (hf : ∀ x k,f x k=k x) : ∀ (l : List α) (k : List α->β),fcL f l k=k l
 | [],k=>rfl
 | x::xs,k=>by
   show f x (λ x=>fcL f xs λ xs=>k (x::xs))=_;rw [hf,zgl hf xs]
theorem zzn (d : Bool) {ih : AV->(AV->β)->β} (h : ∀ x k,ih x k=k x) (x : AV) (k : AV->β) : fcX d ih x k=k x:=by
 unfold fcX;split <;> (try split) <;> simp only [zlk,zAI,zgl h,h,zgl (zgl h)]
theorem zot (d : Bool) : ∀ (n : Nat) (x : AV) (k : AV->β),fcA d n x k=k x
 | 0,_,_=>rfl
 | n+1,x,k=>zzn d (zot d n) x k
theorem zv8 (d : Bool) (e : Ent) (k : Ent->β) : fcE d e k=k e:=by
 obtain ⟨s,rows,ro⟩:=e;simp only [fcE,zlk,zgl (zgl (zot d 5))]
theorem zxH (d : Bool) (p : Nat × Option Ent) (k : Nat × Option Ent->β) : fcO d p k=k p:=by
 obtain ⟨i,e⟩:=p
 cases e <;> simp only [fcO,zlk,zv8]
end
theorem zgI {i j : Nat} : Nat.beq i j=decide (i=j):=by
 cases h : Nat.beq i j with
 | true=>rw [decide_eq_true (Nat.eq_of_beq_eq_true h)]
 | false=>rw [decide_eq_false (Nat.ne_of_beq_eq_false h)]
theorem zvB {α : Type} : ∀ (l : List (Nat × α)) (j : Nat),lkB l j=lkp l j
 | [],_=>rfl
 | (i,x)::l,j=>by
   show Bool.rec (motive:=λ _=>Option α) (lkB l j) (some x) (Nat.beq i j)=_;rw [zvB l j,zgI,lkp]
   by_cases h : i=j
   .rw [decide_eq_true h,if_pos h]
   .rw [decide_eq_false h,if_neg h]
theorem zwA {α : Type} (o : Option (Option α)) : zzt o=o.getD none:=by cases o <;> rfl
theorem zxM (h : List (Nat × Option Ent)) (id : Nat) : hpB h id=(lkp h id).getD none:=by
 unfold hpB;rw [zvB,zwA]
theorem zjF (v : AV) (l r : TS) (i : Nat) : nthA (.nd v l r) (i+1)=if i % 2=0 then nthA l (i / 2) else nthA r (i / 2):=by
 show Bool.rec (motive:=λ _=>AV) (nthA r (i / 2)) (nthA l (i / 2)) (Nat.beq (i % 2) 0)=_;rw [zgI]
 by_cases h : i % 2=0
 .rw [decide_eq_true h,if_pos h]
 .rw [decide_eq_false h,if_neg h]
theorem zoR {γ : Type} (v : AV) : ∀ (t : TS) (i : Nat),(∃ t',(∀ k : TS->Option γ,setA v t i k=k t') /\ ∀ j,nthA t' j=if i=j then v else nthA t j) ∨ ∀ k : TS->Option γ,setA v t i k=none
 | .lf,_=>.inr λ _=>rfl
 | .nd x l r,0=>.inl ⟨.nd v l r,λ _=>rfl,λ j=>by
   cases j with
   | zero=>rfl
   | succ j=>rw [if_neg (by omega),zjF,zjF]⟩
 | .nd x l r,i+1=>by
   have hu : ∀ k : TS->Option γ,setA v (.nd x l r) (i+1) k=Bool.rec (motive:=λ _=>Option γ) (setA v r (i / 2) λ tr'=>k (.nd x l tr')) (setA v l (i / 2) λ tl'=>k (.nd x tl' r)) (Nat.beq (i % 2) 0):=λ _=>rfl
   by_cases h : i % 2=0
   .rcases zoR (γ:=γ) v l (i / 2) with ⟨t',h1,h2⟩ | h1
    .refine .inl ⟨.nd x t' r,λ k=>by rw [hu,zgI,decide_eq_true h]; exact h1 _,λ j=>?_⟩
     cases j with
     | zero=>rw [if_neg (by omega)]; rfl
     | succ j =>
       rw [zjF,zjF,h2]
       by_cases hj : j % 2=0
       .rw [if_pos hj,if_pos hj]
        by_cases he : i=j
        .subst he; rw [if_pos rfl,if_pos rfl]
        .rw [if_neg (by omega),if_neg (by omega)]
       .rw [if_neg hj,if_neg hj,if_neg (by omega)]
    .exact .inr λ k=>by rw [hu,zgI,decide_eq_true h]; exact h1 _
   .rcases zoR (γ:=γ) v r (i / 2) with ⟨t',h1,h2⟩ | h1
    .refine .inl ⟨.nd x l t',λ k=>by rw [hu,zgI,decide_eq_false h]; exact h1 _,λ j=>?_⟩
     cases j with
     | zero=>rw [if_neg (by omega)]; rfl
     | succ j =>
       rw [zjF,zjF,h2]
       by_cases hj : j % 2=0
       .rw [if_pos hj,if_pos hj,if_neg (by omega)]
       .rw [if_neg hj,if_neg hj]
        by_cases he : i=j
        .subst he; rw [if_pos rfl,if_pos rfl]
        .rw [if_neg (by omega),if_neg (by omega)]
    .exact .inr λ k=>by rw [hu,zgI,decide_eq_false h]; exact h1 _
theorem zqy : ∀ (n i : Nat),nthA (zu3 n) i = .dead
 | 0,_=>rfl
 | n+1,0=>rfl
 | n+1,i+1=>by
   have hu : zu3 (n+1) = .nd .dead (zu3 n) (zu3 n):=rfl;rw [hu,zjF,zqy,ite_self]
theorem zuH {γ : Type} : ∀ (xs : List AV) (i : Nat) (t : TS) (k : TS->Option γ) (r : γ),argT xs i t k=some r -> ∃ t',k t'=some r /\ ∀ j,nthA t' j=if i<=j/\j<i+xs.length then xs.getD (j - i) .dead else nthA t j
 | [],i,t,k,r,h=>⟨t,h,λ j=>by rw [if_neg (by simp)]⟩
 | x::xs,i,t,k,r,h=>by
   have h : setA x t i (λ t'=>argT xs (i+1) t' k)=some r:=h;rcases zoR (γ:=γ) x t i with ⟨t1,h1,h2⟩ | h1
   .rw [h1] at h
    obtain ⟨t2,h3,h4⟩:=zuH xs (i+1) t1 k r h;refine ⟨t2,h3,λ j=>?_⟩;rw [h4,h2];simp only [List.length_cons]
    by_cases hj : i=j
    .subst hj
     rw [if_neg (by omega),if_pos rfl,if_pos (by omega),Nat.sub_self]
     rfl
    .by_cases hr : i<=j/\j<i+(xs.length+1)
     .rw [if_pos (by omega),if_pos hr,show j - i=(j - (i+1))+1 by omega]
      rfl
     .rw [if_neg (by omega),if_neg hj,if_neg hr]
   .rw [h1] at h
    cases h
theorem zrR (i : Nat) : ∀ (l : List (Nat × Option Ent)),∃ l',(∀ k,ersH i l k=k l') /\ ∀ j,lkp l' j=if j=i then none else lkp l j
 | []=>⟨[],λ _=>rfl,λ j=>by simp [lkp]⟩
 | (j,e)::l=>by
   obtain ⟨l',h1,h2⟩:=zrR i l;have hu : ∀ k,ersH i ((j,e)::l) k=Bool.rec (motive:=λ _=>Rr) (ersH i l λ l'=>k ((j,e)::l')) (ersH i l k) (Nat.beq j i):=λ _=>rfl
   by_cases hj : j=i
   .refine ⟨l',λ k=>by rw [hu,zgI,decide_eq_true hj]; exact h1 k,λ j'=>?_⟩
    rw [h2]
    by_cases hj' : j'=i
    .simp [hj']
    .have : j≠j':=λ e=>hj' (e ▸ hj)
     simp [hj',lkp,this]
   .refine ⟨(j,e)::l',λ k=>by rw [hu,zgI,decide_eq_false hj]; exact h1 _,λ j'=>?_⟩
    simp only [lkp]
    by_cases hj' : j=j'
    .subst hj'; simp [hj]
    .simp [hj',h2]
theorem zrq : ∀ (up h : List (Nat × Option Ent)),∃ h',(∀ k,updH up h k=k h') /\ ∀ id,(lkp h' id).getD none=(lkp (up++h) id).getD none
 | [],h=>⟨h,λ _=>rfl,λ _=>rfl⟩
 | (i,none)::up,h=>by
   obtain ⟨h1,q1,q2⟩:=zrq up h;obtain ⟨h2,r1,r2⟩:=zrR i h1;refine ⟨h2,λ k=>by show updH up h (λ h=>ersH i h (updK (i,none) k))=_; rw [q1,r1]; rfl,λ id=>?_⟩
   rw [r2,List.cons_append,lkp]
   by_cases hi : i=id
   .subst hi; simp
   .rw [if_neg (λ e=>hi e.symm),if_neg hi,q2]
 | (i,some e)::up,h=>by
   obtain ⟨h1,q1,q2⟩:=zrq up h;obtain ⟨h2,r1,r2⟩:=zrR i h1;refine ⟨(i,some e)::h2,λ k=>by show updH up h (λ h=>ersH i h (updK (i,some e) k))=_; rw [q1,r1]; rfl,λ id=>?_⟩
   rw [List.cons_append,lkp,lkp]
   by_cases hi : i=id
   .subst hi; simp
   .rw [if_neg hi,if_neg hi,r2,if_neg (λ e=>hi e.symm),q2]
theorem zuJ (t : TS) : ∀ xs : List Opd,evXs t xs=xs.map (·.ev (nthA t))
 | []=>rfl
 | x::xs=>by
   show x.ev (nthA t)::evXs t xs=_;rw [zuJ t xs];rfl
theorem zsT : ∀ xs : List AV,zxe xs=true -> ∀ x∈xs,∃ v,x = .sc v
 | [],_,x,hx=>(List.not_mem_nil hx).elim
 | y::xs,h,x,hx=>by
   have hu : zxe (y::xs)=Bool.rec (motive:=λ _=>Bool) false (zxe xs) (scB y):=rfl;rw [hu] at h
   cases hy : scB y with
   | false=>rw [hy] at h; cases h
   | true =>
     rw [hy] at h;rcases List.mem_cons.1 hx with rfl | hx
     .unfold scB at hy
      split at hy
      .exact ⟨_,rfl⟩
      .cases hy
     .exact zsT xs h x hx
theorem zvl (k : IntKind) : modF k=2 ^ k.bits:=by cases k <;> rfl
theorem zw2 (k : IntKind) : ziX k=2 ^ (k.bits - 1):=by cases k <;> rfl
theorem zsX (k : IntKind) : modF k=2*ziX k/\0<ziX k:=by cases k <;> exact ⟨rfl,by decide⟩
theorem zvZ (k : IntKind) (n : Int) : (natF k n : Int)=n % ((2 ^ k.bits : Nat) : Int):=by
 have h0 : 0<modF k:=by have:=zsX k; omega
 rw [<- zvl]
 cases n with
 | ofNat m=>simp [natF]
 | negSucc m =>
   simp only [natF];generalize hM : modF k=M at *;have h1:=Nat.div_add_mod m M;have h2:=Nat.mod_lt m h0
   have h3 : Int.negSucc m=((M - 1 - m % M : Nat) : Int)+(M : Int)*(-((m / M : Nat) : Int) - 1):=by
    rw [Int.negSucc_eq];have h4 : ((M - 1 - m % M : Nat) : Int)=(M : Int) - 1 - ((m % M : Nat) : Int):=by omega
    have h5 : (m : Int)=(M : Int)*((m / M : Nat) : Int)+((m % M : Nat) : Int):=by exact_mod_cast h1.symm
    rw [h4,h5,Int.mul_sub,Int.mul_neg];have h6 : ((M*(m / M)+m % M : Nat) : Int)=(m : Int):=by exact_mod_cast h1
    omega
   rw [h3,Int.add_mul_emod_self_left,Int.emod_eq_of_lt (by omega) (by omega)]
theorem zyi (k : IntKind) (r : Nat) (hr : r<modF k) : cutF k.signed (modF k) (ziX k) r=if k.signed && decide ((r : Int)≥(2 ^ (k.bits - 1) : Int)) then (r : Int) - (2 ^ k.bits : Int) else r:=by
 have e1 : (2 ^ k.bits : Int)=((modF k : Nat) : Int):=by rw [zvl]; norm_cast
 have e2 : (2 ^ (k.bits - 1) : Int)=((ziX k : Nat) : Int):=by rw [zw2]; norm_cast
 rw [e1,e2];unfold cutF
 have e3 : (decide ((r : Int)≥((ziX k : Nat) : Int)))=Nat.ble (ziX k) r:=by
  rw [Bool.eq_iff_iff,decide_eq_true_eq,Nat.ble_eq];omega
 rw [e3]
 cases hc : (k.signed && Nat.ble (ziX k) r) with
 | true =>
   simp only [cond_true,if_true];rw [Int.negSucc_eq];omega
 | false=>simp
theorem zl1 (k : IntKind) (n : Int) : zmW k n=k.wrap n:=by
 have h2:=zsX k;have e1 : (2 ^ k.bits : Int)=((2 ^ k.bits : Nat) : Int):=by norm_cast
 have hlt : natF k n<modF k:=by cases n <;> simp only [natF] <;> first | exact Nat.mod_lt _ (by omega) | omega
 have main : cutF k.signed (modF k) (ziX k) (natF k n)=k.wrap n:=by
  rw [zyi k _ hlt];unfold IntKind.wrap;simp only;rw [zvZ,<- e1]
 rw [<- main]
 cases n with
 | ofNat m =>
   simp only [zmW,natF]
   cases hb : Nat.blt m (ziX k) with
   | true =>
     have hm : m<ziX k:=by simpa [Nat.blt_eq] using hb
     rw [cond_true,Nat.mod_eq_of_lt (by omega)]
     unfold cutF
     have : Nat.ble (ziX k) m=false:=by
      cases h : Nat.ble (ziX k) m with
      | false=>rfl
      | true=>have:=nbz h; omega
     rw [this,Bool.and_false,cond_false]
   | false=>rfl
 | negSucc m=>rfl
theorem ztl (n : Nat) : (2 : Int) ^ n=Int.ofNat (Nat.pow 2 n):=by
 show (2 : Int) ^ n=((2 ^ n : Nat) : Int)
 norm_cast
theorem zz3 {k k' : IntKind} : Nat.beq (kN k) (kN k')=decide (k=k'):=by cases k <;> cases k' <;> rfl
theorem zuK (a b : Int) : ltF a b=decide (a<b):=by
 unfold ltF
 cases a <;> cases b <;> simp only <;> rw [Bool.eq_iff_iff] <;> simp [Nat.blt_eq] <;> omega
theorem zxW (a b : Int) : eqF a b=(a == b):=by
 unfold eqF
 cases a <;> cases b <;> simp only [zgI] <;> rw [Bool.eq_iff_iff] <;> simp <;> omega
theorem zuQ (m n : Nat) : minF m n=min m n:=by
 unfold minF
 cases h : Nat.ble m n with
 | true=>have:=nbz h; rw [cond_true]; omega
 | false =>
   have : ¬ m<=n:=λ h2=>by rw [Nat.ble_eq_true_of_le h2] at h; cases h
   rw [cond_false]; omega
theorem zu7 (k k' : IntKind) (a b : Int) : shlF k a b=binV .shl (.int k a) (.int k' b):=by
 unfold shlF
 cases b with
 | ofNat n=>simp only [binV,zl1,ztl,zuQ]; simp
 | negSucc n=>simp only [binV]; rw [if_neg (by omega)]
theorem zvj (k k' : IntKind) (a b : Int) : shrF k a b=binV .shr (.int k a) (.int k' b):=by
 unfold shrF
 cases b with
 | ofNat n =>
   simp only [binV,ztl,zuQ];rw [if_pos (by simp)]
   cases a with
   | ofNat m =>
     have h : ∀ q : Nat,(Int.ofNat m).fdiv (Int.ofNat q)=Int.ofNat (m / q):=λ q=>(Int.ofNat_fdiv m q).symm;simp only [h];rfl
   | negSucc m=>rfl
 | negSucc n=>simp only [binV]; rw [if_neg (by omega)]
theorem zyF (k : IntKind) (a b : Int) : quoF k a b=binV .quo (.int k a) (.int k b):=by
 unfold quoF;split
 .simp only [binV,if_true,zl1]
  rw [if_neg (by simp; omega)]
  cases a <;> rfl
 .rfl
theorem zym (k : IntKind) (a b : Int) : remF k a b=binV .rem (.int k a) (.int k b):=by
 unfold remF;split
 .simp only [binV,if_true]
  rw [if_neg (by simp; omega)]
  cases a <;> rfl
 .rfl
theorem zyP (op : BinOp) (k : IntKind) (a b : Int) : intF op k a b=binV op (.int k a) (.int k b):=by
 have hb : ∀ z : Int,(BitVec.ofInt k.bits z).toNat=natF k z:=λ z=>by
  have h1:=BitVec.toNat_ofInt (n:=k.bits) z;rw [h1];have h2:=zvZ k z;omega
 unfold intF
 cases op <;> simp only [zu7 k k,zvj k k,zyF,zym] <;> (try rfl)
 all_goals simp only [binV,if_true,zl1,zuK,zxW]
 all_goals first
  | rfl
  | (simp only [BitVec.toNat_and,BitVec.toNat_or,BitVec.toNat_xor,hb]; rfl)
  | (congr 2; rw [Bool.eq_iff_iff]; simp)
  | (congr 2; rw [Bool.eq_iff_iff]; simp; done)
theorem zyg (op : BinOp) (x y : Value) : binF op x y=binV op x y:=by
 unfold binF;split
 .rename_i k a
  split
  .rename_i k' b
   rw [zz3]
   by_cases h : k=k'
   .subst h
    rw [decide_eq_true rfl,cond_true,zyP]
   .rw [decide_eq_false h,cond_false]
    unfold mixF;split
    .exact zu7 _ _ _ _
    .exact zvj _ _ _ _
    .rfl
  .rfl
 .rfl
theorem zng : ∀ (n : Nat) (x : AV),zlo n x=true->Plain x
 | 0,_,h=>by cases h
 | n+1,x,h=>by
   have ih:=zng n
   have hl : ∀ xs : List AV,xs.all (zlo n)=true -> ∀ i : Nat,Plain (xs.getD i .dead):=by
    intro xs hx i;simp only [List.getD]
    cases hi : xs[i]? with
    | none=>exact .dead
    | some y=>exact ih y (List.all_eq_true.1 hx y (List.mem_of_getElem? hi))
   unfold zlo at h;split at h
   .exact .dead
   .exact .sc _
   .exact .agg _ (hl _ h)
   .exact .tup _ (hl _ h)
   .exact .rs _ _ _
   .exact .pt _ _ _
   .exact .mp _
   .cases h
theorem WkL.self : ∀ xs : List AV,WkL xs xs
 | []=>trivial
 | x::xs=>⟨.refl x,WkL.self xs⟩
theorem zmT : ∀ l : List Nat,zq8 l=true->l.Nodup
 | [],_=>List.nodup_nil
 | i::is,h=>by
   simp only [zq8,Bool.and_eq_true,Bool.not_eq_true',List.contains_eq_mem,decide_eq_false_iff_not] at h;exact List.nodup_cons.2 ⟨h.1,zmT is h.2⟩
theorem zsC : ∀ (l : List (Option Ent)) (es : List Ent),zw5 l=some es->l=es.map some
 | [],es,h=>by cases h; rfl
 | none::_,_,h=>by cases h
 | some e::l,es,h=>by
   unfold zw5 at h;split at h
   .rename_i es' h'; cases h; rw [List.map_cons,<- zsC l es' h']
   .cases h
section
variable {P : Program} {sp : List FuncId} {cf : Cf} (hcf : ∀ f a b r c,cf f a b=some (r,c)->zaj P f a b r c)
include hcf
def zyN (P : Program) (np id : Nat) (h : Nat->Option Ent) (f : FuncId) (xs : List AV) (K : AV->List Nat->List (Nat × Option Ent)->Prop) : Prop :=
    ∃ (ids sn : List Nat) (raise : Bool) (args' : List AV) (hs : List Ent) (res : AV) (hs' : List (Option Ent)),
      ids.Nodup/\(∀ i∈sn,i∉ids)/\(raise=true -> ∀ i∈sn,np<=i)/\WkL (xs.map (conv ids.zipIdx sn h 4)) args' /\
      ids.map (λ i=>(h i).map (zaw ids.zipIdx sn h 4))=hs.map some/\zaj P f args' hs res hs'/\hs'.length<=hs.length+8 /\
      (raise=true∨(Plain res /\ ∀ e,some e∈hs'->zi4 e)) /\
      K (conv ((ids++(List.range 8).map (id + ·)).zipIdx.map λ (a,b)=>(b,a)) [] (λ _=>none) 4 res) (ids++sn)
        ((hs'.zipIdx.map λ (e,k)=>((ids++(List.range 8).map (id + ·)).getD k 0,e.map (zaw ((ids++(List.range 8).map (id + ·)).zipIdx.map λ (a,b)=>(b,a)) [] (λ _=>none) 4))) ++
         (if raise then sn.filterMap (λ i=>(h i).map λ e=>(i,some { e with ro:=e.rows.length })) else []))
omit hcf in
theorem znY {np np' id : Nat} {h h' : Nat->Option Ent} {f : FuncId} {xs : List AV} {v : AV} {rd : List Nat} {up : List (Nat × Option Ent)} {ids sn : List Nat} {raise : Bool} {args' : List AV} {hs : List Ent} {res : AV} {hs' : List (Option Ent)}
  (hwk : WkL (xs.map (conv ids.zipIdx sn h 4)) args') (hids : ids.map (λ i=>(h i).map (zaw ids.zipIdx sn h 4))=hs.map some) (hc : zaj P f args' hs res hs') (hpl : raise=true∨(Plain res /\ ∀ e,some e∈hs'->zi4 e))
  (e : zpQ ids sn np' id hs.length h' res hs' raise=some (v,rd,up)) (hsn : sn=[]∨(np'=np/\h'=h)) {K : AV->List Nat->List (Nat × Option Ent)->Prop} (hk : K v rd up) : zyN P np id h f xs K:=by
 unfold zpQ at e
 cases hck : zrZ ids sn np' hs.length raise hs' with
 | false=>rw [hck] at e; cases e
 | true =>
   rw [hck] at e;simp only [cond_true,Option.some.injEq,Prod.mk.injEq] at e;obtain ⟨rfl,rfl,rfl⟩:=e;unfold zrZ at hck;simp only [Bool.and_eq_true,Bool.or_eq_true,Bool.not_eq_true',Nat.ble_eq,List.all_eq_true,List.contains_eq_mem,decide_eq_false_iff_not] at hck;obtain ⟨c1,c2,c3,c4⟩:=hck;refine ⟨ids,sn,raise,args',hs,res,hs',zmT _ c1,c2,λ hr i hi=>?_,hwk,hids,hc,c4,hpl,?_⟩
   .rcases hsn with rfl | ⟨rfl,_⟩
    .exact (List.not_mem_nil hi).elim
    .rcases c3 with h1 | h1
     .rw [hr] at h1; cases h1
     .exact h1 i hi
   .rcases hsn with rfl | ⟨_,rfl⟩
    .have : ztf ids [] id h' raise hs'=ztf ids [] id h raise hs':=by unfold ztf; simp
     rw [this] at hk;exact hk
    .exact hk
theorem zml {np id : Nat} {h : Nat->Option Ent} {f : FuncId} {xs : List AV} {v : AV} {rd : List Nat} {up : List (Nat × Option Ent)} {deep : Bool} {ids sn : List Nat} (e : zqN cf np id h f xs deep ids sn=some (v,rd,up))
  {K : AV->List Nat->List (Nat × Option Ent)->Prop} (hk : K v rd up) : zyN P np id h f xs K:=by
 unfold zqN at e;rw [zgl (zot _ 6)] at e;split at e
 .cases e
 rename_i hs0 hseq;rw [zgl (zv8 _)] at e;unfold zuu at e;split at e
 .cases e
 rename_i res hs' hcall;refine znY (WkL.self _) (zsC _ _ hseq) (hcf _ _ _ _ _ hcall) ?_ e (.inr ⟨rfl,rfl⟩) hk;split
 .exact .inl rfl
 .cases hs : (!(zlo 5 res && hs'.all zxO)) with
  | true=>exact .inl rfl
  | false =>
    right
    simp only [Bool.not_eq_false',Bool.and_eq_true] at hs;refine ⟨zng _ _ hs.1,λ e he row hrow x hx=>?_⟩;have h1:=List.all_eq_true.1 hs.2 _ he;exact zng _ _ (List.all_eq_true.1 (List.all_eq_true.1 h1 row hrow) x hx)
theorem zqQ {np id : Nat} {h : Nat->Option Ent} {f : FuncId} {xs : List AV} {v : AV} {rd : List Nat} {up : List (Nat × Option Ent)} (e : zsY sp cf np id h f xs=some (v,rd,up))
  {K : AV->List Nat->List (Nat × Option Ent)->Prop} (hk : K v rd up) : zyN P np id h f xs K:=by
 unfold zsY at e;split at e
 .rename_i hsc
  have hx : xs.map (conv ([] : List Nat).zipIdx [] h 4)=xs:=by
   have : xs.map (conv ([] : List Nat).zipIdx [] h 4)=xs.map (λ x=>x):=List.map_congr_left λ x hx=>by
    obtain ⟨v,rfl⟩:=zsT xs hsc x hx;rfl
   rw [this,List.map_id']
  unfold zsG at e;split at e
  .rename_i v0 hcall
   cases e;exact ⟨[],[],true,xs,[],.sc v0,[],List.nodup_nil,by simp,by simp,by rw [hx]; exact WkL.self _,rfl,hcf _ _ _ _ _ hcall,by simp,.inl rfl,by simpa [conv] using hk⟩
  .rename_i res hs' _ hcall
   exact znY (hs:=[]) (by rw [hx]; exact WkL.self _) rfl (hcf _ _ _ _ _ hcall) (.inl rfl) e (.inl rfl) hk
  .cases e
 .simp only [zgl (zlk (β:=Rs3))] at e
  split at e
  .exact zml hcf e hk
  .split at e
   .exact zml hcf e hk
   .exact zml hcf e hk
omit hcf in
theorem ztt {lo hi : Bool} {n l r : Nat} {bs : List AV} (h : zrI lo hi n bs=some (l,r)) : bs=(if lo then [AV.I l] else [])++(if hi then [AV.I r] else [])/\(lo=false->l=0)/\(hi=false->r=n):=by
 unfold zrI at h;split at h
 .cases h; simp
 .split at h
  .rename_i hp; cases h; simp [Int.toNat_of_nonneg hp]
  .cases h
 .split at h
  .rename_i hp; cases h; simp [Int.toNat_of_nonneg hp]
  .cases h
 .split at h
  .rename_i hp; cases h; simp [Int.toNat_of_nonneg hp.1,Int.toNat_of_nonneg hp.2]
  .cases h
 .cases h
theorem zxI {np id : Nat} {h : Nat->Option Ent} {op : AOp} {xs : List AV} {v : AV} {rd : List Nat} {up : List (Nat × Option Ent)} (e : aEv sp cf np id h op xs=some (v,rd,up))
  {K : AV->List Nat->List (Nat × Option Ent)->Prop} (hk : K v rd up) : aK P np id op xs h K:=by
 cases op <;> simp only [aEv] at e
 case app s b =>
  unfold zzb at e;split at e
  .rename_i x y
   split at e
   .cases e
   .rename_i x hx
    rw [zou (λ ⟨i,o,l,c,e⟩=>hx i o l c e)];split at e
    .rename_i new hnew
     split at e
     .rename_i old hold
      split at e
      .rename_i hc
       cases e;exact ⟨new,old,hnew,hold,hc.1,hc.2,hk⟩
      .cases e
     .cases e
    .cases e
  .cases e
 case slc s lo hi mx =>
  cases mx with
  | true=>simp only at e; cases e
  | false =>
    simp only at e;unfold zz9 at e;split at e
    rotate_left
    .cases e
    unfold aK
    dsimp only
    split at e
    .cases e
    rename_i n hn;split at e
    .cases e
    rename_i l r hlr;obtain ⟨c1,c2,c3⟩:=ztt hlr;split at e
    .rename_i hc
     refine ⟨l,r,0,n,hn,hc.1,by simpa using c1,c2,c3,λ h=>(by cases h),?_⟩
     unfold zz0 at e;split at e
     .split at e
      .rename_i hs
       cases e;refine ⟨hc.2,λ h=>(by cases h),hs,?_⟩
       simpa using hk
      .cases e
     .split at e
      .rename_i e0 he0
       split at e
       .rename_i hs; cases e; exact ⟨hc.2,rfl,⟨_,he0,hs⟩,hk⟩
       .cases e
      .cases e
     .cases e; exact ⟨hc.2,λ h=>(by cases h),hk⟩
     .cases e
    .cases e
 all_goals first
  | (cases e; done)
  | delta e_mv at e | delta zxF at e | delta zwm at e | delta zzj at e | delta zux at e | delta zzS at e | delta e_ld at e | delta e_st at e | delta zzd at e | delta zzN at e | delta zzy at e | delta zz1 at e | delta zx4 at e
  | delta e_un at e | delta zzz at e | delta zAv at e | delta zAf at e | delta zAr at e | delta zzi at e | delta zAA at e | delta zze at e | delta zzL at e | delta zAl at e | delta zzW at e | delta zAB at e | delta zzc at e | delta zxD at e | delta zxX at e
  | delta zzZ at e | delta zxY at e | delta zz2 at e | delta zAC at e | delta zza at e | delta zzF at e | delta zAh at e | delta zzT at e | delta zzk at e | delta zzX at e | delta zAe at e | delta zz6 at e | delta zzx at e | delta zAu at e
 all_goals (try dsimp only at e)
 case mkf=>cases e; exact hk
 case mkb=>cases e; exact hk
 case build z ps =>
  split at e
  .rename_i hcs; cases e; unfold aK; exact ⟨_,hcs,hk⟩
  .cases e
 case bsl s len z ps =>
  split at e
  .rename_i hcs
   split at e
   .rename_i hc; cases e; unfold aK; exact ⟨_,hcs,hc,hk⟩
   .cases e
  .cases e
 all_goals split at e
 all_goals first
  | (simp only [Option.some.injEq,Prod.mk.injEq,zl1] at e; obtain ⟨rfl,rfl,rfl⟩:=e; exact hk)
  | cases e
  | skip
 all_goals (unfold aK; dsimp only)
 .exact ⟨_,rfl,hk⟩
 .split at e
  .rename_i hcs
   split at e
   .rename_i hc; cases e; exact ⟨_,hcs,hc,hk⟩
   .cases e
  .cases e
 .split at e
  .rename_i hcs
   split at e
   .rename_i hc; cases e; exact ⟨_,hcs,hc,hk⟩
   .cases e
  .cases e
 .split at e
  .rename_i e0 he0
   split at e
   .rename_i hr hcs
    split at e
    .rename_i hc; cases e; exact ⟨_,_,_,he0,hr,hc.1,hcs,hc.2.1,hc.2.2,hk⟩
    .cases e
   .cases e
  .cases e
 .exact ⟨trivial,hk⟩
 .exact ⟨trivial,hk⟩
 .exact ⟨trivial,hk⟩
 .rw [zyg] at e
  split at e
  .rename_i hcs; cases e; exact ⟨_,hcs,hk⟩
  .cases e
 .split at e
  .rename_i hcs; cases e; exact ⟨_,hcs,hk⟩
  .cases e
 .split at e
  .rename_i hcs; cases e; exact ⟨_,hcs,hk⟩
  .cases e
 .split at e
  .rename_i hr
   split at e
   .rename_i hb; cases e; exact ⟨_,_,hr,hb,hk⟩
   .cases e
  .cases e
 .split at e
  .rename_i hc; cases e; exact ⟨hc.1,hc.2.1,hc.2.2.1,hc.2.2.2.1,hc.2.2.2.2,hk⟩
  .cases e
 .split at e
  .rename_i hc; cases e; exact ⟨hc,hk⟩
  .cases e
 .split at e
  .rename_i hc; cases e; exact ⟨hc,hk⟩
  .cases e
 .split at e
  .rename_i hc
   split at e
   .rename_i hr; cases e; exact ⟨hc.1,hc.2,_,hr,hk⟩
   .cases e
  .cases e
 .split at e
  .rename_i e0 he0
   split at e
   .rename_i hc; cases e; exact ⟨hc.1,hc.2.1,⟨_,he0,hc.2.2⟩,hk⟩
   .cases e
  .cases e
 .split at e
  .rename_i hc; cases e; exact ⟨hc.1,hc.2,hk⟩
  .cases e
 .split at e
  .rename_i hc; cases e; exact ⟨hc.1,hc.2.1,hc.2.2,hk⟩
  .cases e
 .split at e
  .rename_i hc
   split at e
   .rename_i hr; cases e; exact ⟨hc,_,hr,hk⟩
   .cases e
  .cases e
 .split at e
  .rename_i hc; cases e; exact ⟨hc.1,hc.2.1,hc.2.2,hk⟩
  .cases e
 .split at e
  .rename_i hcs; cases e; exact ⟨_,hcs,hk⟩
  .cases e
 .exact zqQ hcf e hk
 .split at e
  .rename_i hcs
   split at e
   .rename_i hc; cases e; exact ⟨_,hcs,hc,hk⟩
   .cases e
  .cases e
 .split at e
  .rename_i hcs; cases e; exact ⟨_,hcs,hk⟩
  .cases e
 .split at e
  .rename_i h1 h2
   split at e
   .rename_i hc; cases e; exact ⟨_,_,h1,hc.1,hc.2.1,hc.2.2,h2,hk⟩
   .cases e
  .cases e
 .split at e
  .rename_i h1
   split at e
   .rename_i hc; cases e; exact ⟨_,h1,hc.1,hc.2.1,hc.2.2.1,hc.2.2.2,hk⟩
   .cases e
  .cases e
 .split at e
  .rename_i hc; cases e; exact ⟨hc.1,hc.2.1,hc.2.2.1,hc.2.2.2,hk⟩
  .cases e
 .split at e
  .rename_i h1
   split at e
   .rename_i hc; cases e; exact ⟨_,h1,hc,hk⟩
   .cases e
  .cases e
 .split at e
  .rename_i h1
   split at e
   .rename_i hc; cases e; exact ⟨_,h1,hc,hk⟩
   .cases e
  .cases e
 .split at e
  .rename_i h1
   split at e
   .rename_i hc; cases e; exact ⟨_,h1,hc,hk⟩
   .cases e
  .cases e
 .split at e
  .rename_i f hf
   obtain ⟨a1,a2,a3,a4,a5,a6,a7,h⟩:=zqQ hcf e hk;exact ⟨f,a1,a2,a3,a4,a5,a6,a7,hf,h⟩
  .cases e
structure ziB (st : St) (s : RS) : Prop where
 sz : st.sz=s.sz
 n : st.n=s.n
 t : st.get=s.get
 h : st.hp=s.hp
omit hcf in
theorem ziB.put {st : St} {s : RS} (a : ziB st s) {d : Nat} {v : AV} {t' : TS} (ht : ∀ j,nthA t' j=if d=j then v else nthA s.t j) : ziB (st.put (some d) v) { s with t:=t' }:=by
 refine ⟨a.sz,a.n,?_,a.h⟩
 funext i
 have h1:=congrFun a.t i;unfold RS.get St.get St.put at *;rw [ht];simp only [lkp]
 by_cases hi : d=i
 .subst hi
  rw [if_pos rfl,if_pos rfl];rfl
 .rw [if_neg hi,if_neg hi]
  exact h1
omit hcf in
theorem ziB.upd {st : St} {s : RS} (a : ziB st s) {up h : List (Nat × Option Ent)} (hh : ∀ id,(lkp h id).getD none=(lkp (up++s.h) id).getD none) : ziB (st.upd up) { s with h:=h }:=by
 refine ⟨a.sz,a.n,a.t,?_⟩
 funext id
 have h1:=congrFun a.h id;unfold RS.hp at *;rw [zxM] at *;show (lkp (up++st.h) id).getD none=(lkp h id).getD none;rw [hh]
 have key : ∀ u : List (Nat × Option Ent),(lkp (u++st.h) id).getD none=(lkp (u++s.h) id).getD none:=by
  intro u
  induction u with
  | nil=>exact h1
  | cons q u ih =>
    obtain ⟨j,e⟩:=q;simp only [List.cons_append,lkp];split
    .rfl
    .exact ih
 exact key up
omit hcf in
theorem zyO (b : Option Bool) (want : Bool) : eqOB b want=decide (b=some want):=by
 cases b with
 | none=>rfl
 | some b=>cases b <;> cases want <;> rfl
theorem zsE {np n : Nat} : ∀ (ops : List zb3) (i : Nat) (st : St) (s : RS) (tr : List (List Nat × List Nat)) (k : Nat->TS->List (Nat × Option Ent)->List (List Nat × List Nat)->Rr) (r : zdM × RS) (K : St->List (List Nat × List Nat)->Prop),
  ziB st s->zpw sp cf s.sz np ops (n+8*i) k s.t s.h tr=some r->(∀ st' s' tr',s'.sz=s.sz->ziB st' s'->k (n+8*(i+ops.length)) s'.t s'.h tr'=some r->K { st' with n:=st.n } tr') ->
  zbq P np n i ops st tr (λ st' tr'=>K { st' with n:=st.n } tr')/\(ops.all λ o=>o.dst.all (· < s.sz))=true
 | [],i,st,s,tr,k,r,K,ag,e,hK=>⟨hK st s tr rfl ag e,rfl⟩
 | o::os,i,st,s,tr,k,r,K,ag,e,hK=>by
   have ih:=λ (st' : St) (s' : RS) (tr' : List (List Nat × List Nat)) (hn : st'.n=st.n) (hsz : s'.sz=s.sz) (ag' : ziB st' s') (e' : zpw sp cf s.sz np os (n+8*(i+1)) k s'.t s'.h tr'=some r)=>zsE os (i+1) st' s' tr' k r K ag' (by rw [hsz]; exact e') (λ st2 s2 tr2 q1 q2 q3=>by
    have:=hK st2 s2 tr2 (q1.trans hsz) q2 (by rw [show i+(o::os).length=i+1+os.length by simp; omega]; exact q3)
    rw [hn]
    exact this)
   have hu : zpw sp cf s.sz np (o::os) (n+8*i) k s.t s.h tr=fcN (n+8*i+8) λ id'=>zwt sp cf s.sz np (n+8*i) o (zpw sp cf s.sz np os id' k) s.t s.h tr:=rfl;rw [hu,zlk,show n+8*i+8=n+8*(i+1) by omega] at e
   have hset : ∀ (v : AV) (d : Nat) (h : List (Nat × Option Ent)) (tr' : List (List Nat × List Nat)),setA v s.t d (zyW (zpw sp cf s.sz np os (n+8*(i+1)) k) h tr')=some r -> ∃ t',(∀ j,nthA t' j=if d=j then v else nthA s.t j)/\zpw sp cf s.sz np os (n+8*(i+1)) k t' h tr'=some r:=by
    intro v d h tr' hs;rcases zoR (γ:=zdM × RS) v s.t d with ⟨t',h1,h2⟩ | h1
    .rw [h1] at hs
     exact ⟨t',h2,hs⟩
    .rw [h1] at hs
     cases hs
   have hgo : opGo sp cf s.sz np (n+8*i) o (zpw sp cf s.sz np os (n+8*(i+1)) k) s.t s.h tr=some r ->
    (aK P np (n+8*i) o.op (o.xs.map (·.ev st.get)) st.hp λ v rd up=>zbq P np n (i+1) os ((st.put o.dst v).upd up) (tr++[(rd,up.map (·.1))]) (λ st' tr'=>K { st' with n:=st.n } tr'))/\((o::os).all λ o=>o.dst.all (· < s.sz))=true:=by
    intro h;unfold opGo at h;rw [zuJ] at h;have e1 : nthA s.t=st.get:=ag.t.symm;have e2 : hpB s.h=st.hp:=ag.h.symm;rw [e1,e2] at h;unfold zzl at h;split at h
    .cases h
    rename_i v rd up hev;rw [zgl (zxH false)] at h;unfold zx3 at h;obtain ⟨h',q1,q2⟩:=zrq up s.h;rw [q1] at h;unfold zx1 at h;rw [List.all_cons];split at h
    .rename_i hdst
     have hx:=ih ((st.put none v).upd up) { s with h:=h' } _ rfl rfl (ag.upd q2) h;refine ⟨zxI hcf hev ?_,by rw [hdst,hx.2]; rfl⟩
     rw [hdst];exact hx.1
    .rename_i d hdst
     split at h
     rotate_left
     .cases h
     rename_i hlt;rw [zot] at h;obtain ⟨t',ht',h⟩:=hset _ _ _ _ h;have hx:=ih ((st.put (some d) v).upd up) { s with t:=t',h:=h' } _ rfl rfl ((ag.put ht').upd (s:={ s with t:=t' }) q2) h;refine ⟨zxI hcf hev ?_,by rw [hdst,hx.2]; simpa [Nat.blt_eq] using hlt⟩
     rw [hdst];exact hx.1
   unfold zwt at e;unfold zbq;split at e
   .rename_i hg
    simp only [hg];exact hgo e
   .rename_i gg want hg
    simp only [hg];unfold opGd at e;split at e
    .cases e
    .rename_i b hb
     have hb' : gdV (st.get gg)=some b:=by rw [ag.t]; exact hb
     rw [zyO] at e;split at e
     .rename_i hbw
      have hbw:=of_decide_eq_true hbw;obtain ⟨h1,h2⟩:=hgo e;exact ⟨⟨b,hb',by rw [if_pos hbw]; exact h1⟩,h2⟩
     .rename_i hbw
      have hbw:=of_decide_eq_false hbw;unfold zxZ at e;rw [List.all_cons];split at e
      .rename_i hdst
       have hx:=ih st s _ rfl rfl ag e;exact ⟨⟨b,hb',by rw [if_neg hbw,hdst]; exact hx.1⟩,by rw [hdst,hx.2]; rfl⟩
      .rename_i d hdst
       split at e
       rotate_left
       .cases e
       rename_i hlt;obtain ⟨t',ht',h⟩:=hset _ _ _ _ e;have hx:=ih (st.put (some d) (.tup [])) { s with t:=t' } _ rfl rfl (ag.put ht') h;exact ⟨⟨b,hb',by rw [if_neg hbw,hdst]; exact hx.1⟩,by rw [hdst,hx.2]; simpa [Nat.blt_eq] using hlt⟩
theorem ze7 {np lf : Nat} : ∀ (c : zfz) (s : RS) (r : zdM × RS),zlN sp cf np lf c s=some r -> ∀ st,ziB st s->awp P np c (λ e t=>e=r.1/\ziB t r.2) st
 | .skip,s,r,h,st,ag=>by cases h; exact ⟨rfl,ag⟩
 | .reg draw ops after,⟨sz,t,hh,n⟩,r,h,st,ag=>by
   have h : zpw sp cf sz np ops n (zvN draw ops after sz) t hh []=some r:=h;have hn : st.n=n:=ag.n
   have hx:=zsE hcf (n:=n) ops 0 st ⟨sz,t,hh,n⟩ [] _ r (λ st' tr=>(draw=true->zeT ops after tr=true)/\zdM.normal=r.1/\ziB { st' with n:=st.n+8*ops.length } r.2) ag (by rw [Nat.mul_zero,Nat.add_zero]; exact h) (λ st' s' tr' q1 q2 q3=>by
    rw [Nat.zero_add] at q3;unfold zvN at q3;have q1 : s'.sz=sz:=q1;split at q3
    .cases q3
     exact ⟨λ h=>(by cases h),rfl,⟨q2.sz.trans q1,by rw [hn],q2.t,q2.h⟩⟩
    .split at q3
     .rename_i ho
      cases q3;exact ⟨λ _=>ho,rfl,⟨q2.sz.trans q1,by rw [hn],q2.t,q2.h⟩⟩
     .cases q3)
   refine ⟨by rw [ag.sz]; exact hx.2,?_⟩
   rw [hn];refine zcW _ _ _ _ _ _ _ (λ st' tr' hq=>?_) hx.1;rw [hn] at hq;exact hq
 | .seq a b,s,r,h,st,ag=>by
   have h : seqK (zlN sp cf np lf b) (zlN sp cf np lf a s)=some r:=h;unfold seqK at h;show awp P np a _ st;split at h
   .rename_i s' ha
    refine zcQ (λ e t ht=>?_) (ze7 a s _ ha st ag);obtain ⟨rfl,ag'⟩:=ht;exact ⟨t,Le.refl _ _,ze7 b s' r h t ag'⟩
   .rename_i hno
    obtain ⟨e0,s0⟩:=r;refine zcQ (λ e t ht=>?_) (ze7 a s _ h st ag);obtain ⟨rfl,ag'⟩:=ht
    cases e with
    | normal=>exact absurd h (hno s0)
    | exit id=>exact ⟨rfl,ag'⟩
    | ret=>exact ⟨rfl,ag'⟩
 | .cond c a b,s,r,h,st,ag=>by
   have h : zyf (zlN sp cf np lf a) (zlN sp cf np lf b) s (c.ev s.get)=some r:=h;unfold zyf at h;split at h
   .rename_i hc
    exact ⟨true,by rw [ag.t]; exact hc,ze7 a s r h st ag⟩
   .rename_i hc
    exact ⟨false,by rw [ag.t]; exact hc,ze7 b s r h st ag⟩
   .cases h
 | .block id a,s,r,h,st,ag=>by
   have h : zuS id (zlN sp cf np lf a s)=some r:=h;unfold zuS at h;show awp P np a _ st;split at h
   .rename_i i s' ha
    refine zcQ (λ e t ht=>?_) (ze7 a s _ ha st ag);obtain ⟨rfl,ag'⟩:=ht;simp only;rw [zgI] at h;split at h
    .rename_i hi; cases h; rw [if_pos (of_decide_eq_true hi)]; exact ⟨rfl,ag'⟩
    .rename_i hi; cases h; rw [if_neg (of_decide_eq_false hi)]; exact ⟨rfl,ag'⟩
   .rename_i hno
    obtain ⟨e0,s0⟩:=r;refine zcQ (λ e t ht=>?_) (ze7 a s _ h st ag);obtain ⟨rfl,ag'⟩:=ht
    cases e with
    | normal=>exact ⟨rfl,ag'⟩
    | exit id=>exact absurd h (hno id s0)
    | ret=>exact ⟨rfl,ag'⟩
 | .loop a,s,r,h,st,ag=>by
   have h : zts (zlN sp cf np lf a) lf s=some r:=h;refine ⟨λ k t=>∃ s',ziB t s'/\zts (zlN sp cf np lf a) k s'=some r,⟨st,lf,Le.refl _ _,s,ag,h⟩,?_⟩
   rintro k t ⟨s',ag',h'⟩
   match k,h' with
   | 0,h'=>cases h'
   | k+1,h' =>
     have h' : (match zlN sp cf np lf a s' with | some (.normal,s2)=>zts (zlN sp cf np lf a) k s2 | r=>r)=some r:=h'
     split at h'
     .rename_i s2 ha
      refine zcQ (λ e t ht=>?_) (ze7 a s' _ ha t ag');obtain ⟨rfl,ag2⟩:=ht;exact ⟨t,k,Le.refl _ _,⟨s2,ag2,h'⟩,Nat.lt_succ_self k⟩
     .rename_i hno
      obtain ⟨e0,s0⟩:=r;refine zcQ (λ e t ht=>?_) (ze7 a s' _ h' t ag');obtain ⟨rfl,ag2⟩:=ht
      cases e with
      | normal=>exact absurd h' (hno s0)
      | exit id=>exact ⟨rfl,ag2⟩
      | ret=>exact ⟨rfl,ag2⟩
 | .exit id,s,r,h,st,ag=>by cases h; exact ⟨rfl,ag⟩
 | .ret,s,r,h,st,ag=>by cases h; exact ⟨rfl,ag⟩
 | .bad,s,r,h,st,ag=>by cases h
omit hcf in
theorem zs2 {st : St} {s : RS} (ag : ziB st s) : ∀ l,zgp st l=zl6 s l
 | []=>rfl
 | r::rs=>by
   have h1 : zkb st r=zsc s r:=by
    unfold zkb zsc;rw [ag.t,ag.h];rfl
   rw [zgp,zl6,zs2 ag rs,h1];rfl
omit hcf in
theorem zqU {np : Nat} {s : RS} {vs : List AV} {small : Bool} {ex sn : List Nat} {res : AV} {hs' : List (Option Ent)} (h : zsQ np s vs small ex sn=some (res,hs')) : np<=hs'.length /\
  ∀ (st : St) (rs : List (Nat × Option (Bool × Nat))),ziB st s->zl6 s rs=some vs->zao rs np st res hs':=by
 unfold zsQ at h;split at h
 .rename_i hc
  simp only [Bool.and_eq_true,List.all_eq_true,Nat.ble_eq,Bool.not_eq_true',List.contains_eq_mem,decide_eq_false_iff_not] at hc;obtain ⟨c1,c2,c3⟩:=hc;rw [zot,zgl (λ o k=>by cases o <;> simp only [zv8])] at h
  cases h;refine ⟨by simp,λ st rs ag hvs=>⟨vs,by rw [zs2 ag]; exact hvs,ex,sn,zmT _ c1,c2,c3,?_,?_⟩⟩
  .rw [ag.h]; exact .refl _
  .rw [ag.h]
 .cases h
omit hcf in
theorem zxy {rs : List (Nat × Option (Bool × Nat))} {np : Nat} {s : RS} {res : AV} {hs' : List (Option Ent)} (h : zvs rs np s=some (res,hs')) : np<=hs'.length /\ ∀ st,ziB st s->zao rs np st res hs':=by
 unfold zvs at h;split at h
 .cases h
 rename_i vs hvs;simp only [zgl (zlk (β:=Option (AV × List (Option Ent))))] at h;split at h
 .obtain ⟨h1,h2⟩:=zqU h
  exact ⟨h1,λ st ag=>h2 st rs ag hvs⟩
 .obtain ⟨h1,h2⟩:=zqU h
  exact ⟨h1,λ st ag=>h2 st rs ag hvs⟩
theorem zxh {lf : Nat} {f : FuncId} {af : AFun} (s : Src P f af) {args : List AV} {hs : List Ent} {res : AV} {hs' : List (Option Ent)} (h : zwR sp cf lf af args hs=some (res,hs')) : zaj P f args hs res hs':=by
 unfold zwR at h;split at h
 .rename_i hc
  simp only [Bool.and_eq_true,Nat.ble_eq] at hc;rw [zgl (zot _ _)] at h;obtain ⟨t',h,ht'⟩:=zuH _ _ _ _ _ h;rw [zgl (zxH _),zlk] at h
  have ag : ziB (zgR af args hs) ⟨af.nt,t',hs.zipIdx.map λ (e,k)=>(k,some e),16⟩:=by
   refine ⟨rfl,rfl,?_,by funext id; unfold RS.hp; rw [zxM]; rfl⟩
   funext i
   unfold St.get RS.get zgR;rw [ht',zqy];simp only
   have key : ∀ (l : List AV) (m i : Nat),(lkp ((l.zipIdx m).map λ (a,i)=>(i,a)) (m+i)).getD .dead=l.getD i .dead:=by
    intro l
    induction l with
    | nil=>intro m i; simp [lkp]
    | cons a l ih =>
      intro m i;simp only [List.zipIdx_cons,List.map_cons,lkp]
      cases i with
      | zero=>simp
      | succ i =>
        rw [if_neg (by omega)]
        have:=ih (m+1) i;rw [show m+(i+1)=m+1+i by omega,this]
        rfl
   have h1:=key args 0 i;rw [Nat.zero_add] at h1;rw [h1];split
   .rw [Nat.sub_zero]
   .rename_i hi
    rw [List.getD_eq_getElem?_getD,List.getElem?_eq_none (by omega)]
    rfl
  have fin : ∀ (e0 : zdM) (s0 : RS),e0 = .normal∨e0 = .ret->zlN sp cf hs.length lf af.code ⟨af.nt,t',hs.zipIdx.map λ (e,k)=>(k,some e),16⟩=some (e0,s0)->zvs af.res hs.length s0=some (res,hs')->zaj P f args hs res hs':=by
   intro e0 s0 he hr hret;have hw:=ze7 hcf _ _ _ hr _ ag;obtain ⟨hl,hro⟩:=zxy hret;refine s.acalls hc.1 hc.2 hl (zcQ (λ e t ht=>?_) hw);obtain ⟨rfl,ag'⟩:=ht;exact ⟨he,hro t ag'⟩
  unfold zxJ at h;split at h
  .rename_i s0 hr; exact fin _ s0 (.inl rfl) hr h
  .rename_i s0 hr; exact fin _ s0 (.inr rfl) hr h
  .cases h
 .cases h
end
theorem zxL {P : Program} {sp : List FuncId} {ext : Cf} {tbl : List (FuncId × AFun)} (he : ∀ f a b r c,ext f a b=some (r,c)->zaj P f a b r c) (ht : ∀ q∈tbl,Src P q.1 q.2) (lf : Nat) :
  ∀ (d : Nat) (f : FuncId) (a : List AV) (b : List Ent) (r : AV) (c : List (Option Ent)),evN sp ext tbl lf d f a b=some (r,c)->zaj P f a b r c
 | 0,_,_,_,_,_,h=>by cases h
 | d+1,f,a,b,r,c,h=>by
   have h : evX (ext f a b) (evT tbl (λ af=>zwR sp (evN sp ext tbl lf d) lf af a b) f)=some (r,c):=h;unfold evX at h;split at h
   .rename_i hx; cases h; exact he _ _ _ _ _ hx
   .unfold evT at h
    rw [zvB] at h;split at h
    .rename_i af hl
     exact zxh (zxL he ht lf d) (ht _ (zb1 hl)) h
    .cases h
theorem zaj.wk {P : Program} {f : FuncId} {args args' : List AV} {hs : List Ent} {res : AV} {hs' : List (Option Ent)} (h : zaj P f args' hs res hs') (hw : WkL args args') : zaj P f args hs res hs':=by
 refine ⟨h.1,h.2.1,λ T M w vs h1 h2 h3 hr=>h.2.2 T M w vs h1 h2 h3 ⟨hr.1.trans hw.length,λ i hi=>?_⟩⟩;have hi' : i<args.length:=by rw [hw.length]; exact hi
 exact (hw.get i hi').rep (hr.2 i hi')
def bqF : List UInt8->List UInt8->Bool
 | [],[]=>true
 | x::xs,y::ys=>Nat.beq x.toNat y.toNat && bqF xs ys
 | _,_=>false
theorem zxS : ∀ {a b : List UInt8},bqF a b=true->a=b
 | [],[],_=>rfl
 | x::xs,y::ys,h=>by
   simp only [bqF,Bool.and_eq_true] at h;rw [zxS h.2,UInt8.toNat_inj.1 (Nat.eq_of_beq_eq_true h.1)]
 | [],_::_,h=>by cases h
 | _::_,[],h=>by cases h
def vqF (a b : Value) : Bool:=match a with
 | .int k m=>(match b with | .int k' n=>Nat.beq (kN k) (kN k') && eqF m n | _=>false)
 | .bool x=>(match b with | .bool y=>x == y | _=>false)
 | .string s=>(match b with | .string u=>bqF s.data.toList u.data.toList | _=>false)
 | .slice none 0 0=>(match b with | .slice none 0 0=>true | _=>false)
 | _=>false
theorem zzg {a b : Value} (h : vqF a b=true) : a=b:=by
 unfold vqF at h;split at h
 .split at h
  .rw [zz3,zxW,Bool.and_eq_true,decide_eq_true_eq,beq_iff_eq] at h
   rw [h.1,h.2]
  .cases h
 .split at h
  .rw [beq_iff_eq] at h; rw [h]
  .cases h
 .split at h
  .rename_i s _ u
   have:=zxS h;obtain ⟨⟨s⟩⟩:=s;obtain ⟨⟨u⟩⟩:=u;simp only at this;rw [this]
  .cases h
 .split at h
  .rfl
  .cases h
 .cases h
noncomputable def lqF {α : Type} (q : α->α->Bool) (a : List α) : List α->Bool :=
 List.rec (motive:=λ _=>List α->Bool) (λ b=>match b with | []=>true | _::_=>false) (λ x _ ih b=>match b with | []=>false | y::ys=>q x y && ih ys) a
theorem zpV {α : Type} {q : α->α->Bool} (hq : ∀ x y,q x y=true->x=y) : ∀ {a b : List α},lqF q a b=true->a=b
 | [],[],_=>rfl
 | [],_::_,h=>by cases h
 | _::_,[],h=>by cases h
 | x::xs,y::ys,h=>by
   have h : (q x y && lqF q xs ys)=true:=h;rw [Bool.and_eq_true] at h;rw [hq _ _ h.1,zpV hq h.2]
noncomputable def aqX (ih : AV->AV->Bool) (a b : AV) : Bool:=match a with
 | .sc v=>(match b with | .sc u=>vqF v u | _=>false)
 | .agg xs=>(match b with | .agg ys=>lqF ih xs ys | _=>false)
 | .vs s false rows=>(match b with | .vs s' false rows'=>Nat.beq s s' && lqF (lqF ih) rows rows' | _=>false)
 | _=>false
noncomputable def aqF (n : Nat) : AV->AV->Bool:=Nat.rec (motive:=λ _=>AV->AV->Bool) (λ _ _=>false) (λ _ ih=>aqX ih) n
theorem zxK : ∀ (n : Nat) (a b : AV),aqF n a b=true->a=b
 | 0,_,_,h=>by cases h
 | n+1,a,b,h=>by
   have ih:=zxK n;have h : aqX (aqF n) a b=true:=h;unfold aqX at h;split at h
   .split at h
    .rw [zzg h]
    .cases h
   .split at h
    .rw [zpV ih h]
    .cases h
   .split at h
    .rw [Bool.and_eq_true] at h
     rw [Nat.eq_of_beq_eq_true h.1,zpV (λ _ _=>zpV ih) h.2]
    .cases h
   .cases h
structure Fct where
 f : FuncId
 args : List AV
 res : AV
 out : List (Option Ent)
abbrev Fct.Ok (P : Program) (q : Fct) : Prop:=zaj P q.f q.args [] q.res q.out
noncomputable def zzI (l : List Fct) (f : FuncId) (args : List AV) : Option (AV × List (Option Ent)) :=
 List.rec (motive:=λ _=>Option (AV × List (Option Ent))) none (λ q _ ih=>match Nat.beq q.f f && lqF (aqF 6) q.args args with | true=>some (q.res,q.out) | false=>ih) l
def ascB : List Int->Bool
 | []=>true
 | x::l=>(match l with | []=>true | y::_=>ltF x y) && ascB l
def zxo : List (List AV)->Option (List Int)
 | []=>some []
 | [.sc (.int .i64 n)]::r=>match zxo r with | some l=>some (n::l) | none=>none
 | _=>none
def zz5 (args : List AV) : Option (AV × List (Option Ent)):=match args with
 | [.vs 1 false rows]=>match zxo rows with
   | some l=>match ascB l && Nat.ble l.length 1000 with | true=>some (.rs 0 0 l.length,[some ⟨1,zag l,0⟩]) | false=>none
   | none=>none
 | _=>none
noncomputable def zhO (l : List Fct) : Cf:=λ f args hs=>match hs with
 | []=>match Nat.beq f zc2 with | true=>zz5 args | false=>zzI l f args
 | _::_=>none
theorem zsy : ∀ {rows : List (List AV)} {l : List Int},zxo rows=some l->rows=zag l
 | [],l,h=>by cases h; rfl
 | row::rows,l,h=>by
   unfold zxo at h;split at h
   .rename_i he; cases he
   .split at h
    .rename_i hr; cases h; rename_i he _ _ ; injection he with e1 e2; subst e1 e2; rw [zsy hr]; rfl
    .cases h
   .cases h
theorem zwc : ∀ {l : List Int},ascB l=true->l.Pairwise (· < ·)
 | [],_=>.nil
 | [x],_=>List.pairwise_singleton _ _
 | x::y::l,h=>by
   simp only [ascB,Bool.and_eq_true,zuK,decide_eq_true_eq] at h;have ih:=zwc (l:=y::l) (by simp only [ascB,Bool.and_eq_true,zuK]; exact h.2)
   refine List.pairwise_cons.2 ⟨λ z hz=>?_,ih⟩;rcases List.mem_cons.1 hz with rfl | hz
   .exact h.1
   .have:=(List.pairwise_cons.1 ih).1 z hz; omega
theorem zyJ {l : List Int} (h : l.Pairwise (· < ·)) : srt l=l:=List.mergeSort_of_pairwise (h.imp λ h=>by simp; omega)
theorem zut {l : List Fct} (h : ∀ q∈l,q.Ok Tryz.prog) : ∀ f a b r c,zhO l f a b=some (r,c)->zaj Tryz.prog f a b r c:=by
 intro f a b r c e;unfold zhO at e;split at e
 .split at e
  .rename_i hf
   have hf:=Nat.eq_of_beq_eq_true hf;subst hf;unfold zz5 at e;split at e
   .split at e
    .rename_i L hL
     split at e
     .rename_i hA
      rw [Bool.and_eq_true] at hA;have hl : L.length<=1099511627776:=Nat.le_trans (nbz hA.2) (by omega)
      replace hA:=hA.1
      cases e;have:=zwc hA;rw [zsy hL];have h1:=zh5 L hl;rw [zyJ this] at h1;exact h1
     .cases e
    .cases e
   .cases e
  .induction l with
   | nil=>cases e
   | cons q l ih =>
     have e : (match Nat.beq q.f f && lqF (aqF 6) q.args a with | true=>some (q.res,q.out) | false=>zzI l f a)=some (r,c):=e
     split at e
     .rename_i hq
      rw [Bool.and_eq_true] at hq;have e1:=Nat.eq_of_beq_eq_true hq.1;have e2:=zpV (λ _ _=>zxK 6 _ _) hq.2
      cases e;rw [<- e1,<- e2];exact h q (List.mem_cons_self ..)
     .exact ih (λ q hq=>h q (List.mem_cons_of_mem _ hq)) e
 .cases e
set_option maxRecDepth 100000
theorem zkX {P : Program} : ∀ q∈([] : List (FuncId × AFun)),Src P q.1 q.2:=λ _ h=>(List.not_mem_nil h).elim
theorem zaf {P : Program} {f : FuncId} {af : AFun} {l : List (FuncId × AFun)} (s : Src P f af) (h : ∀ q∈l,Src P q.1 q.2) : ∀ q∈(f,af)::l,Src P q.1 q.2:=λ q hq=>by
 rcases List.mem_cons.1 hq with rfl | hq
 .exact s
 .exact h q hq
theorem ziz {P : Program} : ∀ q∈([] : List Fct),q.Ok P:=λ _ h=>(List.not_mem_nil h).elim
theorem zfI {P : Program} {q0 : Fct} {l : List Fct} (s : q0.Ok P) (h : ∀ q∈l,q.Ok P) : ∀ q∈q0::l,q.Ok P:=λ q hq=>by
 rcases List.mem_cons.1 hq with rfl | hq
 .exact s
 .exact h q hq
theorem zo9 {sp : List FuncId} {l : List Fct} {tbl : List (FuncId × AFun)} (hl : ∀ q∈l,q.Ok Tryz.prog) (ht : ∀ q∈tbl,Src Tryz.prog q.1 q.2) {f : FuncId} {a : List AV} {r : AV} {c : List (Option Ent)} (h : evN sp (zhO l) tbl 1000 40 f a []=some (r,c)) : zaj Tryz.prog f a [] r c :=
 zxL (zut hl) ht 1000 40 f a [] r c h
abbrev gSv : AV:=.agg [.I 12,.vs 3 false [[.I 0,.I 1,.I 1]],.nilS]
abbrev pSv : AV:=.agg [.vs 1 false [[.I 0]],.vs 1 false [[.I 5],[.I 4]],.I 1]
abbrev sSv : AV:=.sc (.string ⟨#[115]⟩)
abbrev uSv (n : Int) : AV:=.sc (.int .u64 n)
abbrev oSv : AV:=.vs 1 false [[.I 2],[.I 3],[.I 4],[.I 5],[.I 6],[.I 7],[.I 8],[.I 9],[.I 10],[.I 11]]
def spE : List FuncId:=[zc2,zbX,za0,zaM,zbY,zbn,zbs,zd8]
abbrev by25 (l : List Int) : AV:=.vs 1 false (l.map λ n=>[.sc (.int .u8 n)])
noncomputable def okS (r : Option (AV × List (Option Ent))) : Bool:=match r with | some (.sc (.string s),[])=>true | _=>false
theorem zxN {r : Option (AV × List (Option Ent))} (h : okS r=true) : ∃ s,r=some (.sc (.string s),[]):=by
 unfold okS at h;split at h
 .exact ⟨_,rfl⟩
 .cases h
def tblD : List (FuncId × AFun):=[(zgH,zja),(zc3,zev),(zdd,zeL),(zeb,zfU),(zbY,zmI)]
theorem srcD : ∀ q∈tblD,Src Tryz.prog q.1 q.2:=zaf znQ (zaf zhy (zaf zhT (zaf zju (zaf zrM zkX))))
theorem dig0 : okS (evN spE (zhO []) tblD 1000 40 zbY [by25 [0,0,0,0,0,0,0,1,115,0,0,0,0,0,0,0,0,0,0,0,0,0,0,0,1]] [])=true:=by kernel_rfl
theorem dig1 : okS (evN spE (zhO []) tblD 1000 40 zbY [by25 [0,0,0,0,0,0,0,1,115,0,0,0,0,0,0,0,1,0,0,0,0,0,0,0,0]] [])=true:=by kernel_rfl
def tblE : List (FuncId × AFun):=[(zaF,ziD),(zgE,zjf),(zhA,zjL),(zbZ,zc8),(zcK,zfa),(zcf,ze9),(zaZ,zbb),(zaU,zbE),(zaX,zcF),(zeW,ziP),(zmg,zqb),(zdt,zfd),(zcV,zeE),(zcR,zei),(zdi,zgy),(zbX,zej),(znm,zqc),(zh4,zqW),(zle,zob),(za8,zbI),(zaS,zco),(za6,zbw),(zdw,zgU),(zd9,zfQ),(zfr,zhN),(zhi,zjW),(zdD,zfB),(za1,zcu),(zdE,zfC),(zeu,zgw),(zam,zbN),(zeD,zgk),(zaI,zbf),(zaV,zb6),(zbn,zh6)]
theorem srcE : ∀ q∈tblE,Src Tryz.prog q.1 q.2:=zaf ziv (zaf znt (zaf zoV (zaf zdU (zaf zgG (zaf ze6 (zaf zbz (zaf zcz (zaf zbU (zaf ziV (zaf zuL (zaf ziA (zaf zhb (zaf zg2 (zaf zkd (zaf zgW (zaf zwe (zaf zwy (zaf ztv (zaf zde (zaf zd3 (zaf zc0 (zaf zkW (zaf zjy (zaf zlJ (zaf zpK (zaf zi1 (zaf zct (zaf ziY (zaf zkB (zaf zbP (zaf zjR (zaf zbg (zaf zb0 (zaf zm7 zkX))))))))))))))))))))))))))))))))))
theorem esc0 (s0 s1 : ByteArray) : evN spE (zhO [⟨zbY,[by25 [0,0,0,0,0,0,0,1,115,0,0,0,0,0,0,0,0,0,0,0,0,0,0,0,1]],.sc (.string s0),[]⟩,⟨zbY,[by25 [0,0,0,0,0,0,0,1,115,0,0,0,0,0,0,0,1,0,0,0,0,0,0,0,0]],.sc (.string s1),[]⟩]) tblE 1000 40 zbn [gSv,sSv,.I 0,.I 3,oSv] []=some (.I 0,[]):=by kernel_rfl
theorem esc1 (s0 s1 : ByteArray) : evN spE (zhO [⟨zbY,[by25 [0,0,0,0,0,0,0,1,115,0,0,0,0,0,0,0,0,0,0,0,0,0,0,0,1]],.sc (.string s0),[]⟩,⟨zbY,[by25 [0,0,0,0,0,0,0,1,115,0,0,0,0,0,0,0,1,0,0,0,0,0,0,0,0]],.sc (.string s1),[]⟩]) tblE 1000 40 zbn [gSv,sSv,.I 1,.I 3,oSv] []=some (.I 0,[]):=by kernel_rfl
def tblI : List (FuncId × AFun):=[(zb4,zdZ),(zbZ,zc8),(zbM,zcJ),(zd1,zfx),(za5,zeU),(zbJ,zfW)]
theorem srcI : ∀ q∈tblI,Src Tryz.prog q.1 q.2:=zaf zdT (zaf zdU (zaf zdI (zaf zhQ (zaf zgZ (zaf zjo zkX)))))
theorem tim1 : evN spE (zhO []) tblI 1000 40 za5 [uSv 1,uSv 1] []=some (uSv 1,[]):=by kernel_rfl
theorem inv1 : evN spE (zhO [⟨za5,[uSv 1,uSv 1],uSv 1,[]⟩]) tblI 1000 40 zbJ [uSv 1] []=some (uSv 1,[]):=by kernel_rfl
def tblW : List (FuncId × AFun):=[(zaF,ziD),(zcd,zku),(za1,zcu),(zam,zbN),(zf6,zmr),(zcf,ze9),(zby,zfs),(zeZ,zmh),(zdG,zi3),(zgm,zlq),(zbS,ziF),(zaM,zbB),(za0,zcs),(zet,zhL),(zcm,zgc),(zaB,zbl),(zaL,zbh),(zbR,ziu),(zdY,zfu),(zb4,zdZ),(zdF,zgF),(zbu,zc1),(zdl,zga),(zcB,zfp),(zbt,ziq),(zbZ,zc8),(zcK,zfa),(zaZ,zbb),(zaU,zbE),(zaX,zcF),(zeW,ziP),(zcC,zfw),(zaI,zbf),(zbd,zcj),(zcU,zhq),(zbv,zez),(zbW,zeA),(zaN,zbD),(zaY,zcb),(zbO,zcL),(zaR,zcn),(zbk,zcM),(za4,zbL),(zcq,zf9),(zeX,zg9),(zcI,zfc),(zbM,zcJ),(zd1,zfx),(za5,zeU),(zdf,zeN),(zeH,zgx),(zbs,zfT)]
theorem srcW : ∀ q∈tblW,Src Tryz.prog q.1 q.2:=zaf ziv (zaf zkc (zaf zct (zaf zbP (zaf zl5 (zaf ze6 (zaf zfv (zaf zmd (zaf zi5 (zaf zls (zaf ziC (zaf zba (zaf zbG (zaf zhJ (zaf zge (zaf zbm (zaf zbi (zaf zgt (zaf zhP (zaf zdT (zaf zgK (zaf zc4 (zaf zgd (zaf zfo (zaf zgr (zaf zdU (zaf zgG (zaf zbz (zaf zcz (zaf zbU (zaf ziV (zaf zfn (zaf zbg (zaf zch (zaf zhE (zaf zeG (zaf zew (zaf zbC (zaf zdj (zaf zdN (zaf zdu (zaf zcN (zaf zbK (zaf zf7 (zaf zkM (zaf zh1 (zaf zdI (zaf zhQ (zaf zgZ (zaf zhU (zaf zjX (zaf zjk zkX)))))))))))))))))))))))))))))))))))))))))))))))))))
theorem wei1 : evN spE (zhO [⟨zbJ,[uSv 1],uSv 1,[]⟩]) tblW 1000 40 zbs [gSv,pSv,.I 1] []=some (.tup [.rs 0 0 12,.I 0],[some ⟨1,[[.I 2],[.I 1],[.I 0],[.I 0],[.I 0],[.I 0],[.I 0],[.I 0],[.I 0],[.I 0],[.I 0],[.I 0]],0⟩]):=by kernel_rfl
def tblM : List (FuncId × AFun):=[(zaF,ziD),(zie,zlm),(zdo,zln),(zgM,zje),(zdK,zi6),(za7,zcv),(za2,zb9),(zfP,zl7),(za0,zcs),(zg7,zop),(zci,zfR),(zbT,zfg),(zc5,zfV),(ziO,zn6),(zh8,zqq),(zey,zjZ),(zaI,zbf),(zaV,zb6),(zdP,zjd),(zhg,zmG),(zf2,zna),(zd8,zmc)]
theorem srcM : ∀ q∈tblM,Src Tryz.prog q.1 q.2:=zaf ziv (zaf zq9 (zaf zrj (zaf znw (zaf zi9 (zaf zcw (zaf zb7 (zaf znn (zaf zbG (zaf zoj (zaf zfY (zaf zfj (zaf zf0 (zaf znW (zaf zqa (zaf zkA (zaf zbg (zaf zb0 (zaf zjb (zaf zmZ (zaf zmY (zaf zrv zkX)))))))))))))))))))))
theorem mos1 : evN spE (zhO []) tblM 1000 40 zd8 [gSv,.I 1,.I 0,.I 1] []=some (.I 1,[]):=by kernel_rfl
def tblT : List (FuncId × AFun):=[(zdO,zi7),(zbQ,zh2),(zby,zfs),(zcf,ze9),(zeS,zgP),(zcU,zhq),(zcB,zfp),(zcC,zfw),(zcq,zf9),(zbv,zez),(zbW,zeA),(zdl,zga),(zbR,ziu),(zcm,zgc),(zeW,ziP),(zet,zhL),(zaF,ziD),(zbt,ziq),(zcK,zfa),(zbZ,zc8),(zdF,zgF),(zdY,zfu),(zb4,zdZ),(zaM,zbB),(za0,zcs),(zam,zbN),(zaL,zbh),(zbd,zcj),(zaB,zbl),(zaI,zbf),(za1,zcu),(zbu,zc1),(za4,zbL),(zaX,zcF),(zaN,zbD),(zaZ,zbb),(zaU,zbE),(zbO,zcL),(zbk,zcM),(zaY,zcb),(zaR,zcn)]
theorem srcT : ∀ q∈tblT,Src Tryz.prog q.1 q.2:=zaf znF (zaf ziy (zaf zfv (zaf ze6 (zaf zk5 (zaf zhE (zaf zfo (zaf zfn (zaf zf7 (zaf zeG (zaf zew (zaf zgd (zaf zgt (zaf zge (zaf ziV (zaf zhJ (zaf ziv (zaf zgr (zaf zgG (zaf zdU (zaf zgK (zaf zhP (zaf zdT (zaf zba (zaf zbG (zaf zbP (zaf zbi (zaf zch (zaf zbm (zaf zbg (zaf zct (zaf zc4 (zaf zbK (zaf zbU (zaf zbC (zaf zbz (zaf zcz (zaf zdN (zaf zcN (zaf zdj (zaf zdu zkX))))))))))))))))))))))))))))))))))))))))
theorem tab1 (f : List (List AV)) : evN spE (zhO [⟨zbn,[gSv,sSv,.I 0,.I 3,oSv],.I 0,[]⟩,⟨zbn,[gSv,sSv,.I 1,.I 3,oSv],.I 0,[]⟩,⟨zbs,[gSv,pSv,.I 1],.tup [.rs 0 0 12,.I 0],[some ⟨1,[[.I 2],[.I 1],[.I 0],[.I 0],[.I 0],[.I 0],[.I 0],[.I 0],[.I 0],[.I 0],[.I 0],[.I 0]],0⟩]⟩,⟨zd8,[gSv,.I 1,.I 0,.I 1],.I 1,[]⟩,
 ⟨zd4,[gSv,pSv],.tup [.agg [.vs 1 false [[.I 0],[.I 1]],.vs 1 false f,.vs 2 false []],.I 0],[]⟩]) tblT 1000 40 zdO [gSv,pSv,sSv,.I 3,.I 1] []=some (.tup [.rs 0 0 2,.I 0],[some ⟨6,[[.I 0,.I 0,.I 0,.I 0,.I 2,.B true],[.I 1,.I 1,.I 1,.I 0,.I 1,.B true]],0⟩]):=by kernel_rfl
theorem ztO : zaj Tryz.prog zdO [gSv,pSv,sSv,.I 3,.I 1] [] (.tup [.rs 0 0 2,.I 0]) [some ⟨6,[[.I 0,.I 0,.I 0,.I 0,.I 2,.B true],[.I 1,.I 1,.I 1,.I 0,.I 1,.B true]],0⟩]:=by
 obtain ⟨s0,h0⟩:=zxN dig0;obtain ⟨s1,h1⟩:=zxN dig1;have d0:=zo9 ziz srcD h0;have d1:=zo9 ziz srcD h1;have fd:=zfI (q0:=⟨zbY,[by25 [0,0,0,0,0,0,0,1,115,0,0,0,0,0,0,0,0,0,0,0,0,0,0,0,1]],.sc (.string s0),[]⟩) d0 (zfI (q0:=⟨zbY,[by25 [0,0,0,0,0,0,0,1,115,0,0,0,0,0,0,0,1,0,0,0,0,0,0,0,0]],.sc (.string s1),[]⟩) d1 ziz);have e0:=zo9 fd srcE (esc0 s0 s1);have e1:=zo9 fd srcE (esc1 s0 s1);have i1:=zo9 (zfI (q0:=⟨za5,[uSv 1,uSv 1],uSv 1,[]⟩) (zo9 ziz srcI tim1) ziz) srcI inv1;have w1:=zo9 (zfI (q0:=⟨zbJ,[uSv 1],uSv 1,[]⟩) i1 ziz) srcW wei1;have m1:=zo9 ziz srcM mos1;obtain ⟨f,_,hrun⟩:=zhY gS pS zuq znH (by decide) (by decide)
 rw [ordS,accS.1,accS.2] at hrun
 have hrun : zaj Tryz.prog zd4 [gSv,pSv] [] (.tup [.agg [.vs 1 false [[.I 0],[.I 1]],.vs 1 false (f.map λ n=>[AV.I n]),.vs 2 false []],.I 0]) [] :=
  hrun.wk ⟨wkA3 (.refl _) (.refl _) (.nil _ _),.refl _,trivial⟩
 exact zo9 (zfI (q0:=⟨zbn,[gSv,sSv,.I 0,.I 3,oSv],.I 0,[]⟩) e0 (zfI (q0:=⟨zbn,[gSv,sSv,.I 1,.I 3,oSv],.I 0,[]⟩) e1 (zfI (q0:=⟨zbs,[gSv,pSv,.I 1],.tup [.rs 0 0 12,.I 0],[some ⟨1,[[.I 2],[.I 1],[.I 0],[.I 0],[.I 0],[.I 0],[.I 0],[.I 0],[.I 0],[.I 0],[.I 0],[.I 0]],0⟩]⟩) w1 (zfI (q0:=⟨zd8,[gSv,.I 1,.I 0,.I 1],.I 1,[]⟩) m1 (zfI hrun ziz))))) srcT (tab1 _)
theorem zyU : zaj Tryz.prog zji [] [] (.tup [gSv,pSv]) []:=by
 refine zsl.ac ?_;show awp _ 0 _ _ ⟨8,[],[],16⟩;refine rs [0,1] [16,24] [] ?_;refine zaa ⟨8,[(0,.pt 16 0 0),(1,.pt 24 0 0)],[(16,some ⟨3,[[.I 12,.vs 3 false [[.I 0,.I 1,.I 1]],.nilS]],0⟩),(24,some ⟨3,[[.vs 1 false [[.I 0]],.vs 1 false [[.I 5],[.I 4]],.I 1]],0⟩)],300⟩ rfl ?_ ?_
 .simp
  exact Le.go [(16,16),(24,24)] [40,56,64] rfl rfl (by simp) (by simp [zaO])
 refine zah ?_;exact ⟨.inr rfl,zao.out [] [16,24] rfl (by simp) (by simp) (.refl _) (by simp)⟩
set_option maxRecDepth 100000 in
set_option maxHeartbeats 4000000 in
theorem zkE : zaj Tryz.prog zfe [] [] (.B true) []:=by
 have hwk : ∀ x y : AV,WkL [gSv,pSv,x,y] [eG gS,eP pS,x,y]:=λ x y=>⟨wkA3 (.refl _) (.refl _) (.nil _ _),.refl _,.refl _,.refl _,trivial⟩;have hharm:=(zin gS pS 1 10 (by decide) (by decide) (by decide) (by decide) (λ _=>by decide)).wk (hwk _ _)
 rw [zBl] at hharm;have hring:=(zf4 gS pS 1 2 (by decide) (by decide) (by decide) (by decide)).wk (hwk _ _)
 obtain ⟨h,hr,h7⟩:=zwg;rw [hr] at hring;have htab:=ztO;refine zqH.ac ?_;show awp _ 0 _ _ ⟨102,[],[],16⟩;refine rs [] [] [] ?_;refine zaa ⟨102,[(1,.pv [.I 12,.vs 3 false [[.I 0,.I 1,.I 1]],.nilS]),(2,.pv [.vs 1 false [[.I 0]],.vs 1 false [[.I 5],[.I 4]],.I 1])],[],200⟩ rfl ?_ ?_
 .simp
  refine zaq zyU (by simp) ?_
  simp [zaO];exact LeH [] [56,64]
 refine zaa ⟨102,[(1,.pv [.I 12,.vs 3 false [[.I 0,.I 1,.I 1]],.nilS]),(2,.pv [.vs 1 false [[.I 0]],.vs 1 false [[.I 5],[.I 4]],.I 1]),(3,.I 3),(4,.I 0),(5,.I 0)],[],300⟩ rfl ?_ ?_
 .simp
  refine zaq hharm (by simp) ?_
  simp;exact LeH [] []
 refine zaa ⟨102,[(1,.pv [.I 12,.vs 3 false [[.I 0,.I 1,.I 1]],.nilS]),(2,.pv [.vs 1 false [[.I 0]],.vs 1 false [[.I 5],[.I 4]],.I 1]),(3,.I 3),(4,.I 0),(5,.I 0),(6,.pv (gC h)),(7,.vs 1 false [[.I 2],[.I 3]]),(8,.I 0)],[],400⟩ rfl ?_ ?_
 .simp
  refine zaq hring (by simp) ?_
  simp [zaO];exact LeH [] [356]
 refine zaa ⟨102,[(3,.I 3),(4,.I 0),(5,.I 0),(6,.pv (gC h)),(7,.vs 1 false [[.I 2],[.I 3]]),(8,.I 0),(9,.vs 6 false [[.I 0,.I 0,.I 0,.I 0,.I 2,.B true],[.I 1,.I 1,.I 1,.I 0,.I 1,.B true]]),(10,.I 0)],[],500⟩ rfl ?_ ?_
 .simp
  refine zbx htab (by simp) ?_
  simp;exact LeH [] [416]
 refine zaa ⟨102,[(0,.B true)],[],2000⟩ rfl ?_ ?_
 .simp [h7]
  exact LeH [] []
 refine zah ?_;exact ⟨.inr rfl,zao.one (by simp)⟩
variable {g : Gr} {p : Pol} {x : Int} {l : List Int}
def zcc (g : Gr) (m : Int) : Gr:=⟨g.size+m,g.edges,g.gone⟩
theorem zwO (hg : GrOk g) {m : Int} (h0 : 0<=m) (h : g.size+m<=64) : GrOk (zcc g m):=by
 refine GrOk.of (by have:=hg.1.1; omega) h hg.1.2.2.1 (λ i hi=>?_) hg.pair λ e he=>?_
 .have:=hg.1.2.2.2 i hi
  exact ⟨this.1,by show g.gone[i]<=g.size+m - 1; omega,this.2.2⟩
 .have h1:=hg.fits e he
  refine ⟨?_,hg.val e he⟩;unfold Fits at h1 ⊢;exact ⟨h1.1,by show e.f<=g.size+m - 1; omega,h1.2.2.1,by show e.t<=g.size+m - 1; omega,h1.2.2.2.2⟩
theorem zxu {n m : Int} (hp : zbe n p) (h0 : 0<=m) : zbe (n+m) p:=by
 refine ⟨hp.1,λ i hi=>?_,hp.2.2⟩;have:=hp.2.1 i hi;exact ⟨this.1,by omega,this.2.2⟩
theorem zwr (hg : GrOk g) (hp : zbe g.size p) {m : Nat} (hx : Key g x) : m<=(zb5 (zcc g m) p x).length:=by
 have hz:=hg.1.1
 have h1:=zbo (a:=(List.range m).map λ (i : Nat)=>g.size+(i : Int)) (b:=zb5 (zcc g m) p x) (by
  refine List.pairwise_map.2 (List.nodup_range.imp λ {a b} h e=>h ?_)
  omega) λ k hk=>by
  obtain ⟨i,hi,rfl⟩:=List.mem_map.1 hk;have hi:=List.mem_range.1 hi;refine zda.2 ⟨⟨by omega,by show g.size+(i : Int)<((g.size+(m : Int)).toNat : Int); omega⟩,?_⟩
  unfold zm4;have e1 : ¬ g.size+(i : Int)=x:=by have:=hx.2; omega
  have e2 : (zcc g m).edges.any (λ e=>decide (e.f=g.size+(i : Int)) || decide (e.t=g.size+(i : Int)))=false:=by
   rw [List.any_eq_false];intro e he;have h1:=hg.fits e he;unfold Fits at h1;have e3 : ¬ e.f=g.size+(i : Int):=by omega
   have e4 : ¬ e.t=g.size+(i : Int):=by omega
   simp [e3,e4]
  have e5 : g.size+(i : Int)∉(zcc g m).gone:=λ h=>by
   have:=hg.1.2.2.2.nodup.2 _ h;omega
  have e6 : g.size+(i : Int)∉p.seeds:=λ h=>by
   have:=hp.2.1.nodup.2 _ h;omega
  rw [decide_eq_false e1,e2,decide_eq_false e5,decide_eq_false e6];rfl
 simpa using h1
theorem zzA (hf : zfh g p x l) : inC g.size.toNat l (accG (za9 g x l) p)=inN g p x l:=by
 unfold inC inN;rw [zvO hf.nodup (λ k hk=>by have:=hf.rng k hk; omega),zyc hf.nodup (ztE (za9 g x l) p)]
theorem zuz (n : Nat) (a : List Int) : outC n a a=0:=by
 unfold outC;rw [List.length_eq_zero_iff];refine List.eq_nil_iff_forall_not_mem.2 λ k hk=>?_;have:=(zda.1 hk).2
 cases h : decide (k∈a) <;> rw [h] at this <;> cases this
theorem zvd (hg : GrOk g) (hp : zbe g.size p) (hx : Key g x) (hxg : x∉g.gone) {n : Nat} (h1 : 1<=n) (h2 : n<=(zb5 g p x).length) (h3 : g.edges.length+3*n<=500) :
  GrOk (za9 g x ((zb5 g p x).take n))/\zhj g p x n=((inN g p x ((zb5 g p x).take n) : Int),(outC g.size.toNat (accG g p) (accG (za9 g x ((zb5 g p x).take n)) p) : Int),0)/\(dist (zai g p.lv) p.seeds x<0->inN g p x ((zb5 g p x).take n)=0/\outC g.size.toNat (accG g p) (accG (za9 g x ((zb5 g p x).take n)) p)=0):=by
 have hfk : zfh g p x ((zb5 g p x).take n):=zg8 n;have hll : ((zb5 g p x).take n).length=n:=by rw [List.length_take]; omega
 have htl : g.edges.length+(tieL x ((zb5 g p x).take n)).length<=500:=by
  have h4:=zkg g x ((zb5 g p x).take n) ((zb5 g p x).take n).length;have h5 : tieF g x ((zb5 g p x).take n) ((zb5 g p x).take n).length=g.edges++tieL x ((zb5 g p x).take n):=rfl;rw [h5,List.length_append,hll] at h4;omega
 have hro:=zo8 hg hfk ⟨hx.1,hx.2⟩ hxg htl
 have hres : zcx g p x n=(za9 g x ((zb5 g p x).take n),(zb5 g p x).take n,0):=by
  unfold zcx
  rw [if_neg (by rw [zgT.2 ⟨hg,hp⟩]; decide),if_neg (by
   rintro (h | h)
   .exact h ⟨hx.1,by have:=hx.2; omega⟩
   .exact hxg h),if_neg (by omega),if_neg (by omega),Int.toNat_natCast,if_neg (by omega)]
 refine ⟨hro,?_,λ hd=>⟨zra hg hp hx hfk hro hd,?_⟩⟩
 .unfold zhj
  rw [hres];simp only;rw [if_neg (by decide),zzA hfk]
 .have:=(zoS hg hp hx hfk hro hd).2
  rw [show accG (za9 g x ((zb5 g p x).take n)) p=accG g p from this]
  exact zuz _ _
def innA (a b : Int) (i : Nat) : List Ed:=(List.range i).flatMap λ (x : Nat)=>if (x : Int)≠a/\(x : Int)≠b then [⟨2+2*x,3+2*x,1⟩] else []
def arcP (lv a b : Int) (e : Ed) : List Ed:=if e.v<lv∨e.t=a∨e.f=b then [] else [⟨if e.f=a then 0 else 3+2*e.f,if e.t=b then 1 else 2+2*e.t,1⟩]
def netP (g : Gr) (lv a b : Int) : List Ed:=innA a b g.size.toNat++g.edges.flatMap (arcP lv a b)
def zkw (g : Gr) (lv a b : Int) : Prop:=(1<=lv/\lv<=3)/\(0<=a/\a<=g.size - 1)/\(0<=b/\b<=g.size - 1)/\a≠b
instance (g : Gr) (lv a b : Int) : Decidable (zkw g lv a b):=by unfold zkw; infer_instance
noncomputable def zt8 (g : Gr) (lv a b : Int) : Int:=if zkw g lv a b then maxF (2+2*g.size.toNat) (netP g lv a b) else 0
section
variable {g : Gr} {lv a b : Int}
theorem zmb (i : Nat) : innA a b (i+1)=innA a b i++if (i : Int)≠a/\(i : Int)≠b then [⟨2+2*i,3+2*i,1⟩] else []:=by
 unfold innA;rw [List.range_succ,List.flatMap_append];simp
theorem zoX (i : Nat) : (innA a b i).length<=i:=by
 induction i with
 | zero=>simp [innA]
 | succ i ih=>rw [zmb,List.length_append]; split <;> simp <;> omega
theorem zxv (e : Ed) : (arcP lv a b e).length<=1:=by unfold arcP; split <;> simp
theorem zm6 : ∀ l : List Ed,(l.flatMap (arcP lv a b)).length<=l.length
 | []=>by simp
 | e::l=>by
   have:=zm6 l;have:=zxv (lv:=lv) (a:=a) (b:=b) e;simp only [List.flatMap_cons,List.length_append,List.length_cons];omega
theorem zum {l : List Ed} {i : Nat} (h : i<l.length) : (l.take (i+1)).flatMap (arcP lv a b)=(l.take i).flatMap (arcP lv a b)++arcP lv a b l[i]:=by
 rw [List.take_succ_eq_append_getElem h,List.flatMap_append];simp
theorem zus (g : Gr) (lv a b : Int) : (zai g lv).edges.flatMap (arcP lv a b)=g.edges.flatMap (arcP lv a b):=by
 unfold zai;simp only
 induction g.edges with
 | nil=>rfl
 | cons e l ih =>
   rw [List.filter_cons,List.flatMap_cons]
   by_cases h : e.v<lv
   .have h2 : arcP lv a b e=[]:=by unfold arcP; rw [if_pos (.inl h)]
    simp [h,h2,ih]
   .simp [h,ih]
theorem zs5 (hg : GrOk g) : zbF ⟨2+2*g.size.toNat,netP g lv a b⟩:=by
 have h0:=hg.1.1;have h1:=hg.1.2.1;have h2:=hg.edges_le;have h3:=zoX (a:=a) (b:=b) g.size.toNat;have h4:=zm6 (lv:=lv) (a:=a) (b:=b) g.edges;refine ⟨by simp only; omega,by simp only; omega,by simp only [netP,List.length_append]; omega,λ x hx=>?_⟩
 unfold netP at hx;rcases List.mem_append.1 hx with hx | hx
 .unfold innA at hx
  obtain ⟨k,hk,hx⟩:=List.mem_flatMap.1 hx;have hk:=List.mem_range.1 hk;split at hx
  .simp at hx
   subst hx;unfold zk0;simp only;omega
  .simp at hx
 .obtain ⟨e,he,hx⟩:=List.mem_flatMap.1 hx
  have hf:=hg.fits e he;unfold Fits at hf;unfold arcP at hx;split at hx
  .simp at hx
  .simp at hx
   subst hx;unfold zk0;simp only;split <;> split <;> omega
end
variable {g : Gr} {p : Pol} {x : Int} {l : List Int}
def farS (x : Int) (l : List Int) (n : Int) : Bool:=!(decide (n=1) || decide (n=3+2*x) || l.any λ r=>decide (n=2+2*r) || decide (n=3+2*r))
theorem ztq {n : Int} : farS x l n=false↔n=1∨n=3+2*x ∨ ∃ r∈l,n=2+2*r∨n=3+2*r:=by
 unfold farS
 by_cases h1 : n=1
 .simp [h1]
 by_cases h2 : n=3+2*x
 .simp [h2]
 simp [h1,h2]
theorem zvi {n : Int} : farS x l n=true↔¬ (n=1∨n=3+2*x ∨ ∃ r∈l,n=2+2*r∨n=3+2*r):=by
 rw [<- ztq];simp
theorem zv3 {a b : Int} : ∀ i : Nat,((innA a b i).map λ e=>if farS x l e.f=true/\farS x l e.t=false then e.v else 0).sum<=if x<i then 1 else 0
 | 0=>by
   have : innA a b 0=[]:=rfl;rw [this];simp only [List.map_nil,List.sum_nil];split <;> omega
 | i+1=>by
   have ih:=zv3 (a:=a) (b:=b) i;rw [zmb,List.map_append,List.sum_append]
   have h1 : (((if (i : Int)≠a/\(i : Int)≠b then [(⟨2+2*i,3+2*i,1⟩ : Ed)] else []).map λ e=>if farS x l e.f=true/\farS x l e.t=false then e.v else 0).sum)<=if x=i then 1 else 0:=by
    split
    .simp only [List.map_cons,List.map_nil,List.sum_cons,List.sum_nil,Int.add_zero]
     split
     .rename_i h2
      obtain ⟨h2,h3⟩:=h2;rw [zvi] at h2;rw [ztq] at h3;rw [if_pos]
      .omega
      .rcases h3 with h3 | h3 | ⟨r,hr,h3⟩
       .omega
       .omega
       .exact absurd (.inr (.inr ⟨r,hr,.inl (by omega)⟩)) h2
     .split <;> omega
    .simp only [List.map_nil,List.sum_nil]
     split <;> omega
   split at h1 <;> split at ih <;> split <;> omega
theorem zwk (hg : GrOk g) (hf : zfh g p x l) (hr : GrOk (za9 g x l)) (hx : 0<=x) {s k lv : Int} (hs : s∈p.seeds) (hsx : s≠x) (hk : k∈l) : zt8 (za9 g x l) lv s k<=1:=by
 have hxl : x∉l:=λ h=>hf.ne x h rfl;have hsl : s∉l:=λ h=>hf.seed s h hs;unfold zt8;split
 .rename_i ha
  have hv:=zs5 (lv:=lv) (a:=s) (b:=k) hr;have e : (2+2*((za9 g x l).size.toNat : Int))=((2+2*(za9 g x l).size.toNat : Nat) : Int):=by omega
  have hv2 : zbF ⟨((2+2*(za9 g x l).size.toNat : Nat) : Int),netP (za9 g x l) lv s k⟩:=by
   rw [<- e];exact hv
  refine Int.le_trans (zvb (zfK hv2) (S:=farS x l) ?_ ?_) ?_
  .rw [zvi]
   rintro (h | h | ⟨r,h1,h⟩)
   .omega
   .omega
   .have:=hf.rng r h1; omega
  .rw [ztq]; exact .inl rfl
  .rw [ziI]
   unfold netP;rw [List.map_append,List.sum_append,zj2 (l:=(za9 g x l).edges.flatMap _)]
   .have:=zv3 (x:=x) (l:=l) (a:=s) (b:=k) (za9 g x l).size.toNat
    split at this <;> omega
   .intro c hc
    obtain ⟨d,hd,hc⟩:=List.mem_flatMap.1 hc;rw [if_neg]
    rintro ⟨h1,h2⟩
    unfold arcP at hc;split at hc
    .exact (List.not_mem_nil hc).elim
    rename_i hno;rw [List.mem_singleton] at hc;subst hc;simp only at h1 h2;have hfd:=hr.fits d hd;unfold Fits at hfd
    have hend : d.t∈l:=by
     rw [ztq] at h2;split at h2
     .rename_i h3; rw [h3]; exact hk
     .rcases h2 with h2 | h2 | ⟨r,h3,h2⟩
      .omega
      .omega
      .rw [show d.t=r by omega]; exact h3
    have hbeg : d.f=x∨d.f∈l:=by
     rcases zep.1 hd with h | h
     .exact absurd rfl (hf.edge _ hend d h).2
     .rcases (zli h).2 with h | h | h
      .exact .inl h.1
      .exact absurd (h.1 ▸ hend) hxl
      .exact .inr h.1
    rw [zvi] at h1;apply h1
    rw [if_neg (by
     rintro h3
     rcases hbeg with h | h
     .exact hsx (h3.symm.trans h)
     .exact hsl (h3 ▸ h))]
    rcases hbeg with h | h
    .exact .inr (.inl (by rw [h]))
    .exact .inr (.inr ⟨_,h,.inr rfl⟩)
 .omega
theorem zt9 {g : Gr} (hg : GrOk g) (h9 : g.size<=9) : g.edges.length<=81:=by
 have hn : (g.edges.map λ e=>e.f*9+e.t).Nodup:=by
  rw [List.Nodup,List.pairwise_map];refine hg.pair.imp_of_mem λ {a b} ha hb hab=>?_;have h1:=hg.fits a ha;have h2:=hg.fits b hb;unfold Fits at h1 h2;unfold Bef at hab;omega
 have:=zbo (b:=(List.range 81).map λ i : Nat=>(i : Int)) hn λ x hx=>by
  obtain ⟨e,he,rfl⟩:=List.mem_map.1 hx;have h1:=hg.fits e he;unfold Fits at h1;exact List.mem_map.2 ⟨(e.f*9+e.t).toNat,List.mem_range.2 (by omega),by omega⟩
 simpa using this
theorem zwo (g : Gr) (lv a b : Int) : zaj Tryz.prog zhf [eG g,.I lv,.I a,.I b] [] (.B (decide (zkw g lv a b))) []:=by
 refine zpM.ac ?_;show awp _ 0 _ _ ⟨40,[(0,eG g),(1,.I lv),(2,.I a),(3,.I b)],[],16⟩;refine rs [1,2,3,4] [] [16] ?_;refine zaa ⟨40,[(8,.B (decide (zkw g lv a b)))],[],900⟩ rfl ?_ ?_
 .simp
  repeat' first
   | (refine zen (λ hb=>?_) (λ hb=>?_) <;> (try rw [hb]) <;> (try simp at hb) <;> simp [hb])
  all_goals exact Le.snap [] rfl rfl (by simp <;> exact wkB (by (try simp at *); grind [zkw]))
 refine zah ?_;exact ⟨.inr rfl,zao.one (by simp)⟩
set_option maxRecDepth 100000 in
set_option maxHeartbeats 8000000 in
theorem zoz (g : Gr) (lv a b : Int) (hg : GrOk g) : zaj Tryz.prog zjG [eG g,.I lv,.I a,.I b] [] (.I (zt8 g lv a b)) []:=by
 refine zr4.ac ?_;show awp _ 0 _ _ ⟨129,[(0,eG g),(1,.I lv),(2,.I a),(3,.I b)],[],16⟩;have hprop:=zwo g lv a b;have hel:=hg.edges_le;have hgl:=hg.gone_le;refine zaa ⟨129,[(1,.I lv),(2,.I a),(3,.I b),(4,.pt 16 0 0)],[(16,some ⟨3,[gC g],0⟩)],100⟩ rfl ?_ ?_
 .simp
  exact LeH [(16,16)] []
 refine zab ?_;refine zaa ⟨129,[(1,.I lv),(2,.I a),(3,.I b),(4,.pt 16 0 0),(21,.B (!decide (zkw g lv a b)))],[(16,some ⟨3,[gC g],0⟩)],300⟩ rfl ?_ ?_
 .simp
  refine zaq hprop (by simp) ?_
  simp;exact LeH [(16,16)] []
 refine zac _ rfl (λ hc=>?_) λ hc=>?_
 .have hno : ¬ zkw g lv a b:=by simpa using hc
  have hm : zt8 g lv a b=0:=if_neg hno;refine rs [8] [] [] ?_;refine zah ?_;exact ⟨.inr rfl,zao.one (by simp [hm])⟩
 have hy : zkw g lv a b:=by simpa using hc
 have hm : zt8 g lv a b=maxF (2+2*g.size.toNat) (netP g lv a b):=if_pos hy;have hval:=zs5 (lv:=lv) (a:=a) (b:=b) hg;have e : ((2+2*g.size.toNat : Nat) : Int)=2+2*(g.size.toNat : Int):=by omega
 have hval2 : zbF ⟨((2+2*g.size.toNat : Nat) : Int),netP g lv a b⟩:=by rw [e]; exact hval
 obtain ⟨f,⟨hf1,hf2⟩,hmax⟩:=zyV (2+2*g.size.toNat) (netP g lv a b) hval2;have hfv:=zhR (f:=f) hval2 hf1;rw [<- zhB hf1 hf2,<- hm] at hfv;rw [e] at hmax hfv;have hfn : f.length=(netP g lv a b).length:=hf1.fit.len;have hflat:=zus g lv a b;have hlev:=ze5 g lv (by omega) (by omega)
 have hs0:=hg.1.1;have hs1:=hg.1.2.1;obtain ⟨n,hn⟩ : ∃ n : Nat,g.size=n:=⟨g.size.toNat,by omega⟩
 have hnn : g.size.toNat=n:=by omega
 have hGf : ∀ e∈(zai g lv).edges,Fits g e/\¬ e.v<lv:=λ e he=>by
  have h1:=List.mem_filter.1 he;exact ⟨hg.fits e h1.1,by simpa using h1.2⟩
 have hGs : (zai g lv).size=n:=by show g.size=n; exact hn
 have hGl : (zai g lv).edges.length<=500:=Nat.le_trans (List.length_filter_le _ _) hel;have hnetD : netP g lv a b=innA a b n++(zai g lv).edges.flatMap (arcP lv a b):=by rw [hflat,<- hnn]; rfl
 rw [hnn] at hmax hfv;obtain ⟨G,hGd⟩ : ∃ G,G=zai g lv:=⟨_,rfl⟩;rw [<- hGd] at hlev hGf hGs hGl hnetD;have hw1 : IntKind.i64.wrap (2*(n : Int))=2*n:=w6;have hw2 : IntKind.i64.wrap (2+2*(n : Int))=2+2*n:=w6;refine zad ?_;refine zaa ⟨129,[(1,.I lv),(2,.I a),(3,.I b),(4,.pv (gC G))],[],500⟩ rfl ?_ ?_
 .simp
  refine zaq hlev (by simp) ?_
  simp;exact LeH [] [16]
 refine zaa ⟨129,[(1,.I lv),(2,.I a),(3,.I b),(4,.pv (gC G)),(9,.pt 50 0 0)],[(50,some ⟨2,[[.I (2+2*(n : Int)),.nilS]],0⟩)],600⟩ rfl ?_ ?_
 .simp [hGs,hw1,hw2,zmB]
  exact LeH [(540,50)] []
 have hIT : ∀ (k : Nat) (f : Ed->List AV),((innA a b k).map f).take (innA a b k).length=(innA a b k).map f:=λ k f=>List.take_of_length_le (by simp)
 refine zaT (ι:=Unit) (λ _=>⟨129,[(1,.I lv),(2,.I a),(3,.I b),(4,.pv (gC G)),(9,.pt 50 0 0)],[(50,some ⟨2,[[.I (2+2*(n : Int)),.rs 51 0 (innA a b n).length]],0⟩),(51,some ⟨3,zaG (innA a b n),0⟩)],5000⟩) (λ _=>True) ?_ λ _ _=>?_
 .refine zaa ⟨129,[(1,.I lv),(2,.I a),(3,.I b),(4,.pv (gC G)),(9,.pt 50 0 0),(10,.I 0)],[(50,some ⟨2,[[.I (2+2*(n : Int)),.nilS]],0⟩)],700⟩ rfl ?_ ?_
  .simp
   exact LeH [(50,50)] []
  refine zae ?_;refine zat (ι:=Nat) (λ i=>⟨129,[(1,.I lv),(2,.I a),(3,.I b),(4,.pv (gC G)),(9,.pt 50 0 0),(10,.I i)],[(50,some ⟨2,[[.I (2+2*(n : Int)),.rs 51 0 (innA a b i).length]],0⟩),(51,some ⟨3,zaG (innA a b i),0⟩)],1000⟩) (λ i=>i<=n) (λ i=>n - i) 0 (Nat.zero_le _) ?_ ?_
  .exact Le.lst [(50,50)] [] [(51,3)] rfl (by simp) (by simp) (by simp) (by simp) (by simp) (by simp) (by simp) (by simp [Up]) (by simp [fcd,innA]; exact zaQ.row rfl (by omega) (by simp [UpL,Up,Wk.refl]))
  intro i hi;refine zab ?_;refine zaa ⟨129,[(1,.I lv),(2,.I a),(3,.I b),(4,.pv (gC G)),(9,.pt 50 0 0),(10,.I i),(33,.B (decide (i<n)))],[(50,some ⟨2,[[.I (2+2*(n : Int)),.rs 51 0 (innA a b i).length]],0⟩),(51,some ⟨3,zaG (innA a b i),0⟩)],1100⟩ rfl ?_ ?_
  .simp [hGs]
   exact LeI [(50,50),(51,51)] []
  refine zac _ rfl (λ hc=>?_) λ hc=>?_
  .rw [decide_eq_true_eq] at hc
   have hwi : IntKind.i64.wrap ((i : Int)+1)=(i : Int)+1:=w6;have hw3 : IntKind.i64.wrap (2*(i : Int))=2*i:=w6;have hw4 : IntKind.i64.wrap (2+2*(i : Int))=2+2*i:=w6;have hw5 : IntKind.i64.wrap (3+2*(i : Int))=3+2*i:=w6;have hsu:=zmb (a:=a) (b:=b) i;have hle:=zoX (a:=a) (b:=b) i;have hIT2:=hIT i;obtain ⟨I,hI⟩ : ∃ I,I=innA a b i:=⟨_,rfl⟩;rw [<- hI] at hsu hle hIT2;refine zad ?_;refine zaT (ι:=Unit) (λ _=>⟨129,[(1,.I lv),(2,.I a),(3,.I b),(4,.pv (gC G)),(9,.pt 50 0 0),(10,.I i)],[(50,some ⟨2,[[.I (2+2*(n : Int)),.rs 51 0 (innA a b (i+1)).length]],0⟩),(51,some ⟨3,zaG (innA a b (i+1)),0⟩)],4000⟩) (λ _=>True) ?_ λ _ _=>?_
   .refine zae ?_
    refine zaa ⟨129,[(1,.I lv),(2,.I a),(3,.I b),(4,.pv (gC G)),(9,.pt 50 0 0),(10,.I i),(43,.B (decide ((i : Int)≠a/\(i : Int)≠b)))],[(50,some ⟨2,[[.I (2+2*(n : Int)),.rs 51 0 (I).length]],0⟩),(51,some ⟨3,zaG (I),0⟩)],1500⟩ rfl ?_ ?_
    .by_cases h1 : (i : Int)=a
     .have hb1 : ((i : Int) != a)=false:=by simp [h1]
      simp [hb1];exact Le.go [(50,50),(51,51)] [] rfl rfl (by simp [h1,hI]) (by simp [fcd,hI])
     .have hb1 : ((i : Int) != a)=true:=by simp [h1]
      simp [hb1];exact Le.go [(50,50),(51,51)] [] rfl rfl (by simp [h1,hI] <;> exact wkB (by rw [Bool.eq_iff_iff]; simp)) (by simp [fcd,hI])
    refine zac _ rfl (λ hq=>?_) λ hq=>?_
    .rw [decide_eq_true_eq] at hq
     rw [if_pos hq] at hsu;refine zay rfl ?_;simp [zmB,zjt,hw3,hw4,hw5];refine ⟨by omega,by omega,?_⟩
     rw [hsu];exact Le.go [(50,50),(1580,51)] [] rfl rfl (by simp) (by simp [fcd,hIT2])
    .rw [decide_eq_false_iff_not] at hq
     rw [if_neg hq,List.append_nil] at hsu;refine zad ?_;refine ⟨(),trivial,?_⟩;rw [hsu];exact LeI [(50,50),(51,51)] []
   refine zap (s:=?z42) rfl ?p42 ?r42
   case p42=>simp [hwi]; rfl
   exact ⟨i+1,by omega,by omega,LeI [(50,50),(51,51)] []⟩
  .rw [decide_eq_false_iff_not] at hc
   obtain rfl : i=n:=by omega
   refine zar ?_;refine hit ?_;exact ⟨(),trivial,LeI [(50,50),(51,51)] []⟩
 obtain ⟨J,hJ⟩ : ∃ J,J=λ i=>innA a b n++(G.edges.take i).flatMap (arcP lv a b):=⟨_,rfl⟩;have hJ0 : J 0=innA a b n:=by rw [hJ]; simp
 have hJn : J G.edges.length=netP g lv a b:=by rw [hJ,hnetD]; simp only [List.take_length]
 have hJl : ∀ i,(J i).length<=1000:=λ i=>by
  rw [hJ];have h1:=zoX (a:=a) (b:=b) n;have h2:=zm6 (lv:=lv) (a:=a) (b:=b) (G.edges.take i);have h3:=List.length_take_le' i G.edges;simp only [List.length_append];omega
 have hJs : ∀ i (h : i<G.edges.length),J (i+1)=J i++arcP lv a b G.edges[i]:=λ i h=>by
  rw [hJ];simp only;rw [zum h,List.append_assoc]
 refine zaT (ι:=Unit) (λ _=>⟨129,[(9,.pt 50 0 0)],[(50,some ⟨2,[[.I (2+2*(n : Int)),.rs 51 0 (J G.edges.length).length]],0⟩),(51,some ⟨3,zaG (J G.edges.length),0⟩)],20000⟩) (λ _=>True) ?_ λ _ _=>?_
 .refine zaa ⟨129,[(1,.I lv),(2,.I a),(3,.I b),(4,.pv (gC G)),(9,.pt 50 0 0),(11,.I 0)],[(50,some ⟨2,[[.I (2+2*(n : Int)),.rs 51 0 (J 0).length]],0⟩),(51,some ⟨3,zaG (J 0),0⟩)],5300⟩ rfl ?_ ?_
  .simp
   exact Le.go [(50,50),(51,51)] [] rfl rfl (by simp) (by simp [fcd,hJ0])
  refine zae ?_;refine zat (ι:=Nat) (λ i=>⟨129,[(1,.I lv),(2,.I a),(3,.I b),(4,.pv (gC G)),(9,.pt 50 0 0),(11,.I i)],[(50,some ⟨2,[[.I (2+2*(n : Int)),.rs 51 0 (J i).length]],0⟩),(51,some ⟨3,zaG (J i),0⟩)],6000⟩) (λ i=>i<=G.edges.length) (λ i=>G.edges.length - i) 0 (Nat.zero_le _) (LeI [(50,50),(51,51)] []) ?_;intro i hi;refine zab ?_;refine zaa ⟨129,[(1,.I lv),(2,.I a),(3,.I b),(4,.pv (gC G)),(9,.pt 50 0 0),(11,.I i),(60,.B (decide (i<G.edges.length)))],[(50,some ⟨2,[[.I (2+2*(n : Int)),.rs 51 0 (J i).length]],0⟩),(51,some ⟨3,zaG (J i),0⟩)],6100⟩ rfl ?_ ?_
  .simp
   exact LeI [(50,50),(51,51)] []
  refine zac _ rfl (λ hc=>?_) λ hc=>?_
  .rw [decide_eq_true_eq] at hc
   have hwi : IntKind.i64.wrap ((i : Int)+1)=(i : Int)+1:=w6;have hfit:=hGf G.edges[i] (List.getElem_mem hc);have hsu:=hJs i hc;have hle:=hJl i;obtain ⟨e,he⟩ : ∃ e,e=G.edges[i]:=⟨_,rfl⟩;rw [<- he] at hfit hsu;obtain ⟨hfit,hlvl⟩:=hfit;unfold Fits at hfit;obtain ⟨I,hI⟩ : ∃ I,I=J i:=⟨_,rfl⟩;rw [<- hI] at hsu hle;have hIT2 : ∀ f : Ed->List AV,(I.map f).take I.length=I.map f:=λ f=>List.take_of_length_le (by simp)
   have hv1 : IntKind.i64.wrap (2*e.f)=2*e.f:=w6;have hv2 : IntKind.i64.wrap (3+2*e.f)=3+2*e.f:=w6;have hv3 : IntKind.i64.wrap (2*e.t)=2*e.t:=w6;have hv4 : IntKind.i64.wrap (2+2*e.t)=2+2*e.t:=w6;obtain ⟨u,hu⟩ : ∃ u,u=if e.f=a then 0 else 3+2*e.f:=⟨_,rfl⟩
   obtain ⟨w,hw⟩ : ∃ w,w=if e.t=b then 1 else 2+2*e.t:=⟨_,rfl⟩
   have hap : arcP lv a b e=if e.t≠a/\e.f≠b then [⟨u,w,1⟩] else []:=by
    unfold arcP
    by_cases h1 : e.t=a
    .rw [if_pos (.inr (.inl h1)),if_neg (λ q=>q.1 h1)]
    .by_cases h2 : e.f=b
     .rw [if_pos (.inr (.inr h2)),if_neg (λ q=>q.2 h2)]
     .rw [if_neg (by simp [hlvl,h1,h2]),<- hu,<- hw]
      exact (if_pos ⟨h1,h2⟩).symm
   rw [hap] at hsu;refine zad ?_;refine zaT (ι:=Unit) (λ _=>⟨129,[(1,.I lv),(2,.I a),(3,.I b),(4,.pv (gC G)),(9,.pt 50 0 0),(11,.I i)],[(50,some ⟨2,[[.I (2+2*(n : Int)),.rs 51 0 (J (i+1)).length]],0⟩),(51,some ⟨3,zaG (J (i+1)),0⟩)],18000⟩) (λ _=>True) ?_ λ _ _=>?_
   .refine zae ?_
    refine zaE ⟨129,[(1,.I lv),(2,.I a),(3,.I b),(4,.pv (gC G)),(9,.pt 50 0 0),(11,.I i),(12,.I (3+2*e.f)),(13,.I (2+2*e.t))],[(50,some ⟨2,[[.I (2+2*(n : Int)),.rs 51 0 (I).length]],0⟩),(51,some ⟨3,zaG (I),0⟩)],6500⟩ rfl ?_ ?_
    .simp [hc,<- he,hv1,hv2,hv3,hv4]
     exact ⟨rfl,Le.go [(50,50),(51,51)] [] rfl rfl (by simp [hI]) (by simp [fcd,hI])⟩
    refine zaT (ι:=Unit) (λ _=>⟨129,[(1,.I lv),(2,.I a),(3,.I b),(4,.pv (gC G)),(9,.pt 50 0 0),(11,.I i),(12,.I u),(13,.I (2+2*e.t))],[(50,some ⟨2,[[.I (2+2*(n : Int)),.rs 51 0 (I).length]],0⟩),(51,some ⟨3,zaG (I),0⟩)],8000⟩) (λ _=>True) ?_ λ _ _=>?_
    .refine zaa ⟨129,[(1,.I lv),(2,.I a),(3,.I b),(4,.pv (gC G)),(9,.pt 50 0 0),(11,.I i),(12,.I (3+2*e.f)),(13,.I (2+2*e.t)),(86,.B (decide (e.f=a)))],[(50,some ⟨2,[[.I (2+2*(n : Int)),.rs 51 0 (I).length]],0⟩),(51,some ⟨3,zaG (I),0⟩)],7000⟩ rfl ?_ ?_
     .simp [hc,<- he]
      exact Le.go [(50,50),(51,51)] [] rfl rfl (by simp <;> exact wkB (by rw [Bool.eq_iff_iff]; simp)) (by simp [fcd])
     refine zac _ rfl (λ h1=>?_) λ h1=>?_
     .rw [decide_eq_true_eq] at h1
      rw [if_pos h1] at hu;refine zay rfl ?_;simp;exact Le.go [(50,50),(51,51)] [] rfl rfl (by simp [hu]) (by simp [fcd])
     .rw [decide_eq_false_iff_not] at h1
      rw [if_neg h1] at hu;refine zad ?_;exact ⟨(),trivial,Le.go [(50,50),(51,51)] [] rfl rfl (by simp [hu]) (by simp [fcd])⟩
    refine zaT (ι:=Unit) (λ _=>⟨129,[(1,.I lv),(2,.I a),(3,.I b),(4,.pv (gC G)),(9,.pt 50 0 0),(11,.I i),(12,.I u),(13,.I w)],[(50,some ⟨2,[[.I (2+2*(n : Int)),.rs 51 0 (I).length]],0⟩),(51,some ⟨3,zaG (I),0⟩)],11000⟩) (λ _=>True) ?_ λ _ _=>?_
    .refine zaa ⟨129,[(1,.I lv),(2,.I a),(3,.I b),(4,.pv (gC G)),(9,.pt 50 0 0),(11,.I i),(12,.I u),(13,.I (2+2*e.t)),(94,.B (decide (e.t=b)))],[(50,some ⟨2,[[.I (2+2*(n : Int)),.rs 51 0 (I).length]],0⟩),(51,some ⟨3,zaG (I),0⟩)],9000⟩ rfl ?_ ?_
     .simp [hc,<- he]
      exact Le.go [(50,50),(51,51)] [] rfl rfl (by simp <;> exact wkB (by rw [Bool.eq_iff_iff]; simp)) (by simp [fcd])
     refine zac _ rfl (λ h1=>?_) λ h1=>?_
     .rw [decide_eq_true_eq] at h1
      rw [if_pos h1] at hw;refine zay rfl ?_;simp;exact Le.go [(50,50),(51,51)] [] rfl rfl (by simp [hw]) (by simp [fcd])
     .rw [decide_eq_false_iff_not] at h1
      rw [if_neg h1] at hw;refine zad ?_;exact ⟨(),trivial,Le.go [(50,50),(51,51)] [] rfl rfl (by simp [hw]) (by simp [fcd])⟩
    refine zaa ⟨129,[(1,.I lv),(2,.I a),(3,.I b),(4,.pv (gC G)),(9,.pt 50 0 0),(11,.I i),(12,.I u),(13,.I w),(112,.B (decide (e.t≠a/\e.f≠b)))],[(50,some ⟨2,[[.I (2+2*(n : Int)),.rs 51 0 (I).length]],0⟩),(51,some ⟨3,zaG (I),0⟩)],12000⟩ rfl ?_ ?_
    .by_cases h1 : e.t=a
     .have hb1 : (e.t != a)=false:=by simp [h1]
      simp [hc,<- he,hb1];exact Le.go [(50,50),(51,51)] [] rfl rfl (by simp [h1]) (by simp [fcd])
     .have hb1 : (e.t != a)=true:=by simp [h1]
      simp [hc,<- he,hb1];exact Le.go [(50,50),(51,51)] [] rfl rfl (by simp [h1] <;> exact wkB (by rw [Bool.eq_iff_iff]; simp)) (by simp [fcd])
    refine zac _ rfl (λ hq=>?_) λ hq=>?_
    .rw [decide_eq_true_eq] at hq
     rw [if_pos hq] at hsu;refine zay rfl ?_;simp [zmB,zjt];refine ⟨by omega,by omega,?_⟩
     rw [hsu];exact Le.go [(50,50),(12048,51)] [] rfl rfl (by simp) (by simp [fcd,hIT2])
    .rw [decide_eq_false_iff_not] at hq
     rw [if_neg hq,List.append_nil] at hsu;refine zad ?_;refine ⟨(),trivial,?_⟩;rw [hsu];exact LeI [(50,50),(51,51)] []
   refine zap (s:=?z90) rfl ?p90 ?r90
   case p90=>simp [hwi]; rfl
   exact ⟨i+1,by omega,by omega,LeI [(50,50),(51,51)] []⟩
  .rw [decide_eq_false_iff_not] at hc
   obtain rfl : i=G.edges.length:=by omega
   refine zar ?_;refine hit ?_;exact ⟨(),trivial,LeI [(50,50),(51,51)] []⟩
 rw [hJn];obtain ⟨A,hA⟩ : ∃ A,A=netP g lv a b:=⟨_,rfl⟩;rw [<- hA] at hmax hfv hfn;rw [<- hA];have hAT : ∀ F : Ed->List AV,(A.map F).take A.length=A.map F:=λ F=>List.take_of_length_le (by simp)
 have hfT : ∀ F : Int->List AV,(f.map F).take A.length=f.map F:=λ F=>List.take_of_length_le (by simp [hfn])
 refine zaa ⟨129,[(9,.pv (nC ⟨2+2*(n : Int),A⟩)),(14,ints f)],[],22000⟩ rfl ?_ ?_
 .simp
  refine zu9 (j:=51) (by omega) (by simp; rfl) hmax (by simp [fcd,hAT]) ?_
  simp;exact Le.go [] [50,51,20008] rfl rfl (by simp [fcd,hAT,hfT,hfn]) (by simp)
 refine rx (s:=?z6) [8] [] [] rfl ?p6 ?r6
 case p6=>simp; refine zaq hfv (by simp) ?_; simp; rfl
 refine zah ?_;exact ⟨.inr rfl,zao.one (by simp)⟩
end Go.Proofs.YtkngdgplbojdlaaGreat
