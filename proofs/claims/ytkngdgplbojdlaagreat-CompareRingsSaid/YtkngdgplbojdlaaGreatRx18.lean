/- Texts of this claim,merged. -/
import Derived.Test.YtkngdgplbojdlaaGreatRx17
import Derived.Test.YtkngdgplbojdlaaGreatRx16
import Derived.Test.YtkngdgplbojdlaaGreatRx10
import Derived.Test.YtkngdgplbojdlaaGreatRx13
import Derived.Test.YtkngdgplbojdlaaGreatRx12
import Derived.Test.YtkngdgplbojdlaaGreatRx7
import Derived.Test.YtkngdgplbojdlaaGreatRx14
set_option linter.unusedSimpArgs false
set_option linter.unusedVariables false
set_option linter.unusedSectionVars false
namespace Go.Proofs.YtkngdgplbojdlaaGreat
open Go
section
variable {β : Type}
theorem zlk (n : Nat) (k : Nat->β) : fcN n k=k n:=by cases n <;> rfl
theorem zzr (n : Int) (k : Int->β) : fcI n k=k n:=by
 cases n <;> (unfold fcI; exact zlk _ _)
theorem zzP (v : Value) (k : Value->β) : fcV v k=k v:=by
 unfold fcV;split
 .exact zzr _ _
 .rename_i b; cases b <;> rfl
 .rfl
theorem zgw {α : Type} {f : α->(α->β)->β} (hf : ∀ x k,f x k=k x) : ∀ (l : List α) (k : List α->β),fcL f l k=k l
 | [],k=>rfl
 | x::xs,k=>by
   show f x (λ x=>fcL f xs λ xs=>k (x::xs))=_;rw [hf,zgw hf xs]
theorem zzc (d : Bool) {ih : AV->(AV->β)->β} (h : ∀ x k,ih x k=k x) (x : AV) (k : AV->β) : fcX d ih x k=k x:=by
 unfold fcX;split <;> (try split) <;> simp only [zlk,zzP,zgw h,h,zgw (zgw h)]
theorem zot (d : Bool) : ∀ (n : Nat) (x : AV) (k : AV->β),fcA d n x k=k x
 | 0,_,_=>rfl
 | n+1,x,k=>zzc d (zot d n) x k
theorem zv3 (d : Bool) (e : Ent) (k : Ent->β) : fcE d e k=k e:=by
 obtain ⟨s,rows,ro⟩:=e;simp only [fcE,zlk,zgw (zgw (zot d 5))]
theorem zxA (d : Bool) (p : Nat × Option Ent) (k : Nat × Option Ent->β) : fcO d p k=k p:=by
 obtain ⟨i,e⟩:=p
 cases e <;> simp only [fcO,zlk,zv3]
end
theorem zgH {i j : Nat} : Nat.beq i j=decide (i=j):=by
 cases h : Nat.beq i j with
 | true=>rw [decide_eq_true (Nat.eq_of_beq_eq_true h)]
 | false=>rw [decide_eq_false (Nat.ne_of_beq_eq_false h)]
theorem zvm {α : Type} : ∀ (l : List (Nat × α)) (j : Nat),lkB l j=lkp l j
 | [],_=>rfl
 | (i,x)::l,j=>by
   show Bool.rec (motive:=λ _=>Option α) (lkB l j) (some x) (Nat.beq i j)=_;rw [zvm l j,zgH,lkp]
   by_cases h : i=j
   .rw [decide_eq_true h,if_pos h]
   .rw [decide_eq_false h,if_neg h]
theorem zwm {α : Type} (o : Option (Option α)) : zAe o=o.getD none:=by cases o <;> rfl
theorem zxN (h : List (Nat × Option Ent)) (id : Nat) : hpB h id=(lkp h id).getD none:=by
 unfold hpB;rw [zvm,zwm]
theorem zju (v : AV) (l r : TS) (i : Nat) : nthA (.nd v l r) (i+1)=if i % 2=0 then nthA l (i / 2) else nthA r (i / 2):=by
 show Bool.rec (motive:=λ _=>AV) (nthA r (i / 2)) (nthA l (i / 2)) (Nat.beq (i % 2) 0)=_;rw [zgH]
 by_cases h : i % 2=0
 .rw [decide_eq_true h,if_pos h]
 .rw [decide_eq_false h,if_neg h]
theorem zoE {γ : Type} (v : AV) : ∀ (t : TS) (i : Nat),(∃ t',(∀ k : TS->Option γ,setA v t i k=k t') /\ ∀ j,nthA t' j=if i=j then v else nthA t j) ∨ ∀ k : TS->Option γ,setA v t i k=none
 | .lf,_=>.inr λ _=>rfl
 | .nd x l r,0=>.inl ⟨.nd v l r,λ _=>rfl,λ j=>by
   cases j with
   | zero=>rfl
   | succ j=>rw [if_neg (by omega),zju,zju]⟩
 | .nd x l r,i+1=>by
   have hu : ∀ k : TS->Option γ,setA v (.nd x l r) (i+1) k=Bool.rec (motive:=λ _=>Option γ) (setA v r (i / 2) λ tr'=>k (.nd x l tr')) (setA v l (i / 2) λ tl'=>k (.nd x tl' r)) (Nat.beq (i % 2) 0):=λ _=>rfl
   by_cases h : i % 2=0
   .rcases zoE (γ:=γ) v l (i / 2) with ⟨t',h1,h2⟩ | h1
    .refine .inl ⟨.nd x t' r,λ k=>by rw [hu,zgH,decide_eq_true h]; exact h1 _,λ j=>?_⟩
     cases j with
     | zero=>rw [if_neg (by omega)]; rfl
     | succ j =>
       rw [zju,zju,h2]
       by_cases hj : j % 2=0
       .rw [if_pos hj,if_pos hj]
        by_cases he : i=j
        .subst he; rw [if_pos rfl,if_pos rfl]
        .rw [if_neg (by omega),if_neg (by omega)]
       .rw [if_neg hj,if_neg hj,if_neg (by omega)]
    .exact .inr λ k=>by rw [hu,zgH,decide_eq_true h]; exact h1 _
   .rcases zoE (γ:=γ) v r (i / 2) with ⟨t',h1,h2⟩ | h1
    .refine .inl ⟨.nd x l t',λ k=>by rw [hu,zgH,decide_eq_false h]; exact h1 _,λ j=>?_⟩
     cases j with
     | zero=>rw [if_neg (by omega)]; rfl
     | succ j =>
       rw [zju,zju,h2]
       by_cases hj : j % 2=0
       .rw [if_pos hj,if_pos hj,if_neg (by omega)]
       .rw [if_neg hj,if_neg hj]
        by_cases he : i=j
        .subst he; rw [if_pos rfl,if_pos rfl]
        .rw [if_neg (by omega),if_neg (by omega)]
    .exact .inr λ k=>by rw [hu,zgH,decide_eq_false h]; exact h1 _
theorem zp0 : ∀ (n i : Nat),nthA (zuw n) i = .dead
 | 0,_=>rfl
 | n+1,0=>rfl
 | n+1,i+1=>by
   have hu : zuw (n+1) = .nd .dead (zuw n) (zuw n):=rfl;rw [hu,zju,zp0,ite_self]
theorem zvN {γ : Type} : ∀ (xs : List AV) (i : Nat) (t : TS) (k : TS->Option γ) (r : γ),argT xs i t k=some r -> ∃ t',k t'=some r /\ ∀ j,nthA t' j=if i<=j/\j<i+xs.length then xs.getD (j - i) .dead else nthA t j
 | [],i,t,k,r,h=>⟨t,h,λ j=>by rw [if_neg (by simp)]⟩
 | x::xs,i,t,k,r,h=>by
   have h : setA x t i (λ t'=>argT xs (i+1) t' k)=some r:=h;rcases zoE (γ:=γ) x t i with ⟨t1,h1,h2⟩ | h1
   .rw [h1] at h
    obtain ⟨t2,h3,h4⟩:=zvN xs (i+1) t1 k r h;refine ⟨t2,h3,λ j=>?_⟩;rw [h4,h2];simp only [List.length_cons]
    by_cases hj : i=j
    .subst hj
     rw [if_neg (by omega),if_pos rfl,if_pos (by omega),Nat.sub_self]
     rfl
    .by_cases hr : i<=j/\j<i+(xs.length+1)
     .rw [if_pos (by omega),if_pos hr,show j - i=(j - (i+1))+1 by omega]
      rfl
     .rw [if_neg (by omega),if_neg hj,if_neg hr]
   .rw [h1] at h
    cases h
theorem zrB (i : Nat) : ∀ (l : List (Nat × Option Ent)),∃ l',(∀ k,ersH i l k=k l') /\ ∀ j,lkp l' j=if j=i then none else lkp l j
 | []=>⟨[],λ _=>rfl,λ j=>by simp [lkp]⟩
 | (j,e)::l=>by
   obtain ⟨l',h1,h2⟩:=zrB i l;have hu : ∀ k,ersH i ((j,e)::l) k=Bool.rec (motive:=λ _=>Rr) (ersH i l λ l'=>k ((j,e)::l')) (ersH i l k) (Nat.beq j i):=λ _=>rfl
   by_cases hj : j=i
   .refine ⟨l',λ k=>by rw [hu,zgH,decide_eq_true hj]; exact h1 k,λ j'=>?_⟩
    rw [h2]
    by_cases hj' : j'=i
    .simp [hj']
    .have : j≠j':=λ e=>hj' (e ▸ hj)
     simp [hj',lkp,this]
   .refine ⟨(j,e)::l',λ k=>by rw [hu,zgH,decide_eq_false hj]; exact h1 _,λ j'=>?_⟩
    simp only [lkp]
    by_cases hj' : j=j'
    .subst hj'; simp [hj]
    .simp [hj',h2]
theorem zrG : ∀ (up h : List (Nat × Option Ent)),∃ h',(∀ k,updH up h k=k h') /\ ∀ id,(lkp h' id).getD none=(lkp (up++h) id).getD none
 | [],h=>⟨h,λ _=>rfl,λ _=>rfl⟩
 | (i,none)::up,h=>by
   obtain ⟨h1,q1,q2⟩:=zrG up h;obtain ⟨h2,r1,r2⟩:=zrB i h1;refine ⟨h2,λ k=>by show updH up h (λ h=>ersH i h (updK (i,none) k))=_; rw [q1,r1]; rfl,λ id=>?_⟩
   rw [r2,List.cons_append,lkp]
   by_cases hi : i=id
   .subst hi; simp
   .rw [if_neg (λ e=>hi e.symm),if_neg hi,q2]
 | (i,some e)::up,h=>by
   obtain ⟨h1,q1,q2⟩:=zrG up h;obtain ⟨h2,r1,r2⟩:=zrB i h1;refine ⟨(i,some e)::h2,λ k=>by show updH up h (λ h=>ersH i h (updK (i,some e) k))=_; rw [q1,r1]; rfl,λ id=>?_⟩
   rw [List.cons_append,lkp,lkp]
   by_cases hi : i=id
   .subst hi; simp
   .rw [if_neg hi,if_neg hi,r2,if_neg (λ e=>hi e.symm),q2]
theorem zun (t : TS) : ∀ xs : List Opd,evXs t xs=xs.map (·.ev (nthA t))
 | []=>rfl
 | x::xs=>by
   show x.ev (nthA t)::evXs t xs=_;rw [zun t xs];rfl
theorem zsX : ∀ xs : List AV,zwN xs=true -> ∀ x∈xs,∃ v,x = .sc v
 | [],_,x,hx=>(List.not_mem_nil hx).elim
 | y::xs,h,x,hx=>by
   have hu : zwN (y::xs)=Bool.rec (motive:=λ _=>Bool) false (zwN xs) (scB y):=rfl;rw [hu] at h
   cases hy : scB y with
   | false=>rw [hy] at h; cases h
   | true =>
     rw [hy] at h;rcases List.mem_cons.1 hx with rfl | hx
     .unfold scB at hy
      split at hy
      .exact ⟨_,rfl⟩
      .cases hy
     .exact zsX xs h x hx
theorem zuM (k : IntKind) : modF k=2 ^ k.bits:=by cases k <;> rfl
theorem zxj (k : IntKind) : ziY k=2 ^ (k.bits - 1):=by cases k <;> rfl
theorem zsW (k : IntKind) : modF k=2*ziY k/\0<ziY k:=by cases k <;> exact ⟨rfl,by decide⟩
theorem zvT (k : IntKind) (n : Int) : (natF k n : Int)=n % ((2 ^ k.bits : Nat) : Int):=by
 have h0 : 0<modF k:=by have:=zsW k; omega
 rw [<- zuM]
 cases n with
 | ofNat m=>simp [natF]
 | negSucc m =>
   simp only [natF];generalize hM : modF k=M at *;have h1:=Nat.div_add_mod m M;have h2:=Nat.mod_lt m h0
   have h3 : Int.negSucc m=((M - 1 - m % M : Nat) : Int)+(M : Int)*(-((m / M : Nat) : Int) - 1):=by
    rw [Int.negSucc_eq];have h4 : ((M - 1 - m % M : Nat) : Int)=(M : Int) - 1 - ((m % M : Nat) : Int):=by omega
    have h5 : (m : Int)=(M : Int)*((m / M : Nat) : Int)+((m % M : Nat) : Int):=by exact_mod_cast h1.symm
    rw [h4,h5,Int.mul_sub,Int.mul_neg];have h6 : ((M*(m / M)+m % M : Nat) : Int)=(m : Int):=by exact_mod_cast h1
    omega
   rw [h3,Int.add_mul_emod_self_left,Int.emod_eq_of_lt (by omega) (by omega)]
theorem zx8 (k : IntKind) (r : Nat) (hr : r<modF k) : cutF k.signed (modF k) (ziY k) r=if k.signed && decide ((r : Int)≥(2 ^ (k.bits - 1) : Int)) then (r : Int) - (2 ^ k.bits : Int) else r:=by
 have e1 : (2 ^ k.bits : Int)=((modF k : Nat) : Int):=by rw [zuM]; norm_cast
 have e2 : (2 ^ (k.bits - 1) : Int)=((ziY k : Nat) : Int):=by rw [zxj]; norm_cast
 rw [e1,e2];unfold cutF
 have e3 : (decide ((r : Int)≥((ziY k : Nat) : Int)))=Nat.ble (ziY k) r:=by
  rw [Bool.eq_iff_iff,decide_eq_true_eq,Nat.ble_eq];omega
 rw [e3]
 cases hc : (k.signed && Nat.ble (ziY k) r) with
 | true =>
   simp only [cond_true,if_true];rw [Int.negSucc_eq];omega
 | false=>simp
theorem zlS (k : IntKind) (n : Int) : zm5 k n=k.wrap n:=by
 have h2:=zsW k;have e1 : (2 ^ k.bits : Int)=((2 ^ k.bits : Nat) : Int):=by norm_cast
 have hlt : natF k n<modF k:=by cases n <;> simp only [natF] <;> first | exact Nat.mod_lt _ (by omega) | omega
 have main : cutF k.signed (modF k) (ziY k) (natF k n)=k.wrap n:=by
  rw [zx8 k _ hlt];unfold IntKind.wrap;simp only;rw [zvT,<- e1]
 rw [<- main]
 cases n with
 | ofNat m =>
   simp only [zm5,natF]
   cases hb : Nat.blt m (ziY k) with
   | true =>
     have hm : m<ziY k:=by simpa [Nat.blt_eq] using hb
     rw [cond_true,Nat.mod_eq_of_lt (by omega)]
     unfold cutF
     have : Nat.ble (ziY k) m=false:=by
      cases h : Nat.ble (ziY k) m with
      | false=>rfl
      | true=>have:=nbz h; omega
     rw [this,Bool.and_false,cond_false]
   | false=>rfl
 | negSucc m=>rfl
theorem zsr (n : Nat) : (2 : Int) ^ n=Int.ofNat (Nat.pow 2 n):=by
 show (2 : Int) ^ n=((2 ^ n : Nat) : Int)
 norm_cast
theorem zzQ {k k' : IntKind} : Nat.beq (kN k) (kN k')=decide (k=k'):=by cases k <;> cases k' <;> rfl
theorem zup (a b : Int) : ltF a b=decide (a<b):=by
 unfold ltF
 cases a <;> cases b <;> simp only <;> rw [Bool.eq_iff_iff] <;> simp [Nat.blt_eq] <;> omega
theorem zxr (a b : Int) : eqF a b=(a == b):=by
 unfold eqF
 cases a <;> cases b <;> simp only [zgH] <;> rw [Bool.eq_iff_iff] <;> simp <;> omega
theorem zvG (m n : Nat) : minF m n=min m n:=by
 unfold minF
 cases h : Nat.ble m n with
 | true=>have:=nbz h; rw [cond_true]; omega
 | false =>
   have : ¬ m<=n:=λ h2=>by rw [Nat.ble_eq_true_of_le h2] at h; cases h
   rw [cond_false]; omega
theorem zvO (k k' : IntKind) (a b : Int) : shlF k a b=binV .shl (.int k a) (.int k' b):=by
 unfold shlF
 cases b with
 | ofNat n=>simp only [binV,zlS,zsr,zvG]; simp
 | negSucc n=>simp only [binV]; rw [if_neg (by omega)]
theorem zuI (k k' : IntKind) (a b : Int) : shrF k a b=binV .shr (.int k a) (.int k' b):=by
 unfold shrF
 cases b with
 | ofNat n =>
   simp only [binV,zsr,zvG];rw [if_pos (by simp)]
   cases a with
   | ofNat m =>
     have h : ∀ q : Nat,(Int.ofNat m).fdiv (Int.ofNat q)=Int.ofNat (m / q):=λ q=>(Int.ofNat_fdiv m q).symm;simp only [h];rfl
   | negSucc m=>rfl
 | negSucc n=>simp only [binV]; rw [if_neg (by omega)]
theorem zxR (k : IntKind) (a b : Int) : quoF k a b=binV .quo (.int k a) (.int k b):=by
 unfold quoF;split
 .simp only [binV,if_true,zlS]
  rw [if_neg (by simp; omega)]
  cases a <;> rfl
 .rfl
theorem zyt (k : IntKind) (a b : Int) : remF k a b=binV .rem (.int k a) (.int k b):=by
 unfold remF;split
 .simp only [binV,if_true]
  rw [if_neg (by simp; omega)]
  cases a <;> rfl
 .rfl
theorem zxX (op : BinOp) (k : IntKind) (a b : Int) : intF op k a b=binV op (.int k a) (.int k b):=by
 have hb : ∀ z : Int,(BitVec.ofInt k.bits z).toNat=natF k z:=λ z=>by
  have h1:=BitVec.toNat_ofInt (n:=k.bits) z;rw [h1];have h2:=zvT k z;omega
 unfold intF
 cases op <;> simp only [zvO k k,zuI k k,zxR,zyt] <;> (try rfl)
 all_goals simp only [binV,if_true,zlS,zup,zxr]
 all_goals first
  | rfl
  | (simp only [BitVec.toNat_and,BitVec.toNat_or,BitVec.toNat_xor,hb]; rfl)
  | (congr 2; rw [Bool.eq_iff_iff]; simp)
  | (congr 2; rw [Bool.eq_iff_iff]; simp; done)
theorem zyC (op : BinOp) (x y : Value) : binF op x y=binV op x y:=by
 unfold binF;split
 .rename_i k a
  split
  .rename_i k' b
   rw [zzQ]
   by_cases h : k=k'
   .subst h
    rw [decide_eq_true rfl,cond_true,zxX]
   .rw [decide_eq_false h,cond_false]
    unfold mixF;split
    .exact zvO _ _ _ _
    .exact zuI _ _ _ _
    .rfl
  .rfl
 .rfl
theorem zmT : ∀ (n : Nat) (x : AV),zli n x=true->Plain x
 | 0,_,h=>by cases h
 | n+1,x,h=>by
   have ih:=zmT n
   have hl : ∀ xs : List AV,xs.all (zli n)=true -> ∀ i : Nat,Plain (xs.getD i .dead):=by
    intro xs hx i;simp only [List.getD]
    cases hi : xs[i]? with
    | none=>exact .dead
    | some y=>exact ih y (List.all_eq_true.1 hx y (List.mem_of_getElem? hi))
   unfold zli at h;split at h
   .exact .dead
   .exact .sc _
   .exact .agg _ (hl _ h)
   .exact .tup _ (hl _ h)
   .exact .rs _ _ _
   .exact .pt _ _ _
   .exact .mp _
   .cases h
theorem WkL.self : ∀ xs : List AV,WkL xs xs
 | []=>trivial
 | x::xs=>⟨.refl x,WkL.self xs⟩
theorem zm3 : ∀ l : List Nat,zqE l=true->l.Nodup
 | [],_=>List.nodup_nil
 | i::is,h=>by
   simp only [zqE,Bool.and_eq_true,Bool.not_eq_true',List.contains_eq_mem,decide_eq_false_iff_not] at h;exact List.nodup_cons.2 ⟨h.1,zm3 is h.2⟩
theorem zsO : ∀ (l : List (Option Ent)) (es : List Ent),zw6 l=some es->l=es.map some
 | [],es,h=>by cases h; rfl
 | none::_,_,h=>by cases h
 | some e::l,es,h=>by
   unfold zw6 at h;split at h
   .rename_i es' h'; cases h; rw [List.map_cons,<- zsO l es' h']
   .cases h
section
variable {P : Program} {sp : List FuncId} {cf : Cf} (hcf : ∀ f a b r c,cf f a b=some (r,c)->zaj P f a b r c)
include hcf
def zyo (P : Program) (np id : Nat) (h : Nat->Option Ent) (f : FuncId) (xs : List AV) (K : AV->List Nat->List (Nat × Option Ent)->Prop) : Prop :=
    ∃ (ids sn : List Nat) (raise : Bool) (args' : List AV) (hs : List Ent) (res : AV) (hs' : List (Option Ent)),
      ids.Nodup/\(∀ i∈sn,i∉ids)/\(raise=true -> ∀ i∈sn,np<=i)/\WkL (xs.map (conv ids.zipIdx sn h 4)) args' /\
      ids.map (λ i=>(h i).map (zay ids.zipIdx sn h 4))=hs.map some/\zaj P f args' hs res hs'/\hs'.length<=hs.length+8 /\
      (raise=true∨(Plain res /\ ∀ e,some e∈hs'->zi5 e)) /\
      K (conv ((ids++(List.range 8).map (id + ·)).zipIdx.map λ (a,b)=>(b,a)) [] (λ _=>none) 4 res) (ids++sn)
        ((hs'.zipIdx.map λ (e,k)=>((ids++(List.range 8).map (id + ·)).getD k 0,e.map (zay ((ids++(List.range 8).map (id + ·)).zipIdx.map λ (a,b)=>(b,a)) [] (λ _=>none) 4))) ++
         (if raise then sn.filterMap (λ i=>(h i).map λ e=>(i,some { e with ro:=e.rows.length })) else []))
omit hcf in
theorem zos {np np' id : Nat} {h h' : Nat->Option Ent} {f : FuncId} {xs : List AV} {v : AV} {rd : List Nat} {up : List (Nat × Option Ent)} {ids sn : List Nat} {raise : Bool} {args' : List AV} {hs : List Ent} {res : AV} {hs' : List (Option Ent)}
  (hwk : WkL (xs.map (conv ids.zipIdx sn h 4)) args') (hids : ids.map (λ i=>(h i).map (zay ids.zipIdx sn h 4))=hs.map some) (hc : zaj P f args' hs res hs') (hpl : raise=true∨(Plain res /\ ∀ e,some e∈hs'->zi5 e))
  (e : zoY ids sn np' id hs.length h' res hs' raise=some (v,rd,up)) (hsn : sn=[]∨(np'=np/\h'=h)) {K : AV->List Nat->List (Nat × Option Ent)->Prop} (hk : K v rd up) : zyo P np id h f xs K:=by
 unfold zoY at e
 cases hck : zr3 ids sn np' hs.length raise hs' with
 | false=>rw [hck] at e; cases e
 | true =>
   rw [hck] at e;simp only [cond_true,Option.some.injEq,Prod.mk.injEq] at e;obtain ⟨rfl,rfl,rfl⟩:=e;unfold zr3 at hck;simp only [Bool.and_eq_true,Bool.or_eq_true,Bool.not_eq_true',Nat.ble_eq,List.all_eq_true,List.contains_eq_mem,decide_eq_false_iff_not] at hck;obtain ⟨c1,c2,c3,c4⟩:=hck;refine ⟨ids,sn,raise,args',hs,res,hs',zm3 _ c1,c2,λ hr i hi=>?_,hwk,hids,hc,c4,hpl,?_⟩
   .rcases hsn with rfl | ⟨rfl,_⟩
    .exact (List.not_mem_nil hi).elim
    .rcases c3 with h1 | h1
     .rw [hr] at h1; cases h1
     .exact h1 i hi
   .rcases hsn with rfl | ⟨_,rfl⟩
    .have : zs5 ids [] id h' raise hs'=zs5 ids [] id h raise hs':=by unfold zs5; simp
     rw [this] at hk;exact hk
    .exact hk
theorem zmj {np id : Nat} {h : Nat->Option Ent} {f : FuncId} {xs : List AV} {v : AV} {rd : List Nat} {up : List (Nat × Option Ent)} {deep : Bool} {ids sn : List Nat} (e : zp5 cf np id h f xs deep ids sn=some (v,rd,up))
  {K : AV->List Nat->List (Nat × Option Ent)->Prop} (hk : K v rd up) : zyo P np id h f xs K:=by
 unfold zp5 at e;rw [zgw (zot _ 6)] at e;split at e
 .cases e
 rename_i hs0 hseq;rw [zgw (zv3 _)] at e;unfold zvz at e;split at e
 .cases e
 rename_i res hs' hcall;refine zos (WkL.self _) (zsO _ _ hseq) (hcf _ _ _ _ _ hcall) ?_ e (.inr ⟨rfl,rfl⟩) hk;split
 .exact .inl rfl
 .cases hs : (!(zli 5 res && hs'.all zxB)) with
  | true=>exact .inl rfl
  | false =>
    right
    simp only [Bool.not_eq_false',Bool.and_eq_true] at hs;refine ⟨zmT _ _ hs.1,λ e he row hrow x hx=>?_⟩;have h1:=List.all_eq_true.1 hs.2 _ he;exact zmT _ _ (List.all_eq_true.1 (List.all_eq_true.1 h1 row hrow) x hx)
theorem zrf {np id : Nat} {h : Nat->Option Ent} {f : FuncId} {xs : List AV} {v : AV} {rd : List Nat} {up : List (Nat × Option Ent)} (e : zsS sp cf np id h f xs=some (v,rd,up))
  {K : AV->List Nat->List (Nat × Option Ent)->Prop} (hk : K v rd up) : zyo P np id h f xs K:=by
 unfold zsS at e;split at e
 .rename_i hsc
  have hx : xs.map (conv ([] : List Nat).zipIdx [] h 4)=xs:=by
   have : xs.map (conv ([] : List Nat).zipIdx [] h 4)=xs.map (λ x=>x):=List.map_congr_left λ x hx=>by
    obtain ⟨v,rfl⟩:=zsX xs hsc x hx;rfl
   rw [this,List.map_id']
  unfold zsy at e;split at e
  .rename_i v0 hcall
   cases e;exact ⟨[],[],true,xs,[],.sc v0,[],List.nodup_nil,by simp,by simp,by rw [hx]; exact WkL.self _,rfl,hcf _ _ _ _ _ hcall,by simp,.inl rfl,by simpa [conv] using hk⟩
  .rename_i res hs' _ hcall
   exact zos (hs:=[]) (by rw [hx]; exact WkL.self _) rfl (hcf _ _ _ _ _ hcall) (.inl rfl) e (.inl rfl) hk
  .cases e
 .simp only [zgw (zlk (β:=Rs3))] at e
  split at e
  .exact zmj hcf e hk
  .split at e
   .exact zmj hcf e hk
   .exact zmj hcf e hk
omit hcf in
theorem ztG {lo hi : Bool} {n l r : Nat} {bs : List AV} (h : zri lo hi n bs=some (l,r)) : bs=(if lo then [AV.I l] else [])++(if hi then [AV.I r] else [])/\(lo=false->l=0)/\(hi=false->r=n):=by
 unfold zri at h;split at h
 .cases h; simp
 .split at h
  .rename_i hp; cases h; simp [Int.toNat_of_nonneg hp]
  .cases h
 .split at h
  .rename_i hp; cases h; simp [Int.toNat_of_nonneg hp]
  .cases h
 .split at h
  .rename_i hp; cases h; simp [Int.toNat_of_nonneg hp.1,Int.toNat_of_nonneg hp.2]
  .cases h
 .cases h
theorem zxC {np id : Nat} {h : Nat->Option Ent} {op : AOp} {xs : List AV} {v : AV} {rd : List Nat} {up : List (Nat × Option Ent)} (e : aEv sp cf np id h op xs=some (v,rd,up))
  {K : AV->List Nat->List (Nat × Option Ent)->Prop} (hk : K v rd up) : aK P np id op xs h K:=by
 cases op <;> simp only [aEv] at e
 case app s b =>
  unfold zy6 at e;split at e
  .rename_i x y
   split at e
   .cases e
   .rename_i x hx
    rw [zom (λ ⟨i,o,l,c,e⟩=>hx i o l c e)];split at e
    .rename_i new hnew
     split at e
     .rename_i old hold
      split at e
      .rename_i hc
       cases e;exact ⟨new,old,hnew,hold,hc.1,hc.2,hk⟩
      .cases e
     .cases e
    .cases e
  .cases e
 case slc s lo hi mx =>
  cases mx with
  | true=>simp only at e; cases e
  | false =>
    simp only at e;unfold zz3 at e;split at e
    rotate_left
    .cases e
    unfold aK
    dsimp only
    split at e
    .cases e
    rename_i n hn;split at e
    .cases e
    rename_i l r hlr;obtain ⟨c1,c2,c3⟩:=ztG hlr;split at e
    .rename_i hc
     refine ⟨l,r,0,n,hn,hc.1,by simpa using c1,c2,c3,λ h=>(by cases h),?_⟩
     unfold zAw at e;split at e
     .split at e
      .rename_i hs
       cases e;refine ⟨hc.2,λ h=>(by cases h),hs,?_⟩
       simpa using hk
      .cases e
     .split at e
      .rename_i e0 he0
       split at e
       .rename_i hs; cases e; exact ⟨hc.2,rfl,⟨_,he0,hs⟩,hk⟩
       .cases e
      .cases e
     .cases e; exact ⟨hc.2,λ h=>(by cases h),hk⟩
     .cases e
    .cases e
 all_goals first
  | (cases e; done)
  | delta e_mv at e | delta zxF at e | delta zvt at e | delta zzS at e | delta zvJ at e | delta zAd at e | delta e_ld at e | delta e_st at e | delta zy5 at e | delta zzV at e | delta zzu at e | delta zzB at e | delta zxH at e
  | delta e_un at e | delta zy4 at e | delta zy3 at e | delta zzv at e | delta zAs at e | delta zzO at e | delta zAx at e | delta zzC at e | delta zzU at e | delta zy1 at e | delta zzh at e | delta zAt at e | delta zzI at e | delta zxn at e | delta zxu at e
  | delta zzg at e | delta zxm at e | delta zzG at e | delta zAm at e | delta zz9 at e | delta zz4 at e | delta zAb at e | delta zz6 at e | delta zzo at e | delta zz2 at e | delta zzX at e | delta zzY at e | delta zzZ at e | delta zzT at e
 all_goals (try dsimp only at e)
 case mkf=>cases e; exact hk
 case mkb=>cases e; exact hk
 case build z ps =>
  split at e
  .rename_i hcs; cases e; unfold aK; exact ⟨_,hcs,hk⟩
  .cases e
 case bsl s len z ps =>
  split at e
  .rename_i hcs
   split at e
   .rename_i hc; cases e; unfold aK; exact ⟨_,hcs,hc,hk⟩
   .cases e
  .cases e
 all_goals split at e
 all_goals first
  | (simp only [Option.some.injEq,Prod.mk.injEq,zlS] at e; obtain ⟨rfl,rfl,rfl⟩:=e; exact hk)
  | cases e
  | skip
 all_goals (unfold aK; dsimp only)
 .exact ⟨_,rfl,hk⟩
 .split at e
  .rename_i hcs
   split at e
   .rename_i hc; cases e; exact ⟨_,hcs,hc,hk⟩
   .cases e
  .cases e
 .split at e
  .rename_i hcs
   split at e
   .rename_i hc; cases e; exact ⟨_,hcs,hc,hk⟩
   .cases e
  .cases e
 .split at e
  .rename_i e0 he0
   split at e
   .rename_i hr hcs
    split at e
    .rename_i hc; cases e; exact ⟨_,_,_,he0,hr,hc.1,hcs,hc.2.1,hc.2.2,hk⟩
    .cases e
   .cases e
  .cases e
 .exact ⟨trivial,hk⟩
 .exact ⟨trivial,hk⟩
 .exact ⟨trivial,hk⟩
 .rw [zyC] at e
  split at e
  .rename_i hcs; cases e; exact ⟨_,hcs,hk⟩
  .cases e
 .split at e
  .rename_i hcs; cases e; exact ⟨_,hcs,hk⟩
  .cases e
 .split at e
  .rename_i hcs; cases e; exact ⟨_,hcs,hk⟩
  .cases e
 .split at e
  .rename_i hr
   split at e
   .rename_i hb; cases e; exact ⟨_,_,hr,hb,hk⟩
   .cases e
  .cases e
 .split at e
  .rename_i hc; cases e; exact ⟨hc.1,hc.2.1,hc.2.2.1,hc.2.2.2.1,hc.2.2.2.2,hk⟩
  .cases e
 .split at e
  .rename_i hc; cases e; exact ⟨hc,hk⟩
  .cases e
 .split at e
  .rename_i hc; cases e; exact ⟨hc,hk⟩
  .cases e
 .split at e
  .rename_i hc
   split at e
   .rename_i hr; cases e; exact ⟨hc.1,hc.2,_,hr,hk⟩
   .cases e
  .cases e
 .split at e
  .rename_i e0 he0
   split at e
   .rename_i hc; cases e; exact ⟨hc.1,hc.2.1,⟨_,he0,hc.2.2⟩,hk⟩
   .cases e
  .cases e
 .split at e
  .rename_i hc; cases e; exact ⟨hc.1,hc.2,hk⟩
  .cases e
 .split at e
  .rename_i hc; cases e; exact ⟨hc.1,hc.2.1,hc.2.2,hk⟩
  .cases e
 .split at e
  .rename_i hc
   split at e
   .rename_i hr; cases e; exact ⟨hc,_,hr,hk⟩
   .cases e
  .cases e
 .split at e
  .rename_i hc; cases e; exact ⟨hc.1,hc.2.1,hc.2.2,hk⟩
  .cases e
 .split at e
  .rename_i hcs; cases e; exact ⟨_,hcs,hk⟩
  .cases e
 .exact zrf hcf e hk
 .split at e
  .rename_i hcs
   split at e
   .rename_i hc; cases e; exact ⟨_,hcs,hc,hk⟩
   .cases e
  .cases e
 .split at e
  .rename_i hcs; cases e; exact ⟨_,hcs,hk⟩
  .cases e
 .split at e
  .rename_i h1 h2
   split at e
   .rename_i hc; cases e; exact ⟨_,_,h1,hc.1,hc.2.1,hc.2.2,h2,hk⟩
   .cases e
  .cases e
 .split at e
  .rename_i h1
   split at e
   .rename_i hc; cases e; exact ⟨_,h1,hc.1,hc.2.1,hc.2.2.1,hc.2.2.2,hk⟩
   .cases e
  .cases e
 .split at e
  .rename_i hc; cases e; exact ⟨hc.1,hc.2.1,hc.2.2.1,hc.2.2.2,hk⟩
  .cases e
 .split at e
  .rename_i h1
   split at e
   .rename_i hc; cases e; exact ⟨_,h1,hc,hk⟩
   .cases e
  .cases e
 .split at e
  .rename_i h1
   split at e
   .rename_i hc; cases e; exact ⟨_,h1,hc,hk⟩
   .cases e
  .cases e
 .split at e
  .rename_i h1
   split at e
   .rename_i hc; cases e; exact ⟨_,h1,hc,hk⟩
   .cases e
  .cases e
 .split at e
  .rename_i f hf
   obtain ⟨a1,a2,a3,a4,a5,a6,a7,h⟩:=zrf hcf e hk;exact ⟨f,a1,a2,a3,a4,a5,a6,a7,hf,h⟩
  .cases e
structure ziv (st : St) (s : RS) : Prop where
 sz : st.sz=s.sz
 n : st.n=s.n
 t : st.get=s.get
 h : st.hp=s.hp
omit hcf in
theorem ziv.put {st : St} {s : RS} (a : ziv st s) {d : Nat} {v : AV} {t' : TS} (ht : ∀ j,nthA t' j=if d=j then v else nthA s.t j) : ziv (st.put (some d) v) { s with t:=t' }:=by
 refine ⟨a.sz,a.n,?_,a.h⟩
 funext i
 have h1:=congrFun a.t i;unfold RS.get St.get St.put at *;rw [ht];simp only [lkp]
 by_cases hi : d=i
 .subst hi
  rw [if_pos rfl,if_pos rfl];rfl
 .rw [if_neg hi,if_neg hi]
  exact h1
omit hcf in
theorem ziv.upd {st : St} {s : RS} (a : ziv st s) {up h : List (Nat × Option Ent)} (hh : ∀ id,(lkp h id).getD none=(lkp (up++s.h) id).getD none) : ziv (st.upd up) { s with h:=h }:=by
 refine ⟨a.sz,a.n,a.t,?_⟩
 funext id
 have h1:=congrFun a.h id;unfold RS.hp at *;rw [zxN] at *;show (lkp (up++st.h) id).getD none=(lkp h id).getD none;rw [hh]
 have key : ∀ u : List (Nat × Option Ent),(lkp (u++st.h) id).getD none=(lkp (u++s.h) id).getD none:=by
  intro u
  induction u with
  | nil=>exact h1
  | cons q u ih =>
    obtain ⟨j,e⟩:=q;simp only [List.cons_append,lkp];split
    .rfl
    .exact ih
 exact key up
omit hcf in
theorem zyM (b : Option Bool) (want : Bool) : eqOB b want=decide (b=some want):=by
 cases b with
 | none=>rfl
 | some b=>cases b <;> cases want <;> rfl
theorem zsE {np n : Nat} : ∀ (ops : List zb0) (i : Nat) (st : St) (s : RS) (tr : List (List Nat × List Nat)) (k : Nat->TS->List (Nat × Option Ent)->List (List Nat × List Nat)->Rr) (r : zdH × RS) (K : St->List (List Nat × List Nat)->Prop),
  ziv st s->zpd sp cf s.sz np ops (n+8*i) k s.t s.h tr=some r->(∀ st' s' tr',s'.sz=s.sz->ziv st' s'->k (n+8*(i+ops.length)) s'.t s'.h tr'=some r->K { st' with n:=st.n } tr') ->
  zbp P np n i ops st tr (λ st' tr'=>K { st' with n:=st.n } tr')/\(ops.all λ o=>o.dst.all (· < s.sz))=true
 | [],i,st,s,tr,k,r,K,ag,e,hK=>⟨hK st s tr rfl ag e,rfl⟩
 | o::os,i,st,s,tr,k,r,K,ag,e,hK=>by
   have ih:=λ (st' : St) (s' : RS) (tr' : List (List Nat × List Nat)) (hn : st'.n=st.n) (hsz : s'.sz=s.sz) (ag' : ziv st' s') (e' : zpd sp cf s.sz np os (n+8*(i+1)) k s'.t s'.h tr'=some r)=>zsE os (i+1) st' s' tr' k r K ag' (by rw [hsz]; exact e') (λ st2 s2 tr2 q1 q2 q3=>by
    have:=hK st2 s2 tr2 (q1.trans hsz) q2 (by rw [show i+(o::os).length=i+1+os.length by simp; omega]; exact q3)
    rw [hn]
    exact this)
   have hu : zpd sp cf s.sz np (o::os) (n+8*i) k s.t s.h tr=fcN (n+8*i+8) λ id'=>zv8 sp cf s.sz np (n+8*i) o (zpd sp cf s.sz np os id' k) s.t s.h tr:=rfl;rw [hu,zlk,show n+8*i+8=n+8*(i+1) by omega] at e
   have hset : ∀ (v : AV) (d : Nat) (h : List (Nat × Option Ent)) (tr' : List (List Nat × List Nat)),setA v s.t d (zyF (zpd sp cf s.sz np os (n+8*(i+1)) k) h tr')=some r -> ∃ t',(∀ j,nthA t' j=if d=j then v else nthA s.t j)/\zpd sp cf s.sz np os (n+8*(i+1)) k t' h tr'=some r:=by
    intro v d h tr' hs;rcases zoE (γ:=zdH × RS) v s.t d with ⟨t',h1,h2⟩ | h1
    .rw [h1] at hs
     exact ⟨t',h2,hs⟩
    .rw [h1] at hs
     cases hs
   have hgo : opGo sp cf s.sz np (n+8*i) o (zpd sp cf s.sz np os (n+8*(i+1)) k) s.t s.h tr=some r ->
    (aK P np (n+8*i) o.op (o.xs.map (·.ev st.get)) st.hp λ v rd up=>zbp P np n (i+1) os ((st.put o.dst v).upd up) (tr++[(rd,up.map (·.1))]) (λ st' tr'=>K { st' with n:=st.n } tr'))/\((o::os).all λ o=>o.dst.all (· < s.sz))=true:=by
    intro h;unfold opGo at h;rw [zun] at h;have e1 : nthA s.t=st.get:=ag.t.symm;have e2 : hpB s.h=st.hp:=ag.h.symm;rw [e1,e2] at h;unfold zAg at h;split at h
    .cases h
    rename_i v rd up hev;rw [zgw (zxA false)] at h;unfold zxq at h;obtain ⟨h',q1,q2⟩:=zrG up s.h;rw [q1] at h;unfold zxI at h;rw [List.all_cons];split at h
    .rename_i hdst
     have hx:=ih ((st.put none v).upd up) { s with h:=h' } _ rfl rfl (ag.upd q2) h;refine ⟨zxC hcf hev ?_,by rw [hdst,hx.2]; rfl⟩
     rw [hdst];exact hx.1
    .rename_i d hdst
     split at h
     rotate_left
     .cases h
     rename_i hlt;rw [zot] at h;obtain ⟨t',ht',h⟩:=hset _ _ _ _ h;have hx:=ih ((st.put (some d) v).upd up) { s with t:=t',h:=h' } _ rfl rfl ((ag.put ht').upd (s:={ s with t:=t' }) q2) h;refine ⟨zxC hcf hev ?_,by rw [hdst,hx.2]; simpa [Nat.blt_eq] using hlt⟩
     rw [hdst];exact hx.1
   unfold zv8 at e;unfold zbp;split at e
   .rename_i hg
    simp only [hg];exact hgo e
   .rename_i gg want hg
    simp only [hg];unfold opGd at e;split at e
    .cases e
    .rename_i b hb
     have hb' : gdV (st.get gg)=some b:=by rw [ag.t]; exact hb
     rw [zyM] at e;split at e
     .rename_i hbw
      have hbw:=of_decide_eq_true hbw;obtain ⟨h1,h2⟩:=hgo e;exact ⟨⟨b,hb',by rw [if_pos hbw]; exact h1⟩,h2⟩
     .rename_i hbw
      have hbw:=of_decide_eq_false hbw;unfold zxO at e;rw [List.all_cons];split at e
      .rename_i hdst
       have hx:=ih st s _ rfl rfl ag e;exact ⟨⟨b,hb',by rw [if_neg hbw,hdst]; exact hx.1⟩,by rw [hdst,hx.2]; rfl⟩
      .rename_i d hdst
       split at e
       rotate_left
       .cases e
       rename_i hlt;obtain ⟨t',ht',h⟩:=hset _ _ _ _ e;have hx:=ih (st.put (some d) (.tup [])) { s with t:=t' } _ rfl rfl (ag.put ht') h;exact ⟨⟨b,hb',by rw [if_neg hbw,hdst]; exact hx.1⟩,by rw [hdst,hx.2]; simpa [Nat.blt_eq] using hlt⟩
theorem ze3 {np lf : Nat} : ∀ (c : zfj) (s : RS) (r : zdH × RS),zlx sp cf np lf c s=some r -> ∀ st,ziv st s->awp P np c (λ e t=>e=r.1/\ziv t r.2) st
 | .skip,s,r,h,st,ag=>by cases h; exact ⟨rfl,ag⟩
 | .reg draw ops after,⟨sz,t,hh,n⟩,r,h,st,ag=>by
   have h : zpd sp cf sz np ops n (zu3 draw ops after sz) t hh []=some r:=h;have hn : st.n=n:=ag.n
   have hx:=zsE hcf (n:=n) ops 0 st ⟨sz,t,hh,n⟩ [] _ r (λ st' tr=>(draw=true->zeL ops after tr=true)/\zdH.normal=r.1/\ziv { st' with n:=st.n+8*ops.length } r.2) ag (by rw [Nat.mul_zero,Nat.add_zero]; exact h) (λ st' s' tr' q1 q2 q3=>by
    rw [Nat.zero_add] at q3;unfold zu3 at q3;have q1 : s'.sz=sz:=q1;split at q3
    .cases q3
     exact ⟨λ h=>(by cases h),rfl,⟨q2.sz.trans q1,by rw [hn],q2.t,q2.h⟩⟩
    .split at q3
     .rename_i ho
      cases q3;exact ⟨λ _=>ho,rfl,⟨q2.sz.trans q1,by rw [hn],q2.t,q2.h⟩⟩
     .cases q3)
   refine ⟨by rw [ag.sz]; exact hx.2,?_⟩
   rw [hn];refine zcX _ _ _ _ _ _ _ (λ st' tr' hq=>?_) hx.1;rw [hn] at hq;exact hq
 | .seq a b,s,r,h,st,ag=>by
   have h : seqK (zlx sp cf np lf b) (zlx sp cf np lf a s)=some r:=h;unfold seqK at h;show awp P np a _ st;split at h
   .rename_i s' ha
    refine zcM (λ e t ht=>?_) (ze3 a s _ ha st ag);obtain ⟨rfl,ag'⟩:=ht;exact ⟨t,Le.refl _ _,ze3 b s' r h t ag'⟩
   .rename_i hno
    obtain ⟨e0,s0⟩:=r;refine zcM (λ e t ht=>?_) (ze3 a s _ h st ag);obtain ⟨rfl,ag'⟩:=ht
    cases e with
    | normal=>exact absurd h (hno s0)
    | exit id=>exact ⟨rfl,ag'⟩
    | ret=>exact ⟨rfl,ag'⟩
 | .cond c a b,s,r,h,st,ag=>by
   have h : zx7 (zlx sp cf np lf a) (zlx sp cf np lf b) s (c.ev s.get)=some r:=h;unfold zx7 at h;split at h
   .rename_i hc
    exact ⟨true,by rw [ag.t]; exact hc,ze3 a s r h st ag⟩
   .rename_i hc
    exact ⟨false,by rw [ag.t]; exact hc,ze3 b s r h st ag⟩
   .cases h
 | .block id a,s,r,h,st,ag=>by
   have h : zvE id (zlx sp cf np lf a s)=some r:=h;unfold zvE at h;show awp P np a _ st;split at h
   .rename_i i s' ha
    refine zcM (λ e t ht=>?_) (ze3 a s _ ha st ag);obtain ⟨rfl,ag'⟩:=ht;simp only;rw [zgH] at h;split at h
    .rename_i hi; cases h; rw [if_pos (of_decide_eq_true hi)]; exact ⟨rfl,ag'⟩
    .rename_i hi; cases h; rw [if_neg (of_decide_eq_false hi)]; exact ⟨rfl,ag'⟩
   .rename_i hno
    obtain ⟨e0,s0⟩:=r;refine zcM (λ e t ht=>?_) (ze3 a s _ h st ag);obtain ⟨rfl,ag'⟩:=ht
    cases e with
    | normal=>exact ⟨rfl,ag'⟩
    | exit id=>exact absurd h (hno id s0)
    | ret=>exact ⟨rfl,ag'⟩
 | .loop a,s,r,h,st,ag=>by
   have h : zsY (zlx sp cf np lf a) lf s=some r:=h;refine ⟨λ k t=>∃ s',ziv t s'/\zsY (zlx sp cf np lf a) k s'=some r,⟨st,lf,Le.refl _ _,s,ag,h⟩,?_⟩
   rintro k t ⟨s',ag',h'⟩
   match k,h' with
   | 0,h'=>cases h'
   | k+1,h' =>
     have h' : (match zlx sp cf np lf a s' with | some (.normal,s2)=>zsY (zlx sp cf np lf a) k s2 | r=>r)=some r:=h'
     split at h'
     .rename_i s2 ha
      refine zcM (λ e t ht=>?_) (ze3 a s' _ ha t ag');obtain ⟨rfl,ag2⟩:=ht;exact ⟨t,k,Le.refl _ _,⟨s2,ag2,h'⟩,Nat.lt_succ_self k⟩
     .rename_i hno
      obtain ⟨e0,s0⟩:=r;refine zcM (λ e t ht=>?_) (ze3 a s' _ h' t ag');obtain ⟨rfl,ag2⟩:=ht
      cases e with
      | normal=>exact absurd h' (hno s0)
      | exit id=>exact ⟨rfl,ag2⟩
      | ret=>exact ⟨rfl,ag2⟩
 | .exit id,s,r,h,st,ag=>by cases h; exact ⟨rfl,ag⟩
 | .ret,s,r,h,st,ag=>by cases h; exact ⟨rfl,ag⟩
 | .bad,s,r,h,st,ag=>by cases h
omit hcf in
theorem zs1 {st : St} {s : RS} (ag : ziv st s) : ∀ l,zgy st l=zmL s l
 | []=>rfl
 | r::rs=>by
   have h1 : zjI st r=zrl s r:=by
    unfold zjI zrl;rw [ag.t,ag.h];rfl
   rw [zgy,zmL,zs1 ag rs,h1];rfl
omit hcf in
theorem zqq {np : Nat} {s : RS} {vs : List AV} {small : Bool} {ex sn : List Nat} {res : AV} {hs' : List (Option Ent)} (h : zsM np s vs small ex sn=some (res,hs')) : np<=hs'.length /\
  ∀ (st : St) (rs : List (Nat × Option (Bool × Nat))),ziv st s->zmL s rs=some vs->zao rs np st res hs':=by
 unfold zsM at h;split at h
 .rename_i hc
  simp only [Bool.and_eq_true,List.all_eq_true,Nat.ble_eq,Bool.not_eq_true',List.contains_eq_mem,decide_eq_false_iff_not] at hc;obtain ⟨c1,c2,c3⟩:=hc;rw [zot,zgw (λ o k=>by cases o <;> simp only [zv3])] at h
  cases h;refine ⟨by simp,λ st rs ag hvs=>⟨vs,by rw [zs1 ag]; exact hvs,ex,sn,zm3 _ c1,c2,c3,?_,?_⟩⟩
  .rw [ag.h]; exact .refl _
  .rw [ag.h]
 .cases h
omit hcf in
theorem zw3 {rs : List (Nat × Option (Bool × Nat))} {np : Nat} {s : RS} {res : AV} {hs' : List (Option Ent)} (h : zvV rs np s=some (res,hs')) : np<=hs'.length /\ ∀ st,ziv st s->zao rs np st res hs':=by
 unfold zvV at h;split at h
 .cases h
 rename_i vs hvs;simp only [zgw (zlk (β:=Option (AV × List (Option Ent))))] at h;split at h
 .obtain ⟨h1,h2⟩:=zqq h
  exact ⟨h1,λ st ag=>h2 st rs ag hvs⟩
 .obtain ⟨h1,h2⟩:=zqq h
  exact ⟨h1,λ st ag=>h2 st rs ag hvs⟩
theorem zwo {lf : Nat} {f : FuncId} {af : AFun} (s : Src P f af) {args : List AV} {hs : List Ent} {res : AV} {hs' : List (Option Ent)} (h : zwZ sp cf lf af args hs=some (res,hs')) : zaj P f args hs res hs':=by
 unfold zwZ at h;split at h
 .rename_i hc
  simp only [Bool.and_eq_true,Nat.ble_eq] at hc;rw [zgw (zot _ _)] at h;obtain ⟨t',h,ht'⟩:=zvN _ _ _ _ _ h;rw [zgw (zxA _),zlk] at h
  have ag : ziv (zgX af args hs) ⟨af.nt,t',hs.zipIdx.map λ (e,k)=>(k,some e),16⟩:=by
   refine ⟨rfl,rfl,?_,by funext id; unfold RS.hp; rw [zxN]; rfl⟩
   funext i
   unfold St.get RS.get zgX;rw [ht',zp0];simp only
   have key : ∀ (l : List AV) (m i : Nat),(lkp ((l.zipIdx m).map λ (a,i)=>(i,a)) (m+i)).getD .dead=l.getD i .dead:=by
    intro l
    induction l with
    | nil=>intro m i; simp [lkp]
    | cons a l ih =>
      intro m i;simp only [List.zipIdx_cons,List.map_cons,lkp]
      cases i with
      | zero=>simp
      | succ i =>
        rw [if_neg (by omega)]
        have:=ih (m+1) i;rw [show m+(i+1)=m+1+i by omega,this]
        rfl
   have h1:=key args 0 i;rw [Nat.zero_add] at h1;rw [h1];split
   .rw [Nat.sub_zero]
   .rename_i hi
    rw [List.getD_eq_getElem?_getD,List.getElem?_eq_none (by omega)]
    rfl
  have fin : ∀ (e0 : zdH) (s0 : RS),e0 = .normal∨e0 = .ret->zlx sp cf hs.length lf af.code ⟨af.nt,t',hs.zipIdx.map λ (e,k)=>(k,some e),16⟩=some (e0,s0)->zvV af.res hs.length s0=some (res,hs')->zaj P f args hs res hs':=by
   intro e0 s0 he hr hret;have hw:=ze3 hcf _ _ _ hr _ ag;obtain ⟨hl,hro⟩:=zw3 hret;refine s.acalls hc.1 hc.2 hl (zcM (λ e t ht=>?_) hw);obtain ⟨rfl,ag'⟩:=ht;exact ⟨he,hro t ag'⟩
  unfold zxw at h;split at h
  .rename_i s0 hr; exact fin _ s0 (.inl rfl) hr h
  .rename_i s0 hr; exact fin _ s0 (.inr rfl) hr h
  .cases h
 .cases h
end
theorem zxD {P : Program} {sp : List FuncId} {ext : Cf} {tbl : List (FuncId × AFun)} (he : ∀ f a b r c,ext f a b=some (r,c)->zaj P f a b r c) (ht : ∀ q∈tbl,Src P q.1 q.2) (lf : Nat) :
  ∀ (d : Nat) (f : FuncId) (a : List AV) (b : List Ent) (r : AV) (c : List (Option Ent)),evN sp ext tbl lf d f a b=some (r,c)->zaj P f a b r c
 | 0,_,_,_,_,_,h=>by cases h
 | d+1,f,a,b,r,c,h=>by
   have h : evX (ext f a b) (evT tbl (λ af=>zwZ sp (evN sp ext tbl lf d) lf af a b) f)=some (r,c):=h;unfold evX at h;split at h
   .rename_i hx; cases h; exact he _ _ _ _ _ hx
   .unfold evT at h
    rw [zvm] at h;split at h
    .rename_i af hl
     exact zwo (zxD he ht lf d) (ht _ (zb7 hl)) h
    .cases h
theorem zaj.wk {P : Program} {f : FuncId} {args args' : List AV} {hs : List Ent} {res : AV} {hs' : List (Option Ent)} (h : zaj P f args' hs res hs') (hw : WkL args args') : zaj P f args hs res hs':=by
 refine ⟨h.1,h.2.1,λ T M w vs h1 h2 h3 hr=>h.2.2 T M w vs h1 h2 h3 ⟨hr.1.trans hw.length,λ i hi=>?_⟩⟩;have hi' : i<args.length:=by rw [hw.length]; exact hi
 exact (hw.get i hi').rep (hr.2 i hi')
def bqF : List UInt8->List UInt8->Bool
 | [],[]=>true
 | x::xs,y::ys=>Nat.beq x.toNat y.toNat && bqF xs ys
 | _,_=>false
theorem zxE : ∀ {a b : List UInt8},bqF a b=true->a=b
 | [],[],_=>rfl
 | x::xs,y::ys,h=>by
   simp only [bqF,Bool.and_eq_true] at h;rw [zxE h.2,UInt8.toNat_inj.1 (Nat.eq_of_beq_eq_true h.1)]
 | [],_::_,h=>by cases h
 | _::_,[],h=>by cases h
def vqF (a b : Value) : Bool:=match a with
 | .int k m=>(match b with | .int k' n=>Nat.beq (kN k) (kN k') && eqF m n | _=>false)
 | .bool x=>(match b with | .bool y=>x == y | _=>false)
 | .string s=>(match b with | .string u=>bqF s.data.toList u.data.toList | _=>false)
 | .slice none 0 0=>(match b with | .slice none 0 0=>true | _=>false)
 | _=>false
theorem zze {a b : Value} (h : vqF a b=true) : a=b:=by
 unfold vqF at h;split at h
 .split at h
  .rw [zzQ,zxr,Bool.and_eq_true,decide_eq_true_eq,beq_iff_eq] at h
   rw [h.1,h.2]
  .cases h
 .split at h
  .rw [beq_iff_eq] at h; rw [h]
  .cases h
 .split at h
  .rename_i s _ u
   have:=zxE h;obtain ⟨⟨s⟩⟩:=s;obtain ⟨⟨u⟩⟩:=u;simp only at this;rw [this]
  .cases h
 .split at h
  .rfl
  .cases h
 .cases h
noncomputable def lqF {α : Type} (q : α->α->Bool) (a : List α) : List α->Bool :=
 List.rec (motive:=λ _=>List α->Bool) (λ b=>match b with | []=>true | _::_=>false) (λ x _ ih b=>match b with | []=>false | y::ys=>q x y && ih ys) a
theorem zqO {α : Type} {q : α->α->Bool} (hq : ∀ x y,q x y=true->x=y) : ∀ {a b : List α},lqF q a b=true->a=b
 | [],[],_=>rfl
 | [],_::_,h=>by cases h
 | _::_,[],h=>by cases h
 | x::xs,y::ys,h=>by
   have h : (q x y && lqF q xs ys)=true:=h;rw [Bool.and_eq_true] at h;rw [hq _ _ h.1,zqO hq h.2]
noncomputable def aqX (ih : AV->AV->Bool) (a b : AV) : Bool:=match a with
 | .sc v=>(match b with | .sc u=>vqF v u | _=>false)
 | .agg xs=>(match b with | .agg ys=>lqF ih xs ys | _=>false)
 | .vs s false rows=>(match b with | .vs s' false rows'=>Nat.beq s s' && lqF (lqF ih) rows rows' | _=>false)
 | _=>false
noncomputable def aqF (n : Nat) : AV->AV->Bool:=Nat.rec (motive:=λ _=>AV->AV->Bool) (λ _ _=>false) (λ _ ih=>aqX ih) n
theorem zxp : ∀ (n : Nat) (a b : AV),aqF n a b=true->a=b
 | 0,_,_,h=>by cases h
 | n+1,a,b,h=>by
   have ih:=zxp n;have h : aqX (aqF n) a b=true:=h;unfold aqX at h;split at h
   .split at h
    .rw [zze h]
    .cases h
   .split at h
    .rw [zqO ih h]
    .cases h
   .split at h
    .rw [Bool.and_eq_true] at h
     rw [Nat.eq_of_beq_eq_true h.1,zqO (λ _ _=>zqO ih) h.2]
    .cases h
   .cases h
structure Fct where
 f : FuncId
 args : List AV
 res : AV
 out : List (Option Ent)
abbrev Fct.Ok (P : Program) (q : Fct) : Prop:=zaj P q.f q.args [] q.res q.out
noncomputable def zy2 (l : List Fct) (f : FuncId) (args : List AV) : Option (AV × List (Option Ent)) :=
 List.rec (motive:=λ _=>Option (AV × List (Option Ent))) none (λ q _ ih=>match Nat.beq q.f f && lqF (aqF 6) q.args args with | true=>some (q.res,q.out) | false=>ih) l
def ascB : List Int->Bool
 | []=>true
 | x::l=>(match l with | []=>true | y::_=>ltF x y) && ascB l
def zxd : List (List AV)->Option (List Int)
 | []=>some []
 | [.sc (.int .i64 n)]::r=>match zxd r with | some l=>some (n::l) | none=>none
 | _=>none
def zy9 (args : List AV) : Option (AV × List (Option Ent)):=match args with
 | [.vs 1 false rows]=>match zxd rows with
   | some l=>match ascB l && Nat.ble l.length 1000 with | true=>some (.rs 0 0 l.length,[some ⟨1,zag l,0⟩]) | false=>none
   | none=>none
 | _=>none
noncomputable def zhG (l : List Fct) : Cf:=λ f args hs=>match hs with
 | []=>match Nat.beq f zcZ with | true=>zy9 args | false=>zy2 l f args
 | _::_=>none
theorem zsN : ∀ {rows : List (List AV)} {l : List Int},zxd rows=some l->rows=zag l
 | [],l,h=>by cases h; rfl
 | row::rows,l,h=>by
   unfold zxd at h;split at h
   .rename_i he; cases he
   .split at h
    .rename_i hr; cases h; rename_i he _ _ ; injection he with e1 e2; subst e1 e2; rw [zsN hr]; rfl
    .cases h
   .cases h
theorem zwe : ∀ {l : List Int},ascB l=true->l.Pairwise (· < ·)
 | [],_=>.nil
 | [x],_=>List.pairwise_singleton _ _
 | x::y::l,h=>by
   simp only [ascB,Bool.and_eq_true,zup,decide_eq_true_eq] at h;have ih:=zwe (l:=y::l) (by simp only [ascB,Bool.and_eq_true,zup]; exact h.2)
   refine List.pairwise_cons.2 ⟨λ z hz=>?_,ih⟩;rcases List.mem_cons.1 hz with rfl | hz
   .exact h.1
   .have:=(List.pairwise_cons.1 ih).1 z hz; omega
theorem zxS {l : List Int} (h : l.Pairwise (· < ·)) : srt l=l:=List.mergeSort_of_pairwise (h.imp λ h=>by simp; omega)
theorem zvv {l : List Fct} (h : ∀ q∈l,q.Ok Tryz.prog) : ∀ f a b r c,zhG l f a b=some (r,c)->zaj Tryz.prog f a b r c:=by
 intro f a b r c e;unfold zhG at e;split at e
 .split at e
  .rename_i hf
   have hf:=Nat.eq_of_beq_eq_true hf;subst hf;unfold zy9 at e;split at e
   .split at e
    .rename_i L hL
     split at e
     .rename_i hA
      rw [Bool.and_eq_true] at hA;have hl : L.length<=1099511627776:=Nat.le_trans (nbz hA.2) (by omega)
      replace hA:=hA.1
      cases e;have:=zwe hA;rw [zsN hL];have h1:=zif L hl;rw [zxS this] at h1;exact h1
     .cases e
    .cases e
   .cases e
  .induction l with
   | nil=>cases e
   | cons q l ih =>
     have e : (match Nat.beq q.f f && lqF (aqF 6) q.args a with | true=>some (q.res,q.out) | false=>zy2 l f a)=some (r,c):=e
     split at e
     .rename_i hq
      rw [Bool.and_eq_true] at hq;have e1:=Nat.eq_of_beq_eq_true hq.1;have e2:=zqO (λ _ _=>zxp 6 _ _) hq.2
      cases e;rw [<- e1,<- e2];exact h q (List.mem_cons_self ..)
     .exact ih (λ q hq=>h q (List.mem_cons_of_mem _ hq)) e
 .cases e
set_option maxRecDepth 100000
theorem zkF {P : Program} : ∀ q∈([] : List (FuncId × AFun)),Src P q.1 q.2:=λ _ h=>(List.not_mem_nil h).elim
theorem zah {P : Program} {f : FuncId} {af : AFun} {l : List (FuncId × AFun)} (s : Src P f af) (h : ∀ q∈l,Src P q.1 q.2) : ∀ q∈(f,af)::l,Src P q.1 q.2:=λ q hq=>by
 rcases List.mem_cons.1 hq with rfl | hq
 .exact s
 .exact h q hq
theorem zit {P : Program} : ∀ q∈([] : List Fct),q.Ok P:=λ _ h=>(List.not_mem_nil h).elim
theorem zfA {P : Program} {q0 : Fct} {l : List Fct} (s : q0.Ok P) (h : ∀ q∈l,q.Ok P) : ∀ q∈q0::l,q.Ok P:=λ q hq=>by
 rcases List.mem_cons.1 hq with rfl | hq
 .exact s
 .exact h q hq
theorem zoy {sp : List FuncId} {l : List Fct} {tbl : List (FuncId × AFun)} (hl : ∀ q∈l,q.Ok Tryz.prog) (ht : ∀ q∈tbl,Src Tryz.prog q.1 q.2) {f : FuncId} {a : List AV} {r : AV} {c : List (Option Ent)} (h : evN sp (zhG l) tbl 1000 40 f a []=some (r,c)) : zaj Tryz.prog f a [] r c :=
 zxD (zvv hl) ht 1000 40 f a [] r c h
abbrev gSv : AV:=.agg [.I 12,.vs 3 false [[.I 0,.I 1,.I 1]],.nilS]
abbrev pSv : AV:=.agg [.vs 1 false [[.I 0]],.vs 1 false [[.I 5],[.I 4]],.I 1]
abbrev sSv : AV:=.sc (.string ⟨#[115]⟩)
abbrev uSv (n : Int) : AV:=.sc (.int .u64 n)
abbrev oSv : AV:=.vs 1 false [[.I 2],[.I 3],[.I 4],[.I 5],[.I 6],[.I 7],[.I 8],[.I 9],[.I 10],[.I 11]]
def spE : List FuncId:=[zcZ,zbZ,za1,zaL,zb2,zbj,zbq,zd5]
abbrev by25 (l : List Int) : AV:=.vs 1 false (l.map λ n=>[.sc (.int .u8 n)])
noncomputable def okS (r : Option (AV × List (Option Ent))) : Bool:=match r with | some (.sc (.string s),[])=>true | _=>false
theorem zxG {r : Option (AV × List (Option Ent))} (h : okS r=true) : ∃ s,r=some (.sc (.string s),[]):=by
 unfold okS at h;split at h
 .exact ⟨_,rfl⟩
 .cases h
def tblD : List (FuncId × AFun):=[(zgB,zi0),(zcW,zeu),(zdc,zeH),(zd3,zf0),(zb2,zmN)]
theorem srcD : ∀ q∈tblD,Src Tryz.prog q.1 q.2:=zah znG (zah zhu (zah zhM (zah zjw (zah zru zkF))))
theorem dig0 : okS (evN spE (zhG []) tblD 1000 40 zb2 [by25 [0,0,0,0,0,0,0,1,115,0,0,0,0,0,0,0,0,0,0,0,0,0,0,0,1]] [])=true:=by kernel_rfl
theorem dig1 : okS (evN spE (zhG []) tblD 1000 40 zb2 [by25 [0,0,0,0,0,0,0,1,115,0,0,0,0,0,0,0,1,0,0,0,0,0,0,0,0]] [])=true:=by kernel_rfl
def tblE : List (FuncId × AFun):=[(zaF,zhP),(zgI,zi9),(zhl,zjR),(zb4,zc5),(zcF,ze5),(zcd,ze6),(zaZ,zbb),(zaU,zbE),(zaX,zcC),(zeP,ziQ),(zmc,zp4),(zdr,zfa),(zcT,zeo),(zcO,zed),(zdd,zgj),(zbZ,zee),(znm,zq4),(zii,zqr),(zk4,znU),(za9,zbF),(zaR,zcm),(za6,zbw),(zdx,zgU),(zd4,zfX),(zfo,zhI),(zhp,zj6),(zdA,zfy),(za0,zco),(zdB,zfw),(zes,zgs),(zam,zbQ),(zel,zgo),(zaH,zbe),(zaW,zb5),(zbj,zhR)]
theorem srcE : ∀ q∈tblE,Src Tryz.prog q.1 q.2:=zah zid (zah znA (zah zpE (zah zdU (zah zgJ (zah ze4 (zah zbB (zah zct (zah zbS (zah ziN (zah zvg (zah zik (zah zhD (zah zg6 (zah zki (zah zgR (zah zvw (zah zvo (zah ztD (zah zda (zah zd6 (zah zcY (zah zkB (zah zjv (zah zlo (zah zpF (zah ziZ (zah zcq (zah ziX (zah zj1 (zah zbO (zah zkp (zah zbf (zah zb3 (zah zm8 zkF))))))))))))))))))))))))))))))))))
theorem esc0 (s0 s1 : ByteArray) : evN spE (zhG [⟨zb2,[by25 [0,0,0,0,0,0,0,1,115,0,0,0,0,0,0,0,0,0,0,0,0,0,0,0,1]],.sc (.string s0),[]⟩,⟨zb2,[by25 [0,0,0,0,0,0,0,1,115,0,0,0,0,0,0,0,1,0,0,0,0,0,0,0,0]],.sc (.string s1),[]⟩]) tblE 1000 40 zbj [gSv,sSv,.I 0,.I 3,oSv] []=some (.I 0,[]):=by kernel_rfl
theorem esc1 (s0 s1 : ByteArray) : evN spE (zhG [⟨zb2,[by25 [0,0,0,0,0,0,0,1,115,0,0,0,0,0,0,0,0,0,0,0,0,0,0,0,1]],.sc (.string s0),[]⟩,⟨zb2,[by25 [0,0,0,0,0,0,0,1,115,0,0,0,0,0,0,0,1,0,0,0,0,0,0,0,0]],.sc (.string s1),[]⟩]) tblE 1000 40 zbj [gSv,sSv,.I 1,.I 3,oSv] []=some (.I 0,[]):=by kernel_rfl
def tblI : List (FuncId × AFun):=[(zb6,zdV),(zb4,zc5),(zbN,zcH),(zdP,zfp),(za5,ze1),(zbJ,zf6)]
theorem srcI : ∀ q∈tblI,Src Tryz.prog q.1 q.2:=zah zdR (zah zdU (zah zdM (zah zhK (zah zgW (zah zjB zkF)))))
theorem tim1 : evN spE (zhG []) tblI 1000 40 za5 [uSv 1,uSv 1] []=some (uSv 1,[]):=by kernel_rfl
theorem inv1 : evN spE (zhG [⟨za5,[uSv 1,uSv 1],uSv 1,[]⟩]) tblI 1000 40 zbJ [uSv 1] []=some (uSv 1,[]):=by kernel_rfl
def tblW : List (FuncId × AFun):=[(zaF,zhP),(zcc,zku),(za0,zco),(zam,zbQ),(zfN,znb),(zcd,ze6),(zby,zfv),(zeT,zmo),(zdL,zjb),(zgr,zlj),(zbU,ziD),(zaL,zbD),(za1,zcp),(zez,zhr),(zcf,zfY),(zaD,zbl),(zaI,zbh),(zbV,zh1),(zdX,zfm),(zb6,zdV),(zdO,zgK),(zbx,zc1),(zdi,zf5),(zcw,zfs),(zbt,zhX),(zb4,zc5),(zcF,ze5),(zaZ,zbb),(zaU,zbE),(zaX,zcC),(zeP,ziQ),(zcx,zfu),(zaH,zbe),(zbd,zcn),(zcU,zhz),(zbv,zeA),(zbY,zex),(zaK,zbC),(zaY,zcb),(zbP,zcJ),(zaS,zck),(zbk,zcG),(za4,zbI),(zcg,zga),(zeS,zg3),(zcB,zfi),(zbN,zcH),(zdP,zfp),(za5,ze1),(zdb,zeJ),(zet,zgh),(zbq,zf8)]
theorem srcW : ∀ q∈tblW,Src Tryz.prog q.1 q.2:=zah zid (zah zjJ (zah zcq (zah zbO (zah zmq (zah ze4 (zah zfl (zah zl8 (zah zi6 (zah zlf (zah zib (zah zba (zah zbH (zah zhy (zah zfM (zah zbi (zah zbg (zah zgn (zah zhL (zah zdR (zah zgL (zah zc0 (zah zfU (zah zft (zah zgi (zah zdU (zah zgJ (zah zbB (zah zct (zah zbS (zah ziN (zah zfr (zah zbf (zah zch (zah zhs (zah zeF (zah zey (zah zbA (zah zdf (zah zdN (zah zdm (zah zcI (zah zbM (zah zgb (zah zk0 (zah zhZ (zah zdM (zah zhK (zah zgW (zah zhN (zah zke (zah zjs zkF)))))))))))))))))))))))))))))))))))))))))))))))))))
theorem wei1 : evN spE (zhG [⟨zbJ,[uSv 1],uSv 1,[]⟩]) tblW 1000 40 zbq [gSv,pSv,.I 1] []=some (.tup [.rs 0 0 12,.I 0],[some ⟨1,[[.I 2],[.I 1],[.I 0],[.I 0],[.I 0],[.I 0],[.I 0],[.I 0],[.I 0],[.I 0],[.I 0],[.I 0]],0⟩]):=by kernel_rfl
def tblM : List (FuncId × AFun):=[(zaF,zhP),(zhU,zk9),(zdk,zlh),(zgD,zi3),(zdK,zi2),(za8,zcr),(za2,zb8),(zf1,zmK),(za1,zcp),(zgQ,zn2),(zci,zfW),(zbR,zfg),(zcV,zfP),(ziI,zoo),(zhQ,zqw),(zen,zkl),(zaH,zbe),(zaW,zb5),(zdF,zje),(zhC,zmD),(zfK,zmS),(zd5,zmp)]
theorem srcM : ∀ q∈tblM,Src Tryz.prog q.1 q.2:=zah zid (zah zrb (zah zqP (zah znD (zah zi4 (zah zcs (zah zb9 (zah znj (zah zbH (zah zn6 (zah zfV (zah zfc (zah zfS (zah znT (zah zqi (zah zjK (zah zbf (zah zb3 (zah zja (zah zmA (zah zl2 (zah zrn zkF)))))))))))))))))))))
theorem mos1 : evN spE (zhG []) tblM 1000 40 zd5 [gSv,.I 1,.I 0,.I 1] []=some (.I 1,[]):=by kernel_rfl
def tblT : List (FuncId × AFun):=[(zdI,zjc),(zbT,zhT),(zby,zfv),(zcd,ze6),(zeU,zgY),(zcU,zhz),(zcw,zfs),(zcx,zfu),(zcg,zga),(zbv,zeA),(zbY,zex),(zdi,zf5),(zbV,zh1),(zcf,zfY),(zeP,ziQ),(zez,zhr),(zaF,zhP),(zbt,zhX),(zcF,ze5),(zb4,zc5),(zdO,zgK),(zdX,zfm),(zb6,zdV),(zaL,zbD),(za1,zcp),(zam,zbQ),(zaI,zbh),(zbd,zcn),(zaD,zbl),(zaH,zbe),(za0,zco),(zbx,zc1),(za4,zbI),(zaX,zcC),(zaK,zbC),(zaZ,zbb),(zaU,zbE),(zbP,zcJ),(zbk,zcG),(zaY,zcb),(zaS,zck)]
theorem srcT : ∀ q∈tblT,Src Tryz.prog q.1 q.2:=zah znN (zah zis (zah zfl (zah ze4 (zah zk1 (zah zhs (zah zft (zah zfr (zah zgb (zah zeF (zah zey (zah zfU (zah zgn (zah zfM (zah ziN (zah zhy (zah zid (zah zgi (zah zgJ (zah zdU (zah zgL (zah zhL (zah zdR (zah zba (zah zbH (zah zbO (zah zbg (zah zch (zah zbi (zah zbf (zah zcq (zah zc0 (zah zbM (zah zbS (zah zbA (zah zbB (zah zct (zah zdN (zah zcI (zah zdf (zah zdm zkF))))))))))))))))))))))))))))))))))))))))
theorem tab1 (f : List (List AV)) : evN spE (zhG [⟨zbj,[gSv,sSv,.I 0,.I 3,oSv],.I 0,[]⟩,⟨zbj,[gSv,sSv,.I 1,.I 3,oSv],.I 0,[]⟩,⟨zbq,[gSv,pSv,.I 1],.tup [.rs 0 0 12,.I 0],[some ⟨1,[[.I 2],[.I 1],[.I 0],[.I 0],[.I 0],[.I 0],[.I 0],[.I 0],[.I 0],[.I 0],[.I 0],[.I 0]],0⟩]⟩,⟨zd5,[gSv,.I 1,.I 0,.I 1],.I 1,[]⟩,
 ⟨zd0,[gSv,pSv],.tup [.agg [.vs 1 false [[.I 0],[.I 1]],.vs 1 false f,.vs 2 false []],.I 0],[]⟩]) tblT 1000 40 zdI [gSv,pSv,sSv,.I 3,.I 1] []=some (.tup [.rs 0 0 2,.I 0],[some ⟨6,[[.I 0,.I 0,.I 0,.I 0,.I 2,.B true],[.I 1,.I 1,.I 1,.I 0,.I 1,.B true]],0⟩]):=by kernel_rfl
theorem ztN : zaj Tryz.prog zdI [gSv,pSv,sSv,.I 3,.I 1] [] (.tup [.rs 0 0 2,.I 0]) [some ⟨6,[[.I 0,.I 0,.I 0,.I 0,.I 2,.B true],[.I 1,.I 1,.I 1,.I 0,.I 1,.B true]],0⟩]:=by
 obtain ⟨s0,h0⟩:=zxG dig0;obtain ⟨s1,h1⟩:=zxG dig1;have d0:=zoy zit srcD h0;have d1:=zoy zit srcD h1;have fd:=zfA (q0:=⟨zb2,[by25 [0,0,0,0,0,0,0,1,115,0,0,0,0,0,0,0,0,0,0,0,0,0,0,0,1]],.sc (.string s0),[]⟩) d0 (zfA (q0:=⟨zb2,[by25 [0,0,0,0,0,0,0,1,115,0,0,0,0,0,0,0,1,0,0,0,0,0,0,0,0]],.sc (.string s1),[]⟩) d1 zit);have e0:=zoy fd srcE (esc0 s0 s1);have e1:=zoy fd srcE (esc1 s0 s1);have i1:=zoy (zfA (q0:=⟨za5,[uSv 1,uSv 1],uSv 1,[]⟩) (zoy zit srcI tim1) zit) srcI inv1;have w1:=zoy (zfA (q0:=⟨zbJ,[uSv 1],uSv 1,[]⟩) i1 zit) srcW wei1;have m1:=zoy zit srcM mos1;obtain ⟨f,_,hrun⟩:=zim gS pS ztu znw (by decide) (by decide)
 rw [ordS,accS.1,accS.2] at hrun
 have hrun : zaj Tryz.prog zd0 [gSv,pSv] [] (.tup [.agg [.vs 1 false [[.I 0],[.I 1]],.vs 1 false (f.map λ n=>[AV.I n]),.vs 2 false []],.I 0]) [] :=
  hrun.wk ⟨wkA3 (.refl _) (.refl _) (.nil _ _),.refl _,trivial⟩
 exact zoy (zfA (q0:=⟨zbj,[gSv,sSv,.I 0,.I 3,oSv],.I 0,[]⟩) e0 (zfA (q0:=⟨zbj,[gSv,sSv,.I 1,.I 3,oSv],.I 0,[]⟩) e1 (zfA (q0:=⟨zbq,[gSv,pSv,.I 1],.tup [.rs 0 0 12,.I 0],[some ⟨1,[[.I 2],[.I 1],[.I 0],[.I 0],[.I 0],[.I 0],[.I 0],[.I 0],[.I 0],[.I 0],[.I 0],[.I 0]],0⟩]⟩) w1 (zfA (q0:=⟨zd5,[gSv,.I 1,.I 0,.I 1],.I 1,[]⟩) m1 (zfA hrun zit))))) srcT (tab1 _)
theorem zyx : zaj Tryz.prog zjp [] [] (.tup [gSv,pSv]) []:=by
 refine zrZ.ac ?_;show awp _ 0 _ _ ⟨8,[],[],16⟩;refine rs [0,1] [16,24] [] ?_;refine zaa ⟨8,[(0,.pt 16 0 0),(1,.pt 24 0 0)],[(16,some ⟨3,[[.I 12,.vs 3 false [[.I 0,.I 1,.I 1]],.nilS]],0⟩),(24,some ⟨3,[[.vs 1 false [[.I 0]],.vs 1 false [[.I 5],[.I 4]],.I 1]],0⟩)],300⟩ rfl ?_ ?_
 .simp
  exact Le.go [(16,16),(24,24)] [40,56,64] rfl rfl (by simp) (by simp [zat])
 refine zai ?_;exact ⟨.inr rfl,zao.out [] [16,24] rfl (by simp) (by simp) (.refl _) (by simp)⟩
set_option maxRecDepth 100000 in
set_option maxHeartbeats 4000000 in
theorem znP : zaj Tryz.prog zgm [] [] (.B true) []:=by
 have hwk : ∀ x y : AV,WkL [gSv,pSv,x,y] [eG gS,eP pS,x,y]:=λ x y=>⟨wkA3 (.refl _) (.refl _) (.nil _ _),.refl _,.refl _,.refl _,trivial⟩;have hharm:=(ziB gS pS 1 10 (by decide) (by decide) (by decide) (by decide) (λ _=>by decide)).wk (hwk _ _)
 rw [zBc] at hharm;have hring:=(zew gS pS 1 2 (by decide) (by decide) (by decide) (by decide)).wk (hwk _ _)
 obtain ⟨h,hr,h7⟩:=zvW;rw [hr] at hring;have htab:=ztN;refine zqF.ac ?_;show awp _ 0 _ _ ⟨102,[],[],16⟩;refine rs [] [] [] ?_;refine zaa ⟨102,[(1,.pv [.I 12,.vs 3 false [[.I 0,.I 1,.I 1]],.nilS]),(2,.pv [.vs 1 false [[.I 0]],.vs 1 false [[.I 5],[.I 4]],.I 1])],[],200⟩ rfl ?_ ?_
 .simp
  refine zap zyx (by simp) ?_
  simp [zat];exact LeH [] [56,64]
 refine zaa ⟨102,[(1,.pv [.I 12,.vs 3 false [[.I 0,.I 1,.I 1]],.nilS]),(2,.pv [.vs 1 false [[.I 0]],.vs 1 false [[.I 5],[.I 4]],.I 1]),(3,.I 3),(4,.I 0),(5,.I 0)],[],300⟩ rfl ?_ ?_
 .simp
  refine zap hharm (by simp) ?_
  simp;exact LeH [] []
 refine zaa ⟨102,[(1,.pv [.I 12,.vs 3 false [[.I 0,.I 1,.I 1]],.nilS]),(2,.pv [.vs 1 false [[.I 0]],.vs 1 false [[.I 5],[.I 4]],.I 1]),(3,.I 3),(4,.I 0),(5,.I 0),(6,.pv (gC h)),(7,.vs 1 false [[.I 2],[.I 3]]),(8,.I 0)],[],400⟩ rfl ?_ ?_
 .simp
  refine zap hring (by simp) ?_
  simp [zat];exact LeH [] [356]
 refine zaa ⟨102,[(3,.I 3),(4,.I 0),(5,.I 0),(6,.pv (gC h)),(7,.vs 1 false [[.I 2],[.I 3]]),(8,.I 0),(9,.vs 6 false [[.I 0,.I 0,.I 0,.I 0,.I 2,.B true],[.I 1,.I 1,.I 1,.I 0,.I 1,.B true]]),(10,.I 0)],[],500⟩ rfl ?_ ?_
 .simp
  refine zbz htab (by simp) ?_
  simp;exact LeH [] [416]
 refine zaa ⟨102,[(0,.B true)],[],2000⟩ rfl ?_ ?_
 .simp [h7]
  exact LeH [] []
 refine zai ?_;exact ⟨.inr rfl,zao.one (by simp)⟩
variable {g : Gr} {p : Pol} {x : Int} {l : List Int}
def zsd (g : Gr) (m : Int) : Gr:=⟨g.size+m,g.edges,g.gone⟩
theorem zwG (hg : GrOk g) {m : Int} (h0 : 0<=m) (h : g.size+m<=64) : GrOk (zsd g m):=by
 refine GrOk.of (by have:=hg.1.1; omega) h hg.1.2.2.1 (λ i hi=>?_) hg.pair λ e he=>?_
 .have:=hg.1.2.2.2 i hi
  exact ⟨this.1,by show g.gone[i]<=g.size+m - 1; omega,this.2.2⟩
 .have h1:=hg.fits e he
  refine ⟨?_,hg.val e he⟩;unfold Fits at h1 ⊢;exact ⟨h1.1,by show e.f<=g.size+m - 1; omega,h1.2.2.1,by show e.t<=g.size+m - 1; omega,h1.2.2.2.2⟩
theorem zwY {n m : Int} (hp : zbu n p) (h0 : 0<=m) : zbu (n+m) p:=by
 refine ⟨hp.1,λ i hi=>?_,hp.2.2⟩;have:=hp.2.1 i hi;exact ⟨this.1,by omega,this.2.2⟩
section
variable {g : Gr} {lv a b : Int}
end
variable {g : Gr} {p : Pol} {x : Int} {l : List Int}
theorem ztO {g : Gr} (hg : GrOk g) (h9 : g.size<=9) : g.edges.length<=81:=by
 have hn : (g.edges.map λ e=>e.f*9+e.t).Nodup:=by
  rw [List.Nodup,List.pairwise_map];refine hg.pair.imp_of_mem λ {a b} ha hb hab=>?_;have h1:=hg.fits a ha;have h2:=hg.fits b hb;unfold Fits at h1 h2;unfold Bef at hab;omega
 have:=zbm (b:=(List.range 81).map λ i : Nat=>(i : Int)) hn λ x hx=>by
  obtain ⟨e,he,rfl⟩:=List.mem_map.1 hx;have h1:=hg.fits e he;unfold Fits at h1;exact List.mem_map.2 ⟨(e.f*9+e.t).toNat,List.mem_range.2 (by omega),by omega⟩
 simpa using this
def cntI (a l : List Int) (i : Nat) : Nat:=((l.take i).filter λ k=>decide (k∈a)).length
theorem zu8 {a l : List Int} {i : Nat} (h : i<l.length) : cntI a l (i+1)=cntI a l i+if l[i]∈a then 1 else 0:=by
 unfold cntI;rw [List.take_succ_eq_append_getElem h,List.filter_append,List.length_append,List.filter_cons]
 by_cases h2 : l[i]∈a <;> simp [h2]
theorem zyg (a l : List Int) (i : Nat) : cntI a l i<=l.length:=by
 unfold cntI;have h1:=List.length_filter_le (λ k=>decide (k∈a)) (l.take i);have h2:=List.length_take_le' i l;omega
variable {g : Gr} {p : Pol} {x : Int} {l : List Int}
def edI (x : Int) (l : List Int) (i : Nat) : List Ed:=[⟨x,l.getD i 0,3⟩]++((if 1<l.length then [⟨l.getD i 0,l.getD ((i+1) % l.length) 0,3⟩] else [])++[⟨l.getD i 0,x,3⟩])
def edF (x : Int) (l : List Int) (i : Nat) : List Ed:=(List.range i).flatMap (edI x l)
theorem zsC (i : Nat) : edF x l (i+1)=edF x l i++edI x l i:=by
 unfold edF;rw [List.range_succ,List.flatMap_append];simp
theorem zo9 : ∀ i,(edF x l i).length<=3*i
 | 0=>by simp [edF]
 | i+1=>by
   rw [zsC,List.length_append];have h1:=zo9 i;have h2 : (edI x l i).length<=3:=by unfold edI; split <;> simp
   omega
theorem zqt {f g : Nat->List Ed} (h : ∀ i,(f i).Perm (g i)) : ∀ l : List Nat,(l.flatMap f).Perm (l.flatMap g)
 | []=>.refl _
 | i::l=>by
   rw [List.flatMap_cons,List.flatMap_cons];exact (h i).append (zqt h l)
theorem zl1 : (edF x l l.length).Perm (tieL x l):=by
 unfold edF tieL;refine zqt (λ i=>?_) _;unfold edI tieI;exact List.perm_append_comm.append_left [_]
theorem zvf (hn : l.Nodup) (hx : x∉l) : (edF x l l.length).Pairwise zkS :=
 (zl1.pairwise_iff λ {a b} h=>λ e=>h ⟨e.1.symm,e.2.symm⟩).2 (zmv hn hx)
theorem zu2 {e : Ed} (hg : GrOk g) (hf : Fits g e) (hv : 1<=e.v/\e.v<=3) (hl : g.edges.length<500) (hn : ∀ x∈g.edges,¬ (x.f=e.f/\x.t=e.t)) : (zdC g e).2=0/\GrOk (zdC g e).1/\(zdC g e).1.size=g.size/\(zdC g e).1.gone=g.gone/\(∀ x,x∈(zdC g e).1.edges↔x=e∨x∈g.edges)/\(zdC g e).1.edges.length<=g.edges.length+1:=by
 have h0:=(zwA hg hl).2 ⟨hf,hv,λ ⟨x,hx,h1,h2⟩=>hn x hx ⟨h1,h2⟩⟩;obtain ⟨_,_,_,_,_,he,hok⟩:=zpv h0;refine ⟨h0,?_⟩;rw [he];refine ⟨hok,rfl,rfl,zwj g e,?_⟩;simp [zmu];omega
structure zm9 (g : Gr) (E : List Ed) (G : Gr) : Prop where
 ok : GrOk G
 size : G.size=g.size
 gone : G.gone=g.gone
 mem : ∀ e,e∈G.edges↔e∈E∨e∈g.edges
 len : G.edges.length<=g.edges.length+E.length
theorem zm9.zero (hg : GrOk g) : zm9 g [] g:=⟨hg,rfl,rfl,λ e=>by simp,by simp⟩
theorem zm9.next (hf : zk5 g p x l) (hr : GrOk (zce g x l)) (hl : g.edges.length+3*l.length<=500) {G : Gr} {i : Nat} (h : zm9 g ((edF x l l.length).take i) G) (hi : i<(edF x l l.length).length) :
  (zdC G (edF x l l.length)[i]).2=0/\zm9 g ((edF x l l.length).take (i+1)) (zdC G (edF x l l.length)[i]).1:=by
 have hxl : x∉l:=λ h=>hf.ne x h rfl;have hE:=zo9 (x:=x) (l:=l) l.length;have hap:=zvf hf.nodup hxl;have hem : (edF x l l.length)[i]∈tieL x l:=zl1.mem_iff.1 (List.getElem_mem hi);have htk:=List.take_succ_eq_append_getElem hi;have hlt:=h.len;rw [List.length_take] at hlt;have hro:=zgv.2 (.inr hem : (edF x l l.length)[i]∈g.edges∨_);have hfit:=hr.fits _ hro;have hval:=hr.val _ hro
 have hap2 : ∀ y∈(edF x l l.length).take i,zkS y (edF x l l.length)[i]:=λ y hy=>by
  obtain ⟨j,hj,rfl⟩:=List.getElem_of_mem hy;rw [List.length_take] at hj;rw [List.getElem_take];exact List.pairwise_iff_getElem.1 hap j i (by omega) hi (by omega)
 obtain ⟨e,he⟩ : ∃ e,e=(edF x l l.length)[i]:=⟨_,rfl⟩;rw [<- he] at hem hfit hval htk ⊢;simp only [<- he] at hap2
 obtain ⟨h0,h1,h2,h3,h4,h5⟩:=zu2 (g:=G) (e:=e) h.ok (by
  unfold Fits at hfit ⊢;rw [h.size,h.gone]
  exact hfit) hval (by omega) λ y hy=>by
   rcases (h.mem y).1 hy with hy | hy
   .exact hap2 y hy
   .have h1:=(zof hem).2
    rintro ⟨e1,e2⟩
    rcases h1 with ⟨_,h⟩ | ⟨_,h⟩ | ⟨h,_⟩
    .exact (hf.edge _ h y hy).2 e2
    .exact (hf.edge _ h y hy).1 e1
    .exact (hf.edge _ h y hy).1 e1
 refine ⟨h0,h1,by rw [h2,h.size],by rw [h3,h.gone],λ y=>?_,?_⟩
 .rw [h4,h.mem,htk,List.mem_append,List.mem_singleton]
  constructor
  .rintro (h | h | h)
   .exact .inl (.inr h)
   .exact .inl (.inl h)
   .exact .inr h
  .rintro ((h | h) | h)
   .exact .inr (.inl h)
   .exact .inl h
   .exact .inr (.inr h)
 .rw [htk,List.length_append,List.length_take]
  simp only [List.length_singleton];have:=h.len;rw [List.length_take] at this;omega
theorem zm9.last (hr : GrOk (zce g x l)) {G : Gr} (h : zm9 g (edF x l l.length) G) : G=zce g x l:=by
 refine zxt h.ok hr h.size h.gone λ e=>?_;rw [h.mem,zgv,zl1.mem_iff];exact Or.comm
theorem zoe (q : Int->Bool) {i : Nat} : ∀ d : Nat,∃ t,za7 (i+d) q=za7 i q++t
 | 0=>⟨[],by simp⟩
 | d+1=>by
   obtain ⟨t,ht⟩:=zoe q (i:=i) d;refine ⟨t++if q ((i+d : Nat) : Int) then [((i+d : Nat) : Int)] else [],?_⟩
   rw [<- Nat.add_assoc,zhg,ht,List.append_assoc]
theorem zsg (q : Int->Bool) {i N : Nat} (h : i<=N) : (za7 N q).take (za7 i q).length=za7 i q:=by
 obtain ⟨t,ht⟩:=zoe q (i:=i) (N - i);rw [show i+(N - i)=N by omega] at ht
 rw [ht];simp
set_option maxRecDepth 100000 in
set_option maxHeartbeats 8000000 in
theorem zkm (g : Gr) (p : Pol) (x n : Int) (hg : GrOk g) (hp : zbu g.size p) (h20 : g.size<20) (he9 : g.edges.length<=81) :
  zaj Tryz.prog zg7 [eG g,eP p,.I x,.I n] [] (zwC (zbL g p x n)) []:=by
 refine zsm.ac ?_;show awp _ 0 _ _ ⟨176,[(0,eG g),(1,eP p),(2,.I x),(3,.I n)],[],16⟩;have hs64:=zrt hg hp;have hpt:=hp.2.2.2.1;have hel:=hg.edges_le;have hgl:=hg.gone_le;have hsz:=hg.1.1;have hchk:=zvK g p (by omega) (by omega) (by omega) (by omega)
 rw [ziy.2 ⟨hg,hp⟩] at hchk;generalize hring : zbL g p x n=r;unfold zbL at hring;rw [if_neg (by rw [ziy.2 ⟨hg,hp⟩]; decide)] at hring
 replace hring:=hring.symm
 have herr : ∀ (e : Int) (m : Nat),r=(zcK,[],e)->zao [(8,some (true,3)),(9,none),(10,none)] 0 ⟨176,[(8,.pt 40 0 0),(9,.nilS),(10,.I e)],[(40,some zG)],m⟩ (zwC r) []:=by
  intro e m he;rw [he];exact zao.out [] [40] rfl (by simp) (by simp) (wkT3 (by simp; exact wkA3 (.refl _) (.nil _ _) (.nil _ _)) (.nil _ _) (.refl _)) (by simp)
 refine zaa ⟨176,[(2,.I x),(3,.I n),(4,.pv (gC g)),(5,.pv (pC p)),(8,.pt 40 0 0)],[(40,some zG)],100⟩ rfl ?_ ?_
 .simp
  exact LeH [(32,40)] [16,24]
 refine zab ?_;refine zaa ⟨176,[(2,.I x),(3,.I n),(4,.pv (gC g)),(5,.pv (pC p)),(8,.pt 40 0 0),(11,.I 0)],[(40,some zG)],200⟩ rfl ?_ ?_
 .simp
  refine zap hchk (by simp) ?_
  simp;exact LeH [(40,40)] []
 refine zaa ⟨176,[(2,.I x),(3,.I n),(4,.pv (gC g)),(5,.pv (pC p)),(8,.pt 40 0 0),(26,.B false)],[(40,some zG)],300⟩ rfl ?_ ?_
 .simp
  exact LeH [(40,40)] []
 refine zad _ rfl (λ h=>by cases h) λ _=>?_
 refine zae ?_;have hhg:=λ k=>znd g.gone k (by omega)
 have hhs:=λ k=>znd p.seeds k (by omega)
 refine zab ?_;refine zaa ⟨176,[(2,.I x),(3,.I n),(4,.pv (gC g)),(5,.pv (pC p)),(8,.pt 40 0 0),(42,.B (decide (¬ (0<=x/\x<=g.size - 1)∨x∈g.gone)))],[(40,some zG)],400⟩ rfl ?_ ?_
 .by_cases h1 : x<0
  .simp [h1]
   exact Le.go [(40,40)] [] rfl rfl (by simp <;> exact wkB (by simp; omega)) (by simp)
  .by_cases h2 : g.size<=x
   .simp [h1,h2]
    exact Le.go [(40,40)] [] rfl rfl (by simp <;> exact wkB (by simp; omega)) (by simp)
   .simp [h1,h2]
    refine zap (hhg x) (by simp) ?_
    simp;exact Le.go [(40,40)] [] rfl rfl (by simp <;> exact wkB (by rw [Bool.eq_iff_iff]; simp; omega)) (by simp)
 refine zad _ rfl (λ h7=>?_) λ h7=>?_
 .rw [decide_eq_true_eq] at h7
  rw [if_pos h7] at hring;refine zaa ⟨176,[(8,.pt 40 0 0),(9,.nilS),(10,.I 4)],[(40,some zG)],500⟩ rfl ?_ ?_
  .simp [zat]
   exact LeH [(40,40)] []
  refine zai ?_;exact ⟨.inr rfl,herr 4 _ hring⟩
 rw [decide_eq_false_iff_not] at h7;rw [if_neg h7] at hring
 have hx : 0<=x/\x<g.size:=by
  have : ¬ ¬ (0<=x/\x<=g.size - 1):=λ h=>h7 (.inl h);omega
 have hxg : x∉g.gone:=λ h=>h7 (.inr h);refine zae ?_;refine zab ?_;refine zaa ⟨176,[(2,.I x),(3,.I n),(4,.pv (gC g)),(5,.pv (pC p)),(8,.pt 40 0 0),(45,.B (decide (n<1)))],[(40,some zG)],500⟩ rfl ?_ ?_
 .simp
  exact LeH [(40,40)] []
 refine zad _ rfl (λ h10=>?_) λ h10=>?_
 .rw [decide_eq_true_eq] at h10
  rw [if_pos h10] at hring;refine zaa ⟨176,[(8,.pt 40 0 0),(9,.nilS),(10,.I 2)],[(40,some zG)],600⟩ rfl ?_ ?_
  .simp [zat]
   exact LeH [(40,40)] []
  refine zai ?_;exact ⟨.inr rfl,herr 2 _ hring⟩
 rw [decide_eq_false_iff_not] at h10;rw [if_neg h10] at hring;refine zae ?_;obtain ⟨N,hN⟩ : ∃ N : Nat,g.size=N:=⟨g.size.toNat,by omega⟩
 have hNn : g.size.toNat=N:=by omega
 obtain ⟨K,hK⟩ : ∃ K : Nat->List Int,∀ i,K i=za7 i (zh7 g p x):=⟨_,λ _=>rfl⟩;have hK0 : K 0=[]:=by rw [hK]; rfl
 have hKl : ∀ i,(K i).length<=i:=λ i=>by rw [hK]; exact zfQ _ _
 have hKs : ∀ i : Nat,K (i+1)=K i++if zh7 g p x i=true then [(i : Int)] else []:=λ i=>by rw [hK,hK]; exact zhg _ _
 have hKT : ∀ (i : Nat) (f : Int->List AV),((K i).map f).take (K i).length=(K i).map f:=λ i f=>List.take_of_length_le (by simp)
 refine zaa ⟨176,[(2,.I x),(3,.I n),(4,.pv (gC g)),(5,.pv (pC p)),(8,.pt 40 0 0),(12,.nilS)],[(40,some zG)],700⟩ rfl ?_ ?_
 .simp
  exact LeH [(40,40)] []
 refine zab ?_;refine zaa ⟨176,[(2,.I x),(3,.I n),(4,.pv (gC g)),(5,.pv (pC p)),(8,.pt 40 0 0),(12,.nilS),(13,.I 0)],[(40,some zG)],800⟩ rfl ?_ ?_
 .simp
  exact LeH [(40,40)] []
 refine zaf ?_
 refine zas (ι:=Nat) (λ i=>⟨176,[(2,.I x),(3,.I n),(4,.pv (gC g)),(5,.pv (pC p)),(8,.pt 40 0 0),(12,.rs 50 0 (K i).length),(13,.I i)],[(40,some zG),(50,some ⟨1,zag (K i),0⟩)],900⟩) (λ i=>i<=N/\((K i).length : Int)<=n) (λ i=>N - i) 0 ⟨Nat.zero_le _,by rw [hK0]; simp; omega⟩
  (Le.lst [(40,40)] [] [(50,1)] rfl (by simp) (by simp) (by simp) (by simp) (by simp) (by simp) (by simp) (by simp [Up,hK0]) (by simp [hK0]; exact zaN.eq (by simp) (by simp))) ?_
 rintro i ⟨hi,hin⟩
 have hKli:=hKl i;refine zab ?_;refine zaa ⟨176,[(2,.I x),(3,.I n),(4,.pv (gC g)),(5,.pv (pC p)),(8,.pt 40 0 0),(12,.rs 50 0 (K i).length),(13,.I i),(56,.B (decide (i<N/\((K i).length : Int)<n)))],[(40,some zG),(50,some ⟨1,zag (K i),0⟩)],1000⟩ rfl ?_ ?_
 .by_cases h1 : i<N
  .simp [hN,h1]
   exact Le.go [(40,40),(50,50)] [] rfl rfl (by simp [h1]) (by simp [fcd])
  .simp [hN,h1]
   exact Le.go [(40,40),(50,50)] [] rfl rfl (by simp [h1]) (by simp [fcd])
 refine zad _ rfl (λ h15=>?_) λ h15=>?_
 .rw [decide_eq_true_eq] at h15
  obtain ⟨hiN,hin2⟩:=h15;have hwi : IntKind.i64.wrap ((i : Int)+1)=((i+1 : Nat) : Int):=by rw [w6]; omega
  have hks:=hKs i;have hKTi:=hKT i;obtain ⟨k,hk⟩ : ∃ k : Int,k=i:=⟨_,rfl⟩;obtain ⟨U,hU⟩ : ∃ U : Nat->Bool,∀ j,U j=((decide (k=x) || (g.gone.contains k || p.seeds.contains k)) || (g.edges.take j).any λ e=>decide (e.f=k) || decide (e.t=k)):=⟨_,λ _=>rfl⟩;have hU0 : U 0=(decide (k=x) || (g.gone.contains k || p.seeds.contains k)):=by rw [hU]; simp
  have hUs : ∀ (j : Nat) (h : j<g.edges.length),U (j+1)=(U j || (decide (g.edges[j].f=k) || decide (g.edges[j].t=k))):=λ j h=>by
   rw [hU,hU,List.take_succ_eq_append_getElem h,List.any_append];simp only [List.any_cons,List.any_nil,Bool.or_false,Bool.or_assoc]
  have hUM : U g.edges.length = !zh7 g p x k:=by
   rw [hU,List.take_length];unfold zh7;rw [show g.gone.contains k=decide (k∈g.gone) by simp,show p.seeds.contains k=decide (k∈p.seeds) by simp]
   cases decide (k=x) <;> cases decide (k∈g.gone) <;> cases decide (k∈p.seeds) <;> cases (g.edges.any λ e=>decide (e.f=k) || decide (e.t=k)) <;> rfl
  rw [<- hk] at hks;obtain ⟨L,hL⟩ : ∃ L,L=K i:=⟨_,rfl⟩;rw [<- hL] at hks hKli hKTi ⊢;refine zae ?_;refine zaO (ι:=Unit) (λ _=>⟨176,[(2,.I x),(3,.I n),(4,.pv (gC g)),(5,.pv (pC p)),(8,.pt 40 0 0),(12,.rs 50 0 (K (i+1)).length),(13,.I k)],[(40,some zG),(50,some ⟨1,zag (K (i+1)),0⟩)],3000⟩) (λ _=>True) ?_ λ _ _=>?_
  .refine zaf ?_
   refine zaa ⟨176,[(2,.I x),(3,.I n),(4,.pv (gC g)),(5,.pv (pC p)),(8,.pt 40 0 0),(12,.rs 50 0 L.length),(13,.I k),(14,.B (U 0))],[(40,some zG),(50,some ⟨1,zag L,0⟩)],1200⟩ rfl ?_ ?_
   .rw [<- hk]
    by_cases h1 : k=x
    .have hb1 : (k == x)=true:=by simpa using h1
     simp [hb1];exact Le.go [(40,40),(50,50)] [] rfl rfl (by simp [hU0,h1]) (by simp [fcd])
    .have hb1 : (k == x)=false:=by simpa using h1
     have hd1 : decide (k=x)=false:=decide_eq_false h1;have hh1:=hhg k;have hh2:=hhs k;simp [hb1];refine zi1 [50] hh1 (by simp) (.sc _) ?_
     cases hb2 : g.gone.contains k
     .have hm : decide (k∈g.gone)=false:=by simpa using hb2
      simp;refine zi1 [50] hh2 (by simp) (.sc _) ?_
      simp;exact Le.go [(40,40),(50,50)] [] rfl rfl (by simp [hU0,hd1] <;> exact wkB (by rw [hm]; rfl)) (by simp [fcd])
     .have hm : decide (k∈g.gone)=true:=by simpa using hb2
      simp;exact Le.go [(40,40),(50,50)] [] rfl rfl (by simp [hU0,hd1] <;> exact wkB (by rw [hm]; rfl)) (by simp [fcd])
   refine zab ?_;refine zaa ⟨176,[(2,.I x),(3,.I n),(4,.pv (gC g)),(5,.pv (pC p)),(8,.pt 40 0 0),(12,.rs 50 0 L.length),(13,.I k),(14,.B (U 0)),(15,.I 0)],[(40,some zG),(50,some ⟨1,zag L,0⟩)],1300⟩ rfl ?_ ?_
   .simp
    exact LeI [(40,40),(50,50)] []
   refine zaf ?_
   refine zas (ι:=Nat) (λ j=>⟨176,[(2,.I x),(3,.I n),(4,.pv (gC g)),(5,.pv (pC p)),(8,.pt 40 0 0),(12,.rs 50 0 L.length),(13,.I k),(14,.B (U j)),(15,.I j)],[(40,some zG),(50,some ⟨1,zag L,0⟩)],1400⟩) (λ j=>j<=g.edges.length) (λ j=>g.edges.length - j) 0 (Nat.zero_le _)
    (LeI [(40,40),(50,50)] []) ?_
   intro j hj;refine zab ?_;refine zaa ⟨176,[(2,.I x),(3,.I n),(4,.pv (gC g)),(5,.pv (pC p)),(8,.pt 40 0 0),(12,.rs 50 0 L.length),(13,.I k),(14,.B (U j)),(15,.I j),(78,.B (decide (j<g.edges.length)))],[(40,some zG),(50,some ⟨1,zag L,0⟩)],1500⟩ rfl ?_ ?_
   .simp
    exact LeI [(40,40),(50,50)] []
   refine zad _ rfl (λ h19=>?_) λ h19=>?_
   .rw [decide_eq_true_eq] at h19
    have hwj : IntKind.i64.wrap ((j : Int)+1)=((j+1 : Nat) : Int):=by rw [w6]; omega
    have hus:=hUs j h19;obtain ⟨e,hee⟩ : ∃ e,e=g.edges[j]:=⟨_,rfl⟩;rw [<- hee] at hus;refine zae ?_;refine zaO (ι:=Unit) (λ _=>⟨176,[(2,.I x),(3,.I n),(4,.pv (gC g)),(5,.pv (pC p)),(8,.pt 40 0 0),(12,.rs 50 0 L.length),(13,.I k),(14,.B (U (j+1))),(15,.I j)],[(40,some zG),(50,some ⟨1,zag L,0⟩)],2000⟩) (λ _=>True) ?_ λ _ _=>?_
    .refine zaf ?_
     rw [hus];refine zav rfl ?_
     cases hb : U j
     .by_cases h1 : e.f=k
      .have hb1 : (e.f == k)=true:=by simpa using h1
       simp [h19,<- hee,hb1];exact Le.go [(40,40),(50,50)] [] rfl rfl (by simp [h1]) (by simp [fcd])
      .have hb1 : (e.f == k)=false:=by simpa using h1
       simp [h19,<- hee,hb1];exact Le.go [(40,40),(50,50)] [] rfl rfl (by simp [h1] <;> exact wkB (by rw [Bool.eq_iff_iff]; simp)) (by simp [fcd])
     .simp
      exact LeI [(40,40),(50,50)] []
    refine zav rfl ?_;simp [hwj];exact ⟨j+1,by omega,by omega,LeI [(40,40),(50,50)] []⟩
   rw [decide_eq_false_iff_not] at h19;obtain rfl : j=g.edges.length:=by omega
   refine zaq ?_;refine hit ?_;rw [hUM];refine zaa ⟨176,[(2,.I x),(3,.I n),(4,.pv (gC g)),(5,.pv (pC p)),(8,.pt 40 0 0),(12,.rs 50 0 L.length),(13,.I k),(103,.B (zh7 g p x k))],[(40,some zG),(50,some ⟨1,zag L,0⟩)],1600⟩ rfl ?_ ?_
   .simp
    exact LeI [(40,40),(50,50)] []
   refine zad _ rfl (λ hd=>?_) λ hd=>?_
   .rw [if_pos hd] at hks
    refine zav rfl ?_;simp [zhf];refine ⟨by omega,by omega,?_⟩
    rw [hks];exact Le.go [(40,40),(1624,50)] [] rfl rfl (by simp) (by simp [fcd,hKTi])
   .rw [if_neg (by rw [hd]; decide),List.append_nil] at hks
    refine zae ?_;refine ⟨(),trivial,?_⟩;rw [hks];exact LeI [(40,40),(50,50)] []
  have hl1 : ((K (i+1)).length : Int)<=n:=by
   rw [hks,List.length_append];rw [hL] at hks ⊢;split <;> simp <;> omega
  refine zav rfl ?_;simp [hk,hwi];exact ⟨i+1,by omega,by omega,LeI [(40,40),(50,50)] []⟩
 rw [decide_eq_false_iff_not] at h15;refine zaq ?_;refine hit ?_;have hfree : za7 N (zh7 g p x)=zge g p x:=by rw [<- hNn]; rfl
 have htk : (zge g p x).take (K i).length=K i:=by rw [<- hfree,hK]; exact zsg _ hi
 have hKTi:=hKT i;refine zab ?_;refine zaa ⟨176,[(2,.I x),(3,.I n),(4,.pv (gC g)),(5,.pv (pC p)),(8,.pt 40 0 0),(12,.rs 50 0 (K i).length),(111,.B (decide (((K i).length : Int)<n)))],[(40,some zG),(50,some ⟨1,zag (K i),0⟩)],4000⟩ rfl ?_ ?_
 .simp
  exact LeI [(40,40),(50,50)] []
 refine zad _ rfl (λ h23=>?_) λ h23=>?_
 .rw [decide_eq_true_eq] at h23
  have hiN : i=N:=by omega
  have hfl : ((zge g p x).length : Int)<n:=by rw [<- hfree,<- hiN,<- hK]; exact h23
  rw [if_pos hfl] at hring;refine zaa ⟨176,[(8,.pt 40 0 0),(9,.nilS),(10,.I 3)],[(40,some zG)],5000⟩ rfl ?_ ?_
  .simp [zat]
   exact LeH [(40,40)] []
  refine zai ?_;exact ⟨.inr rfl,herr 3 _ hring⟩
 rw [decide_eq_false_iff_not] at h23;have hl20 : (K i).length<20:=by omega
 have hln : n=(K i).length:=by omega
 obtain ⟨l,hl⟩ : ∃ l,l=K i:=⟨_,rfl⟩;rw [<- hl] at htk hl20 hln hKTi ⊢;subst hln;have hfk : zk5 g p x l:=by rw [<- htk]; exact zhW _
 have hE3:=zo9 (x:=x) (l:=l) l.length
 have htl : g.edges.length+(tieL x l).length<=500:=by
  rw [<- (zl1 (x:=x) (l:=l)).length_eq];omega
 have hfl : ¬ ((zge g p x).length : Int)<l.length:=by
  have:=congrArg List.length htk;rw [List.length_take] at this;omega
 rw [if_neg hfl,Int.toNat_natCast,htk,if_neg (by omega)] at hring
 have hro:=zpC hg hfk hx hxg htl;refine zae ?_;refine zaa ⟨176,[(2,.I x),(3,.I (l.length : Int)),(4,.pv (gC g)),(8,.pt 40 0 0),(12,ints l),(16,.nilS)],[(40,some zG)],5000⟩ rfl ?_ ?_
 .simp
  exact Le.go [(40,40)] [50] rfl rfl (by simp [fcd,hKTi]) (by simp)
 refine zab ?_;refine zaa ⟨176,[(2,.I x),(3,.I (l.length : Int)),(4,.pv (gC g)),(8,.pt 40 0 0),(12,ints l),(16,.nilS),(17,.I 0)],[(40,some zG)],5100⟩ rfl ?_ ?_
 .simp
  exact Le.go [(40,40)] [] rfl rfl (by simp [fcd,zac]) (by simp)
 have hF0 : edF x l 0=[]:=rfl;have hFT : ∀ (j : Nat) (f : Ed->List AV),((edF x l j).map f).take (edF x l j).length=(edF x l j).map f:=λ j f=>List.take_of_length_le (by simp)
 refine zaf ?_
 refine zas (ι:=Nat) (λ j=>⟨176,[(2,.I x),(3,.I (l.length : Int)),(4,.pv (gC g)),(8,.pt 40 0 0),(12,ints l),(16,.rs 60 0 (edF x l j).length),(17,.I j)],[(40,some zG),(60,some ⟨3,zaT (edF x l j),0⟩)],5200⟩) (λ j=>j<=l.length) (λ j=>l.length - j) 0 (Nat.zero_le _)
  (Le.lst [(40,40)] [] [(60,3)] rfl (by simp) (by simp) (by simp) (by simp) (by simp) (by simp) (by simp) (by simp [Up,hF0,fcd,zac]) (by simp [hF0]; exact zaN.eq (by simp) (by simp))) ?_
 intro j hj;refine zab ?_;refine zaa ⟨176,[(2,.I x),(3,.I (l.length : Int)),(4,.pv (gC g)),(8,.pt 40 0 0),(12,ints l),(16,.rs 60 0 (edF x l j).length),(17,.I j),(115,.B (decide (j<l.length)))],[(40,some zG),(60,some ⟨3,zaT (edF x l j),0⟩)],5300⟩ rfl ?_ ?_
 .simp
  exact Le.go [(40,40),(60,60)] [] rfl rfl (by simp [fcd,zac]) (by simp [fcd])
 refine zad _ rfl (λ h28=>?_) λ h28=>?_
 .rw [decide_eq_true_eq] at h28
  have hwj : IntKind.i64.wrap ((j : Int)+1)=(j : Int)+1:=w6;have hFl:=zo9 (x:=x) (l:=l) j;have hFs : edF x l (j+1)=edF x l j++edI x l j:=zsC j;have hFTj:=hFT j;obtain ⟨k,hk⟩ : ∃ k,k=l.getD j 0:=⟨_,rfl⟩;have hkj : l[j]=k:=by rw [hk,List.getD_eq_getElem?_getD,List.getElem?_eq_getElem h28,Option.getD_some]
  have hei : edI x l j=[⟨x,k,3⟩]++((if 1<l.length then [⟨k,l.getD ((j+1) % l.length) 0,3⟩] else [])++[⟨k,x,3⟩]):=by rw [hk]; rfl
  rw [hei] at hFs;obtain ⟨F,hF⟩ : ∃ F,F=edF x l j:=⟨_,rfl⟩;rw [<- hF] at hFs hFl hFTj ⊢;refine zae ?_;refine zaO (ι:=Unit) (λ _=>⟨176,[(2,.I x),(3,.I (l.length : Int)),(4,.pv (gC g)),(8,.pt 40 0 0),(12,ints l),(16,.rs 60 0 (edF x l (j+1)).length),(17,.I j)],[(40,some zG),(60,some ⟨3,zaT (edF x l (j+1)),0⟩)],7000⟩) (λ _=>True) ?_ λ _ _=>?_
  .refine zaf ?_
   obtain ⟨F2,hF2⟩ : ∃ F2 : List Ed,F2=F++[⟨x,k,3⟩]:=⟨_,rfl⟩;have hF2l : F2.length=F.length+1:=by rw [hF2]; simp
   refine zaa ⟨176,[(2,.I x),(3,.I (l.length : Int)),(4,.pv (gC g)),(8,.pt 40 0 0),(12,ints l),(16,.rs 60 0 F2.length),(17,.I j)],[(40,some zG),(60,some ⟨3,zaT F2,0⟩)],5500⟩ rfl ?_ ?_
   .simp [h28,hkj,zhf]
    refine ⟨by omega,by omega,?_⟩
    exact Le.go [(40,40),(5364,60)] [] rfl rfl (by simp [fcd,zac,hF2l]) (by simp [fcd,hFTj,hF2])
   have hF2T : ∀ f : Ed->List AV,(F2.map f).take F2.length=F2.map f:=λ f=>List.take_of_length_le (by simp)
   rw [<- List.append_assoc] at hFs;rw [<- hF2] at hFs;obtain ⟨F3,hF3⟩ : ∃ F3,F3=F2++(if 1<l.length then [⟨k,l.getD ((j+1) % l.length) 0,3⟩] else []):=⟨_,rfl⟩
   have hF3l : F3.length<=F2.length+1:=by rw [hF3,List.length_append]; split <;> simp
   have hF3T : ∀ f : Ed->List AV,(F3.map f).take F3.length=F3.map f:=λ f=>List.take_of_length_le (by simp)
   rw [<- List.append_assoc,<- hF3] at hFs;refine zaO (ι:=Unit) (λ _=>⟨176,[(2,.I x),(3,.I (l.length : Int)),(4,.pv (gC g)),(8,.pt 40 0 0),(12,ints l),(16,.rs 60 0 F3.length),(17,.I j)],[(40,some zG),(60,some ⟨3,zaT F3,0⟩)],6000⟩) (λ _=>True) ?_ λ _ _=>?_
   .refine zaa ⟨176,[(2,.I x),(3,.I (l.length : Int)),(4,.pv (gC g)),(8,.pt 40 0 0),(12,ints l),(16,.rs 60 0 F2.length),(17,.I j),(128,.B (decide ((1 : Int)<l.length)))],[(40,some zG),(60,some ⟨3,zaT F2,0⟩)],5600⟩ rfl ?_ ?_
    .simp
     exact Le.go [(40,40),(60,60)] [] rfl rfl (by simp [fcd,zac]) (by simp [fcd])
    refine zad _ rfl (λ h31=>?_) λ h31=>?_
    .rw [decide_eq_true_eq] at h31
     rw [if_pos (by omega)] at hF3
     have hrem : ((j : Int)+1).tmod (l.length : Int)=(((j+1) % l.length : Nat) : Int):=(Int.ofNat_tmod (j+1) l.length).symm;have hjm : (j+1) % l.length<l.length:=Nat.mod_lt _ (by omega)
     obtain ⟨m,hm⟩ : ∃ m,m=(j+1) % l.length:=⟨_,rfl⟩;rw [<- hm] at hrem hjm hF3;have hkm : l[m]=l.getD m 0:=by rw [List.getD_eq_getElem?_getD,List.getElem?_eq_getElem hjm,Option.getD_some]
     obtain ⟨k2,hk2⟩ : ∃ k2,k2=l.getD m 0:=⟨_,rfl⟩;rw [<- hk2] at hkm hF3;have hN0 : ¬ (l.length : Int)=0:=by omega
     have hN1 : ¬ l=[]:=λ h=>by rw [h] at h28; exact Nat.not_lt_zero _ h28
     refine zcP rfl ?_;simp [h28,hkj,hwj,hrem,hjm,hkm,zhf];refine ⟨_,⟨hN1,rfl⟩,?_⟩;simp [hjm,hkm,zhf];refine ⟨by omega,by omega,?_⟩
     refine ⟨rfl,?_⟩;rw [hF3];exact Le.go [(40,40),(5712,60)] [] rfl rfl (by simp [fcd,zac]) (by simp [fcd,hF2T])
    .rw [decide_eq_false_iff_not] at h31
     rw [if_neg (by omega),List.append_nil] at hF3
     refine zae ?_;refine ⟨(),trivial,?_⟩;rw [hF3];exact Le.go [(40,40),(60,60)] [] rfl rfl (by simp [fcd,zac]) (by simp [fcd])
   refine zav rfl ?_;simp [h28,hkj,zhf];refine ⟨by omega,by omega,?_⟩
   rw [hFs];exact Le.go [(40,40),(6064,60)] [] rfl rfl (by simp [fcd,zac]) (by simp [fcd,hF3T])
  refine zav rfl ?_;simp [hwj];exact ⟨j+1,by omega,by omega,Le.go [(40,40),(60,60)] [] rfl rfl (by simp [fcd,zac]) (by simp [fcd])⟩
 rw [decide_eq_false_iff_not] at h28;obtain rfl : j=l.length:=by omega
 have hnext:=λ (G : Gr) (i : Nat) (h : zm9 g ((edF x l l.length).take i) G) (hi : i<(edF x l l.length).length)=>h.next hfk hro (by omega) hi
 have hlast:=λ (G : Gr) (h : zm9 g (edF x l l.length) G)=>h.last hro;have hET:=hFT l.length;refine zaq ?_;refine hit ?_;obtain ⟨E,hE⟩ : ∃ E,E=edF x l l.length:=⟨_,rfl⟩;rw [<- hE] at hE3 hET ⊢;simp only [<- hE] at hnext hlast;refine zaa ⟨176,[(8,.pt 40 0 0),(12,ints l),(16,eEs E),(18,.pt 70 0 0)],[(40,some zG),(70,some ⟨3,[gC g],0⟩)],8000⟩ rfl ?_ ?_
 .simp
  refine zql (zhh g (by omega) (by omega)) rfl ?_
  simp [fcd,zat];exact Le.go [(40,40),(5316,70)] [60,5308,5309] rfl rfl (by simp [fcd,zac,hET]) (by simp [fcd,zac,zat])
 refine zab ?_;refine zaa ⟨176,[(8,.pt 40 0 0),(12,ints l),(16,eEs E),(18,.pt 70 0 0),(19,.I 0)],[(40,some zG),(70,some ⟨3,[gC g],0⟩)],8100⟩ rfl ?_ ?_
 .simp
  exact Le.go [(40,40),(70,70)] [] rfl rfl (by simp [fcd,zac]) (by simp [fcd,zac,zat])
 refine zaf ?_
 refine zas (ι:=Gr × Nat) (λ s=>⟨176,[(8,.pt 40 0 0),(12,ints l),(16,eEs E),(18,.pt 70 0 0),(19,.I s.2)],[(40,some zG),(70,some ⟨3,[gC s.1],0⟩)],8200⟩) (λ s=>s.2<=E.length/\zm9 g (E.take s.2) s.1) (λ s=>E.length - s.2) (g,0) ⟨Nat.zero_le _,zm9.zero hg⟩
  (Le.go [(40,40),(70,70)] [] rfl rfl (by simp [fcd,zac]) (by simp [fcd,zac,zat])) ?_
 rintro ⟨G,i2⟩ ⟨hi2,hG⟩
 simp only at hi2 hG ⊢;refine zab ?_;refine zaa ⟨176,[(8,.pt 40 0 0),(12,ints l),(16,eEs E),(18,.pt 70 0 0),(19,.I i2),(158,.B (decide (i2<E.length)))],[(40,some zG),(70,some ⟨3,[gC G],0⟩)],8300⟩ rfl ?_ ?_
 .simp
  exact Le.go [(40,40),(70,70)] [] rfl rfl (by simp [fcd,zac]) (by simp [fcd,zac,zat])
 refine zad _ rfl (λ h35=>?_) λ h35=>?_
 .rw [decide_eq_true_eq] at h35
  have hwi : IntKind.i64.wrap ((i2 : Int)+1)=((i2+1 : Nat) : Int):=by rw [w6]; omega
  obtain ⟨h0,hG2⟩:=hnext G i2 hG h35;have hGe:=hG.ok.edges_le;have hGg:=hG.ok.gone_le;have hwith:=zjH G E[i2] (by omega) (by omega)
  rw [h0] at hwith;obtain ⟨e,hee⟩ : ∃ e,e=E[i2]:=⟨_,rfl⟩;rw [<- hee] at hwith hG2;obtain ⟨G2,hG2d⟩ : ∃ G2,G2=(zdC G e).1:=⟨_,rfl⟩;rw [<- hG2d] at hwith hG2;refine zae ?_;refine zab ?_;refine zaf ?_;refine zaC ⟨176,[(8,.pt 40 0 0),(12,ints l),(16,eEs E),(18,.pt 70 0 0),(19,.I i2),(20,.pv (gC G2)),(21,.I 0)],[(40,some zG),(70,some ⟨3,[gC G],0⟩)],8500⟩ rfl ?_ ?_
  .simp [h35,<- hee]
   refine zap hwith (by simp [fcd,zac,zat]) ?_
   simp [zat];exact ⟨rfl,Le.go [(40,40),(70,70)] [8372] rfl rfl (by simp [fcd,zac]) (by simp [fcd,zac,zat])⟩
  refine zab ?_;refine zaa ⟨176,[(8,.pt 40 0 0),(12,ints l),(16,eEs E),(18,.pt 70 0 0),(19,.I i2),(20,.pv (gC G2)),(171,.B false)],[(40,some zG),(70,some ⟨3,[gC G],0⟩)],8600⟩ rfl ?_ ?_
  .simp
   exact Le.go [(40,40),(70,70)] [] rfl rfl (by simp [fcd,zac]) (by simp [fcd,zac,zat])
  refine zad _ rfl (λ h=>by cases h) λ _=>?_
  refine zae ?_;refine zav rfl ?_;simp [zat];refine zav rfl ?_;simp [hwi];exact ⟨G2,i2+1,⟨by omega,hG2⟩,by omega,Le.go [(40,40),(70,70)] [] rfl rfl (by simp [fcd,zac]) (by simp [fcd,zac,zat])⟩
 rw [decide_eq_false_iff_not] at h35;obtain rfl : i2=E.length:=by omega
 rw [List.take_length] at hG;have hGr:=hlast G hG;rw [<- hGr] at hring;refine zaq ?_;refine hit ?_;refine zaa ⟨176,[(8,.pt 40 0 0),(9,ints l),(10,.I 0)],[(40,some ⟨3,[gC G],0⟩)],9000⟩ rfl ?_ ?_
 .simp [zat]
  exact Le.go [(40,40)] [] rfl rfl (by simp [fcd,zac]) (by simp [fcd,zac,zat])
 refine zai ?_;rw [hring];exact ⟨.inr rfl,zao.out [] [40] rfl (by simp) (by simp) (wkT3 (by simp) (.refl _) (.refl _)) (by simp)⟩
end Go.Proofs.YtkngdgplbojdlaaGreat
