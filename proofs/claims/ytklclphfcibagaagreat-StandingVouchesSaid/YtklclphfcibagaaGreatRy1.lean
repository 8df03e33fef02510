/- Texts of this claim,merged. -/
import Derived.Orders
import Derived.Below
import Derived.Laws.Sem
import Derived.Laws.CopyRow
import Derived.Laws.MakeOwn
import Derived.Deep.Upon
import Derived.Deep.LoopGhost
import Derived.Laws.StructEq
import Derived.Laws.Cover3
import Derived.ChangeKeysEq
set_option linter.unusedSimpArgs false
set_option linter.unusedVariables false
set_option linter.unusedSectionVars false
namespace Go.Proofs.YtklclphfcibagaaGreat
open Go
theorem fcd {α β γ : Type} (f : β → γ) (g : α → β) : f ∘ g = fun x => f (g x) := (rfl)
theorem nbz {a b : Nat} (h : Nat.ble a b = true) : a ≤ b:=Nat.le_of_ble_eq_true h
inductive AV where
 | dead
 | sc (v : Value)
 | agg (cs : List AV)
 | tup (vs : List AV)
 | vs (s : Nat) (full : Bool) (rows : List (List AV))
 | rs (id off len : Nat)
 | rk (id off len cap : Nat)
 | pv (cs : List AV)
 | pt (id i j : Nat)
 | mp (id : Nat)
 | fn (f : Fn) (first capt : List AV)
 | ifc (t : TypeId) (v : AV)
 deriving Inhabited
abbrev AV.I (n : Int) : AV:=.sc (.int .i64 n)
abbrev AV.B (b : Bool) : AV:=.sc (.bool b)
abbrev AV.nilS : AV:=.sc (.slice none 0 0)
structure Ent where
 s : Nat
 rows : List (List AV)
 ro : Nat:=0
 deriving Inhabited
inductive Opd where
 | t (i : Nat)
 | c (v : Value)
 | f (i : FuncId)
 deriving Inhabited
inductive AOp where
 | mv | pick
 | alloc (z : List Value)
 | box (s : Nat)
 | build (z : List Value) (ps : List (Nat × Nat))
 | bsl (s len : Nat) (z : List Value) (ps : List Nat)
 | ld (ag : Bool) (s : Nat)
 | st (s : Nat)
 | nil
 | bin (op : BinOp)
 | beq (neg : Bool)
 | aeq (neg : Bool) (ks : List Nat)
 | snil (neg : Bool)
 | un (op : UnOp)
 | cvt (k : IntKind)
 | b2s
 | mkf (fn : FuncId)
 | mkb (fn : FuncId)
 | mks (s bytes : Nat) (z : List Value)
 | slc (s : Nat) (lo hi mx : Bool)
 | fad (off : Nat)
 | fld (ag : Bool) (off s : Nat)
 | iad (s : Nat)
 | iaa (n s : Nat)
 | ixs
 | ixv (n : Nat)
 | ext (i : Nat)
 | call
 | app (s bytes : Nat)
 | apps
 | len | lens | cap
 | cpy (s : Nat)
 | clr (s : Nat) (z : List Value)
 | ovl (s : Nat)
 | apz (s bytes : Nat) (z : List Value)
 | mx2 | mn2
 | mkm | mlk (z : Value) (ok : Bool) | mup | mdl
 | mki (t : TypeId) | inv (tbl : List (TypeId × FuncId))
 | bad
 deriving Inhabited
structure zbI where
 dst : Option Nat
 op : AOp
 xs : List Opd
 guard : Option (Nat × Bool):=none
 deriving Inhabited
inductive zdu where
 | skip
 | reg (draw : Bool) (ops : List zbI) (after : List (List Nat))
 | seq (a b : zdu)
 | cond (c : Opd) (a b : zdu)
 | block (id : Nat) (a : zdu)
 | loop (a : zdu)
 | exit (id : Nat)
 | ret
 | bad
 deriving Inhabited
structure AFun where
 nt : Nat
 res : List (Nat × Option (Bool × Nat))
 code : zdu
def lkp {α : Type} : List (Nat × α) → Nat → Option α
 | [],_=>none
 | (i,a) :: l,j=>if i = j then some a else lkp l j
structure St where
 sz : Nat
 t : List (Nat × AV)
 h : List (Nat × Option Ent)
 n : Nat
def St.get (st : St) (i : Nat) : AV:=(lkp st.t i).getD .dead
def St.hp (st : St) (id : Nat) : Option Ent:=(lkp st.h id).getD none
def St.put (st : St) (d : Option Nat) (v : AV) : St:=match d with | none=>st | some i=>{ st with t:=(i,v) :: st.t }
def St.upd (st : St) (up : List (Nat × Option Ent)) : St:={ st with h:=up ++ st.h }
def toAV : Value → AV
 | .agg cs=>if cs.all Value.oneCell' then .agg (cs.toList.map .sc) else .dead
 | .tuple _=>.dead
 | v=>.sc v
def Opd.ev (g : Nat → AV) : Opd → AV
 | .t i=>g i
 | .c v=>toAV v
 | .f i=>.fn (.func i) [] []
def cellsOf : AV → Option (List AV)
 | .agg cs=>some cs
 | .dead=>none
 | .tup _=>none
 | .sc (.agg _)=>none
 | .sc (.tuple _)=>none
 | x=>some [x]
def zc2 (h : Nat → Option Ent) : AV → Option (List AV)
 | .pv cs=>some cs
 | .pt id i j=>(h id).bind fun e=>(e.rows[i]?).map (·.drop j)
 | _=>none
def zbH : AV → List Nat
 | .pt id _ _=>[id]
 | .rs id _ _=>[id]
 | .rk id _ _ _=>[id]
 | .mp id=>[id]
 | _=>[]
def zbt (s : Nat) (h : Nat → Option Ent) : AV → Option (List (List AV))
 | .vs s' _ rows=>if s' = s then some rows else none
 | .rs id off len=>(h id).bind fun e=>if e.s = s ∧ off + len ≤ e.rows.length then some ((e.rows.drop off).take len) else none
 | .rk id off len _=>(h id).bind fun e=>if e.s = s ∧ off + len ≤ e.rows.length then some ((e.rows.drop off).take len) else none
 | .sc (.slice none 0 0)=>some []
 | _=>none
def lenOf : AV → Option Nat
 | .vs _ _ rows=>some rows.length
 | .rs _ _ len=>some len
 | .rk _ _ len _=>some len
 | .sc (.slice none 0 0)=>some 0
 | _=>none
def cutN (n : Nat) : AV → AV
 | .vs s _ rows=>.vs s false (rows.take n)
 | .rs id off len=>.rs id off (min n len)
 | .rk id off len cap=>.rk id off (min n len) cap
 | x=>x
def zbN (s : Nat) (h : Nat → Option Ent) (new : List (List AV)) : AV → Option (List (List AV) × Nat × List (Nat × Option Ent))
 | .sc (.slice none 0 0)=>some ([],0,[])
 | .vs s' true rows=>if s' = s ∧ (rows = [] ∨ new ≠ []) then some (rows,0,[]) else none
 | .rs id off len=>(h id).bind fun e=>if e.s = s ∧ off + len ≤ e.rows.length ∧ e.ro ≤ off + len then some ((e.rows.drop off).take len,e.ro - off,[(id,none)]) else none
 | _=>none
def binV (op : BinOp) : Value → Value → Option Value
 | .int k a,.int k' b =>
   match op with
   | .shl=>if 0 ≤ b then some (.int k (k.wrap (a * 2 ^ (min b.toNat k.bits)))) else none
   | .shr=>if 0 ≤ b then some (.int k (a.fdiv (2 ^ (min b.toNat k.bits)))) else none
   | op=>if k = k' then
     match op with
     | .add=>some (.int k (k.wrap (a + b)))
     | .sub=>some (.int k (k.wrap (a - b)))
     | .mul=>some (.int k (k.wrap (a * b)))
     | .quo=>if b = 0 then none else some (.int k (k.wrap (a.tdiv b)))
     | .rem=>if b = 0 then none else some (.int k (a.tmod b))
     | .and=>some (.int k (k.wrap (BitVec.ofInt k.bits a &&& BitVec.ofInt k.bits b).toNat))
     | .or=>some (.int k (k.wrap (BitVec.ofInt k.bits a ||| BitVec.ofInt k.bits b).toNat))
     | .xor=>some (.int k (k.wrap (BitVec.ofInt k.bits a ^^^ BitVec.ofInt k.bits b).toNat))
     | .andNot=>some (.int k (k.wrap (BitVec.ofInt k.bits a &&& ~~~ BitVec.ofInt k.bits b).toNat))
     | .eql=>some (.bool (a == b))
     | .neq=>some (.bool (a != b))
     | .lss=>some (.bool (decide (a < b)))
     | .leq=>some (.bool (decide (a ≤ b)))
     | .gtr=>some (.bool (decide (a > b)))
     | .geq=>some (.bool (decide (a ≥ b)))
     | _=>none
     else none
 | .string a,.string b =>
   match op with
   | .eql=>some (.bool (a.toList == b.toList))
   | .neq=>some (.bool !(a.toList == b.toList))
   | .lss=>some (.bool (Op.bytesLess a.toList b.toList))
   | .leq=>some (.bool (Op.bytesLess a.toList b.toList || a.toList == b.toList))
   | .gtr=>some (.bool !(Op.bytesLess a.toList b.toList || a.toList == b.toList))
   | .geq=>some (.bool !(Op.bytesLess a.toList b.toList))
   | _=>none
 | _,_=>none
def unV (op : UnOp) : Value → Option Value
 | .int k n=>match op with | .neg=>some (.int k (k.wrap (0 - n))) | .xor=>some (.int k (k.wrap (BitVec.ofInt k.bits (if k.signed then -1 else k.max) ^^^ BitVec.ofInt k.bits n).toNat)) | _=>none
 | .bool b=>match op with | .not=>some (.bool !b) | _=>none
 | _=>none
def eqs : List Nat → List AV → List AV → Option Bool
 | [],[],[]=>some true
 | 0 :: ks,.sc (.int k a) :: xs,.sc (.int k' b) :: ys=>if k = k' then (eqs ks xs ys).map ((a == b) && ·) else none
 | 1 :: ks,.sc (.bool a) :: xs,.sc (.bool b) :: ys=>(eqs ks xs ys).map ((a == b) && ·)
 | 2 :: ks,.sc (.string a) :: xs,.sc (.string b) :: ys=>(eqs ks xs ys).map ((a.toList == b.toList) && ·)
 | _,_,_=>none
def znE (cells : List AV) : List (Nat × Nat) → List AV → Option (List AV)
 | [],[]=>some cells
 | (off,size) :: ps,x :: xs =>
   match cellsOf x with
   | some cs=>if cs.length = size ∧ off + size ≤ cells.length then znE (cells.take off ++ cs ++ cells.drop (off + size)) ps xs else none
   | none=>none
 | _,_=>none
def ziR (s : Nat) (rows : List (List AV)) : List Nat → List AV → Option (List (List AV))
 | [],[]=>some rows
 | i :: ps,x :: xs =>
   match cellsOf x with
   | some cs=>if cs.length = s ∧ i < rows.length then ziR s (rows.set i cs) ps xs else none
   | none=>none
 | _,_=>none
def zbR (row : List AV) (j : Nat) (cs : List AV) : List AV:=row.take j ++ cs ++ row.drop (j + cs.length)
def zdX (n : Int) : List (List AV) → Option AV
 | [.sc (.int .i64 k),x] :: l=>if n = k then some x else zdX n l
 | _=>none
def mset (n : Int) (y : AV) : List (List AV) → List (List AV)
 | [.sc (.int .i64 k),x] :: l=>if n = k then [.sc (.int .i64 k),y] :: l else [.sc (.int .i64 k),x] :: mset n y l
 | _=>[[.sc (.int .i64 n),y]]
def mdel (n : Int) : List (List AV) → List (List AV)
 | [.sc (.int .i64 k),x] :: l=>if n = k then l else [.sc (.int .i64 k),x] :: mdel n l
 | _=>[]
def zdl (s : ByteArray) : List (List AV):=s.data.toList.map fun b=>[AV.sc (.int .u8 b.toNat)]
def zci : List (List AV) → Option (List UInt8)
 | []=>some []
 | [.sc (.int .u8 n)] :: rest=>(zci rest).map (UInt8.ofNat n.toNat :: ·)
 | _=>none
def conv (ρ : List (Nat × Nat)) (sn : List Nat) (h : Nat → Option Ent) : Nat → AV → AV
 | 0,_=>.dead
 | n + 1,x =>
   match x with
   | .agg cs=>.agg (cs.map (conv ρ sn h n))
   | .tup cs=>.tup (cs.map (conv ρ sn h n))
   | .rs id off len =>
     match lkp ρ id with
     | some k=>.rs k off len
     | none =>
       if id ∈ sn then
        match h id with
        | some e=>if off + len ≤ e.rows.length then .vs e.s false (((e.rows.drop off).take len).map (·.map (conv [] sn h n))) else .dead
        | none=>.dead
       else .dead
   | .rk id off len _ =>
     match lkp ρ id with
     | some k=>.rs k off len
     | none =>
       if id ∈ sn then
        match h id with
        | some e=>if off + len ≤ e.rows.length then .vs e.s false (((e.rows.drop off).take len).map (·.map (conv [] sn h n))) else .dead
        | none=>.dead
       else .dead
   | .pt id i j =>
     match lkp ρ id with
     | some k=>.pt k i j
     | none =>
       if id ∈ sn then
        match h id with
        | some e=>match e.rows[i]? with | some row=>if j ≤ row.length then .pv ((row.drop j).map (conv [] sn h n)) else .dead | none=>.dead
        | none=>.dead
       else .dead
   | .mp id =>
     match lkp ρ id with
     | some k=>.mp k
     | none=>.dead
   | .fn f a b=>.fn f (a.map (conv ρ sn h n)) (b.map (conv ρ sn h n))
   | .ifc t v=>.ifc t (conv ρ sn h n v)
   | x=>x
def zaw (ρ : List (Nat × Nat)) (sn : List Nat) (h : Nat → Option Ent) (n : Nat) (e : Ent) : Ent:={ e with rows:=e.rows.map (·.map (conv ρ sn h n)) }
inductive Wk : AV → AV → Prop where
 | refl (x : AV) : Wk x x
 | dead (x : AV) : Wk x .dead
 | nil (s : Nat) (f : Bool) : Wk .nilS (.vs s f [])
 | mt (s c : Nat) (a : Option Addr) : Wk (.sc (.slice a 0 c)) (.vs s false [])
 | full (s : Nat) (rows : List (List AV)) : Wk (.vs s true rows) (.vs s false rows)
 | rows (s : Nat) (f : Bool) (xs ys : List (List AV)) : xs.length = ys.length → (∀ i : Nat,(xs.getD i []).length = (ys.getD i []).length) → (∀ i j : Nat,Wk ((xs.getD i []).getD j .dead) ((ys.getD i []).getD j .dead)) → Wk (.vs s f xs) (.vs s f ys)
 | pv (xs ys : List AV) : xs.length = ys.length → (∀ i : Nat,Wk (xs.getD i .dead) (ys.getD i .dead)) → Wk (.pv xs) (.pv ys)
 | agg (xs ys : List AV) : xs.length = ys.length → (∀ i : Nat,Wk (xs.getD i .dead) (ys.getD i .dead)) → Wk (.agg xs) (.agg ys)
 | tup (xs ys : List AV) : xs.length = ys.length → (∀ i : Nat,Wk (xs.getD i .dead) (ys.getD i .dead)) → Wk (.tup xs) (.tup ys)
def WkL : List AV → List AV → Prop
 | [],[]=>True
 | x :: xs,y :: ys=>Wk x y ∧ WkL xs ys
 | _,_=>False
inductive Plain : AV → Prop where
 | dead : Plain .dead
 | sc (v : Value) : Plain (.sc v)
 | agg (xs : List AV) : (∀ i : Nat,Plain (xs.getD i .dead)) → Plain (.agg xs)
 | tup (xs : List AV) : (∀ i : Nat,Plain (xs.getD i .dead)) → Plain (.tup xs)
 | rs (id off len : Nat) : Plain (.rs id off len)
 | pt (id i j : Nat) : Plain (.pt id i j)
 | mp (id : Nat) : Plain (.mp id)
def zgS (e : Ent) : Prop:=∀ row ∈ e.rows,∀ x ∈ row,Plain x
structure GE where
 blk : Option Nat
 base : Nat
 s : Nat
abbrev GM:=Nat → Option GE
inductive Rep (T : Nat → Nat) (w : World) : GM → AV → Value → Prop where
 | dead (M : GM) (v : Value) : Rep T w M .dead v
 | sc (M : GM) (v : Value) (h1 : v.oneCell' = true) : Rep T w M (.sc v) v
 | agg (M : GM) (cs : List AV) (vs : Array Value) (hl : vs.size = cs.length) (h1 : ∀ i,i < cs.length → (vs.getD i undef).oneCell' = true) (h : ∀ i,i < cs.length → Rep T w M (cs.getD i .dead) (vs.getD i undef)) : Rep T w M (.agg cs) (.agg vs)
 | tup (M : GM) (cs : List AV) (vs : Array Value) (hl : vs.size = cs.length) (h : ∀ i,i < cs.length → Rep T w M (cs.getD i .dead) (vs.getD i undef)) : Rep T w M (.tup cs) (.tuple vs)
 | vs (M : GM) (s : Nat) (full : Bool) (rows : List (List AV)) (a : Option Addr) (cap : Nat) (c : Nat → Nat → Value)
   (hf : full = true → cap = rows.length) (hl : rows.length ≤ cap) (hw : ∀ row ∈ rows,row.length = s)
   (hb : rows ≠ [] → ∃ b off cells ty fz,a = some ⟨b,off,none⟩ ∧ w.heap[b]? = some (.cells cells ty fz) ∧ off + rows.length * s ≤ T b ∧
    ∀ i j,i < rows.length → j < s → cells[off + i * s + j]? = some (c i j))
   (h1 : ∀ i j,i < rows.length → j < s → (c i j).oneCell' = true)
   (h : ∀ i j,i < rows.length → j < s → Rep T w (fun _=>none) ((rows.getD i []).getD j .dead) (c i j)) : Rep T w M (.vs s full rows) (.slice a rows.length cap)
 | pv (M : GM) (cs : List AV) (b off : Nat) (cells : Array Value) (ty : TypeId) (fz : Nat × Nat) (c : Nat → Value) (hb : w.heap[b]? = some (.cells cells ty fz)) (ht : off + cs.length ≤ T b)
   (hc : ∀ j,j < cs.length → cells[off + j]? = some (c j)) (h1 : ∀ j,j < cs.length → (c j).oneCell' = true) (h : ∀ j,j < cs.length → Rep T w (fun _=>none) (cs.getD j .dead) (c j)) : Rep T w M (.pv cs) (.pointer (some ⟨b,off,none⟩))
 | rs (M : GM) (id off len cap : Nat) (a : Option Addr) (g : GE) (hg : M id = some g) (hz : g.s ≠ 0) (hl : len ≤ cap) (hn : g.blk = none → off = 0 ∧ cap = 0)
   (hb : ∀ b,g.blk = some b → (cap = 0 ∨ a = some ⟨b,g.base + off * g.s,none⟩) ∧ ∃ cells ty fz,w.heap[b]? = some (.cells cells ty fz) ∧ g.base + off * g.s + cap * g.s ≤ cells.size) : Rep T w M (.rs id off len) (.slice a len cap)
 | rk (M : GM) (id off len cap : Nat) (a : Option Addr) (g : GE) (hg : M id = some g) (hz : g.s ≠ 0) (hl : len ≤ cap) (hn : g.blk = none → off = 0 ∧ cap = 0)
   (hb : ∀ b,g.blk = some b → (cap = 0 ∨ a = some ⟨b,g.base + off * g.s,none⟩) ∧ ∃ cells ty fz,w.heap[b]? = some (.cells cells ty fz) ∧ g.base + off * g.s + cap * g.s ≤ cells.size) : Rep T w M (.rk id off len cap) (.slice a len cap)
 | pt (M : GM) (id i j : Nat) (g : GE) (b : Nat) (hg : M id = some g) (hz : g.s ≠ 0) (hb : g.blk = some b) : Rep T w M (.pt id i j) (.pointer (some ⟨b,g.base + i * g.s + j,none⟩))
 | mp (M : GM) (id : Nat) (g : GE) (b : Nat) (hg : M id = some g) (hz : g.s = 0) (hb : g.blk = some b) : Rep T w M (.mp id) (.map (some b))
 | fn (M : GM) (f : Fn) (xs ys : List AV) (us vs : Array Value) (hx : us.size = xs.length) (hy : vs.size = ys.length) (h : ∀ i,i < xs.length → Rep T w M (xs.getD i .dead) (us.getD i undef))
   (h' : ∀ i,i < ys.length → Rep T w M (ys.getD i .dead) (vs.getD i undef)) : Rep T w M (.fn f xs ys) (.func f us vs)
 | ifc (M : GM) (t : TypeId) (x : AV) (v : Value) (h : Rep T w M x v) : Rep T w M (.ifc t x) (.iface t v)
def TOk (T : Nat → Nat) (w : World) : Prop:=∀ b,0 < T b → ∃ cells ty fz,w.heap[b]? = some (.cells cells ty fz) ∧ T b ≤ cells.size
def zdG (T : Nat → Nat) (w : World) (M : GM) : List (List AV) → List MapEntry → Prop
 | [],[]=>True
 | row :: rows,e :: es=>(∃ n x,row = [.sc (.int .i64 n),x] ∧ e.key = .int .i64 n ∧ Rep T w M x e.val) ∧ zdG T w M rows es
 | _,_=>False
structure zoc (T : Nat → Nat) (w : World) (M : GM) (e : Ent) (g : GE) : Prop where
 s : g.s = e.s
 ro : e.ro ≤ e.rows.length
 wide : e.s ≠ 0 → ∀ row ∈ e.rows,row.length = e.s
 none : g.blk = none → e.rows = []
 mp : e.s = 0 → ∃ b es clock,g.blk = some b ∧ w.heap[b]? = some (.map es clock) ∧ T b = 0 ∧ g.base = 0 ∧ zdG T w M e.rows es.toList
 blk : e.s ≠ 0 → ∀ b,g.blk = some b → ∃ cells ty,w.heap[b]? = some (.cells cells ty (0,0)) ∧ T b ≤ g.base + e.ro * e.s ∧ g.base + e.rows.length * e.s ≤ cells.size ∧
  ∀ i j,i < e.rows.length → j < e.s → ∃ v,cells[g.base + i * e.s + j]? = some v ∧ v.oneCell' = true ∧ Rep T w M ((e.rows.getD i []).getD j .dead) v
structure HsOk (T : Nat → Nat) (w : World) (M : GM) (hp : Nat → Option Ent) : Prop where
 ent : ∀ id e,hp id = some e → ∃ g,M id = some g ∧ zoc T w M e g
 inj : ∀ id id' e e' g g' b,hp id = some e → hp id' = some e' → M id = some g → M id' = some g' → g.blk = some b → g'.blk = some b → id = id'
structure Pres (T : Nat → Nat) (w : World) (T' : Nat → Nat) (w' : World) : Prop where
 le : ∀ b,T b ≤ T' b
 cell : ∀ b cells ty fz,w.heap[b]? = some (.cells cells ty fz) → ∃ cells' fz',w'.heap[b]? = some (.cells cells' ty fz') ∧ cells'.size = cells.size ∧ ∀ o,o < T b → cells'[o]? = cells[o]?
def Pas (n : Nat) (M : GM) (b : Nat) : Prop:=∃ k g,k < n ∧ M k = some g ∧ g.blk = some b
structure zi0 (n : Nat) (T : Nat → Nat) (M : GM) (w : World) (T' : Nat → Nat) (M' : GM) (w' : World) : Prop where
 tok : TOk T' w'
 old : ∀ b,b < w.heap.size → ¬ Pas n M b → T' b = T b
 same : ∀ k,k < n → M' k = M k
 os : w'.os = w.os
 tape : w'.tape = w.tape
 output : w'.output = w.output
 size : w.heap.size ≤ w'.heap.size
 keep : ∀ b,b < w.heap.size → ¬ Pas n M b → w'.heap[b]? = w.heap[b]?
 pres : Pres T w T' w'
 new : ∀ k g b,n ≤ k → M' k = some g → g.blk = some b → Pas n M b ∨ w.heap.size ≤ b
def RepL (T : Nat → Nat) (w : World) (M : GM) (xs : List AV) (vs : Array Value) : Prop:=vs.size = xs.length ∧ ∀ i,i < xs.length → Rep T w M (xs.getD i .dead) (vs.getD i undef)
def hpOf (hs : List Ent) : Nat → Option Ent:=fun k=>hs[k]?
def zj8 (hs : List (Option Ent)) : Nat → Option Ent:=fun k=>hs[k]?.join
def zao (P : Program) (f : FuncId) (args : List AV) (hs : List Ent) (res : AV) (hs' : List (Option Ent)) : Prop :=
 (∃ fn c,P.funcs[f]? = some fn ∧ fn.body = some c ∧ fn.name ≠ "runtime.NumGoroutine") ∧ hs.length ≤ hs'.length ∧
 ∀ (T : Nat → Nat) (M : GM) (w : World) (vs : Array Value),TOk T w → HsOk T w M (hpOf hs) → (∀ k,hs.length ≤ k → M k = none) → RepL T w M args vs →
   Calls P f vs w fun e w'=>∃ v T' M',e = .returned v ∧ Rep T' w' M' res v ∧ HsOk T' w' M' (zj8 hs') ∧ zi0 hs.length T M w T' M' w'
def aK (P : Program) (np id : Nat) (op : AOp) (xs : List AV) (h : Nat → Option Ent) (K : AV → List Nat → List (Nat × Option Ent) → Prop) : Prop :=
 match op,xs with
 | .mv,[x]=>K x [] []
 | .pick,[c,a,b]=>∃ t,c = .sc (.bool t) ∧ K (if t then a else b) [] []
 | .alloc z,[]=>K (.pt id 0 0) [] [(id,some { s:=z.length,rows:=[z.map .sc] })]
 | .box s,[x]=>∃ cs,cellsOf x = some cs ∧ cs.length = s ∧ K (.pt id 0 0) [] [(id,some { s:=s,rows:=[cs] })]
 | .build z ps,xs=>∃ cs,znE (z.map .sc) ps xs = some cs ∧ K (.agg cs) [] []
 | .bsl s len z ps,xs=>∃ rows,ziR s (List.replicate len (z.map .sc)) ps xs = some rows ∧ z.length = s ∧ K (.rs id 0 len) [] [(id,some { s:=s,rows:=rows })]
 | .ld ag s,[x]=>∃ cs,zc2 h x = some cs ∧ s ≤ cs.length ∧ K (if ag then .agg (cs.take s) else cs.headD .dead) (zbH x) []
 | .st s,[.pt i k j,x]=>∃ e row cs,h i = some e ∧ e.rows[k]? = some row ∧ e.ro ≤ k ∧ cellsOf x = some cs ∧ cs.length = s ∧ j + s ≤ row.length ∧
   K .dead [i] [(i,some { e with rows:=e.rows.set k (zbR row j cs) })]
 | .nil,[x]=>(match x with | .pt _ _ _=>True | .pv _=>True | .ifc _ _=>True | _=>False) ∧ K x [] []
 | .bin op,[.sc a,.sc b]=>∃ v,binV op a b = some v ∧ K (.sc v) [] []
 | .beq neg,[.sc (.bool a),.sc (.bool b)]=>K (.sc (.bool ((a == b) != neg))) [] []
 | .aeq neg ks,[.agg xs,.agg ys]=>∃ b,eqs ks xs ys = some b ∧ K (.sc (.bool (b != neg))) [] []
 | .snil neg,[.vs _ _ (_ :: _)]=>K (.sc (.bool neg)) [] []
 | .snil neg,[.sc (.slice a _ _)]=>K (.sc (.bool (a.isNone != neg))) [] []
 | .un op,[.sc a]=>∃ v,unV op a = some v ∧ K (.sc v) [] []
 | .cvt k,[.sc (.int _ n)]=>K (.sc (.int k (k.wrap n))) [] []
 | .b2s,[x]=>∃ rows bs,zbt 1 h x = some rows ∧ zci rows = some bs ∧ K (.sc (.string ⟨bs.toArray⟩)) (zbH x) []
 | .mkf f,xs=>K (.fn (.func f) [] xs) [] []
 | .mkb f,xs=>K (.fn (.func f) xs []) [] []
 | .mks s bytes z,[.sc (.int _ l),.sc (.int _ c)]=>0 ≤ l ∧ l ≤ c ∧ c * bytes ≤ 140737488355328 ∧ c ≤ 140737488355328 ∧ z.length = s ∧
   K (.rs id 0 l.toNat) [] [(id,some { s:=s,rows:=List.replicate l.toNat (z.map .sc) })]
 | .slc s lo hi mx,x :: bs =>
   ∃ l r m : Nat,∃ n,lenOf x = some n ∧ l ≤ r ∧
     bs = (if lo then [AV.I l] else []) ++ (if hi then [AV.I r] else []) ++ (if mx then [AV.I m] else []) ∧ (lo = false → l = 0) ∧ (hi = false → r = n) ∧ (mx = true → hi = true) ∧
     match x with
     | .vs s' f rows=>r ≤ n ∧ (mx = true → m = r) ∧ s' = s ∧ K (.vs s (mx || (f && !hi)) ((rows.drop l).take (r - l))) [] []
     | .rs i off _=>r ≤ n ∧ mx = false ∧ (∃ e,h i = some e ∧ e.s = s) ∧ K (.rs i (off + l) (r - l)) [i] []
     | .rk i off _ c=>r ≤ m ∧ m ≤ c ∧ (mx = false → m = c) ∧ (∃ e,h i = some e ∧ e.s = s) ∧ K (.rk i (off + l) (r - l) (m - l)) [i] []
     | .sc (.slice none 0 0)=>r ≤ n ∧ (mx = true → m = r) ∧ K .nilS [] []
     | _=>False
 | .fad off,[.pv cs]=>off ≤ cs.length ∧ K (.pv (cs.drop off)) [] []
 | .fad off,[.pt i k j]=>K (.pt i k (j + off)) [] []
 | .fld ag off s,[.agg cs]=>off + s ≤ cs.length ∧ K (if ag then .agg ((cs.drop off).take s) else cs.getD off .dead) [] []
 | .iad s,[.vs s' _ rows,.sc (.int _ n)]=>s' = s ∧ 0 ≤ n ∧ ∃ row,rows[n.toNat]? = some row ∧ K (.pv row) [] []
 | .iad s,[.rs i off len,.sc (.int _ n)]=>0 ≤ n ∧ n < len ∧ (∃ e,h i = some e ∧ e.s = s) ∧ K (.pt i (off + n.toNat) 0) [i] []
 | .iaa l s,[.pt i k j,.sc (.int _ n)]=>0 ≤ n ∧ n < l ∧ K (.pt i k (j + n.toNat * s)) [] []
 | .iaa l s,[.pv cs,.sc (.int _ n)]=>0 ≤ n ∧ n < l ∧ l * s ≤ cs.length ∧ K (.pv (cs.drop (n.toNat * s))) [] []
 | .ixs,[.sc (.string b),.sc (.int _ n)]=>0 ≤ n ∧ ∃ c,b.data.toList[n.toNat]? = some c ∧ K (.sc (.int .u8 c.toNat)) [] []
 | .ixv l,[.agg cs,.sc (.int _ n)]=>0 ≤ n ∧ n < l ∧ l ≤ cs.length ∧ K (cs.getD n.toNat .dead) [] []
 | .ext i,[.tup vs]=>∃ v,vs[i]? = some v ∧ K v [] []
 | .call,.fn (.func f) first capt :: args =>
   ∃ (ids sn : List Nat) (raise : Bool) (args' : List AV) (hs : List Ent) (res : AV) (hs' : List (Option Ent)),
     ids.Nodup ∧ (∀ i ∈ sn,i ∉ ids) ∧ (raise = true → ∀ i ∈ sn,np ≤ i) ∧
     WkL ((first ++ args ++ capt).map (conv ids.zipIdx sn h 4)) args' ∧
     ids.map (fun i=>(h i).map (zaw ids.zipIdx sn h 4)) = hs.map some ∧
     zao P f args' hs res hs' ∧ hs'.length ≤ hs.length + 8 ∧
     (raise = true ∨ (Plain res ∧ ∀ e,some e ∈ hs' → zgS e)) ∧
     K (conv ((ids ++ (List.range 8).map (id + ·)).zipIdx.map fun (a,b)=>(b,a)) [] (fun _=>none) 4 res) (ids ++ sn)
       ((hs'.zipIdx.map fun (e,k)=>((ids ++ (List.range 8).map (id + ·)).getD k 0,e.map (zaw ((ids ++ (List.range 8).map (id + ·)).zipIdx.map fun (a,b)=>(b,a)) [] (fun _=>none) 4))) ++
        (if raise then sn.filterMap (fun i=>(h i).map fun e=>(i,some { e with ro:=e.rows.length })) else []))
 | .app s bytes,[.rk i off len c,y]=>∃ new e,zbt s h y = some new ∧ h i = some e ∧ e.s = s ∧ off + len ≤ e.rows.length ∧ e.ro ≤ off + len ∧ (len + new.length) * bytes ≤ 140737488355328 ∧ len + new.length ≤ 140737488355328 ∧
   if len + new.length ≤ c then K (.rk i off (len + new.length) c) (i :: zbH y) [(i,some { e with rows:=e.rows.take (off + len) ++ new ++ e.rows.drop (off + len + new.length) })]
   else K (.rs id 0 (len + new.length)) (i :: zbH y) [(id,some { s:=s,rows:=(e.rows.drop off).take len ++ new,ro:=0 })]
 | .app s bytes,[x,y]=>∃ new old,zbt s h y = some new ∧ zbN s h new x = some old ∧ (old.1.length + new.length) * bytes ≤ 140737488355328 ∧
   old.1.length + new.length ≤ 140737488355328 ∧
   K (.rs id 0 (old.1.length + new.length)) (zbH x ++ zbH y) ((id,some { s:=s,rows:=old.1 ++ new,ro:=old.2.1 }) :: old.2.2)
 | .apps,[x,.sc (.string b)]=>∃ old,zbN 1 h (zdl b) x = some old ∧ old.1.length + b.size ≤ 140737488355328 ∧
   K (.rs id 0 (old.1.length + b.size)) (zbH x) ((id,some { s:=1,rows:=old.1 ++ zdl b,ro:=old.2.1 }) :: old.2.2)
 | .apz s bytes z,[.rk i off len c,.sc (.int _ n)]=>∃ e,h i = some e ∧ e.s = s ∧ z.length = s ∧ off + len ≤ e.rows.length ∧ 0 < n ∧ c < len + n.toNat ∧ (len + n.toNat) * bytes ≤ 140737488355328 ∧ len + n.toNat ≤ 140737488355328 ∧
   K (.rs id 0 (len + n.toNat)) [i] [(id,some { s:=s,rows:=(e.rows.drop off).take len ++ List.replicate n.toNat (z.map .sc),ro:=0 })]
 | .apz s bytes z,[.sc (.slice none 0 0),.sc (.int _ n)]=>z.length = s ∧ 0 < n ∧ n.toNat * bytes ≤ 140737488355328 ∧ n.toNat ≤ 140737488355328 ∧
   K (.rs id 0 n.toNat) [] [(id,some { s:=s,rows:=List.replicate n.toNat (z.map .sc),ro:=0 })]
 | .len,[x]=>∃ n : Nat,lenOf x = some n ∧ K (AV.I n) [] []
 | .lens,[.sc (.string b)]=>K (AV.I b.size) [] []
 | .cap,[.rk _ _ _ c]=>K (AV.I c) [] []
 | .cap,[.sc (.slice none 0 0)]=>K (AV.I 0) [] []
 | .cpy s,[.rs i off len,y]=>∃ e new,h i = some e ∧ e.s = s ∧ e.ro ≤ off ∧ off + len ≤ e.rows.length ∧ zbt s h y = some new ∧
   K (AV.I (min new.length len : Nat)) (i :: zbH y) [(i,some { e with rows:=e.rows.take off ++ new.take (min new.length len) ++ e.rows.drop (off + min new.length len) })]
 | .cpy s,[.rk i off len _,y]=>∃ e new m,h i = some e ∧ e.s = s ∧ e.ro ≤ off ∧ off ≤ e.rows.length ∧ lenOf y = some m ∧ zbt s h (cutN (min m len) y) = some new ∧
   K (AV.I (min m len : Nat)) (i :: zbH y) [(i,some { e with rows:=e.rows.take off ++ new ++ e.rows.drop (off + min m len) })]
 | .clr s z,[.rk i off len _]=>∃ e,h i = some e ∧ e.s = s ∧ z.length = s ∧ e.ro ≤ off ∧ off + len ≤ e.rows.length ∧
   K .dead [i] [(i,some { e with rows:=e.rows.take off ++ List.replicate len (z.map .sc) ++ e.rows.drop (off + len) })]
 | .ovl s,[.vs s' _ _,.rk i off _ _]=>∃ e,h i = some e ∧ s' = s ∧ e.s = s ∧ e.ro ≤ off ∧ K (.sc (.bool false)) [i] []
 | .clr s z,[.rs i off len]=>∃ e,h i = some e ∧ e.s = s ∧ z.length = s ∧ e.ro ≤ off ∧ off + len ≤ e.rows.length ∧
   K .dead [i] [(i,some { e with rows:=e.rows.take off ++ List.replicate len (z.map .sc) ++ e.rows.drop (off + len) })]
 | .mx2,[.sc (.int k a),.sc (.int _ b)]=>K (.sc (.int k (if a < b then b else a))) [] []
 | .mn2,[.sc (.int k a),.sc (.int _ b)]=>K (.sc (.int k (if b < a then b else a))) [] []
 | .mki t,[x]=>K (.ifc t x) [] []
 | .inv tbl,.ifc t x :: args =>
   ∃ (f : FuncId) (ids sn : List Nat) (raise : Bool) (args' : List AV) (hs : List Ent) (res : AV) (hs' : List (Option Ent)),
     lkp tbl t = some f ∧ ids.Nodup ∧ (∀ i ∈ sn,i ∉ ids) ∧ (raise = true → ∀ i ∈ sn,np ≤ i) ∧
     WkL ((x :: args).map (conv ids.zipIdx sn h 4)) args' ∧
     ids.map (fun i=>(h i).map (zaw ids.zipIdx sn h 4)) = hs.map some ∧
     zao P f args' hs res hs' ∧ hs'.length ≤ hs.length + 8 ∧
     (raise = true ∨ (Plain res ∧ ∀ e,some e ∈ hs' → zgS e)) ∧
     K (conv ((ids ++ (List.range 8).map (id + ·)).zipIdx.map fun (a,b)=>(b,a)) [] (fun _=>none) 4 res) (ids ++ sn)
       ((hs'.zipIdx.map fun (e,k)=>((ids ++ (List.range 8).map (id + ·)).getD k 0,e.map (zaw ((ids ++ (List.range 8).map (id + ·)).zipIdx.map fun (a,b)=>(b,a)) [] (fun _=>none) 4))) ++
        (if raise then sn.filterMap (fun i=>(h i).map fun e=>(i,some { e with ro:=e.rows.length })) else []))
 | .mkm,[]=>K (.mp id) [] [(id,some { s:=0,rows:=[] })]
 | .mlk z ok,[.mp i,.sc (.int .i64 n)]=>∃ e,h i = some e ∧ e.s = 0 ∧ K (if ok then .tup [(zdX n e.rows).getD (toAV z),.sc (.bool (zdX n e.rows).isSome)] else (zdX n e.rows).getD (toAV z)) [i] []
 | .mup,[.mp i,.sc (.int .i64 n),x]=>∃ e,h i = some e ∧ e.s = 0 ∧ K .dead [i] [(i,some { e with rows:=mset n x e.rows })]
 | .mdl,[.mp i,.sc (.int .i64 n)]=>∃ e,h i = some e ∧ e.s = 0 ∧ K (.tup []) [i] [(i,some { e with rows:=mdel n e.rows,ro:=0 })]
 | _,_=>False
def gdV : AV → Option (Option Bool)
 | .sc (.bool b)=>some (some b)
 | .tup []=>some none
 | _=>none
def zbh (P : Program) (np n : Nat) : Nat → List zbI → St → List (List Nat × List Nat) → (St → List (List Nat × List Nat) → Prop) → Prop
 | _,[],st,tr,K=>K st tr
 | i,o :: os,st,tr,K =>
   let go : Prop:=aK P np (n + 8 * i) o.op (o.xs.map (·.ev st.get)) st.hp fun v rd up=>zbh P np n (i + 1) os ((st.put o.dst v).upd up) (tr ++ [(rd,up.map (·.1))]) K
   match o.guard with
   | none=>go
   | some (g,want)=>∃ b,gdV (st.get g) = some b ∧ if b = some want then go else zbh P np n (i + 1) os (st.put o.dst (.tup [])) (tr ++ [([],[])]) K
inductive zcP where
 | normal
 | exit (id : Nat)
 | ret
def zyz (after : List (List Nat)) : List Nat :=
 after.foldl (fun acc as=>acc ++ [as.foldl (fun s a=>s ||| (2 ^ a ||| acc.getD a 0)) 0]) []
def zm6 (a b : List Nat × List Nat) : Bool:=a.2.any (fun i=>b.1.contains i || b.2.contains i) || a.1.any (b.2.contains ·)
def zbI.names (o : zbI) : List Nat:=(o.xs.filterMap fun | .t i=>some i | _=>none) ++ (o.guard.map (·.1)).toList ++ o.dst.toList
def zdJ (o o' : zbI) (a b : List Nat × List Nat) : Bool :=
 o.dst.all (fun d=>!o'.names.contains d) && o'.dst.all (fun d=>!o.names.contains d) && !zm6 a b
def zdE (ops : List zbI) (after : List (List Nat)) (tr : List (List Nat × List Nat)) : Bool :=
 after.length == ops.length && (after.zipIdx.all fun (as,j)=>as.all (· < j)) &&
 (List.range ops.length).all fun j=>(List.range j).all fun i=>((zyz after).getD j 0).testBit i || zdJ (ops.getD i default) (ops.getD j default) (tr.getD i ([],[])) (tr.getD j ([],[]))
structure Ok (np : Nat) (T0 : Nat → Nat) (M0 : GM) (w0 : World) (live : Nat → Prop) (st : St) (T : Nat → Nat) (M : GM) (a : Act) (w : World) : Prop where
 sz : a.tmps.size = st.sz
 df : a.defers = []
 tm : ∀ i,Rep T w M (st.get i) (a.tmps.getD i undef)
 hs : HsOk T w M st.hp
 dom : ∀ id g,M id = some g → live id
 after : zi0 np T0 M0 w0 T M w
abbrev zcU (n : Nat) : Nat → Prop:=fun id=>id < n
def Le (np : Nat) (st st' : St) : Prop :=
 ∀ T0 M0 w0 T M a w,Ok np T0 M0 w0 (zcU st.n) st T M a w → np ≤ st.n → ∃ T' M',Ok np T0 M0 w0 (zcU st'.n) st' T' M' a w ∧ np ≤ st'.n
def awp (P : Program) (np : Nat) : zdu → (zcP → St → Prop) → St → Prop
 | .skip,Q,st=>Q .normal st
 | .reg draw ops after,Q,st =>
   (ops.all fun o=>o.dst.all (· < st.sz)) = true ∧
   zbh P np st.n 0 ops st [] fun st' tr=>(draw = true → zdE ops after tr = true) ∧ Q .normal { st' with n:=st.n + 8 * ops.length }
 | .seq a b,Q,st=>awp P np a (fun e st'=>match e with | .normal=>∃ st2,Le np st' st2 ∧ awp P np b Q st2 | e=>Q e st') st
 | .cond c a b,Q,st=>∃ t,c.ev st.get = .sc (.bool t) ∧ if t then awp P np a Q st else awp P np b Q st
 | .block id a,Q,st=>awp P np a (fun e st'=>match e with | .exit id'=>if id' = id then Q .normal st' else Q (.exit id') st' | e=>Q e st') st
 | .loop a,Q,st=>∃ I : Nat → St → Prop,(∃ st0 k,Le np st st0 ∧ I k st0) ∧
   ∀ k s,I k s → awp P np a (fun e st'=>match e with | .normal=>∃ st2 k2,Le np st' st2 ∧ I k2 st2 ∧ k2 < k | e=>Q e st') s
 | .exit id,Q,st=>Q (.exit id) st
 | .ret,Q,st=>Q .ret st
 | .bad,_,_=>False
def zfj (af : AFun) (args : List AV) (hs : List Ent) : St :=
 { sz:=af.nt,t:=args.zipIdx.map (fun (a,i)=>(i,a)),h:=hs.zipIdx.map (fun (e,k)=>(k,some e)),n:=16 }
def zib (st : St) (r : Nat × Option (Bool × Nat)) : Option AV :=
 match r with
 | (t,none)=>some (st.get t)
 | (t,some (ag,s))=>match zc2 st.hp (st.get t) with
   | some cs=>if s ≤ cs.length ∧ (ag = true ∨ s = 1) then some (if ag then .agg (cs.take s) else cs.headD .dead) else none
   | none=>none
def ze0 (st : St) : List (Nat × Option (Bool × Nat)) → Option (List AV)
 | []=>some []
 | r :: rs=>match zib st r,ze0 st rs with
   | some v,some vs=>some (v :: vs)
   | _,_=>none
def resV : List AV → AV
 | [v]=>v
 | vs=>.tup vs
def zat (rs : List (Nat × Option (Bool × Nat))) (np : Nat) (st : St) (res : AV) (hs' : List (Option Ent)) : Prop :=
 ∃ vs,ze0 st rs = some vs ∧ ∃ ex sn : List Nat,(List.range np ++ ex).Nodup ∧ (∀ i ∈ ex,np ≤ i) ∧ (∀ i ∈ sn,i ∉ ex ∧ np ≤ i) ∧
   Wk (conv (List.range np ++ ex).zipIdx sn st.hp 4 (resV vs)) res ∧
   (List.range np ++ ex).map (fun i=>(st.hp i).map (zaw (List.range np ++ ex).zipIdx sn st.hp 4)) = hs'
def zln (P : Program) (t : TypeId) : Option (List Value) :=
 match P.info? t with
 | some i=>match i.zero with
   | some z=>if z.cells.all Value.oneCell' && z.cells.size == i.size then some z.cells.toList else none
   | none=>none
 | none=>none
def zce (P : Program) (t : TypeId) : Option Nat:=(P.info? t).map (·.size)
def zju (P : Program) (t : TypeId) : Option Nat:=(P.info? t).map (·.bytes)
def aggC (P : Program) (t : TypeId) : Option Bool :=
 match P.underlying t with
 | some (.struct _)=>some true
 | some (.array _ _)=>some true
 | some _=>some false
 | none=>none
def opd : Operand → Opd
 | .tmp t=>.t t
 | .const v=>.c v
 | .global g=>.c (.pointer (some ⟨g,0,none⟩))
 | .func f=>.f f
def zml (P : Program) : Nat → List Field → Option (List Nat)
 | _,[]=>some []
 | i,f :: fs =>
   if f.name ≠ "_" ∧ f.offset = i then
    match P.underlying f.type,zml P (i + 1) fs with
    | some (.int _),some ks=>some (0 :: ks)
    | some .bool,some ks=>some (1 :: ks)
    | some .string,some ks=>some (2 :: ks)
    | _,_=>none
   else none
def zhJ (P : Program) : Nat → List Field → Option (List Nat)
 | _,[]=>some []
 | i,f :: fs =>
   if f.name ≠ "_" ∧ f.offset = i then
    match P.underlying f.type with
    | some (.int _)=>(zhJ P (i + 1) fs).map (0 :: ·)
    | some .bool=>(zhJ P (i + 1) fs).map (1 :: ·)
    | some .string=>(zhJ P (i + 1) fs).map (2 :: ·)
    | some (.struct gs)=>match zml P 0 gs.toList,zce P f.type with
      | some ks,some n=>if P.stoodInHeld f.type = false ∧ n = ks.length then (zhJ P (i + n) fs).map (ks ++ ·) else none
      | _,_=>none
    | _=>none
   else none
def zul (P : Program) (t e : TypeId) (n : Nat) : Option (List Nat):=match P.underlying e with
 | some .bool=>if P.eqGuardType P.depth t = false ∧ (P.info? e).isSome = true ∧ P.cellsOf e = 1 then some (List.replicate n 1) else none
 | _=>none
def zuF (P : Program) (t : TypeId) (fs : List Field) : Option (List Nat):=if P.stoodInHeld t = false ∧ P.eqGuardType P.depth t = false then zhJ P 0 fs else none
def zh3 (P : Program) (t : TypeId) : Option Value :=
 match P.underlying t with
 | some (.map k v)=>match P.underlying k,P.info? v with
   | some (.int .i64),some i=>i.zero
   | _,_=>none
 | _=>none
def zp2 : Operand → Bool
 | .const (.slice none 0 0)=>true
 | _=>false
def ovlF (P : Program) (fn : Func) : Option Nat :=
 if fn.body.isNone && (fn.name != "runtime.NumGoroutine") && (fn.origin == "slices.overlaps") && (Extern.allNextRows.lookup fn.name).isNone && (Extern.allGenericRows.lookup fn.name).isNone && (Extern.allTypedRows.lookup fn.name).isNone && (Extern.allRows.lookup fn.name).isNone then
  match fn.params.toList with
  | [t,_]=>match P.underlying t with
    | some (.slice e)=>zce P e
    | _=>none
  | _=>none
 else none
def ovlC (P : Program) : Operand → Option Nat
 | .func g=>match P.funcs[g]? with
   | some fn=>ovlF P fn
   | none=>none
 | _=>none
def zkB (P : Program) (name : String) (t : TypeId) : Option (TypeId × FuncId) :=
 match P.info? t,P.underlying t with
 | some i,some (.struct _)=>match i.methods.find? (·.name == name) with
   | some m=>match m.path.isEmpty,m.func with
     | true,some (f,false)=>some (t,f)
     | _,_=>none
   | none=>none
 | _,_=>none
def zmH (P : Program) (name : String) : List (TypeId × FuncId):=(List.range P.types.size).filterMap (zkB P name)
def zaB (P : Program) (o : Oper) : AOp × List Opd :=
 match o.op with
 | .move x=>(.mv,[opd x])
 | .assign x=>(.mv,[opd x])
 | .pick c a b=>(.pick,[opd c,opd a,opd b])
 | .alloc e=>match zln P e with | some (y :: z)=>(.alloc (y :: z),[]) | _=>(.bad,[])
 | .box e x=>match zce P e with | some (s + 1)=>(.box (s + 1),[opd x]) | _=>(.bad,[])
 | .build t ps =>
   match zln P t,P.underlying t with
   | some z,some (.struct fs) =>
     match fs.toList.mapM (fun f=>(P.info? f.type).map fun i=>(f.offset,i.size)) with
     | some places=>match ps.toList.mapM (fun p=>places[p.1]?) with
       | some pl=>(.build z pl,ps.toList.map (opd ·.2))
       | none=>(.bad,[])
     | none=>(.bad,[])
   | some z,some (.array _ e) =>
     match P.info? e with
     | some ie=>(.build z (ps.toList.map fun p=>(p.1 * ie.size,ie.size)),ps.toList.map (opd ·.2))
     | none=>(.bad,[])
   | _,_=>(.bad,[])
 | .buildSlice t len ps =>
   match P.underlying t with
   | some (.slice e) =>
     match zln P e,zce P e with
     | some z,some s=>if len * s ≤ 2 ^ 24 ∧ 0 < s then (.bsl s len z (ps.toList.map (·.1)),ps.toList.map (opd ·.2)) else (.bad,[])
     | _,_=>(.bad,[])
   | _=>(.bad,[])
 | .load t x=>match aggC P t,zce P t with | some ag,some s=>if ag = true ∨ s = 1 then (.ld ag s,[opd x]) else (.bad,[]) | _,_=>(.bad,[])
 | .store t a x=>match zce P t with | some s=>(.st s,[opd a,opd x]) | none=>(.bad,[])
 | .nilCheck x=>(.nil,[opd x])
 | .binOp op t x y _ =>
   match op,P.underlying t with
   | .eql,some .bool=>(.beq false,[opd x,opd y])
   | .neq,some .bool=>(.beq true,[opd x,opd y])
   | .eql,some (.struct fs)=>match zuF P t fs.toList with | some ks=>(.aeq false ks,[opd x,opd y]) | none=>(.bad,[])
   | .neq,some (.struct fs)=>match zuF P t fs.toList with | some ks=>(.aeq true ks,[opd x,opd y]) | none=>(.bad,[])
   | .eql,some (.array n e)=>match zul P t e n with | some ks=>(.aeq false ks,[opd x,opd y]) | none=>(.bad,[])
   | .neq,some (.array n e)=>match zul P t e n with | some ks=>(.aeq true ks,[opd x,opd y]) | none=>(.bad,[])
   | .eql,some (.slice _)=>if zp2 y = true then (.snil false,[opd x]) else (.bad,[])
   | .neq,some (.slice _)=>if zp2 y = true then (.snil true,[opd x]) else (.bad,[])
   | _,_=>(.bin op,[opd x,opd y])
 | .unOp op _ x=>(.un op,[opd x])
 | .convert src dst x =>
   match P.underlying src,P.underlying dst with
   | some (.int _),some (.int k)=>(.cvt k,[opd x])
   | some (.slice e),some .string=>match P.underlying e with | some (.int .u8)=>(.b2s,[opd x]) | _=>(.bad,[])
   | _,_=>(.bad,[])
 | .makeFunc (.func f) first capt=>if first.isEmpty then (.mkf f,capt.toList.map opd) else if capt.isEmpty then (.mkb f,first.toList.map opd) else (.bad,[])
 | .makeSlice t l c =>
   match P.underlying t with
   | some (.slice e) =>
     match zln P e,zce P e,zju P e with
     | some z,some s,some b=>if 0 < s then (.mks s b z,[opd l,opd c]) else (.bad,[])
     | _,_,_=>(.bad,[])
   | _=>(.bad,[])
 | .slice t x lo hi mx =>
   match P.underlying t with
   | some (.slice e)=>match zce P e with
     | some s=>(.slc s lo.isSome hi.isSome mx.isSome,[opd x] ++ (lo.map opd).toList ++ (hi.map opd).toList ++ (mx.map opd).toList)
     | none=>(.bad,[])
   | _=>(.bad,[])
 | .fieldAddr t x f =>
   match P.underlying t with
   | some (.struct fs)=>match fs[f]? with
     | some fd=>match zce P fd.type with | some (_ + 1)=>(.fad fd.offset,[opd x]) | _=>(.bad,[])
     | none=>(.bad,[])
   | _=>(.bad,[])
 | .field t x f =>
   match P.underlying t with
   | some (.struct fs)=>match fs[f]? with
     | some fd=>match aggC P fd.type,zce P fd.type with
       | some ag,some s=>if ag = true ∨ s = 1 then (.fld ag fd.offset s,[opd x]) else (.bad,[])
       | _,_=>(.bad,[])
     | none=>(.bad,[])
   | _=>(.bad,[])
 | .indexAddr t x i =>
   match P.underlying t with
   | some (.slice e)=>match zce P e with | some s=>(.iad s,[opd x,opd i]) | none=>(.bad,[])
   | some (.array n e)=>match zce P e with | some s=>(.iaa n s,[opd x,opd i]) | none=>(.bad,[])
   | _=>(.bad,[])
 | .index t x i=>match P.underlying t with | some .string=>(.ixs,[opd x,opd i]) | some (.array n e)=>(match aggC P e,zce P e with | some false,some 1=>(.ixv n,[opd x,opd i]) | _,_=>(.bad,[])) | _=>(.bad,[])
 | .extract t i=>(.ext i,[opd t])
 | .makeInterface t x=>match P.underlying t with
   | some (.struct _)=>(.mki t,[opd x])
   | _=>(.bad,[])
 | .makeMap t none=>match zh3 P t with | some _=>(.mkm,[]) | none=>(.bad,[])
 | .insert t m k v=>match zh3 P t with | some _=>(.mup,[opd m,opd k,opd v]) | none=>(.bad,[])
 | .mapUpdate t m k v=>match zh3 P t with | some _=>(.mup,[opd m,opd k,opd v]) | none=>(.bad,[])
 | .lookup t m k ok=>match zh3 P t with | some z=>(.mlk z ok,[opd m,opd k]) | none=>(.bad,[])
 | .call c =>
   match c.callee with
   | .invoke r n=>(.inv (zmH P n),opd r :: c.args.toList.map opd)
   | .value f=>match ovlC P f with
     | none=>(.call,opd f :: c.args.toList.map opd)
     | some s=>(.ovl s,c.args.toList.map opd)
   | .builtin .append =>
     match c.argTypes.toList,c.args.toList with
     | [t,u],[x,y] =>
       match P.underlying t,P.underlying u with
       | some (.slice e),some (.slice _)=>match zce P e,zju P e with | some s,some b=>if (zln P e).isSome ∧ 0 < s then (.app s b,[opd x,opd y]) else (.bad,[]) | _,_=>(.bad,[])
       | some (.slice e),some .string=>match zce P e,zju P e with | some 1,some 1=>if (zln P e).isSome then (.apps,[opd x,opd y]) else (.bad,[]) | _,_=>(.bad,[])
       | some (.slice e),some (.int _)=>match zln P e,zce P e,zju P e with | some z,some s,some b=>if 0 < s then (.apz s b z,[opd x,opd y]) else (.bad,[]) | _,_,_=>(.bad,[])
       | _,_=>(.bad,[])
     | _,_=>(.bad,[])
   | .builtin .len =>
     match c.argTypes.toList,c.args.toList with
     | [t],[x]=>match P.underlying t with
       | some (.slice _)=>(.len,[opd x])
       | some .string=>(.lens,[opd x])
       | _=>(.bad,[])
     | _,_=>(.bad,[])
   | .builtin .cap =>
     match c.argTypes.toList,c.args.toList with
     | [t],[x]=>match P.underlying t with
       | some (.slice _)=>(.cap,[opd x])
       | _=>(.bad,[])
     | _,_=>(.bad,[])
   | .builtin .copy =>
     match c.argTypes.toList,c.args.toList with
     | t :: _,[x,y]=>match P.underlying t with
       | some (.slice e)=>match zce P e with | some s=>(.cpy s,[opd x,opd y]) | none=>(.bad,[])
       | _=>(.bad,[])
     | _,_=>(.bad,[])
   | .builtin .clear =>
     match c.argTypes.toList,c.args.toList with
     | [t],[x]=>match P.underlying t with
       | some (.slice e)=>match zln P e,zce P e with | some z,some s=>(.clr s z,[opd x]) | _,_=>(.bad,[])
       | _=>(.bad,[])
     | _,_=>(.bad,[])
   | .builtin .delete =>
     match c.argTypes.toList,c.args.toList with
     | t :: _,[x,y]=>match zh3 P t with | some _=>(.mdl,[opd x,opd y]) | none=>(.bad,[])
     | _,_=>(.bad,[])
   | .builtin .max=>match c.args.toList with | [x,y]=>(.mx2,[opd x,opd y]) | _=>(.bad,[])
   | .builtin .min=>match c.args.toList with | [x,y]=>(.mn2,[opd x,opd y]) | _=>(.bad,[])
   | _=>(.bad,[])
 | _=>(.bad,[])
def zay (P : Program) (ops : Array Oper) (o : Oper) : zbI :=
 let (op,xs):=zaB P o
 match o.guard with
 | none=>{ dst:=o.dst,op:=op,xs:=xs }
 | some (j,want)=>match (ops[j]?).bind (·.dst) with
   | some d=>{ dst:=o.dst,op:=op,xs:=xs,guard:=some (d,want) }
   | none=>{ dst:=o.dst,op:=.bad,xs:=[] }
def comp (P : Program) : Code → zdu
 | .skip=>.skip
 | .region _ ops draw=>.reg draw (ops.toList.map (zay P ops)) (if draw then ops.toList.map fun o=>(o.after.toList.filter (Region.binds .any)).map (·.on) else [])
 | .seq a b=>.seq (comp P a) (comp P b)
 | .cond c a b=>.cond (opd c) (comp P a) (comp P b)
 | .block id a=>.block id (comp P a)
 | .loop a=>.loop (comp P a)
 | .exit id=>.exit id
 | .ret=>.ret
 | .scope a=>comp P a
 | .label _=>.skip
 | _=>.bad
def zfI (P : Program) (r : ResultVar) : Nat × Option (Bool × Nat) :=
 match r with
 | .tmp t=>(t,none)
 | .cell a t=>match aggC P t,zce P t with | some ag,some s=>(a,some (ag,s)) | _,_=>(a,some (false,0))
def zss (P : Program) (fn : Func) : Option AFun :=
 match fn.body with
 | some c=>some { nt:=fn.ntmps,res:=fn.results.toList.map (zfI P),code:=comp P c }
 | none=>none
theorem Pres.refl (T : Nat → Nat) (w : World) : Pres T w T w:=⟨fun _=>Nat.le_refl _,fun _ cells _ fz h=>⟨cells,fz,h,rfl,fun _ _=>rfl⟩⟩
theorem Pres.trans {T w T1 w1 T2 w2} (a : Pres T w T1 w1) (b : Pres T1 w1 T2 w2) : Pres T w T2 w2:=by
 refine ⟨fun x=>Nat.le_trans (a.le x) (b.le x),fun x cells ty fz h=>?_⟩
 obtain ⟨c1,f1,h1,s1,e1⟩:=a.cell x cells ty fz h
 obtain ⟨c2,f2,h2,s2,e2⟩:=b.cell x c1 ty f1 h1
 exact ⟨c2,f2,h2,s2.trans s1,fun o ho=>(e2 o (Nat.lt_of_lt_of_le ho (a.le x))).trans (e1 o ho)⟩
theorem zd9 {n s i j : Nat} (hi : i < n) (hj : j < s) : i * s + j < n * s:=by
 have h : (i + 1) * s ≤ n * s:=Nat.mul_le_mul_right _ hi
 rw [Nat.add_mul] at h
 omega
theorem Rep.mono {T : Nat → Nat} {w : World} {M : GM} {x : AV} {v : Value} (h : Rep T w M x v) :
  ∀ {T' : Nat → Nat} {w' : World} {M' : GM},Pres T w T' w' → (∀ id g,M id = some g → M' id = some g) → Rep T' w' M' x v:=by
 induction h with
 | dead M v=>intro T' w' M' _ _; exact .dead _ _
 | sc M v h=>intro T' w' M' _ _; exact .sc _ _ h
 | agg M cs vs hl h1 h ih=>intro T' w' M' p m; exact .agg _ _ _ hl h1 fun i hi=>ih i hi p m
 | tup M cs vs hl h ih=>intro T' w' M' p m; exact .tup _ _ _ hl fun i hi=>ih i hi p m
 | vs M s full rows a cap c hf hle hw hb h1 h ih =>
   intro T' w' M' p m
   refine .vs _ s full rows a cap c hf hle hw (fun hne=>?_) h1 fun i j hi hj=>ih i j hi hj p fun _ _ e=>e
   obtain ⟨b,off,cells,ty,fz,ha,hw,hT,hc⟩:=hb hne
   obtain ⟨c',f',h1,h2,h3⟩:=p.cell b cells ty fz hw
   refine ⟨b,off,c',ty,f',ha,h1,Nat.le_trans hT (p.le b),fun i j hi hj=>?_⟩
   rw [h3 _ (by have:=zd9 hi hj; omega)]
   exact hc i j hi hj
 | pv M cs b off cells ty fz c hb ht hc h1 h ih =>
   intro T' w' M' p m
   obtain ⟨c',f',e1,e2,e3⟩:=p.cell b cells ty fz hb
   exact .pv _ cs b off c' ty f' c e1 (Nat.le_trans ht (p.le b)) (fun j hj=>by rw [e3 _ (by omega)]; exact hc j hj) h1 fun j hj=>ih j hj p fun _ _ e=>e
 | rs M id off len cap a g hg hz hl hn hb =>
   intro T' w' M' p m
   refine .rs _ id off len cap a g (m _ _ hg) hz hl hn fun b hbb=>?_
   obtain ⟨ha,cells,ty,fz,hw,hs⟩:=hb b hbb
   obtain ⟨c',f',e1,e2,e3⟩:=p.cell b cells ty fz hw
   exact ⟨ha,c',ty,f',e1,by omega⟩
 | rk M id off len cap a g hg hz hl hn hb =>
   intro T' w' M' p m
   refine .rk _ id off len cap a g (m _ _ hg) hz hl hn fun b hbb=>?_
   obtain ⟨ha,cells,ty,fz,hw,hs⟩:=hb b hbb
   obtain ⟨c',f',e1,e2,e3⟩:=p.cell b cells ty fz hw
   exact ⟨ha,c',ty,f',e1,by omega⟩
 | pt M id i j g b hg hz hb=>intro T' w' M' _ m; exact .pt _ id i j g b (m _ _ hg) hz hb
 | mp M id g b hg hz hb=>intro T' w' M' _ m; exact .mp _ id g b (m _ _ hg) hz hb
 | fn M f xs ys us vs hx hy h h' ih ih'=>intro T' w' M' p m; exact .fn _ f xs ys us vs hx hy (fun i hi=>ih i hi p m) fun i hi=>ih' i hi p m
 | ifc M t x v h ih=>intro T' w' M' p m; exact .ifc _ t x v (ih p m)
theorem Rep.plain {T : Nat → Nat} {w : World} {M : GM} {x : AV} {v : Value} (h : Rep T w M x v) (hp : Plain x) : ∀ (T' : Nat → Nat),Rep T' w M x v:=by
 induction hp generalizing v with
 | dead=>intro T'; exact .dead _ _
 | sc u=>intro T'; cases h with | sc _ _ h=>exact .sc _ _ h
 | agg xs _ ih=>intro T'; cases h with | agg _ _ vs hl h1 h=>exact .agg _ _ _ hl h1 fun i hi=>ih i (h i hi) T'
 | tup xs _ ih=>intro T'; cases h with | tup _ _ vs hl h=>exact .tup _ _ _ hl fun i hi=>ih i (h i hi) T'
 | rs id off len=>intro T'; cases h with | rs _ _ _ _ cap a g hg hz hl hn hb=>exact .rs _ _ _ _ _ _ g hg hz hl hn hb
 | pt id i j=>intro T'; cases h with | pt _ _ _ _ g b hg hz hb=>exact .pt _ _ _ _ g b hg hz hb
 | mp id=>intro T'; cases h with | mp _ _ g b hg hz hb=>exact .mp _ _ g b hg hz hb
theorem Rep.rk_rs {T : Nat → Nat} {w : World} {M : GM} {id off len cap : Nat} {v : Value} (h : Rep T w M (.rk id off len cap) v) : Rep T w M (.rs id off len) v:=by
 cases h with | rk _ _ _ _ _ a g hg hz hl hn hb=>exact .rs _ _ _ _ _ _ g hg hz hl hn hb
theorem zqu {α : Type} (i j : Nat) (a : α) (l : List (Nat × α)) : lkp ((i,a) :: l) j = if i = j then some a else lkp l j:=rfl
theorem zfl {α : Type} (l l' : List (Nat × α)) (j : Nat) : lkp (l ++ l') j = (lkp l j).or (lkp l' j):=by
 induction l with
 | nil=>rfl
 | cons p l ih =>
   obtain ⟨i,a⟩:=p
   simp only [List.cons_append,zqu]
   split <;> simp [ih]
theorem St.get_put (st : St) (d i : Nat) (v : AV) : (st.put (some d) v).get i = if d = i then v else st.get i:=by
 unfold St.put St.get
 simp only [zqu]
 split <;> rfl
theorem zsh {T : Nat → Nat} {w : World} {M : GM} {st : St} {a : Act} {d : Option Nat} {v : AV} {v' : Value} (sz : a.tmps.size = st.sz)
  (tm : ∀ i,Rep T w M (st.get i) (a.tmps.getD i undef)) (hd : d.all (· < st.sz) = true) (r : Rep T w M v v') :
  ∀ i,Rep T w M ((st.put d v).get i) ((a.put d v').tmps.getD i undef):=by
 intro i
 cases d with
 | none=>exact tm i
 | some d =>
   have hd' : d < a.tmps.size:=by rw [sz]; simpa using hd
   rw [St.get_put]
   simp only [Act.put]
   by_cases e : d = i
   ·subst e
    have : (a.tmps.setIfInBounds d v').getD d undef = v':=by simp [Array.getD,hd']
    rw [this,if_pos rfl]
    exact r
   ·have : (a.tmps.setIfInBounds d v').getD i undef = a.tmps.getD i undef:=by
     simp only [Array.getD_eq_getD_getElem?]
     rw [Array.getElem?_setIfInBounds_ne e]
    rw [this,if_neg e]
    exact tm i
theorem zeC {α : Type} (l : List α) (f : α → AV) (i : Nat) (h : i < l.length) : (l.map f).getD i .dead = f l[i]:=by simp [List.getD,h]
theorem ztj {T : Nat → Nat} {w : World} {M : GM} (cs : Array Value) (h : cs.all Value.oneCell' = true) : Rep T w M (.agg (cs.toList.map .sc)) (.agg cs):=by
 have h1 : ∀ i,i < cs.size → (cs.getD i undef).oneCell' = true:=fun i hi=>by
  rw [Array.all_eq_true] at h
  have:=h i hi
  simpa [Array.getD,hi] using this
 refine .agg _ _ _ (by simp) (fun i hi=>h1 i (by simpa using hi)) fun i hi=>?_
 have hi' : i < cs.size:=by simpa using hi
 rw [zeC _ _ _ (by simpa using hi')]
 have e : cs.getD i undef = cs.toList[i]'(by simpa using hi'):=by simp [Array.getD,hi']
 have:=h1 i hi'
 rw [e] at this ⊢
 exact .sc _ _ this
theorem zmT {T : Nat → Nat} {w : World} {M : GM} (v : Value) : Rep T w M (toAV v) v:=by
 unfold toAV
 split
 ·rename_i cs
  split
  ·rename_i hc; exact ztj cs hc
  ·exact .dead _ _
 ·exact .dead _ _
 ·rename_i h1 h2
  exact .sc _ _ (by cases v <;> first | rfl | (exact absurd rfl (h1 _)) | (exact absurd rfl (h2 _)))
theorem zaG {T : Nat → Nat} {w : World} {M : GM} {st : St} {a : Act} (tm : ∀ i,Rep T w M (st.get i) (a.tmps.getD i undef)) (x : Operand) :
  Rep T w M ((opd x).ev st.get) (a.eval x):=by
 cases x with
 | tmp t=>exact tm t
 | const v=>exact zmT v
 | global g=>exact .sc _ _ rfl
 | func f=>exact .fn _ _ _ _ _ _ rfl rfl (fun i hi=>absurd hi (Nat.not_lt_zero i)) (fun i hi=>absurd hi (Nat.not_lt_zero i))
theorem zhV {T : Nat → Nat} {w : World} {M : GM} {x : AV} {v : Value} {cs : List AV} (h : Rep T w M x v) (hc : cellsOf x = some cs) :
  v.cells.size = cs.length ∧ ∀ j,j < cs.length → (v.cells.getD j undef).oneCell' = true ∧ Rep T w M (cs.getD j .dead) (v.cells.getD j undef):=by
 have one : ∀ {x : AV} {v : Value},Rep T w M x v → v.oneCell' = true → v.cells.size = [x].length ∧ ∀ j,j < [x].length → (v.cells.getD j undef).oneCell' = true ∧ Rep T w M ([x].getD j .dead) (v.cells.getD j undef):=by
  intro x v h h1
  have e : v.cells = #[v]:=by cases v <;> first | rfl | (simp [Value.oneCell'] at h1)
  refine ⟨by rw [e]; rfl,fun j hj=>?_⟩
  obtain rfl : j = 0:=by simpa using hj
  rw [e]
  exact ⟨h1,h⟩
 cases h with
 | dead=>simp [cellsOf] at hc
 | sc _ _ h1 =>
   have : cs = [.sc v]:=by cases v <;> simp [cellsOf] at hc <;> first | exact hc.symm | (simp [Value.oneCell'] at h1)
   subst this
   exact one (.sc _ _ h1) h1
 | agg _ ys us hl h1 h =>
   simp only [cellsOf,Option.some.injEq] at hc
   subst hc
   exact ⟨hl,fun j hj=>⟨h1 j hj,h j hj⟩⟩
 | tup _ ys us hl h=>simp [cellsOf] at hc
 | vs _ s full rows a cap c hf hle hw hb h1 h =>
   simp only [cellsOf,Option.some.injEq] at hc; subst hc; exact one (.vs _ s full rows a cap c hf hle hw hb h1 h) rfl
 | pv _ ys b off cells ty fz c hb ht hcc h1 h =>
   simp only [cellsOf,Option.some.injEq] at hc; subst hc; exact one (.pv _ ys b off cells ty fz c hb ht hcc h1 h) rfl
 | rs _ id off len cap a g hg hz hl hn hb =>
   simp only [cellsOf,Option.some.injEq] at hc; subst hc; exact one (.rs _ id off len cap a g hg hz hl hn hb) rfl
 | rk _ id off len cap a g hg hz hl hn hb =>
   simp only [cellsOf,Option.some.injEq] at hc; subst hc; exact one (.rk _ id off len cap a g hg hz hl hn hb) rfl
 | pt _ id i j g b hg hz hb =>
   simp only [cellsOf,Option.some.injEq] at hc; subst hc; exact one (.pt _ id i j g b hg hz hb) rfl
 | mp _ id g b hg hz hb =>
   simp only [cellsOf,Option.some.injEq] at hc; subst hc; exact one (.mp _ id g b hg hz hb) rfl
 | fn _ f xs ys us vs hx hy h h' =>
   simp only [cellsOf,Option.some.injEq] at hc; subst hc; exact one (.fn _ f xs ys us vs hx hy h h') rfl
 | ifc _ t x v h =>
   simp only [cellsOf,Option.some.injEq] at hc; subst hc; exact one (.ifc _ t x v h) rfl
theorem St.hp_upd (st : St) (up : List (Nat × Option Ent)) (i : Nat) : (st.upd up).hp i = (lkp up i).elim (st.hp i) id:=by
 unfold St.upd St.hp
 simp only [zfl]
 cases lkp up i <;> rfl
theorem St.hp_put (st : St) (d : Option Nat) (v : AV) (i : Nat) : (st.put d v).hp i = st.hp i:=by
 cases d <;> rfl
theorem St.get_upd (st : St) (up : List (Nat × Option Ent)) (i : Nat) : (st.upd up).get i = st.get i:=rfl
theorem zi0.step {np : Nat} {T0 : Nat → Nat} {M0 : GM} {w0 : World} {T : Nat → Nat} {M : GM} {w : World} {T' : Nat → Nat} {M' : GM} {w' : World} (h : zi0 np T0 M0 w0 T M w)
  (tok : TOk T' w') (old : ∀ b,b < w0.heap.size → ¬ Pas np M0 b → T' b = T b) (same : ∀ k,k < np → M' k = M k) (os : w'.os = w.os) (tape : w'.tape = w.tape) (output : w'.output = w.output)
  (size : w.heap.size ≤ w'.heap.size) (keep : ∀ b,b < w0.heap.size → ¬ Pas np M0 b → w'.heap[b]? = w.heap[b]?)
  (pres : Pres T w T' w') (new : ∀ k g b,np ≤ k → M' k = some g → g.blk = some b → Pas np M0 b ∨ w0.heap.size ≤ b) : zi0 np T0 M0 w0 T' M' w' :=
 ⟨tok,fun b hb hn=>(old b hb hn).trans (h.old b hb hn),fun k hk=>(same k hk).trans (h.same k hk),os.trans h.os,tape.trans h.tape,output.trans h.output,Nat.le_trans h.size size,
  fun b hb hn=>(keep b hb hn).trans (h.keep b hb hn),h.pres.trans pres,new⟩
theorem zi0.blk {np : Nat} {T0 : Nat → Nat} {M0 : GM} {w0 : World} {T : Nat → Nat} {M : GM} {w : World} (h : zi0 np T0 M0 w0 T M w) {k : Nat} {g : GE} {b : Nat} (hg : M k = some g) (hb : g.blk = some b) : Pas np M0 b ∨ w0.heap.size ≤ b:=by
 rcases Nat.lt_or_ge k np with hk | hk
 ·exact .inl ⟨k,g,hk,by rw [← h.same k hk]; exact hg,hb⟩
 ·exact h.new k g b hk hg hb
theorem zdG.mono {T w M T' w' M'} (p : Pres T w T' w') (m : ∀ id g,M id = some g → M' id = some g) : ∀ {rows : List (List AV)} {es : List MapEntry},zdG T w M rows es → zdG T' w' M' rows es
 | [],[],_=>trivial
 | _ :: _,_ :: _,h=>⟨by obtain ⟨n,x,h1,h2,h3⟩:=h.1; exact ⟨n,x,h1,h2,h3.mono p m⟩,zdG.mono p m h.2⟩
 | [],_ :: _,h=>False.elim h
 | _ :: _,[],h=>False.elim h
theorem zdG.map {T w M T' w' M'} {f : AV → AV} (hi : ∀ n,f (.sc (.int .i64 n)) = .sc (.int .i64 n)) : ∀ {rows : List (List AV)} {es : List MapEntry},zdG T w M rows es → (∀ row ∈ rows,∀ x ∈ row,∀ v,Rep T w M x v → Rep T' w' M' (f x) v) → zdG T' w' M' (rows.map (·.map f)) es
 | [],[],_,_=>trivial
 | row :: rows,e :: es,h,hf=>⟨by
   obtain ⟨n,x,h1,h2,h3⟩:=h.1
   exact ⟨n,f x,by rw [h1]; simp [hi n],h2,hf row List.mem_cons_self x (by rw [h1]; simp) _ h3⟩,zdG.map hi h.2 fun r hr=>hf r (List.mem_cons_of_mem _ hr)⟩
 | [],_ :: _,h,_=>False.elim h
 | _ :: _,[],h,_=>False.elim h
theorem zoc.mono {T w M e g T' w' M'} (h : zoc T w M e g) (p : Pres T w T' w') (m : ∀ id g,M id = some g → M' id = some g)
  (hb : ∀ b,g.blk = some b → w'.heap[b]? = w.heap[b]? ∧ T' b = T b) : zoc T' w' M' e g:=by
 refine ⟨h.s,h.ro,h.wide,h.none,fun hz=>?_,fun hz b hbb=>?_⟩
 ·obtain ⟨b,es,clock,hbb,h1,h2,h5,h4⟩:=h.mp hz
  obtain ⟨e1,e2⟩:=hb b hbb
  exact ⟨b,es,clock,hbb,by rw [e1]; exact h1,by rw [e2]; exact h2,h5,h4.mono p m⟩
 obtain ⟨cells,ty,h1,h2,h3,h4⟩:=h.blk hz b hbb
 obtain ⟨e1,e2⟩:=hb b hbb
 refine ⟨cells,ty,by rw [e1]; exact h1,by rw [e2]; exact h2,h3,fun i j hi hj=>?_⟩
 obtain ⟨v,hv,ho,hr⟩:=h4 i j hi hj
 exact ⟨v,hv,ho,hr.mono p m⟩
section
variable {np : Nat} {T0 : Nat → Nat} {M0 : GM} {w0 : World} {live : Nat → Prop} {hp : Nat → Option Ent} {T : Nat → Nat} {M : GM} {w : World}
structure Mem (np : Nat) (T0 : Nat → Nat) (M0 : GM) (w0 : World) (live : Nat → Prop) (hp : Nat → Option Ent) (T : Nat → Nat) (M : GM) (w : World) : Prop where
 hs : HsOk T w M hp
 dom : ∀ id g,M id = some g → live id
 after : zi0 np T0 M0 w0 T M w
theorem Mem.block_lt (h : Mem np T0 M0 w0 live hp T M w) {id e g b} (he : hp id = some e) (hg : M id = some g) (hb : g.blk = some b) : b < w.heap.size:=by
 obtain ⟨g',h1,h2⟩:=h.hs.ent id e he
 obtain rfl:=Option.some.inj (hg.symm.trans h1)
 by_cases hz : e.s = 0
 ·obtain ⟨b',es,clock,hbb,h3,_⟩:=h2.mp hz
  obtain rfl:=Option.some.inj (hb.symm.trans hbb)
  exact (Array.getElem?_eq_some_iff.1 h3).1
 obtain ⟨cells,ty,h3,_⟩:=h2.blk hz b hb
 exact (Array.getElem?_eq_some_iff.1 h3).1
theorem Mem.T_zero (h : Mem np T0 M0 w0 live hp T M w) {b : Nat} (hb : w.heap.size ≤ b) : T b = 0:=by
 rcases Nat.eq_zero_or_pos (T b) with e | e
 ·exact e
 ·obtain ⟨cells,ty,fz,h1,_⟩:=h.after.tok b e
  have:=(Array.getElem?_eq_some_iff.1 h1).1
  omega
theorem Mem.wider (h : Mem np T0 M0 w0 live hp T M w) {live' : Nat → Prop} (hl : ∀ i,live i → live' i) : Mem np T0 M0 w0 live' hp T M w :=
 ⟨h.hs,fun id g hg=>hl _ (h.dom id g hg),h.after⟩
theorem Pres.alloc {o : Obj} {w1 : World} (hT : TOk T w) (hh : w1.heap = w.heap.push o) : Pres T w T w1:=by
 refine ⟨fun _=>Nat.le_refl _,fun b cells ty fz hb=>⟨cells,fz,?_,rfl,fun _ _=>rfl⟩⟩
 have : b < w.heap.size:=(Array.getElem?_eq_some_iff.1 hb).1
 rw [hh,Array.getElem?_push,if_neg (by omega)]
 exact hb
theorem Mem.draw (h : Mem np T0 M0 w0 live hp T M w) {w1 : World} (hh : w1.heap = w.heap) (os : w1.os = w.os) (tape : w1.tape = w.tape) (output : w1.output = w.output) :
  Mem np T0 M0 w0 live hp T M w1 ∧ Pres T w T w1:=by
 have p : Pres T w T w1:=⟨fun _=>Nat.le_refl _,fun b cells ty fz hb=>⟨cells,fz,by rw [hh]; exact hb,rfl,fun _ _=>rfl⟩⟩
 refine ⟨⟨⟨fun id e he=>?_,h.hs.inj⟩,h.dom,?_⟩,p⟩
 ·obtain ⟨g,h1,h2⟩:=h.hs.ent id e he
  exact ⟨g,h1,h2.mono p (fun _ _ e=>e) fun b _=>⟨by rw [hh],rfl⟩⟩
 ·exact h.after.step (fun b hb=>by rw [hh]; exact h.after.tok b hb) (fun _ _ _=>rfl) (fun _ _=>rfl) os tape output (by rw [hh]; exact Nat.le_refl _) (fun b _ _=>by rw [hh]) p h.after.new
theorem Mem.new (h : Mem np T0 M0 w0 live hp T M w) {id : Nat} (hid : ¬ live id) (hnp : np ≤ id) {w1 : World} {cells : Array Value} {ty : TypeId} (hh : w1.heap = w.heap.push (.cells cells ty)) (os : w1.os = w.os) (tape : w1.tape = w.tape)
  (output : w1.output = w.output) (e : Ent) (hez : e.s ≠ 0) (ro : e.ro ≤ e.rows.length) (wide : ∀ row ∈ e.rows,row.length = e.s) (fits : e.rows.length * e.s ≤ cells.size)
  (hc : ∀ i j,i < e.rows.length → j < e.s → ∃ v,cells[i * e.s + j]? = some v ∧ v.oneCell' = true ∧ Rep T w M ((e.rows.getD i []).getD j .dead) v)
  {hp' : Nat → Option Ent} (hp1 : hp' id = some e) (hp2 : ∀ i e',i ≠ id → hp' i = some e' → hp i = some e') :
  ∃ M' : GM,M' id = some ⟨some w.heap.size,0,e.s⟩ ∧ (∀ i g,M i = some g → M' i = some g) ∧ Mem np T0 M0 w0 (fun i=>live i ∨ i = id) hp' T M' w1 ∧ Pres T w T w1:=by
 have p : Pres T w T w1:=Pres.alloc h.after.tok hh
 have hMid : M id = none:=by
  cases hm : M id with
  | none=>rfl
  | some g=>exact absurd (h.dom id g hm) hid
 have mm : ∀ i g,M i = some g → (fun i=>if i = id then some (GE.mk (some w.heap.size) 0 e.s) else M i) i = some g:=by
  intro i g hg
  have : i ≠ id:=by rintro rfl; rw [hMid] at hg; cases hg
  simp only [this,if_false]; exact hg
 refine ⟨fun i=>if i = id then some ⟨some w.heap.size,0,e.s⟩ else M i,by simp,mm,⟨⟨fun i e' he=>?_,fun i i' e1 e2 g g' b h1 h2 h3 h4 h5 h6=>?_⟩,fun i g hg=>?_,?_⟩,p⟩
 ·by_cases hi : i = id
  ·subst hi
   obtain rfl : e = e':=Option.some.inj (hp1.symm.trans he)
   refine ⟨⟨some w.heap.size,0,e.s⟩,if_pos rfl,rfl,ro,fun _=>wide,(fun e=>by simp at e),(fun h=>absurd h hez),fun _ b hb=>?_⟩
   obtain rfl : w.heap.size = b:=Option.some.inj hb
   refine ⟨cells,ty,by rw [hh]; simp,by rw [h.T_zero (Nat.le_refl _)]; exact Nat.zero_le _,by simpa using fits,fun i j hi hj=>?_⟩
   obtain ⟨v,hv,ho,hr⟩:=hc i j hi hj
   exact ⟨v,by simpa using hv,ho,hr.mono p mm⟩
  ·have he':=hp2 i e' hi he
   obtain ⟨g,h1,h2⟩:=h.hs.ent i e' he'
   refine ⟨g,by simp only [hi,if_false]; exact h1,h2.mono p mm fun b hb=>⟨?_,rfl⟩⟩
   have:=h.block_lt he' h1 hb
   rw [hh,Array.getElem?_push,if_neg (by omega)]
 ·by_cases hi : i = id <;> by_cases hi' : i' = id
  ·rw [hi,hi']
  ·rw [if_pos hi] at h3; rw [if_neg hi'] at h4
   obtain rfl:=Option.some.inj h3
   have:=h.block_lt (hp2 i' e2 hi' h2) h4 h6
   simp at h5
   omega
  ·rw [if_neg hi] at h3; rw [if_pos hi'] at h4
   obtain rfl:=Option.some.inj h4
   have:=h.block_lt (hp2 i e1 hi h1) h3 h5
   simp at h6
   omega
  ·rw [if_neg hi] at h3; rw [if_neg hi'] at h4
   exact h.hs.inj i i' e1 e2 g g' b (hp2 i e1 hi h1) (hp2 i' e2 hi' h2) h3 h4 h5 h6
 ·by_cases hi : i = id
  ·exact .inr hi
  ·rw [if_neg hi] at hg; exact .inl (h.dom i g hg)
 ·refine h.after.step (fun b hb=>?_) (fun _ _ _=>rfl) (fun k hk=>?_) os tape output (by rw [hh]; simp) (fun b hb _=>?_) p fun k g b hk hg hb=>?_
  ·obtain ⟨c,ty',fz,h1,h2⟩:=h.after.tok b hb
   have : b < w.heap.size:=(Array.getElem?_eq_some_iff.1 h1).1
   exact ⟨c,ty',fz,by rw [hh,Array.getElem?_push,if_neg (by omega)]; exact h1,h2⟩
  ·have : k ≠ id:=by omega
   simp only [this,if_false]
  ·have:=h.after.size
   rw [hh,Array.getElem?_push,if_neg (by omega)]
  ·by_cases hi : k = id
   ·rw [if_pos hi] at hg
    obtain rfl:=Option.some.inj hg
    obtain rfl:=Option.some.inj hb
    exact .inr h.after.size
   ·rw [if_neg hi] at hg
    exact h.after.new k g b hk hg hb
theorem Mem.write (h : Mem np T0 M0 w0 live hp T M w) {id id' : Nat} {e0 e : Ent} {g g' : GE} {b : Nat} {cells cells' : Array Value} {ty : TypeId} (he0 : hp id = some e0) (hg : M id = some g) (hb : g.blk = some b)
  (hcells : w.heap[b]? = some (.cells cells ty (0,0))) (hsz : cells'.size = cells.size) (hlow : ∀ o,o < T b → cells'[o]? = cells[o]?)
  (hid : (id' = id ∧ g' = g) ∨ (¬ live id' ∧ np ≤ id')) (hb' : g'.blk = some b) (hs' : g'.s = e.s) (hez : e.s ≠ 0) (ro : e.ro ≤ e.rows.length) (wide : ∀ row ∈ e.rows,row.length = e.s)
  (hT : T b ≤ g'.base + e.ro * e.s) (fits : g'.base + e.rows.length * e.s ≤ cells.size)
  (hc : ∀ i j,i < e.rows.length → j < e.s → ∃ v,cells'[g'.base + i * e.s + j]? = some v ∧ v.oneCell' = true ∧ Rep T w M ((e.rows.getD i []).getD j .dead) v)
  {hp' : Nat → Option Ent} (hp1 : hp' id' = some e) (hp2 : ∀ i e',i ≠ id' → hp' i = some e' → i ≠ id ∧ hp i = some e') :
  ∃ M' : GM,M' id' = some g' ∧ (∀ i g,M i = some g → M' i = some g) ∧ Mem np T0 M0 w0 (fun i=>live i ∨ i = id') hp' T M' (w.setRow b cells') ∧ Pres T w T (w.setRow b cells'):=by
 have hother : ∀ k,k ≠ b → (w.setRow b cells').heap[k]? = w.heap[k]?:=fun k hk=>setRow_other w b k cells' hk
 have hsame:=setRow_heap w b cells cells' ty (0,0) hcells
 have p : Pres T w T (w.setRow b cells'):=by
  refine ⟨fun _=>Nat.le_refl _,fun k c t f hk=>?_⟩
  by_cases e : k = b
  ·subst e
   rw [hcells] at hk
   cases hk
   exact ⟨cells',(0,0),hsame,hsz,hlow⟩
  ·exact ⟨c,f,by rw [hother k e]; exact hk,rfl,fun _ _=>rfl⟩
 have hMid : id' ≠ id → M id' = none:=by
  intro hne
  rcases hid with ⟨h1,_⟩ | ⟨h1,_⟩
  ·exact absurd h1 hne
  ·cases hm : M id' with
   | none=>rfl
   | some g=>exact absurd (h.dom id' g hm) h1
 have mm : ∀ i g1,M i = some g1 → (fun i=>if i = id' then some g' else M i) i = some g1:=by
  intro i g1 hg1
  by_cases hi : i = id'
  ·subst hi
   rcases hid with ⟨rfl,rfl⟩ | ⟨h1,_⟩
   ·simp only [if_true]; exact hg.symm.trans hg1
   ·exact absurd (h.dom i g1 hg1) h1
  ·simp only [hi,if_false]; exact hg1
 have hblk : ∀ i e' g1 b1,i ≠ id → hp i = some e' → M i = some g1 → g1.blk = some b1 → b1 ≠ b:=by
  rintro i e' g1 b1 hi h1 h2 h3 rfl
  exact hi (h.hs.inj i id e' e0 g1 g b1 h1 he0 h2 hg h3 hb)
 refine ⟨fun i=>if i = id' then some g' else M i,by simp,mm,⟨⟨fun i e' he=>?_,fun i i' e1 e2 g1 g2 b1 h1 h2 h3 h4 h5 h6=>?_⟩,fun i g1 hg1=>?_,?_⟩,p⟩
 ·by_cases hi : i = id'
  ·subst hi
   obtain rfl : e = e':=Option.some.inj (hp1.symm.trans he)
   refine ⟨g',if_pos rfl,hs',ro,fun _=>wide,(fun e=>by rw [hb'] at e; cases e),(fun h=>absurd h hez),fun _ b1 hb1=>?_⟩
   obtain rfl : b = b1:=Option.some.inj (hb'.symm.trans hb1)
   refine ⟨cells',ty,hsame,hT,by rw [hsz]; exact fits,fun i j hi hj=>?_⟩
   obtain ⟨v,hv,ho,hr⟩:=hc i j hi hj
   exact ⟨v,hv,ho,hr.mono p mm⟩
  ·obtain ⟨hne,he'⟩:=hp2 i e' hi he
   obtain ⟨g1,h1,h2⟩:=h.hs.ent i e' he'
   refine ⟨g1,by simp only [hi,if_false]; exact h1,h2.mono p mm fun b1 hb1=>⟨hother b1 (hblk i e' g1 b1 hne he' h1 hb1),rfl⟩⟩
 ·by_cases hi : i = id' <;> by_cases hi' : i' = id'
  ·rw [hi,hi']
  ·rw [if_pos hi] at h3; rw [if_neg hi'] at h4
   obtain rfl:=Option.some.inj h3
   obtain rfl:=Option.some.inj (hb'.symm.trans h5)
   obtain ⟨k1,k2⟩:=hp2 i' e2 hi' h2
   exact absurd rfl (hblk i' e2 g2 _ k1 k2 h4 h6)
  ·rw [if_neg hi] at h3; rw [if_pos hi'] at h4
   obtain rfl:=Option.some.inj h4
   obtain rfl:=Option.some.inj (hb'.symm.trans h6)
   obtain ⟨k1,k2⟩:=hp2 i e1 hi h1
   exact absurd rfl (hblk i e1 g1 _ k1 k2 h3 h5)
  ·rw [if_neg hi] at h3; rw [if_neg hi'] at h4
   exact h.hs.inj i i' e1 e2 g1 g2 b1 (hp2 i e1 hi h1).2 (hp2 i' e2 hi' h2).2 h3 h4 h5 h6
 ·by_cases hi : i = id'
  ·exact .inr hi
  ·rw [if_neg hi] at hg1; exact .inl (h.dom i g1 hg1)
 ·refine h.after.step (fun k hk=>?_) (fun _ _ _=>rfl) (fun k hk=>?_) rfl rfl rfl (by simp) (fun k hk hn=>?_) p fun k g1 b1 hk hg1 hb1=>?_
  ·obtain ⟨c,t,f,h1,h2⟩:=h.after.tok k hk
   obtain ⟨c',f',e1,e2,_⟩:=p.cell k c t f h1
   exact ⟨c',t,f',e1,by omega⟩
  ·by_cases hi : k = id'
   ·subst hi
    rcases hid with ⟨rfl,rfl⟩ | ⟨_,h1⟩
    ·simp only [if_true]; exact hg.symm
    ·omega
   ·simp only [hi,if_false]
  ·refine hother k ?_
   rintro rfl
   rcases h.after.blk hg hb with h1 | h1
   ·exact hn h1
   ·omega
  ·by_cases hi : k = id'
   ·rw [if_pos hi] at hg1
    obtain rfl:=Option.some.inj hg1
    obtain rfl:=Option.some.inj (hb'.symm.trans hb1)
    exact h.after.blk hg hb
   ·rw [if_neg hi] at hg1
    exact h.after.new k g1 b1 hk hg1 hb1
end
theorem zah {P : Program} {t : TypeId} {d : TypeDesc} (h : P.underlying t = some d) (w : World) : (underlying t).run P w = .ok d w:=by
 simp [underlying,h]
section
variable {P : Program} {np : Nat} {T0 : Nat → Nat} {M0 : GM} {w0 : World} {live : Nat → Prop} {st : St} {T : Nat → Nat} {M : GM} {a : Act} {w : World} {idb : Nat}
def Eff (P : Program) (np : Nat) (T0 : Nat → Nat) (M0 : GM) (w0 : World) (live : Nat → Prop) (id : Nat) (hp : Nat → Option Ent) (T : Nat → Nat) (M : GM) (w : World) (v : AV) : Result Next → Prop
 | .ok (.value v') w'=>∃ T' M',Mem np T0 M0 w0 (fun i=>live i ∨ (id ≤ i ∧ i < id + 8)) hp T' M' w' ∧ Pres T w T' w' ∧ (∀ i g,M i = some g → M' i = some g) ∧ Rep T' w' M' v v'
 | .ok .skip w'=>∃ T' M',Mem np T0 M0 w0 (fun i=>live i ∨ (id ≤ i ∧ i < id + 8)) hp T' M' w' ∧ Pres T w T' w' ∧ (∀ i g,M i = some g → M' i = some g) ∧ v = .dead
 | .ok (.enter f args) w1=>w1 = w ∧ Calls P f args w fun e w'=>∃ v' T' M',e = .returned v' ∧ Mem np T0 M0 w0 (fun i=>live i ∨ (id ≤ i ∧ i < id + 8)) hp T' M' w' ∧ Pres T w T' w' ∧
   (∀ i g,M i = some g → M' i = some g) ∧ Rep T' w' M' v v'
 | _=>False
theorem zaz (m : Mem np T0 M0 w0 live st.hp T M w) {v : AV} {v' : Value} (r : Rep T w M v v') {s : Sem Next} (hs : s.run P w = .ok (.value v') w) :
  Eff P np T0 M0 w0 live idb (st.upd []).hp T M w v (s.run P w):=by
 rw [hs]
 exact ⟨T,M,m.wider fun _ h=>.inl h,Pres.refl _ _,fun _ _ h=>h,r⟩
def Goal (P : Program) (np : Nat) (T0 : Nat → Nat) (M0 : GM) (w0 : World) (live : Nat → Prop) (st : St) (T : Nat → Nat) (M : GM) (a : Act) (w : World) (idb : Nat) (o : Oper) : Prop :=
 ∀ K,aK P np idb (zaB P o).1 ((zaB P o).2.map (·.ev st.get)) st.hp K → ∃ v rd up,K v rd up ∧ Eff P np T0 M0 w0 live idb (st.upd up).hp T M w v ((execOp a.eval o).run P w)
variable (tm : ∀ i,Rep T w M (st.get i) (a.tmps.getD i undef)) (m : Mem np T0 M0 w0 live st.hp T M w)
include tm m
theorem zwY (o : Oper) (x : Operand) (h : o.op = .move x ∨ o.op = .assign x) : Goal P np T0 M0 w0 live st T M a w idb o:=by
 intro K hk
 have hc : zaB P o = (.mv,[opd x]):=by rcases h with h | h <;> simp [zaB,h]
 rw [hc] at hk
 refine ⟨_,_,_,hk,zaz m (zaG tm x) ?_⟩
 rcases h with h | h <;> simp [execOp,h]
omit tm m
theorem zbF {T : Nat → Nat} {w : World} {M : GM} {x : AV} {v u : Value} (h : Rep T w M x v) (e : x = .sc u) : v = u:=by
 subst e; cases h; rfl
include tm m
theorem zwl (o : Oper) (c x y : Operand) (h : o.op = .pick c x y) : Goal P np T0 M0 w0 live st T M a w idb o:=by
 intro K hk
 have hc : zaB P o = (.pick,[opd c,opd x,opd y]):=by simp [zaB,h]
 rw [hc] at hk
 simp only [List.map,aK] at hk
 obtain ⟨t,ht,hk⟩:=hk
 have hct:=zbF (zaG tm c) ht
 refine ⟨_,_,_,hk,zaz m (v':=if t then a.eval x else a.eval y) ?_ ?_⟩
 ·cases t
  ·exact zaG tm y
  ·exact zaG tm x
 ·simp only [execOp,h,hct]
  cases t <;> simp [asBool]
theorem zyc (o : Oper) (x : Operand) (h : o.op = .nilCheck x) : Goal P np T0 M0 w0 live st T M a w idb o:=by
 intro K hk
 have hc : zaB P o = (.nil,[opd x]):=by simp [zaB,h]
 rw [hc] at hk
 simp only [List.map,aK] at hk
 obtain ⟨h1,hk⟩:=hk
 have hr:=zaG tm x
 refine ⟨_,_,_,hk,zaz m hr ?_⟩
 generalize (opd x).ev st.get = y at *
 generalize hv : a.eval x = v at *
 simp only [execOp,h,hv]
 cases hr <;> first | exact False.elim h1 | rfl
theorem zys (o : Oper) (t : TypeId) (x : Operand) (h : o.op = .makeInterface t x) : Goal P np T0 M0 w0 live st T M a w idb o:=by
 intro K hk
 cases hu : P.underlying t with
 | none =>
   have hc : zaB P o = (.bad,[]):=by simp [zaB,h,hu]
   rw [hc] at hk
   exact False.elim hk
 | some td =>
   by_cases hs : ∃ fs,td = .struct fs
   ·obtain ⟨fs,rfl⟩:=hs
    have hc : zaB P o = (.mki t,[opd x]):=by simp [zaB,h,hu]
    rw [hc] at hk
    refine ⟨_,_,_,hk,zaz m (.ifc _ t _ _ (zaG tm x)) ?_⟩
    simp [execOp,h,Instr.makeInterface,run_underlying hu]
   ·have hc : zaB P o = (.bad,[]):=by
     simp only [zaB,h,hu]
     split
     ·rename_i e; exact absurd ⟨_,Option.some.inj e⟩ hs
     ·rfl
    rw [hc] at hk
    exact False.elim hk
theorem zxv (o : Oper) (x : Operand) (i : Nat) (h : o.op = .extract x i) : Goal P np T0 M0 w0 live st T M a w idb o:=by
 intro K hk
 have hc : zaB P o = (.ext i,[opd x]):=by simp [zaB,h]
 rw [hc] at hk
 have hr:=zaG tm x
 simp only [List.map] at hk
 generalize (opd x).ev st.get = y at *
 generalize hv : a.eval x = v at *
 cases y <;> simp only [aK] at hk
 rename_i vs
 obtain ⟨u,hu,hk⟩:=hk
 cases hr with
 | tup _ _ us hl hh =>
   have hi : i < vs.length:=(List.getElem?_eq_some_iff.1 hu).1
   have h1:=hh i hi
   have e1 : vs.getD i .dead = u:=by simp [List.getD,hu]
   rw [e1] at h1
   refine ⟨_,_,_,hk,zaz m h1 ?_⟩
   have hi' : i < us.size:=by omega
   simp [execOp,h,hv,Instr.extract,hi',Array.getD]
theorem zAa (o : Oper) (f : FuncId) (first capt : Array Operand) (h : o.op = .makeFunc (.func f) first capt) : Goal P np T0 M0 w0 live st T M a w idb o:=by
 intro K hk
 by_cases hf : first.isEmpty = true
 ·have hc : zaB P o = (.mkf f,capt.toList.map opd):=by simp [zaB,h,hf]
  rw [hc] at hk
  simp only [List.map_map,aK] at hk
  have hf' : first = #[]:=by simpa using hf
  refine ⟨_,_,_,hk,zaz m (v':=.func (.func f) #[] (capt.map a.eval)) (.fn _ (.func f) [] _ #[] _ rfl (by simp) (fun i hi=>absurd hi (Nat.not_lt_zero i)) fun i hi=>?_) ?_⟩
  ·simp only [List.length_map,Array.length_toList] at hi
   have e1 : ((capt.toList.map ((fun x=>x.ev st.get) ∘ opd)).getD i .dead) = (opd capt[i]).ev st.get:=by simp [List.getD,hi]
   have e2 : (capt.map a.eval).getD i undef = a.eval capt[i]:=by simp [Array.getD,hi]
   rw [e1,e2]
   exact zaG tm _
  ·simp [execOp,h,hf',Instr.makeFunc]
 by_cases hg : capt.isEmpty = true
 ·have hc : zaB P o = (.mkb f,first.toList.map opd):=by simp [zaB,h,hf,hg]
  rw [hc] at hk
  simp only [List.map_map,aK] at hk
  have hg' : capt = #[]:=by simpa using hg
  refine ⟨_,_,_,hk,zaz m (v':=.func (.func f) (first.map a.eval) #[]) (.fn _ (.func f) _ [] _ #[] (by simp) rfl (fun i hi=>?_) (fun i hi=>absurd hi (Nat.not_lt_zero i))) ?_⟩
  ·simp only [List.length_map,Array.length_toList] at hi
   have e1 : ((first.toList.map ((fun x=>x.ev st.get) ∘ opd)).getD i .dead) = (opd first[i]).ev st.get:=by simp [List.getD,hi]
   have e2 : (first.map a.eval).getD i undef = a.eval first[i]:=by simp [Array.getD,hi]
   rw [e1,e2]
   exact zaG tm _
  ·simp [execOp,h,hg',Instr.makeFunc]
 ·have hc : zaB P o = (.bad,[]):=by simp [zaB,h,hf,hg]
  rw [hc] at hk
  exact False.elim hk
theorem zyB (o : Oper) (t : TypeId) (x : Operand) (f : Nat) (h : o.op = .fieldAddr t x f) : Goal P np T0 M0 w0 live st T M a w idb o:=by
 intro K hk
 have hr:=zaG tm x
 simp only [zaB,h] at hk
 split at hk
 case h_2=>exact False.elim hk
 rename_i fs hu
 split at hk
 case h_2=>exact False.elim hk
 rename_i fd hfd
 split at hk
 case h_2=>exact False.elim hk
 rename_i k hsz
 simp only [List.map] at hk
 have hsz' : (sizeOf fd.type).run P w = .ok (k + 1) w:=by
  simp only [zce,Option.map_eq_some_iff] at hsz
  obtain ⟨i,hi,hs⟩:=hsz
  simp [sizeOf,typeInfo,hi,hs]
 generalize (opd x).ev st.get = y at *
 generalize hv : a.eval x = v at *
 have key : ∀ b off,v = .pointer (some ⟨b,off,none⟩) → (execOp a.eval o).run P w = .ok (.value (.pointer (some ⟨b,off + fd.offset,none⟩))) w:=by
  rintro b off rfl
  have hadd : (⟨b,off,none⟩ : Addr).add fd.offset = ⟨b,off + fd.offset,none⟩:=by unfold Addr.add; split <;> simp_all
  simp [execOp,h,hv,Instr.fieldAt,zah hu,hfd,Instr.sureAddr,fieldPlace,hsz',hadd]
 cases y <;> simp only [aK] at hk
 ·rename_i cs
  obtain ⟨hle,hk⟩:=hk
  cases hr with
  | pv _ _ b off cells ty fz c hb ht hcc h1 hh =>
    refine ⟨_,_,_,hk,zaz m (.pv _ _ b (off + fd.offset) cells ty fz (fun j=>c (fd.offset + j)) hb (by simp; omega) (fun j hj=>?_) (fun j hj=>?_) fun j hj=>?_) (key b off rfl)⟩
    ·rw [Nat.add_assoc]; exact hcc _ (by simp at hj; omega)
    ·exact h1 _ (by simp at hj; omega)
    ·have:=hh (fd.offset + j) (by simp at hj; omega)
     simpa [List.getD] using this
 ·rename_i i k j
  cases hr with
  | pt _ _ _ _ g b hg hz hb =>
    refine ⟨_,_,_,hk,zaz m (.pt _ _ _ _ g b hg hz hb) ?_⟩
    rw [key b _ rfl,Nat.add_assoc (g.base + k * g.s)]
theorem zAR (o : Oper) (op : UnOp) (t : TypeId) (x : Operand) (h : o.op = .unOp op t x) : Goal P np T0 M0 w0 live st T M a w idb o:=by
 intro K hk
 have hc : zaB P o = (.un op,[opd x]):=by simp [zaB,h]
 rw [hc] at hk
 have hr:=zaG tm x
 simp only [List.map] at hk
 generalize (opd x).ev st.get = y at *
 generalize hv : a.eval x = v at *
 cases y <;> simp only [aK] at hk
 rename_i u
 obtain ⟨z,hz,hk⟩:=hk
 obtain rfl:=zbF hr rfl
 have hz1 : z.oneCell' = true:=by
  cases v <;> simp only [unV] at hz <;> (try (cases hz; done)) <;> cases op <;> simp at hz <;> subst hz <;> rfl
 refine ⟨_,_,_,hk,zaz m (.sc _ _ hz1) ?_⟩
 simp only [execOp,h,hv]
 cases v <;> simp only [unV] at hz <;> (try (cases hz; done)) <;> cases op <;> simp at hz <;> subst hz <;> simp [Op.unary,Op.intArith,Op.intBits]
end
section
variable {P : Program} {np : Nat} {T0 : Nat → Nat} {M0 : GM} {w0 : World} {live : Nat → Prop} {st : St} {T : Nat → Nat} {M : GM} {a : Act} {w : World} {idb : Nat}
theorem ztB {op : BinOp} {x y z : Value} (h : binV op x y = some z) : z.oneCell' = true:=by
 cases x <;> cases y <;> simp only [binV] at h <;> (try (cases h; done))
 ·cases op <;> simp at h <;> (try (obtain ⟨_,h⟩:=h)) <;> (try subst h) <;> (try rfl) <;> (try (obtain ⟨_,h⟩:=h)) <;> (try subst h) <;> rfl
 ·cases op <;> simp at h <;> (try subst h) <;> rfl
theorem ztp {op : BinOp} {t : TypeId} {x y z : Value} (h : binV op x y = some z) : (binOp op t x y).run P w = .ok z w:=by
 cases x <;> cases y <;> simp only [binV] at h <;> (try (cases h; done))
 ·rename_i k n k' n'
  cases op <;> simp at h <;> (try (obtain ⟨h0,h⟩:=h)) <;> (try (obtain ⟨h0',h⟩:=h)) <;> (try subst h) <;> (try subst h0) <;>
   first
    | (simp [binOp,Op.intArith,Op.intBits,Op.intCmp]; done)
    | (have hn : ¬ (n' < 0):=by omega
       simp [binOp,Op.shift,hn]; done)
    | (simp [binOp,Op.intDiv,h0']; done)
 ·cases op <;> simp at h <;> (try subst h) <;> simp [binOp,Op.stringOp]
theorem zfr {t : TypeId} {d : TypeDesc} (hu : P.underlying t = some d) (hd : (∃ k,d = .int k) ∨ d = .bool ∨ d = .string) {xs : Array Value} {off : Nat} {v : Value} (hx : xs[off]? = some v) : (part t xs off).run P w = .ok v w:=by
 rcases hd with ⟨k,rfl⟩ | rfl | rfl <;> simp [part,isAgg,zah hu,hx]
theorem zh5 {xs ys : Array Value} (d : Nat) : ∀ (fs : List Field) (i : Nat) (ks : List Nat) (cs ds : List AV) (b : Bool),zml P i fs = some ks → eqs ks cs ds = some b →
  (∀ (j : Nat) v,cs[j]? = some (.sc v) → xs[i + j]? = some v) → (∀ (j : Nat) v,ds[j]? = some (.sc v) → ys[i + j]? = some v) → (Op.eqFields (d + 1) xs ys fs).run P w = .ok b w
 | [],i,ks,cs,ds,b,hf,he,hx,hy=>by
   simp only [zml,Option.some.injEq] at hf
   subst hf
   cases cs <;> cases ds <;> simp [eqs] at he
   subst he
   simp [Op.eqFields]
 | f :: fs,i,ks,cs,ds,b,hf,he,hx,hy=>by
   simp only [zml] at hf
   split at hf
   case isFalse=>cases hf
   rename_i h0
   obtain ⟨hn,ho⟩:=h0
   have tail : ∀ ks' cs' ds' b' c c',zml P (i + 1) fs = some ks' → cs = c :: cs' → ds = c' :: ds' → eqs ks' cs' ds' = some b' → (Op.eqFields (d + 1) xs ys fs).run P w = .ok b' w:=by
    intro ks' cs' ds' b' c c' h1 h2 h3 h4
    subst h2 h3
    refine zh5 d fs (i + 1) ks' cs' ds' b' h1 h4 (fun j v hj=>?_) fun j v hj=>?_
    ·rw [show i + 1 + j = i + (j + 1) by omega]
     exact hx (j + 1) v (by simpa using hj)
    ·rw [show i + 1 + j = i + (j + 1) by omega]
     exact hy (j + 1) v (by simpa using hj)
   have fin : ∀ (dd : TypeDesc) (u v : Value) (r r' : Bool),P.underlying f.type = some dd → ((∃ k,dd = .int k) ∨ dd = .bool ∨ dd = .string) → xs[i]? = some u → ys[i]? = some v → (Op.equalIn (d + 1) f.type u v).run P w = .ok r w →
     (Op.eqFields (d + 1) xs ys fs).run P w = .ok r' w → (Op.eqFields (d + 1) xs ys (f :: fs)).run P w = .ok (r && r') w:=by
    intro dd u v r r' h1 h2 h3 h4 h5 h6
    simp only [Op.eqFields,ne_eq,hn,not_false_eq_true,if_true,Sem.run_bind,zfr h1 h2 (ho ▸ h3),zfr h1 h2 (ho ▸ h4),Result.andThen_ok,h5]
    cases r
    ·simp
    ·simpa using h6
   split at hf
   ·rename_i k ks' hu hks
    obtain rfl:=Option.some.inj hf
    unfold eqs at he
    split at he <;> (try (cases he; done))
    ·rename_i h; cases h
    ·rename_i ki n1 cs' ki' n2 ds' e
     cases e
     split at he
     case isFalse=>cases he
     rename_i hk
     subst hk
     simp only [Option.map_eq_some_iff] at he
     obtain ⟨r,hr,rfl⟩:=he
     exact fin _ _ _ _ _ hu (.inl ⟨_,rfl⟩) (hx 0 _ rfl) (hy 0 _ rfl) (by simp [Op.equalIn,zah hu]) (tail _ _ _ _ _ _ hks rfl rfl hr)
    all_goals (rename_i h; cases h)
   ·rename_i ks' hu hks
    obtain rfl:=Option.some.inj hf
    unfold eqs at he
    split at he <;> (try (cases he; done))
    ·rename_i h; cases h
    ·rename_i h; cases h
    ·rename_i b1 cs' b2 ds' e
     cases e
     simp only [Option.map_eq_some_iff] at he
     obtain ⟨r,hr,rfl⟩:=he
     exact fin _ _ _ _ _ hu (.inr (.inl rfl)) (hx 0 _ rfl) (hy 0 _ rfl) (by simp [Op.equalIn,zah hu]) (tail _ _ _ _ _ _ hks rfl rfl hr)
    ·rename_i h; cases h
   ·rename_i ks' hu hks
    obtain rfl:=Option.some.inj hf
    unfold eqs at he
    split at he <;> (try (cases he; done))
    ·rename_i h; cases h
    ·rename_i h; cases h
    ·rename_i h; cases h
    ·rename_i b1 cs' b2 ds' e
     cases e
     simp only [Option.map_eq_some_iff] at he
     obtain ⟨r,hr,rfl⟩:=he
     exact fin _ _ _ _ _ hu (.inr (.inr rfl)) (hx 0 _ rfl) (hy 0 _ rfl) (by simp [Op.equalIn,zah hu,beq_toListBytes]) (tail _ _ _ _ _ _ hks rfl rfl hr)
   ·cases hf
def eq1 : Nat → Value → Value → Option Bool
 | 0,.int k a,.int k' b=>if k = k' then some (a == b) else none
 | 1,.bool a,.bool b=>some (a == b)
 | 2,.string a,.string b=>some (a.toList == b.toList)
 | _,_,_=>none
theorem zqC {k : Nat} {ks : List Nat} {cs ds : List AV} {b : Bool} (h : eqs (k :: ks) cs ds = some b) : ∃ u v cs' ds' b1 b2,cs = .sc u :: cs' ∧ ds = .sc v :: ds' ∧ eq1 k u v = some b1 ∧ eqs ks cs' ds' = some b2 ∧ b = (b1 && b2):=by
 unfold eqs at h
 split at h <;> (try (cases h; done))
 ·rename_i e; cases e
 ·rename_i k1 x cs' k2 y ds' e
  cases e
  split at h
  case isFalse=>cases h
  rename_i hk
  simp only [Option.map_eq_some_iff] at h
  obtain ⟨r,hr,rfl⟩:=h
  exact ⟨_,_,cs',ds',_,r,rfl,rfl,by simp only [eq1]; rw [if_pos hk],hr,rfl⟩
 ·rename_i x cs' y ds' e
  cases e
  simp only [Option.map_eq_some_iff] at h
  obtain ⟨r,hr,rfl⟩:=h
  exact ⟨_,_,cs',ds',_,r,rfl,rfl,rfl,hr,rfl⟩
 ·rename_i x cs' y ds' e
  cases e
  simp only [Option.map_eq_some_iff] at h
  obtain ⟨r,hr,rfl⟩:=h
  exact ⟨_,_,cs',ds',_,r,rfl,rfl,rfl,hr,rfl⟩
theorem zgM : ∀ (ks ls : List Nat) (cs ds : List AV) (b : Bool),eqs (ks ++ ls) cs ds = some b → ∃ b1 b2,eqs ks (cs.take ks.length) (ds.take ks.length) = some b1 ∧ eqs ls (cs.drop ks.length) (ds.drop ks.length) = some b2 ∧ b = (b1 && b2)
 | [],ls,cs,ds,b,h=>⟨true,b,by simp [eqs],by simpa using h,by simp⟩
 | k :: ks,ls,cs,ds,b,h=>by
   rw [List.cons_append] at h
   unfold eqs at h
   split at h <;> (try (cases h; done))
   ·rename_i e; cases e
   ·rename_i k1 x cs' k2 y ds' e
    cases e
    split at h
    case isFalse=>cases h
    rename_i hk
    subst hk
    simp only [Option.map_eq_some_iff] at h
    obtain ⟨r,hr,rfl⟩:=h
    obtain ⟨b1,b2,h1,h2,rfl⟩:=zgM ks ls _ _ _ hr
    exact ⟨(x == y) && b1,b2,by simp [eqs,h1],by simpa using h2,by simp [Bool.and_assoc]⟩
   ·rename_i x cs' y ds' e
    cases e
    simp only [Option.map_eq_some_iff] at h
    obtain ⟨r,hr,rfl⟩:=h
    obtain ⟨b1,b2,h1,h2,rfl⟩:=zgM ks ls _ _ _ hr
    exact ⟨(x == y) && b1,b2,by simp [eqs,h1],by simpa using h2,by simp [Bool.and_assoc]⟩
   ·rename_i x cs' y ds' e
    cases e
    simp only [Option.map_eq_some_iff] at h
    obtain ⟨r,hr,rfl⟩:=h
    obtain ⟨b1,b2,h1,h2,rfl⟩:=zgM ks ls _ _ _ hr
    exact ⟨(x.toList == y.toList) && b1,b2,by simp [eqs,h1],by simpa using h2,by simp [Bool.and_assoc]⟩
theorem zkn {t : TypeId} {gs : Array Field} (hu : P.underlying t = some (.struct gs)) {n : Nat} (hn : zce P t = some n) {xs : Array Value} {off : Nat} : (part t xs off).run P w = .ok (.agg (xs.extract off (off + n))) w:=by
 simp only [zce,Option.map_eq_some_iff] at hn
 obtain ⟨i,hi,rfl⟩:=hn
 simp [part,isAgg,zah hu,sizeOf,typeInfo,hi]
def zlt (cs : List AV) (xs : Array Value) (i : Nat) : Prop:=∀ (j : Nat) v,cs[j]? = some (.sc v) → xs[i + j]? = some v
theorem zlt.drop {cs : List AV} {xs : Array Value} {i : Nat} (h : zlt cs xs i) (n : Nat) : zlt (cs.drop n) xs (i + n):=fun j v hj=>by
 rw [List.getElem?_drop] at hj
 have:=h (n + j) v hj
 rw [show i + n + j = i + (n + j) by omega]
 exact this
theorem zlt.take {cs : List AV} {xs : Array Value} {i : Nat} (h : zlt cs xs i) (n : Nat) : zlt (cs.take n) (xs.extract i (i + n)) 0:=fun j v hj=>by
 have hl:=(List.getElem?_eq_some_iff.1 hj).1
 simp only [List.length_take] at hl
 rw [List.getElem?_take_of_lt (by omega)] at hj
 have h1:=h j v hj
 have h2:=(Array.getElem?_eq_some_iff.1 h1).1
 rw [Array.getElem?_extract]
 simp only [Nat.zero_add]
 rw [if_pos (by omega)]
 exact h1
theorem zji {xs ys : Array Value} {e : TypeId} (hu : P.underlying e = some .bool) (d : Nat) : ∀ (m i : Nat) (cs ds : List AV) (b : Bool),eqs (List.replicate m 1) cs ds = some b →
  zlt cs xs i → zlt ds ys i → (Op.eqItems (d + 1) e 1 xs ys (List.range' i m)).run P w = .ok b w
 | 0,i,cs,ds,b,h,hx,hy=>by
   cases cs <;> cases ds <;> simp [eqs] at h
   subst h
   simp [Op.eqItems]
 | m + 1,i,cs,ds,b,h,hx,hy=>by
   rw [List.replicate_succ] at h
   obtain ⟨u,v,cs',ds',b1,b2,rfl,rfl,h1,h2,rfl⟩:=zqC h
   have ih:=zji hu d m (i + 1) cs' ds' b2 h2 (hx.drop 1) (hy.drop 1)
   have p1 : (part e xs (i * 1)).run P w = .ok u w:=zfr hu (.inr (.inl rfl)) (by rw [Nat.mul_one]; exact hx 0 u rfl)
   have p2 : (part e ys (i * 1)).run P w = .ok v w:=zfr hu (.inr (.inl rfl)) (by rw [Nat.mul_one]; exact hy 0 v rfl)
   have p3 : (Op.equalIn (d + 1) e u v).run P w = .ok b1 w:=by
    unfold eq1 at h1
    split at h1 <;> (try (cases h1; done))
    ·rename_i e; cases e
    ·cases h1
     simp [Op.equalIn,zah hu]
    ·rename_i e; cases e
   rw [List.range'_succ]
   simp only [Op.eqItems,Sem.run_bind,p1,p2,p3,Result.andThen_ok]
   cases b1
   ·simp
   ·simpa using ih
theorem zfC {xs ys : Array Value} (d : Nat) : ∀ (fs : List Field) (i : Nat) (ks : List Nat) (cs ds : List AV) (b : Bool),zhJ P i fs = some ks → eqs ks cs ds = some b →
  zlt cs xs i → zlt ds ys i → (Op.eqFields (d + 2) xs ys fs).run P w = .ok b w
 | [],i,ks,cs,ds,b,hf,he,hx,hy=>by
   simp only [zhJ,Option.some.injEq] at hf
   subst hf
   cases cs <;> cases ds <;> simp [eqs] at he
   subst he
   simp [Op.eqFields]
 | f :: fs,i,ks,cs,ds,b,hf,he,hx,hy=>by
   simp only [zhJ] at hf
   split at hf
   case isFalse=>cases hf
   rename_i h0
   obtain ⟨hn,ho⟩:=h0
   have step : ∀ (u v : Value) (r r' : Bool),(part f.type xs f.offset).run P w = .ok u w → (part f.type ys f.offset).run P w = .ok v w → (Op.equalIn (d + 2) f.type u v).run P w = .ok r w →
     (Op.eqFields (d + 2) xs ys fs).run P w = .ok r' w → (Op.eqFields (d + 2) xs ys (f :: fs)).run P w = .ok (r && r') w:=by
    intro u v r r' h1 h2 h3 h4
    simp only [Op.eqFields,ne_eq,hn,not_false_eq_true,if_true,Sem.run_bind,h1,h2,Result.andThen_ok,h3]
    cases r
    ·simp
    ·simpa using h4
   have one : ∀ (k : Nat) (ks' : List Nat) (dd : TypeDesc),P.underlying f.type = some dd → ((∃ k,dd = .int k) ∨ dd = .bool ∨ dd = .string) → zhJ P (i + 1) fs = some ks' → ks = k :: ks' →
     (∀ (u v : Value) (r : Bool),eq1 k u v = some r → (Op.equalIn (d + 2) f.type u v).run P w = .ok r w) → (Op.eqFields (d + 2) xs ys (f :: fs)).run P w = .ok b w:=by
    intro k ks' dd hu hdd hks hk heq
    subst hk
    obtain ⟨u,v,cs',ds',b1,b2,rfl,rfl,h1,h2,rfl⟩:=zqC he
    exact step u v b1 b2 (zfr hu hdd (ho ▸ hx 0 u rfl)) (zfr hu hdd (ho ▸ hy 0 v rfl)) (heq u v b1 h1) (zfC d fs (i + 1) ks' _ _ b2 hks h2 (hx.drop 1) (hy.drop 1))
   split at hf
   ·rename_i k hu
    simp only [Option.map_eq_some_iff] at hf
    obtain ⟨ks',hks,rfl⟩:=hf
    refine one 0 ks' _ hu (.inl ⟨_,rfl⟩) hks rfl fun u v r hr=>?_
    unfold eq1 at hr
    split at hr <;> (try (cases hr; done))
    ·split at hr
     case isFalse=>cases hr
     rename_i hk
     subst hk
     cases hr
     simp [Op.equalIn,zah hu]
    all_goals (rename_i e; cases e)
   ·rename_i hu
    simp only [Option.map_eq_some_iff] at hf
    obtain ⟨ks',hks,rfl⟩:=hf
    refine one 1 ks' _ hu (.inr (.inl rfl)) hks rfl fun u v r hr=>?_
    unfold eq1 at hr
    split at hr <;> (try (cases hr; done))
    ·rename_i e; cases e
    ·cases hr
     simp [Op.equalIn,zah hu]
    ·rename_i e; cases e
   ·rename_i hu
    simp only [Option.map_eq_some_iff] at hf
    obtain ⟨ks',hks,rfl⟩:=hf
    refine one 2 ks' _ hu (.inr (.inr rfl)) hks rfl fun u v r hr=>?_
    unfold eq1 at hr
    split at hr <;> (try (cases hr; done))
    ·rename_i e; cases e
    ·rename_i e; cases e
    ·cases hr
     simp [Op.equalIn,zah hu,beq_toListBytes]
   ·rename_i gs hu
    split at hf
    case h_2=>cases hf
    rename_i ks1 n hk1 hsz
    split at hf
    case isFalse=>cases hf
    rename_i hc
    obtain ⟨hst,hnl⟩:=hc
    simp only [Option.map_eq_some_iff] at hf
    obtain ⟨ks',hks,rfl⟩:=hf
    obtain ⟨b1,b2,h1,h2,rfl⟩:=zgM ks1 ks' cs ds b he
    rw [← hnl] at h1 h2
    have hfo : P.fieldsOf f.type = gs:=by simp [Program.fieldsOf,hu]
    have heq : (Op.equalIn (d + 2) f.type (.agg (xs.extract i (i + n))) (.agg (ys.extract i (i + n)))).run P w = .ok b1 w:=by
     rw [run_equalIn_struct w (d + 1) f.type _ _ (by rw [hfo]; exact hu) hst,hfo]
     exact zh5 d gs.toList 0 ks1 _ _ b1 hk1 h1 (hx.take n) (hy.take n)
    exact step _ _ b1 b2 (by rw [ho]; exact zkn hu hsz) (by rw [ho]; exact zkn hu hsz) heq (zfC d fs (i + n) ks' _ _ b2 hks h2 (hx.drop n) (hy.drop n))
   ·cases hf
theorem zha {op : BinOp} {t : TypeId} {X Y : Operand} {x y : Value} (hx : ∀ c,x ≠ .agg c) (hx' : x ≠ .nilIface) : (eqGuard op t X Y x y).run P w = .ok () w:=by
 unfold eqGuard
 cases op <;> simp <;> (cases x <;> first | exact absurd rfl (hx _) | exact absurd rfl hx' | (cases y <;> rfl))
variable (tm : ∀ i,Rep T w M (st.get i) (a.tmps.getD i undef)) (m : Mem np T0 M0 w0 live st.hp T M w)
include tm m
set_option maxHeartbeats 1000000 in
theorem zxV (o : Oper) (op : BinOp) (t u : TypeId) (x y : Operand) (h : o.op = .binOp op t x y u) : Goal P np T0 M0 w0 live st T M a w idb o:=by
 intro K hk
 have hr:=zaG tm x
 have hr':=zaG tm y
 simp only [zaB,h] at hk
 generalize hv : a.eval x = v at *
 generalize hv' : a.eval y = v' at *
 have plain : ∀ K,aK P np idb (.bin op) ([opd x,opd y].map (·.ev st.get)) st.hp K → ∃ v rd up,K v rd up ∧ Eff P np T0 M0 w0 live idb (st.upd up).hp T M w v ((execOp a.eval o).run P w):=by
  intro K hk
  simp only [List.map] at hk
  generalize (opd x).ev st.get = X at *
  generalize (opd y).ev st.get = Y at *
  cases X <;> cases Y <;> simp only [aK] at hk
  obtain ⟨z,hz,hk⟩:=hk
  obtain rfl:=zbF hr rfl
  obtain rfl:=zbF hr' rfl
  refine ⟨_,_,_,hk,zaz m (.sc _ _ (ztB hz)) ?_⟩
  have hg : (eqGuard op t x y v v').run P w = .ok () w:=zha (by rintro c rfl; simp [binV] at hz) (by rintro rfl; simp [binV] at hz)
  simp only [execOp,h,hv,hv']
  simp [hg,ztp hz]
 have bool : ∀ (neg : Bool),P.underlying t = some .bool → op = (if neg then .neq else .eql) → ∀ K,aK P np idb (.beq neg) ([opd x,opd y].map (·.ev st.get)) st.hp K →
   ∃ v rd up,K v rd up ∧ Eff P np T0 M0 w0 live idb (st.upd up).hp T M w v ((execOp a.eval o).run P w):=by
  intro neg hu hop K hk
  simp only [List.map] at hk
  generalize (opd x).ev st.get = X at *
  generalize (opd y).ev st.get = Y at *
  cases X <;> cases Y <;> (try (simp only [aK] at hk; done))
  rename_i p q
  cases p <;> (try (simp only [aK] at hk; done))
  cases q <;> simp only [aK] at hk
  rename_i p q
  obtain rfl:=zbF hr rfl
  obtain rfl:=zbF hr' rfl
  refine ⟨_,_,_,hk,zaz m (.sc _ _ rfl) ?_⟩
  have hg : (eqGuard op t x y (.bool p) (.bool q)).run P w = .ok () w:=zha (by simp) (by simp)
  simp only [execOp,h,hv,hv']
  have he : (Op.equal t (.bool p) (.bool q)).run P w = .ok (p == q) w:=by
   have : ∀ d,(Op.equalIn (d + 1) t (.bool p) (.bool q)).run P w = .ok (p == q) w:=by
    intro d
    simp [Op.equalIn,zah hu]
   exact this 9999
  cases neg <;> simp at hop <;> subst hop <;> simp [hg,binOp,he]
 have struct : ∀ (neg : Bool) (fs : Array Field),P.underlying t = some (.struct fs) → op = (if neg then .neq else .eql) → ∀ ks,zuF P t fs.toList = some ks → ∀ K,aK P np idb (.aeq neg ks) ([opd x,opd y].map (·.ev st.get)) st.hp K →
   ∃ v rd up,K v rd up ∧ Eff P np T0 M0 w0 live idb (st.upd up).hp T M w v ((execOp a.eval o).run P w):=by
  intro neg fs hu hop ks hks K hk
  simp only [List.map] at hk
  generalize (opd x).ev st.get = X at *
  generalize (opd y).ev st.get = Y at *
  cases X <;> cases Y <;> (try (simp only [aK] at hk; done))
  rename_i cs ds
  simp only [aK] at hk
  obtain ⟨b,hb,hk⟩:=hk
  cases hr with | agg _ _ vs hl1 ho1 hr1 =>
  cases hr' with | agg _ _ us hl2 ho2 hr2 =>
  refine ⟨_,_,_,hk,zaz m (.sc _ _ rfl) ?_⟩
  unfold zuF at hks
  split at hks
  case isFalse=>cases hks
  rename_i hpg
  obtain ⟨hp,hgt⟩:=hpg
  have hfo : P.fieldsOf t = fs:=by simp [Program.fieldsOf,hu]
  have look : ∀ (zs : List AV) (ws : Array Value),ws.size = zs.length → (∀ i,i < zs.length → Rep T w M (zs.getD i .dead) (ws.getD i undef)) → ∀ (j : Nat) v,zs[j]? = some (.sc v) → ws[0 + j]? = some v:=by
   intro zs ws hl hz j v hj
   obtain ⟨hlt,hj⟩:=List.getElem?_eq_some_iff.1 hj
   have h1:=hz j hlt
   have e1 : zs.getD j .dead = .sc v:=by simp [List.getD,hlt,hj]
   rw [e1] at h1
   have h2 : ws.getD j undef = ws[j]'(by omega):=by simp [Array.getD_eq_getD_getElem?,show j < ws.size by omega]
   rw [h2] at h1
   cases h1
   simp [show j < ws.size by omega]
  have he : (Op.equalIn 10000 t (.agg vs) (.agg us)).run P w = .ok b w:=by
   rw [run_equalIn_struct w 9999 t vs us (by rw [hfo]; exact hu) hp,hfo]
   exact zfC 9997 fs.toList 0 ks cs ds b hks hb (look cs vs hl1 hr1) (look ds us hl2 hr2)
  have hg : (eqGuard op t x y (.agg vs) (.agg us)).run P w = .ok () w:=run_eqGuard_agg w op t x y vs us hgt
  simp only [execOp,h,hv,hv']
  cases neg <;> simp at hop <;> subst hop <;> simp [hg,run_eql_struct,run_neq_struct,he,Result.andThen]
 have arr : ∀ (neg : Bool) (n : Nat) (e : TypeId),P.underlying t = some (.array n e) → op = (if neg then .neq else .eql) → ∀ ks,zul P t e n = some ks → ∀ K,aK P np idb (.aeq neg ks) ([opd x,opd y].map (·.ev st.get)) st.hp K →
   ∃ v rd up,K v rd up ∧ Eff P np T0 M0 w0 live idb (st.upd up).hp T M w v ((execOp a.eval o).run P w):=by
  intro neg n e hu hop ks hks K hk
  simp only [List.map] at hk
  generalize (opd x).ev st.get = X at *
  generalize (opd y).ev st.get = Y at *
  cases X <;> cases Y <;> (try (simp only [aK] at hk; done))
  rename_i cs ds
  simp only [aK] at hk
  obtain ⟨b,hb,hk⟩:=hk
  cases hr with | agg _ _ vs hl1 ho1 hr1 =>
  cases hr' with | agg _ _ us hl2 ho2 hr2 =>
  refine ⟨_,_,_,hk,zaz m (.sc _ _ rfl) ?_⟩
  unfold zul at hks
  split at hks
  case h_2=>cases hks
  rename_i hue
  split at hks
  case isFalse=>cases hks
  rename_i hpg
  obtain ⟨hgt,hie,hce⟩:=hpg
  cases hks
  obtain ⟨ti,hti⟩:=Option.isSome_iff_exists.1 hie
  have look : ∀ (zs : List AV) (ws : Array Value),ws.size = zs.length → (∀ i,i < zs.length → Rep T w M (zs.getD i .dead) (ws.getD i undef)) → ∀ (j : Nat) v,zs[j]? = some (.sc v) → ws[0 + j]? = some v:=by
   intro zs ws hl hz j v hj
   obtain ⟨hlt,hj⟩:=List.getElem?_eq_some_iff.1 hj
   have h1:=hz j hlt
   have e1 : zs.getD j .dead = .sc v:=by simp [List.getD,hlt,hj]
   rw [e1] at h1
   have h2 : ws.getD j undef = ws[j]'(by omega):=by simp [Array.getD_eq_getD_getElem?,show j < ws.size by omega]
   rw [h2] at h1
   cases h1
   simp [show j < ws.size by omega]
  have he : (Op.equalIn 10000 t (.agg vs) (.agg us)).run P w = .ok b w:=by
   rw [run_equalIn_array w 9999 vs us hu hti,hce,List.range_eq_range']
   exact zji hue 9998 n 0 cs ds b hb (look cs vs hl1 hr1) (look ds us hl2 hr2)
  have hg : (eqGuard op t x y (.agg vs) (.agg us)).run P w = .ok () w:=run_eqGuard_agg w op t x y vs us hgt
  simp only [execOp,h,hv,hv']
  cases neg <;> simp at hop <;> subst hop <;> simp [hg,run_eql_struct,run_neq_struct,he,Result.andThen]
 have slice : ∀ (neg : Bool) (e : TypeId),P.underlying t = some (.slice e) → op = (if neg then .neq else .eql) → zp2 y = true → ∀ K,aK P np idb (.snil neg) ([opd x].map (·.ev st.get)) st.hp K →
   ∃ v rd up,K v rd up ∧ Eff P np T0 M0 w0 live idb (st.upd up).hp T M w v ((execOp a.eval o).run P w):=by
  intro neg e hu hop hy K hk
  have hyv : v' = .slice none 0 0:=by
   unfold zp2 at hy
   split at hy
   ·rw [← hv']; rfl
   ·cases hy
  subst hyv
  simp only [List.map] at hk
  generalize (opd x).ev st.get = X at *
  have fin : ∀ (ad : Option Addr) (l c : Nat),v = .slice ad l c → (execOp a.eval o).run P w = .ok (.value (.bool (ad.isNone != neg))) w:=by
   rintro ad l c rfl
   have he : (Op.equal t (.slice ad l c) (.slice none 0 0)).run P w = .ok ad.isNone w:=run_equal_slice_nil w t e ad l c hu
   have hg : (eqGuard op t x y (.slice ad l c) (.slice none 0 0)).run P w = .ok () w:=zha (by simp) (by simp)
   simp only [execOp,h,hv,hv']
   cases neg <;> simp at hop <;> subst hop <;> simp [hg,binOp,he]
  cases X <;> (try (simp only [aK] at hk; done))
  ·rename_i u
   cases u <;> simp only [aK] at hk
   obtain rfl:=zbF hr rfl
   exact ⟨_,_,_,hk,zaz m (.sc _ _ rfl) (fin _ _ _ rfl)⟩
  ·rename_i sz full rows
   cases rows with
   | nil=>simp only [aK] at hk
   | cons row rows =>
     simp only [aK] at hk
     cases hr with | vs _ _ _ _ ad cap c hf hl hw hb ho hr1 =>
     obtain ⟨b,off,cells,ty,fz,rfl,_⟩:=hb (List.cons_ne_nil _ _)
     refine ⟨_,_,_,hk,zaz m (.sc _ _ rfl) ?_⟩
     rw [fin _ _ _ rfl]
     cases neg <;> rfl
 split at hk
 ·rename_i hu; exact bool false hu rfl K hk
 ·rename_i hu; exact bool true hu rfl K hk
 ·rename_i fs hu
  split at hk
  ·rename_i ks hks; exact struct false fs hu rfl ks hks K hk
  ·exact hk.elim
 ·rename_i fs hu
  split at hk
  ·rename_i ks hks; exact struct true fs hu rfl ks hks K hk
  ·exact hk.elim
 ·rename_i n e hu
  split at hk
  ·rename_i ks hks; exact arr false n e hu rfl ks hks K hk
  ·exact hk.elim
 ·rename_i n e hu
  split at hk
  ·rename_i ks hks; exact arr true n e hu rfl ks hks K hk
  ·exact hk.elim
 ·rename_i e hu
  split at hk
  ·rename_i hy; exact slice false e hu rfl hy K hk
  ·exact hk.elim
 ·rename_i e hu
  split at hk
  ·rename_i hy; exact slice true e hu rfl hy K hk
  ·exact hk.elim
 ·exact plain K hk
theorem zwX (o : Oper) (t u : TypeId) (x : Operand) (h : o.op = .convert t u x) (k k' : IntKind) (h1 : P.underlying t = some (.int k)) (h2 : P.underlying u = some (.int k')) : Goal P np T0 M0 w0 live st T M a w idb o:=by
 intro K hk
 have hr:=zaG tm x
 simp only [zaB,h,h1,h2,List.map] at hk
 generalize hv : a.eval x = v at *
 generalize (opd x).ev st.get = X at *
 cases X <;> (try (simp only [aK] at hk; done))
 rename_i u
 cases u <;> simp only [aK] at hk
 obtain rfl:=zbF hr rfl
 refine ⟨_,_,_,hk,zaz m (.sc _ _ rfl) ?_⟩
 simp [execOp,h,hv,convert,zah h1,zah h2,Conv.intToInt]
end
end Go.Proofs.YtklclphfcibagaaGreat
