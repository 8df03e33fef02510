/- Texts of this claim,merged. -/
import Derived.Orders
import Derived.Below
import Derived.Laws.Sem
import Derived.Laws.CopyRow
import Derived.Laws.MakeOwn
import Derived.Deep.Upon
import Derived.Deep.LoopGhost
import Derived.Laws.StructEq
import Derived.Laws.Cover3
import Derived.ChangeKeysEq
import Derived.Laws.Tables
import Derived.Lib.AppendZerosOnto
set_option linter.unusedSimpArgs false
set_option linter.unusedVariables false
set_option linter.unusedSectionVars false
set_option maxRecDepth 100000
set_option maxHeartbeats 8000000
noncomputable section
namespace Go.Proofs.YtkngdgplbojdlaaGreat
open Go
theorem fcd {α β γ : Type} (f : β->γ) (g : α->β) : f∘g=λ x => f (g x) := (rfl)
theorem Qa : type_of% @List.getElem?_eq_getElem:=@List.getElem?_eq_getElem
theorem Qb : type_of% @List.take_of_length_le:=@List.take_of_length_le
theorem Qc : type_of% @decide_eq_false_iff_not:=@decide_eq_false_iff_not
theorem Qd : type_of% @List.getD_eq_getElem?_getD:=@List.getD_eq_getElem?_getD
theorem Qe : type_of% @decide_eq_true_eq:=@decide_eq_true_eq
theorem Qf : type_of% @Option.some.inj:=@Option.some.inj
theorem Qg : type_of% @List.mem_map:=@List.mem_map
theorem Qh : type_of% @List.length_append:=@List.length_append
theorem Qi : type_of% @Nat.zero_le:=@Nat.zero_le
theorem Qj : type_of% @List.getElem_mem:=@List.getElem_mem
theorem Qk : type_of% @List.mem_cons_of_mem:=@List.mem_cons_of_mem
theorem Ql : type_of% @Nat.le_refl:=@Nat.le_refl
theorem Qm : type_of% @List.mem_cons_self:=@List.mem_cons_self
theorem Qn : type_of% @List.map_cons:=@List.map_cons
theorem Qo : type_of% @List.mem_append:=@List.mem_append
theorem Qp : type_of% @List.take_succ_eq_append_getElem:=@List.take_succ_eq_append_getElem
theorem Qq : type_of% @Option.some.injEq:=@Option.some.injEq
theorem Qr : type_of% @List.getElem?_append_right:=@List.getElem?_append_right
theorem Qs : type_of% @List.getElem?_map:=@List.getElem?_map
theorem Qt : type_of% @List.length_map:=@List.length_map
theorem Qu : type_of% @List.mem_cons:=@List.mem_cons
theorem Qv : type_of% @Option.map_eq_some_iff:=@Option.map_eq_some_iff
theorem Qw : type_of% @List.mem_filter:=@List.mem_filter
theorem Qx : type_of% @List.append_assoc:=@List.append_assoc
theorem Qy : type_of% @List.getElem?_eq_some_iff:=@List.getElem?_eq_some_iff
theorem Qz : type_of% @Option.getD_some:=@Option.getD_some
theorem QA : type_of% @List.mem_range:=@List.mem_range
theorem QB : type_of% @List.mem_singleton:=@List.mem_singleton
theorem QC : type_of% @Nat.mul_le_mul_right:=@Nat.mul_le_mul_right
theorem QD : type_of% @Array.getD_eq_getD_getElem?:=@Array.getD_eq_getD_getElem?
theorem QE : type_of% @Bool.eq_iff_iff:=@Bool.eq_iff_iff
theorem QF : type_of% @List.mem_iff_getElem:=@List.mem_iff_getElem
theorem QG : type_of% @List.map_congr_left:=@List.map_congr_left
theorem QH : type_of% @Nat.le_trans:=@Nat.le_trans
theorem QI : type_of% @Nat.add_mul:=@Nat.add_mul
theorem QJ : type_of% @List.getElem?_append_left:=@List.getElem?_append_left
theorem QK : type_of% @List.eq_nil_of_length_eq_zero:=@List.eq_nil_of_length_eq_zero
theorem QL : type_of% @Int.fdiv_eq_ediv_of_nonneg:=@Int.fdiv_eq_ediv_of_nonneg
theorem QM : type_of% @List.length_cons:=@List.length_cons
theorem QN : type_of% @Array.getElem?_eq_some_iff:=@Array.getElem?_eq_some_iff
theorem QO : type_of% @List.cons_append:=@List.cons_append
theorem QP : type_of% @Array.toArray_toList:=@Array.toArray_toList
theorem QQ : type_of% @List.drop_eq_getElem_cons:=@List.drop_eq_getElem_cons
theorem QR : type_of% @List.pairwise_iff_getElem:=@List.pairwise_iff_getElem
theorem QS : type_of% @Nat.lt_succ_iff_lt_or_eq:=@Nat.lt_succ_iff_lt_or_eq
theorem QT : type_of% @Bool.and_eq_true:=@Bool.and_eq_true
theorem QU : type_of% @List.mem_append_left:=@List.mem_append_left
theorem QV : type_of% @List.length_filter_le:=@List.length_filter_le
theorem QW : type_of% @List.length_take:=@List.length_take
theorem QX : type_of% @List.append_nil:=@List.append_nil
theorem QY : type_of% @List.mem_of_mem_take:=@List.mem_of_mem_take
theorem QZ : type_of% @List.length_singleton:=@List.length_singleton
theorem Q0 : type_of% @Nat.zero_add:=@Nat.zero_add
theorem Q1 : type_of% @List.take_length:=@List.take_length
theorem Q3 : type_of% @List.getElem?_eq_none:=@List.getElem?_eq_none
theorem Q4 : type_of% @List.map_append:=@List.map_append
theorem Q5 : type_of% @List.nil_append:=@List.nil_append
theorem Q6 : type_of% @List.nodup_cons:=@List.nodup_cons
theorem Q7 : type_of% @Option.map_some:=@Option.map_some
theorem Q8 : type_of% @List.getElem?_drop:=@List.getElem?_drop
theorem Q9 : type_of% @Array.getElem?_append_left:=@Array.getElem?_append_left
theorem Ua : type_of% @Nat.add_zero:=@Nat.add_zero
theorem Ub : type_of% @Bool.false_eq_true:=@Bool.false_eq_true
theorem Uc : type_of% @List.size_toArray:=@List.size_toArray
theorem Ud : type_of% @List.getElem?_take:=@List.getElem?_take
theorem Ue : type_of% @List.nodup_append:=@List.nodup_append
theorem Uf : type_of% @List.mem_of_getElem?:=@List.mem_of_getElem?
theorem Ug : type_of% @Nat.lt_or_ge:=@Nat.lt_or_ge
theorem Uh : type_of% @Decidable.byContradiction:=@Decidable.byContradiction
theorem Ui : type_of% @Nat.eq_zero_or_pos:=@Nat.eq_zero_or_pos
theorem Uj : type_of% @Nat.mod_lt:=@Nat.mod_lt
theorem Uk : type_of% @List.not_mem_nil:=@List.not_mem_nil
theorem Ul : type_of% @Array.length_toList:=@Array.length_toList
theorem Um : type_of% @List.drop_eq_nil_of_le:=@List.drop_eq_nil_of_le
theorem Un : type_of% @List.take_append_of_le_length:=@List.take_append_of_le_length
theorem Uo : type_of% @Option.bind_eq_some_iff:=@Option.bind_eq_some_iff
theorem Uq : type_of% @List.any_eq_true:=@List.any_eq_true
theorem Ur : type_of% @List.pairwise_cons:=@List.pairwise_cons
theorem Us : type_of% @if_false:=@if_false
theorem Ut : type_of% @List.getElem_of_mem:=@List.getElem_of_mem
theorem Uu : type_of% @List.getElem_append_left:=@List.getElem_append_left
theorem Uv : type_of% @List.sum_cons:=@List.sum_cons
theorem Uw : type_of% @List.concat_eq_append:=@List.concat_eq_append
theorem Ux : type_of% @List.length_pos_iff:=@List.length_pos_iff
theorem Uy : type_of% @List.length_set:=@List.length_set
theorem Uz : type_of% @List.map_nil:=@List.map_nil
theorem UA : type_of% @Bool.not_eq_true':=@Bool.not_eq_true'
theorem UB : type_of% @List.length_range:=@List.length_range
theorem UC : type_of% @Int.toNat_natCast:=@Int.toNat_natCast
theorem UD : type_of% @List.mem_append_right:=@List.mem_append_right
theorem UE : type_of% @Nat.add_assoc:=@Nat.add_assoc
theorem UF : type_of% @List.getElem?_set:=@List.getElem?_set
theorem UG : type_of% @Array.size_append:=@Array.size_append
theorem UH : type_of% @List.take_concat_get:=@List.take_concat_get
theorem UI : type_of% @Int.le_refl:=@Int.le_refl
theorem UJ : type_of% @List.filter_append:=@List.filter_append
theorem UK : type_of% @Bool.or_eq_true:=@Bool.or_eq_true
theorem UL : type_of% @List.range_succ:=@List.range_succ
theorem UM : type_of% @List.length_drop:=@List.length_drop
theorem UN : type_of% @Nat.succ_ne_zero:=@Nat.succ_ne_zero
theorem UO : type_of% @List.getD_cons_zero:=@List.getD_cons_zero
theorem UP : type_of% @Nat.pos_iff_ne_zero:=@Nat.pos_iff_ne_zero
theorem UQ : type_of% @List.filterMap_cons:=@List.filterMap_cons
theorem UR : type_of% @List.take_append_drop:=@List.take_append_drop
theorem US : type_of% @List.contains_iff_mem:=@List.contains_iff_mem
theorem UT : type_of% @List.getElem_take:=@List.getElem_take
theorem UU : type_of% @List.length_eq_zero_iff:=@List.length_eq_zero_iff
theorem UV : type_of% @List.mem_of_mem_drop:=@List.mem_of_mem_drop
theorem UW : type_of% @List.length_nil:=@List.length_nil
theorem UX : type_of% @decide_eq_false:=@decide_eq_false
theorem UY : type_of% @if_true:=@if_true
theorem UZ : type_of% @List.findIdx_eq_length:=@List.findIdx_eq_length
theorem U0 : type_of% @List.getElem_inj:=@List.getElem_inj
theorem U1 : type_of% @Array.getElem?_push:=@Array.getElem?_push
theorem U2 : type_of% @List.pairwise_map:=@List.pairwise_map
theorem U3 : type_of% @decide_eq_true:=@decide_eq_true
theorem U4 : type_of% @Nat.not_lt_zero:=@Nat.not_lt_zero
theorem U5 : type_of% @Nat.mul_comm:=@Nat.mul_comm
theorem U6 : type_of% @List.mem_zipIdx_iff_getElem?:=@List.mem_zipIdx_iff_getElem?
theorem U7 : type_of% @Nat.lt_of_lt_of_le:=@Nat.lt_of_lt_of_le
theorem U8 : type_of% @List.findIdx_le_length:=@List.findIdx_le_length
theorem U9 : type_of% @List.ext_getElem?:=@List.ext_getElem?
theorem Va : type_of% @Nat.mod_eq_of_lt:=@Nat.mod_eq_of_lt
theorem Vb : type_of% @List.mem_filterMap:=@List.mem_filterMap
theorem Vc : type_of% @List.findIdx_getElem:=@List.findIdx_getElem
theorem Vd : type_of% @List.pairwise_append:=@List.pairwise_append
theorem Ve : type_of% @List.length_take_le':=@List.length_take_le'
theorem Vf : type_of% @List.foldl_append:=@List.foldl_append
theorem Vg : type_of% @List.count_append:=@List.count_append
theorem Vh : type_of% @List.flatMap_cons:=@List.flatMap_cons
theorem Vi : type_of% @List.map_const':=@List.map_const'
theorem Vj : type_of% @Nat.mul_mod:=@Nat.mul_mod
theorem Vk : type_of% @Nat.le_of_dvd:=@Nat.le_of_dvd
theorem nbz {a b : Nat} (h : Nat.ble a b=true) : a<=b:=Nat.le_of_ble_eq_true h
inductive AV where
 | dead
 | sc (v : Value)
 | agg (cs : List AV)
 | tup (vs : List AV)
 | vs (s : Nat) (full : Bool) (rows : List (List AV))
 | rs (id off len : Nat)
 | rk (id off len cap : Nat)
 | pv (cs : List AV)
 | pt (id i j : Nat)
 | mp (id : Nat)
 | fn (f : Fn) (first capt : List AV)
 | ifc (t : TypeId) (v : AV)
 deriving Inhabited
abbrev AV.I (n : Int) : AV:=.sc (.int .i64 n)
abbrev AV.B (b : Bool) : AV:=.sc (.bool b)
abbrev AV.nilS : AV:=.sc (.slice none 0 0)
structure Ent where
 s : Nat
 rows : List (List AV)
 ro : Nat:=0
 deriving Inhabited
inductive Opd where
 | t (i : Nat)
 | c (v : Value)
 | f (i : FuncId)
 deriving Inhabited
inductive AOp where
 | mv | pick
 | alloc (z : List Value)
 | box (s : Nat)
 | build (z : List Value) (ps : List (Nat × Nat))
 | bsl (s len : Nat) (z : List Value) (ps : List Nat)
 | ld (ag : Bool) (s : Nat)
 | st (s : Nat)
 | nil
 | bin (op : BinOp)
 | beq (neg : Bool)
 | aeq (neg : Bool) (ks : List Nat)
 | snil (neg : Bool)
 | un (op : UnOp)
 | cvt (k : IntKind)
 | b2s
 | mkf (fn : FuncId)
 | mkb (fn : FuncId)
 | mks (s bytes : Nat) (z : List Value)
 | slc (s : Nat) (lo hi mx : Bool)
 | fad (off : Nat)
 | fld (ag : Bool) (off s : Nat)
 | iad (s : Nat)
 | iaa (n s : Nat)
 | ixs
 | ixv (n : Nat)
 | ext (i : Nat)
 | call
 | app (s bytes : Nat)
 | apps
 | len | lens | cap
 | cpy (s : Nat)
 | clr (s : Nat) (z : List Value)
 | ovl (s : Nat)
 | apz (s bytes : Nat) (z : List Value)
 | mx2 | mn2
 | mkm | mlk (z : Value) (ok : Bool) | mup | mdl
 | mki (t : TypeId) | inv (tbl : List (TypeId × FuncId))
 | bad
 deriving Inhabited
structure za7 where
 dst : Option Nat
 op : AOp
 xs : List Opd
 guard : Option (Nat × Bool):=none
 deriving Inhabited
inductive zcW where
 | skip
 | reg (draw : Bool) (ops : List za7) (after : List (List Nat))
 | seq (a b : zcW)
 | cond (c : Opd) (a b : zcW)
 | block (id : Nat) (a : zcW)
 | loop (a : zcW)
 | exit (id : Nat)
 | ret
 | bad
 deriving Inhabited
structure AFun where
 nt : Nat
 res : List (Nat × Option (Bool × Nat))
 code : zcW
def lkp {α : Type} : List (Nat × α)->Nat->Option α
 | [],_=>none
 | (i,a)::l,j=>if i=j then some a else lkp l j
structure St where
 sz : Nat
 t : List (Nat × AV)
 h : List (Nat × Option Ent)
 n : Nat
def St.get (st : St) (i : Nat) : AV:=(lkp st.t i).getD .dead
def St.hp (st : St) (id : Nat) : Option Ent:=(lkp st.h id).getD none
def St.put (st : St) (d : Option Nat) (v : AV) : St:=match d with | none=>st | some i=>{ st with t:=(i,v)::st.t }
def St.upd (st : St) (up : List (Nat × Option Ent)) : St:={ st with h:=up++st.h }
def toAV : Value->AV
 | .agg cs=>if cs.all Value.oneCell' then .agg (cs.toList.map .sc) else .dead
 | .tuple _=>.dead
 | v=>.sc v
def Opd.ev (g : Nat->AV) : Opd->AV
 | .t i=>g i
 | .c v=>toAV v
 | .f i=>.fn (.func i) [] []
def cellsOf : AV->Option (List AV)
 | .agg cs=>some cs
 | .dead=>none
 | .tup _=>none
 | .sc (.agg _)=>none
 | .sc (.tuple _)=>none
 | x=>some [x]
def zcn (h : Nat->Option Ent) : AV->Option (List AV)
 | .pv cs=>some cs
 | .pt id i j=>(h id).bind λ e=>(e.rows[i]?).map (·.drop j)
 | _=>none
def za8 : AV->List Nat
 | .pt id _ _=>[id]
 | .rs id _ _=>[id]
 | .rk id _ _ _=>[id]
 | .mp id=>[id]
 | _=>[]
def zaZ (s : Nat) (h : Nat->Option Ent) : AV->Option (List (List AV))
 | .vs s' _ rows=>if s'=s then some rows else none
 | .rs id off len=>(h id).bind λ e=>if e.s=s/\off+len<=e.rows.length then some ((e.rows.drop off).take len) else none
 | .rk id off len _=>(h id).bind λ e=>if e.s=s/\off+len<=e.rows.length then some ((e.rows.drop off).take len) else none
 | .sc (.slice none 0 0)=>some []
 | _=>none
def lenOf : AV->Option Nat
 | .vs _ _ rows=>some rows.length
 | .rs _ _ len=>some len
 | .rk _ _ len _=>some len
 | .sc (.slice none 0 0)=>some 0
 | _=>none
def cutN (n : Nat) : AV->AV
 | .vs s _ rows=>.vs s false (rows.take n)
 | .rs id off len=>.rs id off (min n len)
 | .rk id off len cap=>.rk id off (min n len) cap
 | x=>x
def zbc (s : Nat) (h : Nat->Option Ent) (new : List (List AV)) : AV->Option (List (List AV) × Nat × List (Nat × Option Ent))
 | .sc (.slice none 0 0)=>some ([],0,[])
 | .vs s' true rows=>if s'=s/\(rows=[]∨new≠[]) then some (rows,0,[]) else none
 | .rs id off len=>(h id).bind λ e=>if e.s=s/\off+len<=e.rows.length/\e.ro<=off+len then some ((e.rows.drop off).take len,e.ro - off,[(id,none)]) else none
 | _=>none
def binV (op : BinOp) : Value->Value->Option Value
 | .int k a,.int k' b =>
   match op with
   | .shl=>if 0<=b then some (.int k (k.wrap (a*2 ^ (min b.toNat k.bits)))) else none
   | .shr=>if 0<=b then some (.int k (a.fdiv (2 ^ (min b.toNat k.bits)))) else none
   | op=>if k=k' then
     match op with
     | .add=>some (.int k (k.wrap (a+b)))
     | .sub=>some (.int k (k.wrap (a - b)))
     | .mul=>some (.int k (k.wrap (a*b)))
     | .quo=>if b=0 then none else some (.int k (k.wrap (a.tdiv b)))
     | .rem=>if b=0 then none else some (.int k (a.tmod b))
     | .and=>some (.int k (k.wrap (BitVec.ofInt k.bits a &&& BitVec.ofInt k.bits b).toNat))
     | .or=>some (.int k (k.wrap (BitVec.ofInt k.bits a ||| BitVec.ofInt k.bits b).toNat))
     | .xor=>some (.int k (k.wrap (BitVec.ofInt k.bits a ^^^ BitVec.ofInt k.bits b).toNat))
     | .andNot=>some (.int k (k.wrap (BitVec.ofInt k.bits a &&& ~~~ BitVec.ofInt k.bits b).toNat))
     | .eql=>some (.bool (a == b))
     | .neq=>some (.bool (a != b))
     | .lss=>some (.bool (decide (a<b)))
     | .leq=>some (.bool (decide (a<=b)))
     | .gtr=>some (.bool (decide (a > b)))
     | .geq=>some (.bool (decide (a≥b)))
     | _=>none
     else none
 | .string a,.string b =>
   match op with
   | .eql=>some (.bool (a.toList == b.toList))
   | .neq=>some (.bool !(a.toList == b.toList))
   | .lss=>some (.bool (Op.bytesLess a.toList b.toList))
   | .leq=>some (.bool (Op.bytesLess a.toList b.toList || a.toList == b.toList))
   | .gtr=>some (.bool !(Op.bytesLess a.toList b.toList || a.toList == b.toList))
   | .geq=>some (.bool !(Op.bytesLess a.toList b.toList))
   | _=>none
 | _,_=>none
def unV (op : UnOp) : Value->Option Value
 | .int k n=>match op with | .neg=>some (.int k (k.wrap (0 - n))) | .xor=>some (.int k (k.wrap (BitVec.ofInt k.bits (if k.signed then -1 else k.max) ^^^ BitVec.ofInt k.bits n).toNat)) | _=>none
 | .bool b=>match op with | .not=>some (.bool !b) | _=>none
 | _=>none
def eqs : List Nat->List AV->List AV->Option Bool
 | [],[],[]=>some true
 | 0::ks,.sc (.int k a)::xs,.sc (.int k' b)::ys=>if k=k' then (eqs ks xs ys).map ((a == b) && ·) else none
 | 1::ks,.sc (.bool a)::xs,.sc (.bool b)::ys=>(eqs ks xs ys).map ((a == b) && ·)
 | 2::ks,.sc (.string a)::xs,.sc (.string b)::ys=>(eqs ks xs ys).map ((a.toList == b.toList) && ·)
 | _,_,_=>none
def zeQ (cells : List AV) : List (Nat × Nat)->List AV->Option (List AV)
 | [],[]=>some cells
 | (off,size)::ps,x::xs =>
   match cellsOf x with
   | some cs=>if cs.length=size/\off+size<=cells.length then zeQ (cells.take off++cs++cells.drop (off+size)) ps xs else none
   | none=>none
 | _,_=>none
def zdm (s : Nat) (rows : List (List AV)) : List Nat->List AV->Option (List (List AV))
 | [],[]=>some rows
 | i::ps,x::xs =>
   match cellsOf x with
   | some cs=>if cs.length=s/\i<rows.length then zdm s (rows.set i cs) ps xs else none
   | none=>none
 | _,_=>none
def zat (row : List AV) (j : Nat) (cs : List AV) : List AV:=row.take j++cs++row.drop (j+cs.length)
def zb3 (n : Int) : List (List AV)->Option AV
 | [.sc (.int .i64 k),x]::l=>if n=k then some x else zb3 n l
 | _=>none
def mset (n : Int) (y : AV) : List (List AV)->List (List AV)
 | [.sc (.int .i64 k),x]::l=>if n=k then [.sc (.int .i64 k),y]::l else [.sc (.int .i64 k),x]::mset n y l
 | _=>[[.sc (.int .i64 n),y]]
def mdel (n : Int) : List (List AV)->List (List AV)
 | [.sc (.int .i64 k),x]::l=>if n=k then l else [.sc (.int .i64 k),x]::mdel n l
 | _=>[]
def zca (s : ByteArray) : List (List AV):=s.data.toList.map λ b=>[AV.sc (.int .u8 b.toNat)]
def zby : List (List AV)->Option (List UInt8)
 | []=>some []
 | [.sc (.int .u8 n)]::rest=>(zby rest).map (UInt8.ofNat n.toNat :: ·)
 | _=>none
def conv (ρ : List (Nat × Nat)) (sn : List Nat) (h : Nat->Option Ent) : Nat->AV->AV
 | 0,_=>.dead
 | n+1,x =>
   match x with
   | .agg cs=>.agg (cs.map (conv ρ sn h n))
   | .tup cs=>.tup (cs.map (conv ρ sn h n))
   | .rs id off len =>
     match lkp ρ id with
     | some k=>.rs k off len
     | none =>
       if id∈sn then
        match h id with
        | some e=>if off+len<=e.rows.length then .vs e.s false (((e.rows.drop off).take len).map (·.map (conv [] sn h n))) else .dead
        | none=>.dead
       else .dead
   | .rk id off len _ =>
     match lkp ρ id with
     | some k=>.rs k off len
     | none =>
       if id∈sn then
        match h id with
        | some e=>if off+len<=e.rows.length then .vs e.s false (((e.rows.drop off).take len).map (·.map (conv [] sn h n))) else .dead
        | none=>.dead
       else .dead
   | .pt id i j =>
     match lkp ρ id with
     | some k=>.pt k i j
     | none =>
       if id∈sn then
        match h id with
        | some e=>match e.rows[i]? with | some row=>if j<=row.length then .pv ((row.drop j).map (conv [] sn h n)) else .dead | none=>.dead
        | none=>.dead
       else .dead
   | .mp id =>
     match lkp ρ id with
     | some k=>.mp k
     | none=>.dead
   | .fn f a b=>.fn f (a.map (conv ρ sn h n)) (b.map (conv ρ sn h n))
   | .ifc t v=>.ifc t (conv ρ sn h n v)
   | x=>x
def zaw (ρ : List (Nat × Nat)) (sn : List Nat) (h : Nat->Option Ent) (n : Nat) (e : Ent) : Ent:={ e with rows:=e.rows.map (·.map (conv ρ sn h n)) }
inductive Wk : AV->AV->Prop where
 | refl (x : AV) : Wk x x
 | dead (x : AV) : Wk x .dead
 | nil (s : Nat) (f : Bool) : Wk .nilS (.vs s f [])
 | mt (s c : Nat) (a : Option Addr) : Wk (.sc (.slice a 0 c)) (.vs s false [])
 | full (s : Nat) (rows : List (List AV)) : Wk (.vs s true rows) (.vs s false rows)
 | rows (s : Nat) (f : Bool) (xs ys : List (List AV)) : xs.length=ys.length->(∀ i : Nat,(xs.getD i []).length=(ys.getD i []).length)->(∀ i j : Nat,Wk ((xs.getD i []).getD j .dead) ((ys.getD i []).getD j .dead))->Wk (.vs s f xs) (.vs s f ys)
 | pv (xs ys : List AV) : xs.length=ys.length->(∀ i : Nat,Wk (xs.getD i .dead) (ys.getD i .dead))->Wk (.pv xs) (.pv ys)
 | agg (xs ys : List AV) : xs.length=ys.length->(∀ i : Nat,Wk (xs.getD i .dead) (ys.getD i .dead))->Wk (.agg xs) (.agg ys)
 | tup (xs ys : List AV) : xs.length=ys.length->(∀ i : Nat,Wk (xs.getD i .dead) (ys.getD i .dead))->Wk (.tup xs) (.tup ys)
def WkL : List AV->List AV->Prop
 | [],[]=>True
 | x::xs,y::ys=>Wk x y/\WkL xs ys
 | _,_=>False
inductive Plain : AV->Prop where
 | dead : Plain .dead
 | sc (v : Value) : Plain (.sc v)
 | agg (xs : List AV) : (∀ i : Nat,Plain (xs.getD i .dead))->Plain (.agg xs)
 | tup (xs : List AV) : (∀ i : Nat,Plain (xs.getD i .dead))->Plain (.tup xs)
 | rs (id off len : Nat) : Plain (.rs id off len)
 | pt (id i j : Nat) : Plain (.pt id i j)
 | mp (id : Nat) : Plain (.mp id)
def zf0 (e : Ent) : Prop:=∀ row∈e.rows,∀ x∈row,Plain x
structure GE where
 blk : Option Nat
 base : Nat
 s : Nat
abbrev GM:=Nat->Option GE
inductive Rep (T : Nat->Nat) (w : World) : GM->AV->Value->Prop where
 | dead (M : GM) (v : Value) : Rep T w M .dead v
 | sc (M : GM) (v : Value) (h1 : v.oneCell'=true) : Rep T w M (.sc v) v
 | agg (M : GM) (cs : List AV) (vs : Array Value) (hl : vs.size=cs.length) (h1 : ∀ i,i<cs.length->(vs.getD i undef).oneCell'=true) (h : ∀ i,i<cs.length->Rep T w M (cs.getD i .dead) (vs.getD i undef)) : Rep T w M (.agg cs) (.agg vs)
 | tup (M : GM) (cs : List AV) (vs : Array Value) (hl : vs.size=cs.length) (h : ∀ i,i<cs.length->Rep T w M (cs.getD i .dead) (vs.getD i undef)) : Rep T w M (.tup cs) (.tuple vs)
 | vs (M : GM) (s : Nat) (full : Bool) (rows : List (List AV)) (a : Option Addr) (cap : Nat) (c : Nat->Nat->Value)
   (hf : full=true->cap=rows.length) (hl : rows.length<=cap) (hw : ∀ row∈rows,row.length=s)
   (hb : rows≠[] -> ∃ b off cells ty fz,a=some ⟨b,off,none⟩/\w.heap[b]? = some (.cells cells ty fz)/\off+rows.length*s<=T b /\
    ∀ i j,i<rows.length->j<s->cells[off+i*s+j]? = some (c i j))
   (h1 : ∀ i j,i<rows.length->j<s->(c i j).oneCell'=true)
   (h : ∀ i j,i<rows.length->j<s->Rep T w (λ _=>none) ((rows.getD i []).getD j .dead) (c i j)) : Rep T w M (.vs s full rows) (.slice a rows.length cap)
 | pv (M : GM) (cs : List AV) (b off : Nat) (cells : Array Value) (ty : TypeId) (fz : Nat × Nat) (c : Nat->Value) (hb : w.heap[b]? = some (.cells cells ty fz)) (ht : off+cs.length<=T b)
   (hc : ∀ j,j<cs.length->cells[off+j]? = some (c j)) (h1 : ∀ j,j<cs.length->(c j).oneCell'=true) (h : ∀ j,j<cs.length->Rep T w (λ _=>none) (cs.getD j .dead) (c j)) : Rep T w M (.pv cs) (.pointer (some ⟨b,off,none⟩))
 | rs (M : GM) (id off len cap : Nat) (a : Option Addr) (g : GE) (hg : M id=some g) (hz : g.s≠0) (hl : len<=cap) (hn : g.blk=none->off=0/\cap=0)
   (hb : ∀ b,g.blk=some b->(cap=0∨a=some ⟨b,g.base+off*g.s,none⟩) /\ ∃ cells ty fz,w.heap[b]? = some (.cells cells ty fz)/\g.base+off*g.s+cap*g.s<=cells.size) : Rep T w M (.rs id off len) (.slice a len cap)
 | rk (M : GM) (id off len cap : Nat) (a : Option Addr) (g : GE) (hg : M id=some g) (hz : g.s≠0) (hl : len<=cap) (hn : g.blk=none->off=0/\cap=0)
   (hb : ∀ b,g.blk=some b->(cap=0∨a=some ⟨b,g.base+off*g.s,none⟩) /\ ∃ cells ty fz,w.heap[b]? = some (.cells cells ty fz)/\g.base+off*g.s+cap*g.s<=cells.size) : Rep T w M (.rk id off len cap) (.slice a len cap)
 | pt (M : GM) (id i j : Nat) (g : GE) (b : Nat) (hg : M id=some g) (hz : g.s≠0) (hb : g.blk=some b) : Rep T w M (.pt id i j) (.pointer (some ⟨b,g.base+i*g.s+j,none⟩))
 | mp (M : GM) (id : Nat) (g : GE) (b : Nat) (hg : M id=some g) (hz : g.s=0) (hb : g.blk=some b) : Rep T w M (.mp id) (.map (some b))
 | fn (M : GM) (f : Fn) (xs ys : List AV) (us vs : Array Value) (hx : us.size=xs.length) (hy : vs.size=ys.length) (h : ∀ i,i<xs.length->Rep T w M (xs.getD i .dead) (us.getD i undef))
   (h' : ∀ i,i<ys.length->Rep T w M (ys.getD i .dead) (vs.getD i undef)) : Rep T w M (.fn f xs ys) (.func f us vs)
 | ifc (M : GM) (t : TypeId) (x : AV) (v : Value) (h : Rep T w M x v) : Rep T w M (.ifc t x) (.iface t v)
def TOk (T : Nat->Nat) (w : World) : Prop:=∀ b,0<T b -> ∃ cells ty fz,w.heap[b]? = some (.cells cells ty fz)/\T b<=cells.size
def zco (T : Nat->Nat) (w : World) (M : GM) : List (List AV)->List MapEntry->Prop
 | [],[]=>True
 | row::rows,e::es=>(∃ n x,row=[.sc (.int .i64 n),x]/\e.key = .int .i64 n/\Rep T w M x e.val)/\zco T w M rows es
 | _,_=>False
structure zms (T : Nat->Nat) (w : World) (M : GM) (e : Ent) (g : GE) : Prop where
 s : g.s=e.s
 ro : e.ro<=e.rows.length
 wide : e.s≠0 -> ∀ row∈e.rows,row.length=e.s
 none : g.blk=none->e.rows=[]
 mp : e.s=0 -> ∃ b es clock,g.blk=some b/\w.heap[b]? = some (.map es clock)/\T b=0/\g.base=0/\zco T w M e.rows es.toList
 blk : e.s≠0 -> ∀ b,g.blk=some b -> ∃ cells ty,w.heap[b]? = some (.cells cells ty (0,0))/\T b<=g.base+e.ro*e.s/\g.base+e.rows.length*e.s<=cells.size /\
  ∀ i j,i<e.rows.length->j<e.s -> ∃ v,cells[g.base+i*e.s+j]? = some v/\v.oneCell'=true/\Rep T w M ((e.rows.getD i []).getD j .dead) v
structure HsOk (T : Nat->Nat) (w : World) (M : GM) (hp : Nat->Option Ent) : Prop where
 ent : ∀ id e,hp id=some e -> ∃ g,M id=some g/\zms T w M e g
 inj : ∀ id id' e e' g g' b,hp id=some e->hp id'=some e'->M id=some g->M id'=some g'->g.blk=some b->g'.blk=some b->id=id'
structure Pres (T : Nat->Nat) (w : World) (T' : Nat->Nat) (w' : World) : Prop where
 le : ∀ b,T b<=T' b
 cell : ∀ b cells ty fz,w.heap[b]? = some (.cells cells ty fz) -> ∃ cells' fz',w'.heap[b]? = some (.cells cells' ty fz')/\cells'.size=cells.size /\ ∀ o,o<T b->cells'[o]? = cells[o]?
def Pas (n : Nat) (M : GM) (b : Nat) : Prop:=∃ k g,k<n/\M k=some g/\g.blk=some b
structure zgF (n : Nat) (T : Nat->Nat) (M : GM) (w : World) (T' : Nat->Nat) (M' : GM) (w' : World) : Prop where
 tok : TOk T' w'
 old : ∀ b,b<w.heap.size->¬ Pas n M b->T' b=T b
 same : ∀ k,k<n->M' k=M k
 os : w'.os=w.os
 tape : w'.tape=w.tape
 output : w'.output=w.output
 size : w.heap.size<=w'.heap.size
 keep : ∀ b,b<w.heap.size->¬ Pas n M b->w'.heap[b]? = w.heap[b]?
 pres : Pres T w T' w'
 new : ∀ k g b,n<=k->M' k=some g->g.blk=some b->Pas n M b∨w.heap.size<=b
def RepL (T : Nat->Nat) (w : World) (M : GM) (xs : List AV) (vs : Array Value) : Prop:=vs.size=xs.length /\ ∀ i,i<xs.length->Rep T w M (xs.getD i .dead) (vs.getD i undef)
def hpOf (hs : List Ent) : Nat->Option Ent:=λ k=>hs[k]?
def ziN (hs : List (Option Ent)) : Nat->Option Ent:=λ k=>hs[k]?.join
def zaU (P : Program) (f : FuncId) (args : List AV) (hs : List Ent) (res : AV) (hs' : List (Option Ent)) : Prop :=
 (∃ fn c,P.funcs[f]? = some fn/\fn.body=some c/\fn.name ≠ "runtime.NumGoroutine")/\hs.length<=hs'.length /\
 ∀ (T : Nat->Nat) (M : GM) (w : World) (vs : Array Value),TOk T w->HsOk T w M (hpOf hs)->(∀ k,hs.length<=k->M k=none)->RepL T w M args vs ->
   Calls P f vs w λ e w'=>∃ v T' M',e = .returned v/\Rep T' w' M' res v/\HsOk T' w' M' (ziN hs')/\zgF hs.length T M w T' M' w'
def aK (P : Program) (np id : Nat) (op : AOp) (xs : List AV) (h : Nat->Option Ent) (K : AV->List Nat->List (Nat × Option Ent)->Prop) : Prop :=
 match op,xs with
 | .mv,[x]=>K x [] []
 | .pick,[c,a,b]=>∃ t,c = .sc (.bool t)/\K (if t then a else b) [] []
 | .alloc z,[]=>K (.pt id 0 0) [] [(id,some { s:=z.length,rows:=[z.map .sc] })]
 | .box s,[x]=>∃ cs,cellsOf x=some cs/\cs.length=s/\K (.pt id 0 0) [] [(id,some { s:=s,rows:=[cs] })]
 | .build z ps,xs=>∃ cs,zeQ (z.map .sc) ps xs=some cs/\K (.agg cs) [] []
 | .bsl s len z ps,xs=>∃ rows,zdm s (List.replicate len (z.map .sc)) ps xs=some rows/\z.length=s/\K (.rs id 0 len) [] [(id,some { s:=s,rows:=rows })]
 | .ld ag s,[x]=>∃ cs,zcn h x=some cs/\s<=cs.length/\K (if ag then .agg (cs.take s) else cs.headD .dead) (za8 x) []
 | .st s,[.pt i k j,x]=>∃ e row cs,h i=some e/\e.rows[k]? = some row/\e.ro<=k/\cellsOf x=some cs/\cs.length=s/\j+s<=row.length /\
   K .dead [i] [(i,some { e with rows:=e.rows.set k (zat row j cs) })]
 | .nil,[x]=>(match x with | .pt _ _ _=>True | .pv _=>True | .ifc _ _=>True | _=>False)/\K x [] []
 | .bin op,[.sc a,.sc b]=>∃ v,binV op a b=some v/\K (.sc v) [] []
 | .beq neg,[.sc (.bool a),.sc (.bool b)]=>K (.sc (.bool ((a == b) != neg))) [] []
 | .aeq neg ks,[.agg xs,.agg ys]=>∃ b,eqs ks xs ys=some b/\K (.sc (.bool (b != neg))) [] []
 | .snil neg,[.vs _ _ (_::_)]=>K (.sc (.bool neg)) [] []
 | .snil neg,[.sc (.slice a _ _)]=>K (.sc (.bool (a.isNone != neg))) [] []
 | .un op,[.sc a]=>∃ v,unV op a=some v/\K (.sc v) [] []
 | .cvt k,[.sc (.int _ n)]=>K (.sc (.int k (k.wrap n))) [] []
 | .b2s,[x]=>∃ rows bs,zaZ 1 h x=some rows/\zby rows=some bs/\K (.sc (.string ⟨bs.toArray⟩)) (za8 x) []
 | .mkf f,xs=>K (.fn (.func f) [] xs) [] []
 | .mkb f,xs=>K (.fn (.func f) xs []) [] []
 | .mks s bytes z,[.sc (.int _ l),.sc (.int _ c)]=>0<=l/\l<=c/\c*bytes<=140737488355328/\c<=140737488355328/\z.length=s /\
   K (.rs id 0 l.toNat) [] [(id,some { s:=s,rows:=List.replicate l.toNat (z.map .sc) })]
 | .slc s lo hi mx,x::bs =>
   ∃ l r m : Nat,∃ n,lenOf x=some n/\l<=r /\
     bs=(if lo then [AV.I l] else [])++(if hi then [AV.I r] else [])++(if mx then [AV.I m] else [])/\(lo=false->l=0)/\(hi=false->r=n)/\(mx=true->hi=true) /\
     match x with
     | .vs s' f rows=>r<=n/\(mx=true->m=r)/\s'=s/\K (.vs s (mx || (f && !hi)) ((rows.drop l).take (r - l))) [] []
     | .rs i off _=>r<=n/\mx=false/\(∃ e,h i=some e/\e.s=s)/\K (.rs i (off+l) (r - l)) [i] []
     | .rk i off _ c=>r<=m/\m<=c/\(mx=false->m=c)/\(∃ e,h i=some e/\e.s=s)/\K (.rk i (off+l) (r - l) (m - l)) [i] []
     | .sc (.slice none 0 0)=>r<=n/\(mx=true->m=r)/\K .nilS [] []
     | _=>False
 | .fad off,[.pv cs]=>off<=cs.length/\K (.pv (cs.drop off)) [] []
 | .fad off,[.pt i k j]=>K (.pt i k (j+off)) [] []
 | .fld ag off s,[.agg cs]=>off+s<=cs.length/\K (if ag then .agg ((cs.drop off).take s) else cs.getD off .dead) [] []
 | .iad s,[.vs s' _ rows,.sc (.int _ n)]=>s'=s/\0<=n /\ ∃ row,rows[n.toNat]? = some row/\K (.pv row) [] []
 | .iad s,[.rs i off len,.sc (.int _ n)]=>0<=n/\n<len/\(∃ e,h i=some e/\e.s=s)/\K (.pt i (off+n.toNat) 0) [i] []
 | .iaa l s,[.pt i k j,.sc (.int _ n)]=>0<=n/\n<l/\K (.pt i k (j+n.toNat*s)) [] []
 | .iaa l s,[.pv cs,.sc (.int _ n)]=>0<=n/\n<l/\l*s<=cs.length/\K (.pv (cs.drop (n.toNat*s))) [] []
 | .ixs,[.sc (.string b),.sc (.int _ n)]=>0<=n /\ ∃ c,b.data.toList[n.toNat]? = some c/\K (.sc (.int .u8 c.toNat)) [] []
 | .ixv l,[.agg cs,.sc (.int _ n)]=>0<=n/\n<l/\l<=cs.length/\K (cs.getD n.toNat .dead) [] []
 | .ext i,[.tup vs]=>∃ v,vs[i]? = some v/\K v [] []
 | .call,.fn (.func f) first capt::args =>
   ∃ (ids sn : List Nat) (raise : Bool) (args' : List AV) (hs : List Ent) (res : AV) (hs' : List (Option Ent)),
     ids.Nodup/\(∀ i∈sn,i∉ids)/\(raise=true -> ∀ i∈sn,np<=i) /\
     WkL ((first++args++capt).map (conv ids.zipIdx sn h 4)) args' /\
     ids.map (λ i=>(h i).map (zaw ids.zipIdx sn h 4))=hs.map some /\
     zaU P f args' hs res hs'/\hs'.length<=hs.length+8 /\
     (raise=true∨(Plain res /\ ∀ e,some e∈hs'->zf0 e)) /\
     K (conv ((ids++(List.range 8).map (id + ·)).zipIdx.map λ (a,b)=>(b,a)) [] (λ _=>none) 4 res) (ids++sn)
       ((hs'.zipIdx.map λ (e,k)=>((ids++(List.range 8).map (id + ·)).getD k 0,e.map (zaw ((ids++(List.range 8).map (id + ·)).zipIdx.map λ (a,b)=>(b,a)) [] (λ _=>none) 4))) ++
        (if raise then sn.filterMap (λ i=>(h i).map λ e=>(i,some { e with ro:=e.rows.length })) else []))
 | .app s bytes,[.rk i off len c,y]=>∃ new e,zaZ s h y=some new/\h i=some e/\e.s=s/\off+len<=e.rows.length/\e.ro<=off+len/\(len+new.length)*bytes<=140737488355328/\len+new.length<=140737488355328 /\
   if len+new.length<=c then K (.rk i off (len+new.length) c) (i::za8 y) [(i,some { e with rows:=e.rows.take (off+len)++new++e.rows.drop (off+len+new.length) })]
   else K (.rs id 0 (len+new.length)) (i::za8 y) [(id,some { s:=s,rows:=(e.rows.drop off).take len++new,ro:=0 })]
 | .app s bytes,[x,y]=>∃ new old,zaZ s h y=some new/\zbc s h new x=some old/\(old.1.length+new.length)*bytes<=140737488355328 /\
   old.1.length+new.length<=140737488355328 /\
   K (.rs id 0 (old.1.length+new.length)) (za8 x++za8 y) ((id,some { s:=s,rows:=old.1++new,ro:=old.2.1 })::old.2.2)
 | .apps,[x,.sc (.string b)]=>∃ old,zbc 1 h (zca b) x=some old/\old.1.length+b.size<=140737488355328 /\
   K (.rs id 0 (old.1.length+b.size)) (za8 x) ((id,some { s:=1,rows:=old.1++zca b,ro:=old.2.1 })::old.2.2)
 | .apz s bytes z,[.rk i off len c,.sc (.int _ n)]=>∃ e,h i=some e/\e.s=s/\z.length=s/\off+len<=e.rows.length/\0<n/\c<len+n.toNat/\(len+n.toNat)*bytes<=140737488355328/\len+n.toNat<=140737488355328 /\
   K (.rs id 0 (len+n.toNat)) [i] [(id,some { s:=s,rows:=(e.rows.drop off).take len++List.replicate n.toNat (z.map .sc),ro:=0 })]
 | .apz s bytes z,[.sc (.slice none 0 0),.sc (.int _ n)]=>z.length=s/\0<n/\n.toNat*bytes<=140737488355328/\n.toNat<=140737488355328 /\
   K (.rs id 0 n.toNat) [] [(id,some { s:=s,rows:=List.replicate n.toNat (z.map .sc),ro:=0 })]
 | .len,[x]=>∃ n : Nat,lenOf x=some n/\K (AV.I n) [] []
 | .lens,[.sc (.string b)]=>K (AV.I b.size) [] []
 | .cap,[.rk _ _ _ c]=>K (AV.I c) [] []
 | .cap,[.sc (.slice none 0 0)]=>K (AV.I 0) [] []
 | .cpy s,[.rs i off len,y]=>∃ e new,h i=some e/\e.s=s/\e.ro<=off/\off+len<=e.rows.length/\zaZ s h y=some new /\
   K (AV.I (min new.length len : Nat)) (i::za8 y) [(i,some { e with rows:=e.rows.take off++new.take (min new.length len)++e.rows.drop (off+min new.length len) })]
 | .cpy s,[.rk i off len _,y]=>∃ e new m,h i=some e/\e.s=s/\e.ro<=off/\off<=e.rows.length/\lenOf y=some m/\zaZ s h (cutN (min m len) y)=some new /\
   K (AV.I (min m len : Nat)) (i::za8 y) [(i,some { e with rows:=e.rows.take off++new++e.rows.drop (off+min m len) })]
 | .clr s z,[.rk i off len _]=>∃ e,h i=some e/\e.s=s/\z.length=s/\e.ro<=off/\off+len<=e.rows.length /\
   K .dead [i] [(i,some { e with rows:=e.rows.take off++List.replicate len (z.map .sc)++e.rows.drop (off+len) })]
 | .ovl s,[.vs s' _ _,.rk i off _ _]=>∃ e,h i=some e/\s'=s/\e.s=s/\e.ro<=off/\K (.sc (.bool false)) [i] []
 | .clr s z,[.rs i off len]=>∃ e,h i=some e/\e.s=s/\z.length=s/\e.ro<=off/\off+len<=e.rows.length /\
   K .dead [i] [(i,some { e with rows:=e.rows.take off++List.replicate len (z.map .sc)++e.rows.drop (off+len) })]
 | .mx2,[.sc (.int k a),.sc (.int _ b)]=>K (.sc (.int k (if a<b then b else a))) [] []
 | .mn2,[.sc (.int k a),.sc (.int _ b)]=>K (.sc (.int k (if b<a then b else a))) [] []
 | .mki t,[x]=>K (.ifc t x) [] []
 | .inv tbl,.ifc t x::args =>
   ∃ (f : FuncId) (ids sn : List Nat) (raise : Bool) (args' : List AV) (hs : List Ent) (res : AV) (hs' : List (Option Ent)),
     lkp tbl t=some f/\ids.Nodup/\(∀ i∈sn,i∉ids)/\(raise=true -> ∀ i∈sn,np<=i) /\
     WkL ((x::args).map (conv ids.zipIdx sn h 4)) args' /\
     ids.map (λ i=>(h i).map (zaw ids.zipIdx sn h 4))=hs.map some /\
     zaU P f args' hs res hs'/\hs'.length<=hs.length+8 /\
     (raise=true∨(Plain res /\ ∀ e,some e∈hs'->zf0 e)) /\
     K (conv ((ids++(List.range 8).map (id + ·)).zipIdx.map λ (a,b)=>(b,a)) [] (λ _=>none) 4 res) (ids++sn)
       ((hs'.zipIdx.map λ (e,k)=>((ids++(List.range 8).map (id + ·)).getD k 0,e.map (zaw ((ids++(List.range 8).map (id + ·)).zipIdx.map λ (a,b)=>(b,a)) [] (λ _=>none) 4))) ++
        (if raise then sn.filterMap (λ i=>(h i).map λ e=>(i,some { e with ro:=e.rows.length })) else []))
 | .mkm,[]=>K (.mp id) [] [(id,some { s:=0,rows:=[] })]
 | .mlk z ok,[.mp i,.sc (.int .i64 n)]=>∃ e,h i=some e/\e.s=0/\K (if ok then .tup [(zb3 n e.rows).getD (toAV z),.sc (.bool (zb3 n e.rows).isSome)] else (zb3 n e.rows).getD (toAV z)) [i] []
 | .mup,[.mp i,.sc (.int .i64 n),x]=>∃ e,h i=some e/\e.s=0/\K .dead [i] [(i,some { e with rows:=mset n x e.rows })]
 | .mdl,[.mp i,.sc (.int .i64 n)]=>∃ e,h i=some e/\e.s=0/\K (.tup []) [i] [(i,some { e with rows:=mdel n e.rows,ro:=0 })]
 | _,_=>False
def gdV : AV->Option (Option Bool)
 | .sc (.bool b)=>some (some b)
 | .tup []=>some none
 | _=>none
def zaO (P : Program) (np n : Nat) : Nat->List za7->St->List (List Nat × List Nat)->(St->List (List Nat × List Nat)->Prop)->Prop
 | _,[],st,tr,K=>K st tr
 | i,o::os,st,tr,K =>
   let go : Prop:=aK P np (n+8*i) o.op (o.xs.map (·.ev st.get)) st.hp λ v rd up=>zaO P np n (i+1) os ((st.put o.dst v).upd up) (tr++[(rd,up.map (·.1))]) K
   match o.guard with
   | none=>go
   | some (g,want)=>∃ b,gdV (st.get g)=some b/\if b=some want then go else zaO P np n (i+1) os (st.put o.dst (.tup [])) (tr++[([],[])]) K
inductive zci where
 | normal
 | exit (id : Nat)
 | ret
def zwK (after : List (List Nat)) : List Nat :=
 after.foldl (λ acc aS=>acc++[aS.foldl (λ s a=>s ||| (2 ^ a ||| acc.getD a 0)) 0]) []
def zlq (a b : List Nat × List Nat) : Bool:=a.2.any (λ i=>b.1.contains i || b.2.contains i) || a.1.any (b.2.contains ·)
def za7.names (o : za7) : List Nat:=(o.xs.filterMap fun | .t i=>some i | _=>none)++(o.guard.map (·.1)).toList++o.dst.toList
def zch (o o' : za7) (a b : List Nat × List Nat) : Bool :=
 o.dst.all (λ d=>!o'.names.contains d) && o'.dst.all (λ d=>!o.names.contains d) && !zlq a b
def zcM (ops : List za7) (after : List (List Nat)) (tr : List (List Nat × List Nat)) : Bool :=
 after.length == ops.length && (after.zipIdx.all λ (aS,j)=>aS.all (· < j)) &&
 (List.range ops.length).all λ j=>(List.range j).all λ i=>((zwK after).getD j 0).testBit i || zch (ops.getD i default) (ops.getD j default) (tr.getD i ([],[])) (tr.getD j ([],[]))
structure Ok (np : Nat) (T0 : Nat->Nat) (M0 : GM) (w0 : World) (live : Nat->Prop) (st : St) (T : Nat->Nat) (M : GM) (a : Act) (w : World) : Prop where
 sz : a.tmps.size=st.sz
 df : a.defers=[]
 tm : ∀ i,Rep T w M (st.get i) (a.tmps.getD i undef)
 hs : HsOk T w M st.hp
 dom : ∀ id g,M id=some g->live id
 after : zgF np T0 M0 w0 T M w
abbrev zbL (n : Nat) : Nat->Prop:=λ id=>id<n
def Le (np : Nat) (st st' : St) : Prop :=
 ∀ T0 M0 w0 T M a w,Ok np T0 M0 w0 (zbL st.n) st T M a w->np<=st.n -> ∃ T' M',Ok np T0 M0 w0 (zbL st'.n) st' T' M' a w/\np<=st'.n
def awp (P : Program) (np : Nat) : zcW->(zci->St->Prop)->St->Prop
 | .skip,Q,st=>Q .normal st
 | .reg draw ops after,Q,st =>
   (ops.all λ o=>o.dst.all (· < st.sz))=true /\
   zaO P np st.n 0 ops st [] λ st' tr=>(draw=true->zcM ops after tr=true)/\Q .normal { st' with n:=st.n+8*ops.length }
 | .seq a b,Q,st=>awp P np a (λ e st'=>match e with | .normal=>∃ st2,Le np st' st2/\awp P np b Q st2 | e=>Q e st') st
 | .cond c a b,Q,st=>∃ t,c.ev st.get = .sc (.bool t)/\if t then awp P np a Q st else awp P np b Q st
 | .block id a,Q,st=>awp P np a (λ e st'=>match e with | .exit id'=>if id'=id then Q .normal st' else Q (.exit id') st' | e=>Q e st') st
 | .loop a,Q,st=>∃ I : Nat->St->Prop,(∃ st0 k,Le np st st0/\I k st0) /\
   ∀ k s,I k s->awp P np a (λ e st'=>match e with | .normal=>∃ st2 k2,Le np st' st2/\I k2 st2/\k2<k | e=>Q e st') s
 | .exit id,Q,st=>Q (.exit id) st
 | .ret,Q,st=>Q .ret st
 | .bad,_,_=>False
def zep (af : AFun) (args : List AV) (hs : List Ent) : St :=
 { sz:=af.nt,t:=args.zipIdx.map (λ (a,i)=>(i,a)),h:=hs.zipIdx.map (λ (e,k)=>(k,some e)),n:=16 }
def zit (st : St) (r : Nat × Option (Bool × Nat)) : Option AV :=
 match r with
 | (t,none)=>some (st.get t)
 | (t,some (ag,s))=>match zcn st.hp (st.get t) with
   | some cs=>if s<=cs.length/\(ag=true∨s=1) then some (if ag then .agg (cs.take s) else cs.headD .dead) else none
   | none=>none
def zd3 (st : St) : List (Nat × Option (Bool × Nat))->Option (List AV)
 | []=>some []
 | r::rs=>match zit st r,zd3 st rs with
   | some v,some vs=>some (v::vs)
   | _,_=>none
def resV : List AV->AV
 | [v]=>v
 | vs=>.tup vs
def zao (rs : List (Nat × Option (Bool × Nat))) (np : Nat) (st : St) (res : AV) (hs' : List (Option Ent)) : Prop :=
 ∃ vs,zd3 st rs=some vs /\ ∃ ex sn : List Nat,(List.range np++ex).Nodup/\(∀ i∈ex,np<=i)/\(∀ i∈sn,i∉ex/\np<=i) /\
   Wk (conv (List.range np++ex).zipIdx sn st.hp 4 (resV vs)) res /\
   (List.range np++ex).map (λ i=>(st.hp i).map (zaw (List.range np++ex).zipIdx sn st.hp 4))=hs'
def zjq (P : Program) (t : TypeId) : Option (List Value) :=
 match P.info? t with
 | some i=>match i.zero with
   | some z=>if z.cells.toList.all Value.oneCell' && z.cells.size == i.size then some z.cells.toList else none
   | none=>none
 | none=>none
def zbg (P : Program) (t : TypeId) : Option Nat:=(P.info? t).map (·.size)
def zgZ (P : Program) (t : TypeId) : Option Nat:=(P.info? t).map (·.bytes)
def aggC (P : Program) (t : TypeId) : Option Bool :=
 match P.underlying t with
 | some (.struct _)=>some true
 | some (.array _ _)=>some true
 | some _=>some false
 | none=>none
def opd : Operand->Opd
 | .tmp t=>.t t
 | .const v=>.c v
 | .global g=>.c (.pointer (some ⟨g,0,none⟩))
 | .func f=>.f f
def zjM (P : Program) : Nat->List Field->Option (List Nat)
 | _,[]=>some []
 | i,f::fs =>
   if f.name ≠ "_" /\ f.offset=i then
    match P.underlying f.type,zjM P (i+1) fs with
    | some (.int _),some ks=>some (0::ks)
    | some .bool,some ks=>some (1::ks)
    | some .string,some ks=>some (2::ks)
    | _,_=>none
   else none
def zfv (P : Program) : Nat->List Field->Option (List Nat)
 | _,[]=>some []
 | i,f::fs =>
   if f.name ≠ "_" /\ f.offset=i then
    match P.underlying f.type with
    | some (.int _)=>(zfv P (i+1) fs).map (0 :: ·)
    | some .bool=>(zfv P (i+1) fs).map (1 :: ·)
    | some .string=>(zfv P (i+1) fs).map (2 :: ·)
    | some (.struct gs)=>match zjM P 0 gs.toList,zbg P f.type with
      | some ks,some n=>if P.stoodInHeld f.type=false/\n=ks.length then (zfv P (i+n) fs).map (ks ++ ·) else none
      | _,_=>none
    | _=>none
   else none
def ztT (P : Program) (t e : TypeId) (n : Nat) : Option (List Nat):=match P.underlying e with
 | some .bool=>if P.eqGuardType P.depth t=false/\(P.info? e).isSome=true/\P.cellsOf e=1 then some (List.replicate n 1) else none
 | _=>none
def zta (P : Program) (t : TypeId) (fs : List Field) : Option (List Nat):=if P.stoodInHeld t=false/\P.eqGuardType P.depth t=false then zfv P 0 fs else none
def zfH (P : Program) (t : TypeId) : Option Value :=
 match P.underlying t with
 | some (.map k v)=>match P.underlying k,P.info? v with
   | some (.int .i64),some i=>i.zero
   | _,_=>none
 | _=>none
def zpy : Operand->Bool
 | .const (.slice none 0 0)=>true
 | _=>false
def ovlF (P : Program) (fn : Func) : Option Nat :=
 if fn.body.isNone && (fn.name != "runtime.NumGoroutine") && (fn.origin == "slices.overlaps") && (Extern.allNextRows.lookup fn.name).isNone && (Extern.allGenericRows.lookup fn.name).isNone && (Extern.allTypedRows.lookup fn.name).isNone && (Extern.allRows.lookup fn.name).isNone then
  match fn.params.toList with
  | [t,_]=>match P.underlying t with
    | some (.slice e)=>zbg P e
    | _=>none
  | _=>none
 else none
def ovlC (P : Program) : Operand->Option Nat
 | .func g=>match P.funcs[g]? with
   | some fn=>ovlF P fn
   | none=>none
 | _=>none
def zic (P : Program) (name : String) (t : TypeId) : Option (TypeId × FuncId) :=
 match P.info? t,P.underlying t with
 | some i,some (.struct _)=>match i.methods.find? (·.name == name) with
   | some m=>match m.path.isEmpty,m.func with
     | true,some (f,false)=>some (t,f)
     | _,_=>none
   | none=>none
 | _,_=>none
def zkZ (P : Program) (name : String) : List (TypeId × FuncId):=(List.range P.types.size).filterMap (zic P name)
def zaz (P : Program) (o : Oper) : AOp × List Opd :=
 match o.op with
 | .move x=>(.mv,[opd x])
 | .assign x=>(.mv,[opd x])
 | .pick c a b=>(.pick,[opd c,opd a,opd b])
 | .alloc e=>match zjq P e with | some (y::z)=>(.alloc (y::z),[]) | _=>(.bad,[])
 | .box e x=>match zbg P e with | some (s+1)=>(.box (s+1),[opd x]) | _=>(.bad,[])
 | .build t ps =>
   match zjq P t,P.underlying t with
   | some z,some (.struct fs) =>
     match fs.toList.mapM (λ f=>(P.info? f.type).map λ i=>(f.offset,i.size)) with
     | some places=>match ps.toList.mapM (λ p=>places[p.1]?) with
       | some pl=>(.build z pl,ps.toList.map (opd ·.2))
       | none=>(.bad,[])
     | none=>(.bad,[])
   | some z,some (.array _ e) =>
     match P.info? e with
     | some ie=>(.build z (ps.toList.map λ p=>(p.1*ie.size,ie.size)),ps.toList.map (opd ·.2))
     | none=>(.bad,[])
   | _,_=>(.bad,[])
 | .buildSlice t len ps =>
   match P.underlying t with
   | some (.slice e) =>
     match zjq P e,zbg P e with
     | some z,some s=>if len*s<=2 ^ 24/\0<s then (.bsl s len z (ps.toList.map (·.1)),ps.toList.map (opd ·.2)) else (.bad,[])
     | _,_=>(.bad,[])
   | _=>(.bad,[])
 | .load t x=>match aggC P t,zbg P t with | some ag,some s=>if ag=true∨s=1 then (.ld ag s,[opd x]) else (.bad,[]) | _,_=>(.bad,[])
 | .store t a x=>match zbg P t with | some s=>(.st s,[opd a,opd x]) | none=>(.bad,[])
 | .nilCheck x=>(.nil,[opd x])
 | .binOp op t x y _ =>
   match op,P.underlying t with
   | .eql,some .bool=>(.beq false,[opd x,opd y])
   | .neq,some .bool=>(.beq true,[opd x,opd y])
   | .eql,some (.struct fs)=>match zta P t fs.toList with | some ks=>(.aeq false ks,[opd x,opd y]) | none=>(.bad,[])
   | .neq,some (.struct fs)=>match zta P t fs.toList with | some ks=>(.aeq true ks,[opd x,opd y]) | none=>(.bad,[])
   | .eql,some (.array n e)=>match ztT P t e n with | some ks=>(.aeq false ks,[opd x,opd y]) | none=>(.bad,[])
   | .neq,some (.array n e)=>match ztT P t e n with | some ks=>(.aeq true ks,[opd x,opd y]) | none=>(.bad,[])
   | .eql,some (.slice _)=>if zpy y=true then (.snil false,[opd x]) else (.bad,[])
   | .neq,some (.slice _)=>if zpy y=true then (.snil true,[opd x]) else (.bad,[])
   | _,_=>(.bin op,[opd x,opd y])
 | .unOp op _ x=>(.un op,[opd x])
 | .convert src dst x =>
   match P.underlying src,P.underlying dst with
   | some (.int _),some (.int k)=>(.cvt k,[opd x])
   | some (.slice e),some .string=>match P.underlying e with | some (.int .u8)=>(.b2s,[opd x]) | _=>(.bad,[])
   | _,_=>(.bad,[])
 | .makeFunc (.func f) first capt=>if first.isEmpty then (.mkf f,capt.toList.map opd) else if capt.isEmpty then (.mkb f,first.toList.map opd) else (.bad,[])
 | .makeSlice t l c =>
   match P.underlying t with
   | some (.slice e) =>
     match zjq P e,zbg P e,zgZ P e with
     | some z,some s,some b=>if 0<s then (.mks s b z,[opd l,opd c]) else (.bad,[])
     | _,_,_=>(.bad,[])
   | _=>(.bad,[])
 | .slice t x lo hi mx =>
   match P.underlying t with
   | some (.slice e)=>match zbg P e with
     | some s=>(.slc s lo.isSome hi.isSome mx.isSome,[opd x]++(lo.map opd).toList++(hi.map opd).toList++(mx.map opd).toList)
     | none=>(.bad,[])
   | _=>(.bad,[])
 | .fieldAddr t x f =>
   match P.underlying t with
   | some (.struct fs)=>match fs[f]? with
     | some fd=>match zbg P fd.type with | some (_+1)=>(.fad fd.offset,[opd x]) | _=>(.bad,[])
     | none=>(.bad,[])
   | _=>(.bad,[])
 | .field t x f =>
   match P.underlying t with
   | some (.struct fs)=>match fs[f]? with
     | some fd=>match aggC P fd.type,zbg P fd.type with
       | some ag,some s=>if ag=true∨s=1 then (.fld ag fd.offset s,[opd x]) else (.bad,[])
       | _,_=>(.bad,[])
     | none=>(.bad,[])
   | _=>(.bad,[])
 | .indexAddr t x i =>
   match P.underlying t with
   | some (.slice e)=>match zbg P e with | some s=>(.iad s,[opd x,opd i]) | none=>(.bad,[])
   | some (.array n e)=>match zbg P e with | some s=>(.iaa n s,[opd x,opd i]) | none=>(.bad,[])
   | _=>(.bad,[])
 | .index t x i=>match P.underlying t with | some .string=>(.ixs,[opd x,opd i]) | some (.array n e)=>(match aggC P e,zbg P e with | some false,some 1=>(.ixv n,[opd x,opd i]) | _,_=>(.bad,[])) | _=>(.bad,[])
 | .extract t i=>(.ext i,[opd t])
 | .makeInterface t x=>match P.underlying t with
   | some (.struct _)=>(.mki t,[opd x])
   | _=>(.bad,[])
 | .makeMap t none=>match zfH P t with | some _=>(.mkm,[]) | none=>(.bad,[])
 | .insert t m k v=>match zfH P t with | some _=>(.mup,[opd m,opd k,opd v]) | none=>(.bad,[])
 | .mapUpdate t m k v=>match zfH P t with | some _=>(.mup,[opd m,opd k,opd v]) | none=>(.bad,[])
 | .lookup t m k ok=>match zfH P t with | some z=>(.mlk z ok,[opd m,opd k]) | none=>(.bad,[])
 | .call c =>
   match c.callee with
   | .invoke r n=>(.inv (zkZ P n),opd r::c.args.toList.map opd)
   | .value f=>match ovlC P f with
     | none=>(.call,opd f::c.args.toList.map opd)
     | some s=>(.ovl s,c.args.toList.map opd)
   | .builtin .append =>
     match c.argTypes.toList,c.args.toList with
     | [t,u],[x,y] =>
       match P.underlying t,P.underlying u with
       | some (.slice e),some (.slice _)=>match zbg P e,zgZ P e with | some s,some b=>if (zjq P e).isSome/\0<s then (.app s b,[opd x,opd y]) else (.bad,[]) | _,_=>(.bad,[])
       | some (.slice e),some .string=>match zbg P e,zgZ P e with | some 1,some 1=>if (zjq P e).isSome then (.apps,[opd x,opd y]) else (.bad,[]) | _,_=>(.bad,[])
       | some (.slice e),some (.int _)=>match zjq P e,zbg P e,zgZ P e with | some z,some s,some b=>if 0<s then (.apz s b z,[opd x,opd y]) else (.bad,[]) | _,_,_=>(.bad,[])
       | _,_=>(.bad,[])
     | _,_=>(.bad,[])
   | .builtin .len =>
     match c.argTypes.toList,c.args.toList with
     | [t],[x]=>match P.underlying t with
       | some (.slice _)=>(.len,[opd x])
       | some .string=>(.lens,[opd x])
       | _=>(.bad,[])
     | _,_=>(.bad,[])
   | .builtin .cap =>
     match c.argTypes.toList,c.args.toList with
     | [t],[x]=>match P.underlying t with
       | some (.slice _)=>(.cap,[opd x])
       | _=>(.bad,[])
     | _,_=>(.bad,[])
   | .builtin .copy =>
     match c.argTypes.toList,c.args.toList with
     | t::_,[x,y]=>match P.underlying t with
       | some (.slice e)=>match zbg P e with | some s=>(.cpy s,[opd x,opd y]) | none=>(.bad,[])
       | _=>(.bad,[])
     | _,_=>(.bad,[])
   | .builtin .clear =>
     match c.argTypes.toList,c.args.toList with
     | [t],[x]=>match P.underlying t with
       | some (.slice e)=>match zjq P e,zbg P e with | some z,some s=>(.clr s z,[opd x]) | _,_=>(.bad,[])
       | _=>(.bad,[])
     | _,_=>(.bad,[])
   | .builtin .delete =>
     match c.argTypes.toList,c.args.toList with
     | t::_,[x,y]=>match zfH P t with | some _=>(.mdl,[opd x,opd y]) | none=>(.bad,[])
     | _,_=>(.bad,[])
   | .builtin .max=>match c.args.toList with | [x,y]=>(.mx2,[opd x,opd y]) | _=>(.bad,[])
   | .builtin .min=>match c.args.toList with | [x,y]=>(.mn2,[opd x,opd y]) | _=>(.bad,[])
   | _=>(.bad,[])
 | _=>(.bad,[])
def zav (P : Program) (ops : Array Oper) (o : Oper) : za7 :=
 let (op,xs):=zaz P o
 match o.guard with
 | none=>{ dst:=o.dst,op:=op,xs:=xs }
 | some (j,want)=>match (ops[j]?).bind (·.dst) with
   | some d=>{ dst:=o.dst,op:=op,xs:=xs,guard:=some (d,want) }
   | none=>{ dst:=o.dst,op:=.bad,xs:=[] }
def comp (P : Program) : Code->zcW
 | .skip=>.skip
 | .region _ ops draw=>.reg draw (ops.toList.map (zav P ops)) (if draw then ops.toList.map λ o=>(o.after.toList.filter (Region.binds .any)).map (·.on) else [])
 | .seq a b=>.seq (comp P a) (comp P b)
 | .cond c a b=>.cond (opd c) (comp P a) (comp P b)
 | .block id a=>.block id (comp P a)
 | .loop a=>.loop (comp P a)
 | .exit id=>.exit id
 | .ret=>.ret
 | .scope a=>comp P a
 | .label _=>.skip
 | _=>.bad
def zdL (P : Program) (r : ResultVar) : Nat × Option (Bool × Nat) :=
 match r with
 | .tmp t=>(t,none)
 | .cell a t=>match aggC P t,zbg P t with | some ag,some s=>(a,some (ag,s)) | _,_=>(a,some (false,0))
def zrF (P : Program) (fn : Func) : Option AFun :=
 match fn.body with
 | some c=>some { nt:=fn.ntmps,res:=fn.results.toList.map (zdL P),code:=comp P c }
 | none=>none
theorem Pres.refl (T : Nat->Nat) (w : World) : Pres T w T w:=⟨λ _=>Ql _,λ _ cells _ fz h=>⟨cells,fz,h,rfl,λ _ _=>rfl⟩⟩
theorem Pres.trans {T w T1 w1 T2 w2} (a : Pres T w T1 w1) (b : Pres T1 w1 T2 w2) : Pres T w T2 w2:=by
 refine ⟨λ x=>QH (a.le x) (b.le x),λ x cells ty fz h=>?_⟩;obtain ⟨c1,f1,h1,s1,e1⟩:=a.cell x cells ty fz h;obtain ⟨c2,f2,h2,s2,e2⟩:=b.cell x c1 ty f1 h1;exact ⟨c2,f2,h2,s2.trans s1,λ o ho=>(e2 o (U7 ho (a.le x))).trans (e1 o ho)⟩
theorem zcE {n s i j : Nat} (hi : i<n) (hj : j<s) : i*s+j<n*s:=by
 have h : (i+1)*s<=n*s:=QC _ hi;rw [QI] at h;omega
theorem Rep.mono {T : Nat->Nat} {w : World} {M : GM} {x : AV} {v : Value} (h : Rep T w M x v) :
  ∀ {T' : Nat->Nat} {w' : World} {M' : GM},Pres T w T' w'->(∀ id g,M id=some g->M' id=some g)->Rep T' w' M' x v:=by
 induction h with
 | dead M v=>intro T' w' M' _ _; exact .dead _ _
 | sc M v h=>intro T' w' M' _ _; exact .sc _ _ h
 | agg M cs vs hl h1 h ih=>intro T' w' M' p m; exact .agg _ _ _ hl h1 λ i hi=>ih i hi p m
 | tup M cs vs hl h ih=>intro T' w' M' p m; exact .tup _ _ _ hl λ i hi=>ih i hi p m
 | vs M s full rows a cap c hf hle hw hb h1 h ih =>
   intro T' w' M' p m;refine .vs _ s full rows a cap c hf hle hw (λ hne=>?_) h1 λ i j hi hj=>ih i j hi hj p λ _ _ e=>e;obtain ⟨b,off,cells,ty,fz,ha,hw,hT,hc⟩:=hb hne;obtain ⟨c',f',h1,h2,h3⟩:=p.cell b cells ty fz hw;refine ⟨b,off,c',ty,f',ha,h1,QH hT (p.le b),λ i j hi hj=>?_⟩;rw [h3 _ (by have:=zcE hi hj; omega)]
   exact hc i j hi hj
 | pv M cs b off cells ty fz c hb ht hc h1 h ih =>
   intro T' w' M' p m;obtain ⟨c',f',e1,e2,e3⟩:=p.cell b cells ty fz hb;exact .pv _ cs b off c' ty f' c e1 (QH ht (p.le b)) (λ j hj=>by rw [e3 _ (by omega)]; exact hc j hj) h1 λ j hj=>ih j hj p λ _ _ e=>e
 | rs M id off len cap a g hg hz hl hn hb =>
   intro T' w' M' p m;refine .rs _ id off len cap a g (m _ _ hg) hz hl hn λ b hbb=>?_;obtain ⟨ha,cells,ty,fz,hw,hs⟩:=hb b hbb;obtain ⟨c',f',e1,e2,e3⟩:=p.cell b cells ty fz hw;exact ⟨ha,c',ty,f',e1,by omega⟩
 | rk M id off len cap a g hg hz hl hn hb =>
   intro T' w' M' p m;refine .rk _ id off len cap a g (m _ _ hg) hz hl hn λ b hbb=>?_;obtain ⟨ha,cells,ty,fz,hw,hs⟩:=hb b hbb;obtain ⟨c',f',e1,e2,e3⟩:=p.cell b cells ty fz hw;exact ⟨ha,c',ty,f',e1,by omega⟩
 | pt M id i j g b hg hz hb=>intro T' w' M' _ m; exact .pt _ id i j g b (m _ _ hg) hz hb
 | mp M id g b hg hz hb=>intro T' w' M' _ m; exact .mp _ id g b (m _ _ hg) hz hb
 | fn M f xs ys us vs hx hy h h' ih ih'=>intro T' w' M' p m; exact .fn _ f xs ys us vs hx hy (λ i hi=>ih i hi p m) λ i hi=>ih' i hi p m
 | ifc M t x v h ih=>intro T' w' M' p m; exact .ifc _ t x v (ih p m)
theorem Rep.plain {T : Nat->Nat} {w : World} {M : GM} {x : AV} {v : Value} (h : Rep T w M x v) (hp : Plain x) : ∀ (T' : Nat->Nat),Rep T' w M x v:=by
 induction hp generalizing v with
 | dead=>intro T'; exact .dead _ _
 | sc u=>intro T'; cases h with | sc _ _ h=>exact .sc _ _ h
 | agg xs _ ih=>intro T'; cases h with | agg _ _ vs hl h1 h=>exact .agg _ _ _ hl h1 λ i hi=>ih i (h i hi) T'
 | tup xs _ ih=>intro T'; cases h with | tup _ _ vs hl h=>exact .tup _ _ _ hl λ i hi=>ih i (h i hi) T'
 | rs id off len=>intro T'; cases h with | rs _ _ _ _ cap a g hg hz hl hn hb=>exact .rs _ _ _ _ _ _ g hg hz hl hn hb
 | pt id i j=>intro T'; cases h with | pt _ _ _ _ g b hg hz hb=>exact .pt _ _ _ _ g b hg hz hb
 | mp id=>intro T'; cases h with | mp _ _ g b hg hz hb=>exact .mp _ _ g b hg hz hb
theorem Rep.rk_rs {T : Nat->Nat} {w : World} {M : GM} {id off len cap : Nat} {v : Value} (h : Rep T w M (.rk id off len cap) v) : Rep T w M (.rs id off len) v:=by
 cases h with | rk _ _ _ _ _ a g hg hz hl hn hb=>exact .rs _ _ _ _ _ _ g hg hz hl hn hb
theorem zpt {α : Type} (i j : Nat) (a : α) (l : List (Nat × α)) : lkp ((i,a)::l) j=if i=j then some a else lkp l j:=rfl
theorem zdx {α : Type} (l l' : List (Nat × α)) (j : Nat) : lkp (l++l') j=(lkp l j).or (lkp l' j):=by
 induction l with
 | nil=>rfl
 | cons p l ih =>
   obtain ⟨i,a⟩:=p;simp only [QO,zpt];split <;> simp [ih]
theorem St.get_put (st : St) (d i : Nat) (v : AV) : (st.put (some d) v).get i=if d=i then v else st.get i:=by
 unfold St.put St.get;simp only [zpt];split <;> rfl
theorem zrV {T : Nat->Nat} {w : World} {M : GM} {st : St} {a : Act} {d : Option Nat} {v : AV} {v' : Value} (sz : a.tmps.size=st.sz)
  (tm : ∀ i,Rep T w M (st.get i) (a.tmps.getD i undef)) (hd : d.all (· < st.sz)=true) (r : Rep T w M v v') :
  ∀ i,Rep T w M ((st.put d v).get i) ((a.put d v').tmps.getD i undef):=by
 intro i
 cases d with
 | none=>exact tm i
 | some d =>
   have hd' : d<a.tmps.size:=by rw [sz]; simpa using hd
   rw [St.get_put];simp only [Act.put]
   by_cases e : d=i
   .subst e
    have : (a.tmps.setIfInBounds d v').getD d undef=v':=by simp [Array.getD,hd']
    rw [this,if_pos rfl];exact r
   .have : (a.tmps.setIfInBounds d v').getD i undef=a.tmps.getD i undef:=by
     simp only [QD];rw [Array.getElem?_setIfInBounds_ne e]
    rw [this,if_neg e];exact tm i
theorem zcN {α : Type} (l : List α) (f : α->AV) (i : Nat) (h : i<l.length) : (l.map f).getD i .dead=f l[i]:=by simp [List.getD,h]
theorem ztQ {T : Nat->Nat} {w : World} {M : GM} (cs : Array Value) (h : cs.all Value.oneCell'=true) : Rep T w M (.agg (cs.toList.map .sc)) (.agg cs):=by
 have h1 : ∀ i,i<cs.size->(cs.getD i undef).oneCell'=true:=λ i hi=>by
  rw [Array.all_eq_true] at h;have:=h i hi
  simpa [Array.getD,hi] using this
 refine .agg _ _ _ (by simp) (λ i hi=>h1 i (by simpa using hi)) λ i hi=>?_
 have hi' : i<cs.size:=by simpa using hi
 rw [zcN _ _ _ (by simpa using hi')]
 have e : cs.getD i undef=cs.toList[i]'(by simpa using hi'):=by simp [Array.getD,hi']
 have:=h1 i hi';rw [e] at this ⊢;exact .sc _ _ this
theorem zlv {T : Nat->Nat} {w : World} {M : GM} (v : Value) : Rep T w M (toAV v) v:=by
 unfold toAV;split
 .rename_i cs
  split
  .rename_i hc; exact ztQ cs hc
  .exact .dead _ _
 .exact .dead _ _
 .rename_i h1 h2
  exact .sc _ _ (by cases v <;> first | rfl | (exact absurd rfl (h1 _)) | (exact absurd rfl (h2 _)))
theorem zaB {T : Nat->Nat} {w : World} {M : GM} {st : St} {a : Act} (tm : ∀ i,Rep T w M (st.get i) (a.tmps.getD i undef)) (x : Operand) :
  Rep T w M ((opd x).ev st.get) (a.eval x):=by
 cases x with
 | tmp t=>exact tm t
 | const v=>exact zlv v
 | global g=>exact .sc _ _ rfl
 | func f=>exact .fn _ _ _ _ _ _ rfl rfl (λ i hi=>absurd hi (U4 i)) (λ i hi=>absurd hi (U4 i))
theorem zfu {T : Nat->Nat} {w : World} {M : GM} {x : AV} {v : Value} {cs : List AV} (h : Rep T w M x v) (hc : cellsOf x=some cs) :
  v.cells.size=cs.length /\ ∀ j,j<cs.length->(v.cells.getD j undef).oneCell'=true/\Rep T w M (cs.getD j .dead) (v.cells.getD j undef):=by
 have one : ∀ {x : AV} {v : Value},Rep T w M x v->v.oneCell'=true->v.cells.size=[x].length /\ ∀ j,j<[x].length->(v.cells.getD j undef).oneCell'=true/\Rep T w M ([x].getD j .dead) (v.cells.getD j undef):=by
  intro x v h h1;have e : v.cells = #[v]:=by cases v <;> first | rfl | (simp [Value.oneCell'] at h1)
  refine ⟨by rw [e]; rfl,λ j hj=>?_⟩
  obtain rfl : j=0:=by simpa using hj
  rw [e];exact ⟨h1,h⟩
 cases h with
 | dead=>simp [cellsOf] at hc
 | sc _ _ h1 =>
   have : cs=[.sc v]:=by cases v <;> simp [cellsOf] at hc <;> first | exact hc.symm | (simp [Value.oneCell'] at h1)
   subst this;exact one (.sc _ _ h1) h1
 | agg _ ys us hl h1 h =>
   simp only [cellsOf,Qq] at hc;subst hc;exact ⟨hl,λ j hj=>⟨h1 j hj,h j hj⟩⟩
 | tup _ ys us hl h=>simp [cellsOf] at hc
 | vs _ s full rows a cap c hf hle hw hb h1 h =>
   simp only [cellsOf,Qq] at hc; subst hc; exact one (.vs _ s full rows a cap c hf hle hw hb h1 h) rfl
 | pv _ ys b off cells ty fz c hb ht hcc h1 h =>
   simp only [cellsOf,Qq] at hc; subst hc; exact one (.pv _ ys b off cells ty fz c hb ht hcc h1 h) rfl
 | rs _ id off len cap a g hg hz hl hn hb =>
   simp only [cellsOf,Qq] at hc; subst hc; exact one (.rs _ id off len cap a g hg hz hl hn hb) rfl
 | rk _ id off len cap a g hg hz hl hn hb =>
   simp only [cellsOf,Qq] at hc; subst hc; exact one (.rk _ id off len cap a g hg hz hl hn hb) rfl
 | pt _ id i j g b hg hz hb =>
   simp only [cellsOf,Qq] at hc; subst hc; exact one (.pt _ id i j g b hg hz hb) rfl
 | mp _ id g b hg hz hb =>
   simp only [cellsOf,Qq] at hc; subst hc; exact one (.mp _ id g b hg hz hb) rfl
 | fn _ f xs ys us vs hx hy h h' =>
   simp only [cellsOf,Qq] at hc; subst hc; exact one (.fn _ f xs ys us vs hx hy h h') rfl
 | ifc _ t x v h =>
   simp only [cellsOf,Qq] at hc; subst hc; exact one (.ifc _ t x v h) rfl
theorem St.hp_upd (st : St) (up : List (Nat × Option Ent)) (i : Nat) : (st.upd up).hp i=(lkp up i).elim (st.hp i) id:=by
 unfold St.upd St.hp;simp only [zdx]
 cases lkp up i <;> rfl
theorem St.hp_put (st : St) (d : Option Nat) (v : AV) (i : Nat) : (st.put d v).hp i=st.hp i:=by
 cases d <;> rfl
theorem St.get_upd (st : St) (up : List (Nat × Option Ent)) (i : Nat) : (st.upd up).get i=st.get i:=rfl
theorem zgF.step {np : Nat} {T0 : Nat->Nat} {M0 : GM} {w0 : World} {T : Nat->Nat} {M : GM} {w : World} {T' : Nat->Nat} {M' : GM} {w' : World} (h : zgF np T0 M0 w0 T M w)
  (tok : TOk T' w') (old : ∀ b,b<w0.heap.size->¬ Pas np M0 b->T' b=T b) (same : ∀ k,k<np->M' k=M k) (os : w'.os=w.os) (tape : w'.tape=w.tape) (output : w'.output=w.output)
  (size : w.heap.size<=w'.heap.size) (keep : ∀ b,b<w0.heap.size->¬ Pas np M0 b->w'.heap[b]? = w.heap[b]?)
  (pres : Pres T w T' w') (new : ∀ k g b,np<=k->M' k=some g->g.blk=some b->Pas np M0 b∨w0.heap.size<=b) : zgF np T0 M0 w0 T' M' w' :=
 ⟨tok,λ b hb hn=>(old b hb hn).trans (h.old b hb hn),λ k hk=>(same k hk).trans (h.same k hk),os.trans h.os,tape.trans h.tape,output.trans h.output,QH h.size size,
  λ b hb hn=>(keep b hb hn).trans (h.keep b hb hn),h.pres.trans pres,new⟩
theorem zgF.blk {np : Nat} {T0 : Nat->Nat} {M0 : GM} {w0 : World} {T : Nat->Nat} {M : GM} {w : World} (h : zgF np T0 M0 w0 T M w) {k : Nat} {g : GE} {b : Nat} (hg : M k=some g) (hb : g.blk=some b) : Pas np M0 b∨w0.heap.size<=b:=by
 rcases Ug k np with hk | hk
 .exact .inl ⟨k,g,hk,by rw [<- h.same k hk]; exact hg,hb⟩
 .exact h.new k g b hk hg hb
theorem zco.mono {T w M T' w' M'} (p : Pres T w T' w') (m : ∀ id g,M id=some g->M' id=some g) : ∀ {rows : List (List AV)} {es : List MapEntry},zco T w M rows es->zco T' w' M' rows es
 | [],[],_=>trivial
 | _::_,_::_,h=>⟨by obtain ⟨n,x,h1,h2,h3⟩:=h.1; exact ⟨n,x,h1,h2,h3.mono p m⟩,zco.mono p m h.2⟩
 | [],_::_,h=>False.elim h
 | _::_,[],h=>False.elim h
theorem zco.map {T w M T' w' M'} {f : AV->AV} (hi : ∀ n,f (.sc (.int .i64 n)) = .sc (.int .i64 n)) : ∀ {rows : List (List AV)} {es : List MapEntry},zco T w M rows es->(∀ row∈rows,∀ x∈row,∀ v,Rep T w M x v->Rep T' w' M' (f x) v)->zco T' w' M' (rows.map (·.map f)) es
 | [],[],_,_=>trivial
 | row::rows,e::es,h,hf=>⟨by
   obtain ⟨n,x,h1,h2,h3⟩:=h.1
   exact ⟨n,f x,by rw [h1]; simp [hi n],h2,hf row Qm x (by rw [h1]; simp) _ h3⟩,zco.map hi h.2 λ r hr=>hf r (Qk _ hr)⟩
 | [],_::_,h,_=>False.elim h
 | _::_,[],h,_=>False.elim h
theorem zms.mono {T w M e g T' w' M'} (h : zms T w M e g) (p : Pres T w T' w') (m : ∀ id g,M id=some g->M' id=some g)
  (hb : ∀ b,g.blk=some b->w'.heap[b]? = w.heap[b]? /\ T' b=T b) : zms T' w' M' e g:=by
 refine ⟨h.s,h.ro,h.wide,h.none,λ hz=>?_,λ hz b hbb=>?_⟩
 .obtain ⟨b,es,clock,hbb,h1,h2,h5,h4⟩:=h.mp hz
  obtain ⟨e1,e2⟩:=hb b hbb;exact ⟨b,es,clock,hbb,by rw [e1]; exact h1,by rw [e2]; exact h2,h5,h4.mono p m⟩
 obtain ⟨cells,ty,h1,h2,h3,h4⟩:=h.blk hz b hbb;obtain ⟨e1,e2⟩:=hb b hbb;refine ⟨cells,ty,by rw [e1]; exact h1,by rw [e2]; exact h2,h3,λ i j hi hj=>?_⟩
 obtain ⟨v,hv,ho,hr⟩:=h4 i j hi hj;exact ⟨v,hv,ho,hr.mono p m⟩
section
variable {np : Nat} {T0 : Nat->Nat} {M0 : GM} {w0 : World} {live : Nat->Prop} {hp : Nat->Option Ent} {T : Nat->Nat} {M : GM} {w : World}
structure Mem (np : Nat) (T0 : Nat->Nat) (M0 : GM) (w0 : World) (live : Nat->Prop) (hp : Nat->Option Ent) (T : Nat->Nat) (M : GM) (w : World) : Prop where
 hs : HsOk T w M hp
 dom : ∀ id g,M id=some g->live id
 after : zgF np T0 M0 w0 T M w
theorem Mem.block_lt (h : Mem np T0 M0 w0 live hp T M w) {id e g b} (he : hp id=some e) (hg : M id=some g) (hb : g.blk=some b) : b<w.heap.size:=by
 obtain ⟨g',h1,h2⟩:=h.hs.ent id e he;obtain rfl:=Qf (hg.symm.trans h1)
 by_cases hz : e.s=0
 .obtain ⟨b',es,clock,hbb,h3,_⟩:=h2.mp hz
  obtain rfl:=Qf (hb.symm.trans hbb);exact (QN.1 h3).1
 obtain ⟨cells,ty,h3,_⟩:=h2.blk hz b hb;exact (QN.1 h3).1
theorem Mem.T_zero (h : Mem np T0 M0 w0 live hp T M w) {b : Nat} (hb : w.heap.size<=b) : T b=0:=by
 rcases Ui (T b) with e | e
 .exact e
 .obtain ⟨cells,ty,fz,h1,_⟩:=h.after.tok b e
  have:=(QN.1 h1).1;omega
theorem Mem.wider (h : Mem np T0 M0 w0 live hp T M w) {live' : Nat->Prop} (hl : ∀ i,live i->live' i) : Mem np T0 M0 w0 live' hp T M w :=
 ⟨h.hs,λ id g hg=>hl _ (h.dom id g hg),h.after⟩
theorem Pres.alloc {o : Obj} {w1 : World} (hT : TOk T w) (hh : w1.heap=w.heap.push o) : Pres T w T w1:=by
 refine ⟨λ _=>Ql _,λ b cells ty fz hb=>⟨cells,fz,?_,rfl,λ _ _=>rfl⟩⟩;have : b<w.heap.size:=(QN.1 hb).1;rw [hh,U1,if_neg (by omega)]
 exact hb
theorem Mem.draw (h : Mem np T0 M0 w0 live hp T M w) {w1 : World} (hh : w1.heap=w.heap) (os : w1.os=w.os) (tape : w1.tape=w.tape) (output : w1.output=w.output) :
  Mem np T0 M0 w0 live hp T M w1/\Pres T w T w1:=by
 have p : Pres T w T w1:=⟨λ _=>Ql _,λ b cells ty fz hb=>⟨cells,fz,by rw [hh]; exact hb,rfl,λ _ _=>rfl⟩⟩
 refine ⟨⟨⟨λ id e he=>?_,h.hs.inj⟩,h.dom,?_⟩,p⟩
 .obtain ⟨g,h1,h2⟩:=h.hs.ent id e he
  exact ⟨g,h1,h2.mono p (λ _ _ e=>e) λ b _=>⟨by rw [hh],rfl⟩⟩
 .exact h.after.step (λ b hb=>by rw [hh]; exact h.after.tok b hb) (λ _ _ _=>rfl) (λ _ _=>rfl) os tape output (by rw [hh]; exact Ql _) (λ b _ _=>by rw [hh]) p h.after.new
theorem Mem.new (h : Mem np T0 M0 w0 live hp T M w) {id : Nat} (hid : ¬ live id) (hnp : np<=id) {w1 : World} {cells : Array Value} {ty : TypeId} (hh : w1.heap=w.heap.push (.cells cells ty)) (os : w1.os=w.os) (tape : w1.tape=w.tape)
  (output : w1.output=w.output) (e : Ent) (hez : e.s≠0) (ro : e.ro<=e.rows.length) (wide : ∀ row∈e.rows,row.length=e.s) (fits : e.rows.length*e.s<=cells.size)
  (hc : ∀ i j,i<e.rows.length->j<e.s -> ∃ v,cells[i*e.s+j]? = some v/\v.oneCell'=true/\Rep T w M ((e.rows.getD i []).getD j .dead) v)
  {hp' : Nat->Option Ent} (hp1 : hp' id=some e) (hp2 : ∀ i e',i≠id->hp' i=some e'->hp i=some e') :
  ∃ M' : GM,M' id=some ⟨some w.heap.size,0,e.s⟩/\(∀ i g,M i=some g->M' i=some g)/\Mem np T0 M0 w0 (λ i=>live i∨i=id) hp' T M' w1/\Pres T w T w1:=by
 have p : Pres T w T w1:=Pres.alloc h.after.tok hh
 have hMid : M id=none:=by
  cases hm : M id with
  | none=>rfl
  | some g=>exact absurd (h.dom id g hm) hid
 have mm : ∀ i g,M i=some g->(λ i=>if i=id then some (GE.mk (some w.heap.size) 0 e.s) else M i) i=some g:=by
  intro i g hg;have : i≠id:=by rintro rfl; rw [hMid] at hg; cases hg
  simp only [this,Us]; exact hg
 refine ⟨λ i=>if i=id then some ⟨some w.heap.size,0,e.s⟩ else M i,by simp,mm,⟨⟨λ i e' he=>?_,λ i i' e1 e2 g g' b h1 h2 h3 h4 h5 h6=>?_⟩,λ i g hg=>?_,?_⟩,p⟩
 .by_cases hi : i=id
  .subst hi
   obtain rfl : e=e':=Qf (hp1.symm.trans he);refine ⟨⟨some w.heap.size,0,e.s⟩,if_pos rfl,rfl,ro,λ _=>wide,(λ e=>by simp at e),(λ h=>absurd h hez),λ _ b hb=>?_⟩
   obtain rfl : w.heap.size=b:=Qf hb;refine ⟨cells,ty,by rw [hh]; simp,by rw [h.T_zero (Ql _)]; exact Qi _,by simpa using fits,λ i j hi hj=>?_⟩
   obtain ⟨v,hv,ho,hr⟩:=hc i j hi hj;exact ⟨v,by simpa using hv,ho,hr.mono p mm⟩
  .have he':=hp2 i e' hi he
   obtain ⟨g,h1,h2⟩:=h.hs.ent i e' he';refine ⟨g,by simp only [hi,Us]; exact h1,h2.mono p mm λ b hb=>⟨?_,rfl⟩⟩
   have:=h.block_lt he' h1 hb;rw [hh,U1,if_neg (by omega)]
 .by_cases hi : i=id <;> by_cases hi' : i'=id
  .rw [hi,hi']
  .rw [if_pos hi] at h3; rw [if_neg hi'] at h4
   obtain rfl:=Qf h3;have:=h.block_lt (hp2 i' e2 hi' h2) h4 h6;simp at h5;omega
  .rw [if_neg hi] at h3; rw [if_pos hi'] at h4
   obtain rfl:=Qf h4;have:=h.block_lt (hp2 i e1 hi h1) h3 h5;simp at h6;omega
  .rw [if_neg hi] at h3; rw [if_neg hi'] at h4
   exact h.hs.inj i i' e1 e2 g g' b (hp2 i e1 hi h1) (hp2 i' e2 hi' h2) h3 h4 h5 h6
 .by_cases hi : i=id
  .exact .inr hi
  .rw [if_neg hi] at hg; exact .inl (h.dom i g hg)
 .refine h.after.step (λ b hb=>?_) (λ _ _ _=>rfl) (λ k hk=>?_) os tape output (by rw [hh]; simp) (λ b hb _=>?_) p λ k g b hk hg hb=>?_
  .obtain ⟨c,ty',fz,h1,h2⟩:=h.after.tok b hb
   have : b<w.heap.size:=(QN.1 h1).1;exact ⟨c,ty',fz,by rw [hh,U1,if_neg (by omega)]; exact h1,h2⟩
  .have : k≠id:=by omega
   simp only [this,Us]
  .have:=h.after.size
   rw [hh,U1,if_neg (by omega)]
  .by_cases hi : k=id
   .rw [if_pos hi] at hg
    obtain rfl:=Qf hg;obtain rfl:=Qf hb;exact .inr h.after.size
   .rw [if_neg hi] at hg
    exact h.after.new k g b hk hg hb
theorem Mem.write (h : Mem np T0 M0 w0 live hp T M w) {id id' : Nat} {e0 e : Ent} {g g' : GE} {b : Nat} {cells cells' : Array Value} {ty : TypeId} (he0 : hp id=some e0) (hg : M id=some g) (hb : g.blk=some b)
  (hcells : w.heap[b]? = some (.cells cells ty (0,0))) (hsz : cells'.size=cells.size) (hlow : ∀ o,o<T b->cells'[o]? = cells[o]?)
  (hid : (id'=id/\g'=g)∨(¬ live id'/\np<=id')) (hb' : g'.blk=some b) (hs' : g'.s=e.s) (hez : e.s≠0) (ro : e.ro<=e.rows.length) (wide : ∀ row∈e.rows,row.length=e.s)
  (hT : T b<=g'.base+e.ro*e.s) (fits : g'.base+e.rows.length*e.s<=cells.size)
  (hc : ∀ i j,i<e.rows.length->j<e.s -> ∃ v,cells'[g'.base+i*e.s+j]? = some v/\v.oneCell'=true/\Rep T w M ((e.rows.getD i []).getD j .dead) v)
  {hp' : Nat->Option Ent} (hp1 : hp' id'=some e) (hp2 : ∀ i e',i≠id'->hp' i=some e'->i≠id/\hp i=some e') :
  ∃ M' : GM,M' id'=some g'/\(∀ i g,M i=some g->M' i=some g)/\Mem np T0 M0 w0 (λ i=>live i∨i=id') hp' T M' (w.setRow b cells')/\Pres T w T (w.setRow b cells'):=by
 have hother : ∀ k,k≠b->(w.setRow b cells').heap[k]? = w.heap[k]?:=λ k hk=>setRow_other w b k cells' hk;have hsame:=setRow_heap w b cells cells' ty (0,0) hcells
 have p : Pres T w T (w.setRow b cells'):=by
  refine ⟨λ _=>Ql _,λ k c t f hk=>?_⟩
  by_cases e : k=b
  .subst e
   rw [hcells] at hk
   cases hk;exact ⟨cells',(0,0),hsame,hsz,hlow⟩
  .exact ⟨c,f,by rw [hother k e]; exact hk,rfl,λ _ _=>rfl⟩
 have hMid : id'≠id->M id'=none:=by
  intro hne;rcases hid with ⟨h1,_⟩ | ⟨h1,_⟩
  .exact absurd h1 hne
  .cases hm : M id' with
   | none=>rfl
   | some g=>exact absurd (h.dom id' g hm) h1
 have mm : ∀ i g1,M i=some g1->(λ i=>if i=id' then some g' else M i) i=some g1:=by
  intro i g1 hg1
  by_cases hi : i=id'
  .subst hi
   rcases hid with ⟨rfl,rfl⟩ | ⟨h1,_⟩
   .simp only [UY]; exact hg.symm.trans hg1
   .exact absurd (h.dom i g1 hg1) h1
  .simp only [hi,Us]; exact hg1
 have hblk : ∀ i e' g1 b1,i≠id->hp i=some e'->M i=some g1->g1.blk=some b1->b1≠b:=by
  rintro i e' g1 b1 hi h1 h2 h3 rfl
  exact hi (h.hs.inj i id e' e0 g1 g b1 h1 he0 h2 hg h3 hb)
 refine ⟨λ i=>if i=id' then some g' else M i,by simp,mm,⟨⟨λ i e' he=>?_,λ i i' e1 e2 g1 g2 b1 h1 h2 h3 h4 h5 h6=>?_⟩,λ i g1 hg1=>?_,?_⟩,p⟩
 .by_cases hi : i=id'
  .subst hi
   obtain rfl : e=e':=Qf (hp1.symm.trans he);refine ⟨g',if_pos rfl,hs',ro,λ _=>wide,(λ e=>by rw [hb'] at e; cases e),(λ h=>absurd h hez),λ _ b1 hb1=>?_⟩
   obtain rfl : b=b1:=Qf (hb'.symm.trans hb1);refine ⟨cells',ty,hsame,hT,by rw [hsz]; exact fits,λ i j hi hj=>?_⟩
   obtain ⟨v,hv,ho,hr⟩:=hc i j hi hj;exact ⟨v,hv,ho,hr.mono p mm⟩
  .obtain ⟨hne,he'⟩:=hp2 i e' hi he
   obtain ⟨g1,h1,h2⟩:=h.hs.ent i e' he';refine ⟨g1,by simp only [hi,Us]; exact h1,h2.mono p mm λ b1 hb1=>⟨hother b1 (hblk i e' g1 b1 hne he' h1 hb1),rfl⟩⟩
 .by_cases hi : i=id' <;> by_cases hi' : i'=id'
  .rw [hi,hi']
  .rw [if_pos hi] at h3; rw [if_neg hi'] at h4
   obtain rfl:=Qf h3;obtain rfl:=Qf (hb'.symm.trans h5);obtain ⟨k1,k2⟩:=hp2 i' e2 hi' h2;exact absurd rfl (hblk i' e2 g2 _ k1 k2 h4 h6)
  .rw [if_neg hi] at h3; rw [if_pos hi'] at h4
   obtain rfl:=Qf h4;obtain rfl:=Qf (hb'.symm.trans h6);obtain ⟨k1,k2⟩:=hp2 i e1 hi h1;exact absurd rfl (hblk i e1 g1 _ k1 k2 h3 h5)
  .rw [if_neg hi] at h3; rw [if_neg hi'] at h4
   exact h.hs.inj i i' e1 e2 g1 g2 b1 (hp2 i e1 hi h1).2 (hp2 i' e2 hi' h2).2 h3 h4 h5 h6
 .by_cases hi : i=id'
  .exact .inr hi
  .rw [if_neg hi] at hg1; exact .inl (h.dom i g1 hg1)
 .refine h.after.step (λ k hk=>?_) (λ _ _ _=>rfl) (λ k hk=>?_) rfl rfl rfl (by simp) (λ k hk hn=>?_) p λ k g1 b1 hk hg1 hb1=>?_
  .obtain ⟨c,t,f,h1,h2⟩:=h.after.tok k hk
   obtain ⟨c',f',e1,e2,_⟩:=p.cell k c t f h1;exact ⟨c',t,f',e1,by omega⟩
  .by_cases hi : k=id'
   .subst hi
    rcases hid with ⟨rfl,rfl⟩ | ⟨_,h1⟩
    .simp only [UY]; exact hg.symm
    .omega
   .simp only [hi,Us]
  .refine hother k ?_
   rintro rfl
   rcases h.after.blk hg hb with h1 | h1
   .exact hn h1
   .omega
  .by_cases hi : k=id'
   .rw [if_pos hi] at hg1
    obtain rfl:=Qf hg1;obtain rfl:=Qf (hb'.symm.trans hb1);exact h.after.blk hg hb
   .rw [if_neg hi] at hg1
    exact h.after.new k g1 b1 hk hg1 hb1
end
theorem zak {P : Program} {t : TypeId} {d : TypeDesc} (h : P.underlying t=some d) (w : World) : (underlying t).run P w = .ok d w:=by
 simp [underlying,h]
section
variable {P : Program} {np : Nat} {T0 : Nat->Nat} {M0 : GM} {w0 : World} {live : Nat->Prop} {st : St} {T : Nat->Nat} {M : GM} {a : Act} {w : World} {idb : Nat}
def Eff (P : Program) (np : Nat) (T0 : Nat->Nat) (M0 : GM) (w0 : World) (live : Nat->Prop) (id : Nat) (hp : Nat->Option Ent) (T : Nat->Nat) (M : GM) (w : World) (v : AV) : Result Next->Prop
 | .ok (.value v') w'=>∃ T' M',Mem np T0 M0 w0 (λ i=>live i∨(id<=i/\i<id+8)) hp T' M' w'/\Pres T w T' w'/\(∀ i g,M i=some g->M' i=some g)/\Rep T' w' M' v v'
 | .ok .skip w'=>∃ T' M',Mem np T0 M0 w0 (λ i=>live i∨(id<=i/\i<id+8)) hp T' M' w'/\Pres T w T' w'/\(∀ i g,M i=some g->M' i=some g)/\v = .dead
 | .ok (.enter f args) w1=>w1=w/\Calls P f args w λ e w'=>∃ v' T' M',e = .returned v'/\Mem np T0 M0 w0 (λ i=>live i∨(id<=i/\i<id+8)) hp T' M' w'/\Pres T w T' w' /\
   (∀ i g,M i=some g->M' i=some g)/\Rep T' w' M' v v'
 | _=>False
theorem zay (m : Mem np T0 M0 w0 live st.hp T M w) {v : AV} {v' : Value} (r : Rep T w M v v') {s : Sem Next} (hs : s.run P w = .ok (.value v') w) :
  Eff P np T0 M0 w0 live idb (st.upd []).hp T M w v (s.run P w):=by
 rw [hs];exact ⟨T,M,m.wider λ _ h=>.inl h,Pres.refl _ _,λ _ _ h=>h,r⟩
def Goal (P : Program) (np : Nat) (T0 : Nat->Nat) (M0 : GM) (w0 : World) (live : Nat->Prop) (st : St) (T : Nat->Nat) (M : GM) (a : Act) (w : World) (idb : Nat) (o : Oper) : Prop :=
 ∀ K,aK P np idb (zaz P o).1 ((zaz P o).2.map (·.ev st.get)) st.hp K -> ∃ v rd up,K v rd up/\Eff P np T0 M0 w0 live idb (st.upd up).hp T M w v ((execOp a.eval o).run P w)
variable (tm : ∀ i,Rep T w M (st.get i) (a.tmps.getD i undef)) (m : Mem np T0 M0 w0 live st.hp T M w)
include tm m
theorem zxD (o : Oper) (x : Operand) (h : o.op = .move x∨o.op = .assign x) : Goal P np T0 M0 w0 live st T M a w idb o:=by
 intro K hk;have hc : zaz P o=(.mv,[opd x]):=by rcases h with h | h <;> simp [zaz,h]
 rw [hc] at hk;refine ⟨_,_,_,hk,zay m (zaB tm x) ?_⟩;rcases h with h | h <;> simp [execOp,h]
omit tm m
theorem zaY {T : Nat->Nat} {w : World} {M : GM} {x : AV} {v u : Value} (h : Rep T w M x v) (e : x = .sc u) : v=u:=by
 subst e; cases h; rfl
include tm m
theorem zvc (o : Oper) (c x y : Operand) (h : o.op = .pick c x y) : Goal P np T0 M0 w0 live st T M a w idb o:=by
 intro K hk;have hc : zaz P o=(.pick,[opd c,opd x,opd y]):=by simp [zaz,h]
 rw [hc] at hk;simp only [List.map,aK] at hk;obtain ⟨t,ht,hk⟩:=hk;have hct:=zaY (zaB tm c) ht;refine ⟨_,_,_,hk,zay m (v':=if t then a.eval x else a.eval y) ?_ ?_⟩
 .cases t
  .exact zaB tm y
  .exact zaB tm x
 .simp only [execOp,h,hct]
  cases t <;> simp [asBool]
theorem zwQ (o : Oper) (x : Operand) (h : o.op = .nilCheck x) : Goal P np T0 M0 w0 live st T M a w idb o:=by
 intro K hk;have hc : zaz P o=(.nil,[opd x]):=by simp [zaz,h]
 rw [hc] at hk;simp only [List.map,aK] at hk;obtain ⟨h1,hk⟩:=hk;have hr:=zaB tm x;refine ⟨_,_,_,hk,zay m hr ?_⟩;generalize (opd x).ev st.get=y at *;generalize hv : a.eval x=v at *;simp only [execOp,h,hv]
 cases hr <;> first | exact False.elim h1 | rfl
theorem zw0 (o : Oper) (t : TypeId) (x : Operand) (h : o.op = .makeInterface t x) : Goal P np T0 M0 w0 live st T M a w idb o:=by
 intro K hk
 cases hu : P.underlying t with
 | none =>
   have hc : zaz P o=(.bad,[]):=by simp [zaz,h,hu]
   rw [hc] at hk;exact False.elim hk
 | some td =>
   by_cases hs : ∃ fs,td = .struct fs
   .obtain ⟨fs,rfl⟩:=hs
    have hc : zaz P o=(.mki t,[opd x]):=by simp [zaz,h,hu]
    rw [hc] at hk;refine ⟨_,_,_,hk,zay m (.ifc _ t _ _ (zaB tm x)) ?_⟩;simp [execOp,h,Instr.makeInterface,run_underlying hu]
   .have hc : zaz P o=(.bad,[]):=by
     simp only [zaz,h,hu];split
     .rename_i e; exact absurd ⟨_,Qf e⟩ hs
     .rfl
    rw [hc] at hk;exact False.elim hk
theorem zxn (o : Oper) (x : Operand) (i : Nat) (h : o.op = .extract x i) : Goal P np T0 M0 w0 live st T M a w idb o:=by
 intro K hk;have hc : zaz P o=(.ext i,[opd x]):=by simp [zaz,h]
 rw [hc] at hk;have hr:=zaB tm x;simp only [List.map] at hk;generalize (opd x).ev st.get=y at *;generalize hv : a.eval x=v at *
 cases y <;> simp only [aK] at hk
 rename_i vs;obtain ⟨u,hu,hk⟩:=hk
 cases hr with
 | tup _ _ us hl hh =>
   have hi : i<vs.length:=(Qy.1 hu).1;have h1:=hh i hi;have e1 : vs.getD i .dead=u:=by simp [List.getD,hu]
   rw [e1] at h1;refine ⟨_,_,_,hk,zay m h1 ?_⟩;have hi' : i<us.size:=by omega
   simp [execOp,h,hv,Instr.extract,hi',Array.getD]
theorem zya (o : Oper) (f : FuncId) (first capt : Array Operand) (h : o.op = .makeFunc (.func f) first capt) : Goal P np T0 M0 w0 live st T M a w idb o:=by
 intro K hk
 by_cases hf : first.isEmpty=true
 .have hc : zaz P o=(.mkf f,capt.toList.map opd):=by simp [zaz,h,hf]
  rw [hc] at hk;simp only [List.map_map,aK] at hk;have hf' : first = #[]:=by simpa using hf
  refine ⟨_,_,_,hk,zay m (v':=.func (.func f) #[] (capt.map a.eval)) (.fn _ (.func f) [] _ #[] _ rfl (by simp) (λ i hi=>absurd hi (U4 i)) λ i hi=>?_) ?_⟩
  .simp only [Qt,Ul] at hi
   have e1 : ((capt.toList.map ((λ x=>x.ev st.get)∘opd)).getD i .dead)=(opd capt[i]).ev st.get:=by simp [List.getD,hi]
   have e2 : (capt.map a.eval).getD i undef=a.eval capt[i]:=by simp [Array.getD,hi]
   rw [e1,e2];exact zaB tm _
  .simp [execOp,h,hf',Instr.makeFunc]
 by_cases hg : capt.isEmpty=true
 .have hc : zaz P o=(.mkb f,first.toList.map opd):=by simp [zaz,h,hf,hg]
  rw [hc] at hk;simp only [List.map_map,aK] at hk;have hg' : capt = #[]:=by simpa using hg
  refine ⟨_,_,_,hk,zay m (v':=.func (.func f) (first.map a.eval) #[]) (.fn _ (.func f) _ [] _ #[] (by simp) rfl (λ i hi=>?_) (λ i hi=>absurd hi (U4 i))) ?_⟩
  .simp only [Qt,Ul] at hi
   have e1 : ((first.toList.map ((λ x=>x.ev st.get)∘opd)).getD i .dead)=(opd first[i]).ev st.get:=by simp [List.getD,hi]
   have e2 : (first.map a.eval).getD i undef=a.eval first[i]:=by simp [Array.getD,hi]
   rw [e1,e2];exact zaB tm _
  .simp [execOp,h,hg',Instr.makeFunc]
 .have hc : zaz P o=(.bad,[]):=by simp [zaz,h,hf,hg]
  rw [hc] at hk;exact False.elim hk
theorem zxG (o : Oper) (t : TypeId) (x : Operand) (f : Nat) (h : o.op = .fieldAddr t x f) : Goal P np T0 M0 w0 live st T M a w idb o:=by
 intro K hk;have hr:=zaB tm x;simp only [zaz,h] at hk;split at hk
 case h_2=>exact False.elim hk
 rename_i fs hu;split at hk
 case h_2=>exact False.elim hk
 rename_i fd hfd;split at hk
 case h_2=>exact False.elim hk
 rename_i k hsz;simp only [List.map] at hk
 have hsz' : (sizeOf fd.type).run P w = .ok (k+1) w:=by
  simp only [zbg,Qv] at hsz;obtain ⟨i,hi,hs⟩:=hsz;simp [sizeOf,typeInfo,hi,hs]
 generalize (opd x).ev st.get=y at *;generalize hv : a.eval x=v at *
 have key : ∀ b off,v = .pointer (some ⟨b,off,none⟩)->(execOp a.eval o).run P w = .ok (.value (.pointer (some ⟨b,off+fd.offset,none⟩))) w:=by
  rintro b off rfl
  have hadd : (⟨b,off,none⟩ : Addr).add fd.offset=⟨b,off+fd.offset,none⟩:=by unfold Addr.add; split <;> simp_all
  simp [execOp,h,hv,Instr.fieldAt,zak hu,hfd,Instr.sureAddr,fieldPlace,hsz',hadd]
 cases y <;> simp only [aK] at hk
 .rename_i cs
  obtain ⟨hle,hk⟩:=hk
  cases hr with
  | pv _ _ b off cells ty fz c hb ht hcc h1 hh =>
    refine ⟨_,_,_,hk,zay m (.pv _ _ b (off+fd.offset) cells ty fz (λ j=>c (fd.offset+j)) hb (by simp; omega) (λ j hj=>?_) (λ j hj=>?_) λ j hj=>?_) (key b off rfl)⟩
    .rw [UE]; exact hcc _ (by simp at hj; omega)
    .exact h1 _ (by simp at hj; omega)
    .have:=hh (fd.offset+j) (by simp at hj; omega)
     simpa [List.getD] using this
 .rename_i i k j
  cases hr with
  | pt _ _ _ _ g b hg hz hb =>
    refine ⟨_,_,_,hk,zay m (.pt _ _ _ _ g b hg hz hb) ?_⟩;rw [key b _ rfl,UE (g.base+k*g.s)]
theorem zyT (o : Oper) (op : UnOp) (t : TypeId) (x : Operand) (h : o.op = .unOp op t x) : Goal P np T0 M0 w0 live st T M a w idb o:=by
 intro K hk;have hc : zaz P o=(.un op,[opd x]):=by simp [zaz,h]
 rw [hc] at hk;have hr:=zaB tm x;simp only [List.map] at hk;generalize (opd x).ev st.get=y at *;generalize hv : a.eval x=v at *
 cases y <;> simp only [aK] at hk
 rename_i u;obtain ⟨z,hz,hk⟩:=hk;obtain rfl:=zaY hr rfl
 have hz1 : z.oneCell'=true:=by
  cases v <;> simp only [unV] at hz <;> (try (cases hz; done)) <;> cases op <;> simp at hz <;> subst hz <;> rfl
 refine ⟨_,_,_,hk,zay m (.sc _ _ hz1) ?_⟩;simp only [execOp,h,hv]
 cases v <;> simp only [unV] at hz <;> (try (cases hz; done)) <;> cases op <;> simp at hz <;> subst hz <;> simp [Op.unary,Op.intArith,Op.intBits]
end
section
variable {P : Program} {np : Nat} {T0 : Nat->Nat} {M0 : GM} {w0 : World} {live : Nat->Prop} {st : St} {T : Nat->Nat} {M : GM} {a : Act} {w : World} {idb : Nat}
theorem zuz {op : BinOp} {x y z : Value} (h : binV op x y=some z) : z.oneCell'=true:=by
 cases x <;> cases y <;> simp only [binV] at h <;> (try (cases h; done))
 .cases op <;> simp at h <;> (try (obtain ⟨_,h⟩:=h)) <;> (try subst h) <;> (try rfl) <;> (try (obtain ⟨_,h⟩:=h)) <;> (try subst h) <;> rfl
 .cases op <;> simp at h <;> (try subst h) <;> rfl
theorem zto {op : BinOp} {t : TypeId} {x y z : Value} (h : binV op x y=some z) : (binOp op t x y).run P w = .ok z w:=by
 cases x <;> cases y <;> simp only [binV] at h <;> (try (cases h; done))
 .rename_i k n k' n'
  cases op <;> simp at h <;> (try (obtain ⟨h0,h⟩:=h)) <;> (try (obtain ⟨h0',h⟩:=h)) <;> (try subst h) <;> (try subst h0) <;>
   first
    | (simp [binOp,Op.intArith,Op.intBits,Op.intCmp]; done)
    | (have hn : ¬ (n'<0):=by omega
       simp [binOp,Op.shift,hn]; done)
    | (simp [binOp,Op.intDiv,h0']; done)
 .cases op <;> simp at h <;> (try subst h) <;> simp [binOp,Op.stringOp]
theorem zdD {t : TypeId} {d : TypeDesc} (hu : P.underlying t=some d) (hd : (∃ k,d = .int k)∨d = .bool∨d = .string) {xs : Array Value} {off : Nat} {v : Value} (hx : xs[off]? = some v) : (part t xs off).run P w = .ok v w:=by
 rcases hd with ⟨k,rfl⟩ | rfl | rfl <;> simp [part,isAgg,zak hu,hx]
theorem zfL {xs ys : Array Value} (d : Nat) : ∀ (fs : List Field) (i : Nat) (ks : List Nat) (cs ds : List AV) (b : Bool),zjM P i fs=some ks->eqs ks cs ds=some b ->
  (∀ (j : Nat) v,cs[j]? = some (.sc v)->xs[i+j]? = some v)->(∀ (j : Nat) v,ds[j]? = some (.sc v)->ys[i+j]? = some v)->(Op.eqFields (d+1) xs ys fs).run P w = .ok b w
 | [],i,ks,cs,ds,b,hf,he,hx,hy=>by
   simp only [zjM,Qq] at hf;subst hf
   cases cs <;> cases ds <;> simp [eqs] at he
   subst he;simp [Op.eqFields]
 | f::fs,i,ks,cs,ds,b,hf,he,hx,hy=>by
   simp only [zjM] at hf;split at hf
   case isFalse=>cases hf
   rename_i h0;obtain ⟨hn,ho⟩:=h0
   have tail : ∀ ks' cs' ds' b' c c',zjM P (i+1) fs=some ks'->cs=c::cs'->ds=c'::ds'->eqs ks' cs' ds'=some b'->(Op.eqFields (d+1) xs ys fs).run P w = .ok b' w:=by
    intro ks' cs' ds' b' c c' h1 h2 h3 h4;subst h2 h3;refine zfL d fs (i+1) ks' cs' ds' b' h1 h4 (λ j v hj=>?_) λ j v hj=>?_
    .rw [show i+1+j=i+(j+1) by omega]
     exact hx (j+1) v (by simpa using hj)
    .rw [show i+1+j=i+(j+1) by omega]
     exact hy (j+1) v (by simpa using hj)
   have fin : ∀ (dd : TypeDesc) (u v : Value) (r r' : Bool),P.underlying f.type=some dd->((∃ k,dd = .int k)∨dd = .bool∨dd = .string)->xs[i]? = some u->ys[i]? = some v->(Op.equalIn (d+1) f.type u v).run P w = .ok r w ->
     (Op.eqFields (d+1) xs ys fs).run P w = .ok r' w->(Op.eqFields (d+1) xs ys (f::fs)).run P w = .ok (r && r') w:=by
    intro dd u v r r' h1 h2 h3 h4 h5 h6;simp only [Op.eqFields,ne_eq,hn,not_false_eq_true,UY,Sem.run_bind,zdD h1 h2 (ho ▸ h3),zdD h1 h2 (ho ▸ h4),Result.andThen_ok,h5]
    cases r
    .simp
    .simpa using h6
   split at hf
   .rename_i k ks' hu hks
    obtain rfl:=Qf hf;unfold eqs at he;split at he <;> (try (cases he; done))
    .rename_i h; cases h
    .rename_i ki n1 cs' ki' n2 ds' e
     cases e;split at he
     case isFalse=>cases he
     rename_i hk;subst hk;simp only [Qv] at he;obtain ⟨r,hr,rfl⟩:=he;exact fin _ _ _ _ _ hu (.inl ⟨_,rfl⟩) (hx 0 _ rfl) (hy 0 _ rfl) (by simp [Op.equalIn,zak hu]) (tail _ _ _ _ _ _ hks rfl rfl hr)
    all_goals (rename_i h; cases h)
   .rename_i ks' hu hks
    obtain rfl:=Qf hf;unfold eqs at he;split at he <;> (try (cases he; done))
    .rename_i h; cases h
    .rename_i h; cases h
    .rename_i b1 cs' b2 ds' e
     cases e;simp only [Qv] at he;obtain ⟨r,hr,rfl⟩:=he;exact fin _ _ _ _ _ hu (.inr (.inl rfl)) (hx 0 _ rfl) (hy 0 _ rfl) (by simp [Op.equalIn,zak hu]) (tail _ _ _ _ _ _ hks rfl rfl hr)
    .rename_i h; cases h
   .rename_i ks' hu hks
    obtain rfl:=Qf hf;unfold eqs at he;split at he <;> (try (cases he; done))
    .rename_i h; cases h
    .rename_i h; cases h
    .rename_i h; cases h
    .rename_i b1 cs' b2 ds' e
     cases e;simp only [Qv] at he;obtain ⟨r,hr,rfl⟩:=he;exact fin _ _ _ _ _ hu (.inr (.inr rfl)) (hx 0 _ rfl) (hy 0 _ rfl) (by simp [Op.equalIn,zak hu,beq_toListBytes]) (tail _ _ _ _ _ _ hks rfl rfl hr)
   .cases hf
def eq1 : Nat->Value->Value->Option Bool
 | 0,.int k a,.int k' b=>if k=k' then some (a == b) else none
 | 1,.bool a,.bool b=>some (a == b)
 | 2,.string a,.string b=>some (a.toList == b.toList)
 | _,_,_=>none
theorem zo9 {k : Nat} {ks : List Nat} {cs ds : List AV} {b : Bool} (h : eqs (k::ks) cs ds=some b) : ∃ u v cs' ds' b1 b2,cs = .sc u::cs'/\ds = .sc v::ds'/\eq1 k u v=some b1/\eqs ks cs' ds'=some b2/\b=(b1 && b2):=by
 unfold eqs at h;split at h <;> (try (cases h; done))
 .rename_i e; cases e
 .rename_i k1 x cs' k2 y ds' e
  cases e;split at h
  case isFalse=>cases h
  rename_i hk;simp only [Qv] at h;obtain ⟨r,hr,rfl⟩:=h;exact ⟨_,_,cs',ds',_,r,rfl,rfl,by simp only [eq1]; rw [if_pos hk],hr,rfl⟩
 .rename_i x cs' y ds' e
  cases e;simp only [Qv] at h;obtain ⟨r,hr,rfl⟩:=h;exact ⟨_,_,cs',ds',_,r,rfl,rfl,rfl,hr,rfl⟩
 .rename_i x cs' y ds' e
  cases e;simp only [Qv] at h;obtain ⟨r,hr,rfl⟩:=h;exact ⟨_,_,cs',ds',_,r,rfl,rfl,rfl,hr,rfl⟩
theorem zeC : ∀ (ks ls : List Nat) (cs ds : List AV) (b : Bool),eqs (ks++ls) cs ds=some b -> ∃ b1 b2,eqs ks (cs.take ks.length) (ds.take ks.length)=some b1/\eqs ls (cs.drop ks.length) (ds.drop ks.length)=some b2/\b=(b1 && b2)
 | [],ls,cs,ds,b,h=>⟨true,b,by simp [eqs],by simpa using h,by simp⟩
 | k::ks,ls,cs,ds,b,h=>by
   rw [QO] at h;unfold eqs at h;split at h <;> (try (cases h; done))
   .rename_i e; cases e
   .rename_i k1 x cs' k2 y ds' e
    cases e;split at h
    case isFalse=>cases h
    rename_i hk;subst hk;simp only [Qv] at h;obtain ⟨r,hr,rfl⟩:=h;obtain ⟨b1,b2,h1,h2,rfl⟩:=zeC ks ls _ _ _ hr;exact ⟨(x == y) && b1,b2,by simp [eqs,h1],by simpa using h2,by simp [Bool.and_assoc]⟩
   .rename_i x cs' y ds' e
    cases e;simp only [Qv] at h;obtain ⟨r,hr,rfl⟩:=h;obtain ⟨b1,b2,h1,h2,rfl⟩:=zeC ks ls _ _ _ hr;exact ⟨(x == y) && b1,b2,by simp [eqs,h1],by simpa using h2,by simp [Bool.and_assoc]⟩
   .rename_i x cs' y ds' e
    cases e;simp only [Qv] at h;obtain ⟨r,hr,rfl⟩:=h;obtain ⟨b1,b2,h1,h2,rfl⟩:=zeC ks ls _ _ _ hr;exact ⟨(x.toList == y.toList) && b1,b2,by simp [eqs,h1],by simpa using h2,by simp [Bool.and_assoc]⟩
theorem ziT {t : TypeId} {gs : Array Field} (hu : P.underlying t=some (.struct gs)) {n : Nat} (hn : zbg P t=some n) {xs : Array Value} {off : Nat} : (part t xs off).run P w = .ok (.agg (xs.extract off (off+n))) w:=by
 simp only [zbg,Qv] at hn;obtain ⟨i,hi,rfl⟩:=hn;simp [part,isAgg,zak hu,sizeOf,typeInfo,hi]
def zi6 (cs : List AV) (xs : Array Value) (i : Nat) : Prop:=∀ (j : Nat) v,cs[j]? = some (.sc v)->xs[i+j]? = some v
theorem zi6.drop {cs : List AV} {xs : Array Value} {i : Nat} (h : zi6 cs xs i) (n : Nat) : zi6 (cs.drop n) xs (i+n):=λ j v hj=>by
 rw [Q8] at hj;have:=h (n+j) v hj;rw [show i+n+j=i+(n+j) by omega]
 exact this
theorem zi6.take {cs : List AV} {xs : Array Value} {i : Nat} (h : zi6 cs xs i) (n : Nat) : zi6 (cs.take n) (xs.extract i (i+n)) 0:=λ j v hj=>by
 have hl:=(Qy.1 hj).1;simp only [QW] at hl;rw [List.getElem?_take_of_lt (by omega)] at hj
 have h1:=h j v hj;have h2:=(QN.1 h1).1;rw [Array.getElem?_extract];simp only [Q0];rw [if_pos (by omega)]
 exact h1
theorem zg2 {xs ys : Array Value} {e : TypeId} (hu : P.underlying e=some .bool) (d : Nat) : ∀ (m i : Nat) (cs ds : List AV) (b : Bool),eqs (List.replicate m 1) cs ds=some b ->
  zi6 cs xs i->zi6 ds ys i->(Op.eqItems (d+1) e 1 xs ys (List.range' i m)).run P w = .ok b w
 | 0,i,cs,ds,b,h,hx,hy=>by
   cases cs <;> cases ds <;> simp [eqs] at h
   subst h;simp [Op.eqItems]
 | m+1,i,cs,ds,b,h,hx,hy=>by
   rw [List.replicate_succ] at h;obtain ⟨u,v,cs',ds',b1,b2,rfl,rfl,h1,h2,rfl⟩:=zo9 h;have ih:=zg2 hu d m (i+1) cs' ds' b2 h2 (hx.drop 1) (hy.drop 1);have p1 : (part e xs (i*1)).run P w = .ok u w:=zdD hu (.inr (.inl rfl)) (by rw [Nat.mul_one]; exact hx 0 u rfl)
   have p2 : (part e ys (i*1)).run P w = .ok v w:=zdD hu (.inr (.inl rfl)) (by rw [Nat.mul_one]; exact hy 0 v rfl)
   have p3 : (Op.equalIn (d+1) e u v).run P w = .ok b1 w:=by
    unfold eq1 at h1;split at h1 <;> (try (cases h1; done))
    .rename_i e; cases e
    .cases h1
     simp [Op.equalIn,zak hu]
    .rename_i e; cases e
   rw [List.range'_succ];simp only [Op.eqItems,Sem.run_bind,p1,p2,p3,Result.andThen_ok]
   cases b1
   .simp
   .simpa using ih
theorem zdY {xs ys : Array Value} (d : Nat) : ∀ (fs : List Field) (i : Nat) (ks : List Nat) (cs ds : List AV) (b : Bool),zfv P i fs=some ks->eqs ks cs ds=some b ->
  zi6 cs xs i->zi6 ds ys i->(Op.eqFields (d+2) xs ys fs).run P w = .ok b w
 | [],i,ks,cs,ds,b,hf,he,hx,hy=>by
   simp only [zfv,Qq] at hf;subst hf
   cases cs <;> cases ds <;> simp [eqs] at he
   subst he;simp [Op.eqFields]
 | f::fs,i,ks,cs,ds,b,hf,he,hx,hy=>by
   simp only [zfv] at hf;split at hf
   case isFalse=>cases hf
   rename_i h0;obtain ⟨hn,ho⟩:=h0
   have step : ∀ (u v : Value) (r r' : Bool),(part f.type xs f.offset).run P w = .ok u w->(part f.type ys f.offset).run P w = .ok v w->(Op.equalIn (d+2) f.type u v).run P w = .ok r w ->
     (Op.eqFields (d+2) xs ys fs).run P w = .ok r' w->(Op.eqFields (d+2) xs ys (f::fs)).run P w = .ok (r && r') w:=by
    intro u v r r' h1 h2 h3 h4;simp only [Op.eqFields,ne_eq,hn,not_false_eq_true,UY,Sem.run_bind,h1,h2,Result.andThen_ok,h3]
    cases r
    .simp
    .simpa using h4
   have one : ∀ (k : Nat) (ks' : List Nat) (dd : TypeDesc),P.underlying f.type=some dd->((∃ k,dd = .int k)∨dd = .bool∨dd = .string)->zfv P (i+1) fs=some ks'->ks=k::ks' ->
     (∀ (u v : Value) (r : Bool),eq1 k u v=some r->(Op.equalIn (d+2) f.type u v).run P w = .ok r w)->(Op.eqFields (d+2) xs ys (f::fs)).run P w = .ok b w:=by
    intro k ks' dd hu hdd hks hk heq;subst hk;obtain ⟨u,v,cs',ds',b1,b2,rfl,rfl,h1,h2,rfl⟩:=zo9 he;exact step u v b1 b2 (zdD hu hdd (ho ▸ hx 0 u rfl)) (zdD hu hdd (ho ▸ hy 0 v rfl)) (heq u v b1 h1) (zdY d fs (i+1) ks' _ _ b2 hks h2 (hx.drop 1) (hy.drop 1))
   split at hf
   .rename_i k hu
    simp only [Qv] at hf;obtain ⟨ks',hks,rfl⟩:=hf;refine one 0 ks' _ hu (.inl ⟨_,rfl⟩) hks rfl λ u v r hr=>?_;unfold eq1 at hr;split at hr <;> (try (cases hr; done))
    .split at hr
     case isFalse=>cases hr
     rename_i hk;subst hk
     cases hr;simp [Op.equalIn,zak hu]
    all_goals (rename_i e; cases e)
   .rename_i hu
    simp only [Qv] at hf;obtain ⟨ks',hks,rfl⟩:=hf;refine one 1 ks' _ hu (.inr (.inl rfl)) hks rfl λ u v r hr=>?_;unfold eq1 at hr;split at hr <;> (try (cases hr; done))
    .rename_i e; cases e
    .cases hr
     simp [Op.equalIn,zak hu]
    .rename_i e; cases e
   .rename_i hu
    simp only [Qv] at hf;obtain ⟨ks',hks,rfl⟩:=hf;refine one 2 ks' _ hu (.inr (.inr rfl)) hks rfl λ u v r hr=>?_;unfold eq1 at hr;split at hr <;> (try (cases hr; done))
    .rename_i e; cases e
    .rename_i e; cases e
    .cases hr
     simp [Op.equalIn,zak hu,beq_toListBytes]
   .rename_i gs hu
    split at hf
    case h_2=>cases hf
    rename_i ks1 n hk1 hsz;split at hf
    case isFalse=>cases hf
    rename_i hc;obtain ⟨hst,hnl⟩:=hc;simp only [Qv] at hf;obtain ⟨ks',hks,rfl⟩:=hf;obtain ⟨b1,b2,h1,h2,rfl⟩:=zeC ks1 ks' cs ds b he;rw [<- hnl] at h1 h2;have hfo : P.fieldsOf f.type=gs:=by simp [Program.fieldsOf,hu]
    have heq : (Op.equalIn (d+2) f.type (.agg (xs.extract i (i+n))) (.agg (ys.extract i (i+n)))).run P w = .ok b1 w:=by
     rw [run_equalIn_struct w (d+1) f.type _ _ (by rw [hfo]; exact hu) hst,hfo]
     exact zfL d gs.toList 0 ks1 _ _ b1 hk1 h1 (hx.take n) (hy.take n)
    exact step _ _ b1 b2 (by rw [ho]; exact ziT hu hsz) (by rw [ho]; exact ziT hu hsz) heq (zdY d fs (i+n) ks' _ _ b2 hks h2 (hx.drop n) (hy.drop n))
   .cases hf
theorem ze1 {op : BinOp} {t : TypeId} {X Y : Operand} {x y : Value} (hx : ∀ c,x ≠ .agg c) (hx' : x ≠ .nilIface) : (eqGuard op t X Y x y).run P w = .ok () w:=by
 unfold eqGuard
 cases op <;> simp <;> (cases x <;> first | exact absurd rfl (hx _) | exact absurd rfl hx' | (cases y <;> rfl))
variable (tm : ∀ i,Rep T w M (st.get i) (a.tmps.getD i undef)) (m : Mem np T0 M0 w0 live st.hp T M w)
include tm m
theorem zxA (o : Oper) (op : BinOp) (t u : TypeId) (x y : Operand) (h : o.op = .binOp op t x y u) : Goal P np T0 M0 w0 live st T M a w idb o:=by
 intro K hk;have hr:=zaB tm x;have hr':=zaB tm y;simp only [zaz,h] at hk;generalize hv : a.eval x=v at *;generalize hv' : a.eval y=v' at *
 have plain : ∀ K,aK P np idb (.bin op) ([opd x,opd y].map (·.ev st.get)) st.hp K -> ∃ v rd up,K v rd up/\Eff P np T0 M0 w0 live idb (st.upd up).hp T M w v ((execOp a.eval o).run P w):=by
  intro K hk;simp only [List.map] at hk;generalize (opd x).ev st.get=X at *;generalize (opd y).ev st.get=Y at *
  cases X <;> cases Y <;> simp only [aK] at hk
  obtain ⟨z,hz,hk⟩:=hk;obtain rfl:=zaY hr rfl;obtain rfl:=zaY hr' rfl;refine ⟨_,_,_,hk,zay m (.sc _ _ (zuz hz)) ?_⟩;have hg : (eqGuard op t x y v v').run P w = .ok () w:=ze1 (by rintro c rfl; simp [binV] at hz) (by rintro rfl; simp [binV] at hz)
  simp only [execOp,h,hv,hv'];simp [hg,zto hz]
 have bool : ∀ (neg : Bool),P.underlying t=some .bool->op=(if neg then .neq else .eql) -> ∀ K,aK P np idb (.beq neg) ([opd x,opd y].map (·.ev st.get)) st.hp K ->
   ∃ v rd up,K v rd up/\Eff P np T0 M0 w0 live idb (st.upd up).hp T M w v ((execOp a.eval o).run P w):=by
  intro neg hu hop K hk;simp only [List.map] at hk;generalize (opd x).ev st.get=X at *;generalize (opd y).ev st.get=Y at *
  cases X <;> cases Y <;> (try (simp only [aK] at hk; done))
  rename_i p q
  cases p <;> (try (simp only [aK] at hk; done))
  cases q <;> simp only [aK] at hk
  rename_i p q;obtain rfl:=zaY hr rfl;obtain rfl:=zaY hr' rfl;refine ⟨_,_,_,hk,zay m (.sc _ _ rfl) ?_⟩;have hg : (eqGuard op t x y (.bool p) (.bool q)).run P w = .ok () w:=ze1 (by simp) (by simp)
  simp only [execOp,h,hv,hv']
  have he : (Op.equal t (.bool p) (.bool q)).run P w = .ok (p == q) w:=by
   have : ∀ d,(Op.equalIn (d+1) t (.bool p) (.bool q)).run P w = .ok (p == q) w:=by
    intro d;simp [Op.equalIn,zak hu]
   exact this 9999
  cases neg <;> simp at hop <;> subst hop <;> simp [hg,binOp,he]
 have struct : ∀ (neg : Bool) (fs : Array Field),P.underlying t=some (.struct fs)->op=(if neg then .neq else .eql) -> ∀ ks,zta P t fs.toList=some ks -> ∀ K,aK P np idb (.aeq neg ks) ([opd x,opd y].map (·.ev st.get)) st.hp K ->
   ∃ v rd up,K v rd up/\Eff P np T0 M0 w0 live idb (st.upd up).hp T M w v ((execOp a.eval o).run P w):=by
  intro neg fs hu hop ks hks K hk;simp only [List.map] at hk;generalize (opd x).ev st.get=X at *;generalize (opd y).ev st.get=Y at *
  cases X <;> cases Y <;> (try (simp only [aK] at hk; done))
  rename_i cs ds;simp only [aK] at hk;obtain ⟨b,hb,hk⟩:=hk
  cases hr with | agg _ _ vs hl1 ho1 hr1 =>
  cases hr' with | agg _ _ us hl2 ho2 hr2 =>
  refine ⟨_,_,_,hk,zay m (.sc _ _ rfl) ?_⟩;unfold zta at hks;split at hks
  case isFalse=>cases hks
  rename_i hpg;obtain ⟨hp,hgt⟩:=hpg;have hfo : P.fieldsOf t=fs:=by simp [Program.fieldsOf,hu]
  have look : ∀ (zs : List AV) (ws : Array Value),ws.size=zs.length->(∀ i,i<zs.length->Rep T w M (zs.getD i .dead) (ws.getD i undef)) -> ∀ (j : Nat) v,zs[j]? = some (.sc v)->ws[0+j]? = some v:=by
   intro zs ws hl hz j v hj;obtain ⟨hlt,hj⟩:=Qy.1 hj;have h1:=hz j hlt;have e1 : zs.getD j .dead = .sc v:=by simp [List.getD,hlt,hj]
   rw [e1] at h1;have h2 : ws.getD j undef=ws[j]'(by omega):=by simp [QD,show j<ws.size by omega]
   rw [h2] at h1
   cases h1;simp [show j<ws.size by omega]
  have he : (Op.equalIn 10000 t (.agg vs) (.agg us)).run P w = .ok b w:=by
   rw [run_equalIn_struct w 9999 t vs us (by rw [hfo]; exact hu) hp,hfo]
   exact zdY 9997 fs.toList 0 ks cs ds b hks hb (look cs vs hl1 hr1) (look ds us hl2 hr2)
  have hg : (eqGuard op t x y (.agg vs) (.agg us)).run P w = .ok () w:=run_eqGuard_agg w op t x y vs us hgt;simp only [execOp,h,hv,hv']
  cases neg <;> simp at hop <;> subst hop <;> simp [hg,run_eql_struct,run_neq_struct,he,Result.andThen]
 have arr : ∀ (neg : Bool) (n : Nat) (e : TypeId),P.underlying t=some (.array n e)->op=(if neg then .neq else .eql) -> ∀ ks,ztT P t e n=some ks -> ∀ K,aK P np idb (.aeq neg ks) ([opd x,opd y].map (·.ev st.get)) st.hp K ->
   ∃ v rd up,K v rd up/\Eff P np T0 M0 w0 live idb (st.upd up).hp T M w v ((execOp a.eval o).run P w):=by
  intro neg n e hu hop ks hks K hk;simp only [List.map] at hk;generalize (opd x).ev st.get=X at *;generalize (opd y).ev st.get=Y at *
  cases X <;> cases Y <;> (try (simp only [aK] at hk; done))
  rename_i cs ds;simp only [aK] at hk;obtain ⟨b,hb,hk⟩:=hk
  cases hr with | agg _ _ vs hl1 ho1 hr1 =>
  cases hr' with | agg _ _ us hl2 ho2 hr2 =>
  refine ⟨_,_,_,hk,zay m (.sc _ _ rfl) ?_⟩;unfold ztT at hks;split at hks
  case h_2=>cases hks
  rename_i hue;split at hks
  case isFalse=>cases hks
  rename_i hpg;obtain ⟨hgt,hie,hce⟩:=hpg
  cases hks;obtain ⟨ti,hti⟩:=Option.isSome_iff_exists.1 hie
  have look : ∀ (zs : List AV) (ws : Array Value),ws.size=zs.length->(∀ i,i<zs.length->Rep T w M (zs.getD i .dead) (ws.getD i undef)) -> ∀ (j : Nat) v,zs[j]? = some (.sc v)->ws[0+j]? = some v:=by
   intro zs ws hl hz j v hj;obtain ⟨hlt,hj⟩:=Qy.1 hj;have h1:=hz j hlt;have e1 : zs.getD j .dead = .sc v:=by simp [List.getD,hlt,hj]
   rw [e1] at h1;have h2 : ws.getD j undef=ws[j]'(by omega):=by simp [QD,show j<ws.size by omega]
   rw [h2] at h1
   cases h1;simp [show j<ws.size by omega]
  have he : (Op.equalIn 10000 t (.agg vs) (.agg us)).run P w = .ok b w:=by
   rw [run_equalIn_array w 9999 vs us hu hti,hce,List.range_eq_range'];exact zg2 hue 9998 n 0 cs ds b hb (look cs vs hl1 hr1) (look ds us hl2 hr2)
  have hg : (eqGuard op t x y (.agg vs) (.agg us)).run P w = .ok () w:=run_eqGuard_agg w op t x y vs us hgt;simp only [execOp,h,hv,hv']
  cases neg <;> simp at hop <;> subst hop <;> simp [hg,run_eql_struct,run_neq_struct,he,Result.andThen]
 have slice : ∀ (neg : Bool) (e : TypeId),P.underlying t=some (.slice e)->op=(if neg then .neq else .eql)->zpy y=true -> ∀ K,aK P np idb (.snil neg) ([opd x].map (·.ev st.get)) st.hp K ->
   ∃ v rd up,K v rd up/\Eff P np T0 M0 w0 live idb (st.upd up).hp T M w v ((execOp a.eval o).run P w):=by
  intro neg e hu hop hy K hk
  have hyv : v' = .slice none 0 0:=by
   unfold zpy at hy;split at hy
   .rw [<- hv']; rfl
   .cases hy
  subst hyv;simp only [List.map] at hk;generalize (opd x).ev st.get=X at *
  have fin : ∀ (ad : Option Addr) (l c : Nat),v = .slice ad l c->(execOp a.eval o).run P w = .ok (.value (.bool (ad.isNone != neg))) w:=by
   rintro ad l c rfl
   have he : (Op.equal t (.slice ad l c) (.slice none 0 0)).run P w = .ok ad.isNone w:=run_equal_slice_nil w t e ad l c hu;have hg : (eqGuard op t x y (.slice ad l c) (.slice none 0 0)).run P w = .ok () w:=ze1 (by simp) (by simp)
   simp only [execOp,h,hv,hv']
   cases neg <;> simp at hop <;> subst hop <;> simp [hg,binOp,he]
  cases X <;> (try (simp only [aK] at hk; done))
  .rename_i u
   cases u <;> simp only [aK] at hk
   obtain rfl:=zaY hr rfl;exact ⟨_,_,_,hk,zay m (.sc _ _ rfl) (fin _ _ _ rfl)⟩
  .rename_i sz full rows
   cases rows with
   | nil=>simp only [aK] at hk
   | cons row rows =>
     simp only [aK] at hk
     cases hr with | vs _ _ _ _ ad cap c hf hl hw hb ho hr1 =>
     obtain ⟨b,off,cells,ty,fz,rfl,_⟩:=hb (List.cons_ne_nil _ _);refine ⟨_,_,_,hk,zay m (.sc _ _ rfl) ?_⟩;rw [fin _ _ _ rfl]
     cases neg <;> rfl
 split at hk
 .rename_i hu; exact bool false hu rfl K hk
 .rename_i hu; exact bool true hu rfl K hk
 .rename_i fs hu
  split at hk
  .rename_i ks hks; exact struct false fs hu rfl ks hks K hk
  .exact hk.elim
 .rename_i fs hu
  split at hk
  .rename_i ks hks; exact struct true fs hu rfl ks hks K hk
  .exact hk.elim
 .rename_i n e hu
  split at hk
  .rename_i ks hks; exact arr false n e hu rfl ks hks K hk
  .exact hk.elim
 .rename_i n e hu
  split at hk
  .rename_i ks hks; exact arr true n e hu rfl ks hks K hk
  .exact hk.elim
 .rename_i e hu
  split at hk
  .rename_i hy; exact slice false e hu rfl hy K hk
  .exact hk.elim
 .rename_i e hu
  split at hk
  .rename_i hy; exact slice true e hu rfl hy K hk
  .exact hk.elim
 .exact plain K hk
theorem zwH (o : Oper) (t u : TypeId) (x : Operand) (h : o.op = .convert t u x) (k k' : IntKind) (h1 : P.underlying t=some (.int k)) (h2 : P.underlying u=some (.int k')) : Goal P np T0 M0 w0 live st T M a w idb o:=by
 intro K hk;have hr:=zaB tm x;simp only [zaz,h,h1,h2,List.map] at hk;generalize hv : a.eval x=v at *;generalize (opd x).ev st.get=X at *
 cases X <;> (try (simp only [aK] at hk; done))
 rename_i u
 cases u <;> simp only [aK] at hk
 obtain rfl:=zaY hr rfl;refine ⟨_,_,_,hk,zay m (.sc _ _ rfl) ?_⟩;simp [execOp,h,hv,convert,zak h1,zak h2,Conv.intToInt]
end
section
variable {P : Program} {np : Nat} {T0 : Nat->Nat} {M0 : GM} {w0 : World} {live : Nat->Prop} {st : St} {T : Nat->Nat} {M : GM} {a : Act} {w : World} {idb : Nat}
theorem zna {X : AV} {v : Value} {n : Nat} (hr : Rep T w M X v) (hn : lenOf X=some n) : ∃ b cp,v = .slice b n cp:=by
 cases hr with
 | sc _ _ h1 =>
   unfold lenOf at hn;split at hn <;> (try (cases hn; done))
   .rename_i e; cases e
   .rename_i e; cases e
   .rename_i e; cases e
   .rename_i e; cases e; cases hn; exact ⟨_,_,rfl⟩
 | vs=>simp only [lenOf,Qq] at hn; subst hn; exact ⟨_,_,rfl⟩
 | rs=>simp only [lenOf,Qq] at hn; subst hn; exact ⟨_,_,rfl⟩
 | rk=>simp only [lenOf,Qq] at hn; subst hn; exact ⟨_,_,rfl⟩
 | _=>simp [lenOf] at hn
theorem Addr.add_none (b o n : Nat) : (⟨b,o,none⟩ : Addr).add n=⟨b,o+n,none⟩:=by unfold Addr.add; split <;> simp_all
variable (tm : ∀ i,Rep T w M (st.get i) (a.tmps.getD i undef)) (m : Mem np T0 M0 w0 live st.hp T M w)
include tm m
theorem zxN (o : Oper) (c : Call) (h : o.op = .call c) (hb : c.callee = .builtin .len) (t : TypeId) (x : Operand) (ht : c.argTypes.toList=[t]) (hx : c.args.toList=[x]) : Goal P np T0 M0 w0 live st T M a w idb o:=by
 intro K hk;have hr:=zaB tm x;have ht' : c.argTypes = #[t]:=by rw [<- QP (xs:=c.argTypes),ht]
 have hx' : c.args = #[x]:=by rw [<- QP (xs:=c.args),hx]
 simp only [zaz,h,hb,ht,hx] at hk;split at hk
 case h_3=>exact False.elim hk
 .rename_i s hu
  simp only [List.map] at hk;generalize hv : a.eval x=v at *;generalize (opd x).ev st.get=X at *;simp only [aK] at hk;obtain ⟨n,hn,hk⟩:=hk;obtain ⟨b,cp,rfl⟩:=zna hr hn;refine ⟨_,_,_,hk,zay m (.sc _ _ rfl) ?_⟩;simp [execOp,h,resolve,hb,invoke,builtin,Builtin.len_,ht',hx',hv,zak hu,goInt]
 .rename_i hu
  simp only [List.map] at hk;generalize hv : a.eval x=v at *;generalize (opd x).ev st.get=X at *
  cases X <;> (try (simp only [aK] at hk; done))
  rename_i u
  cases u <;> simp only [aK] at hk
  obtain rfl:=zaY hr rfl;refine ⟨_,_,_,hk,zay m (.sc _ _ rfl) ?_⟩;simp [execOp,h,resolve,hb,invoke,builtin,Builtin.len_,ht',hx',hv,zak hu,goInt]
theorem zxu (o : Oper) (c : Call) (h : o.op = .call c) (mx : Bool) (hb : c.callee = .builtin (if mx then .max else .min)) : Goal P np T0 M0 w0 live st T M a w idb o:=by
 intro K hk
 have two : ∀ x y,c.args.toList=[x,y] -> ∀ K,aK P np idb (if mx then .mx2 else .mn2) ([opd x,opd y].map (·.ev st.get)) st.hp K -> ∃ v rd up,K v rd up/\Eff P np T0 M0 w0 live idb (st.upd up).hp T M w v ((execOp a.eval o).run P w):=by
  intro x y hx K hk;have hx' : c.args = #[x,y]:=by rw [<- QP (xs:=c.args),hx]
  have hr:=zaB tm x;have hr':=zaB tm y;simp only [List.map] at hk;generalize hv : a.eval x=v at *;generalize (opd x).ev st.get=X at *;generalize hv' : a.eval y=v' at *;generalize (opd y).ev st.get=Y at *
  cases mx <;> simp only [Ub,Us,UY] at hk hb
  all_goals
   cases X <;> cases Y <;> (try (simp only [aK] at hk; done))
   rename_i p q
   cases p <;> (try (simp only [aK] at hk; done))
   cases q <;> simp only [aK] at hk
   obtain rfl:=zaY hr rfl;obtain rfl:=zaY hr' rfl;refine ⟨_,_,_,hk,zay m (.sc _ _ rfl) ?_⟩
  .simp [execOp,h,resolve,hb,invoke,builtin,Builtin.min_,Builtin.min2,hx',hv,hv']
  .simp [execOp,h,resolve,hb,invoke,builtin,Builtin.max_,Builtin.max2,hx',hv,hv']
 cases mx
 all_goals
  simp only [Ub,Us,UY] at hb;simp only [zaz,h,hb] at hk;split at hk
  case h_2=>exact False.elim hk
  rename_i x y hx;exact two x y hx K hk
theorem zt9 (o : Oper) (t : TypeId) (x : Operand) (f : Nat) (h : o.op = .field t x f) : Goal P np T0 M0 w0 live st T M a w idb o:=by
 intro K hk;have hr:=zaB tm x;simp only [zaz,h] at hk;split at hk
 case h_2=>exact False.elim hk
 rename_i fs hu;split at hk
 case h_2=>exact False.elim hk
 rename_i fd hfd;split at hk
 case h_2=>exact False.elim hk
 rename_i ag s hag hsz;split at hk
 case isFalse=>exact False.elim hk
 rename_i hs1;simp only [List.map] at hk
 have hsz' : (sizeOf fd.type).run P w = .ok s w:=by
  simp only [zbg,Qv] at hsz;obtain ⟨i,hi,hs⟩:=hsz;simp [sizeOf,typeInfo,hi,hs]
 have hag' : (isAgg fd.type).run P w = .ok ag w:=by
  unfold aggC at hag;split at hag <;> (try (cases hag; done))
  .rename_i e; cases hag; simp [isAgg,zak e]
  .rename_i e; cases hag; simp [isAgg,zak e]
  .rename_i d e n1 n2
   cases hag;simp only [isAgg,Sem.run_bind,zak n2];simp
 generalize hv : a.eval x=v at *;generalize (opd x).ev st.get=X at *
 cases X <;> simp only [aK] at hk
 rename_i cs;obtain ⟨hle,hk⟩:=hk
 cases hr with
 | agg _ _ us hl h1 hh =>
   have hruns : ∀ v',(part fd.type us fd.offset).run P w = .ok v' w->(execOp a.eval o).run P w = .ok (.value v') w:=by
    intro v' hp;simp [execOp,h,hv,Instr.field,zak hu,hfd,asAgg,hp]
   cases ag with
   | true =>
     refine ⟨_,_,_,hk,zay m (v':=.agg (us.extract fd.offset (fd.offset+s))) ?_ (hruns _ ?_)⟩
     .refine .agg _ _ _ (by simp; omega) (λ i hi=>?_) λ i hi=>?_
      .simp at hi
       have e : (us.extract fd.offset (fd.offset+s)).getD i undef=us.getD (fd.offset+i) undef:=by
        simp only [QD,Array.getElem?_extract];rw [if_pos (by omega)]
       rw [e];exact h1 _ (by omega)
      .simp at hi
       have e : (us.extract fd.offset (fd.offset+s)).getD i undef=us.getD (fd.offset+i) undef:=by
        simp only [QD,Array.getElem?_extract];rw [if_pos (by omega)]
       have e2 : ((cs.drop fd.offset).take s).getD i .dead=cs.getD (fd.offset+i) .dead:=by
        simp only [List.getD,Ud,Q8];rw [if_pos (by omega)]
       rw [e,e2];exact hh _ (by omega)
     .simp [part,hag',hsz']
   | false =>
     obtain rfl : s=1:=by simpa using hs1
     refine ⟨_,_,_,hk,zay m (hh fd.offset (by omega)) (hruns _ ?_)⟩
     have hi : fd.offset<us.size:=by omega
     simp [part,hag',hi,Array.getD]
omit tm in
theorem zik {X : AV} {v : Value} {cs : List AV} (hr : Rep T w M X v) (hc : zcn st.hp X=some cs) :
  ∃ b off,v = .pointer (some ⟨b,off,none⟩) /\ ∃ c : Nat->Value,∀ j,j<cs.length->w.cell? ⟨b,off+j,none⟩=some (c j)/\(c j).oneCell'=true/\Rep T w M (cs.getD j .dead) (c j):=by
 cases hr with
 | pv _ ys b off cells ty fz c hb ht hcc h1 hh =>
   simp only [zcn,Qq] at hc;subst hc;refine ⟨b,off,rfl,c,λ j hj=>⟨?_,h1 j hj,(hh j hj).mono (Pres.refl _ _) (λ _ _ e=>by cases e)⟩⟩
   simp [World.cell?,hb,hcc j hj]
 | pt _ i k j g b hg hz hb =>
   simp only [zcn,Uo,Qv] at hc;obtain ⟨e,he,row,hrow,rfl⟩:=hc;obtain ⟨g',hg',ent⟩:=m.hs.ent i e he;obtain rfl:=Qf (hg.symm.trans hg');have hez : e.s≠0:=ent.s ▸ hz;obtain ⟨cells,ty,h1,h2,h3,h4⟩:=ent.blk hez b hb;have hk : k<e.rows.length:=(Qy.1 hrow).1;have hw:=ent.wide hez row (Uf hrow)
   have ex : ∀ j' : Nat,∃ u,j'<(row.drop j).length->w.cell? ⟨b,g.base+k*g.s+j+j',none⟩=some u/\u.oneCell'=true/\Rep T w M ((row.drop j).getD j' .dead) u:=by
    intro j'
    by_cases hj : j'<(row.drop j).length
    .rw [UM] at hj
     obtain ⟨u,hu,ho,hru⟩:=h4 k (j+j') hk (by omega)
     refine ⟨u,λ _=>⟨?_,ho,?_⟩⟩
     .simp only [World.cell?,h1]
      rw [<- ent.s,<- UE] at hu
      simpa using hu
     .have e1 : e.rows.getD k []=row:=by simp [List.getD,hrow]
      rw [e1] at hru
      simpa [List.getD] using hru
    .exact ⟨undef,λ h=>absurd h hj⟩
   obtain ⟨c,hc⟩:=Classical.axiomOfChoice ex;exact ⟨b,_,rfl,c,hc⟩
 | _=>simp [zcn] at hc
theorem zvz (o : Oper) (t : TypeId) (x : Operand) (h : o.op = .load t x) : Goal P np T0 M0 w0 live st T M a w idb o:=by
 intro K hk;have hr:=zaB tm x;simp only [zaz,h] at hk;split at hk
 case h_2=>exact False.elim hk
 rename_i ag s hag hsz;split at hk
 case isFalse=>exact False.elim hk
 rename_i hs1;simp only [List.map] at hk
 have hsz' : (sizeOf t).run P w = .ok s w:=by
  simp only [zbg,Qv] at hsz;obtain ⟨i,hi,hs⟩:=hsz;simp [sizeOf,typeInfo,hi,hs]
 have hag' : (isAgg t).run P w = .ok ag w:=by
  unfold aggC at hag;split at hag <;> (try (cases hag; done))
  .rename_i e; cases hag; simp [isAgg,zak e]
  .rename_i e; cases hag; simp [isAgg,zak e]
  .rename_i d e n1 n2
   cases hag;simp only [isAgg,Sem.run_bind,zak n2];simp
 generalize hv : a.eval x=v at *;generalize (opd x).ev st.get=X at *;simp only [aK] at hk;obtain ⟨cs,hc,hle,hk⟩:=hk;obtain ⟨b,off,rfl,c,hcell⟩:=zik m hr hc
 have hruns : ∀ v',(loadVar t ⟨b,off,none⟩).run P w = .ok v' w->(execOp a.eval o).run P w = .ok (.value v') w:=by
  intro v' hp;simp [execOp,h,hv,Instr.loadAt,Instr.sureAddr,hp]
 cases ag with
 | true =>
   have hl:=run_loadCells (P:=P) w ⟨b,off,none⟩ s c (λ j hj=>by rw [Addr.add_none]; exact (hcell j (by omega)).1)
   refine ⟨_,_,_,hk,zay m (v':=.agg ((List.range s).map c).toArray) ?_ (hruns _ ?_)⟩
   .refine .agg _ _ _ (by simp; omega) (λ i hi=>?_) λ i hi=>?_
    .simp at hi
     have e : ((List.range s).map c).toArray.getD i undef=c i:=by simp [Array.getD,show i<s from by omega]
     rw [e];exact (hcell i (by omega)).2.1
    .simp at hi
     have e : ((List.range s).map c).toArray.getD i undef=c i:=by simp [Array.getD,show i<s from by omega]
     have e2 : (cs.take s).getD i .dead=cs.getD i .dead:=by
      simp only [List.getD,Ud];rw [if_pos (by omega)]
     rw [e,e2];exact (hcell i (by omega)).2.2
   .simp [loadVar,hag',hsz',hl]
 | false =>
   obtain rfl : s=1:=by simpa using hs1
   have h0:=hcell 0 (by omega)
   have e : cs.headD .dead=cs.getD 0 .dead:=by cases cs <;> rfl
   simp only [Ub,Us] at hk;rw [e] at hk;refine ⟨_,_,_,hk,zay m h0.2.2 (hruns _ ?_)⟩;simp only [loadVar,Sem.run_bind,hag',Result.andThen_ok];have h00 : w.cell? ⟨b,off,none⟩=some (c 0):=by simpa using h0.1
   simp [h00]
theorem zwM (o : Oper) (t : TypeId) (x y : Operand) (h : o.op = .indexAddr t x y) : Goal P np T0 M0 w0 live st T M a w idb o:=by
 intro K hk;have hr:=zaB tm x;have hr':=zaB tm y;simp only [zaz,h] at hk;split at hk
 case h_3=>exact False.elim hk
 .rename_i e hu
  split at hk
  case h_2=>exact False.elim hk
  rename_i s hsz;simp only [List.map] at hk
  have hsz' : (sizeOf e).run P w = .ok s w:=by
   simp only [zbg,Qv] at hsz;obtain ⟨i,hi,hs⟩:=hsz;simp [sizeOf,typeInfo,hi,hs]
  generalize hv : a.eval x=v at *;generalize (opd x).ev st.get=X at *;generalize hv' : a.eval y=v' at *;generalize (opd y).ev st.get=Y at *
  have key : ∀ (b off len cap : Nat) (k : IntKind) (n : Int),v = .slice (some ⟨b,off,none⟩) len cap->v' = .int k n->0<=n->n<len ->
    (execOp a.eval o).run P w = .ok (.value (.pointer (some ⟨b,off+n.toNat*s,none⟩))) w:=by
   rintro b off len cap k n rfl rfl h0 hn
   simp [execOp,h,hv,hv',Instr.indexAt,asIntOf,zak hu,h0,hn,hsz',Addr.add_none]
  cases X <;> (try (simp only [aK] at hk; done))
  .rename_i s' full rows
   cases Y <;> (try (simp only [aK] at hk; done))
   rename_i u
   cases u <;> (try (simp only [aK] at hk; done))
   rename_i k n;simp only [aK] at hk;obtain ⟨rfl,h0,row,hrow,hk⟩:=hk;obtain rfl:=zaY hr' rfl
   cases hr with
   | vs _ _ _ _ ad cap c hf hle hw hb h1 hh =>
     have hn : n.toNat<rows.length:=(Qy.1 hrow).1;obtain ⟨b,off,cells,ty,fz,rfl,hw1,hT,hc⟩:=hb (by rintro rfl; simp at hn)
     have hwid:=hw row (Uf hrow);have hrd : rows.getD n.toNat []=row:=by simp [List.getD,hrow]
     refine ⟨_,_,_,hk,zay m (.pv _ _ b (off+n.toNat*s') cells ty fz (λ j=>c n.toNat j) hw1 ?_ (λ j hj=>hc _ _ hn (by omega)) (λ j hj=>h1 _ _ hn (by omega)) λ j hj=>?_) (key b off rows.length cap k n rfl rfl h0 (by omega))⟩
     .rw [hwid]
      have : (n.toNat+1)*s'<=rows.length*s':=QC _ hn;rw [QI] at this;omega
     .have:=hh n.toNat j hn (by omega)
      rwa [hrd] at this
  .rename_i i off len
   cases Y <;> (try (simp only [aK] at hk; done))
   rename_i u
   cases u <;> (try (simp only [aK] at hk; done))
   rename_i k n;simp only [aK] at hk;obtain ⟨h0,hn,⟨en,hen,hs⟩,hk⟩:=hk;obtain rfl:=zaY hr' rfl
   cases hr with
   | rs _ _ _ _ cap ad g hg hz hl hnn hb =>
     obtain ⟨g',hg',ent⟩:=m.hs.ent i en hen;obtain rfl:=Qf (hg.symm.trans hg')
     cases hblk : g.blk with
     | none=>have:=(hnn hblk).2; omega
     | some b =>
       obtain ⟨ha,cells,ty,fz,hw1,hfit⟩:=hb b hblk
       have ha' : ad=some ⟨b,g.base+off*g.s,none⟩:=by
        rcases ha with ha | ha
        .omega
        .exact ha
       subst ha';refine ⟨_,_,_,hk,?_⟩;have e1:=key b (g.base+off*g.s) len cap k n rfl rfl h0 hn
       have e2 : g.base+off*g.s+n.toNat*s=g.base+(off+n.toNat)*g.s+0:=by
        rw [ent.s,hs,QI]; omega
       rw [e2] at e1;rw [e1];exact ⟨T,M,m.wider λ _ h=>.inl h,Pres.refl _ _,λ _ _ h=>h,.pt _ _ _ _ g b hg hz hblk⟩
 .rename_i l e hu
  split at hk
  case h_2=>exact False.elim hk
  rename_i s hsz;simp only [List.map] at hk
  have hsz' : (sizeOf e).run P w = .ok s w:=by
   simp only [zbg,Qv] at hsz;obtain ⟨i,hi,hs⟩:=hsz;simp [sizeOf,typeInfo,hi,hs]
  generalize hv : a.eval x=v at *;generalize (opd x).ev st.get=X at *;generalize hv' : a.eval y=v' at *;generalize (opd y).ev st.get=Y at *
  have key : ∀ (b off : Nat) (k : IntKind) (n : Int),v = .pointer (some ⟨b,off,none⟩)->v' = .int k n->0<=n->n<l ->
    (execOp a.eval o).run P w = .ok (.value (.pointer (some ⟨b,off+n.toNat*s,none⟩))) w:=by
   rintro b off k n rfl rfl h0 hn
   simp [execOp,h,hv,hv',Instr.indexAt,asIntOf,zak hu,h0,hn,hsz',Addr.add_none,Instr.sureAddr]
  cases X <;> (try (simp only [aK] at hk; done))
  .rename_i cs
   cases Y <;> (try (simp only [aK] at hk; done))
   rename_i u
   cases u <;> (try (simp only [aK] at hk; done))
   rename_i k n;simp only [aK] at hk;obtain ⟨h0,hn,hle,hk⟩:=hk;obtain rfl:=zaY hr' rfl;have hnl : n.toNat*s<=cs.length:=QH (QC s (show n.toNat<=l by omega)) hle
   cases hr with
   | pv _ _ b off cells ty fz c hb ht hcc h1 hh =>
     refine ⟨_,_,_,hk,zay m (.pv _ _ b (off+n.toNat*s) cells ty fz (λ j=>c (n.toNat*s+j)) hb (by simp; omega) (λ j hj=>?_) (λ j hj=>?_) λ j hj=>?_) (key b off k n rfl rfl h0 hn)⟩
     .rw [UE]; exact hcc _ (by simp at hj; omega)
     .exact h1 _ (by simp at hj; omega)
     .have:=hh (n.toNat*s+j) (by simp at hj; omega)
      simpa [List.getD] using this
  .rename_i i kk j
   cases Y <;> (try (simp only [aK] at hk; done))
   rename_i u
   cases u <;> (try (simp only [aK] at hk; done))
   rename_i k n;simp only [aK] at hk;obtain ⟨h0,hn,hk⟩:=hk;obtain rfl:=zaY hr' rfl
   cases hr with
   | pt _ _ _ _ g b hg hz hb =>
     refine ⟨_,_,_,hk,zay m (.pt _ _ _ _ g b hg hz hb) ?_⟩;rw [key b _ k n rfl rfl h0 hn,UE (g.base+kk*g.s)]
theorem zxr (o : Oper) (t : TypeId) (x y : Operand) (h : o.op = .index t x y) : Goal P np T0 M0 w0 live st T M a w idb o:=by
 intro K hk;have hr:=zaB tm x;have hr':=zaB tm y;simp only [zaz,h] at hk;split at hk
 case h_3=>exact False.elim hk
 case h_2 =>
  rename_i l e hu;split at hk
  case h_2=>exact False.elim hk
  rename_i hag hsz;simp only [List.map] at hk
  have hsz' : (sizeOf e).run P w = .ok 1 w:=by
   simp only [zbg,Qv] at hsz;obtain ⟨i,hi,hs⟩:=hsz;simp [sizeOf,typeInfo,hi,hs]
  have hag' : (isAgg e).run P w = .ok false w:=by
   unfold aggC at hag;split at hag <;> (try (cases hag; done))
   .rename_i d e n1 n2
    simp only [isAgg,Sem.run_bind,zak n2];simp
  generalize hv : a.eval x=v at *;generalize (opd x).ev st.get=X at *;generalize hv' : a.eval y=v' at *;generalize (opd y).ev st.get=Y at *
  cases X <;> cases Y <;> (try (simp only [aK] at hk; done))
  rename_i cs q
  cases q <;> (try (simp only [aK] at hk; done))
  rename_i k n;simp only [aK] at hk;obtain ⟨h0,hn,hle,hk⟩:=hk;obtain rfl:=zaY hr' rfl
  cases hr with
  | agg _ _ us hl h1 hh =>
    have hlt : n.toNat<cs.length:=by omega
    have hlt' : n.toNat<us.size:=by omega
    refine ⟨_,_,_,hk,zay m (v':=us.getD n.toNat undef) (hh _ hlt) ?_⟩;simp [execOp,h,hv,hv',Instr.index,asIntOf,zak hu,h0,hn,hsz',part,hag',hlt',Array.getD]
 rename_i hu;simp only [List.map] at hk;generalize hv : a.eval x=v at *;generalize (opd x).ev st.get=X at *;generalize hv' : a.eval y=v' at *;generalize (opd y).ev st.get=Y at *
 cases X <;> cases Y <;> (try (simp only [aK] at hk; done))
 rename_i p q
 cases p <;> (try (simp only [aK] at hk; done))
 cases q <;> (try (simp only [aK] at hk; done))
 rename_i s k n;simp only [aK] at hk;obtain ⟨h0,c,hc,hk⟩:=hk;obtain rfl:=zaY hr rfl;obtain rfl:=zaY hr' rfl;refine ⟨_,_,_,hk,zay m (.sc _ _ rfl) ?_⟩
 have hc' : s[n.toNat]? = some c:=by
  have hi : n.toNat<s.data.toList.length:=(Qy.1 hc).1;have hi' : n.toNat<s.size:=by simpa using hi
  have h1:=(Qy.1 hc).2;rw [getElem?_pos s n.toNat hi']
  congr 1
 simp [execOp,h,hv,hv',Instr.index,asIntOf,zak hu,h0,hc']
end
section
variable {P : Program} {np : Nat} {T0 : Nat->Nat} {M0 : GM} {w0 : World} {live : Nat->Prop} {st : St} {T : Nat->Nat} {M : GM} {a : Act} {w : World} {idb : Nat}
theorem zsm {t e : TypeId} {s : Nat} (hu : P.underlying t=some (.slice e)) (hs : (sizeOf e).run P w = .ok s w) (ad : Option Addr) (len cap l r m : Nat) (hlr : l<=r) (hrm : r<=m) (hmc : m<=cap)
  (lo hi mx : Option Value) (h1 : lo=some (.int .i64 l)∨(lo=none/\l=0)) (h2 : hi=some (.int .i64 r)∨(hi=none/\r=len/\mx=none)) (h3 : mx=some (.int .i64 m)∨(mx=none/\m=cap)) :
  (Instr.sliceAt t (.slice ad len cap) lo hi mx).run P w = .ok (.slice (if m=l then ad else ad.map (·.add (l*s))) (r - l) (m - l)) w:=by
 have sb : ∀ (k y : Nat) code,k<=y->(Instr.sliceBound (.int .i64 (k : Nat)) y code).run P w = .ok k w:=by
  intro k y code hk;have : (k : Int)<=y:=by omega
  simp [Instr.sliceBound,asIntOf,this]
 have hrc : r<=cap:=by omega
 rcases h1 with rfl | ⟨rfl,rfl⟩ <;> rcases h2 with rfl | ⟨rfl,rfl,rfl⟩ <;> (try (rcases h3 with rfl | ⟨rfl,rfl⟩)) <;> (try (cases h3; done)) <;>
  simp_all [Instr.sliceAt,zak hu,Instr.slice,Instr.sliceBounds]
variable (tm : ∀ i,Rep T w M (st.get i) (a.tmps.getD i undef)) (m : Mem np T0 M0 w0 live st.hp T M w)
include tm m
theorem zxq (o : Oper) (t : TypeId) (x : Operand) (lo hi mx : Option Operand) (h : o.op = .slice t x lo hi mx) : Goal P np T0 M0 w0 live st T M a w idb o:=by
 intro K hk;have hr:=zaB tm x;simp only [zaz,h] at hk;split at hk
 case h_2=>exact False.elim hk
 rename_i e hu;split at hk
 case h_2=>exact False.elim hk
 rename_i s hsz
 have hsz' : (sizeOf e).run P w = .ok s w:=by
  simp only [zbg,Qv] at hsz;obtain ⟨i,hi,hs⟩:=hsz;simp [sizeOf,typeInfo,hi,hs]
 simp only [QO,Q5,Qn] at hk;generalize hv : a.eval x=v at *;generalize (opd x).ev st.get=X at *;unfold aK at hk;simp only at hk;obtain ⟨l,r,mm,n,hn,hlr,hbs,hl0,hr0,hmx,hk⟩:=hk;have one : ∀ (y : Operand) (k : Nat),(opd y).ev st.get=AV.I k->a.eval y = .int .i64 k:=λ y k hy=>zaY (zaB tm y) hy
 have bnds : (lo.map a.eval=some (.int .i64 l)∨(lo.map a.eval=none/\l=0))/\(hi.map a.eval=some (.int .i64 r)∨(hi.map a.eval=none/\r=n/\mx.map a.eval=none))/\(mx.map a.eval=some (.int .i64 mm)∨mx.map a.eval=none):=by
  cases lo <;> cases hi <;> cases mx <;> simp only [Option.isSome_none,Option.isSome_some,Q7,Option.map_none,Option.toList_some,Option.toList_none,QX,Q5,QO,Qn,Uz,Ub,Us,UY,forall_const,reduceCtorEq,false_and,or_false,false_or,true_and,and_true,List.cons.injEq,imp_self,Qq,implies_true] at hbs hl0 hr0 hmx ⊢
  all_goals first
   | exact ⟨hl0,hr0⟩
   | exact absurd hmx id
   | exact ⟨hl0,one _ _ hbs⟩
   | exact ⟨hl0,one _ _ hbs.1,one _ _ hbs.2⟩
   | exact ⟨one _ _ hbs,hr0⟩
   | exact ⟨one _ _ hbs.1,one _ _ hbs.2⟩
   | exact ⟨one _ _ hbs.1,one _ _ hbs.2.1,one _ _ hbs.2.2⟩
 obtain ⟨b1,b2,b3⟩:=bnds;have hmxs : (mx.map a.eval).isSome=mx.isSome:=by cases mx <;> rfl
 have run2 : ∀ ad cap mc,v = .slice ad n cap->r<=mc->mc<=cap->(mx.isSome=true->mc=mm)->(mx.isSome=false->mc=cap)->(execOp a.eval o).run P w = .ok (.value (.slice (if mc=l then ad else ad.map (·.add (l*s))) (r - l) (mc - l))) w:=by
  rintro ad cap mc rfl h1 h2 h3 h4
  have:=zsm hu hsz' ad n cap l r mc hlr h1 h2 _ _ _ b1 b2 (by
   cases hm : mx.isSome with
   | true =>
     rcases b3 with b3 | b3
     .exact .inl (by rw [b3,h3 hm])
     .have:=congrArg Option.isSome b3
      rw [hmxs,hm] at this
      cases this
   | false =>
     refine .inr ⟨?_,h4 hm⟩;have:=hmxs;rw [hm] at this
     simpa using this)
  simp [execOp,h,hv,this]
 have run : ∀ ad cap,n<=cap->r<=n->(mx.isSome=true->mm=r)->v = .slice ad n cap->(execOp a.eval o).run P w = .ok (.value (.slice (if (if mx.isSome then r else cap)=l then ad else ad.map (·.add (l*s))) (r - l) ((if mx.isSome then r else cap) - l))) w:=by
  intro ad cap hc hrn hmr hvv;refine run2 ad cap _ hvv ?_ ?_ (λ h=>by rw [if_pos h,hmr h]) (λ h=>by rw [h]; rfl)
  .split <;> omega
  .split <;> omega
 cases X <;> (try (exact False.elim hk))
 .rename_i u
  split at hk <;> (try (exact False.elim hk))
  .rename_i h1; cases h1
  .rename_i h1; cases h1
  .rename_i h1; cases h1
  .rename_i h1
   cases h1;obtain ⟨hrn,hmr,hk⟩:=hk;obtain rfl:=zaY hr rfl;simp only [lenOf,Qq] at hn;subst hn;obtain rfl : r=0:=by omega
   obtain rfl : l=0:=by omega
   refine ⟨_,_,_,hk,zay m (.sc _ _ rfl) ?_⟩;rw [run none 0 (Ql _) hrn hmr rfl];simp
 .rename_i s' full rows
  obtain ⟨hrn,hmr,rfl,hk⟩:=hk;simp only [lenOf,Qq] at hn;subst hn
  cases hr with
  | vs _ _ _ _ ad cap c hf hle hw hb h1 hh =>
    have hlen : ((rows.drop l).take (r - l)).length=r - l:=by simp; omega
    have run':=run ad cap hle hrn hmr rfl;refine ⟨_,_,_,hk,?_⟩;rw [run'];refine ⟨T,M,m.wider λ _ h=>.inl h,Pres.refl _ _,λ _ _ h=>h,?_⟩
    suffices hS : Rep T w M (.vs s' (mx.isSome || full && !hi.isSome) ((rows.drop l).take (r - l))) (.slice (if (if mx.isSome then r else cap)=l then ad else ad.map (·.add (l*s'))) ((rows.drop l).take (r - l)).length ((if mx.isSome then r else cap) - l)) by
     rwa [hlen] at hS
    refine .vs _ _ _ _ _ _ (λ i j=>c (l+i) j) (λ hfull=>?_) ?_ (λ row hrow=>hw row (UV (QY hrow))) (λ hne=>?_) (λ i j hi hj=>h1 _ _ (by rw [hlen] at hi; omega) hj) λ i j hi hj=>?_
    .rw [hlen]
     cases hmb : mx.isSome with
     | true=>simp
     | false =>
       simp only [hmb,Bool.false_or,QT,UA] at hfull;have:=hf hfull.1;have:=hr0 hfull.2;simp;omega
    .rw [hlen]
     split <;> omega
    .have hpos : 0<r - l:=by
      rw [<- hlen];exact Ux.2 hne
     obtain ⟨b,off,cells,ty,fz,rfl,hw1,hT,hc⟩:=hb (by rintro rfl; simp at hrn; omega)
     refine ⟨b,off+l*s',cells,ty,fz,?_,hw1,?_,λ i j hi hj=>?_⟩
     .rw [if_neg (by split <;> omega)]
      simp [Addr.add_none]
     .rw [hlen]
      have : (l+(r - l))*s'<=rows.length*s':=QC _ (by omega)
      rw [QI] at this;omega
     .rw [hlen] at hi
      have:=hc (l+i) j (by omega) hj
      rw [QI] at this;rw [show off+l*s'+i*s'+j=off+(l*s'+i*s')+j by omega]
      exact this
    .rw [hlen] at hi
     have:=hh (l+i) j (by omega) hj
     have e : ((rows.drop l).take (r - l)).getD i []=rows.getD (l+i) []:=by
      simp only [List.getD,Ud,Q8];rw [if_pos hi]
     rw [e];exact this
 .rename_i i off len
  obtain ⟨hrn,hmf,⟨en,hen,hs⟩,hk⟩:=hk;simp only [lenOf,Qq] at hn;subst hn
  cases hr with
  | rs _ _ _ _ cap ad g hg hz hl hnn hb =>
    obtain ⟨g',hg',ent⟩:=m.hs.ent i en hen;obtain rfl:=Qf (hg.symm.trans hg');have run':=run ad cap hl hrn (λ h=>by rw [hmf] at h; cases h) rfl
    refine ⟨_,_,_,hk,?_⟩;rw [run'];simp only [hmf,Ub,Us];refine ⟨T,M,m.wider λ _ h=>.inl h,Pres.refl _ _,λ _ _ h=>h,.rs _ _ _ _ _ _ g hg hz (by omega) (λ hb0=>?_) λ b hbb=>?_⟩
    .obtain ⟨h1,h2⟩:=hnn hb0
     omega
    .obtain ⟨ha,cells,ty,fz,hw1,hfit⟩:=hb b hbb
     refine ⟨?_,cells,ty,fz,hw1,?_⟩
     .by_cases hcl : cap=l
      .exact .inl (by omega)
      .rw [if_neg hcl]
       rcases ha with ha | ha
       .omega
       .subst ha
        right
        simp only [Q7,Addr.add_none];rw [<- hs,<- ent.s,QI,UE]
     .have : (l+(cap - l))*g.s=cap*g.s:=by rw [show l+(cap - l)=cap by omega]
      rw [QI] at this;rw [QI];omega
 .rename_i i off len c
  obtain ⟨hrm,hmc,hmx0,⟨en,hen,hs⟩,hk⟩:=hk;simp only [lenOf,Qq] at hn;subst hn
  cases hr with
  | rk _ _ _ _ _ ad g hg hz hl hnn hb =>
    obtain ⟨g',hg',ent⟩:=m.hs.ent i en hen;obtain rfl:=Qf (hg.symm.trans hg');have run':=run2 ad c mm rfl hrm hmc (λ _=>rfl) hmx0;refine ⟨_,_,_,hk,?_⟩;rw [run'];refine ⟨T,M,m.wider λ _ h=>.inl h,Pres.refl _ _,λ _ _ h=>h,.rk _ _ _ _ _ _ g hg hz (by omega) (λ hb0=>?_) λ b hbb=>?_⟩
    .obtain ⟨h1,h2⟩:=hnn hb0
     omega
    .obtain ⟨ha,cells,ty,fz,hw1,hfit⟩:=hb b hbb
     refine ⟨?_,cells,ty,fz,hw1,?_⟩
     .by_cases hcl : mm=l
      .exact .inl (by omega)
      .rw [if_neg hcl]
       rcases ha with ha | ha
       .omega
       .subst ha
        right
        simp only [Q7,Addr.add_none];rw [<- hs,<- ent.s,QI,UE]
     .have : (l+(mm - l))*g.s<=c*g.s:=QC _ (by omega)
      rw [QI] at this;rw [QI];omega
theorem zwF (o : Oper) (c : Call) (h : o.op = .call c) (hb : c.callee = .builtin .cap) : Goal P np T0 M0 w0 live st T M a w idb o:=by
 intro K hk;simp only [zaz,h,hb] at hk;split at hk
 case h_2=>exact False.elim hk
 rename_i t x ht hx;have ht' : c.argTypes = #[t]:=by rw [<- QP (xs:=c.argTypes),ht]
 have hx' : c.args = #[x]:=by rw [<- QP (xs:=c.args),hx]
 have hr:=zaB tm x;split at hk
 case h_2=>exact False.elim hk
 rename_i e hu;simp only [List.map] at hk;generalize hv : a.eval x=v at *;generalize (opd x).ev st.get=X at *
 by_cases hX : X = .nilS
 .subst hX
  simp only [AV.nilS,aK] at hk;obtain rfl:=zaY hr rfl;refine ⟨_,_,_,hk,zay m (.sc _ _ rfl) ?_⟩;simp [execOp,h,resolve,hb,invoke,builtin,Builtin.cap_,ht',hx',hv,zak hu,goInt]
 cases X <;> (try (simp only [aK] at hk; done))
 case sc v0 =>
  exfalso
  cases v0 <;> (try (simp only [aK] at hk; done))
  rename_i ad l cc
  cases ad <;> cases l <;> cases cc <;> (try (simp only [aK] at hk; done))
  exact hX rfl
 simp only [aK] at hk
 cases hr;refine ⟨_,_,_,hk,zay m (.sc _ _ rfl) ?_⟩;simp [execOp,h,resolve,hb,invoke,builtin,Builtin.cap_,ht',hx',hv,zak hu,goInt]
end
def RepC (T : Nat->Nat) (w : World) (M : GM) (cs : List AV) (us : Array Value) : Prop :=
 us.size=cs.length /\ ∀ i,i<cs.length->(us.getD i undef).oneCell'=true/\Rep T w M (cs.getD i .dead) (us.getD i undef)
theorem ziB (off : Nat) : ∀ (l : List Value) (k : Nat) (cells : Array Value),
  ((l.zipIdx k).foldl (λ cs p=>cs.setIfInBounds (off+p.2) p.1) cells).size=cells.size /\
  ∀ i,i<cells.size->((l.zipIdx k).foldl (λ cs p=>cs.setIfInBounds (off+p.2) p.1) cells)[i]? = if off+k<=i/\i<off+k+l.length then l[i - (off+k)]? else cells[i]?
 | [],k,cells=>⟨rfl,λ i hi=>by simp; omega⟩
 | v::l,k,cells=>by
   have ih:=ziB off l (k+1) (cells.setIfInBounds (off+k) v);simp only [List.zipIdx_cons,List.foldl_cons];refine ⟨by rw [ih.1]; simp,λ i hi=>?_⟩
   rw [ih.2 i (by simpa using hi)]
   by_cases h : i=off+k
   .subst h
    rw [if_neg (by omega),if_pos (by simp)]
    simp [hi]
   .by_cases h2 : off+(k+1)<=i/\i<off+(k+1)+l.length
    .rw [if_pos h2,if_pos (by simp; omega)]
     rw [show i - (off+k)=(i - (off+(k+1)))+1 by omega]
     simp
    .rw [if_neg h2,if_neg (by simp; omega),Array.getElem?_setIfInBounds_ne (by omega)]
theorem zaE {l : Array Value} {i : Nat} {x : Value} (h : l[i]? = some x) : l.getD i undef=x:=by
 simp [QD,h]
theorem zsx {T w M} {cells : List AV} {us : Array Value} (hC : RepC T w M cells us) {cs : List AV} {v : Value} (hv : v.cells.size=cs.length)
  (hcs : ∀ j,j<cs.length->(v.cells.getD j undef).oneCell'=true/\Rep T w M (cs.getD j .dead) (v.cells.getD j undef)) {off : Nat} (ho : off+cs.length<=cells.length) :
  RepC T w M (cells.take off++cs++cells.drop (off+cs.length)) (v.cells.zipIdx.foldl (λ cs (c,j)=>cs.setIfInBounds (off+j) c) us):=by
 have e : v.cells.zipIdx.foldl (λ cs (c,j)=>cs.setIfInBounds (off+j) c) us=(v.cells.toList.zipIdx 0).foldl (λ cs p=>cs.setIfInBounds (off+p.2) p.1) us:=by
  rw [<- Array.foldl_toList,Array.toList_zipIdx]
 rw [e];obtain ⟨h1,h2⟩:=ziB off v.cells.toList 0 us;have hlen : (cells.take off++cs++cells.drop (off+cs.length)).length=cells.length:=by simp; omega
 refine ⟨by rw [h1,hlen]; exact hC.1,λ i hi=>?_⟩
 rw [hlen] at hi;have h3:=h2 i (by rw [hC.1]; exact hi)
 simp only [Ua,Ul,hv] at h3
 by_cases hin : off<=i/\i<off+cs.length
 .rw [if_pos hin] at h3
  have hj : i - off<v.cells.size:=by omega
  have e1 : v.cells.toList[i - off]? = some (v.cells.getD (i - off) undef):=by simp [Array.getD,hj]
  rw [e1] at h3;rw [zaE h3]
  have e2 : (cells.take off++cs++cells.drop (off+cs.length)).getD i .dead=cs.getD (i - off) .dead:=by
   simp only [List.getD];rw [Qx,Qr (by simp; omega),QJ (by simp; omega)]
   simp
   congr 2
   omega
  rw [e2];exact hcs (i - off) (by omega)
 .rw [if_neg hin] at h3
  have hi' : i<us.size:=by rw [hC.1]; exact hi
  have e1 : us[i]? = some (us.getD i undef):=by simp [Array.getD,hi']
  rw [e1] at h3;rw [zaE h3]
  have e2 : (cells.take off++cs++cells.drop (off+cs.length)).getD i .dead=cells.getD i .dead:=by
   simp only [List.getD]
   by_cases hlt : i<off
   .rw [Qx,QJ (by simp; omega)]
    simp [hlt]
   .rw [Qr (by simp; omega)]
    simp only [Q8,Qh,QW]
    congr 2
    omega
  rw [e2];exact hC.2 i hi
theorem zif {T w M} (place : Nat->Option (Nat × Nat)) : ∀ (ps : List (Nat × Value)) (pl : List (Nat × Nat)) (xs : List AV) (cells : List AV) (us : Array Value) (out : List AV),
  RepC T w M cells us->ps.mapM (λ p=>place p.1)=some pl->xs.length=ps.length->(∀ i,i<xs.length->Rep T w M (xs.getD i .dead) ((ps.map (·.2)).getD i undef))->zeQ cells pl xs=some out ->
  ∃ us',Instr.fill place us ps=some us'/\RepC T w M out us'
 | [],pl,xs,cells,us,out,hC,hp,hl,hr,hf=>by
   simp at hp;subst hp;have : xs=[]:=QK hl;subst this;simp only [zeQ,Qq] at hf;subst hf;exact ⟨us,rfl,hC⟩
 | (i,v)::ps,pl,xs,cells,us,out,hC,hp,hl,hr,hf=>by
   cases xs with
   | nil=>simp at hl
   | cons x xs =>
   simp only [List.mapM_cons,Option.bind_eq_bind,Option.pure_def,Uo] at hp;obtain ⟨⟨off,size⟩,h1,pl',h2,h3⟩:=hp;simp only [Qq] at h3;subst h3;simp only [zeQ] at hf;split at hf
   case h_2=>cases hf
   rename_i cs hcs;split at hf
   case isFalse=>cases hf
   rename_i hc;have h0:=hr 0 (by simp)
   simp only [UO,Qn] at h0;obtain ⟨e1,e2⟩:=zfu h0 hcs;have st:=zsx hC e1 e2 (off:=off) (by omega)
   rw [hc.1] at st;obtain ⟨us',h4,h5⟩:=zif place ps pl' xs _ _ out st h2 (by simpa using hl) (λ k hk=>by have:=hr (k+1) (by simpa using hk); simpa using this) hf
   refine ⟨us',?_,h5⟩;simp only [Instr.fill,h1];rw [if_neg]
   .exact h4
   .simp only [ne_eq,UK,Qe,not_or,Decidable.not_not]
    have:=hC.1;omega
section
variable {P : Program} {np : Nat} {T0 : Nat->Nat} {M0 : GM} {w0 : World} {live : Nat->Prop} {st : St} {T : Nat->Nat} {M : GM} {a : Act} {w : World} {idb : Nat}
theorem zbB {t : TypeId} {z : List Value} (h : zjq P t=some z) : ∃ i zv,P.info? t=some i/\i.zero=some zv/\zv.cells.toList=z/\z.length=i.size /\ ∀ v∈z,v.oneCell'=true:=by
 unfold zjq at h;split at h
 case h_2=>cases h
 rename_i i hi;split at h
 case h_2=>cases h
 rename_i zv hz;split at h
 case isFalse=>cases h
 rename_i hc;simp only [Qq] at h;subst h;simp only [QT,beq_iff_eq] at hc;refine ⟨i,zv,hi,hz,rfl,by simpa using hc.2,λ v hv=>?_⟩
 exact List.all_eq_true.1 hc.1 v hv
theorem zkw {T w M} {z : List Value} (h : ∀ v∈z,v.oneCell'=true) : RepC T w M (z.map .sc) z.toArray:=by
 refine ⟨by simp,λ i hi=>?_⟩
 simp only [Qt] at hi;have e : z.toArray.getD i undef=z[i]:=by simp [Array.getD,hi]
 rw [e,zcN _ _ _ hi];exact ⟨h _ (Qj hi),.sc _ _ (h _ (Qj hi))⟩
variable (tm : ∀ i,Rep T w M (st.get i) (a.tmps.getD i undef)) (m : Mem np T0 M0 w0 live st.hp T M w) (fresh : ∀ k,k<8->¬ live (idb+k)) (npid : np<=idb)
include tm m
omit tm m in
theorem zih (s : Nat) : ∀ ps : List (Nat × Value),ps.mapM (λ p=>(λ i=>some (i*s,s) : Nat->Option (Nat × Nat)) p.1)=some (ps.map λ p=>(p.1*s,s))
 | []=>rfl
 | p::ps=>by
   rw [List.mapM_cons,zih s ps];rfl
theorem ztE (o : Oper) (t : TypeId) (ps : Array (Nat × Operand)) (h : o.op = .build t ps) : Goal P np T0 M0 w0 live st T M a w idb o:=by
 intro K hk;simp only [zaz,h] at hk;split at hk
 case h_3=>exact False.elim hk
 case h_2 =>
  rename_i z n e hz hu;split at hk
  case h_2=>exact False.elim hk
  rename_i ie hie;simp only [List.map_map,aK] at hk;obtain ⟨cs,hcs,hk⟩:=hk;obtain ⟨i,zv,hi,hzv,hzl,-,hone⟩:=zbB hz
  have hzc : RepC T w M (z.map .sc) zv.cells:=by
   have:=zkw (T:=T) (w:=w) (M:=M) hone;subst hzl
   rwa [QP] at this
  have hmap : (ps.toList.map λ (x : Nat × Operand)=>(x.1,a.eval x.2)).mapM (λ p=>(λ i=>some (i*ie.size,ie.size) : Nat->Option (Nat × Nat)) p.1)=some (ps.toList.map λ p=>(p.1*ie.size,ie.size)):=by
   rw [zih,List.map_map];rfl
  obtain ⟨us,hf,hC⟩:=zif (T:=T) (w:=w) (M:=M) (λ i=>some (i*ie.size,ie.size)) (ps.toList.map λ (x : Nat × Operand)=>(x.1,a.eval x.2)) _ _ _ _ cs hzc hmap (by simp) (λ k hk=>by
   simp only [Qt,Ul] at hk;have e1 : (ps.toList.map ((λ x=>x.ev st.get)∘λ x=>opd x.2)).getD k .dead=(opd ps[k].2).ev st.get:=by simp [List.getD,hk]
   have e2 : ((ps.toList.map λ (x : Nat × Operand)=>(x.1,a.eval x.2)).map (·.2)).getD k undef=a.eval ps[k].2:=by simp [List.getD,hk]
   rw [e1,e2]
   exact zaB tm _) hcs
  refine ⟨_,_,_,hk,zay m (v':=.agg us) (.agg _ _ _ hC.1 (λ i hi=>(hC.2 i hi).1) λ i hi=>(hC.2 i hi).2) ?_⟩
  have hb:=run_build (P:=P) w t (ps.map λ (i,x)=>(i,a.eval x)) us (by
   unfold Program.built;simp only [hi,hu,hzv,hie]
   simpa using hf)
  simp only [execOp,h,Sem.run_bind,hb,Result.andThen_ok,Sem.run_pure]
 rename_i z fs hz hu;split at hk
 case h_2=>exact False.elim hk
 rename_i places hpl;split at hk
 case h_2=>exact False.elim hk
 rename_i pl hps;simp only [List.map_map,aK] at hk;obtain ⟨cs,hcs,hk⟩:=hk;obtain ⟨i,zv,hi,hzv,hzl,-,hone⟩:=zbB hz
 have hzc : RepC T w M (z.map .sc) zv.cells:=by
  have:=zkw (T:=T) (w:=w) (M:=M) hone;subst hzl
  rwa [QP] at this
 have hmap : (ps.toList.map λ (x : Nat × Operand)=>(x.1,a.eval x.2)).mapM (λ p=>places[p.1]?)=some pl:=by
  rw [List.mapM_map];exact hps
 obtain ⟨us,hf,hC⟩:=zif (T:=T) (w:=w) (M:=M) (places[·]?) (ps.toList.map λ (x : Nat × Operand)=>(x.1,a.eval x.2)) pl _ _ _ cs hzc hmap (by simp) (λ k hk=>by
  simp only [Qt,Ul] at hk;have e1 : (ps.toList.map ((λ x=>x.ev st.get)∘λ x=>opd x.2)).getD k .dead=(opd ps[k].2).ev st.get:=by simp [List.getD,hk]
  have e2 : ((ps.toList.map λ (x : Nat × Operand)=>(x.1,a.eval x.2)).map (·.2)).getD k undef=a.eval ps[k].2:=by simp [List.getD,hk]
  rw [e1,e2]
  exact zaB tm _) hcs
 refine ⟨_,_,_,hk,zay m (v':=.agg us) (.agg _ _ _ hC.1 (λ i hi=>(hC.2 i hi).1) λ i hi=>(hC.2 i hi).2) ?_⟩
 have hb:=run_build (P:=P) w t (ps.map λ (i,x)=>(i,a.eval x)) us (by
  unfold Program.built;simp only [hi,hu,hzv,hpl]
  simpa using hf)
 simp only [execOp,h,Sem.run_bind,hb,Result.andThen_ok,Sem.run_pure]
include fresh npid
omit tm in
theorem zeA {e : Ent} {cells : Array Value} {ty : TypeId} {s : Sem Next} {v : AV} {v' : Value} {w1 : World} (hs : s.run P w = .ok (.value v') w1) (hh : w1.heap=w.heap.push (.cells cells ty)) (os : w1.os=w.os) (tape : w1.tape=w.tape)
  (output : w1.output=w.output) (hez : e.s≠0) (ro : e.ro<=e.rows.length) (wide : ∀ row∈e.rows,row.length=e.s) (fits : e.rows.length*e.s<=cells.size)
  (hc : ∀ i j,i<e.rows.length->j<e.s -> ∃ v,cells[i*e.s+j]? = some v/\v.oneCell'=true/\Rep T w M ((e.rows.getD i []).getD j .dead) v)
  (up : List (Nat × Option Ent)) (hup1 : lkp up idb=some (some e)) (hup2 : ∀ i x,i≠idb->lkp up i=some x->x=none)
  (hr : ∀ M' : GM,M' idb=some ⟨some w.heap.size,0,e.s⟩->Rep T w1 M' v v') :
  Eff P np T0 M0 w0 live idb (st.upd up).hp T M w v (s.run P w):=by
 rw [hs]
 obtain ⟨M',h1,h2,h3,h4⟩:=m.new (fresh 0 (by omega)) npid hh os tape output e hez ro wide fits hc (hp':=(st.upd up).hp) (by rw [St.hp_upd,Ua,hup1]; rfl) (λ i e' hi he=>by
  rw [St.hp_upd] at he;rw [Ua] at hi
  cases hl : lkp up i with
  | none=>rw [hl] at he; exact he
  | some x=>rw [hl,hup2 i x hi hl] at he; cases he)
 exact ⟨T,M',h3.wider (λ i hi=>hi.elim .inl λ hi=>.inr (by omega)),h4,h2,hr M' h1⟩
omit tm in
theorem ztb (o : Oper) (t : TypeId) (h : o.op = .alloc t) : Goal P np T0 M0 w0 live st T M a w idb o:=by
 intro K hk;simp only [zaz,h] at hk;split at hk
 case h_2=>exact False.elim hk
 rename_i y0 z0 hz;obtain ⟨z,hzz⟩ : ∃ z,z=y0::z0:=⟨_,rfl⟩;rw [<- hzz] at hz hk;have hz0 : z.length≠0:=by rw [hzz]; simp
 simp only [List.map,aK] at hk;obtain ⟨i,zv,hi,hzv,hzl,-,hone⟩:=zbB hz;have hC:=zkw (T:=T) (w:=w) (M:=M) hone;refine ⟨_,_,_,hk,zeA m fresh npid (e:={ s:=z.length,rows:=[z.map .sc] }) (w1:=w.alloc (.cells zv.cells t)) (cells:=zv.cells) (ty:=t) (v':=.pointer (some ⟨w.heap.size,0,none⟩)) ?_ rfl rfl rfl rfl hz0 (Qi _) ?_ ?_ ?_ _ (by simp [lkp]) (λ i x hi hx=>by simp [lkp] at hx; omega) ?_⟩
 .simp [execOp,h,Instr.alloc,zeroValue,typeInfo,hi,hzv,newVar,newRow]
 .intro row hrow; simp at hrow; subst hrow; simp
 .simp [<- hzl]
 .intro i j hi hj
  simp at hi hj;subst hi;have:=hC.2 j (by simpa using hj)
  refine ⟨z.toArray.getD j undef,?_,this.1,by simpa using this.2⟩
  rw [<- hzl,QP];rw [<- hzl] at hj;simp at hj;simp [Array.getD,hj]
 .intro M' hM'
  have:=λ w1=>Rep.pt (T:=T) (w:=w1) M' idb 0 0 _ _ hM' hz0 rfl
  simpa using this _
omit tm m fresh npid in
theorem zfm {z : List Value} (hone : ∀ v∈z,v.oneCell'=true) {s : Nat} (hs : z.length=s) (n : Nat) (cells : Array Value) (k : Nat) (hcells : cells=(Array.range k).map λ i=>z.toArray[i % z.toArray.size]!) (hk : n*s<=k) :
  ∀ i j,i<(List.replicate n (z.map AV.sc)).length->j<s -> ∃ v,cells[i*s+j]? = some v/\v.oneCell'=true/\Rep T w M (((List.replicate n (z.map AV.sc)).getD i []).getD j .dead) v:=by
 intro i j hi hj;simp at hi;have hlt:=zcE hi hj;refine ⟨z[j]'(by omega),?_,hone _ (Qj _),?_⟩
 .subst hcells
  rw [Array.getElem?_map,Array.getElem?_range,if_pos (by omega)]
  simp only [Q7,Uc,hs]
  congr 1
  rw [show (i*s+j) % s=j by rw [Nat.add_comm,Nat.add_mul_mod_self_right]; exact Va hj]
  simp [show j<z.length by omega]
 .have : (List.replicate n (z.map AV.sc)).getD i []=z.map AV.sc:=by simp [List.getD,hi]
  rw [this,zcN _ _ _ (by omega)]
  exact .sc _ _ (hone _ (Qj _))
theorem zwB (o : Oper) (t : TypeId) (x y : Operand) (h : o.op = .makeSlice t x y) : Goal P np T0 M0 w0 live st T M a w idb o:=by
 intro K hk;simp only [zaz,h] at hk;split at hk
 case h_2=>exact False.elim hk
 rename_i e hu;split at hk
 case h_2=>exact False.elim hk
 rename_i z s b hz hs hb;split at hk
 case isFalse=>exact False.elim hk
 rename_i hpos;simp only [List.map] at hk;obtain ⟨i,zv,hi,hzv,hzl,hzs,hone⟩:=zbB hz;have hs' : i.size=s:=by simpa [zbg,hi] using hs
 have hb' : i.bytes=b:=by simpa [zgZ,hi] using hb
 have hr:=zaB tm x;have hr':=zaB tm y;generalize hv : a.eval x=v at *;generalize (opd x).ev st.get=X at *;generalize hv' : a.eval y=v' at *;generalize (opd y).ev st.get=Y at *
 cases X <;> cases Y <;> (try (simp only [aK] at hk; done))
 rename_i p q
 cases p <;> (try (simp only [aK] at hk; done))
 cases q <;> (try (simp only [aK] at hk; done))
 rename_i k l k' c;simp only [aK] at hk;obtain ⟨h0,hlc,hcb,hc,hzs',hk⟩:=hk;obtain rfl:=zaY hr rfl;obtain rfl:=zaY hr' rfl;have run:=run_make (P:=P) w t e i zv hu hi hzv k k' l c h0 hlc (by rw [hb',Int.mul_comm]; omega) (by omega)
 have hfit : l.toNat*s<=c.toNat*i.size:=by rw [hs']; exact QC _ (by omega)
 refine ⟨_,_,_,hk,zeA m fresh npid (e:={ s:=s,rows:=List.replicate l.toNat (z.map .sc) }) (w1:=w.alloc (.cells (madeCells zv.cells (c.toNat*i.size)) e)) (cells:=madeCells zv.cells (c.toNat*i.size)) (ty:=e)
  (v':=.slice (some ⟨w.heap.size,0,none⟩) l.toNat c.toNat) ?_ rfl rfl rfl rfl (UP.1 hpos) (Qi _) ?_ ?_ ?_ _ (by simp [lkp]) (λ i x hi hx=>by simp [lkp] at hx; omega) ?_⟩
 .simp [execOp,h,hv,hv',run]
 .intro row hrow
  have:=(List.mem_replicate.1 hrow).2;subst this;simp [hzs']
 .simpa [size_madeCells] using hfit
 .refine zfm (T:=T) (w:=w) (M:=M) hone hzs' l.toNat _ (c.toNat*i.size) ?_ hfit
  rw [<- hzl,QP];rfl
 .intro M' hM'
  refine .rs _ _ 0 _ _ _ _ hM' (UP.1 hpos) (by omega) (λ hn=>by cases hn) λ b' hb2=>?_
  obtain rfl:=Qf hb2;refine ⟨.inr (by simp),madeCells zv.cells (c.toNat*i.size),e,(0,0),by show (w.heap.push _)[w.heap.size]? = _; simp,?_⟩
  simp [size_madeCells,hs']
theorem zwP (o : Oper) (t : TypeId) (x : Operand) (h : o.op = .box t x) : Goal P np T0 M0 w0 live st T M a w idb o:=by
 intro K hk;simp only [zaz,h] at hk;split at hk
 case h_2=>exact False.elim hk
 rename_i s hz;simp only [List.map,aK] at hk;obtain ⟨cs,hcs,hl,hk⟩:=hk;obtain ⟨h1,h2⟩:=zfu (zaB tm x) hcs;refine ⟨_,_,_,hk,zeA m fresh npid (e:={ s:=s+1,rows:=[cs] }) (w1:=w.alloc (.cells (a.eval x).cells t)) (cells:=(a.eval x).cells) (ty:=t) (v':=.pointer (some ⟨w.heap.size,0,none⟩)) ?_ rfl rfl rfl rfl (UN s) (Qi _) ?_ ?_ ?_ _ (by simp [lkp]) (λ i x hi hx=>by simp [lkp] at hx; omega) ?_⟩
 .simp [execOp,h,Instr.box,newVar,newRow]
 .intro row hrow; simp at hrow; subst hrow; exact hl
 .simp; omega
 .intro i j hi hj
  simp at hi hj;subst hi;have:=h2 j (by omega)
  refine ⟨(a.eval x).cells.getD j undef,?_,this.1,by simpa using this.2⟩
  have hj' : j<(a.eval x).cells.size:=by omega
  simp [Array.getD,hj']
 .intro M' hM'
  have:=λ w1=>Rep.pt (T:=T) (w:=w1) M' idb 0 0 _ _ hM' (UN s) rfl
  simpa using this _
end
theorem zlY {S k j s i' j' : Nat} (hj' : j'<S) (hs : j+s<=S) : (k*S+j<=i'*S+j'/\i'*S+j'<k*S+j+s)↔(i'=k/\j<=j'/\j'<j+s):=by
 constructor
 .rintro ⟨h1,h2⟩
  have : i'=k:=by
   rcases Nat.lt_trichotomy i' k with h | h | h
   .have : (i'+1)*S<=k*S:=QC _ h
    rw [QI] at this;omega
   .exact h
   .have : (k+1)*S<=i'*S:=QC _ h
    rw [QI] at this;omega
  subst this;exact ⟨rfl,by omega,by omega⟩
 .rintro ⟨rfl,h1,h2⟩
  omega
theorem zk0 (row cs : List AV) (j : Nat) (h : j+cs.length<=row.length) : (zat row j cs).length=row.length:=by
 unfold zat;simp;omega
theorem ziK (row cs : List AV) (j i : Nat) (h : j+cs.length<=row.length) :
  (zat row j cs).getD i .dead=if j<=i/\i<j+cs.length then cs.getD (i - j) .dead else row.getD i .dead:=by
 unfold zat;simp only [List.getD]
 by_cases h1 : i<j
 .rw [Qx,QJ (by simp; omega),if_neg (by omega)]
  simp [h1]
 .by_cases h2 : i<j+cs.length
  .rw [Qx,Qr (by simp; omega),QJ (by simp; omega),if_pos (by omega)]
   simp
   congr 2
   omega
  .rw [Qr (by simp; omega),if_neg (by omega)]
   simp only [Q8,Qh,QW]
   congr 2
   omega
theorem zoI (cur : Array Value) (o : Nat) (vs : List Value) (h : o+vs.length<=cur.size) :
  (cur.toList.take o++vs++cur.toList.drop (o+vs.length)).toArray.size=cur.size /\
  ∀ i : Nat,(cur.toList.take o++vs++cur.toList.drop (o+vs.length)).toArray[i]? = if o<=i/\i<o+vs.length then vs[i - o]? else cur[i]?:=by
 refine ⟨by simp; omega,λ i=>?_⟩
 simp only [List.getElem?_toArray]
 by_cases h1 : i<o
 .rw [Qx,QJ (by simp; omega),if_neg (by omega)]
  simp [h1]
 .by_cases h2 : i<o+vs.length
  .rw [Qx,Qr (by simp; omega),QJ (by simp; omega),if_pos (by omega)]
   simp
   congr 1
   omega
  .rw [Qr (by simp; omega),if_neg (by omega)]
   simp only [Q8,Qh,QW,Ul,Array.getElem?_toList]
   congr 1
   omega
section
variable {P : Program} {np : Nat} {T0 : Nat->Nat} {M0 : GM} {w0 : World} {live : Nat->Prop} {st : St} {T : Nat->Nat} {M : GM} {a : Act} {w : World} {idb : Nat}
variable (tm : ∀ i,Rep T w M (st.get i) (a.tmps.getD i undef)) (m : Mem np T0 M0 w0 live st.hp T M w) (fresh : ∀ k,k<8->¬ live (idb+k)) (npid : np<=idb)
include tm m
theorem zuo (o : Oper) (t : TypeId) (x y : Operand) (h : o.op = .store t x y) : Goal P np T0 M0 w0 live st T M a w idb o:=by
 intro K hk;simp only [zaz,h] at hk;split at hk
 case h_2=>exact False.elim hk
 rename_i s hsz;simp only [List.map] at hk
 have hsz' : (sizeOf t).run P w = .ok s w:=by
  simp only [zbg,Qv] at hsz;obtain ⟨i,hi,hs⟩:=hsz;simp [sizeOf,typeInfo,hi,hs]
 have hr:=zaB tm x;have hr':=zaB tm y;generalize hv : a.eval x=v at *;generalize (opd x).ev st.get=X at *;generalize hv' : a.eval y=v' at *;generalize (opd y).ev st.get=Y at *
 cases X <;> (try (simp only [aK] at hk; done))
 rename_i i k j;simp only [aK] at hk;obtain ⟨e,row,cs,he,hrow,hro,hcs,hl,hfit,hk⟩:=hk;obtain ⟨c1,c2⟩:=zfu hr' hcs
 cases hr with
 | pt _ _ _ _ g b hg hz hb =>
   obtain ⟨g',hg',ent⟩:=m.hs.ent i e he;obtain rfl:=Qf (hg.symm.trans hg');obtain ⟨cells,ty,hcell,hT,hsize,hcc⟩:=ent.blk (ent.s ▸ hz) b hb;have hkl : k<e.rows.length:=(Qy.1 hrow).1;have hwid:=ent.wide (ent.s ▸ hz) row (Uf hrow);have hrd : e.rows.getD k []=row:=by simp [List.getD,hrow]
   have hS : g.s=e.s:=ent.s
   have hin : g.base+k*g.s+j+v'.cells.toList.length<=cells.size:=by
    have : (k+1)*e.s<=e.rows.length*e.s:=QC _ hkl;rw [QI] at this;rw [hS];simp;omega
   have hst:=run_storeCells_at P b (g.base+k*g.s+j) ty v'.cells.toList 0 cells w hcell (by simpa using hin) (λ u hu=>by
    obtain ⟨n,hn,rfl⟩:=Ut hu;simp at hn;have:=(c2 n (by omega)).1
    simpa [Array.getD,hn] using this)
   simp only [Ua] at hst;obtain ⟨s1,s2⟩:=zoI cells (g.base+k*g.s+j) v'.cells.toList hin;have hvl : v'.cells.toList.length=s:=by simp; omega
   have hrun : (execOp a.eval o).run P w = .ok .skip (w.setRow b (cells.toList.take (g.base+k*g.s+j)++v'.cells.toList++cells.toList.drop (g.base+k*g.s+j+v'.cells.toList.length)).toArray):=by
    have hne : ¬ (v'.cells.size≠s):=by omega
    simp [execOp,h,hv,hv',Instr.storeAt,Instr.sureAddr,storeVar,hsz',hst,show v'.cells.size=s by omega]
   generalize hcells' : (cells.toList.take (g.base+k*g.s+j)++v'.cells.toList++cells.toList.drop (g.base+k*g.s+j+v'.cells.toList.length)).toArray=cells' at *;rw [hvl] at s2
   obtain ⟨M',m1,m2,m3,m4⟩:=m.write (id':=i) (g':=g) (e:={ e with rows:=e.rows.set k (zat row j cs) }) (cells':=cells') he hg hb hcell s1 (λ q hq=>by
     rw [s2,if_neg];have : e.ro*e.s<=k*e.s:=QC _ hro;rw [hS];omega) (.inl ⟨rfl,rfl⟩) hb hS (ent.s ▸ hz) (by simpa using ent.ro) (λ r hr=>by
     simp only at hr;rcases List.mem_or_eq_of_mem_set hr with h | h
     .exact ent.wide (ent.s ▸ hz) r h
     .subst h; rw [zk0 _ _ _ (by omega)]; exact hwid) hT (by simpa using hsize) (λ i' j' hi' hj'=>by
     simp only [Uy] at hi';simp only;rw [s2];obtain ⟨u,hu,ho,hru⟩:=hcc i' j' hi' hj';have pl:=zlY (S:=e.s) (k:=k) (j:=j) (s:=s) (i':=i') hj' (by omega)
     by_cases hin' : i'=k/\j<=j'/\j'<j+s
     .obtain ⟨rfl,q1,q2⟩:=hin'
      rw [hS,if_pos (by omega)]
      have q3 : j' - j<cs.length:=by omega
      have c3:=c2 (j' - j) q3;refine ⟨v'.cells.getD (j' - j) undef,?_,c3.1,?_⟩
      .rw [show g.base+i'*e.s+j' - (g.base+i'*e.s+j)=j' - j by omega]
       have : j' - j<v'.cells.size:=by omega
       simp [Array.getD,this]
      .have : (e.rows.set i' (zat row j cs)).getD i' []=zat row j cs:=by simp [List.getD,hkl]
       rw [this,ziK _ _ _ _ (by omega),if_pos (by omega)]
       exact c3.2
     .rw [hS,if_neg (by
       intro q
       exact hin' (pl.1 (by omega)))]
      refine ⟨u,hu,ho,?_⟩
      by_cases hik : i'=k
      .subst hik
       have : (e.rows.set i' (zat row j cs)).getD i' []=zat row j cs:=by simp [List.getD,hkl]
       rw [this,ziK _ _ _ _ (by omega),if_neg (by omega)]
       rwa [hrd] at hru
      .have : (e.rows.set k (zat row j cs)).getD i' []=e.rows.getD i' []:=by simp [List.getD,UF,Ne.symm hik]
       rw [this]
       exact hru)
    (hp':=(st.upd [(i,some { e with rows:=e.rows.set k (zat row j cs) })]).hp) (by rw [St.hp_upd]; simp [lkp]) (λ i' e' hne he'=>by
     rw [St.hp_upd] at he';simp only [lkp,if_neg (Ne.symm hne)] at he'
     exact ⟨hne,he'⟩)
   refine ⟨_,_,_,hk,?_⟩;rw [hrun];refine ⟨T,M',m3.wider λ i' hi'=>?_,m4,m2,rfl⟩;rcases hi' with hi' | hi'
   .exact .inl hi'
   .subst hi'; exact .inl (m.dom _ _ hg)
end
structure RepR (T : Nat->Nat) (w : World) (M : GM) (s : Nat) (rows : List (List AV)) (us : Array Value) : Prop where
 size : us.size=rows.length*s
 wide : ∀ row∈rows,row.length=s
 cell : ∀ i j,i<rows.length->j<s->(us.getD (i*s+j) undef).oneCell'=true/\Rep T w M ((rows.getD i []).getD j .dead) (us.getD (i*s+j) undef)
theorem zjI {us vs : Array Value} {i j : Nat} (h : us[i]? = vs[j]?) : us.getD i undef=vs.getD j undef:=by
 simp only [QD,h]
theorem zpP {T w M s} {rows : List (List AV)} {us : Array Value} (hC : RepR T w M s rows us) {cs : List AV} {v : Value} (hv : v.cells.size=cs.length)
  (hcs : ∀ j,j<cs.length->(v.cells.getD j undef).oneCell'=true/\Rep T w M (cs.getD j .dead) (v.cells.getD j undef)) {k : Nat} (hl : cs.length=s) (hk : k<rows.length) :
  RepR T w M s (rows.set k cs) (v.cells.zipIdx.foldl (λ cs (c,j)=>cs.setIfInBounds (k*s+j) c) us):=by
 have e : v.cells.zipIdx.foldl (λ cs (c,j)=>cs.setIfInBounds (k*s+j) c) us=(v.cells.toList.zipIdx 0).foldl (λ cs p=>cs.setIfInBounds (k*s+p.2) p.1) us:=by
  rw [<- Array.foldl_toList,Array.toList_zipIdx]
 rw [e];obtain ⟨h1,h2⟩:=ziB (k*s) v.cells.toList 0 us;refine ⟨by rw [h1]; simpa using hC.size,λ r hr=>?_,λ i j hi hj=>?_⟩
 .rcases List.mem_or_eq_of_mem_set hr with h | h
  .exact hC.wide r h
  .subst h; exact hl
 .simp only [Uy] at hi
  have hlt:=zcE hi hj;have h3:=h2 (i*s+j) (by rw [hC.size]; exact hlt)
  simp only [Ua,Ul,hv,hl] at h3;have pl:=zlY (S:=s) (k:=k) (j:=0) (s:=s) (i':=i) hj (by omega)
  simp only [Ua,Qi,Q0,true_and] at pl
  by_cases hik : i=k
  .subst hik
   rw [if_pos (by omega),show i*s+j - i*s=j by omega,Array.getElem?_toList] at h3
   rw [zjI h3];have : (rows.set i cs).getD i []=cs:=by simp [List.getD,hi]
   rw [this];exact hcs j (by omega)
  .rw [if_neg (λ q=>hik (pl.1 q).1)] at h3
   rw [zjI h3];have : (rows.set k cs).getD i []=rows.getD i []:=by simp [List.getD,UF,Ne.symm hik]
   rw [this];exact hC.cell i j hi hj
theorem znh {T w M s} : ∀ (ps : List (Nat × Value)) (pl : List Nat) (xs : List AV) (rows : List (List AV)) (us : Array Value) (out : List (List AV)),
  RepR T w M s rows us->ps.map (·.1)=pl->xs.length=ps.length->(∀ i,i<xs.length->Rep T w M (xs.getD i .dead) ((ps.map (·.2)).getD i undef))->zdm s rows pl xs=some out ->
  ∃ us',Instr.fill (λ i=>some (i*s,s)) us ps=some us'/\RepR T w M s out us'
 | [],pl,xs,rows,us,out,hC,hp,hl,hr,hf=>by
   simp at hp;subst hp;have : xs=[]:=QK hl;subst this;simp only [zdm,Qq] at hf;subst hf;exact ⟨us,rfl,hC⟩
 | (i,v)::ps,pl,xs,rows,us,out,hC,hp,hl,hr,hf=>by
   cases xs with
   | nil=>simp at hl
   | cons x xs =>
   simp only [Qn] at hp;subst hp;simp only [zdm] at hf;split at hf
   case h_2=>cases hf
   rename_i cs hcs;split at hf
   case isFalse=>cases hf
   rename_i hc;have h0:=hr 0 (by simp)
   simp only [UO,Qn] at h0;obtain ⟨e1,e2⟩:=zfu h0 hcs;have st:=zpP hC e1 e2 hc.1 hc.2;obtain ⟨us',h4,h5⟩:=znh ps _ xs _ _ out st rfl (by simpa using hl) (λ k hk=>by have:=hr (k+1) (by simpa using hk); simpa using this) hf
   refine ⟨us',?_,h5⟩;simp only [Instr.fill];rw [if_neg]
   .exact h4
   .simp only [ne_eq,UK,Qe,not_or,Decidable.not_not]
    have h6:=hC.size;have : (i+1)*s<=rows.length*s:=QC _ hc.2;rw [QI] at this;omega
section
variable {P : Program} {np : Nat} {T0 : Nat->Nat} {M0 : GM} {w0 : World} {live : Nat->Prop} {st : St} {T : Nat->Nat} {M : GM} {a : Act} {w : World} {idb : Nat}
variable (tm : ∀ i,Rep T w M (st.get i) (a.tmps.getD i undef)) (m : Mem np T0 M0 w0 live st.hp T M w) (fresh : ∀ k,k<8->¬ live (idb+k)) (npid : np<=idb)
include tm m fresh npid
theorem zxo (o : Oper) (t : TypeId) (len : Nat) (ps : Array (Nat × Operand)) (h : o.op = .buildSlice t len ps) : Goal P np T0 M0 w0 live st T M a w idb o:=by
 intro K hk;simp only [zaz,h] at hk;split at hk
 case h_2=>exact False.elim hk
 rename_i e hu;split at hk
 case h_2=>exact False.elim hk
 rename_i z s hz hs;split at hk
 case isFalse=>exact False.elim hk
 rename_i hlim;simp only [List.map_map,aK] at hk;obtain ⟨rows,hrows,hzs,hk⟩:=hk;obtain ⟨i,zv,hi,hzv,hzl,hzi,hone⟩:=zbB hz;have hs' : i.size=s:=by simpa [zbg,hi] using hs
 have zr : ∀ (cells : Array Value),cells=(Array.range (len*s)).map (λ i=>zv.cells[i % zv.cells.size]!)->RepR T w M s (List.replicate len (z.map .sc)) cells:=by
  intro cells hcells;have hcells' : cells=(Array.range (len*s)).map λ i=>z.toArray[i % z.toArray.size]!:=by rw [hcells,<- hzl,QP]
  refine ⟨by rw [hcells]; simp,λ row hrow=>?_,λ i j hi hj=>?_⟩
  .rw [(List.mem_replicate.1 hrow).2]; simpa using hzs
  .obtain ⟨v,h1,h2,h3⟩:=zfm (T:=T) (w:=w) (M:=M) hone hzs len cells (len*s) hcells' (Ql _) i j hi hj
   rw [zaE h1];exact ⟨h2,h3⟩
 obtain ⟨us,hf,hC⟩:=znh (T:=T) (w:=w) (M:=M) (s:=s) (ps.toList.map λ (x : Nat × Operand)=>(x.1,a.eval x.2)) (ps.toList.map (·.1)) _ _ _ rows (zr _ rfl) (by simp) (by simp) (λ k hk=>by
  simp only [Qt,Ul] at hk;have e1 : (ps.toList.map ((λ x=>x.ev st.get)∘λ x=>opd x.2)).getD k .dead=(opd ps[k].2).ev st.get:=by simp [List.getD,hk]
  have e2 : ((ps.toList.map λ (x : Nat × Operand)=>(x.1,a.eval x.2)).map (·.2)).getD k undef=a.eval ps[k].2:=by simp [List.getD,hk]
  rw [e1,e2]
  exact zaB tm _) hrows
 have hrl : rows.length=len:=by
  have h1:=hC.size
  have : ∀ (ps : List Nat) (xs : List AV) (r out : List (List AV)),zdm s r ps xs=some out->out.length=r.length:=by
   intro ps
   induction ps with
   | nil=>intro xs r out hf; cases xs <;> simp [zdm] at hf; rw [hf]
   | cons p ps ih =>
     intro xs r out hf
     cases xs with
     | nil=>simp [zdm] at hf
     | cons x xs =>
       simp only [zdm] at hf;split at hf
       case h_2=>cases hf
       split at hf
       case isFalse=>cases hf
       rw [ih _ _ _ hf];simp
  have:=this _ _ _ _ hrows
  simpa using this
 have hsz' : (sizeOf e).run P w = .ok s w:=by simp [sizeOf,typeInfo,hi,hs']
 have hrun : (execOp a.eval o).run P w = .ok (.value (.slice (some ⟨w.heap.size,0,none⟩) len len)) (w.alloc (.cells us e)):=by
  have hlim' : ¬ (16777216<len*s):=by have:=hlim.1; omega
  have hf' : Instr.fill (λ i=>some (i*s,s)) (Array.map (λ x=>zv.cells[x % zv.cells.size]!) (Array.range (len*s))) (ps.toList.map λ (x : Nat × Operand)=>(x.1,a.eval x.2))=some us:=hf
  by_cases h0 : len*s=0
  .have : Array.range (len*s) = #[]:=by rw [h0]; rfl
   rw [this] at hf';simp only [Array.map_empty] at hf';have r0 : Array.range 0 = #[]:=rfl;simp [execOp,h,Instr.buildSlice,zak hu,hsz',hlim',h0,newRow,hf',r0]
  .simp [execOp,h,Instr.buildSlice,zak hu,hsz',hlim',h0,newRow,zeroValue,typeInfo,hi,hzv,hf']
 refine ⟨_,_,_,hk,zeA m fresh npid (e:={ s:=s,rows:=rows }) (cells:=us) (ty:=e) hrun rfl rfl rfl rfl (UP.1 hlim.2) (Qi _) hC.wide (by rw [hC.size]; exact Ql _) (λ i j hi hj=>?_) _ (by simp [lkp]) (λ i x hi hx=>by simp [lkp] at hx; omega) ?_⟩
 .have:=hC.cell i j hi hj
  have hlt:=zcE hi hj;rw [<- hC.size] at hlt;refine ⟨us.getD (i*s+j) undef,by simp [Array.getD,hlt],this.1,this.2⟩
 .intro M' hM'
  refine .rs _ _ 0 _ _ _ _ hM' (UP.1 hlim.2) (Ql _) (λ hn=>by cases hn) λ b' hb2=>?_
  obtain rfl:=Qf hb2;refine ⟨.inr (by simp),us,e,(0,0),by show (w.heap.push _)[w.heap.size]? = _; simp,?_⟩
  rw [hC.size,hrl];simp
end
structure RepF (T : Nat->Nat) (w : World) (M : GM) (s : Nat) (rows : List (List AV)) (us : List Value) : Prop where
 size : us.length=rows.length*s
 wide : ∀ row∈rows,row.length=s
 one : ∀ u∈us,u.oneCell'=true
 cell : ∀ i j,i<rows.length->j<s->Rep T w M ((rows.getD i []).getD j .dead) (us.getD (i*s+j) undef)
theorem RepF.append {T w M s r1 r2 u1 u2} (h1 : RepF T w M s r1 u1) (h2 : RepF T w M s r2 u2) : RepF T w M s (r1++r2) (u1++u2):=by
 refine ⟨by rw [Qh,Qh,h1.size,h2.size,QI],λ r hr=>?_,λ u hu=>?_,λ i j hi hj=>?_⟩
 .rcases Qo.1 hr with h | h
  .exact h1.wide r h
  .exact h2.wide r h
 .rcases Qo.1 hu with h | h
  .exact h1.one u h
  .exact h2.one u h
 .simp only [Qh] at hi
  by_cases hlt : i<r1.length
  .have:=zcE hlt hj
   have e1 : (r1++r2).getD i []=r1.getD i []:=by simp [List.getD,QJ hlt]
   have e2 : (u1++u2).getD (i*s+j) undef=u1.getD (i*s+j) undef:=by
    simp only [List.getD];rw [QJ (by rw [h1.size]; exact this)]
   rw [e1,e2];exact h1.cell i j hlt hj
  .have hle : r1.length<=i:=by omega
   have hsub : i*s=r1.length*s+(i - r1.length)*s:=by rw [<- QI]; congr 1; omega
   have e1 : (r1++r2).getD i []=r2.getD (i - r1.length) []:=by simp [List.getD,Qr hle]
   have e2 : (u1++u2).getD (i*s+j) undef=u2.getD ((i - r1.length)*s+j) undef:=by
    simp only [List.getD];rw [Qr (by rw [h1.size]; omega),h1.size]
    congr 2
    omega
   rw [e1,e2];exact h2.cell _ _ (by omega) hj
theorem RepF.cells {T w M s rows us} (h : RepF T w M s rows us) {i j : Nat} (hi : i<rows.length) (hj : j<s) :
  ∃ v,us[i*s+j]? = some v/\v.oneCell'=true/\Rep T w M ((rows.getD i []).getD j .dead) v:=by
 have hlt:=zcE hi hj;rw [<- h.size] at hlt;have e : us.getD (i*s+j) undef=us[i*s+j]:=by simp [List.getD,hlt]
 have:=h.cell i j hi hj;rw [e] at this;exact ⟨us[i*s+j],by simp [hlt],h.one _ (Qj hlt),this⟩
theorem zrt {T w M s} {rows : List (List AV)} (hw : ∀ row∈rows,row.length=s) (f : Nat->Value)
  (h : ∀ i j,i<rows.length->j<s->(f (i*s+j)).oneCell'=true/\Rep T w M ((rows.getD i []).getD j .dead) (f (i*s+j))) :
  RepF T w M s rows ((List.range (rows.length*s)).map f):=by
 refine ⟨by simp,hw,λ u hu=>?_,λ i j hi hj=>?_⟩
 .obtain ⟨k,hk,rfl⟩:=Qg.1 hu
  simp only [QA] at hk
  have hs : 0<s:=by
   rcases Ui s with rfl | h
   .simp at hk
   .exact h
  have:=h (k / s) (k % s) (Nat.div_lt_of_lt_mul (by rw [U5]; exact hk)) (Uj _ hs)
  rw [U5 (k / s),Nat.div_add_mod] at this;exact this.1
 .have e : ((List.range (rows.length*s)).map f).getD (i*s+j) undef=f (i*s+j):=by simp [List.getD,zcE hi hj]
  rw [e];exact (h i j hi hj).2
theorem zss {w : World} {b o : Nat} {cells : Array Value} {ty : TypeId} {fz : Nat × Nat} (h : w.heap[b]? = some (.cells cells ty fz)) : w.cell? ⟨b,o,none⟩=cells[o]?:=by
 simp [World.cell?,h]
section
variable {P : Program} {np : Nat} {T0 : Nat->Nat} {M0 : GM} {w0 : World} {live : Nat->Prop} {st : St} {T : Nat->Nat} {M : GM} {a : Act} {w : World} {idb : Nat}
theorem ziu (hs : HsOk T w M st.hp) {X : AV} {v : Value} {s : Nat} {rows : List (List AV)} (hr : Rep T w M X v) (h : zaZ s st.hp X=some rows) (hx : ∀ i o l c,X ≠ .rk i o l c) :
  ∃ ad cap us,v = .slice ad rows.length cap/\rows.length<=cap/\RepF T w M s rows us/\(ad=none->us=[])/\(∀ x,ad=some x -> ∀ j u,us[j]? = some u->w.cell? (x.add j)=some u):=by
 cases hr with
 | sc _ _ h1 =>
   unfold zaZ at h;split at h <;> (try (cases h; done))
   .rename_i e; cases e
   .rename_i e; cases e
   .rename_i e; cases e
   .rename_i e
    cases e
    cases h;exact ⟨none,0,[],rfl,Ql _,⟨by simp,by simp,by simp,λ i j hi=>absurd hi (by simp)⟩,λ _=>rfl,λ x hx=>by cases hx⟩
 | vs _ s' full rows' ad cap c hf hle hw hb h1 hh =>
   simp only [zaZ] at h;split at h
   case isFalse=>cases h
   rename_i e;subst e
   cases h
   by_cases hne : rows=[]
   .subst hne
    exact ⟨ad,cap,[],rfl,hle,⟨by simp,by simp,by simp,λ i j hi=>absurd hi (by simp)⟩,λ _=>rfl,λ x hx j u hu=>by simp at hu⟩
   .obtain ⟨b,off,cells,ty,fz,rfl,hw1,hT,hc⟩:=hb hne
    have hs0 : ∀ k,k<rows.length*s'->cells[off+k]? = some (cells.getD (off+k) undef):=by
     intro k hk
     have hpos : 0<s':=by
      rcases Ui s' with h | h
      .rw [h] at hk; simp at hk
      .exact h
     have:=hc (k / s') (k % s') (Nat.div_lt_of_lt_mul (by rw [U5]; exact hk)) (Uj _ hpos)
     rw [UE,U5 (k / s'),Nat.div_add_mod] at this;rw [this,zaE this]
    refine ⟨_,cap,(List.range (rows.length*s')).map λ k=>cells.getD (off+k) undef,rfl,hle,zrt hw _ (λ i j hi hj=>?_),(λ e=>by cases e),λ x hx j u hu=>?_⟩
    .have e:=hc i j hi hj
     rw [UE] at e;rw [zaE e];exact ⟨h1 i j hi hj,(hh i j hi hj).mono (Pres.refl _ _) (λ _ _ e=>by cases e)⟩
    .cases hx
     simp only [Qs,Qv] at hu;obtain ⟨k,hk,rfl⟩:=hu;obtain ⟨hlt,rfl⟩:=Qy.1 hk;simp only [UB] at hlt;rw [Addr.add_none,zss hw1]
     simpa only [List.getElem_range] using hs0 j hlt
 | rs _ id off len cap ad g hg hz hl hnn hb =>
   simp only [zaZ,Uo] at h;obtain ⟨e,he,h⟩:=h;split at h
   case isFalse=>cases h
   rename_i hc
   cases h;obtain ⟨g',hg',ent⟩:=hs.ent id e he;obtain rfl:=Qf (hg.symm.trans hg');have hlen : ((e.rows.drop off).take len).length=len:=by simp; omega
   have hwide : ∀ row∈(e.rows.drop off).take len,row.length=s:=λ row hrow=>by rw [<- hc.1]; exact ent.wide (ent.s ▸ hz) row (UV (QY hrow))
   cases hblk : g.blk with
   | none =>
     have h0:=hnn hblk;have hl0 : len=0:=by omega
     subst hl0;exact ⟨ad,cap,[],by rw [hlen],by rw [hlen]; omega,⟨by simp,by simp,by simp,λ i j hi=>absurd hi (by simp)⟩,λ _=>rfl,λ x hx j u hu=>by simp at hu⟩
   | some b =>
     obtain ⟨ha,-,-,-,-,hfit⟩:=hb b hblk;obtain ⟨cells,ty,hcell,hT,hsz,hcc⟩:=ent.blk (ent.s ▸ hz) b hblk
     by_cases hl0 : len=0
     .subst hl0
      exact ⟨ad,cap,[],by rw [hlen],by rw [hlen]; omega,⟨by simp,by simp,by simp,λ i j hi=>absurd hi (by simp)⟩,λ _=>rfl,λ x hx j u hu=>by simp at hu⟩
     have ha' : ad=some ⟨b,g.base+off*g.s,none⟩:=by
      rcases ha with ha | ha
      .omega
      .exact ha
     subst ha';have hS : g.s=s:=ent.s.trans hc.1;have hes : e.s=s:=hc.1
     have hat : ∀ k,k<len*s->cells[g.base+off*s+k]? = some (cells.getD (g.base+off*s+k) undef):=by
      intro k hk;have : (off+len)*s<=e.rows.length*s:=QC _ hc.2;rw [QI] at this;rw [hes] at hsz;have hlt : g.base+off*s+k<cells.size:=by omega
      simp [Array.getD,hlt]
     refine ⟨_,cap,(List.range (((e.rows.drop off).take len).length*s)).map λ k=>cells.getD (g.base+off*s+k) undef,by rw [hlen],by rw [hlen]; exact hl,zrt hwide _ (λ i j hi hj=>?_),(λ e=>by cases e),λ x hx j u hu=>?_⟩
     .rw [hlen] at hi
      obtain ⟨v,hv,ho,hrv⟩:=hcc (off+i) j (by omega) (by omega)
      rw [hes,QI] at hv;have e1 : cells.getD (g.base+off*s+(i*s+j)) undef=v:=zaE (by rw [<- hv]; congr 1; omega)
      have e2 : ((e.rows.drop off).take len).getD i []=e.rows.getD (off+i) []:=by
       simp only [List.getD,Ud,Q8];rw [if_pos hi]
      rw [e1,e2];exact ⟨ho,hrv⟩
     .cases hx
      rw [hlen] at hu;simp only [Qs,Qv] at hu;obtain ⟨k,hk,rfl⟩:=hu;obtain ⟨hlt,rfl⟩:=Qy.1 hk;simp only [UB] at hlt;rw [Addr.add_none,hS,zss hcell]
      simpa only [List.getElem_range] using hat j hlt
 | rk=>exact absurd rfl (hx _ _ _ _)
 | _=>simp [zaZ] at h
theorem zb1 (hs : HsOk T w M st.hp) {X : AV} {v : Value} {s : Nat} {rows : List (List AV)} (hr : Rep T w M X v) (h : zaZ s st.hp X=some rows) :
  ∃ ad cap us,v = .slice ad rows.length cap/\rows.length<=cap/\RepF T w M s rows us/\(ad=none->us=[])/\(∀ x,ad=some x -> ∀ j u,us[j]? = some u->w.cell? (x.add j)=some u):=by
 cases X with
 | rk i o l c=>exact ziu hs (X:=.rs i o l) hr.rk_rs h (by simp)
 | _=>exact ziu hs hr h (by simp)
theorem Mem.newNil {hp : Nat->Option Ent} (h : Mem np T0 M0 w0 live hp T M w) {id : Nat} (hid : ¬ live id) (hnp : np<=id) (s : Nat) (hs0 : s≠0) {hp' : Nat->Option Ent} (hp1 : hp' id=some { s:=s,rows:=[],ro:=0 })
  (hp2 : ∀ i e',i≠id->hp' i=some e'->hp i=some e') :
  ∃ M' : GM,M' id=some ⟨none,0,s⟩/\(∀ i g,M i=some g->M' i=some g)/\Mem np T0 M0 w0 (λ i=>live i∨i=id) hp' T M' w:=by
 have hMid : M id=none:=by
  cases hm : M id with
  | none=>rfl
  | some g=>exact absurd (h.dom id g hm) hid
 have mm : ∀ i g,M i=some g->(λ i=>if i=id then some (GE.mk none 0 s) else M i) i=some g:=by
  intro i g hg;have : i≠id:=by rintro rfl; rw [hMid] at hg; cases hg
  simp only [this,Us]; exact hg
 refine ⟨λ i=>if i=id then some ⟨none,0,s⟩ else M i,by simp,mm,⟨λ i e' he=>?_,λ i i' e1 e2 g g' b h1 h2 h3 h4 h5 h6=>?_⟩,λ i g hg=>?_,?_⟩
 .by_cases hi : i=id
  .subst hi
   obtain rfl:=Qf (hp1.symm.trans he);exact ⟨⟨none,0,s⟩,if_pos rfl,rfl,Qi _,(λ _=>by simp),(λ _=>rfl),(λ h=>absurd h hs0),λ _ b hb=>by cases hb⟩
  .obtain ⟨g,h1,h2⟩:=h.hs.ent i e' (hp2 i e' hi he)
   exact ⟨g,by simp only [hi,Us]; exact h1,h2.mono (Pres.refl _ _) mm λ b _=>⟨rfl,rfl⟩⟩
 .by_cases hi : i=id
  .rw [if_pos hi] at h3
   obtain rfl:=Qf h3
   cases h5
  .by_cases hi' : i'=id
   .rw [if_pos hi'] at h4
    obtain rfl:=Qf h4
    cases h6
   .rw [if_neg hi] at h3; rw [if_neg hi'] at h4
    exact h.hs.inj i i' e1 e2 g g' b (hp2 i e1 hi h1) (hp2 i' e2 hi' h2) h3 h4 h5 h6
 .by_cases hi : i=id
  .exact .inr hi
  .rw [if_neg hi] at hg; exact .inl (h.dom i g hg)
 .refine h.after.step h.after.tok (λ _ _ _=>rfl) (λ k hk=>?_) rfl rfl rfl (Ql _) (λ _ _ _=>rfl) (Pres.refl _ _) λ k g b hk hg hb=>?_
  .have : k≠id:=by omega
   simp only [this,Us]
  .by_cases hi : k=id
   .rw [if_pos hi] at hg
    obtain rfl:=Qf hg
    cases hb
   .rw [if_neg hi] at hg
    exact h.after.new k g b hk hg hb
theorem zm7 {s : Nat} {hp : Nat->Option Ent} {new : List (List AV)} {X : AV} {old : List (List AV) × Nat × List (Nat × Option Ent)} (h : zbc s hp new X=some old) : zaZ s hp X=some old.1:=by
 unfold zbc at h;split at h
 .simp only [Qq] at h; subst h; rfl
 .split at h
  case isFalse=>cases h
  rename_i hc;simp only [Qq] at h;subst h;simp [zaZ,hc.1]
 .simp only [Uo] at h
  obtain ⟨e,he,h⟩:=h;split at h
  case isFalse=>cases h
  rename_i hc;simp only [Qq] at h;subst h;simp [zaZ,he,hc]
 .cases h
theorem zh1 (m : Mem np T0 M0 w0 live st.hp T M w) (fresh : ∀ k,k<8->¬ live (idb+k)) (npid : np<=idb) {X : AV} {v v' : Value} (hr : Rep T w M X v) {s : Nat} {new : List (List AV)} {old : List (List AV) × Nat × List (Nat × Option Ent)}
  (hold : zbc s st.hp new X=some old) {t tx ty e : TypeId} {i : TypeInfo} {zv : Value} (ht : P.underlying t=some (.slice e)) (hi : P.info? e=some i) (hz : i.zero=some zv) (hzs : zv.cells.size=s) (his : i.size=s) (hs0 : s≠0)
  {news : List Value} (hn : RepF T w M s new news) (src : Src P i.size tx v' new.length news w) (hb : (old.1.length+new.length)*i.bytes<=140737488355328) (hlim : old.1.length+new.length<=140737488355328)
  {f : Sem Next} (hf : ∀ r w1,(Builtin.append_ #[t,tx] ty #[v,v']).run P w = .ok r w1->f.run P w = .ok (.value r) w1) :
  Eff P np T0 M0 w0 live idb (st.upd ((idb,some { s:=s,rows:=old.1++new,ro:=old.2.1 })::old.2.2)).hp T M w (.rs idb 0 (old.1.length+new.length)) (f.run P w):=by
 obtain ⟨ad,cap,us,rfl,hcap,hus,hun,hucell⟩:=zb1 m.hs hr (zm7 hold)
 have hup : ∀ i,i≠idb -> ∀ e',(st.upd ((idb,some { s:=s,rows:=old.1++new,ro:=old.2.1 })::old.2.2)).hp i=some e'->st.hp i=some e'/\lkp old.2.2 i=none:=by
  intro j hj e' he';rw [St.hp_upd] at he';simp only [lkp,if_neg (Ne.symm hj)] at he';unfold zbc at hold;split at hold
  .simp only [Qq] at hold; subst hold; exact ⟨he',rfl⟩
  .split at hold
   case isFalse=>cases hold
   simp only [Qq] at hold; subst hold; exact ⟨he',rfl⟩
  .simp only [Uo] at hold
   obtain ⟨e,he,hold⟩:=hold;split at hold
   case isFalse=>cases hold
   simp only [Qq] at hold; subst hold;simp only [lkp] at he' ⊢;split at he'
   .cases he'
   .rename_i hne; exact ⟨he',by rw [if_neg hne]⟩
  .cases hold
 have hidb : (st.upd ((idb,some { s:=s,rows:=old.1++new,ro:=old.2.1 })::old.2.2)).hp idb=some { s:=s,rows:=old.1++new,ro:=old.2.1 }:=by
  rw [St.hp_upd]; simp [lkp]
 have hro : old.2.1<=(old.1++new).length:=by
  unfold zbc at hold;split at hold
  .simp only [Qq] at hold; subst hold; exact Qi _
  .split at hold
   case isFalse=>cases hold
   simp only [Qq] at hold; subst hold; exact Qi _
  .simp only [Uo] at hold
   obtain ⟨e,he,hold⟩:=hold;split at hold
   case isFalse=>cases hold
   rename_i hc;simp only [Qq] at hold; subst hold;simp;omega
  .cases hold
 have wider : ∀ {hp T M' w'},Mem np T0 M0 w0 (λ i=>live i∨i=idb) hp T M' w'->Mem np T0 M0 w0 (λ i=>live i∨(idb<=i/\i<idb+8)) hp T M' w':=λ h =>
  h.wider λ i hi=>hi.elim .inl λ hi=>.inr (by omega)
 have hall:=hus.append hn
 by_cases hgrow : cap<old.1.length+new.length
 .
  have hfc : (Builtin.firstCells i.size old.1.length (.slice ad old.1.length cap)).run P w.drew = .ok us.toArray w.drew:=by
   cases ad with
   | none=>rw [run_firstCells_none,hun rfl]
   | some x=>exact run_firstCells_some w.drew _ _ _ _ _ us (by rw [his]; exact hus.size) (λ j u hj=>by simpa using hucell x rfl j u hj)
  have run:=run_append_grow_src (P:=P) w t tx ty e i zv ht hi hz ad old.1.length cap us hfc v' new.length news src hgrow (by omega) (growslice_fits hgrow hb)
  have hcapge : old.1.length+new.length<=grownCap w (old.1.length+new.length) cap e:=by simp only [grownCap,Question.cut]; omega
  refine zeA m fresh npid (e:={ s:=s,rows:=old.1++new,ro:=old.2.1 }) (hf _ _ run) rfl rfl rfl rfl hs0 hro hall.wide ?_ (λ i j hi hj=>?_) _ (by simp [lkp]) (λ j x hj hx=>?_) λ M' hM'=>?_
  .simp only [UG,Uc,hall.size]
   omega
  .obtain ⟨u,hu,ho,hru⟩:=hall.cells hi hj
   refine ⟨u,?_,ho,hru⟩;rw [Q9]
   .simpa using hu
   .simp only [Uc,hall.size]
    exact zcE hi hj
  .simp only [lkp,if_neg (Ne.symm hj)] at hx
   unfold zbc at hold;split at hold
   .simp only [Qq] at hold; subst hold; cases hx
   .split at hold
    case isFalse=>cases hold
    simp only [Qq] at hold; subst hold; cases hx
   .simp only [Uo] at hold
    obtain ⟨e,he,hold⟩:=hold;split at hold
    case isFalse=>cases hold
    simp only [Qq] at hold; subst hold;simp only [lkp] at hx;split at hx
    .exact (Qf hx).symm
    .cases hx
   .cases hold
  .refine .rs _ _ 0 _ _ _ _ hM' hs0 hcapge (λ hn=>by cases hn) λ b' hb2=>?_
   obtain rfl:=Qf hb2;refine ⟨.inr (by simp),_,e,(0,0),(Array.getElem?_push_size : (w.drew.heap.push _)[w.drew.heap.size]? = _),?_⟩
   simp only [UG,Uc,Qh,hus.size,hn.size,size_zeroCells,hzs]
   have : (grownCap w (old.1.length+new.length) cap e - (old.1.length+new.length))*s+(old.1.length+new.length)*s=grownCap w (old.1.length+new.length) cap e*s:=by
    rw [<- QI]; congr 1; omega
   rw [QI] at this;omega
 .have hroom : old.1.length+new.length<=cap:=by omega
  have same : new=[]->f.run P w = .ok (.value (.slice ad old.1.length cap)) w:=by
   intro h0;have hnews : news=[]:=QK (by rw [hn.size,h0]; simp)
   rw [h0,hnews] at src;exact hf _ _ (run_append_nothing (P:=P) w t tx ty e i ht hi ad old.1.length cap (by omega) v' src)
  unfold zbc at hold;split at hold
  .
   simp only [Qq] at hold;subst hold
   cases hr;have h0 : new=[]:=QK (by simp at hroom; omega)
   rw [same h0];subst h0;obtain ⟨M',h1,h2,h3⟩:=m.newNil (fresh 0 (by omega)) npid s hs0 (hp':=(st.upd ((idb,some { s:=s,rows:=[]++[],ro:=0 })::[])).hp) hidb (λ j e' hj he=>(hup j hj e' he).1)
   exact ⟨T,M',wider h3,Pres.refl _ _,h2,.rs _ _ 0 _ _ _ _ h1 hs0 (Qi _) (λ _=>⟨rfl,rfl⟩) (λ b hb=>by cases hb)⟩
  .
   split at hold
   case isFalse=>cases hold
   rename_i rows hc;simp only [Qq] at hold;subst hold
   cases hr with
   | vs _ _ _ _ _ _ c hf' hle hw hb' h1 hh =>
     have hcf:=hf' rfl;have h0 : new=[]:=QK (by simp at hroom; omega)
     have hr0 : rows=[]:=by
      rcases hc.2 with h | h
      .exact h
      .exact absurd h0 h
     subst h0 hr0;rw [same rfl];obtain ⟨M',h1,h2,h3⟩:=m.newNil (fresh 0 (by omega)) npid s hs0 (hp':=(st.upd ((idb,some { s:=s,rows:=[]++[],ro:=0 })::[])).hp) hidb (λ j e' hj he=>(hup j hj e' he).1)
     exact ⟨T,M',wider h3,Pres.refl _ _,h2,.rs _ _ 0 _ _ _ _ h1 hs0 (Qi _) (λ _=>⟨rfl,by simpa using hcf⟩) (λ b hb=>by cases hb)⟩
  .
   simp only [Uo] at hold;obtain ⟨en,hen,hold⟩:=hold;split at hold
   case isFalse=>cases hold
   rename_i id off len hc;simp only [Qq] at hold;subst hold;have hlen : ((en.rows.drop off).take len).length=len:=by simp; omega
   simp only [hlen] at *;have hlen : ((en.rows.drop off).take len).length=len:=by simp; omega
   cases hr with
   | rs _ _ _ _ _ _ g hg hz hl hnn hbb =>
     obtain ⟨g',hg',ent⟩:=m.hs.ent id en hen;obtain rfl:=Qf (hg.symm.trans hg')
     cases hblk : g.blk with
     | none =>
       obtain ⟨ho0,hc0⟩:=hnn hblk;have h0 : new=[]:=QK (by omega)
       have hl0 : len=0:=by omega
       have hro0 : en.ro=0:=by have:=ent.ro; rw [ent.none hblk] at this; simpa using this
       subst h0 hl0;rw [same rfl];have hidb':=hidb;simp only [List.take_zero,QX,hro0,Nat.zero_sub] at hidb' ⊢
       obtain ⟨M',h1,h2,h3⟩:=m.newNil (fresh 0 (by omega)) npid s hs0 (hp':=(st.upd ((idb,some { s:=s,rows:=[],ro:=0 })::[(id,none)])).hp) hidb' (λ j e' hj he=>by
        refine (hup j hj e' ?_).1
        simpa [hro0] using he)
       exact ⟨T,M',wider h3,Pres.refl _ _,h2,.rs _ _ 0 _ _ _ _ h1 hs0 (Qi _) (λ _=>⟨rfl,hc0⟩) (λ b hb=>by cases hb)⟩
     | some b =>
       obtain ⟨ha,c1,t1,f1,hw1,hfit⟩:=hbb b hblk;obtain ⟨cells,tyc,hcell,hT,hsz,hcc⟩:=ent.blk (ent.s ▸ hz) b hblk
       have hc1 : c1=cells:=by
        have e:=hcell.symm.trans hw1;injection e with e;injection e with e;exact e.symm
       rw [hc1] at hfit;have hS : g.s=s:=ent.s.trans hc.1;have hes : en.s=s:=hc.1;have hroE : en.ro*en.s<=(off+len)*en.s:=QC _ hc.2.2
       have write : ∀ cells' : Array Value,cells'.size=cells.size->(∀ q : Nat,cells'[q]? = if g.base+(off+len)*s<=q/\q<g.base+(off+len)*s+news.length then news[q - (g.base+(off+len)*s)]? else cells[q]?) ->
         ∃ M' : GM,M' idb=some ⟨some b,g.base+off*s,s⟩/\(∀ i g,M i=some g->M' i=some g) /\
           Mem np T0 M0 w0 (λ i=>live i∨i=idb) (st.upd ((idb,some { s:=s,rows:=(en.rows.drop off).take len++new,ro:=en.ro - off })::[(id,none)])).hp T M' (w.setRow b cells')/\Pres T w T (w.setRow b cells'):=by
        intro cells' s1 s2
        have hfit' : g.base+off*s+(len+new.length)*s<=cells.size:=by
         have : (len+new.length)*s<=cap*s:=QC _ hroom;rw [hS] at hfit;omega
        have hroS : T b<=g.base+off*s+(en.ro - off)*s:=by
         rw [hes] at hT;have : en.ro*s<=(off+(en.ro - off))*s:=QC _ (by omega)
         rw [QI] at this;omega
        refine m.write (id':=idb) (g':=⟨some b,g.base+off*s,s⟩) (e:={ s:=s,rows:=(en.rows.drop off).take len++new,ro:=en.ro - off }) (cells':=cells') hen hg hblk hcell s1 (λ q hq=>?_)
         (.inr ⟨fresh 0 (by omega),npid⟩) rfl rfl hs0 hro hall.wide hroS (by simp only [Qh,hlen]; exact hfit') (λ i' j' hi' hj'=>?_) hidb (λ j e' hj he=>?_)
        .rw [s2,if_neg]
         rw [hes] at hT hroE;omega
        .simp only [Qh,hlen] at hi'
         have hj' : j'<s:=hj';have h9 : (off+len)*s=off*s+len*s:=QI _ _ _;simp only [s2];obtain ⟨u,hu,ho,hru⟩:=hall.cells (i:=i') (j:=j') (by simp only [Qh,hlen]; exact hi') hj'
         by_cases hi2 : i'<len
         .have h5 : i'*s+j'<len*s:=zcE hi2 hj'
          rw [if_neg (by omega)]
          obtain ⟨v,hv,ho',hrv⟩:=hcc (off+i') j' (by omega) (by omega)
          rw [hes,QI] at hv;refine ⟨v,by rw [<- hv]; congr 1; omega,ho',?_⟩
          have e2 : ((en.rows.drop off).take len++new).getD i' []=en.rows.getD (off+i') []:=by
           simp only [List.getD];rw [QJ (by rw [hlen]; exact hi2),Ud,if_pos hi2,Q8]
          rw [e2];exact hrv
         .have h5 : (i' - len)*s+j'<new.length*s:=zcE (by omega) hj'
          have h6 : i'*s=len*s+(i' - len)*s:=by rw [<- QI]; congr 1; omega
          have h7:=hn.size;have h8:=hus.size;rw [hlen] at h8;rw [if_pos (by omega)]
          refine ⟨u,?_,ho,hru⟩;rw [Qr (by omega)] at hu
          rw [<- hu]
          congr 1
          omega
        .obtain ⟨h1,h2⟩:=hup j hj e' he
         refine ⟨?_,h1⟩
         rintro rfl
         simp [lkp] at h2
       have rep : ∀ M' w' ,Pres T w T w'->M' idb=some ⟨some b,g.base+off*s,s⟩->Rep T w' M' (.rs idb 0 (len+new.length)) (.slice ad (len+new.length) cap):=by
        intro M' w' p hM';refine .rs _ _ 0 _ _ _ _ hM' hs0 hroom (λ hn=>by cases hn) λ b' hb2=>?_
        obtain rfl:=Qf hb2;obtain ⟨c',f',e1,e2,-⟩:=p.cell b cells tyc (0,0) hcell;refine ⟨?_,c',tyc,f',e1,by rw [e2]; rw [hS] at hfit; simpa using hfit⟩
        rcases ha with ha | ha
        .exact .inl ha
        .right; rw [ha,hS]; simp
       by_cases h0 : new=[]
       .have hnews : news=[]:=QK (by rw [hn.size,h0]; simp)
        obtain ⟨M',h1,h2,h3,h4⟩:=write cells rfl (λ q=>by rw [hnews]; simp; intro a b; omega)
        rw [setRow_self w b cells tyc (0,0) hcell] at h3 h4;rw [same h0];refine ⟨T,M',wider h3,h4,h2,?_⟩;have:=rep M' w h4 h1;rw [h0] at this ⊢
        simpa using this
       .have hpos2 : 0<new.length:=Ux.2 h0
        have ha' : ad=some ⟨b,g.base+off*s,none⟩:=by
         rcases ha with ha | ha
         .omega
         .rw [ha,hS]
        subst ha'
        have hin : g.base+(off+len)*s+news.length<=cells.size:=by
         have h1 : (len+new.length)*s<=cap*s:=QC _ hroom;rw [hS] at hfit;rw [hn.size];rw [QI] at h1 ⊢;omega
        have hst:=run_storeCells_at P b (g.base+(off+len)*s) tyc news 0 cells w hcell (by simpa using hin) hn.one
        simp only [Ua] at hst;obtain ⟨s1,s2⟩:=zoI cells (g.base+(off+len)*s) news hin
        have run : (Builtin.append_ #[t,tx] ty #[.slice (some ⟨b,g.base+off*s,none⟩) len cap,v']).run P w = .ok (.slice (some ⟨b,g.base+off*s,none⟩) (len+new.length) cap)
          (w.setRow b (cells.toList.take (g.base+(off+len)*s)++news++cells.toList.drop (g.base+(off+len)*s+news.length)).toArray):=by
         have hoff : g.base+off*s+len*s=g.base+(off+len)*s:=by rw [QI]; omega
         have hcs:=src.cells;rw [his] at hcs;rcases src.kind with ⟨e',hk⟩ | hk <;> simp [Builtin.append_,run_underlying ht,run_underlying hk,sizeOf,typeInfo,hi,src.len,hroom,his,hcs,Addr.add_lit,hoff,hst]
        obtain ⟨M',h1,h2,h3,h4⟩:=write _ s1 s2;rw [hf _ _ run];exact ⟨T,M',wider h3,h4,h2,rep M' _ h4 h1⟩
  .cases hold
end
section
variable {P : Program} {np : Nat} {T0 : Nat->Nat} {M0 : GM} {w0 : World} {live : Nat->Prop} {st : St} {T : Nat->Nat} {M : GM} {a : Act} {w : World} {idb : Nat}
theorem RepF.drew {T : Nat->Nat} {w : World} {M : GM} {s rows us} (h : RepF T w M s rows us) : RepF T w M s rows us:=h
theorem zsQ {tx e' : TypeId} (hk : P.underlying tx=some (.slice e')) {ad : Option Addr} {s n cap : Nat} {rows : List (List AV)} {us : List Value} (hu : RepF T w M s rows us) (hn : rows.length=n) (h0 : ad=none->us=[])
  (hc : ∀ x,ad=some x -> ∀ j u,us[j]? = some u->w.cell? (x.add j)=some u) (hpos : 0<s) : Src P s tx (.slice ad n cap) n us w:=by
 subst hn
 cases ad with
 | none =>
   have h1:=h0 rfl;have h2:=hu.size;rw [h1] at h2
   have h3 : rows.length=0:=by
    rcases Ui rows.length with h | h
    .exact h
    .have:=Nat.mul_pos h hpos; simp at h2; omega
   rw [h1,h3];exact Src.ofNil w hk cap
 | some x=>exact Src.ofSlice w hk x rows.length cap us hu.size (hc x rfl) hu.one
theorem zcO (b : ByteArray) : (zca b).length=b.size:=by
 unfold zca;rw [Qt,Ul];rfl
theorem zqd (b : ByteArray) : RepF T w M 1 (zca b) (byteCells b):=by
 refine ⟨by rw [byteCells_length,zcO,Nat.mul_one],λ row hrow=>?_,λ u hu=>?_,λ i j hi hj=>?_⟩
 .obtain ⟨x,_,rfl⟩:=Qg.1 hrow; rfl
 .obtain ⟨x,_,rfl⟩:=Qg.1 hu; rfl
 .obtain rfl : j=0:=by omega
  rw [zcO] at hi;have hi' : i<b.data.toList.length:=by rw [Ul]; exact hi
  have e1 : (zca b).getD i []=[AV.sc (.int .u8 (b.data.toList[i]).toNat)]:=by simp [zca,List.getD,hi]
  have e2 : (byteCells b).getD (i*1+0) undef = .int .u8 (b.data.toList[i]).toNat:=by simp [byteCells,List.getD,hi]
  rw [e1,e2];exact .sc _ _ rfl
theorem zgw (m : Mem np T0 M0 w0 live st.hp T M w) {id off len n s : Nat} {ad' : Option Addr} {cap' : Nat} {en : Ent} (hr : Rep T w M (.rs id off len) (.slice ad' len cap')) (hen : st.hp id=some en) (hes : en.s=s) (hro : en.ro<=off) (hlen : off<=en.rows.length) {nrows : List (List AV)}
  (hnl : nrows.length=n) (hn2 : n<=cap') {us : List Value} (hnu : RepF T w M s nrows us) {f : Sem Next} {val : Value} {av : AV} (hval : Rep T w M av val)
  (run : ∀ w1,(match ad' with | some x=>storeCells x us | none=>pure ()).run P w = .ok () w1->f.run P w = .ok (.value val) w1) :
  Eff P np T0 M0 w0 live idb (st.upd [(id,some { en with rows:=en.rows.take off++nrows++en.rows.drop (off+n) })]).hp T M w av (f.run P w):=by
 cases hr with
 | rs _ _ _ _ cap' ad' g hg hz hl hnn hbb =>
   obtain ⟨g',hg',ent⟩:=m.hs.ent id en hen;obtain rfl:=Qf (hg.symm.trans hg');have hS : g.s=s:=ent.s.trans hes
   cases hblk : g.blk with
   | none =>
     have hr0:=ent.none hblk;have hz:=hnn hblk;have hn0 : n=0:=by omega
     skip
     have e0 : en.rows.take off++nrows++en.rows.drop (off+n)=en.rows:=by rw [UU.1 (hnl.trans hn0),hr0,hn0]; simp
     have hnil : us=[]:=UU.1 (by rw [hnu.size,hnl,hn0]; simp)
     rw [run w (by rw [hnil]; cases ad' <;> rfl),e0]
     have hph : (st.upd [(id,some { en with rows:=en.rows })]).hp=st.hp:=by
      funext j
      rw [St.hp_upd];simp only [lkp];split
      .rename_i e; subst e; exact hen.symm
      .rfl
     rw [hph];exact ⟨T,M,m.wider (λ _ h=>.inl h),Pres.refl _ _,λ _ _ h=>h,hval⟩
   | some b =>
     obtain ⟨ha,c1,t1,f1,hw1,hfit⟩:=hbb b hblk;obtain ⟨cells,tyc,hcell,hT,hsz,hcc⟩:=ent.blk (ent.s ▸ hz) b hblk;rw [hes] at hsz hT
     have hc1 : c1=cells:=by
      have e:=hcell.symm.trans hw1;injection e with e;injection e with e;exact e.symm
     rw [hc1,show g.s=s from ent.s.trans hes] at hfit
     have hle2 : n*s<=cap'*s:=QC _ hn2
     have hin : g.base+off*s+(us).length<=cells.size:=by
      rw [hnu.size,hnl];omega
     obtain ⟨s1,s2⟩:=zoI cells (g.base+off*s) (us) hin;have hst:=run_storeCells_at P b (g.base+off*s) tyc (us) 0 cells w hcell (by simpa using hin) hnu.one
     simp only [Ua] at hst
     have hstore : (match ad' with | some x=>storeCells x (us) | none=>pure ()).run P w = .ok () (w.setRow b (cells.toList.take (g.base+off*s)++us++cells.toList.drop (g.base+off*s+(us).length)).toArray):=by
      rcases ha with ha | ha
      .have hn0 : n=0:=by omega
       have hnil : us=[]:=UU.1 (by rw [hnu.size,hnl,hn0]; simp)
       rw [hnil];simp only [QX,UW,Ua,UR,QP];rw [setRow_self w b cells tyc (0,0) hcell]
       cases ad' <;> rfl
      .rw [hS] at ha
       subst ha;exact hst
     have hrun:=run _ hstore;generalize (cells.toList.take (g.base+off*s)++us++cells.toList.drop (g.base+off*s+(us).length)).toArray=cells' at *;rw [hnu.size,hnl] at s2;have hlen' : (en.rows.take off++nrows++en.rows.drop (off+n)).length=off+n+(en.rows.length - (off+n)):=by simp; omega
     have hfits : g.base+(off+n+(en.rows.length - (off+n)))*s<=cells.size:=by
      rcases Nat.le_total en.rows.length (off+n) with h | h
      .rw [show off+n+(en.rows.length - (off+n))=off+n by omega,QI]
       omega
      .rw [show off+n+(en.rows.length - (off+n))=en.rows.length by omega]
       exact hsz
     obtain ⟨M',m1,m2,m3,m4⟩:=m.write (id':=id) (g':=g) (e:={ en with rows:=en.rows.take off++nrows++en.rows.drop (off+n) }) (cells':=cells') hen hg hblk hcell s1 (λ q hq=>by
       rw [s2,if_neg];have : en.ro*s<=off*s:=QC _ hro;omega) (.inl ⟨rfl,rfl⟩) hblk ent.s (ent.s ▸ hz) (by simp only; rw [hlen']; omega) (λ r hr=>by
       simp only [Qo] at hr;rcases hr with (hr | hr) | hr
       .exact ent.wide (ent.s ▸ hz) r (QY hr)
       .simp only; rw [hes]; exact hnu.wide r hr
       .exact ent.wide (ent.s ▸ hz) r (UV hr)) (by simp only; rw [hes]; exact hT) (by simp only; rw [hlen',hes]; exact hfits) (λ i' j' hi' hj'=>by
       simp only [hlen'] at hi';simp only [hes] at hj';simp only [hes,s2]
       by_cases hin' : off<=i'/\i'<off+n
       .have h1 : (i' - off)*s+j'<n*s:=zcE (by omega) hj'
        have h2 : i'*s=off*s+(i' - off)*s:=by rw [<- QI]; congr 1; omega
        rw [if_pos (by omega)]
        obtain ⟨u,hu,ho,hru⟩:=hnu.cells (i:=i' - off) (j:=j') (by rw [hnl]; omega) hj'
        refine ⟨u,by rw [<- hu]; congr 1; omega,ho,?_⟩
        have e1 : (en.rows.take off++nrows++en.rows.drop (off+n)).getD i' []=(nrows).getD (i' - off) []:=by
         simp only [List.getD];rw [Qx,Qr (by simp; omega),QJ (by simp; omega)]
         congr 2
         simp;omega
        rw [e1];exact hru
       .obtain ⟨u,hu,ho,hru⟩:=hcc i' j' (by omega) (by omega)
        rw [hes] at hu
        have h3 : ¬ (g.base+off*s<=g.base+i'*s+j'/\g.base+i'*s+j'<g.base+off*s+n*s):=by
         intro q;apply hin';constructor
         .rcases Ug i' off with h | h
          .have : (i'+1)*s<=off*s:=QC _ h
           rw [QI] at this;omega
          .exact h
         .rcases Ug i' (off+n) with h | h
          .exact h
          .have : (off+n)*s<=i'*s:=QC _ h
           rw [QI] at this;omega
        rw [if_neg h3];refine ⟨u,hu,ho,?_⟩
        have e1 : (en.rows.take off++nrows++en.rows.drop (off+n)).getD i' []=en.rows.getD i' []:=by
         simp only [List.getD];rcases Ug i' off with h | h
         .rw [Qx,QJ (by simp; omega),Ud,if_pos h]
         .rw [Qr (by simp; omega),Q8]
          congr 2
          simp;omega
        rw [e1]
        exact hru)
      (hp':=(st.upd [(id,some { en with rows:=en.rows.take off++nrows++en.rows.drop (off+n) })]).hp) (by rw [St.hp_upd]; simp [lkp]) (λ i' e' hne he'=>by
       rw [St.hp_upd] at he';simp only [lkp,if_neg (Ne.symm hne)] at he'
       exact ⟨hne,he'⟩)
     skip
     rw [hrun];refine ⟨T,M',m3.wider λ i' hi'=>?_,m4,m2,hval.mono m4 m2⟩;rcases hi' with hi' | hi'
     .exact .inl hi'
     .subst hi'; exact .inl (m.dom _ _ hg)
theorem zuk {Y : AV} {b : Option Addr} {mm cp n : Nat} (hr : Rep T w M Y (.slice b mm cp)) (hl : lenOf Y=some mm) (hn : n<=mm) : Rep T w M (cutN n Y) (.slice b n cp):=by
 generalize hv : Value.slice b mm cp=v at hr
 cases hr with
 | vs _ s full rows a cap c hf hle hw hb h1 h =>
   cases hv;simp only [cutN];have hlen : (rows.take n).length=n:=by simp; omega
   have e : Value.slice b n cp = .slice b (rows.take n).length cp:=by rw [hlen]
   rw [e];refine .vs _ s false _ _ _ c (λ h=>by cases h) (by omega) (λ r hr=>hw r (QY hr)) (λ hne=>?_) (λ i j hi hj=>h1 i j (by omega) hj) λ i j hi hj=>?_
   .have hne' : rows≠[]:=by rintro rfl; simp at hne
    obtain ⟨b',off,cells,ty,fz,ha,hw',hT,hc⟩:=hb hne';refine ⟨b',off,cells,ty,fz,ha,hw',?_,λ i j hi hj=>hc i j (by omega) hj⟩
    have : n*s<=rows.length*s:=QC _ hn;rw [hlen];omega
   .have e1 : (rows.take n).getD i []=rows.getD i []:=by simp [List.getD,Ud,show i<n by omega]
    rw [e1];exact h i j (by omega) hj
 | rs _ id off len cap a g hg hz hl' hn' hb =>
   cases hv;simp only [cutN,Nat.min_eq_left hn];exact .rs _ _ _ _ _ _ g hg hz (by omega) hn' hb
 | rk _ id off len cap a g hg hz hl' hn' hb =>
   cases hv;simp only [cutN,Nat.min_eq_left hn];exact .rk _ _ _ _ _ _ g hg hz (by omega) hn' hb
 | sc _ _ h1 =>
   subst hv
   have h0 : n=mm:=by
    simp only [lenOf] at hl;split at hl <;> simp_all
   subst h0;exact .sc _ _ h1
 | _=>simp [lenOf] at hl
theorem zv1 (m : Mem np T0 M0 w0 live st.hp T M w) {id off len c s : Nat} {v v' : Value} {en : Ent} (hr : Rep T w M (.rk id off len c) v) (hen : st.hp id=some en) (hes : en.s=s) (hle : off+len<=en.rows.length) (hro : en.ro<=off+len)
  {t tx ty e : TypeId} {i : TypeInfo} (ht : P.underlying t=some (.slice e)) (hi : P.info? e=some i) (his : i.size=s) {new : List (List AV)}
  {news : List Value} (hn : RepF T w M s new news) (src : Src P i.size tx v' new.length news w) (hfit : len+new.length<=c)
  {f : Sem Next} (hf : ∀ r w1,(Builtin.append_ #[t,tx] ty #[v,v']).run P w = .ok r w1->f.run P w = .ok (.value r) w1) :
  Eff P np T0 M0 w0 live idb (st.upd [(id,some { en with rows:=en.rows.take (off+len)++new++en.rows.drop (off+len+new.length) })]).hp T M w (.rk id off (len+new.length) c) (f.run P w):=by
 cases hr with
 | rk _ _ _ _ _ ad g hg hz hl hnn hbb =>
 by_cases h0 : new=[]
 .subst h0
  have hnews : news=[]:=QK (by rw [hn.size]; simp)
  rw [hnews] at src;rw [hf _ _ (run_append_nothing (P:=P) w t tx ty e i ht hi ad len c (by omega) v' src)]
  have e0 : en.rows.take (off+len)++[]++en.rows.drop (off+len+([] : List (List AV)).length)=en.rows:=by simp
  rw [e0]
  have hph : (st.upd [(id,some { en with rows:=en.rows })]).hp=st.hp:=by
   funext j
   rw [St.hp_upd];simp only [lkp];split
   .rename_i e; subst e; exact hen.symm
   .rfl
  rw [hph];exact ⟨T,M,m.wider (λ _ h=>.inl h),Pres.refl _ _,λ _ _ h=>h,.rk _ _ _ _ _ _ g hg hz hl hnn hbb⟩
 .have hpos : 0<new.length:=Ux.2 h0
  obtain ⟨g',hg',ent⟩:=m.hs.ent id en hen;obtain rfl:=Qf (hg.symm.trans hg');have hS : g.s=s:=ent.s.trans hes
  cases hblk : g.blk with
  | none=>have:=hnn hblk; omega
  | some b =>
    obtain ⟨ha,c1,t1,f1,hw1,hfc⟩:=hbb b hblk
    have ha' : ad=some ⟨b,g.base+off*g.s,none⟩:=by
     rcases ha with ha | ha
     .omega
     .exact ha
    subst ha';have hcs : (c - len)*g.s+len*g.s=c*g.s:=by rw [<- QI]; congr 1; omega
    refine zgw (T:=T) (M:=M) (ad':=some ⟨b,g.base+(off+len)*g.s,none⟩) (cap':=c - len) m (.rs _ id (off+len) 0 _ _ g hg hz (Qi _) (λ h=>by rw [hblk] at h; cases h) λ b' hb'=>?_) hen hes hro hle rfl (by omega) hn (val:=.slice (some ⟨b,g.base+off*g.s,none⟩) (len+new.length) c) ?_ λ w1 h1=>?_
    .rw [hblk] at hb'
     obtain rfl:=Qf hb';refine ⟨.inr rfl,c1,t1,f1,hw1,?_⟩;rw [QI];omega
    .refine .rk _ id off _ _ _ g hg hz hfit (λ h=>by rw [hblk] at h; cases h) λ b' hb'=>?_
     rw [hblk] at hb';obtain rfl:=Qf hb';exact ⟨.inr rfl,c1,t1,f1,hw1,hfc⟩
    .refine hf _ _ ?_
     have hoff : g.base+off*s+len*s=g.base+(off+len)*s:=by rw [QI]; omega
     have hcs:=src.cells;rw [his] at hcs;simp only [hS] at h1 ⊢;rcases src.kind with ⟨e',hk⟩ | hk <;> simp [Builtin.append_,run_underlying ht,run_underlying hk,sizeOf,typeInfo,hi,src.len,hfit,his,hcs,Addr.add_lit,hoff,h1]
theorem ztC (m : Mem np T0 M0 w0 live st.hp T M w) (fresh : ∀ k,k<8->¬ live (idb+k)) (npid : np<=idb) {id off len c s : Nat} {v v' : Value} {en : Ent} (hr : Rep T w M (.rk id off len c) v) (hen : st.hp id=some en) (hes : en.s=s) (hle : off+len<=en.rows.length)
  {t tx ty e : TypeId} {i : TypeInfo} {zv : Value} (ht : P.underlying t=some (.slice e)) (hi : P.info? e=some i) (hz : i.zero=some zv) (hzs : zv.cells.size=s) (his : i.size=s) {new : List (List AV)}
  {news : List Value} (hn : RepF T w M s new news) (src : Src P i.size tx v' new.length news w) (hgrow : c<len+new.length) (hb : (len+new.length)*i.bytes<=140737488355328) (hlim : len+new.length<=140737488355328)
  {f : Sem Next} (hf : ∀ r w1,(Builtin.append_ #[t,tx] ty #[v,v']).run P w = .ok r w1->f.run P w = .ok (.value r) w1) :
  Eff P np T0 M0 w0 live idb (st.upd [(idb,some { s:=s,rows:=(en.rows.drop off).take len++new,ro:=0 })]).hp T M w (.rs idb 0 (len+new.length)) (f.run P w):=by
 have hlen : ((en.rows.drop off).take len).length=len:=by simp; omega
 obtain ⟨ad,cap,us,hv,hcap,hus,hun,hucell⟩:=zb1 m.hs hr (s:=s) (rows:=(en.rows.drop off).take len) (by simp [zaZ,hen,hes,hle])
 have hs0 : s≠0:=by
  cases hr with
  | rk _ _ _ _ _ _ g hg hz' =>
    obtain ⟨g',hg',ent⟩:=m.hs.ent id en hen;obtain rfl:=Qf (hg.symm.trans hg');rw [<- hes,<- ent.s]; exact hz'
 have hcc : cap=c:=by
  cases hr with
  | rk=>injection hv with h1 h2 h3; exact h3.symm
 subst hcc hv;have hall:=hus.append hn
 have hfc : (Builtin.firstCells i.size ((en.rows.drop off).take len).length (.slice ad ((en.rows.drop off).take len).length cap)).run P w.drew = .ok us.toArray w.drew:=by
  cases ad with
  | none=>rw [run_firstCells_none,hun rfl]
  | some x=>exact run_firstCells_some w.drew _ _ _ _ _ us (by rw [his]; exact hus.size) (λ j u hj=>by simpa using hucell x rfl j u hj)
 rw [hlen] at hfc hcap hf;have run:=run_append_grow_src (P:=P) w t tx ty e i zv ht hi hz ad len cap us hfc v' new.length news src hgrow (by omega) (growslice_fits hgrow hb)
 have hcapge : len+new.length<=grownCap w (len+new.length) cap e:=by simp only [grownCap,Question.cut]; omega
 refine zeA m fresh npid (e:={ s:=s,rows:=(en.rows.drop off).take len++new,ro:=0 }) (hf _ _ run) rfl rfl rfl rfl hs0 (Qi _) hall.wide ?_ (λ i j hi hj=>?_) _ (by simp [lkp]) (λ j x hj hx=>?_) λ M' hM'=>?_
 .simp only [UG,Uc,hall.size]
  omega
 .obtain ⟨u,hu,ho,hru⟩:=hall.cells hi hj
  refine ⟨u,?_,ho,hru⟩;rw [Q9]
  .simpa using hu
  .simp only [Uc,hall.size]
   exact zcE hi hj
 .simp only [lkp,if_neg (Ne.symm hj)] at hx
  cases hx
 .refine .rs _ _ 0 _ _ _ _ hM' hs0 hcapge (λ hn=>by cases hn) λ b' hb2=>?_
  obtain rfl:=Qf hb2;refine ⟨.inr (by simp),_,e,(0,0),(Array.getElem?_push_size : (w.drew.heap.push _)[w.drew.heap.size]? = _),?_⟩
  have h1:=hus.size;rw [hlen] at h1;simp only [UG,Uc,Qh,h1,hn.size,size_zeroCells,hzs]
  have : (grownCap w (len+new.length) cap e - (len+new.length))*s+(len+new.length)*s=grownCap w (len+new.length) cap e*s:=by
   rw [<- QI]; congr 1; omega
  rw [QI] at this;omega
theorem zjN {z : List Value} {zv : Value} {s : Nat} (hone : ∀ v∈z,v.oneCell'=true) (hzl : zv.cells.toList=z) (hzs : z.length=s) (len : Nat) : RepF T w M s (List.replicate len (z.map .sc)) (Builtin.zeroCells zv.cells len).toList:=by
 have hzz : zv.cells=z.toArray:=by rw [<- hzl,QP]
 have hz1 : Builtin.zeroCells zv.cells len=(Array.range (len*z.toArray.size)).map λ i=>z.toArray[i % z.toArray.size]!:=by rw [Builtin.zeroCells,hzz]
 have hzr:=zfm (T:=T) (w:=w) (M:=M) hone hzs len (Builtin.zeroCells zv.cells len) _ hz1 (by simp [hzs])
 refine ⟨by rw [hz1]; simp [hzs],λ r hr=>by rw [List.eq_of_mem_replicate hr]; simpa using hzs,λ u hu=>?_,λ i j hi hj=>?_⟩
 .rw [hz1] at hu
  simp only [Qg,Array.mem_toList_iff,Array.mem_map,Array.mem_range] at hu;obtain ⟨q,hq,rfl⟩:=hu;simp only [Uc] at hq ⊢
  have hpos : 0<z.length:=by
   rcases Ui z.length with h0 | h0
   .rw [h0] at hq; simp at hq
   .exact h0
  have hlt:=Uj q hpos;have e1 : z.toArray[q % z.length]! = z[q % z.length]:=by simp [hlt]
  rw [e1];exact hone _ (Qj _)
 .obtain ⟨u,hu,_,hru⟩:=hzr i j hi hj
  have e1 : (Builtin.zeroCells zv.cells len).toList.getD (i*s+j) undef=u:=by simp [List.getD,hu]
  rw [e1];exact hru
theorem zsG (m : Mem np T0 M0 w0 live st.hp T M w) (fresh : ∀ k,k<8->¬ live (idb+k)) (npid : np<=idb) {id off len c s k : Nat} {v : Value} {en : Ent} (hr : Rep T w M (.rk id off len c) v) (hen : st.hp id=some en) (hes : en.s=s) (hle : off+len<=en.rows.length)
  {t tn ty e : TypeId} {i : TypeInfo} {zv : Value} {kq kn : IntKind} (ht : P.underlying t=some (.slice e)) (htn : P.underlying tn=some (.int kn)) (hi : P.info? e=some i) (hz : i.zero=some zv) {z : List Value} (hone : ∀ v∈z,v.oneCell'=true) (hzl : zv.cells.toList=z) (hzs : z.length=s) (his : i.size=s) (hpos : 0<s)
  (h0 : 0<k) (hgrow : c<len+k) (hb : (len+k)*i.bytes<=140737488355328) (hlim : len+k<=140737488355328)
  {f : Sem Next} (hf : ∀ r w1,(Builtin.append_ #[t,tn] ty #[v,.int kq k]).run P w = .ok r w1->f.run P w = .ok (.value r) w1) :
  Eff P np T0 M0 w0 live idb (st.upd [(idb,some { s:=s,rows:=(en.rows.drop off).take len++List.replicate k (z.map .sc),ro:=0 })]).hp T M w (.rs idb 0 (len+k)) (f.run P w):=by
 have hlen : ((en.rows.drop off).take len).length=len:=by simp; omega
 obtain ⟨ad,cap,us,hv,hcap,hus,hun,hucell⟩:=zb1 m.hs hr (s:=s) (rows:=(en.rows.drop off).take len) (by simp [zaZ,hen,hes,hle])
 have hcc : cap=c:=by
  cases hr with
  | rk=>injection hv with h1 h2 h3; exact h3.symm
 subst hcc hv;have hn:=zjN (T:=T) (w:=w) (M:=M) hone hzl hzs k;have hall:=hus.append hn
 have hfc : (Builtin.firstCells i.size ((en.rows.drop off).take len).length (.slice ad ((en.rows.drop off).take len).length cap)).run P w.drew = .ok us.toArray w.drew:=by
  cases ad with
  | none=>rw [run_firstCells_none,hun rfl]
  | some x=>exact run_firstCells_some w.drew _ _ _ _ _ us (by rw [his]; exact hus.size) (λ j u hj=>by simpa using hucell x rfl j u hj)
 rw [hlen] at hfc hcap hf;have hbk : k*i.bytes<=(len+k)*i.bytes:=QC _ (by omega)
 have run:=Lib.run_append_grow_zeros (P:=P) w t tn ty e i zv kq kn ht htn hi hz ad len cap us hfc k h0 (by omega) hgrow (by omega) (by omega) (growslice_fits hgrow hb)
 have hcapge : len+k<=grownCap w (len+k) cap e:=by simp only [grownCap,Question.cut]; omega
 have hzsz : zv.cells.size=s:=by rw [<- hzs,<- hzl]; simp
 have h1:=hus.size;rw [hlen] at h1
 have e1 : us.toArray++Builtin.zeroCells zv.cells k=(us++(Builtin.zeroCells zv.cells k).toList).toArray:=by
  apply Array.ext';simp
 rw [e1] at run;refine zeA m fresh npid (e:={ s:=s,rows:=(en.rows.drop off).take len++List.replicate k (z.map .sc),ro:=0 }) (hf _ _ run) rfl rfl rfl rfl (UP.1 hpos) (Qi _) hall.wide ?_ (λ i j hi hj=>?_) _ (by simp [lkp]) (λ j x hj hx=>?_) λ M' hM'=>?_
 .simp only [UG,Uc,hall.size]
  omega
 .obtain ⟨u,hu,ho,hru⟩:=hall.cells hi hj
  refine ⟨u,?_,ho,hru⟩;rw [Q9]
  .simpa using hu
  .simp only [Uc,hall.size]
   exact zcE hi hj
 .simp only [lkp,if_neg (Ne.symm hj)] at hx
  cases hx
 .refine .rs _ _ 0 _ _ _ _ hM' (UP.1 hpos) hcapge (λ hn=>by cases hn) λ b' hb2=>?_
  obtain rfl:=Qf hb2;refine ⟨.inr (by simp),_,e,(0,0),(Array.getElem?_push_size : (w.drew.heap.push _)[w.drew.heap.size]? = _),?_⟩
  have h2:=hn.size;rw [List.length_replicate] at h2;simp only [UG,Uc,Qh,h1,h2,size_zeroCells,hzsz]
  have : (grownCap w (len+k) cap e - (len+k))*s+(len+k)*s=grownCap w (len+k) cap e*s:=by
   rw [<- QI]; congr 1; omega
  rw [QI] at this;omega
theorem zkl (m : Mem np T0 M0 w0 live st.hp T M w) (fresh : ∀ k,k<8->¬ live (idb+k)) (npid : np<=idb) {s k : Nat}
  {t tn ty e : TypeId} {i : TypeInfo} {zv : Value} {kq kn : IntKind} (ht : P.underlying t=some (.slice e)) (htn : P.underlying tn=some (.int kn)) (hi : P.info? e=some i) (hz : i.zero=some zv) {z : List Value} (hone : ∀ v∈z,v.oneCell'=true) (hzl : zv.cells.toList=z) (hzs : z.length=s) (his : i.size=s) (hpos : 0<s)
  (h0 : 0<k) (hb : k*i.bytes<=140737488355328) (hlim : k<=140737488355328)
  {f : Sem Next} (hf : ∀ r w1,(Builtin.append_ #[t,tn] ty #[.slice none 0 0,.int kq k]).run P w = .ok r w1->f.run P w = .ok (.value r) w1) :
  Eff P np T0 M0 w0 live idb (st.upd [(idb,some { s:=s,rows:=List.replicate k (z.map .sc),ro:=0 })]).hp T M w (.rs idb 0 k) (f.run P w):=by
 have hn:=zjN (T:=T) (w:=w) (M:=M) hone hzl hzs k;have hfc : (Builtin.firstCells i.size 0 (.slice none 0 0)).run P w.drew = .ok ([] : List Value).toArray w.drew:=run_firstCells_none ..;have run:=Lib.run_append_grow_zeros (P:=P) w t tn ty e i zv kq kn ht htn hi hz none 0 0 [] hfc k h0 (by omega) (by omega) (by omega) (by omega) (growslice_fits (by omega) (by simpa using hb))
 simp only [Q0] at run;have hcapge : k<=grownCap w k 0 e:=by simp only [grownCap,Question.cut]; omega
 have hzsz : zv.cells.size=s:=by rw [<- hzs,<- hzl]; simp
 have e1 : ([] : List Value).toArray++Builtin.zeroCells zv.cells k=((Builtin.zeroCells zv.cells k).toList).toArray:=by
  apply Array.ext';simp
 rw [e1] at run;refine zeA m fresh npid (e:={ s:=s,rows:=List.replicate k (z.map .sc),ro:=0 }) (hf _ _ run) rfl rfl rfl rfl (UP.1 hpos) (Qi _) hn.wide ?_ (λ i j hi hj=>?_) _ (by simp [lkp]) (λ j x hj hx=>?_) λ M' hM'=>?_
 .simp only [UG,Uc,hn.size]
  omega
 .obtain ⟨u,hu,ho,hru⟩:=hn.cells hi hj
  refine ⟨u,?_,ho,hru⟩;rw [Q9]
  .simpa using hu
  .simp only [Uc,hn.size]
   exact zcE hi hj
 .simp only [lkp,if_neg (Ne.symm hj)] at hx
  cases hx
 .refine .rs _ _ 0 _ _ _ _ hM' (UP.1 hpos) hcapge (λ hn=>by cases hn) λ b' hb2=>?_
  obtain rfl:=Qf hb2;refine ⟨.inr (by simp),_,e,(0,0),(Array.getElem?_push_size : (w.drew.heap.push _)[w.drew.heap.size]? = _),?_⟩
  have h2:=hn.size;rw [List.length_replicate] at h2;simp only [UG,Uc,h2,size_zeroCells,hzsz]
  have : (grownCap w k 0 e - k)*s+k*s=grownCap w k 0 e*s:=by
   rw [<- QI]; congr 1; omega
  omega
theorem zmK {id s bytes : Nat} {x y : AV} {h : Nat->Option Ent} {K : AV->List Nat->List (Nat × Option Ent)->Prop} (hx : ¬ ∃ i o l c,x = .rk i o l c) : aK P np id (.app s bytes) [x,y] h K = ∃ new old,zaZ s h y=some new/\zbc s h new x=some old/\(old.1.length+new.length)*bytes<=140737488355328 /\
   old.1.length+new.length<=140737488355328 /\
   K (.rs id 0 (old.1.length+new.length)) (za8 x++za8 y) ((id,some { s:=s,rows:=old.1++new,ro:=old.2.1 })::old.2.2):=by
 cases x with
 | rk i o l c=>exact absurd ⟨_,_,_,_,rfl⟩ hx
 | _=>rfl
variable (tm : ∀ i,Rep T w M (st.get i) (a.tmps.getD i undef)) (m : Mem np T0 M0 w0 live st.hp T M w) (fresh : ∀ k,k<8->¬ live (idb+k)) (npid : np<=idb)
include tm m fresh npid
theorem zsi (o : Oper) (c : Call) (h : o.op = .call c) (hb : c.callee = .builtin .append) : Goal P np T0 M0 w0 live st T M a w idb o:=by
 intro K hk;simp only [zaz,h,hb] at hk;split at hk
 case h_2=>exact False.elim hk
 rename_i t u x y ht hx;have ht' : c.argTypes = #[t,u]:=by rw [<- QP (xs:=c.argTypes),ht]
 have hx' : c.args = #[x,y]:=by rw [<- QP (xs:=c.args),hx]
 have run : ∀ v v',a.eval x=v->a.eval y=v' -> ∀ r w1,(Builtin.append_ #[t,u] o.type #[v,v']).run P w = .ok r w1->(execOp a.eval o).run P w = .ok (.value r) w1:=by
  rintro v v' rfl rfl r w1 hr
  simp [execOp,h,resolve,hb,invoke,builtin,ht',hx',hr]
 have hr:=zaB tm x;have hr':=zaB tm y;split at hk
 case h_4=>exact False.elim hk
 case h_3 =>
  rename_i e kn hu hu';split at hk
  case h_2=>exact False.elim hk
  rename_i z s b hz hs hby;split at hk
  case isFalse=>exact False.elim hk
  rename_i hpos;obtain ⟨i,zv,hi,hzv,hzl,hzi,hone⟩:=zbB hz;have his : i.size=s:=by simpa [zbg,hi] using hs
  have hib : i.bytes=b:=by simpa [zgZ,hi] using hby
  simp only [List.map] at hk;generalize hX : (opd x).ev st.get=X at *;generalize hY : (opd y).ev st.get=Y at *
  by_cases hXn : X = .nilS
  .subst hXn
   cases Y <;> (try (simp only [AV.nilS,aK] at hk; done))
   rename_i q
   cases q <;> (try (simp only [AV.nilS,aK] at hk; done))
   rename_i kq n;simp only [AV.nilS,aK] at hk;obtain ⟨hzs,h0,hb1,hlim,hk⟩:=hk;have hv':=zaY hr' rfl;have hvn:=zaY hr rfl;have hn : Value.int kq n = .int kq (n.toNat : Int):=by congr 1; omega
   rw [hn] at hv';exact ⟨_,_,_,hk,zkl (f:=execOp a.eval o) (ty:=o.type) m fresh npid hu hu' hi hzv hone hzl hzs his hpos (by omega) (by rw [hib]; exact hb1) hlim (run _ _ hvn hv')⟩
  cases X <;> (try (simp only [aK] at hk; done))
  case sc v0 =>
   exfalso
   cases v0 <;> (try (simp only [aK] at hk; done))
   rename_i ad l cc
   cases ad <;> cases l <;> cases cc <;> (try (simp only [aK] at hk; done))
   exact hXn rfl
  rename_i id off len c'
  cases Y <;> (try (simp only [aK] at hk; done))
  rename_i q
  cases q <;> (try (simp only [aK] at hk; done))
  rename_i kq n;simp only [aK] at hk;obtain ⟨en,hen,hes,hzs,hle,h0,hgrow,hb1,hlim,hk⟩:=hk;have hv':=zaY hr' rfl;have hn : Value.int kq n = .int kq (n.toNat : Int):=by congr 1; omega
  rw [hn] at hv';exact ⟨_,_,_,hk,zsG (f:=execOp a.eval o) (ty:=o.type) m fresh npid hr hen hes hle hu hu' hi hzv hone hzl hzs his hpos (by omega) hgrow (by rw [hib]; exact hb1) hlim (run _ _ rfl hv')⟩
 .rename_i e e' hu hu'
  split at hk
  case h_2=>exact False.elim hk
  rename_i s b hs hby;split at hk
  case isFalse=>exact False.elim hk
  rename_i hz;obtain ⟨z,hz'⟩:=Option.isSome_iff_exists.1 hz.1;obtain ⟨i,zv,hi,hzv,hzl,hzi,hone⟩:=zbB hz';have his : i.size=s:=by simpa [zbg,hi] using hs
  have hib : i.bytes=b:=by simpa [zgZ,hi] using hby
  simp only [List.map] at hk;generalize hX : (opd x).ev st.get=X at *
  by_cases hrk : ∃ i o l c,X = .rk i o l c
  .obtain ⟨id,off,len,c',rfl⟩:=hrk
   simp only [aK] at hk;obtain ⟨new,en,hnew,hen,hes,hle,hro,hb1,hlim,hk⟩:=hk;obtain ⟨ad,cap,us,hv',hcap,hus,hun,huc⟩:=zb1 m.hs hr' hnew
   by_cases hfit : len+new.length<=c'
   .rw [if_pos hfit] at hk
    exact ⟨_,_,_,hk,zv1 (f:=execOp a.eval o) m hr hen hes hle hro hu hi his hus (by rw [his]; exact zsQ hu' hus rfl hun huc hz.2) hfit (run _ _ rfl hv')⟩
   .rw [if_neg hfit] at hk
    exact ⟨_,_,_,hk,ztC (f:=execOp a.eval o) m fresh npid hr hen hes hle hu hi hzv (by rw [<- hzl] at hzi; simp at hzi; omega) his hus (by rw [his]; exact zsQ hu' hus rfl hun huc hz.2) (by omega) (by rw [hib]; exact hb1) hlim (run _ _ rfl hv')⟩
  rw [zmK hrk] at hk;obtain ⟨new,old,hnew,hold,hb1,hlim,hk⟩:=hk;obtain ⟨ad,cap,us,hv',hcap,hus,hun,huc⟩:=zb1 m.hs hr' hnew;refine ⟨_,_,_,hk,zh1 (f:=execOp a.eval o) m fresh npid hr hold hu hi hzv (by rw [<- hzl] at hzi; simp at hzi; omega) his (UP.1 hz.2) hus (by rw [his]; exact zsQ hu' hus rfl hun huc hz.2) (by rw [hib]; exact hb1) hlim (run _ _ rfl hv')⟩
 .rename_i e hu hu'
  split at hk
  case h_2=>exact False.elim hk
  rename_i hs hby;split at hk
  case isFalse=>exact False.elim hk
  rename_i hz;obtain ⟨z,hz'⟩:=Option.isSome_iff_exists.1 hz;obtain ⟨i,zv,hi,hzv,hzl,hzi,hone⟩:=zbB hz';have his : i.size=1:=by simpa [zbg,hi] using hs
  have hib : i.bytes=1:=by simpa [zgZ,hi] using hby
  simp only [List.map] at hk;generalize hY : (opd y).ev st.get=Y at *
  cases Y <;> (try (simp only [aK] at hk; done))
  rename_i q
  cases q <;> (try (simp only [aK] at hk; done))
  rename_i bs;simp only [aK] at hk;obtain ⟨old,hold,hlim,hk⟩:=hk;have hv':=zaY hr' rfl;have hl:=zcO bs;have:=zh1 (f:=execOp a.eval o) (ty:=o.type) m fresh npid hr hold hu hi hzv (by rw [<- hzl] at hzi; simp at hzi; omega) his (UN 0) (zqd bs) (by rw [his,hl]; exact Src.ofString w hu' bs) (by rw [hib,hl]; omega) (by omega) (run _ _ rfl hv')
  rw [hl] at this;exact ⟨_,_,_,hk,this⟩
omit fresh npid in
theorem zvJ (o : Oper) (c : Call) (h : o.op = .call c) (hb : c.callee = .builtin .copy) : Goal P np T0 M0 w0 live st T M a w idb o:=by
 intro K hk;simp only [zaz,h,hb] at hk;split at hk
 case h_2=>exact False.elim hk
 rename_i t ts x y ht hx;have hx' : c.args = #[x,y]:=by rw [<- QP (xs:=c.args),hx]
 have ht' : c.argTypes[0]? = some t:=by rw [<- Array.getElem?_toList,ht]; rfl
 split at hk
 case h_2=>exact False.elim hk
 rename_i e hu;split at hk
 case h_2=>exact False.elim hk
 rename_i s hs
 have hsz' : (sizeOf e).run P w = .ok s w:=by
  simp only [zbg,Qv] at hs;obtain ⟨i,hi,hs⟩:=hs;simp [sizeOf,typeInfo,hi,hs]
 have hr:=zaB tm x;have hr':=zaB tm y;simp only [List.map] at hk;generalize hv : a.eval x=v at *;generalize (opd x).ev st.get=X at *;generalize hv' : a.eval y=v' at *;generalize (opd y).ev st.get=Y at *
 by_cases hrk : ∃ i o l c,X = .rk i o l c
 .obtain ⟨id,off,len,cq,rfl⟩:=hrk
  simp only [aK] at hk;obtain ⟨en,new,mm,hen,hes,hro,hoff,hmm,hnew,hk⟩:=hk;obtain ⟨b',cp',rfl⟩:=zna hr' hmm;obtain ⟨n,hn⟩ : ∃ n,n=min mm len:=⟨_,rfl⟩;rw [<- hn] at hk hnew;obtain ⟨ad,cap,us,hvv,hcap,hus,hun,huc⟩:=zb1 m.hs (zuk hr' hmm (show n<=mm by omega)) hnew
  injection hvv with q1 q2 q3;subst q1 q3
  have hfc : (Builtin.firstCells s n (.slice b' mm cp')).run P w = .ok us.toArray w:=by
   cases b' with
   | none=>rw [run_firstCells_none,hun rfl]
   | some x=>exact run_firstCells_some w _ _ _ _ _ _ (by rw [hus.size,<- q2]) (λ j u hj=>huc x rfl j u hj)
  have hr2:=hr.rk_rs;have hrv : ∃ ad' ,v = .slice ad' len cq:=by cases hr; exact ⟨_,rfl⟩
  obtain ⟨ad',rfl⟩:=hrv;have hlc : len<=cq:=by cases hr; assumption
  have hnm : Nat.min mm len=n:=hn.symm;refine ⟨_,_,_,hk,zgw m hr2 hen hes hro hoff q2.symm (by omega) hus (val:=.int .i64 n) (.sc _ _ rfl) λ w1 h1=>?_⟩
  cases ad' with
  | none =>
    simp at h1;subst h1;simp [execOp,h,resolve,hb,invoke,builtin,Builtin.copy_,hx',ht',hv,hv',zak hu,hsz',Builtin.lenOf,hnm,hfc,goInt]
  | some x =>
    simp only at h1;simp [execOp,h,resolve,hb,invoke,builtin,Builtin.copy_,hx',ht',hv,hv',zak hu,hsz',Builtin.lenOf,hnm,hfc,goInt,h1]
 cases X <;> (try (simp only [aK] at hk; done)) <;> (try (exact absurd ⟨_,_,_,_,rfl⟩ hrk))
 rename_i id off len;simp only [aK] at hk;obtain ⟨en,new,hen,hes,hro,hlen,hnew,hk⟩:=hk;obtain ⟨ad,cap,us,rfl,hcap,hus,hun,huc⟩:=zb1 m.hs hr' hnew;obtain ⟨n,hn⟩ : ∃ n,n=min new.length len:=⟨_,rfl⟩;have hn1 : n<=new.length:=by omega
 have hn2 : n<=len:=by omega
 rw [<- hn] at hk;have htl : (new.take n).length=n:=by simp; omega
 have hnu : RepF T w M s (new.take n) (us.take (n*s)):=by
  have hle : n*s<=new.length*s:=QC _ hn1;have hul : (us.take (n*s)).length=n*s:=by rw [QW,hus.size]; omega
  refine ⟨by rw [hul,htl],λ r hr=>hus.wide r (QY hr),λ u hu=>hus.one u (QY hu),λ i j hi hj=>?_⟩
  rw [htl] at hi;have h1:=zcE hi hj;have e1 : (new.take n).getD i []=new.getD i []:=by simp [List.getD,Ud,hi]
  have e2 : (us.take (n*s)).getD (i*s+j) undef=us.getD (i*s+j) undef:=by simp [List.getD,Ud,h1]
  rw [e1,e2];exact hus.cell i j (by omega) hj
 have hfc : (Builtin.firstCells s n (.slice ad new.length cap)).run P w = .ok (us.take (n*s)).toArray w:=by
  cases ad with
  | none=>rw [run_firstCells_none,hun rfl]; simp
  | some x=>exact run_firstCells_some w _ _ _ _ _ _ (by rw [hnu.size,htl]) (λ j u hj=>huc x rfl j u (by
    rw [Ud] at hj;split at hj
    .exact hj
    .cases hj))
 have hnm : Nat.min new.length len=n:=hn.symm
 cases hr with
 | rs _ _ _ _ cap' ad' g hg hz hl hnn hbb =>
   obtain ⟨g',hg',ent⟩:=m.hs.ent id en hen;obtain rfl:=Qf (hg.symm.trans hg')
   have run : ∀ w1,(match ad' with | some x=>storeCells x (us.take (n*s)) | none=>pure ()).run P w = .ok () w1->(execOp a.eval o).run P w = .ok (.value (.int .i64 n)) w1:=by
    intro w1 h1
    cases ad' with
    | none =>
      simp at h1;subst h1;simp [execOp,h,resolve,hb,invoke,builtin,Builtin.copy_,hx',ht',hv,hv',zak hu,hsz',Builtin.lenOf,hnm,hfc,goInt]
    | some x =>
      simp only at h1;simp [execOp,h,resolve,hb,invoke,builtin,Builtin.copy_,hx',ht',hv,hv',zak hu,hsz',Builtin.lenOf,hnm,hfc,goInt,h1]
   have hS : g.s=s:=ent.s.trans hes
   cases hblk : g.blk with
   | none =>
     have hr0:=ent.none hblk;have hz:=hnn hblk;have hn0 : n=0:=by omega
     refine ⟨_,_,_,hk,?_⟩;have e0 : en.rows.take off++new.take n++en.rows.drop (off+n)=en.rows:=by rw [hr0,hn0]; simp
     have hnil : us.take (n*s)=[]:=by rw [hn0]; simp
     rw [run w (by rw [hnil]; cases ad' <;> rfl),e0]
     have hph : (st.upd [(id,some { en with rows:=en.rows })]).hp=st.hp:=by
      funext j
      rw [St.hp_upd];simp only [lkp];split
      .rename_i e; subst e; exact hen.symm
      .rfl
     rw [hph];exact ⟨T,M,m.wider (λ _ h=>.inl h),Pres.refl _ _,λ _ _ h=>h,.sc _ _ rfl⟩
   | some b =>
     obtain ⟨ha,c1,t1,f1,hw1,hfit⟩:=hbb b hblk;obtain ⟨cells,tyc,hcell,hT,hsz,hcc⟩:=ent.blk (ent.s ▸ hz) b hblk;rw [hes] at hsz hT;have hle2 : (off+n)*s<=en.rows.length*s:=QC _ (by omega)
     have hin : g.base+off*s+(us.take (n*s)).length<=cells.size:=by
      rw [hnu.size,htl];rw [QI] at hle2;omega
     obtain ⟨s1,s2⟩:=zoI cells (g.base+off*s) (us.take (n*s)) hin;have hst:=run_storeCells_at P b (g.base+off*s) tyc (us.take (n*s)) 0 cells w hcell (by simpa using hin) hnu.one
     simp only [Ua] at hst
     have hstore : (match ad' with | some x=>storeCells x (us.take (n*s)) | none=>pure ()).run P w = .ok () (w.setRow b (cells.toList.take (g.base+off*s)++us.take (n*s)++cells.toList.drop (g.base+off*s+(us.take (n*s)).length)).toArray):=by
      rcases ha with ha | ha
      .have hn0 : n=0:=by omega
       have hnil : us.take (n*s)=[]:=by rw [hn0]; simp
       rw [hnil];simp only [QX,UW,Ua,UR,QP];rw [setRow_self w b cells tyc (0,0) hcell]
       cases ad' <;> rfl
      .rw [hS] at ha
       subst ha;exact hst
     have hrun:=run _ hstore;generalize (cells.toList.take (g.base+off*s)++us.take (n*s)++cells.toList.drop (g.base+off*s+(us.take (n*s)).length)).toArray=cells' at *;rw [hnu.size,htl] at s2;have hlen' : (en.rows.take off++new.take n++en.rows.drop (off+n)).length=en.rows.length:=by simp; omega
     obtain ⟨M',m1,m2,m3,m4⟩:=m.write (id':=id) (g':=g) (e:={ en with rows:=en.rows.take off++new.take n++en.rows.drop (off+n) }) (cells':=cells') hen hg hblk hcell s1 (λ q hq=>by
       rw [s2,if_neg];have : en.ro*s<=off*s:=QC _ hro;omega) (.inl ⟨rfl,rfl⟩) hblk ent.s (ent.s ▸ hz) (by simp only; rw [hlen']; exact ent.ro) (λ r hr=>by
       simp only [Qo] at hr;rcases hr with (hr | hr) | hr
       .exact ent.wide (ent.s ▸ hz) r (QY hr)
       .simp only; rw [hes]; exact hnu.wide r hr
       .exact ent.wide (ent.s ▸ hz) r (UV hr)) (by simp only; rw [hes]; exact hT) (by simp only; rw [hlen',hes]; exact hsz) (λ i' j' hi' hj'=>by
       simp only [hlen'] at hi';simp only [hes] at hj';simp only [hes,s2]
       by_cases hin' : off<=i'/\i'<off+n
       .have h1 : (i' - off)*s+j'<n*s:=zcE (by omega) hj'
        have h2 : i'*s=off*s+(i' - off)*s:=by rw [<- QI]; congr 1; omega
        rw [if_pos (by omega)]
        obtain ⟨u,hu,ho,hru⟩:=hnu.cells (i:=i' - off) (j:=j') (by rw [htl]; omega) hj'
        refine ⟨u,by rw [<- hu]; congr 1; omega,ho,?_⟩
        have e1 : (en.rows.take off++new.take n++en.rows.drop (off+n)).getD i' []=(new.take n).getD (i' - off) []:=by
         simp only [List.getD];rw [Qx,Qr (by simp; omega),QJ (by simp; omega)]
         congr 2
         simp;omega
        rw [e1];exact hru
       .obtain ⟨u,hu,ho,hru⟩:=hcc i' j' hi' (by omega)
        rw [hes] at hu
        have h3 : ¬ (g.base+off*s<=g.base+i'*s+j'/\g.base+i'*s+j'<g.base+off*s+n*s):=by
         intro q;apply hin';constructor
         .rcases Ug i' off with h | h
          .have : (i'+1)*s<=off*s:=QC _ h
           rw [QI] at this;omega
          .exact h
         .rcases Ug i' (off+n) with h | h
          .exact h
          .have : (off+n)*s<=i'*s:=QC _ h
           rw [QI] at this;omega
        rw [if_neg h3];refine ⟨u,hu,ho,?_⟩
        have e1 : (en.rows.take off++new.take n++en.rows.drop (off+n)).getD i' []=en.rows.getD i' []:=by
         simp only [List.getD];rcases Ug i' off with h | h
         .rw [Qx,QJ (by simp; omega),Ud,if_pos h]
         .rw [Qr (by simp; omega),Q8]
          congr 2
          simp;omega
        rw [e1]
        exact hru)
      (hp':=(st.upd [(id,some { en with rows:=en.rows.take off++new.take n++en.rows.drop (off+n) })]).hp) (by rw [St.hp_upd]; simp [lkp]) (λ i' e' hne he'=>by
       rw [St.hp_upd] at he';simp only [lkp,if_neg (Ne.symm hne)] at he'
       exact ⟨hne,he'⟩)
     refine ⟨_,_,_,hk,?_⟩;rw [hrun];refine ⟨T,M',m3.wider λ i' hi'=>?_,m4,m2,.sc _ _ rfl⟩;rcases hi' with hi' | hi'
     .exact .inl hi'
     .subst hi'; exact .inl (m.dom _ _ hg)
omit fresh npid in
theorem zxO (o : Oper) (c : Call) (h : o.op = .call c) (hb : c.callee = .builtin .clear) : Goal P np T0 M0 w0 live st T M a w idb o:=by
 intro K hk;simp only [zaz,h,hb] at hk;split at hk
 case h_2=>exact False.elim hk
 rename_i t x ht hx;have hx' : c.args = #[x]:=by rw [<- QP (xs:=c.args),hx]
 have ht' : c.argTypes = #[t]:=by rw [<- QP (xs:=c.argTypes),ht]
 split at hk
 case h_2=>exact False.elim hk
 rename_i e hu;split at hk
 case h_2=>exact False.elim hk
 rename_i z s hz hs;obtain ⟨i,zv,hi,hzv,hzl,hzi,hone⟩:=zbB hz;have his : i.size=s:=by simpa [zbg,hi] using hs
 have hr:=zaB tm x;simp only [List.map] at hk;generalize hv : a.eval x=v at *;generalize (opd x).ev st.get=X at *
 have key : ∃ id off len en,Rep T w M (.rs id off len) v/\st.hp id=some en/\en.s=s/\z.length=s/\en.ro<=off/\off+len<=en.rows.length/\K .dead [id] [(id,some { en with rows:=en.rows.take off++List.replicate len (z.map .sc)++en.rows.drop (off+len) })]:=by
  cases X <;> (try (simp only [aK] at hk; done))
  .simp only [aK] at hk
   obtain ⟨en,hk⟩:=hk;exact ⟨_,_,_,en,hr,hk⟩
  .simp only [aK] at hk
   obtain ⟨en,hk⟩:=hk;exact ⟨_,_,_,en,hr.rk_rs,hk⟩
 clear hk hr
 obtain ⟨id,off,len,en,hr,hen,hes,hzs,hro,hlen,hk⟩:=key;refine ⟨_,_,_,hk,?_⟩;have hzc : zv.cells.size=s:=by rw [<- hzs,<- hzl]; simp
 have hrv : ∃ ad' cap',v = .slice ad' len cap'/\len<=cap':=by cases hr; exact ⟨_,_,rfl,by assumption⟩
 obtain ⟨ad',cap',rfl,hlc⟩:=hrv
 have hnu : RepF T w M s (List.replicate len (z.map .sc)) (Builtin.zeroCells zv.cells len).toList:=by
  have hzz : zv.cells=z.toArray:=by rw [<- hzl,QP]
  have hz1 : Builtin.zeroCells zv.cells len=(Array.range (len*z.toArray.size)).map λ i=>z.toArray[i % z.toArray.size]!:=by rw [Builtin.zeroCells,hzz]
  have hzr:=zfm (T:=T) (w:=w) (M:=M) hone hzs len (Builtin.zeroCells zv.cells len) _ hz1 (by simp [hzs])
  refine ⟨by rw [hz1]; simp [hzs],λ r hr=>by rw [List.eq_of_mem_replicate hr]; simpa using hzs,λ u hu=>?_,λ i j hi hj=>?_⟩
  .rw [hz1] at hu
   simp only [Qg,Array.mem_toList_iff,Array.mem_map,Array.mem_range] at hu;obtain ⟨q,hq,rfl⟩:=hu;simp only [Uc] at hq ⊢
   have hpos : 0<z.length:=by
    rcases Ui z.length with h0 | h0
    .rw [h0] at hq; simp at hq
    .exact h0
   have hlt:=Uj q hpos;have e1 : z.toArray[q % z.length]! = z[q % z.length]:=by simp [hlt]
   rw [e1];exact hone _ (Qj _)
  .obtain ⟨u,hu,_,hru⟩:=hzr i j hi hj
   have e1 : (Builtin.zeroCells zv.cells len).toList.getD (i*s+j) undef=u:=by simp [List.getD,hu]
   rw [e1];exact hru
 refine zgw m hr hen hes hro (by omega) (by simp) hlc hnu (val:=.tuple #[]) (.dead _ _) λ w1 h1=>?_
 have hzr : (zeroValue e).run P w = .ok zv w:=by simp [zeroValue,typeInfo,hi,hzv]
 have hcl : (Builtin.clear_ #[t] o.type #[.slice ad' len cap']).run P w = .ok (.tuple #[]) w1:=by
  cases ad' with
  | none =>
    simp at h1;subst h1;simp [Builtin.clear_,zak hu]
  | some ad =>
    cases len with
    | zero =>
      simp [Builtin.zeroCells,storeCells] at h1;subst h1;simp [Builtin.clear_,zak hu]
    | succ l=>simp [Builtin.clear_,zak hu,hzr,h1]
 simp [execOp,h,resolve,hb,invoke,builtin,hx',ht',hv,hcl]
end
theorem zaM (f : AV->AV) (hf : f .dead = .dead) (l : List AV) (i : Nat) : (l.map f).getD i .dead=f (l.getD i .dead):=by
 simp only [List.getD,Qs]
 cases l[i]? with
 | none=>simp [hf]
 | some x=>rfl
theorem zbl (ρ : List (Nat × Nat)) (sn : List Nat) (h : Nat->Option Ent) (n : Nat) : conv ρ sn h n .dead = .dead:=by cases n <;> rfl
theorem Wk.rep {T : Nat->Nat} {w : World} {x y : AV} (h : Wk x y) : ∀ {M : GM} {v : Value},Rep T w M x v->Rep T w M y v:=by
 induction h with
 | refl x=>exact λ h=>h
 | dead x=>exact λ _=>.dead _ _
 | nil s f =>
   intro M v hr
   cases hr;exact .vs _ s f [] none 0 (λ _ _=>undef) (λ _=>rfl) (Ql _) (by simp) (λ h=>absurd rfl h) (λ i j hi=>absurd hi (by simp)) (λ i j hi=>absurd hi (by simp))
 | mt s c a =>
   intro M v hr
   cases hr;exact .vs _ s false [] a c (λ _ _=>undef) (λ e=>by cases e) (Qi _) (by simp) (λ h=>absurd rfl h) (λ i j hi=>absurd hi (by simp)) (λ i j hi=>absurd hi (by simp))
 | full s rows =>
   intro M v hr
   cases hr with
   | vs _ _ _ _ a cap c hf hle hw hb h1 hh=>exact .vs _ _ _ _ a cap c (λ e=>by cases e) hle hw hb h1 hh
 | rows s f xs ys hl hw _ ih =>
   intro M v hr
   cases hr with
   | vs _ _ _ _ a cap c hf hle hwd hb h1 hh =>
     have hy : ∀ row∈ys,row.length=s:=λ row hrow=>by
      obtain ⟨i,hi,rfl⟩:=QF.1 hrow;have e1 : xs.getD i []=xs[i]'(by omega):=by simp [List.getD,show i<xs.length by omega]
      have e2 : ys.getD i []=ys[i]:=by simp [List.getD,hi]
      have:=hw i;rw [e1,e2] at this;rw [<- this];exact hwd _ (Qj _)
     refine hl ▸ .vs _ s f ys a cap c (λ e=>(hf e).trans hl) (hl ▸ hle) hy (λ hne=>?_) (λ i j hi hj=>h1 i j (by omega) hj) λ i j hi hj=>ih i j (hh i j (by omega) hj)
     have hne' : xs≠[]:=λ e=>hne (QK (by rw [<- hl,e]; rfl))
     obtain ⟨b,off,cells,ty,fz,q1,q2,q3,q4⟩:=hb hne';exact ⟨b,off,cells,ty,fz,q1,q2,by rw [<- hl]; exact q3,λ i j hi hj=>q4 i j (by omega) hj⟩
 | pv xs ys hl _ ih =>
   intro M v hr
   cases hr with
   | pv _ _ b off cells ty fz c hb ht hc h1 hh=>exact .pv _ ys b off cells ty fz c hb (hl ▸ ht) (λ j hj=>hc j (by omega)) (λ j hj=>h1 j (by omega)) λ j hj=>ih j (hh j (by omega))
 | agg xs ys hl _ ih =>
   intro M v hr
   cases hr with
   | agg _ _ us hus h1 hh=>exact .agg _ _ _ (hus.trans hl) (λ i hi=>h1 i (hl ▸ hi)) λ i hi=>ih i (hh i (hl ▸ hi))
 | tup xs ys hl _ ih =>
   intro M v hr
   cases hr with
   | tup _ _ us hus hh=>exact .tup _ _ _ (hus.trans hl) λ i hi=>ih i (hh i (hl ▸ hi))
theorem WkL.length : ∀ {xs ys : List AV},WkL xs ys->xs.length=ys.length
 | [],[],_=>rfl
 | _::_,_::_,h=>by simp [WkL.length h.2]
 | [],_::_,h=>False.elim h
 | _::_,[],h=>False.elim h
theorem WkL.get : ∀ {xs ys : List AV},WkL xs ys -> ∀ i : Nat,i<xs.length->Wk (xs.getD i .dead) (ys.getD i .dead)
 | x::xs,y::ys,h,0,_=>h.1
 | x::xs,y::ys,h,i+1,hi=>by simpa using WkL.get h.2 i (by simpa using hi)
 | [],[],_,i,hi=>absurd hi (by simp)
 | [],_::_,h,_,_=>False.elim h
 | _::_,[],h,_,_=>False.elim h
theorem zli {T : Nat->Nat} {w : World} {M : GM} {hp : Nat->Option Ent} (hs : HsOk T w M hp) (tok : TOk T w) (sn : List Nat) :
  ∃ T1 : Nat->Nat,(∀ b,T b<=T1 b)/\TOk T1 w/\(∀ i∈sn,∀ e g b,hp i=some e->M i=some g->g.blk=some b->T1 b=g.base+e.rows.length*e.s) /\
    (∀ b,(∀ i∈sn,∀ e g,hp i=some e->M i=some g->g.blk≠some b)->T1 b=T b):=by
 classical
 let p : Nat->Nat × Ent × GE->Prop:=λ b x=>x.1∈sn/\hp x.1=some x.2.1/\M x.1=some x.2.2/\x.2.2.blk=some b
 let T1 : Nat->Nat:=λ b=>if h : ∃ x,p b x then (Classical.choose h).2.2.base+(Classical.choose h).2.1.rows.length*(Classical.choose h).2.1.s else T b
 have key : ∀ b x,p b x->T1 b=x.2.2.base+x.2.1.rows.length*x.2.1.s:=by
  intro b x hx;have hex : ∃ x,p b x:=⟨x,hx⟩;have hc:=Classical.choose_spec hex;have h1 : T1 b=(Classical.choose hex).2.2.base+(Classical.choose hex).2.1.rows.length*(Classical.choose hex).2.1.s:=dif_pos hex;rw [h1];have e1:=hs.inj _ _ _ _ _ _ b hc.2.1 hx.2.1 hc.2.2.1 hx.2.2.1 hc.2.2.2 hx.2.2.2;have e2 : (Classical.choose hex).2.1=x.2.1:=Qf (hc.2.1.symm.trans (by rw [e1]; exact hx.2.1))
  have e3 : (Classical.choose hex).2.2=x.2.2:=Qf (hc.2.2.1.symm.trans (by rw [e1]; exact hx.2.2.1))
  rw [e2,e3]
 refine ⟨T1,λ b=>?_,λ b hb=>?_,λ i hi e g b h1 h2 h3=>key b (i,e,g) ⟨hi,h1,h2,h3⟩,λ b hb=>?_⟩
 .by_cases h : ∃ x,p b x
  .obtain ⟨x,hx⟩:=h
   rw [key b x hx];obtain ⟨g,hg,ent⟩:=hs.ent _ _ hx.2.1;obtain rfl:=Qf (hx.2.2.1.symm.trans hg)
   by_cases hz : x.2.1.s=0
   .obtain ⟨b',es,clock,hbb,h1,h2,h5,h4⟩:=ent.mp hz
    obtain rfl:=Qf (hbb.symm.trans hx.2.2.2);omega
   obtain ⟨cells,ty,h1,h2,h3,h4⟩:=ent.blk hz b hx.2.2.2;have:=QC x.2.1.s ent.ro;omega
  .have : T1 b=T b:=dif_neg h
   omega
 .by_cases h : ∃ x,p b x
  .obtain ⟨x,hx⟩:=h
   rw [key b x hx];obtain ⟨g,hg,ent⟩:=hs.ent _ _ hx.2.1;obtain rfl:=Qf (hx.2.2.1.symm.trans hg)
   by_cases hz : x.2.1.s=0
   .obtain ⟨b',es,clock,hbb,h1,h2,h5,h4⟩:=ent.mp hz
    rw [key b x hx,hz,h5] at hb;omega
   obtain ⟨cells,ty,h1,h2,h3,h4⟩:=ent.blk hz b hx.2.2.2;exact ⟨cells,ty,_,h1,h3⟩
  .have e : T1 b=T b:=dif_neg h
   rw [e] at hb ⊢;exact tok b hb
 .refine dif_neg ?_
  rintro ⟨x,hx⟩
  exact hb x.1 hx.1 x.2.1 x.2.2 hx.2.1 hx.2.2.1 hx.2.2.2
theorem zfq {T T1 : Nat->Nat} {w : World} {M : GM} {hp : Nat->Option Ent} (hs : HsOk T w M hp) (sn : List Nat) (hle : ∀ b,T b<=T1 b)
  (hsn : ∀ i∈sn,∀ e g b,hp i=some e->M i=some g->g.blk=some b->T1 b=g.base+e.rows.length*e.s) :
  ∀ (n : Nat) (ρ : List (Nat × Nat)) (Mc : GM) (x : AV) (v : Value),(∀ id k,lkp ρ id=some k->Mc k=M id)->Rep T w M x v->Rep T1 w Mc (conv ρ sn hp n x) v
 | 0,_,_,_,_,_,_=>.dead _ _
 | n+1,ρ,Mc,x,v,hρ,hr=>by
   have ih:=zfq hs sn hle hsn n;have pr : Pres T w T1 w:=⟨hle,λ b cells ty fz h=>⟨cells,fz,h,rfl,λ _ _=>rfl⟩⟩;have inner:=λ (y : AV) (u : Value) (h : Rep T w M y u)=>ih [] (λ _=>none) y u (λ id k h=>by cases h) h
   cases hr with
   | dead=>exact .dead _ _
   | sc _ _ h1=>exact .sc _ _ h1
   | agg _ cs us hl h1 hh =>
     refine .agg _ _ _ (by simpa using hl) (λ i hi=>h1 i (by simpa using hi)) λ i hi=>?_
     rw [zaM _ (zbl _ _ _ _)];exact ih ρ Mc _ _ hρ (hh i (by simpa using hi))
   | tup _ cs us hl hh =>
     refine .tup _ _ _ (by simpa using hl) λ i hi=>?_
     rw [zaM _ (zbl _ _ _ _)];exact ih ρ Mc _ _ hρ (hh i (by simpa using hi))
   | vs _ s full rows a cap c hf hl hw hb h1 hh =>
     refine .vs _ s full rows a cap c hf hl hw (λ hne=>?_) h1 λ i j hi hj=>(hh i j hi hj).mono pr λ _ _ e=>e;obtain ⟨b,off,cells,ty,fz,ha,hw1,hT,hc⟩:=hb hne;exact ⟨b,off,cells,ty,fz,ha,hw1,QH hT (hle b),hc⟩
   | pv _ cs b off cells ty fz c hb ht hc h1 hh=>exact .pv _ cs b off cells ty fz c hb (QH ht (hle b)) hc h1 λ j hj=>(hh j hj).mono pr λ _ _ e=>e
   | fn _ f xs ys us vs hx hy hh hh' =>
     refine .fn _ f _ _ _ _ (by simpa using hx) (by simpa using hy) (λ i hi=>?_) λ i hi=>?_
     .rw [zaM _ (zbl _ _ _ _)]
      exact ih ρ Mc _ _ hρ (hh i (by simpa using hi))
     .rw [zaM _ (zbl _ _ _ _)]
      exact ih ρ Mc _ _ hρ (hh' i (by simpa using hi))
   | ifc _ t x v hh=>exact .ifc _ _ _ _ (ih ρ Mc _ _ hρ hh)
   | mp _ id g b hg hz hb =>
     show Rep T1 w Mc (match lkp ρ id with | some k=>AV.mp k | none=>AV.dead) _
     split
     .rename_i k hk
      exact .mp _ k g b ((hρ id k hk).trans hg) hz hb
     .exact .dead _ _
   | pt _ id i j g b hg hz hb =>
     show Rep T1 w Mc (match lkp ρ id with | some k=>AV.pt k i j | none=>if id∈sn then (match hp id with | some e=>(match e.rows[i]? with | some row=>if j<=row.length then AV.pv ((row.drop j).map (conv [] sn hp n)) else AV.dead | none=>AV.dead) | none=>AV.dead) else AV.dead) _
     split
     .rename_i k hk
      exact .pt _ k i j g b ((hρ id k hk).trans hg) hz hb
     .split
      case isFalse=>exact .dead _ _
      rename_i hin;split
      case h_2=>exact .dead _ _
      rename_i e he;split
      case h_2=>exact .dead _ _
      rename_i row hrow;split
      case isFalse=>exact .dead _ _
      rename_i hjr;obtain ⟨g',hg',ent⟩:=hs.ent id e he;obtain rfl:=Qf (hg.symm.trans hg');obtain ⟨cells,ty,h1,h2,h3,h4⟩:=ent.blk (ent.s ▸ hz) b hb;have hi : i<e.rows.length:=(Qy.1 hrow).1;have hwid:=ent.wide (ent.s ▸ hz) row (Uf hrow);have hrd : e.rows.getD i []=row:=by simp [List.getD,hrow]
      have hS:=ent.s
      have hcell : ∀ j',j'<((row.drop j).map (conv [] sn hp n)).length -> ∃ u,cells[g.base+i*g.s+j+j']? = some u/\u.oneCell'=true/\Rep T w M (row.getD (j+j') .dead) u:=by
       intro j' hj';simp only [Qt,UM] at hj';obtain ⟨u,hu,ho,hru⟩:=h4 i (j+j') hi (by omega)
       rw [hrd] at hru;exact ⟨u,by rw [hS,UE]; exact hu,ho,hru⟩
      have hget : ∀ j',j'<((row.drop j).map (conv [] sn hp n)).length->cells[g.base+i*g.s+j+j']? = some (cells.getD (g.base+i*g.s+j+j') undef):=λ j' hj'=>by
       obtain ⟨u,hu,_⟩:=hcell j' hj';rw [zaE hu]; exact hu
      refine .pv _ _ b (g.base+i*g.s+j) cells ty (0,0) (λ j'=>cells.getD (g.base+i*g.s+j+j') undef) h1 ?_ hget (λ j' hj'=>?_) λ j' hj'=>?_
      .rw [hsn id hin e g b he hg hb]
       simp only [Qt,UM];have : (i+1)*e.s<=e.rows.length*e.s:=QC _ hi;rw [QI] at this;rw [hS];omega
      .obtain ⟨u,hu,ho,_⟩:=hcell j' hj'
       rw [zaE hu]; exact ho
      .obtain ⟨u,hu,_,hru⟩:=hcell j' hj'
       rw [zaE hu,zaM _ (zbl _ _ _ _)];have : (row.drop j).getD j' .dead=row.getD (j+j') .dead:=by simp [List.getD]
       rw [this];exact inner _ _ hru
   | rs _ id off len cap a g hg hz hl hn hb =>
     show Rep T1 w Mc (match lkp ρ id with | some k=>AV.rs k off len | none=>if id∈sn then (match hp id with | some e=>if off+len<=e.rows.length then AV.vs e.s false (((e.rows.drop off).take len).map (·.map (conv [] sn hp n))) else AV.dead | none=>AV.dead) else AV.dead) _
     split
     .rename_i k hk
      exact .rs _ k off len cap a g ((hρ id k hk).trans hg) hz hl hn hb
     .split
      case isFalse=>exact .dead _ _
      rename_i hin;split
      case h_2=>exact .dead _ _
      rename_i e he;split
      case isFalse=>exact .dead _ _
      rename_i hfit;obtain ⟨g',hg',ent⟩:=hs.ent id e he;obtain rfl:=Qf (hg.symm.trans hg');have hlen : (((e.rows.drop off).take len).map (·.map (conv [] sn hp n))).length=len:=by simp; omega
      have hS:=ent.s
      have hrow : ∀ i,i<len->(((e.rows.drop off).take len).map (·.map (conv [] sn hp n))).getD i []=(e.rows.getD (off+i) []).map (conv [] sn hp n):=by
       intro i hi;simp only [List.getD,Qs,Ud,Q8,if_pos hi]
       cases e.rows[off+i]? <;> rfl
      suffices hS : Rep T1 w Mc (.vs e.s false (((e.rows.drop off).take len).map (·.map (conv [] sn hp n)))) (.slice a (((e.rows.drop off).take len).map (·.map (conv [] sn hp n))).length cap) by
       rwa [hlen] at hS
      cases hblk : g.blk with
      | none =>
        have hz:=hn hblk;refine .vs _ _ _ _ a cap (λ _ _=>undef) (λ e=>by cases e) (by rw [hlen]; exact hl) (λ r hr=>?_) (λ hne=>?_) (λ i j hi=>?_) (λ i j hi=>?_)
        .have : len=0:=by omega
         subst this;simp at hr
        .have : len=0:=by omega
         subst this;simp at hne
        all_goals (rw [hlen] at hi; omega)
      | some b =>
        obtain ⟨ha,c1,t1,f1,hw1,hfit2⟩:=hb b hblk;obtain ⟨cells,ty,h1,h2,h3,h4⟩:=ent.blk (ent.s ▸ hz) b hblk
        have hcell : ∀ i j,i<len->j<e.s -> ∃ u,cells[g.base+off*g.s+i*e.s+j]? = some u/\u.oneCell'=true/\Rep T w M ((e.rows.getD (off+i) []).getD j .dead) u:=by
         intro i j hi hj;obtain ⟨u,hu,ho,hru⟩:=h4 (off+i) j (by omega) hj
         refine ⟨u,?_,ho,hru⟩;rw [<- hu,hS,QI]
         congr 1
         omega
        refine .vs _ _ _ _ a cap (λ i j=>cells.getD (g.base+off*g.s+i*e.s+j) undef) (λ e=>by cases e) (by rw [hlen]; exact hl) (λ r hr=>?_) (λ hne=>?_) (λ i j hi hj=>?_) (λ i j hi hj=>?_)
        .obtain ⟨r0,hr0,rfl⟩:=Qg.1 hr
         rw [Qt];exact ent.wide (ent.s ▸ hz) r0 (UV (QY hr0))
        .have hpos : 0<len:=by rw [<- hlen]; exact Ux.2 hne
         refine ⟨b,g.base+off*g.s,cells,ty,(0,0),?_,h1,?_,λ i j hi hj=>?_⟩
         .rcases ha with ha | ha
          .omega
          .exact ha
         .rw [hlen,hsn id hin e g b he hg hblk,hS]
          have : (off+len)*e.s<=e.rows.length*e.s:=QC _ hfit;rw [QI] at this;omega
         .rw [hlen] at hi
          obtain ⟨u,hu,_⟩:=hcell i j hi hj;rw [zaE hu]; exact hu
        .rw [hlen] at hi
         obtain ⟨u,hu,ho,_⟩:=hcell i j hi hj;rw [zaE hu]; exact ho
        .rw [hlen] at hi
         obtain ⟨u,hu,_,hru⟩:=hcell i j hi hj;rw [zaE hu,hrow i hi,zaM _ (zbl _ _ _ _)];exact inner _ _ hru
   | rk _ id off len cap a g hg hz hl hn hb =>
     show Rep T1 w Mc (match lkp ρ id with | some k=>AV.rs k off len | none=>if id∈sn then (match hp id with | some e=>if off+len<=e.rows.length then AV.vs e.s false (((e.rows.drop off).take len).map (·.map (conv [] sn hp n))) else AV.dead | none=>AV.dead) else AV.dead) _
     split
     .rename_i k hk
      exact .rs _ k off len cap a g ((hρ id k hk).trans hg) hz hl hn hb
     .split
      case isFalse=>exact .dead _ _
      rename_i hin;split
      case h_2=>exact .dead _ _
      rename_i e he;split
      case isFalse=>exact .dead _ _
      rename_i hfit;obtain ⟨g',hg',ent⟩:=hs.ent id e he;obtain rfl:=Qf (hg.symm.trans hg');have hlen : (((e.rows.drop off).take len).map (·.map (conv [] sn hp n))).length=len:=by simp; omega
      have hS:=ent.s
      have hrow : ∀ i,i<len->(((e.rows.drop off).take len).map (·.map (conv [] sn hp n))).getD i []=(e.rows.getD (off+i) []).map (conv [] sn hp n):=by
       intro i hi;simp only [List.getD,Qs,Ud,Q8,if_pos hi]
       cases e.rows[off+i]? <;> rfl
      suffices hS : Rep T1 w Mc (.vs e.s false (((e.rows.drop off).take len).map (·.map (conv [] sn hp n)))) (.slice a (((e.rows.drop off).take len).map (·.map (conv [] sn hp n))).length cap) by
       rwa [hlen] at hS
      cases hblk : g.blk with
      | none =>
        have hz:=hn hblk;refine .vs _ _ _ _ a cap (λ _ _=>undef) (λ e=>by cases e) (by rw [hlen]; exact hl) (λ r hr=>?_) (λ hne=>?_) (λ i j hi=>?_) (λ i j hi=>?_)
        .have : len=0:=by omega
         subst this;simp at hr
        .have : len=0:=by omega
         subst this;simp at hne
        all_goals (rw [hlen] at hi; omega)
      | some b =>
        obtain ⟨ha,c1,t1,f1,hw1,hfit2⟩:=hb b hblk;obtain ⟨cells,ty,h1,h2,h3,h4⟩:=ent.blk (ent.s ▸ hz) b hblk
        have hcell : ∀ i j,i<len->j<e.s -> ∃ u,cells[g.base+off*g.s+i*e.s+j]? = some u/\u.oneCell'=true/\Rep T w M ((e.rows.getD (off+i) []).getD j .dead) u:=by
         intro i j hi hj;obtain ⟨u,hu,ho,hru⟩:=h4 (off+i) j (by omega) hj
         refine ⟨u,?_,ho,hru⟩;rw [<- hu,hS,QI]
         congr 1
         omega
        refine .vs _ _ _ _ a cap (λ i j=>cells.getD (g.base+off*g.s+i*e.s+j) undef) (λ e=>by cases e) (by rw [hlen]; exact hl) (λ r hr=>?_) (λ hne=>?_) (λ i j hi hj=>?_) (λ i j hi hj=>?_)
        .obtain ⟨r0,hr0,rfl⟩:=Qg.1 hr
         rw [Qt];exact ent.wide (ent.s ▸ hz) r0 (UV (QY hr0))
        .have hpos : 0<len:=by rw [<- hlen]; exact Ux.2 hne
         refine ⟨b,g.base+off*g.s,cells,ty,(0,0),?_,h1,?_,λ i j hi hj=>?_⟩
         .rcases ha with ha | ha
          .omega
          .exact ha
         .rw [hlen,hsn id hin e g b he hg hblk,hS]
          have : (off+len)*e.s<=e.rows.length*e.s:=QC _ hfit;rw [QI] at this;omega
         .rw [hlen] at hi
          obtain ⟨u,hu,_⟩:=hcell i j hi hj;rw [zaE hu]; exact hu
        .rw [hlen] at hi
         obtain ⟨u,hu,ho,_⟩:=hcell i j hi hj;rw [zaE hu]; exact ho
        .rw [hlen] at hi
         obtain ⟨u,hu,_,hru⟩:=hcell i j hi hj;rw [zaE hu,hrow i hi,zaM _ (zbl _ _ _ _)];exact inner _ _ hru
end Go.Proofs.YtkngdgplbojdlaaGreat
