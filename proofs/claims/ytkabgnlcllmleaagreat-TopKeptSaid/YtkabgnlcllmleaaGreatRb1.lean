/- Texts of this claim,merged. -/
import Derived.Orders
import Derived.Below
import Derived.Laws.Sem
import Derived.Laws.CopyRow
import Derived.Laws.MakeOwn
import Derived.Deep.Upon
import Derived.Deep.LoopGhost
import Derived.Laws.StructEq
import Derived.Laws.Cover3
import Derived.ChangeKeysEq
import Derived.Laws.Tables
import Derived.Lib.AppendZerosOnto
set_option linter.unusedSimpArgs false
set_option linter.unusedVariables false
set_option linter.unusedSectionVars false
set_option maxRecDepth 100000
set_option maxHeartbeats 8000000
noncomputable section
namespace Go.Proofs.YtkabgnlcllmleaaGreat
open Go
theorem AC {α β γ:Type} (f:β->γ) (g:α->β):f∘g=λ x => f (g x) := (rfl)
theorem Qa:type_of% @decide_eq_true_eq:=@decide_eq_true_eq
theorem Qb:type_of% @decide_eq_false_iff_not:=@decide_eq_false_iff_not
theorem Qc:type_of% @List.getElem?_eq_getElem:=@List.getElem?_eq_getElem
theorem Qd:type_of% @List.take_of_length_le:=@List.take_of_length_le
theorem Qe:type_of% @List.length_append:=@List.length_append
theorem Qf:type_of% @Nat.le_refl:=@Nat.le_refl
theorem Qg:type_of% @Bool.eq_iff_iff:=@Bool.eq_iff_iff
theorem Qh:type_of% @Option.some.inj:=@Option.some.inj
theorem Qi:type_of% @List.getElem_mem:=@List.getElem_mem
theorem Qj:type_of% @List.mem_cons_of_mem:=@List.mem_cons_of_mem
theorem Qk:type_of% @Nat.zero_le:=@Nat.zero_le
theorem Ql:type_of% @List.mem_map:=@List.mem_map
theorem Qm:type_of% @List.mem_append:=@List.mem_append
theorem Qn:type_of% @List.getD_eq_getElem?_getD:=@List.getD_eq_getElem?_getD
theorem Qo:type_of% @List.mem_cons_self:=@List.mem_cons_self
theorem Qp:type_of% @List.take_succ_eq_append_getElem:=@List.take_succ_eq_append_getElem
theorem Qq:type_of% @List.append_assoc:=@List.append_assoc
theorem Qr:type_of% @List.getElem?_append_right:=@List.getElem?_append_right
theorem Qs:type_of% @List.length_map:=@List.length_map
theorem Qt:type_of% @List.mem_iff_getElem:=@List.mem_iff_getElem
theorem Qu:type_of% @List.mem_cons:=@List.mem_cons
theorem Qv:type_of% @List.mem_singleton:=@List.mem_singleton
theorem Qw:type_of% @Option.some.injEq:=@Option.some.injEq
theorem Qx:type_of% @List.eq_nil_of_length_eq_zero:=@List.eq_nil_of_length_eq_zero
theorem Qy:type_of% @Option.map_eq_some_iff:=@Option.map_eq_some_iff
theorem Qz:type_of% @List.getElem?_eq_some_iff:=@List.getElem?_eq_some_iff
theorem QA:type_of% @List.map_cons:=@List.map_cons
theorem QB:type_of% @List.getElem?_map:=@List.getElem?_map
theorem QC:type_of% @List.length_take:=@List.length_take
theorem QD:type_of% @Array.getD_eq_getD_getElem?:=@Array.getD_eq_getD_getElem?
theorem QE:type_of% @Nat.mul_le_mul_right:=@Nat.mul_le_mul_right
theorem QF:type_of% @List.mem_filter:=@List.mem_filter
theorem QG:type_of% @List.getElem?_append_left:=@List.getElem?_append_left
theorem QH:type_of% @Bool.and_eq_true:=@Bool.and_eq_true
theorem QI:type_of% @List.drop_eq_nil_of_le:=@List.drop_eq_nil_of_le
theorem QJ:type_of% @decide_eq_false:=@decide_eq_false
theorem QK:type_of% @List.pairwise_iff_getElem:=@List.pairwise_iff_getElem
theorem QL:type_of% @Int.fdiv_eq_ediv_of_nonneg:=@Int.fdiv_eq_ediv_of_nonneg
theorem QM:type_of% @List.mem_of_mem_take:=@List.mem_of_mem_take
theorem QN:type_of% @List.map_append:=@List.map_append
theorem QO:type_of% @List.drop_eq_getElem_cons:=@List.drop_eq_getElem_cons
theorem QP:type_of% @Nat.add_mul:=@Nat.add_mul
theorem QQ:type_of% @List.take_append_drop:=@List.take_append_drop
theorem QR:type_of% @Nat.le_trans:=@Nat.le_trans
theorem QS:type_of% @List.length_cons:=@List.length_cons
theorem QT:type_of% @List.not_mem_nil:=@List.not_mem_nil
theorem QU:type_of% @List.append_nil:=@List.append_nil
theorem QV:type_of% @List.length_filter_le:=@List.length_filter_le
theorem QW:type_of% @Array.toArray_toList:=@Array.toArray_toList
theorem QX:type_of% @decide_eq_true:=@decide_eq_true
theorem QY:type_of% @List.length_drop:=@List.length_drop
theorem QZ:type_of% @Option.getD_some:=@Option.getD_some
theorem Q0:type_of% @Array.getElem?_eq_some_iff:=@Array.getElem?_eq_some_iff
theorem Q1:type_of% @List.mem_range:=@List.mem_range
theorem Q2:type_of% @Nat.lt_succ_iff_lt_or_eq:=@Nat.lt_succ_iff_lt_or_eq
theorem Q3:type_of% @List.take_append_of_le_length:=@List.take_append_of_le_length
theorem Q4:type_of% @List.mem_append_left:=@List.mem_append_left
theorem Q5:type_of% @List.getElem_append_left:=@List.getElem_append_left
theorem Q6:type_of% @List.getElem?_eq_none:=@List.getElem?_eq_none
theorem Q7:type_of% @List.pairwise_cons:=@List.pairwise_cons
theorem Q8:type_of% @List.length_singleton:=@List.length_singleton
theorem Q9:type_of% @Nat.zero_add:=@Nat.zero_add
theorem Ua:type_of% @List.take_length:=@List.take_length
theorem Ub:type_of% @Nat.lt_or_ge:=@Nat.lt_or_ge
theorem Uc:type_of% @List.cons_append:=@List.cons_append
theorem Ud:type_of% @List.getElem?_drop:=@List.getElem?_drop
theorem Ue:type_of% @List.size_toArray:=@List.size_toArray
theorem Uf:type_of% @List.nodup_append:=@List.nodup_append
theorem Ug:type_of% @Option.map_some:=@Option.map_some
theorem Uh:type_of% @List.nodup_cons:=@List.nodup_cons
theorem Ui:type_of% @Array.getElem?_append_left:=@Array.getElem?_append_left
theorem Uj:type_of% @Nat.add_zero:=@Nat.add_zero
theorem Uk:type_of% @Bool.false_eq_true:=@Bool.false_eq_true
theorem Ul:type_of% @Array.length_toList:=@Array.length_toList
theorem Um:type_of% @List.mem_of_getElem?:=@List.mem_of_getElem?
theorem Un:type_of% @Option.bind_eq_some_iff:=@Option.bind_eq_some_iff
theorem Uo:type_of% @List.mem_append_right:=@List.mem_append_right
theorem Uq:type_of% @List.nil_append:=@List.nil_append
theorem Ur:type_of% @List.map_congr_left:=@List.map_congr_left
theorem Us:type_of% @List.map_map:=@List.map_map
theorem Ut:type_of% @List.all_eq_true:=@List.all_eq_true
theorem Uu:type_of% @List.getElem?_take:=@List.getElem?_take
theorem Uv:type_of% @List.length_pos_iff:=@List.length_pos_iff
theorem Uw:type_of% @List.mem_of_mem_drop:=@List.mem_of_mem_drop
theorem Ux:type_of% @List.getElem_take:=@List.getElem_take
theorem Uy:type_of% @Nat.add_assoc:=@Nat.add_assoc
theorem Uz:type_of% @List.filter_append:=@List.filter_append
theorem UA:type_of% @if_false:=@if_false
theorem UB:type_of% @List.getElem_of_mem:=@List.getElem_of_mem
theorem UC:type_of% @List.any_eq_true:=@List.any_eq_true
theorem UD:type_of% @List.length_range:=@List.length_range
theorem UE:type_of% @List.getElem?_set:=@List.getElem?_set
theorem UF:type_of% @Nat.eq_zero_or_pos:=@Nat.eq_zero_or_pos
theorem UG:type_of% @List.length_set:=@List.length_set
theorem UH:type_of% @List.map_take:=@List.map_take
theorem UI:type_of% @List.map_drop:=@List.map_drop
theorem UJ:type_of% @Nat.pos_iff_ne_zero:=@Nat.pos_iff_ne_zero
theorem UK:type_of% @Bool.not_eq_true':=@Bool.not_eq_true'
theorem UL:type_of% @Array.size_append:=@Array.size_append
theorem UM:type_of% @List.pairwise_map:=@List.pairwise_map
theorem UN:type_of% @List.length_nil:=@List.length_nil
theorem UO:type_of% @List.zipIdx_nil:=@List.zipIdx_nil
theorem UP:type_of% @if_true:=@if_true
theorem UQ:type_of% @List.map_set:=@List.map_set
theorem UR:type_of% @List.getD_cons_zero:=@List.getD_cons_zero
theorem US:type_of% @List.filterMap_cons:=@List.filterMap_cons
theorem UT:type_of% @List.length_reverse:=@List.length_reverse
theorem UU:type_of% @List.foldl_append:=@List.foldl_append
theorem UV:type_of% @List.concat_eq_append:=@List.concat_eq_append
theorem UW:type_of% @Nat.not_lt_zero:=@Nat.not_lt_zero
theorem UX:type_of% @Bool.or_eq_true:=@Bool.or_eq_true
theorem UY:type_of% @List.mem_zipIdx_iff_getElem?:=@List.mem_zipIdx_iff_getElem?
theorem UZ:type_of% @List.dropLast_concat_getLast:=@List.dropLast_concat_getLast
theorem U0:type_of% @Nat.succ_ne_zero:=@Nat.succ_ne_zero
theorem U1:type_of% @List.take_concat_get:=@List.take_concat_get
theorem U2:type_of% @List.findIdx_eq_length:=@List.findIdx_eq_length
theorem U3:type_of% @List.flatMap_cons:=@List.flatMap_cons
theorem U4:type_of% @Int.ofNat_lt:=@Int.ofNat_lt
theorem U5:type_of% @Array.getElem?_push:=@Array.getElem?_push
theorem U6:type_of% @List.flatMap_append:=@List.flatMap_append
theorem U7:type_of% @Nat.eq_of_beq_eq_true:=@Nat.eq_of_beq_eq_true
theorem U8:type_of% @List.mem_filterMap:=@List.mem_filterMap
theorem U9:type_of% @Bool.not_eq_false':=@Bool.not_eq_false'
theorem Va:type_of% @List.mem_reverse:=@List.mem_reverse
theorem Vb:type_of% @List.map_nil:=@List.map_nil
theorem Vc:type_of% @List.findIdx_getElem:=@List.findIdx_getElem
theorem Vd:type_of% @List.count_append:=@List.count_append
theorem zz {p:Prop} (h:p:=by simp):p:=h
theorem zy {p:Prop} (h:p:=by omega):p:=h
theorem zx {p:Prop} (h:p:=by decide):p:=h
theorem zw {p:Prop} (h:p:=by simp;omega):p:=h
theorem Ar {a b:Nat} (h:Nat.ble a b=true):a<=b:=Nat.le_of_ble_eq_true h
theorem AJ {α:Type} (a:α):∃ x,x=a:=⟨_,rfl⟩
inductive AV where
 | dead
 | sc (v:Value)
 | agg (cs:List AV)
 | tup (vs:List AV)
 | vs (s:Nat) (full:Bool) (rows:List (List AV))
 | rs (id off len:Nat)
 | rk (id off len cap:Nat)
 | pv (cs:List AV)
 | pt (id i j:Nat)
 | mp (id:Nat)
 | fn (f:Fn) (first capt:List AV)
 | ifc (t:TypeId) (v:AV)
 deriving Inhabited
abbrev AV.I (n:Int):AV:=.sc (.int .i64 n)
abbrev AV.B (b:Bool):AV:=.sc (.bool b)
abbrev AV.nilS:AV:=.sc (.slice none 0 0)
structure AD where
 s:Nat
 rows:List (List AV)
 ro:Nat:=0
 deriving Inhabited
inductive Da where
 | t (i:Nat)
 | c (v:Value)
 | f (i:FuncId)
 deriving Inhabited
inductive E6 where
 | mv | pick
 | alloc (z:List Value)
 | box (s:Nat)
 | build (z:List Value) (ps:List (Nat × Nat))
 | bsl (s len:Nat) (z:List Value) (ps:List Nat)
 | ld (ag:Bool) (s:Nat)
 | st (s:Nat)
 | nil
 | bin (op:BinOp)
 | beq (neg:Bool)
 | aeq (neg:Bool) (ks:List Nat)
 | snil (neg:Bool)
 | un (op:UnOp)
 | cvt (k:IntKind)
 | b2s
 | mkf (fn:FuncId)
 | mkb (fn:FuncId)
 | mks (s bytes:Nat) (z:List Value)
 | slc (s:Nat) (lo hi mx:Bool)
 | fad (off:Nat)
 | fld (ag:Bool) (off s:Nat)
 | iad (s:Nat)
 | iaa (n s:Nat)
 | ixs
 | ixv (n:Nat)
 | ext (i:Nat)
 | call
 | app (s bytes:Nat)
 | apps
 | len | lens | cap
 | cpy (s:Nat)
 | clr (s:Nat) (z:List Value)
 | ovl (s:Nat)
 | apz (s bytes:Nat) (z:List Value)
 | mx2 | mn2
 | mkm | mlk (z:Value) (ok:Bool) | mup | mdl
 | mki (t:TypeId) | inv (tbl:List (TypeId × FuncId))
 | bad
 deriving Inhabited
structure CG where
 dst:Option Nat
 op:E6
 xs:List Da
 guard:Option (Nat × Bool):=none
 deriving Inhabited
inductive Cr where
 | skip
 | reg (draw:Bool) (ops:List CG) (after:List (List Nat))
 | seq (a b:Cr)
 | cond (c:Da) (a b:Cr)
 | block (id:Nat) (a:Cr)
 | loop (a:Cr)
 | exit (id:Nat)
 | ret
 | bad
 deriving Inhabited
structure B6 where
 nt:Nat
 res:List (Nat × Option (Bool × Nat))
 code:Cr
def AW {α:Type}:List (Nat × α)->Nat->Option α
 | [],_=>none
 | (i,a)::l,j=>if i=j then some a else AW l j
structure St where
 sz:Nat
 t:List (Nat × AV)
 h:List (Nat × Option AD)
 n:Nat
def St.get (st:St) (i:Nat):AV:=(AW st.t i).getD .dead
def St.hp (st:St) (id:Nat):Option AD:=(AW st.h id).getD none
def St.put (st:St) (d:Option Nat) (v:AV):St:=match d with | none=>st | some i=>{ st with t:=(i,v)::st.t }
def St.upd (st:St) (up:List (Nat × Option AD)):St:={ st with h:=up++st.h }
def Cc:Value->AV
 | .agg cs=>if cs.all Value.oneCell' then .agg (cs.toList.map .sc) else .dead
 | .tuple _=>.dead
 | v=>.sc v
def Da.ev (g:Nat->AV):Da->AV
 | .t i=>g i
 | .c v=>Cc v
 | .f i=>.fn (.func i) [] []
def cellsOf:AV->Option (List AV)
 | .agg cs=>some cs
 | .dead=>none
 | .tup _=>none
 | .sc (.agg _)=>none
 | .sc (.tuple _)=>none
 | x=>some [x]
def EQ (h:Nat->Option AD):AV->Option (List AV)
 | .pv cs=>some cs
 | .pt id i j=>(h id).bind λ e=>(e.rows[i]?).map (·.drop j)
 | _=>none
def Bw:AV->List Nat
 | .pt id _ _=>[id]
 | .rs id _ _=>[id]
 | .rk id _ _ _=>[id]
 | .mp id=>[id]
 | _=>[]
def Ch (s:Nat) (h:Nat->Option AD):AV->Option (List (List AV))
 | .vs s' _ rows=>if s'=s then some rows else none
 | .rs id off len=>(h id).bind λ e=>if e.s=s/\off+len<=e.rows.length then some ((e.rows.drop off).take len) else none
 | .rk id off len _=>(h id).bind λ e=>if e.s=s/\off+len<=e.rows.length then some ((e.rows.drop off).take len) else none
 | .sc (.slice none 0 0)=>some []
 | _=>none
def lenOf:AV->Option Nat
 | .vs _ _ rows=>some rows.length
 | .rs _ _ len=>some len
 | .rk _ _ len _=>some len
 | .sc (.slice none 0 0)=>some 0
 | _=>none
def D7 (n:Nat):AV->AV
 | .vs s _ rows=>.vs s false (rows.take n)
 | .rs id off len=>.rs id off (min n len)
 | .rk id off len cap=>.rk id off (min n len) cap
 | x=>x
def Dj (s:Nat) (h:Nat->Option AD) (new:List (List AV)):AV->Option (List (List AV) × Nat × List (Nat × Option AD))
 | .sc (.slice none 0 0)=>some ([],0,[])
 | .vs s' true rows=>if s'=s/\(rows=[]∨new≠[]) then some (rows,0,[]) else none
 | .rs id off len=>(h id).bind λ e=>if e.s=s/\off+len<=e.rows.length/\e.ro<=off+len then some ((e.rows.drop off).take len,e.ro - off,[(id,none)]) else none
 | _=>none
def Aq (op:BinOp):Value->Value->Option Value
 | .int k a,.int k' b =>
   match op with
   | .shl=>if 0<=b then some (.int k (k.wrap (a*2 ^ (min b.toNat k.bits)))) else none
   | .shr=>if 0<=b then some (.int k (a.fdiv (2 ^ (min b.toNat k.bits)))) else none
   | op=>if k=k' then
     match op with
     | .add=>some (.int k (k.wrap (a+b)))
     | .sub=>some (.int k (k.wrap (a - b)))
     | .mul=>some (.int k (k.wrap (a*b)))
     | .quo=>if b=0 then none else some (.int k (k.wrap (a.tdiv b)))
     | .rem=>if b=0 then none else some (.int k (a.tmod b))
     | .and=>some (.int k (k.wrap (BitVec.ofInt k.bits a &&& BitVec.ofInt k.bits b).toNat))
     | .or=>some (.int k (k.wrap (BitVec.ofInt k.bits a ||| BitVec.ofInt k.bits b).toNat))
     | .xor=>some (.int k (k.wrap (BitVec.ofInt k.bits a ^^^ BitVec.ofInt k.bits b).toNat))
     | .andNot=>some (.int k (k.wrap (BitVec.ofInt k.bits a &&& ~~~ BitVec.ofInt k.bits b).toNat))
     | .eql=>some (.bool (a == b))
     | .neq=>some (.bool (a != b))
     | .lss=>some (.bool (decide (a<b)))
     | .leq=>some (.bool (decide (a<=b)))
     | .gtr=>some (.bool (decide (a > b)))
     | .geq=>some (.bool (decide (a≥b)))
     | _=>none
     else none
 | .string a,.string b =>
   match op with
   | .eql=>some (.bool (a.toList == b.toList))
   | .neq=>some (.bool !(a.toList == b.toList))
   | .lss=>some (.bool (Op.bytesLess a.toList b.toList))
   | .leq=>some (.bool (Op.bytesLess a.toList b.toList || a.toList == b.toList))
   | .gtr=>some (.bool !(Op.bytesLess a.toList b.toList || a.toList == b.toList))
   | .geq=>some (.bool !(Op.bytesLess a.toList b.toList))
   | _=>none
 | _,_=>none
def It (op:UnOp):Value->Option Value
 | .int k n=>match op with | .neg=>some (.int k (k.wrap (0 - n))) | .xor=>some (.int k (k.wrap (BitVec.ofInt k.bits (if k.signed then -1 else k.max) ^^^ BitVec.ofInt k.bits n).toNat)) | _=>none
 | .bool b=>match op with | .not=>some (.bool !b) | _=>none
 | _=>none
def C6:List Nat->List AV->List AV->Option Bool
 | [],[],[]=>some true
 | 0::ks,.sc (.int k a)::xs,.sc (.int k' b)::ys=>if k=k' then (C6 ks xs ys).map ((a == b) && ·) else none
 | 1::ks,.sc (.bool a)::xs,.sc (.bool b)::ys=>(C6 ks xs ys).map ((a == b) && ·)
 | 2::ks,.sc (.string a)::xs,.sc (.string b)::ys=>(C6 ks xs ys).map ((a.toList == b.toList) && ·)
 | _,_,_=>none
def GW (cells:List AV):List (Nat × Nat)->List AV->Option (List AV)
 | [],[]=>some cells
 | (off,size)::ps,x::xs =>
   match cellsOf x with
   | some cs=>if cs.length=size/\off+size<=cells.length then GW (cells.take off++cs++cells.drop (off+size)) ps xs else none
   | none=>none
 | _,_=>none
def GC (s:Nat) (rows:List (List AV)):List Nat->List AV->Option (List (List AV))
 | [],[]=>some rows
 | i::ps,x::xs =>
   match cellsOf x with
   | some cs=>if cs.length=s/\i<rows.length then GC s (rows.set i cs) ps xs else none
   | none=>none
 | _,_=>none
def Ae (row:List AV) (j:Nat) (cs:List AV):List AV:=row.take j++cs++row.drop (j+cs.length)
def DT (n:Int):List (List AV)->Option AV
 | [.sc (.int .i64 k),x]::l=>if n=k then some x else DT n l
 | _=>none
def Bb (n:Int) (y:AV):List (List AV)->List (List AV)
 | [.sc (.int .i64 k),x]::l=>if n=k then [.sc (.int .i64 k),y]::l else [.sc (.int .i64 k),x]::Bb n y l
 | _=>[[.sc (.int .i64 n),y]]
def C1 (n:Int):List (List AV)->List (List AV)
 | [.sc (.int .i64 k),x]::l=>if n=k then l else [.sc (.int .i64 k),x]::C1 n l
 | _=>[]
def F4 (s:ByteArray):List (List AV):=s.data.toList.map λ b=>[AV.sc (.int .u8 b.toNat)]
def Hj:List (List AV)->Option (List UInt8)
 | []=>some []
 | [.sc (.int .u8 n)]::rest=>(Hj rest).map (UInt8.ofNat n.toNat :: ·)
 | _=>none
def conv (ρ:List (Nat × Nat)) (sn:List Nat) (h:Nat->Option AD):Nat->AV->AV
 | 0,_=>.dead
 | n+1,x =>
   match x with
   | .agg cs=>.agg (cs.map (conv ρ sn h n))
   | .tup cs=>.tup (cs.map (conv ρ sn h n))
   | .rs id off len =>
     match AW ρ id with
     | some k=>.rs k off len
     | none =>
       if id∈sn then
        match h id with
        | some e=>if off+len<=e.rows.length then .vs e.s false (((e.rows.drop off).take len).map (·.map (conv [] sn h n))) else .dead
        | none=>.dead
       else .dead
   | .rk id off len _ =>
     match AW ρ id with
     | some k=>.rs k off len
     | none =>
       if id∈sn then
        match h id with
        | some e=>if off+len<=e.rows.length then .vs e.s false (((e.rows.drop off).take len).map (·.map (conv [] sn h n))) else .dead
        | none=>.dead
       else .dead
   | .pt id i j =>
     match AW ρ id with
     | some k=>.pt k i j
     | none =>
       if id∈sn then
        match h id with
        | some e=>match e.rows[i]? with | some row=>if j<=row.length then .pv ((row.drop j).map (conv [] sn h n)) else .dead | none=>.dead
        | none=>.dead
       else .dead
   | .mp id =>
     match AW ρ id with
     | some k=>.mp k
     | none=>.dead
   | .fn f a b=>.fn f (a.map (conv ρ sn h n)) (b.map (conv ρ sn h n))
   | .ifc t v=>.ifc t (conv ρ sn h n v)
   | x=>x
def AX (ρ:List (Nat × Nat)) (sn:List Nat) (h:Nat->Option AD) (n:Nat) (e:AD):AD:={ e with rows:=e.rows.map (·.map (conv ρ sn h n)) }
inductive Wk:AV->AV->Prop where
 | refl (x:AV):Wk x x
 | dead (x:AV):Wk x .dead
 | nil (s:Nat) (f:Bool):Wk .nilS (.vs s f [])
 | mt (s c:Nat) (a:Option Addr):Wk (.sc (.slice a 0 c)) (.vs s false [])
 | full (s:Nat) (rows:List (List AV)):Wk (.vs s true rows) (.vs s false rows)
 | rows (s:Nat) (f:Bool) (xs ys:List (List AV)):xs.length=ys.length->(∀ i:Nat,(xs.getD i []).length=(ys.getD i []).length)->(∀ i j:Nat,Wk ((xs.getD i []).getD j .dead) ((ys.getD i []).getD j .dead))->Wk (.vs s f xs) (.vs s f ys)
 | pv (xs ys:List AV):xs.length=ys.length->(∀ i:Nat,Wk (xs.getD i .dead) (ys.getD i .dead))->Wk (.pv xs) (.pv ys)
 | agg (xs ys:List AV):xs.length=ys.length->(∀ i:Nat,Wk (xs.getD i .dead) (ys.getD i .dead))->Wk (.agg xs) (.agg ys)
 | tup (xs ys:List AV):xs.length=ys.length->(∀ i:Nat,Wk (xs.getD i .dead) (ys.getD i .dead))->Wk (.tup xs) (.tup ys)
def DG:List AV->List AV->Prop
 | [],[]=>True
 | x::xs,y::ys=>Wk x y/\DG xs ys
 | _,_=>False
inductive Plain:AV->Prop where
 | dead:Plain .dead
 | sc (v:Value):Plain (.sc v)
 | agg (xs:List AV):(∀ i:Nat,Plain (xs.getD i .dead))->Plain (.agg xs)
 | tup (xs:List AV):(∀ i:Nat,Plain (xs.getD i .dead))->Plain (.tup xs)
 | rs (id off len:Nat):Plain (.rs id off len)
 | pt (id i j:Nat):Plain (.pt id i j)
 | mp (id:Nat):Plain (.mp id)
def GB (e:AD):Prop:=∀ row∈e.rows,∀ x∈row,Plain x
structure GE where
 blk:Option Nat
 base:Nat
 s:Nat
abbrev GM:=Nat->Option GE
inductive Aj (T:Nat->Nat) (w:World):GM->AV->Value->Prop where
 | dead (M:GM) (v:Value):Aj T w M .dead v
 | sc (M:GM) (v:Value) (h1:v.oneCell'=true):Aj T w M (.sc v) v
 | agg (M:GM) (cs:List AV) (vs:Array Value) (hl:vs.size=cs.length) (h1:∀ i,i<cs.length->(vs.getD i undef).oneCell'=true) (h:∀ i,i<cs.length->Aj T w M (cs.getD i .dead) (vs.getD i undef)):Aj T w M (.agg cs) (.agg vs)
 | tup (M:GM) (cs:List AV) (vs:Array Value) (hl:vs.size=cs.length) (h:∀ i,i<cs.length->Aj T w M (cs.getD i .dead) (vs.getD i undef)):Aj T w M (.tup cs) (.tuple vs)
 | vs (M:GM) (s:Nat) (full:Bool) (rows:List (List AV)) (a:Option Addr) (cap:Nat) (c:Nat->Nat->Value)
   (hf:full=true->cap=rows.length) (hl:rows.length<=cap) (hw:∀ row∈rows,row.length=s)
   (hb:rows≠[] -> ∃ b off cells ty fz,a=some ⟨b,off,none⟩/\w.heap[b]? = some (.cells cells ty fz)/\off+rows.length*s<=T b /\
    ∀ i j,i<rows.length->j<s->cells[off+i*s+j]? = some (c i j))
   (h1:∀ i j,i<rows.length->j<s->(c i j).oneCell'=true)
   (h:∀ i j,i<rows.length->j<s->Aj T w (λ _=>none) ((rows.getD i []).getD j .dead) (c i j)):Aj T w M (.vs s full rows) (.slice a rows.length cap)
 | pv (M:GM) (cs:List AV) (b off:Nat) (cells:Array Value) (ty:TypeId) (fz:Nat × Nat) (c:Nat->Value) (hb:w.heap[b]? = some (.cells cells ty fz)) (ht:off+cs.length<=T b)
   (hc:∀ j,j<cs.length->cells[off+j]? = some (c j)) (h1:∀ j,j<cs.length->(c j).oneCell'=true) (h:∀ j,j<cs.length->Aj T w (λ _=>none) (cs.getD j .dead) (c j)):Aj T w M (.pv cs) (.pointer (some ⟨b,off,none⟩))
 | rs (M:GM) (id off len cap:Nat) (a:Option Addr) (g:GE) (hg:M id=some g) (hz:g.s≠0) (hl:len<=cap) (hn:g.blk=none->off=0/\cap=0)
   (hb:∀ b,g.blk=some b->(cap=0∨a=some ⟨b,g.base+off*g.s,none⟩) /\ ∃ cells ty fz,w.heap[b]? = some (.cells cells ty fz)/\g.base+off*g.s+cap*g.s<=cells.size):Aj T w M (.rs id off len) (.slice a len cap)
 | rk (M:GM) (id off len cap:Nat) (a:Option Addr) (g:GE) (hg:M id=some g) (hz:g.s≠0) (hl:len<=cap) (hn:g.blk=none->off=0/\cap=0)
   (hb:∀ b,g.blk=some b->(cap=0∨a=some ⟨b,g.base+off*g.s,none⟩) /\ ∃ cells ty fz,w.heap[b]? = some (.cells cells ty fz)/\g.base+off*g.s+cap*g.s<=cells.size):Aj T w M (.rk id off len cap) (.slice a len cap)
 | pt (M:GM) (id i j:Nat) (g:GE) (b:Nat) (hg:M id=some g) (hz:g.s≠0) (hb:g.blk=some b):Aj T w M (.pt id i j) (.pointer (some ⟨b,g.base+i*g.s+j,none⟩))
 | mp (M:GM) (id:Nat) (g:GE) (b:Nat) (hg:M id=some g) (hz:g.s=0) (hb:g.blk=some b):Aj T w M (.mp id) (.map (some b))
 | fn (M:GM) (f:Fn) (xs ys:List AV) (us vs:Array Value) (hx:us.size=xs.length) (hy:vs.size=ys.length) (h:∀ i,i<xs.length->Aj T w M (xs.getD i .dead) (us.getD i undef))
   (h':∀ i,i<ys.length->Aj T w M (ys.getD i .dead) (vs.getD i undef)):Aj T w M (.fn f xs ys) (.func f us vs)
 | ifc (M:GM) (t:TypeId) (x:AV) (v:Value) (h:Aj T w M x v):Aj T w M (.ifc t x) (.iface t v)
def Gy (T:Nat->Nat) (w:World):Prop:=∀ b,0<T b -> ∃ cells ty fz,w.heap[b]? = some (.cells cells ty fz)/\T b<=cells.size
def DN (T:Nat->Nat) (w:World) (M:GM):List (List AV)->List MapEntry->Prop
 | [],[]=>True
 | row::rows,e::es=>(∃ n x,row=[.sc (.int .i64 n),x]/\e.key = .int .i64 n/\Aj T w M x e.val)/\DN T w M rows es
 | _,_=>False
structure H4 (T:Nat->Nat) (w:World) (M:GM) (e:AD) (g:GE):Prop where
 s:g.s=e.s
 ro:e.ro<=e.rows.length
 wide:e.s≠0 -> ∀ row∈e.rows,row.length=e.s
 none:g.blk=none->e.rows=[]
 mp:e.s=0 -> ∃ b es clock,g.blk=some b/\w.heap[b]? = some (.map es clock)/\T b=0/\g.base=0/\DN T w M e.rows es.toList
 blk:e.s≠0 -> ∀ b,g.blk=some b -> ∃ cells ty,w.heap[b]? = some (.cells cells ty (0,0))/\T b<=g.base+e.ro*e.s/\g.base+e.rows.length*e.s<=cells.size /\
  ∀ i j,i<e.rows.length->j<e.s -> ∃ v,cells[g.base+i*e.s+j]? = some v/\v.oneCell'=true/\Aj T w M ((e.rows.getD i []).getD j .dead) v
structure Dl (T:Nat->Nat) (w:World) (M:GM) (hp:Nat->Option AD):Prop where
 ent:∀ id e,hp id=some e -> ∃ g,M id=some g/\H4 T w M e g
 inj:∀ id id' e e' g g' b,hp id=some e->hp id'=some e'->M id=some g->M id'=some g'->g.blk=some b->g'.blk=some b->id=id'
structure Ax (T:Nat->Nat) (w:World) (T':Nat->Nat) (w':World):Prop where
 le:∀ b,T b<=T' b
 cell:∀ b cells ty fz,w.heap[b]? = some (.cells cells ty fz) -> ∃ cells' fz',w'.heap[b]? = some (.cells cells' ty fz')/\cells'.size=cells.size /\ ∀ o,o<T b->cells'[o]? = cells[o]?
def GV (n:Nat) (M:GM) (b:Nat):Prop:=∃ k g,k<n/\M k=some g/\g.blk=some b
structure Fq (n:Nat) (T:Nat->Nat) (M:GM) (w:World) (T':Nat->Nat) (M':GM) (w':World):Prop where
 tok:Gy T' w'
 old:∀ b,b<w.heap.size->¬ GV n M b->T' b=T b
 same:∀ k,k<n->M' k=M k
 os:w'.os=w.os
 tape:w'.tape=w.tape
 output:w'.output=w.output
 size:w.heap.size<=w'.heap.size
 keep:∀ b,b<w.heap.size->¬ GV n M b->w'.heap[b]? = w.heap[b]?
 pres:Ax T w T' w'
 new:∀ k g b,n<=k->M' k=some g->g.blk=some b->GV n M b∨w.heap.size<=b
def Fs (T:Nat->Nat) (w:World) (M:GM) (xs:List AV) (vs:Array Value):Prop:=vs.size=xs.length /\ ∀ i,i<xs.length->Aj T w M (xs.getD i .dead) (vs.getD i undef)
def C9 (hs:List AD):Nat->Option AD:=λ k=>hs[k]?
def Gj (hs:List (Option AD)):Nat->Option AD:=λ k=>hs[k]?.join
def CF (P:Program) (f:FuncId) (args:List AV) (hs:List AD) (res:AV) (hs':List (Option AD)):Prop :=
 (∃ fn c,P.funcs[f]? = some fn/\fn.body=some c/\fn.name ≠ "runtime.NumGoroutine")/\hs.length<=hs'.length /\
 ∀ (T:Nat->Nat) (M:GM) (w:World) (vs:Array Value),Gy T w->Dl T w M (C9 hs)->(∀ k,hs.length<=k->M k=none)->Fs T w M args vs ->
   Calls P f vs w λ e w'=>∃ v T' M',e = .returned v/\Aj T' w' M' res v/\Dl T' w' M' (Gj hs')/\Fq hs.length T M w T' M' w'
def aK (P:Program) (np id:Nat) (op:E6) (xs:List AV) (h:Nat->Option AD) (K:AV->List Nat->List (Nat × Option AD)->Prop):Prop :=
 match op,xs with
 | .mv,[x]=>K x [] []
 | .pick,[c,a,b]=>∃ t,c = .sc (.bool t)/\K (if t then a else b) [] []
 | .alloc z,[]=>K (.pt id 0 0) [] [(id,some { s:=z.length,rows:=[z.map .sc] })]
 | .box s,[x]=>∃ cs,cellsOf x=some cs/\cs.length=s/\K (.pt id 0 0) [] [(id,some { s:=s,rows:=[cs] })]
 | .build z ps,xs=>∃ cs,GW (z.map .sc) ps xs=some cs/\K (.agg cs) [] []
 | .bsl s len z ps,xs=>∃ rows,GC s (List.replicate len (z.map .sc)) ps xs=some rows/\z.length=s/\K (.rs id 0 len) [] [(id,some { s:=s,rows:=rows })]
 | .ld ag s,[x]=>∃ cs,EQ h x=some cs/\s<=cs.length/\K (if ag then .agg (cs.take s) else cs.headD .dead) (Bw x) []
 | .st s,[.pt i k j,x]=>∃ e row cs,h i=some e/\e.rows[k]? = some row/\e.ro<=k/\cellsOf x=some cs/\cs.length=s/\j+s<=row.length /\
   K .dead [i] [(i,some { e with rows:=e.rows.set k (Ae row j cs) })]
 | .nil,[x]=>(match x with | .pt _ _ _=>True | .pv _=>True | .ifc _ _=>True | _=>False)/\K x [] []
 | .bin op,[.sc a,.sc b]=>∃ v,Aq op a b=some v/\K (.sc v) [] []
 | .beq neg,[.sc (.bool a),.sc (.bool b)]=>K (.sc (.bool ((a == b) != neg))) [] []
 | .aeq neg ks,[.agg xs,.agg ys]=>∃ b,C6 ks xs ys=some b/\K (.sc (.bool (b != neg))) [] []
 | .snil neg,[.vs _ _ (_::_)]=>K (.sc (.bool neg)) [] []
 | .snil neg,[.sc (.slice a _ _)]=>K (.sc (.bool (a.isNone != neg))) [] []
 | .un op,[.sc a]=>∃ v,It op a=some v/\K (.sc v) [] []
 | .cvt k,[.sc (.int _ n)]=>K (.sc (.int k (k.wrap n))) [] []
 | .b2s,[x]=>∃ rows bs,Ch 1 h x=some rows/\Hj rows=some bs/\K (.sc (.string ⟨bs.toArray⟩)) (Bw x) []
 | .mkf f,xs=>K (.fn (.func f) [] xs) [] []
 | .mkb f,xs=>K (.fn (.func f) xs []) [] []
 | .mks s bytes z,[.sc (.int _ l),.sc (.int _ c)]=>0<=l/\l<=c/\c*bytes<=140737488355328/\c<=140737488355328/\z.length=s /\
   K (.rs id 0 l.toNat) [] [(id,some { s:=s,rows:=List.replicate l.toNat (z.map .sc) })]
 | .slc s lo hi mx,x::bs =>
   ∃ l r m:Nat,∃ n,lenOf x=some n/\l<=r /\
     bs=(if lo then [AV.I l] else [])++(if hi then [AV.I r] else [])++(if mx then [AV.I m] else [])/\(lo=false->l=0)/\(hi=false->r=n)/\(mx=true->hi=true) /\
     match x with
     | .vs s' f rows=>r<=n/\(mx=true->m=r)/\s'=s/\K (.vs s (mx || (f && !hi)) ((rows.drop l).take (r - l))) [] []
     | .rs i off _=>r<=n/\mx=false/\(∃ e,h i=some e/\e.s=s)/\K (.rs i (off+l) (r - l)) [i] []
     | .rk i off _ c=>r<=m/\m<=c/\(mx=false->m=c)/\(∃ e,h i=some e/\e.s=s)/\K (.rk i (off+l) (r - l) (m - l)) [i] []
     | .sc (.slice none 0 0)=>r<=n/\(mx=true->m=r)/\K .nilS [] []
     | _=>False
 | .fad off,[.pv cs]=>off<=cs.length/\K (.pv (cs.drop off)) [] []
 | .fad off,[.pt i k j]=>K (.pt i k (j+off)) [] []
 | .fld ag off s,[.agg cs]=>off+s<=cs.length/\K (if ag then .agg ((cs.drop off).take s) else cs.getD off .dead) [] []
 | .iad s,[.vs s' _ rows,.sc (.int _ n)]=>s'=s/\0<=n /\ ∃ row,rows[n.toNat]? = some row/\K (.pv row) [] []
 | .iad s,[.rs i off len,.sc (.int _ n)]=>0<=n/\n<len/\(∃ e,h i=some e/\e.s=s)/\K (.pt i (off+n.toNat) 0) [i] []
 | .iaa l s,[.pt i k j,.sc (.int _ n)]=>0<=n/\n<l/\K (.pt i k (j+n.toNat*s)) [] []
 | .iaa l s,[.pv cs,.sc (.int _ n)]=>0<=n/\n<l/\l*s<=cs.length/\K (.pv (cs.drop (n.toNat*s))) [] []
 | .ixs,[.sc (.string b),.sc (.int _ n)]=>0<=n /\ ∃ c,b.data.toList[n.toNat]? = some c/\K (.sc (.int .u8 c.toNat)) [] []
 | .ixv l,[.agg cs,.sc (.int _ n)]=>0<=n/\n<l/\l<=cs.length/\K (cs.getD n.toNat .dead) [] []
 | .ext i,[.tup vs]=>∃ v,vs[i]? = some v/\K v [] []
 | .call,.fn (.func f) first capt::args =>
   ∃ (ids sn:List Nat) (raise:Bool) (args':List AV) (hs:List AD) (res:AV) (hs':List (Option AD)),
     ids.Nodup/\(∀ i∈sn,i∉ids)/\(raise=true -> ∀ i∈sn,np<=i) /\
     DG ((first++args++capt).map (conv ids.zipIdx sn h 4)) args' /\
     ids.map (λ i=>(h i).map (AX ids.zipIdx sn h 4))=hs.map some /\
     CF P f args' hs res hs'/\hs'.length<=hs.length+8 /\
     (raise=true∨(Plain res /\ ∀ e,some e∈hs'->GB e)) /\
     K (conv ((ids++(List.range 8).map (id + ·)).zipIdx.map λ (a,b)=>(b,a)) [] (λ _=>none) 4 res) (ids++sn)
       ((hs'.zipIdx.map λ (e,k)=>((ids++(List.range 8).map (id + ·)).getD k 0,e.map (AX ((ids++(List.range 8).map (id + ·)).zipIdx.map λ (a,b)=>(b,a)) [] (λ _=>none) 4))) ++
        (if raise then sn.filterMap (λ i=>(h i).map λ e=>(i,some { e with ro:=e.rows.length })) else []))
 | .app s bytes,[.rk i off len c,y]=>∃ new e,Ch s h y=some new/\h i=some e/\e.s=s/\off+len<=e.rows.length/\e.ro<=off+len/\(len+new.length)*bytes<=140737488355328/\len+new.length<=140737488355328 /\
   if len+new.length<=c then K (.rk i off (len+new.length) c) (i::Bw y) [(i,some { e with rows:=e.rows.take (off+len)++new++e.rows.drop (off+len+new.length) })]
   else K (.rs id 0 (len+new.length)) (i::Bw y) [(id,some { s:=s,rows:=(e.rows.drop off).take len++new,ro:=0 })]
 | .app s bytes,[x,y]=>∃ new old,Ch s h y=some new/\Dj s h new x=some old/\(old.1.length+new.length)*bytes<=140737488355328 /\
   old.1.length+new.length<=140737488355328 /\
   K (.rs id 0 (old.1.length+new.length)) (Bw x++Bw y) ((id,some { s:=s,rows:=old.1++new,ro:=old.2.1 })::old.2.2)
 | .apps,[x,.sc (.string b)]=>∃ old,Dj 1 h (F4 b) x=some old/\old.1.length+b.size<=140737488355328 /\
   K (.rs id 0 (old.1.length+b.size)) (Bw x) ((id,some { s:=1,rows:=old.1++F4 b,ro:=old.2.1 })::old.2.2)
 | .apz s bytes z,[.rk i off len c,.sc (.int _ n)]=>∃ e,h i=some e/\e.s=s/\z.length=s/\off+len<=e.rows.length/\0<n/\c<len+n.toNat/\(len+n.toNat)*bytes<=140737488355328/\len+n.toNat<=140737488355328 /\
   K (.rs id 0 (len+n.toNat)) [i] [(id,some { s:=s,rows:=(e.rows.drop off).take len++List.replicate n.toNat (z.map .sc),ro:=0 })]
 | .apz s bytes z,[.sc (.slice none 0 0),.sc (.int _ n)]=>z.length=s/\0<n/\n.toNat*bytes<=140737488355328/\n.toNat<=140737488355328 /\
   K (.rs id 0 n.toNat) [] [(id,some { s:=s,rows:=List.replicate n.toNat (z.map .sc),ro:=0 })]
 | .len,[x]=>∃ n:Nat,lenOf x=some n/\K (AV.I n) [] []
 | .lens,[.sc (.string b)]=>K (AV.I b.size) [] []
 | .cap,[.rk _ _ _ c]=>K (AV.I c) [] []
 | .cap,[.sc (.slice none 0 0)]=>K (AV.I 0) [] []
 | .cpy s,[.rs i off len,y]=>∃ e new,h i=some e/\e.s=s/\e.ro<=off/\off+len<=e.rows.length/\Ch s h y=some new /\
   K (AV.I (min new.length len:Nat)) (i::Bw y) [(i,some { e with rows:=e.rows.take off++new.take (min new.length len)++e.rows.drop (off+min new.length len) })]
 | .cpy s,[.rk i off len _,y]=>∃ e new m,h i=some e/\e.s=s/\e.ro<=off/\off<=e.rows.length/\lenOf y=some m/\Ch s h (D7 (min m len) y)=some new /\
   K (AV.I (min m len:Nat)) (i::Bw y) [(i,some { e with rows:=e.rows.take off++new++e.rows.drop (off+min m len) })]
 | .clr s z,[.rk i off len _]=>∃ e,h i=some e/\e.s=s/\z.length=s/\e.ro<=off/\off+len<=e.rows.length /\
   K .dead [i] [(i,some { e with rows:=e.rows.take off++List.replicate len (z.map .sc)++e.rows.drop (off+len) })]
 | .ovl s,[.vs s' _ _,.rk i off _ _]=>∃ e,h i=some e/\s'=s/\e.s=s/\e.ro<=off/\K (.sc (.bool false)) [i] []
 | .clr s z,[.rs i off len]=>∃ e,h i=some e/\e.s=s/\z.length=s/\e.ro<=off/\off+len<=e.rows.length /\
   K .dead [i] [(i,some { e with rows:=e.rows.take off++List.replicate len (z.map .sc)++e.rows.drop (off+len) })]
 | .mx2,[.sc (.int k a),.sc (.int _ b)]=>K (.sc (.int k (if a<b then b else a))) [] []
 | .mn2,[.sc (.int k a),.sc (.int _ b)]=>K (.sc (.int k (if b<a then b else a))) [] []
 | .mki t,[x]=>K (.ifc t x) [] []
 | .inv tbl,.ifc t x::args =>
   ∃ (f:FuncId) (ids sn:List Nat) (raise:Bool) (args':List AV) (hs:List AD) (res:AV) (hs':List (Option AD)),
     AW tbl t=some f/\ids.Nodup/\(∀ i∈sn,i∉ids)/\(raise=true -> ∀ i∈sn,np<=i) /\
     DG ((x::args).map (conv ids.zipIdx sn h 4)) args' /\
     ids.map (λ i=>(h i).map (AX ids.zipIdx sn h 4))=hs.map some /\
     CF P f args' hs res hs'/\hs'.length<=hs.length+8 /\
     (raise=true∨(Plain res /\ ∀ e,some e∈hs'->GB e)) /\
     K (conv ((ids++(List.range 8).map (id + ·)).zipIdx.map λ (a,b)=>(b,a)) [] (λ _=>none) 4 res) (ids++sn)
       ((hs'.zipIdx.map λ (e,k)=>((ids++(List.range 8).map (id + ·)).getD k 0,e.map (AX ((ids++(List.range 8).map (id + ·)).zipIdx.map λ (a,b)=>(b,a)) [] (λ _=>none) 4))) ++
        (if raise then sn.filterMap (λ i=>(h i).map λ e=>(i,some { e with ro:=e.rows.length })) else []))
 | .mkm,[]=>K (.mp id) [] [(id,some { s:=0,rows:=[] })]
 | .mlk z ok,[.mp i,.sc (.int .i64 n)]=>∃ e,h i=some e/\e.s=0/\K (if ok then .tup [(DT n e.rows).getD (Cc z),.sc (.bool (DT n e.rows).isSome)] else (DT n e.rows).getD (Cc z)) [i] []
 | .mup,[.mp i,.sc (.int .i64 n),x]=>∃ e,h i=some e/\e.s=0/\K .dead [i] [(i,some { e with rows:=Bb n x e.rows })]
 | .mdl,[.mp i,.sc (.int .i64 n)]=>∃ e,h i=some e/\e.s=0/\K (.tup []) [i] [(i,some { e with rows:=C1 n e.rows,ro:=0 })]
 | _,_=>False
def G8:AV->Option (Option Bool)
 | .sc (.bool b)=>some (some b)
 | .tup []=>some none
 | _=>none
def Bt (P:Program) (np n:Nat):Nat->List CG->St->List (List Nat × List Nat)->(St->List (List Nat × List Nat)->Prop)->Prop
 | _,[],st,tr,K=>K st tr
 | i,o::os,st,tr,K =>
   let go:Prop:=aK P np (n+8*i) o.op (o.xs.map (·.ev st.get)) st.hp λ v rd up=>Bt P np n (i+1) os ((st.put o.dst v).upd up) (tr++[(rd,up.map (·.1))]) K
   match o.guard with
   | none=>go
   | some (g,want)=>∃ b,G8 (st.get g)=some b/\if b=some want then go else Bt P np n (i+1) os (st.put o.dst (.tup [])) (tr++[([],[])]) K
inductive Ea where
 | normal
 | exit (id:Nat)
 | ret
def TA (after:List (List Nat)):List Nat :=
 after.foldl (λ acc aS=>acc++[aS.foldl (λ s a=>s ||| (2 ^ a ||| acc.getD a 0)) 0]) []
def HI (a b:List Nat × List Nat):Bool:=a.2.any (λ i=>b.1.contains i || b.2.contains i) || a.1.any (b.2.contains ·)
def CG.names (o:CG):List Nat:=(o.xs.filterMap fun | .t i=>some i | _=>none)++(o.guard.map (·.1)).toList++o.dst.toList
def Fu (o o':CG) (a b:List Nat × List Nat):Bool :=
 o.dst.all (λ d=>!o'.names.contains d) && o'.dst.all (λ d=>!o.names.contains d) && !HI a b
def F3 (ops:List CG) (after:List (List Nat)) (tr:List (List Nat × List Nat)):Bool :=
 after.length == ops.length && (after.zipIdx.all λ (aS,j)=>aS.all (· < j)) &&
 (List.range ops.length).all λ j=>(List.range j).all λ i=>((TA after).getD j 0).testBit i || Fu (ops.getD i default) (ops.getD j default) (tr.getD i ([],[])) (tr.getD j ([],[]))
structure Ok (np:Nat) (T0:Nat->Nat) (M0:GM) (w0:World) (aA:Nat->Prop) (st:St) (T:Nat->Nat) (M:GM) (a:Act) (w:World):Prop where
 sz:a.tmps.size=st.sz
 df:a.defers=[]
 tm:∀ i,Aj T w M (st.get i) (a.tmps.getD i undef)
 hs:Dl T w M st.hp
 dom:∀ id g,M id=some g->aA id
 after:Fq np T0 M0 w0 T M w
abbrev G0 (n:Nat):Nat->Prop:=λ id=>id<n
def Le (np:Nat) (st st':St):Prop :=
 ∀ T0 M0 w0 T M a w,Ok np T0 M0 w0 (G0 st.n) st T M a w->np<=st.n -> ∃ T' M',Ok np T0 M0 w0 (G0 st'.n) st' T' M' a w/\np<=st'.n
def AY (P:Program) (np:Nat):Cr->(Ea->St->Prop)->St->Prop
 | .skip,Q,st=>Q .normal st
 | .reg draw ops after,Q,st =>
   (ops.all λ o=>o.dst.all (· < st.sz))=true /\
   Bt P np st.n 0 ops st [] λ st' tr=>(draw=true->F3 ops after tr=true)/\Q .normal { st' with n:=st.n+8*ops.length }
 | .seq a b,Q,st=>AY P np a (λ e st'=>match e with | .normal=>∃ st2,Le np st' st2/\AY P np b Q st2 | e=>Q e st') st
 | .cond c a b,Q,st=>∃ t,c.ev st.get = .sc (.bool t)/\if t then AY P np a Q st else AY P np b Q st
 | .block id a,Q,st=>AY P np a (λ e st'=>match e with | .exit id'=>if id'=id then Q .normal st' else Q (.exit id') st' | e=>Q e st') st
 | .loop a,Q,st=>∃ I:Nat->St->Prop,(∃ st0 k,Le np st st0/\I k st0) /\
   ∀ k s,I k s->AY P np a (λ e st'=>match e with | .normal=>∃ st2 k2,Le np st' st2/\I k2 st2/\k2<k | e=>Q e st') s
 | .exit id,Q,st=>Q (.exit id) st
 | .ret,Q,st=>Q .ret st
 | .bad,_,_=>False
def Fv (af:B6) (args:List AV) (hs:List AD):St :=
 { sz:=af.nt,t:=args.zipIdx.map (λ (a,i)=>(i,a)),h:=hs.zipIdx.map (λ (e,k)=>(k,some e)),n:=16 }
def Fl (st:St) (r:Nat × Option (Bool × Nat)):Option AV :=
 match r with
 | (t,none)=>some (st.get t)
 | (t,some (ag,s))=>match EQ st.hp (st.get t) with
   | some cs=>if s<=cs.length/\(ag=true∨s=1) then some (if ag then .agg (cs.take s) else cs.headD .dead) else none
   | none=>none
def EJ (st:St):List (Nat × Option (Bool × Nat))->Option (List AV)
 | []=>some []
 | r::rs=>match Fl st r,EJ st rs with
   | some v,some vs=>some (v::vs)
   | _,_=>none
def DE:List AV->AV
 | [v]=>v
 | vs=>.tup vs
def AO (rs:List (Nat × Option (Bool × Nat))) (np:Nat) (st:St) (res:AV) (hs':List (Option AD)):Prop :=
 ∃ vs,EJ st rs=some vs /\ ∃ ex sn:List Nat,(List.range np++ex).Nodup/\(∀ i∈ex,np<=i)/\(∀ i∈sn,i∉ex/\np<=i) /\
   Wk (conv (List.range np++ex).zipIdx sn st.hp 4 (DE vs)) res /\
   (List.range np++ex).map (λ i=>(st.hp i).map (AX (List.range np++ex).zipIdx sn st.hp 4))=hs'
def G4 (P:Program) (t:TypeId):Option (List Value) :=
 match P.info? t with
 | some i=>match i.zero with
   | some z=>if z.cells.toList.all Value.oneCell' && z.cells.size == i.size then some z.cells.toList else none
   | none=>none
 | none=>none
def CZ (P:Program) (t:TypeId):Option Nat:=(P.info? t).map (·.size)
def H3 (P:Program) (t:TypeId):Option Nat:=(P.info? t).map (·.bytes)
def EN (P:Program) (t:TypeId):Option Bool :=
 match P.underlying t with
 | some (.struct _)=>some true
 | some (.array _ _)=>some true
 | some _=>some false
 | none=>none
def AU:Operand->Da
 | .tmp t=>.t t
 | .const v=>.c v
 | .global g=>.c (.pointer (some ⟨g,0,none⟩))
 | .func f=>.f f
def JR (P:Program):Nat->List Field->Option (List Nat)
 | _,[]=>some []
 | i,f::fs =>
   if f.name ≠ "_" /\ f.offset=i then
    match P.underlying f.type,JR P (i+1) fs with
    | some (.int _),some ks=>some (0::ks)
    | some .bool,some ks=>some (1::ks)
    | some .string,some ks=>some (2::ks)
    | _,_=>none
   else none
def HC (P:Program):Nat->List Field->Option (List Nat)
 | _,[]=>some []
 | i,f::fs =>
   if f.name ≠ "_" /\ f.offset=i then
    match P.underlying f.type with
    | some (.int _)=>(HC P (i+1) fs).map (0 :: ·)
    | some .bool=>(HC P (i+1) fs).map (1 :: ·)
    | some .string=>(HC P (i+1) fs).map (2 :: ·)
    | some (.struct gs)=>match JR P 0 gs.toList,CZ P f.type with
      | some ks,some n=>if P.stoodInHeld f.type=false/\n=ks.length then (HC P (i+n) fs).map (ks ++ ·) else none
      | _,_=>none
    | _=>none
   else none
def Mi (P:Program) (t e:TypeId) (n:Nat):Option (List Nat):=match P.underlying e with
 | some .bool=>if P.eqGuardType P.depth t=false/\(P.info? e).isSome=true/\P.cellsOf e=1 then some (List.replicate n 1) else none
 | _=>none
def Lz (P:Program) (t:TypeId) (fs:List Field):Option (List Nat):=if P.stoodInHeld t=false/\P.eqGuardType P.depth t=false then HC P 0 fs else none
def Hp (P:Program) (t:TypeId):Option Value :=
 match P.underlying t with
 | some (.map k v)=>match P.underlying k,P.info? v with
   | some (.int .i64),some i=>i.zero
   | _,_=>none
 | _=>none
def K4:Operand->Bool
 | .const (.slice none 0 0)=>true
 | _=>false
def Ij (P:Program) (fn:Func):Option Nat :=
 if fn.body.isNone && (fn.name != "runtime.NumGoroutine") && (fn.origin == "slices.overlaps") && (Extern.allNextRows.lookup fn.name).isNone && (Extern.allGenericRows.lookup fn.name).isNone && (Extern.allTypedRows.lookup fn.name).isNone && (Extern.allRows.lookup fn.name).isNone then
  match fn.params.toList with
  | [t,_]=>match P.underlying t with
    | some (.slice e)=>CZ P e
    | _=>none
  | _=>none
 else none
def Fx (P:Program):Operand->Option Nat
 | .func g=>match P.funcs[g]? with
   | some fn=>Ij P fn
   | none=>none
 | _=>none
def KY (P:Program) (name:String) (t:TypeId):Option (TypeId × FuncId) :=
 match P.info? t,P.underlying t with
 | some i,some (.struct _)=>match i.methods.find? (·.name == name) with
   | some m=>match m.path.isEmpty,m.func with
     | true,some (f,false)=>some (t,f)
     | _,_=>none
   | none=>none
 | _,_=>none
def MZ (P:Program) (name:String):List (TypeId × FuncId):=(List.range P.types.size).filterMap (KY P name)
def BD (P:Program) (o:Oper):E6 × List Da :=
 match o.op with
 | .move x=>(.mv,[AU x])
 | .assign x=>(.mv,[AU x])
 | .pick c a b=>(.pick,[AU c,AU a,AU b])
 | .alloc e=>match G4 P e with | some (y::z)=>(.alloc (y::z),[]) | _=>(.bad,[])
 | .box e x=>match CZ P e with | some (s+1)=>(.box (s+1),[AU x]) | _=>(.bad,[])
 | .build t ps =>
   match G4 P t,P.underlying t with
   | some z,some (.struct fs) =>
     match fs.toList.mapM (λ f=>(P.info? f.type).map λ i=>(f.offset,i.size)) with
     | some places=>match ps.toList.mapM (λ p=>places[p.1]?) with
       | some pl=>(.build z pl,ps.toList.map (AU ·.2))
       | none=>(.bad,[])
     | none=>(.bad,[])
   | some z,some (.array _ e) =>
     match P.info? e with
     | some ie=>(.build z (ps.toList.map λ p=>(p.1*ie.size,ie.size)),ps.toList.map (AU ·.2))
     | none=>(.bad,[])
   | _,_=>(.bad,[])
 | .buildSlice t len ps =>
   match P.underlying t with
   | some (.slice e) =>
     match G4 P e,CZ P e with
     | some z,some s=>if len*s<=2 ^ 24/\0<s then (.bsl s len z (ps.toList.map (·.1)),ps.toList.map (AU ·.2)) else (.bad,[])
     | _,_=>(.bad,[])
   | _=>(.bad,[])
 | .load t x=>match EN P t,CZ P t with | some ag,some s=>if ag=true∨s=1 then (.ld ag s,[AU x]) else (.bad,[]) | _,_=>(.bad,[])
 | .store t a x=>match CZ P t with | some s=>(.st s,[AU a,AU x]) | none=>(.bad,[])
 | .nilCheck x=>(.nil,[AU x])
 | .binOp op t x y _ =>
   match op,P.underlying t with
   | .eql,some .bool=>(.beq false,[AU x,AU y])
   | .neq,some .bool=>(.beq true,[AU x,AU y])
   | .eql,some (.struct fs)=>match Lz P t fs.toList with | some ks=>(.aeq false ks,[AU x,AU y]) | none=>(.bad,[])
   | .neq,some (.struct fs)=>match Lz P t fs.toList with | some ks=>(.aeq true ks,[AU x,AU y]) | none=>(.bad,[])
   | .eql,some (.array n e)=>match Mi P t e n with | some ks=>(.aeq false ks,[AU x,AU y]) | none=>(.bad,[])
   | .neq,some (.array n e)=>match Mi P t e n with | some ks=>(.aeq true ks,[AU x,AU y]) | none=>(.bad,[])
   | .eql,some (.slice _)=>if K4 y=true then (.snil false,[AU x]) else (.bad,[])
   | .neq,some (.slice _)=>if K4 y=true then (.snil true,[AU x]) else (.bad,[])
   | _,_=>(.bin op,[AU x,AU y])
 | .unOp op _ x=>(.un op,[AU x])
 | .convert src dst x =>
   match P.underlying src,P.underlying dst with
   | some (.int _),some (.int k)=>(.cvt k,[AU x])
   | some (.slice e),some .string=>match P.underlying e with | some (.int .u8)=>(.b2s,[AU x]) | _=>(.bad,[])
   | _,_=>(.bad,[])
 | .makeFunc (.func f) first capt=>if first.isEmpty then (.mkf f,capt.toList.map AU) else if capt.isEmpty then (.mkb f,first.toList.map AU) else (.bad,[])
 | .makeSlice t l c =>
   match P.underlying t with
   | some (.slice e) =>
     match G4 P e,CZ P e,H3 P e with
     | some z,some s,some b=>if 0<s then (.mks s b z,[AU l,AU c]) else (.bad,[])
     | _,_,_=>(.bad,[])
   | _=>(.bad,[])
 | .slice t x lo hi mx =>
   match P.underlying t with
   | some (.slice e)=>match CZ P e with
     | some s=>(.slc s lo.isSome hi.isSome mx.isSome,[AU x]++(lo.map AU).toList++(hi.map AU).toList++(mx.map AU).toList)
     | none=>(.bad,[])
   | _=>(.bad,[])
 | .fieldAddr t x f =>
   match P.underlying t with
   | some (.struct fs)=>match fs[f]? with
     | some fd=>match CZ P fd.type with | some (_+1)=>(.fad fd.offset,[AU x]) | _=>(.bad,[])
     | none=>(.bad,[])
   | _=>(.bad,[])
 | .field t x f =>
   match P.underlying t with
   | some (.struct fs)=>match fs[f]? with
     | some fd=>match EN P fd.type,CZ P fd.type with
       | some ag,some s=>if ag=true∨s=1 then (.fld ag fd.offset s,[AU x]) else (.bad,[])
       | _,_=>(.bad,[])
     | none=>(.bad,[])
   | _=>(.bad,[])
 | .indexAddr t x i =>
   match P.underlying t with
   | some (.slice e)=>match CZ P e with | some s=>(.iad s,[AU x,AU i]) | none=>(.bad,[])
   | some (.array n e)=>match CZ P e with | some s=>(.iaa n s,[AU x,AU i]) | none=>(.bad,[])
   | _=>(.bad,[])
 | .index t x i=>match P.underlying t with | some .string=>(.ixs,[AU x,AU i]) | some (.array n e)=>(match EN P e,CZ P e with | some false,some 1=>(.ixv n,[AU x,AU i]) | _,_=>(.bad,[])) | _=>(.bad,[])
 | .extract t i=>(.ext i,[AU t])
 | .makeInterface t x=>match P.underlying t with
   | some (.struct _)=>(.mki t,[AU x])
   | _=>(.bad,[])
 | .makeMap t none=>match Hp P t with | some _=>(.mkm,[]) | none=>(.bad,[])
 | .insert t m k v=>match Hp P t with | some _=>(.mup,[AU m,AU k,AU v]) | none=>(.bad,[])
 | .mapUpdate t m k v=>match Hp P t with | some _=>(.mup,[AU m,AU k,AU v]) | none=>(.bad,[])
 | .lookup t m k ok=>match Hp P t with | some z=>(.mlk z ok,[AU m,AU k]) | none=>(.bad,[])
 | .call c =>
   match c.callee with
   | .invoke r n=>(.inv (MZ P n),AU r::c.args.toList.map AU)
   | .value f=>match Fx P f with
     | none=>(.call,AU f::c.args.toList.map AU)
     | some s=>(.ovl s,c.args.toList.map AU)
   | .builtin .append =>
     match c.argTypes.toList,c.args.toList with
     | [t,u],[x,y] =>
       match P.underlying t,P.underlying u with
       | some (.slice e),some (.slice _)=>match CZ P e,H3 P e with | some s,some b=>if (G4 P e).isSome/\0<s then (.app s b,[AU x,AU y]) else (.bad,[]) | _,_=>(.bad,[])
       | some (.slice e),some .string=>match CZ P e,H3 P e with | some 1,some 1=>if (G4 P e).isSome then (.apps,[AU x,AU y]) else (.bad,[]) | _,_=>(.bad,[])
       | some (.slice e),some (.int _)=>match G4 P e,CZ P e,H3 P e with | some z,some s,some b=>if 0<s then (.apz s b z,[AU x,AU y]) else (.bad,[]) | _,_,_=>(.bad,[])
       | _,_=>(.bad,[])
     | _,_=>(.bad,[])
   | .builtin .len =>
     match c.argTypes.toList,c.args.toList with
     | [t],[x]=>match P.underlying t with
       | some (.slice _)=>(.len,[AU x])
       | some .string=>(.lens,[AU x])
       | _=>(.bad,[])
     | _,_=>(.bad,[])
   | .builtin .cap =>
     match c.argTypes.toList,c.args.toList with
     | [t],[x]=>match P.underlying t with
       | some (.slice _)=>(.cap,[AU x])
       | _=>(.bad,[])
     | _,_=>(.bad,[])
   | .builtin .copy =>
     match c.argTypes.toList,c.args.toList with
     | t::_,[x,y]=>match P.underlying t with
       | some (.slice e)=>match CZ P e with | some s=>(.cpy s,[AU x,AU y]) | none=>(.bad,[])
       | _=>(.bad,[])
     | _,_=>(.bad,[])
   | .builtin .clear =>
     match c.argTypes.toList,c.args.toList with
     | [t],[x]=>match P.underlying t with
       | some (.slice e)=>match G4 P e,CZ P e with | some z,some s=>(.clr s z,[AU x]) | _,_=>(.bad,[])
       | _=>(.bad,[])
     | _,_=>(.bad,[])
   | .builtin .delete =>
     match c.argTypes.toList,c.args.toList with
     | t::_,[x,y]=>match Hp P t with | some _=>(.mdl,[AU x,AU y]) | none=>(.bad,[])
     | _,_=>(.bad,[])
   | .builtin .max=>match c.args.toList with | [x,y]=>(.mx2,[AU x,AU y]) | _=>(.bad,[])
   | .builtin .min=>match c.args.toList with | [x,y]=>(.mn2,[AU x,AU y]) | _=>(.bad,[])
   | _=>(.bad,[])
 | _=>(.bad,[])
def Bx (P:Program) (ops:Array Oper) (o:Oper):CG :=
 let (op,xs):=BD P o
 match o.guard with
 | none=>{ dst:=o.dst,op:=op,xs:=xs }
 | some (j,want)=>match (ops[j]?).bind (·.dst) with
   | some d=>{ dst:=o.dst,op:=op,xs:=xs,guard:=some (d,want) }
   | none=>{ dst:=o.dst,op:=.bad,xs:=[] }
def comp (P:Program):Code->Cr
 | .skip=>.skip
 | .region _ ops draw=>.reg draw (ops.toList.map (Bx P ops)) (if draw then ops.toList.map λ o=>(o.after.toList.filter (Region.binds .any)).map (·.on) else [])
 | .seq a b=>.seq (comp P a) (comp P b)
 | .cond c a b=>.cond (AU c) (comp P a) (comp P b)
 | .block id a=>.block id (comp P a)
 | .loop a=>.loop (comp P a)
 | .exit id=>.exit id
 | .ret=>.ret
 | .scope a=>comp P a
 | .label _=>.skip
 | _=>.bad
def HW (P:Program) (r:ResultVar):Nat × Option (Bool × Nat) :=
 match r with
 | .tmp t=>(t,none)
 | .cell a t=>match EN P t,CZ P t with | some ag,some s=>(a,some (ag,s)) | _,_=>(a,some (false,0))
def Jg (P:Program) (fn:Func):Option B6 :=
 match fn.body with
 | some c=>some { nt:=fn.ntmps,res:=fn.results.toList.map (HW P),code:=comp P c }
 | none=>none
variable {M:GM} {T:Nat->Nat} {v:Value} {w:World} {x:AV} {α:Type}
theorem Ax.refl (T:Nat->Nat) (w:World):Ax T w T w:=⟨λ _=>Qf _,λ _ cells _ fz h=>⟨cells,fz,h,rfl,λ _ _=>rfl⟩⟩
theorem Ax.trans {T w T1 w1 T2 w2} (a:Ax T w T1 w1) (b:Ax T1 w1 T2 w2):Ax T w T2 w2:=by
 refine⟨λ x=>QR (a.le x) (b.le x),λ x cells ty fz h=>?_⟩;obtain⟨c1,f1,h1,s1,e1⟩:=a.cell x cells ty fz h;obtain⟨c2,f2,h2,s2,e2⟩:=b.cell x c1 ty f1 h1;exact⟨c2,f2,h2,s2.trans s1,λ o ho=>(e2 o (Nat.lt_of_lt_of_le ho (a.le x))).trans (e1 o ho)⟩
theorem FA {n s i j:Nat} (hi:i<n) (hj:j<s):i*s+j<n*s:=by
 have h:(i+1)*s<=n*s:=QE _ hi;rw[QP] at h;omega
theorem Aj.mono (h:Aj T w M x v) :
  ∀ {T':Nat->Nat} {w':World} {M':GM},Ax T w T' w'->(∀ id g,M id=some g->M' id=some g)->Aj T' w' M' x v:=by
 induction h with
 | dead M v=>intro T' w' M' _ _;exact .dead _ _
 | sc M v h=>intro T' w' M' _ _;exact .sc _ _ h
 | agg M cs vs hl h1 h ih=>intro T' w' M' p m;exact .agg _ _ _ hl h1 λ i hi=>ih i hi p m
 | tup M cs vs hl h ih=>intro T' w' M' p m;exact .tup _ _ _ hl λ i hi=>ih i hi p m
 | vs M s full rows a cap c hf u hw hb h1 h ih =>
   intro T' w' M' p m;refine .vs _ s full rows a cap c hf u hw (λ h0=>?_) h1 λ i j hi hj=>ih i j hi hj p λ _ _ e=>e;obtain⟨b,off,cells,ty,fz,ha,hw,hT,hc⟩:=hb h0;obtain⟨c',f',h1,h2,h3⟩:=p.cell b cells ty fz hw;refine⟨b,off,c',ty,f',ha,h1,QR hT (p.le b),λ i j hi hj=>?_⟩;rw[h3 _ (by have:=FA hi hj;omega)]
   exact hc i j hi hj
 | pv M cs b off cells ty fz c hb ht hc h1 h ih =>
   intro T' w' M' p m;obtain⟨c',f',e1,e2,e3⟩:=p.cell b cells ty fz hb;exact .pv _ cs b off c' ty f' c e1 (QR ht (p.le b)) (λ j hj=>by rw[e3 _ zy];exact hc j hj) h1 λ j hj=>ih j hj p λ _ _ e=>e
 | rs M id off len cap a g hg hz hl hn hb =>
   intro T' w' M' p m;refine .rs _ id off len cap a g (m _ _ hg) hz hl hn λ b q=>?_;obtain⟨ha,cells,ty,fz,hw,hs⟩:=hb b q;obtain⟨c',f',e1,e2,e3⟩:=p.cell b cells ty fz hw;exact⟨ha,c',ty,f',e1,zy⟩
 | rk M id off len cap a g hg hz hl hn hb =>
   intro T' w' M' p m;refine .rk _ id off len cap a g (m _ _ hg) hz hl hn λ b q=>?_;obtain⟨ha,cells,ty,fz,hw,hs⟩:=hb b q;obtain⟨c',f',e1,e2,e3⟩:=p.cell b cells ty fz hw;exact⟨ha,c',ty,f',e1,zy⟩
 | pt M id i j g b hg hz hb=>intro T' w' M' _ m;exact .pt _ id i j g b (m _ _ hg) hz hb
 | mp M id g b hg hz hb=>intro T' w' M' _ m;exact .mp _ id g b (m _ _ hg) hz hb
 | fn M f xs ys us vs hx hy h h' ih ih'=>intro T' w' M' p m;exact .fn _ f xs ys us vs hx hy (λ i hi=>ih i hi p m) λ i hi=>ih' i hi p m
 | ifc M t x v h ih=>intro T' w' M' p m;exact .ifc _ t x v (ih p m)
theorem Aj.plain (h:Aj T w M x v) (hp:Plain x):∀ (T':Nat->Nat),Aj T' w M x v:=by
 induction hp generalizing v with
 | dead=>intro T';exact .dead _ _
 | sc u=>intro T';cases h with | sc _ _ h=>exact .sc _ _ h
 | agg xs _ ih=>intro T';cases h with | agg _ _ vs hl h1 h=>exact .agg _ _ _ hl h1 λ i hi=>ih i (h i hi) T'
 | tup xs _ ih=>intro T';cases h with | tup _ _ vs hl h=>exact .tup _ _ _ hl λ i hi=>ih i (h i hi) T'
 | rs id off len=>intro T';cases h with | rs _ _ _ _ cap a g hg hz hl hn hb=>exact .rs _ _ _ _ _ _ g hg hz hl hn hb
 | pt id i j=>intro T';cases h with | pt _ _ _ _ g b hg hz hb=>exact .pt _ _ _ _ g b hg hz hb
 | mp id=>intro T';cases h with | mp _ _ g b hg hz hb=>exact .mp _ _ g b hg hz hb
theorem Aj.rk_rs {id off len cap:Nat} (h:Aj T w M (.rk id off len cap) v):Aj T w M (.rs id off len) v:=by
 cases h with | rk _ _ _ _ _ a g hg hz hl hn hb=>exact .rs _ _ _ _ _ _ g hg hz hl hn hb
theorem XU (i j:Nat) (a:α) (l:List (Nat × α)):AW ((i,a)::l) j=if i=j then some a else AW l j:=rfl
theorem KB (l l':List (Nat × α)) (j:Nat):AW (l++l') j=(AW l j).or (AW l' j):=by
 induction l with
 | nil=>rfl
 | cons p l ih =>
   obtain⟨i,a⟩:=p;simp only[Uc,XU];split<;>simp[ih]
theorem St.get_put (st:St) (d i:Nat) (v:AV):(st.put (some d) v).get i=if d=i then v else st.get i:=by
 unfold St.put St.get;simp only[XU];split<;>rfl
theorem Py {st:St} {a:Act} {d:Option Nat} {v:AV} {v':Value} (sz:a.tmps.size=st.sz) (tm:∀ i,Aj T w M (st.get i) (a.tmps.getD i undef)) (hd:d.all (· < st.sz)=true) (r:Aj T w M v v') :
  ∀ i,Aj T w M ((st.put d v).get i) ((a.put d v').tmps.getD i undef):=by
 intro i
 cases d with
 | none=>exact tm i
 | some d =>
   have q:d<a.tmps.size:=by rw[sz];simpa using hd
   rw[St.get_put];simp only[Act.put]
   by_cases e:d=i
   .subst e
    have:(a.tmps.setIfInBounds d v').getD d undef=v':=by simp[Array.getD,q]
    rw[this,if_pos rfl];exact r
   .have:(a.tmps.setIfInBounds d v').getD i undef=a.tmps.getD i undef:=by
     simp only[QD];rw[Array.getElem?_setIfInBounds_ne e]
    rw[this,if_neg e];exact tm i
theorem NQ (l:List α) (f:α->AV) (i:Nat) (h:i<l.length):(l.map f).getD i .dead=f l[i]:=by simp[List.getD,h]
theorem mD (cs:Array Value) (h:cs.all Value.oneCell'=true):Aj T w M (.agg (cs.toList.map .sc)) (.agg cs):=by
 have h1:∀ i,i<cs.size->(cs.getD i undef).oneCell'=true:=λ i hi=>by
  rw[Array.all_eq_true] at h;have:=h i hi
  simpa [Array.getD,hi] using this
 refine .agg _ _ _ zz (λ i hi=>h1 i (by simpa using hi)) λ i hi=>?_
 have hi':i<cs.size:=by simpa using hi
 rw[NQ _ _ _ (by simpa using hi')]
 have e:cs.getD i undef=cs.toList[i]'(by simpa using hi'):=by simp[Array.getD,hi']
 have:=h1 i hi';rw[e] at this ⊢;exact .sc _ _ this
theorem NL (v:Value):Aj T w M (Cc v) v:=by
 unfold Cc;split
 .rename_i cs
  split
  .rename_i hc;exact mD cs hc
  .exact .dead _ _
 .exact .dead _ _
 .rename_i h1 h2
  exact .sc _ _ (by cases v<;>first | rfl | (exact absurd rfl (h1 _)) | (exact absurd rfl (h2 _)))
theorem Bn {st:St} {a:Act} (tm:∀ i,Aj T w M (st.get i) (a.tmps.getD i undef)) (x:Operand) :
  Aj T w M ((AU x).ev st.get) (a.eval x):=by
 cases x with
 | tmp t=>exact tm t
 | const v=>exact NL v
 | global g=>exact .sc _ _ rfl
 | func f=>exact .fn _ _ _ _ _ _ rfl rfl (λ i hi=>absurd hi (UW i)) (λ i hi=>absurd hi (UW i))
theorem Mn {cs:List AV} (h:Aj T w M x v) (hc:cellsOf x=some cs) :
  v.cells.size=cs.length /\ ∀ j,j<cs.length->(v.cells.getD j undef).oneCell'=true/\Aj T w M (cs.getD j .dead) (v.cells.getD j undef):=by
 have one:∀ {x:AV} {v:Value},Aj T w M x v->v.oneCell'=true->v.cells.size=[x].length /\ ∀ j,j<[x].length->(v.cells.getD j undef).oneCell'=true/\Aj T w M ([x].getD j .dead) (v.cells.getD j undef):=by
  intro x v h h1;have e:v.cells = #[v]:=by cases v<;>first | rfl | (simp[Value.oneCell'] at h1)
  refine⟨by rw[e];rfl,λ j hj=>?_⟩
  obtain rfl:j=0:=by simpa using hj
  rw[e];exact⟨h1,h⟩
 cases h with
 | dead=>simp[cellsOf] at hc
 | sc _ _ h1 =>
   have:cs=[.sc v]:=by cases v<;>simp[cellsOf] at hc<;>first | exact hc.symm | (simp[Value.oneCell'] at h1)
   subst this;exact one (.sc _ _ h1) h1
 | agg _ ys us hl h1 h =>
   simp only[cellsOf,Qw] at hc;subst hc;exact⟨hl,λ j hj=>⟨h1 j hj,h j hj⟩⟩
 | tup _ ys us hl h=>simp[cellsOf] at hc
 | vs _ s full rows a cap c hf q hw hb h1 h =>
   simp only[cellsOf,Qw] at hc;subst hc;exact one (.vs _ s full rows a cap c hf q hw hb h1 h) rfl
 | pv _ ys b off cells ty fz c hb ht u h1 h =>
   simp only[cellsOf,Qw] at hc;subst hc;exact one (.pv _ ys b off cells ty fz c hb ht u h1 h) rfl
 | rs _ id off len cap a g hg hz hl hn hb =>
   simp only[cellsOf,Qw] at hc;subst hc;exact one (.rs _ id off len cap a g hg hz hl hn hb) rfl
 | rk _ id off len cap a g hg hz hl hn hb =>
   simp only[cellsOf,Qw] at hc;subst hc;exact one (.rk _ id off len cap a g hg hz hl hn hb) rfl
 | pt _ id i j g b hg hz hb =>
   simp only[cellsOf,Qw] at hc;subst hc;exact one (.pt _ id i j g b hg hz hb) rfl
 | mp _ id g b hg hz hb =>
   simp only[cellsOf,Qw] at hc;subst hc;exact one (.mp _ id g b hg hz hb) rfl
 | fn _ f xs ys us vs hx hy h h' =>
   simp only[cellsOf,Qw] at hc;subst hc;exact one (.fn _ f xs ys us vs hx hy h h') rfl
 | ifc _ t x v h =>
   simp only[cellsOf,Qw] at hc;subst hc;exact one (.ifc _ t x v h) rfl
variable {w1:World}
theorem St.hp_upd (st:St) (up:List (Nat × Option AD)) (i:Nat):(st.upd up).hp i=(AW up i).elim (st.hp i) id:=by
 unfold St.upd St.hp;simp only[KB]
 cases AW up i<;>rfl
theorem St.hp_put (st:St) (d:Option Nat) (v:AV) (i:Nat):(st.put d v).hp i=st.hp i:=by
 cases d<;>rfl
theorem St.get_upd (st:St) (up:List (Nat × Option AD)) (i:Nat):(st.upd up).get i=st.get i:=rfl
theorem Fq.step {np:Nat} {T0:Nat->Nat} {M0:GM} {w0:World} {T:Nat->Nat} {M:GM} {w:World} {T':Nat->Nat} {M':GM} {w':World} (h:Fq np T0 M0 w0 T M w) (tok:Gy T' w') (old:∀ b,b<w0.heap.size->¬ GV np M0 b->T' b=T b) (same:∀ k,k<np->M' k=M k) (os:w'.os=w.os) (tape:w'.tape=w.tape) (output:w'.output=w.output) (size:w.heap.size<=w'.heap.size) (keep:∀ b,b<w0.heap.size->¬ GV np M0 b->w'.heap[b]? = w.heap[b]?) (pres:Ax T w T' w') (new:∀ k g b,np<=k->M' k=some g->g.blk=some b->GV np M0 b∨w0.heap.size<=b):Fq np T0 M0 w0 T' M' w' :=
 ⟨tok,λ b hb hn=>(old b hb hn).trans (h.old b hb hn),λ k hk=>(same k hk).trans (h.same k hk),os.trans h.os,tape.trans h.tape,output.trans h.output,QR h.size size,
  λ b hb hn=>(keep b hb hn).trans (h.keep b hb hn),h.pres.trans pres,new⟩
theorem Fq.blk {np:Nat} {T0:Nat->Nat} {M0:GM} {w0:World} {T:Nat->Nat} {M:GM} {w:World} (h:Fq np T0 M0 w0 T M w) {k:Nat} {g:GE} {b:Nat} (hg:M k=some g) (hb:g.blk=some b):GV np M0 b∨w0.heap.size<=b:=by
 rcases Ub k np with hk | hk
 .exact .inl ⟨k,g,hk,by rw[<- h.same k hk];exact hg,hb⟩
 .exact h.new k g b hk hg hb
theorem DN.mono {T w M T' w' M'} (p:Ax T w T' w') (m:∀ id g,M id=some g->M' id=some g):∀ {rows:List (List AV)} {es:List MapEntry},DN T w M rows es->DN T' w' M' rows es
 | [],[],_=>trivial
 | _::_,_::_,h=>⟨by obtain⟨n,x,h1,h2,h3⟩:=h.1;exact⟨n,x,h1,h2,h3.mono p m⟩,DN.mono p m h.2⟩
 | [],_::_,h=>False.elim h
 | _::_,[],h=>False.elim h
theorem DN.map {T w M T' w' M'} {f:AV->AV} (hi:∀ n,f (.sc (.int .i64 n)) = .sc (.int .i64 n)):∀ {rows:List (List AV)} {es:List MapEntry},DN T w M rows es->(∀ row∈rows,∀ x∈row,∀ v,Aj T w M x v->Aj T' w' M' (f x) v)->DN T' w' M' (rows.map (·.map f)) es
 | [],[],_,_=>trivial
 | row::rows,e::es,h,hf=>⟨by
   obtain⟨n,x,h1,h2,h3⟩:=h.1
   exact⟨n,f x,by rw[h1];simp[hi n],h2,hf row Qo x (by rw[h1];simp) _ h3⟩,DN.map hi h.2 λ r hr=>hf r (Qj _ hr)⟩
 | [],_::_,h,_=>False.elim h
 | _::_,[],h,_=>False.elim h
theorem H4.mono {T w M e g T' w' M'} (h:H4 T w M e g) (p:Ax T w T' w') (m:∀ id g,M id=some g->M' id=some g) (hb:∀ b,g.blk=some b->w'.heap[b]? = w.heap[b]? /\ T' b=T b):H4 T' w' M' e g:=by
 refine⟨h.s,h.ro,h.wide,h.none,λ hz=>?_,λ hz b q=>?_⟩
 .obtain ⟨b,es,clock,q,h1,h2,h5,h4⟩:=h.mp hz
  obtain⟨e1,e2⟩:=hb b q;exact⟨b,es,clock,q,by rw[e1];exact h1,by rw[e2];exact h2,h5,h4.mono p m⟩
 obtain⟨cells,ty,h1,h2,h3,h4⟩:=h.blk hz b q;obtain⟨e1,e2⟩:=hb b q;refine⟨cells,ty,by rw[e1];exact h1,by rw[e2];exact h2,h3,λ i j hi hj=>?_⟩
 obtain⟨v,hv,ho,hr⟩:=h4 i j hi hj;exact⟨v,hv,ho,hr.mono p m⟩
section
variable {np:Nat} {T0:Nat->Nat} {M0:GM} {w0:World} {aA:Nat->Prop} {hp:Nat->Option AD} {T:Nat->Nat} {M:GM} {w:World}
structure Bp (np:Nat) (T0:Nat->Nat) (M0:GM) (w0:World) (aA:Nat->Prop) (hp:Nat->Option AD) (T:Nat->Nat) (M:GM) (w:World):Prop where
 hs:Dl T w M hp
 dom:∀ id g,M id=some g->aA id
 after:Fq np T0 M0 w0 T M w
theorem Bp.block_lt (h:Bp np T0 M0 w0 aA hp T M w) {id e g b} (he:hp id=some e) (hg:M id=some g) (hb:g.blk=some b):b<w.heap.size:=by
 obtain⟨g',h1,h2⟩:=h.hs.ent id e he;obtain rfl:=Qh (hg.symm.trans h1)
 by_cases hz:e.s=0
 .obtain ⟨b',es,clock,q,h3,_⟩:=h2.mp hz
  obtain rfl:=Qh (hb.symm.trans q);exact(Q0.1 h3).1
 obtain⟨cells,ty,h3,_⟩:=h2.blk hz b hb;exact(Q0.1 h3).1
theorem Bp.T_zero (h:Bp np T0 M0 w0 aA hp T M w) {b:Nat} (hb:w.heap.size<=b):T b=0:=by
 rcases UF (T b) with e | e
 .exact e
 .obtain ⟨cells,ty,fz,h1,_⟩:=h.after.tok b e
  have:=(Q0.1 h1).1;omega
theorem Bp.wider (h:Bp np T0 M0 w0 aA hp T M w) {q:Nat->Prop} (hl:∀ i,aA i->q i):Bp np T0 M0 w0 q hp T M w :=
 ⟨h.hs,λ id g hg=>hl _ (h.dom id g hg),h.after⟩
theorem Ax.alloc {o:Obj} (hT:Gy T w) (hh:w1.heap=w.heap.push o):Ax T w T w1:=by
 refine⟨λ _=>Qf _,λ b cells ty fz hb=>⟨cells,fz,?_,rfl,λ _ _=>rfl⟩⟩;have:b<w.heap.size:=(Q0.1 hb).1;rw[hh,U5,if_neg zy]
 exact hb
theorem Bp.draw (h:Bp np T0 M0 w0 aA hp T M w) (hh:w1.heap=w.heap) (os:w1.os=w.os) (tape:w1.tape=w.tape) (output:w1.output=w.output) :
  Bp np T0 M0 w0 aA hp T M w1/\Ax T w T w1:=by
 have p:Ax T w T w1:=⟨λ _=>Qf _,λ b cells ty fz hb=>⟨cells,fz,by rw[hh];exact hb,rfl,λ _ _=>rfl⟩⟩
 refine⟨⟨⟨λ id e he=>?_,h.hs.inj⟩,h.dom,?_⟩,p⟩
 .obtain ⟨g,h1,h2⟩:=h.hs.ent id e he
  exact⟨g,h1,h2.mono p (λ _ _ e=>e) λ b _=>⟨by rw[hh],rfl⟩⟩
 .exact h.after.step (λ b hb=>by rw[hh];exact h.after.tok b hb) (λ _ _ _=>rfl) (λ _ _=>rfl) os tape output (by rw[hh];exact Qf _) (λ b _ _=>by rw[hh]) p h.after.new
theorem Bp.new (h:Bp np T0 M0 w0 aA hp T M w) {id:Nat} (hid:¬ aA id) (ha:np<=id) {cells:Array Value} {ty:TypeId} (hh:w1.heap=w.heap.push (.cells cells ty)) (os:w1.os=w.os) (tape:w1.tape=w.tape) (output:w1.output=w.output) (e:AD) (h8:e.s≠0) (ro:e.ro<=e.rows.length) (wide:∀ row∈e.rows,row.length=e.s) (u:e.rows.length*e.s<=cells.size) (hc:∀ i j,i<e.rows.length->j<e.s -> ∃ v,cells[i*e.s+j]? = some v/\v.oneCell'=true/\Aj T w M ((e.rows.getD i []).getD j .dead) v) {hp':Nat->Option AD} (h9:hp' id=some e) (q:∀ i e',i≠id->hp' i=some e'->hp i=some e') :
  ∃ M':GM,M' id=some ⟨some w.heap.size,0,e.s⟩/\(∀ i g,M i=some g->M' i=some g)/\Bp np T0 M0 w0 (λ i=>aA i∨i=id) hp' T M' w1/\Ax T w T w1:=by
 have p:Ax T w T w1:=Ax.alloc h.after.tok hh
 have h0:M id=none:=by
  cases hm:M id with
  | none=>rfl
  | some g=>exact absurd (h.dom id g hm) hid
 have mm:∀ i g,M i=some g->(λ i=>if i=id then some (GE.mk (some w.heap.size) 0 e.s) else M i) i=some g:=by
  intro i g hg;have:i≠id:=by rintro rfl;rw[h0] at hg;cases hg
  simp only[this,UA];exact hg
 refine⟨λ i=>if i=id then some ⟨some w.heap.size,0,e.s⟩ else M i,zz,mm,⟨⟨λ i e' he=>?_,λ i i' e1 e2 g g' b h1 h2 h3 h4 h5 h6=>?_⟩,λ i g hg=>?_,?_⟩,p⟩
 .by_cases hi:i=id
  .subst hi
   obtain rfl:e=e':=Qh (h9.symm.trans he);refine⟨⟨some w.heap.size,0,e.s⟩,if_pos rfl,rfl,ro,λ _=>wide,(λ e=>by simp at e),(λ h=>absurd h h8),λ _ b hb=>?_⟩
   obtain rfl:w.heap.size=b:=Qh hb;refine⟨cells,ty,by rw[hh];simp,by rw[h.T_zero (Qf _)];exact Qk _,by simpa using u,λ i j hi hj=>?_⟩
   obtain⟨v,hv,ho,hr⟩:=hc i j hi hj;exact⟨v,by simpa using hv,ho,hr.mono p mm⟩
  .have h7:=q i e' hi he
   obtain⟨g,h1,h2⟩:=h.hs.ent i e' h7;refine⟨g,by simp only[hi,UA];exact h1,h2.mono p mm λ b hb=>⟨?_,rfl⟩⟩
   have:=h.block_lt h7 h1 hb;rw[hh,U5,if_neg zy]
 .by_cases hi:i=id<;>by_cases hi':i'=id
  .rw [hi,hi']
  .rw [if_pos hi] at h3;rw[if_neg hi'] at h4
   obtain rfl:=Qh h3;have:=h.block_lt (q i' e2 hi' h2) h4 h6;simp at h5;omega
  .rw [if_neg hi] at h3;rw[if_pos hi'] at h4
   obtain rfl:=Qh h4;have:=h.block_lt (q i e1 hi h1) h3 h5;simp at h6;omega
  .rw [if_neg hi] at h3;rw[if_neg hi'] at h4
   exact h.hs.inj i i' e1 e2 g g' b (q i e1 hi h1) (q i' e2 hi' h2) h3 h4 h5 h6
 .by_cases hi:i=id
  .exact .inr hi
  .rw [if_neg hi] at hg;exact .inl (h.dom i g hg)
 .refine h.after.step (λ b hb=>?_) (λ _ _ _=>rfl) (λ k hk=>?_) os tape output (by rw[hh];simp) (λ b hb _=>?_) p λ k g b hk hg hb=>?_
  .obtain ⟨c,ty',fz,h1,h2⟩:=h.after.tok b hb
   have:b<w.heap.size:=(Q0.1 h1).1;exact⟨c,ty',fz,by rw[hh,U5,if_neg zy];exact h1,h2⟩
  .have:k≠id:=zy
   simp only[this,UA]
  .have:=h.after.size
   rw[hh,U5,if_neg zy]
  .by_cases hi:k=id
   .rw [if_pos hi] at hg
    obtain rfl:=Qh hg;obtain rfl:=Qh hb;exact .inr h.after.size
   .rw [if_neg hi] at hg
    exact h.after.new k g b hk hg hb
theorem Bp.write (h:Bp np T0 M0 w0 aA hp T M w) {id id':Nat} {e0 e:AD} {g g':GE} {b:Nat} {cells cells':Array Value} {ty:TypeId} (hu:hp id=some e0) (hg:M id=some g) (hb:g.blk=some b) (h0:w.heap[b]? = some (.cells cells ty (0,0))) (hh:cells'.size=cells.size) (hl:∀ o,o<T b->cells'[o]? = cells[o]?) (hid:(id'=id/\g'=g)∨(¬ aA id'/\np<=id')) (h8:g'.blk=some b) (hs':g'.s=e.s) (hw:e.s≠0) (ro:e.ro<=e.rows.length) (wide:∀ row∈e.rows,row.length=e.s) (hT:T b<=g'.base+e.ro*e.s) (hq:g'.base+e.rows.length*e.s<=cells.size) (hc:∀ i j,i<e.rows.length->j<e.s -> ∃ v,cells'[g'.base+i*e.s+j]? = some v/\v.oneCell'=true/\Aj T w M ((e.rows.getD i []).getD j .dead) v) {hp':Nat->Option AD} (hx:hp' id'=some e) (h9:∀ i e',i≠id'->hp' i=some e'->i≠id/\hp i=some e') :
  ∃ M':GM,M' id'=some g'/\(∀ i g,M i=some g->M' i=some g)/\Bp np T0 M0 w0 (λ i=>aA i∨i=id') hp' T M' (w.setRow b cells')/\Ax T w T (w.setRow b cells'):=by
 have u:∀ k,k≠b->(w.setRow b cells').heap[k]? = w.heap[k]?:=λ k hk=>setRow_other w b k cells' hk;have ha:=setRow_heap w b cells cells' ty (0,0) h0
 have p:Ax T w T (w.setRow b cells'):=by
  refine⟨λ _=>Qf _,λ k c t f hk=>?_⟩
  by_cases e:k=b
  .subst e
   rw[h0] at hk
   cases hk;exact⟨cells',(0,0),ha,hh,hl⟩
  .exact ⟨c,f,by rw[u k e];exact hk,rfl,λ _ _=>rfl⟩
 have hy:id'≠id->M id'=none:=by
  intro hf;rcases hid with ⟨h1,_⟩ | ⟨h1,_⟩
  .exact absurd h1 hf
  .cases hm:M id' with
   | none=>rfl
   | some g=>exact absurd (h.dom id' g hm) h1
 have mm:∀ i g1,M i=some g1->(λ i=>if i=id' then some g' else M i) i=some g1:=by
  intro i g1 q
  by_cases hi:i=id'
  .subst hi
   rcases hid with ⟨rfl,rfl⟩ | ⟨h1,_⟩
   .simp only[UP];exact hg.symm.trans q
   .exact absurd (h.dom i g1 q) h1
  .simp only[hi,UA];exact q
 have hd:∀ i e' g1 b1,i≠id->hp i=some e'->M i=some g1->g1.blk=some b1->b1≠b:=by
  rintro i e' g1 b1 hi h1 h2 h3 rfl
  exact hi (h.hs.inj i id e' e0 g1 g b1 h1 hu h2 hg h3 hb)
 refine⟨λ i=>if i=id' then some g' else M i,zz,mm,⟨⟨λ i e' he=>?_,λ i i' e1 e2 g1 g2 b1 h1 h2 h3 h4 h5 h6=>?_⟩,λ i g1 q=>?_,?_⟩,p⟩
 .by_cases hi:i=id'
  .subst hi
   obtain rfl:e=e':=Qh (hx.symm.trans he);refine⟨g',if_pos rfl,hs',ro,λ _=>wide,(λ e=>by rw[h8] at e;cases e),(λ h=>absurd h hw),λ _ b1 h7=>?_⟩
   obtain rfl:b=b1:=Qh (h8.symm.trans h7);refine⟨cells',ty,ha,hT,by rw[hh];exact hq,λ i j hi hj=>?_⟩
   obtain⟨v,hv,ho,hr⟩:=hc i j hi hj;exact⟨v,hv,ho,hr.mono p mm⟩
  .obtain ⟨hf,ht⟩:=h9 i e' hi he
   obtain⟨g1,h1,h2⟩:=h.hs.ent i e' ht;refine⟨g1,by simp only[hi,UA];exact h1,h2.mono p mm λ b1 h7=>⟨u b1 (hd i e' g1 b1 hf ht h1 h7),rfl⟩⟩
 .by_cases hi:i=id'<;>by_cases hi':i'=id'
  .rw [hi,hi']
  .rw [if_pos hi] at h3;rw[if_neg hi'] at h4
   obtain rfl:=Qh h3;obtain rfl:=Qh (h8.symm.trans h5);obtain⟨k1,k2⟩:=h9 i' e2 hi' h2;exact absurd rfl (hd i' e2 g2 _ k1 k2 h4 h6)
  .rw [if_neg hi] at h3;rw[if_pos hi'] at h4
   obtain rfl:=Qh h4;obtain rfl:=Qh (h8.symm.trans h6);obtain⟨k1,k2⟩:=h9 i e1 hi h1;exact absurd rfl (hd i e1 g1 _ k1 k2 h3 h5)
  .rw [if_neg hi] at h3;rw[if_neg hi'] at h4
   exact h.hs.inj i i' e1 e2 g1 g2 b1 (h9 i e1 hi h1).2 (h9 i' e2 hi' h2).2 h3 h4 h5 h6
 .by_cases hi:i=id'
  .exact .inr hi
  .rw [if_neg hi] at q;exact .inl (h.dom i g1 q)
 .refine h.after.step (λ k hk=>?_) (λ _ _ _=>rfl) (λ k hk=>?_) rfl rfl rfl zz (λ k hk hn=>?_) p λ k g1 b1 hk q h7=>?_
  .obtain ⟨c,t,f,h1,h2⟩:=h.after.tok k hk
   obtain⟨c',f',e1,e2,_⟩:=p.cell k c t f h1;exact⟨c',t,f',e1,zy⟩
  .by_cases hi:k=id'
   .subst hi
    rcases hid with ⟨rfl,rfl⟩ | ⟨_,h1⟩
    .simp only[UP];exact hg.symm
    .omega
   .simp only[hi,UA]
  .refine u k ?_
   rintro rfl
   rcases h.after.blk hg hb with h1 | h1
   .exact hn h1
   .omega
  .by_cases hi:k=id'
   .rw [if_pos hi] at q
    obtain rfl:=Qh q;obtain rfl:=Qh (h8.symm.trans h7);exact h.after.blk hg hb
   .rw [if_neg hi] at q
    exact h.after.new k g1 b1 hk q h7
end
theorem CV {P:Program} {t:TypeId} {d:TypeDesc} (h:P.underlying t=some d) (w:World):(underlying t).run P w = .ok d w:=by
 simp[underlying,h]
section
variable {P:Program} {np:Nat} {T0:Nat->Nat} {M0:GM} {w0:World} {aA:Nat->Prop} {st:St} {T:Nat->Nat} {M:GM} {a:Act} {w:World} {idb:Nat}
def Ek (P:Program) (np:Nat) (T0:Nat->Nat) (M0:GM) (w0:World) (aA:Nat->Prop) (id:Nat) (hp:Nat->Option AD) (T:Nat->Nat) (M:GM) (w:World) (v:AV):Result Next->Prop
 | .ok (.value v') w'=>∃ T' M',Bp np T0 M0 w0 (λ i=>aA i∨(id<=i/\i<id+8)) hp T' M' w'/\Ax T w T' w'/\(∀ i g,M i=some g->M' i=some g)/\Aj T' w' M' v v'
 | .ok .skip w'=>∃ T' M',Bp np T0 M0 w0 (λ i=>aA i∨(id<=i/\i<id+8)) hp T' M' w'/\Ax T w T' w'/\(∀ i g,M i=some g->M' i=some g)/\v = .dead
 | .ok (.enter f args) w1=>w1=w/\Calls P f args w λ e w'=>∃ v' T' M',e = .returned v'/\Bp np T0 M0 w0 (λ i=>aA i∨(id<=i/\i<id+8)) hp T' M' w'/\Ax T w T' w' /\
   (∀ i g,M i=some g->M' i=some g)/\Aj T' w' M' v v'
 | _=>False
theorem Ca (m:Bp np T0 M0 w0 aA st.hp T M w) {v:AV} {v':Value} (r:Aj T w M v v') {s:Sem Next} (hs:s.run P w = .ok (.value v') w) :
  Ek P np T0 M0 w0 aA idb (st.upd []).hp T M w v (s.run P w):=by
 rw[hs];exact⟨T,M,m.wider λ _ h=>.inl h,Ax.refl _ _,λ _ _ h=>h,r⟩
def BG (P:Program) (np:Nat) (T0:Nat->Nat) (M0:GM) (w0:World) (aA:Nat->Prop) (st:St) (T:Nat->Nat) (M:GM) (a:Act) (w:World) (idb:Nat) (o:Oper):Prop :=
 ∀ K,aK P np idb (BD P o).1 ((BD P o).2.map (·.ev st.get)) st.hp K -> ∃ v rd up,K v rd up/\Ek P np T0 M0 w0 aA idb (st.upd up).hp T M w v ((execOp a.eval o).run P w)
variable (tm:∀ i,Aj T w M (st.get i) (a.tmps.getD i undef)) (m:Bp np T0 M0 w0 aA st.hp T M w)
include tm m
theorem SQ (o:Oper) (x:Operand) (h:o.op = .move x∨o.op = .assign x):BG P np T0 M0 w0 aA st T M a w idb o:=by
 intro K hk;have hc:BD P o=(.mv,[AU x]):=by rcases h with h | h<;>simp[BD,h]
 rw[hc] at hk;refine⟨_,_,_,hk,Ca m (Bn tm x) ?_⟩;rcases h with h | h<;>simp[execOp,h]
omit tm m
theorem Cu {T:Nat->Nat} {w:World} {M:GM} {x:AV} {v u:Value} (h:Aj T w M x v) (e:x = .sc u):v=u:=by
 subst e;cases h;rfl
include tm m
theorem j5 (o:Oper) (c x y:Operand) (h:o.op = .pick c x y):BG P np T0 M0 w0 aA st T M a w idb o:=by
 intro K hk;have hc:BD P o=(.pick,[AU c,AU x,AU y]):=by simp[BD,h]
 rw[hc] at hk;simp only[List.map,aK] at hk;obtain⟨t,ht,hk⟩:=hk;have q:=Cu (Bn tm c) ht;refine⟨_,_,_,hk,Ca m (v':=if t then a.eval x else a.eval y) ?_ ?_⟩
 .cases t
  .exact Bn tm y
  .exact Bn tm x
 .simp only[execOp,h,q]
  cases t<;>simp[asBool]
theorem rF (o:Oper) (x:Operand) (h:o.op = .nilCheck x):BG P np T0 M0 w0 aA st T M a w idb o:=by
 intro K hk;have hc:BD P o=(.nil,[AU x]):=by simp[BD,h]
 rw[hc] at hk;simp only[List.map,aK] at hk;obtain⟨h1,hk⟩:=hk;have hr:=Bn tm x;refine⟨_,_,_,hk,Ca m hr ?_⟩;generalize (AU x).ev st.get=y at *;generalize hv:a.eval x=v at *;simp only[execOp,h,hv]
 cases hr<;>first | exact False.elim h1 | rfl
theorem Zm (o:Oper) (t:TypeId) (x:Operand) (h:o.op = .makeInterface t x):BG P np T0 M0 w0 aA st T M a w idb o:=by
 intro K hk
 cases hu:P.underlying t with
 | none =>
   have hc:BD P o=(.bad,[]):=by simp[BD,h,hu]
   rw[hc] at hk;exact False.elim hk
 | some td =>
   by_cases hs:∃ fs,td = .struct fs
   .obtain ⟨fs,rfl⟩:=hs
    have hc:BD P o=(.mki t,[AU x]):=by simp[BD,h,hu]
    rw[hc] at hk;refine⟨_,_,_,hk,Ca m (.ifc _ t _ _ (Bn tm x)) ?_⟩;simp[execOp,h,Instr.makeInterface,run_underlying hu]
   .have hc:BD P o=(.bad,[]):=by
     simp only[BD,h,hu];split
     .rename_i e;exact absurd ⟨_,Qh e⟩ hs
     .rfl
    rw[hc] at hk;exact False.elim hk
theorem eA (o:Oper) (x:Operand) (i:Nat) (h:o.op = .extract x i):BG P np T0 M0 w0 aA st T M a w idb o:=by
 intro K hk;have hc:BD P o=(.ext i,[AU x]):=by simp[BD,h]
 rw[hc] at hk;have hr:=Bn tm x;simp only[List.map] at hk;generalize (AU x).ev st.get=y at *;generalize hv:a.eval x=v at *
 cases y<;>simp only[aK] at hk
 rename_i vs;obtain⟨u,hu,hk⟩:=hk
 cases hr with
 | tup _ _ us hl hh =>
   have hi:i<vs.length:=(Qz.1 hu).1;have h1:=hh i hi;have e1:vs.getD i .dead=u:=by simp[List.getD,hu]
   rw[e1] at h1;refine⟨_,_,_,hk,Ca m h1 ?_⟩;have hi':i<us.size:=zy
   simp[execOp,h,hv,Instr.extract,hi',Array.getD]
theorem eX (o:Oper) (f:FuncId) (first capt:Array Operand) (h:o.op = .makeFunc (.func f) first capt):BG P np T0 M0 w0 aA st T M a w idb o:=by
 intro K hk
 by_cases hf:first.isEmpty=true
 .have hc:BD P o=(.mkf f,capt.toList.map AU):=by simp[BD,h,hf]
  rw[hc] at hk;simp only[Us,aK] at hk;have q:first = #[]:=by simpa using hf
  refine⟨_,_,_,hk,Ca m (v':=.func (.func f) #[] (capt.map a.eval)) (.fn _ (.func f) [] _ #[] _ rfl zz (λ i hi=>absurd hi (UW i)) λ i hi=>?_) ?_⟩
  .simp only[Qs,Ul] at hi
   have e1:((capt.toList.map ((λ x=>x.ev st.get)∘AU)).getD i .dead)=(AU capt[i]).ev st.get:=by simp[List.getD,hi]
   have e2:(capt.map a.eval).getD i undef=a.eval capt[i]:=by simp[Array.getD,hi]
   rw[e1,e2];exact Bn tm _
  .simp [execOp,h,q,Instr.makeFunc]
 by_cases hg:capt.isEmpty=true
 .have hc:BD P o=(.mkb f,first.toList.map AU):=by simp[BD,h,hf,hg]
  rw[hc] at hk;simp only[Us,aK] at hk;have u:capt = #[]:=by simpa using hg
  refine⟨_,_,_,hk,Ca m (v':=.func (.func f) (first.map a.eval) #[]) (.fn _ (.func f) _ [] _ #[] zz rfl (λ i hi=>?_) (λ i hi=>absurd hi (UW i))) ?_⟩
  .simp only[Qs,Ul] at hi
   have e1:((first.toList.map ((λ x=>x.ev st.get)∘AU)).getD i .dead)=(AU first[i]).ev st.get:=by simp[List.getD,hi]
   have e2:(first.map a.eval).getD i undef=a.eval first[i]:=by simp[Array.getD,hi]
   rw[e1,e2];exact Bn tm _
  .simp [execOp,h,u,Instr.makeFunc]
 .have hc:BD P o=(.bad,[]):=by simp[BD,h,hf,hg]
  rw[hc] at hk;exact False.elim hk
theorem Zz (o:Oper) (t:TypeId) (x:Operand) (f:Nat) (h:o.op = .fieldAddr t x f):BG P np T0 M0 w0 aA st T M a w idb o:=by
 intro K hk;have hr:=Bn tm x;simp only[BD,h] at hk;split at hk
 case h_2=>exact False.elim hk
 rename_i fs hu;split at hk
 case h_2=>exact False.elim hk
 rename_i fd h2;split at hk
 case h_2=>exact False.elim hk
 rename_i k q;simp only[List.map] at hk
 have u:(sizeOf fd.type).run P w = .ok (k+1) w:=by
  simp only[CZ,Qy] at q;obtain⟨i,hi,hs⟩:=q;simp[sizeOf,typeInfo,hi,hs]
 generalize (AU x).ev st.get=y at *;generalize hv:a.eval x=v at *
 have key:∀ b off,v = .pointer (some ⟨b,off,none⟩)->(execOp a.eval o).run P w = .ok (.value (.pointer (some ⟨b,off+fd.offset,none⟩))) w:=by
  rintro b off rfl
  have h0:(⟨b,off,none⟩:Addr).add fd.offset=⟨b,off+fd.offset,none⟩:=by unfold Addr.add;split<;>simp_all
  simp[execOp,h,hv,Instr.fieldAt,CV hu,h2,Instr.sureAddr,fieldPlace,u,h0]
 cases y<;>simp only[aK] at hk
 .rename_i cs
  obtain⟨h4,hk⟩:=hk
  cases hr with
  | pv _ _ b off cells ty fz c hb ht h3 h1 hh =>
    refine⟨_,_,_,hk,Ca m (.pv _ _ b (off+fd.offset) cells ty fz (λ j=>c (fd.offset+j)) hb zw (λ j hj=>?_) (λ j hj=>?_) λ j hj=>?_) (key b off rfl)⟩
    .rw [Uy];exact h3 _ (by simp at hj;omega)
    .exact h1 _ (by simp at hj;omega)
    .have:=hh (fd.offset+j) (by simp at hj;omega)
     simpa [List.getD] using this
 .rename_i i k j
  cases hr with
  | pt _ _ _ _ g b hg hz hb =>
    refine⟨_,_,_,hk,Ca m (.pt _ _ _ _ g b hg hz hb) ?_⟩;rw[key b _ rfl,Uy (g.base+k*g.s)]
theorem pJ (o:Oper) (op:UnOp) (t:TypeId) (x:Operand) (h:o.op = .unOp op t x):BG P np T0 M0 w0 aA st T M a w idb o:=by
 intro K hk;have hc:BD P o=(.un op,[AU x]):=by simp[BD,h]
 rw[hc] at hk;have hr:=Bn tm x;simp only[List.map] at hk;generalize (AU x).ev st.get=y at *;generalize hv:a.eval x=v at *
 cases y<;>simp only[aK] at hk
 rename_i u;obtain⟨z,hz,hk⟩:=hk;obtain rfl:=Cu hr rfl
 have q:z.oneCell'=true:=by
  cases v<;>simp only[It] at hz<;>(try (cases hz;done))<;>cases op<;>simp at hz<;>subst hz<;>rfl
 refine⟨_,_,_,hk,Ca m (.sc _ _ q) ?_⟩;simp only[execOp,h,hv]
 cases v<;>simp only[It] at hz<;>(try (cases hz;done))<;>cases op<;>simp at hz<;>subst hz<;>simp[Op.unary,Op.intArith,Op.intBits]
end
variable {cs:List AV} {op:BinOp} {t:TypeId} {x y:Value} {xs:Array Value}
section
variable {P:Program} {np:Nat} {T0:Nat->Nat} {M0:GM} {w0:World} {aA:Nat->Prop} {st:St} {T:Nat->Nat} {M:GM} {a:Act} {w:World} {idb:Nat}
theorem cJ {z:Value} (h:Aq op x y=some z):z.oneCell'=true:=by
 cases x<;>cases y<;>simp only[Aq] at h<;>(try (cases h;done))
 .cases op<;>simp at h<;>(try (obtain⟨_,h⟩:=h))<;>(try subst h)<;>(try rfl)<;>(try (obtain⟨_,h⟩:=h))<;>(try subst h)<;>rfl
 .cases op<;>simp at h<;>(try subst h)<;>rfl
theorem Zv {z:Value} (h:Aq op x y=some z):(binOp op t x y).run P w = .ok z w:=by
 cases x<;>cases y<;>simp only[Aq] at h<;>(try (cases h;done))
 .rename_i k n k' n'
  cases op<;>simp at h<;>(try (obtain⟨h0,h⟩:=h))<;>(try (obtain⟨q,h⟩:=h))<;>(try subst h)<;>(try subst h0) <;>
   first
    | (simp[binOp,Op.intArith,Op.intBits,Op.intCmp];done)
    | (have hn:¬ (n'<0):=zy
       simp[binOp,Op.shift,hn];done)
    | (simp[binOp,Op.intDiv,q];done)
 .cases op<;>simp at h<;>(try subst h)<;>simp[binOp,Op.stringOp]
theorem Jb {d:TypeDesc} (hu:P.underlying t=some d) (hd:(∃ k,d = .int k)∨d = .bool∨d = .string) {off:Nat} {v:Value} (hx:xs[off]? = some v):(part t xs off).run P w = .ok v w:=by
 rcases hd with ⟨k,rfl⟩ | rfl | rfl<;>simp[part,isAgg,CV hu,hx]
theorem Sf {xs ys:Array Value} (d:Nat):∀ (fs:List Field) (i:Nat) (ks:List Nat) (cs ds:List AV) (b:Bool),JR P i fs=some ks->C6 ks cs ds=some b ->
  (∀ (j:Nat) v,cs[j]? = some (.sc v)->xs[i+j]? = some v)->(∀ (j:Nat) v,ds[j]? = some (.sc v)->ys[i+j]? = some v)->(Op.eqFields (d+1) xs ys fs).run P w = .ok b w
 | [],i,ks,cs,ds,b,hf,he,hx,hy=>by
   simp only[JR,Qw] at hf;subst hf
   cases cs<;>cases ds<;>simp[C6] at he
   subst he;simp[Op.eqFields]
 | f::fs,i,ks,cs,ds,b,hf,he,hx,hy=>by
   simp only[JR] at hf;split at hf
   case isFalse=>cases hf
   rename_i h0;obtain⟨hn,ho⟩:=h0
   have tail:∀ ks' cs' ds' b' c c',JR P (i+1) fs=some ks'->cs=c::cs'->ds=c'::ds'->C6 ks' cs' ds'=some b'->(Op.eqFields (d+1) xs ys fs).run P w = .ok b' w:=by
    intro ks' cs' ds' b' c c' h1 h2 h3 h4;subst h2 h3;refine Sf d fs (i+1) ks' cs' ds' b' h1 h4 (λ j v hj=>?_) λ j v hj=>?_
    .rw [show i+1+j=i+(j+1) by omega]
     exact hx (j+1) v (by simpa using hj)
    .rw [show i+1+j=i+(j+1) by omega]
     exact hy (j+1) v (by simpa using hj)
   have fin:∀ (dd:TypeDesc) (u v:Value) (r r':Bool),P.underlying f.type=some dd->((∃ k,dd = .int k)∨dd = .bool∨dd = .string)->xs[i]? = some u->ys[i]? = some v->(Op.equalIn (d+1) f.type u v).run P w = .ok r w ->
     (Op.eqFields (d+1) xs ys fs).run P w = .ok r' w->(Op.eqFields (d+1) xs ys (f::fs)).run P w = .ok (r && r') w:=by
    intro dd u v r r' h1 h2 h3 h4 h5 h6;simp only[Op.eqFields,ne_eq,hn,not_false_eq_true,UP,Sem.run_bind,Jb h1 h2 (ho ▸ h3),Jb h1 h2 (ho ▸ h4),Result.andThen_ok,h5]
    cases r
    .simp
    .simpa using h6
   split at hf
   .rename_i k ks' hu q
    obtain rfl:=Qh hf;unfold C6 at he;split at he<;>(try (cases he;done))
    .rename_i h;cases h
    .rename_i ki n1 cs' ki' n2 ds' e
     cases e;split at he
     case isFalse=>cases he
     rename_i hk;subst hk;simp only[Qy] at he;obtain⟨r,hr,rfl⟩:=he;exact fin _ _ _ _ _ hu (.inl ⟨_,rfl⟩) (hx 0 _ rfl) (hy 0 _ rfl) (by simp[Op.equalIn,CV hu]) (tail _ _ _ _ _ _ q rfl rfl hr)
    all_goals (rename_i h;cases h)
   .rename_i ks' hu q
    obtain rfl:=Qh hf;unfold C6 at he;split at he<;>(try (cases he;done))
    .rename_i h;cases h
    .rename_i h;cases h
    .rename_i b1 cs' b2 ds' e
     cases e;simp only[Qy] at he;obtain⟨r,hr,rfl⟩:=he;exact fin _ _ _ _ _ hu (.inr (.inl rfl)) (hx 0 _ rfl) (hy 0 _ rfl) (by simp[Op.equalIn,CV hu]) (tail _ _ _ _ _ _ q rfl rfl hr)
    .rename_i h;cases h
   .rename_i ks' hu q
    obtain rfl:=Qh hf;unfold C6 at he;split at he<;>(try (cases he;done))
    .rename_i h;cases h
    .rename_i h;cases h
    .rename_i h;cases h
    .rename_i b1 cs' b2 ds' e
     cases e;simp only[Qy] at he;obtain⟨r,hr,rfl⟩:=he;exact fin _ _ _ _ _ hu (.inr (.inr rfl)) (hx 0 _ rfl) (hy 0 _ rfl) (by simp[Op.equalIn,CV hu,beq_toListBytes]) (tail _ _ _ _ _ _ q rfl rfl hr)
   .cases hf
def Ie:Nat->Value->Value->Option Bool
 | 0,.int k a,.int k' b=>if k=k' then some (a == b) else none
 | 1,.bool a,.bool b=>some (a == b)
 | 2,.string a,.string b=>some (a.toList == b.toList)
 | _,_,_=>none
theorem VJ {k:Nat} {ks:List Nat} {ds:List AV} {b:Bool} (h:C6 (k::ks) cs ds=some b):∃ u v cs' ds' b1 b2,cs = .sc u::cs'/\ds = .sc v::ds'/\Ie k u v=some b1/\C6 ks cs' ds'=some b2/\b=(b1 && b2):=by
 unfold C6 at h;split at h<;>(try (cases h;done))
 .rename_i e;cases e
 .rename_i k1 x cs' k2 y ds' e
  cases e;split at h
  case isFalse=>cases h
  rename_i hk;simp only[Qy] at h;obtain⟨r,hr,rfl⟩:=h;exact⟨_,_,cs',ds',_,r,rfl,rfl,by simp only[Ie];rw[if_pos hk],hr,rfl⟩
 .rename_i x cs' y ds' e
  cases e;simp only[Qy] at h;obtain⟨r,hr,rfl⟩:=h;exact⟨_,_,cs',ds',_,r,rfl,rfl,rfl,hr,rfl⟩
 .rename_i x cs' y ds' e
  cases e;simp only[Qy] at h;obtain⟨r,hr,rfl⟩:=h;exact⟨_,_,cs',ds',_,r,rfl,rfl,rfl,hr,rfl⟩
theorem MQ:∀ (ks ls:List Nat) (cs ds:List AV) (b:Bool),C6 (ks++ls) cs ds=some b -> ∃ b1 b2,C6 ks (cs.take ks.length) (ds.take ks.length)=some b1/\C6 ls (cs.drop ks.length) (ds.drop ks.length)=some b2/\b=(b1 && b2)
 | [],ls,cs,ds,b,h=>⟨true,b,by simp[C6],by simpa using h,zz⟩
 | k::ks,ls,cs,ds,b,h=>by
   rw[Uc] at h;unfold C6 at h;split at h<;>(try (cases h;done))
   .rename_i e;cases e
   .rename_i k1 x cs' k2 y ds' e
    cases e;split at h
    case isFalse=>cases h
    rename_i hk;subst hk;simp only[Qy] at h;obtain⟨r,hr,rfl⟩:=h;obtain⟨b1,b2,h1,h2,rfl⟩:=MQ ks ls _ _ _ hr;exact⟨(x == y) && b1,b2,by simp[C6,h1],by simpa using h2,by simp[Bool.and_assoc]⟩
   .rename_i x cs' y ds' e
    cases e;simp only[Qy] at h;obtain⟨r,hr,rfl⟩:=h;obtain⟨b1,b2,h1,h2,rfl⟩:=MQ ks ls _ _ _ hr;exact⟨(x == y) && b1,b2,by simp[C6,h1],by simpa using h2,by simp[Bool.and_assoc]⟩
   .rename_i x cs' y ds' e
    cases e;simp only[Qy] at h;obtain⟨r,hr,rfl⟩:=h;obtain⟨b1,b2,h1,h2,rfl⟩:=MQ ks ls _ _ _ hr;exact⟨(x.toList == y.toList) && b1,b2,by simp[C6,h1],by simpa using h2,by simp[Bool.and_assoc]⟩
theorem Xe {gs:Array Field} (hu:P.underlying t=some (.struct gs)) {n:Nat} (hn:CZ P t=some n) {off:Nat}:(part t xs off).run P w = .ok (.agg (xs.extract off (off+n))) w:=by
 simp only[CZ,Qy] at hn;obtain⟨i,hi,rfl⟩:=hn;simp[part,isAgg,CV hu,sizeOf,typeInfo,hi]
def G3 (cs:List AV) (xs:Array Value) (i:Nat):Prop:=∀ (j:Nat) v,cs[j]? = some (.sc v)->xs[i+j]? = some v
theorem G3.drop {i:Nat} (h:G3 cs xs i) (n:Nat):G3 (cs.drop n) xs (i+n):=λ j v hj=>by
 rw[Ud] at hj;have:=h (n+j) v hj;rw[show i+n+j=i+(n+j) by omega]
 exact this
theorem G3.take {i:Nat} (h:G3 cs xs i) (n:Nat):G3 (cs.take n) (xs.extract i (i+n)) 0:=λ j v hj=>by
 have hl:=(Qz.1 hj).1;simp only[QC] at hl;rw[List.getElem?_take_of_lt zy] at hj
 have h1:=h j v hj;have h2:=(Q0.1 h1).1;rw[Array.getElem?_extract];simp only[Q9];rw[if_pos zy]
 exact h1
theorem Tr {xs ys:Array Value} {e:TypeId} (hu:P.underlying e=some .bool) (d:Nat):∀ (m i:Nat) (cs ds:List AV) (b:Bool),C6 (List.replicate m 1) cs ds=some b ->
  G3 cs xs i->G3 ds ys i->(Op.eqItems (d+1) e 1 xs ys (List.range' i m)).run P w = .ok b w
 | 0,i,cs,ds,b,h,hx,hy=>by
   cases cs<;>cases ds<;>simp[C6] at h
   subst h;simp[Op.eqItems]
 | m+1,i,cs,ds,b,h,hx,hy=>by
   rw[List.replicate_succ] at h;obtain⟨u,v,cs',ds',b1,b2,rfl,rfl,h1,h2,rfl⟩:=VJ h;have ih:=Tr hu d m (i+1) cs' ds' b2 h2 (hx.drop 1) (hy.drop 1);have p1:(part e xs (i*1)).run P w = .ok u w:=Jb hu (.inr (.inl rfl)) (by rw[Nat.mul_one];exact hx 0 u rfl)
   have p2:(part e ys (i*1)).run P w = .ok v w:=Jb hu (.inr (.inl rfl)) (by rw[Nat.mul_one];exact hy 0 v rfl)
   have p3:(Op.equalIn (d+1) e u v).run P w = .ok b1 w:=by
    unfold Ie at h1;split at h1<;>(try (cases h1;done))
    .rename_i e;cases e
    .cases h1
     simp[Op.equalIn,CV hu]
    .rename_i e;cases e
   rw[List.range'_succ];simp only[Op.eqItems,Sem.run_bind,p1,p2,p3,Result.andThen_ok]
   cases b1
   .simp
   .simpa using ih
theorem P5 {xs ys:Array Value} (d:Nat):∀ (fs:List Field) (i:Nat) (ks:List Nat) (cs ds:List AV) (b:Bool),HC P i fs=some ks->C6 ks cs ds=some b ->
  G3 cs xs i->G3 ds ys i->(Op.eqFields (d+2) xs ys fs).run P w = .ok b w
 | [],i,ks,cs,ds,b,hf,he,hx,hy=>by
   simp only[HC,Qw] at hf;subst hf
   cases cs<;>cases ds<;>simp[C6] at he
   subst he;simp[Op.eqFields]
 | f::fs,i,ks,cs,ds,b,hf,he,hx,hy=>by
   simp only[HC] at hf;split at hf
   case isFalse=>cases hf
   rename_i h0;obtain⟨hn,ho⟩:=h0
   have step:∀ (u v:Value) (r r':Bool),(part f.type xs f.offset).run P w = .ok u w->(part f.type ys f.offset).run P w = .ok v w->(Op.equalIn (d+2) f.type u v).run P w = .ok r w ->
     (Op.eqFields (d+2) xs ys fs).run P w = .ok r' w->(Op.eqFields (d+2) xs ys (f::fs)).run P w = .ok (r && r') w:=by
    intro u v r r' h1 h2 h3 h4;simp only[Op.eqFields,ne_eq,hn,not_false_eq_true,UP,Sem.run_bind,h1,h2,Result.andThen_ok,h3]
    cases r
    .simp
    .simpa using h4
   have one:∀ (k:Nat) (q:List Nat) (dd:TypeDesc),P.underlying f.type=some dd->((∃ k,dd = .int k)∨dd = .bool∨dd = .string)->HC P (i+1) fs=some q->ks=k::q ->
     (∀ (u v:Value) (r:Bool),Ie k u v=some r->(Op.equalIn (d+2) f.type u v).run P w = .ok r w)->(Op.eqFields (d+2) xs ys (f::fs)).run P w = .ok b w:=by
    intro k q dd hu h6 h5 hk heq;subst hk;obtain⟨u,v,cs',ds',b1,b2,rfl,rfl,h1,h2,rfl⟩:=VJ he;exact step u v b1 b2 (Jb hu h6 (ho ▸ hx 0 u rfl)) (Jb hu h6 (ho ▸ hy 0 v rfl)) (heq u v b1 h1) (P5 d fs (i+1) q _ _ b2 h5 h2 (hx.drop 1) (hy.drop 1))
   split at hf
   .rename_i k hu
    simp only[Qy] at hf;obtain⟨q,h5,rfl⟩:=hf;refine one 0 q _ hu (.inl ⟨_,rfl⟩) h5 rfl λ u v r hr=>?_;unfold Ie at hr;split at hr<;>(try (cases hr;done))
    .split at hr
     case isFalse=>cases hr
     rename_i hk;subst hk
     cases hr;simp[Op.equalIn,CV hu]
    all_goals (rename_i e;cases e)
   .rename_i hu
    simp only[Qy] at hf;obtain⟨q,h5,rfl⟩:=hf;refine one 1 q _ hu (.inr (.inl rfl)) h5 rfl λ u v r hr=>?_;unfold Ie at hr;split at hr<;>(try (cases hr;done))
    .rename_i e;cases e
    .cases hr
     simp[Op.equalIn,CV hu]
    .rename_i e;cases e
   .rename_i hu
    simp only[Qy] at hf;obtain⟨q,h5,rfl⟩:=hf;refine one 2 q _ hu (.inr (.inr rfl)) h5 rfl λ u v r hr=>?_;unfold Ie at hr;split at hr<;>(try (cases hr;done))
    .rename_i e;cases e
    .rename_i e;cases e
    .cases hr
     simp[Op.equalIn,CV hu,beq_toListBytes]
   .rename_i gs hu
    split at hf
    case h_2=>cases hf
    rename_i ks1 n h9 h7;split at hf
    case isFalse=>cases hf
    rename_i hc;obtain⟨hst,ha⟩:=hc;simp only[Qy] at hf;obtain⟨q,h5,rfl⟩:=hf;obtain⟨b1,b2,h1,h2,rfl⟩:=MQ ks1 q cs ds b he;rw[<- ha] at h1 h2;have h8:P.fieldsOf f.type=gs:=by simp[Program.fieldsOf,hu]
    have heq:(Op.equalIn (d+2) f.type (.agg (xs.extract i (i+n))) (.agg (ys.extract i (i+n)))).run P w = .ok b1 w:=by
     rw[run_equalIn_struct w (d+1) f.type _ _ (by rw[h8];exact hu) hst,h8]
     exact Sf d gs.toList 0 ks1 _ _ b1 h9 h1 (hx.take n) (hy.take n)
    exact step _ _ b1 b2 (by rw[ho];exact Xe hu h7) (by rw[ho];exact Xe hu h7) heq (P5 d fs (i+n) q _ _ b2 h5 h2 (hx.drop n) (hy.drop n))
   .cases hf
theorem Nc {X Y:Operand} (hx:∀ c,x ≠ .agg c) (q:x ≠ .nilIface):(eqGuard op t X Y x y).run P w = .ok () w:=by
 unfold eqGuard
 cases op<;>simp<;>(cases x<;>first | exact absurd rfl (hx _) | exact absurd rfl q | (cases y<;>rfl))
variable (tm:∀ i,Aj T w M (st.get i) (a.tmps.getD i undef)) (m:Bp np T0 M0 w0 aA st.hp T M w)
include tm m
theorem bH (o:Oper) (op:BinOp) (t u:TypeId) (x y:Operand) (h:o.op = .binOp op t x y u):BG P np T0 M0 w0 aA st T M a w idb o:=by
 intro K hk;have hr:=Bn tm x;have h6:=Bn tm y;simp only[BD,h] at hk;generalize hv:a.eval x=v at *;generalize h4:a.eval y=v' at *
 have plain:∀ K,aK P np idb (.bin op) ([AU x,AU y].map (·.ev st.get)) st.hp K -> ∃ v rd up,K v rd up/\Ek P np T0 M0 w0 aA idb (st.upd up).hp T M w v ((execOp a.eval o).run P w):=by
  intro K hk;simp only[List.map] at hk;generalize (AU x).ev st.get=X at *;generalize (AU y).ev st.get=Y at *
  cases X<;>cases Y<;>simp only[aK] at hk
  obtain⟨z,hz,hk⟩:=hk;obtain rfl:=Cu hr rfl;obtain rfl:=Cu h6 rfl;refine⟨_,_,_,hk,Ca m (.sc _ _ (cJ hz)) ?_⟩;have hg:(eqGuard op t x y v v').run P w = .ok () w:=Nc (by rintro c rfl;simp[Aq] at hz) (by rintro rfl;simp[Aq] at hz)
  simp only[execOp,h,hv,h4];simp[hg,Zv hz]
 have bool:∀ (neg:Bool),P.underlying t=some .bool->op=(if neg then .neq else .eql) -> ∀ K,aK P np idb (.beq neg) ([AU x,AU y].map (·.ev st.get)) st.hp K ->
   ∃ v rd up,K v rd up/\Ek P np T0 M0 w0 aA idb (st.upd up).hp T M w v ((execOp a.eval o).run P w):=by
  intro neg hu h3 K hk;simp only[List.map] at hk;generalize (AU x).ev st.get=X at *;generalize (AU y).ev st.get=Y at *
  cases X<;>cases Y<;>(try (simp only[aK] at hk;done))
  rename_i p q
  cases p<;>(try (simp only[aK] at hk;done))
  cases q<;>simp only[aK] at hk
  rename_i p q;obtain rfl:=Cu hr rfl;obtain rfl:=Cu h6 rfl;refine⟨_,_,_,hk,Ca m (.sc _ _ rfl) ?_⟩;have hg:(eqGuard op t x y (.bool p) (.bool q)).run P w = .ok () w:=Nc zz zz
  simp only[execOp,h,hv,h4]
  have he:(Op.equal t (.bool p) (.bool q)).run P w = .ok (p == q) w:=by
   have:∀ d,(Op.equalIn (d+1) t (.bool p) (.bool q)).run P w = .ok (p == q) w:=by
    intro d;simp[Op.equalIn,CV hu]
   exact this 9999
  cases neg<;>simp at h3<;>subst h3<;>simp[hg,binOp,he]
 have struct:∀ (neg:Bool) (fs:Array Field),P.underlying t=some (.struct fs)->op=(if neg then .neq else .eql) -> ∀ ks,Lz P t fs.toList=some ks -> ∀ K,aK P np idb (.aeq neg ks) ([AU x,AU y].map (·.ev st.get)) st.hp K ->
   ∃ v rd up,K v rd up/\Ek P np T0 M0 w0 aA idb (st.upd up).hp T M w v ((execOp a.eval o).run P w):=by
  intro neg fs hu h3 ks h0 K hk;simp only[List.map] at hk;generalize (AU x).ev st.get=X at *;generalize (AU y).ev st.get=Y at *
  cases X<;>cases Y<;>(try (simp only[aK] at hk;done))
  rename_i cs ds;simp only[aK] at hk;obtain⟨b,hb,hk⟩:=hk
  cases hr with | agg _ _ vs h8 hh h7 =>
  cases h6 with | agg _ _ us h9 hi ha =>
  refine⟨_,_,_,hk,Ca m (.sc _ _ rfl) ?_⟩;unfold Lz at h0;split at h0
  case isFalse=>cases h0
  rename_i hc;obtain⟨hp,hgt⟩:=hc;have hd:P.fieldsOf t=fs:=by simp[Program.fieldsOf,hu]
  have look:∀ (zs:List AV) (ws:Array Value),ws.size=zs.length->(∀ i,i<zs.length->Aj T w M (zs.getD i .dead) (ws.getD i undef)) -> ∀ (j:Nat) v,zs[j]? = some (.sc v)->ws[0+j]? = some v:=by
   intro zs ws hl hz j v hj;obtain⟨h5,hj⟩:=Qz.1 hj;have h1:=hz j h5;have e1:zs.getD j .dead = .sc v:=by simp[List.getD,h5,hj]
   rw[e1] at h1;have h2:ws.getD j undef=ws[j]' zy:=by simp[QD,show j<ws.size by omega]
   rw[h2] at h1
   cases h1;simp[show j<ws.size by omega]
  have he:(Op.equalIn 10000 t (.agg vs) (.agg us)).run P w = .ok b w:=by
   rw[run_equalIn_struct w 9999 t vs us (by rw[hd];exact hu) hp,hd]
   exact P5 9997 fs.toList 0 ks cs ds b h0 hb (look cs vs h8 h7) (look ds us h9 ha)
  have hg:(eqGuard op t x y (.agg vs) (.agg us)).run P w = .ok () w:=run_eqGuard_agg w op t x y vs us hgt;simp only[execOp,h,hv,h4]
  cases neg<;>simp at h3<;>subst h3<;>simp[hg,run_eql_struct,run_neq_struct,he,Result.andThen]
 have arr:∀ (neg:Bool) (n:Nat) (e:TypeId),P.underlying t=some (.array n e)->op=(if neg then .neq else .eql) -> ∀ ks,Mi P t e n=some ks -> ∀ K,aK P np idb (.aeq neg ks) ([AU x,AU y].map (·.ev st.get)) st.hp K ->
   ∃ v rd up,K v rd up/\Ek P np T0 M0 w0 aA idb (st.upd up).hp T M w v ((execOp a.eval o).run P w):=by
  intro neg n e hu h3 ks h0 K hk;simp only[List.map] at hk;generalize (AU x).ev st.get=X at *;generalize (AU y).ev st.get=Y at *
  cases X<;>cases Y<;>(try (simp only[aK] at hk;done))
  rename_i cs ds;simp only[aK] at hk;obtain⟨b,hb,hk⟩:=hk
  cases hr with | agg _ _ vs h8 hh h7 =>
  cases h6 with | agg _ _ us h9 hi ha =>
  refine⟨_,_,_,hk,Ca m (.sc _ _ rfl) ?_⟩;unfold Mi at h0;split at h0
  case h_2=>cases h0
  rename_i hm;split at h0
  case isFalse=>cases h0
  rename_i hc;obtain⟨hgt,hn,hq⟩:=hc
  cases h0;obtain⟨ti,hs⟩:=Option.isSome_iff_exists.1 hn
  have look:∀ (zs:List AV) (ws:Array Value),ws.size=zs.length->(∀ i,i<zs.length->Aj T w M (zs.getD i .dead) (ws.getD i undef)) -> ∀ (j:Nat) v,zs[j]? = some (.sc v)->ws[0+j]? = some v:=by
   intro zs ws hl hz j v hj;obtain⟨h5,hj⟩:=Qz.1 hj;have h1:=hz j h5;have e1:zs.getD j .dead = .sc v:=by simp[List.getD,h5,hj]
   rw[e1] at h1;have h2:ws.getD j undef=ws[j]' zy:=by simp[QD,show j<ws.size by omega]
   rw[h2] at h1
   cases h1;simp[show j<ws.size by omega]
  have he:(Op.equalIn 10000 t (.agg vs) (.agg us)).run P w = .ok b w:=by
   rw[run_equalIn_array w 9999 vs us hu hs,hq,List.range_eq_range'];exact Tr hm 9998 n 0 cs ds b hb (look cs vs h8 h7) (look ds us h9 ha)
  have hg:(eqGuard op t x y (.agg vs) (.agg us)).run P w = .ok () w:=run_eqGuard_agg w op t x y vs us hgt;simp only[execOp,h,hv,h4]
  cases neg<;>simp at h3<;>subst h3<;>simp[hg,run_eql_struct,run_neq_struct,he,Result.andThen]
 have slice:∀ (neg:Bool) (e:TypeId),P.underlying t=some (.slice e)->op=(if neg then .neq else .eql)->K4 y=true -> ∀ K,aK P np idb (.snil neg) ([AU x].map (·.ev st.get)) st.hp K ->
   ∃ v rd up,K v rd up/\Ek P np T0 M0 w0 aA idb (st.upd up).hp T M w v ((execOp a.eval o).run P w):=by
  intro neg e hu h3 hy K hk
  have ht:v' = .slice none 0 0:=by
   unfold K4 at hy;split at hy
   .rw [<- h4];rfl
   .cases hy
  subst ht;simp only[List.map] at hk;generalize (AU x).ev st.get=X at *
  have fin:∀ (ad:Option Addr) (l c:Nat),v = .slice ad l c->(execOp a.eval o).run P w = .ok (.value (.bool (ad.isNone != neg))) w:=by
   rintro ad l c rfl
   have he:(Op.equal t (.slice ad l c) (.slice none 0 0)).run P w = .ok ad.isNone w:=run_equal_slice_nil w t e ad l c hu;have hg:(eqGuard op t x y (.slice ad l c) (.slice none 0 0)).run P w = .ok () w:=Nc zz zz
   simp only[execOp,h,hv,h4]
   cases neg<;>simp at h3<;>subst h3<;>simp[hg,binOp,he]
  cases X<;>(try (simp only[aK] at hk;done))
  .rename_i u
   cases u<;>simp only[aK] at hk
   obtain rfl:=Cu hr rfl;exact⟨_,_,_,hk,Ca m (.sc _ _ rfl) (fin _ _ _ rfl)⟩
  .rename_i sz full rows
   cases rows with
   | nil=>simp only[aK] at hk
   | cons row rows =>
     simp only[aK] at hk
     cases hr with | vs _ _ _ _ ad cap c hf hl hw hb ho h7 =>
     obtain⟨b,off,cells,ty,fz,rfl,_⟩:=hb (List.cons_ne_nil _ _);refine⟨_,_,_,hk,Ca m (.sc _ _ rfl) ?_⟩;rw[fin _ _ _ rfl]
     cases neg<;>rfl
 split at hk
 .rename_i hu;exact bool false hu rfl K hk
 .rename_i hu;exact bool true hu rfl K hk
 .rename_i fs hu
  split at hk
  .rename_i ks h0;exact struct false fs hu rfl ks h0 K hk
  .exact hk.elim
 .rename_i fs hu
  split at hk
  .rename_i ks h0;exact struct true fs hu rfl ks h0 K hk
  .exact hk.elim
 .rename_i n e hu
  split at hk
  .rename_i ks h0;exact arr false n e hu rfl ks h0 K hk
  .exact hk.elim
 .rename_i n e hu
  split at hk
  .rename_i ks h0;exact arr true n e hu rfl ks h0 K hk
  .exact hk.elim
 .rename_i e hu
  split at hk
  .rename_i hy;exact slice false e hu rfl hy K hk
  .exact hk.elim
 .rename_i e hu
  split at hk
  .rename_i hy;exact slice true e hu rfl hy K hk
  .exact hk.elim
 .exact plain K hk
theorem wA (o:Oper) (t u:TypeId) (x:Operand) (h:o.op = .convert t u x) (k k':IntKind) (h1:P.underlying t=some (.int k)) (h2:P.underlying u=some (.int k')):BG P np T0 M0 w0 aA st T M a w idb o:=by
 intro K hk;have hr:=Bn tm x;simp only[BD,h,h1,h2,List.map] at hk;generalize hv:a.eval x=v at *;generalize (AU x).ev st.get=X at *
 cases X<;>(try (simp only[aK] at hk;done))
 rename_i u
 cases u<;>simp only[aK] at hk
 obtain rfl:=Cu hr rfl;refine⟨_,_,_,hk,Ca m (.sc _ _ rfl) ?_⟩;simp[execOp,h,hv,convert,CV h1,CV h2,Conv.intToInt]
end
section
variable {P:Program} {np:Nat} {T0:Nat->Nat} {M0:GM} {w0:World} {aA:Nat->Prop} {st:St} {T:Nat->Nat} {M:GM} {a:Act} {w:World} {idb:Nat}
theorem WJ {X:AV} {v:Value} {n:Nat} (hr:Aj T w M X v) (hn:lenOf X=some n):∃ b cp,v = .slice b n cp:=by
 cases hr with
 | sc _ _ h1 =>
   unfold lenOf at hn;split at hn<;>(try (cases hn;done))
   .rename_i e;cases e
   .rename_i e;cases e
   .rename_i e;cases e
   .rename_i e;cases e;cases hn;exact⟨_,_,rfl⟩
 | vs=>simp only[lenOf,Qw] at hn;subst hn;exact⟨_,_,rfl⟩
 | rs=>simp only[lenOf,Qw] at hn;subst hn;exact⟨_,_,rfl⟩
 | rk=>simp only[lenOf,Qw] at hn;subst hn;exact⟨_,_,rfl⟩
 | _=>simp[lenOf] at hn
theorem Addr.add_none (b o n:Nat):(⟨b,o,none⟩:Addr).add n=⟨b,o+n,none⟩:=by unfold Addr.add;split<;>simp_all
variable (tm:∀ i,Aj T w M (st.get i) (a.tmps.getD i undef)) (m:Bp np T0 M0 w0 aA st.hp T M w)
include tm m
theorem gL (o:Oper) (c:Call) (h:o.op = .call c) (hb:c.callee = .builtin .len) (t:TypeId) (x:Operand) (ht:c.argTypes.toList=[t]) (hx:c.args.toList=[x]):BG P np T0 M0 w0 aA st T M a w idb o:=by
 intro K hk;have hr:=Bn tm x;have q:c.argTypes = #[t]:=by rw[<- QW (xs:=c.argTypes),ht]
 have h0:c.args = #[x]:=by rw[<- QW (xs:=c.args),hx]
 simp only[BD,h,hb,ht,hx] at hk;split at hk
 case h_3=>exact False.elim hk
 .rename_i s hu
  simp only[List.map] at hk;generalize hv:a.eval x=v at *;generalize (AU x).ev st.get=X at *;simp only[aK] at hk;obtain⟨n,hn,hk⟩:=hk;obtain⟨b,cp,rfl⟩:=WJ hr hn;refine⟨_,_,_,hk,Ca m (.sc _ _ rfl) ?_⟩;simp[execOp,h,resolve,hb,invoke,builtin,Builtin.len_,q,h0,hv,CV hu,goInt]
 .rename_i hu
  simp only[List.map] at hk;generalize hv:a.eval x=v at *;generalize (AU x).ev st.get=X at *
  cases X<;>(try (simp only[aK] at hk;done))
  rename_i u
  cases u<;>simp only[aK] at hk
  obtain rfl:=Cu hr rfl;refine⟨_,_,_,hk,Ca m (.sc _ _ rfl) ?_⟩;simp[execOp,h,resolve,hb,invoke,builtin,Builtin.len_,q,h0,hv,CV hu,goInt]
theorem Td (o:Oper) (c:Call) (h:o.op = .call c) (mx:Bool) (hb:c.callee = .builtin (if mx then .max else .min)):BG P np T0 M0 w0 aA st T M a w idb o:=by
 intro K hk
 have two:∀ x y,c.args.toList=[x,y] -> ∀ K,aK P np idb (if mx then .mx2 else .mn2) ([AU x,AU y].map (·.ev st.get)) st.hp K -> ∃ v rd up,K v rd up/\Ek P np T0 M0 w0 aA idb (st.upd up).hp T M w v ((execOp a.eval o).run P w):=by
  intro x y hx K hk;have u:c.args = #[x,y]:=by rw[<- QW (xs:=c.args),hx]
  have hr:=Bn tm x;have h1:=Bn tm y;simp only[List.map] at hk;generalize hv:a.eval x=v at *;generalize (AU x).ev st.get=X at *;generalize h0:a.eval y=v' at *;generalize (AU y).ev st.get=Y at *
  cases mx<;>simp only[Uk,UA,UP] at hk hb
  all_goals
   cases X<;>cases Y<;>(try (simp only[aK] at hk;done))
   rename_i p q
   cases p<;>(try (simp only[aK] at hk;done))
   cases q<;>simp only[aK] at hk
   obtain rfl:=Cu hr rfl;obtain rfl:=Cu h1 rfl;refine⟨_,_,_,hk,Ca m (.sc _ _ rfl) ?_⟩
  .simp [execOp,h,resolve,hb,invoke,builtin,Builtin.min_,Builtin.min2,u,hv,h0]
  .simp [execOp,h,resolve,hb,invoke,builtin,Builtin.max_,Builtin.max2,u,hv,h0]
 cases mx
 all_goals
  simp only[Uk,UA,UP] at hb;simp only[BD,h,hb] at hk;split at hk
  case h_2=>exact False.elim hk
  rename_i x y hx;exact two x y hx K hk
theorem ZS (o:Oper) (t:TypeId) (x:Operand) (f:Nat) (h:o.op = .field t x f):BG P np T0 M0 w0 aA st T M a w idb o:=by
 intro K hk;have hr:=Bn tm x;simp only[BD,h] at hk;split at hk
 case h_2=>exact False.elim hk
 rename_i fs hu;split at hk
 case h_2=>exact False.elim hk
 rename_i fd h4;split at hk
 case h_2=>exact False.elim hk
 rename_i ag s q h2;split at hk
 case isFalse=>exact False.elim hk
 rename_i h5;simp only[List.map] at hk
 have h3:(sizeOf fd.type).run P w = .ok s w:=by
  simp only[CZ,Qy] at h2;obtain⟨i,hi,hs⟩:=h2;simp[sizeOf,typeInfo,hi,hs]
 have h0:(isAgg fd.type).run P w = .ok ag w:=by
  unfold EN at q;split at q<;>(try (cases q;done))
  .rename_i e;cases q;simp[isAgg,CV e]
  .rename_i e;cases q;simp[isAgg,CV e]
  .rename_i d e n1 n2
   cases q;simp only[isAgg,Sem.run_bind,CV n2];simp
 generalize hv:a.eval x=v at *;generalize (AU x).ev st.get=X at *
 cases X<;>simp only[aK] at hk
 rename_i cs;obtain⟨h6,hk⟩:=hk
 cases hr with
 | agg _ _ us hl h1 hh =>
   have u:∀ v',(part fd.type us fd.offset).run P w = .ok v' w->(execOp a.eval o).run P w = .ok (.value v') w:=by
    intro v' hp;simp[execOp,h,hv,Instr.field,CV hu,h4,asAgg,hp]
   cases ag with
   | true =>
     refine⟨_,_,_,hk,Ca m (v':=.agg (us.extract fd.offset (fd.offset+s))) ?_ (u _ ?_)⟩
     .refine .agg _ _ _ zw (λ i hi=>?_) λ i hi=>?_
      .simp at hi
       have e:(us.extract fd.offset (fd.offset+s)).getD i undef=us.getD (fd.offset+i) undef:=by
        simp only[QD,Array.getElem?_extract];rw[if_pos zy]
       rw[e];exact h1 _ zy
      .simp at hi
       have e:(us.extract fd.offset (fd.offset+s)).getD i undef=us.getD (fd.offset+i) undef:=by
        simp only[QD,Array.getElem?_extract];rw[if_pos zy]
       have e2:((cs.drop fd.offset).take s).getD i .dead=cs.getD (fd.offset+i) .dead:=by
        simp only[List.getD,Uu,Ud];rw[if_pos zy]
       rw[e,e2];exact hh _ zy
     .simp [part,h0,h3]
   | false =>
     obtain rfl:s=1:=by simpa using h5
     refine⟨_,_,_,hk,Ca m (hh fd.offset zy) (u _ ?_)⟩
     have hi:fd.offset<us.size:=zy
     simp[part,h0,hi,Array.getD]
omit tm in
theorem Sg {X:AV} {v:Value} {cs:List AV} (hr:Aj T w M X v) (hc:EQ st.hp X=some cs) :
  ∃ b off,v = .pointer (some ⟨b,off,none⟩) /\ ∃ c:Nat->Value,∀ j,j<cs.length->w.cell? ⟨b,off+j,none⟩=some (c j)/\(c j).oneCell'=true/\Aj T w M (cs.getD j .dead) (c j):=by
 cases hr with
 | pv _ ys b off cells ty fz c hb ht h6 h1 hh =>
   simp only[EQ,Qw] at hc;subst hc;refine⟨b,off,rfl,c,λ j hj=>⟨?_,h1 j hj,(hh j hj).mono (Ax.refl _ _) (λ _ _ e=>by cases e)⟩⟩
   simp[World.cell?,hb,h6 j hj]
 | pt _ i k j g b hg hz hb =>
   simp only[EQ,Un,Qy] at hc;obtain⟨e,he,row,q,rfl⟩:=hc;obtain⟨g',h7,ent⟩:=m.hs.ent i e he;obtain rfl:=Qh (hg.symm.trans h7);have h0:e.s≠0:=ent.s ▸ hz;obtain⟨cells,ty,h1,h2,h3,h4⟩:=ent.blk h0 b hb;have hk:k<e.rows.length:=(Qz.1 q).1;have hw:=ent.wide h0 row (Um q)
   have ex:∀ j':Nat,∃ u,j'<(row.drop j).length->w.cell? ⟨b,g.base+k*g.s+j+j',none⟩=some u/\u.oneCell'=true/\Aj T w M ((row.drop j).getD j' .dead) u:=by
    intro j'
    by_cases hj:j'<(row.drop j).length
    .rw [QY] at hj
     obtain⟨u,hu,ho,h5⟩:=h4 k (j+j') hk zy
     refine⟨u,λ _=>⟨?_,ho,?_⟩⟩
     .simp only[World.cell?,h1]
      rw[<- ent.s,<- Uy] at hu
      simpa using hu
     .have e1:e.rows.getD k []=row:=by simp[List.getD,q]
      rw[e1] at h5
      simpa [List.getD] using h5
    .exact ⟨undef,λ h=>absurd h hj⟩
   obtain⟨c,hc⟩:=Classical.axiomOfChoice ex;exact⟨b,_,rfl,c,hc⟩
 | _=>simp[EQ] at hc
theorem kW (o:Oper) (t:TypeId) (x:Operand) (h:o.op = .load t x):BG P np T0 M0 w0 aA st T M a w idb o:=by
 intro K hk;have hr:=Bn tm x;simp only[BD,h] at hk;split at hk
 case h_2=>exact False.elim hk
 rename_i ag s u h3;split at hk
 case isFalse=>exact False.elim hk
 rename_i h5;simp only[List.map] at hk
 have h4:(sizeOf t).run P w = .ok s w:=by
  simp only[CZ,Qy] at h3;obtain⟨i,hi,hs⟩:=h3;simp[sizeOf,typeInfo,hi,hs]
 have h2:(isAgg t).run P w = .ok ag w:=by
  unfold EN at u;split at u<;>(try (cases u;done))
  .rename_i e;cases u;simp[isAgg,CV e]
  .rename_i e;cases u;simp[isAgg,CV e]
  .rename_i d e n1 n2
   cases u;simp only[isAgg,Sem.run_bind,CV n2];simp
 generalize hv:a.eval x=v at *;generalize (AU x).ev st.get=X at *;simp only[aK] at hk;obtain⟨cs,hc,h7,hk⟩:=hk;obtain⟨b,off,rfl,c,q⟩:=Sg m hr hc
 have h1:∀ v',(loadVar t ⟨b,off,none⟩).run P w = .ok v' w->(execOp a.eval o).run P w = .ok (.value v') w:=by
  intro v' hp;simp[execOp,h,hv,Instr.loadAt,Instr.sureAddr,hp]
 cases ag with
 | true =>
   have hl:=run_loadCells (P:=P) w ⟨b,off,none⟩ s c (λ j hj=>by rw[Addr.add_none];exact(q j zy).1)
   refine⟨_,_,_,hk,Ca m (v':=.agg ((List.range s).map c).toArray) ?_ (h1 _ ?_)⟩
   .refine .agg _ _ _ zw (λ i hi=>?_) λ i hi=>?_
    .simp at hi
     have e:((List.range s).map c).toArray.getD i undef=c i:=by simp[Array.getD,show i<s from by omega]
     rw[e];exact(q i zy).2.1
    .simp at hi
     have e:((List.range s).map c).toArray.getD i undef=c i:=by simp[Array.getD,show i<s from by omega]
     have e2:(cs.take s).getD i .dead=cs.getD i .dead:=by
      simp only[List.getD,Uu];rw[if_pos zy]
     rw[e,e2];exact(q i zy).2.2
   .simp [loadVar,h2,h4,hl]
 | false =>
   obtain rfl:s=1:=by simpa using h5
   have h0:=q 0 zy
   have e:cs.headD .dead=cs.getD 0 .dead:=by cases cs<;>rfl
   simp only[Uk,UA] at hk;rw[e] at hk;refine⟨_,_,_,hk,Ca m h0.2.2 (h1 _ ?_)⟩;simp only[loadVar,Sem.run_bind,h2,Result.andThen_ok];have h6:w.cell? ⟨b,off,none⟩=some (c 0):=by simpa using h0.1
   simp[h6]
theorem Z5 (o:Oper) (t:TypeId) (x y:Operand) (h:o.op = .indexAddr t x y):BG P np T0 M0 w0 aA st T M a w idb o:=by
 intro K hk;have hr:=Bn tm x;have h5:=Bn tm y;simp only[BD,h] at hk;split at hk
 case h_3=>exact False.elim hk
 .rename_i e hu
  split at hk
  case h_2=>exact False.elim hk
  rename_i s q;simp only[List.map] at hk
  have h2:(sizeOf e).run P w = .ok s w:=by
   simp only[CZ,Qy] at q;obtain⟨i,hi,hs⟩:=q;simp[sizeOf,typeInfo,hi,hs]
  generalize hv:a.eval x=v at *;generalize (AU x).ev st.get=X at *;generalize h6:a.eval y=v' at *;generalize (AU y).ev st.get=Y at *
  have key:∀ (b off len cap:Nat) (k:IntKind) (n:Int),v = .slice (some ⟨b,off,none⟩) len cap->v' = .int k n->0<=n->n<len ->
    (execOp a.eval o).run P w = .ok (.value (.pointer (some ⟨b,off+n.toNat*s,none⟩))) w:=by
   rintro b off len cap k n rfl rfl h0 hn
   simp[execOp,h,hv,h6,Instr.indexAt,asIntOf,CV hu,h0,hn,h2,Addr.add_none]
  cases X<;>(try (simp only[aK] at hk;done))
  .rename_i s' full rows
   cases Y<;>(try (simp only[aK] at hk;done))
   rename_i u
   cases u<;>(try (simp only[aK] at hk;done))
   rename_i k n;simp only[aK] at hk;obtain⟨rfl,h0,row,h3,hk⟩:=hk;obtain rfl:=Cu h5 rfl
   cases hr with
   | vs _ _ _ _ ad cap c hf h7 hw hb h1 hh =>
     have hn:n.toNat<rows.length:=(Qz.1 h3).1;obtain⟨b,off,cells,ty,fz,rfl,h8,hT,hc⟩:=hb (by rintro rfl;simp at hn)
     have h9:=hw row (Um h3);have hd:rows.getD n.toNat []=row:=by simp[List.getD,h3]
     refine⟨_,_,_,hk,Ca m (.pv _ _ b (off+n.toNat*s') cells ty fz (λ j=>c n.toNat j) h8 ?_ (λ j hj=>hc _ _ hn zy) (λ j hj=>h1 _ _ hn zy) λ j hj=>?_) (key b off rows.length cap k n rfl rfl h0 zy)⟩
     .rw [h9]
      have:(n.toNat+1)*s'<=rows.length*s':=QE _ hn;rw[QP] at this;omega
     .have:=hh n.toNat j hn zy
      rwa [hd] at this
  .rename_i i off len
   cases Y<;>(try (simp only[aK] at hk;done))
   rename_i u
   cases u<;>(try (simp only[aK] at hk;done))
   rename_i k n;simp only[aK] at hk;obtain⟨h0,hn,⟨en,he,hs⟩,hk⟩:=hk;obtain rfl:=Cu h5 rfl
   cases hr with
   | rs _ _ _ _ cap ad g hg hz hl hm hb =>
     obtain⟨g',ho,ent⟩:=m.hs.ent i en he;obtain rfl:=Qh (hg.symm.trans ho)
     cases h4:g.blk with
     | none=>have:=(hm h4).2;omega
     | some b =>
       obtain⟨ha,cells,ty,fz,h8,hy⟩:=hb b h4
       have hq:ad=some ⟨b,g.base+off*g.s,none⟩:=by
        rcases ha with ha | ha
        .omega
        .exact ha
       subst hq;refine⟨_,_,_,hk,?_⟩;have e1:=key b (g.base+off*g.s) len cap k n rfl rfl h0 hn
       have e2:g.base+off*g.s+n.toNat*s=g.base+(off+n.toNat)*g.s+0:=by
        rw[ent.s,hs,QP];omega
       rw[e2] at e1;rw[e1];exact⟨T,M,m.wider λ _ h=>.inl h,Ax.refl _ _,λ _ _ h=>h,.pt _ _ _ _ g b hg hz h4⟩
 .rename_i l e hu
  split at hk
  case h_2=>exact False.elim hk
  rename_i s q;simp only[List.map] at hk
  have h2:(sizeOf e).run P w = .ok s w:=by
   simp only[CZ,Qy] at q;obtain⟨i,hi,hs⟩:=q;simp[sizeOf,typeInfo,hi,hs]
  generalize hv:a.eval x=v at *;generalize (AU x).ev st.get=X at *;generalize h6:a.eval y=v' at *;generalize (AU y).ev st.get=Y at *
  have key:∀ (b off:Nat) (k:IntKind) (n:Int),v = .pointer (some ⟨b,off,none⟩)->v' = .int k n->0<=n->n<l ->
    (execOp a.eval o).run P w = .ok (.value (.pointer (some ⟨b,off+n.toNat*s,none⟩))) w:=by
   rintro b off k n rfl rfl h0 hn
   simp[execOp,h,hv,h6,Instr.indexAt,asIntOf,CV hu,h0,hn,h2,Addr.add_none,Instr.sureAddr]
  cases X<;>(try (simp only[aK] at hk;done))
  .rename_i cs
   cases Y<;>(try (simp only[aK] at hk;done))
   rename_i u
   cases u<;>(try (simp only[aK] at hk;done))
   rename_i k n;simp only[aK] at hk;obtain⟨h0,hn,h7,hk⟩:=hk;obtain rfl:=Cu h5 rfl;have a0:n.toNat*s<=cs.length:=QR (QE s (show n.toNat<=l by omega)) h7
   cases hr with
   | pv _ _ b off cells ty fz c hb ht hx h1 hh =>
     refine⟨_,_,_,hk,Ca m (.pv _ _ b (off+n.toNat*s) cells ty fz (λ j=>c (n.toNat*s+j)) hb zw (λ j hj=>?_) (λ j hj=>?_) λ j hj=>?_) (key b off k n rfl rfl h0 hn)⟩
     .rw [Uy];exact hx _ (by simp at hj;omega)
     .exact h1 _ (by simp at hj;omega)
     .have:=hh (n.toNat*s+j) (by simp at hj;omega)
      simpa [List.getD] using this
  .rename_i i kk j
   cases Y<;>(try (simp only[aK] at hk;done))
   rename_i u
   cases u<;>(try (simp only[aK] at hk;done))
   rename_i k n;simp only[aK] at hk;obtain⟨h0,hn,hk⟩:=hk;obtain rfl:=Cu h5 rfl
   cases hr with
   | pt _ _ _ _ g b hg hz hb =>
     refine⟨_,_,_,hk,Ca m (.pt _ _ _ _ g b hg hz hb) ?_⟩;rw[key b _ k n rfl rfl h0 hn,Uy (g.base+kk*g.s)]
theorem pL (o:Oper) (t:TypeId) (x y:Operand) (h:o.op = .index t x y):BG P np T0 M0 w0 aA st T M a w idb o:=by
 intro K hk;have hr:=Bn tm x;have h3:=Bn tm y;simp only[BD,h] at hk;split at hk
 case h_3=>exact False.elim hk
 case h_2 =>
  rename_i l e hu;split at hk
  case h_2=>exact False.elim hk
  rename_i u h4;simp only[List.map] at hk
  have h5:(sizeOf e).run P w = .ok 1 w:=by
   simp only[CZ,Qy] at h4;obtain⟨i,hi,hs⟩:=h4;simp[sizeOf,typeInfo,hi,hs]
  have h6:(isAgg e).run P w = .ok false w:=by
   unfold EN at u;split at u<;>(try (cases u;done))
   .rename_i d e n1 n2
    simp only[isAgg,Sem.run_bind,CV n2];simp
  generalize hv:a.eval x=v at *;generalize (AU x).ev st.get=X at *;generalize h2:a.eval y=v' at *;generalize (AU y).ev st.get=Y at *
  cases X<;>cases Y<;>(try (simp only[aK] at hk;done))
  rename_i cs q
  cases q<;>(try (simp only[aK] at hk;done))
  rename_i k n;simp only[aK] at hk;obtain⟨h0,hn,ha,hk⟩:=hk;obtain rfl:=Cu h3 rfl
  cases hr with
  | agg _ _ us hl h1 hh =>
    have h8:n.toNat<cs.length:=zy
    have h7:n.toNat<us.size:=zy
    refine⟨_,_,_,hk,Ca m (v':=us.getD n.toNat undef) (hh _ h8) ?_⟩;simp[execOp,h,hv,h2,Instr.index,asIntOf,CV hu,h0,hn,h5,part,h6,h7,Array.getD]
 rename_i hu;simp only[List.map] at hk;generalize hv:a.eval x=v at *;generalize (AU x).ev st.get=X at *;generalize h2:a.eval y=v' at *;generalize (AU y).ev st.get=Y at *
 cases X<;>cases Y<;>(try (simp only[aK] at hk;done))
 rename_i p q
 cases p<;>(try (simp only[aK] at hk;done))
 cases q<;>(try (simp only[aK] at hk;done))
 rename_i s k n;simp only[aK] at hk;obtain⟨h0,c,hc,hk⟩:=hk;obtain rfl:=Cu hr rfl;obtain rfl:=Cu h3 rfl;refine⟨_,_,_,hk,Ca m (.sc _ _ rfl) ?_⟩
 have h9:s[n.toNat]? = some c:=by
  have hi:n.toNat<s.data.toList.length:=(Qz.1 hc).1;have hi':n.toNat<s.size:=by simpa using hi
  have h1:=(Qz.1 hc).2;rw[getElem?_pos s n.toNat hi']
  congr 1
 simp[execOp,h,hv,h2,Instr.index,asIntOf,CV hu,h0,h9]
end
section
variable {P:Program} {np:Nat} {T0:Nat->Nat} {M0:GM} {w0:World} {aA:Nat->Prop} {st:St} {T:Nat->Nat} {M:GM} {a:Act} {w:World} {idb:Nat}
theorem ZL {t e:TypeId} {s:Nat} (hu:P.underlying t=some (.slice e)) (hs:(sizeOf e).run P w = .ok s w) (ad:Option Addr) (len cap l r m:Nat) (q:l<=r) (u:r<=m) (h0:m<=cap) (lo hi mx:Option Value) (h1:lo=some (.int .i64 l)∨(lo=none/\l=0)) (h2:hi=some (.int .i64 r)∨(hi=none/\r=len/\mx=none)) (h3:mx=some (.int .i64 m)∨(mx=none/\m=cap)) :
  (Instr.sliceAt t (.slice ad len cap) lo hi mx).run P w = .ok (.slice (if m=l then ad else ad.map (·.add (l*s))) (r - l) (m - l)) w:=by
 have sb:∀ (k y:Nat) code,k<=y->(Instr.sliceBound (.int .i64 (k:Nat)) y code).run P w = .ok k w:=by
  intro k y code hk;have:(k:Int)<=y:=zy
  simp[Instr.sliceBound,asIntOf,this]
 have h4:r<=cap:=zy
 rcases h1 with rfl | ⟨rfl,rfl⟩<;>rcases h2 with rfl | ⟨rfl,rfl,rfl⟩<;>(try (rcases h3 with rfl | ⟨rfl,rfl⟩))<;>(try (cases h3;done)) <;>
  simp_all [Instr.sliceAt,CV hu,Instr.slice,Instr.sliceBounds]
variable (tm:∀ i,Aj T w M (st.get i) (a.tmps.getD i undef)) (m:Bp np T0 M0 w0 aA st.hp T M w)
include tm m
theorem eQ (o:Oper) (t:TypeId) (x:Operand) (lo hi mx:Option Operand) (h:o.op = .slice t x lo hi mx):BG P np T0 M0 w0 aA st T M a w idb o:=by
 intro K hk;have hr:=Bn tm x;simp only[BD,h] at hk;split at hk
 case h_2=>exact False.elim hk
 rename_i e hu;split at hk
 case h_2=>exact False.elim hk
 rename_i s a2
 have a3:(sizeOf e).run P w = .ok s w:=by
  simp only[CZ,Qy] at a2;obtain⟨i,hi,hs⟩:=a2;simp[sizeOf,typeInfo,hi,hs]
 simp only[Uc,Uq,QA] at hk;generalize hv:a.eval x=v at *;generalize (AU x).ev st.get=X at *;unfold aK at hk;simp only at hk;obtain⟨l,r,mm,n,hn,a9,h0,h9,hd,a4,hk⟩:=hk;have one:∀ (y:Operand) (k:Nat),(AU y).ev st.get=AV.I k->a.eval y = .int .i64 k:=λ y k hy=>Cu (Bn tm y) hy
 have bnds:(lo.map a.eval=some (.int .i64 l)∨(lo.map a.eval=none/\l=0))/\(hi.map a.eval=some (.int .i64 r)∨(hi.map a.eval=none/\r=n/\mx.map a.eval=none))/\(mx.map a.eval=some (.int .i64 mm)∨mx.map a.eval=none):=by
  cases lo<;>cases hi<;>cases mx<;>simp only[Option.isSome_none,Option.isSome_some,Ug,Option.map_none,Option.toList_some,Option.toList_none,QU,Uq,Uc,QA,Vb,Uk,UA,UP,forall_const,reduceCtorEq,false_and,or_false,false_or,true_and,and_true,List.cons.injEq,imp_self,Qw,implies_true] at h0 h9 hd a4 ⊢
  all_goals first
   | exact⟨h9,hd⟩
   | exact absurd a4 id
   | exact⟨h9,one _ _ h0⟩
   | exact⟨h9,one _ _ h0.1,one _ _ h0.2⟩
   | exact⟨one _ _ h0,hd⟩
   | exact⟨one _ _ h0.1,one _ _ h0.2⟩
   | exact⟨one _ _ h0.1,one _ _ h0.2.1,one _ _ h0.2.2⟩
 obtain⟨b1,b2,b3⟩:=bnds;have he:(mx.map a.eval).isSome=mx.isSome:=by cases mx<;>rfl
 have run2:∀ ad cap mc,v = .slice ad n cap->r<=mc->mc<=cap->(mx.isSome=true->mc=mm)->(mx.isSome=false->mc=cap)->(execOp a.eval o).run P w = .ok (.value (.slice (if mc=l then ad else ad.map (·.add (l*s))) (r - l) (mc - l))) w:=by
  rintro ad cap mc rfl h1 h2 h3 h4
  have:=ZL hu a3 ad n cap l r mc a9 h1 h2 _ _ _ b1 b2 (by
   cases hm:mx.isSome with
   | true =>
     rcases b3 with b3 | b3
     .exact .inl (by rw[b3,h3 hm])
     .have:=congrArg Option.isSome b3
      rw[he,hm] at this
      cases this
   | false =>
     refine .inr ⟨?_,h4 hm⟩;have:=he;rw[hm] at this
     simpa using this)
  simp[execOp,h,hv,this]
 have run:∀ ad cap,n<=cap->r<=n->(mx.isSome=true->mm=r)->v = .slice ad n cap->(execOp a.eval o).run P w = .ok (.value (.slice (if (if mx.isSome then r else cap)=l then ad else ad.map (·.add (l*s))) (r - l) ((if mx.isSome then r else cap) - l))) w:=by
  intro ad cap hc h5 h7 ag;refine run2 ad cap _ ag ?_ ?_ (λ h=>by rw[if_pos h,h7 h]) (λ h=>by rw[h];rfl)
  .split<;>omega
  .split<;>omega
 cases X<;>(try (exact False.elim hk))
 .rename_i u
  split at hk<;>(try (exact False.elim hk))
  .rename_i h1;cases h1
  .rename_i h1;cases h1
  .rename_i h1;cases h1
  .rename_i h1
   cases h1;obtain⟨h5,h7,hk⟩:=hk;obtain rfl:=Cu hr rfl;simp only[lenOf,Qw] at hn;subst hn;obtain rfl:r=0:=zy
   obtain rfl:l=0:=zy
   refine⟨_,_,_,hk,Ca m (.sc _ _ rfl) ?_⟩;rw[run none 0 (Qf _) h5 h7 rfl];simp
 .rename_i s' full rows
  obtain⟨h5,h7,rfl,hk⟩:=hk;simp only[lenOf,Qw] at hn;subst hn
  cases hr with
  | vs _ _ _ _ ad cap c hf ai hw hb h1 hh =>
    have q:((rows.drop l).take (r - l)).length=r - l:=zw
    have run':=run ad cap ai h5 h7 rfl;refine⟨_,_,_,hk,?_⟩;rw[run'];refine⟨T,M,m.wider λ _ h=>.inl h,Ax.refl _ _,λ _ _ h=>h,?_⟩
    suffices hS:Aj T w M (.vs s' (mx.isSome || full && !hi.isSome) ((rows.drop l).take (r - l))) (.slice (if (if mx.isSome then r else cap)=l then ad else ad.map (·.add (l*s'))) ((rows.drop l).take (r - l)).length ((if mx.isSome then r else cap) - l)) by
     rwa [q] at hS
    refine .vs _ _ _ _ _ _ (λ i j=>c (l+i) j) (λ h6=>?_) ?_ (λ row a5=>hw row (Uw (QM a5))) (λ am=>?_) (λ i j hi hj=>h1 _ _ (by rw[q] at hi;omega) hj) λ i j hi hj=>?_
    .rw [q]
     cases an:mx.isSome with
     | true=>simp
     | false =>
       simp only[an,Bool.false_or,QH,UK] at h6;have:=hf h6.1;have:=hd h6.2;simp;omega
    .rw [q]
     split<;>omega
    .have av:0<r - l:=by
      rw[<- q];exact Uv.2 am
     obtain⟨b,off,cells,ty,fz,rfl,h8,hT,hc⟩:=hb (by rintro rfl;simp at h5;omega)
     refine⟨b,off+l*s',cells,ty,fz,?_,h8,?_,λ i j hi hj=>?_⟩
     .rw [if_neg (by split<;>omega)]
      simp[Addr.add_none]
     .rw [q]
      have:(l+(r - l))*s'<=rows.length*s':=QE _ zy
      rw[QP] at this;omega
     .rw [q] at hi
      have:=hc (l+i) j zy hj
      rw[QP] at this;rw[show off+l*s'+i*s'+j=off+(l*s'+i*s')+j by omega]
      exact this
    .rw [q] at hi
     have:=hh (l+i) j zy hj
     have e:((rows.drop l).take (r - l)).getD i []=rows.getD (l+i) []:=by
      simp only[List.getD,Uu,Ud];rw[if_pos hi]
     rw[e];exact this
 .rename_i i off len
  obtain⟨h5,a6,⟨en,ho,hs⟩,hk⟩:=hk;simp only[lenOf,Qw] at hn;subst hn
  cases hr with
  | rs _ _ _ _ cap ad g hg hz hl hq hb =>
    obtain⟨g',ht,ent⟩:=m.hs.ent i en ho;obtain rfl:=Qh (hg.symm.trans ht);have run':=run ad cap hl h5 (λ h=>by rw[a6] at h;cases h) rfl
    refine⟨_,_,_,hk,?_⟩;rw[run'];simp only[a6,Uk,UA];refine⟨T,M,m.wider λ _ h=>.inl h,Ax.refl _ _,λ _ _ h=>h,.rs _ _ _ _ _ _ g hg hz zy (λ hx=>?_) λ b a0=>?_⟩
    .obtain ⟨h1,h2⟩:=hq hx
     omega
    .obtain ⟨ha,cells,ty,fz,h8,a7⟩:=hb b a0
     refine⟨?_,cells,ty,fz,h8,?_⟩
     .by_cases a1:cap=l
      .exact .inl zy
      .rw [if_neg a1]
       rcases ha with ha | ha
       .omega
       .subst ha
        right
        simp only[Ug,Addr.add_none];rw[<- hs,<- ent.s,QP,Uy]
     .have:(l+(cap - l))*g.s=cap*g.s:=by rw[show l+(cap - l)=cap by omega]
      rw[QP] at this;rw[QP];omega
 .rename_i i off len c
  obtain⟨aq,au,a8,⟨en,ho,hs⟩,hk⟩:=hk;simp only[lenOf,Qw] at hn;subst hn
  cases hr with
  | rk _ _ _ _ _ ad g hg hz hl hq hb =>
    obtain⟨g',ht,ent⟩:=m.hs.ent i en ho;obtain rfl:=Qh (hg.symm.trans ht);have run':=run2 ad c mm rfl aq au (λ _=>rfl) a8;refine⟨_,_,_,hk,?_⟩;rw[run'];refine⟨T,M,m.wider λ _ h=>.inl h,Ax.refl _ _,λ _ _ h=>h,.rk _ _ _ _ _ _ g hg hz zy (λ hx=>?_) λ b a0=>?_⟩
    .obtain ⟨h1,h2⟩:=hq hx
     omega
    .obtain ⟨ha,cells,ty,fz,h8,a7⟩:=hb b a0
     refine⟨?_,cells,ty,fz,h8,?_⟩
     .by_cases a1:mm=l
      .exact .inl zy
      .rw [if_neg a1]
       rcases ha with ha | ha
       .omega
       .subst ha
        right
        simp only[Ug,Addr.add_none];rw[<- hs,<- ent.s,QP,Uy]
     .have:(l+(mm - l))*g.s<=c*g.s:=QE _ zy
      rw[QP] at this;rw[QP];omega
theorem j0 (o:Oper) (c:Call) (h:o.op = .call c) (hb:c.callee = .builtin .cap):BG P np T0 M0 w0 aA st T M a w idb o:=by
 intro K hk;simp only[BD,h,hb] at hk;split at hk
 case h_2=>exact False.elim hk
 rename_i t x ht hx;have q:c.argTypes = #[t]:=by rw[<- QW (xs:=c.argTypes),ht]
 have u:c.args = #[x]:=by rw[<- QW (xs:=c.args),hx]
 have hr:=Bn tm x;split at hk
 case h_2=>exact False.elim hk
 rename_i e hu;simp only[List.map] at hk;generalize hv:a.eval x=v at *;generalize (AU x).ev st.get=X at *
 by_cases hX:X = .nilS
 .subst hX
  simp only[AV.nilS,aK] at hk;obtain rfl:=Cu hr rfl;refine⟨_,_,_,hk,Ca m (.sc _ _ rfl) ?_⟩;simp[execOp,h,resolve,hb,invoke,builtin,Builtin.cap_,q,u,hv,CV hu,goInt]
 cases X<;>(try (simp only[aK] at hk;done))
 case sc v0 =>
  exfalso
  cases v0<;>(try (simp only[aK] at hk;done))
  rename_i ad l cc
  cases ad<;>cases l<;>cases cc<;>(try (simp only[aK] at hk;done))
  exact hX rfl
 simp only[aK] at hk
 cases hr;refine⟨_,_,_,hk,Ca m (.sc _ _ rfl) ?_⟩;simp[execOp,h,resolve,hb,invoke,builtin,Builtin.cap_,q,u,hv,CV hu,goInt]
end
def FN (T:Nat->Nat) (w:World) (M:GM) (cs:List AV) (us:Array Value):Prop :=
 us.size=cs.length /\ ∀ i,i<cs.length->(us.getD i undef).oneCell'=true/\Aj T w M (cs.getD i .dead) (us.getD i undef)
theorem My (off:Nat):∀ (l:List Value) (k:Nat) (cells:Array Value),
  ((l.zipIdx k).foldl (λ cs p=>cs.setIfInBounds (off+p.2) p.1) cells).size=cells.size /\
  ∀ i,i<cells.size->((l.zipIdx k).foldl (λ cs p=>cs.setIfInBounds (off+p.2) p.1) cells)[i]? = if off+k<=i/\i<off+k+l.length then l[i - (off+k)]? else cells[i]?
 | [],k,cells=>⟨rfl,λ i hi=>zw⟩
 | v::l,k,cells=>by
   have ih:=My off l (k+1) (cells.setIfInBounds (off+k) v);simp only[List.zipIdx_cons,List.foldl_cons];refine⟨by rw[ih.1];simp,λ i hi=>?_⟩
   rw[ih.2 i (by simpa using hi)]
   by_cases h:i=off+k
   .subst h
    rw[if_neg zy,if_pos zz]
    simp[hi]
   .by_cases h2:off+(k+1)<=i/\i<off+(k+1)+l.length
    .rw [if_pos h2,if_pos zw]
     rw[show i - (off+k)=(i - (off+(k+1)))+1 by omega]
     simp
    .rw [if_neg h2,if_neg zw,Array.getElem?_setIfInBounds_ne zy]
theorem FO {l:Array Value} {i:Nat} {x:Value} (h:l[i]? = some x):l.getD i undef=x:=by
 simp[QD,h]
theorem oD {T w M} {cells:List AV} {us:Array Value} (hC:FN T w M cells us) {cs:List AV} {v:Value} (hv:v.cells.size=cs.length) (h0:∀ j,j<cs.length->(v.cells.getD j undef).oneCell'=true/\Aj T w M (cs.getD j .dead) (v.cells.getD j undef)) {off:Nat} (ho:off+cs.length<=cells.length) :
  FN T w M (cells.take off++cs++cells.drop (off+cs.length)) (v.cells.zipIdx.foldl (λ cs (c,j)=>cs.setIfInBounds (off+j) c) us):=by
 have e:v.cells.zipIdx.foldl (λ cs (c,j)=>cs.setIfInBounds (off+j) c) us=(v.cells.toList.zipIdx 0).foldl (λ cs p=>cs.setIfInBounds (off+p.2) p.1) us:=by
  rw[<- Array.foldl_toList,Array.toList_zipIdx]
 rw[e];obtain⟨h1,h2⟩:=My off v.cells.toList 0 us;have q:(cells.take off++cs++cells.drop (off+cs.length)).length=cells.length:=zw
 refine⟨by rw[h1,q];exact hC.1,λ i hi=>?_⟩
 rw[q] at hi;have h3:=h2 i (by rw[hC.1];exact hi)
 simp only[Uj,Ul,hv] at h3
 by_cases u:off<=i/\i<off+cs.length
 .rw [if_pos u] at h3
  have hj:i - off<v.cells.size:=zy
  have e1:v.cells.toList[i - off]? = some (v.cells.getD (i - off) undef):=by simp[Array.getD,hj]
  rw[e1] at h3;rw[FO h3]
  have e2:(cells.take off++cs++cells.drop (off+cs.length)).getD i .dead=cs.getD (i - off) .dead:=by
   simp only[List.getD];rw[Qq,Qr zw,QG zw]
   simp
   congr 2
   omega
  rw[e2];exact h0 (i - off) zy
 .rw [if_neg u] at h3
  have hi':i<us.size:=by rw[hC.1];exact hi
  have e1:us[i]? = some (us.getD i undef):=by simp[Array.getD,hi']
  rw[e1] at h3;rw[FO h3]
  have e2:(cells.take off++cs++cells.drop (off+cs.length)).getD i .dead=cells.getD i .dead:=by
   simp only[List.getD]
   by_cases h4:i<off
   .rw [Qq,QG zw]
    simp[h4]
   .rw [Qr zw]
    simp only[Ud,Qe,QC]
    congr 2
    omega
  rw[e2];exact hC.2 i hi
theorem Og {T w M} (q:Nat->Option (Nat × Nat)):∀ (ps:List (Nat × Value)) (pl:List (Nat × Nat)) (xs:List AV) (cells:List AV) (us:Array Value) (out:List AV),
  FN T w M cells us->ps.mapM (λ p=>q p.1)=some pl->xs.length=ps.length->(∀ i,i<xs.length->Aj T w M (xs.getD i .dead) ((ps.map (·.2)).getD i undef))->GW cells pl xs=some out ->
  ∃ us',Instr.fill q us ps=some us'/\FN T w M out us'
 | [],pl,xs,cells,us,out,hC,hp,hl,hr,hf=>by
   simp at hp;subst hp;have:xs=[]:=Qx hl;subst this;simp only[GW,Qw] at hf;subst hf;exact⟨us,rfl,hC⟩
 | (i,v)::ps,pl,xs,cells,us,out,hC,hp,hl,hr,hf=>by
   cases xs with
   | nil=>simp at hl
   | cons x xs =>
   simp only[List.mapM_cons,Option.bind_eq_bind,Option.pure_def,Un] at hp;obtain⟨⟨off,size⟩,h1,pl',h2,h3⟩:=hp;simp only[Qw] at h3;subst h3;simp only[GW] at hf;split at hf
   case h_2=>cases hf
   rename_i cs u;split at hf
   case isFalse=>cases hf
   rename_i hc;have h0:=hr 0 zz
   simp only[UR,QA] at h0;obtain⟨e1,e2⟩:=Mn h0 u;have st:=oD hC e1 e2 (off:=off) zy
   rw[hc.1] at st;obtain⟨us',h4,h5⟩:=Og q ps pl' xs _ _ out st h2 (by simpa using hl) (λ k hk=>by have:=hr (k+1) (by simpa using hk);simpa using this) hf
   refine⟨us',?_,h5⟩;simp only[Instr.fill,h1];rw[if_neg]
   .exact h4
   .simp only[ne_eq,UX,Qa,not_or,Decidable.not_not]
    have:=hC.1;omega
section
variable {P:Program} {np:Nat} {T0:Nat->Nat} {M0:GM} {w0:World} {aA:Nat->Prop} {st:St} {T:Nat->Nat} {M:GM} {a:Act} {w:World} {idb:Nat}
theorem Hi {t:TypeId} {z:List Value} (h:G4 P t=some z):∃ i zv,P.info? t=some i/\i.zero=some zv/\zv.cells.toList=z/\z.length=i.size /\ ∀ v∈z,v.oneCell'=true:=by
 unfold G4 at h;split at h
 case h_2=>cases h
 rename_i i hi;split at h
 case h_2=>cases h
 rename_i zv hz;split at h
 case isFalse=>cases h
 rename_i hc;simp only[Qw] at h;subst h;simp only[QH,beq_iff_eq] at hc;refine⟨i,zv,hi,hz,rfl,by simpa using hc.2,λ v hv=>?_⟩
 exact Ut.1 hc.1 v hv
theorem No {T w M} {z:List Value} (h:∀ v∈z,v.oneCell'=true):FN T w M (z.map .sc) z.toArray:=by
 refine⟨zz,λ i hi=>?_⟩
 simp only[Qs] at hi;have e:z.toArray.getD i undef=z[i]:=by simp[Array.getD,hi]
 rw[e,NQ _ _ _ hi];exact⟨h _ (Qi hi),.sc _ _ (h _ (Qi hi))⟩
variable (tm:∀ i,Aj T w M (st.get i) (a.tmps.getD i undef)) (m:Bp np T0 M0 w0 aA st.hp T M w) (aB:∀ k,k<8->¬ aA (idb+k)) (aC:np<=idb)
include tm m
omit tm m in
theorem V1 (s:Nat):∀ ps:List (Nat × Value),ps.mapM (λ p=>(λ i=>some (i*s,s):Nat->Option (Nat × Nat)) p.1)=some (ps.map λ p=>(p.1*s,s))
 | []=>rfl
 | p::ps=>by
   rw[List.mapM_cons,V1 s ps];rfl
theorem nH (o:Oper) (t:TypeId) (ps:Array (Nat × Operand)) (h:o.op = .build t ps):BG P np T0 M0 w0 aA st T M a w idb o:=by
 intro K hk;simp only[BD,h] at hk;split at hk
 case h_3=>exact False.elim hk
 case h_2 =>
  rename_i z n e hz hu;split at hk
  case h_2=>exact False.elim hk
  rename_i ie h4;simp only[Us,aK] at hk;obtain⟨cs,h0,hk⟩:=hk;obtain⟨i,zv,hi,h1,h2,-,q⟩:=Hi hz
  have h3:FN T w M (z.map .sc) zv.cells:=by
   have:=No (T:=T) (w:=w) (M:=M) q;subst h2
   rwa [QW] at this
  have u:(ps.toList.map λ (x:Nat × Operand)=>(x.1,a.eval x.2)).mapM (λ p=>(λ i=>some (i*ie.size,ie.size):Nat->Option (Nat × Nat)) p.1)=some (ps.toList.map λ p=>(p.1*ie.size,ie.size)):=by
   rw[V1,Us];rfl
  obtain⟨us,hf,hC⟩:=Og (T:=T) (w:=w) (M:=M) (λ i=>some (i*ie.size,ie.size)) (ps.toList.map λ (x:Nat × Operand)=>(x.1,a.eval x.2)) _ _ _ _ cs h3 u zz (λ k hk=>by
   simp only[Qs,Ul] at hk;have e1:(ps.toList.map ((λ x=>x.ev st.get)∘λ x=>AU x.2)).getD k .dead=(AU ps[k].2).ev st.get:=by simp[List.getD,hk]
   have e2:((ps.toList.map λ (x:Nat × Operand)=>(x.1,a.eval x.2)).map (·.2)).getD k undef=a.eval ps[k].2:=by simp[List.getD,hk]
   rw[e1,e2]
   exact Bn tm _) h0
  refine⟨_,_,_,hk,Ca m (v':=.agg us) (.agg _ _ _ hC.1 (λ i hi=>(hC.2 i hi).1) λ i hi=>(hC.2 i hi).2) ?_⟩
  have hb:=run_build (P:=P) w t (ps.map λ (i,x)=>(i,a.eval x)) us (by
   unfold Program.built;simp only[hi,hu,h1,h4]
   simpa using hf)
  simp only[execOp,h,Sem.run_bind,hb,Result.andThen_ok,Sem.run_pure]
 rename_i z fs hz hu;split at hk
 case h_2=>exact False.elim hk
 rename_i places hpl;split at hk
 case h_2=>exact False.elim hk
 rename_i pl h5;simp only[Us,aK] at hk;obtain⟨cs,h0,hk⟩:=hk;obtain⟨i,zv,hi,h1,h2,-,q⟩:=Hi hz
 have h3:FN T w M (z.map .sc) zv.cells:=by
  have:=No (T:=T) (w:=w) (M:=M) q;subst h2
  rwa [QW] at this
 have u:(ps.toList.map λ (x:Nat × Operand)=>(x.1,a.eval x.2)).mapM (λ p=>places[p.1]?)=some pl:=by
  rw[List.mapM_map];exact h5
 obtain⟨us,hf,hC⟩:=Og (T:=T) (w:=w) (M:=M) (places[·]?) (ps.toList.map λ (x:Nat × Operand)=>(x.1,a.eval x.2)) pl _ _ _ cs h3 u zz (λ k hk=>by
  simp only[Qs,Ul] at hk;have e1:(ps.toList.map ((λ x=>x.ev st.get)∘λ x=>AU x.2)).getD k .dead=(AU ps[k].2).ev st.get:=by simp[List.getD,hk]
  have e2:((ps.toList.map λ (x:Nat × Operand)=>(x.1,a.eval x.2)).map (·.2)).getD k undef=a.eval ps[k].2:=by simp[List.getD,hk]
  rw[e1,e2]
  exact Bn tm _) h0
 refine⟨_,_,_,hk,Ca m (v':=.agg us) (.agg _ _ _ hC.1 (λ i hi=>(hC.2 i hi).1) λ i hi=>(hC.2 i hi).2) ?_⟩
 have hb:=run_build (P:=P) w t (ps.map λ (i,x)=>(i,a.eval x)) us (by
  unfold Program.built;simp only[hi,hu,h1,hpl]
  simpa using hf)
 simp only[execOp,h,Sem.run_bind,hb,Result.andThen_ok,Sem.run_pure]
include aB aC
omit tm in
theorem Ht {e:AD} {cells:Array Value} {ty:TypeId} {s:Sem Next} {v:AV} {v':Value} {w1:World} (hs:s.run P w = .ok (.value v') w1) (hh:w1.heap=w.heap.push (.cells cells ty)) (os:w1.os=w.os) (tape:w1.tape=w.tape)
  (output:w1.output=w.output) (h5:e.s≠0) (ro:e.ro<=e.rows.length) (wide:∀ row∈e.rows,row.length=e.s) (q:e.rows.length*e.s<=cells.size)
  (hc:∀ i j,i<e.rows.length->j<e.s -> ∃ v,cells[i*e.s+j]? = some v/\v.oneCell'=true/\Aj T w M ((e.rows.getD i []).getD j .dead) v)
  (up:List (Nat × Option AD)) (u:AW up idb=some (some e)) (h0:∀ i x,i≠idb->AW up i=some x->x=none)
  (hr:∀ M':GM,M' idb=some ⟨some w.heap.size,0,e.s⟩->Aj T w1 M' v v') :
  Ek P np T0 M0 w0 aA idb (st.upd up).hp T M w v (s.run P w):=by
 rw[hs]
 obtain⟨M',h1,h2,h3,h4⟩:=m.new (aB 0 zy) aC hh os tape output e h5 ro wide q hc (hp':=(st.upd up).hp) (by rw[St.hp_upd,Uj,u];rfl) (λ i e' hi he=>by
  rw[St.hp_upd] at he;rw[Uj] at hi
  cases hl:AW up i with
  | none=>rw[hl] at he;exact he
  | some x=>rw[hl,h0 i x hi hl] at he;cases he)
 exact⟨T,M',h3.wider (λ i hi=>hi.elim .inl λ hi=>.inr zy),h4,h2,hr M' h1⟩
omit tm in
theorem tP (o:Oper) (t:TypeId) (h:o.op = .alloc t):BG P np T0 M0 w0 aA st T M a w idb o:=by
 intro K hk;simp only[BD,h] at hk;split at hk
 case h_2=>exact False.elim hk
 rename_i y0 z0 hz;obtain⟨z,h0⟩:=AJ (y0::z0);rw[<- h0] at hz hk;have h1:z.length≠0:=by rw[h0];simp
 simp only[List.map,aK] at hk;obtain⟨i,zv,hi,h3,u,-,h2⟩:=Hi hz;have hC:=No (T:=T) (w:=w) (M:=M) h2;refine⟨_,_,_,hk,Ht m aB aC (e:={ s:=z.length,rows:=[z.map .sc] }) (w1:=w.alloc (.cells zv.cells t)) (cells:=zv.cells) (ty:=t) (v':=.pointer (some ⟨w.heap.size,0,none⟩)) ?_ rfl rfl rfl rfl h1 (Qk _) ?_ ?_ ?_ _ (by simp[AW]) (λ i x hi hx=>by simp[AW] at hx;omega) ?_⟩
 .simp [execOp,h,Instr.alloc,zeroValue,typeInfo,hi,h3,newVar,newRow]
 .intro row q;simp at q;subst q;simp
 .simp [<- u]
 .intro i j hi hj
  simp at hi hj;subst hi;have:=hC.2 j (by simpa using hj)
  refine⟨z.toArray.getD j undef,?_,this.1,by simpa using this.2⟩
  rw[<- u,QW];rw[<- u] at hj;simp at hj;simp[Array.getD,hj]
 .intro M' h4
  have:=λ w1=>Aj.pt (T:=T) (w:=w1) M' idb 0 0 _ _ h4 h1 rfl
  simpa using this _
omit tm m aB aC in
theorem MK {z:List Value} (u:∀ v∈z,v.oneCell'=true) {s:Nat} (hs:z.length=s) (n:Nat) (cells:Array Value) (k:Nat) (q:cells=(Array.range k).map λ i=>z.toArray[i % z.toArray.size]!) (hk:n*s<=k) :
  ∀ i j,i<(List.replicate n (z.map AV.sc)).length->j<s -> ∃ v,cells[i*s+j]? = some v/\v.oneCell'=true/\Aj T w M (((List.replicate n (z.map AV.sc)).getD i []).getD j .dead) v:=by
 intro i j hi hj;simp at hi;have h0:=FA hi hj;refine⟨z[j]' zy,?_,u _ (Qi _),?_⟩
 .subst q
  rw[Array.getElem?_map,Array.getElem?_range,if_pos zy]
  simp only[Ug,Ue,hs]
  congr 1
  rw[show (i*s+j) % s=j by rw[Nat.add_comm,Nat.add_mul_mod_self_right];exact Nat.mod_eq_of_lt hj]
  simp[show j<z.length by omega]
 .have:(List.replicate n (z.map AV.sc)).getD i []=z.map AV.sc:=by simp[List.getD,hi]
  rw[this,NQ _ _ _ zy]
  exact .sc _ _ (u _ (Qi _))
theorem kG (o:Oper) (t:TypeId) (x y:Operand) (h:o.op = .makeSlice t x y):BG P np T0 M0 w0 aA st T M a w idb o:=by
 intro K hk;simp only[BD,h] at hk;split at hk
 case h_2=>exact False.elim hk
 rename_i e hu;split at hk
 case h_2=>exact False.elim hk
 rename_i z s b hz hs hb;split at hk
 case isFalse=>exact False.elim hk
 rename_i u;simp only[List.map] at hk;obtain⟨i,zv,hi,h5,h6,hf,h3⟩:=Hi hz;have hs':i.size=s:=by simpa [CZ,hi] using hs
 have h7:i.bytes=b:=by simpa [H3,hi] using hb
 have hr:=Bn tm x;have h8:=Bn tm y;generalize hv:a.eval x=v at *;generalize (AU x).ev st.get=X at *;generalize h9:a.eval y=v' at *;generalize (AU y).ev st.get=Y at *
 cases X<;>cases Y<;>(try (simp only[aK] at hk;done))
 rename_i p q
 cases p<;>(try (simp only[aK] at hk;done))
 cases q<;>(try (simp only[aK] at hk;done))
 rename_i k l k' c;simp only[aK] at hk;obtain⟨h0,ha,hg,hc,h1,hk⟩:=hk;obtain rfl:=Cu hr rfl;obtain rfl:=Cu h8 rfl;have run:=run_make (P:=P) w t e i zv hu hi h5 k k' l c h0 ha (by rw[h7,Int.mul_comm];omega) zy
 have h2:l.toNat*s<=c.toNat*i.size:=by rw[hs'];exact QE _ zy
 refine⟨_,_,_,hk,Ht m aB aC (e:={ s:=s,rows:=List.replicate l.toNat (z.map .sc) }) (w1:=w.alloc (.cells (madeCells zv.cells (c.toNat*i.size)) e)) (cells:=madeCells zv.cells (c.toNat*i.size)) (ty:=e)
  (v':=.slice (some ⟨w.heap.size,0,none⟩) l.toNat c.toNat) ?_ rfl rfl rfl rfl (UJ.1 u) (Qk _) ?_ ?_ ?_ _ (by simp[AW]) (λ i x hi hx=>by simp[AW] at hx;omega) ?_⟩
 .simp [execOp,h,hv,h9,run]
 .intro row h4
  have:=(List.mem_replicate.1 h4).2;subst this;simp[h1]
 .simpa [size_madeCells] using h2
 .refine MK (T:=T) (w:=w) (M:=M) h3 h1 l.toNat _ (c.toNat*i.size) ?_ h2
  rw[<- h6,QW];rfl
 .intro M' hd
  refine .rs _ _ 0 _ _ _ _ hd (UJ.1 u) zy (λ hn=>by cases hn) λ b' he=>?_
  obtain rfl:=Qh he;refine⟨.inr zz,madeCells zv.cells (c.toNat*i.size),e,(0,0),by show (w.heap.push _)[w.heap.size]? = _;simp,?_⟩
  simp[size_madeCells,hs']
theorem c6 (o:Oper) (t:TypeId) (x:Operand) (h:o.op = .box t x):BG P np T0 M0 w0 aA st T M a w idb o:=by
 intro K hk;simp only[BD,h] at hk;split at hk
 case h_2=>exact False.elim hk
 rename_i s hz;simp only[List.map,aK] at hk;obtain⟨cs,u,hl,hk⟩:=hk;obtain⟨h1,h2⟩:=Mn (Bn tm x) u;refine⟨_,_,_,hk,Ht m aB aC (e:={ s:=s+1,rows:=[cs] }) (w1:=w.alloc (.cells (a.eval x).cells t)) (cells:=(a.eval x).cells) (ty:=t) (v':=.pointer (some ⟨w.heap.size,0,none⟩)) ?_ rfl rfl rfl rfl (U0 s) (Qk _) ?_ ?_ ?_ _ (by simp[AW]) (λ i x hi hx=>by simp[AW] at hx;omega) ?_⟩
 .simp [execOp,h,Instr.box,newVar,newRow]
 .intro row q;simp at q;subst q;exact hl
 .simp;omega
 .intro i j hi hj
  simp at hi hj;subst hi;have:=h2 j zy
  refine⟨(a.eval x).cells.getD j undef,?_,this.1,by simpa using this.2⟩
  have h0:j<(a.eval x).cells.size:=zy
  simp[Array.getD,h0]
 .intro M' h3
  have:=λ w1=>Aj.pt (T:=T) (w:=w1) M' idb 0 0 _ _ h3 (U0 s) rfl
  simpa using this _
end
theorem Tu {S k j s i' j':Nat} (q:j'<S) (hs:j+s<=S):(k*S+j<=i'*S+j'/\i'*S+j'<k*S+j+s)↔(i'=k/\j<=j'/\j'<j+s):=by
 constructor
 .rintro ⟨h1,h2⟩
  have:i'=k:=by
   rcases Nat.lt_trichotomy i' k with h | h | h
   .have:(i'+1)*S<=k*S:=QE _ h
    rw[QP] at this;omega
   .exact h
   .have:(k+1)*S<=i'*S:=QE _ h
    rw[QP] at this;omega
  subst this;exact⟨rfl,zy,zy⟩
 .rintro ⟨rfl,h1,h2⟩
  omega
theorem dP (row cs:List AV) (j:Nat) (h:j+cs.length<=row.length):(Ae row j cs).length=row.length:=by
 unfold Ae;simp;omega
theorem Sr (row cs:List AV) (j i:Nat) (h:j+cs.length<=row.length) :
  (Ae row j cs).getD i .dead=if j<=i/\i<j+cs.length then cs.getD (i - j) .dead else row.getD i .dead:=by
 unfold Ae;simp only[List.getD]
 by_cases h1:i<j
 .rw [Qq,QG zw,if_neg zy]
  simp[h1]
 .by_cases h2:i<j+cs.length
  .rw [Qq,Qr zw,QG zw,if_pos zy]
   simp
   congr 2
   omega
  .rw [Qr zw,if_neg zy]
   simp only[Ud,Qe,QC]
   congr 2
   omega
theorem Md (q:Array Value) (o:Nat) (vs:List Value) (h:o+vs.length<=q.size) :
  (q.toList.take o++vs++q.toList.drop (o+vs.length)).toArray.size=q.size /\
  ∀ i:Nat,(q.toList.take o++vs++q.toList.drop (o+vs.length)).toArray[i]? = if o<=i/\i<o+vs.length then vs[i - o]? else q[i]?:=by
 refine⟨zw,λ i=>?_⟩
 simp only[List.getElem?_toArray]
 by_cases h1:i<o
 .rw [Qq,QG zw,if_neg zy]
  simp[h1]
 .by_cases h2:i<o+vs.length
  .rw [Qq,Qr zw,QG zw,if_pos zy]
   simp
   congr 1
   omega
  .rw [Qr zw,if_neg zy]
   simp only[Ud,Qe,QC,Ul,Array.getElem?_toList]
   congr 1
   omega
section
variable {P:Program} {np:Nat} {T0:Nat->Nat} {M0:GM} {w0:World} {aA:Nat->Prop} {st:St} {T:Nat->Nat} {M:GM} {a:Act} {w:World} {idb:Nat}
variable (tm:∀ i,Aj T w M (st.get i) (a.tmps.getD i undef)) (m:Bp np T0 M0 w0 aA st.hp T M w) (aB:∀ k,k<8->¬ aA (idb+k)) (aC:np<=idb)
include tm m
theorem o0 (o:Oper) (t:TypeId) (x y:Operand) (h:o.op = .store t x y):BG P np T0 M0 w0 aA st T M a w idb o:=by
 intro K hk;simp only[BD,h] at hk;split at hk
 case h_2=>exact False.elim hk
 rename_i s h7;simp only[List.map] at hk
 have h8:(sizeOf t).run P w = .ok s w:=by
  simp only[CZ,Qy] at h7;obtain⟨i,hi,hs⟩:=h7;simp[sizeOf,typeInfo,hi,hs]
 have hr:=Bn tm x;have hm:=Bn tm y;generalize hv:a.eval x=v at *;generalize (AU x).ev st.get=X at *;generalize ht:a.eval y=v' at *;generalize (AU y).ev st.get=Y at *
 cases X<;>(try (simp only[aK] at hk;done))
 rename_i i k j;simp only[aK] at hk;obtain⟨e,row,cs,he,h0,hw,hx,hl,a3,hk⟩:=hk;obtain⟨c1,c2⟩:=Mn hm hx
 cases hr with
 | pt _ _ _ _ g b hg hz hb =>
   obtain⟨g',hy,ent⟩:=m.hs.ent i e he;obtain rfl:=Qh (hg.symm.trans hy);obtain⟨cells,ty,h1,hT,h3,a0⟩:=ent.blk (ent.s ▸ hz) b hb;have h4:k<e.rows.length:=(Qz.1 h0).1;have h9:=ent.wide (ent.s ▸ hz) row (Um h0);have a1:e.rows.getD k []=row:=by simp[List.getD,h0]
   have hS:g.s=e.s:=ent.s
   have ha:g.base+k*g.s+j+v'.cells.toList.length<=cells.size:=by
    have:(k+1)*e.s<=e.rows.length*e.s:=QE _ h4;rw[QP] at this;rw[hS];simp;omega
   have hst:=run_storeCells_at P b (g.base+k*g.s+j) ty v'.cells.toList 0 cells w h1 (by simpa using ha) (λ u hu=>by
    obtain⟨n,hn,rfl⟩:=UB hu;simp at hn;have:=(c2 n zy).1
    simpa [Array.getD,hn] using this)
   simp only[Uj] at hst;obtain⟨s1,s2⟩:=Md cells (g.base+k*g.s+j) v'.cells.toList ha;have a2:v'.cells.toList.length=s:=zw
   have hc:(execOp a.eval o).run P w = .ok .skip (w.setRow b (cells.toList.take (g.base+k*g.s+j)++v'.cells.toList++cells.toList.drop (g.base+k*g.s+j+v'.cells.toList.length)).toArray):=by
    have h5:¬ (v'.cells.size≠s):=zy
    simp[execOp,h,hv,ht,Instr.storeAt,Instr.sureAddr,storeVar,h8,hst,show v'.cells.size=s by omega]
   generalize hd:(cells.toList.take (g.base+k*g.s+j)++v'.cells.toList++cells.toList.drop (g.base+k*g.s+j+v'.cells.toList.length)).toArray=cells' at *;rw[a2] at s2
   obtain⟨M',m1,m2,m3,m4⟩:=m.write (id':=i) (g':=g) (e:={ e with rows:=e.rows.set k (Ae row j cs) }) (cells':=cells') he hg hb h1 s1 (λ q hq=>by
     rw[s2,if_neg];have:e.ro*e.s<=k*e.s:=QE _ hw;rw[hS];omega) (.inl ⟨rfl,rfl⟩) hb hS (ent.s ▸ hz) (by simpa using ent.ro) (λ r hr=>by
     simp only at hr;rcases List.mem_or_eq_of_mem_set hr with h | h
     .exact ent.wide (ent.s ▸ hz) r h
     .subst h;rw[dP _ _ _ zy];exact h9) hT (by simpa using h3) (λ i' j' hi' hf=>by
     simp only[UG] at hi';simp only;rw[s2];obtain⟨u,hu,ho,hh⟩:=a0 i' j' hi' hf;have pl:=Tu (S:=e.s) (k:=k) (j:=j) (s:=s) (i':=i') hf zy
     by_cases h2:i'=k/\j<=j'/\j'<j+s
     .obtain ⟨rfl,q1,q2⟩:=h2
      rw[hS,if_pos zy]
      have q3:j' - j<cs.length:=zy
      have c3:=c2 (j' - j) q3;refine⟨v'.cells.getD (j' - j) undef,?_,c3.1,?_⟩
      .rw [show g.base+i'*e.s+j' - (g.base+i'*e.s+j)=j' - j by omega]
       have:j' - j<v'.cells.size:=zy
       simp[Array.getD,this]
      .have:(e.rows.set i' (Ae row j cs)).getD i' []=Ae row j cs:=by simp[List.getD,h4]
       rw[this,Sr _ _ _ _ zy,if_pos zy]
       exact c3.2
     .rw [hS,if_neg (by
       intro q
       exact h2 (pl.1 zy))]
      refine⟨u,hu,ho,?_⟩
      by_cases hj:i'=k
      .subst hj
       have:(e.rows.set i' (Ae row j cs)).getD i' []=Ae row j cs:=by simp[List.getD,h4]
       rw[this,Sr _ _ _ _ zy,if_neg zy]
       rwa [a1] at hh
      .have:(e.rows.set k (Ae row j cs)).getD i' []=e.rows.getD i' []:=by simp[List.getD,Ne.symm hj]
       rw[this]
       exact hh)
    (hp':=(st.upd [(i,some { e with rows:=e.rows.set k (Ae row j cs) })]).hp) (by rw[St.hp_upd];simp[AW]) (λ i' e' h5 h6=>by
     rw[St.hp_upd] at h6;simp only[AW,if_neg (Ne.symm h5)] at h6
     exact⟨h5,h6⟩)
   refine⟨_,_,_,hk,?_⟩;rw[hc];refine⟨T,M',m3.wider λ i' hi'=>?_,m4,m2,rfl⟩;rcases hi' with hi' | hi'
   .exact .inl hi'
   .subst hi';exact .inl (m.dom _ _ hg)
end
structure Gh (T:Nat->Nat) (w:World) (M:GM) (s:Nat) (rows:List (List AV)) (us:Array Value):Prop where
 size:us.size=rows.length*s
 wide:∀ row∈rows,row.length=s
 cell:∀ i j,i<rows.length->j<s->(us.getD (i*s+j) undef).oneCell'=true/\Aj T w M ((rows.getD i []).getD j .dead) (us.getD (i*s+j) undef)
theorem W4 {us vs:Array Value} {i j:Nat} (h:us[i]? = vs[j]?):us.getD i undef=vs.getD j undef:=by
 simp only[QD,h]
theorem cV {T w M s} {rows:List (List AV)} {us:Array Value} (hC:Gh T w M s rows us) {cs:List AV} {v:Value} (hv:v.cells.size=cs.length) (h0:∀ j,j<cs.length->(v.cells.getD j undef).oneCell'=true/\Aj T w M (cs.getD j .dead) (v.cells.getD j undef)) {k:Nat} (hl:cs.length=s) (hk:k<rows.length) :
  Gh T w M s (rows.set k cs) (v.cells.zipIdx.foldl (λ cs (c,j)=>cs.setIfInBounds (k*s+j) c) us):=by
 have e:v.cells.zipIdx.foldl (λ cs (c,j)=>cs.setIfInBounds (k*s+j) c) us=(v.cells.toList.zipIdx 0).foldl (λ cs p=>cs.setIfInBounds (k*s+p.2) p.1) us:=by
  rw[<- Array.foldl_toList,Array.toList_zipIdx]
 rw[e];obtain⟨h1,h2⟩:=My (k*s) v.cells.toList 0 us;refine⟨by rw[h1];simpa using hC.size,λ r hr=>?_,λ i j hi hj=>?_⟩
 .rcases List.mem_or_eq_of_mem_set hr with h | h
  .exact hC.wide r h
  .subst h;exact hl
 .simp only[UG] at hi
  have h4:=FA hi hj;have h3:=h2 (i*s+j) (by rw[hC.size];exact h4)
  simp only[Uj,Ul,hv,hl] at h3;have pl:=Tu (S:=s) (k:=k) (j:=0) (s:=s) (i':=i) hj zy
  simp only[Uj,Qk,Q9,true_and] at pl
  by_cases u:i=k
  .subst u
   rw[if_pos zy,show i*s+j - i*s=j by omega,Array.getElem?_toList] at h3
   rw[W4 h3];have:(rows.set i cs).getD i []=cs:=by simp[List.getD,hi]
   rw[this];exact h0 j zy
  .rw [if_neg (λ q=>u (pl.1 q).1)] at h3
   rw[W4 h3];have:(rows.set k cs).getD i []=rows.getD i []:=by simp[List.getD,Ne.symm u]
   rw[this];exact hC.cell i j hi hj
theorem S5 {T w M s}:∀ (ps:List (Nat × Value)) (pl:List Nat) (xs:List AV) (rows:List (List AV)) (us:Array Value) (out:List (List AV)),
  Gh T w M s rows us->ps.map (·.1)=pl->xs.length=ps.length->(∀ i,i<xs.length->Aj T w M (xs.getD i .dead) ((ps.map (·.2)).getD i undef))->GC s rows pl xs=some out ->
  ∃ us',Instr.fill (λ i=>some (i*s,s)) us ps=some us'/\Gh T w M s out us'
 | [],pl,xs,rows,us,out,hC,hp,hl,hr,hf=>by
   simp at hp;subst hp;have:xs=[]:=Qx hl;subst this;simp only[GC,Qw] at hf;subst hf;exact⟨us,rfl,hC⟩
 | (i,v)::ps,pl,xs,rows,us,out,hC,hp,hl,hr,hf=>by
   cases xs with
   | nil=>simp at hl
   | cons x xs =>
   simp only[QA] at hp;subst hp;simp only[GC] at hf;split at hf
   case h_2=>cases hf
   rename_i cs q;split at hf
   case isFalse=>cases hf
   rename_i hc;have h0:=hr 0 zz
   simp only[UR,QA] at h0;obtain⟨e1,e2⟩:=Mn h0 q;have st:=cV hC e1 e2 hc.1 hc.2;obtain⟨us',h4,h5⟩:=S5 ps _ xs _ _ out st rfl (by simpa using hl) (λ k hk=>by have:=hr (k+1) (by simpa using hk);simpa using this) hf
   refine⟨us',?_,h5⟩;simp only[Instr.fill];rw[if_neg]
   .exact h4
   .simp only[ne_eq,UX,Qa,not_or,Decidable.not_not]
    have h6:=hC.size;have:(i+1)*s<=rows.length*s:=QE _ hc.2;rw[QP] at this;omega
section
variable {P:Program} {np:Nat} {T0:Nat->Nat} {M0:GM} {w0:World} {aA:Nat->Prop} {st:St} {T:Nat->Nat} {M:GM} {a:Act} {w:World} {idb:Nat}
variable (tm:∀ i,Aj T w M (st.get i) (a.tmps.getD i undef)) (m:Bp np T0 M0 w0 aA st.hp T M w) (aB:∀ k,k<8->¬ aA (idb+k)) (aC:np<=idb)
include tm m aB aC
theorem rS (o:Oper) (t:TypeId) (len:Nat) (ps:Array (Nat × Operand)) (h:o.op = .buildSlice t len ps):BG P np T0 M0 w0 aA st T M a w idb o:=by
 intro K hk;simp only[BD,h] at hk;split at hk
 case h_2=>exact False.elim hk
 rename_i e hu;split at hk
 case h_2=>exact False.elim hk
 rename_i z s hz hs;split at hk
 case isFalse=>exact False.elim hk
 rename_i u;simp only[Us,aK] at hk;obtain⟨rows,h4,h9,hk⟩:=hk;obtain⟨i,zv,hi,he,hg,ho,ha⟩:=Hi hz;have hs':i.size=s:=by simpa [CZ,hi] using hs
 have zr:∀ (cells:Array Value),cells=(Array.range (len*s)).map (λ i=>zv.cells[i % zv.cells.size]!)->Gh T w M s (List.replicate len (z.map .sc)) cells:=by
  intro cells q;have h5:cells=(Array.range (len*s)).map λ i=>z.toArray[i % z.toArray.size]!:=by rw[q,<- hg,QW]
  refine⟨by rw[q];simp,λ row hb=>?_,λ i j hi hj=>?_⟩
  .rw [(List.mem_replicate.1 hb).2];simpa using h9
  .obtain ⟨v,h1,h2,h3⟩:=MK (T:=T) (w:=w) (M:=M) ha h9 len cells (len*s) h5 (Qf _) i j hi hj
   rw[FO h1];exact⟨h2,h3⟩
 obtain⟨us,hf,hC⟩:=S5 (T:=T) (w:=w) (M:=M) (s:=s) (ps.toList.map λ (x:Nat × Operand)=>(x.1,a.eval x.2)) (ps.toList.map (·.1)) _ _ _ rows (zr _ rfl) zz zz (λ k hk=>by
  simp only[Qs,Ul] at hk;have e1:(ps.toList.map ((λ x=>x.ev st.get)∘λ x=>AU x.2)).getD k .dead=(AU ps[k].2).ev st.get:=by simp[List.getD,hk]
  have e2:((ps.toList.map λ (x:Nat × Operand)=>(x.1,a.eval x.2)).map (·.2)).getD k undef=a.eval ps[k].2:=by simp[List.getD,hk]
  rw[e1,e2]
  exact Bn tm _) h4
 have hh:rows.length=len:=by
  have h1:=hC.size
  have:∀ (ps:List Nat) (xs:List AV) (r out:List (List AV)),GC s r ps xs=some out->out.length=r.length:=by
   intro ps
   induction ps with
   | nil=>intro xs r out hf;cases xs<;>simp[GC] at hf;rw[hf]
   | cons p ps ih =>
     intro xs r out hf
     cases xs with
     | nil=>simp[GC] at hf
     | cons x xs =>
       simp only[GC] at hf;split at hf
       case h_2=>cases hf
       split at hf
       case isFalse=>cases hf
       rw[ih _ _ _ hf];simp
  have:=this _ _ _ _ h4
  simpa using this
 have h7:(sizeOf e).run P w = .ok s w:=by simp[sizeOf,typeInfo,hi,hs']
 have hc:(execOp a.eval o).run P w = .ok (.value (.slice (some ⟨w.heap.size,0,none⟩) len len)) (w.alloc (.cells us e)):=by
  have h8:¬ (16777216<len*s):=by have:=u.1;omega
  have h6:Instr.fill (λ i=>some (i*s,s)) (Array.map (λ x=>zv.cells[x % zv.cells.size]!) (Array.range (len*s))) (ps.toList.map λ (x:Nat × Operand)=>(x.1,a.eval x.2))=some us:=hf
  by_cases h0:len*s=0
  .have:Array.range (len*s) = #[]:=by rw[h0];rfl
   rw[this] at h6;simp only[Array.map_empty] at h6;have r0:Array.range 0 = #[]:=rfl;simp[execOp,h,Instr.buildSlice,CV hu,h7,h0,newRow,h6,r0]
  .simp [execOp,h,Instr.buildSlice,CV hu,h7,h8,h0,newRow,zeroValue,typeInfo,hi,he,h6]
 refine⟨_,_,_,hk,Ht m aB aC (e:={ s:=s,rows:=rows }) (cells:=us) (ty:=e) hc rfl rfl rfl rfl (UJ.1 u.2) (Qk _) hC.wide (by rw[hC.size];exact Qf _) (λ i j hi hj=>?_) _ (by simp[AW]) (λ i x hi hx=>by simp[AW] at hx;omega) ?_⟩
 .have:=hC.cell i j hi hj
  have hd:=FA hi hj;rw[<- hC.size] at hd;refine⟨us.getD (i*s+j) undef,by simp[Array.getD,hd],this.1,this.2⟩
 .intro M' hl
  refine .rs _ _ 0 _ _ _ _ hl (UJ.1 u.2) (Qf _) (λ hn=>by cases hn) λ b' hm=>?_
  obtain rfl:=Qh hm;refine⟨.inr zz,us,e,(0,0),by show (w.heap.push _)[w.heap.size]? = _;simp,?_⟩
  rw[hC.size,hh];simp
end
variable {X:AV} {rows:List (List AV)} {s:Nat} {v:Value}
structure CM (T:Nat->Nat) (w:World) (M:GM) (s:Nat) (rows:List (List AV)) (us:List Value):Prop where
 size:us.length=rows.length*s
 wide:∀ row∈rows,row.length=s
 one:∀ u∈us,u.oneCell'=true
 cell:∀ i j,i<rows.length->j<s->Aj T w M ((rows.getD i []).getD j .dead) (us.getD (i*s+j) undef)
theorem CM.append {T w M s r1 r2 u1 u2} (h1:CM T w M s r1 u1) (h2:CM T w M s r2 u2):CM T w M s (r1++r2) (u1++u2):=by
 refine⟨by rw[Qe,Qe,h1.size,h2.size,QP],λ r hr=>?_,λ u hu=>?_,λ i j hi hj=>?_⟩
 .rcases Qm.1 hr with h | h
  .exact h1.wide r h
  .exact h2.wide r h
 .rcases Qm.1 hu with h | h
  .exact h1.one u h
  .exact h2.one u h
 .simp only[Qe] at hi
  by_cases q:i<r1.length
  .have:=FA q hj
   have e1:(r1++r2).getD i []=r1.getD i []:=by simp[List.getD,QG q]
   have e2:(u1++u2).getD (i*s+j) undef=u1.getD (i*s+j) undef:=by
    simp only[List.getD];rw[QG (by rw[h1.size];exact this)]
   rw[e1,e2];exact h1.cell i j q hj
  .have h0:r1.length<=i:=zy
   have h3:i*s=r1.length*s+(i - r1.length)*s:=by rw[<- QP];congr 1;omega
   have e1:(r1++r2).getD i []=r2.getD (i - r1.length) []:=by simp[List.getD,Qr h0]
   have e2:(u1++u2).getD (i*s+j) undef=u2.getD ((i - r1.length)*s+j) undef:=by
    simp only[List.getD];rw[Qr (by rw[h1.size];omega),h1.size]
    congr 2
    omega
   rw[e1,e2];exact h2.cell _ _ zy hj
theorem CM.cells {T w M s rows us} (h:CM T w M s rows us) {i j:Nat} (hi:i<rows.length) (hj:j<s) :
  ∃ v,us[i*s+j]? = some v/\v.oneCell'=true/\Aj T w M ((rows.getD i []).getD j .dead) v:=by
 have q:=FA hi hj;rw[<- h.size] at q;have e:us.getD (i*s+j) undef=us[i*s+j]:=by simp[List.getD,q]
 have:=h.cell i j hi hj;rw[e] at this;exact⟨us[i*s+j],by simp[q],h.one _ (Qi q),this⟩
theorem XQ {T w M s} (hw:∀ row∈rows,row.length=s) (f:Nat->Value) (h:∀ i j,i<rows.length->j<s->(f (i*s+j)).oneCell'=true/\Aj T w M ((rows.getD i []).getD j .dead) (f (i*s+j))) :
  CM T w M s rows ((List.range (rows.length*s)).map f):=by
 refine⟨zz,hw,λ u hu=>?_,λ i j hi hj=>?_⟩
 .obtain ⟨k,hk,rfl⟩:=Ql.1 hu
  simp only[Q1] at hk
  have hs:0<s:=by
   rcases UF s with rfl | h
   .simp at hk
   .exact h
  have:=h (k / s) (k % s) (Nat.div_lt_of_lt_mul (by rw[Nat.mul_comm];exact hk)) (Nat.mod_lt _ hs)
  rw[Nat.mul_comm (k / s),Nat.div_add_mod] at this;exact this.1
 .have e:((List.range (rows.length*s)).map f).getD (i*s+j) undef=f (i*s+j):=by simp[List.getD,FA hi hj]
  rw[e];exact(h i j hi hj).2
theorem Tb {w:World} {b o:Nat} {cells:Array Value} {ty:TypeId} {fz:Nat × Nat} (h:w.heap[b]? = some (.cells cells ty fz)):w.cell? ⟨b,o,none⟩=cells[o]?:=by
 simp[World.cell?,h]
section
variable {P:Program} {np:Nat} {T0:Nat->Nat} {M0:GM} {w0:World} {aA:Nat->Prop} {st:St} {T:Nat->Nat} {M:GM} {a:Act} {w:World} {idb:Nat}
theorem XA (hs:Dl T w M st.hp) (hr:Aj T w M X v) (h:Ch s st.hp X=some rows) (hx:∀ i o l c,X ≠ .rk i o l c) :
  ∃ ad cap us,v = .slice ad rows.length cap/\rows.length<=cap/\CM T w M s rows us/\(ad=none->us=[])/\(∀ x,ad=some x -> ∀ j u,us[j]? = some u->w.cell? (x.add j)=some u):=by
 cases hr with
 | sc _ _ h1 =>
   unfold Ch at h;split at h<;>(try (cases h;done))
   .rename_i e;cases e
   .rename_i e;cases e
   .rename_i e;cases e
   .rename_i e
    cases e
    cases h;exact⟨none,0,[],rfl,Qf _,⟨zz,zz,zz,λ i j hi=>absurd hi zz⟩,λ _=>rfl,λ x hx=>by cases hx⟩
 | vs _ s' full rows' ad cap c hf h7 hw hb h1 hh =>
   simp only[Ch] at h;split at h
   case isFalse=>cases h
   rename_i e;subst e
   cases h
   by_cases h8:rows=[]
   .subst h8
    exact⟨ad,cap,[],rfl,h7,⟨zz,zz,zz,λ i j hi=>absurd hi zz⟩,λ _=>rfl,λ x hx j u hu=>by simp at hu⟩
   .obtain ⟨b,off,cells,ty,fz,rfl,hn,hT,hc⟩:=hb h8
    have hq:∀ k,k<rows.length*s'->cells[off+k]? = some (cells.getD (off+k) undef):=by
     intro k hk
     have h9:0<s':=by
      rcases UF s' with h | h
      .rw [h] at hk;simp at hk
      .exact h
     have:=hc (k / s') (k % s') (Nat.div_lt_of_lt_mul (by rw[Nat.mul_comm];exact hk)) (Nat.mod_lt _ h9)
     rw[Uy,Nat.mul_comm (k / s'),Nat.div_add_mod] at this;rw[this,FO this]
    refine⟨_,cap,(List.range (rows.length*s')).map λ k=>cells.getD (off+k) undef,rfl,h7,XQ hw _ (λ i j hi hj=>?_),(λ e=>by cases e),λ x hx j u hu=>?_⟩
    .have e:=hc i j hi hj
     rw[Uy] at e;rw[FO e];exact⟨h1 i j hi hj,(hh i j hi hj).mono (Ax.refl _ _) (λ _ _ e=>by cases e)⟩
    .cases hx
     simp only[QB,Qy] at hu;obtain⟨k,hk,rfl⟩:=hu;obtain⟨h2,rfl⟩:=Qz.1 hk;simp only[UD] at h2;rw[Addr.add_none,Tb hn]
     simpa only[List.getElem_range] using hq j h2
 | rs _ id off len cap ad g hg hz hl ht hb =>
   simp only[Ch,Un] at h;obtain⟨e,he,h⟩:=h;split at h
   case isFalse=>cases h
   rename_i hc
   cases h;obtain⟨g',hy,ent⟩:=hs.ent id e he;obtain rfl:=Qh (hg.symm.trans hy);have q:((e.rows.drop off).take len).length=len:=zw
   have h4:∀ row∈(e.rows.drop off).take len,row.length=s:=λ row hd=>by rw[<- hc.1];exact ent.wide (ent.s ▸ hz) row (Uw (QM hd))
   cases h3:g.blk with
   | none =>
     have h0:=ht h3;have h5:len=0:=zy
     subst h5;exact⟨ad,cap,[],by rw[q],by rw[q];omega,⟨zz,zz,zz,λ i j hi=>absurd hi zz⟩,λ _=>rfl,λ x hx j u hu=>by simp at hu⟩
   | some b =>
     obtain⟨ha,-,-,-,-,a5⟩:=hb b h3;obtain⟨cells,ty,h6,hT,a0,a1⟩:=ent.blk (ent.s ▸ hz) b h3
     by_cases h5:len=0
     .subst h5
      exact⟨ad,cap,[],by rw[q],by rw[q];omega,⟨zz,zz,zz,λ i j hi=>absurd hi zz⟩,λ _=>rfl,λ x hx j u hu=>by simp at hu⟩
     have a2:ad=some ⟨b,g.base+off*g.s,none⟩:=by
      rcases ha with ha | ha
      .omega
      .exact ha
     subst a2;have hS:g.s=s:=ent.s.trans hc.1;have hm:e.s=s:=hc.1
     have a3:∀ k,k<len*s->cells[g.base+off*s+k]? = some (cells.getD (g.base+off*s+k) undef):=by
      intro k hk;have:(off+len)*s<=e.rows.length*s:=QE _ hc.2;rw[QP] at this;rw[hm] at a0;have h2:g.base+off*s+k<cells.size:=zy
      simp[Array.getD,h2]
     refine⟨_,cap,(List.range (((e.rows.drop off).take len).length*s)).map λ k=>cells.getD (g.base+off*s+k) undef,by rw[q],by rw[q];exact hl,XQ h4 _ (λ i j hi hj=>?_),(λ e=>by cases e),λ x hx j u hu=>?_⟩
     .rw [q] at hi
      obtain⟨v,hv,ho,a4⟩:=a1 (off+i) j zy zy
      rw[hm,QP] at hv;have e1:cells.getD (g.base+off*s+(i*s+j)) undef=v:=FO (by rw[<- hv];congr 1;omega)
      have e2:((e.rows.drop off).take len).getD i []=e.rows.getD (off+i) []:=by
       simp only[List.getD,Uu,Ud];rw[if_pos hi]
      rw[e1,e2];exact⟨ho,a4⟩
     .cases hx
      rw[q] at hu;simp only[QB,Qy] at hu;obtain⟨k,hk,rfl⟩:=hu;obtain⟨h2,rfl⟩:=Qz.1 hk;simp only[UD] at h2;rw[Addr.add_none,hS,Tb h6]
      simpa only[List.getElem_range] using a3 j h2
 | rk=>exact absurd rfl (hx _ _ _ _)
 | _=>simp[Ch] at h
theorem Hq (hs:Dl T w M st.hp) (hr:Aj T w M X v) (h:Ch s st.hp X=some rows) :
  ∃ ad cap us,v = .slice ad rows.length cap/\rows.length<=cap/\CM T w M s rows us/\(ad=none->us=[])/\(∀ x,ad=some x -> ∀ j u,us[j]? = some u->w.cell? (x.add j)=some u):=by
 cases X with
 | rk i o l c=>exact XA hs (X:=.rs i o l) hr.rk_rs h zz
 | _=>exact XA hs hr h zz
theorem Bp.newNil {hp:Nat->Option AD} (h:Bp np T0 M0 w0 aA hp T M w) {id:Nat} (hid:¬ aA id) (h8:np<=id) (s:Nat) (h0:s≠0) {hp':Nat->Option AD} (h7:hp' id=some { s:=s,rows:=[],ro:=0 }) (q:∀ i e',i≠id->hp' i=some e'->hp i=some e') :
  ∃ M':GM,M' id=some ⟨none,0,s⟩/\(∀ i g,M i=some g->M' i=some g)/\Bp np T0 M0 w0 (λ i=>aA i∨i=id) hp' T M' w:=by
 have u:M id=none:=by
  cases hm:M id with
  | none=>rfl
  | some g=>exact absurd (h.dom id g hm) hid
 have mm:∀ i g,M i=some g->(λ i=>if i=id then some (GE.mk none 0 s) else M i) i=some g:=by
  intro i g hg;have:i≠id:=by rintro rfl;rw[u] at hg;cases hg
  simp only[this,UA];exact hg
 refine⟨λ i=>if i=id then some ⟨none,0,s⟩ else M i,zz,mm,⟨λ i e' he=>?_,λ i i' e1 e2 g g' b h1 h2 h3 h4 h5 h6=>?_⟩,λ i g hg=>?_,?_⟩
 .by_cases hi:i=id
  .subst hi
   obtain rfl:=Qh (h7.symm.trans he);exact⟨⟨none,0,s⟩,if_pos rfl,rfl,Qk _,(λ _=>zz),(λ _=>rfl),(λ h=>absurd h h0),λ _ b hb=>by cases hb⟩
  .obtain ⟨g,h1,h2⟩:=h.hs.ent i e' (q i e' hi he)
   exact⟨g,by simp only[hi,UA];exact h1,h2.mono (Ax.refl _ _) mm λ b _=>⟨rfl,rfl⟩⟩
 .by_cases hi:i=id
  .rw [if_pos hi] at h3
   obtain rfl:=Qh h3
   cases h5
  .by_cases hi':i'=id
   .rw [if_pos hi'] at h4
    obtain rfl:=Qh h4
    cases h6
   .rw [if_neg hi] at h3;rw[if_neg hi'] at h4
    exact h.hs.inj i i' e1 e2 g g' b (q i e1 hi h1) (q i' e2 hi' h2) h3 h4 h5 h6
 .by_cases hi:i=id
  .exact .inr hi
  .rw [if_neg hi] at hg;exact .inl (h.dom i g hg)
 .refine h.after.step h.after.tok (λ _ _ _=>rfl) (λ k hk=>?_) rfl rfl rfl (Qf _) (λ _ _ _=>rfl) (Ax.refl _ _) λ k g b hk hg hb=>?_
  .have:k≠id:=zy
   simp only[this,UA]
  .by_cases hi:k=id
   .rw [if_pos hi] at hg
    obtain rfl:=Qh hg
    cases hb
   .rw [if_neg hi] at hg
    exact h.after.new k g b hk hg hb
theorem sK {hp:Nat->Option AD} {new:List (List AV)} {old:List (List AV) × Nat × List (Nat × Option AD)} (h:Dj s hp new X=some old):Ch s hp X=some old.1:=by
 unfold Dj at h;split at h
 .simp only[Qw] at h;subst h;rfl
 .split at h
  case isFalse=>cases h
  rename_i hc;simp only[Qw] at h;subst h;simp[Ch,hc.1]
 .simp only[Un] at h
  obtain⟨e,he,h⟩:=h;split at h
  case isFalse=>cases h
  rename_i hc;simp only[Qw] at h;subst h;simp[Ch,he,hc]
 .cases h
theorem XG (m:Bp np T0 M0 w0 aA st.hp T M w) (aB:∀ k,k<8->¬ aA (idb+k)) (aC:np<=idb) {v':Value} (hr:Aj T w M X v) {new:List (List AV)} {old:List (List AV) × Nat × List (Nat × Option AD)} (hd:Dj s st.hp new X=some old) {t tx ty e:TypeId} {i:TypeInfo} {zv:Value} (ht:P.underlying t=some (.slice e)) (hi:P.info? e=some i) (hz:i.zero=some zv) (c0:zv.cells.size=s) (b1:i.size=s) (a2:s≠0) {hm:List Value} (hn:CM T w M s new hm) (a9:Src P i.size tx v' new.length hm w) (hb:(old.1.length+new.length)*i.bytes<=140737488355328) (d5:old.1.length+new.length<=140737488355328) {f:Sem Next} (hf:∀ r w1,(Builtin.append_ #[t,tx] ty #[v,v']).run P w = .ok r w1->f.run P w = .ok (.value r) w1) :
  Ek P np T0 M0 w0 aA idb (st.upd ((idb,some { s:=s,rows:=old.1++new,ro:=old.2.1 })::old.2.2)).hp T M w (.rs idb 0 (old.1.length+new.length)) (f.run P w):=by
 obtain⟨ad,cap,us,rfl,d7,an,c2,aq⟩:=Hq m.hs hr (sK hd)
 have au:∀ i,i≠idb -> ∀ e',(st.upd ((idb,some { s:=s,rows:=old.1++new,ro:=old.2.1 })::old.2.2)).hp i=some e'->st.hp i=some e'/\AW old.2.2 i=none:=by
  intro j hj e' a4;rw[St.hp_upd] at a4;simp only[AW,if_neg (Ne.symm hj)] at a4;unfold Dj at hd;split at hd
  .simp only[Qw] at hd;subst hd;exact⟨a4,rfl⟩
  .split at hd
   case isFalse=>cases hd
   simp only[Qw] at hd;subst hd;exact⟨a4,rfl⟩
  .simp only[Un] at hd
   obtain⟨e,he,hd⟩:=hd;split at hd
   case isFalse=>cases hd
   simp only[Qw] at hd;subst hd;simp only[AW] at a4 ⊢;split at a4
   .cases a4
   .rename_i c3;exact⟨a4,by rw[if_neg c3]⟩
  .cases hd
 have a8:(st.upd ((idb,some { s:=s,rows:=old.1++new,ro:=old.2.1 })::old.2.2)).hp idb=some { s:=s,rows:=old.1++new,ro:=old.2.1 }:=by
  rw[St.hp_upd];simp[AW]
 have b8:old.2.1<=(old.1++new).length:=by
  unfold Dj at hd;split at hd
  .simp only[Qw] at hd;subst hd;exact Qk _
  .split at hd
   case isFalse=>cases hd
   simp only[Qw] at hd;subst hd;exact Qk _
  .simp only[Un] at hd
   obtain⟨e,he,hd⟩:=hd;split at hd
   case isFalse=>cases hd
   rename_i hc;simp only[Qw] at hd;subst hd;simp;omega
  .cases hd
 have wider:∀ {hp T M' w'},Bp np T0 M0 w0 (λ i=>aA i∨i=idb) hp T M' w'->Bp np T0 M0 w0 (λ i=>aA i∨(idb<=i/\i<idb+8)) hp T M' w':=λ h =>
  h.wider λ i hi=>hi.elim .inl λ hi=>.inr zy
 have a3:=an.append hn
 by_cases ag:cap<old.1.length+new.length
 .
  have c4:(Builtin.firstCells i.size old.1.length (.slice ad old.1.length cap)).run P w.drew = .ok us.toArray w.drew:=by
   cases ad with
   | none=>rw[run_firstCells_none,c2 rfl]
   | some x=>exact run_firstCells_some w.drew _ _ _ _ _ us (by rw[b1];exact an.size) (λ j u hj=>by simpa using aq x rfl j u hj)
  have run:=run_append_grow_src (P:=P) w t tx ty e i zv ht hi hz ad old.1.length cap us c4 v' new.length hm a9 ag zy (growslice_fits ag hb)
  have av:old.1.length+new.length<=grownCap w (old.1.length+new.length) cap e:=by simp only[grownCap,Question.cut];omega
  refine Ht m aB aC (e:={ s:=s,rows:=old.1++new,ro:=old.2.1 }) (hf _ _ run) rfl rfl rfl rfl a2 b8 a3.wide ?_ (λ i j hi hj=>?_) _ (by simp[AW]) (λ j x hj hx=>?_) λ M' b2=>?_
  .simp only[UL,Ue,a3.size]
   omega
  .obtain ⟨u,hu,ho,b3⟩:=a3.cells hi hj
   refine⟨u,?_,ho,b3⟩;rw[Ui]
   .simpa using hu
   .simp only[Ue,a3.size]
    exact FA hi hj
  .simp only[AW,if_neg (Ne.symm hj)] at hx
   unfold Dj at hd;split at hd
   .simp only[Qw] at hd;subst hd;cases hx
   .split at hd
    case isFalse=>cases hd
    simp only[Qw] at hd;subst hd;cases hx
   .simp only[Un] at hd
    obtain⟨e,he,hd⟩:=hd;split at hd
    case isFalse=>cases hd
    simp only[Qw] at hd;subst hd;simp only[AW] at hx;split at hx
    .exact (Qh hx).symm
    .cases hx
   .cases hd
  .refine .rs _ _ 0 _ _ _ _ b2 a2 av (λ hn=>by cases hn) λ b' b4=>?_
   obtain rfl:=Qh b4;refine⟨.inr zz,_,e,(0,0),(Array.getElem?_push_size:(w.drew.heap.push _)[w.drew.heap.size]? = _),?_⟩
   simp only[UL,Ue,Qe,an.size,hn.size,size_zeroCells,c0]
   have:(grownCap w (old.1.length+new.length) cap e - (old.1.length+new.length))*s+(old.1.length+new.length)*s=grownCap w (old.1.length+new.length) cap e*s:=by
    rw[<- QP];congr 1;omega
   rw[QP] at this;omega
 .have hy:old.1.length+new.length<=cap:=zy
  have same:new=[]->f.run P w = .ok (.value (.slice ad old.1.length cap)) w:=by
   intro h0;have a7:hm=[]:=Qx (by rw[hn.size,h0];simp)
   rw[h0,a7] at a9;exact hf _ _ (run_append_nothing (P:=P) w t tx ty e i ht hi ad old.1.length cap zy v' a9)
  unfold Dj at hd;split at hd
  .
   simp only[Qw] at hd;subst hd
   cases hr;have h0:new=[]:=Qx (by simp at hy;omega)
   rw[same h0];subst h0;obtain⟨M',h1,h2,h3⟩:=m.newNil (aB 0 zy) aC s a2 (hp':=(st.upd ((idb,some { s:=s,rows:=[]++[],ro:=0 })::[])).hp) a8 (λ j e' hj he=>(au j hj e' he).1)
   exact⟨T,M',wider h3,Ax.refl _ _,h2,.rs _ _ 0 _ _ _ _ h1 a2 (Qk _) (λ _=>⟨rfl,rfl⟩) (λ b hb=>by cases hb)⟩
  .
   split at hd
   case isFalse=>cases hd
   rename_i rows hc;simp only[Qw] at hd;subst hd
   cases hr with
   | vs _ _ _ _ _ _ c c5 dd hw df h1 hh =>
     have hcf:=c5 rfl;have h0:new=[]:=Qx (by simp at hy;omega)
     have cb:rows=[]:=by
      rcases hc.2 with h | h
      .exact h
      .exact absurd h0 h
     subst h0 cb;rw[same rfl];obtain⟨M',h1,h2,h3⟩:=m.newNil (aB 0 zy) aC s a2 (hp':=(st.upd ((idb,some { s:=s,rows:=[]++[],ro:=0 })::[])).hp) a8 (λ j e' hj he=>(au j hj e' he).1)
     exact⟨T,M',wider h3,Ax.refl _ _,h2,.rs _ _ 0 _ _ _ _ h1 a2 (Qk _) (λ _=>⟨rfl,by simpa using hcf⟩) (λ b hb=>by cases hb)⟩
  .
   simp only[Un] at hd;obtain⟨en,b9,hd⟩:=hd;split at hd
   case isFalse=>cases hd
   rename_i id off len hc;simp only[Qw] at hd;subst hd;have a0:((en.rows.drop off).take len).length=len:=zw
   simp only[a0] at *;have a0:((en.rows.drop off).take len).length=len:=zw
   cases hr with
   | rs _ _ _ _ _ _ g hg hz hl cd ch =>
     obtain⟨g',ck,ent⟩:=m.hs.ent id en b9;obtain rfl:=Qh (hg.symm.trans ck)
     cases a5:g.blk with
     | none =>
       obtain⟨dg,cl⟩:=cd a5;have h0:new=[]:=Qx zy
       have cm:len=0:=zy
       have b0:en.ro=0:=by have:=ent.ro;rw[ent.none a5] at this;simpa using this
       subst h0 cm;rw[same rfl];have ai:=a8;simp only[List.take_zero,QU,b0,Nat.zero_sub] at ai ⊢
       obtain⟨M',h1,h2,h3⟩:=m.newNil (aB 0 zy) aC s a2 (hp':=(st.upd ((idb,some { s:=s,rows:=[],ro:=0 })::[(id,none)])).hp) ai (λ j e' hj he=>by
        refine(au j hj e' ?_).1
        simpa [b0] using he)
       exact⟨T,M',wider h3,Ax.refl _ _,h2,.rs _ _ 0 _ _ _ _ h1 a2 (Qk _) (λ _=>⟨rfl,cl⟩) (λ b hb=>by cases hb)⟩
     | some b =>
       obtain⟨ha,c1,t1,f1,cp,a6⟩:=ch b a5;obtain⟨cells,tyc,a1,hT,dn,cq⟩:=ent.blk (ent.s ▸ hz) b a5
       have d0:c1=cells:=by
        have e:=a1.symm.trans cp;injection e with e;injection e with e;exact e.symm
       rw[d0] at a6;have hS:g.s=s:=ent.s.trans hc.1;have b5:en.s=s:=hc.1;have bb:en.ro*en.s<=(off+len)*en.s:=QE _ hc.2.2
       have write:∀ cells':Array Value,cells'.size=cells.size->(∀ q:Nat,cells'[q]? = if g.base+(off+len)*s<=q/\q<g.base+(off+len)*s+hm.length then hm[q - (g.base+(off+len)*s)]? else cells[q]?) ->
         ∃ M':GM,M' idb=some ⟨some b,g.base+off*s,s⟩/\(∀ i g,M i=some g->M' i=some g) /\
           Bp np T0 M0 w0 (λ i=>aA i∨i=idb) (st.upd ((idb,some { s:=s,rows:=(en.rows.drop off).take len++new,ro:=en.ro - off })::[(id,none)])).hp T M' (w.setRow b cells')/\Ax T w T (w.setRow b cells'):=by
        intro cells' s1 s2
        have b6:g.base+off*s+(len+new.length)*s<=cells.size:=by
         have:(len+new.length)*s<=cap*s:=QE _ hy;rw[hS] at a6;omega
        have bo:T b<=g.base+off*s+(en.ro - off)*s:=by
         rw[b5] at hT;have:en.ro*s<=(off+(en.ro - off))*s:=QE _ zy
         rw[QP] at this;omega
        refine m.write (id':=idb) (g':=⟨some b,g.base+off*s,s⟩) (e:={ s:=s,rows:=(en.rows.drop off).take len++new,ro:=en.ro - off }) (cells':=cells') b9 hg a5 a1 s1 (λ q hq=>?_)
         (.inr ⟨aB 0 zy,aC⟩) rfl rfl a2 b8 a3.wide bo (by simp only[Qe,a0];exact b6) (λ i' j' hi' am=>?_) a8 (λ j e' hj he=>?_)
        .rw [s2,if_neg]
         rw[b5] at hT bb;omega
        .simp only[Qe,a0] at hi'
         have am:j'<s:=am;have h9:(off+len)*s=off*s+len*s:=QP _ _ _;simp only[s2];obtain⟨u,hu,ho,b3⟩:=a3.cells (i:=i') (j:=j') (by simp only[Qe,a0];exact hi') am
         by_cases b7:i'<len
         .have h5:i'*s+j'<len*s:=FA b7 am
          rw[if_neg zy]
          obtain⟨v,hv,d1,d2⟩:=cq (off+i') j' zy zy
          rw[b5,QP] at hv;refine⟨v,by rw[<- hv];congr 1;omega,d1,?_⟩
          have e2:((en.rows.drop off).take len++new).getD i' []=en.rows.getD (off+i') []:=by
           simp only[List.getD];rw[QG (by rw[a0];exact b7),Uu,if_pos b7,Ud]
          rw[e2];exact d2
         .have h5:(i' - len)*s+j'<new.length*s:=FA zy am
          have h6:i'*s=len*s+(i' - len)*s:=by rw[<- QP];congr 1;omega
          have h7:=hn.size;have h8:=an.size;rw[a0] at h8;rw[if_pos zy]
          refine⟨u,?_,ho,b3⟩;rw[Qr zy] at hu
          rw[<- hu]
          congr 1
          omega
        .obtain ⟨h1,h2⟩:=au j hj e' he
         refine⟨?_,h1⟩
         rintro rfl
         simp[AW] at h2
       have rep:∀ M' w' ,Ax T w T w'->M' idb=some ⟨some b,g.base+off*s,s⟩->Aj T w' M' (.rs idb 0 (len+new.length)) (.slice ad (len+new.length) cap):=by
        intro M' w' p b2;refine .rs _ _ 0 _ _ _ _ b2 a2 hy (λ hn=>by cases hn) λ b' b4=>?_
        obtain rfl:=Qh b4;obtain⟨c',f',e1,e2,-⟩:=p.cell b cells tyc (0,0) a1;refine⟨?_,c',tyc,f',e1,by rw[e2];rw[hS] at a6;simpa using a6⟩
        rcases ha with ha | ha
        .exact .inl ha
        .right;rw[ha,hS];simp
       by_cases h0:new=[]
       .have a7:hm=[]:=Qx (by rw[hn.size,h0];simp)
        obtain⟨M',h1,h2,h3,h4⟩:=write cells rfl (λ q=>by rw[a7];simp;intro a b;omega)
        rw[setRow_self w b cells tyc (0,0) a1] at h3 h4;rw[same h0];refine⟨T,M',wider h3,h4,h2,?_⟩;have:=rep M' w h4 h1;rw[h0] at this ⊢
        simpa using this
       .have d3:0<new.length:=Uv.2 h0
        have d4:ad=some ⟨b,g.base+off*s,none⟩:=by
         rcases ha with ha | ha
         .omega
         .rw [ha,hS]
        subst d4
        have bp:g.base+(off+len)*s+hm.length<=cells.size:=by
         have h1:(len+new.length)*s<=cap*s:=QE _ hy;rw[hS] at a6;rw[hn.size];rw[QP] at h1 ⊢;omega
        have hst:=run_storeCells_at P b (g.base+(off+len)*s) tyc hm 0 cells w a1 (by simpa using bp) hn.one
        simp only[Uj] at hst;obtain⟨s1,s2⟩:=Md cells (g.base+(off+len)*s) hm bp
        have run:(Builtin.append_ #[t,tx] ty #[.slice (some ⟨b,g.base+off*s,none⟩) len cap,v']).run P w = .ok (.slice (some ⟨b,g.base+off*s,none⟩) (len+new.length) cap)
          (w.setRow b (cells.toList.take (g.base+(off+len)*s)++hm++cells.toList.drop (g.base+(off+len)*s+hm.length)).toArray):=by
         have bs:g.base+off*s+len*s=g.base+(off+len)*s:=by rw[QP];omega
         have bt:=a9.cells;rw[b1] at bt;rcases a9.kind with ⟨e',hk⟩ | hk<;>simp[Builtin.append_,run_underlying ht,run_underlying hk,sizeOf,typeInfo,hi,a9.len,hy,b1,bt,Addr.add_lit,bs,hst]
        obtain⟨M',h1,h2,h3,h4⟩:=write _ s1 s2;rw[hf _ _ run];exact⟨T,M',wider h3,h4,h2,rep M' _ h4 h1⟩
  .cases hd
end
variable {c n off s:Nat} {e t tx ty:TypeId} {en:AD} {f:Sem Next} {v zv:Value} {z:List Value}
section
variable {P:Program} {np:Nat} {T0:Nat->Nat} {M0:GM} {w0:World} {aA:Nat->Prop} {st:St} {T:Nat->Nat} {M:GM} {a:Act} {w:World} {idb:Nat}
theorem CM.drew {T:Nat->Nat} {w:World} {M:GM} {s rows us} (h:CM T w M s rows us):CM T w M s rows us:=h
theorem Oc {e':TypeId} (hk:P.underlying tx=some (.slice e')) {ad:Option Addr} {cap:Nat} {rows:List (List AV)} {us:List Value} (hu:CM T w M s rows us) (hn:rows.length=n) (h0:ad=none->us=[]) (hc:∀ x,ad=some x -> ∀ j u,us[j]? = some u->w.cell? (x.add j)=some u) (q:0<s):Src P s tx (.slice ad n cap) n us w:=by
 subst hn
 cases ad with
 | none =>
   have h1:=h0 rfl;have h2:=hu.size;rw[h1] at h2
   have h3:rows.length=0:=by
    rcases UF rows.length with h | h
    .exact h
    .have:=Nat.mul_pos h q;simp at h2;omega
   rw[h1,h3];exact Src.ofNil w hk cap
 | some x=>exact Src.ofSlice w hk x rows.length cap us hu.size (hc x rfl) hu.one
theorem OG (b:ByteArray):(F4 b).length=b.size:=by
 unfold F4;rw[Qs,Ul];rfl
theorem uH (b:ByteArray):CM T w M 1 (F4 b) (byteCells b):=by
 refine⟨by rw[byteCells_length,OG,Nat.mul_one],λ row q=>?_,λ u hu=>?_,λ i j hi hj=>?_⟩
 .obtain ⟨x,_,rfl⟩:=Ql.1 q;rfl
 .obtain ⟨x,_,rfl⟩:=Ql.1 hu;rfl
 .obtain rfl:j=0:=zy
  rw[OG] at hi;have hi':i<b.data.toList.length:=by rw[Ul];exact hi
  have e1:(F4 b).getD i []=[AV.sc (.int .u8 (b.data.toList[i]).toNat)]:=by simp[F4,List.getD,hi]
  have e2:(byteCells b).getD (i*1+0) undef = .int .u8 (b.data.toList[i]).toNat:=by simp[byteCells,List.getD,hi]
  rw[e1,e2];exact .sc _ _ rfl
theorem Ra (m:Bp np T0 M0 w0 aA st.hp T M w) {id len:Nat} {ad':Option Addr} {cap':Nat} (hr:Aj T w M (.rs id off len) (.slice ad' len cap')) (hf:st.hp id=some en) (h5:en.s=s) (hy:en.ro<=off) (a9:off<=en.rows.length) {h0:List (List AV)} (h9:h0.length=n) (a0:n<=cap') {us:List Value} (h7:CM T w M s h0 us) {val:Value} {av:AV} (he:Aj T w M av val) (run:∀ w1,(match ad' with | some x=>storeCells x us | none=>pure ()).run P w = .ok () w1->f.run P w = .ok (.value val) w1) :
  Ek P np T0 M0 w0 aA idb (st.upd [(id,some { en with rows:=en.rows.take off++h0++en.rows.drop (off+n) })]).hp T M w av (f.run P w):=by
 cases hr with
 | rs _ _ _ _ cap' ad' g hg hz hl a1 a2 =>
   obtain⟨g',a3,ent⟩:=m.hs.ent id en hf;obtain rfl:=Qh (hg.symm.trans a3);have hS:g.s=s:=ent.s.trans h5
   cases h4:g.blk with
   | none =>
     have a4:=ent.none h4;have hz:=a1 h4;have hb:n=0:=zy
     skip
     have e0:en.rows.take off++h0++en.rows.drop (off+n)=en.rows:=by rw[List.length_eq_zero_iff.1 (h9.trans hb),a4,hb];simp
     have hc:us=[]:=List.length_eq_zero_iff.1 (by rw[h7.size,h9,hb];simp)
     rw[run w (by rw[hc];cases ad'<;>rfl),e0]
     have a5:(st.upd [(id,some { en with rows:=en.rows })]).hp=st.hp:=by
      funext j
      rw[St.hp_upd];simp only[AW];split
      .rename_i e;subst e;exact hf.symm
      .rfl
     rw[a5];exact⟨T,M,m.wider (λ _ h=>.inl h),Ax.refl _ _,λ _ _ h=>h,he⟩
   | some b =>
     obtain⟨ha,c1,t1,f1,a6,hm⟩:=a2 b h4;obtain⟨cells,tyc,h6,hT,hn,a7⟩:=ent.blk (ent.s ▸ hz) b h4;rw[h5] at hn hT
     have a8:c1=cells:=by
      have e:=h6.symm.trans a6;injection e with e;injection e with e;exact e.symm
     rw[a8,show g.s=s from ent.s.trans h5] at hm
     have ag:n*s<=cap'*s:=QE _ a0
     have ht:g.base+off*s+(us).length<=cells.size:=by
      rw[h7.size,h9];omega
     obtain⟨s1,s2⟩:=Md cells (g.base+off*s) (us) ht;have hst:=run_storeCells_at P b (g.base+off*s) tyc (us) 0 cells w h6 (by simpa using ht) h7.one
     simp only[Uj] at hst
     have hd:(match ad' with | some x=>storeCells x (us) | none=>pure ()).run P w = .ok () (w.setRow b (cells.toList.take (g.base+off*s)++us++cells.toList.drop (g.base+off*s+(us).length)).toArray):=by
      rcases ha with ha | ha
      .have hb:n=0:=zy
       have hc:us=[]:=List.length_eq_zero_iff.1 (by rw[h7.size,h9,hb];simp)
       rw[hc];simp only[QU,UN,Uj,QQ,QW];rw[setRow_self w b cells tyc (0,0) h6]
       cases ad'<;>rfl
      .rw [hS] at ha
       subst ha;exact hst
     have hv:=run _ hd;generalize (cells.toList.take (g.base+off*s)++us++cells.toList.drop (g.base+off*s+(us).length)).toArray=cells' at *;rw[h7.size,h9] at s2;have h8:(en.rows.take off++h0++en.rows.drop (off+n)).length=off+n+(en.rows.length - (off+n)):=zw
     have hh:g.base+(off+n+(en.rows.length - (off+n)))*s<=cells.size:=by
      rcases Nat.le_total en.rows.length (off+n) with h | h
      .rw [show off+n+(en.rows.length - (off+n))=off+n by omega,QP]
       omega
      .rw [show off+n+(en.rows.length - (off+n))=en.rows.length by omega]
       exact hn
     obtain⟨M',m1,m2,m3,m4⟩:=m.write (id':=id) (g':=g) (e:={ en with rows:=en.rows.take off++h0++en.rows.drop (off+n) }) (cells':=cells') hf hg h4 h6 s1 (λ q hq=>by
       rw[s2,if_neg];have:en.ro*s<=off*s:=QE _ hy;omega) (.inl ⟨rfl,rfl⟩) h4 ent.s (ent.s ▸ hz) (by simp only;rw[h8];omega) (λ r hr=>by
       simp only[Qm] at hr;rcases hr with (hr | hr) | hr
       .exact ent.wide (ent.s ▸ hz) r (QM hr)
       .simp only;rw[h5];exact h7.wide r hr
       .exact ent.wide (ent.s ▸ hz) r (Uw hr)) (by simp only;rw[h5];exact hT) (by simp only;rw[h8,h5];exact hh) (λ i' j' hi' hi=>by
       simp only[h8] at hi';simp only[h5] at hi;simp only[h5,s2]
       by_cases hw:off<=i'/\i'<off+n
       .have h1:(i' - off)*s+j'<n*s:=FA zy hi
        have h2:i'*s=off*s+(i' - off)*s:=by rw[<- QP];congr 1;omega
        rw[if_pos zy]
        obtain⟨u,hu,ho,hj⟩:=h7.cells (i:=i' - off) (j:=j') (by rw[h9];omega) hi
        refine⟨u,by rw[<- hu];congr 1;omega,ho,?_⟩
        have e1:(en.rows.take off++h0++en.rows.drop (off+n)).getD i' []=(h0).getD (i' - off) []:=by
         simp only[List.getD];rw[Qq,Qr zw,QG zw]
         congr 2
         simp;omega
        rw[e1];exact hj
       .obtain ⟨u,hu,ho,hj⟩:=a7 i' j' zy zy
        rw[h5] at hu
        have h3:¬ (g.base+off*s<=g.base+i'*s+j'/\g.base+i'*s+j'<g.base+off*s+n*s):=by
         intro q;apply hw;constructor
         .rcases Ub i' off with h | h
          .have:(i'+1)*s<=off*s:=QE _ h
           rw[QP] at this;omega
          .exact h
         .rcases Ub i' (off+n) with h | h
          .exact h
          .have:(off+n)*s<=i'*s:=QE _ h
           rw[QP] at this;omega
        rw[if_neg h3];refine⟨u,hu,ho,?_⟩
        have e1:(en.rows.take off++h0++en.rows.drop (off+n)).getD i' []=en.rows.getD i' []:=by
         simp only[List.getD];rcases Ub i' off with h | h
         .rw [Qq,QG zw,Uu,if_pos h]
         .rw [Qr zw,Ud]
          congr 2
          simp;omega
        rw[e1]
        exact hj)
      (hp':=(st.upd [(id,some { en with rows:=en.rows.take off++h0++en.rows.drop (off+n) })]).hp) (by rw[St.hp_upd];simp[AW]) (λ i' e' hx hk=>by
       rw[St.hp_upd] at hk;simp only[AW,if_neg (Ne.symm hx)] at hk
       exact⟨hx,hk⟩)
     skip
     rw[hv];refine⟨T,M',m3.wider λ i' hi'=>?_,m4,m2,he.mono m4 m2⟩;rcases hi' with hi' | hi'
     .exact .inl hi'
     .subst hi';exact .inl (m.dom _ _ hg)
theorem fU {Y:AV} {b:Option Addr} {mm cp:Nat} (hr:Aj T w M Y (.slice b mm cp)) (hl:lenOf Y=some mm) (hn:n<=mm):Aj T w M (D7 n Y) (.slice b n cp):=by
 generalize hv:Value.slice b mm cp=v at hr
 cases hr with
 | vs _ s full rows a cap c hf h6 hw hb h1 h =>
   cases hv;simp only[D7];have q:(rows.take n).length=n:=zw
   have e:Value.slice b n cp = .slice b (rows.take n).length cp:=by rw[q]
   rw[e];refine .vs _ s false _ _ _ c (λ h=>by cases h) zy (λ r hr=>hw r (QM hr)) (λ h3=>?_) (λ i j hi hj=>h1 i j zy hj) λ i j hi hj=>?_
   .have h2:rows≠[]:=by rintro rfl;simp at h3
    obtain⟨b',off,cells,ty,fz,ha,h4,hT,hc⟩:=hb h2;refine⟨b',off,cells,ty,fz,ha,h4,?_,λ i j hi hj=>hc i j zy hj⟩
    have:n*s<=rows.length*s:=QE _ hn;rw[q];omega
   .have e1:(rows.take n).getD i []=rows.getD i []:=by simp[List.getD,show i<n by omega]
    rw[e1];exact h i j zy hj
 | rs _ id off len cap a g hg hz h5 u hb =>
   cases hv;simp only[D7,Nat.min_eq_left hn];exact .rs _ _ _ _ _ _ g hg hz zy u hb
 | rk _ id off len cap a g hg hz h5 u hb =>
   cases hv;simp only[D7,Nat.min_eq_left hn];exact .rk _ _ _ _ _ _ g hg hz zy u hb
 | sc _ _ h1 =>
   subst hv
   have h0:n=mm:=by
    simp only[lenOf] at hl;split at hl<;>simp_all
   subst h0;exact .sc _ _ h1
 | _=>simp[lenOf] at hl
theorem dE (m:Bp np T0 M0 w0 aA st.hp T M w) {id len:Nat} {v':Value} (hr:Aj T w M (.rk id off len c) v) (h5:st.hp id=some en) (h8:en.s=s) (hh:off+len<=en.rows.length) (hj:en.ro<=off+len) {i:TypeInfo} (ht:P.underlying t=some (.slice e)) (hi:P.info? e=some i) (h9:i.size=s) {new:List (List AV)} {u:List Value} (hn:CM T w M s new u) (h2:Src P i.size tx v' new.length u w) (h4:len+new.length<=c) (hf:∀ r w1,(Builtin.append_ #[t,tx] ty #[v,v']).run P w = .ok r w1->f.run P w = .ok (.value r) w1) :
  Ek P np T0 M0 w0 aA idb (st.upd [(id,some { en with rows:=en.rows.take (off+len)++new++en.rows.drop (off+len+new.length) })]).hp T M w (.rk id off (len+new.length) c) (f.run P w):=by
 cases hr with
 | rk _ _ _ _ _ ad g hg hz hl hb hc =>
 by_cases h0:new=[]
 .subst h0
  have h6:u=[]:=Qx (by rw[hn.size];simp)
  rw[h6] at h2;rw[hf _ _ (run_append_nothing (P:=P) w t tx ty e i ht hi ad len c zy v' h2)]
  have e0:en.rows.take (off+len)++[]++en.rows.drop (off+len+([]:List (List AV)).length)=en.rows:=zz
  rw[e0]
  have hm:(st.upd [(id,some { en with rows:=en.rows })]).hp=st.hp:=by
   funext j
   rw[St.hp_upd];simp only[AW];split
   .rename_i e;subst e;exact h5.symm
   .rfl
  rw[hm];exact⟨T,M,m.wider (λ _ h=>.inl h),Ax.refl _ _,λ _ _ h=>h,.rk _ _ _ _ _ _ g hg hz hl hb hc⟩
 .have hv:0<new.length:=Uv.2 h0
  obtain⟨g',ho,ent⟩:=m.hs.ent id en h5;obtain rfl:=Qh (hg.symm.trans ho);have hS:g.s=s:=ent.s.trans h8
  cases q:g.blk with
  | none=>have:=hb q;omega
  | some b =>
    obtain⟨ha,c1,t1,f1,hd,hq⟩:=hc b q
    have hu:ad=some ⟨b,g.base+off*g.s,none⟩:=by
     rcases ha with ha | ha
     .omega
     .exact ha
    subst hu;have h7:(c - len)*g.s+len*g.s=c*g.s:=by rw[<- QP];congr 1;omega
    refine Ra (T:=T) (M:=M) (ad':=some ⟨b,g.base+(off+len)*g.s,none⟩) (cap':=c - len) m (.rs _ id (off+len) 0 _ _ g hg hz (Qk _) (λ h=>by rw[q] at h;cases h) λ b' h3=>?_) h5 h8 hj hh rfl zy hn (val:=.slice (some ⟨b,g.base+off*g.s,none⟩) (len+new.length) c) ?_ λ w1 h1=>?_
    .rw [q] at h3
     obtain rfl:=Qh h3;refine⟨.inr rfl,c1,t1,f1,hd,?_⟩;rw[QP];omega
    .refine .rk _ id off _ _ _ g hg hz h4 (λ h=>by rw[q] at h;cases h) λ b' h3=>?_
     rw[q] at h3;obtain rfl:=Qh h3;exact⟨.inr rfl,c1,t1,f1,hd,hq⟩
    .refine hf _ _ ?_
     have he:g.base+off*s+len*s=g.base+(off+len)*s:=by rw[QP];omega
     have h7:=h2.cells;rw[h9] at h7;simp only[hS] at h1 ⊢;rcases h2.kind with ⟨e',hk⟩ | hk<;>simp[Builtin.append_,run_underlying ht,run_underlying hk,sizeOf,typeInfo,hi,h2.len,h4,h9,h7,Addr.add_lit,he,h1]
theorem sM (m:Bp np T0 M0 w0 aA st.hp T M w) (aB:∀ k,k<8->¬ aA (idb+k)) (aC:np<=idb) {id len:Nat} {v':Value} (hr:Aj T w M (.rk id off len c) v) (h9:st.hp id=some en) (ha:en.s=s) (hh:off+len<=en.rows.length) {i:TypeInfo} (ht:P.underlying t=some (.slice e)) (hi:P.info? e=some i) (hz:i.zero=some zv) (hk:zv.cells.size=s) (hl:i.size=s) {new:List (List AV)} {h0:List Value} (hn:CM T w M s new h0) (hm:Src P i.size tx v' new.length h0 w) (h4:c<len+new.length) (hb:(len+new.length)*i.bytes<=140737488355328) (a4:len+new.length<=140737488355328) (hf:∀ r w1,(Builtin.append_ #[t,tx] ty #[v,v']).run P w = .ok r w1->f.run P w = .ok (.value r) w1) :
  Ek P np T0 M0 w0 aA idb (st.upd [(idb,some { s:=s,rows:=(en.rows.drop off).take len++new,ro:=0 })]).hp T M w (.rs idb 0 (len+new.length)) (f.run P w):=by
 have h7:((en.rows.drop off).take len).length=len:=zw
 obtain⟨ad,cap,us,hv,hc,h8,hq,h5⟩:=Hq m.hs hr (s:=s) (rows:=(en.rows.drop off).take len) (by simp[Ch,h9,ha,hh])
 have hd:s≠0:=by
  cases hr with
  | rk _ _ _ _ _ _ g hg hw =>
    obtain⟨g',hy,ent⟩:=m.hs.ent id en h9;obtain rfl:=Qh (hg.symm.trans hy);rw[<- ha,<- ent.s];exact hw
 have a0:cap=c:=by
  cases hr with
  | rk=>injection hv with h1 h2 h3;exact h3.symm
 subst a0 hv;have q:=h8.append hn
 have he:(Builtin.firstCells i.size ((en.rows.drop off).take len).length (.slice ad ((en.rows.drop off).take len).length cap)).run P w.drew = .ok us.toArray w.drew:=by
  cases ad with
  | none=>rw[run_firstCells_none,hq rfl]
  | some x=>exact run_firstCells_some w.drew _ _ _ _ _ us (by rw[hl];exact h8.size) (λ j u hj=>by simpa using h5 x rfl j u hj)
 rw[h7] at he hc hf;have run:=run_append_grow_src (P:=P) w t tx ty e i zv ht hi hz ad len cap us he v' new.length h0 hm h4 zy (growslice_fits h4 hb)
 have h6:len+new.length<=grownCap w (len+new.length) cap e:=by simp only[grownCap,Question.cut];omega
 refine Ht m aB aC (e:={ s:=s,rows:=(en.rows.drop off).take len++new,ro:=0 }) (hf _ _ run) rfl rfl rfl rfl hd (Qk _) q.wide ?_ (λ i j hi hj=>?_) _ (by simp[AW]) (λ j x hj hx=>?_) λ M' a1=>?_
 .simp only[UL,Ue,q.size]
  omega
 .obtain ⟨u,hu,ho,a2⟩:=q.cells hi hj
  refine⟨u,?_,ho,a2⟩;rw[Ui]
  .simpa using hu
  .simp only[Ue,q.size]
   exact FA hi hj
 .simp only[AW,if_neg (Ne.symm hj)] at hx
  cases hx
 .refine .rs _ _ 0 _ _ _ _ a1 hd h6 (λ hn=>by cases hn) λ b' a3=>?_
  obtain rfl:=Qh a3;refine⟨.inr zz,_,e,(0,0),(Array.getElem?_push_size:(w.drew.heap.push _)[w.drew.heap.size]? = _),?_⟩
  have h1:=h8.size;rw[h7] at h1;simp only[UL,Ue,Qe,h1,hn.size,size_zeroCells,hk]
  have:(grownCap w (len+new.length) cap e - (len+new.length))*s+(len+new.length)*s=grownCap w (len+new.length) cap e*s:=by
   rw[<- QP];congr 1;omega
  rw[QP] at this;omega
theorem YM (h2:∀ v∈z,v.oneCell'=true) (h5:zv.cells.toList=z) (h1:z.length=s) (len:Nat):CM T w M s (List.replicate len (z.map .sc)) (Builtin.zeroCells zv.cells len).toList:=by
 have h6:zv.cells=z.toArray:=by rw[<- h5,QW]
 have h3:Builtin.zeroCells zv.cells len=(Array.range (len*z.toArray.size)).map λ i=>z.toArray[i % z.toArray.size]!:=by rw[Builtin.zeroCells,h6]
 have h7:=MK (T:=T) (w:=w) (M:=M) h2 h1 len (Builtin.zeroCells zv.cells len) _ h3 (by simp[h1])
 refine⟨by rw[h3];simp[h1],λ r hr=>by rw[List.eq_of_mem_replicate hr];simpa using h1,λ u hu=>?_,λ i j hi hj=>?_⟩
 .rw [h3] at hu
  simp only[Array.mem_toList_iff,Array.mem_map,Array.mem_range] at hu;obtain⟨q,hq,rfl⟩:=hu;simp only[Ue] at hq ⊢
  have h4:0<z.length:=by
   rcases UF z.length with h0 | h0
   .rw [h0] at hq;simp at hq
   .exact h0
  have h8:=Nat.mod_lt q h4;have e1:z.toArray[q % z.length]! = z[q % z.length]:=by simp[h8]
  rw[e1];exact h2 _ (Qi _)
 .obtain ⟨u,hu,_,h9⟩:=h7 i j hi hj
  have e1:(Builtin.zeroCells zv.cells len).toList.getD (i*s+j) undef=u:=by simp[List.getD,hu]
  rw[e1];exact h9
theorem fJ (m:Bp np T0 M0 w0 aA st.hp T M w) (aB:∀ k,k<8->¬ aA (idb+k)) (aC:np<=idb) {id len k:Nat} (hr:Aj T w M (.rk id off len c) v) (hk:st.hp id=some en) (hl:en.s=s) (hm:off+len<=en.rows.length) {tn:TypeId} {i:TypeInfo} {kq kn:IntKind} (ht:P.underlying t=some (.slice e)) (hq:P.underlying tn=some (.int kn)) (hi:P.info? e=some i) (hz:i.zero=some zv) (ha:∀ v∈z,v.oneCell'=true) (hc:zv.cells.toList=z) (hd:z.length=s) (hw:i.size=s) (h7:0<s) (h0:0<k) (h4:c<len+k) (hb:(len+k)*i.bytes<=140737488355328) (a4:len+k<=140737488355328) (hf:∀ r w1,(Builtin.append_ #[t,tn] ty #[v,.int kq k]).run P w = .ok r w1->f.run P w = .ok (.value r) w1) :
  Ek P np T0 M0 w0 aA idb (st.upd [(idb,some { s:=s,rows:=(en.rows.drop off).take len++List.replicate k (z.map .sc),ro:=0 })]).hp T M w (.rs idb 0 (len+k)) (f.run P w):=by
 have h8:((en.rows.drop off).take len).length=len:=zw
 obtain⟨ad,cap,us,hv,he,h9,hy,h5⟩:=Hq m.hs hr (s:=s) (rows:=(en.rows.drop off).take len) (by simp[Ch,hk,hl,hm])
 have a0:cap=c:=by
  cases hr with
  | rk=>injection hv with h1 h2 h3;exact h3.symm
 subst a0 hv;have hn:=YM (T:=T) (w:=w) (M:=M) ha hc hd k;have q:=h9.append hn
 have hg:(Builtin.firstCells i.size ((en.rows.drop off).take len).length (.slice ad ((en.rows.drop off).take len).length cap)).run P w.drew = .ok us.toArray w.drew:=by
  cases ad with
  | none=>rw[run_firstCells_none,hy rfl]
  | some x=>exact run_firstCells_some w.drew _ _ _ _ _ us (by rw[hw];exact h9.size) (λ j u hj=>by simpa using h5 x rfl j u hj)
 rw[h8] at hg he hf;have a5:k*i.bytes<=(len+k)*i.bytes:=QE _ zy
 have run:=Lib.run_append_grow_zeros (P:=P) w t tn ty e i zv kq kn ht hq hi hz ad len cap us hg k h0 zy h4 zy zy (growslice_fits h4 hb)
 have h6:len+k<=grownCap w (len+k) cap e:=by simp only[grownCap,Question.cut];omega
 have hh:zv.cells.size=s:=by rw[<- hd,<- hc];simp
 have h1:=h9.size;rw[h8] at h1
 have e1:us.toArray++Builtin.zeroCells zv.cells k=(us++(Builtin.zeroCells zv.cells k).toList).toArray:=by
  apply Array.ext';simp
 rw[e1] at run;refine Ht m aB aC (e:={ s:=s,rows:=(en.rows.drop off).take len++List.replicate k (z.map .sc),ro:=0 }) (hf _ _ run) rfl rfl rfl rfl (UJ.1 h7) (Qk _) q.wide ?_ (λ i j hi hj=>?_) _ (by simp[AW]) (λ j x hj hx=>?_) λ M' a1=>?_
 .simp only[UL,Ue,q.size]
  omega
 .obtain ⟨u,hu,ho,a2⟩:=q.cells hi hj
  refine⟨u,?_,ho,a2⟩;rw[Ui]
  .simpa using hu
  .simp only[Ue,q.size]
   exact FA hi hj
 .simp only[AW,if_neg (Ne.symm hj)] at hx
  cases hx
 .refine .rs _ _ 0 _ _ _ _ a1 (UJ.1 h7) h6 (λ hn=>by cases hn) λ b' a3=>?_
  obtain rfl:=Qh a3;refine⟨.inr zz,_,e,(0,0),(Array.getElem?_push_size:(w.drew.heap.push _)[w.drew.heap.size]? = _),?_⟩
  have h2:=hn.size;rw[List.length_replicate] at h2;simp only[UL,Ue,Qe,h1,h2,size_zeroCells,hh]
  have:(grownCap w (len+k) cap e - (len+k))*s+(len+k)*s=grownCap w (len+k) cap e*s:=by
   rw[<- QP];congr 1;omega
  rw[QP] at this;omega
theorem iU (m:Bp np T0 M0 w0 aA st.hp T M w) (aB:∀ k,k<8->¬ aA (idb+k)) (aC:np<=idb) {k:Nat} {tn:TypeId} {i:TypeInfo} {kq kn:IntKind} (ht:P.underlying t=some (.slice e)) (h7:P.underlying tn=some (.int kn)) (hi:P.info? e=some i) (hz:i.zero=some zv) (h3:∀ v∈z,v.oneCell'=true) (h4:zv.cells.toList=z) (h5:z.length=s) (he:i.size=s) (h1:0<s) (h0:0<k) (hb:k*i.bytes<=140737488355328) (hd:k<=140737488355328) (hf:∀ r w1,(Builtin.append_ #[t,tn] ty #[.slice none 0 0,.int kq k]).run P w = .ok r w1->f.run P w = .ok (.value r) w1) :
  Ek P np T0 M0 w0 aA idb (st.upd [(idb,some { s:=s,rows:=List.replicate k (z.map .sc),ro:=0 })]).hp T M w (.rs idb 0 k) (f.run P w):=by
 have hn:=YM (T:=T) (w:=w) (M:=M) h3 h4 h5 k;have h8:(Builtin.firstCells i.size 0 (.slice none 0 0)).run P w.drew = .ok ([]:List Value).toArray w.drew:=run_firstCells_none ..;have run:=Lib.run_append_grow_zeros (P:=P) w t tn ty e i zv kq kn ht h7 hi hz none 0 0 [] h8 k h0 zy zy zy zy (growslice_fits zy (by simpa using hb))
 simp only[Q9] at run;have q:k<=grownCap w k 0 e:=by simp only[grownCap,Question.cut];omega
 have h6:zv.cells.size=s:=by rw[<- h5,<- h4];simp
 have e1:([]:List Value).toArray++Builtin.zeroCells zv.cells k=((Builtin.zeroCells zv.cells k).toList).toArray:=by
  apply Array.ext';simp
 rw[e1] at run;refine Ht m aB aC (e:={ s:=s,rows:=List.replicate k (z.map .sc),ro:=0 }) (hf _ _ run) rfl rfl rfl rfl (UJ.1 h1) (Qk _) hn.wide ?_ (λ i j hi hj=>?_) _ (by simp[AW]) (λ j x hj hx=>?_) λ M' h9=>?_
 .simp only[UL,Ue,hn.size]
  omega
 .obtain ⟨u,hu,ho,ha⟩:=hn.cells hi hj
  refine⟨u,?_,ho,ha⟩;rw[Ui]
  .simpa using hu
  .simp only[Ue,hn.size]
   exact FA hi hj
 .simp only[AW,if_neg (Ne.symm hj)] at hx
  cases hx
 .refine .rs _ _ 0 _ _ _ _ h9 (UJ.1 h1) q (λ hn=>by cases hn) λ b' hc=>?_
  obtain rfl:=Qh hc;refine⟨.inr zz,_,e,(0,0),(Array.getElem?_push_size:(w.drew.heap.push _)[w.drew.heap.size]? = _),?_⟩
  have h2:=hn.size;rw[List.length_replicate] at h2;simp only[UL,Ue,h2,size_zeroCells,h6]
  have:(grownCap w k 0 e - k)*s+k*s=grownCap w k 0 e*s:=by
   rw[<- QP];congr 1;omega
  omega
theorem JN {id bytes:Nat} {x y:AV} {h:Nat->Option AD} {K:AV->List Nat->List (Nat × Option AD)->Prop} (hx:¬ ∃ i o l c,x = .rk i o l c):aK P np id (.app s bytes) [x,y] h K = ∃ new old,Ch s h y=some new/\Dj s h new x=some old/\(old.1.length+new.length)*bytes<=140737488355328 /\
   old.1.length+new.length<=140737488355328 /\
   K (.rs id 0 (old.1.length+new.length)) (Bw x++Bw y) ((id,some { s:=s,rows:=old.1++new,ro:=old.2.1 })::old.2.2):=by
 cases x with
 | rk i o l c=>exact absurd ⟨_,_,_,_,rfl⟩ hx
 | _=>rfl
variable (tm:∀ i,Aj T w M (st.get i) (a.tmps.getD i undef)) (m:Bp np T0 M0 w0 aA st.hp T M w) (aB:∀ k,k<8->¬ aA (idb+k)) (aC:np<=idb)
include tm m aB aC
theorem nI (o:Oper) (c:Call) (h:o.op = .call c) (hb:c.callee = .builtin .append):BG P np T0 M0 w0 aA st T M a w idb o:=by
 intro K hk;simp only[BD,h,hb] at hk;split at hk
 case h_2=>exact False.elim hk
 rename_i t u x y ht hx;have a5:c.argTypes = #[t,u]:=by rw[<- QW (xs:=c.argTypes),ht]
 have a6:c.args = #[x,y]:=by rw[<- QW (xs:=c.args),hx]
 have run:∀ v v',a.eval x=v->a.eval y=v' -> ∀ r w1,(Builtin.append_ #[t,u] o.type #[v,v']).run P w = .ok r w1->(execOp a.eval o).run P w = .ok (.value r) w1:=by
  rintro v v' rfl rfl r w1 hr
  simp[execOp,h,resolve,hb,invoke,builtin,a5,a6,hr]
 have hr:=Bn tm x;have hd:=Bn tm y;split at hk
 case h_4=>exact False.elim hk
 case h_3 =>
  rename_i e kn hu h4;split at hk
  case h_2=>exact False.elim hk
  rename_i z s b hz hs he;split at hk
  case isFalse=>exact False.elim hk
  rename_i hw;obtain⟨i,zv,hi,h6,h7,h5,hc⟩:=Hi hz;have h2:i.size=s:=by simpa [CZ,hi] using hs
  have h8:i.bytes=b:=by simpa [H3,hi] using he
  simp only[List.map] at hk;generalize hX:(AU x).ev st.get=X at *;generalize hY:(AU y).ev st.get=Y at *
  by_cases a2:X = .nilS
  .subst a2
   cases Y<;>(try (simp only[AV.nilS,aK] at hk;done))
   rename_i q
   cases q<;>(try (simp only[AV.nilS,aK] at hk;done))
   rename_i kq n;simp only[AV.nilS,aK] at hk;obtain⟨hy,h0,h9,h1,hk⟩:=hk;have h3:=Cu hd rfl;have a7:=Cu hr rfl;have hn:Value.int kq n = .int kq (n.toNat:Int):=by congr 1;omega
   rw[hn] at h3;exact⟨_,_,_,hk,iU (f:=execOp a.eval o) (ty:=o.type) m aB aC hu h4 hi h6 hc h7 hy h2 hw zy (by rw[h8];exact h9) h1 (run _ _ a7 h3)⟩
  cases X<;>(try (simp only[aK] at hk;done))
  case sc v0 =>
   exfalso
   cases v0<;>(try (simp only[aK] at hk;done))
   rename_i ad l cc
   cases ad<;>cases l<;>cases cc<;>(try (simp only[aK] at hk;done))
   exact a2 rfl
  rename_i id off len c'
  cases Y<;>(try (simp only[aK] at hk;done))
  rename_i q
  cases q<;>(try (simp only[aK] at hk;done))
  rename_i kq n;simp only[aK] at hk;obtain⟨en,hj,hm,hy,ho,h0,a0,h9,h1,hk⟩:=hk;have h3:=Cu hd rfl;have hn:Value.int kq n = .int kq (n.toNat:Int):=by congr 1;omega
  rw[hn] at h3;exact⟨_,_,_,hk,fJ (f:=execOp a.eval o) (ty:=o.type) m aB aC hr hj hm ho hu h4 hi h6 hc h7 hy h2 hw zy a0 (by rw[h8];exact h9) h1 (run _ _ rfl h3)⟩
 .rename_i e e' hu h4
  split at hk
  case h_2=>exact False.elim hk
  rename_i s b hs he;split at hk
  case isFalse=>exact False.elim hk
  rename_i hz;obtain⟨z,a1⟩:=Option.isSome_iff_exists.1 hz.1;obtain⟨i,zv,hi,h6,h7,h5,hc⟩:=Hi a1;have h2:i.size=s:=by simpa [CZ,hi] using hs
  have h8:i.bytes=b:=by simpa [H3,hi] using he
  simp only[List.map] at hk;generalize hX:(AU x).ev st.get=X at *
  by_cases a3:∃ i o l c,X = .rk i o l c
  .obtain ⟨id,off,len,c',rfl⟩:=a3
   simp only[aK] at hk;obtain⟨new,en,hf,hj,hm,ho,a8,h9,h1,hk⟩:=hk;obtain⟨ad,cap,us,h3,a4,ha,hq,hv⟩:=Hq m.hs hd hf
   by_cases hg:len+new.length<=c'
   .rw [if_pos hg] at hk
    exact⟨_,_,_,hk,dE (f:=execOp a.eval o) m hr hj hm ho a8 hu hi h2 ha (by rw[h2];exact Oc h4 ha rfl hq hv hz.2) hg (run _ _ rfl h3)⟩
   .rw [if_neg hg] at hk
    exact⟨_,_,_,hk,sM (f:=execOp a.eval o) m aB aC hr hj hm ho hu hi h6 (by rw[<- h7] at h5;simp at h5;omega) h2 ha (by rw[h2];exact Oc h4 ha rfl hq hv hz.2) zy (by rw[h8];exact h9) h1 (run _ _ rfl h3)⟩
  rw[JN a3] at hk;obtain⟨new,old,hf,hh,h9,h1,hk⟩:=hk;obtain⟨ad,cap,us,h3,a4,ha,hq,hv⟩:=Hq m.hs hd hf;refine⟨_,_,_,hk,XG (f:=execOp a.eval o) m aB aC hr hh hu hi h6 (by rw[<- h7] at h5;simp at h5;omega) h2 (UJ.1 hz.2) ha (by rw[h2];exact Oc h4 ha rfl hq hv hz.2) (by rw[h8];exact h9) h1 (run _ _ rfl h3)⟩
 .rename_i e hu h4
  split at hk
  case h_2=>exact False.elim hk
  rename_i hs he;split at hk
  case isFalse=>exact False.elim hk
  rename_i hz;obtain⟨z,a1⟩:=Option.isSome_iff_exists.1 hz;obtain⟨i,zv,hi,h6,h7,h5,hc⟩:=Hi a1;have h2:i.size=1:=by simpa [CZ,hi] using hs
  have h8:i.bytes=1:=by simpa [H3,hi] using he
  simp only[List.map] at hk;generalize hY:(AU y).ev st.get=Y at *
  cases Y<;>(try (simp only[aK] at hk;done))
  rename_i q
  cases q<;>(try (simp only[aK] at hk;done))
  rename_i bs;simp only[aK] at hk;obtain⟨old,hh,h1,hk⟩:=hk;have h3:=Cu hd rfl;have hl:=OG bs;have:=XG (f:=execOp a.eval o) (ty:=o.type) m aB aC hr hh hu hi h6 (by rw[<- h7] at h5;simp at h5;omega) h2 (U0 0) (uH bs) (by rw[h2,hl];exact Src.ofString w h4 bs) (by rw[h8,hl];omega) zy (run _ _ rfl h3)
  rw[hl] at this;exact⟨_,_,_,hk,this⟩
omit aB aC in
theorem ZM (o:Oper) (c:Call) (h:o.op = .call c) (hb:c.callee = .builtin .copy):BG P np T0 M0 w0 aA st T M a w idb o:=by
 intro K hk;simp only[BD,h,hb] at hk;split at hk
 case h_2=>exact False.elim hk
 rename_i t ts x y ht hx;have hw:c.args = #[x,y]:=by rw[<- QW (xs:=c.args),hx]
 have hy:c.argTypes[0]? = some t:=by rw[<- Array.getElem?_toList,ht];rfl
 split at hk
 case h_2=>exact False.elim hk
 rename_i e hu;split at hk
 case h_2=>exact False.elim hk
 rename_i s hs
 have h8:(sizeOf e).run P w = .ok s w:=by
  simp only[CZ,Qy] at hs;obtain⟨i,hi,hs⟩:=hs;simp[sizeOf,typeInfo,hi,hs]
 have hr:=Bn tm x;have a3:=Bn tm y;simp only[List.map] at hk;generalize hv:a.eval x=v at *;generalize (AU x).ev st.get=X at *;generalize a0:a.eval y=v' at *;generalize (AU y).ev st.get=Y at *
 by_cases ag:∃ i o l c,X = .rk i o l c
 .obtain ⟨id,off,len,cq,rfl⟩:=ag
  simp only[aK] at hk;obtain⟨en,new,mm,he,h0,a4,ai,am,h9,hk⟩:=hk;obtain⟨b',cp',rfl⟩:=WJ a3 am;obtain⟨n,hn⟩:=AJ (min mm len);rw[<- hn] at hk h9;obtain⟨ad,cap,us,b3,an,h5,a5,a6⟩:=Hq m.hs (fU a3 am (show n<=mm by omega)) h9
  injection b3 with q1 q2 q3;subst q1 q3
  have hf:(Builtin.firstCells s n (.slice b' mm cp')).run P w = .ok us.toArray w:=by
   cases b' with
   | none=>rw[run_firstCells_none,a5 rfl]
   | some x=>exact run_firstCells_some w _ _ _ _ _ _ (by rw[h5.size,<- q2]) (λ j u hj=>a6 x rfl j u hj)
  have b4:=hr.rk_rs;have b5:∃ ad' ,v = .slice ad' len cq:=by cases hr;exact⟨_,rfl⟩
  obtain⟨ad',rfl⟩:=b5;have c2:len<=cq:=by cases hr;assumption
  have hh:Nat.min mm len=n:=hn.symm;refine⟨_,_,_,hk,Ra m b4 he h0 a4 ai q2.symm zy h5 (val:=.int .i64 n) (.sc _ _ rfl) λ w1 h1=>?_⟩
  cases ad' with
  | none =>
    simp at h1;subst h1;simp[execOp,h,resolve,hb,invoke,builtin,Builtin.copy_,hw,hy,hv,a0,CV hu,h8,Builtin.lenOf,hh,hf,goInt]
  | some x =>
    simp only at h1;simp[execOp,h,resolve,hb,invoke,builtin,Builtin.copy_,hw,hy,hv,a0,CV hu,h8,Builtin.lenOf,hh,hf,goInt,h1]
 cases X<;>(try (simp only[aK] at hk;done))<;>(try (exact absurd ⟨_,_,_,_,rfl⟩ ag))
 rename_i id off len;simp only[aK] at hk;obtain⟨en,new,he,h0,a4,bt,h9,hk⟩:=hk;obtain⟨ad,cap,us,rfl,an,h5,a5,a6⟩:=Hq m.hs a3 h9;obtain⟨n,hn⟩:=AJ (min new.length len);have b6:n<=new.length:=zy
 have c3:n<=len:=zy
 rw[<- hn] at hk;have hc:(new.take n).length=n:=zw
 have hd:CM T w M s (new.take n) (us.take (n*s)):=by
  have c4:n*s<=new.length*s:=QE _ b6;have b7:(us.take (n*s)).length=n*s:=by rw[QC,h5.size];omega
  refine⟨by rw[b7,hc],λ r hr=>h5.wide r (QM hr),λ u hu=>h5.one u (QM hu),λ i j hi hj=>?_⟩
  rw[hc] at hi;have h1:=FA hi hj;have e1:(new.take n).getD i []=new.getD i []:=by simp[List.getD,hi]
  have e2:(us.take (n*s)).getD (i*s+j) undef=us.getD (i*s+j) undef:=by simp[List.getD,h1]
  rw[e1,e2];exact h5.cell i j zy hj
 have hf:(Builtin.firstCells s n (.slice ad new.length cap)).run P w = .ok (us.take (n*s)).toArray w:=by
  cases ad with
  | none=>rw[run_firstCells_none,a5 rfl];simp
  | some x=>exact run_firstCells_some w _ _ _ _ _ _ (by rw[hd.size,hc]) (λ j u hj=>a6 x rfl j u (by
    rw[Uu] at hj;split at hj
    .exact hj
    .cases hj))
 have hh:Nat.min new.length len=n:=hn.symm
 cases hr with
 | rs _ _ _ _ cap' ad' g hg hz hl b8 b9 =>
   obtain⟨g',bb,ent⟩:=m.hs.ent id en he;obtain rfl:=Qh (hg.symm.trans bb)
   have run:∀ w1,(match ad' with | some x=>storeCells x (us.take (n*s)) | none=>pure ()).run P w = .ok () w1->(execOp a.eval o).run P w = .ok (.value (.int .i64 n)) w1:=by
    intro w1 h1
    cases ad' with
    | none =>
      simp at h1;subst h1;simp[execOp,h,resolve,hb,invoke,builtin,Builtin.copy_,hw,hy,hv,a0,CV hu,h8,Builtin.lenOf,hh,hf,goInt]
    | some x =>
      simp only at h1;simp[execOp,h,resolve,hb,invoke,builtin,Builtin.copy_,hw,hy,hv,a0,CV hu,h8,Builtin.lenOf,hh,hf,goInt,h1]
   have hS:g.s=s:=ent.s.trans h0
   cases h4:g.blk with
   | none =>
     have bo:=ent.none h4;have hz:=b8 h4;have a1:n=0:=zy
     refine⟨_,_,_,hk,?_⟩;have e0:en.rows.take off++new.take n++en.rows.drop (off+n)=en.rows:=by rw[bo,a1];simp
     have hm:us.take (n*s)=[]:=by rw[a1];simp
     rw[run w (by rw[hm];cases ad'<;>rfl),e0]
     have bp:(st.upd [(id,some { en with rows:=en.rows })]).hp=st.hp:=by
      funext j
      rw[St.hp_upd];simp only[AW];split
      .rename_i e;subst e;exact he.symm
      .rfl
     rw[bp];exact⟨T,M,m.wider (λ _ h=>.inl h),Ax.refl _ _,λ _ _ h=>h,.sc _ _ rfl⟩
   | some b =>
     obtain⟨ha,c1,t1,f1,c5,c0⟩:=b9 b h4;obtain⟨cells,tyc,h6,hT,aq,bs⟩:=ent.blk (ent.s ▸ hz) b h4;rw[h0] at aq hT;have au:(off+n)*s<=en.rows.length*s:=QE _ zy
     have av:g.base+off*s+(us.take (n*s)).length<=cells.size:=by
      rw[hd.size,hc];rw[QP] at au;omega
     obtain⟨s1,s2⟩:=Md cells (g.base+off*s) (us.take (n*s)) av;have hst:=run_storeCells_at P b (g.base+off*s) tyc (us.take (n*s)) 0 cells w h6 (by simpa using av) hd.one
     simp only[Uj] at hst
     have a2:(match ad' with | some x=>storeCells x (us.take (n*s)) | none=>pure ()).run P w = .ok () (w.setRow b (cells.toList.take (g.base+off*s)++us.take (n*s)++cells.toList.drop (g.base+off*s+(us.take (n*s)).length)).toArray):=by
      rcases ha with ha | ha
      .have a1:n=0:=zy
       have hm:us.take (n*s)=[]:=by rw[a1];simp
       rw[hm];simp only[QU,UN,Uj,QQ,QW];rw[setRow_self w b cells tyc (0,0) h6]
       cases ad'<;>rfl
      .rw [hS] at ha
       subst ha;exact hst
     have b0:=run _ a2;generalize (cells.toList.take (g.base+off*s)++us.take (n*s)++cells.toList.drop (g.base+off*s+(us.take (n*s)).length)).toArray=cells' at *;rw[hd.size,hc] at s2;have h7:(en.rows.take off++new.take n++en.rows.drop (off+n)).length=en.rows.length:=zw
     obtain⟨M',m1,m2,m3,m4⟩:=m.write (id':=id) (g':=g) (e:={ en with rows:=en.rows.take off++new.take n++en.rows.drop (off+n) }) (cells':=cells') he hg h4 h6 s1 (λ q hq=>by
       rw[s2,if_neg];have:en.ro*s<=off*s:=QE _ a4;omega) (.inl ⟨rfl,rfl⟩) h4 ent.s (ent.s ▸ hz) (by simp only;rw[h7];exact ent.ro) (λ r hr=>by
       simp only[Qm] at hr;rcases hr with (hr | hr) | hr
       .exact ent.wide (ent.s ▸ hz) r (QM hr)
       .simp only;rw[h0];exact hd.wide r hr
       .exact ent.wide (ent.s ▸ hz) r (Uw hr)) (by simp only;rw[h0];exact hT) (by simp only;rw[h7,h0];exact aq) (λ i' j' hi' a7=>by
       simp only[h7] at hi';simp only[h0] at a7;simp only[h0,s2]
       by_cases b1:off<=i'/\i'<off+n
       .have h1:(i' - off)*s+j'<n*s:=FA zy a7
        have h2:i'*s=off*s+(i' - off)*s:=by rw[<- QP];congr 1;omega
        rw[if_pos zy]
        obtain⟨u,hu,ho,a8⟩:=hd.cells (i:=i' - off) (j:=j') (by rw[hc];omega) a7
        refine⟨u,by rw[<- hu];congr 1;omega,ho,?_⟩
        have e1:(en.rows.take off++new.take n++en.rows.drop (off+n)).getD i' []=(new.take n).getD (i' - off) []:=by
         simp only[List.getD];rw[Qq,Qr zw,QG zw]
         congr 2
         simp;omega
        rw[e1];exact a8
       .obtain ⟨u,hu,ho,a8⟩:=bs i' j' hi' zy
        rw[h0] at hu
        have h3:¬ (g.base+off*s<=g.base+i'*s+j'/\g.base+i'*s+j'<g.base+off*s+n*s):=by
         intro q;apply b1;constructor
         .rcases Ub i' off with h | h
          .have:(i'+1)*s<=off*s:=QE _ h
           rw[QP] at this;omega
          .exact h
         .rcases Ub i' (off+n) with h | h
          .exact h
          .have:(off+n)*s<=i'*s:=QE _ h
           rw[QP] at this;omega
        rw[if_neg h3];refine⟨u,hu,ho,?_⟩
        have e1:(en.rows.take off++new.take n++en.rows.drop (off+n)).getD i' []=en.rows.getD i' []:=by
         simp only[List.getD];rcases Ub i' off with h | h
         .rw [Qq,QG zw,Uu,if_pos h]
         .rw [Qr zw,Ud]
          congr 2
          simp;omega
        rw[e1]
        exact a8)
      (hp':=(st.upd [(id,some { en with rows:=en.rows.take off++new.take n++en.rows.drop (off+n) })]).hp) (by rw[St.hp_upd];simp[AW]) (λ i' e' b2 a9=>by
       rw[St.hp_upd] at a9;simp only[AW,if_neg (Ne.symm b2)] at a9
       exact⟨b2,a9⟩)
     refine⟨_,_,_,hk,?_⟩;rw[b0];refine⟨T,M',m3.wider λ i' hi'=>?_,m4,m2,.sc _ _ rfl⟩;rcases hi' with hi' | hi'
     .exact .inl hi'
     .subst hi';exact .inl (m.dom _ _ hg)
omit aB aC in
theorem oC (o:Oper) (c:Call) (h:o.op = .call c) (hb:c.callee = .builtin .clear):BG P np T0 M0 w0 aA st T M a w idb o:=by
 intro K hk;simp only[BD,h,hb] at hk;split at hk
 case h_2=>exact False.elim hk
 rename_i t x ht hx;have h8:c.args = #[x]:=by rw[<- QW (xs:=c.args),hx]
 have h9:c.argTypes = #[t]:=by rw[<- QW (xs:=c.argTypes),ht]
 split at hk
 case h_2=>exact False.elim hk
 rename_i e hu;split at hk
 case h_2=>exact False.elim hk
 rename_i z s hz hs;obtain⟨i,zv,hi,ha,h6,hy,h3⟩:=Hi hz;have a0:i.size=s:=by simpa [CZ,hi] using hs
 have hr:=Bn tm x;simp only[List.map] at hk;generalize hv:a.eval x=v at *;generalize (AU x).ev st.get=X at *
 have key:∃ id off len en,Aj T w M (.rs id off len) v/\st.hp id=some en/\en.s=s/\z.length=s/\en.ro<=off/\off+len<=en.rows.length/\K .dead [id] [(id,some { en with rows:=en.rows.take off++List.replicate len (z.map .sc)++en.rows.drop (off+len) })]:=by
  cases X<;>(try (simp only[aK] at hk;done))
  .simp only[aK] at hk
   obtain⟨en,hk⟩:=hk;exact⟨_,_,_,en,hr,hk⟩
  .simp only[aK] at hk
   obtain⟨en,hk⟩:=hk;exact⟨_,_,_,en,hr.rk_rs,hk⟩
 clear hk hr
 obtain⟨id,off,len,en,hr,hc,hd,h2,he,hw,hk⟩:=key;refine⟨_,_,_,hk,?_⟩;have a1:zv.cells.size=s:=by rw[<- h2,<- h6];simp
 have hf:∃ ad' cap',v = .slice ad' len cap'/\len<=cap':=by cases hr;exact⟨_,_,rfl,by assumption⟩
 obtain⟨ad',cap',rfl,hg⟩:=hf
 have hh:CM T w M s (List.replicate len (z.map .sc)) (Builtin.zeroCells zv.cells len).toList:=by
  have hl:zv.cells=z.toArray:=by rw[<- h6,QW]
  have h4:Builtin.zeroCells zv.cells len=(Array.range (len*z.toArray.size)).map λ i=>z.toArray[i % z.toArray.size]!:=by rw[Builtin.zeroCells,hl]
  have h5:=MK (T:=T) (w:=w) (M:=M) h3 h2 len (Builtin.zeroCells zv.cells len) _ h4 (by simp[h2])
  refine⟨by rw[h4];simp[h2],λ r hr=>by rw[List.eq_of_mem_replicate hr];simpa using h2,λ u hu=>?_,λ i j hi hj=>?_⟩
  .rw [h4] at hu
   simp only[Array.mem_toList_iff,Array.mem_map,Array.mem_range] at hu;obtain⟨q,hq,rfl⟩:=hu;simp only[Ue] at hq ⊢
   have h7:0<z.length:=by
    rcases UF z.length with h0 | h0
    .rw [h0] at hq;simp at hq
    .exact h0
   have hm:=Nat.mod_lt q h7;have e1:z.toArray[q % z.length]! = z[q % z.length]:=by simp[hm]
   rw[e1];exact h3 _ (Qi _)
  .obtain ⟨u,hu,_,hn⟩:=h5 i j hi hj
   have e1:(Builtin.zeroCells zv.cells len).toList.getD (i*s+j) undef=u:=by simp[List.getD,hu]
   rw[e1];exact hn
 refine Ra m hr hc hd he zy zz hg hh (val:=.tuple #[]) (.dead _ _) λ w1 h1=>?_
 have h5:(zeroValue e).run P w = .ok zv w:=by simp[zeroValue,typeInfo,hi,ha]
 have ho:(Builtin.clear_ #[t] o.type #[.slice ad' len cap']).run P w = .ok (.tuple #[]) w1:=by
  cases ad' with
  | none =>
    simp at h1;subst h1;simp[Builtin.clear_,CV hu]
  | some ad =>
    cases len with
    | zero =>
      simp[Builtin.zeroCells,storeCells] at h1;subst h1;simp[Builtin.clear_,CV hu]
    | succ l=>simp[Builtin.clear_,CV hu,h5,h1]
 simp[execOp,h,resolve,hb,invoke,builtin,h8,h9,hv,ho]
end
variable {T:Nat->Nat} {w:World}
theorem GQ (f:AV->AV) (hf:f .dead = .dead) (l:List AV) (i:Nat):(l.map f).getD i .dead=f (l.getD i .dead):=by
 simp only[List.getD,QB]
 cases l[i]? with
 | none=>simp[hf]
 | some x=>rfl
theorem GL (ρ:List (Nat × Nat)) (sn:List Nat) (h:Nat->Option AD) (n:Nat):conv ρ sn h n .dead = .dead:=by cases n<;>rfl
theorem Wk.rep {x y:AV} (h:Wk x y):∀ {M:GM} {v:Value},Aj T w M x v->Aj T w M y v:=by
 induction h with
 | refl x=>exact λ h=>h
 | dead x=>exact λ _=>.dead _ _
 | nil s f =>
   intro M v hr
   cases hr;exact .vs _ s f [] none 0 (λ _ _=>undef) (λ _=>rfl) (Qf _) zz (λ h=>absurd rfl h) (λ i j hi=>absurd hi zz) (λ i j hi=>absurd hi zz)
 | mt s c a =>
   intro M v hr
   cases hr;exact .vs _ s false [] a c (λ _ _=>undef) (λ e=>by cases e) (Qk _) zz (λ h=>absurd rfl h) (λ i j hi=>absurd hi zz) (λ i j hi=>absurd hi zz)
 | full s rows =>
   intro M v hr
   cases hr with
   | vs _ _ _ _ a cap c hf q hw hb h1 hh=>exact .vs _ _ _ _ a cap c (λ e=>by cases e) q hw hb h1 hh
 | rows s f xs ys hl hw _ ih =>
   intro M v hr
   cases hr with
   | vs _ _ _ _ a cap c hf q h3 hb h1 hh =>
     have hy:∀ row∈ys,row.length=s:=λ row h0=>by
      obtain⟨i,hi,rfl⟩:=Qt.1 h0;have e1:xs.getD i []=xs[i]' zy:=by simp[List.getD,show i<xs.length by omega]
      have e2:ys.getD i []=ys[i]:=by simp[List.getD,hi]
      have:=hw i;rw[e1,e2] at this;rw[<- this];exact h3 _ (Qi _)
     refine hl ▸ .vs _ s f ys a cap c (λ e=>(hf e).trans hl) (hl ▸ q) hy (λ h4=>?_) (λ i j hi hj=>h1 i j zy hj) λ i j hi hj=>ih i j (hh i j zy hj)
     have h2:xs≠[]:=λ e=>h4 (Qx (by rw[<- hl,e];rfl))
     obtain⟨b,off,cells,ty,fz,q1,q2,q3,q4⟩:=hb h2;exact⟨b,off,cells,ty,fz,q1,q2,by rw[<- hl];exact q3,λ i j hi hj=>q4 i j zy hj⟩
 | pv xs ys hl _ ih =>
   intro M v hr
   cases hr with
   | pv _ _ b off cells ty fz c hb ht hc h1 hh=>exact .pv _ ys b off cells ty fz c hb (hl ▸ ht) (λ j hj=>hc j zy) (λ j hj=>h1 j zy) λ j hj=>ih j (hh j zy)
 | agg xs ys hl _ ih =>
   intro M v hr
   cases hr with
   | agg _ _ us u h1 hh=>exact .agg _ _ _ (u.trans hl) (λ i hi=>h1 i (hl ▸ hi)) λ i hi=>ih i (hh i (hl ▸ hi))
 | tup xs ys hl _ ih =>
   intro M v hr
   cases hr with
   | tup _ _ us u hh=>exact .tup _ _ _ (u.trans hl) λ i hi=>ih i (hh i (hl ▸ hi))
theorem DG.length:∀ {xs ys:List AV},DG xs ys->xs.length=ys.length
 | [],[],_=>rfl
 | _::_,_::_,h=>by simp[DG.length h.2]
 | [],_::_,h=>False.elim h
 | _::_,[],h=>False.elim h
theorem DG.get:∀ {xs ys:List AV},DG xs ys -> ∀ i:Nat,i<xs.length->Wk (xs.getD i .dead) (ys.getD i .dead)
 | x::xs,y::ys,h,0,_=>h.1
 | x::xs,y::ys,h,i+1,hi=>by simpa using DG.get h.2 i (by simpa using hi)
 | [],[],_,i,hi=>absurd hi zz
 | [],_::_,h,_,_=>False.elim h
 | _::_,[],h,_,_=>False.elim h
theorem OW {M:GM} {hp:Nat->Option AD} (hs:Dl T w M hp) (tok:Gy T w) (sn:List Nat) :
  ∃ T1:Nat->Nat,(∀ b,T b<=T1 b)/\Gy T1 w/\(∀ i∈sn,∀ e g b,hp i=some e->M i=some g->g.blk=some b->T1 b=g.base+e.rows.length*e.s) /\
    (∀ b,(∀ i∈sn,∀ e g,hp i=some e->M i=some g->g.blk≠some b)->T1 b=T b):=by
 classical
 let p:Nat->Nat × AD × GE->Prop:=λ b x=>x.1∈sn/\hp x.1=some x.2.1/\M x.1=some x.2.2/\x.2.2.blk=some b
 let T1:Nat->Nat:=λ b=>if h:∃ x,p b x then (Classical.choose h).2.2.base+(Classical.choose h).2.1.rows.length*(Classical.choose h).2.1.s else T b
 have key:∀ b x,p b x->T1 b=x.2.2.base+x.2.1.rows.length*x.2.1.s:=by
  intro b x hx;have q:∃ x,p b x:=⟨x,hx⟩;have hc:=Classical.choose_spec q;have h1:T1 b=(Classical.choose q).2.2.base+(Classical.choose q).2.1.rows.length*(Classical.choose q).2.1.s:=dif_pos q;rw[h1];have e1:=hs.inj _ _ _ _ _ _ b hc.2.1 hx.2.1 hc.2.2.1 hx.2.2.1 hc.2.2.2 hx.2.2.2;have e2:(Classical.choose q).2.1=x.2.1:=Qh (hc.2.1.symm.trans (by rw[e1];exact hx.2.1))
  have e3:(Classical.choose q).2.2=x.2.2:=Qh (hc.2.2.1.symm.trans (by rw[e1];exact hx.2.2.1))
  rw[e2,e3]
 refine⟨T1,λ b=>?_,λ b hb=>?_,λ i hi e g b h1 h2 h3=>key b (i,e,g) ⟨hi,h1,h2,h3⟩,λ b hb=>?_⟩
 .by_cases h:∃ x,p b x
  .obtain ⟨x,hx⟩:=h
   rw[key b x hx];obtain⟨g,hg,ent⟩:=hs.ent _ _ hx.2.1;obtain rfl:=Qh (hx.2.2.1.symm.trans hg)
   by_cases hz:x.2.1.s=0
   .obtain ⟨b',es,clock,u,h1,h2,h5,h4⟩:=ent.mp hz
    obtain rfl:=Qh (u.symm.trans hx.2.2.2);omega
   obtain⟨cells,ty,h1,h2,h3,h4⟩:=ent.blk hz b hx.2.2.2;have:=QE x.2.1.s ent.ro;omega
  .have:T1 b=T b:=dif_neg h
   omega
 .by_cases h:∃ x,p b x
  .obtain ⟨x,hx⟩:=h
   rw[key b x hx];obtain⟨g,hg,ent⟩:=hs.ent _ _ hx.2.1;obtain rfl:=Qh (hx.2.2.1.symm.trans hg)
   by_cases hz:x.2.1.s=0
   .obtain ⟨b',es,clock,u,h1,h2,h5,h4⟩:=ent.mp hz
    rw[key b x hx,hz,h5] at hb;omega
   obtain⟨cells,ty,h1,h2,h3,h4⟩:=ent.blk hz b hx.2.2.2;exact⟨cells,ty,_,h1,h3⟩
  .have e:T1 b=T b:=dif_neg h
   rw[e] at hb ⊢;exact tok b hb
 .refine dif_neg ?_
  rintro⟨x,hx⟩
  exact hb x.1 hx.1 x.2.1 x.2.2 hx.2.1 hx.2.2.1 hx.2.2.2
theorem KV {T T1:Nat->Nat} {w:World} {M:GM} {hp:Nat->Option AD} (hs:Dl T w M hp) (sn:List Nat) (hv:∀ b,T b<=T1 b) (a0:∀ i∈sn,∀ e g b,hp i=some e->M i=some g->g.blk=some b->T1 b=g.base+e.rows.length*e.s) :
  ∀ (n:Nat) (ρ:List (Nat × Nat)) (Mc:GM) (x:AV) (v:Value),(∀ id k,AW ρ id=some k->Mc k=M id)->Aj T w M x v->Aj T1 w Mc (conv ρ sn hp n x) v
 | 0,_,_,_,_,_,_=>.dead _ _
 | n+1,ρ,Mc,x,v,hρ,hr=>by
   have ih:=KV hs sn hv a0 n;have pr:Ax T w T1 w:=⟨hv,λ b cells ty fz h=>⟨cells,fz,h,rfl,λ _ _=>rfl⟩⟩;have inner:=λ (y:AV) (u:Value) (h:Aj T w M y u)=>ih [] (λ _=>none) y u (λ id k h=>by cases h) h
   cases hr with
   | dead=>exact .dead _ _
   | sc _ _ h1=>exact .sc _ _ h1
   | agg _ cs us hl h1 hh =>
     refine .agg _ _ _ (by simpa using hl) (λ i hi=>h1 i (by simpa using hi)) λ i hi=>?_
     rw[GQ _ (GL _ _ _ _)];exact ih ρ Mc _ _ hρ (hh i (by simpa using hi))
   | tup _ cs us hl hh =>
     refine .tup _ _ _ (by simpa using hl) λ i hi=>?_
     rw[GQ _ (GL _ _ _ _)];exact ih ρ Mc _ _ hρ (hh i (by simpa using hi))
   | vs _ s full rows a cap c hf hl hw hb h1 hh =>
     refine .vs _ s full rows a cap c hf hl hw (λ h8=>?_) h1 λ i j hi hj=>(hh i j hi hj).mono pr λ _ _ e=>e;obtain⟨b,off,cells,ty,fz,ha,a1,hT,hc⟩:=hb h8;exact⟨b,off,cells,ty,fz,ha,a1,QR hT (hv b),hc⟩
   | pv _ cs b off cells ty fz c hb ht hc h1 hh=>exact .pv _ cs b off cells ty fz c hb (QR ht (hv b)) hc h1 λ j hj=>(hh j hj).mono pr λ _ _ e=>e
   | fn _ f xs ys us vs hx hy hh a6 =>
     refine .fn _ f _ _ _ _ (by simpa using hx) (by simpa using hy) (λ i hi=>?_) λ i hi=>?_
     .rw [GQ _ (GL _ _ _ _)]
      exact ih ρ Mc _ _ hρ (hh i (by simpa using hi))
     .rw [GQ _ (GL _ _ _ _)]
      exact ih ρ Mc _ _ hρ (a6 i (by simpa using hi))
   | ifc _ t x v hh=>exact .ifc _ _ _ _ (ih ρ Mc _ _ hρ hh)
   | mp _ id g b hg hz hb =>
     show Aj T1 w Mc (match AW ρ id with | some k=>AV.mp k | none=>AV.dead) _
     split
     .rename_i k hk
      exact .mp _ k g b ((hρ id k hk).trans hg) hz hb
     .exact .dead _ _
   | pt _ id i j g b hg hz hb =>
     show Aj T1 w Mc (match AW ρ id with | some k=>AV.pt k i j | none=>if id∈sn then (match hp id with | some e=>(match e.rows[i]? with | some row=>if j<=row.length then AV.pv ((row.drop j).map (conv [] sn hp n)) else AV.dead | none=>AV.dead) | none=>AV.dead) else AV.dead) _
     split
     .rename_i k hk
      exact .pt _ k i j g b ((hρ id k hk).trans hg) hz hb
     .split
      case isFalse=>exact .dead _ _
      rename_i hd;split
      case h_2=>exact .dead _ _
      rename_i e he;split
      case h_2=>exact .dead _ _
      rename_i row h7;split
      case isFalse=>exact .dead _ _
      rename_i a9;obtain⟨g',hm,ent⟩:=hs.ent id e he;obtain rfl:=Qh (hg.symm.trans hm);obtain⟨cells,ty,h1,h2,h3,h4⟩:=ent.blk (ent.s ▸ hz) b hb;have hi:i<e.rows.length:=(Qz.1 h7).1;have a8:=ent.wide (ent.s ▸ hz) row (Um h7);have a7:e.rows.getD i []=row:=by simp[List.getD,h7]
      have hS:=ent.s
      have h0:∀ j',j'<((row.drop j).map (conv [] sn hp n)).length -> ∃ u,cells[g.base+i*g.s+j+j']? = some u/\u.oneCell'=true/\Aj T w M (row.getD (j+j') .dead) u:=by
       intro j' h9;simp only[Qs,QY] at h9;obtain⟨u,hu,ho,h6⟩:=h4 i (j+j') hi zy
       rw[a7] at h6;exact⟨u,by rw[hS,Uy];exact hu,ho,h6⟩
      have a4:∀ j',j'<((row.drop j).map (conv [] sn hp n)).length->cells[g.base+i*g.s+j+j']? = some (cells.getD (g.base+i*g.s+j+j') undef):=λ j' h9=>by
       obtain⟨u,hu,_⟩:=h0 j' h9;rw[FO hu];exact hu
      refine .pv _ _ b (g.base+i*g.s+j) cells ty (0,0) (λ j'=>cells.getD (g.base+i*g.s+j+j') undef) h1 ?_ a4 (λ j' h9=>?_) λ j' h9=>?_
      .rw [a0 id hd e g b he hg hb]
       simp only[Qs,QY];have:(i+1)*e.s<=e.rows.length*e.s:=QE _ hi;rw[QP] at this;rw[hS];omega
      .obtain ⟨u,hu,ho,_⟩:=h0 j' h9
       rw[FO hu];exact ho
      .obtain ⟨u,hu,_,h6⟩:=h0 j' h9
       rw[FO hu,GQ _ (GL _ _ _ _)];have:(row.drop j).getD j' .dead=row.getD (j+j') .dead:=by simp[List.getD]
       rw[this];exact inner _ _ h6
   | rs _ id off len cap a g hg hz hl hn hb =>
     show Aj T1 w Mc (match AW ρ id with | some k=>AV.rs k off len | none=>if id∈sn then (match hp id with | some e=>if off+len<=e.rows.length then AV.vs e.s false (((e.rows.drop off).take len).map (·.map (conv [] sn hp n))) else AV.dead | none=>AV.dead) else AV.dead) _
     split
     .rename_i k hk
      exact .rs _ k off len cap a g ((hρ id k hk).trans hg) hz hl hn hb
     .split
      case isFalse=>exact .dead _ _
      rename_i hd;split
      case h_2=>exact .dead _ _
      rename_i e he;split
      case isFalse=>exact .dead _ _
      rename_i hq;obtain⟨g',hm,ent⟩:=hs.ent id e he;obtain rfl:=Qh (hg.symm.trans hm);have q:(((e.rows.drop off).take len).map (·.map (conv [] sn hp n))).length=len:=zw
      have hS:=ent.s
      have h7:∀ i,i<len->(((e.rows.drop off).take len).map (·.map (conv [] sn hp n))).getD i []=(e.rows.getD (off+i) []).map (conv [] sn hp n):=by
       intro i hi;simp only[List.getD,QB,Uu,Ud,if_pos hi]
       cases e.rows[off+i]?<;>rfl
      suffices hS:Aj T1 w Mc (.vs e.s false (((e.rows.drop off).take len).map (·.map (conv [] sn hp n)))) (.slice a (((e.rows.drop off).take len).map (·.map (conv [] sn hp n))).length cap) by
       rwa [q] at hS
      cases h5:g.blk with
      | none =>
        have hz:=hn h5;refine .vs _ _ _ _ a cap (λ _ _=>undef) (λ e=>by cases e) (by rw[q];exact hl) (λ r hr=>?_) (λ h8=>?_) (λ i j hi=>?_) (λ i j hi=>?_)
        .have:len=0:=zy
         subst this;simp at hr
        .have:len=0:=zy
         subst this;simp at h8
        all_goals (rw[q] at hi;omega)
      | some b =>
        obtain⟨ha,c1,t1,f1,a1,a2⟩:=hb b h5;obtain⟨cells,ty,h1,h2,h3,h4⟩:=ent.blk (ent.s ▸ hz) b h5
        have h0:∀ i j,i<len->j<e.s -> ∃ u,cells[g.base+off*g.s+i*e.s+j]? = some u/\u.oneCell'=true/\Aj T w M ((e.rows.getD (off+i) []).getD j .dead) u:=by
         intro i j hi hj;obtain⟨u,hu,ho,h6⟩:=h4 (off+i) j zy hj
         refine⟨u,?_,ho,h6⟩;rw[<- hu,hS,QP]
         congr 1
         omega
        refine .vs _ _ _ _ a cap (λ i j=>cells.getD (g.base+off*g.s+i*e.s+j) undef) (λ e=>by cases e) (by rw[q];exact hl) (λ r hr=>?_) (λ h8=>?_) (λ i j hi hj=>?_) (λ i j hi hj=>?_)
        .obtain ⟨r0,a3,rfl⟩:=Ql.1 hr
         rw[Qs];exact ent.wide (ent.s ▸ hz) r0 (Uw (QM a3))
        .have a5:0<len:=by rw[<- q];exact Uv.2 h8
         refine⟨b,g.base+off*g.s,cells,ty,(0,0),?_,h1,?_,λ i j hi hj=>?_⟩
         .rcases ha with ha | ha
          .omega
          .exact ha
         .rw [q,a0 id hd e g b he hg h5,hS]
          have:(off+len)*e.s<=e.rows.length*e.s:=QE _ hq;rw[QP] at this;omega
         .rw [q] at hi
          obtain⟨u,hu,_⟩:=h0 i j hi hj;rw[FO hu];exact hu
        .rw [q] at hi
         obtain⟨u,hu,ho,_⟩:=h0 i j hi hj;rw[FO hu];exact ho
        .rw [q] at hi
         obtain⟨u,hu,_,h6⟩:=h0 i j hi hj;rw[FO hu,h7 i hi,GQ _ (GL _ _ _ _)];exact inner _ _ h6
   | rk _ id off len cap a g hg hz hl hn hb =>
     show Aj T1 w Mc (match AW ρ id with | some k=>AV.rs k off len | none=>if id∈sn then (match hp id with | some e=>if off+len<=e.rows.length then AV.vs e.s false (((e.rows.drop off).take len).map (·.map (conv [] sn hp n))) else AV.dead | none=>AV.dead) else AV.dead) _
     split
     .rename_i k hk
      exact .rs _ k off len cap a g ((hρ id k hk).trans hg) hz hl hn hb
     .split
      case isFalse=>exact .dead _ _
      rename_i hd;split
      case h_2=>exact .dead _ _
      rename_i e he;split
      case isFalse=>exact .dead _ _
      rename_i hq;obtain⟨g',hm,ent⟩:=hs.ent id e he;obtain rfl:=Qh (hg.symm.trans hm);have q:(((e.rows.drop off).take len).map (·.map (conv [] sn hp n))).length=len:=zw
      have hS:=ent.s
      have h7:∀ i,i<len->(((e.rows.drop off).take len).map (·.map (conv [] sn hp n))).getD i []=(e.rows.getD (off+i) []).map (conv [] sn hp n):=by
       intro i hi;simp only[List.getD,QB,Uu,Ud,if_pos hi]
       cases e.rows[off+i]?<;>rfl
      suffices hS:Aj T1 w Mc (.vs e.s false (((e.rows.drop off).take len).map (·.map (conv [] sn hp n)))) (.slice a (((e.rows.drop off).take len).map (·.map (conv [] sn hp n))).length cap) by
       rwa [q] at hS
      cases h5:g.blk with
      | none =>
        have hz:=hn h5;refine .vs _ _ _ _ a cap (λ _ _=>undef) (λ e=>by cases e) (by rw[q];exact hl) (λ r hr=>?_) (λ h8=>?_) (λ i j hi=>?_) (λ i j hi=>?_)
        .have:len=0:=zy
         subst this;simp at hr
        .have:len=0:=zy
         subst this;simp at h8
        all_goals (rw[q] at hi;omega)
      | some b =>
        obtain⟨ha,c1,t1,f1,a1,a2⟩:=hb b h5;obtain⟨cells,ty,h1,h2,h3,h4⟩:=ent.blk (ent.s ▸ hz) b h5
        have h0:∀ i j,i<len->j<e.s -> ∃ u,cells[g.base+off*g.s+i*e.s+j]? = some u/\u.oneCell'=true/\Aj T w M ((e.rows.getD (off+i) []).getD j .dead) u:=by
         intro i j hi hj;obtain⟨u,hu,ho,h6⟩:=h4 (off+i) j zy hj
         refine⟨u,?_,ho,h6⟩;rw[<- hu,hS,QP]
         congr 1
         omega
        refine .vs _ _ _ _ a cap (λ i j=>cells.getD (g.base+off*g.s+i*e.s+j) undef) (λ e=>by cases e) (by rw[q];exact hl) (λ r hr=>?_) (λ h8=>?_) (λ i j hi hj=>?_) (λ i j hi hj=>?_)
        .obtain ⟨r0,a3,rfl⟩:=Ql.1 hr
         rw[Qs];exact ent.wide (ent.s ▸ hz) r0 (Uw (QM a3))
        .have a5:0<len:=by rw[<- q];exact Uv.2 h8
         refine⟨b,g.base+off*g.s,cells,ty,(0,0),?_,h1,?_,λ i j hi hj=>?_⟩
         .rcases ha with ha | ha
          .omega
          .exact ha
         .rw [q,a0 id hd e g b he hg h5,hS]
          have:(off+len)*e.s<=e.rows.length*e.s:=QE _ hq;rw[QP] at this;omega
         .rw [q] at hi
          obtain⟨u,hu,_⟩:=h0 i j hi hj;rw[FO hu];exact hu
        .rw [q] at hi
         obtain⟨u,hu,ho,_⟩:=h0 i j hi hj;rw[FO hu];exact ho
        .rw [q] at hi
         obtain⟨u,hu,_,h6⟩:=h0 i j hi hj;rw[FO hu,h7 i hi,GQ _ (GL _ _ _ _)];exact inner _ _ h6
end Go.Proofs.YtkabgnlcllmleaaGreat
