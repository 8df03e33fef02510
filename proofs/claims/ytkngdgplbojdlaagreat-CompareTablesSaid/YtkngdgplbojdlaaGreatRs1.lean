/- Texts of this claim,merged. -/
import Derived.Orders
import Derived.Below
import Derived.Laws.Sem
import Derived.Laws.CopyRow
import Derived.Laws.MakeOwn
import Derived.Deep.Upon
import Derived.Deep.LoopGhost
import Derived.Laws.StructEq
import Derived.Laws.Cover3
import Derived.ChangeKeysEq
import Derived.Laws.Tables
import Derived.Lib.AppendZerosOnto
set_option linter.unusedSimpArgs false
set_option linter.unusedVariables false
set_option linter.unusedSectionVars false
set_option maxRecDepth 100000
set_option maxHeartbeats 8000000
noncomputable section
namespace Go.Proofs.YtkngdgplbojdlaaGreat
open Go
theorem AB {α β γ:Type} (f:β->γ) (g:α->β):f∘g=λ x => f (g x) := (rfl)
theorem Qa:type_of% @decide_eq_false_iff_not:=@decide_eq_false_iff_not
theorem Qb:type_of% @List.take_of_length_le:=@List.take_of_length_le
theorem Qc:type_of% @List.getElem?_eq_getElem:=@List.getElem?_eq_getElem
theorem Qd:type_of% @decide_eq_true_eq:=@decide_eq_true_eq
theorem Qe:type_of% @List.getD_eq_getElem?_getD:=@List.getD_eq_getElem?_getD
theorem Qf:type_of% @Option.some.inj:=@Option.some.inj
theorem Qg:type_of% @List.length_append:=@List.length_append
theorem Qh:type_of% @Nat.zero_le:=@Nat.zero_le
theorem Qi:type_of% @List.mem_map:=@List.mem_map
theorem Qj:type_of% @List.getElem_mem:=@List.getElem_mem
theorem Qk:type_of% @Nat.le_refl:=@Nat.le_refl
theorem Ql:type_of% @List.mem_cons_of_mem:=@List.mem_cons_of_mem
theorem Qm:type_of% @List.take_succ_eq_append_getElem:=@List.take_succ_eq_append_getElem
theorem Qn:type_of% @List.mem_cons_self:=@List.mem_cons_self
theorem Qo:type_of% @List.map_cons:=@List.map_cons
theorem Qp:type_of% @Bool.eq_iff_iff:=@Bool.eq_iff_iff
theorem Qq:type_of% @List.mem_append:=@List.mem_append
theorem Qr:type_of% @List.length_map:=@List.length_map
theorem Qs:type_of% @List.mem_cons:=@List.mem_cons
theorem Qt:type_of% @Option.some.injEq:=@Option.some.injEq
theorem Qu:type_of% @List.append_assoc:=@List.append_assoc
theorem Qv:type_of% @List.getElem?_append_right:=@List.getElem?_append_right
theorem Qw:type_of% @Option.map_eq_some_iff:=@Option.map_eq_some_iff
theorem Qx:type_of% @List.mem_filter:=@List.mem_filter
theorem Qy:type_of% @List.mem_range:=@List.mem_range
theorem Qz:type_of% @List.getElem?_eq_some_iff:=@List.getElem?_eq_some_iff
theorem QA:type_of% @List.getElem?_map:=@List.getElem?_map
theorem QB:type_of% @Option.getD_some:=@Option.getD_some
theorem QC:type_of% @List.mem_singleton:=@List.mem_singleton
theorem QD:type_of% @Nat.mul_le_mul_right:=@Nat.mul_le_mul_right
theorem QE:type_of% @Array.getD_eq_getD_getElem?:=@Array.getD_eq_getD_getElem?
theorem QF:type_of% @List.map_congr_left:=@List.map_congr_left
theorem QG:type_of% @List.mem_iff_getElem:=@List.mem_iff_getElem
theorem QH:type_of% @Nat.le_trans:=@Nat.le_trans
theorem QI:type_of% @Nat.add_mul:=@Nat.add_mul
theorem QJ:type_of% @List.getElem?_append_left:=@List.getElem?_append_left
theorem QK:type_of% @Int.fdiv_eq_ediv_of_nonneg:=@Int.fdiv_eq_ediv_of_nonneg
theorem QL:type_of% @List.eq_nil_of_length_eq_zero:=@List.eq_nil_of_length_eq_zero
theorem QM:type_of% @Bool.and_eq_true:=@Bool.and_eq_true
theorem QN:type_of% @List.length_cons:=@List.length_cons
theorem QO:type_of% @List.take_length:=@List.take_length
theorem QP:type_of% @List.drop_eq_getElem_cons:=@List.drop_eq_getElem_cons
theorem QQ:type_of% @Array.getElem?_eq_some_iff:=@Array.getElem?_eq_some_iff
theorem QR:type_of% @List.cons_append:=@List.cons_append
theorem QS:type_of% @Array.toArray_toList:=@Array.toArray_toList
theorem QT:type_of% @List.map_append:=@List.map_append
theorem QU:type_of% @List.length_filter_le:=@List.length_filter_le
theorem QV:type_of% @List.length_take:=@List.length_take
theorem QW:type_of% @List.append_nil:=@List.append_nil
theorem QX:type_of% @List.pairwise_iff_getElem:=@List.pairwise_iff_getElem
theorem QY:type_of% @Nat.lt_succ_iff_lt_or_eq:=@Nat.lt_succ_iff_lt_or_eq
theorem QZ:type_of% @List.mem_of_mem_take:=@List.mem_of_mem_take
theorem Q0:type_of% @List.mem_append_left:=@List.mem_append_left
theorem Q1:type_of% @Nat.zero_add:=@Nat.zero_add
theorem Q3:type_of% @List.length_singleton:=@List.length_singleton
theorem Q4:type_of% @List.getElem?_eq_none:=@List.getElem?_eq_none
theorem Q5:type_of% @List.nil_append:=@List.nil_append
theorem Q6:type_of% @Decidable.byContradiction:=@Decidable.byContradiction
theorem Q7:type_of% @List.nodup_cons:=@List.nodup_cons
theorem Q8:type_of% @Option.map_some:=@Option.map_some
theorem Q9:type_of% @List.getElem?_drop:=@List.getElem?_drop
theorem Ua:type_of% @Nat.add_zero:=@Nat.add_zero
theorem Ub:type_of% @List.not_mem_nil:=@List.not_mem_nil
theorem Uc:type_of% @Array.getElem?_append_left:=@Array.getElem?_append_left
theorem Ud:type_of% @Bool.false_eq_true:=@Bool.false_eq_true
theorem Ue:type_of% @List.size_toArray:=@List.size_toArray
theorem Uf:type_of% @Nat.mod_lt:=@Nat.mod_lt
theorem Ug:type_of% @List.filter_append:=@List.filter_append
theorem Uh:type_of% @List.nodup_append:=@List.nodup_append
theorem Ui:type_of% @List.any_eq_true:=@List.any_eq_true
theorem Uj:type_of% @List.mem_of_getElem?:=@List.mem_of_getElem?
theorem Uk:type_of% @List.range_succ:=@List.range_succ
theorem Ul:type_of% @Option.bind_eq_some_iff:=@Option.bind_eq_some_iff
theorem Um:type_of% @Nat.lt_or_ge:=@Nat.lt_or_ge
theorem Un:type_of% @Nat.eq_zero_or_pos:=@Nat.eq_zero_or_pos
theorem Uo:type_of% @Array.length_toList:=@Array.length_toList
theorem Uq:type_of% @List.getElem_of_mem:=@List.getElem_of_mem
theorem Ur:type_of% @List.length_set:=@List.length_set
theorem Us:type_of% @List.drop_eq_nil_of_le:=@List.drop_eq_nil_of_le
theorem Ut:type_of% @List.take_append_of_le_length:=@List.take_append_of_le_length
theorem Uu:type_of% @Int.toNat_natCast:=@Int.toNat_natCast
theorem Uv:type_of% @List.contains_iff_mem:=@List.contains_iff_mem
theorem Uw:type_of% @List.pairwise_cons:=@List.pairwise_cons
theorem Ux:type_of% @if_false:=@if_false
theorem Uy:type_of% @List.length_pos_iff:=@List.length_pos_iff
theorem Uz:type_of% @List.getElem_append_left:=@List.getElem_append_left
theorem UA:type_of% @List.sum_cons:=@List.sum_cons
theorem UB:type_of% @List.length_range:=@List.length_range
theorem UC:type_of% @List.getElem?_take:=@List.getElem?_take
theorem UD:type_of% @List.concat_eq_append:=@List.concat_eq_append
theorem UE:type_of% @List.map_nil:=@List.map_nil
theorem UF:type_of% @Bool.not_eq_true':=@Bool.not_eq_true'
theorem UG:type_of% @List.take_append_drop:=@List.take_append_drop
theorem UH:type_of% @List.mem_append_right:=@List.mem_append_right
theorem UI:type_of% @decide_eq_false:=@decide_eq_false
theorem UJ:type_of% @List.length_eq_zero_iff:=@List.length_eq_zero_iff
theorem UK:type_of% @decide_eq_true:=@decide_eq_true
theorem UL:type_of% @Nat.add_assoc:=@Nat.add_assoc
theorem UM:type_of% @Array.size_append:=@Array.size_append
theorem UN:type_of% @List.take_concat_get:=@List.take_concat_get
theorem UO:type_of% @Bool.or_eq_true:=@Bool.or_eq_true
theorem UP:type_of% @List.length_nil:=@List.length_nil
theorem UQ:type_of% @List.length_drop:=@List.length_drop
theorem UR:type_of% @Nat.succ_ne_zero:=@Nat.succ_ne_zero
theorem US:type_of% @List.getD_cons_zero:=@List.getD_cons_zero
theorem UT:type_of% @Nat.pos_iff_ne_zero:=@Nat.pos_iff_ne_zero
theorem UU:type_of% @List.getElem_take:=@List.getElem_take
theorem UV:type_of% @List.range_eq_range':=@List.range_eq_range'
theorem UW:type_of% @List.mem_of_mem_drop:=@List.mem_of_mem_drop
theorem UX:type_of% @Int.le_refl:=@Int.le_refl
theorem UY:type_of% @if_true:=@if_true
theorem UZ:type_of% @List.findIdx_eq_length:=@List.findIdx_eq_length
theorem U0:type_of% @List.getElem_inj:=@List.getElem_inj
theorem U1:type_of% @Array.getElem?_push:=@Array.getElem?_push
theorem U2:type_of% @List.filterMap_cons:=@List.filterMap_cons
theorem U3:type_of% @List.getElem?_set:=@List.getElem?_set
theorem U4:type_of% @List.pairwise_map:=@List.pairwise_map
theorem U5:type_of% @Nat.not_lt_zero:=@Nat.not_lt_zero
theorem U6:type_of% @Nat.mul_comm:=@Nat.mul_comm
theorem U7:type_of% @List.mem_zipIdx_iff_getElem?:=@List.mem_zipIdx_iff_getElem?
theorem U8:type_of% @List.map_set:=@List.map_set
theorem U9:type_of% @Nat.lt_of_lt_of_le:=@Nat.lt_of_lt_of_le
theorem Va:type_of% @List.length_take_le':=@List.length_take_le'
theorem Vb:type_of% @List.map_drop:=@List.map_drop
theorem Vc:type_of% @List.findIdx_le_length:=@List.findIdx_le_length
theorem Vd:type_of% @List.ext_getElem?:=@List.ext_getElem?
theorem Ve:type_of% @List.foldl_append:=@List.foldl_append
theorem Vf:type_of% @List.flatMap_cons:=@List.flatMap_cons
theorem Vg:type_of% @Int.tmod_eq_emod_of_nonneg:=@Int.tmod_eq_emod_of_nonneg
theorem Vh:type_of% @List.filter_eq_self:=@List.filter_eq_self
theorem Vi:type_of% @Nat.mod_eq_of_lt:=@Nat.mod_eq_of_lt
theorem Vj:type_of% @List.mem_filterMap:=@List.mem_filterMap
theorem Vk:type_of% @List.filter_cons:=@List.filter_cons
theorem Vl:type_of% @List.mapM_cons:=@List.mapM_cons
theorem Vm:type_of% @List.findIdx_getElem:=@List.findIdx_getElem
theorem Vn:type_of% @List.pairwise_append:=@List.pairwise_append
theorem Vo:type_of% @List.count_append:=@List.count_append
theorem Vp:type_of% @List.zipIdx_nil:=@List.zipIdx_nil
theorem Vq:type_of% @List.map_const':=@List.map_const'
theorem Vr:type_of% @Nat.mul_mod:=@Nat.mul_mod
theorem Vs:type_of% @Nat.le_of_dvd:=@Nat.le_of_dvd
theorem CL {a b:Nat} (h:Nat.ble a b=true):a<=b:=Nat.le_of_ble_eq_true h
theorem AG {α:Type} (a:α):∃ x,x=a:=⟨_,rfl⟩
inductive AV where
 | dead
 | sc (v:Value)
 | agg (cs:List AV)
 | tup (vs:List AV)
 | vs (s:Nat) (full:Bool) (rows:List (List AV))
 | rs (id off len:Nat)
 | rk (id off len cap:Nat)
 | pv (cs:List AV)
 | pt (id i j:Nat)
 | mp (id:Nat)
 | fn (f:Fn) (first capt:List AV)
 | ifc (t:TypeId) (v:AV)
 deriving Inhabited
abbrev AV.I (n:Int):AV:=.sc (.int .i64 n)
abbrev AV.B (b:Bool):AV:=.sc (.bool b)
abbrev AV.nilS:AV:=.sc (.slice none 0 0)
structure AQ where
 s:Nat
 rows:List (List AV)
 ro:Nat:=0
 deriving Inhabited
inductive EG where
 | t (i:Nat)
 | c (v:Value)
 | f (i:FuncId)
 deriving Inhabited
inductive F3 where
 | mv | pick
 | alloc (z:List Value)
 | box (s:Nat)
 | build (z:List Value) (ps:List (Nat × Nat))
 | bsl (s len:Nat) (z:List Value) (ps:List Nat)
 | ld (ag:Bool) (s:Nat)
 | st (s:Nat)
 | nil
 | bin (op:BinOp)
 | beq (neg:Bool)
 | aeq (neg:Bool) (ks:List Nat)
 | snil (neg:Bool)
 | un (op:UnOp)
 | cvt (k:IntKind)
 | b2s
 | mkf (fn:FuncId)
 | mkb (fn:FuncId)
 | mks (s bytes:Nat) (z:List Value)
 | slc (s:Nat) (lo hi mx:Bool)
 | fad (off:Nat)
 | fld (ag:Bool) (off s:Nat)
 | iad (s:Nat)
 | iaa (n s:Nat)
 | ixs
 | ixv (n:Nat)
 | ext (i:Nat)
 | call
 | app (s bytes:Nat)
 | apps
 | len | lens | cap
 | cpy (s:Nat)
 | clr (s:Nat) (z:List Value)
 | ovl (s:Nat)
 | apz (s bytes:Nat) (z:List Value)
 | mx2 | mn2
 | mkm | mlk (z:Value) (ok:Bool) | mup | mdl
 | mki (t:TypeId) | inv (tbl:List (TypeId × FuncId))
 | bad
 deriving Inhabited
structure Cp where
 dst:Option Nat
 op:F3
 xs:List EG
 guard:Option (Nat × Bool):=none
 deriving Inhabited
inductive Ey where
 | skip
 | reg (draw:Bool) (ops:List Cp) (after:List (List Nat))
 | seq (a b:Ey)
 | cond (c:EG) (a b:Ey)
 | block (id:Nat) (a:Ey)
 | loop (a:Ey)
 | exit (id:Nat)
 | ret
 | bad
 deriving Inhabited
structure D4 where
 nt:Nat
 res:List (Nat × Option (Bool × Nat))
 code:Ey
def AW {α:Type}:List (Nat × α)->Nat->Option α
 | [],_=>none
 | (i,a)::l,j=>if i=j then some a else AW l j
structure St where
 sz:Nat
 t:List (Nat × AV)
 h:List (Nat × Option AQ)
 n:Nat
def St.get (st:St) (i:Nat):AV:=(AW st.t i).getD .dead
def St.hp (st:St) (id:Nat):Option AQ:=(AW st.h id).getD none
def St.put (st:St) (d:Option Nat) (v:AV):St:=match d with | none=>st | some i=>{ st with t:=(i,v)::st.t }
def St.upd (st:St) (up:List (Nat × Option AQ)):St:={ st with h:=up++st.h }
def C3:Value->AV
 | .agg cs=>if cs.all Value.oneCell' then .agg (cs.toList.map .sc) else .dead
 | .tuple _=>.dead
 | v=>.sc v
def EG.ev (g:Nat->AV):EG->AV
 | .t i=>g i
 | .c v=>C3 v
 | .f i=>.fn (.func i) [] []
def cellsOf:AV->Option (List AV)
 | .agg cs=>some cs
 | .dead=>none
 | .tup _=>none
 | .sc (.agg _)=>none
 | .sc (.tuple _)=>none
 | x=>some [x]
def Gf (h:Nat->Option AQ):AV->Option (List AV)
 | .pv cs=>some cs
 | .pt id i j=>(h id).bind λ e=>(e.rows[i]?).map (·.drop j)
 | _=>none
def CQ:AV->List Nat
 | .pt id _ _=>[id]
 | .rs id _ _=>[id]
 | .rk id _ _ _=>[id]
 | .mp id=>[id]
 | _=>[]
def C8 (s:Nat) (h:Nat->Option AQ):AV->Option (List (List AV))
 | .vs s' _ rows=>if s'=s then some rows else none
 | .rs id off len=>(h id).bind λ e=>if e.s=s/\off+len<=e.rows.length then some ((e.rows.drop off).take len) else none
 | .rk id off len _=>(h id).bind λ e=>if e.s=s/\off+len<=e.rows.length then some ((e.rows.drop off).take len) else none
 | .sc (.slice none 0 0)=>some []
 | _=>none
def lenOf:AV->Option Nat
 | .vs _ _ rows=>some rows.length
 | .rs _ _ len=>some len
 | .rk _ _ len _=>some len
 | .sc (.slice none 0 0)=>some 0
 | _=>none
def Ec (n:Nat):AV->AV
 | .vs s _ rows=>.vs s false (rows.take n)
 | .rs id off len=>.rs id off (min n len)
 | .rk id off len cap=>.rk id off (min n len) cap
 | x=>x
def Em (s:Nat) (h:Nat->Option AQ) (new:List (List AV)):AV->Option (List (List AV) × Nat × List (Nat × Option AQ))
 | .sc (.slice none 0 0)=>some ([],0,[])
 | .vs s' true rows=>if s'=s/\(rows=[]∨new≠[]) then some (rows,0,[]) else none
 | .rs id off len=>(h id).bind λ e=>if e.s=s/\off+len<=e.rows.length/\e.ro<=off+len then some ((e.rows.drop off).take len,e.ro - off,[(id,none)]) else none
 | _=>none
def AH (op:BinOp):Value->Value->Option Value
 | .int k a,.int k' b =>
   match op with
   | .shl=>if 0<=b then some (.int k (k.wrap (a*2 ^ (min b.toNat k.bits)))) else none
   | .shr=>if 0<=b then some (.int k (a.fdiv (2 ^ (min b.toNat k.bits)))) else none
   | op=>if k=k' then
     match op with
     | .add=>some (.int k (k.wrap (a+b)))
     | .sub=>some (.int k (k.wrap (a - b)))
     | .mul=>some (.int k (k.wrap (a*b)))
     | .quo=>if b=0 then none else some (.int k (k.wrap (a.tdiv b)))
     | .rem=>if b=0 then none else some (.int k (a.tmod b))
     | .and=>some (.int k (k.wrap (BitVec.ofInt k.bits a &&& BitVec.ofInt k.bits b).toNat))
     | .or=>some (.int k (k.wrap (BitVec.ofInt k.bits a ||| BitVec.ofInt k.bits b).toNat))
     | .xor=>some (.int k (k.wrap (BitVec.ofInt k.bits a ^^^ BitVec.ofInt k.bits b).toNat))
     | .andNot=>some (.int k (k.wrap (BitVec.ofInt k.bits a &&& ~~~ BitVec.ofInt k.bits b).toNat))
     | .eql=>some (.bool (a == b))
     | .neq=>some (.bool (a != b))
     | .lss=>some (.bool (decide (a<b)))
     | .leq=>some (.bool (decide (a<=b)))
     | .gtr=>some (.bool (decide (a > b)))
     | .geq=>some (.bool (decide (a≥b)))
     | _=>none
     else none
 | .string a,.string b =>
   match op with
   | .eql=>some (.bool (a.toList == b.toList))
   | .neq=>some (.bool !(a.toList == b.toList))
   | .lss=>some (.bool (Op.bytesLess a.toList b.toList))
   | .leq=>some (.bool (Op.bytesLess a.toList b.toList || a.toList == b.toList))
   | .gtr=>some (.bool !(Op.bytesLess a.toList b.toList || a.toList == b.toList))
   | .geq=>some (.bool !(Op.bytesLess a.toList b.toList))
   | _=>none
 | _,_=>none
def J3 (op:UnOp):Value->Option Value
 | .int k n=>match op with | .neg=>some (.int k (k.wrap (0 - n))) | .xor=>some (.int k (k.wrap (BitVec.ofInt k.bits (if k.signed then -1 else k.max) ^^^ BitVec.ofInt k.bits n).toNat)) | _=>none
 | .bool b=>match op with | .not=>some (.bool !b) | _=>none
 | _=>none
def Dp:List Nat->List AV->List AV->Option Bool
 | [],[],[]=>some true
 | 0::ks,.sc (.int k a)::xs,.sc (.int k' b)::ys=>if k=k' then (Dp ks xs ys).map ((a == b) && ·) else none
 | 1::ks,.sc (.bool a)::xs,.sc (.bool b)::ys=>(Dp ks xs ys).map ((a == b) && ·)
 | 2::ks,.sc (.string a)::xs,.sc (.string b)::ys=>(Dp ks xs ys).map ((a.toList == b.toList) && ·)
 | _,_,_=>none
def E7 (cells:List AV):List (Nat × Nat)->List AV->Option (List AV)
 | [],[]=>some cells
 | (off,size)::ps,x::xs =>
   match cellsOf x with
   | some cs=>if cs.length=size/\off+size<=cells.length then E7 (cells.take off++cs++cells.drop (off+size)) ps xs else none
   | none=>none
 | _,_=>none
def Dn (s:Nat) (rows:List (List AV)):List Nat->List AV->Option (List (List AV))
 | [],[]=>some rows
 | i::ps,x::xs =>
   match cellsOf x with
   | some cs=>if cs.length=s/\i<rows.length then Dn s (rows.set i cs) ps xs else none
   | none=>none
 | _,_=>none
def Ay (row:List AV) (j:Nat) (cs:List AV):List AV:=row.take j++cs++row.drop (j+cs.length)
def DW (n:Int):List (List AV)->Option AV
 | [.sc (.int .i64 k),x]::l=>if n=k then some x else DW n l
 | _=>none
def Bc (n:Int) (y:AV):List (List AV)->List (List AV)
 | [.sc (.int .i64 k),x]::l=>if n=k then [.sc (.int .i64 k),y]::l else [.sc (.int .i64 k),x]::Bc n y l
 | _=>[[.sc (.int .i64 n),y]]
def Cm (n:Int):List (List AV)->List (List AV)
 | [.sc (.int .i64 k),x]::l=>if n=k then l else [.sc (.int .i64 k),x]::Cm n l
 | _=>[]
def HQ (s:ByteArray):List (List AV):=s.data.toList.map λ b=>[AV.sc (.int .u8 b.toNat)]
def Is:List (List AV)->Option (List UInt8)
 | []=>some []
 | [.sc (.int .u8 n)]::rest=>(Is rest).map (UInt8.ofNat n.toNat :: ·)
 | _=>none
def conv (ρ:List (Nat × Nat)) (sn:List Nat) (h:Nat->Option AQ):Nat->AV->AV
 | 0,_=>.dead
 | n+1,x =>
   match x with
   | .agg cs=>.agg (cs.map (conv ρ sn h n))
   | .tup cs=>.tup (cs.map (conv ρ sn h n))
   | .rs id off len =>
     match AW ρ id with
     | some k=>.rs k off len
     | none =>
       if id∈sn then
        match h id with
        | some e=>if off+len<=e.rows.length then .vs e.s false (((e.rows.drop off).take len).map (·.map (conv [] sn h n))) else .dead
        | none=>.dead
       else .dead
   | .rk id off len _ =>
     match AW ρ id with
     | some k=>.rs k off len
     | none =>
       if id∈sn then
        match h id with
        | some e=>if off+len<=e.rows.length then .vs e.s false (((e.rows.drop off).take len).map (·.map (conv [] sn h n))) else .dead
        | none=>.dead
       else .dead
   | .pt id i j =>
     match AW ρ id with
     | some k=>.pt k i j
     | none =>
       if id∈sn then
        match h id with
        | some e=>match e.rows[i]? with | some row=>if j<=row.length then .pv ((row.drop j).map (conv [] sn h n)) else .dead | none=>.dead
        | none=>.dead
       else .dead
   | .mp id =>
     match AW ρ id with
     | some k=>.mp k
     | none=>.dead
   | .fn f a b=>.fn f (a.map (conv ρ sn h n)) (b.map (conv ρ sn h n))
   | .ifc t v=>.ifc t (conv ρ sn h n v)
   | x=>x
def Ab (ρ:List (Nat × Nat)) (sn:List Nat) (h:Nat->Option AQ) (n:Nat) (e:AQ):AQ:={ e with rows:=e.rows.map (·.map (conv ρ sn h n)) }
inductive Wk:AV->AV->Prop where
 | refl (x:AV):Wk x x
 | dead (x:AV):Wk x .dead
 | nil (s:Nat) (f:Bool):Wk .nilS (.vs s f [])
 | mt (s c:Nat) (a:Option Addr):Wk (.sc (.slice a 0 c)) (.vs s false [])
 | full (s:Nat) (rows:List (List AV)):Wk (.vs s true rows) (.vs s false rows)
 | rows (s:Nat) (f:Bool) (xs ys:List (List AV)):xs.length=ys.length->(∀ i:Nat,(xs.getD i []).length=(ys.getD i []).length)->(∀ i j:Nat,Wk ((xs.getD i []).getD j .dead) ((ys.getD i []).getD j .dead))->Wk (.vs s f xs) (.vs s f ys)
 | pv (xs ys:List AV):xs.length=ys.length->(∀ i:Nat,Wk (xs.getD i .dead) (ys.getD i .dead))->Wk (.pv xs) (.pv ys)
 | agg (xs ys:List AV):xs.length=ys.length->(∀ i:Nat,Wk (xs.getD i .dead) (ys.getD i .dead))->Wk (.agg xs) (.agg ys)
 | tup (xs ys:List AV):xs.length=ys.length->(∀ i:Nat,Wk (xs.getD i .dead) (ys.getD i .dead))->Wk (.tup xs) (.tup ys)
def Ez:List AV->List AV->Prop
 | [],[]=>True
 | x::xs,y::ys=>Wk x y/\Ez xs ys
 | _,_=>False
inductive Plain:AV->Prop where
 | dead:Plain .dead
 | sc (v:Value):Plain (.sc v)
 | agg (xs:List AV):(∀ i:Nat,Plain (xs.getD i .dead))->Plain (.agg xs)
 | tup (xs:List AV):(∀ i:Nat,Plain (xs.getD i .dead))->Plain (.tup xs)
 | rs (id off len:Nat):Plain (.rs id off len)
 | pt (id i j:Nat):Plain (.pt id i j)
 | mp (id:Nat):Plain (.mp id)
def IG (e:AQ):Prop:=∀ row∈e.rows,∀ x∈row,Plain x
structure GE where
 blk:Option Nat
 base:Nat
 s:Nat
abbrev GM:=Nat->Option GE
inductive Ad (T:Nat->Nat) (w:World):GM->AV->Value->Prop where
 | dead (M:GM) (v:Value):Ad T w M .dead v
 | sc (M:GM) (v:Value) (h1:v.oneCell'=true):Ad T w M (.sc v) v
 | agg (M:GM) (cs:List AV) (vs:Array Value) (hl:vs.size=cs.length) (h1:∀ i,i<cs.length->(vs.getD i undef).oneCell'=true) (h:∀ i,i<cs.length->Ad T w M (cs.getD i .dead) (vs.getD i undef)):Ad T w M (.agg cs) (.agg vs)
 | tup (M:GM) (cs:List AV) (vs:Array Value) (hl:vs.size=cs.length) (h:∀ i,i<cs.length->Ad T w M (cs.getD i .dead) (vs.getD i undef)):Ad T w M (.tup cs) (.tuple vs)
 | vs (M:GM) (s:Nat) (full:Bool) (rows:List (List AV)) (a:Option Addr) (cap:Nat) (c:Nat->Nat->Value)
   (hf:full=true->cap=rows.length) (hl:rows.length<=cap) (hw:∀ row∈rows,row.length=s)
   (hb:rows≠[] -> ∃ b off cells ty fz,a=some ⟨b,off,none⟩/\w.heap[b]? = some (.cells cells ty fz)/\off+rows.length*s<=T b /\
    ∀ i j,i<rows.length->j<s->cells[off+i*s+j]? = some (c i j))
   (h1:∀ i j,i<rows.length->j<s->(c i j).oneCell'=true)
   (h:∀ i j,i<rows.length->j<s->Ad T w (λ _=>none) ((rows.getD i []).getD j .dead) (c i j)):Ad T w M (.vs s full rows) (.slice a rows.length cap)
 | pv (M:GM) (cs:List AV) (b off:Nat) (cells:Array Value) (ty:TypeId) (fz:Nat × Nat) (c:Nat->Value) (hb:w.heap[b]? = some (.cells cells ty fz)) (ht:off+cs.length<=T b)
   (hc:∀ j,j<cs.length->cells[off+j]? = some (c j)) (h1:∀ j,j<cs.length->(c j).oneCell'=true) (h:∀ j,j<cs.length->Ad T w (λ _=>none) (cs.getD j .dead) (c j)):Ad T w M (.pv cs) (.pointer (some ⟨b,off,none⟩))
 | rs (M:GM) (id off len cap:Nat) (a:Option Addr) (g:GE) (hg:M id=some g) (hz:g.s≠0) (hl:len<=cap) (hn:g.blk=none->off=0/\cap=0)
   (hb:∀ b,g.blk=some b->(cap=0∨a=some ⟨b,g.base+off*g.s,none⟩) /\ ∃ cells ty fz,w.heap[b]? = some (.cells cells ty fz)/\g.base+off*g.s+cap*g.s<=cells.size):Ad T w M (.rs id off len) (.slice a len cap)
 | rk (M:GM) (id off len cap:Nat) (a:Option Addr) (g:GE) (hg:M id=some g) (hz:g.s≠0) (hl:len<=cap) (hn:g.blk=none->off=0/\cap=0)
   (hb:∀ b,g.blk=some b->(cap=0∨a=some ⟨b,g.base+off*g.s,none⟩) /\ ∃ cells ty fz,w.heap[b]? = some (.cells cells ty fz)/\g.base+off*g.s+cap*g.s<=cells.size):Ad T w M (.rk id off len cap) (.slice a len cap)
 | pt (M:GM) (id i j:Nat) (g:GE) (b:Nat) (hg:M id=some g) (hz:g.s≠0) (hb:g.blk=some b):Ad T w M (.pt id i j) (.pointer (some ⟨b,g.base+i*g.s+j,none⟩))
 | mp (M:GM) (id:Nat) (g:GE) (b:Nat) (hg:M id=some g) (hz:g.s=0) (hb:g.blk=some b):Ad T w M (.mp id) (.map (some b))
 | fn (M:GM) (f:Fn) (xs ys:List AV) (us vs:Array Value) (hx:us.size=xs.length) (hy:vs.size=ys.length) (h:∀ i,i<xs.length->Ad T w M (xs.getD i .dead) (us.getD i undef))
   (h':∀ i,i<ys.length->Ad T w M (ys.getD i .dead) (vs.getD i undef)):Ad T w M (.fn f xs ys) (.func f us vs)
 | ifc (M:GM) (t:TypeId) (x:AV) (v:Value) (h:Ad T w M x v):Ad T w M (.ifc t x) (.iface t v)
def Hw (T:Nat->Nat) (w:World):Prop:=∀ b,0<T b -> ∃ cells ty fz,w.heap[b]? = some (.cells cells ty fz)/\T b<=cells.size
def Ds (T:Nat->Nat) (w:World) (M:GM):List (List AV)->List MapEntry->Prop
 | [],[]=>True
 | row::rows,e::es=>(∃ n x,row=[.sc (.int .i64 n),x]/\e.key = .int .i64 n/\Ad T w M x e.val)/\Ds T w M rows es
 | _,_=>False
structure Ir (T:Nat->Nat) (w:World) (M:GM) (e:AQ) (g:GE):Prop where
 s:g.s=e.s
 ro:e.ro<=e.rows.length
 wide:e.s≠0 -> ∀ row∈e.rows,row.length=e.s
 none:g.blk=none->e.rows=[]
 mp:e.s=0 -> ∃ b es clock,g.blk=some b/\w.heap[b]? = some (.map es clock)/\T b=0/\g.base=0/\Ds T w M e.rows es.toList
 blk:e.s≠0 -> ∀ b,g.blk=some b -> ∃ cells ty,w.heap[b]? = some (.cells cells ty (0,0))/\T b<=g.base+e.ro*e.s/\g.base+e.rows.length*e.s<=cells.size /\
  ∀ i j,i<e.rows.length->j<e.s -> ∃ v,cells[g.base+i*e.s+j]? = some v/\v.oneCell'=true/\Ad T w M ((e.rows.getD i []).getD j .dead) v
structure EN (T:Nat->Nat) (w:World) (M:GM) (hp:Nat->Option AQ):Prop where
 ent:∀ id e,hp id=some e -> ∃ g,M id=some g/\Ir T w M e g
 inj:∀ id id' e e' g g' b,hp id=some e->hp id'=some e'->M id=some g->M id'=some g'->g.blk=some b->g'.blk=some b->id=id'
structure Au (T:Nat->Nat) (w:World) (T':Nat->Nat) (w':World):Prop where
 le:∀ b,T b<=T' b
 cell:∀ b cells ty fz,w.heap[b]? = some (.cells cells ty fz) -> ∃ cells' fz',w'.heap[b]? = some (.cells cells' ty fz')/\cells'.size=cells.size /\ ∀ o,o<T b->cells'[o]? = cells[o]?
def HZ (n:Nat) (M:GM) (b:Nat):Prop:=∃ k g,k<n/\M k=some g/\g.blk=some b
structure GW (n:Nat) (T:Nat->Nat) (M:GM) (w:World) (T':Nat->Nat) (M':GM) (w':World):Prop where
 tok:Hw T' w'
 old:∀ b,b<w.heap.size->¬ HZ n M b->T' b=T b
 same:∀ k,k<n->M' k=M k
 os:w'.os=w.os
 tape:w'.tape=w.tape
 output:w'.output=w.output
 size:w.heap.size<=w'.heap.size
 keep:∀ b,b<w.heap.size->¬ HZ n M b->w'.heap[b]? = w.heap[b]?
 pres:Au T w T' w'
 new:∀ k g b,n<=k->M' k=some g->g.blk=some b->HZ n M b∨w.heap.size<=b
def GD (T:Nat->Nat) (w:World) (M:GM) (xs:List AV) (vs:Array Value):Prop:=vs.size=xs.length /\ ∀ i,i<xs.length->Ad T w M (xs.getD i .dead) (vs.getD i undef)
def Cs (hs:List AQ):Nat->Option AQ:=λ k=>hs[k]?
def Ha (hs:List (Option AQ)):Nat->Option AQ:=λ k=>hs[k]?.join
def AK (P:Program) (f:FuncId) (args:List AV) (hs:List AQ) (res:AV) (hs':List (Option AQ)):Prop :=
 (∃ fn c,P.funcs[f]? = some fn/\fn.body=some c/\fn.name ≠ "runtime.NumGoroutine")/\hs.length<=hs'.length /\
 ∀ (T:Nat->Nat) (M:GM) (w:World) (vs:Array Value),Hw T w->EN T w M (Cs hs)->(∀ k,hs.length<=k->M k=none)->GD T w M args vs ->
   Calls P f vs w λ e w'=>∃ v T' M',e = .returned v/\Ad T' w' M' res v/\EN T' w' M' (Ha hs')/\GW hs.length T M w T' M' w'
def aK (P:Program) (np id:Nat) (op:F3) (xs:List AV) (h:Nat->Option AQ) (K:AV->List Nat->List (Nat × Option AQ)->Prop):Prop :=
 match op,xs with
 | .mv,[x]=>K x [] []
 | .pick,[c,a,b]=>∃ t,c = .sc (.bool t)/\K (if t then a else b) [] []
 | .alloc z,[]=>K (.pt id 0 0) [] [(id,some { s:=z.length,rows:=[z.map .sc] })]
 | .box s,[x]=>∃ cs,cellsOf x=some cs/\cs.length=s/\K (.pt id 0 0) [] [(id,some { s:=s,rows:=[cs] })]
 | .build z ps,xs=>∃ cs,E7 (z.map .sc) ps xs=some cs/\K (.agg cs) [] []
 | .bsl s len z ps,xs=>∃ rows,Dn s (List.replicate len (z.map .sc)) ps xs=some rows/\z.length=s/\K (.rs id 0 len) [] [(id,some { s:=s,rows:=rows })]
 | .ld ag s,[x]=>∃ cs,Gf h x=some cs/\s<=cs.length/\K (if ag then .agg (cs.take s) else cs.headD .dead) (CQ x) []
 | .st s,[.pt i k j,x]=>∃ e row cs,h i=some e/\e.rows[k]? = some row/\e.ro<=k/\cellsOf x=some cs/\cs.length=s/\j+s<=row.length /\
   K .dead [i] [(i,some { e with rows:=e.rows.set k (Ay row j cs) })]
 | .nil,[x]=>(match x with | .pt _ _ _=>True | .pv _=>True | .ifc _ _=>True | _=>False)/\K x [] []
 | .bin op,[.sc a,.sc b]=>∃ v,AH op a b=some v/\K (.sc v) [] []
 | .beq neg,[.sc (.bool a),.sc (.bool b)]=>K (.sc (.bool ((a == b) != neg))) [] []
 | .aeq neg ks,[.agg xs,.agg ys]=>∃ b,Dp ks xs ys=some b/\K (.sc (.bool (b != neg))) [] []
 | .snil neg,[.vs _ _ (_::_)]=>K (.sc (.bool neg)) [] []
 | .snil neg,[.sc (.slice a _ _)]=>K (.sc (.bool (a.isNone != neg))) [] []
 | .un op,[.sc a]=>∃ v,J3 op a=some v/\K (.sc v) [] []
 | .cvt k,[.sc (.int _ n)]=>K (.sc (.int k (k.wrap n))) [] []
 | .b2s,[x]=>∃ rows bs,C8 1 h x=some rows/\Is rows=some bs/\K (.sc (.string ⟨bs.toArray⟩)) (CQ x) []
 | .mkf f,xs=>K (.fn (.func f) [] xs) [] []
 | .mkb f,xs=>K (.fn (.func f) xs []) [] []
 | .mks s bytes z,[.sc (.int _ l),.sc (.int _ c)]=>0<=l/\l<=c/\c*bytes<=140737488355328/\c<=140737488355328/\z.length=s /\
   K (.rs id 0 l.toNat) [] [(id,some { s:=s,rows:=List.replicate l.toNat (z.map .sc) })]
 | .slc s lo hi mx,x::bs =>
   ∃ l r m:Nat,∃ n,lenOf x=some n/\l<=r /\
     bs=(if lo then [AV.I l] else [])++(if hi then [AV.I r] else [])++(if mx then [AV.I m] else [])/\(lo=false->l=0)/\(hi=false->r=n)/\(mx=true->hi=true) /\
     match x with
     | .vs s' f rows=>r<=n/\(mx=true->m=r)/\s'=s/\K (.vs s (mx || (f && !hi)) ((rows.drop l).take (r - l))) [] []
     | .rs i off _=>r<=n/\mx=false/\(∃ e,h i=some e/\e.s=s)/\K (.rs i (off+l) (r - l)) [i] []
     | .rk i off _ c=>r<=m/\m<=c/\(mx=false->m=c)/\(∃ e,h i=some e/\e.s=s)/\K (.rk i (off+l) (r - l) (m - l)) [i] []
     | .sc (.slice none 0 0)=>r<=n/\(mx=true->m=r)/\K .nilS [] []
     | _=>False
 | .fad off,[.pv cs]=>off<=cs.length/\K (.pv (cs.drop off)) [] []
 | .fad off,[.pt i k j]=>K (.pt i k (j+off)) [] []
 | .fld ag off s,[.agg cs]=>off+s<=cs.length/\K (if ag then .agg ((cs.drop off).take s) else cs.getD off .dead) [] []
 | .iad s,[.vs s' _ rows,.sc (.int _ n)]=>s'=s/\0<=n /\ ∃ row,rows[n.toNat]? = some row/\K (.pv row) [] []
 | .iad s,[.rs i off len,.sc (.int _ n)]=>0<=n/\n<len/\(∃ e,h i=some e/\e.s=s)/\K (.pt i (off+n.toNat) 0) [i] []
 | .iaa l s,[.pt i k j,.sc (.int _ n)]=>0<=n/\n<l/\K (.pt i k (j+n.toNat*s)) [] []
 | .iaa l s,[.pv cs,.sc (.int _ n)]=>0<=n/\n<l/\l*s<=cs.length/\K (.pv (cs.drop (n.toNat*s))) [] []
 | .ixs,[.sc (.string b),.sc (.int _ n)]=>0<=n /\ ∃ c,b.data.toList[n.toNat]? = some c/\K (.sc (.int .u8 c.toNat)) [] []
 | .ixv l,[.agg cs,.sc (.int _ n)]=>0<=n/\n<l/\l<=cs.length/\K (cs.getD n.toNat .dead) [] []
 | .ext i,[.tup vs]=>∃ v,vs[i]? = some v/\K v [] []
 | .call,.fn (.func f) first capt::args =>
   ∃ (ids sn:List Nat) (raise:Bool) (args':List AV) (hs:List AQ) (res:AV) (hs':List (Option AQ)),
     ids.Nodup/\(∀ i∈sn,i∉ids)/\(raise=true -> ∀ i∈sn,np<=i) /\
     Ez ((first++args++capt).map (conv ids.zipIdx sn h 4)) args' /\
     ids.map (λ i=>(h i).map (Ab ids.zipIdx sn h 4))=hs.map some /\
     AK P f args' hs res hs'/\hs'.length<=hs.length+8 /\
     (raise=true∨(Plain res /\ ∀ e,some e∈hs'->IG e)) /\
     K (conv ((ids++(List.range 8).map (id + ·)).zipIdx.map λ (a,b)=>(b,a)) [] (λ _=>none) 4 res) (ids++sn)
       ((hs'.zipIdx.map λ (e,k)=>((ids++(List.range 8).map (id + ·)).getD k 0,e.map (Ab ((ids++(List.range 8).map (id + ·)).zipIdx.map λ (a,b)=>(b,a)) [] (λ _=>none) 4))) ++
        (if raise then sn.filterMap (λ i=>(h i).map λ e=>(i,some { e with ro:=e.rows.length })) else []))
 | .app s bytes,[.rk i off len c,y]=>∃ new e,C8 s h y=some new/\h i=some e/\e.s=s/\off+len<=e.rows.length/\e.ro<=off+len/\(len+new.length)*bytes<=140737488355328/\len+new.length<=140737488355328 /\
   if len+new.length<=c then K (.rk i off (len+new.length) c) (i::CQ y) [(i,some { e with rows:=e.rows.take (off+len)++new++e.rows.drop (off+len+new.length) })]
   else K (.rs id 0 (len+new.length)) (i::CQ y) [(id,some { s:=s,rows:=(e.rows.drop off).take len++new,ro:=0 })]
 | .app s bytes,[x,y]=>∃ new old,C8 s h y=some new/\Em s h new x=some old/\(old.1.length+new.length)*bytes<=140737488355328 /\
   old.1.length+new.length<=140737488355328 /\
   K (.rs id 0 (old.1.length+new.length)) (CQ x++CQ y) ((id,some { s:=s,rows:=old.1++new,ro:=old.2.1 })::old.2.2)
 | .apps,[x,.sc (.string b)]=>∃ old,Em 1 h (HQ b) x=some old/\old.1.length+b.size<=140737488355328 /\
   K (.rs id 0 (old.1.length+b.size)) (CQ x) ((id,some { s:=1,rows:=old.1++HQ b,ro:=old.2.1 })::old.2.2)
 | .apz s bytes z,[.rk i off len c,.sc (.int _ n)]=>∃ e,h i=some e/\e.s=s/\z.length=s/\off+len<=e.rows.length/\0<n/\c<len+n.toNat/\(len+n.toNat)*bytes<=140737488355328/\len+n.toNat<=140737488355328 /\
   K (.rs id 0 (len+n.toNat)) [i] [(id,some { s:=s,rows:=(e.rows.drop off).take len++List.replicate n.toNat (z.map .sc),ro:=0 })]
 | .apz s bytes z,[.sc (.slice none 0 0),.sc (.int _ n)]=>z.length=s/\0<n/\n.toNat*bytes<=140737488355328/\n.toNat<=140737488355328 /\
   K (.rs id 0 n.toNat) [] [(id,some { s:=s,rows:=List.replicate n.toNat (z.map .sc),ro:=0 })]
 | .len,[x]=>∃ n:Nat,lenOf x=some n/\K (AV.I n) [] []
 | .lens,[.sc (.string b)]=>K (AV.I b.size) [] []
 | .cap,[.rk _ _ _ c]=>K (AV.I c) [] []
 | .cap,[.sc (.slice none 0 0)]=>K (AV.I 0) [] []
 | .cpy s,[.rs i off len,y]=>∃ e new,h i=some e/\e.s=s/\e.ro<=off/\off+len<=e.rows.length/\C8 s h y=some new /\
   K (AV.I (min new.length len:Nat)) (i::CQ y) [(i,some { e with rows:=e.rows.take off++new.take (min new.length len)++e.rows.drop (off+min new.length len) })]
 | .cpy s,[.rk i off len _,y]=>∃ e new m,h i=some e/\e.s=s/\e.ro<=off/\off<=e.rows.length/\lenOf y=some m/\C8 s h (Ec (min m len) y)=some new /\
   K (AV.I (min m len:Nat)) (i::CQ y) [(i,some { e with rows:=e.rows.take off++new++e.rows.drop (off+min m len) })]
 | .clr s z,[.rk i off len _]=>∃ e,h i=some e/\e.s=s/\z.length=s/\e.ro<=off/\off+len<=e.rows.length /\
   K .dead [i] [(i,some { e with rows:=e.rows.take off++List.replicate len (z.map .sc)++e.rows.drop (off+len) })]
 | .ovl s,[.vs s' _ _,.rk i off _ _]=>∃ e,h i=some e/\s'=s/\e.s=s/\e.ro<=off/\K (.sc (.bool false)) [i] []
 | .clr s z,[.rs i off len]=>∃ e,h i=some e/\e.s=s/\z.length=s/\e.ro<=off/\off+len<=e.rows.length /\
   K .dead [i] [(i,some { e with rows:=e.rows.take off++List.replicate len (z.map .sc)++e.rows.drop (off+len) })]
 | .mx2,[.sc (.int k a),.sc (.int _ b)]=>K (.sc (.int k (if a<b then b else a))) [] []
 | .mn2,[.sc (.int k a),.sc (.int _ b)]=>K (.sc (.int k (if b<a then b else a))) [] []
 | .mki t,[x]=>K (.ifc t x) [] []
 | .inv tbl,.ifc t x::args =>
   ∃ (f:FuncId) (ids sn:List Nat) (raise:Bool) (args':List AV) (hs:List AQ) (res:AV) (hs':List (Option AQ)),
     AW tbl t=some f/\ids.Nodup/\(∀ i∈sn,i∉ids)/\(raise=true -> ∀ i∈sn,np<=i) /\
     Ez ((x::args).map (conv ids.zipIdx sn h 4)) args' /\
     ids.map (λ i=>(h i).map (Ab ids.zipIdx sn h 4))=hs.map some /\
     AK P f args' hs res hs'/\hs'.length<=hs.length+8 /\
     (raise=true∨(Plain res /\ ∀ e,some e∈hs'->IG e)) /\
     K (conv ((ids++(List.range 8).map (id + ·)).zipIdx.map λ (a,b)=>(b,a)) [] (λ _=>none) 4 res) (ids++sn)
       ((hs'.zipIdx.map λ (e,k)=>((ids++(List.range 8).map (id + ·)).getD k 0,e.map (Ab ((ids++(List.range 8).map (id + ·)).zipIdx.map λ (a,b)=>(b,a)) [] (λ _=>none) 4))) ++
        (if raise then sn.filterMap (λ i=>(h i).map λ e=>(i,some { e with ro:=e.rows.length })) else []))
 | .mkm,[]=>K (.mp id) [] [(id,some { s:=0,rows:=[] })]
 | .mlk z ok,[.mp i,.sc (.int .i64 n)]=>∃ e,h i=some e/\e.s=0/\K (if ok then .tup [(DW n e.rows).getD (C3 z),.sc (.bool (DW n e.rows).isSome)] else (DW n e.rows).getD (C3 z)) [i] []
 | .mup,[.mp i,.sc (.int .i64 n),x]=>∃ e,h i=some e/\e.s=0/\K .dead [i] [(i,some { e with rows:=Bc n x e.rows })]
 | .mdl,[.mp i,.sc (.int .i64 n)]=>∃ e,h i=some e/\e.s=0/\K (.tup []) [i] [(i,some { e with rows:=Cm n e.rows,ro:=0 })]
 | _,_=>False
def Ie:AV->Option (Option Bool)
 | .sc (.bool b)=>some (some b)
 | .tup []=>some none
 | _=>none
def CE (P:Program) (np n:Nat):Nat->List Cp->St->List (List Nat × List Nat)->(St->List (List Nat × List Nat)->Prop)->Prop
 | _,[],st,tr,K=>K st tr
 | i,o::os,st,tr,K =>
   let go:Prop:=aK P np (n+8*i) o.op (o.xs.map (·.ev st.get)) st.hp λ v rd up=>CE P np n (i+1) os ((st.put o.dst v).upd up) (tr++[(rd,up.map (·.1))]) K
   match o.guard with
   | none=>go
   | some (g,want)=>∃ b,Ie (st.get g)=some b/\if b=some want then go else CE P np n (i+1) os (st.put o.dst (.tup [])) (tr++[([],[])]) K
inductive Gm where
 | normal
 | exit (id:Nat)
 | ret
def V4 (after:List (List Nat)):List Nat :=
 after.foldl (λ acc aS=>acc++[aS.foldl (λ s a=>s ||| (2 ^ a ||| acc.getD a 0)) 0]) []
def H4 (a b:List Nat × List Nat):Bool:=a.2.any (λ i=>b.1.contains i || b.2.contains i) || a.1.any (b.2.contains ·)
def Cp.names (o:Cp):List Nat:=(o.xs.filterMap fun | .t i=>some i | _=>none)++(o.guard.map (·.1)).toList++o.dst.toList
def Gd (o o':Cp) (a b:List Nat × List Nat):Bool :=
 o.dst.all (λ d=>!o'.names.contains d) && o'.dst.all (λ d=>!o.names.contains d) && !H4 a b
def Hf (ops:List Cp) (after:List (List Nat)) (tr:List (List Nat × List Nat)):Bool :=
 after.length == ops.length && (after.zipIdx.all λ (aS,j)=>aS.all (· < j)) &&
 (List.range ops.length).all λ j=>(List.range j).all λ i=>((V4 after).getD j 0).testBit i || Gd (ops.getD i default) (ops.getD j default) (tr.getD i ([],[])) (tr.getD j ([],[]))
structure Ok (np:Nat) (T0:Nat->Nat) (M0:GM) (w0:World) (aA:Nat->Prop) (st:St) (T:Nat->Nat) (M:GM) (a:Act) (w:World):Prop where
 sz:a.tmps.size=st.sz
 df:a.defers=[]
 tm:∀ i,Ad T w M (st.get i) (a.tmps.getD i undef)
 hs:EN T w M st.hp
 dom:∀ id g,M id=some g->aA id
 after:GW np T0 M0 w0 T M w
abbrev Hm (n:Nat):Nat->Prop:=λ id=>id<n
def Le (np:Nat) (st st':St):Prop :=
 ∀ T0 M0 w0 T M a w,Ok np T0 M0 w0 (Hm st.n) st T M a w->np<=st.n -> ∃ T' M',Ok np T0 M0 w0 (Hm st'.n) st' T' M' a w/\np<=st'.n
def A2 (P:Program) (np:Nat):Ey->(Gm->St->Prop)->St->Prop
 | .skip,Q,st=>Q .normal st
 | .reg draw ops after,Q,st =>
   (ops.all λ o=>o.dst.all (· < st.sz))=true /\
   CE P np st.n 0 ops st [] λ st' tr=>(draw=true->Hf ops after tr=true)/\Q .normal { st' with n:=st.n+8*ops.length }
 | .seq a b,Q,st=>A2 P np a (λ e st'=>match e with | .normal=>∃ st2,Le np st' st2/\A2 P np b Q st2 | e=>Q e st') st
 | .cond c a b,Q,st=>∃ t,c.ev st.get = .sc (.bool t)/\if t then A2 P np a Q st else A2 P np b Q st
 | .block id a,Q,st=>A2 P np a (λ e st'=>match e with | .exit id'=>if id'=id then Q .normal st' else Q (.exit id') st' | e=>Q e st') st
 | .loop a,Q,st=>∃ I:Nat->St->Prop,(∃ st0 k,Le np st st0/\I k st0) /\
   ∀ k s,I k s->A2 P np a (λ e st'=>match e with | .normal=>∃ st2 k2,Le np st' st2/\I k2 st2/\k2<k | e=>Q e st') s
 | .exit id,Q,st=>Q (.exit id) st
 | .ret,Q,st=>Q .ret st
 | .bad,_,_=>False
def HN (af:D4) (args:List AV) (hs:List AQ):St :=
 { sz:=af.nt,t:=args.zipIdx.map (λ (a,i)=>(i,a)),h:=hs.zipIdx.map (λ (e,k)=>(k,some e)),n:=16 }
def JA (st:St) (r:Nat × Option (Bool × Nat)):Option AV :=
 match r with
 | (t,none)=>some (st.get t)
 | (t,some (ag,s))=>match Gf st.hp (st.get t) with
   | some cs=>if s<=cs.length/\(ag=true∨s=1) then some (if ag then .agg (cs.take s) else cs.headD .dead) else none
   | none=>none
def Gn (st:St):List (Nat × Option (Bool × Nat))->Option (List AV)
 | []=>some []
 | r::rs=>match JA st r,Gn st rs with
   | some v,some vs=>some (v::vs)
   | _,_=>none
def EH:List AV->AV
 | [v]=>v
 | vs=>.tup vs
def AS (rs:List (Nat × Option (Bool × Nat))) (np:Nat) (st:St) (res:AV) (hs':List (Option AQ)):Prop :=
 ∃ vs,Gn st rs=some vs /\ ∃ ex sn:List Nat,(List.range np++ex).Nodup/\(∀ i∈ex,np<=i)/\(∀ i∈sn,i∉ex/\np<=i) /\
   Wk (conv (List.range np++ex).zipIdx sn st.hp 4 (EH vs)) res /\
   (List.range np++ex).map (λ i=>(st.hp i).map (Ab (List.range np++ex).zipIdx sn st.hp 4))=hs'
def Hp (P:Program) (t:TypeId):Option (List Value) :=
 match P.info? t with
 | some i=>match i.zero with
   | some z=>if z.cells.toList.all Value.oneCell' && z.cells.size == i.size then some z.cells.toList else none
   | none=>none
 | none=>none
def Cl (P:Program) (t:TypeId):Option Nat:=(P.info? t).map (·.size)
def Ia (P:Program) (t:TypeId):Option Nat:=(P.info? t).map (·.bytes)
def E4 (P:Program) (t:TypeId):Option Bool :=
 match P.underlying t with
 | some (.struct _)=>some true
 | some (.array _ _)=>some true
 | some _=>some false
 | none=>none
def AU:Operand->EG
 | .tmp t=>.t t
 | .const v=>.c v
 | .global g=>.c (.pointer (some ⟨g,0,none⟩))
 | .func f=>.f f
def J5 (P:Program):Nat->List Field->Option (List Nat)
 | _,[]=>some []
 | i,f::fs =>
   if f.name ≠ "_" /\ f.offset=i then
    match P.underlying f.type,J5 P (i+1) fs with
    | some (.int _),some ks=>some (0::ks)
    | some .bool,some ks=>some (1::ks)
    | some .string,some ks=>some (2::ks)
    | _,_=>none
   else none
def IR (P:Program):Nat->List Field->Option (List Nat)
 | _,[]=>some []
 | i,f::fs =>
   if f.name ≠ "_" /\ f.offset=i then
    match P.underlying f.type with
    | some (.int _)=>(IR P (i+1) fs).map (0 :: ·)
    | some .bool=>(IR P (i+1) fs).map (1 :: ·)
    | some .string=>(IR P (i+1) fs).map (2 :: ·)
    | some (.struct gs)=>match J5 P 0 gs.toList,Cl P f.type with
      | some ks,some n=>if P.stoodInHeld f.type=false/\n=ks.length then (IR P (i+n) fs).map (ks ++ ·) else none
      | _,_=>none
    | _=>none
   else none
def Ml (P:Program) (t e:TypeId) (n:Nat):Option (List Nat):=match P.underlying e with
 | some .bool=>if P.eqGuardType P.depth t=false/\(P.info? e).isSome=true/\P.cellsOf e=1 then some (List.replicate n 1) else none
 | _=>none
def ME (P:Program) (t:TypeId) (fs:List Field):Option (List Nat):=if P.stoodInHeld t=false/\P.eqGuardType P.depth t=false then IR P 0 fs else none
def H9 (P:Program) (t:TypeId):Option Value :=
 match P.underlying t with
 | some (.map k v)=>match P.underlying k,P.info? v with
   | some (.int .i64),some i=>i.zero
   | _,_=>none
 | _=>none
def Mf:Operand->Bool
 | .const (.slice none 0 0)=>true
 | _=>false
def JO (P:Program) (fn:Func):Option Nat :=
 if fn.body.isNone && (fn.name != "runtime.NumGoroutine") && (fn.origin == "slices.overlaps") && (Extern.allNextRows.lookup fn.name).isNone && (Extern.allGenericRows.lookup fn.name).isNone && (Extern.allTypedRows.lookup fn.name).isNone && (Extern.allRows.lookup fn.name).isNone then
  match fn.params.toList with
  | [t,_]=>match P.underlying t with
    | some (.slice e)=>Cl P e
    | _=>none
  | _=>none
 else none
def Gs (P:Program):Operand->Option Nat
 | .func g=>match P.funcs[g]? with
   | some fn=>JO P fn
   | none=>none
 | _=>none
def LS (P:Program) (name:String) (t:TypeId):Option (TypeId × FuncId) :=
 match P.info? t,P.underlying t with
 | some i,some (.struct _)=>match i.methods.find? (·.name == name) with
   | some m=>match m.path.isEmpty,m.func with
     | true,some (f,false)=>some (t,f)
     | _,_=>none
   | none=>none
 | _,_=>none
def NQ (P:Program) (name:String):List (TypeId × FuncId):=(List.range P.types.size).filterMap (LS P name)
def BA (P:Program) (o:Oper):F3 × List EG :=
 match o.op with
 | .move x=>(.mv,[AU x])
 | .assign x=>(.mv,[AU x])
 | .pick c a b=>(.pick,[AU c,AU a,AU b])
 | .alloc e=>match Hp P e with | some (y::z)=>(.alloc (y::z),[]) | _=>(.bad,[])
 | .box e x=>match Cl P e with | some (s+1)=>(.box (s+1),[AU x]) | _=>(.bad,[])
 | .build t ps =>
   match Hp P t,P.underlying t with
   | some z,some (.struct fs) =>
     match fs.toList.mapM (λ f=>(P.info? f.type).map λ i=>(f.offset,i.size)) with
     | some places=>match ps.toList.mapM (λ p=>places[p.1]?) with
       | some pl=>(.build z pl,ps.toList.map (AU ·.2))
       | none=>(.bad,[])
     | none=>(.bad,[])
   | some z,some (.array _ e) =>
     match P.info? e with
     | some ie=>(.build z (ps.toList.map λ p=>(p.1*ie.size,ie.size)),ps.toList.map (AU ·.2))
     | none=>(.bad,[])
   | _,_=>(.bad,[])
 | .buildSlice t len ps =>
   match P.underlying t with
   | some (.slice e) =>
     match Hp P e,Cl P e with
     | some z,some s=>if len*s<=2 ^ 24/\0<s then (.bsl s len z (ps.toList.map (·.1)),ps.toList.map (AU ·.2)) else (.bad,[])
     | _,_=>(.bad,[])
   | _=>(.bad,[])
 | .load t x=>match E4 P t,Cl P t with | some ag,some s=>if ag=true∨s=1 then (.ld ag s,[AU x]) else (.bad,[]) | _,_=>(.bad,[])
 | .store t a x=>match Cl P t with | some s=>(.st s,[AU a,AU x]) | none=>(.bad,[])
 | .nilCheck x=>(.nil,[AU x])
 | .binOp op t x y _ =>
   match op,P.underlying t with
   | .eql,some .bool=>(.beq false,[AU x,AU y])
   | .neq,some .bool=>(.beq true,[AU x,AU y])
   | .eql,some (.struct fs)=>match ME P t fs.toList with | some ks=>(.aeq false ks,[AU x,AU y]) | none=>(.bad,[])
   | .neq,some (.struct fs)=>match ME P t fs.toList with | some ks=>(.aeq true ks,[AU x,AU y]) | none=>(.bad,[])
   | .eql,some (.array n e)=>match Ml P t e n with | some ks=>(.aeq false ks,[AU x,AU y]) | none=>(.bad,[])
   | .neq,some (.array n e)=>match Ml P t e n with | some ks=>(.aeq true ks,[AU x,AU y]) | none=>(.bad,[])
   | .eql,some (.slice _)=>if Mf y=true then (.snil false,[AU x]) else (.bad,[])
   | .neq,some (.slice _)=>if Mf y=true then (.snil true,[AU x]) else (.bad,[])
   | _,_=>(.bin op,[AU x,AU y])
 | .unOp op _ x=>(.un op,[AU x])
 | .convert src dst x =>
   match P.underlying src,P.underlying dst with
   | some (.int _),some (.int k)=>(.cvt k,[AU x])
   | some (.slice e),some .string=>match P.underlying e with | some (.int .u8)=>(.b2s,[AU x]) | _=>(.bad,[])
   | _,_=>(.bad,[])
 | .makeFunc (.func f) first capt=>if first.isEmpty then (.mkf f,capt.toList.map AU) else if capt.isEmpty then (.mkb f,first.toList.map AU) else (.bad,[])
 | .makeSlice t l c =>
   match P.underlying t with
   | some (.slice e) =>
     match Hp P e,Cl P e,Ia P e with
     | some z,some s,some b=>if 0<s then (.mks s b z,[AU l,AU c]) else (.bad,[])
     | _,_,_=>(.bad,[])
   | _=>(.bad,[])
 | .slice t x lo hi mx =>
   match P.underlying t with
   | some (.slice e)=>match Cl P e with
     | some s=>(.slc s lo.isSome hi.isSome mx.isSome,[AU x]++(lo.map AU).toList++(hi.map AU).toList++(mx.map AU).toList)
     | none=>(.bad,[])
   | _=>(.bad,[])
 | .fieldAddr t x f =>
   match P.underlying t with
   | some (.struct fs)=>match fs[f]? with
     | some fd=>match Cl P fd.type with | some (_+1)=>(.fad fd.offset,[AU x]) | _=>(.bad,[])
     | none=>(.bad,[])
   | _=>(.bad,[])
 | .field t x f =>
   match P.underlying t with
   | some (.struct fs)=>match fs[f]? with
     | some fd=>match E4 P fd.type,Cl P fd.type with
       | some ag,some s=>if ag=true∨s=1 then (.fld ag fd.offset s,[AU x]) else (.bad,[])
       | _,_=>(.bad,[])
     | none=>(.bad,[])
   | _=>(.bad,[])
 | .indexAddr t x i =>
   match P.underlying t with
   | some (.slice e)=>match Cl P e with | some s=>(.iad s,[AU x,AU i]) | none=>(.bad,[])
   | some (.array n e)=>match Cl P e with | some s=>(.iaa n s,[AU x,AU i]) | none=>(.bad,[])
   | _=>(.bad,[])
 | .index t x i=>match P.underlying t with | some .string=>(.ixs,[AU x,AU i]) | some (.array n e)=>(match E4 P e,Cl P e with | some false,some 1=>(.ixv n,[AU x,AU i]) | _,_=>(.bad,[])) | _=>(.bad,[])
 | .extract t i=>(.ext i,[AU t])
 | .makeInterface t x=>match P.underlying t with
   | some (.struct _)=>(.mki t,[AU x])
   | _=>(.bad,[])
 | .makeMap t none=>match H9 P t with | some _=>(.mkm,[]) | none=>(.bad,[])
 | .insert t m k v=>match H9 P t with | some _=>(.mup,[AU m,AU k,AU v]) | none=>(.bad,[])
 | .mapUpdate t m k v=>match H9 P t with | some _=>(.mup,[AU m,AU k,AU v]) | none=>(.bad,[])
 | .lookup t m k ok=>match H9 P t with | some z=>(.mlk z ok,[AU m,AU k]) | none=>(.bad,[])
 | .call c =>
   match c.callee with
   | .invoke r n=>(.inv (NQ P n),AU r::c.args.toList.map AU)
   | .value f=>match Gs P f with
     | none=>(.call,AU f::c.args.toList.map AU)
     | some s=>(.ovl s,c.args.toList.map AU)
   | .builtin .append =>
     match c.argTypes.toList,c.args.toList with
     | [t,u],[x,y] =>
       match P.underlying t,P.underlying u with
       | some (.slice e),some (.slice _)=>match Cl P e,Ia P e with | some s,some b=>if (Hp P e).isSome/\0<s then (.app s b,[AU x,AU y]) else (.bad,[]) | _,_=>(.bad,[])
       | some (.slice e),some .string=>match Cl P e,Ia P e with | some 1,some 1=>if (Hp P e).isSome then (.apps,[AU x,AU y]) else (.bad,[]) | _,_=>(.bad,[])
       | some (.slice e),some (.int _)=>match Hp P e,Cl P e,Ia P e with | some z,some s,some b=>if 0<s then (.apz s b z,[AU x,AU y]) else (.bad,[]) | _,_,_=>(.bad,[])
       | _,_=>(.bad,[])
     | _,_=>(.bad,[])
   | .builtin .len =>
     match c.argTypes.toList,c.args.toList with
     | [t],[x]=>match P.underlying t with
       | some (.slice _)=>(.len,[AU x])
       | some .string=>(.lens,[AU x])
       | _=>(.bad,[])
     | _,_=>(.bad,[])
   | .builtin .cap =>
     match c.argTypes.toList,c.args.toList with
     | [t],[x]=>match P.underlying t with
       | some (.slice _)=>(.cap,[AU x])
       | _=>(.bad,[])
     | _,_=>(.bad,[])
   | .builtin .copy =>
     match c.argTypes.toList,c.args.toList with
     | t::_,[x,y]=>match P.underlying t with
       | some (.slice e)=>match Cl P e with | some s=>(.cpy s,[AU x,AU y]) | none=>(.bad,[])
       | _=>(.bad,[])
     | _,_=>(.bad,[])
   | .builtin .clear =>
     match c.argTypes.toList,c.args.toList with
     | [t],[x]=>match P.underlying t with
       | some (.slice e)=>match Hp P e,Cl P e with | some z,some s=>(.clr s z,[AU x]) | _,_=>(.bad,[])
       | _=>(.bad,[])
     | _,_=>(.bad,[])
   | .builtin .delete =>
     match c.argTypes.toList,c.args.toList with
     | t::_,[x,y]=>match H9 P t with | some _=>(.mdl,[AU x,AU y]) | none=>(.bad,[])
     | _,_=>(.bad,[])
   | .builtin .max=>match c.args.toList with | [x,y]=>(.mx2,[AU x,AU y]) | _=>(.bad,[])
   | .builtin .min=>match c.args.toList with | [x,y]=>(.mn2,[AU x,AU y]) | _=>(.bad,[])
   | _=>(.bad,[])
 | _=>(.bad,[])
def B5 (P:Program) (ops:Array Oper) (o:Oper):Cp :=
 let (op,xs):=BA P o
 match o.guard with
 | none=>{ dst:=o.dst,op:=op,xs:=xs }
 | some (j,want)=>match (ops[j]?).bind (·.dst) with
   | some d=>{ dst:=o.dst,op:=op,xs:=xs,guard:=some (d,want) }
   | none=>{ dst:=o.dst,op:=.bad,xs:=[] }
def comp (P:Program):Code->Ey
 | .skip=>.skip
 | .region _ ops draw=>.reg draw (ops.toList.map (B5 P ops)) (if draw then ops.toList.map λ o=>(o.after.toList.filter (Region.binds .any)).map (·.on) else [])
 | .seq a b=>.seq (comp P a) (comp P b)
 | .cond c a b=>.cond (AU c) (comp P a) (comp P b)
 | .block id a=>.block id (comp P a)
 | .loop a=>.loop (comp P a)
 | .exit id=>.exit id
 | .ret=>.ret
 | .scope a=>comp P a
 | .label _=>.skip
 | _=>.bad
def IK (P:Program) (r:ResultVar):Nat × Option (Bool × Nat) :=
 match r with
 | .tmp t=>(t,none)
 | .cell a t=>match E4 P t,Cl P t with | some ag,some s=>(a,some (ag,s)) | _,_=>(a,some (false,0))
def Jg (P:Program) (fn:Func):Option D4 :=
 match fn.body with
 | some c=>some { nt:=fn.ntmps,res:=fn.results.toList.map (IK P),code:=comp P c }
 | none=>none
variable {M:GM} {T:Nat->Nat} {v:Value} {w:World} {x:AV} {α:Type}
theorem Au.refl (T:Nat->Nat) (w:World):Au T w T w:=⟨λ _=>Qk _,λ _ cells _ fz h=>⟨cells,fz,h,rfl,λ _ _=>rfl⟩⟩
theorem Au.trans {T w T1 w1 T2 w2} (a:Au T w T1 w1) (b:Au T1 w1 T2 w2):Au T w T2 w2:=by
 refine⟨λ x=>QH (a.le x) (b.le x),λ x cells ty fz h=>?_⟩;obtain⟨c1,f1,h1,s1,e1⟩:=a.cell x cells ty fz h;obtain⟨c2,f2,h2,s2,e2⟩:=b.cell x c1 ty f1 h1;exact⟨c2,f2,h2,s2.trans s1,λ o ho=>(e2 o (U9 ho (a.le x))).trans (e1 o ho)⟩
theorem FY {n s i j:Nat} (hi:i<n) (hj:j<s):i*s+j<n*s:=by
 have h:(i+1)*s<=n*s:=QD _ hi;rw[QI] at h;omega
theorem Ad.mono (h:Ad T w M x v) :
  ∀ {T':Nat->Nat} {w':World} {M':GM},Au T w T' w'->(∀ id g,M id=some g->M' id=some g)->Ad T' w' M' x v:=by
 induction h with
 | dead M v=>intro T' w' M' _ _;exact .dead _ _
 | sc M v h=>intro T' w' M' _ _;exact .sc _ _ h
 | agg M cs vs hl h1 h ih=>intro T' w' M' p m;exact .agg _ _ _ hl h1 λ i hi=>ih i hi p m
 | tup M cs vs hl h ih=>intro T' w' M' p m;exact .tup _ _ _ hl λ i hi=>ih i hi p m
 | vs M s full rows a cap c hf h4 hw hb h1 h ih =>
   intro T' w' M' p m;refine .vs _ s full rows a cap c hf h4 hw (λ h5=>?_) h1 λ i j hi hj=>ih i j hi hj p λ _ _ e=>e;obtain⟨b,off,cells,ty,fz,ha,hw,hT,hc⟩:=hb h5;obtain⟨c',f',h1,h2,h3⟩:=p.cell b cells ty fz hw;refine⟨b,off,c',ty,f',ha,h1,QH hT (p.le b),λ i j hi hj=>?_⟩;rw[h3 _ (by have:=FY hi hj;omega)]
   exact hc i j hi hj
 | pv M cs b off cells ty fz c hb ht hc h1 h ih =>
   intro T' w' M' p m;obtain⟨c',f',e1,e2,e3⟩:=p.cell b cells ty fz hb;exact .pv _ cs b off c' ty f' c e1 (QH ht (p.le b)) (λ j hj=>by rw[e3 _ (by omega)];exact hc j hj) h1 λ j hj=>ih j hj p λ _ _ e=>e
 | rs M id off len cap a g hg hz hl hn hb =>
   intro T' w' M' p m;refine .rs _ id off len cap a g (m _ _ hg) hz hl hn λ b h0=>?_;obtain⟨ha,cells,ty,fz,hw,hs⟩:=hb b h0;obtain⟨c',f',e1,e2,e3⟩:=p.cell b cells ty fz hw;exact⟨ha,c',ty,f',e1,by omega⟩
 | rk M id off len cap a g hg hz hl hn hb =>
   intro T' w' M' p m;refine .rk _ id off len cap a g (m _ _ hg) hz hl hn λ b h0=>?_;obtain⟨ha,cells,ty,fz,hw,hs⟩:=hb b h0;obtain⟨c',f',e1,e2,e3⟩:=p.cell b cells ty fz hw;exact⟨ha,c',ty,f',e1,by omega⟩
 | pt M id i j g b hg hz hb=>intro T' w' M' _ m;exact .pt _ id i j g b (m _ _ hg) hz hb
 | mp M id g b hg hz hb=>intro T' w' M' _ m;exact .mp _ id g b (m _ _ hg) hz hb
 | fn M f xs ys us vs hx hy h h' ih ih'=>intro T' w' M' p m;exact .fn _ f xs ys us vs hx hy (λ i hi=>ih i hi p m) λ i hi=>ih' i hi p m
 | ifc M t x v h ih=>intro T' w' M' p m;exact .ifc _ t x v (ih p m)
theorem Ad.plain (h:Ad T w M x v) (hp:Plain x):∀ (T':Nat->Nat),Ad T' w M x v:=by
 induction hp generalizing v with
 | dead=>intro T';exact .dead _ _
 | sc u=>intro T';cases h with | sc _ _ h=>exact .sc _ _ h
 | agg xs _ ih=>intro T';cases h with | agg _ _ vs hl h1 h=>exact .agg _ _ _ hl h1 λ i hi=>ih i (h i hi) T'
 | tup xs _ ih=>intro T';cases h with | tup _ _ vs hl h=>exact .tup _ _ _ hl λ i hi=>ih i (h i hi) T'
 | rs id off len=>intro T';cases h with | rs _ _ _ _ cap a g hg hz hl hn hb=>exact .rs _ _ _ _ _ _ g hg hz hl hn hb
 | pt id i j=>intro T';cases h with | pt _ _ _ _ g b hg hz hb=>exact .pt _ _ _ _ g b hg hz hb
 | mp id=>intro T';cases h with | mp _ _ g b hg hz hb=>exact .mp _ _ g b hg hz hb
theorem Ad.rk_rs {id off len cap:Nat} (h:Ad T w M (.rk id off len cap) v):Ad T w M (.rs id off len) v:=by
 cases h with | rk _ _ _ _ _ a g hg hz hl hn hb=>exact .rs _ _ _ _ _ _ g hg hz hl hn hb
theorem ztJ (i j:Nat) (a:α) (l:List (Nat × α)):AW ((i,a)::l) j=if i=j then some a else AW l j:=rfl
theorem LX (l l':List (Nat × α)) (j:Nat):AW (l++l') j=(AW l j).or (AW l' j):=by
 induction l with
 | nil=>rfl
 | cons p l ih =>
   obtain⟨i,a⟩:=p;simp only[QR,ztJ];split<;>simp[ih]
theorem St.get_put (st:St) (d i:Nat) (v:AV):(st.put (some d) v).get i=if d=i then v else st.get i:=by
 unfold St.put St.get;simp only[ztJ];split<;>rfl
theorem PW {st:St} {a:Act} {d:Option Nat} {v:AV} {v':Value} (sz:a.tmps.size=st.sz) (tm:∀ i,Ad T w M (st.get i) (a.tmps.getD i undef)) (hd:d.all (· < st.sz)=true) (r:Ad T w M v v') :
  ∀ i,Ad T w M ((st.put d v).get i) ((a.put d v').tmps.getD i undef):=by
 intro i
 cases d with
 | none=>exact tm i
 | some d =>
   have h0:d<a.tmps.size:=by rw[sz];simpa using hd
   rw[St.get_put];simp only[Act.put]
   by_cases e:d=i
   .subst e
    have:(a.tmps.setIfInBounds d v').getD d undef=v':=by simp[Array.getD,h0]
    rw[this,if_pos rfl];exact r
   .have:(a.tmps.setIfInBounds d v').getD i undef=a.tmps.getD i undef:=by
     simp only[QE];rw[Array.getElem?_setIfInBounds_ne e]
    rw[this,if_neg e];exact tm i
theorem zep (l:List α) (f:α->AV) (i:Nat) (h:i<l.length):(l.map f).getD i .dead=f l[i]:=by simp[List.getD,h]
theorem pW (cs:Array Value) (h:cs.all Value.oneCell'=true):Ad T w M (.agg (cs.toList.map .sc)) (.agg cs):=by
 have h1:∀ i,i<cs.size->(cs.getD i undef).oneCell'=true:=λ i hi=>by
  rw[Array.all_eq_true] at h;have:=h i hi
  simpa [Array.getD,hi] using this
 refine .agg _ _ _ (by simp) (λ i hi=>h1 i (by simpa using hi)) λ i hi=>?_
 have hi':i<cs.size:=by simpa using hi
 rw[zep _ _ _ (by simpa using hi')]
 have e:cs.getD i undef=cs.toList[i]'(by simpa using hi'):=by simp[Array.getD,hi']
 have:=h1 i hi';rw[e] at this ⊢;exact .sc _ _ this
theorem Ny (v:Value):Ad T w M (C3 v) v:=by
 unfold C3;split
 .rename_i cs
  split
  .rename_i hc;exact pW cs hc
  .exact .dead _ _
 .exact .dead _ _
 .rename_i h1 h2
  exact .sc _ _ (by cases v<;>first | rfl | (exact absurd rfl (h1 _)) | (exact absurd rfl (h2 _)))
theorem Bq {st:St} {a:Act} (tm:∀ i,Ad T w M (st.get i) (a.tmps.getD i undef)) (x:Operand) :
  Ad T w M ((AU x).ev st.get) (a.eval x):=by
 cases x with
 | tmp t=>exact tm t
 | const v=>exact Ny v
 | global g=>exact .sc _ _ rfl
 | func f=>exact .fn _ _ _ _ _ _ rfl rfl (λ i hi=>absurd hi (U5 i)) (λ i hi=>absurd hi (U5 i))
theorem MP {cs:List AV} (h:Ad T w M x v) (hc:cellsOf x=some cs) :
  v.cells.size=cs.length /\ ∀ j,j<cs.length->(v.cells.getD j undef).oneCell'=true/\Ad T w M (cs.getD j .dead) (v.cells.getD j undef):=by
 have one:∀ {x:AV} {v:Value},Ad T w M x v->v.oneCell'=true->v.cells.size=[x].length /\ ∀ j,j<[x].length->(v.cells.getD j undef).oneCell'=true/\Ad T w M ([x].getD j .dead) (v.cells.getD j undef):=by
  intro x v h h1;have e:v.cells = #[v]:=by cases v<;>first | rfl | (simp[Value.oneCell'] at h1)
  refine⟨by rw[e];rfl,λ j hj=>?_⟩
  obtain rfl:j=0:=by simpa using hj
  rw[e];exact⟨h1,h⟩
 cases h with
 | dead=>simp[cellsOf] at hc
 | sc _ _ h1 =>
   have:cs=[.sc v]:=by cases v<;>simp[cellsOf] at hc<;>first | exact hc.symm | (simp[Value.oneCell'] at h1)
   subst this;exact one (.sc _ _ h1) h1
 | agg _ ys us hl h1 h =>
   simp only[cellsOf,Qt] at hc;subst hc;exact⟨hl,λ j hj=>⟨h1 j hj,h j hj⟩⟩
 | tup _ ys us hl h=>simp[cellsOf] at hc
 | vs _ s full rows a cap c hf h0 hw hb h1 h =>
   simp only[cellsOf,Qt] at hc;subst hc;exact one (.vs _ s full rows a cap c hf h0 hw hb h1 h) rfl
 | pv _ ys b off cells ty fz c hb ht h2 h1 h =>
   simp only[cellsOf,Qt] at hc;subst hc;exact one (.pv _ ys b off cells ty fz c hb ht h2 h1 h) rfl
 | rs _ id off len cap a g hg hz hl hn hb =>
   simp only[cellsOf,Qt] at hc;subst hc;exact one (.rs _ id off len cap a g hg hz hl hn hb) rfl
 | rk _ id off len cap a g hg hz hl hn hb =>
   simp only[cellsOf,Qt] at hc;subst hc;exact one (.rk _ id off len cap a g hg hz hl hn hb) rfl
 | pt _ id i j g b hg hz hb =>
   simp only[cellsOf,Qt] at hc;subst hc;exact one (.pt _ id i j g b hg hz hb) rfl
 | mp _ id g b hg hz hb =>
   simp only[cellsOf,Qt] at hc;subst hc;exact one (.mp _ id g b hg hz hb) rfl
 | fn _ f xs ys us vs hx hy h h' =>
   simp only[cellsOf,Qt] at hc;subst hc;exact one (.fn _ f xs ys us vs hx hy h h') rfl
 | ifc _ t x v h =>
   simp only[cellsOf,Qt] at hc;subst hc;exact one (.ifc _ t x v h) rfl
variable {b:Nat} {w1:World}
theorem St.hp_upd (st:St) (up:List (Nat × Option AQ)) (i:Nat):(st.upd up).hp i=(AW up i).elim (st.hp i) id:=by
 unfold St.upd St.hp;simp only[LX]
 cases AW up i<;>rfl
theorem St.hp_put (st:St) (d:Option Nat) (v:AV) (i:Nat):(st.put d v).hp i=st.hp i:=by
 cases d<;>rfl
theorem St.get_upd (st:St) (up:List (Nat × Option AQ)) (i:Nat):(st.upd up).get i=st.get i:=rfl
theorem GW.step {np:Nat} {T0:Nat->Nat} {M0:GM} {w0:World} {T:Nat->Nat} {M:GM} {w:World} {T':Nat->Nat} {M':GM} {w':World} (h:GW np T0 M0 w0 T M w) (tok:Hw T' w') (old:∀ b,b<w0.heap.size->¬ HZ np M0 b->T' b=T b) (same:∀ k,k<np->M' k=M k) (os:w'.os=w.os) (tape:w'.tape=w.tape) (output:w'.output=w.output) (size:w.heap.size<=w'.heap.size) (keep:∀ b,b<w0.heap.size->¬ HZ np M0 b->w'.heap[b]? = w.heap[b]?) (pres:Au T w T' w') (new:∀ k g b,np<=k->M' k=some g->g.blk=some b->HZ np M0 b∨w0.heap.size<=b):GW np T0 M0 w0 T' M' w' :=
 ⟨tok,λ b hb hn=>(old b hb hn).trans (h.old b hb hn),λ k hk=>(same k hk).trans (h.same k hk),os.trans h.os,tape.trans h.tape,output.trans h.output,QH h.size size,
  λ b hb hn=>(keep b hb hn).trans (h.keep b hb hn),h.pres.trans pres,new⟩
theorem GW.blk {np:Nat} {T0:Nat->Nat} {M0:GM} {w0:World} {T:Nat->Nat} {M:GM} {w:World} (h:GW np T0 M0 w0 T M w) {k:Nat} {g:GE} (hg:M k=some g) (hb:g.blk=some b):HZ np M0 b∨w0.heap.size<=b:=by
 rcases Um k np with hk | hk
 .exact .inl ⟨k,g,hk,by rw[<- h.same k hk];exact hg,hb⟩
 .exact h.new k g b hk hg hb
theorem Ds.mono {T w M T' w' M'} (p:Au T w T' w') (m:∀ id g,M id=some g->M' id=some g):∀ {rows:List (List AV)} {es:List MapEntry},Ds T w M rows es->Ds T' w' M' rows es
 | [],[],_=>trivial
 | _::_,_::_,h=>⟨by obtain⟨n,x,h1,h2,h3⟩:=h.1;exact⟨n,x,h1,h2,h3.mono p m⟩,Ds.mono p m h.2⟩
 | [],_::_,h=>False.elim h
 | _::_,[],h=>False.elim h
theorem Ds.map {T w M T' w' M'} {f:AV->AV} (hi:∀ n,f (.sc (.int .i64 n)) = .sc (.int .i64 n)):∀ {rows:List (List AV)} {es:List MapEntry},Ds T w M rows es->(∀ row∈rows,∀ x∈row,∀ v,Ad T w M x v->Ad T' w' M' (f x) v)->Ds T' w' M' (rows.map (·.map f)) es
 | [],[],_,_=>trivial
 | row::rows,e::es,h,hf=>⟨by
   obtain⟨n,x,h1,h2,h3⟩:=h.1
   exact⟨n,f x,by rw[h1];simp[hi n],h2,hf row Qn x (by rw[h1];simp) _ h3⟩,Ds.map hi h.2 λ r hr=>hf r (Ql _ hr)⟩
 | [],_::_,h,_=>False.elim h
 | _::_,[],h,_=>False.elim h
theorem Ir.mono {T w M e g T' w' M'} (h:Ir T w M e g) (p:Au T w T' w') (m:∀ id g,M id=some g->M' id=some g) (hb:∀ b,g.blk=some b->w'.heap[b]? = w.heap[b]? /\ T' b=T b):Ir T' w' M' e g:=by
 refine⟨h.s,h.ro,h.wide,h.none,λ hz=>?_,λ hz b h0=>?_⟩
 .obtain ⟨b,es,clock,h0,h1,h2,h5,h4⟩:=h.mp hz
  obtain⟨e1,e2⟩:=hb b h0;exact⟨b,es,clock,h0,by rw[e1];exact h1,by rw[e2];exact h2,h5,h4.mono p m⟩
 obtain⟨cells,ty,h1,h2,h3,h4⟩:=h.blk hz b h0;obtain⟨e1,e2⟩:=hb b h0;refine⟨cells,ty,by rw[e1];exact h1,by rw[e2];exact h2,h3,λ i j hi hj=>?_⟩
 obtain⟨v,hv,ho,hr⟩:=h4 i j hi hj;exact⟨v,hv,ho,hr.mono p m⟩
section
variable {np:Nat} {T0:Nat->Nat} {M0:GM} {w0:World} {aA:Nat->Prop} {hp:Nat->Option AQ} {T:Nat->Nat} {M:GM} {w:World}
structure Bw (np:Nat) (T0:Nat->Nat) (M0:GM) (w0:World) (aA:Nat->Prop) (hp:Nat->Option AQ) (T:Nat->Nat) (M:GM) (w:World):Prop where
 hs:EN T w M hp
 dom:∀ id g,M id=some g->aA id
 after:GW np T0 M0 w0 T M w
theorem Bw.block_lt (h:Bw np T0 M0 w0 aA hp T M w) {id e g b} (he:hp id=some e) (hg:M id=some g) (hb:g.blk=some b):b<w.heap.size:=by
 obtain⟨g',h1,h2⟩:=h.hs.ent id e he;obtain rfl:=Qf (hg.symm.trans h1)
 by_cases hz:e.s=0
 .obtain ⟨b',es,clock,h0,h3,_⟩:=h2.mp hz
  obtain rfl:=Qf (hb.symm.trans h0);exact(QQ.1 h3).1
 obtain⟨cells,ty,h3,_⟩:=h2.blk hz b hb;exact(QQ.1 h3).1
theorem Bw.T_zero (h:Bw np T0 M0 w0 aA hp T M w) (hb:w.heap.size<=b):T b=0:=by
 rcases Un (T b) with e | e
 .exact e
 .obtain ⟨cells,ty,fz,h1,_⟩:=h.after.tok b e
  have:=(QQ.1 h1).1;omega
theorem Bw.wider (h:Bw np T0 M0 w0 aA hp T M w) {h0:Nat->Prop} (hl:∀ i,aA i->h0 i):Bw np T0 M0 w0 h0 hp T M w :=
 ⟨h.hs,λ id g hg=>hl _ (h.dom id g hg),h.after⟩
theorem Au.alloc {o:Obj} (hT:Hw T w) (hh:w1.heap=w.heap.push o):Au T w T w1:=by
 refine⟨λ _=>Qk _,λ b cells ty fz hb=>⟨cells,fz,?_,rfl,λ _ _=>rfl⟩⟩;have:b<w.heap.size:=(QQ.1 hb).1;rw[hh,U1,if_neg (by omega)]
 exact hb
theorem Bw.draw (h:Bw np T0 M0 w0 aA hp T M w) (hh:w1.heap=w.heap) (os:w1.os=w.os) (tape:w1.tape=w.tape) (output:w1.output=w.output) :
  Bw np T0 M0 w0 aA hp T M w1/\Au T w T w1:=by
 have p:Au T w T w1:=⟨λ _=>Qk _,λ b cells ty fz hb=>⟨cells,fz,by rw[hh];exact hb,rfl,λ _ _=>rfl⟩⟩
 refine⟨⟨⟨λ id e he=>?_,h.hs.inj⟩,h.dom,?_⟩,p⟩
 .obtain ⟨g,h1,h2⟩:=h.hs.ent id e he
  exact⟨g,h1,h2.mono p (λ _ _ e=>e) λ b _=>⟨by rw[hh],rfl⟩⟩
 .exact h.after.step (λ b hb=>by rw[hh];exact h.after.tok b hb) (λ _ _ _=>rfl) (λ _ _=>rfl) os tape output (by rw[hh];exact Qk _) (λ b _ _=>by rw[hh]) p h.after.new
theorem Bw.new (h:Bw np T0 M0 w0 aA hp T M w) {id:Nat} (hid:¬ aA id) (hq:np<=id) {cells:Array Value} {ty:TypeId} (hh:w1.heap=w.heap.push (.cells cells ty)) (os:w1.os=w.os) (tape:w1.tape=w.tape) (output:w1.output=w.output) (e:AQ) (hd:e.s≠0) (ro:e.ro<=e.rows.length) (wide:∀ row∈e.rows,row.length=e.s) (h7:e.rows.length*e.s<=cells.size) (hc:∀ i j,i<e.rows.length->j<e.s -> ∃ v,cells[i*e.s+j]? = some v/\v.oneCell'=true/\Ad T w M ((e.rows.getD i []).getD j .dead) v) {hp':Nat->Option AQ} (hf:hp' id=some e) (h0:∀ i e',i≠id->hp' i=some e'->hp i=some e') :
  ∃ M':GM,M' id=some ⟨some w.heap.size,0,e.s⟩/\(∀ i g,M i=some g->M' i=some g)/\Bw np T0 M0 w0 (λ i=>aA i∨i=id) hp' T M' w1/\Au T w T w1:=by
 have p:Au T w T w1:=Au.alloc h.after.tok hh
 have h9:M id=none:=by
  cases hm:M id with
  | none=>rfl
  | some g=>exact absurd (h.dom id g hm) hid
 have mm:∀ i g,M i=some g->(λ i=>if i=id then some (GE.mk (some w.heap.size) 0 e.s) else M i) i=some g:=by
  intro i g hg;have:i≠id:=by rintro rfl;rw[h9] at hg;cases hg
  simp only[this,Ux];exact hg
 refine⟨λ i=>if i=id then some ⟨some w.heap.size,0,e.s⟩ else M i,by simp,mm,⟨⟨λ i e' he=>?_,λ i i' e1 e2 g g' b h1 h2 h3 h4 h5 h6=>?_⟩,λ i g hg=>?_,?_⟩,p⟩
 .by_cases hi:i=id
  .subst hi
   obtain rfl:e=e':=Qf (hf.symm.trans he);refine⟨⟨some w.heap.size,0,e.s⟩,if_pos rfl,rfl,ro,λ _=>wide,(λ e=>by simp at e),(λ h=>absurd h hd),λ _ b hb=>?_⟩
   obtain rfl:w.heap.size=b:=Qf hb;refine⟨cells,ty,by rw[hh];simp,by rw[h.T_zero (Qk _)];exact Qh _,by simpa using h7,λ i j hi hj=>?_⟩
   obtain⟨v,hv,ho,hr⟩:=hc i j hi hj;exact⟨v,by simpa using hv,ho,hr.mono p mm⟩
  .have ha:=h0 i e' hi he
   obtain⟨g,h1,h2⟩:=h.hs.ent i e' ha;refine⟨g,by simp only[hi,Ux];exact h1,h2.mono p mm λ b hb=>⟨?_,rfl⟩⟩
   have:=h.block_lt ha h1 hb;rw[hh,U1,if_neg (by omega)]
 .by_cases hi:i=id<;>by_cases hi':i'=id
  .rw [hi,hi']
  .rw [if_pos hi] at h3;rw[if_neg hi'] at h4
   obtain rfl:=Qf h3;have:=h.block_lt (h0 i' e2 hi' h2) h4 h6;simp at h5;omega
  .rw [if_neg hi] at h3;rw[if_pos hi'] at h4
   obtain rfl:=Qf h4;have:=h.block_lt (h0 i e1 hi h1) h3 h5;simp at h6;omega
  .rw [if_neg hi] at h3;rw[if_neg hi'] at h4
   exact h.hs.inj i i' e1 e2 g g' b (h0 i e1 hi h1) (h0 i' e2 hi' h2) h3 h4 h5 h6
 .by_cases hi:i=id
  .exact .inr hi
  .rw [if_neg hi] at hg;exact .inl (h.dom i g hg)
 .refine h.after.step (λ b hb=>?_) (λ _ _ _=>rfl) (λ k hk=>?_) os tape output (by rw[hh];simp) (λ b hb _=>?_) p λ k g b hk hg hb=>?_
  .obtain ⟨c,ty',fz,h1,h2⟩:=h.after.tok b hb
   have:b<w.heap.size:=(QQ.1 h1).1;exact⟨c,ty',fz,by rw[hh,U1,if_neg (by omega)];exact h1,h2⟩
  .have:k≠id:=by omega
   simp only[this,Ux]
  .have:=h.after.size
   rw[hh,U1,if_neg (by omega)]
  .by_cases hi:k=id
   .rw [if_pos hi] at hg
    obtain rfl:=Qf hg;obtain rfl:=Qf hb;exact .inr h.after.size
   .rw [if_neg hi] at hg
    exact h.after.new k g b hk hg hb
theorem Bw.write (h:Bw np T0 M0 w0 aA hp T M w) {id id':Nat} {e0 e:AQ} {g g':GE} {cells cells':Array Value} {ty:TypeId} (a0:hp id=some e0) (hg:M id=some g) (hb:g.blk=some b) (h9:w.heap[b]? = some (.cells cells ty (0,0))) (hw:cells'.size=cells.size) (hx:∀ o,o<T b->cells'[o]? = cells[o]?) (hid:(id'=id/\g'=g)∨(¬ aA id'/\np<=id')) (hd:g'.blk=some b) (hs':g'.s=e.s) (a1:e.s≠0) (ro:e.ro<=e.rows.length) (wide:∀ row∈e.rows,row.length=e.s) (hT:T b<=g'.base+e.ro*e.s) (hy:g'.base+e.rows.length*e.s<=cells.size) (hc:∀ i j,i<e.rows.length->j<e.s -> ∃ v,cells'[g'.base+i*e.s+j]? = some v/\v.oneCell'=true/\Ad T w M ((e.rows.getD i []).getD j .dead) v) {hp':Nat->Option AQ} (a2:hp' id'=some e) (hf:∀ i e',i≠id'->hp' i=some e'->i≠id/\hp i=some e') :
  ∃ M':GM,M' id'=some g'/\(∀ i g,M i=some g->M' i=some g)/\Bw np T0 M0 w0 (λ i=>aA i∨i=id') hp' T M' (w.setRow b cells')/\Au T w T (w.setRow b cells'):=by
 have h7:∀ k,k≠b->(w.setRow b cells').heap[k]? = w.heap[k]?:=λ k hk=>setRow_other w b k cells' hk;have hh:=setRow_heap w b cells cells' ty (0,0) h9
 have p:Au T w T (w.setRow b cells'):=by
  refine⟨λ _=>Qk _,λ k c t f hk=>?_⟩
  by_cases e:k=b
  .subst e
   rw[h9] at hk
   cases hk;exact⟨cells',(0,0),hh,hw,hx⟩
  .exact ⟨c,f,by rw[h7 k e];exact hk,rfl,λ _ _=>rfl⟩
 have a3:id'≠id->M id'=none:=by
  intro hu;rcases hid with ⟨h1,_⟩ | ⟨h1,_⟩
  .exact absurd h1 hu
  .cases hm:M id' with
   | none=>rfl
   | some g=>exact absurd (h.dom id' g hm) h1
 have mm:∀ i g1,M i=some g1->(λ i=>if i=id' then some g' else M i) i=some g1:=by
  intro i g1 h0
  by_cases hi:i=id'
  .subst hi
   rcases hid with ⟨rfl,rfl⟩ | ⟨h1,_⟩
   .simp only[UY];exact hg.symm.trans h0
   .exact absurd (h.dom i g1 h0) h1
  .simp only[hi,Ux];exact h0
 have hq:∀ i e' g1 b1,i≠id->hp i=some e'->M i=some g1->g1.blk=some b1->b1≠b:=by
  rintro i e' g1 b1 hi h1 h2 h3 rfl
  exact hi (h.hs.inj i id e' e0 g1 g b1 h1 a0 h2 hg h3 hb)
 refine⟨λ i=>if i=id' then some g' else M i,by simp,mm,⟨⟨λ i e' he=>?_,λ i i' e1 e2 g1 g2 b1 h1 h2 h3 h4 h5 h6=>?_⟩,λ i g1 h0=>?_,?_⟩,p⟩
 .by_cases hi:i=id'
  .subst hi
   obtain rfl:e=e':=Qf (a2.symm.trans he);refine⟨g',if_pos rfl,hs',ro,λ _=>wide,(λ e=>by rw[hd] at e;cases e),(λ h=>absurd h a1),λ _ b1 ha=>?_⟩
   obtain rfl:b=b1:=Qf (hd.symm.trans ha);refine⟨cells',ty,hh,hT,by rw[hw];exact hy,λ i j hi hj=>?_⟩
   obtain⟨v,hv,ho,hr⟩:=hc i j hi hj;exact⟨v,hv,ho,hr.mono p mm⟩
  .obtain ⟨hu,hz⟩:=hf i e' hi he
   obtain⟨g1,h1,h2⟩:=h.hs.ent i e' hz;refine⟨g1,by simp only[hi,Ux];exact h1,h2.mono p mm λ b1 ha=>⟨h7 b1 (hq i e' g1 b1 hu hz h1 ha),rfl⟩⟩
 .by_cases hi:i=id'<;>by_cases hi':i'=id'
  .rw [hi,hi']
  .rw [if_pos hi] at h3;rw[if_neg hi'] at h4
   obtain rfl:=Qf h3;obtain rfl:=Qf (hd.symm.trans h5);obtain⟨k1,k2⟩:=hf i' e2 hi' h2;exact absurd rfl (hq i' e2 g2 _ k1 k2 h4 h6)
  .rw [if_neg hi] at h3;rw[if_pos hi'] at h4
   obtain rfl:=Qf h4;obtain rfl:=Qf (hd.symm.trans h6);obtain⟨k1,k2⟩:=hf i e1 hi h1;exact absurd rfl (hq i e1 g1 _ k1 k2 h3 h5)
  .rw [if_neg hi] at h3;rw[if_neg hi'] at h4
   exact h.hs.inj i i' e1 e2 g1 g2 b1 (hf i e1 hi h1).2 (hf i' e2 hi' h2).2 h3 h4 h5 h6
 .by_cases hi:i=id'
  .exact .inr hi
  .rw [if_neg hi] at h0;exact .inl (h.dom i g1 h0)
 .refine h.after.step (λ k hk=>?_) (λ _ _ _=>rfl) (λ k hk=>?_) rfl rfl rfl (by simp) (λ k hk hn=>?_) p λ k g1 b1 hk h0 ha=>?_
  .obtain ⟨c,t,f,h1,h2⟩:=h.after.tok k hk
   obtain⟨c',f',e1,e2,_⟩:=p.cell k c t f h1;exact⟨c',t,f',e1,by omega⟩
  .by_cases hi:k=id'
   .subst hi
    rcases hid with ⟨rfl,rfl⟩ | ⟨_,h1⟩
    .simp only[UY];exact hg.symm
    .omega
   .simp only[hi,Ux]
  .refine h7 k ?_
   rintro rfl
   rcases h.after.blk hg hb with h1 | h1
   .exact hn h1
   .omega
  .by_cases hi:k=id'
   .rw [if_pos hi] at h0
    obtain rfl:=Qf h0;obtain rfl:=Qf (hd.symm.trans ha);exact h.after.blk hg hb
   .rw [if_neg hi] at h0
    exact h.after.new k g1 b1 hk h0 ha
end
theorem Cd {P:Program} {t:TypeId} {d:TypeDesc} (h:P.underlying t=some d) (w:World):(underlying t).run P w = .ok d w:=by
 simp[underlying,h]
section
variable {P:Program} {np:Nat} {T0:Nat->Nat} {M0:GM} {w0:World} {aA:Nat->Prop} {st:St} {T:Nat->Nat} {M:GM} {a:Act} {w:World} {idb:Nat}
def FL (P:Program) (np:Nat) (T0:Nat->Nat) (M0:GM) (w0:World) (aA:Nat->Prop) (id:Nat) (hp:Nat->Option AQ) (T:Nat->Nat) (M:GM) (w:World) (v:AV):Result Next->Prop
 | .ok (.value v') w'=>∃ T' M',Bw np T0 M0 w0 (λ i=>aA i∨(id<=i/\i<id+8)) hp T' M' w'/\Au T w T' w'/\(∀ i g,M i=some g->M' i=some g)/\Ad T' w' M' v v'
 | .ok .skip w'=>∃ T' M',Bw np T0 M0 w0 (λ i=>aA i∨(id<=i/\i<id+8)) hp T' M' w'/\Au T w T' w'/\(∀ i g,M i=some g->M' i=some g)/\v = .dead
 | .ok (.enter f args) w1=>w1=w/\Calls P f args w λ e w'=>∃ v' T' M',e = .returned v'/\Bw np T0 M0 w0 (λ i=>aA i∨(id<=i/\i<id+8)) hp T' M' w'/\Au T w T' w' /\
   (∀ i g,M i=some g->M' i=some g)/\Ad T' w' M' v v'
 | _=>False
theorem Ck (m:Bw np T0 M0 w0 aA st.hp T M w) {v:AV} {v':Value} (r:Ad T w M v v') {s:Sem Next} (hs:s.run P w = .ok (.value v') w) :
  FL P np T0 M0 w0 aA idb (st.upd []).hp T M w v (s.run P w):=by
 rw[hs];exact⟨T,M,m.wider λ _ h=>.inl h,Au.refl _ _,λ _ _ h=>h,r⟩
def BC (P:Program) (np:Nat) (T0:Nat->Nat) (M0:GM) (w0:World) (aA:Nat->Prop) (st:St) (T:Nat->Nat) (M:GM) (a:Act) (w:World) (idb:Nat) (o:Oper):Prop :=
 ∀ K,aK P np idb (BA P o).1 ((BA P o).2.map (·.ev st.get)) st.hp K -> ∃ v rd up,K v rd up/\FL P np T0 M0 w0 aA idb (st.upd up).hp T M w v ((execOp a.eval o).run P w)
variable (tm:∀ i,Ad T w M (st.get i) (a.tmps.getD i undef)) (m:Bw np T0 M0 w0 aA st.hp T M w)
include tm m
theorem W5 (o:Oper) (x:Operand) (h:o.op = .move x∨o.op = .assign x):BC P np T0 M0 w0 aA st T M a w idb o:=by
 intro K hk;have hc:BA P o=(.mv,[AU x]):=by rcases h with h | h<;>simp[BA,h]
 rw[hc] at hk;refine⟨_,_,_,hk,Ck m (Bq tm x) ?_⟩;rcases h with h | h<;>simp[execOp,h]
omit tm m
theorem DB {T:Nat->Nat} {w:World} {M:GM} {x:AV} {v u:Value} (h:Ad T w M x v) (e:x = .sc u):v=u:=by
 subst e;cases h;rfl
include tm m
theorem oK (o:Oper) (c x y:Operand) (h:o.op = .pick c x y):BC P np T0 M0 w0 aA st T M a w idb o:=by
 intro K hk;have hc:BA P o=(.pick,[AU c,AU x,AU y]):=by simp[BA,h]
 rw[hc] at hk;simp only[List.map,aK] at hk;obtain⟨t,ht,hk⟩:=hk;have h0:=DB (Bq tm c) ht;refine⟨_,_,_,hk,Ck m (v':=if t then a.eval x else a.eval y) ?_ ?_⟩
 .cases t
  .exact Bq tm y
  .exact Bq tm x
 .simp only[execOp,h,h0]
  cases t<;>simp[asBool]
theorem jM (o:Oper) (x:Operand) (h:o.op = .nilCheck x):BC P np T0 M0 w0 aA st T M a w idb o:=by
 intro K hk;have hc:BA P o=(.nil,[AU x]):=by simp[BA,h]
 rw[hc] at hk;simp only[List.map,aK] at hk;obtain⟨h1,hk⟩:=hk;have hr:=Bq tm x;refine⟨_,_,_,hk,Ck m hr ?_⟩;generalize (AU x).ev st.get=y at *;generalize hv:a.eval x=v at *;simp only[execOp,h,hv]
 cases hr<;>first | exact False.elim h1 | rfl
theorem pQ (o:Oper) (t:TypeId) (x:Operand) (h:o.op = .makeInterface t x):BC P np T0 M0 w0 aA st T M a w idb o:=by
 intro K hk
 cases hu:P.underlying t with
 | none =>
   have hc:BA P o=(.bad,[]):=by simp[BA,h,hu]
   rw[hc] at hk;exact False.elim hk
 | some td =>
   by_cases hs:∃ fs,td = .struct fs
   .obtain ⟨fs,rfl⟩:=hs
    have hc:BA P o=(.mki t,[AU x]):=by simp[BA,h,hu]
    rw[hc] at hk;refine⟨_,_,_,hk,Ck m (.ifc _ t _ _ (Bq tm x)) ?_⟩;simp[execOp,h,Instr.makeInterface,run_underlying hu]
   .have hc:BA P o=(.bad,[]):=by
     simp only[BA,h,hu];split
     .rename_i e;exact absurd ⟨_,Qf e⟩ hs
     .rfl
    rw[hc] at hk;exact False.elim hk
theorem lW (o:Oper) (x:Operand) (i:Nat) (h:o.op = .extract x i):BC P np T0 M0 w0 aA st T M a w idb o:=by
 intro K hk;have hc:BA P o=(.ext i,[AU x]):=by simp[BA,h]
 rw[hc] at hk;have hr:=Bq tm x;simp only[List.map] at hk;generalize (AU x).ev st.get=y at *;generalize hv:a.eval x=v at *
 cases y<;>simp only[aK] at hk
 rename_i vs;obtain⟨u,hu,hk⟩:=hk
 cases hr with
 | tup _ _ us hl hh =>
   have hi:i<vs.length:=(Qz.1 hu).1;have h1:=hh i hi;have e1:vs.getD i .dead=u:=by simp[List.getD,hu]
   rw[e1] at h1;refine⟨_,_,_,hk,Ck m h1 ?_⟩;have hi':i<us.size:=by omega
   simp[execOp,h,hv,Instr.extract,hi',Array.getD]
theorem Zq (o:Oper) (f:FuncId) (first capt:Array Operand) (h:o.op = .makeFunc (.func f) first capt):BC P np T0 M0 w0 aA st T M a w idb o:=by
 intro K hk
 by_cases hf:first.isEmpty=true
 .have hc:BA P o=(.mkf f,capt.toList.map AU):=by simp[BA,h,hf]
  rw[hc] at hk;simp only[List.map_map,aK] at hk;have h0:first = #[]:=by simpa using hf
  refine⟨_,_,_,hk,Ck m (v':=.func (.func f) #[] (capt.map a.eval)) (.fn _ (.func f) [] _ #[] _ rfl (by simp) (λ i hi=>absurd hi (U5 i)) λ i hi=>?_) ?_⟩
  .simp only[Qr,Uo] at hi
   have e1:((capt.toList.map ((λ x=>x.ev st.get)∘AU)).getD i .dead)=(AU capt[i]).ev st.get:=by simp[List.getD,hi]
   have e2:(capt.map a.eval).getD i undef=a.eval capt[i]:=by simp[Array.getD,hi]
   rw[e1,e2];exact Bq tm _
  .simp [execOp,h,h0,Instr.makeFunc]
 by_cases hg:capt.isEmpty=true
 .have hc:BA P o=(.mkb f,first.toList.map AU):=by simp[BA,h,hf,hg]
  rw[hc] at hk;simp only[List.map_map,aK] at hk;have h1:capt = #[]:=by simpa using hg
  refine⟨_,_,_,hk,Ck m (v':=.func (.func f) (first.map a.eval) #[]) (.fn _ (.func f) _ [] _ #[] (by simp) rfl (λ i hi=>?_) (λ i hi=>absurd hi (U5 i))) ?_⟩
  .simp only[Qr,Uo] at hi
   have e1:((first.toList.map ((λ x=>x.ev st.get)∘AU)).getD i .dead)=(AU first[i]).ev st.get:=by simp[List.getD,hi]
   have e2:(first.map a.eval).getD i undef=a.eval first[i]:=by simp[Array.getD,hi]
   rw[e1,e2];exact Bq tm _
  .simp [execOp,h,h1,Instr.makeFunc]
 .have hc:BA P o=(.bad,[]):=by simp[BA,h,hf,hg]
  rw[hc] at hk;exact False.elim hk
theorem iO (o:Oper) (t:TypeId) (x:Operand) (f:Nat) (h:o.op = .fieldAddr t x f):BC P np T0 M0 w0 aA st T M a w idb o:=by
 intro K hk;have hr:=Bq tm x;simp only[BA,h] at hk;split at hk
 case h_2=>exact False.elim hk
 rename_i fs hu;split at hk
 case h_2=>exact False.elim hk
 rename_i fd h4;split at hk
 case h_2=>exact False.elim hk
 rename_i k h0;simp only[List.map] at hk
 have h2:(sizeOf fd.type).run P w = .ok (k+1) w:=by
  simp only[Cl,Qw] at h0;obtain⟨i,hi,hs⟩:=h0;simp[sizeOf,typeInfo,hi,hs]
 generalize (AU x).ev st.get=y at *;generalize hv:a.eval x=v at *
 have key:∀ b off,v = .pointer (some ⟨b,off,none⟩)->(execOp a.eval o).run P w = .ok (.value (.pointer (some ⟨b,off+fd.offset,none⟩))) w:=by
  rintro b off rfl
  have h3:(⟨b,off,none⟩:Addr).add fd.offset=⟨b,off+fd.offset,none⟩:=by unfold Addr.add;split<;>simp_all
  simp[execOp,h,hv,Instr.fieldAt,Cd hu,h4,Instr.sureAddr,fieldPlace,h2,h3]
 cases y<;>simp only[aK] at hk
 .rename_i cs
  obtain⟨h6,hk⟩:=hk
  cases hr with
  | pv _ _ b off cells ty fz c hb ht h5 h1 hh =>
    refine⟨_,_,_,hk,Ck m (.pv _ _ b (off+fd.offset) cells ty fz (λ j=>c (fd.offset+j)) hb (by simp;omega) (λ j hj=>?_) (λ j hj=>?_) λ j hj=>?_) (key b off rfl)⟩
    .rw [UL];exact h5 _ (by simp at hj;omega)
    .exact h1 _ (by simp at hj;omega)
    .have:=hh (fd.offset+j) (by simp at hj;omega)
     simpa [List.getD] using this
 .rename_i i k j
  cases hr with
  | pt _ _ _ _ g b hg hz hb =>
    refine⟨_,_,_,hk,Ck m (.pt _ _ _ _ g b hg hz hb) ?_⟩;rw[key b _ rfl,UL (g.base+k*g.s)]
theorem bQ (o:Oper) (op:UnOp) (t:TypeId) (x:Operand) (h:o.op = .unOp op t x):BC P np T0 M0 w0 aA st T M a w idb o:=by
 intro K hk;have hc:BA P o=(.un op,[AU x]):=by simp[BA,h]
 rw[hc] at hk;have hr:=Bq tm x;simp only[List.map] at hk;generalize (AU x).ev st.get=y at *;generalize hv:a.eval x=v at *
 cases y<;>simp only[aK] at hk
 rename_i u;obtain⟨z,hz,hk⟩:=hk;obtain rfl:=DB hr rfl
 have h0:z.oneCell'=true:=by
  cases v<;>simp only[J3] at hz<;>(try (cases hz;done))<;>cases op<;>simp at hz<;>subst hz<;>rfl
 refine⟨_,_,_,hk,Ck m (.sc _ _ h0) ?_⟩;simp only[execOp,h,hv]
 cases v<;>simp only[J3] at hz<;>(try (cases hz;done))<;>cases op<;>simp at hz<;>subst hz<;>simp[Op.unary,Op.intArith,Op.intBits]
end
variable {cs:List AV} {op:BinOp} {t:TypeId} {x y:Value} {xs:Array Value}
section
variable {P:Program} {np:Nat} {T0:Nat->Nat} {M0:GM} {w0:World} {aA:Nat->Prop} {st:St} {T:Nat->Nat} {M:GM} {a:Act} {w:World} {idb:Nat}
theorem kP {z:Value} (h:AH op x y=some z):z.oneCell'=true:=by
 cases x<;>cases y<;>simp only[AH] at h<;>(try (cases h;done))
 .cases op<;>simp at h<;>(try (obtain⟨_,h⟩:=h))<;>(try subst h)<;>(try rfl)<;>(try (obtain⟨_,h⟩:=h))<;>(try subst h)<;>rfl
 .cases op<;>simp at h<;>(try subst h)<;>rfl
theorem Yr {z:Value} (h:AH op x y=some z):(binOp op t x y).run P w = .ok z w:=by
 cases x<;>cases y<;>simp only[AH] at h<;>(try (cases h;done))
 .rename_i k n k' n'
  cases op<;>simp at h<;>(try (obtain⟨h0,h⟩:=h))<;>(try (obtain⟨h1,h⟩:=h))<;>(try subst h)<;>(try subst h0) <;>
   first
    | (simp[binOp,Op.intArith,Op.intBits,Op.intCmp];done)
    | (have hn:¬ (n'<0):=by omega
       simp[binOp,Op.shift,hn];done)
    | (simp[binOp,Op.intDiv,h1];done)
 .cases op<;>simp at h<;>(try subst h)<;>simp[binOp,Op.stringOp]
theorem Jr {d:TypeDesc} (hu:P.underlying t=some d) (hd:(∃ k,d = .int k)∨d = .bool∨d = .string) {off:Nat} {v:Value} (hx:xs[off]? = some v):(part t xs off).run P w = .ok v w:=by
 rcases hd with ⟨k,rfl⟩ | rfl | rfl<;>simp[part,isAgg,Cd hu,hx]
theorem T5 {xs ys:Array Value} (d:Nat):∀ (fs:List Field) (i:Nat) (ks:List Nat) (cs ds:List AV) (b:Bool),J5 P i fs=some ks->Dp ks cs ds=some b ->
  (∀ (j:Nat) v,cs[j]? = some (.sc v)->xs[i+j]? = some v)->(∀ (j:Nat) v,ds[j]? = some (.sc v)->ys[i+j]? = some v)->(Op.eqFields (d+1) xs ys fs).run P w = .ok b w
 | [],i,ks,cs,ds,b,hf,he,hx,hy=>by
   simp only[J5,Qt] at hf;subst hf
   cases cs<;>cases ds<;>simp[Dp] at he
   subst he;simp[Op.eqFields]
 | f::fs,i,ks,cs,ds,b,hf,he,hx,hy=>by
   simp only[J5] at hf;split at hf
   case isFalse=>cases hf
   rename_i h0;obtain⟨hn,ho⟩:=h0
   have tail:∀ ks' cs' ds' b' c c',J5 P (i+1) fs=some ks'->cs=c::cs'->ds=c'::ds'->Dp ks' cs' ds'=some b'->(Op.eqFields (d+1) xs ys fs).run P w = .ok b' w:=by
    intro ks' cs' ds' b' c c' h1 h2 h3 h4;subst h2 h3;refine T5 d fs (i+1) ks' cs' ds' b' h1 h4 (λ j v hj=>?_) λ j v hj=>?_
    .rw [show i+1+j=i+(j+1) by omega]
     exact hx (j+1) v (by simpa using hj)
    .rw [show i+1+j=i+(j+1) by omega]
     exact hy (j+1) v (by simpa using hj)
   have fin:∀ (dd:TypeDesc) (u v:Value) (r r':Bool),P.underlying f.type=some dd->((∃ k,dd = .int k)∨dd = .bool∨dd = .string)->xs[i]? = some u->ys[i]? = some v->(Op.equalIn (d+1) f.type u v).run P w = .ok r w ->
     (Op.eqFields (d+1) xs ys fs).run P w = .ok r' w->(Op.eqFields (d+1) xs ys (f::fs)).run P w = .ok (r && r') w:=by
    intro dd u v r r' h1 h2 h3 h4 h5 h6;simp only[Op.eqFields,ne_eq,hn,not_false_eq_true,UY,Sem.run_bind,Jr h1 h2 (ho ▸ h3),Jr h1 h2 (ho ▸ h4),Result.andThen_ok,h5]
    cases r
    .simp
    .simpa using h6
   split at hf
   .rename_i k ks' hu h7
    obtain rfl:=Qf hf;unfold Dp at he;split at he<;>(try (cases he;done))
    .rename_i h;cases h
    .rename_i ki n1 cs' ki' n2 ds' e
     cases e;split at he
     case isFalse=>cases he
     rename_i hk;subst hk;simp only[Qw] at he;obtain⟨r,hr,rfl⟩:=he;exact fin _ _ _ _ _ hu (.inl ⟨_,rfl⟩) (hx 0 _ rfl) (hy 0 _ rfl) (by simp[Op.equalIn,Cd hu]) (tail _ _ _ _ _ _ h7 rfl rfl hr)
    all_goals (rename_i h;cases h)
   .rename_i ks' hu h7
    obtain rfl:=Qf hf;unfold Dp at he;split at he<;>(try (cases he;done))
    .rename_i h;cases h
    .rename_i h;cases h
    .rename_i b1 cs' b2 ds' e
     cases e;simp only[Qw] at he;obtain⟨r,hr,rfl⟩:=he;exact fin _ _ _ _ _ hu (.inr (.inl rfl)) (hx 0 _ rfl) (hy 0 _ rfl) (by simp[Op.equalIn,Cd hu]) (tail _ _ _ _ _ _ h7 rfl rfl hr)
    .rename_i h;cases h
   .rename_i ks' hu h7
    obtain rfl:=Qf hf;unfold Dp at he;split at he<;>(try (cases he;done))
    .rename_i h;cases h
    .rename_i h;cases h
    .rename_i h;cases h
    .rename_i b1 cs' b2 ds' e
     cases e;simp only[Qw] at he;obtain⟨r,hr,rfl⟩:=he;exact fin _ _ _ _ _ hu (.inr (.inr rfl)) (hx 0 _ rfl) (hy 0 _ rfl) (by simp[Op.equalIn,Cd hu,beq_toListBytes]) (tail _ _ _ _ _ _ h7 rfl rfl hr)
   .cases hf
def JS:Nat->Value->Value->Option Bool
 | 0,.int k a,.int k' b=>if k=k' then some (a == b) else none
 | 1,.bool a,.bool b=>some (a == b)
 | 2,.string a,.string b=>some (a.toList == b.toList)
 | _,_,_=>none
theorem T4 {k:Nat} {ks:List Nat} {ds:List AV} {b:Bool} (h:Dp (k::ks) cs ds=some b):∃ u v cs' ds' b1 b2,cs = .sc u::cs'/\ds = .sc v::ds'/\JS k u v=some b1/\Dp ks cs' ds'=some b2/\b=(b1 && b2):=by
 unfold Dp at h;split at h<;>(try (cases h;done))
 .rename_i e;cases e
 .rename_i k1 x cs' k2 y ds' e
  cases e;split at h
  case isFalse=>cases h
  rename_i hk;simp only[Qw] at h;obtain⟨r,hr,rfl⟩:=h;exact⟨_,_,cs',ds',_,r,rfl,rfl,by simp only[JS];rw[if_pos hk],hr,rfl⟩
 .rename_i x cs' y ds' e
  cases e;simp only[Qw] at h;obtain⟨r,hr,rfl⟩:=h;exact⟨_,_,cs',ds',_,r,rfl,rfl,rfl,hr,rfl⟩
 .rename_i x cs' y ds' e
  cases e;simp only[Qw] at h;obtain⟨r,hr,rfl⟩:=h;exact⟨_,_,cs',ds',_,r,rfl,rfl,rfl,hr,rfl⟩
theorem L3:∀ (ks ls:List Nat) (cs ds:List AV) (b:Bool),Dp (ks++ls) cs ds=some b -> ∃ b1 b2,Dp ks (cs.take ks.length) (ds.take ks.length)=some b1/\Dp ls (cs.drop ks.length) (ds.drop ks.length)=some b2/\b=(b1 && b2)
 | [],ls,cs,ds,b,h=>⟨true,b,by simp[Dp],by simpa using h,by simp⟩
 | k::ks,ls,cs,ds,b,h=>by
   rw[QR] at h;unfold Dp at h;split at h<;>(try (cases h;done))
   .rename_i e;cases e
   .rename_i k1 x cs' k2 y ds' e
    cases e;split at h
    case isFalse=>cases h
    rename_i hk;subst hk;simp only[Qw] at h;obtain⟨r,hr,rfl⟩:=h;obtain⟨b1,b2,h1,h2,rfl⟩:=L3 ks ls _ _ _ hr;exact⟨(x == y) && b1,b2,by simp[Dp,h1],by simpa using h2,by simp[Bool.and_assoc]⟩
   .rename_i x cs' y ds' e
    cases e;simp only[Qw] at h;obtain⟨r,hr,rfl⟩:=h;obtain⟨b1,b2,h1,h2,rfl⟩:=L3 ks ls _ _ _ hr;exact⟨(x == y) && b1,b2,by simp[Dp,h1],by simpa using h2,by simp[Bool.and_assoc]⟩
   .rename_i x cs' y ds' e
    cases e;simp only[Qw] at h;obtain⟨r,hr,rfl⟩:=h;obtain⟨b1,b2,h1,h2,rfl⟩:=L3 ks ls _ _ _ hr;exact⟨(x.toList == y.toList) && b1,b2,by simp[Dp,h1],by simpa using h2,by simp[Bool.and_assoc]⟩
theorem YD {gs:Array Field} (hu:P.underlying t=some (.struct gs)) {n:Nat} (hn:Cl P t=some n) {off:Nat}:(part t xs off).run P w = .ok (.agg (xs.extract off (off+n))) w:=by
 simp only[Cl,Qw] at hn;obtain⟨i,hi,rfl⟩:=hn;simp[part,isAgg,Cd hu,sizeOf,typeInfo,hi]
def Hj (cs:List AV) (xs:Array Value) (i:Nat):Prop:=∀ (j:Nat) v,cs[j]? = some (.sc v)->xs[i+j]? = some v
theorem Hj.drop {i:Nat} (h:Hj cs xs i) (n:Nat):Hj (cs.drop n) xs (i+n):=λ j v hj=>by
 rw[Q9] at hj;have:=h (n+j) v hj;rw[show i+n+j=i+(n+j) by omega]
 exact this
theorem Hj.take {i:Nat} (h:Hj cs xs i) (n:Nat):Hj (cs.take n) (xs.extract i (i+n)) 0:=λ j v hj=>by
 have hl:=(Qz.1 hj).1;simp only[QV] at hl;rw[List.getElem?_take_of_lt (by omega)] at hj
 have h1:=h j v hj;have h2:=(QQ.1 h1).1;rw[Array.getElem?_extract];simp only[Q1];rw[if_pos (by omega)]
 exact h1
theorem VW {xs ys:Array Value} {e:TypeId} (hu:P.underlying e=some .bool) (d:Nat):∀ (m i:Nat) (cs ds:List AV) (b:Bool),Dp (List.replicate m 1) cs ds=some b ->
  Hj cs xs i->Hj ds ys i->(Op.eqItems (d+1) e 1 xs ys (List.range' i m)).run P w = .ok b w
 | 0,i,cs,ds,b,h,hx,hy=>by
   cases cs<;>cases ds<;>simp[Dp] at h
   subst h;simp[Op.eqItems]
 | m+1,i,cs,ds,b,h,hx,hy=>by
   rw[List.replicate_succ] at h;obtain⟨u,v,cs',ds',b1,b2,rfl,rfl,h1,h2,rfl⟩:=T4 h;have ih:=VW hu d m (i+1) cs' ds' b2 h2 (hx.drop 1) (hy.drop 1);have p1:(part e xs (i*1)).run P w = .ok u w:=Jr hu (.inr (.inl rfl)) (by rw[Nat.mul_one];exact hx 0 u rfl)
   have p2:(part e ys (i*1)).run P w = .ok v w:=Jr hu (.inr (.inl rfl)) (by rw[Nat.mul_one];exact hy 0 v rfl)
   have p3:(Op.equalIn (d+1) e u v).run P w = .ok b1 w:=by
    unfold JS at h1;split at h1<;>(try (cases h1;done))
    .rename_i e;cases e
    .cases h1
     simp[Op.equalIn,Cd hu]
    .rename_i e;cases e
   rw[List.range'_succ];simp only[Op.eqItems,Sem.run_bind,p1,p2,p3,Result.andThen_ok]
   cases b1
   .simp
   .simpa using ih
theorem O6 {xs ys:Array Value} (d:Nat):∀ (fs:List Field) (i:Nat) (ks:List Nat) (cs ds:List AV) (b:Bool),IR P i fs=some ks->Dp ks cs ds=some b ->
  Hj cs xs i->Hj ds ys i->(Op.eqFields (d+2) xs ys fs).run P w = .ok b w
 | [],i,ks,cs,ds,b,hf,he,hx,hy=>by
   simp only[IR,Qt] at hf;subst hf
   cases cs<;>cases ds<;>simp[Dp] at he
   subst he;simp[Op.eqFields]
 | f::fs,i,ks,cs,ds,b,hf,he,hx,hy=>by
   simp only[IR] at hf;split at hf
   case isFalse=>cases hf
   rename_i h0;obtain⟨hn,ho⟩:=h0
   have step:∀ (u v:Value) (r r':Bool),(part f.type xs f.offset).run P w = .ok u w->(part f.type ys f.offset).run P w = .ok v w->(Op.equalIn (d+2) f.type u v).run P w = .ok r w ->
     (Op.eqFields (d+2) xs ys fs).run P w = .ok r' w->(Op.eqFields (d+2) xs ys (f::fs)).run P w = .ok (r && r') w:=by
    intro u v r r' h1 h2 h3 h4;simp only[Op.eqFields,ne_eq,hn,not_false_eq_true,UY,Sem.run_bind,h1,h2,Result.andThen_ok,h3]
    cases r
    .simp
    .simpa using h4
   have one:∀ (k:Nat) (h5:List Nat) (dd:TypeDesc),P.underlying f.type=some dd->((∃ k,dd = .int k)∨dd = .bool∨dd = .string)->IR P (i+1) fs=some h5->ks=k::h5 ->
     (∀ (u v:Value) (r:Bool),JS k u v=some r->(Op.equalIn (d+2) f.type u v).run P w = .ok r w)->(Op.eqFields (d+2) xs ys (f::fs)).run P w = .ok b w:=by
    intro k h5 dd hu h7 h6 hk heq;subst hk;obtain⟨u,v,cs',ds',b1,b2,rfl,rfl,h1,h2,rfl⟩:=T4 he;exact step u v b1 b2 (Jr hu h7 (ho ▸ hx 0 u rfl)) (Jr hu h7 (ho ▸ hy 0 v rfl)) (heq u v b1 h1) (O6 d fs (i+1) h5 _ _ b2 h6 h2 (hx.drop 1) (hy.drop 1))
   split at hf
   .rename_i k hu
    simp only[Qw] at hf;obtain⟨h5,h6,rfl⟩:=hf;refine one 0 h5 _ hu (.inl ⟨_,rfl⟩) h6 rfl λ u v r hr=>?_;unfold JS at hr;split at hr<;>(try (cases hr;done))
    .split at hr
     case isFalse=>cases hr
     rename_i hk;subst hk
     cases hr;simp[Op.equalIn,Cd hu]
    all_goals (rename_i e;cases e)
   .rename_i hu
    simp only[Qw] at hf;obtain⟨h5,h6,rfl⟩:=hf;refine one 1 h5 _ hu (.inr (.inl rfl)) h6 rfl λ u v r hr=>?_;unfold JS at hr;split at hr<;>(try (cases hr;done))
    .rename_i e;cases e
    .cases hr
     simp[Op.equalIn,Cd hu]
    .rename_i e;cases e
   .rename_i hu
    simp only[Qw] at hf;obtain⟨h5,h6,rfl⟩:=hf;refine one 2 h5 _ hu (.inr (.inr rfl)) h6 rfl λ u v r hr=>?_;unfold JS at hr;split at hr<;>(try (cases hr;done))
    .rename_i e;cases e
    .rename_i e;cases e
    .cases hr
     simp[Op.equalIn,Cd hu,beq_toListBytes]
   .rename_i gs hu
    split at hf
    case h_2=>cases hf
    rename_i ks1 n hb h9;split at hf
    case isFalse=>cases hf
    rename_i hc;obtain⟨hd,hh⟩:=hc;simp only[Qw] at hf;obtain⟨h5,h6,rfl⟩:=hf;obtain⟨b1,b2,h1,h2,rfl⟩:=L3 ks1 h5 cs ds b he;rw[<- hh] at h1 h2;have ha:P.fieldsOf f.type=gs:=by simp[Program.fieldsOf,hu]
    have heq:(Op.equalIn (d+2) f.type (.agg (xs.extract i (i+n))) (.agg (ys.extract i (i+n)))).run P w = .ok b1 w:=by
     rw[run_equalIn_struct w (d+1) f.type _ _ (by rw[ha];exact hu) hd,ha]
     exact T5 d gs.toList 0 ks1 _ _ b1 hb h1 (hx.take n) (hy.take n)
    exact step _ _ b1 b2 (by rw[ho];exact YD hu h9) (by rw[ho];exact YD hu h9) heq (O6 d fs (i+n) h5 _ _ b2 h6 h2 (hx.drop n) (hy.drop n))
   .cases hf
theorem Py {X Y:Operand} (hx:∀ c,x ≠ .agg c) (h0:x ≠ .nilIface):(eqGuard op t X Y x y).run P w = .ok () w:=by
 unfold eqGuard
 cases op<;>simp<;>(cases x<;>first | exact absurd rfl (hx _) | exact absurd rfl h0 | (cases y<;>rfl))
variable (tm:∀ i,Ad T w M (st.get i) (a.tmps.getD i undef)) (m:Bw np T0 M0 w0 aA st.hp T M w)
include tm m
theorem cR (o:Oper) (op:BinOp) (t u:TypeId) (x y:Operand) (h:o.op = .binOp op t x y u):BC P np T0 M0 w0 aA st T M a w idb o:=by
 intro K hk;have hr:=Bq tm x;have h6:=Bq tm y;simp only[BA,h] at hk;generalize hv:a.eval x=v at *;generalize h4:a.eval y=v' at *
 have plain:∀ K,aK P np idb (.bin op) ([AU x,AU y].map (·.ev st.get)) st.hp K -> ∃ v rd up,K v rd up/\FL P np T0 M0 w0 aA idb (st.upd up).hp T M w v ((execOp a.eval o).run P w):=by
  intro K hk;simp only[List.map] at hk;generalize (AU x).ev st.get=X at *;generalize (AU y).ev st.get=Y at *
  cases X<;>cases Y<;>simp only[aK] at hk
  obtain⟨z,hz,hk⟩:=hk;obtain rfl:=DB hr rfl;obtain rfl:=DB h6 rfl;refine⟨_,_,_,hk,Ck m (.sc _ _ (kP hz)) ?_⟩;have hg:(eqGuard op t x y v v').run P w = .ok () w:=Py (by rintro c rfl;simp[AH] at hz) (by rintro rfl;simp[AH] at hz)
  simp only[execOp,h,hv,h4];simp[hg,Yr hz]
 have bool:∀ (neg:Bool),P.underlying t=some .bool->op=(if neg then .neq else .eql) -> ∀ K,aK P np idb (.beq neg) ([AU x,AU y].map (·.ev st.get)) st.hp K ->
   ∃ v rd up,K v rd up/\FL P np T0 M0 w0 aA idb (st.upd up).hp T M w v ((execOp a.eval o).run P w):=by
  intro neg hu h3 K hk;simp only[List.map] at hk;generalize (AU x).ev st.get=X at *;generalize (AU y).ev st.get=Y at *
  cases X<;>cases Y<;>(try (simp only[aK] at hk;done))
  rename_i p q
  cases p<;>(try (simp only[aK] at hk;done))
  cases q<;>simp only[aK] at hk
  rename_i p q;obtain rfl:=DB hr rfl;obtain rfl:=DB h6 rfl;refine⟨_,_,_,hk,Ck m (.sc _ _ rfl) ?_⟩;have hg:(eqGuard op t x y (.bool p) (.bool q)).run P w = .ok () w:=Py (by simp) (by simp)
  simp only[execOp,h,hv,h4]
  have he:(Op.equal t (.bool p) (.bool q)).run P w = .ok (p == q) w:=by
   have:∀ d,(Op.equalIn (d+1) t (.bool p) (.bool q)).run P w = .ok (p == q) w:=by
    intro d;simp[Op.equalIn,Cd hu]
   exact this 9999
  cases neg<;>simp at h3<;>subst h3<;>simp[hg,binOp,he]
 have struct:∀ (neg:Bool) (fs:Array Field),P.underlying t=some (.struct fs)->op=(if neg then .neq else .eql) -> ∀ ks,ME P t fs.toList=some ks -> ∀ K,aK P np idb (.aeq neg ks) ([AU x,AU y].map (·.ev st.get)) st.hp K ->
   ∃ v rd up,K v rd up/\FL P np T0 M0 w0 aA idb (st.upd up).hp T M w v ((execOp a.eval o).run P w):=by
  intro neg fs hu h3 ks h0 K hk;simp only[List.map] at hk;generalize (AU x).ev st.get=X at *;generalize (AU y).ev st.get=Y at *
  cases X<;>cases Y<;>(try (simp only[aK] at hk;done))
  rename_i cs ds;simp only[aK] at hk;obtain⟨b,hb,hk⟩:=hk
  cases hr with | agg _ _ vs h9 hi h7 =>
  cases h6 with | agg _ _ us ha hq hc =>
  refine⟨_,_,_,hk,Ck m (.sc _ _ rfl) ?_⟩;unfold ME at h0;split at h0
  case isFalse=>cases h0
  rename_i hd;obtain⟨hp,hgt⟩:=hd;have hh:P.fieldsOf t=fs:=by simp[Program.fieldsOf,hu]
  have look:∀ (zs:List AV) (ws:Array Value),ws.size=zs.length->(∀ i,i<zs.length->Ad T w M (zs.getD i .dead) (ws.getD i undef)) -> ∀ (j:Nat) v,zs[j]? = some (.sc v)->ws[0+j]? = some v:=by
   intro zs ws hl hz j v hj;obtain⟨h5,hj⟩:=Qz.1 hj;have h1:=hz j h5;have e1:zs.getD j .dead = .sc v:=by simp[List.getD,h5,hj]
   rw[e1] at h1;have h2:ws.getD j undef=ws[j]'(by omega):=by simp[QE,show j<ws.size by omega]
   rw[h2] at h1
   cases h1;simp[show j<ws.size by omega]
  have he:(Op.equalIn 10000 t (.agg vs) (.agg us)).run P w = .ok b w:=by
   rw[run_equalIn_struct w 9999 t vs us (by rw[hh];exact hu) hp,hh]
   exact O6 9997 fs.toList 0 ks cs ds b h0 hb (look cs vs h9 h7) (look ds us ha hc)
  have hg:(eqGuard op t x y (.agg vs) (.agg us)).run P w = .ok () w:=run_eqGuard_agg w op t x y vs us hgt;simp only[execOp,h,hv,h4]
  cases neg<;>simp at h3<;>subst h3<;>simp[hg,run_eql_struct,run_neq_struct,he,Result.andThen]
 have arr:∀ (neg:Bool) (n:Nat) (e:TypeId),P.underlying t=some (.array n e)->op=(if neg then .neq else .eql) -> ∀ ks,Ml P t e n=some ks -> ∀ K,aK P np idb (.aeq neg ks) ([AU x,AU y].map (·.ev st.get)) st.hp K ->
   ∃ v rd up,K v rd up/\FL P np T0 M0 w0 aA idb (st.upd up).hp T M w v ((execOp a.eval o).run P w):=by
  intro neg n e hu h3 ks h0 K hk;simp only[List.map] at hk;generalize (AU x).ev st.get=X at *;generalize (AU y).ev st.get=Y at *
  cases X<;>cases Y<;>(try (simp only[aK] at hk;done))
  rename_i cs ds;simp only[aK] at hk;obtain⟨b,hb,hk⟩:=hk
  cases hr with | agg _ _ vs h9 hi h7 =>
  cases h6 with | agg _ _ us ha hq hc =>
  refine⟨_,_,_,hk,Ck m (.sc _ _ rfl) ?_⟩;unfold Ml at h0;split at h0
  case h_2=>cases h0
  rename_i hx;split at h0
  case isFalse=>cases h0
  rename_i hd;obtain⟨hgt,a0,a1⟩:=hd
  cases h0;obtain⟨ti,a2⟩:=Option.isSome_iff_exists.1 a0
  have look:∀ (zs:List AV) (ws:Array Value),ws.size=zs.length->(∀ i,i<zs.length->Ad T w M (zs.getD i .dead) (ws.getD i undef)) -> ∀ (j:Nat) v,zs[j]? = some (.sc v)->ws[0+j]? = some v:=by
   intro zs ws hl hz j v hj;obtain⟨h5,hj⟩:=Qz.1 hj;have h1:=hz j h5;have e1:zs.getD j .dead = .sc v:=by simp[List.getD,h5,hj]
   rw[e1] at h1;have h2:ws.getD j undef=ws[j]'(by omega):=by simp[QE,show j<ws.size by omega]
   rw[h2] at h1
   cases h1;simp[show j<ws.size by omega]
  have he:(Op.equalIn 10000 t (.agg vs) (.agg us)).run P w = .ok b w:=by
   rw[run_equalIn_array w 9999 vs us hu a2,a1,UV];exact VW hx 9998 n 0 cs ds b hb (look cs vs h9 h7) (look ds us ha hc)
  have hg:(eqGuard op t x y (.agg vs) (.agg us)).run P w = .ok () w:=run_eqGuard_agg w op t x y vs us hgt;simp only[execOp,h,hv,h4]
  cases neg<;>simp at h3<;>subst h3<;>simp[hg,run_eql_struct,run_neq_struct,he,Result.andThen]
 have slice:∀ (neg:Bool) (e:TypeId),P.underlying t=some (.slice e)->op=(if neg then .neq else .eql)->Mf y=true -> ∀ K,aK P np idb (.snil neg) ([AU x].map (·.ev st.get)) st.hp K ->
   ∃ v rd up,K v rd up/\FL P np T0 M0 w0 aA idb (st.upd up).hp T M w v ((execOp a.eval o).run P w):=by
  intro neg e hu h3 hy K hk
  have a3:v' = .slice none 0 0:=by
   unfold Mf at hy;split at hy
   .rw [<- h4];rfl
   .cases hy
  subst a3;simp only[List.map] at hk;generalize (AU x).ev st.get=X at *
  have fin:∀ (ad:Option Addr) (l c:Nat),v = .slice ad l c->(execOp a.eval o).run P w = .ok (.value (.bool (ad.isNone != neg))) w:=by
   rintro ad l c rfl
   have he:(Op.equal t (.slice ad l c) (.slice none 0 0)).run P w = .ok ad.isNone w:=run_equal_slice_nil w t e ad l c hu;have hg:(eqGuard op t x y (.slice ad l c) (.slice none 0 0)).run P w = .ok () w:=Py (by simp) (by simp)
   simp only[execOp,h,hv,h4]
   cases neg<;>simp at h3<;>subst h3<;>simp[hg,binOp,he]
  cases X<;>(try (simp only[aK] at hk;done))
  .rename_i u
   cases u<;>simp only[aK] at hk
   obtain rfl:=DB hr rfl;exact⟨_,_,_,hk,Ck m (.sc _ _ rfl) (fin _ _ _ rfl)⟩
  .rename_i sz full rows
   cases rows with
   | nil=>simp only[aK] at hk
   | cons row rows =>
     simp only[aK] at hk
     cases hr with | vs _ _ _ _ ad cap c hf hl hw hb ho h7 =>
     obtain⟨b,off,cells,ty,fz,rfl,_⟩:=hb (List.cons_ne_nil _ _);refine⟨_,_,_,hk,Ck m (.sc _ _ rfl) ?_⟩;rw[fin _ _ _ rfl]
     cases neg<;>rfl
 split at hk
 .rename_i hu;exact bool false hu rfl K hk
 .rename_i hu;exact bool true hu rfl K hk
 .rename_i fs hu
  split at hk
  .rename_i ks h0;exact struct false fs hu rfl ks h0 K hk
  .exact hk.elim
 .rename_i fs hu
  split at hk
  .rename_i ks h0;exact struct true fs hu rfl ks h0 K hk
  .exact hk.elim
 .rename_i n e hu
  split at hk
  .rename_i ks h0;exact arr false n e hu rfl ks h0 K hk
  .exact hk.elim
 .rename_i n e hu
  split at hk
  .rename_i ks h0;exact arr true n e hu rfl ks h0 K hk
  .exact hk.elim
 .rename_i e hu
  split at hk
  .rename_i hy;exact slice false e hu rfl hy K hk
  .exact hk.elim
 .rename_i e hu
  split at hk
  .rename_i hy;exact slice true e hu rfl hy K hk
  .exact hk.elim
 .exact plain K hk
theorem iA (o:Oper) (t u:TypeId) (x:Operand) (h:o.op = .convert t u x) (k k':IntKind) (h1:P.underlying t=some (.int k)) (h2:P.underlying u=some (.int k')):BC P np T0 M0 w0 aA st T M a w idb o:=by
 intro K hk;have hr:=Bq tm x;simp only[BA,h,h1,h2,List.map] at hk;generalize hv:a.eval x=v at *;generalize (AU x).ev st.get=X at *
 cases X<;>(try (simp only[aK] at hk;done))
 rename_i u
 cases u<;>simp only[aK] at hk
 obtain rfl:=DB hr rfl;refine⟨_,_,_,hk,Ck m (.sc _ _ rfl) ?_⟩;simp[execOp,h,hv,convert,Cd h1,Cd h2,Conv.intToInt]
end
section
variable {P:Program} {np:Nat} {T0:Nat->Nat} {M0:GM} {w0:World} {aA:Nat->Prop} {st:St} {T:Nat->Nat} {M:GM} {a:Act} {w:World} {idb:Nat}
theorem YI {X:AV} {v:Value} {n:Nat} (hr:Ad T w M X v) (hn:lenOf X=some n):∃ b cp,v = .slice b n cp:=by
 cases hr with
 | sc _ _ h1 =>
   unfold lenOf at hn;split at hn<;>(try (cases hn;done))
   .rename_i e;cases e
   .rename_i e;cases e
   .rename_i e;cases e
   .rename_i e;cases e;cases hn;exact⟨_,_,rfl⟩
 | vs=>simp only[lenOf,Qt] at hn;subst hn;exact⟨_,_,rfl⟩
 | rs=>simp only[lenOf,Qt] at hn;subst hn;exact⟨_,_,rfl⟩
 | rk=>simp only[lenOf,Qt] at hn;subst hn;exact⟨_,_,rfl⟩
 | _=>simp[lenOf] at hn
theorem Addr.add_none (b o n:Nat):(⟨b,o,none⟩:Addr).add n=⟨b,o+n,none⟩:=by unfold Addr.add;split<;>simp_all
variable (tm:∀ i,Ad T w M (st.get i) (a.tmps.getD i undef)) (m:Bw np T0 M0 w0 aA st.hp T M w)
include tm m
theorem Z5 (o:Oper) (c:Call) (h:o.op = .call c) (hb:c.callee = .builtin .len) (t:TypeId) (x:Operand) (ht:c.argTypes.toList=[t]) (hx:c.args.toList=[x]):BC P np T0 M0 w0 aA st T M a w idb o:=by
 intro K hk;have hr:=Bq tm x;have h0:c.argTypes = #[t]:=by rw[<- QS (xs:=c.argTypes),ht]
 have h1:c.args = #[x]:=by rw[<- QS (xs:=c.args),hx]
 simp only[BA,h,hb,ht,hx] at hk;split at hk
 case h_3=>exact False.elim hk
 .rename_i s hu
  simp only[List.map] at hk;generalize hv:a.eval x=v at *;generalize (AU x).ev st.get=X at *;simp only[aK] at hk;obtain⟨n,hn,hk⟩:=hk;obtain⟨b,cp,rfl⟩:=YI hr hn;refine⟨_,_,_,hk,Ck m (.sc _ _ rfl) ?_⟩;simp[execOp,h,resolve,hb,invoke,builtin,Builtin.len_,h0,h1,hv,Cd hu,goInt]
 .rename_i hu
  simp only[List.map] at hk;generalize hv:a.eval x=v at *;generalize (AU x).ev st.get=X at *
  cases X<;>(try (simp only[aK] at hk;done))
  rename_i u
  cases u<;>simp only[aK] at hk
  obtain rfl:=DB hr rfl;refine⟨_,_,_,hk,Ck m (.sc _ _ rfl) ?_⟩;simp[execOp,h,resolve,hb,invoke,builtin,Builtin.len_,h0,h1,hv,Cd hu,goInt]
theorem Xy (o:Oper) (c:Call) (h:o.op = .call c) (mx:Bool) (hb:c.callee = .builtin (if mx then .max else .min)):BC P np T0 M0 w0 aA st T M a w idb o:=by
 intro K hk
 have two:∀ x y,c.args.toList=[x,y] -> ∀ K,aK P np idb (if mx then .mx2 else .mn2) ([AU x,AU y].map (·.ev st.get)) st.hp K -> ∃ v rd up,K v rd up/\FL P np T0 M0 w0 aA idb (st.upd up).hp T M w v ((execOp a.eval o).run P w):=by
  intro x y hx K hk;have h0:c.args = #[x,y]:=by rw[<- QS (xs:=c.args),hx]
  have hr:=Bq tm x;have h2:=Bq tm y;simp only[List.map] at hk;generalize hv:a.eval x=v at *;generalize (AU x).ev st.get=X at *;generalize h1:a.eval y=v' at *;generalize (AU y).ev st.get=Y at *
  cases mx<;>simp only[Ud,Ux,UY] at hk hb
  all_goals
   cases X<;>cases Y<;>(try (simp only[aK] at hk;done))
   rename_i p q
   cases p<;>(try (simp only[aK] at hk;done))
   cases q<;>simp only[aK] at hk
   obtain rfl:=DB hr rfl;obtain rfl:=DB h2 rfl;refine⟨_,_,_,hk,Ck m (.sc _ _ rfl) ?_⟩
  .simp [execOp,h,resolve,hb,invoke,builtin,Builtin.min_,Builtin.min2,h0,hv,h1]
  .simp [execOp,h,resolve,hb,invoke,builtin,Builtin.max_,Builtin.max2,h0,hv,h1]
 cases mx
 all_goals
  simp only[Ud,Ux,UY] at hb;simp only[BA,h,hb] at hk;split at hk
  case h_2=>exact False.elim hk
  rename_i x y hx;exact two x y hx K hk
theorem jF (o:Oper) (t:TypeId) (x:Operand) (f:Nat) (h:o.op = .field t x f):BC P np T0 M0 w0 aA st T M a w idb o:=by
 intro K hk;have hr:=Bq tm x;simp only[BA,h] at hk;split at hk
 case h_2=>exact False.elim hk
 rename_i fs hu;split at hk
 case h_2=>exact False.elim hk
 rename_i fd h6;split at hk
 case h_2=>exact False.elim hk
 rename_i ag s h0 h4;split at hk
 case isFalse=>exact False.elim hk
 rename_i h7;simp only[List.map] at hk
 have h5:(sizeOf fd.type).run P w = .ok s w:=by
  simp only[Cl,Qw] at h4;obtain⟨i,hi,hs⟩:=h4;simp[sizeOf,typeInfo,hi,hs]
 have h3:(isAgg fd.type).run P w = .ok ag w:=by
  unfold E4 at h0;split at h0<;>(try (cases h0;done))
  .rename_i e;cases h0;simp[isAgg,Cd e]
  .rename_i e;cases h0;simp[isAgg,Cd e]
  .rename_i d e n1 n2
   cases h0;simp only[isAgg,Sem.run_bind,Cd n2];simp
 generalize hv:a.eval x=v at *;generalize (AU x).ev st.get=X at *
 cases X<;>simp only[aK] at hk
 rename_i cs;obtain⟨h9,hk⟩:=hk
 cases hr with
 | agg _ _ us hl h1 hh =>
   have h2:∀ v',(part fd.type us fd.offset).run P w = .ok v' w->(execOp a.eval o).run P w = .ok (.value v') w:=by
    intro v' hp;simp[execOp,h,hv,Instr.field,Cd hu,h6,asAgg,hp]
   cases ag with
   | true =>
     refine⟨_,_,_,hk,Ck m (v':=.agg (us.extract fd.offset (fd.offset+s))) ?_ (h2 _ ?_)⟩
     .refine .agg _ _ _ (by simp;omega) (λ i hi=>?_) λ i hi=>?_
      .simp at hi
       have e:(us.extract fd.offset (fd.offset+s)).getD i undef=us.getD (fd.offset+i) undef:=by
        simp only[QE,Array.getElem?_extract];rw[if_pos (by omega)]
       rw[e];exact h1 _ (by omega)
      .simp at hi
       have e:(us.extract fd.offset (fd.offset+s)).getD i undef=us.getD (fd.offset+i) undef:=by
        simp only[QE,Array.getElem?_extract];rw[if_pos (by omega)]
       have e2:((cs.drop fd.offset).take s).getD i .dead=cs.getD (fd.offset+i) .dead:=by
        simp only[List.getD,UC,Q9];rw[if_pos (by omega)]
       rw[e,e2];exact hh _ (by omega)
     .simp [part,h3,h5]
   | false =>
     obtain rfl:s=1:=by simpa using h7
     refine⟨_,_,_,hk,Ck m (hh fd.offset (by omega)) (h2 _ ?_)⟩
     have hi:fd.offset<us.size:=by omega
     simp[part,h3,hi,Array.getD]
omit tm in
theorem XE {X:AV} {v:Value} {cs:List AV} (hr:Ad T w M X v) (hc:Gf st.hp X=some cs) :
  ∃ b off,v = .pointer (some ⟨b,off,none⟩) /\ ∃ c:Nat->Value,∀ j,j<cs.length->w.cell? ⟨b,off+j,none⟩=some (c j)/\(c j).oneCell'=true/\Ad T w M (cs.getD j .dead) (c j):=by
 cases hr with
 | pv _ ys b off cells ty fz c hb ht h7 h1 hh =>
   simp only[Gf,Qt] at hc;subst hc;refine⟨b,off,rfl,c,λ j hj=>⟨?_,h1 j hj,(hh j hj).mono (Au.refl _ _) (λ _ _ e=>by cases e)⟩⟩
   simp[World.cell?,hb,h7 j hj]
 | pt _ i k j g b hg hz hb =>
   simp only[Gf,Ul,Qw] at hc;obtain⟨e,he,row,h0,rfl⟩:=hc;obtain⟨g',h9,ent⟩:=m.hs.ent i e he;obtain rfl:=Qf (hg.symm.trans h9);have h5:e.s≠0:=ent.s ▸ hz;obtain⟨cells,ty,h1,h2,h3,h4⟩:=ent.blk h5 b hb;have hk:k<e.rows.length:=(Qz.1 h0).1;have hw:=ent.wide h5 row (Uj h0)
   have ex:∀ j':Nat,∃ u,j'<(row.drop j).length->w.cell? ⟨b,g.base+k*g.s+j+j',none⟩=some u/\u.oneCell'=true/\Ad T w M ((row.drop j).getD j' .dead) u:=by
    intro j'
    by_cases hj:j'<(row.drop j).length
    .rw [UQ] at hj
     obtain⟨u,hu,ho,h6⟩:=h4 k (j+j') hk (by omega)
     refine⟨u,λ _=>⟨?_,ho,?_⟩⟩
     .simp only[World.cell?,h1]
      rw[<- ent.s,<- UL] at hu
      simpa using hu
     .have e1:e.rows.getD k []=row:=by simp[List.getD,h0]
      rw[e1] at h6
      simpa [List.getD] using h6
    .exact ⟨undef,λ h=>absurd h hj⟩
   obtain⟨c,hc⟩:=Classical.axiomOfChoice ex;exact⟨b,_,rfl,c,hc⟩
 | _=>simp[Gf] at hc
theorem m8 (o:Oper) (t:TypeId) (x:Operand) (h:o.op = .load t x):BC P np T0 M0 w0 aA st T M a w idb o:=by
 intro K hk;have hr:=Bq tm x;simp only[BA,h] at hk;split at hk
 case h_2=>exact False.elim hk
 rename_i ag s h2 h5;split at hk
 case isFalse=>exact False.elim hk
 rename_i h7;simp only[List.map] at hk
 have h6:(sizeOf t).run P w = .ok s w:=by
  simp only[Cl,Qw] at h5;obtain⟨i,hi,hs⟩:=h5;simp[sizeOf,typeInfo,hi,hs]
 have h4:(isAgg t).run P w = .ok ag w:=by
  unfold E4 at h2;split at h2<;>(try (cases h2;done))
  .rename_i e;cases h2;simp[isAgg,Cd e]
  .rename_i e;cases h2;simp[isAgg,Cd e]
  .rename_i d e n1 n2
   cases h2;simp only[isAgg,Sem.run_bind,Cd n2];simp
 generalize hv:a.eval x=v at *;generalize (AU x).ev st.get=X at *;simp only[aK] at hk;obtain⟨cs,hc,ha,hk⟩:=hk;obtain⟨b,off,rfl,c,h1⟩:=XE m hr hc
 have h3:∀ v',(loadVar t ⟨b,off,none⟩).run P w = .ok v' w->(execOp a.eval o).run P w = .ok (.value v') w:=by
  intro v' hp;simp[execOp,h,hv,Instr.loadAt,Instr.sureAddr,hp]
 cases ag with
 | true =>
   have hl:=run_loadCells (P:=P) w ⟨b,off,none⟩ s c (λ j hj=>by rw[Addr.add_none];exact(h1 j (by omega)).1)
   refine⟨_,_,_,hk,Ck m (v':=.agg ((List.range s).map c).toArray) ?_ (h3 _ ?_)⟩
   .refine .agg _ _ _ (by simp;omega) (λ i hi=>?_) λ i hi=>?_
    .simp at hi
     have e:((List.range s).map c).toArray.getD i undef=c i:=by simp[Array.getD,show i<s from by omega]
     rw[e];exact(h1 i (by omega)).2.1
    .simp at hi
     have e:((List.range s).map c).toArray.getD i undef=c i:=by simp[Array.getD,show i<s from by omega]
     have e2:(cs.take s).getD i .dead=cs.getD i .dead:=by
      simp only[List.getD,UC];rw[if_pos (by omega)]
     rw[e,e2];exact(h1 i (by omega)).2.2
   .simp [loadVar,h4,h6,hl]
 | false =>
   obtain rfl:s=1:=by simpa using h7
   have h0:=h1 0 (by omega)
   have e:cs.headD .dead=cs.getD 0 .dead:=by cases cs<;>rfl
   simp only[Ud,Ux] at hk;rw[e] at hk;refine⟨_,_,_,hk,Ck m h0.2.2 (h3 _ ?_)⟩;simp only[loadVar,Sem.run_bind,h4,Result.andThen_ok];have h9:w.cell? ⟨b,off,none⟩=some (c 0):=by simpa using h0.1
   simp[h9]
theorem Y7 (o:Oper) (t:TypeId) (x y:Operand) (h:o.op = .indexAddr t x y):BC P np T0 M0 w0 aA st T M a w idb o:=by
 intro K hk;have hr:=Bq tm x;have h6:=Bq tm y;simp only[BA,h] at hk;split at hk
 case h_3=>exact False.elim hk
 .rename_i e hu
  split at hk
  case h_2=>exact False.elim hk
  rename_i s h2;simp only[List.map] at hk
  have h3:(sizeOf e).run P w = .ok s w:=by
   simp only[Cl,Qw] at h2;obtain⟨i,hi,hs⟩:=h2;simp[sizeOf,typeInfo,hi,hs]
  generalize hv:a.eval x=v at *;generalize (AU x).ev st.get=X at *;generalize h7:a.eval y=v' at *;generalize (AU y).ev st.get=Y at *
  have key:∀ (b off len cap:Nat) (k:IntKind) (n:Int),v = .slice (some ⟨b,off,none⟩) len cap->v' = .int k n->0<=n->n<len ->
    (execOp a.eval o).run P w = .ok (.value (.pointer (some ⟨b,off+n.toNat*s,none⟩))) w:=by
   rintro b off len cap k n rfl rfl h0 hn
   simp[execOp,h,hv,h7,Instr.indexAt,asIntOf,Cd hu,h0,hn,h3,Addr.add_none]
  cases X<;>(try (simp only[aK] at hk;done))
  .rename_i s' full rows
   cases Y<;>(try (simp only[aK] at hk;done))
   rename_i u
   cases u<;>(try (simp only[aK] at hk;done))
   rename_i k n;simp only[aK] at hk;obtain⟨rfl,h0,row,h4,hk⟩:=hk;obtain rfl:=DB h6 rfl
   cases hr with
   | vs _ _ _ _ ad cap c hf h9 hw hb h1 hh =>
     have hn:n.toNat<rows.length:=(Qz.1 h4).1;obtain⟨b,off,cells,ty,fz,rfl,hd,hT,hc⟩:=hb (by rintro rfl;simp at hn)
     have he:=hw row (Uj h4);have ho:rows.getD n.toNat []=row:=by simp[List.getD,h4]
     refine⟨_,_,_,hk,Ck m (.pv _ _ b (off+n.toNat*s') cells ty fz (λ j=>c n.toNat j) hd ?_ (λ j hj=>hc _ _ hn (by omega)) (λ j hj=>h1 _ _ hn (by omega)) λ j hj=>?_) (key b off rows.length cap k n rfl rfl h0 (by omega))⟩
     .rw [he]
      have:(n.toNat+1)*s'<=rows.length*s':=QD _ hn;rw[QI] at this;omega
     .have:=hh n.toNat j hn (by omega)
      rwa [ho] at this
  .rename_i i off len
   cases Y<;>(try (simp only[aK] at hk;done))
   rename_i u
   cases u<;>(try (simp only[aK] at hk;done))
   rename_i k n;simp only[aK] at hk;obtain⟨h0,hn,⟨en,hq,hs⟩,hk⟩:=hk;obtain rfl:=DB h6 rfl
   cases hr with
   | rs _ _ _ _ cap ad g hg hz hl hx hb =>
     obtain⟨g',hy,ent⟩:=m.hs.ent i en hq;obtain rfl:=Qf (hg.symm.trans hy)
     cases h5:g.blk with
     | none=>have:=(hx h5).2;omega
     | some b =>
       obtain⟨ha,cells,ty,fz,hd,a2⟩:=hb b h5
       have a0:ad=some ⟨b,g.base+off*g.s,none⟩:=by
        rcases ha with ha | ha
        .omega
        .exact ha
       subst a0;refine⟨_,_,_,hk,?_⟩;have e1:=key b (g.base+off*g.s) len cap k n rfl rfl h0 hn
       have e2:g.base+off*g.s+n.toNat*s=g.base+(off+n.toNat)*g.s+0:=by
        rw[ent.s,hs,QI];omega
       rw[e2] at e1;rw[e1];exact⟨T,M,m.wider λ _ h=>.inl h,Au.refl _ _,λ _ _ h=>h,.pt _ _ _ _ g b hg hz h5⟩
 .rename_i l e hu
  split at hk
  case h_2=>exact False.elim hk
  rename_i s h2;simp only[List.map] at hk
  have h3:(sizeOf e).run P w = .ok s w:=by
   simp only[Cl,Qw] at h2;obtain⟨i,hi,hs⟩:=h2;simp[sizeOf,typeInfo,hi,hs]
  generalize hv:a.eval x=v at *;generalize (AU x).ev st.get=X at *;generalize h7:a.eval y=v' at *;generalize (AU y).ev st.get=Y at *
  have key:∀ (b off:Nat) (k:IntKind) (n:Int),v = .pointer (some ⟨b,off,none⟩)->v' = .int k n->0<=n->n<l ->
    (execOp a.eval o).run P w = .ok (.value (.pointer (some ⟨b,off+n.toNat*s,none⟩))) w:=by
   rintro b off k n rfl rfl h0 hn
   simp[execOp,h,hv,h7,Instr.indexAt,asIntOf,Cd hu,h0,hn,h3,Addr.add_none,Instr.sureAddr]
  cases X<;>(try (simp only[aK] at hk;done))
  .rename_i cs
   cases Y<;>(try (simp only[aK] at hk;done))
   rename_i u
   cases u<;>(try (simp only[aK] at hk;done))
   rename_i k n;simp only[aK] at hk;obtain⟨h0,hn,h9,hk⟩:=hk;obtain rfl:=DB h6 rfl;have a3:n.toNat*s<=cs.length:=QH (QD s (show n.toNat<=l by omega)) h9
   cases hr with
   | pv _ _ b off cells ty fz c hb ht a1 h1 hh =>
     refine⟨_,_,_,hk,Ck m (.pv _ _ b (off+n.toNat*s) cells ty fz (λ j=>c (n.toNat*s+j)) hb (by simp;omega) (λ j hj=>?_) (λ j hj=>?_) λ j hj=>?_) (key b off k n rfl rfl h0 hn)⟩
     .rw [UL];exact a1 _ (by simp at hj;omega)
     .exact h1 _ (by simp at hj;omega)
     .have:=hh (n.toNat*s+j) (by simp at hj;omega)
      simpa [List.getD] using this
  .rename_i i kk j
   cases Y<;>(try (simp only[aK] at hk;done))
   rename_i u
   cases u<;>(try (simp only[aK] at hk;done))
   rename_i k n;simp only[aK] at hk;obtain⟨h0,hn,hk⟩:=hk;obtain rfl:=DB h6 rfl
   cases hr with
   | pt _ _ _ _ g b hg hz hb =>
     refine⟨_,_,_,hk,Ck m (.pt _ _ _ _ g b hg hz hb) ?_⟩;rw[key b _ k n rfl rfl h0 hn,UL (g.base+kk*g.s)]
theorem uY (o:Oper) (t:TypeId) (x y:Operand) (h:o.op = .index t x y):BC P np T0 M0 w0 aA st T M a w idb o:=by
 intro K hk;have hr:=Bq tm x;have h4:=Bq tm y;simp only[BA,h] at hk;split at hk
 case h_3=>exact False.elim hk
 case h_2 =>
  rename_i l e hu;split at hk
  case h_2=>exact False.elim hk
  rename_i h2 h5;simp only[List.map] at hk
  have h6:(sizeOf e).run P w = .ok 1 w:=by
   simp only[Cl,Qw] at h5;obtain⟨i,hi,hs⟩:=h5;simp[sizeOf,typeInfo,hi,hs]
  have h7:(isAgg e).run P w = .ok false w:=by
   unfold E4 at h2;split at h2<;>(try (cases h2;done))
   .rename_i d e n1 n2
    simp only[isAgg,Sem.run_bind,Cd n2];simp
  generalize hv:a.eval x=v at *;generalize (AU x).ev st.get=X at *;generalize h3:a.eval y=v' at *;generalize (AU y).ev st.get=Y at *
  cases X<;>cases Y<;>(try (simp only[aK] at hk;done))
  rename_i cs q
  cases q<;>(try (simp only[aK] at hk;done))
  rename_i k n;simp only[aK] at hk;obtain⟨h0,hn,hd,hk⟩:=hk;obtain rfl:=DB h4 rfl
  cases hr with
  | agg _ _ us hl h1 hh =>
    have ha:n.toNat<cs.length:=by omega
    have h9:n.toNat<us.size:=by omega
    refine⟨_,_,_,hk,Ck m (v':=us.getD n.toNat undef) (hh _ ha) ?_⟩;simp[execOp,h,hv,h3,Instr.index,asIntOf,Cd hu,h0,hn,h6,part,h7,h9,Array.getD]
 rename_i hu;simp only[List.map] at hk;generalize hv:a.eval x=v at *;generalize (AU x).ev st.get=X at *;generalize h3:a.eval y=v' at *;generalize (AU y).ev st.get=Y at *
 cases X<;>cases Y<;>(try (simp only[aK] at hk;done))
 rename_i p q
 cases p<;>(try (simp only[aK] at hk;done))
 cases q<;>(try (simp only[aK] at hk;done))
 rename_i s k n;simp only[aK] at hk;obtain⟨h0,c,hc,hk⟩:=hk;obtain rfl:=DB hr rfl;obtain rfl:=DB h4 rfl;refine⟨_,_,_,hk,Ck m (.sc _ _ rfl) ?_⟩
 have hb:s[n.toNat]? = some c:=by
  have hi:n.toNat<s.data.toList.length:=(Qz.1 hc).1;have hi':n.toNat<s.size:=by simpa using hi
  have h1:=(Qz.1 hc).2;rw[getElem?_pos s n.toNat hi']
  congr 1
 simp[execOp,h,hv,h3,Instr.index,asIntOf,Cd hu,h0,hb]
end
section
variable {P:Program} {np:Nat} {T0:Nat->Nat} {M0:GM} {w0:World} {aA:Nat->Prop} {st:St} {T:Nat->Nat} {M:GM} {a:Act} {w:World} {idb:Nat}
theorem vH {t e:TypeId} {s:Nat} (hu:P.underlying t=some (.slice e)) (hs:(sizeOf e).run P w = .ok s w) (ad:Option Addr) (len cap l r m:Nat) (h0:l<=r) (h4:r<=m) (h5:m<=cap) (lo hi mx:Option Value) (h1:lo=some (.int .i64 l)∨(lo=none/\l=0)) (h2:hi=some (.int .i64 r)∨(hi=none/\r=len/\mx=none)) (h3:mx=some (.int .i64 m)∨(mx=none/\m=cap)) :
  (Instr.sliceAt t (.slice ad len cap) lo hi mx).run P w = .ok (.slice (if m=l then ad else ad.map (·.add (l*s))) (r - l) (m - l)) w:=by
 have sb:∀ (k y:Nat) code,k<=y->(Instr.sliceBound (.int .i64 (k:Nat)) y code).run P w = .ok k w:=by
  intro k y code hk;have:(k:Int)<=y:=by omega
  simp[Instr.sliceBound,asIntOf,this]
 have h6:r<=cap:=by omega
 rcases h1 with rfl | ⟨rfl,rfl⟩<;>rcases h2 with rfl | ⟨rfl,rfl,rfl⟩<;>(try (rcases h3 with rfl | ⟨rfl,rfl⟩))<;>(try (cases h3;done)) <;>
  simp_all [Instr.sliceAt,Cd hu,Instr.slice,Instr.sliceBounds]
variable (tm:∀ i,Ad T w M (st.get i) (a.tmps.getD i undef)) (m:Bw np T0 M0 w0 aA st.hp T M w)
include tm m
theorem kS (o:Oper) (t:TypeId) (x:Operand) (lo hi mx:Option Operand) (h:o.op = .slice t x lo hi mx):BC P np T0 M0 w0 aA st T M a w idb o:=by
 intro K hk;have hr:=Bq tm x;simp only[BA,h] at hk;split at hk
 case h_2=>exact False.elim hk
 rename_i e hu;split at hk
 case h_2=>exact False.elim hk
 rename_i s a5
 have a6:(sizeOf e).run P w = .ok s w:=by
  simp only[Cl,Qw] at a5;obtain⟨i,hi,hs⟩:=a5;simp[sizeOf,typeInfo,hi,hs]
 simp only[QR,Q5,Qo] at hk;generalize hv:a.eval x=v at *;generalize (AU x).ev st.get=X at *;unfold aK at hk;simp only at hk;obtain⟨l,r,mm,n,hn,am,h5,he,ho,a7,hk⟩:=hk;have one:∀ (y:Operand) (k:Nat),(AU y).ev st.get=AV.I k->a.eval y = .int .i64 k:=λ y k hy=>DB (Bq tm y) hy
 have bnds:(lo.map a.eval=some (.int .i64 l)∨(lo.map a.eval=none/\l=0))/\(hi.map a.eval=some (.int .i64 r)∨(hi.map a.eval=none/\r=n/\mx.map a.eval=none))/\(mx.map a.eval=some (.int .i64 mm)∨mx.map a.eval=none):=by
  cases lo<;>cases hi<;>cases mx<;>simp only[Option.isSome_none,Option.isSome_some,Q8,Option.map_none,Option.toList_some,Option.toList_none,QW,Q5,QR,Qo,UE,Ud,Ux,UY,forall_const,reduceCtorEq,false_and,or_false,false_or,true_and,and_true,List.cons.injEq,imp_self,Qt,implies_true] at h5 he ho a7 ⊢
  all_goals first
   | exact⟨he,ho⟩
   | exact absurd a7 id
   | exact⟨he,one _ _ h5⟩
   | exact⟨he,one _ _ h5.1,one _ _ h5.2⟩
   | exact⟨one _ _ h5,ho⟩
   | exact⟨one _ _ h5.1,one _ _ h5.2⟩
   | exact⟨one _ _ h5.1,one _ _ h5.2.1,one _ _ h5.2.2⟩
 obtain⟨b1,b2,b3⟩:=bnds;have hq:(mx.map a.eval).isSome=mx.isSome:=by cases mx<;>rfl
 have run2:∀ ad cap mc,v = .slice ad n cap->r<=mc->mc<=cap->(mx.isSome=true->mc=mm)->(mx.isSome=false->mc=cap)->(execOp a.eval o).run P w = .ok (.value (.slice (if mc=l then ad else ad.map (·.add (l*s))) (r - l) (mc - l))) w:=by
  rintro ad cap mc rfl h1 h2 h3 h4
  have:=vH hu a6 ad n cap l r mc am h1 h2 _ _ _ b1 b2 (by
   cases hm:mx.isSome with
   | true =>
     rcases b3 with b3 | b3
     .exact .inl (by rw[b3,h3 hm])
     .have:=congrArg Option.isSome b3
      rw[hq,hm] at this
      cases this
   | false =>
     refine .inr ⟨?_,h4 hm⟩;have:=hq;rw[hm] at this
     simpa using this)
  simp[execOp,h,hv,this]
 have run:∀ ad cap,n<=cap->r<=n->(mx.isSome=true->mm=r)->v = .slice ad n cap->(execOp a.eval o).run P w = .ok (.value (.slice (if (if mx.isSome then r else cap)=l then ad else ad.map (·.add (l*s))) (r - l) ((if mx.isSome then r else cap) - l))) w:=by
  intro ad cap hc h6 h9 an;refine run2 ad cap _ an ?_ ?_ (λ h=>by rw[if_pos h,h9 h]) (λ h=>by rw[h];rfl)
  .split<;>omega
  .split<;>omega
 cases X<;>(try (exact False.elim hk))
 .rename_i u
  split at hk<;>(try (exact False.elim hk))
  .rename_i h1;cases h1
  .rename_i h1;cases h1
  .rename_i h1;cases h1
  .rename_i h1
   cases h1;obtain⟨h6,h9,hk⟩:=hk;obtain rfl:=DB hr rfl;simp only[lenOf,Qt] at hn;subst hn;obtain rfl:r=0:=by omega
   obtain rfl:l=0:=by omega
   refine⟨_,_,_,hk,Ck m (.sc _ _ rfl) ?_⟩;rw[run none 0 (Qk _) h6 h9 rfl];simp
 .rename_i s' full rows
  obtain⟨h6,h9,rfl,hk⟩:=hk;simp only[lenOf,Qt] at hn;subst hn
  cases hr with
  | vs _ _ _ _ ad cap c hf au hw hb h1 hh =>
    have h0:((rows.drop l).take (r - l)).length=r - l:=by simp;omega
    have run':=run ad cap au h6 h9 rfl;refine⟨_,_,_,hk,?_⟩;rw[run'];refine⟨T,M,m.wider λ _ h=>.inl h,Au.refl _ _,λ _ _ h=>h,?_⟩
    suffices hS:Ad T w M (.vs s' (mx.isSome || full && !hi.isSome) ((rows.drop l).take (r - l))) (.slice (if (if mx.isSome then r else cap)=l then ad else ad.map (·.add (l*s'))) ((rows.drop l).take (r - l)).length ((if mx.isSome then r else cap) - l)) by
     rwa [h0] at hS
    refine .vs _ _ _ _ _ _ (λ i j=>c (l+i) j) (λ h7=>?_) ?_ (λ row a8=>hw row (UW (QZ a8))) (λ av=>?_) (λ i j hi hj=>h1 _ _ (by rw[h0] at hi;omega) hj) λ i j hi hj=>?_
    .rw [h0]
     cases b4:mx.isSome with
     | true=>simp
     | false =>
       simp only[b4,Bool.false_or,QM,UF] at h7;have:=hf h7.1;have:=ho h7.2;simp;omega
    .rw [h0]
     split<;>omega
    .have bf:0<r - l:=by
      rw[<- h0];exact Uy.2 av
     obtain⟨b,off,cells,ty,fz,rfl,hd,hT,hc⟩:=hb (by rintro rfl;simp at h6;omega)
     refine⟨b,off+l*s',cells,ty,fz,?_,hd,?_,λ i j hi hj=>?_⟩
     .rw [if_neg (by split<;>omega)]
      simp[Addr.add_none]
     .rw [h0]
      have:(l+(r - l))*s'<=rows.length*s':=QD _ (by omega)
      rw[QI] at this;omega
     .rw [h0] at hi
      have:=hc (l+i) j (by omega) hj
      rw[QI] at this;rw[show off+l*s'+i*s'+j=off+(l*s'+i*s')+j by omega]
      exact this
    .rw [h0] at hi
     have:=hh (l+i) j (by omega) hj
     have e:((rows.drop l).take (r - l)).getD i []=rows.getD (l+i) []:=by
      simp only[List.getD,UC,Q9];rw[if_pos hi]
     rw[e];exact this
 .rename_i i off len
  obtain⟨h6,a9,⟨en,hx,hs⟩,hk⟩:=hk;simp only[lenOf,Qt] at hn;subst hn
  cases hr with
  | rs _ _ _ _ cap ad g hg hz hl a0 hb =>
    obtain⟨g',a1,ent⟩:=m.hs.ent i en hx;obtain rfl:=Qf (hg.symm.trans a1);have run':=run ad cap hl h6 (λ h=>by rw[a9] at h;cases h) rfl
    refine⟨_,_,_,hk,?_⟩;rw[run'];simp only[a9,Ud,Ux];refine⟨T,M,m.wider λ _ h=>.inl h,Au.refl _ _,λ _ _ h=>h,.rs _ _ _ _ _ _ g hg hz (by omega) (λ a2=>?_) λ b a3=>?_⟩
    .obtain ⟨h1,h2⟩:=a0 a2
     omega
    .obtain ⟨ha,cells,ty,fz,hd,ag⟩:=hb b a3
     refine⟨?_,cells,ty,fz,hd,?_⟩
     .by_cases a4:cap=l
      .exact .inl (by omega)
      .rw [if_neg a4]
       rcases ha with ha | ha
       .omega
       .subst ha
        right
        simp only[Q8,Addr.add_none];rw[<- hs,<- ent.s,QI,UL]
     .have:(l+(cap - l))*g.s=cap*g.s:=by rw[show l+(cap - l)=cap by omega]
      rw[QI] at this;rw[QI];omega
 .rename_i i off len c
  obtain⟨b5,b6,ai,⟨en,hx,hs⟩,hk⟩:=hk;simp only[lenOf,Qt] at hn;subst hn
  cases hr with
  | rk _ _ _ _ _ ad g hg hz hl a0 hb =>
    obtain⟨g',a1,ent⟩:=m.hs.ent i en hx;obtain rfl:=Qf (hg.symm.trans a1);have run':=run2 ad c mm rfl b5 b6 (λ _=>rfl) ai;refine⟨_,_,_,hk,?_⟩;rw[run'];refine⟨T,M,m.wider λ _ h=>.inl h,Au.refl _ _,λ _ _ h=>h,.rk _ _ _ _ _ _ g hg hz (by omega) (λ a2=>?_) λ b a3=>?_⟩
    .obtain ⟨h1,h2⟩:=a0 a2
     omega
    .obtain ⟨ha,cells,ty,fz,hd,ag⟩:=hb b a3
     refine⟨?_,cells,ty,fz,hd,?_⟩
     .by_cases a4:mm=l
      .exact .inl (by omega)
      .rw [if_neg a4]
       rcases ha with ha | ha
       .omega
       .subst ha
        right
        simp only[Q8,Addr.add_none];rw[<- hs,<- ent.s,QI,UL]
     .have:(l+(mm - l))*g.s<=c*g.s:=QD _ (by omega)
      rw[QI] at this;rw[QI];omega
theorem sN (o:Oper) (c:Call) (h:o.op = .call c) (hb:c.callee = .builtin .cap):BC P np T0 M0 w0 aA st T M a w idb o:=by
 intro K hk;simp only[BA,h,hb] at hk;split at hk
 case h_2=>exact False.elim hk
 rename_i t x ht hx;have h0:c.argTypes = #[t]:=by rw[<- QS (xs:=c.argTypes),ht]
 have h1:c.args = #[x]:=by rw[<- QS (xs:=c.args),hx]
 have hr:=Bq tm x;split at hk
 case h_2=>exact False.elim hk
 rename_i e hu;simp only[List.map] at hk;generalize hv:a.eval x=v at *;generalize (AU x).ev st.get=X at *
 by_cases hX:X = .nilS
 .subst hX
  simp only[AV.nilS,aK] at hk;obtain rfl:=DB hr rfl;refine⟨_,_,_,hk,Ck m (.sc _ _ rfl) ?_⟩;simp[execOp,h,resolve,hb,invoke,builtin,Builtin.cap_,h0,h1,hv,Cd hu,goInt]
 cases X<;>(try (simp only[aK] at hk;done))
 case sc v0 =>
  exfalso
  cases v0<;>(try (simp only[aK] at hk;done))
  rename_i ad l cc
  cases ad<;>cases l<;>cases cc<;>(try (simp only[aK] at hk;done))
  exact hX rfl
 simp only[aK] at hk
 cases hr;refine⟨_,_,_,hk,Ck m (.sc _ _ rfl) ?_⟩;simp[execOp,h,resolve,hb,invoke,builtin,Builtin.cap_,h0,h1,hv,Cd hu,goInt]
end
def Fq (T:Nat->Nat) (w:World) (M:GM) (cs:List AV) (us:Array Value):Prop :=
 us.size=cs.length /\ ∀ i,i<cs.length->(us.getD i undef).oneCell'=true/\Ad T w M (cs.getD i .dead) (us.getD i undef)
theorem Ox (off:Nat):∀ (l:List Value) (k:Nat) (cells:Array Value),
  ((l.zipIdx k).foldl (λ cs p=>cs.setIfInBounds (off+p.2) p.1) cells).size=cells.size /\
  ∀ i,i<cells.size->((l.zipIdx k).foldl (λ cs p=>cs.setIfInBounds (off+p.2) p.1) cells)[i]? = if off+k<=i/\i<off+k+l.length then l[i - (off+k)]? else cells[i]?
 | [],k,cells=>⟨rfl,λ i hi=>by simp;omega⟩
 | v::l,k,cells=>by
   have ih:=Ox off l (k+1) (cells.setIfInBounds (off+k) v);simp only[List.zipIdx_cons,List.foldl_cons];refine⟨by rw[ih.1];simp,λ i hi=>?_⟩
   rw[ih.2 i (by simpa using hi)]
   by_cases h:i=off+k
   .subst h
    rw[if_neg (by omega),if_pos (by simp)]
    simp[hi]
   .by_cases h2:off+(k+1)<=i/\i<off+(k+1)+l.length
    .rw [if_pos h2,if_pos (by simp;omega)]
     rw[show i - (off+k)=(i - (off+(k+1)))+1 by omega]
     simp
    .rw [if_neg h2,if_neg (by simp;omega),Array.getElem?_setIfInBounds_ne (by omega)]
theorem Ff {l:Array Value} {i:Nat} {x:Value} (h:l[i]? = some x):l.getD i undef=x:=by
 simp[QE,h]
theorem u7 {T w M} {cells:List AV} {us:Array Value} (hC:Fq T w M cells us) {cs:List AV} {v:Value} (hv:v.cells.size=cs.length) (h5:∀ j,j<cs.length->(v.cells.getD j undef).oneCell'=true/\Ad T w M (cs.getD j .dead) (v.cells.getD j undef)) {off:Nat} (ho:off+cs.length<=cells.length) :
  Fq T w M (cells.take off++cs++cells.drop (off+cs.length)) (v.cells.zipIdx.foldl (λ cs (c,j)=>cs.setIfInBounds (off+j) c) us):=by
 have e:v.cells.zipIdx.foldl (λ cs (c,j)=>cs.setIfInBounds (off+j) c) us=(v.cells.toList.zipIdx 0).foldl (λ cs p=>cs.setIfInBounds (off+p.2) p.1) us:=by
  rw[<- Array.foldl_toList,Array.toList_zipIdx]
 rw[e];obtain⟨h1,h2⟩:=Ox off v.cells.toList 0 us;have h0:(cells.take off++cs++cells.drop (off+cs.length)).length=cells.length:=by simp;omega
 refine⟨by rw[h1,h0];exact hC.1,λ i hi=>?_⟩
 rw[h0] at hi;have h3:=h2 i (by rw[hC.1];exact hi)
 simp only[Ua,Uo,hv] at h3
 by_cases h4:off<=i/\i<off+cs.length
 .rw [if_pos h4] at h3
  have hj:i - off<v.cells.size:=by omega
  have e1:v.cells.toList[i - off]? = some (v.cells.getD (i - off) undef):=by simp[Array.getD,hj]
  rw[e1] at h3;rw[Ff h3]
  have e2:(cells.take off++cs++cells.drop (off+cs.length)).getD i .dead=cs.getD (i - off) .dead:=by
   simp only[List.getD];rw[Qu,Qv (by simp;omega),QJ (by simp;omega)]
   simp
   congr 2
   omega
  rw[e2];exact h5 (i - off) (by omega)
 .rw [if_neg h4] at h3
  have hi':i<us.size:=by rw[hC.1];exact hi
  have e1:us[i]? = some (us.getD i undef):=by simp[Array.getD,hi']
  rw[e1] at h3;rw[Ff h3]
  have e2:(cells.take off++cs++cells.drop (off+cs.length)).getD i .dead=cells.getD i .dead:=by
   simp only[List.getD]
   by_cases h6:i<off
   .rw [Qu,QJ (by simp;omega)]
    simp[h6]
   .rw [Qv (by simp;omega)]
    simp only[Q9,Qg,QV]
    congr 2
    omega
  rw[e2];exact hC.2 i hi
theorem PZ {T w M} (h6:Nat->Option (Nat × Nat)):∀ (ps:List (Nat × Value)) (pl:List (Nat × Nat)) (xs:List AV) (cells:List AV) (us:Array Value) (out:List AV),
  Fq T w M cells us->ps.mapM (λ p=>h6 p.1)=some pl->xs.length=ps.length->(∀ i,i<xs.length->Ad T w M (xs.getD i .dead) ((ps.map (·.2)).getD i undef))->E7 cells pl xs=some out ->
  ∃ us',Instr.fill h6 us ps=some us'/\Fq T w M out us'
 | [],pl,xs,cells,us,out,hC,hp,hl,hr,hf=>by
   simp at hp;subst hp;have:xs=[]:=QL hl;subst this;simp only[E7,Qt] at hf;subst hf;exact⟨us,rfl,hC⟩
 | (i,v)::ps,pl,xs,cells,us,out,hC,hp,hl,hr,hf=>by
   cases xs with
   | nil=>simp at hl
   | cons x xs =>
   simp only[Vl,Option.bind_eq_bind,Option.pure_def,Ul] at hp;obtain⟨⟨off,size⟩,h1,pl',h2,h3⟩:=hp;simp only[Qt] at h3;subst h3;simp only[E7] at hf;split at hf
   case h_2=>cases hf
   rename_i cs h7;split at hf
   case isFalse=>cases hf
   rename_i hc;have h0:=hr 0 (by simp)
   simp only[US,Qo] at h0;obtain⟨e1,e2⟩:=MP h0 h7;have st:=u7 hC e1 e2 (off:=off) (by omega)
   rw[hc.1] at st;obtain⟨us',h4,h5⟩:=PZ h6 ps pl' xs _ _ out st h2 (by simpa using hl) (λ k hk=>by have:=hr (k+1) (by simpa using hk);simpa using this) hf
   refine⟨us',?_,h5⟩;simp only[Instr.fill,h1];rw[if_neg]
   .exact h4
   .simp only[ne_eq,UO,Qd,not_or,Decidable.not_not]
    have:=hC.1;omega
section
variable {P:Program} {np:Nat} {T0:Nat->Nat} {M0:GM} {w0:World} {aA:Nat->Prop} {st:St} {T:Nat->Nat} {M:GM} {a:Act} {w:World} {idb:Nat}
theorem ID {t:TypeId} {z:List Value} (h:Hp P t=some z):∃ i zv,P.info? t=some i/\i.zero=some zv/\zv.cells.toList=z/\z.length=i.size /\ ∀ v∈z,v.oneCell'=true:=by
 unfold Hp at h;split at h
 case h_2=>cases h
 rename_i i hi;split at h
 case h_2=>cases h
 rename_i zv hz;split at h
 case isFalse=>cases h
 rename_i hc;simp only[Qt] at h;subst h;simp only[QM,beq_iff_eq] at hc;refine⟨i,zv,hi,hz,rfl,by simpa using hc.2,λ v hv=>?_⟩
 exact List.all_eq_true.1 hc.1 v hv
theorem Og {T w M} {z:List Value} (h:∀ v∈z,v.oneCell'=true):Fq T w M (z.map .sc) z.toArray:=by
 refine⟨by simp,λ i hi=>?_⟩
 simp only[Qr] at hi;have e:z.toArray.getD i undef=z[i]:=by simp[Array.getD,hi]
 rw[e,zep _ _ _ hi];exact⟨h _ (Qj hi),.sc _ _ (h _ (Qj hi))⟩
variable (tm:∀ i,Ad T w M (st.get i) (a.tmps.getD i undef)) (m:Bw np T0 M0 w0 aA st.hp T M w) (aB:∀ k,k<8->¬ aA (idb+k)) (aC:np<=idb)
include tm m
omit tm m in
theorem Sa (s:Nat):∀ ps:List (Nat × Value),ps.mapM (λ p=>(λ i=>some (i*s,s):Nat->Option (Nat × Nat)) p.1)=some (ps.map λ p=>(p.1*s,s))
 | []=>rfl
 | p::ps=>by
   rw[Vl,Sa s ps];rfl
theorem ZB (o:Oper) (t:TypeId) (ps:Array (Nat × Operand)) (h:o.op = .build t ps):BC P np T0 M0 w0 aA st T M a w idb o:=by
 intro K hk;simp only[BA,h] at hk;split at hk
 case h_3=>exact False.elim hk
 case h_2 =>
  rename_i z n e hz hu;split at hk
  case h_2=>exact False.elim hk
  rename_i ie h6;simp only[List.map_map,aK] at hk;obtain⟨cs,h2,hk⟩:=hk;obtain⟨i,zv,hi,h3,h4,-,h0⟩:=ID hz
  have h5:Fq T w M (z.map .sc) zv.cells:=by
   have:=Og (T:=T) (w:=w) (M:=M) h0;subst h4
   rwa [QS] at this
  have h1:(ps.toList.map λ (x:Nat × Operand)=>(x.1,a.eval x.2)).mapM (λ p=>(λ i=>some (i*ie.size,ie.size):Nat->Option (Nat × Nat)) p.1)=some (ps.toList.map λ p=>(p.1*ie.size,ie.size)):=by
   rw[Sa,List.map_map];rfl
  obtain⟨us,hf,hC⟩:=PZ (T:=T) (w:=w) (M:=M) (λ i=>some (i*ie.size,ie.size)) (ps.toList.map λ (x:Nat × Operand)=>(x.1,a.eval x.2)) _ _ _ _ cs h5 h1 (by simp) (λ k hk=>by
   simp only[Qr,Uo] at hk;have e1:(ps.toList.map ((λ x=>x.ev st.get)∘λ x=>AU x.2)).getD k .dead=(AU ps[k].2).ev st.get:=by simp[List.getD,hk]
   have e2:((ps.toList.map λ (x:Nat × Operand)=>(x.1,a.eval x.2)).map (·.2)).getD k undef=a.eval ps[k].2:=by simp[List.getD,hk]
   rw[e1,e2]
   exact Bq tm _) h2
  refine⟨_,_,_,hk,Ck m (v':=.agg us) (.agg _ _ _ hC.1 (λ i hi=>(hC.2 i hi).1) λ i hi=>(hC.2 i hi).2) ?_⟩
  have hb:=run_build (P:=P) w t (ps.map λ (i,x)=>(i,a.eval x)) us (by
   unfold Program.built;simp only[hi,hu,h3,h6]
   simpa using hf)
  simp only[execOp,h,Sem.run_bind,hb,Result.andThen_ok,Sem.run_pure]
 rename_i z fs hz hu;split at hk
 case h_2=>exact False.elim hk
 rename_i places hpl;split at hk
 case h_2=>exact False.elim hk
 rename_i pl h7;simp only[List.map_map,aK] at hk;obtain⟨cs,h2,hk⟩:=hk;obtain⟨i,zv,hi,h3,h4,-,h0⟩:=ID hz
 have h5:Fq T w M (z.map .sc) zv.cells:=by
  have:=Og (T:=T) (w:=w) (M:=M) h0;subst h4
  rwa [QS] at this
 have h1:(ps.toList.map λ (x:Nat × Operand)=>(x.1,a.eval x.2)).mapM (λ p=>places[p.1]?)=some pl:=by
  rw[List.mapM_map];exact h7
 obtain⟨us,hf,hC⟩:=PZ (T:=T) (w:=w) (M:=M) (places[·]?) (ps.toList.map λ (x:Nat × Operand)=>(x.1,a.eval x.2)) pl _ _ _ cs h5 h1 (by simp) (λ k hk=>by
  simp only[Qr,Uo] at hk;have e1:(ps.toList.map ((λ x=>x.ev st.get)∘λ x=>AU x.2)).getD k .dead=(AU ps[k].2).ev st.get:=by simp[List.getD,hk]
  have e2:((ps.toList.map λ (x:Nat × Operand)=>(x.1,a.eval x.2)).map (·.2)).getD k undef=a.eval ps[k].2:=by simp[List.getD,hk]
  rw[e1,e2]
  exact Bq tm _) h2
 refine⟨_,_,_,hk,Ck m (v':=.agg us) (.agg _ _ _ hC.1 (λ i hi=>(hC.2 i hi).1) λ i hi=>(hC.2 i hi).2) ?_⟩
 have hb:=run_build (P:=P) w t (ps.map λ (i,x)=>(i,a.eval x)) us (by
  unfold Program.built;simp only[hi,hu,h3,hpl]
  simpa using hf)
 simp only[execOp,h,Sem.run_bind,hb,Result.andThen_ok,Sem.run_pure]
include aB aC
omit tm in
theorem IZ {e:AQ} {cells:Array Value} {ty:TypeId} {s:Sem Next} {v:AV} {v':Value} {w1:World} (hs:s.run P w = .ok (.value v') w1) (hh:w1.heap=w.heap.push (.cells cells ty)) (os:w1.os=w.os) (tape:w1.tape=w.tape)
  (output:w1.output=w.output) (h7:e.s≠0) (ro:e.ro<=e.rows.length) (wide:∀ row∈e.rows,row.length=e.s) (h0:e.rows.length*e.s<=cells.size)
  (hc:∀ i j,i<e.rows.length->j<e.s -> ∃ v,cells[i*e.s+j]? = some v/\v.oneCell'=true/\Ad T w M ((e.rows.getD i []).getD j .dead) v)
  (up:List (Nat × Option AQ)) (h5:AW up idb=some (some e)) (h6:∀ i x,i≠idb->AW up i=some x->x=none)
  (hr:∀ M':GM,M' idb=some ⟨some w.heap.size,0,e.s⟩->Ad T w1 M' v v') :
  FL P np T0 M0 w0 aA idb (st.upd up).hp T M w v (s.run P w):=by
 rw[hs]
 obtain⟨M',h1,h2,h3,h4⟩:=m.new (aB 0 (by omega)) aC hh os tape output e h7 ro wide h0 hc (hp':=(st.upd up).hp) (by rw[St.hp_upd,Ua,h5];rfl) (λ i e' hi he=>by
  rw[St.hp_upd] at he;rw[Ua] at hi
  cases hl:AW up i with
  | none=>rw[hl] at he;exact he
  | some x=>rw[hl,h6 i x hi hl] at he;cases he)
 exact⟨T,M',h3.wider (λ i hi=>hi.elim .inl λ hi=>.inr (by omega)),h4,h2,hr M' h1⟩
omit tm in
theorem lB (o:Oper) (t:TypeId) (h:o.op = .alloc t):BC P np T0 M0 w0 aA st T M a w idb o:=by
 intro K hk;simp only[BA,h] at hk;split at hk
 case h_2=>exact False.elim hk
 rename_i y0 z0 hz;obtain⟨z,h2⟩:=AG (y0::z0);rw[<- h2] at hz hk;have h3:z.length≠0:=by rw[h2];simp
 simp only[List.map,aK] at hk;obtain⟨i,zv,hi,h5,h1,-,h4⟩:=ID hz;have hC:=Og (T:=T) (w:=w) (M:=M) h4;refine⟨_,_,_,hk,IZ m aB aC (e:={ s:=z.length,rows:=[z.map .sc] }) (w1:=w.alloc (.cells zv.cells t)) (cells:=zv.cells) (ty:=t) (v':=.pointer (some ⟨w.heap.size,0,none⟩)) ?_ rfl rfl rfl rfl h3 (Qh _) ?_ ?_ ?_ _ (by simp[AW]) (λ i x hi hx=>by simp[AW] at hx;omega) ?_⟩
 .simp [execOp,h,Instr.alloc,zeroValue,typeInfo,hi,h5,newVar,newRow]
 .intro row h0;simp at h0;subst h0;simp
 .simp [<- h1]
 .intro i j hi hj
  simp at hi hj;subst hi;have:=hC.2 j (by simpa using hj)
  refine⟨z.toArray.getD j undef,?_,this.1,by simpa using this.2⟩
  rw[<- h1,QS];rw[<- h1] at hj;simp at hj;simp[Array.getD,hj]
 .intro M' h6
  have:=λ w1=>Ad.pt (T:=T) (w:=w1) M' idb 0 0 _ _ h6 h3 rfl
  simpa using this _
omit tm m aB aC in
theorem Mu {z:List Value} (h1:∀ v∈z,v.oneCell'=true) {s:Nat} (hs:z.length=s) (n:Nat) (cells:Array Value) (k:Nat) (h0:cells=(Array.range k).map λ i=>z.toArray[i % z.toArray.size]!) (hk:n*s<=k) :
  ∀ i j,i<(List.replicate n (z.map AV.sc)).length->j<s -> ∃ v,cells[i*s+j]? = some v/\v.oneCell'=true/\Ad T w M (((List.replicate n (z.map AV.sc)).getD i []).getD j .dead) v:=by
 intro i j hi hj;simp at hi;have h2:=FY hi hj;refine⟨z[j]'(by omega),?_,h1 _ (Qj _),?_⟩
 .subst h0
  rw[Array.getElem?_map,Array.getElem?_range,if_pos (by omega)]
  simp only[Q8,Ue,hs]
  congr 1
  rw[show (i*s+j) % s=j by rw[Nat.add_comm,Nat.add_mul_mod_self_right];exact Vi hj]
  simp[show j<z.length by omega]
 .have:(List.replicate n (z.map AV.sc)).getD i []=z.map AV.sc:=by simp[List.getD,hi]
  rw[this,zep _ _ _ (by omega)]
  exact .sc _ _ (h1 _ (Qj _))
theorem vP (o:Oper) (t:TypeId) (x y:Operand) (h:o.op = .makeSlice t x y):BC P np T0 M0 w0 aA st T M a w idb o:=by
 intro K hk;simp only[BA,h] at hk;split at hk
 case h_2=>exact False.elim hk
 rename_i e hu;split at hk
 case h_2=>exact False.elim hk
 rename_i z s b hz hs hb;split at hk
 case isFalse=>exact False.elim hk
 rename_i h1;simp only[List.map] at hk;obtain⟨i,zv,hi,h6,h7,hj,h4⟩:=ID hz;have hs':i.size=s:=by simpa [Cl,hi] using hs
 have h9:i.bytes=b:=by simpa [Ia,hi] using hb
 have hr:=Bq tm x;have ha:=Bq tm y;generalize hv:a.eval x=v at *;generalize (AU x).ev st.get=X at *;generalize hd:a.eval y=v' at *;generalize (AU y).ev st.get=Y at *
 cases X<;>cases Y<;>(try (simp only[aK] at hk;done))
 rename_i p q
 cases p<;>(try (simp only[aK] at hk;done))
 cases q<;>(try (simp only[aK] at hk;done))
 rename_i k l k' c;simp only[aK] at hk;obtain⟨h0,he,ho,hc,h2,hk⟩:=hk;obtain rfl:=DB hr rfl;obtain rfl:=DB ha rfl;have run:=run_make (P:=P) w t e i zv hu hi h6 k k' l c h0 he (by rw[h9,Int.mul_comm];omega) (by omega)
 have h3:l.toNat*s<=c.toNat*i.size:=by rw[hs'];exact QD _ (by omega)
 refine⟨_,_,_,hk,IZ m aB aC (e:={ s:=s,rows:=List.replicate l.toNat (z.map .sc) }) (w1:=w.alloc (.cells (madeCells zv.cells (c.toNat*i.size)) e)) (cells:=madeCells zv.cells (c.toNat*i.size)) (ty:=e)
  (v':=.slice (some ⟨w.heap.size,0,none⟩) l.toNat c.toNat) ?_ rfl rfl rfl rfl (UT.1 h1) (Qh _) ?_ ?_ ?_ _ (by simp[AW]) (λ i x hi hx=>by simp[AW] at hx;omega) ?_⟩
 .simp [execOp,h,hv,hd,run]
 .intro row h5
  have:=(List.mem_replicate.1 h5).2;subst this;simp[h2]
 .simpa [size_madeCells] using h3
 .refine Mu (T:=T) (w:=w) (M:=M) h4 h2 l.toNat _ (c.toNat*i.size) ?_ h3
  rw[<- h7,QS];rfl
 .intro M' hf
  refine .rs _ _ 0 _ _ _ _ hf (UT.1 h1) (by omega) (λ hn=>by cases hn) λ b' hh=>?_
  obtain rfl:=Qf hh;refine⟨.inr (by simp),madeCells zv.cells (c.toNat*i.size),e,(0,0),by show (w.heap.push _)[w.heap.size]? = _;simp,?_⟩
  simp[size_madeCells,hs']
theorem vG (o:Oper) (t:TypeId) (x:Operand) (h:o.op = .box t x):BC P np T0 M0 w0 aA st T M a w idb o:=by
 intro K hk;simp only[BA,h] at hk;split at hk
 case h_2=>exact False.elim hk
 rename_i s hz;simp only[List.map,aK] at hk;obtain⟨cs,h3,hl,hk⟩:=hk;obtain⟨h1,h2⟩:=MP (Bq tm x) h3;refine⟨_,_,_,hk,IZ m aB aC (e:={ s:=s+1,rows:=[cs] }) (w1:=w.alloc (.cells (a.eval x).cells t)) (cells:=(a.eval x).cells) (ty:=t) (v':=.pointer (some ⟨w.heap.size,0,none⟩)) ?_ rfl rfl rfl rfl (UR s) (Qh _) ?_ ?_ ?_ _ (by simp[AW]) (λ i x hi hx=>by simp[AW] at hx;omega) ?_⟩
 .simp [execOp,h,Instr.box,newVar,newRow]
 .intro row h0;simp at h0;subst h0;exact hl
 .simp;omega
 .intro i j hi hj
  simp at hi hj;subst hi;have:=h2 j (by omega)
  refine⟨(a.eval x).cells.getD j undef,?_,this.1,by simpa using this.2⟩
  have h4:j<(a.eval x).cells.size:=by omega
  simp[Array.getD,h4]
 .intro M' h5
  have:=λ w1=>Ad.pt (T:=T) (w:=w1) M' idb 0 0 _ _ h5 (UR s) rfl
  simpa using this _
end
theorem zrg {S k j s i' j':Nat} (h0:j'<S) (hs:j+s<=S):(k*S+j<=i'*S+j'/\i'*S+j'<k*S+j+s)↔(i'=k/\j<=j'/\j'<j+s):=by
 constructor
 .rintro ⟨h1,h2⟩
  have:i'=k:=by
   rcases Nat.lt_trichotomy i' k with h | h | h
   .have:(i'+1)*S<=k*S:=QD _ h
    rw[QI] at this;omega
   .exact h
   .have:(k+1)*S<=i'*S:=QD _ h
    rw[QI] at this;omega
  subst this;exact⟨rfl,by omega,by omega⟩
 .rintro ⟨rfl,h1,h2⟩
  omega
theorem Yp (row cs:List AV) (j:Nat) (h:j+cs.length<=row.length):(Ay row j cs).length=row.length:=by
 unfold Ay;simp;omega
theorem Vz (row cs:List AV) (j i:Nat) (h:j+cs.length<=row.length) :
  (Ay row j cs).getD i .dead=if j<=i/\i<j+cs.length then cs.getD (i - j) .dead else row.getD i .dead:=by
 unfold Ay;simp only[List.getD]
 by_cases h1:i<j
 .rw [Qu,QJ (by simp;omega),if_neg (by omega)]
  simp[h1]
 .by_cases h2:i<j+cs.length
  .rw [Qu,Qv (by simp;omega),QJ (by simp;omega),if_pos (by omega)]
   simp
   congr 2
   omega
  .rw [Qv (by simp;omega),if_neg (by omega)]
   simp only[Q9,Qg,QV]
   congr 2
   omega
theorem MH (h0:Array Value) (o:Nat) (vs:List Value) (h:o+vs.length<=h0.size) :
  (h0.toList.take o++vs++h0.toList.drop (o+vs.length)).toArray.size=h0.size /\
  ∀ i:Nat,(h0.toList.take o++vs++h0.toList.drop (o+vs.length)).toArray[i]? = if o<=i/\i<o+vs.length then vs[i - o]? else h0[i]?:=by
 refine⟨by simp;omega,λ i=>?_⟩
 simp only[List.getElem?_toArray]
 by_cases h1:i<o
 .rw [Qu,QJ (by simp;omega),if_neg (by omega)]
  simp[h1]
 .by_cases h2:i<o+vs.length
  .rw [Qu,Qv (by simp;omega),QJ (by simp;omega),if_pos (by omega)]
   simp
   congr 1
   omega
  .rw [Qv (by simp;omega),if_neg (by omega)]
   simp only[Q9,Qg,QV,Uo,Array.getElem?_toList]
   congr 1
   omega
section
variable {P:Program} {np:Nat} {T0:Nat->Nat} {M0:GM} {w0:World} {aA:Nat->Prop} {st:St} {T:Nat->Nat} {M:GM} {a:Act} {w:World} {idb:Nat}
variable (tm:∀ i,Ad T w M (st.get i) (a.tmps.getD i undef)) (m:Bw np T0 M0 w0 aA st.hp T M w) (aB:∀ k,k<8->¬ aA (idb+k)) (aC:np<=idb)
include tm m
theorem iW (o:Oper) (t:TypeId) (x y:Operand) (h:o.op = .store t x y):BC P np T0 M0 w0 aA st T M a w idb o:=by
 intro K hk;simp only[BA,h] at hk;split at hk
 case h_2=>exact False.elim hk
 rename_i s h7;simp only[List.map] at hk
 have h9:(sizeOf t).run P w = .ok s w:=by
  simp only[Cl,Qw] at h7;obtain⟨i,hi,hs⟩:=h7;simp[sizeOf,typeInfo,hi,hs]
 have hr:=Bq tm x;have hy:=Bq tm y;generalize hv:a.eval x=v at *;generalize (AU x).ev st.get=X at *;generalize a0:a.eval y=v' at *;generalize (AU y).ev st.get=Y at *
 cases X<;>(try (simp only[aK] at hk;done))
 rename_i i k j;simp only[aK] at hk;obtain⟨e,row,cs,he,h0,a1,a2,hl,a7,hk⟩:=hk;obtain⟨c1,c2⟩:=MP hy a2
 cases hr with
 | pt _ _ _ _ g b hg hz hb =>
   obtain⟨g',a3,ent⟩:=m.hs.ent i e he;obtain rfl:=Qf (hg.symm.trans a3);obtain⟨cells,ty,h1,hT,h3,a4⟩:=ent.blk (ent.s ▸ hz) b hb;have h4:k<e.rows.length:=(Qz.1 h0).1;have ha:=ent.wide (ent.s ▸ hz) row (Uj h0);have a5:e.rows.getD k []=row:=by simp[List.getD,h0]
   have hS:g.s=e.s:=ent.s
   have hc:g.base+k*g.s+j+v'.cells.toList.length<=cells.size:=by
    have:(k+1)*e.s<=e.rows.length*e.s:=QD _ h4;rw[QI] at this;rw[hS];simp;omega
   have hd:=run_storeCells_at P b (g.base+k*g.s+j) ty v'.cells.toList 0 cells w h1 (by simpa using hc) (λ u hu=>by
    obtain⟨n,hn,rfl⟩:=Uq hu;simp at hn;have:=(c2 n (by omega)).1
    simpa [Array.getD,hn] using this)
   simp only[Ua] at hd;obtain⟨s1,s2⟩:=MH cells (g.base+k*g.s+j) v'.cells.toList hc;have a6:v'.cells.toList.length=s:=by simp;omega
   have hf:(execOp a.eval o).run P w = .ok .skip (w.setRow b (cells.toList.take (g.base+k*g.s+j)++v'.cells.toList++cells.toList.drop (g.base+k*g.s+j+v'.cells.toList.length)).toArray):=by
    have h5:¬ (v'.cells.size≠s):=by omega
    simp[execOp,h,hv,a0,Instr.storeAt,Instr.sureAddr,storeVar,h9,hd,show v'.cells.size=s by omega]
   generalize hh:(cells.toList.take (g.base+k*g.s+j)++v'.cells.toList++cells.toList.drop (g.base+k*g.s+j+v'.cells.toList.length)).toArray=cells' at *;rw[a6] at s2
   obtain⟨M',m1,m2,m3,m4⟩:=m.write (id':=i) (g':=g) (e:={ e with rows:=e.rows.set k (Ay row j cs) }) (cells':=cells') he hg hb h1 s1 (λ q hq=>by
     rw[s2,if_neg];have:e.ro*e.s<=k*e.s:=QD _ a1;rw[hS];omega) (.inl ⟨rfl,rfl⟩) hb hS (ent.s ▸ hz) (by simpa using ent.ro) (λ r hr=>by
     simp only at hr;rcases List.mem_or_eq_of_mem_set hr with h | h
     .exact ent.wide (ent.s ▸ hz) r h
     .subst h;rw[Yp _ _ _ (by omega)];exact ha) hT (by simpa using h3) (λ i' j' hi' hj=>by
     simp only[Ur] at hi';simp only;rw[s2];obtain⟨u,hu,ho,hw⟩:=a4 i' j' hi' hj;have pl:=zrg (S:=e.s) (k:=k) (j:=j) (s:=s) (i':=i') hj (by omega)
     by_cases h2:i'=k/\j<=j'/\j'<j+s
     .obtain ⟨rfl,q1,q2⟩:=h2
      rw[hS,if_pos (by omega)]
      have q3:j' - j<cs.length:=by omega
      have c3:=c2 (j' - j) q3;refine⟨v'.cells.getD (j' - j) undef,?_,c3.1,?_⟩
      .rw [show g.base+i'*e.s+j' - (g.base+i'*e.s+j)=j' - j by omega]
       have:j' - j<v'.cells.size:=by omega
       simp[Array.getD,this]
      .have:(e.rows.set i' (Ay row j cs)).getD i' []=Ay row j cs:=by simp[List.getD,h4]
       rw[this,Vz _ _ _ _ (by omega),if_pos (by omega)]
       exact c3.2
     .rw [hS,if_neg (by
       intro q
       exact h2 (pl.1 (by omega)))]
      refine⟨u,hu,ho,?_⟩
      by_cases hx:i'=k
      .subst hx
       have:(e.rows.set i' (Ay row j cs)).getD i' []=Ay row j cs:=by simp[List.getD,h4]
       rw[this,Vz _ _ _ _ (by omega),if_neg (by omega)]
       rwa [a5] at hw
      .have:(e.rows.set k (Ay row j cs)).getD i' []=e.rows.getD i' []:=by simp[List.getD,Ne.symm hx]
       rw[this]
       exact hw)
    (hp':=(st.upd [(i,some { e with rows:=e.rows.set k (Ay row j cs) })]).hp) (by rw[St.hp_upd];simp[AW]) (λ i' e' h5 h6=>by
     rw[St.hp_upd] at h6;simp only[AW,if_neg (Ne.symm h5)] at h6
     exact⟨h5,h6⟩)
   refine⟨_,_,_,hk,?_⟩;rw[hf];refine⟨T,M',m3.wider λ i' hi'=>?_,m4,m2,rfl⟩;rcases hi' with hi' | hi'
   .exact .inl hi'
   .subst hi';exact .inl (m.dom _ _ hg)
end
structure HI (T:Nat->Nat) (w:World) (M:GM) (s:Nat) (rows:List (List AV)) (us:Array Value):Prop where
 size:us.size=rows.length*s
 wide:∀ row∈rows,row.length=s
 cell:∀ i j,i<rows.length->j<s->(us.getD (i*s+j) undef).oneCell'=true/\Ad T w M ((rows.getD i []).getD j .dead) (us.getD (i*s+j) undef)
theorem YG {us vs:Array Value} {i j:Nat} (h:us[i]? = vs[j]?):us.getD i undef=vs.getD j undef:=by
 simp only[QE,h]
theorem ZY {T w M s} {rows:List (List AV)} {us:Array Value} (hC:HI T w M s rows us) {cs:List AV} {v:Value} (hv:v.cells.size=cs.length) (h4:∀ j,j<cs.length->(v.cells.getD j undef).oneCell'=true/\Ad T w M (cs.getD j .dead) (v.cells.getD j undef)) {k:Nat} (hl:cs.length=s) (hk:k<rows.length) :
  HI T w M s (rows.set k cs) (v.cells.zipIdx.foldl (λ cs (c,j)=>cs.setIfInBounds (k*s+j) c) us):=by
 have e:v.cells.zipIdx.foldl (λ cs (c,j)=>cs.setIfInBounds (k*s+j) c) us=(v.cells.toList.zipIdx 0).foldl (λ cs p=>cs.setIfInBounds (k*s+p.2) p.1) us:=by
  rw[<- Array.foldl_toList,Array.toList_zipIdx]
 rw[e];obtain⟨h1,h2⟩:=Ox (k*s) v.cells.toList 0 us;refine⟨by rw[h1];simpa using hC.size,λ r hr=>?_,λ i j hi hj=>?_⟩
 .rcases List.mem_or_eq_of_mem_set hr with h | h
  .exact hC.wide r h
  .subst h;exact hl
 .simp only[Ur] at hi
  have h5:=FY hi hj;have h3:=h2 (i*s+j) (by rw[hC.size];exact h5)
  simp only[Ua,Uo,hv,hl] at h3;have pl:=zrg (S:=s) (k:=k) (j:=0) (s:=s) (i':=i) hj (by omega)
  simp only[Ua,Qh,Q1,true_and] at pl
  by_cases h0:i=k
  .subst h0
   rw[if_pos (by omega),show i*s+j - i*s=j by omega,Array.getElem?_toList] at h3
   rw[YG h3];have:(rows.set i cs).getD i []=cs:=by simp[List.getD,hi]
   rw[this];exact h4 j (by omega)
  .rw [if_neg (λ q=>h0 (pl.1 q).1)] at h3
   rw[YG h3];have:(rows.set k cs).getD i []=rows.getD i []:=by simp[List.getD,Ne.symm h0]
   rw[this];exact hC.cell i j hi hj
theorem zqR {T w M s}:∀ (ps:List (Nat × Value)) (pl:List Nat) (xs:List AV) (rows:List (List AV)) (us:Array Value) (out:List (List AV)),
  HI T w M s rows us->ps.map (·.1)=pl->xs.length=ps.length->(∀ i,i<xs.length->Ad T w M (xs.getD i .dead) ((ps.map (·.2)).getD i undef))->Dn s rows pl xs=some out ->
  ∃ us',Instr.fill (λ i=>some (i*s,s)) us ps=some us'/\HI T w M s out us'
 | [],pl,xs,rows,us,out,hC,hp,hl,hr,hf=>by
   simp at hp;subst hp;have:xs=[]:=QL hl;subst this;simp only[Dn,Qt] at hf;subst hf;exact⟨us,rfl,hC⟩
 | (i,v)::ps,pl,xs,rows,us,out,hC,hp,hl,hr,hf=>by
   cases xs with
   | nil=>simp at hl
   | cons x xs =>
   simp only[Qo] at hp;subst hp;simp only[Dn] at hf;split at hf
   case h_2=>cases hf
   rename_i cs h1;split at hf
   case isFalse=>cases hf
   rename_i hc;have h0:=hr 0 (by simp)
   simp only[US,Qo] at h0;obtain⟨e1,e2⟩:=MP h0 h1;have st:=ZY hC e1 e2 hc.1 hc.2;obtain⟨us',h4,h5⟩:=zqR ps _ xs _ _ out st rfl (by simpa using hl) (λ k hk=>by have:=hr (k+1) (by simpa using hk);simpa using this) hf
   refine⟨us',?_,h5⟩;simp only[Instr.fill];rw[if_neg]
   .exact h4
   .simp only[ne_eq,UO,Qd,not_or,Decidable.not_not]
    have h6:=hC.size;have:(i+1)*s<=rows.length*s:=QD _ hc.2;rw[QI] at this;omega
section
variable {P:Program} {np:Nat} {T0:Nat->Nat} {M0:GM} {w0:World} {aA:Nat->Prop} {st:St} {T:Nat->Nat} {M:GM} {a:Act} {w:World} {idb:Nat}
variable (tm:∀ i,Ad T w M (st.get i) (a.tmps.getD i undef)) (m:Bw np T0 M0 w0 aA st.hp T M w) (aB:∀ k,k<8->¬ aA (idb+k)) (aC:np<=idb)
include tm m aB aC
theorem iL (o:Oper) (t:TypeId) (len:Nat) (ps:Array (Nat × Operand)) (h:o.op = .buildSlice t len ps):BC P np T0 M0 w0 aA st T M a w idb o:=by
 intro K hk;simp only[BA,h] at hk;split at hk
 case h_2=>exact False.elim hk
 rename_i e hu;split at hk
 case h_2=>exact False.elim hk
 rename_i z s hz hs;split at hk
 case isFalse=>exact False.elim hk
 rename_i h5;simp only[List.map_map,aK] at hk;obtain⟨rows,h6,hc,hk⟩:=hk;obtain⟨i,zv,hi,hq,hv,a1,hd⟩:=ID hz;have hs':i.size=s:=by simpa [Cl,hi] using hs
 have zr:∀ (cells:Array Value),cells=(Array.range (len*s)).map (λ i=>zv.cells[i % zv.cells.size]!)->HI T w M s (List.replicate len (z.map .sc)) cells:=by
  intro cells h4;have h7:cells=(Array.range (len*s)).map λ i=>z.toArray[i % z.toArray.size]!:=by rw[h4,<- hv,QS]
  refine⟨by rw[h4];simp,λ row he=>?_,λ i j hi hj=>?_⟩
  .rw [(List.mem_replicate.1 he).2];simpa using hc
  .obtain ⟨v,h1,h2,h3⟩:=Mu (T:=T) (w:=w) (M:=M) hd hc len cells (len*s) h7 (Qk _) i j hi hj
   rw[Ff h1];exact⟨h2,h3⟩
 obtain⟨us,hf,hC⟩:=zqR (T:=T) (w:=w) (M:=M) (s:=s) (ps.toList.map λ (x:Nat × Operand)=>(x.1,a.eval x.2)) (ps.toList.map (·.1)) _ _ _ rows (zr _ rfl) (by simp) (by simp) (λ k hk=>by
  simp only[Qr,Uo] at hk;have e1:(ps.toList.map ((λ x=>x.ev st.get)∘λ x=>AU x.2)).getD k .dead=(AU ps[k].2).ev st.get:=by simp[List.getD,hk]
  have e2:((ps.toList.map λ (x:Nat × Operand)=>(x.1,a.eval x.2)).map (·.2)).getD k undef=a.eval ps[k].2:=by simp[List.getD,hk]
  rw[e1,e2]
  exact Bq tm _) h6
 have hw:rows.length=len:=by
  have h1:=hC.size
  have:∀ (ps:List Nat) (xs:List AV) (r out:List (List AV)),Dn s r ps xs=some out->out.length=r.length:=by
   intro ps
   induction ps with
   | nil=>intro xs r out hf;cases xs<;>simp[Dn] at hf;rw[hf]
   | cons p ps ih =>
     intro xs r out hf
     cases xs with
     | nil=>simp[Dn] at hf
     | cons x xs =>
       simp only[Dn] at hf;split at hf
       case h_2=>cases hf
       split at hf
       case isFalse=>cases hf
       rw[ih _ _ _ hf];simp
  have:=this _ _ _ _ h6
  simpa using this
 have ha:(sizeOf e).run P w = .ok s w:=by simp[sizeOf,typeInfo,hi,hs']
 have hh:(execOp a.eval o).run P w = .ok (.value (.slice (some ⟨w.heap.size,0,none⟩) len len)) (w.alloc (.cells us e)):=by
  have hb:¬ (16777216<len*s):=by have:=h5.1;omega
  have h9:Instr.fill (λ i=>some (i*s,s)) (Array.map (λ x=>zv.cells[x % zv.cells.size]!) (Array.range (len*s))) (ps.toList.map λ (x:Nat × Operand)=>(x.1,a.eval x.2))=some us:=hf
  by_cases h0:len*s=0
  .have:Array.range (len*s) = #[]:=by rw[h0];rfl
   rw[this] at h9;simp only[Array.map_empty] at h9;have r0:Array.range 0 = #[]:=rfl;simp[execOp,h,Instr.buildSlice,Cd hu,ha,h0,newRow,h9,r0]
  .simp [execOp,h,Instr.buildSlice,Cd hu,ha,hb,h0,newRow,zeroValue,typeInfo,hi,hq,h9]
 refine⟨_,_,_,hk,IZ m aB aC (e:={ s:=s,rows:=rows }) (cells:=us) (ty:=e) hh rfl rfl rfl rfl (UT.1 h5.2) (Qh _) hC.wide (by rw[hC.size];exact Qk _) (λ i j hi hj=>?_) _ (by simp[AW]) (λ i x hi hx=>by simp[AW] at hx;omega) ?_⟩
 .have:=hC.cell i j hi hj
  have ho:=FY hi hj;rw[<- hC.size] at ho;refine⟨us.getD (i*s+j) undef,by simp[Array.getD,ho],this.1,this.2⟩
 .intro M' hy
  refine .rs _ _ 0 _ _ _ _ hy (UT.1 h5.2) (Qk _) (λ hn=>by cases hn) λ b' a0=>?_
  obtain rfl:=Qf a0;refine⟨.inr (by simp),us,e,(0,0),by show (w.heap.push _)[w.heap.size]? = _;simp,?_⟩
  rw[hC.size,hw];simp
end
variable {X:AV} {rows:List (List AV)} {s:Nat} {v:Value}
structure CY (T:Nat->Nat) (w:World) (M:GM) (s:Nat) (rows:List (List AV)) (us:List Value):Prop where
 size:us.length=rows.length*s
 wide:∀ row∈rows,row.length=s
 one:∀ u∈us,u.oneCell'=true
 cell:∀ i j,i<rows.length->j<s->Ad T w M ((rows.getD i []).getD j .dead) (us.getD (i*s+j) undef)
theorem CY.append {T w M s r1 r2 u1 u2} (h1:CY T w M s r1 u1) (h2:CY T w M s r2 u2):CY T w M s (r1++r2) (u1++u2):=by
 refine⟨by rw[Qg,Qg,h1.size,h2.size,QI],λ r hr=>?_,λ u hu=>?_,λ i j hi hj=>?_⟩
 .rcases Qq.1 hr with h | h
  .exact h1.wide r h
  .exact h2.wide r h
 .rcases Qq.1 hu with h | h
  .exact h1.one u h
  .exact h2.one u h
 .simp only[Qg] at hi
  by_cases h0:i<r1.length
  .have:=FY h0 hj
   have e1:(r1++r2).getD i []=r1.getD i []:=by simp[List.getD,QJ h0]
   have e2:(u1++u2).getD (i*s+j) undef=u1.getD (i*s+j) undef:=by
    simp only[List.getD];rw[QJ (by rw[h1.size];exact this)]
   rw[e1,e2];exact h1.cell i j h0 hj
  .have h3:r1.length<=i:=by omega
   have h4:i*s=r1.length*s+(i - r1.length)*s:=by rw[<- QI];congr 1;omega
   have e1:(r1++r2).getD i []=r2.getD (i - r1.length) []:=by simp[List.getD,Qv h3]
   have e2:(u1++u2).getD (i*s+j) undef=u2.getD ((i - r1.length)*s+j) undef:=by
    simp only[List.getD];rw[Qv (by rw[h1.size];omega),h1.size]
    congr 2
    omega
   rw[e1,e2];exact h2.cell _ _ (by omega) hj
theorem CY.cells {T w M s rows us} (h:CY T w M s rows us) {i j:Nat} (hi:i<rows.length) (hj:j<s) :
  ∃ v,us[i*s+j]? = some v/\v.oneCell'=true/\Ad T w M ((rows.getD i []).getD j .dead) v:=by
 have h0:=FY hi hj;rw[<- h.size] at h0;have e:us.getD (i*s+j) undef=us[i*s+j]:=by simp[List.getD,h0]
 have:=h.cell i j hi hj;rw[e] at this;exact⟨us[i*s+j],by simp[h0],h.one _ (Qj h0),this⟩
theorem zxz {T w M s} (hw:∀ row∈rows,row.length=s) (f:Nat->Value) (h:∀ i j,i<rows.length->j<s->(f (i*s+j)).oneCell'=true/\Ad T w M ((rows.getD i []).getD j .dead) (f (i*s+j))) :
  CY T w M s rows ((List.range (rows.length*s)).map f):=by
 refine⟨by simp,hw,λ u hu=>?_,λ i j hi hj=>?_⟩
 .obtain ⟨k,hk,rfl⟩:=Qi.1 hu
  simp only[Qy] at hk
  have hs:0<s:=by
   rcases Un s with rfl | h
   .simp at hk
   .exact h
  have:=h (k / s) (k % s) (Nat.div_lt_of_lt_mul (by rw[U6];exact hk)) (Uf _ hs)
  rw[U6 (k / s),Nat.div_add_mod] at this;exact this.1
 .have e:((List.range (rows.length*s)).map f).getD (i*s+j) undef=f (i*s+j):=by simp[List.getD,FY hi hj]
  rw[e];exact(h i j hi hj).2
theorem Vu {w:World} {b o:Nat} {cells:Array Value} {ty:TypeId} {fz:Nat × Nat} (h:w.heap[b]? = some (.cells cells ty fz)):w.cell? ⟨b,o,none⟩=cells[o]?:=by
 simp[World.cell?,h]
section
variable {P:Program} {np:Nat} {T0:Nat->Nat} {M0:GM} {w0:World} {aA:Nat->Prop} {st:St} {T:Nat->Nat} {M:GM} {a:Act} {w:World} {idb:Nat}
theorem Xf (hs:EN T w M st.hp) (hr:Ad T w M X v) (h:C8 s st.hp X=some rows) (hx:∀ i o l c,X ≠ .rk i o l c) :
  ∃ ad cap us,v = .slice ad rows.length cap/\rows.length<=cap/\CY T w M s rows us/\(ad=none->us=[])/\(∀ x,ad=some x -> ∀ j u,us[j]? = some u->w.cell? (x.add j)=some u):=by
 cases hr with
 | sc _ _ h1 =>
   unfold C8 at h;split at h<;>(try (cases h;done))
   .rename_i e;cases e
   .rename_i e;cases e
   .rename_i e;cases e
   .rename_i e
    cases e
    cases h;exact⟨none,0,[],rfl,Qk _,⟨by simp,by simp,by simp,λ i j hi=>absurd hi (by simp)⟩,λ _=>rfl,λ x hx=>by cases hx⟩
 | vs _ s' full rows' ad cap c hf h9 hw hb h1 hh =>
   simp only[C8] at h;split at h
   case isFalse=>cases h
   rename_i e;subst e
   cases h
   by_cases hd:rows=[]
   .subst hd
    exact⟨ad,cap,[],rfl,h9,⟨by simp,by simp,by simp,λ i j hi=>absurd hi (by simp)⟩,λ _=>rfl,λ x hx j u hu=>by simp at hu⟩
   .obtain ⟨b,off,cells,ty,fz,rfl,a1,hT,hc⟩:=hb hd
    have a2:∀ k,k<rows.length*s'->cells[off+k]? = some (cells.getD (off+k) undef):=by
     intro k hk
     have hq:0<s':=by
      rcases Un s' with h | h
      .rw [h] at hk;simp at hk
      .exact h
     have:=hc (k / s') (k % s') (Nat.div_lt_of_lt_mul (by rw[U6];exact hk)) (Uf _ hq)
     rw[UL,U6 (k / s'),Nat.div_add_mod] at this;rw[this,Ff this]
    refine⟨_,cap,(List.range (rows.length*s')).map λ k=>cells.getD (off+k) undef,rfl,h9,zxz hw _ (λ i j hi hj=>?_),(λ e=>by cases e),λ x hx j u hu=>?_⟩
    .have e:=hc i j hi hj
     rw[UL] at e;rw[Ff e];exact⟨h1 i j hi hj,(hh i j hi hj).mono (Au.refl _ _) (λ _ _ e=>by cases e)⟩
    .cases hx
     simp only[QA,Qw] at hu;obtain⟨k,hk,rfl⟩:=hu;obtain⟨h3,rfl⟩:=Qz.1 hk;simp only[UB] at h3;rw[Addr.add_none,Vu a1]
     simpa only[List.getElem_range] using a2 j h3
 | rs _ id off len cap ad g hg hz hl a3 hb =>
   simp only[C8,Ul] at h;obtain⟨e,he,h⟩:=h;split at h
   case isFalse=>cases h
   rename_i hc
   cases h;obtain⟨g',a4,ent⟩:=hs.ent id e he;obtain rfl:=Qf (hg.symm.trans a4);have h2:((e.rows.drop off).take len).length=len:=by simp;omega
   have h5:∀ row∈(e.rows.drop off).take len,row.length=s:=λ row hy=>by rw[<- hc.1];exact ent.wide (ent.s ▸ hz) row (UW (QZ hy))
   cases h4:g.blk with
   | none =>
     have h0:=a3 h4;have h6:len=0:=by omega
     subst h6;exact⟨ad,cap,[],by rw[h2],by rw[h2];omega,⟨by simp,by simp,by simp,λ i j hi=>absurd hi (by simp)⟩,λ _=>rfl,λ x hx j u hu=>by simp at hu⟩
   | some b =>
     obtain⟨ha,-,-,-,-,ag⟩:=hb b h4;obtain⟨cells,ty,h7,hT,a5,a6⟩:=ent.blk (ent.s ▸ hz) b h4
     by_cases h6:len=0
     .subst h6
      exact⟨ad,cap,[],by rw[h2],by rw[h2];omega,⟨by simp,by simp,by simp,λ i j hi=>absurd hi (by simp)⟩,λ _=>rfl,λ x hx j u hu=>by simp at hu⟩
     have a7:ad=some ⟨b,g.base+off*g.s,none⟩:=by
      rcases ha with ha | ha
      .omega
      .exact ha
     subst a7;have hS:g.s=s:=ent.s.trans hc.1;have a0:e.s=s:=hc.1
     have a8:∀ k,k<len*s->cells[g.base+off*s+k]? = some (cells.getD (g.base+off*s+k) undef):=by
      intro k hk;have:(off+len)*s<=e.rows.length*s:=QD _ hc.2;rw[QI] at this;rw[a0] at a5;have h3:g.base+off*s+k<cells.size:=by omega
      simp[Array.getD,h3]
     refine⟨_,cap,(List.range (((e.rows.drop off).take len).length*s)).map λ k=>cells.getD (g.base+off*s+k) undef,by rw[h2],by rw[h2];exact hl,zxz h5 _ (λ i j hi hj=>?_),(λ e=>by cases e),λ x hx j u hu=>?_⟩
     .rw [h2] at hi
      obtain⟨v,hv,ho,a9⟩:=a6 (off+i) j (by omega) (by omega)
      rw[a0,QI] at hv;have e1:cells.getD (g.base+off*s+(i*s+j)) undef=v:=Ff (by rw[<- hv];congr 1;omega)
      have e2:((e.rows.drop off).take len).getD i []=e.rows.getD (off+i) []:=by
       simp only[List.getD,UC,Q9];rw[if_pos hi]
      rw[e1,e2];exact⟨ho,a9⟩
     .cases hx
      rw[h2] at hu;simp only[QA,Qw] at hu;obtain⟨k,hk,rfl⟩:=hu;obtain⟨h3,rfl⟩:=Qz.1 hk;simp only[UB] at h3;rw[Addr.add_none,hS,Vu h7]
      simpa only[List.getElem_range] using a8 j h3
 | rk=>exact absurd rfl (hx _ _ _ _)
 | _=>simp[C8] at h
theorem I4 (hs:EN T w M st.hp) (hr:Ad T w M X v) (h:C8 s st.hp X=some rows) :
  ∃ ad cap us,v = .slice ad rows.length cap/\rows.length<=cap/\CY T w M s rows us/\(ad=none->us=[])/\(∀ x,ad=some x -> ∀ j u,us[j]? = some u->w.cell? (x.add j)=some u):=by
 cases X with
 | rk i o l c=>exact Xf hs (X:=.rs i o l) hr.rk_rs h (by simp)
 | _=>exact Xf hs hr h (by simp)
theorem Bw.newNil {hp:Nat->Option AQ} (h:Bw np T0 M0 w0 aA hp T M w) {id:Nat} (hid:¬ aA id) (hc:np<=id) (s:Nat) (h9:s≠0) {hp':Nat->Option AQ} (ha:hp' id=some { s:=s,rows:=[],ro:=0 }) (h0:∀ i e',i≠id->hp' i=some e'->hp i=some e') :
  ∃ M':GM,M' id=some ⟨none,0,s⟩/\(∀ i g,M i=some g->M' i=some g)/\Bw np T0 M0 w0 (λ i=>aA i∨i=id) hp' T M' w:=by
 have h7:M id=none:=by
  cases hm:M id with
  | none=>rfl
  | some g=>exact absurd (h.dom id g hm) hid
 have mm:∀ i g,M i=some g->(λ i=>if i=id then some (GE.mk none 0 s) else M i) i=some g:=by
  intro i g hg;have:i≠id:=by rintro rfl;rw[h7] at hg;cases hg
  simp only[this,Ux];exact hg
 refine⟨λ i=>if i=id then some ⟨none,0,s⟩ else M i,by simp,mm,⟨λ i e' he=>?_,λ i i' e1 e2 g g' b h1 h2 h3 h4 h5 h6=>?_⟩,λ i g hg=>?_,?_⟩
 .by_cases hi:i=id
  .subst hi
   obtain rfl:=Qf (ha.symm.trans he);exact⟨⟨none,0,s⟩,if_pos rfl,rfl,Qh _,(λ _=>by simp),(λ _=>rfl),(λ h=>absurd h h9),λ _ b hb=>by cases hb⟩
  .obtain ⟨g,h1,h2⟩:=h.hs.ent i e' (h0 i e' hi he)
   exact⟨g,by simp only[hi,Ux];exact h1,h2.mono (Au.refl _ _) mm λ b _=>⟨rfl,rfl⟩⟩
 .by_cases hi:i=id
  .rw [if_pos hi] at h3
   obtain rfl:=Qf h3
   cases h5
  .by_cases hi':i'=id
   .rw [if_pos hi'] at h4
    obtain rfl:=Qf h4
    cases h6
   .rw [if_neg hi] at h3;rw[if_neg hi'] at h4
    exact h.hs.inj i i' e1 e2 g g' b (h0 i e1 hi h1) (h0 i' e2 hi' h2) h3 h4 h5 h6
 .by_cases hi:i=id
  .exact .inr hi
  .rw [if_neg hi] at hg;exact .inl (h.dom i g hg)
 .refine h.after.step h.after.tok (λ _ _ _=>rfl) (λ k hk=>?_) rfl rfl rfl (Qk _) (λ _ _ _=>rfl) (Au.refl _ _) λ k g b hk hg hb=>?_
  .have:k≠id:=by omega
   simp only[this,Ux]
  .by_cases hi:k=id
   .rw [if_pos hi] at hg
    obtain rfl:=Qf hg
    cases hb
   .rw [if_neg hi] at hg
    exact h.after.new k g b hk hg hb
theorem Yw {hp:Nat->Option AQ} {new:List (List AV)} {old:List (List AV) × Nat × List (Nat × Option AQ)} (h:Em s hp new X=some old):C8 s hp X=some old.1:=by
 unfold Em at h;split at h
 .simp only[Qt] at h;subst h;rfl
 .split at h
  case isFalse=>cases h
  rename_i hc;simp only[Qt] at h;subst h;simp[C8,hc.1]
 .simp only[Ul] at h
  obtain⟨e,he,h⟩:=h;split at h
  case isFalse=>cases h
  rename_i hc;simp only[Qt] at h;subst h;simp[C8,he,hc]
 .cases h
theorem WC (m:Bw np T0 M0 w0 aA st.hp T M w) (aB:∀ k,k<8->¬ aA (idb+k)) (aC:np<=idb) {v':Value} (hr:Ad T w M X v) {new:List (List AV)} {old:List (List AV) × Nat × List (Nat × Option AQ)} (hd:Em s st.hp new X=some old) {t tx ty e:TypeId} {i:TypeInfo} {zv:Value} (ht:P.underlying t=some (.slice e)) (hi:P.info? e=some i) (hz:i.zero=some zv) (cp:zv.cells.size=s) (b4:i.size=s) (a3:s≠0) {hy:List Value} (hn:CY T w M s new hy) (ag:Src P i.size tx v' new.length hy w) (hb:(old.1.length+new.length)*i.bytes<=140737488355328) (e8:old.1.length+new.length<=140737488355328) {f:Sem Next} (hf:∀ r w1,(Builtin.append_ #[t,tx] ty #[v,v']).run P w = .ok r w1->f.run P w = .ok (.value r) w1) :
  FL P np T0 M0 w0 aA idb (st.upd ((idb,some { s:=s,rows:=old.1++new,ro:=old.2.1 })::old.2.2)).hp T M w (.rs idb 0 (old.1.length+new.length)) (f.run P w):=by
 obtain⟨ad,cap,us,rfl,e9,au,cq,av⟩:=I4 m.hs hr (Yw hd)
 have b1:∀ i,i≠idb -> ∀ e',(st.upd ((idb,some { s:=s,rows:=old.1++new,ro:=old.2.1 })::old.2.2)).hp i=some e'->st.hp i=some e'/\AW old.2.2 i=none:=by
  intro j hj e' a5;rw[St.hp_upd] at a5;simp only[AW,if_neg (Ne.symm hj)] at a5;unfold Em at hd;split at hd
  .simp only[Qt] at hd;subst hd;exact⟨a5,rfl⟩
  .split at hd
   case isFalse=>cases hd
   simp only[Qt] at hd;subst hd;exact⟨a5,rfl⟩
  .simp only[Ul] at hd
   obtain⟨e,he,hd⟩:=hd;split at hd
   case isFalse=>cases hd
   simp only[Qt] at hd;subst hd;simp only[AW] at a5 ⊢;split at a5
   .cases a5
   .rename_i d0;exact⟨a5,by rw[if_neg d0]⟩
  .cases hd
 have a9:(st.upd ((idb,some { s:=s,rows:=old.1++new,ro:=old.2.1 })::old.2.2)).hp idb=some { s:=s,rows:=old.1++new,ro:=old.2.1 }:=by
  rw[St.hp_upd];simp[AW]
 have c0:old.2.1<=(old.1++new).length:=by
  unfold Em at hd;split at hd
  .simp only[Qt] at hd;subst hd;exact Qh _
  .split at hd
   case isFalse=>cases hd
   simp only[Qt] at hd;subst hd;exact Qh _
  .simp only[Ul] at hd
   obtain⟨e,he,hd⟩:=hd;split at hd
   case isFalse=>cases hd
   rename_i hc;simp only[Qt] at hd;subst hd;simp;omega
  .cases hd
 have wider:∀ {hp T M' w'},Bw np T0 M0 w0 (λ i=>aA i∨i=idb) hp T M' w'->Bw np T0 M0 w0 (λ i=>aA i∨(idb<=i/\i<idb+8)) hp T M' w':=λ h =>
  h.wider λ i hi=>hi.elim .inl λ hi=>.inr (by omega)
 have a4:=au.append hn
 by_cases ai:cap<old.1.length+new.length
 .
  have d1:(Builtin.firstCells i.size old.1.length (.slice ad old.1.length cap)).run P w.drew = .ok us.toArray w.drew:=by
   cases ad with
   | none=>rw[run_firstCells_none,cq rfl]
   | some x=>exact run_firstCells_some w.drew _ _ _ _ _ us (by rw[b4];exact au.size) (λ j u hj=>by simpa using av x rfl j u hj)
  have run:=run_append_grow_src (P:=P) w t tx ty e i zv ht hi hz ad old.1.length cap us d1 v' new.length hy ag ai (by omega) (growslice_fits ai hb)
  have b2:old.1.length+new.length<=grownCap w (old.1.length+new.length) cap e:=by simp only[grownCap,Question.cut];omega
  refine IZ m aB aC (e:={ s:=s,rows:=old.1++new,ro:=old.2.1 }) (hf _ _ run) rfl rfl rfl rfl a3 c0 a4.wide ?_ (λ i j hi hj=>?_) _ (by simp[AW]) (λ j x hj hx=>?_) λ M' b5=>?_
  .simp only[UM,Ue,a4.size]
   omega
  .obtain ⟨u,hu,ho,b6⟩:=a4.cells hi hj
   refine⟨u,?_,ho,b6⟩;rw[Uc]
   .simpa using hu
   .simp only[Ue,a4.size]
    exact FY hi hj
  .simp only[AW,if_neg (Ne.symm hj)] at hx
   unfold Em at hd;split at hd
   .simp only[Qt] at hd;subst hd;cases hx
   .split at hd
    case isFalse=>cases hd
    simp only[Qt] at hd;subst hd;cases hx
   .simp only[Ul] at hd
    obtain⟨e,he,hd⟩:=hd;split at hd
    case isFalse=>cases hd
    simp only[Qt] at hd;subst hd;simp only[AW] at hx;split at hx
    .exact (Qf hx).symm
    .cases hx
   .cases hd
  .refine .rs _ _ 0 _ _ _ _ b5 a3 b2 (λ hn=>by cases hn) λ b' bf=>?_
   obtain rfl:=Qf bf;refine⟨.inr (by simp),_,e,(0,0),(Array.getElem?_push_size:(w.drew.heap.push _)[w.drew.heap.size]? = _),?_⟩
   simp only[UM,Ue,Qg,au.size,hn.size,size_zeroCells,cp]
   have:(grownCap w (old.1.length+new.length) cap e - (old.1.length+new.length))*s+(old.1.length+new.length)*s=grownCap w (old.1.length+new.length) cap e*s:=by
    rw[<- QI];congr 1;omega
   rw[QI] at this;omega
 .have a0:old.1.length+new.length<=cap:=by omega
  have same:new=[]->f.run P w = .ok (.value (.slice ad old.1.length cap)) w:=by
   intro h0;have a8:hy=[]:=QL (by rw[hn.size,h0];simp)
   rw[h0,a8] at ag;exact hf _ _ (run_append_nothing (P:=P) w t tx ty e i ht hi ad old.1.length cap (by omega) v' ag)
  unfold Em at hd;split at hd
  .
   simp only[Qt] at hd;subst hd
   cases hr;have h0:new=[]:=QL (by simp at a0;omega)
   rw[same h0];subst h0;obtain⟨M',h1,h2,h3⟩:=m.newNil (aB 0 (by omega)) aC s a3 (hp':=(st.upd ((idb,some { s:=s,rows:=[]++[],ro:=0 })::[])).hp) a9 (λ j e' hj he=>(b1 j hj e' he).1)
   exact⟨T,M',wider h3,Au.refl _ _,h2,.rs _ _ 0 _ _ _ _ h1 a3 (Qh _) (λ _=>⟨rfl,rfl⟩) (λ b hb=>by cases hb)⟩
  .
   split at hd
   case isFalse=>cases hd
   rename_i rows hc;simp only[Qt] at hd;subst hd
   cases hr with
   | vs _ _ _ _ _ _ c d2 ea hw eb h1 hh =>
     have d3:=d2 rfl;have h0:new=[]:=QL (by simp at a0;omega)
     have d4:rows=[]:=by
      rcases hc.2 with h | h
      .exact h
      .exact absurd h0 h
     subst h0 d4;rw[same rfl];obtain⟨M',h1,h2,h3⟩:=m.newNil (aB 0 (by omega)) aC s a3 (hp':=(st.upd ((idb,some { s:=s,rows:=[]++[],ro:=0 })::[])).hp) a9 (λ j e' hj he=>(b1 j hj e' he).1)
     exact⟨T,M',wider h3,Au.refl _ _,h2,.rs _ _ 0 _ _ _ _ h1 a3 (Qh _) (λ _=>⟨rfl,by simpa using d3⟩) (λ b hb=>by cases hb)⟩
  .
   simp only[Ul] at hd;obtain⟨en,c2,hd⟩:=hd;split at hd
   case isFalse=>cases hd
   rename_i id off len hc;simp only[Qt] at hd;subst hd;have a1:((en.rows.drop off).take len).length=len:=by simp;omega
   simp only[a1] at *;have a1:((en.rows.drop off).take len).length=len:=by simp;omega
   cases hr with
   | rs _ _ _ _ _ _ g hg hz hl d7 dd =>
     obtain⟨g',df,ent⟩:=m.hs.ent id en c2;obtain rfl:=Qf (hg.symm.trans df)
     cases a6:g.blk with
     | none =>
       obtain⟨ed,dn⟩:=d7 a6;have h0:new=[]:=QL (by omega)
       have ds:len=0:=by omega
       have b3:en.ro=0:=by have:=ent.ro;rw[ent.none a6] at this;simpa using this
       subst h0 ds;rw[same rfl];have am:=a9;simp only[List.take_zero,QW,b3,Nat.zero_sub] at am ⊢
       obtain⟨M',h1,h2,h3⟩:=m.newNil (aB 0 (by omega)) aC s a3 (hp':=(st.upd ((idb,some { s:=s,rows:=[],ro:=0 })::[(id,none)])).hp) am (λ j e' hj he=>by
        refine(b1 j hj e' ?_).1
        simpa [b3] using he)
       exact⟨T,M',wider h3,Au.refl _ _,h2,.rs _ _ 0 _ _ _ _ h1 a3 (Qh _) (λ _=>⟨rfl,dn⟩) (λ b hb=>by cases hb)⟩
     | some b =>
       obtain⟨ha,c1,t1,f1,dt,a7⟩:=dd b a6;obtain⟨cells,tyc,a2,hT,eg,e0⟩:=ent.blk (ent.s ▸ hz) b a6
       have e3:c1=cells:=by
        have e:=a2.symm.trans dt;injection e with e;injection e with e;exact e.symm
       rw[e3] at a7;have hS:g.s=s:=ent.s.trans hc.1;have bo:en.s=s:=hc.1;have c3:en.ro*en.s<=(off+len)*en.s:=QD _ hc.2.2
       have write:∀ cells':Array Value,cells'.size=cells.size->(∀ q:Nat,cells'[q]? = if g.base+(off+len)*s<=q/\q<g.base+(off+len)*s+hy.length then hy[q - (g.base+(off+len)*s)]? else cells[q]?) ->
         ∃ M':GM,M' idb=some ⟨some b,g.base+off*s,s⟩/\(∀ i g,M i=some g->M' i=some g) /\
           Bw np T0 M0 w0 (λ i=>aA i∨i=idb) (st.upd ((idb,some { s:=s,rows:=(en.rows.drop off).take len++new,ro:=en.ro - off })::[(id,none)])).hp T M' (w.setRow b cells')/\Au T w T (w.setRow b cells'):=by
        intro cells' s1 s2
        have bs:g.base+off*s+(len+new.length)*s<=cells.size:=by
         have:(len+new.length)*s<=cap*s:=QD _ a0;rw[hS] at a7;omega
        have c4:T b<=g.base+off*s+(en.ro - off)*s:=by
         rw[bo] at hT;have:en.ro*s<=(off+(en.ro - off))*s:=QD _ (by omega)
         rw[QI] at this;omega
        refine m.write (id':=idb) (g':=⟨some b,g.base+off*s,s⟩) (e:={ s:=s,rows:=(en.rows.drop off).take len++new,ro:=en.ro - off }) (cells':=cells') c2 hg a6 a2 s1 (λ q hq=>?_)
         (.inr ⟨aB 0 (by omega),aC⟩) rfl rfl a3 c0 a4.wide c4 (by simp only[Qg,a1];exact bs) (λ i' j' hi' an=>?_) a9 (λ j e' hj he=>?_)
        .rw [s2,if_neg]
         rw[bo] at hT c3;omega
        .simp only[Qg,a1] at hi'
         have an:j'<s:=an;have h9:(off+len)*s=off*s+len*s:=QI _ _ _;simp only[s2];obtain⟨u,hu,ho,b6⟩:=a4.cells (i:=i') (j:=j') (by simp only[Qg,a1];exact hi') an
         by_cases bt:i'<len
         .have h5:i'*s+j'<len*s:=FY bt an
          rw[if_neg (by omega)]
          obtain⟨v,hv,e4,e5⟩:=e0 (off+i') j' (by omega) (by omega)
          rw[bo,QI] at hv;refine⟨v,by rw[<- hv];congr 1;omega,e4,?_⟩
          have e2:((en.rows.drop off).take len++new).getD i' []=en.rows.getD (off+i') []:=by
           simp only[List.getD];rw[QJ (by rw[a1];exact bt),UC,if_pos bt,Q9]
          rw[e2];exact e5
         .have h5:(i' - len)*s+j'<new.length*s:=FY (by omega) an
          have h6:i'*s=len*s+(i' - len)*s:=by rw[<- QI];congr 1;omega
          have h7:=hn.size;have h8:=au.size;rw[a1] at h8;rw[if_pos (by omega)]
          refine⟨u,?_,ho,b6⟩;rw[Qv (by omega)] at hu
          rw[<- hu]
          congr 1
          omega
        .obtain ⟨h1,h2⟩:=b1 j hj e' he
         refine⟨?_,h1⟩
         rintro rfl
         simp[AW] at h2
       have rep:∀ M' w' ,Au T w T w'->M' idb=some ⟨some b,g.base+off*s,s⟩->Ad T w' M' (.rs idb 0 (len+new.length)) (.slice ad (len+new.length) cap):=by
        intro M' w' p b5;refine .rs _ _ 0 _ _ _ _ b5 a3 a0 (λ hn=>by cases hn) λ b' bf=>?_
        obtain rfl:=Qf bf;obtain⟨c',f',e1,e2,-⟩:=p.cell b cells tyc (0,0) a2;refine⟨?_,c',tyc,f',e1,by rw[e2];rw[hS] at a7;simpa using a7⟩
        rcases ha with ha | ha
        .exact .inl ha
        .right;rw[ha,hS];simp
       by_cases h0:new=[]
       .have a8:hy=[]:=QL (by rw[hn.size,h0];simp)
        obtain⟨M',h1,h2,h3,h4⟩:=write cells rfl (λ q=>by rw[a8];simp;intro a b;omega)
        rw[setRow_self w b cells tyc (0,0) a2] at h3 h4;rw[same h0];refine⟨T,M',wider h3,h4,h2,?_⟩;have:=rep M' w h4 h1;rw[h0] at this ⊢
        simpa using this
       .have e6:0<new.length:=Uy.2 h0
        have e7:ad=some ⟨b,g.base+off*s,none⟩:=by
         rcases ha with ha | ha
         .omega
         .rw [ha,hS]
        subst e7
        have cb:g.base+(off+len)*s+hy.length<=cells.size:=by
         have h1:(len+new.length)*s<=cap*s:=QD _ a0;rw[hS] at a7;rw[hn.size];rw[QI] at h1 ⊢;omega
        have cd:=run_storeCells_at P b (g.base+(off+len)*s) tyc hy 0 cells w a2 (by simpa using cb) hn.one
        simp only[Ua] at cd;obtain⟨s1,s2⟩:=MH cells (g.base+(off+len)*s) hy cb
        have run:(Builtin.append_ #[t,tx] ty #[.slice (some ⟨b,g.base+off*s,none⟩) len cap,v']).run P w = .ok (.slice (some ⟨b,g.base+off*s,none⟩) (len+new.length) cap)
          (w.setRow b (cells.toList.take (g.base+(off+len)*s)++hy++cells.toList.drop (g.base+(off+len)*s+hy.length)).toArray):=by
         have ck:g.base+off*s+len*s=g.base+(off+len)*s:=by rw[QI];omega
         have cl:=ag.cells;rw[b4] at cl;rcases ag.kind with ⟨e',hk⟩ | hk<;>simp[Builtin.append_,run_underlying ht,run_underlying hk,sizeOf,typeInfo,hi,ag.len,a0,b4,cl,Addr.add_lit,ck,cd]
        obtain⟨M',h1,h2,h3,h4⟩:=write _ s1 s2;rw[hf _ _ run];exact⟨T,M',wider h3,h4,h2,rep M' _ h4 h1⟩
  .cases hd
end
variable {c n off s:Nat} {e t tx ty:TypeId} {en:AQ} {f:Sem Next} {v zv:Value} {z:List Value}
section
variable {P:Program} {np:Nat} {T0:Nat->Nat} {M0:GM} {w0:World} {aA:Nat->Prop} {st:St} {T:Nat->Nat} {M:GM} {a:Act} {w:World} {idb:Nat}
theorem CY.drew {T:Nat->Nat} {w:World} {M:GM} {s rows us} (h:CY T w M s rows us):CY T w M s rows us:=h
theorem PY {e':TypeId} (hk:P.underlying tx=some (.slice e')) {ad:Option Addr} {cap:Nat} {rows:List (List AV)} {us:List Value} (hu:CY T w M s rows us) (hn:rows.length=n) (h0:ad=none->us=[]) (hc:∀ x,ad=some x -> ∀ j u,us[j]? = some u->w.cell? (x.add j)=some u) (h4:0<s):Src P s tx (.slice ad n cap) n us w:=by
 subst hn
 cases ad with
 | none =>
   have h1:=h0 rfl;have h2:=hu.size;rw[h1] at h2
   have h3:rows.length=0:=by
    rcases Un rows.length with h | h
    .exact h
    .have:=Nat.mul_pos h h4;simp at h2;omega
   rw[h1,h3];exact Src.ofNil w hk cap
 | some x=>exact Src.ofSlice w hk x rows.length cap us hu.size (hc x rfl) hu.one
theorem O3 (b:ByteArray):(HQ b).length=b.size:=by
 unfold HQ;rw[Qr,Uo];rfl
theorem kC (b:ByteArray):CY T w M 1 (HQ b) (byteCells b):=by
 refine⟨by rw[byteCells_length,O3,Nat.mul_one],λ row h0=>?_,λ u hu=>?_,λ i j hi hj=>?_⟩
 .obtain ⟨x,_,rfl⟩:=Qi.1 h0;rfl
 .obtain ⟨x,_,rfl⟩:=Qi.1 hu;rfl
 .obtain rfl:j=0:=by omega
  rw[O3] at hi;have hi':i<b.data.toList.length:=by rw[Uo];exact hi
  have e1:(HQ b).getD i []=[AV.sc (.int .u8 (b.data.toList[i]).toNat)]:=by simp[HQ,List.getD,hi]
  have e2:(byteCells b).getD (i*1+0) undef = .int .u8 (b.data.toList[i]).toNat:=by simp[byteCells,List.getD,hi]
  rw[e1,e2];exact .sc _ _ rfl
theorem zju (m:Bw np T0 M0 w0 aA st.hp T M w) {id len:Nat} {ad':Option Addr} {cap':Nat} (hr:Ad T w M (.rs id off len) (.slice ad' len cap')) (hh:st.hp id=some en) (h5:en.s=s) (a5:en.ro<=off) (au:off<=en.rows.length) {h0:List (List AV)} (hb:h0.length=n) (a6:n<=cap') {us:List Value} (h7:CY T w M s h0 us) {val:Value} {av:AV} (hf:Ad T w M av val) (hw:∀ w1,(match ad' with | some x=>storeCells x us | none=>pure ()).run P w = .ok () w1->f.run P w = .ok (.value val) w1) :
  FL P np T0 M0 w0 aA idb (st.upd [(id,some { en with rows:=en.rows.take off++h0++en.rows.drop (off+n) })]).hp T M w av (f.run P w):=by
 cases hr with
 | rs _ _ _ _ cap' ad' g hg hz hl a7 a8 =>
   obtain⟨g',a9,ent⟩:=m.hs.ent id en hh;obtain rfl:=Qf (hg.symm.trans a9);have hS:g.s=s:=ent.s.trans h5
   cases h4:g.blk with
   | none =>
     have ad:=ent.none h4;have hz:=a7 h4;have hc:n=0:=by omega
     skip
     have e0:en.rows.take off++h0++en.rows.drop (off+n)=en.rows:=by rw[UJ.1 (hb.trans hc),ad,hc];simp
     have hd:us=[]:=UJ.1 (by rw[h7.size,hb,hc];simp)
     rw[hw w (by rw[hd];cases ad'<;>rfl),e0]
     have ag:(st.upd [(id,some { en with rows:=en.rows })]).hp=st.hp:=by
      funext j
      rw[St.hp_upd];simp only[AW];split
      .rename_i e;subst e;exact hh.symm
      .rfl
     rw[ag];exact⟨T,M,m.wider (λ _ h=>.inl h),Au.refl _ _,λ _ _ h=>h,hf⟩
   | some b =>
     obtain⟨ha,c1,t1,f1,ai,hx⟩:=a8 b h4;obtain⟨cells,tyc,h6,hT,hy,am⟩:=ent.blk (ent.s ▸ hz) b h4;rw[h5] at hy hT
     have an:c1=cells:=by
      have e:=h6.symm.trans ai;injection e with e;injection e with e;exact e.symm
     rw[an,show g.s=s from ent.s.trans h5] at hx
     have b1:n*s<=cap'*s:=QD _ a6
     have a0:g.base+off*s+(us).length<=cells.size:=by
      rw[h7.size,hb];omega
     obtain⟨s1,s2⟩:=MH cells (g.base+off*s) (us) a0;have a1:=run_storeCells_at P b (g.base+off*s) tyc (us) 0 cells w h6 (by simpa using a0) h7.one
     simp only[Ua] at a1
     have he:(match ad' with | some x=>storeCells x (us) | none=>pure ()).run P w = .ok () (w.setRow b (cells.toList.take (g.base+off*s)++us++cells.toList.drop (g.base+off*s+(us).length)).toArray):=by
      rcases ha with ha | ha
      .have hc:n=0:=by omega
       have hd:us=[]:=UJ.1 (by rw[h7.size,hb,hc];simp)
       rw[hd];simp only[QW,UP,Ua,UG,QS];rw[setRow_self w b cells tyc (0,0) h6]
       cases ad'<;>rfl
      .rw [hS] at ha
       subst ha;exact a1
     have a2:=hw _ he;generalize (cells.toList.take (g.base+off*s)++us++cells.toList.drop (g.base+off*s+(us).length)).toArray=cells' at *;rw[h7.size,hb] at s2;have h9:(en.rows.take off++h0++en.rows.drop (off+n)).length=off+n+(en.rows.length - (off+n)):=by simp;omega
     have hi:g.base+(off+n+(en.rows.length - (off+n)))*s<=cells.size:=by
      rcases Nat.le_total en.rows.length (off+n) with h | h
      .rw [show off+n+(en.rows.length - (off+n))=off+n by omega,QI]
       omega
      .rw [show off+n+(en.rows.length - (off+n))=en.rows.length by omega]
       exact hy
     obtain⟨M',m1,m2,m3,m4⟩:=m.write (id':=id) (g':=g) (e:={ en with rows:=en.rows.take off++h0++en.rows.drop (off+n) }) (cells':=cells') hh hg h4 h6 s1 (λ q hq=>by
       rw[s2,if_neg];have:en.ro*s<=off*s:=QD _ a5;omega) (.inl ⟨rfl,rfl⟩) h4 ent.s (ent.s ▸ hz) (by simp only;rw[h9];omega) (λ r hr=>by
       simp only[Qq] at hr;rcases hr with (hr | hr) | hr
       .exact ent.wide (ent.s ▸ hz) r (QZ hr)
       .simp only;rw[h5];exact h7.wide r hr
       .exact ent.wide (ent.s ▸ hz) r (UW hr)) (by simp only;rw[h5];exact hT) (by simp only;rw[h9,h5];exact hi) (λ i' j' hi' hj=>by
       simp only[h9] at hi';simp only[h5] at hj;simp only[h5,s2]
       by_cases a3:off<=i'/\i'<off+n
       .have h1:(i' - off)*s+j'<n*s:=FY (by omega) hj
        have h2:i'*s=off*s+(i' - off)*s:=by rw[<- QI];congr 1;omega
        rw[if_pos (by omega)]
        obtain⟨u,hu,ho,hk⟩:=h7.cells (i:=i' - off) (j:=j') (by rw[hb];omega) hj
        refine⟨u,by rw[<- hu];congr 1;omega,ho,?_⟩
        have e1:(en.rows.take off++h0++en.rows.drop (off+n)).getD i' []=(h0).getD (i' - off) []:=by
         simp only[List.getD];rw[Qu,Qv (by simp;omega),QJ (by simp;omega)]
         congr 2
         simp;omega
        rw[e1];exact hk
       .obtain ⟨u,hu,ho,hk⟩:=am i' j' (by omega) (by omega)
        rw[h5] at hu
        have h3:¬ (g.base+off*s<=g.base+i'*s+j'/\g.base+i'*s+j'<g.base+off*s+n*s):=by
         intro q;apply a3;constructor
         .rcases Um i' off with h | h
          .have:(i'+1)*s<=off*s:=QD _ h
           rw[QI] at this;omega
          .exact h
         .rcases Um i' (off+n) with h | h
          .exact h
          .have:(off+n)*s<=i'*s:=QD _ h
           rw[QI] at this;omega
        rw[if_neg h3];refine⟨u,hu,ho,?_⟩
        have e1:(en.rows.take off++h0++en.rows.drop (off+n)).getD i' []=en.rows.getD i' []:=by
         simp only[List.getD];rcases Um i' off with h | h
         .rw [Qu,QJ (by simp;omega),UC,if_pos h]
         .rw [Qv (by simp;omega),Q9]
          congr 2
          simp;omega
        rw[e1]
        exact hk)
      (hp':=(st.upd [(id,some { en with rows:=en.rows.take off++h0++en.rows.drop (off+n) })]).hp) (by rw[St.hp_upd];simp[AW]) (λ i' e' a4 hv=>by
       rw[St.hp_upd] at hv;simp only[AW,if_neg (Ne.symm a4)] at hv
       exact⟨a4,hv⟩)
     skip
     rw[a2];refine⟨T,M',m3.wider λ i' hi'=>?_,m4,m2,hf.mono m4 m2⟩;rcases hi' with hi' | hi'
     .exact .inl hi'
     .subst hi';exact .inl (m.dom _ _ hg)
theorem oE {Y:AV} {b:Option Addr} {mm cp:Nat} (hr:Ad T w M Y (.slice b mm cp)) (hl:lenOf Y=some mm) (hn:n<=mm):Ad T w M (Ec n Y) (.slice b n cp):=by
 generalize hv:Value.slice b mm cp=v at hr
 cases hr with
 | vs _ s full rows a cap c hf h9 hw hb h1 h =>
   cases hv;simp only[Ec];have h2:(rows.take n).length=n:=by simp;omega
   have e:Value.slice b n cp = .slice b (rows.take n).length cp:=by rw[h2]
   rw[e];refine .vs _ s false _ _ _ c (λ h=>by cases h) (by omega) (λ r hr=>hw r (QZ hr)) (λ h5=>?_) (λ i j hi hj=>h1 i j (by omega) hj) λ i j hi hj=>?_
   .have h4:rows≠[]:=by rintro rfl;simp at h5
    obtain⟨b',off,cells,ty,fz,ha,h6,hT,hc⟩:=hb h4;refine⟨b',off,cells,ty,fz,ha,h6,?_,λ i j hi hj=>hc i j (by omega) hj⟩
    have:n*s<=rows.length*s:=QD _ hn;rw[h2];omega
   .have e1:(rows.take n).getD i []=rows.getD i []:=by simp[List.getD,show i<n by omega]
    rw[e1];exact h i j (by omega) hj
 | rs _ id off len cap a g hg hz h7 h3 hb =>
   cases hv;simp only[Ec,Nat.min_eq_left hn];exact .rs _ _ _ _ _ _ g hg hz (by omega) h3 hb
 | rk _ id off len cap a g hg hz h7 h3 hb =>
   cases hv;simp only[Ec,Nat.min_eq_left hn];exact .rk _ _ _ _ _ _ g hg hz (by omega) h3 hb
 | sc _ _ h1 =>
   subst hv
   have h0:n=mm:=by
    simp only[lenOf] at hl;split at hl<;>simp_all
   subst h0;exact .sc _ _ h1
 | _=>simp[lenOf] at hl
theorem pO (m:Bw np T0 M0 w0 aA st.hp T M w) {id len:Nat} {v':Value} (hr:Ad T w M (.rk id off len c) v) (h7:st.hp id=some en) (hc:en.s=s) (hq:off+len<=en.rows.length) (hu:en.ro<=off+len) {i:TypeInfo} (ht:P.underlying t=some (.slice e)) (hi:P.info? e=some i) (hd:i.size=s) {new:List (List AV)} {h3:List Value} (hn:CY T w M s new h3) (h4:Src P i.size tx v' new.length h3 w) (h6:len+new.length<=c) (hf:∀ r w1,(Builtin.append_ #[t,tx] ty #[v,v']).run P w = .ok r w1->f.run P w = .ok (.value r) w1) :
  FL P np T0 M0 w0 aA idb (st.upd [(id,some { en with rows:=en.rows.take (off+len)++new++en.rows.drop (off+len+new.length) })]).hp T M w (.rk id off (len+new.length) c) (f.run P w):=by
 cases hr with
 | rk _ _ _ _ _ ad g hg hz hl he hh =>
 by_cases h0:new=[]
 .subst h0
  have h9:h3=[]:=QL (by rw[hn.size];simp)
  rw[h9] at h4;rw[hf _ _ (run_append_nothing (P:=P) w t tx ty e i ht hi ad len c (by omega) v' h4)]
  have e0:en.rows.take (off+len)++[]++en.rows.drop (off+len+([]:List (List AV)).length)=en.rows:=by simp
  rw[e0]
  have hv:(st.upd [(id,some { en with rows:=en.rows })]).hp=st.hp:=by
   funext j
   rw[St.hp_upd];simp only[AW];split
   .rename_i e;subst e;exact h7.symm
   .rfl
  rw[hv];exact⟨T,M,m.wider (λ _ h=>.inl h),Au.refl _ _,λ _ _ h=>h,.rk _ _ _ _ _ _ g hg hz hl he hh⟩
 .have a0:0<new.length:=Uy.2 h0
  obtain⟨g',hw,ent⟩:=m.hs.ent id en h7;obtain rfl:=Qf (hg.symm.trans hw);have hS:g.s=s:=ent.s.trans hc
  cases h2:g.blk with
  | none=>have:=he h2;omega
  | some b =>
    obtain⟨ha,c1,t1,f1,hj,hx⟩:=hh b h2
    have hy:ad=some ⟨b,g.base+off*g.s,none⟩:=by
     rcases ha with ha | ha
     .omega
     .exact ha
    subst hy;have hb:(c - len)*g.s+len*g.s=c*g.s:=by rw[<- QI];congr 1;omega
    refine zju (T:=T) (M:=M) (ad':=some ⟨b,g.base+(off+len)*g.s,none⟩) (cap':=c - len) m (.rs _ id (off+len) 0 _ _ g hg hz (Qh _) (λ h=>by rw[h2] at h;cases h) λ b' h5=>?_) h7 hc hu hq rfl (by omega) hn (val:=.slice (some ⟨b,g.base+off*g.s,none⟩) (len+new.length) c) ?_ λ w1 h1=>?_
    .rw [h2] at h5
     obtain rfl:=Qf h5;refine⟨.inr rfl,c1,t1,f1,hj,?_⟩;rw[QI];omega
    .refine .rk _ id off _ _ _ g hg hz h6 (λ h=>by rw[h2] at h;cases h) λ b' h5=>?_
     rw[h2] at h5;obtain rfl:=Qf h5;exact⟨.inr rfl,c1,t1,f1,hj,hx⟩
    .refine hf _ _ ?_
     have ho:g.base+off*s+len*s=g.base+(off+len)*s:=by rw[QI];omega
     have hb:=h4.cells;rw[hd] at hb;simp only[hS] at h1 ⊢;rcases h4.kind with ⟨e',hk⟩ | hk<;>simp[Builtin.append_,run_underlying ht,run_underlying hk,sizeOf,typeInfo,hi,h4.len,h6,hd,hb,Addr.add_lit,ho,h1]
theorem eV (m:Bw np T0 M0 w0 aA st.hp T M w) (aB:∀ k,k<8->¬ aA (idb+k)) (aC:np<=idb) {id len:Nat} {v':Value} (hr:Ad T w M (.rk id off len c) v) (hc:st.hp id=some en) (hd:en.s=s) (hq:off+len<=en.rows.length) {i:TypeInfo} (ht:P.underlying t=some (.slice e)) (hi:P.info? e=some i) (hz:i.zero=some zv) (hw:zv.cells.size=s) (hy:i.size=s) {new:List (List AV)} {h4:List Value} (hn:CY T w M s new h4) (a0:Src P i.size tx v' new.length h4 w) (h5:c<len+new.length) (hb:(len+new.length)*i.bytes<=140737488355328) (a8:len+new.length<=140737488355328) (hf:∀ r w1,(Builtin.append_ #[t,tx] ty #[v,v']).run P w = .ok r w1->f.run P w = .ok (.value r) w1) :
  FL P np T0 M0 w0 aA idb (st.upd [(idb,some { s:=s,rows:=(en.rows.drop off).take len++new,ro:=0 })]).hp T M w (.rs idb 0 (len+new.length)) (f.run P w):=by
 have h9:((en.rows.drop off).take len).length=len:=by simp;omega
 obtain⟨ad,cap,us,hv,he,ha,a1,h6⟩:=I4 m.hs hr (s:=s) (rows:=(en.rows.drop off).take len) (by simp[C8,hc,hd,hq])
 have hh:s≠0:=by
  cases hr with
  | rk _ _ _ _ _ _ g hg a2 =>
    obtain⟨g',a3,ent⟩:=m.hs.ent id en hc;obtain rfl:=Qf (hg.symm.trans a3);rw[<- hd,<- ent.s];exact a2
 have a4:cap=c:=by
  cases hr with
  | rk=>injection hv with h1 h2 h3;exact h3.symm
 subst a4 hv;have h0:=ha.append hn
 have hk:(Builtin.firstCells i.size ((en.rows.drop off).take len).length (.slice ad ((en.rows.drop off).take len).length cap)).run P w.drew = .ok us.toArray w.drew:=by
  cases ad with
  | none=>rw[run_firstCells_none,a1 rfl]
  | some x=>exact run_firstCells_some w.drew _ _ _ _ _ us (by rw[hy];exact ha.size) (λ j u hj=>by simpa using h6 x rfl j u hj)
 rw[h9] at hk he hf;have run:=run_append_grow_src (P:=P) w t tx ty e i zv ht hi hz ad len cap us hk v' new.length h4 a0 h5 (by omega) (growslice_fits h5 hb)
 have h7:len+new.length<=grownCap w (len+new.length) cap e:=by simp only[grownCap,Question.cut];omega
 refine IZ m aB aC (e:={ s:=s,rows:=(en.rows.drop off).take len++new,ro:=0 }) (hf _ _ run) rfl rfl rfl rfl hh (Qh _) h0.wide ?_ (λ i j hi hj=>?_) _ (by simp[AW]) (λ j x hj hx=>?_) λ M' a5=>?_
 .simp only[UM,Ue,h0.size]
  omega
 .obtain ⟨u,hu,ho,a6⟩:=h0.cells hi hj
  refine⟨u,?_,ho,a6⟩;rw[Uc]
  .simpa using hu
  .simp only[Ue,h0.size]
   exact FY hi hj
 .simp only[AW,if_neg (Ne.symm hj)] at hx
  cases hx
 .refine .rs _ _ 0 _ _ _ _ a5 hh h7 (λ hn=>by cases hn) λ b' a7=>?_
  obtain rfl:=Qf a7;refine⟨.inr (by simp),_,e,(0,0),(Array.getElem?_push_size:(w.drew.heap.push _)[w.drew.heap.size]? = _),?_⟩
  have h1:=ha.size;rw[h9] at h1;simp only[UM,Ue,Qg,h1,hn.size,size_zeroCells,hw]
  have:(grownCap w (len+new.length) cap e - (len+new.length))*s+(len+new.length)*s=grownCap w (len+new.length) cap e*s:=by
   rw[<- QI];congr 1;omega
  rw[QI] at this;omega
theorem znS (h2:∀ v∈z,v.oneCell'=true) (h5:zv.cells.toList=z) (h1:z.length=s) (len:Nat):CY T w M s (List.replicate len (z.map .sc)) (Builtin.zeroCells zv.cells len).toList:=by
 have h6:zv.cells=z.toArray:=by rw[<- h5,QS]
 have h3:Builtin.zeroCells zv.cells len=(Array.range (len*z.toArray.size)).map λ i=>z.toArray[i % z.toArray.size]!:=by rw[Builtin.zeroCells,h6]
 have h7:=Mu (T:=T) (w:=w) (M:=M) h2 h1 len (Builtin.zeroCells zv.cells len) _ h3 (by simp[h1])
 refine⟨by rw[h3];simp[h1],λ r hr=>by rw[List.eq_of_mem_replicate hr];simpa using h1,λ u hu=>?_,λ i j hi hj=>?_⟩
 .rw [h3] at hu
  simp only[Array.mem_toList_iff,Array.mem_map,Array.mem_range] at hu;obtain⟨q,hq,rfl⟩:=hu;simp only[Ue] at hq ⊢
  have h4:0<z.length:=by
   rcases Un z.length with h0 | h0
   .rw [h0] at hq;simp at hq
   .exact h0
  have h9:=Uf q h4;have e1:z.toArray[q % z.length]! = z[q % z.length]:=by simp[h9]
  rw[e1];exact h2 _ (Qj _)
 .obtain ⟨u,hu,_,ha⟩:=h7 i j hi hj
  have e1:(Builtin.zeroCells zv.cells len).toList.getD (i*s+j) undef=u:=by simp[List.getD,hu]
  rw[e1];exact ha
theorem qG (m:Bw np T0 M0 w0 aA st.hp T M w) (aB:∀ k,k<8->¬ aA (idb+k)) (aC:np<=idb) {id len k:Nat} (hr:Ad T w M (.rk id off len c) v) (hy:st.hp id=some en) (a0:en.s=s) (a1:off+len<=en.rows.length) {tn:TypeId} {i:TypeInfo} {kq kn:IntKind} (ht:P.underlying t=some (.slice e)) (a2:P.underlying tn=some (.int kn)) (hi:P.info? e=some i) (hz:i.zero=some zv) (hd:∀ v∈z,v.oneCell'=true) (he:zv.cells.toList=z) (hh:z.length=s) (a3:i.size=s) (h9:0<s) (h0:0<k) (h5:c<len+k) (hb:(len+k)*i.bytes<=140737488355328) (a9:len+k<=140737488355328) (hf:∀ r w1,(Builtin.append_ #[t,tn] ty #[v,.int kq k]).run P w = .ok r w1->f.run P w = .ok (.value r) w1) :
  FL P np T0 M0 w0 aA idb (st.upd [(idb,some { s:=s,rows:=(en.rows.drop off).take len++List.replicate k (z.map .sc),ro:=0 })]).hp T M w (.rs idb 0 (len+k)) (f.run P w):=by
 have ha:((en.rows.drop off).take len).length=len:=by simp;omega
 obtain⟨ad,cap,us,hv,hk,hc,a4,h6⟩:=I4 m.hs hr (s:=s) (rows:=(en.rows.drop off).take len) (by simp[C8,hy,a0,a1])
 have a5:cap=c:=by
  cases hr with
  | rk=>injection hv with h1 h2 h3;exact h3.symm
 subst a5 hv;have hn:=znS (T:=T) (w:=w) (M:=M) hd he hh k;have h4:=hc.append hn
 have hq:(Builtin.firstCells i.size ((en.rows.drop off).take len).length (.slice ad ((en.rows.drop off).take len).length cap)).run P w.drew = .ok us.toArray w.drew:=by
  cases ad with
  | none=>rw[run_firstCells_none,a4 rfl]
  | some x=>exact run_firstCells_some w.drew _ _ _ _ _ us (by rw[a3];exact hc.size) (λ j u hj=>by simpa using h6 x rfl j u hj)
 rw[ha] at hq hk hf;have ag:k*i.bytes<=(len+k)*i.bytes:=QD _ (by omega)
 have run:=Lib.run_append_grow_zeros (P:=P) w t tn ty e i zv kq kn ht a2 hi hz ad len cap us hq k h0 (by omega) h5 (by omega) (by omega) (growslice_fits h5 hb)
 have h7:len+k<=grownCap w (len+k) cap e:=by simp only[grownCap,Question.cut];omega
 have hw:zv.cells.size=s:=by rw[<- hh,<- he];simp
 have h1:=hc.size;rw[ha] at h1
 have e1:us.toArray++Builtin.zeroCells zv.cells k=(us++(Builtin.zeroCells zv.cells k).toList).toArray:=by
  apply Array.ext';simp
 rw[e1] at run;refine IZ m aB aC (e:={ s:=s,rows:=(en.rows.drop off).take len++List.replicate k (z.map .sc),ro:=0 }) (hf _ _ run) rfl rfl rfl rfl (UT.1 h9) (Qh _) h4.wide ?_ (λ i j hi hj=>?_) _ (by simp[AW]) (λ j x hj hx=>?_) λ M' a6=>?_
 .simp only[UM,Ue,h4.size]
  omega
 .obtain ⟨u,hu,ho,a7⟩:=h4.cells hi hj
  refine⟨u,?_,ho,a7⟩;rw[Uc]
  .simpa using hu
  .simp only[Ue,h4.size]
   exact FY hi hj
 .simp only[AW,if_neg (Ne.symm hj)] at hx
  cases hx
 .refine .rs _ _ 0 _ _ _ _ a6 (UT.1 h9) h7 (λ hn=>by cases hn) λ b' a8=>?_
  obtain rfl:=Qf a8;refine⟨.inr (by simp),_,e,(0,0),(Array.getElem?_push_size:(w.drew.heap.push _)[w.drew.heap.size]? = _),?_⟩
  have h2:=hn.size;rw[List.length_replicate] at h2;simp only[UM,Ue,Qg,h1,h2,size_zeroCells,hw]
  have:(grownCap w (len+k) cap e - (len+k))*s+(len+k)*s=grownCap w (len+k) cap e*s:=by
   rw[<- QI];congr 1;omega
  rw[QI] at this;omega
theorem gM (m:Bw np T0 M0 w0 aA st.hp T M w) (aB:∀ k,k<8->¬ aA (idb+k)) (aC:np<=idb) {k:Nat} {tn:TypeId} {i:TypeInfo} {kq kn:IntKind} (ht:P.underlying t=some (.slice e)) (h9:P.underlying tn=some (.int kn)) (hi:P.info? e=some i) (hz:i.zero=some zv) (h4:∀ v∈z,v.oneCell'=true) (h5:zv.cells.toList=z) (h6:z.length=s) (hk:i.size=s) (h3:0<s) (h0:0<k) (hb:k*i.bytes<=140737488355328) (hh:k<=140737488355328) (hf:∀ r w1,(Builtin.append_ #[t,tn] ty #[.slice none 0 0,.int kq k]).run P w = .ok r w1->f.run P w = .ok (.value r) w1) :
  FL P np T0 M0 w0 aA idb (st.upd [(idb,some { s:=s,rows:=List.replicate k (z.map .sc),ro:=0 })]).hp T M w (.rs idb 0 k) (f.run P w):=by
 have hn:=znS (T:=T) (w:=w) (M:=M) h4 h5 h6 k;have ha:(Builtin.firstCells i.size 0 (.slice none 0 0)).run P w.drew = .ok ([]:List Value).toArray w.drew:=run_firstCells_none ..;have run:=Lib.run_append_grow_zeros (P:=P) w t tn ty e i zv kq kn ht h9 hi hz none 0 0 [] ha k h0 (by omega) (by omega) (by omega) (by omega) (growslice_fits (by omega) (by simpa using hb))
 simp only[Q1] at run;have h1:k<=grownCap w k 0 e:=by simp only[grownCap,Question.cut];omega
 have h7:zv.cells.size=s:=by rw[<- h6,<- h5];simp
 have e1:([]:List Value).toArray++Builtin.zeroCells zv.cells k=((Builtin.zeroCells zv.cells k).toList).toArray:=by
  apply Array.ext';simp
 rw[e1] at run;refine IZ m aB aC (e:={ s:=s,rows:=List.replicate k (z.map .sc),ro:=0 }) (hf _ _ run) rfl rfl rfl rfl (UT.1 h3) (Qh _) hn.wide ?_ (λ i j hi hj=>?_) _ (by simp[AW]) (λ j x hj hx=>?_) λ M' hc=>?_
 .simp only[UM,Ue,hn.size]
  omega
 .obtain ⟨u,hu,ho,hd⟩:=hn.cells hi hj
  refine⟨u,?_,ho,hd⟩;rw[Uc]
  .simpa using hu
  .simp only[Ue,hn.size]
   exact FY hi hj
 .simp only[AW,if_neg (Ne.symm hj)] at hx
  cases hx
 .refine .rs _ _ 0 _ _ _ _ hc (UT.1 h3) h1 (λ hn=>by cases hn) λ b' he=>?_
  obtain rfl:=Qf he;refine⟨.inr (by simp),_,e,(0,0),(Array.getElem?_push_size:(w.drew.heap.push _)[w.drew.heap.size]? = _),?_⟩
  have h2:=hn.size;rw[List.length_replicate] at h2;simp only[UM,Ue,h2,size_zeroCells,h7]
  have:(grownCap w k 0 e - k)*s+k*s=grownCap w k 0 e*s:=by
   rw[<- QI];congr 1;omega
  omega
theorem LU {id bytes:Nat} {x y:AV} {h:Nat->Option AQ} {K:AV->List Nat->List (Nat × Option AQ)->Prop} (hx:¬ ∃ i o l c,x = .rk i o l c):aK P np id (.app s bytes) [x,y] h K = ∃ new old,C8 s h y=some new/\Em s h new x=some old/\(old.1.length+new.length)*bytes<=140737488355328 /\
   old.1.length+new.length<=140737488355328 /\
   K (.rs id 0 (old.1.length+new.length)) (CQ x++CQ y) ((id,some { s:=s,rows:=old.1++new,ro:=old.2.1 })::old.2.2):=by
 cases x with
 | rk i o l c=>exact absurd ⟨_,_,_,_,rfl⟩ hx
 | _=>rfl
variable (tm:∀ i,Ad T w M (st.get i) (a.tmps.getD i undef)) (m:Bw np T0 M0 w0 aA st.hp T M w) (aB:∀ k,k<8->¬ aA (idb+k)) (aC:np<=idb)
include tm m aB aC
theorem kX (o:Oper) (c:Call) (h:o.op = .call c) (hb:c.callee = .builtin .append):BC P np T0 M0 w0 aA st T M a w idb o:=by
 intro K hk;simp only[BA,h,hb] at hk;split at hk
 case h_2=>exact False.elim hk
 rename_i t u x y ht hx;have a8:c.argTypes = #[t,u]:=by rw[<- QS (xs:=c.argTypes),ht]
 have a9:c.args = #[x,y]:=by rw[<- QS (xs:=c.args),hx]
 have run:∀ v v',a.eval x=v->a.eval y=v' -> ∀ r w1,(Builtin.append_ #[t,u] o.type #[v,v']).run P w = .ok r w1->(execOp a.eval o).run P w = .ok (.value r) w1:=by
  rintro v v' rfl rfl r w1 hr
  simp[execOp,h,resolve,hb,invoke,builtin,a8,a9,hr]
 have hr:=Bq tm x;have he:=Bq tm y;split at hk
 case h_4=>exact False.elim hk
 case h_3 =>
  rename_i e kn hu h4;split at hk
  case h_2=>exact False.elim hk
  rename_i z s b hz hs hf;split at hk
  case isFalse=>exact False.elim hk
  rename_i a1;obtain⟨i,zv,hi,h6,h7,h5,hd⟩:=ID hz;have h2:i.size=s:=by simpa [Cl,hi] using hs
  have h9:i.bytes=b:=by simpa [Ia,hi] using hf
  simp only[List.map] at hk;generalize hX:(AU x).ev st.get=X at *;generalize hY:(AU y).ev st.get=Y at *
  by_cases a5:X = .nilS
  .subst a5
   cases Y<;>(try (simp only[AV.nilS,aK] at hk;done))
   rename_i q
   cases q<;>(try (simp only[AV.nilS,aK] at hk;done))
   rename_i kq n;simp only[AV.nilS,aK] at hk;obtain⟨a2,h0,ha,h1,hk⟩:=hk;have h3:=DB he rfl;have ag:=DB hr rfl;have hn:Value.int kq n = .int kq (n.toNat:Int):=by congr 1;omega
   rw[hn] at h3;exact⟨_,_,_,hk,gM (f:=execOp a.eval o) (ty:=o.type) m aB aC hu h4 hi h6 hd h7 a2 h2 a1 (by omega) (by rw[h9];exact ha) h1 (run _ _ ag h3)⟩
  cases X<;>(try (simp only[aK] at hk;done))
  case sc v0 =>
   exfalso
   cases v0<;>(try (simp only[aK] at hk;done))
   rename_i ad l cc
   cases ad<;>cases l<;>cases cc<;>(try (simp only[aK] at hk;done))
   exact a5 rfl
  rename_i id off len c'
  cases Y<;>(try (simp only[aK] at hk;done))
  rename_i q
  cases q<;>(try (simp only[aK] at hk;done))
  rename_i kq n;simp only[aK] at hk;obtain⟨en,hq,hv,a2,hw,h0,a3,ha,h1,hk⟩:=hk;have h3:=DB he rfl;have hn:Value.int kq n = .int kq (n.toNat:Int):=by congr 1;omega
  rw[hn] at h3;exact⟨_,_,_,hk,qG (f:=execOp a.eval o) (ty:=o.type) m aB aC hr hq hv hw hu h4 hi h6 hd h7 a2 h2 a1 (by omega) a3 (by rw[h9];exact ha) h1 (run _ _ rfl h3)⟩
 .rename_i e e' hu h4
  split at hk
  case h_2=>exact False.elim hk
  rename_i s b hs hf;split at hk
  case isFalse=>exact False.elim hk
  rename_i hz;obtain⟨z,a4⟩:=Option.isSome_iff_exists.1 hz.1;obtain⟨i,zv,hi,h6,h7,h5,hd⟩:=ID a4;have h2:i.size=s:=by simpa [Cl,hi] using hs
  have h9:i.bytes=b:=by simpa [Ia,hi] using hf
  simp only[List.map] at hk;generalize hX:(AU x).ev st.get=X at *
  by_cases a6:∃ i o l c,X = .rk i o l c
  .obtain ⟨id,off,len,c',rfl⟩:=a6
   simp only[aK] at hk;obtain⟨new,en,hh,hq,hv,hw,ai,ha,h1,hk⟩:=hk;obtain⟨ad,cap,us,h3,a7,hc,hy,a0⟩:=I4 m.hs he hh
   by_cases hj:len+new.length<=c'
   .rw [if_pos hj] at hk
    exact⟨_,_,_,hk,pO (f:=execOp a.eval o) m hr hq hv hw ai hu hi h2 hc (by rw[h2];exact PY h4 hc rfl hy a0 hz.2) hj (run _ _ rfl h3)⟩
   .rw [if_neg hj] at hk
    exact⟨_,_,_,hk,eV (f:=execOp a.eval o) m aB aC hr hq hv hw hu hi h6 (by rw[<- h7] at h5;simp at h5;omega) h2 hc (by rw[h2];exact PY h4 hc rfl hy a0 hz.2) (by omega) (by rw[h9];exact ha) h1 (run _ _ rfl h3)⟩
  rw[LU a6] at hk;obtain⟨new,old,hh,ho,ha,h1,hk⟩:=hk;obtain⟨ad,cap,us,h3,a7,hc,hy,a0⟩:=I4 m.hs he hh;refine⟨_,_,_,hk,WC (f:=execOp a.eval o) m aB aC hr ho hu hi h6 (by rw[<- h7] at h5;simp at h5;omega) h2 (UT.1 hz.2) hc (by rw[h2];exact PY h4 hc rfl hy a0 hz.2) (by rw[h9];exact ha) h1 (run _ _ rfl h3)⟩
 .rename_i e hu h4
  split at hk
  case h_2=>exact False.elim hk
  rename_i hs hf;split at hk
  case isFalse=>exact False.elim hk
  rename_i hz;obtain⟨z,a4⟩:=Option.isSome_iff_exists.1 hz;obtain⟨i,zv,hi,h6,h7,h5,hd⟩:=ID a4;have h2:i.size=1:=by simpa [Cl,hi] using hs
  have h9:i.bytes=1:=by simpa [Ia,hi] using hf
  simp only[List.map] at hk;generalize hY:(AU y).ev st.get=Y at *
  cases Y<;>(try (simp only[aK] at hk;done))
  rename_i q
  cases q<;>(try (simp only[aK] at hk;done))
  rename_i bs;simp only[aK] at hk;obtain⟨old,ho,h1,hk⟩:=hk;have h3:=DB he rfl;have hl:=O3 bs;have:=WC (f:=execOp a.eval o) (ty:=o.type) m aB aC hr ho hu hi h6 (by rw[<- h7] at h5;simp at h5;omega) h2 (UR 0) (kC bs) (by rw[h2,hl];exact Src.ofString w h4 bs) (by rw[h9,hl];omega) (by omega) (run _ _ rfl h3)
  rw[hl] at this;exact⟨_,_,_,hk,this⟩
omit aB aC in
theorem w4 (o:Oper) (c:Call) (h:o.op = .call c) (hb:c.callee = .builtin .copy):BC P np T0 M0 w0 aA st T M a w idb o:=by
 intro K hk;simp only[BA,h,hb] at hk;split at hk
 case h_2=>exact False.elim hk
 rename_i t ts x y ht hx;have a0:c.args = #[x,y]:=by rw[<- QS (xs:=c.args),hx]
 have a1:c.argTypes[0]? = some t:=by rw[<- Array.getElem?_toList,ht];rfl
 split at hk
 case h_2=>exact False.elim hk
 rename_i e hu;split at hk
 case h_2=>exact False.elim hk
 rename_i s hs
 have h9:(sizeOf e).run P w = .ok s w:=by
  simp only[Cl,Qw] at hs;obtain⟨i,hi,hs⟩:=hs;simp[sizeOf,typeInfo,hi,hs]
 have hr:=Bq tm x;have a5:=Bq tm y;simp only[List.map] at hk;generalize hv:a.eval x=v at *;generalize (AU x).ev st.get=X at *;generalize a2:a.eval y=v' at *;generalize (AU y).ev st.get=Y at *
 by_cases am:∃ i o l c,X = .rk i o l c
 .obtain ⟨id,off,len,cq,rfl⟩:=am
  simp only[aK] at hk;obtain⟨en,new,mm,hf,h0,a6,an,au,hc,hk⟩:=hk;obtain⟨b',cp',rfl⟩:=YI a5 au;obtain⟨n,hn⟩:=AG (min mm len);rw[<- hn] at hk hc;obtain⟨ad,cap,us,bo,av,h5,a7,a8⟩:=I4 m.hs (oE a5 au (show n<=mm by omega)) hc
  injection bo with q1 q2 q3;subst q1 q3
  have hh:(Builtin.firstCells s n (.slice b' mm cp')).run P w = .ok us.toArray w:=by
   cases b' with
   | none=>rw[run_firstCells_none,a7 rfl]
   | some x=>exact run_firstCells_some w _ _ _ _ _ _ (by rw[h5.size,<- q2]) (λ j u hj=>a8 x rfl j u hj)
  have bs:=hr.rk_rs;have bt:∃ ad' ,v = .slice ad' len cq:=by cases hr;exact⟨_,rfl⟩
  obtain⟨ad',rfl⟩:=bt;have d1:len<=cq:=by cases hr;assumption
  have hw:Nat.min mm len=n:=hn.symm;refine⟨_,_,_,hk,zju m bs hf h0 a6 an q2.symm (by omega) h5 (val:=.int .i64 n) (.sc _ _ rfl) λ w1 h1=>?_⟩
  cases ad' with
  | none =>
    simp at h1;subst h1;simp[execOp,h,resolve,hb,invoke,builtin,Builtin.copy_,a0,a1,hv,a2,Cd hu,h9,Builtin.lenOf,hw,hh,goInt]
  | some x =>
    simp only at h1;simp[execOp,h,resolve,hb,invoke,builtin,Builtin.copy_,a0,a1,hv,a2,Cd hu,h9,Builtin.lenOf,hw,hh,goInt,h1]
 cases X<;>(try (simp only[aK] at hk;done))<;>(try (exact absurd ⟨_,_,_,_,rfl⟩ am))
 rename_i id off len;simp only[aK] at hk;obtain⟨en,new,hf,h0,a6,cp,hc,hk⟩:=hk;obtain⟨ad,cap,us,rfl,av,h5,a7,a8⟩:=I4 m.hs a5 hc;obtain⟨n,hn⟩:=AG (min new.length len);have c0:n<=new.length:=by omega
 have d2:n<=len:=by omega
 rw[<- hn] at hk;have hd:(new.take n).length=n:=by simp;omega
 have he:CY T w M s (new.take n) (us.take (n*s)):=by
  have d3:n*s<=new.length*s:=QD _ c0;have c2:(us.take (n*s)).length=n*s:=by rw[QV,h5.size];omega
  refine⟨by rw[c2,hd],λ r hr=>h5.wide r (QZ hr),λ u hu=>h5.one u (QZ hu),λ i j hi hj=>?_⟩
  rw[hd] at hi;have h1:=FY hi hj;have e1:(new.take n).getD i []=new.getD i []:=by simp[List.getD,hi]
  have e2:(us.take (n*s)).getD (i*s+j) undef=us.getD (i*s+j) undef:=by simp[List.getD,h1]
  rw[e1,e2];exact h5.cell i j (by omega) hj
 have hh:(Builtin.firstCells s n (.slice ad new.length cap)).run P w = .ok (us.take (n*s)).toArray w:=by
  cases ad with
  | none=>rw[run_firstCells_none,a7 rfl];simp
  | some x=>exact run_firstCells_some w _ _ _ _ _ _ (by rw[he.size,hd]) (λ j u hj=>a8 x rfl j u (by
    rw[UC] at hj;split at hj
    .exact hj
    .cases hj))
 have hw:Nat.min new.length len=n:=hn.symm
 cases hr with
 | rs _ _ _ _ cap' ad' g hg hz hl c3 c4 =>
   obtain⟨g',cb,ent⟩:=m.hs.ent id en hf;obtain rfl:=Qf (hg.symm.trans cb)
   have run:∀ w1,(match ad' with | some x=>storeCells x (us.take (n*s)) | none=>pure ()).run P w = .ok () w1->(execOp a.eval o).run P w = .ok (.value (.int .i64 n)) w1:=by
    intro w1 h1
    cases ad' with
    | none =>
      simp at h1;subst h1;simp[execOp,h,resolve,hb,invoke,builtin,Builtin.copy_,a0,a1,hv,a2,Cd hu,h9,Builtin.lenOf,hw,hh,goInt]
    | some x =>
      simp only at h1;simp[execOp,h,resolve,hb,invoke,builtin,Builtin.copy_,a0,a1,hv,a2,Cd hu,h9,Builtin.lenOf,hw,hh,goInt,h1]
   have hS:g.s=s:=ent.s.trans h0
   cases h4:g.blk with
   | none =>
     have cd:=ent.none h4;have hz:=c3 h4;have a3:n=0:=by omega
     refine⟨_,_,_,hk,?_⟩;have e0:en.rows.take off++new.take n++en.rows.drop (off+n)=en.rows:=by rw[cd,a3];simp
     have hy:us.take (n*s)=[]:=by rw[a3];simp
     rw[run w (by rw[hy];cases ad'<;>rfl),e0]
     have ck:(st.upd [(id,some { en with rows:=en.rows })]).hp=st.hp:=by
      funext j
      rw[St.hp_upd];simp only[AW];split
      .rename_i e;subst e;exact hf.symm
      .rfl
     rw[ck];exact⟨T,M,m.wider (λ _ h=>.inl h),Au.refl _ _,λ _ _ h=>h,.sc _ _ rfl⟩
   | some b =>
     obtain⟨ha,c1,t1,f1,d4,d0⟩:=c4 b h4;obtain⟨cells,tyc,h6,hT,b1,cl⟩:=ent.blk (ent.s ▸ hz) b h4;rw[h0] at b1 hT;have b2:(off+n)*s<=en.rows.length*s:=QD _ (by omega)
     have b3:g.base+off*s+(us.take (n*s)).length<=cells.size:=by
      rw[he.size,hd];rw[QI] at b2;omega
     obtain⟨s1,s2⟩:=MH cells (g.base+off*s) (us.take (n*s)) b3;have b4:=run_storeCells_at P b (g.base+off*s) tyc (us.take (n*s)) 0 cells w h6 (by simpa using b3) he.one
     simp only[Ua] at b4
     have a4:(match ad' with | some x=>storeCells x (us.take (n*s)) | none=>pure ()).run P w = .ok () (w.setRow b (cells.toList.take (g.base+off*s)++us.take (n*s)++cells.toList.drop (g.base+off*s+(us.take (n*s)).length)).toArray):=by
      rcases ha with ha | ha
      .have a3:n=0:=by omega
       have hy:us.take (n*s)=[]:=by rw[a3];simp
       rw[hy];simp only[QW,UP,Ua,UG,QS];rw[setRow_self w b cells tyc (0,0) h6]
       cases ad'<;>rfl
      .rw [hS] at ha
       subst ha;exact b4
     have b5:=run _ a4;generalize (cells.toList.take (g.base+off*s)++us.take (n*s)++cells.toList.drop (g.base+off*s+(us.take (n*s)).length)).toArray=cells' at *;rw[he.size,hd] at s2;have h7:(en.rows.take off++new.take n++en.rows.drop (off+n)).length=en.rows.length:=by simp;omega
     obtain⟨M',m1,m2,m3,m4⟩:=m.write (id':=id) (g':=g) (e:={ en with rows:=en.rows.take off++new.take n++en.rows.drop (off+n) }) (cells':=cells') hf hg h4 h6 s1 (λ q hq=>by
       rw[s2,if_neg];have:en.ro*s<=off*s:=QD _ a6;omega) (.inl ⟨rfl,rfl⟩) h4 ent.s (ent.s ▸ hz) (by simp only;rw[h7];exact ent.ro) (λ r hr=>by
       simp only[Qq] at hr;rcases hr with (hr | hr) | hr
       .exact ent.wide (ent.s ▸ hz) r (QZ hr)
       .simp only;rw[h0];exact he.wide r hr
       .exact ent.wide (ent.s ▸ hz) r (UW hr)) (by simp only;rw[h0];exact hT) (by simp only;rw[h7,h0];exact b1) (λ i' j' hi' a9=>by
       simp only[h7] at hi';simp only[h0] at a9;simp only[h0,s2]
       by_cases b6:off<=i'/\i'<off+n
       .have h1:(i' - off)*s+j'<n*s:=FY (by omega) a9
        have h2:i'*s=off*s+(i' - off)*s:=by rw[<- QI];congr 1;omega
        rw[if_pos (by omega)]
        obtain⟨u,hu,ho,ag⟩:=he.cells (i:=i' - off) (j:=j') (by rw[hd];omega) a9
        refine⟨u,by rw[<- hu];congr 1;omega,ho,?_⟩
        have e1:(en.rows.take off++new.take n++en.rows.drop (off+n)).getD i' []=(new.take n).getD (i' - off) []:=by
         simp only[List.getD];rw[Qu,Qv (by simp;omega),QJ (by simp;omega)]
         congr 2
         simp;omega
        rw[e1];exact ag
       .obtain ⟨u,hu,ho,ag⟩:=cl i' j' hi' (by omega)
        rw[h0] at hu
        have h3:¬ (g.base+off*s<=g.base+i'*s+j'/\g.base+i'*s+j'<g.base+off*s+n*s):=by
         intro q;apply b6;constructor
         .rcases Um i' off with h | h
          .have:(i'+1)*s<=off*s:=QD _ h
           rw[QI] at this;omega
          .exact h
         .rcases Um i' (off+n) with h | h
          .exact h
          .have:(off+n)*s<=i'*s:=QD _ h
           rw[QI] at this;omega
        rw[if_neg h3];refine⟨u,hu,ho,?_⟩
        have e1:(en.rows.take off++new.take n++en.rows.drop (off+n)).getD i' []=en.rows.getD i' []:=by
         simp only[List.getD];rcases Um i' off with h | h
         .rw [Qu,QJ (by simp;omega),UC,if_pos h]
         .rw [Qv (by simp;omega),Q9]
          congr 2
          simp;omega
        rw[e1]
        exact ag)
      (hp':=(st.upd [(id,some { en with rows:=en.rows.take off++new.take n++en.rows.drop (off+n) })]).hp) (by rw[St.hp_upd];simp[AW]) (λ i' e' bf ai=>by
       rw[St.hp_upd] at ai;simp only[AW,if_neg (Ne.symm bf)] at ai
       exact⟨bf,ai⟩)
     refine⟨_,_,_,hk,?_⟩;rw[b5];refine⟨T,M',m3.wider λ i' hi'=>?_,m4,m2,.sc _ _ rfl⟩;rcases hi' with hi' | hi'
     .exact .inl hi'
     .subst hi';exact .inl (m.dom _ _ hg)
omit aB aC in
theorem l6 (o:Oper) (c:Call) (h:o.op = .call c) (hb:c.callee = .builtin .clear):BC P np T0 M0 w0 aA st T M a w idb o:=by
 intro K hk;simp only[BA,h,hb] at hk;split at hk
 case h_2=>exact False.elim hk
 rename_i t x ht hx;have h9:c.args = #[x]:=by rw[<- QS (xs:=c.args),hx]
 have ha:c.argTypes = #[t]:=by rw[<- QS (xs:=c.argTypes),ht]
 split at hk
 case h_2=>exact False.elim hk
 rename_i e hu;split at hk
 case h_2=>exact False.elim hk
 rename_i z s hz hs;obtain⟨i,zv,hi,hc,h6,a4,h3⟩:=ID hz;have a5:i.size=s:=by simpa [Cl,hi] using hs
 have hr:=Bq tm x;simp only[List.map] at hk;generalize hv:a.eval x=v at *;generalize (AU x).ev st.get=X at *
 have key:∃ id off len en,Ad T w M (.rs id off len) v/\st.hp id=some en/\en.s=s/\z.length=s/\en.ro<=off/\off+len<=en.rows.length/\K .dead [id] [(id,some { en with rows:=en.rows.take off++List.replicate len (z.map .sc)++en.rows.drop (off+len) })]:=by
  cases X<;>(try (simp only[aK] at hk;done))
  .simp only[aK] at hk
   obtain⟨en,hk⟩:=hk;exact⟨_,_,_,en,hr,hk⟩
  .simp only[aK] at hk
   obtain⟨en,hk⟩:=hk;exact⟨_,_,_,en,hr.rk_rs,hk⟩
 clear hk hr
 obtain⟨id,off,len,en,hr,hd,he,h2,hf,a3,hk⟩:=key;refine⟨_,_,_,hk,?_⟩;have a6:zv.cells.size=s:=by rw[<- h2,<- h6];simp
 have hh:∃ ad' cap',v = .slice ad' len cap'/\len<=cap':=by cases hr;exact⟨_,_,rfl,by assumption⟩
 obtain⟨ad',cap',rfl,ho⟩:=hh
 have hw:CY T w M s (List.replicate len (z.map .sc)) (Builtin.zeroCells zv.cells len).toList:=by
  have hy:zv.cells=z.toArray:=by rw[<- h6,QS]
  have h4:Builtin.zeroCells zv.cells len=(Array.range (len*z.toArray.size)).map λ i=>z.toArray[i % z.toArray.size]!:=by rw[Builtin.zeroCells,hy]
  have h5:=Mu (T:=T) (w:=w) (M:=M) h3 h2 len (Builtin.zeroCells zv.cells len) _ h4 (by simp[h2])
  refine⟨by rw[h4];simp[h2],λ r hr=>by rw[List.eq_of_mem_replicate hr];simpa using h2,λ u hu=>?_,λ i j hi hj=>?_⟩
  .rw [h4] at hu
   simp only[Array.mem_toList_iff,Array.mem_map,Array.mem_range] at hu;obtain⟨q,hq,rfl⟩:=hu;simp only[Ue] at hq ⊢
   have h7:0<z.length:=by
    rcases Un z.length with h0 | h0
    .rw [h0] at hq;simp at hq
    .exact h0
   have a0:=Uf q h7;have e1:z.toArray[q % z.length]! = z[q % z.length]:=by simp[a0]
   rw[e1];exact h3 _ (Qj _)
  .obtain ⟨u,hu,_,a1⟩:=h5 i j hi hj
   have e1:(Builtin.zeroCells zv.cells len).toList.getD (i*s+j) undef=u:=by simp[List.getD,hu]
   rw[e1];exact a1
 refine zju m hr hd he hf (by omega) (by simp) ho hw (val:=.tuple #[]) (.dead _ _) λ w1 h1=>?_
 have h5:(zeroValue e).run P w = .ok zv w:=by simp[zeroValue,typeInfo,hi,hc]
 have a2:(Builtin.clear_ #[t] o.type #[.slice ad' len cap']).run P w = .ok (.tuple #[]) w1:=by
  cases ad' with
  | none =>
    simp at h1;subst h1;simp[Builtin.clear_,Cd hu]
  | some ad =>
    cases len with
    | zero =>
      simp[Builtin.zeroCells,storeCells] at h1;subst h1;simp[Builtin.clear_,Cd hu]
    | succ l=>simp[Builtin.clear_,Cd hu,h5,h1]
 simp[execOp,h,resolve,hb,invoke,builtin,h9,ha,hv,a2]
end
variable {T:Nat->Nat} {w:World}
theorem G8 (f:AV->AV) (hf:f .dead = .dead) (l:List AV) (i:Nat):(l.map f).getD i .dead=f (l.getD i .dead):=by
 simp only[List.getD,QA]
 cases l[i]? with
 | none=>simp[hf]
 | some x=>rfl
theorem Gy (ρ:List (Nat × Nat)) (sn:List Nat) (h:Nat->Option AQ) (n:Nat):conv ρ sn h n .dead = .dead:=by cases n<;>rfl
theorem Wk.rep {x y:AV} (h:Wk x y):∀ {M:GM} {v:Value},Ad T w M x v->Ad T w M y v:=by
 induction h with
 | refl x=>exact λ h=>h
 | dead x=>exact λ _=>.dead _ _
 | nil s f =>
   intro M v hr
   cases hr;exact .vs _ s f [] none 0 (λ _ _=>undef) (λ _=>rfl) (Qk _) (by simp) (λ h=>absurd rfl h) (λ i j hi=>absurd hi (by simp)) (λ i j hi=>absurd hi (by simp))
 | mt s c a =>
   intro M v hr
   cases hr;exact .vs _ s false [] a c (λ _ _=>undef) (λ e=>by cases e) (Qh _) (by simp) (λ h=>absurd rfl h) (λ i j hi=>absurd hi (by simp)) (λ i j hi=>absurd hi (by simp))
 | full s rows =>
   intro M v hr
   cases hr with
   | vs _ _ _ _ a cap c hf h0 hw hb h1 hh=>exact .vs _ _ _ _ a cap c (λ e=>by cases e) h0 hw hb h1 hh
 | rows s f xs ys hl hw _ ih =>
   intro M v hr
   cases hr with
   | vs _ _ _ _ a cap c hf h0 h5 hb h1 hh =>
     have hy:∀ row∈ys,row.length=s:=λ row h3=>by
      obtain⟨i,hi,rfl⟩:=QG.1 h3;have e1:xs.getD i []=xs[i]'(by omega):=by simp[List.getD,show i<xs.length by omega]
      have e2:ys.getD i []=ys[i]:=by simp[List.getD,hi]
      have:=hw i;rw[e1,e2] at this;rw[<- this];exact h5 _ (Qj _)
     refine hl ▸ .vs _ s f ys a cap c (λ e=>(hf e).trans hl) (hl ▸ h0) hy (λ h6=>?_) (λ i j hi hj=>h1 i j (by omega) hj) λ i j hi hj=>ih i j (hh i j (by omega) hj)
     have h4:xs≠[]:=λ e=>h6 (QL (by rw[<- hl,e];rfl))
     obtain⟨b,off,cells,ty,fz,q1,q2,q3,q4⟩:=hb h4;exact⟨b,off,cells,ty,fz,q1,q2,by rw[<- hl];exact q3,λ i j hi hj=>q4 i j (by omega) hj⟩
 | pv xs ys hl _ ih =>
   intro M v hr
   cases hr with
   | pv _ _ b off cells ty fz c hb ht hc h1 hh=>exact .pv _ ys b off cells ty fz c hb (hl ▸ ht) (λ j hj=>hc j (by omega)) (λ j hj=>h1 j (by omega)) λ j hj=>ih j (hh j (by omega))
 | agg xs ys hl _ ih =>
   intro M v hr
   cases hr with
   | agg _ _ us h2 h1 hh=>exact .agg _ _ _ (h2.trans hl) (λ i hi=>h1 i (hl ▸ hi)) λ i hi=>ih i (hh i (hl ▸ hi))
 | tup xs ys hl _ ih =>
   intro M v hr
   cases hr with
   | tup _ _ us h2 hh=>exact .tup _ _ _ (h2.trans hl) λ i hi=>ih i (hh i (hl ▸ hi))
theorem Ez.length:∀ {xs ys:List AV},Ez xs ys->xs.length=ys.length
 | [],[],_=>rfl
 | _::_,_::_,h=>by simp[Ez.length h.2]
 | [],_::_,h=>False.elim h
 | _::_,[],h=>False.elim h
theorem Ez.get:∀ {xs ys:List AV},Ez xs ys -> ∀ i:Nat,i<xs.length->Wk (xs.getD i .dead) (ys.getD i .dead)
 | x::xs,y::ys,h,0,_=>h.1
 | x::xs,y::ys,h,i+1,hi=>by simpa using Ez.get h.2 i (by simpa using hi)
 | [],[],_,i,hi=>absurd hi (by simp)
 | [],_::_,h,_,_=>False.elim h
 | _::_,[],h,_,_=>False.elim h
theorem P5 {M:GM} {hp:Nat->Option AQ} (hs:EN T w M hp) (tok:Hw T w) (sn:List Nat) :
  ∃ T1:Nat->Nat,(∀ b,T b<=T1 b)/\Hw T1 w/\(∀ i∈sn,∀ e g b,hp i=some e->M i=some g->g.blk=some b->T1 b=g.base+e.rows.length*e.s) /\
    (∀ b,(∀ i∈sn,∀ e g,hp i=some e->M i=some g->g.blk≠some b)->T1 b=T b):=by
 classical
 let p:Nat->Nat × AQ × GE->Prop:=λ b x=>x.1∈sn/\hp x.1=some x.2.1/\M x.1=some x.2.2/\x.2.2.blk=some b
 let T1:Nat->Nat:=λ b=>if h:∃ x,p b x then (Classical.choose h).2.2.base+(Classical.choose h).2.1.rows.length*(Classical.choose h).2.1.s else T b
 have key:∀ b x,p b x->T1 b=x.2.2.base+x.2.1.rows.length*x.2.1.s:=by
  intro b x hx;have h0:∃ x,p b x:=⟨x,hx⟩;have hc:=Classical.choose_spec h0;have h1:T1 b=(Classical.choose h0).2.2.base+(Classical.choose h0).2.1.rows.length*(Classical.choose h0).2.1.s:=dif_pos h0;rw[h1];have e1:=hs.inj _ _ _ _ _ _ b hc.2.1 hx.2.1 hc.2.2.1 hx.2.2.1 hc.2.2.2 hx.2.2.2;have e2:(Classical.choose h0).2.1=x.2.1:=Qf (hc.2.1.symm.trans (by rw[e1];exact hx.2.1))
  have e3:(Classical.choose h0).2.2=x.2.2:=Qf (hc.2.2.1.symm.trans (by rw[e1];exact hx.2.2.1))
  rw[e2,e3]
 refine⟨T1,λ b=>?_,λ b hb=>?_,λ i hi e g b h1 h2 h3=>key b (i,e,g) ⟨hi,h1,h2,h3⟩,λ b hb=>?_⟩
 .by_cases h:∃ x,p b x
  .obtain ⟨x,hx⟩:=h
   rw[key b x hx];obtain⟨g,hg,ent⟩:=hs.ent _ _ hx.2.1;obtain rfl:=Qf (hx.2.2.1.symm.trans hg)
   by_cases hz:x.2.1.s=0
   .obtain ⟨b',es,clock,h6,h1,h2,h5,h4⟩:=ent.mp hz
    obtain rfl:=Qf (h6.symm.trans hx.2.2.2);omega
   obtain⟨cells,ty,h1,h2,h3,h4⟩:=ent.blk hz b hx.2.2.2;have:=QD x.2.1.s ent.ro;omega
  .have:T1 b=T b:=dif_neg h
   omega
 .by_cases h:∃ x,p b x
  .obtain ⟨x,hx⟩:=h
   rw[key b x hx];obtain⟨g,hg,ent⟩:=hs.ent _ _ hx.2.1;obtain rfl:=Qf (hx.2.2.1.symm.trans hg)
   by_cases hz:x.2.1.s=0
   .obtain ⟨b',es,clock,h6,h1,h2,h5,h4⟩:=ent.mp hz
    rw[key b x hx,hz,h5] at hb;omega
   obtain⟨cells,ty,h1,h2,h3,h4⟩:=ent.blk hz b hx.2.2.2;exact⟨cells,ty,_,h1,h3⟩
  .have e:T1 b=T b:=dif_neg h
   rw[e] at hb ⊢;exact tok b hb
 .refine dif_neg ?_
  rintro⟨x,hx⟩
  exact hb x.1 hx.1 x.2.1 x.2.2 hx.2.1 hx.2.2.1 hx.2.2.2
theorem Lj {T T1:Nat->Nat} {w:World} {M:GM} {hp:Nat->Option AQ} (hs:EN T w M hp) (sn:List Nat) (a2:∀ b,T b<=T1 b) (a3:∀ i∈sn,∀ e g b,hp i=some e->M i=some g->g.blk=some b->T1 b=g.base+e.rows.length*e.s) :
  ∀ (n:Nat) (ρ:List (Nat × Nat)) (Mc:GM) (x:AV) (v:Value),(∀ id k,AW ρ id=some k->Mc k=M id)->Ad T w M x v->Ad T1 w Mc (conv ρ sn hp n x) v
 | 0,_,_,_,_,_,_=>.dead _ _
 | n+1,ρ,Mc,x,v,hρ,hr=>by
   have ih:=Lj hs sn a2 a3 n;have pr:Au T w T1 w:=⟨a2,λ b cells ty fz h=>⟨cells,fz,h,rfl,λ _ _=>rfl⟩⟩;have inner:=λ (y:AV) (u:Value) (h:Ad T w M y u)=>ih [] (λ _=>none) y u (λ id k h=>by cases h) h
   cases hr with
   | dead=>exact .dead _ _
   | sc _ _ h1=>exact .sc _ _ h1
   | agg _ cs us hl h1 hh =>
     refine .agg _ _ _ (by simpa using hl) (λ i hi=>h1 i (by simpa using hi)) λ i hi=>?_
     rw[G8 _ (Gy _ _ _ _)];exact ih ρ Mc _ _ hρ (hh i (by simpa using hi))
   | tup _ cs us hl hh =>
     refine .tup _ _ _ (by simpa using hl) λ i hi=>?_
     rw[G8 _ (Gy _ _ _ _)];exact ih ρ Mc _ _ hρ (hh i (by simpa using hi))
   | vs _ s full rows a cap c hf hl hw hb h1 hh =>
     refine .vs _ s full rows a cap c hf hl hw (λ hd=>?_) h1 λ i j hi hj=>(hh i j hi hj).mono pr λ _ _ e=>e;obtain⟨b,off,cells,ty,fz,ha,a4,hT,hc⟩:=hb hd;exact⟨b,off,cells,ty,fz,ha,a4,QH hT (a2 b),hc⟩
   | pv _ cs b off cells ty fz c hb ht hc h1 hh=>exact .pv _ cs b off cells ty fz c hb (QH ht (a2 b)) hc h1 λ j hj=>(hh j hj).mono pr λ _ _ e=>e
   | fn _ f xs ys us vs hx hy hh a9 =>
     refine .fn _ f _ _ _ _ (by simpa using hx) (by simpa using hy) (λ i hi=>?_) λ i hi=>?_
     .rw [G8 _ (Gy _ _ _ _)]
      exact ih ρ Mc _ _ hρ (hh i (by simpa using hi))
     .rw [G8 _ (Gy _ _ _ _)]
      exact ih ρ Mc _ _ hρ (a9 i (by simpa using hi))
   | ifc _ t x v hh=>exact .ifc _ _ _ _ (ih ρ Mc _ _ hρ hh)
   | mp _ id g b hg hz hb =>
     show Ad T1 w Mc (match AW ρ id with | some k=>AV.mp k | none=>AV.dead) _
     split
     .rename_i k hk
      exact .mp _ k g b ((hρ id k hk).trans hg) hz hb
     .exact .dead _ _
   | pt _ id i j g b hg hz hb =>
     show Ad T1 w Mc (match AW ρ id with | some k=>AV.pt k i j | none=>if id∈sn then (match hp id with | some e=>(match e.rows[i]? with | some row=>if j<=row.length then AV.pv ((row.drop j).map (conv [] sn hp n)) else AV.dead | none=>AV.dead) | none=>AV.dead) else AV.dead) _
     split
     .rename_i k hk
      exact .pt _ k i j g b ((hρ id k hk).trans hg) hz hb
     .split
      case isFalse=>exact .dead _ _
      rename_i hv;split
      case h_2=>exact .dead _ _
      rename_i e he;split
      case h_2=>exact .dead _ _
      rename_i row h9;split
      case isFalse=>exact .dead _ _
      rename_i ai;obtain⟨g',a0,ent⟩:=hs.ent id e he;obtain rfl:=Qf (hg.symm.trans a0);obtain⟨cells,ty,h1,h2,h3,h4⟩:=ent.blk (ent.s ▸ hz) b hb;have hi:i<e.rows.length:=(Qz.1 h9).1;have ag:=ent.wide (ent.s ▸ hz) row (Uj h9);have ad:e.rows.getD i []=row:=by simp[List.getD,h9]
      have hS:=ent.s
      have h5:∀ j',j'<((row.drop j).map (conv [] sn hp n)).length -> ∃ u,cells[g.base+i*g.s+j+j']? = some u/\u.oneCell'=true/\Ad T w M (row.getD (j+j') .dead) u:=by
       intro j' hq;simp only[Qr,UQ] at hq;obtain⟨u,hu,ho,h7⟩:=h4 i (j+j') hi (by omega)
       rw[ad] at h7;exact⟨u,by rw[hS,UL];exact hu,ho,h7⟩
      have a7:∀ j',j'<((row.drop j).map (conv [] sn hp n)).length->cells[g.base+i*g.s+j+j']? = some (cells.getD (g.base+i*g.s+j+j') undef):=λ j' hq=>by
       obtain⟨u,hu,_⟩:=h5 j' hq;rw[Ff hu];exact hu
      refine .pv _ _ b (g.base+i*g.s+j) cells ty (0,0) (λ j'=>cells.getD (g.base+i*g.s+j+j') undef) h1 ?_ a7 (λ j' hq=>?_) λ j' hq=>?_
      .rw [a3 id hv e g b he hg hb]
       simp only[Qr,UQ];have:(i+1)*e.s<=e.rows.length*e.s:=QD _ hi;rw[QI] at this;rw[hS];omega
      .obtain ⟨u,hu,ho,_⟩:=h5 j' hq
       rw[Ff hu];exact ho
      .obtain ⟨u,hu,_,h7⟩:=h5 j' hq
       rw[Ff hu,G8 _ (Gy _ _ _ _)];have:(row.drop j).getD j' .dead=row.getD (j+j') .dead:=by simp[List.getD]
       rw[this];exact inner _ _ h7
   | rs _ id off len cap a g hg hz hl hn hb =>
     show Ad T1 w Mc (match AW ρ id with | some k=>AV.rs k off len | none=>if id∈sn then (match hp id with | some e=>if off+len<=e.rows.length then AV.vs e.s false (((e.rows.drop off).take len).map (·.map (conv [] sn hp n))) else AV.dead | none=>AV.dead) else AV.dead) _
     split
     .rename_i k hk
      exact .rs _ k off len cap a g ((hρ id k hk).trans hg) hz hl hn hb
     .split
      case isFalse=>exact .dead _ _
      rename_i hv;split
      case h_2=>exact .dead _ _
      rename_i e he;split
      case isFalse=>exact .dead _ _
      rename_i a1;obtain⟨g',a0,ent⟩:=hs.ent id e he;obtain rfl:=Qf (hg.symm.trans a0);have h0:(((e.rows.drop off).take len).map (·.map (conv [] sn hp n))).length=len:=by simp;omega
      have hS:=ent.s
      have h9:∀ i,i<len->(((e.rows.drop off).take len).map (·.map (conv [] sn hp n))).getD i []=(e.rows.getD (off+i) []).map (conv [] sn hp n):=by
       intro i hi;simp only[List.getD,QA,UC,Q9,if_pos hi]
       cases e.rows[off+i]?<;>rfl
      suffices hS:Ad T1 w Mc (.vs e.s false (((e.rows.drop off).take len).map (·.map (conv [] sn hp n)))) (.slice a (((e.rows.drop off).take len).map (·.map (conv [] sn hp n))).length cap) by
       rwa [h0] at hS
      cases h6:g.blk with
      | none =>
        have hz:=hn h6;refine .vs _ _ _ _ a cap (λ _ _=>undef) (λ e=>by cases e) (by rw[h0];exact hl) (λ r hr=>?_) (λ hd=>?_) (λ i j hi=>?_) (λ i j hi=>?_)
        .have:len=0:=by omega
         subst this;simp at hr
        .have:len=0:=by omega
         subst this;simp at hd
        all_goals (rw[h0] at hi;omega)
      | some b =>
        obtain⟨ha,c1,t1,f1,a4,a5⟩:=hb b h6;obtain⟨cells,ty,h1,h2,h3,h4⟩:=ent.blk (ent.s ▸ hz) b h6
        have h5:∀ i j,i<len->j<e.s -> ∃ u,cells[g.base+off*g.s+i*e.s+j]? = some u/\u.oneCell'=true/\Ad T w M ((e.rows.getD (off+i) []).getD j .dead) u:=by
         intro i j hi hj;obtain⟨u,hu,ho,h7⟩:=h4 (off+i) j (by omega) hj
         refine⟨u,?_,ho,h7⟩;rw[<- hu,hS,QI]
         congr 1
         omega
        refine .vs _ _ _ _ a cap (λ i j=>cells.getD (g.base+off*g.s+i*e.s+j) undef) (λ e=>by cases e) (by rw[h0];exact hl) (λ r hr=>?_) (λ hd=>?_) (λ i j hi hj=>?_) (λ i j hi hj=>?_)
        .obtain ⟨r0,a6,rfl⟩:=Qi.1 hr
         rw[Qr];exact ent.wide (ent.s ▸ hz) r0 (UW (QZ a6))
        .have a8:0<len:=by rw[<- h0];exact Uy.2 hd
         refine⟨b,g.base+off*g.s,cells,ty,(0,0),?_,h1,?_,λ i j hi hj=>?_⟩
         .rcases ha with ha | ha
          .omega
          .exact ha
         .rw [h0,a3 id hv e g b he hg h6,hS]
          have:(off+len)*e.s<=e.rows.length*e.s:=QD _ a1;rw[QI] at this;omega
         .rw [h0] at hi
          obtain⟨u,hu,_⟩:=h5 i j hi hj;rw[Ff hu];exact hu
        .rw [h0] at hi
         obtain⟨u,hu,ho,_⟩:=h5 i j hi hj;rw[Ff hu];exact ho
        .rw [h0] at hi
         obtain⟨u,hu,_,h7⟩:=h5 i j hi hj;rw[Ff hu,h9 i hi,G8 _ (Gy _ _ _ _)];exact inner _ _ h7
   | rk _ id off len cap a g hg hz hl hn hb =>
     show Ad T1 w Mc (match AW ρ id with | some k=>AV.rs k off len | none=>if id∈sn then (match hp id with | some e=>if off+len<=e.rows.length then AV.vs e.s false (((e.rows.drop off).take len).map (·.map (conv [] sn hp n))) else AV.dead | none=>AV.dead) else AV.dead) _
     split
     .rename_i k hk
      exact .rs _ k off len cap a g ((hρ id k hk).trans hg) hz hl hn hb
     .split
      case isFalse=>exact .dead _ _
      rename_i hv;split
      case h_2=>exact .dead _ _
      rename_i e he;split
      case isFalse=>exact .dead _ _
      rename_i a1;obtain⟨g',a0,ent⟩:=hs.ent id e he;obtain rfl:=Qf (hg.symm.trans a0);have h0:(((e.rows.drop off).take len).map (·.map (conv [] sn hp n))).length=len:=by simp;omega
      have hS:=ent.s
      have h9:∀ i,i<len->(((e.rows.drop off).take len).map (·.map (conv [] sn hp n))).getD i []=(e.rows.getD (off+i) []).map (conv [] sn hp n):=by
       intro i hi;simp only[List.getD,QA,UC,Q9,if_pos hi]
       cases e.rows[off+i]?<;>rfl
      suffices hS:Ad T1 w Mc (.vs e.s false (((e.rows.drop off).take len).map (·.map (conv [] sn hp n)))) (.slice a (((e.rows.drop off).take len).map (·.map (conv [] sn hp n))).length cap) by
       rwa [h0] at hS
      cases h6:g.blk with
      | none =>
        have hz:=hn h6;refine .vs _ _ _ _ a cap (λ _ _=>undef) (λ e=>by cases e) (by rw[h0];exact hl) (λ r hr=>?_) (λ hd=>?_) (λ i j hi=>?_) (λ i j hi=>?_)
        .have:len=0:=by omega
         subst this;simp at hr
        .have:len=0:=by omega
         subst this;simp at hd
        all_goals (rw[h0] at hi;omega)
      | some b =>
        obtain⟨ha,c1,t1,f1,a4,a5⟩:=hb b h6;obtain⟨cells,ty,h1,h2,h3,h4⟩:=ent.blk (ent.s ▸ hz) b h6
        have h5:∀ i j,i<len->j<e.s -> ∃ u,cells[g.base+off*g.s+i*e.s+j]? = some u/\u.oneCell'=true/\Ad T w M ((e.rows.getD (off+i) []).getD j .dead) u:=by
         intro i j hi hj;obtain⟨u,hu,ho,h7⟩:=h4 (off+i) j (by omega) hj
         refine⟨u,?_,ho,h7⟩;rw[<- hu,hS,QI]
         congr 1
         omega
        refine .vs _ _ _ _ a cap (λ i j=>cells.getD (g.base+off*g.s+i*e.s+j) undef) (λ e=>by cases e) (by rw[h0];exact hl) (λ r hr=>?_) (λ hd=>?_) (λ i j hi hj=>?_) (λ i j hi hj=>?_)
        .obtain ⟨r0,a6,rfl⟩:=Qi.1 hr
         rw[Qr];exact ent.wide (ent.s ▸ hz) r0 (UW (QZ a6))
        .have a8:0<len:=by rw[<- h0];exact Uy.2 hd
         refine⟨b,g.base+off*g.s,cells,ty,(0,0),?_,h1,?_,λ i j hi hj=>?_⟩
         .rcases ha with ha | ha
          .omega
          .exact ha
         .rw [h0,a3 id hv e g b he hg h6,hS]
          have:(off+len)*e.s<=e.rows.length*e.s:=QD _ a1;rw[QI] at this;omega
         .rw [h0] at hi
          obtain⟨u,hu,_⟩:=h5 i j hi hj;rw[Ff hu];exact hu
        .rw [h0] at hi
         obtain⟨u,hu,ho,_⟩:=h5 i j hi hj;rw[Ff hu];exact ho
        .rw [h0] at hi
         obtain⟨u,hu,_,h7⟩:=h5 i j hi hj;rw[Ff hu,h9 i hi,G8 _ (Gy _ _ _ _)];exact inner _ _ h7
end Go.Proofs.YtkngdgplbojdlaaGreat
