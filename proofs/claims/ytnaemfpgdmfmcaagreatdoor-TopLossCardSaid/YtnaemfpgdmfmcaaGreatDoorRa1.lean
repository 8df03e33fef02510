/- Texts of this claim,merged. -/
import Derived.Orders
import Derived.Below
import Derived.Laws.Sem
import Derived.Laws.CopyRow
import Derived.Laws.MakeOwn
import Derived.Deep.Upon
import Derived.Deep.LoopGhost
import Derived.Laws.StructEq
import Derived.Laws.Cover3
import Derived.ChangeKeysEq
import Derived.Laws.Tables
import Derived.Lib.AppendZerosOnto
set_option linter.unusedSimpArgs false
set_option linter.unusedVariables false
set_option linter.unusedSectionVars false
set_option maxRecDepth 100000
set_option maxHeartbeats 8000000
noncomputable section
namespace Go.Proofs.YtnaemfpgdmfmcaaGreatDoor
open Go
theorem AC {α β γ:Type} (f:β->γ) (g:α->β):f∘g=λ x => f (g x) := (rfl)
theorem Qa:type_of% @List.getElem?_eq_getElem:=@List.getElem?_eq_getElem
theorem Qb:type_of% @List.take_of_length_le:=@List.take_of_length_le
theorem Qc:type_of% @Option.some.inj:=@Option.some.inj
theorem Qd:type_of% @decide_eq_false_iff_not:=@decide_eq_false_iff_not
theorem Qe:type_of% @List.getD_eq_getElem?_getD:=@List.getD_eq_getElem?_getD
theorem Qf:type_of% @decide_eq_true_eq:=@decide_eq_true_eq
theorem Qg:type_of% @List.mem_cons_of_mem:=@List.mem_cons_of_mem
theorem Qh:type_of% @List.mem_map:=@List.mem_map
theorem Qi:type_of% @List.mem_cons_self:=@List.mem_cons_self
theorem Qj:type_of% @List.getElem_mem:=@List.getElem_mem
theorem Qk:type_of% @Nat.le_refl:=@Nat.le_refl
theorem Ql:type_of% @List.take_succ_eq_append_getElem:=@List.take_succ_eq_append_getElem
theorem Qm:type_of% @List.length_append:=@List.length_append
theorem Qn:type_of% @Nat.zero_le:=@Nat.zero_le
theorem Qo:type_of% @List.mem_append:=@List.mem_append
theorem Qp:type_of% @List.map_cons:=@List.map_cons
theorem Qq:type_of% @Option.some.injEq:=@Option.some.injEq
theorem Qr:type_of% @Option.map_eq_some_iff:=@Option.map_eq_some_iff
theorem Qs:type_of% @List.getElem?_append_right:=@List.getElem?_append_right
theorem Qt:type_of% @List.mem_singleton:=@List.mem_singleton
theorem Qu:type_of% @List.getElem?_eq_some_iff:=@List.getElem?_eq_some_iff
theorem Qv:type_of% @Bool.eq_iff_iff:=@Bool.eq_iff_iff
theorem Qw:type_of% @List.mem_cons:=@List.mem_cons
theorem Qx:type_of% @Array.getD_eq_getD_getElem?:=@Array.getD_eq_getD_getElem?
theorem Qy:type_of% @Nat.mul_le_mul_right:=@Nat.mul_le_mul_right
theorem Qz:type_of% @List.mem_filter:=@List.mem_filter
theorem QA:type_of% @List.mem_iff_getElem:=@List.mem_iff_getElem
theorem QB:type_of% @List.length_map:=@List.length_map
theorem QC:type_of% @List.getElem?_append_left:=@List.getElem?_append_left
theorem QD:type_of% @Bool.and_eq_true:=@Bool.and_eq_true
theorem QE:type_of% @Array.getElem?_eq_some_iff:=@Array.getElem?_eq_some_iff
theorem QF:type_of% @Nat.le_trans:=@Nat.le_trans
theorem QG:type_of% @List.append_assoc:=@List.append_assoc
theorem QH:type_of% @List.getElem?_map:=@List.getElem?_map
theorem QI:type_of% @Nat.lt_succ_iff_lt_or_eq:=@Nat.lt_succ_iff_lt_or_eq
theorem QJ:type_of% @Nat.add_mul:=@Nat.add_mul
theorem QK:type_of% @List.eq_nil_of_length_eq_zero:=@List.eq_nil_of_length_eq_zero
theorem QL:type_of% @Array.toArray_toList:=@Array.toArray_toList
theorem QM:type_of% @List.pairwise_iff_getElem:=@List.pairwise_iff_getElem
theorem QN:type_of% @Int.fdiv_eq_ediv_of_nonneg:=@Int.fdiv_eq_ediv_of_nonneg
theorem QO:type_of% @Option.getD_some:=@Option.getD_some
theorem QP:type_of% @List.mem_range:=@List.mem_range
theorem QQ:type_of% @List.drop_eq_getElem_cons:=@List.drop_eq_getElem_cons
theorem QR:type_of% @List.mem_of_mem_take:=@List.mem_of_mem_take
theorem QS:type_of% @List.getElem?_eq_none:=@List.getElem?_eq_none
theorem QT:type_of% @List.length_singleton:=@List.length_singleton
theorem QU:type_of% @List.length_take:=@List.length_take
theorem QV:type_of% @List.length_cons:=@List.length_cons
theorem QW:type_of% @List.take_length:=@List.take_length
theorem QX:type_of% @List.mem_of_getElem?:=@List.mem_of_getElem?
theorem QY:type_of% @Nat.add_zero:=@Nat.add_zero
theorem QZ:type_of% @List.mem_append_left:=@List.mem_append_left
theorem Q0:type_of% @List.append_nil:=@List.append_nil
theorem Q1:type_of% @List.nodup_cons:=@List.nodup_cons
theorem Q2:type_of% @List.getElem_append_left:=@List.getElem_append_left
theorem Q3:type_of% @List.sum_cons:=@List.sum_cons
theorem Q4:type_of% @List.size_toArray:=@List.size_toArray
theorem Q5:type_of% @List.length_filter_le:=@List.length_filter_le
theorem Q6:type_of% @List.cons_append:=@List.cons_append
theorem Q7:type_of% @List.map_congr_left:=@List.map_congr_left
theorem Q8:type_of% @decide_eq_true:=@decide_eq_true
theorem Q9:type_of% @List.getElem?_drop:=@List.getElem?_drop
theorem Ua:type_of% @List.not_mem_nil:=@List.not_mem_nil
theorem Ub:type_of% @List.map_map:=@List.map_map
theorem Uc:type_of% @Nat.zero_add:=@Nat.zero_add
theorem Ud:type_of% @List.take_append_of_le_length:=@List.take_append_of_le_length
theorem Ue:type_of% @Bool.false_eq_true:=@Bool.false_eq_true
theorem Uf:type_of% @Array.getElem?_append_left:=@Array.getElem?_append_left
theorem Ug:type_of% @List.map_append:=@List.map_append
theorem Uh:type_of% @Option.bind_eq_some_iff:=@Option.bind_eq_some_iff
theorem Ui:type_of% @Nat.lt_or_ge:=@Nat.lt_or_ge
theorem Uj:type_of% @List.nodup_append:=@List.nodup_append
theorem Uk:type_of% @Array.length_toList:=@Array.length_toList
theorem Ul:type_of% @List.getElem_of_mem:=@List.getElem_of_mem
theorem Um:type_of% @List.drop_eq_nil_of_le:=@List.drop_eq_nil_of_le
theorem Un:type_of% @List.getElem?_take:=@List.getElem?_take
theorem Uo:type_of% @Option.map_some:=@Option.map_some
theorem Uq:type_of% @List.pairwise_cons:=@List.pairwise_cons
theorem Ur:type_of% @decide_eq_false:=@decide_eq_false
theorem Us:type_of% @List.getD_cons_zero:=@List.getD_cons_zero
theorem Ut:type_of% @Nat.not_lt_zero:=@Nat.not_lt_zero
theorem Uu:type_of% @List.nil_append:=@List.nil_append
theorem Uv:type_of% @if_false:=@if_false
theorem Uw:type_of% @Int.le_refl:=@Int.le_refl
theorem Ux:type_of% @Nat.lt_of_lt_of_le:=@Nat.lt_of_lt_of_le
theorem Uy:type_of% @Nat.eq_of_beq_eq_true:=@Nat.eq_of_beq_eq_true
theorem Uz:type_of% @List.filterMap_cons:=@List.filterMap_cons
theorem UA:type_of% @List.all_eq_true:=@List.all_eq_true
theorem UB:type_of% @List.any_eq_true:=@List.any_eq_true
theorem UC:type_of% @List.mem_of_mem_drop:=@List.mem_of_mem_drop
theorem UD:type_of% @List.length_take_le':=@List.length_take_le'
theorem UE:type_of% @Nat.eq_zero_or_pos:=@Nat.eq_zero_or_pos
theorem UF:type_of% @List.length_set:=@List.length_set
theorem UG:type_of% @Nat.add_assoc:=@Nat.add_assoc
theorem UH:type_of% @List.length_drop:=@List.length_drop
theorem UI:type_of% @Nat.succ_ne_zero:=@Nat.succ_ne_zero
theorem UJ:type_of% @Nat.pos_iff_ne_zero:=@Nat.pos_iff_ne_zero
theorem UK:type_of% @List.take_append_drop:=@List.take_append_drop
theorem UL:type_of% @List.mem_append_right:=@List.mem_append_right
theorem UM:type_of% @if_true:=@if_true
theorem UN:type_of% @List.map_nil:=@List.map_nil
theorem UO:type_of% @Bool.not_eq_true':=@Bool.not_eq_true'
theorem UP:type_of% @List.length_range:=@List.length_range
theorem UQ:type_of% @Array.size_append:=@Array.size_append
theorem UR:type_of% @List.getElem_take:=@List.getElem_take
theorem US:type_of% @List.pairwise_map:=@List.pairwise_map
theorem UT:type_of% @List.length_eq_zero_iff:=@List.length_eq_zero_iff
theorem UU:type_of% @Array.getElem?_push:=@Array.getElem?_push
theorem UV:type_of% @List.count_append:=@List.count_append
theorem UW:type_of% @List.foldl_append:=@List.foldl_append
theorem UX:type_of% @List.map_take:=@List.map_take
theorem UY:type_of% @Bool.or_eq_true:=@Bool.or_eq_true
theorem UZ:type_of% @Nat.min_eq_left:=@Nat.min_eq_left
theorem U0:type_of% @List.mem_zipIdx_iff_getElem?:=@List.mem_zipIdx_iff_getElem?
theorem U1:type_of% @List.dropLast_concat_getLast:=@List.dropLast_concat_getLast
theorem U2:type_of% @List.mem_filterMap:=@List.mem_filterMap
theorem U3:type_of% @List.findIdx_eq_length:=@List.findIdx_eq_length
theorem U4:type_of% @List.flatMap_cons:=@List.flatMap_cons
theorem U5:type_of% @Int.toNat_natCast:=@Int.toNat_natCast
theorem U6:type_of% @List.length_pos_iff:=@List.length_pos_iff
theorem U7:type_of% @List.length_nil:=@List.length_nil
theorem U8:type_of% @List.zipIdx_nil:=@List.zipIdx_nil
theorem U9:type_of% @List.concat_eq_append:=@List.concat_eq_append
theorem Va:type_of% @List.filter_append:=@List.filter_append
theorem Vb:type_of% @List.drop_zero:=@List.drop_zero
theorem Vc:type_of% @List.take_concat_get:=@List.take_concat_get
theorem Vd:type_of% @List.findIdx_getElem:=@List.findIdx_getElem
theorem Ve:type_of% @List.length_dropLast:=@List.length_dropLast
theorem Vf:type_of% @Nat.lt_trichotomy:=@Nat.lt_trichotomy
theorem Vg:type_of% @List.take_sublist:=@List.take_sublist
theorem Vh:type_of% @List.range_succ:=@List.range_succ
theorem Vi:type_of% @List.map_drop:=@List.map_drop
theorem zz {p:Prop} (h:p:=by simp):p:=h
theorem zy {p:Prop} (h:p:=by omega):p:=h
theorem zx {p:Prop} (h:p:=by decide):p:=h
theorem zw {p:Prop} (h:p:=by simp;omega):p:=h
theorem Bf {a b:Nat} (h:Nat.ble a b=true):a<=b:=Nat.le_of_ble_eq_true h
theorem AR {α:Type} (a:α):∃ x,x=a:=⟨_,rfl⟩
inductive AV where
 | dead
 | sc (v:Value)
 | agg (cs:List AV)
 | tup (vs:List AV)
 | vs (s:Nat) (full:Bool) (rows:List (List AV))
 | rs (id off len:Nat)
 | rk (id off len cap:Nat)
 | pv (cs:List AV)
 | pt (id i j:Nat)
 | mp (id:Nat)
 | it (id:Nat)
 | fn (f:Fn) (first capt:List AV)
 | ifc (t:TypeId) (v:AV)
 deriving Inhabited
abbrev AV.I (n:Int):AV:=.sc (.int .i64 n)
abbrev AV.B (b:Bool):AV:=.sc (.bool b)
abbrev AV.nilS:AV:=.sc (.slice none 0 0)
structure AD where
 s:Nat
 rows:List (List AV)
 ro:Nat:=0
 deriving Inhabited
inductive DB where
 | t (i:Nat)
 | c (v:Value)
 | f (i:FuncId)
 deriving Inhabited
inductive Er where
 | mle (z:Value) (ok:Bool) | mue
 | s2b
 | rng | nxt
 deriving Inhabited
inductive ER where
 | mv | pick
 | alloc (z:List Value)
 | box (s:Nat)
 | build (z:List Value) (ps:List (Nat × Nat))
 | bsl (s len:Nat) (z:List Value) (ps:List Nat)
 | ld (ag:Bool) (s:Nat)
 | st (s:Nat)
 | nil
 | bin (op:BinOp)
 | beq (neg:Bool)
 | aeq (neg:Bool) (ks:List Nat)
 | snil (neg:Bool)
 | un (op:UnOp)
 | cvt (k:IntKind)
 | b2s
 | mkf (fn:FuncId)
 | mkb (fn:FuncId)
 | mks (s bytes:Nat) (z:List Value)
 | slc (s:Nat) (lo hi mx:Bool)
 | fad (off:Nat)
 | fld (ag:Bool) (off s:Nat)
 | iad (s:Nat)
 | iaa (n s:Nat)
 | ixs
 | ixv (n:Nat)
 | ext (i:Nat)
 | call
 | app (s bytes:Nat)
 | apps
 | len | lens | cap
 | cpy (s:Nat)
 | clr (s:Nat) (z:List Value)
 | ovl (s:Nat)
 | apz (s bytes:Nat) (z:List Value)
 | mx2 | mn2
 | mkm | mlk (z:Value) (ok:Bool) | mup | mdl
 | x2 (o:Er)
 | mki (t:TypeId) | inv (tbl:List (TypeId × FuncId))
 | bad
 deriving Inhabited
structure Bl where
 dst:Option Nat
 op:ER
 xs:List DB
 guard:Option (Nat × Bool):=none
 deriving Inhabited
inductive CS where
 | skip
 | reg (draw:Bool) (ops:List Bl) (after:List (List Nat))
 | seq (a b:CS)
 | cond (c:DB) (a b:CS)
 | block (id:Nat) (a:CS)
 | loop (a:CS)
 | exit (id:Nat)
 | ret
 | bad
 deriving Inhabited
structure BW where
 nt:Nat
 res:List (Nat × Option (Bool × Nat))
 code:CS
def AQ {α:Type}:List (Nat × α)->Nat->Option α
 | [],_=>none
 | (i,a)::l,j=>if i=j then some a else AQ l j
structure St where
 sz:Nat
 t:List (Nat × AV)
 h:List (Nat × Option AD)
 n:Nat
def St.get (st:St) (i:Nat):AV:=(AQ st.t i).getD .dead
def St.hp (st:St) (id:Nat):Option AD:=(AQ st.h id).getD none
def St.put (st:St) (d:Option Nat) (v:AV):St:=match d with | none=>st | some i=>{ st with t:=(i,v)::st.t }
def St.upd (st:St) (up:List (Nat × Option AD)):St:={ st with h:=up++st.h }
def Bb:Value->AV
 | .agg cs=>if cs.all Value.oneCell' then .agg (cs.toList.map .sc) else .dead
 | .tuple _=>.dead
 | v=>.sc v
def DB.ev (g:Nat->AV):DB->AV
 | .t i=>g i
 | .c v=>Bb v
 | .f i=>.fn (.func i) [] []
def cellsOf:AV->Option (List AV)
 | .agg cs=>some cs
 | .dead=>none
 | .tup _=>none
 | .sc (.agg _)=>none
 | .sc (.tuple _)=>none
 | x=>some [x]
def En (h:Nat->Option AD):AV->Option (List AV)
 | .pv cs=>some cs
 | .pt id i j=>(h id).bind λ e=>(e.rows[i]?).map (·.drop j)
 | _=>none
def Be:AV->List Nat
 | .pt id _ _=>[id]
 | .rs id _ _=>[id]
 | .rk id _ _ _=>[id]
 | .mp id=>[id]
 | .it id=>[id]
 | _=>[]
def CJ (s:Nat) (h:Nat->Option AD):AV->Option (List (List AV))
 | .vs s' _ rows=>if s'=s then some rows else none
 | .rs id off len=>(h id).bind λ e=>if e.s=s/\off+len<=e.rows.length then some ((e.rows.drop off).take len) else none
 | .rk id off len _=>(h id).bind λ e=>if e.s=s/\off+len<=e.rows.length then some ((e.rows.drop off).take len) else none
 | .sc (.slice none 0 0)=>some []
 | _=>none
def lenOf:AV->Option Nat
 | .vs _ _ rows=>some rows.length
 | .rs _ _ len=>some len
 | .rk _ _ len _=>some len
 | .sc (.slice none 0 0)=>some 0
 | _=>none
def Dg (n:Nat):AV->AV
 | .vs s _ rows=>.vs s false (rows.take n)
 | .rs id off len=>.rs id off (min n len)
 | .rk id off len cap=>.rk id off (min n len) cap
 | x=>x
def DN (s:Nat) (h:Nat->Option AD) (new:List (List AV)):AV->Option (List (List AV) × Nat × List (Nat × Option AD))
 | .sc (.slice none 0 0)=>some ([],0,[])
 | .vs s' true rows=>if s'=s/\(rows=[]∨new≠[]) then some (rows,0,[]) else none
 | .rs id off len=>(h id).bind λ e=>if e.s=s/\off+len<=e.rows.length/\e.ro<=off+len then some ((e.rows.drop off).take len,e.ro - off,[(id,none)]) else none
 | _=>none
def Ae (op:BinOp):Value->Value->Option Value
 | .int k a,.int k' b =>
   match op with
   | .shl=>if 0<=b then some (.int k (k.wrap (a*2 ^ (min b.toNat k.bits)))) else none
   | .shr=>if 0<=b then some (.int k (a.fdiv (2 ^ (min b.toNat k.bits)))) else none
   | op=>if k=k' then
     match op with
     | .add=>some (.int k (k.wrap (a+b)))
     | .sub=>some (.int k (k.wrap (a - b)))
     | .mul=>some (.int k (k.wrap (a*b)))
     | .quo=>if b=0 then none else some (.int k (k.wrap (a.tdiv b)))
     | .rem=>if b=0 then none else some (.int k (a.tmod b))
     | .and=>some (.int k (k.wrap (BitVec.ofInt k.bits a &&& BitVec.ofInt k.bits b).toNat))
     | .or=>some (.int k (k.wrap (BitVec.ofInt k.bits a ||| BitVec.ofInt k.bits b).toNat))
     | .xor=>some (.int k (k.wrap (BitVec.ofInt k.bits a ^^^ BitVec.ofInt k.bits b).toNat))
     | .andNot=>some (.int k (k.wrap (BitVec.ofInt k.bits a &&& ~~~ BitVec.ofInt k.bits b).toNat))
     | .eql=>some (.bool (a == b))
     | .neq=>some (.bool (a != b))
     | .lss=>some (.bool (decide (a<b)))
     | .leq=>some (.bool (decide (a<=b)))
     | .gtr=>some (.bool (decide (a > b)))
     | .geq=>some (.bool (decide (a≥b)))
     | _=>none
     else none
 | .string a,.string b =>
   match op with
   | .eql=>some (.bool (a.toList == b.toList))
   | .neq=>some (.bool !(a.toList == b.toList))
   | .lss=>some (.bool (Op.bytesLess a.toList b.toList))
   | .leq=>some (.bool (Op.bytesLess a.toList b.toList || a.toList == b.toList))
   | .gtr=>some (.bool !(Op.bytesLess a.toList b.toList || a.toList == b.toList))
   | .geq=>some (.bool !(Op.bytesLess a.toList b.toList))
   | _=>none
 | _,_=>none
def Hq (op:UnOp):Value->Option Value
 | .int k n=>match op with | .neg=>some (.int k (k.wrap (0 - n))) | .xor=>some (.int k (k.wrap (BitVec.ofInt k.bits (if k.signed then -1 else k.max) ^^^ BitVec.ofInt k.bits n).toNat)) | _=>none
 | .bool b=>match op with | .not=>some (.bool !b) | _=>none
 | _=>none
def Cw:List Nat->List AV->List AV->Option Bool
 | [],[],[]=>some true
 | 0::ks,.sc (.int k a)::xs,.sc (.int k' b)::ys=>if k=k' then (Cw ks xs ys).map ((a == b) && ·) else none
 | 1::ks,.sc (.bool a)::xs,.sc (.bool b)::ys=>(Cw ks xs ys).map ((a == b) && ·)
 | 2::ks,.sc (.string a)::xs,.sc (.string b)::ys=>(Cw ks xs ys).map ((a.toList == b.toList) && ·)
 | _,_,_=>none
def F4 (cells:List AV):List (Nat × Nat)->List AV->Option (List AV)
 | [],[]=>some cells
 | (off,size)::ps,x::xs =>
   match cellsOf x with
   | some cs=>if cs.length=size/\off+size<=cells.length then F4 (cells.take off++cs++cells.drop (off+size)) ps xs else none
   | none=>none
 | _,_=>none
def FV (s:Nat) (rows:List (List AV)):List Nat->List AV->Option (List (List AV))
 | [],[]=>some rows
 | i::ps,x::xs =>
   match cellsOf x with
   | some cs=>if cs.length=s/\i<rows.length then FV s (rows.set i cs) ps xs else none
   | none=>none
 | _,_=>none
def Ax (row:List AV) (j:Nat) (cs:List AV):List AV:=row.take j++cs++row.drop (j+cs.length)
def Ce (n:Int):List (List AV)->Option AV
 | [.sc (.int .i64 k),x]::l=>if n=k then some x else Ce n l
 | _=>none
def A7 (n:Int) (y:AV):List (List AV)->List (List AV)
 | [.sc (.int .i64 k),x]::l=>if n=k then [.sc (.int .i64 k),y]::l else [.sc (.int .i64 k),x]::A7 n y l
 | _=>[[.sc (.int .i64 n),y]]
def Bn (n:Int):List (List AV)->List (List AV)
 | [.sc (.int .i64 k),x]::l=>if n=k then l else [.sc (.int .i64 k),x]::Bn n l
 | _=>[]
def Dk (s:ByteArray):List (List AV):=s.data.toList.map λ b=>[AV.sc (.int .u8 b.toNat)]
def Gd:List (List AV)->Option (List UInt8)
 | []=>some []
 | [.sc (.int .u8 n)]::rest=>(Gd rest).map (UInt8.ofNat n.toNat :: ·)
 | _=>none
def conv (ρ:List (Nat × Nat)) (sn:List Nat) (h:Nat->Option AD):Nat->AV->AV
 | 0,_=>.dead
 | n+1,x =>
   match x with
   | .agg cs=>.agg (cs.map (conv ρ sn h n))
   | .tup cs=>.tup (cs.map (conv ρ sn h n))
   | .rs id off len =>
     match AQ ρ id with
     | some k=>.rs k off len
     | none =>
       if id∈sn then
        match h id with
        | some e=>if off+len<=e.rows.length then .vs e.s false (((e.rows.drop off).take len).map (·.map (conv [] sn h n))) else .dead
        | none=>.dead
       else .dead
   | .rk id off len _ =>
     match AQ ρ id with
     | some k=>.rs k off len
     | none =>
       if id∈sn then
        match h id with
        | some e=>if off+len<=e.rows.length then .vs e.s false (((e.rows.drop off).take len).map (·.map (conv [] sn h n))) else .dead
        | none=>.dead
       else .dead
   | .pt id i j =>
     match AQ ρ id with
     | some k=>.pt k i j
     | none =>
       if id∈sn then
        match h id with
        | some e=>match e.rows[i]? with | some row=>if j<=row.length then .pv ((row.drop j).map (conv [] sn h n)) else .dead | none=>.dead
        | none=>.dead
       else .dead
   | .mp id =>
     match AQ ρ id with
     | some k=>.mp k
     | none=>.dead
   | .it id =>
     match AQ ρ id with
     | some k=>.it k
     | none=>.dead
   | .fn f a b=>.fn f (a.map (conv ρ sn h n)) (b.map (conv ρ sn h n))
   | .ifc t v=>.ifc t (conv ρ sn h n v)
   | x=>x
def Ab (ρ:List (Nat × Nat)) (sn:List Nat) (h:Nat->Option AD) (n:Nat) (e:AD):AD:={ e with rows:=e.rows.map (·.map (conv ρ sn h n)) }
inductive Wk:AV->AV->Prop where
 | refl (x:AV):Wk x x
 | dead (x:AV):Wk x .dead
 | nil (s:Nat) (f:Bool):Wk .nilS (.vs s f [])
 | mt (s c:Nat) (a:Option Addr):Wk (.sc (.slice a 0 c)) (.vs s false [])
 | full (s:Nat) (rows:List (List AV)):Wk (.vs s true rows) (.vs s false rows)
 | rows (s:Nat) (f:Bool) (xs ys:List (List AV)):xs.length=ys.length->(∀ i:Nat,(xs.getD i []).length=(ys.getD i []).length)->(∀ i j:Nat,Wk ((xs.getD i []).getD j .dead) ((ys.getD i []).getD j .dead))->Wk (.vs s f xs) (.vs s f ys)
 | pv (xs ys:List AV):xs.length=ys.length->(∀ i:Nat,Wk (xs.getD i .dead) (ys.getD i .dead))->Wk (.pv xs) (.pv ys)
 | agg (xs ys:List AV):xs.length=ys.length->(∀ i:Nat,Wk (xs.getD i .dead) (ys.getD i .dead))->Wk (.agg xs) (.agg ys)
 | tup (xs ys:List AV):xs.length=ys.length->(∀ i:Nat,Wk (xs.getD i .dead) (ys.getD i .dead))->Wk (.tup xs) (.tup ys)
def C7:List AV->List AV->Prop
 | [],[]=>True
 | x::xs,y::ys=>Wk x y/\C7 xs ys
 | _,_=>False
inductive Plain:AV->Prop where
 | dead:Plain .dead
 | sc (v:Value):Plain (.sc v)
 | agg (xs:List AV):(∀ i:Nat,Plain (xs.getD i .dead))->Plain (.agg xs)
 | tup (xs:List AV):(∀ i:Nat,Plain (xs.getD i .dead))->Plain (.tup xs)
 | rs (id off len:Nat):Plain (.rs id off len)
 | pt (id i j:Nat):Plain (.pt id i j)
 | mp (id:Nat):Plain (.mp id)
 | it (id:Nat):Plain (.it id)
def GP (e:AD):Prop:=∀ row∈e.rows,∀ x∈row,Plain x
structure GE where
 blk:Option Nat
 base:Nat
 s:Nat
 it:Bool:=false
abbrev GM:=Nat->Option GE
inductive AX (T:Nat->Nat) (w:World):GM->AV->Value->Prop where
 | dead (M:GM) (v:Value):AX T w M .dead v
 | sc (M:GM) (v:Value) (h1:v.oneCell'=true):AX T w M (.sc v) v
 | agg (M:GM) (cs:List AV) (vs:Array Value) (hl:vs.size=cs.length) (h1:∀ i,i<cs.length->(vs.getD i undef).oneCell'=true) (h:∀ i,i<cs.length->AX T w M (cs.getD i .dead) (vs.getD i undef)):AX T w M (.agg cs) (.agg vs)
 | tup (M:GM) (cs:List AV) (vs:Array Value) (hl:vs.size=cs.length) (h:∀ i,i<cs.length->AX T w M (cs.getD i .dead) (vs.getD i undef)):AX T w M (.tup cs) (.tuple vs)
 | vs (M:GM) (s:Nat) (full:Bool) (rows:List (List AV)) (a:Option Addr) (cap:Nat) (c:Nat->Nat->Value)
   (hf:full=true->cap=rows.length) (hl:rows.length<=cap) (hw:∀ row∈rows,row.length=s)
   (hb:rows≠[] -> ∃ b off cells ty fz,a=some ⟨b,off,none⟩/\w.heap[b]? = some (.cells cells ty fz)/\off+rows.length*s<=T b /\
    ∀ i j,i<rows.length->j<s->cells[off+i*s+j]? = some (c i j))
   (h1:∀ i j,i<rows.length->j<s->(c i j).oneCell'=true)
   (h:∀ i j,i<rows.length->j<s->AX T w (λ _=>none) ((rows.getD i []).getD j .dead) (c i j)):AX T w M (.vs s full rows) (.slice a rows.length cap)
 | pv (M:GM) (cs:List AV) (b off:Nat) (cells:Array Value) (ty:TypeId) (fz:Nat × Nat) (c:Nat->Value) (hb:w.heap[b]? = some (.cells cells ty fz)) (ht:off+cs.length<=T b)
   (hc:∀ j,j<cs.length->cells[off+j]? = some (c j)) (h1:∀ j,j<cs.length->(c j).oneCell'=true) (h:∀ j,j<cs.length->AX T w (λ _=>none) (cs.getD j .dead) (c j)):AX T w M (.pv cs) (.pointer (some ⟨b,off,none⟩))
 | rs (M:GM) (id off len cap:Nat) (a:Option Addr) (g:GE) (hg:M id=some g) (hz:g.s≠0) (hl:len<=cap) (hn:g.blk=none->off=0/\cap=0)
   (hb:∀ b,g.blk=some b->(cap=0∨a=some ⟨b,g.base+off*g.s,none⟩) /\ ∃ cells ty fz,w.heap[b]? = some (.cells cells ty fz)/\g.base+off*g.s+cap*g.s<=cells.size):AX T w M (.rs id off len) (.slice a len cap)
 | rk (M:GM) (id off len cap:Nat) (a:Option Addr) (g:GE) (hg:M id=some g) (hz:g.s≠0) (hl:len<=cap) (hn:g.blk=none->off=0/\cap=0)
   (hb:∀ b,g.blk=some b->(cap=0∨a=some ⟨b,g.base+off*g.s,none⟩) /\ ∃ cells ty fz,w.heap[b]? = some (.cells cells ty fz)/\g.base+off*g.s+cap*g.s<=cells.size):AX T w M (.rk id off len cap) (.slice a len cap)
 | pt (M:GM) (id i j:Nat) (g:GE) (b:Nat) (hg:M id=some g) (hz:g.s≠0) (hb:g.blk=some b):AX T w M (.pt id i j) (.pointer (some ⟨b,g.base+i*g.s+j,none⟩))
 | mp (M:GM) (id:Nat) (g:GE) (b:Nat) (hg:M id=some g) (hz:g.s=0) (hb:g.blk=some b) (hi:g.it=false):AX T w M (.mp id) (.map (some b))
 | it (M:GM) (id:Nat) (g:GE) (b:Nat) (hg:M id=some g) (hz:g.s=0) (hb:g.blk=some b) (hi:g.it=true):AX T w M (.it id) (.pointer (some ⟨b,0,none⟩))
 | fn (M:GM) (f:Fn) (xs ys:List AV) (us vs:Array Value) (hx:us.size=xs.length) (hy:vs.size=ys.length) (h:∀ i,i<xs.length->AX T w M (xs.getD i .dead) (us.getD i undef))
   (h':∀ i,i<ys.length->AX T w M (ys.getD i .dead) (vs.getD i undef)):AX T w M (.fn f xs ys) (.func f us vs)
 | ifc (M:GM) (t:TypeId) (x:AV) (v:Value) (h:AX T w M x v):AX T w M (.ifc t x) (.iface t v)
def EW (T:Nat->Nat) (w:World):Prop:=∀ b,0<T b -> ∃ cells ty fz,w.heap[b]? = some (.cells cells ty fz)/\T b<=cells.size
def Cm (T:Nat->Nat) (w:World) (M:GM):List (List AV)->List MapEntry->Prop
 | [],[]=>True
 | row::rows,e::es=>(∃ n x,row=[.sc (.int .i64 n),x]/\e.key = .int .i64 n/\AX T w M x e.val)/\Cm T w M rows es
 | _,_=>False
def Gq (T:Nat->Nat) (w:World) (M:GM) (it:Bool) (rows:List (List AV)) (o:Obj):Prop :=
 match o with
 | .map es _=>it=false/\Cm T w M rows es.toList
 | .stringIter s p=>it=true/\rows=[[.sc (.string s),.sc (.int .i64 p)]]
 | _=>False
def GD (s n:Nat) (fz:Nat × Nat):Prop:=fz=(0,0)∨(s=1/\fz=(n,n+1))
def Sl (o:Option Obj) (s:Nat) (cells:Array Value) (ty:TypeId):Prop:=∃ fz,o=some (.cells cells ty fz)/\GD s cells.size fz
structure HR (T:Nat->Nat) (w:World) (M:GM) (e:AD) (g:GE):Prop where
 s:g.s=e.s
 ro:e.ro<=e.rows.length
 wide:e.s≠0 -> ∀ row∈e.rows,row.length=e.s
 none:g.blk=none->e.rows=[]
 mp:e.s=0 -> ∃ b o,g.blk=some b/\w.heap[b]? = some o/\T b=0/\g.base=0/\Gq T w M g.it e.rows o
 blk:e.s≠0 -> ∀ b,g.blk=some b -> ∃ cells ty,Sl w.heap[b]? e.s cells ty/\T b<=g.base+e.ro*e.s/\g.base+e.rows.length*e.s<=cells.size /\
  ∀ i j,i<e.rows.length->j<e.s -> ∃ v,cells[g.base+i*e.s+j]? = some v/\v.oneCell'=true/\AX T w M ((e.rows.getD i []).getD j .dead) v
structure DR (T:Nat->Nat) (w:World) (M:GM) (hp:Nat->Option AD):Prop where
 ent:∀ id e,hp id=some e -> ∃ g,M id=some g/\HR T w M e g
 inj:∀ id id' e e' g g' b,hp id=some e->hp id'=some e'->M id=some g->M id'=some g'->g.blk=some b->g'.blk=some b->id=id'
structure Ag (T:Nat->Nat) (w:World) (T':Nat->Nat) (w':World):Prop where
 le:∀ b,T b<=T' b
 cell:∀ b cells ty fz,w.heap[b]? = some (.cells cells ty fz) -> ∃ cells' fz',w'.heap[b]? = some (.cells cells' ty fz')/\cells'.size=cells.size /\ ∀ o,o<T b->cells'[o]? = cells[o]?
def Fl (n:Nat) (M:GM) (b:Nat):Prop:=∃ k g,k<n/\M k=some g/\g.blk=some b
structure FO (n:Nat) (T:Nat->Nat) (M:GM) (w:World) (T':Nat->Nat) (M':GM) (w':World):Prop where
 tok:EW T' w'
 old:∀ b,b<w.heap.size->¬ Fl n M b->T' b=T b
 same:∀ k,k<n->M' k=M k
 os:w'.os=w.os
 tape:w'.tape=w.tape
 output:w'.output=w.output
 size:w.heap.size<=w'.heap.size
 keep:∀ b,b<w.heap.size->¬ Fl n M b->w'.heap[b]? = w.heap[b]?
 pres:Ag T w T' w'
 new:∀ k g b,n<=k->M' k=some g->g.blk=some b->Fl n M b∨w.heap.size<=b
def Ej (T:Nat->Nat) (w:World) (M:GM) (xs:List AV) (vs:Array Value):Prop:=vs.size=xs.length /\ ∀ i,i<xs.length->AX T w M (xs.getD i .dead) (vs.getD i undef)
def CW (hs:List AD):Nat->Option AD:=λ k=>hs[k]?
def Eg (hs:List (Option AD)):Nat->Option AD:=λ k=>hs[k]?.join
def Bz (P:Program) (f:FuncId) (args:List AV) (hs:List AD) (res:AV) (hs':List (Option AD)):Prop :=
 (∃ fn c,P.funcs[f]? = some fn/\fn.body=some c/\fn.name ≠ "runtime.NumGoroutine")/\hs.length<=hs'.length /\
 ∀ (T:Nat->Nat) (M:GM) (w:World) (vs:Array Value),EW T w->DR T w M (CW hs)->(∀ k,hs.length<=k->M k=none)->Ej T w M args vs ->
   Calls P f vs w λ e w'=>∃ v T' M',e = .returned v/\AX T' w' M' res v/\DR T' w' M' (Eg hs')/\FO hs.length T M w T' M' w'
def aX (id:Nat) (op:Er) (xs:List AV) (h:Nat->Option AD) (K:AV->List Nat->List (Nat × Option AD)->Prop):Prop :=
 match op,xs with
 | .mle z ok,[.mp i,.sc (.string _)]=>∃ e,h i=some e/\e.s=0/\e.rows=[]/\K (if ok then .tup [Bb z,.sc (.bool false)] else Bb z) [i] []
 | .mue,[.mp i,.sc (.string _),_]=>∃ e,h i=some e/\e.s=0/\e.rows=[]/\K .dead [i] [(i,none)]
 | .rng,[.sc (.string s)]=>K (.it id) [] [(id,some { s:=0,rows:=[[.sc (.string s),.sc (.int .i64 0)]] })]
 | .nxt,[.it i]=>∃ e,h i=some e/\e.s=0 /\ ∃ (s:ByteArray) (p:Nat),e.rows=[[.sc (.string s),.sc (.int .i64 p)]] /\
   if p<s.size then ∃ c,s.data.toList[p]? = some c/\c.toNat<128/\K (.tup [.sc (.bool true),.sc (.int .i64 p),.sc (.int .i32 c.toNat)]) [i] [(i,some { e with rows:=[[.sc (.string s),.sc (.int .i64 (p+1:Nat))]] })]
   else K (.tup [.sc (.bool false)]) [i] []
 | .s2b,[.sc (.string b)]=>K (.rs id 0 b.size) [] [(id,some { s:=1,rows:=Dk b,ro:=0 })]
 | _,_=>False
def aK (P:Program) (np id:Nat) (op:ER) (xs:List AV) (h:Nat->Option AD) (K:AV->List Nat->List (Nat × Option AD)->Prop):Prop :=
 match op,xs with
 | .mv,[x]=>K x [] []
 | .pick,[c,a,b]=>∃ t,c = .sc (.bool t)/\K (if t then a else b) [] []
 | .alloc z,[]=>K (.pt id 0 0) [] [(id,some { s:=z.length,rows:=[z.map .sc] })]
 | .box s,[x]=>∃ cs,cellsOf x=some cs/\cs.length=s/\K (.pt id 0 0) [] [(id,some { s:=s,rows:=[cs] })]
 | .build z ps,xs=>∃ cs,F4 (z.map .sc) ps xs=some cs/\K (.agg cs) [] []
 | .bsl s len z ps,xs=>∃ rows,FV s (List.replicate len (z.map .sc)) ps xs=some rows/\z.length=s/\K (.rs id 0 len) [] [(id,some { s:=s,rows:=rows })]
 | .ld ag s,[x]=>∃ cs,En h x=some cs/\s<=cs.length/\K (if ag then .agg (cs.take s) else cs.headD .dead) (Be x) []
 | .st s,[.pt i k j,x]=>∃ e row cs,h i=some e/\e.rows[k]? = some row/\e.ro<=k/\cellsOf x=some cs/\cs.length=s/\j+s<=row.length /\
   K .dead [i] [(i,some { e with rows:=e.rows.set k (Ax row j cs) })]
 | .nil,[x]=>(match x with | .pt _ _ _=>True | .pv _=>True | .ifc _ _=>True | _=>False)/\K x [] []
 | .bin op,[.sc a,.sc b]=>∃ v,Ae op a b=some v/\K (.sc v) [] []
 | .beq neg,[.sc (.bool a),.sc (.bool b)]=>K (.sc (.bool ((a == b) != neg))) [] []
 | .aeq neg ks,[.agg xs,.agg ys]=>∃ b,Cw ks xs ys=some b/\K (.sc (.bool (b != neg))) [] []
 | .snil neg,[.vs _ _ (_::_)]=>K (.sc (.bool neg)) [] []
 | .snil neg,[.sc (.slice a _ _)]=>K (.sc (.bool (a.isNone != neg))) [] []
 | .un op,[.sc a]=>∃ v,Hq op a=some v/\K (.sc v) [] []
 | .cvt k,[.sc (.int _ n)]=>K (.sc (.int k (k.wrap n))) [] []
 | .b2s,[x]=>∃ rows bs,CJ 1 h x=some rows/\Gd rows=some bs/\K (.sc (.string ⟨bs.toArray⟩)) (Be x) []
 | .mkf f,xs=>K (.fn (.func f) [] xs) [] []
 | .mkb f,xs=>K (.fn (.func f) xs []) [] []
 | .mks s bytes z,[.sc (.int _ l),.sc (.int _ c)]=>0<=l/\l<=c/\c*bytes<=140737488355328/\c<=140737488355328/\z.length=s /\
   K (.rs id 0 l.toNat) [] [(id,some { s:=s,rows:=List.replicate l.toNat (z.map .sc) })]
 | .slc s lo hi mx,x::bs =>
   ∃ l r m:Nat,∃ n,lenOf x=some n/\l<=r /\
     bs=(if lo then [AV.I l] else [])++(if hi then [AV.I r] else [])++(if mx then [AV.I m] else [])/\(lo=false->l=0)/\(hi=false->r=n)/\(mx=true->hi=true) /\
     match x with
     | .vs s' f rows=>r<=n/\(mx=true->m=r)/\s'=s/\K (.vs s (mx || (f && !hi)) ((rows.drop l).take (r - l))) [] []
     | .rs i off _=>r<=n/\mx=false/\(∃ e,h i=some e/\e.s=s)/\K (.rs i (off+l) (r - l)) [i] []
     | .rk i off _ c=>r<=m/\m<=c/\(mx=false->m=c)/\(∃ e,h i=some e/\e.s=s)/\K (.rk i (off+l) (r - l) (m - l)) [i] []
     | .sc (.slice none 0 0)=>r<=n/\(mx=true->m=r)/\K .nilS [] []
     | _=>False
 | .fad off,[.pv cs]=>off<=cs.length/\K (.pv (cs.drop off)) [] []
 | .fad off,[.pt i k j]=>K (.pt i k (j+off)) [] []
 | .fld ag off s,[.agg cs]=>off+s<=cs.length/\K (if ag then .agg ((cs.drop off).take s) else cs.getD off .dead) [] []
 | .iad s,[.vs s' _ rows,.sc (.int _ n)]=>s'=s/\0<=n /\ ∃ row,rows[n.toNat]? = some row/\K (.pv row) [] []
 | .iad s,[.rs i off len,.sc (.int _ n)]=>0<=n/\n<len/\(∃ e,h i=some e/\e.s=s)/\K (.pt i (off+n.toNat) 0) [i] []
 | .iaa l s,[.pt i k j,.sc (.int _ n)]=>0<=n/\n<l/\K (.pt i k (j+n.toNat*s)) [] []
 | .iaa l s,[.pv cs,.sc (.int _ n)]=>0<=n/\n<l/\l*s<=cs.length/\K (.pv (cs.drop (n.toNat*s))) [] []
 | .ixs,[.sc (.string b),.sc (.int _ n)]=>0<=n /\ ∃ c,b.data.toList[n.toNat]? = some c/\K (.sc (.int .u8 c.toNat)) [] []
 | .ixv l,[.agg cs,.sc (.int _ n)]=>0<=n/\n<l/\l<=cs.length/\K (cs.getD n.toNat .dead) [] []
 | .ext i,[.tup vs]=>∃ v,vs[i]? = some v/\K v [] []
 | .call,.fn (.func f) first capt::args =>
   ∃ (ids sn:List Nat) (raise:Bool) (args':List AV) (hs:List AD) (res:AV) (hs':List (Option AD)),
     ids.Nodup/\(∀ i∈sn,i∉ids)/\(raise=true -> ∀ i∈sn,np<=i) /\
     C7 ((first++args++capt).map (conv ids.zipIdx sn h 4)) args' /\
     ids.map (λ i=>(h i).map (Ab ids.zipIdx sn h 4))=hs.map some /\
     Bz P f args' hs res hs'/\hs'.length<=hs.length+8 /\
     (raise=true∨(Plain res /\ ∀ e,some e∈hs'->GP e)) /\
     K (conv ((ids++(List.range 8).map (id + ·)).zipIdx.map λ (a,b)=>(b,a)) [] (λ _=>none) 4 res) (ids++sn)
       ((hs'.zipIdx.map λ (e,k)=>((ids++(List.range 8).map (id + ·)).getD k 0,e.map (Ab ((ids++(List.range 8).map (id + ·)).zipIdx.map λ (a,b)=>(b,a)) [] (λ _=>none) 4))) ++
        (if raise then sn.filterMap (λ i=>(h i).map λ e=>(i,some { e with ro:=e.rows.length })) else []))
 | .app s bytes,[.rk i off len c,y]=>∃ new e,CJ s h y=some new/\h i=some e/\e.s=s/\off+len<=e.rows.length/\e.ro<=off+len/\(len+new.length)*bytes<=140737488355328/\len+new.length<=140737488355328 /\
   if len+new.length<=c then K (.rk i off (len+new.length) c) (i::Be y) [(i,some { e with rows:=e.rows.take (off+len)++new++e.rows.drop (off+len+new.length) })]
   else K (.rs id 0 (len+new.length)) (i::Be y) [(id,some { s:=s,rows:=(e.rows.drop off).take len++new,ro:=0 })]
 | .app s bytes,[x,y]=>∃ new old,CJ s h y=some new/\DN s h new x=some old/\(old.1.length+new.length)*bytes<=140737488355328 /\
   old.1.length+new.length<=140737488355328 /\
   K (.rs id 0 (old.1.length+new.length)) (Be x++Be y) ((id,some { s:=s,rows:=old.1++new,ro:=old.2.1 })::old.2.2)
 | .apps,[x,.sc (.string b)]=>∃ old,DN 1 h (Dk b) x=some old/\old.1.length+b.size<=140737488355328 /\
   K (.rs id 0 (old.1.length+b.size)) (Be x) ((id,some { s:=1,rows:=old.1++Dk b,ro:=old.2.1 })::old.2.2)
 | .apz s bytes z,[.rk i off len c,.sc (.int _ n)]=>∃ e,h i=some e/\e.s=s/\z.length=s/\off+len<=e.rows.length/\0<n/\c<len+n.toNat/\(len+n.toNat)*bytes<=140737488355328/\len+n.toNat<=140737488355328 /\
   K (.rs id 0 (len+n.toNat)) [i] [(id,some { s:=s,rows:=(e.rows.drop off).take len++List.replicate n.toNat (z.map .sc),ro:=0 })]
 | .apz s bytes z,[.sc (.slice none 0 0),.sc (.int _ n)]=>z.length=s/\0<n/\n.toNat*bytes<=140737488355328/\n.toNat<=140737488355328 /\
   K (.rs id 0 n.toNat) [] [(id,some { s:=s,rows:=List.replicate n.toNat (z.map .sc),ro:=0 })]
 | .len,[x]=>∃ n:Nat,lenOf x=some n/\K (AV.I n) [] []
 | .lens,[.sc (.string b)]=>K (AV.I b.size) [] []
 | .cap,[.rk _ _ _ c]=>K (AV.I c) [] []
 | .cap,[.sc (.slice none 0 0)]=>K (AV.I 0) [] []
 | .cpy s,[.rs i off len,y]=>∃ e new,h i=some e/\e.s=s/\e.ro<=off/\off+len<=e.rows.length/\CJ s h y=some new /\
   K (AV.I (min new.length len:Nat)) (i::Be y) [(i,some { e with rows:=e.rows.take off++new.take (min new.length len)++e.rows.drop (off+min new.length len) })]
 | .cpy s,[.rk i off len _,y]=>∃ e new m,h i=some e/\e.s=s/\e.ro<=off/\off<=e.rows.length/\lenOf y=some m/\CJ s h (Dg (min m len) y)=some new /\
   K (AV.I (min m len:Nat)) (i::Be y) [(i,some { e with rows:=e.rows.take off++new++e.rows.drop (off+min m len) })]
 | .clr s z,[.rk i off len _]=>∃ e,h i=some e/\e.s=s/\z.length=s/\e.ro<=off/\off+len<=e.rows.length /\
   K .dead [i] [(i,some { e with rows:=e.rows.take off++List.replicate len (z.map .sc)++e.rows.drop (off+len) })]
 | .ovl s,[.vs s' _ _,.rk i off _ _]=>∃ e,h i=some e/\s'=s/\e.s=s/\s≠1/\e.ro<=off/\K (.sc (.bool false)) [i] []
 | .clr s z,[.rs i off len]=>∃ e,h i=some e/\e.s=s/\z.length=s/\e.ro<=off/\off+len<=e.rows.length /\
   K .dead [i] [(i,some { e with rows:=e.rows.take off++List.replicate len (z.map .sc)++e.rows.drop (off+len) })]
 | .mx2,[.sc (.int k a),.sc (.int _ b)]=>K (.sc (.int k (if a<b then b else a))) [] []
 | .mn2,[.sc (.int k a),.sc (.int _ b)]=>K (.sc (.int k (if b<a then b else a))) [] []
 | .mki t,[x]=>K (.ifc t x) [] []
 | .x2 o,xs=>aX id o xs h K
 | .inv tbl,.ifc t x::args =>
   ∃ (f:FuncId) (ids sn:List Nat) (raise:Bool) (args':List AV) (hs:List AD) (res:AV) (hs':List (Option AD)),
     AQ tbl t=some f/\ids.Nodup/\(∀ i∈sn,i∉ids)/\(raise=true -> ∀ i∈sn,np<=i) /\
     C7 ((x::args).map (conv ids.zipIdx sn h 4)) args' /\
     ids.map (λ i=>(h i).map (Ab ids.zipIdx sn h 4))=hs.map some /\
     Bz P f args' hs res hs'/\hs'.length<=hs.length+8 /\
     (raise=true∨(Plain res /\ ∀ e,some e∈hs'->GP e)) /\
     K (conv ((ids++(List.range 8).map (id + ·)).zipIdx.map λ (a,b)=>(b,a)) [] (λ _=>none) 4 res) (ids++sn)
       ((hs'.zipIdx.map λ (e,k)=>((ids++(List.range 8).map (id + ·)).getD k 0,e.map (Ab ((ids++(List.range 8).map (id + ·)).zipIdx.map λ (a,b)=>(b,a)) [] (λ _=>none) 4))) ++
        (if raise then sn.filterMap (λ i=>(h i).map λ e=>(i,some { e with ro:=e.rows.length })) else []))
 | .mkm,[]=>K (.mp id) [] [(id,some { s:=0,rows:=[] })]
 | .mlk z ok,[.mp i,.sc (.int .i64 n)]=>∃ e,h i=some e/\e.s=0/\K (if ok then .tup [(Ce n e.rows).getD (Bb z),.sc (.bool (Ce n e.rows).isSome)] else (Ce n e.rows).getD (Bb z)) [i] []
 | .mup,[.mp i,.sc (.int .i64 n),x]=>∃ e,h i=some e/\e.s=0/\K .dead [i] [(i,some { e with rows:=A7 n x e.rows })]
 | .mdl,[.mp i,.sc (.int .i64 n)]=>∃ e,h i=some e/\e.s=0/\K (.tup []) [i] [(i,some { e with rows:=Bn n e.rows,ro:=0 })]
 | _,_=>False
def GG:AV->Option (Option Bool)
 | .sc (.bool b)=>some (some b)
 | .tup []=>some none
 | _=>none
def BY (P:Program) (np n:Nat):Nat->List Bl->St->List (List Nat × List Nat)->(St->List (List Nat × List Nat)->Prop)->Prop
 | _,[],st,tr,K=>K st tr
 | i,o::os,st,tr,K =>
   let go:Prop:=aK P np (n+8*i) o.op (o.xs.map (·.ev st.get)) st.hp λ v rd up=>BY P np n (i+1) os ((st.put o.dst v).upd up) (tr++[(rd,up.map (·.1))]) K
   match o.guard with
   | none=>go
   | some (g,want)=>∃ b,GG (st.get g)=some b/\if b=some want then go else BY P np n (i+1) os (st.put o.dst (.tup [])) (tr++[([],[])]) K
inductive Dy where
 | normal
 | exit (id:Nat)
 | ret
def Y8 (after:List (List Nat)):List Nat :=
 after.foldl (λ acc aS=>acc++[aS.foldl (λ s a=>s ||| (2 ^ a ||| acc.getD a 0)) 0]) []
def Gf (a b:List Nat × List Nat):Bool:=a.2.any (λ i=>b.1.contains i || b.2.contains i) || a.1.any (b.2.contains ·)
def Bl.names (o:Bl):List Nat:=(o.xs.filterMap fun | .t i=>some i | _=>none)++(o.guard.map (·.1)).toList++o.dst.toList
def FP (o o':Bl) (a b:List Nat × List Nat):Bool :=
 o.dst.all (λ d=>!o'.names.contains d) && o'.dst.all (λ d=>!o.names.contains d) && !Gf a b
def FE (ops:List Bl) (after:List (List Nat)) (tr:List (List Nat × List Nat)):Bool :=
 after.length == ops.length && (after.zipIdx.all λ (aS,j)=>aS.all (· < j)) &&
 (List.range ops.length).all λ j=>(List.range j).all λ i=>((Y8 after).getD j 0).testBit i || FP (ops.getD i default) (ops.getD j default) (tr.getD i ([],[])) (tr.getD j ([],[]))
structure Ok (np:Nat) (T0:Nat->Nat) (M0:GM) (w0:World) (aA:Nat->Prop) (st:St) (T:Nat->Nat) (M:GM) (a:Act) (w:World):Prop where
 sz:a.tmps.size=st.sz
 df:a.defers=[]
 tm:∀ i,AX T w M (st.get i) (a.tmps.getD i undef)
 hs:DR T w M st.hp
 dom:∀ id g,M id=some g->aA id
 after:FO np T0 M0 w0 T M w
abbrev GS (n:Nat):Nat->Prop:=λ id=>id<n
def Le (np:Nat) (st st':St):Prop :=
 ∀ T0 M0 w0 T M a w,Ok np T0 M0 w0 (GS st.n) st T M a w->np<=st.n -> ∃ T' M',Ok np T0 M0 w0 (GS st'.n) st' T' M' a w/\np<=st'.n
def Ad (P:Program) (np:Nat):CS->(Dy->St->Prop)->St->Prop
 | .skip,Q,st=>Q .normal st
 | .reg draw ops after,Q,st =>
   (ops.all λ o=>o.dst.all (· < st.sz))=true /\
   BY P np st.n 0 ops st [] λ st' tr=>(draw=true->FE ops after tr=true)/\Q .normal { st' with n:=st.n+8*ops.length }
 | .seq a b,Q,st=>Ad P np a (λ e st'=>match e with | .normal=>∃ st2,Le np st' st2/\Ad P np b Q st2 | e=>Q e st') st
 | .cond c a b,Q,st=>∃ t,c.ev st.get = .sc (.bool t)/\if t then Ad P np a Q st else Ad P np b Q st
 | .block id a,Q,st=>Ad P np a (λ e st'=>match e with | .exit id'=>if id'=id then Q .normal st' else Q (.exit id') st' | e=>Q e st') st
 | .loop a,Q,st=>∃ I:Nat->St->Prop,(∃ st0 k,Le np st st0/\I k st0) /\
   ∀ k s,I k s->Ad P np a (λ e st'=>match e with | .normal=>∃ st2 k2,Le np st' st2/\I k2 st2/\k2<k | e=>Q e st') s
 | .exit id,Q,st=>Q (.exit id) st
 | .ret,Q,st=>Q .ret st
 | .bad,_,_=>False
def FQ (af:BW) (args:List AV) (hs:List AD):St :=
 { sz:=af.nt,t:=args.zipIdx.map (λ (a,i)=>(i,a)),h:=hs.zipIdx.map (λ (e,k)=>(k,some e)),n:=16 }
def G2 (st:St) (r:Nat × Option (Bool × Nat)):Option AV :=
 match r with
 | (t,none)=>some (st.get t)
 | (t,some (ag,s))=>match En st.hp (st.get t) with
   | some cs=>if s<=cs.length/\(ag=true∨s=1) then some (if ag then .agg (cs.take s) else cs.headD .dead) else none
   | none=>none
def Ek (st:St):List (Nat × Option (Bool × Nat))->Option (List AV)
 | []=>some []
 | r::rs=>match G2 st r,Ek st rs with
   | some v,some vs=>some (v::vs)
   | _,_=>none
def C2:List AV->AV
 | [v]=>v
 | vs=>.tup vs
def AW (rs:List (Nat × Option (Bool × Nat))) (np:Nat) (st:St) (res:AV) (hs':List (Option AD)):Prop :=
 ∃ vs,Ek st rs=some vs /\ ∃ ex sn:List Nat,(List.range np++ex).Nodup/\(∀ i∈ex,np<=i)/\(∀ i∈sn,i∉ex/\np<=i) /\
   Wk (conv (List.range np++ex).zipIdx sn st.hp 4 (C2 vs)) res /\
   (List.range np++ex).map (λ i=>(st.hp i).map (Ab (List.range np++ex).zipIdx sn st.hp 4))=hs'
def GH (P:Program) (t:TypeId):Option (List Value) :=
 match P.info? t with
 | some i=>match i.zero with
   | some z=>if z.cells.toList.all Value.oneCell' && z.cells.size == i.size then some z.cells.toList else none
   | none=>none
 | none=>none
def CB (P:Program) (t:TypeId):Option Nat:=(P.info? t).map (·.size)
def G6 (P:Program) (t:TypeId):Option Nat:=(P.info? t).map (·.bytes)
def Dq (P:Program) (t:TypeId):Option Bool :=
 match P.underlying t with
 | some (.struct _)=>some true
 | some (.array _ _)=>some true
 | some _=>some false
 | none=>none
def AP:Operand->DB
 | .tmp t=>.t t
 | .const v=>.c v
 | .global g=>.c (.pointer (some ⟨g,0,none⟩))
 | .func f=>.f f
def I0 (P:Program):Nat->List Field->Option (List Nat)
 | _,[]=>some []
 | i,f::fs =>
   if f.name ≠ "_" /\ f.offset=i then
    match P.underlying f.type,I0 P (i+1) fs with
    | some (.int _),some ks=>some (0::ks)
    | some .bool,some ks=>some (1::ks)
    | some .string,some ks=>some (2::ks)
    | _,_=>none
   else none
def Gj (P:Program):Nat->List Field->Option (List Nat)
 | _,[]=>some []
 | i,f::fs =>
   if f.name ≠ "_" /\ f.offset=i then
    match P.underlying f.type with
    | some (.int _)=>(Gj P (i+1) fs).map (0 :: ·)
    | some .bool=>(Gj P (i+1) fs).map (1 :: ·)
    | some .string=>(Gj P (i+1) fs).map (2 :: ·)
    | some (.struct gs)=>match I0 P 0 gs.toList,CB P f.type with
      | some ks,some n=>if P.stoodInHeld f.type=false/\n=ks.length then (Gj P (i+n) fs).map (ks ++ ·) else none
      | _,_=>none
    | _=>none
   else none
def LN (P:Program) (t e:TypeId) (n:Nat):Option (List Nat):=match P.underlying e with
 | some .bool=>if P.eqGuardType P.depth t=false/\(P.info? e).isSome=true/\P.cellsOf e=1 then some (List.replicate n 1) else none
 | _=>none
def LF (P:Program) (t:TypeId) (fs:List Field):Option (List Nat):=if P.stoodInHeld t=false/\P.eqGuardType P.depth t=false then Gj P 0 fs else none
def HB (P:Program) (t:TypeId):Option Value :=
 match P.underlying t with
 | some (.map k v)=>match P.underlying k,P.info? v with
   | some (.int .i64),some i=>i.zero
   | _,_=>none
 | _=>none
def bP (P:Program) (t:TypeId):Bool:=match P.underlying t with | some (.map _ _)=>true | _=>false
def Gx (P:Program) (t:TypeId):Option Value :=
 match P.underlying t with
 | some (.map k v)=>match P.underlying k,P.info? v with
   | some .string,some i=>i.zero
   | _,_=>none
 | _=>none
def Kv:Operand->Bool
 | .const (.slice none 0 0)=>true
 | _=>false
def Hb (P:Program) (fn:Func):Option Nat :=
 if fn.body.isNone && (fn.name != "runtime.NumGoroutine") && (fn.origin == "slices.overlaps") && (Extern.allNextRows.lookup fn.name).isNone && (Extern.allGenericRows.lookup fn.name).isNone && (Extern.allTypedRows.lookup fn.name).isNone && (Extern.allRows.lookup fn.name).isNone then
  match fn.params.toList with
  | [t,_]=>match P.underlying t with
    | some (.slice e)=>CB P e
    | _=>none
  | _=>none
 else none
def FA (P:Program):Operand->Option Nat
 | .func g=>match P.funcs[g]? with
   | some fn=>Hb P fn
   | none=>none
 | _=>none
def Jo (P:Program) (name:String) (t:TypeId):Option (TypeId × FuncId) :=
 match P.info? t,P.underlying t with
 | some i,some (.struct _)=>match i.methods.find? (·.name == name) with
   | some m=>match m.path.isEmpty,m.func with
     | true,some (f,false)=>some (t,f)
     | _,_=>none
   | none=>none
 | _,_=>none
def LO (P:Program) (name:String):List (TypeId × FuncId):=(List.range P.types.size).filterMap (Jo P name)
def Aw (P:Program) (o:Oper):ER × List DB :=
 match o.op with
 | .move x=>(.mv,[AP x])
 | .assign x=>(.mv,[AP x])
 | .pick c a b=>(.pick,[AP c,AP a,AP b])
 | .alloc e=>match GH P e with | some (y::z)=>(.alloc (y::z),[]) | _=>(.bad,[])
 | .box e x=>match CB P e with | some (s+1)=>(.box (s+1),[AP x]) | _=>(.bad,[])
 | .build t ps =>
   match GH P t,P.underlying t with
   | some z,some (.struct fs) =>
     match fs.toList.mapM (λ f=>(P.info? f.type).map λ i=>(f.offset,i.size)) with
     | some places=>match ps.toList.mapM (λ p=>places[p.1]?) with
       | some pl=>(.build z pl,ps.toList.map (AP ·.2))
       | none=>(.bad,[])
     | none=>(.bad,[])
   | some z,some (.array _ e) =>
     match P.info? e with
     | some ie=>(.build z (ps.toList.map λ p=>(p.1*ie.size,ie.size)),ps.toList.map (AP ·.2))
     | none=>(.bad,[])
   | _,_=>(.bad,[])
 | .buildSlice t len ps =>
   match P.underlying t with
   | some (.slice e) =>
     match GH P e,CB P e with
     | some z,some s=>if len*s<=2 ^ 24/\0<s then (.bsl s len z (ps.toList.map (·.1)),ps.toList.map (AP ·.2)) else (.bad,[])
     | _,_=>(.bad,[])
   | _=>(.bad,[])
 | .load t x=>match Dq P t,CB P t with | some ag,some s=>if ag=true∨s=1 then (.ld ag s,[AP x]) else (.bad,[]) | _,_=>(.bad,[])
 | .store t a x=>match CB P t with | some s=>(.st s,[AP a,AP x]) | none=>(.bad,[])
 | .nilCheck x=>(.nil,[AP x])
 | .binOp op t x y _ =>
   match op,P.underlying t with
   | .eql,some .bool=>(.beq false,[AP x,AP y])
   | .neq,some .bool=>(.beq true,[AP x,AP y])
   | .eql,some (.struct fs)=>match LF P t fs.toList with | some ks=>(.aeq false ks,[AP x,AP y]) | none=>(.bad,[])
   | .neq,some (.struct fs)=>match LF P t fs.toList with | some ks=>(.aeq true ks,[AP x,AP y]) | none=>(.bad,[])
   | .eql,some (.array n e)=>match LN P t e n with | some ks=>(.aeq false ks,[AP x,AP y]) | none=>(.bad,[])
   | .neq,some (.array n e)=>match LN P t e n with | some ks=>(.aeq true ks,[AP x,AP y]) | none=>(.bad,[])
   | .eql,some (.slice _)=>if Kv y=true then (.snil false,[AP x]) else (.bad,[])
   | .neq,some (.slice _)=>if Kv y=true then (.snil true,[AP x]) else (.bad,[])
   | _,_=>(.bin op,[AP x,AP y])
 | .unOp op _ x=>(.un op,[AP x])
 | .convert src dst x =>
   match P.underlying src,P.underlying dst with
   | some (.int _),some (.int k)=>(.cvt k,[AP x])
   | some (.slice e),some .string=>match P.underlying e with | some (.int .u8)=>(.b2s,[AP x]) | _=>(.bad,[])
   | some .string,some (.slice e)=>match P.underlying e with | some (.int .u8)=>(.x2 .s2b,[AP x]) | _=>(.bad,[])
   | _,_=>(.bad,[])
 | .makeFunc (.func f) first capt=>if first.isEmpty then (.mkf f,capt.toList.map AP) else if capt.isEmpty then (.mkb f,first.toList.map AP) else (.bad,[])
 | .makeSlice t l c =>
   match P.underlying t with
   | some (.slice e) =>
     match GH P e,CB P e,G6 P e with
     | some z,some s,some b=>if 0<s then (.mks s b z,[AP l,AP c]) else (.bad,[])
     | _,_,_=>(.bad,[])
   | _=>(.bad,[])
 | .slice t x lo hi mx =>
   match P.underlying t with
   | some (.slice e)=>match CB P e with
     | some s=>(.slc s lo.isSome hi.isSome mx.isSome,[AP x]++(lo.map AP).toList++(hi.map AP).toList++(mx.map AP).toList)
     | none=>(.bad,[])
   | _=>(.bad,[])
 | .fieldAddr t x f =>
   match P.underlying t with
   | some (.struct fs)=>match fs[f]? with
     | some fd=>match CB P fd.type with | some (_+1)=>(.fad fd.offset,[AP x]) | _=>(.bad,[])
     | none=>(.bad,[])
   | _=>(.bad,[])
 | .field t x f =>
   match P.underlying t with
   | some (.struct fs)=>match fs[f]? with
     | some fd=>match Dq P fd.type,CB P fd.type with
       | some ag,some s=>if ag=true∨s=1 then (.fld ag fd.offset s,[AP x]) else (.bad,[])
       | _,_=>(.bad,[])
     | none=>(.bad,[])
   | _=>(.bad,[])
 | .indexAddr t x i =>
   match P.underlying t with
   | some (.slice e)=>match CB P e with | some s=>(.iad s,[AP x,AP i]) | none=>(.bad,[])
   | some (.array n e)=>match CB P e with | some s=>(.iaa n s,[AP x,AP i]) | none=>(.bad,[])
   | _=>(.bad,[])
 | .index t x i=>match P.underlying t with | some .string=>(.ixs,[AP x,AP i]) | some (.array n e)=>(match Dq P e,CB P e with | some false,some 1=>(.ixv n,[AP x,AP i]) | _,_=>(.bad,[])) | _=>(.bad,[])
 | .extract t i=>(.ext i,[AP t])
 | .range t x=>match P.underlying t with | some .string=>(.x2 .rng,[AP x]) | _=>(.bad,[])
 | .next x true=>(.x2 .nxt,[AP x])
 | .makeInterface t x=>match P.underlying t with
   | some (.struct _)=>(.mki t,[AP x])
   | _=>(.bad,[])
 | .makeMap t none=>if bP P t=true then (.mkm,[]) else (.bad,[])
 | .insert t m k v=>match HB P t with | some _=>(.mup,[AP m,AP k,AP v]) | none=>match Gx P t with | some _=>(.x2 .mue,[AP m,AP k,AP v]) | none=>(.bad,[])
 | .mapUpdate t m k v=>match HB P t with | some _=>(.mup,[AP m,AP k,AP v]) | none=>match Gx P t with | some _=>(.x2 .mue,[AP m,AP k,AP v]) | none=>(.bad,[])
 | .lookup t m k ok=>match HB P t with | some z=>(.mlk z ok,[AP m,AP k]) | none=>match Gx P t with | some z=>(.x2 (.mle z ok),[AP m,AP k]) | none=>(.bad,[])
 | .call c =>
   match c.callee with
   | .invoke r n=>(.inv (LO P n),AP r::c.args.toList.map AP)
   | .value f=>match FA P f with
     | none=>(.call,AP f::c.args.toList.map AP)
     | some s=>(.ovl s,c.args.toList.map AP)
   | .builtin .append =>
     match c.argTypes.toList,c.args.toList with
     | [t,u],[x,y] =>
       match P.underlying t,P.underlying u with
       | some (.slice e),some (.slice _)=>match CB P e,G6 P e with | some s,some b=>if (GH P e).isSome/\0<s then (.app s b,[AP x,AP y]) else (.bad,[]) | _,_=>(.bad,[])
       | some (.slice e),some .string=>match CB P e,G6 P e with | some 1,some 1=>if (GH P e).isSome then (.apps,[AP x,AP y]) else (.bad,[]) | _,_=>(.bad,[])
       | some (.slice e),some (.int _)=>match GH P e,CB P e,G6 P e with | some z,some s,some b=>if 0<s then (.apz s b z,[AP x,AP y]) else (.bad,[]) | _,_,_=>(.bad,[])
       | _,_=>(.bad,[])
     | _,_=>(.bad,[])
   | .builtin .len =>
     match c.argTypes.toList,c.args.toList with
     | [t],[x]=>match P.underlying t with
       | some (.slice _)=>(.len,[AP x])
       | some .string=>(.lens,[AP x])
       | _=>(.bad,[])
     | _,_=>(.bad,[])
   | .builtin .cap =>
     match c.argTypes.toList,c.args.toList with
     | [t],[x]=>match P.underlying t with
       | some (.slice _)=>(.cap,[AP x])
       | _=>(.bad,[])
     | _,_=>(.bad,[])
   | .builtin .copy =>
     match c.argTypes.toList,c.args.toList with
     | t::_,[x,y]=>match P.underlying t with
       | some (.slice e)=>match CB P e with | some s=>(.cpy s,[AP x,AP y]) | none=>(.bad,[])
       | _=>(.bad,[])
     | _,_=>(.bad,[])
   | .builtin .clear =>
     match c.argTypes.toList,c.args.toList with
     | [t],[x]=>match P.underlying t with
       | some (.slice e)=>match GH P e,CB P e with | some z,some s=>(.clr s z,[AP x]) | _,_=>(.bad,[])
       | _=>(.bad,[])
     | _,_=>(.bad,[])
   | .builtin .delete =>
     match c.argTypes.toList,c.args.toList with
     | t::_,[x,y]=>match HB P t with | some _=>(.mdl,[AP x,AP y]) | none=>(.bad,[])
     | _,_=>(.bad,[])
   | .builtin .max=>match c.args.toList with | [x,y]=>(.mx2,[AP x,AP y]) | _=>(.bad,[])
   | .builtin .min=>match c.args.toList with | [x,y]=>(.mn2,[AP x,AP y]) | _=>(.bad,[])
   | _=>(.bad,[])
 | _=>(.bad,[])
def BZ (P:Program) (ops:Array Oper) (o:Oper):Bl :=
 let (op,xs):=Aw P o
 match o.guard with
 | none=>{ dst:=o.dst,op:=op,xs:=xs }
 | some (j,want)=>match (ops[j]?).bind (·.dst) with
   | some d=>{ dst:=o.dst,op:=op,xs:=xs,guard:=some (d,want) }
   | none=>{ dst:=o.dst,op:=.bad,xs:=[] }
def comp (P:Program):Code->CS
 | .skip=>.skip
 | .region _ ops draw=>.reg draw (ops.toList.map (BZ P ops)) (if draw then ops.toList.map λ o=>(o.after.toList.filter (Region.binds .any)).map (·.on) else [])
 | .seq a b=>.seq (comp P a) (comp P b)
 | .cond c a b=>.cond (AP c) (comp P a) (comp P b)
 | .block id a=>.block id (comp P a)
 | .loop a=>.loop (comp P a)
 | .exit id=>.exit id
 | .ret=>.ret
 | .scope a=>comp P a
 | .label _=>.skip
 | _=>.bad
def Gw (P:Program) (r:ResultVar):Nat × Option (Bool × Nat) :=
 match r with
 | .tmp t=>(t,none)
 | .cell a t=>match Dq P t,CB P t with | some ag,some s=>(a,some (ag,s)) | _,_=>(a,some (false,0))
def Ii (P:Program) (fn:Func):Option BW :=
 match fn.body with
 | some c=>some { nt:=fn.ntmps,res:=fn.results.toList.map (Gw P),code:=comp P c }
 | none=>none
variable {M:GM} {T:Nat->Nat} {v:Value} {w:World} {x:AV} {α:Type}
theorem Ag.refl (T:Nat->Nat) (w:World):Ag T w T w:=⟨λ _=>Qk _,λ _ cells _ fz h=>⟨cells,fz,h,rfl,λ _ _=>rfl⟩⟩
theorem Ag.trans {T w T1 w1 T2 w2} (a:Ag T w T1 w1) (b:Ag T1 w1 T2 w2):Ag T w T2 w2:=by
 refine⟨λ x=>QF (a.le x) (b.le x),λ x cells ty fz h=>?_⟩;obtain⟨c1,f1,h1,s1,e1⟩:=a.cell x cells ty fz h;obtain⟨c2,f2,h2,s2,e2⟩:=b.cell x c1 ty f1 h1;exact⟨c2,f2,h2,s2.trans s1,λ o ho=>(e2 o (Ux ho (a.le x))).trans (e1 o ho)⟩
theorem EO {n s i j:Nat} (hi:i<n) (hj:j<s):i*s+j<n*s:=by
 have h:(i+1)*s<=n*s:=Qy _ hi;rw[QJ] at h;omega
theorem AX.mono (h:AX T w M x v) :
  ∀ {T':Nat->Nat} {w':World} {M':GM},Ag T w T' w'->(∀ id g,M id=some g->M' id=some g)->AX T' w' M' x v:=by
 induction h with
 | dead M v=>intro T' w' M' _ _;exact .dead _ _
 | sc M v h=>intro T' w' M' _ _;exact .sc _ _ h
 | agg M cs vs hl h1 h ih=>intro T' w' M' p m;exact .agg _ _ _ hl h1 λ i hi=>ih i hi p m
 | tup M cs vs hl h ih=>intro T' w' M' p m;exact .tup _ _ _ hl λ i hi=>ih i hi p m
 | vs M s full rows a cap c hf u hw hb h1 h ih =>
   intro T' w' M' p m;refine .vs _ s full rows a cap c hf u hw (λ h0=>?_) h1 λ i j hi hj=>ih i j hi hj p λ _ _ e=>e;obtain⟨b,off,cells,ty,fz,ha,hw,hT,hc⟩:=hb h0;obtain⟨c',f',h1,h2,h3⟩:=p.cell b cells ty fz hw;refine⟨b,off,c',ty,f',ha,h1,QF hT (p.le b),λ i j hi hj=>?_⟩;rw[h3 _ (by have:=EO hi hj;omega)]
   exact hc i j hi hj
 | pv M cs b off cells ty fz c hb ht hc h1 h ih =>
   intro T' w' M' p m;obtain⟨c',f',e1,e2,e3⟩:=p.cell b cells ty fz hb;exact .pv _ cs b off c' ty f' c e1 (QF ht (p.le b)) (λ j hj=>by rw[e3 _ zy];exact hc j hj) h1 λ j hj=>ih j hj p λ _ _ e=>e
 | rs M id off len cap a g hg hz hl hn hb =>
   intro T' w' M' p m;refine .rs _ id off len cap a g (m _ _ hg) hz hl hn λ b q=>?_;obtain⟨ha,cells,ty,fz,hw,hs⟩:=hb b q;obtain⟨c',f',e1,e2,e3⟩:=p.cell b cells ty fz hw;exact⟨ha,c',ty,f',e1,zy⟩
 | rk M id off len cap a g hg hz hl hn hb =>
   intro T' w' M' p m;refine .rk _ id off len cap a g (m _ _ hg) hz hl hn λ b q=>?_;obtain⟨ha,cells,ty,fz,hw,hs⟩:=hb b q;obtain⟨c',f',e1,e2,e3⟩:=p.cell b cells ty fz hw;exact⟨ha,c',ty,f',e1,zy⟩
 | pt M id i j g b hg hz hb=>intro T' w' M' _ m;exact .pt _ id i j g b (m _ _ hg) hz hb
 | mp M id g b hg hz hb hi=>intro T' w' M' _ m;exact .mp _ id g b (m _ _ hg) hz hb hi
 | it M id g b hg hz hb hi=>intro T' w' M' _ m;exact .it _ id g b (m _ _ hg) hz hb hi
 | fn M f xs ys us vs hx hy h h' ih ih'=>intro T' w' M' p m;exact .fn _ f xs ys us vs hx hy (λ i hi=>ih i hi p m) λ i hi=>ih' i hi p m
 | ifc M t x v h ih=>intro T' w' M' p m;exact .ifc _ t x v (ih p m)
theorem AX.plain (h:AX T w M x v) (hp:Plain x):∀ (T':Nat->Nat),AX T' w M x v:=by
 induction hp generalizing v with
 | dead=>intro T';exact .dead _ _
 | sc u=>intro T';cases h with | sc _ _ h=>exact .sc _ _ h
 | agg xs _ ih=>intro T';cases h with | agg _ _ vs hl h1 h=>exact .agg _ _ _ hl h1 λ i hi=>ih i (h i hi) T'
 | tup xs _ ih=>intro T';cases h with | tup _ _ vs hl h=>exact .tup _ _ _ hl λ i hi=>ih i (h i hi) T'
 | rs id off len=>intro T';cases h with | rs _ _ _ _ cap a g hg hz hl hn hb=>exact .rs _ _ _ _ _ _ g hg hz hl hn hb
 | pt id i j=>intro T';cases h with | pt _ _ _ _ g b hg hz hb=>exact .pt _ _ _ _ g b hg hz hb
 | mp id=>intro T';cases h with | mp _ _ g b hg hz hb hi=>exact .mp _ _ g b hg hz hb hi
 | it id=>intro T';cases h with | it _ _ g b hg hz hb hi=>exact .it _ _ g b hg hz hb hi
theorem AX.rk_rs {id off len cap:Nat} (h:AX T w M (.rk id off len cap) v):AX T w M (.rs id off len) v:=by
 cases h with | rk _ _ _ _ _ a g hg hz hl hn hb=>exact .rs _ _ _ _ _ _ g hg hz hl hn hb
theorem SS (i j:Nat) (a:α) (l:List (Nat × α)):AQ ((i,a)::l) j=if i=j then some a else AQ l j:=rfl
theorem JD (l l':List (Nat × α)) (j:Nat):AQ (l++l') j=(AQ l j).or (AQ l' j):=by
 induction l with
 | nil=>rfl
 | cons p l ih =>
   obtain⟨i,a⟩:=p;simp only[Q6,SS];split<;>simp[ih]
theorem St.get_put (st:St) (d i:Nat) (v:AV):(st.put (some d) v).get i=if d=i then v else st.get i:=by
 unfold St.put St.get;simp only[SS];split<;>rfl
theorem Nh {st:St} {a:Act} {d:Option Nat} {v:AV} {v':Value} (sz:a.tmps.size=st.sz) (tm:∀ i,AX T w M (st.get i) (a.tmps.getD i undef)) (hd:d.all (· < st.sz)=true) (r:AX T w M v v') :
  ∀ i,AX T w M ((st.put d v).get i) ((a.put d v').tmps.getD i undef):=by
 intro i
 cases d with
 | none=>exact tm i
 | some d =>
   have q:d<a.tmps.size:=by rw[sz];simpa using hd
   rw[St.get_put];simp only[Act.put]
   by_cases e:d=i
   .subst e
    have:(a.tmps.setIfInBounds d v').getD d undef=v':=by simp[Array.getD,q]
    rw[this,if_pos rfl];exact r
   .have:(a.tmps.setIfInBounds d v').getD i undef=a.tmps.getD i undef:=by
     simp only[Qx];rw[Array.getElem?_setIfInBounds_ne e]
    rw[this,if_neg e];exact tm i
theorem OL (l:List α) (f:α->AV) (i:Nat) (h:i<l.length):(l.map f).getD i .dead=f l[i]:=by simp[List.getD,h]
theorem uX (cs:Array Value) (h:cs.all Value.oneCell'=true):AX T w M (.agg (cs.toList.map .sc)) (.agg cs):=by
 have h1:∀ i,i<cs.size->(cs.getD i undef).oneCell'=true:=λ i hi=>by
  rw[Array.all_eq_true] at h;have:=h i hi
  simpa [Array.getD,hi] using this
 refine .agg _ _ _ zz (λ i hi=>h1 i (by simpa using hi)) λ i hi=>?_
 have hi':i<cs.size:=by simpa using hi
 rw[OL _ _ _ (by simpa using hi')]
 have e:cs.getD i undef=cs.toList[i]'(by simpa using hi'):=by simp[Array.getD,hi']
 have:=h1 i hi';rw[e] at this ⊢;exact .sc _ _ this
theorem JF (v:Value):AX T w M (Bb v) v:=by
 unfold Bb;split
 .rename_i cs
  split
  .rename_i hc;exact uX cs hc
  .exact .dead _ _
 .exact .dead _ _
 .rename_i h1 h2
  exact .sc _ _ (by cases v<;>first | rfl | (exact absurd rfl (h1 _)) | (exact absurd rfl (h2 _)))
theorem BG {st:St} {a:Act} (tm:∀ i,AX T w M (st.get i) (a.tmps.getD i undef)) (x:Operand) :
  AX T w M ((AP x).ev st.get) (a.eval x):=by
 cases x with
 | tmp t=>exact tm t
 | const v=>exact JF v
 | global g=>exact .sc _ _ rfl
 | func f=>exact .fn _ _ _ _ _ _ rfl rfl (λ i hi=>absurd hi (Ut i)) (λ i hi=>absurd hi (Ut i))
theorem LA {cs:List AV} (h:AX T w M x v) (hc:cellsOf x=some cs) :
  v.cells.size=cs.length /\ ∀ j,j<cs.length->(v.cells.getD j undef).oneCell'=true/\AX T w M (cs.getD j .dead) (v.cells.getD j undef):=by
 have one:∀ {x:AV} {v:Value},AX T w M x v->v.oneCell'=true->v.cells.size=[x].length /\ ∀ j,j<[x].length->(v.cells.getD j undef).oneCell'=true/\AX T w M ([x].getD j .dead) (v.cells.getD j undef):=by
  intro x v h h1;have e:v.cells = #[v]:=by cases v<;>first | rfl | (simp[Value.oneCell'] at h1)
  refine⟨by rw[e];rfl,λ j hj=>?_⟩
  obtain rfl:j=0:=by simpa using hj
  rw[e];exact⟨h1,h⟩
 cases h with
 | dead=>simp[cellsOf] at hc
 | sc _ _ h1 =>
   have:cs=[.sc v]:=by cases v<;>simp[cellsOf] at hc<;>first | exact hc.symm | (simp[Value.oneCell'] at h1)
   subst this;exact one (.sc _ _ h1) h1
 | agg _ ys us hl h1 h =>
   simp only[cellsOf,Qq] at hc;subst hc;exact⟨hl,λ j hj=>⟨h1 j hj,h j hj⟩⟩
 | tup _ ys us hl h=>simp[cellsOf] at hc
 | vs _ s full rows a cap c hf q hw hb h1 h =>
   simp only[cellsOf,Qq] at hc;subst hc;exact one (.vs _ s full rows a cap c hf q hw hb h1 h) rfl
 | pv _ ys b off cells ty fz c hb ht u h1 h =>
   simp only[cellsOf,Qq] at hc;subst hc;exact one (.pv _ ys b off cells ty fz c hb ht u h1 h) rfl
 | rs _ id off len cap a g hg hz hl hn hb =>
   simp only[cellsOf,Qq] at hc;subst hc;exact one (.rs _ id off len cap a g hg hz hl hn hb) rfl
 | rk _ id off len cap a g hg hz hl hn hb =>
   simp only[cellsOf,Qq] at hc;subst hc;exact one (.rk _ id off len cap a g hg hz hl hn hb) rfl
 | pt _ id i j g b hg hz hb =>
   simp only[cellsOf,Qq] at hc;subst hc;exact one (.pt _ id i j g b hg hz hb) rfl
 | mp _ id g b hg hz hb hi =>
   simp only[cellsOf,Qq] at hc;subst hc;exact one (.mp _ id g b hg hz hb hi) rfl
 | it _ id g b hg hz hb hi =>
   simp only[cellsOf,Qq] at hc;subst hc;exact one (.it _ id g b hg hz hb hi) rfl
 | fn _ f xs ys us vs hx hy h h' =>
   simp only[cellsOf,Qq] at hc;subst hc;exact one (.fn _ f xs ys us vs hx hy h h') rfl
 | ifc _ t x v h =>
   simp only[cellsOf,Qq] at hc;subst hc;exact one (.ifc _ t x v h) rfl
variable {o:Obj} {w1:World}
theorem St.hp_upd (st:St) (up:List (Nat × Option AD)) (i:Nat):(st.upd up).hp i=(AQ up i).elim (st.hp i) id:=by
 unfold St.upd St.hp;simp only[JD]
 cases AQ up i<;>rfl
theorem St.hp_put (st:St) (d:Option Nat) (v:AV) (i:Nat):(st.put d v).hp i=st.hp i:=by
 cases d<;>rfl
theorem St.get_upd (st:St) (up:List (Nat × Option AD)) (i:Nat):(st.upd up).get i=st.get i:=rfl
theorem FO.step {np:Nat} {T0:Nat->Nat} {M0:GM} {w0:World} {T:Nat->Nat} {M:GM} {w:World} {T':Nat->Nat} {M':GM} {w':World} (h:FO np T0 M0 w0 T M w) (tok:EW T' w') (old:∀ b,b<w0.heap.size->¬ Fl np M0 b->T' b=T b) (same:∀ k,k<np->M' k=M k) (os:w'.os=w.os) (tape:w'.tape=w.tape) (output:w'.output=w.output) (size:w.heap.size<=w'.heap.size) (keep:∀ b,b<w0.heap.size->¬ Fl np M0 b->w'.heap[b]? = w.heap[b]?) (pres:Ag T w T' w') (new:∀ k g b,np<=k->M' k=some g->g.blk=some b->Fl np M0 b∨w0.heap.size<=b):FO np T0 M0 w0 T' M' w' :=
 ⟨tok,λ b hb hn=>(old b hb hn).trans (h.old b hb hn),λ k hk=>(same k hk).trans (h.same k hk),os.trans h.os,tape.trans h.tape,output.trans h.output,QF h.size size,
  λ b hb hn=>(keep b hb hn).trans (h.keep b hb hn),h.pres.trans pres,new⟩
theorem FO.blk {np:Nat} {T0:Nat->Nat} {M0:GM} {w0:World} {T:Nat->Nat} {M:GM} {w:World} (h:FO np T0 M0 w0 T M w) {k:Nat} {g:GE} {b:Nat} (hg:M k=some g) (hb:g.blk=some b):Fl np M0 b∨w0.heap.size<=b:=by
 rcases Ui k np with hk | hk
 .exact .inl ⟨k,g,hk,by rw[<- h.same k hk];exact hg,hb⟩
 .exact h.new k g b hk hg hb
theorem Cm.mono {T w M T' w' M'} (p:Ag T w T' w') (m:∀ id g,M id=some g->M' id=some g):∀ {rows:List (List AV)} {es:List MapEntry},Cm T w M rows es->Cm T' w' M' rows es
 | [],[],_=>trivial
 | _::_,_::_,h=>⟨by obtain⟨n,x,h1,h2,h3⟩:=h.1;exact⟨n,x,h1,h2,h3.mono p m⟩,Cm.mono p m h.2⟩
 | [],_::_,h=>False.elim h
 | _::_,[],h=>False.elim h
theorem Cm.map {T w M T' w' M'} {f:AV->AV} (hi:∀ n,f (.sc (.int .i64 n)) = .sc (.int .i64 n)):∀ {rows:List (List AV)} {es:List MapEntry},Cm T w M rows es->(∀ row∈rows,∀ x∈row,∀ v,AX T w M x v->AX T' w' M' (f x) v)->Cm T' w' M' (rows.map (·.map f)) es
 | [],[],_,_=>trivial
 | row::rows,e::es,h,hf=>⟨by
   obtain⟨n,x,h1,h2,h3⟩:=h.1
   exact⟨n,f x,by rw[h1];simp[hi n],h2,hf row Qi x (by rw[h1];simp) _ h3⟩,Cm.map hi h.2 λ r hr=>hf r (Qg _ hr)⟩
 | [],_::_,h,_=>False.elim h
 | _::_,[],h,_=>False.elim h
theorem Gq.mono {T w M T' w' M'} (p:Ag T w T' w') (m:∀ id g,M id=some g->M' id=some g) {it:Bool} {rows:List (List AV)} (h:Gq T w M it rows o):Gq T' w' M' it rows o:=by
 cases o with
 | map es c=>exact⟨h.1,h.2.mono p m⟩
 | stringIter s q=>exact h
 | _=>exact False.elim h
theorem Gq.map {T w M T' w' M'} {f:AV->AV} (hi:∀ v,f (.sc v) = .sc v) {it:Bool} {rows:List (List AV)} (h:Gq T w M it rows o) (hf:∀ row∈rows,∀ x∈row,∀ v,AX T w M x v->AX T' w' M' (f x) v):Gq T' w' M' it (rows.map (·.map f)) o:=by
 cases o with
 | map es c=>exact⟨h.1,h.2.map (λ n=>hi _) hf⟩
 | stringIter s q=>obtain⟨h1,rfl⟩:=h;exact⟨h1,by simp[hi]⟩
 | _=>exact False.elim h
theorem HR.mono {T w M e g T' w' M'} (h:HR T w M e g) (p:Ag T w T' w') (m:∀ id g,M id=some g->M' id=some g) (hb:∀ b,g.blk=some b->w'.heap[b]? = w.heap[b]? /\ T' b=T b):HR T' w' M' e g:=by
 refine⟨h.s,h.ro,h.wide,h.none,λ hz=>?_,λ hz b q=>?_⟩
 .obtain ⟨b,o,q,h1,h2,h5,h4⟩:=h.mp hz
  obtain⟨e1,e2⟩:=hb b q;exact⟨b,o,q,by rw[e1];exact h1,by rw[e2];exact h2,h5,h4.mono p m⟩
 obtain⟨cells,ty,h1,h2,h3,h4⟩:=h.blk hz b q;obtain⟨e1,e2⟩:=hb b q;refine⟨cells,ty,by rw[e1];exact h1,by rw[e2];exact h2,h3,λ i j hi hj=>?_⟩
 obtain⟨v,hv,ho,hr⟩:=h4 i j hi hj;exact⟨v,hv,ho,hr.mono p m⟩
section
variable {np:Nat} {T0:Nat->Nat} {M0:GM} {w0:World} {aA:Nat->Prop} {hp:Nat->Option AD} {T:Nat->Nat} {M:GM} {w:World}
structure BF (np:Nat) (T0:Nat->Nat) (M0:GM) (w0:World) (aA:Nat->Prop) (hp:Nat->Option AD) (T:Nat->Nat) (M:GM) (w:World):Prop where
 hs:DR T w M hp
 dom:∀ id g,M id=some g->aA id
 after:FO np T0 M0 w0 T M w
theorem BF.block_lt (h:BF np T0 M0 w0 aA hp T M w) {id e g b} (he:hp id=some e) (hg:M id=some g) (hb:g.blk=some b):b<w.heap.size:=by
 obtain⟨g',h1,h2⟩:=h.hs.ent id e he;obtain rfl:=Qc (hg.symm.trans h1)
 by_cases hz:e.s=0
 .obtain ⟨b',o,q,h3,_⟩:=h2.mp hz
  obtain rfl:=Qc (hb.symm.trans q);exact(QE.1 h3).1
 obtain⟨cells,ty,⟨_,h3,_⟩,_⟩:=h2.blk hz b hb;exact(QE.1 h3).1
theorem BF.T_zero (h:BF np T0 M0 w0 aA hp T M w) {b:Nat} (hb:w.heap.size<=b):T b=0:=by
 rcases UE (T b) with e | e
 .exact e
 .obtain ⟨cells,ty,fz,h1,_⟩:=h.after.tok b e
  have:=(QE.1 h1).1;omega
theorem BF.wider (h:BF np T0 M0 w0 aA hp T M w) {q:Nat->Prop} (hl:∀ i,aA i->q i):BF np T0 M0 w0 q hp T M w :=
 ⟨h.hs,λ id g hg=>hl _ (h.dom id g hg),h.after⟩
theorem Ag.alloc (hT:EW T w) (hh:w1.heap=w.heap.push o):Ag T w T w1:=by
 refine⟨λ _=>Qk _,λ b cells ty fz hb=>⟨cells,fz,?_,rfl,λ _ _=>rfl⟩⟩;have:b<w.heap.size:=(QE.1 hb).1;rw[hh,UU,if_neg zy]
 exact hb
theorem BF.draw (h:BF np T0 M0 w0 aA hp T M w) (hh:w1.heap=w.heap) (os:w1.os=w.os) (tape:w1.tape=w.tape) (output:w1.output=w.output) :
  BF np T0 M0 w0 aA hp T M w1/\Ag T w T w1:=by
 have p:Ag T w T w1:=⟨λ _=>Qk _,λ b cells ty fz hb=>⟨cells,fz,by rw[hh];exact hb,rfl,λ _ _=>rfl⟩⟩
 refine⟨⟨⟨λ id e he=>?_,h.hs.inj⟩,h.dom,?_⟩,p⟩
 .obtain ⟨g,h1,h2⟩:=h.hs.ent id e he
  exact⟨g,h1,h2.mono p (λ _ _ e=>e) λ b _=>⟨by rw[hh],rfl⟩⟩
 .exact h.after.step (λ b hb=>by rw[hh];exact h.after.tok b hb) (λ _ _ _=>rfl) (λ _ _=>rfl) os tape output (by rw[hh];exact Qk _) (λ b _ _=>by rw[hh]) p h.after.new
theorem BF.new (h:BF np T0 M0 w0 aA hp T M w) {id:Nat} (hid:¬ aA id) (ha:np<=id) {cells:Array Value} {ty:TypeId} {fz:Nat × Nat} (hh:w1.heap=w.heap.push (.cells cells ty fz)) (os:w1.os=w.os) (tape:w1.tape=w.tape) (output:w1.output=w.output) (e:AD) (h8:e.s≠0) (ro:e.ro<=e.rows.length) (wide:∀ row∈e.rows,row.length=e.s) (u:e.rows.length*e.s<=cells.size) (hc:∀ i j,i<e.rows.length->j<e.s -> ∃ v,cells[i*e.s+j]? = some v/\v.oneCell'=true/\AX T w M ((e.rows.getD i []).getD j .dead) v) {hp':Nat->Option AD} (h9:hp' id=some e) (q:∀ i e',i≠id->hp' i=some e'->hp i=some e') (hfz:GD e.s cells.size fz:=by exact .inl rfl) :
  ∃ M':GM,M' id=some ⟨some w.heap.size,0,e.s,false⟩/\(∀ i g,M i=some g->M' i=some g)/\BF np T0 M0 w0 (λ i=>aA i∨i=id) hp' T M' w1/\Ag T w T w1:=by
 have p:Ag T w T w1:=Ag.alloc h.after.tok hh
 have h0:M id=none:=by
  cases hm:M id with
  | none=>rfl
  | some g=>exact absurd (h.dom id g hm) hid
 have mm:∀ i g,M i=some g->(λ i=>if i=id then some (GE.mk (some w.heap.size) 0 e.s false) else M i) i=some g:=by
  intro i g hg;have:i≠id:=by rintro rfl;rw[h0] at hg;cases hg
  simp only[this,Uv];exact hg
 refine⟨λ i=>if i=id then some ⟨some w.heap.size,0,e.s,false⟩ else M i,zz,mm,⟨⟨λ i e' he=>?_,λ i i' e1 e2 g g' b h1 h2 h3 h4 h5 h6=>?_⟩,λ i g hg=>?_,?_⟩,p⟩
 .by_cases hi:i=id
  .subst hi
   obtain rfl:e=e':=Qc (h9.symm.trans he);refine⟨⟨some w.heap.size,0,e.s,false⟩,if_pos rfl,rfl,ro,λ _=>wide,(λ e=>by simp at e),(λ h=>absurd h h8),λ _ b hb=>?_⟩
   obtain rfl:w.heap.size=b:=Qc hb;refine⟨cells,ty,⟨fz,by rw[hh];simp,hfz⟩,by rw[h.T_zero (Qk _)];exact Qn _,by simpa using u,λ i j hi hj=>?_⟩
   obtain⟨v,hv,ho,hr⟩:=hc i j hi hj;exact⟨v,by simpa using hv,ho,hr.mono p mm⟩
  .have h7:=q i e' hi he
   obtain⟨g,h1,h2⟩:=h.hs.ent i e' h7;refine⟨g,by simp only[hi,Uv];exact h1,h2.mono p mm λ b hb=>⟨?_,rfl⟩⟩
   have:=h.block_lt h7 h1 hb;rw[hh,UU,if_neg zy]
 .by_cases hi:i=id<;>by_cases hi':i'=id
  .rw [hi,hi']
  .rw [if_pos hi] at h3;rw[if_neg hi'] at h4
   obtain rfl:=Qc h3;have:=h.block_lt (q i' e2 hi' h2) h4 h6;simp at h5;omega
  .rw [if_neg hi] at h3;rw[if_pos hi'] at h4
   obtain rfl:=Qc h4;have:=h.block_lt (q i e1 hi h1) h3 h5;simp at h6;omega
  .rw [if_neg hi] at h3;rw[if_neg hi'] at h4
   exact h.hs.inj i i' e1 e2 g g' b (q i e1 hi h1) (q i' e2 hi' h2) h3 h4 h5 h6
 .by_cases hi:i=id
  .exact .inr hi
  .rw [if_neg hi] at hg;exact .inl (h.dom i g hg)
 .refine h.after.step (λ b hb=>?_) (λ _ _ _=>rfl) (λ k hk=>?_) os tape output (by rw[hh];simp) (λ b hb _=>?_) p λ k g b hk hg hb=>?_
  .obtain ⟨c,ty',fz,h1,h2⟩:=h.after.tok b hb
   have:b<w.heap.size:=(QE.1 h1).1;exact⟨c,ty',fz,by rw[hh,UU,if_neg zy];exact h1,h2⟩
  .have:k≠id:=zy
   simp only[this,Uv]
  .have:=h.after.size
   rw[hh,UU,if_neg zy]
  .by_cases hi:k=id
   .rw [if_pos hi] at hg
    obtain rfl:=Qc hg;obtain rfl:=Qc hb;exact .inr h.after.size
   .rw [if_neg hi] at hg
    exact h.after.new k g b hk hg hb
theorem BF.write (h:BF np T0 M0 w0 aA hp T M w) {id id':Nat} {e0 e:AD} {g g':GE} {b:Nat} {cells cells':Array Value} {ty:TypeId} (hw:hp id=some e0) (hg:M id=some g) (hb:g.blk=some b) (h8:Sl w.heap[b]? e.s cells ty) (hh:cells'.size=cells.size) (hq:∀ o,o<T b->cells'[o]? = cells[o]?) (hid:(id'=id/\g'=g)∨(¬ aA id'/\np<=id')) (h9:g'.blk=some b) (hs':g'.s=e.s) (hx:e.s≠0) (ro:e.ro<=e.rows.length) (wide:∀ row∈e.rows,row.length=e.s) (hT:T b<=g'.base+e.ro*e.s) (ht:g'.base+e.rows.length*e.s<=cells.size) (hc:∀ i j,i<e.rows.length->j<e.s -> ∃ v,cells'[g'.base+i*e.s+j]? = some v/\v.oneCell'=true/\AX T w M ((e.rows.getD i []).getD j .dead) v) {hp':Nat->Option AD} (hy:hp' id'=some e) (ha:∀ i e',i≠id'->hp' i=some e'->i≠id/\hp i=some e') :
  ∃ M':GM,M' id'=some g'/\(∀ i g,M i=some g->M' i=some g)/\BF np T0 M0 w0 (λ i=>aA i∨i=id') hp' T M' (w.setRow b cells')/\Ag T w T (w.setRow b cells'):=by
 obtain⟨fz,h0,hfz⟩:=h8;have u:∀ k,k≠b->(w.setRow b cells').heap[k]? = w.heap[k]?:=λ k hk=>setRow_other w b k cells' hk;have hd:=setRow_heap w b cells cells' ty fz h0
 have p:Ag T w T (w.setRow b cells'):=by
  refine⟨λ _=>Qk _,λ k c t f hk=>?_⟩
  by_cases e:k=b
  .subst e
   rw[h0] at hk
   cases hk;exact⟨cells',fz,hd,hh,hq⟩
  .exact ⟨c,f,by rw[u k e];exact hk,rfl,λ _ _=>rfl⟩
 have hz:id'≠id->M id'=none:=by
  intro hl;rcases hid with ⟨h1,_⟩ | ⟨h1,_⟩
  .exact absurd h1 hl
  .cases hm:M id' with
   | none=>rfl
   | some g=>exact absurd (h.dom id' g hm) h1
 have mm:∀ i g1,M i=some g1->(λ i=>if i=id' then some g' else M i) i=some g1:=by
  intro i g1 q
  by_cases hi:i=id'
  .subst hi
   rcases hid with ⟨rfl,rfl⟩ | ⟨h1,_⟩
   .simp only[UM];exact hg.symm.trans q
   .exact absurd (h.dom i g1 q) h1
  .simp only[hi,Uv];exact q
 have hf:∀ i e' g1 b1,i≠id->hp i=some e'->M i=some g1->g1.blk=some b1->b1≠b:=by
  rintro i e' g1 b1 hi h1 h2 h3 rfl
  exact hi (h.hs.inj i id e' e0 g1 g b1 h1 hw h2 hg h3 hb)
 refine⟨λ i=>if i=id' then some g' else M i,zz,mm,⟨⟨λ i e' he=>?_,λ i i' e1 e2 g1 g2 b1 h1 h2 h3 h4 h5 h6=>?_⟩,λ i g1 q=>?_,?_⟩,p⟩
 .by_cases hi:i=id'
  .subst hi
   obtain rfl:e=e':=Qc (hy.symm.trans he);refine⟨g',if_pos rfl,hs',ro,λ _=>wide,(λ e=>by rw[h9] at e;cases e),(λ h=>absurd h hx),λ _ b1 h7=>?_⟩
   obtain rfl:b=b1:=Qc (h9.symm.trans h7);refine⟨cells',ty,⟨fz,hd,by rw[hh];exact hfz⟩,hT,by rw[hh];exact ht,λ i j hi hj=>?_⟩
   obtain⟨v,hv,ho,hr⟩:=hc i j hi hj;exact⟨v,hv,ho,hr.mono p mm⟩
  .obtain ⟨hl,hu⟩:=ha i e' hi he
   obtain⟨g1,h1,h2⟩:=h.hs.ent i e' hu;refine⟨g1,by simp only[hi,Uv];exact h1,h2.mono p mm λ b1 h7=>⟨u b1 (hf i e' g1 b1 hl hu h1 h7),rfl⟩⟩
 .by_cases hi:i=id'<;>by_cases hi':i'=id'
  .rw [hi,hi']
  .rw [if_pos hi] at h3;rw[if_neg hi'] at h4
   obtain rfl:=Qc h3;obtain rfl:=Qc (h9.symm.trans h5);obtain⟨k1,k2⟩:=ha i' e2 hi' h2;exact absurd rfl (hf i' e2 g2 _ k1 k2 h4 h6)
  .rw [if_neg hi] at h3;rw[if_pos hi'] at h4
   obtain rfl:=Qc h4;obtain rfl:=Qc (h9.symm.trans h6);obtain⟨k1,k2⟩:=ha i e1 hi h1;exact absurd rfl (hf i e1 g1 _ k1 k2 h3 h5)
  .rw [if_neg hi] at h3;rw[if_neg hi'] at h4
   exact h.hs.inj i i' e1 e2 g1 g2 b1 (ha i e1 hi h1).2 (ha i' e2 hi' h2).2 h3 h4 h5 h6
 .by_cases hi:i=id'
  .exact .inr hi
  .rw [if_neg hi] at q;exact .inl (h.dom i g1 q)
 .refine h.after.step (λ k hk=>?_) (λ _ _ _=>rfl) (λ k hk=>?_) rfl rfl rfl zz (λ k hk hn=>?_) p λ k g1 b1 hk q h7=>?_
  .obtain ⟨c,t,f,h1,h2⟩:=h.after.tok k hk
   obtain⟨c',f',e1,e2,_⟩:=p.cell k c t f h1;exact⟨c',t,f',e1,zy⟩
  .by_cases hi:k=id'
   .subst hi
    rcases hid with ⟨rfl,rfl⟩ | ⟨_,h1⟩
    .simp only[UM];exact hg.symm
    .omega
   .simp only[hi,Uv]
  .refine u k ?_
   rintro rfl
   rcases h.after.blk hg hb with h1 | h1
   .exact hn h1
   .omega
  .by_cases hi:k=id'
   .rw [if_pos hi] at q
    obtain rfl:=Qc q;obtain rfl:=Qc (h9.symm.trans h7);exact h.after.blk hg hb
   .rw [if_neg hi] at q
    exact h.after.new k g1 b1 hk q h7
end
theorem B1 {P:Program} {t:TypeId} {d:TypeDesc} (h:P.underlying t=some d) (w:World):(underlying t).run P w = .ok d w:=by
 simp[underlying,h]
section
variable {P:Program} {np:Nat} {T0:Nat->Nat} {M0:GM} {w0:World} {aA:Nat->Prop} {st:St} {T:Nat->Nat} {M:GM} {a:Act} {w:World} {idb:Nat}
def Dm (P:Program) (np:Nat) (T0:Nat->Nat) (M0:GM) (w0:World) (aA:Nat->Prop) (id:Nat) (hp:Nat->Option AD) (T:Nat->Nat) (M:GM) (w:World) (v:AV):Result Next->Prop
 | .ok (.value v') w'=>∃ T' M',BF np T0 M0 w0 (λ i=>aA i∨(id<=i/\i<id+8)) hp T' M' w'/\Ag T w T' w'/\(∀ i g,M i=some g->M' i=some g)/\AX T' w' M' v v'
 | .ok .skip w'=>∃ T' M',BF np T0 M0 w0 (λ i=>aA i∨(id<=i/\i<id+8)) hp T' M' w'/\Ag T w T' w'/\(∀ i g,M i=some g->M' i=some g)/\v = .dead
 | .ok (.enter f args) w1=>w1=w/\Calls P f args w λ e w'=>∃ v' T' M',e = .returned v'/\BF np T0 M0 w0 (λ i=>aA i∨(id<=i/\i<id+8)) hp T' M' w'/\Ag T w T' w' /\
   (∀ i g,M i=some g->M' i=some g)/\AX T' w' M' v v'
 | _=>False
theorem Bu (m:BF np T0 M0 w0 aA st.hp T M w) {v:AV} {v':Value} (r:AX T w M v v') {s:Sem Next} (hs:s.run P w = .ok (.value v') w) :
  Dm P np T0 M0 w0 aA idb (st.upd []).hp T M w v (s.run P w):=by
 rw[hs];exact⟨T,M,m.wider λ _ h=>.inl h,Ag.refl _ _,λ _ _ h=>h,r⟩
def Ay (P:Program) (np:Nat) (T0:Nat->Nat) (M0:GM) (w0:World) (aA:Nat->Prop) (st:St) (T:Nat->Nat) (M:GM) (a:Act) (w:World) (idb:Nat) (o:Oper):Prop :=
 ∀ K,aK P np idb (Aw P o).1 ((Aw P o).2.map (·.ev st.get)) st.hp K -> ∃ v rd up,K v rd up/\Dm P np T0 M0 w0 aA idb (st.upd up).hp T M w v ((execOp a.eval o).run P w)
variable (tm:∀ i,AX T w M (st.get i) (a.tmps.getD i undef)) (m:BF np T0 M0 w0 aA st.hp T M w)
include tm m
theorem SJ (o:Oper) (x:Operand) (h:o.op = .move x∨o.op = .assign x):Ay P np T0 M0 w0 aA st T M a w idb o:=by
 intro K hk;have hc:Aw P o=(.mv,[AP x]):=by rcases h with h | h<;>simp[Aw,h]
 rw[hc] at hk;refine⟨_,_,_,hk,Bu m (BG tm x) ?_⟩;rcases h with h | h<;>simp[execOp,h]
omit tm m
theorem Bo {T:Nat->Nat} {w:World} {M:GM} {x:AV} {v u:Value} (h:AX T w M x v) (e:x = .sc u):v=u:=by
 subst e;cases h;rfl
include tm m
theorem jA (o:Oper) (c x y:Operand) (h:o.op = .pick c x y):Ay P np T0 M0 w0 aA st T M a w idb o:=by
 intro K hk;have hc:Aw P o=(.pick,[AP c,AP x,AP y]):=by simp[Aw,h]
 rw[hc] at hk;simp only[List.map,aK] at hk;obtain⟨t,ht,hk⟩:=hk;have q:=Bo (BG tm c) ht;refine⟨_,_,_,hk,Bu m (v':=if t then a.eval x else a.eval y) ?_ ?_⟩
 .cases t
  .exact BG tm y
  .exact BG tm x
 .simp only[execOp,h,q]
  cases t<;>simp[asBool]
theorem aO (o:Oper) (x:Operand) (h:o.op = .nilCheck x):Ay P np T0 M0 w0 aA st T M a w idb o:=by
 intro K hk;have hc:Aw P o=(.nil,[AP x]):=by simp[Aw,h]
 rw[hc] at hk;simp only[List.map,aK] at hk;obtain⟨h1,hk⟩:=hk;have hr:=BG tm x;refine⟨_,_,_,hk,Bu m hr ?_⟩;generalize (AP x).ev st.get=y at *;generalize hv:a.eval x=v at *;simp only[execOp,h,hv]
 cases hr<;>first | exact False.elim h1 | rfl
theorem k9 (o:Oper) (t:TypeId) (x:Operand) (h:o.op = .makeInterface t x):Ay P np T0 M0 w0 aA st T M a w idb o:=by
 intro K hk
 cases hu:P.underlying t with
 | none =>
   have hc:Aw P o=(.bad,[]):=by simp[Aw,h,hu]
   rw[hc] at hk;exact False.elim hk
 | some td =>
   by_cases hs:∃ fs,td = .struct fs
   .obtain ⟨fs,rfl⟩:=hs
    have hc:Aw P o=(.mki t,[AP x]):=by simp[Aw,h,hu]
    rw[hc] at hk;refine⟨_,_,_,hk,Bu m (.ifc _ t _ _ (BG tm x)) ?_⟩;simp[execOp,h,Instr.makeInterface,run_underlying hu]
   .have hc:Aw P o=(.bad,[]):=by
     simp only[Aw,h,hu];split
     .rename_i e;exact absurd ⟨_,Qc e⟩ hs
     .rfl
    rw[hc] at hk;exact False.elim hk
theorem lY (o:Oper) (x:Operand) (i:Nat) (h:o.op = .extract x i):Ay P np T0 M0 w0 aA st T M a w idb o:=by
 intro K hk;have hc:Aw P o=(.ext i,[AP x]):=by simp[Aw,h]
 rw[hc] at hk;have hr:=BG tm x;simp only[List.map] at hk;generalize (AP x).ev st.get=y at *;generalize hv:a.eval x=v at *
 cases y<;>simp only[aK] at hk
 rename_i vs;obtain⟨u,hu,hk⟩:=hk
 cases hr with
 | tup _ _ us hl hh =>
   have hi:i<vs.length:=(Qu.1 hu).1;have h1:=hh i hi;have e1:vs.getD i .dead=u:=by simp[List.getD,hu]
   rw[e1] at h1;refine⟨_,_,_,hk,Bu m h1 ?_⟩;have hi':i<us.size:=zy
   simp[execOp,h,hv,Instr.extract,hi',Array.getD]
theorem pT (o:Oper) (f:FuncId) (first capt:Array Operand) (h:o.op = .makeFunc (.func f) first capt):Ay P np T0 M0 w0 aA st T M a w idb o:=by
 intro K hk
 by_cases hf:first.isEmpty=true
 .have hc:Aw P o=(.mkf f,capt.toList.map AP):=by simp[Aw,h,hf]
  rw[hc] at hk;simp only[Ub,aK] at hk;have q:first = #[]:=by simpa using hf
  refine⟨_,_,_,hk,Bu m (v':=.func (.func f) #[] (capt.map a.eval)) (.fn _ (.func f) [] _ #[] _ rfl zz (λ i hi=>absurd hi (Ut i)) λ i hi=>?_) ?_⟩
  .simp only[QB,Uk] at hi
   have e1:((capt.toList.map ((λ x=>x.ev st.get)∘AP)).getD i .dead)=(AP capt[i]).ev st.get:=by simp[List.getD,hi]
   have e2:(capt.map a.eval).getD i undef=a.eval capt[i]:=by simp[Array.getD,hi]
   rw[e1,e2];exact BG tm _
  .simp [execOp,h,q,Instr.makeFunc]
 by_cases hg:capt.isEmpty=true
 .have hc:Aw P o=(.mkb f,first.toList.map AP):=by simp[Aw,h,hf,hg]
  rw[hc] at hk;simp only[Ub,aK] at hk;have u:capt = #[]:=by simpa using hg
  refine⟨_,_,_,hk,Bu m (v':=.func (.func f) (first.map a.eval) #[]) (.fn _ (.func f) _ [] _ #[] zz rfl (λ i hi=>?_) (λ i hi=>absurd hi (Ut i))) ?_⟩
  .simp only[QB,Uk] at hi
   have e1:((first.toList.map ((λ x=>x.ev st.get)∘AP)).getD i .dead)=(AP first[i]).ev st.get:=by simp[List.getD,hi]
   have e2:(first.map a.eval).getD i undef=a.eval first[i]:=by simp[Array.getD,hi]
   rw[e1,e2];exact BG tm _
  .simp [execOp,h,u,Instr.makeFunc]
 .have hc:Aw P o=(.bad,[]):=by simp[Aw,h,hf,hg]
  rw[hc] at hk;exact False.elim hk
theorem qA (o:Oper) (t:TypeId) (x:Operand) (f:Nat) (h:o.op = .fieldAddr t x f):Ay P np T0 M0 w0 aA st T M a w idb o:=by
 intro K hk;have hr:=BG tm x;simp only[Aw,h] at hk;split at hk
 case h_2=>exact False.elim hk
 rename_i fs hu;split at hk
 case h_2=>exact False.elim hk
 rename_i fd h2;split at hk
 case h_2=>exact False.elim hk
 rename_i k q;simp only[List.map] at hk
 have u:(sizeOf fd.type).run P w = .ok (k+1) w:=by
  simp only[CB,Qr] at q;obtain⟨i,hi,hs⟩:=q;simp[sizeOf,typeInfo,hi,hs]
 generalize (AP x).ev st.get=y at *;generalize hv:a.eval x=v at *
 have key:∀ b off,v = .pointer (some ⟨b,off,none⟩)->(execOp a.eval o).run P w = .ok (.value (.pointer (some ⟨b,off+fd.offset,none⟩))) w:=by
  rintro b off rfl
  have h0:(⟨b,off,none⟩:Addr).add fd.offset=⟨b,off+fd.offset,none⟩:=by unfold Addr.add;split<;>simp_all
  simp[execOp,h,hv,Instr.fieldAt,B1 hu,h2,Instr.sureAddr,fieldPlace,u,h0]
 cases y<;>simp only[aK] at hk
 .rename_i cs
  obtain⟨h4,hk⟩:=hk
  cases hr with
  | pv _ _ b off cells ty fz c hb ht h3 h1 hh =>
    refine⟨_,_,_,hk,Bu m (.pv _ _ b (off+fd.offset) cells ty fz (λ j=>c (fd.offset+j)) hb zw (λ j hj=>?_) (λ j hj=>?_) λ j hj=>?_) (key b off rfl)⟩
    .rw [UG];exact h3 _ (by simp at hj;omega)
    .exact h1 _ (by simp at hj;omega)
    .have:=hh (fd.offset+j) (by simp at hj;omega)
     simpa [List.getD] using this
 .rename_i i k j
  cases hr with
  | pt _ _ _ _ g b hg hz hb =>
    refine⟨_,_,_,hk,Bu m (.pt _ _ _ _ g b hg hz hb) ?_⟩;rw[key b _ rfl,UG (g.base+k*g.s)]
theorem nJ (o:Oper) (op:UnOp) (t:TypeId) (x:Operand) (h:o.op = .unOp op t x):Ay P np T0 M0 w0 aA st T M a w idb o:=by
 intro K hk;have hc:Aw P o=(.un op,[AP x]):=by simp[Aw,h]
 rw[hc] at hk;have hr:=BG tm x;simp only[List.map] at hk;generalize (AP x).ev st.get=y at *;generalize hv:a.eval x=v at *
 cases y<;>simp only[aK] at hk
 rename_i u;obtain⟨z,hz,hk⟩:=hk;obtain rfl:=Bo hr rfl
 have q:z.oneCell'=true:=by
  cases v<;>simp only[Hq] at hz<;>(try (cases hz;done))<;>cases op<;>simp at hz<;>subst hz<;>rfl
 refine⟨_,_,_,hk,Bu m (.sc _ _ q) ?_⟩;simp only[execOp,h,hv]
 cases v<;>simp only[Hq] at hz<;>(try (cases hz;done))<;>cases op<;>simp at hz<;>subst hz<;>simp[Op.unary,Op.intArith,Op.intBits]
end
variable {cs:List AV} {op:BinOp} {t:TypeId} {x y:Value} {xs:Array Value}
section
variable {P:Program} {np:Nat} {T0:Nat->Nat} {M0:GM} {w0:World} {aA:Nat->Prop} {st:St} {T:Nat->Nat} {M:GM} {a:Act} {w:World} {idb:Nat}
theorem uF {z:Value} (h:Ae op x y=some z):z.oneCell'=true:=by
 cases x<;>cases y<;>simp only[Ae] at h<;>(try (cases h;done))
 .cases op<;>simp at h<;>(try (obtain⟨_,h⟩:=h))<;>(try subst h)<;>(try rfl)<;>(try (obtain⟨_,h⟩:=h))<;>(try subst h)<;>rfl
 .cases op<;>simp at h<;>(try subst h)<;>rfl
theorem pF {z:Value} (h:Ae op x y=some z):(binOp op t x y).run P w = .ok z w:=by
 cases x<;>cases y<;>simp only[Ae] at h<;>(try (cases h;done))
 .rename_i k n k' n'
  cases op<;>simp at h<;>(try (obtain⟨h0,h⟩:=h))<;>(try (obtain⟨q,h⟩:=h))<;>(try subst h)<;>(try subst h0) <;>
   first
    | (simp[binOp,Op.intArith,Op.intBits,Op.intCmp];done)
    | (have hn:¬ (n'<0):=zy
       simp[binOp,Op.shift,hn];done)
    | (simp[binOp,Op.intDiv,q];done)
 .cases op<;>simp at h<;>(try subst h)<;>simp[binOp,Op.stringOp]
theorem Iq {d:TypeDesc} (hu:P.underlying t=some d) (hd:(∃ k,d = .int k)∨d = .bool∨d = .string) {off:Nat} {v:Value} (hx:xs[off]? = some v):(part t xs off).run P w = .ok v w:=by
 rcases hd with ⟨k,rfl⟩ | rfl | rfl<;>simp[part,isAgg,B1 hu,hx]
theorem XG {xs ys:Array Value} (d:Nat):∀ (fs:List Field) (i:Nat) (ks:List Nat) (cs ds:List AV) (b:Bool),I0 P i fs=some ks->Cw ks cs ds=some b ->
  (∀ (j:Nat) v,cs[j]? = some (.sc v)->xs[i+j]? = some v)->(∀ (j:Nat) v,ds[j]? = some (.sc v)->ys[i+j]? = some v)->(Op.eqFields (d+1) xs ys fs).run P w = .ok b w
 | [],i,ks,cs,ds,b,hf,he,hx,hy=>by
   simp only[I0,Qq] at hf;subst hf
   cases cs<;>cases ds<;>simp[Cw] at he
   subst he;simp[Op.eqFields]
 | f::fs,i,ks,cs,ds,b,hf,he,hx,hy=>by
   simp only[I0] at hf;split at hf
   case isFalse=>cases hf
   rename_i h0;obtain⟨hn,ho⟩:=h0
   have tail:∀ ks' cs' ds' b' c c',I0 P (i+1) fs=some ks'->cs=c::cs'->ds=c'::ds'->Cw ks' cs' ds'=some b'->(Op.eqFields (d+1) xs ys fs).run P w = .ok b' w:=by
    intro ks' cs' ds' b' c c' h1 h2 h3 h4;subst h2 h3;refine XG d fs (i+1) ks' cs' ds' b' h1 h4 (λ j v hj=>?_) λ j v hj=>?_
    .rw [show i+1+j=i+(j+1) by omega]
     exact hx (j+1) v (by simpa using hj)
    .rw [show i+1+j=i+(j+1) by omega]
     exact hy (j+1) v (by simpa using hj)
   have fin:∀ (dd:TypeDesc) (u v:Value) (r r':Bool),P.underlying f.type=some dd->((∃ k,dd = .int k)∨dd = .bool∨dd = .string)->xs[i]? = some u->ys[i]? = some v->(Op.equalIn (d+1) f.type u v).run P w = .ok r w ->
     (Op.eqFields (d+1) xs ys fs).run P w = .ok r' w->(Op.eqFields (d+1) xs ys (f::fs)).run P w = .ok (r && r') w:=by
    intro dd u v r r' h1 h2 h3 h4 h5 h6;simp only[Op.eqFields,ne_eq,hn,not_false_eq_true,UM,Sem.run_bind,Iq h1 h2 (ho ▸ h3),Iq h1 h2 (ho ▸ h4),Result.andThen_ok,h5]
    cases r
    .simp
    .simpa using h6
   split at hf
   .rename_i k ks' hu q
    obtain rfl:=Qc hf;unfold Cw at he;split at he<;>(try (cases he;done))
    .rename_i h;cases h
    .rename_i ki n1 cs' ki' n2 ds' e
     cases e;split at he
     case isFalse=>cases he
     rename_i hk;subst hk;simp only[Qr] at he;obtain⟨r,hr,rfl⟩:=he;exact fin _ _ _ _ _ hu (.inl ⟨_,rfl⟩) (hx 0 _ rfl) (hy 0 _ rfl) (by simp[Op.equalIn,B1 hu]) (tail _ _ _ _ _ _ q rfl rfl hr)
    all_goals (rename_i h;cases h)
   .rename_i ks' hu q
    obtain rfl:=Qc hf;unfold Cw at he;split at he<;>(try (cases he;done))
    .rename_i h;cases h
    .rename_i h;cases h
    .rename_i b1 cs' b2 ds' e
     cases e;simp only[Qr] at he;obtain⟨r,hr,rfl⟩:=he;exact fin _ _ _ _ _ hu (.inr (.inl rfl)) (hx 0 _ rfl) (hy 0 _ rfl) (by simp[Op.equalIn,B1 hu]) (tail _ _ _ _ _ _ q rfl rfl hr)
    .rename_i h;cases h
   .rename_i ks' hu q
    obtain rfl:=Qc hf;unfold Cw at he;split at he<;>(try (cases he;done))
    .rename_i h;cases h
    .rename_i h;cases h
    .rename_i h;cases h
    .rename_i b1 cs' b2 ds' e
     cases e;simp only[Qr] at he;obtain⟨r,hr,rfl⟩:=he;exact fin _ _ _ _ _ hu (.inr (.inr rfl)) (hx 0 _ rfl) (hy 0 _ rfl) (by simp[Op.equalIn,B1 hu,beq_toListBytes]) (tail _ _ _ _ _ _ q rfl rfl hr)
   .cases hf
def ID:Nat->Value->Value->Option Bool
 | 0,.int k a,.int k' b=>if k=k' then some (a == b) else none
 | 1,.bool a,.bool b=>some (a == b)
 | 2,.string a,.string b=>some (a.toList == b.toList)
 | _,_,_=>none
theorem T6 {k:Nat} {ks:List Nat} {ds:List AV} {b:Bool} (h:Cw (k::ks) cs ds=some b):∃ u v cs' ds' b1 b2,cs = .sc u::cs'/\ds = .sc v::ds'/\ID k u v=some b1/\Cw ks cs' ds'=some b2/\b=(b1 && b2):=by
 unfold Cw at h;split at h<;>(try (cases h;done))
 .rename_i e;cases e
 .rename_i k1 x cs' k2 y ds' e
  cases e;split at h
  case isFalse=>cases h
  rename_i hk;simp only[Qr] at h;obtain⟨r,hr,rfl⟩:=h;exact⟨_,_,cs',ds',_,r,rfl,rfl,by simp only[ID];rw[if_pos hk],hr,rfl⟩
 .rename_i x cs' y ds' e
  cases e;simp only[Qr] at h;obtain⟨r,hr,rfl⟩:=h;exact⟨_,_,cs',ds',_,r,rfl,rfl,rfl,hr,rfl⟩
 .rename_i x cs' y ds' e
  cases e;simp only[Qr] at h;obtain⟨r,hr,rfl⟩:=h;exact⟨_,_,cs',ds',_,r,rfl,rfl,rfl,hr,rfl⟩
theorem LD:∀ (ks ls:List Nat) (cs ds:List AV) (b:Bool),Cw (ks++ls) cs ds=some b -> ∃ b1 b2,Cw ks (cs.take ks.length) (ds.take ks.length)=some b1/\Cw ls (cs.drop ks.length) (ds.drop ks.length)=some b2/\b=(b1 && b2)
 | [],ls,cs,ds,b,h=>⟨true,b,by simp[Cw],by simpa using h,zz⟩
 | k::ks,ls,cs,ds,b,h=>by
   rw[Q6] at h;unfold Cw at h;split at h<;>(try (cases h;done))
   .rename_i e;cases e
   .rename_i k1 x cs' k2 y ds' e
    cases e;split at h
    case isFalse=>cases h
    rename_i hk;subst hk;simp only[Qr] at h;obtain⟨r,hr,rfl⟩:=h;obtain⟨b1,b2,h1,h2,rfl⟩:=LD ks ls _ _ _ hr;exact⟨(x == y) && b1,b2,by simp[Cw,h1],by simpa using h2,by simp[Bool.and_assoc]⟩
   .rename_i x cs' y ds' e
    cases e;simp only[Qr] at h;obtain⟨r,hr,rfl⟩:=h;obtain⟨b1,b2,h1,h2,rfl⟩:=LD ks ls _ _ _ hr;exact⟨(x == y) && b1,b2,by simp[Cw,h1],by simpa using h2,by simp[Bool.and_assoc]⟩
   .rename_i x cs' y ds' e
    cases e;simp only[Qr] at h;obtain⟨r,hr,rfl⟩:=h;obtain⟨b1,b2,h1,h2,rfl⟩:=LD ks ls _ _ _ hr;exact⟨(x.toList == y.toList) && b1,b2,by simp[Cw,h1],by simpa using h2,by simp[Bool.and_assoc]⟩
theorem Xh {gs:Array Field} (hu:P.underlying t=some (.struct gs)) {n:Nat} (hn:CB P t=some n) {off:Nat}:(part t xs off).run P w = .ok (.agg (xs.extract off (off+n))) w:=by
 simp only[CB,Qr] at hn;obtain⟨i,hi,rfl⟩:=hn;simp[part,isAgg,B1 hu,sizeOf,typeInfo,hi]
def GN (cs:List AV) (xs:Array Value) (i:Nat):Prop:=∀ (j:Nat) v,cs[j]? = some (.sc v)->xs[i+j]? = some v
theorem GN.drop {i:Nat} (h:GN cs xs i) (n:Nat):GN (cs.drop n) xs (i+n):=λ j v hj=>by
 rw[Q9] at hj;have:=h (n+j) v hj;rw[show i+n+j=i+(n+j) by omega]
 exact this
theorem GN.take {i:Nat} (h:GN cs xs i) (n:Nat):GN (cs.take n) (xs.extract i (i+n)) 0:=λ j v hj=>by
 have hl:=(Qu.1 hj).1;simp only[QU] at hl;rw[List.getElem?_take_of_lt zy] at hj
 have h1:=h j v hj;have h2:=(QE.1 h1).1;rw[Array.getElem?_extract];simp only[Uc];rw[if_pos zy]
 exact h1
theorem Pv {xs ys:Array Value} {e:TypeId} (hu:P.underlying e=some .bool) (d:Nat):∀ (m i:Nat) (cs ds:List AV) (b:Bool),Cw (List.replicate m 1) cs ds=some b ->
  GN cs xs i->GN ds ys i->(Op.eqItems (d+1) e 1 xs ys (List.range' i m)).run P w = .ok b w
 | 0,i,cs,ds,b,h,hx,hy=>by
   cases cs<;>cases ds<;>simp[Cw] at h
   subst h;simp[Op.eqItems]
 | m+1,i,cs,ds,b,h,hx,hy=>by
   rw[List.replicate_succ] at h;obtain⟨u,v,cs',ds',b1,b2,rfl,rfl,h1,h2,rfl⟩:=T6 h;have ih:=Pv hu d m (i+1) cs' ds' b2 h2 (hx.drop 1) (hy.drop 1);have p1:(part e xs (i*1)).run P w = .ok u w:=Iq hu (.inr (.inl rfl)) (by rw[Nat.mul_one];exact hx 0 u rfl)
   have p2:(part e ys (i*1)).run P w = .ok v w:=Iq hu (.inr (.inl rfl)) (by rw[Nat.mul_one];exact hy 0 v rfl)
   have p3:(Op.equalIn (d+1) e u v).run P w = .ok b1 w:=by
    unfold ID at h1;split at h1<;>(try (cases h1;done))
    .rename_i e;cases e
    .cases h1
     simp[Op.equalIn,B1 hu]
    .rename_i e;cases e
   rw[List.range'_succ];simp only[Op.eqItems,Sem.run_bind,p1,p2,p3,Result.andThen_ok]
   cases b1
   .simp
   .simpa using ih
theorem Od {xs ys:Array Value} (d:Nat):∀ (fs:List Field) (i:Nat) (ks:List Nat) (cs ds:List AV) (b:Bool),Gj P i fs=some ks->Cw ks cs ds=some b ->
  GN cs xs i->GN ds ys i->(Op.eqFields (d+2) xs ys fs).run P w = .ok b w
 | [],i,ks,cs,ds,b,hf,he,hx,hy=>by
   simp only[Gj,Qq] at hf;subst hf
   cases cs<;>cases ds<;>simp[Cw] at he
   subst he;simp[Op.eqFields]
 | f::fs,i,ks,cs,ds,b,hf,he,hx,hy=>by
   simp only[Gj] at hf;split at hf
   case isFalse=>cases hf
   rename_i h0;obtain⟨hn,ho⟩:=h0
   have step:∀ (u v:Value) (r r':Bool),(part f.type xs f.offset).run P w = .ok u w->(part f.type ys f.offset).run P w = .ok v w->(Op.equalIn (d+2) f.type u v).run P w = .ok r w ->
     (Op.eqFields (d+2) xs ys fs).run P w = .ok r' w->(Op.eqFields (d+2) xs ys (f::fs)).run P w = .ok (r && r') w:=by
    intro u v r r' h1 h2 h3 h4;simp only[Op.eqFields,ne_eq,hn,not_false_eq_true,UM,Sem.run_bind,h1,h2,Result.andThen_ok,h3]
    cases r
    .simp
    .simpa using h4
   have one:∀ (k:Nat) (q:List Nat) (dd:TypeDesc),P.underlying f.type=some dd->((∃ k,dd = .int k)∨dd = .bool∨dd = .string)->Gj P (i+1) fs=some q->ks=k::q ->
     (∀ (u v:Value) (r:Bool),ID k u v=some r->(Op.equalIn (d+2) f.type u v).run P w = .ok r w)->(Op.eqFields (d+2) xs ys (f::fs)).run P w = .ok b w:=by
    intro k q dd hu h6 h5 hk heq;subst hk;obtain⟨u,v,cs',ds',b1,b2,rfl,rfl,h1,h2,rfl⟩:=T6 he;exact step u v b1 b2 (Iq hu h6 (ho ▸ hx 0 u rfl)) (Iq hu h6 (ho ▸ hy 0 v rfl)) (heq u v b1 h1) (Od d fs (i+1) q _ _ b2 h5 h2 (hx.drop 1) (hy.drop 1))
   split at hf
   .rename_i k hu
    simp only[Qr] at hf;obtain⟨q,h5,rfl⟩:=hf;refine one 0 q _ hu (.inl ⟨_,rfl⟩) h5 rfl λ u v r hr=>?_;unfold ID at hr;split at hr<;>(try (cases hr;done))
    .split at hr
     case isFalse=>cases hr
     rename_i hk;subst hk
     cases hr;simp[Op.equalIn,B1 hu]
    all_goals (rename_i e;cases e)
   .rename_i hu
    simp only[Qr] at hf;obtain⟨q,h5,rfl⟩:=hf;refine one 1 q _ hu (.inr (.inl rfl)) h5 rfl λ u v r hr=>?_;unfold ID at hr;split at hr<;>(try (cases hr;done))
    .rename_i e;cases e
    .cases hr
     simp[Op.equalIn,B1 hu]
    .rename_i e;cases e
   .rename_i hu
    simp only[Qr] at hf;obtain⟨q,h5,rfl⟩:=hf;refine one 2 q _ hu (.inr (.inr rfl)) h5 rfl λ u v r hr=>?_;unfold ID at hr;split at hr<;>(try (cases hr;done))
    .rename_i e;cases e
    .rename_i e;cases e
    .cases hr
     simp[Op.equalIn,B1 hu,beq_toListBytes]
   .rename_i gs hu
    split at hf
    case h_2=>cases hf
    rename_i ks1 n h9 h7;split at hf
    case isFalse=>cases hf
    rename_i hc;obtain⟨ha,hb⟩:=hc;simp only[Qr] at hf;obtain⟨q,h5,rfl⟩:=hf;obtain⟨b1,b2,h1,h2,rfl⟩:=LD ks1 q cs ds b he;rw[<- hb] at h1 h2;have h8:P.fieldsOf f.type=gs:=by simp[Program.fieldsOf,hu]
    have heq:(Op.equalIn (d+2) f.type (.agg (xs.extract i (i+n))) (.agg (ys.extract i (i+n)))).run P w = .ok b1 w:=by
     rw[run_equalIn_struct w (d+1) f.type _ _ (by rw[h8];exact hu) ha,h8]
     exact XG d gs.toList 0 ks1 _ _ b1 h9 h1 (hx.take n) (hy.take n)
    exact step _ _ b1 b2 (by rw[ho];exact Xh hu h7) (by rw[ho];exact Xh hu h7) heq (Od d fs (i+n) q _ _ b2 h5 h2 (hx.drop n) (hy.drop n))
   .cases hf
theorem ND {X Y:Operand} (hx:∀ c,x ≠ .agg c) (q:x ≠ .nilIface):(eqGuard op t X Y x y).run P w = .ok () w:=by
 unfold eqGuard
 cases op<;>simp<;>(cases x<;>first | exact absurd rfl (hx _) | exact absurd rfl q | (cases y<;>rfl))
variable (tm:∀ i,AX T w M (st.get i) (a.tmps.getD i undef)) (m:BF np T0 M0 w0 aA st.hp T M w)
include tm m
theorem oC (o:Oper) (op:BinOp) (t u:TypeId) (x y:Operand) (h:o.op = .binOp op t x y u):Ay P np T0 M0 w0 aA st T M a w idb o:=by
 intro K hk;have hr:=BG tm x;have h6:=BG tm y;simp only[Aw,h] at hk;generalize hv:a.eval x=v at *;generalize h4:a.eval y=v' at *
 have plain:∀ K,aK P np idb (.bin op) ([AP x,AP y].map (·.ev st.get)) st.hp K -> ∃ v rd up,K v rd up/\Dm P np T0 M0 w0 aA idb (st.upd up).hp T M w v ((execOp a.eval o).run P w):=by
  intro K hk;simp only[List.map] at hk;generalize (AP x).ev st.get=X at *;generalize (AP y).ev st.get=Y at *
  cases X<;>cases Y<;>simp only[aK] at hk
  obtain⟨z,hz,hk⟩:=hk;obtain rfl:=Bo hr rfl;obtain rfl:=Bo h6 rfl;refine⟨_,_,_,hk,Bu m (.sc _ _ (uF hz)) ?_⟩;have hg:(eqGuard op t x y v v').run P w = .ok () w:=ND (by rintro c rfl;simp[Ae] at hz) (by rintro rfl;simp[Ae] at hz)
  simp only[execOp,h,hv,h4];simp[hg,pF hz]
 have bool:∀ (neg:Bool),P.underlying t=some .bool->op=(if neg then .neq else .eql) -> ∀ K,aK P np idb (.beq neg) ([AP x,AP y].map (·.ev st.get)) st.hp K ->
   ∃ v rd up,K v rd up/\Dm P np T0 M0 w0 aA idb (st.upd up).hp T M w v ((execOp a.eval o).run P w):=by
  intro neg hu h3 K hk;simp only[List.map] at hk;generalize (AP x).ev st.get=X at *;generalize (AP y).ev st.get=Y at *
  cases X<;>cases Y<;>(try (simp only[aK] at hk;done))
  rename_i p q
  cases p<;>(try (simp only[aK] at hk;done))
  cases q<;>simp only[aK] at hk
  rename_i p q;obtain rfl:=Bo hr rfl;obtain rfl:=Bo h6 rfl;refine⟨_,_,_,hk,Bu m (.sc _ _ rfl) ?_⟩;have hg:(eqGuard op t x y (.bool p) (.bool q)).run P w = .ok () w:=ND zz zz
  simp only[execOp,h,hv,h4]
  have he:(Op.equal t (.bool p) (.bool q)).run P w = .ok (p == q) w:=by
   have:∀ d,(Op.equalIn (d+1) t (.bool p) (.bool q)).run P w = .ok (p == q) w:=by
    intro d;simp[Op.equalIn,B1 hu]
   exact this 9999
  cases neg<;>simp at h3<;>subst h3<;>simp[hg,binOp,he]
 have struct:∀ (neg:Bool) (fs:Array Field),P.underlying t=some (.struct fs)->op=(if neg then .neq else .eql) -> ∀ ks,LF P t fs.toList=some ks -> ∀ K,aK P np idb (.aeq neg ks) ([AP x,AP y].map (·.ev st.get)) st.hp K ->
   ∃ v rd up,K v rd up/\Dm P np T0 M0 w0 aA idb (st.upd up).hp T M w v ((execOp a.eval o).run P w):=by
  intro neg fs hu h3 ks h0 K hk;simp only[List.map] at hk;generalize (AP x).ev st.get=X at *;generalize (AP y).ev st.get=Y at *
  cases X<;>cases Y<;>(try (simp only[aK] at hk;done))
  rename_i cs ds;simp only[aK] at hk;obtain⟨b,hb,hk⟩:=hk
  cases hr with | agg _ _ vs h8 hh h7 =>
  cases h6 with | agg _ _ us h9 hi ha =>
  refine⟨_,_,_,hk,Bu m (.sc _ _ rfl) ?_⟩;unfold LF at h0;split at h0
  case isFalse=>cases h0
  rename_i hc;obtain⟨hp,hgt⟩:=hc;have hd:P.fieldsOf t=fs:=by simp[Program.fieldsOf,hu]
  have look:∀ (zs:List AV) (ws:Array Value),ws.size=zs.length->(∀ i,i<zs.length->AX T w M (zs.getD i .dead) (ws.getD i undef)) -> ∀ (j:Nat) v,zs[j]? = some (.sc v)->ws[0+j]? = some v:=by
   intro zs ws hl hz j v hj;obtain⟨h5,hj⟩:=Qu.1 hj;have h1:=hz j h5;have e1:zs.getD j .dead = .sc v:=by simp[List.getD,h5,hj]
   rw[e1] at h1;have h2:ws.getD j undef=ws[j]' zy:=by simp[Qx,show j<ws.size by omega]
   rw[h2] at h1
   cases h1;simp[show j<ws.size by omega]
  have he:(Op.equalIn 10000 t (.agg vs) (.agg us)).run P w = .ok b w:=by
   rw[run_equalIn_struct w 9999 t vs us (by rw[hd];exact hu) hp,hd]
   exact Od 9997 fs.toList 0 ks cs ds b h0 hb (look cs vs h8 h7) (look ds us h9 ha)
  have hg:(eqGuard op t x y (.agg vs) (.agg us)).run P w = .ok () w:=run_eqGuard_agg w op t x y vs us hgt;simp only[execOp,h,hv,h4]
  cases neg<;>simp at h3<;>subst h3<;>simp[hg,run_eql_struct,run_neq_struct,he,Result.andThen]
 have arr:∀ (neg:Bool) (n:Nat) (e:TypeId),P.underlying t=some (.array n e)->op=(if neg then .neq else .eql) -> ∀ ks,LN P t e n=some ks -> ∀ K,aK P np idb (.aeq neg ks) ([AP x,AP y].map (·.ev st.get)) st.hp K ->
   ∃ v rd up,K v rd up/\Dm P np T0 M0 w0 aA idb (st.upd up).hp T M w v ((execOp a.eval o).run P w):=by
  intro neg n e hu h3 ks h0 K hk;simp only[List.map] at hk;generalize (AP x).ev st.get=X at *;generalize (AP y).ev st.get=Y at *
  cases X<;>cases Y<;>(try (simp only[aK] at hk;done))
  rename_i cs ds;simp only[aK] at hk;obtain⟨b,hb,hk⟩:=hk
  cases hr with | agg _ _ vs h8 hh h7 =>
  cases h6 with | agg _ _ us h9 hi ha =>
  refine⟨_,_,_,hk,Bu m (.sc _ _ rfl) ?_⟩;unfold LN at h0;split at h0
  case h_2=>cases h0
  rename_i hm;split at h0
  case isFalse=>cases h0
  rename_i hc;obtain⟨hgt,hn,hq⟩:=hc
  cases h0;obtain⟨ti,hs⟩:=Option.isSome_iff_exists.1 hn
  have look:∀ (zs:List AV) (ws:Array Value),ws.size=zs.length->(∀ i,i<zs.length->AX T w M (zs.getD i .dead) (ws.getD i undef)) -> ∀ (j:Nat) v,zs[j]? = some (.sc v)->ws[0+j]? = some v:=by
   intro zs ws hl hz j v hj;obtain⟨h5,hj⟩:=Qu.1 hj;have h1:=hz j h5;have e1:zs.getD j .dead = .sc v:=by simp[List.getD,h5,hj]
   rw[e1] at h1;have h2:ws.getD j undef=ws[j]' zy:=by simp[Qx,show j<ws.size by omega]
   rw[h2] at h1
   cases h1;simp[show j<ws.size by omega]
  have he:(Op.equalIn 10000 t (.agg vs) (.agg us)).run P w = .ok b w:=by
   rw[run_equalIn_array w 9999 vs us hu hs,hq,List.range_eq_range'];exact Pv hm 9998 n 0 cs ds b hb (look cs vs h8 h7) (look ds us h9 ha)
  have hg:(eqGuard op t x y (.agg vs) (.agg us)).run P w = .ok () w:=run_eqGuard_agg w op t x y vs us hgt;simp only[execOp,h,hv,h4]
  cases neg<;>simp at h3<;>subst h3<;>simp[hg,run_eql_struct,run_neq_struct,he,Result.andThen]
 have slice:∀ (neg:Bool) (e:TypeId),P.underlying t=some (.slice e)->op=(if neg then .neq else .eql)->Kv y=true -> ∀ K,aK P np idb (.snil neg) ([AP x].map (·.ev st.get)) st.hp K ->
   ∃ v rd up,K v rd up/\Dm P np T0 M0 w0 aA idb (st.upd up).hp T M w v ((execOp a.eval o).run P w):=by
  intro neg e hu h3 hy K hk
  have ht:v' = .slice none 0 0:=by
   unfold Kv at hy;split at hy
   .rw [<- h4];rfl
   .cases hy
  subst ht;simp only[List.map] at hk;generalize (AP x).ev st.get=X at *
  have fin:∀ (ad:Option Addr) (l c:Nat),v = .slice ad l c->(execOp a.eval o).run P w = .ok (.value (.bool (ad.isNone != neg))) w:=by
   rintro ad l c rfl
   have he:(Op.equal t (.slice ad l c) (.slice none 0 0)).run P w = .ok ad.isNone w:=run_equal_slice_nil w t e ad l c hu;have hg:(eqGuard op t x y (.slice ad l c) (.slice none 0 0)).run P w = .ok () w:=ND zz zz
   simp only[execOp,h,hv,h4]
   cases neg<;>simp at h3<;>subst h3<;>simp[hg,binOp,he]
  cases X<;>(try (simp only[aK] at hk;done))
  .rename_i u
   cases u<;>simp only[aK] at hk
   obtain rfl:=Bo hr rfl;exact⟨_,_,_,hk,Bu m (.sc _ _ rfl) (fin _ _ _ rfl)⟩
  .rename_i sz full rows
   cases rows with
   | nil=>simp only[aK] at hk
   | cons row rows =>
     simp only[aK] at hk
     cases hr with | vs _ _ _ _ ad cap c hf hl hw hb ho h7 =>
     obtain⟨b,off,cells,ty,fz,rfl,_⟩:=hb (List.cons_ne_nil _ _);refine⟨_,_,_,hk,Bu m (.sc _ _ rfl) ?_⟩;rw[fin _ _ _ rfl]
     cases neg<;>rfl
 split at hk
 .rename_i hu;exact bool false hu rfl K hk
 .rename_i hu;exact bool true hu rfl K hk
 .rename_i fs hu
  split at hk
  .rename_i ks h0;exact struct false fs hu rfl ks h0 K hk
  .exact hk.elim
 .rename_i fs hu
  split at hk
  .rename_i ks h0;exact struct true fs hu rfl ks h0 K hk
  .exact hk.elim
 .rename_i n e hu
  split at hk
  .rename_i ks h0;exact arr false n e hu rfl ks h0 K hk
  .exact hk.elim
 .rename_i n e hu
  split at hk
  .rename_i ks h0;exact arr true n e hu rfl ks h0 K hk
  .exact hk.elim
 .rename_i e hu
  split at hk
  .rename_i hy;exact slice false e hu rfl hy K hk
  .exact hk.elim
 .rename_i e hu
  split at hk
  .rename_i hy;exact slice true e hu rfl hy K hk
  .exact hk.elim
 .exact plain K hk
theorem tR (o:Oper) (t u:TypeId) (x:Operand) (h:o.op = .convert t u x) (k k':IntKind) (h1:P.underlying t=some (.int k)) (h2:P.underlying u=some (.int k')):Ay P np T0 M0 w0 aA st T M a w idb o:=by
 intro K hk;have hr:=BG tm x;simp only[Aw,h,h1,h2,List.map] at hk;generalize hv:a.eval x=v at *;generalize (AP x).ev st.get=X at *
 cases X<;>(try (simp only[aK] at hk;done))
 rename_i u
 cases u<;>simp only[aK] at hk
 obtain rfl:=Bo hr rfl;refine⟨_,_,_,hk,Bu m (.sc _ _ rfl) ?_⟩;simp[execOp,h,hv,convert,B1 h1,B1 h2,Conv.intToInt]
end
section
variable {P:Program} {np:Nat} {T0:Nat->Nat} {M0:GM} {w0:World} {aA:Nat->Prop} {st:St} {T:Nat->Nat} {M:GM} {a:Act} {w:World} {idb:Nat}
theorem WR {X:AV} {v:Value} {n:Nat} (hr:AX T w M X v) (hn:lenOf X=some n):∃ b cp,v = .slice b n cp:=by
 cases hr with
 | sc _ _ h1 =>
   unfold lenOf at hn;split at hn<;>(try (cases hn;done))
   .rename_i e;cases e
   .rename_i e;cases e
   .rename_i e;cases e
   .rename_i e;cases e;cases hn;exact⟨_,_,rfl⟩
 | vs=>simp only[lenOf,Qq] at hn;subst hn;exact⟨_,_,rfl⟩
 | rs=>simp only[lenOf,Qq] at hn;subst hn;exact⟨_,_,rfl⟩
 | rk=>simp only[lenOf,Qq] at hn;subst hn;exact⟨_,_,rfl⟩
 | _=>simp[lenOf] at hn
theorem Addr.add_none (b o n:Nat):(⟨b,o,none⟩:Addr).add n=⟨b,o+n,none⟩:=by unfold Addr.add;split<;>simp_all
variable (tm:∀ i,AX T w M (st.get i) (a.tmps.getD i undef)) (m:BF np T0 M0 w0 aA st.hp T M w)
include tm m
theorem kO (o:Oper) (c:Call) (h:o.op = .call c) (hb:c.callee = .builtin .len) (t:TypeId) (x:Operand) (ht:c.argTypes.toList=[t]) (hx:c.args.toList=[x]):Ay P np T0 M0 w0 aA st T M a w idb o:=by
 intro K hk;have hr:=BG tm x;have q:c.argTypes = #[t]:=by rw[<- QL (xs:=c.argTypes),ht]
 have h0:c.args = #[x]:=by rw[<- QL (xs:=c.args),hx]
 simp only[Aw,h,hb,ht,hx] at hk;split at hk
 case h_3=>exact False.elim hk
 .rename_i s hu
  simp only[List.map] at hk;generalize hv:a.eval x=v at *;generalize (AP x).ev st.get=X at *;simp only[aK] at hk;obtain⟨n,hn,hk⟩:=hk;obtain⟨b,cp,rfl⟩:=WR hr hn;refine⟨_,_,_,hk,Bu m (.sc _ _ rfl) ?_⟩;simp[execOp,h,resolve,hb,invoke,builtin,Builtin.len_,q,h0,hv,B1 hu,goInt]
 .rename_i hu
  simp only[List.map] at hk;generalize hv:a.eval x=v at *;generalize (AP x).ev st.get=X at *
  cases X<;>(try (simp only[aK] at hk;done))
  rename_i u
  cases u<;>simp only[aK] at hk
  obtain rfl:=Bo hr rfl;refine⟨_,_,_,hk,Bu m (.sc _ _ rfl) ?_⟩;simp[execOp,h,resolve,hb,invoke,builtin,Builtin.len_,q,h0,hv,B1 hu,goInt]
theorem WH (o:Oper) (c:Call) (h:o.op = .call c) (mx:Bool) (hb:c.callee = .builtin (if mx then .max else .min)):Ay P np T0 M0 w0 aA st T M a w idb o:=by
 intro K hk
 have two:∀ x y,c.args.toList=[x,y] -> ∀ K,aK P np idb (if mx then .mx2 else .mn2) ([AP x,AP y].map (·.ev st.get)) st.hp K -> ∃ v rd up,K v rd up/\Dm P np T0 M0 w0 aA idb (st.upd up).hp T M w v ((execOp a.eval o).run P w):=by
  intro x y hx K hk;have u:c.args = #[x,y]:=by rw[<- QL (xs:=c.args),hx]
  have hr:=BG tm x;have h1:=BG tm y;simp only[List.map] at hk;generalize hv:a.eval x=v at *;generalize (AP x).ev st.get=X at *;generalize h0:a.eval y=v' at *;generalize (AP y).ev st.get=Y at *
  cases mx<;>simp only[Ue,Uv,UM] at hk hb
  all_goals
   cases X<;>cases Y<;>(try (simp only[aK] at hk;done))
   rename_i p q
   cases p<;>(try (simp only[aK] at hk;done))
   cases q<;>simp only[aK] at hk
   obtain rfl:=Bo hr rfl;obtain rfl:=Bo h1 rfl;refine⟨_,_,_,hk,Bu m (.sc _ _ rfl) ?_⟩
  .simp [execOp,h,resolve,hb,invoke,builtin,Builtin.min_,Builtin.min2,u,hv,h0]
  .simp [execOp,h,resolve,hb,invoke,builtin,Builtin.max_,Builtin.max2,u,hv,h0]
 cases mx
 all_goals
  simp only[Ue,Uv,UM] at hb;simp only[Aw,h,hb] at hk;split at hk
  case h_2=>exact False.elim hk
  rename_i x y hx;exact two x y hx K hk
theorem bR (o:Oper) (t:TypeId) (x:Operand) (f:Nat) (h:o.op = .field t x f):Ay P np T0 M0 w0 aA st T M a w idb o:=by
 intro K hk;have hr:=BG tm x;simp only[Aw,h] at hk;split at hk
 case h_2=>exact False.elim hk
 rename_i fs hu;split at hk
 case h_2=>exact False.elim hk
 rename_i fd h4;split at hk
 case h_2=>exact False.elim hk
 rename_i ag s q h2;split at hk
 case isFalse=>exact False.elim hk
 rename_i h5;simp only[List.map] at hk
 have h3:(sizeOf fd.type).run P w = .ok s w:=by
  simp only[CB,Qr] at h2;obtain⟨i,hi,hs⟩:=h2;simp[sizeOf,typeInfo,hi,hs]
 have h0:(isAgg fd.type).run P w = .ok ag w:=by
  unfold Dq at q;split at q<;>(try (cases q;done))
  .rename_i e;cases q;simp[isAgg,B1 e]
  .rename_i e;cases q;simp[isAgg,B1 e]
  .rename_i d e n1 n2
   cases q;simp only[isAgg,Sem.run_bind,B1 n2];simp
 generalize hv:a.eval x=v at *;generalize (AP x).ev st.get=X at *
 cases X<;>simp only[aK] at hk
 rename_i cs;obtain⟨h6,hk⟩:=hk
 cases hr with
 | agg _ _ us hl h1 hh =>
   have u:∀ v',(part fd.type us fd.offset).run P w = .ok v' w->(execOp a.eval o).run P w = .ok (.value v') w:=by
    intro v' hp;simp[execOp,h,hv,Instr.field,B1 hu,h4,asAgg,hp]
   cases ag with
   | true =>
     refine⟨_,_,_,hk,Bu m (v':=.agg (us.extract fd.offset (fd.offset+s))) ?_ (u _ ?_)⟩
     .refine .agg _ _ _ zw (λ i hi=>?_) λ i hi=>?_
      .simp at hi
       have e:(us.extract fd.offset (fd.offset+s)).getD i undef=us.getD (fd.offset+i) undef:=by
        simp only[Qx,Array.getElem?_extract];rw[if_pos zy]
       rw[e];exact h1 _ zy
      .simp at hi
       have e:(us.extract fd.offset (fd.offset+s)).getD i undef=us.getD (fd.offset+i) undef:=by
        simp only[Qx,Array.getElem?_extract];rw[if_pos zy]
       have e2:((cs.drop fd.offset).take s).getD i .dead=cs.getD (fd.offset+i) .dead:=by
        simp only[List.getD,Un,Q9];rw[if_pos zy]
       rw[e,e2];exact hh _ zy
     .simp [part,h0,h3]
   | false =>
     obtain rfl:s=1:=by simpa using h5
     refine⟨_,_,_,hk,Bu m (hh fd.offset zy) (u _ ?_)⟩
     have hi:fd.offset<us.size:=zy
     simp[part,h0,hi,Array.getD]
omit tm in
theorem Zm {X:AV} {v:Value} {cs:List AV} (hr:AX T w M X v) (hc:En st.hp X=some cs) :
  ∃ b off,v = .pointer (some ⟨b,off,none⟩) /\ ∃ c:Nat->Value,∀ j,j<cs.length->w.cell? ⟨b,off+j,none⟩=some (c j)/\(c j).oneCell'=true/\AX T w M (cs.getD j .dead) (c j):=by
 cases hr with
 | pv _ ys b off cells ty fz c hb ht h6 h1 hh =>
   simp only[En,Qq] at hc;subst hc;refine⟨b,off,rfl,c,λ j hj=>⟨?_,h1 j hj,(hh j hj).mono (Ag.refl _ _) (λ _ _ e=>by cases e)⟩⟩
   simp[World.cell?,hb,h6 j hj]
 | pt _ i k j g b hg hz hb =>
   simp only[En,Uh,Qr] at hc;obtain⟨e,he,row,q,rfl⟩:=hc;obtain⟨g',h7,ent⟩:=m.hs.ent i e he;obtain rfl:=Qc (hg.symm.trans h7);have h0:e.s≠0:=ent.s ▸ hz;obtain⟨cells,ty,⟨fz,h1,_⟩,h2,h3,h4⟩:=ent.blk h0 b hb;have hk:k<e.rows.length:=(Qu.1 q).1;have hw:=ent.wide h0 row (QX q)
   have ex:∀ j':Nat,∃ u,j'<(row.drop j).length->w.cell? ⟨b,g.base+k*g.s+j+j',none⟩=some u/\u.oneCell'=true/\AX T w M ((row.drop j).getD j' .dead) u:=by
    intro j'
    by_cases hj:j'<(row.drop j).length
    .rw [UH] at hj
     obtain⟨u,hu,ho,h5⟩:=h4 k (j+j') hk zy
     refine⟨u,λ _=>⟨?_,ho,?_⟩⟩
     .simp only[World.cell?,h1]
      rw[<- ent.s,<- UG] at hu
      simpa using hu
     .have e1:e.rows.getD k []=row:=by simp[List.getD,q]
      rw[e1] at h5
      simpa [List.getD] using h5
    .exact ⟨undef,λ h=>absurd h hj⟩
   obtain⟨c,hc⟩:=Classical.axiomOfChoice ex;exact⟨b,_,rfl,c,hc⟩
 | _=>simp[En] at hc
theorem uA (o:Oper) (t:TypeId) (x:Operand) (h:o.op = .load t x):Ay P np T0 M0 w0 aA st T M a w idb o:=by
 intro K hk;have hr:=BG tm x;simp only[Aw,h] at hk;split at hk
 case h_2=>exact False.elim hk
 rename_i ag s u h3;split at hk
 case isFalse=>exact False.elim hk
 rename_i h5;simp only[List.map] at hk
 have h4:(sizeOf t).run P w = .ok s w:=by
  simp only[CB,Qr] at h3;obtain⟨i,hi,hs⟩:=h3;simp[sizeOf,typeInfo,hi,hs]
 have h2:(isAgg t).run P w = .ok ag w:=by
  unfold Dq at u;split at u<;>(try (cases u;done))
  .rename_i e;cases u;simp[isAgg,B1 e]
  .rename_i e;cases u;simp[isAgg,B1 e]
  .rename_i d e n1 n2
   cases u;simp only[isAgg,Sem.run_bind,B1 n2];simp
 generalize hv:a.eval x=v at *;generalize (AP x).ev st.get=X at *;simp only[aK] at hk;obtain⟨cs,hc,h7,hk⟩:=hk;obtain⟨b,off,rfl,c,q⟩:=Zm m hr hc
 have h1:∀ v',(loadVar t ⟨b,off,none⟩).run P w = .ok v' w->(execOp a.eval o).run P w = .ok (.value v') w:=by
  intro v' hp;simp[execOp,h,hv,Instr.loadAt,Instr.sureAddr,hp]
 cases ag with
 | true =>
   have hl:=run_loadCells (P:=P) w ⟨b,off,none⟩ s c (λ j hj=>by rw[Addr.add_none];exact(q j zy).1)
   refine⟨_,_,_,hk,Bu m (v':=.agg ((List.range s).map c).toArray) ?_ (h1 _ ?_)⟩
   .refine .agg _ _ _ zw (λ i hi=>?_) λ i hi=>?_
    .simp at hi
     have e:((List.range s).map c).toArray.getD i undef=c i:=by simp[Array.getD,show i<s from by omega]
     rw[e];exact(q i zy).2.1
    .simp at hi
     have e:((List.range s).map c).toArray.getD i undef=c i:=by simp[Array.getD,show i<s from by omega]
     have e2:(cs.take s).getD i .dead=cs.getD i .dead:=by
      simp only[List.getD,Un];rw[if_pos zy]
     rw[e,e2];exact(q i zy).2.2
   .simp [loadVar,h2,h4,hl]
 | false =>
   obtain rfl:s=1:=by simpa using h5
   have h0:=q 0 zy
   have e:cs.headD .dead=cs.getD 0 .dead:=by cases cs<;>rfl
   simp only[Ue,Uv] at hk;rw[e] at hk;refine⟨_,_,_,hk,Bu m h0.2.2 (h1 _ ?_)⟩;simp only[loadVar,Sem.run_bind,h2,Result.andThen_ok];have h6:w.cell? ⟨b,off,none⟩=some (c 0):=by simpa using h0.1
   simp[h6]
theorem fF (o:Oper) (t:TypeId) (x y:Operand) (h:o.op = .indexAddr t x y):Ay P np T0 M0 w0 aA st T M a w idb o:=by
 intro K hk;have hr:=BG tm x;have h5:=BG tm y;simp only[Aw,h] at hk;split at hk
 case h_3=>exact False.elim hk
 .rename_i e hu
  split at hk
  case h_2=>exact False.elim hk
  rename_i s q;simp only[List.map] at hk
  have h2:(sizeOf e).run P w = .ok s w:=by
   simp only[CB,Qr] at q;obtain⟨i,hi,hs⟩:=q;simp[sizeOf,typeInfo,hi,hs]
  generalize hv:a.eval x=v at *;generalize (AP x).ev st.get=X at *;generalize h6:a.eval y=v' at *;generalize (AP y).ev st.get=Y at *
  have key:∀ (b off len cap:Nat) (k:IntKind) (n:Int),v = .slice (some ⟨b,off,none⟩) len cap->v' = .int k n->0<=n->n<len ->
    (execOp a.eval o).run P w = .ok (.value (.pointer (some ⟨b,off+n.toNat*s,none⟩))) w:=by
   rintro b off len cap k n rfl rfl h0 hn
   simp[execOp,h,hv,h6,Instr.indexAt,asIntOf,B1 hu,h0,hn,h2,Addr.add_none]
  cases X<;>(try (simp only[aK] at hk;done))
  .rename_i s' full rows
   cases Y<;>(try (simp only[aK] at hk;done))
   rename_i u
   cases u<;>(try (simp only[aK] at hk;done))
   rename_i k n;simp only[aK] at hk;obtain⟨rfl,h0,row,h3,hk⟩:=hk;obtain rfl:=Bo h5 rfl
   cases hr with
   | vs _ _ _ _ ad cap c hf h7 hw hb h1 hh =>
     have hn:n.toNat<rows.length:=(Qu.1 h3).1;obtain⟨b,off,cells,ty,fz,rfl,h8,hT,hc⟩:=hb (by rintro rfl;simp at hn)
     have h9:=hw row (QX h3);have hd:rows.getD n.toNat []=row:=by simp[List.getD,h3]
     refine⟨_,_,_,hk,Bu m (.pv _ _ b (off+n.toNat*s') cells ty fz (λ j=>c n.toNat j) h8 ?_ (λ j hj=>hc _ _ hn zy) (λ j hj=>h1 _ _ hn zy) λ j hj=>?_) (key b off rows.length cap k n rfl rfl h0 zy)⟩
     .rw [h9]
      have:(n.toNat+1)*s'<=rows.length*s':=Qy _ hn;rw[QJ] at this;omega
     .have:=hh n.toNat j hn zy
      rwa [hd] at this
  .rename_i i off len
   cases Y<;>(try (simp only[aK] at hk;done))
   rename_i u
   cases u<;>(try (simp only[aK] at hk;done))
   rename_i k n;simp only[aK] at hk;obtain⟨h0,hn,⟨en,he,hs⟩,hk⟩:=hk;obtain rfl:=Bo h5 rfl
   cases hr with
   | rs _ _ _ _ cap ad g hg hz hl hm hb =>
     obtain⟨g',ho,ent⟩:=m.hs.ent i en he;obtain rfl:=Qc (hg.symm.trans ho)
     cases h4:g.blk with
     | none=>have:=(hm h4).2;omega
     | some b =>
       obtain⟨ha,cells,ty,fz,h8,hy⟩:=hb b h4
       have hq:ad=some ⟨b,g.base+off*g.s,none⟩:=by
        rcases ha with ha | ha
        .omega
        .exact ha
       subst hq;refine⟨_,_,_,hk,?_⟩;have e1:=key b (g.base+off*g.s) len cap k n rfl rfl h0 hn
       have e2:g.base+off*g.s+n.toNat*s=g.base+(off+n.toNat)*g.s+0:=by
        rw[ent.s,hs,QJ];omega
       rw[e2] at e1;rw[e1];exact⟨T,M,m.wider λ _ h=>.inl h,Ag.refl _ _,λ _ _ h=>h,.pt _ _ _ _ g b hg hz h4⟩
 .rename_i l e hu
  split at hk
  case h_2=>exact False.elim hk
  rename_i s q;simp only[List.map] at hk
  have h2:(sizeOf e).run P w = .ok s w:=by
   simp only[CB,Qr] at q;obtain⟨i,hi,hs⟩:=q;simp[sizeOf,typeInfo,hi,hs]
  generalize hv:a.eval x=v at *;generalize (AP x).ev st.get=X at *;generalize h6:a.eval y=v' at *;generalize (AP y).ev st.get=Y at *
  have key:∀ (b off:Nat) (k:IntKind) (n:Int),v = .pointer (some ⟨b,off,none⟩)->v' = .int k n->0<=n->n<l ->
    (execOp a.eval o).run P w = .ok (.value (.pointer (some ⟨b,off+n.toNat*s,none⟩))) w:=by
   rintro b off k n rfl rfl h0 hn
   simp[execOp,h,hv,h6,Instr.indexAt,asIntOf,B1 hu,h0,hn,h2,Addr.add_none,Instr.sureAddr]
  cases X<;>(try (simp only[aK] at hk;done))
  .rename_i cs
   cases Y<;>(try (simp only[aK] at hk;done))
   rename_i u
   cases u<;>(try (simp only[aK] at hk;done))
   rename_i k n;simp only[aK] at hk;obtain⟨h0,hn,h7,hk⟩:=hk;obtain rfl:=Bo h5 rfl;have a0:n.toNat*s<=cs.length:=QF (Qy s (show n.toNat<=l by omega)) h7
   cases hr with
   | pv _ _ b off cells ty fz c hb ht hx h1 hh =>
     refine⟨_,_,_,hk,Bu m (.pv _ _ b (off+n.toNat*s) cells ty fz (λ j=>c (n.toNat*s+j)) hb zw (λ j hj=>?_) (λ j hj=>?_) λ j hj=>?_) (key b off k n rfl rfl h0 hn)⟩
     .rw [UG];exact hx _ (by simp at hj;omega)
     .exact h1 _ (by simp at hj;omega)
     .have:=hh (n.toNat*s+j) (by simp at hj;omega)
      simpa [List.getD] using this
  .rename_i i kk j
   cases Y<;>(try (simp only[aK] at hk;done))
   rename_i u
   cases u<;>(try (simp only[aK] at hk;done))
   rename_i k n;simp only[aK] at hk;obtain⟨h0,hn,hk⟩:=hk;obtain rfl:=Bo h5 rfl
   cases hr with
   | pt _ _ _ _ g b hg hz hb =>
     refine⟨_,_,_,hk,Bu m (.pt _ _ _ _ g b hg hz hb) ?_⟩;rw[key b _ k n rfl rfl h0 hn,UG (g.base+kk*g.s)]
theorem aW (o:Oper) (t:TypeId) (x y:Operand) (h:o.op = .index t x y):Ay P np T0 M0 w0 aA st T M a w idb o:=by
 intro K hk;have hr:=BG tm x;have h3:=BG tm y;simp only[Aw,h] at hk;split at hk
 case h_3=>exact False.elim hk
 case h_2 =>
  rename_i l e hu;split at hk
  case h_2=>exact False.elim hk
  rename_i u h4;simp only[List.map] at hk
  have h5:(sizeOf e).run P w = .ok 1 w:=by
   simp only[CB,Qr] at h4;obtain⟨i,hi,hs⟩:=h4;simp[sizeOf,typeInfo,hi,hs]
  have h6:(isAgg e).run P w = .ok false w:=by
   unfold Dq at u;split at u<;>(try (cases u;done))
   .rename_i d e n1 n2
    simp only[isAgg,Sem.run_bind,B1 n2];simp
  generalize hv:a.eval x=v at *;generalize (AP x).ev st.get=X at *;generalize h2:a.eval y=v' at *;generalize (AP y).ev st.get=Y at *
  cases X<;>cases Y<;>(try (simp only[aK] at hk;done))
  rename_i cs q
  cases q<;>(try (simp only[aK] at hk;done))
  rename_i k n;simp only[aK] at hk;obtain⟨h0,hn,ha,hk⟩:=hk;obtain rfl:=Bo h3 rfl
  cases hr with
  | agg _ _ us hl h1 hh =>
    have h8:n.toNat<cs.length:=zy
    have h7:n.toNat<us.size:=zy
    refine⟨_,_,_,hk,Bu m (v':=us.getD n.toNat undef) (hh _ h8) ?_⟩;simp[execOp,h,hv,h2,Instr.index,asIntOf,B1 hu,h0,hn,h5,part,h6,h7,Array.getD]
 rename_i hu;simp only[List.map] at hk;generalize hv:a.eval x=v at *;generalize (AP x).ev st.get=X at *;generalize h2:a.eval y=v' at *;generalize (AP y).ev st.get=Y at *
 cases X<;>cases Y<;>(try (simp only[aK] at hk;done))
 rename_i p q
 cases p<;>(try (simp only[aK] at hk;done))
 cases q<;>(try (simp only[aK] at hk;done))
 rename_i s k n;simp only[aK] at hk;obtain⟨h0,c,hc,hk⟩:=hk;obtain rfl:=Bo hr rfl;obtain rfl:=Bo h3 rfl;refine⟨_,_,_,hk,Bu m (.sc _ _ rfl) ?_⟩
 have h9:s[n.toNat]? = some c:=by
  have hi:n.toNat<s.data.toList.length:=(Qu.1 hc).1;have hi':n.toNat<s.size:=by simpa using hi
  have h1:=(Qu.1 hc).2;rw[getElem?_pos s n.toNat hi']
  congr 1
 simp[execOp,h,hv,h2,Instr.index,asIntOf,B1 hu,h0,h9]
end
section
variable {P:Program} {np:Nat} {T0:Nat->Nat} {M0:GM} {w0:World} {aA:Nat->Prop} {st:St} {T:Nat->Nat} {M:GM} {a:Act} {w:World} {idb:Nat}
theorem iJ {t e:TypeId} {s:Nat} (hu:P.underlying t=some (.slice e)) (hs:(sizeOf e).run P w = .ok s w) (ad:Option Addr) (len cap l r m:Nat) (q:l<=r) (u:r<=m) (h0:m<=cap) (lo hi mx:Option Value) (h1:lo=some (.int .i64 l)∨(lo=none/\l=0)) (h2:hi=some (.int .i64 r)∨(hi=none/\r=len/\mx=none)) (h3:mx=some (.int .i64 m)∨(mx=none/\m=cap)) :
  (Instr.sliceAt t (.slice ad len cap) lo hi mx).run P w = .ok (.slice (if m=l then ad else ad.map (·.add (l*s))) (r - l) (m - l)) w:=by
 have sb:∀ (k y:Nat) code,k<=y->(Instr.sliceBound (.int .i64 (k:Nat)) y code).run P w = .ok k w:=by
  intro k y code hk;have:(k:Int)<=y:=zy
  simp[Instr.sliceBound,asIntOf,this]
 have h4:r<=cap:=zy
 rcases h1 with rfl | ⟨rfl,rfl⟩<;>rcases h2 with rfl | ⟨rfl,rfl,rfl⟩<;>(try (rcases h3 with rfl | ⟨rfl,rfl⟩))<;>(try (cases h3;done)) <;>
  simp_all [Instr.sliceAt,B1 hu,Instr.slice,Instr.sliceBounds]
variable (tm:∀ i,AX T w M (st.get i) (a.tmps.getD i undef)) (m:BF np T0 M0 w0 aA st.hp T M w)
include tm m
theorem pK (o:Oper) (t:TypeId) (x:Operand) (lo hi mx:Option Operand) (h:o.op = .slice t x lo hi mx):Ay P np T0 M0 w0 aA st T M a w idb o:=by
 intro K hk;have hr:=BG tm x;simp only[Aw,h] at hk;split at hk
 case h_2=>exact False.elim hk
 rename_i e hu;split at hk
 case h_2=>exact False.elim hk
 rename_i s a2
 have a3:(sizeOf e).run P w = .ok s w:=by
  simp only[CB,Qr] at a2;obtain⟨i,hi,hs⟩:=a2;simp[sizeOf,typeInfo,hi,hs]
 simp only[Q6,Uu,Qp] at hk;generalize hv:a.eval x=v at *;generalize (AP x).ev st.get=X at *;unfold aK at hk;simp only at hk;obtain⟨l,r,mm,n,hn,a9,h0,h9,hd,a4,hk⟩:=hk;have one:∀ (y:Operand) (k:Nat),(AP y).ev st.get=AV.I k->a.eval y = .int .i64 k:=λ y k hy=>Bo (BG tm y) hy
 have bnds:(lo.map a.eval=some (.int .i64 l)∨(lo.map a.eval=none/\l=0))/\(hi.map a.eval=some (.int .i64 r)∨(hi.map a.eval=none/\r=n/\mx.map a.eval=none))/\(mx.map a.eval=some (.int .i64 mm)∨mx.map a.eval=none):=by
  cases lo<;>cases hi<;>cases mx<;>simp only[Option.isSome_none,Option.isSome_some,Uo,Option.map_none,Option.toList_some,Option.toList_none,Q0,Uu,Q6,Qp,UN,Ue,Uv,UM,forall_const,reduceCtorEq,false_and,or_false,false_or,true_and,and_true,List.cons.injEq,imp_self,Qq,implies_true] at h0 h9 hd a4 ⊢
  all_goals first
   | exact⟨h9,hd⟩
   | exact absurd a4 id
   | exact⟨h9,one _ _ h0⟩
   | exact⟨h9,one _ _ h0.1,one _ _ h0.2⟩
   | exact⟨one _ _ h0,hd⟩
   | exact⟨one _ _ h0.1,one _ _ h0.2⟩
   | exact⟨one _ _ h0.1,one _ _ h0.2.1,one _ _ h0.2.2⟩
 obtain⟨b1,b2,b3⟩:=bnds;have he:(mx.map a.eval).isSome=mx.isSome:=by cases mx<;>rfl
 have run2:∀ ad cap mc,v = .slice ad n cap->r<=mc->mc<=cap->(mx.isSome=true->mc=mm)->(mx.isSome=false->mc=cap)->(execOp a.eval o).run P w = .ok (.value (.slice (if mc=l then ad else ad.map (·.add (l*s))) (r - l) (mc - l))) w:=by
  rintro ad cap mc rfl h1 h2 h3 h4
  have:=iJ hu a3 ad n cap l r mc a9 h1 h2 _ _ _ b1 b2 (by
   cases hm:mx.isSome with
   | true =>
     rcases b3 with b3 | b3
     .exact .inl (by rw[b3,h3 hm])
     .have:=congrArg Option.isSome b3
      rw[he,hm] at this
      cases this
   | false =>
     refine .inr ⟨?_,h4 hm⟩;have:=he;rw[hm] at this
     simpa using this)
  simp[execOp,h,hv,this]
 have run:∀ ad cap,n<=cap->r<=n->(mx.isSome=true->mm=r)->v = .slice ad n cap->(execOp a.eval o).run P w = .ok (.value (.slice (if (if mx.isSome then r else cap)=l then ad else ad.map (·.add (l*s))) (r - l) ((if mx.isSome then r else cap) - l))) w:=by
  intro ad cap hc h5 h7 ag;refine run2 ad cap _ ag ?_ ?_ (λ h=>by rw[if_pos h,h7 h]) (λ h=>by rw[h];rfl)
  .split<;>omega
  .split<;>omega
 cases X<;>(try (exact False.elim hk))
 .rename_i u
  split at hk<;>(try (exact False.elim hk))
  .rename_i h1;cases h1
  .rename_i h1;cases h1
  .rename_i h1;cases h1
  .rename_i h1
   cases h1;obtain⟨h5,h7,hk⟩:=hk;obtain rfl:=Bo hr rfl;simp only[lenOf,Qq] at hn;subst hn;obtain rfl:r=0:=zy
   obtain rfl:l=0:=zy
   refine⟨_,_,_,hk,Bu m (.sc _ _ rfl) ?_⟩;rw[run none 0 (Qk _) h5 h7 rfl];simp
 .rename_i s' full rows
  obtain⟨h5,h7,rfl,hk⟩:=hk;simp only[lenOf,Qq] at hn;subst hn
  cases hr with
  | vs _ _ _ _ ad cap c hf ai hw hb h1 hh =>
    have q:((rows.drop l).take (r - l)).length=r - l:=zw
    have run':=run ad cap ai h5 h7 rfl;refine⟨_,_,_,hk,?_⟩;rw[run'];refine⟨T,M,m.wider λ _ h=>.inl h,Ag.refl _ _,λ _ _ h=>h,?_⟩
    suffices hS:AX T w M (.vs s' (mx.isSome || full && !hi.isSome) ((rows.drop l).take (r - l))) (.slice (if (if mx.isSome then r else cap)=l then ad else ad.map (·.add (l*s'))) ((rows.drop l).take (r - l)).length ((if mx.isSome then r else cap) - l)) by
     rwa [q] at hS
    refine .vs _ _ _ _ _ _ (λ i j=>c (l+i) j) (λ h6=>?_) ?_ (λ row a5=>hw row (UC (QR a5))) (λ an=>?_) (λ i j hi hj=>h1 _ _ (by rw[q] at hi;omega) hj) λ i j hi hj=>?_
    .rw [q]
     cases au:mx.isSome with
     | true=>simp
     | false =>
       simp only[au,Bool.false_or,QD,UO] at h6;have:=hf h6.1;have:=hd h6.2;simp;omega
    .rw [q]
     split<;>omega
    .have b4:0<r - l:=by
      rw[<- q];exact U6.2 an
     obtain⟨b,off,cells,ty,fz,rfl,h8,hT,hc⟩:=hb (by rintro rfl;simp at h5;omega)
     refine⟨b,off+l*s',cells,ty,fz,?_,h8,?_,λ i j hi hj=>?_⟩
     .rw [if_neg (by split<;>omega)]
      simp[Addr.add_none]
     .rw [q]
      have:(l+(r - l))*s'<=rows.length*s':=Qy _ zy
      rw[QJ] at this;omega
     .rw [q] at hi
      have:=hc (l+i) j zy hj
      rw[QJ] at this;rw[show off+l*s'+i*s'+j=off+(l*s'+i*s')+j by omega]
      exact this
    .rw [q] at hi
     have:=hh (l+i) j zy hj
     have e:((rows.drop l).take (r - l)).getD i []=rows.getD (l+i) []:=by
      simp only[List.getD,Un,Q9];rw[if_pos hi]
     rw[e];exact this
 .rename_i i off len
  obtain⟨h5,a6,⟨en,ho,hs⟩,hk⟩:=hk;simp only[lenOf,Qq] at hn;subst hn
  cases hr with
  | rs _ _ _ _ cap ad g hg hz hl hq hb =>
    obtain⟨g',ht,ent⟩:=m.hs.ent i en ho;obtain rfl:=Qc (hg.symm.trans ht);have run':=run ad cap hl h5 (λ h=>by rw[a6] at h;cases h) rfl
    refine⟨_,_,_,hk,?_⟩;rw[run'];simp only[a6,Ue,Uv];refine⟨T,M,m.wider λ _ h=>.inl h,Ag.refl _ _,λ _ _ h=>h,.rs _ _ _ _ _ _ g hg hz zy (λ hx=>?_) λ b a0=>?_⟩
    .obtain ⟨h1,h2⟩:=hq hx
     omega
    .obtain ⟨ha,cells,ty,fz,h8,a7⟩:=hb b a0
     refine⟨?_,cells,ty,fz,h8,?_⟩
     .by_cases a1:cap=l
      .exact .inl zy
      .rw [if_neg a1]
       rcases ha with ha | ha
       .omega
       .subst ha
        right
        simp only[Uo,Addr.add_none];rw[<- hs,<- ent.s,QJ,UG]
     .have:(l+(cap - l))*g.s=cap*g.s:=by rw[show l+(cap - l)=cap by omega]
      rw[QJ] at this;rw[QJ];omega
 .rename_i i off len c
  obtain⟨av,b0,a8,⟨en,ho,hs⟩,hk⟩:=hk;simp only[lenOf,Qq] at hn;subst hn
  cases hr with
  | rk _ _ _ _ _ ad g hg hz hl hq hb =>
    obtain⟨g',ht,ent⟩:=m.hs.ent i en ho;obtain rfl:=Qc (hg.symm.trans ht);have run':=run2 ad c mm rfl av b0 (λ _=>rfl) a8;refine⟨_,_,_,hk,?_⟩;rw[run'];refine⟨T,M,m.wider λ _ h=>.inl h,Ag.refl _ _,λ _ _ h=>h,.rk _ _ _ _ _ _ g hg hz zy (λ hx=>?_) λ b a0=>?_⟩
    .obtain ⟨h1,h2⟩:=hq hx
     omega
    .obtain ⟨ha,cells,ty,fz,h8,a7⟩:=hb b a0
     refine⟨?_,cells,ty,fz,h8,?_⟩
     .by_cases a1:mm=l
      .exact .inl zy
      .rw [if_neg a1]
       rcases ha with ha | ha
       .omega
       .subst ha
        right
        simp only[Uo,Addr.add_none];rw[<- hs,<- ent.s,QJ,UG]
     .have:(l+(mm - l))*g.s<=c*g.s:=Qy _ zy
      rw[QJ] at this;rw[QJ];omega
theorem nI (o:Oper) (c:Call) (h:o.op = .call c) (hb:c.callee = .builtin .cap):Ay P np T0 M0 w0 aA st T M a w idb o:=by
 intro K hk;simp only[Aw,h,hb] at hk;split at hk
 case h_2=>exact False.elim hk
 rename_i t x ht hx;have q:c.argTypes = #[t]:=by rw[<- QL (xs:=c.argTypes),ht]
 have u:c.args = #[x]:=by rw[<- QL (xs:=c.args),hx]
 have hr:=BG tm x;split at hk
 case h_2=>exact False.elim hk
 rename_i e hu;simp only[List.map] at hk;generalize hv:a.eval x=v at *;generalize (AP x).ev st.get=X at *
 by_cases hX:X = .nilS
 .subst hX
  simp only[AV.nilS,aK] at hk;obtain rfl:=Bo hr rfl;refine⟨_,_,_,hk,Bu m (.sc _ _ rfl) ?_⟩;simp[execOp,h,resolve,hb,invoke,builtin,Builtin.cap_,q,u,hv,B1 hu,goInt]
 cases X<;>(try (simp only[aK] at hk;done))
 case sc v0 =>
  exfalso
  cases v0<;>(try (simp only[aK] at hk;done))
  rename_i ad l cc
  cases ad<;>cases l<;>cases cc<;>(try (simp only[aK] at hk;done))
  exact hX rfl
 simp only[aK] at hk
 cases hr;refine⟨_,_,_,hk,Bu m (.sc _ _ rfl) ?_⟩;simp[execOp,h,resolve,hb,invoke,builtin,Builtin.cap_,q,u,hv,B1 hu,goInt]
end
def Ec (T:Nat->Nat) (w:World) (M:GM) (cs:List AV) (us:Array Value):Prop :=
 us.size=cs.length /\ ∀ i,i<cs.length->(us.getD i undef).oneCell'=true/\AX T w M (cs.getD i .dead) (us.getD i undef)
theorem OT (off:Nat):∀ (l:List Value) (k:Nat) (cells:Array Value),
  ((l.zipIdx k).foldl (λ cs p=>cs.setIfInBounds (off+p.2) p.1) cells).size=cells.size /\
  ∀ i,i<cells.size->((l.zipIdx k).foldl (λ cs p=>cs.setIfInBounds (off+p.2) p.1) cells)[i]? = if off+k<=i/\i<off+k+l.length then l[i - (off+k)]? else cells[i]?
 | [],k,cells=>⟨rfl,λ i hi=>zw⟩
 | v::l,k,cells=>by
   have ih:=OT off l (k+1) (cells.setIfInBounds (off+k) v);simp only[List.zipIdx_cons,List.foldl_cons];refine⟨by rw[ih.1];simp,λ i hi=>?_⟩
   rw[ih.2 i (by simpa using hi)]
   by_cases h:i=off+k
   .subst h
    rw[if_neg zy,if_pos zz]
    simp[hi]
   .by_cases h2:off+(k+1)<=i/\i<off+(k+1)+l.length
    .rw [if_pos h2,if_pos zw]
     rw[show i - (off+k)=(i - (off+(k+1)))+1 by omega]
     simp
    .rw [if_neg h2,if_neg zw,Array.getElem?_setIfInBounds_ne zy]
theorem Eo {l:Array Value} {i:Nat} {x:Value} (h:l[i]? = some x):l.getD i undef=x:=by
 simp[Qx,h]
theorem wH {T w M} {cells:List AV} {us:Array Value} (hC:Ec T w M cells us) {cs:List AV} {v:Value} (hv:v.cells.size=cs.length) (h0:∀ j,j<cs.length->(v.cells.getD j undef).oneCell'=true/\AX T w M (cs.getD j .dead) (v.cells.getD j undef)) {off:Nat} (ho:off+cs.length<=cells.length) :
  Ec T w M (cells.take off++cs++cells.drop (off+cs.length)) (v.cells.zipIdx.foldl (λ cs (c,j)=>cs.setIfInBounds (off+j) c) us):=by
 have e:v.cells.zipIdx.foldl (λ cs (c,j)=>cs.setIfInBounds (off+j) c) us=(v.cells.toList.zipIdx 0).foldl (λ cs p=>cs.setIfInBounds (off+p.2) p.1) us:=by
  rw[<- Array.foldl_toList,Array.toList_zipIdx]
 rw[e];obtain⟨h1,h2⟩:=OT off v.cells.toList 0 us;have q:(cells.take off++cs++cells.drop (off+cs.length)).length=cells.length:=zw
 refine⟨by rw[h1,q];exact hC.1,λ i hi=>?_⟩
 rw[q] at hi;have h3:=h2 i (by rw[hC.1];exact hi)
 simp only[QY,Uk,hv] at h3
 by_cases u:off<=i/\i<off+cs.length
 .rw [if_pos u] at h3
  have hj:i - off<v.cells.size:=zy
  have e1:v.cells.toList[i - off]? = some (v.cells.getD (i - off) undef):=by simp[Array.getD,hj]
  rw[e1] at h3;rw[Eo h3]
  have e2:(cells.take off++cs++cells.drop (off+cs.length)).getD i .dead=cs.getD (i - off) .dead:=by
   simp only[List.getD];rw[QG,Qs zw,QC zw]
   simp
   congr 2
   omega
  rw[e2];exact h0 (i - off) zy
 .rw [if_neg u] at h3
  have hi':i<us.size:=by rw[hC.1];exact hi
  have e1:us[i]? = some (us.getD i undef):=by simp[Array.getD,hi']
  rw[e1] at h3;rw[Eo h3]
  have e2:(cells.take off++cs++cells.drop (off+cs.length)).getD i .dead=cells.getD i .dead:=by
   simp only[List.getD]
   by_cases h4:i<off
   .rw [QG,QC zw]
    simp[h4]
   .rw [Qs zw]
    simp only[Q9,Qm,QU]
    congr 2
    omega
  rw[e2];exact hC.2 i hi
theorem Oa {T w M} (q:Nat->Option (Nat × Nat)):∀ (ps:List (Nat × Value)) (pl:List (Nat × Nat)) (xs:List AV) (cells:List AV) (us:Array Value) (out:List AV),
  Ec T w M cells us->ps.mapM (λ p=>q p.1)=some pl->xs.length=ps.length->(∀ i,i<xs.length->AX T w M (xs.getD i .dead) ((ps.map (·.2)).getD i undef))->F4 cells pl xs=some out ->
  ∃ us',Instr.fill q us ps=some us'/\Ec T w M out us'
 | [],pl,xs,cells,us,out,hC,hp,hl,hr,hf=>by
   simp at hp;subst hp;have:xs=[]:=QK hl;subst this;simp only[F4,Qq] at hf;subst hf;exact⟨us,rfl,hC⟩
 | (i,v)::ps,pl,xs,cells,us,out,hC,hp,hl,hr,hf=>by
   cases xs with
   | nil=>simp at hl
   | cons x xs =>
   simp only[List.mapM_cons,Option.bind_eq_bind,Option.pure_def,Uh] at hp;obtain⟨⟨off,size⟩,h1,pl',h2,h3⟩:=hp;simp only[Qq] at h3;subst h3;simp only[F4] at hf;split at hf
   case h_2=>cases hf
   rename_i cs u;split at hf
   case isFalse=>cases hf
   rename_i hc;have h0:=hr 0 zz
   simp only[Us,Qp] at h0;obtain⟨e1,e2⟩:=LA h0 u;have st:=wH hC e1 e2 (off:=off) zy
   rw[hc.1] at st;obtain⟨us',h4,h5⟩:=Oa q ps pl' xs _ _ out st h2 (by simpa using hl) (λ k hk=>by have:=hr (k+1) (by simpa using hk);simpa using this) hf
   refine⟨us',?_,h5⟩;simp only[Instr.fill,h1];rw[if_neg]
   .exact h4
   .simp only[ne_eq,UY,Qf,not_or,Decidable.not_not]
    have:=hC.1;omega
section
variable {P:Program} {np:Nat} {T0:Nat->Nat} {M0:GM} {w0:World} {aA:Nat->Prop} {st:St} {T:Nat->Nat} {M:GM} {a:Act} {w:World} {idb:Nat}
theorem Gb {t:TypeId} {z:List Value} (h:GH P t=some z):∃ i zv,P.info? t=some i/\i.zero=some zv/\zv.cells.toList=z/\z.length=i.size /\ ∀ v∈z,v.oneCell'=true:=by
 unfold GH at h;split at h
 case h_2=>cases h
 rename_i i hi;split at h
 case h_2=>cases h
 rename_i zv hz;split at h
 case isFalse=>cases h
 rename_i hc;simp only[Qq] at h;subst h;simp only[QD,beq_iff_eq] at hc;refine⟨i,zv,hi,hz,rfl,by simpa using hc.2,λ v hv=>?_⟩
 exact UA.1 hc.1 v hv
theorem PB {T w M} {z:List Value} (h:∀ v∈z,v.oneCell'=true):Ec T w M (z.map .sc) z.toArray:=by
 refine⟨zz,λ i hi=>?_⟩
 simp only[QB] at hi;have e:z.toArray.getD i undef=z[i]:=by simp[Array.getD,hi]
 rw[e,OL _ _ _ hi];exact⟨h _ (Qj hi),.sc _ _ (h _ (Qj hi))⟩
variable (tm:∀ i,AX T w M (st.get i) (a.tmps.getD i undef)) (m:BF np T0 M0 w0 aA st.hp T M w) (aB:∀ k,k<8->¬ aA (idb+k)) (aC:np<=idb)
include tm m
omit tm m in
theorem YL (s:Nat):∀ ps:List (Nat × Value),ps.mapM (λ p=>(λ i=>some (i*s,s):Nat->Option (Nat × Nat)) p.1)=some (ps.map λ p=>(p.1*s,s))
 | []=>rfl
 | p::ps=>by
   rw[List.mapM_cons,YL s ps];rfl
theorem jU (o:Oper) (t:TypeId) (ps:Array (Nat × Operand)) (h:o.op = .build t ps):Ay P np T0 M0 w0 aA st T M a w idb o:=by
 intro K hk;simp only[Aw,h] at hk;split at hk
 case h_3=>exact False.elim hk
 case h_2 =>
  rename_i z n e hz hu;split at hk
  case h_2=>exact False.elim hk
  rename_i ie h4;simp only[Ub,aK] at hk;obtain⟨cs,h0,hk⟩:=hk;obtain⟨i,zv,hi,h1,h2,-,q⟩:=Gb hz
  have h3:Ec T w M (z.map .sc) zv.cells:=by
   have:=PB (T:=T) (w:=w) (M:=M) q;subst h2
   rwa [QL] at this
  have u:(ps.toList.map λ (x:Nat × Operand)=>(x.1,a.eval x.2)).mapM (λ p=>(λ i=>some (i*ie.size,ie.size):Nat->Option (Nat × Nat)) p.1)=some (ps.toList.map λ p=>(p.1*ie.size,ie.size)):=by
   rw[YL,Ub];rfl
  obtain⟨us,hf,hC⟩:=Oa (T:=T) (w:=w) (M:=M) (λ i=>some (i*ie.size,ie.size)) (ps.toList.map λ (x:Nat × Operand)=>(x.1,a.eval x.2)) _ _ _ _ cs h3 u zz (λ k hk=>by
   simp only[QB,Uk] at hk;have e1:(ps.toList.map ((λ x=>x.ev st.get)∘λ x=>AP x.2)).getD k .dead=(AP ps[k].2).ev st.get:=by simp[List.getD,hk]
   have e2:((ps.toList.map λ (x:Nat × Operand)=>(x.1,a.eval x.2)).map (·.2)).getD k undef=a.eval ps[k].2:=by simp[List.getD,hk]
   rw[e1,e2]
   exact BG tm _) h0
  refine⟨_,_,_,hk,Bu m (v':=.agg us) (.agg _ _ _ hC.1 (λ i hi=>(hC.2 i hi).1) λ i hi=>(hC.2 i hi).2) ?_⟩
  have hb:=run_build (P:=P) w t (ps.map λ (i,x)=>(i,a.eval x)) us (by
   unfold Program.built;simp only[hi,hu,h1,h4]
   simpa using hf)
  simp only[execOp,h,Sem.run_bind,hb,Result.andThen_ok,Sem.run_pure]
 rename_i z fs hz hu;split at hk
 case h_2=>exact False.elim hk
 rename_i places hpl;split at hk
 case h_2=>exact False.elim hk
 rename_i pl h5;simp only[Ub,aK] at hk;obtain⟨cs,h0,hk⟩:=hk;obtain⟨i,zv,hi,h1,h2,-,q⟩:=Gb hz
 have h3:Ec T w M (z.map .sc) zv.cells:=by
  have:=PB (T:=T) (w:=w) (M:=M) q;subst h2
  rwa [QL] at this
 have u:(ps.toList.map λ (x:Nat × Operand)=>(x.1,a.eval x.2)).mapM (λ p=>places[p.1]?)=some pl:=by
  rw[List.mapM_map];exact h5
 obtain⟨us,hf,hC⟩:=Oa (T:=T) (w:=w) (M:=M) (places[·]?) (ps.toList.map λ (x:Nat × Operand)=>(x.1,a.eval x.2)) pl _ _ _ cs h3 u zz (λ k hk=>by
  simp only[QB,Uk] at hk;have e1:(ps.toList.map ((λ x=>x.ev st.get)∘λ x=>AP x.2)).getD k .dead=(AP ps[k].2).ev st.get:=by simp[List.getD,hk]
  have e2:((ps.toList.map λ (x:Nat × Operand)=>(x.1,a.eval x.2)).map (·.2)).getD k undef=a.eval ps[k].2:=by simp[List.getD,hk]
  rw[e1,e2]
  exact BG tm _) h0
 refine⟨_,_,_,hk,Bu m (v':=.agg us) (.agg _ _ _ hC.1 (λ i hi=>(hC.2 i hi).1) λ i hi=>(hC.2 i hi).2) ?_⟩
 have hb:=run_build (P:=P) w t (ps.map λ (i,x)=>(i,a.eval x)) us (by
  unfold Program.built;simp only[hi,hu,h1,hpl]
  simpa using hf)
 simp only[execOp,h,Sem.run_bind,hb,Result.andThen_ok,Sem.run_pure]
include aB aC
omit tm in
theorem Gn {e:AD} {cells:Array Value} {ty:TypeId} {s:Sem Next} {v:AV} {v':Value} {w1:World} {fz:Nat × Nat} (hs:s.run P w = .ok (.value v') w1) (hh:w1.heap=w.heap.push (.cells cells ty fz)) (os:w1.os=w.os) (tape:w1.tape=w.tape)
  (output:w1.output=w.output) (h5:e.s≠0) (ro:e.ro<=e.rows.length) (wide:∀ row∈e.rows,row.length=e.s) (q:e.rows.length*e.s<=cells.size)
  (hc:∀ i j,i<e.rows.length->j<e.s -> ∃ v,cells[i*e.s+j]? = some v/\v.oneCell'=true/\AX T w M ((e.rows.getD i []).getD j .dead) v)
  (up:List (Nat × Option AD)) (u:AQ up idb=some (some e)) (h0:∀ i x,i≠idb->AQ up i=some x->x=none)
  (hr:∀ M':GM,M' idb=some ⟨some w.heap.size,0,e.s,false⟩->AX T w1 M' v v') (hfz:GD e.s cells.size fz:=by exact .inl rfl) :
  Dm P np T0 M0 w0 aA idb (st.upd up).hp T M w v (s.run P w):=by
 rw[hs]
 obtain⟨M',h1,h2,h3,h4⟩:=m.new (aB 0 zy) aC hh os tape output e h5 ro wide q hc (hp':=(st.upd up).hp) (by rw[St.hp_upd,QY,u];rfl) (λ i e' hi he=>by
  rw[St.hp_upd] at he;rw[QY] at hi
  cases hl:AQ up i with
  | none=>rw[hl] at he;exact he
  | some x=>rw[hl,h0 i x hi hl] at he;cases he) hfz
 exact⟨T,M',h3.wider (λ i hi=>hi.elim .inl λ hi=>.inr zy),h4,h2,hr M' h1⟩
omit tm in
theorem nG (o:Oper) (t:TypeId) (h:o.op = .alloc t):Ay P np T0 M0 w0 aA st T M a w idb o:=by
 intro K hk;simp only[Aw,h] at hk;split at hk
 case h_2=>exact False.elim hk
 rename_i y0 z0 hz;obtain⟨z,h0⟩:=AR (y0::z0);rw[<- h0] at hz hk;have h1:z.length≠0:=by rw[h0];simp
 simp only[List.map,aK] at hk;obtain⟨i,zv,hi,h3,u,-,h2⟩:=Gb hz;have hC:=PB (T:=T) (w:=w) (M:=M) h2;refine⟨_,_,_,hk,Gn m aB aC (e:={ s:=z.length,rows:=[z.map .sc] }) (w1:=w.alloc (.cells zv.cells t)) (cells:=zv.cells) (ty:=t) (v':=.pointer (some ⟨w.heap.size,0,none⟩)) ?_ rfl rfl rfl rfl h1 (Qn _) ?_ ?_ ?_ _ (by simp[AQ]) (λ i x hi hx=>by simp[AQ] at hx;omega) ?_⟩
 .simp [execOp,h,Instr.alloc,zeroValue,typeInfo,hi,h3,newVar,newRow]
 .intro row q;simp at q;subst q;simp
 .simp [<- u]
 .intro i j hi hj
  simp at hi hj;subst hi;have:=hC.2 j (by simpa using hj)
  refine⟨z.toArray.getD j undef,?_,this.1,by simpa using this.2⟩
  rw[<- u,QL];rw[<- u] at hj;simp at hj;simp[Array.getD,hj]
 .intro M' h4
  have:=λ w1=>AX.pt (T:=T) (w:=w1) M' idb 0 0 _ _ h4 h1 rfl
  simpa using this _
omit tm m aB aC in
theorem K5 {z:List Value} (u:∀ v∈z,v.oneCell'=true) {s:Nat} (hs:z.length=s) (n:Nat) (cells:Array Value) (k:Nat) (q:cells=(Array.range k).map λ i=>z.toArray[i % z.toArray.size]!) (hk:n*s<=k) :
  ∀ i j,i<(List.replicate n (z.map AV.sc)).length->j<s -> ∃ v,cells[i*s+j]? = some v/\v.oneCell'=true/\AX T w M (((List.replicate n (z.map AV.sc)).getD i []).getD j .dead) v:=by
 intro i j hi hj;simp at hi;have h0:=EO hi hj;refine⟨z[j]' zy,?_,u _ (Qj _),?_⟩
 .subst q
  rw[Array.getElem?_map,Array.getElem?_range,if_pos zy]
  simp only[Uo,Q4,hs]
  congr 1
  rw[show (i*s+j) % s=j by rw[Nat.add_comm,Nat.add_mul_mod_self_right];exact Nat.mod_eq_of_lt hj]
  simp[show j<z.length by omega]
 .have:(List.replicate n (z.map AV.sc)).getD i []=z.map AV.sc:=by simp[List.getD,hi]
  rw[this,OL _ _ _ zy]
  exact .sc _ _ (u _ (Qj _))
theorem oV (o:Oper) (t:TypeId) (x y:Operand) (h:o.op = .makeSlice t x y):Ay P np T0 M0 w0 aA st T M a w idb o:=by
 intro K hk;simp only[Aw,h] at hk;split at hk
 case h_2=>exact False.elim hk
 rename_i e hu;split at hk
 case h_2=>exact False.elim hk
 rename_i z s b hz hs hb;split at hk
 case isFalse=>exact False.elim hk
 rename_i u;simp only[List.map] at hk;obtain⟨i,zv,hi,h5,h6,hf,h3⟩:=Gb hz;have hs':i.size=s:=by simpa [CB,hi] using hs
 have h7:i.bytes=b:=by simpa [G6,hi] using hb
 have hr:=BG tm x;have h8:=BG tm y;generalize hv:a.eval x=v at *;generalize (AP x).ev st.get=X at *;generalize h9:a.eval y=v' at *;generalize (AP y).ev st.get=Y at *
 cases X<;>cases Y<;>(try (simp only[aK] at hk;done))
 rename_i p q
 cases p<;>(try (simp only[aK] at hk;done))
 cases q<;>(try (simp only[aK] at hk;done))
 rename_i k l k' c;simp only[aK] at hk;obtain⟨h0,ha,hg,hc,h1,hk⟩:=hk;obtain rfl:=Bo hr rfl;obtain rfl:=Bo h8 rfl;have run:=run_make (P:=P) w t e i zv hu hi h5 k k' l c h0 ha (by rw[h7,Int.mul_comm];omega) zy
 have h2:l.toNat*s<=c.toNat*i.size:=by rw[hs'];exact Qy _ zy
 refine⟨_,_,_,hk,Gn m aB aC (e:={ s:=s,rows:=List.replicate l.toNat (z.map .sc) }) (w1:=w.alloc (.cells (madeCells zv.cells (c.toNat*i.size)) e)) (cells:=madeCells zv.cells (c.toNat*i.size)) (ty:=e)
  (v':=.slice (some ⟨w.heap.size,0,none⟩) l.toNat c.toNat) ?_ rfl rfl rfl rfl (UJ.1 u) (Qn _) ?_ ?_ ?_ _ (by simp[AQ]) (λ i x hi hx=>by simp[AQ] at hx;omega) ?_⟩
 .simp [execOp,h,hv,h9,run]
 .intro row h4
  have:=(List.mem_replicate.1 h4).2;subst this;simp[h1]
 .simpa [size_madeCells] using h2
 .refine K5 (T:=T) (w:=w) (M:=M) h3 h1 l.toNat _ (c.toNat*i.size) ?_ h2
  rw[<- h6,QL];rfl
 .intro M' hd
  refine .rs _ _ 0 _ _ _ _ hd (UJ.1 u) zy (λ hn=>by cases hn) λ b' he=>?_
  obtain rfl:=Qc he;refine⟨.inr zz,madeCells zv.cells (c.toNat*i.size),e,(0,0),by show (w.heap.push _)[w.heap.size]? = _;simp,?_⟩
  simp[size_madeCells,hs']
theorem mO (o:Oper) (t:TypeId) (x:Operand) (h:o.op = .box t x):Ay P np T0 M0 w0 aA st T M a w idb o:=by
 intro K hk;simp only[Aw,h] at hk;split at hk
 case h_2=>exact False.elim hk
 rename_i s hz;simp only[List.map,aK] at hk;obtain⟨cs,u,hl,hk⟩:=hk;obtain⟨h1,h2⟩:=LA (BG tm x) u;refine⟨_,_,_,hk,Gn m aB aC (e:={ s:=s+1,rows:=[cs] }) (w1:=w.alloc (.cells (a.eval x).cells t)) (cells:=(a.eval x).cells) (ty:=t) (v':=.pointer (some ⟨w.heap.size,0,none⟩)) ?_ rfl rfl rfl rfl (UI s) (Qn _) ?_ ?_ ?_ _ (by simp[AQ]) (λ i x hi hx=>by simp[AQ] at hx;omega) ?_⟩
 .simp [execOp,h,Instr.box,newVar,newRow]
 .intro row q;simp at q;subst q;exact hl
 .simp;omega
 .intro i j hi hj
  simp at hi hj;subst hi;have:=h2 j zy
  refine⟨(a.eval x).cells.getD j undef,?_,this.1,by simpa using this.2⟩
  have h0:j<(a.eval x).cells.size:=zy
  simp[Array.getD,h0]
 .intro M' h3
  have:=λ w1=>AX.pt (T:=T) (w:=w1) M' idb 0 0 _ _ h3 (UI s) rfl
  simpa using this _
end
theorem V0 {S k j s i' j':Nat} (q:j'<S) (hs:j+s<=S):(k*S+j<=i'*S+j'/\i'*S+j'<k*S+j+s)↔(i'=k/\j<=j'/\j'<j+s):=by
 constructor
 .rintro ⟨h1,h2⟩
  have:i'=k:=by
   rcases Vf i' k with h | h | h
   .have:(i'+1)*S<=k*S:=Qy _ h
    rw[QJ] at this;omega
   .exact h
   .have:(k+1)*S<=i'*S:=Qy _ h
    rw[QJ] at this;omega
  subst this;exact⟨rfl,zy,zy⟩
 .rintro ⟨rfl,h1,h2⟩
  omega
theorem oJ (row cs:List AV) (j:Nat) (h:j+cs.length<=row.length):(Ax row j cs).length=row.length:=by
 unfold Ax;simp;omega
theorem Xm (row cs:List AV) (j i:Nat) (h:j+cs.length<=row.length) :
  (Ax row j cs).getD i .dead=if j<=i/\i<j+cs.length then cs.getD (i - j) .dead else row.getD i .dead:=by
 unfold Ax;simp only[List.getD]
 by_cases h1:i<j
 .rw [QG,QC zw,if_neg zy]
  simp[h1]
 .by_cases h2:i<j+cs.length
  .rw [QG,Qs zw,QC zw,if_pos zy]
   simp
   congr 2
   omega
  .rw [Qs zw,if_neg zy]
   simp only[Q9,Qm,QU]
   congr 2
   omega
theorem Jc (P:Program) (g o:Nat) (t:TypeId) (fz:Nat × Nat):∀ (vs:List Value) (i:Nat) (q:Array Value) (w:World),w.heap[g]? = some (.cells q t fz)->(fz=(0,0)∨q.size<=fz.1)->o+i+vs.length<=q.size->(∀ v∈vs,v.oneCell'=true) ->
  (storeCells ⟨g,o,none⟩ vs i).run P w = .ok () (w.setRow g (q.toList.take (o+i)++vs++q.toList.drop (o+i+vs.length)).toArray)
 | [],i,q,w,hg,_,_,_=>by
   simp only[storeCells,Q0,U7,QY,UK,QL];rw[setRow_self w g q t fz hg];rfl
 | v::rest,i,q,w,hg,hfz,hl,h1=>by
   have hi:o+i<q.size:=by simp at hl;omega
   have h0:(⟨g,o,none⟩:Addr).add i=⟨g,o+i,none⟩:=by unfold Addr.add;split<;>simp_all
   have u:w.cell? ⟨g,o+i,none⟩=some q[o+i]:=by simp[World.cell?,hg,hi]
   have h2:w.frozen? ⟨g,o+i,none⟩=false:=by
    obtain⟨lo,hi'⟩:=fz;simp only[World.frozen?,hg,Bool.and_eq_false_iff,Qd];rcases hfz with hfz | hfz
    .right;cases hfz;omega
    .left;simp only at hfz;omega
   have h3:(store ((⟨g,o,none⟩:Addr).add i) v).run P w = .ok () (w.setRow g (q.setIfInBounds (o+i) v)):=by
    rw[h0,run_store P w _ v _ (h1 v zz),u]
    simp[h2,setCell_eq_setRow w g (o+i) q t fz v hg]
   have ih:=Jc P g o t fz rest (i+1) (q.setIfInBounds (o+i) v) (w.setRow g (q.setIfInBounds (o+i) v)) (setRow_heap w g q _ t _ hg) (hfz.imp id λ h=>by simpa using h) (by simp at hl ⊢;omega) (λ x hx=>h1 x (by simp[hx]))
   simp only[storeCells,Sem.run_bind,h3,Result.andThen_ok,ih,setRow_setRow]
   congr 3
   have e:=list_seg_step q.toList (o+i) v rest (by simp at hl ⊢;omega)
   simpa [Array.toList_setIfInBounds,UG] using e
theorem GD.low {s n:Nat} {fz:Nat × Nat} (h:GD s n fz):fz=(0,0)∨n<=fz.1:=h.imp id λ h=>by rw[h.2];exact Qk _
theorem L6 (q:Array Value) (o:Nat) (vs:List Value) (h:o+vs.length<=q.size) :
  (q.toList.take o++vs++q.toList.drop (o+vs.length)).toArray.size=q.size /\
  ∀ i:Nat,(q.toList.take o++vs++q.toList.drop (o+vs.length)).toArray[i]? = if o<=i/\i<o+vs.length then vs[i - o]? else q[i]?:=by
 refine⟨zw,λ i=>?_⟩
 simp only[List.getElem?_toArray]
 by_cases h1:i<o
 .rw [QG,QC zw,if_neg zy]
  simp[h1]
 .by_cases h2:i<o+vs.length
  .rw [QG,Qs zw,QC zw,if_pos zy]
   simp
   congr 1
   omega
  .rw [Qs zw,if_neg zy]
   simp only[Q9,Qm,QU,Uk,Array.getElem?_toList]
   congr 1
   omega
section
variable {P:Program} {np:Nat} {T0:Nat->Nat} {M0:GM} {w0:World} {aA:Nat->Prop} {st:St} {T:Nat->Nat} {M:GM} {a:Act} {w:World} {idb:Nat}
variable (tm:∀ i,AX T w M (st.get i) (a.tmps.getD i undef)) (m:BF np T0 M0 w0 aA st.hp T M w) (aB:∀ k,k<8->¬ aA (idb+k)) (aC:np<=idb)
include tm m
theorem iC (o:Oper) (t:TypeId) (x y:Operand) (h:o.op = .store t x y):Ay P np T0 M0 w0 aA st T M a w idb o:=by
 intro K hk;simp only[Aw,h] at hk;split at hk
 case h_2=>exact False.elim hk
 rename_i s h8;simp only[List.map] at hk
 have h9:(sizeOf t).run P w = .ok s w:=by
  simp only[CB,Qr] at h8;obtain⟨i,hi,hs⟩:=h8;simp[sizeOf,typeInfo,hi,hs]
 have hr:=BG tm x;have hw:=BG tm y;generalize hv:a.eval x=v at *;generalize (AP x).ev st.get=X at *;generalize hx:a.eval y=v' at *;generalize (AP y).ev st.get=Y at *
 cases X<;>(try (simp only[aK] at hk;done))
 rename_i i k j;simp only[aK] at hk;obtain⟨e,row,cs,he,h0,hy,a0,hl,a5,hk⟩:=hk;obtain⟨c1,c2⟩:=LA hw a0
 cases hr with
 | pt _ _ _ _ g b hg hz hb =>
   obtain⟨g',a1,ent⟩:=m.hs.ent i e he;obtain rfl:=Qc (hg.symm.trans a1);obtain⟨cells,ty,h2,hT,h4,a2⟩:=ent.blk (ent.s ▸ hz) b hb;obtain⟨fz,h1,hfz⟩:=h2;have h5:k<e.rows.length:=(Qu.1 h0).1;have ha:=ent.wide (ent.s ▸ hz) row (QX h0);have a3:e.rows.getD k []=row:=by simp[List.getD,h0]
   have hS:g.s=e.s:=ent.s
   have hc:g.base+k*g.s+j+v'.cells.toList.length<=cells.size:=by
    have:(k+1)*e.s<=e.rows.length*e.s:=Qy _ h5;rw[QJ] at this;rw[hS];simp;omega
   have hd:=Jc P b (g.base+k*g.s+j) ty fz v'.cells.toList 0 cells w h1 hfz.low (by simpa using hc) (λ u hu=>by
    obtain⟨n,hn,rfl⟩:=Ul hu;simp at hn;have:=(c2 n zy).1
    simpa [Array.getD,hn] using this)
   simp only[QY] at hd;obtain⟨s1,s2⟩:=L6 cells (g.base+k*g.s+j) v'.cells.toList hc;have a4:v'.cells.toList.length=s:=zw
   have hf:(execOp a.eval o).run P w = .ok .skip (w.setRow b (cells.toList.take (g.base+k*g.s+j)++v'.cells.toList++cells.toList.drop (g.base+k*g.s+j+v'.cells.toList.length)).toArray):=by
    have h6:¬ (v'.cells.size≠s):=zy
    simp[execOp,h,hv,hx,Instr.storeAt,Instr.sureAddr,storeVar,h9,hd,show v'.cells.size=s by omega]
   generalize hh:(cells.toList.take (g.base+k*g.s+j)++v'.cells.toList++cells.toList.drop (g.base+k*g.s+j+v'.cells.toList.length)).toArray=cells' at *;rw[a4] at s2
   obtain⟨M',m1,m2,m3,m4⟩:=m.write (id':=i) (g':=g) (e:={ e with rows:=e.rows.set k (Ax row j cs) }) (cells':=cells') he hg hb ⟨fz,h1,hfz⟩ s1 (λ q hq=>by
     rw[s2,if_neg];have:e.ro*e.s<=k*e.s:=Qy _ hy;rw[hS];omega) (.inl ⟨rfl,rfl⟩) hb hS (ent.s ▸ hz) (by simpa using ent.ro) (λ r hr=>by
     simp only at hr;rcases List.mem_or_eq_of_mem_set hr with h | h
     .exact ent.wide (ent.s ▸ hz) r h
     .subst h;rw[oJ _ _ _ zy];exact ha) hT (by simpa using h4) (λ i' j' hi' hj=>by
     simp only[UF] at hi';simp only;rw[s2];obtain⟨u,hu,ho,hm⟩:=a2 i' j' hi' hj;have pl:=V0 (S:=e.s) (k:=k) (j:=j) (s:=s) (i':=i') hj zy
     by_cases h3:i'=k/\j<=j'/\j'<j+s
     .obtain ⟨rfl,q1,q2⟩:=h3
      rw[hS,if_pos zy]
      have q3:j' - j<cs.length:=zy
      have c3:=c2 (j' - j) q3;refine⟨v'.cells.getD (j' - j) undef,?_,c3.1,?_⟩
      .rw [show g.base+i'*e.s+j' - (g.base+i'*e.s+j)=j' - j by omega]
       have:j' - j<v'.cells.size:=zy
       simp[Array.getD,this]
      .have:(e.rows.set i' (Ax row j cs)).getD i' []=Ax row j cs:=by simp[List.getD,h5]
       rw[this,Xm _ _ _ _ zy,if_pos zy]
       exact c3.2
     .rw [hS,if_neg (by
       intro q
       exact h3 (pl.1 zy))]
      refine⟨u,hu,ho,?_⟩
      by_cases ht:i'=k
      .subst ht
       have:(e.rows.set i' (Ax row j cs)).getD i' []=Ax row j cs:=by simp[List.getD,h5]
       rw[this,Xm _ _ _ _ zy,if_neg zy]
       rwa [a3] at hm
      .have:(e.rows.set k (Ax row j cs)).getD i' []=e.rows.getD i' []:=by simp[List.getD,Ne.symm ht]
       rw[this]
       exact hm)
    (hp':=(st.upd [(i,some { e with rows:=e.rows.set k (Ax row j cs) })]).hp) (by rw[St.hp_upd];simp[AQ]) (λ i' e' h6 h7=>by
     rw[St.hp_upd] at h7;simp only[AQ,if_neg (Ne.symm h6)] at h7
     exact⟨h6,h7⟩)
   refine⟨_,_,_,hk,?_⟩;rw[hf];refine⟨T,M',m3.wider λ i' hi'=>?_,m4,m2,rfl⟩;rcases hi' with hi' | hi'
   .exact .inl hi'
   .subst hi';exact .inl (m.dom _ _ hg)
end
structure Fs (T:Nat->Nat) (w:World) (M:GM) (s:Nat) (rows:List (List AV)) (us:Array Value):Prop where
 size:us.size=rows.length*s
 wide:∀ row∈rows,row.length=s
 cell:∀ i j,i<rows.length->j<s->(us.getD (i*s+j) undef).oneCell'=true/\AX T w M ((rows.getD i []).getD j .dead) (us.getD (i*s+j) undef)
theorem Xj {us vs:Array Value} {i j:Nat} (h:us[i]? = vs[j]?):us.getD i undef=vs.getD j undef:=by
 simp only[Qx,h]
theorem qX {T w M s} {rows:List (List AV)} {us:Array Value} (hC:Fs T w M s rows us) {cs:List AV} {v:Value} (hv:v.cells.size=cs.length) (h0:∀ j,j<cs.length->(v.cells.getD j undef).oneCell'=true/\AX T w M (cs.getD j .dead) (v.cells.getD j undef)) {k:Nat} (hl:cs.length=s) (hk:k<rows.length) :
  Fs T w M s (rows.set k cs) (v.cells.zipIdx.foldl (λ cs (c,j)=>cs.setIfInBounds (k*s+j) c) us):=by
 have e:v.cells.zipIdx.foldl (λ cs (c,j)=>cs.setIfInBounds (k*s+j) c) us=(v.cells.toList.zipIdx 0).foldl (λ cs p=>cs.setIfInBounds (k*s+p.2) p.1) us:=by
  rw[<- Array.foldl_toList,Array.toList_zipIdx]
 rw[e];obtain⟨h1,h2⟩:=OT (k*s) v.cells.toList 0 us;refine⟨by rw[h1];simpa using hC.size,λ r hr=>?_,λ i j hi hj=>?_⟩
 .rcases List.mem_or_eq_of_mem_set hr with h | h
  .exact hC.wide r h
  .subst h;exact hl
 .simp only[UF] at hi
  have h4:=EO hi hj;have h3:=h2 (i*s+j) (by rw[hC.size];exact h4)
  simp only[QY,Uk,hv,hl] at h3;have pl:=V0 (S:=s) (k:=k) (j:=0) (s:=s) (i':=i) hj zy
  simp only[QY,Qn,Uc,true_and] at pl
  by_cases u:i=k
  .subst u
   rw[if_pos zy,show i*s+j - i*s=j by omega,Array.getElem?_toList] at h3
   rw[Xj h3];have:(rows.set i cs).getD i []=cs:=by simp[List.getD,hi]
   rw[this];exact h0 j zy
  .rw [if_neg (λ q=>u (pl.1 q).1)] at h3
   rw[Xj h3];have:(rows.set k cs).getD i []=rows.getD i []:=by simp[List.getD,Ne.symm u]
   rw[this];exact hC.cell i j hi hj
theorem VD {T w M s}:∀ (ps:List (Nat × Value)) (pl:List Nat) (xs:List AV) (rows:List (List AV)) (us:Array Value) (out:List (List AV)),
  Fs T w M s rows us->ps.map (·.1)=pl->xs.length=ps.length->(∀ i,i<xs.length->AX T w M (xs.getD i .dead) ((ps.map (·.2)).getD i undef))->FV s rows pl xs=some out ->
  ∃ us',Instr.fill (λ i=>some (i*s,s)) us ps=some us'/\Fs T w M s out us'
 | [],pl,xs,rows,us,out,hC,hp,hl,hr,hf=>by
   simp at hp;subst hp;have:xs=[]:=QK hl;subst this;simp only[FV,Qq] at hf;subst hf;exact⟨us,rfl,hC⟩
 | (i,v)::ps,pl,xs,rows,us,out,hC,hp,hl,hr,hf=>by
   cases xs with
   | nil=>simp at hl
   | cons x xs =>
   simp only[Qp] at hp;subst hp;simp only[FV] at hf;split at hf
   case h_2=>cases hf
   rename_i cs q;split at hf
   case isFalse=>cases hf
   rename_i hc;have h0:=hr 0 zz
   simp only[Us,Qp] at h0;obtain⟨e1,e2⟩:=LA h0 q;have st:=qX hC e1 e2 hc.1 hc.2;obtain⟨us',h4,h5⟩:=VD ps _ xs _ _ out st rfl (by simpa using hl) (λ k hk=>by have:=hr (k+1) (by simpa using hk);simpa using this) hf
   refine⟨us',?_,h5⟩;simp only[Instr.fill];rw[if_neg]
   .exact h4
   .simp only[ne_eq,UY,Qf,not_or,Decidable.not_not]
    have h6:=hC.size;have:(i+1)*s<=rows.length*s:=Qy _ hc.2;rw[QJ] at this;omega
section
variable {P:Program} {np:Nat} {T0:Nat->Nat} {M0:GM} {w0:World} {aA:Nat->Prop} {st:St} {T:Nat->Nat} {M:GM} {a:Act} {w:World} {idb:Nat}
variable (tm:∀ i,AX T w M (st.get i) (a.tmps.getD i undef)) (m:BF np T0 M0 w0 aA st.hp T M w) (aB:∀ k,k<8->¬ aA (idb+k)) (aC:np<=idb)
include tm m aB aC
theorem iA (o:Oper) (t:TypeId) (len:Nat) (ps:Array (Nat × Operand)) (h:o.op = .buildSlice t len ps):Ay P np T0 M0 w0 aA st T M a w idb o:=by
 intro K hk;simp only[Aw,h] at hk;split at hk
 case h_2=>exact False.elim hk
 rename_i e hu;split at hk
 case h_2=>exact False.elim hk
 rename_i z s hz hs;split at hk
 case isFalse=>exact False.elim hk
 rename_i u;simp only[Ub,aK] at hk;obtain⟨rows,h4,h9,hk⟩:=hk;obtain⟨i,zv,hi,he,hg,ho,ha⟩:=Gb hz;have hs':i.size=s:=by simpa [CB,hi] using hs
 have zr:∀ (cells:Array Value),cells=(Array.range (len*s)).map (λ i=>zv.cells[i % zv.cells.size]!)->Fs T w M s (List.replicate len (z.map .sc)) cells:=by
  intro cells q;have h5:cells=(Array.range (len*s)).map λ i=>z.toArray[i % z.toArray.size]!:=by rw[q,<- hg,QL]
  refine⟨by rw[q];simp,λ row hb=>?_,λ i j hi hj=>?_⟩
  .rw [(List.mem_replicate.1 hb).2];simpa using h9
  .obtain ⟨v,h1,h2,h3⟩:=K5 (T:=T) (w:=w) (M:=M) ha h9 len cells (len*s) h5 (Qk _) i j hi hj
   rw[Eo h1];exact⟨h2,h3⟩
 obtain⟨us,hf,hC⟩:=VD (T:=T) (w:=w) (M:=M) (s:=s) (ps.toList.map λ (x:Nat × Operand)=>(x.1,a.eval x.2)) (ps.toList.map (·.1)) _ _ _ rows (zr _ rfl) zz zz (λ k hk=>by
  simp only[QB,Uk] at hk;have e1:(ps.toList.map ((λ x=>x.ev st.get)∘λ x=>AP x.2)).getD k .dead=(AP ps[k].2).ev st.get:=by simp[List.getD,hk]
  have e2:((ps.toList.map λ (x:Nat × Operand)=>(x.1,a.eval x.2)).map (·.2)).getD k undef=a.eval ps[k].2:=by simp[List.getD,hk]
  rw[e1,e2]
  exact BG tm _) h4
 have hh:rows.length=len:=by
  have h1:=hC.size
  have:∀ (ps:List Nat) (xs:List AV) (r out:List (List AV)),FV s r ps xs=some out->out.length=r.length:=by
   intro ps
   induction ps with
   | nil=>intro xs r out hf;cases xs<;>simp[FV] at hf;rw[hf]
   | cons p ps ih =>
     intro xs r out hf
     cases xs with
     | nil=>simp[FV] at hf
     | cons x xs =>
       simp only[FV] at hf;split at hf
       case h_2=>cases hf
       split at hf
       case isFalse=>cases hf
       rw[ih _ _ _ hf];simp
  have:=this _ _ _ _ h4
  simpa using this
 have h7:(sizeOf e).run P w = .ok s w:=by simp[sizeOf,typeInfo,hi,hs']
 have hc:(execOp a.eval o).run P w = .ok (.value (.slice (some ⟨w.heap.size,0,none⟩) len len)) (w.alloc (.cells us e)):=by
  have h8:¬ (16777216<len*s):=by have:=u.1;omega
  have h6:Instr.fill (λ i=>some (i*s,s)) (Array.map (λ x=>zv.cells[x % zv.cells.size]!) (Array.range (len*s))) (ps.toList.map λ (x:Nat × Operand)=>(x.1,a.eval x.2))=some us:=hf
  by_cases h0:len*s=0
  .have:Array.range (len*s) = #[]:=by rw[h0];rfl
   rw[this] at h6;simp only[Array.map_empty] at h6;have r0:Array.range 0 = #[]:=rfl;simp[execOp,h,Instr.buildSlice,B1 hu,h7,h0,newRow,h6,r0]
  .simp [execOp,h,Instr.buildSlice,B1 hu,h7,h8,h0,newRow,zeroValue,typeInfo,hi,he,h6]
 refine⟨_,_,_,hk,Gn m aB aC (e:={ s:=s,rows:=rows }) (cells:=us) (ty:=e) hc rfl rfl rfl rfl (UJ.1 u.2) (Qn _) hC.wide (by rw[hC.size];exact Qk _) (λ i j hi hj=>?_) _ (by simp[AQ]) (λ i x hi hx=>by simp[AQ] at hx;omega) ?_⟩
 .have:=hC.cell i j hi hj
  have hd:=EO hi hj;rw[<- hC.size] at hd;refine⟨us.getD (i*s+j) undef,by simp[Array.getD,hd],this.1,this.2⟩
 .intro M' hl
  refine .rs _ _ 0 _ _ _ _ hl (UJ.1 u.2) (Qk _) (λ hn=>by cases hn) λ b' hm=>?_
  obtain rfl:=Qc hm;refine⟨.inr zz,us,e,(0,0),by show (w.heap.push _)[w.heap.size]? = _;simp,?_⟩
  rw[hC.size,hh];simp
end
variable {X:AV} {rows:List (List AV)} {s:Nat} {v:Value}
structure Bw (T:Nat->Nat) (w:World) (M:GM) (s:Nat) (rows:List (List AV)) (us:List Value):Prop where
 size:us.length=rows.length*s
 wide:∀ row∈rows,row.length=s
 one:∀ u∈us,u.oneCell'=true
 cell:∀ i j,i<rows.length->j<s->AX T w M ((rows.getD i []).getD j .dead) (us.getD (i*s+j) undef)
theorem Bw.append {T w M s r1 r2 u1 u2} (h1:Bw T w M s r1 u1) (h2:Bw T w M s r2 u2):Bw T w M s (r1++r2) (u1++u2):=by
 refine⟨by rw[Qm,Qm,h1.size,h2.size,QJ],λ r hr=>?_,λ u hu=>?_,λ i j hi hj=>?_⟩
 .rcases Qo.1 hr with h | h
  .exact h1.wide r h
  .exact h2.wide r h
 .rcases Qo.1 hu with h | h
  .exact h1.one u h
  .exact h2.one u h
 .simp only[Qm] at hi
  by_cases q:i<r1.length
  .have:=EO q hj
   have e1:(r1++r2).getD i []=r1.getD i []:=by simp[List.getD,QC q]
   have e2:(u1++u2).getD (i*s+j) undef=u1.getD (i*s+j) undef:=by
    simp only[List.getD];rw[QC (by rw[h1.size];exact this)]
   rw[e1,e2];exact h1.cell i j q hj
  .have h0:r1.length<=i:=zy
   have h3:i*s=r1.length*s+(i - r1.length)*s:=by rw[<- QJ];congr 1;omega
   have e1:(r1++r2).getD i []=r2.getD (i - r1.length) []:=by simp[List.getD,Qs h0]
   have e2:(u1++u2).getD (i*s+j) undef=u2.getD ((i - r1.length)*s+j) undef:=by
    simp only[List.getD];rw[Qs (by rw[h1.size];omega),h1.size]
    congr 2
    omega
   rw[e1,e2];exact h2.cell _ _ zy hj
theorem Bw.cells {T w M s rows us} (h:Bw T w M s rows us) {i j:Nat} (hi:i<rows.length) (hj:j<s) :
  ∃ v,us[i*s+j]? = some v/\v.oneCell'=true/\AX T w M ((rows.getD i []).getD j .dead) v:=by
 have q:=EO hi hj;rw[<- h.size] at q;have e:us.getD (i*s+j) undef=us[i*s+j]:=by simp[List.getD,q]
 have:=h.cell i j hi hj;rw[e] at this;exact⟨us[i*s+j],by simp[q],h.one _ (Qj q),this⟩
theorem Yv {T w M s} (hw:∀ row∈rows,row.length=s) (f:Nat->Value) (h:∀ i j,i<rows.length->j<s->(f (i*s+j)).oneCell'=true/\AX T w M ((rows.getD i []).getD j .dead) (f (i*s+j))) :
  Bw T w M s rows ((List.range (rows.length*s)).map f):=by
 refine⟨zz,hw,λ u hu=>?_,λ i j hi hj=>?_⟩
 .obtain ⟨k,hk,rfl⟩:=Qh.1 hu
  simp only[QP] at hk
  have hs:0<s:=by
   rcases UE s with rfl | h
   .simp at hk
   .exact h
  have:=h (k / s) (k % s) (Nat.div_lt_of_lt_mul (by rw[Nat.mul_comm];exact hk)) (Nat.mod_lt _ hs)
  rw[Nat.mul_comm (k / s),Nat.div_add_mod] at this;exact this.1
 .have e:((List.range (rows.length*s)).map f).getD (i*s+j) undef=f (i*s+j):=by simp[List.getD,EO hi hj]
  rw[e];exact(h i j hi hj).2
theorem RV {w:World} {b o:Nat} {cells:Array Value} {ty:TypeId} {fz:Nat × Nat} (h:w.heap[b]? = some (.cells cells ty fz)):w.cell? ⟨b,o,none⟩=cells[o]?:=by
 simp[World.cell?,h]
section
variable {P:Program} {np:Nat} {T0:Nat->Nat} {M0:GM} {w0:World} {aA:Nat->Prop} {st:St} {T:Nat->Nat} {M:GM} {a:Act} {w:World} {idb:Nat}
theorem Tt (hs:DR T w M st.hp) (hr:AX T w M X v) (h:CJ s st.hp X=some rows) (hx:∀ i o l c,X ≠ .rk i o l c) :
  ∃ ad cap us,v = .slice ad rows.length cap/\rows.length<=cap/\Bw T w M s rows us/\(ad=none->us=[])/\(∀ x,ad=some x -> ∀ j u,us[j]? = some u->w.cell? (x.add j)=some u):=by
 cases hr with
 | sc _ _ h1 =>
   unfold CJ at h;split at h<;>(try (cases h;done))
   .rename_i e;cases e
   .rename_i e;cases e
   .rename_i e;cases e
   .rename_i e
    cases e
    cases h;exact⟨none,0,[],rfl,Qk _,⟨zz,zz,zz,λ i j hi=>absurd hi zz⟩,λ _=>rfl,λ x hx=>by cases hx⟩
 | vs _ s' full rows' ad cap c hf h7 hw hb h1 hh =>
   simp only[CJ] at h;split at h
   case isFalse=>cases h
   rename_i e;subst e
   cases h
   by_cases h8:rows=[]
   .subst h8
    exact⟨ad,cap,[],rfl,h7,⟨zz,zz,zz,λ i j hi=>absurd hi zz⟩,λ _=>rfl,λ x hx j u hu=>by simp at hu⟩
   .obtain ⟨b,off,cells,ty,fz,rfl,hn,hT,hc⟩:=hb h8
    have hq:∀ k,k<rows.length*s'->cells[off+k]? = some (cells.getD (off+k) undef):=by
     intro k hk
     have h9:0<s':=by
      rcases UE s' with h | h
      .rw [h] at hk;simp at hk
      .exact h
     have:=hc (k / s') (k % s') (Nat.div_lt_of_lt_mul (by rw[Nat.mul_comm];exact hk)) (Nat.mod_lt _ h9)
     rw[UG,Nat.mul_comm (k / s'),Nat.div_add_mod] at this;rw[this,Eo this]
    refine⟨_,cap,(List.range (rows.length*s')).map λ k=>cells.getD (off+k) undef,rfl,h7,Yv hw _ (λ i j hi hj=>?_),(λ e=>by cases e),λ x hx j u hu=>?_⟩
    .have e:=hc i j hi hj
     rw[UG] at e;rw[Eo e];exact⟨h1 i j hi hj,(hh i j hi hj).mono (Ag.refl _ _) (λ _ _ e=>by cases e)⟩
    .cases hx
     simp only[QH,Qr] at hu;obtain⟨k,hk,rfl⟩:=hu;obtain⟨h2,rfl⟩:=Qu.1 hk;simp only[UP] at h2;rw[Addr.add_none,RV hn]
     simpa only[List.getElem_range] using hq j h2
 | rs _ id off len cap ad g hg hz hl ht hb =>
   simp only[CJ,Uh] at h;obtain⟨e,he,h⟩:=h;split at h
   case isFalse=>cases h
   rename_i hc
   cases h;obtain⟨g',hy,ent⟩:=hs.ent id e he;obtain rfl:=Qc (hg.symm.trans hy);have q:((e.rows.drop off).take len).length=len:=zw
   have h4:∀ row∈(e.rows.drop off).take len,row.length=s:=λ row hd=>by rw[<- hc.1];exact ent.wide (ent.s ▸ hz) row (UC (QR hd))
   cases h3:g.blk with
   | none =>
     have h0:=ht h3;have h5:len=0:=zy
     subst h5;exact⟨ad,cap,[],by rw[q],by rw[q];omega,⟨zz,zz,zz,λ i j hi=>absurd hi zz⟩,λ _=>rfl,λ x hx j u hu=>by simp at hu⟩
   | some b =>
     obtain⟨ha,-,-,-,-,a5⟩:=hb b h3;obtain⟨cells,ty,⟨fz,h6,hfz⟩,hT,a0,a1⟩:=ent.blk (ent.s ▸ hz) b h3
     by_cases h5:len=0
     .subst h5
      exact⟨ad,cap,[],by rw[q],by rw[q];omega,⟨zz,zz,zz,λ i j hi=>absurd hi zz⟩,λ _=>rfl,λ x hx j u hu=>by simp at hu⟩
     have a2:ad=some ⟨b,g.base+off*g.s,none⟩:=by
      rcases ha with ha | ha
      .omega
      .exact ha
     subst a2;have hS:g.s=s:=ent.s.trans hc.1;have hm:e.s=s:=hc.1
     have a3:∀ k,k<len*s->cells[g.base+off*s+k]? = some (cells.getD (g.base+off*s+k) undef):=by
      intro k hk;have:(off+len)*s<=e.rows.length*s:=Qy _ hc.2;rw[QJ] at this;rw[hm] at a0;have h2:g.base+off*s+k<cells.size:=zy
      simp[Array.getD,h2]
     refine⟨_,cap,(List.range (((e.rows.drop off).take len).length*s)).map λ k=>cells.getD (g.base+off*s+k) undef,by rw[q],by rw[q];exact hl,Yv h4 _ (λ i j hi hj=>?_),(λ e=>by cases e),λ x hx j u hu=>?_⟩
     .rw [q] at hi
      obtain⟨v,hv,ho,a4⟩:=a1 (off+i) j zy zy
      rw[hm,QJ] at hv;have e1:cells.getD (g.base+off*s+(i*s+j)) undef=v:=Eo (by rw[<- hv];congr 1;omega)
      have e2:((e.rows.drop off).take len).getD i []=e.rows.getD (off+i) []:=by
       simp only[List.getD,Un,Q9];rw[if_pos hi]
      rw[e1,e2];exact⟨ho,a4⟩
     .cases hx
      rw[q] at hu;simp only[QH,Qr] at hu;obtain⟨k,hk,rfl⟩:=hu;obtain⟨h2,rfl⟩:=Qu.1 hk;simp only[UP] at h2;rw[Addr.add_none,hS,RV h6]
      simpa only[List.getElem_range] using a3 j h2
 | rk=>exact absurd rfl (hx _ _ _ _)
 | _=>simp[CJ] at h
theorem HE (hs:DR T w M st.hp) (hr:AX T w M X v) (h:CJ s st.hp X=some rows) :
  ∃ ad cap us,v = .slice ad rows.length cap/\rows.length<=cap/\Bw T w M s rows us/\(ad=none->us=[])/\(∀ x,ad=some x -> ∀ j u,us[j]? = some u->w.cell? (x.add j)=some u):=by
 cases X with
 | rk i o l c=>exact Tt hs (X:=.rs i o l) hr.rk_rs h zz
 | _=>exact Tt hs hr h zz
theorem BF.newNil {hp:Nat->Option AD} (h:BF np T0 M0 w0 aA hp T M w) {id:Nat} (hid:¬ aA id) (h8:np<=id) (s:Nat) (h0:s≠0) {hp':Nat->Option AD} (h7:hp' id=some { s:=s,rows:=[],ro:=0 }) (q:∀ i e',i≠id->hp' i=some e'->hp i=some e') :
  ∃ M':GM,M' id=some ⟨none,0,s,false⟩/\(∀ i g,M i=some g->M' i=some g)/\BF np T0 M0 w0 (λ i=>aA i∨i=id) hp' T M' w:=by
 have u:M id=none:=by
  cases hm:M id with
  | none=>rfl
  | some g=>exact absurd (h.dom id g hm) hid
 have mm:∀ i g,M i=some g->(λ i=>if i=id then some (GE.mk none 0 s false) else M i) i=some g:=by
  intro i g hg;have:i≠id:=by rintro rfl;rw[u] at hg;cases hg
  simp only[this,Uv];exact hg
 refine⟨λ i=>if i=id then some ⟨none,0,s,false⟩ else M i,zz,mm,⟨λ i e' he=>?_,λ i i' e1 e2 g g' b h1 h2 h3 h4 h5 h6=>?_⟩,λ i g hg=>?_,?_⟩
 .by_cases hi:i=id
  .subst hi
   obtain rfl:=Qc (h7.symm.trans he);exact⟨⟨none,0,s,false⟩,if_pos rfl,rfl,Qn _,(λ _=>zz),(λ _=>rfl),(λ h=>absurd h h0),λ _ b hb=>by cases hb⟩
  .obtain ⟨g,h1,h2⟩:=h.hs.ent i e' (q i e' hi he)
   exact⟨g,by simp only[hi,Uv];exact h1,h2.mono (Ag.refl _ _) mm λ b _=>⟨rfl,rfl⟩⟩
 .by_cases hi:i=id
  .rw [if_pos hi] at h3
   obtain rfl:=Qc h3
   cases h5
  .by_cases hi':i'=id
   .rw [if_pos hi'] at h4
    obtain rfl:=Qc h4
    cases h6
   .rw [if_neg hi] at h3;rw[if_neg hi'] at h4
    exact h.hs.inj i i' e1 e2 g g' b (q i e1 hi h1) (q i' e2 hi' h2) h3 h4 h5 h6
 .by_cases hi:i=id
  .exact .inr hi
  .rw [if_neg hi] at hg;exact .inl (h.dom i g hg)
 .refine h.after.step h.after.tok (λ _ _ _=>rfl) (λ k hk=>?_) rfl rfl rfl (Qk _) (λ _ _ _=>rfl) (Ag.refl _ _) λ k g b hk hg hb=>?_
  .have:k≠id:=zy
   simp only[this,Uv]
  .by_cases hi:k=id
   .rw [if_pos hi] at hg
    obtain rfl:=Qc hg
    cases hb
   .rw [if_neg hi] at hg
    exact h.after.new k g b hk hg hb
theorem gI {hp:Nat->Option AD} {new:List (List AV)} {old:List (List AV) × Nat × List (Nat × Option AD)} (h:DN s hp new X=some old):CJ s hp X=some old.1:=by
 unfold DN at h;split at h
 .simp only[Qq] at h;subst h;rfl
 .split at h
  case isFalse=>cases h
  rename_i hc;simp only[Qq] at h;subst h;simp[CJ,hc.1]
 .simp only[Uh] at h
  obtain⟨e,he,h⟩:=h;split at h
  case isFalse=>cases h
  rename_i hc;simp only[Qq] at h;subst h;simp[CJ,he,hc]
 .cases h
theorem Ye (m:BF np T0 M0 w0 aA st.hp T M w) (aB:∀ k,k<8->¬ aA (idb+k)) (aC:np<=idb) {v':Value} (hr:AX T w M X v) {new:List (List AV)} {old:List (List AV) × Nat × List (Nat × Option AD)} (hd:DN s st.hp new X=some old) {t tx ty e:TypeId} {i:TypeInfo} {zv:Value} (ht:P.underlying t=some (.slice e)) (hi:P.info? e=some i) (hz:i.zero=some zv) (cl:zv.cells.size=s) (b4:i.size=s) (a2:s≠0) {hm:List Value} (hn:Bw T w M s new hm) (a9:Src P i.size tx v' new.length hm w) (hb:(old.1.length+new.length)*i.bytes<=140737488355328) (eb:old.1.length+new.length<=140737488355328) {f:Sem Next} (hf:∀ r w1,(Builtin.append_ #[t,tx] ty #[v,v']).run P w = .ok r w1->f.run P w = .ok (.value r) w1) :
  Dm P np T0 M0 w0 aA idb (st.upd ((idb,some { s:=s,rows:=old.1++new,ro:=old.2.1 })::old.2.2)).hp T M w (.rs idb 0 (old.1.length+new.length)) (f.run P w):=by
 obtain⟨ad,cap,us,rfl,ed,au,cp,av⟩:=HE m.hs hr (gI hd)
 have b0:∀ i,i≠idb -> ∀ e',(st.upd ((idb,some { s:=s,rows:=old.1++new,ro:=old.2.1 })::old.2.2)).hp i=some e'->st.hp i=some e'/\AQ old.2.2 i=none:=by
  intro j hj e' a4;rw[St.hp_upd] at a4;simp only[AQ,if_neg (Ne.symm hj)] at a4;unfold DN at hd;split at hd
  .simp only[Qq] at hd;subst hd;exact⟨a4,rfl⟩
  .split at hd
   case isFalse=>cases hd
   simp only[Qq] at hd;subst hd;exact⟨a4,rfl⟩
  .simp only[Uh] at hd
   obtain⟨e,he,hd⟩:=hd;split at hd
   case isFalse=>cases hd
   simp only[Qq] at hd;subst hd;simp only[AQ] at a4 ⊢;split at a4
   .cases a4
   .rename_i cq;exact⟨a4,by rw[if_neg cq]⟩
  .cases hd
 have a8:(st.upd ((idb,some { s:=s,rows:=old.1++new,ro:=old.2.1 })::old.2.2)).hp idb=some { s:=s,rows:=old.1++new,ro:=old.2.1 }:=by
  rw[St.hp_upd];simp[AQ]
 have c0:old.2.1<=(old.1++new).length:=by
  unfold DN at hd;split at hd
  .simp only[Qq] at hd;subst hd;exact Qn _
  .split at hd
   case isFalse=>cases hd
   simp only[Qq] at hd;subst hd;exact Qn _
  .simp only[Uh] at hd
   obtain⟨e,he,hd⟩:=hd;split at hd
   case isFalse=>cases hd
   rename_i hc;simp only[Qq] at hd;subst hd;simp;omega
  .cases hd
 have wider:∀ {hp T M' w'},BF np T0 M0 w0 (λ i=>aA i∨i=idb) hp T M' w'->BF np T0 M0 w0 (λ i=>aA i∨(idb<=i/\i<idb+8)) hp T M' w':=λ h =>
  h.wider λ i hi=>hi.elim .inl λ hi=>.inr zy
 have a3:=au.append hn
 by_cases ag:cap<old.1.length+new.length
 .
  have d0:(Builtin.firstCells i.size old.1.length (.slice ad old.1.length cap)).run P w.drew = .ok us.toArray w.drew:=by
   cases ad with
   | none=>rw[run_firstCells_none,cp rfl]
   | some x=>exact run_firstCells_some w.drew _ _ _ _ _ us (by rw[b4];exact au.size) (λ j u hj=>by simpa using av x rfl j u hj)
  have run:=run_append_grow_src (P:=P) w t tx ty e i zv ht hi hz ad old.1.length cap us d0 v' new.length hm a9 ag zy (growslice_fits ag hb)
  have b1:old.1.length+new.length<=grownCap w (old.1.length+new.length) cap e:=by simp only[grownCap,Question.cut];omega
  refine Gn m aB aC (e:={ s:=s,rows:=old.1++new,ro:=old.2.1 }) (hf _ _ run) rfl rfl rfl rfl a2 c0 a3.wide ?_ (λ i j hi hj=>?_) _ (by simp[AQ]) (λ j x hj hx=>?_) λ M' b5=>?_
  .simp only[UQ,Q4,a3.size]
   omega
  .obtain ⟨u,hu,ho,b6⟩:=a3.cells hi hj
   refine⟨u,?_,ho,b6⟩;rw[Uf]
   .simpa using hu
   .simp only[Q4,a3.size]
    exact EO hi hj
  .simp only[AQ,if_neg (Ne.symm hj)] at hx
   unfold DN at hd;split at hd
   .simp only[Qq] at hd;subst hd;cases hx
   .split at hd
    case isFalse=>cases hd
    simp only[Qq] at hd;subst hd;cases hx
   .simp only[Uh] at hd
    obtain⟨e,he,hd⟩:=hd;split at hd
    case isFalse=>cases hd
    simp only[Qq] at hd;subst hd;simp only[AQ] at hx;split at hx
    .exact (Qc hx).symm
    .cases hx
   .cases hd
  .refine .rs _ _ 0 _ _ _ _ b5 a2 b1 (λ hn=>by cases hn) λ b' bo=>?_
   obtain rfl:=Qc bo;refine⟨.inr zz,_,e,(0,0),(Array.getElem?_push_size:(w.drew.heap.push _)[w.drew.heap.size]? = _),?_⟩
   simp only[UQ,Q4,Qm,au.size,hn.size,size_zeroCells,cl]
   have:(grownCap w (old.1.length+new.length) cap e - (old.1.length+new.length))*s+(old.1.length+new.length)*s=grownCap w (old.1.length+new.length) cap e*s:=by
    rw[<- QJ];congr 1;omega
   rw[QJ] at this;omega
 .have hy:old.1.length+new.length<=cap:=zy
  have same:new=[]->f.run P w = .ok (.value (.slice ad old.1.length cap)) w:=by
   intro h0;have a7:hm=[]:=QK (by rw[hn.size,h0];simp)
   rw[h0,a7] at a9;exact hf _ _ (run_append_nothing (P:=P) w t tx ty e i ht hi ad old.1.length cap zy v' a9)
  unfold DN at hd;split at hd
  .
   simp only[Qq] at hd;subst hd
   cases hr;have h0:new=[]:=QK (by simp at hy;omega)
   rw[same h0];subst h0;obtain⟨M',h1,h2,h3⟩:=m.newNil (aB 0 zy) aC s a2 (hp':=(st.upd ((idb,some { s:=s,rows:=[]++[],ro:=0 })::[])).hp) a8 (λ j e' hj he=>(b0 j hj e' he).1)
   exact⟨T,M',wider h3,Ag.refl _ _,h2,.rs _ _ 0 _ _ _ _ h1 a2 (Qn _) (λ _=>⟨rfl,rfl⟩) (λ b hb=>by cases hb)⟩
  .
   split at hd
   case isFalse=>cases hd
   rename_i rows hc;simp only[Qq] at hd;subst hd
   cases hr with
   | vs _ _ _ _ _ _ c d1 eg hw ej h1 hh =>
     have hcf:=d1 rfl;have h0:new=[]:=QK (by simp at hy;omega)
     have d2:rows=[]:=by
      rcases hc.2 with h | h
      .exact h
      .exact absurd h0 h
     subst h0 d2;rw[same rfl];obtain⟨M',h1,h2,h3⟩:=m.newNil (aB 0 zy) aC s a2 (hp':=(st.upd ((idb,some { s:=s,rows:=[]++[],ro:=0 })::[])).hp) a8 (λ j e' hj he=>(b0 j hj e' he).1)
     exact⟨T,M',wider h3,Ag.refl _ _,h2,.rs _ _ 0 _ _ _ _ h1 a2 (Qn _) (λ _=>⟨rfl,by simpa using hcf⟩) (λ b hb=>by cases hb)⟩
  .
   simp only[Uh] at hd;obtain⟨en,c2,hd⟩:=hd;split at hd
   case isFalse=>cases hd
   rename_i id off len hc;simp only[Qq] at hd;subst hd;have a0:((en.rows.drop off).take len).length=len:=zw
   simp only[a0] at *;have a0:((en.rows.drop off).take len).length=len:=zw
   cases hr with
   | rs _ _ _ _ _ _ g hg hz hl d3 d7 =>
     obtain⟨g',dd,ent⟩:=m.hs.ent id en c2;obtain rfl:=Qc (hg.symm.trans dd)
     cases a5:g.blk with
     | none =>
       obtain⟨ek,df⟩:=d3 a5;have h0:new=[]:=QK zy
       have dn:len=0:=zy
       have b3:en.ro=0:=by have:=ent.ro;rw[ent.none a5] at this;simpa using this
       subst h0 dn;rw[same rfl];have ai:=a8;simp only[List.take_zero,Q0,b3,Nat.zero_sub] at ai ⊢
       obtain⟨M',h1,h2,h3⟩:=m.newNil (aB 0 zy) aC s a2 (hp':=(st.upd ((idb,some { s:=s,rows:=[],ro:=0 })::[(id,none)])).hp) ai (λ j e' hj he=>by
        refine(b0 j hj e' ?_).1
        simpa [b3] using he)
       exact⟨T,M',wider h3,Ag.refl _ _,h2,.rs _ _ 0 _ _ _ _ h1 a2 (Qn _) (λ _=>⟨rfl,df⟩) (λ b hb=>by cases hb)⟩
     | some b =>
       obtain⟨ha,c1,t1,f1,ds,a6⟩:=d7 b a5;obtain⟨cells,tyc,⟨fz,a1,hfz⟩,hT,em,e3⟩:=ent.blk (ent.s ▸ hz) b a5
       have e4:c1=cells:=by
        have e:=a1.symm.trans ds;injection e with e;injection e with e;exact e.symm
       rw[e4] at a6;have hS:g.s=s:=ent.s.trans hc.1;have b2:en.s=s:=hc.1;have c3:en.ro*en.s<=(off+len)*en.s:=Qy _ hc.2.2
       have write:∀ cells':Array Value,cells'.size=cells.size->(∀ q:Nat,cells'[q]? = if g.base+(off+len)*s<=q/\q<g.base+(off+len)*s+hm.length then hm[q - (g.base+(off+len)*s)]? else cells[q]?) ->
         ∃ M':GM,M' idb=some ⟨some b,g.base+off*s,s,false⟩/\(∀ i g,M i=some g->M' i=some g) /\
           BF np T0 M0 w0 (λ i=>aA i∨i=idb) (st.upd ((idb,some { s:=s,rows:=(en.rows.drop off).take len++new,ro:=en.ro - off })::[(id,none)])).hp T M' (w.setRow b cells')/\Ag T w T (w.setRow b cells'):=by
        intro cells' s1 s2
        have bs:g.base+off*s+(len+new.length)*s<=cells.size:=by
         have:(len+new.length)*s<=cap*s:=Qy _ hy;rw[hS] at a6;omega
        have c4:T b<=g.base+off*s+(en.ro - off)*s:=by
         rw[b2] at hT;have:en.ro*s<=(off+(en.ro - off))*s:=Qy _ zy
         rw[QJ] at this;omega
        refine m.write (id':=idb) (g':=⟨some b,g.base+off*s,s,false⟩) (e:={ s:=s,rows:=(en.rows.drop off).take len++new,ro:=en.ro - off }) (cells':=cells') c2 hg a5 ⟨fz,a1,b2 ▸ hfz⟩ s1 (λ q hq=>?_)
         (.inr ⟨aB 0 zy,aC⟩) rfl rfl a2 c0 a3.wide c4 (by simp only[Qm,a0];exact bs) (λ i' j' hi' an=>?_) a8 (λ j e' hj he=>?_)
        .rw [s2,if_neg]
         rw[b2] at hT c3;omega
        .simp only[Qm,a0] at hi'
         have an:j'<s:=an;have h9:(off+len)*s=off*s+len*s:=QJ _ _ _;simp only[s2];obtain⟨u,hu,ho,b6⟩:=a3.cells (i:=i') (j:=j') (by simp only[Qm,a0];exact hi') an
         by_cases bt:i'<len
         .have h5:i'*s+j'<len*s:=EO bt an
          rw[if_neg zy]
          obtain⟨v,hv,e5,e6⟩:=e3 (off+i') j' zy zy
          rw[b2,QJ] at hv;refine⟨v,by rw[<- hv];congr 1;omega,e5,?_⟩
          have e2:((en.rows.drop off).take len++new).getD i' []=en.rows.getD (off+i') []:=by
           simp only[List.getD];rw[QC (by rw[a0];exact bt),Un,if_pos bt,Q9]
          rw[e2];exact e6
         .have h5:(i' - len)*s+j'<new.length*s:=EO zy an
          have h6:i'*s=len*s+(i' - len)*s:=by rw[<- QJ];congr 1;omega
          have h7:=hn.size;have h8:=au.size;rw[a0] at h8;rw[if_pos zy]
          refine⟨u,?_,ho,b6⟩;rw[Qs zy] at hu
          rw[<- hu]
          congr 1
          omega
        .obtain ⟨h1,h2⟩:=b0 j hj e' he
         refine⟨?_,h1⟩
         rintro rfl
         simp[AQ] at h2
       have rep:∀ M' w' ,Ag T w T w'->M' idb=some ⟨some b,g.base+off*s,s,false⟩->AX T w' M' (.rs idb 0 (len+new.length)) (.slice ad (len+new.length) cap):=by
        intro M' w' p b5;refine .rs _ _ 0 _ _ _ _ b5 a2 hy (λ hn=>by cases hn) λ b' bo=>?_
        obtain rfl:=Qc bo;obtain⟨c',f',e1,e2,-⟩:=p.cell b cells tyc fz a1;refine⟨?_,c',tyc,f',e1,by rw[e2];rw[hS] at a6;simpa using a6⟩
        rcases ha with ha | ha
        .exact .inl ha
        .right;rw[ha,hS];simp
       by_cases h0:new=[]
       .have a7:hm=[]:=QK (by rw[hn.size,h0];simp)
        obtain⟨M',h1,h2,h3,h4⟩:=write cells rfl (λ q=>by rw[a7];simp;intro a b;omega)
        rw[setRow_self w b cells tyc fz a1] at h3 h4;rw[same h0];refine⟨T,M',wider h3,h4,h2,?_⟩;have:=rep M' w h4 h1;rw[h0] at this ⊢
        simpa using this
       .have e7:0<new.length:=U6.2 h0
        have ea:ad=some ⟨b,g.base+off*s,none⟩:=by
         rcases ha with ha | ha
         .omega
         .rw [ha,hS]
        subst ea
        have c5:g.base+(off+len)*s+hm.length<=cells.size:=by
         have h1:(len+new.length)*s<=cap*s:=Qy _ hy;rw[hS] at a6;rw[hn.size];rw[QJ] at h1 ⊢;omega
        have c6:=Jc P b (g.base+(off+len)*s) tyc fz hm 0 cells w a1 hfz.low (by simpa using c5) hn.one
        simp only[QY] at c6;obtain⟨s1,s2⟩:=L6 cells (g.base+(off+len)*s) hm c5
        have run:(Builtin.append_ #[t,tx] ty #[.slice (some ⟨b,g.base+off*s,none⟩) len cap,v']).run P w = .ok (.slice (some ⟨b,g.base+off*s,none⟩) (len+new.length) cap)
          (w.setRow b (cells.toList.take (g.base+(off+len)*s)++hm++cells.toList.drop (g.base+(off+len)*s+hm.length)).toArray):=by
         have cb:g.base+off*s+len*s=g.base+(off+len)*s:=by rw[QJ];omega
         have cd:=a9.cells;rw[b4] at cd;rcases a9.kind with ⟨e',hk⟩ | hk<;>simp[Builtin.append_,run_underlying ht,run_underlying hk,sizeOf,typeInfo,hi,a9.len,hy,b4,cd,Addr.add_lit,cb,c6]
        obtain⟨M',h1,h2,h3,h4⟩:=write _ s1 s2;rw[hf _ _ run];exact⟨T,M',wider h3,h4,h2,rep M' _ h4 h1⟩
  .cases hd
end
variable {c n off s:Nat} {e t tx ty:TypeId} {en:AD} {f:Sem Next} {v zv:Value} {z:List Value}
section
variable {P:Program} {np:Nat} {T0:Nat->Nat} {M0:GM} {w0:World} {aA:Nat->Prop} {st:St} {T:Nat->Nat} {M:GM} {a:Act} {w:World} {idb:Nat}
theorem Bw.drew {T:Nat->Nat} {w:World} {M:GM} {s rows us} (h:Bw T w M s rows us):Bw T w M s rows us:=h
theorem OV {e':TypeId} (hk:P.underlying tx=some (.slice e')) {ad:Option Addr} {cap:Nat} {rows:List (List AV)} {us:List Value} (hu:Bw T w M s rows us) (hn:rows.length=n) (h0:ad=none->us=[]) (hc:∀ x,ad=some x -> ∀ j u,us[j]? = some u->w.cell? (x.add j)=some u) (q:0<s):Src P s tx (.slice ad n cap) n us w:=by
 subst hn
 cases ad with
 | none =>
   have h1:=h0 rfl;have h2:=hu.size;rw[h1] at h2
   have h3:rows.length=0:=by
    rcases UE rows.length with h | h
    .exact h
    .have:=Nat.mul_pos h q;simp at h2;omega
   rw[h1,h3];exact Src.ofNil w hk cap
 | some x=>exact Src.ofSlice w hk x rows.length cap us hu.size (hc x rfl) hu.one
theorem KM (b:ByteArray):(Dk b).length=b.size:=by
 unfold Dk;rw[QB,Uk];rfl
theorem Tb (b:ByteArray):Bw T w M 1 (Dk b) (byteCells b):=by
 refine⟨by rw[byteCells_length,KM,Nat.mul_one],λ row q=>?_,λ u hu=>?_,λ i j hi hj=>?_⟩
 .obtain ⟨x,_,rfl⟩:=Qh.1 q;rfl
 .obtain ⟨x,_,rfl⟩:=Qh.1 hu;rfl
 .obtain rfl:j=0:=zy
  rw[KM] at hi;have hi':i<b.data.toList.length:=by rw[Uk];exact hi
  have e1:(Dk b).getD i []=[AV.sc (.int .u8 (b.data.toList[i]).toNat)]:=by simp[Dk,List.getD,hi]
  have e2:(byteCells b).getD (i*1+0) undef = .int .u8 (b.data.toList[i]).toNat:=by simp[byteCells,List.getD,hi]
  rw[e1,e2];exact .sc _ _ rfl
theorem OO (m:BF np T0 M0 w0 aA st.hp T M w) {id len:Nat} {ad':Option Addr} {cap':Nat} (hr:AX T w M (.rs id off len) (.slice ad' len cap')) (hf:st.hp id=some en) (h5:en.s=s) (a1:en.ro<=off) (ai:off<=en.rows.length) {h0:List (List AV)} (h9:h0.length=n) (a2:n<=cap') {us:List Value} (h7:Bw T w M s h0 us) {val:Value} {av:AV} (he:AX T w M av val) (hm:∀ w1,(match ad' with | some x=>storeCells x us | none=>pure ()).run P w = .ok () w1->f.run P w = .ok (.value val) w1) :
  Dm P np T0 M0 w0 aA idb (st.upd [(id,some { en with rows:=en.rows.take off++h0++en.rows.drop (off+n) })]).hp T M w av (f.run P w):=by
 cases hr with
 | rs _ _ _ _ cap' ad' g hg hz hl a3 a4 =>
   obtain⟨g',a5,ent⟩:=m.hs.ent id en hf;obtain rfl:=Qc (hg.symm.trans a5);have hS:g.s=s:=ent.s.trans h5
   cases h4:g.blk with
   | none =>
     have a6:=ent.none h4;have hz:=a3 h4;have hb:n=0:=zy
     skip
     have e0:en.rows.take off++h0++en.rows.drop (off+n)=en.rows:=by rw[UT.1 (h9.trans hb),a6,hb];simp
     have hc:us=[]:=UT.1 (by rw[h7.size,h9,hb];simp)
     rw[hm w (by rw[hc];cases ad'<;>rfl),e0]
     have a7:(st.upd [(id,some { en with rows:=en.rows })]).hp=st.hp:=by
      funext j
      rw[St.hp_upd];simp only[AQ];split
      .rename_i e;subst e;exact hf.symm
      .rfl
     rw[a7];exact⟨T,M,m.wider (λ _ h=>.inl h),Ag.refl _ _,λ _ _ h=>h,he⟩
   | some b =>
     obtain⟨ha,c1,t1,f1,a8,hn⟩:=a4 b h4;obtain⟨cells,tyc,⟨fz,h6,hfz⟩,hT,ht,a9⟩:=ent.blk (ent.s ▸ hz) b h4;rw[h5] at ht hT
     have ag:c1=cells:=by
      have e:=h6.symm.trans a8;injection e with e;injection e with e;exact e.symm
     rw[ag,show g.s=s from ent.s.trans h5] at hn
     have an:n*s<=cap'*s:=Qy _ a2
     have hv:g.base+off*s+(us).length<=cells.size:=by
      rw[h7.size,h9];omega
     obtain⟨s1,s2⟩:=L6 cells (g.base+off*s) (us) hv;have hw:=Jc P b (g.base+off*s) tyc fz (us) 0 cells w h6 hfz.low (by simpa using hv) h7.one
     simp only[QY] at hw
     have hd:(match ad' with | some x=>storeCells x (us) | none=>pure ()).run P w = .ok () (w.setRow b (cells.toList.take (g.base+off*s)++us++cells.toList.drop (g.base+off*s+(us).length)).toArray):=by
      rcases ha with ha | ha
      .have hb:n=0:=zy
       have hc:us=[]:=UT.1 (by rw[h7.size,h9,hb];simp)
       rw[hc];simp only[Q0,U7,QY,UK,QL];rw[setRow_self w b cells tyc fz h6]
       cases ad'<;>rfl
      .rw [hS] at ha
       subst ha;exact hw
     have hx:=hm _ hd;generalize (cells.toList.take (g.base+off*s)++us++cells.toList.drop (g.base+off*s+(us).length)).toArray=cells' at *;rw[h7.size,h9] at s2;have h8:(en.rows.take off++h0++en.rows.drop (off+n)).length=off+n+(en.rows.length - (off+n)):=zw
     have hh:g.base+(off+n+(en.rows.length - (off+n)))*s<=cells.size:=by
      rcases Nat.le_total en.rows.length (off+n) with h | h
      .rw [show off+n+(en.rows.length - (off+n))=off+n by omega,QJ]
       omega
      .rw [show off+n+(en.rows.length - (off+n))=en.rows.length by omega]
       exact ht
     obtain⟨M',m1,m2,m3,m4⟩:=m.write (id':=id) (g':=g) (e:={ en with rows:=en.rows.take off++h0++en.rows.drop (off+n) }) (cells':=cells') hf hg h4 ⟨fz,h6,hfz⟩ s1 (λ q hq=>by
       rw[s2,if_neg];have:en.ro*s<=off*s:=Qy _ a1;omega) (.inl ⟨rfl,rfl⟩) h4 ent.s (ent.s ▸ hz) (by simp only;rw[h8];omega) (λ r hr=>by
       simp only[Qo] at hr;rcases hr with (hr | hr) | hr
       .exact ent.wide (ent.s ▸ hz) r (QR hr)
       .simp only;rw[h5];exact h7.wide r hr
       .exact ent.wide (ent.s ▸ hz) r (UC hr)) (by simp only;rw[h5];exact hT) (by simp only;rw[h8,h5];exact hh) (λ i' j' hi' hi=>by
       simp only[h8] at hi';simp only[h5] at hi;simp only[h5,s2]
       by_cases hy:off<=i'/\i'<off+n
       .have h1:(i' - off)*s+j'<n*s:=EO zy hi
        have h2:i'*s=off*s+(i' - off)*s:=by rw[<- QJ];congr 1;omega
        rw[if_pos zy]
        obtain⟨u,hu,ho,hj⟩:=h7.cells (i:=i' - off) (j:=j') (by rw[h9];omega) hi
        refine⟨u,by rw[<- hu];congr 1;omega,ho,?_⟩
        have e1:(en.rows.take off++h0++en.rows.drop (off+n)).getD i' []=(h0).getD (i' - off) []:=by
         simp only[List.getD];rw[QG,Qs zw,QC zw]
         congr 2
         simp;omega
        rw[e1];exact hj
       .obtain ⟨u,hu,ho,hj⟩:=a9 i' j' zy zy
        rw[h5] at hu
        have h3:¬ (g.base+off*s<=g.base+i'*s+j'/\g.base+i'*s+j'<g.base+off*s+n*s):=by
         intro q;apply hy;constructor
         .rcases Ui i' off with h | h
          .have:(i'+1)*s<=off*s:=Qy _ h
           rw[QJ] at this;omega
          .exact h
         .rcases Ui i' (off+n) with h | h
          .exact h
          .have:(off+n)*s<=i'*s:=Qy _ h
           rw[QJ] at this;omega
        rw[if_neg h3];refine⟨u,hu,ho,?_⟩
        have e1:(en.rows.take off++h0++en.rows.drop (off+n)).getD i' []=en.rows.getD i' []:=by
         simp only[List.getD];rcases Ui i' off with h | h
         .rw [QG,QC zw,Un,if_pos h]
         .rw [Qs zw,Q9]
          congr 2
          simp;omega
        rw[e1]
        exact hj)
      (hp':=(st.upd [(id,some { en with rows:=en.rows.take off++h0++en.rows.drop (off+n) })]).hp) (by rw[St.hp_upd];simp[AQ]) (λ i' e' a0 hk=>by
       rw[St.hp_upd] at hk;simp only[AQ,if_neg (Ne.symm a0)] at hk
       exact⟨a0,hk⟩)
     skip
     rw[hx];refine⟨T,M',m3.wider λ i' hi'=>?_,m4,m2,he.mono m4 m2⟩;rcases hi' with hi' | hi'
     .exact .inl hi'
     .subst hi';exact .inl (m.dom _ _ hg)
theorem qY {Y:AV} {b:Option Addr} {mm cp:Nat} (hr:AX T w M Y (.slice b mm cp)) (hl:lenOf Y=some mm) (hn:n<=mm):AX T w M (Dg n Y) (.slice b n cp):=by
 generalize hv:Value.slice b mm cp=v at hr
 cases hr with
 | vs _ s full rows a cap c hf h6 hw hb h1 h =>
   cases hv;simp only[Dg];have q:(rows.take n).length=n:=zw
   have e:Value.slice b n cp = .slice b (rows.take n).length cp:=by rw[q]
   rw[e];refine .vs _ s false _ _ _ c (λ h=>by cases h) zy (λ r hr=>hw r (QR hr)) (λ h3=>?_) (λ i j hi hj=>h1 i j zy hj) λ i j hi hj=>?_
   .have h2:rows≠[]:=by rintro rfl;simp at h3
    obtain⟨b',off,cells,ty,fz,ha,h4,hT,hc⟩:=hb h2;refine⟨b',off,cells,ty,fz,ha,h4,?_,λ i j hi hj=>hc i j zy hj⟩
    have:n*s<=rows.length*s:=Qy _ hn;rw[q];omega
   .have e1:(rows.take n).getD i []=rows.getD i []:=by simp[List.getD,show i<n by omega]
    rw[e1];exact h i j zy hj
 | rs _ id off len cap a g hg hz h5 u hb =>
   cases hv;simp only[Dg,UZ hn];exact .rs _ _ _ _ _ _ g hg hz zy u hb
 | rk _ id off len cap a g hg hz h5 u hb =>
   cases hv;simp only[Dg,UZ hn];exact .rk _ _ _ _ _ _ g hg hz zy u hb
 | sc _ _ h1 =>
   subst hv
   have h0:n=mm:=by
    simp only[lenOf] at hl;split at hl<;>simp_all
   subst h0;exact .sc _ _ h1
 | _=>simp[lenOf] at hl
theorem iR (m:BF np T0 M0 w0 aA st.hp T M w) {id len:Nat} {v':Value} (hr:AX T w M (.rk id off len c) v) (h5:st.hp id=some en) (h8:en.s=s) (hh:off+len<=en.rows.length) (hj:en.ro<=off+len) {i:TypeInfo} (ht:P.underlying t=some (.slice e)) (hi:P.info? e=some i) (h9:i.size=s) {new:List (List AV)} {u:List Value} (hn:Bw T w M s new u) (h2:Src P i.size tx v' new.length u w) (h4:len+new.length<=c) (hf:∀ r w1,(Builtin.append_ #[t,tx] ty #[v,v']).run P w = .ok r w1->f.run P w = .ok (.value r) w1) :
  Dm P np T0 M0 w0 aA idb (st.upd [(id,some { en with rows:=en.rows.take (off+len)++new++en.rows.drop (off+len+new.length) })]).hp T M w (.rk id off (len+new.length) c) (f.run P w):=by
 cases hr with
 | rk _ _ _ _ _ ad g hg hz hl hb hc =>
 by_cases h0:new=[]
 .subst h0
  have h6:u=[]:=QK (by rw[hn.size];simp)
  rw[h6] at h2;rw[hf _ _ (run_append_nothing (P:=P) w t tx ty e i ht hi ad len c zy v' h2)]
  have e0:en.rows.take (off+len)++[]++en.rows.drop (off+len+([]:List (List AV)).length)=en.rows:=zz
  rw[e0]
  have hm:(st.upd [(id,some { en with rows:=en.rows })]).hp=st.hp:=by
   funext j
   rw[St.hp_upd];simp only[AQ];split
   .rename_i e;subst e;exact h5.symm
   .rfl
  rw[hm];exact⟨T,M,m.wider (λ _ h=>.inl h),Ag.refl _ _,λ _ _ h=>h,.rk _ _ _ _ _ _ g hg hz hl hb hc⟩
 .have hv:0<new.length:=U6.2 h0
  obtain⟨g',ho,ent⟩:=m.hs.ent id en h5;obtain rfl:=Qc (hg.symm.trans ho);have hS:g.s=s:=ent.s.trans h8
  cases q:g.blk with
  | none=>have:=hb q;omega
  | some b =>
    obtain⟨ha,c1,t1,f1,hd,hq⟩:=hc b q
    have hu:ad=some ⟨b,g.base+off*g.s,none⟩:=by
     rcases ha with ha | ha
     .omega
     .exact ha
    subst hu;have h7:(c - len)*g.s+len*g.s=c*g.s:=by rw[<- QJ];congr 1;omega
    refine OO (T:=T) (M:=M) (ad':=some ⟨b,g.base+(off+len)*g.s,none⟩) (cap':=c - len) m (.rs _ id (off+len) 0 _ _ g hg hz (Qn _) (λ h=>by rw[q] at h;cases h) λ b' h3=>?_) h5 h8 hj hh rfl zy hn (val:=.slice (some ⟨b,g.base+off*g.s,none⟩) (len+new.length) c) ?_ λ w1 h1=>?_
    .rw [q] at h3
     obtain rfl:=Qc h3;refine⟨.inr rfl,c1,t1,f1,hd,?_⟩;rw[QJ];omega
    .refine .rk _ id off _ _ _ g hg hz h4 (λ h=>by rw[q] at h;cases h) λ b' h3=>?_
     rw[q] at h3;obtain rfl:=Qc h3;exact⟨.inr rfl,c1,t1,f1,hd,hq⟩
    .refine hf _ _ ?_
     have he:g.base+off*s+len*s=g.base+(off+len)*s:=by rw[QJ];omega
     have h7:=h2.cells;rw[h9] at h7;simp only[hS] at h1 ⊢;rcases h2.kind with ⟨e',hk⟩ | hk<;>simp[Builtin.append_,run_underlying ht,run_underlying hk,sizeOf,typeInfo,hi,h2.len,h4,h9,h7,Addr.add_lit,he,h1]
theorem eK (m:BF np T0 M0 w0 aA st.hp T M w) (aB:∀ k,k<8->¬ aA (idb+k)) (aC:np<=idb) {id len:Nat} {v':Value} (hr:AX T w M (.rk id off len c) v) (h9:st.hp id=some en) (ha:en.s=s) (hh:off+len<=en.rows.length) {i:TypeInfo} (ht:P.underlying t=some (.slice e)) (hi:P.info? e=some i) (hz:i.zero=some zv) (hk:zv.cells.size=s) (hl:i.size=s) {new:List (List AV)} {h0:List Value} (hn:Bw T w M s new h0) (hm:Src P i.size tx v' new.length h0 w) (h4:c<len+new.length) (hb:(len+new.length)*i.bytes<=140737488355328) (a4:len+new.length<=140737488355328) (hf:∀ r w1,(Builtin.append_ #[t,tx] ty #[v,v']).run P w = .ok r w1->f.run P w = .ok (.value r) w1) :
  Dm P np T0 M0 w0 aA idb (st.upd [(idb,some { s:=s,rows:=(en.rows.drop off).take len++new,ro:=0 })]).hp T M w (.rs idb 0 (len+new.length)) (f.run P w):=by
 have h7:((en.rows.drop off).take len).length=len:=zw
 obtain⟨ad,cap,us,hv,hc,h8,hq,h5⟩:=HE m.hs hr (s:=s) (rows:=(en.rows.drop off).take len) (by simp[CJ,h9,ha,hh])
 have hd:s≠0:=by
  cases hr with
  | rk _ _ _ _ _ _ g hg hw =>
    obtain⟨g',hy,ent⟩:=m.hs.ent id en h9;obtain rfl:=Qc (hg.symm.trans hy);rw[<- ha,<- ent.s];exact hw
 have a0:cap=c:=by
  cases hr with
  | rk=>injection hv with h1 h2 h3;exact h3.symm
 subst a0 hv;have q:=h8.append hn
 have he:(Builtin.firstCells i.size ((en.rows.drop off).take len).length (.slice ad ((en.rows.drop off).take len).length cap)).run P w.drew = .ok us.toArray w.drew:=by
  cases ad with
  | none=>rw[run_firstCells_none,hq rfl]
  | some x=>exact run_firstCells_some w.drew _ _ _ _ _ us (by rw[hl];exact h8.size) (λ j u hj=>by simpa using h5 x rfl j u hj)
 rw[h7] at he hc hf;have run:=run_append_grow_src (P:=P) w t tx ty e i zv ht hi hz ad len cap us he v' new.length h0 hm h4 zy (growslice_fits h4 hb)
 have h6:len+new.length<=grownCap w (len+new.length) cap e:=by simp only[grownCap,Question.cut];omega
 refine Gn m aB aC (e:={ s:=s,rows:=(en.rows.drop off).take len++new,ro:=0 }) (hf _ _ run) rfl rfl rfl rfl hd (Qn _) q.wide ?_ (λ i j hi hj=>?_) _ (by simp[AQ]) (λ j x hj hx=>?_) λ M' a1=>?_
 .simp only[UQ,Q4,q.size]
  omega
 .obtain ⟨u,hu,ho,a2⟩:=q.cells hi hj
  refine⟨u,?_,ho,a2⟩;rw[Uf]
  .simpa using hu
  .simp only[Q4,q.size]
   exact EO hi hj
 .simp only[AQ,if_neg (Ne.symm hj)] at hx
  cases hx
 .refine .rs _ _ 0 _ _ _ _ a1 hd h6 (λ hn=>by cases hn) λ b' a3=>?_
  obtain rfl:=Qc a3;refine⟨.inr zz,_,e,(0,0),(Array.getElem?_push_size:(w.drew.heap.push _)[w.drew.heap.size]? = _),?_⟩
  have h1:=h8.size;rw[h7] at h1;simp only[UQ,Q4,Qm,h1,hn.size,size_zeroCells,hk]
  have:(grownCap w (len+new.length) cap e - (len+new.length))*s+(len+new.length)*s=grownCap w (len+new.length) cap e*s:=by
   rw[<- QJ];congr 1;omega
  rw[QJ] at this;omega
theorem Xq (h2:∀ v∈z,v.oneCell'=true) (h5:zv.cells.toList=z) (h1:z.length=s) (len:Nat):Bw T w M s (List.replicate len (z.map .sc)) (Builtin.zeroCells zv.cells len).toList:=by
 have h6:zv.cells=z.toArray:=by rw[<- h5,QL]
 have h3:Builtin.zeroCells zv.cells len=(Array.range (len*z.toArray.size)).map λ i=>z.toArray[i % z.toArray.size]!:=by rw[Builtin.zeroCells,h6]
 have h7:=K5 (T:=T) (w:=w) (M:=M) h2 h1 len (Builtin.zeroCells zv.cells len) _ h3 (by simp[h1])
 refine⟨by rw[h3];simp[h1],λ r hr=>by rw[List.eq_of_mem_replicate hr];simpa using h1,λ u hu=>?_,λ i j hi hj=>?_⟩
 .rw [h3] at hu
  simp only[Array.mem_toList_iff,Array.mem_map,Array.mem_range] at hu;obtain⟨q,hq,rfl⟩:=hu;simp only[Q4] at hq ⊢
  have h4:0<z.length:=by
   rcases UE z.length with h0 | h0
   .rw [h0] at hq;simp at hq
   .exact h0
  have h8:=Nat.mod_lt q h4;have e1:z.toArray[q % z.length]! = z[q % z.length]:=by simp[h8]
  rw[e1];exact h2 _ (Qj _)
 .obtain ⟨u,hu,_,h9⟩:=h7 i j hi hj
  have e1:(Builtin.zeroCells zv.cells len).toList.getD (i*s+j) undef=u:=by simp[List.getD,hu]
  rw[e1];exact h9
theorem oE (m:BF np T0 M0 w0 aA st.hp T M w) (aB:∀ k,k<8->¬ aA (idb+k)) (aC:np<=idb) {id len k:Nat} (hr:AX T w M (.rk id off len c) v) (hk:st.hp id=some en) (hl:en.s=s) (hm:off+len<=en.rows.length) {tn:TypeId} {i:TypeInfo} {kq kn:IntKind} (ht:P.underlying t=some (.slice e)) (hq:P.underlying tn=some (.int kn)) (hi:P.info? e=some i) (hz:i.zero=some zv) (ha:∀ v∈z,v.oneCell'=true) (hc:zv.cells.toList=z) (hd:z.length=s) (hw:i.size=s) (h7:0<s) (h0:0<k) (h4:c<len+k) (hb:(len+k)*i.bytes<=140737488355328) (a4:len+k<=140737488355328) (hf:∀ r w1,(Builtin.append_ #[t,tn] ty #[v,.int kq k]).run P w = .ok r w1->f.run P w = .ok (.value r) w1) :
  Dm P np T0 M0 w0 aA idb (st.upd [(idb,some { s:=s,rows:=(en.rows.drop off).take len++List.replicate k (z.map .sc),ro:=0 })]).hp T M w (.rs idb 0 (len+k)) (f.run P w):=by
 have h8:((en.rows.drop off).take len).length=len:=zw
 obtain⟨ad,cap,us,hv,he,h9,hy,h5⟩:=HE m.hs hr (s:=s) (rows:=(en.rows.drop off).take len) (by simp[CJ,hk,hl,hm])
 have a0:cap=c:=by
  cases hr with
  | rk=>injection hv with h1 h2 h3;exact h3.symm
 subst a0 hv;have hn:=Xq (T:=T) (w:=w) (M:=M) ha hc hd k;have q:=h9.append hn
 have hg:(Builtin.firstCells i.size ((en.rows.drop off).take len).length (.slice ad ((en.rows.drop off).take len).length cap)).run P w.drew = .ok us.toArray w.drew:=by
  cases ad with
  | none=>rw[run_firstCells_none,hy rfl]
  | some x=>exact run_firstCells_some w.drew _ _ _ _ _ us (by rw[hw];exact h9.size) (λ j u hj=>by simpa using h5 x rfl j u hj)
 rw[h8] at hg he hf;have a5:k*i.bytes<=(len+k)*i.bytes:=Qy _ zy
 have run:=Lib.run_append_grow_zeros (P:=P) w t tn ty e i zv kq kn ht hq hi hz ad len cap us hg k h0 zy h4 zy zy (growslice_fits h4 hb)
 have h6:len+k<=grownCap w (len+k) cap e:=by simp only[grownCap,Question.cut];omega
 have hh:zv.cells.size=s:=by rw[<- hd,<- hc];simp
 have h1:=h9.size;rw[h8] at h1
 have e1:us.toArray++Builtin.zeroCells zv.cells k=(us++(Builtin.zeroCells zv.cells k).toList).toArray:=by
  apply Array.ext';simp
 rw[e1] at run;refine Gn m aB aC (e:={ s:=s,rows:=(en.rows.drop off).take len++List.replicate k (z.map .sc),ro:=0 }) (hf _ _ run) rfl rfl rfl rfl (UJ.1 h7) (Qn _) q.wide ?_ (λ i j hi hj=>?_) _ (by simp[AQ]) (λ j x hj hx=>?_) λ M' a1=>?_
 .simp only[UQ,Q4,q.size]
  omega
 .obtain ⟨u,hu,ho,a2⟩:=q.cells hi hj
  refine⟨u,?_,ho,a2⟩;rw[Uf]
  .simpa using hu
  .simp only[Q4,q.size]
   exact EO hi hj
 .simp only[AQ,if_neg (Ne.symm hj)] at hx
  cases hx
 .refine .rs _ _ 0 _ _ _ _ a1 (UJ.1 h7) h6 (λ hn=>by cases hn) λ b' a3=>?_
  obtain rfl:=Qc a3;refine⟨.inr zz,_,e,(0,0),(Array.getElem?_push_size:(w.drew.heap.push _)[w.drew.heap.size]? = _),?_⟩
  have h2:=hn.size;rw[List.length_replicate] at h2;simp only[UQ,Q4,Qm,h1,h2,size_zeroCells,hh]
  have:(grownCap w (len+k) cap e - (len+k))*s+(len+k)*s=grownCap w (len+k) cap e*s:=by
   rw[<- QJ];congr 1;omega
  rw[QJ] at this;omega
theorem rV (m:BF np T0 M0 w0 aA st.hp T M w) (aB:∀ k,k<8->¬ aA (idb+k)) (aC:np<=idb) {k:Nat} {tn:TypeId} {i:TypeInfo} {kq kn:IntKind} (ht:P.underlying t=some (.slice e)) (h7:P.underlying tn=some (.int kn)) (hi:P.info? e=some i) (hz:i.zero=some zv) (h3:∀ v∈z,v.oneCell'=true) (h4:zv.cells.toList=z) (h5:z.length=s) (he:i.size=s) (h1:0<s) (h0:0<k) (hb:k*i.bytes<=140737488355328) (hd:k<=140737488355328) (hf:∀ r w1,(Builtin.append_ #[t,tn] ty #[.slice none 0 0,.int kq k]).run P w = .ok r w1->f.run P w = .ok (.value r) w1) :
  Dm P np T0 M0 w0 aA idb (st.upd [(idb,some { s:=s,rows:=List.replicate k (z.map .sc),ro:=0 })]).hp T M w (.rs idb 0 k) (f.run P w):=by
 have hn:=Xq (T:=T) (w:=w) (M:=M) h3 h4 h5 k;have h8:(Builtin.firstCells i.size 0 (.slice none 0 0)).run P w.drew = .ok ([]:List Value).toArray w.drew:=run_firstCells_none ..;have run:=Lib.run_append_grow_zeros (P:=P) w t tn ty e i zv kq kn ht h7 hi hz none 0 0 [] h8 k h0 zy zy zy zy (growslice_fits zy (by simpa using hb))
 simp only[Uc] at run;have q:k<=grownCap w k 0 e:=by simp only[grownCap,Question.cut];omega
 have h6:zv.cells.size=s:=by rw[<- h5,<- h4];simp
 have e1:([]:List Value).toArray++Builtin.zeroCells zv.cells k=((Builtin.zeroCells zv.cells k).toList).toArray:=by
  apply Array.ext';simp
 rw[e1] at run;refine Gn m aB aC (e:={ s:=s,rows:=List.replicate k (z.map .sc),ro:=0 }) (hf _ _ run) rfl rfl rfl rfl (UJ.1 h1) (Qn _) hn.wide ?_ (λ i j hi hj=>?_) _ (by simp[AQ]) (λ j x hj hx=>?_) λ M' h9=>?_
 .simp only[UQ,Q4,hn.size]
  omega
 .obtain ⟨u,hu,ho,ha⟩:=hn.cells hi hj
  refine⟨u,?_,ho,ha⟩;rw[Uf]
  .simpa using hu
  .simp only[Q4,hn.size]
   exact EO hi hj
 .simp only[AQ,if_neg (Ne.symm hj)] at hx
  cases hx
 .refine .rs _ _ 0 _ _ _ _ h9 (UJ.1 h1) q (λ hn=>by cases hn) λ b' hc=>?_
  obtain rfl:=Qc hc;refine⟨.inr zz,_,e,(0,0),(Array.getElem?_push_size:(w.drew.heap.push _)[w.drew.heap.size]? = _),?_⟩
  have h2:=hn.size;rw[List.length_replicate] at h2;simp only[UQ,Q4,h2,size_zeroCells,h6]
  have:(grownCap w k 0 e - k)*s+k*s=grownCap w k 0 e*s:=by
   rw[<- QJ];congr 1;omega
  omega
theorem IZ {id bytes:Nat} {x y:AV} {h:Nat->Option AD} {K:AV->List Nat->List (Nat × Option AD)->Prop} (hx:¬ ∃ i o l c,x = .rk i o l c):aK P np id (.app s bytes) [x,y] h K = ∃ new old,CJ s h y=some new/\DN s h new x=some old/\(old.1.length+new.length)*bytes<=140737488355328 /\
   old.1.length+new.length<=140737488355328 /\
   K (.rs id 0 (old.1.length+new.length)) (Be x++Be y) ((id,some { s:=s,rows:=old.1++new,ro:=old.2.1 })::old.2.2):=by
 cases x with
 | rk i o l c=>exact absurd ⟨_,_,_,_,rfl⟩ hx
 | _=>rfl
variable (tm:∀ i,AX T w M (st.get i) (a.tmps.getD i undef)) (m:BF np T0 M0 w0 aA st.hp T M w) (aB:∀ k,k<8->¬ aA (idb+k)) (aC:np<=idb)
include tm m aB aC
theorem k7 (o:Oper) (c:Call) (h:o.op = .call c) (hb:c.callee = .builtin .append):Ay P np T0 M0 w0 aA st T M a w idb o:=by
 intro K hk;simp only[Aw,h,hb] at hk;split at hk
 case h_2=>exact False.elim hk
 rename_i t u x y ht hx;have a5:c.argTypes = #[t,u]:=by rw[<- QL (xs:=c.argTypes),ht]
 have a6:c.args = #[x,y]:=by rw[<- QL (xs:=c.args),hx]
 have run:∀ v v',a.eval x=v->a.eval y=v' -> ∀ r w1,(Builtin.append_ #[t,u] o.type #[v,v']).run P w = .ok r w1->(execOp a.eval o).run P w = .ok (.value r) w1:=by
  rintro v v' rfl rfl r w1 hr
  simp[execOp,h,resolve,hb,invoke,builtin,a5,a6,hr]
 have hr:=BG tm x;have hd:=BG tm y;split at hk
 case h_4=>exact False.elim hk
 case h_3 =>
  rename_i e kn hu h4;split at hk
  case h_2=>exact False.elim hk
  rename_i z s b hz hs he;split at hk
  case isFalse=>exact False.elim hk
  rename_i hw;obtain⟨i,zv,hi,h6,h7,h5,hc⟩:=Gb hz;have h2:i.size=s:=by simpa [CB,hi] using hs
  have h8:i.bytes=b:=by simpa [G6,hi] using he
  simp only[List.map] at hk;generalize hX:(AP x).ev st.get=X at *;generalize hY:(AP y).ev st.get=Y at *
  by_cases a2:X = .nilS
  .subst a2
   cases Y<;>(try (simp only[AV.nilS,aK] at hk;done))
   rename_i q
   cases q<;>(try (simp only[AV.nilS,aK] at hk;done))
   rename_i kq n;simp only[AV.nilS,aK] at hk;obtain⟨hy,h0,h9,h1,hk⟩:=hk;have h3:=Bo hd rfl;have a7:=Bo hr rfl;have hn:Value.int kq n = .int kq (n.toNat:Int):=by congr 1;omega
   rw[hn] at h3;exact⟨_,_,_,hk,rV (f:=execOp a.eval o) (ty:=o.type) m aB aC hu h4 hi h6 hc h7 hy h2 hw zy (by rw[h8];exact h9) h1 (run _ _ a7 h3)⟩
  cases X<;>(try (simp only[aK] at hk;done))
  case sc v0 =>
   exfalso
   cases v0<;>(try (simp only[aK] at hk;done))
   rename_i ad l cc
   cases ad<;>cases l<;>cases cc<;>(try (simp only[aK] at hk;done))
   exact a2 rfl
  rename_i id off len c'
  cases Y<;>(try (simp only[aK] at hk;done))
  rename_i q
  cases q<;>(try (simp only[aK] at hk;done))
  rename_i kq n;simp only[aK] at hk;obtain⟨en,hj,hm,hy,ho,h0,a0,h9,h1,hk⟩:=hk;have h3:=Bo hd rfl;have hn:Value.int kq n = .int kq (n.toNat:Int):=by congr 1;omega
  rw[hn] at h3;exact⟨_,_,_,hk,oE (f:=execOp a.eval o) (ty:=o.type) m aB aC hr hj hm ho hu h4 hi h6 hc h7 hy h2 hw zy a0 (by rw[h8];exact h9) h1 (run _ _ rfl h3)⟩
 .rename_i e e' hu h4
  split at hk
  case h_2=>exact False.elim hk
  rename_i s b hs he;split at hk
  case isFalse=>exact False.elim hk
  rename_i hz;obtain⟨z,a1⟩:=Option.isSome_iff_exists.1 hz.1;obtain⟨i,zv,hi,h6,h7,h5,hc⟩:=Gb a1;have h2:i.size=s:=by simpa [CB,hi] using hs
  have h8:i.bytes=b:=by simpa [G6,hi] using he
  simp only[List.map] at hk;generalize hX:(AP x).ev st.get=X at *
  by_cases a3:∃ i o l c,X = .rk i o l c
  .obtain ⟨id,off,len,c',rfl⟩:=a3
   simp only[aK] at hk;obtain⟨new,en,hf,hj,hm,ho,a8,h9,h1,hk⟩:=hk;obtain⟨ad,cap,us,h3,a4,ha,hq,hv⟩:=HE m.hs hd hf
   by_cases hg:len+new.length<=c'
   .rw [if_pos hg] at hk
    exact⟨_,_,_,hk,iR (f:=execOp a.eval o) m hr hj hm ho a8 hu hi h2 ha (by rw[h2];exact OV h4 ha rfl hq hv hz.2) hg (run _ _ rfl h3)⟩
   .rw [if_neg hg] at hk
    exact⟨_,_,_,hk,eK (f:=execOp a.eval o) m aB aC hr hj hm ho hu hi h6 (by rw[<- h7] at h5;simp at h5;omega) h2 ha (by rw[h2];exact OV h4 ha rfl hq hv hz.2) zy (by rw[h8];exact h9) h1 (run _ _ rfl h3)⟩
  rw[IZ a3] at hk;obtain⟨new,old,hf,hh,h9,h1,hk⟩:=hk;obtain⟨ad,cap,us,h3,a4,ha,hq,hv⟩:=HE m.hs hd hf;refine⟨_,_,_,hk,Ye (f:=execOp a.eval o) m aB aC hr hh hu hi h6 (by rw[<- h7] at h5;simp at h5;omega) h2 (UJ.1 hz.2) ha (by rw[h2];exact OV h4 ha rfl hq hv hz.2) (by rw[h8];exact h9) h1 (run _ _ rfl h3)⟩
 .rename_i e hu h4
  split at hk
  case h_2=>exact False.elim hk
  rename_i hs he;split at hk
  case isFalse=>exact False.elim hk
  rename_i hz;obtain⟨z,a1⟩:=Option.isSome_iff_exists.1 hz;obtain⟨i,zv,hi,h6,h7,h5,hc⟩:=Gb a1;have h2:i.size=1:=by simpa [CB,hi] using hs
  have h8:i.bytes=1:=by simpa [G6,hi] using he
  simp only[List.map] at hk;generalize hY:(AP y).ev st.get=Y at *
  cases Y<;>(try (simp only[aK] at hk;done))
  rename_i q
  cases q<;>(try (simp only[aK] at hk;done))
  rename_i bs;simp only[aK] at hk;obtain⟨old,hh,h1,hk⟩:=hk;have h3:=Bo hd rfl;have hl:=KM bs;have:=Ye (f:=execOp a.eval o) (ty:=o.type) m aB aC hr hh hu hi h6 (by rw[<- h7] at h5;simp at h5;omega) h2 (UI 0) (Tb bs) (by rw[h2,hl];exact Src.ofString w h4 bs) (by rw[h8,hl];omega) zy (run _ _ rfl h3)
  rw[hl] at this;exact⟨_,_,_,hk,this⟩
omit aB aC in
theorem bF (o:Oper) (c:Call) (h:o.op = .call c) (hb:c.callee = .builtin .copy):Ay P np T0 M0 w0 aA st T M a w idb o:=by
 intro K hk;simp only[Aw,h,hb] at hk;split at hk
 case h_2=>exact False.elim hk
 rename_i t ts x y ht hx;have hw:c.args = #[x,y]:=by rw[<- QL (xs:=c.args),hx]
 have hy:c.argTypes[0]? = some t:=by rw[<- Array.getElem?_toList,ht];rfl
 split at hk
 case h_2=>exact False.elim hk
 rename_i e hu;split at hk
 case h_2=>exact False.elim hk
 rename_i s hs
 have h8:(sizeOf e).run P w = .ok s w:=by
  simp only[CB,Qr] at hs;obtain⟨i,hi,hs⟩:=hs;simp[sizeOf,typeInfo,hi,hs]
 have hr:=BG tm x;have a3:=BG tm y;simp only[List.map] at hk;generalize hv:a.eval x=v at *;generalize (AP x).ev st.get=X at *;generalize a0:a.eval y=v' at *;generalize (AP y).ev st.get=Y at *
 by_cases ag:∃ i o l c,X = .rk i o l c
 .obtain ⟨id,off,len,cq,rfl⟩:=ag
  simp only[aK] at hk;obtain⟨en,new,mm,he,h0,a4,ai,an,h9,hk⟩:=hk;obtain⟨b',cp',rfl⟩:=WR a3 an;obtain⟨n,hn⟩:=AR (min mm len);rw[<- hn] at hk h9;obtain⟨ad,cap,us,b6,au,h5,a5,a6⟩:=HE m.hs (qY a3 an (show n<=mm by omega)) h9
  injection b6 with q1 q2 q3;subst q1 q3
  have hf:(Builtin.firstCells s n (.slice b' mm cp')).run P w = .ok us.toArray w:=by
   cases b' with
   | none=>rw[run_firstCells_none,a5 rfl]
   | some x=>exact run_firstCells_some w _ _ _ _ _ _ (by rw[h5.size,<- q2]) (λ j u hj=>a6 x rfl j u hj)
  have bo:=hr.rk_rs;have bs:∃ ad' ,v = .slice ad' len cq:=by cases hr;exact⟨_,rfl⟩
  obtain⟨ad',rfl⟩:=bs;have cp:len<=cq:=by cases hr;assumption
  have hh:Nat.min mm len=n:=hn.symm;refine⟨_,_,_,hk,OO m bo he h0 a4 ai q2.symm zy h5 (val:=.int .i64 n) (.sc _ _ rfl) λ w1 h1=>?_⟩
  cases ad' with
  | none =>
    simp at h1;subst h1;simp[execOp,h,resolve,hb,invoke,builtin,Builtin.copy_,hw,hy,hv,a0,B1 hu,h8,Builtin.lenOf,hh,hf,goInt]
  | some x =>
    simp only at h1;simp[execOp,h,resolve,hb,invoke,builtin,Builtin.copy_,hw,hy,hv,a0,B1 hu,h8,Builtin.lenOf,hh,hf,goInt,h1]
 cases X<;>(try (simp only[aK] at hk;done))<;>(try (exact absurd ⟨_,_,_,_,rfl⟩ ag))
 rename_i id off len;simp only[aK] at hk;obtain⟨en,new,he,h0,a4,cd,h9,hk⟩:=hk;obtain⟨ad,cap,us,rfl,au,h5,a5,a6⟩:=HE m.hs a3 h9;obtain⟨n,hn⟩:=AR (min new.length len);have bt:n<=new.length:=zy
 have d0:n<=len:=zy
 rw[<- hn] at hk;have hc:(new.take n).length=n:=zw
 have hd:Bw T w M s (new.take n) (us.take (n*s)):=by
  have d1:n*s<=new.length*s:=Qy _ bt;have c0:(us.take (n*s)).length=n*s:=by rw[QU,h5.size];omega
  refine⟨by rw[c0,hc],λ r hr=>h5.wide r (QR hr),λ u hu=>h5.one u (QR hu),λ i j hi hj=>?_⟩
  rw[hc] at hi;have h1:=EO hi hj;have e1:(new.take n).getD i []=new.getD i []:=by simp[List.getD,hi]
  have e2:(us.take (n*s)).getD (i*s+j) undef=us.getD (i*s+j) undef:=by simp[List.getD,h1]
  rw[e1,e2];exact h5.cell i j zy hj
 have hf:(Builtin.firstCells s n (.slice ad new.length cap)).run P w = .ok (us.take (n*s)).toArray w:=by
  cases ad with
  | none=>rw[run_firstCells_none,a5 rfl];simp
  | some x=>exact run_firstCells_some w _ _ _ _ _ _ (by rw[hd.size,hc]) (λ j u hj=>a6 x rfl j u (by
    rw[Un] at hj;split at hj
    .exact hj
    .cases hj))
 have hh:Nat.min new.length len=n:=hn.symm
 cases hr with
 | rs _ _ _ _ cap' ad' g hg hz hl c2 c3 =>
   obtain⟨g',c4,ent⟩:=m.hs.ent id en he;obtain rfl:=Qc (hg.symm.trans c4)
   have run:∀ w1,(match ad' with | some x=>storeCells x (us.take (n*s)) | none=>pure ()).run P w = .ok () w1->(execOp a.eval o).run P w = .ok (.value (.int .i64 n)) w1:=by
    intro w1 h1
    cases ad' with
    | none =>
      simp at h1;subst h1;simp[execOp,h,resolve,hb,invoke,builtin,Builtin.copy_,hw,hy,hv,a0,B1 hu,h8,Builtin.lenOf,hh,hf,goInt]
    | some x =>
      simp only at h1;simp[execOp,h,resolve,hb,invoke,builtin,Builtin.copy_,hw,hy,hv,a0,B1 hu,h8,Builtin.lenOf,hh,hf,goInt,h1]
   have hS:g.s=s:=ent.s.trans h0
   cases h4:g.blk with
   | none =>
     have c5:=ent.none h4;have hz:=c2 h4;have a1:n=0:=zy
     refine⟨_,_,_,hk,?_⟩;have e0:en.rows.take off++new.take n++en.rows.drop (off+n)=en.rows:=by rw[c5,a1];simp
     have hm:us.take (n*s)=[]:=by rw[a1];simp
     rw[run w (by rw[hm];cases ad'<;>rfl),e0]
     have c6:(st.upd [(id,some { en with rows:=en.rows })]).hp=st.hp:=by
      funext j
      rw[St.hp_upd];simp only[AQ];split
      .rename_i e;subst e;exact he.symm
      .rfl
     rw[c6];exact⟨T,M,m.wider (λ _ h=>.inl h),Ag.refl _ _,λ _ _ h=>h,.sc _ _ rfl⟩
   | some b =>
     obtain⟨ha,c1,t1,f1,d2,cl⟩:=c3 b h4;obtain⟨cells,tyc,⟨fz,h6,hfz⟩,hT,av,cb⟩:=ent.blk (ent.s ▸ hz) b h4;rw[h0] at av hT;have b0:(off+n)*s<=en.rows.length*s:=Qy _ zy
     have b1:g.base+off*s+(us.take (n*s)).length<=cells.size:=by
      rw[hd.size,hc];rw[QJ] at b0;omega
     obtain⟨s1,s2⟩:=L6 cells (g.base+off*s) (us.take (n*s)) b1;have b2:=Jc P b (g.base+off*s) tyc fz (us.take (n*s)) 0 cells w h6 hfz.low (by simpa using b1) hd.one
     simp only[QY] at b2
     have a2:(match ad' with | some x=>storeCells x (us.take (n*s)) | none=>pure ()).run P w = .ok () (w.setRow b (cells.toList.take (g.base+off*s)++us.take (n*s)++cells.toList.drop (g.base+off*s+(us.take (n*s)).length)).toArray):=by
      rcases ha with ha | ha
      .have a1:n=0:=zy
       have hm:us.take (n*s)=[]:=by rw[a1];simp
       rw[hm];simp only[Q0,U7,QY,UK,QL];rw[setRow_self w b cells tyc fz h6]
       cases ad'<;>rfl
      .rw [hS] at ha
       subst ha;exact b2
     have b3:=run _ a2;generalize (cells.toList.take (g.base+off*s)++us.take (n*s)++cells.toList.drop (g.base+off*s+(us.take (n*s)).length)).toArray=cells' at *;rw[hd.size,hc] at s2;have h7:(en.rows.take off++new.take n++en.rows.drop (off+n)).length=en.rows.length:=zw
     obtain⟨M',m1,m2,m3,m4⟩:=m.write (id':=id) (g':=g) (e:={ en with rows:=en.rows.take off++new.take n++en.rows.drop (off+n) }) (cells':=cells') he hg h4 ⟨fz,h6,hfz⟩ s1 (λ q hq=>by
       rw[s2,if_neg];have:en.ro*s<=off*s:=Qy _ a4;omega) (.inl ⟨rfl,rfl⟩) h4 ent.s (ent.s ▸ hz) (by simp only;rw[h7];exact ent.ro) (λ r hr=>by
       simp only[Qo] at hr;rcases hr with (hr | hr) | hr
       .exact ent.wide (ent.s ▸ hz) r (QR hr)
       .simp only;rw[h0];exact hd.wide r hr
       .exact ent.wide (ent.s ▸ hz) r (UC hr)) (by simp only;rw[h0];exact hT) (by simp only;rw[h7,h0];exact av) (λ i' j' hi' a7=>by
       simp only[h7] at hi';simp only[h0] at a7;simp only[h0,s2]
       by_cases b4:off<=i'/\i'<off+n
       .have h1:(i' - off)*s+j'<n*s:=EO zy a7
        have h2:i'*s=off*s+(i' - off)*s:=by rw[<- QJ];congr 1;omega
        rw[if_pos zy]
        obtain⟨u,hu,ho,a8⟩:=hd.cells (i:=i' - off) (j:=j') (by rw[hc];omega) a7
        refine⟨u,by rw[<- hu];congr 1;omega,ho,?_⟩
        have e1:(en.rows.take off++new.take n++en.rows.drop (off+n)).getD i' []=(new.take n).getD (i' - off) []:=by
         simp only[List.getD];rw[QG,Qs zw,QC zw]
         congr 2
         simp;omega
        rw[e1];exact a8
       .obtain ⟨u,hu,ho,a8⟩:=cb i' j' hi' zy
        rw[h0] at hu
        have h3:¬ (g.base+off*s<=g.base+i'*s+j'/\g.base+i'*s+j'<g.base+off*s+n*s):=by
         intro q;apply b4;constructor
         .rcases Ui i' off with h | h
          .have:(i'+1)*s<=off*s:=Qy _ h
           rw[QJ] at this;omega
          .exact h
         .rcases Ui i' (off+n) with h | h
          .exact h
          .have:(off+n)*s<=i'*s:=Qy _ h
           rw[QJ] at this;omega
        rw[if_neg h3];refine⟨u,hu,ho,?_⟩
        have e1:(en.rows.take off++new.take n++en.rows.drop (off+n)).getD i' []=en.rows.getD i' []:=by
         simp only[List.getD];rcases Ui i' off with h | h
         .rw [QG,QC zw,Un,if_pos h]
         .rw [Qs zw,Q9]
          congr 2
          simp;omega
        rw[e1]
        exact a8)
      (hp':=(st.upd [(id,some { en with rows:=en.rows.take off++new.take n++en.rows.drop (off+n) })]).hp) (by rw[St.hp_upd];simp[AQ]) (λ i' e' b5 a9=>by
       rw[St.hp_upd] at a9;simp only[AQ,if_neg (Ne.symm b5)] at a9
       exact⟨b5,a9⟩)
     refine⟨_,_,_,hk,?_⟩;rw[b3];refine⟨T,M',m3.wider λ i' hi'=>?_,m4,m2,.sc _ _ rfl⟩;rcases hi' with hi' | hi'
     .exact .inl hi'
     .subst hi';exact .inl (m.dom _ _ hg)
omit aB aC in
theorem mR (o:Oper) (c:Call) (h:o.op = .call c) (hb:c.callee = .builtin .clear):Ay P np T0 M0 w0 aA st T M a w idb o:=by
 intro K hk;simp only[Aw,h,hb] at hk;split at hk
 case h_2=>exact False.elim hk
 rename_i t x ht hx;have h8:c.args = #[x]:=by rw[<- QL (xs:=c.args),hx]
 have h9:c.argTypes = #[t]:=by rw[<- QL (xs:=c.argTypes),ht]
 split at hk
 case h_2=>exact False.elim hk
 rename_i e hu;split at hk
 case h_2=>exact False.elim hk
 rename_i z s hz hs;obtain⟨i,zv,hi,ha,h6,hy,h3⟩:=Gb hz;have a0:i.size=s:=by simpa [CB,hi] using hs
 have hr:=BG tm x;simp only[List.map] at hk;generalize hv:a.eval x=v at *;generalize (AP x).ev st.get=X at *
 have key:∃ id off len en,AX T w M (.rs id off len) v/\st.hp id=some en/\en.s=s/\z.length=s/\en.ro<=off/\off+len<=en.rows.length/\K .dead [id] [(id,some { en with rows:=en.rows.take off++List.replicate len (z.map .sc)++en.rows.drop (off+len) })]:=by
  cases X<;>(try (simp only[aK] at hk;done))
  .simp only[aK] at hk
   obtain⟨en,hk⟩:=hk;exact⟨_,_,_,en,hr,hk⟩
  .simp only[aK] at hk
   obtain⟨en,hk⟩:=hk;exact⟨_,_,_,en,hr.rk_rs,hk⟩
 clear hk hr
 obtain⟨id,off,len,en,hr,hc,hd,h2,he,hw,hk⟩:=key;refine⟨_,_,_,hk,?_⟩;have a1:zv.cells.size=s:=by rw[<- h2,<- h6];simp
 have hf:∃ ad' cap',v = .slice ad' len cap'/\len<=cap':=by cases hr;exact⟨_,_,rfl,by assumption⟩
 obtain⟨ad',cap',rfl,hg⟩:=hf
 have hh:Bw T w M s (List.replicate len (z.map .sc)) (Builtin.zeroCells zv.cells len).toList:=by
  have hl:zv.cells=z.toArray:=by rw[<- h6,QL]
  have h4:Builtin.zeroCells zv.cells len=(Array.range (len*z.toArray.size)).map λ i=>z.toArray[i % z.toArray.size]!:=by rw[Builtin.zeroCells,hl]
  have h5:=K5 (T:=T) (w:=w) (M:=M) h3 h2 len (Builtin.zeroCells zv.cells len) _ h4 (by simp[h2])
  refine⟨by rw[h4];simp[h2],λ r hr=>by rw[List.eq_of_mem_replicate hr];simpa using h2,λ u hu=>?_,λ i j hi hj=>?_⟩
  .rw [h4] at hu
   simp only[Array.mem_toList_iff,Array.mem_map,Array.mem_range] at hu;obtain⟨q,hq,rfl⟩:=hu;simp only[Q4] at hq ⊢
   have h7:0<z.length:=by
    rcases UE z.length with h0 | h0
    .rw [h0] at hq;simp at hq
    .exact h0
   have hm:=Nat.mod_lt q h7;have e1:z.toArray[q % z.length]! = z[q % z.length]:=by simp[hm]
   rw[e1];exact h3 _ (Qj _)
  .obtain ⟨u,hu,_,hn⟩:=h5 i j hi hj
   have e1:(Builtin.zeroCells zv.cells len).toList.getD (i*s+j) undef=u:=by simp[List.getD,hu]
   rw[e1];exact hn
 refine OO m hr hc hd he zy zz hg hh (val:=.tuple #[]) (.dead _ _) λ w1 h1=>?_
 have h5:(zeroValue e).run P w = .ok zv w:=by simp[zeroValue,typeInfo,hi,ha]
 have ho:(Builtin.clear_ #[t] o.type #[.slice ad' len cap']).run P w = .ok (.tuple #[]) w1:=by
  cases ad' with
  | none =>
    simp at h1;subst h1;simp[Builtin.clear_,B1 hu]
  | some ad =>
    cases len with
    | zero =>
      simp[Builtin.zeroCells,storeCells] at h1;subst h1;simp[Builtin.clear_,B1 hu]
    | succ l=>simp[Builtin.clear_,B1 hu,h5,h1]
 simp[execOp,h,resolve,hb,invoke,builtin,h8,h9,hv,ho]
end
end Go.Proofs.YtnaemfpgdmfmcaaGreatDoor
