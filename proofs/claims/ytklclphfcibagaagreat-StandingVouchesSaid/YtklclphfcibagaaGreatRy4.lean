/- Texts of this claim,merged. -/
import Derived.Test.YtklclphfcibagaaGreatRy3
import Derived.Laws.BytesArg
import Derived.Laws.Externs
import Derived.Scope
set_option linter.unusedSimpArgs false
set_option linter.unusedVariables false
set_option linter.unusedSectionVars false
namespace Go.Proofs.YtklclphfcibagaaGreat
open Go Go.MapKept
theorem zhr {P : Program} {t : TypeId} {z : Value} (h : zh3 P t = some z) : ∃ k v i,P.underlying t = some (.map k v) ∧ P.underlying k = some (.int .i64) ∧ P.info? v = some i ∧ i.zero = some z:=by
 unfold zh3 at h
 split at h
 case h_2=>cases h
 rename_i k v hu
 split at h
 case h_2=>cases h
 rename_i i hk hi
 exact ⟨k,v,i,hu,hk,hi,h⟩
section
variable {P : Program} {np : Nat} {T0 : Nat → Nat} {M0 : GM} {w0 : World} {live : Nat → Prop} {st : St} {T : Nat → Nat} {M : GM} {a : Act} {w : World} {idb : Nat}
variable (tm : ∀ i,Rep T w M (st.get i) (a.tmps.getD i undef)) (m : Mem np T0 M0 w0 live st.hp T M w) (fresh : ∀ k,k < 8 → ¬ live (idb + k)) (npid : np ≤ idb)
include m
theorem zsc {i : Nat} {e : Ent} {v : Value} (hr : Rep T w M (.mp i) v) (he : st.hp i = some e) (hz : e.s = 0) :
  ∃ b es clock g,v = .map (some b) ∧ M i = some g ∧ g.blk = some b ∧ w.heap[b]? = some (.map es clock) ∧ zdG T w M e.rows es.toList:=by
 cases hr with
 | mp _ _ g b hg hgz hb =>
   obtain ⟨g',hg',ent⟩:=m.hs.ent i e he
   obtain rfl:=Option.some.inj (hg.symm.trans hg')
   obtain ⟨b',es,clock,hbb,q1,q2,q3,q4⟩:=ent.mp hz
   obtain rfl:=Option.some.inj (hb.symm.trans hbb)
   exact ⟨_,es,clock,g,rfl,hg,hb,q1,q4⟩
include fresh npid in
theorem zxF (o : Oper) (t : TypeId) (h : o.op = .makeMap t none) : Goal P np T0 M0 w0 live st T M a w idb o:=by
 intro K hk
 simp only [zaB,h] at hk
 split at hk
 case h_2=>exact False.elim hk
 simp only [List.map,aK] at hk
 refine ⟨_,_,_,hk,?_⟩
 have hrun : (execOp a.eval o).run P w = .ok (.value (.map (some w.heap.size))) (w.alloc (.map #[] 0)):=by
  have : (Instr.makeMap t none).run P w = .ok (.map (some w.heap.size)) (w.alloc (.map #[] 0)):=rfl
  simp [execOp,h,this]
 rw [hrun]
 obtain ⟨M',h1,h2,h3,h4⟩:=m.newMap (fresh 0 (by omega)) npid (w1:=w.alloc (.map #[] 0)) rfl rfl rfl rfl (hp':=(st.upd [(idb,some { s:=0,rows:=[] })]).hp) (by rw [St.hp_upd,Nat.add_zero]; simp [lkp]) (fun i e' hi he=>by
  rw [St.hp_upd] at he
  rw [Nat.add_zero] at hi
  simpa [lkp,Ne.symm hi] using he)
 exact ⟨T,M',h3.wider (fun i hi=>hi.elim .inl fun hi=>.inr (by omega)),h4,h2,.mp _ _ _ _ (by simpa using h1) rfl rfl⟩
include tm
theorem zw1 (o : Oper) (t : TypeId) (x y : Operand) (ok : Bool) (h : o.op = .lookup t x y ok) : Goal P np T0 M0 w0 live st T M a w idb o:=by
 intro K hk
 simp only [zaB,h] at hk
 split at hk
 case h_2=>exact False.elim hk
 rename_i z hz
 obtain ⟨kt,vt,inf,hu,hku,hi,hzz⟩:=zhr hz
 simp only [List.map] at hk
 have hr:=zaG tm x
 have hr':=zaG tm y
 generalize hv : a.eval x = v at *
 generalize (opd x).ev st.get = X at *
 generalize hv' : a.eval y = v' at *
 generalize (opd y).ev st.get = Y at *
 cases X <;> (try (simp only [aK] at hk; done))
 cases Y <;> (try (simp only [aK] at hk; done))
 rename_i i q
 cases q <;> (try (simp only [aK] at hk; done))
 rename_i kd n
 cases kd <;> (try (simp only [aK] at hk; done))
 simp only [aK] at hk
 obtain ⟨e,he,hez,hk⟩:=hk
 obtain rfl:=zbF hr' rfl
 obtain ⟨b,es,clock,g,rfl,hg,hb,hw,hm⟩:=zsc m hr he hez
 have hkey : IsKey (.int .i64) (.int .i64 n):=rfl
 rcases hm.find n 0 with ⟨j,en,xv,q1,q2,q3,q4,q5,-,-⟩ | ⟨q1,q2,-,-⟩
 ·refine ⟨_,_,_,hk,?_⟩
  rw [q4]
  have hrun : (Instr.lookup t (.map (some b)) (.int .i64 n) ok).run P w = .ok (if ok then .tuple #[en.val,.bool true] else en.val) w:=by
   simp [Instr.lookup,run_underlying hu,Go.MapKept.run_getObj_map hw,run_checkKey hku hkey,run_findKey hku q1,Result.andThen]
  have hex : (execOp a.eval o).run P w = .ok (.value (if ok then .tuple #[en.val,.bool true] else en.val)) w:=by simp [execOp,h,hv,hv',hrun]
  cases ok with
  | false=>exact zaz m (by simpa using q5) hex
  | true =>
    refine zaz m (v':=.tuple #[en.val,.bool true]) ?_ hex
    refine .tup _ _ _ rfl fun i hi=>?_
    match i,hi with
    | 0,_=>exact q5
    | 1,_=>exact .sc _ _ rfl
 ·refine ⟨_,_,_,hk,?_⟩
  rw [q2]
  have hrun : (Instr.lookup t (.map (some b)) (.int .i64 n) ok).run P w = .ok (if ok then .tuple #[z,.bool false] else z) w:=by
   simp [Instr.lookup,run_underlying hu,Go.MapKept.run_getObj_map hw,run_checkKey hku hkey,run_findKey hku q1,Result.andThen,zeroValue,typeInfo,hi,hzz]
  have hex : (execOp a.eval o).run P w = .ok (.value (if ok then .tuple #[z,.bool false] else z)) w:=by simp [execOp,h,hv,hv',hrun]
  cases ok with
  | false=>exact zaz m (by simpa using zmT z) hex
  | true =>
    refine zaz m (v':=.tuple #[z,.bool false]) ?_ hex
    refine .tup _ _ _ rfl fun i hi=>?_
    match i,hi with
    | 0,_=>exact zmT z
    | 1,_=>exact .sc _ _ rfl
theorem zvu (o : Oper) (t : TypeId) (x y u : Operand) (h : o.op = .mapUpdate t x y u ∨ o.op = .insert t x y u) : Goal P np T0 M0 w0 live st T M a w idb o:=by
 intro K hk
 have hc : zaB P o = (match zh3 P t with | some _=>(.mup,[opd x,opd y,opd u]) | none=>(.bad,[])):=by rcases h with h | h <;> (unfold zaB; rw [h]; rfl)
 rw [hc] at hk
 cases hz : zh3 P t with
 | none=>rw [hz] at hk; exact False.elim hk
 | some z =>
 rw [hz] at hk
 obtain ⟨kt,vt,inf,hu,hku,hi,hzz⟩:=zhr hz
 simp only [List.map] at hk
 have hr:=zaG tm x
 have hr':=zaG tm y
 have hr2:=zaG tm u
 generalize hv : a.eval x = v at *
 generalize (opd x).ev st.get = X at *
 generalize hv' : a.eval y = v' at *
 generalize (opd y).ev st.get = Y at *
 generalize hv2 : a.eval u = v2 at *
 generalize (opd u).ev st.get = U at *
 cases X <;> (try (simp only [aK] at hk; done))
 cases Y <;> (try (simp only [aK] at hk; done))
 rename_i i q
 cases q <;> (try (simp only [aK] at hk; done))
 rename_i kd n
 cases kd <;> (try (simp only [aK] at hk; done))
 simp only [aK] at hk
 obtain ⟨e,he,hez,hk⟩:=hk
 obtain rfl:=zbF hr' rfl
 obtain ⟨b,es,clock,g,rfl,hg,hb,hw,hm⟩:=zsc m hr he hez
 have hkey : IsKey (.int .i64) (.int .i64 n):=rfl
 obtain ⟨g',hg',ent⟩:=m.hs.ent i e he
 have hlen:=hm.set_len n U
 have hro : e.ro ≤ (mset n U e.rows).length:=Nat.le_trans ent.ro hlen
 have hp1 : (st.upd [(i,some { e with rows:=mset n U e.rows })]).hp i = some { e with rows:=mset n U e.rows }:=by rw [St.hp_upd]; simp [lkp]
 have hp2 : ∀ i' e',i' ≠ i → (st.upd [(i,some { e with rows:=mset n U e.rows })]).hp i' = some e' → st.hp i' = some e':=fun i' e' hne he'=>by
  rw [St.hp_upd] at he'
  simpa [lkp,Ne.symm hne] using he'
 refine ⟨_,_,_,hk,?_⟩
 rcases hm.find n 0 with ⟨j,en,xv,q1,q2,q3,q4,q5,q6,-⟩ | ⟨q1,q2,q6,-⟩
 ·have hj : es[j]? = some en:=by simpa using q2
  have hrun : (Instr.mapUpdate t (.map (some b)) (.int .i64 n) v2).run P w = .ok () { w with heap:=w.heap.setIfInBounds b (.map (es.modify j fun e=>{ e with key:=.int .i64 n,val:=v2 }) clock) }:=by
   rw [show (0 + j) = j from Nat.zero_add j] at q1
   simp [Instr.mapUpdate,run_underlying hu,Go.MapKept.run_getObj_map hw,run_checkKey hku hkey,run_findKey hku q1,hj,q3,run_keyThatStays hkey,Go.MapKept.run_setObj_map _ hw,Result.andThen]
  have hex : (execOp a.eval o).run P w = .ok .skip { w with heap:=w.heap.setIfInBounds b (.map (es.modify j fun e=>{ e with key:=.int .i64 n,val:=v2 }) clock) }:=by
   rcases h with h | h <;> simp [execOp,h,hv,hv',hv2,hrun]
  rw [hex]
  obtain ⟨m1,m2⟩:=m.writeMap he hg hb hez hw (e:={ e with rows:=mset n U e.rows }) hez hro (es':=es.modify j fun e=>{ e with key:=.int .i64 n,val:=v2 }) (clock':=clock) (by simpa using q6 U v2 hr2) hp1 hp2
  exact ⟨T,M,m1.wider fun _ h=>.inl h,m2,fun _ _ h=>h,rfl⟩
 ·have hrun : (Instr.mapUpdate t (.map (some b)) (.int .i64 n) v2).run P w = .ok () { w with heap:=w.heap.setIfInBounds b (.map (es.push { key:=.int .i64 n,val:=v2,born:=clock }) (clock + 1)) }:=by
   simp [Instr.mapUpdate,run_underlying hu,Go.MapKept.run_getObj_map hw,run_checkKey hku hkey,run_findKey hku q1,Go.MapKept.run_setObj_map _ hw,Result.andThen]
  have hex : (execOp a.eval o).run P w = .ok .skip { w with heap:=w.heap.setIfInBounds b (.map (es.push { key:=.int .i64 n,val:=v2,born:=clock }) (clock + 1)) }:=by
   rcases h with h | h <;> simp [execOp,h,hv,hv',hv2,hrun]
  rw [hex]
  obtain ⟨m1,m2⟩:=m.writeMap he hg hb hez hw (e:={ e with rows:=mset n U e.rows }) hez hro (es':=es.push { key:=.int .i64 n,val:=v2,born:=clock }) (clock':=clock + 1) (by simpa using q6 U v2 clock hr2) hp1 hp2
  exact ⟨T,M,m1.wider fun _ h=>.inl h,m2,fun _ _ h=>h,rfl⟩
theorem zw4 (o : Oper) (c : Call) (h : o.op = .call c) (hb0 : c.callee = .builtin .delete) : Goal P np T0 M0 w0 live st T M a w idb o:=by
 intro K hk
 simp only [zaB,h,hb0] at hk
 split at hk
 case h_2=>exact False.elim hk
 rename_i t ts x y ht hx
 have hx' : c.args = #[x,y]:=by rw [← Array.toArray_toList (xs:=c.args),hx]
 have ht' : c.argTypes[0]? = some t:=by rw [← Array.getElem?_toList,ht]; rfl
 split at hk
 case h_2=>exact False.elim hk
 rename_i z hz
 obtain ⟨kt,vt,inf,hu,hku,hi,hzz⟩:=zhr hz
 simp only [List.map] at hk
 have hr:=zaG tm x
 have hr':=zaG tm y
 generalize hv : a.eval x = v at *
 generalize (opd x).ev st.get = X at *
 generalize hv' : a.eval y = v' at *
 generalize (opd y).ev st.get = Y at *
 cases X <;> (try (simp only [aK] at hk; done))
 cases Y <;> (try (simp only [aK] at hk; done))
 rename_i i q
 cases q <;> (try (simp only [aK] at hk; done))
 rename_i kd n
 cases kd <;> (try (simp only [aK] at hk; done))
 simp only [aK] at hk
 obtain ⟨e,he,hez,hk⟩:=hk
 obtain rfl:=zbF hr' rfl
 obtain ⟨b,es,clock,g,rfl,hg,hb,hw,hm⟩:=zsc m hr he hez
 have hkey : IsKey (.int .i64) (.int .i64 n):=rfl
 have hp1 : (st.upd [(i,some { e with rows:=mdel n e.rows,ro:=0 })]).hp i = some { e with rows:=mdel n e.rows,ro:=0 }:=by rw [St.hp_upd]; simp [lkp]
 have hp2 : ∀ i' e',i' ≠ i → (st.upd [(i,some { e with rows:=mdel n e.rows,ro:=0 })]).hp i' = some e' → st.hp i' = some e':=fun i' e' hne he'=>by
  rw [St.hp_upd] at he'
  simpa [lkp,Ne.symm hne] using he'
 refine ⟨_,_,_,hk,?_⟩
 have htup : ∀ {w' : World},Rep T w' M (.tup []) (.tuple #[]):=.tup _ _ _ rfl fun i hi=>absurd hi (Nat.not_lt_zero _)
 rcases hm.find n 0 with ⟨j,en,xv,q1,q2,q3,q4,q5,-,q7⟩ | ⟨q1,q2,-,q7⟩
 ·have hex : (execOp a.eval o).run P w = .ok (.value (.tuple #[])) { w with heap:=w.heap.setIfInBounds b (.map (es.eraseIdxIfInBounds j) clock) }:=by
   rw [show (0 + j) = j from Nat.zero_add j] at q1
   simp [execOp,h,resolve,hb0,invoke,builtin,Builtin.delete_,ht',hx',hv,hv',run_underlying hu,Go.MapKept.run_getObj_map hw,run_checkKey hku hkey,run_findKey hku q1,Go.MapKept.run_setObj_map _ hw,Result.andThen]
  rw [hex]
  obtain ⟨m1,m2⟩:=m.writeMap he hg hb hez hw (e:={ e with rows:=mdel n e.rows,ro:=0 }) hez (Nat.zero_le _) (es':=es.eraseIdxIfInBounds j) (clock':=clock) (by simpa using q7) hp1 hp2
  exact ⟨T,M,m1.wider fun _ h=>.inl h,m2,fun _ _ h=>h,htup⟩
 ·have hex : (execOp a.eval o).run P w = .ok (.value (.tuple #[])) { w with heap:=w.heap.setIfInBounds b (.map es clock) }:=by
   simp [execOp,h,resolve,hb0,invoke,builtin,Builtin.delete_,ht',hx',hv,hv',run_underlying hu,Go.MapKept.run_getObj_map hw,run_checkKey hku hkey,run_findKey hku q1,Go.MapKept.run_setObj_map _ hw,Result.andThen]
  rw [hex]
  obtain ⟨m1,m2⟩:=m.writeMap he hg hb hez hw (e:={ e with rows:=mdel n e.rows,ro:=0 }) hez (Nat.zero_le _) (es':=es) (clock':=clock) q7 hp1 hp2
  exact ⟨T,M,m1.wider fun _ h=>.inl h,m2,fun _ _ h=>h,htup⟩
end
theorem zfZ : ∀ {rows : List (List AV)} {bs : List UInt8},zci rows = some bs → ∃ ns : List Int,rows = ns.map (fun n=>[AV.sc (.int .u8 n)]) ∧ bs = ns.map fun n=>UInt8.ofNat n.toNat
 | [],bs,h=>by simp [zci] at h; exact ⟨[],rfl,h⟩
 | r :: rows,bs,h=>by
   unfold zci at h
   split at h
   ·rename_i e; cases e
   ·rename_i n rest e
    cases e
    simp only [Option.map_eq_some_iff] at h
    obtain ⟨bs',h1,rfl⟩:=h
    obtain ⟨ns,rfl,rfl⟩:=zfZ h1
    exact ⟨n :: ns,rfl,rfl⟩
   ·cases h
theorem zuo {P : Program} {fn : Func} {s : Nat} (h : ovlF P fn = some s) : fn.body.isNone = true ∧ (fn.name == "runtime.NumGoroutine") = false ∧ Extern.findNext fn = none ∧
  Extern.find fn = some (Extern.SlicesOverlaps.overlaps fn.params fn.resultTypes) ∧ ∃ t u e,fn.params = #[t,u] ∧ P.underlying t = some (.slice e) ∧ zce P e = some s:=by
 unfold ovlF at h
 split at h
 case isFalse=>cases h
 rename_i hc
 simp only [Bool.and_eq_true,bne_iff_ne,ne_eq,beq_iff_eq,Option.isNone_iff_eq_none] at hc
 obtain ⟨⟨⟨⟨⟨⟨h1,h2⟩,h3⟩,h4⟩,h5⟩,h6⟩,h7⟩:=hc
 have e1 : Extern.allNextRows.lookup "slices.overlaps" = none:=rfl
 have e2 : Extern.allGenericRows.lookup "slices.overlaps" = none:=rfl
 have e3 : Extern.allTypedRows.lookup "slices.overlaps" = some Extern.SlicesOverlaps.overlaps:=rfl
 refine ⟨by simp [h1],by simpa using h2,by simp [Extern.findNext,h3,h4,e1],by simp [Extern.find,h3,h5,h6,h7,e2,e3],?_⟩
 split at h
 case h_2=>cases h
 rename_i t u hp
 split at h
 case h_2=>cases h
 rename_i e hu
 exact ⟨t,u,e,by rw [← Array.toArray_toList (xs:=fn.params),hp],hu,h⟩
theorem zkO : ∃ (q : Question) (s1 s2 : String),∀ (t u : TypeId) (R : Array TypeId) (a b : Option Addr) (la ca lb cb : Nat),Extern.SlicesOverlaps.overlaps #[t,u] R #[.slice a la ca,.slice b lb cb] = (do
  let some t:=(#[t,u] : Array TypeId)[0]? | stuck s1
  let .slice elem ← underlying t | stuck s2
  let size ← sizeOf elem
  match a,b with
  | some a,some b =>
    if la = 0 ∨ lb = 0 ∨ size = 0 then pure (Value.bool false)
    else if a.block != b.block && (← frozen a) && (← frozen b) then unsupported .addressObserved
    else do
     if a.block != b.block then do
      noView a; noView b
      if ← mayBeOne a b then return Value.bool ((← choose q) == 1)
     pure (Value.bool (a.block == b.block && a.off < b.off + lb * size && b.off < a.off + la * size))
  | _,_=>pure (Value.bool false) : Sem Value):=⟨_,"none",_,fun _ _ _ _ _ _ _ _ _=>rfl⟩
section
variable {P : Program} {np : Nat} {T0 : Nat → Nat} {M0 : GM} {w0 : World} {live : Nat → Prop} {st : St} {T : Nat → Nat} {M : GM} {a : Act} {w : World} {idb : Nat}
variable (tm : ∀ i,Rep T w M (st.get i) (a.tmps.getD i undef)) (m : Mem np T0 M0 w0 live st.hp T M w) (fresh : ∀ k,k < 8 → ¬ live (idb + k)) (npid : np ≤ idb)
include tm m
theorem zw0 (o : Oper) (t u : TypeId) (x : Operand) (h : o.op = .convert t u x) (e : TypeId) (h1 : P.underlying t = some (.slice e)) (h2 : P.underlying u = some .string) : Goal P np T0 M0 w0 live st T M a w idb o:=by
 intro K hk
 have hr:=zaG tm x
 simp only [zaB,h,h1,h2] at hk
 split at hk
 case h_2=>exact False.elim hk
 rename_i he
 simp only [List.map,aK] at hk
 obtain ⟨rows,bs,hrows,hbs,hk⟩:=hk
 obtain ⟨ad,cap,us,hv,hcap,hus,hun,huc⟩:=zdb m.hs hr hrows
 obtain ⟨ns,rfl,rfl⟩:=zfZ hbs
 refine ⟨_,_,_,hk,zaz m (.sc _ _ rfl) ?_⟩
 have hus' : us = ns.map (Value.int .u8):=by
  apply List.ext_getElem
  ·rw [hus.size]; simp
  ·intro i hi hi'
   have hl : i < ns.length:=by simpa using hi'
   have:=hus.cell i 0 (by simpa using hl) (by omega)
   have e1 : (ns.map fun n=>[AV.sc (.int .u8 n)]).getD i [] = [AV.sc (.int .u8 ns[i])]:=by simp [List.getD,hl]
   have e2 : us.getD (i * 1 + 0) undef = us[i]:=by simp [List.getD,hi]
   rw [e1,e2] at this
   have:=zbF this rfl
   rw [this]
   simp
 have hconv : (convert t u (a.eval x)).run P w = .ok (.string ⟨(ns.map fun n=>UInt8.ofNat n.toNat).toArray⟩) w:=by
  rw [hv,run_convert_bytes_string w t u e _ _ _ h1 he h2]
  cases ad with
  | none =>
    have h0:=hun rfl
    rw [hus'] at h0
    have : ns = []:=by simpa using h0
    subst this
    simp [Conv.bytesToString]
    rfl
  | some ad =>
    have hl : (loadCells ad (ns.map fun n=>[AV.sc (.int .u8 n)]).length).run P w = .ok (ns.map (Value.int .u8)).toArray w:=by
     have:=run_loadCells_list (P:=P) w ad us (huc ad rfl)
     rw [hus'] at this
     simpa using this
    rw [run_bytesToString w ad _ cap ns hl,foldl_push_bytes]
    congr 3
    have h0 : ByteArray.empty.data = #[]:=rfl
    rw [h0]
    simp
 simp [execOp,h,hconv]
theorem zyn (o : Oper) (c : Call) (f : Operand) (h : o.op = .call c) (hb : c.callee = .value f) {s : Nat} (hov : ovlC P f = some s) : Goal P np T0 M0 w0 live st T M a w idb o:=by
 intro K hk
 have hc : zaB P o = (.ovl s,c.args.toList.map opd):=by simp [zaB,h,hb,hov]
 rw [hc] at hk
 cases f <;> (try (simp [ovlC] at hov; done))
 rename_i g0
 simp only [ovlC] at hov
 split at hov
 case h_2=>cases hov
 rename_i fn hfn
 obtain ⟨hbody,hname,hnext,hfind,t,u,e,hpar,hun,hsz⟩:=zuo hov
 have hsz' : ∀ w,(sizeOf e).run P w = .ok s w:=by
  intro w
  simp only [zce,Option.map_eq_some_iff] at hsz
  obtain ⟨i,hi,hs⟩:=hsz
  simp [sizeOf,typeInfo,hi,hs]
 cases hx : c.args.toList with
 | nil=>rw [hx] at hk; simp [aK] at hk
 | cons x xs =>
 cases xs with
 | nil=>rw [hx] at hk; simp [aK] at hk
 | cons y ys =>
 cases ys with
 | cons z zs=>rw [hx] at hk; simp [aK] at hk
 | nil =>
 have hx' : c.args = #[x,y]:=by rw [← Array.toArray_toList (xs:=c.args),hx]
 rw [hx] at hk
 simp only [List.map_cons,List.map_nil] at hk
 have hr1:=zaG tm x
 have hr2:=zaG tm y
 generalize hv1 : a.eval x = v1 at *
 generalize hv2 : a.eval y = v2 at *
 generalize (opd x).ev st.get = X at *
 generalize (opd y).ev st.get = Y at *
 cases X <;> (try (simp only [aK] at hk; done))
 cases Y <;> (try (simp only [aK] at hk; done))
 rename_i s1 full rows id off len cap2
 simp only [aK] at hk
 obtain ⟨en,hen,hss,hes,hro,hk⟩:=hk
 have hss' : s = s1:=hss.symm
 clear hss
 subst hss'
 refine ⟨_,_,_,hk,zaz m (.sc _ _ rfl) ?_⟩
 cases hr1 with
 | vs _ _ _ _ a1 cap1 c1 hf1 hle1 hw1 hb1 h11 hh1 =>
 cases hr2 with
 | rk _ _ _ _ _ a2 g hg hz hl2 hn2 hb2 =>
 obtain ⟨g',hg',ent⟩:=m.hs.ent id en hen
 obtain rfl:=Option.some.inj (hg.symm.trans hg')
 have hS : g.s = s:=ent.s.trans hes
 have hrun0 : ∀ n,n = rows.length → (Extern.SlicesOverlaps.overlaps fn.params fn.resultTypes #[.slice a1 n cap1,.slice a2 len cap2]).run P w = .ok (.bool false) w:=by
  intro n hn
  obtain ⟨q,s1,s2,zkO⟩:=zkO
  rw [hpar]
  cases a1 with
  | none=>simp [zkO,run_underlying hun,hsz']
  | some x1 =>
  cases a2 with
  | none=>simp [zkO,run_underlying hun,hsz']
  | some x2 =>
  by_cases h0 : n = 0 ∨ len = 0 ∨ s = 0
  ·simp [zkO,run_underlying hun,hsz',h0]
  ·have hne : rows ≠ []:=by rintro rfl; simp at hn; omega
   obtain ⟨b,o1,cells,ty,fz,ha1,hcell,hT1,-⟩:=hb1 hne
   have hpos : 0 < rows.length * s:=Nat.mul_pos (by omega) (by omega)
   obtain ⟨cA,tA,fA,hA,hTA⟩:=m.after.tok b (by omega)
   rw [hcell] at hA
   injection hA with hA
   injection hA with hA1 hA2 hA3
   subst hA1 hA2 hA3
   cases hblk : g.blk with
   | none=>have:=hn2 hblk; omega
   | some b2 =>
   obtain ⟨ha2,-⟩:=hb2 b2 hblk
   obtain ⟨cB,tB,hB,hTB,hszB,-⟩:=ent.blk (ent.s ▸ hz) b2 hblk
   have ha2' : x2 = ⟨b2,g.base + off * g.s,none⟩:=by
    rcases ha2 with h | h
    ·omega
    ·exact Option.some.inj h
   obtain rfl:=Option.some.inj ha1
   subst ha2'
   have hroS : en.ro * en.s ≤ off * en.s:=Nat.mul_le_mul_right _ hro
   rw [hes] at hroS hTB
   have hfb : w.frozen? ⟨b2,g.base + off * g.s,none⟩ = false:=by simp [World.frozen?,hB]
   have hfb2 : w.frozen? ⟨b2,cB.size,none⟩ = false:=by simp [World.frozen?,hB]
   have hsa : w.shape? b = some (ty,cells.size):=by simp [World.shape?,hcell]
   have hsb : w.shape? b2 = some (tB,cB.size):=by simp [World.shape?,hB]
   by_cases hbb : b = b2
   ·subst hbb
    simp [zkO,run_underlying hun,hsz',h0]
    intro h1
    rw [hS,hn]
    omega
   ·have hcz : cells.size ≠ 0:=by omega
    generalize hkA : cells.size = kA at *
    cases kA with
    | zero=>exact absurd rfl hcz
    | succ kA =>
      cases hfa : w.frozen? ⟨b,o1,none⟩ <;> cases hfe : w.frozen? ⟨b,kA + 1,none⟩ <;>
      simp [zkO,run_underlying hun,hsz',h0,hbb,frozen,noView,viewAt,mayBeOne,stringish,shape,Sem.run,hsa,hsb,hfb,hfb2,hfa,hfe]
 have hrun:=hrun0 _ rfl
 have hcall:=run_callFunc_extern hfn hname hbody hnext hfind #[.slice a1 rows.length cap1,.slice a2 len cap2] w
 rw [hrun] at hcall
 simp only [Result.andThen] at hcall
 have hf0 : a.eval (.func g0) = .func (.func g0) #[] #[]:=rfl
 simp [execOp,h,resolve,hb,hf0,Deferred.ofValue,invoke,hx',hv1,hv2,hcall]
include fresh npid
theorem zp4 (o : Oper) : Goal P np T0 M0 w0 live st T M a w idb o:=by
 have bad : (zaB P o).1 = .bad → Goal P np T0 M0 w0 live st T M a w idb o:=by
  intro hb K hk
  rw [hb] at hk
  exact False.elim (by cases h : (zaB P o).2.map (·.ev st.get) <;> (rw [h] at hk; exact hk))
 cases hop : o.op with
 | move x=>exact zwY tm m o x (.inl hop)
 | assign x=>exact zwY tm m o x (.inr hop)
 | pick c x y=>exact zwl tm m o c x y hop
 | alloc t=>exact ztQ m fresh npid o t hop
 | box t x=>exact zxE tm m fresh npid o t x hop
 | build t ps=>exact zuu tm m o t ps hop
 | buildSlice t n ps=>exact zw8 tm m fresh npid o t n ps hop
 | load t x=>exact zwy tm m o t x hop
 | store t x y=>exact zuj tm m o t x y hop
 | nilCheck x=>exact zyc tm m o x hop
 | binOp op t x y u=>exact zxV tm m o op t u x y hop
 | unOp op t x=>exact zAR tm m o op t x hop
 | convert t u x =>
   cases h1 : P.underlying t with
   | none=>exact bad (by simp [zaB,hop,h1])
   | some d1 =>
     cases h2 : P.underlying u with
     | none=>exact bad (by simp [zaB,hop,h1,h2])
     | some d2 =>
       by_cases q1 : ∃ k k',d1 = .int k ∧ d2 = .int k'
       ·obtain ⟨k,k',rfl,rfl⟩:=q1
        exact zwX tm m o t u x hop k k' h1 h2
       ·by_cases q2 : ∃ e,d1 = .slice e ∧ d2 = .string
        ·obtain ⟨e,rfl,rfl⟩:=q2
         exact zw0 tm m o t u x hop e h1 h2
        ·refine bad ?_
         simp only [zaB,hop,h1,h2]
         split
         ·rename_i e1 e2; cases e1; cases e2; exact absurd ⟨_,_,rfl,rfl⟩ q1
         ·rename_i e1 e2; cases e1; cases e2; exact absurd ⟨_,rfl,rfl⟩ q2
         ·rfl
 | makeFunc f first capt =>
   cases f with
   | func f=>exact zAa tm m o f first capt hop
   | _=>exact bad (by simp [zaB,hop])
 | makeSlice t x y=>exact zxS tm m fresh npid o t x y hop
 | slice t x lo hi mx=>exact zw9 tm m o t x lo hi mx hop
 | fieldAddr t x f=>exact zyB tm m o t x f hop
 | field t x f=>exact ztM tm m o t x f hop
 | indexAddr t x y=>exact zyg tm m o t x y hop
 | index t x y=>exact zyu tm m o t x y hop
 | extract x i=>exact zxv tm m o x i hop
 | call c =>
   cases hc : c.callee with
   | value f =>
     cases hov : ovlC P f with
     | none=>exact zwg tm m fresh npid o c f hop hc hov
     | some s=>exact zyn tm m o c f hop hc hov
   | invoke r n=>exact zx8 tm m fresh npid o c r n hop hc
   | builtin b =>
     cases b with
     | append=>exact zsr tm m fresh npid o c hop hc
     | copy=>exact zwx tm m o c hop hc
     | clear=>exact zyx tm m o c hop hc
     | cap=>exact zxa tm m o c hop hc
     | len =>
       cases ht : c.argTypes.toList with
       | nil=>exact bad (by simp [zaB,hop,hc,ht])
       | cons t ts =>
         cases ts with
         | cons t' ts=>exact bad (by simp [zaB,hop,hc,ht])
         | nil =>
           cases hx : c.args.toList with
           | nil=>exact bad (by simp [zaB,hop,hc,ht,hx])
           | cons x xs =>
             cases xs with
             | cons x' xs=>exact bad (by simp [zaB,hop,hc,ht,hx])
             | nil=>exact zxI tm m o c hop hc t x ht hx
     | max=>exact zyy tm m o c hop true (by simpa using hc)
     | min=>exact zyy tm m o c hop false (by simpa using hc)
     | delete=>exact zw4 tm m o c hop hc
     | _=>exact bad (by simp [zaB,hop,hc])
 | makeInterface t x=>exact zys tm m o t x hop
 | makeMap t r =>
   cases r with
   | none=>exact zxF m fresh npid o t hop
   | some r=>exact bad (by simp [zaB,hop])
 | lookup t x y ok=>exact zw1 tm m o t x y ok hop
 | mapUpdate t x y u=>exact zvu tm m o t x y u (.inl hop)
 | insert t x y u=>exact zvu tm m o t x y u (.inr hop)
 | _=>exact bad (by simp [zaB,hop])
end
section
variable {P : Program} {np : Nat} {T0 : Nat → Nat} {M0 : GM} {w0 : World} {live : Nat → Prop} {st : St} {T : Nat → Nat} {M : GM} {a : Act} {w : World}
theorem Ok.mem (ok : Ok np T0 M0 w0 live st T M a w) : Mem np T0 M0 w0 live st.hp T M w:=⟨ok.hs,ok.dom,ok.after⟩
theorem Ok.wider (ok : Ok np T0 M0 w0 live st T M a w) {live' : Nat → Prop} (h : ∀ i,live i → live' i) : Ok np T0 M0 w0 live' st T M a w :=
 ⟨ok.sz,ok.df,ok.tm,ok.hs,fun id g hg=>h _ (ok.dom id g hg),ok.after⟩
theorem Ok.ext (ok : Ok np T0 M0 w0 live st T M a w) {st' : St} (h1 : st'.sz = st.sz) (h2 : ∀ i,st'.get i = st.get i) (h3 : ∀ i,st'.hp i = st.hp i) : Ok np T0 M0 w0 live st' T M a w:=by
 have e : st'.hp = st.hp:=funext h3
 exact ⟨ok.sz.trans h1.symm,ok.df,fun i=>by rw [h2]; exact ok.tm i,by rw [e]; exact ok.hs,ok.dom,ok.after⟩
theorem St.sz_put (st : St) (d : Option Nat) (v : AV) : (st.put d v).sz = st.sz:=by cases d <;> rfl
theorem zmP (a : Act) (d : Option Nat) (v : Value) : (a.put d v).tmps.size = a.tmps.size:=by
 cases d <;> simp [Act.put]
theorem zir (a : Act) (d : Option Nat) (v : Value) : (a.put d v).defers = a.defers:=by cases d <;> rfl
theorem zvi (ok : Ok np T0 M0 w0 live st T M a w) {o : Oper} (hd : o.dst.all (· < st.sz) = true) {id : Nat} {v : AV} {up : List (Nat × Option Ent)}
  (he : Eff P np T0 M0 w0 live id (st.upd up).hp T M w v ((execOp a.eval o).run P w)) {next : Act → World → Prop} {Q : Exit → Act → World → Prop}
  (hn : ∀ T' M' a' w',Ok np T0 M0 w0 (fun i=>live i ∨ (id ≤ i ∧ i < id + 8)) ((st.put o.dst v).upd up) T' M' a' w' → next a' w') : o.wp P a w next Q:=by
 have fin : ∀ T' M' w' v',Mem np T0 M0 w0 (fun i=>live i ∨ (id ≤ i ∧ i < id + 8)) (st.upd up).hp T' M' w' → Pres T w T' w' → (∀ i g,M i = some g → M' i = some g) → Rep T' w' M' v v' → next (a.put o.dst v') w':=by
  intro T' M' w' v' hm hp hM hr
  refine hn T' M' _ w' ⟨?_,?_,?_,?_,hm.dom,hm.after⟩
  ·rw [zmP]
   exact ok.sz.trans (St.sz_put _ _ _).symm
  ·rw [zir]; exact ok.df
  ·exact zsh ok.sz (fun i=>(ok.tm i).mono hp hM) hd hr
  ·have e : ((st.put o.dst v).upd up).hp = (st.upd up).hp:=by
    funext i
    rw [St.hp_upd,St.hp_upd,St.hp_put]
   rw [e]
   exact hm.hs
 unfold Oper.wp
 generalize hrun : (execOp a.eval o).run P w = r at *
 cases r with
 | halt h w'=>exact False.elim he
 | ok n w' =>
   cases n with
   | value v' =>
     obtain ⟨T',M',h1,h2,h3,h4⟩:=he
     exact fin T' M' w' v' h1 h2 h3 h4
   | skip =>
     obtain ⟨T',M',h1,h2,h3,rfl⟩:=he
     exact fin T' M' w' undef h1 h2 h3 (.dead _ _)
   | enter f args =>
     obtain ⟨rfl,hc⟩:=he
     refine hc.mono ?_
     rintro e w'' ⟨v',T',M',rfl,h1,h2,h3,h4⟩
     exact fin T' M' w'' v' h1 h2 h3 h4
   | _=>exact False.elim he
theorem zlH (tm : ∀ i,Rep T w M (st.get i) (a.tmps.getD i undef)) {ops : Array Oper} {o : Oper} {j d : Nat} {want : Bool} {b : Option Bool} (hg : o.guard = some (j,want)) (hj : (ops[j]?).bind (·.dst) = some d) (hb : gdV (st.get d) = some b) :
  Region.wanted o (yielded ops a.tmps) = (b == some want):=by
 have h1:=tm d
 unfold gdV at hb
 split at hb
 ·rename_i b' heq
  obtain rfl:=Option.some.inj hb
  rw [heq] at h1
  have h2:=zbF h1 rfl
  have h3 : a.tmps[d]? = some (.bool b'):=by
   rw [Array.getD_eq_getD_getElem?] at h2
   cases h : a.tmps[d]? with
   | none=>rw [h] at h2; cases h2
   | some v=>rw [h] at h2; simp at h2; rw [h2]
  simp only [Region.wanted,hg,yielded,hj,Option.bind_some,h3]
 ·rename_i heq
  obtain rfl:=Option.some.inj hb
  rw [heq] at h1
  have h3 : a.tmps[d]? = none ∨ ∃ vs,a.tmps[d]? = some (.tuple vs):=by
   rw [Array.getD_eq_getD_getElem?] at h1
   cases h : a.tmps[d]? with
   | none=>exact .inl rfl
   | some v =>
     rw [h] at h1
     simp only [Option.getD_some] at h1
     cases h1
     exact .inr ⟨_,rfl⟩
  rcases h3 with h3 | ⟨vs,h3⟩ <;> simp only [Region.wanted,hg,yielded,hj,Option.bind_some,h3] <;> rfl
 ·cases hb
theorem zdT {ops : Array Oper} {o : Oper} : (zay P ops o).dst = o.dst ∧ ((o.guard = none ∧ (zay P ops o).guard = none ∧ (zay P ops o).op = (zaB P o).1 ∧ (zay P ops o).xs = (zaB P o).2) ∨
  (∃ j want d,o.guard = some (j,want) ∧ (ops[j]?).bind (·.dst) = some d ∧ (zay P ops o).guard = some (d,want) ∧ (zay P ops o).op = (zaB P o).1 ∧ (zay P ops o).xs = (zaB P o).2) ∨
  ((zay P ops o).guard = none ∧ (zay P ops o).op = .bad ∧ (zay P ops o).xs = [])):=by
 unfold zay
 cases hg : o.guard with
 | none=>exact ⟨rfl,.inl ⟨rfl,rfl,rfl,rfl⟩⟩
 | some p =>
   obtain ⟨j,want⟩:=p
   simp only
   cases hj : (ops[j]?).bind (·.dst) with
   | none=>exact ⟨rfl,.inr (.inr ⟨rfl,rfl,rfl⟩)⟩
   | some d=>exact ⟨rfl,.inr (.inl ⟨j,want,d,rfl,hj,rfl,rfl,rfl⟩)⟩
theorem zgs {ops : Array Oper} {n : Nat} (hnp : np ≤ n) {Q : Exit → Act → World → Prop} {K : St → List (List Nat × List Nat) → Prop}
  (hQ : ∀ st tr T M a w,K st tr → Ok np T0 M0 w0 (zcU (n + 8 * ops.size)) st T M a w → Q .normal a w) :
  ∀ (k i : Nat) (st : St) (tr : List (List Nat × List Nat)) (T : Nat → Nat) (M : GM) (a : Act) (w : World),i + k = ops.size → (∀ o ∈ ops,o.dst.all (· < st.sz) = true) →
    Ok np T0 M0 w0 (zcU (n + 8 * i)) st T M a w → zbh P np n i ((ops.toList.map (zay P ops)).drop i) st tr K → wpOps P ops Q (List.range' i k) a w
 | 0,i,st,tr,T,M,a,w,hi,hd,ok,h=>by
   have e : (ops.toList.map (zay P ops)).drop i = []:=by rw [List.drop_eq_nil_iff]; simp; omega
   rw [e] at h
   obtain rfl : i = ops.size:=by omega
   exact hQ st tr T M a w h ok
 | k + 1,i,st,tr,T,M,a,w,hi,hd,ok,h=>by
   have hlt : i < ops.size:=by omega
   have e : (ops.toList.map (zay P ops)).drop i = zay P ops ops[i] :: (ops.toList.map (zay P ops)).drop (i + 1):=by
    rw [List.drop_eq_getElem_cons (by simpa using hlt)]
    simp
   rw [e] at h
   have ho : ops[i]? = some ops[i]:=Array.getElem?_eq_getElem hlt
   have hdi:=hd _ (Array.getElem_mem hlt)
   rw [List.range'_succ,wpOps_cons]
   simp only [wpOp,ho]
   have run : (aK P np (n + 8 * i) (zaB P ops[i]).1 ((zaB P ops[i]).2.map (·.ev st.get)) st.hp fun v rd up=>zbh P np n (i + 1) ((ops.toList.map (zay P ops)).drop (i + 1)) ((st.put ops[i].dst v).upd up) (tr ++ [(rd,up.map (·.1))]) K) →
     ops[i].wp P a w (wpOps P ops Q (List.range' (i + 1) k)) Q:=by
    intro hk
    obtain ⟨v,rd,up,h1,h2⟩:=zp4 ok.tm ok.mem (idb:=n + 8 * i) (fun q hq hl=>by have : n + 8 * i + q < n + 8 * i:=hl; omega) (by omega) ops[i] _ hk
    refine zvi ok hdi h2 fun T' M' a' w' ok'=>?_
    refine zgs hnp hQ k (i + 1) _ _ T' M' a' w' (by omega) (fun o ho=>?_) (ok'.wider fun j hj=>?_) h1
    ·show o.dst.all (· < (st.put _ _).sz) = true
     rw [St.sz_put]; exact hd o ho
    ·rcases hj with hj | hj
     ·have : j < n + 8 * i:=hj
      show j < n + 8 * (i + 1)
      omega
     ·show j < n + 8 * (i + 1)
      omega
   simp only [zbh] at h
   obtain ⟨hdst,hc⟩:=zdT (P:=P) (ops:=ops) (o:=ops[i])
   rcases hc with ⟨g1,g2,g3,g4⟩ | ⟨j,want,d,g1,g2,g3,g4,g5⟩ | ⟨g1,g2,g3⟩
   ·rw [g2] at h
    simp only [g3,g4,hdst] at h
    have hwd : Region.wanted ops[i] (yielded ops a.tmps) = true:=by simp [Region.wanted,g1]
    rw [if_pos hwd]
    exact .inl (run h)
   ·rw [g3] at h
    simp only [g4,g5,hdst] at h
    obtain ⟨b,hb,h⟩:=h
    have hwd:=zlH ok.tm g1 g2 hb
    rw [hwd]
    by_cases hbw : b = some want
    ·subst hbw
     simp only [if_true,beq_self_eq_true] at h ⊢
     exact .inl (run h)
    ·rw [if_neg hbw] at h
     rw [if_neg (by simpa using hbw)]
     refine zgs hnp hQ k (i + 1) (st.put ops[i].dst (.tup [])) _ T M (a.put ops[i].dst undef) w (by omega) (fun o ho=>by rw [St.sz_put]; exact hd o ho) ?_ h
     refine ⟨by rw [zmP,St.sz_put]; exact ok.sz,by rw [zir]; exact ok.df,zsh ok.sz ok.tm hdi (.tup _ [] #[] rfl (fun i hi=>by simp at hi)),?_,fun id g hg=>?_,ok.after⟩
     ·have e : (st.put ops[i].dst (.tup [])).hp = st.hp:=by funext q; rw [St.hp_put]
      rw [e]; exact ok.hs
     ·have : id < n + 8 * i:=ok.dom id g hg
      show id < n + 8 * (i + 1)
      omega
   ·rw [g1] at h
    simp only [g2,g3] at h
    exact False.elim h
end
theorem zd1 {α β : Type} {f g : α → Option β} : ∀ {l : List α},(∀ x ∈ l,f x = g x) → l.filterMap f = l.filterMap g
 | [],_=>rfl
 | x :: l,h=>by
   rw [List.filterMap_cons,List.filterMap_cons,h x List.mem_cons_self,zd1 fun y hy=>h y (List.mem_cons_of_mem _ hy)]
section
variable {P : Program} {np id : Nat} {op : AOp} {xs : List AV} {h : Nat → Option Ent}
theorem zoT {K : AV → List Nat → List (Nat × Option Ent) → Prop} (hk : aK P np id op xs h K) :
  ∃ v rd up,K v rd up ∧ aK P np id op xs h fun v' rd' up'=>v' = v ∧ rd' = rd ∧ up' = up:=by
 by_cases happ : ∃ s b x y,op = .app s b ∧ xs = [x,y] ∧ ¬ ∃ i o l c,x = AV.rk i o l c
 ·obtain ⟨s,b,x,y,rfl,rfl,hx⟩:=happ
  simp only [zl3 hx] at hk ⊢
  obtain ⟨a,b,c,d,e,f,hk⟩:=hk
  exact ⟨_,_,_,hk,a,b,c,d,e,f,rfl,rfl,rfl⟩
 unfold aK at hk ⊢
 split at hk
 all_goals first
  | exact False.elim hk
  | exact ⟨_,_,_,hk,rfl,rfl,rfl⟩
  | (exfalso; exact happ ⟨_,_,_,_,rfl,rfl,fun ⟨_,_,_,_,e⟩=>by subst e; simp_all⟩)
  | (obtain ⟨a,b,c,d,e,f,g,i,j,hk⟩:=hk
     split at hk
     ·rename_i hc
      exact ⟨_,_,_,hk,a,b,c,d,e,f,g,i,j,by rw [if_pos hc]; exact ⟨rfl,rfl,rfl⟩⟩
     ·rename_i hc
      exact ⟨_,_,_,hk,a,b,c,d,e,f,g,i,j,by rw [if_neg hc]; exact ⟨rfl,rfl,rfl⟩⟩)
  | (obtain ⟨a,b,hk⟩:=hk; exact ⟨_,_,_,hk,a,b,rfl,rfl,rfl⟩)
  | (obtain ⟨a,hk⟩:=hk; exact ⟨_,_,_,hk,a,rfl,rfl,rfl⟩)
  | (obtain ⟨a,b,c,hk⟩:=hk; exact ⟨_,_,_,hk,a,b,c,rfl,rfl,rfl⟩)
  | (obtain ⟨a,b,c,d,hk⟩:=hk; exact ⟨_,_,_,hk,a,b,c,d,rfl,rfl,rfl⟩)
  | (obtain ⟨a,b,c,d,e,hk⟩:=hk; exact ⟨_,_,_,hk,a,b,c,d,e,rfl,rfl,rfl⟩)
  | (obtain ⟨a,b,c,d,e,f,hk⟩:=hk; exact ⟨_,_,_,hk,a,b,c,d,e,f,rfl,rfl,rfl⟩)
  | (obtain ⟨a,b,c,d,e,f,g,hk⟩:=hk; exact ⟨_,_,_,hk,a,b,c,d,e,f,g,rfl,rfl,rfl⟩)
  | (obtain ⟨a,b,c,d,e,f,g,i,hk⟩:=hk; exact ⟨_,_,_,hk,a,b,c,d,e,f,g,i,rfl,rfl,rfl⟩)
  | (obtain ⟨a,b,c,d,e,f,g,i,j,hk⟩:=hk; exact ⟨_,_,_,hk,a,b,c,d,e,f,g,i,j,rfl,rfl,rfl⟩)
  | (obtain ⟨a,b,c,d,e,f,g,i,j,k,l,m,n,o,p,hk⟩:=hk; exact ⟨_,_,_,hk,a,b,c,d,e,f,g,i,j,k,l,m,n,o,p,rfl,rfl,rfl⟩)
  | (obtain ⟨a,b,c,d,e,f,g,i,j,k,l,m,n,o,p,q,r,hk⟩:=hk; exact ⟨_,_,_,hk,a,b,c,d,e,f,g,i,j,k,l,m,n,o,p,q,r,rfl,rfl,rfl⟩)
  | (obtain ⟨l,r,n,a,b,c,d,e,f,g,hk⟩:=hk
     split at hk
     ·obtain ⟨i,j,k,hk⟩:=hk; exact ⟨_,_,_,hk,l,r,n,a,b,c,d,e,f,g,i,j,k,rfl,rfl,rfl⟩
     ·obtain ⟨i,j,k,hk⟩:=hk; exact ⟨_,_,_,hk,l,r,n,a,b,c,d,e,f,g,i,j,k,rfl,rfl,rfl⟩
     ·obtain ⟨i,j,k,q,hk⟩:=hk; exact ⟨_,_,_,hk,l,r,n,a,b,c,d,e,f,g,i,j,k,q,rfl,rfl,rfl⟩
     ·obtain ⟨i,j,hk⟩:=hk; exact ⟨_,_,_,hk,l,r,n,a,b,c,d,e,f,g,i,j,rfl,rfl,rfl⟩
     ·exact False.elim hk)
variable {h' : Nat → Option Ent}
theorem zmt {x : AV} (hh : ∀ i ∈ zbH x,h' i = h i) : zc2 h' x = zc2 h x:=by
 cases x with
 | pt i j k =>
   simp only [zc2]
   rw [hh i (by simp [zbH])]
 | _=>rfl
theorem zc8 {s : Nat} {x : AV} (hh : ∀ i ∈ zbH x,h' i = h i) : zbt s h' x = zbt s h x:=by
 cases x with
 | rs i j k =>
   simp only [zbt]
   rw [hh i (by simp [zbH])]
 | rk i j k c =>
   simp only [zbt]
   rw [hh i (by simp [zbH])]
 | sc k =>
   unfold zbt
   split <;> first | rfl | (rename_i e; cases e) | simp_all
 | _=>rfl
theorem zqO {n : Nat} {x : AV} : zbH (cutN n x) = zbH x:=by cases x <;> rfl
theorem zhE {s : Nat} {new : List (List AV)} {x : AV} (hh : ∀ i ∈ zbH x,h' i = h i) : zbN s h' new x = zbN s h new x:=by
 cases x with
 | rs i j k =>
   simp only [zbN]
   rw [hh i (by simp [zbH])]
 | sc k =>
   unfold zbN
   split <;> first | rfl | (rename_i e; cases e) | simp_all
 | vs s' f rows=>cases f <;> rfl
 | _=>rfl
theorem ziS {sn : List Nat} (hh : ∀ i ∈ sn,h' i = h i) : ∀ (n : Nat) (ρ : List (Nat × Nat)) (x : AV),conv ρ sn h' n x = conv ρ sn h n x
 | 0,_,_=>rfl
 | n + 1,ρ,x=>by
   have ih:=fun ρ=>funext (ziS hh n ρ)
   have ih' : ∀ ρ,conv ρ sn h' n = conv ρ sn h n:=ih
   cases x with
   | rs id off len =>
     simp only [conv,ih']
     split
     ·rfl
     ·split
      ·rename_i hin; rw [hh id hin]
      ·rfl
   | rk id off len cap =>
     simp only [conv,ih']
     split
     ·rfl
     ·split
      ·rename_i hin; rw [hh id hin]
      ·rfl
   | pt id i j =>
     simp only [conv,ih']
     split
     ·rfl
     ·split
      ·rename_i hin; rw [hh id hin]
      ·rfl
   | _=>simp only [conv,ih']
theorem ztT {v : AV} {rd : List Nat} {up : List (Nat × Option Ent)} (hk : aK P np id op xs h fun v' rd' up'=>v' = v ∧ rd' = rd ∧ up' = up) (hh : ∀ i ∈ rd,h' i = h i) :
  aK P np id op xs h' fun v' rd' up'=>v' = v ∧ rd' = rd ∧ up' = up:=by
 by_cases happ : ∃ s b x y,op = .app s b ∧ xs = [x,y] ∧ ¬ ∃ i o l c,x = AV.rk i o l c
 ·obtain ⟨s,b,x,y,rfl,rfl,hx⟩:=happ
  simp only [zl3 hx] at hk ⊢
  obtain ⟨new,old,h1,h2,h3,h4,rfl,rfl,rfl⟩:=hk
  exact ⟨new,old,by rw [zc8 fun i hi=>hh i (List.mem_append_right _ hi)]; exact h1,by rw [zhE fun i hi=>hh i (List.mem_append_left _ hi)]; exact h2,h3,h4,rfl,rfl,rfl⟩
 unfold aK at hk ⊢
 split at hk
 all_goals try exact hk
 ·
  obtain ⟨cs,h1,h2,rfl,rfl,rfl⟩:=hk
  exact ⟨cs,by rw [zmt hh]; exact h1,h2,rfl,rfl,rfl⟩
 ·obtain ⟨e,row,cs,h1,h2,h3,h4,h5,h6,rfl,rfl,rfl⟩:=hk
  exact ⟨e,row,cs,by rw [hh _ (by simp)]; exact h1,h2,h3,h4,h5,h6,rfl,rfl,rfl⟩
 ·obtain ⟨rows,bs,h1,h2,rfl,rfl,rfl⟩:=hk
  exact ⟨rows,bs,by rw [zc8 hh]; exact h1,h2,rfl,rfl,rfl⟩
 ·obtain ⟨l,r,n,a,b,c,d,e,f,g,hk⟩:=hk
  refine ⟨l,r,n,a,b,c,d,e,f,g,?_⟩
  split at hk
  ·exact hk
  ·obtain ⟨h0,h1,⟨en,h2,h3⟩,rfl,rfl,rfl⟩:=hk
   exact ⟨h0,h1,⟨en,by rw [hh _ (by simp)]; exact h2,h3⟩,rfl,rfl,rfl⟩
  ·obtain ⟨h0,h1,h4,⟨en,h2,h3⟩,rfl,rfl,rfl⟩:=hk
   exact ⟨h0,h1,h4,⟨en,by rw [hh _ (by simp)]; exact h2,h3⟩,rfl,rfl,rfl⟩
  ·exact hk
  ·exact False.elim hk
 ·obtain ⟨h1,h2,⟨en,h3,h4⟩,rfl,rfl,rfl⟩:=hk
  exact ⟨h1,h2,⟨en,by rw [hh _ (by simp)]; exact h3,h4⟩,rfl,rfl,rfl⟩
 ·obtain ⟨ids,sn,raise,args',hs,res,hs',q1,q2,q3,q4,q5,q6,q7,q8,rfl,rfl,rfl⟩:=hk
  have hsn : ∀ i ∈ sn,h' i = h i:=fun i hi=>hh i (List.mem_append_right _ hi)
  have hid : ∀ i ∈ ids,h' i = h i:=fun i hi=>hh i (List.mem_append_left _ hi)
  have hcv : ∀ n ρ,conv ρ sn h' n = conv ρ sn h n:=fun n ρ=>funext (ziS hsn n ρ)
  refine ⟨ids,sn,raise,args',hs,res,hs',q1,q2,q3,by rw [hcv]; exact q4,?_,q6,q7,q8,rfl,rfl,?_⟩
  ·rw [← q5]
   refine List.map_congr_left fun i hi=>?_
   rw [hid i hi]
   have : zaw ids.zipIdx sn h' 4 = zaw ids.zipIdx sn h 4:=by funext e; simp only [zaw,hcv]
   rw [this]
  ·congr 1
   split
   ·refine zd1 fun i hi=>?_
    rw [hsn i hi]
   ·rfl
 ·obtain ⟨new,e,h1,h2,h3,h4,h5,h6,h7,hk⟩:=hk
  have hrd : ∀ i ∈ rd,h' i = h i:=hh
  split at hk <;> rename_i hc <;> obtain ⟨rfl,rfl,rfl⟩:=hk
  ·exact ⟨new,e,by rw [zc8 fun i hi=>hh i (List.mem_cons_of_mem _ hi)]; exact h1,by rw [hh _ (List.mem_cons_self)]; exact h2,h3,h4,h5,h6,h7,by rw [if_pos hc]; exact ⟨rfl,rfl,rfl⟩⟩
  ·exact ⟨new,e,by rw [zc8 fun i hi=>hh i (List.mem_cons_of_mem _ hi)]; exact h1,by rw [hh _ (List.mem_cons_self)]; exact h2,h3,h4,h5,h6,h7,by rw [if_neg hc]; exact ⟨rfl,rfl,rfl⟩⟩
 ·exfalso; exact happ ⟨_,_,_,_,rfl,rfl,fun ⟨_,_,_,_,e⟩=>by subst e; simp_all⟩
 ·obtain ⟨old,h2,h3,rfl,rfl,rfl⟩:=hk
  exact ⟨old,by rw [zhE hh]; exact h2,h3,rfl,rfl,rfl⟩
 ·obtain ⟨e,h1,h2,h3,h4,h5,h6,h7,h8,rfl,rfl,rfl⟩:=hk
  exact ⟨e,by rw [hh _ (by simp)]; exact h1,h2,h3,h4,h5,h6,h7,h8,rfl,rfl,rfl⟩
 ·obtain ⟨e,new,h1,h2,h3,h4,h5,rfl,rfl,rfl⟩:=hk
  exact ⟨e,new,by rw [hh _ (List.mem_cons_self)]; exact h1,h2,h3,h4,by rw [zc8 fun i hi=>hh i (List.mem_cons_of_mem _ hi)]; exact h5,rfl,rfl,rfl⟩
 ·obtain ⟨e,new,m,h1,h2,h3,h4,h5,h6,rfl,rfl,rfl⟩:=hk
  exact ⟨e,new,m,by rw [hh _ (List.mem_cons_self)]; exact h1,h2,h3,h4,h5,by rw [zc8 fun i hi=>hh i (List.mem_cons_of_mem _ (by rw [zqO] at hi; exact hi))]; exact h6,rfl,rfl,rfl⟩
 ·obtain ⟨e,h1,h2,h3,h4,h5,rfl,rfl,rfl⟩:=hk
  exact ⟨e,by rw [hh _ (List.mem_cons_self)]; exact h1,h2,h3,h4,h5,rfl,rfl,rfl⟩
 ·obtain ⟨e,h1,h2,h3,h4,rfl,rfl,rfl⟩:=hk
  exact ⟨e,by rw [hh _ (List.mem_cons_self)]; exact h1,h2,h3,h4,rfl,rfl,rfl⟩
 ·obtain ⟨e,h1,h2,h3,h4,h5,rfl,rfl,rfl⟩:=hk
  exact ⟨e,by rw [hh _ (List.mem_cons_self)]; exact h1,h2,h3,h4,h5,rfl,rfl,rfl⟩
 ·obtain ⟨f,ids,sn,raise,args',hs,res,hs',q0,q1,q2,q3,q4,q5,q6,q7,q8,rfl,rfl,rfl⟩:=hk
  have hsn : ∀ i ∈ sn,h' i = h i:=fun i hi=>hh i (List.mem_append_right _ hi)
  have hid : ∀ i ∈ ids,h' i = h i:=fun i hi=>hh i (List.mem_append_left _ hi)
  have hcv : ∀ n ρ,conv ρ sn h' n = conv ρ sn h n:=fun n ρ=>funext (ziS hsn n ρ)
  refine ⟨f,ids,sn,raise,args',hs,res,hs',q0,q1,q2,q3,by rw [hcv]; exact q4,?_,q6,q7,q8,rfl,rfl,?_⟩
  ·rw [← q5]
   refine List.map_congr_left fun i hi=>?_
   rw [hid i hi]
   have : zaw ids.zipIdx sn h' 4 = zaw ids.zipIdx sn h 4:=by funext e; simp only [zaw,hcv]
   rw [this]
  ·congr 1
   split
   ·refine zd1 fun i hi=>?_
    rw [hsn i hi]
   ·rfl
 ·obtain ⟨e,h1,h2,rfl,rfl,rfl⟩:=hk
  exact ⟨e,by rw [hh _ (List.mem_cons_self)]; exact h1,h2,rfl,rfl,rfl⟩
 ·obtain ⟨e,h1,h2,rfl,rfl,rfl⟩:=hk
  exact ⟨e,by rw [hh _ (List.mem_cons_self)]; exact h1,h2,rfl,rfl,rfl⟩
 ·obtain ⟨e,h1,h2,rfl,rfl,rfl⟩:=hk
  exact ⟨e,by rw [hh _ (List.mem_cons_self)]; exact h1,h2,rfl,rfl,rfl⟩
end
structure Item where
 dst : Option Nat
 v : AV
 rd : List Nat
 up : List (Nat × Option Ent)
def St.app (st : St) (x : Item) : St:=(st.put x.dst x.v).upd x.up
def St.some (D : Nat → Bool) : Nat → List Item → St → St
 | _,[],st=>st
 | i,x :: xs,st=>St.some D (i + 1) xs (if D i then st.app x else st)
theorem St.app_sz (st : St) (x : Item) : (st.app x).sz = st.sz:=St.sz_put _ _ _
theorem St.some_sz (D : Nat → Bool) : ∀ (xs : List Item) (i : Nat) (st : St),(St.some D i xs st).sz = st.sz
 | [],_,_=>rfl
 | x :: xs,i,st=>by
   rw [St.some,St.some_sz D xs]
   split
   ·exact St.app_sz _ _
   ·rfl
theorem St.get_app (st : St) (x : Item) (j : Nat) : (st.app x).get j = if x.dst = Option.some j then x.v else st.get j:=by
 unfold St.app
 rw [St.get_upd]
 cases h : x.dst with
 | none=>simp [St.put]
 | some d =>
   rw [St.get_put]
   simp
theorem St.hp_app (st : St) (x : Item) (j : Nat) : (st.app x).hp j = (lkp x.up j).elim (st.hp j) id:=by
 unfold St.app
 rw [St.hp_upd,St.hp_put]
theorem St.some_get_congr (D D' : Nat → Bool) (j : Nat) : ∀ (xs : List Item) (i : Nat) (st st' : St),(∀ k x,xs[k]? = Option.some x → x.dst = Option.some j → D (i + k) = D' (i + k)) → st.get j = st'.get j →
  (St.some D i xs st).get j = (St.some D' i xs st').get j
 | [],_,_,_,_,h=>h
 | x :: xs,i,st,st',hk,h=>by
   rw [St.some,St.some]
   refine St.some_get_congr D D' j xs (i + 1) _ _ (fun k y hy hd=>by have:=hk (k + 1) y (by simpa using hy) hd; rwa [show i + (k + 1) = i + 1 + k by omega] at this) ?_
   by_cases hx : x.dst = Option.some j
   ·have:=hk 0 x rfl hx
    rw [Nat.add_zero] at this
    rw [this]
    split
    ·rw [St.get_app,St.get_app,if_pos hx,if_pos hx]
    ·exact h
   ·have e : ∀ s : St,∀ b : Bool,(if b then s.app x else s).get j = s.get j:=by
     intro s b
     cases b
     ·rfl
     ·simp [St.get_app,hx]
    rw [e,e]
    exact h
theorem St.some_hp_congr (D D' : Nat → Bool) (j : Nat) : ∀ (xs : List Item) (i : Nat) (st st' : St),(∀ k x,xs[k]? = Option.some x → lkp x.up j ≠ none → D (i + k) = D' (i + k)) → st.hp j = st'.hp j →
  (St.some D i xs st).hp j = (St.some D' i xs st').hp j
 | [],_,_,_,_,h=>h
 | x :: xs,i,st,st',hk,h=>by
   rw [St.some,St.some]
   refine St.some_hp_congr D D' j xs (i + 1) _ _ (fun k y hy hd=>by have:=hk (k + 1) y (by simpa using hy) hd; rwa [show i + (k + 1) = i + 1 + k by omega] at this) ?_
   by_cases hx : lkp x.up j = none
   ·have e : ∀ s : St,∀ b : Bool,(if b then s.app x else s).hp j = s.hp j:=by
     intro s b
     cases b
     ·rfl
     ·simp [St.hp_app,hx]
    rw [e,e]
    exact h
   ·have:=hk 0 x rfl hx
    rw [Nat.add_zero] at this
    rw [this]
    split
    ·rw [St.hp_app,St.hp_app]
     cases hl : lkp x.up j with
     | none=>exact absurd hl hx
     | some r=>rfl
    ·exact h
theorem St.some_get_last (D : Nat → Bool) (j : Nat) : ∀ (xs : List Item) (i : Nat) (st : St) (k : Nat) (x : Item),xs[k]? = Option.some x → x.dst = Option.some j → D (i + k) = true →
  (∀ k' y,k < k' → xs[k']? = Option.some y → y.dst = Option.some j → D (i + k') = false) → (St.some D i xs st).get j = x.v
 | [],_,_,_,_,h,_,_,_=>by simp at h
 | y :: xs,i,st,0,x,h,hd,hD,hlast=>by
   obtain rfl : y = x:=by simpa using h
   rw [St.some]
   rw [St.some_get_congr D (fun _=>false) j xs (i + 1) _ (st.app y) (fun k z hz hzd=>by have:=hlast (k + 1) z (by omega) (by simpa using hz) hzd; rwa [show i + (k + 1) = i + 1 + k by omega] at this) (by rw [Nat.add_zero] at hD; rw [if_pos hD])]
   have : ∀ (xs : List Item) (i : Nat) (s : St),St.some (fun _=>false) i xs s = s:=by
    intro xs
    induction xs with
    | nil=>intro i s; rfl
    | cons z zs ih=>intro i s; rw [St.some]; exact ih _ _
   rw [this,St.get_app,if_pos hd]
 | y :: xs,i,st,k + 1,x,h,hd,hD,hlast=>by
   rw [St.some]
   exact St.some_get_last D j xs (i + 1) _ k x (by simpa using h) hd (by rwa [show i + 1 + k = i + (k + 1) by omega]) fun k' z hlt hz hzd=>by
    have:=hlast (k' + 1) z (by omega) (by simpa using hz) hzd
    rwa [show i + (k' + 1) = i + 1 + k' by omega] at this
theorem St.some_false : ∀ (xs : List Item) (i : Nat) (s : St),St.some (fun _=>false) i xs s = s
 | [],_,_=>rfl
 | _ :: zs,i,s=>by rw [St.some]; exact St.some_false zs _ _
theorem St.some_hp_last (D : Nat → Bool) (j : Nat) : ∀ (xs : List Item) (i : Nat) (st : St) (k : Nat) (x : Item) (r : Option Ent),xs[k]? = Option.some x → lkp x.up j = Option.some r → D (i + k) = true →
  (∀ k' y,k < k' → xs[k']? = Option.some y → lkp y.up j ≠ none → D (i + k') = false) → (St.some D i xs st).hp j = r
 | [],_,_,_,_,_,h,_,_,_=>by simp at h
 | y :: xs,i,st,0,x,r,h,hd,hD,hlast=>by
   obtain rfl : y = x:=by simpa using h
   rw [St.some]
   rw [St.some_hp_congr D (fun _=>false) j xs (i + 1) _ (st.app y) (fun k z hz hzd=>by have:=hlast (k + 1) z (by omega) (by simpa using hz) hzd; rwa [show i + (k + 1) = i + 1 + k by omega] at this) (by rw [Nat.add_zero] at hD; rw [if_pos hD])]
   rw [St.some_false,St.hp_app,hd]
   rfl
 | y :: xs,i,st,k + 1,x,r,h,hd,hD,hlast=>by
   rw [St.some]
   exact St.some_hp_last D j xs (i + 1) _ k x r (by simpa using h) hd (by rwa [show i + 1 + k = i + (k + 1) by omega]) fun k' z hlt hz hzd=>by
    have:=hlast (k' + 1) z (by omega) (by simpa using hz) hzd
    rwa [show i + (k' + 1) = i + 1 + k' by omega] at this
theorem St.some_take (k : Nat) : ∀ (xs : List Item) (i : Nat) (s : St),St.some (fun j=>decide (j < k)) i xs s = St.some (fun _=>true) i (xs.take (k - i)) s
 | [],i,s=>by simp [St.some]
 | x :: xs,i,s=>by
   by_cases h : i < k
   ·rw [show k - i = (k - (i + 1)) + 1 by omega,List.take_succ_cons,St.some,St.some,St.some_take k xs (i + 1)]
    simp [h]
   ·rw [show k - i = 0 by omega,List.take_zero,St.some,St.some]
    have e : (if decide (i < k) = true then s.app x else s) = s:=by simp [h]
    rw [e,St.some_take k xs (i + 1),show k - (i + 1) = 0 by omega,List.take_zero]
    rfl
inductive Reach (after : List (List Nat)) : Nat → Nat → Prop where
 | one (i j : Nat) (h : i ∈ after.getD j []) : Reach after i j
 | more (i k j : Nat) (h : Reach after i k) (h' : k ∈ after.getD j []) : Reach after i j
theorem zmh (acc : List Nat) (q : Nat → Prop) : ∀ (as : List Nat) (s : Nat),(∀ i,s.testBit i = true → q i) → (∀ a ∈ as,q a ∧ ∀ i,(acc.getD a 0).testBit i = true → q i) →
  ∀ i,(as.foldl (fun s a=>s ||| (2 ^ a ||| acc.getD a 0)) s).testBit i = true → q i
 | [],s,hs,_,i,h=>hs i h
 | a :: as,s,hs,ha,i,h=>by
   refine zmh acc q as _ (fun i hi=>?_) (fun b hb=>ha b (List.mem_cons_of_mem _ hb)) i h
   simp only [Nat.testBit_or,Bool.or_eq_true,Nat.testBit_two_pow,decide_eq_true_eq] at hi
   rcases hi with hi | hi | hi
   ·exact hs i hi
   ·subst hi; exact (ha a List.mem_cons_self).1
   ·exact (ha a List.mem_cons_self).2 i hi
theorem zl4 (after : List (List Nat)) : ∀ (j i : Nat),((zyz after).getD j 0).testBit i = true → Reach after i j:=by
 have key : ∀ (rest pre : List (List Nat)) (acc : List Nat),after = pre ++ rest → acc.length = pre.length → (∀ j i,(acc.getD j 0).testBit i = true → Reach after i j) →
   ∀ j i,((rest.foldl (fun acc as=>acc ++ [as.foldl (fun s a=>s ||| (2 ^ a ||| acc.getD a 0)) 0]) acc).getD j 0).testBit i = true → Reach after i j:=by
  intro rest
  induction rest with
  | nil=>intro pre acc _ _ h; exact h
  | cons as rest ih =>
    intro pre acc he hl h
    refine ih (pre ++ [as]) _ (by rw [he]; simp) (by simp [hl]) fun j i hji=>?_
    by_cases hj : j < acc.length
    ·have : (acc ++ [as.foldl (fun s a=>s ||| (2 ^ a ||| acc.getD a 0)) 0]).getD j 0 = acc.getD j 0:=by simp [List.getD,List.getElem?_append_left hj]
     rw [this] at hji
     exact h j i hji
    ·by_cases hj2 : j = acc.length
     ·subst hj2
      have : (acc ++ [as.foldl (fun s a=>s ||| (2 ^ a ||| acc.getD a 0)) 0]).getD acc.length 0 = as.foldl (fun s a=>s ||| (2 ^ a ||| acc.getD a 0)) 0:=by simp [List.getD]
      rw [this] at hji
      have has : after.getD acc.length [] = as:=by rw [he,hl]; simp [List.getD]
      refine zmh acc (fun i=>Reach after i acc.length) as 0 (fun i hi=>by simp at hi) (fun a ha=>⟨.one _ _ (by rw [has]; exact ha),fun i hi=>.more _ a _ (h a i hi) (by rw [has]; exact ha)⟩) i hji
     ·have : (acc ++ [as.foldl (fun s a=>s ||| (2 ^ a ||| acc.getD a 0)) 0]).getD j 0 = 0:=by
       simp only [List.getD]
       rw [List.getElem?_eq_none (by simp; omega)]
       rfl
      rw [this] at hji
      simp at hji
 exact key after [] [] rfl rfl fun j i h=>by simp [List.getD] at h
section
variable {P : Program} {np : Nat} {T0 : Nat → Nat} {M0 : GM} {w0 : World}
def One (P : Program) (np n i : Nat) (o : zbI) (st : St) (x : Item) : Prop :=
 x.dst = o.dst ∧
 match o.guard with
 | none=>aK P np (n + 8 * i) o.op (o.xs.map (·.ev st.get)) st.hp fun v' rd' up'=>v' = x.v ∧ rd' = x.rd ∧ up' = x.up
 | some (g,want)=>∃ b,gdV (st.get g) = some b ∧ if b = some want then aK P np (n + 8 * i) o.op (o.xs.map (·.ev st.get)) st.hp (fun v' rd' up'=>v' = x.v ∧ rd' = x.rd ∧ up' = x.up) else x.v = .tup [] ∧ x.rd = [] ∧ x.up = []
theorem St.some_true (i j : Nat) : ∀ (xs : List Item) (s : St),St.some (fun _=>true) i xs s = St.some (fun _=>true) j xs s
 | [],_=>rfl
 | x :: xs,s=>by rw [St.some,St.some]; exact St.some_true (i + 1) (j + 1) xs _
theorem runs {n : Nat} {K : St → List (List Nat × List Nat) → Prop} : ∀ (os : List zbI) (i : Nat) (st : St) (tr : List (List Nat × List Nat)),zbh P np n i os st tr K →
  ∃ xs : List Item,xs.length = os.length ∧ (∀ (k : Nat) o x,os[k]? = some o → xs[k]? = some x → One P np n (i + k) o (St.some (fun _=>true) 0 (xs.take k) st) x) ∧
    K (St.some (fun _=>true) 0 xs st) (tr ++ xs.map fun x=>(x.rd,x.up.map (·.1)))
 | [],i,st,tr,h=>⟨[],rfl,fun k o x h=>by simp at h,by simpa [St.some,zbh] using h⟩
 | o :: os,i,st,tr,h=>by
   have fin : ∀ x : Item,One P np n i o st x → zbh P np n (i + 1) os (st.app x) (tr ++ [(x.rd,x.up.map (·.1))]) K →
     ∃ xs : List Item,xs.length = (o :: os).length ∧ (∀ (k : Nat) o' x,(o :: os)[k]? = some o' → xs[k]? = some x → One P np n (i + k) o' (St.some (fun _=>true) 0 (xs.take k) st) x) ∧
       K (St.some (fun _=>true) 0 xs st) (tr ++ xs.map fun x=>(x.rd,x.up.map (·.1))):=by
    intro x hx hk
    obtain ⟨xs,h1,h2,h3⟩:=runs os (i + 1) _ _ hk
    refine ⟨x :: xs,by simp [h1],fun k o' x' ho hx'=>?_,?_⟩
    ·cases k with
     | zero =>
       simp at ho hx'
       subst ho hx'
       exact hx
     | succ k =>
       have:=h2 k o' x' (by simpa using ho) (by simpa using hx')
       rw [show i + 1 + k = i + (k + 1) by omega] at this
       rw [List.take_succ_cons,St.some,if_pos rfl,St.some_true 1 0]
       exact this
    ·rw [St.some,if_pos rfl,St.some_true 1 0]
     simpa using h3
   simp only [zbh] at h
   cases hg : o.guard with
   | none =>
     rw [hg] at h
     obtain ⟨v,rd,up,h1,h2⟩:=zoT h
     exact fin ⟨o.dst,v,rd,up⟩ ⟨rfl,by rw [hg]; exact h2⟩ h1
   | some p =>
     obtain ⟨g,want⟩:=p
     rw [hg] at h
     obtain ⟨b,hb,h⟩:=h
     by_cases hbw : b = some want
     ·rw [if_pos hbw] at h
      obtain ⟨v,rd,up,h1,h2⟩:=zoT h
      exact fin ⟨o.dst,v,rd,up⟩ ⟨rfl,by rw [hg]; exact ⟨b,hb,by rw [if_pos hbw]; exact h2⟩⟩ h1
     ·rw [if_neg hbw] at h
      exact fin ⟨o.dst,.tup [],[],[]⟩ ⟨rfl,by rw [hg]; exact ⟨b,hb,by rw [if_neg hbw]; exact ⟨rfl,rfl,rfl⟩⟩⟩ h
theorem zqV {ops : Array Oper} {n : Nat} (hnp : np ≤ n) {st : St} {Q : Exit → Act → World → Prop} {xs : List Item} (hxl : xs.length = ops.size)
  (hQ : ∀ st' T M a w,(∀ j,st'.get j = (St.some (fun _=>true) 0 xs st).get j) → (∀ j,st'.hp j = (St.some (fun _=>true) 0 xs st).hp j) → st'.sz = st.sz → Ok np T0 M0 w0 (zcU (n + 8 * ops.size)) st' T M a w → Q .normal a w)
  (hd : ∀ o ∈ ops,o.dst.all (· < st.sz) = true)
  (hone : ∀ (k : Nat) o x,(ops.toList.map (zay P ops))[k]? = some o → xs[k]? = some x → One P np n k o (St.some (fun _=>true) 0 (xs.take k) st) x)
  (hord : zdE (ops.toList.map (zay P ops)) (ops.toList.map fun o=>(o.after.toList.filter (Region.binds .any)).map (·.on)) (xs.map fun x=>(x.rd,x.up.map (·.1))) = true) :
  ∀ (fuel : Nat) (listed : Array Bool) (T : Nat → Nat) (M : GM) (a : Act) (w : World),listed.size = ops.size → listed.toList.countP (· == false) ≤ fuel →
    (∀ j,listed.getD j false = true → ∀ i ∈ (ops.toList.map fun o=>(o.after.toList.filter (Region.binds .any)).map (·.on)).getD j [],listed.getD i false = true) →
    Ok np T0 M0 w0 (fun id=>id < n ∨ ∃ i,listed.getD i false = true ∧ n + 8 * i ≤ id ∧ id < n + 8 * i + 8) (St.some (fun i=>listed.getD i false) 0 xs st) T M a w →
    wpAny P .any ops Q fuel listed a w:=by
 generalize hA : (ops.toList.map fun o=>(o.after.toList.filter (Region.binds .any)).map (·.on)) = after at *
 simp only [zdE,Bool.and_eq_true,List.all_eq_true,beq_iff_eq,List.length_map,Array.length_toList,decide_eq_true_eq,List.mem_range,Bool.or_eq_true] at hord
 obtain ⟨⟨hal,hacyc⟩,hpair⟩:=hord
 have hacyc' : ∀ j,∀ i ∈ after.getD j [],i < j:=by
  intro j i hi
  by_cases hj : j < after.length
  ·have e : after.getD j [] = after[j]:=by simp [List.getD,hj]
   rw [e] at hi
   exact hacyc (after[j],j) (by rw [List.mem_zipIdx_iff_getElem?]; exact List.getElem?_eq_getElem hj) i hi
  ·have e : after.getD j [] = []:=by simp [List.getD,hj]
   rw [e] at hi
   simp at hi
 have hget : ∀ k (h : k < ops.size),(ops.toList.map (zay P ops))[k]? = some (zay P ops ops[k]):=fun k h=>by simp [h]
 have htouch : ∀ i j,i < ops.size → j < ops.size → i ≠ j → (Reach after i j ∨ Reach after j i) ∨
   (∀ (hi : i < ops.size) (hj : j < ops.size),zdJ (zay P ops ops[i]) (zay P ops ops[j]) ((xs.getD i ⟨none,.dead,[],[]⟩).rd,(xs.getD i ⟨none,.dead,[],[]⟩).up.map (·.1)) ((xs.getD j ⟨none,.dead,[],[]⟩).rd,(xs.getD j ⟨none,.dead,[],[]⟩).up.map (·.1)) = true ∨
    zdJ (zay P ops ops[j]) (zay P ops ops[i]) ((xs.getD j ⟨none,.dead,[],[]⟩).rd,(xs.getD j ⟨none,.dead,[],[]⟩).up.map (·.1)) ((xs.getD i ⟨none,.dead,[],[]⟩).rd,(xs.getD i ⟨none,.dead,[],[]⟩).up.map (·.1)) = true):=by
  intro i j hi hj hne
  have getx : ∀ k,k < ops.size → (xs.map fun x=>(x.rd,x.up.map (·.1))).getD k ([],[]) = ((xs.getD k ⟨none,.dead,[],[]⟩).rd,(xs.getD k ⟨none,.dead,[],[]⟩).up.map (·.1)):=fun k hk=>by
   have : k < xs.length:=by omega
   simp [List.getD,this]
  have geto : ∀ k (hk : k < ops.size),(ops.toList.map (zay P ops)).getD k default = zay P ops ops[k]:=fun k hk=>by simp [List.getD,hk]
  rcases Nat.lt_or_ge i j with h | h
  ·have:=hpair j hj i h
   rcases this with this | this
   ·exact .inl (.inl (zl4 after j i this))
   ·rw [getx i hi,getx j hj,geto i hi,geto j hj] at this
    exact .inr fun _ _=>.inl this
  ·have:=hpair i hi j (by omega)
   rcases this with this | this
   ·exact .inl (.inr (zl4 after i j this))
   ·rw [getx i hi,getx j hj,geto i hi,geto j hj] at this
    exact .inr fun _ _=>.inr this
 have hgx : ∀ (k : Nat) x,xs[k]? = some x → xs.getD k ⟨none,.dead,[],[]⟩ = x:=fun k x h=>by simp [List.getD,h]
 have hdstx : ∀ (k : Nat) x (hk : k < ops.size),xs[k]? = some x → x.dst = (zay P ops ops[k]).dst:=fun k x hk h=>(hone k _ x (hget k hk) h).1
 have hcompd : ∀ (o : Oper),(zay P ops o).dst = o.dst:=fun o=>zdT.1
 intro fuel
 induction fuel with
 | zero =>
   intro listed T M a w hsz hcount hclosed ok
   have hall : ∀ i,i < ops.size → listed.getD i false = true:=by
    intro i hi
    cases hb : listed.getD i false with
    | true=>rfl
    | false =>
      have : 0 < listed.toList.countP (· == false):=by
       rw [List.countP_pos_iff]
       refine ⟨false,?_,rfl⟩
       have hi' : i < listed.size:=by omega
       have : listed[i] = false:=by simpa [Array.getD,hi'] using hb
       rw [← this]
       simp
      omega
   refine ⟨?_,?_⟩
   ·simp only [Region.ready,List.filter_eq_nil_iff,List.mem_range]
    intro i hi
    have h1:=hall i hi
    have hi' : i < listed.size:=by omega
    have h2 : listed.getD i true = true:=by
     simp only [Array.getD,hi',dite_true] at h1 ⊢
     exact h1
    rw [h2]
    simp
   ·refine hQ _ T M a w (fun j=>?_) (fun j=>?_) (St.some_sz _ _ _ _) (ok.wider fun id hid=>?_)
    ·refine St.some_get_congr _ _ j xs 0 st st (fun k x hk hx=>?_) rfl
     have:=(List.getElem?_eq_some_iff.1 hk).1
     rw [Nat.zero_add]
     exact hall k (by omega)
    ·refine St.some_hp_congr _ _ j xs 0 st st (fun k x hk hx=>?_) rfl
     have:=(List.getElem?_eq_some_iff.1 hk).1
     rw [Nat.zero_add]
     exact hall k (by omega)
    ·show id < n + 8 * ops.size
     rcases hid with hid | ⟨i,h1,h2,h3⟩
     ·omega
     ·have : i < ops.size:=by
       rcases Nat.lt_or_ge i ops.size with h | h
       ·exact h
       ·have : listed.getD i false = false:=by simp [Array.getD,show ¬ i < listed.size by omega]
        rw [this] at h1; cases h1
      omega
 | succ fuel ih =>
   intro listed T M a w hsz hcount hclosed ok
   refine ⟨fun hready=>?_,fun k hk=>?_⟩
   ·
    have hall : ∀ i,i < ops.size → listed.getD i false = true:=by
     intro i
     induction i using Nat.strongRecOn with
     | _ i ihi =>
       intro hi
       cases hb : listed.getD i false with
       | true=>rfl
       | false =>
         exfalso
         have hi' : i < listed.size:=by omega
         have hbi : listed[i] = false:=by simpa [Array.getD,hi'] using hb
         have : i ∈ Region.ready .any ops listed:=by
          simp only [Region.ready,List.mem_filter,List.mem_range,Bool.and_eq_true,Bool.not_eq_true']
          refine ⟨hi,by simp [Array.getD,hi',hbi],?_⟩
          rw [Array.getElem?_eq_getElem hi]
          simp only [Option.map_some,Option.getD_some,Array.all_eq_true_iff_forall_mem]
          intro e he
          by_cases hb : Region.binds .any e = true
          ·have hin : e.on ∈ after.getD i []:=by
            rw [← hA]
            have : (ops.toList.map fun o=>(o.after.toList.filter (Region.binds .any)).map (·.on)).getD i [] = (ops[i].after.toList.filter (Region.binds .any)).map (·.on):=by simp [List.getD,hi]
            rw [this]
            exact List.mem_map.2 ⟨e,List.mem_filter.2 ⟨by simpa using he,hb⟩,rfl⟩
           have hlt:=hacyc' i _ hin
           simp [ihi _ hlt (by omega)]
          ·simp [hb]
         rw [hready] at this
         simp at this
    refine hQ _ T M a w (fun j=>?_) (fun j=>?_) (St.some_sz _ _ _ _) (ok.wider fun id hid=>?_)
    ·refine St.some_get_congr _ _ j xs 0 st st (fun k x hk hx=>?_) rfl
     have:=(List.getElem?_eq_some_iff.1 hk).1
     rw [Nat.zero_add]
     exact hall k (by omega)
    ·refine St.some_hp_congr _ _ j xs 0 st st (fun k x hk hx=>?_) rfl
     have:=(List.getElem?_eq_some_iff.1 hk).1
     rw [Nat.zero_add]
     exact hall k (by omega)
    ·show id < n + 8 * ops.size
     rcases hid with hid | ⟨i,h1,h2,h3⟩
     ·omega
     ·have : i < ops.size:=by
       rcases Nat.lt_or_ge i ops.size with h | h
       ·exact h
       ·have : listed.getD i false = false:=by simp [Array.getD,show ¬ i < listed.size by omega]
        rw [this] at h1; cases h1
      omega
   ·
    simp only [Region.ready,List.mem_filter,List.mem_range,Bool.and_eq_true,Bool.not_eq_true'] at hk
    obtain ⟨hkl,hkf,hka⟩:=hk
    have hk' : k < listed.size:=by omega
    have hkf' : listed[k] = false:=by simpa [Array.getD,hk'] using hkf
    have hkF : listed.getD k false = false:=by simp [Array.getD,hk',hkf']
    rw [Array.getElem?_eq_getElem hkl] at hka
    simp only [Option.map_some,Option.getD_some,Array.all_eq_true_iff_forall_mem] at hka
    have hafter : ∀ i ∈ after.getD k [],listed.getD i false = true:=by
     intro i hi
     rw [← hA] at hi
     have e : (ops.toList.map fun o=>(o.after.toList.filter (Region.binds .any)).map (·.on)).getD k [] = (ops[k].after.toList.filter (Region.binds .any)).map (·.on):=by simp [List.getD,hkl]
     rw [e] at hi
     obtain ⟨ed,h1,rfl⟩:=List.mem_map.1 hi
     obtain ⟨h2,h3⟩:=List.mem_filter.1 h1
     have:=hka ed (by simpa using h2)
     simpa [h3] using this
    have hreach1 : ∀ i j,Reach after i j → (listed.getD j false = true ∨ j = k) → listed.getD i false = true:=by
     intro i j hr
     induction hr with
     | one j h =>
       rintro (h1 | rfl)
       ·exact hclosed j h1 i h
       ·exact hafter i h
     | more m j h1 h2 ihr =>
       rintro (h3 | rfl)
       ·exact ihr (.inl (hclosed j h3 m h2))
       ·exact ihr (.inl (hafter m h2))
    have hreach2 : ∀ j,Reach after k j → listed.getD j false = false:=by
     intro j hr
     cases hb : listed.getD j false with
     | false=>rfl
     | true=>rw [hreach1 k j hr (.inl hb)] at hkF; cases hkF
    have hreachlt : ∀ i j,Reach after i j → i < j:=by
     intro i j hr
     induction hr with
     | one j h=>exact hacyc' j i h
     | more m j h1 h2 ihr=>have:=hacyc' j m h2; omega
    have hfix : ∀ i x,i ≠ k → xs[i]? = some x → (∀ hi : i < ops.size,zdJ (zay P ops ops[i]) (zay P ops ops[k]) (x.rd,x.up.map (·.1)) ((xs.getD k ⟨none,.dead,[],[]⟩).rd,(xs.getD k ⟨none,.dead,[],[]⟩).up.map (·.1)) = false ∧
      zdJ (zay P ops ops[k]) (zay P ops ops[i]) ((xs.getD k ⟨none,.dead,[],[]⟩).rd,(xs.getD k ⟨none,.dead,[],[]⟩).up.map (·.1)) (x.rd,x.up.map (·.1)) = false) → listed.getD i false = decide (i < k):=by
     intro i x hne hx hap
     have hi : i < ops.size:=by have:=(List.getElem?_eq_some_iff.1 hx).1; omega
     obtain ⟨p1,p2⟩:=hap hi
     rcases htouch i k hi hkl hne with (h | h) | h
     ·have hlt:=hreachlt _ _ h
      rw [hreach1 i k h (.inr rfl)]
      simp [hlt]
     ·have hlt:=hreachlt _ _ h
      rw [hreach2 i h]
      simp
      omega
     ·rcases h hi hkl with h | h
      ·rw [hgx i x hx] at h; rw [h] at p1; cases p1
      ·rw [hgx i x hx] at h; rw [h] at p2; cases p2
    obtain ⟨xk,hxk⟩ : ∃ xk,xs[k]? = some xk:=⟨_,List.getElem?_eq_getElem (by omega)⟩
    have hxk':=hgx k xk hxk
    have hO:=hone k _ xk (hget k hkl) hxk
    rw [hxk'] at hfix
    have hnames : ∀ t,t ∈ (zay P ops ops[k]).names → (St.some (fun i=>listed.getD i false) 0 xs st).get t = (St.some (fun _=>true) 0 (xs.take k) st).get t ∨ (zay P ops ops[k]).dst = some t ∧ False ∨
      (St.some (fun i=>listed.getD i false) 0 xs st).get t = (St.some (fun _=>true) 0 (xs.take k) st).get t:=by
     intro t ht
     left
     have e:=St.some_take k xs 0 st
     rw [Nat.sub_zero] at e
     rw [← e]
     refine St.some_get_congr _ _ t xs 0 st st (fun i x hx hxd=>?_) rfl
     rw [Nat.zero_add]
     by_cases hik : i = k
     ·subst hik; rw [hkF]; simp
     ·refine hfix i x hik hx fun hi=>?_
      have hdi : (zay P ops ops[i]).dst = some t:=by rw [← hdstx i x hi hx]; exact hxd
      constructor
      ·simp [zdJ,hdi,ht]
      ·simp [zdJ,hdi,ht]
    have hgets : ∀ t,t ∈ (zay P ops ops[k]).names → (St.some (fun i=>listed.getD i false) 0 xs st).get t = (St.some (fun _=>true) 0 (xs.take k) st).get t:=fun t ht=>by
     rcases hnames t ht with h | h | h
     ·exact h
     ·exact h.2.elim
     ·exact h
    have hreads : ∀ id ∈ xk.rd,(St.some (fun i=>listed.getD i false) 0 xs st).hp id = (St.some (fun _=>true) 0 (xs.take k) st).hp id:=by
     intro id hid
     have e:=St.some_take k xs 0 st
     rw [Nat.sub_zero] at e
     rw [← e]
     refine St.some_hp_congr _ _ id xs 0 st st (fun i x hx hxu=>?_) rfl
     rw [Nat.zero_add]
     by_cases hik : i = k
     ·subst hik; rw [hkF]; simp
     ·refine hfix i x hik hx fun hi=>?_
      have hin : id ∈ x.up.map (·.1):=by
       cases hl : lkp x.up id with
       | none=>exact absurd hl hxu
       | some r=>exact List.mem_map.2 ⟨_,zbK hl,rfl⟩
      constructor
      ·have : zm6 (x.rd,x.up.map (·.1)) (xk.rd,xk.up.map (·.1)) = true:=by
        simp only [zm6,Bool.or_eq_true,List.any_eq_true]
        exact .inl ⟨id,hin,.inl (by simpa using hid)⟩
       simp [zdJ,this]
      ·have : zm6 (xk.rd,xk.up.map (·.1)) (x.rd,x.up.map (·.1)) = true:=by
        simp only [zm6,Bool.or_eq_true,List.any_eq_true]
        exact .inr ⟨id,hid,by simpa using hin⟩
       simp [zdJ,this]
    have hsetD : ∀ i,(listed.setIfInBounds k true).getD i false = if i = k then true else listed.getD i false:=by
     intro i
     by_cases hik : i = k
     ·subst hik; simp [Array.getD,hk']
     ·rw [if_neg hik]
      simp only [Array.getD_eq_getD_getElem?]
      rw [Array.getElem?_setIfInBounds_ne (Ne.symm hik)]
    have hstep : ∀ T' M' a' w',Ok np T0 M0 w0 (fun id=>(id < n ∨ ∃ i,listed.getD i false = true ∧ n + 8 * i ≤ id ∧ id < n + 8 * i + 8) ∨ (n + 8 * k ≤ id ∧ id < n + 8 * k + 8)) ((St.some (fun i=>listed.getD i false) 0 xs st).app xk) T' M' a' w' →
      wpAny P .any ops Q fuel (listed.setIfInBounds k true) a' w':=by
     intro T' M' a' w' ok'
     refine ih (listed.setIfInBounds k true) T' M' a' w' (by simpa using hsz) ?_ (fun j hj i hi=>?_) ?_
     ·rw [Array.toList_setIfInBounds,List.countP_set (by simpa using hk')]
      have : listed.toList[k]'(by simpa using hk') = false:=by simpa using hkf'
      rw [this]
      show listed.toList.countP (· == false) - 1 + 0 ≤ fuel
      omega
     ·rw [hsetD] at hj ⊢
      split
      ·rfl
      ·split at hj
       ·rename_i hjk; subst hjk; exact hafter i hi
       ·exact hclosed j hj i hi
     ·refine (ok'.ext (St.some_sz _ _ _ _ |>.trans (St.app_sz _ _ |>.trans (St.some_sz _ _ _ _)).symm) (fun t=>?_) (fun id=>?_)).wider fun id hid=>?_
      ·rw [St.get_app]
       split
       ·rename_i hdt
        refine St.some_get_last _ t xs 0 st k xk hxk hdt (by rw [Nat.zero_add,hsetD,if_pos rfl]) fun i x hlt hx hxd=>?_
        rw [Nat.zero_add,hsetD,if_neg (by omega)]
        have hdk : (zay P ops ops[k]).dst = some t:=by rw [← hdstx k xk hkl hxk]; exact hdt
        have:=hfix i x (by omega) hx fun hi=>by
         have hdi : (zay P ops ops[i]).dst = some t:=by rw [← hdstx i x hi hx]; exact hxd
         have hmem : t ∈ (zay P ops ops[k]).names:=by simp [zbI.names,hdk]
         constructor
         ·simp [zdJ,hdi,hmem]
         ·simp [zdJ,hdi,hmem]
        rw [this]
        simp
        omega
       ·rename_i hdt
        refine St.some_get_congr _ _ t xs 0 st st (fun i x hx hxd=>?_) rfl
        rw [Nat.zero_add,hsetD,if_neg]
        rintro rfl
        rw [hxk] at hx
        cases hx
        exact hdt hxd
      ·rw [St.hp_app]
       cases hl : lkp xk.up id with
       | some r =>
         refine St.some_hp_last _ id xs 0 st k xk r hxk hl (by rw [Nat.zero_add,hsetD,if_pos rfl]) fun i x hlt hx hxu=>?_
         rw [Nat.zero_add,hsetD,if_neg (by omega)]
         have hin : id ∈ x.up.map (·.1):=by
          cases hl : lkp x.up id with
          | none=>exact absurd hl hxu
          | some r=>exact List.mem_map.2 ⟨_,zbK hl,rfl⟩
         have hin' : id ∈ xk.up.map (·.1):=List.mem_map.2 ⟨_,zbK hl,rfl⟩
         have:=hfix i x (by omega) hx fun hi=>by
          constructor
          ·have : zm6 (x.rd,x.up.map (·.1)) (xk.rd,xk.up.map (·.1)) = true:=by
            simp only [zm6,Bool.or_eq_true,List.any_eq_true]
            exact .inl ⟨id,hin,.inr (by simpa using hin')⟩
           simp [zdJ,this]
          ·have : zm6 (xk.rd,xk.up.map (·.1)) (x.rd,x.up.map (·.1)) = true:=by
            simp only [zm6,Bool.or_eq_true,List.any_eq_true]
            exact .inl ⟨id,hin',.inr (by simpa using hin)⟩
           simp [zdJ,this]
         rw [this]
         simp
         omega
       | none =>
         refine St.some_hp_congr _ _ id xs 0 st st (fun i x hx hxu=>?_) rfl
         rw [Nat.zero_add,hsetD,if_neg]
         rintro rfl
         rw [hxk] at hx
         cases hx
         exact hxu hl
      ·rcases hid with (hid | ⟨i,h1,h2⟩) | hid
       ·exact .inl hid
       ·refine .inr ⟨i,?_,h2⟩
        rw [hsetD]
        split
        ·rfl
        ·exact h1
       ·exact .inr ⟨k,by rw [hsetD,if_pos rfl],hid⟩
    have hfresh : ∀ q,q < 8 → ¬ (n + 8 * k + q < n ∨ ∃ i,listed.getD i false = true ∧ n + 8 * i ≤ n + 8 * k + q ∧ n + 8 * k + q < n + 8 * i + 8):=by
     rintro q hq (h | ⟨i,h1,h2,h3⟩)
     ·omega
     ·have : i = k:=by omega
      subst this
      rw [hkF] at h1
      cases h1
    have ho : ops[k]? = some ops[k]:=Array.getElem?_eq_getElem hkl
    have hdk : ops[k].dst.all (· < (St.some (fun i=>listed.getD i false) 0 xs st).sz) = true:=by rw [St.some_sz]; exact hd _ (Array.getElem_mem hkl)
    simp only [wpOp,ho]
    have hxs : (zay P ops ops[k]).xs.map (·.ev (St.some (fun i=>listed.getD i false) 0 xs st).get) = (zay P ops ops[k]).xs.map (·.ev (St.some (fun _=>true) 0 (xs.take k) st).get):=by
     refine List.map_congr_left fun x hx=>?_
     cases x with
     | t i =>
       refine hgets i ?_
       simp only [zbI.names,List.mem_append,List.mem_filterMap]
       exact .inl (.inl ⟨_,hx,rfl⟩)
     | _=>rfl
    have run : (aK P np (n + 8 * k) (zay P ops ops[k]).op ((zay P ops ops[k]).xs.map (·.ev (St.some (fun _=>true) 0 (xs.take k) st).get)) (St.some (fun _=>true) 0 (xs.take k) st).hp fun v' rd' up'=>v' = xk.v ∧ rd' = xk.rd ∧ up' = xk.up) →
      (zay P ops ops[k]).op = (zaB P ops[k]).1 → (zay P ops ops[k]).xs = (zaB P ops[k]).2 → ops[k].wp P a w (wpAny P .any ops Q fuel (listed.setIfInBounds k true)) Q:=by
     intro hk hop hxo
     have hk2:=ztT (h':=(St.some (fun i=>listed.getD i false) 0 xs st).hp) hk hreads
     rw [← hxs,hop,hxo] at hk2
     obtain ⟨v,rd,up,⟨rfl,rfl,rfl⟩,h2⟩:=zp4 ok.tm ok.mem (idb:=n + 8 * k) hfresh (by omega) ops[k] _ hk2
     refine zvi ok hdk h2 fun T' M' a' w' ok'=>?_
     refine hstep T' M' a' w' ?_
     have e : (St.some (fun i=>listed.getD i false) 0 xs st).app xk = ((St.some (fun i=>listed.getD i false) 0 xs st).put ops[k].dst xk.v).upd xk.up:=by
      unfold St.app
      rw [hdstx k xk hkl hxk,hcompd]
     rw [e]
     exact ok'
    obtain ⟨hdst,hc⟩:=zdT (P:=P) (ops:=ops) (o:=ops[k])
    obtain ⟨hO1,hO2⟩:=hO
    rcases hc with ⟨g1,g2,g3,g4⟩ | ⟨j,want,d,g1,g2,g3,g4,g5⟩ | ⟨g1,g2,g3⟩
    ·rw [g2] at hO2
     have hwd : Region.wanted ops[k] (yielded ops a.tmps) = true:=by simp [Region.wanted,g1]
     rw [if_pos hwd]
     exact .inl (run hO2 g3 g4)
    ·rw [g3] at hO2
     obtain ⟨b,hb,hO2⟩:=hO2
     have hb' : gdV ((St.some (fun i=>listed.getD i false) 0 xs st).get d) = some b:=by
      rw [hgets d (by simp [zbI.names,g3])]
      exact hb
     have hwd:=zlH ok.tm g1 g2 hb'
     rw [hwd]
     by_cases hbw : b = some want
     ·subst hbw
      simp only [if_true,beq_self_eq_true] at hO2 ⊢
      exact .inl (run hO2 g4 g5)
     ·rw [if_neg hbw] at hO2
      rw [if_neg (by simpa using hbw)]
      obtain ⟨e1,e2,e3⟩:=hO2
      refine hstep T M (a.put ops[k].dst undef) w ?_
      have e : (St.some (fun i=>listed.getD i false) 0 xs st).app xk = (St.some (fun i=>listed.getD i false) 0 xs st).put ops[k].dst (.tup []):=by
       unfold St.app
       rw [hdstx k xk hkl hxk,hcompd,e1,e3]
       rfl
      rw [e]
      refine ⟨by rw [zmP,St.sz_put]; exact ok.sz,by rw [zir]; exact ok.df,zsh ok.sz ok.tm hdk (.tup _ [] #[] rfl (fun i hi=>by simp at hi)),?_,fun id g hg=>.inl (ok.dom id g hg),ok.after⟩
      have e : ((St.some (fun i=>listed.getD i false) 0 xs st).put ops[k].dst (.tup [])).hp = (St.some (fun i=>listed.getD i false) 0 xs st).hp:=by funext q; rw [St.hp_put]
      rw [e]; exact ok.hs
    ·rw [g1,g2,g3] at hO2
     exact False.elim hO2
end
def zxY : Exit → zcP → Prop
 | .normal,.normal=>True
 | .exit i,.exit j=>i = j
 | .ret,.ret=>True
 | _,_=>False
section
variable {P : Program} {np : Nat} {T0 : Nat → Nat} {M0 : GM} {w0 : World}
def Post (np : Nat) (T0 : Nat → Nat) (M0 : GM) (w0 : World) (Q : zcP → St → Prop) : Exit → Act → World → Prop :=
 fun e a w=>∃ e' st T M,zxY e e' ∧ Ok np T0 M0 w0 (zcU st.n) st T M a w ∧ np ≤ st.n ∧ Q e' st
theorem zc7 (hm : P.follows .mixedOrders = true) : ∀ (c : Code) (Q : zcP → St → Prop) (st : St) (T : Nat → Nat) (M : GM) (a : Act) (w : World),
  awp P np (comp P c) Q st → Ok np T0 M0 w0 (zcU st.n) st T M a w → np ≤ st.n → c.wp P (Post np T0 M0 w0 Q) a w
 | .skip,Q,st,T,M,a,w,h,ok,hn=>wp_skip ⟨.normal,st,T,M,trivial,ok,hn,h⟩
 | .exit id,Q,st,T,M,a,w,h,ok,hn=>wp_exit ⟨.exit id,st,T,M,rfl,ok,hn,h⟩
 | .ret,Q,st,T,M,a,w,h,ok,hn=>wp_ret ⟨.ret,st,T,M,trivial,ok,hn,h⟩
 | .seq x y,Q,st,T,M,a,w,h,ok,hn=>by
   refine wp_seq (wp_mono (zc7 hm x _ st T M a w h ok hn) ?_)
   rintro e a' w' ⟨e',st',T',M',he,ok',hn',hq⟩
   cases e <;> cases e' <;> (try (exact False.elim he))
   ·obtain ⟨st2,hle,h2⟩:=hq
    obtain ⟨T2,M2,ok2,hn2⟩:=hle _ _ _ _ _ _ _ ok' hn'
    exact zc7 hm y Q st2 T2 M2 a' w' h2 ok2 hn2
   ·exact ⟨_,st',T',M',he,ok',hn',hq⟩
   ·exact ⟨_,st',T',M',he,ok',hn',hq⟩
 | .cond c x y,Q,st,T,M,a,w,h,ok,hn=>by
   obtain ⟨t,ht,h⟩:=h
   have hc:=zbF (zaG ok.tm c) ht
   refine wp_cond hc ?_
   cases t
   ·exact zc7 hm y Q st T M a w h ok hn
   ·exact zc7 hm x Q st T M a w h ok hn
 | .block id x,Q,st,T,M,a,w,h,ok,hn=>by
   refine wp_block (wp_mono (zc7 hm x _ st T M a w h ok hn) ?_)
   rintro e a' w' ⟨e',st',T',M',he,ok',hn',hq⟩
   cases e <;> cases e' <;> (try (exact False.elim he))
   ·exact ⟨_,st',T',M',he,ok',hn',hq⟩
   ·rename_i i j
    have he : i = j:=he
    subst he
    by_cases hid : i = id
    ·simp only [Exit.inBlock,if_pos hid]
     simp only [if_pos hid] at hq
     exact ⟨.normal,st',T',M',trivial,ok',hn',hq⟩
    ·simp only [Exit.inBlock,if_neg hid]
     simp only [if_neg hid] at hq
     exact ⟨.exit i,st',T',M',rfl,ok',hn',hq⟩
   ·exact ⟨_,st',T',M',he,ok',hn',hq⟩
 | .loop x,Q,st,T,M,a,w,h,ok,hn=>by
   obtain ⟨I,⟨st0,k0,hle,hI⟩,hround⟩:=h
   obtain ⟨T1,M1,ok1,hn1⟩:=hle _ _ _ _ _ _ _ ok hn
   refine wp_loop_ghost (fun k a w=>∃ s T M,I k s ∧ Ok np T0 M0 w0 (zcU s.n) s T M a w ∧ np ≤ s.n) k0 ⟨st0,T1,M1,hI,ok1,hn1⟩ ?_
   rintro k a' w' ⟨s,T',M',hIs,ok',hn'⟩
   refine wp_mono (zc7 hm x _ s T' M' a' w' (hround k s hIs) ok' hn') ?_
   rintro e a2 w2 ⟨e',st',T2,M2,he,ok2,hn2,hq⟩
   cases e <;> cases e' <;> (try (exact False.elim he))
   ·obtain ⟨st2,k2,hle2,hI2,hlt⟩:=hq
    obtain ⟨T3,M3,ok3,hn3⟩:=hle2 _ _ _ _ _ _ _ ok2 hn2
    exact ⟨k2,hlt,st2,T3,M3,hI2,ok3,hn3⟩
   ·exact ⟨_,st',T2,M2,he,ok2,hn2,hq⟩
   ·exact ⟨_,st',T2,M2,he,ok2,hn2,hq⟩
 | .region id ops draw,Q,st,T,M,a,w,h,ok,hn=>by
   obtain ⟨hd,h⟩:=h
   have hd' : ∀ o ∈ ops,o.dst.all (· < st.sz) = true:=by
    intro o ho
    have:=List.all_eq_true.1 hd (zay P ops o) (List.mem_map.2 ⟨o,by simpa using ho,rfl⟩)
    rwa [zdT.1] at this
   have hlen : (ops.toList.map (zay P ops)).length = ops.size:=by simp
   cases draw with
   | false =>
     refine wp_region ?_
     rw [List.range_eq_range']
     refine zgs (n:=st.n) hn (Q:=Post np T0 M0 w0 Q) (K:=fun st' tr=>(false = true → zdE (ops.toList.map (zay P ops)) [] tr = true) ∧ Q .normal { st' with n:=st.n + 8 * (ops.toList.map (zay P ops)).length })
      (fun st' tr T' M' a' w' hk ok'=>?_) ops.size 0 st [] T M a w (by omega) hd' (by simpa using ok) h
     rw [hlen] at hk
     refine ⟨.normal,{ st' with n:=st.n + 8 * ops.size },T',M',trivial,?_,by show np ≤ st.n + 8 * ops.size; omega,hk.2⟩
     exact ⟨ok'.sz,ok'.df,ok'.tm,ok'.hs,ok'.dom,ok'.after⟩
   | true =>
     refine wp_region_any hm ?_
     obtain ⟨xs,h1,h2,h3⟩:=runs _ 0 st [] h
     obtain ⟨h4,h5⟩:=h3
     rw [hlen] at h1 h5
     have hord:=h4 rfl
     obtain ⟨hmem,hpres⟩:=ok.mem.draw (w1:={ w with drawn:=w.drawn + 1 }) rfl rfl rfl rfl
     have okd : Ok np T0 M0 w0 (zcU st.n) st T M a { w with drawn:=w.drawn + 1 } :=
      ⟨ok.sz,ok.df,fun i=>(ok.tm i).mono hpres fun _ _ e=>e,hmem.hs,hmem.dom,hmem.after⟩
     refine zqV (T0:=T0) (M0:=M0) (w0:=w0) (n:=st.n) hn h1 (Q:=Post np T0 M0 w0 Q) (fun st' T' M' a' w' g1 g2 g3 ok'=>?_) hd' (fun k o x ho hx=>by have:=h2 k o x ho hx; rwa [Nat.zero_add] at this) (by simpa using hord) ops.size _ T M a _ (by simp) ?_ (fun j hj=>?_) ?_
     ·refine ⟨.normal,{ (St.some (fun _=>true) 0 xs st) with n:=st.n + 8 * ops.size },T',M',trivial,?_,by show np ≤ st.n + 8 * ops.size; omega,h5⟩
      have:=ok'.ext (st':={ (St.some (fun _=>true) 0 xs st) with n:=st.n + 8 * ops.size }) ((St.some_sz _ _ _ _).trans g3.symm) (fun i=>(g1 i).symm) (fun i=>(g2 i).symm)
      exact ⟨this.sz,this.df,this.tm,this.hs,this.dom,this.after⟩
     ·have : (Array.replicate ops.size false).toList.countP (· == false) ≤ (Array.replicate ops.size false).toList.length:=List.countP_le_length
      simpa using this
     ·have : (Array.replicate ops.size false).getD j false = false:=by simp only [Array.getD_eq_getD_getElem?,Array.getElem?_replicate]; split <;> rfl
      rw [this] at hj
      cases hj
     ·have e : St.some (fun i=>(Array.replicate ops.size false).getD i false) 0 xs st = st:=by
       have : (fun i=>(Array.replicate ops.size false).getD i false) = fun _=>false:=by
        funext j
        simp only [Array.getD_eq_getD_getElem?,Array.getElem?_replicate]
        split <;> rfl
       rw [this,St.some_false]
      rw [e]
      exact okd.wider fun id hid=>.inl hid
 | .rangeFunc ..,Q,st,T,M,a,w,h,ok,hn=>False.elim h
 | .scope x,Q,st,T,M,a,w,h,ok,hn=>by
   refine wp_scope_straight (wp_mono (zc7 hm x Q st T M a w h ok hn) ?_)
   rintro e a' w' ⟨e',st',T',M',he,ok',hn',hq⟩
   cases e <;> cases e' <;> (try (exact False.elim he)) <;> exact ⟨_,st',T',M',he,ok',hn',hq⟩
 | .label _,Q,st,T,M,a,w,h,ok,hn=>wp_label ⟨.normal,st,T,M,trivial,ok,hn,h⟩
 | .goto _,Q,st,T,M,a,w,h,ok,hn=>False.elim h
 | .refuse _,Q,st,T,M,a,w,h,ok,hn=>False.elim h
end
section
variable {P : Program} {np : Nat} {T0 : Nat → Nat} {M0 : GM} {w0 : World}
theorem zoN {T : Nat → Nat} {M : GM} {w : World} {t : TypeId} {ag : Bool} {s : Nat} {cs : List AV} {b off : Nat} {c : Nat → Value} (hag : (isAgg t).run P w = .ok ag w) (hsz : (sizeOf t).run P w = .ok s w) (hle : s ≤ cs.length) (hs1 : ag = true ∨ s = 1)
  (hcell : ∀ j,j < cs.length → w.cell? ⟨b,off + j,none⟩ = some (c j) ∧ (c j).oneCell' = true ∧ Rep T w M (cs.getD j .dead) (c j)) :
  ∃ u,(loadVar t ⟨b,off,none⟩).run P w = .ok u w ∧ Rep T w M (if ag then .agg (cs.take s) else cs.headD .dead) u:=by
 cases ag with
 | true =>
   have hl:=run_loadCells (P:=P) w ⟨b,off,none⟩ s c (fun j hj=>by rw [Addr.add_none]; exact (hcell j (by omega)).1)
   refine ⟨.agg ((List.range s).map c).toArray,by simp [loadVar,hag,hsz,hl],?_⟩
   refine .agg _ _ _ (by simp; omega) (fun i hi=>?_) fun i hi=>?_
   ·simp at hi
    have e : ((List.range s).map c).toArray.getD i undef = c i:=by simp [Array.getD,show i < s by omega]
    rw [e]
    exact (hcell i (by omega)).2.1
   ·simp at hi
    have e : ((List.range s).map c).toArray.getD i undef = c i:=by simp [Array.getD,show i < s by omega]
    have e2 : (cs.take s).getD i .dead = cs.getD i .dead:=by
     simp only [List.getD,List.getElem?_take]
     rw [if_pos (by omega)]
    rw [e,e2]
    exact (hcell i (by omega)).2.2
 | false =>
   obtain rfl : s = 1:=by simpa using hs1
   have h0:=hcell 0 (by omega)
   have e : cs.headD .dead = cs.getD 0 .dead:=by cases cs <;> rfl
   simp only [Bool.false_eq_true,if_false]
   rw [e]
   refine ⟨c 0,?_,h0.2.2⟩
   simp only [loadVar,Sem.run_bind,hag,Result.andThen_ok]
   have h00 : w.cell? ⟨b,off,none⟩ = some (c 0):=by simpa using h0.1
   simp [h00]
def zi5 (a : Act) (r : ResultVar) : Sem Value :=
 match r with
 | .tmp t=>pure (a.tmps.getD t undef)
 | .cell b t=>do loadVar t (← asAddr (a.tmps.getD b undef))
theorem zq5 {st : St} {T : Nat → Nat} {M : GM} {a : Act} {w : World} {live : Nat → Prop} (tm : ∀ i,Rep T w M (st.get i) (a.tmps.getD i undef)) (m : Mem np T0 M0 w0 live st.hp T M w) {r : ResultVar} {v : AV}
  (h : zib st (zfI P r) = some v) : ∃ u,(zi5 a r).run P w = .ok u w ∧ Rep T w M v u:=by
 cases r with
 | tmp t =>
   simp only [zfI,zib,Option.some.injEq] at h
   subst h
   exact ⟨_,rfl,tm t⟩
 | cell b t =>
   simp only [zfI] at h
   have bad : zib st (b,some (false,0)) = some v → False:=by
    intro h
    simp only [zib] at h
    split at h
    ·simp at h
    ·cases h
   cases hag : aggC P t with
   | none=>rw [hag] at h; exact (bad h).elim
   | some ag =>
     rw [hag] at h
     cases hsz : zce P t with
     | none=>rw [hsz] at h; exact (bad h).elim
     | some s =>
       rw [hsz] at h
       simp only [zib] at h
       split at h
       case h_2=>cases h
       rename_i cs hcs
       split at h
       case isFalse=>cases h
       rename_i hc
       simp only [Option.some.injEq] at h
       subst h
       obtain ⟨blk,off,hv,c,hcell⟩:=zk7 m (tm b) hcs
       have hsz' : (sizeOf t).run P w = .ok s w:=by
        simp only [zce,Option.map_eq_some_iff] at hsz
        obtain ⟨i,hi,hs⟩:=hsz
        simp [sizeOf,typeInfo,hi,hs]
       have hag' : (isAgg t).run P w = .ok ag w:=by
        unfold aggC at hag
        split at hag <;> (try (cases hag; done))
        ·rename_i e; cases hag; simp [isAgg,zah e]
        ·rename_i e; cases hag; simp [isAgg,zah e]
        ·rename_i d e n1 n2
         cases hag
         simp only [isAgg,Sem.run_bind,zah n2]
         simp
       obtain ⟨u,hu,hru⟩:=zoN (P:=P) hag' hsz' hc.1 hc.2 hcell
       refine ⟨u,?_,hru⟩
       simp [zi5,hv,asAddr,hu]
theorem zlP {st : St} {T : Nat → Nat} {M : GM} {a : Act} {w : World} {live : Nat → Prop} (tm : ∀ i,Rep T w M (st.get i) (a.tmps.getD i undef)) (m : Mem np T0 M0 w0 live st.hp T M w) :
  ∀ (rs : List ResultVar) (vs : List AV),ze0 st (rs.map (zfI P)) = some vs → ∃ us : List Value,(rs.mapM (zi5 a)).run P w = .ok us w ∧ us.length = vs.length ∧ ∀ i,i < vs.length → Rep T w M (vs.getD i .dead) (us.getD i undef)
 | [],vs,h=>by
   simp [ze0] at h
   subst h
   exact ⟨[],by simp,rfl,fun i hi=>absurd hi (by simp)⟩
 | r :: rs,vs,h=>by
   simp only [List.map_cons,ze0] at h
   split at h
   case h_2=>cases h
   rename_i v vs' h1 h2
   simp only [Option.some.injEq] at h
   subst h
   obtain ⟨u,hu,hru⟩:=zq5 tm m h1
   obtain ⟨us,hus,hl,hr⟩:=zlP tm m rs vs' h2
   refine ⟨u :: us,by simp [List.mapM_cons,hu,hus],by simp [hl],fun i hi=>?_⟩
   cases i with
   | zero=>simpa using hru
   | succ i=>simpa using hr i (by simpa using hi)
theorem zu6 {α : Type} (l : List α) (k : Nat) : lkp (l.zipIdx.map fun (a,i)=>(i,a)) k = l[k]?:=by
 have key : ∀ (l : List α) (q k : Nat),lkp ((l.zipIdx q).map fun (a,i)=>(i,a)) (q + k) = l[k]?:=by
  intro l
  induction l with
  | nil=>intro q k; rfl
  | cons x l ih =>
    intro q k
    simp only [List.zipIdx_cons,List.map_cons,lkp]
    cases k with
    | zero=>simp
    | succ k =>
      rw [if_neg (by omega),show q + (k + 1) = q + 1 + k by omega,ih]
      simp
 have:=key l 0 k
 rwa [Nat.zero_add] at this
theorem ztt (l : List Ent) (k : Nat) : lkp (l.zipIdx.map fun (e,i)=>(i,some e)) k = (l[k]?).map some:=by
 have key : ∀ (l : List Ent) (q k : Nat),lkp ((l.zipIdx q).map fun (e,i)=>(i,some e)) (q + k) = (l[k]?).map some:=by
  intro l
  induction l with
  | nil=>intro q k; rfl
  | cons x l ih =>
    intro q k
    simp only [List.zipIdx_cons,List.map_cons,lkp]
    cases k with
    | zero=>simp
    | succ k =>
      rw [if_neg (by omega),show q + (k + 1) = q + 1 + k by omega,ih]
      simp
 have:=key l 0 k
 rwa [Nat.zero_add] at this
theorem zrB (hm : P.follows .mixedOrders = true) {f : FuncId} {fn : Func} {af : AFun} (hf : P.funcs[f]? = some fn) (hc : zss P fn = some af) (hname : fn.name ≠ "runtime.NumGoroutine") {args : List AV} {hs : List Ent} {res : AV} {hs' : List (Option Ent)}
  (hnt : args.length ≤ af.nt) (hn16 : hs.length ≤ 16) (hlen' : hs.length ≤ hs'.length) (h : awp P hs.length af.code (fun e st=>(e = .normal ∨ e = .ret) ∧ zat af.res hs.length st res hs') (zfj af args hs)) : zao P f args hs res hs':=by
 unfold zss at hc
 cases hb : fn.body with
 | none=>rw [hb] at hc; cases hc
 | some c =>
   rw [hb] at hc
   simp only [Option.some.injEq] at hc
   subst hc
   refine ⟨⟨fn,c,hf,hb,hname⟩,hlen',fun T M w vs htok hhs hdom hrep=>?_⟩
   refine calls_of_wp hf hb ?_
   have hg : ∀ i,(zfj { nt:=fn.ntmps,res:=fn.results.toList.map (zfI P),code:=comp P c } args hs).get i = args.getD i .dead:=by
    intro i
    unfold St.get zfj
    simp only [zu6]
    rfl
   have hh : ∀ i,(zfj { nt:=fn.ntmps,res:=fn.results.toList.map (zfI P),code:=comp P c } args hs).hp i = hs[i]?:=by
    intro i
    unfold St.hp zfj
    simp only [ztt]
    cases hs[i]? <;> rfl
   have ok : Ok hs.length T M w (zcU 16) (zfj { nt:=fn.ntmps,res:=fn.results.toList.map (zfI P),code:=comp P c } args hs) T M { tmps:=vs ++ Array.replicate (fn.ntmps - vs.size) undef,defers:=[] } w:=by
    refine ⟨?_,rfl,fun i=>?_,?_,fun id g hg=>?_,?_⟩
    ·simp only [Array.size_append,Array.size_replicate,zfj]
     have:=hrep.1
     simp only at hnt
     omega
    ·rw [hg]
     by_cases hi : i < args.length
     ·have:=hrep.2 i hi
      have e : (vs ++ Array.replicate (fn.ntmps - vs.size) undef).getD i undef = vs.getD i undef:=by
       simp only [Array.getD_eq_getD_getElem?]
       rw [Array.getElem?_append_left (by rw [hrep.1]; exact hi)]
      rw [e]
      exact this
     ·have : args.getD i .dead = .dead:=by simp [List.getD,show ¬ i < args.length by omega]
      rw [this]
      exact .dead _ _
    ·have e : (zfj { nt:=fn.ntmps,res:=fn.results.toList.map (zfI P),code:=comp P c } args hs).hp = hpOf hs:=funext hh
     rw [e]
     exact hhs
    ·show id < 16
     rcases Nat.lt_or_ge id hs.length with h | h
     ·omega
     ·rw [hdom id h] at hg; cases hg
    ·exact ⟨htok,fun _ _ _=>rfl,fun _ _=>rfl,rfl,rfl,rfl,Nat.le_refl _,fun _ _ _=>rfl,Pres.refl _ _,fun k g b hk hg=>by rw [hdom k hk] at hg; cases hg⟩
   refine wp_mono (zc7 hm c _ _ T M _ w h ok hn16) ?_
   rintro e a' w' ⟨e',st',T',M',he,ok',hn',hq,vs',hvs,ex,sn,hnod,hex,hsn,hwk,hent⟩
   have hdone : a'.defers = [] ∧ ∃ v,(results fn a'.tmps).run P w' = .ok v w' ∧ ∃ v2 T2 M2,Ending.returned v = .returned v2 ∧ Rep T2 w' M2 res v2 ∧ HsOk T2 w' M2 (zj8 hs') ∧ zi0 hs.length T M w T2 M2 w':=by
    refine ⟨ok'.df,?_⟩
    obtain ⟨us,hus,hul,hur⟩:=zlP (P:=P) ok'.tm ok'.mem fn.results.toList vs' hvs
    have hres : (results fn a'.tmps).run P w' = .ok (if h : us.toArray.size = 1 then us.toArray[0] else .tuple us.toArray) w':=by
     have e0 : results fn a'.tmps = (do let vs ← fn.results.mapM (zi5 a'); pure (if h : vs.size = 1 then vs[0] else .tuple vs)):=by
      have e2 : (fun r : ResultVar=>match r with | ResultVar.tmp t=>(pure (a'.tmps.getD t undef) : Sem Value) | ResultVar.cell a t=>do loadVar t (← asAddr (a'.tmps.getD a undef))) = zi5 a':=by
       funext r; cases r <;> rfl
      rw [← e2]
      rfl
     have e : (fn.results.mapM (zi5 a')).run P w' = .ok us.toArray w':=by
      rw [Array.mapM_eq_mapM_toList]
      simp [hus]
     rw [e0,Sem.run_bind,e]
     rfl
    have hrv : Rep T' w' M' (resV vs') (if h : us.toArray.size = 1 then us.toArray[0] else .tuple us.toArray):=by
     by_cases h1 : vs'.length = 1
     ·match vs',us,h1,hul,hur with
      | [v],[u],_,_,hur=>exact hur 0 (by simp)
     ·have e : resV vs' = .tup vs':=by
       match vs',h1 with
       | [],_=>rfl
       | [_],h=>simp at h
       | _ :: _ :: _,_=>rfl
      rw [e,dif_neg (by simp; omega)]
      exact .tup _ _ _ (by simpa using hul) fun i hi=>by simpa [List.getD,Array.getD_eq_getD_getElem?] using hur i hi
    refine ⟨_,hres,(if h : us.toArray.size = 1 then us.toArray[0] else .tuple us.toArray),?_⟩
    let nm : List Nat:=List.range hs.length ++ ex
    obtain ⟨T1,hT1,htok1,hsnap,hsame⟩:=zmW ok'.hs ok'.after.tok sn
    let Mr : GM:=fun k=>match nm[k]? with | some i=>M' i | none=>none
    have hMr : ∀ (k i : Nat),nm[k]? = some i → Mr k = M' i:=fun k i hki=>by show (match nm[k]? with | some i=>M' i | none=>none) = _; rw [hki]
    have hlow : ∀ k,k < hs.length → nm[k]? = some k:=fun k hk=>by
     show (List.range hs.length ++ ex)[k]? = _
     rw [List.getElem?_append_left (by simpa using hk)]
     simp [hk]
    have hhigh : ∀ (k i : Nat),hs.length ≤ k → nm[k]? = some i → hs.length ≤ i:=fun k i hk hki=>by
     have e : nm[k]? = ex[k - hs.length]?:=by
      show (List.range hs.length ++ ex)[k]? = _
      rw [List.getElem?_append_right (by simpa using hk)]
      simp
     rw [e] at hki
     exact hex i (List.mem_of_getElem? hki)
    have hcv:=fun x v hr=>zik (Mc:=Mr) (x:=x) (v:=v) ok'.hs sn hT1 hsnap 4 nm.zipIdx (fun id k hl=>hMr k id (zrO hl)) hr
    have hsnnm : ∀ i ∈ sn,i ∉ nm:=by
     intro i hi hin
     rcases List.mem_append.1 hin with h | h
     ·have:=(hsn i hi).2
      simp at h
      omega
     ·exact (hsn i hi).1 h
    have hentk : ∀ (k i : Nat) e',nm[k]? = some i → zj8 hs' k = some e' → ∃ e,st'.hp i = some e ∧ e' = zaw nm.zipIdx sn st'.hp 4 e:=by
     intro k i e' hki hk'
     have h1:=congrArg (·[k]?) hent
     simp only [List.getElem?_map] at h1
     have hki' : (List.range hs.length ++ ex)[k]? = some i:=hki
     rw [hki'] at h1
     simp only [Option.map_some] at h1
     unfold zj8 at hk'
     rw [← h1] at hk'
     simp only [Option.join_some,Option.map_eq_some_iff] at hk'
     obtain ⟨e,h2,h3⟩:=hk'
     exact ⟨e,h2,h3.symm⟩
    have hlen2 : ∀ k e',zj8 hs' k = some e' → k < hs'.length:=by
     intro k e' h
     unfold zj8 at h
     cases hq : hs'[k]? with
     | none=>rw [hq] at h; simp at h
     | some _=>exact (List.getElem?_eq_some_iff.1 hq).1
    have hnml : nm.length = hs'.length:=by
     have h1:=congrArg List.length hent
     rw [List.length_map] at h1
     exact h1
    have hpassT : ∀ i e g b,i ∈ nm → st'.hp i = some e → M' i = some g → g.blk = some b → T1 b = T' b:=by
     intro i e g b h1 h2 h3 h4
     refine hsame b fun i' hi' e' g' h5 h6 h7=>?_
     have:=ok'.hs.inj i i' e e' g g' b h2 h5 h3 h6 h4 h7
     subst this
     exact hsnnm i hi' h1
    refine ⟨T1,Mr,rfl,hwk.rep (hcv _ _ hrv),⟨fun k e' hk'=>?_,fun k k' e1 e2 g g' b h1 h2 h3 h4 h5 h6=>?_⟩,?_⟩
    ·have hlt : k < nm.length:=by rw [hnml]; exact hlen2 k e' hk'
     have hki : nm[k]? = some nm[k]:=List.getElem?_eq_getElem hlt
     obtain ⟨e,he,rfl⟩:=hentk k _ e' hki hk'
     obtain ⟨g,hg,ent⟩:=ok'.hs.ent _ e he
     refine ⟨g,(hMr k _ hki).trans hg,ent.s,by simpa [zaw] using ent.ro,fun hz r hr=>?_,fun hn=>by simp [zaw,ent.none hn],fun hz=>?_,fun hz b hbk=>?_⟩
     ·simp only [zaw,List.mem_map] at hr
      obtain ⟨r0,hr0,rfl⟩:=hr
      rw [List.length_map]
      exact ent.wide hz r0 hr0
     ·obtain ⟨b,es,clock,hbb,q1,q2,q3,q4⟩:=ent.mp hz
      exact ⟨b,es,clock,hbb,q1,by rw [hpassT _ e g b (List.mem_of_getElem? hki) he hg hbb]; exact q2,q3,q4.map (fun _=>rfl) fun row _ x _ v hr=>hcv x v hr⟩
     ·obtain ⟨cells,ty,h1,h2,h3,h4⟩:=ent.blk hz b hbk
      refine ⟨cells,ty,h1,by rw [hpassT _ e g b (List.mem_of_getElem? hki) he hg hbk]; exact h2,by simpa [zaw] using h3,fun i j hi hj=>?_⟩
      simp only [zaw,List.length_map] at hi hj ⊢
      obtain ⟨u,hu,ho,hru⟩:=h4 i j hi hj
      refine ⟨u,hu,ho,?_⟩
      have e1 : (e.rows.map (·.map (conv nm.zipIdx sn st'.hp 4))).getD i [] = (e.rows.getD i []).map (conv nm.zipIdx sn st'.hp 4):=by
       simp only [List.getD,List.getElem?_map]
       cases e.rows[i]? <;> rfl
      rw [e1,zbg _ (zcn _ _ _ _)]
      exact hcv _ _ hru
    ·have hlt : k < nm.length:=by rw [hnml]; exact hlen2 k e1 h1
     have hlt' : k' < nm.length:=by rw [hnml]; exact hlen2 k' e2 h2
     have hki : nm[k]? = some nm[k]:=List.getElem?_eq_getElem hlt
     have hki' : nm[k']? = some nm[k']:=List.getElem?_eq_getElem hlt'
     obtain ⟨ea,hea,_⟩:=hentk k _ e1 hki h1
     obtain ⟨eb,heb,_⟩:=hentk k' _ e2 hki' h2
     have:=ok'.hs.inj _ _ ea eb g g' b hea heb ((hMr k _ hki).symm.trans h3) ((hMr k' _ hki').symm.trans h4) h5 h6
     exact (List.getElem?_inj hlt hnod).1 (by rw [hki,hki',this])
    ·refine ok'.after.step htok1 (fun b hb hnp=>?_) (fun k hk=>?_) rfl rfl rfl (Nat.le_refl _) (fun _ _ _=>rfl) ⟨hT1,fun b cells ty fz h=>⟨cells,fz,h,rfl,fun _ _=>rfl⟩⟩ fun k g b hk hg hbb=>?_
     ·refine hsame b fun i hi e g h1 h2 h3=>?_
      exact (ok'.after.blk h2 h3).elim hnp (by omega)
     ·exact hMr k k (hlow k hk)
     ·cases hki : nm[k]? with
      | none =>
        have : Mr k = none:=by show (match nm[k]? with | some i=>M' i | none=>none) = none; rw [hki]
        rw [this] at hg; cases hg
      | some i =>
        rw [hMr k i hki] at hg
        exact ok'.after.new i g b (hhigh k i hk hki) hg hbb
   rcases hq with rfl | rfl
   ·cases e <;> first | exact hdone | exact False.elim he
   ·cases e <;> first | exact hdone | exact False.elim he
end
end Go.Proofs.YtklclphfcibagaaGreat
