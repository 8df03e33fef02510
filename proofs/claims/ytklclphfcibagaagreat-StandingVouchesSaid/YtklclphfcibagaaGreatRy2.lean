/- Texts of this claim,merged. -/
import Derived.Test.YtklclphfcibagaaGreatRy1
import Derived.Laws.Tables
set_option linter.unusedSimpArgs false
set_option linter.unusedVariables false
set_option linter.unusedSectionVars false
namespace Go.Proofs.YtklclphfcibagaaGreat
open Go
section
variable {P : Program} {np : Nat} {T0 : Nat → Nat} {M0 : GM} {w0 : World} {live : Nat → Prop} {st : St} {T : Nat → Nat} {M : GM} {a : Act} {w : World} {idb : Nat}
theorem zoi {X : AV} {v : Value} {n : Nat} (hr : Rep T w M X v) (hn : lenOf X = some n) : ∃ b cp,v = .slice b n cp:=by
 cases hr with
 | sc _ _ h1 =>
   unfold lenOf at hn
   split at hn <;> (try (cases hn; done))
   ·rename_i e; cases e
   ·rename_i e; cases e
   ·rename_i e; cases e
   ·rename_i e; cases e; cases hn; exact ⟨_,_,rfl⟩
 | vs=>simp only [lenOf,Option.some.injEq] at hn; subst hn; exact ⟨_,_,rfl⟩
 | rs=>simp only [lenOf,Option.some.injEq] at hn; subst hn; exact ⟨_,_,rfl⟩
 | rk=>simp only [lenOf,Option.some.injEq] at hn; subst hn; exact ⟨_,_,rfl⟩
 | _=>simp [lenOf] at hn
theorem Addr.add_none (b o n : Nat) : (⟨b,o,none⟩ : Addr).add n = ⟨b,o + n,none⟩:=by unfold Addr.add; split <;> simp_all
variable (tm : ∀ i,Rep T w M (st.get i) (a.tmps.getD i undef)) (m : Mem np T0 M0 w0 live st.hp T M w)
include tm m
theorem zxI (o : Oper) (c : Call) (h : o.op = .call c) (hb : c.callee = .builtin .len) (t : TypeId) (x : Operand) (ht : c.argTypes.toList = [t]) (hx : c.args.toList = [x]) : Goal P np T0 M0 w0 live st T M a w idb o:=by
 intro K hk
 have hr:=zaG tm x
 have ht' : c.argTypes = #[t]:=by rw [← Array.toArray_toList (xs:=c.argTypes),ht]
 have hx' : c.args = #[x]:=by rw [← Array.toArray_toList (xs:=c.args),hx]
 simp only [zaB,h,hb,ht,hx] at hk
 split at hk
 case h_3=>exact False.elim hk
 ·rename_i s hu
  simp only [List.map] at hk
  generalize hv : a.eval x = v at *
  generalize (opd x).ev st.get = X at *
  simp only [aK] at hk
  obtain ⟨n,hn,hk⟩:=hk
  obtain ⟨b,cp,rfl⟩:=zoi hr hn
  refine ⟨_,_,_,hk,zaz m (.sc _ _ rfl) ?_⟩
  simp [execOp,h,resolve,hb,invoke,builtin,Builtin.len_,ht',hx',hv,zah hu,goInt]
 ·rename_i hu
  simp only [List.map] at hk
  generalize hv : a.eval x = v at *
  generalize (opd x).ev st.get = X at *
  cases X <;> (try (simp only [aK] at hk; done))
  rename_i u
  cases u <;> simp only [aK] at hk
  obtain rfl:=zbF hr rfl
  refine ⟨_,_,_,hk,zaz m (.sc _ _ rfl) ?_⟩
  simp [execOp,h,resolve,hb,invoke,builtin,Builtin.len_,ht',hx',hv,zah hu,goInt]
set_option maxHeartbeats 1000000 in
theorem zyy (o : Oper) (c : Call) (h : o.op = .call c) (mx : Bool) (hb : c.callee = .builtin (if mx then .max else .min)) : Goal P np T0 M0 w0 live st T M a w idb o:=by
 intro K hk
 have two : ∀ x y,c.args.toList = [x,y] → ∀ K,aK P np idb (if mx then .mx2 else .mn2) ([opd x,opd y].map (·.ev st.get)) st.hp K → ∃ v rd up,K v rd up ∧ Eff P np T0 M0 w0 live idb (st.upd up).hp T M w v ((execOp a.eval o).run P w):=by
  intro x y hx K hk
  have hx' : c.args = #[x,y]:=by rw [← Array.toArray_toList (xs:=c.args),hx]
  have hr:=zaG tm x
  have hr':=zaG tm y
  simp only [List.map] at hk
  generalize hv : a.eval x = v at *
  generalize (opd x).ev st.get = X at *
  generalize hv' : a.eval y = v' at *
  generalize (opd y).ev st.get = Y at *
  cases mx <;> simp only [Bool.false_eq_true,if_false,if_true] at hk hb
  all_goals
   cases X <;> cases Y <;> (try (simp only [aK] at hk; done))
   rename_i p q
   cases p <;> (try (simp only [aK] at hk; done))
   cases q <;> simp only [aK] at hk
   obtain rfl:=zbF hr rfl
   obtain rfl:=zbF hr' rfl
   refine ⟨_,_,_,hk,zaz m (.sc _ _ rfl) ?_⟩
  ·simp [execOp,h,resolve,hb,invoke,builtin,Builtin.min_,Builtin.min2,hx',hv,hv']
  ·simp [execOp,h,resolve,hb,invoke,builtin,Builtin.max_,Builtin.max2,hx',hv,hv']
 cases mx
 all_goals
  simp only [Bool.false_eq_true,if_false,if_true] at hb
  simp only [zaB,h,hb] at hk
  split at hk
  case h_2=>exact False.elim hk
  rename_i x y hx
  exact two x y hx K hk
theorem ztM (o : Oper) (t : TypeId) (x : Operand) (f : Nat) (h : o.op = .field t x f) : Goal P np T0 M0 w0 live st T M a w idb o:=by
 intro K hk
 have hr:=zaG tm x
 simp only [zaB,h] at hk
 split at hk
 case h_2=>exact False.elim hk
 rename_i fs hu
 split at hk
 case h_2=>exact False.elim hk
 rename_i fd hfd
 split at hk
 case h_2=>exact False.elim hk
 rename_i ag s hag hsz
 split at hk
 case isFalse=>exact False.elim hk
 rename_i hs1
 simp only [List.map] at hk
 have hsz' : (sizeOf fd.type).run P w = .ok s w:=by
  simp only [zce,Option.map_eq_some_iff] at hsz
  obtain ⟨i,hi,hs⟩:=hsz
  simp [sizeOf,typeInfo,hi,hs]
 have hag' : (isAgg fd.type).run P w = .ok ag w:=by
  unfold aggC at hag
  split at hag <;> (try (cases hag; done))
  ·rename_i e; cases hag; simp [isAgg,zah e]
  ·rename_i e; cases hag; simp [isAgg,zah e]
  ·rename_i d e n1 n2
   cases hag
   simp only [isAgg,Sem.run_bind,zah n2]
   simp
 generalize hv : a.eval x = v at *
 generalize (opd x).ev st.get = X at *
 cases X <;> simp only [aK] at hk
 rename_i cs
 obtain ⟨hle,hk⟩:=hk
 cases hr with
 | agg _ _ us hl h1 hh =>
   have hruns : ∀ v',(part fd.type us fd.offset).run P w = .ok v' w → (execOp a.eval o).run P w = .ok (.value v') w:=by
    intro v' hp
    simp [execOp,h,hv,Instr.field,zah hu,hfd,asAgg,hp]
   cases ag with
   | true =>
     refine ⟨_,_,_,hk,zaz m (v':=.agg (us.extract fd.offset (fd.offset + s))) ?_ (hruns _ ?_)⟩
     ·refine .agg _ _ _ (by simp; omega) (fun i hi=>?_) fun i hi=>?_
      ·simp at hi
       have e : (us.extract fd.offset (fd.offset + s)).getD i undef = us.getD (fd.offset + i) undef:=by
        simp only [Array.getD_eq_getD_getElem?,Array.getElem?_extract]
        rw [if_pos (by omega)]
       rw [e]
       exact h1 _ (by omega)
      ·simp at hi
       have e : (us.extract fd.offset (fd.offset + s)).getD i undef = us.getD (fd.offset + i) undef:=by
        simp only [Array.getD_eq_getD_getElem?,Array.getElem?_extract]
        rw [if_pos (by omega)]
       have e2 : ((cs.drop fd.offset).take s).getD i .dead = cs.getD (fd.offset + i) .dead:=by
        simp only [List.getD,List.getElem?_take,List.getElem?_drop]
        rw [if_pos (by omega)]
       rw [e,e2]
       exact hh _ (by omega)
     ·simp [part,hag',hsz']
   | false =>
     obtain rfl : s = 1:=by simpa using hs1
     refine ⟨_,_,_,hk,zaz m (hh fd.offset (by omega)) (hruns _ ?_)⟩
     have hi : fd.offset < us.size:=by omega
     simp [part,hag',hi,Array.getD]
omit tm in
theorem zk7 {X : AV} {v : Value} {cs : List AV} (hr : Rep T w M X v) (hc : zc2 st.hp X = some cs) :
  ∃ b off,v = .pointer (some ⟨b,off,none⟩) ∧ ∃ c : Nat → Value,∀ j,j < cs.length → w.cell? ⟨b,off + j,none⟩ = some (c j) ∧ (c j).oneCell' = true ∧ Rep T w M (cs.getD j .dead) (c j):=by
 cases hr with
 | pv _ ys b off cells ty fz c hb ht hcc h1 hh =>
   simp only [zc2,Option.some.injEq] at hc
   subst hc
   refine ⟨b,off,rfl,c,fun j hj=>⟨?_,h1 j hj,(hh j hj).mono (Pres.refl _ _) (fun _ _ e=>by cases e)⟩⟩
   simp [World.cell?,hb,hcc j hj]
 | pt _ i k j g b hg hz hb =>
   simp only [zc2,Option.bind_eq_some_iff,Option.map_eq_some_iff] at hc
   obtain ⟨e,he,row,hrow,rfl⟩:=hc
   obtain ⟨g',hg',ent⟩:=m.hs.ent i e he
   obtain rfl:=Option.some.inj (hg.symm.trans hg')
   have hez : e.s ≠ 0:=ent.s ▸ hz
   obtain ⟨cells,ty,h1,h2,h3,h4⟩:=ent.blk hez b hb
   have hk : k < e.rows.length:=(List.getElem?_eq_some_iff.1 hrow).1
   have hw:=ent.wide hez row (List.mem_of_getElem? hrow)
   have ex : ∀ j' : Nat,∃ u,j' < (row.drop j).length → w.cell? ⟨b,g.base + k * g.s + j + j',none⟩ = some u ∧ u.oneCell' = true ∧ Rep T w M ((row.drop j).getD j' .dead) u:=by
    intro j'
    by_cases hj : j' < (row.drop j).length
    ·rw [List.length_drop] at hj
     obtain ⟨u,hu,ho,hru⟩:=h4 k (j + j') hk (by omega)
     refine ⟨u,fun _=>⟨?_,ho,?_⟩⟩
     ·simp only [World.cell?,h1]
      rw [← ent.s,← Nat.add_assoc] at hu
      simpa using hu
     ·have e1 : e.rows.getD k [] = row:=by simp [List.getD,hrow]
      rw [e1] at hru
      simpa [List.getD] using hru
    ·exact ⟨undef,fun h=>absurd h hj⟩
   obtain ⟨c,hc⟩:=Classical.axiomOfChoice ex
   exact ⟨b,_,rfl,c,hc⟩
 | _=>simp [zc2] at hc
theorem zwy (o : Oper) (t : TypeId) (x : Operand) (h : o.op = .load t x) : Goal P np T0 M0 w0 live st T M a w idb o:=by
 intro K hk
 have hr:=zaG tm x
 simp only [zaB,h] at hk
 split at hk
 case h_2=>exact False.elim hk
 rename_i ag s hag hsz
 split at hk
 case isFalse=>exact False.elim hk
 rename_i hs1
 simp only [List.map] at hk
 have hsz' : (sizeOf t).run P w = .ok s w:=by
  simp only [zce,Option.map_eq_some_iff] at hsz
  obtain ⟨i,hi,hs⟩:=hsz
  simp [sizeOf,typeInfo,hi,hs]
 have hag' : (isAgg t).run P w = .ok ag w:=by
  unfold aggC at hag
  split at hag <;> (try (cases hag; done))
  ·rename_i e; cases hag; simp [isAgg,zah e]
  ·rename_i e; cases hag; simp [isAgg,zah e]
  ·rename_i d e n1 n2
   cases hag
   simp only [isAgg,Sem.run_bind,zah n2]
   simp
 generalize hv : a.eval x = v at *
 generalize (opd x).ev st.get = X at *
 simp only [aK] at hk
 obtain ⟨cs,hc,hle,hk⟩:=hk
 obtain ⟨b,off,rfl,c,hcell⟩:=zk7 m hr hc
 have hruns : ∀ v',(loadVar t ⟨b,off,none⟩).run P w = .ok v' w → (execOp a.eval o).run P w = .ok (.value v') w:=by
  intro v' hp
  simp [execOp,h,hv,Instr.loadAt,Instr.sureAddr,hp]
 cases ag with
 | true =>
   have hl:=run_loadCells (P:=P) w ⟨b,off,none⟩ s c (fun j hj=>by rw [Addr.add_none]; exact (hcell j (by omega)).1)
   refine ⟨_,_,_,hk,zaz m (v':=.agg ((List.range s).map c).toArray) ?_ (hruns _ ?_)⟩
   ·refine .agg _ _ _ (by simp; omega) (fun i hi=>?_) fun i hi=>?_
    ·simp at hi
     have e : ((List.range s).map c).toArray.getD i undef = c i:=by simp [Array.getD,show i < s from by omega]
     rw [e]
     exact (hcell i (by omega)).2.1
    ·simp at hi
     have e : ((List.range s).map c).toArray.getD i undef = c i:=by simp [Array.getD,show i < s from by omega]
     have e2 : (cs.take s).getD i .dead = cs.getD i .dead:=by
      simp only [List.getD,List.getElem?_take]
      rw [if_pos (by omega)]
     rw [e,e2]
     exact (hcell i (by omega)).2.2
   ·simp [loadVar,hag',hsz',hl]
 | false =>
   obtain rfl : s = 1:=by simpa using hs1
   have h0:=hcell 0 (by omega)
   have e : cs.headD .dead = cs.getD 0 .dead:=by cases cs <;> rfl
   simp only [Bool.false_eq_true,if_false] at hk
   rw [e] at hk
   refine ⟨_,_,_,hk,zaz m h0.2.2 (hruns _ ?_)⟩
   simp only [loadVar,Sem.run_bind,hag',Result.andThen_ok]
   have h00 : w.cell? ⟨b,off,none⟩ = some (c 0):=by simpa using h0.1
   simp [h00]
theorem zyg (o : Oper) (t : TypeId) (x y : Operand) (h : o.op = .indexAddr t x y) : Goal P np T0 M0 w0 live st T M a w idb o:=by
 intro K hk
 have hr:=zaG tm x
 have hr':=zaG tm y
 simp only [zaB,h] at hk
 split at hk
 case h_3=>exact False.elim hk
 ·rename_i e hu
  split at hk
  case h_2=>exact False.elim hk
  rename_i s hsz
  simp only [List.map] at hk
  have hsz' : (sizeOf e).run P w = .ok s w:=by
   simp only [zce,Option.map_eq_some_iff] at hsz
   obtain ⟨i,hi,hs⟩:=hsz
   simp [sizeOf,typeInfo,hi,hs]
  generalize hv : a.eval x = v at *
  generalize (opd x).ev st.get = X at *
  generalize hv' : a.eval y = v' at *
  generalize (opd y).ev st.get = Y at *
  have key : ∀ (b off len cap : Nat) (k : IntKind) (n : Int),v = .slice (some ⟨b,off,none⟩) len cap → v' = .int k n → 0 ≤ n → n < len →
    (execOp a.eval o).run P w = .ok (.value (.pointer (some ⟨b,off + n.toNat * s,none⟩))) w:=by
   rintro b off len cap k n rfl rfl h0 hn
   simp [execOp,h,hv,hv',Instr.indexAt,asIntOf,zah hu,h0,hn,hsz',Addr.add_none]
  cases X <;> (try (simp only [aK] at hk; done))
  ·rename_i s' full rows
   cases Y <;> (try (simp only [aK] at hk; done))
   rename_i u
   cases u <;> (try (simp only [aK] at hk; done))
   rename_i k n
   simp only [aK] at hk
   obtain ⟨rfl,h0,row,hrow,hk⟩:=hk
   obtain rfl:=zbF hr' rfl
   cases hr with
   | vs _ _ _ _ ad cap c hf hle hw hb h1 hh =>
     have hn : n.toNat < rows.length:=(List.getElem?_eq_some_iff.1 hrow).1
     obtain ⟨b,off,cells,ty,fz,rfl,hw1,hT,hc⟩:=hb (by rintro rfl; simp at hn)
     have hwid:=hw row (List.mem_of_getElem? hrow)
     have hrd : rows.getD n.toNat [] = row:=by simp [List.getD,hrow]
     refine ⟨_,_,_,hk,zaz m (.pv _ _ b (off + n.toNat * s') cells ty fz (fun j=>c n.toNat j) hw1 ?_ (fun j hj=>hc _ _ hn (by omega)) (fun j hj=>h1 _ _ hn (by omega)) fun j hj=>?_) (key b off rows.length cap k n rfl rfl h0 (by omega))⟩
     ·rw [hwid]
      have : (n.toNat + 1) * s' ≤ rows.length * s':=Nat.mul_le_mul_right _ hn
      rw [Nat.add_mul] at this
      omega
     ·have:=hh n.toNat j hn (by omega)
      rwa [hrd] at this
  ·rename_i i off len
   cases Y <;> (try (simp only [aK] at hk; done))
   rename_i u
   cases u <;> (try (simp only [aK] at hk; done))
   rename_i k n
   simp only [aK] at hk
   obtain ⟨h0,hn,⟨en,hen,hs⟩,hk⟩:=hk
   obtain rfl:=zbF hr' rfl
   cases hr with
   | rs _ _ _ _ cap ad g hg hz hl hnn hb =>
     obtain ⟨g',hg',ent⟩:=m.hs.ent i en hen
     obtain rfl:=Option.some.inj (hg.symm.trans hg')
     cases hblk : g.blk with
     | none=>have:=(hnn hblk).2; omega
     | some b =>
       obtain ⟨ha,cells,ty,fz,hw1,hfit⟩:=hb b hblk
       have ha' : ad = some ⟨b,g.base + off * g.s,none⟩:=by
        rcases ha with ha | ha
        ·omega
        ·exact ha
       subst ha'
       refine ⟨_,_,_,hk,?_⟩
       have e1:=key b (g.base + off * g.s) len cap k n rfl rfl h0 hn
       have e2 : g.base + off * g.s + n.toNat * s = g.base + (off + n.toNat) * g.s + 0:=by
        rw [ent.s,hs,Nat.add_mul]; omega
       rw [e2] at e1
       rw [e1]
       exact ⟨T,M,m.wider fun _ h=>.inl h,Pres.refl _ _,fun _ _ h=>h,.pt _ _ _ _ g b hg hz hblk⟩
 ·rename_i l e hu
  split at hk
  case h_2=>exact False.elim hk
  rename_i s hsz
  simp only [List.map] at hk
  have hsz' : (sizeOf e).run P w = .ok s w:=by
   simp only [zce,Option.map_eq_some_iff] at hsz
   obtain ⟨i,hi,hs⟩:=hsz
   simp [sizeOf,typeInfo,hi,hs]
  generalize hv : a.eval x = v at *
  generalize (opd x).ev st.get = X at *
  generalize hv' : a.eval y = v' at *
  generalize (opd y).ev st.get = Y at *
  have key : ∀ (b off : Nat) (k : IntKind) (n : Int),v = .pointer (some ⟨b,off,none⟩) → v' = .int k n → 0 ≤ n → n < l →
    (execOp a.eval o).run P w = .ok (.value (.pointer (some ⟨b,off + n.toNat * s,none⟩))) w:=by
   rintro b off k n rfl rfl h0 hn
   simp [execOp,h,hv,hv',Instr.indexAt,asIntOf,zah hu,h0,hn,hsz',Addr.add_none,Instr.sureAddr]
  cases X <;> (try (simp only [aK] at hk; done))
  ·rename_i cs
   cases Y <;> (try (simp only [aK] at hk; done))
   rename_i u
   cases u <;> (try (simp only [aK] at hk; done))
   rename_i k n
   simp only [aK] at hk
   obtain ⟨h0,hn,hle,hk⟩:=hk
   obtain rfl:=zbF hr' rfl
   have hnl : n.toNat * s ≤ cs.length:=Nat.le_trans (Nat.mul_le_mul_right s (show n.toNat ≤ l by omega)) hle
   cases hr with
   | pv _ _ b off cells ty fz c hb ht hcc h1 hh =>
     refine ⟨_,_,_,hk,zaz m (.pv _ _ b (off + n.toNat * s) cells ty fz (fun j=>c (n.toNat * s + j)) hb (by simp; omega) (fun j hj=>?_) (fun j hj=>?_) fun j hj=>?_) (key b off k n rfl rfl h0 hn)⟩
     ·rw [Nat.add_assoc]; exact hcc _ (by simp at hj; omega)
     ·exact h1 _ (by simp at hj; omega)
     ·have:=hh (n.toNat * s + j) (by simp at hj; omega)
      simpa [List.getD] using this
  ·rename_i i kk j
   cases Y <;> (try (simp only [aK] at hk; done))
   rename_i u
   cases u <;> (try (simp only [aK] at hk; done))
   rename_i k n
   simp only [aK] at hk
   obtain ⟨h0,hn,hk⟩:=hk
   obtain rfl:=zbF hr' rfl
   cases hr with
   | pt _ _ _ _ g b hg hz hb =>
     refine ⟨_,_,_,hk,zaz m (.pt _ _ _ _ g b hg hz hb) ?_⟩
     rw [key b _ k n rfl rfl h0 hn,Nat.add_assoc (g.base + kk * g.s)]
theorem zyu (o : Oper) (t : TypeId) (x y : Operand) (h : o.op = .index t x y) : Goal P np T0 M0 w0 live st T M a w idb o:=by
 intro K hk
 have hr:=zaG tm x
 have hr':=zaG tm y
 simp only [zaB,h] at hk
 split at hk
 case h_3=>exact False.elim hk
 case h_2 =>
  rename_i l e hu
  split at hk
  case h_2=>exact False.elim hk
  rename_i hag hsz
  simp only [List.map] at hk
  have hsz' : (sizeOf e).run P w = .ok 1 w:=by
   simp only [zce,Option.map_eq_some_iff] at hsz
   obtain ⟨i,hi,hs⟩:=hsz
   simp [sizeOf,typeInfo,hi,hs]
  have hag' : (isAgg e).run P w = .ok false w:=by
   unfold aggC at hag
   split at hag <;> (try (cases hag; done))
   ·rename_i d e n1 n2
    simp only [isAgg,Sem.run_bind,zah n2]
    simp
  generalize hv : a.eval x = v at *
  generalize (opd x).ev st.get = X at *
  generalize hv' : a.eval y = v' at *
  generalize (opd y).ev st.get = Y at *
  cases X <;> cases Y <;> (try (simp only [aK] at hk; done))
  rename_i cs q
  cases q <;> (try (simp only [aK] at hk; done))
  rename_i k n
  simp only [aK] at hk
  obtain ⟨h0,hn,hle,hk⟩:=hk
  obtain rfl:=zbF hr' rfl
  cases hr with
  | agg _ _ us hl h1 hh =>
    have hlt : n.toNat < cs.length:=by omega
    have hlt' : n.toNat < us.size:=by omega
    refine ⟨_,_,_,hk,zaz m (v':=us.getD n.toNat undef) (hh _ hlt) ?_⟩
    simp [execOp,h,hv,hv',Instr.index,asIntOf,zah hu,h0,hn,hsz',part,hag',hlt',Array.getD]
 rename_i hu
 simp only [List.map] at hk
 generalize hv : a.eval x = v at *
 generalize (opd x).ev st.get = X at *
 generalize hv' : a.eval y = v' at *
 generalize (opd y).ev st.get = Y at *
 cases X <;> cases Y <;> (try (simp only [aK] at hk; done))
 rename_i p q
 cases p <;> (try (simp only [aK] at hk; done))
 cases q <;> (try (simp only [aK] at hk; done))
 rename_i s k n
 simp only [aK] at hk
 obtain ⟨h0,c,hc,hk⟩:=hk
 obtain rfl:=zbF hr rfl
 obtain rfl:=zbF hr' rfl
 refine ⟨_,_,_,hk,zaz m (.sc _ _ rfl) ?_⟩
 have hc' : s[n.toNat]? = some c:=by
  have hi : n.toNat < s.data.toList.length:=(List.getElem?_eq_some_iff.1 hc).1
  have hi' : n.toNat < s.size:=by simpa using hi
  have h1:=(List.getElem?_eq_some_iff.1 hc).2
  rw [getElem?_pos s n.toNat hi']
  congr 1
 simp [execOp,h,hv,hv',Instr.index,asIntOf,zah hu,h0,hc']
end
section
variable {P : Program} {np : Nat} {T0 : Nat → Nat} {M0 : GM} {w0 : World} {live : Nat → Prop} {st : St} {T : Nat → Nat} {M : GM} {a : Act} {w : World} {idb : Nat}
theorem zs4 {t e : TypeId} {s : Nat} (hu : P.underlying t = some (.slice e)) (hs : (sizeOf e).run P w = .ok s w) (ad : Option Addr) (len cap l r m : Nat) (hlr : l ≤ r) (hrm : r ≤ m) (hmc : m ≤ cap)
  (lo hi mx : Option Value) (h1 : lo = some (.int .i64 l) ∨ (lo = none ∧ l = 0)) (h2 : hi = some (.int .i64 r) ∨ (hi = none ∧ r = len ∧ mx = none)) (h3 : mx = some (.int .i64 m) ∨ (mx = none ∧ m = cap)) :
  (Instr.sliceAt t (.slice ad len cap) lo hi mx).run P w = .ok (.slice (if m = l then ad else ad.map (·.add (l * s))) (r - l) (m - l)) w:=by
 have sb : ∀ (k y : Nat) code,k ≤ y → (Instr.sliceBound (.int .i64 (k : Nat)) y code).run P w = .ok k w:=by
  intro k y code hk
  have : (k : Int) ≤ y:=by omega
  simp [Instr.sliceBound,asIntOf,this]
 have hrc : r ≤ cap:=by omega
 rcases h1 with rfl | ⟨rfl,rfl⟩ <;> rcases h2 with rfl | ⟨rfl,rfl,rfl⟩ <;> (try (rcases h3 with rfl | ⟨rfl,rfl⟩)) <;> (try (cases h3; done)) <;>
  simp_all [Instr.sliceAt,zah hu,Instr.slice,Instr.sliceBounds]
variable (tm : ∀ i,Rep T w M (st.get i) (a.tmps.getD i undef)) (m : Mem np T0 M0 w0 live st.hp T M w)
include tm m
theorem zw9 (o : Oper) (t : TypeId) (x : Operand) (lo hi mx : Option Operand) (h : o.op = .slice t x lo hi mx) : Goal P np T0 M0 w0 live st T M a w idb o:=by
 intro K hk
 have hr:=zaG tm x
 simp only [zaB,h] at hk
 split at hk
 case h_2=>exact False.elim hk
 rename_i e hu
 split at hk
 case h_2=>exact False.elim hk
 rename_i s hsz
 have hsz' : (sizeOf e).run P w = .ok s w:=by
  simp only [zce,Option.map_eq_some_iff] at hsz
  obtain ⟨i,hi,hs⟩:=hsz
  simp [sizeOf,typeInfo,hi,hs]
 simp only [List.cons_append,List.nil_append,List.map_cons] at hk
 generalize hv : a.eval x = v at *
 generalize (opd x).ev st.get = X at *
 unfold aK at hk
 simp only at hk
 obtain ⟨l,r,mm,n,hn,hlr,hbs,hl0,hr0,hmx,hk⟩:=hk
 have one : ∀ (y : Operand) (k : Nat),(opd y).ev st.get = AV.I k → a.eval y = .int .i64 k:=fun y k hy=>zbF (zaG tm y) hy
 have bnds : (lo.map a.eval = some (.int .i64 l) ∨ (lo.map a.eval = none ∧ l = 0)) ∧ (hi.map a.eval = some (.int .i64 r) ∨ (hi.map a.eval = none ∧ r = n ∧ mx.map a.eval = none)) ∧ (mx.map a.eval = some (.int .i64 mm) ∨ mx.map a.eval = none):=by
  cases lo <;> cases hi <;> cases mx <;> simp only [Option.isSome_none,Option.isSome_some,Option.map_some,Option.map_none,Option.toList_some,Option.toList_none,List.append_nil,List.nil_append,List.cons_append,List.map_cons,List.map_nil,Bool.false_eq_true,if_false,if_true,forall_const,reduceCtorEq,false_and,or_false,false_or,true_and,and_true,List.cons.injEq,imp_self,Option.some.injEq,implies_true] at hbs hl0 hr0 hmx ⊢
  all_goals first
   | exact ⟨hl0,hr0⟩
   | exact absurd hmx id
   | exact ⟨hl0,one _ _ hbs⟩
   | exact ⟨hl0,one _ _ hbs.1,one _ _ hbs.2⟩
   | exact ⟨one _ _ hbs,hr0⟩
   | exact ⟨one _ _ hbs.1,one _ _ hbs.2⟩
   | exact ⟨one _ _ hbs.1,one _ _ hbs.2.1,one _ _ hbs.2.2⟩
 obtain ⟨b1,b2,b3⟩:=bnds
 have hmxs : (mx.map a.eval).isSome = mx.isSome:=by cases mx <;> rfl
 have run2 : ∀ ad cap mc,v = .slice ad n cap → r ≤ mc → mc ≤ cap → (mx.isSome = true → mc = mm) → (mx.isSome = false → mc = cap) → (execOp a.eval o).run P w = .ok (.value (.slice (if mc = l then ad else ad.map (·.add (l * s))) (r - l) (mc - l))) w:=by
  rintro ad cap mc rfl h1 h2 h3 h4
  have:=zs4 hu hsz' ad n cap l r mc hlr h1 h2 _ _ _ b1 b2 (by
   cases hm : mx.isSome with
   | true =>
     rcases b3 with b3 | b3
     ·exact .inl (by rw [b3,h3 hm])
     ·have:=congrArg Option.isSome b3
      rw [hmxs,hm] at this
      cases this
   | false =>
     refine .inr ⟨?_,h4 hm⟩
     have:=hmxs
     rw [hm] at this
     simpa using this)
  simp [execOp,h,hv,this]
 have run : ∀ ad cap,n ≤ cap → r ≤ n → (mx.isSome = true → mm = r) → v = .slice ad n cap → (execOp a.eval o).run P w = .ok (.value (.slice (if (if mx.isSome then r else cap) = l then ad else ad.map (·.add (l * s))) (r - l) ((if mx.isSome then r else cap) - l))) w:=by
  intro ad cap hc hrn hmr hvv
  refine run2 ad cap _ hvv ?_ ?_ (fun h=>by rw [if_pos h,hmr h]) (fun h=>by rw [h]; rfl)
  ·split <;> omega
  ·split <;> omega
 cases X <;> (try (exact False.elim hk))
 ·rename_i u
  split at hk <;> (try (exact False.elim hk))
  ·rename_i h1; cases h1
  ·rename_i h1; cases h1
  ·rename_i h1; cases h1
  ·rename_i h1
   cases h1
   obtain ⟨hrn,hmr,hk⟩:=hk
   obtain rfl:=zbF hr rfl
   simp only [lenOf,Option.some.injEq] at hn
   subst hn
   obtain rfl : r = 0:=by omega
   obtain rfl : l = 0:=by omega
   refine ⟨_,_,_,hk,zaz m (.sc _ _ rfl) ?_⟩
   rw [run none 0 (Nat.le_refl _) hrn hmr rfl]
   simp
 ·rename_i s' full rows
  obtain ⟨hrn,hmr,rfl,hk⟩:=hk
  simp only [lenOf,Option.some.injEq] at hn
  subst hn
  cases hr with
  | vs _ _ _ _ ad cap c hf hle hw hb h1 hh =>
    have hlen : ((rows.drop l).take (r - l)).length = r - l:=by simp; omega
    have run':=run ad cap hle hrn hmr rfl
    refine ⟨_,_,_,hk,?_⟩
    rw [run']
    refine ⟨T,M,m.wider fun _ h=>.inl h,Pres.refl _ _,fun _ _ h=>h,?_⟩
    suffices hS : Rep T w M (.vs s' (mx.isSome || full && !hi.isSome) ((rows.drop l).take (r - l))) (.slice (if (if mx.isSome then r else cap) = l then ad else ad.map (·.add (l * s'))) ((rows.drop l).take (r - l)).length ((if mx.isSome then r else cap) - l)) by
     rwa [hlen] at hS
    refine .vs _ _ _ _ _ _ (fun i j=>c (l + i) j) (fun hfull=>?_) ?_ (fun row hrow=>hw row (List.mem_of_mem_drop (List.mem_of_mem_take hrow))) (fun hne=>?_) (fun i j hi hj=>h1 _ _ (by rw [hlen] at hi; omega) hj) fun i j hi hj=>?_
    ·rw [hlen]
     cases hmb : mx.isSome with
     | true=>simp
     | false =>
       simp only [hmb,Bool.false_or,Bool.and_eq_true,Bool.not_eq_true'] at hfull
       have:=hf hfull.1
       have:=hr0 hfull.2
       simp
       omega
    ·rw [hlen]
     split <;> omega
    ·have hpos : 0 < r - l:=by
      rw [← hlen]
      exact List.length_pos_iff.2 hne
     obtain ⟨b,off,cells,ty,fz,rfl,hw1,hT,hc⟩:=hb (by rintro rfl; simp at hrn; omega)
     refine ⟨b,off + l * s',cells,ty,fz,?_,hw1,?_,fun i j hi hj=>?_⟩
     ·rw [if_neg (by split <;> omega)]
      simp [Addr.add_none]
     ·rw [hlen]
      have : (l + (r - l)) * s' ≤ rows.length * s':=Nat.mul_le_mul_right _ (by omega)
      rw [Nat.add_mul] at this
      omega
     ·rw [hlen] at hi
      have:=hc (l + i) j (by omega) hj
      rw [Nat.add_mul] at this
      rw [show off + l * s' + i * s' + j = off + (l * s' + i * s') + j by omega]
      exact this
    ·rw [hlen] at hi
     have:=hh (l + i) j (by omega) hj
     have e : ((rows.drop l).take (r - l)).getD i [] = rows.getD (l + i) []:=by
      simp only [List.getD,List.getElem?_take,List.getElem?_drop]
      rw [if_pos hi]
     rw [e]
     exact this
 ·rename_i i off len
  obtain ⟨hrn,hmf,⟨en,hen,hs⟩,hk⟩:=hk
  simp only [lenOf,Option.some.injEq] at hn
  subst hn
  cases hr with
  | rs _ _ _ _ cap ad g hg hz hl hnn hb =>
    obtain ⟨g',hg',ent⟩:=m.hs.ent i en hen
    obtain rfl:=Option.some.inj (hg.symm.trans hg')
    have run':=run ad cap hl hrn (fun h=>by rw [hmf] at h; cases h) rfl
    refine ⟨_,_,_,hk,?_⟩
    rw [run']
    simp only [hmf,Bool.false_eq_true,if_false]
    refine ⟨T,M,m.wider fun _ h=>.inl h,Pres.refl _ _,fun _ _ h=>h,.rs _ _ _ _ _ _ g hg hz (by omega) (fun hb0=>?_) fun b hbb=>?_⟩
    ·obtain ⟨h1,h2⟩:=hnn hb0
     omega
    ·obtain ⟨ha,cells,ty,fz,hw1,hfit⟩:=hb b hbb
     refine ⟨?_,cells,ty,fz,hw1,?_⟩
     ·by_cases hcl : cap = l
      ·exact .inl (by omega)
      ·rw [if_neg hcl]
       rcases ha with ha | ha
       ·omega
       ·subst ha
        right
        simp only [Option.map_some,Addr.add_none]
        rw [← hs,← ent.s,Nat.add_mul,Nat.add_assoc]
     ·have : (l + (cap - l)) * g.s = cap * g.s:=by rw [show l + (cap - l) = cap by omega]
      rw [Nat.add_mul] at this
      rw [Nat.add_mul]
      omega
 ·rename_i i off len c
  obtain ⟨hrm,hmc,hmx0,⟨en,hen,hs⟩,hk⟩:=hk
  simp only [lenOf,Option.some.injEq] at hn
  subst hn
  cases hr with
  | rk _ _ _ _ _ ad g hg hz hl hnn hb =>
    obtain ⟨g',hg',ent⟩:=m.hs.ent i en hen
    obtain rfl:=Option.some.inj (hg.symm.trans hg')
    have run':=run2 ad c mm rfl hrm hmc (fun _=>rfl) hmx0
    refine ⟨_,_,_,hk,?_⟩
    rw [run']
    refine ⟨T,M,m.wider fun _ h=>.inl h,Pres.refl _ _,fun _ _ h=>h,.rk _ _ _ _ _ _ g hg hz (by omega) (fun hb0=>?_) fun b hbb=>?_⟩
    ·obtain ⟨h1,h2⟩:=hnn hb0
     omega
    ·obtain ⟨ha,cells,ty,fz,hw1,hfit⟩:=hb b hbb
     refine ⟨?_,cells,ty,fz,hw1,?_⟩
     ·by_cases hcl : mm = l
      ·exact .inl (by omega)
      ·rw [if_neg hcl]
       rcases ha with ha | ha
       ·omega
       ·subst ha
        right
        simp only [Option.map_some,Addr.add_none]
        rw [← hs,← ent.s,Nat.add_mul,Nat.add_assoc]
     ·have : (l + (mm - l)) * g.s ≤ c * g.s:=Nat.mul_le_mul_right _ (by omega)
      rw [Nat.add_mul] at this
      rw [Nat.add_mul]
      omega
theorem zxa (o : Oper) (c : Call) (h : o.op = .call c) (hb : c.callee = .builtin .cap) : Goal P np T0 M0 w0 live st T M a w idb o:=by
 intro K hk
 simp only [zaB,h,hb] at hk
 split at hk
 case h_2=>exact False.elim hk
 rename_i t x ht hx
 have ht' : c.argTypes = #[t]:=by rw [← Array.toArray_toList (xs:=c.argTypes),ht]
 have hx' : c.args = #[x]:=by rw [← Array.toArray_toList (xs:=c.args),hx]
 have hr:=zaG tm x
 split at hk
 case h_2=>exact False.elim hk
 rename_i e hu
 simp only [List.map] at hk
 generalize hv : a.eval x = v at *
 generalize (opd x).ev st.get = X at *
 by_cases hX : X = .nilS
 ·subst hX
  simp only [AV.nilS,aK] at hk
  obtain rfl:=zbF hr rfl
  refine ⟨_,_,_,hk,zaz m (.sc _ _ rfl) ?_⟩
  simp [execOp,h,resolve,hb,invoke,builtin,Builtin.cap_,ht',hx',hv,zah hu,goInt]
 cases X <;> (try (simp only [aK] at hk; done))
 case sc v0 =>
  exfalso
  cases v0 <;> (try (simp only [aK] at hk; done))
  rename_i ad l cc
  cases ad <;> cases l <;> cases cc <;> (try (simp only [aK] at hk; done))
  exact hX rfl
 simp only [aK] at hk
 cases hr
 refine ⟨_,_,_,hk,zaz m (.sc _ _ rfl) ?_⟩
 simp [execOp,h,resolve,hb,invoke,builtin,Builtin.cap_,ht',hx',hv,zah hu,goInt]
end
def RepC (T : Nat → Nat) (w : World) (M : GM) (cs : List AV) (us : Array Value) : Prop :=
 us.size = cs.length ∧ ∀ i,i < cs.length → (us.getD i undef).oneCell' = true ∧ Rep T w M (cs.getD i .dead) (us.getD i undef)
theorem zkw (off : Nat) : ∀ (l : List Value) (k : Nat) (cells : Array Value),
  ((l.zipIdx k).foldl (fun cs p=>cs.setIfInBounds (off + p.2) p.1) cells).size = cells.size ∧
  ∀ i,i < cells.size → ((l.zipIdx k).foldl (fun cs p=>cs.setIfInBounds (off + p.2) p.1) cells)[i]? = if off + k ≤ i ∧ i < off + k + l.length then l[i - (off + k)]? else cells[i]?
 | [],k,cells=>⟨rfl,fun i hi=>by simp; omega⟩
 | v :: l,k,cells=>by
   have ih:=zkw off l (k + 1) (cells.setIfInBounds (off + k) v)
   simp only [List.zipIdx_cons,List.foldl_cons]
   refine ⟨by rw [ih.1]; simp,fun i hi=>?_⟩
   rw [ih.2 i (by simpa using hi)]
   by_cases h : i = off + k
   ·subst h
    rw [if_neg (by omega),if_pos (by simp)]
    simp [hi]
   ·by_cases h2 : off + (k + 1) ≤ i ∧ i < off + (k + 1) + l.length
    ·rw [if_pos h2,if_pos (by simp; omega)]
     rw [show i - (off + k) = (i - (off + (k + 1))) + 1 by omega]
     simp
    ·rw [if_neg h2,if_neg (by simp; omega),Array.getElem?_setIfInBounds_ne (by omega)]
theorem zaL {l : Array Value} {i : Nat} {x : Value} (h : l[i]? = some x) : l.getD i undef = x:=by
 simp [Array.getD_eq_getD_getElem?,h]
theorem zrN {T w M} {cells : List AV} {us : Array Value} (hC : RepC T w M cells us) {cs : List AV} {v : Value} (hv : v.cells.size = cs.length)
  (hcs : ∀ j,j < cs.length → (v.cells.getD j undef).oneCell' = true ∧ Rep T w M (cs.getD j .dead) (v.cells.getD j undef)) {off : Nat} (ho : off + cs.length ≤ cells.length) :
  RepC T w M (cells.take off ++ cs ++ cells.drop (off + cs.length)) (v.cells.zipIdx.foldl (fun cs (c,j)=>cs.setIfInBounds (off + j) c) us):=by
 have e : v.cells.zipIdx.foldl (fun cs (c,j)=>cs.setIfInBounds (off + j) c) us = (v.cells.toList.zipIdx 0).foldl (fun cs p=>cs.setIfInBounds (off + p.2) p.1) us:=by
  rw [← Array.foldl_toList,Array.toList_zipIdx]
 rw [e]
 obtain ⟨h1,h2⟩:=zkw off v.cells.toList 0 us
 have hlen : (cells.take off ++ cs ++ cells.drop (off + cs.length)).length = cells.length:=by simp; omega
 refine ⟨by rw [h1,hlen]; exact hC.1,fun i hi=>?_⟩
 rw [hlen] at hi
 have h3:=h2 i (by rw [hC.1]; exact hi)
 simp only [Nat.add_zero,Array.length_toList,hv] at h3
 by_cases hin : off ≤ i ∧ i < off + cs.length
 ·rw [if_pos hin] at h3
  have hj : i - off < v.cells.size:=by omega
  have e1 : v.cells.toList[i - off]? = some (v.cells.getD (i - off) undef):=by simp [Array.getD,hj]
  rw [e1] at h3
  rw [zaL h3]
  have e2 : (cells.take off ++ cs ++ cells.drop (off + cs.length)).getD i .dead = cs.getD (i - off) .dead:=by
   simp only [List.getD]
   rw [List.append_assoc,List.getElem?_append_right (by simp; omega),List.getElem?_append_left (by simp; omega)]
   simp
   congr 2
   omega
  rw [e2]
  exact hcs (i - off) (by omega)
 ·rw [if_neg hin] at h3
  have hi' : i < us.size:=by rw [hC.1]; exact hi
  have e1 : us[i]? = some (us.getD i undef):=by simp [Array.getD,hi']
  rw [e1] at h3
  rw [zaL h3]
  have e2 : (cells.take off ++ cs ++ cells.drop (off + cs.length)).getD i .dead = cells.getD i .dead:=by
   simp only [List.getD]
   by_cases hlt : i < off
   ·rw [List.append_assoc,List.getElem?_append_left (by simp; omega)]
    simp [hlt]
   ·rw [List.getElem?_append_right (by simp; omega)]
    simp only [List.getElem?_drop,List.length_append,List.length_take]
    congr 2
    omega
  rw [e2]
  exact hC.2 i hi
theorem zkz {T w M} (place : Nat → Option (Nat × Nat)) : ∀ (ps : List (Nat × Value)) (pl : List (Nat × Nat)) (xs : List AV) (cells : List AV) (us : Array Value) (out : List AV),
  RepC T w M cells us → ps.mapM (fun p=>place p.1) = some pl → xs.length = ps.length → (∀ i,i < xs.length → Rep T w M (xs.getD i .dead) ((ps.map (·.2)).getD i undef)) → znE cells pl xs = some out →
  ∃ us',Instr.fill place us ps = some us' ∧ RepC T w M out us'
 | [],pl,xs,cells,us,out,hC,hp,hl,hr,hf=>by
   simp at hp
   subst hp
   have : xs = []:=List.eq_nil_of_length_eq_zero hl
   subst this
   simp only [znE,Option.some.injEq] at hf
   subst hf
   exact ⟨us,rfl,hC⟩
 | (i,v) :: ps,pl,xs,cells,us,out,hC,hp,hl,hr,hf=>by
   cases xs with
   | nil=>simp at hl
   | cons x xs =>
   simp only [List.mapM_cons,Option.bind_eq_bind,Option.pure_def,Option.bind_eq_some_iff] at hp
   obtain ⟨⟨off,size⟩,h1,pl',h2,h3⟩:=hp
   simp only [Option.some.injEq] at h3
   subst h3
   simp only [znE] at hf
   split at hf
   case h_2=>cases hf
   rename_i cs hcs
   split at hf
   case isFalse=>cases hf
   rename_i hc
   have h0:=hr 0 (by simp)
   simp only [List.getD_cons_zero,List.map_cons] at h0
   obtain ⟨e1,e2⟩:=zhV h0 hcs
   have st:=zrN hC e1 e2 (off:=off) (by omega)
   rw [hc.1] at st
   obtain ⟨us',h4,h5⟩:=zkz place ps pl' xs _ _ out st h2 (by simpa using hl) (fun k hk=>by have:=hr (k + 1) (by simpa using hk); simpa using this) hf
   refine ⟨us',?_,h5⟩
   simp only [Instr.fill,h1]
   rw [if_neg]
   ·exact h4
   ·simp only [ne_eq,Bool.or_eq_true,decide_eq_true_eq,not_or,Decidable.not_not]
    have:=hC.1
    omega
section
variable {P : Program} {np : Nat} {T0 : Nat → Nat} {M0 : GM} {w0 : World} {live : Nat → Prop} {st : St} {T : Nat → Nat} {M : GM} {a : Act} {w : World} {idb : Nat}
theorem zcH {t : TypeId} {z : List Value} (h : zln P t = some z) : ∃ i zv,P.info? t = some i ∧ i.zero = some zv ∧ zv.cells.toList = z ∧ z.length = i.size ∧ ∀ v ∈ z,v.oneCell' = true:=by
 unfold zln at h
 split at h
 case h_2=>cases h
 rename_i i hi
 split at h
 case h_2=>cases h
 rename_i zv hz
 split at h
 case isFalse=>cases h
 rename_i hc
 simp only [Option.some.injEq] at h
 subst h
 simp only [Bool.and_eq_true,beq_iff_eq] at hc
 refine ⟨i,zv,hi,hz,rfl,by simpa using hc.2,fun v hv=>?_⟩
 have:=Array.all_eq_true_iff_forall_mem.1 hc.1
 exact this v (by simpa using hv)
theorem zmN {T w M} {z : List Value} (h : ∀ v ∈ z,v.oneCell' = true) : RepC T w M (z.map .sc) z.toArray:=by
 refine ⟨by simp,fun i hi=>?_⟩
 simp only [List.length_map] at hi
 have e : z.toArray.getD i undef = z[i]:=by simp [Array.getD,hi]
 rw [e,zeC _ _ _ hi]
 exact ⟨h _ (List.getElem_mem hi),.sc _ _ (h _ (List.getElem_mem hi))⟩
variable (tm : ∀ i,Rep T w M (st.get i) (a.tmps.getD i undef)) (m : Mem np T0 M0 w0 live st.hp T M w) (fresh : ∀ k,k < 8 → ¬ live (idb + k)) (npid : np ≤ idb)
include tm m
omit tm m in
theorem zkE (s : Nat) : ∀ ps : List (Nat × Value),ps.mapM (fun p=>(fun i=>some (i * s,s) : Nat → Option (Nat × Nat)) p.1) = some (ps.map fun p=>(p.1 * s,s))
 | []=>rfl
 | p :: ps=>by
   rw [List.mapM_cons,zkE s ps]
   rfl
theorem zuu (o : Oper) (t : TypeId) (ps : Array (Nat × Operand)) (h : o.op = .build t ps) : Goal P np T0 M0 w0 live st T M a w idb o:=by
 intro K hk
 simp only [zaB,h] at hk
 split at hk
 case h_3=>exact False.elim hk
 case h_2 =>
  rename_i z n e hz hu
  split at hk
  case h_2=>exact False.elim hk
  rename_i ie hie
  simp only [List.map_map,aK] at hk
  obtain ⟨cs,hcs,hk⟩:=hk
  obtain ⟨i,zv,hi,hzv,hzl,-,hone⟩:=zcH hz
  have hzc : RepC T w M (z.map .sc) zv.cells:=by
   have:=zmN (T:=T) (w:=w) (M:=M) hone
   subst hzl
   rwa [Array.toArray_toList] at this
  have hmap : (ps.toList.map fun (x : Nat × Operand)=>(x.1,a.eval x.2)).mapM (fun p=>(fun i=>some (i * ie.size,ie.size) : Nat → Option (Nat × Nat)) p.1) = some (ps.toList.map fun p=>(p.1 * ie.size,ie.size)):=by
   rw [zkE,List.map_map]
   rfl
  obtain ⟨us,hf,hC⟩:=zkz (T:=T) (w:=w) (M:=M) (fun i=>some (i * ie.size,ie.size)) (ps.toList.map fun (x : Nat × Operand)=>(x.1,a.eval x.2)) _ _ _ _ cs hzc hmap (by simp) (fun k hk=>by
   simp only [List.length_map,Array.length_toList] at hk
   have e1 : (ps.toList.map ((fun x=>x.ev st.get) ∘ fun x=>opd x.2)).getD k .dead = (opd ps[k].2).ev st.get:=by simp [List.getD,hk]
   have e2 : ((ps.toList.map fun (x : Nat × Operand)=>(x.1,a.eval x.2)).map (·.2)).getD k undef = a.eval ps[k].2:=by simp [List.getD,hk]
   rw [e1,e2]
   exact zaG tm _) hcs
  refine ⟨_,_,_,hk,zaz m (v':=.agg us) (.agg _ _ _ hC.1 (fun i hi=>(hC.2 i hi).1) fun i hi=>(hC.2 i hi).2) ?_⟩
  have hb:=run_build (P:=P) w t (ps.map fun (i,x)=>(i,a.eval x)) us (by
   unfold Program.built
   simp only [hi,hu,hzv,hie]
   simpa using hf)
  simp only [execOp,h,Sem.run_bind,hb,Result.andThen_ok,Sem.run_pure]
 rename_i z fs hz hu
 split at hk
 case h_2=>exact False.elim hk
 rename_i places hpl
 split at hk
 case h_2=>exact False.elim hk
 rename_i pl hps
 simp only [List.map_map,aK] at hk
 obtain ⟨cs,hcs,hk⟩:=hk
 obtain ⟨i,zv,hi,hzv,hzl,-,hone⟩:=zcH hz
 have hzc : RepC T w M (z.map .sc) zv.cells:=by
  have:=zmN (T:=T) (w:=w) (M:=M) hone
  subst hzl
  rwa [Array.toArray_toList] at this
 have hmap : (ps.toList.map fun (x : Nat × Operand)=>(x.1,a.eval x.2)).mapM (fun p=>places[p.1]?) = some pl:=by
  rw [List.mapM_map]
  exact hps
 obtain ⟨us,hf,hC⟩:=zkz (T:=T) (w:=w) (M:=M) (places[·]?) (ps.toList.map fun (x : Nat × Operand)=>(x.1,a.eval x.2)) pl _ _ _ cs hzc hmap (by simp) (fun k hk=>by
  simp only [List.length_map,Array.length_toList] at hk
  have e1 : (ps.toList.map ((fun x=>x.ev st.get) ∘ fun x=>opd x.2)).getD k .dead = (opd ps[k].2).ev st.get:=by simp [List.getD,hk]
  have e2 : ((ps.toList.map fun (x : Nat × Operand)=>(x.1,a.eval x.2)).map (·.2)).getD k undef = a.eval ps[k].2:=by simp [List.getD,hk]
  rw [e1,e2]
  exact zaG tm _) hcs
 refine ⟨_,_,_,hk,zaz m (v':=.agg us) (.agg _ _ _ hC.1 (fun i hi=>(hC.2 i hi).1) fun i hi=>(hC.2 i hi).2) ?_⟩
 have hb:=run_build (P:=P) w t (ps.map fun (i,x)=>(i,a.eval x)) us (by
  unfold Program.built
  simp only [hi,hu,hzv,hpl]
  simpa using hf)
 simp only [execOp,h,Sem.run_bind,hb,Result.andThen_ok,Sem.run_pure]
include fresh npid
omit tm in
theorem zgu {e : Ent} {cells : Array Value} {ty : TypeId} {s : Sem Next} {v : AV} {v' : Value} {w1 : World} (hs : s.run P w = .ok (.value v') w1) (hh : w1.heap = w.heap.push (.cells cells ty)) (os : w1.os = w.os) (tape : w1.tape = w.tape)
  (output : w1.output = w.output) (hez : e.s ≠ 0) (ro : e.ro ≤ e.rows.length) (wide : ∀ row ∈ e.rows,row.length = e.s) (fits : e.rows.length * e.s ≤ cells.size)
  (hc : ∀ i j,i < e.rows.length → j < e.s → ∃ v,cells[i * e.s + j]? = some v ∧ v.oneCell' = true ∧ Rep T w M ((e.rows.getD i []).getD j .dead) v)
  (up : List (Nat × Option Ent)) (hup1 : lkp up idb = some (some e)) (hup2 : ∀ i x,i ≠ idb → lkp up i = some x → x = none)
  (hr : ∀ M' : GM,M' idb = some ⟨some w.heap.size,0,e.s⟩ → Rep T w1 M' v v') :
  Eff P np T0 M0 w0 live idb (st.upd up).hp T M w v (s.run P w):=by
 rw [hs]
 obtain ⟨M',h1,h2,h3,h4⟩:=m.new (fresh 0 (by omega)) npid hh os tape output e hez ro wide fits hc (hp':=(st.upd up).hp) (by rw [St.hp_upd,Nat.add_zero,hup1]; rfl) (fun i e' hi he=>by
  rw [St.hp_upd] at he
  rw [Nat.add_zero] at hi
  cases hl : lkp up i with
  | none=>rw [hl] at he; exact he
  | some x=>rw [hl,hup2 i x hi hl] at he; cases he)
 exact ⟨T,M',h3.wider (fun i hi=>hi.elim .inl fun hi=>.inr (by omega)),h4,h2,hr M' h1⟩
omit tm in
theorem ztQ (o : Oper) (t : TypeId) (h : o.op = .alloc t) : Goal P np T0 M0 w0 live st T M a w idb o:=by
 intro K hk
 simp only [zaB,h] at hk
 split at hk
 case h_2=>exact False.elim hk
 rename_i y0 z0 hz
 obtain ⟨z,hzz⟩ : ∃ z,z = y0 :: z0:=⟨_,rfl⟩
 rw [← hzz] at hz hk
 have hz0 : z.length ≠ 0:=by rw [hzz]; simp
 simp only [List.map,aK] at hk
 obtain ⟨i,zv,hi,hzv,hzl,-,hone⟩:=zcH hz
 have hC:=zmN (T:=T) (w:=w) (M:=M) hone
 refine ⟨_,_,_,hk,zgu m fresh npid (e:={ s:=z.length,rows:=[z.map .sc] }) (w1:=w.alloc (.cells zv.cells t)) (cells:=zv.cells) (ty:=t) (v':=.pointer (some ⟨w.heap.size,0,none⟩)) ?_ rfl rfl rfl rfl hz0 (Nat.zero_le _) ?_ ?_ ?_ _ (by simp [lkp]) (fun i x hi hx=>by simp [lkp] at hx; omega) ?_⟩
 ·simp [execOp,h,Instr.alloc,zeroValue,typeInfo,hi,hzv,newVar,newRow]
 ·intro row hrow; simp at hrow; subst hrow; simp
 ·simp [← hzl]
 ·intro i j hi hj
  simp at hi hj
  subst hi
  have:=hC.2 j (by simpa using hj)
  refine ⟨z.toArray.getD j undef,?_,this.1,by simpa using this.2⟩
  rw [← hzl,Array.toArray_toList]
  rw [← hzl] at hj
  simp at hj
  simp [Array.getD,hj]
 ·intro M' hM'
  have:=fun w1=>Rep.pt (T:=T) (w:=w1) M' idb 0 0 _ _ hM' hz0 rfl
  simpa using this _
omit tm m fresh npid in
theorem zie {z : List Value} (hone : ∀ v ∈ z,v.oneCell' = true) {s : Nat} (hs : z.length = s) (n : Nat) (cells : Array Value) (k : Nat) (hcells : cells = (Array.range k).map fun i=>z.toArray[i % z.toArray.size]!) (hk : n * s ≤ k) :
  ∀ i j,i < (List.replicate n (z.map AV.sc)).length → j < s → ∃ v,cells[i * s + j]? = some v ∧ v.oneCell' = true ∧ Rep T w M (((List.replicate n (z.map AV.sc)).getD i []).getD j .dead) v:=by
 intro i j hi hj
 simp at hi
 have hlt:=zd9 hi hj
 refine ⟨z[j]'(by omega),?_,hone _ (List.getElem_mem _),?_⟩
 ·subst hcells
  rw [Array.getElem?_map,Array.getElem?_range,if_pos (by omega)]
  simp only [Option.map_some,List.size_toArray,hs]
  congr 1
  rw [show (i * s + j) % s = j by rw [Nat.add_comm,Nat.add_mul_mod_self_right]; exact Nat.mod_eq_of_lt hj]
  simp [show j < z.length by omega]
 ·have : (List.replicate n (z.map AV.sc)).getD i [] = z.map AV.sc:=by simp [List.getD,hi]
  rw [this,zeC _ _ _ (by omega)]
  exact .sc _ _ (hone _ (List.getElem_mem _))
theorem zxS (o : Oper) (t : TypeId) (x y : Operand) (h : o.op = .makeSlice t x y) : Goal P np T0 M0 w0 live st T M a w idb o:=by
 intro K hk
 simp only [zaB,h] at hk
 split at hk
 case h_2=>exact False.elim hk
 rename_i e hu
 split at hk
 case h_2=>exact False.elim hk
 rename_i z s b hz hs hb
 split at hk
 case isFalse=>exact False.elim hk
 rename_i hpos
 simp only [List.map] at hk
 obtain ⟨i,zv,hi,hzv,hzl,hzs,hone⟩:=zcH hz
 have hs' : i.size = s:=by simpa [zce,hi] using hs
 have hb' : i.bytes = b:=by simpa [zju,hi] using hb
 have hr:=zaG tm x
 have hr':=zaG tm y
 generalize hv : a.eval x = v at *
 generalize (opd x).ev st.get = X at *
 generalize hv' : a.eval y = v' at *
 generalize (opd y).ev st.get = Y at *
 cases X <;> cases Y <;> (try (simp only [aK] at hk; done))
 rename_i p q
 cases p <;> (try (simp only [aK] at hk; done))
 cases q <;> (try (simp only [aK] at hk; done))
 rename_i k l k' c
 simp only [aK] at hk
 obtain ⟨h0,hlc,hcb,hc,hzs',hk⟩:=hk
 obtain rfl:=zbF hr rfl
 obtain rfl:=zbF hr' rfl
 have run:=run_make (P:=P) w t e i zv hu hi hzv k k' l c h0 hlc (by rw [hb',Int.mul_comm]; omega) (by omega)
 have hfit : l.toNat * s ≤ c.toNat * i.size:=by rw [hs']; exact Nat.mul_le_mul_right _ (by omega)
 refine ⟨_,_,_,hk,zgu m fresh npid (e:={ s:=s,rows:=List.replicate l.toNat (z.map .sc) }) (w1:=w.alloc (.cells (madeCells zv.cells (c.toNat * i.size)) e)) (cells:=madeCells zv.cells (c.toNat * i.size)) (ty:=e)
  (v':=.slice (some ⟨w.heap.size,0,none⟩) l.toNat c.toNat) ?_ rfl rfl rfl rfl (Nat.pos_iff_ne_zero.1 hpos) (Nat.zero_le _) ?_ ?_ ?_ _ (by simp [lkp]) (fun i x hi hx=>by simp [lkp] at hx; omega) ?_⟩
 ·simp [execOp,h,hv,hv',run]
 ·intro row hrow
  have:=(List.mem_replicate.1 hrow).2
  subst this
  simp [hzs']
 ·simpa [size_madeCells] using hfit
 ·refine zie (T:=T) (w:=w) (M:=M) hone hzs' l.toNat _ (c.toNat * i.size) ?_ hfit
  rw [← hzl,Array.toArray_toList]
  rfl
 ·intro M' hM'
  refine .rs _ _ 0 _ _ _ _ hM' (Nat.pos_iff_ne_zero.1 hpos) (by omega) (fun hn=>by cases hn) fun b' hb2=>?_
  obtain rfl:=Option.some.inj hb2
  refine ⟨.inr (by simp),madeCells zv.cells (c.toNat * i.size),e,(0,0),by show (w.heap.push _)[w.heap.size]? = _; simp,?_⟩
  simp [size_madeCells,hs']
theorem zxE (o : Oper) (t : TypeId) (x : Operand) (h : o.op = .box t x) : Goal P np T0 M0 w0 live st T M a w idb o:=by
 intro K hk
 simp only [zaB,h] at hk
 split at hk
 case h_2=>exact False.elim hk
 rename_i s hz
 simp only [List.map,aK] at hk
 obtain ⟨cs,hcs,hl,hk⟩:=hk
 obtain ⟨h1,h2⟩:=zhV (zaG tm x) hcs
 refine ⟨_,_,_,hk,zgu m fresh npid (e:={ s:=s + 1,rows:=[cs] }) (w1:=w.alloc (.cells (a.eval x).cells t)) (cells:=(a.eval x).cells) (ty:=t) (v':=.pointer (some ⟨w.heap.size,0,none⟩)) ?_ rfl rfl rfl rfl (Nat.succ_ne_zero s) (Nat.zero_le _) ?_ ?_ ?_ _ (by simp [lkp]) (fun i x hi hx=>by simp [lkp] at hx; omega) ?_⟩
 ·simp [execOp,h,Instr.box,newVar,newRow]
 ·intro row hrow; simp at hrow; subst hrow; exact hl
 ·simp; omega
 ·intro i j hi hj
  simp at hi hj
  subst hi
  have:=h2 j (by omega)
  refine ⟨(a.eval x).cells.getD j undef,?_,this.1,by simpa using this.2⟩
  have hj' : j < (a.eval x).cells.size:=by omega
  simp [Array.getD,hj']
 ·intro M' hM'
  have:=fun w1=>Rep.pt (T:=T) (w:=w1) M' idb 0 0 _ _ hM' (Nat.succ_ne_zero s) rfl
  simpa using this _
end
theorem zoe {S k j s i' j' : Nat} (hj' : j' < S) (hs : j + s ≤ S) : (k * S + j ≤ i' * S + j' ∧ i' * S + j' < k * S + j + s) ↔ (i' = k ∧ j ≤ j' ∧ j' < j + s):=by
 constructor
 ·rintro ⟨h1,h2⟩
  have : i' = k:=by
   rcases Nat.lt_trichotomy i' k with h | h | h
   ·have : (i' + 1) * S ≤ k * S:=Nat.mul_le_mul_right _ h
    rw [Nat.add_mul] at this
    omega
   ·exact h
   ·have : (k + 1) * S ≤ i' * S:=Nat.mul_le_mul_right _ h
    rw [Nat.add_mul] at this
    omega
  subst this
  exact ⟨rfl,by omega,by omega⟩
 ·rintro ⟨rfl,h1,h2⟩
  omega
theorem zmr (row cs : List AV) (j : Nat) (h : j + cs.length ≤ row.length) : (zbR row j cs).length = row.length:=by
 unfold zbR
 simp
 omega
theorem zk4 (row cs : List AV) (j i : Nat) (h : j + cs.length ≤ row.length) :
  (zbR row j cs).getD i .dead = if j ≤ i ∧ i < j + cs.length then cs.getD (i - j) .dead else row.getD i .dead:=by
 unfold zbR
 simp only [List.getD]
 by_cases h1 : i < j
 ·rw [List.append_assoc,List.getElem?_append_left (by simp; omega),if_neg (by omega)]
  simp [h1]
 ·by_cases h2 : i < j + cs.length
  ·rw [List.append_assoc,List.getElem?_append_right (by simp; omega),List.getElem?_append_left (by simp; omega),if_pos (by omega)]
   simp
   congr 2
   omega
  ·rw [List.getElem?_append_right (by simp; omega),if_neg (by omega)]
   simp only [List.getElem?_drop,List.length_append,List.length_take]
   congr 2
   omega
theorem zqr (cur : Array Value) (o : Nat) (vs : List Value) (h : o + vs.length ≤ cur.size) :
  (cur.toList.take o ++ vs ++ cur.toList.drop (o + vs.length)).toArray.size = cur.size ∧
  ∀ i : Nat,(cur.toList.take o ++ vs ++ cur.toList.drop (o + vs.length)).toArray[i]? = if o ≤ i ∧ i < o + vs.length then vs[i - o]? else cur[i]?:=by
 refine ⟨by simp; omega,fun i=>?_⟩
 simp only [List.getElem?_toArray]
 by_cases h1 : i < o
 ·rw [List.append_assoc,List.getElem?_append_left (by simp; omega),if_neg (by omega)]
  simp [h1]
 ·by_cases h2 : i < o + vs.length
  ·rw [List.append_assoc,List.getElem?_append_right (by simp; omega),List.getElem?_append_left (by simp; omega),if_pos (by omega)]
   simp
   congr 1
   omega
  ·rw [List.getElem?_append_right (by simp; omega),if_neg (by omega)]
   simp only [List.getElem?_drop,List.length_append,List.length_take,Array.length_toList,Array.getElem?_toList]
   congr 1
   omega
section
variable {P : Program} {np : Nat} {T0 : Nat → Nat} {M0 : GM} {w0 : World} {live : Nat → Prop} {st : St} {T : Nat → Nat} {M : GM} {a : Act} {w : World} {idb : Nat}
variable (tm : ∀ i,Rep T w M (st.get i) (a.tmps.getD i undef)) (m : Mem np T0 M0 w0 live st.hp T M w) (fresh : ∀ k,k < 8 → ¬ live (idb + k)) (npid : np ≤ idb)
include tm m
theorem zuj (o : Oper) (t : TypeId) (x y : Operand) (h : o.op = .store t x y) : Goal P np T0 M0 w0 live st T M a w idb o:=by
 intro K hk
 simp only [zaB,h] at hk
 split at hk
 case h_2=>exact False.elim hk
 rename_i s hsz
 simp only [List.map] at hk
 have hsz' : (sizeOf t).run P w = .ok s w:=by
  simp only [zce,Option.map_eq_some_iff] at hsz
  obtain ⟨i,hi,hs⟩:=hsz
  simp [sizeOf,typeInfo,hi,hs]
 have hr:=zaG tm x
 have hr':=zaG tm y
 generalize hv : a.eval x = v at *
 generalize (opd x).ev st.get = X at *
 generalize hv' : a.eval y = v' at *
 generalize (opd y).ev st.get = Y at *
 cases X <;> (try (simp only [aK] at hk; done))
 rename_i i k j
 simp only [aK] at hk
 obtain ⟨e,row,cs,he,hrow,hro,hcs,hl,hfit,hk⟩:=hk
 obtain ⟨c1,c2⟩:=zhV hr' hcs
 cases hr with
 | pt _ _ _ _ g b hg hz hb =>
   obtain ⟨g',hg',ent⟩:=m.hs.ent i e he
   obtain rfl:=Option.some.inj (hg.symm.trans hg')
   obtain ⟨cells,ty,hcell,hT,hsize,hcc⟩:=ent.blk (ent.s ▸ hz) b hb
   have hkl : k < e.rows.length:=(List.getElem?_eq_some_iff.1 hrow).1
   have hwid:=ent.wide (ent.s ▸ hz) row (List.mem_of_getElem? hrow)
   have hrd : e.rows.getD k [] = row:=by simp [List.getD,hrow]
   have hS : g.s = e.s:=ent.s
   have hin : g.base + k * g.s + j + v'.cells.toList.length ≤ cells.size:=by
    have : (k + 1) * e.s ≤ e.rows.length * e.s:=Nat.mul_le_mul_right _ hkl
    rw [Nat.add_mul] at this
    rw [hS]
    simp
    omega
   have hst:=run_storeCells_at P b (g.base + k * g.s + j) ty v'.cells.toList 0 cells w hcell (by simpa using hin) (fun u hu=>by
    obtain ⟨n,hn,rfl⟩:=List.getElem_of_mem hu
    simp at hn
    have:=(c2 n (by omega)).1
    simpa [Array.getD,hn] using this)
   simp only [Nat.add_zero] at hst
   obtain ⟨s1,s2⟩:=zqr cells (g.base + k * g.s + j) v'.cells.toList hin
   have hvl : v'.cells.toList.length = s:=by simp; omega
   have hrun : (execOp a.eval o).run P w = .ok .skip (w.setRow b (cells.toList.take (g.base + k * g.s + j) ++ v'.cells.toList ++ cells.toList.drop (g.base + k * g.s + j + v'.cells.toList.length)).toArray):=by
    have hne : ¬ (v'.cells.size ≠ s):=by omega
    simp [execOp,h,hv,hv',Instr.storeAt,Instr.sureAddr,storeVar,hsz',hst,show v'.cells.size = s by omega]
   generalize hcells' : (cells.toList.take (g.base + k * g.s + j) ++ v'.cells.toList ++ cells.toList.drop (g.base + k * g.s + j + v'.cells.toList.length)).toArray = cells' at *
   rw [hvl] at s2
   obtain ⟨M',m1,m2,m3,m4⟩:=m.write (id':=i) (g':=g) (e:={ e with rows:=e.rows.set k (zbR row j cs) }) (cells':=cells') he hg hb hcell s1 (fun q hq=>by
     rw [s2,if_neg]
     have : e.ro * e.s ≤ k * e.s:=Nat.mul_le_mul_right _ hro
     rw [hS]
     omega) (.inl ⟨rfl,rfl⟩) hb hS (ent.s ▸ hz) (by simpa using ent.ro) (fun r hr=>by
     simp only at hr
     rcases List.mem_or_eq_of_mem_set hr with h | h
     ·exact ent.wide (ent.s ▸ hz) r h
     ·subst h; rw [zmr _ _ _ (by omega)]; exact hwid) hT (by simpa using hsize) (fun i' j' hi' hj'=>by
     simp only [List.length_set] at hi'
     simp only
     rw [s2]
     obtain ⟨u,hu,ho,hru⟩:=hcc i' j' hi' hj'
     have pl:=zoe (S:=e.s) (k:=k) (j:=j) (s:=s) (i':=i') hj' (by omega)
     by_cases hin' : i' = k ∧ j ≤ j' ∧ j' < j + s
     ·obtain ⟨rfl,q1,q2⟩:=hin'
      rw [hS,if_pos (by omega)]
      have q3 : j' - j < cs.length:=by omega
      have c3:=c2 (j' - j) q3
      refine ⟨v'.cells.getD (j' - j) undef,?_,c3.1,?_⟩
      ·rw [show g.base + i' * e.s + j' - (g.base + i' * e.s + j) = j' - j by omega]
       have : j' - j < v'.cells.size:=by omega
       simp [Array.getD,this]
      ·have : (e.rows.set i' (zbR row j cs)).getD i' [] = zbR row j cs:=by simp [List.getD,hkl]
       rw [this,zk4 _ _ _ _ (by omega),if_pos (by omega)]
       exact c3.2
     ·rw [hS,if_neg (by
       intro q
       exact hin' (pl.1 (by omega)))]
      refine ⟨u,hu,ho,?_⟩
      by_cases hik : i' = k
      ·subst hik
       have : (e.rows.set i' (zbR row j cs)).getD i' [] = zbR row j cs:=by simp [List.getD,hkl]
       rw [this,zk4 _ _ _ _ (by omega),if_neg (by omega)]
       rwa [hrd] at hru
      ·have : (e.rows.set k (zbR row j cs)).getD i' [] = e.rows.getD i' []:=by simp [List.getD,List.getElem?_set,Ne.symm hik]
       rw [this]
       exact hru)
    (hp':=(st.upd [(i,some { e with rows:=e.rows.set k (zbR row j cs) })]).hp) (by rw [St.hp_upd]; simp [lkp]) (fun i' e' hne he'=>by
     rw [St.hp_upd] at he'
     simp only [lkp,if_neg (Ne.symm hne)] at he'
     exact ⟨hne,he'⟩)
   refine ⟨_,_,_,hk,?_⟩
   rw [hrun]
   refine ⟨T,M',m3.wider fun i' hi'=>?_,m4,m2,rfl⟩
   rcases hi' with hi' | hi'
   ·exact .inl hi'
   ·subst hi'; exact .inl (m.dom _ _ hg)
end
structure RepR (T : Nat → Nat) (w : World) (M : GM) (s : Nat) (rows : List (List AV)) (us : Array Value) : Prop where
 size : us.size = rows.length * s
 wide : ∀ row ∈ rows,row.length = s
 cell : ∀ i j,i < rows.length → j < s → (us.getD (i * s + j) undef).oneCell' = true ∧ Rep T w M ((rows.getD i []).getD j .dead) (us.getD (i * s + j) undef)
theorem zmm {us vs : Array Value} {i j : Nat} (h : us[i]? = vs[j]?) : us.getD i undef = vs.getD j undef:=by
 simp only [Array.getD_eq_getD_getElem?,h]
theorem zqY {T w M s} {rows : List (List AV)} {us : Array Value} (hC : RepR T w M s rows us) {cs : List AV} {v : Value} (hv : v.cells.size = cs.length)
  (hcs : ∀ j,j < cs.length → (v.cells.getD j undef).oneCell' = true ∧ Rep T w M (cs.getD j .dead) (v.cells.getD j undef)) {k : Nat} (hl : cs.length = s) (hk : k < rows.length) :
  RepR T w M s (rows.set k cs) (v.cells.zipIdx.foldl (fun cs (c,j)=>cs.setIfInBounds (k * s + j) c) us):=by
 have e : v.cells.zipIdx.foldl (fun cs (c,j)=>cs.setIfInBounds (k * s + j) c) us = (v.cells.toList.zipIdx 0).foldl (fun cs p=>cs.setIfInBounds (k * s + p.2) p.1) us:=by
  rw [← Array.foldl_toList,Array.toList_zipIdx]
 rw [e]
 obtain ⟨h1,h2⟩:=zkw (k * s) v.cells.toList 0 us
 refine ⟨by rw [h1]; simpa using hC.size,fun r hr=>?_,fun i j hi hj=>?_⟩
 ·rcases List.mem_or_eq_of_mem_set hr with h | h
  ·exact hC.wide r h
  ·subst h; exact hl
 ·simp only [List.length_set] at hi
  have hlt:=zd9 hi hj
  have h3:=h2 (i * s + j) (by rw [hC.size]; exact hlt)
  simp only [Nat.add_zero,Array.length_toList,hv,hl] at h3
  have pl:=zoe (S:=s) (k:=k) (j:=0) (s:=s) (i':=i) hj (by omega)
  simp only [Nat.add_zero,Nat.zero_le,Nat.zero_add,true_and] at pl
  by_cases hik : i = k
  ·subst hik
   rw [if_pos (by omega),show i * s + j - i * s = j by omega,Array.getElem?_toList] at h3
   rw [zmm h3]
   have : (rows.set i cs).getD i [] = cs:=by simp [List.getD,hi]
   rw [this]
   exact hcs j (by omega)
  ·rw [if_neg (fun q=>hik (pl.1 q).1)] at h3
   rw [zmm h3]
   have : (rows.set k cs).getD i [] = rows.getD i []:=by simp [List.getD,List.getElem?_set,Ne.symm hik]
   rw [this]
   exact hC.cell i j hi hj
theorem znC {T w M s} : ∀ (ps : List (Nat × Value)) (pl : List Nat) (xs : List AV) (rows : List (List AV)) (us : Array Value) (out : List (List AV)),
  RepR T w M s rows us → ps.map (·.1) = pl → xs.length = ps.length → (∀ i,i < xs.length → Rep T w M (xs.getD i .dead) ((ps.map (·.2)).getD i undef)) → ziR s rows pl xs = some out →
  ∃ us',Instr.fill (fun i=>some (i * s,s)) us ps = some us' ∧ RepR T w M s out us'
 | [],pl,xs,rows,us,out,hC,hp,hl,hr,hf=>by
   simp at hp
   subst hp
   have : xs = []:=List.eq_nil_of_length_eq_zero hl
   subst this
   simp only [ziR,Option.some.injEq] at hf
   subst hf
   exact ⟨us,rfl,hC⟩
 | (i,v) :: ps,pl,xs,rows,us,out,hC,hp,hl,hr,hf=>by
   cases xs with
   | nil=>simp at hl
   | cons x xs =>
   simp only [List.map_cons] at hp
   subst hp
   simp only [ziR] at hf
   split at hf
   case h_2=>cases hf
   rename_i cs hcs
   split at hf
   case isFalse=>cases hf
   rename_i hc
   have h0:=hr 0 (by simp)
   simp only [List.getD_cons_zero,List.map_cons] at h0
   obtain ⟨e1,e2⟩:=zhV h0 hcs
   have st:=zqY hC e1 e2 hc.1 hc.2
   obtain ⟨us',h4,h5⟩:=znC ps _ xs _ _ out st rfl (by simpa using hl) (fun k hk=>by have:=hr (k + 1) (by simpa using hk); simpa using this) hf
   refine ⟨us',?_,h5⟩
   simp only [Instr.fill]
   rw [if_neg]
   ·exact h4
   ·simp only [ne_eq,Bool.or_eq_true,decide_eq_true_eq,not_or,Decidable.not_not]
    have h6:=hC.size
    have : (i + 1) * s ≤ rows.length * s:=Nat.mul_le_mul_right _ hc.2
    rw [Nat.add_mul] at this
    omega
section
variable {P : Program} {np : Nat} {T0 : Nat → Nat} {M0 : GM} {w0 : World} {live : Nat → Prop} {st : St} {T : Nat → Nat} {M : GM} {a : Act} {w : World} {idb : Nat}
variable (tm : ∀ i,Rep T w M (st.get i) (a.tmps.getD i undef)) (m : Mem np T0 M0 w0 live st.hp T M w) (fresh : ∀ k,k < 8 → ¬ live (idb + k)) (npid : np ≤ idb)
include tm m fresh npid
theorem zw8 (o : Oper) (t : TypeId) (len : Nat) (ps : Array (Nat × Operand)) (h : o.op = .buildSlice t len ps) : Goal P np T0 M0 w0 live st T M a w idb o:=by
 intro K hk
 simp only [zaB,h] at hk
 split at hk
 case h_2=>exact False.elim hk
 rename_i e hu
 split at hk
 case h_2=>exact False.elim hk
 rename_i z s hz hs
 split at hk
 case isFalse=>exact False.elim hk
 rename_i hlim
 simp only [List.map_map,aK] at hk
 obtain ⟨rows,hrows,hzs,hk⟩:=hk
 obtain ⟨i,zv,hi,hzv,hzl,hzi,hone⟩:=zcH hz
 have hs' : i.size = s:=by simpa [zce,hi] using hs
 have zr : ∀ (cells : Array Value),cells = (Array.range (len * s)).map (fun i=>zv.cells[i % zv.cells.size]!) → RepR T w M s (List.replicate len (z.map .sc)) cells:=by
  intro cells hcells
  have hcells' : cells = (Array.range (len * s)).map fun i=>z.toArray[i % z.toArray.size]!:=by rw [hcells,← hzl,Array.toArray_toList]
  refine ⟨by rw [hcells]; simp,fun row hrow=>?_,fun i j hi hj=>?_⟩
  ·rw [(List.mem_replicate.1 hrow).2]; simpa using hzs
  ·obtain ⟨v,h1,h2,h3⟩:=zie (T:=T) (w:=w) (M:=M) hone hzs len cells (len * s) hcells' (Nat.le_refl _) i j hi hj
   rw [zaL h1]
   exact ⟨h2,h3⟩
 obtain ⟨us,hf,hC⟩:=znC (T:=T) (w:=w) (M:=M) (s:=s) (ps.toList.map fun (x : Nat × Operand)=>(x.1,a.eval x.2)) (ps.toList.map (·.1)) _ _ _ rows (zr _ rfl) (by simp) (by simp) (fun k hk=>by
  simp only [List.length_map,Array.length_toList] at hk
  have e1 : (ps.toList.map ((fun x=>x.ev st.get) ∘ fun x=>opd x.2)).getD k .dead = (opd ps[k].2).ev st.get:=by simp [List.getD,hk]
  have e2 : ((ps.toList.map fun (x : Nat × Operand)=>(x.1,a.eval x.2)).map (·.2)).getD k undef = a.eval ps[k].2:=by simp [List.getD,hk]
  rw [e1,e2]
  exact zaG tm _) hrows
 have hrl : rows.length = len:=by
  have h1:=hC.size
  have : ∀ (ps : List Nat) (xs : List AV) (r out : List (List AV)),ziR s r ps xs = some out → out.length = r.length:=by
   intro ps
   induction ps with
   | nil=>intro xs r out hf; cases xs <;> simp [ziR] at hf; rw [hf]
   | cons p ps ih =>
     intro xs r out hf
     cases xs with
     | nil=>simp [ziR] at hf
     | cons x xs =>
       simp only [ziR] at hf
       split at hf
       case h_2=>cases hf
       split at hf
       case isFalse=>cases hf
       rw [ih _ _ _ hf]
       simp
  have:=this _ _ _ _ hrows
  simpa using this
 have hsz' : (sizeOf e).run P w = .ok s w:=by simp [sizeOf,typeInfo,hi,hs']
 have hrun : (execOp a.eval o).run P w = .ok (.value (.slice (some ⟨w.heap.size,0,none⟩) len len)) (w.alloc (.cells us e)):=by
  have hlim' : ¬ (16777216 < len * s):=by have:=hlim.1; omega
  have hf' : Instr.fill (fun i=>some (i * s,s)) (Array.map (fun x=>zv.cells[x % zv.cells.size]!) (Array.range (len * s))) (ps.toList.map fun (x : Nat × Operand)=>(x.1,a.eval x.2)) = some us:=hf
  by_cases h0 : len * s = 0
  ·have : Array.range (len * s) = #[]:=by rw [h0]; rfl
   rw [this] at hf'
   simp only [Array.map_empty] at hf'
   have r0 : Array.range 0 = #[]:=rfl
   simp [execOp,h,Instr.buildSlice,zah hu,hsz',hlim',h0,newRow,hf',r0]
  ·simp [execOp,h,Instr.buildSlice,zah hu,hsz',hlim',h0,newRow,zeroValue,typeInfo,hi,hzv,hf']
 refine ⟨_,_,_,hk,zgu m fresh npid (e:={ s:=s,rows:=rows }) (cells:=us) (ty:=e) hrun rfl rfl rfl rfl (Nat.pos_iff_ne_zero.1 hlim.2) (Nat.zero_le _) hC.wide (by rw [hC.size]; exact Nat.le_refl _) (fun i j hi hj=>?_) _ (by simp [lkp]) (fun i x hi hx=>by simp [lkp] at hx; omega) ?_⟩
 ·have:=hC.cell i j hi hj
  have hlt:=zd9 hi hj
  rw [← hC.size] at hlt
  refine ⟨us.getD (i * s + j) undef,by simp [Array.getD,hlt],this.1,this.2⟩
 ·intro M' hM'
  refine .rs _ _ 0 _ _ _ _ hM' (Nat.pos_iff_ne_zero.1 hlim.2) (Nat.le_refl _) (fun hn=>by cases hn) fun b' hb2=>?_
  obtain rfl:=Option.some.inj hb2
  refine ⟨.inr (by simp),us,e,(0,0),by show (w.heap.push _)[w.heap.size]? = _; simp,?_⟩
  rw [hC.size,hrl]
  simp
end
structure RepF (T : Nat → Nat) (w : World) (M : GM) (s : Nat) (rows : List (List AV)) (us : List Value) : Prop where
 size : us.length = rows.length * s
 wide : ∀ row ∈ rows,row.length = s
 one : ∀ u ∈ us,u.oneCell' = true
 cell : ∀ i j,i < rows.length → j < s → Rep T w M ((rows.getD i []).getD j .dead) (us.getD (i * s + j) undef)
theorem RepF.append {T w M s r1 r2 u1 u2} (h1 : RepF T w M s r1 u1) (h2 : RepF T w M s r2 u2) : RepF T w M s (r1 ++ r2) (u1 ++ u2):=by
 refine ⟨by rw [List.length_append,List.length_append,h1.size,h2.size,Nat.add_mul],fun r hr=>?_,fun u hu=>?_,fun i j hi hj=>?_⟩
 ·rcases List.mem_append.1 hr with h | h
  ·exact h1.wide r h
  ·exact h2.wide r h
 ·rcases List.mem_append.1 hu with h | h
  ·exact h1.one u h
  ·exact h2.one u h
 ·simp only [List.length_append] at hi
  by_cases hlt : i < r1.length
  ·have:=zd9 hlt hj
   have e1 : (r1 ++ r2).getD i [] = r1.getD i []:=by simp [List.getD,List.getElem?_append_left hlt]
   have e2 : (u1 ++ u2).getD (i * s + j) undef = u1.getD (i * s + j) undef:=by
    simp only [List.getD]
    rw [List.getElem?_append_left (by rw [h1.size]; exact this)]
   rw [e1,e2]
   exact h1.cell i j hlt hj
  ·have hle : r1.length ≤ i:=by omega
   have hsub : i * s = r1.length * s + (i - r1.length) * s:=by rw [← Nat.add_mul]; congr 1; omega
   have e1 : (r1 ++ r2).getD i [] = r2.getD (i - r1.length) []:=by simp [List.getD,List.getElem?_append_right hle]
   have e2 : (u1 ++ u2).getD (i * s + j) undef = u2.getD ((i - r1.length) * s + j) undef:=by
    simp only [List.getD]
    rw [List.getElem?_append_right (by rw [h1.size]; omega),h1.size]
    congr 2
    omega
   rw [e1,e2]
   exact h2.cell _ _ (by omega) hj
theorem RepF.cells {T w M s rows us} (h : RepF T w M s rows us) {i j : Nat} (hi : i < rows.length) (hj : j < s) :
  ∃ v,us[i * s + j]? = some v ∧ v.oneCell' = true ∧ Rep T w M ((rows.getD i []).getD j .dead) v:=by
 have hlt:=zd9 hi hj
 rw [← h.size] at hlt
 have e : us.getD (i * s + j) undef = us[i * s + j]:=by simp [List.getD,hlt]
 have:=h.cell i j hi hj
 rw [e] at this
 exact ⟨us[i * s + j],by simp [hlt],h.one _ (List.getElem_mem hlt),this⟩
theorem zsa {T w M s} {rows : List (List AV)} (hw : ∀ row ∈ rows,row.length = s) (f : Nat → Value)
  (h : ∀ i j,i < rows.length → j < s → (f (i * s + j)).oneCell' = true ∧ Rep T w M ((rows.getD i []).getD j .dead) (f (i * s + j))) :
  RepF T w M s rows ((List.range (rows.length * s)).map f):=by
 refine ⟨by simp,hw,fun u hu=>?_,fun i j hi hj=>?_⟩
 ·obtain ⟨k,hk,rfl⟩:=List.mem_map.1 hu
  simp only [List.mem_range] at hk
  have hs : 0 < s:=by
   rcases Nat.eq_zero_or_pos s with rfl | h
   ·simp at hk
   ·exact h
  have:=h (k / s) (k % s) (Nat.div_lt_of_lt_mul (by rw [Nat.mul_comm]; exact hk)) (Nat.mod_lt _ hs)
  rw [Nat.mul_comm (k / s),Nat.div_add_mod] at this
  exact this.1
 ·have e : ((List.range (rows.length * s)).map f).getD (i * s + j) undef = f (i * s + j):=by simp [List.getD,zd9 hi hj]
  rw [e]
  exact (h i j hi hj).2
theorem zsy {w : World} {b o : Nat} {cells : Array Value} {ty : TypeId} {fz : Nat × Nat} (h : w.heap[b]? = some (.cells cells ty fz)) : w.cell? ⟨b,o,none⟩ = cells[o]?:=by
 simp [World.cell?,h]
section
variable {P : Program} {np : Nat} {T0 : Nat → Nat} {M0 : GM} {w0 : World} {live : Nat → Prop} {st : St} {T : Nat → Nat} {M : GM} {a : Act} {w : World} {idb : Nat}
theorem zk8 (hs : HsOk T w M st.hp) {X : AV} {v : Value} {s : Nat} {rows : List (List AV)} (hr : Rep T w M X v) (h : zbt s st.hp X = some rows) (hx : ∀ i o l c,X ≠ .rk i o l c) :
  ∃ ad cap us,v = .slice ad rows.length cap ∧ rows.length ≤ cap ∧ RepF T w M s rows us ∧ (ad = none → us = []) ∧ (∀ x,ad = some x → ∀ j u,us[j]? = some u → w.cell? (x.add j) = some u):=by
 cases hr with
 | sc _ _ h1 =>
   unfold zbt at h
   split at h <;> (try (cases h; done))
   ·rename_i e; cases e
   ·rename_i e; cases e
   ·rename_i e; cases e
   ·rename_i e
    cases e
    cases h
    exact ⟨none,0,[],rfl,Nat.le_refl _,⟨by simp,by simp,by simp,fun i j hi=>absurd hi (by simp)⟩,fun _=>rfl,fun x hx=>by cases hx⟩
 | vs _ s' full rows' ad cap c hf hle hw hb h1 hh =>
   simp only [zbt] at h
   split at h
   case isFalse=>cases h
   rename_i e
   subst e
   cases h
   by_cases hne : rows = []
   ·subst hne
    exact ⟨ad,cap,[],rfl,hle,⟨by simp,by simp,by simp,fun i j hi=>absurd hi (by simp)⟩,fun _=>rfl,fun x hx j u hu=>by simp at hu⟩
   ·obtain ⟨b,off,cells,ty,fz,rfl,hw1,hT,hc⟩:=hb hne
    have hs0 : ∀ k,k < rows.length * s' → cells[off + k]? = some (cells.getD (off + k) undef):=by
     intro k hk
     have hpos : 0 < s':=by
      rcases Nat.eq_zero_or_pos s' with h | h
      ·rw [h] at hk; simp at hk
      ·exact h
     have:=hc (k / s') (k % s') (Nat.div_lt_of_lt_mul (by rw [Nat.mul_comm]; exact hk)) (Nat.mod_lt _ hpos)
     rw [Nat.add_assoc,Nat.mul_comm (k / s'),Nat.div_add_mod] at this
     rw [this,zaL this]
    refine ⟨_,cap,(List.range (rows.length * s')).map fun k=>cells.getD (off + k) undef,rfl,hle,zsa hw _ (fun i j hi hj=>?_),(fun e=>by cases e),fun x hx j u hu=>?_⟩
    ·have e:=hc i j hi hj
     rw [Nat.add_assoc] at e
     rw [zaL e]
     exact ⟨h1 i j hi hj,(hh i j hi hj).mono (Pres.refl _ _) (fun _ _ e=>by cases e)⟩
    ·cases hx
     simp only [List.getElem?_map,Option.map_eq_some_iff] at hu
     obtain ⟨k,hk,rfl⟩:=hu
     obtain ⟨hlt,rfl⟩:=List.getElem?_eq_some_iff.1 hk
     simp only [List.length_range] at hlt
     rw [Addr.add_none,zsy hw1]
     simpa only [List.getElem_range] using hs0 j hlt
 | rs _ id off len cap ad g hg hz hl hnn hb =>
   simp only [zbt,Option.bind_eq_some_iff] at h
   obtain ⟨e,he,h⟩:=h
   split at h
   case isFalse=>cases h
   rename_i hc
   cases h
   obtain ⟨g',hg',ent⟩:=hs.ent id e he
   obtain rfl:=Option.some.inj (hg.symm.trans hg')
   have hlen : ((e.rows.drop off).take len).length = len:=by simp; omega
   have hwide : ∀ row ∈ (e.rows.drop off).take len,row.length = s:=fun row hrow=>by rw [← hc.1]; exact ent.wide (ent.s ▸ hz) row (List.mem_of_mem_drop (List.mem_of_mem_take hrow))
   cases hblk : g.blk with
   | none =>
     have h0:=hnn hblk
     have hl0 : len = 0:=by omega
     subst hl0
     exact ⟨ad,cap,[],by rw [hlen],by rw [hlen]; omega,⟨by simp,by simp,by simp,fun i j hi=>absurd hi (by simp)⟩,fun _=>rfl,fun x hx j u hu=>by simp at hu⟩
   | some b =>
     obtain ⟨ha,-,-,-,-,hfit⟩:=hb b hblk
     obtain ⟨cells,ty,hcell,hT,hsz,hcc⟩:=ent.blk (ent.s ▸ hz) b hblk
     by_cases hl0 : len = 0
     ·subst hl0
      exact ⟨ad,cap,[],by rw [hlen],by rw [hlen]; omega,⟨by simp,by simp,by simp,fun i j hi=>absurd hi (by simp)⟩,fun _=>rfl,fun x hx j u hu=>by simp at hu⟩
     have ha' : ad = some ⟨b,g.base + off * g.s,none⟩:=by
      rcases ha with ha | ha
      ·omega
      ·exact ha
     subst ha'
     have hS : g.s = s:=ent.s.trans hc.1
     have hes : e.s = s:=hc.1
     have hat : ∀ k,k < len * s → cells[g.base + off * s + k]? = some (cells.getD (g.base + off * s + k) undef):=by
      intro k hk
      have : (off + len) * s ≤ e.rows.length * s:=Nat.mul_le_mul_right _ hc.2
      rw [Nat.add_mul] at this
      rw [hes] at hsz
      have hlt : g.base + off * s + k < cells.size:=by omega
      simp [Array.getD,hlt]
     refine ⟨_,cap,(List.range (((e.rows.drop off).take len).length * s)).map fun k=>cells.getD (g.base + off * s + k) undef,by rw [hlen],by rw [hlen]; exact hl,zsa hwide _ (fun i j hi hj=>?_),(fun e=>by cases e),fun x hx j u hu=>?_⟩
     ·rw [hlen] at hi
      obtain ⟨v,hv,ho,hrv⟩:=hcc (off + i) j (by omega) (by omega)
      rw [hes,Nat.add_mul] at hv
      have e1 : cells.getD (g.base + off * s + (i * s + j)) undef = v:=zaL (by rw [← hv]; congr 1; omega)
      have e2 : ((e.rows.drop off).take len).getD i [] = e.rows.getD (off + i) []:=by
       simp only [List.getD,List.getElem?_take,List.getElem?_drop]
       rw [if_pos hi]
      rw [e1,e2]
      exact ⟨ho,hrv⟩
     ·cases hx
      rw [hlen] at hu
      simp only [List.getElem?_map,Option.map_eq_some_iff] at hu
      obtain ⟨k,hk,rfl⟩:=hu
      obtain ⟨hlt,rfl⟩:=List.getElem?_eq_some_iff.1 hk
      simp only [List.length_range] at hlt
      rw [Addr.add_none,hS,zsy hcell]
      simpa only [List.getElem_range] using hat j hlt
 | rk=>exact absurd rfl (hx _ _ _ _)
 | _=>simp [zbt] at h
theorem zdb (hs : HsOk T w M st.hp) {X : AV} {v : Value} {s : Nat} {rows : List (List AV)} (hr : Rep T w M X v) (h : zbt s st.hp X = some rows) :
  ∃ ad cap us,v = .slice ad rows.length cap ∧ rows.length ≤ cap ∧ RepF T w M s rows us ∧ (ad = none → us = []) ∧ (∀ x,ad = some x → ∀ j u,us[j]? = some u → w.cell? (x.add j) = some u):=by
 cases X with
 | rk i o l c=>exact zk8 hs (X:=.rs i o l) hr.rk_rs h (by simp)
 | _=>exact zk8 hs hr h (by simp)
theorem Mem.newNil {hp : Nat → Option Ent} (h : Mem np T0 M0 w0 live hp T M w) {id : Nat} (hid : ¬ live id) (hnp : np ≤ id) (s : Nat) (hs0 : s ≠ 0) {hp' : Nat → Option Ent} (hp1 : hp' id = some { s:=s,rows:=[],ro:=0 })
  (hp2 : ∀ i e',i ≠ id → hp' i = some e' → hp i = some e') :
  ∃ M' : GM,M' id = some ⟨none,0,s⟩ ∧ (∀ i g,M i = some g → M' i = some g) ∧ Mem np T0 M0 w0 (fun i=>live i ∨ i = id) hp' T M' w:=by
 have hMid : M id = none:=by
  cases hm : M id with
  | none=>rfl
  | some g=>exact absurd (h.dom id g hm) hid
 have mm : ∀ i g,M i = some g → (fun i=>if i = id then some (GE.mk none 0 s) else M i) i = some g:=by
  intro i g hg
  have : i ≠ id:=by rintro rfl; rw [hMid] at hg; cases hg
  simp only [this,if_false]; exact hg
 refine ⟨fun i=>if i = id then some ⟨none,0,s⟩ else M i,by simp,mm,⟨fun i e' he=>?_,fun i i' e1 e2 g g' b h1 h2 h3 h4 h5 h6=>?_⟩,fun i g hg=>?_,?_⟩
 ·by_cases hi : i = id
  ·subst hi
   obtain rfl:=Option.some.inj (hp1.symm.trans he)
   exact ⟨⟨none,0,s⟩,if_pos rfl,rfl,Nat.zero_le _,(fun _=>by simp),(fun _=>rfl),(fun h=>absurd h hs0),fun _ b hb=>by cases hb⟩
  ·obtain ⟨g,h1,h2⟩:=h.hs.ent i e' (hp2 i e' hi he)
   exact ⟨g,by simp only [hi,if_false]; exact h1,h2.mono (Pres.refl _ _) mm fun b _=>⟨rfl,rfl⟩⟩
 ·by_cases hi : i = id
  ·rw [if_pos hi] at h3
   obtain rfl:=Option.some.inj h3
   cases h5
  ·by_cases hi' : i' = id
   ·rw [if_pos hi'] at h4
    obtain rfl:=Option.some.inj h4
    cases h6
   ·rw [if_neg hi] at h3; rw [if_neg hi'] at h4
    exact h.hs.inj i i' e1 e2 g g' b (hp2 i e1 hi h1) (hp2 i' e2 hi' h2) h3 h4 h5 h6
 ·by_cases hi : i = id
  ·exact .inr hi
  ·rw [if_neg hi] at hg; exact .inl (h.dom i g hg)
 ·refine h.after.step h.after.tok (fun _ _ _=>rfl) (fun k hk=>?_) rfl rfl rfl (Nat.le_refl _) (fun _ _ _=>rfl) (Pres.refl _ _) fun k g b hk hg hb=>?_
  ·have : k ≠ id:=by omega
   simp only [this,if_false]
  ·by_cases hi : k = id
   ·rw [if_pos hi] at hg
    obtain rfl:=Option.some.inj hg
    cases hb
   ·rw [if_neg hi] at hg
    exact h.after.new k g b hk hg hb
theorem zn5 {s : Nat} {hp : Nat → Option Ent} {new : List (List AV)} {X : AV} {old : List (List AV) × Nat × List (Nat × Option Ent)} (h : zbN s hp new X = some old) : zbt s hp X = some old.1:=by
 unfold zbN at h
 split at h
 ·simp only [Option.some.injEq] at h; subst h; rfl
 ·split at h
  case isFalse=>cases h
  rename_i hc
  simp only [Option.some.injEq] at h
  subst h
  simp [zbt,hc.1]
 ·simp only [Option.bind_eq_some_iff] at h
  obtain ⟨e,he,h⟩:=h
  split at h
  case isFalse=>cases h
  rename_i hc
  simp only [Option.some.injEq] at h
  subst h
  simp [zbt,he,hc]
 ·cases h
theorem zj5 (m : Mem np T0 M0 w0 live st.hp T M w) (fresh : ∀ k,k < 8 → ¬ live (idb + k)) (npid : np ≤ idb) {X : AV} {v v' : Value} (hr : Rep T w M X v) {s : Nat} {new : List (List AV)} {old : List (List AV) × Nat × List (Nat × Option Ent)}
  (hold : zbN s st.hp new X = some old) {t tx ty e : TypeId} {i : TypeInfo} {zv : Value} (ht : P.underlying t = some (.slice e)) (hi : P.info? e = some i) (hz : i.zero = some zv) (hzs : zv.cells.size = s) (his : i.size = s) (hs0 : s ≠ 0)
  {news : List Value} (hn : RepF T w M s new news) (src : Src P i.size tx v' new.length news w) (hb : (old.1.length + new.length) * i.bytes ≤ 140737488355328) (hlim : old.1.length + new.length ≤ 140737488355328)
  {f : Sem Next} (hf : ∀ r w1,(Builtin.append_ #[t,tx] ty #[v,v']).run P w = .ok r w1 → f.run P w = .ok (.value r) w1) :
  Eff P np T0 M0 w0 live idb (st.upd ((idb,some { s:=s,rows:=old.1 ++ new,ro:=old.2.1 }) :: old.2.2)).hp T M w (.rs idb 0 (old.1.length + new.length)) (f.run P w):=by
 obtain ⟨ad,cap,us,rfl,hcap,hus,hun,hucell⟩:=zdb m.hs hr (zn5 hold)
 have hup : ∀ i,i ≠ idb → ∀ e',(st.upd ((idb,some { s:=s,rows:=old.1 ++ new,ro:=old.2.1 }) :: old.2.2)).hp i = some e' → st.hp i = some e' ∧ lkp old.2.2 i = none:=by
  intro j hj e' he'
  rw [St.hp_upd] at he'
  simp only [lkp,if_neg (Ne.symm hj)] at he'
  unfold zbN at hold
  split at hold
  ·simp only [Option.some.injEq] at hold; subst hold; exact ⟨he',rfl⟩
  ·split at hold
   case isFalse=>cases hold
   simp only [Option.some.injEq] at hold; subst hold; exact ⟨he',rfl⟩
  ·simp only [Option.bind_eq_some_iff] at hold
   obtain ⟨e,he,hold⟩:=hold
   split at hold
   case isFalse=>cases hold
   simp only [Option.some.injEq] at hold; subst hold
   simp only [lkp] at he' ⊢
   split at he'
   ·cases he'
   ·rename_i hne; exact ⟨he',by rw [if_neg hne]⟩
  ·cases hold
 have hidb : (st.upd ((idb,some { s:=s,rows:=old.1 ++ new,ro:=old.2.1 }) :: old.2.2)).hp idb = some { s:=s,rows:=old.1 ++ new,ro:=old.2.1 }:=by
  rw [St.hp_upd]; simp [lkp]
 have hro : old.2.1 ≤ (old.1 ++ new).length:=by
  unfold zbN at hold
  split at hold
  ·simp only [Option.some.injEq] at hold; subst hold; exact Nat.zero_le _
  ·split at hold
   case isFalse=>cases hold
   simp only [Option.some.injEq] at hold; subst hold; exact Nat.zero_le _
  ·simp only [Option.bind_eq_some_iff] at hold
   obtain ⟨e,he,hold⟩:=hold
   split at hold
   case isFalse=>cases hold
   rename_i hc
   simp only [Option.some.injEq] at hold; subst hold
   simp
   omega
  ·cases hold
 have wider : ∀ {hp T M' w'},Mem np T0 M0 w0 (fun i=>live i ∨ i = idb) hp T M' w' → Mem np T0 M0 w0 (fun i=>live i ∨ (idb ≤ i ∧ i < idb + 8)) hp T M' w':=fun h =>
  h.wider fun i hi=>hi.elim .inl fun hi=>.inr (by omega)
 have hall:=hus.append hn
 by_cases hgrow : cap < old.1.length + new.length
 ·
  have hfc : (Builtin.firstCells i.size old.1.length (.slice ad old.1.length cap)).run P w.drew = .ok us.toArray w.drew:=by
   cases ad with
   | none=>rw [run_firstCells_none,hun rfl]
   | some x=>exact run_firstCells_some w.drew _ _ _ _ _ us (by rw [his]; exact hus.size) (fun j u hj=>by simpa using hucell x rfl j u hj)
  have run:=run_append_grow_src (P:=P) w t tx ty e i zv ht hi hz ad old.1.length cap us hfc v' new.length news src hgrow (by omega) (growslice_fits hgrow hb)
  have hcapge : old.1.length + new.length ≤ grownCap w (old.1.length + new.length) cap e:=by simp only [grownCap,Question.cut]; omega
  refine zgu m fresh npid (e:={ s:=s,rows:=old.1 ++ new,ro:=old.2.1 }) (hf _ _ run) rfl rfl rfl rfl hs0 hro hall.wide ?_ (fun i j hi hj=>?_) _ (by simp [lkp]) (fun j x hj hx=>?_) fun M' hM'=>?_
  ·simp only [Array.size_append,List.size_toArray,hall.size]
   omega
  ·obtain ⟨u,hu,ho,hru⟩:=hall.cells hi hj
   refine ⟨u,?_,ho,hru⟩
   rw [Array.getElem?_append_left]
   ·simpa using hu
   ·simp only [List.size_toArray,hall.size]
    exact zd9 hi hj
  ·simp only [lkp,if_neg (Ne.symm hj)] at hx
   unfold zbN at hold
   split at hold
   ·simp only [Option.some.injEq] at hold; subst hold; cases hx
   ·split at hold
    case isFalse=>cases hold
    simp only [Option.some.injEq] at hold; subst hold; cases hx
   ·simp only [Option.bind_eq_some_iff] at hold
    obtain ⟨e,he,hold⟩:=hold
    split at hold
    case isFalse=>cases hold
    simp only [Option.some.injEq] at hold; subst hold
    simp only [lkp] at hx
    split at hx
    ·exact (Option.some.inj hx).symm
    ·cases hx
   ·cases hold
  ·refine .rs _ _ 0 _ _ _ _ hM' hs0 hcapge (fun hn=>by cases hn) fun b' hb2=>?_
   obtain rfl:=Option.some.inj hb2
   refine ⟨.inr (by simp),_,e,(0,0),(Array.getElem?_push_size : (w.drew.heap.push _)[w.drew.heap.size]? = _),?_⟩
   simp only [Array.size_append,List.size_toArray,List.length_append,hus.size,hn.size,size_zeroCells,hzs]
   have : (grownCap w (old.1.length + new.length) cap e - (old.1.length + new.length)) * s + (old.1.length + new.length) * s = grownCap w (old.1.length + new.length) cap e * s:=by
    rw [← Nat.add_mul]; congr 1; omega
   rw [Nat.add_mul] at this
   omega
 ·have hroom : old.1.length + new.length ≤ cap:=by omega
  have same : new = [] → f.run P w = .ok (.value (.slice ad old.1.length cap)) w:=by
   intro h0
   have hnews : news = []:=List.eq_nil_of_length_eq_zero (by rw [hn.size,h0]; simp)
   rw [h0,hnews] at src
   exact hf _ _ (run_append_nothing (P:=P) w t tx ty e i ht hi ad old.1.length cap (by omega) v' src)
  unfold zbN at hold
  split at hold
  ·
   simp only [Option.some.injEq] at hold
   subst hold
   cases hr
   have h0 : new = []:=List.eq_nil_of_length_eq_zero (by simp at hroom; omega)
   rw [same h0]
   subst h0
   obtain ⟨M',h1,h2,h3⟩:=m.newNil (fresh 0 (by omega)) npid s hs0 (hp':=(st.upd ((idb,some { s:=s,rows:=[] ++ [],ro:=0 }) :: [])).hp) hidb (fun j e' hj he=>(hup j hj e' he).1)
   exact ⟨T,M',wider h3,Pres.refl _ _,h2,.rs _ _ 0 _ _ _ _ h1 hs0 (Nat.zero_le _) (fun _=>⟨rfl,rfl⟩) (fun b hb=>by cases hb)⟩
  ·
   split at hold
   case isFalse=>cases hold
   rename_i rows hc
   simp only [Option.some.injEq] at hold
   subst hold
   cases hr with
   | vs _ _ _ _ _ _ c hf' hle hw hb' h1 hh =>
     have hcf:=hf' rfl
     have h0 : new = []:=List.eq_nil_of_length_eq_zero (by simp at hroom; omega)
     have hr0 : rows = []:=by
      rcases hc.2 with h | h
      ·exact h
      ·exact absurd h0 h
     subst h0 hr0
     rw [same rfl]
     obtain ⟨M',h1,h2,h3⟩:=m.newNil (fresh 0 (by omega)) npid s hs0 (hp':=(st.upd ((idb,some { s:=s,rows:=[] ++ [],ro:=0 }) :: [])).hp) hidb (fun j e' hj he=>(hup j hj e' he).1)
     exact ⟨T,M',wider h3,Pres.refl _ _,h2,.rs _ _ 0 _ _ _ _ h1 hs0 (Nat.zero_le _) (fun _=>⟨rfl,by simpa using hcf⟩) (fun b hb=>by cases hb)⟩
  ·
   simp only [Option.bind_eq_some_iff] at hold
   obtain ⟨en,hen,hold⟩:=hold
   split at hold
   case isFalse=>cases hold
   rename_i id off len hc
   simp only [Option.some.injEq] at hold
   subst hold
   have hlen : ((en.rows.drop off).take len).length = len:=by simp; omega
   simp only [hlen] at *
   have hlen : ((en.rows.drop off).take len).length = len:=by simp; omega
   cases hr with
   | rs _ _ _ _ _ _ g hg hz hl hnn hbb =>
     obtain ⟨g',hg',ent⟩:=m.hs.ent id en hen
     obtain rfl:=Option.some.inj (hg.symm.trans hg')
     cases hblk : g.blk with
     | none =>
       obtain ⟨ho0,hc0⟩:=hnn hblk
       have h0 : new = []:=List.eq_nil_of_length_eq_zero (by omega)
       have hl0 : len = 0:=by omega
       have hro0 : en.ro = 0:=by have:=ent.ro; rw [ent.none hblk] at this; simpa using this
       subst h0 hl0
       rw [same rfl]
       have hidb':=hidb
       simp only [List.take_zero,List.append_nil,hro0,Nat.zero_sub] at hidb' ⊢
       obtain ⟨M',h1,h2,h3⟩:=m.newNil (fresh 0 (by omega)) npid s hs0 (hp':=(st.upd ((idb,some { s:=s,rows:=[],ro:=0 }) :: [(id,none)])).hp) hidb' (fun j e' hj he=>by
        refine (hup j hj e' ?_).1
        simpa [hro0] using he)
       exact ⟨T,M',wider h3,Pres.refl _ _,h2,.rs _ _ 0 _ _ _ _ h1 hs0 (Nat.zero_le _) (fun _=>⟨rfl,hc0⟩) (fun b hb=>by cases hb)⟩
     | some b =>
       obtain ⟨ha,c1,t1,f1,hw1,hfit⟩:=hbb b hblk
       obtain ⟨cells,tyc,hcell,hT,hsz,hcc⟩:=ent.blk (ent.s ▸ hz) b hblk
       have hc1 : c1 = cells:=by
        have e:=hcell.symm.trans hw1
        injection e with e
        injection e with e
        exact e.symm
       rw [hc1] at hfit
       have hS : g.s = s:=ent.s.trans hc.1
       have hes : en.s = s:=hc.1
       have hroE : en.ro * en.s ≤ (off + len) * en.s:=Nat.mul_le_mul_right _ hc.2.2
       have write : ∀ cells' : Array Value,cells'.size = cells.size → (∀ q : Nat,cells'[q]? = if g.base + (off + len) * s ≤ q ∧ q < g.base + (off + len) * s + news.length then news[q - (g.base + (off + len) * s)]? else cells[q]?) →
         ∃ M' : GM,M' idb = some ⟨some b,g.base + off * s,s⟩ ∧ (∀ i g,M i = some g → M' i = some g) ∧
           Mem np T0 M0 w0 (fun i=>live i ∨ i = idb) (st.upd ((idb,some { s:=s,rows:=(en.rows.drop off).take len ++ new,ro:=en.ro - off }) :: [(id,none)])).hp T M' (w.setRow b cells') ∧ Pres T w T (w.setRow b cells'):=by
        intro cells' s1 s2
        have hfit' : g.base + off * s + (len + new.length) * s ≤ cells.size:=by
         have : (len + new.length) * s ≤ cap * s:=Nat.mul_le_mul_right _ hroom
         rw [hS] at hfit
         omega
        have hroS : T b ≤ g.base + off * s + (en.ro - off) * s:=by
         rw [hes] at hT
         have : en.ro * s ≤ (off + (en.ro - off)) * s:=Nat.mul_le_mul_right _ (by omega)
         rw [Nat.add_mul] at this
         omega
        refine m.write (id':=idb) (g':=⟨some b,g.base + off * s,s⟩) (e:={ s:=s,rows:=(en.rows.drop off).take len ++ new,ro:=en.ro - off }) (cells':=cells') hen hg hblk hcell s1 (fun q hq=>?_)
         (.inr ⟨fresh 0 (by omega),npid⟩) rfl rfl hs0 hro hall.wide hroS (by simp only [List.length_append,hlen]; exact hfit') (fun i' j' hi' hj'=>?_) hidb (fun j e' hj he=>?_)
        ·rw [s2,if_neg]
         rw [hes] at hT hroE
         omega
        ·simp only [List.length_append,hlen] at hi'
         have hj' : j' < s:=hj'
         have h9 : (off + len) * s = off * s + len * s:=Nat.add_mul _ _ _
         simp only [s2]
         obtain ⟨u,hu,ho,hru⟩:=hall.cells (i:=i') (j:=j') (by simp only [List.length_append,hlen]; exact hi') hj'
         by_cases hi2 : i' < len
         ·have h5 : i' * s + j' < len * s:=zd9 hi2 hj'
          rw [if_neg (by omega)]
          obtain ⟨v,hv,ho',hrv⟩:=hcc (off + i') j' (by omega) (by omega)
          rw [hes,Nat.add_mul] at hv
          refine ⟨v,by rw [← hv]; congr 1; omega,ho',?_⟩
          have e2 : ((en.rows.drop off).take len ++ new).getD i' [] = en.rows.getD (off + i') []:=by
           simp only [List.getD]
           rw [List.getElem?_append_left (by rw [hlen]; exact hi2),List.getElem?_take,if_pos hi2,List.getElem?_drop]
          rw [e2]
          exact hrv
         ·have h5 : (i' - len) * s + j' < new.length * s:=zd9 (by omega) hj'
          have h6 : i' * s = len * s + (i' - len) * s:=by rw [← Nat.add_mul]; congr 1; omega
          have h7:=hn.size
          have h8:=hus.size
          rw [hlen] at h8
          rw [if_pos (by omega)]
          refine ⟨u,?_,ho,hru⟩
          rw [List.getElem?_append_right (by omega)] at hu
          rw [← hu]
          congr 1
          omega
        ·obtain ⟨h1,h2⟩:=hup j hj e' he
         refine ⟨?_,h1⟩
         rintro rfl
         simp [lkp] at h2
       have rep : ∀ M' w' ,Pres T w T w' → M' idb = some ⟨some b,g.base + off * s,s⟩ → Rep T w' M' (.rs idb 0 (len + new.length)) (.slice ad (len + new.length) cap):=by
        intro M' w' p hM'
        refine .rs _ _ 0 _ _ _ _ hM' hs0 hroom (fun hn=>by cases hn) fun b' hb2=>?_
        obtain rfl:=Option.some.inj hb2
        obtain ⟨c',f',e1,e2,-⟩:=p.cell b cells tyc (0,0) hcell
        refine ⟨?_,c',tyc,f',e1,by rw [e2]; rw [hS] at hfit; simpa using hfit⟩
        rcases ha with ha | ha
        ·exact .inl ha
        ·right; rw [ha,hS]; simp
       by_cases h0 : new = []
       ·have hnews : news = []:=List.eq_nil_of_length_eq_zero (by rw [hn.size,h0]; simp)
        obtain ⟨M',h1,h2,h3,h4⟩:=write cells rfl (fun q=>by rw [hnews]; simp; intro a b; omega)
        rw [setRow_self w b cells tyc (0,0) hcell] at h3 h4
        rw [same h0]
        refine ⟨T,M',wider h3,h4,h2,?_⟩
        have:=rep M' w h4 h1
        rw [h0] at this ⊢
        simpa using this
       ·have hpos2 : 0 < new.length:=List.length_pos_iff.2 h0
        have ha' : ad = some ⟨b,g.base + off * s,none⟩:=by
         rcases ha with ha | ha
         ·omega
         ·rw [ha,hS]
        subst ha'
        have hin : g.base + (off + len) * s + news.length ≤ cells.size:=by
         have h1 : (len + new.length) * s ≤ cap * s:=Nat.mul_le_mul_right _ hroom
         rw [hS] at hfit
         rw [hn.size]
         rw [Nat.add_mul] at h1 ⊢
         omega
        have hst:=run_storeCells_at P b (g.base + (off + len) * s) tyc news 0 cells w hcell (by simpa using hin) hn.one
        simp only [Nat.add_zero] at hst
        obtain ⟨s1,s2⟩:=zqr cells (g.base + (off + len) * s) news hin
        have run : (Builtin.append_ #[t,tx] ty #[.slice (some ⟨b,g.base + off * s,none⟩) len cap,v']).run P w = .ok (.slice (some ⟨b,g.base + off * s,none⟩) (len + new.length) cap)
          (w.setRow b (cells.toList.take (g.base + (off + len) * s) ++ news ++ cells.toList.drop (g.base + (off + len) * s + news.length)).toArray):=by
         have hoff : g.base + off * s + len * s = g.base + (off + len) * s:=by rw [Nat.add_mul]; omega
         have hcs:=src.cells
         rw [his] at hcs
         rcases src.kind with ⟨e',hk⟩ | hk <;> simp [Builtin.append_,run_underlying ht,run_underlying hk,sizeOf,typeInfo,hi,src.len,hroom,his,hcs,Addr.add_lit,hoff,hst]
        obtain ⟨M',h1,h2,h3,h4⟩:=write _ s1 s2
        rw [hf _ _ run]
        exact ⟨T,M',wider h3,h4,h2,rep M' _ h4 h1⟩
  ·cases hold
end
end Go.Proofs.YtklclphfcibagaaGreat
