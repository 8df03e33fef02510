/- Texts of this claim,merged. -/
import Derived.Test.YtklclphfcibagaaGreatRy2
import Derived.Lib.AppendZerosOnto
import Derived.MapKept
set_option linter.unusedSimpArgs false
set_option linter.unusedVariables false
set_option linter.unusedSectionVars false
namespace Go.Proofs.YtklclphfcibagaaGreat
open Go
section
variable {P : Program} {np : Nat} {T0 : Nat → Nat} {M0 : GM} {w0 : World} {live : Nat → Prop} {st : St} {T : Nat → Nat} {M : GM} {a : Act} {w : World} {idb : Nat}
theorem RepF.drew {T : Nat → Nat} {w : World} {M : GM} {s rows us} (h : RepF T w M s rows us) : RepF T w M s rows us:=h
theorem zsl {tx e' : TypeId} (hk : P.underlying tx = some (.slice e')) {ad : Option Addr} {s n cap : Nat} {rows : List (List AV)} {us : List Value} (hu : RepF T w M s rows us) (hn : rows.length = n) (h0 : ad = none → us = [])
  (hc : ∀ x,ad = some x → ∀ j u,us[j]? = some u → w.cell? (x.add j) = some u) (hpos : 0 < s) : Src P s tx (.slice ad n cap) n us w:=by
 subst hn
 cases ad with
 | none =>
   have h1:=h0 rfl
   have h2:=hu.size
   rw [h1] at h2
   have h3 : rows.length = 0:=by
    rcases Nat.eq_zero_or_pos rows.length with h | h
    ·exact h
    ·have:=Nat.mul_pos h hpos; simp at h2; omega
   rw [h1,h3]
   exact Src.ofNil w hk cap
 | some x=>exact Src.ofSlice w hk x rows.length cap us hu.size (hc x rfl) hu.one
theorem zeu (b : ByteArray) : (zdl b).length = b.size:=by
 unfold zdl
 rw [List.length_map,Array.length_toList]
 rfl
theorem zqH (b : ByteArray) : RepF T w M 1 (zdl b) (byteCells b):=by
 refine ⟨by rw [byteCells_length,zeu,Nat.mul_one],fun row hrow=>?_,fun u hu=>?_,fun i j hi hj=>?_⟩
 ·obtain ⟨x,_,rfl⟩:=List.mem_map.1 hrow; rfl
 ·obtain ⟨x,_,rfl⟩:=List.mem_map.1 hu; rfl
 ·obtain rfl : j = 0:=by omega
  rw [zeu] at hi
  have hi' : i < b.data.toList.length:=by rw [Array.length_toList]; exact hi
  have e1 : (zdl b).getD i [] = [AV.sc (.int .u8 (b.data.toList[i]).toNat)]:=by simp [zdl,List.getD,hi]
  have e2 : (byteCells b).getD (i * 1 + 0) undef = .int .u8 (b.data.toList[i]).toNat:=by simp [byteCells,List.getD,hi]
  rw [e1,e2]
  exact .sc _ _ rfl
theorem zjb (m : Mem np T0 M0 w0 live st.hp T M w) {id off len n s : Nat} {ad' : Option Addr} {cap' : Nat} {en : Ent} (hr : Rep T w M (.rs id off len) (.slice ad' len cap')) (hen : st.hp id = some en) (hes : en.s = s) (hro : en.ro ≤ off) (hlen : off ≤ en.rows.length) {nrows : List (List AV)}
  (hnl : nrows.length = n) (hn2 : n ≤ cap') {us : List Value} (hnu : RepF T w M s nrows us) {f : Sem Next} {val : Value} {av : AV} (hval : Rep T w M av val)
  (run : ∀ w1,(match ad' with | some x=>storeCells x us | none=>pure ()).run P w = .ok () w1 → f.run P w = .ok (.value val) w1) :
  Eff P np T0 M0 w0 live idb (st.upd [(id,some { en with rows:=en.rows.take off ++ nrows ++ en.rows.drop (off + n) })]).hp T M w av (f.run P w):=by
 cases hr with
 | rs _ _ _ _ cap' ad' g hg hz hl hnn hbb =>
   obtain ⟨g',hg',ent⟩:=m.hs.ent id en hen
   obtain rfl:=Option.some.inj (hg.symm.trans hg')
   have hS : g.s = s:=ent.s.trans hes
   cases hblk : g.blk with
   | none =>
     have hr0:=ent.none hblk
     have hz:=hnn hblk
     have hn0 : n = 0:=by omega
     skip
     have e0 : en.rows.take off ++ nrows ++ en.rows.drop (off + n) = en.rows:=by rw [List.length_eq_zero_iff.1 (hnl.trans hn0),hr0,hn0]; simp
     have hnil : us = []:=List.length_eq_zero_iff.1 (by rw [hnu.size,hnl,hn0]; simp)
     rw [run w (by rw [hnil]; cases ad' <;> rfl),e0]
     have hph : (st.upd [(id,some { en with rows:=en.rows })]).hp = st.hp:=by
      funext j
      rw [St.hp_upd]
      simp only [lkp]
      split
      ·rename_i e; subst e; exact hen.symm
      ·rfl
     rw [hph]
     exact ⟨T,M,m.wider (fun _ h=>.inl h),Pres.refl _ _,fun _ _ h=>h,hval⟩
   | some b =>
     obtain ⟨ha,c1,t1,f1,hw1,hfit⟩:=hbb b hblk
     obtain ⟨cells,tyc,hcell,hT,hsz,hcc⟩:=ent.blk (ent.s ▸ hz) b hblk
     rw [hes] at hsz hT
     have hc1 : c1 = cells:=by
      have e:=hcell.symm.trans hw1
      injection e with e
      injection e with e
      exact e.symm
     rw [hc1,show g.s = s from ent.s.trans hes] at hfit
     have hle2 : n * s ≤ cap' * s:=Nat.mul_le_mul_right _ hn2
     have hin : g.base + off * s + (us).length ≤ cells.size:=by
      rw [hnu.size,hnl]
      omega
     obtain ⟨s1,s2⟩:=zqr cells (g.base + off * s) (us) hin
     have hst:=run_storeCells_at P b (g.base + off * s) tyc (us) 0 cells w hcell (by simpa using hin) hnu.one
     simp only [Nat.add_zero] at hst
     have hstore : (match ad' with | some x=>storeCells x (us) | none=>pure ()).run P w = .ok () (w.setRow b (cells.toList.take (g.base + off * s) ++ us ++ cells.toList.drop (g.base + off * s + (us).length)).toArray):=by
      rcases ha with ha | ha
      ·have hn0 : n = 0:=by omega
       have hnil : us = []:=List.length_eq_zero_iff.1 (by rw [hnu.size,hnl,hn0]; simp)
       rw [hnil]
       simp only [List.append_nil,List.length_nil,Nat.add_zero,List.take_append_drop,Array.toArray_toList]
       rw [setRow_self w b cells tyc (0,0) hcell]
       cases ad' <;> rfl
      ·rw [hS] at ha
       subst ha
       exact hst
     have hrun:=run _ hstore
     generalize (cells.toList.take (g.base + off * s) ++ us ++ cells.toList.drop (g.base + off * s + (us).length)).toArray = cells' at *
     rw [hnu.size,hnl] at s2
     have hlen' : (en.rows.take off ++ nrows ++ en.rows.drop (off + n)).length = off + n + (en.rows.length - (off + n)):=by simp; omega
     have hfits : g.base + (off + n + (en.rows.length - (off + n))) * s ≤ cells.size:=by
      rcases Nat.le_total en.rows.length (off + n) with h | h
      ·rw [show off + n + (en.rows.length - (off + n)) = off + n by omega,Nat.add_mul]
       omega
      ·rw [show off + n + (en.rows.length - (off + n)) = en.rows.length by omega]
       exact hsz
     obtain ⟨M',m1,m2,m3,m4⟩:=m.write (id':=id) (g':=g) (e:={ en with rows:=en.rows.take off ++ nrows ++ en.rows.drop (off + n) }) (cells':=cells') hen hg hblk hcell s1 (fun q hq=>by
       rw [s2,if_neg]
       have : en.ro * s ≤ off * s:=Nat.mul_le_mul_right _ hro
       omega) (.inl ⟨rfl,rfl⟩) hblk ent.s (ent.s ▸ hz) (by simp only; rw [hlen']; omega) (fun r hr=>by
       simp only [List.mem_append] at hr
       rcases hr with (hr | hr) | hr
       ·exact ent.wide (ent.s ▸ hz) r (List.mem_of_mem_take hr)
       ·simp only; rw [hes]; exact hnu.wide r hr
       ·exact ent.wide (ent.s ▸ hz) r (List.mem_of_mem_drop hr)) (by simp only; rw [hes]; exact hT) (by simp only; rw [hlen',hes]; exact hfits) (fun i' j' hi' hj'=>by
       simp only [hlen'] at hi'
       simp only [hes] at hj'
       simp only [hes,s2]
       by_cases hin' : off ≤ i' ∧ i' < off + n
       ·have h1 : (i' - off) * s + j' < n * s:=zd9 (by omega) hj'
        have h2 : i' * s = off * s + (i' - off) * s:=by rw [← Nat.add_mul]; congr 1; omega
        rw [if_pos (by omega)]
        obtain ⟨u,hu,ho,hru⟩:=hnu.cells (i:=i' - off) (j:=j') (by rw [hnl]; omega) hj'
        refine ⟨u,by rw [← hu]; congr 1; omega,ho,?_⟩
        have e1 : (en.rows.take off ++ nrows ++ en.rows.drop (off + n)).getD i' [] = (nrows).getD (i' - off) []:=by
         simp only [List.getD]
         rw [List.append_assoc,List.getElem?_append_right (by simp; omega),List.getElem?_append_left (by simp; omega)]
         congr 2
         simp
         omega
        rw [e1]
        exact hru
       ·obtain ⟨u,hu,ho,hru⟩:=hcc i' j' (by omega) (by omega)
        rw [hes] at hu
        have h3 : ¬ (g.base + off * s ≤ g.base + i' * s + j' ∧ g.base + i' * s + j' < g.base + off * s + n * s):=by
         intro q
         apply hin'
         constructor
         ·rcases Nat.lt_or_ge i' off with h | h
          ·have : (i' + 1) * s ≤ off * s:=Nat.mul_le_mul_right _ h
           rw [Nat.add_mul] at this
           omega
          ·exact h
         ·rcases Nat.lt_or_ge i' (off + n) with h | h
          ·exact h
          ·have : (off + n) * s ≤ i' * s:=Nat.mul_le_mul_right _ h
           rw [Nat.add_mul] at this
           omega
        rw [if_neg h3]
        refine ⟨u,hu,ho,?_⟩
        have e1 : (en.rows.take off ++ nrows ++ en.rows.drop (off + n)).getD i' [] = en.rows.getD i' []:=by
         simp only [List.getD]
         rcases Nat.lt_or_ge i' off with h | h
         ·rw [List.append_assoc,List.getElem?_append_left (by simp; omega),List.getElem?_take,if_pos h]
         ·rw [List.getElem?_append_right (by simp; omega),List.getElem?_drop]
          congr 2
          simp
          omega
        rw [e1]
        exact hru)
      (hp':=(st.upd [(id,some { en with rows:=en.rows.take off ++ nrows ++ en.rows.drop (off + n) })]).hp) (by rw [St.hp_upd]; simp [lkp]) (fun i' e' hne he'=>by
       rw [St.hp_upd] at he'
       simp only [lkp,if_neg (Ne.symm hne)] at he'
       exact ⟨hne,he'⟩)
     skip
     rw [hrun]
     refine ⟨T,M',m3.wider fun i' hi'=>?_,m4,m2,hval.mono m4 m2⟩
     rcases hi' with hi' | hi'
     ·exact .inl hi'
     ·subst hi'; exact .inl (m.dom _ _ hg)
theorem zte {Y : AV} {b : Option Addr} {mm cp n : Nat} (hr : Rep T w M Y (.slice b mm cp)) (hl : lenOf Y = some mm) (hn : n ≤ mm) : Rep T w M (cutN n Y) (.slice b n cp):=by
 generalize hv : Value.slice b mm cp = v at hr
 cases hr with
 | vs _ s full rows a cap c hf hle hw hb h1 h =>
   cases hv
   simp only [cutN]
   have hlen : (rows.take n).length = n:=by simp; omega
   have e : Value.slice b n cp = .slice b (rows.take n).length cp:=by rw [hlen]
   rw [e]
   refine .vs _ s false _ _ _ c (fun h=>by cases h) (by omega) (fun r hr=>hw r (List.mem_of_mem_take hr)) (fun hne=>?_) (fun i j hi hj=>h1 i j (by omega) hj) fun i j hi hj=>?_
   ·have hne' : rows ≠ []:=by rintro rfl; simp at hne
    obtain ⟨b',off,cells,ty,fz,ha,hw',hT,hc⟩:=hb hne'
    refine ⟨b',off,cells,ty,fz,ha,hw',?_,fun i j hi hj=>hc i j (by omega) hj⟩
    have : n * s ≤ rows.length * s:=Nat.mul_le_mul_right _ hn
    rw [hlen]
    omega
   ·have e1 : (rows.take n).getD i [] = rows.getD i []:=by simp [List.getD,List.getElem?_take,show i < n by omega]
    rw [e1]
    exact h i j (by omega) hj
 | rs _ id off len cap a g hg hz hl' hn' hb =>
   cases hv
   simp only [cutN,Nat.min_eq_left hn]
   exact .rs _ _ _ _ _ _ g hg hz (by omega) hn' hb
 | rk _ id off len cap a g hg hz hl' hn' hb =>
   cases hv
   simp only [cutN,Nat.min_eq_left hn]
   exact .rk _ _ _ _ _ _ g hg hz (by omega) hn' hb
 | sc _ _ h1 =>
   subst hv
   have h0 : n = mm:=by
    simp only [lenOf] at hl
    split at hl <;> simp_all
   subst h0
   exact .sc _ _ h1
 | _=>simp [lenOf] at hl
theorem zwG (m : Mem np T0 M0 w0 live st.hp T M w) {id off len c s : Nat} {v v' : Value} {en : Ent} (hr : Rep T w M (.rk id off len c) v) (hen : st.hp id = some en) (hes : en.s = s) (hle : off + len ≤ en.rows.length) (hro : en.ro ≤ off + len)
  {t tx ty e : TypeId} {i : TypeInfo} (ht : P.underlying t = some (.slice e)) (hi : P.info? e = some i) (his : i.size = s) {new : List (List AV)}
  {news : List Value} (hn : RepF T w M s new news) (src : Src P i.size tx v' new.length news w) (hfit : len + new.length ≤ c)
  {f : Sem Next} (hf : ∀ r w1,(Builtin.append_ #[t,tx] ty #[v,v']).run P w = .ok r w1 → f.run P w = .ok (.value r) w1) :
  Eff P np T0 M0 w0 live idb (st.upd [(id,some { en with rows:=en.rows.take (off + len) ++ new ++ en.rows.drop (off + len + new.length) })]).hp T M w (.rk id off (len + new.length) c) (f.run P w):=by
 cases hr with
 | rk _ _ _ _ _ ad g hg hz hl hnn hbb =>
 by_cases h0 : new = []
 ·subst h0
  have hnews : news = []:=List.eq_nil_of_length_eq_zero (by rw [hn.size]; simp)
  rw [hnews] at src
  rw [hf _ _ (run_append_nothing (P:=P) w t tx ty e i ht hi ad len c (by omega) v' src)]
  have e0 : en.rows.take (off + len) ++ [] ++ en.rows.drop (off + len + ([] : List (List AV)).length) = en.rows:=by simp
  rw [e0]
  have hph : (st.upd [(id,some { en with rows:=en.rows })]).hp = st.hp:=by
   funext j
   rw [St.hp_upd]
   simp only [lkp]
   split
   ·rename_i e; subst e; exact hen.symm
   ·rfl
  rw [hph]
  exact ⟨T,M,m.wider (fun _ h=>.inl h),Pres.refl _ _,fun _ _ h=>h,.rk _ _ _ _ _ _ g hg hz hl hnn hbb⟩
 ·have hpos : 0 < new.length:=List.length_pos_iff.2 h0
  obtain ⟨g',hg',ent⟩:=m.hs.ent id en hen
  obtain rfl:=Option.some.inj (hg.symm.trans hg')
  have hS : g.s = s:=ent.s.trans hes
  cases hblk : g.blk with
  | none=>have:=hnn hblk; omega
  | some b =>
    obtain ⟨ha,c1,t1,f1,hw1,hfc⟩:=hbb b hblk
    have ha' : ad = some ⟨b,g.base + off * g.s,none⟩:=by
     rcases ha with ha | ha
     ·omega
     ·exact ha
    subst ha'
    have hcs : (c - len) * g.s + len * g.s = c * g.s:=by rw [← Nat.add_mul]; congr 1; omega
    refine zjb (T:=T) (M:=M) (ad':=some ⟨b,g.base + (off + len) * g.s,none⟩) (cap':=c - len) m (.rs _ id (off + len) 0 _ _ g hg hz (Nat.zero_le _) (fun h=>by rw [hblk] at h; cases h) fun b' hb'=>?_) hen hes hro hle rfl (by omega) hn (val:=.slice (some ⟨b,g.base + off * g.s,none⟩) (len + new.length) c) ?_ fun w1 h1=>?_
    ·rw [hblk] at hb'
     obtain rfl:=Option.some.inj hb'
     refine ⟨.inr rfl,c1,t1,f1,hw1,?_⟩
     rw [Nat.add_mul]
     omega
    ·refine .rk _ id off _ _ _ g hg hz hfit (fun h=>by rw [hblk] at h; cases h) fun b' hb'=>?_
     rw [hblk] at hb'
     obtain rfl:=Option.some.inj hb'
     exact ⟨.inr rfl,c1,t1,f1,hw1,hfc⟩
    ·refine hf _ _ ?_
     have hoff : g.base + off * s + len * s = g.base + (off + len) * s:=by rw [Nat.add_mul]; omega
     have hcs:=src.cells
     rw [his] at hcs
     simp only [hS] at h1 ⊢
     rcases src.kind with ⟨e',hk⟩ | hk <;> simp [Builtin.append_,run_underlying ht,run_underlying hk,sizeOf,typeInfo,hi,src.len,hfit,his,hcs,Addr.add_lit,hoff,h1]
theorem zux (m : Mem np T0 M0 w0 live st.hp T M w) (fresh : ∀ k,k < 8 → ¬ live (idb + k)) (npid : np ≤ idb) {id off len c s : Nat} {v v' : Value} {en : Ent} (hr : Rep T w M (.rk id off len c) v) (hen : st.hp id = some en) (hes : en.s = s) (hle : off + len ≤ en.rows.length)
  {t tx ty e : TypeId} {i : TypeInfo} {zv : Value} (ht : P.underlying t = some (.slice e)) (hi : P.info? e = some i) (hz : i.zero = some zv) (hzs : zv.cells.size = s) (his : i.size = s) {new : List (List AV)}
  {news : List Value} (hn : RepF T w M s new news) (src : Src P i.size tx v' new.length news w) (hgrow : c < len + new.length) (hb : (len + new.length) * i.bytes ≤ 140737488355328) (hlim : len + new.length ≤ 140737488355328)
  {f : Sem Next} (hf : ∀ r w1,(Builtin.append_ #[t,tx] ty #[v,v']).run P w = .ok r w1 → f.run P w = .ok (.value r) w1) :
  Eff P np T0 M0 w0 live idb (st.upd [(idb,some { s:=s,rows:=(en.rows.drop off).take len ++ new,ro:=0 })]).hp T M w (.rs idb 0 (len + new.length)) (f.run P w):=by
 have hlen : ((en.rows.drop off).take len).length = len:=by simp; omega
 obtain ⟨ad,cap,us,hv,hcap,hus,hun,hucell⟩:=zdb m.hs hr (s:=s) (rows:=(en.rows.drop off).take len) (by simp [zbt,hen,hes,hle])
 have hs0 : s ≠ 0:=by
  cases hr with
  | rk _ _ _ _ _ _ g hg hz' =>
    obtain ⟨g',hg',ent⟩:=m.hs.ent id en hen
    obtain rfl:=Option.some.inj (hg.symm.trans hg')
    rw [← hes,← ent.s]; exact hz'
 have hcc : cap = c:=by
  cases hr with
  | rk=>injection hv with h1 h2 h3; exact h3.symm
 subst hcc hv
 have hall:=hus.append hn
 have hfc : (Builtin.firstCells i.size ((en.rows.drop off).take len).length (.slice ad ((en.rows.drop off).take len).length cap)).run P w.drew = .ok us.toArray w.drew:=by
  cases ad with
  | none=>rw [run_firstCells_none,hun rfl]
  | some x=>exact run_firstCells_some w.drew _ _ _ _ _ us (by rw [his]; exact hus.size) (fun j u hj=>by simpa using hucell x rfl j u hj)
 rw [hlen] at hfc hcap hf
 have run:=run_append_grow_src (P:=P) w t tx ty e i zv ht hi hz ad len cap us hfc v' new.length news src hgrow (by omega) (growslice_fits hgrow hb)
 have hcapge : len + new.length ≤ grownCap w (len + new.length) cap e:=by simp only [grownCap,Question.cut]; omega
 refine zgu m fresh npid (e:={ s:=s,rows:=(en.rows.drop off).take len ++ new,ro:=0 }) (hf _ _ run) rfl rfl rfl rfl hs0 (Nat.zero_le _) hall.wide ?_ (fun i j hi hj=>?_) _ (by simp [lkp]) (fun j x hj hx=>?_) fun M' hM'=>?_
 ·simp only [Array.size_append,List.size_toArray,hall.size]
  omega
 ·obtain ⟨u,hu,ho,hru⟩:=hall.cells hi hj
  refine ⟨u,?_,ho,hru⟩
  rw [Array.getElem?_append_left]
  ·simpa using hu
  ·simp only [List.size_toArray,hall.size]
   exact zd9 hi hj
 ·simp only [lkp,if_neg (Ne.symm hj)] at hx
  cases hx
 ·refine .rs _ _ 0 _ _ _ _ hM' hs0 hcapge (fun hn=>by cases hn) fun b' hb2=>?_
  obtain rfl:=Option.some.inj hb2
  refine ⟨.inr (by simp),_,e,(0,0),(Array.getElem?_push_size : (w.drew.heap.push _)[w.drew.heap.size]? = _),?_⟩
  have h1:=hus.size
  rw [hlen] at h1
  simp only [Array.size_append,List.size_toArray,List.length_append,h1,hn.size,size_zeroCells,hzs]
  have : (grownCap w (len + new.length) cap e - (len + new.length)) * s + (len + new.length) * s = grownCap w (len + new.length) cap e * s:=by
   rw [← Nat.add_mul]; congr 1; omega
  rw [Nat.add_mul] at this
  omega
theorem zl0 {z : List Value} {zv : Value} {s : Nat} (hone : ∀ v ∈ z,v.oneCell' = true) (hzl : zv.cells.toList = z) (hzs : z.length = s) (len : Nat) : RepF T w M s (List.replicate len (z.map .sc)) (Builtin.zeroCells zv.cells len).toList:=by
 have hzz : zv.cells = z.toArray:=by rw [← hzl,Array.toArray_toList]
 have hz1 : Builtin.zeroCells zv.cells len = (Array.range (len * z.toArray.size)).map fun i=>z.toArray[i % z.toArray.size]!:=by rw [Builtin.zeroCells,hzz]
 have hzr:=zie (T:=T) (w:=w) (M:=M) hone hzs len (Builtin.zeroCells zv.cells len) _ hz1 (by simp [hzs])
 refine ⟨by rw [hz1]; simp [hzs],fun r hr=>by rw [List.eq_of_mem_replicate hr]; simpa using hzs,fun u hu=>?_,fun i j hi hj=>?_⟩
 ·rw [hz1] at hu
  simp only [List.mem_map,Array.mem_toList_iff,Array.mem_map,Array.mem_range] at hu
  obtain ⟨q,hq,rfl⟩:=hu
  simp only [List.size_toArray] at hq ⊢
  have hpos : 0 < z.length:=by
   rcases Nat.eq_zero_or_pos z.length with h0 | h0
   ·rw [h0] at hq; simp at hq
   ·exact h0
  have hlt:=Nat.mod_lt q hpos
  have e1 : z.toArray[q % z.length]! = z[q % z.length]:=by simp [hlt]
  rw [e1]
  exact hone _ (List.getElem_mem _)
 ·obtain ⟨u,hu,_,hru⟩:=hzr i j hi hj
  have e1 : (Builtin.zeroCells zv.cells len).toList.getD (i * s + j) undef = u:=by simp [List.getD,hu]
  rw [e1]
  exact hru
theorem zrE (m : Mem np T0 M0 w0 live st.hp T M w) (fresh : ∀ k,k < 8 → ¬ live (idb + k)) (npid : np ≤ idb) {id off len c s k : Nat} {v : Value} {en : Ent} (hr : Rep T w M (.rk id off len c) v) (hen : st.hp id = some en) (hes : en.s = s) (hle : off + len ≤ en.rows.length)
  {t tn ty e : TypeId} {i : TypeInfo} {zv : Value} {kq kn : IntKind} (ht : P.underlying t = some (.slice e)) (htn : P.underlying tn = some (.int kn)) (hi : P.info? e = some i) (hz : i.zero = some zv) {z : List Value} (hone : ∀ v ∈ z,v.oneCell' = true) (hzl : zv.cells.toList = z) (hzs : z.length = s) (his : i.size = s) (hpos : 0 < s)
  (h0 : 0 < k) (hgrow : c < len + k) (hb : (len + k) * i.bytes ≤ 140737488355328) (hlim : len + k ≤ 140737488355328)
  {f : Sem Next} (hf : ∀ r w1,(Builtin.append_ #[t,tn] ty #[v,.int kq k]).run P w = .ok r w1 → f.run P w = .ok (.value r) w1) :
  Eff P np T0 M0 w0 live idb (st.upd [(idb,some { s:=s,rows:=(en.rows.drop off).take len ++ List.replicate k (z.map .sc),ro:=0 })]).hp T M w (.rs idb 0 (len + k)) (f.run P w):=by
 have hlen : ((en.rows.drop off).take len).length = len:=by simp; omega
 obtain ⟨ad,cap,us,hv,hcap,hus,hun,hucell⟩:=zdb m.hs hr (s:=s) (rows:=(en.rows.drop off).take len) (by simp [zbt,hen,hes,hle])
 have hcc : cap = c:=by
  cases hr with
  | rk=>injection hv with h1 h2 h3; exact h3.symm
 subst hcc hv
 have hn:=zl0 (T:=T) (w:=w) (M:=M) hone hzl hzs k
 have hall:=hus.append hn
 have hfc : (Builtin.firstCells i.size ((en.rows.drop off).take len).length (.slice ad ((en.rows.drop off).take len).length cap)).run P w.drew = .ok us.toArray w.drew:=by
  cases ad with
  | none=>rw [run_firstCells_none,hun rfl]
  | some x=>exact run_firstCells_some w.drew _ _ _ _ _ us (by rw [his]; exact hus.size) (fun j u hj=>by simpa using hucell x rfl j u hj)
 rw [hlen] at hfc hcap hf
 have hbk : k * i.bytes ≤ (len + k) * i.bytes:=Nat.mul_le_mul_right _ (by omega)
 have run:=Lib.run_append_grow_zeros (P:=P) w t tn ty e i zv kq kn ht htn hi hz ad len cap us hfc k h0 (by omega) hgrow (by omega) (by omega) (growslice_fits hgrow hb)
 have hcapge : len + k ≤ grownCap w (len + k) cap e:=by simp only [grownCap,Question.cut]; omega
 have hzsz : zv.cells.size = s:=by rw [← hzs,← hzl]; simp
 have h1:=hus.size
 rw [hlen] at h1
 have e1 : us.toArray ++ Builtin.zeroCells zv.cells k = (us ++ (Builtin.zeroCells zv.cells k).toList).toArray:=by
  apply Array.ext'
  simp
 rw [e1] at run
 refine zgu m fresh npid (e:={ s:=s,rows:=(en.rows.drop off).take len ++ List.replicate k (z.map .sc),ro:=0 }) (hf _ _ run) rfl rfl rfl rfl (Nat.pos_iff_ne_zero.1 hpos) (Nat.zero_le _) hall.wide ?_ (fun i j hi hj=>?_) _ (by simp [lkp]) (fun j x hj hx=>?_) fun M' hM'=>?_
 ·simp only [Array.size_append,List.size_toArray,hall.size]
  omega
 ·obtain ⟨u,hu,ho,hru⟩:=hall.cells hi hj
  refine ⟨u,?_,ho,hru⟩
  rw [Array.getElem?_append_left]
  ·simpa using hu
  ·simp only [List.size_toArray,hall.size]
   exact zd9 hi hj
 ·simp only [lkp,if_neg (Ne.symm hj)] at hx
  cases hx
 ·refine .rs _ _ 0 _ _ _ _ hM' (Nat.pos_iff_ne_zero.1 hpos) hcapge (fun hn=>by cases hn) fun b' hb2=>?_
  obtain rfl:=Option.some.inj hb2
  refine ⟨.inr (by simp),_,e,(0,0),(Array.getElem?_push_size : (w.drew.heap.push _)[w.drew.heap.size]? = _),?_⟩
  have h2:=hn.size
  rw [List.length_replicate] at h2
  simp only [Array.size_append,List.size_toArray,List.length_append,h1,h2,size_zeroCells,hzsz]
  have : (grownCap w (len + k) cap e - (len + k)) * s + (len + k) * s = grownCap w (len + k) cap e * s:=by
   rw [← Nat.add_mul]; congr 1; omega
  rw [Nat.add_mul] at this
  omega
theorem zm8 (m : Mem np T0 M0 w0 live st.hp T M w) (fresh : ∀ k,k < 8 → ¬ live (idb + k)) (npid : np ≤ idb) {s k : Nat}
  {t tn ty e : TypeId} {i : TypeInfo} {zv : Value} {kq kn : IntKind} (ht : P.underlying t = some (.slice e)) (htn : P.underlying tn = some (.int kn)) (hi : P.info? e = some i) (hz : i.zero = some zv) {z : List Value} (hone : ∀ v ∈ z,v.oneCell' = true) (hzl : zv.cells.toList = z) (hzs : z.length = s) (his : i.size = s) (hpos : 0 < s)
  (h0 : 0 < k) (hb : k * i.bytes ≤ 140737488355328) (hlim : k ≤ 140737488355328)
  {f : Sem Next} (hf : ∀ r w1,(Builtin.append_ #[t,tn] ty #[.slice none 0 0,.int kq k]).run P w = .ok r w1 → f.run P w = .ok (.value r) w1) :
  Eff P np T0 M0 w0 live idb (st.upd [(idb,some { s:=s,rows:=List.replicate k (z.map .sc),ro:=0 })]).hp T M w (.rs idb 0 k) (f.run P w):=by
 have hn:=zl0 (T:=T) (w:=w) (M:=M) hone hzl hzs k
 have hfc : (Builtin.firstCells i.size 0 (.slice none 0 0)).run P w.drew = .ok ([] : List Value).toArray w.drew:=run_firstCells_none ..
 have run:=Lib.run_append_grow_zeros (P:=P) w t tn ty e i zv kq kn ht htn hi hz none 0 0 [] hfc k h0 (by omega) (by omega) (by omega) (by omega) (growslice_fits (by omega) (by simpa using hb))
 simp only [Nat.zero_add] at run
 have hcapge : k ≤ grownCap w k 0 e:=by simp only [grownCap,Question.cut]; omega
 have hzsz : zv.cells.size = s:=by rw [← hzs,← hzl]; simp
 have e1 : ([] : List Value).toArray ++ Builtin.zeroCells zv.cells k = ((Builtin.zeroCells zv.cells k).toList).toArray:=by
  apply Array.ext'
  simp
 rw [e1] at run
 refine zgu m fresh npid (e:={ s:=s,rows:=List.replicate k (z.map .sc),ro:=0 }) (hf _ _ run) rfl rfl rfl rfl (Nat.pos_iff_ne_zero.1 hpos) (Nat.zero_le _) hn.wide ?_ (fun i j hi hj=>?_) _ (by simp [lkp]) (fun j x hj hx=>?_) fun M' hM'=>?_
 ·simp only [Array.size_append,List.size_toArray,hn.size]
  omega
 ·obtain ⟨u,hu,ho,hru⟩:=hn.cells hi hj
  refine ⟨u,?_,ho,hru⟩
  rw [Array.getElem?_append_left]
  ·simpa using hu
  ·simp only [List.size_toArray,hn.size]
   exact zd9 hi hj
 ·simp only [lkp,if_neg (Ne.symm hj)] at hx
  cases hx
 ·refine .rs _ _ 0 _ _ _ _ hM' (Nat.pos_iff_ne_zero.1 hpos) hcapge (fun hn=>by cases hn) fun b' hb2=>?_
  obtain rfl:=Option.some.inj hb2
  refine ⟨.inr (by simp),_,e,(0,0),(Array.getElem?_push_size : (w.drew.heap.push _)[w.drew.heap.size]? = _),?_⟩
  have h2:=hn.size
  rw [List.length_replicate] at h2
  simp only [Array.size_append,List.size_toArray,h2,size_zeroCells,hzsz]
  have : (grownCap w k 0 e - k) * s + k * s = grownCap w k 0 e * s:=by
   rw [← Nat.add_mul]; congr 1; omega
  omega
theorem zl3 {id s bytes : Nat} {x y : AV} {h : Nat → Option Ent} {K : AV → List Nat → List (Nat × Option Ent) → Prop} (hx : ¬ ∃ i o l c,x = .rk i o l c) : aK P np id (.app s bytes) [x,y] h K = ∃ new old,zbt s h y = some new ∧ zbN s h new x = some old ∧ (old.1.length + new.length) * bytes ≤ 140737488355328 ∧
   old.1.length + new.length ≤ 140737488355328 ∧
   K (.rs id 0 (old.1.length + new.length)) (zbH x ++ zbH y) ((id,some { s:=s,rows:=old.1 ++ new,ro:=old.2.1 }) :: old.2.2):=by
 cases x with
 | rk i o l c=>exact absurd ⟨_,_,_,_,rfl⟩ hx
 | _=>rfl
variable (tm : ∀ i,Rep T w M (st.get i) (a.tmps.getD i undef)) (m : Mem np T0 M0 w0 live st.hp T M w) (fresh : ∀ k,k < 8 → ¬ live (idb + k)) (npid : np ≤ idb)
include tm m fresh npid
set_option maxHeartbeats 2000000 in
theorem zsr (o : Oper) (c : Call) (h : o.op = .call c) (hb : c.callee = .builtin .append) : Goal P np T0 M0 w0 live st T M a w idb o:=by
 intro K hk
 simp only [zaB,h,hb] at hk
 split at hk
 case h_2=>exact False.elim hk
 rename_i t u x y ht hx
 have ht' : c.argTypes = #[t,u]:=by rw [← Array.toArray_toList (xs:=c.argTypes),ht]
 have hx' : c.args = #[x,y]:=by rw [← Array.toArray_toList (xs:=c.args),hx]
 have run : ∀ v v',a.eval x = v → a.eval y = v' → ∀ r w1,(Builtin.append_ #[t,u] o.type #[v,v']).run P w = .ok r w1 → (execOp a.eval o).run P w = .ok (.value r) w1:=by
  rintro v v' rfl rfl r w1 hr
  simp [execOp,h,resolve,hb,invoke,builtin,ht',hx',hr]
 have hr:=zaG tm x
 have hr':=zaG tm y
 split at hk
 case h_4=>exact False.elim hk
 case h_3 =>
  rename_i e kn hu hu'
  split at hk
  case h_2=>exact False.elim hk
  rename_i z s b hz hs hby
  split at hk
  case isFalse=>exact False.elim hk
  rename_i hpos
  obtain ⟨i,zv,hi,hzv,hzl,hzi,hone⟩:=zcH hz
  have his : i.size = s:=by simpa [zce,hi] using hs
  have hib : i.bytes = b:=by simpa [zju,hi] using hby
  simp only [List.map] at hk
  generalize hX : (opd x).ev st.get = X at *
  generalize hY : (opd y).ev st.get = Y at *
  by_cases hXn : X = .nilS
  ·subst hXn
   cases Y <;> (try (simp only [AV.nilS,aK] at hk; done))
   rename_i q
   cases q <;> (try (simp only [AV.nilS,aK] at hk; done))
   rename_i kq n
   simp only [AV.nilS,aK] at hk
   obtain ⟨hzs,h0,hb1,hlim,hk⟩:=hk
   have hv':=zbF hr' rfl
   have hvn:=zbF hr rfl
   have hn : Value.int kq n = .int kq (n.toNat : Int):=by congr 1; omega
   rw [hn] at hv'
   exact ⟨_,_,_,hk,zm8 (f:=execOp a.eval o) (ty:=o.type) m fresh npid hu hu' hi hzv hone hzl hzs his hpos (by omega) (by rw [hib]; exact hb1) hlim (run _ _ hvn hv')⟩
  cases X <;> (try (simp only [aK] at hk; done))
  case sc v0 =>
   exfalso
   cases v0 <;> (try (simp only [aK] at hk; done))
   rename_i ad l cc
   cases ad <;> cases l <;> cases cc <;> (try (simp only [aK] at hk; done))
   exact hXn rfl
  rename_i id off len c'
  cases Y <;> (try (simp only [aK] at hk; done))
  rename_i q
  cases q <;> (try (simp only [aK] at hk; done))
  rename_i kq n
  simp only [aK] at hk
  obtain ⟨en,hen,hes,hzs,hle,h0,hgrow,hb1,hlim,hk⟩:=hk
  have hv':=zbF hr' rfl
  have hn : Value.int kq n = .int kq (n.toNat : Int):=by congr 1; omega
  rw [hn] at hv'
  exact ⟨_,_,_,hk,zrE (f:=execOp a.eval o) (ty:=o.type) m fresh npid hr hen hes hle hu hu' hi hzv hone hzl hzs his hpos (by omega) hgrow (by rw [hib]; exact hb1) hlim (run _ _ rfl hv')⟩
 ·rename_i e e' hu hu'
  split at hk
  case h_2=>exact False.elim hk
  rename_i s b hs hby
  split at hk
  case isFalse=>exact False.elim hk
  rename_i hz
  obtain ⟨z,hz'⟩:=Option.isSome_iff_exists.1 hz.1
  obtain ⟨i,zv,hi,hzv,hzl,hzi,hone⟩:=zcH hz'
  have his : i.size = s:=by simpa [zce,hi] using hs
  have hib : i.bytes = b:=by simpa [zju,hi] using hby
  simp only [List.map] at hk
  generalize hX : (opd x).ev st.get = X at *
  by_cases hrk : ∃ i o l c,X = .rk i o l c
  ·obtain ⟨id,off,len,c',rfl⟩:=hrk
   simp only [aK] at hk
   obtain ⟨new,en,hnew,hen,hes,hle,hro,hb1,hlim,hk⟩:=hk
   obtain ⟨ad,cap,us,hv',hcap,hus,hun,huc⟩:=zdb m.hs hr' hnew
   by_cases hfit : len + new.length ≤ c'
   ·rw [if_pos hfit] at hk
    exact ⟨_,_,_,hk,zwG (f:=execOp a.eval o) m hr hen hes hle hro hu hi his hus (by rw [his]; exact zsl hu' hus rfl hun huc hz.2) hfit (run _ _ rfl hv')⟩
   ·rw [if_neg hfit] at hk
    exact ⟨_,_,_,hk,zux (f:=execOp a.eval o) m fresh npid hr hen hes hle hu hi hzv (by rw [← hzl] at hzi; simp at hzi; omega) his hus (by rw [his]; exact zsl hu' hus rfl hun huc hz.2) (by omega) (by rw [hib]; exact hb1) hlim (run _ _ rfl hv')⟩
  rw [zl3 hrk] at hk
  obtain ⟨new,old,hnew,hold,hb1,hlim,hk⟩:=hk
  obtain ⟨ad,cap,us,hv',hcap,hus,hun,huc⟩:=zdb m.hs hr' hnew
  refine ⟨_,_,_,hk,zj5 (f:=execOp a.eval o) m fresh npid hr hold hu hi hzv (by rw [← hzl] at hzi; simp at hzi; omega) his (Nat.pos_iff_ne_zero.1 hz.2) hus (by rw [his]; exact zsl hu' hus rfl hun huc hz.2) (by rw [hib]; exact hb1) hlim (run _ _ rfl hv')⟩
 ·rename_i e hu hu'
  split at hk
  case h_2=>exact False.elim hk
  rename_i hs hby
  split at hk
  case isFalse=>exact False.elim hk
  rename_i hz
  obtain ⟨z,hz'⟩:=Option.isSome_iff_exists.1 hz
  obtain ⟨i,zv,hi,hzv,hzl,hzi,hone⟩:=zcH hz'
  have his : i.size = 1:=by simpa [zce,hi] using hs
  have hib : i.bytes = 1:=by simpa [zju,hi] using hby
  simp only [List.map] at hk
  generalize hY : (opd y).ev st.get = Y at *
  cases Y <;> (try (simp only [aK] at hk; done))
  rename_i q
  cases q <;> (try (simp only [aK] at hk; done))
  rename_i bs
  simp only [aK] at hk
  obtain ⟨old,hold,hlim,hk⟩:=hk
  have hv':=zbF hr' rfl
  have hl:=zeu bs
  have:=zj5 (f:=execOp a.eval o) (ty:=o.type) m fresh npid hr hold hu hi hzv (by rw [← hzl] at hzi; simp at hzi; omega) his (Nat.succ_ne_zero 0) (zqH bs) (by rw [his,hl]; exact Src.ofString w hu' bs) (by rw [hib,hl]; omega) (by omega) (run _ _ rfl hv')
  rw [hl] at this
  exact ⟨_,_,_,hk,this⟩
omit fresh npid in
theorem zwx (o : Oper) (c : Call) (h : o.op = .call c) (hb : c.callee = .builtin .copy) : Goal P np T0 M0 w0 live st T M a w idb o:=by
 intro K hk
 simp only [zaB,h,hb] at hk
 split at hk
 case h_2=>exact False.elim hk
 rename_i t ts x y ht hx
 have hx' : c.args = #[x,y]:=by rw [← Array.toArray_toList (xs:=c.args),hx]
 have ht' : c.argTypes[0]? = some t:=by rw [← Array.getElem?_toList,ht]; rfl
 split at hk
 case h_2=>exact False.elim hk
 rename_i e hu
 split at hk
 case h_2=>exact False.elim hk
 rename_i s hs
 have hsz' : (sizeOf e).run P w = .ok s w:=by
  simp only [zce,Option.map_eq_some_iff] at hs
  obtain ⟨i,hi,hs⟩:=hs
  simp [sizeOf,typeInfo,hi,hs]
 have hr:=zaG tm x
 have hr':=zaG tm y
 simp only [List.map] at hk
 generalize hv : a.eval x = v at *
 generalize (opd x).ev st.get = X at *
 generalize hv' : a.eval y = v' at *
 generalize (opd y).ev st.get = Y at *
 by_cases hrk : ∃ i o l c,X = .rk i o l c
 ·obtain ⟨id,off,len,cq,rfl⟩:=hrk
  simp only [aK] at hk
  obtain ⟨en,new,mm,hen,hes,hro,hoff,hmm,hnew,hk⟩:=hk
  obtain ⟨b',cp',rfl⟩:=zoi hr' hmm
  obtain ⟨n,hn⟩ : ∃ n,n = min mm len:=⟨_,rfl⟩
  rw [← hn] at hk hnew
  obtain ⟨ad,cap,us,hvv,hcap,hus,hun,huc⟩:=zdb m.hs (zte hr' hmm (show n ≤ mm by omega)) hnew
  injection hvv with q1 q2 q3
  subst q1 q3
  have hfc : (Builtin.firstCells s n (.slice b' mm cp')).run P w = .ok us.toArray w:=by
   cases b' with
   | none=>rw [run_firstCells_none,hun rfl]
   | some x=>exact run_firstCells_some w _ _ _ _ _ _ (by rw [hus.size,← q2]) (fun j u hj=>huc x rfl j u hj)
  have hr2:=hr.rk_rs
  have hrv : ∃ ad' ,v = .slice ad' len cq:=by cases hr; exact ⟨_,rfl⟩
  obtain ⟨ad',rfl⟩:=hrv
  have hlc : len ≤ cq:=by cases hr; assumption
  have hnm : Nat.min mm len = n:=hn.symm
  refine ⟨_,_,_,hk,zjb m hr2 hen hes hro hoff q2.symm (by omega) hus (val:=.int .i64 n) (.sc _ _ rfl) fun w1 h1=>?_⟩
  cases ad' with
  | none =>
    simp at h1
    subst h1
    simp [execOp,h,resolve,hb,invoke,builtin,Builtin.copy_,hx',ht',hv,hv',zah hu,hsz',Builtin.lenOf,hnm,hfc,goInt]
  | some x =>
    simp only at h1
    simp [execOp,h,resolve,hb,invoke,builtin,Builtin.copy_,hx',ht',hv,hv',zah hu,hsz',Builtin.lenOf,hnm,hfc,goInt,h1]
 cases X <;> (try (simp only [aK] at hk; done)) <;> (try (exact absurd ⟨_,_,_,_,rfl⟩ hrk))
 rename_i id off len
 simp only [aK] at hk
 obtain ⟨en,new,hen,hes,hro,hlen,hnew,hk⟩:=hk
 obtain ⟨ad,cap,us,rfl,hcap,hus,hun,huc⟩:=zdb m.hs hr' hnew
 obtain ⟨n,hn⟩ : ∃ n,n = min new.length len:=⟨_,rfl⟩
 have hn1 : n ≤ new.length:=by omega
 have hn2 : n ≤ len:=by omega
 rw [← hn] at hk
 have htl : (new.take n).length = n:=by simp; omega
 have hnu : RepF T w M s (new.take n) (us.take (n * s)):=by
  have hle : n * s ≤ new.length * s:=Nat.mul_le_mul_right _ hn1
  have hul : (us.take (n * s)).length = n * s:=by rw [List.length_take,hus.size]; omega
  refine ⟨by rw [hul,htl],fun r hr=>hus.wide r (List.mem_of_mem_take hr),fun u hu=>hus.one u (List.mem_of_mem_take hu),fun i j hi hj=>?_⟩
  rw [htl] at hi
  have h1:=zd9 hi hj
  have e1 : (new.take n).getD i [] = new.getD i []:=by simp [List.getD,List.getElem?_take,hi]
  have e2 : (us.take (n * s)).getD (i * s + j) undef = us.getD (i * s + j) undef:=by simp [List.getD,List.getElem?_take,h1]
  rw [e1,e2]
  exact hus.cell i j (by omega) hj
 have hfc : (Builtin.firstCells s n (.slice ad new.length cap)).run P w = .ok (us.take (n * s)).toArray w:=by
  cases ad with
  | none=>rw [run_firstCells_none,hun rfl]; simp
  | some x=>exact run_firstCells_some w _ _ _ _ _ _ (by rw [hnu.size,htl]) (fun j u hj=>huc x rfl j u (by
    rw [List.getElem?_take] at hj
    split at hj
    ·exact hj
    ·cases hj))
 have hnm : Nat.min new.length len = n:=hn.symm
 cases hr with
 | rs _ _ _ _ cap' ad' g hg hz hl hnn hbb =>
   obtain ⟨g',hg',ent⟩:=m.hs.ent id en hen
   obtain rfl:=Option.some.inj (hg.symm.trans hg')
   have run : ∀ w1,(match ad' with | some x=>storeCells x (us.take (n * s)) | none=>pure ()).run P w = .ok () w1 → (execOp a.eval o).run P w = .ok (.value (.int .i64 n)) w1:=by
    intro w1 h1
    cases ad' with
    | none =>
      simp at h1
      subst h1
      simp [execOp,h,resolve,hb,invoke,builtin,Builtin.copy_,hx',ht',hv,hv',zah hu,hsz',Builtin.lenOf,hnm,hfc,goInt]
    | some x =>
      simp only at h1
      simp [execOp,h,resolve,hb,invoke,builtin,Builtin.copy_,hx',ht',hv,hv',zah hu,hsz',Builtin.lenOf,hnm,hfc,goInt,h1]
   have hS : g.s = s:=ent.s.trans hes
   cases hblk : g.blk with
   | none =>
     have hr0:=ent.none hblk
     have hz:=hnn hblk
     have hn0 : n = 0:=by omega
     refine ⟨_,_,_,hk,?_⟩
     have e0 : en.rows.take off ++ new.take n ++ en.rows.drop (off + n) = en.rows:=by rw [hr0,hn0]; simp
     have hnil : us.take (n * s) = []:=by rw [hn0]; simp
     rw [run w (by rw [hnil]; cases ad' <;> rfl),e0]
     have hph : (st.upd [(id,some { en with rows:=en.rows })]).hp = st.hp:=by
      funext j
      rw [St.hp_upd]
      simp only [lkp]
      split
      ·rename_i e; subst e; exact hen.symm
      ·rfl
     rw [hph]
     exact ⟨T,M,m.wider (fun _ h=>.inl h),Pres.refl _ _,fun _ _ h=>h,.sc _ _ rfl⟩
   | some b =>
     obtain ⟨ha,c1,t1,f1,hw1,hfit⟩:=hbb b hblk
     obtain ⟨cells,tyc,hcell,hT,hsz,hcc⟩:=ent.blk (ent.s ▸ hz) b hblk
     rw [hes] at hsz hT
     have hle2 : (off + n) * s ≤ en.rows.length * s:=Nat.mul_le_mul_right _ (by omega)
     have hin : g.base + off * s + (us.take (n * s)).length ≤ cells.size:=by
      rw [hnu.size,htl]
      rw [Nat.add_mul] at hle2
      omega
     obtain ⟨s1,s2⟩:=zqr cells (g.base + off * s) (us.take (n * s)) hin
     have hst:=run_storeCells_at P b (g.base + off * s) tyc (us.take (n * s)) 0 cells w hcell (by simpa using hin) hnu.one
     simp only [Nat.add_zero] at hst
     have hstore : (match ad' with | some x=>storeCells x (us.take (n * s)) | none=>pure ()).run P w = .ok () (w.setRow b (cells.toList.take (g.base + off * s) ++ us.take (n * s) ++ cells.toList.drop (g.base + off * s + (us.take (n * s)).length)).toArray):=by
      rcases ha with ha | ha
      ·have hn0 : n = 0:=by omega
       have hnil : us.take (n * s) = []:=by rw [hn0]; simp
       rw [hnil]
       simp only [List.append_nil,List.length_nil,Nat.add_zero,List.take_append_drop,Array.toArray_toList]
       rw [setRow_self w b cells tyc (0,0) hcell]
       cases ad' <;> rfl
      ·rw [hS] at ha
       subst ha
       exact hst
     have hrun:=run _ hstore
     generalize (cells.toList.take (g.base + off * s) ++ us.take (n * s) ++ cells.toList.drop (g.base + off * s + (us.take (n * s)).length)).toArray = cells' at *
     rw [hnu.size,htl] at s2
     have hlen' : (en.rows.take off ++ new.take n ++ en.rows.drop (off + n)).length = en.rows.length:=by simp; omega
     obtain ⟨M',m1,m2,m3,m4⟩:=m.write (id':=id) (g':=g) (e:={ en with rows:=en.rows.take off ++ new.take n ++ en.rows.drop (off + n) }) (cells':=cells') hen hg hblk hcell s1 (fun q hq=>by
       rw [s2,if_neg]
       have : en.ro * s ≤ off * s:=Nat.mul_le_mul_right _ hro
       omega) (.inl ⟨rfl,rfl⟩) hblk ent.s (ent.s ▸ hz) (by simp only; rw [hlen']; exact ent.ro) (fun r hr=>by
       simp only [List.mem_append] at hr
       rcases hr with (hr | hr) | hr
       ·exact ent.wide (ent.s ▸ hz) r (List.mem_of_mem_take hr)
       ·simp only; rw [hes]; exact hnu.wide r hr
       ·exact ent.wide (ent.s ▸ hz) r (List.mem_of_mem_drop hr)) (by simp only; rw [hes]; exact hT) (by simp only; rw [hlen',hes]; exact hsz) (fun i' j' hi' hj'=>by
       simp only [hlen'] at hi'
       simp only [hes] at hj'
       simp only [hes,s2]
       by_cases hin' : off ≤ i' ∧ i' < off + n
       ·have h1 : (i' - off) * s + j' < n * s:=zd9 (by omega) hj'
        have h2 : i' * s = off * s + (i' - off) * s:=by rw [← Nat.add_mul]; congr 1; omega
        rw [if_pos (by omega)]
        obtain ⟨u,hu,ho,hru⟩:=hnu.cells (i:=i' - off) (j:=j') (by rw [htl]; omega) hj'
        refine ⟨u,by rw [← hu]; congr 1; omega,ho,?_⟩
        have e1 : (en.rows.take off ++ new.take n ++ en.rows.drop (off + n)).getD i' [] = (new.take n).getD (i' - off) []:=by
         simp only [List.getD]
         rw [List.append_assoc,List.getElem?_append_right (by simp; omega),List.getElem?_append_left (by simp; omega)]
         congr 2
         simp
         omega
        rw [e1]
        exact hru
       ·obtain ⟨u,hu,ho,hru⟩:=hcc i' j' hi' (by omega)
        rw [hes] at hu
        have h3 : ¬ (g.base + off * s ≤ g.base + i' * s + j' ∧ g.base + i' * s + j' < g.base + off * s + n * s):=by
         intro q
         apply hin'
         constructor
         ·rcases Nat.lt_or_ge i' off with h | h
          ·have : (i' + 1) * s ≤ off * s:=Nat.mul_le_mul_right _ h
           rw [Nat.add_mul] at this
           omega
          ·exact h
         ·rcases Nat.lt_or_ge i' (off + n) with h | h
          ·exact h
          ·have : (off + n) * s ≤ i' * s:=Nat.mul_le_mul_right _ h
           rw [Nat.add_mul] at this
           omega
        rw [if_neg h3]
        refine ⟨u,hu,ho,?_⟩
        have e1 : (en.rows.take off ++ new.take n ++ en.rows.drop (off + n)).getD i' [] = en.rows.getD i' []:=by
         simp only [List.getD]
         rcases Nat.lt_or_ge i' off with h | h
         ·rw [List.append_assoc,List.getElem?_append_left (by simp; omega),List.getElem?_take,if_pos h]
         ·rw [List.getElem?_append_right (by simp; omega),List.getElem?_drop]
          congr 2
          simp
          omega
        rw [e1]
        exact hru)
      (hp':=(st.upd [(id,some { en with rows:=en.rows.take off ++ new.take n ++ en.rows.drop (off + n) })]).hp) (by rw [St.hp_upd]; simp [lkp]) (fun i' e' hne he'=>by
       rw [St.hp_upd] at he'
       simp only [lkp,if_neg (Ne.symm hne)] at he'
       exact ⟨hne,he'⟩)
     refine ⟨_,_,_,hk,?_⟩
     rw [hrun]
     refine ⟨T,M',m3.wider fun i' hi'=>?_,m4,m2,.sc _ _ rfl⟩
     rcases hi' with hi' | hi'
     ·exact .inl hi'
     ·subst hi'; exact .inl (m.dom _ _ hg)
omit fresh npid in
theorem zyx (o : Oper) (c : Call) (h : o.op = .call c) (hb : c.callee = .builtin .clear) : Goal P np T0 M0 w0 live st T M a w idb o:=by
 intro K hk
 simp only [zaB,h,hb] at hk
 split at hk
 case h_2=>exact False.elim hk
 rename_i t x ht hx
 have hx' : c.args = #[x]:=by rw [← Array.toArray_toList (xs:=c.args),hx]
 have ht' : c.argTypes = #[t]:=by rw [← Array.toArray_toList (xs:=c.argTypes),ht]
 split at hk
 case h_2=>exact False.elim hk
 rename_i e hu
 split at hk
 case h_2=>exact False.elim hk
 rename_i z s hz hs
 obtain ⟨i,zv,hi,hzv,hzl,hzi,hone⟩:=zcH hz
 have his : i.size = s:=by simpa [zce,hi] using hs
 have hr:=zaG tm x
 simp only [List.map] at hk
 generalize hv : a.eval x = v at *
 generalize (opd x).ev st.get = X at *
 have key : ∃ id off len en,Rep T w M (.rs id off len) v ∧ st.hp id = some en ∧ en.s = s ∧ z.length = s ∧ en.ro ≤ off ∧ off + len ≤ en.rows.length ∧ K .dead [id] [(id,some { en with rows:=en.rows.take off ++ List.replicate len (z.map .sc) ++ en.rows.drop (off + len) })]:=by
  cases X <;> (try (simp only [aK] at hk; done))
  ·simp only [aK] at hk
   obtain ⟨en,hk⟩:=hk
   exact ⟨_,_,_,en,hr,hk⟩
  ·simp only [aK] at hk
   obtain ⟨en,hk⟩:=hk
   exact ⟨_,_,_,en,hr.rk_rs,hk⟩
 clear hk hr
 obtain ⟨id,off,len,en,hr,hen,hes,hzs,hro,hlen,hk⟩:=key
 refine ⟨_,_,_,hk,?_⟩
 have hzc : zv.cells.size = s:=by rw [← hzs,← hzl]; simp
 have hrv : ∃ ad' cap',v = .slice ad' len cap' ∧ len ≤ cap':=by cases hr; exact ⟨_,_,rfl,by assumption⟩
 obtain ⟨ad',cap',rfl,hlc⟩:=hrv
 have hnu : RepF T w M s (List.replicate len (z.map .sc)) (Builtin.zeroCells zv.cells len).toList:=by
  have hzz : zv.cells = z.toArray:=by rw [← hzl,Array.toArray_toList]
  have hz1 : Builtin.zeroCells zv.cells len = (Array.range (len * z.toArray.size)).map fun i=>z.toArray[i % z.toArray.size]!:=by rw [Builtin.zeroCells,hzz]
  have hzr:=zie (T:=T) (w:=w) (M:=M) hone hzs len (Builtin.zeroCells zv.cells len) _ hz1 (by simp [hzs])
  refine ⟨by rw [hz1]; simp [hzs],fun r hr=>by rw [List.eq_of_mem_replicate hr]; simpa using hzs,fun u hu=>?_,fun i j hi hj=>?_⟩
  ·rw [hz1] at hu
   simp only [List.mem_map,Array.mem_toList_iff,Array.mem_map,Array.mem_range] at hu
   obtain ⟨q,hq,rfl⟩:=hu
   simp only [List.size_toArray] at hq ⊢
   have hpos : 0 < z.length:=by
    rcases Nat.eq_zero_or_pos z.length with h0 | h0
    ·rw [h0] at hq; simp at hq
    ·exact h0
   have hlt:=Nat.mod_lt q hpos
   have e1 : z.toArray[q % z.length]! = z[q % z.length]:=by simp [hlt]
   rw [e1]
   exact hone _ (List.getElem_mem _)
  ·obtain ⟨u,hu,_,hru⟩:=hzr i j hi hj
   have e1 : (Builtin.zeroCells zv.cells len).toList.getD (i * s + j) undef = u:=by simp [List.getD,hu]
   rw [e1]
   exact hru
 refine zjb m hr hen hes hro (by omega) (by simp) hlc hnu (val:=.tuple #[]) (.dead _ _) fun w1 h1=>?_
 have hzr : (zeroValue e).run P w = .ok zv w:=by simp [zeroValue,typeInfo,hi,hzv]
 have hcl : (Builtin.clear_ #[t] o.type #[.slice ad' len cap']).run P w = .ok (.tuple #[]) w1:=by
  cases ad' with
  | none =>
    simp at h1
    subst h1
    simp [Builtin.clear_,zah hu]
  | some ad =>
    cases len with
    | zero =>
      simp [Builtin.zeroCells,storeCells] at h1
      subst h1
      simp [Builtin.clear_,zah hu]
    | succ l=>simp [Builtin.clear_,zah hu,hzr,h1]
 simp [execOp,h,resolve,hb,invoke,builtin,hx',ht',hv,hcl]
end
theorem zbg (f : AV → AV) (hf : f .dead = .dead) (l : List AV) (i : Nat) : (l.map f).getD i .dead = f (l.getD i .dead):=by
 simp only [List.getD,List.getElem?_map]
 cases l[i]? with
 | none=>simp [hf]
 | some x=>rfl
theorem zcn (ρ : List (Nat × Nat)) (sn : List Nat) (h : Nat → Option Ent) (n : Nat) : conv ρ sn h n .dead = .dead:=by cases n <;> rfl
theorem Wk.rep {T : Nat → Nat} {w : World} {x y : AV} (h : Wk x y) : ∀ {M : GM} {v : Value},Rep T w M x v → Rep T w M y v:=by
 induction h with
 | refl x=>exact fun h=>h
 | dead x=>exact fun _=>.dead _ _
 | nil s f =>
   intro M v hr
   cases hr
   exact .vs _ s f [] none 0 (fun _ _=>undef) (fun _=>rfl) (Nat.le_refl _) (by simp) (fun h=>absurd rfl h) (fun i j hi=>absurd hi (by simp)) (fun i j hi=>absurd hi (by simp))
 | mt s c a =>
   intro M v hr
   cases hr
   exact .vs _ s false [] a c (fun _ _=>undef) (fun e=>by cases e) (Nat.zero_le _) (by simp) (fun h=>absurd rfl h) (fun i j hi=>absurd hi (by simp)) (fun i j hi=>absurd hi (by simp))
 | full s rows =>
   intro M v hr
   cases hr with
   | vs _ _ _ _ a cap c hf hle hw hb h1 hh=>exact .vs _ _ _ _ a cap c (fun e=>by cases e) hle hw hb h1 hh
 | rows s f xs ys hl hw _ ih =>
   intro M v hr
   cases hr with
   | vs _ _ _ _ a cap c hf hle hwd hb h1 hh =>
     have hy : ∀ row ∈ ys,row.length = s:=fun row hrow=>by
      obtain ⟨i,hi,rfl⟩:=List.mem_iff_getElem.1 hrow
      have e1 : xs.getD i [] = xs[i]'(by omega):=by simp [List.getD,show i < xs.length by omega]
      have e2 : ys.getD i [] = ys[i]:=by simp [List.getD,hi]
      have:=hw i
      rw [e1,e2] at this
      rw [← this]
      exact hwd _ (List.getElem_mem _)
     refine hl ▸ .vs _ s f ys a cap c (fun e=>(hf e).trans hl) (hl ▸ hle) hy (fun hne=>?_) (fun i j hi hj=>h1 i j (by omega) hj) fun i j hi hj=>ih i j (hh i j (by omega) hj)
     have hne' : xs ≠ []:=fun e=>hne (List.eq_nil_of_length_eq_zero (by rw [← hl,e]; rfl))
     obtain ⟨b,off,cells,ty,fz,q1,q2,q3,q4⟩:=hb hne'
     exact ⟨b,off,cells,ty,fz,q1,q2,by rw [← hl]; exact q3,fun i j hi hj=>q4 i j (by omega) hj⟩
 | pv xs ys hl _ ih =>
   intro M v hr
   cases hr with
   | pv _ _ b off cells ty fz c hb ht hc h1 hh=>exact .pv _ ys b off cells ty fz c hb (hl ▸ ht) (fun j hj=>hc j (by omega)) (fun j hj=>h1 j (by omega)) fun j hj=>ih j (hh j (by omega))
 | agg xs ys hl _ ih =>
   intro M v hr
   cases hr with
   | agg _ _ us hus h1 hh=>exact .agg _ _ _ (hus.trans hl) (fun i hi=>h1 i (hl ▸ hi)) fun i hi=>ih i (hh i (hl ▸ hi))
 | tup xs ys hl _ ih =>
   intro M v hr
   cases hr with
   | tup _ _ us hus hh=>exact .tup _ _ _ (hus.trans hl) fun i hi=>ih i (hh i (hl ▸ hi))
theorem WkL.length : ∀ {xs ys : List AV},WkL xs ys → xs.length = ys.length
 | [],[],_=>rfl
 | _ :: _,_ :: _,h=>by simp [WkL.length h.2]
 | [],_ :: _,h=>False.elim h
 | _ :: _,[],h=>False.elim h
theorem WkL.get : ∀ {xs ys : List AV},WkL xs ys → ∀ i : Nat,i < xs.length → Wk (xs.getD i .dead) (ys.getD i .dead)
 | x :: xs,y :: ys,h,0,_=>h.1
 | x :: xs,y :: ys,h,i + 1,hi=>by simpa using WkL.get h.2 i (by simpa using hi)
 | [],[],_,i,hi=>absurd hi (by simp)
 | [],_ :: _,h,_,_=>False.elim h
 | _ :: _,[],h,_,_=>False.elim h
theorem zmW {T : Nat → Nat} {w : World} {M : GM} {hp : Nat → Option Ent} (hs : HsOk T w M hp) (tok : TOk T w) (sn : List Nat) :
  ∃ T1 : Nat → Nat,(∀ b,T b ≤ T1 b) ∧ TOk T1 w ∧ (∀ i ∈ sn,∀ e g b,hp i = some e → M i = some g → g.blk = some b → T1 b = g.base + e.rows.length * e.s) ∧
    (∀ b,(∀ i ∈ sn,∀ e g,hp i = some e → M i = some g → g.blk ≠ some b) → T1 b = T b):=by
 classical
 let p : Nat → Nat × Ent × GE → Prop:=fun b x=>x.1 ∈ sn ∧ hp x.1 = some x.2.1 ∧ M x.1 = some x.2.2 ∧ x.2.2.blk = some b
 let T1 : Nat → Nat:=fun b=>if h : ∃ x,p b x then (Classical.choose h).2.2.base + (Classical.choose h).2.1.rows.length * (Classical.choose h).2.1.s else T b
 have key : ∀ b x,p b x → T1 b = x.2.2.base + x.2.1.rows.length * x.2.1.s:=by
  intro b x hx
  have hex : ∃ x,p b x:=⟨x,hx⟩
  have hc:=Classical.choose_spec hex
  have h1 : T1 b = (Classical.choose hex).2.2.base + (Classical.choose hex).2.1.rows.length * (Classical.choose hex).2.1.s:=dif_pos hex
  rw [h1]
  have e1:=hs.inj _ _ _ _ _ _ b hc.2.1 hx.2.1 hc.2.2.1 hx.2.2.1 hc.2.2.2 hx.2.2.2
  have e2 : (Classical.choose hex).2.1 = x.2.1:=Option.some.inj (hc.2.1.symm.trans (by rw [e1]; exact hx.2.1))
  have e3 : (Classical.choose hex).2.2 = x.2.2:=Option.some.inj (hc.2.2.1.symm.trans (by rw [e1]; exact hx.2.2.1))
  rw [e2,e3]
 refine ⟨T1,fun b=>?_,fun b hb=>?_,fun i hi e g b h1 h2 h3=>key b (i,e,g) ⟨hi,h1,h2,h3⟩,fun b hb=>?_⟩
 ·by_cases h : ∃ x,p b x
  ·obtain ⟨x,hx⟩:=h
   rw [key b x hx]
   obtain ⟨g,hg,ent⟩:=hs.ent _ _ hx.2.1
   obtain rfl:=Option.some.inj (hx.2.2.1.symm.trans hg)
   by_cases hz : x.2.1.s = 0
   ·obtain ⟨b',es,clock,hbb,h1,h2,h5,h4⟩:=ent.mp hz
    obtain rfl:=Option.some.inj (hbb.symm.trans hx.2.2.2)
    omega
   obtain ⟨cells,ty,h1,h2,h3,h4⟩:=ent.blk hz b hx.2.2.2
   have:=Nat.mul_le_mul_right x.2.1.s ent.ro
   omega
  ·have : T1 b = T b:=dif_neg h
   omega
 ·by_cases h : ∃ x,p b x
  ·obtain ⟨x,hx⟩:=h
   rw [key b x hx]
   obtain ⟨g,hg,ent⟩:=hs.ent _ _ hx.2.1
   obtain rfl:=Option.some.inj (hx.2.2.1.symm.trans hg)
   by_cases hz : x.2.1.s = 0
   ·obtain ⟨b',es,clock,hbb,h1,h2,h5,h4⟩:=ent.mp hz
    rw [key b x hx,hz,h5] at hb
    omega
   obtain ⟨cells,ty,h1,h2,h3,h4⟩:=ent.blk hz b hx.2.2.2
   exact ⟨cells,ty,_,h1,h3⟩
  ·have e : T1 b = T b:=dif_neg h
   rw [e] at hb ⊢
   exact tok b hb
 ·refine dif_neg ?_
  rintro ⟨x,hx⟩
  exact hb x.1 hx.1 x.2.1 x.2.2 hx.2.1 hx.2.2.1 hx.2.2.2
theorem zik {T T1 : Nat → Nat} {w : World} {M : GM} {hp : Nat → Option Ent} (hs : HsOk T w M hp) (sn : List Nat) (hle : ∀ b,T b ≤ T1 b)
  (hsn : ∀ i ∈ sn,∀ e g b,hp i = some e → M i = some g → g.blk = some b → T1 b = g.base + e.rows.length * e.s) :
  ∀ (n : Nat) (ρ : List (Nat × Nat)) (Mc : GM) (x : AV) (v : Value),(∀ id k,lkp ρ id = some k → Mc k = M id) → Rep T w M x v → Rep T1 w Mc (conv ρ sn hp n x) v
 | 0,_,_,_,_,_,_=>.dead _ _
 | n + 1,ρ,Mc,x,v,hρ,hr=>by
   have ih:=zik hs sn hle hsn n
   have pr : Pres T w T1 w:=⟨hle,fun b cells ty fz h=>⟨cells,fz,h,rfl,fun _ _=>rfl⟩⟩
   have inner:=fun (y : AV) (u : Value) (h : Rep T w M y u)=>ih [] (fun _=>none) y u (fun id k h=>by cases h) h
   cases hr with
   | dead=>exact .dead _ _
   | sc _ _ h1=>exact .sc _ _ h1
   | agg _ cs us hl h1 hh =>
     refine .agg _ _ _ (by simpa using hl) (fun i hi=>h1 i (by simpa using hi)) fun i hi=>?_
     rw [zbg _ (zcn _ _ _ _)]
     exact ih ρ Mc _ _ hρ (hh i (by simpa using hi))
   | tup _ cs us hl hh =>
     refine .tup _ _ _ (by simpa using hl) fun i hi=>?_
     rw [zbg _ (zcn _ _ _ _)]
     exact ih ρ Mc _ _ hρ (hh i (by simpa using hi))
   | vs _ s full rows a cap c hf hl hw hb h1 hh =>
     refine .vs _ s full rows a cap c hf hl hw (fun hne=>?_) h1 fun i j hi hj=>(hh i j hi hj).mono pr fun _ _ e=>e
     obtain ⟨b,off,cells,ty,fz,ha,hw1,hT,hc⟩:=hb hne
     exact ⟨b,off,cells,ty,fz,ha,hw1,Nat.le_trans hT (hle b),hc⟩
   | pv _ cs b off cells ty fz c hb ht hc h1 hh=>exact .pv _ cs b off cells ty fz c hb (Nat.le_trans ht (hle b)) hc h1 fun j hj=>(hh j hj).mono pr fun _ _ e=>e
   | fn _ f xs ys us vs hx hy hh hh' =>
     refine .fn _ f _ _ _ _ (by simpa using hx) (by simpa using hy) (fun i hi=>?_) fun i hi=>?_
     ·rw [zbg _ (zcn _ _ _ _)]
      exact ih ρ Mc _ _ hρ (hh i (by simpa using hi))
     ·rw [zbg _ (zcn _ _ _ _)]
      exact ih ρ Mc _ _ hρ (hh' i (by simpa using hi))
   | ifc _ t x v hh=>exact .ifc _ _ _ _ (ih ρ Mc _ _ hρ hh)
   | mp _ id g b hg hz hb =>
     show Rep T1 w Mc (match lkp ρ id with | some k=>AV.mp k | none=>AV.dead) _
     split
     ·rename_i k hk
      exact .mp _ k g b ((hρ id k hk).trans hg) hz hb
     ·exact .dead _ _
   | pt _ id i j g b hg hz hb =>
     show Rep T1 w Mc (match lkp ρ id with | some k=>AV.pt k i j | none=>if id ∈ sn then (match hp id with | some e=>(match e.rows[i]? with | some row=>if j ≤ row.length then AV.pv ((row.drop j).map (conv [] sn hp n)) else AV.dead | none=>AV.dead) | none=>AV.dead) else AV.dead) _
     split
     ·rename_i k hk
      exact .pt _ k i j g b ((hρ id k hk).trans hg) hz hb
     ·split
      case isFalse=>exact .dead _ _
      rename_i hin
      split
      case h_2=>exact .dead _ _
      rename_i e he
      split
      case h_2=>exact .dead _ _
      rename_i row hrow
      split
      case isFalse=>exact .dead _ _
      rename_i hjr
      obtain ⟨g',hg',ent⟩:=hs.ent id e he
      obtain rfl:=Option.some.inj (hg.symm.trans hg')
      obtain ⟨cells,ty,h1,h2,h3,h4⟩:=ent.blk (ent.s ▸ hz) b hb
      have hi : i < e.rows.length:=(List.getElem?_eq_some_iff.1 hrow).1
      have hwid:=ent.wide (ent.s ▸ hz) row (List.mem_of_getElem? hrow)
      have hrd : e.rows.getD i [] = row:=by simp [List.getD,hrow]
      have hS:=ent.s
      have hcell : ∀ j',j' < ((row.drop j).map (conv [] sn hp n)).length → ∃ u,cells[g.base + i * g.s + j + j']? = some u ∧ u.oneCell' = true ∧ Rep T w M (row.getD (j + j') .dead) u:=by
       intro j' hj'
       simp only [List.length_map,List.length_drop] at hj'
       obtain ⟨u,hu,ho,hru⟩:=h4 i (j + j') hi (by omega)
       rw [hrd] at hru
       exact ⟨u,by rw [hS,Nat.add_assoc]; exact hu,ho,hru⟩
      have hget : ∀ j',j' < ((row.drop j).map (conv [] sn hp n)).length → cells[g.base + i * g.s + j + j']? = some (cells.getD (g.base + i * g.s + j + j') undef):=fun j' hj'=>by
       obtain ⟨u,hu,_⟩:=hcell j' hj'
       rw [zaL hu]; exact hu
      refine .pv _ _ b (g.base + i * g.s + j) cells ty (0,0) (fun j'=>cells.getD (g.base + i * g.s + j + j') undef) h1 ?_ hget (fun j' hj'=>?_) fun j' hj'=>?_
      ·rw [hsn id hin e g b he hg hb]
       simp only [List.length_map,List.length_drop]
       have : (i + 1) * e.s ≤ e.rows.length * e.s:=Nat.mul_le_mul_right _ hi
       rw [Nat.add_mul] at this
       rw [hS]
       omega
      ·obtain ⟨u,hu,ho,_⟩:=hcell j' hj'
       rw [zaL hu]; exact ho
      ·obtain ⟨u,hu,_,hru⟩:=hcell j' hj'
       rw [zaL hu,zbg _ (zcn _ _ _ _)]
       have : (row.drop j).getD j' .dead = row.getD (j + j') .dead:=by simp [List.getD]
       rw [this]
       exact inner _ _ hru
   | rs _ id off len cap a g hg hz hl hn hb =>
     show Rep T1 w Mc (match lkp ρ id with | some k=>AV.rs k off len | none=>if id ∈ sn then (match hp id with | some e=>if off + len ≤ e.rows.length then AV.vs e.s false (((e.rows.drop off).take len).map (·.map (conv [] sn hp n))) else AV.dead | none=>AV.dead) else AV.dead) _
     split
     ·rename_i k hk
      exact .rs _ k off len cap a g ((hρ id k hk).trans hg) hz hl hn hb
     ·split
      case isFalse=>exact .dead _ _
      rename_i hin
      split
      case h_2=>exact .dead _ _
      rename_i e he
      split
      case isFalse=>exact .dead _ _
      rename_i hfit
      obtain ⟨g',hg',ent⟩:=hs.ent id e he
      obtain rfl:=Option.some.inj (hg.symm.trans hg')
      have hlen : (((e.rows.drop off).take len).map (·.map (conv [] sn hp n))).length = len:=by simp; omega
      have hS:=ent.s
      have hrow : ∀ i,i < len → (((e.rows.drop off).take len).map (·.map (conv [] sn hp n))).getD i [] = (e.rows.getD (off + i) []).map (conv [] sn hp n):=by
       intro i hi
       simp only [List.getD,List.getElem?_map,List.getElem?_take,List.getElem?_drop,if_pos hi]
       cases e.rows[off + i]? <;> rfl
      suffices hS : Rep T1 w Mc (.vs e.s false (((e.rows.drop off).take len).map (·.map (conv [] sn hp n)))) (.slice a (((e.rows.drop off).take len).map (·.map (conv [] sn hp n))).length cap) by
       rwa [hlen] at hS
      cases hblk : g.blk with
      | none =>
        have hz:=hn hblk
        refine .vs _ _ _ _ a cap (fun _ _=>undef) (fun e=>by cases e) (by rw [hlen]; exact hl) (fun r hr=>?_) (fun hne=>?_) (fun i j hi=>?_) (fun i j hi=>?_)
        ·have : len = 0:=by omega
         subst this
         simp at hr
        ·have : len = 0:=by omega
         subst this
         simp at hne
        all_goals (rw [hlen] at hi; omega)
      | some b =>
        obtain ⟨ha,c1,t1,f1,hw1,hfit2⟩:=hb b hblk
        obtain ⟨cells,ty,h1,h2,h3,h4⟩:=ent.blk (ent.s ▸ hz) b hblk
        have hcell : ∀ i j,i < len → j < e.s → ∃ u,cells[g.base + off * g.s + i * e.s + j]? = some u ∧ u.oneCell' = true ∧ Rep T w M ((e.rows.getD (off + i) []).getD j .dead) u:=by
         intro i j hi hj
         obtain ⟨u,hu,ho,hru⟩:=h4 (off + i) j (by omega) hj
         refine ⟨u,?_,ho,hru⟩
         rw [← hu,hS,Nat.add_mul]
         congr 1
         omega
        refine .vs _ _ _ _ a cap (fun i j=>cells.getD (g.base + off * g.s + i * e.s + j) undef) (fun e=>by cases e) (by rw [hlen]; exact hl) (fun r hr=>?_) (fun hne=>?_) (fun i j hi hj=>?_) (fun i j hi hj=>?_)
        ·obtain ⟨r0,hr0,rfl⟩:=List.mem_map.1 hr
         rw [List.length_map]
         exact ent.wide (ent.s ▸ hz) r0 (List.mem_of_mem_drop (List.mem_of_mem_take hr0))
        ·have hpos : 0 < len:=by rw [← hlen]; exact List.length_pos_iff.2 hne
         refine ⟨b,g.base + off * g.s,cells,ty,(0,0),?_,h1,?_,fun i j hi hj=>?_⟩
         ·rcases ha with ha | ha
          ·omega
          ·exact ha
         ·rw [hlen,hsn id hin e g b he hg hblk,hS]
          have : (off + len) * e.s ≤ e.rows.length * e.s:=Nat.mul_le_mul_right _ hfit
          rw [Nat.add_mul] at this
          omega
         ·rw [hlen] at hi
          obtain ⟨u,hu,_⟩:=hcell i j hi hj
          rw [zaL hu]; exact hu
        ·rw [hlen] at hi
         obtain ⟨u,hu,ho,_⟩:=hcell i j hi hj
         rw [zaL hu]; exact ho
        ·rw [hlen] at hi
         obtain ⟨u,hu,_,hru⟩:=hcell i j hi hj
         rw [zaL hu,hrow i hi,zbg _ (zcn _ _ _ _)]
         exact inner _ _ hru
   | rk _ id off len cap a g hg hz hl hn hb =>
     show Rep T1 w Mc (match lkp ρ id with | some k=>AV.rs k off len | none=>if id ∈ sn then (match hp id with | some e=>if off + len ≤ e.rows.length then AV.vs e.s false (((e.rows.drop off).take len).map (·.map (conv [] sn hp n))) else AV.dead | none=>AV.dead) else AV.dead) _
     split
     ·rename_i k hk
      exact .rs _ k off len cap a g ((hρ id k hk).trans hg) hz hl hn hb
     ·split
      case isFalse=>exact .dead _ _
      rename_i hin
      split
      case h_2=>exact .dead _ _
      rename_i e he
      split
      case isFalse=>exact .dead _ _
      rename_i hfit
      obtain ⟨g',hg',ent⟩:=hs.ent id e he
      obtain rfl:=Option.some.inj (hg.symm.trans hg')
      have hlen : (((e.rows.drop off).take len).map (·.map (conv [] sn hp n))).length = len:=by simp; omega
      have hS:=ent.s
      have hrow : ∀ i,i < len → (((e.rows.drop off).take len).map (·.map (conv [] sn hp n))).getD i [] = (e.rows.getD (off + i) []).map (conv [] sn hp n):=by
       intro i hi
       simp only [List.getD,List.getElem?_map,List.getElem?_take,List.getElem?_drop,if_pos hi]
       cases e.rows[off + i]? <;> rfl
      suffices hS : Rep T1 w Mc (.vs e.s false (((e.rows.drop off).take len).map (·.map (conv [] sn hp n)))) (.slice a (((e.rows.drop off).take len).map (·.map (conv [] sn hp n))).length cap) by
       rwa [hlen] at hS
      cases hblk : g.blk with
      | none =>
        have hz:=hn hblk
        refine .vs _ _ _ _ a cap (fun _ _=>undef) (fun e=>by cases e) (by rw [hlen]; exact hl) (fun r hr=>?_) (fun hne=>?_) (fun i j hi=>?_) (fun i j hi=>?_)
        ·have : len = 0:=by omega
         subst this
         simp at hr
        ·have : len = 0:=by omega
         subst this
         simp at hne
        all_goals (rw [hlen] at hi; omega)
      | some b =>
        obtain ⟨ha,c1,t1,f1,hw1,hfit2⟩:=hb b hblk
        obtain ⟨cells,ty,h1,h2,h3,h4⟩:=ent.blk (ent.s ▸ hz) b hblk
        have hcell : ∀ i j,i < len → j < e.s → ∃ u,cells[g.base + off * g.s + i * e.s + j]? = some u ∧ u.oneCell' = true ∧ Rep T w M ((e.rows.getD (off + i) []).getD j .dead) u:=by
         intro i j hi hj
         obtain ⟨u,hu,ho,hru⟩:=h4 (off + i) j (by omega) hj
         refine ⟨u,?_,ho,hru⟩
         rw [← hu,hS,Nat.add_mul]
         congr 1
         omega
        refine .vs _ _ _ _ a cap (fun i j=>cells.getD (g.base + off * g.s + i * e.s + j) undef) (fun e=>by cases e) (by rw [hlen]; exact hl) (fun r hr=>?_) (fun hne=>?_) (fun i j hi hj=>?_) (fun i j hi hj=>?_)
        ·obtain ⟨r0,hr0,rfl⟩:=List.mem_map.1 hr
         rw [List.length_map]
         exact ent.wide (ent.s ▸ hz) r0 (List.mem_of_mem_drop (List.mem_of_mem_take hr0))
        ·have hpos : 0 < len:=by rw [← hlen]; exact List.length_pos_iff.2 hne
         refine ⟨b,g.base + off * g.s,cells,ty,(0,0),?_,h1,?_,fun i j hi hj=>?_⟩
         ·rcases ha with ha | ha
          ·omega
          ·exact ha
         ·rw [hlen,hsn id hin e g b he hg hblk,hS]
          have : (off + len) * e.s ≤ e.rows.length * e.s:=Nat.mul_le_mul_right _ hfit
          rw [Nat.add_mul] at this
          omega
         ·rw [hlen] at hi
          obtain ⟨u,hu,_⟩:=hcell i j hi hj
          rw [zaL hu]; exact hu
        ·rw [hlen] at hi
         obtain ⟨u,hu,ho,_⟩:=hcell i j hi hj
         rw [zaL hu]; exact ho
        ·rw [hlen] at hi
         obtain ⟨u,hu,_,hru⟩:=hcell i j hi hj
         rw [zaL hu,hrow i hi,zbg _ (zcn _ _ _ _)]
         exact inner _ _ hru
theorem zbK {α : Type} : ∀ {l : List (Nat × α)} {i : Nat} {a : α},lkp l i = some a → (i,a) ∈ l
 | (j,b) :: l,i,a,h=>by
   simp only [lkp] at h
   split at h
   ·rename_i e; subst e; cases h; exact List.mem_cons_self
   ·exact List.mem_cons_of_mem _ (zbK h)
theorem zh7 {α : Type} : ∀ {l : List (Nat × α)} {i : Nat},lkp l i = none → ∀ a,(i,a) ∉ l
 | [],_,_,_=>by simp
 | (j,b) :: l,i,h,a=>by
   simp only [lkp] at h
   split at h
   ·cases h
   ·rename_i e
    intro hm
    rcases List.mem_cons.1 hm with h1 | h1
    ·cases h1; exact e rfl
    ·exact zh7 h a h1
theorem zrO {l : List Nat} {id k : Nat} (h : lkp l.zipIdx id = some k) : l[k]? = some id:=by
 have:=zbK h
 rw [List.mem_zipIdx_iff_getElem?] at this
 exact this
theorem zu4 {l : List Nat} {k id : Nat} (h : lkp (l.zipIdx.map fun (a,b)=>(b,a)) k = some id) : l[k]? = some id:=by
 have:=zbK h
 simp only [List.mem_map,Prod.mk.injEq] at this
 obtain ⟨⟨a,b⟩,h1,rfl,rfl⟩:=this
 rw [List.mem_zipIdx_iff_getElem?] at h1
 exact h1
section
variable {P : Program} {np : Nat} {T0 : Nat → Nat} {M0 : GM} {w0 : World} {live : Nat → Prop} {st : St} {T : Nat → Nat} {M : GM} {a : Act} {w : World} {idb : Nat}
variable (tm : ∀ i,Rep T w M (st.get i) (a.tmps.getD i undef)) (m : Mem np T0 M0 w0 live st.hp T M w) (fresh : ∀ k,k < 8 → ¬ live (idb + k)) (npid : np ≤ idb)
include tm m fresh npid
theorem zou (o : Oper) (fid : FuncId) (xs : List AV) (vals : Array Value)
  (henter : (∃ fn c,P.funcs[fid]? = some fn ∧ fn.body = some c ∧ fn.name ≠ "runtime.NumGoroutine") → (execOp a.eval o).run P w = .ok (.enter fid vals) w) (hargs : RepL T w M xs vals)
  {K : AV → List Nat → List (Nat × Option Ent) → Prop} {ids sn : List Nat} {raise : Bool} {args' : List AV} {hs : List Ent} {res : AV} {hs' : List (Option Ent)}
  (hnod : ids.Nodup) (hsi : ∀ i ∈ sn,i ∉ ids) (hrn : raise = true → ∀ i ∈ sn,np ≤ i) (hwk : WkL (xs.map (conv ids.zipIdx sn st.hp 4)) args') (hids : ids.map (fun i=>(st.hp i).map (zaw ids.zipIdx sn st.hp 4)) = hs.map some)
  (hcall : zao P fid args' hs res hs') (hlen8 : hs'.length ≤ hs.length + 8) (hpl : raise = true ∨ (Plain res ∧ ∀ e,some e ∈ hs' → zgS e))
  (hk : K (conv ((ids ++ (List.range 8).map (idb + ·)).zipIdx.map fun (a,b)=>(b,a)) [] (fun _=>none) 4 res) (ids ++ sn)
        ((hs'.zipIdx.map fun (e,k)=>((ids ++ (List.range 8).map (idb + ·)).getD k 0,e.map (zaw ((ids ++ (List.range 8).map (idb + ·)).zipIdx.map fun (a,b)=>(b,a)) [] (fun _=>none) 4))) ++
         (if raise then sn.filterMap (fun i=>(st.hp i).map fun e=>(i,some { e with ro:=e.rows.length })) else []))) :
  ∃ v rd up,K v rd up ∧ Eff P np T0 M0 w0 live idb (st.upd up).hp T M w v ((execOp a.eval o).run P w):=by
 obtain ⟨hfc,hlen,hcall⟩:=hcall
 have henter:=henter hfc
 have hidl : ids.length = hs.length:=by
  have:=congrArg List.length hids
  simpa using this
 have hent : ∀ (k i : Nat),ids[k]? = some i → ∃ e,st.hp i = some e ∧ hs[k]? = some (zaw ids.zipIdx sn st.hp 4 e):=by
  intro k i hki
  have h1:=congrArg (·[k]?) hids
  simp only [List.getElem?_map,hki,Option.map_some] at h1
  cases hq : hs[k]? with
  | none=>rw [hq] at h1; simp at h1
  | some e' =>
    rw [hq] at h1
    simp only [Option.map_some,Option.some.injEq] at h1
    cases hp : st.hp i with
    | none=>rw [hp] at h1; simp at h1
    | some e =>
      rw [hp] at h1
      simp only [Option.map_some,Option.some.injEq] at h1
      exact ⟨e,rfl,by rw [h1]⟩
 obtain ⟨T1,hT1,htok1,hsnap,hsame⟩:=zmW m.hs m.after.tok sn
 let Mc : GM:=fun k=>match ids[k]? with | some i=>M i | none=>none
 have hMc : ∀ (k i : Nat),ids[k]? = some i → Mc k = M i:=fun k i hki=>by show (match ids[k]? with | some i=>M i | none=>none) = _; rw [hki]
 have hMcn : ∀ k,hs.length ≤ k → Mc k = none:=fun k hk=>by
  show (match ids[k]? with | some i=>M i | none=>none) = none
  rw [List.getElem?_eq_none (by omega)]
 have hcompat : ∀ id k,lkp ids.zipIdx id = some k → Mc k = M id:=fun id k hl=>hMc k id (zrO hl)
 have hcv:=fun x v hr=>zik (Mc:=Mc) (x:=x) (v:=v) m.hs sn hT1 hsnap 4 ids.zipIdx hcompat hr
 have nodupI : ∀ (k k' i : Nat),ids[k]? = some i → ids[k']? = some i → k = k':=by
  intro k k' i h1 h2
  have hlt : k < ids.length:=(List.getElem?_eq_some_iff.1 h1).1
  exact (List.getElem?_inj hlt hnod).1 (h1.trans h2.symm)
 have hpassT : ∀ (k i : Nat) e g b,ids[k]? = some i → st.hp i = some e → M i = some g → g.blk = some b → T1 b = T b:=by
  intro k i e g b h1 h2 h3 h4
  refine hsame b fun i' hi' e' g' h5 h6 h7=>?_
  have:=m.hs.inj i i' e e' g g' b h2 h5 h3 h6 h4 h7
  subst this
  exact hsi i hi' (List.mem_of_getElem? h1)
 have hhs : HsOk T1 w Mc (hpOf hs):=by
  refine ⟨fun k e' hk'=>?_,fun k k' e1 e2 g g' b h1 h2 h3 h4 h5 h6=>?_⟩
  ·have hlt : k < ids.length:=by rw [hidl]; exact (List.getElem?_eq_some_iff.1 hk').1
   have hki : ids[k]? = some ids[k]:=List.getElem?_eq_getElem hlt
   obtain ⟨e,he,heq⟩:=hent k _ hki
   obtain rfl:=Option.some.inj (hk'.symm.trans heq)
   obtain ⟨g,hg,ent⟩:=m.hs.ent _ e he
   refine ⟨g,(hMc k _ hki).trans hg,ent.s,by simpa [zaw] using ent.ro,fun hz r hr=>?_,fun hn=>by simp [zaw,ent.none hn],fun hz=>?_,fun hz b hbk=>?_⟩
   ·simp only [zaw,List.mem_map] at hr
    obtain ⟨r0,hr0,rfl⟩:=hr
    rw [List.length_map]
    exact ent.wide hz r0 hr0
   ·obtain ⟨b,es,clock,hbb,q1,q2,q3,q4⟩:=ent.mp hz
    exact ⟨b,es,clock,hbb,q1,by rw [hpassT k _ e g b hki he hg hbb]; exact q2,q3,q4.map (fun _=>rfl) fun row _ x _ v hr=>hcv x v hr⟩
   ·obtain ⟨cells,ty,h1,h2,h3,h4⟩:=ent.blk hz b hbk
    refine ⟨cells,ty,h1,by rw [hpassT k _ e g b hki he hg hbk]; exact h2,by simpa [zaw] using h3,fun i j hi hj=>?_⟩
    simp only [zaw,List.length_map] at hi hj ⊢
    obtain ⟨u,hu,ho,hru⟩:=h4 i j hi hj
    refine ⟨u,hu,ho,?_⟩
    have e1 : (e.rows.map (·.map (conv ids.zipIdx sn st.hp 4))).getD i [] = (e.rows.getD i []).map (conv ids.zipIdx sn st.hp 4):=by
     simp only [List.getD,List.getElem?_map]
     cases e.rows[i]? <;> rfl
    rw [e1,zbg _ (zcn _ _ _ _)]
    exact hcv _ _ hru
  ·have hlt : k < ids.length:=by rw [hidl]; exact (List.getElem?_eq_some_iff.1 h1).1
   have hlt' : k' < ids.length:=by rw [hidl]; exact (List.getElem?_eq_some_iff.1 h2).1
   have hki : ids[k]? = some ids[k]:=List.getElem?_eq_getElem hlt
   have hki' : ids[k']? = some ids[k']:=List.getElem?_eq_getElem hlt'
   obtain ⟨ea,hea,_⟩:=hent k _ hki
   obtain ⟨eb,heb,_⟩:=hent k' _ hki'
   have:=m.hs.inj _ _ ea eb g g' b hea heb ((hMc k _ hki).symm.trans h3) ((hMc k' _ hki').symm.trans h4) h5 h6
   exact nodupI k k' _ hki (by rw [hki',this])
 have hrep : RepL T1 w Mc args' vals:=by
  have hl:=hwk.length
  simp only [List.length_map] at hl
  refine ⟨hargs.1.trans hl,fun i hi=>?_⟩
  have h1:=hwk.get i (by rw [List.length_map,hl]; exact hi)
  rw [zbg _ (zcn _ _ _ _)] at h1
  exact h1.rep (hcv _ _ (hargs.2 i (hl ▸ hi)))
 have hcalls:=hcall T1 Mc w _ htok1 hhs hMcn hrep
 refine ⟨_,_,_,hk,?_⟩
 rw [henter]
 refine ⟨rfl,hcalls.mono ?_⟩
 rintro e w' ⟨v,T',M',rfl,hres,hhs',haf⟩
 let T2 : Nat → Nat:=fun b=>if raise then T' b else if b < w.heap.size then T b else T' b
 let M2 : GM:=fun i=>if idb ≤ i ∧ i < idb + 8 then M' (hs.length + (i - idb)) else M i
 have hMlive : ∀ i g,M i = some g → ¬ (idb ≤ i ∧ i < idb + 8):=fun i g hg hc=>fresh (i - idb) (by omega) (by rw [show idb + (i - idb) = i by omega]; exact m.dom i g hg)
 have hM2 : ∀ i g,M i = some g → M2 i = some g:=fun i g hg=>by
  show (if _ then _ else _) = _
  rw [if_neg (hMlive i g hg)]; exact hg
 have hT'old : ∀ b,b < w.heap.size → ¬ Pas hs.length Mc b → T' b = T1 b:=haf.old
 have hT'ge : ∀ b,T b ≤ T' b:=fun b=>Nat.le_trans (hT1 b) (haf.pres.le b)
 have hpas : ∀ i e g b,(∀ k : Nat,ids[k]? ≠ some i) → st.hp i = some e → M i = some g → g.blk = some b → ¬ Pas hs.length Mc b:=by
  rintro i e g b h1 h2 h3 h4 ⟨k,gk,hk1,hk2,hk3⟩
  have hlt : k < ids.length:=by omega
  have hki : ids[k]? = some ids[k]:=List.getElem?_eq_getElem hlt
  obtain ⟨ek,hek,_⟩:=hent k _ hki
  rw [hMc k _ hki] at hk2
  have:=m.hs.inj i _ e ek g gk b h2 hek h3 hk2 h4 hk3
  exact h1 k (by rw [hki,this])
 have hTzero : ∀ b,w.heap.size ≤ b → T b = 0:=fun b hb=>m.T_zero hb
 have hT2 : ∀ b,T b ≤ T2 b:=by
  intro b
  show T b ≤ if raise then T' b else if b < w.heap.size then T b else T' b
  split
  ·exact hT'ge b
  ·split
   ·exact Nat.le_refl _
   ·rw [hTzero b (by omega)]; exact Nat.zero_le _
 have hT2' : ∀ b,T2 b ≤ T' b:=by
  intro b
  show (if raise then T' b else if b < w.heap.size then T b else T' b) ≤ T' b
  split
  ·exact Nat.le_refl _
  ·split
   ·exact hT'ge b
   ·exact Nat.le_refl _
 have hTnew : ∀ b,w.heap.size ≤ b → T2 b = T' b:=by
  intro b hb
  show (if raise then T' b else if b < w.heap.size then T b else T' b) = T' b
  rw [if_neg (show ¬ b < w.heap.size by omega)]
  simp
 have hpres : Pres T w T2 w':=by
  refine ⟨hT2,fun b cells ty fz hw1=>?_⟩
  obtain ⟨c',f',h1,h2,h3⟩:=haf.pres.cell b cells ty fz hw1
  exact ⟨c',f',h1,h2,fun o ho=>h3 o (Nat.lt_of_lt_of_le ho (hT1 b))⟩
 have htok2 : TOk T2 w':=by
  intro b hb
  by_cases hr : raise = true
  ·have e : T2 b = T' b:=by show (if raise then T' b else _) = _; rw [hr]; rfl
   rw [e] at hb ⊢
   exact haf.tok b hb
  ·by_cases hbs : b < w.heap.size
   ·have e : T2 b = T b:=by show (if raise then T' b else if b < w.heap.size then T b else T' b) = _; rw [if_neg hr,if_pos hbs]
    rw [e] at hb ⊢
    obtain ⟨cells,ty,fz,h1,h2⟩:=m.after.tok b hb
    obtain ⟨c',f',h3,h4,_⟩:=hpres.cell b cells ty fz h1
    exact ⟨c',ty,f',h3,by omega⟩
   ·rw [hTnew b (by omega)] at hb ⊢
    exact haf.tok b hb
 let nm : List Nat:=ids ++ (List.range 8).map (idb + ·)
 have hnm1 : ∀ (k i : Nat),ids[k]? = some i → nm[k]? = some i:=fun k i hki=>by
  show (ids ++ _)[k]? = _
  rw [List.getElem?_append_left (List.getElem?_eq_some_iff.1 hki).1]; exact hki
 have hnm2 : ∀ (k i : Nat),nm[k]? = some i → ids[k]? = some i ∨ (hs.length ≤ k ∧ k < hs.length + 8 ∧ i = idb + (k - hs.length)):=by
  intro k i hki
  by_cases hlt : k < ids.length
  ·have : nm[k]? = ids[k]?:=List.getElem?_append_left hlt
   exact .inl (this.symm.trans hki)
  ·have : nm[k]? = ((List.range 8).map (idb + ·))[k - ids.length]?:=List.getElem?_append_right (by omega)
   rw [this] at hki
   simp only [List.getElem?_map,Option.map_eq_some_iff] at hki
   obtain ⟨q,hq,rfl⟩:=hki
   obtain ⟨hq1,hq2⟩:=List.getElem?_eq_some_iff.1 hq
   simp only [List.length_range] at hq1
   simp only [List.getElem_range] at hq2
   exact .inr ⟨by omega,by omega,by omega⟩
 have hMk : ∀ (k i : Nat),nm[k]? = some i → M2 i = M' k:=by
  intro k i hki
  rcases hnm2 k i hki with h1 | ⟨h1,h2,rfl⟩
  ·obtain ⟨e,he,_⟩:=hent k i h1
   obtain ⟨g,hg,_⟩:=m.hs.ent i e he
   rw [hM2 i g hg,haf.same k (by rw [← hidl]; exact (List.getElem?_eq_some_iff.1 h1).1),hMc k i h1,hg]
  ·show (if idb ≤ idb + (k - hs.length) ∧ idb + (k - hs.length) < idb + 8 then M' (hs.length + (idb + (k - hs.length) - idb)) else M _) = _
   rw [if_pos (by omega)]
   congr 1
   omega
 have hback : ∀ k id,lkp (nm.zipIdx.map fun (a,b)=>(b,a)) k = some id → M2 id = M' k:=fun k id hl=>hMk k id (zu4 hl)
 have hcvb : ∀ x v,Rep T2 w' M' x v → Rep T2 w' M2 (conv (nm.zipIdx.map fun (a,b)=>(b,a)) [] (fun _=>none) 4 x) v:=by
  intro x v hr
  refine zik (M:=M') (hp:=fun _=>none) ⟨fun id e he=>(by cases he),fun i i' e e' g g' b h1=>(by cases h1)⟩ [] (fun _=>Nat.le_refl _) (fun i hi=>by cases hi) 4 _ M2 x v hback hr
 have hlow : ∀ x v,Rep T' w' M' x v → (raise = true ∨ Plain x) → Rep T2 w' M' x v:=by
  intro x v hr hp
  rcases hp with hp | hp
  ·have e : T2 = T':=by funext b; show (if raise then T' b else _) = _; rw [hp]; rfl
   rw [e]; exact hr
  ·exact hr.plain hp T2
 have hcase : ∀ i e2,(st.upd ((hs'.zipIdx.map fun (e,k)=>((ids ++ (List.range 8).map (idb + ·)).getD k 0,e.map (zaw ((ids ++ (List.range 8).map (idb + ·)).zipIdx.map fun (a,b)=>(b,a)) [] (fun _=>none) 4))) ++
   (if raise then sn.filterMap (fun i=>(st.hp i).map fun e=>(i,some { e with ro:=e.rows.length })) else []))).hp i = some e2 →
   (∃ (k : Nat) (e : Ent),hs'[k]? = some (some e) ∧ nm[k]? = some i ∧ e2 = zaw (nm.zipIdx.map fun (a,b)=>(b,a)) [] (fun _=>none) 4 e) ∨
   (raise = true ∧ i ∈ sn ∧ (∀ k : Nat,ids[k]? ≠ some i) ∧ ∃ e,st.hp i = some e ∧ e2 = { e with ro:=e.rows.length }) ∨
   ((∀ k : Nat,ids[k]? ≠ some i) ∧ st.hp i = some e2 ∧ (raise = true → i ∉ sn)):=by
  intro i e2 he2
  rw [St.hp_upd] at he2
  cases hl1 : lkp (hs'.zipIdx.map fun (e,k)=>((ids ++ (List.range 8).map (idb + ·)).getD k 0,e.map (zaw ((ids ++ (List.range 8).map (idb + ·)).zipIdx.map fun (a,b)=>(b,a)) [] (fun _=>none) 4))) i with
  | some r =>
    rw [zfl,hl1] at he2
    have he2 : r = some e2:=he2
    subst he2
    have hm:=zbK hl1
    simp only [List.mem_map,Prod.mk.injEq] at hm
    obtain ⟨⟨e0,k⟩,h1,h2,h3⟩:=hm
    rw [List.mem_zipIdx_iff_getElem?] at h1
    simp only [Option.map_eq_some_iff] at h3
    obtain ⟨e,rfl,h3⟩:=h3
    have hkl : k < hs'.length:=(List.getElem?_eq_some_iff.1 h1).1
    have hkn : k < nm.length:=by show k < (ids ++ _).length; simp; omega
    refine .inl ⟨k,e,h1,?_,h3.symm⟩
    have : nm.getD k 0 = i:=h2
    rw [List.getElem?_eq_getElem hkn,← this]
    simp [List.getD,hkn]
  | none =>
    rw [zfl,hl1,Option.none_or] at he2
    have hnk : ∀ k : Nat,ids[k]? ≠ some i:=by
     intro k hki
     have hkl : k < hs'.length:=by have:=(List.getElem?_eq_some_iff.1 hki).1; omega
     refine zh7 hl1 (hs'[k].map (zaw (nm.zipIdx.map fun (a,b)=>(b,a)) [] (fun _=>none) 4)) (List.mem_map.2 ⟨(hs'[k],k),by rw [List.mem_zipIdx_iff_getElem?]; exact List.getElem?_eq_getElem hkl,?_⟩)
     have h5:=hnm1 k i hki
     have h6 : nm.getD k 0 = i:=by simp [List.getD,h5]
     show (nm.getD k 0,_) = _
     rw [h6]
    by_cases hr : raise = true
    ·rw [if_pos hr] at he2
     cases hl2 : lkp (sn.filterMap fun i=>(st.hp i).map fun e=>(i,some { e with ro:=e.rows.length })) i with
     | some r =>
       rw [hl2] at he2
       have he2 : r = some e2:=he2
       subst he2
       have hm:=zbK hl2
       simp only [List.mem_filterMap,Option.map_eq_some_iff,Prod.mk.injEq,Option.some.injEq] at hm
       obtain ⟨i',h1,e,h2,rfl,h3⟩:=hm
       exact .inr (.inl ⟨hr,h1,hnk,e,h2,h3.symm⟩)
     | none =>
       rw [hl2] at he2
       refine .inr (.inr ⟨hnk,he2,fun _ hin=>?_⟩)
       have he2' : st.hp i = some e2:=he2
       exact zh7 hl2 (some { e2 with ro:=e2.rows.length }) (List.mem_filterMap.2 ⟨i,hin,by rw [he2']; rfl⟩)
    ·rw [if_neg hr] at he2
     exact .inr (.inr ⟨hnk,he2,fun h=>absurd h hr⟩)
 have hkeep : ∀ i e g b,(∀ k : Nat,ids[k]? ≠ some i) → st.hp i = some e → M i = some g → g.blk = some b → w'.heap[b]? = w.heap[b]?:=by
  intro i e g b h1 h2 h3 h4
  exact haf.keep b (m.block_lt h2 h3 h4) (hpas i e g b h1 h2 h3 h4)
 have hout : ∀ (k : Nat) e,hs'[k]? = some (some e) → zj8 hs' k = some e:=fun k e h=>by simp [zj8,h]
 have hentA : ∀ (k : Nat) e (i : Nat),hs'[k]? = some (some e) → nm[k]? = some i → ∃ g,M' k = some g ∧ M2 i = some g ∧ zoc T2 w' M2 (zaw (nm.zipIdx.map fun (a,b)=>(b,a)) [] (fun _=>none) 4 e) g:=by
  intro k e i h1 h2
  obtain ⟨g,hg,ent⟩:=hhs'.ent k e (hout k e h1)
  refine ⟨g,hg,(hMk k i h2).trans hg,ent.s,by simpa [zaw] using ent.ro,fun hz r hr=>?_,fun hn=>by simp [zaw,ent.none hn],fun hz=>?_,fun hz b hbk=>?_⟩
  ·simp only [zaw,List.mem_map] at hr
   obtain ⟨r0,hr0,rfl⟩:=hr
   rw [List.length_map]
   exact ent.wide hz r0 hr0
  ·obtain ⟨b,es,clock,hbb,q1,q2,q3,q4⟩:=ent.mp hz
   refine ⟨b,es,clock,hbb,q1,Nat.le_zero.1 (q2 ▸ hT2' b),q3,q4.map (fun _=>rfl) fun row hrow x hx v hr=>hcvb _ _ (hlow _ _ hr ?_)⟩
   rcases hpl with hpl | hpl
   ·exact .inl hpl
   ·exact .inr (hpl.2 e (List.mem_of_getElem? h1) row hrow x hx)
  ·obtain ⟨cells,ty,h3,h4,h5,h6⟩:=ent.blk hz b hbk
   refine ⟨cells,ty,h3,Nat.le_trans (hT2' b) h4,by simpa [zaw] using h5,fun i' j hi hj=>?_⟩
   simp only [zaw,List.length_map] at hi hj ⊢
   obtain ⟨u,hu,ho,hru⟩:=h6 i' j hi hj
   refine ⟨u,hu,ho,?_⟩
   have e1 : (e.rows.map (·.map (conv (nm.zipIdx.map fun (a,b)=>(b,a)) [] (fun _=>none) 4))).getD i' [] = (e.rows.getD i' []).map (conv (nm.zipIdx.map fun (a,b)=>(b,a)) [] (fun _=>none) 4):=by
    simp only [List.getD,List.getElem?_map]
    cases e.rows[i']? <;> rfl
   rw [e1,zbg _ (zcn _ _ _ _)]
   refine hcvb _ _ (hlow _ _ hru ?_)
   rcases hpl with hpl | hpl
   ·exact .inl hpl
   ·right
    have hrow : e.rows.getD i' [] = e.rows[i']:=by simp [List.getD,hi]
    have hwid:=ent.wide hz _ (List.getElem_mem hi)
    have hjl : j < e.rows[i'].length:=by omega
    rw [hrow]
    have hcellm : e.rows[i'].getD j .dead = e.rows[i'][j]:=by simp [List.getD,hjl]
    rw [hcellm]
    exact hpl.2 e (List.mem_of_getElem? h1) _ (List.getElem_mem hi) _ (List.getElem_mem hjl)
 have hT2b : ∀ i e g b,(∀ k : Nat,ids[k]? ≠ some i) → st.hp i = some e → M i = some g → g.blk = some b → (raise = true → i ∉ sn) → T2 b = T b:=by
  intro i e g b h1 h2 h3 h4 h5
  have hlt:=m.block_lt h2 h3 h4
  show (if raise then T' b else if b < w.heap.size then T b else T' b) = T b
  by_cases hr : raise = true
  ·rw [if_pos hr,hT'old b hlt (hpas i e g b h1 h2 h3 h4)]
   refine hsame b fun i' hi' e' g' h6 h7 h8=>?_
   have:=m.hs.inj i i' e e' g g' b h2 h6 h3 h7 h4 h8
   subst this
   exact h5 hr hi'
  ·rw [if_neg hr,if_pos hlt]
 have hcellsM : ∀ {e : Ent} {g : GE},zoc T w M e g → ∀ ro',e.ro ≤ ro' → ro' ≤ e.rows.length → (∀ b,g.blk = some b → w'.heap[b]? = w.heap[b]? ∧ T2 b ≤ g.base + ro' * e.s) → zoc T2 w' M2 { e with ro:=ro' } g:=by
  intro e g ent ro' hr1 hr2 hbk
  refine ⟨ent.s,hr2,ent.wide,ent.none,fun hz=>?_,fun hz b hbb=>?_⟩
  ·have hz' : e.s = 0:=hz
   obtain ⟨b,es,clock,hbb,q1,q2,q3,q4⟩:=ent.mp hz'
   obtain ⟨p1,p2⟩:=hbk b hbb
   rw [q3,hz'] at p2
   exact ⟨b,es,clock,hbb,by rw [p1]; exact q1,by omega,q3,q4.mono hpres hM2⟩
  obtain ⟨cells,ty,h3,h4,h5,h6⟩:=ent.blk hz b hbb
  obtain ⟨q1,q2⟩:=hbk b hbb
  refine ⟨cells,ty,by rw [q1]; exact h3,q2,h5,fun i' j hi hj=>?_⟩
  obtain ⟨u,hu,ho,hru⟩:=h6 i' j hi hj
  exact ⟨u,hu,ho,hru.mono hpres hM2⟩
 refine ⟨v,T2,M2,rfl,⟨⟨fun i e2 he2=>?_,fun i i' e1 e2 g g' b h1 h2 h3 h4 h5 h6=>?_⟩,fun i g hg=>?_,?_⟩,hpres,hM2,hcvb _ _ (hlow _ _ hres (hpl.imp id fun h=>h.1))⟩
 ·rcases hcase i e2 he2 with ⟨k,e,h1,h2,rfl⟩ | ⟨hr,hin,hnk,e,he,rfl⟩ | ⟨hnk,he,hns⟩
  ·obtain ⟨g,_,h3,h4⟩:=hentA k e i h1 h2
   exact ⟨g,h3,h4⟩
  ·obtain ⟨g,hg,ent⟩:=m.hs.ent i e he
   refine ⟨g,hM2 i g hg,hcellsM ent _ ent.ro (Nat.le_refl _) fun b hbb=>⟨hkeep i e g b hnk he hg hbb,?_⟩⟩
   have hlt:=m.block_lt he hg hbb
   have e5 : T2 b = T' b:=by show (if raise then T' b else _) = _; rw [hr]; rfl
   rw [e5,hT'old b hlt (hpas i e g b hnk he hg hbb),hsnap i hin e g b he hg hbb]
   exact Nat.le_refl _
  ·obtain ⟨g,hg,ent⟩:=m.hs.ent i e2 he
   refine ⟨g,hM2 i g hg,hcellsM ent e2.ro (Nat.le_refl _) ent.ro fun b hbb=>⟨hkeep i e2 g b hnk he hg hbb,?_⟩⟩
   rw [hT2b i e2 g b hnk he hg hbb hns]
   by_cases hz : e2.s = 0
   ·obtain ⟨b',es,clock,hbb',q1,q2,q3,q4⟩:=ent.mp hz
    obtain rfl:=Option.some.inj (hbb'.symm.trans hbb)
    omega
   obtain ⟨cells,ty,_,h4,_⟩:=ent.blk hz b hbb
   exact h4
 ·
  have hold : ∀ i e2 g b,((raise = true ∧ i ∈ sn ∧ (∀ k : Nat,ids[k]? ≠ some i) ∧ ∃ e,st.hp i = some e ∧ e2 = { e with ro:=e.rows.length }) ∨ ((∀ k : Nat,ids[k]? ≠ some i) ∧ st.hp i = some e2 ∧ (raise = true → i ∉ sn))) → M2 i = some g → g.blk = some b →
    (∀ k : Nat,ids[k]? ≠ some i) ∧ ∃ e,st.hp i = some e ∧ M i = some g ∧ b < w.heap.size:=by
   intro i e2 g b hq hg hbb
   have : (∀ k : Nat,ids[k]? ≠ some i) ∧ ∃ e,st.hp i = some e:=by
    rcases hq with ⟨_,_,h1,e,h2,_⟩ | ⟨h1,h2,_⟩
    ·exact ⟨h1,e,h2⟩
    ·exact ⟨h1,e2,h2⟩
   obtain ⟨h1,e,h2⟩:=this
   obtain ⟨g1,hg1,_⟩:=m.hs.ent i e h2
   have:=hM2 i g1 hg1
   rw [hg] at this
   obtain rfl:=Option.some.inj this
   exact ⟨h1,e,h2,hg1,m.block_lt h2 hg1 hbb⟩
  have cross : ∀ (i i' k : Nat) e g g' e2' b,hs'[k]? = some (some e) → nm[k]? = some i → M2 i = some g → g.blk = some b →
    ((raise = true ∧ i' ∈ sn ∧ (∀ k : Nat,ids[k]? ≠ some i') ∧ ∃ e,st.hp i' = some e ∧ e2' = { e with ro:=e.rows.length }) ∨ ((∀ k : Nat,ids[k]? ≠ some i') ∧ st.hp i' = some e2' ∧ (raise = true → i' ∉ sn))) → M2 i' = some g' → g'.blk = some b → False:=by
   intro i i' k e g g' e2' b hk1 hk2 hg hbb hq hg' hbb'
   obtain ⟨q1,e',q2,q3,q4⟩:=hold i' e2' g' b hq hg' hbb'
   rcases hnm2 k i hk2 with hki | ⟨r1,r2,r3⟩
   ·obtain ⟨ek,hek,_⟩:=hent k i hki
    obtain ⟨gk,hgk,_⟩:=m.hs.ent i ek hek
    have:=hM2 i gk hgk
    rw [hg] at this
    obtain rfl:=Option.some.inj this
    have:=m.hs.inj i i' ek e' g g' b hek q2 hgk q3 hbb hbb'
    subst this
    exact q1 k hki
   ·have hgk : M' k = some g:=(hMk k i hk2).symm.trans hg
    rcases haf.new k g b r1 hgk hbb with h | h
    ·exact hpas i' e' g' b q1 q2 q3 hbb' h
    ·omega
  rcases hcase i e1 h1 with ⟨k,e,p1,p2,rfl⟩ | hq1
  ·rcases hcase i' e2 h2 with ⟨k',e',p1',p2',rfl⟩ | hq2
   ·have q1 : M' k = some g:=(hMk k i p2).symm.trans h3
    have q2 : M' k' = some g':=(hMk k' i' p2').symm.trans h4
    have:=hhs'.inj k k' e e' g g' b (hout k e p1) (hout k' e' p1') q1 q2 h5 h6
    subst this
    exact Option.some.inj (p2.symm.trans p2')
   ·exact (cross i i' k e g g' _ b p1 p2 h3 h5 hq2 h4 h6).elim
  ·rcases hcase i' e2 h2 with ⟨k',e',p1',p2',rfl⟩ | hq2
   ·exact (cross i' i k' e' g' g _ b p1' p2' h4 h6 hq1 h3 h5).elim
   ·obtain ⟨_,ea,q2,q3,_⟩:=hold i e1 g b hq1 h3 h5
    obtain ⟨_,eb,r2,r3,_⟩:=hold i' e2 g' b hq2 h4 h6
    exact m.hs.inj i i' ea eb g g' b q2 r2 q3 r3 h5 h6
 ·have hg' : (if idb ≤ i ∧ i < idb + 8 then M' (hs.length + (i - idb)) else M i) = some g:=hg
  by_cases hc : idb ≤ i ∧ i < idb + 8
  ·exact .inr hc
  ·rw [if_neg hc] at hg'
   exact .inl (m.dom i g hg')
 ·have hpp : ∀ b,Pas hs.length Mc b → Pas np M0 b ∨ w0.heap.size ≤ b:=by
   rintro b ⟨k,g,hk1,hk2,hk3⟩
   have hlt : k < ids.length:=by omega
   have hki : ids[k]? = some ids[k]:=List.getElem?_eq_getElem hlt
   rw [hMc k _ hki] at hk2
   exact m.after.blk hk2 hk3
  refine m.after.step htok2 (fun b hb hnp=>?_) (fun k hk=>?_) haf.os haf.tape haf.output haf.size (fun b hb hn=>?_) hpres fun k g b hk hg hbb=>?_
  ·have hlt : b < w.heap.size:=Nat.lt_of_lt_of_le hb m.after.size
   show (if raise then T' b else if b < w.heap.size then T b else T' b) = T b
   by_cases hr : raise = true
   ·rw [if_pos hr,hT'old b hlt (fun h=>(hpp b h).elim hnp (by omega))]
    refine hsame b fun i hi e g h1 h2 h3=>?_
    exact (m.after.blk h2 h3).elim hnp (by omega)
   ·rw [if_neg hr,if_pos hlt]
  ·show (if idb ≤ k ∧ k < idb + 8 then _ else M k) = M k
   rw [if_neg (by omega)]
  ·exact haf.keep b (Nat.lt_of_lt_of_le hb m.after.size) fun h=>(hpp b h).elim hn (by omega)
  ·have hg' : (if idb ≤ k ∧ k < idb + 8 then M' (hs.length + (k - idb)) else M k) = some g:=hg
   by_cases hc : idb ≤ k ∧ k < idb + 8
   ·rw [if_pos hc] at hg'
    rcases haf.new _ g b (by omega) hg' hbb with h | h
    ·exact hpp b h
    ·have:=m.after.size
     exact .inr (by omega)
   ·rw [if_neg hc] at hg'
    exact m.after.new k g b hk hg' hbb
theorem zwg (o : Oper) (c : Call) (f : Operand) (h : o.op = .call c) (hb : c.callee = .value f) (hov : ovlC P f = none) : Goal P np T0 M0 w0 live st T M a w idb o:=by
 intro K hk
 have hc : zaB P o = (.call,opd f :: c.args.toList.map opd):=by simp [zaB,h,hb,hov]
 rw [hc] at hk
 simp only [List.map_cons,List.map_map] at hk
 have hrf:=zaG tm f
 generalize hX : (opd f).ev st.get = X at *
 generalize hfv : a.eval f = fv at *
 cases X <;> (try (simp only [aK] at hk; done))
 rename_i fn first capt
 cases fn <;> (try (simp only [aK] at hk; done))
 rename_i fid
 simp only [aK] at hk
 obtain ⟨ids,sn,raise,args',hs,res,hs',hnod,hsi,hrn,hwk,hids,hcall,hlen8,hpl,hk⟩:=hk
 cases hrf with
 | fn _ _ _ _ us vs hux hvy hhx hhy =>
 have henter : (∃ fn c,P.funcs[fid]? = some fn ∧ fn.body = some c ∧ fn.name ≠ "runtime.NumGoroutine") → (execOp a.eval o).run P w = .ok (.enter fid (us ++ c.args.map a.eval ++ vs)) w:=by
  rintro ⟨fnc,cd,hfn,hbody,hname⟩
  simp [execOp,h,resolve,hb,hfv,Deferred.ofValue,invoke,callFunc,hfn,hbody,hname]
 have hargs : RepL T w M (first ++ c.args.toList.map ((fun x=>x.ev st.get) ∘ opd) ++ capt) (us ++ c.args.map a.eval ++ vs):=by
  refine ⟨by simp; omega,fun i hi=>?_⟩
  simp only [List.length_append,List.length_map,Array.length_toList] at hi
  simp only [List.getD,Array.getD_eq_getD_getElem?]
  by_cases h1 : i < first.length
  ·rw [List.append_assoc,List.getElem?_append_left h1,Array.append_assoc,Array.getElem?_append_left (by omega)]
   simpa [List.getD,Array.getD_eq_getD_getElem?] using hhx i h1
  ·by_cases h2 : i < first.length + c.args.size
   ·rw [List.append_assoc,List.getElem?_append_right (by omega),List.getElem?_append_left (by simp; omega),Array.append_assoc,Array.getElem?_append_right (by omega),Array.getElem?_append_left (by simp; omega),hux]
    have hi' : i - first.length < c.args.size:=by omega
    have:=zaG tm c.args[i - first.length]
    simpa [hi'] using this
   ·rw [List.getElem?_append_right (by simp; omega),Array.getElem?_append_right (by simp; omega)]
    have:=hhy (i - (first.length + c.args.size)) (by omega)
    simp only [List.getD,Array.getD_eq_getD_getElem?] at this
    simpa [hux] using this
 exact zou tm m fresh npid o fid _ _ henter hargs hnod hsi hrn hwk hids hcall hlen8 hpl hk
omit tm m fresh npid in
theorem zoG {name : String} {t : TypeId} {f : FuncId} (h : lkp (zmH P name) t = some f) : zkB P name t = some (t,f):=by
 have h1:=zbK h
 unfold zmH at h1
 rw [List.mem_filterMap] at h1
 obtain ⟨u,_,h2⟩:=h1
 have : u = t:=by
  unfold zkB at h2
  split at h2
  ·split at h2
   ·split at h2
    ·cases h2; rfl
    ·cases h2
   ·cases h2
  ·cases h2
 subst this
 exact h2
omit tm m fresh npid in
theorem zq7 {name : String} {t : TypeId} {f : FuncId} (h : zkB P name t = some (t,f)) (n : Nat) (v : Value) : (method (n + 1) t v name).run P w = .ok (f,v) w:=by
 unfold zkB at h
 split at h
 case h_2=>cases h
 rename_i i fs hi hu
 split at h
 case h_2=>cases h
 rename_i mt hm
 split at h
 case h_2=>cases h
 rename_i hp hf
 cases h
 have hp' : mt.path.toList = []:=by
  have : mt.path = #[]:=by simpa using hp
  rw [this]
 have hie : mt.path.isEmpty = true:=hp
 unfold method
 simp [typeInfo,hi,hm,hp',follow,hf,receiverAt,run_underlying hu,Place.get]
theorem zx8 (o : Oper) (c : Call) (r : Operand) (name : String) (h : o.op = .call c) (hb : c.callee = .invoke r name) : Goal P np T0 M0 w0 live st T M a w idb o:=by
 intro K hk
 have hc : zaB P o = (.inv (zmH P name),opd r :: c.args.toList.map opd):=by simp [zaB,h,hb]
 rw [hc] at hk
 simp only [List.map_cons,List.map_map] at hk
 have hrf:=zaG tm r
 generalize hX : (opd r).ev st.get = X at *
 generalize hfv : a.eval r = fv at *
 cases X <;> (try (simp only [aK] at hk; done))
 rename_i t x
 simp only [aK] at hk
 obtain ⟨fid,ids,sn,raise,args',hs,res,hs',htbl,hnod,hsi,hrn,hwk,hids,hcall,hlen8,hpl,hk⟩:=hk
 have hrow:=zoG htbl
 cases hrf with
 | ifc _ _ _ v hv =>
 have henter : (∃ fn c,P.funcs[fid]? = some fn ∧ fn.body = some c ∧ fn.name ≠ "runtime.NumGoroutine") → (execOp a.eval o).run P w = .ok (.enter fid (#[v] ++ c.args.map a.eval)) w:=by
  rintro ⟨fnc,cd,hfn,hbody,hname⟩
  have hmt:=fun n=>zq7 (w:=w) hrow n v
  have hd : ∃ n,P.types.size + Made.depth = n + 1:=by
   have : Made.depth = 1 + (Made.depth - 1):=by decide
   exact ⟨P.types.size + (Made.depth - 1),by omega⟩
  obtain ⟨n,hn⟩:=hd
  have e0 : ((#[Value.iface t v] ++ Array.map a.eval c.args)[0]? : Option Value) = some (.iface t v):=by
   rw [Array.getElem?_append_left (by simp)]; rfl
  have ex : (#[Value.iface t v] ++ Array.map a.eval c.args).extract 1 (#[Value.iface t v] ++ Array.map a.eval c.args).size = Array.map a.eval c.args:=by
   apply Array.ext'
   simp
   exact List.take_of_length_le (by simp)
  simp only [execOp,h,resolve,hb,hfv,pure_bind,invoke,e0,ex,callMethod]
  simp [run_program,hn,hmt,callFunc,hfn,hbody,hname]
 have hargs : RepL T w M (x :: c.args.toList.map ((fun x=>x.ev st.get) ∘ opd)) (#[v] ++ c.args.map a.eval):=by
  refine ⟨by simp; omega,fun i hi=>?_⟩
  cases i with
  | zero =>
    simp only [List.getD,Array.getD_eq_getD_getElem?]
    rw [Array.getElem?_append_left (by simp)]
    simpa using hv
  | succ i =>
    simp only [List.length_cons,List.length_map,Array.length_toList] at hi
    have hi' : i < c.args.size:=by omega
    have:=zaG tm c.args[i]
    simp only [List.getD,Array.getD_eq_getD_getElem?]
    rw [Array.getElem?_append_right (by simp)]
    simpa [hi'] using this
 exact zou tm m fresh npid o fid _ _ henter hargs hnod hsi hrn hwk hids hcall hlen8 hpl hk
end
end Go.Proofs.YtklclphfcibagaaGreat
namespace Go.Proofs.YtklclphfcibagaaGreat
open Go Go.MapKept
section
variable {T : Nat → Nat} {w : World} {M : GM}
theorem zdG.length : ∀ {rows : List (List AV)} {es : List MapEntry},zdG T w M rows es → rows.length = es.length
 | [],[],_=>rfl
 | _ :: _,_ :: _,h=>by simp [zdG.length h.2]
 | [],_ :: _,h=>False.elim h
 | _ :: _,[],h=>False.elim h
theorem zdG.keys : ∀ {rows : List (List AV)} {es : List MapEntry},zdG T w M rows es → ∀ e ∈ es,IsKey (.int .i64) e.key
 | [],[],_,_,h=>nomatch h
 | _ :: _,e :: es,h,x,hx=>by
   rcases List.mem_cons.1 hx with rfl | hx
   ·obtain ⟨n,_,_,h2,_⟩:=h.1
    rw [h2]
    rfl
   ·exact zdG.keys h.2 x hx
 | [],_ :: _,h,_,_=>False.elim h
 | _ :: _,[],h,_,_=>False.elim h
theorem zdG.find (n : Int) : ∀ {rows : List (List AV)} {es : List MapEntry} (i : Nat),zdG T w M rows es →
  (∃ j e x,Instr.findNow (.int .i64) (.int .i64 n) es i = some (some (i + j,e.val)) ∧ es[j]? = some e ∧ e.key = .int .i64 n ∧ zdX n rows = some x ∧ Rep T w M x e.val ∧
   (∀ y v',Rep T w M y v' → zdG T w M (mset n y rows) (es.modify j fun e=>{ e with key:=.int .i64 n,val:=v' })) ∧ zdG T w M (mdel n rows) (es.eraseIdx j)) ∨
  (Instr.findNow (.int .i64) (.int .i64 n) es i = some none ∧ zdX n rows = none ∧ (∀ y v' c,Rep T w M y v' → zdG T w M (mset n y rows) (es ++ [{ key:=.int .i64 n,val:=v',born:=c }])) ∧ zdG T w M (mdel n rows) es)
 | [],[],i,_=>.inr ⟨rfl,rfl,fun y v' c hr=>⟨⟨n,y,rfl,rfl,hr⟩,trivial⟩,trivial⟩
 | row :: rows,e :: es,i,h=>by
   obtain ⟨⟨k,x,h1,h2,h3⟩,h4⟩:=h
   subst h1
   by_cases hnk : n = k
   ·subst hnk
    refine .inl ⟨0,e,x,by simp [Instr.findNow,h2,Instr.sameNow],rfl,h2,by simp [zdX],h3,fun y v' hr=>?_,?_⟩
    ·simp only [mset,if_true,List.modify_zero_cons]
     exact ⟨⟨n,y,rfl,rfl,hr⟩,h4⟩
    ·simp only [mdel,if_true,List.eraseIdx_cons_zero]
     exact h4
   ·have hf : Instr.findNow (.int .i64) (.int .i64 n) (e :: es) i = Instr.findNow (.int .i64) (.int .i64 n) es (i + 1):=by
     have : (n == k) = false:=by simpa using hnk
     simp [Instr.findNow,h2,Instr.sameNow,this]
    have hm : zdX n ([.sc (.int .i64 k),x] :: rows) = zdX n rows:=by simp [zdX,hnk]
    have hs : ∀ y,mset n y ([.sc (.int .i64 k),x] :: rows) = [.sc (.int .i64 k),x] :: mset n y rows:=fun y=>by simp [mset,hnk]
    have hd : mdel n ([.sc (.int .i64 k),x] :: rows) = [.sc (.int .i64 k),x] :: mdel n rows:=by simp [mdel,hnk]
    rcases zdG.find n (i + 1) h4 with ⟨j,e',x',q1,q2,q3,q4,q5,q6,q7⟩ | ⟨q1,q2,q3,q4⟩
    ·refine .inl ⟨j + 1,e',x',by rw [hf,q1]; congr 3; omega,q2,q3,by rw [hm,q4],q5,fun y v' hr=>?_,?_⟩
     ·rw [hs]
      exact ⟨⟨k,x,rfl,h2,h3⟩,q6 y v' hr⟩
     ·rw [hd]
      exact ⟨⟨k,x,rfl,h2,h3⟩,q7⟩
    ·refine .inr ⟨by rw [hf,q1],by rw [hm,q2],fun y v' c hr=>?_,?_⟩
     ·rw [hs]
      exact ⟨⟨k,x,rfl,h2,h3⟩,q3 y v' c hr⟩
     ·rw [hd]
      exact ⟨⟨k,x,rfl,h2,h3⟩,q4⟩
 | [],_ :: _,_,h=>False.elim h
 | _ :: _,[],_,h=>False.elim h
theorem zdG.set_len {rows : List (List AV)} {es : List MapEntry} (n : Int) (y : AV) : zdG T w M rows es → rows.length ≤ (mset n y rows).length:=by
 intro h
 induction rows generalizing es with
 | nil=>simp
 | cons row rows ih =>
   cases es with
   | nil=>exact False.elim h
   | cons e es =>
     obtain ⟨⟨k,x,h1,_,_⟩,h4⟩:=h
     subst h1
     by_cases hnk : n = k
     ·simp [mset,hnk]
     ·simp only [mset,if_neg hnk,List.length_cons]
      exact Nat.succ_le_succ (ih h4)
end
section
variable {np : Nat} {T0 : Nat → Nat} {M0 : GM} {w0 : World} {live : Nat → Prop} {hp : Nat → Option Ent} {T : Nat → Nat} {M : GM} {w : World}
theorem Mem.newMap (h : Mem np T0 M0 w0 live hp T M w) {id : Nat} (hid : ¬ live id) (hnp : np ≤ id) {w1 : World} (hh : w1.heap = w.heap.push (.map #[] 0)) (os : w1.os = w.os) (tape : w1.tape = w.tape)
  (output : w1.output = w.output) {hp' : Nat → Option Ent} (hp1 : hp' id = some { s:=0,rows:=[] }) (hp2 : ∀ i e',i ≠ id → hp' i = some e' → hp i = some e') :
  ∃ M' : GM,M' id = some ⟨some w.heap.size,0,0⟩ ∧ (∀ i g,M i = some g → M' i = some g) ∧ Mem np T0 M0 w0 (fun i=>live i ∨ i = id) hp' T M' w1 ∧ Pres T w T w1:=by
 have old : ∀ b o,w.heap[b]? = some o → w1.heap[b]? = some o:=fun b o hb=>by
  have : b < w.heap.size:=(Array.getElem?_eq_some_iff.1 hb).1
  rw [hh,Array.getElem?_push,if_neg (by omega)]; exact hb
 have p : Pres T w T w1:=⟨fun _=>Nat.le_refl _,fun b cells ty fz hb=>⟨cells,fz,old _ _ hb,rfl,fun _ _=>rfl⟩⟩
 have hMid : M id = none:=by
  cases hm : M id with
  | none=>rfl
  | some g=>exact absurd (h.dom id g hm) hid
 have mm : ∀ i g,M i = some g → (fun i=>if i = id then some (GE.mk (some w.heap.size) 0 0) else M i) i = some g:=by
  intro i g hg
  have : i ≠ id:=by rintro rfl; rw [hMid] at hg; cases hg
  simp only [this,if_false]; exact hg
 refine ⟨fun i=>if i = id then some ⟨some w.heap.size,0,0⟩ else M i,by simp,mm,⟨⟨fun i e' he=>?_,fun i i' e1 e2 g g' b h1 h2 h3 h4 h5 h6=>?_⟩,fun i g hg=>?_,?_⟩,p⟩
 ·by_cases hi : i = id
  ·subst hi
   obtain rfl:=Option.some.inj (hp1.symm.trans he)
   exact ⟨⟨some w.heap.size,0,0⟩,if_pos rfl,rfl,Nat.le_refl _,(fun h=>absurd rfl h),(fun e=>by simp at e),(fun _=>⟨w.heap.size,#[],0,rfl,by rw [hh]; simp,h.T_zero (Nat.le_refl _),rfl,trivial⟩),fun h=>absurd rfl h⟩
  ·have he':=hp2 i e' hi he
   obtain ⟨g,h1,h2⟩:=h.hs.ent i e' he'
   refine ⟨g,by simp only [hi,if_false]; exact h1,h2.mono p mm fun b hb=>⟨?_,rfl⟩⟩
   have:=h.block_lt he' h1 hb
   rw [hh,Array.getElem?_push,if_neg (by omega)]
 ·by_cases hi : i = id <;> by_cases hi' : i' = id
  ·rw [hi,hi']
  ·rw [if_pos hi] at h3; rw [if_neg hi'] at h4
   obtain rfl:=Option.some.inj h3
   have:=h.block_lt (hp2 i' e2 hi' h2) h4 h6
   simp at h5
   omega
  ·rw [if_neg hi] at h3; rw [if_pos hi'] at h4
   obtain rfl:=Option.some.inj h4
   have:=h.block_lt (hp2 i e1 hi h1) h3 h5
   simp at h6
   omega
  ·rw [if_neg hi] at h3; rw [if_neg hi'] at h4
   exact h.hs.inj i i' e1 e2 g g' b (hp2 i e1 hi h1) (hp2 i' e2 hi' h2) h3 h4 h5 h6
 ·by_cases hi : i = id
  ·exact .inr hi
  ·rw [if_neg hi] at hg; exact .inl (h.dom i g hg)
 ·refine h.after.step (fun b hb=>?_) (fun _ _ _=>rfl) (fun k hk=>?_) os tape output (by rw [hh]; simp) (fun b hb _=>?_) p fun k g b hk hg hb=>?_
  ·obtain ⟨c,ty',fz,h1,h2⟩:=h.after.tok b hb
   exact ⟨c,ty',fz,old _ _ h1,h2⟩
  ·have : k ≠ id:=by omega
   simp only [this,if_false]
  ·have:=h.after.size
   rw [hh,Array.getElem?_push,if_neg (by omega)]
  ·by_cases hi : k = id
   ·rw [if_pos hi] at hg
    obtain rfl:=Option.some.inj hg
    obtain rfl:=Option.some.inj hb
    exact .inr h.after.size
   ·rw [if_neg hi] at hg
    exact h.after.new k g b hk hg hb
theorem Mem.writeMap (h : Mem np T0 M0 w0 live hp T M w) {id : Nat} {e0 e : Ent} {g : GE} {b : Nat} {es es' : Array MapEntry} {clock clock' : Nat} (he0 : hp id = some e0) (hg : M id = some g) (hb : g.blk = some b)
  (hz0 : e0.s = 0) (hw : w.heap[b]? = some (.map es clock)) (hz : e.s = 0) (ro : e.ro ≤ e.rows.length) (hm : zdG T w M e.rows es'.toList)
  {hp' : Nat → Option Ent} (hp1 : hp' id = some e) (hp2 : ∀ i e',i ≠ id → hp' i = some e' → hp i = some e') :
  Mem np T0 M0 w0 live hp' T M { w with heap:=w.heap.setIfInBounds b (.map es' clock') } ∧ Pres T w T { w with heap:=w.heap.setIfInBounds b (.map es' clock') }:=by
 have hset:=heap_set (o':=.map es' clock') hw
 have p : Pres T w T { w with heap:=w.heap.setIfInBounds b (.map es' clock') }:=by
  refine ⟨fun _=>Nat.le_refl _,fun k c t f hk=>⟨c,f,?_,rfl,fun _ _=>rfl⟩⟩
  have hkb : k ≠ b:=by rintro rfl; rw [hw] at hk; cases hk
  show (w.heap.setIfInBounds b _)[k]? = _
  rw [hset.2 k hkb]; exact hk
 obtain ⟨g1,hg1,ent0⟩:=h.hs.ent id e0 he0
 obtain rfl:=Option.some.inj (hg.symm.trans hg1)
 obtain ⟨b',es0,clock0,hbb,q1,q2,q3,q4⟩:=ent0.mp hz0
 obtain rfl:=Option.some.inj (hb.symm.trans hbb)
 have hblk : ∀ i e' g1 b1,i ≠ id → hp i = some e' → M i = some g1 → g1.blk = some b1 → b1 ≠ b:=by
  rintro i e' g1 b1 hi h1 h2 h3 rfl
  exact hi (h.hs.inj i id e' e0 g1 g b1 h1 he0 h2 hg h3 hb)
 refine ⟨⟨⟨fun i e' he=>?_,fun i i' e1 e2 g1 g2 b1 h1 h2 h3 h4 h5 h6=>?_⟩,h.dom,?_⟩,p⟩
 ·by_cases hi : i = id
  ·subst hi
   obtain rfl : e = e':=Option.some.inj (hp1.symm.trans he)
   exact ⟨g,hg,ent0.s.trans (hz0.trans hz.symm),ro,(fun h=>absurd hz h),(fun hn=>by rw [hb] at hn; cases hn),(fun _=>⟨b,es',clock',hb,hset.1,q2,q3,hm.mono p fun _ _ h=>h⟩),fun h=>absurd hz h⟩
  ·have he':=hp2 i e' hi he
   obtain ⟨g1,h1,h2⟩:=h.hs.ent i e' he'
   exact ⟨g1,h1,h2.mono p (fun _ _ h=>h) fun b1 hb1=>⟨hset.2 b1 (hblk i e' g1 b1 hi he' h1 hb1),rfl⟩⟩
 ·have back : ∀ i e1,hp' i = some e1 → ∃ e2,hp i = some e2:=fun i e1 he1=>by
   by_cases hi : i = id
   ·exact ⟨e0,by rw [hi]; exact he0⟩
   ·exact ⟨e1,hp2 i e1 hi he1⟩
  obtain ⟨f1,hf1⟩:=back i e1 h1
  obtain ⟨f2,hf2⟩:=back i' e2 h2
  exact h.hs.inj i i' f1 f2 g1 g2 b1 hf1 hf2 h3 h4 h5 h6
 ·refine h.after.step (fun k hk=>?_) (fun _ _ _=>rfl) (fun k hk=>rfl) rfl rfl rfl (by simp) (fun k hk hn=>?_) p fun k g1 b1 hk hg1 hb1=>h.after.new k g1 b1 hk hg1 hb1
  ·obtain ⟨c,t,f,h1,h2⟩:=h.after.tok k hk
   obtain ⟨c',f',e1,e2,_⟩:=p.cell k c t f h1
   exact ⟨c',t,f',e1,by omega⟩
  ·refine hset.2 k ?_
   rintro rfl
   rcases h.after.blk hg hb with h1 | h1
   ·exact hn h1
   ·omega
end
end Go.Proofs.YtklclphfcibagaaGreat
