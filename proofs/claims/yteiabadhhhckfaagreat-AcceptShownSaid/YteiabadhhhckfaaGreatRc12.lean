/- Texts of this claim,merged. -/
import Derived.Test.YteiabadhhhckfaaGreatRc11
import Derived.Test.YteiabadhhhckfaaGreatRc10
import Derived.Test.YteiabadhhhckfaaGreatRc7
import Derived.Test.YteiabadhhhckfaaGreatRc9
set_option linter.unusedSimpArgs false
set_option linter.unusedVariables false
set_option linter.unusedSectionVars false
namespace Go.Proofs.YteiabadhhhckfaaGreat
open Go
theorem zrf {g : Gr} {p : Pol} {k : Int} (h0 : 0 ≤ k) (h1 : k < g.size) : (zaD g p).getD k.toNat 0 = zdA p (dist (zai g p.lv) p.seeds k):=by
 unfold zaD zbe
 have h2 : k.toNat < (zai g p.lv).size.toNat:=by show k.toNat < g.size.toNat; omega
 rw [List.getD_eq_getElem?_getD,List.getElem?_map,List.getElem?_map,List.getElem?_range h2]
 simp only [Option.map_some,Option.getD_some]
 rw [show ((k.toNat : Nat) : Int) = k by omega]
theorem zqJ {g : Gr} {p : Pol} {k : Int} (h1 : g.size ≤ k) : (zaD g p).getD k.toNat 0 = 0:=by
 unfold zaD zbe
 have h2 : ¬ k.toNat < (zai g p.lv).size.toNat:=by show ¬ k.toNat < g.size.toNat; omega
 rw [List.getD_eq_getElem?_getD,List.getElem?_eq_none (by simp; omega)]
 rfl
theorem zfb {g : Gr} {p : Pol} {n : Int} (hp : zaZ n p) : ∀ x ∈ zaD g p,0 ≤ x:=fun x hx=>by
 unfold zaD at hx
 obtain ⟨d,_,rfl⟩:=List.mem_map.1 hx
 exact (zf6 hp d).1
theorem zfG {g : Gr} {p : Pol} {n : Int} (hp : zaZ n p) {k : Int} (h0 : 0 ≤ k) : 0 < (zaD g p).getD k.toNat 0 ↔ k < g.size ∧ 0 ≤ dist (zai g p.lv) p.seeds k:=by
 by_cases h1 : k < g.size
 ·rw [zrf h0 h1,zmU hp]
  exact ⟨fun h=>⟨h1,h⟩,fun h=>h.2⟩
 ·rw [zqJ (by omega)]
  constructor
  ·intro h; omega
  ·intro h; exact absurd h.1 h1
theorem GrOk.level {g : Gr} (h : GrOk g) (v : Int) : GrOk (zai g v):=by
 refine ⟨⟨h.1.1,h.1.2.1,Nat.le_trans (List.length_filter_le _ _) h.1.2.2.1,h.1.2.2.2⟩,fun i hi=>?_⟩
 have hm : (zai g v).edges[i] ∈ g.edges:=(List.mem_filter.1 (List.getElem_mem hi)).1
 obtain ⟨j,hj,hje⟩:=List.mem_iff_getElem.1 hm
 have h1:=h.2 j hj
 rw [hje] at h1
 refine ⟨h1.1,h1.2.1,h1.2.2.1,fun h0=>?_⟩
 rw [ziR]
 have hp : (zai g v).edges.Pairwise Bef:=h.pair.filter _
 exact List.pairwise_iff_getElem.1 hp (i - 1) i (by omega) hi (by omega)
theorem zio {g : Gr} (h : GrOk g) {S : List Int} {k : Int} : k ∈ ordL g S ↔ Key g k ∧ 0 ≤ dist g S k:=by
 unfold ordL
 rw [zgP]
 constructor
 ·rintro ⟨⟨h1,h2⟩,h3,_⟩
  exact ⟨⟨h1,by omega⟩,h3⟩
 ·rintro ⟨h1,h2⟩
  have h3:=zpI (S:=S) h h1
  have h4:=h1.1
  have h5:=h1.2
  exact ⟨⟨h4,by omega⟩,h2,by omega⟩
theorem zhC {g : Gr} (h : GrOk g) (v : Int) : ((zai g v).edges.map zdR).Nodup ∧ ∀ e ∈ (zai g v).edges,0 ≤ e.f ∧ e.f < g.size ∧ 0 ≤ e.t ∧ e.t < g.size:=by
 have hl:=h.level v
 refine ⟨?_,fun e he=>?_⟩
 ·rw [List.Nodup,List.pairwise_map]
  refine hl.pair.imp fun {a b} hab he=>?_
  unfold Bef at hab
  unfold zdR at he
  simp at he
  omega
 ·obtain ⟨i,hi,rfl⟩:=List.mem_iff_getElem.1 he
  have h1:=(hl.2 i hi).1
  have h2 : (zai g v).size = g.size:=rfl
  unfold Fits at h1
  omega
theorem Rise.nodup {l : List Int} {lo hi : Int} (h : Rise l lo hi) : l.Nodup ∧ ∀ x ∈ l,lo ≤ x ∧ x ≤ hi:=by
 have hlt : ∀ (j i : Nat) (hj : j < l.length) (hij : i < j),l[i] < l[j]:=by
  intro j
  induction j with
  | zero=>intro i _ hij; omega
  | succ j ih =>
    intro i hj hij
    have h1:=(h (j + 1) hj).2.2 (by omega)
    simp only [Nat.add_sub_cancel] at h1
    rcases Nat.lt_or_ge i j with h2 | h2
    ·have:=ih i (by omega) h2
     omega
    ·have : i = j:=by omega
     subst this
     exact h1
 refine ⟨List.pairwise_iff_getElem.2 fun i j hi hj hij he=>?_,fun x hx=>?_⟩
 ·have:=hlt j i hj hij
  omega
 ·obtain ⟨i,hi,rfl⟩:=List.mem_iff_getElem.1 hx
  have:=h i hi
  exact ⟨this.1,this.2.1⟩
theorem zmZ {g : Gr} {p : Pol} {sinks ends f : List Int} {W : List (List Nat)} (hg : GrOk g) (hp : zaZ g.size p) (hk : sinks.Nodup) (hk0 : ∀ x ∈ sinks,0 ≤ x) (hpe : ends.Perm sinks)
  (hf : Fit2 (zaT g p (zaD g p) sinks) f) (hw : ∀ w ∈ W,WayA (zaT g p (zaD g p) sinks) 0 w 1 ∧ (metA (zaT g p (zaD g p) sinks) w).Nodup)
  (hs : ∀ i,i < (zaT g p (zaD g p) sinks).length → (sumN (List.count i) W : Int) ≤ f.getD i 0) (hl : W.length = sinks.length) :
  zi5 g p.lv p.seeds (ordL (zai g p.lv) p.seeds) (zaD g p) (W.map (zcw (zaT g p (zaD g p) sinks))) ends:=by
 have hgl:=hg.level p.lv
 have hse:=hp.2.1.nodup
 have hle:=zhC hg p.lv
 have hmo : ∀ k,0 ≤ k → 0 < (zaD g p).getD k.toNat 0 → k ∈ ordL (zai g p.lv) p.seeds:=fun k h0 hc=>by
  have h1:=(zfG hp h0).1 hc
  exact (zio hgl).2 ⟨⟨h0,h1.1⟩,h1.2⟩
 have hnet : zgy (zaT g p (zaD g p) sinks) (fun x y=>zoF g p.lv x y ∧ y ∈ ordL (zai g p.lv) p.seeds) (p.seeds.filter fun x=>decide (x ∈ ordL (zai g p.lv) p.seeds)) sinks fun x=>(zaD g p).getD x.toNat 0:=by
  refine znN (fun e he hc=>?_) (fun x hx hc=>?_) hse.1 (fun x hx=>(hse.2 x hx).1) hk hk0 hle.1 fun e he=>⟨(hle.2 e he).1,(hle.2 e he).2.2.1⟩
  ·have h0:=hle.2 e he
   have h1:=(zfG hp h0.1).1 hc
   have h2:=zq1 hgl he h1.2
   refine ⟨?_,(zio hgl).2 ⟨⟨h0.2.2.1,h0.2.2.2⟩,h2.1⟩⟩
   unfold zai at he
   have h3:=List.mem_filter.1 he
   refine ⟨e,h3.1,rfl,rfl,?_⟩
   have:=h3.2
   simp at this
   omega
  ·exact List.mem_filter.2 ⟨hx,by simpa using hmo x (hse.2 x hx).1 hc⟩
 obtain ⟨q1,q2,q3,q4⟩:=zoN hnet hf hw hs (zfb hp)
 refine ⟨by rw [List.length_map,hl,hpe.length_eq],hpe.nodup_iff.2 hk,fun w hwW=>?_,fun k hkl=>hpe.mem_iff.2 (q3 k hkl),q2,q1⟩
 obtain ⟨⟨k,hk1,hk2⟩,h2,h3⟩:=q4 w hwW
 have hk3:=List.mem_filter.1 hk2
 have hk4 : k ∈ ordL (zai g p.lv) p.seeds:=by simpa using hk3.2
 refine ⟨⟨k,hk1,hk3.1⟩,fun x hx=>?_,h2,fun i hi=>(h3 i hi).1⟩
 obtain ⟨i,hi,rfl⟩:=List.mem_iff_getElem.1 hx
 cases i with
 | zero =>
   rw [List.head?_eq_getElem?,List.getElem?_eq_getElem hi] at hk1
   rw [Option.some.inj hk1]
   exact hk4
 | succ i=>exact (h3 i hi).2
theorem GrOk.edges_le {g : Gr} (h : GrOk g) : g.edges.length ≤ 500:=h.1.2.2.1
theorem zbx {g : Gr} {p : Pol} : (zaD g p).length = g.size.toNat:=by simp [zaD,zbe,zai]
def zco (g : Gr) (p : Pol) (k : Nat) : List Int:=(zaD g p).take k ++ (zbe (zai g p.lv) p.seeds).drop k
theorem zks {g : Gr} {p : Pol} (k : Nat) (hk : k ≤ g.size.toNat) : (zco g p k).length = g.size.toNat:=by simp [zco,zbx,zbe,zai]; omega
theorem znQ {g : Gr} {p : Pol} : zco g p 0 = zbe (zai g p.lv) p.seeds:=by simp [zco]
theorem zoZ {g : Gr} {p : Pol} : zco g p g.size.toNat = zaD g p:=by
 unfold zco
 rw [List.take_of_length_le (by rw [zbx]; exact Nat.le_refl _),List.drop_eq_nil_of_le (by simp [zbe,zai])]
 simp
theorem zoP {g : Gr} {p : Pol} {k : Nat} (hk : k < g.size.toNat) : (zco g p k)[k]? = some (dist (zai g p.lv) p.seeds k):=by
 unfold zco
 rw [List.getElem?_append_right (by simp [zbx]; omega)]
 simp [zbx,Nat.min_eq_left (Nat.le_of_lt hk),zbe,zai,hk]
theorem zoQ {g : Gr} {p : Pol} {k : Nat} (hk : k < g.size.toNat) : (zah (zco g p k)).set k [AV.I (zdA p (dist (zai g p.lv) p.seeds k))] = zah (zco g p (k + 1)):=by
 rw [show [AV.I (zdA p (dist (zai g p.lv) p.seeds k))] = (fun n : Int=>[AV.I n]) (zdA p (dist (zai g p.lv) p.seeds k)) from rfl]
 show (List.map (fun n : Int=>[AV.I n]) (zco g p k)).set k _ = List.map (fun n : Int=>[AV.I n]) _
 rw [← List.map_set]
 congr 1
 have hc : k < (zaD g p).length:=by rw [zbx]; exact hk
 have hd : k < (zbe (zai g p.lv) p.seeds).length:=by simp [zbe,zai,hk]
 unfold zco
 rw [List.set_append,if_neg (by simp [zbx]; omega)]
 rw [show k - ((zaD g p).take k).length = 0 by simp [zbx]; omega]
 rw [List.drop_eq_getElem_cons hd,List.set_cons_zero,List.take_succ_eq_append_getElem hc,List.append_assoc]
 congr 2
 simp [zaD,zbe]
set_option maxRecDepth 100000 in
theorem zfn (g : Gr) (p : Pol) (hg : GrOk g) (hs : p.seeds.length ≤ 1099511627776) : zaj Tryz.prog zdi [eG g,eP p] [] (.rs 0 0 g.size.toNat) [some ⟨1,zah (zaD g p),0⟩]:=by
 refine zkR.acalls (Nat.le_of_ble_eq_true rfl) (Nat.le_of_ble_eq_true rfl) (Nat.zero_le _) ?_
 show awp _ 0 _ _ ⟨30,[(0,eG g),(1,eP p)],[],16⟩
 have hsz:=hg.1.1
 have hsz2:=hg.1.2.1
 have hel:=hg.edges_le
 have hgl:=hg.gone_le
 have hall:=zfe (zai g p.lv) p.seeds (hg.level p.lv) hs
 have hsl : (zai g p.lv).size = g.size:=rfl
 rw [hsl,← znQ] at hall
 obtain ⟨N,hNe⟩ : ∃ N : Nat,N = g.size.toNat:=⟨_,rfl⟩
 rw [← hNe] at hall
 have hml : ∀ k,k ≤ N → (zah (zco g p k)).length = N:=fun k hk=>by rw [List.length_map,zks k (by omega),hNe]
 have hmg : ∀ (k : Nat) (h : k < (zco g p k).length),k < N → (zco g p k)[k] = dist (zai g p.lv) p.seeds k:=fun k h hk=>by
  have:=zoP (g:=g) (p:=p) (k:=k) (by omega)
  rw [List.getElem?_eq_getElem h] at this
  exact Option.some.inj this
 have hml2 : ∀ k,k ≤ N → (zco g p k).length = N:=fun k hk=>by rw [zks k (by omega),hNe]
 have hms : ∀ k : Nat,k < N → (zah (zco g p k)).set k [AV.I (zdA p (dist (zai g p.lv) p.seeds k))] = zah (zco g p (k + 1)):=fun k hk=>zoQ (by omega)
 refine rx (s:=?s1) [2,3] [] [16,24] rfl ?o1 ?q1
 case o1=>simp; rfl
 refine zaw ⟨30,[(3,.pv (pC p)),(5,.rs 88 0 N)],[(88,some ⟨1,zah (zco g p 0),0⟩)],104⟩ rfl ?_ ?_
 ·simp
  refine zal (zed g p.lv (by omega) (by omega)) (by simp) ?_
  simp
  refine za1 hall rfl ?_
  simp [fcd]
  exact ⟨rfl,Le.keep rfl (Nat.le_refl _) (by simp) (by simp)⟩
 refine zaa ?_
 refine rk (s:=?s3) [3,5,15,16,17] [88] rfl ?o3 ?q3
 case o3=>simp; rfl
 refine zaf ?_
 refine zao (ι:=Nat) (fun i=>⟨30,[(3,.pv (pC p)),(5,.rs 88 0 N),(15,.rs 88 0 N),(16,.I N),(17,.I i)],[(88,some ⟨1,zah (zco g p i),0⟩)],128⟩) (fun i=>i ≤ N) (fun i=>N - i) 0 (by simp) (Le.keep rfl (Nat.le_refl _) (by simp) (by simp)) ?_
 intro i hi
 refine rk (s:=?s5) [3,5,15,16,17,18] [88] rfl ?o5 ?q5
 case o5=>simp; rfl
 refine zaa ?_
 refine zad _ rfl (fun h6=>?_) fun h6=>?_
 ·simp at h6
  have hw : IntKind.i64.wrap ((i : Int) + 1) = (i : Int) + 1:=w64 (by omega) (by omega)
  refine zae ?_
  refine zaa ?_
  refine zaf ?_
  refine rk (s:=?s7) [3,5,6,7,15,16,17] [88] rfl ?o7 ?q7
  case o7=>simp [h6,hml2,hmg,hi]; rfl
  refine zac (s:=?s8) rfl ?o8 ?q8
  case o8 =>
   simp
   refine zal (zjA p (dist (zai g p.lv) p.seeds i)) (by simp) ?_
   simp [h6,hml2,hi,hms]
   rfl
  refine zac (s:=?s9) rfl ?o9 ?q9
  case o9=>simp [hw]; rfl
  exact ⟨i + 1,by omega,by omega,Le.go [(88,88)] [] rfl rfl (by simp) (by simp [fcd])⟩
 simp at h6
 obtain rfl : i = N:=by omega
 refine zan ?_
 refine hit ?_
 refine rk (s:=?s10) [4] [88] rfl ?o10 ?q10
 case o10=>simp; rfl
 refine zag ?_
 refine ⟨.inr rfl,zam.out [88] [] rfl (by simp) (by simp) (by simp [hNe]) (by simp [fcd,hNe,zoZ])⟩
theorem ziz {g : Gr} {p : Pol} {k : Nat} (hk : k < g.size.toNat) : (zaD g p).take (k + 1) = (zaD g p).take k ++ [zdA p (dist (zai g p.lv) p.seeds k)]:=by
 rw [List.take_succ_eq_append_getElem (by rw [zbx]; exact hk)]
 simp [zaD,zbe]
set_option maxRecDepth 100000 in
theorem zmO (g : Gr) (p : Pol) (hg : GrOk g) (hs : p.seeds.length ≤ 1099511627776) : zaj Tryz.prog zhj [eG g,eP p] [] (.rs 0 0 g.size.toNat) [some ⟨1,zah (zaD g p),0⟩]:=by
 refine zo5.acalls (Nat.le_of_ble_eq_true rfl) (Nat.le_of_ble_eq_true rfl) (Nat.zero_le _) ?_
 show awp _ 0 _ _ ⟨31,[(0,eG g),(1,eP p)],[],16⟩
 have hsz:=hg.1.1
 have hsz2:=hg.1.2.1
 have hel:=hg.edges_le
 have hgl:=hg.gone_le
 have hall:=zd1 (zai g p.lv) p.seeds (hg.level p.lv) hs
 have hsl : (zai g p.lv).size = g.size:=rfl
 rw [hsl] at hall
 obtain ⟨N,hNe⟩ : ∃ N : Nat,N = g.size.toNat:=⟨_,rfl⟩
 have hDl : (zbe (zai g p.lv) p.seeds).length = N:=by simp [zbe,zai,hNe]
 have hDg : ∀ (k : Nat) (h : k < (zbe (zai g p.lv) p.seeds).length),(zbe (zai g p.lv) p.seeds)[k] = dist (zai g p.lv) p.seeds k:=fun k h=>by simp [zbe]
 rw [← hNe] at hall
 obtain ⟨D,hD⟩ : ∃ D,D = zbe (zai g p.lv) p.seeds:=⟨_,rfl⟩
 rw [← hD] at hall hDl
 simp only [← hD] at hDg
 have hcl : (zaD g p).length = N:=by rw [zbx,hNe]
 obtain ⟨C,hC0,hCs,hCl,hCN⟩ : ∃ C : Nat → List Int,C 0 = [] ∧ (∀ k : Nat,k < N → C (k + 1) = C k ++ [zdA p (dist (zai g p.lv) p.seeds k)]) ∧ (∀ k,k ≤ N → (C k).length = k) ∧ C N = zaD g p :=
  ⟨fun k=>(zaD g p).take k,by simp,fun k hk=>ziz (by omega),fun k hk=>by simp [hcl,hk],by simp [← hcl]⟩
 refine rx (s:=?s1) [2,3] [] [16,24] rfl ?o1 ?q1
 case o1=>simp; rfl
 refine zaw ⟨31,[(3,.pv (pC p)),(5,ints D)],[],104⟩ rfl ?_ ?_
 ·simp
  refine zal (zc3 g p.lv (by omega) (by omega)) (by simp) ?_
  simp
  refine za1 hall rfl ?_
  simp [fcd]
  exact ⟨rfl,Le.snap [88] rfl rfl (by simp [fcd,← hDl,zaq])⟩
 refine rx (s:=?s3) [3,5,6] [] [] rfl ?o3 ?q3
 case o3=>simp; rfl
 refine zaa ?_
 refine rx (s:=?s4) [3,5,6,7] [] [] rfl ?o4 ?q4
 case o4=>simp; rfl
 refine zaf ?_
 refine zao (ι:=Nat) (fun i=>⟨31,[(3,.pv (pC p)),(5,ints D),(6,.rs 16 0 i),(7,.I i)],[(16,some ⟨1,zah (C i),0⟩)],120⟩) (fun i=>i ≤ N) (fun i=>N - i) 0 (by simp) (Le.lst [] [] [(16,1)] rfl (by simp) (by simp) (by simp) (by simp) (by simp) (by simp) (by simp) (by simp [Up]) (by simp [hC0])) ?_
 intro i hi
 have hCi:=hCl i hi
 have hti : ∀ f : Int → List AV,List.take i (List.map f (C i)) = List.map f (C i):=fun f=>List.take_of_length_le (by simp [hCi])
 refine zaa ?_
 refine rk (s:=?s5) [3,5,6,7,18] [16] rfl ?o5 ?q5
 case o5=>simp [hDl]; rfl
 refine zad _ rfl (fun h6=>?_) fun h6=>?_
 ·simp at h6
  have hw : IntKind.i64.wrap ((i : Int) + 1) = (i : Int) + 1:=w64 (by omega) (by omega)
  refine zae ?_
  refine zaa ?_
  refine zaf ?_
  refine zbS rfl ?_
  simp [h6,hDl,hDg]
  refine zal (znt p (dist (zai g p.lv) p.seeds i)) (by simp) ?_
  simp [hCi]
  refine ⟨by omega,by omega,rfl,?_⟩
  refine zav rfl ?_
  simp [hw]
  exact ⟨i + 1,by omega,by omega,Le.go [(216,16)] [] rfl rfl (by simp) (by simp [fcd,hCs i h6,hti])⟩
 simp at h6
 obtain rfl : i = N:=by omega
 refine zan ?_
 refine hit ?_
 refine rk (s:=?s7) [4] [16] rfl ?o7 ?q7
 case o7=>simp; rfl
 refine zag ?_
 exact ⟨.inr rfl,zam.out [16] [] rfl (by simp) (by simp) (by simp [hNe]) (by simp [fcd,hCN])⟩
end Go.Proofs.YteiabadhhhckfaaGreat
namespace Go.Proofs.YteiabadhhhckfaaGreat
open Go Go.RowKit Go.Shelf Go.Maps Go.Sort
theorem arr2 {vs : Array Value} (h : vs.size = 2) : vs = #[vs.getD 0 undef,vs.getD 1 undef]:=by
 apply Array.ext
 ·simpa using h
 ·intro i h1 h2
  have : i = 0 ∨ i = 1:=by simp at h2; omega
  rcases this with rfl | rfl <;> simp [Array.getD,h1] <;> intro h3 <;> omega
theorem zrm (x : Int) : (encZ x : Value) = .int .i64 x:=rfl
theorem zms (l : List Int) (hl : l.length ≤ 1099511627776) : zaj Tryz.prog zb3 [.nilS,.fn (.func zbh) [] [.pv [ints l]]] [] (.rs 0 0 l.length) [some ⟨1,zah l,0⟩]:=by
 refine ⟨⟨_,_,Tryz.func180,rfl,by decide⟩,by simp,fun T M w vs htok hhs hdom hrep=>?_⟩
 obtain ⟨hsz,hr⟩:=hrep
 have hr0:=hr 0 (by simp)
 have hr1:=hr 1 (by simp)
 simp only [List.getD_cons_zero,List.getD_cons_succ] at hr0 hr1
 rw [arr2 hsz]
 generalize vs.getD 0 undef = v0 at hr0
 generalize vs.getD 1 undef = v1 at hr1
 cases hr0
 cases hr1 with
 | fn _ _ _ _ us ws hx hy h h' =>
 have hus : us = #[]:=by simpa using hx
 subst hus
 have hws:=arr1 (vs:=ws) hy
 have hc0:=h' 0 (by simp)
 simp only [List.getD_cons_zero] at hc0
 rw [hws]
 generalize ws.getD 0 undef = u at hc0
 cases hc0 with
 | pv _ _ Bs B0 cells ty fz c hb ht hcc ho hh =>
 have hB:=hcc 0 (by simp)
 have hv:=hh 0 (by simp)
 simp only [List.getD_cons_zero,Nat.add_zero] at hB hv
 have hBl : Bs < w.heap.size:=(Array.getElem?_eq_some_iff.1 hb).1
 generalize c 0 = sv at hB hv
 cases hv with
 | vs _ _ _ _ a cap cc hf hle hw hbb h1 hcv =>
 have hlen : (l.map fun n=>[AV.I n]).length = l.length:=by simp
 rw [hlen] at hB
 have hcell : ∃ b off,(l ≠ [] → a = some ⟨b,off,none⟩ ∧ b < w.heap.size) ∧ ∀ j (h : j < l.length),w.cell? ⟨b,off + j,none⟩ = some (.int .i64 l[j]):=by
  by_cases h0 : l = []
  ·exact ⟨0,0,fun h=>absurd h0 h,fun j hj=>by subst h0; simp at hj⟩
  ·obtain ⟨b,off,cs,ty',fz',ha,hwb,_,hrow⟩:=hbb (by simpa using h0)
   refine ⟨b,off,fun _=>⟨ha,(Array.getElem?_eq_some_iff.1 hwb).1⟩,fun j hj=>?_⟩
   have h2:=hrow j 0 (by simpa using hj) (by decide)
   have h3:=hcv j 0 (by simpa using hj) (by decide)
   have e : ((l.map fun n=>[AV.I n]).getD j []).getD 0 .dead = .I l[j]:=by simp [List.getD,hj]
   rw [e] at h3
   have h4:=zbf h3 rfl
   rw [h4] at h2
   simp only [World.cell?,hwb]
   simpa using h2
 obtain ⟨b,off,hab,hcs⟩:=hcell
 rw [← callsIn_wide (n:=2)]
 refine (zlu Fence.wide 2 trivial trivial rfl (by omega) Bs B0 b off cap a l (fun h=>(hab h).1) hl w ?_ hBl (fun h=>(hab h).2) hcs).mono ?_
 ·simp only [World.cell?,hb]
  exact hB
 rintro e w' ⟨v,rfl,⟨_,hown⟩,hbel⟩
 have hpr : Pres T w T w':=⟨fun _=>Nat.le_refl _,fun b' cs' ty' fz' h=>⟨cs',fz',by rw [hbel.block b' (Array.getElem?_eq_some_iff.1 h).1]; exact h,rfl,fun _ _=>rfl⟩⟩
 have hT0 : ∀ b',w.heap.size ≤ b' → T b' = 0:=fun b' hb'=>by
  rcases Nat.eq_zero_or_pos (T b') with e | e
  ·exact e
  ·obtain ⟨cells,ty,fz,h1,_⟩:=htok b' e
   have:=(Array.getElem?_eq_some_iff.1 h1).1
   omega
 have htok' : TOk T w':=fun b' hb'=>by
  obtain ⟨cells,ty,fz,h1,h2⟩:=htok b' hb'
  exact ⟨cells,ty,fz,by rw [hbel.block b' (Array.getElem?_eq_some_iff.1 h1).1]; exact h1,h2⟩
 have fin : ∀ g : GE,(∀ b,g.blk = some b → w.heap.size ≤ b) → zlU T w' (fun k=>if k = 0 then some g else none) ⟨1,zah l,0⟩ g → Rep T w' (fun k=>if k = 0 then some g else none) (.rs 0 0 l.length) v →
   ∃ v' T' M',Ending.returned v = .returned v' ∧ Rep T' w' M' (.rs 0 0 l.length) v' ∧ HsOk T' w' M' (ziu [some ⟨1,zah l,0⟩]) ∧ zhc 0 T M w T' M' w':=by
  intro g hg ent hv
  refine ⟨v,T,_,rfl,hv,?_,⟨htok',fun _ _ _=>rfl,fun k hk=>absurd hk (Nat.not_lt_zero k),hbel.os,hbel.tape,hbel.output,hbel.size,fun b' hb' _=>hbel.block b' hb',hpr,fun k g1 b1 _ h1 h2=>?_⟩⟩
  ·rw [show ([some ⟨1,zah l,0⟩] : List (Option Ent)) = List.map some [⟨1,zah l,0⟩] from rfl,zhp]
   have z : ∀ id e,hpOf [(⟨1,zah l,0⟩ : Ent)] id = some e → id = 0 ∧ e = ⟨1,zah l,0⟩:=by
    intro id e he
    cases id with
    | zero=>simp [hpOf] at he; exact ⟨rfl,he.symm⟩
    | succ k=>simp [hpOf] at he
   refine ⟨fun id e he=>?_,fun id id' e e' _ _ _ h1 h2 _ _ _ _=>by rw [(z _ _ h1).1,(z _ _ h2).1]⟩
   obtain ⟨rfl,rfl⟩:=z _ _ he
   exact ⟨g,rfl,ent⟩
  ·by_cases hk : k = 0
   ·subst hk
    simp at h1
    subst h1
    exact .inr (hg b1 h2)
   ·simp [hk] at h1
 have hwide : ∀ row ∈ zah l,row.length = 1:=by intro row hr; simp at hr; obtain ⟨x,_,rfl⟩:=hr; rfl
 rcases hown with ⟨rfl,h0⟩ | ⟨g,cp,cur,rfl,hg,hgw,hle2,hcm,hcsz,htk⟩
 ·have h0' : l = []:=List.length_eq_zero_iff.1 h0
  subst h0'
  exact fin ⟨none,0,1⟩ (by simp) ⟨rfl,Nat.zero_le _,fun _=>hwide,(fun _=>rfl),(fun hz=>absurd hz (Nat.succ_ne_zero 0)),fun _ b' hb'=>by cases hb'⟩ (.rs _ _ _ _ _ _ _ rfl (Nat.succ_ne_zero 0) (Nat.le_refl _) (fun _=>⟨rfl,rfl⟩) fun b' hb'=>by cases hb')
 ·refine fin ⟨some g,0,1⟩ (fun b' hb'=>by cases hb'; exact hg) ⟨rfl,Nat.zero_le _,fun _=>hwide,(fun hn=>by cases hn),(fun hz=>absurd hz (Nat.succ_ne_zero 0)),fun _ b' hb'=>?_⟩ (.rs _ _ _ _ cp _ _ rfl (Nat.succ_ne_zero 0) hle2 (fun hn=>by cases hn) fun b' hb'=>?_)
  ·obtain rfl:=Option.some.inj hb'
   refine ⟨cur,3,hgw,by rw [hT0 g hg]; exact Nat.zero_le _,by simp; omega,fun i j hi hj=>?_⟩
   have hi' : i < l.length:=by simpa using hi
   obtain rfl : j = 0:=by simpa using hj
   refine ⟨.int .i64 l[i],?_,rfl,?_⟩
   ·have : (cur.toList.take (l.length * 1))[i]? = (l.map encZ)[i]?:=by rw [htk]
    rw [List.getElem?_take,if_pos (by omega)] at this
    simpa [hi',zrm] using this
   ·have e : ((zah l).getD i []).getD 0 .dead = .I l[i]:=by simp [List.getD,hi']
    rw [e]
    exact .sc _ _ rfl
  ·obtain rfl:=Option.some.inj hb'
   exact ⟨.inr (by simp),cur,3,(0,0),hgw,by simp; omega⟩
section
variable {P : Program} {np id : Nat} {h : Nat → Option Ent} {K : AV → List Nat → List (Nat × Option Ent) → Prop} {f : FuncId} {first capt args args' : List AV} {res : AV}
theorem zp8 (sn : List Nat) (hnp : ∀ i ∈ sn,np ≤ i) (hc : zaj P f args' [] res []) (hw : (first ++ args ++ capt).map (conv [] sn h 4) = args')
  (hk : K (conv (((List.range 8).map (id + ·)).zipIdx.map fun (a,b)=>(b,a)) [] (fun _=>none) 4 res) sn (sn.filterMap fun i=>(h i).map fun e=>(i,some { e with ro:=e.rows.length }))) : aK P np id .call (.fn (.func f) first capt :: args) h K :=
 ⟨[],sn,true,args',[],res,[],by simp,by simp,fun _=>hnp,by rw [List.zipIdx_nil,hw]; exact zb1 _,rfl,hc,by simp,.inl rfl,by simpa using hk⟩
end
abbrev seqF (l : List Int) : AV:=.fn (.func zbh) [] [.pv [ints l]]
theorem zqd (l : List Int) : zaj Tryz.prog zbD [ints l] [] (seqF l) []:=by
 refine zeQ.acalls (Nat.le_of_ble_eq_true rfl) (Nat.le_of_ble_eq_true rfl) (Nat.le_refl _) ?_
 show awp _ 0 _ _ ⟨4,[(0,ints l)],[],16⟩
 refine rk (s:=?s1) [1] [16] rfl ?o1 ?q1
 case o1=>simp; rfl
 refine rk (s:=?s2) [2] [16] rfl ?o2 ?q2
 case o2=>simp; rfl
 refine zag ?_
 exact ⟨.inr rfl,zam.out [] [16] rfl (by simp) (by simp) (by simp) (by simp)⟩
theorem zoX (l : List Int) (hl : l.length ≤ 1099511627776) : zaj Tryz.prog zcg [seqF l] [] (.rs 0 0 l.length) [some ⟨1,zah l,0⟩]:=by
 refine zgc.acalls (Nat.le_of_ble_eq_true rfl) (Nat.le_of_ble_eq_true rfl) (Nat.zero_le _) ?_
 show awp _ 0 _ _ ⟨5,[(0,seqF l)],[],16⟩
 refine rk (s:=?s1) [0] [] rfl ?o1 ?q1
 case o1=>simp; rfl
 refine rk (s:=?s2) [2] [32] rfl ?o2 ?q2
 case o2 =>
  simp
  refine za1 (zms l hl) (by simp) ?_
  simp [fcd]
  rfl
 refine zag ?_
 exact ⟨.inr rfl,zam.out [32] [] rfl (by simp) (by simp) (by simp) (by simp [fcd])⟩
theorem zra (l : List Int) (hl : l.length ≤ 1099511627776) : zaj Tryz.prog zbL [seqF l] [] (.rs 0 0 l.length) [some ⟨1,zah (zfl l),0⟩]:=by
 refine zgA.acalls (Nat.le_of_ble_eq_true rfl) (Nat.le_of_ble_eq_true rfl) (Nat.zero_le _) ?_
 show awp _ 0 _ _ ⟨9,[(0,seqF l)],[],16⟩
 refine rk (s:=?s1) [0] [] rfl ?o1 ?q1
 case o1=>simp; rfl
 refine rk (s:=?s2) [3] [32] rfl ?o2 ?q2
 case o2 =>
  simp
  refine za1 (zoX l hl) (by simp) ?_
  simp [fcd]
  rfl
 refine rk (s:=?s3) [3] [32] rfl ?o3 ?q3
 case o3 =>
  simp
  refine zby (i:=32) rfl (e':=⟨1,zdM l,0⟩) (by simp [fcd,zdM]) (zq3 l (by omega)) (by simp) (by simp) ?_
  simp [fcd,zdM]
  rfl
 refine rk (s:=?s4) [2] [32] rfl ?o4 ?q4
 case o4=>simp; rfl
 refine zag ?_
 exact ⟨.inr rfl,zam.out [32] [] rfl (by simp) (by simp) (by simp) (by simp [fcd])⟩
section
variable {P : Program} {np id : Nat} {h : Nat → Option Ent} {K : AV → List Nat → List (Nat × Option Ent) → Prop} {s s' l k : Nat} {f : Bool} {rows : List (List AV)}
@[simp] theorem zub : aK P np id (.slc s true true false) [.vs s' f rows,.sc (.int .i64 (l : Int)),.sc (.int .i64 (k : Int))] h K = (l ≤ k ∧ k ≤ rows.length ∧ s' = s ∧ K (.vs s false ((rows.drop l).take (k - l))) [] []):=by
 rw [ziZ]
 refine propext ⟨?_,?_⟩
 ·rintro ⟨l',r,m,n,h1,h2,h4,h5,h6,h7,h3,h10,h8,h9⟩
  simp at h4 h1
  subst h1
  obtain ⟨rfl,rfl⟩ : l = l' ∧ k = r:=by omega
  exact ⟨h2,h3,h8,by simpa using h9⟩
 ·rintro ⟨h1,h2,h3,h4⟩
  exact ⟨l,k,0,rows.length,rfl,h1,by simp,(fun h=>by cases h),(fun h=>by cases h),(fun h=>by cases h),h2,(fun h=>by cases h),h3,by simpa using h4⟩
end
theorem ziW {g : Gr} {p : Pol} {n : Int} (hp : zaZ n p) : ∀ c ∈ zaD g p,0 ≤ c ∧ c ≤ 1000:=by
 intro c hc
 obtain ⟨d,_,rfl⟩:=List.mem_map.1 hc
 exact zf6 hp d
abbrev nC (n : Net) : List AV:=[.I n.nodes,eEs n.arcs]
abbrev eN (n : Net) : AV:=.agg (nC n)
theorem zkE (f : FuncId) (capt : List AV) (q : Ed → Bool) (l : List Ed) (hl : l.length ≤ 1099511627776) (hs : zi1 capt) (hc : ∀ e ∈ l,zaj Tryz.prog f (eE e :: capt) [] (.B (q e)) []) : zaj Tryz.prog zaS [eEs l,.fn (.func f) [] capt] [] (.I (idxQ l q)) []:=by
 have hs2 : ∀ ρ sn h,capt.map (conv ρ sn h 2) = capt:=fun _ _ _=>hs _ _ _ 1
 have hs3 : ∀ ρ sn h,capt.map (conv ρ sn h 3) = capt:=fun _ _ _=>hs _ _ _ 2
 have hs4 : ∀ ρ sn h,capt.map (conv ρ sn h 4) = capt:=fun _ _ _=>hs _ _ _ 3
 refine zcv.acalls (Nat.le_of_ble_eq_true rfl) (Nat.le_of_ble_eq_true rfl) (Nat.le_refl _) ?_
 show awp _ 0 _ _ ⟨19,[(0,eEs l),(1,.fn (.func f) [] capt)],[],16⟩
 refine zaa ?_
 refine zac (s:=?s1) rfl ?o1 ?q1
 case o1=>simp; rfl
 refine zaa ?_
 refine zaa ?_
 refine zac (s:=?s2) rfl ?o2 ?q2
 case o2=>simp; rfl
 refine zaf ?_
 refine zao (ι:=Nat) (fun k=>⟨19,[(0,eEs l),(1,.fn (.func f) [] capt),(7,.I l.length),(8,.I k)],[],16⟩) (fun k=>k ≤ l.length ∧ ∀ i,i < k → ∀ h : i < l.length,q l[i] = false) (fun k=>l.length - k) (0) ?_ (Le.snap [] rfl rfl (by simp [hs2,hs3,hs4])) ?_
 ·simp
 rintro k ⟨hk,hp⟩
 refine zaa ?_
 refine zac (s:=?s3) rfl ?o3 ?q3
 case o3=>simp; rfl
 refine zaa ?_
 refine zad _ rfl (fun h4=>?_) fun h4=>?_
 ·try simp at h4
  have hw2 : IntKind.i64.wrap ((k : Int) + 1) = (k : Int) + 1:=w64 (by omega) (by omega)
  have hck:=hc l[k] (List.getElem_mem h4)
  refine zae ?_
  refine zaa ?_
  refine zaf ?_
  refine zaa ?_
  refine zac (s:=?s5) rfl ?o5 ?q5
  case o5=>simp [h4,hw2]; rfl
  refine zaa ?_
  refine zac (s:=?s6) rfl ?o6 ?q6
  case o6 =>
   simp [h4,hw2]
   refine zal hck ?_ ?_
   ·simp [hs2,hs3,hs4]
   simp [h4,hw2]; rfl
  refine zad _ rfl (fun h7=>?_) fun h7=>?_
  ·try simp at h7
   refine zaa ?_
   refine zac (s:=?s8) rfl ?o8 ?q8
   case o8=>simp [h4,hw2]; rfl
   refine zag ?_
   exact ⟨.inr rfl,zam.one (by simp [znM h4 hp h7])⟩
  try simp at h7
  refine zae ?_
  refine zac (s:=?s9) rfl ?o9 ?q9
  case o9=>simp [h4,hw2]; rfl
  refine ⟨k + 1,⟨h4,fun i hi=>?_⟩,by omega,Le.snap [] rfl rfl (by simp [h4,hw2,hs2,hs3,hs4])⟩
  rcases Nat.lt_succ_iff_lt_or_eq.1 hi with h | rfl
  ·exact hp i h
  ·exact fun _=>h7
 try simp at h4
 have hall : ∀ i,i < l.length → ∀ h : i < l.length,q l[i] = false:=fun i hi=>hp i (by omega)
 refine zan ?_
 refine hit ?_
 refine zaa ?_
 refine zac (s:=?s10) rfl ?o10 ?q10
 case o10=>simp; rfl
 refine zag ?_
 exact ⟨.inr rfl,zam.one (by simp [znL hall])⟩
theorem zh2 (f : FuncId) (capt : List AV) (q : Ed → Bool) (l : List Ed) (hl : l.length ≤ 1099511627776) (hs : zi1 capt) (hc : ∀ e ∈ l,zaj Tryz.prog f (eE e :: capt) [] (.B (q e)) []) : zaj Tryz.prog zaN [eEs l,.fn (.func f) [] capt] [] (.B (l.any q)) []:=by
 have hs2 : ∀ ρ sn h,capt.map (conv ρ sn h 2) = capt:=fun _ _ _=>hs _ _ _ 1
 have hs3 : ∀ ρ sn h,capt.map (conv ρ sn h 3) = capt:=fun _ _ _=>hs _ _ _ 2
 have hs4 : ∀ ρ sn h,capt.map (conv ρ sn h 4) = capt:=fun _ _ _=>hs _ _ _ 3
 refine zb5.acalls (Nat.le_of_ble_eq_true rfl) (Nat.le_of_ble_eq_true rfl) (Nat.le_refl _) ?_
 show awp _ 0 _ _ ⟨9,[(0,eEs l),(1,.fn (.func f) [] capt)],[],16⟩
 refine zaa ?_
 refine zac (s:=?s1) rfl ?o1 ?q1
 case o1=>simp; rfl
 have hi : decide (0 ≤ idxQ l q) = l.any q:=by
  unfold idxQ
  by_cases h : l.findIdx q < l.length
  ·rw [if_pos h]
   have:=List.findIdx_getElem (w:=h)
   have h2 : l.any q = true:=List.any_eq_true.2 ⟨_,List.getElem_mem h,this⟩
   rw [h2]
   simp
  ·rw [if_neg h]
   have : l.findIdx q = l.length:=by have:=List.findIdx_le_length (xs:=l) (p:=q); omega
   rw [List.findIdx_eq_length] at this
   have h2 : l.any q = false:=by
    rw [List.any_eq_false]
    intro x hx
    simp [this x hx]
   rw [h2]
   simp
 refine zab ⟨9,[(4,.B (l.any q))],[],16⟩ rfl ?_ ?_
 ·simp
  refine zal (zkE f capt q l hl hs hc) ?_ ?_
  ·simp [hs2,hs3,hs4]
  simp
  exact Le.snap [] rfl rfl (by simp; exact wkB hi)
 refine zag ?_
 exact ⟨.inr rfl,zam.one (by simp)⟩
theorem zhY (n : Net) (a : Ed) (h2 : 2 ≤ n.nodes) (h3 : n.nodes ≤ 130) : zaj Tryz.prog zcW [eE a,.pv (nC n)] [] (.B (!decide (zib n.nodes a))) []:=by
 refine zjR.acalls (Nat.le_of_ble_eq_true rfl) (Nat.le_of_ble_eq_true rfl) (Nat.le_refl _) ?_
 show awp _ 0 _ _ ⟨43,[(0,eE a),(1,.pv (nC n))],[],16⟩
 have hw : IntKind.i64.wrap (n.nodes - 1) = n.nodes - 1:=w64 (by omega) (by omega)
 refine rx (s:=?s1) [1,2] [] [16] rfl ?o1 ?q1
 case o1=>simp; rfl
 refine zab ⟨43,[(3,.B (!decide (zib n.nodes a)))],[],400⟩ rfl ?_ ?_
 ·simp [hw]
  repeat' first
   | (refine zdL zaL rfl ?_; refine zal (zbp ..) rfl ?_; simp [hw])
   | (refine zcD (fun hb=>?_) (fun hb=>?_) <;> (try rw [hb]) <;> (try simp at hb) <;> simp [hb,hw])
  all_goals exact Le.snap [] rfl rfl (by simp <;> exact wkB (by (try simp at *); grind [zib]))
 refine zag ?_
 exact ⟨.inr rfl,zam.one (by simp)⟩
theorem zez (n : Net) (hl : n.arcs.length ≤ 1099511627776) : zaj Tryz.prog zdB [eN n] [] (.I (if za4 n then 0 else 16)) []:=by
 refine znw.acalls (Nat.le_of_ble_eq_true rfl) (Nat.le_of_ble_eq_true rfl) (Nat.le_refl _) ?_
 show awp _ 0 _ _ ⟨21,[(0,eN n)],[],16⟩
 refine rx (s:=?s1) [1] [] [16] rfl ?o1 ?q1
 case o1=>simp; rfl
 refine rx (s:=?s2) [1,3] [] [] rfl ?o2 ?q2
 case o2=>simp; rfl
 refine zaa ?_
 refine zab ⟨21,[(20,.B (!decide (za4 n)))],[],300⟩ rfl ?_ ?_
 ·by_cases h2 : 2 ≤ n.nodes ∧ n.nodes ≤ 130
  ·have hcf:=zh2 zcW [.pv (nC n)] (fun a=>!decide (zib n.nodes a)) n.arcs hl (fun ρ sn h k=>by simp) (fun e _=>zhY n e h2.1 h2.2)
   simp
   refine zal (zbp ..) rfl ?_
   simp [h2]
   by_cases h3 : n.arcs.length ≤ 1200
   ·simp [show ¬ (1200 < n.arcs.length) by omega,show ¬ (1200 < (n.arcs.length : Int)) by omega]
    refine zal hcf (by simp) ?_
    simp
    refine Le.snap [] rfl rfl (by simp <;> exact wkB (by rw [Bool.eq_iff_iff]; simp [za4,h2,h3]))
   ·simp [show (1200 < n.arcs.length) by omega,show (1200 < (n.arcs.length : Int)) by omega]
    refine Le.snap [] rfl rfl (by simp [za4,h3])
  ·simp
   refine zal (zbp ..) rfl ?_
   have h2' : (decide (2 ≤ n.nodes) && decide (n.nodes ≤ 130)) = false:=by simpa using fun h=>by omega
   simp [h2']
   have hn : ¬ za4 n:=fun h=>h2 ⟨h.1,h.2.1⟩
   refine Le.snap [] rfl rfl (by simp [hn])
 refine zad _ rfl (fun h7=>?_) fun h7=>?_
 ·simp at h7
  refine rx (s:=?s8) [2] [] [] rfl ?o8 ?q8
  case o8=>simp; rfl
  refine zag ?_
  exact ⟨.inr rfl,zam.one (by simp [h7])⟩
 simp at h7
 refine zae ?_
 refine rx (s:=?s9) [2] [] [] rfl ?o9 ?q9
 case o9=>simp; rfl
 refine zag ?_
 exact ⟨.inr rfl,zam.one (by simp [h7])⟩
def zoa (n : Net) : Prop:=(2 ≤ n.nodes ∧ n.nodes ≤ 130) ∧ n.arcs.length ≤ 1200
def zqE (n : Net) (i : Nat) : Prop:=∀ h : i < n.arcs.length,zib n.nodes n.arcs[i]
theorem zhB {n : Net} : za4 n ↔ zoa n ∧ ∀ i,zqE n i:=by
 unfold za4 zoa zqE
 constructor
 ·rintro ⟨a,b,c,d⟩
  exact ⟨⟨⟨a,b⟩,c⟩,fun i h=>d _ (List.getElem_mem h)⟩
 ·rintro ⟨⟨⟨a,b⟩,c⟩,d⟩
  exact ⟨a,b,c,fun x hx=>by obtain ⟨i,hi,rfl⟩:=List.getElem_of_mem hx; exact d i hi⟩
set_option maxRecDepth 100000 in
open Classical in
theorem zfZ (n : Net) (hl : n.arcs.length ≤ 1099511627776) : zaj Tryz.prog zdV [eN n] [] (.I (if za4 n then 0 else 16)) []:=by
 refine zlI.acalls (Nat.le_of_ble_eq_true rfl) (Nat.le_of_ble_eq_true rfl) (Nat.le_refl _) ?_
 show awp _ 0 _ _ ⟨80,[(0,eN n)],[],16⟩
 refine rx (s:=?s1) [1] [] [16] rfl ?o1 ?q1
 case o1=>simp; rfl
 refine zaa ?_
 refine zab ⟨80,[(1,.pv (nC n)),(18,.B (!decide (zoa n)))],[],300⟩ rfl ?_ ?_
 ·simp
  repeat' first
   | (refine zcD (fun hb=>?_) (fun hb=>?_) <;> (try rw [hb]) <;> (try simp at hb) <;> simp [hb])
  all_goals exact Le.snap [] rfl rfl (by simp <;> exact wkB (by (try simp at *); grind [zoa]))
 refine zad _ rfl (fun h3=>?_) fun h3=>?_
 ·simp at h3
  refine rx (s:=?s4) [2] [] [] rfl ?o4 ?q4
  case o4=>simp; rfl
  refine zag ?_
  exact ⟨.inr rfl,zam.one (by simp [zhB,h3])⟩
 simp at h3
 refine zae ?_
 refine zaa ?_
 refine rx (s:=?s5) [1,3] [] [] rfl ?o5 ?q5
 case o5=>simp; rfl
 refine zaf ?_
 refine zao (ι:=Nat) (fun i=>⟨80,[(1,.pv (nC n)),(3,.I i)],[],308⟩) (fun i=>i ≤ n.arcs.length ∧ ∀ k,k < i → zqE n k) (fun i=>n.arcs.length - i) 0 (by simp) (Le.go [] [] rfl rfl (by simp) (by simp)) ?_
 rintro i ⟨hi,hp⟩
 refine zaa ?_
 refine rx (s:=?s6) [1,3,23] [] [] rfl ?o6 ?q6
 case o6=>simp; rfl
 refine zad _ rfl (fun h7=>?_) fun h7=>?_
 ·simp at h7
  have hw : IntKind.i64.wrap ((i : Int) + 1) = (i : Int) + 1:=w64 (by omega) (by omega)
  refine zae ?_
  refine zaa ?_
  refine zaf ?_
  refine zab ⟨80,[(1,.pv (nC n)),(3,.I i),(4,.pv (eC n.arcs[i]))],[],408⟩ rfl ?_ ?_
  ·simp [h7]
   exact Le.snap [388] rfl rfl (by simp)
  refine zab ⟨80,[(1,.pv (nC n)),(3,.I i),(79,.B (!decide (zqE n i)))],[],900⟩ rfl ?_ ?_
  ·simp
   have hat : zqE n i ↔ zib n.nodes n.arcs[i]:=⟨fun h=>h h7,fun h _=>h⟩
   repeat' first
    | (refine zcD (fun hb=>?_) (fun hb=>?_) <;> (try rw [hb]) <;> (try simp at hb) <;> simp [hb])
   all_goals exact Le.snap [] rfl rfl (by simp <;> exact wkB (by (try simp at *); simp only [hat]; grind [zib]))
  refine zad _ rfl (fun h9=>?_) fun h9=>?_
  ·refine rx (s:=?s10) [2] [] [] rfl ?o10 ?q10
   case o10=>simp; rfl
   refine zag ?_
   have hn : ¬ za4 n:=fun h=>by simp at h9; exact h9 ((zhB.1 h).2 i)
   exact ⟨.inr rfl,zam.one (by simp [hn])⟩
  simp at h9
  refine zae ?_
  refine zac (s:=?s11) rfl ?o11 ?q11
  case o11=>simp; rfl
  refine ⟨i + 1,⟨h7,fun k hk=>?_⟩,by omega,Le.go [] [] rfl rfl (by simp [hw]) (by simp)⟩
  rcases Nat.lt_succ_iff_lt_or_eq.1 hk with h | rfl
  ·exact hp k h
  ·exact h9
 simp at h7
 have hy : za4 n:=zhB.2 ⟨h3,fun k hk=>hp k (by omega) hk⟩
 refine zan ?_
 refine hit ?_
 refine rx (s:=?s12) [2] [] [] rfl ?o12 ?q12
 case o12=>simp; rfl
 refine zag ?_
 exact ⟨.inr rfl,zam.one (by simp [hy])⟩
variable {g : Gr} {S : List Int} {key : Int}
variable {g : Gr} {S : List Int} {key : Int}
section
variable {P : Program} {np id : Nat} {h : Nat → Option Ent} {K : AV → List Nat → List (Nat × Option Ent) → Prop}
theorem ztW {s i off len : Nat} (l : Nat) {e : Ent} (he : h i = some e) (hs : e.s = s) (hl : l ≤ len) (hK : K (.rs i (off + l) (len - l)) [i] []) : aK P np id (.slc s true false false) [.rs i off len,.sc (.int .i64 l)] h K:=by
 rw [ziZ]
 exact ⟨l,len,0,len,rfl,hl,rfl,by simp,by simp,by simp,Nat.le_refl _,rfl,⟨e,he,hs⟩,hK⟩
end
structure BSt where
 D : List Int
 b : List Int
 Z : List Int
 off : Nat
 q : Nat
structure BInv (N : Nat) (A : List Ed) (f : List Int) (s : BSt) (m : Nat) : Prop where
 bfs : Bfs N A f s.D s.b
 z : s.off + s.q = s.Z.length
 d : m + s.q = s.D.length
 same : s.Z.drop s.off = s.D.drop m
section
variable {N : Nat} {A : List Ed} {f : List Int}
theorem BInv.more {s : BSt} {m : Nat} (h : BInv N A f s m) {x : Int} {b' : List Int} (hb : Bfs N A f (s.D ++ [x]) b') : BInv N A f ⟨s.D ++ [x],b',s.Z.drop s.off ++ [x],0,s.q + 1⟩ m:=by
 have h1:=h.z
 have h2:=h.d
 refine ⟨hb,?_,?_,?_⟩
 ·simp only [List.length_append,List.length_drop,List.length_singleton]; omega
 ·simp only [List.length_append,List.length_singleton]; omega
 ·simp only [List.drop_zero]
  rw [h.same,List.drop_append_of_le_length (by omega)]
theorem BInv.pop {s : BSt} {m : Nat} (h : BInv N A f s m) (hq : 0 < s.q) : BInv N A f { s with off:=s.off + 1,q:=s.q - 1 } (m + 1):=by
 have h1:=h.z
 have h2:=h.d
 refine ⟨h.bfs,by simp only; omega,by simp only; omega,?_⟩
 simp only
 rw [← List.drop_drop,h.same,List.drop_drop]
theorem BInv.head {s : BSt} {m : Nat} (h : BInv N A f s m) (hq : 0 < s.q) : ∃ hm : m < s.D.length,s.Z[s.off]? = some s.D[m]:=by
 have h1:=h.z
 have h2:=h.d
 refine ⟨by omega,?_⟩
 have e : (s.Z.drop s.off)[0]? = (s.D.drop m)[0]?:=by rw [h.same]
 rw [List.getElem?_drop,List.getElem?_drop,Nat.add_zero,Nat.add_zero] at e
 rw [e,List.getElem?_eq_getElem (by omega)]
end
abbrev zbm (s : Stp) : List AV:=[.I s.1,.B s.2]
def zg5 (A : List Ed) : Nat → Nat → List Stp
 | 0,_=>[]
 | i + 1,k=>zg5 A i k ++ (if (arcD A i).f = k then [(i,false)] else []) ++ (if (arcD A i).t = k then [(i,true)] else [])
theorem zkt {A : List Ed} {s : Stp} {k : Nat} : ∀ {i : Nat},s ∈ zg5 A i k ↔ s.1 < i ∧ stF A s = k
 | 0=>by simp [zg5]
 | i + 1=>by
   obtain ⟨j,c⟩:=s
   have ih:=zkt (A:=A) (s:=(j,c)) (k:=k) (i:=i)
   simp only [zg5,List.mem_append,ih]
   unfold stF
   simp only
   constructor
   ·rintro ((h | h) | h)
    ·exact ⟨by omega,h.2⟩
    ·split at h
     ·rename_i e
      simp at h
      obtain ⟨rfl,rfl⟩:=h
      exact ⟨by omega,by simpa using e⟩
     ·simp at h
    ·split at h
     ·rename_i e
      simp at h
      obtain ⟨rfl,rfl⟩:=h
      exact ⟨by omega,by simpa using e⟩
     ·simp at h
   ·rintro ⟨h1,h2⟩
    rcases Nat.lt_succ_iff_lt_or_eq.1 h1 with h | h
    ·exact .inl (.inl ⟨h,h2⟩)
    ·subst h
     cases c
     ·have : (arcD A j).f = k:=by simpa using h2
      rw [if_pos this]
      exact .inl (.inr (by simp))
     ·have : (arcD A j).t = k:=by simpa using h2
      rw [if_pos this]
      exact .inr (by simp)
theorem zhu (A : List Ed) (k : Nat) : ∀ i,(zg5 A i k).length ≤ 2 * i
 | 0=>Nat.le_refl _
 | i + 1=>by
   have ih:=zhu A k i
   simp only [zg5,List.length_append]
   split <;> split <;> simp <;> omega
def famE (A : List Ed) (i : Nat) : Nat → List (List AV):=fun k=>(zg5 A i k).map zbm
theorem zon (A : List Ed) (i k : Nat) : ∀ r ∈ famE A i k,∀ x ∈ r,∃ v,x = .sc v:=by
 intro r hr x hx
 obtain ⟨s,_,rfl⟩:=List.mem_map.1 hr
 simp only [zbm,List.mem_cons,List.not_mem_nil,or_false] at hx
 rcases hx with rfl | rfl
 ·exact ⟨_,rfl⟩
 ·exact ⟨_,rfl⟩
theorem zrP (A : List Ed) (i k : Nat) : (famE A i k).length ≤ 2 * i:=by unfold famE; rw [List.length_map]; exact zhu A k i
theorem zr1 {E : Nat → List (List AV)} {a : Nat} {row : List AV} (hE : ∀ k,∀ r ∈ E k,∀ x ∈ r,∃ v,x = AV.sc v) (hr : ∀ x ∈ row,∃ v,x = AV.sc v) (k : Nat) : ∀ r ∈ grow E a row k,∀ x ∈ r,∃ v,x = AV.sc v:=by
 unfold grow
 intro r h
 split at h
 ·rcases List.mem_append.1 h with h | h
  ·exact hE a r h
  ·rw [List.mem_singleton.1 h]; exact hr
 ·exact hE k r h
theorem zrc {A : List Ed} {i a b : Nat} (ha : (arcD A i).f = a) (hb : (arcD A i).t = b) (hab : a ≠ b) : famE A (i + 1) = grow (grow (famE A i) a (zbm (i,false))) b (zbm (i,true)):=by
 funext k
 simp only [famE,zg5,grow,ha,hb,List.map_append,Int.natCast_inj]
 by_cases h1 : k = a
 ·subst h1
  simp [hab,hab.symm]
 ·by_cases h2 : k = b
  ·subst h2
   simp [hab,h1]
  ·have h3 : ¬ a = k:=fun e=>h1 e.symm
   have h4 : ¬ b = k:=fun e=>h2 e.symm
   simp [h1,h2,h3,h4]
theorem ziy (s : Stp) : ∀ x ∈ zbm s,∃ v,x = AV.sc v:=by
 intro x hx
 simp only [zbm,List.mem_cons,List.not_mem_nil,or_false] at hx
 rcases hx with rfl | rfl
 ·exact ⟨_,rfl⟩
 ·exact ⟨_,rfl⟩
abbrev atV (N : Nat) (A : List Ed) : AV:=.vs 1 false ((List.range N).map fun k=>[.vs 2 false (famE A A.length k)])
theorem Le.slot {np sz n n' : Nat} {t t' : List (Nat × AV)} {h : List (Nat × Option Ent)} (hn : n ≤ n') (ht : ∀ p ∈ t',(⟨sz,t,h,n⟩ : St).get p.1 = p.2) : Le np ⟨sz,t,h,n⟩ ⟨sz,t',h,n'⟩:=by
 intro T0 M0 w0 T M a w ok hnp
 refine ⟨T,M,⟨ok.sz,ok.df,fun i=>?_,ok.hs,fun id g hg=>Nat.lt_of_lt_of_le (ok.dom id g hg) hn,ok.after⟩,Nat.le_trans hnp hn⟩
 show Rep T w M ((lkp t' i).getD .dead) _
 cases hl : lkp t' i with
 | none=>exact .dead _ _
 | some v =>
   have:=ht _ (zba hl)
   simp only at this
   show Rep T w M v _
   rw [← this]
   exact ok.tm i
def famS (N : Nat) (L : List Nat) : List (Nat × Nat):=(L ++ famI N).map fun j=>(j,j)
theorem zgY {N j : Nat} {L : List Nat} (h : j ∈ L ∨ ∃ k < N,j = k + 1000) : lkp (famS N L) j = some j:=by
 rw [famS,zlw (fun j=>j) (fun i j h=>h) (fun j=>j),if_pos]
 rcases h with h | ⟨k,h1,rfl⟩
 ·simp [h]
 ·exact List.mem_append_right _ (zdX.2 (by omega))
theorem znf {N j : Nat} {L : List Nat} (h : j ∉ L) (h2 : 1000 + N ≤ j) : lkp (famS N L) j = none:=by
 rw [famS,zlw (fun j=>j) (fun i j h=>h) (fun j=>j),if_neg]
 rw [List.mem_append,not_or]
 exact ⟨h,fun hm=>by have:=zdX.1 hm; omega⟩
theorem zqN {N : Nat} {L sn : List Nat} {E : Nat → List (List AV)} {h : Nat → Option Ent} : (famO N E).map (·.map (conv (famS N L) sn h 4)) = famO N E:=by
 conv=>rhs; rw [← List.map_id (famO N E)]
 refine List.map_congr_left fun r hr=>?_
 obtain ⟨k,hk,rfl⟩:=List.mem_map.1 hr
 have:=zgY (N:=N) (L:=L) (j:=k + 1000) (.inr ⟨k,List.mem_range.1 hk,rfl⟩)
 simp [famV,this]
theorem Le.famS {np s N : Nat} {E : Nat → List (List AV)} (L sn : List Nat) {st st' : St} (hsz : st'.sz = st.sz)
  (hL : L.Nodup) (h1 : ∀ j ∈ L,j < 1000) (hn : 1000 + N ≤ st'.n) (hnp : np ≤ 1000) (hsn : ∀ j ∈ sn,1000 + N ≤ j)
  (hE : ∀ k < N,∀ r ∈ E k,∀ x ∈ r,∃ v,x = .sc v)
  (hst : ∀ k < N,st.hp (k + 1000) = some ⟨s,E k,0⟩) (hst' : ∀ k < N,st'.hp (k + 1000) = some ⟨s,E k,0⟩)
  (hout : ∀ j,j ∉ L → (j < 1000 ∨ 1000 + N ≤ j) → st'.hp j = none)
  (ht : ∀ p ∈ st'.t,Wk (conv (famS N L) sn st.hp 4 (st.get p.1)) p.2)
  (hb : ∀ j ∈ L,∀ e',st'.hp j = some e' → ∃ e,st.hp j = some e ∧ zaG [] (zax (famS N L) sn st.hp 4 e) e') : Le np st st':=by
 have hid : (Go.Proofs.YteiabadhhhckfaaGreat.famS N L).map (·.1) = L ++ famI N:=by simp [Go.Proofs.YteiabadhhhckfaaGreat.famS,fcd]
 have hid2 : (Go.Proofs.YteiabadhhhckfaaGreat.famS N L).map (·.2) = L ++ famI N:=by simp [Go.Proofs.YteiabadhhhckfaaGreat.famS,fcd]
 have hnd : (L ++ famI N).Nodup:=List.nodup_append.2 ⟨hL,zdp (fun i j h=>by simpa using h) List.nodup_range,fun x hx y hy e=>by
  have:=h1 x hx
  have:=zdX.1 hy
  omega⟩
 have hmem : ∀ j,(j,j) ∈ Go.Proofs.YteiabadhhhckfaaGreat.famS N L ↔ j ∈ L ∨ j ∈ famI N:=fun j=>by simp [Go.Proofs.YteiabadhhhckfaaGreat.famS]
 refine Le.mk (Go.Proofs.YteiabadhhhckfaaGreat.famS N L) sn [] hsz (by rw [hid]; exact hnd) (by rw [hid2]; exact hnd) ?_ (by simp) ?_ (by omega) (by simp) (fun i=>?_) ?_
 ·intro p hp
  obtain ⟨j,hj,rfl⟩:=List.mem_map.1 hp
  rcases List.mem_append.1 hj with h | h
  ·have:=h1 j h
   exact ⟨by simp only; omega,fun _=>rfl⟩
  ·have:=zdX.1 h
   exact ⟨by simp only; omega,fun _=>rfl⟩
 ·intro j hj
  have:=hsn j hj
  refine ⟨by omega,?_⟩
  rw [hid,List.mem_append,not_or]
  exact ⟨fun h=>by have:=h1 j h; omega,fun h=>by have:=zdX.1 h; omega⟩
 ·unfold St.get at *
  cases hl : lkp st'.t i with
  | none=>exact .inl (.dead _)
  | some v=>exact .inl (ht _ (zba hl))
 ·intro j e' he
  left
  by_cases hj : j ∈ L
  ·obtain ⟨e,h2,h3⟩:=hb j hj e' he
   exact ⟨j,e,(hmem j).2 (.inl hj),h2,h3⟩
  ·by_cases hr : j < 1000 ∨ 1000 + N ≤ j
   ·rw [hout j hj hr] at he; cases he
   ·obtain ⟨k,rfl⟩ : ∃ k,j = k + 1000:=⟨j - 1000,by omega⟩
    have hk : k < N:=by omega
    rw [hst' k hk] at he
    cases he
    refine ⟨k + 1000,_,(hmem _).2 (.inr (zdX.2 (by omega))),hst k hk,?_⟩
    have : zax (Go.Proofs.YteiabadhhhckfaaGreat.famS N L) sn st.hp 4 ⟨s,E k,0⟩ = ⟨s,E k,0⟩:=by
     simp only [zax]
     rw [zfp _ (fun v=>by simp [conv]) _ (hE k hk)]
    rw [this]
    exact zaG.rfl' (Nat.zero_le _)
abbrev oH (N : Nat) (A : List Ed) (m : Nat) (f : List Int) (E : Nat → List (List AV)) : List (Nat × Option Ent) :=
 famH 2 N E ++ [(0,some ⟨1,zah f,0⟩),(24,some ⟨4,[[.I 0,.nilS,.nilS,.nilS]],0⟩),(64,some ⟨1,famO N E,0⟩),(80,some ⟨4,[[.I N,eEs A,.rs 0 0 m,.rs 64 0 N]],0⟩)]
theorem zcy {sz n i j : Nat} {t : List (Nat × AV)} {h : List (Nat × Option Ent)} {v : Option Ent} (hij : i ≠ j) : (⟨sz,t,(i,v) :: h,n⟩ : St).hp j = (⟨sz,t,h,n⟩ : St).hp j:=by
 rw [zok,if_neg hij]
theorem zhK {sz n N m : Nat} {t : List (Nat × AV)} {A : List Ed} {f : List Int} {E : Nat → List (List AV)} {k : Nat} (h : k < N) : (⟨sz,t,oH N A m f E,n⟩ : St).hp (k + 1000) = some ⟨2,E k,0⟩:=ztU h
theorem znC {sz n N m j : Nat} {t : List (Nat × AV)} {A : List Ed} {f : List Int} {E : Nat → List (List AV)} (hj : j ∉ [0,24,64,80]) (hr : j < 1000 ∨ 1000 + N ≤ j) : (⟨sz,t,oH N A m f E,n⟩ : St).hp j = none:=by
 have hj' : j ≠ 0 ∧ j ≠ 24 ∧ j ≠ 64 ∧ j ≠ 80:=by simpa using hj
 rcases hr with hr | hr
 ·rw [zjf hr]
  simp [hj'.1.symm,hj'.2.1.symm,hj'.2.2.1.symm,hj'.2.2.2.symm]
 ·rw [zsq hr]
  simp [hj'.1.symm,hj'.2.1.symm,hj'.2.2.1.symm,hj'.2.2.2.symm]
section
variable {sz n N m : Nat} {t : List (Nat × AV)} {A : List Ed} {f : List Int} {E : Nat → List (List AV)}
theorem oH_0 : (⟨sz,t,oH N A m f E,n⟩ : St).hp 0 = some ⟨1,zah f,0⟩:=by rw [zjf (by omega)]; simp
theorem zo8 : (⟨sz,t,oH N A m f E,n⟩ : St).hp 24 = some ⟨4,[[.I 0,.nilS,.nilS,.nilS]],0⟩:=by rw [zjf (by omega)]; simp
theorem zne : (⟨sz,t,oH N A m f E,n⟩ : St).hp 64 = some ⟨1,famO N E,0⟩:=by rw [zjf (by omega)]; simp
theorem zlS : (⟨sz,t,oH N A m f E,n⟩ : St).hp 80 = some ⟨4,[[.I N,eEs A,.rs 0 0 m,.rs 64 0 N]],0⟩:=by rw [zjf (by omega)]; simp
end
theorem Le.oStep {N a m x y n n' : Nat} {A : List Ed} {f : List Int} {E : Nat → List (List AV)} {row : List AV} {t t' : List (Nat × AV)} {h : List (Nat × Option Ent)} (ha : a < N) (hx : 1000 + N ≤ x) (hy : 1000 + N ≤ y) (hxy : x ≠ y) (hN : N ≤ 900) (hn' : 1000 + N ≤ n')
  (hE : ∀ k,∀ r ∈ E k,∀ z ∈ r,∃ v,z = .sc v) (hrow : ∀ z ∈ row,∃ v,z = .sc v)
  (hh : h = (64,some ⟨1,(famO N E).set a [.rs x 0 ((E a).length + 1)],0⟩) :: (x,some ⟨2,E a ++ [row],0⟩) :: (a + 1000,none) :: (y,some ⟨2,[row],0⟩) :: oH N A m f E)
  (ht : ∀ p ∈ t',Wk (conv (famR x a N [0,24,64,80]) [] (⟨54,t,h,n⟩ : St).hp 4 ((⟨54,t,h,n⟩ : St).get p.1)) p.2) : Le 1 ⟨54,t,h,n⟩ ⟨54,t',oH N A m f (grow E a row),n'⟩:=by
 have e64 : (⟨54,t,h,n⟩ : St).hp 64 = some ⟨1,(famO N E).set a [.rs x 0 ((E a).length + 1)],0⟩:=by rw [hh,zok,if_pos rfl]
 have e0 : (⟨54,t,h,n⟩ : St).hp 0 = some ⟨1,zah f,0⟩:=by rw [hh,zcy (by omega),zcy (by omega),zcy (by omega),zcy (by omega),oH_0]
 have e24 : (⟨54,t,h,n⟩ : St).hp 24 = some ⟨4,[[.I 0,.nilS,.nilS,.nilS]],0⟩:=by rw [hh,zcy (by omega),zcy (by omega),zcy (by omega),zcy (by omega),zo8]
 have e80 : (⟨54,t,h,n⟩ : St).hp 80 = some ⟨4,[[.I N,eEs A,.rs 0 0 m,.rs 64 0 N]],0⟩:=by rw [hh,zcy (by omega),zcy (by omega),zcy (by omega),zcy (by omega),zlS]
 have l0 : lkp (famR x a N [0,24,64,80]) 0 = some 0:=zeL (by omega) (.inl (by simp))
 have l64 : lkp (famR x a N [0,24,64,80]) 64 = some 64:=zeL (by omega) (.inl (by simp))
 refine Le.fam (s:=2) (N:=N) (a:=a) (m:=x) (E:=E) (row:=row) [0,24,64,80] rfl ha (by decide) (by simp) hx hn' (by omega) (fun k _=>hE k) hrow ?_ ?_ (fun k hk=>zhK hk) (fun j hj hr=>znC hj hr) ht ?_
 ·intro k hk hka
  rw [hh,zcy (by omega),zcy (by omega),zcy (by omega),zcy (by omega),zhK hk]
 ·rw [hh,zcy (by omega),zok,if_pos rfl]
 ·intro j hj e' he
  simp only [List.mem_cons,List.not_mem_nil,or_false] at hj
  rcases hj with rfl | rfl | rfl | rfl
  ·rw [oH_0] at he
   cases he
   exact ⟨_,e0,by simp only [zax]; rw [zfp _ (fun v=>by simp [conv]) _ (by simp)]; exact zaG.rfl' (Nat.zero_le _)⟩
  ·rw [zo8] at he
   cases he
   exact ⟨_,e24,by simp [zax]; exact zaG.rfl' (Nat.zero_le _)⟩
  ·rw [zne] at he
   cases he
   refine ⟨_,e64,?_⟩
   simp only [zax]
   rw [zqB ha (.inr hx) rfl]
   exact zaG.rfl' (Nat.zero_le _)
  ·rw [zlS] at he
   cases he
   refine ⟨_,e80,?_⟩
   simp [zax,l0,l64]
   exact zaG.rfl' (Nat.zero_le _)
set_option maxRecDepth 100000 in
set_option maxHeartbeats 4000000 in
theorem zqI (N : Nat) (A : List Ed) (f : List Int) (m : Nat) (hn : za4 ⟨N,A⟩) : zaj Tryz.prog zfN [eN ⟨N,A⟩,.rs 0 0 m] [⟨1,zah f,0⟩] (.agg [.I N,eEs A,.rs 0 0 m,atV N A]) [some ⟨1,zah f,0⟩]:=by
 refine zpy.acalls (Nat.le_of_ble_eq_true rfl) (Nat.le_of_ble_eq_true rfl) (Nat.le_refl _) ?_
 show awp _ 1 _ _ ⟨54,[(0,eN ⟨N,A⟩),(1,.rs 0 0 m)],[(0,some ⟨1,zah f,0⟩)],16⟩
 obtain ⟨hn0,hn1,hal,hav⟩:=hn
 simp only at hn0 hn1 hal hav
 refine zab ⟨54,[(1,.rs 0 0 m),(2,.pv (nC ⟨N,A⟩)),(4,.pt 24 0 0)],[(0,some ⟨1,zah f,0⟩),(24,some ⟨4,[[.I 0,.nilS,.nilS,.nilS]],0⟩)],32⟩ rfl ?_ ?_
 ·simp
  exact Le.go [(0,0),(24,24)] [16] rfl rfl (by simp) (by simp [fcd])
 refine zaw ⟨54,[(2,.pv (nC ⟨N,A⟩)),(4,.pt 24 0 0),(5,.pt 80 0 0)],[(0,some ⟨1,zah f,0⟩),(24,some ⟨4,[[.I 0,.nilS,.nilS,.nilS]],0⟩),(64,some ⟨1,(List.range N).map fun _=>[.nilS],0⟩),(80,some ⟨4,[[.I N,eEs A,.rs 0 0 m,.rs 64 0 N]],0⟩)],96⟩ rfl ?_ ?_
 ·simp [List.map_const']
  refine ⟨by omega,by omega,rfl,?_⟩
  exact Le.go [(0,0),(24,24),(64,64),(80,80)] [] rfl rfl (by simp) (by simp [fcd])
 refine zaa ?_
 refine zab ⟨54,[(4,.pt 24 0 0),(5,.pt 80 0 0),(15,eEs A),(16,.I A.length),(17,.I 0)],[(0,some ⟨1,zah f,0⟩),(24,some ⟨4,[[.I 0,.nilS,.nilS,.nilS]],0⟩),(64,some ⟨1,(List.range N).map fun _=>[.nilS],0⟩),(80,some ⟨4,[[.I N,eEs A,.rs 0 0 m,.rs 64 0 N]],0⟩)],128⟩ rfl ?_ ?_
 ·simp
  exact Le.go [(0,0),(24,24),(64,64),(80,80)] [] rfl rfl (by simp) (by simp [fcd,List.map_const'])
 refine zaf ?_
 refine zao (ι:=Nat) (fun i=>⟨54,[(4,.pt 24 0 0),(5,.pt 80 0 0),(15,eEs A),(16,.I A.length),(17,.I i)],oH N A m f (famE A i),2000⟩) (fun i=>i ≤ A.length) (fun i=>A.length - i) 0 (Nat.zero_le _) ?_ ?_
 ·refine Le.fam0 (s:=2) (N:=N) (o:=64) [0,24,80] rfl (by omega) (by decide) (by simp) (by simp only; omega) (by simp) zne (fun k hk=>zhK hk) (fun j hj hr=>znC (by simpa [and_comm,and_left_comm,and_assoc,or_comm,or_left_comm] using hj) hr) (by simp) ?_
  intro j hj e' he
  simp only [List.mem_cons,List.not_mem_nil,or_false] at hj
  rcases hj with rfl | rfl | rfl
  ·rw [oH_0] at he
   cases he
   exact ⟨⟨1,zah f,0⟩,by simp,by simp only [zax]; rw [zfp _ (fun v=>by simp [conv]) _ (by simp)]; exact zaG.rfl' (Nat.zero_le _)⟩
  ·rw [zo8] at he
   cases he
   exact ⟨⟨4,[[.I 0,.nilS,.nilS,.nilS]],0⟩,by simp,by simp [zax]; exact zaG.rfl' (Nat.zero_le _)⟩
  ·rw [zlS] at he
   cases he
   exact ⟨⟨4,[[.I N,eEs A,.rs 0 0 m,.rs 64 0 N]],0⟩,by simp,by simp [zax]; exact zaG.rfl' (Nat.zero_le _)⟩
 intro i hi
 refine zab ⟨54,[(4,.pt 24 0 0),(5,.pt 80 0 0),(15,eEs A),(16,.I A.length),(17,.I i),(18,.B (decide (i < A.length)))],oH N A m f (famE A i),2008⟩ rfl ?_ ?_
 ·simp
  exact Le.slot (by omega) (by simp)
 refine zaa ?_
 refine zad _ rfl (fun h5=>?_) fun h5=>?_
 ·simp at h5
  have hw1 : IntKind.i64.wrap ((i : Int) + 1) = (i : Int) + 1:=w64 (by omega) (by omega)
  have heo:=hav _ (List.getElem_mem h5)
  have harc : arcD A i = A[i]:=by unfold arcD; rw [List.getD_eq_getElem?_getD,List.getElem?_eq_getElem h5,Option.getD_some]
  obtain ⟨e,he⟩ : ∃ e,e = A[i]:=⟨_,rfl⟩
  rw [← he] at heo harc
  obtain ⟨q1,q2,q3,q4,q5,_⟩:=heo
  obtain ⟨a,haf,haN⟩ : ∃ a : Nat,e.f = a ∧ a < N:=⟨e.f.toNat,by omega,by omega⟩
  obtain ⟨b,hbt,hbN⟩ : ∃ b : Nat,e.t = b ∧ b < N:=⟨e.t.toNat,by omega,by omega⟩
  have hab : a ≠ b:=fun h=>q5 (by omega)
  have hsucc:=zrc (A:=A) (i:=i) (a:=a) (b:=b) (by rw [harc]; exact haf) (by rw [harc]; exact hbt) hab
  have hEs:=zon A i
  have hEl:=fun k=>zrP A i k
  obtain ⟨E,hE⟩ : ∃ E,E = famE A i:=⟨_,rfl⟩
  rw [← hE] at hsucc hEs hEl ⊢
  refine zae ?_
  refine zaa ?_
  refine zaf ?_
  refine zab ⟨54,[(4,.pt 24 0 0),(5,.pt 80 0 0),(6,.I i),(7,.pv [.I a,.I b,.I e.v]),(15,eEs A),(16,.I A.length),(17,.I i)],oH N A m f E,3000⟩ rfl ?_ ?_
  ·simp [h5,← he,haf,hbt]
   have l24 : lkp (famS N [0,24,64,80]) 24 = some 24:=zgY (.inl (by simp))
   have l80 : lkp (famS N [0,24,64,80]) 80 = some 80:=zgY (.inl (by simp))
   have l0 : lkp (famS N [0,24,64,80]) 0 = some 0:=zgY (.inl (by simp))
   have l64 : lkp (famS N [0,24,64,80]) 64 = some 64:=zgY (.inl (by simp))
   have lno : lkp (famS N [0,24,64,80]) 2032 = none:=znf (by simp) (by omega)
   refine Le.famS (s:=2) (N:=N) (E:=E) [0,24,64,80] [2032] rfl (by decide) (by simp) (by simp only; omega) (by omega) (by simp; omega) (fun k _=>hEs k) ?_ (fun k hk=>zhK hk) (fun j hj hr=>znC hj hr) ?_ ?_
   ·intro k hk
    rw [zcy (by omega),zcy (by omega),zhK hk]
   ·simp [l24,l80,lno]
   ·intro j hj e' he'
    simp only [List.mem_cons,List.not_mem_nil,or_false] at hj
    rcases hj with rfl | rfl | rfl | rfl
    ·rw [oH_0] at he'
     cases he'
     exact ⟨_,by rw [zcy (by omega),zcy (by omega),oH_0],by simp only [zax]; rw [zfp _ (fun v=>by simp [conv]) _ (by simp)]; exact zaG.rfl' (Nat.zero_le _)⟩
    ·rw [zo8] at he'
     cases he'
     exact ⟨_,by rw [zcy (by omega),zcy (by omega),zo8],by simp [zax]; exact zaG.rfl' (Nat.zero_le _)⟩
    ·rw [zne] at he'
     cases he'
     refine ⟨_,by rw [zcy (by omega),zcy (by omega),zne],?_⟩
     simp only [zax]
     rw [zqN]
     exact zaG.rfl' (Nat.zero_le _)
    ·rw [zlS] at he'
     cases he'
     exact ⟨_,by rw [zcy (by omega),zcy (by omega),zlS],by simp [zax,l0,l64]; exact zaG.rfl' (Nat.zero_le _)⟩
  refine zaw ⟨54,[(4,.pt 24 0 0),(5,.pt 80 0 0),(6,.I i),(7,.pv [.I a,.I b,.I e.v]),(15,eEs A),(16,.I A.length),(17,.I i)],oH N A m f (grow E a (zbm (i,false))),4000⟩ rfl ?_ ?_
  ·have hl:=hEl a
   have hne : ¬ a = 2096:=by omega
   simp [zlS,zne,zhK haN,haN,zgL haN,zg7,famV,hne]
   refine ⟨by omega,by omega,rfl,?_⟩
   have l24 : lkp (famR 3104 a N [0,24,64,80]) 24 = some 24:=zeL (by omega) (.inl (by simp))
   have l80 : lkp (famR 3104 a N [0,24,64,80]) 80 = some 80:=zeL (by omega) (.inl (by simp))
   refine Le.oStep (x:=3104) (y:=3096) haN (by omega) (by omega) (by omega) (by omega) (by omega) hEs (ziy _) ?_ ?_
   ·simp
   ·simp [l24,l80]
  have hEs1:=zr1 (a:=a) hEs (ziy (i,false))
  have hEl1 : (grow E a (zbm (i,false)) b).length ≤ 2 * i:=by
   have:=hEl b
   simp only [grow,if_neg hab.symm]
   exact this
  obtain ⟨E1,hE1⟩ : ∃ E1,E1 = grow E a (zbm (i,false)):=⟨_,rfl⟩
  rw [← hE1] at hEs1 hEl1 hsucc ⊢
  refine zbS rfl ?_
  have hne : ¬ b = 3096:=by omega
  simp [zlS,zne,zhK hbN,hbN,zgL hbN,zg7,famV,hne]
  refine ⟨by omega,by omega,rfl,?_⟩
  refine zav rfl ?_
  simp
  have l24 : lkp (famR 4104 b N [0,24,64,80]) 24 = some 24:=zeL (by omega) (.inl (by simp))
  have l80 : lkp (famR 4104 b N [0,24,64,80]) 80 = some 80:=zeL (by omega) (.inl (by simp))
  refine ⟨i + 1,by omega,by omega,?_⟩
  rw [hsucc]
  refine Le.oStep (x:=4104) (y:=4096) hbN (by omega) (by omega) (by omega) (by omega) (by omega) hEs1 (ziy _) ?_ ?_
  ·simp
  ·simp [l24,l80,hw1]
 simp at h5
 obtain rfl : i = A.length:=by omega
 refine zan ?_
 refine hit ?_
 refine zab ⟨54,[(4,.pt 24 0 0)],[(0,some ⟨1,zah f,0⟩),(24,some ⟨4,[[.I N,eEs A,.rs 0 0 m,atV N A]],0⟩)],5000⟩ rfl ?_ ?_
 ·simp [zlS,zo8]
  have hcv : ∀ {h : Nat → Option Ent},h 64 = some ⟨1,famO N (famE A A.length),0⟩ → (∀ k < N,h (k + 1000) = some ⟨2,famE A A.length k,0⟩) → conv [(0,0),(24,24)] (64 :: famI N) h 4 (.rs 64 0 N) = atV N A:=fun h1 h2 =>
   zrs (fun k _=>zon A A.length k) (by simp) (by simp) (fun k hk=>by simp [zdX]; omega) h1 h2
  refine Le.famOut (N:=N) (o:=64) (L:=[0,24]) rfl (by decide) (by simp) (by simp) (by simp) (by omega) (by omega) ?_ ?_ ?_
  ·intro j hj
   have hj' : j ≠ 0 ∧ j ≠ 24:=by simpa using hj
   simp [hj'.1.symm,hj'.2.symm]
  ·simp
  ·intro j hj e' he'
   simp only [List.mem_cons,List.not_mem_nil,or_false] at hj
   rcases hj with rfl | rfl
   ·simp at he'
    subst he'
    refine ⟨_,by rw [zcy (by omega),oH_0],?_⟩
    simp only [zax]
    rw [zfp _ (fun v=>by simp [conv]) _ (by simp)]
    exact zaG.rfl' (Nat.zero_le _)
   ·simp at he'
    subst he'
    refine ⟨_,by rw [zok,if_pos rfl],?_⟩
    refine zaG.eq ?_ (Nat.zero_le _)
    simp only [zax,List.map_cons,List.map_nil]
    rw [hcv (by rw [zcy (by omega),zne]) (fun k hk=>by rw [zcy (by omega),zhK hk])]
    simp
 refine zag ?_
 exact ⟨.inr rfl,zam.k1 rfl (by simp) (by simp [fcd])⟩
theorem zlP {α : Type} {l : List α} (h : l.Nodup) : l.reverse.Nodup:=List.pairwise_reverse.2 (h.imp fun hne e=>hne e.symm)
theorem zsP {v : Int} (hv : v ≠ 0) : encS (decS v) = v:=by
 unfold decS encS
 by_cases h : 0 < v
 ·rw [if_pos h]; simp; omega
 ·rw [if_neg h]; simp; omega
def endW (A : List Ed) (u : Int) (l : List Stp) : Nat → Int
 | 0=>u
 | j + 1=>stT A (l.getD j (0,false))
theorem zlH {A : List Ed} {u : Int} {s : Stp} {l : List Stp} (j : Nat) : endW A u (s :: l) (j + 1) = endW A (stT A s) l j:=by
 cases j <;> rfl
theorem zsj {A : List Ed} : ∀ {l : List Stp} {u w : Int},WayS A u l w → ∀ j (hj : j < l.length),stF A l[j] = endW A u l j
 | s :: l,u,w,h,0,_=>h.2.1
 | s :: l,u,w,h,j + 1,hj=>by
   rw [zlH]
   exact zsj h.2.2 j (by simpa using hj)
theorem zpJ {A : List Ed} : ∀ {l : List Stp} {u w : Int},WayS A u l w → endW A u l l.length = w
 | [],u,w,h=>h
 | s :: l,u,w,h=>by
   rw [List.length_cons,zlH]
   exact zpJ h.2.2
variable {N : Nat} {A : List Ed} {f D b : List Int}
structure zku (N : Nat) (A : List Ed) (f b : List Int) (l : List Stp) : Prop where
 way : WayS A 0 l 1
 nodup : (l.map (·.1)).Nodup
 at_ : ∀ j (h : j < l.length),l[j].1 < A.length ∧ 0 < zbM A f l[j] ∧ stT A l[j] ≠ 0 ∧ 0 ≤ stT A l[j] ∧ stT A l[j] < N ∧ b.getD (stT A l[j]).toNat 0 = encS l[j]
theorem Bfs.chain (h : Bfs N A f D b) (h1 : (1 : Int) ∈ D) : ∃ l,zku N A f b l:=by
 obtain ⟨j,hj,hx⟩:=List.mem_iff_getElem.1 h1
 obtain ⟨l,l1,l2,l3⟩:=h.tree.way j j hj (Nat.le_refl _)
 rw [hx] at l1
 refine ⟨l,l1,l2,fun i hi=>?_⟩
 obtain ⟨q1,q2,q3,q4,_,q5⟩:=l3 _ (List.getElem_mem hi)
 have hm:=List.mem_of_mem_take q5
 have hr:=h.rng _ hm
 have hne:=h.inn _ hm q4
 refine ⟨q1,q2,q4,hr.1,hr.2,?_⟩
 rw [← zsP hne,q3]
theorem zku.from_ {l : List Stp} (h : zku N A f b l) (j : Nat) (hj : j < l.length) : stF A l[j] = endW A 0 l j:=zsj h.way j hj
def ze0 (v : Int) (f : List Int) (l : List Stp) (j : Nat) : List Int:=zgh v f (l.drop j).reverse
theorem zqV (v : Int) (f : List Int) (l : List Stp) : ze0 v f l l.length = f:=by simp [ze0,zgh]
theorem zqW (v : Int) (f : List Int) (l : List Stp) (j : Nat) : (ze0 v f l j).length = f.length:=ze8
theorem zpv {v : Int} {f : List Int} {l : List Stp} (j : Nat) (hj : j < l.length) : ze0 v f l j = zgI v (ze0 v f l (j + 1)) l[j]:=by
 unfold ze0 zgh
 rw [List.drop_eq_getElem_cons hj,List.reverse_cons,List.foldl_append]
 rfl
theorem zq6 {v : Int} {l : List Stp} (hn : (l.map (·.1)).Nodup) (hr : ∀ s ∈ l,s.1 < f.length) (j : Nat) (hj : j < l.length) : (ze0 v f l (j + 1)).getD l[j].1 0 = f.getD l[j].1 0:=by
 refine (zft (δ:=v) (f:=f) (i:=l[j].1) (l:=(l.drop (j + 1)).reverse) ?_ ?_).1 ?_
 ·rw [List.map_reverse]
  refine zlP ?_
  exact hn.sublist ((List.drop_sublist _ _).map _)
 ·intro s hs
  exact hr s (List.mem_of_mem_drop (List.mem_reverse.1 hs))
 ·rw [List.map_reverse,List.mem_reverse]
  intro hm
  obtain ⟨s,hs,he⟩:=List.mem_map.1 hm
  obtain ⟨i,hi,rfl⟩:=List.mem_iff_getElem.1 hs
  rw [List.length_drop] at hi
  rw [List.getElem_drop] at he
  have h1:=(List.pairwise_iff_getElem.1 hn) j (j + 1 + i) (by rw [List.length_map]; exact hj) (by rw [List.length_map]; omega) (by omega)
  rw [List.getElem_map,List.getElem_map] at h1
  exact h1 he.symm
theorem zqi {v : Int} {l : List Stp} (hn : (l.map (·.1)).Nodup) (hr : ∀ s ∈ l,s.1 < f.length) : ze0 v f l 0 = zgh v f l:=by
 unfold ze0
 rw [List.drop_zero]
 have hn' : (l.reverse.map (·.1)).Nodup:=by rw [List.map_reverse]; exact zlP hn
 have hr' : ∀ s ∈ l.reverse,s.1 < f.length:=fun s hs=>hr s (List.mem_reverse.1 hs)
 apply List.ext_getElem (by rw [ze8,ze8])
 intro i h1 h2
 have e : ∀ (L : List Int) (h : i < L.length),L[i] = L.getD i 0:=fun L h=>by rw [List.getD_eq_getElem?_getD,List.getElem?_eq_getElem h,Option.getD_some]
 rw [e _ h1,e _ h2]
 have g1:=zft (δ:=v) (f:=f) (i:=i) hn' hr'
 have g2:=zft (δ:=v) (f:=f) (i:=i) hn hr
 by_cases hm : i ∈ l.map (·.1)
 ·obtain ⟨s,hs,rfl⟩:=List.mem_map.1 hm
  rw [g1.2 s.2 (List.mem_reverse.2 hs),g2.2 s.2 hs]
 ·rw [g1.1 (by rw [List.map_reverse,List.mem_reverse]; exact hm),g2.1 hm]
theorem zku.push {l : List Stp} (hn : zdK N A) (hf : zaB N A f) (h : zku N A f b l) {v : Int} (h0 : 0 ≤ v) (hv : ∀ s ∈ l,v ≤ zbM A f s) : zaB N A (ze0 v f l 0) ∧ valF A (ze0 v f l 0) = valF A f + v:=by
 have hr : ∀ s ∈ l,s.1 < A.length:=fun s hs=>by
  obtain ⟨i,hi,rfl⟩:=List.mem_iff_getElem.1 hs
  exact (h.at_ i hi).1
 rw [zqi h.nodup fun s hs=>by rw [hf.fit.len]; exact hr s hs]
 exact zsI hn hf h0 h.way h.nodup fun s hs=>⟨hr s hs,hv s hs⟩
theorem zfC {A : List Ed} {N : Nat} (h : za4 ⟨N,A⟩) : zdK N A:=by
 obtain ⟨h1,_,_,h4⟩:=h
 simp only at h1 h4
 refine ⟨by omega,fun e he=>?_⟩
 obtain ⟨q1,q2,q3,q4,q5,q6,q7,q8,_⟩:=h4 e he
 exact ⟨q1,by omega,q3,by omega,q5,q6,q7,q8⟩
abbrev rC (N : Nat) (A : List Ed) (f : AV) : List AV:=[.I N,eEs A,f,atV N A]
abbrev eR (N : Nat) (A : List Ed) (f : AV) : AV:=.agg (rC N A f)
theorem zl5 {A : List Ed} {i : Nat} (h : i < A.length) : A[i]? = some (arcD A i):=by
 unfold arcD
 rw [List.getD_eq_getElem?_getD,List.getElem?_eq_getElem h,Option.getD_some]
set_option maxRecDepth 100000 in
theorem zrh (N : Nat) (A : List Ed) (f : List Int) (s : Stp) (hn : za4 ⟨N,A⟩) (hf : Fit2 A f) (hs : s.1 < A.length) : zaj Tryz.prog zbB [eR N A (ints f),.agg (zbm s)] [] (.tup [.I (zbM A f s),.I (stT A s)]) []:=by
 refine zgn.acalls (Nat.le_of_ble_eq_true rfl) (Nat.le_of_ble_eq_true rfl) (Nat.le_refl _) ?_
 show awp _ 0 _ _ ⟨35,[(0,eR N A (ints f)),(1,.agg (zbm s))],[],16⟩
 obtain ⟨i,c⟩:=s
 simp only at hs
 obtain ⟨hfl,hfa⟩:=zc2.1 hf
 have hA:=zl5 hs
 have hi:=hfa i hs
 have hav:=hn.2.2.2 _ (zer hs)
 have hif : i < f.length:=by omega
 obtain ⟨e,he⟩ : ∃ e,e = arcD A i:=⟨_,rfl⟩
 obtain ⟨w,hw⟩ : ∃ w,w = f.getD i 0:=⟨_,rfl⟩
 have hg : f[i]? = some w:=by rw [hw,List.getD_eq_getElem?_getD,List.getElem?_eq_getElem hif,Option.getD_some]
 have hge : A[i] = e:=by rw [List.getElem?_eq_getElem hs,← he] at hA; exact Option.some.inj hA
 have hgf : f[i] = w:=by rw [List.getElem?_eq_getElem hif] at hg; exact Option.some.inj hg
 rw [← he] at hav
 rw [← hw,← he] at hi
 obtain ⟨_,_,_,_,_,_,_,h8,h9⟩:=hav
 have hwr : IntKind.i64.wrap (e.v - w) = e.v - w:=w64 (by omega) (by omega)
 refine zab ⟨35,[(2,.pv (rC N A (ints f))),(3,.pv [.I i,.B c])],[],48⟩ rfl ?_ ?_
 ·simp
  exact Le.go [] [16,24] rfl rfl (by simp) (by simp)
 refine zab ⟨35,[(2,.pv (rC N A (ints f))),(3,.pv [.I i,.B c]),(6,.pv (eC e))],[],200⟩ rfl ?_ ?_
 ·simp [hs,hge]
  exact Le.go [] [104] rfl rfl (by simp) (by simp)
 refine zaa ?_
 refine rx (s:=?s3) [2,3,6,15] [] [] rfl ?o3 ?q3
 case o3=>simp; rfl
 refine zad _ rfl (fun h4=>?_) fun h4=>?_
 ·have hc : c = true:=h4
  subst hc
  have h1 : zbM A f (i,true) = w:=by unfold zbM; simp [hw]
  have h2 : stT A (i,true) = e.f:=by unfold stT; simp [he]
  rw [h1,h2]
  refine zaw ⟨35,[(4,.I w),(5,.I e.f)],[],400⟩ rfl ?_ ?_
  ·simp [hif,hgf]
   exact ⟨rfl,Le.go [] [] rfl rfl (by simp) (by simp)⟩
  refine zag ?_
  exact ⟨.inr rfl,zam.out [] [] rfl (by simp) (by simp) (by simp) (by simp)⟩
 have hc : c = false:=h4
 subst hc
 have h1 : zbM A f (i,false) = e.v - w:=by unfold zbM; simp [hw,he]
 have h2 : stT A (i,false) = e.t:=by unfold stT; simp [he]
 rw [h1,h2]
 refine zae ?_
 refine zaw ⟨35,[(4,.I (e.v - w)),(5,.I e.t)],[],400⟩ rfl ?_ ?_
 ·simp [hif,hgf,hwr]
  exact ⟨rfl,Le.go [] [] rfl rfl (by simp) (by simp)⟩
 refine zag ?_
 exact ⟨.inr rfl,zam.out [] [] rfl (by simp) (by simp) (by simp) (by simp)⟩
theorem zmI : ∀ {l : List (Int × AV)} {q : Int × AV},(l.map (·.1)).Nodup → q ∈ l → zdG q.1 (zfO l) = some q.2
 | (k,x) :: l,q,hn,h=>by
   rw [List.map_cons,List.nodup_cons] at hn
   rw [zf3,List.find?_cons]
   rcases List.mem_cons.1 h with rfl | h
   ·simp
   ·have hne : ¬ k = q.1:=fun e=>hn.1 (e ▸ List.mem_map.2 ⟨q,h,rfl⟩)
    have ih:=zmI hn.2 h
    rw [zf3] at ih
    simpa [hne] using ih
structure MapF (rows : List (List AV)) (φ : Int → Option AV) : Prop where
 is : MapR rows φ
 flat : ∀ n x,φ n = some x → ∃ u v,x = .agg [.sc u,.sc v]
theorem MapF.mem {rows : List (List AV)} {φ : Int → Option AV} (h : MapF rows φ) {r : List AV} (hr : r ∈ rows) : ∃ k u v,r = [.sc k,.agg [.sc u,.sc v]]:=by
 obtain ⟨⟨l,rfl,hn,hf⟩,hfl⟩:=h
 obtain ⟨q,hq,rfl⟩:=List.mem_map.1 hr
 obtain ⟨u,v,e⟩:=hfl q.1 q.2 (by rw [← hf]; exact zmI hn hq)
 exact ⟨_,u,v,by rw [e]⟩
theorem MapF.conv {rows : List (List AV)} {φ : Int → Option AV} (h : MapF rows φ) (ρ : List (Nat × Nat)) (sn : List Nat) (g : Nat → Option Ent) : rows.map (·.map (conv ρ sn g 4)) = rows:=by
 conv=>rhs; rw [← List.map_id rows]
 refine List.map_congr_left fun r hr=>?_
 obtain ⟨k,u,v,rfl⟩:=h.mem hr
 simp
theorem MapF.conv' {rows : List (List AV)} {φ : Int → Option AV} (h : MapF rows φ) (ρ : List (Nat × Nat)) (sn : List Nat) (g : Nat → Option Ent) : rows.map (List.map (Go.Proofs.YteiabadhhhckfaaGreat.conv ρ sn g 4)) = rows:=h.conv ρ sn g
theorem MapF.plain {rows : List (List AV)} {φ : Int → Option AV} (h : MapF rows φ) (s ro : Nat) : zkf ⟨s,rows,ro⟩:=by
 intro r hr x hx
 obtain ⟨k,u,v,rfl⟩:=h.mem hr
 simp only [List.mem_cons,List.not_mem_nil,or_false] at hx
 rcases hx with rfl | rfl
 ·exact .sc _
 ·refine .agg _ fun i=>?_
  match i with
  | 0=>exact .sc _
  | 1=>exact .sc _
  | i + 2=>exact .dead
theorem ze5 (D b : List Int) (n : Int) (x : AV) (h : camF D b n = some x) : ∃ u v,x = .agg [.sc u,.sc v]:=by
 unfold camF at h
 split at h
 ·split at h
  ·cases h; exact ⟨_,_,rfl⟩
  ·cases h; exact ⟨_,_,rfl⟩
 ·cases h
theorem MapF.set {rows : List (List AV)} {D b D' b' : List Int} (h : MapF rows (camF D b)) (n : Int) (y : AV) (he : camF D' b' = fun k=>if k = n then some y else camF D b k) : MapF (mset n y rows) (camF D' b') :=
 ⟨by rw [he]; exact h.is.set n y,ze5 D' b'⟩
theorem zjS {N : Nat} {A : List Ed} (hn : za4 ⟨N,A⟩) {s : Stp} (hs : s.1 < A.length) : 0 ≤ stT A s ∧ stT A s < N:=by
 have : zib N (arcD A s.1):=hn.2.2.2 _ (zer hs)
 obtain ⟨q1,q2,q3,q4,_⟩:=this
 unfold stT
 split <;> omega
structure SSt where
 s : BSt
 R : List (List AV)
 m : Nat
 i : Nat
def ziX (A : List Ed) (f D : List Int) (l : List Stp) : Prop:=∀ s ∈ l,0 < zbM A f s → stT A s ∈ D
theorem ziX.nil {A : List Ed} {f D : List Int} : ziX A f D []:=fun s h=>by simp at h
set_option maxRecDepth 100000 in
set_option maxHeartbeats 4000000 in
theorem zox (N : Nat) (A : List Ed) (f : List Int) (hn : za4 ⟨N,A⟩) (hf : Fit2 A f) :
  ∃ x : List Int × List Int × List (List AV),(Bfs N A f x.1 x.2.1 ∧ zfz A f x.1 ∧ MapF x.2.2 (camF x.1 x.2.1)) ∧ zaj Tryz.prog zbj [eR N A (ints f)] [] (.mp 0) [some ⟨0,x.2.2,0⟩]:=by
 refine ze4.acallsX (args:=[eR N A (ints f)]) (hs:=[]) (fun x=>.mp 0) (fun x=>[some ⟨0,x.2.2,0⟩]) (fun x : List Int × List Int × List (List AV)=>Bfs N A f x.1 x.2.1 ∧ zfz A f x.1 ∧ MapF x.2.2 (camF x.1 x.2.1)) (Nat.le_of_ble_eq_true rfl) (Nat.le_of_ble_eq_true rfl) (fun _=>by simp) ?_
 show awp _ 0 _ _ ⟨59,[(0,eR N A (ints f))],[],16⟩
 have hroom:=fun s hs=>zrh N A f s hn hf hs
 have hrng:=fun (s : Stp) (hs : s.1 < A.length)=>zjS hn hs
 obtain ⟨hn0,hn1,hal,hav⟩:=hn
 simp only at hn0 hn1 hal hav
 have hR0 : MapF ([[.I 0,.agg [.I (-1),.B false]]]) (camF [0] (List.replicate N 0)):=⟨by rw [zo9]; exact MapR.nil.set 0 (.agg [.I (-1),.B false]),ze5 _ _⟩
 refine zab ⟨59,[(1,.pv (rC N A (ints f)))],[],32⟩ rfl ?_ ?_
 ·simp
  exact Le.go [] [16] rfl rfl (by simp) (by simp)
 refine zab ⟨59,[(1,.pv (rC N A (ints f))),(3,.mp 32)],[(32,some ⟨0,[[.I 0,.agg [.I (-1),.B false]]],0⟩)],72⟩ rfl ?_ ?_
 ·simp [mset]
  exact Le.go [(32,32)] [] rfl rfl (by simp) (by simp)
 obtain ⟨R0,hR0d⟩ : ∃ R0 : List (List AV),R0 = [[.I 0,.agg [.I (-1),.B false]]]:=⟨_,rfl⟩
 rw [← hR0d] at hR0 ⊢
 refine zaa ?_
 refine zab ⟨59,[(1,.pv (rC N A (ints f))),(3,.mp 32),(4,.rs 72 0 1)],[(32,some ⟨0,R0,0⟩),(72,some ⟨1,zah [0],0⟩)],88⟩ rfl ?_ ?_
 ·simp
  exact Le.go [(32,32),(72,72)] [] rfl rfl (by simp) (by simp [hR0.conv'])
 refine zaf ?_
 refine zao (ι:=SSt) (fun t=>⟨59,[(1,.pv (rC N A (ints f))),(3,.mp 32),(4,.rs 72 t.s.off t.s.q)],[(32,some ⟨0,t.R,0⟩),(72,some ⟨1,zah t.s.Z,0⟩)],88⟩)
  (fun t=>BInv N A f t.s t.m ∧ zgk A f t.s.D t.m ∧ MapF t.R (camF t.s.D t.s.b)) (fun t=>N - t.m) ⟨⟨[0],List.replicate N 0,[0],0,1⟩,R0,0,0⟩
  ⟨⟨Bfs.start (by omega),rfl,rfl,rfl⟩,fun s _ h=>by simp at h,hR0⟩ (Le.go [(32,32),(72,72)] [] rfl rfl (by simp) (by simp [hR0.conv'])) ?_
 rintro ⟨s,R,m,_⟩ ⟨hb,hcl,hR⟩
 simp only at hb hcl hR
 have hfew:=hb.bfs.few
 have hbd:=hb.d
 have hbz:=hb.z
 refine zaa ?_
 refine zab ⟨59,[(1,.pv (rC N A (ints f))),(3,.mp 32),(4,.rs 72 s.off s.q),(17,.B (decide (0 < s.q)))],[(32,some ⟨0,R,0⟩),(72,some ⟨1,zah s.Z,0⟩)],112⟩ rfl ?_ ?_
 ·simp
  exact Le.go [(32,32),(72,72)] [] rfl rfl (by simp) (by simp [hR.conv',fcd])
 refine zad _ rfl (fun h5=>?_) fun h5=>?_
 ·simp at h5
  obtain ⟨hmD,hk⟩:=hb.head h5
  have hoff : s.off < s.Z.length:=by omega
  obtain ⟨k,hkd⟩ : ∃ k,k = s.D[m]:=⟨_,rfl⟩
  rw [← hkd] at hk
  have hkD : k ∈ s.D:=hkd ▸ List.getElem_mem hmD
  have hkr:=hb.bfs.rng k hkD
  obtain ⟨kn,hkn,hknN⟩ : ∃ kn : Nat,k = kn ∧ kn < N:=⟨k.toNat,by omega,by omega⟩
  obtain ⟨L,hL⟩ : ∃ L,L = zg5 A A.length kn:=⟨_,rfl⟩
  have hLm : ∀ st : Stp,st ∈ L ↔ st.1 < A.length ∧ stF A st = k:=fun st=>by rw [hL,hkn]; exact zkt
  have hLl : L.length ≤ 2 * A.length:=by rw [hL]; exact zhu A kn A.length
  have hfe : famE A A.length kn = L.map zbm:=by rw [hL]; rfl
  refine zae ?_
  refine zaa ?_
  refine zaf ?_
  refine zaw ⟨59,[(1,.pv (rC N A (ints f))),(3,.mp 32),(4,.rs 72 s.off s.q),(26,.vs 2 false (L.map zbm)),(27,.I L.length),(28,.I 0)],[(32,some ⟨0,R,0⟩),(72,some ⟨1,zah s.Z,0⟩)],184⟩ rfl ?_ ?_
  ·simp [hk,h5,hkn,hknN,hfe]
   exact ⟨rfl,Le.go [(32,32),(72,72)] [] rfl rfl (by simp [hfe]) (by simp [hR.conv',fcd])⟩
  refine zaf ?_
  refine zao (ι:=SSt) (fun t=>⟨59,[(1,.pv (rC N A (ints f))),(3,.mp 32),(4,.rs 72 t.s.off t.s.q),(26,.vs 2 false (L.map zbm)),(27,.I L.length),(28,.I t.i)],[(32,some ⟨0,t.R,0⟩),(72,some ⟨1,zah t.s.Z,0⟩)],184⟩)
   (fun t=>BInv N A f t.s m ∧ MapF t.R (camF t.s.D t.s.b) ∧ t.i ≤ L.length ∧ ziX A f t.s.D (L.take t.i) ∧ ∃ l,t.s.D = s.D ++ l) (fun t=>L.length - t.i) ⟨s,R,m,0⟩
   ⟨hb,hR,Nat.zero_le _,by rw [List.take_zero]; exact ziX.nil,[],by simp⟩ (Le.go [(32,32),(72,72)] [] rfl rfl (by simp) (by simp [hR.conv',fcd])) ?_
  rintro ⟨t,R,_,i⟩ ⟨ht,hR,hi,htc,l,htl⟩
  simp only at ht hR hi htc htl
  have htz:=ht.z
  have htd:=ht.d
  have htf:=ht.bfs.few
  refine zab ⟨59,[(1,.pv (rC N A (ints f))),(3,.mp 32),(4,.rs 72 t.off t.q),(26,.vs 2 false (L.map zbm)),(27,.I L.length),(28,.I i),(29,.B (decide (i < L.length)))],[(32,some ⟨0,R,0⟩),(72,some ⟨1,zah t.Z,0⟩)],192⟩ rfl ?_ ?_
  ·simp
   exact Le.go [(32,32),(72,72)] [] rfl rfl (by simp) (by simp [hR.conv',fcd])
  refine zaa ?_
  refine zad _ rfl (fun h8=>?_) fun h8=>?_
  ·simp at h8
   have hw : IntKind.i64.wrap ((i : Int) + 1) = (i : Int) + 1:=w64 (by omega) (by omega)
   obtain ⟨st,hst⟩ : ∃ st,st = L[i]:=⟨_,rfl⟩
   obtain ⟨hs1,hs2⟩:=(hLm st).1 (hst ▸ List.getElem_mem h8)
   have hrm:=hroom st hs1
   obtain ⟨hr1,hr2⟩:=hrng st hs1
   have hpush:=fun (h1 : 0 < zbM A f st) (h2 : stT A st ∉ t.D)=>ht.bfs.push (s:=st) hs1 (by rw [hs2,htl]; exact List.mem_append_left _ hkD) h1 h2 hr1 hr2
   have hcam:=fun (h2 : stT A st ∉ t.D)=>zpN ht.bfs h2 hr1 hr2
   have hsome:=zf9 t.D t.b (stT A st)
   have hfind:=hR.is.find (stT A st)
   have htake : ∀ D',(∃ l,D' = t.D ++ l) → stT A st ∈ D' ∨ ¬ 0 < zbM A f st → ziX A f D' (L.take (i + 1)):=fun D' hD' h s' hs' hr=>by
    rw [List.take_succ_eq_append_getElem h8,← hst] at hs'
    obtain ⟨l',rfl⟩:=hD'
    rcases List.mem_append.1 hs' with h' | h'
    ·exact List.mem_append_left _ (htc s' h' hr)
    ·rw [List.mem_singleton] at h'
     subst h'
     exact h.resolve_right fun hn=>hn hr
   obtain ⟨T,hT⟩ : ∃ T,T = stT A st:=⟨_,rfl⟩
   obtain ⟨rm,hrmd⟩ : ∃ rm,rm = zbM A f st:=⟨_,rfl⟩
   rw [← hT,← hrmd] at hrm hpush htake
   rw [← hT] at hcam hsome hfind
   refine zae ?_
   refine zaa ?_
   refine zaf ?_
   refine zab ⟨59,[(1,.pv (rC N A (ints f))),(3,.mp 32),(4,.rs 72 t.off t.q),(6,.pv (zbm st)),(26,.vs 2 false (L.map zbm)),(27,.I L.length),(28,.I i)],[(32,some ⟨0,R,0⟩),(72,some ⟨1,zah t.Z,0⟩)],232⟩ rfl ?_ ?_
   ·simp [h8,← hst]
    exact Le.go [(32,32),(72,72)] [208] rfl rfl (by simp) (by simp [hR.conv',fcd])
   refine zab ⟨59,[(1,.pv (rC N A (ints f))),(3,.mp 32),(4,.rs 72 t.off t.q),(6,.pv (zbm st)),(7,.I rm),(8,.I T),(26,.vs 2 false (L.map zbm)),(27,.I L.length),(28,.I i)],[(32,some ⟨0,R,0⟩),(72,some ⟨1,zah t.Z,0⟩)],300⟩ rfl ?_ ?_
   ·simp
    refine zal hrm (by simp) ?_
    simp
    exact Le.go [(32,32),(72,72)] [] rfl rfl (by simp) (by simp [hR.conv',fcd])
   refine zab ⟨59,[(1,.pv (rC N A (ints f))),(3,.mp 32),(4,.rs 72 t.off t.q),(6,.pv (zbm st)),(7,.I rm),(8,.I T),(10,.B (decide (T ∈ t.D))),(26,.vs 2 false (L.map zbm)),(27,.I L.length),(28,.I i)],[(32,some ⟨0,R,0⟩),(72,some ⟨1,zah t.Z,0⟩)],400⟩ rfl ?_ ?_
   ·have hgd : ∃ u v,(camF t.D t.b T).getD (toAV (Value.agg #[Value.int IntKind.i64 0,Value.bool false])) = .agg [.sc u,.sc v]:=by
     cases hc : camF t.D t.b T with
     | none=>exact ⟨.int .i64 0,.bool false,by simp [toAV,Value.oneCell']⟩
     | some x =>
       obtain ⟨u,v,rfl⟩:=ze5 _ _ _ _ hc
       exact ⟨u,v,rfl⟩
    obtain ⟨u,v,huv⟩:=hgd
    simp [hfind,hsome,huv]
    exact Le.go [(32,32),(72,72)] [] rfl rfl (by simp) (by simp [hR.conv',fcd])
   refine zab ⟨59,[(1,.pv (rC N A (ints f))),(3,.mp 32),(4,.rs 72 t.off t.q),(6,.pv (zbm st)),(8,.I T),(26,.vs 2 false (L.map zbm)),(27,.I L.length),(28,.I i),(49,.B (decide (0 < rm ∧ T ∉ t.D)))],[(32,some ⟨0,R,0⟩),(72,some ⟨1,zah t.Z,0⟩)],500⟩ rfl ?_ ?_
   ·simp
    refine zcD (fun hb=>?_) (fun hb=>?_) <;> (try rw [hb]) <;> (try simp at hb) <;> simp [hb]
    ·exact Le.go [(32,32),(72,72)] [] rfl rfl (by simp [hb]) (by simp [hR.conv',fcd])
    ·exact Le.go [(32,32),(72,72)] [] rfl rfl (by simp [hb]) (by simp [hR.conv',fcd])
   refine zad _ rfl (fun h13=>?_) fun h13=>?_
   ·rw [decide_eq_true_eq] at h13
    have hbu:=hpush h13.1 h13.2
    have hRu:=hR.set T (zo3 st) (hcam h13.2)
    have hmore:=ht.more hbu
    have hfw:=hbu.few
    rw [List.length_append,List.length_singleton] at hfw
    have hbt : ∀ g : Int → List AV,List.take t.q (List.drop t.off (List.map g t.Z)) = List.map g (t.Z.drop t.off):=fun g=>by rw [← List.map_drop,List.take_of_length_le (by simp; omega)]
    obtain ⟨R',hR'⟩ : ∃ R',R' = mset T (zo3 st) R:=⟨_,rfl⟩
    rw [← hR'] at hRu
    refine zab ⟨59,[(1,.pv (rC N A (ints f))),(3,.mp 32),(4,.rs 72 t.off t.q),(8,.I T),(26,.vs 2 false (L.map zbm)),(27,.I L.length),(28,.I i)],[(32,some ⟨0,R',0⟩),(72,some ⟨1,zah t.Z,0⟩)],600⟩ rfl ?_ ?_
    ·simp
     rw [show mset T (.agg [.I st.1,.B st.2]) R = R' from hR'.symm]
     exact Le.go [(32,32),(72,72)] [] rfl rfl (by simp) (by simp [hRu.conv',fcd])
    refine zav rfl ?_
    simp [hbt]
    refine ⟨by omega,by omega,by omega,?_⟩
    refine zav rfl ?_
    simp
    refine ⟨⟨⟨t.D ++ [T],t.b.set T.toNat (encS st),t.Z.drop t.off ++ [T],0,t.q + 1⟩,R',m,i + 1⟩,⟨hmore,hRu,h8,htake _ ⟨[T],rfl⟩ (.inl (by simp)),l ++ [T],by simp only [htl,List.append_assoc]⟩,by simp only; omega,?_⟩
    exact Le.go [(32,32),(624,72)] [] rfl rfl (by simp [hw]) (by simp [hRu.conv',fcd])
   ·rw [decide_eq_false_iff_not] at h13
    refine zae ?_
    refine zav rfl ?_
    simp
    refine ⟨⟨t,R,m,i + 1⟩,⟨ht,hR,h8,htake _ ⟨[],by simp⟩ ?_,l,htl⟩,by simp only; omega,Le.go [(32,32),(72,72)] [] rfl rfl (by simp [hw]) (by simp [hR.conv',fcd])⟩
    by_cases h : 0 < rm
    ·exact .inl (Decidable.byContradiction fun hn=>h13 ⟨h,hn⟩)
    ·exact .inr h
  simp at h8
  obtain rfl : i = L.length:=by omega
  refine zan ?_
  refine hit ?_
  have hlen : t.D.length = s.D.length + l.length:=by rw [htl,List.length_append]
  have hq : 0 < t.q:=by omega
  have htc' : zpK A f t.D s.D[m] A.length:=fun st h1 h2 h3=>by
   refine htc st ?_ h3
   rw [List.take_length]
   exact (hLm st).2 ⟨h1,by rw [hkd]; exact h2⟩
  refine zav rfl ?_
  simp
  refine ztW 1 (i:=72) rfl rfl hq ?_
  simp
  exact ⟨⟨{ t with off:=t.off + 1,q:=t.q - 1 },R,m + 1,0⟩,⟨ht.pop hq,zgk.next hmD hcl htc' htl,hR⟩,by simp only; omega,Le.go [(32,32),(72,72)] [] rfl rfl (by simp) (by simp [hR.conv',fcd])⟩
 simp at h5
 have hmD : m = s.D.length:=by omega
 refine zan ?_
 refine hit ?_
 refine zab ⟨59,[(2,.mp 32)],[(32,some ⟨0,R,0⟩)],200⟩ rfl ?_ ?_
 ·simp
  exact Le.go [(32,32)] [] rfl rfl (by simp) (by simp [hR.conv'])
 refine zag ?_
 exact zjM.mk (.inr rfl) (s.D,s.b,R) ⟨hb.bfs,by rw [hmD] at hcl; exact hcl.all,hR⟩ (zam.out [32] [] rfl (by simp) (by simp) (by simp) (by simp [hR.conv']))
theorem zrb {P Q : List (List Int)} (h : P.Perm Q) (k : Int) : begC P k = begC Q k:=h.countP_eq _
theorem zp3 {P Q : List (List Int)} (h : P.Perm Q) (k : Int) : useC P k = useC Q k:=(h.flatMap_right _).count_eq k
theorem zrB {P Q : List (List Int)} (h : P.Sublist Q) (k : Int) : begC P k ≤ begC Q k:=h.countP_le
theorem zr0 {P Q : List (List Int)} (h : P.Sublist Q) (k : Int) : useC P k ≤ useC Q k:=by
 unfold useC
 induction h with
 | slnil=>exact Nat.le_refl _
 | cons a _ ih=>rw [List.flatMap_cons,List.count_append]; omega
 | cons_cons a _ ih=>rw [List.flatMap_cons,List.flatMap_cons,List.count_append,List.count_append]; omega
theorem zll.perm {c : List Int} {P Q : List (List Int)} (h : zll c P) (hp : P.Perm Q) : zll c Q:=fun k hk=>by
 rw [← zrb hp,← zp3 hp]
 exact h k hk
theorem zll.sub {c : List Int} {P Q : List (List Int)} (h : zll c Q) (hs : P.Sublist Q) : zll c P:=fun k hk=>by
 have h1:=h k hk
 have h2:=zrB hs k
 have h3:=zr0 hs k
 omega
theorem zoY {P Q : List (List Int)} (h : P.Perm Q) : (zhz P).Perm (zhz Q):=h.filterMap _
theorem zhf.perm {g : Gr} {lv : Int} {seeds order c : List Int} {P Q : List (List Int)} {ends ends' : List Int} (h : zhf g lv seeds order c P ends) (hp : P.Perm Q) (he : ends.Perm ends') : zhf g lv seeds order c Q ends' :=
 ⟨fun w hw=>h.1 w (hp.mem_iff.2 hw),h.2.1.perm hp,zfA.2 (((zoY hp).symm.trans (zfA.1 h.2.2)).trans he)⟩
theorem zjo {N : Nat} {A : List Ed} (hn : zdK N A) : zaB N A (A.map fun _=>0):=by
 have hs : ∀ (φ : Ed → Int → Int),(∀ e,φ e 0 = 0) → ∀ A : List Ed,sumF φ A (A.map fun _=>0) = 0:=by
  intro φ hφ A
  induction A with
  | nil=>simp [sumF]
  | cons e A ih=>simp only [List.map_cons,sumF]; rw [hφ,ih]; omega
 refine ⟨?_,fun x _ _=>?_⟩
 ·have h0 : ∀ B : List Ed,(∀ e ∈ B,0 ≤ e.v) → Fit2 B (B.map fun _=>0):=by
   intro B
   induction B with
   | nil=>intro _; exact True.intro
   | cons e B ih=>intro h; exact ⟨⟨Int.le_refl _,h e (List.mem_cons_self ..)⟩,ih fun x hx=>h x (List.mem_cons_of_mem _ hx)⟩
  exact h0 A fun e he=>(hn.arc e he).2.2.2.2.2.2.2
 ·unfold outF inF
  rw [hs _ fun e=>by split <;> rfl,hs _ fun e=>by split <;> rfl]
theorem zeJ {N : Nat} {A : List Ed} (hn : zdK N A) : ∃ f,zaB N A f ∧ ∀ f',zaB N A f' → valF A f' ≤ valF A f:=by
 have hb : ∀ f,zaB N A f → valF A f ≤ capS (fun x=>decide (x = 0)) A:=fun f hf=>zef hn hf (by simp) (by simp)
 have key : ∀ (n : Nat) (f : List Int),zaB N A f → capS (fun x=>decide (x = 0)) A - valF A f ≤ n → ∃ f,zaB N A f ∧ ∀ f',zaB N A f' → valF A f' ≤ valF A f:=by
  intro n
  induction n with
  | zero =>
    intro f hf h
    exact ⟨f,hf,fun f' hf'=>by have:=hb f' hf'; omega⟩
  | succ n ih =>
    intro f hf h
    by_cases hm : ∀ f',zaB N A f' → valF A f' ≤ valF A f
    ·exact ⟨f,hf,hm⟩
    ·obtain ⟨f',hf'⟩:=Classical.not_forall.1 hm
     obtain ⟨h1,h2⟩:=Classical.not_imp.1 hf'
     exact ih f' h1 (by omega)
 exact key _ _ (zjo hn) (Int.self_le_toNat _)
noncomputable def maxF (N : Nat) (A : List Ed) : Int:=open Classical in if h : ∃ f,zaB N A f ∧ ∀ f',zaB N A f' → valF A f' ≤ valF A f then valF A h.choose else 0
theorem zgd {N : Nat} {A : List Ed} {f : List Int} (hf : zaB N A f) (hm : ∀ f',zaB N A f' → valF A f' ≤ valF A f) : maxF N A = valF A f:=by
 have h : ∃ f,zaB N A f ∧ ∀ f',zaB N A f' → valF A f' ≤ valF A f:=⟨f,hf,hm⟩
 unfold maxF
 rw [dif_pos h]
 have h1:=h.choose_spec
 have h2:=hm _ h1.1
 have h3:=h1.2 _ hf
 omega
theorem zp7 {N : Nat} {A : List Ed} (hn : zdK N A) {f : List Int} (hf : zaB N A f) : valF A f ≤ maxF N A:=by
 obtain ⟨m,h1,h2⟩:=zeJ hn
 rw [zgd h1 h2]
 exact h2 f hf
theorem zoi {N : Nat} {A : List Ed} (hn : zdK N A) : ∃ f,zaB N A f ∧ valF A f = maxF N A:=by
 obtain ⟨m,h1,h2⟩:=zeJ hn
 exact ⟨m,h1,(zgd h1 h2).symm⟩
def zrk (A : List Ed) (f : List Int) (l : List Stp) (j : Nat) (v : Int) : Prop:=∀ t ∈ l.drop j,v ≤ zbM A f t
end Go.Proofs.YteiabadhhhckfaaGreat
