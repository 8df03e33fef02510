/- Texts of this claim,merged. -/
import Derived.Test.YteiabadhhhckfaaGreatRb11
import Derived.Test.YteiabadhhhckfaaGreatRb10
import Derived.Test.YteiabadhhhckfaaGreatRb7
import Derived.Test.YteiabadhhhckfaaGreatRb9
set_option linter.unusedSimpArgs false
set_option linter.unusedVariables false
set_option linter.unusedSectionVars false
namespace Go.Proofs.YteiabadhhhckfaaGreat
open Go
theorem zp4 {g : Gr} {p : Pol} {k : Int} (h0 : 0 ≤ k) (h1 : k < g.size) : (zaI g p).getD k.toNat 0 = zdz p (dist (zaj g p.lv) p.seeds k):=by
 unfold zaI zbv
 have h2 : k.toNat < (zaj g p.lv).size.toNat:=by show k.toNat < g.size.toNat; omega
 rw [List.getD_eq_getElem?_getD,List.getElem?_map,List.getElem?_map,List.getElem?_range h2]
 simp only [Option.map_some,Option.getD_some]
 rw [show ((k.toNat : Nat) : Int) = k by omega]
theorem zqi {g : Gr} {p : Pol} {k : Int} (h1 : g.size ≤ k) : (zaI g p).getD k.toNat 0 = 0:=by
 unfold zaI zbv
 have h2 : ¬ k.toNat < (zaj g p.lv).size.toNat:=by show ¬ k.toNat < g.size.toNat; omega
 rw [List.getD_eq_getElem?_getD,List.getElem?_eq_none (by simp; omega)]
 rfl
theorem zhQ {g : Gr} {p : Pol} {n : Int} (hp : za3 n p) : ∀ x ∈ zaI g p,0 ≤ x:=fun x hx=>by
 unfold zaI at hx
 obtain ⟨d,_,rfl⟩:=List.mem_map.1 hx
 exact (zgd hp d).1
theorem zfH {g : Gr} {p : Pol} {n : Int} (hp : za3 n p) {k : Int} (h0 : 0 ≤ k) : 0 < (zaI g p).getD k.toNat 0 ↔ k < g.size ∧ 0 ≤ dist (zaj g p.lv) p.seeds k:=by
 by_cases h1 : k < g.size
 ·rw [zp4 h0 h1,zlO hp]
  exact ⟨fun h=>⟨h1,h⟩,fun h=>h.2⟩
 ·rw [zqi (by omega)]
  constructor
  ·intro h; omega
  ·intro h; exact absurd h.1 h1
theorem GrOk.level {g : Gr} (h : GrOk g) (v : Int) : GrOk (zaj g v):=by
 refine ⟨⟨h.1.1,h.1.2.1,Nat.le_trans (List.length_filter_le _ _) h.1.2.2.1,h.1.2.2.2⟩,fun i hi=>?_⟩
 have hm : (zaj g v).edges[i] ∈ g.edges:=(List.mem_filter.1 (List.getElem_mem hi)).1
 obtain ⟨j,hj,hje⟩:=List.mem_iff_getElem.1 hm
 have h1:=h.2 j hj
 rw [hje] at h1
 refine ⟨h1.1,h1.2.1,h1.2.2.1,fun h0=>?_⟩
 rw [ziO]
 have hp : (zaj g v).edges.Pairwise Bef:=h.pair.filter _
 exact List.pairwise_iff_getElem.1 hp (i - 1) i (by omega) hi (by omega)
theorem zg6 {g : Gr} (h : GrOk g) {S : List Int} {k : Int} : k ∈ ordL g S ↔ Key g k ∧ 0 ≤ dist g S k:=by
 unfold ordL
 rw [zit]
 constructor
 ·rintro ⟨⟨h1,h2⟩,h3,_⟩
  exact ⟨⟨h1,by omega⟩,h3⟩
 ·rintro ⟨h1,h2⟩
  have h3:=zqk (S:=S) h h1
  have h4:=h1.1
  have h5:=h1.2
  exact ⟨⟨h4,by omega⟩,h2,by omega⟩
theorem zhi {g : Gr} (h : GrOk g) (v : Int) : ((zaj g v).edges.map zdP).Nodup ∧ ∀ e ∈ (zaj g v).edges,0 ≤ e.f ∧ e.f < g.size ∧ 0 ≤ e.t ∧ e.t < g.size:=by
 have hl:=h.level v
 refine ⟨?_,fun e he=>?_⟩
 ·rw [List.Nodup,List.pairwise_map]
  refine hl.pair.imp fun {a b} hab he=>?_
  unfold Bef at hab
  unfold zdP at he
  simp at he
  omega
 ·obtain ⟨i,hi,rfl⟩:=List.mem_iff_getElem.1 he
  have h1:=(hl.2 i hi).1
  have h2 : (zaj g v).size = g.size:=rfl
  unfold Fits at h1
  omega
theorem Rise.nodup {l : List Int} {lo hi : Int} (h : Rise l lo hi) : l.Nodup ∧ ∀ x ∈ l,lo ≤ x ∧ x ≤ hi:=by
 have hlt : ∀ (j i : Nat) (hj : j < l.length) (hij : i < j),l[i] < l[j]:=by
  intro j
  induction j with
  | zero=>intro i _ hij; omega
  | succ j ih =>
    intro i hj hij
    have h1:=(h (j + 1) hj).2.2 (by omega)
    simp only [Nat.add_sub_cancel] at h1
    rcases Nat.lt_or_ge i j with h2 | h2
    ·have:=ih i (by omega) h2
     omega
    ·have : i = j:=by omega
     subst this
     exact h1
 refine ⟨List.pairwise_iff_getElem.2 fun i j hi hj hij he=>?_,fun x hx=>?_⟩
 ·have:=hlt j i hj hij
  omega
 ·obtain ⟨i,hi,rfl⟩:=List.mem_iff_getElem.1 hx
  have:=h i hi
  exact ⟨this.1,this.2.1⟩
theorem zmY {g : Gr} {p : Pol} {sinks ends f : List Int} {W : List (List Nat)} (hg : GrOk g) (hp : za3 g.size p) (hk : sinks.Nodup) (hk0 : ∀ x ∈ sinks,0 ≤ x) (hpe : ends.Perm sinks)
  (hf : Fit2 (za2 g p (zaI g p) sinks) f) (hw : ∀ w ∈ W,WayA (za2 g p (zaI g p) sinks) 0 w 1 ∧ (metA (za2 g p (zaI g p) sinks) w).Nodup)
  (hs : ∀ i,i < (za2 g p (zaI g p) sinks).length → (sumN (List.count i) W : Int) ≤ f.getD i 0) (hl : W.length = sinks.length) :
  zjA g p.lv p.seeds (ordL (zaj g p.lv) p.seeds) (zaI g p) (W.map (zcD (za2 g p (zaI g p) sinks))) ends:=by
 have hgl:=hg.level p.lv
 have hse:=hp.2.1.nodup
 have hle:=zhi hg p.lv
 have hmo : ∀ k,0 ≤ k → 0 < (zaI g p).getD k.toNat 0 → k ∈ ordL (zaj g p.lv) p.seeds:=fun k h0 hc=>by
  have h1:=(zfH hp h0).1 hc
  exact (zg6 hgl).2 ⟨⟨h0,h1.1⟩,h1.2⟩
 have hnet : zgT (za2 g p (zaI g p) sinks) (fun x y=>zoM g p.lv x y ∧ y ∈ ordL (zaj g p.lv) p.seeds) (p.seeds.filter fun x=>decide (x ∈ ordL (zaj g p.lv) p.seeds)) sinks fun x=>(zaI g p).getD x.toNat 0:=by
  refine znF (fun e he hc=>?_) (fun x hx hc=>?_) hse.1 (fun x hx=>(hse.2 x hx).1) hk hk0 hle.1 fun e he=>⟨(hle.2 e he).1,(hle.2 e he).2.2.1⟩
  ·have h0:=hle.2 e he
   have h1:=(zfH hp h0.1).1 hc
   have h2:=zqu hgl he h1.2
   refine ⟨?_,(zg6 hgl).2 ⟨⟨h0.2.2.1,h0.2.2.2⟩,h2.1⟩⟩
   unfold zaj at he
   have h3:=List.mem_filter.1 he
   refine ⟨e,h3.1,rfl,rfl,?_⟩
   have:=h3.2
   simp at this
   omega
  ·exact List.mem_filter.2 ⟨hx,by simpa using hmo x (hse.2 x hx).1 hc⟩
 obtain ⟨q1,q2,q3,q4⟩:=zpx hnet hf hw hs (zhQ hp)
 refine ⟨by rw [List.length_map,hl,hpe.length_eq],hpe.nodup_iff.2 hk,fun w hwW=>?_,fun k hkl=>hpe.mem_iff.2 (q3 k hkl),q2,q1⟩
 obtain ⟨⟨k,hk1,hk2⟩,h2,h3⟩:=q4 w hwW
 have hk3:=List.mem_filter.1 hk2
 have hk4 : k ∈ ordL (zaj g p.lv) p.seeds:=by simpa using hk3.2
 refine ⟨⟨k,hk1,hk3.1⟩,fun x hx=>?_,h2,fun i hi=>(h3 i hi).1⟩
 obtain ⟨i,hi,rfl⟩:=List.mem_iff_getElem.1 hx
 cases i with
 | zero =>
   rw [List.head?_eq_getElem?,List.getElem?_eq_getElem hi] at hk1
   rw [Option.some.inj hk1]
   exact hk4
 | succ i=>exact (h3 i hi).2
theorem GrOk.edges_le {g : Gr} (h : GrOk g) : g.edges.length ≤ 500:=h.1.2.2.1
theorem zbz {g : Gr} {p : Pol} : (zaI g p).length = g.size.toNat:=by simp [zaI,zbv,zaj]
def zcx (g : Gr) (p : Pol) (k : Nat) : List Int:=(zaI g p).take k ++ (zbv (zaj g p.lv) p.seeds).drop k
theorem zkm {g : Gr} {p : Pol} (k : Nat) (hk : k ≤ g.size.toNat) : (zcx g p k).length = g.size.toNat:=by simp [zcx,zbz,zbv,zaj]; omega
theorem znA {g : Gr} {p : Pol} : zcx g p 0 = zbv (zaj g p.lv) p.seeds:=by simp [zcx]
theorem zph {g : Gr} {p : Pol} : zcx g p g.size.toNat = zaI g p:=by
 unfold zcx
 rw [List.take_of_length_le (by rw [zbz]; exact Nat.le_refl _),List.drop_eq_nil_of_le (by simp [zbv,zaj])]
 simp
theorem zoP {g : Gr} {p : Pol} {k : Nat} (hk : k < g.size.toNat) : (zcx g p k)[k]? = some (dist (zaj g p.lv) p.seeds k):=by
 unfold zcx
 rw [List.getElem?_append_right (by simp [zbz]; omega)]
 simp [zbz,Nat.min_eq_left (Nat.le_of_lt hk),zbv,zaj,hk]
theorem zpo {g : Gr} {p : Pol} {k : Nat} (hk : k < g.size.toNat) : (zag (zcx g p k)).set k [AV.I (zdz p (dist (zaj g p.lv) p.seeds k))] = zag (zcx g p (k + 1)):=by
 rw [show [AV.I (zdz p (dist (zaj g p.lv) p.seeds k))] = (fun n : Int=>[AV.I n]) (zdz p (dist (zaj g p.lv) p.seeds k)) from rfl]
 show (List.map (fun n : Int=>[AV.I n]) (zcx g p k)).set k _ = List.map (fun n : Int=>[AV.I n]) _
 rw [← List.map_set]
 congr 1
 have hc : k < (zaI g p).length:=by rw [zbz]; exact hk
 have hd : k < (zbv (zaj g p.lv) p.seeds).length:=by simp [zbv,zaj,hk]
 unfold zcx
 rw [List.set_append,if_neg (by simp [zbz]; omega)]
 rw [show k - ((zaI g p).take k).length = 0 by simp [zbz]; omega]
 rw [List.drop_eq_getElem_cons hd,List.set_cons_zero,List.take_succ_eq_append_getElem hc,List.append_assoc]
 congr 2
 simp [zaI,zbv]
set_option maxRecDepth 100000 in
theorem zfy (g : Gr) (p : Pol) (hg : GrOk g) (hs : p.seeds.length ≤ 1099511627776) : zai Tryz.prog zdr [eG g,eP p] [] (.rs 0 0 g.size.toNat) [some ⟨1,zag (zaI g p),0⟩]:=by
 refine zle.acalls (Nat.le_of_ble_eq_true rfl) (Nat.le_of_ble_eq_true rfl) (Nat.zero_le _) ?_
 show awp _ 0 _ _ ⟨30,[(0,eG g),(1,eP p)],[],16⟩
 have hsz:=hg.1.1
 have hsz2:=hg.1.2.1
 have hel:=hg.edges_le
 have hgl:=hg.gone_le
 have hall:=zfc (zaj g p.lv) p.seeds (hg.level p.lv) hs
 have hsl : (zaj g p.lv).size = g.size:=rfl
 rw [hsl,← znA] at hall
 obtain ⟨N,hNe⟩ : ∃ N : Nat,N = g.size.toNat:=⟨_,rfl⟩
 rw [← hNe] at hall
 have hml : ∀ k,k ≤ N → (zag (zcx g p k)).length = N:=fun k hk=>by rw [List.length_map,zkm k (by omega),hNe]
 have hmg : ∀ (k : Nat) (h : k < (zcx g p k).length),k < N → (zcx g p k)[k] = dist (zaj g p.lv) p.seeds k:=fun k h hk=>by
  have:=zoP (g:=g) (p:=p) (k:=k) (by omega)
  rw [List.getElem?_eq_getElem h] at this
  exact Option.some.inj this
 have hml2 : ∀ k,k ≤ N → (zcx g p k).length = N:=fun k hk=>by rw [zkm k (by omega),hNe]
 have hms : ∀ k : Nat,k < N → (zag (zcx g p k)).set k [AV.I (zdz p (dist (zaj g p.lv) p.seeds k))] = zag (zcx g p (k + 1)):=fun k hk=>zpo (by omega)
 refine rx (s:=?s1) [2,3] [] [16,24] rfl ?o1 ?q1
 case o1=>simp; rfl
 refine zat ⟨30,[(3,.pv (pC p)),(5,.rs 88 0 N)],[(88,some ⟨1,zag (zcx g p 0),0⟩)],104⟩ rfl ?_ ?_
 ·simp
  refine zal (zd9 g p.lv (by omega) (by omega)) (by simp) ?_
  simp
  refine zaQ hall rfl ?_
  simp [fcd]
  exact ⟨rfl,Le.keep rfl (Nat.le_refl _) (by simp) (by simp)⟩
 refine zaa ?_
 refine rk (s:=?s3) [3,5,15,16,17] [88] rfl ?o3 ?q3
 case o3=>simp; rfl
 refine zaf ?_
 refine zap (ι:=Nat) (fun i=>⟨30,[(3,.pv (pC p)),(5,.rs 88 0 N),(15,.rs 88 0 N),(16,.I N),(17,.I i)],[(88,some ⟨1,zag (zcx g p i),0⟩)],128⟩) (fun i=>i ≤ N) (fun i=>N - i) 0 (by simp) (Le.keep rfl (Nat.le_refl _) (by simp) (by simp)) ?_
 intro i hi
 refine rk (s:=?s5) [3,5,15,16,17,18] [88] rfl ?o5 ?q5
 case o5=>simp; rfl
 refine zaa ?_
 refine zac _ rfl (fun h6=>?_) fun h6=>?_
 ·simp at h6
  have hw : IntKind.i64.wrap ((i : Int) + 1) = (i : Int) + 1:=w64 (by omega) (by omega)
  refine zae ?_
  refine zaa ?_
  refine zaf ?_
  refine rk (s:=?s7) [3,5,6,7,15,16,17] [88] rfl ?o7 ?q7
  case o7=>simp [h6,hml2,hmg,hi]; rfl
  refine zad (s:=?s8) rfl ?o8 ?q8
  case o8 =>
   simp
   refine zal (zjQ p (dist (zaj g p.lv) p.seeds i)) (by simp) ?_
   simp [h6,hml2,hi,hms]
   rfl
  refine zad (s:=?s9) rfl ?o9 ?q9
  case o9=>simp [hw]; rfl
  exact ⟨i + 1,by omega,by omega,Le.go [(88,88)] [] rfl rfl (by simp) (by simp [fcd])⟩
 simp at h6
 obtain rfl : i = N:=by omega
 refine zan ?_
 refine hit ?_
 refine rk (s:=?s10) [4] [88] rfl ?o10 ?q10
 case o10=>simp; rfl
 refine zah ?_
 refine ⟨.inr rfl,zam.out [88] [] rfl (by simp) (by simp) (by simp [hNe]) (by simp [fcd,hNe,zph])⟩
theorem zjl {g : Gr} {p : Pol} {k : Nat} (hk : k < g.size.toNat) : (zaI g p).take (k + 1) = (zaI g p).take k ++ [zdz p (dist (zaj g p.lv) p.seeds k)]:=by
 rw [List.take_succ_eq_append_getElem (by rw [zbz]; exact hk)]
 simp [zaI,zbv]
set_option maxRecDepth 100000 in
theorem zmb (g : Gr) (p : Pol) (hg : GrOk g) (hs : p.seeds.length ≤ 1099511627776) : zai Tryz.prog zhr [eG g,eP p] [] (.rs 0 0 g.size.toNat) [some ⟨1,zag (zaI g p),0⟩]:=by
 refine zo9.acalls (Nat.le_of_ble_eq_true rfl) (Nat.le_of_ble_eq_true rfl) (Nat.zero_le _) ?_
 show awp _ 0 _ _ ⟨31,[(0,eG g),(1,eP p)],[],16⟩
 have hsz:=hg.1.1
 have hsz2:=hg.1.2.1
 have hel:=hg.edges_le
 have hgl:=hg.gone_le
 have hall:=zfs (zaj g p.lv) p.seeds (hg.level p.lv) hs
 have hsl : (zaj g p.lv).size = g.size:=rfl
 rw [hsl] at hall
 obtain ⟨N,hNe⟩ : ∃ N : Nat,N = g.size.toNat:=⟨_,rfl⟩
 have hDl : (zbv (zaj g p.lv) p.seeds).length = N:=by simp [zbv,zaj,hNe]
 have hDg : ∀ (k : Nat) (h : k < (zbv (zaj g p.lv) p.seeds).length),(zbv (zaj g p.lv) p.seeds)[k] = dist (zaj g p.lv) p.seeds k:=fun k h=>by simp [zbv]
 rw [← hNe] at hall
 obtain ⟨D,hD⟩ : ∃ D,D = zbv (zaj g p.lv) p.seeds:=⟨_,rfl⟩
 rw [← hD] at hall hDl
 simp only [← hD] at hDg
 have hcl : (zaI g p).length = N:=by rw [zbz,hNe]
 obtain ⟨C,hC0,hCs,hCl,hCN⟩ : ∃ C : Nat → List Int,C 0 = [] ∧ (∀ k : Nat,k < N → C (k + 1) = C k ++ [zdz p (dist (zaj g p.lv) p.seeds k)]) ∧ (∀ k,k ≤ N → (C k).length = k) ∧ C N = zaI g p :=
  ⟨fun k=>(zaI g p).take k,by simp,fun k hk=>zjl (by omega),fun k hk=>by simp [hcl,hk],by simp [← hcl]⟩
 refine rx (s:=?s1) [2,3] [] [16,24] rfl ?o1 ?q1
 case o1=>simp; rfl
 refine zat ⟨31,[(3,.pv (pC p)),(5,ints D)],[],104⟩ rfl ?_ ?_
 ·simp
  refine zal (zc6 g p.lv (by omega) (by omega)) (by simp) ?_
  simp
  refine zaQ hall rfl ?_
  simp [fcd]
  exact ⟨rfl,Le.snap [88] rfl rfl (by simp [fcd,← hDl,zao])⟩
 refine rx (s:=?s3) [3,5,6] [] [] rfl ?o3 ?q3
 case o3=>simp; rfl
 refine zaa ?_
 refine rx (s:=?s4) [3,5,6,7] [] [] rfl ?o4 ?q4
 case o4=>simp; rfl
 refine zaf ?_
 refine zap (ι:=Nat) (fun i=>⟨31,[(3,.pv (pC p)),(5,ints D),(6,.rs 16 0 i),(7,.I i)],[(16,some ⟨1,zag (C i),0⟩)],120⟩) (fun i=>i ≤ N) (fun i=>N - i) 0 (by simp) (Le.lst [] [] [(16,1)] rfl (by simp) (by simp) (by simp) (by simp) (by simp) (by simp) (by simp) (by simp [Up]) (by simp [hC0])) ?_
 intro i hi
 have hCi:=hCl i hi
 have hti : ∀ f : Int → List AV,List.take i (List.map f (C i)) = List.map f (C i):=fun f=>List.take_of_length_le (by simp [hCi])
 refine zaa ?_
 refine rk (s:=?s5) [3,5,6,7,18] [16] rfl ?o5 ?q5
 case o5=>simp [hDl]; rfl
 refine zac _ rfl (fun h6=>?_) fun h6=>?_
 ·simp at h6
  have hw : IntKind.i64.wrap ((i : Int) + 1) = (i : Int) + 1:=w64 (by omega) (by omega)
  refine zae ?_
  refine zaa ?_
  refine zaf ?_
  refine zbm rfl ?_
  simp [h6,hDl,hDg]
  refine zal (znC p (dist (zaj g p.lv) p.seeds i)) (by simp) ?_
  simp [hCi]
  refine ⟨by omega,by omega,rfl,?_⟩
  refine zau rfl ?_
  simp [hw]
  exact ⟨i + 1,by omega,by omega,Le.go [(216,16)] [] rfl rfl (by simp) (by simp [fcd,hCs i h6,hti])⟩
 simp at h6
 obtain rfl : i = N:=by omega
 refine zan ?_
 refine hit ?_
 refine rk (s:=?s7) [4] [16] rfl ?o7 ?q7
 case o7=>simp; rfl
 refine zah ?_
 exact ⟨.inr rfl,zam.out [16] [] rfl (by simp) (by simp) (by simp [hNe]) (by simp [fcd,hCN])⟩
end Go.Proofs.YteiabadhhhckfaaGreat
namespace Go.Proofs.YteiabadhhhckfaaGreat
open Go Go.RowKit Go.Shelf Go.Maps Go.Sort
theorem arr2 {vs : Array Value} (h : vs.size = 2) : vs = #[vs.getD 0 undef,vs.getD 1 undef]:=by
 apply Array.ext
 ·simpa using h
 ·intro i h1 h2
  have : i = 0 ∨ i = 1:=by simp at h2; omega
  rcases this with rfl | rfl <;> simp [Array.getD,h1] <;> intro h3 <;> omega
theorem zrZ (x : Int) : (encZ x : Value) = .int .i64 x:=rfl
theorem zmv (l : List Int) (hl : l.length ≤ 1099511627776) : zai Tryz.prog zb9 [.nilS,.fn (.func zbk) [] [.pv [ints l]]] [] (.rs 0 0 l.length) [some ⟨1,zag l,0⟩]:=by
 refine ⟨⟨_,_,Tryz.func180,rfl,by decide⟩,by simp,fun T M w vs htok hhs hdom hrep=>?_⟩
 obtain ⟨hsz,hr⟩:=hrep
 have hr0:=hr 0 (by simp)
 have hr1:=hr 1 (by simp)
 simp only [List.getD_cons_zero,List.getD_cons_succ] at hr0 hr1
 rw [arr2 hsz]
 generalize vs.getD 0 undef = v0 at hr0
 generalize vs.getD 1 undef = v1 at hr1
 cases hr0
 cases hr1 with
 | fn _ _ _ _ us ws hx hy h h' =>
 have hus : us = #[]:=by simpa using hx
 subst hus
 have hws:=arr1 (vs:=ws) hy
 have hc0:=h' 0 (by simp)
 simp only [List.getD_cons_zero] at hc0
 rw [hws]
 generalize ws.getD 0 undef = u at hc0
 cases hc0 with
 | pv _ _ Bs B0 cells ty fz c hb ht hcc ho hh =>
 have hB:=hcc 0 (by simp)
 have hv:=hh 0 (by simp)
 simp only [List.getD_cons_zero,Nat.add_zero] at hB hv
 have hBl : Bs < w.heap.size:=(Array.getElem?_eq_some_iff.1 hb).1
 generalize c 0 = sv at hB hv
 cases hv with
 | vs _ _ _ _ a cap cc hf hle hw hbb h1 hcv =>
 have hlen : (l.map fun n=>[AV.I n]).length = l.length:=by simp
 rw [hlen] at hB
 have hcell : ∃ b off,(l ≠ [] → a = some ⟨b,off,none⟩ ∧ b < w.heap.size) ∧ ∀ j (h : j < l.length),w.cell? ⟨b,off + j,none⟩ = some (.int .i64 l[j]):=by
  by_cases h0 : l = []
  ·exact ⟨0,0,fun h=>absurd h0 h,fun j hj=>by subst h0; simp at hj⟩
  ·obtain ⟨b,off,cs,ty',fz',ha,hwb,_,hrow⟩:=hbb (by simpa using h0)
   refine ⟨b,off,fun _=>⟨ha,(Array.getElem?_eq_some_iff.1 hwb).1⟩,fun j hj=>?_⟩
   have h2:=hrow j 0 (by simpa using hj) (by decide)
   have h3:=hcv j 0 (by simpa using hj) (by decide)
   have e : ((l.map fun n=>[AV.I n]).getD j []).getD 0 .dead = .I l[j]:=by simp [List.getD,hj]
   rw [e] at h3
   have h4:=zbj h3 rfl
   rw [h4] at h2
   simp only [World.cell?,hwb]
   simpa using h2
 obtain ⟨b,off,hab,hcs⟩:=hcell
 rw [← callsIn_wide (n:=2)]
 refine (zlI Fence.wide 2 trivial trivial rfl (by omega) Bs B0 b off cap a l (fun h=>(hab h).1) hl w ?_ hBl (fun h=>(hab h).2) hcs).mono ?_
 ·simp only [World.cell?,hb]
  exact hB
 rintro e w' ⟨v,rfl,⟨_,hown⟩,hbel⟩
 have hpr : Pres T w T w':=⟨fun _=>Nat.le_refl _,fun b' cs' ty' fz' h=>⟨cs',fz',by rw [hbel.block b' (Array.getElem?_eq_some_iff.1 h).1]; exact h,rfl,fun _ _=>rfl⟩⟩
 have hT0 : ∀ b',w.heap.size ≤ b' → T b' = 0:=fun b' hb'=>by
  rcases Nat.eq_zero_or_pos (T b') with e | e
  ·exact e
  ·obtain ⟨cells,ty,fz,h1,_⟩:=htok b' e
   have:=(Array.getElem?_eq_some_iff.1 h1).1
   omega
 have htok' : TOk T w':=fun b' hb'=>by
  obtain ⟨cells,ty,fz,h1,h2⟩:=htok b' hb'
  exact ⟨cells,ty,fz,by rw [hbel.block b' (Array.getElem?_eq_some_iff.1 h1).1]; exact h1,h2⟩
 have fin : ∀ g : GE,(∀ b,g.blk = some b → w.heap.size ≤ b) → zm4 T w' (fun k=>if k = 0 then some g else none) ⟨1,zag l,0⟩ g → Rep T w' (fun k=>if k = 0 then some g else none) (.rs 0 0 l.length) v →
   ∃ v' T' M',Ending.returned v = .returned v' ∧ Rep T' w' M' (.rs 0 0 l.length) v' ∧ HsOk T' w' M' (zjj [some ⟨1,zag l,0⟩]) ∧ zhv 0 T M w T' M' w':=by
  intro g hg ent hv
  refine ⟨v,T,_,rfl,hv,?_,⟨htok',fun _ _ _=>rfl,fun k hk=>absurd hk (Nat.not_lt_zero k),hbel.os,hbel.tape,hbel.output,hbel.size,fun b' hb' _=>hbel.block b' hb',hpr,fun k g1 b1 _ h1 h2=>?_⟩⟩
  ·rw [show ([some ⟨1,zag l,0⟩] : List (Option Ent)) = List.map some [⟨1,zag l,0⟩] from rfl,zhD]
   have z : ∀ id e,hpOf [(⟨1,zag l,0⟩ : Ent)] id = some e → id = 0 ∧ e = ⟨1,zag l,0⟩:=by
    intro id e he
    cases id with
    | zero=>simp [hpOf] at he; exact ⟨rfl,he.symm⟩
    | succ k=>simp [hpOf] at he
   refine ⟨fun id e he=>?_,fun id id' e e' _ _ _ h1 h2 _ _ _ _=>by rw [(z _ _ h1).1,(z _ _ h2).1]⟩
   obtain ⟨rfl,rfl⟩:=z _ _ he
   exact ⟨g,rfl,ent⟩
  ·by_cases hk : k = 0
   ·subst hk
    simp at h1
    subst h1
    exact .inr (hg b1 h2)
   ·simp [hk] at h1
 have hwide : ∀ row ∈ zag l,row.length = 1:=by intro row hr; simp at hr; obtain ⟨x,_,rfl⟩:=hr; rfl
 rcases hown with ⟨rfl,h0⟩ | ⟨g,cp,cur,rfl,hg,hgw,hle2,hcm,hcsz,htk⟩
 ·have h0' : l = []:=List.length_eq_zero_iff.1 h0
  subst h0'
  exact fin ⟨none,0,1⟩ (by simp) ⟨rfl,Nat.zero_le _,fun _=>hwide,(fun _=>rfl),(fun hz=>absurd hz (Nat.succ_ne_zero 0)),fun _ b' hb'=>by cases hb'⟩ (.rs _ _ _ _ _ _ _ rfl (Nat.succ_ne_zero 0) (Nat.le_refl _) (fun _=>⟨rfl,rfl⟩) fun b' hb'=>by cases hb')
 ·refine fin ⟨some g,0,1⟩ (fun b' hb'=>by cases hb'; exact hg) ⟨rfl,Nat.zero_le _,fun _=>hwide,(fun hn=>by cases hn),(fun hz=>absurd hz (Nat.succ_ne_zero 0)),fun _ b' hb'=>?_⟩ (.rs _ _ _ _ cp _ _ rfl (Nat.succ_ne_zero 0) hle2 (fun hn=>by cases hn) fun b' hb'=>?_)
  ·obtain rfl:=Option.some.inj hb'
   refine ⟨cur,3,hgw,by rw [hT0 g hg]; exact Nat.zero_le _,by simp; omega,fun i j hi hj=>?_⟩
   have hi' : i < l.length:=by simpa using hi
   obtain rfl : j = 0:=by simpa using hj
   refine ⟨.int .i64 l[i],?_,rfl,?_⟩
   ·have : (cur.toList.take (l.length * 1))[i]? = (l.map encZ)[i]?:=by rw [htk]
    rw [List.getElem?_take,if_pos (by omega)] at this
    simpa [hi',zrZ] using this
   ·have e : ((zag l).getD i []).getD 0 .dead = .I l[i]:=by simp [List.getD,hi']
    rw [e]
    exact .sc _ _ rfl
  ·obtain rfl:=Option.some.inj hb'
   exact ⟨.inr (by simp),cur,3,(0,0),hgw,by simp; omega⟩
section
variable {P : Program} {np id : Nat} {h : Nat → Option Ent} {K : AV → List Nat → List (Nat × Option Ent) → Prop} {f : FuncId} {first capt args args' : List AV} {res : AV}
theorem zsb (sn : List Nat) (hnp : ∀ i ∈ sn,np ≤ i) (hc : zai P f args' [] res []) (hw : (first ++ args ++ capt).map (conv [] sn h 4) = args')
  (hk : K (conv (((List.range 8).map (id + ·)).zipIdx.map fun (a,b)=>(b,a)) [] (fun _=>none) 4 res) sn (sn.filterMap fun i=>(h i).map fun e=>(i,some { e with ro:=e.rows.length }))) : aK P np id .call (.fn (.func f) first capt :: args) h K :=
 ⟨[],sn,true,args',[],res,[],by simp,by simp,fun _=>hnp,by rw [List.zipIdx_nil,hw]; exact zb5 _,rfl,hc,by simp,.inl rfl,by simpa using hk⟩
end
abbrev seqF (l : List Int) : AV:=.fn (.func zbk) [] [.pv [ints l]]
theorem zqK (l : List Int) : zai Tryz.prog zbI [ints l] [] (seqF l) []:=by
 refine zeC.acalls (Nat.le_of_ble_eq_true rfl) (Nat.le_of_ble_eq_true rfl) (Nat.le_refl _) ?_
 show awp _ 0 _ _ ⟨4,[(0,ints l)],[],16⟩
 refine rk (s:=?s1) [1] [16] rfl ?o1 ?q1
 case o1=>simp; rfl
 refine rk (s:=?s2) [2] [16] rfl ?o2 ?q2
 case o2=>simp; rfl
 refine zah ?_
 exact ⟨.inr rfl,zam.out [] [16] rfl (by simp) (by simp) (by simp) (by simp)⟩
theorem zoR (l : List Int) (hl : l.length ≤ 1099511627776) : zai Tryz.prog zcp [seqF l] [] (.rs 0 0 l.length) [some ⟨1,zag l,0⟩]:=by
 refine zgk.acalls (Nat.le_of_ble_eq_true rfl) (Nat.le_of_ble_eq_true rfl) (Nat.zero_le _) ?_
 show awp _ 0 _ _ ⟨5,[(0,seqF l)],[],16⟩
 refine rk (s:=?s1) [0] [] rfl ?o1 ?q1
 case o1=>simp; rfl
 refine rk (s:=?s2) [2] [32] rfl ?o2 ?q2
 case o2 =>
  simp
  refine zaQ (zmv l hl) (by simp) ?_
  simp [fcd]
  rfl
 refine zah ?_
 exact ⟨.inr rfl,zam.out [32] [] rfl (by simp) (by simp) (by simp) (by simp [fcd])⟩
theorem zqt (l : List Int) (hl : l.length ≤ 1099511627776) : zai Tryz.prog zbU [seqF l] [] (.rs 0 0 l.length) [some ⟨1,zag (zfj l),0⟩]:=by
 refine zgN.acalls (Nat.le_of_ble_eq_true rfl) (Nat.le_of_ble_eq_true rfl) (Nat.zero_le _) ?_
 show awp _ 0 _ _ ⟨9,[(0,seqF l)],[],16⟩
 refine rk (s:=?s1) [0] [] rfl ?o1 ?q1
 case o1=>simp; rfl
 refine rk (s:=?s2) [3] [32] rfl ?o2 ?q2
 case o2 =>
  simp
  refine zaQ (zoR l hl) (by simp) ?_
  simp [fcd]
  rfl
 refine rk (s:=?s3) [3] [32] rfl ?o3 ?q3
 case o3 =>
  simp
  refine zbd (i:=32) rfl (e':=⟨1,zdL l,0⟩) (by simp [fcd,zdL]) (zqc l (by omega)) (by simp) (by simp) ?_
  simp [fcd,zdL]
  rfl
 refine rk (s:=?s4) [2] [32] rfl ?o4 ?q4
 case o4=>simp; rfl
 refine zah ?_
 exact ⟨.inr rfl,zam.out [32] [] rfl (by simp) (by simp) (by simp) (by simp [fcd])⟩
section
variable {P : Program} {np id : Nat} {h : Nat → Option Ent} {K : AV → List Nat → List (Nat × Option Ent) → Prop} {s s' l k : Nat} {f : Bool} {rows : List (List AV)}
@[simp] theorem ztT : aK P np id (.slc s true true false) [.vs s' f rows,.sc (.int .i64 (l : Int)),.sc (.int .i64 (k : Int))] h K = (l ≤ k ∧ k ≤ rows.length ∧ s' = s ∧ K (.vs s false ((rows.drop l).take (k - l))) [] []):=by
 rw [ziB]
 refine propext ⟨?_,?_⟩
 ·rintro ⟨l',r,m,n,h1,h2,h4,h5,h6,h7,h3,h10,h8,h9⟩
  simp at h4 h1
  subst h1
  obtain ⟨rfl,rfl⟩ : l = l' ∧ k = r:=by omega
  exact ⟨h2,h3,h8,by simpa using h9⟩
 ·rintro ⟨h1,h2,h3,h4⟩
  exact ⟨l,k,0,rows.length,rfl,h1,by simp,(fun h=>by cases h),(fun h=>by cases h),(fun h=>by cases h),h2,(fun h=>by cases h),h3,by simpa using h4⟩
end
theorem ziS {g : Gr} {p : Pol} {n : Int} (hp : za3 n p) : ∀ c ∈ zaI g p,0 ≤ c ∧ c ≤ 1000:=by
 intro c hc
 obtain ⟨d,_,rfl⟩:=List.mem_map.1 hc
 exact zgd hp d
abbrev nC (n : Net) : List AV:=[.I n.nodes,eEs n.arcs]
abbrev eN (n : Net) : AV:=.agg (nC n)
theorem zkV (f : FuncId) (capt : List AV) (q : Ed → Bool) (l : List Ed) (hl : l.length ≤ 1099511627776) (hs : ziD capt) (hc : ∀ e ∈ l,zai Tryz.prog f (eE e :: capt) [] (.B (q e)) []) : zai Tryz.prog zaR [eEs l,.fn (.func f) [] capt] [] (.I (idxQ l q)) []:=by
 have hs2 : ∀ ρ sn h,capt.map (conv ρ sn h 2) = capt:=fun _ _ _=>hs _ _ _ 1
 have hs3 : ∀ ρ sn h,capt.map (conv ρ sn h 3) = capt:=fun _ _ _=>hs _ _ _ 2
 have hs4 : ∀ ρ sn h,capt.map (conv ρ sn h 4) = capt:=fun _ _ _=>hs _ _ _ 3
 refine zcC.acalls (Nat.le_of_ble_eq_true rfl) (Nat.le_of_ble_eq_true rfl) (Nat.le_refl _) ?_
 show awp _ 0 _ _ ⟨19,[(0,eEs l),(1,.fn (.func f) [] capt)],[],16⟩
 refine zaa ?_
 refine zad (s:=?s1) rfl ?o1 ?q1
 case o1=>simp; rfl
 refine zaa ?_
 refine zaa ?_
 refine zad (s:=?s2) rfl ?o2 ?q2
 case o2=>simp; rfl
 refine zaf ?_
 refine zap (ι:=Nat) (fun k=>⟨19,[(0,eEs l),(1,.fn (.func f) [] capt),(7,.I l.length),(8,.I k)],[],16⟩) (fun k=>k ≤ l.length ∧ ∀ i,i < k → ∀ h : i < l.length,q l[i] = false) (fun k=>l.length - k) (0) ?_ (Le.snap [] rfl rfl (by simp [hs2,hs3,hs4])) ?_
 ·simp
 rintro k ⟨hk,hp⟩
 refine zaa ?_
 refine zad (s:=?s3) rfl ?o3 ?q3
 case o3=>simp; rfl
 refine zaa ?_
 refine zac _ rfl (fun h4=>?_) fun h4=>?_
 ·try simp at h4
  have hw2 : IntKind.i64.wrap ((k : Int) + 1) = (k : Int) + 1:=w64 (by omega) (by omega)
  have hck:=hc l[k] (List.getElem_mem h4)
  refine zae ?_
  refine zaa ?_
  refine zaf ?_
  refine zaa ?_
  refine zad (s:=?s5) rfl ?o5 ?q5
  case o5=>simp [h4,hw2]; rfl
  refine zaa ?_
  refine zad (s:=?s6) rfl ?o6 ?q6
  case o6 =>
   simp [h4,hw2]
   refine zal hck ?_ ?_
   ·simp [hs2,hs3,hs4]
   simp [h4,hw2]; rfl
  refine zac _ rfl (fun h7=>?_) fun h7=>?_
  ·try simp at h7
   refine zaa ?_
   refine zad (s:=?s8) rfl ?o8 ?q8
   case o8=>simp [h4,hw2]; rfl
   refine zah ?_
   exact ⟨.inr rfl,zam.one (by simp [znh h4 hp h7])⟩
  try simp at h7
  refine zae ?_
  refine zad (s:=?s9) rfl ?o9 ?q9
  case o9=>simp [h4,hw2]; rfl
  refine ⟨k + 1,⟨h4,fun i hi=>?_⟩,by omega,Le.snap [] rfl rfl (by simp [h4,hw2,hs2,hs3,hs4])⟩
  rcases Nat.lt_succ_iff_lt_or_eq.1 hi with h | rfl
  ·exact hp i h
  ·exact fun _=>h7
 try simp at h4
 have hall : ∀ i,i < l.length → ∀ h : i < l.length,q l[i] = false:=fun i hi=>hp i (by omega)
 refine zan ?_
 refine hit ?_
 refine zaa ?_
 refine zad (s:=?s10) rfl ?o10 ?q10
 case o10=>simp; rfl
 refine zah ?_
 exact ⟨.inr rfl,zam.one (by simp [znS hall])⟩
theorem zig (f : FuncId) (capt : List AV) (q : Ed → Bool) (l : List Ed) (hl : l.length ≤ 1099511627776) (hs : ziD capt) (hc : ∀ e ∈ l,zai Tryz.prog f (eE e :: capt) [] (.B (q e)) []) : zai Tryz.prog zaL [eEs l,.fn (.func f) [] capt] [] (.B (l.any q)) []:=by
 have hs2 : ∀ ρ sn h,capt.map (conv ρ sn h 2) = capt:=fun _ _ _=>hs _ _ _ 1
 have hs3 : ∀ ρ sn h,capt.map (conv ρ sn h 3) = capt:=fun _ _ _=>hs _ _ _ 2
 have hs4 : ∀ ρ sn h,capt.map (conv ρ sn h 4) = capt:=fun _ _ _=>hs _ _ _ 3
 refine zcc.acalls (Nat.le_of_ble_eq_true rfl) (Nat.le_of_ble_eq_true rfl) (Nat.le_refl _) ?_
 show awp _ 0 _ _ ⟨9,[(0,eEs l),(1,.fn (.func f) [] capt)],[],16⟩
 refine zaa ?_
 refine zad (s:=?s1) rfl ?o1 ?q1
 case o1=>simp; rfl
 have hi : decide (0 ≤ idxQ l q) = l.any q:=by
  unfold idxQ
  by_cases h : l.findIdx q < l.length
  ·rw [if_pos h]
   have:=List.findIdx_getElem (w:=h)
   have h2 : l.any q = true:=List.any_eq_true.2 ⟨_,List.getElem_mem h,this⟩
   rw [h2]
   simp
  ·rw [if_neg h]
   have : l.findIdx q = l.length:=by have:=List.findIdx_le_length (xs:=l) (p:=q); omega
   rw [List.findIdx_eq_length] at this
   have h2 : l.any q = false:=by
    rw [List.any_eq_false]
    intro x hx
    simp [this x hx]
   rw [h2]
   simp
 refine zab ⟨9,[(4,.B (l.any q))],[],16⟩ rfl ?_ ?_
 ·simp
  refine zal (zkV f capt q l hl hs hc) ?_ ?_
  ·simp [hs2,hs3,hs4]
  simp
  exact Le.snap [] rfl rfl (by simp; exact wkB hi)
 refine zah ?_
 exact ⟨.inr rfl,zam.one (by simp)⟩
theorem zh9 (n : Net) (a : Ed) (h2 : 2 ≤ n.nodes) (h3 : n.nodes ≤ 130) : zai Tryz.prog zc4 [eE a,.pv (nC n)] [] (.B (!decide (zh5 n.nodes a))) []:=by
 refine zjM.acalls (Nat.le_of_ble_eq_true rfl) (Nat.le_of_ble_eq_true rfl) (Nat.le_refl _) ?_
 show awp _ 0 _ _ ⟨43,[(0,eE a),(1,.pv (nC n))],[],16⟩
 have hw : IntKind.i64.wrap (n.nodes - 1) = n.nodes - 1:=w64 (by omega) (by omega)
 refine rx (s:=?s1) [1,2] [] [16] rfl ?o1 ?q1
 case o1=>simp; rfl
 refine zab ⟨43,[(3,.B (!decide (zh5 n.nodes a)))],[],400⟩ rfl ?_ ?_
 ·simp [hw]
  repeat' first
   | (refine zdN zaK rfl ?_; refine zal (zbs ..) rfl ?_; simp [hw])
   | (refine zcA (fun hb=>?_) (fun hb=>?_) <;> (try rw [hb]) <;> (try simp at hb) <;> simp [hb,hw])
  all_goals exact Le.snap [] rfl rfl (by simp <;> exact wkB (by (try simp at *); grind [zh5]))
 refine zah ?_
 exact ⟨.inr rfl,zam.one (by simp)⟩
theorem zeo (n : Net) (hl : n.arcs.length ≤ 1099511627776) : zai Tryz.prog zdw [eN n] [] (.I (if za0 n then 0 else 16)) []:=by
 refine znN.acalls (Nat.le_of_ble_eq_true rfl) (Nat.le_of_ble_eq_true rfl) (Nat.le_refl _) ?_
 show awp _ 0 _ _ ⟨21,[(0,eN n)],[],16⟩
 refine rx (s:=?s1) [1] [] [16] rfl ?o1 ?q1
 case o1=>simp; rfl
 refine rx (s:=?s2) [1,3] [] [] rfl ?o2 ?q2
 case o2=>simp; rfl
 refine zaa ?_
 refine zab ⟨21,[(20,.B (!decide (za0 n)))],[],300⟩ rfl ?_ ?_
 ·by_cases h2 : 2 ≤ n.nodes ∧ n.nodes ≤ 130
  ·have hcf:=zig zc4 [.pv (nC n)] (fun a=>!decide (zh5 n.nodes a)) n.arcs hl (fun ρ sn h k=>by simp) (fun e _=>zh9 n e h2.1 h2.2)
   simp
   refine zal (zbs ..) rfl ?_
   simp [h2]
   by_cases h3 : n.arcs.length ≤ 1200
   ·simp [show ¬ (1200 < n.arcs.length) by omega,show ¬ (1200 < (n.arcs.length : Int)) by omega]
    refine zal hcf (by simp) ?_
    simp
    refine Le.snap [] rfl rfl (by simp <;> exact wkB (by rw [Bool.eq_iff_iff]; simp [za0,h2,h3]))
   ·simp [show (1200 < n.arcs.length) by omega,show (1200 < (n.arcs.length : Int)) by omega]
    refine Le.snap [] rfl rfl (by simp [za0,h3])
  ·simp
   refine zal (zbs ..) rfl ?_
   have h2' : (decide (2 ≤ n.nodes) && decide (n.nodes ≤ 130)) = false:=by simpa using fun h=>by omega
   simp [h2']
   have hn : ¬ za0 n:=fun h=>h2 ⟨h.1,h.2.1⟩
   refine Le.snap [] rfl rfl (by simp [hn])
 refine zac _ rfl (fun h7=>?_) fun h7=>?_
 ·simp at h7
  refine rx (s:=?s8) [2] [] [] rfl ?o8 ?q8
  case o8=>simp; rfl
  refine zah ?_
  exact ⟨.inr rfl,zam.one (by simp [h7])⟩
 simp at h7
 refine zae ?_
 refine rx (s:=?s9) [2] [] [] rfl ?o9 ?q9
 case o9=>simp; rfl
 refine zah ?_
 exact ⟨.inr rfl,zam.one (by simp [h7])⟩
def zoi (n : Net) : Prop:=(2 ≤ n.nodes ∧ n.nodes ≤ 130) ∧ n.arcs.length ≤ 1200
def zqy (n : Net) (i : Nat) : Prop:=∀ h : i < n.arcs.length,zh5 n.nodes n.arcs[i]
theorem zhJ {n : Net} : za0 n ↔ zoi n ∧ ∀ i,zqy n i:=by
 unfold za0 zoi zqy
 constructor
 ·rintro ⟨a,b,c,d⟩
  exact ⟨⟨⟨a,b⟩,c⟩,fun i h=>d _ (List.getElem_mem h)⟩
 ·rintro ⟨⟨⟨a,b⟩,c⟩,d⟩
  exact ⟨a,b,c,fun x hx=>by obtain ⟨i,hi,rfl⟩:=List.getElem_of_mem hx; exact d i hi⟩
set_option maxRecDepth 100000 in
open Classical in
theorem zfY (n : Net) (hl : n.arcs.length ≤ 1099511627776) : zai Tryz.prog zdY [eN n] [] (.I (if za0 n then 0 else 16)) []:=by
 refine zlP.acalls (Nat.le_of_ble_eq_true rfl) (Nat.le_of_ble_eq_true rfl) (Nat.le_refl _) ?_
 show awp _ 0 _ _ ⟨80,[(0,eN n)],[],16⟩
 refine rx (s:=?s1) [1] [] [16] rfl ?o1 ?q1
 case o1=>simp; rfl
 refine zaa ?_
 refine zab ⟨80,[(1,.pv (nC n)),(18,.B (!decide (zoi n)))],[],300⟩ rfl ?_ ?_
 ·simp
  repeat' first
   | (refine zcA (fun hb=>?_) (fun hb=>?_) <;> (try rw [hb]) <;> (try simp at hb) <;> simp [hb])
  all_goals exact Le.snap [] rfl rfl (by simp <;> exact wkB (by (try simp at *); grind [zoi]))
 refine zac _ rfl (fun h3=>?_) fun h3=>?_
 ·simp at h3
  refine rx (s:=?s4) [2] [] [] rfl ?o4 ?q4
  case o4=>simp; rfl
  refine zah ?_
  exact ⟨.inr rfl,zam.one (by simp [zhJ,h3])⟩
 simp at h3
 refine zae ?_
 refine zaa ?_
 refine rx (s:=?s5) [1,3] [] [] rfl ?o5 ?q5
 case o5=>simp; rfl
 refine zaf ?_
 refine zap (ι:=Nat) (fun i=>⟨80,[(1,.pv (nC n)),(3,.I i)],[],308⟩) (fun i=>i ≤ n.arcs.length ∧ ∀ k,k < i → zqy n k) (fun i=>n.arcs.length - i) 0 (by simp) (Le.go [] [] rfl rfl (by simp) (by simp)) ?_
 rintro i ⟨hi,hp⟩
 refine zaa ?_
 refine rx (s:=?s6) [1,3,23] [] [] rfl ?o6 ?q6
 case o6=>simp; rfl
 refine zac _ rfl (fun h7=>?_) fun h7=>?_
 ·simp at h7
  have hw : IntKind.i64.wrap ((i : Int) + 1) = (i : Int) + 1:=w64 (by omega) (by omega)
  refine zae ?_
  refine zaa ?_
  refine zaf ?_
  refine zab ⟨80,[(1,.pv (nC n)),(3,.I i),(4,.pv (eC n.arcs[i]))],[],408⟩ rfl ?_ ?_
  ·simp [h7]
   exact Le.snap [388] rfl rfl (by simp)
  refine zab ⟨80,[(1,.pv (nC n)),(3,.I i),(79,.B (!decide (zqy n i)))],[],900⟩ rfl ?_ ?_
  ·simp
   have hat : zqy n i ↔ zh5 n.nodes n.arcs[i]:=⟨fun h=>h h7,fun h _=>h⟩
   repeat' first
    | (refine zcA (fun hb=>?_) (fun hb=>?_) <;> (try rw [hb]) <;> (try simp at hb) <;> simp [hb])
   all_goals exact Le.snap [] rfl rfl (by simp <;> exact wkB (by (try simp at *); simp only [hat]; grind [zh5]))
  refine zac _ rfl (fun h9=>?_) fun h9=>?_
  ·refine rx (s:=?s10) [2] [] [] rfl ?o10 ?q10
   case o10=>simp; rfl
   refine zah ?_
   have hn : ¬ za0 n:=fun h=>by simp at h9; exact h9 ((zhJ.1 h).2 i)
   exact ⟨.inr rfl,zam.one (by simp [hn])⟩
  simp at h9
  refine zae ?_
  refine zad (s:=?s11) rfl ?o11 ?q11
  case o11=>simp; rfl
  refine ⟨i + 1,⟨h7,fun k hk=>?_⟩,by omega,Le.go [] [] rfl rfl (by simp [hw]) (by simp)⟩
  rcases Nat.lt_succ_iff_lt_or_eq.1 hk with h | rfl
  ·exact hp k h
  ·exact h9
 simp at h7
 have hy : za0 n:=zhJ.2 ⟨h3,fun k hk=>hp k (by omega) hk⟩
 refine zan ?_
 refine hit ?_
 refine rx (s:=?s12) [2] [] [] rfl ?o12 ?q12
 case o12=>simp; rfl
 refine zah ?_
 exact ⟨.inr rfl,zam.one (by simp [hy])⟩
variable {g : Gr} {S : List Int} {key : Int}
abbrev zhb (l : List Bool) : List (List AV):=l.map fun b=>[AV.B b]
variable {g : Gr} {S : List Int} {key : Int}
section
variable {P : Program} {np id : Nat} {h : Nat → Option Ent} {K : AV → List Nat → List (Nat × Option Ent) → Prop}
theorem zsA {s i off len : Nat} (l : Nat) {e : Ent} (he : h i = some e) (hs : e.s = s) (hl : l ≤ len) (hK : K (.rs i (off + l) (len - l)) [i] []) : aK P np id (.slc s true false false) [.rs i off len,.sc (.int .i64 l)] h K:=by
 rw [ziB]
 exact ⟨l,len,0,len,rfl,hl,rfl,by simp,by simp,by simp,Nat.le_refl _,rfl,⟨e,he,hs⟩,hK⟩
end
structure BSt where
 D : List Int
 b : List Int
 Z : List Int
 off : Nat
 q : Nat
structure BInv (N : Nat) (A : List Ed) (f : List Int) (s : BSt) (m : Nat) : Prop where
 bfs : Bfs N A f s.D s.b
 z : s.off + s.q = s.Z.length
 d : m + s.q = s.D.length
 same : s.Z.drop s.off = s.D.drop m
section
variable {N : Nat} {A : List Ed} {f : List Int}
theorem zrK {i : Nat} {k : Int} {D b : List Int} (hi : i < A.length) (hf : i < f.length) : tryS A f k (i,false) (D,b) = if A[i].f = k ∧ f[i] < A[i].v ∧ A[i].t ∉ D then (D ++ [A[i].t],b.set A[i].t.toNat ((i : Int) + 1)) else (D,b):=by
 have he : arcD A i = A[i]:=by unfold arcD; rw [List.getD_eq_getElem?_getD,List.getElem?_eq_getElem hi,Option.getD_some]
 have hg : f.getD i 0 = f[i]:=by rw [List.getD_eq_getElem?_getD,List.getElem?_eq_getElem hf,Option.getD_some]
 unfold tryS stF stT za8 encS
 simp only [Bool.false_eq_true,if_false,he,hg,Int.sub_pos]
theorem zrg {i : Nat} {k : Int} {D b : List Int} (hi : i < A.length) (hf : i < f.length) : tryS A f k (i,true) (D,b) = if A[i].t = k ∧ 0 < f[i] ∧ A[i].f ∉ D then (D ++ [A[i].f],b.set A[i].f.toNat (-((i : Int) + 1))) else (D,b):=by
 have he : arcD A i = A[i]:=by unfold arcD; rw [List.getD_eq_getElem?_getD,List.getElem?_eq_getElem hi,Option.getD_some]
 have hg : f.getD i 0 = f[i]:=by rw [List.getD_eq_getElem?_getD,List.getElem?_eq_getElem hf,Option.getD_some]
 unfold tryS stF stT za8 encS
 simp only [if_true,he,hg]
theorem BInv.more {s : BSt} {m : Nat} (h : BInv N A f s m) {x : Int} {b' : List Int} (hb : Bfs N A f (s.D ++ [x]) b') : BInv N A f ⟨s.D ++ [x],b',s.Z.drop s.off ++ [x],0,s.q + 1⟩ m:=by
 have h1:=h.z
 have h2:=h.d
 refine ⟨hb,?_,?_,?_⟩
 ·simp only [List.length_append,List.length_drop,List.length_singleton]; omega
 ·simp only [List.length_append,List.length_singleton]; omega
 ·simp only [List.drop_zero]
  rw [h.same,List.drop_append_of_le_length (by omega)]
theorem BInv.pop {s : BSt} {m : Nat} (h : BInv N A f s m) (hq : 0 < s.q) : BInv N A f { s with off:=s.off + 1,q:=s.q - 1 } (m + 1):=by
 have h1:=h.z
 have h2:=h.d
 refine ⟨h.bfs,by simp only; omega,by simp only; omega,?_⟩
 simp only
 rw [← List.drop_drop,h.same,List.drop_drop]
theorem BInv.head {s : BSt} {m : Nat} (h : BInv N A f s m) (hq : 0 < s.q) : ∃ hm : m < s.D.length,s.Z[s.off]? = some s.D[m]:=by
 have h1:=h.z
 have h2:=h.d
 refine ⟨by omega,?_⟩
 have e : (s.Z.drop s.off)[0]? = (s.D.drop m)[0]?:=by rw [h.same]
 rw [List.getElem?_drop,List.getElem?_drop,Nat.add_zero,Nat.add_zero] at e
 rw [e,List.getElem?_eq_getElem (by omega)]
end
set_option maxRecDepth 100000 in
set_option maxHeartbeats 4000000 in
theorem zo2 (N : Nat) (A : List Ed) (f : List Int) (hn : za0 ⟨N,A⟩) (hf : f.length = A.length) :
  ∃ x : List Int × List Int,(Bfs N A f x.1 x.2 ∧ zd7 A f x.1) ∧ zai Tryz.prog zdF [eN ⟨N,A⟩,ints f] [] (.rs 0 0 N) [some ⟨1,zag x.2,0⟩]:=by
 refine zjD.acallsX (args:=[eN ⟨N,A⟩,ints f]) (hs:=[]) (fun x=>.rs 0 0 N) (fun x=>[some ⟨1,zag x.2,0⟩]) (fun x : List Int × List Int=>Bfs N A f x.1 x.2 ∧ zd7 A f x.1) (Nat.le_of_ble_eq_true rfl) (Nat.le_of_ble_eq_true rfl) (fun _=>by simp) ?_
 show awp _ 0 _ _ ⟨112,[(0,eN ⟨N,A⟩),(1,ints f)],[],16⟩
 obtain ⟨hn0,hn1,hal,hav⟩:=hn
 simp only at hn0 hn1 hal hav
 refine rx (s:=?s1) [1,2] [] [16] rfl ?o1 ?q1
 case o1=>simp; rfl
 refine zab ⟨112,[(1,ints f),(2,.pv (nC ⟨N,A⟩)),(5,.rs 48 0 N)],[(48,some ⟨1,zag (List.replicate N 0),0⟩)],56⟩ rfl ?_ ?_
 ·simp
  refine ⟨by omega,by omega,?_⟩
  exact Le.go [(48,48)] [] rfl rfl (by simp) (by simp)
 refine zab ⟨112,[(1,ints f),(2,.pv (nC ⟨N,A⟩)),(5,.rs 48 0 N),(6,.rs 80 0 N)],[(48,some ⟨1,zag (List.replicate N 0),0⟩),(80,some ⟨1,zhb (List.replicate N false),0⟩)],88⟩ rfl ?_ ?_
 ·simp
  refine ⟨by omega,?_⟩
  exact Le.go [(48,48),(72,80)] [] rfl rfl (by simp) (by simp)
 have hmf:=zmU (N:=N) (by omega)
 refine zab ⟨112,[(1,ints f),(2,.pv (nC ⟨N,A⟩)),(5,.rs 48 0 N),(6,.rs 80 0 N)],[(48,some ⟨1,zag (List.replicate N 0),0⟩),(80,some ⟨1,zhb (zbN N [0]),0⟩)],112⟩ rfl ?_ ?_
 ·have h0 : 0 < N:=by omega
  simp [h0,zaU]
  exact Le.go [(48,48),(80,80)] [] rfl rfl (by simp) (by simp [← hmf])
 refine zab ⟨112,[(1,ints f),(2,.pv (nC ⟨N,A⟩)),(5,.rs 48 0 N),(6,.rs 80 0 N),(7,.rs 120 0 1)],[(48,some ⟨1,zag (List.replicate N 0),0⟩),(80,some ⟨1,zhb (zbN N [0]),0⟩),(120,some ⟨1,zag [0],0⟩)],136⟩ rfl ?_ ?_
 ·simp
  exact Le.go [(48,48),(80,80),(112,120)] [] rfl rfl (by simp) (by simp)
 refine zaa ?_
 refine zaf ?_
 refine zap (ι:=BSt × Nat) (fun s=>⟨112,[(1,ints f),(2,.pv (nC ⟨N,A⟩)),(5,.rs 48 0 N),(6,.rs 80 0 N),(7,.rs 120 s.1.off s.1.q)],[(48,some ⟨1,zag s.1.b,0⟩),(80,some ⟨1,zhb (zbN N s.1.D),0⟩),(120,some ⟨1,zag s.1.Z,0⟩)],136⟩)
  (fun s=>BInv N A f s.1 s.2 ∧ zen A f s.1.D s.2) (fun s=>N - s.2) (⟨[0],List.replicate N 0,[0],0,1⟩,0)
  ⟨⟨Bfs.start (by omega),rfl,rfl,rfl⟩,fun s _ h=>by simp at h⟩ (Le.go [(48,48),(80,80),(120,120)] [] rfl rfl (by simp) (by simp)) ?_
 rintro ⟨s,m⟩ ⟨hb,hcl⟩
 simp only at hb hcl
 have hfew:=hb.bfs.few
 have hbd:=hb.d
 have hbz:=hb.z
 refine zaa ?_
 refine rk (s:=?s6) [1,2,5,6,7,22] [48,80,120] rfl ?o6 ?q6
 case o6=>simp; rfl
 refine zac _ rfl (fun h7=>?_) fun h7=>?_
 ·simp at h7
  obtain ⟨hmD,hk⟩:=hb.head h7
  have hoff : s.off < s.Z.length:=by omega
  obtain ⟨k,hkd⟩ : ∃ k,k = s.D[m]:=⟨_,rfl⟩
  rw [← hkd] at hk
  have hkD : k ∈ s.D:=hkd ▸ List.getElem_mem hmD
  refine zae ?_
  refine zaf ?_
  refine rk (s:=?s8) [1,2,5,6,7,8] [48,80,120] rfl ?o8 ?q8
  case o8=>simp [hk,h7]; rfl
  refine zab ⟨112,[(1,ints f),(2,.pv (nC ⟨N,A⟩)),(5,.rs 48 0 N),(6,.rs 80 0 N),(7,.rs 120 (s.off + 1) (s.q - 1)),(8,.I k)],[(48,some ⟨1,zag s.b,0⟩),(80,some ⟨1,zhb (zbN N s.D),0⟩),(120,some ⟨1,zag s.Z,0⟩)],300⟩ rfl ?_ ?_
  ·simp
   refine zsA 1 (i:=120) rfl rfl h7 ?_
   simp
   exact Le.go [(48,48),(80,80),(120,120)] [] rfl rfl (by simp) (by simp)
  have hpop:=hb.pop h7
  refine rk (s:=?s10) [1,2,5,6,7,8,9] [48,80,120] rfl ?o10 ?q10
  case o10=>simp; rfl
  refine zaf ?_
  refine zap (ι:=BSt × Nat) (fun s=>⟨112,[(1,ints f),(2,.pv (nC ⟨N,A⟩)),(5,.rs 48 0 N),(6,.rs 80 0 N),(7,.rs 120 s.1.off s.1.q),(8,.I k),(9,.I s.2)],[(48,some ⟨1,zag s.1.b,0⟩),(80,some ⟨1,zhb (zbN N s.1.D),0⟩),(120,some ⟨1,zag s.1.Z,0⟩)],400⟩)
   (fun t=>BInv N A f t.1 (m + 1) ∧ t.2 ≤ A.length ∧ zes A f t.1.D k t.2 ∧ ∃ l,t.1.D = s.D ++ l) (fun t=>A.length - t.2) ({ s with off:=s.off + 1,q:=s.q - 1 },0)
   ⟨hpop,Nat.zero_le _,fun s h=>by omega,[],by simp⟩ (Le.go [(48,48),(80,80),(120,120)] [] rfl rfl (by simp) (by simp)) ?_
  rintro ⟨t,i⟩ ⟨ht,hi,htc,l,htl⟩
  simp only at ht hi htc htl
  refine zaa ?_
  refine rk (s:=?s11) [1,2,5,6,7,8,9,32] [48,80,120] rfl ?o11 ?q11
  case o11=>simp; rfl
  refine zac _ rfl (fun h12=>?_) fun h12=>?_
  ·simp at h12
   have hif : i < f.length:=by omega
   have hw : IntKind.i64.wrap ((i : Int) + 1) = (i : Int) + 1:=w64 (by omega) (by omega)
   have hw2 : IntKind.i64.wrap (-((i : Int) + 1)) = -((i : Int) + 1):=w64 (by omega) (by omega)
   obtain ⟨e,he⟩ : ∃ e,e = A[i]:=⟨_,rfl⟩
   obtain ⟨v,hv⟩ : ∃ v,v = f[i]:=⟨_,rfl⟩
   have hfwd:=fun (D b : List Int)=>zrK (k:=k) (D:=D) (b:=b) h12 hif
   have hbwd:=fun (D b : List Int)=>zrg (k:=k) (D:=D) (b:=b) h12 hif
   rw [← he,← hv] at hfwd hbwd
   have heo:=hav _ (List.getElem_mem h12)
   rw [← he] at heo
   obtain ⟨e1,e2,e3,e4,_⟩:=heo
   have hg1 : A[i]? = some e:=by rw [List.getElem?_eq_getElem h12,he]
   have hg2 : f[i]? = some v:=by rw [List.getElem?_eq_getElem hif,hv]
   have hkt : k ∈ t.D:=by rw [htl]; exact List.mem_append_left _ hkD
   refine zae ?_
   refine zaH (ι:=BSt) (fun u=>⟨112,[(1,ints f),(2,.pv (nC ⟨N,A⟩)),(5,.rs 48 0 N),(6,.rs 80 0 N),(7,.rs 120 u.off u.q),(8,.I k),(9,.I i)],[(48,some ⟨1,zag u.b,0⟩),(80,some ⟨1,zhb (zbN N u.D),0⟩),(120,some ⟨1,zag u.Z,0⟩)],2000⟩)
    (fun u=>BInv N A f u (m + 1) ∧ zes A f u.D k (i + 1) ∧ ∃ l,u.D = t.D ++ l) ?_ fun u hu=>?_
   ·refine zaf ?_
    refine zab ⟨112,[(1,ints f),(2,.pv (nC ⟨N,A⟩)),(5,.rs 48 0 N),(6,.rs 80 0 N),(7,.rs 120 t.off t.q),(8,.I k),(9,.I i),(10,.pv (eC e))],[(48,some ⟨1,zag t.b,0⟩),(80,some ⟨1,zhb (zbN N t.D),0⟩),(120,some ⟨1,zag t.Z,0⟩)],600⟩ rfl ?_ ?_
    ·simp [h12,← he]
     exact Le.go [(48,48),(80,80),(120,120)] [480] rfl rfl (by simp) (by simp)
    refine zaH (ι:=BSt) (fun u=>⟨112,[(1,ints f),(2,.pv (nC ⟨N,A⟩)),(5,.rs 48 0 N),(6,.rs 80 0 N),(7,.rs 120 u.off u.q),(8,.I k),(9,.I i),(10,.pv (eC e))],[(48,some ⟨1,zag u.b,0⟩),(80,some ⟨1,zhb (zbN N u.D),0⟩),(120,some ⟨1,zag u.Z,0⟩)],1000⟩)
     (fun u=>BInv N A f u (m + 1) ∧ (u.D,u.b) = tryS A f k (i,false) (t.D,t.b)) ?_ fun u hu=>?_
    ·have hmk : (zbN N t.D)[e.t.toNat]? = some (decide (e.t ∈ t.D)):=zfG e3 (by omega)
     have hlt : e.t.toNat < N:=by omega
     have hlt2 : e.t < (N : Int):=by omega
     refine zat ⟨112,[(1,ints f),(2,.pv (nC ⟨N,A⟩)),(5,.rs 48 0 N),(6,.rs 80 0 N),(7,.rs 120 t.off t.q),(8,.I k),(9,.I i),(10,.pv (eC e)),(60,.B (decide (e.f = k ∧ v < e.v ∧ e.t ∉ t.D)))],[(48,some ⟨1,zag t.b,0⟩),(80,some ⟨1,zhb (zbN N t.D),0⟩),(120,some ⟨1,zag t.Z,0⟩)],800⟩ rfl ?_ ?_
     ·by_cases hm : e.t ∈ t.D
      ·rw [decide_eq_true hm] at hmk
       simp
       repeat' first
        | (refine zcA (fun hb=>?_) (fun hb=>?_) <;> (try rw [hb]) <;> (try simp at hb) <;> simp [hb,hmk,hg2,e3,hlt2,hif,← hv])
       all_goals exact ⟨rfl,Le.go [(48,48),(80,80),(120,120)] [] rfl rfl (by simp [hb,hm]) (by simp)⟩
      ·rw [decide_eq_false hm] at hmk
       simp
       repeat' first
        | (refine zcA (fun hb=>?_) (fun hb=>?_) <;> (try rw [hb]) <;> (try simp at hb) <;> simp [hb,hmk,hg2,e3,hlt2,hif,← hv])
       all_goals exact ⟨rfl,Le.go [(48,48),(80,80),(120,120)] [] rfl rfl (by simp [hm]) (by simp)⟩
     refine zac _ rfl (fun h15=>?_) fun h15=>?_
     ·rw [decide_eq_true_eq] at h15
      have hs1:=hfwd t.D t.b
      rw [if_pos h15] at hs1
      have hbk : ∃ y,t.b[e.t.toNat]? = some y:=⟨_,List.getElem?_eq_getElem (by rw [ht.bfs.len]; omega)⟩
      obtain ⟨y,hy⟩:=hbk
      have hbl : e.t.toNat < t.b.length:=by rw [ht.bfs.len]; omega
      have hbt : ∀ g : Int → List AV,List.take t.q (List.drop t.off (List.map g t.Z)) = List.map g (t.Z.drop t.off):=fun g=>by rw [← List.map_drop,List.take_of_length_le (by have:=ht.z; simp; omega)]
      have htz:=ht.z
      have htd:=ht.d
      have hms:=zhj (D:=t.D) e3 hlt2
      have hbu : Bfs N A f (t.D ++ [e.t]) (t.b.set e.t.toNat ((i : Int) + 1)):=by
       have h3:=zq6 (A:=A) (f:=f) (k:=k) (s:=(i,false)) (st:=(t.D,t.b)) ht.bfs hkt h12 (by unfold stT arcD; rw [List.getD_eq_getElem?_getD,hg1]; exact e3) (by unfold stT arcD; rw [List.getD_eq_getElem?_getD,hg1]; exact hlt2)
       rw [hs1] at h3
       exact h3
      have hfw:=hbu.few
      rw [List.length_append,List.length_singleton] at hfw
      refine zat ⟨112,[(1,ints f),(2,.pv (nC ⟨N,A⟩)),(5,.rs 48 0 N),(6,.rs 80 0 N),(7,.rs 120 t.off t.q),(8,.I k),(9,.I i),(10,.pv (eC e))],[(48,some ⟨1,zag (t.b.set e.t.toNat ((i : Int) + 1)),0⟩),(80,some ⟨1,zhb (zbN N (t.D ++ [e.t])),0⟩),(120,some ⟨1,zag t.Z,0⟩)],900⟩ rfl ?_ ?_
      ·simp [hmk,e3,hlt2,hw,hy,zaU]
       exact ⟨rfl,Le.go [(48,48),(80,80),(120,120)] [] rfl rfl (by simp) (by simp [← hms,fcd])⟩
      refine zau rfl ?_
      simp [hbt]
      exact ⟨by omega,by omega,by omega,⟨t.D ++ [e.t],t.b.set e.t.toNat ((i : Int) + 1),t.Z.drop t.off ++ [e.t],0,t.q + 1⟩,⟨ht.more hbu,hs1.symm⟩,Le.go [(48,48),(80,80),(932,120)] [] rfl rfl (by simp) (by simp [fcd])⟩
     ·rw [decide_eq_false_iff_not] at h15
      have hs1:=hfwd t.D t.b
      rw [if_neg h15] at hs1
      refine zae ?_
      exact ⟨t,⟨ht,hs1.symm⟩,Le.go [(48,48),(80,80),(120,120)] [] rfl rfl (by simp) (by simp)⟩
    obtain ⟨hu1,hu2⟩:=hu
    have hku : k ∈ u.D:=by
     obtain ⟨l1,e1⟩:=zin (A:=A) (f:=f) (k:=k) (s:=(i,false)) (st:=(t.D,t.b))
     rw [← hu2] at e1
     simp only at e1
     rw [e1]
     exact List.mem_append_left _ hkt
    have hul : ∃ l,u.D = t.D ++ l:=by
     obtain ⟨l1,e1⟩:=zin (A:=A) (f:=f) (k:=k) (s:=(i,false)) (st:=(t.D,t.b))
     rw [← hu2] at e1
     exact ⟨l1,e1⟩
    have hcl2 : zes A f (tryS A f k (i,true) (u.D,u.b)).1 k (i + 1):=by
     rw [hu2]
     exact zes.try2 (st:=(t.D,t.b)) htc
    have hmk : (zbN N u.D)[e.f.toNat]? = some (decide (e.f ∈ u.D)):=zfG e1 (by omega)
    have hlt : e.f.toNat < N:=by omega
    have hlt2 : e.f < (N : Int):=by omega
    have hub:=hbwd u.D u.b
    refine zab ⟨112,[(1,ints f),(2,.pv (nC ⟨N,A⟩)),(5,.rs 48 0 N),(6,.rs 80 0 N),(7,.rs 120 u.off u.q),(8,.I k),(9,.I i),(10,.pv (eC e)),(94,.B (decide (e.t = k ∧ 0 < v ∧ e.f ∉ u.D)))],[(48,some ⟨1,zag u.b,0⟩),(80,some ⟨1,zhb (zbN N u.D),0⟩),(120,some ⟨1,zag u.Z,0⟩)],1200⟩ rfl ?_ ?_
    ·by_cases hm : e.f ∈ u.D
     ·rw [decide_eq_true hm] at hmk
      simp
      repeat' first
       | (refine zcA (fun hb=>?_) (fun hb=>?_) <;> (try rw [hb]) <;> (try simp at hb) <;> simp [hb,hmk,hg2,e1,hlt2,hif,← hv])
      all_goals exact Le.go [(48,48),(80,80),(120,120)] [] rfl rfl (by simp [hb,hm]) (by simp)
     ·rw [decide_eq_false hm] at hmk
      simp
      repeat' first
       | (refine zcA (fun hb=>?_) (fun hb=>?_) <;> (try rw [hb]) <;> (try simp at hb) <;> simp [hb,hmk,hg2,e1,hlt2,hif,← hv])
      all_goals exact Le.go [(48,48),(80,80),(120,120)] [] rfl rfl (by simp [hm]) (by simp)
    refine zac _ rfl (fun h15=>?_) fun h15=>?_
    ·rw [decide_eq_true_eq] at h15
     rw [if_pos h15] at hub
     obtain ⟨y,hy⟩ : ∃ y,u.b[e.f.toNat]? = some y:=⟨_,List.getElem?_eq_getElem (by rw [hu1.bfs.len]; omega)⟩
     have hbt : ∀ g : Int → List AV,List.take u.q (List.drop u.off (List.map g u.Z)) = List.map g (u.Z.drop u.off):=fun g=>by rw [← List.map_drop,List.take_of_length_le (by have:=hu1.z; simp; omega)]
     have htz:=hu1.z
     have htd:=hu1.d
     have hms:=zhj (D:=u.D) e1 hlt2
     have hbu : Bfs N A f (u.D ++ [e.f]) (u.b.set e.f.toNat (-((i : Int) + 1))):=by
      have h3:=zq6 (A:=A) (f:=f) (k:=k) (s:=(i,true)) (st:=(u.D,u.b)) hu1.bfs hku h12 (by unfold stT arcD; rw [List.getD_eq_getElem?_getD,hg1]; exact e1) (by unfold stT arcD; rw [List.getD_eq_getElem?_getD,hg1]; exact hlt2)
      rw [hub] at h3
      exact h3
     have hfw:=hbu.few
     rw [List.length_append,List.length_singleton] at hfw
     refine zat ⟨112,[(1,ints f),(2,.pv (nC ⟨N,A⟩)),(5,.rs 48 0 N),(6,.rs 80 0 N),(7,.rs 120 u.off u.q),(8,.I k),(9,.I i),(10,.pv (eC e))],[(48,some ⟨1,zag (u.b.set e.f.toNat (-((i : Int) + 1))),0⟩),(80,some ⟨1,zhb (zbN N (u.D ++ [e.f])),0⟩),(120,some ⟨1,zag u.Z,0⟩)],1400⟩ rfl ?_ ?_
     ·simp [hmk,e1,hlt2,hw,hw2,hy,zaU]
      exact ⟨rfl,Le.go [(48,48),(80,80),(120,120)] [] rfl rfl (by simp) (by simp [← hms,fcd])⟩
     refine zau rfl ?_
     simp [hbt]
     rw [hub] at hcl2
     refine ⟨by omega,by omega,by omega,⟨u.D ++ [e.f],u.b.set e.f.toNat (-((i : Int) + 1)),u.Z.drop u.off ++ [e.f],0,u.q + 1⟩,⟨hu1.more hbu,hcl2,?_⟩,Le.go [(48,48),(80,80),(1432,120)] [] rfl rfl (by simp) (by simp [fcd])⟩
     obtain ⟨l1,e1⟩:=hul
     exact ⟨l1 ++ [e.f],by simp only [e1,List.append_assoc]⟩
    ·rw [decide_eq_false_iff_not] at h15
     rw [if_neg h15] at hub
     rw [hub] at hcl2
     refine zae ?_
     exact ⟨u,⟨hu1,hcl2,hul⟩,Le.go [(48,48),(80,80),(120,120)] [] rfl rfl (by simp) (by simp)⟩
   obtain ⟨hu1,hu2,l2,hu3⟩:=hu
   refine zad (s:=?s30) rfl ?o30 ?q30
   case o30=>simp; rfl
   exact ⟨(u,i + 1),⟨hu1,h12,hu2,l ++ l2,by rw [hu3,htl,List.append_assoc]⟩,Nat.sub_lt_sub_left h12 (Nat.lt_succ_self i),Le.go [(48,48),(80,80),(120,120)] [] rfl rfl (by simp [hw]) (by simp)⟩
  simp at h12
  obtain rfl : i = A.length:=by omega
  refine zan ?_
  refine hit ?_
  rw [hkd] at htc
  refine ⟨(t,m + 1),⟨ht,zen.next hmD hcl htc htl⟩,?_,Le.go [(48,48),(80,80),(120,120)] [] rfl rfl (by simp) (by simp)⟩
  simp only
  omega
 simp at h7
 have hmD : m = s.D.length:=by omega
 refine zan ?_
 refine hit ?_
 refine rk (s:=?s23) [4] [48] rfl ?o23 ?q23
 case o23=>simp; rfl
 refine zah ?_
 exact zib.mk (.inr rfl) (s.D,s.b) ⟨hb.bfs,by rw [hmD] at hcl; exact hcl.all⟩ (zam.out [48] [] rfl (by simp) (by simp) (by simp) (by simp [fcd]))
abbrev zbp (s : Stp) : List AV:=[.I s.1,.B s.2]
def zgI (A : List Ed) : Nat → Nat → List Stp
 | 0,_=>[]
 | i + 1,k=>zgI A i k ++ (if (arcD A i).f = k then [(i,false)] else []) ++ (if (arcD A i).t = k then [(i,true)] else [])
theorem zkc {A : List Ed} {s : Stp} {k : Nat} : ∀ {i : Nat},s ∈ zgI A i k ↔ s.1 < i ∧ stF A s = k
 | 0=>by simp [zgI]
 | i + 1=>by
   obtain ⟨j,c⟩:=s
   have ih:=zkc (A:=A) (s:=(j,c)) (k:=k) (i:=i)
   simp only [zgI,List.mem_append,ih]
   unfold stF
   simp only
   constructor
   ·rintro ((h | h) | h)
    ·exact ⟨by omega,h.2⟩
    ·split at h
     ·rename_i e
      simp at h
      obtain ⟨rfl,rfl⟩:=h
      exact ⟨by omega,by simpa using e⟩
     ·simp at h
    ·split at h
     ·rename_i e
      simp at h
      obtain ⟨rfl,rfl⟩:=h
      exact ⟨by omega,by simpa using e⟩
     ·simp at h
   ·rintro ⟨h1,h2⟩
    rcases Nat.lt_succ_iff_lt_or_eq.1 h1 with h | h
    ·exact .inl (.inl ⟨h,h2⟩)
    ·subst h
     cases c
     ·have : (arcD A j).f = k:=by simpa using h2
      rw [if_pos this]
      exact .inl (.inr (by simp))
     ·have : (arcD A j).t = k:=by simpa using h2
      rw [if_pos this]
      exact .inr (by simp)
theorem zhk (A : List Ed) (k : Nat) : ∀ i,(zgI A i k).length ≤ 2 * i
 | 0=>Nat.le_refl _
 | i + 1=>by
   have ih:=zhk A k i
   simp only [zgI,List.length_append]
   split <;> split <;> simp <;> omega
def famE (A : List Ed) (i : Nat) : Nat → List (List AV):=fun k=>(zgI A i k).map zbp
theorem zn9 (A : List Ed) (i k : Nat) : ∀ r ∈ famE A i k,∀ x ∈ r,∃ v,x = .sc v:=by
 intro r hr x hx
 obtain ⟨s,_,rfl⟩:=List.mem_map.1 hr
 simp only [zbp,List.mem_cons,List.not_mem_nil,or_false] at hx
 rcases hx with rfl | rfl
 ·exact ⟨_,rfl⟩
 ·exact ⟨_,rfl⟩
theorem zrL (A : List Ed) (i k : Nat) : (famE A i k).length ≤ 2 * i:=by unfold famE; rw [List.length_map]; exact zhk A k i
theorem zrD {E : Nat → List (List AV)} {a : Nat} {row : List AV} (hE : ∀ k,∀ r ∈ E k,∀ x ∈ r,∃ v,x = AV.sc v) (hr : ∀ x ∈ row,∃ v,x = AV.sc v) (k : Nat) : ∀ r ∈ grow E a row k,∀ x ∈ r,∃ v,x = AV.sc v:=by
 unfold grow
 intro r h
 split at h
 ·rcases List.mem_append.1 h with h | h
  ·exact hE a r h
  ·rw [List.mem_singleton.1 h]; exact hr
 ·exact hE k r h
theorem zqJ {A : List Ed} {i a b : Nat} (ha : (arcD A i).f = a) (hb : (arcD A i).t = b) (hab : a ≠ b) : famE A (i + 1) = grow (grow (famE A i) a (zbp (i,false))) b (zbp (i,true)):=by
 funext k
 simp only [famE,zgI,grow,ha,hb,List.map_append,Int.natCast_inj]
 by_cases h1 : k = a
 ·subst h1
  simp [hab,hab.symm]
 ·by_cases h2 : k = b
  ·subst h2
   simp [hab,h1]
  ·have h3 : ¬ a = k:=fun e=>h1 e.symm
   have h4 : ¬ b = k:=fun e=>h2 e.symm
   simp [h1,h2,h3,h4]
theorem zi0 (s : Stp) : ∀ x ∈ zbp s,∃ v,x = AV.sc v:=by
 intro x hx
 simp only [zbp,List.mem_cons,List.not_mem_nil,or_false] at hx
 rcases hx with rfl | rfl
 ·exact ⟨_,rfl⟩
 ·exact ⟨_,rfl⟩
abbrev atV (N : Nat) (A : List Ed) : AV:=.vs 1 false ((List.range N).map fun k=>[.vs 2 false (famE A A.length k)])
theorem Le.slot {np sz n n' : Nat} {t t' : List (Nat × AV)} {h : List (Nat × Option Ent)} (hn : n ≤ n') (ht : ∀ p ∈ t',(⟨sz,t,h,n⟩ : St).get p.1 = p.2) : Le np ⟨sz,t,h,n⟩ ⟨sz,t',h,n'⟩:=by
 intro T0 M0 w0 T M a w ok hnp
 refine ⟨T,M,⟨ok.sz,ok.df,fun i=>?_,ok.hs,fun id g hg=>Nat.lt_of_lt_of_le (ok.dom id g hg) hn,ok.after⟩,Nat.le_trans hnp hn⟩
 show Rep T w M ((lkp t' i).getD .dead) _
 cases hl : lkp t' i with
 | none=>exact .dead _ _
 | some v =>
   have:=ht _ (zbh hl)
   simp only at this
   show Rep T w M v _
   rw [← this]
   exact ok.tm i
def famS (N : Nat) (L : List Nat) : List (Nat × Nat):=(L ++ famI N).map fun j=>(j,j)
theorem zgD {N j : Nat} {L : List Nat} (h : j ∈ L ∨ ∃ k < N,j = k + 1000) : lkp (famS N L) j = some j:=by
 rw [famS,zkP (fun j=>j) (fun i j h=>h) (fun j=>j),if_pos]
 rcases h with h | ⟨k,h1,rfl⟩
 ·simp [h]
 ·exact List.mem_append_right _ (zdS.2 (by omega))
theorem zna {N j : Nat} {L : List Nat} (h : j ∉ L) (h2 : 1000 + N ≤ j) : lkp (famS N L) j = none:=by
 rw [famS,zkP (fun j=>j) (fun i j h=>h) (fun j=>j),if_neg]
 rw [List.mem_append,not_or]
 exact ⟨h,fun hm=>by have:=zdS.1 hm; omega⟩
theorem zqF {N : Nat} {L sn : List Nat} {E : Nat → List (List AV)} {h : Nat → Option Ent} : (famO N E).map (·.map (conv (famS N L) sn h 4)) = famO N E:=by
 conv=>rhs; rw [← List.map_id (famO N E)]
 refine List.map_congr_left fun r hr=>?_
 obtain ⟨k,hk,rfl⟩:=List.mem_map.1 hr
 have:=zgD (N:=N) (L:=L) (j:=k + 1000) (.inr ⟨k,List.mem_range.1 hk,rfl⟩)
 simp [famV,this]
theorem Le.famS {np s N : Nat} {E : Nat → List (List AV)} (L sn : List Nat) {st st' : St} (hsz : st'.sz = st.sz)
  (hL : L.Nodup) (h1 : ∀ j ∈ L,j < 1000) (hn : 1000 + N ≤ st'.n) (hnp : np ≤ 1000) (hsn : ∀ j ∈ sn,1000 + N ≤ j)
  (hE : ∀ k < N,∀ r ∈ E k,∀ x ∈ r,∃ v,x = .sc v)
  (hst : ∀ k < N,st.hp (k + 1000) = some ⟨s,E k,0⟩) (hst' : ∀ k < N,st'.hp (k + 1000) = some ⟨s,E k,0⟩)
  (hout : ∀ j,j ∉ L → (j < 1000 ∨ 1000 + N ≤ j) → st'.hp j = none)
  (ht : ∀ p ∈ st'.t,Wk (conv (famS N L) sn st.hp 4 (st.get p.1)) p.2)
  (hb : ∀ j ∈ L,∀ e',st'.hp j = some e' → ∃ e,st.hp j = some e ∧ zaF [] (zaz (famS N L) sn st.hp 4 e) e') : Le np st st':=by
 have hid : (Go.Proofs.YteiabadhhhckfaaGreat.famS N L).map (·.1) = L ++ famI N:=by simp [Go.Proofs.YteiabadhhhckfaaGreat.famS,fcd]
 have hid2 : (Go.Proofs.YteiabadhhhckfaaGreat.famS N L).map (·.2) = L ++ famI N:=by simp [Go.Proofs.YteiabadhhhckfaaGreat.famS,fcd]
 have hnd : (L ++ famI N).Nodup:=List.nodup_append.2 ⟨hL,zdu (fun i j h=>by simpa using h) List.nodup_range,fun x hx y hy e=>by
  have:=h1 x hx
  have:=zdS.1 hy
  omega⟩
 have hmem : ∀ j,(j,j) ∈ Go.Proofs.YteiabadhhhckfaaGreat.famS N L ↔ j ∈ L ∨ j ∈ famI N:=fun j=>by simp [Go.Proofs.YteiabadhhhckfaaGreat.famS]
 refine Le.mk (Go.Proofs.YteiabadhhhckfaaGreat.famS N L) sn [] hsz (by rw [hid]; exact hnd) (by rw [hid2]; exact hnd) ?_ (by simp) ?_ (by omega) (by simp) (fun i=>?_) ?_
 ·intro p hp
  obtain ⟨j,hj,rfl⟩:=List.mem_map.1 hp
  rcases List.mem_append.1 hj with h | h
  ·have:=h1 j h
   exact ⟨by simp only; omega,fun _=>rfl⟩
  ·have:=zdS.1 h
   exact ⟨by simp only; omega,fun _=>rfl⟩
 ·intro j hj
  have:=hsn j hj
  refine ⟨by omega,?_⟩
  rw [hid,List.mem_append,not_or]
  exact ⟨fun h=>by have:=h1 j h; omega,fun h=>by have:=zdS.1 h; omega⟩
 ·unfold St.get at *
  cases hl : lkp st'.t i with
  | none=>exact .inl (.dead _)
  | some v=>exact .inl (ht _ (zbh hl))
 ·intro j e' he
  left
  by_cases hj : j ∈ L
  ·obtain ⟨e,h2,h3⟩:=hb j hj e' he
   exact ⟨j,e,(hmem j).2 (.inl hj),h2,h3⟩
  ·by_cases hr : j < 1000 ∨ 1000 + N ≤ j
   ·rw [hout j hj hr] at he; cases he
   ·obtain ⟨k,rfl⟩ : ∃ k,j = k + 1000:=⟨j - 1000,by omega⟩
    have hk : k < N:=by omega
    rw [hst' k hk] at he
    cases he
    refine ⟨k + 1000,_,(hmem _).2 (.inr (zdS.2 (by omega))),hst k hk,?_⟩
    have : zaz (Go.Proofs.YteiabadhhhckfaaGreat.famS N L) sn st.hp 4 ⟨s,E k,0⟩ = ⟨s,E k,0⟩:=by
     simp only [zaz]
     rw [zfq _ (fun v=>by simp [conv]) _ (hE k hk)]
    rw [this]
    exact zaF.rfl' (Nat.zero_le _)
abbrev oH (N : Nat) (A : List Ed) (m : Nat) (f : List Int) (E : Nat → List (List AV)) : List (Nat × Option Ent) :=
 famH 2 N E ++ [(0,some ⟨1,zag f,0⟩),(24,some ⟨4,[[.I 0,.nilS,.nilS,.nilS]],0⟩),(64,some ⟨1,famO N E,0⟩),(80,some ⟨4,[[.I N,eEs A,.rs 0 0 m,.rs 64 0 N]],0⟩)]
theorem zcB {sz n i j : Nat} {t : List (Nat × AV)} {h : List (Nat × Option Ent)} {v : Option Ent} (hij : i ≠ j) : (⟨sz,t,(i,v) :: h,n⟩ : St).hp j = (⟨sz,t,h,n⟩ : St).hp j:=by
 rw [zox,if_neg hij]
theorem zhP {sz n N m : Nat} {t : List (Nat × AV)} {A : List Ed} {f : List Int} {E : Nat → List (List AV)} {k : Nat} (h : k < N) : (⟨sz,t,oH N A m f E,n⟩ : St).hp (k + 1000) = some ⟨2,E k,0⟩:=ztg h
theorem zn4 {sz n N m j : Nat} {t : List (Nat × AV)} {A : List Ed} {f : List Int} {E : Nat → List (List AV)} (hj : j ∉ [0,24,64,80]) (hr : j < 1000 ∨ 1000 + N ≤ j) : (⟨sz,t,oH N A m f E,n⟩ : St).hp j = none:=by
 have hj' : j ≠ 0 ∧ j ≠ 24 ∧ j ≠ 64 ∧ j ≠ 80:=by simpa using hj
 rcases hr with hr | hr
 ·rw [zjz hr]
  simp [hj'.1.symm,hj'.2.1.symm,hj'.2.2.1.symm,hj'.2.2.2.symm]
 ·rw [zsF hr]
  simp [hj'.1.symm,hj'.2.1.symm,hj'.2.2.1.symm,hj'.2.2.2.symm]
section
variable {sz n N m : Nat} {t : List (Nat × AV)} {A : List Ed} {f : List Int} {E : Nat → List (List AV)}
theorem oH_0 : (⟨sz,t,oH N A m f E,n⟩ : St).hp 0 = some ⟨1,zag f,0⟩:=by rw [zjz (by omega)]; simp
theorem zoT : (⟨sz,t,oH N A m f E,n⟩ : St).hp 24 = some ⟨4,[[.I 0,.nilS,.nilS,.nilS]],0⟩:=by rw [zjz (by omega)]; simp
theorem znX : (⟨sz,t,oH N A m f E,n⟩ : St).hp 64 = some ⟨1,famO N E,0⟩:=by rw [zjz (by omega)]; simp
theorem zm2 : (⟨sz,t,oH N A m f E,n⟩ : St).hp 80 = some ⟨4,[[.I N,eEs A,.rs 0 0 m,.rs 64 0 N]],0⟩:=by rw [zjz (by omega)]; simp
end
theorem Le.oStep {N a m x y n n' : Nat} {A : List Ed} {f : List Int} {E : Nat → List (List AV)} {row : List AV} {t t' : List (Nat × AV)} {h : List (Nat × Option Ent)} (ha : a < N) (hx : 1000 + N ≤ x) (hy : 1000 + N ≤ y) (hxy : x ≠ y) (hN : N ≤ 900) (hn' : 1000 + N ≤ n')
  (hE : ∀ k,∀ r ∈ E k,∀ z ∈ r,∃ v,z = .sc v) (hrow : ∀ z ∈ row,∃ v,z = .sc v)
  (hh : h = (64,some ⟨1,(famO N E).set a [.rs x 0 ((E a).length + 1)],0⟩) :: (x,some ⟨2,E a ++ [row],0⟩) :: (a + 1000,none) :: (y,some ⟨2,[row],0⟩) :: oH N A m f E)
  (ht : ∀ p ∈ t',Wk (conv (famR x a N [0,24,64,80]) [] (⟨54,t,h,n⟩ : St).hp 4 ((⟨54,t,h,n⟩ : St).get p.1)) p.2) : Le 1 ⟨54,t,h,n⟩ ⟨54,t',oH N A m f (grow E a row),n'⟩:=by
 have e64 : (⟨54,t,h,n⟩ : St).hp 64 = some ⟨1,(famO N E).set a [.rs x 0 ((E a).length + 1)],0⟩:=by rw [hh,zox,if_pos rfl]
 have e0 : (⟨54,t,h,n⟩ : St).hp 0 = some ⟨1,zag f,0⟩:=by rw [hh,zcB (by omega),zcB (by omega),zcB (by omega),zcB (by omega),oH_0]
 have e24 : (⟨54,t,h,n⟩ : St).hp 24 = some ⟨4,[[.I 0,.nilS,.nilS,.nilS]],0⟩:=by rw [hh,zcB (by omega),zcB (by omega),zcB (by omega),zcB (by omega),zoT]
 have e80 : (⟨54,t,h,n⟩ : St).hp 80 = some ⟨4,[[.I N,eEs A,.rs 0 0 m,.rs 64 0 N]],0⟩:=by rw [hh,zcB (by omega),zcB (by omega),zcB (by omega),zcB (by omega),zm2]
 have l0 : lkp (famR x a N [0,24,64,80]) 0 = some 0:=zep (by omega) (.inl (by simp))
 have l64 : lkp (famR x a N [0,24,64,80]) 64 = some 64:=zep (by omega) (.inl (by simp))
 refine Le.fam (s:=2) (N:=N) (a:=a) (m:=x) (E:=E) (row:=row) [0,24,64,80] rfl ha (by decide) (by simp) hx hn' (by omega) (fun k _=>hE k) hrow ?_ ?_ (fun k hk=>zhP hk) (fun j hj hr=>zn4 hj hr) ht ?_
 ·intro k hk hka
  rw [hh,zcB (by omega),zcB (by omega),zcB (by omega),zcB (by omega),zhP hk]
 ·rw [hh,zcB (by omega),zox,if_pos rfl]
 ·intro j hj e' he
  simp only [List.mem_cons,List.not_mem_nil,or_false] at hj
  rcases hj with rfl | rfl | rfl | rfl
  ·rw [oH_0] at he
   cases he
   exact ⟨_,e0,by simp only [zaz]; rw [zfq _ (fun v=>by simp [conv]) _ (by simp)]; exact zaF.rfl' (Nat.zero_le _)⟩
  ·rw [zoT] at he
   cases he
   exact ⟨_,e24,by simp [zaz]; exact zaF.rfl' (Nat.zero_le _)⟩
  ·rw [znX] at he
   cases he
   refine ⟨_,e64,?_⟩
   simp only [zaz]
   rw [zqg ha (.inr hx) rfl]
   exact zaF.rfl' (Nat.zero_le _)
  ·rw [zm2] at he
   cases he
   refine ⟨_,e80,?_⟩
   simp [zaz,l0,l64]
   exact zaF.rfl' (Nat.zero_le _)
set_option maxRecDepth 100000 in
set_option maxHeartbeats 4000000 in
theorem zqs (N : Nat) (A : List Ed) (f : List Int) (m : Nat) (hn : za0 ⟨N,A⟩) : zai Tryz.prog zfB [eN ⟨N,A⟩,.rs 0 0 m] [⟨1,zag f,0⟩] (.agg [.I N,eEs A,.rs 0 0 m,atV N A]) [some ⟨1,zag f,0⟩]:=by
 refine zpr.acalls (Nat.le_of_ble_eq_true rfl) (Nat.le_of_ble_eq_true rfl) (Nat.le_refl _) ?_
 show awp _ 1 _ _ ⟨54,[(0,eN ⟨N,A⟩),(1,.rs 0 0 m)],[(0,some ⟨1,zag f,0⟩)],16⟩
 obtain ⟨hn0,hn1,hal,hav⟩:=hn
 simp only at hn0 hn1 hal hav
 refine zab ⟨54,[(1,.rs 0 0 m),(2,.pv (nC ⟨N,A⟩)),(4,.pt 24 0 0)],[(0,some ⟨1,zag f,0⟩),(24,some ⟨4,[[.I 0,.nilS,.nilS,.nilS]],0⟩)],32⟩ rfl ?_ ?_
 ·simp
  exact Le.go [(0,0),(24,24)] [16] rfl rfl (by simp) (by simp [fcd])
 refine zat ⟨54,[(2,.pv (nC ⟨N,A⟩)),(4,.pt 24 0 0),(5,.pt 80 0 0)],[(0,some ⟨1,zag f,0⟩),(24,some ⟨4,[[.I 0,.nilS,.nilS,.nilS]],0⟩),(64,some ⟨1,(List.range N).map fun _=>[.nilS],0⟩),(80,some ⟨4,[[.I N,eEs A,.rs 0 0 m,.rs 64 0 N]],0⟩)],96⟩ rfl ?_ ?_
 ·simp [List.map_const']
  refine ⟨by omega,by omega,rfl,?_⟩
  exact Le.go [(0,0),(24,24),(64,64),(80,80)] [] rfl rfl (by simp) (by simp [fcd])
 refine zaa ?_
 refine zab ⟨54,[(4,.pt 24 0 0),(5,.pt 80 0 0),(15,eEs A),(16,.I A.length),(17,.I 0)],[(0,some ⟨1,zag f,0⟩),(24,some ⟨4,[[.I 0,.nilS,.nilS,.nilS]],0⟩),(64,some ⟨1,(List.range N).map fun _=>[.nilS],0⟩),(80,some ⟨4,[[.I N,eEs A,.rs 0 0 m,.rs 64 0 N]],0⟩)],128⟩ rfl ?_ ?_
 ·simp
  exact Le.go [(0,0),(24,24),(64,64),(80,80)] [] rfl rfl (by simp) (by simp [fcd,List.map_const'])
 refine zaf ?_
 refine zap (ι:=Nat) (fun i=>⟨54,[(4,.pt 24 0 0),(5,.pt 80 0 0),(15,eEs A),(16,.I A.length),(17,.I i)],oH N A m f (famE A i),2000⟩) (fun i=>i ≤ A.length) (fun i=>A.length - i) 0 (Nat.zero_le _) ?_ ?_
 ·refine Le.fam0 (s:=2) (N:=N) (o:=64) [0,24,80] rfl (by omega) (by decide) (by simp) (by simp only; omega) (by simp) znX (fun k hk=>zhP hk) (fun j hj hr=>zn4 (by simpa [and_comm,and_left_comm,and_assoc,or_comm,or_left_comm] using hj) hr) (by simp) ?_
  intro j hj e' he
  simp only [List.mem_cons,List.not_mem_nil,or_false] at hj
  rcases hj with rfl | rfl | rfl
  ·rw [oH_0] at he
   cases he
   exact ⟨⟨1,zag f,0⟩,by simp,by simp only [zaz]; rw [zfq _ (fun v=>by simp [conv]) _ (by simp)]; exact zaF.rfl' (Nat.zero_le _)⟩
  ·rw [zoT] at he
   cases he
   exact ⟨⟨4,[[.I 0,.nilS,.nilS,.nilS]],0⟩,by simp,by simp [zaz]; exact zaF.rfl' (Nat.zero_le _)⟩
  ·rw [zm2] at he
   cases he
   exact ⟨⟨4,[[.I N,eEs A,.rs 0 0 m,.rs 64 0 N]],0⟩,by simp,by simp [zaz]; exact zaF.rfl' (Nat.zero_le _)⟩
 intro i hi
 refine zab ⟨54,[(4,.pt 24 0 0),(5,.pt 80 0 0),(15,eEs A),(16,.I A.length),(17,.I i),(18,.B (decide (i < A.length)))],oH N A m f (famE A i),2008⟩ rfl ?_ ?_
 ·simp
  exact Le.slot (by omega) (by simp)
 refine zaa ?_
 refine zac _ rfl (fun h5=>?_) fun h5=>?_
 ·simp at h5
  have hw1 : IntKind.i64.wrap ((i : Int) + 1) = (i : Int) + 1:=w64 (by omega) (by omega)
  have heo:=hav _ (List.getElem_mem h5)
  have harc : arcD A i = A[i]:=by unfold arcD; rw [List.getD_eq_getElem?_getD,List.getElem?_eq_getElem h5,Option.getD_some]
  obtain ⟨e,he⟩ : ∃ e,e = A[i]:=⟨_,rfl⟩
  rw [← he] at heo harc
  obtain ⟨q1,q2,q3,q4,q5,_⟩:=heo
  obtain ⟨a,haf,haN⟩ : ∃ a : Nat,e.f = a ∧ a < N:=⟨e.f.toNat,by omega,by omega⟩
  obtain ⟨b,hbt,hbN⟩ : ∃ b : Nat,e.t = b ∧ b < N:=⟨e.t.toNat,by omega,by omega⟩
  have hab : a ≠ b:=fun h=>q5 (by omega)
  have hsucc:=zqJ (A:=A) (i:=i) (a:=a) (b:=b) (by rw [harc]; exact haf) (by rw [harc]; exact hbt) hab
  have hEs:=zn9 A i
  have hEl:=fun k=>zrL A i k
  obtain ⟨E,hE⟩ : ∃ E,E = famE A i:=⟨_,rfl⟩
  rw [← hE] at hsucc hEs hEl ⊢
  refine zae ?_
  refine zaa ?_
  refine zaf ?_
  refine zab ⟨54,[(4,.pt 24 0 0),(5,.pt 80 0 0),(6,.I i),(7,.pv [.I a,.I b,.I e.v]),(15,eEs A),(16,.I A.length),(17,.I i)],oH N A m f E,3000⟩ rfl ?_ ?_
  ·simp [h5,← he,haf,hbt]
   have l24 : lkp (famS N [0,24,64,80]) 24 = some 24:=zgD (.inl (by simp))
   have l80 : lkp (famS N [0,24,64,80]) 80 = some 80:=zgD (.inl (by simp))
   have l0 : lkp (famS N [0,24,64,80]) 0 = some 0:=zgD (.inl (by simp))
   have l64 : lkp (famS N [0,24,64,80]) 64 = some 64:=zgD (.inl (by simp))
   have lno : lkp (famS N [0,24,64,80]) 2032 = none:=zna (by simp) (by omega)
   refine Le.famS (s:=2) (N:=N) (E:=E) [0,24,64,80] [2032] rfl (by decide) (by simp) (by simp only; omega) (by omega) (by simp; omega) (fun k _=>hEs k) ?_ (fun k hk=>zhP hk) (fun j hj hr=>zn4 hj hr) ?_ ?_
   ·intro k hk
    rw [zcB (by omega),zcB (by omega),zhP hk]
   ·simp [l24,l80,lno]
   ·intro j hj e' he'
    simp only [List.mem_cons,List.not_mem_nil,or_false] at hj
    rcases hj with rfl | rfl | rfl | rfl
    ·rw [oH_0] at he'
     cases he'
     exact ⟨_,by rw [zcB (by omega),zcB (by omega),oH_0],by simp only [zaz]; rw [zfq _ (fun v=>by simp [conv]) _ (by simp)]; exact zaF.rfl' (Nat.zero_le _)⟩
    ·rw [zoT] at he'
     cases he'
     exact ⟨_,by rw [zcB (by omega),zcB (by omega),zoT],by simp [zaz]; exact zaF.rfl' (Nat.zero_le _)⟩
    ·rw [znX] at he'
     cases he'
     refine ⟨_,by rw [zcB (by omega),zcB (by omega),znX],?_⟩
     simp only [zaz]
     rw [zqF]
     exact zaF.rfl' (Nat.zero_le _)
    ·rw [zm2] at he'
     cases he'
     exact ⟨_,by rw [zcB (by omega),zcB (by omega),zm2],by simp [zaz,l0,l64]; exact zaF.rfl' (Nat.zero_le _)⟩
  refine zat ⟨54,[(4,.pt 24 0 0),(5,.pt 80 0 0),(6,.I i),(7,.pv [.I a,.I b,.I e.v]),(15,eEs A),(16,.I A.length),(17,.I i)],oH N A m f (grow E a (zbp (i,false))),4000⟩ rfl ?_ ?_
  ·have hl:=hEl a
   have hne : ¬ a = 2096:=by omega
   simp [zm2,znX,zhP haN,haN,zgP haN,zgK,famV,hne]
   refine ⟨by omega,by omega,rfl,?_⟩
   have l24 : lkp (famR 3104 a N [0,24,64,80]) 24 = some 24:=zep (by omega) (.inl (by simp))
   have l80 : lkp (famR 3104 a N [0,24,64,80]) 80 = some 80:=zep (by omega) (.inl (by simp))
   refine Le.oStep (x:=3104) (y:=3096) haN (by omega) (by omega) (by omega) (by omega) (by omega) hEs (zi0 _) ?_ ?_
   ·simp
   ·simp [l24,l80]
  have hEs1:=zrD (a:=a) hEs (zi0 (i,false))
  have hEl1 : (grow E a (zbp (i,false)) b).length ≤ 2 * i:=by
   have:=hEl b
   simp only [grow,if_neg hab.symm]
   exact this
  obtain ⟨E1,hE1⟩ : ∃ E1,E1 = grow E a (zbp (i,false)):=⟨_,rfl⟩
  rw [← hE1] at hEs1 hEl1 hsucc ⊢
  refine zbm rfl ?_
  have hne : ¬ b = 3096:=by omega
  simp [zm2,znX,zhP hbN,hbN,zgP hbN,zgK,famV,hne]
  refine ⟨by omega,by omega,rfl,?_⟩
  refine zau rfl ?_
  simp
  have l24 : lkp (famR 4104 b N [0,24,64,80]) 24 = some 24:=zep (by omega) (.inl (by simp))
  have l80 : lkp (famR 4104 b N [0,24,64,80]) 80 = some 80:=zep (by omega) (.inl (by simp))
  refine ⟨i + 1,by omega,by omega,?_⟩
  rw [hsucc]
  refine Le.oStep (x:=4104) (y:=4096) hbN (by omega) (by omega) (by omega) (by omega) (by omega) hEs1 (zi0 _) ?_ ?_
  ·simp
  ·simp [l24,l80,hw1]
 simp at h5
 obtain rfl : i = A.length:=by omega
 refine zan ?_
 refine hit ?_
 refine zab ⟨54,[(4,.pt 24 0 0)],[(0,some ⟨1,zag f,0⟩),(24,some ⟨4,[[.I N,eEs A,.rs 0 0 m,atV N A]],0⟩)],5000⟩ rfl ?_ ?_
 ·simp [zm2,zoT]
  have hcv : ∀ {h : Nat → Option Ent},h 64 = some ⟨1,famO N (famE A A.length),0⟩ → (∀ k < N,h (k + 1000) = some ⟨2,famE A A.length k,0⟩) → conv [(0,0),(24,24)] (64 :: famI N) h 4 (.rs 64 0 N) = atV N A:=fun h1 h2 =>
   zrt (fun k _=>zn9 A A.length k) (by simp) (by simp) (fun k hk=>by simp [zdS]; omega) h1 h2
  refine Le.famOut (N:=N) (o:=64) (L:=[0,24]) rfl (by decide) (by simp) (by simp) (by simp) (by omega) (by omega) ?_ ?_ ?_
  ·intro j hj
   have hj' : j ≠ 0 ∧ j ≠ 24:=by simpa using hj
   simp [hj'.1.symm,hj'.2.symm]
  ·simp
  ·intro j hj e' he'
   simp only [List.mem_cons,List.not_mem_nil,or_false] at hj
   rcases hj with rfl | rfl
   ·simp at he'
    subst he'
    refine ⟨_,by rw [zcB (by omega),oH_0],?_⟩
    simp only [zaz]
    rw [zfq _ (fun v=>by simp [conv]) _ (by simp)]
    exact zaF.rfl' (Nat.zero_le _)
   ·simp at he'
    subst he'
    refine ⟨_,by rw [zox,if_pos rfl],?_⟩
    refine zaF.eq ?_ (Nat.zero_le _)
    simp only [zaz,List.map_cons,List.map_nil]
    rw [hcv (by rw [zcB (by omega),znX]) (fun k hk=>by rw [zcB (by omega),zhP hk])]
    simp
 refine zah ?_
 exact ⟨.inr rfl,zam.k1 rfl (by simp) (by simp [fcd])⟩
theorem zlQ {α : Type} {l : List α} (h : l.Nodup) : l.reverse.Nodup:=List.pairwise_reverse.2 (h.imp fun hne e=>hne e.symm)
theorem zsm {v : Int} (hv : v ≠ 0) : encS (decS v) = v:=by
 unfold decS encS
 by_cases h : 0 < v
 ·rw [if_pos h]; simp; omega
 ·rw [if_neg h]; simp; omega
def endW (A : List Ed) (u : Int) (l : List Stp) : Nat → Int
 | 0=>u
 | j + 1=>stT A (l.getD j (0,false))
theorem zmJ {A : List Ed} {u : Int} {s : Stp} {l : List Stp} (j : Nat) : endW A u (s :: l) (j + 1) = endW A (stT A s) l j:=by
 cases j <;> rfl
theorem zr3 {A : List Ed} : ∀ {l : List Stp} {u w : Int},WayS A u l w → ∀ j (hj : j < l.length),stF A l[j] = endW A u l j
 | s :: l,u,w,h,0,_=>h.2.1
 | s :: l,u,w,h,j + 1,hj=>by
   rw [zmJ]
   exact zr3 h.2.2 j (by simpa using hj)
theorem znE {A : List Ed} : ∀ {l : List Stp} {u w : Int},WayS A u l w → endW A u l l.length = w
 | [],u,w,h=>h
 | s :: l,u,w,h=>by
   rw [List.length_cons,zmJ]
   exact znE h.2.2
variable {N : Nat} {A : List Ed} {f D b : List Int}
structure zkz (N : Nat) (A : List Ed) (f b : List Int) (l : List Stp) : Prop where
 way : WayS A 0 l 1
 nodup : (l.map (·.1)).Nodup
 at_ : ∀ j (h : j < l.length),l[j].1 < A.length ∧ 0 < za8 A f l[j] ∧ stT A l[j] ≠ 0 ∧ 0 ≤ stT A l[j] ∧ stT A l[j] < N ∧ b.getD (stT A l[j]).toNat 0 = encS l[j]
theorem Bfs.chain (h : Bfs N A f D b) (h1 : (1 : Int) ∈ D) : ∃ l,zkz N A f b l:=by
 obtain ⟨j,hj,hx⟩:=List.mem_iff_getElem.1 h1
 obtain ⟨l,l1,l2,l3⟩:=h.tree.way j j hj (Nat.le_refl _)
 rw [hx] at l1
 refine ⟨l,l1,l2,fun i hi=>?_⟩
 obtain ⟨q1,q2,q3,q4,_,q5⟩:=l3 _ (List.getElem_mem hi)
 have hm:=List.mem_of_mem_take q5
 have hr:=h.rng _ hm
 have hne:=h.inn _ hm q4
 refine ⟨q1,q2,q4,hr.1,hr.2,?_⟩
 rw [← zsm hne,q3]
theorem zkz.from_ {l : List Stp} (h : zkz N A f b l) (j : Nat) (hj : j < l.length) : stF A l[j] = endW A 0 l j:=zr3 h.way j hj
def zdi (v : Int) (f : List Int) (l : List Stp) (j : Nat) : List Int:=zgh v f (l.drop j).reverse
theorem zmM (v : Int) (f : List Int) (l : List Stp) : zdi v f l l.length = f:=by simp [zdi,zgh]
theorem zlR (v : Int) (f : List Int) (l : List Stp) (j : Nat) : (zdi v f l j).length = f.length:=zfh
theorem zkr {v : Int} {f : List Int} {l : List Stp} (j : Nat) (hj : j < l.length) : zdi v f l j = zf6 v (zdi v f l (j + 1)) l[j]:=by
 unfold zdi zgh
 rw [List.drop_eq_getElem_cons hj,List.reverse_cons,List.foldl_append]
 rfl
theorem zlU {v : Int} {l : List Stp} (hn : (l.map (·.1)).Nodup) (hr : ∀ s ∈ l,s.1 < f.length) (j : Nat) (hj : j < l.length) : (zdi v f l (j + 1)).getD l[j].1 0 = f.getD l[j].1 0:=by
 refine (zfd (δ:=v) (f:=f) (i:=l[j].1) (l:=(l.drop (j + 1)).reverse) ?_ ?_).1 ?_
 ·rw [List.map_reverse]
  refine zlQ ?_
  exact hn.sublist ((List.drop_sublist _ _).map _)
 ·intro s hs
  exact hr s (List.mem_of_mem_drop (List.mem_reverse.1 hs))
 ·rw [List.map_reverse,List.mem_reverse]
  intro hm
  obtain ⟨s,hs,he⟩:=List.mem_map.1 hm
  obtain ⟨i,hi,rfl⟩:=List.mem_iff_getElem.1 hs
  rw [List.length_drop] at hi
  rw [List.getElem_drop] at he
  have h1:=(List.pairwise_iff_getElem.1 hn) j (j + 1 + i) (by rw [List.length_map]; exact hj) (by rw [List.length_map]; omega) (by omega)
  rw [List.getElem_map,List.getElem_map] at h1
  exact h1 he.symm
theorem zq7 {v : Int} {l : List Stp} (hn : (l.map (·.1)).Nodup) (hr : ∀ s ∈ l,s.1 < f.length) : zdi v f l 0 = zgh v f l:=by
 unfold zdi
 rw [List.drop_zero]
 have hn' : (l.reverse.map (·.1)).Nodup:=by rw [List.map_reverse]; exact zlQ hn
 have hr' : ∀ s ∈ l.reverse,s.1 < f.length:=fun s hs=>hr s (List.mem_reverse.1 hs)
 apply List.ext_getElem (by rw [zfh,zfh])
 intro i h1 h2
 have e : ∀ (L : List Int) (h : i < L.length),L[i] = L.getD i 0:=fun L h=>by rw [List.getD_eq_getElem?_getD,List.getElem?_eq_getElem h,Option.getD_some]
 rw [e _ h1,e _ h2]
 have g1:=zfd (δ:=v) (f:=f) (i:=i) hn' hr'
 have g2:=zfd (δ:=v) (f:=f) (i:=i) hn hr
 by_cases hm : i ∈ l.map (·.1)
 ·obtain ⟨s,hs,rfl⟩:=List.mem_map.1 hm
  rw [g1.2 s.2 (List.mem_reverse.2 hs),g2.2 s.2 hs]
 ·rw [g1.1 (by rw [List.map_reverse,List.mem_reverse]; exact hm),g2.1 hm]
theorem zkz.push {l : List Stp} (hn : zdG N A) (hf : zay N A f) (h : zkz N A f b l) {v : Int} (h0 : 0 ≤ v) (hv : ∀ s ∈ l,v ≤ za8 A f s) : zay N A (zdi v f l 0) ∧ valF A (zdi v f l 0) = valF A f + v:=by
 have hr : ∀ s ∈ l,s.1 < A.length:=fun s hs=>by
  obtain ⟨i,hi,rfl⟩:=List.mem_iff_getElem.1 hs
  exact (h.at_ i hi).1
 rw [zq7 h.nodup fun s hs=>by rw [hf.fit.len]; exact hr s hs]
 exact zsH hn hf h0 h.way h.nodup fun s hs=>⟨hr s hs,hv s hs⟩
theorem zeO {A : List Ed} {N : Nat} (h : za0 ⟨N,A⟩) : zdG N A:=by
 obtain ⟨h1,_,_,h4⟩:=h
 simp only at h1 h4
 refine ⟨by omega,fun e he=>?_⟩
 obtain ⟨q1,q2,q3,q4,q5,q6,q7,q8,_⟩:=h4 e he
 exact ⟨q1,by omega,q3,by omega,q5,q6,q7,q8⟩
abbrev rC (N : Nat) (A : List Ed) (f : AV) : List AV:=[.I N,eEs A,f,atV N A]
abbrev eR (N : Nat) (A : List Ed) (f : AV) : AV:=.agg (rC N A f)
theorem zmG {A : List Ed} {i : Nat} (h : i < A.length) : A[i]? = some (arcD A i):=by
 unfold arcD
 rw [List.getD_eq_getElem?_getD,List.getElem?_eq_getElem h,Option.getD_some]
set_option maxRecDepth 100000 in
theorem zp0 (N : Nat) (A : List Ed) (f : List Int) (s : Stp) (hn : za0 ⟨N,A⟩) (hf : Fit2 A f) (hs : s.1 < A.length) : zai Tryz.prog zbH [eR N A (ints f),.agg (zbp s)] [] (.tup [.I (za8 A f s),.I (stT A s)]) []:=by
 refine zf4.acalls (Nat.le_of_ble_eq_true rfl) (Nat.le_of_ble_eq_true rfl) (Nat.le_refl _) ?_
 show awp _ 0 _ _ ⟨35,[(0,eR N A (ints f)),(1,.agg (zbp s))],[],16⟩
 obtain ⟨i,c⟩:=s
 simp only at hs
 obtain ⟨hfl,hfa⟩:=zcG.1 hf
 have hA:=zmG hs
 have hi:=hfa i hs
 have hav:=hn.2.2.2 _ (zdl hs)
 have hif : i < f.length:=by omega
 obtain ⟨e,he⟩ : ∃ e,e = arcD A i:=⟨_,rfl⟩
 obtain ⟨w,hw⟩ : ∃ w,w = f.getD i 0:=⟨_,rfl⟩
 have hg : f[i]? = some w:=by rw [hw,List.getD_eq_getElem?_getD,List.getElem?_eq_getElem hif,Option.getD_some]
 have hge : A[i] = e:=by rw [List.getElem?_eq_getElem hs,← he] at hA; exact Option.some.inj hA
 have hgf : f[i] = w:=by rw [List.getElem?_eq_getElem hif] at hg; exact Option.some.inj hg
 rw [← he] at hav
 rw [← hw,← he] at hi
 obtain ⟨_,_,_,_,_,_,_,h8,h9⟩:=hav
 have hwr : IntKind.i64.wrap (e.v - w) = e.v - w:=w64 (by omega) (by omega)
 refine zab ⟨35,[(2,.pv (rC N A (ints f))),(3,.pv [.I i,.B c])],[],48⟩ rfl ?_ ?_
 ·simp
  exact Le.go [] [16,24] rfl rfl (by simp) (by simp)
 refine zab ⟨35,[(2,.pv (rC N A (ints f))),(3,.pv [.I i,.B c]),(6,.pv (eC e))],[],200⟩ rfl ?_ ?_
 ·simp [hs,hge]
  exact Le.go [] [104] rfl rfl (by simp) (by simp)
 refine zaa ?_
 refine rx (s:=?s3) [2,3,6,15] [] [] rfl ?o3 ?q3
 case o3=>simp; rfl
 refine zac _ rfl (fun h4=>?_) fun h4=>?_
 ·have hc : c = true:=h4
  subst hc
  have h1 : za8 A f (i,true) = w:=by unfold za8; simp [hw]
  have h2 : stT A (i,true) = e.f:=by unfold stT; simp [he]
  rw [h1,h2]
  refine zat ⟨35,[(4,.I w),(5,.I e.f)],[],400⟩ rfl ?_ ?_
  ·simp [hif,hgf]
   exact ⟨rfl,Le.go [] [] rfl rfl (by simp) (by simp)⟩
  refine zah ?_
  exact ⟨.inr rfl,zam.out [] [] rfl (by simp) (by simp) (by simp) (by simp)⟩
 have hc : c = false:=h4
 subst hc
 have h1 : za8 A f (i,false) = e.v - w:=by unfold za8; simp [hw,he]
 have h2 : stT A (i,false) = e.t:=by unfold stT; simp [he]
 rw [h1,h2]
 refine zae ?_
 refine zat ⟨35,[(4,.I (e.v - w)),(5,.I e.t)],[],400⟩ rfl ?_ ?_
 ·simp [hif,hgf,hwr]
  exact ⟨rfl,Le.go [] [] rfl rfl (by simp) (by simp)⟩
 refine zah ?_
 exact ⟨.inr rfl,zam.out [] [] rfl (by simp) (by simp) (by simp) (by simp)⟩
theorem zmf : ∀ {l : List (Int × AV)} {q : Int × AV},(l.map (·.1)).Nodup → q ∈ l → zdx q.1 (zfR l) = some q.2
 | (k,x) :: l,q,hn,h=>by
   rw [List.map_cons,List.nodup_cons] at hn
   rw [zgg,List.find?_cons]
   rcases List.mem_cons.1 h with rfl | h
   ·simp
   ·have hne : ¬ k = q.1:=fun e=>hn.1 (e ▸ List.mem_map.2 ⟨q,h,rfl⟩)
    have ih:=zmf hn.2 h
    rw [zgg] at ih
    simpa [hne] using ih
structure MapF (rows : List (List AV)) (φ : Int → Option AV) : Prop where
 is : MapR rows φ
 flat : ∀ n x,φ n = some x → ∃ u v,x = .agg [.sc u,.sc v]
theorem MapF.mem {rows : List (List AV)} {φ : Int → Option AV} (h : MapF rows φ) {r : List AV} (hr : r ∈ rows) : ∃ k u v,r = [.sc k,.agg [.sc u,.sc v]]:=by
 obtain ⟨⟨l,rfl,hn,hf⟩,hfl⟩:=h
 obtain ⟨q,hq,rfl⟩:=List.mem_map.1 hr
 obtain ⟨u,v,e⟩:=hfl q.1 q.2 (by rw [← hf]; exact zmf hn hq)
 exact ⟨_,u,v,by rw [e]⟩
theorem MapF.conv {rows : List (List AV)} {φ : Int → Option AV} (h : MapF rows φ) (ρ : List (Nat × Nat)) (sn : List Nat) (g : Nat → Option Ent) : rows.map (·.map (conv ρ sn g 4)) = rows:=by
 conv=>rhs; rw [← List.map_id rows]
 refine List.map_congr_left fun r hr=>?_
 obtain ⟨k,u,v,rfl⟩:=h.mem hr
 simp
theorem MapF.conv' {rows : List (List AV)} {φ : Int → Option AV} (h : MapF rows φ) (ρ : List (Nat × Nat)) (sn : List Nat) (g : Nat → Option Ent) : rows.map (List.map (Go.Proofs.YteiabadhhhckfaaGreat.conv ρ sn g 4)) = rows:=h.conv ρ sn g
theorem MapF.plain {rows : List (List AV)} {φ : Int → Option AV} (h : MapF rows φ) (s ro : Nat) : zki ⟨s,rows,ro⟩:=by
 intro r hr x hx
 obtain ⟨k,u,v,rfl⟩:=h.mem hr
 simp only [List.mem_cons,List.not_mem_nil,or_false] at hx
 rcases hx with rfl | rfl
 ·exact .sc _
 ·refine .agg _ fun i=>?_
  match i with
  | 0=>exact .sc _
  | 1=>exact .sc _
  | i + 2=>exact .dead
theorem ze6 (D b : List Int) (n : Int) (x : AV) (h : camF D b n = some x) : ∃ u v,x = .agg [.sc u,.sc v]:=by
 unfold camF at h
 split at h
 ·split at h
  ·cases h; exact ⟨_,_,rfl⟩
  ·cases h; exact ⟨_,_,rfl⟩
 ·cases h
theorem MapF.set {rows : List (List AV)} {D b D' b' : List Int} (h : MapF rows (camF D b)) (n : Int) (y : AV) (he : camF D' b' = fun k=>if k = n then some y else camF D b k) : MapF (mset n y rows) (camF D' b') :=
 ⟨by rw [he]; exact h.is.set n y,ze6 D' b'⟩
theorem zj9 {N : Nat} {A : List Ed} (hn : za0 ⟨N,A⟩) {s : Stp} (hs : s.1 < A.length) : 0 ≤ stT A s ∧ stT A s < N:=by
 have : zh5 N (arcD A s.1):=hn.2.2.2 _ (zdl hs)
 obtain ⟨q1,q2,q3,q4,_⟩:=this
 unfold stT
 split <;> omega
structure SSt where
 s : BSt
 R : List (List AV)
 m : Nat
 i : Nat
def zi4 (A : List Ed) (f D : List Int) (l : List Stp) : Prop:=∀ s ∈ l,0 < za8 A f s → stT A s ∈ D
theorem zi4.nil {A : List Ed} {f D : List Int} : zi4 A f D []:=fun s h=>by simp at h
set_option maxRecDepth 100000 in
set_option maxHeartbeats 4000000 in
theorem zoE (N : Nat) (A : List Ed) (f : List Int) (hn : za0 ⟨N,A⟩) (hf : Fit2 A f) :
  ∃ x : List Int × List Int × List (List AV),(Bfs N A f x.1 x.2.1 ∧ zd7 A f x.1 ∧ MapF x.2.2 (camF x.1 x.2.1)) ∧ zai Tryz.prog zbn [eR N A (ints f)] [] (.mp 0) [some ⟨0,x.2.2,0⟩]:=by
 refine zfz.acallsX (args:=[eR N A (ints f)]) (hs:=[]) (fun x=>.mp 0) (fun x=>[some ⟨0,x.2.2,0⟩]) (fun x : List Int × List Int × List (List AV)=>Bfs N A f x.1 x.2.1 ∧ zd7 A f x.1 ∧ MapF x.2.2 (camF x.1 x.2.1)) (Nat.le_of_ble_eq_true rfl) (Nat.le_of_ble_eq_true rfl) (fun _=>by simp) ?_
 show awp _ 0 _ _ ⟨59,[(0,eR N A (ints f))],[],16⟩
 have hroom:=fun s hs=>zp0 N A f s hn hf hs
 have hrng:=fun (s : Stp) (hs : s.1 < A.length)=>zj9 hn hs
 obtain ⟨hn0,hn1,hal,hav⟩:=hn
 simp only at hn0 hn1 hal hav
 have hR0 : MapF ([[.I 0,.agg [.I (-1),.B false]]]) (camF [0] (List.replicate N 0)):=⟨by rw [zpE]; exact MapR.nil.set 0 (.agg [.I (-1),.B false]),ze6 _ _⟩
 refine zab ⟨59,[(1,.pv (rC N A (ints f)))],[],32⟩ rfl ?_ ?_
 ·simp
  exact Le.go [] [16] rfl rfl (by simp) (by simp)
 refine zab ⟨59,[(1,.pv (rC N A (ints f))),(3,.mp 32)],[(32,some ⟨0,[[.I 0,.agg [.I (-1),.B false]]],0⟩)],72⟩ rfl ?_ ?_
 ·simp [mset]
  exact Le.go [(32,32)] [] rfl rfl (by simp) (by simp)
 obtain ⟨R0,hR0d⟩ : ∃ R0 : List (List AV),R0 = [[.I 0,.agg [.I (-1),.B false]]]:=⟨_,rfl⟩
 rw [← hR0d] at hR0 ⊢
 refine zaa ?_
 refine zab ⟨59,[(1,.pv (rC N A (ints f))),(3,.mp 32),(4,.rs 72 0 1)],[(32,some ⟨0,R0,0⟩),(72,some ⟨1,zag [0],0⟩)],88⟩ rfl ?_ ?_
 ·simp
  exact Le.go [(32,32),(72,72)] [] rfl rfl (by simp) (by simp [hR0.conv'])
 refine zaf ?_
 refine zap (ι:=SSt) (fun t=>⟨59,[(1,.pv (rC N A (ints f))),(3,.mp 32),(4,.rs 72 t.s.off t.s.q)],[(32,some ⟨0,t.R,0⟩),(72,some ⟨1,zag t.s.Z,0⟩)],88⟩)
  (fun t=>BInv N A f t.s t.m ∧ zen A f t.s.D t.m ∧ MapF t.R (camF t.s.D t.s.b)) (fun t=>N - t.m) ⟨⟨[0],List.replicate N 0,[0],0,1⟩,R0,0,0⟩
  ⟨⟨Bfs.start (by omega),rfl,rfl,rfl⟩,fun s _ h=>by simp at h,hR0⟩ (Le.go [(32,32),(72,72)] [] rfl rfl (by simp) (by simp [hR0.conv'])) ?_
 rintro ⟨s,R,m,_⟩ ⟨hb,hcl,hR⟩
 simp only at hb hcl hR
 have hfew:=hb.bfs.few
 have hbd:=hb.d
 have hbz:=hb.z
 refine zaa ?_
 refine zab ⟨59,[(1,.pv (rC N A (ints f))),(3,.mp 32),(4,.rs 72 s.off s.q),(17,.B (decide (0 < s.q)))],[(32,some ⟨0,R,0⟩),(72,some ⟨1,zag s.Z,0⟩)],112⟩ rfl ?_ ?_
 ·simp
  exact Le.go [(32,32),(72,72)] [] rfl rfl (by simp) (by simp [hR.conv',fcd])
 refine zac _ rfl (fun h5=>?_) fun h5=>?_
 ·simp at h5
  obtain ⟨hmD,hk⟩:=hb.head h5
  have hoff : s.off < s.Z.length:=by omega
  obtain ⟨k,hkd⟩ : ∃ k,k = s.D[m]:=⟨_,rfl⟩
  rw [← hkd] at hk
  have hkD : k ∈ s.D:=hkd ▸ List.getElem_mem hmD
  have hkr:=hb.bfs.rng k hkD
  obtain ⟨kn,hkn,hknN⟩ : ∃ kn : Nat,k = kn ∧ kn < N:=⟨k.toNat,by omega,by omega⟩
  obtain ⟨L,hL⟩ : ∃ L,L = zgI A A.length kn:=⟨_,rfl⟩
  have hLm : ∀ st : Stp,st ∈ L ↔ st.1 < A.length ∧ stF A st = k:=fun st=>by rw [hL,hkn]; exact zkc
  have hLl : L.length ≤ 2 * A.length:=by rw [hL]; exact zhk A kn A.length
  have hfe : famE A A.length kn = L.map zbp:=by rw [hL]; rfl
  refine zae ?_
  refine zaa ?_
  refine zaf ?_
  refine zat ⟨59,[(1,.pv (rC N A (ints f))),(3,.mp 32),(4,.rs 72 s.off s.q),(26,.vs 2 false (L.map zbp)),(27,.I L.length),(28,.I 0)],[(32,some ⟨0,R,0⟩),(72,some ⟨1,zag s.Z,0⟩)],184⟩ rfl ?_ ?_
  ·simp [hk,h5,hkn,hknN,hfe]
   exact ⟨rfl,Le.go [(32,32),(72,72)] [] rfl rfl (by simp [hfe]) (by simp [hR.conv',fcd])⟩
  refine zaf ?_
  refine zap (ι:=SSt) (fun t=>⟨59,[(1,.pv (rC N A (ints f))),(3,.mp 32),(4,.rs 72 t.s.off t.s.q),(26,.vs 2 false (L.map zbp)),(27,.I L.length),(28,.I t.i)],[(32,some ⟨0,t.R,0⟩),(72,some ⟨1,zag t.s.Z,0⟩)],184⟩)
   (fun t=>BInv N A f t.s m ∧ MapF t.R (camF t.s.D t.s.b) ∧ t.i ≤ L.length ∧ zi4 A f t.s.D (L.take t.i) ∧ ∃ l,t.s.D = s.D ++ l) (fun t=>L.length - t.i) ⟨s,R,m,0⟩
   ⟨hb,hR,Nat.zero_le _,by rw [List.take_zero]; exact zi4.nil,[],by simp⟩ (Le.go [(32,32),(72,72)] [] rfl rfl (by simp) (by simp [hR.conv',fcd])) ?_
  rintro ⟨t,R,_,i⟩ ⟨ht,hR,hi,htc,l,htl⟩
  simp only at ht hR hi htc htl
  have htz:=ht.z
  have htd:=ht.d
  have htf:=ht.bfs.few
  refine zab ⟨59,[(1,.pv (rC N A (ints f))),(3,.mp 32),(4,.rs 72 t.off t.q),(26,.vs 2 false (L.map zbp)),(27,.I L.length),(28,.I i),(29,.B (decide (i < L.length)))],[(32,some ⟨0,R,0⟩),(72,some ⟨1,zag t.Z,0⟩)],192⟩ rfl ?_ ?_
  ·simp
   exact Le.go [(32,32),(72,72)] [] rfl rfl (by simp) (by simp [hR.conv',fcd])
  refine zaa ?_
  refine zac _ rfl (fun h8=>?_) fun h8=>?_
  ·simp at h8
   have hw : IntKind.i64.wrap ((i : Int) + 1) = (i : Int) + 1:=w64 (by omega) (by omega)
   obtain ⟨st,hst⟩ : ∃ st,st = L[i]:=⟨_,rfl⟩
   obtain ⟨hs1,hs2⟩:=(hLm st).1 (hst ▸ List.getElem_mem h8)
   have hrm:=hroom st hs1
   obtain ⟨hr1,hr2⟩:=hrng st hs1
   have hpush:=fun (h1 : 0 < za8 A f st) (h2 : stT A st ∉ t.D)=>ht.bfs.push (s:=st) hs1 (by rw [hs2,htl]; exact List.mem_append_left _ hkD) h1 h2 hr1 hr2
   have hcam:=fun (h2 : stT A st ∉ t.D)=>zpM ht.bfs h2 hr1 hr2
   have hsome:=zgl t.D t.b (stT A st)
   have hfind:=hR.is.find (stT A st)
   have htake : ∀ D',(∃ l,D' = t.D ++ l) → stT A st ∈ D' ∨ ¬ 0 < za8 A f st → zi4 A f D' (L.take (i + 1)):=fun D' hD' h s' hs' hr=>by
    rw [List.take_succ_eq_append_getElem h8,← hst] at hs'
    obtain ⟨l',rfl⟩:=hD'
    rcases List.mem_append.1 hs' with h' | h'
    ·exact List.mem_append_left _ (htc s' h' hr)
    ·rw [List.mem_singleton] at h'
     subst h'
     exact h.resolve_right fun hn=>hn hr
   obtain ⟨T,hT⟩ : ∃ T,T = stT A st:=⟨_,rfl⟩
   obtain ⟨rm,hrmd⟩ : ∃ rm,rm = za8 A f st:=⟨_,rfl⟩
   rw [← hT,← hrmd] at hrm hpush htake
   rw [← hT] at hcam hsome hfind
   refine zae ?_
   refine zaa ?_
   refine zaf ?_
   refine zab ⟨59,[(1,.pv (rC N A (ints f))),(3,.mp 32),(4,.rs 72 t.off t.q),(6,.pv (zbp st)),(26,.vs 2 false (L.map zbp)),(27,.I L.length),(28,.I i)],[(32,some ⟨0,R,0⟩),(72,some ⟨1,zag t.Z,0⟩)],232⟩ rfl ?_ ?_
   ·simp [h8,← hst]
    exact Le.go [(32,32),(72,72)] [208] rfl rfl (by simp) (by simp [hR.conv',fcd])
   refine zab ⟨59,[(1,.pv (rC N A (ints f))),(3,.mp 32),(4,.rs 72 t.off t.q),(6,.pv (zbp st)),(7,.I rm),(8,.I T),(26,.vs 2 false (L.map zbp)),(27,.I L.length),(28,.I i)],[(32,some ⟨0,R,0⟩),(72,some ⟨1,zag t.Z,0⟩)],300⟩ rfl ?_ ?_
   ·simp
    refine zal hrm (by simp) ?_
    simp
    exact Le.go [(32,32),(72,72)] [] rfl rfl (by simp) (by simp [hR.conv',fcd])
   refine zab ⟨59,[(1,.pv (rC N A (ints f))),(3,.mp 32),(4,.rs 72 t.off t.q),(6,.pv (zbp st)),(7,.I rm),(8,.I T),(10,.B (decide (T ∈ t.D))),(26,.vs 2 false (L.map zbp)),(27,.I L.length),(28,.I i)],[(32,some ⟨0,R,0⟩),(72,some ⟨1,zag t.Z,0⟩)],400⟩ rfl ?_ ?_
   ·have hgd : ∃ u v,(camF t.D t.b T).getD (toAV (Value.agg #[Value.int IntKind.i64 0,Value.bool false])) = .agg [.sc u,.sc v]:=by
     cases hc : camF t.D t.b T with
     | none=>exact ⟨.int .i64 0,.bool false,by simp [toAV,Value.oneCell']⟩
     | some x =>
       obtain ⟨u,v,rfl⟩:=ze6 _ _ _ _ hc
       exact ⟨u,v,rfl⟩
    obtain ⟨u,v,huv⟩:=hgd
    simp [hfind,hsome,huv]
    exact Le.go [(32,32),(72,72)] [] rfl rfl (by simp) (by simp [hR.conv',fcd])
   refine zab ⟨59,[(1,.pv (rC N A (ints f))),(3,.mp 32),(4,.rs 72 t.off t.q),(6,.pv (zbp st)),(8,.I T),(26,.vs 2 false (L.map zbp)),(27,.I L.length),(28,.I i),(49,.B (decide (0 < rm ∧ T ∉ t.D)))],[(32,some ⟨0,R,0⟩),(72,some ⟨1,zag t.Z,0⟩)],500⟩ rfl ?_ ?_
   ·simp
    refine zcA (fun hb=>?_) (fun hb=>?_) <;> (try rw [hb]) <;> (try simp at hb) <;> simp [hb]
    ·exact Le.go [(32,32),(72,72)] [] rfl rfl (by simp [hb]) (by simp [hR.conv',fcd])
    ·exact Le.go [(32,32),(72,72)] [] rfl rfl (by simp [hb]) (by simp [hR.conv',fcd])
   refine zac _ rfl (fun h13=>?_) fun h13=>?_
   ·rw [decide_eq_true_eq] at h13
    have hbu:=hpush h13.1 h13.2
    have hRu:=hR.set T (zpC st) (hcam h13.2)
    have hmore:=ht.more hbu
    have hfw:=hbu.few
    rw [List.length_append,List.length_singleton] at hfw
    have hbt : ∀ g : Int → List AV,List.take t.q (List.drop t.off (List.map g t.Z)) = List.map g (t.Z.drop t.off):=fun g=>by rw [← List.map_drop,List.take_of_length_le (by simp; omega)]
    obtain ⟨R',hR'⟩ : ∃ R',R' = mset T (zpC st) R:=⟨_,rfl⟩
    rw [← hR'] at hRu
    refine zab ⟨59,[(1,.pv (rC N A (ints f))),(3,.mp 32),(4,.rs 72 t.off t.q),(8,.I T),(26,.vs 2 false (L.map zbp)),(27,.I L.length),(28,.I i)],[(32,some ⟨0,R',0⟩),(72,some ⟨1,zag t.Z,0⟩)],600⟩ rfl ?_ ?_
    ·simp
     rw [show mset T (.agg [.I st.1,.B st.2]) R = R' from hR'.symm]
     exact Le.go [(32,32),(72,72)] [] rfl rfl (by simp) (by simp [hRu.conv',fcd])
    refine zau rfl ?_
    simp [hbt]
    refine ⟨by omega,by omega,by omega,?_⟩
    refine zau rfl ?_
    simp
    refine ⟨⟨⟨t.D ++ [T],t.b.set T.toNat (encS st),t.Z.drop t.off ++ [T],0,t.q + 1⟩,R',m,i + 1⟩,⟨hmore,hRu,h8,htake _ ⟨[T],rfl⟩ (.inl (by simp)),l ++ [T],by simp only [htl,List.append_assoc]⟩,by simp only; omega,?_⟩
    exact Le.go [(32,32),(624,72)] [] rfl rfl (by simp [hw]) (by simp [hRu.conv',fcd])
   ·rw [decide_eq_false_iff_not] at h13
    refine zae ?_
    refine zau rfl ?_
    simp
    refine ⟨⟨t,R,m,i + 1⟩,⟨ht,hR,h8,htake _ ⟨[],by simp⟩ ?_,l,htl⟩,by simp only; omega,Le.go [(32,32),(72,72)] [] rfl rfl (by simp [hw]) (by simp [hR.conv',fcd])⟩
    by_cases h : 0 < rm
    ·exact .inl (Decidable.byContradiction fun hn=>h13 ⟨h,hn⟩)
    ·exact .inr h
  simp at h8
  obtain rfl : i = L.length:=by omega
  refine zan ?_
  refine hit ?_
  have hlen : t.D.length = s.D.length + l.length:=by rw [htl,List.length_append]
  have hq : 0 < t.q:=by omega
  have htc' : zes A f t.D s.D[m] A.length:=fun st h1 h2 h3=>by
   refine htc st ?_ h3
   rw [List.take_length]
   exact (hLm st).2 ⟨h1,by rw [hkd]; exact h2⟩
  refine zau rfl ?_
  simp
  refine zsA 1 (i:=72) rfl rfl hq ?_
  simp
  exact ⟨⟨{ t with off:=t.off + 1,q:=t.q - 1 },R,m + 1,0⟩,⟨ht.pop hq,zen.next hmD hcl htc' htl,hR⟩,by simp only; omega,Le.go [(32,32),(72,72)] [] rfl rfl (by simp) (by simp [hR.conv',fcd])⟩
 simp at h5
 have hmD : m = s.D.length:=by omega
 refine zan ?_
 refine hit ?_
 refine zab ⟨59,[(2,.mp 32)],[(32,some ⟨0,R,0⟩)],200⟩ rfl ?_ ?_
 ·simp
  exact Le.go [(32,32)] [] rfl rfl (by simp) (by simp [hR.conv'])
 refine zah ?_
 exact zib.mk (.inr rfl) (s.D,s.b,R) ⟨hb.bfs,by rw [hmD] at hcl; exact hcl.all,hR⟩ (zam.out [32] [] rfl (by simp) (by simp) (by simp) (by simp [hR.conv']))
theorem zqj {P Q : List (List Int)} (h : P.Perm Q) (k : Int) : begC P k = begC Q k:=h.countP_eq _
theorem zpG {P Q : List (List Int)} (h : P.Perm Q) (k : Int) : useC P k = useC Q k:=(h.flatMap_right _).count_eq k
theorem zrV {P Q : List (List Int)} (h : P.Sublist Q) (k : Int) : begC P k ≤ begC Q k:=h.countP_le
theorem zrH {P Q : List (List Int)} (h : P.Sublist Q) (k : Int) : useC P k ≤ useC Q k:=by
 unfold useC
 induction h with
 | slnil=>exact Nat.le_refl _
 | cons a _ ih=>rw [List.flatMap_cons,List.count_append]; omega
 | cons_cons a _ ih=>rw [List.flatMap_cons,List.flatMap_cons,List.count_append,List.count_append]; omega
theorem zlb.perm {c : List Int} {P Q : List (List Int)} (h : zlb c P) (hp : P.Perm Q) : zlb c Q:=fun k hk=>by
 rw [← zqj hp,← zpG hp]
 exact h k hk
theorem zlb.sub {c : List Int} {P Q : List (List Int)} (h : zlb c Q) (hs : P.Sublist Q) : zlb c P:=fun k hk=>by
 have h1:=h k hk
 have h2:=zrV hs k
 have h3:=zrH hs k
 omega
theorem zo5 {P Q : List (List Int)} (h : P.Perm Q) : (zhC P).Perm (zhC Q):=h.filterMap _
theorem zhH.perm {g : Gr} {lv : Int} {seeds order c : List Int} {P Q : List (List Int)} {ends ends' : List Int} (h : zhH g lv seeds order c P ends) (hp : P.Perm Q) (he : ends.Perm ends') : zhH g lv seeds order c Q ends' :=
 ⟨fun w hw=>h.1 w (hp.mem_iff.2 hw),h.2.1.perm hp,zfP.2 (((zo5 hp).symm.trans (zfP.1 h.2.2)).trans he)⟩
theorem zgB {N : Nat} {A : List Ed} (hn : zdG N A) : zay N A (A.map fun _=>0):=by
 have hs : ∀ (φ : Ed → Int → Int),(∀ e,φ e 0 = 0) → ∀ A : List Ed,sumF φ A (A.map fun _=>0) = 0:=by
  intro φ hφ A
  induction A with
  | nil=>simp [sumF]
  | cons e A ih=>simp only [List.map_cons,sumF]; rw [hφ,ih]; omega
 refine ⟨?_,fun x _ _=>?_⟩
 ·have h0 : ∀ B : List Ed,(∀ e ∈ B,0 ≤ e.v) → Fit2 B (B.map fun _=>0):=by
   intro B
   induction B with
   | nil=>intro _; exact True.intro
   | cons e B ih=>intro h; exact ⟨⟨Int.le_refl _,h e (List.mem_cons_self ..)⟩,ih fun x hx=>h x (List.mem_cons_of_mem _ hx)⟩
  exact h0 A fun e he=>(hn.arc e he).2.2.2.2.2.2.2
 ·unfold outF inF
  rw [hs _ fun e=>by split <;> rfl,hs _ fun e=>by split <;> rfl]
theorem zeH {N : Nat} {A : List Ed} (hn : zdG N A) : ∃ f,zay N A f ∧ ∀ f',zay N A f' → valF A f' ≤ valF A f:=by
 have hb : ∀ f,zay N A f → valF A f ≤ capS (fun x=>decide (x = 0)) A:=fun f hf=>zdt hn hf (by simp) (by simp)
 have key : ∀ (n : Nat) (f : List Int),zay N A f → capS (fun x=>decide (x = 0)) A - valF A f ≤ n → ∃ f,zay N A f ∧ ∀ f',zay N A f' → valF A f' ≤ valF A f:=by
  intro n
  induction n with
  | zero =>
    intro f hf h
    exact ⟨f,hf,fun f' hf'=>by have:=hb f' hf'; omega⟩
  | succ n ih =>
    intro f hf h
    by_cases hm : ∀ f',zay N A f' → valF A f' ≤ valF A f
    ·exact ⟨f,hf,hm⟩
    ·obtain ⟨f',hf'⟩:=Classical.not_forall.1 hm
     obtain ⟨h1,h2⟩:=Classical.not_imp.1 hf'
     exact ih f' h1 (by omega)
 exact key _ _ (zgB hn) (Int.self_le_toNat _)
noncomputable def maxF (N : Nat) (A : List Ed) : Int:=open Classical in if h : ∃ f,zay N A f ∧ ∀ f',zay N A f' → valF A f' ≤ valF A f then valF A h.choose else 0
theorem zfg {N : Nat} {A : List Ed} {f : List Int} (hf : zay N A f) (hm : ∀ f',zay N A f' → valF A f' ≤ valF A f) : maxF N A = valF A f:=by
 have h : ∃ f,zay N A f ∧ ∀ f',zay N A f' → valF A f' ≤ valF A f:=⟨f,hf,hm⟩
 unfold maxF
 rw [dif_pos h]
 have h1:=h.choose_spec
 have h2:=hm _ h1.1
 have h3:=h1.2 _ hf
 omega
theorem zqI {N : Nat} {A : List Ed} (hn : zdG N A) {f : List Int} (hf : zay N A f) : valF A f ≤ maxF N A:=by
 obtain ⟨m,h1,h2⟩:=zeH hn
 rw [zfg h1 h2]
 exact h2 f hf
theorem zoB {N : Nat} {A : List Ed} (hn : zdG N A) : ∃ f,zay N A f ∧ valF A f = maxF N A:=by
 obtain ⟨m,h1,h2⟩:=zeH hn
 exact ⟨m,h1,(zfg h1 h2).symm⟩
end Go.Proofs.YteiabadhhhckfaaGreat
