/- Texts of this claim,merged. -/
import Derived.Test.YthmaflecfppoiaaGreatRp10
import Derived.Test.YthmaflecfppoiaaGreatRp7
import Derived.Test.YthmaflecfppoiaaGreatRp11
import Derived.Test.YthmaflecfppoiaaGreatRp9
set_option linter.unusedSimpArgs false
set_option linter.unusedVariables false
set_option linter.unusedSectionVars false
namespace Go.Proofs.YthmaflecfppoiaaGreat
open Go Go.RowKit Go.Shelf Go.Maps Go.Sort
theorem arr2 {vs : Array Value} (h : vs.size = 2) : vs = #[vs.getD 0 undef,vs.getD 1 undef]:=by
 apply Array.ext
 ·simpa using h
 ·intro i h1 h2
  have : i = 0 ∨ i = 1:=by simp at h2; omega
  rcases this with rfl | rfl <;> simp [Array.getD,h1] <;> intro h3 <;> omega
theorem zuz (x : Int) : (encZ x : Value) = .int .i64 x:=rfl
theorem zn6 (l : List Int) (hl : l.length ≤ 1099511627776) : zai Tryz.prog zcl [.nilS,.fn (.func zbx) [] [.pv [ints l]]] [] (.rs 0 0 l.length) [some ⟨1,zah l,0⟩]:=by
 refine ⟨⟨_,_,Tryz.func149,rfl,by decide⟩,by simp,fun T M w vs htok hhs hdom hrep=>?_⟩
 obtain ⟨hsz,hr⟩:=hrep
 have hr0:=hr 0 (by simp)
 have hr1:=hr 1 (by simp)
 simp only [List.getD_cons_zero,List.getD_cons_succ] at hr0 hr1
 rw [arr2 hsz]
 generalize vs.getD 0 undef = v0 at hr0
 generalize vs.getD 1 undef = v1 at hr1
 cases hr0
 cases hr1 with
 | fn _ _ _ _ us ws hx hy h h' =>
 have hus : us = #[]:=by simpa using hx
 subst hus
 have hws:=arr1 (vs:=ws) hy
 have hc0:=h' 0 (by simp)
 simp only [List.getD_cons_zero] at hc0
 rw [hws]
 generalize ws.getD 0 undef = u at hc0
 cases hc0 with
 | pv _ _ Bs B0 cells ty fz c hb ht hcc ho hh =>
 have hB:=hcc 0 (by simp)
 have hv:=hh 0 (by simp)
 simp only [List.getD_cons_zero,Nat.add_zero] at hB hv
 have hBl : Bs < w.heap.size:=(Array.getElem?_eq_some_iff.1 hb).1
 generalize c 0 = sv at hB hv
 cases hv with
 | vs _ _ _ _ a cap cc hf hle hw hbb h1 hcv =>
 have hlen : (l.map fun n=>[AV.I n]).length = l.length:=by simp
 rw [hlen] at hB
 have hcell : ∃ b off,(l ≠ [] → a = some ⟨b,off,none⟩ ∧ b < w.heap.size) ∧ ∀ j (h : j < l.length),w.cell? ⟨b,off + j,none⟩ = some (.int .i64 l[j]):=by
  by_cases h0 : l = []
  ·exact ⟨0,0,fun h=>absurd h0 h,fun j hj=>by subst h0; simp at hj⟩
  ·obtain ⟨b,off,cs,ty',fz',ha,hwb,_,hrow⟩:=hbb (by simpa using h0)
   refine ⟨b,off,fun _=>⟨ha,(Array.getElem?_eq_some_iff.1 hwb).1⟩,fun j hj=>?_⟩
   have h2:=hrow j 0 (by simpa using hj) (by decide)
   have h3:=hcv j 0 (by simpa using hj) (by decide)
   have e : ((l.map fun n=>[AV.I n]).getD j []).getD 0 .dead = .I l[j]:=by simp [List.getD,hj]
   rw [e] at h3
   have h4:=zbu h3 rfl
   rw [h4] at h2
   simp only [World.cell?,hwb]
   simpa using h2
 obtain ⟨b,off,hab,hcs⟩:=hcell
 rw [← callsIn_wide (n:=2)]
 refine (znP Fence.wide 2 trivial trivial rfl (by omega) Bs B0 b off cap a l (fun h=>(hab h).1) hl w ?_ hBl (fun h=>(hab h).2) hcs).mono ?_
 ·simp only [World.cell?,hb]
  exact hB
 rintro e w' ⟨v,rfl,⟨_,hown⟩,hbel⟩
 have hpr : Pres T w T w':=⟨fun _=>Nat.le_refl _,fun b' cs' ty' fz' h=>⟨cs',fz',by rw [hbel.block b' (Array.getElem?_eq_some_iff.1 h).1]; exact h,rfl,fun _ _=>rfl⟩⟩
 have hT0 : ∀ b',w.heap.size ≤ b' → T b' = 0:=fun b' hb'=>by
  rcases Nat.eq_zero_or_pos (T b') with e | e
  ·exact e
  ·obtain ⟨cells,ty,fz,h1,_⟩:=htok b' e
   have:=(Array.getElem?_eq_some_iff.1 h1).1
   omega
 have htok' : TOk T w':=fun b' hb'=>by
  obtain ⟨cells,ty,fz,h1,h2⟩:=htok b' hb'
  exact ⟨cells,ty,fz,by rw [hbel.block b' (Array.getElem?_eq_some_iff.1 h1).1]; exact h1,h2⟩
 have fin : ∀ g : GE,(∀ b,g.blk = some b → w.heap.size ≤ b) → zoi T w' (fun k=>if k = 0 then some g else none) ⟨1,zah l,0⟩ g → Rep T w' (fun k=>if k = 0 then some g else none) (.rs 0 0 l.length) v →
   ∃ v' T' M',Ending.returned v = .returned v' ∧ Rep T' w' M' (.rs 0 0 l.length) v' ∧ HsOk T' w' M' (zkz [some ⟨1,zah l,0⟩]) ∧ ziB 0 T M w T' M' w':=by
  intro g hg ent hv
  refine ⟨v,T,_,rfl,hv,?_,⟨htok',fun _ _ _=>rfl,fun k hk=>absurd hk (Nat.not_lt_zero k),hbel.os,hbel.tape,hbel.output,hbel.size,fun b' hb' _=>hbel.block b' hb',hpr,fun k g1 b1 _ h1 h2=>?_⟩⟩
  ·rw [show ([some ⟨1,zah l,0⟩] : List (Option Ent)) = List.map some [⟨1,zah l,0⟩] from rfl,ziI]
   have z : ∀ id e,hpOf [(⟨1,zah l,0⟩ : Ent)] id = some e → id = 0 ∧ e = ⟨1,zah l,0⟩:=by
    intro id e he
    cases id with
    | zero=>simp [hpOf] at he; exact ⟨rfl,he.symm⟩
    | succ k=>simp [hpOf] at he
   refine ⟨fun id e he=>?_,fun id id' e e' _ _ _ h1 h2 _ _ _ _=>by rw [(z _ _ h1).1,(z _ _ h2).1]⟩
   obtain ⟨rfl,rfl⟩:=z _ _ he
   exact ⟨g,rfl,ent⟩
  ·by_cases hk : k = 0
   ·subst hk
    simp at h1
    subst h1
    exact .inr (hg b1 h2)
   ·simp [hk] at h1
 have hwide : ∀ row ∈ zah l,row.length = 1:=by intro row hr; simp at hr; obtain ⟨x,_,rfl⟩:=hr; rfl
 rcases hown with ⟨rfl,h0⟩ | ⟨g,cp,cur,rfl,hg,hgw,hle2,hcm,hcsz,htk⟩
 ·have h0' : l = []:=List.length_eq_zero_iff.1 h0
  subst h0'
  exact fin ⟨none,0,1⟩ (by simp) ⟨rfl,Nat.zero_le _,fun _=>hwide,(fun _=>rfl),(fun hz=>absurd hz (Nat.succ_ne_zero 0)),fun _ b' hb'=>by cases hb'⟩ (.rs _ _ _ _ _ _ _ rfl (Nat.succ_ne_zero 0) (Nat.le_refl _) (fun _=>⟨rfl,rfl⟩) fun b' hb'=>by cases hb')
 ·refine fin ⟨some g,0,1⟩ (fun b' hb'=>by cases hb'; exact hg) ⟨rfl,Nat.zero_le _,fun _=>hwide,(fun hn=>by cases hn),(fun hz=>absurd hz (Nat.succ_ne_zero 0)),fun _ b' hb'=>?_⟩ (.rs _ _ _ _ cp _ _ rfl (Nat.succ_ne_zero 0) hle2 (fun hn=>by cases hn) fun b' hb'=>?_)
  ·obtain rfl:=Option.some.inj hb'
   refine ⟨cur,3,hgw,by rw [hT0 g hg]; exact Nat.zero_le _,by simp; omega,fun i j hi hj=>?_⟩
   have hi' : i < l.length:=by simpa using hi
   obtain rfl : j = 0:=by simpa using hj
   refine ⟨.int .i64 l[i],?_,rfl,?_⟩
   ·have : (cur.toList.take (l.length * 1))[i]? = (l.map encZ)[i]?:=by rw [htk]
    rw [List.getElem?_take,if_pos (by omega)] at this
    simpa [hi',zuz] using this
   ·have e : ((zah l).getD i []).getD 0 .dead = .I l[i]:=by simp [List.getD,hi']
    rw [e]
    exact .sc _ _ rfl
  ·obtain rfl:=Option.some.inj hb'
   exact ⟨.inr (by simp),cur,3,(0,0),hgw,by simp; omega⟩
section
variable {P : Program} {np id : Nat} {h : Nat → Option Ent} {K : AV → List Nat → List (Nat × Option Ent) → Prop} {f : FuncId} {first capt args args' : List AV} {res : AV}
theorem zkE (sn : List Nat) (hnp : ∀ i ∈ sn,np ≤ i) (hc : zai P f args' [] res []) (hw : (first ++ args ++ capt).map (conv [] sn h 4) = args')
  (hk : K (conv (((List.range 8).map (id + ·)).zipIdx.map fun (a,b)=>(b,a)) [] (fun _=>none) 4 res) sn (sn.filterMap fun i=>(h i).map fun e=>(i,some { e with ro:=e.rows.length }))) : aK P np id .call (.fn (.func f) first capt :: args) h K :=
 ⟨[],sn,true,args',[],res,[],by simp,by simp,fun _=>hnp,by rw [List.zipIdx_nil,hw]; exact zbM _,rfl,hc,by simp,.inl rfl,by simpa using hk⟩
end
abbrev seqF (l : List Int) : AV:=.fn (.func zbx) [] [.pv [ints l]]
theorem ztt (l : List Int) : zai Tryz.prog zbW [ints l] [] (seqF l) []:=by
 refine zfp.acalls (nbz rfl) (nbz rfl) (Nat.le_refl _) ?_
 show awp _ 0 _ _ ⟨4,[(0,ints l)],[],16⟩
 refine rk (s:=?s1) [1] [16] rfl ?o1 ?q1
 case o1=>simp; rfl
 refine rk (s:=?s2) [2] [16] rfl ?o2 ?q2
 case o2=>simp; rfl
 refine zag ?_
 exact ⟨.inr rfl,zak.out [] [16] rfl (by simp) (by simp) (by simp) (by simp)⟩
theorem zsl (l : List Int) (hl : l.length ≤ 1099511627776) : zai Tryz.prog zcF [seqF l] [] (.rs 0 0 l.length) [some ⟨1,zah l,0⟩]:=by
 refine zhu.acalls (nbz rfl) (nbz rfl) (Nat.zero_le _) ?_
 show awp _ 0 _ _ ⟨5,[(0,seqF l)],[],16⟩
 refine rk (s:=?s1) [0] [] rfl ?o1 ?q1
 case o1=>simp; rfl
 refine rk (s:=?s2) [2] [32] rfl ?o2 ?q2
 case o2 =>
  simp
  refine za0 (zn6 l hl) (by simp) ?_
  simp [fcd]
  rfl
 refine zag ?_
 exact ⟨.inr rfl,zak.out [32] [] rfl (by simp) (by simp) (by simp) (by simp [fcd])⟩
theorem zsT (l : List Int) (hl : l.length ≤ 1099511627776) : zai Tryz.prog zb6 [seqF l] [] (.rs 0 0 l.length) [some ⟨1,zah (zgE l),0⟩]:=by
 refine zif.acalls (nbz rfl) (nbz rfl) (Nat.zero_le _) ?_
 show awp _ 0 _ _ ⟨9,[(0,seqF l)],[],16⟩
 refine rk (s:=?s1) [0] [] rfl ?o1 ?q1
 case o1=>simp; rfl
 refine rk (s:=?s2) [3] [32] rfl ?o2 ?q2
 case o2 =>
  simp
  refine za0 (zsl l hl) (by simp) ?_
  simp [fcd]
  rfl
 refine rk (s:=?s3) [3] [32] rfl ?o3 ?q3
 case o3 =>
  simp
  refine zbH (i:=32) rfl (e':=⟨1,zeA l,0⟩) (by simp [fcd,zeA]) (zs6 l (by omega)) (by simp) (by simp) ?_
  simp [fcd,zeA]
  rfl
 refine rk (s:=?s4) [2] [32] rfl ?o4 ?q4
 case o4=>simp; rfl
 refine zag ?_
 exact ⟨.inr rfl,zak.out [32] [] rfl (by simp) (by simp) (by simp) (by simp [fcd])⟩
section
variable {P : Program} {np id : Nat} {h : Nat → Option Ent} {K : AV → List Nat → List (Nat × Option Ent) → Prop} {s s' l k : Nat} {f : Bool} {rows : List (List AV)}
@[simp] theorem zw2 : aK P np id (.slc s true true false) [.vs s' f rows,.sc (.int .i64 (l : Int)),.sc (.int .i64 (k : Int))] h K = (l ≤ k ∧ k ≤ rows.length ∧ s' = s ∧ K (.vs s false ((rows.drop l).take (k - l))) [] []):=by
 rw [zku]
 refine propext ⟨?_,?_⟩
 ·rintro ⟨l',r,m,n,h1,h2,h4,h5,h6,h7,h3,h10,h8,h9⟩
  simp at h4 h1
  subst h1
  obtain ⟨rfl,rfl⟩ : l = l' ∧ k = r:=by omega
  exact ⟨h2,h3,h8,by simpa using h9⟩
 ·rintro ⟨h1,h2,h3,h4⟩
  exact ⟨l,k,0,rows.length,rfl,h1,by simp,(fun h=>by cases h),(fun h=>by cases h),(fun h=>by cases h),h2,(fun h=>by cases h),h3,by simpa using h4⟩
end
theorem zla {g : Gr} {p : Pol} {n : Int} (hp : zaY n p) : ∀ c ∈ zaO g p,0 ≤ c ∧ c ≤ 1000:=by
 intro c hc
 obtain ⟨d,_,rfl⟩:=List.mem_map.1 hc
 exact zhs hp d
abbrev nC (n : Net) : List AV:=[.I n.nodes,eEs n.arcs]
abbrev eN (n : Net) : AV:=.agg (nC n)
theorem znp (f : FuncId) (capt : List AV) (q : Ed → Bool) (l : List Ed) (hl : l.length ≤ 1099511627776) (hs : zkD capt) (hc : ∀ e ∈ l,zai Tryz.prog f (eE e :: capt) [] (.B (q e)) []) : zai Tryz.prog za4 [eEs l,.fn (.func f) [] capt] [] (.I (idxQ l q)) []:=by
 have hs2 : ∀ ρ sn h,capt.map (conv ρ sn h 2) = capt:=fun _ _ _=>hs _ _ _ 1
 have hs3 : ∀ ρ sn h,capt.map (conv ρ sn h 3) = capt:=fun _ _ _=>hs _ _ _ 2
 have hs4 : ∀ ρ sn h,capt.map (conv ρ sn h 4) = capt:=fun _ _ _=>hs _ _ _ 3
 refine zcV.acalls (nbz rfl) (nbz rfl) (Nat.le_refl _) ?_
 show awp _ 0 _ _ ⟨19,[(0,eEs l),(1,.fn (.func f) [] capt)],[],16⟩
 refine zab ?_
 refine zad (s:=?s1) rfl ?o1 ?q1
 case o1=>simp; rfl
 refine zab ?_
 refine zab ?_
 refine zad (s:=?s2) rfl ?o2 ?q2
 case o2=>simp; rfl
 refine zaf ?_
 refine zao (ι:=Nat) (fun k=>⟨19,[(0,eEs l),(1,.fn (.func f) [] capt),(7,.I l.length),(8,.I k)],[],16⟩) (fun k=>k ≤ l.length ∧ ∀ i,i < k → ∀ h : i < l.length,q l[i] = false) (fun k=>l.length - k) (0) ?_ (Le.snap [] rfl rfl (by simp [hs2,hs3,hs4])) ?_
 ·simp
 rintro k ⟨hk,hp⟩
 refine zab ?_
 refine zad (s:=?s3) rfl ?o3 ?q3
 case o3=>simp; rfl
 refine zab ?_
 refine zac _ rfl (fun h4=>?_) fun h4=>?_
 ·try simp at h4
  have hw2 : IntKind.i64.wrap ((k : Int) + 1) = (k : Int) + 1:=w64 (by omega) (by omega)
  have hck:=hc l[k] (List.getElem_mem h4)
  refine zae ?_
  refine zab ?_
  refine zaf ?_
  refine zab ?_
  refine zad (s:=?s5) rfl ?o5 ?q5
  case o5=>simp [h4,hw2]; rfl
  refine zab ?_
  refine zad (s:=?s6) rfl ?o6 ?q6
  case o6 =>
   simp [h4,hw2]
   refine zaj hck ?_ ?_
   ·simp [hs2,hs3,hs4]
   simp [h4,hw2]; rfl
  refine zac _ rfl (fun h7=>?_) fun h7=>?_
  ·try simp at h7
   refine zab ?_
   refine zad (s:=?s8) rfl ?o8 ?q8
   case o8=>simp [h4,hw2]; rfl
   refine zag ?_
   exact ⟨.inr rfl,zak.one (by simp [zpE h4 hp h7])⟩
  try simp at h7
  refine zae ?_
  refine zad (s:=?s9) rfl ?o9 ?q9
  case o9=>simp [h4,hw2]; rfl
  refine ⟨k + 1,⟨h4,fun i hi=>?_⟩,by omega,Le.snap [] rfl rfl (by simp [h4,hw2,hs2,hs3,hs4])⟩
  rcases Nat.lt_succ_iff_lt_or_eq.1 hi with h | rfl
  ·exact hp i h
  ·exact fun _=>h7
 try simp at h4
 have hall : ∀ i,i < l.length → ∀ h : i < l.length,q l[i] = false:=fun i hi=>hp i (by omega)
 refine zan ?_
 refine hit ?_
 refine zab ?_
 refine zad (s:=?s10) rfl ?o10 ?q10
 case o10=>simp; rfl
 refine zag ?_
 exact ⟨.inr rfl,zak.one (by simp [zqh hall])⟩
theorem zjL (f : FuncId) (capt : List AV) (q : Ed → Bool) (l : List Ed) (hl : l.length ≤ 1099511627776) (hs : zkD capt) (hc : ∀ e ∈ l,zai Tryz.prog f (eE e :: capt) [] (.B (q e)) []) : zai Tryz.prog zaW [eEs l,.fn (.func f) [] capt] [] (.B (l.any q)) []:=by
 have hs2 : ∀ ρ sn h,capt.map (conv ρ sn h 2) = capt:=fun _ _ _=>hs _ _ _ 1
 have hs3 : ∀ ρ sn h,capt.map (conv ρ sn h 3) = capt:=fun _ _ _=>hs _ _ _ 2
 have hs4 : ∀ ρ sn h,capt.map (conv ρ sn h 4) = capt:=fun _ _ _=>hs _ _ _ 3
 refine zcp.acalls (nbz rfl) (nbz rfl) (Nat.le_refl _) ?_
 show awp _ 0 _ _ ⟨9,[(0,eEs l),(1,.fn (.func f) [] capt)],[],16⟩
 refine zab ?_
 refine zad (s:=?s1) rfl ?o1 ?q1
 case o1=>simp; rfl
 have hi : decide (0 ≤ idxQ l q) = l.any q:=by
  unfold idxQ
  by_cases h : l.findIdx q < l.length
  ·rw [if_pos h]
   have:=List.findIdx_getElem (w:=h)
   have h2 : l.any q = true:=List.any_eq_true.2 ⟨_,List.getElem_mem h,this⟩
   rw [h2]
   simp
  ·rw [if_neg h]
   have : l.findIdx q = l.length:=by have:=List.findIdx_le_length (xs:=l) (p:=q); omega
   rw [List.findIdx_eq_length] at this
   have h2 : l.any q = false:=by
    rw [List.any_eq_false]
    intro x hx
    simp [this x hx]
   rw [h2]
   simp
 refine zaa ⟨9,[(4,.B (l.any q))],[],16⟩ rfl ?_ ?_
 ·simp
  refine zaj (znp f capt q l hl hs hc) ?_ ?_
  ·simp [hs2,hs3,hs4]
  simp
  exact Le.snap [] rfl rfl (by simp; exact wkB hi)
 refine zag ?_
 exact ⟨.inr rfl,zak.one (by simp)⟩
theorem zjB (n : Net) (a : Ed) (h2 : 2 ≤ n.nodes) (h3 : n.nodes ≤ 130) : zai Tryz.prog zdz [eE a,.pv (nC n)] [] (.B (!decide (zjQ n.nodes a))) []:=by
 refine zl0.acalls (nbz rfl) (nbz rfl) (Nat.le_refl _) ?_
 show awp _ 0 _ _ ⟨43,[(0,eE a),(1,.pv (nC n))],[],16⟩
 have hw : IntKind.i64.wrap (n.nodes - 1) = n.nodes - 1:=w64 (by omega) (by omega)
 refine rx (s:=?s1) [1,2] [] [16] rfl ?o1 ?q1
 case o1=>simp; rfl
 refine zaa ⟨43,[(3,.B (!decide (zjQ n.nodes a)))],[],400⟩ rfl ?_ ?_
 ·simp [hw]
  repeat' first
   | (refine zd1 zaQ rfl ?_; refine zaj (zbs ..) rfl ?_; simp [hw])
   | (refine zb5 (fun hb=>?_) (fun hb=>?_) <;> (try rw [hb]) <;> (try simp at hb) <;> simp [hb,hw])
  all_goals exact Le.snap [] rfl rfl (by simp <;> exact wkB (by (try simp at *); grind [zjQ]))
 refine zag ?_
 exact ⟨.inr rfl,zak.one (by simp)⟩
theorem zfl (n : Net) (hl : n.arcs.length ≤ 1099511627776) : zai Tryz.prog zeq [eN n] [] (.I (if za5 n then 0 else 16)) []:=by
 refine zqJ.acalls (nbz rfl) (nbz rfl) (Nat.le_refl _) ?_
 show awp _ 0 _ _ ⟨21,[(0,eN n)],[],16⟩
 refine rx (s:=?s1) [1] [] [16] rfl ?o1 ?q1
 case o1=>simp; rfl
 refine rx (s:=?s2) [1,3] [] [] rfl ?o2 ?q2
 case o2=>simp; rfl
 refine zab ?_
 refine zaa ⟨21,[(20,.B (!decide (za5 n)))],[],300⟩ rfl ?_ ?_
 ·by_cases h2 : 2 ≤ n.nodes ∧ n.nodes ≤ 130
  ·have hcf:=zjL zdz [.pv (nC n)] (fun a=>!decide (zjQ n.nodes a)) n.arcs hl (fun ρ sn h k=>by simp) (fun e _=>zjB n e h2.1 h2.2)
   simp
   refine zaj (zbs ..) rfl ?_
   simp [h2]
   by_cases h3 : n.arcs.length ≤ 1200
   ·simp [show ¬ (1200 < n.arcs.length) by omega,show ¬ (1200 < (n.arcs.length : Int)) by omega]
    refine zaj hcf (by simp) ?_
    simp
    refine Le.snap [] rfl rfl (by simp <;> exact wkB (by rw [Bool.eq_iff_iff]; simp [za5,h2,h3]))
   ·simp [show (1200 < n.arcs.length) by omega,show (1200 < (n.arcs.length : Int)) by omega]
    refine Le.snap [] rfl rfl (by simp [za5,h3])
  ·simp
   refine zaj (zbs ..) rfl ?_
   have h2' : (decide (2 ≤ n.nodes) && decide (n.nodes ≤ 130)) = false:=by simpa using fun h=>by omega
   simp [h2']
   have hn : ¬ za5 n:=fun h=>h2 ⟨h.1,h.2.1⟩
   refine Le.snap [] rfl rfl (by simp [hn])
 refine zac _ rfl (fun h7=>?_) fun h7=>?_
 ·simp at h7
  refine rx (s:=?s8) [2] [] [] rfl ?o8 ?q8
  case o8=>simp; rfl
  refine zag ?_
  exact ⟨.inr rfl,zak.one (by simp [h7])⟩
 simp at h7
 refine zae ?_
 refine rx (s:=?s9) [2] [] [] rfl ?o9 ?q9
 case o9=>simp; rfl
 refine zag ?_
 exact ⟨.inr rfl,zak.one (by simp [h7])⟩
def zru (n : Net) : Prop:=(2 ≤ n.nodes ∧ n.nodes ≤ 130) ∧ n.arcs.length ≤ 1200
def zsC (n : Net) (i : Nat) : Prop:=∀ h : i < n.arcs.length,zjQ n.nodes n.arcs[i]
theorem ziy {n : Net} : za5 n ↔ zru n ∧ ∀ i,zsC n i:=by
 unfold za5 zru zsC
 constructor
 ·rintro ⟨a,b,c,d⟩
  exact ⟨⟨⟨a,b⟩,c⟩,fun i h=>d _ (List.getElem_mem h)⟩
 ·rintro ⟨⟨⟨a,b⟩,c⟩,d⟩
  exact ⟨a,b,c,fun x hx=>by obtain ⟨i,hi,rfl⟩:=List.getElem_of_mem hx; exact d i hi⟩
set_option maxRecDepth 100000 in
open Classical in
theorem zdF (n : Net) (hl : n.arcs.length ≤ 1099511627776) : zai Tryz.prog zdJ [eN n] [] (.I (if za5 n then 0 else 16)) []:=by
 refine zob.acalls (nbz rfl) (nbz rfl) (Nat.le_refl _) ?_
 show awp _ 0 _ _ ⟨80,[(0,eN n)],[],16⟩
 refine rx (s:=?s1) [1] [] [16] rfl ?o1 ?q1
 case o1=>simp; rfl
 refine zab ?_
 refine zaa ⟨80,[(1,.pv (nC n)),(18,.B (!decide (zru n)))],[],300⟩ rfl ?_ ?_
 ·simp
  repeat' first
   | (refine zb5 (fun hb=>?_) (fun hb=>?_) <;> (try rw [hb]) <;> (try simp at hb) <;> simp [hb])
  all_goals exact Le.snap [] rfl rfl (by simp <;> exact wkB (by (try simp at *); grind [zru]))
 refine zac _ rfl (fun h3=>?_) fun h3=>?_
 ·simp at h3
  refine rx (s:=?s4) [2] [] [] rfl ?o4 ?q4
  case o4=>simp; rfl
  refine zag ?_
  exact ⟨.inr rfl,zak.one (by simp [ziy,h3])⟩
 simp at h3
 refine zae ?_
 refine zab ?_
 refine rx (s:=?s5) [1,3] [] [] rfl ?o5 ?q5
 case o5=>simp; rfl
 refine zaf ?_
 refine zao (ι:=Nat) (fun i=>⟨80,[(1,.pv (nC n)),(3,.I i)],[],308⟩) (fun i=>i ≤ n.arcs.length ∧ ∀ k,k < i → zsC n k) (fun i=>n.arcs.length - i) 0 (by simp) (LeH [] []) ?_
 rintro i ⟨hi,hp⟩
 refine zab ?_
 refine rx (s:=?s6) [1,3,23] [] [] rfl ?o6 ?q6
 case o6=>simp; rfl
 refine zac _ rfl (fun h7=>?_) fun h7=>?_
 ·simp at h7
  have hw : IntKind.i64.wrap ((i : Int) + 1) = (i : Int) + 1:=w64 (by omega) (by omega)
  refine zae ?_
  refine zab ?_
  refine zaf ?_
  refine zaa ⟨80,[(1,.pv (nC n)),(3,.I i),(4,.pv (eC n.arcs[i]))],[],408⟩ rfl ?_ ?_
  ·simp [h7]
   exact Le.snap [388] rfl rfl (by simp)
  refine zaa ⟨80,[(1,.pv (nC n)),(3,.I i),(79,.B (!decide (zsC n i)))],[],900⟩ rfl ?_ ?_
  ·simp
   have hat : zsC n i ↔ zjQ n.nodes n.arcs[i]:=⟨fun h=>h h7,fun h _=>h⟩
   repeat' first
    | (refine zb5 (fun hb=>?_) (fun hb=>?_) <;> (try rw [hb]) <;> (try simp at hb) <;> simp [hb])
   all_goals exact Le.snap [] rfl rfl (by simp <;> exact wkB (by (try simp at *); simp only [hat]; grind [zjQ]))
  refine zac _ rfl (fun h9=>?_) fun h9=>?_
  ·refine rx (s:=?s10) [2] [] [] rfl ?o10 ?q10
   case o10=>simp; rfl
   refine zag ?_
   have hn : ¬ za5 n:=fun h=>by simp at h9; exact h9 ((ziy.1 h).2 i)
   exact ⟨.inr rfl,zak.one (by simp [hn])⟩
  simp at h9
  refine zae ?_
  refine zad (s:=?s11) rfl ?o11 ?q11
  case o11=>simp; rfl
  refine ⟨i + 1,⟨h7,fun k hk=>?_⟩,by omega,Le.go [] [] rfl rfl (by simp [hw]) (by simp)⟩
  rcases Nat.lt_succ_iff_lt_or_eq.1 hk with h | rfl
  ·exact hp k h
  ·exact h9
 simp at h7
 have hy : za5 n:=ziy.2 ⟨h3,fun k hk=>hp k (by omega) hk⟩
 refine zan ?_
 refine hit ?_
 refine rx (s:=?s12) [2] [] [] rfl ?o12 ?q12
 case o12=>simp; rfl
 refine zag ?_
 exact ⟨.inr rfl,zak.one (by simp [hy])⟩
variable {g : Gr} {S : List Int} {key : Int}
abbrev zi3 (l : List Bool) : List (List AV):=l.map fun b=>[AV.B b]
variable {g : Gr} {S : List Int} {key : Int}
section
variable {P : Program} {np id : Nat} {h : Nat → Option Ent} {K : AV → List Nat → List (Nat × Option Ent) → Prop}
theorem zvu {s i off len : Nat} (l : Nat) {e : Ent} (he : h i = some e) (hs : e.s = s) (hl : l ≤ len) (hK : K (.rs i (off + l) (len - l)) [i] []) : aK P np id (.slc s true false false) [.rs i off len,.sc (.int .i64 l)] h K:=by
 rw [zku]
 exact ⟨l,len,0,len,rfl,hl,rfl,by simp,by simp,by simp,Nat.le_refl _,rfl,⟨e,he,hs⟩,hK⟩
end
structure BSt where
 D : List Int
 b : List Int
 Z : List Int
 off : Nat
 q : Nat
structure BInv (N : Nat) (A : List Ed) (f : List Int) (s : BSt) (m : Nat) : Prop where
 bfs : Bfs N A f s.D s.b
 z : s.off + s.q = s.Z.length
 d : m + s.q = s.D.length
 same : s.Z.drop s.off = s.D.drop m
section
variable {N : Nat} {A : List Ed} {f : List Int}
theorem zuy {i : Nat} {k : Int} {D b : List Int} (hi : i < A.length) (hf : i < f.length) : tryS A f k (i,false) (D,b) = if A[i].f = k ∧ f[i] < A[i].v ∧ A[i].t ∉ D then (D ++ [A[i].t],b.set A[i].t.toNat ((i : Int) + 1)) else (D,b):=by
 have he : arcD A i = A[i]:=by unfold arcD; rw [List.getD_eq_getElem?_getD,List.getElem?_eq_getElem hi,Option.getD_some]
 have hg : f.getD i 0 = f[i]:=by rw [List.getD_eq_getElem?_getD,List.getElem?_eq_getElem hf,Option.getD_some]
 unfold tryS stF stT zbk encS
 simp only [Bool.false_eq_true,if_false,he,hg,Int.sub_pos]
theorem zun {i : Nat} {k : Int} {D b : List Int} (hi : i < A.length) (hf : i < f.length) : tryS A f k (i,true) (D,b) = if A[i].t = k ∧ 0 < f[i] ∧ A[i].f ∉ D then (D ++ [A[i].f],b.set A[i].f.toNat (-((i : Int) + 1))) else (D,b):=by
 have he : arcD A i = A[i]:=by unfold arcD; rw [List.getD_eq_getElem?_getD,List.getElem?_eq_getElem hi,Option.getD_some]
 have hg : f.getD i 0 = f[i]:=by rw [List.getD_eq_getElem?_getD,List.getElem?_eq_getElem hf,Option.getD_some]
 unfold tryS stF stT zbk encS
 simp only [if_true,he,hg]
theorem BInv.more {s : BSt} {m : Nat} (h : BInv N A f s m) {x : Int} {b' : List Int} (hb : Bfs N A f (s.D ++ [x]) b') : BInv N A f ⟨s.D ++ [x],b',s.Z.drop s.off ++ [x],0,s.q + 1⟩ m:=by
 have h1:=h.z
 have h2:=h.d
 refine ⟨hb,?_,?_,?_⟩
 ·simp only [List.length_append,List.length_drop,List.length_singleton]; omega
 ·simp only [List.length_append,List.length_singleton]; omega
 ·simp only [List.drop_zero]
  rw [h.same,List.drop_append_of_le_length (by omega)]
theorem BInv.pop {s : BSt} {m : Nat} (h : BInv N A f s m) (hq : 0 < s.q) : BInv N A f { s with off:=s.off + 1,q:=s.q - 1 } (m + 1):=by
 have h1:=h.z
 have h2:=h.d
 refine ⟨h.bfs,by simp only; omega,by simp only; omega,?_⟩
 simp only
 rw [← List.drop_drop,h.same,List.drop_drop]
theorem BInv.head {s : BSt} {m : Nat} (h : BInv N A f s m) (hq : 0 < s.q) : ∃ hm : m < s.D.length,s.Z[s.off]? = some s.D[m]:=by
 have h1:=h.z
 have h2:=h.d
 refine ⟨by omega,?_⟩
 have e : (s.Z.drop s.off)[0]? = (s.D.drop m)[0]?:=by rw [h.same]
 rw [List.getElem?_drop,List.getElem?_drop,Nat.add_zero,Nat.add_zero] at e
 rw [e,List.getElem?_eq_getElem (by omega)]
end
set_option maxRecDepth 100000 in
set_option maxHeartbeats 4000000 in
theorem zmt (N : Nat) (A : List Ed) (f : List Int) (hn : za5 ⟨N,A⟩) (hf : f.length = A.length) :
  ∃ x : List Int × List Int,(Bfs N A f x.1 x.2 ∧ zeX A f x.1) ∧ zai Tryz.prog zc7 [eN ⟨N,A⟩,ints f] [] (.rs 0 0 N) [some ⟨1,zah x.2,0⟩]:=by
 refine zkT.acallsX (args:=[eN ⟨N,A⟩,ints f]) (hs:=[]) (fun x=>.rs 0 0 N) (fun x=>[some ⟨1,zah x.2,0⟩]) (fun x : List Int × List Int=>Bfs N A f x.1 x.2 ∧ zeX A f x.1) (nbz rfl) (nbz rfl) (fun _=>by simp) ?_
 show awp _ 0 _ _ ⟨112,[(0,eN ⟨N,A⟩),(1,ints f)],[],16⟩
 obtain ⟨hn0,hn1,hal,hav⟩:=hn
 simp only at hn0 hn1 hal hav
 refine rx (s:=?s1) [1,2] [] [16] rfl ?o1 ?q1
 case o1=>simp; rfl
 refine zaa ⟨112,[(1,ints f),(2,.pv (nC ⟨N,A⟩)),(5,.rs 48 0 N)],[(48,some ⟨1,zah (List.replicate N 0),0⟩)],56⟩ rfl ?_ ?_
 ·simp
  refine ⟨by omega,by omega,?_⟩
  exact LeH [(48,48)] []
 refine zaa ⟨112,[(1,ints f),(2,.pv (nC ⟨N,A⟩)),(5,.rs 48 0 N),(6,.rs 80 0 N)],[(48,some ⟨1,zah (List.replicate N 0),0⟩),(80,some ⟨1,zi3 (List.replicate N false),0⟩)],88⟩ rfl ?_ ?_
 ·simp
  refine ⟨by omega,?_⟩
  exact LeH [(48,48),(72,80)] []
 have hmf:=zoy (N:=N) (by omega)
 refine zaa ⟨112,[(1,ints f),(2,.pv (nC ⟨N,A⟩)),(5,.rs 48 0 N),(6,.rs 80 0 N)],[(48,some ⟨1,zah (List.replicate N 0),0⟩),(80,some ⟨1,zi3 (zbY N [0]),0⟩)],112⟩ rfl ?_ ?_
 ·have h0 : 0 < N:=by omega
  simp [h0,zar]
  exact Le.go [(48,48),(80,80)] [] rfl rfl (by simp) (by simp [← hmf])
 refine zaa ⟨112,[(1,ints f),(2,.pv (nC ⟨N,A⟩)),(5,.rs 48 0 N),(6,.rs 80 0 N),(7,.rs 120 0 1)],[(48,some ⟨1,zah (List.replicate N 0),0⟩),(80,some ⟨1,zi3 (zbY N [0]),0⟩),(120,some ⟨1,zah [0],0⟩)],136⟩ rfl ?_ ?_
 ·simp
  exact LeH [(48,48),(80,80),(112,120)] []
 refine zab ?_
 refine zaf ?_
 refine zao (ι:=BSt × Nat) (fun s=>⟨112,[(1,ints f),(2,.pv (nC ⟨N,A⟩)),(5,.rs 48 0 N),(6,.rs 80 0 N),(7,.rs 120 s.1.off s.1.q)],[(48,some ⟨1,zah s.1.b,0⟩),(80,some ⟨1,zi3 (zbY N s.1.D),0⟩),(120,some ⟨1,zah s.1.Z,0⟩)],136⟩)
  (fun s=>BInv N A f s.1 s.2 ∧ zfC A f s.1.D s.2) (fun s=>N - s.2) (⟨[0],List.replicate N 0,[0],0,1⟩,0)
  ⟨⟨Bfs.start (by omega),rfl,rfl,rfl⟩,fun s _ h=>by simp at h⟩ (LeH [(48,48),(80,80),(120,120)] []) ?_
 rintro ⟨s,m⟩ ⟨hb,hcl⟩
 simp only at hb hcl
 have hfew:=hb.bfs.few
 have hbd:=hb.d
 have hbz:=hb.z
 refine zab ?_
 refine rk (s:=?s6) [1,2,5,6,7,22] [48,80,120] rfl ?o6 ?q6
 case o6=>simp; rfl
 refine zac _ rfl (fun h7=>?_) fun h7=>?_
 ·simp at h7
  obtain ⟨hmD,hk⟩:=hb.head h7
  have hoff : s.off < s.Z.length:=by omega
  obtain ⟨k,hkd⟩ : ∃ k,k = s.D[m]:=⟨_,rfl⟩
  rw [← hkd] at hk
  have hkD : k ∈ s.D:=hkd ▸ List.getElem_mem hmD
  refine zae ?_
  refine zaf ?_
  refine rk (s:=?s8) [1,2,5,6,7,8] [48,80,120] rfl ?o8 ?q8
  case o8=>simp [hk,h7]; rfl
  refine zaa ⟨112,[(1,ints f),(2,.pv (nC ⟨N,A⟩)),(5,.rs 48 0 N),(6,.rs 80 0 N),(7,.rs 120 (s.off + 1) (s.q - 1)),(8,.I k)],[(48,some ⟨1,zah s.b,0⟩),(80,some ⟨1,zi3 (zbY N s.D),0⟩),(120,some ⟨1,zah s.Z,0⟩)],300⟩ rfl ?_ ?_
  ·simp
   refine zvu 1 (i:=120) rfl rfl h7 ?_
   simp
   exact LeH [(48,48),(80,80),(120,120)] []
  have hpop:=hb.pop h7
  refine rk (s:=?s10) [1,2,5,6,7,8,9] [48,80,120] rfl ?o10 ?q10
  case o10=>simp; rfl
  refine zaf ?_
  refine zao (ι:=BSt × Nat) (fun s=>⟨112,[(1,ints f),(2,.pv (nC ⟨N,A⟩)),(5,.rs 48 0 N),(6,.rs 80 0 N),(7,.rs 120 s.1.off s.1.q),(8,.I k),(9,.I s.2)],[(48,some ⟨1,zah s.1.b,0⟩),(80,some ⟨1,zi3 (zbY N s.1.D),0⟩),(120,some ⟨1,zah s.1.Z,0⟩)],400⟩)
   (fun t=>BInv N A f t.1 (m + 1) ∧ t.2 ≤ A.length ∧ zfv A f t.1.D k t.2 ∧ ∃ l,t.1.D = s.D ++ l) (fun t=>A.length - t.2) ({ s with off:=s.off + 1,q:=s.q - 1 },0)
   ⟨hpop,Nat.zero_le _,fun s h=>by omega,[],by simp⟩ (LeH [(48,48),(80,80),(120,120)] []) ?_
  rintro ⟨t,i⟩ ⟨ht,hi,htc,l,htl⟩
  simp only at ht hi htc htl
  refine zab ?_
  refine rk (s:=?s11) [1,2,5,6,7,8,9,32] [48,80,120] rfl ?o11 ?q11
  case o11=>simp; rfl
  refine zac _ rfl (fun h12=>?_) fun h12=>?_
  ·simp at h12
   have hif : i < f.length:=by omega
   have hw : IntKind.i64.wrap ((i : Int) + 1) = (i : Int) + 1:=w64 (by omega) (by omega)
   have hw2 : IntKind.i64.wrap (-((i : Int) + 1)) = -((i : Int) + 1):=w64 (by omega) (by omega)
   obtain ⟨e,he⟩ : ∃ e,e = A[i]:=⟨_,rfl⟩
   obtain ⟨v,hv⟩ : ∃ v,v = f[i]:=⟨_,rfl⟩
   have hfwd:=fun (D b : List Int)=>zuy (k:=k) (D:=D) (b:=b) h12 hif
   have hbwd:=fun (D b : List Int)=>zun (k:=k) (D:=D) (b:=b) h12 hif
   rw [← he,← hv] at hfwd hbwd
   have heo:=hav _ (List.getElem_mem h12)
   rw [← he] at heo
   obtain ⟨e1,e2,e3,e4,_⟩:=heo
   have hg1 : A[i]? = some e:=by rw [List.getElem?_eq_getElem h12,he]
   have hg2 : f[i]? = some v:=by rw [List.getElem?_eq_getElem hif,hv]
   have hkt : k ∈ t.D:=by rw [htl]; exact List.mem_append_left _ hkD
   refine zae ?_
   refine zaL (ι:=BSt) (fun u=>⟨112,[(1,ints f),(2,.pv (nC ⟨N,A⟩)),(5,.rs 48 0 N),(6,.rs 80 0 N),(7,.rs 120 u.off u.q),(8,.I k),(9,.I i)],[(48,some ⟨1,zah u.b,0⟩),(80,some ⟨1,zi3 (zbY N u.D),0⟩),(120,some ⟨1,zah u.Z,0⟩)],2000⟩)
    (fun u=>BInv N A f u (m + 1) ∧ zfv A f u.D k (i + 1) ∧ ∃ l,u.D = t.D ++ l) ?_ fun u hu=>?_
   ·refine zaf ?_
    refine zaa ⟨112,[(1,ints f),(2,.pv (nC ⟨N,A⟩)),(5,.rs 48 0 N),(6,.rs 80 0 N),(7,.rs 120 t.off t.q),(8,.I k),(9,.I i),(10,.pv (eC e))],[(48,some ⟨1,zah t.b,0⟩),(80,some ⟨1,zi3 (zbY N t.D),0⟩),(120,some ⟨1,zah t.Z,0⟩)],600⟩ rfl ?_ ?_
    ·simp [h12,← he]
     exact LeH [(48,48),(80,80),(120,120)] [480]
    refine zaL (ι:=BSt) (fun u=>⟨112,[(1,ints f),(2,.pv (nC ⟨N,A⟩)),(5,.rs 48 0 N),(6,.rs 80 0 N),(7,.rs 120 u.off u.q),(8,.I k),(9,.I i),(10,.pv (eC e))],[(48,some ⟨1,zah u.b,0⟩),(80,some ⟨1,zi3 (zbY N u.D),0⟩),(120,some ⟨1,zah u.Z,0⟩)],1000⟩)
     (fun u=>BInv N A f u (m + 1) ∧ (u.D,u.b) = tryS A f k (i,false) (t.D,t.b)) ?_ fun u hu=>?_
    ·have hmk : (zbY N t.D)[e.t.toNat]? = some (decide (e.t ∈ t.D)):=zgU e3 (by omega)
     have hlt : e.t.toNat < N:=by omega
     have hlt2 : e.t < (N : Int):=by omega
     refine zaq ⟨112,[(1,ints f),(2,.pv (nC ⟨N,A⟩)),(5,.rs 48 0 N),(6,.rs 80 0 N),(7,.rs 120 t.off t.q),(8,.I k),(9,.I i),(10,.pv (eC e)),(60,.B (decide (e.f = k ∧ v < e.v ∧ e.t ∉ t.D)))],[(48,some ⟨1,zah t.b,0⟩),(80,some ⟨1,zi3 (zbY N t.D),0⟩),(120,some ⟨1,zah t.Z,0⟩)],800⟩ rfl ?_ ?_
     ·by_cases hm : e.t ∈ t.D
      ·rw [decide_eq_true hm] at hmk
       simp
       repeat' first
        | (refine zb5 (fun hb=>?_) (fun hb=>?_) <;> (try rw [hb]) <;> (try simp at hb) <;> simp [hb,hmk,hg2,e3,hlt2,hif,← hv])
       all_goals exact ⟨rfl,Le.go [(48,48),(80,80),(120,120)] [] rfl rfl (by simp [hb,hm]) (by simp)⟩
      ·rw [decide_eq_false hm] at hmk
       simp
       repeat' first
        | (refine zb5 (fun hb=>?_) (fun hb=>?_) <;> (try rw [hb]) <;> (try simp at hb) <;> simp [hb,hmk,hg2,e3,hlt2,hif,← hv])
       all_goals exact ⟨rfl,Le.go [(48,48),(80,80),(120,120)] [] rfl rfl (by simp [hm]) (by simp)⟩
     refine zac _ rfl (fun h15=>?_) fun h15=>?_
     ·rw [decide_eq_true_eq] at h15
      have hs1:=hfwd t.D t.b
      rw [if_pos h15] at hs1
      have hbk : ∃ y,t.b[e.t.toNat]? = some y:=⟨_,List.getElem?_eq_getElem (by rw [ht.bfs.len]; omega)⟩
      obtain ⟨y,hy⟩:=hbk
      have hbl : e.t.toNat < t.b.length:=by rw [ht.bfs.len]; omega
      have hbt : ∀ g : Int → List AV,List.take t.q (List.drop t.off (List.map g t.Z)) = List.map g (t.Z.drop t.off):=fun g=>by rw [← List.map_drop,List.take_of_length_le (by have:=ht.z; simp; omega)]
      have htz:=ht.z
      have htd:=ht.d
      have hms:=ziL (D:=t.D) e3 hlt2
      have hbu : Bfs N A f (t.D ++ [e.t]) (t.b.set e.t.toNat ((i : Int) + 1)):=by
       have h3:=ztS (A:=A) (f:=f) (k:=k) (s:=(i,false)) (st:=(t.D,t.b)) ht.bfs hkt h12 (by unfold stT arcD; rw [List.getD_eq_getElem?_getD,hg1]; exact e3) (by unfold stT arcD; rw [List.getD_eq_getElem?_getD,hg1]; exact hlt2)
       rw [hs1] at h3
       exact h3
      have hfw:=hbu.few
      rw [List.length_append,List.length_singleton] at hfw
      refine zaq ⟨112,[(1,ints f),(2,.pv (nC ⟨N,A⟩)),(5,.rs 48 0 N),(6,.rs 80 0 N),(7,.rs 120 t.off t.q),(8,.I k),(9,.I i),(10,.pv (eC e))],[(48,some ⟨1,zah (t.b.set e.t.toNat ((i : Int) + 1)),0⟩),(80,some ⟨1,zi3 (zbY N (t.D ++ [e.t])),0⟩),(120,some ⟨1,zah t.Z,0⟩)],900⟩ rfl ?_ ?_
      ·simp [hmk,e3,hlt2,hw,hy,zar]
       exact ⟨rfl,Le.go [(48,48),(80,80),(120,120)] [] rfl rfl (by simp) (by simp [← hms,fcd])⟩
      refine zas rfl ?_
      simp [hbt]
      exact ⟨by omega,by omega,by omega,⟨t.D ++ [e.t],t.b.set e.t.toNat ((i : Int) + 1),t.Z.drop t.off ++ [e.t],0,t.q + 1⟩,⟨ht.more hbu,hs1.symm⟩,LeI [(48,48),(80,80),(932,120)] []⟩
     ·rw [decide_eq_false_iff_not] at h15
      have hs1:=hfwd t.D t.b
      rw [if_neg h15] at hs1
      refine zae ?_
      exact ⟨t,⟨ht,hs1.symm⟩,LeH [(48,48),(80,80),(120,120)] []⟩
    obtain ⟨hu1,hu2⟩:=hu
    have hku : k ∈ u.D:=by
     obtain ⟨l1,e1⟩:=zj2 (A:=A) (f:=f) (k:=k) (s:=(i,false)) (st:=(t.D,t.b))
     rw [← hu2] at e1
     simp only at e1
     rw [e1]
     exact List.mem_append_left _ hkt
    have hul : ∃ l,u.D = t.D ++ l:=by
     obtain ⟨l1,e1⟩:=zj2 (A:=A) (f:=f) (k:=k) (s:=(i,false)) (st:=(t.D,t.b))
     rw [← hu2] at e1
     exact ⟨l1,e1⟩
    have hcl2 : zfv A f (tryS A f k (i,true) (u.D,u.b)).1 k (i + 1):=by
     rw [hu2]
     exact zfv.try2 (st:=(t.D,t.b)) htc
    have hmk : (zbY N u.D)[e.f.toNat]? = some (decide (e.f ∈ u.D)):=zgU e1 (by omega)
    have hlt : e.f.toNat < N:=by omega
    have hlt2 : e.f < (N : Int):=by omega
    have hub:=hbwd u.D u.b
    refine zaa ⟨112,[(1,ints f),(2,.pv (nC ⟨N,A⟩)),(5,.rs 48 0 N),(6,.rs 80 0 N),(7,.rs 120 u.off u.q),(8,.I k),(9,.I i),(10,.pv (eC e)),(94,.B (decide (e.t = k ∧ 0 < v ∧ e.f ∉ u.D)))],[(48,some ⟨1,zah u.b,0⟩),(80,some ⟨1,zi3 (zbY N u.D),0⟩),(120,some ⟨1,zah u.Z,0⟩)],1200⟩ rfl ?_ ?_
    ·by_cases hm : e.f ∈ u.D
     ·rw [decide_eq_true hm] at hmk
      simp
      repeat' first
       | (refine zb5 (fun hb=>?_) (fun hb=>?_) <;> (try rw [hb]) <;> (try simp at hb) <;> simp [hb,hmk,hg2,e1,hlt2,hif,← hv])
      all_goals exact Le.go [(48,48),(80,80),(120,120)] [] rfl rfl (by simp [hb,hm]) (by simp)
     ·rw [decide_eq_false hm] at hmk
      simp
      repeat' first
       | (refine zb5 (fun hb=>?_) (fun hb=>?_) <;> (try rw [hb]) <;> (try simp at hb) <;> simp [hb,hmk,hg2,e1,hlt2,hif,← hv])
      all_goals exact Le.go [(48,48),(80,80),(120,120)] [] rfl rfl (by simp [hm]) (by simp)
    refine zac _ rfl (fun h15=>?_) fun h15=>?_
    ·rw [decide_eq_true_eq] at h15
     rw [if_pos h15] at hub
     obtain ⟨y,hy⟩ : ∃ y,u.b[e.f.toNat]? = some y:=⟨_,List.getElem?_eq_getElem (by rw [hu1.bfs.len]; omega)⟩
     have hbt : ∀ g : Int → List AV,List.take u.q (List.drop u.off (List.map g u.Z)) = List.map g (u.Z.drop u.off):=fun g=>by rw [← List.map_drop,List.take_of_length_le (by have:=hu1.z; simp; omega)]
     have htz:=hu1.z
     have htd:=hu1.d
     have hms:=ziL (D:=u.D) e1 hlt2
     have hbu : Bfs N A f (u.D ++ [e.f]) (u.b.set e.f.toNat (-((i : Int) + 1))):=by
      have h3:=ztS (A:=A) (f:=f) (k:=k) (s:=(i,true)) (st:=(u.D,u.b)) hu1.bfs hku h12 (by unfold stT arcD; rw [List.getD_eq_getElem?_getD,hg1]; exact e1) (by unfold stT arcD; rw [List.getD_eq_getElem?_getD,hg1]; exact hlt2)
      rw [hub] at h3
      exact h3
     have hfw:=hbu.few
     rw [List.length_append,List.length_singleton] at hfw
     refine zaq ⟨112,[(1,ints f),(2,.pv (nC ⟨N,A⟩)),(5,.rs 48 0 N),(6,.rs 80 0 N),(7,.rs 120 u.off u.q),(8,.I k),(9,.I i),(10,.pv (eC e))],[(48,some ⟨1,zah (u.b.set e.f.toNat (-((i : Int) + 1))),0⟩),(80,some ⟨1,zi3 (zbY N (u.D ++ [e.f])),0⟩),(120,some ⟨1,zah u.Z,0⟩)],1400⟩ rfl ?_ ?_
     ·simp [hmk,e1,hlt2,hw,hw2,hy,zar]
      exact ⟨rfl,Le.go [(48,48),(80,80),(120,120)] [] rfl rfl (by simp) (by simp [← hms,fcd])⟩
     refine zas rfl ?_
     simp [hbt]
     rw [hub] at hcl2
     refine ⟨by omega,by omega,by omega,⟨u.D ++ [e.f],u.b.set e.f.toNat (-((i : Int) + 1)),u.Z.drop u.off ++ [e.f],0,u.q + 1⟩,⟨hu1.more hbu,hcl2,?_⟩,LeI [(48,48),(80,80),(1432,120)] []⟩
     obtain ⟨l1,e1⟩:=hul
     exact ⟨l1 ++ [e.f],by simp only [e1,List.append_assoc]⟩
    ·rw [decide_eq_false_iff_not] at h15
     rw [if_neg h15] at hub
     rw [hub] at hcl2
     refine zae ?_
     exact ⟨u,⟨hu1,hcl2,hul⟩,LeH [(48,48),(80,80),(120,120)] []⟩
   obtain ⟨hu1,hu2,l2,hu3⟩:=hu
   refine zad (s:=?s30) rfl ?o30 ?q30
   case o30=>simp; rfl
   exact ⟨(u,i + 1),⟨hu1,h12,hu2,l ++ l2,by rw [hu3,htl,List.append_assoc]⟩,Nat.sub_lt_sub_left h12 (Nat.lt_succ_self i),Le.go [(48,48),(80,80),(120,120)] [] rfl rfl (by simp [hw]) (by simp)⟩
  simp at h12
  obtain rfl : i = A.length:=by omega
  refine zan ?_
  refine hit ?_
  rw [hkd] at htc
  refine ⟨(t,m + 1),⟨ht,zfC.next hmD hcl htc htl⟩,?_,LeH [(48,48),(80,80),(120,120)] []⟩
  simp only
  omega
 simp at h7
 have hmD : m = s.D.length:=by omega
 refine zan ?_
 refine hit ?_
 refine rk (s:=?s23) [4] [48] rfl ?o23 ?q23
 case o23=>simp; rfl
 refine zag ?_
 exact zgh.mk (.inr rfl) (s.D,s.b) ⟨hb.bfs,by rw [hmD] at hcl; exact hcl.all⟩ (zak.out [48] [] rfl (by simp) (by simp) (by simp) (by simp [fcd]))
theorem zok {α : Type} {l : List α} (h : l.Nodup) : l.reverse.Nodup:=List.pairwise_reverse.2 (h.imp fun hne e=>hne e.symm)
theorem zvB {v : Int} (hv : v ≠ 0) : encS (decS v) = v:=by
 unfold decS encS
 by_cases h : 0 < v
 ·rw [if_pos h]; simp; omega
 ·rw [if_neg h]; simp; omega
def endW (A : List Ed) (u : Int) (l : List Stp) : Nat → Int
 | 0=>u
 | j + 1=>stT A (l.getD j (0,false))
theorem zoa {A : List Ed} {u : Int} {s : Stp} {l : List Stp} (j : Nat) : endW A u (s :: l) (j + 1) = endW A (stT A s) l j:=by
 cases j <;> rfl
theorem zu1 {A : List Ed} : ∀ {l : List Stp} {u w : Int},WayS A u l w → ∀ j (hj : j < l.length),stF A l[j] = endW A u l j
 | s :: l,u,w,h,0,_=>h.2.1
 | s :: l,u,w,h,j + 1,hj=>by
   rw [zoa]
   exact zu1 h.2.2 j (by simpa using hj)
theorem zqH {A : List Ed} : ∀ {l : List Stp} {u w : Int},WayS A u l w → endW A u l l.length = w
 | [],u,w,h=>h
 | s :: l,u,w,h=>by
   rw [List.length_cons,zoa]
   exact zqH h.2.2
variable {N : Nat} {A : List Ed} {f D b : List Int}
structure zmf (N : Nat) (A : List Ed) (f b : List Int) (l : List Stp) : Prop where
 way : WayS A 0 l 1
 nodup : (l.map (·.1)).Nodup
 at_ : ∀ j (h : j < l.length),l[j].1 < A.length ∧ 0 < zbk A f l[j] ∧ stT A l[j] ≠ 0 ∧ 0 ≤ stT A l[j] ∧ stT A l[j] < N ∧ b.getD (stT A l[j]).toNat 0 = encS l[j]
theorem Bfs.chain (h : Bfs N A f D b) (h1 : (1 : Int) ∈ D) : ∃ l,zmf N A f b l:=by
 obtain ⟨j,hj,hx⟩:=List.mem_iff_getElem.1 h1
 obtain ⟨l,l1,l2,l3⟩:=h.tree.way j j hj (Nat.le_refl _)
 rw [hx] at l1
 refine ⟨l,l1,l2,fun i hi=>?_⟩
 obtain ⟨q1,q2,q3,q4,_,q5⟩:=l3 _ (List.getElem_mem hi)
 have hm:=List.mem_of_mem_take q5
 have hr:=h.rng _ hm
 have hne:=h.inn _ hm q4
 refine ⟨q1,q2,q4,hr.1,hr.2,?_⟩
 rw [← zvB hne,q3]
theorem zmf.from_ {l : List Stp} (h : zmf N A f b l) (j : Nat) (hj : j < l.length) : stF A l[j] = endW A 0 l j:=zu1 h.way j hj
def zd4 (v : Int) (f : List Int) (l : List Stp) (j : Nat) : List Int:=zhD v f (l.drop j).reverse
theorem zo4 (v : Int) (f : List Int) (l : List Stp) : zd4 v f l l.length = f:=by simp [zd4,zhD]
theorem zoJ (v : Int) (f : List Int) (l : List Stp) (j : Nat) : (zd4 v f l j).length = f.length:=zgo
theorem zmC {v : Int} {f : List Int} {l : List Stp} (j : Nat) (hj : j < l.length) : zd4 v f l j = zhg v (zd4 v f l (j + 1)) l[j]:=by
 unfold zd4 zhD
 rw [List.drop_eq_getElem_cons hj,List.reverse_cons,List.foldl_append]
 rfl
theorem zpu {v : Int} {l : List Stp} (hn : (l.map (·.1)).Nodup) (hr : ∀ s ∈ l,s.1 < f.length) (j : Nat) (hj : j < l.length) : (zd4 v f l (j + 1)).getD l[j].1 0 = f.getD l[j].1 0:=by
 refine (zf1 (δ:=v) (f:=f) (i:=l[j].1) (l:=(l.drop (j + 1)).reverse) ?_ ?_).1 ?_
 ·rw [List.map_reverse]
  refine zok ?_
  exact hn.sublist ((List.drop_sublist _ _).map _)
 ·intro s hs
  exact hr s (List.mem_of_mem_drop (List.mem_reverse.1 hs))
 ·rw [List.map_reverse,List.mem_reverse]
  intro hm
  obtain ⟨s,hs,he⟩:=List.mem_map.1 hm
  obtain ⟨i,hi,rfl⟩:=List.mem_iff_getElem.1 hs
  rw [List.length_drop] at hi
  rw [List.getElem_drop] at he
  have h1:=(List.pairwise_iff_getElem.1 hn) j (j + 1 + i) (by rw [List.length_map]; exact hj) (by rw [List.length_map]; omega) (by omega)
  rw [List.getElem_map,List.getElem_map] at h1
  exact h1 he.symm
theorem zsY {v : Int} {l : List Stp} (hn : (l.map (·.1)).Nodup) (hr : ∀ s ∈ l,s.1 < f.length) : zd4 v f l 0 = zhD v f l:=by
 unfold zd4
 rw [List.drop_zero]
 have hn' : (l.reverse.map (·.1)).Nodup:=by rw [List.map_reverse]; exact zok hn
 have hr' : ∀ s ∈ l.reverse,s.1 < f.length:=fun s hs=>hr s (List.mem_reverse.1 hs)
 apply List.ext_getElem (by rw [zgo,zgo])
 intro i h1 h2
 have e : ∀ (L : List Int) (h : i < L.length),L[i] = L.getD i 0:=fun L h=>by rw [List.getD_eq_getElem?_getD,List.getElem?_eq_getElem h,Option.getD_some]
 rw [e _ h1,e _ h2]
 have g1:=zf1 (δ:=v) (f:=f) (i:=i) hn' hr'
 have g2:=zf1 (δ:=v) (f:=f) (i:=i) hn hr
 by_cases hm : i ∈ l.map (·.1)
 ·obtain ⟨s,hs,rfl⟩:=List.mem_map.1 hm
  rw [g1.2 s.2 (List.mem_reverse.2 hs),g2.2 s.2 hs]
 ·rw [g1.1 (by rw [List.map_reverse,List.mem_reverse]; exact hm),g2.1 hm]
theorem zmf.push {l : List Stp} (hn : zen N A) (hf : zaA N A f) (h : zmf N A f b l) {v : Int} (h0 : 0 ≤ v) (hv : ∀ s ∈ l,v ≤ zbk A f s) : zaA N A (zd4 v f l 0) ∧ valF A (zd4 v f l 0) = valF A f + v:=by
 have hr : ∀ s ∈ l,s.1 < A.length:=fun s hs=>by
  obtain ⟨i,hi,rfl⟩:=List.mem_iff_getElem.1 hs
  exact (h.at_ i hi).1
 rw [zsY h.nodup fun s hs=>by rw [hf.fit.len]; exact hr s hs]
 exact zvI hn hf h0 h.way h.nodup fun s hs=>⟨hr s hs,hv s hs⟩
theorem zeE {A : List Ed} {N : Nat} (h : za5 ⟨N,A⟩) : zen N A:=by
 obtain ⟨h1,_,_,h4⟩:=h
 simp only at h1 h4
 refine ⟨by omega,fun e he=>?_⟩
 obtain ⟨q1,q2,q3,q4,q5,q6,q7,q8,_⟩:=h4 e he
 exact ⟨q1,by omega,q3,by omega,q5,q6,q7,q8⟩
theorem ztO {P Q : List (List Int)} (h : P.Perm Q) (k : Int) : begC P k = begC Q k:=h.countP_eq _
theorem ztv {P Q : List (List Int)} (h : P.Perm Q) (k : Int) : useC P k = useC Q k:=(h.flatMap_right _).count_eq k
theorem zum {P Q : List (List Int)} (h : P.Sublist Q) (k : Int) : begC P k ≤ begC Q k:=h.countP_le
theorem zuO {P Q : List (List Int)} (h : P.Sublist Q) (k : Int) : useC P k ≤ useC Q k:=by
 unfold useC
 induction h with
 | slnil=>exact Nat.le_refl _
 | cons a _ ih=>rw [List.flatMap_cons,List.count_append]; omega
 | cons_cons a _ ih=>rw [List.flatMap_cons,List.flatMap_cons,List.count_append,List.count_append]; omega
theorem znc.perm {c : List Int} {P Q : List (List Int)} (h : znc c P) (hp : P.Perm Q) : znc c Q:=fun k hk=>by
 rw [← ztO hp,← ztv hp]
 exact h k hk
theorem znc.sub {c : List Int} {P Q : List (List Int)} (h : znc c Q) (hs : P.Sublist Q) : znc c P:=fun k hk=>by
 have h1:=h k hk
 have h2:=zum hs k
 have h3:=zuO hs k
 omega
theorem zsf {P Q : List (List Int)} (h : P.Perm Q) : (ziV P).Perm (ziV Q):=h.filterMap _
theorem ziA.perm {g : Gr} {lv : Int} {seeds order c : List Int} {P Q : List (List Int)} {ends ends' : List Int} (h : ziA g lv seeds order c P ends) (hp : P.Perm Q) (he : ends.Perm ends') : ziA g lv seeds order c Q ends' :=
 ⟨fun w hw=>h.1 w (hp.mem_iff.2 hw),h.2.1.perm hp,zgV.2 (((zsf hp).symm.trans (zgV.1 h.2.2)).trans he)⟩
theorem zid {N : Nat} {A : List Ed} (hn : zen N A) : zaA N A (A.map fun _=>0):=by
 have hs : ∀ (φ : Ed → Int → Int),(∀ e,φ e 0 = 0) → ∀ A : List Ed,sumF φ A (A.map fun _=>0) = 0:=by
  intro φ hφ A
  induction A with
  | nil=>simp [sumF]
  | cons e A ih=>simp only [List.map_cons,sumF]; rw [hφ,ih]; omega
 refine ⟨?_,fun x _ _=>?_⟩
 ·have h0 : ∀ B : List Ed,(∀ e ∈ B,0 ≤ e.v) → Fit2 B (B.map fun _=>0):=by
   intro B
   induction B with
   | nil=>intro _; exact True.intro
   | cons e B ih=>intro h; exact ⟨⟨Int.le_refl _,h e (List.mem_cons_self ..)⟩,ih fun x hx=>h x (List.mem_cons_of_mem _ hx)⟩
  exact h0 A fun e he=>(hn.arc e he).2.2.2.2.2.2.2
 ·unfold outF inF
  rw [hs _ fun e=>by split <;> rfl,hs _ fun e=>by split <;> rfl]
theorem zfG {N : Nat} {A : List Ed} (hn : zen N A) : ∃ f,zaA N A f ∧ ∀ f',zaA N A f' → valF A f' ≤ valF A f:=by
 have hb : ∀ f,zaA N A f → valF A f ≤ capS (fun x=>decide (x = 0)) A:=fun f hf=>zec hn hf (by simp) (by simp)
 have key : ∀ (n : Nat) (f : List Int),zaA N A f → capS (fun x=>decide (x = 0)) A - valF A f ≤ n → ∃ f,zaA N A f ∧ ∀ f',zaA N A f' → valF A f' ≤ valF A f:=by
  intro n
  induction n with
  | zero =>
    intro f hf h
    exact ⟨f,hf,fun f' hf'=>by have:=hb f' hf'; omega⟩
  | succ n ih =>
    intro f hf h
    by_cases hm : ∀ f',zaA N A f' → valF A f' ≤ valF A f
    ·exact ⟨f,hf,hm⟩
    ·obtain ⟨f',hf'⟩:=Classical.not_forall.1 hm
     obtain ⟨h1,h2⟩:=Classical.not_imp.1 hf'
     exact ih f' h1 (by omega)
 exact key _ _ (zid hn) (Int.self_le_toNat _)
noncomputable def maxF (N : Nat) (A : List Ed) : Int:=open Classical in if h : ∃ f,zaA N A f ∧ ∀ f',zaA N A f' → valF A f' ≤ valF A f then valF A h.choose else 0
theorem zgi {N : Nat} {A : List Ed} {f : List Int} (hf : zaA N A f) (hm : ∀ f',zaA N A f' → valF A f' ≤ valF A f) : maxF N A = valF A f:=by
 have h : ∃ f,zaA N A f ∧ ∀ f',zaA N A f' → valF A f' ≤ valF A f:=⟨f,hf,hm⟩
 unfold maxF
 rw [dif_pos h]
 have h1:=h.choose_spec
 have h2:=hm _ h1.1
 have h3:=h1.2 _ hf
 omega
theorem zto {N : Nat} {A : List Ed} (hn : zen N A) {f : List Int} (hf : zaA N A f) : valF A f ≤ maxF N A:=by
 obtain ⟨m,h1,h2⟩:=zfG hn
 rw [zgi h1 h2]
 exact h2 f hf
theorem zrg {N : Nat} {A : List Ed} (hn : zen N A) : ∃ f,zaA N A f ∧ valF A f = maxF N A:=by
 obtain ⟨m,h1,h2⟩:=zfG hn
 exact ⟨m,h1,(zgi h1 h2).symm⟩
structure MSt where
 j : Nat
 v : Int
def znL (A : List Ed) (f : List Int) (l : List Stp) (j : Nat) (v : Int) : Prop:=∀ t ∈ l.drop j,v ≤ zbk A f t
set_option maxRecDepth 100000 in
set_option maxHeartbeats 4000000 in
theorem zwB (N : Nat) (A : List Ed) (hn : za5 ⟨N,A⟩) :
  ∃ f : List Int,(zaA N A f ∧ ∀ f',zaA N A f' → valF A f' ≤ valF A f) ∧ zai Tryz.prog zgP [eN ⟨N,A⟩] [] (.tup [.rs 0 0 A.length,.I 0]) [some ⟨1,zah f,0⟩]:=by
 refine zsi.acallsX (args:=[eN ⟨N,A⟩]) (hs:=[]) (fun f=>.tup [.rs 0 0 A.length,.I 0]) (fun f=>[some ⟨1,zah f,0⟩]) (fun f : List Int=>zaA N A f ∧ ∀ f',zaA N A f' → valF A f' ≤ valF A f) (nbz rfl) (nbz rfl) (fun _=>by simp) ?_
 show awp _ 0 _ _ ⟨112,[(0,eN ⟨N,A⟩)],[],16⟩
 have hno:=zeE hn
 have hchk:=zdF ⟨N,A⟩ (by have:=hn.2.2.1; simp only at this ⊢; omega)
 rw [if_pos hn] at hchk
 have hres:=fun f hf=>zmt N A f hn hf
 obtain ⟨hn0,hn1,hal,hav⟩:=hn
 simp only at hn0 hn1 hal hav
 refine rx (s:=?s1) [1] [] [16] rfl ?o1 ?q1
 case o1=>simp; rfl
 refine zab ?_
 refine rx (s:=?s2) [1,13] [] [] rfl ?o2 ?q2
 case o2=>simp; refine zaj hchk (by simp) ?_; simp; rfl
 refine zac _ rfl (fun h3=>by cases h3) fun h3=>?_
 refine zae ?_
 refine zaa ⟨112,[(1,.pv (nC ⟨N,A⟩)),(4,.rs 88 0 A.length)],[(88,some ⟨1,zah (A.map fun _=>0),0⟩)],104⟩ rfl ?_ ?_
 ·simp
  refine ⟨by omega,by omega,?_⟩
  exact Le.go [(88,88)] [] rfl rfl (by simp) (by simp [List.map_const',fcd])
 refine zaf ?_
 refine zao (ι:=List Int) (fun f=>⟨112,[(1,.pv (nC ⟨N,A⟩)),(4,.rs 88 0 A.length)],[(88,some ⟨1,zah f,0⟩)],104⟩) (fun f=>zaA N A f) (fun f=>(capS (fun x=>decide (x = 0)) A - valF A f).toNat) (A.map fun _=>0) (zid hno) (LeI [(88,88)] []) ?_
 intro f hf
 have hfl:=hf.fit.len
 obtain ⟨⟨D,b⟩,⟨hb,hcl⟩,hcall⟩:=hres f hfl
 simp only at hb hcl hcall
 have hblen:=hb.len
 have htake : ∀ g : Int → List AV,List.take A.length (List.map g f) = List.map g f:=fun g=>List.take_of_length_le (by simp; omega)
 refine zaf ?_
 refine zaa ⟨112,[(1,.pv (nC ⟨N,A⟩)),(4,.rs 88 0 A.length),(5,.rs 90 0 N)],[(88,some ⟨1,zah f,0⟩),(90,some ⟨1,zah b,0⟩)],200⟩ rfl ?_ ?_
 ·simp
  refine ziE [88] hcall (by simp [fcd,htake,hfl]) (.rs _ _ _) zro ?_
  simp
  exact LeI [(88,88),(120,90)] []
 obtain ⟨y1,hy1⟩ : ∃ y,y = b.getD 1 0:=⟨_,rfl⟩
 have hb1 : b[1]? = some y1:=by rw [hy1,List.getD_eq_getElem?_getD,List.getElem?_eq_getElem (by omega),Option.getD_some]
 refine zab ?_
 refine zaa ⟨112,[(1,.pv (nC ⟨N,A⟩)),(4,.rs 88 0 A.length),(5,.rs 90 0 N),(24,.B (y1 == 0))],[(88,some ⟨1,zah f,0⟩),(90,some ⟨1,zah b,0⟩)],300⟩ rfl ?_ ?_
 ·have h1N : (1 : Int) < N:=by omega
  simp [hb1,h1N]
  exact LeI [(88,88),(90,90)] []
 have hcode : ∀ k : Nat,k < N → b[k]? = some (b.getD k 0):=fun k hk=>by rw [List.getD_eq_getElem?_getD,List.getElem?_eq_getElem (by omega),Option.getD_some]
 refine zac _ rfl (fun h8=>?_) fun h8=>?_
 ·simp at h8
  refine zaa ⟨112,[(2,.rs 88 0 A.length),(3,.I 0)],[(88,some ⟨1,zah f,0⟩)],400⟩ rfl ?_ ?_
  ·simp
   exact LeI [(88,88)] []
  have h1D : (1 : Int) ∉ D:=fun hm=>by
   have h2:=hb.inn 1 hm (by decide)
   exact h2 (by rw [show b.getD (Int.toNat 1) 0 = y1 from hy1.symm,h8])
  refine zag ?_
  exact zgh.mk (.inr rfl) f ⟨hf,(zgI hno hf hb.mem0 h1D hcl).2⟩ (zak.out [88] [] rfl (by simp) (by simp) (by simp) (by simp [fcd]))
 simp at h8
 have h1D : (1 : Int) ∈ D:=Decidable.byContradiction fun hm=>h8 (by rw [hy1]; exact hb.out 1 (by decide) hm)
 obtain ⟨l,hl⟩:=hb.chain h1D
 have hle:=zqH hl.way
 have hfit:=zc0.1 hf.fit
 have hlr : ∀ s ∈ l,s.1 < f.length:=fun s hs=>by
  obtain ⟨i,hi,rfl⟩:=List.mem_iff_getElem.1 hs
  have:=(hl.at_ i hi).1
  omega
 have hl0 : 0 < l.length:=by
  cases hll : l with
  | nil=>rw [hll] at hle; cases hle
  | cons=>simp
 refine zae ?_
 refine zaa ⟨112,[(1,.pv (nC ⟨N,A⟩)),(4,.rs 88 0 A.length),(5,.rs 90 0 N),(6,.I 1048576)],[(88,some ⟨1,zah f,0⟩),(90,some ⟨1,zah b,0⟩)],400⟩ rfl ?_ ?_
 ·simp
  exact LeI [(88,88),(90,90)] []
 refine zaL (ι:=Int) (fun v=>⟨112,[(1,.pv (nC ⟨N,A⟩)),(4,.rs 88 0 A.length),(5,.rs 90 0 N),(6,.I v)],[(88,some ⟨1,zah f,0⟩),(90,some ⟨1,zah b,0⟩)],600⟩) (fun v=>1 ≤ v ∧ v ≤ 1048576 ∧ znL A f l 0 v) ?_ fun v hv=>?_
 ·refine zaa ⟨112,[(1,.pv (nC ⟨N,A⟩)),(4,.rs 88 0 A.length),(5,.rs 90 0 N),(6,.I 1048576),(7,.I 1)],[(88,some ⟨1,zah f,0⟩),(90,some ⟨1,zah b,0⟩)],500⟩ rfl ?_ ?_
  ·simp
   exact LeI [(88,88),(90,90)] []
  refine zaf ?_
  refine zao (ι:=MSt) (fun s=>⟨112,[(1,.pv (nC ⟨N,A⟩)),(4,.rs 88 0 A.length),(5,.rs 90 0 N),(6,.I s.v),(7,.I (endW A 0 l s.j))],[(88,some ⟨1,zah f,0⟩),(90,some ⟨1,zah b,0⟩)],600⟩)
   (fun s=>s.j ≤ l.length ∧ 1 ≤ s.v ∧ s.v ≤ 1048576 ∧ znL A f l s.j s.v) (fun s=>s.j) ⟨l.length,1048576⟩ ⟨Nat.le_refl _,by simp,by simp,by simp [znL]⟩ (Le.go [(88,88),(90,90)] [] rfl rfl (by simp [hle]) (by simp [fcd])) ?_
  rintro ⟨j,v⟩ ⟨hj,hv1,hv2,hv3⟩
  simp only at hj hv1 hv2 hv3
  refine zab ?_
  refine rk (s:=?s12) [1,4,5,6,7,27] [88,90] rfl ?o12 ?q12
  case o12=>simp; rfl
  refine zac _ rfl (fun h13=>?_) fun h13=>?_
  ·simp at h13
   obtain ⟨i,rfl⟩ : ∃ i,j = i + 1:=by
    cases j with
    | zero=>exact absurd rfl h13
    | succ i=>exact ⟨i,rfl⟩
   have hi : i < l.length:=by omega
   obtain ⟨q1,q2,q3,q4,q5,q6⟩:=hl.at_ i hi
   have hfr:=hl.from_ i hi
   obtain ⟨s,hs⟩ : ∃ s,s = l[i]:=⟨_,rfl⟩
   have hk : endW A 0 l (i + 1) = stT A s:=by
    show stT A (l.getD i (0,false)) = _
    rw [List.getD_eq_getElem?_getD,List.getElem?_eq_getElem hi,hs]
    rfl
   have hvn : ∀ v' : Int,v' ≤ v → v' ≤ zbk A f s → znL A f l i v':=fun v' h1 h2 t ht=>by
    rw [List.drop_eq_getElem_cons hi,← hs] at ht
    rcases List.mem_cons.1 ht with rfl | ht
    ·exact h2
    ·exact Int.le_trans h1 (hv3 t ht)
   rw [← hs] at q1 q2 q3 q4 q5 q6 hfr
   rw [hk]
   obtain ⟨k,hkd⟩ : ∃ k,k = stT A s:=⟨_,rfl⟩
   rw [← hkd] at q4 q5 q6 ⊢
   have hbk:=hcode k.toNat (by omega)
   obtain ⟨x,hx⟩ : ∃ x,x = encS s:=⟨_,rfl⟩
   rw [q6,← hx] at hbk
   refine zae ?_
   refine zaf ?_
   refine rk (s:=?s14) [1,4,5,6,8] [88,90] rfl ?o14 ?q14
   case o14=>simp [hbk,q4,q5]; rfl
   have hfa:=hfit.2 s.1 q1
   have heo:=hav _ (zd0 q1)
   obtain ⟨e,he⟩ : ∃ e,e = arcD A s.1:=⟨_,rfl⟩
   obtain ⟨w,hw⟩ : ∃ w,w = f.getD s.1 0:=⟨_,rfl⟩
   have hg1 : A[s.1]? = some e:=by rw [he]; unfold arcD; rw [List.getD_eq_getElem?_getD,List.getElem?_eq_getElem q1,Option.getD_some]
   have hg2 : f[s.1]? = some w:=by rw [hw,List.getD_eq_getElem?_getD,List.getElem?_eq_getElem (by omega),Option.getD_some]
   rw [← he,← hw] at hfa
   rw [← he] at heo
   obtain ⟨e1,e2,e3,e4,e5,e6,e7,e8,e9⟩:=heo
   obtain ⟨a,c⟩:=s
   simp only at q1 hg1 hg2 he hw
   have hal' : a < A.length:=q1
   have ha0 : (0 : Int) ≤ a ∧ (a : Int) < A.length:=by omega
   have hafl : a < f.length:=by omega
   have hAe : A[a] = e:=by rw [List.getElem?_eq_getElem hal'] at hg1; exact Option.some.inj hg1
   have hfw : f[a] = w:=by rw [List.getElem?_eq_getElem hafl] at hg2; exact Option.some.inj hg2
   cases c with
   | false =>
     have hen : encS (a,false) = (a : Int) + 1:=rfl
     have hro : zbk A f (a,false) = e.v - w:=by unfold zbk; simp [he,hw]
     have hst : stF A (a,false) = e.f:=by unfold stF; simp [he]
     rw [hen] at hx
     rw [hst] at hfr
     rw [hro] at q2 hvn
     have hw1 : IntKind.i64.wrap (x - 1) = (a : Int):=by rw [w64 (by omega) (by omega)]; omega
     have hw2 : IntKind.i64.wrap (e.v - w) = e.v - w:=w64 (by omega) (by omega)
     refine rk (s:=?s15) [1,4,5,6,8,33] [88,90] rfl ?o15 ?q15
     case o15=>simp; rfl
     refine zac _ rfl (fun h16=>?_) fun h16=>?_
     ·refine zbF rfl ?_
      simp [hw1,hw2,ha0,hal',hafl,hAe,hfw]
      refine ⟨rfl,⟨i,if e.v - w < v then e.v - w else v⟩,⟨by simp only; omega,by simp only; split <;> omega,by simp only; split <;> omega,hvn (if e.v - w < v then e.v - w else v) (by split <;> omega) (by split <;> omega)⟩,Nat.lt_succ_self i,Le.go [(88,88),(90,90)] [] rfl rfl (by simp [hfr]) (by simp [fcd])⟩
     ·simp at h16
      omega
   | true =>
     have hen : encS (a,true) = -((a : Int) + 1):=rfl
     have hro : zbk A f (a,true) = w:=by unfold zbk; simp [hw]
     have hst : stF A (a,true) = e.t:=by unfold stF; simp [he]
     rw [hen] at hx
     rw [hst] at hfr
     rw [hro] at q2 hvn
     have hw0 : IntKind.i64.wrap (-x) = (a : Int) + 1:=by rw [w64 (by omega) (by omega)]; omega
     have hw1 : IntKind.i64.wrap (a : Int) = (a : Int):=w64 (by omega) (by omega)
     refine rk (s:=?s25) [1,4,5,6,8,33] [88,90] rfl ?o25 ?q25
     case o25=>simp; rfl
     refine zac _ rfl (fun h16=>?_) fun h16=>?_
     ·simp at h16
      omega
     ·refine zbF rfl ?_
      simp [hw0,hw1,ha0,hal',hafl,hAe,hfw]
      refine ⟨rfl,⟨i,if w < v then w else v⟩,⟨by simp only; omega,by simp only; split <;> omega,by simp only; split <;> omega,hvn (if w < v then w else v) (by split <;> omega) (by split <;> omega)⟩,Nat.lt_succ_self i,Le.go [(88,88),(90,90)] [] rfl rfl (by simp [hfr]) (by simp [fcd])⟩
  simp at h13
  obtain rfl : j = 0:=by
   cases j with
   | zero=>rfl
   | succ i =>
     have h2:=(hl.at_ i (by omega)).2.2.1
     refine absurd ?_ h2
     have h3 : endW A 0 l (i + 1) = stT A (l.getD i (0,false)):=rfl
     rw [h3,List.getD_eq_getElem?_getD,List.getElem?_eq_getElem (by omega)] at h13
     exact h13
  refine zan ?_
  refine hit ?_
  exact ⟨v,⟨hv1,hv2,hv3⟩,LeI [(88,88),(90,90)] []⟩
 obtain ⟨hv1,hv2,hv3⟩:=hv
 have hv3' : ∀ s ∈ l,v ≤ zbk A f s:=fun s hs=>hv3 s (by simpa using hs)
 obtain ⟨hf2,hval⟩:=hl.push hno hf (by omega) hv3'
 have hbnd:=zec (S:=fun x=>decide (x = 0)) hno hf2 (by simp) (by simp)
 refine zaa ⟨112,[(1,.pv (nC ⟨N,A⟩)),(4,.rs 88 0 A.length),(5,.rs 90 0 N),(6,.I v),(9,.I 1)],[(88,some ⟨1,zah f,0⟩),(90,some ⟨1,zah b,0⟩)],700⟩ rfl ?_ ?_
 ·simp
  exact LeI [(88,88),(90,90)] []
 refine zaf ?_
 refine zao (ι:=Nat) (fun j=>⟨112,[(1,.pv (nC ⟨N,A⟩)),(4,.rs 88 0 A.length),(5,.rs 90 0 N),(6,.I v),(9,.I (endW A 0 l j))],[(88,some ⟨1,zah (zd4 v f l j),0⟩),(90,some ⟨1,zah b,0⟩)],800⟩)
  (fun j=>j ≤ l.length) (fun j=>j) l.length (Nat.le_refl _) (Le.go [(88,88),(90,90)] [] rfl rfl (by simp [hle]) (by simp [fcd,zo4])) ?_
 intro j hj
 refine zab ?_
 refine zaa ⟨112,[(1,.pv (nC ⟨N,A⟩)),(4,.rs 88 0 A.length),(5,.rs 90 0 N),(6,.I v),(9,.I (endW A 0 l j)),(73,.B (!decide (endW A 0 l j = 0)))],[(88,some ⟨1,zah (zd4 v f l j),0⟩),(90,some ⟨1,zah b,0⟩)],900⟩ rfl ?_ ?_
 ·simp
  exact Le.go [(88,88),(90,90)] [] rfl rfl (by simp <;> exact wkB (by rw [Bool.eq_iff_iff]; simp)) (by simp [fcd])
 refine zac _ rfl (fun h19=>?_) fun h19=>?_
 ·simp at h19
  obtain ⟨i,rfl⟩ : ∃ i,j = i + 1:=by
   cases j with
   | zero=>exact absurd rfl h19
   | succ i=>exact ⟨i,rfl⟩
  have hi : i < l.length:=by omega
  obtain ⟨q1,q2,q3,q4,q5,q6⟩:=hl.at_ i hi
  have hfr:=hl.from_ i hi
  have hstep:=zmC (v:=v) (f:=f) i hi
  have hget:=zpu (v:=v) hl.nodup hlr i hi
  have hroom:=hv3' _ (List.getElem_mem hi)
  obtain ⟨s,hs⟩ : ∃ s,s = l[i]:=⟨_,rfl⟩
  have hk : endW A 0 l (i + 1) = stT A s:=by
   show stT A (l.getD i (0,false)) = _
   rw [List.getD_eq_getElem?_getD,List.getElem?_eq_getElem hi,hs]
   rfl
  rw [← hs] at q1 q2 q3 q4 q5 q6 hfr hstep hget hroom
  rw [hk]
  obtain ⟨k,hkd⟩ : ∃ k,k = stT A s:=⟨_,rfl⟩
  rw [← hkd] at q4 q5 q6 ⊢
  have hbk:=hcode k.toNat (by omega)
  obtain ⟨x,hx⟩ : ∃ x,x = encS s:=⟨_,rfl⟩
  rw [q6,← hx] at hbk
  have hFl : (zd4 v f l (i + 1)).length = A.length:=by rw [zoJ,hfl]
  obtain ⟨F,hF⟩ : ∃ F,F = zd4 v f l (i + 1):=⟨_,rfl⟩
  rw [← hF] at hFl hget hstep ⊢
  have hfa:=hfit.2 s.1 q1
  have heo:=hav _ (zd0 q1)
  obtain ⟨e,he⟩ : ∃ e,e = arcD A s.1:=⟨_,rfl⟩
  obtain ⟨w,hw⟩ : ∃ w,w = f.getD s.1 0:=⟨_,rfl⟩
  have hg1 : A[s.1]? = some e:=by rw [he]; unfold arcD; rw [List.getD_eq_getElem?_getD,List.getElem?_eq_getElem q1,Option.getD_some]
  have hg2 : F[s.1]? = some w:=by rw [hw,← hget,List.getD_eq_getElem?_getD,List.getElem?_eq_getElem (by omega),Option.getD_some]
  rw [← he,← hw] at hfa
  rw [← he] at heo
  obtain ⟨e1,e2,e3,e4,e5,e6,e7,e8,e9⟩:=heo
  obtain ⟨a,c⟩:=s
  simp only at q1 hg1 hg2 he hw
  have hal' : a < A.length:=q1
  have ha0 : (0 : Int) ≤ a ∧ (a : Int) < A.length:=by omega
  have hafl : a < F.length:=by omega
  have hAe : A[a] = e:=by rw [List.getElem?_eq_getElem hal'] at hg1; exact Option.some.inj hg1
  have hfw : F[a] = w:=by rw [List.getElem?_eq_getElem hafl] at hg2; exact Option.some.inj hg2
  have hset : zd4 v f l i = F.set a (w + if c then -v else v):=by rw [hstep]; unfold zhg; simp only [hget]; rw [hw]
  refine zae ?_
  refine zaf ?_
  refine zaa ⟨112,[(1,.pv (nC ⟨N,A⟩)),(4,.rs 88 0 A.length),(5,.rs 90 0 N),(6,.I v),(10,.I x)],[(88,some ⟨1,zah F,0⟩),(90,some ⟨1,zah b,0⟩)],1000⟩ rfl ?_ ?_
  ·simp [hbk,q4,q5]
   exact LeI [(88,88),(90,90)] []
  refine zaa ⟨112,[(1,.pv (nC ⟨N,A⟩)),(4,.rs 88 0 A.length),(5,.rs 90 0 N),(6,.I v),(10,.I x),(79,.B (decide (0 < x)))],[(88,some ⟨1,zah F,0⟩),(90,some ⟨1,zah b,0⟩)],1100⟩ rfl ?_ ?_
  ·simp
   exact LeI [(88,88),(90,90)] []
  cases c with
  | false =>
    have hen : encS (a,false) = (a : Int) + 1:=rfl
    have hro : zbk A f (a,false) = e.v - w:=by unfold zbk; simp [he,hw]
    have hst : stF A (a,false) = e.f:=by unfold stF; simp [he]
    rw [hen] at hx
    rw [hst] at hfr
    rw [hro] at hroom
    have hw1 : IntKind.i64.wrap (x - 1) = (a : Int):=by rw [w64 (by omega) (by omega)]; omega
    have hw2 : IntKind.i64.wrap (w + v) = w + v:=w64 (by omega) (by omega)
    refine zac _ rfl (fun h16=>?_) fun h16=>?_
    ·refine zaa ⟨112,[(1,.pv (nC ⟨N,A⟩)),(4,.rs 88 0 A.length),(5,.rs 90 0 N),(6,.I v),(10,.I x)],[(88,some ⟨1,zah (F.set a (w + v)),0⟩),(90,some ⟨1,zah b,0⟩)],1300⟩ rfl ?_ ?_
     ·simp [hw1,hw2,ha0,hal',hafl,hAe,hfw,zar]
      exact LeI [(88,88),(90,90)] []
     refine zas rfl ?_
     simp [hw1,ha0,hal',hAe]
     exact ⟨i,by omega,by omega,Le.go [(88,88),(90,90)] [] rfl rfl (by simp [hfr]) (by simp [fcd,hset])⟩
    ·simp at h16
     omega
  | true =>
    have hen : encS (a,true) = -((a : Int) + 1):=rfl
    have hro : zbk A f (a,true) = w:=by unfold zbk; simp [hw]
    have hst : stF A (a,true) = e.t:=by unfold stF; simp [he]
    rw [hen] at hx
    rw [hst] at hfr
    rw [hro] at hroom
    have hw0 : IntKind.i64.wrap (-x) = (a : Int) + 1:=by rw [w64 (by omega) (by omega)]; omega
    have hw1 : IntKind.i64.wrap (a : Int) = (a : Int):=w64 (by omega) (by omega)
    have hw2 : IntKind.i64.wrap (w - v) = w + -v:=by rw [w64 (by omega) (by omega)]; omega
    refine zac _ rfl (fun h16=>?_) fun h16=>?_
    ·simp at h16
     omega
    ·refine zaa ⟨112,[(1,.pv (nC ⟨N,A⟩)),(4,.rs 88 0 A.length),(5,.rs 90 0 N),(6,.I v),(10,.I x)],[(88,some ⟨1,zah (F.set a (w + -v)),0⟩),(90,some ⟨1,zah b,0⟩)],1300⟩ rfl ?_ ?_
     ·simp [hw0,hw1,hw2,ha0,hal',hafl,hAe,hfw,zar]
      exact LeI [(88,88),(90,90)] []
     refine zas rfl ?_
     simp [hw0,hw1,ha0,hal',hAe]
     exact ⟨i,by omega,by omega,Le.go [(88,88),(90,90)] [] rfl rfl (by simp [hfr]) (by simp [fcd,hset])⟩
 simp at h19
 obtain rfl : j = 0:=by
  cases j with
  | zero=>rfl
  | succ i =>
    have h2:=(hl.at_ i (by omega)).2.2.1
    refine absurd ?_ h2
    have h3 : endW A 0 l (i + 1) = stT A (l.getD i (0,false)):=rfl
    rw [h3,List.getD_eq_getElem?_getD,List.getElem?_eq_getElem (by omega)] at h19
    exact h19
 refine zan ?_
 refine hit ?_
 exact ⟨zd4 v f l 0,hf2,by rw [hval]; omega,LeI [(88,88)] []⟩
theorem zhW {φ : Ed → Int → Int} : ∀ {A : List Ed} {f : List Int} (i : Nat) (h1 : i < A.length) (h2 : i < f.length),sumF φ (A.take (i + 1)) (f.take (i + 1)) = sumF φ (A.take i) (f.take i) + φ A[i] f[i]
 | e :: A,v :: f,0,_,_=>by simp [sumF]
 | e :: A,v :: f,i + 1,h1,h2=>by
   have:=zhW (φ:=φ) (A:=A) (f:=f) i (by simpa using h1) (by simpa using h2)
   simp only [List.take_succ_cons,sumF,this,List.getElem_cons_succ]
   omega
def netG (A : List Ed) (f : List Int) (i : Nat) (x : Int) : Int:=inF (A.take i) (f.take i) x - outF (A.take i) (f.take i) x
variable {N : Nat} {A : List Ed} {f : List Int}
theorem zf0 (x : Int) : netG A f 0 x = 0:=by simp [netG,inF,outF,sumF]
theorem zga {i : Nat} (h1 : i < A.length) (h2 : i < f.length) (x : Int) : netG A f (i + 1) x = netG A f i x + (if A[i].t = x then f[i] else 0) - if A[i].f = x then f[i] else 0:=by
 unfold netG inF outF
 rw [zhW i h1 h2,zhW i h1 h2]
 omega
theorem znm (hl : f.length = A.length) (x : Int) : netG A f A.length x = - exF A f x:=by
 unfold netG exF
 rw [List.take_of_length_le (Nat.le_refl _),List.take_of_length_le (by omega)]
 omega
theorem ziU (hl : f.length = A.length) (hb : ∀ j (h : j < f.length),0 ≤ f[j] ∧ f[j] ≤ 1048576) (x : Int) : ∀ i,i ≤ A.length → -(1048576 * (i : Int)) ≤ netG A f i x ∧ netG A f i x ≤ 1048576 * (i : Int)
 | 0,_=>by rw [zf0]; omega
 | i + 1,h=>by
   have ih:=ziU hl hb x i (by omega)
   have h2:=hb i (by omega)
   rw [zga (by omega) (by omega)]
   split <;> split <;> omega
theorem zoz {i : Nat} (h1 : i < A.length) (h2 : i < f.length) (x : Int) : outF (A.take (i + 1)) (f.take (i + 1)) x = outF (A.take i) (f.take i) x + if A[i].f = x then f[i] else 0:=by
 unfold outF
 rw [zhW i h1 h2]
theorem zmn (hl : f.length = A.length) (hb : ∀ j (h : j < f.length),0 ≤ f[j] ∧ f[j] ≤ 1048576) (x : Int) : ∀ i,i ≤ A.length → 0 ≤ outF (A.take i) (f.take i) x ∧ outF (A.take i) (f.take i) x ≤ 1048576 * (i : Int)
 | 0,_=>by simp [outF,sumF]
 | i + 1,h=>by
   have ih:=zmn hl hb x i (by omega)
   have h2:=hb i (by omega)
   rw [zoz (by omega) (by omega)]
   split <;> omega
def rowR (N : Nat) (g : Int → Int) : List Int:=(List.range N).map fun k : Nat=>g k
theorem zfH (N : Nat) (g : Int → Int) : (rowR N g).length = N:=by simp [rowR]
theorem zcW {g : Int → Int} {x : Int} (h0 : 0 ≤ x) (h1 : x < N) : (rowR N g)[x.toNat]? = some (g x):=by
 unfold rowR
 rw [List.getElem?_map,List.getElem?_range (by omega)]
 simp only [Option.map_some,Int.toNat_of_nonneg h0]
theorem zgR {g : Int → Int} {x v : Int} (h0 : 0 ≤ x) (h1 : x < N) : (rowR N g).set x.toNat v = rowR N fun y=>if y = x then v else g y:=by
 apply List.ext_getElem?
 intro j
 by_cases hj : j < N
 ·have e1:=zcW (N:=N) (g:=fun y=>if y = x then v else g y) (x:=(j : Int)) (by omega) (by omega)
  have e2:=zcW (N:=N) (g:=g) (x:=(j : Int)) (by omega) (by omega)
  simp only [Int.toNat_natCast] at e1 e2
  rw [List.getElem?_set,e1,e2,zfH]
  by_cases hx : x.toNat = j
  ·rw [if_pos hx,if_pos (by omega),if_pos (by omega)]
  ·rw [if_neg hx,if_neg (by omega)]
 ·rw [List.getElem?_eq_none (by rw [List.length_set,zfH]; omega),List.getElem?_eq_none (by rw [zfH]; omega)]
theorem zgJ {g h : Int → Int} (e : ∀ x,g x = h x) : rowR N g = rowR N h:=by
 obtain rfl : g = h:=funext e
 rfl
set_option maxRecDepth 100000 in
set_option maxHeartbeats 4000000 in
theorem zjH (hn : za5 ⟨N,A⟩) (hf : zaA N A f) : zai Tryz.prog zdN [eN ⟨N,A⟩,ints f] [] (.B true) []:=by
 refine zjc.acalls (nbz rfl) (nbz rfl) (Nat.le_refl _) ?_
 show awp _ 0 _ _ ⟨87,[(0,eN ⟨N,A⟩),(1,ints f)],[],16⟩
 have hfl:=hf.fit.len
 have hfit:=zc0.1 hf.fit
 have hchk:=zdF ⟨N,A⟩ (by have:=hn.2.2.1; simp only at this ⊢; omega)
 rw [if_pos hn] at hchk
 obtain ⟨hn0,hn1,hal,hav⟩:=hn
 simp only at hn0 hn1 hal hav
 have hfb : ∀ j (h : j < f.length),0 ≤ f[j] ∧ f[j] ≤ (A[j]'(by omega)).v ∧ (A[j]'(by omega)).v ≤ 1048576:=fun j hj=>by
  have h1:=hfit.2 j (by omega)
  have e1 : f.getD j 0 = f[j]:=by rw [List.getD_eq_getElem?_getD,List.getElem?_eq_getElem hj,Option.getD_some]
  have e2 : arcD A j = A[j]'(by omega):=by unfold arcD; rw [List.getD_eq_getElem?_getD,List.getElem?_eq_getElem (by omega),Option.getD_some]
  rw [e1,e2] at h1
  exact ⟨h1.1,h1.2,(hav _ (List.getElem_mem (by omega))).2.2.2.2.2.2.2.2⟩
 have hbd:=ziU hfl fun j hj=>⟨(hfb j hj).1,by have:=hfb j hj; omega⟩
 refine rx (s:=?s1) [1,2] [] [16] rfl ?o1 ?q1
 case o1=>simp; rfl
 refine zab ?_
 refine zaa ⟨87,[(1,ints f),(2,.pv (nC ⟨N,A⟩)),(18,.B false)],[],120⟩ rfl ?_ ?_
 ·simp
  refine zaj hchk (by simp) ?_
  simp
  exact Le.snap [] rfl rfl (by simp <;> exact wkB (by simp [hfl]))
 refine zac _ rfl (fun h3=>by cases h3) fun _=>?_
 refine zae ?_
 refine zaa ⟨87,[(1,ints f),(2,.pv (nC ⟨N,A⟩)),(5,.rs 136 0 N)],[(136,some ⟨1,zah (rowR N (netG A f 0)),0⟩)],144⟩ rfl ?_ ?_
 ·simp
  refine ⟨by omega,by omega,?_⟩
  have : rowR N (netG A f 0) = List.replicate N 0:=by
   unfold rowR
   simp only [zf0]
   simp [List.map_const']
  rw [this]
  exact LeH [(136,136)] []
 refine zab ?_
 refine zaa ⟨87,[(1,ints f),(2,.pv (nC ⟨N,A⟩)),(5,.rs 136 0 N),(6,.I 0)],[(136,some ⟨1,zah (rowR N (netG A f 0)),0⟩)],160⟩ rfl ?_ ?_
 ·simp
  exact LeI [(136,136)] []
 refine zaf ?_
 refine zao (ι:=Nat) (fun i=>⟨87,[(1,ints f),(2,.pv (nC ⟨N,A⟩)),(5,.rs 136 0 N),(6,.I i)],[(136,some ⟨1,zah (rowR N (netG A f i)),0⟩)],160⟩) (fun i=>i ≤ A.length) (fun i=>A.length - i) 0 (Nat.zero_le _) (LeI [(136,136)] []) ?_
 intro i hi
 refine zab ?_
 refine zaa ⟨87,[(1,ints f),(2,.pv (nC ⟨N,A⟩)),(5,.rs 136 0 N),(6,.I i),(25,.B (decide (i < f.length)))],[(136,some ⟨1,zah (rowR N (netG A f i)),0⟩)],192⟩ rfl ?_ ?_
 ·simp
  exact LeI [(136,136)] []
 refine zac _ rfl (fun h8=>?_) fun h8=>?_
 ·simp at h8
  have hiA : i < A.length:=by omega
  have hw1 : IntKind.i64.wrap ((i : Int) + 1) = (i : Int) + 1:=w64 (by omega) (by omega)
  obtain ⟨b1,b2,b3⟩:=hfb i h8
  have heo:=hav _ (List.getElem_mem hiA)
  have hsucc:=zga hiA h8
  have hbe:=fun x=>hbd x i (by omega)
  obtain ⟨e,he⟩ : ∃ e,e = A[i]:=⟨_,rfl⟩
  obtain ⟨w,hw⟩ : ∃ w,w = f[i]:=⟨_,rfl⟩
  rw [← he,← hw] at hsucc b2
  rw [← hw] at b1
  rw [← he] at b3 heo
  obtain ⟨e1,e2,e3,e4,e5,_⟩:=heo
  have hg1 : A[i]? = some e:=by rw [List.getElem?_eq_getElem hiA,he]
  have hg2 : f[i]? = some w:=by rw [List.getElem?_eq_getElem h8,hw]
  have h2N : e.f < (N : Int) ∧ e.t < (N : Int):=by omega
  have h1:=hbe e.f
  have h2:=hbe e.t
  have hwx : IntKind.i64.wrap (netG A f i e.f - w) = netG A f i e.f - w:=w64 (by omega) (by omega)
  have hwy : IntKind.i64.wrap (netG A f i e.t + w) = netG A f i e.t + w:=w64 (by omega) (by omega)
  have hr1:=zcW (N:=N) (g:=netG A f i) (x:=e.f) e1 (by omega)
  have hs1:=zgR (N:=N) (g:=netG A f i) (x:=e.f) (v:=netG A f i e.f - w) e1 (by omega)
  obtain ⟨g1,hg1d⟩ : ∃ g1 : Int → Int,g1 = fun y=>if y = e.f then netG A f i e.f - w else netG A f i y:=⟨_,rfl⟩
  rw [← hg1d] at hs1
  have hg1t : g1 e.t = netG A f i e.t:=by rw [hg1d]; exact if_neg fun h=>e5 h.symm
  have hr2:=zcW (N:=N) (g:=g1) (x:=e.t) e3 (by omega)
  rw [hg1t] at hr2
  have hs2:=zgR (N:=N) (g:=g1) (x:=e.t) (v:=netG A f i e.t + w) e3 (by omega)
  have hend : (rowR N fun y=>if y = e.t then netG A f i e.t + w else g1 y) = rowR N (netG A f (i + 1)):=zgJ fun x=>by
   rw [hsucc,hg1d]
   simp only
   by_cases h3 : x = e.t
   ·rw [h3,if_pos rfl,if_pos rfl,if_neg e5]
    omega
   ·by_cases h4 : x = e.f
    ·rw [if_neg h3,if_pos h4,if_neg fun h=>h3 h.symm,if_pos h4.symm,h4]
     omega
    ·rw [if_neg h3,if_neg h4,if_neg fun h=>h3 h.symm,if_neg fun h=>h4 h.symm]
     omega
  rw [hend] at hs2
  refine zae ?_
  refine zaL (ι:=Unit) (fun _=>⟨87,[(1,ints f),(2,.pv (nC ⟨N,A⟩)),(5,.rs 136 0 N),(6,.I i)],[(136,some ⟨1,zah (rowR N (netG A f (i + 1))),0⟩)],1000⟩) (fun _=>True) ?_ fun _ _=>?_
  ·refine zaf ?_
   refine zab ?_
   refine zaq ⟨87,[(1,ints f),(2,.pv (nC ⟨N,A⟩)),(5,.rs 136 0 N),(6,.I i),(45,.B false)],[(136,some ⟨1,zah (rowR N (netG A f i)),0⟩)],500⟩ rfl ?_ ?_
   ·have hc1 : ¬ w < 0:=by omega
    have hc2 : ¬ e.v < w:=by omega
    simp [hg1,hg2,hiA,h8,← he,← hw,hc1,hc2]
    exact ⟨rfl,Le.go [(136,136)] [] rfl rfl (by simp [hc2]) (by simp [fcd])⟩
   refine zac _ rfl (fun h=>by cases h) fun _=>?_
   refine zae ?_
   refine zaq ⟨87,[(1,ints f),(2,.pv (nC ⟨N,A⟩)),(5,.rs 136 0 N),(6,.I i)],[(136,some ⟨1,zah (rowR N g1),0⟩)],700⟩ rfl ?_ ?_
   ·simp [hg1,hg2,hiA,h8,← he,← hw,hr1,e1,h2N,hwx,zar]
    exact ⟨rfl,Le.go [(136,136)] [] rfl rfl (by simp) (by simp [fcd,← hs1])⟩
   refine zbF rfl ?_
   simp [hg1,hg2,hiA,h8,← he,← hw,hr2,e3,h2N,hwy,zar]
   exact ⟨rfl,Le.go [(136,136)] [] rfl rfl (by simp) (by simp [fcd,← hs2])⟩
  refine zad (s:=?s20) rfl ?o20 ?q20
  case o20=>simp; rfl
  exact ⟨i + 1,by omega,by omega,Le.go [(136,136)] [] rfl rfl (by simp [hw1]) (by simp [fcd])⟩
 simp at h8
 obtain rfl : i = A.length:=by omega
 refine zan ?_
 refine hit ?_
 refine zab ?_
 refine zaa ⟨87,[(2,.pv (nC ⟨N,A⟩)),(5,.rs 136 0 N),(7,.I 2)],[(136,some ⟨1,zah (rowR N (netG A f A.length)),0⟩)],200⟩ rfl ?_ ?_
 ·simp
  exact LeI [(136,136)] []
 refine zaf ?_
 refine zao (ι:=Nat) (fun k=>⟨87,[(2,.pv (nC ⟨N,A⟩)),(5,.rs 136 0 N),(7,.I k)],[(136,some ⟨1,zah (rowR N (netG A f A.length)),0⟩)],200⟩) (fun k=>2 ≤ k ∧ k ≤ N) (fun k=>N - k) 2 (by omega) (LeI [(136,136)] []) ?_
 rintro k ⟨hk1,hk2⟩
 refine zab ?_
 refine zaa ⟨87,[(2,.pv (nC ⟨N,A⟩)),(5,.rs 136 0 N),(7,.I k),(79,.B (decide (k < N)))],[(136,some ⟨1,zah (rowR N (netG A f A.length)),0⟩)],300⟩ rfl ?_ ?_
 ·simp
  exact LeI [(136,136)] []
 refine zac _ rfl (fun h15=>?_) fun h15=>?_
 ·simp at h15
  have hz : netG A f A.length k = 0:=by
   rw [znm hfl]
   have:=hf.bal k hk1 h15
   unfold exF
   omega
  have hr:=zcW (N:=N) (g:=netG A f A.length) (x:=(k : Int)) (by omega) (by omega)
  rw [hz] at hr
  simp only [Int.toNat_natCast] at hr
  have hw1 : IntKind.i64.wrap ((k : Int) + 1) = (k : Int) + 1:=w64 (by omega) (by omega)
  refine zae ?_
  refine zab ?_
  refine zaf ?_
  refine zaa ⟨87,[(2,.pv (nC ⟨N,A⟩)),(5,.rs 136 0 N),(7,.I k),(86,.B false)],[(136,some ⟨1,zah (rowR N (netG A f A.length)),0⟩)],400⟩ rfl ?_ ?_
  ·simp [hr,h15]
   exact LeI [(136,136)] []
  refine zac _ rfl (fun h=>by cases h) fun _=>?_
  refine zae ?_
  refine zad (s:=?s21) rfl ?o21 ?q21
  case o21=>simp; rfl
  exact ⟨k + 1,by omega,by omega,Le.go [(136,136)] [] rfl rfl (by simp [hw1]) (by simp [fcd])⟩
 simp at h15
 refine zan ?_
 refine hit ?_
 refine zaa ⟨87,[(4,.B true)],[],400⟩ rfl ?_ ?_
 ·simp
  exact LeH [] []
 refine zag ?_
 exact ⟨.inr rfl,zak.one (by simp)⟩
theorem zfS (hn : za5 ⟨N,A⟩) (hf : zaA N A f) : zai Tryz.prog zdL [eN ⟨N,A⟩,ints f] [] (.I (valF A f)) []:=by
 refine zjm.acalls (nbz rfl) (nbz rfl) (Nat.le_refl _) ?_
 show awp _ 0 _ _ ⟨31,[(0,eN ⟨N,A⟩),(1,ints f)],[],16⟩
 have hchk:=zjH hn hf
 have hfl:=hf.fit.len
 have hfit:=zc0.1 hf.fit
 obtain ⟨hn0,hn1,hal,hav⟩:=hn
 simp only at hn0 hn1 hal hav
 have hfb : ∀ j (h : j < f.length),0 ≤ f[j] ∧ f[j] ≤ 1048576:=fun j hj=>by
  have h1:=hfit.2 j (by omega)
  have e1 : f.getD j 0 = f[j]:=by rw [List.getD_eq_getElem?_getD,List.getElem?_eq_getElem hj,Option.getD_some]
  have e2 : arcD A j = A[j]'(by omega):=by unfold arcD; rw [List.getD_eq_getElem?_getD,List.getElem?_eq_getElem (by omega),Option.getD_some]
  rw [e1,e2] at h1
  have h2:=(hav _ (List.getElem_mem (show j < A.length by omega))).2.2.2.2.2.2.2.2
  omega
 have hbd:=zmn hfl hfb 0
 have hall : outF (A.take A.length) (f.take A.length) 0 = valF A f:=by
  unfold valF
  rw [List.take_of_length_le (Nat.le_refl _),List.take_of_length_le (by omega)]
 refine rx (s:=?s1) [1,2] [] [16] rfl ?o1 ?q1
 case o1=>simp; rfl
 refine zab ?_
 refine rx (s:=?s2) [1,2,10] [] [] rfl ?o2 ?q2
 case o2=>simp; refine zaj hchk (by simp) ?_; simp; rfl
 refine zac _ rfl (fun h=>by cases h) fun _=>?_
 refine zae ?_
 refine rx (s:=?s5) [1,2,5] [] [] rfl ?o5 ?q5
 case o5=>simp; rfl
 refine zab ?_
 refine rx (s:=?s6) [1,2,5,6] [] [] rfl ?o6 ?q6
 case o6=>simp; rfl
 refine zaf ?_
 refine zao (ι:=Nat) (fun i=>⟨31,[(1,ints f),(2,.pv (nC ⟨N,A⟩)),(5,.I (outF (A.take i) (f.take i) 0)),(6,.I i)],[],80⟩) (fun i=>i ≤ A.length) (fun i=>A.length - i) 0 (Nat.zero_le _) (Le.go [] [] rfl rfl (by simp [outF,sumF]) (by simp)) ?_
 intro i hi
 have hbi:=hbd i hi
 refine zab ?_
 refine rx (s:=?s7) [1,2,5,6,14] [] [] rfl ?o7 ?q7
 case o7=>simp; rfl
 refine zac _ rfl (fun h8=>?_) fun h8=>?_
 ·simp at h8
  have hiA : i < A.length:=by omega
  have hw1 : IntKind.i64.wrap ((i : Int) + 1) = (i : Int) + 1:=w64 (by omega) (by omega)
  have hsucc:=zoz hiA h8 0
  have hb:=hfb i h8
  refine zae ?_
  refine zaL (ι:=Unit) (fun _=>⟨31,[(1,ints f),(2,.pv (nC ⟨N,A⟩)),(5,.I (outF (A.take (i + 1)) (f.take (i + 1)) 0)),(6,.I i)],[],400⟩) (fun _=>True) ?_ fun _ _=>?_
  ·refine zaf ?_
   refine zaa ⟨31,[(1,ints f),(2,.pv (nC ⟨N,A⟩)),(5,.I (outF (A.take i) (f.take i) 0)),(6,.I i),(23,.B (decide (A[i].f = 0)))],[],200⟩ rfl ?_ ?_
   ·simp [hiA]
    exact Le.go [] [] rfl rfl (by simp <;> exact wkB (by rw [Bool.eq_iff_iff]; simp)) (by simp)
   refine zac _ rfl (fun h10=>?_) fun h10=>?_
   ·rw [decide_eq_true_eq] at h10
    rw [if_pos h10] at hsucc
    have hw2 : IntKind.i64.wrap (outF (A.take i) (f.take i) 0 + f[i]) = outF (A.take i) (f.take i) 0 + f[i]:=w64 (by omega) (by omega)
    refine zad (s:=?s9) rfl ?o9 ?q9
    case o9=>simp [h8]; rfl
    exact ⟨(),trivial,Le.go [] [] rfl rfl (by simp [hsucc,hw2]) (by simp)⟩
   ·rw [decide_eq_false_iff_not] at h10
    rw [if_neg h10,Int.add_zero] at hsucc
    refine zae ?_
    exact ⟨(),trivial,Le.go [] [] rfl rfl (by simp [hsucc]) (by simp)⟩
  refine zad (s:=?s10) rfl ?o10 ?q10
  case o10=>simp; rfl
  exact ⟨i + 1,by omega,by omega,Le.go [] [] rfl rfl (by simp [hw1]) (by simp)⟩
 simp at h8
 obtain rfl : i = A.length:=by omega
 rw [hall]
 refine zan ?_
 refine hit ?_
 refine rx (s:=?s11) [4] [] [] rfl ?o11 ?q11
 case o11=>simp; rfl
 refine zag ?_
 exact ⟨.inr rfl,zak.one (by simp)⟩
theorem zrN {g : Gr} {p : Pol} {sinks : List Int} (hg : GrOk g) (hp : zaY g.size p) (hk : ∀ x ∈ sinks,0 ≤ x ∧ x < g.size) : zen (2 + 2 * g.size).toNat (zba g p (zaO g p) sinks):=by
 have hs0:=hg.1.1
 have hse:=hp.2.1.nodup
 have hle:=zi1 hg p.lv
 have hcl : (zaO g p).length = g.size.toNat:=by unfold zaO; rw [List.length_map,zkO]; rfl
 refine ⟨by omega,fun a ha=>?_⟩
 unfold zba at ha
 rcases List.mem_append.1 ha with ha | ha
 ·rcases List.mem_append.1 ha with ha | ha
  ·rcases List.mem_append.1 ha with ha | ha
   ·obtain ⟨x,hx,rfl⟩:=List.mem_map.1 ha
    have h1:=List.mem_filter.1 hx
    have h2:=hse.2 x h1.1
    have h3 : 0 < (zaO g p).getD x.toNat 0:=by simpa using h1.2
    simp only
    omega
   ·obtain ⟨i,hx,rfl⟩:=List.mem_map.1 ha
    have h1:=List.mem_filter.1 hx
    have h2:=List.mem_range.1 h1.1
    have h3 : 0 < (zaO g p).getD i 0:=by simpa using h1.2
    simp only
    omega
  ·obtain ⟨x,hx,rfl⟩:=List.mem_map.1 ha
   have h2:=hk x (List.mem_filter.1 hx).1
   simp only
   omega
 ·obtain ⟨e,hx,rfl⟩:=List.mem_map.1 ha
  have h2:=hle.2 e (List.mem_filter.1 hx).1
  simp only
  omega
theorem zmR (l : List Int) (n : Int) (hl : l.length ≤ 9223372036854775807) : zai Tryz.prog zaT [ints l,.I n] [] (.B (l.contains n)) []:=by
 refine zmy.acalls (by simp [ziD]) (by simp) (by simp) ?_
 show awp _ 0 _ _ ⟨18,[(0,ints l),(1,.I n)],[],16⟩
 refine zab (zad (s:=?s1) rfl ?o1 ?q1)
 case o1=>simp; rfl
 refine zab (zab (zad (s:=?s2) rfl ?o2 ?q2))
 case o2=>simp; rfl
 refine zaf ?_
 refine zao (ι:=Nat) (fun k=>{ sz:=18,t:=[(0,ints l),(1,.I n),(5,.I k)],h:=[],n:=16 }) (fun k=>k ≤ l.length ∧ n ∉ l.take k) (fun k=>l.length - k) 0 (by simp) ?_ ?_
 ·refine Le.slots rfl rfl ?_
  simp [ints]
 ·rintro k ⟨hk,hn⟩
  refine zab (zab (zad (s:=?s3) rfl ?o3 ?q3))
  case o3=>simp; rfl
  refine zac _ rfl ?_ ?_
  ·intro hlt
   simp only [decide_eq_true_eq,Int.ofNat_lt] at hlt
   show awp _ _ _ _ _
   refine zab (zaf (zab (zad (s:=?s4) rfl ?o4 ?q4)))
   case o4=>simp [hlt]; rfl
   refine zac _ rfl ?_ ?_
   ·intro heq
    refine zab (zad (s:=?s5) rfl ?o5 ?q5)
    case o5=>simp; rfl
    refine ⟨.inr rfl,zak.one ?_⟩
    have : n ∈ l:=by simp at heq; simp [← heq]
    simp [this]
   ·intro hne
    refine zae (zad (s:=?s6) rfl ?o6 ?q6)
    case o6=>simp; rfl
    refine ⟨k + 1,⟨by omega,?_⟩,by omega,Le.slots rfl rfl ?_⟩
    ·intro hm
     simp at hne
     rw [List.take_succ_eq_append_getElem hlt] at hm
     rcases List.mem_append.1 hm with h | h
     ·exact hn h
     ·exact hne (List.mem_singleton.1 h).symm
    ·have hw : IntKind.i64.wrap ((k : Int) + 1) = ((k + 1 : Nat) : Int):=w64 (by omega) (by omega)
     simp [Wk.refl,hw]
  ·intro hge
   refine zan (hit ?_)
   refine zab (zad (s:=?s7) rfl ?o7 ?q7)
   case o7=>simp; rfl
   refine zag ⟨.inr rfl,zak.one ?_⟩
   simp at hge
   have : n ∉ l:=by
    have : l.take k = l:=List.take_of_length_le hge
    rw [this] at hn
    exact hn
   simp [this]
open Classical in
theorem zmQ (l : List Int) (n : Int) (hl : l.length ≤ 9223372036854775807) : zai Tryz.prog zci [ints l,.I n] [] (.B (decide (Rise l 0 (n - 1)))) []:=by
 refine zmu.acalls (nbz rfl) (nbz rfl) (Nat.le_refl _) ?_
 show awp _ 0 _ _ ⟨41,[(0,ints l),(1,.I n)],[],16⟩
 refine zab ?_
 refine zad (s:=?s1) rfl ?o1 ?q1
 case o1=>simp; rfl
 refine zab ?_
 refine zab ?_
 refine zad (s:=?s2) rfl ?o2 ?q2
 case o2=>simp; rfl
 refine zaf ?_
 refine zao (ι:=Nat) (fun k=>⟨41,[(0,ints l),(1,.I n),(5,.I k)],[],16⟩) (fun k=>k ≤ l.length ∧ ∀ i,i < k → zg1 l 0 (n - 1) i) (fun k=>l.length - k) (0) ?_ (Le.snap [] rfl rfl (by simp)) ?_
 ·simp
 rintro k ⟨hk,hp⟩
 refine zab ?_
 refine zab ?_
 refine zad (s:=?s3) rfl ?o3 ?q3
 case o3=>simp; rfl
 refine zac _ rfl (fun h4=>?_) fun h4=>?_
 ·try simp at h4
  have hw2 : IntKind.i64.wrap ((k : Int) + 1) = (k : Int) + 1:=w64 (by omega) (by omega)
  have hwp : 0 < k → IntKind.i64.wrap ((k : Int) - 1) = ((k - 1 : Nat) : Int):=fun h=>by rw [w64 (by omega) (by omega)]; omega
  have hkp : k - 1 < l.length:=by omega
  refine zae ?_
  refine zab ?_
  refine zaf ?_
  refine zaq ⟨41,[(0,ints l),(1,.I n),(5,.I k),(40,.B (decide (¬ zg1 l 0 (n - 1) k)))],[],16⟩ rfl ?_ ?_
  ·simp [h4,hw2,hwp,hkp]
   repeat' first
    | (refine zb5 (fun hb=>?_) (fun hb=>?_) <;> (try rw [hb]) <;> (try simp at hb) <;> simp [hb,h4,hw2,hwp,hkp])
   all_goals exact ⟨rfl,Le.snap [] rfl rfl (by simp; exact wkB (by (try simp at *); grind [zg1]))⟩
  refine zac _ rfl (fun h5=>?_) fun h5=>?_
  ·try simp at h5
   refine zab ?_
   refine zad (s:=?s6) rfl ?o6 ?q6
   case o6=>simp [h4,hw2,hwp,hkp]; rfl
   refine zag ?_
   have hn : ¬ Rise l 0 (n - 1):=fun h=>h5 (h k)
   exact ⟨.inr rfl,zak.one (by simp [hn])⟩
  try simp at h5
  refine zae ?_
  refine zad (s:=?s7) rfl ?o7 ?q7
  case o7=>simp [h4,hw2,hwp,hkp]; rfl
  refine ⟨k + 1,⟨h4,fun i hi=>?_⟩,by omega,Le.snap [] rfl rfl (by simp [h4,hw2,hwp,hkp])⟩
  rcases Nat.lt_succ_iff_lt_or_eq.1 hi with h | rfl
  ·exact hp i h
  ·exact h5
 try simp at h4
 have hall : ∀ i,i < l.length → zg1 l 0 (n - 1) i:=fun i hi=>hp i (by omega)
 refine zan ?_
 refine hit ?_
 refine zab ?_
 refine zad (s:=?s8) rfl ?o8 ?q8
 case o8=>simp; rfl
 refine zag ?_
 have hy : Rise l 0 (n - 1):=fun i hi=>hall i hi hi
 exact ⟨.inr rfl,zak.one (by simp [hy])⟩
open Classical in
theorem zij (n : Net) (side : List Int) (hl : n.arcs.length ≤ 1099511627776) (hs : side.length ≤ 9223372036854775807) : zai Tryz.prog zgM [eN n,ints side] [] (.B (decide (zct n side))) []:=by
 refine zsd.acalls (nbz rfl) (nbz rfl) (Nat.le_refl _) ?_
 show awp _ 0 _ _ ⟨24,[(0,eN n),(1,ints side)],[],16⟩
 refine rx (s:=?s1) [1,2] [] [16] rfl ?o1 ?q1
 case o1=>simp; rfl
 refine zaa ⟨24,[(4,.B (decide (zct n side)))],[],300⟩ rfl ?_ ?_
 ·have hc:=zfl n hl
  by_cases hn : za5 n
  ·rw [if_pos hn] at hc
   have hw : IntKind.i64.wrap (n.nodes - 1) = n.nodes - 1:=w64 (by have:=hn.1; omega) (by have:=hn.2.1; omega)
   simp
   refine zaj hc (by simp) ?_
   simp [hw]
   refine zaj (zfU side 0 (n.nodes - 1) hs) (by simp) ?_
   simp
   refine zb5 (fun hb=>?_) (fun hb=>?_) <;> (try rw [hb]) <;> (try simp at hb) <;> simp [hb]
   ·refine zaj (zgj side 0 hs) (by simp) ?_
    simp
    refine zb5 (fun hb2=>?_) (fun hb2=>?_) <;> (try rw [hb2]) <;> (try simp at hb2) <;> simp [hb2]
    ·refine zaj (zgj side 1 hs) (by simp) ?_
     simp
     exact Le.snap [] rfl rfl (by simp [zct,hn,hb,hb2])
    ·exact Le.snap [] rfl rfl (by simp [zct,hn,hb,hb2])
   ·exact Le.snap [] rfl rfl (by simp [zct,hn,hb])
  ·rw [if_neg hn] at hc
   simp
   refine zaj hc (by simp) ?_
   simp
   exact Le.snap [] rfl rfl (by simp [zct,hn])
 refine zag ?_
 exact ⟨.inr rfl,zak.one (by simp)⟩
open Classical in
theorem zgf (n : Net) (side : List Int) (hl : n.arcs.length ≤ 1099511627776) (hs : side.length ≤ 9223372036854775807) : zai Tryz.prog zeJ [eN n,ints side] [] (.B (decide (zct n side))) []:=by
 refine zps.acalls (nbz rfl) (nbz rfl) (Nat.le_refl _) ?_
 show awp _ 0 _ _ ⟨23,[(0,eN n),(1,ints side)],[],16⟩
 refine rx (s:=?s1) [1,2] [] [16] rfl ?o1 ?q1
 case o1=>simp; rfl
 refine zaa ⟨23,[(4,.B (decide (zct n side)))],[],300⟩ rfl ?_ ?_
 ·have hc:=zdF n hl
  by_cases hn : za5 n
  ·rw [if_pos hn] at hc
   simp
   refine zaj hc (by simp) ?_
   simp
   refine zaj (zmQ side n.nodes hs) (by simp) ?_
   simp
   refine zb5 (fun hb=>?_) (fun hb=>?_) <;> (try rw [hb]) <;> (try simp at hb) <;> simp [hb]
   ·refine zaj (zmR side 0 hs) (by simp) ?_
    simp
    refine zb5 (fun hb2=>?_) (fun hb2=>?_) <;> (try rw [hb2]) <;> (try simp at hb2) <;> simp [hb2]
    ·refine zaj (zmR side 1 hs) (by simp) ?_
     simp
     exact Le.snap [] rfl rfl (by simp [zct,hn,hb,hb2])
    ·exact Le.snap [] rfl rfl (by simp [zct,hn,hb,hb2])
   ·exact Le.snap [] rfl rfl (by simp [zct,hn,hb])
  ·rw [if_neg hn] at hc
   simp
   refine zaj hc (by simp) ?_
   simp
   exact Le.snap [] rfl rfl (by simp [zct,hn])
 refine zag ?_
 exact ⟨.inr rfl,zak.one (by simp)⟩
open Classical in
theorem zhI (n : Net) (side : List Int) (hl : n.arcs.length ≤ 1099511627776) (hs : side.length ≤ 9223372036854775807) : zai Tryz.prog zep [eN n,ints side] [] (.I (if zct n side then cutV n.arcs side else 0)) []:=by
 refine zkp.acalls (nbz rfl) (nbz rfl) (Nat.le_refl _) ?_
 show awp _ 0 _ _ ⟨46,[(0,eN n),(1,ints side)],[],16⟩
 refine rx (s:=?s1) [1,2] [] [16] rfl ?o1 ?q1
 case o1=>simp; rfl
 refine zab ?_
 refine rx (s:=?s2) [1,2,10] [] [] rfl ?o2 ?q2
 case o2=>simp; refine zaj (zgf n side hl hs) (by simp) ?_; simp; rfl
 refine zac _ rfl (fun h3=>?_) fun h3=>?_
 ·simp at h3
  refine rx (s:=?s4) [4] [] [] rfl ?o4 ?q4
  case o4=>simp; rfl
  refine zag ?_
  exact ⟨.inr rfl,zak.one (by simp [h3])⟩
 simp at h3
 have hb1:=h3.1.2.2.1
 refine zae ?_
 refine rx (s:=?s5) [1,2,5] [] [] rfl ?o5 ?q5
 case o5=>simp; rfl
 refine zab ?_
 refine rx (s:=?s6) [1,2,5,6] [] [] rfl ?o6 ?q6
 case o6=>simp; rfl
 refine zaf ?_
 refine zao (ι:=Nat) (fun i=>⟨46,[(1,ints side),(2,.pv (nC n)),(5,.I (cutV (n.arcs.take i) side)),(6,.I i)],[],80⟩) (fun i=>i ≤ n.arcs.length) (fun i=>n.arcs.length - i) 0 (by simp) (Le.go [] [] rfl rfl (by simp [cutV]) (by simp)) ?_
 intro i hi
 have hcb:=zi2 (n:=n.nodes) (side:=side) (arcs:=n.arcs.take i) fun a ha=>h3.1.2.2.2 a (List.mem_of_mem_take ha)
 have htl:=List.length_take_le' i n.arcs
 refine zab ?_
 refine rx (s:=?s7) [1,2,5,6,15] [] [] rfl ?o7 ?q7
 case o7=>simp; rfl
 refine zac _ rfl (fun h7=>?_) fun h7=>?_
 ·simp at h7
  have hw : IntKind.i64.wrap ((i : Int) + 1) = (i : Int) + 1:=w64 (by omega) (by omega)
  have hcs:=zn3 n.arcs side i h7
  have hav:=h3.1.2.2.2 _ (List.getElem_mem h7)
  have hwv : IntKind.i64.wrap (cutV (n.arcs.take i) side + n.arcs[i].v) = cutV (n.arcs.take i) side + n.arcs[i].v:=w64 (by have:=hav.2.2.2.2.2.2.2.1; omega) (by have:=hav.2.2.2.2.2.2.2.2; omega)
  refine zae ?_
  refine zaL (ι:=Unit) (fun _=>⟨46,[(1,ints side),(2,.pv (nC n)),(5,.I (cutV (n.arcs.take (i + 1)) side)),(6,.I i)],[],400⟩) (fun _=>True) ?_ fun _ _=>?_
  ·refine zaf ?_
   refine zaa ⟨46,[(1,ints side),(2,.pv (nC n)),(5,.I (cutV (n.arcs.take i) side)),(6,.I i),(36,.B (decide (n.arcs[i].f ∈ side ∧ n.arcs[i].t ∉ side)))],[],300⟩ rfl ?_ ?_
   ·simp [h7]
    refine zaj (zmR side n.arcs[i].f hs) (by simp) ?_
    simp
    refine zb5 (fun hb=>?_) (fun hb=>?_) <;> (try rw [hb]) <;> (try simp at hb) <;> simp [hb,h7]
    ·refine zaj (zmR side n.arcs[i].t hs) (by simp) ?_
     simp
     exact Le.snap [] rfl rfl (by simp [hb])
    ·exact Le.snap [] rfl rfl (by simp [hb])
   refine zac _ rfl (fun h8=>?_) fun h8=>?_
   ·rw [decide_eq_true_eq] at h8
    rw [if_pos h8] at hcs
    refine zad (s:=?s9) rfl ?o9 ?q9
    case o9=>simp [h7]; rfl
    exact ⟨(),trivial,Le.go [] [] rfl rfl (by simp [hcs,hwv]) (by simp)⟩
   ·rw [decide_eq_false_iff_not] at h8
    rw [if_neg h8] at hcs
    refine zae ?_
    exact ⟨(),trivial,Le.go [] [] rfl rfl (by simp [hcs]) (by simp)⟩
  refine zad (s:=?s10) rfl ?o10 ?q10
  case o10=>simp; rfl
  exact ⟨i + 1,by omega,by omega,Le.go [] [] rfl rfl (by simp [hw]) (by simp)⟩
 simp at h7
 obtain rfl : i = n.arcs.length:=by omega
 refine zan ?_
 refine hit ?_
 refine rx (s:=?s11) [4] [] [] rfl ?o11 ?q11
 case o11=>simp; rfl
 refine zag ?_
 exact ⟨.inr rfl,zak.one (by simp [h3])⟩
open Classical in
theorem zjA (n : Net) (side : List Int) (most : Int) (hl : n.arcs.length ≤ 1099511627776) (hs : side.length ≤ 9223372036854775807) : zai Tryz.prog zfI [eN n,ints side,.I most] [] (.B (decide (zc9 n side most))) []:=by
 refine znU.acalls (nbz rfl) (nbz rfl) (Nat.le_refl _) ?_
 show awp _ 0 _ _ ⟨17,[(0,eN n),(1,ints side),(2,.I most)],[],16⟩
 refine rx (s:=?s1) [1,2,3] [] [16] rfl ?o1 ?q1
 case o1=>simp; rfl
 refine zaa ⟨17,[(6,.B (decide (zc9 n side most)))],[],300⟩ rfl ?_ ?_
 ·have hc:=zhI n side hl hs
  simp
  refine zaj (zgf n side hl hs) (by simp) ?_
  simp
  by_cases hv : zct n side
  ·rw [if_pos hv] at hc
   simp [hv]
   refine zaj hc (by simp) ?_
   simp
   exact Le.snap [] rfl rfl (by simp [zc9,hv])
  ·simp [hv]
   exact Le.snap [] rfl rfl (by simp [zc9,hv])
 refine zag ?_
 exact ⟨.inr rfl,zak.one (by simp)⟩
def zeb (N : Nat) (s : List Int) : List (List AV):=(List.range N).map fun (k : Nat)=>[AV.B (decide ((k : Int) ∈ s))]
theorem zf7 (N : Nat) (s : List Int) : (zeb N s).length = N:=by simp [zeb]
theorem ztc (N : Nat) : zeb N [] = List.replicate N [AV.B false]:=by
 unfold zeb
 simp [List.map_const']
theorem ztb {N k : Nat} (hk : k < N) (s : List Int) : (zeb N s)[k]? = some [AV.B (decide ((k : Int) ∈ s))]:=by simp [zeb,hk]
@[simp] theorem zwR {N k : Nat} {s : List Int} (h : k < (zeb N s).length) : (zeb N s)[k] = [AV.B (decide ((k : Int) ∈ s))]:=by simp [zeb]
theorem zts {N k : Nat} (s : List Int) : (zeb N s).set k [AV.B true] = zeb N (s ++ [(k : Int)]):=by
 apply List.ext_getElem?
 intro i
 rw [List.getElem?_set]
 by_cases h : k = i
 ·subst h
  rw [if_pos rfl]
  by_cases hk : k < N
  ·rw [if_pos (by rw [zf7]; exact hk),ztb hk]
   simp
  ·rw [if_neg (by rw [zf7]; exact hk)]
   simp [zeb,hk]
 ·rw [if_neg h]
  unfold zeb
  simp only [List.getElem?_map]
  by_cases hi : i < N
  ·simp [hi,show ¬ ((i : Int) = k) by omega]
  ·simp [hi]
@[simp] theorem zvU {ρ : List (Nat × Nat)} {sn : List Nat} {h : Nat → Option Ent} {N : Nat} {s : List Int} : (zeb N s).map (·.map (conv ρ sn h 4)) = zeb N s:=by
 unfold zeb
 rw [List.map_map]
 rfl
set_option maxRecDepth 100000 in
open Classical in
theorem zjD (n : Net) (side : List Int) (hl : n.arcs.length ≤ 1099511627776) (hs : side.length ≤ 9223372036854775807) : zai Tryz.prog zfL [eN n,ints side] [] (.I (if zct n side then cutV n.arcs side else 0)) []:=by
 refine zni.acalls (nbz rfl) (nbz rfl) (Nat.le_refl _) ?_
 show awp _ 0 _ _ ⟨54,[(0,eN n),(1,ints side)],[],16⟩
 refine rx (s:=?s1) [1,2] [] [16] rfl ?o1 ?q1
 case o1=>simp; rfl
 refine zab ?_
 refine rx (s:=?s2) [1,2,14] [] [] rfl ?o2 ?q2
 case o2=>simp; refine zaj (zij n side hl hs) (by simp) ?_; simp; rfl
 refine zac _ rfl (fun h3=>?_) fun h3=>?_
 ·simp at h3
  refine rx (s:=?s4) [4] [] [] rfl ?o4 ?q4
  case o4=>simp; rfl
  refine zag ?_
  exact ⟨.inr rfl,zak.one (by simp [h3])⟩
 simp at h3
 have hb1:=h3.1.2.2.1
 have hn2:=h3.1.1
 have hn3:=h3.1.2.1
 obtain ⟨N,hN,hN3⟩ : ∃ N : Nat,n.nodes = N ∧ N ≤ 130:=⟨n.nodes.toNat,by omega,by omega⟩
 have hside : ∀ k ∈ side,∃ j : Nat,k = j ∧ j < N:=fun k hk=>by
  obtain ⟨i,hi,rfl⟩:=List.getElem_of_mem hk
  have:=(h3.2.1 i hi)
  exact ⟨side[i].toNat,by omega,by omega⟩
 refine zae ?_
 refine zaa ⟨54,[(1,ints side),(2,.pv (nC n)),(5,.rs 80 0 N)],[(80,some ⟨1,zeb N [],0⟩)],96⟩ rfl ?_ ?_
 ·rw [ztc]
  simp [hN]
  refine ⟨by omega,?_⟩
  exact Le.keep rfl (Nat.le_refl _) (by simp [hN]) (by simp [hN])
 refine zab ?_
 refine rk (s:=?s5) [1,2,5,18,19,20] [80] rfl ?o5 ?q5
 case o5=>simp; rfl
 refine zaf ?_
 refine zao (ι:=Nat) (fun i=>⟨54,[(1,ints side),(2,.pv (nC n)),(5,.rs 80 0 N),(18,ints side),(19,.I side.length),(20,.I i)],[(80,some ⟨1,zeb N (side.take i),0⟩)],120⟩) (fun i=>i ≤ side.length) (fun i=>side.length - i) 0 (by simp) (Le.keep rfl (Nat.le_refl _) (by simp) (by simp)) ?_
 intro i hi
 refine rk (s:=?s6) [1,2,5,18,19,20,21] [80] rfl ?o6 ?q6
 case o6=>simp; rfl
 refine zab ?_
 refine zac _ rfl (fun h7=>?_) fun h7=>?_
 ·simp at h7
  have hw : IntKind.i64.wrap ((i : Int) + 1) = (i : Int) + 1:=w64 (by omega) (by omega)
  obtain ⟨j,hj,hjN⟩:=hside _ (List.getElem_mem h7)
  have hset : (zeb N (side.take i)).set j [AV.sc (.bool true)] = zeb N (side.take (i + 1)):=by
   rw [List.take_succ_eq_append_getElem h7,hj]
   exact zts _
  refine zae ?_
  refine zab ?_
  refine zaf ?_
  refine rk (s:=?s8) [1,2,5,7,18,19,20] [80] rfl ?o8 ?q8
  case o8=>simp [h7,hj]; rfl
  refine zad (s:=?s9) rfl ?o9 ?q9
  case o9=>simp [hjN,zf7,hset]; rfl
  refine zad (s:=?s10) rfl ?o10 ?q10
  case o10=>simp [hw]; rfl
  exact ⟨i + 1,by omega,by omega,LeH [(80,80)] []⟩
 simp at h7
 obtain rfl : i = side.length:=by omega
 rw [List.take_of_length_le (Nat.le_refl _)]
 refine zan ?_
 refine hit ?_
 refine rk (s:=?s11) [1,2,5,8] [80] rfl ?o11 ?q11
 case o11=>simp; rfl
 refine zab ?_
 refine rk (s:=?s12) [5,8,29,30,31] [80] rfl ?o12 ?q12
 case o12=>simp; rfl
 refine zaf ?_
 refine zao (ι:=Nat) (fun i=>⟨54,[(5,.rs 80 0 N),(8,.I (cutV (n.arcs.take i) side)),(29,eEs n.arcs),(30,.I n.arcs.length),(31,.I i)],[(80,some ⟨1,zeb N side,0⟩)],168⟩) (fun i=>i ≤ n.arcs.length) (fun i=>n.arcs.length - i) 0 (by simp) (Le.go [(80,80)] [] rfl rfl (by simp [cutV]) (by simp)) ?_
 intro i hi
 have hcb:=zi2 (n:=n.nodes) (side:=side) (arcs:=n.arcs.take i) fun a ha=>h3.1.2.2.2 a (List.mem_of_mem_take ha)
 have htl:=List.length_take_le' i n.arcs
 refine rk (s:=?s13) [5,8,29,30,31,32] [80] rfl ?o13 ?q13
 case o13=>simp; rfl
 refine zab ?_
 refine zac _ rfl (fun h7=>?_) fun h7=>?_
 ·simp at h7
  have hw : IntKind.i64.wrap ((i : Int) + 1) = (i : Int) + 1:=w64 (by omega) (by omega)
  have hcs:=zn3 n.arcs side i h7
  have hav:=h3.1.2.2.2 _ (List.getElem_mem h7)
  have hwv : IntKind.i64.wrap (cutV (n.arcs.take i) side + n.arcs[i].v) = cutV (n.arcs.take i) side + n.arcs[i].v:=w64 (by have:=hav.2.2.2.2.2.2.2.1; omega) (by have:=hav.2.2.2.2.2.2.2.2; omega)
  obtain ⟨x,hx⟩ : ∃ x,x = n.arcs[i]:=⟨_,rfl⟩
  rw [← hx] at hcs hav hwv
  obtain ⟨f,hf,hfN⟩ : ∃ f : Nat,x.f = f ∧ f < N:=⟨x.f.toNat,by have:=hav.1; omega,by have:=hav.1; have:=hav.2.1; omega⟩
  obtain ⟨u,hu,huN⟩ : ∃ u : Nat,x.t = u ∧ u < N:=⟨x.t.toNat,by have:=hav.2.2.1; omega,by have:=hav.2.2.1; have:=hav.2.2.2.1; omega⟩
  refine zae ?_
  refine zaL (ι:=Unit) (fun _=>⟨54,[(5,.rs 80 0 N),(8,.I (cutV (n.arcs.take (i + 1)) side)),(29,eEs n.arcs),(30,.I n.arcs.length),(31,.I i)],[(80,some ⟨1,zeb N side,0⟩)],400⟩) (fun _=>True) ?_ fun _ _=>?_
  ·refine zaf ?_
   refine zaa ⟨54,[(5,.rs 80 0 N),(8,.I (cutV (n.arcs.take i) side)),(10,.pv (eC x)),(29,eEs n.arcs),(30,.I n.arcs.length),(31,.I i)],[(80,some ⟨1,zeb N side,0⟩)],208⟩ rfl ?_ ?_
   ·simp [h7,← hx]
    exact LeH [(80,80)] [192]
   refine zaa ⟨54,[(5,.rs 80 0 N),(8,.I (cutV (n.arcs.take i) side)),(10,.pv (eC x)),(29,eEs n.arcs),(30,.I n.arcs.length),(31,.I i),(47,.B (decide ((f : Int) ∈ side ∧ (u : Int) ∉ side)))],[(80,some ⟨1,zeb N side,0⟩)],312⟩ rfl ?_ ?_
   ·simp [hf,hu,hfN,huN,zf7]
    refine zb5 (fun hb=>?_) (fun hb=>?_) <;> (try rw [hb]) <;> (try simp at hb) <;> simp [hb,hu,huN,zf7]
    ·exact Le.go [(80,80)] [] rfl rfl (by simp [hb]) (by simp)
    ·exact Le.go [(80,80)] [] rfl rfl (by simp [hb]) (by simp)
   rw [← hf,← hu]
   refine zac _ rfl (fun h8=>?_) fun h8=>?_
   ·rw [decide_eq_true_eq] at h8
    rw [if_pos h8] at hcs
    refine zad (s:=?s14) rfl ?o14 ?q14
    case o14=>simp; rfl
    exact ⟨(),trivial,Le.go [(80,80)] [] rfl rfl (by simp [hcs,hwv]) (by simp)⟩
   ·rw [decide_eq_false_iff_not] at h8
    rw [if_neg h8] at hcs
    refine zae ?_
    exact ⟨(),trivial,Le.go [(80,80)] [] rfl rfl (by simp [hcs]) (by simp)⟩
  refine zad (s:=?s15) rfl ?o15 ?q15
  case o15=>simp; rfl
  exact ⟨i + 1,by omega,by omega,Le.go [(80,80)] [] rfl rfl (by simp [hw]) (by simp)⟩
 simp at h7
 obtain rfl : i = n.arcs.length:=by omega
 refine zan ?_
 refine hit ?_
 refine rk (s:=?s16) [4] [] rfl ?o16 ?q16
 case o16=>simp; rfl
 refine zag ?_
 exact ⟨.inr rfl,zak.one (by simp [h3])⟩
open Classical in
theorem zlS (n : Net) (side : List Int) (most : Int) (hl : n.arcs.length ≤ 1099511627776) (hs : side.length ≤ 9223372036854775807) : zai Tryz.prog zhi [eN n,ints side,.I most] [] (.B (decide (zc9 n side most))) []:=by
 refine zqi.acalls (nbz rfl) (nbz rfl) (Nat.le_refl _) ?_
 show awp _ 0 _ _ ⟨17,[(0,eN n),(1,ints side),(2,.I most)],[],16⟩
 refine rx (s:=?s1) [1,2,3] [] [16] rfl ?o1 ?q1
 case o1=>simp; rfl
 refine zaa ⟨17,[(6,.B (decide (zc9 n side most)))],[],300⟩ rfl ?_ ?_
 ·have hc:=zjD n side hl hs
  simp
  refine zaj (zij n side hl hs) (by simp) ?_
  simp
  by_cases hv : zct n side
  ·rw [if_pos hv] at hc
   simp [hv]
   refine zaj hc (by simp) ?_
   simp
   exact Le.snap [] rfl rfl (by simp [zc9,hv])
  ·simp [hv]
   exact Le.snap [] rfl rfl (by simp [zc9,hv])
 refine zag ?_
 exact ⟨.inr rfl,zak.one (by simp)⟩
end Go.Proofs.YthmaflecfppoiaaGreat
