/- Texts of this claim,merged. -/
import Derived.Test.YthmaflecfppoiaaGreatRo10
import Derived.Test.YthmaflecfppoiaaGreatRo7
import Derived.Test.YthmaflecfppoiaaGreatRo11
import Derived.Test.YthmaflecfppoiaaGreatRo9
set_option linter.unusedSimpArgs false
set_option linter.unusedVariables false
set_option linter.unusedSectionVars false
namespace Go.Proofs.YthmaflecfppoiaaGreat
open Go Go.RowKit Go.Shelf Go.Maps Go.Sort
theorem arr2 {vs : Array Value} (h : vs.size = 2) : vs = #[vs.getD 0 undef,vs.getD 1 undef]:=by
 apply Array.ext
 ·simpa using h
 ·intro i h1 h2
  have : i = 0 ∨ i = 1:=by simp at h2; omega
  rcases this with rfl | rfl <;> simp [Array.getD,h1] <;> intro h3 <;> omega
theorem ztf (x : Int) : (encZ x : Value) = .int .i64 x:=rfl
theorem zn2 (l : List Int) (hl : l.length ≤ 1099511627776) : zai Tryz.prog zcf [.nilS,.fn (.func zbu) [] [.pv [ints l]]] [] (.rs 0 0 l.length) [some ⟨1,zah l,0⟩]:=by
 refine ⟨⟨_,_,Tryz.func149,rfl,by decide⟩,by simp,fun T M w vs htok hhs hdom hrep=>?_⟩
 obtain ⟨hsz,hr⟩:=hrep
 have hr0:=hr 0 (by simp)
 have hr1:=hr 1 (by simp)
 simp only [List.getD_cons_zero,List.getD_cons_succ] at hr0 hr1
 rw [arr2 hsz]
 generalize vs.getD 0 undef = v0 at hr0
 generalize vs.getD 1 undef = v1 at hr1
 cases hr0
 cases hr1 with
 | fn _ _ _ _ us ws hx hy h h' =>
 have hus : us = #[]:=by simpa using hx
 subst hus
 have hws:=arr1 (vs:=ws) hy
 have hc0:=h' 0 (by simp)
 simp only [List.getD_cons_zero] at hc0
 rw [hws]
 generalize ws.getD 0 undef = u at hc0
 cases hc0 with
 | pv _ _ Bs B0 cells ty fz c hb ht hcc ho hh =>
 have hB:=hcc 0 (by simp)
 have hv:=hh 0 (by simp)
 simp only [List.getD_cons_zero,Nat.add_zero] at hB hv
 have hBl : Bs < w.heap.size:=(Array.getElem?_eq_some_iff.1 hb).1
 generalize c 0 = sv at hB hv
 cases hv with
 | vs _ _ _ _ a cap cc hf hle hw hbb h1 hcv =>
 have hlen : (l.map fun n=>[AV.I n]).length = l.length:=by simp
 rw [hlen] at hB
 have hcell : ∃ b off,(l ≠ [] → a = some ⟨b,off,none⟩ ∧ b < w.heap.size) ∧ ∀ j (h : j < l.length),w.cell? ⟨b,off + j,none⟩ = some (.int .i64 l[j]):=by
  by_cases h0 : l = []
  ·exact ⟨0,0,fun h=>absurd h0 h,fun j hj=>by subst h0; simp at hj⟩
  ·obtain ⟨b,off,cs,ty',fz',ha,hwb,_,hrow⟩:=hbb (by simpa using h0)
   refine ⟨b,off,fun _=>⟨ha,(Array.getElem?_eq_some_iff.1 hwb).1⟩,fun j hj=>?_⟩
   have h2:=hrow j 0 (by simpa using hj) (by decide)
   have h3:=hcv j 0 (by simpa using hj) (by decide)
   have e : ((l.map fun n=>[AV.I n]).getD j []).getD 0 .dead = .I l[j]:=by simp [List.getD,hj]
   rw [e] at h3
   have h4:=zbs h3 rfl
   rw [h4] at h2
   simp only [World.cell?,hwb]
   simpa using h2
 obtain ⟨b,off,hab,hcs⟩:=hcell
 rw [← callsIn_wide (n:=2)]
 refine (zlU Fence.wide 2 trivial trivial rfl (by omega) Bs B0 b off cap a l (fun h=>(hab h).1) hl w ?_ hBl (fun h=>(hab h).2) hcs).mono ?_
 ·simp only [World.cell?,hb]
  exact hB
 rintro e w' ⟨v,rfl,⟨_,hown⟩,hbel⟩
 have hpr : Pres T w T w':=⟨fun _=>Nat.le_refl _,fun b' cs' ty' fz' h=>⟨cs',fz',by rw [hbel.block b' (Array.getElem?_eq_some_iff.1 h).1]; exact h,rfl,fun _ _=>rfl⟩⟩
 have hT0 : ∀ b',w.heap.size ≤ b' → T b' = 0:=fun b' hb'=>by
  rcases Nat.eq_zero_or_pos (T b') with e | e
  ·exact e
  ·obtain ⟨cells,ty,fz,h1,_⟩:=htok b' e
   have:=(Array.getElem?_eq_some_iff.1 h1).1
   omega
 have htok' : TOk T w':=fun b' hb'=>by
  obtain ⟨cells,ty,fz,h1,h2⟩:=htok b' hb'
  exact ⟨cells,ty,fz,by rw [hbel.block b' (Array.getElem?_eq_some_iff.1 h1).1]; exact h1,h2⟩
 have fin : ∀ g : GE,(∀ b,g.blk = some b → w.heap.size ≤ b) → zov T w' (fun k=>if k = 0 then some g else none) ⟨1,zah l,0⟩ g → Rep T w' (fun k=>if k = 0 then some g else none) (.rs 0 0 l.length) v →
   ∃ v' T' M',Ending.returned v = .returned v' ∧ Rep T' w' M' (.rs 0 0 l.length) v' ∧ HsOk T' w' M' (zjr [some ⟨1,zah l,0⟩]) ∧ zh5 0 T M w T' M' w':=by
  intro g hg ent hv
  refine ⟨v,T,_,rfl,hv,?_,⟨htok',fun _ _ _=>rfl,fun k hk=>absurd hk (Nat.not_lt_zero k),hbel.os,hbel.tape,hbel.output,hbel.size,fun b' hb' _=>hbel.block b' hb',hpr,fun k g1 b1 _ h1 h2=>?_⟩⟩
  ·rw [show ([some ⟨1,zah l,0⟩] : List (Option Ent)) = List.map some [⟨1,zah l,0⟩] from rfl,zh8]
   have z : ∀ id e,hpOf [(⟨1,zah l,0⟩ : Ent)] id = some e → id = 0 ∧ e = ⟨1,zah l,0⟩:=by
    intro id e he
    cases id with
    | zero=>simp [hpOf] at he; exact ⟨rfl,he.symm⟩
    | succ k=>simp [hpOf] at he
   refine ⟨fun id e he=>?_,fun id id' e e' _ _ _ h1 h2 _ _ _ _=>by rw [(z _ _ h1).1,(z _ _ h2).1]⟩
   obtain ⟨rfl,rfl⟩:=z _ _ he
   exact ⟨g,rfl,ent⟩
  ·by_cases hk : k = 0
   ·subst hk
    simp at h1
    subst h1
    exact .inr (hg b1 h2)
   ·simp [hk] at h1
 have hwide : ∀ row ∈ zah l,row.length = 1:=by intro row hr; simp at hr; obtain ⟨x,_,rfl⟩:=hr; rfl
 rcases hown with ⟨rfl,h0⟩ | ⟨g,cp,cur,rfl,hg,hgw,hle2,hcm,hcsz,htk⟩
 ·have h0' : l = []:=List.length_eq_zero_iff.1 h0
  subst h0'
  exact fin ⟨none,0,1⟩ (by simp) ⟨rfl,Nat.zero_le _,fun _=>hwide,(fun _=>rfl),(fun hz=>absurd hz (Nat.succ_ne_zero 0)),fun _ b' hb'=>by cases hb'⟩ (.rs _ _ _ _ _ _ _ rfl (Nat.succ_ne_zero 0) (Nat.le_refl _) (fun _=>⟨rfl,rfl⟩) fun b' hb'=>by cases hb')
 ·refine fin ⟨some g,0,1⟩ (fun b' hb'=>by cases hb'; exact hg) ⟨rfl,Nat.zero_le _,fun _=>hwide,(fun hn=>by cases hn),(fun hz=>absurd hz (Nat.succ_ne_zero 0)),fun _ b' hb'=>?_⟩ (.rs _ _ _ _ cp _ _ rfl (Nat.succ_ne_zero 0) hle2 (fun hn=>by cases hn) fun b' hb'=>?_)
  ·obtain rfl:=Option.some.inj hb'
   refine ⟨cur,3,hgw,by rw [hT0 g hg]; exact Nat.zero_le _,by simp; omega,fun i j hi hj=>?_⟩
   have hi' : i < l.length:=by simpa using hi
   obtain rfl : j = 0:=by simpa using hj
   refine ⟨.int .i64 l[i],?_,rfl,?_⟩
   ·have : (cur.toList.take (l.length * 1))[i]? = (l.map encZ)[i]?:=by rw [htk]
    rw [List.getElem?_take,if_pos (by omega)] at this
    simpa [hi',ztf] using this
   ·have e : ((zah l).getD i []).getD 0 .dead = .I l[i]:=by simp [List.getD,hi']
    rw [e]
    exact .sc _ _ rfl
  ·obtain rfl:=Option.some.inj hb'
   exact ⟨.inr (by simp),cur,3,(0,0),hgw,by simp; omega⟩
section
variable {P : Program} {np id : Nat} {h : Nat → Option Ent} {K : AV → List Nat → List (Nat × Option Ent) → Prop} {f : FuncId} {first capt args args' : List AV} {res : AV}
theorem zly (sn : List Nat) (hnp : ∀ i ∈ sn,np ≤ i) (hc : zai P f args' [] res []) (hw : (first ++ args ++ capt).map (conv [] sn h 4) = args')
  (hk : K (conv (((List.range 8).map (id + ·)).zipIdx.map fun (a,b)=>(b,a)) [] (fun _=>none) 4 res) sn (sn.filterMap fun i=>(h i).map fun e=>(i,some { e with ro:=e.rows.length }))) : aK P np id .call (.fn (.func f) first capt :: args) h K :=
 ⟨[],sn,true,args',[],res,[],by simp,by simp,fun _=>hnp,by rw [List.zipIdx_nil,hw]; exact zb0 _,rfl,hc,by simp,.inl rfl,by simpa using hk⟩
end
abbrev seqF (l : List Int) : AV:=.fn (.func zbu) [] [.pv [ints l]]
theorem zrW (l : List Int) : zai Tryz.prog zbN [ints l] [] (seqF l) []:=by
 refine zfb.acalls (nbz rfl) (nbz rfl) (Nat.le_refl _) ?_
 show awp _ 0 _ _ ⟨4,[(0,ints l)],[],16⟩
 refine rk (s:=?s1) [1] [16] rfl ?o1 ?q1
 case o1=>simp; rfl
 refine rk (s:=?s2) [2] [16] rfl ?o2 ?q2
 case o2=>simp; rfl
 refine zag ?_
 exact ⟨.inr rfl,zak.out [] [16] rfl (by simp) (by simp) (by simp) (by simp)⟩
theorem zqG (l : List Int) (hl : l.length ≤ 1099511627776) : zai Tryz.prog zcv [seqF l] [] (.rs 0 0 l.length) [some ⟨1,zah l,0⟩]:=by
 refine zgN.acalls (nbz rfl) (nbz rfl) (Nat.zero_le _) ?_
 show awp _ 0 _ _ ⟨5,[(0,seqF l)],[],16⟩
 refine rk (s:=?s1) [0] [] rfl ?o1 ?q1
 case o1=>simp; rfl
 refine rk (s:=?s2) [2] [32] rfl ?o2 ?q2
 case o2 =>
  simp
  refine zbc (zn2 l hl) (by simp) ?_
  simp [fcd]
  rfl
 refine zag ?_
 exact ⟨.inr rfl,zak.out [32] [] rfl (by simp) (by simp) (by simp) (by simp [fcd])⟩
theorem zsW (l : List Int) (hl : l.length ≤ 1099511627776) : zai Tryz.prog zbZ [seqF l] [] (.rs 0 0 l.length) [some ⟨1,zah (zfE l),0⟩]:=by
 refine zhr.acalls (nbz rfl) (nbz rfl) (Nat.zero_le _) ?_
 show awp _ 0 _ _ ⟨9,[(0,seqF l)],[],16⟩
 refine rk (s:=?s1) [0] [] rfl ?o1 ?q1
 case o1=>simp; rfl
 refine rk (s:=?s2) [3] [32] rfl ?o2 ?q2
 case o2 =>
  simp
  refine zbc (zqG l hl) (by simp) ?_
  simp [fcd]
  rfl
 refine rk (s:=?s3) [3] [32] rfl ?o3 ?q3
 case o3 =>
  simp
  refine za0 (i:=32) rfl (e':=⟨1,zeb l,0⟩) (by simp [fcd,zeb]) (zsM l (by omega)) (by simp) (by simp) ?_
  simp [fcd,zeb]
  rfl
 refine rk (s:=?s4) [2] [32] rfl ?o4 ?q4
 case o4=>simp; rfl
 refine zag ?_
 exact ⟨.inr rfl,zak.out [32] [] rfl (by simp) (by simp) (by simp) (by simp [fcd])⟩
section
variable {P : Program} {np id : Nat} {h : Nat → Option Ent} {K : AV → List Nat → List (Nat × Option Ent) → Prop} {s s' l k : Nat} {f : Bool} {rows : List (List AV)}
@[simp] theorem zvT : aK P np id (.slc s true true false) [.vs s' f rows,.sc (.int .i64 (l : Int)),.sc (.int .i64 (k : Int))] h K = (l ≤ k ∧ k ≤ rows.length ∧ s' = s ∧ K (.vs s false ((rows.drop l).take (k - l))) [] []):=by
 rw [zj4]
 refine propext ⟨?_,?_⟩
 ·rintro ⟨l',r,m,n,h1,h2,h4,h5,h6,h7,h3,h10,h8,h9⟩
  simp at h4 h1
  subst h1
  obtain ⟨rfl,rfl⟩ : l = l' ∧ k = r:=by omega
  exact ⟨h2,h3,h8,by simpa using h9⟩
 ·rintro ⟨h1,h2,h3,h4⟩
  exact ⟨l,k,0,rows.length,rfl,h1,by simp,(fun h=>by cases h),(fun h=>by cases h),(fun h=>by cases h),h2,(fun h=>by cases h),h3,by simpa using h4⟩
end
theorem zjY {g : Gr} {p : Pol} {n : Int} (hp : za6 n p) : ∀ c ∈ zaO g p,0 ≤ c ∧ c ≤ 1000:=by
 intro c hc
 obtain ⟨d,_,rfl⟩:=List.mem_map.1 hc
 exact zgP hp d
abbrev nC (n : Net) : List AV:=[.I n.nodes,eEs n.arcs]
abbrev eN (n : Net) : AV:=.agg (nC n)
theorem zmt (f : FuncId) (capt : List AV) (q : Ed → Bool) (l : List Ed) (hl : l.length ≤ 1099511627776) (hs : zjL capt) (hc : ∀ e ∈ l,zai Tryz.prog f (eE e :: capt) [] (.B (q e)) []) : zai Tryz.prog zaZ [eEs l,.fn (.func f) [] capt] [] (.I (idxQ l q)) []:=by
 have hs2 : ∀ ρ sn h,capt.map (conv ρ sn h 2) = capt:=fun _ _ _=>hs _ _ _ 1
 have hs3 : ∀ ρ sn h,capt.map (conv ρ sn h 3) = capt:=fun _ _ _=>hs _ _ _ 2
 have hs4 : ∀ ρ sn h,capt.map (conv ρ sn h 4) = capt:=fun _ _ _=>hs _ _ _ 3
 refine zcN.acalls (nbz rfl) (nbz rfl) (Nat.le_refl _) ?_
 show awp _ 0 _ _ ⟨19,[(0,eEs l),(1,.fn (.func f) [] capt)],[],16⟩
 refine zaa ?_
 refine zad (s:=?s1) rfl ?o1 ?q1
 case o1=>simp; rfl
 refine zaa ?_
 refine zaa ?_
 refine zad (s:=?s2) rfl ?o2 ?q2
 case o2=>simp; rfl
 refine zaf ?_
 refine zao (ι:=Nat) (fun k=>⟨19,[(0,eEs l),(1,.fn (.func f) [] capt),(7,.I l.length),(8,.I k)],[],16⟩) (fun k=>k ≤ l.length ∧ ∀ i,i < k → ∀ h : i < l.length,q l[i] = false) (fun k=>l.length - k) (0) ?_ (Le.snap [] rfl rfl (by simp [hs2,hs3,hs4])) ?_
 ·simp
 rintro k ⟨hk,hp⟩
 refine zaa ?_
 refine zad (s:=?s3) rfl ?o3 ?q3
 case o3=>simp; rfl
 refine zaa ?_
 refine zac _ rfl (fun h4=>?_) fun h4=>?_
 ·try simp at h4
  have hw2 : IntKind.i64.wrap ((k : Int) + 1) = (k : Int) + 1:=w64 (by omega) (by omega)
  have hck:=hc l[k] (List.getElem_mem h4)
  refine zae ?_
  refine zaa ?_
  refine zaf ?_
  refine zaa ?_
  refine zad (s:=?s5) rfl ?o5 ?q5
  case o5=>simp [h4,hw2]; rfl
  refine zaa ?_
  refine zad (s:=?s6) rfl ?o6 ?q6
  case o6 =>
   simp [h4,hw2]
   refine zaj hck ?_ ?_
   ·simp [hs2,hs3,hs4]
   simp [h4,hw2]; rfl
  refine zac _ rfl (fun h7=>?_) fun h7=>?_
  ·try simp at h7
   refine zaa ?_
   refine zad (s:=?s8) rfl ?o8 ?q8
   case o8=>simp [h4,hw2]; rfl
   refine zag ?_
   exact ⟨.inr rfl,zak.one (by simp [zpG h4 hp h7])⟩
  try simp at h7
  refine zae ?_
  refine zad (s:=?s9) rfl ?o9 ?q9
  case o9=>simp [h4,hw2]; rfl
  refine ⟨k + 1,⟨h4,fun i hi=>?_⟩,by omega,Le.snap [] rfl rfl (by simp [h4,hw2,hs2,hs3,hs4])⟩
  rcases Nat.lt_succ_iff_lt_or_eq.1 hi with h | rfl
  ·exact hp i h
  ·exact fun _=>h7
 try simp at h4
 have hall : ∀ i,i < l.length → ∀ h : i < l.length,q l[i] = false:=fun i hi=>hp i (by omega)
 refine zan ?_
 refine hit ?_
 refine zaa ?_
 refine zad (s:=?s10) rfl ?o10 ?q10
 case o10=>simp; rfl
 refine zag ?_
 exact ⟨.inr rfl,zak.one (by simp [zpa hall])⟩
theorem zjh (f : FuncId) (capt : List AV) (q : Ed → Bool) (l : List Ed) (hl : l.length ≤ 1099511627776) (hs : zjL capt) (hc : ∀ e ∈ l,zai Tryz.prog f (eE e :: capt) [] (.B (q e)) []) : zai Tryz.prog zaT [eEs l,.fn (.func f) [] capt] [] (.B (l.any q)) []:=by
 have hs2 : ∀ ρ sn h,capt.map (conv ρ sn h 2) = capt:=fun _ _ _=>hs _ _ _ 1
 have hs3 : ∀ ρ sn h,capt.map (conv ρ sn h 3) = capt:=fun _ _ _=>hs _ _ _ 2
 have hs4 : ∀ ρ sn h,capt.map (conv ρ sn h 4) = capt:=fun _ _ _=>hs _ _ _ 3
 refine zcl.acalls (nbz rfl) (nbz rfl) (Nat.le_refl _) ?_
 show awp _ 0 _ _ ⟨9,[(0,eEs l),(1,.fn (.func f) [] capt)],[],16⟩
 refine zaa ?_
 refine zad (s:=?s1) rfl ?o1 ?q1
 case o1=>simp; rfl
 have hi : decide (0 ≤ idxQ l q) = l.any q:=by
  unfold idxQ
  by_cases h : l.findIdx q < l.length
  ·rw [if_pos h]
   have:=List.findIdx_getElem (w:=h)
   have h2 : l.any q = true:=List.any_eq_true.2 ⟨_,List.getElem_mem h,this⟩
   rw [h2]
   simp
  ·rw [if_neg h]
   have : l.findIdx q = l.length:=by have:=List.findIdx_le_length (xs:=l) (p:=q); omega
   rw [List.findIdx_eq_length] at this
   have h2 : l.any q = false:=by
    rw [List.any_eq_false]
    intro x hx
    simp [this x hx]
   rw [h2]
   simp
 refine zab ⟨9,[(4,.B (l.any q))],[],16⟩ rfl ?_ ?_
 ·simp
  refine zaj (zmt f capt q l hl hs hc) ?_ ?_
  ·simp [hs2,hs3,hs4]
  simp
  exact Le.snap [] rfl rfl (by simp; exact wkB hi)
 refine zag ?_
 exact ⟨.inr rfl,zak.one (by simp)⟩
theorem zjf (n : Net) (a : Ed) (h2 : 2 ≤ n.nodes) (h3 : n.nodes ≤ 130) : zai Tryz.prog zdi [eE a,.pv (nC n)] [] (.B (!decide (zji n.nodes a))) []:=by
 refine zkX.acalls (nbz rfl) (nbz rfl) (Nat.le_refl _) ?_
 show awp _ 0 _ _ ⟨43,[(0,eE a),(1,.pv (nC n))],[],16⟩
 have hw : IntKind.i64.wrap (n.nodes - 1) = n.nodes - 1:=w64 (by omega) (by omega)
 refine rx (s:=?s1) [1,2] [] [16] rfl ?o1 ?q1
 case o1=>simp; rfl
 refine zab ⟨43,[(3,.B (!decide (zji n.nodes a)))],[],400⟩ rfl ?_ ?_
 ·simp [hw]
  repeat' first
   | (refine zdN zaQ rfl ?_; refine zaj (zbo ..) rfl ?_; simp [hw])
   | (refine zci (fun hb=>?_) (fun hb=>?_) <;> (try rw [hb]) <;> (try simp at hb) <;> simp [hb,hw])
  all_goals exact Le.snap [] rfl rfl (by simp <;> exact wkB (by (try simp at *); grind [zji]))
 refine zag ?_
 exact ⟨.inr rfl,zak.one (by simp)⟩
theorem ze0 (n : Net) (hl : n.arcs.length ≤ 1099511627776) : zai Tryz.prog zd6 [eN n] [] (.I (if za8 n then 0 else 16)) []:=by
 refine zoW.acalls (nbz rfl) (nbz rfl) (Nat.le_refl _) ?_
 show awp _ 0 _ _ ⟨21,[(0,eN n)],[],16⟩
 refine rx (s:=?s1) [1] [] [16] rfl ?o1 ?q1
 case o1=>simp; rfl
 refine rx (s:=?s2) [1,3] [] [] rfl ?o2 ?q2
 case o2=>simp; rfl
 refine zaa ?_
 refine zab ⟨21,[(20,.B (!decide (za8 n)))],[],300⟩ rfl ?_ ?_
 ·by_cases h2 : 2 ≤ n.nodes ∧ n.nodes ≤ 130
  ·have hcf:=zjh zdi [.pv (nC n)] (fun a=>!decide (zji n.nodes a)) n.arcs hl (fun ρ sn h k=>by simp) (fun e _=>zjf n e h2.1 h2.2)
   simp
   refine zaj (zbo ..) rfl ?_
   simp [h2]
   by_cases h3 : n.arcs.length ≤ 1200
   ·simp [show ¬ (1200 < n.arcs.length) by omega,show ¬ (1200 < (n.arcs.length : Int)) by omega]
    refine zaj hcf (by simp) ?_
    simp
    refine Le.snap [] rfl rfl (by simp <;> exact wkB (by rw [Bool.eq_iff_iff]; simp [za8,h2,h3]))
   ·simp [show (1200 < n.arcs.length) by omega,show (1200 < (n.arcs.length : Int)) by omega]
    refine Le.snap [] rfl rfl (by simp [za8,h3])
  ·simp
   refine zaj (zbo ..) rfl ?_
   have h2' : (decide (2 ≤ n.nodes) && decide (n.nodes ≤ 130)) = false:=by simpa using fun h=>by omega
   simp [h2']
   have hn : ¬ za8 n:=fun h=>h2 ⟨h.1,h.2.1⟩
   refine Le.snap [] rfl rfl (by simp [hn])
 refine zac _ rfl (fun h7=>?_) fun h7=>?_
 ·simp at h7
  refine rx (s:=?s8) [2] [] [] rfl ?o8 ?q8
  case o8=>simp; rfl
  refine zag ?_
  exact ⟨.inr rfl,zak.one (by simp [h7])⟩
 simp at h7
 refine zae ?_
 refine rx (s:=?s9) [2] [] [] rfl ?o9 ?q9
 case o9=>simp; rfl
 refine zag ?_
 exact ⟨.inr rfl,zak.one (by simp [h7])⟩
def zqs (n : Net) : Prop:=(2 ≤ n.nodes ∧ n.nodes ≤ 130) ∧ n.arcs.length ≤ 1200
def zsS (n : Net) (i : Nat) : Prop:=∀ h : i < n.arcs.length,zji n.nodes n.arcs[i]
theorem ziz {n : Net} : za8 n ↔ zqs n ∧ ∀ i,zsS n i:=by
 unfold za8 zqs zsS
 constructor
 ·rintro ⟨a,b,c,d⟩
  exact ⟨⟨⟨a,b⟩,c⟩,fun i h=>d _ (List.getElem_mem h)⟩
 ·rintro ⟨⟨⟨a,b⟩,c⟩,d⟩
  exact ⟨a,b,c,fun x hx=>by obtain ⟨i,hi,rfl⟩:=List.getElem_of_mem hx; exact d i hi⟩
set_option maxRecDepth 100000 in
open Classical in
theorem zeC (n : Net) (hl : n.arcs.length ≤ 1099511627776) : zai Tryz.prog zeu [eN n] [] (.I (if za8 n then 0 else 16)) []:=by
 refine znK.acalls (nbz rfl) (nbz rfl) (Nat.le_refl _) ?_
 show awp _ 0 _ _ ⟨80,[(0,eN n)],[],16⟩
 refine rx (s:=?s1) [1] [] [16] rfl ?o1 ?q1
 case o1=>simp; rfl
 refine zaa ?_
 refine zab ⟨80,[(1,.pv (nC n)),(18,.B (!decide (zqs n)))],[],300⟩ rfl ?_ ?_
 ·simp
  repeat' first
   | (refine zci (fun hb=>?_) (fun hb=>?_) <;> (try rw [hb]) <;> (try simp at hb) <;> simp [hb])
  all_goals exact Le.snap [] rfl rfl (by simp <;> exact wkB (by (try simp at *); grind [zqs]))
 refine zac _ rfl (fun h3=>?_) fun h3=>?_
 ·simp at h3
  refine rx (s:=?s4) [2] [] [] rfl ?o4 ?q4
  case o4=>simp; rfl
  refine zag ?_
  exact ⟨.inr rfl,zak.one (by simp [ziz,h3])⟩
 simp at h3
 refine zae ?_
 refine zaa ?_
 refine rx (s:=?s5) [1,3] [] [] rfl ?o5 ?q5
 case o5=>simp; rfl
 refine zaf ?_
 refine zao (ι:=Nat) (fun i=>⟨80,[(1,.pv (nC n)),(3,.I i)],[],308⟩) (fun i=>i ≤ n.arcs.length ∧ ∀ k,k < i → zsS n k) (fun i=>n.arcs.length - i) 0 (by simp) (LeH [] []) ?_
 rintro i ⟨hi,hp⟩
 refine zaa ?_
 refine rx (s:=?s6) [1,3,23] [] [] rfl ?o6 ?q6
 case o6=>simp; rfl
 refine zac _ rfl (fun h7=>?_) fun h7=>?_
 ·simp at h7
  have hw : IntKind.i64.wrap ((i : Int) + 1) = (i : Int) + 1:=w64 (by omega) (by omega)
  refine zae ?_
  refine zaa ?_
  refine zaf ?_
  refine zab ⟨80,[(1,.pv (nC n)),(3,.I i),(4,.pv (eC n.arcs[i]))],[],408⟩ rfl ?_ ?_
  ·simp [h7]
   exact Le.snap [388] rfl rfl (by simp)
  refine zab ⟨80,[(1,.pv (nC n)),(3,.I i),(79,.B (!decide (zsS n i)))],[],900⟩ rfl ?_ ?_
  ·simp
   have hat : zsS n i ↔ zji n.nodes n.arcs[i]:=⟨fun h=>h h7,fun h _=>h⟩
   repeat' first
    | (refine zci (fun hb=>?_) (fun hb=>?_) <;> (try rw [hb]) <;> (try simp at hb) <;> simp [hb])
   all_goals exact Le.snap [] rfl rfl (by simp <;> exact wkB (by (try simp at *); simp only [hat]; grind [zji]))
  refine zac _ rfl (fun h9=>?_) fun h9=>?_
  ·refine rx (s:=?s10) [2] [] [] rfl ?o10 ?q10
   case o10=>simp; rfl
   refine zag ?_
   have hn : ¬ za8 n:=fun h=>by simp at h9; exact h9 ((ziz.1 h).2 i)
   exact ⟨.inr rfl,zak.one (by simp [hn])⟩
  simp at h9
  refine zae ?_
  refine zad (s:=?s11) rfl ?o11 ?q11
  case o11=>simp; rfl
  refine ⟨i + 1,⟨h7,fun k hk=>?_⟩,by omega,Le.go [] [] rfl rfl (by simp [hw]) (by simp)⟩
  rcases Nat.lt_succ_iff_lt_or_eq.1 hk with h | rfl
  ·exact hp k h
  ·exact h9
 simp at h7
 have hy : za8 n:=ziz.2 ⟨h3,fun k hk=>hp k (by omega) hk⟩
 refine zan ?_
 refine hit ?_
 refine rx (s:=?s12) [2] [] [] rfl ?o12 ?q12
 case o12=>simp; rfl
 refine zag ?_
 exact ⟨.inr rfl,zak.one (by simp [hy])⟩
variable {g : Gr} {S : List Int} {key : Int}
variable {g : Gr} {S : List Int} {key : Int}
section
variable {P : Program} {np id : Nat} {h : Nat → Option Ent} {K : AV → List Nat → List (Nat × Option Ent) → Prop}
theorem zvz {s i off len : Nat} (l : Nat) {e : Ent} (he : h i = some e) (hs : e.s = s) (hl : l ≤ len) (hK : K (.rs i (off + l) (len - l)) [i] []) : aK P np id (.slc s true false false) [.rs i off len,.sc (.int .i64 l)] h K:=by
 rw [zj4]
 exact ⟨l,len,0,len,rfl,hl,rfl,by simp,by simp,by simp,Nat.le_refl _,rfl,⟨e,he,hs⟩,hK⟩
end
structure BSt where
 D : List Int
 b : List Int
 Z : List Int
 off : Nat
 q : Nat
structure BInv (N : Nat) (A : List Ed) (f : List Int) (s : BSt) (m : Nat) : Prop where
 bfs : Bfs N A f s.D s.b
 z : s.off + s.q = s.Z.length
 d : m + s.q = s.D.length
 same : s.Z.drop s.off = s.D.drop m
section
variable {N : Nat} {A : List Ed} {f : List Int}
theorem BInv.more {s : BSt} {m : Nat} (h : BInv N A f s m) {x : Int} {b' : List Int} (hb : Bfs N A f (s.D ++ [x]) b') : BInv N A f ⟨s.D ++ [x],b',s.Z.drop s.off ++ [x],0,s.q + 1⟩ m:=by
 have h1:=h.z
 have h2:=h.d
 refine ⟨hb,?_,?_,?_⟩
 ·simp only [List.length_append,List.length_drop,List.length_singleton]; omega
 ·simp only [List.length_append,List.length_singleton]; omega
 ·simp only [List.drop_zero]
  rw [h.same,List.drop_append_of_le_length (by omega)]
theorem BInv.pop {s : BSt} {m : Nat} (h : BInv N A f s m) (hq : 0 < s.q) : BInv N A f { s with off:=s.off + 1,q:=s.q - 1 } (m + 1):=by
 have h1:=h.z
 have h2:=h.d
 refine ⟨h.bfs,by simp only; omega,by simp only; omega,?_⟩
 simp only
 rw [← List.drop_drop,h.same,List.drop_drop]
theorem BInv.head {s : BSt} {m : Nat} (h : BInv N A f s m) (hq : 0 < s.q) : ∃ hm : m < s.D.length,s.Z[s.off]? = some s.D[m]:=by
 have h1:=h.z
 have h2:=h.d
 refine ⟨by omega,?_⟩
 have e : (s.Z.drop s.off)[0]? = (s.D.drop m)[0]?:=by rw [h.same]
 rw [List.getElem?_drop,List.getElem?_drop,Nat.add_zero,Nat.add_zero] at e
 rw [e,List.getElem?_eq_getElem (by omega)]
end
theorem znP {α : Type} {l : List α} (h : l.Nodup) : l.reverse.Nodup:=List.pairwise_reverse.2 (h.imp fun hne e=>hne e.symm)
theorem zt0 {v : Int} (hv : v ≠ 0) : encS (decS v) = v:=by
 unfold decS encS
 by_cases h : 0 < v
 ·rw [if_pos h]; simp; omega
 ·rw [if_neg h]; simp; omega
def endW (A : List Ed) (u : Int) (l : List Stp) : Nat → Int
 | 0=>u
 | j + 1=>stT A (l.getD j (0,false))
theorem zoj {A : List Ed} {u : Int} {s : Stp} {l : List Stp} (j : Nat) : endW A u (s :: l) (j + 1) = endW A (stT A s) l j:=by
 cases j <;> rfl
theorem ztN {A : List Ed} : ∀ {l : List Stp} {u w : Int},WayS A u l w → ∀ j (hj : j < l.length),stF A l[j] = endW A u l j
 | s :: l,u,w,h,0,_=>h.2.1
 | s :: l,u,w,h,j + 1,hj=>by
   rw [zoj]
   exact ztN h.2.2 j (by simpa using hj)
theorem zsq {A : List Ed} : ∀ {l : List Stp} {u w : Int},WayS A u l w → endW A u l l.length = w
 | [],u,w,h=>h
 | s :: l,u,w,h=>by
   rw [List.length_cons,zoj]
   exact zsq h.2.2
variable {N : Nat} {A : List Ed} {f D b : List Int}
structure zlJ (N : Nat) (A : List Ed) (f b : List Int) (l : List Stp) : Prop where
 way : WayS A 0 l 1
 nodup : (l.map (·.1)).Nodup
 at_ : ∀ j (h : j < l.length),l[j].1 < A.length ∧ 0 < zb2 A f l[j] ∧ stT A l[j] ≠ 0 ∧ 0 ≤ stT A l[j] ∧ stT A l[j] < N ∧ b.getD (stT A l[j]).toNat 0 = encS l[j]
theorem Bfs.chain (h : Bfs N A f D b) (h1 : (1 : Int) ∈ D) : ∃ l,zlJ N A f b l:=by
 obtain ⟨j,hj,hx⟩:=List.mem_iff_getElem.1 h1
 obtain ⟨l,l1,l2,l3⟩:=h.tree.way j j hj (Nat.le_refl _)
 rw [hx] at l1
 refine ⟨l,l1,l2,fun i hi=>?_⟩
 obtain ⟨q1,q2,q3,q4,_,q5⟩:=l3 _ (List.getElem_mem hi)
 have hm:=List.mem_of_mem_take q5
 have hr:=h.rng _ hm
 have hne:=h.inn _ hm q4
 refine ⟨q1,q2,q4,hr.1,hr.2,?_⟩
 rw [← zt0 hne,q3]
theorem zlJ.from_ {l : List Stp} (h : zlJ N A f b l) (j : Nat) (hj : j < l.length) : stF A l[j] = endW A 0 l j:=ztN h.way j hj
def zfx (v : Int) (f : List Int) (l : List Stp) (j : Nat) : List Int:=zgL v f (l.drop j).reverse
theorem zrK (v : Int) (f : List Int) (l : List Stp) : zfx v f l l.length = f:=by simp [zfx,zgL]
theorem zrp (v : Int) (f : List Int) (l : List Stp) (j : Nat) : (zfx v f l j).length = f.length:=zfD
theorem zqV {v : Int} {f : List Int} {l : List Stp} (j : Nat) (hj : j < l.length) : zfx v f l j = zhc v (zfx v f l (j + 1)) l[j]:=by
 unfold zfx zgL
 rw [List.drop_eq_getElem_cons hj,List.reverse_cons,List.foldl_append]
 rfl
theorem zsd {v : Int} {l : List Stp} (hn : (l.map (·.1)).Nodup) (hr : ∀ s ∈ l,s.1 < f.length) (j : Nat) (hj : j < l.length) : (zfx v f l (j + 1)).getD l[j].1 0 = f.getD l[j].1 0:=by
 refine (zfB (δ:=v) (f:=f) (i:=l[j].1) (l:=(l.drop (j + 1)).reverse) ?_ ?_).1 ?_
 ·rw [List.map_reverse]
  refine znP ?_
  exact hn.sublist ((List.drop_sublist _ _).map _)
 ·intro s hs
  exact hr s (List.mem_of_mem_drop (List.mem_reverse.1 hs))
 ·rw [List.map_reverse,List.mem_reverse]
  intro hm
  obtain ⟨s,hs,he⟩:=List.mem_map.1 hm
  obtain ⟨i,hi,rfl⟩:=List.mem_iff_getElem.1 hs
  rw [List.length_drop] at hi
  rw [List.getElem_drop] at he
  have h1:=(List.pairwise_iff_getElem.1 hn) j (j + 1 + i) (by rw [List.length_map]; exact hj) (by rw [List.length_map]; omega) (by omega)
  rw [List.getElem_map,List.getElem_map] at h1
  exact h1 he.symm
theorem zrv {v : Int} {l : List Stp} (hn : (l.map (·.1)).Nodup) (hr : ∀ s ∈ l,s.1 < f.length) : zfx v f l 0 = zgL v f l:=by
 unfold zfx
 rw [List.drop_zero]
 have hn' : (l.reverse.map (·.1)).Nodup:=by rw [List.map_reverse]; exact znP hn
 have hr' : ∀ s ∈ l.reverse,s.1 < f.length:=fun s hs=>hr s (List.mem_reverse.1 hs)
 apply List.ext_getElem (by rw [zfD,zfD])
 intro i h1 h2
 have e : ∀ (L : List Int) (h : i < L.length),L[i] = L.getD i 0:=fun L h=>by rw [List.getD_eq_getElem?_getD,List.getElem?_eq_getElem h,Option.getD_some]
 rw [e _ h1,e _ h2]
 have g1:=zfB (δ:=v) (f:=f) (i:=i) hn' hr'
 have g2:=zfB (δ:=v) (f:=f) (i:=i) hn hr
 by_cases hm : i ∈ l.map (·.1)
 ·obtain ⟨s,hs,rfl⟩:=List.mem_map.1 hm
  rw [g1.2 s.2 (List.mem_reverse.2 hs),g2.2 s.2 hs]
 ·rw [g1.1 (by rw [List.map_reverse,List.mem_reverse]; exact hm),g2.1 hm]
theorem zlJ.push {l : List Stp} (hn : zd2 N A) (hf : zaB N A f) (h : zlJ N A f b l) {v : Int} (h0 : 0 ≤ v) (hv : ∀ s ∈ l,v ≤ zb2 A f s) : zaB N A (zfx v f l 0) ∧ valF A (zfx v f l 0) = valF A f + v:=by
 have hr : ∀ s ∈ l,s.1 < A.length:=fun s hs=>by
  obtain ⟨i,hi,rfl⟩:=List.mem_iff_getElem.1 hs
  exact (h.at_ i hi).1
 rw [zrv h.nodup fun s hs=>by rw [hf.fit.len]; exact hr s hs]
 exact zt7 hn hf h0 h.way h.nodup fun s hs=>⟨hr s hs,hv s hs⟩
theorem zgk {A : List Ed} {N : Nat} (h : za8 ⟨N,A⟩) : zd2 N A:=by
 obtain ⟨h1,_,_,h4⟩:=h
 simp only at h1 h4
 refine ⟨by omega,fun e he=>?_⟩
 obtain ⟨q1,q2,q3,q4,q5,q6,q7,q8,_⟩:=h4 e he
 exact ⟨q1,by omega,q3,by omega,q5,q6,q7,q8⟩
theorem zrO {P Q : List (List Int)} (h : P.Perm Q) (k : Int) : begC P k = begC Q k:=h.countP_eq _
theorem zry {P Q : List (List Int)} (h : P.Perm Q) (k : Int) : useC P k = useC Q k:=(h.flatMap_right _).count_eq k
theorem ztA {P Q : List (List Int)} (h : P.Sublist Q) (k : Int) : begC P k ≤ begC Q k:=h.countP_le
theorem ztl {P Q : List (List Int)} (h : P.Sublist Q) (k : Int) : useC P k ≤ useC Q k:=by
 unfold useC
 induction h with
 | slnil=>exact Nat.le_refl _
 | cons a _ ih=>rw [List.flatMap_cons,List.count_append]; omega
 | cons_cons a _ ih=>rw [List.flatMap_cons,List.flatMap_cons,List.count_append,List.count_append]; omega
theorem zmN.perm {c : List Int} {P Q : List (List Int)} (h : zmN c P) (hp : P.Perm Q) : zmN c Q:=fun k hk=>by
 rw [← zrO hp,← zry hp]
 exact h k hk
theorem zmN.sub {c : List Int} {P Q : List (List Int)} (h : zmN c Q) (hs : P.Sublist Q) : zmN c P:=fun k hk=>by
 have h1:=h k hk
 have h2:=ztA hs k
 have h3:=ztl hs k
 omega
theorem zqE {P Q : List (List Int)} (h : P.Perm Q) : (ziw P).Perm (ziw Q):=h.filterMap _
theorem ziq.perm {g : Gr} {lv : Int} {seeds order c : List Int} {P Q : List (List Int)} {ends ends' : List Int} (h : ziq g lv seeds order c P ends) (hp : P.Perm Q) (he : ends.Perm ends') : ziq g lv seeds order c Q ends' :=
 ⟨fun w hw=>h.1 w (hp.mem_iff.2 hw),h.2.1.perm hp,zgn.2 (((zqE hp).symm.trans (zgn.1 h.2.2)).trans he)⟩
theorem zkz {N : Nat} {A : List Ed} (hn : zd2 N A) : zaB N A (A.map fun _=>0):=by
 have hs : ∀ (φ : Ed → Int → Int),(∀ e,φ e 0 = 0) → ∀ A : List Ed,sumF φ A (A.map fun _=>0) = 0:=by
  intro φ hφ A
  induction A with
  | nil=>simp [sumF]
  | cons e A ih=>simp only [List.map_cons,sumF]; rw [hφ,ih]; omega
 refine ⟨?_,fun x _ _=>?_⟩
 ·have h0 : ∀ B : List Ed,(∀ e ∈ B,0 ≤ e.v) → Fit2 B (B.map fun _=>0):=by
   intro B
   induction B with
   | nil=>intro _; exact True.intro
   | cons e B ih=>intro h; exact ⟨⟨Int.le_refl _,h e (List.mem_cons_self ..)⟩,ih fun x hx=>h x (List.mem_cons_of_mem _ hx)⟩
  exact h0 A fun e he=>(hn.arc e he).2.2.2.2.2.2.2
 ·unfold outF inF
  rw [hs _ fun e=>by split <;> rfl,hs _ fun e=>by split <;> rfl]
theorem zeZ {N : Nat} {A : List Ed} (hn : zd2 N A) : ∃ f,zaB N A f ∧ ∀ f',zaB N A f' → valF A f' ≤ valF A f:=by
 have hb : ∀ f,zaB N A f → valF A f ≤ capS (fun x=>decide (x = 0)) A:=fun f hf=>zeL hn hf (by simp) (by simp)
 have key : ∀ (n : Nat) (f : List Int),zaB N A f → capS (fun x=>decide (x = 0)) A - valF A f ≤ n → ∃ f,zaB N A f ∧ ∀ f',zaB N A f' → valF A f' ≤ valF A f:=by
  intro n
  induction n with
  | zero =>
    intro f hf h
    exact ⟨f,hf,fun f' hf'=>by have:=hb f' hf'; omega⟩
  | succ n ih =>
    intro f hf h
    by_cases hm : ∀ f',zaB N A f' → valF A f' ≤ valF A f
    ·exact ⟨f,hf,hm⟩
    ·obtain ⟨f',hf'⟩:=Classical.not_forall.1 hm
     obtain ⟨h1,h2⟩:=Classical.not_imp.1 hf'
     exact ih f' h1 (by omega)
 exact key _ _ (zkz hn) (Int.self_le_toNat _)
noncomputable def maxF (N : Nat) (A : List Ed) : Int:=open Classical in if h : ∃ f,zaB N A f ∧ ∀ f',zaB N A f' → valF A f' ≤ valF A f then valF A h.choose else 0
theorem zig {N : Nat} {A : List Ed} {f : List Int} (hf : zaB N A f) (hm : ∀ f',zaB N A f' → valF A f' ≤ valF A f) : maxF N A = valF A f:=by
 have h : ∃ f,zaB N A f ∧ ∀ f',zaB N A f' → valF A f' ≤ valF A f:=⟨f,hf,hm⟩
 unfold maxF
 rw [dif_pos h]
 have h1:=h.choose_spec
 have h2:=hm _ h1.1
 have h3:=h1.2 _ hf
 omega
theorem zsP {N : Nat} {A : List Ed} (hn : zd2 N A) {f : List Int} (hf : zaB N A f) : valF A f ≤ maxF N A:=by
 obtain ⟨m,h1,h2⟩:=zeZ hn
 rw [zig h1 h2]
 exact h2 f hf
theorem zp1 {N : Nat} {A : List Ed} (hn : zd2 N A) : ∃ f,zaB N A f ∧ valF A f = maxF N A:=by
 obtain ⟨m,h1,h2⟩:=zeZ hn
 exact ⟨m,h1,(zig h1 h2).symm⟩
def zr4 (A : List Ed) (f : List Int) (l : List Stp) (j : Nat) (v : Int) : Prop:=∀ t ∈ l.drop j,v ≤ zb2 A f t
theorem zhT {φ : Ed → Int → Int} : ∀ {A : List Ed} {f : List Int} (i : Nat) (h1 : i < A.length) (h2 : i < f.length),sumF φ (A.take (i + 1)) (f.take (i + 1)) = sumF φ (A.take i) (f.take i) + φ A[i] f[i]
 | e :: A,v :: f,0,_,_=>by simp [sumF]
 | e :: A,v :: f,i + 1,h1,h2=>by
   have:=zhT (φ:=φ) (A:=A) (f:=f) i (by simpa using h1) (by simpa using h2)
   simp only [List.take_succ_cons,sumF,this,List.getElem_cons_succ]
   omega
def netG (A : List Ed) (f : List Int) (i : Nat) (x : Int) : Int:=inF (A.take i) (f.take i) x - outF (A.take i) (f.take i) x
variable {N : Nat} {A : List Ed} {f : List Int}
theorem zf5 (x : Int) : netG A f 0 x = 0:=by simp [netG,inF,outF,sumF]
theorem zfF {i : Nat} (h1 : i < A.length) (h2 : i < f.length) (x : Int) : netG A f (i + 1) x = netG A f i x + (if A[i].t = x then f[i] else 0) - if A[i].f = x then f[i] else 0:=by
 unfold netG inF outF
 rw [zhT i h1 h2,zhT i h1 h2]
 omega
theorem zm6 (hl : f.length = A.length) (x : Int) : netG A f A.length x = - exF A f x:=by
 unfold netG exF
 rw [List.take_of_length_le (Nat.le_refl _),List.take_of_length_le (by omega)]
 omega
theorem zil (hl : f.length = A.length) (hb : ∀ j (h : j < f.length),0 ≤ f[j] ∧ f[j] ≤ 1048576) (x : Int) : ∀ i,i ≤ A.length → -(1048576 * (i : Int)) ≤ netG A f i x ∧ netG A f i x ≤ 1048576 * (i : Int)
 | 0,_=>by rw [zf5]; omega
 | i + 1,h=>by
   have ih:=zil hl hb x i (by omega)
   have h2:=hb i (by omega)
   rw [zfF (by omega) (by omega)]
   split <;> split <;> omega
theorem znO {i : Nat} (h1 : i < A.length) (h2 : i < f.length) (x : Int) : outF (A.take (i + 1)) (f.take (i + 1)) x = outF (A.take i) (f.take i) x + if A[i].f = x then f[i] else 0:=by
 unfold outF
 rw [zhT i h1 h2]
theorem zlj (hl : f.length = A.length) (hb : ∀ j (h : j < f.length),0 ≤ f[j] ∧ f[j] ≤ 1048576) (x : Int) : ∀ i,i ≤ A.length → 0 ≤ outF (A.take i) (f.take i) x ∧ outF (A.take i) (f.take i) x ≤ 1048576 * (i : Int)
 | 0,_=>by simp [outF,sumF]
 | i + 1,h=>by
   have ih:=zlj hl hb x i (by omega)
   have h2:=hb i (by omega)
   rw [znO (by omega) (by omega)]
   split <;> omega
def rowR (N : Nat) (g : Int → Int) : List Int:=(List.range N).map fun k : Nat=>g k
theorem zfa (N : Nat) (g : Int → Int) : (rowR N g).length = N:=by simp [rowR]
theorem zcR {g : Int → Int} {x : Int} (h0 : 0 ≤ x) (h1 : x < N) : (rowR N g)[x.toNat]? = some (g x):=by
 unfold rowR
 rw [List.getElem?_map,List.getElem?_range (by omega)]
 simp only [Option.map_some,Int.toNat_of_nonneg h0]
theorem zgg {g : Int → Int} {x v : Int} (h0 : 0 ≤ x) (h1 : x < N) : (rowR N g).set x.toNat v = rowR N fun y=>if y = x then v else g y:=by
 apply List.ext_getElem?
 intro j
 by_cases hj : j < N
 ·have e1:=zcR (N:=N) (g:=fun y=>if y = x then v else g y) (x:=(j : Int)) (by omega) (by omega)
  have e2:=zcR (N:=N) (g:=g) (x:=(j : Int)) (by omega) (by omega)
  simp only [Int.toNat_natCast] at e1 e2
  rw [List.getElem?_set,e1,e2,zfa]
  by_cases hx : x.toNat = j
  ·rw [if_pos hx,if_pos (by omega),if_pos (by omega)]
  ·rw [if_neg hx,if_neg (by omega)]
 ·rw [List.getElem?_eq_none (by rw [List.length_set,zfa]; omega),List.getElem?_eq_none (by rw [zfa]; omega)]
theorem zgj {g h : Int → Int} (e : ∀ x,g x = h x) : rowR N g = rowR N h:=by
 obtain rfl : g = h:=funext e
 rfl
set_option maxRecDepth 100000 in
set_option maxHeartbeats 4000000 in
theorem ziR (hn : za8 ⟨N,A⟩) (hf : zaB N A f) : zai Tryz.prog zds [eN ⟨N,A⟩,ints f] [] (.B true) []:=by
 refine ziF.acalls (nbz rfl) (nbz rfl) (Nat.le_refl _) ?_
 show awp _ 0 _ _ ⟨87,[(0,eN ⟨N,A⟩),(1,ints f)],[],16⟩
 have hfl:=hf.fit.len
 have hfit:=zdo.1 hf.fit
 have hchk:=zeC ⟨N,A⟩ (by have:=hn.2.2.1; simp only at this ⊢; omega)
 rw [if_pos hn] at hchk
 obtain ⟨hn0,hn1,hal,hav⟩:=hn
 simp only at hn0 hn1 hal hav
 have hfb : ∀ j (h : j < f.length),0 ≤ f[j] ∧ f[j] ≤ (A[j]'(by omega)).v ∧ (A[j]'(by omega)).v ≤ 1048576:=fun j hj=>by
  have h1:=hfit.2 j (by omega)
  have e1 : f.getD j 0 = f[j]:=by rw [List.getD_eq_getElem?_getD,List.getElem?_eq_getElem hj,Option.getD_some]
  have e2 : arcD A j = A[j]'(by omega):=by unfold arcD; rw [List.getD_eq_getElem?_getD,List.getElem?_eq_getElem (by omega),Option.getD_some]
  rw [e1,e2] at h1
  exact ⟨h1.1,h1.2,(hav _ (List.getElem_mem (by omega))).2.2.2.2.2.2.2.2⟩
 have hbd:=zil hfl fun j hj=>⟨(hfb j hj).1,by have:=hfb j hj; omega⟩
 refine rx (s:=?s1) [1,2] [] [16] rfl ?o1 ?q1
 case o1=>simp; rfl
 refine zaa ?_
 refine zab ⟨87,[(1,ints f),(2,.pv (nC ⟨N,A⟩)),(18,.B false)],[],120⟩ rfl ?_ ?_
 ·simp
  refine zaj hchk (by simp) ?_
  simp
  exact Le.snap [] rfl rfl (by simp <;> exact wkB (by simp [hfl]))
 refine zac _ rfl (fun h3=>by cases h3) fun _=>?_
 refine zae ?_
 refine zab ⟨87,[(1,ints f),(2,.pv (nC ⟨N,A⟩)),(5,.rs 136 0 N)],[(136,some ⟨1,zah (rowR N (netG A f 0)),0⟩)],144⟩ rfl ?_ ?_
 ·simp
  refine ⟨by omega,by omega,?_⟩
  have : rowR N (netG A f 0) = List.replicate N 0:=by
   unfold rowR
   simp only [zf5]
   simp [List.map_const']
  rw [this]
  exact LeH [(136,136)] []
 refine zaa ?_
 refine zab ⟨87,[(1,ints f),(2,.pv (nC ⟨N,A⟩)),(5,.rs 136 0 N),(6,.I 0)],[(136,some ⟨1,zah (rowR N (netG A f 0)),0⟩)],160⟩ rfl ?_ ?_
 ·simp
  exact LeI [(136,136)] []
 refine zaf ?_
 refine zao (ι:=Nat) (fun i=>⟨87,[(1,ints f),(2,.pv (nC ⟨N,A⟩)),(5,.rs 136 0 N),(6,.I i)],[(136,some ⟨1,zah (rowR N (netG A f i)),0⟩)],160⟩) (fun i=>i ≤ A.length) (fun i=>A.length - i) 0 (Nat.zero_le _) (LeI [(136,136)] []) ?_
 intro i hi
 refine zaa ?_
 refine zab ⟨87,[(1,ints f),(2,.pv (nC ⟨N,A⟩)),(5,.rs 136 0 N),(6,.I i),(25,.B (decide (i < f.length)))],[(136,some ⟨1,zah (rowR N (netG A f i)),0⟩)],192⟩ rfl ?_ ?_
 ·simp
  exact LeI [(136,136)] []
 refine zac _ rfl (fun h8=>?_) fun h8=>?_
 ·simp at h8
  have hiA : i < A.length:=by omega
  have hw1 : IntKind.i64.wrap ((i : Int) + 1) = (i : Int) + 1:=w64 (by omega) (by omega)
  obtain ⟨b1,b2,b3⟩:=hfb i h8
  have heo:=hav _ (List.getElem_mem hiA)
  have hsucc:=zfF hiA h8
  have hbe:=fun x=>hbd x i (by omega)
  obtain ⟨e,he⟩ : ∃ e,e = A[i]:=⟨_,rfl⟩
  obtain ⟨w,hw⟩ : ∃ w,w = f[i]:=⟨_,rfl⟩
  rw [← he,← hw] at hsucc b2
  rw [← hw] at b1
  rw [← he] at b3 heo
  obtain ⟨e1,e2,e3,e4,e5,_⟩:=heo
  have hg1 : A[i]? = some e:=by rw [List.getElem?_eq_getElem hiA,he]
  have hg2 : f[i]? = some w:=by rw [List.getElem?_eq_getElem h8,hw]
  have h2N : e.f < (N : Int) ∧ e.t < (N : Int):=by omega
  have h1:=hbe e.f
  have h2:=hbe e.t
  have hwx : IntKind.i64.wrap (netG A f i e.f - w) = netG A f i e.f - w:=w64 (by omega) (by omega)
  have hwy : IntKind.i64.wrap (netG A f i e.t + w) = netG A f i e.t + w:=w64 (by omega) (by omega)
  have hr1:=zcR (N:=N) (g:=netG A f i) (x:=e.f) e1 (by omega)
  have hs1:=zgg (N:=N) (g:=netG A f i) (x:=e.f) (v:=netG A f i e.f - w) e1 (by omega)
  obtain ⟨g1,hg1d⟩ : ∃ g1 : Int → Int,g1 = fun y=>if y = e.f then netG A f i e.f - w else netG A f i y:=⟨_,rfl⟩
  rw [← hg1d] at hs1
  have hg1t : g1 e.t = netG A f i e.t:=by rw [hg1d]; exact if_neg fun h=>e5 h.symm
  have hr2:=zcR (N:=N) (g:=g1) (x:=e.t) e3 (by omega)
  rw [hg1t] at hr2
  have hs2:=zgg (N:=N) (g:=g1) (x:=e.t) (v:=netG A f i e.t + w) e3 (by omega)
  have hend : (rowR N fun y=>if y = e.t then netG A f i e.t + w else g1 y) = rowR N (netG A f (i + 1)):=zgj fun x=>by
   rw [hsucc,hg1d]
   simp only
   by_cases h3 : x = e.t
   ·rw [h3,if_pos rfl,if_pos rfl,if_neg e5]
    omega
   ·by_cases h4 : x = e.f
    ·rw [if_neg h3,if_pos h4,if_neg fun h=>h3 h.symm,if_pos h4.symm,h4]
     omega
    ·rw [if_neg h3,if_neg h4,if_neg fun h=>h3 h.symm,if_neg fun h=>h4 h.symm]
     omega
  rw [hend] at hs2
  refine zae ?_
  refine zaL (ι:=Unit) (fun _=>⟨87,[(1,ints f),(2,.pv (nC ⟨N,A⟩)),(5,.rs 136 0 N),(6,.I i)],[(136,some ⟨1,zah (rowR N (netG A f (i + 1))),0⟩)],1000⟩) (fun _=>True) ?_ fun _ _=>?_
  ·refine zaf ?_
   refine zaa ?_
   refine zap ⟨87,[(1,ints f),(2,.pv (nC ⟨N,A⟩)),(5,.rs 136 0 N),(6,.I i),(45,.B false)],[(136,some ⟨1,zah (rowR N (netG A f i)),0⟩)],500⟩ rfl ?_ ?_
   ·have hc1 : ¬ w < 0:=by omega
    have hc2 : ¬ e.v < w:=by omega
    simp [hg1,hg2,hiA,h8,← he,← hw,hc1,hc2]
    exact ⟨rfl,Le.go [(136,136)] [] rfl rfl (by simp [hc2]) (by simp [fcd])⟩
   refine zac _ rfl (fun h=>by cases h) fun _=>?_
   refine zae ?_
   refine zap ⟨87,[(1,ints f),(2,.pv (nC ⟨N,A⟩)),(5,.rs 136 0 N),(6,.I i)],[(136,some ⟨1,zah (rowR N g1),0⟩)],700⟩ rfl ?_ ?_
   ·simp [hg1,hg2,hiA,h8,← he,← hw,hr1,e1,h2N,hwx,zaG]
    exact ⟨rfl,Le.go [(136,136)] [] rfl rfl (by simp) (by simp [fcd,← hs1])⟩
   refine zbP rfl ?_
   simp [hg1,hg2,hiA,h8,← he,← hw,hr2,e3,h2N,hwy,zaG]
   exact ⟨rfl,Le.go [(136,136)] [] rfl rfl (by simp) (by simp [fcd,← hs2])⟩
  refine zad (s:=?s20) rfl ?o20 ?q20
  case o20=>simp; rfl
  exact ⟨i + 1,by omega,by omega,Le.go [(136,136)] [] rfl rfl (by simp [hw1]) (by simp [fcd])⟩
 simp at h8
 obtain rfl : i = A.length:=by omega
 refine zan ?_
 refine hit ?_
 refine zaa ?_
 refine zab ⟨87,[(2,.pv (nC ⟨N,A⟩)),(5,.rs 136 0 N),(7,.I 2)],[(136,some ⟨1,zah (rowR N (netG A f A.length)),0⟩)],200⟩ rfl ?_ ?_
 ·simp
  exact LeI [(136,136)] []
 refine zaf ?_
 refine zao (ι:=Nat) (fun k=>⟨87,[(2,.pv (nC ⟨N,A⟩)),(5,.rs 136 0 N),(7,.I k)],[(136,some ⟨1,zah (rowR N (netG A f A.length)),0⟩)],200⟩) (fun k=>2 ≤ k ∧ k ≤ N) (fun k=>N - k) 2 (by omega) (LeI [(136,136)] []) ?_
 rintro k ⟨hk1,hk2⟩
 refine zaa ?_
 refine zab ⟨87,[(2,.pv (nC ⟨N,A⟩)),(5,.rs 136 0 N),(7,.I k),(79,.B (decide (k < N)))],[(136,some ⟨1,zah (rowR N (netG A f A.length)),0⟩)],300⟩ rfl ?_ ?_
 ·simp
  exact LeI [(136,136)] []
 refine zac _ rfl (fun h15=>?_) fun h15=>?_
 ·simp at h15
  have hz : netG A f A.length k = 0:=by
   rw [zm6 hfl]
   have:=hf.bal k hk1 h15
   unfold exF
   omega
  have hr:=zcR (N:=N) (g:=netG A f A.length) (x:=(k : Int)) (by omega) (by omega)
  rw [hz] at hr
  simp only [Int.toNat_natCast] at hr
  have hw1 : IntKind.i64.wrap ((k : Int) + 1) = (k : Int) + 1:=w64 (by omega) (by omega)
  refine zae ?_
  refine zaa ?_
  refine zaf ?_
  refine zab ⟨87,[(2,.pv (nC ⟨N,A⟩)),(5,.rs 136 0 N),(7,.I k),(86,.B false)],[(136,some ⟨1,zah (rowR N (netG A f A.length)),0⟩)],400⟩ rfl ?_ ?_
  ·simp [hr,h15]
   exact LeI [(136,136)] []
  refine zac _ rfl (fun h=>by cases h) fun _=>?_
  refine zae ?_
  refine zad (s:=?s21) rfl ?o21 ?q21
  case o21=>simp; rfl
  exact ⟨k + 1,by omega,by omega,Le.go [(136,136)] [] rfl rfl (by simp [hw1]) (by simp [fcd])⟩
 simp at h15
 refine zan ?_
 refine hit ?_
 refine zab ⟨87,[(4,.B true)],[],400⟩ rfl ?_ ?_
 ·simp
  exact LeH [] []
 refine zag ?_
 exact ⟨.inr rfl,zak.one (by simp)⟩
theorem ziV (hn : za8 ⟨N,A⟩) (hf : zaB N A f) : zai Tryz.prog zei [eN ⟨N,A⟩,ints f] [] (.I (valF A f)) []:=by
 refine ziO.acalls (nbz rfl) (nbz rfl) (Nat.le_refl _) ?_
 show awp _ 0 _ _ ⟨31,[(0,eN ⟨N,A⟩),(1,ints f)],[],16⟩
 have hchk:=ziR hn hf
 have hfl:=hf.fit.len
 have hfit:=zdo.1 hf.fit
 obtain ⟨hn0,hn1,hal,hav⟩:=hn
 simp only at hn0 hn1 hal hav
 have hfb : ∀ j (h : j < f.length),0 ≤ f[j] ∧ f[j] ≤ 1048576:=fun j hj=>by
  have h1:=hfit.2 j (by omega)
  have e1 : f.getD j 0 = f[j]:=by rw [List.getD_eq_getElem?_getD,List.getElem?_eq_getElem hj,Option.getD_some]
  have e2 : arcD A j = A[j]'(by omega):=by unfold arcD; rw [List.getD_eq_getElem?_getD,List.getElem?_eq_getElem (by omega),Option.getD_some]
  rw [e1,e2] at h1
  have h2:=(hav _ (List.getElem_mem (show j < A.length by omega))).2.2.2.2.2.2.2.2
  omega
 have hbd:=zlj hfl hfb 0
 have hall : outF (A.take A.length) (f.take A.length) 0 = valF A f:=by
  unfold valF
  rw [List.take_of_length_le (Nat.le_refl _),List.take_of_length_le (by omega)]
 refine rx (s:=?s1) [1,2] [] [16] rfl ?o1 ?q1
 case o1=>simp; rfl
 refine zaa ?_
 refine rx (s:=?s2) [1,2,10] [] [] rfl ?o2 ?q2
 case o2=>simp; refine zaj hchk (by simp) ?_; simp; rfl
 refine zac _ rfl (fun h=>by cases h) fun _=>?_
 refine zae ?_
 refine rx (s:=?s5) [1,2,5] [] [] rfl ?o5 ?q5
 case o5=>simp; rfl
 refine zaa ?_
 refine rx (s:=?s6) [1,2,5,6] [] [] rfl ?o6 ?q6
 case o6=>simp; rfl
 refine zaf ?_
 refine zao (ι:=Nat) (fun i=>⟨31,[(1,ints f),(2,.pv (nC ⟨N,A⟩)),(5,.I (outF (A.take i) (f.take i) 0)),(6,.I i)],[],80⟩) (fun i=>i ≤ A.length) (fun i=>A.length - i) 0 (Nat.zero_le _) (Le.go [] [] rfl rfl (by simp [outF,sumF]) (by simp)) ?_
 intro i hi
 have hbi:=hbd i hi
 refine zaa ?_
 refine rx (s:=?s7) [1,2,5,6,14] [] [] rfl ?o7 ?q7
 case o7=>simp; rfl
 refine zac _ rfl (fun h8=>?_) fun h8=>?_
 ·simp at h8
  have hiA : i < A.length:=by omega
  have hw1 : IntKind.i64.wrap ((i : Int) + 1) = (i : Int) + 1:=w64 (by omega) (by omega)
  have hsucc:=znO hiA h8 0
  have hb:=hfb i h8
  refine zae ?_
  refine zaL (ι:=Unit) (fun _=>⟨31,[(1,ints f),(2,.pv (nC ⟨N,A⟩)),(5,.I (outF (A.take (i + 1)) (f.take (i + 1)) 0)),(6,.I i)],[],400⟩) (fun _=>True) ?_ fun _ _=>?_
  ·refine zaf ?_
   refine zab ⟨31,[(1,ints f),(2,.pv (nC ⟨N,A⟩)),(5,.I (outF (A.take i) (f.take i) 0)),(6,.I i),(23,.B (decide (A[i].f = 0)))],[],200⟩ rfl ?_ ?_
   ·simp [hiA]
    exact Le.go [] [] rfl rfl (by simp <;> exact wkB (by rw [Bool.eq_iff_iff]; simp)) (by simp)
   refine zac _ rfl (fun h10=>?_) fun h10=>?_
   ·rw [decide_eq_true_eq] at h10
    rw [if_pos h10] at hsucc
    have hw2 : IntKind.i64.wrap (outF (A.take i) (f.take i) 0 + f[i]) = outF (A.take i) (f.take i) 0 + f[i]:=w64 (by omega) (by omega)
    refine zad (s:=?s9) rfl ?o9 ?q9
    case o9=>simp [h8]; rfl
    exact ⟨(),trivial,Le.go [] [] rfl rfl (by simp [hsucc,hw2]) (by simp)⟩
   ·rw [decide_eq_false_iff_not] at h10
    rw [if_neg h10,Int.add_zero] at hsucc
    refine zae ?_
    exact ⟨(),trivial,Le.go [] [] rfl rfl (by simp [hsucc]) (by simp)⟩
  refine zad (s:=?s10) rfl ?o10 ?q10
  case o10=>simp; rfl
  exact ⟨i + 1,by omega,by omega,Le.go [] [] rfl rfl (by simp [hw1]) (by simp)⟩
 simp at h8
 obtain rfl : i = A.length:=by omega
 rw [hall]
 refine zan ?_
 refine hit ?_
 refine rx (s:=?s11) [4] [] [] rfl ?o11 ?q11
 case o11=>simp; rfl
 refine zag ?_
 exact ⟨.inr rfl,zak.one (by simp)⟩
theorem zrd {g : Gr} {p : Pol} {sinks : List Int} (hg : GrOk g) (hp : za6 g.size p) (hk : ∀ x ∈ sinks,0 ≤ x ∧ x < g.size) : zd2 (2 + 2 * g.size).toNat (zba g p (zaO g p) sinks):=by
 have hs0:=hg.1.1
 have hse:=hp.2.1.nodup
 have hle:=zh6 hg p.lv
 have hcl : (zaO g p).length = g.size.toNat:=by unfold zaO; rw [List.length_map,zjw]; rfl
 refine ⟨by omega,fun a ha=>?_⟩
 unfold zba at ha
 rcases List.mem_append.1 ha with ha | ha
 ·rcases List.mem_append.1 ha with ha | ha
  ·rcases List.mem_append.1 ha with ha | ha
   ·obtain ⟨x,hx,rfl⟩:=List.mem_map.1 ha
    have h1:=List.mem_filter.1 hx
    have h2:=hse.2 x h1.1
    have h3 : 0 < (zaO g p).getD x.toNat 0:=by simpa using h1.2
    simp only
    omega
   ·obtain ⟨i,hx,rfl⟩:=List.mem_map.1 ha
    have h1:=List.mem_filter.1 hx
    have h2:=List.mem_range.1 h1.1
    have h3 : 0 < (zaO g p).getD i 0:=by simpa using h1.2
    simp only
    omega
  ·obtain ⟨x,hx,rfl⟩:=List.mem_map.1 ha
   have h2:=hk x (List.mem_filter.1 hx).1
   simp only
   omega
 ·obtain ⟨e,hx,rfl⟩:=List.mem_map.1 ha
  have h2:=hle.2 e (List.mem_filter.1 hx).1
  simp only
  omega
theorem zmq (l : List Int) (n : Int) (hl : l.length ≤ 9223372036854775807) : zai Tryz.prog zaK [ints l,.I n] [] (.B (l.contains n)) []:=by
 refine zlI.acalls (by simp [zio]) (by simp) (by simp) ?_
 show awp _ 0 _ _ ⟨18,[(0,ints l),(1,.I n)],[],16⟩
 refine zaa (zad (s:=?s1) rfl ?o1 ?q1)
 case o1=>simp; rfl
 refine zaa (zaa (zad (s:=?s2) rfl ?o2 ?q2))
 case o2=>simp; rfl
 refine zaf ?_
 refine zao (ι:=Nat) (fun k=>{ sz:=18,t:=[(0,ints l),(1,.I n),(5,.I k)],h:=[],n:=16 }) (fun k=>k ≤ l.length ∧ n ∉ l.take k) (fun k=>l.length - k) 0 (by simp) ?_ ?_
 ·refine Le.slots rfl rfl ?_
  simp [ints]
 ·rintro k ⟨hk,hn⟩
  refine zaa (zaa (zad (s:=?s3) rfl ?o3 ?q3))
  case o3=>simp; rfl
  refine zac _ rfl ?_ ?_
  ·intro hlt
   simp only [decide_eq_true_eq,Int.ofNat_lt] at hlt
   show awp _ _ _ _ _
   refine zaa (zaf (zaa (zad (s:=?s4) rfl ?o4 ?q4)))
   case o4=>simp [hlt]; rfl
   refine zac _ rfl ?_ ?_
   ·intro heq
    refine zaa (zad (s:=?s5) rfl ?o5 ?q5)
    case o5=>simp; rfl
    refine ⟨.inr rfl,zak.one ?_⟩
    have : n ∈ l:=by simp at heq; simp [← heq]
    simp [this]
   ·intro hne
    refine zae (zad (s:=?s6) rfl ?o6 ?q6)
    case o6=>simp; rfl
    refine ⟨k + 1,⟨by omega,?_⟩,by omega,Le.slots rfl rfl ?_⟩
    ·intro hm
     simp at hne
     rw [List.take_succ_eq_append_getElem hlt] at hm
     rcases List.mem_append.1 hm with h | h
     ·exact hn h
     ·exact hne (List.mem_singleton.1 h).symm
    ·have hw : IntKind.i64.wrap ((k : Int) + 1) = ((k + 1 : Nat) : Int):=w64 (by omega) (by omega)
     simp [Wk.refl,hw]
  ·intro hge
   refine zan (hit ?_)
   refine zaa (zad (s:=?s7) rfl ?o7 ?q7)
   case o7=>simp; rfl
   refine zag ⟨.inr rfl,zak.one ?_⟩
   simp at hge
   have : n ∉ l:=by
    have : l.take k = l:=List.take_of_length_le hge
    rw [this] at hn
    exact hn
   simp [this]
open Classical in
theorem zmp (l : List Int) (n : Int) (hl : l.length ≤ 9223372036854775807) : zai Tryz.prog zce [ints l,.I n] [] (.B (decide (Rise l 0 (n - 1)))) []:=by
 refine zlu.acalls (nbz rfl) (nbz rfl) (Nat.le_refl _) ?_
 show awp _ 0 _ _ ⟨41,[(0,ints l),(1,.I n)],[],16⟩
 refine zaa ?_
 refine zad (s:=?s1) rfl ?o1 ?q1
 case o1=>simp; rfl
 refine zaa ?_
 refine zaa ?_
 refine zad (s:=?s2) rfl ?o2 ?q2
 case o2=>simp; rfl
 refine zaf ?_
 refine zao (ι:=Nat) (fun k=>⟨41,[(0,ints l),(1,.I n),(5,.I k)],[],16⟩) (fun k=>k ≤ l.length ∧ ∀ i,i < k → zgC l 0 (n - 1) i) (fun k=>l.length - k) (0) ?_ (Le.snap [] rfl rfl (by simp)) ?_
 ·simp
 rintro k ⟨hk,hp⟩
 refine zaa ?_
 refine zaa ?_
 refine zad (s:=?s3) rfl ?o3 ?q3
 case o3=>simp; rfl
 refine zac _ rfl (fun h4=>?_) fun h4=>?_
 ·try simp at h4
  have hw2 : IntKind.i64.wrap ((k : Int) + 1) = (k : Int) + 1:=w64 (by omega) (by omega)
  have hwp : 0 < k → IntKind.i64.wrap ((k : Int) - 1) = ((k - 1 : Nat) : Int):=fun h=>by rw [w64 (by omega) (by omega)]; omega
  have hkp : k - 1 < l.length:=by omega
  refine zae ?_
  refine zaa ?_
  refine zaf ?_
  refine zap ⟨41,[(0,ints l),(1,.I n),(5,.I k),(40,.B (decide (¬ zgC l 0 (n - 1) k)))],[],16⟩ rfl ?_ ?_
  ·simp [h4,hw2,hwp,hkp]
   repeat' first
    | (refine zci (fun hb=>?_) (fun hb=>?_) <;> (try rw [hb]) <;> (try simp at hb) <;> simp [hb,h4,hw2,hwp,hkp])
   all_goals exact ⟨rfl,Le.snap [] rfl rfl (by simp; exact wkB (by (try simp at *); grind [zgC]))⟩
  refine zac _ rfl (fun h5=>?_) fun h5=>?_
  ·try simp at h5
   refine zaa ?_
   refine zad (s:=?s6) rfl ?o6 ?q6
   case o6=>simp [h4,hw2,hwp,hkp]; rfl
   refine zag ?_
   have hn : ¬ Rise l 0 (n - 1):=fun h=>h5 (h k)
   exact ⟨.inr rfl,zak.one (by simp [hn])⟩
  try simp at h5
  refine zae ?_
  refine zad (s:=?s7) rfl ?o7 ?q7
  case o7=>simp [h4,hw2,hwp,hkp]; rfl
  refine ⟨k + 1,⟨h4,fun i hi=>?_⟩,by omega,Le.snap [] rfl rfl (by simp [h4,hw2,hwp,hkp])⟩
  rcases Nat.lt_succ_iff_lt_or_eq.1 hi with h | rfl
  ·exact hp i h
  ·exact h5
 try simp at h4
 have hall : ∀ i,i < l.length → zgC l 0 (n - 1) i:=fun i hi=>hp i (by omega)
 refine zan ?_
 refine hit ?_
 refine zaa ?_
 refine zad (s:=?s8) rfl ?o8 ?q8
 case o8=>simp; rfl
 refine zag ?_
 have hy : Rise l 0 (n - 1):=fun i hi=>hall i hi hi
 exact ⟨.inr rfl,zak.one (by simp [hy])⟩
open Classical in
theorem zhp (n : Net) (side : List Int) (hl : n.arcs.length ≤ 1099511627776) (hs : side.length ≤ 9223372036854775807) : zai Tryz.prog zgo [eN n,ints side] [] (.B (decide (zcX n side))) []:=by
 refine zqX.acalls (nbz rfl) (nbz rfl) (Nat.le_refl _) ?_
 show awp _ 0 _ _ ⟨24,[(0,eN n),(1,ints side)],[],16⟩
 refine rx (s:=?s1) [1,2] [] [16] rfl ?o1 ?q1
 case o1=>simp; rfl
 refine zab ⟨24,[(4,.B (decide (zcX n side)))],[],300⟩ rfl ?_ ?_
 ·have hc:=ze0 n hl
  by_cases hn : za8 n
  ·rw [if_pos hn] at hc
   have hw : IntKind.i64.wrap (n.nodes - 1) = n.nodes - 1:=w64 (by have:=hn.1; omega) (by have:=hn.2.1; omega)
   simp
   refine zaj hc (by simp) ?_
   simp [hw]
   refine zaj (zfn side 0 (n.nodes - 1) hs) (by simp) ?_
   simp
   refine zci (fun hb=>?_) (fun hb=>?_) <;> (try rw [hb]) <;> (try simp at hb) <;> simp [hb]
   ·refine zaj (zf3 side 0 hs) (by simp) ?_
    simp
    refine zci (fun hb2=>?_) (fun hb2=>?_) <;> (try rw [hb2]) <;> (try simp at hb2) <;> simp [hb2]
    ·refine zaj (zf3 side 1 hs) (by simp) ?_
     simp
     exact Le.snap [] rfl rfl (by simp [zcX,hn,hb,hb2])
    ·exact Le.snap [] rfl rfl (by simp [zcX,hn,hb,hb2])
   ·exact Le.snap [] rfl rfl (by simp [zcX,hn,hb])
  ·rw [if_neg hn] at hc
   simp
   refine zaj hc (by simp) ?_
   simp
   exact Le.snap [] rfl rfl (by simp [zcX,hn])
 refine zag ?_
 exact ⟨.inr rfl,zak.one (by simp)⟩
open Classical in
theorem zf0 (n : Net) (side : List Int) (hl : n.arcs.length ≤ 1099511627776) (hs : side.length ≤ 9223372036854775807) : zai Tryz.prog zek [eN n,ints side] [] (.B (decide (zcX n side))) []:=by
 refine znW.acalls (nbz rfl) (nbz rfl) (Nat.le_refl _) ?_
 show awp _ 0 _ _ ⟨23,[(0,eN n),(1,ints side)],[],16⟩
 refine rx (s:=?s1) [1,2] [] [16] rfl ?o1 ?q1
 case o1=>simp; rfl
 refine zab ⟨23,[(4,.B (decide (zcX n side)))],[],300⟩ rfl ?_ ?_
 ·have hc:=zeC n hl
  by_cases hn : za8 n
  ·rw [if_pos hn] at hc
   simp
   refine zaj hc (by simp) ?_
   simp
   refine zaj (zmp side n.nodes hs) (by simp) ?_
   simp
   refine zci (fun hb=>?_) (fun hb=>?_) <;> (try rw [hb]) <;> (try simp at hb) <;> simp [hb]
   ·refine zaj (zmq side 0 hs) (by simp) ?_
    simp
    refine zci (fun hb2=>?_) (fun hb2=>?_) <;> (try rw [hb2]) <;> (try simp at hb2) <;> simp [hb2]
    ·refine zaj (zmq side 1 hs) (by simp) ?_
     simp
     exact Le.snap [] rfl rfl (by simp [zcX,hn,hb,hb2])
    ·exact Le.snap [] rfl rfl (by simp [zcX,hn,hb,hb2])
   ·exact Le.snap [] rfl rfl (by simp [zcX,hn,hb])
  ·rw [if_neg hn] at hc
   simp
   refine zaj hc (by simp) ?_
   simp
   exact Le.snap [] rfl rfl (by simp [zcX,hn])
 refine zag ?_
 exact ⟨.inr rfl,zak.one (by simp)⟩
open Classical in
theorem zho (n : Net) (side : List Int) (hl : n.arcs.length ≤ 1099511627776) (hs : side.length ≤ 9223372036854775807) : zai Tryz.prog zd4 [eN n,ints side] [] (.I (if zcX n side then cutV n.arcs side else 0)) []:=by
 refine zj8.acalls (nbz rfl) (nbz rfl) (Nat.le_refl _) ?_
 show awp _ 0 _ _ ⟨46,[(0,eN n),(1,ints side)],[],16⟩
 refine rx (s:=?s1) [1,2] [] [16] rfl ?o1 ?q1
 case o1=>simp; rfl
 refine zaa ?_
 refine rx (s:=?s2) [1,2,10] [] [] rfl ?o2 ?q2
 case o2=>simp; refine zaj (zf0 n side hl hs) (by simp) ?_; simp; rfl
 refine zac _ rfl (fun h3=>?_) fun h3=>?_
 ·simp at h3
  refine rx (s:=?s4) [4] [] [] rfl ?o4 ?q4
  case o4=>simp; rfl
  refine zag ?_
  exact ⟨.inr rfl,zak.one (by simp [h3])⟩
 simp at h3
 have hb1:=h3.1.2.2.1
 refine zae ?_
 refine rx (s:=?s5) [1,2,5] [] [] rfl ?o5 ?q5
 case o5=>simp; rfl
 refine zaa ?_
 refine rx (s:=?s6) [1,2,5,6] [] [] rfl ?o6 ?q6
 case o6=>simp; rfl
 refine zaf ?_
 refine zao (ι:=Nat) (fun i=>⟨46,[(1,ints side),(2,.pv (nC n)),(5,.I (cutV (n.arcs.take i) side)),(6,.I i)],[],80⟩) (fun i=>i ≤ n.arcs.length) (fun i=>n.arcs.length - i) 0 (by simp) (Le.go [] [] rfl rfl (by simp [cutV]) (by simp)) ?_
 intro i hi
 have hcb:=zh0 (n:=n.nodes) (side:=side) (arcs:=n.arcs.take i) fun a ha=>h3.1.2.2.2 a (List.mem_of_mem_take ha)
 have htl:=List.length_take_le' i n.arcs
 refine zaa ?_
 refine rx (s:=?s7) [1,2,5,6,15] [] [] rfl ?o7 ?q7
 case o7=>simp; rfl
 refine zac _ rfl (fun h7=>?_) fun h7=>?_
 ·simp at h7
  have hw : IntKind.i64.wrap ((i : Int) + 1) = (i : Int) + 1:=w64 (by omega) (by omega)
  have hcs:=zox n.arcs side i h7
  have hav:=h3.1.2.2.2 _ (List.getElem_mem h7)
  have hwv : IntKind.i64.wrap (cutV (n.arcs.take i) side + n.arcs[i].v) = cutV (n.arcs.take i) side + n.arcs[i].v:=w64 (by have:=hav.2.2.2.2.2.2.2.1; omega) (by have:=hav.2.2.2.2.2.2.2.2; omega)
  refine zae ?_
  refine zaL (ι:=Unit) (fun _=>⟨46,[(1,ints side),(2,.pv (nC n)),(5,.I (cutV (n.arcs.take (i + 1)) side)),(6,.I i)],[],400⟩) (fun _=>True) ?_ fun _ _=>?_
  ·refine zaf ?_
   refine zab ⟨46,[(1,ints side),(2,.pv (nC n)),(5,.I (cutV (n.arcs.take i) side)),(6,.I i),(36,.B (decide (n.arcs[i].f ∈ side ∧ n.arcs[i].t ∉ side)))],[],300⟩ rfl ?_ ?_
   ·simp [h7]
    refine zaj (zmq side n.arcs[i].f hs) (by simp) ?_
    simp
    refine zci (fun hb=>?_) (fun hb=>?_) <;> (try rw [hb]) <;> (try simp at hb) <;> simp [hb,h7]
    ·refine zaj (zmq side n.arcs[i].t hs) (by simp) ?_
     simp
     exact Le.snap [] rfl rfl (by simp [hb])
    ·exact Le.snap [] rfl rfl (by simp [hb])
   refine zac _ rfl (fun h8=>?_) fun h8=>?_
   ·rw [decide_eq_true_eq] at h8
    rw [if_pos h8] at hcs
    refine zad (s:=?s9) rfl ?o9 ?q9
    case o9=>simp [h7]; rfl
    exact ⟨(),trivial,Le.go [] [] rfl rfl (by simp [hcs,hwv]) (by simp)⟩
   ·rw [decide_eq_false_iff_not] at h8
    rw [if_neg h8] at hcs
    refine zae ?_
    exact ⟨(),trivial,Le.go [] [] rfl rfl (by simp [hcs]) (by simp)⟩
  refine zad (s:=?s10) rfl ?o10 ?q10
  case o10=>simp; rfl
  exact ⟨i + 1,by omega,by omega,Le.go [] [] rfl rfl (by simp [hw]) (by simp)⟩
 simp at h7
 obtain rfl : i = n.arcs.length:=by omega
 refine zan ?_
 refine hit ?_
 refine rx (s:=?s11) [4] [] [] rfl ?o11 ?q11
 case o11=>simp; rfl
 refine zag ?_
 exact ⟨.inr rfl,zak.one (by simp [h3])⟩
open Classical in
theorem zjd (n : Net) (side : List Int) (most : Int) (hl : n.arcs.length ≤ 1099511627776) (hs : side.length ≤ 9223372036854775807) : zai Tryz.prog ze8 [eN n,ints side,.I most] [] (.B (decide (zcV n side most))) []:=by
 refine zl5.acalls (nbz rfl) (nbz rfl) (Nat.le_refl _) ?_
 show awp _ 0 _ _ ⟨17,[(0,eN n),(1,ints side),(2,.I most)],[],16⟩
 refine rx (s:=?s1) [1,2,3] [] [16] rfl ?o1 ?q1
 case o1=>simp; rfl
 refine zab ⟨17,[(6,.B (decide (zcV n side most)))],[],300⟩ rfl ?_ ?_
 ·have hc:=zho n side hl hs
  simp
  refine zaj (zf0 n side hl hs) (by simp) ?_
  simp
  by_cases hv : zcX n side
  ·rw [if_pos hv] at hc
   simp [hv]
   refine zaj hc (by simp) ?_
   simp
   exact Le.snap [] rfl rfl (by simp [zcV,hv])
  ·simp [hv]
   exact Le.snap [] rfl rfl (by simp [zcV,hv])
 refine zag ?_
 exact ⟨.inr rfl,zak.one (by simp)⟩
def zdF (N : Nat) (s : List Int) : List (List AV):=(List.range N).map fun (k : Nat)=>[AV.B (decide ((k : Int) ∈ s))]
theorem zfY (N : Nat) (s : List Int) : (zdF N s).length = N:=by simp [zdF]
theorem zsk (N : Nat) : zdF N [] = List.replicate N [AV.B false]:=by
 unfold zdF
 simp [List.map_const']
theorem zsn {N k : Nat} (hk : k < N) (s : List Int) : (zdF N s)[k]? = some [AV.B (decide ((k : Int) ∈ s))]:=by simp [zdF,hk]
@[simp] theorem zvK {N k : Nat} {s : List Int} (h : k < (zdF N s).length) : (zdF N s)[k] = [AV.B (decide ((k : Int) ∈ s))]:=by simp [zdF]
theorem zsc {N k : Nat} (s : List Int) : (zdF N s).set k [AV.B true] = zdF N (s ++ [(k : Int)]):=by
 apply List.ext_getElem?
 intro i
 rw [List.getElem?_set]
 by_cases h : k = i
 ·subst h
  rw [if_pos rfl]
  by_cases hk : k < N
  ·rw [if_pos (by rw [zfY]; exact hk),zsn hk]
   simp
  ·rw [if_neg (by rw [zfY]; exact hk)]
   simp [zdF,hk]
 ·rw [if_neg h]
  unfold zdF
  simp only [List.getElem?_map]
  by_cases hi : i < N
  ·simp [hi,show ¬ ((i : Int) = k) by omega]
  ·simp [hi]
@[simp] theorem zuK {ρ : List (Nat × Nat)} {sn : List Nat} {h : Nat → Option Ent} {N : Nat} {s : List Int} : (zdF N s).map (·.map (conv ρ sn h 4)) = zdF N s:=by
 unfold zdF
 rw [List.map_map]
 rfl
set_option maxRecDepth 100000 in
open Classical in
theorem zjb (n : Net) (side : List Int) (hl : n.arcs.length ≤ 1099511627776) (hs : side.length ≤ 9223372036854775807) : zai Tryz.prog zfj [eN n,ints side] [] (.I (if zcX n side then cutV n.arcs side else 0)) []:=by
 refine zmh.acalls (nbz rfl) (nbz rfl) (Nat.le_refl _) ?_
 show awp _ 0 _ _ ⟨54,[(0,eN n),(1,ints side)],[],16⟩
 refine rx (s:=?s1) [1,2] [] [16] rfl ?o1 ?q1
 case o1=>simp; rfl
 refine zaa ?_
 refine rx (s:=?s2) [1,2,14] [] [] rfl ?o2 ?q2
 case o2=>simp; refine zaj (zhp n side hl hs) (by simp) ?_; simp; rfl
 refine zac _ rfl (fun h3=>?_) fun h3=>?_
 ·simp at h3
  refine rx (s:=?s4) [4] [] [] rfl ?o4 ?q4
  case o4=>simp; rfl
  refine zag ?_
  exact ⟨.inr rfl,zak.one (by simp [h3])⟩
 simp at h3
 have hb1:=h3.1.2.2.1
 have hn2:=h3.1.1
 have hn3:=h3.1.2.1
 obtain ⟨N,hN,hN3⟩ : ∃ N : Nat,n.nodes = N ∧ N ≤ 130:=⟨n.nodes.toNat,by omega,by omega⟩
 have hside : ∀ k ∈ side,∃ j : Nat,k = j ∧ j < N:=fun k hk=>by
  obtain ⟨i,hi,rfl⟩:=List.getElem_of_mem hk
  have:=(h3.2.1 i hi)
  exact ⟨side[i].toNat,by omega,by omega⟩
 refine zae ?_
 refine zab ⟨54,[(1,ints side),(2,.pv (nC n)),(5,.rs 80 0 N)],[(80,some ⟨1,zdF N [],0⟩)],96⟩ rfl ?_ ?_
 ·rw [zsk]
  simp [hN]
  refine ⟨by omega,?_⟩
  exact Le.keep rfl (Nat.le_refl _) (by simp [hN]) (by simp [hN])
 refine zaa ?_
 refine rk (s:=?s5) [1,2,5,18,19,20] [80] rfl ?o5 ?q5
 case o5=>simp; rfl
 refine zaf ?_
 refine zao (ι:=Nat) (fun i=>⟨54,[(1,ints side),(2,.pv (nC n)),(5,.rs 80 0 N),(18,ints side),(19,.I side.length),(20,.I i)],[(80,some ⟨1,zdF N (side.take i),0⟩)],120⟩) (fun i=>i ≤ side.length) (fun i=>side.length - i) 0 (by simp) (Le.keep rfl (Nat.le_refl _) (by simp) (by simp)) ?_
 intro i hi
 refine rk (s:=?s6) [1,2,5,18,19,20,21] [80] rfl ?o6 ?q6
 case o6=>simp; rfl
 refine zaa ?_
 refine zac _ rfl (fun h7=>?_) fun h7=>?_
 ·simp at h7
  have hw : IntKind.i64.wrap ((i : Int) + 1) = (i : Int) + 1:=w64 (by omega) (by omega)
  obtain ⟨j,hj,hjN⟩:=hside _ (List.getElem_mem h7)
  have hset : (zdF N (side.take i)).set j [AV.sc (.bool true)] = zdF N (side.take (i + 1)):=by
   rw [List.take_succ_eq_append_getElem h7,hj]
   exact zsc _
  refine zae ?_
  refine zaa ?_
  refine zaf ?_
  refine rk (s:=?s8) [1,2,5,7,18,19,20] [80] rfl ?o8 ?q8
  case o8=>simp [h7,hj]; rfl
  refine zad (s:=?s9) rfl ?o9 ?q9
  case o9=>simp [hjN,zfY,hset]; rfl
  refine zad (s:=?s10) rfl ?o10 ?q10
  case o10=>simp [hw]; rfl
  exact ⟨i + 1,by omega,by omega,LeH [(80,80)] []⟩
 simp at h7
 obtain rfl : i = side.length:=by omega
 rw [List.take_of_length_le (Nat.le_refl _)]
 refine zan ?_
 refine hit ?_
 refine rk (s:=?s11) [1,2,5,8] [80] rfl ?o11 ?q11
 case o11=>simp; rfl
 refine zaa ?_
 refine rk (s:=?s12) [5,8,29,30,31] [80] rfl ?o12 ?q12
 case o12=>simp; rfl
 refine zaf ?_
 refine zao (ι:=Nat) (fun i=>⟨54,[(5,.rs 80 0 N),(8,.I (cutV (n.arcs.take i) side)),(29,eEs n.arcs),(30,.I n.arcs.length),(31,.I i)],[(80,some ⟨1,zdF N side,0⟩)],168⟩) (fun i=>i ≤ n.arcs.length) (fun i=>n.arcs.length - i) 0 (by simp) (Le.go [(80,80)] [] rfl rfl (by simp [cutV]) (by simp)) ?_
 intro i hi
 have hcb:=zh0 (n:=n.nodes) (side:=side) (arcs:=n.arcs.take i) fun a ha=>h3.1.2.2.2 a (List.mem_of_mem_take ha)
 have htl:=List.length_take_le' i n.arcs
 refine rk (s:=?s13) [5,8,29,30,31,32] [80] rfl ?o13 ?q13
 case o13=>simp; rfl
 refine zaa ?_
 refine zac _ rfl (fun h7=>?_) fun h7=>?_
 ·simp at h7
  have hw : IntKind.i64.wrap ((i : Int) + 1) = (i : Int) + 1:=w64 (by omega) (by omega)
  have hcs:=zox n.arcs side i h7
  have hav:=h3.1.2.2.2 _ (List.getElem_mem h7)
  have hwv : IntKind.i64.wrap (cutV (n.arcs.take i) side + n.arcs[i].v) = cutV (n.arcs.take i) side + n.arcs[i].v:=w64 (by have:=hav.2.2.2.2.2.2.2.1; omega) (by have:=hav.2.2.2.2.2.2.2.2; omega)
  obtain ⟨x,hx⟩ : ∃ x,x = n.arcs[i]:=⟨_,rfl⟩
  rw [← hx] at hcs hav hwv
  obtain ⟨f,hf,hfN⟩ : ∃ f : Nat,x.f = f ∧ f < N:=⟨x.f.toNat,by have:=hav.1; omega,by have:=hav.1; have:=hav.2.1; omega⟩
  obtain ⟨u,hu,huN⟩ : ∃ u : Nat,x.t = u ∧ u < N:=⟨x.t.toNat,by have:=hav.2.2.1; omega,by have:=hav.2.2.1; have:=hav.2.2.2.1; omega⟩
  refine zae ?_
  refine zaL (ι:=Unit) (fun _=>⟨54,[(5,.rs 80 0 N),(8,.I (cutV (n.arcs.take (i + 1)) side)),(29,eEs n.arcs),(30,.I n.arcs.length),(31,.I i)],[(80,some ⟨1,zdF N side,0⟩)],400⟩) (fun _=>True) ?_ fun _ _=>?_
  ·refine zaf ?_
   refine zab ⟨54,[(5,.rs 80 0 N),(8,.I (cutV (n.arcs.take i) side)),(10,.pv (eC x)),(29,eEs n.arcs),(30,.I n.arcs.length),(31,.I i)],[(80,some ⟨1,zdF N side,0⟩)],208⟩ rfl ?_ ?_
   ·simp [h7,← hx]
    exact LeH [(80,80)] [192]
   refine zab ⟨54,[(5,.rs 80 0 N),(8,.I (cutV (n.arcs.take i) side)),(10,.pv (eC x)),(29,eEs n.arcs),(30,.I n.arcs.length),(31,.I i),(47,.B (decide ((f : Int) ∈ side ∧ (u : Int) ∉ side)))],[(80,some ⟨1,zdF N side,0⟩)],312⟩ rfl ?_ ?_
   ·simp [hf,hu,hfN,huN,zfY]
    refine zci (fun hb=>?_) (fun hb=>?_) <;> (try rw [hb]) <;> (try simp at hb) <;> simp [hb,hu,huN,zfY]
    ·exact Le.go [(80,80)] [] rfl rfl (by simp [hb]) (by simp)
    ·exact Le.go [(80,80)] [] rfl rfl (by simp [hb]) (by simp)
   rw [← hf,← hu]
   refine zac _ rfl (fun h8=>?_) fun h8=>?_
   ·rw [decide_eq_true_eq] at h8
    rw [if_pos h8] at hcs
    refine zad (s:=?s14) rfl ?o14 ?q14
    case o14=>simp; rfl
    exact ⟨(),trivial,Le.go [(80,80)] [] rfl rfl (by simp [hcs,hwv]) (by simp)⟩
   ·rw [decide_eq_false_iff_not] at h8
    rw [if_neg h8] at hcs
    refine zae ?_
    exact ⟨(),trivial,Le.go [(80,80)] [] rfl rfl (by simp [hcs]) (by simp)⟩
  refine zad (s:=?s15) rfl ?o15 ?q15
  case o15=>simp; rfl
  exact ⟨i + 1,by omega,by omega,Le.go [(80,80)] [] rfl rfl (by simp [hw]) (by simp)⟩
 simp at h7
 obtain rfl : i = n.arcs.length:=by omega
 refine zan ?_
 refine hit ?_
 refine rk (s:=?s16) [4] [] rfl ?o16 ?q16
 case o16=>simp; rfl
 refine zag ?_
 exact ⟨.inr rfl,zak.one (by simp [h3])⟩
open Classical in
theorem zkL (n : Net) (side : List Int) (most : Int) (hl : n.arcs.length ≤ 1099511627776) (hs : side.length ≤ 9223372036854775807) : zai Tryz.prog zg1 [eN n,ints side,.I most] [] (.B (decide (zcV n side most))) []:=by
 refine zpq.acalls (nbz rfl) (nbz rfl) (Nat.le_refl _) ?_
 show awp _ 0 _ _ ⟨17,[(0,eN n),(1,ints side),(2,.I most)],[],16⟩
 refine rx (s:=?s1) [1,2,3] [] [16] rfl ?o1 ?q1
 case o1=>simp; rfl
 refine zab ⟨17,[(6,.B (decide (zcV n side most)))],[],300⟩ rfl ?_ ?_
 ·have hc:=zjb n side hl hs
  simp
  refine zaj (zhp n side hl hs) (by simp) ?_
  simp
  by_cases hv : zcX n side
  ·rw [if_pos hv] at hc
   simp [hv]
   refine zaj hc (by simp) ?_
   simp
   exact Le.snap [] rfl rfl (by simp [zcV,hv])
  ·simp [hv]
   exact Le.snap [] rfl rfl (by simp [zcV,hv])
 refine zag ?_
 exact ⟨.inr rfl,zak.one (by simp)⟩
section
variable {P : Program} {np id : Nat} {h : Nat → Option Ent} {K : AV → List Nat → List (Nat × Option Ent) → Prop} {f : FuncId} {first capt args args' : List AV} {res : AV}
theorem zlB {i j : Nat} {e1 e2 e1' e2' : Ent} {hs' : List (Option Ent)} (hij : i ≠ j) (h1 : h i = some e1) (h2 : h j = some e2) (he1 : zax [(i,0),(j,1)] [] h 4 e1 = e1') (he2 : zax [(i,0),(j,1)] [] h 4 e2 = e2')
  (hc : zai P f args' [e1',e2'] res hs') (h8 : hs'.length ≤ 10) (he : (first ++ args ++ capt).map (conv [(i,0),(j,1)] [] h 4) = args')
  (hk : K (conv (swp [i,j] id) [] (fun _=>none) 4 res) [i,j] (hs'.zipIdx.map fun (e,k)=>((i :: j :: (List.range 8).map (id + ·)).getD k 0,e.map (zax (swp [i,j] id) [] (fun _=>none) 4)))) : aK P np id .call (.fn (.func f) first capt :: args) h K :=
 ⟨[i,j],[],true,args',[e1',e2'],res,hs',by simp [hij],by simp,by simp,by rw [show [i,j].zipIdx = [(i,0),(j,1)] from rfl,he]; exact zb0 _,by
  rw [show [i,j].zipIdx = [(i,0),(j,1)] from rfl]
  simp only [List.map_cons,List.map_nil,h1,h2,Option.map_some,he1,he2],hc,by simpa using h8,.inl rfl,by simpa [swp] using hk⟩
end
theorem zbV (k : Int) (h : 0 ≤ k) (h2 : k ≤ 1000000) : zai Tryz.prog zbK [.I k] [] (.I (2 + 2 * k)) []:=by
 refine zos.acalls (nbz rfl) (nbz rfl) (Nat.le_refl _) ?_
 show awp _ 0 _ _ ⟨6,[(0,.I k)],[],16⟩
 have hw1 : IntKind.i64.wrap (2 * k) = 2 * k:=w64 (by omega) (by omega)
 have hw2 : IntKind.i64.wrap (2 + 2 * k) = 2 + 2 * k:=w64 (by omega) (by omega)
 refine rx (s:=?s1) [0] [] [] rfl ?o1 ?q1
 case o1=>simp; rfl
 refine rx (s:=?s2) [2] [] [] rfl ?o2 ?q2
 case o2=>simp [hw1,hw2]; rfl
 refine zag ?_
 exact ⟨.inr rfl,zak.one (by simp)⟩
theorem zhV (k : Int) (h : 0 ≤ k) (h2 : k ≤ 1000000) : zai Tryz.prog zfk [.I k] [] (.I (3 + 2 * k)) []:=by
 refine zpE.acalls (nbz rfl) (nbz rfl) (Nat.le_refl _) ?_
 show awp _ 0 _ _ ⟨_,[(0,.I k)],[],16⟩
 have hw2 : IntKind.i64.wrap (2 + 2 * k + 1) = 3 + 2 * k:=by rw [w64 (by omega) (by omega)]; omega
 refine rx (s:=?s1) [0] [] [] rfl ?o1 ?q1
 case o1=>simp; rfl
 refine rx (s:=?s2) [2] [] [] rfl ?o2 ?q2
 case o2=>simp; refine zaj (zbV k h h2) (by simp) ?_; simp [hw2]; rfl
 refine zag ?_
 exact ⟨.inr rfl,zak.one (by simp)⟩
theorem zdj (k : Int) (h : 0 ≤ k) (h2 : k ≤ 1000000) : zai Tryz.prog zcC [.I k] [] (.I (2 + 2 * k)) []:=by
 refine znX.acalls (nbz rfl) (nbz rfl) (Nat.le_refl _) ?_
 show awp _ 0 _ _ ⟨_,[(0,.I k)],[],16⟩
 have hw1 : IntKind.i64.wrap (2 * k) = 2 * k:=w64 (by omega) (by omega)
 have hw2 : IntKind.i64.wrap (2 + 2 * k) = 2 + 2 * k:=w64 (by omega) (by omega)
 refine rx (s:=?s1) [0] [] [] rfl ?o1 ?q1
 case o1=>simp; rfl
 refine rx (s:=?s2) [2] [] [] rfl ?o2 ?q2
 case o2=>simp [hw1,hw2]; rfl
 refine zag ?_
 exact ⟨.inr rfl,zak.one (by simp)⟩
theorem zhf (k : Int) (h : 0 ≤ k) (h2 : k ≤ 1000000) : zai Tryz.prog ze2 [.I k] [] (.I (3 + 2 * k)) []:=by
 refine zpD.acalls (nbz rfl) (nbz rfl) (Nat.le_refl _) ?_
 show awp _ 0 _ _ ⟨_,[(0,.I k)],[],16⟩
 have hw1 : IntKind.i64.wrap (2 * k) = 2 * k:=w64 (by omega) (by omega)
 have hw2 : IntKind.i64.wrap (3 + 2 * k) = 3 + 2 * k:=w64 (by omega) (by omega)
 refine rx (s:=?s1) [0] [] [] rfl ?o1 ?q1
 case o1=>simp; rfl
 refine rx (s:=?s2) [2] [] [] rfl ?o2 ?q2
 case o2=>simp [hw1,hw2]; rfl
 refine zag ?_
 exact ⟨.inr rfl,zak.one (by simp)⟩
abbrev outV (N : Int) (B n : Nat) : Ent:=⟨2,[[.I N,.rs B 0 n]],0⟩
theorem zqg (N f t v : Int) (L : List Ed) (n : Nat) (hL : L.length = n) (hn : n ≤ 1000000) : zai Tryz.prog zaH [.I f,.I t,.I v,.pt 0 0 0] [outV N 1 n,⟨3,za2 L,0⟩] (.tup []) [some (outV N 2 (n + 1)),none,some ⟨3,za2 (L ++ [⟨f,t,v⟩]),0⟩]:=by
 refine zh3.acalls (nbz rfl) (nbz rfl) (nbz rfl) ?_
 show awp _ 2 _ _ ⟨16,[(0,.I f),(1,.I t),(2,.I v),(3,.pt 0 0 0)],[(0,some (outV N 1 n)),(1,some ⟨3,za2 L,0⟩)],16⟩
 have htl : ∀ f : Ed → List AV,List.take n (List.map f L) = List.map f L:=fun f=>List.take_of_length_le (by simp [hL])
 refine zad (s:=?s1) rfl ?o1 ?q1
 case o1=>simp [hL,htl]; refine ⟨by omega,by omega,?_⟩; rfl
 refine ⟨.inl rfl,⟨[],rfl,[72],[],by simp [List.range,List.range.loop],by simp,by simp,by simp,?_⟩⟩
 simp [List.range,List.range.loop]
def arc1 (c : List Int) (x : Int) : List Ed:=if 0 < c.getD x.toNat 0 then [⟨0,2 + 2 * x,c.getD x.toNat 0⟩] else []
def arc2 (c : List Int) (i : Nat) : List Ed:=if 0 < c.getD i 0 then [⟨2 + 2 * (i : Int),3 + 2 * (i : Int),c.getD i 0 - 1⟩] else []
def arc3 (c : List Int) (x : Int) : List Ed:=if 0 < c.getD x.toNat 0 then [⟨2 + 2 * x,1,1⟩] else []
def arc4 (c : List Int) (e : Ed) : List Ed:=if 0 < c.getD e.f.toNat 0 then [⟨3 + 2 * e.f,2 + 2 * e.t,64⟩] else []
theorem zcP {α : Type} (q : α → Bool) (f : α → Ed) (l : List α) : (l.filter q).map f = l.flatMap fun x=>if q x = true then [f x] else []:=by
 induction l with
 | nil=>rfl
 | cons x l ih=>by_cases h : q x = true <;> simp [h,ih]
theorem zfH (g : Gr) (p : Pol) (c sinks : List Int) : zba g p c sinks = p.seeds.flatMap (arc1 c) ++ (List.range c.length).flatMap (arc2 c) ++ sinks.flatMap (arc3 c) ++ (zal g p.lv).edges.flatMap (arc4 c):=by
 unfold zba
 rw [zcP,zcP,zcP,zcP]
 simp only [decide_eq_true_eq]
 rfl
theorem zdp {α : Type} (f : α → List Ed) (l : List α) (i : Nat) (h : i < l.length) : (l.take (i + 1)).flatMap f = (l.take i).flatMap f ++ f l[i]:=by
 rw [List.take_succ_eq_append_getElem h,List.flatMap_append]
 simp
theorem zca {α : Type} (f : α → List Ed) (hf : ∀ x,(f x).length ≤ 1) (l : List α) : (l.flatMap f).length ≤ l.length:=by
 induction l with
 | nil=>simp
 | cons x l ih=>rw [List.flatMap_cons,List.length_append,List.length_cons]; have:=hf x; omega
theorem zhE (c : List Int) (x : Int) : (arc1 c x).length ≤ 1:=by unfold arc1; split <;> simp
theorem zhm (c : List Int) (x : Nat) : (arc2 c x).length ≤ 1:=by unfold arc2; split <;> simp
theorem zhd (c : List Int) (x : Int) : (arc3 c x).length ≤ 1:=by unfold arc3; split <;> simp
theorem zg9 (c : List Int) (x : Ed) : (arc4 c x).length ≤ 1:=by unfold arc4; split <;> simp
theorem zbA {α : Type} (f : α → List Ed) (hf : ∀ x,(f x).length ≤ 1) (l : List α) (i : Nat) : ((l.take i).flatMap f).length ≤ l.length:=Nat.le_trans (zca f hf _) (List.length_take_le' i l)
set_option maxRecDepth 100000 in
set_option maxHeartbeats 4000000 in
theorem zjc (g : Gr) (p : Pol) (sinks : List Int) (hg : GrOk g) (hp : za6 g.size p) (hr : Rise sinks 0 (g.size - 1)) (hs : p.seeds.length ≤ 64) (hsl : sinks.length ≤ 64) :
  zai Tryz.prog zeI [eG g,eP p,ints sinks] [] (.tup [eN ⟨2 + 2 * g.size,zba g p (zaO g p) sinks⟩,.I 0]) []:=by
 refine zle.acalls (nbz rfl) (nbz rfl) (Nat.le_refl _) ?_
 show awp _ 0 _ _ ⟨123,[(0,eG g),(1,eP p),(2,ints sinks)],[],16⟩
 have hsz:=hg.1.1
 have hsz2:=hg.1.2.1
 have hel:=hg.edges_le
 have hgl:=hg.gone_le
 have hchk:=zc8 g p (by omega) (by omega) (by omega) (by have:=hp.2.2.2.1; omega)
 rw [if_pos hg,if_pos hp] at hchk
 have hcap:=zkh g p hg (by omega)
 have hcb:=zjY (g:=g) hp
 have hcl : (zaO g p).length = g.size.toNat:=zbU
 rw [← hcl] at hcap
 have hlev:=zdm g p.lv (by omega) (by omega)
 rw [zfH]
 obtain ⟨C,hC⟩ : ∃ C,C = zaO g p:=⟨_,rfl⟩
 rw [← hC] at hcap hcl hcb ⊢
 have hGe : ∀ e ∈ (zal g p.lv).edges,e ∈ g.edges:=fun e he=>(List.mem_filter.1 he).1
 have hGl : (zal g p.lv).edges.length ≤ 500:=Nat.le_trans (List.length_filter_le ..) hel
 obtain ⟨G,hG⟩ : ∃ G,G = zal g p.lv:=⟨_,rfl⟩
 rw [← hG] at hlev hGe hGl ⊢
 have hw1 : IntKind.i64.wrap (g.size - 1) = g.size - 1:=w64 (by omega) (by omega)
 have hfit : ∀ e ∈ G.edges,(0 ≤ e.f ∧ e.f < g.size) ∧ (0 ≤ e.t ∧ e.t < g.size):=fun e he=>by
  have:=hg.fits e (hGe e he)
  unfold Fits at this
  omega
 have hkey : ∀ k : Int,0 ≤ k → k < g.size → ∃ j : Nat,k = j ∧ j < C.length ∧ j < 64:=fun k h0 h1=>⟨k.toNat,by omega,by omega,by omega⟩
 have hseed : ∀ k ∈ p.seeds,∃ j : Nat,k = j ∧ j < C.length ∧ j < 64:=fun k hk=>by
  obtain ⟨i,hi,rfl⟩:=List.getElem_of_mem hk
  have:=hp.2.1 i hi
  exact hkey _ (by omega) (by omega)
 have hsink : ∀ k ∈ sinks,∃ j : Nat,k = j ∧ j < C.length ∧ j < 64:=fun k hk=>by
  obtain ⟨i,hi,rfl⟩:=List.getElem_of_mem hk
  have:=hr i hi
  exact hkey _ (by omega) (by omega)
 refine zab ⟨123,[(2,ints sinks),(3,.pv (gC g)),(4,.pv (pC p)),(6,.pt 32 0 0)],[(32,some ⟨2,[[.I 0,.nilS]],0⟩)],48⟩ rfl ?_ ?_
 ·simp
  exact LeH [(32,32)] [16,24]
 refine zaa ?_
 refine rk (s:=?s2) [2,3,4,6,8] [32] rfl ?o2 ?q2
 case o2=>simp; refine zaj hchk (by simp) ?_; simp; rfl
 refine rk (s:=?s3) [2,3,4,6,24] [32] rfl ?o3 ?q3
 case o3=>simp; rfl
 refine zac _ rfl (fun h4=>?_) fun h4=>zae ?_
 ·simp at h4
 refine zaa ?_
 refine rk (s:=?s5) [2,3,4,6,32] [32] rfl ?o5 ?q5
 case o5=>simp [hw1]; refine zaj (zd5 sinks 0 (g.size - 1) (by omega)) (by simp) ?_; simp [hr]; rfl
 refine zac _ rfl (fun h6=>?_) fun h6=>zae ?_
 ·simp at h6
 refine rk (s:=?s7) [2,3,4,6,9] [32,176] rfl ?o7 ?q7
 case o7=>simp; refine zaj (zbV g.size hsz (by omega)) (by simp) ?_; simp; rfl
 obtain ⟨N,hN⟩ : ∃ N : Int,N = 2 + 2 * g.size:=⟨_,rfl⟩
 simp only [← hN]
 refine rk (s:=?s8) [2,3,4,6,9,10] [32,176] rfl ?o8 ?q8
 case o8=>simp; rfl
 refine zab ⟨123,[(2,ints sinks),(3,.pv (gC g)),(4,.pv (pC p)),(6,.pt 32 0 0),(9,.pt 176 0 0),(10,.fn (.func zaH) [] [.pt 176 0 0]),(11,ints C)],[(32,some ⟨2,[[.I 0,.nilS]],0⟩),(176,some ⟨2,[[.I N,.nilS]],0⟩)],240⟩ rfl ?_ ?_
 ·simp
  refine zbc hcap (by simp) ?_
  simp [fcd]
  exact Le.go [(32,32),(176,176)] [224] rfl rfl (by simp [fcd,zaq]) (by simp)
 have hb1 : (p.seeds.flatMap (arc1 C)).length ≤ 64:=Nat.le_trans (zca _ (zhE C) _) hs
 have hb2 : ((List.range C.length).flatMap (arc2 C)).length ≤ 64:=Nat.le_trans (zca _ (zhm C) _) (by rw [List.length_range]; omega)
 have hb3 : (sinks.flatMap (arc3 C)).length ≤ 64:=Nat.le_trans (zca _ (zhd C) _) hsl
 have hb4 : (G.edges.flatMap (arc4 C)).length ≤ 500:=Nat.le_trans (zca _ (zg9 C) _) hGl
 obtain ⟨X1,hX1⟩ : ∃ X,X = p.seeds.flatMap (arc1 C):=⟨_,rfl⟩
 obtain ⟨X2,hX2⟩ : ∃ X,X = (List.range C.length).flatMap (arc2 C):=⟨_,rfl⟩
 obtain ⟨X3,hX3⟩ : ∃ X,X = sinks.flatMap (arc3 C):=⟨_,rfl⟩
 obtain ⟨X4,hX4⟩ : ∃ X,X = G.edges.flatMap (arc4 C):=⟨_,rfl⟩
 obtain ⟨Z2,hZ2⟩ : ∃ Z,Z = X1 ++ X2:=⟨_,rfl⟩
 obtain ⟨Z3,hZ3⟩ : ∃ Z,Z = Z2 ++ X3:=⟨_,rfl⟩
 obtain ⟨Z4,hZ4⟩ : ∃ Z,Z = Z3 ++ X4:=⟨_,rfl⟩
 rw [← hX1] at hb1
 rw [← hX2] at hb2
 rw [← hX3] at hb3
 rw [← hX4] at hb4
 rw [← hX1,← hX2,← hX3,← hX4,← hZ2,← hZ3,← hZ4]
 have hz2 : Z2.length ≤ 128:=by rw [hZ2,List.length_append]; omega
 have hz3 : Z3.length ≤ 192:=by rw [hZ3,List.length_append]; omega
 refine zaa ?_
 refine rk (s:=?sa1) [2,3,4,6,9,10,11,43,44,45] [32,176] rfl ?oa1 ?qa1
 case oa1=>simp; rfl
 refine zaf ?_
 obtain ⟨Fa,Fa0,Fas,Fal,FaN⟩ : ∃ F : Nat → List Ed,F 0 = [] ∧ (∀ i (h : i < (p.seeds).length),F (i + 1) = F i ++ arc1 C (p.seeds)[i]) ∧ (∀ i,(F i).length ≤ 64) ∧ F (p.seeds).length = (p.seeds).flatMap (arc1 C) :=
  ⟨fun i=>((p.seeds).take i).flatMap (arc1 C),by simp,fun i h=>by simp only [zdp _ _ i h,List.append_assoc],fun i=>by have:=zbA _ (zhE C) (p.seeds) i; exact Nat.le_trans this hs,by simp⟩
 rw [← hX1] at FaN
 refine zao (ι:=Nat) (fun i=>⟨123,[(2,ints sinks),(3,.pv (gC g)),(4,.pv (pC p)),(6,.pt 32 0 0),(9,.pt 176 0 0),(10,.fn (.func zaH) [] [.pt 176 0 0]),(11,ints C),(43,ints p.seeds),(44,.I p.seeds.length),(45,.I i)],[(32,some ⟨2,[[.I 0,.nilS]],0⟩),(176,some (outV N 16 (Fa i).length)),(16,some ⟨3,za2 (Fa i),0⟩)],272⟩) (fun i=>i ≤ p.seeds.length) (fun i=>p.seeds.length - i) 0 (Nat.zero_le _) (Le.lst [(32,32),(176,176)] [] [(16,3)] rfl (by simp) (by simp) (by simp) (by simp) (by simp) (by simp) (by simp) (by simp [Up]) (by simp [Fa0]; refine ⟨zaI.rfl' (by simp),zaI.row rfl (by omega) (by simp [UpL,Up])⟩)) ?_
 intro i hi
 refine rk (s:=?sa2) [2,3,4,6,9,10,11,43,44,45,46] [32,176,16] rfl ?oa2 ?qa2
 case oa2=>simp; rfl
 refine zaa ?_
 refine zac _ rfl (fun h7=>?_) fun h7=>?_
 ·simp at h7
  have hw : IntKind.i64.wrap ((i : Int) + 1) = (i : Int) + 1:=w64 (by omega) (by omega)
  have hFi:=Fal i
  obtain ⟨k,hk,hkC,hk64⟩:=hseed _ (List.getElem_mem h7)
  have hFn : Fa (i + 1) = Fa i ++ if 0 < C[k] then [⟨0,2 + 2 * (k : Int),C[k]⟩] else []:=by
   rw [Fas i h7,hk]
   unfold arc1
   simp [hkC]
  refine zae ?_
  refine zaL (ι:=Unit) (fun _=>⟨123,[(2,ints sinks),(3,.pv (gC g)),(4,.pv (pC p)),(6,.pt 32 0 0),(9,.pt 176 0 0),(10,.fn (.func zaH) [] [.pt 176 0 0]),(11,ints C),(43,ints p.seeds),(44,.I p.seeds.length),(45,.I i)],[(32,some ⟨2,[[.I 0,.nilS]],0⟩),(176,some (outV N 16 (Fa (i + 1)).length)),(16,some ⟨3,za2 (Fa (i + 1)),0⟩)],700⟩) (fun _=>True) ?_ fun _ _=>?_
  ·refine zaf ?_
   refine rk (s:=?sa3) [2,3,4,6,9,10,11,13,43,44,45] [32,176,16] rfl ?oa3 ?qa3
   case oa3=>simp [h7,hk]; rfl
   refine rk (s:=?sa4) [2,3,4,6,9,10,11,13,43,44,45,53] [32,176,16] rfl ?oa4 ?qa4
   case oa4=>simp [hkC]; rfl
   refine zac _ rfl (fun h8=>?_) fun h8=>?_
   ·simp at h8
    rw [if_pos h8] at hFn
    refine zbP rfl ?_
    simp [hkC]
    refine zaj (zbV k (by omega) (by omega)) (by simp) ?_
    simp [hkC]
    refine zlB (i:=176) (j:=16) (by decide) rfl rfl (e1':=outV N 1 (Fa i).length) (e2':=⟨3,za2 (Fa i),0⟩) (by simp) (by simp [fcd]) (zqg N 0 (2 + 2 * (k : Int)) C[k] (Fa i) _ rfl (by omega)) (by simp) (by simp) ?_
    simp [fcd]
    exact ⟨rfl,Le.go [(32,32),(176,176),(400,16)] [] rfl rfl (by simp [hFn]) (by simp [hFn,fcd])⟩
   ·simp at h8
    rw [if_neg (by omega)] at hFn
    refine zae ?_
    exact ⟨(),trivial,Le.go [(32,32),(176,176),(16,16)] [] rfl rfl (by simp [hFn]) (by simp [hFn,fcd])⟩
  refine zad (s:=?sa9) rfl ?oa9 ?qa9
  case oa9=>simp; rfl
  exact ⟨i + 1,by omega,by omega,Le.go [(32,32),(176,176),(16,16)] [] rfl rfl (by simp [hw]) (by simp [fcd])⟩
 simp at h7
 obtain rfl : i = p.seeds.length:=by omega
 rw [FaN]
 refine zan ?_
 refine hit ?_
 refine zaa ?_
 refine rk (s:=?sb1) [2,3,4,6,9,10,11,63,64,65] [32,176,16] rfl ?ob1 ?qb1
 case ob1=>simp; rfl
 refine zaf ?_
 obtain ⟨Fb,Fb0,Fbs,Fbl,FbN⟩ : ∃ F : Nat → List Ed,F 0 = X1 ∧ (∀ i (h : i < (List.range C.length).length),F (i + 1) = F i ++ arc2 C (List.range C.length)[i]) ∧ (∀ i,(F i).length ≤ 200) ∧ F (List.range C.length).length = X1 ++ (List.range C.length).flatMap (arc2 C) :=
  ⟨fun i=>X1 ++ ((List.range C.length).take i).flatMap (arc2 C),by simp,fun i h=>by simp only [zdp _ _ i h,List.append_assoc],fun i=>by have:=zbA _ (zhm C) (List.range C.length) i; rw [List.length_range] at this; rw [List.length_append]; omega,by simp⟩
 rw [List.length_range,← hX2,← hZ2] at FbN
 refine zao (ι:=Nat) (fun i=>⟨123,[(2,ints sinks),(3,.pv (gC g)),(4,.pv (pC p)),(6,.pt 32 0 0),(9,.pt 176 0 0),(10,.fn (.func zaH) [] [.pt 176 0 0]),(11,ints C),(63,ints C),(64,.I C.length),(65,.I i)],[(32,some ⟨2,[[.I 0,.nilS]],0⟩),(176,some (outV N 16 (Fb i).length)),(16,some ⟨3,za2 (Fb i),0⟩)],304⟩) (fun i=>i ≤ C.length) (fun i=>C.length - i) 0 (Nat.zero_le _) (Le.go [(32,32),(176,176),(16,16)] [] rfl rfl (by simp [Fb0]) (by simp [Fb0,fcd])) ?_
 intro i hi
 refine rk (s:=?sb2) [2,3,4,6,9,10,11,63,64,65,66] [32,176,16] rfl ?ob2 ?qb2
 case ob2=>simp; rfl
 refine zaa ?_
 refine zac _ rfl (fun h7=>?_) fun h7=>?_
 ·simp at h7
  have hw : IntKind.i64.wrap ((i : Int) + 1) = (i : Int) + 1:=w64 (by omega) (by omega)
  have hFi:=Fbl i
  have hkC:=h7
  have hFn : Fb (i + 1) = Fb i ++ if 0 < C[i] then [⟨2 + 2 * (i : Int),3 + 2 * (i : Int),C[i] - 1⟩] else []:=by
   rw [Fbs i (by simpa using h7)]
   unfold arc2
   simp [hkC]
  have hci:=hcb _ (List.getElem_mem h7)
  have hwc : IntKind.i64.wrap (C[i] - 1) = C[i] - 1:=w64 (by omega) (by omega)
  refine zae ?_
  refine zaL (ι:=Unit) (fun _=>⟨123,[(2,ints sinks),(3,.pv (gC g)),(4,.pv (pC p)),(6,.pt 32 0 0),(9,.pt 176 0 0),(10,.fn (.func zaH) [] [.pt 176 0 0]),(11,ints C),(63,ints C),(64,.I C.length),(65,.I i)],[(32,some ⟨2,[[.I 0,.nilS]],0⟩),(176,some (outV N 16 (Fb (i + 1)).length)),(16,some ⟨3,za2 (Fb (i + 1)),0⟩)],700⟩) (fun _=>True) ?_ fun _ _=>?_
  ·refine zaf ?_
   refine rk (s:=?sb3) [2,3,4,6,9,10,11,14,15,63,64,65] [32,176,16] rfl ?ob3 ?qb3
   case ob3=>simp [h7]; rfl
   refine rk (s:=?sb4) [2,3,4,6,9,10,11,14,15,63,64,65,71] [32,176,16] rfl ?ob4 ?qb4
   case ob4=>simp [hkC]; rfl
   refine zac _ rfl (fun h8=>?_) fun h8=>?_
   ·simp at h8
    rw [if_pos h8] at hFn
    refine zav rfl ?_
    simp [hkC]
    refine zaj (zbV i (by omega) (by omega)) (by simp) ?_
    simp [hkC,hwc]
    refine zaj (zhV i (by omega) (by omega)) (by simp) ?_
    simp [hkC,hwc]
    refine zlB (i:=176) (j:=16) (by decide) rfl rfl (e1':=outV N 1 (Fb i).length) (e2':=⟨3,za2 (Fb i),0⟩) (by simp) (by simp [fcd]) (zqg N (2 + 2 * (i : Int)) (3 + 2 * (i : Int)) (C[i] - 1) (Fb i) _ rfl (by omega)) (by simp) (by simp) ?_
    simp [fcd]
    exact Le.go [(32,32),(176,176),(424,16)] [] rfl rfl (by simp [hFn]) (by simp [hFn,fcd])
   ·simp at h8
    rw [if_neg (by omega)] at hFn
    refine zae ?_
    exact ⟨(),trivial,Le.go [(32,32),(176,176),(16,16)] [] rfl rfl (by simp [hFn]) (by simp [hFn,fcd])⟩
  refine zad (s:=?sb9) rfl ?ob9 ?qb9
  case ob9=>simp; rfl
  exact ⟨i + 1,by omega,by omega,Le.go [(32,32),(176,176),(16,16)] [] rfl rfl (by simp [hw]) (by simp [fcd])⟩
 simp at h7
 obtain rfl : i = C.length:=by omega
 rw [FbN]
 refine zan ?_
 refine hit ?_
 refine zaa ?_
 refine rk (s:=?sc1) [3,4,6,9,10,11,81,82,83] [32,176,16] rfl ?oc1 ?qc1
 case oc1=>simp; rfl
 refine zaf ?_
 obtain ⟨Fc,Fc0,Fcs,Fcl,FcN⟩ : ∃ F : Nat → List Ed,F 0 = Z2 ∧ (∀ i (h : i < (sinks).length),F (i + 1) = F i ++ arc3 C (sinks)[i]) ∧ (∀ i,(F i).length ≤ 300) ∧ F (sinks).length = Z2 ++ (sinks).flatMap (arc3 C) :=
  ⟨fun i=>Z2 ++ ((sinks).take i).flatMap (arc3 C),by simp,fun i h=>by simp only [zdp _ _ i h,List.append_assoc],fun i=>by have:=zbA _ (zhd C) (sinks) i; simp only [List.length_append]; omega,by simp⟩
 rw [← hX3,← hZ3] at FcN
 refine zao (ι:=Nat) (fun i=>⟨123,[(3,.pv (gC g)),(4,.pv (pC p)),(6,.pt 32 0 0),(9,.pt 176 0 0),(10,.fn (.func zaH) [] [.pt 176 0 0]),(11,ints C),(81,ints sinks),(82,.I sinks.length),(83,.I i)],[(32,some ⟨2,[[.I 0,.nilS]],0⟩),(176,some (outV N 16 (Fc i).length)),(16,some ⟨3,za2 (Fc i),0⟩)],336⟩) (fun i=>i ≤ sinks.length) (fun i=>sinks.length - i) 0 (Nat.zero_le _) (Le.go [(32,32),(176,176),(16,16)] [] rfl rfl (by simp [Fc0]) (by simp [Fc0,fcd])) ?_
 intro i hi
 refine rk (s:=?sc2) [3,4,6,9,10,11,81,82,83,84] [32,176,16] rfl ?oc2 ?qc2
 case oc2=>simp; rfl
 refine zaa ?_
 refine zac _ rfl (fun h7=>?_) fun h7=>?_
 ·simp at h7
  have hw : IntKind.i64.wrap ((i : Int) + 1) = (i : Int) + 1:=w64 (by omega) (by omega)
  have hFi:=Fcl i
  obtain ⟨k,hk,hkC,hk64⟩:=hsink _ (List.getElem_mem h7)
  have hFn : Fc (i + 1) = Fc i ++ if 0 < C[k] then [⟨2 + 2 * (k : Int),1,1⟩] else []:=by
   rw [Fcs i h7,hk]
   unfold arc3
   simp [hkC]
  refine zae ?_
  refine zaL (ι:=Unit) (fun _=>⟨123,[(3,.pv (gC g)),(4,.pv (pC p)),(6,.pt 32 0 0),(9,.pt 176 0 0),(10,.fn (.func zaH) [] [.pt 176 0 0]),(11,ints C),(81,ints sinks),(82,.I sinks.length),(83,.I i)],[(32,some ⟨2,[[.I 0,.nilS]],0⟩),(176,some (outV N 16 (Fc (i + 1)).length)),(16,some ⟨3,za2 (Fc (i + 1)),0⟩)],700⟩) (fun _=>True) ?_ fun _ _=>?_
  ·refine zaf ?_
   refine rk (s:=?sc3) [3,4,6,9,10,11,17,81,82,83] [32,176,16] rfl ?oc3 ?qc3
   case oc3=>simp [h7,hk]; rfl
   refine rk (s:=?sc4) [3,4,6,9,10,11,17,81,82,83,91] [32,176,16] rfl ?oc4 ?qc4
   case oc4=>simp [hkC]; rfl
   refine zac _ rfl (fun h8=>?_) fun h8=>?_
   ·simp at h8
    rw [if_pos h8] at hFn
    refine zav rfl ?_
    simp [hkC]
    refine zaj (zbV k (by omega) (by omega)) (by simp) ?_
    simp [hkC]
    refine zlB (i:=176) (j:=16) (by decide) rfl rfl (e1':=outV N 1 (Fc i).length) (e2':=⟨3,za2 (Fc i),0⟩) (by simp) (by simp [fcd]) (zqg N (2 + 2 * (k : Int)) 1 1 (Fc i) _ rfl (by omega)) (by simp) (by simp) ?_
    simp [fcd]
    exact Le.go [(32,32),(176,176),(432,16)] [] rfl rfl (by simp [hFn]) (by simp [hFn,fcd])
   ·simp at h8
    rw [if_neg (by omega)] at hFn
    refine zae ?_
    exact ⟨(),trivial,Le.go [(32,32),(176,176),(16,16)] [] rfl rfl (by simp [hFn]) (by simp [hFn,fcd])⟩
  refine zad (s:=?sc9) rfl ?oc9 ?qc9
  case oc9=>simp; rfl
  exact ⟨i + 1,by omega,by omega,Le.go [(32,32),(176,176),(16,16)] [] rfl rfl (by simp [hw]) (by simp [fcd])⟩
 simp at h7
 obtain rfl : i = sinks.length:=by omega
 rw [FcN]
 refine zan ?_
 refine hit ?_
 refine zaa ?_
 refine rk (s:=?sd1) [6,9,10,11,101,102,103] [32,176,16] rfl ?od1 ?qd1
 case od1=>simp; refine zaj hlev (by simp) ?_; simp; rfl
 refine zaf ?_
 obtain ⟨Fd,Fd0,Fds,Fdl,FdN⟩ : ∃ F : Nat → List Ed,F 0 = Z3 ∧ (∀ i (h : i < (G.edges).length),F (i + 1) = F i ++ arc4 C (G.edges)[i]) ∧ (∀ i,(F i).length ≤ 900) ∧ F (G.edges).length = Z3 ++ (G.edges).flatMap (arc4 C) :=
  ⟨fun i=>Z3 ++ ((G.edges).take i).flatMap (arc4 C),by simp,fun i h=>by simp only [zdp _ _ i h,List.append_assoc],fun i=>by have:=zbA _ (zg9 C) (G.edges) i; simp only [List.length_append]; omega,by simp⟩
 rw [← hX4,← hZ4] at FdN
 refine zao (ι:=Nat) (fun i=>⟨123,[(6,.pt 32 0 0),(9,.pt 176 0 0),(10,.fn (.func zaH) [] [.pt 176 0 0]),(11,ints C),(101,eEs G.edges),(102,.I G.edges.length),(103,.I i)],[(32,some ⟨2,[[.I 0,.nilS]],0⟩),(176,some (outV N 16 (Fd i).length)),(16,some ⟨3,za2 (Fd i),0⟩)],400⟩) (fun i=>i ≤ G.edges.length) (fun i=>G.edges.length - i) 0 (Nat.zero_le _) (Le.go [(32,32),(176,176),(16,16)] [] rfl rfl (by simp [Fd0]) (by simp [Fd0,fcd])) ?_
 intro i hi
 refine rk (s:=?sd2) [6,9,10,11,101,102,103,104] [32,176,16] rfl ?od2 ?qd2
 case od2=>simp; rfl
 refine zaa ?_
 refine zac _ rfl (fun h7=>?_) fun h7=>?_
 ·simp at h7
  have hw : IntKind.i64.wrap ((i : Int) + 1) = (i : Int) + 1:=w64 (by omega) (by omega)
  have hFi:=Fdl i
  obtain ⟨x,hx⟩ : ∃ x,x = G.edges[i]:=⟨_,rfl⟩
  have hfx:=hfit _ (List.getElem_mem h7)
  rw [← hx] at hfx
  obtain ⟨k,hk,hkC,hk64⟩:=hkey x.f hfx.1.1 hfx.1.2
  obtain ⟨u,hu,huC,hu64⟩:=hkey x.t hfx.2.1 hfx.2.2
  have hFn : Fd (i + 1) = Fd i ++ if 0 < C[k] then [⟨3 + 2 * (k : Int),2 + 2 * (u : Int),64⟩] else []:=by
   rw [Fds i h7,← hx]
   unfold arc4
   rw [hk,hu]
   simp [hkC]
  refine zae ?_
  refine zaL (ι:=Unit) (fun _=>⟨123,[(6,.pt 32 0 0),(9,.pt 176 0 0),(10,.fn (.func zaH) [] [.pt 176 0 0]),(11,ints C),(101,eEs G.edges),(102,.I G.edges.length),(103,.I i)],[(32,some ⟨2,[[.I 0,.nilS]],0⟩),(176,some (outV N 16 (Fd (i + 1)).length)),(16,some ⟨3,za2 (Fd (i + 1)),0⟩)],700⟩) (fun _=>True) ?_ fun _ _=>?_
  ·refine zaf ?_
   refine zab ⟨123,[(6,.pt 32 0 0),(9,.pt 176 0 0),(10,.fn (.func zaH) [] [.pt 176 0 0]),(11,ints C),(19,.pv (eC x)),(101,eEs G.edges),(102,.I G.edges.length),(103,.I i)],[(32,some ⟨2,[[.I 0,.nilS]],0⟩),(176,some (outV N 16 (Fd i).length)),(16,some ⟨3,za2 (Fd i),0⟩)],440⟩ rfl ?_ ?_
   ·simp [h7,← hx]
    exact LeI [(32,32),(176,176),(16,16)] [424]
   refine rk (s:=?sd4) [6,9,10,11,19,101,102,103,112] [32,176,16] rfl ?od4 ?qd4
   case od4=>simp [hk,hkC]; rfl
   refine zac _ rfl (fun h8=>?_) fun h8=>?_
   ·simp at h8
    rw [if_pos h8] at hFn
    refine zbP rfl ?_
    simp [hk,hu]
    refine zaj (zhV k (by omega) (by omega)) (by simp) ?_
    simp [hkC]
    refine zaj (zbV u (by omega) (by omega)) (by simp) ?_
    simp [hkC]
    refine zlB (i:=176) (j:=16) (by decide) rfl rfl (e1':=outV N 1 (Fd i).length) (e2':=⟨3,za2 (Fd i),0⟩) (by simp) (by simp [fcd]) (zqg N (3 + 2 * (k : Int)) (2 + 2 * (u : Int)) 64 (Fd i) _ rfl (by omega)) (by simp) (by simp) ?_
    simp [fcd]
    exact ⟨rfl,Le.go [(32,32),(176,176),(544,16)] [] rfl rfl (by simp [hFn]) (by simp [hFn,fcd])⟩
   ·simp at h8
    rw [if_neg (by omega)] at hFn
    refine zae ?_
    exact ⟨(),trivial,Le.go [(32,32),(176,176),(16,16)] [] rfl rfl (by simp [hFn]) (by simp [hFn,fcd])⟩
  refine zad (s:=?sd9) rfl ?od9 ?qd9
  case od9=>simp; rfl
  exact ⟨i + 1,by omega,by omega,Le.go [(32,32),(176,176),(16,16)] [] rfl rfl (by simp [hw]) (by simp [fcd])⟩
 simp at h7
 obtain rfl : i = G.edges.length:=by omega
 rw [FdN]
 refine zan ?_
 refine hit ?_
 refine rk (s:=?sz) [6,7] [32,16] rfl ?oz ?qz
 case oz=>simp; rfl
 refine zag ?_
 exact ⟨.inr rfl,zak.out [] [16] rfl (by simp) (by simp) (by simp [hN,fcd,zaq]) (by simp)⟩
end Go.Proofs.YthmaflecfppoiaaGreat
