/- Texts of this claim,merged. -/
import Derived.Test.YtklclphfcibagaaGreatRy13
import Derived.Test.YtklclphfcibagaaGreatRy9
set_option linter.unusedSimpArgs false
set_option linter.unusedVariables false
set_option linter.unusedSectionVars false
namespace Go.Proofs.YtklclphfcibagaaGreat
open Go
set_option maxRecDepth 100000
theorem zaT {P : Program} : ∀ q ∈ ([] : List (FuncId × AFun)),Src P q.1 q.2:=fun _ h=>(List.not_mem_nil h).elim
theorem zaf {P : Program} {f : FuncId} {af : AFun} {l : List (FuncId × AFun)} (s : Src P f af) (h : ∀ q ∈ l,Src P q.1 q.2) : ∀ q ∈ (f,af) :: l,Src P q.1 q.2:=fun q hq=>by
 rcases List.mem_cons.1 hq with rfl | hq
 ·exact s
 ·exact h q hq
theorem zae {P : Program} : ∀ q ∈ ([] : List Fct),q.Ok P:=fun _ h=>(List.not_mem_nil h).elim
theorem zaa {P : Program} {q0 : Fct} {l : List Fct} (s : q0.Ok P) (h : ∀ q ∈ l,q.Ok P) : ∀ q ∈ q0 :: l,q.Ok P:=fun q hq=>by
 rcases List.mem_cons.1 hq with rfl | hq
 ·exact s
 ·exact h q hq
theorem zav {sp : List FuncId} {l : List Fct} {tbl : List (FuncId × AFun)} (hl : ∀ q ∈ l,q.Ok Tryz.prog) (ht : ∀ q ∈ tbl,Src Tryz.prog q.1 q.2) {f : FuncId} {a : List AV} {r : AV} {c : List (Option Ent)} (h : evN sp (zam l) tbl 1000 40 f a [] = some (r,c)) : zao Tryz.prog f a [] r c :=
 zbp (zaE hl) ht 1000 40 f a [] r c h
noncomputable def zvO (sp : List FuncId) (cf : Cf) (lf : Nat) (rs : List (Nat × Option (Bool × Nat))) (c : zdu) (sz k n : Nat) (xs : List AV) : Option (AV × List (Option Ent)) :=
 argT xs k (zqJ 9) fun t=>zqg rs 0 (zii sp cf 0 lf c ⟨sz,t,[],n⟩)
theorem zaF {P : Program} {sp : List FuncId} {cf : Cf} (hcf : ∀ f a b r c,cf f a b = some (r,c) → zao P f a b r c) {lf : Nat} {rs : List (Nat × Option (Bool × Nat))} {c : zdu} {sz k n : Nat} {a b : AV} {res : AV}
  (h : zvO sp cf lf rs c sz k n [a,b] = some (res,[])) : awp P 0 c (fun e st=>(e = .normal ∨ e = .ret) ∧ zat rs 0 st res []) ⟨sz,[(k,a),(k + 1,b)],[],n⟩:=by
 unfold zvO at h
 obtain ⟨t',h,ht'⟩:=zpe _ _ _ _ _ h
 have ag : zf3 ⟨sz,[(k,a),(k + 1,b)],[],n⟩ ⟨sz,t',[],n⟩:=by
  refine ⟨rfl,rfl,?_,by funext id; unfold RS.hp; rw [zsH]; rfl⟩
  funext i
  unfold St.get RS.get
  rw [ht',zky]
  simp only [lkp,List.length_cons,List.length_nil]
  by_cases h1 : k = i
  ·subst h1
   rw [if_pos rfl,if_pos (by omega),Nat.sub_self]
   rfl
  ·rw [if_neg h1]
   by_cases h2 : k + 1 = i
   ·subst h2
    rw [if_pos rfl,if_pos (by omega),show k + 1 - k = 1 by omega]
    rfl
   ·rw [if_neg h2,if_neg (by omega)]
    rfl
 have fin : ∀ (e0 : zcP) (s0 : RS),e0 = .normal ∨ e0 = .ret → zii sp cf 0 lf c ⟨sz,t',[],n⟩ = some (e0,s0) → zq0 rs 0 s0 = some (res,[]) → awp P 0 c (fun e st=>(e = .normal ∨ e = .ret) ∧ zat rs 0 st res []) ⟨sz,[(k,a),(k + 1,b)],[],n⟩:=by
  intro e0 s0 he hr hret
  have hw:=zdn hcf _ _ _ hr _ ag
  obtain ⟨_,hro⟩:=zqD hret
  refine zb2 (fun e t ht=>?_) hw
  obtain ⟨rfl,ag'⟩:=ht
  exact ⟨he,hro t ag'⟩
 unfold zqg at h
 split at h
 ·rename_i s0 hr; exact fin _ s0 (.inl rfl) hr h
 ·rename_i s0 hr; exact fin _ s0 (.inr rfl) hr h
 ·cases h
def spV : List FuncId:=[zds,zbs,za6,zbu,zag,zaP,zaN,zab,zar,zaR,zaq]
abbrev sA (num : Int) (prev dg : ByteArray) (A B C : Int) : AV:=.agg [.I 0,.I num,.sc (.string prev),.I 3,.I 1,.I A,.I B,.I C,.vs 1 false [],.vs 3 false [],.sc (.string ⟨#[]⟩),.I 0,.sc (.string dg)]
abbrev sR (num : Int) (prev dg : ByteArray) (A B C : Int) (l p : AV) : List AV:=[.I 0,.I num,.sc (.string prev),.I 3,.I 1,.I A,.I B,.I C,l,p,.sc (.string ⟨#[]⟩),.I 0,.sc (.string dg)]
abbrev vI : AV:=.vs 1 false []
abbrev vP : AV:=.vs 3 false []
end Go.Proofs.YtklclphfcibagaaGreat
namespace Go.Proofs.YtklclphfcibagaaGreat
open Go
abbrev zaW (k : IntKind) (l : List Int) : List (List AV):=l.map fun x=>[AV.sc (.int k x)]
abbrev bys (l : List Int) : AV:=.vs 1 false (zaW .u8 l)
section
variable {P : Program} {np id : Nat} {h : Nat → Option Ent} {K : AV → List Nat → List (Nat × Option Ent) → Prop} {f : FuncId} {first capt args args' : List AV} {res : AV}
end
theorem ziZ (k : IntKind) (l : List Int) (ρ sn h m) : (zaW k l).map (List.map (conv ρ sn h (m + 1))) = zaW k l:=by simp [fcd]
theorem zfn (k : IntKind) (l : List Int) : (zaW k l).length = l.length:=by simp
theorem Le.K1 {st st' : St} {k : IntKind} {l : List Int} (i j : Nat) (sn : List Nat) (hsz : st'.sz = st.sz) (hh : st'.h = [(j,some ⟨1,zaW k l,0⟩)]) (hi : j < st'.n) (hs : ∀ j ∈ sn,j ≠ i) (h0 : st.hp i = some ⟨1,zaW k l,0⟩)
  (ht : ∀ p ∈ st'.t,Wk (conv [(i,j)] sn st.hp 4 (st.get p.1)) p.2) : Le 0 st st' :=
 Le.ren1 i j sn hsz hh hi hs h0 (by simp only [zaw,ziZ]) (Nat.zero_le _) ht
def zrK (v : Int) (k : Nat) : Int:=IntKind.u8.wrap (v.fdiv (2 ^ (min (8 * k) 64)))
def zn1 (v : Int) (n : Nat) : List Int:=(List.range n).map fun j=>zrK v (7 - j)
def intY (v : Int) : List Int:=zn1 v 8
theorem znH (v : Int) (n : Nat) : (zn1 v n).length = n:=by simp [zn1]
theorem ztZ (v : Int) : (intY v).length = 8:=znH v 8
theorem zqI (v : Int) (n : Nat) : zn1 v (n + 1) = zn1 v n ++ [zrK v (7 - n)]:=by simp [zn1,List.range_succ]
abbrev wds (l : List Int) : AV:=.vs 1 false (zaW .u32 l)
abbrev wd (x : Int) : AV:=.sc (.int .u32 x)
def u2 (op : BinOp) (a b : Int) : Int:=match binV op (.int .u32 a) (.int .u32 b) with | some (.int _ n)=>n | _=>0
def sh (op : BinOp) (a n : Int) : Int:=match binV op (.int .u32 a) (.int .u64 n) with | some (.int _ n)=>n | _=>0
def nt (a : Int) : Int:=match unV .xor (.int .u32 a) with | some (.int _ n)=>n | _=>0
def zlf (x n : Int) : Int:=u2 .or (sh .shr x n) (sh .shl x (32 - n))
section
variable {P : Program} {np id : Nat} {h : Nat → Option Ent} {K : AV → List Nat → List (Nat × Option Ent) → Prop}
theorem k_u2 (op : BinOp) (ho : op = .add ∨ op = .xor ∨ op = .and ∨ op = .or) {a b : Int} : aK P np id (.bin op) [.sc (.int .u32 a),.sc (.int .u32 b)] h K = K (.sc (.int .u32 (u2 op a b))) [] []:=by
 refine propext ?_
 rcases ho with rfl | rfl | rfl | rfl
 all_goals
  constructor
  ·rintro ⟨v,hv,hk⟩
   cases hv
   exact hk
  ·exact fun hk=>⟨_,rfl,hk⟩
@[simp high] theorem zCI {a b : Int} : aK P np id (.bin .add) [.sc (.int .u32 a),.sc (.int .u32 b)] h K = K (.sc (.int .u32 (u2 .add a b))) [] []:=k_u2 _ (.inl rfl)
@[simp high] theorem zCl {a b : Int} : aK P np id (.bin .xor) [.sc (.int .u32 a),.sc (.int .u32 b)] h K = K (.sc (.int .u32 (u2 .xor a b))) [] []:=k_u2 _ (.inr (.inl rfl))
@[simp high] theorem zCy {a b : Int} : aK P np id (.bin .and) [.sc (.int .u32 a),.sc (.int .u32 b)] h K = K (.sc (.int .u32 (u2 .and a b))) [] []:=k_u2 _ (.inr (.inr (.inl rfl)))
@[simp high] theorem zDa {a b : Int} : aK P np id (.bin .or) [.sc (.int .u32 a),.sc (.int .u32 b)] h K = K (.sc (.int .u32 (u2 .or a b))) [] []:=k_u2 _ (.inr (.inr (.inr rfl)))
theorem k_sh (op : BinOp) (ho : op = .shl ∨ op = .shr) {a n : Int} (hn : 0 ≤ n) : aK P np id (.bin op) [.sc (.int .u32 a),.sc (.int .u64 n)] h K = K (.sc (.int .u32 (sh op a n))) [] []:=by
 refine propext ?_
 have e : binV op (.int .u32 a) (.int .u64 n) = some (.int .u32 (sh op a n)):=by
  rcases ho with rfl | rfl <;> simp [binV,sh,hn]
 constructor
 ·rintro ⟨v,hv,hk⟩
  rw [e] at hv
  cases hv
  exact hk
 ·exact fun hk=>⟨_,e,hk⟩
@[simp high] theorem zCE {a n : Int} (hn : 0 ≤ n) : aK P np id (.bin .shl) [.sc (.int .u32 a),.sc (.int .u64 n)] h K = K (.sc (.int .u32 (sh .shl a n))) [] []:=k_sh _ (.inl rfl) hn
@[simp high] theorem zCe {a n : Int} (hn : 0 ≤ n) : aK P np id (.bin .shr) [.sc (.int .u32 a),.sc (.int .u64 n)] h K = K (.sc (.int .u32 (sh .shr a n))) [] []:=k_sh _ (.inr rfl) hn
@[simp high] theorem zDc {a : Int} : aK P np id (.un .xor) [.sc (.int .u32 a)] h K = K (.sc (.int .u32 (nt a))) [] []:=by
 refine propext ⟨?_,fun hk=>⟨_,rfl,hk⟩⟩
 rintro ⟨v,hv,hk⟩
 cases hv
 exact hk
end
theorem zbz (x n : Int) (h0 : 0 ≤ n) (h1 : n ≤ 32) : zao Tryz.prog zbJ [wd x,.sc (.int .u64 n)] [] (wd (zlf x n)) []:=by
 refine zoM.ac ?_
 show awp _ 0 _ _ ⟨13,[(0,wd x),(1,.sc (.int .u64 n))],[],16⟩
 have hw : IntKind.u64.wrap (32 - n) = 32 - n:=by rw [IntKind.wrap_u64]; omega
 have h2 : 0 ≤ 32 - n:=by omega
 refine zac ?_
 refine zau ?_
 refine zad ⟨13,[(4,wd (zlf x n))],[],96⟩ rfl ?_ ?_
 ·simp [h0,h1,h2,hw]
  exact Le.snap [] rfl rfl (by simp [zlf])
 refine zan ?_
 exact ⟨.inr rfl,zat.one (by simp)⟩
def conK : List Int:=[1116352408,1899447441,3049323471,3921009573,961987163,1508970993,2453635748,2870763221,3624381080,310598401,607225278,1426881987,1925078388,2162078206,2614888103,3248222580,3835390401,4022224774,264347078,604807628,770255983,1249150122,1555081692,1996064986,2554220882,2821834349,2952996808,3210313671,3336571891,3584528711,113926993,338241895,666307205,773529912,1294757372,1396182291,1695183700,1986661051,2177026350,2456956037,2730485921,2820302411,3259730800,3345764771,3516065817,3600352804,4094571909,275423344,430227734,506948616,659060556,883997877,958139571,1322822218,1537002063,1747873779,1955562222,2024104815,2227730452,2361852424,2428436474,2756734187,3204031479,3329325298]
theorem zqB : conK.length = 64:=rfl
theorem zvZ : zao Tryz.prog zd2 [] [] (.rs 0 0 64) [some ⟨1,zaW .u32 conK,0⟩]:=by
 refine zjU.ac ?_
 show awp _ 0 _ _ ⟨2,[],[],16⟩
 refine zac ?_
 refine zau ?_
 refine zac ?_
 refine zau ?_
 refine zan ?_
 exact ⟨.inr rfl,zat.out [24] [] rfl (by simp) (by simp) (by simp) (by simp [conK])⟩
abbrev gt (l : List Int) (i : Nat) : Int:=l.getD i 0
theorem zoC {l : List Int} {i n : Nat} (hl : l.length = n) (h : i < n) : ∃ (h : i < l.length),l[i] = gt l i:=by
 have h2 : i < l.length:=by omega
 exact ⟨h2,by simp [gt,h2]⟩
theorem zey {k : IntKind} {l : List Int} {i n : Nat} (hl : l.length = n) (h : i < n) : (zaW k l)[i]? = some [AV.sc (.int k (gt l i))]:=by
 have h2 : i < l.length:=by omega
 simp [gt,h2]
def zue (a b c d : Int) : Int:=u2 .or (u2 .or (u2 .or (sh .shl (IntKind.u32.wrap a) 24) (sh .shl (IntKind.u32.wrap b) 16)) (sh .shl (IntKind.u32.wrap c) 8)) (IntKind.u32.wrap d)
def s0F (x : Int) : Int:=u2 .xor (u2 .xor (zlf x 7) (zlf x 18)) (sh .shr x 3)
def s1F (x : Int) : Int:=u2 .xor (u2 .xor (zlf x 17) (zlf x 19)) (sh .shr x 10)
def w0F (B : List Int) : Nat → List Int
 | 0=>List.replicate 64 0
 | i + 1=>(w0F B i).set i (zue (gt B (4 * i)) (gt B (4 * i + 1)) (gt B (4 * i + 2)) (gt B (4 * i + 3)))
def w1F (B : List Int) : Nat → List Int
 | 0=>w0F B 16
 | i + 1=>(w1F B i).set (i + 16) (u2 .add (u2 .add (u2 .add (gt (w1F B i) i) (s0F (gt (w1F B i) (i + 1)))) (gt (w1F B i) (i + 9))) (s1F (gt (w1F B i) (i + 14))))
def r3 (x a b c : Int) : Int:=u2 .xor (u2 .xor (zlf x a) (zlf x b)) (zlf x c)
def xF (v : List Int) (k w : Int) : Int:=u2 .add (u2 .add (u2 .add (u2 .add (gt v 7) (r3 (gt v 4) 6 11 25)) (u2 .xor (u2 .and (gt v 4) (gt v 5)) (u2 .and (nt (gt v 4)) (gt v 6)))) k) w
def mF (v : List Int) : Int:=u2 .xor (u2 .xor (u2 .and (gt v 0) (gt v 1)) (u2 .and (gt v 0) (gt v 2))) (u2 .and (gt v 1) (gt v 2))
def vF (H B C : List Int) : Nat → List Int
 | 0=>H
 | i + 1 =>
   let v:=vF H B C i
   let x:=xF v (gt C i) (gt (w1F B 48) i)
   [u2 .add (u2 .add x (r3 (gt v 0) 2 13 22)) (mF v),gt v 0,gt v 1,gt v 2,u2 .add (gt v 3) x,gt v 4,gt v 5,gt v 6]
def oF (H B C : List Int) : Nat → List Int
 | 0=>vF H B C 64
 | i + 1=>(oF H B C i).set i (u2 .add (gt (oF H B C i) i) (gt H i))
def zj7 (H B C : List Int) : List Int:=oF H B C 8
theorem zpq (B : List Int) : ∀ i,(w0F B i).length = 64
 | 0=>by simp [w0F]
 | i + 1=>by rw [w0F,List.length_set,zpq B i]
theorem zng (B : List Int) : ∀ i,(w1F B i).length = 64
 | 0=>zpq B 16
 | i + 1=>by rw [w1F,List.length_set,zng B i]
theorem zvF {H B C : List Int} (hH : H.length = 8) : ∀ i,(vF H B C i).length = 8
 | 0=>hH
 | i + 1=>rfl
theorem zrC {H B C : List Int} (hH : H.length = 8) : ∀ i,(oF H B C i).length = 8
 | 0=>zvF hH 64
 | i + 1=>by rw [oF,List.length_set,zrC hH i]
theorem Le.X1 {st st' : St} {X : List (List AV)} (hflat : ∀ ρ sn h m,X.map (List.map (conv ρ sn h (m + 1))) = X) (i j : Nat) (sn : List Nat) (hsz : st'.sz = st.sz) (hh : st'.h = [(j,some ⟨1,X,0⟩)]) (hi : j < st'.n) (hs : ∀ j ∈ sn,j ≠ i) (h0 : st.hp i = some ⟨1,X,0⟩)
  (ht : ∀ p ∈ st'.t,Wk (conv [(i,j)] sn st.hp 4 (st.get p.1)) p.2) : Le 0 st st' :=
 Le.ren1 i j sn hsz hh hi hs h0 (by simp only [zaw,hflat]) (Nat.zero_le _) ht
set_option maxHeartbeats 8000000 in
set_option maxRecDepth 100000 in
theorem zlv (H B C : List Int) (hH : H.length = 8) (hB : B.length = 64) (hC : C.length = 64) : zao Tryz.prog zgf [wds H,bys B,wds C] [] (.rs 0 0 8) [some ⟨1,zaW .u32 (zj7 H B C),0⟩]:=by
 refine zn4.ac ?_
 show awp _ 0 _ _ ⟨256,[(0,wds H),(1,bys B),(2,wds C)],[],16⟩
 have hfl : ∀ (l : List Int) ρ sn h m,(zaW .u32 l).map (List.map (conv ρ sn h (m + 1))) = zaW .u32 l:=fun l=>ziZ .u32 l
 refine zad ⟨256,[(0,wds H),(1,bys B),(2,wds C)],[],24⟩ rfl (by simp; exact Le.snap [] rfl rfl (by simp)) ?_
 refine zad ⟨256,[(0,wds H),(1,bys B),(2,wds C),(7,.rs 24 0 64)],[(24,some ⟨1,zaW .u32 (w0F B 0),0⟩)],40⟩ rfl ?_ ?_
 ·simp
  exact Le.keep rfl (Nat.le_refl _) (by simp) (by simp [w0F])
 refine zac ?_
 refine zad ⟨256,[(0,wds H),(1,bys B),(2,wds C),(7,.rs 24 0 64),(8,.I (0 : Nat))],[(24,some ⟨1,zaW .u32 (w0F B 0),0⟩)],48⟩ rfl ?_ ?_
 ·simp
  exact Le.keep rfl (Nat.le_refl _) (by simp) (by simp)
 refine zai ?_
 refine zaI (ι:=Nat) (fun i=>⟨256,[(0,wds H),(1,bys B),(2,wds C),(7,.rs 24 0 64),(8,.I i)],[(24,some ⟨1,zaW .u32 (w0F B i),0⟩)],48⟩) (fun i=>i ≤ 16) (fun i=>16 - i) 0 (by omega) (Le.refl _ _) ?_
 intro i hi
 refine zac ?_
 refine zad ⟨256,[(0,wds H),(1,bys B),(2,wds C),(7,.rs 24 0 64),(8,.I i),(21,.B (decide (i < 16)))],[(24,some ⟨1,zaW .u32 (w0F B i),0⟩)],64⟩ rfl ?_ ?_
 ·simp
  exact Le.keep rfl (Nat.le_refl _) (by simp <;> omega) (by simp)
 refine zak _ rfl (fun h=>zal ?_) fun h=>zaD (hit ?_)
 ·simp only [decide_eq_true_eq] at h
  refine zbM (ι:=Unit) (fun _=>⟨256,[(0,wds H),(1,bys B),(2,wds C),(7,.rs 24 0 64),(8,.I i)],[(24,some ⟨1,zaW .u32 (w0F B (i + 1)),0⟩)],360⟩) (fun _=>True) ?_ fun _ _=>?_
  ·obtain ⟨p,hp⟩ : ∃ p,p = 4 * i:=⟨_,rfl⟩
   obtain ⟨p1,hp1⟩ : ∃ q,q = p + 1:=⟨_,rfl⟩
   obtain ⟨p2,hp2⟩ : ∃ q,q = p + 2:=⟨_,rfl⟩
   obtain ⟨p3,hp3⟩ : ∃ q,q = p + 3:=⟨_,rfl⟩
   have hw0 : IntKind.i64.wrap (4 * (i : Int)) = (p : Int):=by rw [w6]; omega
   have hw1 : IntKind.i64.wrap ((p : Int) + 1) = (p1 : Int):=by rw [w6]; omega
   have hw2 : IntKind.i64.wrap ((p : Int) + 2) = (p2 : Int):=by rw [w6]; omega
   have hw3 : IntKind.i64.wrap ((p : Int) + 3) = (p3 : Int):=by rw [w6]; omega
   obtain ⟨l0,g0⟩:=zoC hB (show p < 64 by omega)
   obtain ⟨l1,g1⟩:=zoC hB (show p1 < 64 by omega)
   obtain ⟨l2,g2⟩:=zoC hB (show p2 < 64 by omega)
   obtain ⟨l3,g3⟩:=zoC hB (show p3 < 64 by omega)
   have hs : zaW .u32 (w0F B (i + 1)) = (zaW .u32 (w0F B i)).set i [wd (zue (gt B p) (gt B p1) (gt B p2) (gt B p3))]:=by rw [w0F,zaW,List.map_set,hp1,hp2,hp3,hp]
   obtain ⟨z,hz⟩ : ∃ z,z = zue (gt B p) (gt B p1) (gt B p2) (gt B p3):=⟨_,rfl⟩
   rw [← hz] at hs
   rw [hs]
   have hg:=zey (k:=.u32) (zpq B i) (show i < 64 by omega)
   have hX:=hfl (w0F B i)
   generalize zaW .u32 (w0F B i) = X at *
   generalize gt (w0F B i) i = o at *
   have hXl : ∀ ρ sn h m,(X.set i [wd z]).map (List.map (conv ρ sn h (m + 1))) = X.set i [wd z]:=fun ρ sn h m=>by rw [List.map_set,hX]; simp
   generalize hc0 : gt B p = c0 at *
   generalize hc1 : gt B p1 = c1 at *
   generalize hc2 : gt B p2 = c2 at *
   generalize hc3 : gt B p3 = c3 at *
   refine zai ?_
   refine zdp rfl ?_
   simp [hw0,hw1,hw2,hw3,l0,l1,l2,l3,g0,g1,g2,g3,h,hg,show (i : Int) < 64 by omega,show i < 64 by omega,zbR]
   have hz2 : u2 .or (u2 .or (u2 .or (sh .shl (IntKind.u32.wrap c0) 24) (sh .shl (IntKind.u32.wrap c1) 16)) (sh .shl (IntKind.u32.wrap c2) 8)) (IntKind.u32.wrap c3) = z:=hz.symm
   simp only [hz2]
   exact ⟨rfl,Le.X1 hXl 24 24 [] rfl rfl (by simp) (by simp) rfl (by simp)⟩
  have hwi : IntKind.i64.wrap ((i : Int) + 1) = ((i + 1 : Nat) : Int):=by rw [w6]; omega
  refine zaV rfl ?_
  simp [hwi]
  exact ⟨i + 1,by omega,by omega,Le.K1 24 24 [] rfl rfl (by simp) (by simp) rfl (by simp)⟩
 simp only [decide_eq_false_iff_not] at h
 obtain rfl : i = 16:=by omega
 refine zac ?_
 refine zad ⟨256,[(0,wds H),(2,wds C),(7,.rs 24 0 64),(9,.I (0 + 16 : Nat))],[(24,some ⟨1,zaW .u32 (w1F B 0),0⟩)],72⟩ rfl ?_ ?_
 ·simp [w1F]
  exact Le.keep rfl (Nat.le_refl _) (by simp) (by simp)
 refine zai ?_
 refine zaI (ι:=Nat) (fun i=>⟨256,[(0,wds H),(2,wds C),(7,.rs 24 0 64),(9,.I (i + 16 : Nat))],[(24,some ⟨1,zaW .u32 (w1F B i),0⟩)],72⟩) (fun i=>i ≤ 48) (fun i=>48 - i) 0 (by omega) (Le.refl _ _) ?_
 intro i hi
 obtain ⟨m,hm⟩ : ∃ m,m = i + 16:=⟨_,rfl⟩
 rw [← hm]
 refine zac ?_
 refine zad ⟨256,[(0,wds H),(2,wds C),(7,.rs 24 0 64),(9,.I m),(61,.B (decide (i < 48)))],[(24,some ⟨1,zaW .u32 (w1F B i),0⟩)],88⟩ rfl ?_ ?_
 ·simp
  exact Le.keep rfl (Nat.le_refl _) (by simp; omega) (by simp)
 refine zak _ rfl (fun h=>zal ?_) fun h=>zaD (hit ?_)
 ·simp only [decide_eq_true_eq] at h
  refine zbM (ι:=Unit) (fun _=>⟨256,[(0,wds H),(2,wds C),(7,.rs 24 0 64),(9,.I m)],[(24,some ⟨1,zaW .u32 (w1F B (i + 1)),0⟩)],576⟩) (fun _=>True) ?_ fun _ _=>?_
  ·have hw15 : IntKind.i64.wrap ((m : Int) - 15) = ((i + 1 : Nat) : Int):=by rw [w6]; omega
   have hw2 : IntKind.i64.wrap ((m : Int) - 2) = ((i + 14 : Nat) : Int):=by rw [w6]; omega
   have hw16 : IntKind.i64.wrap ((m : Int) - 16) = ((i : Nat) : Int):=by rw [w6]; omega
   have hw7 : IntKind.i64.wrap ((m : Int) - 7) = ((i + 9 : Nat) : Int):=by rw [w6]; omega
   have hlen:=zng B i
   have g15:=zey (k:=.u32) hlen (show i + 1 < 64 by omega)
   have g2:=zey (k:=.u32) hlen (show i + 14 < 64 by omega)
   have g16:=zey (k:=.u32) hlen (show i < 64 by omega)
   have g7:=zey (k:=.u32) hlen (show i + 9 < 64 by omega)
   have gm:=zey (k:=.u32) hlen (show m < 64 by omega)
   have hs : zaW .u32 (w1F B (i + 1)) = (zaW .u32 (w1F B i)).set m [wd (u2 .add (u2 .add (u2 .add (gt (w1F B i) i) (s0F (gt (w1F B i) (i + 1)))) (gt (w1F B i) (i + 9))) (s1F (gt (w1F B i) (i + 14))))]:=by rw [w1F,zaW,List.map_set,hm]
   have hX:=hfl (w1F B i)
   generalize gt (w1F B i) (i + 1) = a15 at *
   generalize gt (w1F B i) (i + 14) = a2 at *
   generalize gt (w1F B i) i = a16 at *
   generalize gt (w1F B i) (i + 9) = a7 at *
   generalize gt (w1F B i) m = am at *
   generalize zaW .u32 (w1F B i) = X at *
   obtain ⟨q15,hq15⟩ : ∃ q,q = i + 1:=⟨_,rfl⟩
   obtain ⟨q2,hq2⟩ : ∃ q,q = i + 14:=⟨_,rfl⟩
   obtain ⟨q7,hq7⟩ : ∃ q,q = i + 9:=⟨_,rfl⟩
   rw [← hq15] at hw15 g15
   rw [← hq2] at hw2 g2
   rw [← hq7] at hw7 g7
   obtain ⟨b15,hb15⟩ : ∃ b,b = s0F a15:=⟨_,rfl⟩
   obtain ⟨b2,hb2⟩ : ∃ b,b = s1F a2:=⟨_,rfl⟩
   rw [← hb15,← hb2] at hs
   obtain ⟨z,hz⟩ : ∃ z,z = u2 .add (u2 .add (u2 .add a16 b15) a7) b2:=⟨_,rfl⟩
   rw [← hz] at hs
   rw [hs]
   have hXl : ∀ ρ sn h m',(X.set m [wd z]).map (List.map (conv ρ sn h (m' + 1))) = X.set m [wd z]:=fun ρ sn h m'=>by rw [List.map_set,hX]; simp
   refine zai ?_
   refine za7 ⟨256,[(0,wds H),(2,wds C),(7,.rs 24 0 64),(9,.I m),(10,wd b15)],[(24,some ⟨1,X,0⟩)],256⟩ rfl ?_ ?_
   ·simp [hw15,g15,show q15 < 64 by omega,show (q15 : Int) < 64 by omega]
    refine zaJ (zbz a15 7 (by decide) (by decide)) rfl ?_
    simp [hw15,g15,show q15 < 64 by omega,show (q15 : Int) < 64 by omega]
    refine zaJ (zbz a15 18 (by decide) (by decide)) rfl ?_
    simp [hw15,g15,show q15 < 64 by omega,show (q15 : Int) < 64 by omega]
    exact ⟨rfl,Le.keep rfl (Nat.le_refl _) (by simp [hb15,s0F]) (by simp)⟩
   refine za7 ⟨256,[(0,wds H),(2,wds C),(7,.rs 24 0 64),(9,.I m),(10,wd b15),(11,wd b2)],[(24,some ⟨1,X,0⟩)],424⟩ rfl ?_ ?_
   ·simp [hw2,g2,show q2 < 64 by omega,show (q2 : Int) < 64 by omega]
    refine zaJ (zbz a2 17 (by decide) (by decide)) rfl ?_
    simp [hw2,g2,show q2 < 64 by omega,show (q2 : Int) < 64 by omega]
    refine zaJ (zbz a2 19 (by decide) (by decide)) rfl ?_
    simp [hw2,g2,show q2 < 64 by omega,show (q2 : Int) < 64 by omega]
    exact ⟨rfl,Le.keep rfl (Nat.le_refl _) (by simp [hb2,s1F]) (by simp)⟩
   refine zdp rfl ?_
   simp [hw16,hw7,g16,g7,gm,show q7 < 64 by omega,show i < 64 by omega,show m < 64 by omega,show (q7 : Int) < 64 by omega,show (i : Int) < 64 by omega,show (m : Int) < 64 by omega,zbR,← hz]
   exact ⟨rfl,Le.X1 hXl 24 24 [] rfl rfl (by simp) (by simp) rfl (by simp)⟩
  have hwi : IntKind.i64.wrap ((m : Int) + 1) = ((i + 1 + 16 : Nat) : Int):=by rw [w6]; omega
  refine zaV rfl ?_
  simp [hwi]
  exact ⟨i + 1,by omega,by omega,Le.K1 24 24 [] rfl rfl (by simp) (by simp) rfl (by simp)⟩
 simp only [decide_eq_false_iff_not] at h
 obtain rfl : i = 48:=by omega
 obtain ⟨W,hW⟩ : ∃ W,W = w1F B 48:=⟨_,rfl⟩
 have hWl : W.length = 64:=by rw [hW]; exact zng B 48
 rw [← hW]
 refine zad ⟨256,[(0,wds H),(2,wds C),(7,wds W),(12,.rs 96 0 8)],[(96,some ⟨1,zaW .u32 (vF H B C 0),0⟩)],112⟩ rfl ?_ ?_
 ·simp [hH]
  have htk : List.take 64 (zaW .u32 W) = zaW .u32 W:=List.take_of_length_le (by rw [zfn]; omega)
  exact Le.ren1 96 96 [24] rfl rfl (by simp) (by simp) rfl (by simp [vF,fcd]) (by simp) (by simp [fcd,hWl]; rw [List.take_of_length_le (by simp; omega)]; exact .refl _)
 refine zac ?_
 refine zad ⟨256,[(0,wds H),(2,wds C),(7,wds W),(12,.rs 96 0 8),(13,.I (0 : Nat))],[(96,some ⟨1,zaW .u32 (vF H B C 0),0⟩)],120⟩ rfl ?_ ?_
 ·simp
  exact Le.keep rfl (Nat.le_refl _) (by simp) (by simp)
 refine zai ?_
 refine zaI (ι:=Nat) (fun i=>⟨256,[(0,wds H),(2,wds C),(7,wds W),(12,.rs 96 0 8),(13,.I i)],[(96,some ⟨1,zaW .u32 (vF H B C i),0⟩)],120⟩) (fun i=>i ≤ 64) (fun i=>64 - i) 0 (by omega) (Le.refl _ _) ?_
 intro i hi
 refine zac ?_
 refine zad ⟨256,[(0,wds H),(2,wds C),(7,wds W),(12,.rs 96 0 8),(13,.I i),(125,.B (decide (i < 64)))],[(96,some ⟨1,zaW .u32 (vF H B C i),0⟩)],136⟩ rfl ?_ ?_
 ·simp
  exact Le.keep rfl (Nat.le_refl _) (by simp <;> omega) (by simp)
 refine zak _ rfl (fun h=>zal ?_) fun h=>zaD (hit ?_)
 ·simp only [decide_eq_true_eq] at h
  refine zbM (ι:=Unit) (fun _=>⟨256,[(0,wds H),(2,wds C),(7,wds W),(12,.rs 96 0 8),(13,.I i)],[(96,some ⟨1,zaW .u32 (vF H B C (i + 1)),0⟩)],1088⟩) (fun _=>True) ?_ fun _ _=>?_
  ·have hvl:=zvF (B:=B) (C:=C) hH i
   have hs : vF H B C (i + 1) = [u2 .add (u2 .add (xF (vF H B C i) (gt C i) (gt W i)) (r3 (gt (vF H B C i) 0) 2 13 22)) (mF (vF H B C i)),gt (vF H B C i) 0,gt (vF H B C i) 1,gt (vF H B C i) 2,u2 .add (gt (vF H B C i) 3) (xF (vF H B C i) (gt C i) (gt W i)),gt (vF H B C i) 4,gt (vF H B C i) 5,gt (vF H B C i) 6]:=by rw [hW]; rfl
   rw [hs]
   generalize vF H B C i = v at *
   have g0:=zey (k:=.u32) hvl (show 0 < 8 by omega)
   have g1:=zey (k:=.u32) hvl (show 1 < 8 by omega)
   have g2:=zey (k:=.u32) hvl (show 2 < 8 by omega)
   have g3:=zey (k:=.u32) hvl (show 3 < 8 by omega)
   have g4:=zey (k:=.u32) hvl (show 4 < 8 by omega)
   have g5:=zey (k:=.u32) hvl (show 5 < 8 by omega)
   have g6:=zey (k:=.u32) hvl (show 6 < 8 by omega)
   have g7:=zey (k:=.u32) hvl (show 7 < 8 by omega)
   obtain ⟨lc,gc⟩:=zoC hC h
   obtain ⟨lw,gw⟩:=zoC hWl h
   have hxF : xF v (gt C i) (gt W i) = u2 .add (u2 .add (u2 .add (u2 .add (gt v 7) (r3 (gt v 4) 6 11 25)) (u2 .xor (u2 .and (gt v 4) (gt v 5)) (u2 .and (nt (gt v 4)) (gt v 6)))) (gt C i)) (gt W i):=rfl
   have hmF : mF v = u2 .xor (u2 .xor (u2 .and (gt v 0) (gt v 1)) (u2 .and (gt v 0) (gt v 2))) (u2 .and (gt v 1) (gt v 2)):=rfl
   have hX:=hfl v
   generalize gt C i = ck at *
   generalize gt W i = wk at *
   generalize zaW .u32 v = X at *
   generalize gt v 0 = v0 at *
   generalize gt v 1 = v1 at *
   generalize gt v 2 = v2 at *
   generalize gt v 3 = v3 at *
   generalize gt v 4 = v4 at *
   generalize gt v 5 = v5 at *
   generalize gt v 6 = v6 at *
   generalize gt v 7 = v7 at *
   obtain ⟨s,hsd⟩ : ∃ s,s = r3 v4 6 11 25:=⟨_,rfl⟩
   obtain ⟨c,hcd⟩ : ∃ c,c = u2 .xor (u2 .and v4 v5) (u2 .and (nt v4) v6):=⟨_,rfl⟩
   obtain ⟨x,hxd⟩ : ∃ x,x = xF v ck wk:=⟨_,rfl⟩
   obtain ⟨s',hsd'⟩ : ∃ s,s = r3 v0 2 13 22:=⟨_,rfl⟩
   obtain ⟨y,hyd⟩ : ∃ y,y = mF v:=⟨_,rfl⟩
   rw [← hsd,← hcd,← hxd] at hxF
   rw [← hyd] at hmF
   rw [← hxd,← hsd',← hyd]
   clear hxd hyd
   refine zai ?_
   refine za7 ⟨256,[(0,wds H),(2,wds C),(7,wds W),(12,.rs 96 0 8),(13,.I i),(14,wd s)],[(96,some ⟨1,X,0⟩)],256⟩ rfl ?_ ?_
   ·simp [g4]
    refine zaJ (zbz v4 6 (by decide) (by decide)) rfl ?_
    simp [g4]
    refine zaJ (zbz v4 11 (by decide) (by decide)) rfl ?_
    simp [g4]
    refine zaJ (zbz v4 25 (by decide) (by decide)) rfl ?_
    simp
    exact ⟨rfl,Le.keep rfl (Nat.le_refl _) (by simp [hsd,r3]) (by simp)⟩
   refine za7 ⟨256,[(0,wds H),(2,wds C),(7,wds W),(12,.rs 96 0 8),(13,.I i),(14,wd s),(15,wd c)],[(96,some ⟨1,X,0⟩)],392⟩ rfl ?_ ?_
   ·simp [g4,g5,g6]
    exact ⟨rfl,Le.keep rfl (Nat.le_refl _) (by simp [hcd]) (by simp)⟩
   refine za7 ⟨256,[(0,wds H),(2,wds C),(7,wds W),(12,.rs 96 0 8),(13,.I i),(16,wd x)],[(96,some ⟨1,X,0⟩)],536⟩ rfl ?_ ?_
   ·simp [g7,lc,gc,lw,gw]
    exact ⟨rfl,Le.keep rfl (Nat.le_refl _) (by simp [hxF]) (by simp)⟩
   refine za7 ⟨256,[(0,wds H),(2,wds C),(7,wds W),(12,.rs 96 0 8),(13,.I i),(16,wd x),(14,wd s')],[(96,some ⟨1,X,0⟩)],656⟩ rfl ?_ ?_
   ·simp [g0]
    refine zaJ (zbz v0 2 (by decide) (by decide)) rfl ?_
    simp [g0]
    refine zaJ (zbz v0 13 (by decide) (by decide)) rfl ?_
    simp [g0]
    refine zaJ (zbz v0 22 (by decide) (by decide)) rfl ?_
    simp
    exact ⟨rfl,Le.keep rfl (Nat.le_refl _) (by simp [hsd',r3]) (by simp)⟩
   refine za7 ⟨256,[(0,wds H),(2,wds C),(7,wds W),(12,.rs 96 0 8),(13,.I i),(16,wd x),(14,wd s'),(17,wd y)],[(96,some ⟨1,X,0⟩)],848⟩ rfl ?_ ?_
   ·simp [g0,g1,g2]
    exact ⟨rfl,Le.keep rfl (Nat.le_refl _) (by simp [hmF]) (by simp)⟩
   refine zdp rfl ?_
   simp [g0,g1,g2,g3,g4,g5,g6]
   exact ⟨rfl,Le.ren1 1072 96 [] rfl rfl (by simp) (by simp) rfl (by simp) (by simp) (by simp)⟩
  have hwi : IntKind.i64.wrap ((i : Int) + 1) = ((i + 1 : Nat) : Int):=by rw [w6]; omega
  refine zaV rfl ?_
  simp [hwi]
  exact ⟨i + 1,by omega,by omega,Le.K1 96 96 [] rfl rfl (by simp) (by simp) rfl (by simp)⟩
 simp only [decide_eq_false_iff_not] at h
 obtain rfl : i = 64:=by omega
 refine zac ?_
 refine zad ⟨256,[(0,wds H),(12,.rs 96 0 8),(18,.I (0 : Nat))],[(96,some ⟨1,zaW .u32 (oF H B C 0),0⟩)],144⟩ rfl ?_ ?_
 ·simp
  exact Le.keep rfl (Nat.le_refl _) (by simp) (by simp [oF])
 refine zai ?_
 refine zaI (ι:=Nat) (fun i=>⟨256,[(0,wds H),(12,.rs 96 0 8),(18,.I i)],[(96,some ⟨1,zaW .u32 (oF H B C i),0⟩)],144⟩) (fun i=>i ≤ 8) (fun i=>8 - i) 0 (by omega) (Le.refl _ _) ?_
 intro i hi
 refine zac ?_
 refine zad ⟨256,[(0,wds H),(12,.rs 96 0 8),(18,.I i),(242,.B (decide (i < 8)))],[(96,some ⟨1,zaW .u32 (oF H B C i),0⟩)],160⟩ rfl ?_ ?_
 ·simp
  exact Le.keep rfl (Nat.le_refl _) (by simp <;> omega) (by simp)
 refine zak _ rfl (fun h=>zal ?_) fun h=>zaD (hit ?_)
 ·simp only [decide_eq_true_eq] at h
  refine zbM (ι:=Unit) (fun _=>⟨256,[(0,wds H),(12,.rs 96 0 8),(18,.I i)],[(96,some ⟨1,zaW .u32 (oF H B C (i + 1)),0⟩)],248⟩) (fun _=>True) ?_ fun _ _=>?_
  ·have hol:=zrC (B:=B) (C:=C) hH i
   have hg:=zey (k:=.u32) hol h
   obtain ⟨lh,gh⟩:=zoC hH h
   obtain ⟨z,hz⟩ : ∃ z,z = u2 .add (gt (oF H B C i) i) (gt H i):=⟨_,rfl⟩
   have hs : zaW .u32 (oF H B C (i + 1)) = (zaW .u32 (oF H B C i)).set i [wd z]:=by rw [oF,zaW,List.map_set,hz]
   rw [hs]
   have hX:=hfl (oF H B C i)
   generalize gt (oF H B C i) i = a at *
   generalize gt H i = b at *
   generalize zaW .u32 (oF H B C i) = X at *
   have hXl : ∀ ρ sn h m,(X.set i [wd z]).map (List.map (conv ρ sn h (m + 1))) = X.set i [wd z]:=fun ρ sn h m=>by rw [List.map_set,hX]; simp
   refine zai ?_
   refine zdp rfl ?_
   simp [hg,lh,gh,h,show (i : Int) < 8 by omega,zbR,← hz]
   exact ⟨rfl,Le.X1 hXl 96 96 [] rfl rfl (by simp) (by simp) rfl (by simp)⟩
  have hwi : IntKind.i64.wrap ((i : Int) + 1) = ((i + 1 : Nat) : Int):=by rw [w6]; omega
  refine zaV rfl ?_
  simp [hwi]
  exact ⟨i + 1,by omega,by omega,Le.K1 96 96 [] rfl rfl (by simp) (by simp) rfl (by simp)⟩
 simp only [decide_eq_false_iff_not] at h
 obtain rfl : i = 8:=by omega
 refine zac ?_
 refine zau ?_
 refine zan ?_
 exact ⟨.inr rfl,zat.out [96] [] rfl (by simp) (by simp) (by simp) (by simp [zj7,fcd])⟩
section
variable {P : Program} {np id : Nat} {h : Nat → Option Ent} {K : AV → List Nat → List (Nat × Option Ent) → Prop} {s s' : Nat} {f : Bool} {rows : List (List AV)} {k l : Nat}
@[simp] theorem zBb : aK P np id (.slc s true true false) [.vs s' f rows,.sc (.int .i64 (l : Int)),.sc (.int .i64 (k : Int))] h K = (l ≤ k ∧ k ≤ rows.length ∧ s' = s ∧ K (.vs s false ((rows.drop l).take (k - l))) [] []):=by
 rw [zjR]
 refine propext ⟨?_,?_⟩
 ·rintro ⟨l',r,m,n,h1,h2,h4,h5,h6,h7,h3,h10,h8,h9⟩
  simp at h4 h1
  subst h1
  obtain ⟨rfl,rfl⟩ : l = l' ∧ k = r:=by omega
  exact ⟨h2,h3,h8,by simpa using h9⟩
 ·rintro ⟨h1,h2,h3,h4⟩
  exact ⟨l,k,0,rows.length,rfl,h1,by simp,(fun h=>by cases h),(fun h=>by cases h),(fun h=>by cases h),h2,(fun h=>by cases h),h3,by simpa using h4⟩
end
theorem znx (l : List Int) : zci (zaW .u8 l) = some (l.map fun n=>UInt8.ofNat n.toNat):=by
 induction l with
 | nil=>rfl
 | cons x l ih =>
   show (zci (zaW .u8 l)).map _ = _
   rw [ih]
   rfl
def h0W : List Int:=[1779033703,3144134277,1013904242,2773480762,1359893119,2600822924,528734635,1541459225]
def znz (L : Nat) : Nat:=(120 - (L + 1) % 64) % 64
def zwA (L : Nat) : Int:=IntKind.u64.wrap (IntKind.u64.wrap (L : Int) * 8)
def padY (b : List Int) : List Int:=b ++ [128] ++ List.replicate (znz b.length) 0 ++ intY (zwA b.length)
def hF (M : List Int) : Nat → List Int
 | 0=>h0W
 | i + 1=>zj7 (hF M i) ((M.drop (64 * i)).take 64) conK
def four (x : Int) : List Int:=[IntKind.u8.wrap (sh .shr x 24),IntKind.u8.wrap (sh .shr x 16),IntKind.u8.wrap (sh .shr x 8),IntKind.u8.wrap x]
def zfu (h : List Int) : Nat → List Int
 | 0=>[]
 | i + 1=>zfu h i ++ four (gt h i)
def sumB (b : List Int) : ByteArray:=⟨((zfu (hF (padY b) ((padY b).length / 64)) 8).map fun n=>UInt8.ofNat n.toNat).toArray⟩
theorem zj6 (h : List Int) : ∀ i,(zfu h i).length = 4 * i
 | 0=>rfl
 | i + 1=>by rw [zfu,List.length_append,zj6 h i]; simp [four]; omega
theorem zrg {H B C : List Int} (hH : H.length = 8) : (zj7 H B C).length = 8:=zrC hH 8
theorem zqj (M : List Int) : ∀ i,(hF M i).length = 8
 | 0=>rfl
 | i + 1=>zrg (zqj M i)
theorem zu2 (b : List Int) : (padY b).length = b.length + 1 + znz b.length + 8:=by simp [padY,ztZ]; omega
theorem zup (b : List Int) : (padY b).length % 64 = 0:=by rw [zu2]; unfold znz; omega
set_option maxHeartbeats 8000000 in
set_option maxRecDepth 100000 in
theorem zbD (b : List Int) (hl : b.length ≤ 1073741824) : zao Tryz.prog zbu [bys b] [] (.sc (.string (sumB b))) []:=by
 refine zqQ.ac ?_
 show awp _ 0 _ _ ⟨87,[(0,bys b)],[],16⟩
 obtain ⟨L,hL⟩ : ∃ L,L = b.length:=⟨_,rfl⟩
 obtain ⟨Z,hZ⟩ : ∃ Z,Z = znz L:=⟨_,rfl⟩
 have hZ2 : Z = (120 - (L + 1) % 64) % 64:=hZ
 have hfl : ∀ (k : IntKind) (l : List Int) ρ sn h m,(zaW k l).map (List.map (conv ρ sn h (m + 1))) = zaW k l:=ziZ
 refine zad ⟨87,[(0,bys b)],[],24⟩ rfl (by simp; exact Le.snap [] rfl rfl (by simp)) ?_
 refine zad ⟨87,[(0,bys b),(3,.rs 24 0 8)],[(24,some ⟨1,zaW .u32 h0W,0⟩)],40⟩ rfl ?_ ?_
 ·simp
  exact Le.keep rfl (Nat.le_refl _) (by simp) (by simp [h0W])
 let m : Nat → List Int:=fun z=>b ++ [128] ++ List.replicate z 0
 have hml : ∀ z,(m z).length = L + 1 + z:=fun z=>by simp [m,hL]; omega
 have hms : ∀ z,m (z + 1) = m z ++ [0]:=fun z=>by simp [m,List.replicate_succ']
 have hmZ : b ++ [128] ++ List.replicate (znz b.length) 0 = m Z:=by rw [hZ,hL]
 refine zad ⟨87,[(0,bys b),(3,.rs 24 0 8),(4,.rs 64 0 (L + 1 + 0))],[(24,some ⟨1,zaW .u32 h0W,0⟩),(64,some ⟨1,zaW .u8 (m 0),0⟩)],80⟩ rfl ?_ ?_
 ·simp [← hL]
  repeat' apply And.intro
  all_goals first | omega | exact Le.keep rfl (Nat.le_refl _) (by simp) (by simp [m,hL,zaU])
 clear_value m
 refine zac ?_
 refine zai ?_
 refine zaI (ι:=Nat) (fun z=>⟨87,[(0,bys b),(3,.rs 24 0 8),(4,.rs 64 0 (L + 1 + z))],[(24,some ⟨1,zaW .u32 h0W,0⟩),(64,some ⟨1,zaW .u8 (m z),0⟩)],80⟩) (fun z=>z ≤ Z) (fun z=>Z - z) 0 (by omega) (Le.refl _ _) ?_
 intro z hz
 obtain ⟨N,hN⟩ : ∃ N,N = L + 1 + z:=⟨_,rfl⟩
 have hrem : Int.tmod (N : Int) 64 = ((N % 64 : Nat) : Int):=rfl
 have hml1:=hml z
 rw [← hN] at hml1
 rw [← hN]
 refine zac ?_
 refine zad ⟨87,[(0,bys b),(3,.rs 24 0 8),(4,.rs 64 0 N),(19,.B (decide (z < Z)))],[(24,some ⟨1,zaW .u32 h0W,0⟩),(64,some ⟨1,zaW .u8 (m z),0⟩)],112⟩ rfl ?_ ?_
 ·simp [hrem,-Int.natCast_emod]
  exact Le.keep rfl (Nat.le_refl _) (by simp [-Int.natCast_emod]; rw [Bool.eq_iff_iff]; simp [-Int.natCast_emod]; omega) (by simp)
 refine zak _ rfl (fun h=>zal ?_) fun h=>zaD (hit ?_)
 ·simp only [decide_eq_true_eq] at h
  have hNb : N ≤ 1073741900:=by omega
  have hs:=hms z
  have hX:=hfl .u8 (m (z + 1))
  have hXe : zaW .u8 (m (z + 1)) = zaW .u8 (m z) ++ [[.sc (.int .u8 0)]]:=by rw [hs,zaW,List.map_append]; rfl
  have hrl : (zaW .u8 (m z)).length = N:=by rw [zfn,hml1]
  refine zai ?_
  refine zaV rfl ?_
  simp [hml1]
  refine ⟨by omega,z + 1,by omega,by omega,?_⟩
  refine Le.ents [(24,24),(128,64)] [] rfl (by simp) (by simp) (by simp) (by simp) (by simp) (by simp; exact wkE (by simp; omega)) fun p hp=>?_
  simp only [List.mem_cons,List.not_mem_nil,or_false] at hp
  rcases hp with rfl | rfl
  ·exact ⟨24,_,_,rfl,by simp,rfl,zba.eq (by simp only [zaw,hfl]) (by simp)⟩
  ·exact ⟨128,_,_,rfl,by simp,rfl,zba.eq (by
    show zaw _ _ _ _ ⟨1,List.take N (zaW .u8 (m z)) ++ [[.sc (.int .u8 0)]],0⟩ = _
    rw [List.take_of_length_le (by omega),← hXe]
    simp only [zaw,hfl]) (by simp)⟩
 simp only [decide_eq_false_iff_not] at h
 obtain rfl : z = Z:=by omega
 obtain ⟨M0,hM0⟩ : ∃ M0,M0 = m z:=⟨_,rfl⟩
 rw [← hM0] at hml1 hmZ ⊢
 obtain ⟨bt,hbt⟩ : ∃ bt,bt = zwA L:=⟨_,rfl⟩
 refine zad ⟨87,[(3,.rs 24 0 8),(4,.rs 64 0 N),(5,.sc (.int .u64 bt))],[(24,some ⟨1,zaW .u32 h0W,0⟩),(64,some ⟨1,zaW .u8 M0,0⟩)],152⟩ rfl ?_ ?_
 ·simp [← hL]
  exact Le.keep rfl (Nat.le_refl _) (by simp [hbt,zwA]) (by simp)
 let q : Nat → List Int:=fun j=>M0 ++ zn1 bt j
 have hql : ∀ j,(q j).length = N + j:=fun j=>by simp only [q]; rw [List.length_append,znH,hml1]
 have hqs : ∀ j,q (j + 1) = q j ++ [zrK bt (7 - j)]:=fun j=>by simp only [q]; rw [zqI,List.append_assoc]
 have hq0 : q 0 = M0:=by simp [q,zn1]
 have hq8 : q 8 = padY b:=by
  simp only [q]
  rw [padY,hmZ,hbt,hL]
  rfl
 refine zac ?_
 refine zad ⟨87,[(3,.rs 24 0 8),(4,.rs 64 0 (N + 0)),(5,.sc (.int .u64 bt)),(6,.I (7 - (0 : Nat)))],[(24,some ⟨1,zaW .u32 h0W,0⟩),(64,some ⟨1,zaW .u8 (q 0),0⟩)],160⟩ rfl ?_ ?_
 ·simp [hq0]
  exact Le.keep rfl (Nat.le_refl _) (by simp) (by simp)
 clear_value q
 refine zai ?_
 refine zaI (ι:=Nat) (fun j=>⟨87,[(3,.rs 24 0 8),(4,.rs 64 0 (N + j)),(5,.sc (.int .u64 bt)),(6,.I (7 - (j : Int)))],[(24,some ⟨1,zaW .u32 h0W,0⟩),(64,some ⟨1,zaW .u8 (q j),0⟩)],160⟩) (fun j=>j ≤ 8) (fun j=>8 - j) 0 (by omega) (Le.refl _ _) ?_
 intro j hj
 refine zac ?_
 refine zad ⟨87,[(3,.rs 24 0 8),(4,.rs 64 0 (N + j)),(5,.sc (.int .u64 bt)),(6,.I (7 - (j : Int))),(28,.B (decide (j < 8)))],[(24,some ⟨1,zaW .u32 h0W,0⟩),(64,some ⟨1,zaW .u8 (q j),0⟩)],176⟩ rfl ?_ ?_
 ·simp
  exact Le.keep rfl (Nat.le_refl _) (by simp; omega) (by simp)
 refine zak _ rfl (fun h=>zal ?_) fun h=>zaD (hit ?_)
 ·simp only [decide_eq_true_eq] at h
  refine zbM (ι:=Unit) (fun _=>⟨87,[(3,.rs 24 0 8),(4,.rs 64 0 (N + (j + 1))),(5,.sc (.int .u64 bt)),(6,.I (7 - (j : Int)))],[(24,some ⟨1,zaW .u32 h0W,0⟩),(64,some ⟨1,zaW .u8 (q (j + 1)),0⟩)],256⟩) (fun _=>True) ?_ fun _ _=>?_
  ·have hs:=hqs j
   have hl1:=hql j
   rw [hs]
   generalize q j = Y at *
   obtain ⟨k,hk⟩ : ∃ k : Nat,7 - (j : Int) = k:=⟨7 - j,by omega⟩
   have hk2 : 7 - j = k:=by omega
   have hw1 : IntKind.i64.wrap (8 * (k : Int)) = ((8 * k : Nat) : Int):=by rw [w6]; omega
   have hw2 : IntKind.u64.wrap ((8 * k : Nat) : Int) = ((8 * k : Nat) : Int):=by rw [IntKind.wrap_u64]; omega
   have hb : zrK bt k = IntKind.u8.wrap (bt.fdiv (2 ^ (min (8 * k) 64))):=rfl
   rw [hk,hk2]
   generalize zrK bt k = y at hb ⊢
   obtain ⟨s,hse⟩ : ∃ s,s = 8 * k:=⟨_,rfl⟩
   rw [← hse] at hw1 hw2 hb
   refine zai ?_
   refine zaV rfl ?_
   simp [hw1,hw2,IntKind.bits,← hb,hl1]
   have htk : List.take (N + j) (zaW .u8 Y) = zaW .u8 Y:=List.take_of_length_le (by rw [zfn]; omega)
   refine ⟨by omega,?_⟩
   refine Le.ents [(24,24),(240,64)] [] rfl (by simp) (by simp) (by simp) (by simp) (by simp) (by simp; exact wkE (by simp; omega)) fun p hp=>?_
   simp only [List.mem_cons,List.not_mem_nil,or_false] at hp
   rcases hp with rfl | rfl
   ·exact ⟨24,_,_,rfl,by simp,rfl,zba.eq (by simp only [zaw,hfl]) (by simp)⟩
   ·exact ⟨240,_,_,rfl,by simp,rfl,zba.eq (by
     show zaw _ _ _ _ ⟨1,List.take (N + j) (zaW .u8 Y) ++ [[.sc (.int .u8 y)]],0⟩ = _
     rw [htk]
     simp [zaw,fcd]) (by simp)⟩
  have hwj : IntKind.i64.wrap (7 - (j : Int) - 1) = 7 - ((j + 1 : Nat) : Int):=by rw [w6]; omega
  refine zaV rfl ?_
  simp [hwj]
  refine ⟨j + 1,by omega,by omega,?_⟩
  refine Le.ents [(24,24),(64,64)] [] rfl (by simp) (by simp) (by simp) (by simp) (by simp) (by simp) fun p hp=>?_
  simp only [List.mem_cons,List.not_mem_nil,or_false] at hp
  rcases hp with rfl | rfl
  ·exact ⟨24,_,_,rfl,by simp,rfl,zba.eq (by simp only [zaw,hfl]) (by simp)⟩
  ·exact ⟨64,_,_,rfl,by simp,rfl,zba.eq (by simp only [zaw,hfl]) (by simp)⟩
 simp only [decide_eq_false_iff_not] at h
 obtain rfl : j = 8:=by omega
 obtain ⟨M,hM⟩ : ∃ M,M = padY b:=⟨_,rfl⟩
 have hMl : M.length = N + 8:=by rw [hM,← hq8]; exact hql 8
 have hM64 : M.length % 64 = 0:=by rw [hM]; exact zup b
 obtain ⟨nb,hnb⟩ : ∃ nb,nb = M.length / 64:=⟨_,rfl⟩
 have hsum : sumB b = ⟨((zfu (hF M nb) 8).map fun n=>UInt8.ofNat n.toNat).toArray⟩:=by rw [hnb,hM]; rfl
 rw [hq8,← hM,← hMl,hsum]
 refine zad ⟨87,[(3,wds (hF M 0)),(4,bys M),(7,wds conK)],[],192⟩ rfl ?_ ?_
 ·simp
  refine zcD zvZ rfl ?_
  simp [fcd]
  exact Le.snap [24,64,176] rfl rfl (by simp [fcd,hF,h0W,zaU,zqB,List.take_of_length_le] <;> exact .refl _)
 refine zac ?_
 refine zad ⟨87,[(3,wds (hF M 0)),(4,bys M),(7,wds conK),(8,.I (64 * 0 : Nat))],[],200⟩ rfl (by simp; exact Le.snap [] rfl rfl (by simp)) ?_
 refine zai ?_
 refine zaI (ι:=Nat) (fun i=>⟨87,[(3,wds (hF M i)),(4,bys M),(7,wds conK),(8,.I (64 * i : Nat))],[],200⟩) (fun i=>i ≤ nb) (fun i=>nb - i) 0 (by omega) (Le.refl _ _) ?_
 intro i hi
 obtain ⟨c,hc⟩ : ∃ c,c = 64 * i:=⟨_,rfl⟩
 rw [← hc]
 refine zac ?_
 refine zad ⟨87,[(3,wds (hF M i)),(4,bys M),(7,wds conK),(8,.I c),(44,.B (decide (i < nb)))],[],232⟩ rfl ?_ ?_
 ·simp
  exact Le.snap [] rfl rfl (by simp <;> exact wkB (by rw [Bool.eq_iff_iff]; simp; omega))
 refine zak _ rfl (fun h=>zal ?_) fun h=>zaD (hit ?_)
 ·simp only [decide_eq_true_eq] at h
  have hbl:=zlv (hF M i) ((M.drop c).take 64) conK (zqj M i) (by simp; omega) zqB
  have hhs : hF M (i + 1) = zj7 (hF M i) ((M.drop c).take 64) conK:=by rw [hF,hc]
  rw [← hhs] at hbl
  have hhl:=zqj M (i + 1)
  obtain ⟨c2,hc2⟩ : ∃ c2,c2 = c + 64:=⟨_,rfl⟩
  have hwc : IntKind.i64.wrap ((c : Int) + 64) = (c2 : Int):=by rw [w6]; omega
  have hc2c : c2 - c = 64:=by omega
  have hwc2 : IntKind.i64.wrap ((c : Int) + 64) = ((64 * (i + 1) : Nat) : Int):=by rw [w6]; omega
  refine zbM (ι:=Unit) (fun _=>⟨87,[(3,wds (hF M (i + 1))),(4,bys M),(7,wds conK),(8,.I c)],[],304⟩) (fun _=>True) ?_ fun _ _=>?_
  ·refine zai ?_
   refine zaV rfl ?_
   simp [hwc,hc2c]
   refine ⟨by omega,by omega,?_⟩
   refine zcD hbl (by simp [List.map_drop,List.map_take]) ?_
   simp [fcd]
   exact Le.snap [288] rfl rfl (by simp [fcd,hhl]; exact wkE (congrArg _ (List.take_of_length_le (by simp; omega))))
  refine zaV rfl ?_
  simp [hwc2]
  exact ⟨i + 1,by omega,by omega,Le.snap [] rfl rfl (by simp)⟩
 simp only [decide_eq_false_iff_not] at h
 obtain rfl : i = nb:=by omega
 obtain ⟨H,hH⟩ : ∃ H,H = hF M i:=⟨_,rfl⟩
 have hHl : H.length = 8:=by rw [hH]; exact zqj M i
 rw [← hH]
 refine zad ⟨87,[(3,wds H),(9,.sc (.slice none 0 0))],[],240⟩ rfl (by simp; exact Le.snap [] rfl rfl (by simp)) ?_
 refine zac ?_
 refine zad ⟨87,[(3,wds H),(9,.sc (.slice none 0 0)),(10,.I (0 : Nat))],[],248⟩ rfl (by simp; exact Le.snap [] rfl rfl (by simp)) ?_
 refine zai ?_
 refine zaI (ι:=Nat) (fun i=>⟨87,[(3,wds H),(9,.rs 16 0 (4 * i)),(10,.I i)],[(16,some ⟨1,zaW .u8 (zfu H i),0⟩)],248⟩) (fun i=>i ≤ 8) (fun i=>8 - i) 0 (by omega) (Le.lst [] [] [(16,1)] rfl (by simp) (by simp) (by simp) (by simp) (by simp) (by simp) (by simp) (by simp [Up,zfu]) (by simp [zfu])) ?_
 intro i hi
 refine zac ?_
 refine zad ⟨87,[(3,wds H),(9,.rs 16 0 (4 * i)),(10,.I i),(56,.B (decide (i < 8)))],[(16,some ⟨1,zaW .u8 (zfu H i),0⟩)],264⟩ rfl ?_ ?_
 ·simp
  exact Le.keep rfl (Nat.le_refl _) (by simp <;> omega) (by simp)
 refine zak _ rfl (fun h=>zal ?_) fun h=>zaD (hit ?_)
 ·simp only [decide_eq_true_eq] at h
  refine zbM (ι:=Unit) (fun _=>⟨87,[(3,wds H),(9,.rs 16 0 (4 * (i + 1))),(10,.I i)],[(16,some ⟨1,zaW .u8 (zfu H (i + 1)),0⟩)],480⟩) (fun _=>True) ?_ fun _ _=>?_
  ·obtain ⟨lh,gh⟩:=zoC hHl h
   have hol:=zj6 H i
   have hs : zfu H (i + 1) = zfu H i ++ four (gt H i):=rfl
   rw [hs]
   generalize gt H i = x at *
   generalize zfu H i = Y at *
   have htk : List.take (4 * i) (zaW .u8 Y) = zaW .u8 Y:=List.take_of_length_le (by rw [zfn]; omega)
   obtain ⟨c,hc⟩ : ∃ c,c = 4 * i:=⟨_,rfl⟩
   rw [← hc] at hol htk ⊢
   refine zai ?_
   refine zdp rfl ?_
   simp [lh,gh,hol]
   refine ⟨by omega,rfl,?_⟩
   exact Le.ren1 464 16 [] rfl rfl (by simp) (by simp) rfl (by simp only [zaw]; simp [htk,fcd,four]) (by simp) (by simp; exact wkE (by simp; omega))
  have hwi : IntKind.i64.wrap ((i : Int) + 1) = ((i + 1 : Nat) : Int):=by rw [w6]; omega
  refine zaV rfl ?_
  simp [hwi]
  exact ⟨i + 1,by omega,by omega,Le.K1 16 16 [] rfl rfl (by simp) (by simp) rfl (by simp)⟩
 simp only [decide_eq_false_iff_not] at h
 obtain rfl : i = 8:=by omega
 have hol:=zj6 H 8
 have hby:=znx (zfu H 8)
 refine zad ⟨87,[(2,.sc (.string ⟨((zfu H 8).map fun n=>UInt8.ofNat n.toNat).toArray⟩))],[],288⟩ rfl ?_ ?_
 ·have htk : List.take 32 (zaW .u8 (zfu H 8)) = zaW .u8 (zfu H 8):=List.take_of_length_le (by rw [zfn]; omega)
  generalize zfu H 8 = Y at *
  generalize hR : zaW .u8 Y = R at *
  have hRl : R.length = 32:=by rw [← hR,zfn,hol]
  simp [hRl,htk,hby]
  exact Le.snap [] rfl rfl (by simp)
 refine zan ?_
 exact ⟨.inr rfl,zat.out [] [] rfl (by simp) (by simp) (by simp) (by simp)⟩
noncomputable def fcZ {γ : Type} (x : Int) (k : Int → γ) : γ :=
 Int.rec (motive:=fun _=>γ) (fun n=>Nat.rec (motive:=fun _=>γ) (k (Int.ofNat 0)) (fun m _=>k (Int.ofNat (m + 1))) n) (fun n=>k (Int.negSucc n)) x
theorem znv {γ : Type} (x : Int) (k : Int → γ) : fcZ x k = k x:=by
 cases x with
 | ofNat n=>cases n <;> rfl
 | negSucc n=>rfl
def zqR (v : List Int) (k w : Int) : List Int :=
 [u2 .add (u2 .add (xF v k w) (r3 (gt v 0) 2 13 22)) (mF v),gt v 0,gt v 1,gt v 2,u2 .add (gt v 3) (xF v k w),gt v 4,gt v 5,gt v 6]
theorem zrS (H B : List Int) : ∀ i,vF H B conK i = (List.range i).foldl (fun v j=>zqR v (gt conK j) (gt (w1F B 48) j)) H
 | 0=>rfl
 | i + 1=>by rw [List.range_succ,List.foldl_append,← zrS H B i]; rfl
noncomputable def vS {γ : Type} (l : List (Int × Int)) (k : Int → Int → Int → Int → Int → Int → Int → Int → γ) : Int → Int → Int → Int → Int → Int → Int → Int → γ :=
 List.rec (motive:=fun _=>Int → Int → Int → Int → Int → Int → Int → Int → γ) k (fun p _ ih a b c d e f g h =>
  fcZ (u2 .add (u2 .add (u2 .add (u2 .add h (r3 e 6 11 25)) (u2 .xor (u2 .and e f) (u2 .and (nt e) g))) p.1) p.2) fun x =>
  fcZ (u2 .add (u2 .add x (r3 a 2 13 22)) (u2 .xor (u2 .xor (u2 .and a b) (u2 .and a c)) (u2 .and b c))) fun y =>
  fcZ (u2 .add d x) fun z=>ih y a b c z e f g) l
theorem zv2 {γ : Type} (k : Int → Int → Int → Int → Int → Int → Int → Int → γ) (p : Int × Int) (l : List (Int × Int)) (a b c d e f g h : Int) :
  vS (p :: l) k a b c d e f g h = vS l k (u2 .add (u2 .add (u2 .add (u2 .add (u2 .add (u2 .add h (r3 e 6 11 25)) (u2 .xor (u2 .and e f) (u2 .and (nt e) g))) p.1) p.2) (r3 a 2 13 22)) (u2 .xor (u2 .xor (u2 .and a b) (u2 .and a c)) (u2 .and b c))) a b c
   (u2 .add d (u2 .add (u2 .add (u2 .add (u2 .add h (r3 e 6 11 25)) (u2 .xor (u2 .and e f) (u2 .and (nt e) g))) p.1) p.2)) e f g:=by
 have h0 : vS (p :: l) k a b c d e f g h = fcZ (u2 .add (u2 .add (u2 .add (u2 .add h (r3 e 6 11 25)) (u2 .xor (u2 .and e f) (u2 .and (nt e) g))) p.1) p.2) fun x =>
  fcZ (u2 .add (u2 .add x (r3 a 2 13 22)) (u2 .xor (u2 .xor (u2 .and a b) (u2 .and a c)) (u2 .and b c))) fun y =>
  fcZ (u2 .add d x) fun z=>vS l k y a b c z e f g:=rfl
 rw [h0,znv,znv,znv]
theorem zw6 {γ : Type} (k : Int → Int → Int → Int → Int → Int → Int → Int → γ) : ∀ (l : List (Int × Int)) (a b c d e f g h : Int),
  ∃ a' b' c' d' e' f' g' h',l.foldl (fun v p=>zqR v p.1 p.2) [a,b,c,d,e,f,g,h] = [a',b',c',d',e',f',g',h'] ∧ vS l k a b c d e f g h = k a' b' c' d' e' f' g' h'
 | [],a,b,c,d,e,f,g,h=>⟨a,b,c,d,e,f,g,h,rfl,rfl⟩
 | p :: l,a,b,c,d,e,f,g,h=>by
   obtain ⟨a',b',c',d',e',f',g',h',h1,h2⟩:=zw6 k l (gt (zqR [a,b,c,d,e,f,g,h] p.1 p.2) 0) a b c (gt (zqR [a,b,c,d,e,f,g,h] p.1 p.2) 4) e f g
   refine ⟨a',b',c',d',e',f',g',h',h1,?_⟩
   rw [← h2,zv2]
   rfl
def wrd (B : List Int) (i : Nat) : Int:=zue (gt B (4 * i)) (gt B (4 * i + 1)) (gt B (4 * i + 2)) (gt B (4 * i + 3))
def nxW (r : List Int) : Int:=u2 .add (u2 .add (u2 .add (gt r 15) (s0F (gt r 14))) (gt r 6)) (s1F (gt r 1))
def itW : Nat → List Int → List Int
 | 0,r=>r
 | n + 1,r=>nxW (itW n r) :: itW n r
theorem zvc : ∀ (n : Nat) (r : List Int),itW n (nxW r :: r) = itW (n + 1) r
 | 0,_=>rfl
 | n + 1,r=>by
   show nxW (itW n (nxW r :: r)) :: itW n (nxW r :: r) = _
   rw [zvc n r]
   rfl
noncomputable def schS {γ : Type} (n : Nat) : List Int → (List Int → γ) → γ :=
 Nat.rec (motive:=fun _=>List Int → (List Int → γ) → γ) (fun r k=>k r) (fun _ ih r k=>fcZ (nxW r) fun x=>ih (x :: r) k) n
theorem zrZ {γ : Type} : ∀ (n : Nat) (r : List Int) (k : List Int → γ),schS n r k = k (itW n r)
 | 0,_,_=>rfl
 | n + 1,r,k=>by
   have h0 : schS (n + 1) r k = fcZ (nxW r) fun x=>schS n (x :: r) k:=rfl
   rw [h0,znv,zrZ n,zvc]
noncomputable def wdS {γ : Type} (B : List Int) (n : Nat) : List Int → (List Int → γ) → γ :=
 Nat.rec (motive:=fun _=>List Int → (List Int → γ) → γ) (fun r k=>k r) (fun i ih r k=>ih r fun r'=>fcZ (wrd B i) fun x=>k (x :: r')) n
theorem zvy {γ : Type} (B : List Int) : ∀ (n : Nat) (k : List Int → γ),wdS B n [] k = k ((List.range n).map (wrd B)).reverse
 | 0,_=>rfl
 | n + 1,k=>by
   have h0 : wdS B (n + 1) [] k = wdS B n [] fun r'=>fcZ (wrd B n) fun x=>k (x :: r'):=rfl
   rw [h0,zvy B n,znv,List.range_succ,List.map_append,List.reverse_append]
   rfl
theorem zvG (B : List Int) : ∀ i,i ≤ 64 → w0F B i = (List.range i).map (wrd B) ++ List.replicate (64 - i) 0
 | 0,_=>rfl
 | i + 1,h=>by
   rw [w0F,zvG B i (by omega),List.range_succ,List.map_append]
   have e : 64 - i = (64 - (i + 1)) + 1:=by omega
   rw [e,List.replicate_succ,List.set_append_right _ _ (by simp),List.length_map,List.length_range,Nat.sub_self,List.set_cons_zero]
   simp [wrd]
theorem zr3 : ∀ (n : Nat) (r : List Int),(itW n r).length = r.length + n
 | 0,_=>rfl
 | n + 1,r=>by rw [itW,List.length_cons,zr3 n r]; omega
theorem zpQ (r z : List Int) (j i : Nat) (h : j + i + 1 = r.length) : gt (r.reverse ++ z) j = gt r i:=by
 simp only [gt,List.getD_eq_getElem?_getD]
 rw [List.getElem?_append_left (by simp; omega),List.getElem?_reverse (by omega)]
 congr 2
 omega
theorem zvC (B : List Int) : ∀ i,i ≤ 48 → w1F B i = (itW i ((List.range 16).map (wrd B)).reverse).reverse ++ List.replicate (48 - i) 0
 | 0,_=>by rw [w1F,zvG B 16 (by omega),itW,List.reverse_reverse]
 | i + 1,h=>by
   obtain ⟨r,hr⟩ : ∃ r,r = itW i ((List.range 16).map (wrd B)).reverse:=⟨_,rfl⟩
   have hl : r.length = 16 + i:=by rw [hr,zr3]; simp
   rw [w1F,zvC B i (by omega),← hr]
   rw [zpQ r _ i 15 (by omega),zpQ r _ (i + 1) 14 (by omega),zpQ r _ (i + 9) 6 (by omega),zpQ r _ (i + 14) 1 (by omega)]
   have e : 48 - i = (48 - (i + 1)) + 1:=by omega
   rw [e,List.replicate_succ,List.set_append_right _ _ (by simp; omega),show i + 16 - r.reverse.length = 0 by simp; omega,List.set_cons_zero]
   rw [itW,← hr,List.reverse_cons,List.append_assoc]
   rfl
theorem zrH {C W : List Int} {n : Nat} (hc : C.length = n) (hw : W.length = n) : C.zip W = (List.range n).map fun j=>(gt C j,gt W j):=by
 refine List.ext_getElem (by simp [hc,hw]) fun i hi1 hi2=>?_
 simp only [List.length_map,List.length_range] at hi2
 rw [List.getElem_zip,List.getElem_map,List.getElem_range]
 refine Prod.ext ?_ ?_
 ·simp only [gt,List.getD_eq_getElem?_getD]
  rw [List.getElem?_eq_getElem (by omega)]
  rfl
 ·simp only [gt,List.getD_eq_getElem?_getD]
  rw [List.getElem?_eq_getElem (by omega)]
  rfl
noncomputable def blkB (B : List Int) (o : Int → Int → Int → Int → Int → Int → Int → Int → Bool) (a b c d e f g h : Int) : Bool :=
 wdS B 16 [] fun r=>schS 48 r fun r=>vS (conK.zip r.reverse) (fun a' b' c' d' e' f' g' h' =>
  o (u2 .add a' a) (u2 .add b' b) (u2 .add c' c) (u2 .add d' d) (u2 .add e' e) (u2 .add f' f) (u2 .add g' g) (u2 .add h' h)) a b c d e f g h
def eq8 (a b c d e f g h a' b' c' d' e' f' g' h' : Int) : Bool:=a == a' && b == b' && c == c' && d == d' && e == e' && f == f' && g == g' && h == h'
theorem ztS {B C : List Int} {a b c d e f g h x0 x1 x2 x3 x4 x5 x6 x7 : Int} (hv : vF [a,b,c,d,e,f,g,h] B C 64 = [x0,x1,x2,x3,x4,x5,x6,x7]) :
  oF [a,b,c,d,e,f,g,h] B C 8 = [u2 .add x0 a,u2 .add x1 b,u2 .add x2 c,u2 .add x3 d,u2 .add x4 e,u2 .add x5 f,u2 .add x6 g,u2 .add x7 h]:=by
 have h0 : oF [a,b,c,d,e,f,g,h] B C 0 = [x0,x1,x2,x3,x4,x5,x6,x7]:=hv
 have h1 : oF [a,b,c,d,e,f,g,h] B C 1 = [u2 .add x0 a,x1,x2,x3,x4,x5,x6,x7]:=by rw [oF,h0]; rfl
 have h2 : oF [a,b,c,d,e,f,g,h] B C 2 = [u2 .add x0 a,u2 .add x1 b,x2,x3,x4,x5,x6,x7]:=by rw [oF,h1]; rfl
 have h3 : oF [a,b,c,d,e,f,g,h] B C 3 = [u2 .add x0 a,u2 .add x1 b,u2 .add x2 c,x3,x4,x5,x6,x7]:=by rw [oF,h2]; rfl
 have h4 : oF [a,b,c,d,e,f,g,h] B C 4 = [u2 .add x0 a,u2 .add x1 b,u2 .add x2 c,u2 .add x3 d,x4,x5,x6,x7]:=by rw [oF,h3]; rfl
 have h5 : oF [a,b,c,d,e,f,g,h] B C 5 = [u2 .add x0 a,u2 .add x1 b,u2 .add x2 c,u2 .add x3 d,u2 .add x4 e,x5,x6,x7]:=by rw [oF,h4]; rfl
 have h6 : oF [a,b,c,d,e,f,g,h] B C 6 = [u2 .add x0 a,u2 .add x1 b,u2 .add x2 c,u2 .add x3 d,u2 .add x4 e,u2 .add x5 f,x6,x7]:=by rw [oF,h5]; rfl
 have h7 : oF [a,b,c,d,e,f,g,h] B C 7 = [u2 .add x0 a,u2 .add x1 b,u2 .add x2 c,u2 .add x3 d,u2 .add x4 e,u2 .add x5 f,u2 .add x6 g,x7]:=by rw [oF,h6]; rfl
 rw [oF,h7]
 rfl
theorem zbj {B : List Int} {a b c d e f g h a' b' c' d' e' f' g' h' : Int} (hb : blkB B (eq8 a' b' c' d' e' f' g' h') a b c d e f g h = true) :
  zj7 [a,b,c,d,e,f,g,h] B conK = [a',b',c',d',e',f',g',h']:=by
 have hw:=zvC B 48 (by omega)
 rw [Nat.sub_self,List.replicate_zero,List.append_nil] at hw
 have hu : ∀ o,blkB B o a b c d e f g h = vS (conK.zip (w1F B 48)) (fun p0 p1 p2 p3 p4 p5 p6 p7=>o (u2 .add p0 a) (u2 .add p1 b) (u2 .add p2 c) (u2 .add p3 d) (u2 .add p4 e) (u2 .add p5 f) (u2 .add p6 g) (u2 .add p7 h)) a b c d e f g h:=fun o=>by
  unfold blkB
  rw [zvy,zrZ,hw]
 rw [hu] at hb
 obtain ⟨Z,hZ⟩ : ∃ Z,Z = conK.zip (w1F B 48):=⟨_,rfl⟩
 rw [← hZ] at hb
 obtain ⟨x0,x1,x2,x3,x4,x5,x6,x7,h1,h2⟩:=zw6 (fun p0 p1 p2 p3 p4 p5 p6 p7=>eq8 a' b' c' d' e' f' g' h' (u2 .add p0 a) (u2 .add p1 b) (u2 .add p2 c) (u2 .add p3 d) (u2 .add p4 e) (u2 .add p5 f) (u2 .add p6 g) (u2 .add p7 h)) Z a b c d e f g h
 rw [h2] at hb
 have hz : conK.zip (w1F B 48) = (List.range 64).map fun j=>(gt conK j,gt (w1F B 48) j):=zrH (by decide) (zng B 48)
 have hv:=zrS [a,b,c,d,e,f,g,h] B 64
 have h3 : (List.range 64).foldl (fun v j=>zqR v (gt conK j) (gt (w1F B 48) j)) [a,b,c,d,e,f,g,h] = Z.foldl (fun v p=>zqR v p.1 p.2) [a,b,c,d,e,f,g,h]:=by
  rw [hZ,hz,List.foldl_map]
 rw [h3,h1] at hv
 have he:=ztS hv
 unfold eq8 at hb
 simp only [Bool.and_eq_true,beq_iff_eq] at hb
 obtain ⟨⟨⟨⟨⟨⟨⟨q0,q1⟩,q2⟩,q3⟩,q4⟩,q5⟩,q6⟩,q7⟩:=hb
 rw [← q0,← q1,← q2,← q3,← q4,← q5,← q6,← q7] at he
 exact he
set_option maxRecDepth 100000
theorem zbi {M B H L : List Int} {i : Nat} (hh : hF M i = H) (hB : (M.drop (64 * i)).take 64 = B) (h : zj7 H B conK = L) : hF M (i + 1) = L:=by rw [hF,hB,hh,h]
theorem zeJ {b M H : List Int} {n : Nat} {l : List UInt8} (hp : padY b = M) (hn : M.length / 64 = n) (hh : hF M n = H) (ho : (zfu H 8).map (fun n=>UInt8.ofNat n.toNat) = l) : sumB b = ⟨l.toArray⟩:=by
 unfold sumB
 rw [hp,hn,hh,ho]
def dg0 : ByteArray:=⟨#[34,180,207,192,53,180,170,194,65,149,152,218,37,27,106,165,146,249,237,212,94,250,60,19,158,217,60,16,45,217,131,169]⟩
def by0 : List Int:=[0,0,0,0,0,0,0,0,0,0,0,0,0,0,0,0,0,0,0,0,0,0,0,0,0,0,0,0,0,0,0,3,0,0,0,0,0,0,0,1,0,0,0,0,0,0,0,5,0,0,0,0,0,0,0,2,0,0,0,0,0,0,0,15,0,0,0,0,0,0,0,0,0,0,0,0,0,0,0,0,0,0,0,0,0,0,0,0]
theorem dig0 : sumB by0 = dg0:=by
 have h0 : hF [0,0,0,0,0,0,0,0,0,0,0,0,0,0,0,0,0,0,0,0,0,0,0,0,0,0,0,0,0,0,0,3,0,0,0,0,0,0,0,1,0,0,0,0,0,0,0,5,0,0,0,0,0,0,0,2,0,0,0,0,0,0,0,15,0,0,0,0,0,0,0,0,0,0,0,0,0,0,0,0,0,0,0,0,0,0,0,0,128,0,0,0,0,0,0,0,0,0,0,0,0,0,0,0,0,0,0,0,0,0,0,0,0,0,0,0,0,0,0,0,0,0,0,0,0,0,2,192] 0 = [1779033703,3144134277,1013904242,2773480762,1359893119,2600822924,528734635,1541459225]:=rfl
 have h1:=zbi h0 (B:=[0,0,0,0,0,0,0,0,0,0,0,0,0,0,0,0,0,0,0,0,0,0,0,0,0,0,0,0,0,0,0,3,0,0,0,0,0,0,0,1,0,0,0,0,0,0,0,5,0,0,0,0,0,0,0,2,0,0,0,0,0,0,0,15]) (L:=[1614840193,2308031759,3272646575,3912544234,2441268724,1188758217,2262767616,839067487]) (by kernel_rfl) (zbj (by kernel_rfl))
 have h2:=zbi h1 (B:=[0,0,0,0,0,0,0,0,0,0,0,0,0,0,0,0,0,0,0,0,0,0,0,0,128,0,0,0,0,0,0,0,0,0,0,0,0,0,0,0,0,0,0,0,0,0,0,0,0,0,0,0,0,0,0,0,0,0,0,0,0,0,2,192]) (L:=[582275008,901032642,1100323034,622553765,2465852884,1593457683,2665036816,769229737]) (by kernel_rfl) (zbj (by kernel_rfl))
 exact zeJ (b:=by0) (l:=[34,180,207,192,53,180,170,194,65,149,152,218,37,27,106,165,146,249,237,212,94,250,60,19,158,217,60,16,45,217,131,169]) (by kernel_rfl) rfl h2 (by kernel_rfl)
def dg1 : ByteArray:=⟨#[89,5,28,145,25,102,121,22,39,32,84,234,230,212,189,111,14,39,247,167,41,121,65,113,71,135,30,152,75,34,62,246]⟩
def by1 : List Int:=[0,0,0,0,0,0,0,0,0,0,0,0,0,0,0,1,0,0,0,0,0,0,0,32,34,180,207,192,53,180,170,194,65,149,152,218,37,27,106,165,146,249,237,212,94,250,60,19,158,217,60,16,45,217,131,169,0,0,0,0,0,0,0,3,0,0,0,0,0,0,0,1,0,0,0,0,0,0,0,6,0,0,0,0,0,0,0,3,0,0,0,0,0,0,0,15,0,0,0,0,0,0,0,0,0,0,0,0,0,0,0,0,0,0,0,0,0,0,0,0]
theorem dig1 : sumB by1 = dg1:=by
 have h0 : hF [0,0,0,0,0,0,0,0,0,0,0,0,0,0,0,1,0,0,0,0,0,0,0,32,34,180,207,192,53,180,170,194,65,149,152,218,37,27,106,165,146,249,237,212,94,250,60,19,158,217,60,16,45,217,131,169,0,0,0,0,0,0,0,3,0,0,0,0,0,0,0,1,0,0,0,0,0,0,0,6,0,0,0,0,0,0,0,3,0,0,0,0,0,0,0,15,0,0,0,0,0,0,0,0,0,0,0,0,0,0,0,0,0,0,0,0,0,0,0,0,128,0,0,0,0,0,0,0,0,0,0,0,0,0,0,0,0,0,0,0,0,0,0,0,0,0,0,0,0,0,0,0,0,0,0,0,0,0,0,0,0,0,0,0,0,0,0,0,0,0,0,0,0,0,0,0,0,0,0,0,0,0,0,0,0,0,0,0,0,0,3,192] 0 = [1779033703,3144134277,1013904242,2773480762,1359893119,2600822924,528734635,1541459225]:=rfl
 have h1:=zbi h0 (B:=[0,0,0,0,0,0,0,0,0,0,0,0,0,0,0,1,0,0,0,0,0,0,0,32,34,180,207,192,53,180,170,194,65,149,152,218,37,27,106,165,146,249,237,212,94,250,60,19,158,217,60,16,45,217,131,169,0,0,0,0,0,0,0,3]) (L:=[1843322296,1656063053,3218638568,1360288828,3804442569,2744698139,322613190,3006307252]) (by kernel_rfl) (zbj (by kernel_rfl))
 have h2:=zbi h1 (B:=[0,0,0,0,0,0,0,1,0,0,0,0,0,0,0,6,0,0,0,0,0,0,0,3,0,0,0,0,0,0,0,15,0,0,0,0,0,0,0,0,0,0,0,0,0,0,0,0,0,0,0,0,0,0,0,0,128,0,0,0,0,0,0,0]) (L:=[3041415744,225814139,631950290,1670152801,1404832377,638079848,3467691375,351608796]) (by kernel_rfl) (zbj (by kernel_rfl))
 have h3:=zbi h2 (B:=[0,0,0,0,0,0,0,0,0,0,0,0,0,0,0,0,0,0,0,0,0,0,0,0,0,0,0,0,0,0,0,0,0,0,0,0,0,0,0,0,0,0,0,0,0,0,0,0,0,0,0,0,0,0,0,0,0,0,0,0,0,0,3,192]) (L:=[1493507217,426146070,656430314,3872701807,237500327,695812465,1200037528,1260535542]) (by kernel_rfl) (zbj (by kernel_rfl))
 exact zeJ (b:=by1) (l:=[89,5,28,145,25,102,121,22,39,32,84,234,230,212,189,111,14,39,247,167,41,121,65,113,71,135,30,152,75,34,62,246]) (by kernel_rfl) rfl h3 (by kernel_rfl)
def dg2 : ByteArray:=⟨#[50,206,144,72,4,189,177,81,25,30,89,238,140,18,115,239,127,117,236,212,133,229,71,224,170,251,198,245,117,153,210,226]⟩
def by2 : List Int:=[0,0,0,0,0,0,0,0,0,0,0,0,0,0,0,2,0,0,0,0,0,0,0,32,89,5,28,145,25,102,121,22,39,32,84,234,230,212,189,111,14,39,247,167,41,121,65,113,71,135,30,152,75,34,62,246,0,0,0,0,0,0,0,3,0,0,0,0,0,0,0,1,0,0,0,0,0,0,0,7,0,0,0,0,0,0,0,2,0,0,0,0,0,0,0,15,0,0,0,0,0,0,0,0,0,0,0,0,0,0,0,0,0,0,0,0,0,0,0,0]
theorem dig2 : sumB by2 = dg2:=by
 have h0 : hF [0,0,0,0,0,0,0,0,0,0,0,0,0,0,0,2,0,0,0,0,0,0,0,32,89,5,28,145,25,102,121,22,39,32,84,234,230,212,189,111,14,39,247,167,41,121,65,113,71,135,30,152,75,34,62,246,0,0,0,0,0,0,0,3,0,0,0,0,0,0,0,1,0,0,0,0,0,0,0,7,0,0,0,0,0,0,0,2,0,0,0,0,0,0,0,15,0,0,0,0,0,0,0,0,0,0,0,0,0,0,0,0,0,0,0,0,0,0,0,0,128,0,0,0,0,0,0,0,0,0,0,0,0,0,0,0,0,0,0,0,0,0,0,0,0,0,0,0,0,0,0,0,0,0,0,0,0,0,0,0,0,0,0,0,0,0,0,0,0,0,0,0,0,0,0,0,0,0,0,0,0,0,0,0,0,0,0,0,0,0,3,192] 0 = [1779033703,3144134277,1013904242,2773480762,1359893119,2600822924,528734635,1541459225]:=rfl
 have h1:=zbi h0 (B:=[0,0,0,0,0,0,0,0,0,0,0,0,0,0,0,2,0,0,0,0,0,0,0,32,89,5,28,145,25,102,121,22,39,32,84,234,230,212,189,111,14,39,247,167,41,121,65,113,71,135,30,152,75,34,62,246,0,0,0,0,0,0,0,3]) (L:=[784544063,1788525250,672370692,1719529523,1750897863,2636194651,310199062,2992265068]) (by kernel_rfl) (zbj (by kernel_rfl))
 have h2:=zbi h1 (B:=[0,0,0,0,0,0,0,1,0,0,0,0,0,0,0,7,0,0,0,0,0,0,0,2,0,0,0,0,0,0,0,15,0,0,0,0,0,0,0,0,0,0,0,0,0,0,0,0,0,0,0,0,0,0,0,0,128,0,0,0,0,0,0,0]) (L:=[1350937981,1429095939,169603225,1525945832,3546360293,2016439232,2014530570,253388333]) (by kernel_rfl) (zbj (by kernel_rfl))
 have h3:=zbi h2 (B:=[0,0,0,0,0,0,0,0,0,0,0,0,0,0,0,0,0,0,0,0,0,0,0,0,0,0,0,0,0,0,0,0,0,0,0,0,0,0,0,0,0,0,0,0,0,0,0,0,0,0,0,0,0,0,0,0,0,0,0,0,0,0,3,192]) (L:=[852398152,79540561,421419502,2350019567,2138434772,2246395872,2868627189,1973015266]) (by kernel_rfl) (zbj (by kernel_rfl))
 exact zeJ (b:=by2) (l:=[50,206,144,72,4,189,177,81,25,30,89,238,140,18,115,239,127,117,236,212,133,229,71,224,170,251,198,245,117,153,210,226]) (by kernel_rfl) rfl h3 (by kernel_rfl)
def dg3 : ByteArray:=⟨#[77,143,239,106,8,160,40,216,215,196,224,155,92,240,254,88,232,108,113,171,56,102,7,68,109,156,125,247,96,198,210,211]⟩
def by3 : List Int:=[0,0,0,0,0,0,0,0,0,0,0,0,0,0,0,3,0,0,0,0,0,0,0,32,50,206,144,72,4,189,177,81,25,30,89,238,140,18,115,239,127,117,236,212,133,229,71,224,170,251,198,245,117,153,210,226,0,0,0,0,0,0,0,3,0,0,0,0,0,0,0,1,0,0,0,0,0,0,0,8,0,0,0,0,0,0,0,3,0,0,0,0,0,0,0,15,0,0,0,0,0,0,0,0,0,0,0,0,0,0,0,0,0,0,0,0,0,0,0,0]
theorem dig3 : sumB by3 = dg3:=by
 have h0 : hF [0,0,0,0,0,0,0,0,0,0,0,0,0,0,0,3,0,0,0,0,0,0,0,32,50,206,144,72,4,189,177,81,25,30,89,238,140,18,115,239,127,117,236,212,133,229,71,224,170,251,198,245,117,153,210,226,0,0,0,0,0,0,0,3,0,0,0,0,0,0,0,1,0,0,0,0,0,0,0,8,0,0,0,0,0,0,0,3,0,0,0,0,0,0,0,15,0,0,0,0,0,0,0,0,0,0,0,0,0,0,0,0,0,0,0,0,0,0,0,0,128,0,0,0,0,0,0,0,0,0,0,0,0,0,0,0,0,0,0,0,0,0,0,0,0,0,0,0,0,0,0,0,0,0,0,0,0,0,0,0,0,0,0,0,0,0,0,0,0,0,0,0,0,0,0,0,0,0,0,0,0,0,0,0,0,0,0,0,0,0,3,192] 0 = [1779033703,3144134277,1013904242,2773480762,1359893119,2600822924,528734635,1541459225]:=rfl
 have h1:=zbi h0 (B:=[0,0,0,0,0,0,0,0,0,0,0,0,0,0,0,3,0,0,0,0,0,0,0,32,50,206,144,72,4,189,177,81,25,30,89,238,140,18,115,239,127,117,236,212,133,229,71,224,170,251,198,245,117,153,210,226,0,0,0,0,0,0,0,3]) (L:=[3843795544,2098250096,2754362324,1613522408,3743576037,3186556705,2701947715,1365547319]) (by kernel_rfl) (zbj (by kernel_rfl))
 have h2:=zbi h1 (B:=[0,0,0,0,0,0,0,1,0,0,0,0,0,0,0,8,0,0,0,0,0,0,0,3,0,0,0,0,0,0,0,15,0,0,0,0,0,0,0,0,0,0,0,0,0,0,0,0,0,0,0,0,0,0,0,0,128,0,0,0,0,0,0,0]) (L:=[1404443373,4227496498,3492757348,1165957882,4029763380,3752899310,1544703460,3915924219]) (by kernel_rfl) (zbj (by kernel_rfl))
 have h3:=zbi h2 (B:=[0,0,0,0,0,0,0,0,0,0,0,0,0,0,0,0,0,0,0,0,0,0,0,0,0,0,0,0,0,0,0,0,0,0,0,0,0,0,0,0,0,0,0,0,0,0,0,0,0,0,0,0,0,0,0,0,0,0,0,0,0,0,3,192]) (L:=[1301278570,144713944,3620003995,1559297624,3899421099,946210628,1838972407,1623642835]) (by kernel_rfl) (zbj (by kernel_rfl))
 exact zeJ (b:=by3) (l:=[77,143,239,106,8,160,40,216,215,196,224,155,92,240,254,88,232,108,113,171,56,102,7,68,109,156,125,247,96,198,210,211]) (by kernel_rfl) rfl h3 (by kernel_rfl)
def dg4 : ByteArray:=⟨#[200,12,17,191,6,14,175,155,50,88,223,134,10,157,192,78,130,74,7,22,213,241,181,9,91,93,143,155,69,230,187,82]⟩
def by4 : List Int:=[0,0,0,0,0,0,0,0,0,0,0,0,0,0,0,4,0,0,0,0,0,0,0,32,77,143,239,106,8,160,40,216,215,196,224,155,92,240,254,88,232,108,113,171,56,102,7,68,109,156,125,247,96,198,210,211,0,0,0,0,0,0,0,3,0,0,0,0,0,0,0,1,0,0,0,0,0,0,0,9,0,0,0,0,0,0,0,2,0,0,0,0,0,0,0,15,0,0,0,0,0,0,0,0,0,0,0,0,0,0,0,0,0,0,0,0,0,0,0,0]
theorem dig4 : sumB by4 = dg4:=by
 have h0 : hF [0,0,0,0,0,0,0,0,0,0,0,0,0,0,0,4,0,0,0,0,0,0,0,32,77,143,239,106,8,160,40,216,215,196,224,155,92,240,254,88,232,108,113,171,56,102,7,68,109,156,125,247,96,198,210,211,0,0,0,0,0,0,0,3,0,0,0,0,0,0,0,1,0,0,0,0,0,0,0,9,0,0,0,0,0,0,0,2,0,0,0,0,0,0,0,15,0,0,0,0,0,0,0,0,0,0,0,0,0,0,0,0,0,0,0,0,0,0,0,0,128,0,0,0,0,0,0,0,0,0,0,0,0,0,0,0,0,0,0,0,0,0,0,0,0,0,0,0,0,0,0,0,0,0,0,0,0,0,0,0,0,0,0,0,0,0,0,0,0,0,0,0,0,0,0,0,0,0,0,0,0,0,0,0,0,0,0,0,0,0,3,192] 0 = [1779033703,3144134277,1013904242,2773480762,1359893119,2600822924,528734635,1541459225]:=rfl
 have h1:=zbi h0 (B:=[0,0,0,0,0,0,0,0,0,0,0,0,0,0,0,4,0,0,0,0,0,0,0,32,77,143,239,106,8,160,40,216,215,196,224,155,92,240,254,88,232,108,113,171,56,102,7,68,109,156,125,247,96,198,210,211,0,0,0,0,0,0,0,3]) (L:=[883265425,2080944820,834852656,1706457539,3179075451,811519381,975981125,3707127042]) (by kernel_rfl) (zbj (by kernel_rfl))
 have h2:=zbi h1 (B:=[0,0,0,0,0,0,0,1,0,0,0,0,0,0,0,9,0,0,0,0,0,0,0,2,0,0,0,0,0,0,0,15,0,0,0,0,0,0,0,0,0,0,0,0,0,0,0,0,0,0,0,0,0,0,0,0,128,0,0,0,0,0,0,0]) (L:=[2844996441,1881592074,3242066322,827604648,1510409681,2780542291,2923242277,2545572658]) (by kernel_rfl) (zbj (by kernel_rfl))
 have h3:=zbi h2 (B:=[0,0,0,0,0,0,0,0,0,0,0,0,0,0,0,0,0,0,0,0,0,0,0,0,0,0,0,0,0,0,0,0,0,0,0,0,0,0,0,0,0,0,0,0,0,0,0,0,0,0,0,0,0,0,0,0,0,0,0,0,0,0,3,192]) (L:=[3356234175,101625755,844685190,178110542,2185889558,3589387529,1532858267,1172749138]) (by kernel_rfl) (zbj (by kernel_rfl))
 exact zeJ (b:=by4) (l:=[200,12,17,191,6,14,175,155,50,88,223,134,10,157,192,78,130,74,7,22,213,241,181,9,91,93,143,155,69,230,187,82]) (by kernel_rfl) rfl h3 (by kernel_rfl)
def dg5 : ByteArray:=⟨#[85,133,209,255,179,174,107,9,109,77,172,92,75,135,19,187,130,0,15,202,42,2,62,35,150,68,15,68,217,163,249,104]⟩
def by5 : List Int:=[0,0,0,0,0,0,0,0,0,0,0,0,0,0,0,0,0,0,0,0,0,0,0,0,0,0,0,0,0,0,0,3,0,0,0,0,0,0,0,1,0,0,0,0,0,0,0,4,0,0,0,0,0,0,0,1,0,0,0,0,0,0,0,90,0,0,0,0,0,0,0,0,0,0,0,0,0,0,0,0,0,0,0,0,0,0,0,0]
theorem dig5 : sumB by5 = dg5:=by
 have h0 : hF [0,0,0,0,0,0,0,0,0,0,0,0,0,0,0,0,0,0,0,0,0,0,0,0,0,0,0,0,0,0,0,3,0,0,0,0,0,0,0,1,0,0,0,0,0,0,0,4,0,0,0,0,0,0,0,1,0,0,0,0,0,0,0,90,0,0,0,0,0,0,0,0,0,0,0,0,0,0,0,0,0,0,0,0,0,0,0,0,128,0,0,0,0,0,0,0,0,0,0,0,0,0,0,0,0,0,0,0,0,0,0,0,0,0,0,0,0,0,0,0,0,0,0,0,0,0,2,192] 0 = [1779033703,3144134277,1013904242,2773480762,1359893119,2600822924,528734635,1541459225]:=rfl
 have h1:=zbi h0 (B:=[0,0,0,0,0,0,0,0,0,0,0,0,0,0,0,0,0,0,0,0,0,0,0,0,0,0,0,0,0,0,0,3,0,0,0,0,0,0,0,1,0,0,0,0,0,0,0,4,0,0,0,0,0,0,0,1,0,0,0,0,0,0,0,90]) (L:=[426232855,238944760,3041390145,2950213047,3406595169,476313052,2034355766,2932064408]) (by kernel_rfl) (zbj (by kernel_rfl))
 have h2:=zbi h1 (B:=[0,0,0,0,0,0,0,0,0,0,0,0,0,0,0,0,0,0,0,0,0,0,0,0,128,0,0,0,0,0,0,0,0,0,0,0,0,0,0,0,0,0,0,0,0,0,0,0,0,0,0,0,0,0,0,0,0,0,0,0,0,0,2,192]) (L:=[1434833407,3014552329,1833806940,1267143611,2181042122,704790051,2521042756,3651402088]) (by kernel_rfl) (zbj (by kernel_rfl))
 exact zeJ (b:=by5) (l:=[85,133,209,255,179,174,107,9,109,77,172,92,75,135,19,187,130,0,15,202,42,2,62,35,150,68,15,68,217,163,249,104]) (by kernel_rfl) rfl h2 (by kernel_rfl)
def dg6 : ByteArray:=⟨#[188,218,92,222,232,74,96,89,168,225,223,31,25,188,251,197,105,138,5,27,213,189,24,254,85,199,79,140,129,164,4,21]⟩
def by6 : List Int:=[0,0,0,0,0,0,0,0,0,0,0,0,0,0,0,1,0,0,0,0,0,0,0,32,34,180,207,192,53,180,170,194,65,149,152,218,37,27,106,165,146,249,237,212,94,250,60,19,158,217,60,16,45,217,131,169,0,0,0,0,0,0,0,3,0,0,0,0,0,0,0,1,0,0,0,0,0,0,0,4,0,0,0,0,0,0,0,1,0,0,0,0,0,0,0,90,0,0,0,0,0,0,0,0,0,0,0,0,0,0,0,0,0,0,0,0,0,0,0,0]
theorem dig6 : sumB by6 = dg6:=by
 have h0 : hF [0,0,0,0,0,0,0,0,0,0,0,0,0,0,0,1,0,0,0,0,0,0,0,32,34,180,207,192,53,180,170,194,65,149,152,218,37,27,106,165,146,249,237,212,94,250,60,19,158,217,60,16,45,217,131,169,0,0,0,0,0,0,0,3,0,0,0,0,0,0,0,1,0,0,0,0,0,0,0,4,0,0,0,0,0,0,0,1,0,0,0,0,0,0,0,90,0,0,0,0,0,0,0,0,0,0,0,0,0,0,0,0,0,0,0,0,0,0,0,0,128,0,0,0,0,0,0,0,0,0,0,0,0,0,0,0,0,0,0,0,0,0,0,0,0,0,0,0,0,0,0,0,0,0,0,0,0,0,0,0,0,0,0,0,0,0,0,0,0,0,0,0,0,0,0,0,0,0,0,0,0,0,0,0,0,0,0,0,0,0,3,192] 0 = [1779033703,3144134277,1013904242,2773480762,1359893119,2600822924,528734635,1541459225]:=rfl
 have h1:=zbi h0 (B:=[0,0,0,0,0,0,0,0,0,0,0,0,0,0,0,1,0,0,0,0,0,0,0,32,34,180,207,192,53,180,170,194,65,149,152,218,37,27,106,165,146,249,237,212,94,250,60,19,158,217,60,16,45,217,131,169,0,0,0,0,0,0,0,3]) (L:=[1843322296,1656063053,3218638568,1360288828,3804442569,2744698139,322613190,3006307252]) (by kernel_rfl) (zbj (by kernel_rfl))
 have h2:=zbi h1 (B:=[0,0,0,0,0,0,0,1,0,0,0,0,0,0,0,4,0,0,0,0,0,0,0,1,0,0,0,0,0,0,0,90,0,0,0,0,0,0,0,0,0,0,0,0,0,0,0,0,0,0,0,0,0,0,0,0,128,0,0,0,0,0,0,0]) (L:=[3686426149,1821679379,1215014186,1041042700,792485543,2662815916,604716286,513827416]) (by kernel_rfl) (zbj (by kernel_rfl))
 have h3:=zbi h2 (B:=[0,0,0,0,0,0,0,0,0,0,0,0,0,0,0,0,0,0,0,0,0,0,0,0,0,0,0,0,0,0,0,0,0,0,0,0,0,0,0,0,0,0,0,0,0,0,0,0,0,0,0,0,0,0,0,0,0,0,0,0,0,0,3,192]) (L:=[3168427230,3897188441,2833375007,431815621,1770652955,3585939710,1439125388,2175009813]) (by kernel_rfl) (zbj (by kernel_rfl))
 exact zeJ (b:=by6) (l:=[188,218,92,222,232,74,96,89,168,225,223,31,25,188,251,197,105,138,5,27,213,189,24,254,85,199,79,140,129,164,4,21]) (by kernel_rfl) rfl h3 (by kernel_rfl)
def dg7 : ByteArray:=⟨#[244,99,47,116,106,28,243,99,65,175,242,221,40,228,223,201,105,221,80,56,140,48,106,201,158,138,210,53,133,65,58,214]⟩
def by7 : List Int:=[0,0,0,0,0,0,0,0,0,0,0,0,0,0,0,2,0,0,0,0,0,0,0,32,89,5,28,145,25,102,121,22,39,32,84,234,230,212,189,111,14,39,247,167,41,121,65,113,71,135,30,152,75,34,62,246,0,0,0,0,0,0,0,3,0,0,0,0,0,0,0,1,0,0,0,0,0,0,0,4,0,0,0,0,0,0,0,1,0,0,0,0,0,0,0,90,0,0,0,0,0,0,0,0,0,0,0,0,0,0,0,0,0,0,0,0,0,0,0,0]
theorem dig7 : sumB by7 = dg7:=by
 have h0 : hF [0,0,0,0,0,0,0,0,0,0,0,0,0,0,0,2,0,0,0,0,0,0,0,32,89,5,28,145,25,102,121,22,39,32,84,234,230,212,189,111,14,39,247,167,41,121,65,113,71,135,30,152,75,34,62,246,0,0,0,0,0,0,0,3,0,0,0,0,0,0,0,1,0,0,0,0,0,0,0,4,0,0,0,0,0,0,0,1,0,0,0,0,0,0,0,90,0,0,0,0,0,0,0,0,0,0,0,0,0,0,0,0,0,0,0,0,0,0,0,0,128,0,0,0,0,0,0,0,0,0,0,0,0,0,0,0,0,0,0,0,0,0,0,0,0,0,0,0,0,0,0,0,0,0,0,0,0,0,0,0,0,0,0,0,0,0,0,0,0,0,0,0,0,0,0,0,0,0,0,0,0,0,0,0,0,0,0,0,0,0,3,192] 0 = [1779033703,3144134277,1013904242,2773480762,1359893119,2600822924,528734635,1541459225]:=rfl
 have h1:=zbi h0 (B:=[0,0,0,0,0,0,0,0,0,0,0,0,0,0,0,2,0,0,0,0,0,0,0,32,89,5,28,145,25,102,121,22,39,32,84,234,230,212,189,111,14,39,247,167,41,121,65,113,71,135,30,152,75,34,62,246,0,0,0,0,0,0,0,3]) (L:=[784544063,1788525250,672370692,1719529523,1750897863,2636194651,310199062,2992265068]) (by kernel_rfl) (zbj (by kernel_rfl))
 have h2:=zbi h1 (B:=[0,0,0,0,0,0,0,1,0,0,0,0,0,0,0,4,0,0,0,0,0,0,0,1,0,0,0,0,0,0,0,90,0,0,0,0,0,0,0,0,0,0,0,0,0,0,0,0,0,0,0,0,0,0,0,0,128,0,0,0,0,0,0,0]) (L:=[256637683,2080461900,4031416783,1255140576,3428997029,3542723883,717025861,3839577692]) (by kernel_rfl) (zbj (by kernel_rfl))
 have h3:=zbi h2 (B:=[0,0,0,0,0,0,0,0,0,0,0,0,0,0,0,0,0,0,0,0,0,0,0,0,0,0,0,0,0,0,0,0,0,0,0,0,0,0,0,0,0,0,0,0,0,0,0,0,0,0,0,0,0,0,0,0,0,0,0,0,0,0,3,192]) (L:=[4100140916,1780282211,1102050013,686088137,1776111672,2351983305,2659897909,2235644630]) (by kernel_rfl) (zbj (by kernel_rfl))
 exact zeJ (b:=by7) (l:=[244,99,47,116,106,28,243,99,65,175,242,221,40,228,223,201,105,221,80,56,140,48,106,201,158,138,210,53,133,65,58,214]) (by kernel_rfl) rfl h3 (by kernel_rfl)
def dg8 : ByteArray:=⟨#[181,51,88,59,69,145,37,136,94,208,204,220,43,251,146,177,126,209,99,61,127,222,82,154,243,134,245,131,99,246,56,201]⟩
def by8 : List Int:=[0,0,0,0,0,0,0,0,0,0,0,0,0,0,0,3,0,0,0,0,0,0,0,32,50,206,144,72,4,189,177,81,25,30,89,238,140,18,115,239,127,117,236,212,133,229,71,224,170,251,198,245,117,153,210,226,0,0,0,0,0,0,0,3,0,0,0,0,0,0,0,1,0,0,0,0,0,0,0,4,0,0,0,0,0,0,0,1,0,0,0,0,0,0,0,90,0,0,0,0,0,0,0,0,0,0,0,0,0,0,0,0,0,0,0,0,0,0,0,0]
theorem dig8 : sumB by8 = dg8:=by
 have h0 : hF [0,0,0,0,0,0,0,0,0,0,0,0,0,0,0,3,0,0,0,0,0,0,0,32,50,206,144,72,4,189,177,81,25,30,89,238,140,18,115,239,127,117,236,212,133,229,71,224,170,251,198,245,117,153,210,226,0,0,0,0,0,0,0,3,0,0,0,0,0,0,0,1,0,0,0,0,0,0,0,4,0,0,0,0,0,0,0,1,0,0,0,0,0,0,0,90,0,0,0,0,0,0,0,0,0,0,0,0,0,0,0,0,0,0,0,0,0,0,0,0,128,0,0,0,0,0,0,0,0,0,0,0,0,0,0,0,0,0,0,0,0,0,0,0,0,0,0,0,0,0,0,0,0,0,0,0,0,0,0,0,0,0,0,0,0,0,0,0,0,0,0,0,0,0,0,0,0,0,0,0,0,0,0,0,0,0,0,0,0,0,3,192] 0 = [1779033703,3144134277,1013904242,2773480762,1359893119,2600822924,528734635,1541459225]:=rfl
 have h1:=zbi h0 (B:=[0,0,0,0,0,0,0,0,0,0,0,0,0,0,0,3,0,0,0,0,0,0,0,32,50,206,144,72,4,189,177,81,25,30,89,238,140,18,115,239,127,117,236,212,133,229,71,224,170,251,198,245,117,153,210,226,0,0,0,0,0,0,0,3]) (L:=[3843795544,2098250096,2754362324,1613522408,3743576037,3186556705,2701947715,1365547319]) (by kernel_rfl) (zbj (by kernel_rfl))
 have h2:=zbi h1 (B:=[0,0,0,0,0,0,0,1,0,0,0,0,0,0,0,4,0,0,0,0,0,0,0,1,0,0,0,0,0,0,0,90,0,0,0,0,0,0,0,0,0,0,0,0,0,0,0,0,0,0,0,0,0,0,0,0,128,0,0,0,0,0,0,0]) (L:=[1176831335,400537856,1043491302,2582436580,2329660696,1556207939,3717444448,3380092887]) (by kernel_rfl) (zbj (by kernel_rfl))
 have h3:=zbi h2 (B:=[0,0,0,0,0,0,0,0,0,0,0,0,0,0,0,0,0,0,0,0,0,0,0,0,0,0,0,0,0,0,0,0,0,0,0,0,0,0,0,0,0,0,0,0,0,0,0,0,0,0,0,0,0,0,0,0,0,0,0,0,0,0,3,192]) (L:=[3040041019,1167140232,1590742236,737907377,2127651645,2145276570,4085708163,1677080777]) (by kernel_rfl) (zbj (by kernel_rfl))
 exact zeJ (b:=by8) (l:=[181,51,88,59,69,145,37,136,94,208,204,220,43,251,146,177,126,209,99,61,127,222,82,154,243,134,245,131,99,246,56,201]) (by kernel_rfl) rfl h3 (by kernel_rfl)
def dg9 : ByteArray:=⟨#[192,177,154,42,124,124,246,100,40,197,137,76,44,54,120,49,61,54,239,254,209,72,134,135,22,238,170,140,155,253,235,60]⟩
def by9 : List Int:=[0,0,0,0,0,0,0,0,0,0,0,0,0,0,0,4,0,0,0,0,0,0,0,32,77,143,239,106,8,160,40,216,215,196,224,155,92,240,254,88,232,108,113,171,56,102,7,68,109,156,125,247,96,198,210,211,0,0,0,0,0,0,0,3,0,0,0,0,0,0,0,1,0,0,0,0,0,0,0,4,0,0,0,0,0,0,0,1,0,0,0,0,0,0,0,90,0,0,0,0,0,0,0,0,0,0,0,0,0,0,0,0,0,0,0,0,0,0,0,0]
theorem dig9 : sumB by9 = dg9:=by
 have h0 : hF [0,0,0,0,0,0,0,0,0,0,0,0,0,0,0,4,0,0,0,0,0,0,0,32,77,143,239,106,8,160,40,216,215,196,224,155,92,240,254,88,232,108,113,171,56,102,7,68,109,156,125,247,96,198,210,211,0,0,0,0,0,0,0,3,0,0,0,0,0,0,0,1,0,0,0,0,0,0,0,4,0,0,0,0,0,0,0,1,0,0,0,0,0,0,0,90,0,0,0,0,0,0,0,0,0,0,0,0,0,0,0,0,0,0,0,0,0,0,0,0,128,0,0,0,0,0,0,0,0,0,0,0,0,0,0,0,0,0,0,0,0,0,0,0,0,0,0,0,0,0,0,0,0,0,0,0,0,0,0,0,0,0,0,0,0,0,0,0,0,0,0,0,0,0,0,0,0,0,0,0,0,0,0,0,0,0,0,0,0,0,3,192] 0 = [1779033703,3144134277,1013904242,2773480762,1359893119,2600822924,528734635,1541459225]:=rfl
 have h1:=zbi h0 (B:=[0,0,0,0,0,0,0,0,0,0,0,0,0,0,0,4,0,0,0,0,0,0,0,32,77,143,239,106,8,160,40,216,215,196,224,155,92,240,254,88,232,108,113,171,56,102,7,68,109,156,125,247,96,198,210,211,0,0,0,0,0,0,0,3]) (L:=[883265425,2080944820,834852656,1706457539,3179075451,811519381,975981125,3707127042]) (by kernel_rfl) (zbj (by kernel_rfl))
 have h2:=zbi h1 (B:=[0,0,0,0,0,0,0,1,0,0,0,0,0,0,0,4,0,0,0,0,0,0,0,1,0,0,0,0,0,0,0,90,0,0,0,0,0,0,0,0,0,0,0,0,0,0,0,0,0,0,0,0,0,0,0,0,128,0,0,0,0,0,0,0]) (L:=[2680907419,2244425313,1116422454,1365810524,1540658945,3116116097,3333856960,1295558123]) (by kernel_rfl) (zbj (by kernel_rfl))
 have h3:=zbi h2 (B:=[0,0,0,0,0,0,0,0,0,0,0,0,0,0,0,0,0,0,0,0,0,0,0,0,0,0,0,0,0,0,0,0,0,0,0,0,0,0,0,0,0,0,0,0,0,0,0,0,0,0,0,0,0,0,0,0,0,0,0,0,0,0,3,192]) (L:=[3232864810,2088564324,684034380,741767217,1027010558,3511191175,384739980,2617109308]) (by kernel_rfl) (zbj (by kernel_rfl))
 exact zeJ (b:=by9) (l:=[192,177,154,42,124,124,246,100,40,197,137,76,44,54,120,49,61,54,239,254,209,72,134,135,22,238,170,140,155,253,235,60]) (by kernel_rfl) rfl h3 (by kernel_rfl)
def dg10 : ByteArray:=⟨#[62,131,57,147,119,13,155,18,109,32,145,169,249,176,82,128,123,170,251,120,191,69,255,215,193,143,81,236,121,196,69,92]⟩
def by10 : List Int:=[0,0,0,0,0,0,0,0,0,0,0,0,0,0,0,5,0,0,0,0,0,0,0,32,200,12,17,191,6,14,175,155,50,88,223,134,10,157,192,78,130,74,7,22,213,241,181,9,91,93,143,155,69,230,187,82,0,0,0,0,0,0,0,3,0,0,0,0,0,0,0,1,0,0,0,0,0,0,0,4,0,0,0,0,0,0,0,1,0,0,0,0,0,0,0,90,0,0,0,0,0,0,0,0,0,0,0,0,0,0,0,0,0,0,0,0,0,0,0,0]
theorem zzv : sumB by10 = dg10:=by
 have h0 : hF [0,0,0,0,0,0,0,0,0,0,0,0,0,0,0,5,0,0,0,0,0,0,0,32,200,12,17,191,6,14,175,155,50,88,223,134,10,157,192,78,130,74,7,22,213,241,181,9,91,93,143,155,69,230,187,82,0,0,0,0,0,0,0,3,0,0,0,0,0,0,0,1,0,0,0,0,0,0,0,4,0,0,0,0,0,0,0,1,0,0,0,0,0,0,0,90,0,0,0,0,0,0,0,0,0,0,0,0,0,0,0,0,0,0,0,0,0,0,0,0,128,0,0,0,0,0,0,0,0,0,0,0,0,0,0,0,0,0,0,0,0,0,0,0,0,0,0,0,0,0,0,0,0,0,0,0,0,0,0,0,0,0,0,0,0,0,0,0,0,0,0,0,0,0,0,0,0,0,0,0,0,0,0,0,0,0,0,0,0,0,3,192] 0 = [1779033703,3144134277,1013904242,2773480762,1359893119,2600822924,528734635,1541459225]:=rfl
 have h1:=zbi h0 (B:=[0,0,0,0,0,0,0,0,0,0,0,0,0,0,0,5,0,0,0,0,0,0,0,32,200,12,17,191,6,14,175,155,50,88,223,134,10,157,192,78,130,74,7,22,213,241,181,9,91,93,143,155,69,230,187,82,0,0,0,0,0,0,0,3]) (L:=[973496968,3002709042,210866397,1578915766,2355787886,3359387137,2869250924,3181874102]) (by kernel_rfl) (zbj (by kernel_rfl))
 have h2:=zbi h1 (B:=[0,0,0,0,0,0,0,1,0,0,0,0,0,0,0,4,0,0,0,0,0,0,0,1,0,0,0,0,0,0,0,90,0,0,0,0,0,0,0,0,0,0,0,0,0,0,0,0,0,0,0,0,0,0,0,0,128,0,0,0,0,0,0,0]) (L:=[4273583741,2819474968,2364862524,2010953947,1468592435,1768534532,2184917068,213063576]) (by kernel_rfl) (zbj (by kernel_rfl))
 have h3:=zbi h2 (B:=[0,0,0,0,0,0,0,0,0,0,0,0,0,0,0,0,0,0,0,0,0,0,0,0,0,0,0,0,0,0,0,0,0,0,0,0,0,0,0,0,0,0,0,0,0,0,0,0,0,0,0,0,0,0,0,0,0,0,0,0,0,0,3,192]) (L:=[1048787347,1997380370,1830850985,4189082240,2074803064,3209035735,3247395308,2042905948]) (by kernel_rfl) (zbj (by kernel_rfl))
 exact zeJ (b:=by10) (l:=[62,131,57,147,119,13,155,18,109,32,145,169,249,176,82,128,123,170,251,120,191,69,255,215,193,143,81,236,121,196,69,92]) (by kernel_rfl) rfl h3 (by kernel_rfl)
set_option maxRecDepth 100000
def tblG : List (FuncId × AFun):=[(zcd,zlK),(zev,zkQ),(zg5,zkg),(zf9,zjp),(zag,zhD)]
theorem srcG : ∀ q ∈ tblG,Src Tryz.prog q.1 q.2:=zaf zq3 (zaf zoJ (zaf zpI (zaf zoE (zaf zmz zaT))))
abbrev fS0 : Fct:=⟨zbu,[bys by0],.sc (.string dg0),[]⟩
theorem zvA : fS0.Ok Tryz.prog:=by
 have h:=zbD by0 (by decide)
 rw [dig0] at h
 exact h
abbrev fU0 : Fct:=⟨zag,[(sA 0 ⟨#[]⟩ ⟨#[]⟩ 5 2 15)],.sc (.string dg0),[]⟩
theorem zyl : fU0.Ok Tryz.prog:=zav (zaa zvA zae) srcG (by kernel_rfl : evN spV (zam [fS0]) tblG 1000 40 zag [(sA 0 ⟨#[]⟩ ⟨#[]⟩ 5 2 15)] [] = some (.sc (.string dg0),[]))
abbrev fV0 : Fct:=⟨zag,[(sA 0 ⟨#[]⟩ dg0 5 2 15)],.sc (.string dg0),[]⟩
theorem zeI : fV0.Ok Tryz.prog:=zav (zaa zvA zae) srcG (by kernel_rfl : evN spV (zam [fS0]) tblG 1000 40 zag [(sA 0 ⟨#[]⟩ dg0 5 2 15)] [] = some (.sc (.string dg0),[]))
abbrev fS1 : Fct:=⟨zbu,[bys by1],.sc (.string dg1),[]⟩
theorem zvP : fS1.Ok Tryz.prog:=by
 have h:=zbD by1 (by decide)
 rw [dig1] at h
 exact h
abbrev fU1 : Fct:=⟨zag,[(sA 1 dg0 ⟨#[]⟩ 6 3 15)],.sc (.string dg1),[]⟩
theorem zxT : fU1.Ok Tryz.prog:=zav (zaa zvP zae) srcG (by kernel_rfl : evN spV (zam [fS1]) tblG 1000 40 zag [(sA 1 dg0 ⟨#[]⟩ 6 3 15)] [] = some (.sc (.string dg1),[]))
abbrev fV1 : Fct:=⟨zag,[(sA 1 dg0 dg1 6 3 15)],.sc (.string dg1),[]⟩
theorem zfY : fV1.Ok Tryz.prog:=zav (zaa zvP zae) srcG (by kernel_rfl : evN spV (zam [fS1]) tblG 1000 40 zag [(sA 1 dg0 dg1 6 3 15)] [] = some (.sc (.string dg1),[]))
abbrev fS2 : Fct:=⟨zbu,[bys by2],.sc (.string dg2),[]⟩
theorem zvs : fS2.Ok Tryz.prog:=by
 have h:=zbD by2 (by decide)
 rw [dig2] at h
 exact h
abbrev fU2 : Fct:=⟨zag,[(sA 2 dg1 ⟨#[]⟩ 7 2 15)],.sc (.string dg2),[]⟩
theorem zxL : fU2.Ok Tryz.prog:=zav (zaa zvs zae) srcG (by kernel_rfl : evN spV (zam [fS2]) tblG 1000 40 zag [(sA 2 dg1 ⟨#[]⟩ 7 2 15)] [] = some (.sc (.string dg2),[]))
abbrev fV2 : Fct:=⟨zag,[(sA 2 dg1 dg2 7 2 15)],.sc (.string dg2),[]⟩
theorem zhS : fV2.Ok Tryz.prog:=zav (zaa zvs zae) srcG (by kernel_rfl : evN spV (zam [fS2]) tblG 1000 40 zag [(sA 2 dg1 dg2 7 2 15)] [] = some (.sc (.string dg2),[]))
abbrev fS3 : Fct:=⟨zbu,[bys by3],.sc (.string dg3),[]⟩
theorem zvr : fS3.Ok Tryz.prog:=by
 have h:=zbD by3 (by decide)
 rw [dig3] at h
 exact h
abbrev fU3 : Fct:=⟨zag,[(sA 3 dg2 ⟨#[]⟩ 8 3 15)],.sc (.string dg3),[]⟩
theorem zxq : fU3.Ok Tryz.prog:=zav (zaa zvr zae) srcG (by kernel_rfl : evN spV (zam [fS3]) tblG 1000 40 zag [(sA 3 dg2 ⟨#[]⟩ 8 3 15)] [] = some (.sc (.string dg3),[]))
abbrev fV3 : Fct:=⟨zag,[(sA 3 dg2 dg3 8 3 15)],.sc (.string dg3),[]⟩
theorem zlZ : fV3.Ok Tryz.prog:=zav (zaa zvr zae) srcG (by kernel_rfl : evN spV (zam [fS3]) tblG 1000 40 zag [(sA 3 dg2 dg3 8 3 15)] [] = some (.sc (.string dg3),[]))
abbrev fS4 : Fct:=⟨zbu,[bys by4],.sc (.string dg4),[]⟩
theorem zvH : fS4.Ok Tryz.prog:=by
 have h:=zbD by4 (by decide)
 rw [dig4] at h
 exact h
abbrev fU4 : Fct:=⟨zag,[(sA 4 dg3 ⟨#[]⟩ 9 2 15)],.sc (.string dg4),[]⟩
theorem zxl : fU4.Ok Tryz.prog:=zav (zaa zvH zae) srcG (by kernel_rfl : evN spV (zam [fS4]) tblG 1000 40 zag [(sA 4 dg3 ⟨#[]⟩ 9 2 15)] [] = some (.sc (.string dg4),[]))
abbrev fV4 : Fct:=⟨zag,[(sA 4 dg3 dg4 9 2 15)],.sc (.string dg4),[]⟩
theorem zrz : fV4.Ok Tryz.prog:=zav (zaa zvH zae) srcG (by kernel_rfl : evN spV (zam [fS4]) tblG 1000 40 zag [(sA 4 dg3 dg4 9 2 15)] [] = some (.sc (.string dg4),[]))
abbrev fS5 : Fct:=⟨zbu,[bys by5],.sc (.string dg5),[]⟩
theorem zvv : fS5.Ok Tryz.prog:=by
 have h:=zbD by5 (by decide)
 rw [dig5] at h
 exact h
abbrev fU5 : Fct:=⟨zag,[(sA 0 ⟨#[]⟩ ⟨#[]⟩ 4 1 90)],.sc (.string dg5),[]⟩
theorem zxh : fU5.Ok Tryz.prog:=zav (zaa zvv zae) srcG (by kernel_rfl : evN spV (zam [fS5]) tblG 1000 40 zag [(sA 0 ⟨#[]⟩ ⟨#[]⟩ 4 1 90)] [] = some (.sc (.string dg5),[]))
abbrev fV5 : Fct:=⟨zag,[(sA 0 ⟨#[]⟩ dg5 4 1 90)],.sc (.string dg5),[]⟩
theorem zvg : fV5.Ok Tryz.prog:=zav (zaa zvv zae) srcG (by kernel_rfl : evN spV (zam [fS5]) tblG 1000 40 zag [(sA 0 ⟨#[]⟩ dg5 4 1 90)] [] = some (.sc (.string dg5),[]))
abbrev fS6 : Fct:=⟨zbu,[bys by6],.sc (.string dg6),[]⟩
theorem zvN : fS6.Ok Tryz.prog:=by
 have h:=zbD by6 (by decide)
 rw [dig6] at h
 exact h
abbrev fU6 : Fct:=⟨zag,[(sA 1 dg0 ⟨#[]⟩ 4 1 90)],.sc (.string dg6),[]⟩
theorem zyA : fU6.Ok Tryz.prog:=zav (zaa zvN zae) srcG (by kernel_rfl : evN spV (zam [fS6]) tblG 1000 40 zag [(sA 1 dg0 ⟨#[]⟩ 4 1 90)] [] = some (.sc (.string dg6),[]))
abbrev fV6 : Fct:=⟨zag,[(sA 1 dg0 dg6 4 1 90)],.sc (.string dg6),[]⟩
theorem zvl : fV6.Ok Tryz.prog:=zav (zaa zvN zae) srcG (by kernel_rfl : evN spV (zam [fS6]) tblG 1000 40 zag [(sA 1 dg0 dg6 4 1 90)] [] = some (.sc (.string dg6),[]))
abbrev fS7 : Fct:=⟨zbu,[bys by7],.sc (.string dg7),[]⟩
theorem zvW : fS7.Ok Tryz.prog:=by
 have h:=zbD by7 (by decide)
 rw [dig7] at h
 exact h
abbrev fU7 : Fct:=⟨zag,[(sA 2 dg1 ⟨#[]⟩ 4 1 90)],.sc (.string dg7),[]⟩
theorem zxf : fU7.Ok Tryz.prog:=zav (zaa zvW zae) srcG (by kernel_rfl : evN spV (zam [fS7]) tblG 1000 40 zag [(sA 2 dg1 ⟨#[]⟩ 4 1 90)] [] = some (.sc (.string dg7),[]))
abbrev fV7 : Fct:=⟨zag,[(sA 2 dg1 dg7 4 1 90)],.sc (.string dg7),[]⟩
theorem zvw : fV7.Ok Tryz.prog:=zav (zaa zvW zae) srcG (by kernel_rfl : evN spV (zam [fS7]) tblG 1000 40 zag [(sA 2 dg1 dg7 4 1 90)] [] = some (.sc (.string dg7),[]))
abbrev fS8 : Fct:=⟨zbu,[bys by8],.sc (.string dg8),[]⟩
theorem zvm : fS8.Ok Tryz.prog:=by
 have h:=zbD by8 (by decide)
 rw [dig8] at h
 exact h
abbrev fU8 : Fct:=⟨zag,[(sA 3 dg2 ⟨#[]⟩ 4 1 90)],.sc (.string dg8),[]⟩
theorem zyf : fU8.Ok Tryz.prog:=zav (zaa zvm zae) srcG (by kernel_rfl : evN spV (zam [fS8]) tblG 1000 40 zag [(sA 3 dg2 ⟨#[]⟩ 4 1 90)] [] = some (.sc (.string dg8),[]))
abbrev fV8 : Fct:=⟨zag,[(sA 3 dg2 dg8 4 1 90)],.sc (.string dg8),[]⟩
theorem zvT : fV8.Ok Tryz.prog:=zav (zaa zvm zae) srcG (by kernel_rfl : evN spV (zam [fS8]) tblG 1000 40 zag [(sA 3 dg2 dg8 4 1 90)] [] = some (.sc (.string dg8),[]))
abbrev fS9 : Fct:=⟨zbu,[bys by9],.sc (.string dg9),[]⟩
theorem zvE : fS9.Ok Tryz.prog:=by
 have h:=zbD by9 (by decide)
 rw [dig9] at h
 exact h
abbrev fU9 : Fct:=⟨zag,[(sA 4 dg3 ⟨#[]⟩ 4 1 90)],.sc (.string dg9),[]⟩
theorem zxu : fU9.Ok Tryz.prog:=zav (zaa zvE zae) srcG (by kernel_rfl : evN spV (zam [fS9]) tblG 1000 40 zag [(sA 4 dg3 ⟨#[]⟩ 4 1 90)] [] = some (.sc (.string dg9),[]))
abbrev fV9 : Fct:=⟨zag,[(sA 4 dg3 dg9 4 1 90)],.sc (.string dg9),[]⟩
theorem zvV : fV9.Ok Tryz.prog:=zav (zaa zvE zae) srcG (by kernel_rfl : evN spV (zam [fS9]) tblG 1000 40 zag [(sA 4 dg3 dg9 4 1 90)] [] = some (.sc (.string dg9),[]))
abbrev fS10 : Fct:=⟨zbu,[bys by10],.sc (.string dg10),[]⟩
theorem zsi : fS10.Ok Tryz.prog:=by
 have h:=zbD by10 (by decide)
 rw [zzv] at h
 exact h
abbrev fU10 : Fct:=⟨zag,[(sA 5 dg4 ⟨#[]⟩ 4 1 90)],.sc (.string dg10),[]⟩
theorem zwm : fU10.Ok Tryz.prog:=zav (zaa zsi zae) srcG (by kernel_rfl : evN spV (zam [fS10]) tblG 1000 40 zag [(sA 5 dg4 ⟨#[]⟩ 4 1 90)] [] = some (.sc (.string dg10),[]))
abbrev fV10 : Fct:=⟨zag,[(sA 5 dg4 dg10 4 1 90)],.sc (.string dg10),[]⟩
theorem zsX : fV10.Ok Tryz.prog:=zav (zaa zsi zae) srcG (by kernel_rfl : evN spV (zam [fS10]) tblG 1000 40 zag [(sA 5 dg4 dg10 4 1 90)] [] = some (.sc (.string dg10),[]))
set_option maxRecDepth 100000
def tblY : List (FuncId × AFun):=[(zcg,zhc),(zeH,zgA),(zfA,zkl),(zhm,zk2),(zeo,zi2),(zcQ,zkY),(zdS,zfe),(zek,zfQ),(zcG,zgm),(zcI,zfD),(zed,zhA),(zeY,zjx),(zgd,zjr),(zfo,zkS),(zdk,zes),(zdq,zeK),(zdD,zg3),(zfq,ziA),(zdO,ze6),(zcp,ze2),(zhh,zkM),(zhu,zla),(zeM,zgE),(zg7,zkr),(zg1,zkt),(zin,zlQ),(ziG,zlS),(zi6,zlO),(zaP,zlV)]
theorem srcY : ∀ q ∈ tblY,Src Tryz.prog q.1 q.2:=zaf zk5 (zaf zkR (zaf zpJ (zaf zpM (zaf zlY (zaf znT (zaf zgX (zaf zh4 (zaf zjs (zaf zh8 (zaf znc (zaf zob (zaf znu (zaf zom (zaf zgc (zaf zgB (zaf zkL (zaf zlU (zaf zgV (zaf zg0 (zaf zpo (zaf zpn (zaf zkA (zaf zpx (zaf zpD (zaf zrf (zaf zrb (zaf zrq (zaf zqU zaT))))))))))))))))))))))))))))
abbrev rw0 : List AV:=(sR 0 ⟨#[]⟩ dg0 5 2 15 vI vP)
abbrev rw1 : List AV:=(sR 1 dg0 dg1 6 3 15 vI vP)
abbrev rw2 : List AV:=(sR 2 dg1 dg2 7 2 15 vI vP)
abbrev rw3 : List AV:=(sR 3 dg2 dg3 8 3 15 vI vP)
abbrev rw4 : List AV:=(sR 4 dg3 dg4 9 2 15 vI vP)
abbrev rw5 : List AV:=(sR 0 ⟨#[]⟩ dg5 4 1 90 vI vP)
abbrev rw6 : List AV:=(sR 1 dg0 dg6 4 1 90 vI vP)
abbrev rw7 : List AV:=(sR 2 dg1 dg7 4 1 90 vI vP)
abbrev rw8 : List AV:=(sR 3 dg2 dg8 4 1 90 vI vP)
abbrev rw9 : List AV:=(sR 4 dg3 dg9 4 1 90 vI vP)
abbrev rw10 : List AV:=(sR 5 dg4 dg10 4 1 90 vI vP)
abbrev pe0 : AV:=.agg [.I 0,.nilS]
abbrev pe1 : AV:=.agg [.I 0,.vs 13 false [rw0]]
abbrev pe2 : AV:=.agg [.I 0,.vs 13 false [rw0,rw1]]
abbrev pe3 : AV:=.agg [.I 0,.vs 13 false [rw0,rw1,rw2]]
abbrev pe4 : AV:=.agg [.I 0,.vs 13 false [rw0,rw1,rw2,rw3]]
abbrev pe5 : AV:=.agg [.I 0,.vs 13 false [rw0,rw1,rw2,rw3,rw4]]
abbrev fY0 : Fct:=⟨zaP,[pe0,.agg [.I 1,.I 5,.I 2,.I 15,.nilS,.nilS],.I 3],.tup [.agg [.I 0,.rs 0 0 1],.agg (sR 0 ⟨#[]⟩ dg0 5 2 15 (.rs 1 0 0) (.rs 2 0 0)),.I 0],[some ⟨13,[(sR 0 ⟨#[]⟩ dg0 5 2 15 (.rs 3 0 0) (.rs 4 0 0))],0⟩,some ⟨1,[],0⟩,some ⟨3,[],0⟩,some ⟨1,[],0⟩,some ⟨3,[],0⟩]⟩
theorem zbU : fY0.Ok Tryz.prog:=zav (zaa zyl (zaa zeI zae)) srcY (by kernel_rfl : evN spV (zam [fU0,fV0]) tblY 1000 40 zaP [pe0,.agg [.I 1,.I 5,.I 2,.I 15,.nilS,.nilS],.I 3] [] = some (.tup [.agg [.I 0,.rs 0 0 1],.agg (sR 0 ⟨#[]⟩ dg0 5 2 15 (.rs 1 0 0) (.rs 2 0 0)),.I 0],[some ⟨13,[(sR 0 ⟨#[]⟩ dg0 5 2 15 (.rs 3 0 0) (.rs 4 0 0))],0⟩,some ⟨1,[],0⟩,some ⟨3,[],0⟩,some ⟨1,[],0⟩,some ⟨3,[],0⟩]))
abbrev fY1 : Fct:=⟨zaP,[pe1,.agg [.I 1,.I 6,.I 3,.I 15,.nilS,.nilS],.I 3],.tup [.agg [.I 0,.rs 0 0 2],.agg (sR 1 dg0 dg1 6 3 15 (.rs 1 0 0) (.rs 2 0 0)),.I 0],[some ⟨13,[(sR 0 ⟨#[]⟩ dg0 5 2 15 (.rs 3 0 0) (.rs 4 0 0)),(sR 1 dg0 dg1 6 3 15 (.rs 5 0 0) (.rs 6 0 0))],0⟩,some ⟨1,[],0⟩,some ⟨3,[],0⟩,some ⟨1,[],0⟩,some ⟨3,[],0⟩,some ⟨1,[],0⟩,some ⟨3,[],0⟩]⟩
theorem zcu : fY1.Ok Tryz.prog:=zav (zaa zeI (zaa zxT (zaa zfY zae))) srcY (by kernel_rfl : evN spV (zam [fV0,fU1,fV1]) tblY 1000 40 zaP [pe1,.agg [.I 1,.I 6,.I 3,.I 15,.nilS,.nilS],.I 3] [] = some (.tup [.agg [.I 0,.rs 0 0 2],.agg (sR 1 dg0 dg1 6 3 15 (.rs 1 0 0) (.rs 2 0 0)),.I 0],[some ⟨13,[(sR 0 ⟨#[]⟩ dg0 5 2 15 (.rs 3 0 0) (.rs 4 0 0)),(sR 1 dg0 dg1 6 3 15 (.rs 5 0 0) (.rs 6 0 0))],0⟩,some ⟨1,[],0⟩,some ⟨3,[],0⟩,some ⟨1,[],0⟩,some ⟨3,[],0⟩,some ⟨1,[],0⟩,some ⟨3,[],0⟩]))
abbrev fY2 : Fct:=⟨zaP,[pe2,.agg [.I 1,.I 7,.I 2,.I 15,.nilS,.nilS],.I 3],.tup [.agg [.I 0,.rs 0 0 3],.agg (sR 2 dg1 dg2 7 2 15 (.rs 1 0 0) (.rs 2 0 0)),.I 0],[some ⟨13,[rw0,rw1,rw2],0⟩,some ⟨1,[],0⟩,some ⟨3,[],0⟩]⟩
theorem zdC : fY2.Ok Tryz.prog:=zav (zaa zeI (zaa zfY (zaa zxL (zaa zhS zae)))) srcY (by kernel_rfl : evN spV (zam [fV0,fV1,fU2,fV2]) tblY 1000 40 zaP [pe2,.agg [.I 1,.I 7,.I 2,.I 15,.nilS,.nilS],.I 3] [] = some (.tup [.agg [.I 0,.rs 0 0 3],.agg (sR 2 dg1 dg2 7 2 15 (.rs 1 0 0) (.rs 2 0 0)),.I 0],[some ⟨13,[rw0,rw1,rw2],0⟩,some ⟨1,[],0⟩,some ⟨3,[],0⟩]))
abbrev fY3 : Fct:=⟨zaP,[pe3,.agg [.I 1,.I 8,.I 3,.I 15,.nilS,.nilS],.I 3],.tup [.agg [.I 0,.rs 0 0 4],.agg (sR 3 dg2 dg3 8 3 15 (.rs 1 0 0) (.rs 2 0 0)),.I 0],[some ⟨13,[rw0,rw1,rw2,rw3],0⟩,some ⟨1,[],0⟩,some ⟨3,[],0⟩]⟩
theorem zf0 : fY3.Ok Tryz.prog:=zav (zaa zeI (zaa zfY (zaa zhS (zaa zxq (zaa zlZ zae))))) srcY (by kernel_rfl : evN spV (zam [fV0,fV1,fV2,fU3,fV3]) tblY 1000 40 zaP [pe3,.agg [.I 1,.I 8,.I 3,.I 15,.nilS,.nilS],.I 3] [] = some (.tup [.agg [.I 0,.rs 0 0 4],.agg (sR 3 dg2 dg3 8 3 15 (.rs 1 0 0) (.rs 2 0 0)),.I 0],[some ⟨13,[rw0,rw1,rw2,rw3],0⟩,some ⟨1,[],0⟩,some ⟨3,[],0⟩]))
abbrev fY4 : Fct:=⟨zaP,[pe4,.agg [.I 1,.I 9,.I 2,.I 15,.nilS,.nilS],.I 3],.tup [.agg [.I 0,.rs 0 0 5],.agg (sR 4 dg3 dg4 9 2 15 (.rs 1 0 0) (.rs 2 0 0)),.I 0],[some ⟨13,[rw0,rw1,rw2,rw3,(sR 4 dg3 dg4 9 2 15 (.rs 3 0 0) (.rs 4 0 0))],0⟩,some ⟨1,[],0⟩,some ⟨3,[],0⟩,some ⟨1,[],0⟩,some ⟨3,[],0⟩]⟩
theorem zme : fY4.Ok Tryz.prog:=zav (zaa zeI (zaa zfY (zaa zhS (zaa zlZ (zaa zxl (zaa zrz zae)))))) srcY (by kernel_rfl : evN spV (zam [fV0,fV1,fV2,fV3,fU4,fV4]) tblY 1000 40 zaP [pe4,.agg [.I 1,.I 9,.I 2,.I 15,.nilS,.nilS],.I 3] [] = some (.tup [.agg [.I 0,.rs 0 0 5],.agg (sR 4 dg3 dg4 9 2 15 (.rs 1 0 0) (.rs 2 0 0)),.I 0],[some ⟨13,[rw0,rw1,rw2,rw3,(sR 4 dg3 dg4 9 2 15 (.rs 3 0 0) (.rs 4 0 0))],0⟩,some ⟨1,[],0⟩,some ⟨3,[],0⟩,some ⟨1,[],0⟩,some ⟨3,[],0⟩]))
abbrev fZ0 : Fct:=⟨zaP,[pe0,.agg [.I 1,.I 4,.I 1,.I 90,.nilS,.nilS],.I 3],.tup [.agg [.I 0,.rs 0 0 1],.agg (sR 0 ⟨#[]⟩ dg5 4 1 90 (.rs 1 0 0) (.rs 2 0 0)),.I 0],[some ⟨13,[(sR 0 ⟨#[]⟩ dg5 4 1 90 (.rs 3 0 0) (.rs 4 0 0))],0⟩,some ⟨1,[],0⟩,some ⟨3,[],0⟩,some ⟨1,[],0⟩,some ⟨3,[],0⟩]⟩
theorem zlT : fZ0.Ok Tryz.prog:=zav (zaa zxh (zaa zvg zae)) srcY (by kernel_rfl : evN spV (zam [fU5,fV5]) tblY 1000 40 zaP [pe0,.agg [.I 1,.I 4,.I 1,.I 90,.nilS,.nilS],.I 3] [] = some (.tup [.agg [.I 0,.rs 0 0 1],.agg (sR 0 ⟨#[]⟩ dg5 4 1 90 (.rs 1 0 0) (.rs 2 0 0)),.I 0],[some ⟨13,[(sR 0 ⟨#[]⟩ dg5 4 1 90 (.rs 3 0 0) (.rs 4 0 0))],0⟩,some ⟨1,[],0⟩,some ⟨3,[],0⟩,some ⟨1,[],0⟩,some ⟨3,[],0⟩]))
abbrev fZ1 : Fct:=⟨zaP,[pe1,.agg [.I 1,.I 4,.I 1,.I 90,.nilS,.nilS],.I 3],.tup [.agg [.I 0,.rs 0 0 2],.agg (sR 1 dg0 dg6 4 1 90 (.rs 1 0 0) (.rs 2 0 0)),.I 0],[some ⟨13,[(sR 0 ⟨#[]⟩ dg0 5 2 15 (.rs 3 0 0) (.rs 4 0 0)),(sR 1 dg0 dg6 4 1 90 (.rs 5 0 0) (.rs 6 0 0))],0⟩,some ⟨1,[],0⟩,some ⟨3,[],0⟩,some ⟨1,[],0⟩,some ⟨3,[],0⟩,some ⟨1,[],0⟩,some ⟨3,[],0⟩]⟩
theorem zlN : fZ1.Ok Tryz.prog:=zav (zaa zeI (zaa zyA (zaa zvl zae))) srcY (by kernel_rfl : evN spV (zam [fV0,fU6,fV6]) tblY 1000 40 zaP [pe1,.agg [.I 1,.I 4,.I 1,.I 90,.nilS,.nilS],.I 3] [] = some (.tup [.agg [.I 0,.rs 0 0 2],.agg (sR 1 dg0 dg6 4 1 90 (.rs 1 0 0) (.rs 2 0 0)),.I 0],[some ⟨13,[(sR 0 ⟨#[]⟩ dg0 5 2 15 (.rs 3 0 0) (.rs 4 0 0)),(sR 1 dg0 dg6 4 1 90 (.rs 5 0 0) (.rs 6 0 0))],0⟩,some ⟨1,[],0⟩,some ⟨3,[],0⟩,some ⟨1,[],0⟩,some ⟨3,[],0⟩,some ⟨1,[],0⟩,some ⟨3,[],0⟩]))
abbrev fZ2 : Fct:=⟨zaP,[pe2,.agg [.I 1,.I 4,.I 1,.I 90,.nilS,.nilS],.I 3],.tup [.agg [.I 0,.rs 0 0 3],.agg (sR 2 dg1 dg7 4 1 90 (.rs 1 0 0) (.rs 2 0 0)),.I 0],[some ⟨13,[rw0,rw1,rw7],0⟩,some ⟨1,[],0⟩,some ⟨3,[],0⟩]⟩
theorem zlG : fZ2.Ok Tryz.prog:=zav (zaa zeI (zaa zfY (zaa zxf (zaa zvw zae)))) srcY (by kernel_rfl : evN spV (zam [fV0,fV1,fU7,fV7]) tblY 1000 40 zaP [pe2,.agg [.I 1,.I 4,.I 1,.I 90,.nilS,.nilS],.I 3] [] = some (.tup [.agg [.I 0,.rs 0 0 3],.agg (sR 2 dg1 dg7 4 1 90 (.rs 1 0 0) (.rs 2 0 0)),.I 0],[some ⟨13,[rw0,rw1,rw7],0⟩,some ⟨1,[],0⟩,some ⟨3,[],0⟩]))
abbrev fZ3 : Fct:=⟨zaP,[pe3,.agg [.I 1,.I 4,.I 1,.I 90,.nilS,.nilS],.I 3],.tup [.agg [.I 0,.rs 0 0 4],.agg (sR 3 dg2 dg8 4 1 90 (.rs 1 0 0) (.rs 2 0 0)),.I 0],[some ⟨13,[rw0,rw1,rw2,rw8],0⟩,some ⟨1,[],0⟩,some ⟨3,[],0⟩]⟩
theorem zlL : fZ3.Ok Tryz.prog:=zav (zaa zeI (zaa zfY (zaa zhS (zaa zyf (zaa zvT zae))))) srcY (by kernel_rfl : evN spV (zam [fV0,fV1,fV2,fU8,fV8]) tblY 1000 40 zaP [pe3,.agg [.I 1,.I 4,.I 1,.I 90,.nilS,.nilS],.I 3] [] = some (.tup [.agg [.I 0,.rs 0 0 4],.agg (sR 3 dg2 dg8 4 1 90 (.rs 1 0 0) (.rs 2 0 0)),.I 0],[some ⟨13,[rw0,rw1,rw2,rw8],0⟩,some ⟨1,[],0⟩,some ⟨3,[],0⟩]))
abbrev fZ4 : Fct:=⟨zaP,[pe4,.agg [.I 1,.I 4,.I 1,.I 90,.nilS,.nilS],.I 3],.tup [.agg [.I 0,.rs 0 0 5],.agg (sR 4 dg3 dg9 4 1 90 (.rs 1 0 0) (.rs 2 0 0)),.I 0],[some ⟨13,[rw0,rw1,rw2,rw3,(sR 4 dg3 dg9 4 1 90 (.rs 3 0 0) (.rs 4 0 0))],0⟩,some ⟨1,[],0⟩,some ⟨3,[],0⟩,some ⟨1,[],0⟩,some ⟨3,[],0⟩]⟩
theorem zmo : fZ4.Ok Tryz.prog:=zav (zaa zeI (zaa zfY (zaa zhS (zaa zlZ (zaa zxu (zaa zvV zae)))))) srcY (by kernel_rfl : evN spV (zam [fV0,fV1,fV2,fV3,fU9,fV9]) tblY 1000 40 zaP [pe4,.agg [.I 1,.I 4,.I 1,.I 90,.nilS,.nilS],.I 3] [] = some (.tup [.agg [.I 0,.rs 0 0 5],.agg (sR 4 dg3 dg9 4 1 90 (.rs 1 0 0) (.rs 2 0 0)),.I 0],[some ⟨13,[rw0,rw1,rw2,rw3,(sR 4 dg3 dg9 4 1 90 (.rs 3 0 0) (.rs 4 0 0))],0⟩,some ⟨1,[],0⟩,some ⟨3,[],0⟩,some ⟨1,[],0⟩,some ⟨3,[],0⟩]))
abbrev fZ5 : Fct:=⟨zaP,[pe5,.agg [.I 1,.I 4,.I 1,.I 90,.nilS,.nilS],.I 3],.tup [.agg [.I 0,.rs 0 0 6],.agg (sR 5 dg4 dg10 4 1 90 (.rs 1 0 0) (.rs 2 0 0)),.I 0],[some ⟨13,[rw0,rw1,rw2,rw3,rw4,(sR 5 dg4 dg10 4 1 90 (.rs 3 0 0) (.rs 4 0 0))],0⟩,some ⟨1,[],0⟩,some ⟨3,[],0⟩,some ⟨1,[],0⟩,some ⟨3,[],0⟩]⟩
theorem zma : fZ5.Ok Tryz.prog:=zav (zaa zeI (zaa zfY (zaa zhS (zaa zlZ (zaa zrz (zaa zwm (zaa zsX zae))))))) srcY (by kernel_rfl : evN spV (zam [fV0,fV1,fV2,fV3,fV4,fU10,fV10]) tblY 1000 40 zaP [pe5,.agg [.I 1,.I 4,.I 1,.I 90,.nilS,.nilS],.I 3] [] = some (.tup [.agg [.I 0,.rs 0 0 6],.agg (sR 5 dg4 dg10 4 1 90 (.rs 1 0 0) (.rs 2 0 0)),.I 0],[some ⟨13,[rw0,rw1,rw2,rw3,rw4,(sR 5 dg4 dg10 4 1 90 (.rs 3 0 0) (.rs 4 0 0))],0⟩,some ⟨1,[],0⟩,some ⟨3,[],0⟩,some ⟨1,[],0⟩,some ⟨3,[],0⟩]))
end Go.Proofs.YtklclphfcibagaaGreat
