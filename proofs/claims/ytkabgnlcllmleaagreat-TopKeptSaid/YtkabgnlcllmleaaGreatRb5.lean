/- Texts of this claim,merged. -/
import Derived.Test.YtkabgnlcllmleaaGreatRb3
import Derived.Shelf.SlIterI.Collect
import Derived.RangeFuncLeaves
import Derived.Test.YtkabgnlcllmleaaGreatRb4
set_option linter.unusedSimpArgs false
set_option linter.unusedVariables false
set_option linter.unusedSectionVars false
set_option maxRecDepth 100000
set_option maxHeartbeats 8000000
noncomputable section
namespace Go.Proofs.YtkabgnlcllmleaaGreat
open Go Go.RowKit Go.Shelf Go.Maps Go.Sort
attribute [local go_sem] Oper.semAt_some
def JL:Go.Shelf.Ren:=⟨fun | 11=>247 | n=>n,fun | 0=>0 | 24=>22 | 26=>3 | 28=>226 | 33=>77 | n=>n,fun | n=>n⟩
theorem PH:SlLaysZI.n11 Tryz.prog JL:={
 mixed:=by kernel_rfl
 f11:=⟨Tryz.f247.name,zx,Tryz.func247.trans (congrArg some (by kernel_rfl))⟩
 t0:=Tryz.underlying0
 a0:=Tryz.isAgg0
 z0:=Tryz.sizeOf0
 v0:=Tryz.zeroValue0
 t24:=Tryz.underlying22
 a24:=Tryz.isAgg22
 z24:=Tryz.sizeOf22
 v24:=Tryz.zeroValue22
 t26:=Tryz.underlying3
 a26:=Tryz.isAgg3
 z26:=Tryz.sizeOf3
 v26:=Tryz.zeroValue3
 t28:=Tryz.underlying226
 a28:=Tryz.isAgg226
 z28:=Tryz.sizeOf226
 v28:=Tryz.zeroValue226
 i26:=by kernel_rfl
}
theorem mY {l:List Int} {k:Nat} (h:k<l.length):l.take (k+1)=l.take k++[l[k]]:=Qp h
theorem tQ (F:Fence) (n:Nat) (h7:F.fn 204) (hro:F.round=none) (hn:1<=n) (l Bs B0 b off cap:Nat) (a:Option Addr) (zs:List Int) (ha:zs≠[]->a=some ⟨b,off,none⟩) (hreach:zs.length<=17592186044416) (J:List Int->World->Prop) (W:World) (hJ:∀ pre W1,J pre W1 -> ∀ j (h:j<zs.length),W1.cell? ⟨b,off+j,none⟩=some (.int .i64 zs[j])) (hY:∀ pre x W1,J pre W1->pre.length<zs.length->YieldAt F (n - 1) Tryz.prog l #[.int .i64 x] W1 λ e W'=>e = .returned (.bool true)/\J (pre++[x]) W'/\KeepsWalks W1 W') (hBs:W.cell? ⟨Bs,B0,none⟩=some (.slice a zs.length cap)) (h0:J [] W) :
  CallsIn F n Tryz.prog 204 #[.func (.yield l) #[] #[],.pointer (some ⟨Bs,B0,none⟩)] W λ e W'=>(∃ v,e = .returned v)/\J zs W':=by
 refine callsIn_of_wp Tryz.func204 rfl h7 ?_ hro;simp only[Tryz.ntmps204,Ue,QS,UN,Nat.reduceAdd,Nat.reduceSub,Array.replicate_succ,Array.replicate_zero,List.push_toArray,List.append_toArray,Uq,Uc]
 gi_wp2
 gi_loopw [7] (λ i wr=>∃ k:Nat,k<=zs.length/\i = .int .i64 k/\J (zs.take k) wr) (λ i _=>zs.length - (intOf i).toNat)
 case atStart=>exact⟨0,Qk _,rfl,by simpa using h0⟩
 case round =>
  obtain⟨k,hk,rfl,hJs⟩:=hrel
  by_cases hlt:k<zs.length
  .have hcx':wr.cell? ⟨b,off+k,none⟩=some (.int .i64 zs[k]):=hJ _ _ hJs k hlt
   obtain rfl:=ha (by rintro rfl;simp at hlt)
   obtain⟨fn,tmps,assign,body,hy,hR⟩:=hY _ zs[k] wr hJs (by rw[QC];omega)
   gi_wp2
   refine hR.mono ?_
   rintro e W3 ⟨rfl,hJ3,hk3⟩
   gi_wp2
   go_roundw
   case rel=>exact⟨k+1,zy,zz,by rw[mY hlt];exact hJ3⟩
   case measure=>simp[intOf];omega
  .obtain rfl:k=zs.length:=zy
   gi_wp2
   go_end0
   exact⟨⟨_,rfl⟩,by simpa using hJs⟩
theorem uN (F:Fence) (n:Nat) (h11:F.fn 247) (hFg:F.fn 204) (hro:F.round=none) (hn:2<=n) (Bs B0 b off cap:Nat) (a:Option Addr) (zs:List Int) (ha:zs≠[]->a=some ⟨b,off,none⟩) (hN:zs.length<=1099511627776) (w:World) (hBs:w.cell? ⟨Bs,B0,none⟩=some (.slice a zs.length cap)) (hBl:Bs<w.heap.size) (hbl:zs≠[]->b<w.heap.size) (hc:∀ j (h:j<zs.length),w.cell? ⟨b,off+j,none⟩=some (.int .i64 zs[j])) :
  CallsIn F n Tryz.prog 247 #[.slice none 0 0,.func (.func 204) #[] #[.pointer (some ⟨Bs,B0,none⟩)]] w λ e w'=>∃ v:Value,e = .returned v/\w'.ownsRow w.heap.size 3 1 v zs.length (zs.map encZ)/\Below w.heap.size w w':=by
 have h1:1<=n:=zy
 have hmax:zs.length<=maxLen:=by unfold maxLen;omega
 have L:=PH;have hne:(22:Nat)≠3:=zx
 have eg:∀ args w,(callFunc 204 args).run Tryz.prog w = .ok (.enter 204 args) w:=λ args w=>(enters_of Tryz.func204 (by kernel_rfl) rfl) args w
 refine callsIn_of_wp_marks Tryz.func247 rfl h11 ?_ hro;simp only[Tryz.ntmps247,Ue,QS,UN,Nat.reduceAdd,Nat.reduceSub,Array.replicate_succ,Array.replicate_zero,List.push_toArray,List.append_toArray,Uq,Uc]
 gi_wp2
 refine wpIn_rangeFunc ?_;intro fn hfn;rw[hro];obtain⟨W0,hW0⟩:∃ W0,w.alloc (.cells #[.slice none 0 0] 22)=W0:=⟨_,rfl⟩;have hs0:W0.heap.size=w.heap.size+1:=by rw[<- hW0];simp
 have hv0:W0.heap[w.heap.size]? = some (.cells #[.slice none 0 0] 22 (0,0)):=by rw[<- hW0];exact World.alloc_heap_new w _
 have hb0:Below w.heap.size w W0:=by rw[<- hW0];exact(Below.refl _ w).alloc (Qf _) _
 rw[hW0];obtain⟨sv,hsv⟩:∃ sv:Value,sv = .func (.func 204) #[] #[.pointer (some ⟨Bs,B0,none⟩)]:=⟨_,rfl⟩;rw[<- hsv];obtain⟨W1,hW1⟩:∃ W1,(W0.alloc (.deferred (some []))).alloc (.loop (AnyZI.apRec JL fn sv w.heap.size W0.heap.size .ready none))=W1:=⟨_,rfl⟩
 have hold:∀ k,k<W0.heap.size->W1.heap[k]? = W0.heap[k]?:=λ k hk=>by
  rw[<- hW1];exact(Below.heap_alloc _ _ k zw).trans (Below.heap_alloc _ _ k hk)
 have hb1:Below w.heap.size w W1:=by rw[<- hW1];exact(hb0.alloc hb0.size _).alloc (by have:=hb0.size;simp;omega) _
 have hs1:W1.heap.size=W0.heap.size+2:=by rw[<- hW1];simp
 have hM:AnyZI.ApAt JL w fn sv w.heap.size (W0.heap.size+1) W0.heap.size [] W1 :=
  ⟨⟨_,(hold w.heap.size zy).trans hv0,⟨rfl,.inl ⟨rfl,rfl⟩⟩,zz⟩,
   by rw[<- hW1];have:=World.alloc_heap_new (W0.alloc (.deferred (some []))) (.loop (AnyZI.apRec JL fn sv w.heap.size W0.heap.size .ready none));rwa [World.size_alloc] at this,
   by rw[<- hW1];exact(Below.heap_alloc _ _ _ zz).trans (World.alloc_heap_new W0 _),hb1⟩
 refine⟨W0.heap.size+1,[{ target:=.collected W0.heap.size,args:=#[] }],W1,{ target:=.fn (.func 204) #[.pointer (some ⟨Bs,B0,none⟩)],args:=#[.func (.yield (W0.heap.size+1)) #[] #[]] },W1,204,
  #[.func (.yield (W0.heap.size+1)) #[] #[]] ++ #[.pointer (some ⟨Bs,B0,none⟩)],W1,?_,?_,?_,?_,λ _=>h1,?_⟩
 .rw [<- hW1];exact run_enterLoop_outer _ _ _ _ _
 .rw [hsv];simp[resolve,go_sem]
 .intro f' hf';simp[Target.leads] at hf';subst hf';exact hFg
 .simp [invoke,go_sem,eg]
 .refine (tQ F (n - 1) hFg hro zy (W0.heap.size+1) Bs B0 b off cap a zs ha zy (AnyZI.ApAt JL w fn sv w.heap.size (W0.heap.size+1) W0.heap.size) W1 (λ pre W' h' j hj=>(h'.below.cell (p:=⟨b,off+j,none⟩) (hbl (by rintro rfl;simp at hj))).trans (hc j hj))
   (λ pre x W hJ hl=>AnyZI.apYield { L with } F (n - 1 - 1) w fn hfn _ w.heap.size (W0.heap.size+1) W0.heap.size zy zy zy (Qf _) zy zs.length hmax zy pre x W hJ hl) ((hb1.cell (p:=⟨Bs,B0,none⟩) hBl).trans hBs) hM).mono ?_
  rintro e W2 ⟨⟨v0,rfl⟩,h2⟩
  obtain⟨v,hv,hrow,hnil⟩:=h2.box;have hend:=run_endLoop (P:=Tryz.prog) h2.L (by simp[AnyZI.apRec])
  obtain⟨W3,hW3⟩:∃ W3,W2.putObj (W0.heap.size+1) (.loop { AnyZI.apRec JL fn sv w.heap.size W0.heap.size .ready none with state:=.exhausted })=W3:=⟨_,rfl⟩;rw[hW3] at hend;have hg3:W2.grownBy W3 (some (W0.heap.size+1)):=by rw[<- hW3];exact grownBy_putObj_a _ _ _
  have hv3:W3.heap[w.heap.size]? = some (.cells #[v] 22 (0,0)):=by rw[<- hW3];exact(World.putObj_heap_other zy).trans hv
  have hK3:W3.heap[W0.heap.size]? = some (.deferred (some [])):=by rw[<- hW3];exact(World.putObj_heap_other zy).trans h2.K
  have hrow3:=hrow.kept hg3 (ownsRow_ne_a hrow h2.L (λ cur e=>by first | cases e | exact hne (Obj.cells.inj e).2.1))
  have hb3:Below w.heap.size w W3:=h2.below.grown hg3 h2.below.size (λ k e=>by cases e;omega)
  obtain⟨hc3,hf3⟩:=cell_of_box_a hv3
  clear hW3
  refine⟨none,W3,hend,?_⟩
  gi_wp2
  rw[<- hs0];refine⟨zz,.inl ⟨_,_,rfl,run_takeDeferred hK3,?_⟩⟩
  exact⟨_,results_tmp rfl _ _ _,v,rfl,hrow3.kept (grownBy_putObj_a _ _ _) (ownsRow_ne_a hrow3 hK3 (λ cur e=>by first | cases e | exact hne (Obj.cells.inj e).2.1)),hb3.grown (grownBy_putObj_a _ _ _) hb3.size (λ k e=>by cases e;omega)⟩
abbrev pC (p:A9):List AV:=[AA p.seeds,AA p.table,.I p.lv]
abbrev eP (p:A9):AV:=.agg (pC p)
def Jw (p:A9) (i:Nat):Prop:=∀ h:i<p.table.length,1<=p.table[i]/\p.table[i]<=1000/\(0<i->p.table[i]<=p.table[i - 1])
def KR (n:Int) (p:A9):Prop:=p.seeds≠[]/\CJ p.seeds 0 (n - 1)/\(1<=p.table.length/\p.table.length<=8)/\(1<=p.lv/\p.lv<=3)
theorem Nm {n:Int} {p:A9}:CI n p↔KR n p /\ ∀ i,Jw p i:=by
 unfold CI KR Jw;constructor
 .rintro ⟨a,b,c,d,e,f,g⟩;exact⟨⟨a,b,⟨c,d⟩,e,f⟩,g⟩
 .rintro ⟨⟨a,b,⟨c,d⟩,e,f⟩,g⟩;exact⟨a,b,c,d,e,f,g⟩
theorem sR (p:A9) (d:Int):AF 202 [eP p,.I d] [] (.I (Eu p d)) []:=by
 refine kC.s.ai ?_;refine rs [1,2] [] [16] ?_;refine EL (ι:=Unit) (λ _=>⟨19,[],[],200⟩) (λ _=>0<=d/\(p.table.length:Int)<=d) ?_ λ _ hd=>?_
 .refine AI (rs [1,2,5] [] [] ?_)
  refine AE _ rfl (λ h3=>?_) λ h3=>?_
  .simp at h3
   refine rs [4] [] [] ?_;exact BR (AO.one (by simp[PC h3]))
  simp at h3;refine rs [1,2,8] [] [] ?_;refine AE _ rfl (λ h6=>?_) λ h6=>?_
  .simp at h6
   obtain⟨k,rfl⟩:∃ k:Nat,d=k:=⟨d.toNat,zy⟩
   have hk:k<p.table.length:=zy
   refine rx (s:=?s7) [4] [] [] rfl ?o7 ?q7
   case o7=>simp[hk];rfl
   exact BR (AO.one (by simp[Eu,hk,show ¬ ((k:Int)<0) by omega]))
  simp at h6;exact AG ⟨(),⟨h3,h6⟩,Le.keep rfl (Ar rfl) zz zz⟩
 refine rs [4] [] [] ?_;refine Am ?_
 have h1:Eu p d=1:=by
  unfold Eu;rw[if_neg zy,Qn,Q6 zy]
  rfl
 exact⟨.inr rfl,AO.one (by simp[h1])⟩
open Classical in
theorem Mw (g:Gr) (p:A9) (hl:g.edges.length<=140737488355328) (h1:g.gone.length<=140737488355328) (hs:p.seeds.length<=140737488355328) (ht:p.table.length<=140737488355328) :
  AF 49 [eG g,eP p] [] (.I (if AH g then if CI g.size p then 0 else 15 else 14)) []:=by
 refine dD.s.ai ?_;refine rs [2,3] [] [16,24] ?_;refine AB (rx (s:=?s2) [2,3,5] [] [] rfl ?o2 ?q2)
 case o2=>simp;refine Ah (Iy g hl h1) zz ?_;simp;rfl
 refine rs [2,3,5,11] [] [] ?_;refine AE _ rfl (λ h4=>?_) λ h4=>?_
 .simp at h4
  refine rs [4] [] [] ?_;exact BR (AO.one (by simp[h4]))
 simp at h4;have h5:=h4.1.1;have h6:=h4.1.2.1;refine AG (AB (arc ⟨65,[(3,.pv (pC p)),(38,.B (decide (¬ KR g.size p)))],[],288⟩ ?_ ?_))
 .simp
  repeat' first
   | (refine Cs 91 rfl ?_;have hw:IntKind.i64.wrap (g.size - 1)=g.size - 1:=w6;rw[hw];refine Ah (Po _ _ _ hs) rfl ?_;simp)
   | (refine Cs 33 rfl ?_;refine Ah (Dw ..) rfl ?_;simp)
   | (refine DC (λ hb=>?_) (λ hb=>?_)<;>(try rw[hb])<;>(try simp at hb)<;>simp[hb])
  all_goals exact AZ [] (by simp;first | exact A0 (by (try simp at *);grind [KR]) | exact⟨by rw[show pC p=[.vs 1 false [],AA p.table,.I p.lv] by simp[pC,AA,hb]];exact .refl _,A0 (by (try simp at *);grind [KR])⟩)
 refine AE _ rfl (λ h7=>?_) λ h7=>?_
 .simp at h7
  refine rs [4] [] [] ?_;exact BR (AO.one (by simp[h4,Nm,h7]))
 simp at h7;refine AG (AB (rs [3,40,41,42] [] [] ?_));refine AI (An (ι:=Nat) (λ i=>⟨65,[(3,.pv (pC p)),(40,AA p.table),(41,.I p.table.length),(42,.I i)],[],320⟩) (λ i=>i<=p.table.length /\ ∀ k,k<i->Jw p k) (λ i=>p.table.length - i) 0 zz (CK [] []) ?_)
 rintro i ⟨hi,hp⟩
 refine rs [3,40,41,42,43] [] [] ?_;refine AB (AE _ rfl (λ q=>?_) λ q=>?_)
 .simp at q
  have h2:=w6 (x:=(i:Int)+1);have h3:0<i->IntKind.i64.wrap ((i:Int) - 1)=((i - 1:Nat):Int):=λ h=>by rw[w6];omega
  have h0:i - 1<p.table.length:=zy
  refine AG (AB (AI (rx (s:=?s12) [3,6,7,40,41,42] [] [] rfl ?o12 ?q12)))
  case o12=>simp[q];rfl
  refine arc ⟨65,[(3,.pv (pC p)),(40,AA p.table),(41,.I p.table.length),(42,.I i),(63,.B (decide (¬ Jw p i)))],[],504⟩ ?_ ?_
  .simp
   repeat' first
    | (refine Cs 33 rfl ?_;refine Ah (Dw ..) rfl ?_;simp)
    | (refine DC (λ hb=>?_) (λ hb=>?_)<;>(try rw[hb])<;>(try simp at hb)<;>simp[hb,q,h0,h3])
   all_goals exact AZ [] (by simp;exact A0 (by (try simp at *);grind [Jw]))
  refine AE _ rfl (λ u=>?_) λ u=>?_
  .refine rs [4] [] [] ?_
   refine Am ?_;have hn:¬ CI g.size p:=λ h=>by simp at u;exact u ((Nm.1 h).2 i)
   exact⟨.inr rfl,AO.one (by simp[h4,hn])⟩
  simp at u;refine AG (AT ?_);refine⟨i+1,⟨q,λ k hk=>?_⟩,?_,AN [] [] (by simp[h2])⟩
  .rcases Q2.1 hk with h | rfl
   .exact hp k h
   .exact u
  .omega
 simp at q;have hy:CI g.size p:=Nm.2 ⟨h7,λ k hk=>hp k zy hk⟩
 refine Ak (Al (rs [4] [] [] ?_));exact BR (AO.one (by simp[h4,hy]))
theorem Le.dn {st st':St} {D D':List (List AV)} (N:Nat) (i j i' j':Nat) (sn:List Nat) (u:st'.sz=st.sz) (hh:st'.h=[(i',some ⟨1,[[.rs j' 0 N]],0⟩),(j',some ⟨1,D',0⟩)]) (hi:i'<st'.n) (hj:j'<st'.n) (hij:i≠j) (q:i'≠j') (hs:∀ k∈sn,k≠i/\k≠j) (h1:st.hp i=some ⟨1,[[.rs j 0 N]],0⟩) (h2:st.hp j=some ⟨1,D,0⟩) (hD:D.map (·.map (conv [(i,i'),(j,j')] sn st.hp 4))=D') (ht:∀ p∈st'.t,Wk (conv [(i,i'),(j,j')] sn st.hp 4 (st.get p.1)) p.2):Le 0 st st' :=
 Le.ents [(i,i'),(j,j')] sn u (by simpa using hij) (by simpa using q) (by simp[hi,hj]) (by simpa using hs) (Qk _) ht λ p hp=>by
  rw[hh] at hp;simp at hp;rcases hp with rfl | rfl
  .exact ⟨i,_,_,rfl,zz,h1,A7.eq (by simp[hij]) zz⟩
  .exact ⟨j,_,_,rfl,zz,h2,A7.eq (by simp only[AX,hD]) zz⟩
theorem OC {l:List Int} {lo hi:Int} (h:CJ l lo hi):∀ (i:Nat) (hi:i<l.length),lo+i<=l[i]
 | 0,hi=>by have:=(h 0 hi).1;simp;omega
 | i+1,hi=>by
   have h1:=OC h i zy
   have h2:=(h (i+1) hi).2.2 zy
   simp only[Nat.add_sub_cancel] at h2;omega
theorem AH.gone_le {g:Gr} (h:AH g):g.gone.length<=64:=by
 have hr:=h.1.2.2.2;have h1:=h.1.1;have h2:=h.1.2.1;rcases UF g.gone.length with h0 | h0
 .omega
 .have h3:=OC hr (g.gone.length - 1) zy
  have h4:=(hr (g.gone.length - 1) zy).2.1
  omega
theorem Xn {l:List Ed} {x t:Int}:t∈BJ l x ↔ ∃ e∈l,e.f=x/\e.t=t:=by
 unfold BJ;simp only[U8];constructor
 .rintro ⟨e,he,h⟩
  split at h
  .exact ⟨e,he,by assumption,by simpa using h⟩
  .cases h
 .rintro ⟨e,he,h1,h2⟩
  exact⟨e,he,by rw[if_pos h1,h2]⟩
theorem sQ {g:Gr} {S:List Int} {d:Nat} {F X:List Int} (hg:AH g) (hF:∀ x,x∈F↔Dy g x/\dl g S d x=d) (hX:∀ t,t∈X ↔ ∃ x∈F,t∈BJ g.edges x) (x:Int) :
  x∈X.filter (λ e=>!Dq (Bj g S (d+1)) e)↔Dy g x/\dl g S (d+1) x=(d+1:Nat):=by
 rw[QF,hX];have h0:=TC g S (d+1);have h8:=hg.1.1;constructor
 .rintro ⟨⟨y,hy,h6⟩,ho⟩
  obtain⟨e,he,rfl,rfl⟩:=Xn.1 h6;have h9:=(hF e.f).1 hy;simp only[Dq,Bool.not_or,Bool.not_not,QH,Qa,h0] at ho;have hk:Dy g e.t:=⟨ho.1.1,zy⟩
  have h1:=SY (S:=S) (n:=d) he zy
  refine⟨hk,?_⟩;have u:=ho.2;obtain⟨k,h7⟩:∃ k:Nat,e.t=k:=⟨e.t.toNat,by have:=hk.1;omega⟩
  rw[h7] at u h1 ⊢;have h3:k<g.size.toNat:=by have:=hk.2;omega
  have q:(Bj g S (d+1)).getD k 0=if 0<=dl g S (d+1) k/\dl g S (d+1) k<(d+1:Nat) then dl g S (d+1) k else -1:=by
   simp[Bj,List.getD,h3]
  simp only[Int.toNat_natCast,q] at u;simp at u;split at u<;>omega
 .rintro ⟨hk,hd⟩
  have h2:¬ 0<=dl g S d x:=by
   intro h2;rw[HN h2] at hd;have:=FU (g:=g) (S:=S) d x;omega
  obtain⟨_,e,he,h4,h5⟩:=JZ (g:=g) (S:=S) (n:=d) (k:=x) zy h2
  have hf:=hg.fits e he;refine⟨⟨e.f,(hF _).2 ⟨⟨hf.1,by have:=hf.2.1;omega⟩,h5⟩,Xn.2 ⟨e,he,rfl,h4⟩⟩,?_⟩
  obtain⟨k,rfl⟩:∃ k:Nat,x=k:=⟨x.toNat,by have:=hk.1;omega⟩
  have h3:k<g.size.toNat:=by have:=hk.2;omega
  have q:(Bj g S (d+1)).getD k 0=if 0<=dl g S (d+1) k/\dl g S (d+1) k<(d+1:Nat) then dl g S (d+1) k else -1:=by
   simp[Bj,List.getD,h3]
  simp only[Dq,Int.toNat_natCast,q,h0];rw[if_neg zy]
  simp;omega
theorem jN {F:List Int} {i:Nat} (h:i<F.length) (x:Int):x∈F.take (i+1)↔x∈F.take i++[F[i]]:=by
 rw[<- U1 h,UV]
theorem Si (g:Gr) (S:List Int) (hg:AH g) (hS:S.length<=1099511627776):AF 151 [eG g,AA S] [] (.rs 0 0 g.size.toNat) [some ⟨1,AP (Du g S),0⟩]:=by
 refine sJ.s.ai ?_;have b1:=hg.1.1;have aq:=hg.1.2.1;have hq:=hg.1.2.2.1;have a4:g.gone.length<=1000000:=QR hg.gone_le zy
 obtain⟨N,hN⟩:∃ N:Nat,N=g.size.toNat:=⟨_,rfl⟩;have a5:(if 0<g.size then g.size else 0)=(N:Int):=by split<;>omega
 refine ar [2,3] [] [16,24] 40 ?_;apply ak [2,3,5] [80,72] 96
 .simp [a5]
  refine qU (j:=40) (Qk _) rfl (aZ (-1) N zy) ?_ ?_
  .simp
  simp;rfl
 have h0:List.replicate N [AV.I (-1)]=AP (Bj g S 0):=by
  unfold Bj AP;rw[Us];apply List.ext_getElem
  .simp [hN]
  .intro i h1 h2
   simp;omega
 rw[h0];obtain⟨F0,hh⟩:∃ F,F=DF N (Gm g S):=⟨_,rfl⟩
 have hu:∀ x,x∈F0↔Dy g x/\dl g S 0 x=((0:Nat):Int):=by
  intro x;rw[hh];unfold DF;simp only[QF,Ql,Q1];constructor
  .rintro ⟨⟨i,hi,rfl⟩,hs⟩
   exact⟨⟨zy,zy⟩,by rw[dl,if_pos hs];rfl⟩
  .rintro ⟨⟨k1,k2⟩,hs⟩
   refine⟨⟨x.toNat,zy,zy⟩,?_⟩
   rw[dl] at hs;split at hs
   .assumption
   .simp at hs
 have hv:F0.length<=500:=by have:=Pa N (Gm g S);rw[hh];omega
 refine arc ⟨50,[(2,.pv (gC g)),(5,.pt 80 0 0),(6,AA F0)],[(80,some ⟨1,[[.rs 72 0 N]],0⟩),(72,some ⟨1,AP (Bj g S 0),0⟩)],136⟩ ?_ ?_
 .simp
  refine C3 (TU 197 [.pv (gC g),.pv [AA S]] (Gm g S) g.size zy (λ ρ sn h n=>zz) (λ k _=>iH g S k hS zy)) ?_
  rw[<- hN,<- hh];simp[AC];exact Le.dn N 80 72 80 72 [120] rfl rfl zz zz zx zx zz rfl rfl (by simp[AC]) (by simp[AC,DX])
 refine AB ?_;apply ak [2,5,6,7] [80,72] 144
 .simp
  rfl
 refine AI (An (ι:=Nat × List Int) (λ p=>⟨50,[(2,.pv (gC g)),(5,.pt 80 0 0),(6,AA p.2),(7,.I p.1)],[(80,some ⟨1,[[.rs 72 0 N]],0⟩),(72,some ⟨1,AP (Bj g S p.1),0⟩)],144⟩) (λ p=>p.1<=64/\p.2.length<=500 /\ ∀ x,x∈p.2↔Dy g x/\dl g S p.1 x=p.1) (λ p=>64 - p.1) (0,F0) ⟨zz,hv,hu⟩ (Le.refl _ _) ?_)
 rintro⟨d,F⟩ ⟨hd,a6,h5⟩
 simp only at hd a6 h5 ⊢;refine AB (arc ⟨50,[(2,.pv (gC g)),(5,.pt 80 0 0),(6,AA F),(7,.I d),(22,.B (decide (0<F.length)))],[(80,some ⟨1,[[.rs 72 0 N]],0⟩),(72,some ⟨1,AP (Bj g S d),0⟩)],168⟩ ?_ ?_)
 .simp
  exact Le.keep rfl (Qf _) (by simp<;>rw[Qg]<;>simp) zz
 refine AE _ rfl (λ h=>AG ?_) λ h=>Ak (Al ?_)
 .simp only[Qa] at h
  have au:(d:Int)<g.size:=by
   have:=h5 F[0];have h1:=(this.1 (Qi _));exact Mk hg h1.1 h1.2
  refine EL (ι:=List Int) (λ F'=>⟨50,[(2,.pv (gC g)),(5,.pt 80 0 0),(6,AA F'),(7,.I d)],[(80,some ⟨1,[[.rs 72 0 N]],0⟩),(72,some ⟨1,AP (Bj g S (d+1)),0⟩)],144⟩) (λ F'=>F'.length<=500 /\ ∀ x,x∈F'↔Dy g x/\dl g S (d+1) x=(d+1:Nat)) ?_ ?_
  .refine AI ?_
   apply ak [2,5,6,7,8] [80,72] 176
   .simp
    rfl
   rw[<- Ph];refine AB (AB (AT ?_));refine AI ?_
   let C:Nat × List Int->St:=λ p=>⟨50,[(2,.pv (gC g)),(5,.pt 80 0 0),(7,.I d),(8,.rs 16 0 p.2.length),(25,AA F),(26,.I F.length),(27,.I p.1)],[(80,some ⟨1,[[.rs 72 0 N]],0⟩),(72,some ⟨1,AP (Bl g S d (F.take p.1)),0⟩),(16,some ⟨1,AP p.2,0⟩)],200⟩
   refine An C (λ p:Nat × List Int=>p.1<=F.length/\(∀ t,t∈p.2 ↔ ∃ x∈F.take p.1,t∈BJ g.edges x)/\p.2.length=g.edges.countP λ e=>decide (e.f∈F.take p.1)) (λ p:Nat × List Int=>F.length - p.1) (0,[]) ⟨Qk _,zz,zz⟩ ?_ ?_
   .refine Le.lst [(80,80),(72,72)] [] [(16,1)] rfl zz zz (by simp[C]) (by simp[C]) zz zz zz (by simp[C,Up]) λ p hp e' hj=>?_
    simp[C] at hp;rcases hp with rfl | rfl | rfl
    .cases hj
     exact .inl ⟨(80,80),zz,rfl,_,rfl,A7.eq zz zz⟩
    .cases hj
     exact .inl ⟨(72,72),zz,rfl,_,rfl,A7.eq (by simp[AC,Ph]) zz⟩
    .cases hj
     exact .inr ⟨zz,zz,rfl⟩
   rintro⟨i,X⟩ ⟨hi,h6,h7⟩
   simp only at hi h6 h7 ⊢;have av:X.length<=500:=by rw[h7];exact QR List.countP_le_length hq
   have hC:C (i,X)=⟨50,[(2,.pv (gC g)),(5,.pt 80 0 0),(7,.I d),(8,.rs 16 0 X.length),(25,AA F),(26,.I F.length),(27,.I i)],[(80,some ⟨1,[[.rs 72 0 N]],0⟩),(72,some ⟨1,AP (Bl g S d (F.take i)),0⟩),(16,some ⟨1,AP X,0⟩)],200⟩:=rfl;rw[hC];apply ak [2,5,7,8,25,26,27,28] [80,72,16] 208
   .simp
    rfl
   refine AB (AE _ rfl (λ h2=>AG ?_) λ h2=>Ak (Al ?_))
   .simp only[Qa] at h2
    have hx:=(h5 F[i]).1 (Qi h2);obtain⟨k,hk⟩:∃ k:Nat,F[i]=k:=⟨F[i].toNat,by have:=hx.1.1;omega⟩
    have hw:k<g.size.toNat:=by have:=hx.1.2;omega
    have hy:dl g S d k=d:=by rw[<- hk];exact hx.2
    have h8:=jN h2;rw[hk] at h8;refine EL (ι:=List Int) (λ X'=>⟨50,[(2,.pv (gC g)),(5,.pt 80 0 0),(7,.I d),(8,.rs 16 0 X'.length),(25,AA F),(26,.I F.length),(27,.I i)],[(80,some ⟨1,[[.rs 72 0 N]],0⟩),(72,some ⟨1,AP (Bl g S d (F.take (i+1))),0⟩),(16,some ⟨1,AP X',0⟩)],200⟩) (λ X'=>(∀ t,t∈X' ↔ ∃ x∈F.take (i+1),t∈BJ g.edges x)/\X'.length=g.edges.countP λ e=>decide (e.f∈F.take (i+1))) ?_ ?_
    .have hl:(Bl g S d (F.take i)).length=N:=by rw[Kq,hN]
     have hm:=uB (g:=g) (S:=S) (d:=d) (F:=F.take i) hw hy
     have h4:AP ((Bl g S d (F.take i)).set k d)=AP (Bl g S d (F.take (i+1))):=by
      rw[cP hw hy]
      congr 1
      exact XZ λ x=>(h8 x).symm
     have hn:(AP (Bl g S d (F.take i))).set k [AV.I d]=AP (Bl g S d (F.take (i+1))):=by
      rw[<- h4,AP,AP,UQ]
     clear h4
     have hc:(AP (Bl g S d (F.take i)))[k]? = some [AV.I (if (k:Int)∈F.take i then (d:Int) else -1)]:=by
      rw[QB,Qc zy,hm]
      rfl
     have b2:(AP (Bl g S d (F.take i))).length=N:=by simp[hl]
     generalize hO:AP (Bl g S d (F.take i))=O at *;refine AI ?_;apply ak [2,5,7,8,25,26,27,10] [80,72,16] 232
     .simp [h2,hk]
      rfl
     refine AB (arc ⟨50,[(2,.pv (gC g)),(5,.pt 80 0 0),(7,.I d),(8,.rs 16 0 X.length),(25,AA F),(26,.I F.length),(27,.I i),(10,.I k),(35,.B (decide ((k:Int)∈F.take i)))],[(80,some ⟨1,[[.rs 72 0 N]],0⟩),(72,some ⟨1,O,0⟩),(16,some ⟨1,AP X,0⟩)],272⟩ ?_ ?_)
     .simp [hc,show k<N by omega]
      refine Le.keep rfl (Qf _) ?_ zz
      by_cases a7:(k:Int)∈F.take i<;>simp[a7]
     refine AE _ rfl (λ h3=>Ak (Al ?_)) λ h3=>AG ?_
     .simp only[Qa] at h3
      have q:∀ x,x∈F.take (i+1)↔x∈F.take i:=by
       intro x;rw[h8 x];simp
       rintro rfl
       exact h3
      refine⟨X,⟨λ t=>?_,?_⟩,?_⟩
      .rw [h6]
       simp only[q]
      .rw [h7]
       simp only[q]
      .rw [XZ q,hO]
       refine Le.ents [(80,80),(72,72),(16,16)] [] rfl zz zz zz zz zz zz λ p hp=>?_
       simp at hp;rcases hp with rfl | rfl | rfl
       .exact ⟨80,_,_,rfl,zz,rfl,A7.eq zz zz⟩
       .exact ⟨72,_,_,rfl,zz,rfl,A7.eq (by rw[<- hO];simp[AC]) zz⟩
       .exact ⟨16,_,_,rfl,zz,rfl,A7.eq (by simp[AC]) zz⟩
     simp only[Qb] at h3;refine arc ⟨50,[(2,.pv (gC g)),(5,.pt 80 0 0),(7,.I d),(8,.rs 16 0 X.length),(25,AA F),(26,.I F.length),(27,.I i),(10,.I k)],[(80,some ⟨1,[[.rs 72 0 N]],0⟩),(72,some ⟨1,AP (Bl g S d (F.take (i+1))),0⟩),(16,some ⟨1,AP X,0⟩)],312⟩ ?_ ?_
     .simp [hc,show k<N by omega,Ae]
      exact Le.keep rfl (Qf _) zz (by simp;exact hn)
     have ha:=lT (l:=g.edges) h3;have b3:=Ot g.edges k;refine Ab rfl ?_;simp;refine Di (l7 g k zy) rfl ?_
     simp[AC]
     have a8:(λ e:Ed=>decide (e.f∈F.take (i+1)))=λ e:Ed=>decide (e.f∈F.take i++[(k:Int)]):=by
      funext e
      simp only[h8]
     refine⟨zy,zy,X++Gw (BJ g.edges k),⟨λ t=>?_,?_⟩,?_⟩
     .rw [Qm,jH,h6]
      simp only[h8,Qm,Qv];constructor
      .rintro (⟨x,hx,ht⟩ | ht)
       .exact ⟨x,.inl hx,ht⟩
       .exact ⟨k,.inr rfl,ht⟩
      .rintro ⟨x,hx | rfl,ht⟩
       .exact .inl ⟨x,hx,ht⟩
       .exact .inr ht
     .rw [Qe,Rw,h7,a8,ha]
     .have e1:List.take X.length (AP X)=AP X:=Qd zz
      have e2:List.take (BJ g.edges k).length (AP (Gw (BJ g.edges k)))=AP (Gw (BJ g.edges k)):=Qd (by rw[AP,Qs,Rw];exact Qf _)
      have e3:(X++Gw (BJ g.edges k)).length=X.length+(BJ g.edges k).length:=by rw[Qe,Rw]
      rw[e1,e3];refine Le.ents [(80,80),(72,72),(344,16)] [] rfl zz zz zz zz zz zz λ p hp=>?_
      simp at hp;rcases hp with rfl | rfl | rfl
      .exact ⟨80,_,_,rfl,zz,rfl,A7.eq zz zz⟩
      .exact ⟨72,_,_,rfl,zz,rfl,A7.eq (by simp[AC]) zz⟩
      .refine ⟨344,_,_,rfl,zz,rfl,A7.eq ?_ zz⟩
       have e4:AP X++List.take (BJ g.edges k).length (AP (Gw (BJ g.edges k)))=AP X++AP (Gw (BJ g.edges k)):=by rw[e2]
       have e5:(⟨1,AP X++List.take (BJ g.edges k).length (AP (Gw (BJ g.edges k))),0⟩:AD)=⟨1,AP X++AP (Gw (BJ g.edges k)),0⟩:=by rw[e4]
       refine(congrArg _ e5).trans ?_;simp[AC]
    rintro X' ⟨k1,k2⟩
    have a9:=wq (k:=i);refine Ab rfl ?_;simp[a9];refine⟨i+1,X',⟨zy,k1,k2⟩,zy,Le.ents [(80,80),(72,72),(16,16)] [] rfl zz zz (by simp[C]) zz (by simp[C]) (by simp[C]) λ p hp=>?_⟩
    simp[C] at hp;rcases hp with rfl | rfl | rfl
    .exact ⟨80,_,_,rfl,zz,rfl,A7.eq zz zz⟩
    .exact ⟨72,_,_,rfl,zz,rfl,A7.eq (by simp[AC]) zz⟩
    .exact ⟨16,_,_,rfl,zz,rfl,A7.eq (by simp[AC]) zz⟩
   simp only[Qb] at h2;obtain rfl:i=F.length:=zy
   rw[Qd (Qf _)] at h6 h7 ⊢;rw[vH d F h5];obtain⟨F',hb⟩:∃ F',F'=X.filter λ e=>!Dq (Bj g S (d+1)) e:=⟨_,rfl⟩;have b0:F'.length<=X.length:=by rw[hb];exact QV _ _
   have ho:=TC g S (d+1);have hf:=SS 200 [.pv [AA (Bj g S (d+1))]] (Dq (Bj g S (d+1))) X X.length F'.length rfl (by rw[hb]) zy (λ ρ sn h n=>zz) (λ e _=>vL (Bj g S (d+1)) e (by rw[ho];omega))
   rw[<- hb] at hf;have ag:List.take N (AP (Bj g S (d+1)))=AP (Bj g S (d+1)):=Qd (by rw[AP,Qs,ho];omega)
   have am:N<=(AP (Bj g S (d+1))).length:=by rw[AP,Qs,ho];omega
   have hz:=λ x=>sQ hg h5 h6 x;rw[<- hb] at hz;generalize hO:Bj g S (d+1)=O at *;refine Ab rfl ?_;simp
   refine bE (i:=16) [80,72] zz rfl (e':=⟨1,AP X,0⟩) (by simp[AC]) hf zz ?_ (.rs _ _ _) (by
    intro e he;simp at he;subst he
    exact jW) ?_
   .have a0:N<=O.length:=by simpa using am
    have a1:List.take N (List.map (λ x=>[AV.I x]) O)=List.map (λ x=>[AV.I x]) O:=ag;simp[AC,a0,a1]
   simp[AC];refine⟨F',⟨zy,hz⟩,?_⟩
   rw[Ph,hO];exact Le.dn N 80 72 80 72 [16] rfl rfl zz zz zx zx zz rfl rfl (by simp[AC]) (by simp[AC,DX])
  rintro F' ⟨k1,k2⟩
  have an:=wq (k:=d);refine Ab rfl ?_;simp[an];exact⟨d+1,F',⟨zy,k1,k2⟩,zy,Le.dn N 80 72 80 72 [] rfl rfl zz zz zx zx zz rfl rfl (by simp[AC]) zz⟩
 simp only[Qb] at h;have a2:F=[]:=Qx zy
 have u:∀ k,Dy g k->dl g S d k≠d:=by
  intro k hk he;have:=(h5 k).2 ⟨hk,he⟩;rw[a2] at this;simp at this
 have a3:Bj g S d=Du g S:=by
  unfold Bj Du;refine Ur λ i hi=>?_;simp at hi;have h9:Dy g i:=⟨zy,zy⟩
  rw[Yw hg u i h9];have hr:=FU (g:=g) (S:=S) d i;have:=u i h9;rw[Yw hg u i h9] at this hr;split<;>omega
 rw[a3];refine AB (AT ?_);refine Am ?_;rw[<- hN];exact⟨.inr rfl,AO.out [72] [] rfl zz zz zz (by simp[AC])⟩
variable {g:Gr} {S:List Int}
theorem Le.l1 {st st':St} {D:List Int} (i j:Nat) (sn:List Nat) (q:st'.sz=st.sz) (hh:st'.h=[(j,some ⟨1,AP D,0⟩)]) (hj:j<st'.n) (hs:∀ k∈sn,k≠i) (he:st.hp i=some ⟨1,AP D,0⟩) (ht:∀ p∈st'.t,Wk (conv [(i,j)] sn st.hp 4 (st.get p.1)) p.2):Le 0 st st' :=
 KL q hh hj hs he (by simp[AC]) zz ht
def Ef (c:Int->Int->Int):List Int->Int->List Int
 | [],x=>[x]
 | y::r,x=>if c x y<0 then y::Ef c r x else x::y::r
def F9 (c:Int->Int->Int) (M:List Int):List Int:=M.foldl (Ef c) []
def FC (c:Int->Int->Int) (M:List Int):List Int:=(F9 c M).reverse
theorem Ml (c:Int->Int->Int):∀ (r:List Int) (x:Int),(Ef c r x).Perm (x::r)
 | [],x=>.refl _
 | y::r,x=>by
   unfold Ef;split
   .exact ((Ml c r x).cons y).trans (.swap _ _ _)
   .exact .refl _
theorem Zr (c:Int->Int->Int) (M:List Int) (k:Nat) (h:k<M.length):F9 c (M.take (k+1))=Ef c (F9 c (M.take k)) M[k]:=by
 unfold F9;rw[<- U1 h,UV,UU];rfl
theorem Pt (c:Int->Int->Int) (M:List Int):(F9 c M).Perm M:=by
 have key:∀ (M acc:List Int),(M.foldl (Ef c) acc).Perm (M++acc):=by
  intro M
  induction M with
  | nil=>intro acc;exact .refl _
  | cons x M ih =>
    intro acc;refine(ih _).trans ?_;refine((Ml c acc x).append_left M).trans ?_;simp only[Uc];exact List.perm_middle
 simpa [F9] using key M []
theorem SB (c:Int->Int->Int) (M:List Int):(F9 c M).length=M.length:=(Pt c M).length_eq
theorem Z0 (c:Int->Int->Int) (x:Int):F9 c [x]=[x]:=rfl
theorem Le.np1 {st st':St} {D:List Int} (sn:List Nat) (q:st'.sz=st.sz) (hn:1<=st'.n) (hh:st'.h=[(0,some ⟨1,AP D,0⟩)]) (hs:∀ k∈sn,1<=k) (he:st.hp 0=some ⟨1,AP D,0⟩) (ht:∀ p∈st'.t,Wk (conv [(0,0)] sn st.hp 4 (st.get p.1)) p.2):Le 1 st st' :=
 Le.ents [(0,0)] sn q zz zz zw (λ k hk=>⟨hs k hk,by have:=hs k hk;simp;omega⟩) hn ht (λ p hp=>by
  rw[hh] at hp;simp at hp;subst hp
  exact⟨0,_,_,rfl,zz,he,A7.eq (by simp[AC]) zz⟩)
theorem Yl {H T:List Int} {y x:Int} {h:Nat} (hh:H.length=h):(AP (H++y::x::T))[h]? = some [AV.I y]/\(AP (H++y::x::T))[h+1]? = some [AV.I x]:=by
 subst hh;constructor
 .rw [QB,Qr zy]
  simp
 .rw [QB,Qr zy]
  simp
theorem uP {H T:List Int} {y x:Int} {h:Nat} (hh:H.length=h):((AP (H++y::x::T)).set (h+1) [AV.I y]).set h [AV.I x]=AP (H++x::y::T):=by
 subst hh;simp[AP,List.set_append]
theorem bY (f:FuncId) (aA:List AV) (c:Int->Int->Int) (A M B:List Int) (n a b:Nat) (hn:(A++M++B).length=n) (ha:A.length=a) (hb:a+M.length=b) (hl:n<=1000000) (hs:GF aA) (hc:∀ x∈M,∀ y∈M,AF f (AV.I x::AV.I y::aA) [] (.I (c x y)) []) :
  AF 245 [.rs 0 0 n,.I a,.I b,.fn (.func f) [] aA] [⟨1,AP (A++M++B),0⟩] (.tup []) [some ⟨1,AP (A++FC c M++B),0⟩]:=by
 have h7:∀ ρ sn h,aA.map (conv ρ sn h 2)=aA:=λ _ _ _=>hs _ _ _ 1
 have h8:∀ ρ sn h,aA.map (conv ρ sn h 3)=aA:=λ _ _ _=>hs _ _ _ 2
 have h3:∀ ρ sn h,aA.map (conv ρ sn h 4)=aA:=λ _ _ _=>hs _ _ _ 3
 refine bN.s.acalls (Ar rfl) (Ar rfl) (Ar rfl) ?_;show AY _ 1 _ _ ⟨53,[(0,.rs 0 0 n),(1,.I a),(2,.I b),(3,.fn (.func f) [] aA)],[(0,some ⟨1,AP (A++M++B),0⟩)],16⟩
 have a9:a+(M.length+B.length)=n:=by
  simp only[Qe] at hn;omega
 have ai:b<=n:=zy
 have hw:=wq (k:=a)
 let Lk:Nat->List Int:=λ k=>A++((F9 c (M.take k)).reverse++(M.drop k++B))
 have a0:A++M++B=Lk 1:=by
  cases M with
  | nil=>simp[Lk,F9]
  | cons m M=>simp[Lk,Z0]
 rw[a0];apply ak [0,1,2,3,8] [0] 40
 .simp [hw]
  rfl
 refine AI (An (ι:=Nat) (λ k=>⟨53,[(0,.rs 0 0 n),(1,.I a),(2,.I b),(3,.fn (.func f) [] aA),(8,.I (a+k:Nat))],[(0,some ⟨1,AP (Lk k),0⟩)],40⟩) (λ k=>1<=k/\k<=M.length+1/\(M.length<=k->AP (Lk k)=AP (A++FC c M++B))) (λ k=>M.length+1 - k) 1 ?_ (Le.refl _ _) ?_)
 .refine ⟨Qf _,zy,λ h=>?_⟩
  simp only[Lk];rw[Qd h,QI h];simp[FC]
 rintro k ⟨am,an,a1⟩
 refine AB (arc ⟨53,[(0,.rs 0 0 n),(1,.I a),(2,.I b),(3,.fn (.func f) [] aA),(8,.I (a+k:Nat)),(14,.B (decide (k<M.length)))],[(0,some ⟨1,AP (Lk k),0⟩)],64⟩ ?_ ?_)
 .simp
  exact Le.keep rfl (Qf _) (by simp<;>omega) zz
 refine AE _ rfl (λ h=>AG ?_) λ h=>Ak (Al ?_)
 .simp only[Qa] at h
  refine Bm ⟨53,[(0,.rs 0 0 n),(1,.I a),(2,.I b),(3,.fn (.func f) [] aA),(8,.I (a+k:Nat))],[(0,some ⟨1,AP (Lk (k+1)),0⟩)],64⟩ ?_ ?_
  .have hx:M[k]∈M:=Qi h
   have hd:M.drop k=M[k]::M.drop (k+1):=QO h;have hf:=Zr c M k h;generalize M[k]=x at *;obtain⟨D,hD⟩:=AJ (M.drop (k+1)++B);obtain⟨R,hR⟩:=AJ (F9 c (M.take k))
   have a2:∀ y∈R,y∈M:=λ y hy=>by
    rw[hR] at hy;exact QM ((Pt c _).mem_iff.1 hy)
   have hm:R.length=k:=by rw[hR,SB];simp;omega
   have aq:D.length+k+1=M.length+B.length:=by rw[hD];simp;omega
   have a3:Lk k=A++R.reverse++x::D:=by simp only[Lk];rw[hd,<- hR,hD];simp
   have ho:Lk (k+1)=A++(Ef c R x).reverse++D:=by simp only[Lk];rw[hf,<- hR,hD];simp
   rw[a3,ho];refine AI (arc ⟨53,[(0,.rs 0 0 n),(1,.I a),(2,.I b),(3,.fn (.func f) [] aA),(8,.I (a+k:Nat)),(9,.I (a+k:Nat))],[(0,some ⟨1,AP (A++R.reverse++x::D),0⟩)],80⟩ ?_ ?_)
   .simp
    exact A5
   refine AI ?_
   let C:List Int × List Int->St:=λ p=>⟨53,[(0,.rs 0 0 n),(1,.I a),(2,.I b),(3,.fn (.func f) [] aA),(8,.I (a+k:Nat)),(9,.I (a+p.2.length:Nat))],[(0,some ⟨1,AP (A++p.2.reverse++x::(p.1++D)),0⟩)],80⟩
   refine An C (λ p:List Int × List Int=>Ef c R x=p.1.reverse++Ef c p.2 x/\p.1.length+p.2.length=k /\ ∀ y∈p.2,y∈M) (λ p:List Int × List Int=>p.2.length) ([],R) ⟨rfl,by simpa using hm,a2⟩ ?_ ?_
   .simp only[C,hm,Uq]
    exact Le.refl _ _
   rintro⟨U,V⟩ ⟨u,h0,h1⟩
   simp only at u h0 h1
   match V,u,h0,h1 with
   | [],u,h0,h1 =>
     have hC:C (U,[])=⟨53,[(0,.rs 0 0 n),(1,.I a),(2,.I b),(3,.fn (.func f) [] aA),(8,.I (a+k:Nat)),(9,.I a)],[(0,some ⟨1,AP (A++x::(U++D)),0⟩)],80⟩:=by simp[C]
     rw[hC];refine AB (Bi ⟨53,[(0,.rs 0 0 n),(1,.I a),(2,.I b),(3,.fn (.func f) [] aA),(8,.I (a+k:Nat)),(34,.B false)],[(0,some ⟨1,AP (A++x::(U++D)),0⟩)],216⟩ ?_ ?_)
     .simp
      exact⟨rfl,A5⟩
     refine AE _ rfl (λ h=>by cases h) λ h=>Ak (Al ?_)
     have e:A++x::(U++D)=A++(Ef c R x).reverse++D:=by rw[u];simp[Ef]
     rw[<- e];exact Le.np1 [] rfl zz rfl zz rfl (by simp[h7,h8,h3])
   | y::V',u,h0,h1 =>
     obtain⟨H,hH⟩:=AJ (A++V'.reverse);obtain⟨T,hT⟩:=AJ (U++D);obtain⟨q,hq⟩:=AJ (a+V'.length);obtain⟨j,hj⟩:=AJ (q+1);have h4:H.length=q:=by rw[hH,hq];simp;omega
     have hr:(H++y::x::T).length=n:=by
      have e:(H++y::x::T).length=H.length+(T.length+2):=zz
      rw[e,h4,hT,Qe];simp at h0;omega
     have hg:=(Yl (T:=T) (y:=y) (x:=x) h4).1;have hh:=(Yl (T:=T) (y:=y) (x:=x) h4).2;have h6:=uP (T:=T) (y:=y) (x:=x) h4;rw[<- hj] at hh h6
     have hC:C (U,y::V')=⟨53,[(0,.rs 0 0 n),(1,.I a),(2,.I b),(3,.fn (.func f) [] aA),(8,.I (a+k:Nat)),(9,.I j)],[(0,some ⟨1,AP (H++y::x::T),0⟩)],80⟩:=by
      simp[C,hH,hT,hj,hq,Uy]
     rw[hC];have a4:=hc x hx y (h1 y Qo);have ht:j<n:=by rw[<- hr,hj,<- h4];simp
     have hi:IntKind.i64.wrap ((j:Int) - 1)=(q:Int):=by rw[w6];omega
     have hu:q<n:=zy
     have a5:a<j:=zy
     have ag:(AP (H++y::x::T)).length=n:=by rw[AP,Qs,hr]
     generalize hX:AP (H++y::x::T)=X at *;have hk:∀ ρ sn h m,X.map (List.map (conv ρ sn h (m+1)))=X:=λ ρ sn h m=>by rw[<- hX];simp[AC]
     refine AB ?_;apply al [0,1,2,3,8,9,34] [0] 216
     .simp [a5,ht,hu,hg,hh,hi]
      refine Ah a4 ?_ ?_
      .simp [h3]
      simp;exact⟨rfl,rfl⟩
     refine AE _ rfl (λ h5=>AG ?_) λ h5=>Ak (Al ?_)
     .simp only[Qa] at h5
      have a6:(X.set j [AV.I y])[q]? = some [AV.I y]:=by
       rw[UE,if_neg zy]
       exact hg
      generalize hY:AP (H++x::y::T)=Y at h6;refine Bm ⟨53,[(0,.rs 0 0 n),(1,.I a),(2,.I b),(3,.fn (.func f) [] aA),(8,.I (a+k:Nat)),(9,.I j)],[(0,some ⟨1,Y,0⟩)],360⟩ ?_ ?_
      .refine AI (Cx rfl ?_)
       simp[ht,hu,hg,hh,a6,hi,Ae];exact⟨rfl,Le.keep rfl (Qf _) zz (by simp;exact h6)⟩
      refine Ab rfl ?_;simp[hi];refine⟨y::U,V',⟨?_,?_,?_⟩,?_,?_⟩
      .rw [u,Ef,if_pos h5];simp
      .simp at h0 ⊢;omega
      .exact λ z hz=>h1 z (Qj _ hz)
      .simp
      .have a7:C (y::U,V')=⟨53,[(0,.rs 0 0 n),(1,.I a),(2,.I b),(3,.fn (.func f) [] aA),(8,.I (a+k:Nat)),(9,.I q)],[(0,some ⟨1,Y,0⟩)],80⟩:=by rw[<- hY];simp[C,hH,hT,hq]
       rw[a7];have h9:∀ ρ sn h m,Y.map (List.map (conv ρ sn h (m+1)))=Y:=λ ρ sn h m=>by rw[<- hY];simp[AC]
       exact Le.ents [(0,0)] [] rfl zz zz zz zz zz (by simp[h7,h8,h3]) λ p hp=>by
        simp at hp;subst hp;exact⟨0,_,_,rfl,zz,rfl,A7.eq (by simp only[AX,h9]) zz⟩
     .simp only[Qb] at h5
      have e:H++y::x::T=A++(Ef c R x).reverse++D:=by rw[u,Ef,if_neg h5,hH,hT];simp
      rw[<- e,hX]
      exact Le.ents [(0,0)] [] rfl zz zz zz zz zz (by simp[h7,h8,h3]) λ p hp=>by
       simp at hp;subst hp;exact⟨0,_,_,rfl,zz,rfl,A7.eq (by simp only[AX,hk]) zz⟩
  have a8:IntKind.i64.wrap (((a+k:Nat):Int)+1)=((a+(k+1):Nat):Int):=by rw[w6];omega
  refine Ab rfl ?_;have hv:IntKind.i64.wrap ((a:Int)+(k:Int)+1)=((a+(k+1):Nat):Int):=by rw[<- a8];congr 1
  simp[hv];refine⟨k+1,⟨zy,zy,λ h2=>?_⟩,zy,?_⟩
  .have he:M.length=k+1:=zy
   simp only[Lk];rw[Qd zy,QI zy]
   simp[FC]
  .exact Le.np1 [] rfl zz rfl zz rfl (by simp[h7,h8,h3])
 simp only[Qb] at h;rw[a1 zy]
 exact⟨.inl rfl,⟨[],rfl,[],[],by simp[List.range,List.range.loop],zz,zz,zz,by simp[List.range,List.range.loop,AC]⟩⟩
theorem rO (f:FuncId) (aA:List AV) (c:Int->Int->Int) (l:List Int) (n:Nat) (hn:l.length=n) (hl:n<20) (hs:GF aA) (hc:∀ x∈l,∀ y∈l,AF f (AV.I x::AV.I y::aA) [] (.I (c x y)) []) :
  AF 201 [.rs 0 0 n,.I n,.fn (.func f) [] aA] [⟨1,AP l,0⟩] (.tup []) [some ⟨1,AP (FC c l),0⟩]:=by
 have h0:∀ ρ sn h,aA.map (conv ρ sn h 2)=aA:=λ _ _ _=>hs _ _ _ 1
 have u:∀ ρ sn h,aA.map (conv ρ sn h 3)=aA:=λ _ _ _=>hs _ _ _ 2
 have h1:∀ ρ sn h,aA.map (conv ρ sn h 4)=aA:=λ _ _ _=>hs _ _ _ 3
 refine oG.s.ai ?_;have q:=bY f aA c [] l [] n 0 n (by simpa using hn) rfl (by simpa using hn) zy hs hc
 simp only[Uq,QU] at q;refine AB (AT ?_);apply ak [0,1,2,6,7,8] [0] 48
 .simp
  rfl
 refine AB (AI (An (ι:=Unit) (λ _=>⟨63,[(0,.rs 0 0 n),(1,.I n),(2,.fn (.func f) [] aA),(6,.I 20),(7,.I 0),(8,.I 20)],[(0,some ⟨1,AP l,0⟩)],48⟩) (λ _=>True) (λ _=>0) () trivial (Le.refl _ _) ?_));intro _ _;refine AB (arc ⟨63,[(0,.rs 0 0 n),(1,.I n),(2,.fn (.func f) [] aA),(6,.I 20),(7,.I 0),(8,.I 20),(13,.B false)],[(0,some ⟨1,AP l,0⟩)],72⟩ ?_ ?_)
 .simp
  exact Le.keep rfl (Qf _) zw zz
 refine AE _ rfl (λ h=>by cases h) λ _=>Ak (Al ?_)
 apply ak [1,6] [0] 112
 .simp
  refine BZ (i:=0) rfl (e':=⟨1,AP l,0⟩) (by simp[AC]) q zz ?_ ?_
  .simp [u]
  simp[AC];rfl
 refine AI (An (ι:=Unit) (λ _=>⟨63,[(1,.I n),(6,.I 20)],[(0,some ⟨1,AP (FC c l),0⟩)],112⟩) (λ _=>True) (λ _=>0) () trivial (Le.refl _ _) ?_);intro _ _;refine AB (arc ⟨63,[(1,.I n),(6,.I 20),(30,.B false)],[(0,some ⟨1,AP (FC c l),0⟩)],136⟩ ?_ ?_)
 .simp
  exact Le.keep rfl (Qf _) zw zz
 refine AE _ rfl (λ h=>by cases h) λ _=>Ak (Al ?_)
 exact⟨.inl rfl,⟨[],rfl,[],[],by simp[List.range,List.range.loop],zz,zz,zz,by simp[List.range,List.range.loop,AC]⟩⟩
theorem vP (f:FuncId) (aA:List AV) (c:Int->Int->Int) (l:List Int) (n:Nat) (hn:l.length=n) (hl:n<20) (hs:GF aA) (hc:∀ x∈l,∀ y∈l,AF f (AV.I x::AV.I y::aA) [] (.I (c x y)) []) :
  AF 153 [.rs 0 0 n,.fn (.func f) [] aA] [⟨1,AP l,0⟩] (.tup []) [some ⟨1,AP (FC c l),0⟩]:=by
 have q:∀ ρ sn h,aA.map (conv ρ sn h 2)=aA:=λ _ _ _=>hs _ _ _ 1
 have u:∀ ρ sn h,aA.map (conv ρ sn h 3)=aA:=λ _ _ _=>hs _ _ _ 2
 have h0:∀ ρ sn h,aA.map (conv ρ sn h 4)=aA:=λ _ _ _=>hs _ _ _ 3
 refine uK.s.ai ?_;refine Ay (s:=?s1) rfl ?o1 ?q1
 case o1 =>
  simp;refine BZ (i:=0) rfl (e':=⟨1,AP l,0⟩) (by simp[AC]) (rO f aA c l n hn hl hs hc) zz ?_ ?_
  .simp [q,u,h0]
  simp[AC];rfl
 exact⟨.inl rfl,⟨[],rfl,[],[],by simp[List.range,List.range.loop],zz,zz,zz,by simp[List.range,List.range.loop,AC]⟩⟩
theorem uC (D:List Int) (k:Nat) (hk:k<D.length):AF 152 [.I k,.pv [AA D]] [] (.B (decide (0<=D.getD k 0))) []:=by
 refine dU.s.ai ?_;refine AB (AT ?_);refine AB (Ay (s:=?s1) rfl ?o1 ?q1)
 case o1=>simp[hk];rfl
 exact BR (AO.one (by simp[hk]))
theorem gM (D:List Int) (a b:Nat) (ha:a<D.length) (hb:b<D.length):AF 154 [.I a,.I b,.pv [AA D]] [] (.I (BH (D.getD a 0) (D.getD b 0))) []:=by
 refine bO.s.ai ?_;refine AB (AT ?_);refine AB (Hd (s:=?s1) (tr:=?t1) rfl ?o1 ?r1 ?q1)
 case o1=>simp[ha,hb];refine Ah (HH ..) rfl ?_;simp;constructor<;>rfl
 case r1=>rfl
 exact BR (AO.one (by simp[ha,hb]))
variable {g:Gr} {S:List Int}
theorem oN {k:Nat} (hk:k<g.size.toNat):(Du g S).getD k 0=A4 g S k:=by simp[Du,List.getD,hk]
theorem YG:(Du g S).length=g.size.toNat:=by simp[Du]
def Lt (g:Gr) (S:List Int) (a b:Int):Prop:=A4 g S a<A4 g S b∨A4 g S a=A4 g S b/\a<b
def cD (g:Gr) (S:List Int) (a b:Int):Int:=BH (A4 g S a) (A4 g S b)
def FL (g:Gr) (S:List Int):Nat->List Int
 | 0=>[]
 | m+1=>FL g S m++DF g.size.toNat λ k=>decide (A4 g S k=m)
def Ag (g:Gr) (S:List Int):List Int:=FL g S g.size.toNat
theorem I1 {n:Nat} {q:Int->Bool} {x:Int}:x∈DF n q↔(0<=x/\x<n)/\q x=true:=by
 unfold DF;simp only[QF,Ql,Q1];constructor
 .rintro ⟨⟨i,hi,rfl⟩,h⟩
  exact⟨⟨zy,zy⟩,h⟩
 .rintro ⟨⟨h1,h2⟩,h⟩
  exact⟨⟨x.toNat,zy,zy⟩,h⟩
theorem TZ (n:Nat) (q:Int->Bool):(DF n q).Pairwise (· < ·):=by
 unfold DF;refine List.Pairwise.filter _ ?_;rw[UM];exact List.pairwise_lt_range.imp λ h=>zy
theorem LF {m:Nat} {x:Int}:x∈FL g S m↔(0<=x/\x<g.size.toNat)/\0<=A4 g S x/\A4 g S x<m:=by
 induction m with
 | zero=>simp[FL]<;>omega
 | succ m ih =>
   rw[FL,Qm,ih,I1];simp only[Qa];constructor
   .rintro (⟨h1,h2,h3⟩ | ⟨h1,h2⟩)
    .exact ⟨h1,h2,zy⟩
    .exact ⟨h1,zy,zy⟩
   .rintro ⟨h1,h2,h3⟩
    by_cases h4:A4 g S x=m
    .exact .inr ⟨h1,h4⟩
    .exact .inl ⟨h1,h2,zy⟩
theorem Ss (m:Nat):(FL g S m).Pairwise (Lt g S):=by
 induction m with
 | zero=>exact .nil
 | succ m ih =>
   rw[FL,List.pairwise_append];refine⟨ih,?_,λ a ha b hb=>?_⟩
   .refine (TZ _ _).imp_of_mem λ {a b} ha hb q=>?_
    have h1:=(I1.1 ha).2;have h2:=(I1.1 hb).2;simp at h1 h2;exact .inr ⟨zy,q⟩
   .have h1:=LF.1 ha
    have h2:=(I1.1 hb).2;simp at h2;exact .inl zy
theorem Xs {a b:Int}:cD g S a b<0↔A4 g S a<A4 g S b:=by
 simp only[cD,BH]
 grind
theorem ZI:∀ (r:List Int) (x:Int),r.Pairwise (λ a b=>Lt g S b a)->(∀ y∈r,y<x)->(Ef (cD g S) r x).Pairwise λ a b=>Lt g S b a
 | [],x,_,_=>by simp[Ef]
 | y::r,x,hp,hx=>by
   unfold Ef;rw[Q7] at hp;split
   .rename_i h
    rw[Xs] at h;rw[Q7];refine⟨λ z hz=>?_,ZI r x hp.2 λ z hz=>hx z (Qj _ hz)⟩;have:=(Ml (cD g S) r x).mem_iff.1 hz;rcases Qu.1 this with rfl | hz
    .exact .inl h
    .exact hp.1 z hz
   .rename_i h
    rw[Xs] at h;rw[Q7,Q7];have q:=hx y Qo;refine⟨λ z hz=>?_,hp.1,hp.2⟩;rcases Qu.1 hz with rfl | hz
    .unfold Lt;omega
    .have h1:=hp.1 z hz
     have h2:=hx z (Qj _ hz);unfold Lt at *;omega
theorem iA {l:List Int} (h:l.Pairwise (· < ·)):(FC (cD g S) l).Pairwise (Lt g S):=by
 have key:∀ (l acc:List Int),l.Pairwise (· < ·)->acc.Pairwise (λ a b=>Lt g S b a)->(∀ y∈acc,∀ x∈l,y<x)->(l.foldl (Ef (cD g S)) acc).Pairwise λ a b=>Lt g S b a:=by
  intro l
  induction l with
  | nil=>intro acc _ h _;exact h
  | cons x l ih =>
    intro acc hl q u;rw[Q7] at hl;refine ih _ hl.2 (ZI acc x q λ y hy=>u y hy x Qo) λ y hy z hz=>?_;have:=(Ml (cD g S) acc x).mem_iff.1 hy;rcases Qu.1 this with rfl | hy
    .exact hl.1 z hz
    .exact u y hy z (Qj _ hz)
 unfold FC F9;rw[List.pairwise_reverse];exact key l [] h .nil zz
theorem Xu {R:Int->Int->Prop} (hR:∀ a b,R a b->¬ R b a):∀ {l1 l2:List Int},l1.Pairwise R->l2.Pairwise R->(∀ x,x∈l1↔x∈l2)->l1=l2
 | [],[],_,_,_=>rfl
 | [],b::l2,_,_,h=>absurd ((h b).2 Qo) zz
 | a::l1,[],_,_,h=>absurd ((h a).1 Qo) zz
 | a::l1,b::l2,h1,h2,h=>by
   rw[Q7] at h1 h2
   have u:a=b:=by
    rcases Qu.1 ((h a).1 Qo) with e | ha
    .exact e
    .rcases Qu.1 ((h b).2 Qo) with e | hb
     .exact e.symm
     .exact absurd (h1.1 b hb) (hR _ _ (h2.1 a ha))
   subst u
   congr 1
   refine Xu hR h1.2 h2.2 λ x=>?_;constructor
   .intro hx
    rcases Qu.1 ((h x).1 (Qj _ hx)) with rfl | hx2
    .exact absurd (h1.1 x hx) (λ q=>hR _ _ q q)
    .exact hx2
   .intro hx
    rcases Qu.1 ((h x).2 (Qj _ hx)) with rfl | hx2
    .exact absurd (h2.1 x hx) (λ q=>hR _ _ q q)
    .exact hx2
theorem gG (hg:AH g):FC (cD g S) (DF g.size.toNat λ k=>decide (0<=A4 g S k))=Ag g S:=by
 refine Xu (R:=Lt g S) (λ a b h1 h2=>by unfold Lt at *;omega) (iA (TZ _ _)) (Ss _) λ x=>?_
 have hp:x∈FC (cD g S) (DF g.size.toNat λ k=>decide (0<=A4 g S k))↔x∈DF g.size.toNat λ k=>decide (0<=A4 g S k):=by
  unfold FC;rw[Va];exact(Pt _ _).mem_iff
 rw[hp,I1];have hm:=LF (g:=g) (S:=S) (m:=g.size.toNat) (x:=x);unfold Ag;rw[hm];simp only[Qa];constructor
 .rintro ⟨h1,h2⟩
  refine⟨h1,h2,?_⟩;rcases Sb hg (S:=S) (k:=x) ⟨h1.1,zy⟩ with h | h<;>omega
 .rintro ⟨h1,h2,_⟩
  exact⟨h1,h2⟩
section
variable {P:Program} {np id:Nat} {h:Nat->Option AD} {K:AV->List Nat->List (Nat × Option AD)->Prop} {f:FuncId} {first aA args aC:List AV} {res:AV}
theorem K0 (sn:List Nat) {e:AD} (hc:CF P f aC [] res [some e]) (he:(first++args++aA).map (conv [] sn h 4)=aC) (hp:Plain res) (u:GB e) (hk:K (conv (Cb [] id) [] (λ _=>none) 4 res) sn [(id,some (AX (Cb [] id) [] (λ _=>none) 4 e))]):aK P np id .call (.fn (.func f) first aA::args) h K :=
 ⟨[],sn,false,aC,[],res,[some e],zz,zz,zz,by rw[UO,he];exact FT _,rfl,hc,zz,.inr ⟨hp,λ e' q=>by simp at q;subst q;exact u⟩,by simpa [Cb] using hk⟩
end
theorem WI {l:List Int}:GB ⟨1,AP l,0⟩:=by
 intro row q x hx;simp only[Ql] at q;obtain⟨y,_,rfl⟩:=q;simp at hx;subst hx;exact .sc _
variable {g:Gr} {S:List Int}
theorem vG (hg:AH g) (hN:g.size<20∨(Ag g S).length<20) (hS:S.length<=1099511627776):AF 101 [eG g,AA S] [] (.rs 0 0 (Ag g S).length) [some ⟨1,AP (Ag g S),0⟩]:=by
 refine tR.s.ai ?_;have he:=hg.1.1;have hc:=hg.1.2.1;obtain⟨N,h8⟩:∃ N:Nat,N=g.size.toNat:=⟨_,rfl⟩;have q:=Si g S hg hS;have u:(Du g S).length=N:=by rw[YG,h8]
 have h4:∀ k:Nat,k<N->(Du g S).getD k 0=A4 g S k:=λ k hk=>oN zy
 rw[<- h8] at q;obtain⟨D,hD⟩:=AJ (Du g S);rw[<- hD] at q u h4;obtain⟨W,hW⟩:=AJ (DF N λ k=>decide (0<=A4 g S k));have hf:W.length<=N:=by rw[hW];exact Pa _ _
 have h5:∀ x∈W,0<=x/\x<N:=λ x hx=>by rw[hW] at hx;exact(I1.1 hx).1
 have h6:AF 107 [.I N,.fn (.func 152) [] [.pv [AA D]]] [] (.rs 0 0 W.length) [some ⟨1,AP W,0⟩]:=by
  have:=TU 152 [.pv [AA D]] (λ k=>decide (0<=A4 g S k)) N zy (λ ρ sn h n=>zz) (λ k hk=>by
   have h1:=uC D k zy
   rw[h4 k zy] at h1
   exact h1)
  simpa [<- hW] using this
 have h7:FC (cD g S) W=Ag g S:=by rw[hW,h8];exact gG hg
 have h9:(Ag g S).length=W.length:=by
  rw[<- h7];unfold FC;rw[UT,SB]
 have hd:W.length<20:=by
  rcases hN with hN | hN
  .omega
  .omega
 have h0:=vP 154 [.pv [AA D]] (cD g S) W W.length rfl zy (λ ρ sn h n=>zz) (λ x hx y hy=>by
  obtain⟨a,ha⟩:∃ a:Nat,x=a:=⟨x.toNat,by have:=h5 x hx;omega⟩
  obtain⟨b,hb⟩:∃ b:Nat,y=b:=⟨y.toNat,by have:=h5 y hy;omega⟩
  have h1:=h5 x hx;have h2:=h5 y hy;subst ha hb;have h3:=gM D a b zy zy
  rw[h4 a zy,h4 b zy] at h3
  exact h3)
 rw[h7] at h0;have hh:List.take N (AP D)=AP D:=Qd (by simp[u])
 have hi:(AP D).length=N:=by simp[u]
 refine ar [1,2] [] [16] 32 ?_;refine arc ⟨18,[(5,.pv [AA D])],[],72⟩ ?_ ?_
 .simp
  refine Di q rfl ?_;simp[AC];exact AZ [48,56] (by simp[AC,<- u,DX])
 refine arc ⟨18,[(5,.pv [AA D]),(6,.rs 96 0 W.length)],[(96,some ⟨1,AP W,0⟩)],112⟩ ?_ ?_
 .simp [u]
  refine C3 h6 ?_;simp[AC];exact A5
 rw[h9];refine arc ⟨18,[(6,.rs 96 0 W.length)],[(96,some ⟨1,AP (Ag g S),0⟩)],136⟩ ?_ ?_
 .simp
  refine BZ (i:=96) rfl (e':=⟨1,AP W,0⟩) (by simp[AC]) h0 zz zz ?_
  simp[AC];exact A5
 refine AB (AT ?_);exact B3 [96] []
variable {A:List Ed}
def CO (A:List Ed):Int->List Nat->Int->Prop
 | u,[],w=>u=w
 | u,i::l,w=>i<A.length/\(AQ A i).f=u/\CO A (AQ A i).t l w
theorem CO.snoc {A:List Ed}:∀ {l:List Nat} {u w:Int} {i:Nat},CO A u l w->i<A.length->(AQ A i).f=w->CO A u (l++[i]) (AQ A i).t
 | [],u,w,i,h,h1,h2=>⟨h1,by rw[h2];exact(show u=w from h).symm,rfl⟩
 | j::l,u,w,i,h,h1,h2=>⟨h.1,h.2.1,CO.snoc h.2.2 h1 h2⟩
def B7 (A:List Ed) (l:List Nat):List Int:=l.map λ i=>(AQ A i).t
theorem mU (A:List Ed) (l:List Nat) (i:Nat):B7 A (l++[i])=B7 A l++[(AQ A i).t]:=by simp[B7]
theorem CO.take {A:List Ed}:∀ {l:List Nat} {u w:Int} (n:Nat),CO A u l w -> ∀ x,(u::B7 A l)[n]? = some x->CO A u (l.take n) x
 | l,u,w,0,_,x,hx=>by
   have:u=x:=by simpa using hx
   exact this
 | [],u,w,n+1,_,x,hx=>by simp[B7] at hx
 | i::l,u,w,n+1,h,x,hx=>by
   refine⟨h.1,h.2.1,CO.take n h.2.2 x ?_⟩
   simpa [B7] using hx
theorem jC (l:List Nat) (n i:Nat):(l.take n).count i<=l.count i:=(List.take_sublist n l).count_le i
structure Gb (A:List Ed) (f g:List Int) (l:List Nat) (w:Int):Prop where
 len:g.length=A.length
 nonneg:∀ i,0<=g.getD i 0
 way:CO A 0 l w
 met:((0:Int)::B7 A l).Nodup
 used:∀ i,g.getD i 0+(l.count i:Int)<=f.getD i 0
 ex:∀ x,Cl A g x=Cl A f x - (if x=0 then 1 else 0)+if x=w then 1 else 0
theorem Gb.start {f:List Int} (hl:f.length=A.length) (h0:∀ i,0<=f.getD i 0):Gb A f f [] 0 :=
 ⟨hl,h0,rfl,by simp[B7],λ i=>zz,λ x=>by split<;>omega⟩
theorem TM (f:List Int) (i j:Nat) (v:Int) (h:i<f.length):(f.set i v).getD j 0=if i=j then v else f.getD j 0:=by
 by_cases hj:i=j
 .subst hj
  rw[if_pos rfl,Qn,List.getElem?_set_self h,QZ]
 .rw [if_neg hj,Qn,List.getElem?_set_ne hj,Qn]
theorem Gb.more {f g:List Int} {l:List Nat} {w:Int} (h:Gb A f g l w) {k:Nat} (hk:k<A.length) (hf:(AQ A k).f=w) (hg:0<g.getD k 0) :
  ((AQ A k).t∉((0:Int)::B7 A l)->Gb A f (g.set k (g.getD k 0 - 1)) (l++[k]) (AQ A k).t) /\
  ∀ n,((0:Int)::B7 A l)[n]? = some (AQ A k).t->Gb A f (g.set k (g.getD k 0 - 1)) (l.take n) (AQ A k).t:=by
 have q:k<g.length:=by rw[h.len];exact hk
 have u:∀ i,0<=(g.set k (g.getD k 0 - 1)).getD i 0:=λ i=>by
  rw[TM g k i _ q];split
  .omega
  .exact h.nonneg i
 have h0:∀ x,Cl A (g.set k (g.getD k 0 - 1)) x=Cl A f x - (if x=0 then 1 else 0)+if x=(AQ A k).t then 1 else 0:=λ x=>by
  have h1:=Wx (A:=A) (f:=g) (δ:=-1) (s:=(k,false)) hk h.len x;have h2:FR (-1) g (k,false)=g.set k (g.getD k 0 - 1):=rfl;have h3:C7 A (k,false)=w:=hf;have h4:BA A (k,false)=(AQ A k).t:=rfl;rw[h2,h3,h4,h.ex x] at h1;rw[h1]
  have e1:(if w=x then (-1:Int) else 0) = - if x=w then 1 else 0:=by
   by_cases hh:w=x
   .rw [if_pos hh,if_pos hh.symm]
   .rw [if_neg hh,if_neg λ e=>hh e.symm,Int.neg_zero]
  have e2:(if (AQ A k).t=x then (-1:Int) else 0) = - if x=(AQ A k).t then 1 else 0:=by
   by_cases hh:(AQ A k).t=x
   .rw [if_pos hh,if_pos hh.symm]
   .rw [if_neg hh,if_neg λ e=>hh e.symm,Int.neg_zero]
  rw[e1,e2];omega
 have h5:∀ i,(g.set k (g.getD k 0 - 1)).getD i 0+((l++[k]).count i:Int)<=f.getD i 0:=λ i=>by
  have h1:=h.used i;rw[TM g k i _ q,Vd]
  by_cases hi:k=i
  .subst hi
   rw[if_pos rfl,show List.count k [k]=1 by simp]
   omega
  .rw [if_neg hi,show List.count i [k]=0 from List.count_eq_zero.2 (by simpa using λ e=>hi e.symm)]
   omega
 refine⟨λ hm=>⟨by rw[UG];exact h.len,u,h.way.snoc hk hf,?_,h5,h0⟩,λ n hn=>⟨by rw[UG];exact h.len,u,h.way.take n _ hn,?_,λ i=>?_,h0⟩⟩
 .rw [mU,<- Uc,Uf]
  exact⟨h.met,zz,λ a ha b hb=>by rw[Qv] at hb;subst hb;rintro rfl;exact hm ha⟩
 .have hs:((0:Int)::B7 A (l.take n)).Sublist ((0:Int)::B7 A l):=((List.take_sublist n l).map _).cons_cons 0
  exact h.met.sublist hs
 .have h1:=h5 i
  have h2:(l.take n).count i<=(l++[k]).count i:=QR (jC l n i) (by rw[Vd];omega)
  omega
variable {k:Int} {ks:List Int} {l:List Nat}
structure HM (A:List Ed) (E:Int->Int->Prop) (seeds aB:List Int) (c:Int->Int):Prop where
 kind:∀ i,i<A.length->(∃ x,x∈seeds/\0<=x/\AQ A i=⟨0,2+2*x,c x⟩)∨(∃ x,0<=x/\AQ A i=⟨2+2*x,3+2*x,c x - 1⟩)∨(∃ x,x∈aB/\0<=x/\AQ A i=⟨2+2*x,1,1⟩)∨(∃ x y,0<=x/\0<=y/\E x y/\AQ A i=⟨3+2*x,2+2*y,64⟩)
 uniq:∀ i j,i<A.length->j<A.length->(AQ A i).f=(AQ A j).f->(AQ A i).t=(AQ A j).t->i=j
inductive FI (A:List Ed) (E:Int->Int->Prop) (aB:List Int) (c:Int->Int):Int->List Nat->List Int->Prop
 | last (k:Int) (i:Nat):i<A.length->AQ A i=⟨2+2*k,1,1⟩->k∈aB->FI A E aB c k [i] []
 | more (k y:Int) (i j:Nat) (l:List Nat) (ks:List Int):i<A.length->AQ A i=⟨2+2*k,3+2*k,c k - 1⟩->AQ A j=⟨3+2*k,2+2*y,64⟩->E k y->0<=y->FI A E aB c y l ks->FI A E aB c k (i::j::l) (y::ks)
variable {A:List Ed} {E:Int->Int->Prop} {seeds aB:List Int} {c:Int->Int}
theorem HM.sinkless (h:HM A E seeds aB c) {i:Nat} (hi:i<A.length):(AQ A i).f≠1:=by
 rcases h.kind i hi with ⟨x,_,hx,e⟩ | ⟨x,hx,e⟩ | ⟨x,_,hx,e⟩ | ⟨x,y,hx,hy,_,e⟩<;>rw[e]<;>simp only<;>omega
theorem HM.path (h:HM A E seeds aB c):∀ (n:Nat) (l:List Nat) (k:Int),l.length<=n->0<=k->CO A (2+2*k) l 1 -> ∃ ks,FI A E aB c k l ks
 | _,[],k,_,hk,hw=>by
   have:2+2*k=1:=hw;omega
 | n,[i],k,_,hk,hw=>by
   obtain⟨h1,h2,h3⟩:=hw;have q:(AQ A i).t=1:=h3;rcases h.kind i h1 with ⟨x,_,hx,e⟩ | ⟨x,hx,e⟩ | ⟨x,hs,hx,e⟩ | ⟨x,y,hx,hy,_,e⟩<;>rw[e] at h2 q<;>simp only at h2 q
   .omega
   .omega
   .have:x=k:=zy
    subst this;exact⟨[],.last _ i h1 e hs⟩
   .omega
 | 0,_::_::_,_,hn,_,_=>by simp at hn
 | n+1,i::j::l,k,hn,hk,hw=>by
   obtain⟨h1,h2,h4,h5,h6⟩:=hw;rcases h.kind i h1 with ⟨x,_,hx,e⟩ | ⟨x,hx,e⟩ | ⟨x,hs,hx,e⟩ | ⟨x,y,hx,hy,_,e⟩
   .rw [e] at h2;simp only at h2;omega
   .rw [e] at h2 h5
    simp only at h2 h5;have:x=k:=zy
    subst this;rcases h.kind j h4 with ⟨z,_,hz,e'⟩ | ⟨z,hz,e'⟩ | ⟨z,hs,hz,e'⟩ | ⟨z,y,hz,hy,hE,e'⟩
    .rw [e'] at h5;simp only at h5;omega
    .rw [e'] at h5;simp only at h5;omega
    .rw [e'] at h5;simp only at h5;omega
    .rw [e'] at h5 h6
     simp only at h5 h6;have:z=x:=zy
     subst this;obtain⟨ks,hp⟩:=h.path n l y (by simp at hn;omega) hy h6
     exact⟨y::ks,.more _ y i j l ks h1 e e' hE hy hp⟩
   .rw [e] at h5
    simp only at h5;exact absurd h5 (h.sinkless h4)
   .rw [e] at h2;simp only at h2;omega
def F1 (t:Int):Option Int:=if 2<=t/\t % 2=0 then some ((t - 2) / 2) else none
def C5 (A:List Ed) (l:List Nat):List Int:=(B7 A l).filterMap F1
theorem Yu (h:0<=k):F1 (2+2*k)=some k:=by
 unfold F1;rw[if_pos ⟨zy,zy⟩]
 congr 1
 omega
theorem nD (k:Int):F1 (3+2*k)=none:=if_neg zy
theorem gA:F1 1=none:=if_neg zy
theorem FI.keys (h:FI A E aB c k l ks):C5 A l=ks:=by
 induction h with
 | last k i h1 h2 h3 =>
   unfold C5 B7;rw[QA,Vb,US,h2];simp only;rw[gA];rfl
 | more k y i j l ks h1 h2 h3 h4 h5 h6 ih =>
   unfold C5 B7 at ih ⊢;rw[QA,QA,US,h2];simp only;rw[nD,US,h3];simp only;rw[Yu h5,ih]
theorem FI.edges (h:FI A E aB c k l ks):∀ i (hi:i+1<(k::ks).length),E (k::ks)[i] (k::ks)[i+1]:=by
 induction h with
 | last k i h1 h2 h3=>intro i hi;simp at hi
 | more k y i j l ks h1 h2 h3 h4 h5 h6 ih =>
   intro n hn
   cases n with
   | zero=>exact h4
   | succ n=>exact ih n (by simpa using hn)
theorem FI.ends (h:FI A E aB c k l ks):∃ z,(k::ks).getLast? = some z/\z∈aB /\ ∃ i∈l,i<A.length/\AQ A i=⟨2+2*z,1,1⟩:=by
 induction h with
 | last k i h1 h2 h3=>exact⟨k,rfl,h3,i,Qv.2 rfl,h1,h2⟩
 | more k y i j l ks h1 h2 h3 h4 h5 h6 ih =>
   obtain⟨z,hz,hs,m,hm,q,u⟩:=ih;exact⟨z,by rw[List.getLast?_cons_cons];exact hz,hs,m,Qj _ (Qj _ hm),q,u⟩
theorem FI.uses (hu:∀ i j,i<A.length->j<A.length->(AQ A i).f=(AQ A j).f->(AQ A i).t=(AQ A j).t->i=j) (h:FI A E aB c k l ks) {m:Int} {n:Nat} (hn:n<A.length) (hm:AQ A n=⟨2+2*m,3+2*m,c m - 1⟩):(k::ks).dropLast.count m<=l.count n:=by
 induction h with
 | last k i h1 h2 h3=>simp
 | more k y i j l ks h1 h2 h3 h4 h5 h6 ih =>
   rw[List.dropLast_cons_of_ne_nil zz,List.count_cons]
   have h7:l.count n<=(j::l).count n:=by rw[List.count_cons];omega
   rw[List.count_cons]
   by_cases hk:k=m
   .subst hk
    have:i=n:=hu i n h1 hn (by rw[h2,hm]) (by rw[h2,hm])
    subst this;simp only[beq_self_eq_true,UP];omega
   .have q:(k == m)=false:=by simpa using hk
    rw[q];simp only[Uk,UA];omega
theorem FI.mids (h:FI A E aB c k l ks) {m:Int} (hm:m∈(k::ks).dropLast):∃ n,n<A.length/\AQ A n=⟨2+2*m,3+2*m,c m - 1⟩:=by
 induction h with
 | last k i h1 h2 h3=>simp at hm
 | more k y i j l ks h1 h2 h3 h4 h5 h6 ih =>
   rw[List.dropLast_cons_of_ne_nil zz] at hm
   rcases Qu.1 hm with rfl | hm
   .exact ⟨i,h1,h2⟩
   .exact ih hm
theorem HM.whole (h:HM A E seeds aB c) (hw:CO A 0 l 1):∃ x i l' ks,l=i::l'/\i<A.length/\x∈seeds/\0<=x/\AQ A i=⟨0,2+2*x,c x⟩/\FI A E aB c x l' ks/\C5 A l=x::ks:=by
 cases l with
 | nil=>have:(0:Int)=1:=hw;omega
 | cons i l =>
   obtain⟨h1,h2,h3⟩:=hw;rcases h.kind i h1 with ⟨x,hs,hx,e⟩ | ⟨x,hx,e⟩ | ⟨x,hs,hx,e⟩ | ⟨x,y,hx,hy,_,e⟩
   .rw [e] at h3
    obtain⟨ks,hp⟩:=h.path l.length l x (Qf _) hx h3;refine⟨x,i,l,ks,rfl,h1,hs,hx,e,hp,?_⟩;have hk:=hp.keys;unfold C5 B7 at hk ⊢;rw[QA,US,e];simp only;rw[Yu hx,hk]
   .rw [e] at h2;simp only at h2;omega
   .rw [e] at h2;simp only at h2;omega
   .rw [e] at h2;simp only at h2;omega
theorem Zk (h:(B7 A l).Nodup):(C5 A l).Nodup:=by
 unfold C5;refine List.Pairwise.filterMap _ (λ a a' u b hb b' q=>?_) h;unfold F1 at hb q;split at hb<;>split at q<;>simp at hb q<;>omega
variable {A:List Ed}
def Cw (g:List Nat->Nat) (W:List (List Nat)):Nat:=(W.map g).sum
theorem P6 (g:List Nat->Nat) (w:List Nat) (W:List (List Nat)):Cw g (w::W)=g w+Cw g W:=by simp[Cw]
theorem nF {l:List Int} (h:∀ x,l.count x<=1):l.Nodup:=by
 induction l with
 | nil=>exact List.nodup_nil
 | cons x l ih =>
   rw[Uh];refine⟨λ hm=>?_,ih λ y=>?_⟩
   .have h1:=h x
    rw[List.count_cons_self] at h1;have h2:=List.count_pos_iff.2 hm;omega
   .have h1:=h y
    rw[List.count_cons] at h1;omega
theorem Tv {A:List Ed} {n:Nat} {k:Int}:∀ {W:List (List Nat)},(∀ w∈W,(C5 A w).head? = some k->1<=w.count n)->EI (W.map (C5 A)) k<=Cw (List.count n) W
 | [],_=>by simp[EI,Cw]
 | w::W,h=>by
   have ih:=Tv (n:=n) (k:=k) λ x hx=>h x (Qj w hx);have h1:=h w (Qo ..);unfold EI at ih ⊢;rw[QA,List.countP_cons,P6]
   by_cases hk:(C5 A w).head? = some k
   .have:=h1 hk
    simp only[hk,decide_true,UP];omega
   .simp only[hk,decide_false,Uk,UA]
    omega
theorem Wj {A:List Ed} {k:Int}:∀ {W:List (List Nat)},EI (W.map (C5 A)) k=0 ∨ ∃ w∈W,(C5 A w).head? = some k
 | []=>.inl rfl
 | w::W=>by
   by_cases hk:(C5 A w).head? = some k
   .exact .inr ⟨w,Qo ..,hk⟩
   .rcases Wj (A:=A) (k:=k) (W:=W) with h | ⟨x,hx,hx2⟩
    .left
     unfold EI at h ⊢;rw[QA,List.countP_cons,h];simp[hk]
    .exact .inr ⟨x,Qj _ hx,hx2⟩
theorem TE {A:List Ed} {n:Nat} {k:Int}:∀ {W:List (List Nat)},(∀ w∈W,(C5 A w).dropLast.count k<=w.count n)->Dr (W.map (C5 A)) k<=Cw (List.count n) W
 | [],_=>by simp[Dr,Cw]
 | w::W,h=>by
   have ih:=TE (n:=n) (k:=k) λ x hx=>h x (Qj w hx);have h1:=h w (Qo ..);unfold Dr at ih ⊢;rw[QA,U3,Vd,P6];omega
theorem Xo {A:List Ed} {k:Int}:∀ {W:List (List Nat)},Dr (W.map (C5 A)) k=0 ∨ ∃ w∈W,k∈(C5 A w).dropLast
 | []=>.inl rfl
 | w::W=>by
   by_cases hk:k∈(C5 A w).dropLast
   .exact .inr ⟨w,Qo ..,hk⟩
   .rcases Xo (A:=A) (k:=k) (W:=W) with h | ⟨x,hx,hx2⟩
    .left
     unfold Dr at h ⊢;rw[QA,U3,Vd,h,List.count_eq_zero.2 hk]
    .exact .inr ⟨x,Qj _ hx,hx2⟩
theorem XL {A:List Ed} {n:Nat} {k:Int}:∀ {W:List (List Nat)},(∀ w∈W,(C5 A w).getLast? = some k->1<=w.count n)->(Ft (W.map (C5 A))).count k<=Cw (List.count n) W
 | [],_=>by simp[Ft,Cw]
 | w::W,h=>by
   have ih:=XL (n:=n) (k:=k) λ x hx=>h x (Qj w hx);have h1:=h w (Qo ..);unfold Ft at ih ⊢;rw[QA,US,P6]
   cases hl:(C5 A w).getLast? with
   | none=>simp only;omega
   | some z =>
     simp only[List.count_cons]
     by_cases hz:z=k
     .subst hz
      have:=h1 hl;simp only[beq_self_eq_true,UP];omega
     .have:(z == k)=false:=by simpa using hz
      rw[this];simp only[Uk,UA];omega
theorem Zq {E:Int->Int->Prop} {seeds aB:List Int} {cl:List Int} {f:List Int} {W:List (List Nat)} (hk:HM A E seeds aB λ x=>cl.getD x.toNat 0) (hf:CL A f) (hw:∀ w∈W,CO A 0 w 1/\(B7 A w).Nodup) (hs:∀ i,i<A.length->(Cw (List.count i) W:Int)<=f.getD i 0) (hc:∀ x∈cl,0<=x) :
  HZ cl (W.map (C5 A))/\(Ft (W.map (C5 A))).Nodup/\(∀ k∈Ft (W.map (C5 A)),k∈aB) /\
  ∀ p∈W.map (C5 A),(∃ k,p.head? = some k/\k∈seeds)/\p.Nodup /\ ∀ i (h:i+1<p.length),E p[i] p[i+1]:=by
 have h4:=(IA.1 hf).2
 have h0:∀ w∈W,∃ z,(C5 A w).getLast? = some z/\z∈aB /\ ∃ i∈w,i<A.length/\AQ A i=⟨2+2*z,1,1⟩:=λ w q=>by
  obtain⟨x,i,l',ks,rfl,hi,h5,h8,he,hp,u⟩:=hk.whole (hw w q).1;obtain⟨z,hz,hv,m,hm,hx,a0⟩:=hp.ends;exact⟨z,by rw[u];exact hz,hv,m,Qj _ hm,hx,a0⟩
 refine⟨λ k h9=>⟨?_,?_⟩,nF λ z=>?_,λ z hz=>?_,λ p hp=>?_⟩
 .have ho:=hc _ (Qi h9)
  have ha:cl.getD k 0=cl[k]:=by rw[Qn,Qc h9,QZ]
  rcases Wj (A:=A) (k:=(k:Int)) (W:=W) with h | ⟨w,q,hh⟩
  .rw [h];exact ho
  .obtain ⟨x,i,l',ks,rfl,hi,h5,h8,he,hp,u⟩:=hk.whole (hw w q).1
   rw[u] at hh;have a1:x=k:=Qh hh;subst a1
   have h1:=Tv (A:=A) (n:=i) (k:=(k:Int)) (W:=W) λ v h6 hq=>by
    obtain⟨y,j,l2,ks2,rfl,hj,_,_,hb,_,h7⟩:=hk.whole (hw v h6).1;rw[h7] at hq;have a2:y=k:=Qh hq;have:j=i:=hk.uniq j i hj hi (by rw[hb,he]) (by rw[hb,he,a2])
    subst this;rw[List.count_cons_self];omega
   have h2:=hs i hi;have h3:=(h4 i hi).2;rw[he] at h3;simp only[Int.toNat_natCast] at h3;rw[ha] at h3;omega
 .have ho:=hc _ (Qi h9)
  have ha:cl.getD k 0=cl[k]:=by rw[Qn,Qc h9,QZ]
  rcases Xo (A:=A) (k:=(k:Int)) (W:=W) with h | ⟨w,q,hh⟩
  .rw [h];omega
  .obtain ⟨x,i,l',ks,rfl,hi,h5,h8,he,hp,u⟩:=hk.whole (hw w q).1
   rw[u] at hh;obtain⟨n,hn,hr⟩:=hp.mids hh
   have h1:=TE (A:=A) (n:=n) (k:=(k:Int)) (W:=W) λ v h6=>by
    obtain⟨y,j,l2,ks2,rfl,hj,_,_,hb,a3,h7⟩:=hk.whole (hw v h6).1;rw[h7,List.count_cons];have:=a3.uses hk.uniq hn hr;omega
   have h2:=hs n hn;have h3:=(h4 n hn).2;rw[hr] at h3;simp only[Int.toNat_natCast] at h3;rw[ha] at h3;omega
 .by_cases hz:z∈Ft (W.map (C5 A))
  .obtain ⟨p,hp,hd⟩:=U8.1 hz
   obtain⟨w,q,rfl⟩:=Ql.1 hp;obtain⟨y,hy,ht,i,a6,hi,hg⟩:=h0 w q;rw[hd] at hy;have hl:z=y:=Qh hy;subst hl
   have h1:=XL (A:=A) (n:=i) (k:=z) (W:=W) λ v h6 a4=>by
    obtain⟨y,hy,_,j,a5,hj,hu⟩:=h0 v h6;rw[a4] at hy;have hl:z=y:=Qh hy;have:j=i:=hk.uniq j i hj hi (by rw[hu,hg,hl]) (by rw[hu,hg])
    subst this;exact List.count_pos_iff.2 a5
   have h2:=hs i hi;have h3:=(h4 i hi).2;rw[hg] at h3;simp only at h3;omega
  .rw [List.count_eq_zero.2 hz]
   omega
 .obtain ⟨p,hp,hd⟩:=U8.1 hz
  obtain⟨w,q,rfl⟩:=Ql.1 hp;obtain⟨y,hy,ht,_⟩:=h0 w q;rw[hd] at hy;rw[Qh hy];exact ht
 .obtain ⟨w,q,rfl⟩:=Ql.1 hp
  refine⟨?_,Zk (hw w q).2,?_⟩
  .obtain ⟨x,i,l',ks,rfl,hi,h5,h8,he,hp,u⟩:=hk.whole (hw w q).1
   exact⟨x,by rw[u];rfl,h5⟩
  .obtain ⟨x,i,l',ks,rfl,hi,h5,h8,he,hp,u⟩:=hk.whole (hw w q).1
   have:=hp.edges;intro n hn;simp only[u] at hn ⊢;exact this n hn
def Dv (e:Ed):Int × Int:=(e.f,e.t)
theorem jE {A:List Ed} (h:(A.map Dv).Nodup) {i j:Nat} (hi:i<A.length) (hj:j<A.length) (h1:(AQ A i).f=(AQ A j).f) (h2:(AQ A i).t=(AQ A j).t):i=j:=by
 have hg:∀ k (hk:k<A.length),(A.map Dv)[k]'(by simpa using hk)=Dv (AQ A k):=λ k hk=>by
  rw[List.getElem_map];unfold AQ;rw[Qn,Qc hk,QZ]
 have he:Dv (AQ A i)=Dv (AQ A j):=by unfold Dv;rw[h1,h2]
 rcases Nat.lt_trichotomy i j with q | heq | hgt
 .exact absurd ((hg i hi).trans (he.trans (hg j hj).symm)) (QK.1 h i j (by simpa using hi) (by simpa using hj) q)
 .exact heq
 .exact absurd ((hg j hj).trans (he.symm.trans (hg i hi).symm)) (QK.1 h j i (by simpa using hj) (by simpa using hi) hgt)
theorem PX {α β:Type} {φ:α->β} {l:List α} (h:l.Nodup) (hi:∀ a∈l,∀ b∈l,φ a=φ b->a=b):(l.map φ).Nodup:=by
 rw[List.Nodup,UM];exact List.Pairwise.imp_of_mem (λ {a b} ha hb q he=>q (hi a ha b hb he)) h
theorem fP {g:Gr} {p:A9} {c aB q:List Int} {E:Int->Int->Prop} (hE:∀ e∈(Ao g p.lv).edges,0<c.getD e.f.toNat 0->E e.f e.t) (hS:∀ x∈p.seeds,0<c.getD x.toNat 0->x∈q) (hs:p.seeds.Nodup) (h3:∀ x∈p.seeds,0<=x) (hk:aB.Nodup) (u:∀ x∈aB,0<=x) (he:((Ao g p.lv).edges.map Dv).Nodup) (h2:∀ e∈(Ao g p.lv).edges,0<=e.f/\0<=e.t) :
  HM (Df g p c aB) E q aB λ x=>c.getD x.toNat 0:=by
 refine⟨λ i hi=>?_,λ i j hi hj=>jE ?_ hi hj⟩
 .have hm:=IK hi
  revert hm
  generalize AQ (Df g p c aB) i=a;intro hm;unfold Df at hm;rcases Qm.1 hm with hm | hm
  .rcases Qm.1 hm with hm | hm
   .rcases Qm.1 hm with hm | hm
    .obtain ⟨x,hx,rfl⟩:=Ql.1 hm
     have hx:=QF.1 hx;exact .inl ⟨x,hS x hx.1 (by simpa using hx.2),h3 x hx.1,rfl⟩
    .obtain ⟨x,hx,rfl⟩:=Ql.1 hm
     exact .inr (.inl ⟨x,Int.natCast_nonneg _,zz⟩)
   .obtain ⟨x,hx,rfl⟩:=Ql.1 hm
    have hx:=(QF.1 hx).1;exact .inr (.inr (.inl ⟨x,hx,u x hx,rfl⟩))
  .obtain ⟨e,hx,rfl⟩:=Ql.1 hm
   have hx:=QF.1 hx;have h0:=h2 e hx.1;exact .inr (.inr (.inr ⟨e.f,e.t,h0.1,h0.2,hE e hx.1 (by simpa using hx.2),rfl⟩))
 .unfold Df
  simp only[QN,Us];refine Uf.2 ⟨Uf.2 ⟨Uf.2 ⟨?_,?_,?_⟩,?_,?_⟩,?_,?_⟩
  .exact PX (hs.filter _) λ a _ b _ h=>by simp[Dv] at h;omega
  .exact PX (List.nodup_range.filter _) λ a _ b _ h=>by simp[Dv] at h;omega
  .intro a ha b hb
   obtain⟨x,hx,rfl⟩:=Ql.1 ha;obtain⟨y,hy,rfl⟩:=Ql.1 hb;intro h;simp[Dv] at h;omega
  .exact PX (hk.filter _) λ a _ b _ h=>by simp[Dv] at h;omega
  .intro a ha b hb
   obtain⟨y,hy,rfl⟩:=Ql.1 hb;have h4:=u y (QF.1 hy).1;rcases Qm.1 ha with ha | ha
   .obtain ⟨x,hx,rfl⟩:=Ql.1 ha
    intro h;simp[Dv] at h;omega
   .obtain ⟨x,hx,rfl⟩:=Ql.1 ha
    intro h;simp[Dv] at h;omega
  .have h1:((Ao g p.lv).edges.filter λ e=>decide (0<c.getD e.f.toNat 0)).Pairwise λ a b=>Dv a≠Dv b:=by
    rw[List.Nodup,UM] at he;exact he.filter _
   rw[List.Nodup,UM];refine h1.imp λ {a b} h5 h=>h5 ?_;simp[Dv] at h;unfold Dv;rw[show a.f=b.f by omega,show a.t=b.t by omega]
  .intro a ha b hb
   obtain⟨e,hy,rfl⟩:=Ql.1 hb;have h4:=h2 e (QF.1 hy).1;rcases Qm.1 ha with ha | ha
   .rcases Qm.1 ha with ha | ha
    .obtain ⟨x,hx,rfl⟩:=Ql.1 ha
     intro h;simp[Dv] at h;omega
    .obtain ⟨x,hx,rfl⟩:=Ql.1 ha
     intro h;simp[Dv] at h;omega
   .obtain ⟨x,hx,rfl⟩:=Ql.1 ha
    intro h;simp[Dv] at h;omega
structure Fr where
 key:Int
 acc:Bool
 before:List Int
 paths:List (List Int)
 side:List Int
theorem Gl (g:Gr) (S:List Int):(Ag g S).Nodup:=by
 refine(Ss (g:=g) (S:=S) g.size.toNat).imp λ {a b} h e=>?_;subst e;unfold Lt at h;omega
theorem Iq {g:Gr} {S:List Int} {k:Int} (h:k∈Ag g S):0<=k/\k<g.size:=by
 have:=LF.1 h;omega
open Classical in
def RQ (g:Gr) (p:A9) (x:Fr):Int :=
 let order:=Ag (Ao g p.lv) p.seeds
 let c:=Bk g p
 if x.key∉order then 11
 else if ¬ H6 order x.before x.key∨(x.acc=true/\x.side≠[])∨(x.acc=false/\x.paths≠[]) then 1
 else if x.acc=true then (if JO g p.lv p.seeds order c x.paths (x.before++[x.key]) then 0 else 52)
 else if HD ⟨2+2*g.size,Df g p c (E0 (x.before++[x.key]))⟩ x.side x.before.length then 0 else 52
open Classical in
def NP (g:Gr) (p:A9) (x:Fr):Int :=
 let order:=Ag (Ao g p.lv) p.seeds
 let c:=Bk g p
 if x.key∉order then 11
 else if ¬ H6 order x.before x.key∨(x.acc=true/\x.side≠[])∨(x.acc=false/\x.paths≠[]) then 1
 else if x.acc=true then (if J7 g p.lv p.seeds order c x.paths (x.before++[x.key]) then 0 else 52)
 else if HD ⟨2+2*g.size,Df g p c (Az (x.before++[x.key]))⟩ x.side x.before.length then 0 else 52
theorem Zb {g:Gr} (hs:g.size<=64) (p:A9) (x:Fr):RQ g p x=NP g p x:=by
 unfold RQ NP;simp only;have u:=Gl (Ao g p.lv) p.seeds
 have q:∀ k∈Ag (Ao g p.lv) p.seeds,0<=k/\k<64:=λ k hk=>by
  have:=Iq hk;have h2:(Ao g p.lv).size=g.size:=rfl;omega
 generalize Ag (Ao g p.lv) p.seeds=o at *
 by_cases h1:x.key∈o
 .by_cases h2:¬ H6 o x.before x.key∨(x.acc=true/\x.side≠[])∨(x.acc=false/\x.paths≠[])
  .rw [if_neg (not_not_intro h1),if_pos h2,if_neg (not_not_intro h1),if_pos h2]
  .rw [if_neg (not_not_intro h1),if_neg h2,if_neg (not_not_intro h1),if_neg h2]
   have h3:H6 o x.before x.key:=Classical.byContradiction λ h=>h2 (.inl h);have h4:=h3.nodup u
   have h5:∀ k∈x.before++[x.key],0<=k/\k<64:=λ k hk=>by
    rcases Qm.1 hk with hk | hk
    .exact q k ((List.takeWhile_sublist _).subset (h3.subset hk))
    .rw [Qv] at hk
     rw[hk];exact q _ h1
   rw[O2 h4 h5]
   by_cases ha:x.acc=true
   .rw [if_pos ha,if_pos ha]
    by_cases hc:JO g p.lv p.seeds o (Bk g p) x.paths (x.before++[x.key])
    .rw [if_pos hc,if_pos ((Vf h4).1 hc)]
    .rw [if_neg hc,if_neg λ h=>hc ((Vf h4).2 h)]
   .rw [if_neg ha,if_neg ha]
 .rw [if_pos h1,if_pos h1]
variable {g:Gr} {k:Int} {p:A9}
theorem vD (h0:0<=k) (h1:k<g.size):(Bk g p).getD k.toNat 0=Eu p (A4 (Ao g p.lv) p.seeds k):=by
 unfold Bk Du;have h2:k.toNat<(Ao g p.lv).size.toNat:=by show k.toNat<g.size.toNat;omega
 rw[Qn,QB,QB,List.getElem?_range h2];simp only[Ug,QZ];rw[show ((k.toNat:Nat):Int)=k by omega]
theorem Ze (h1:g.size<=k):(Bk g p).getD k.toNat 0=0:=by
 unfold Bk Du;have h2:¬ k.toNat<(Ao g p.lv).size.toNat:=by show ¬ k.toNat<g.size.toNat;omega
 rw[Qn,Q6 zw]
 rfl
theorem sY {n:Int} (hp:CI n p):∀ x∈Bk g p,0<=x:=λ x hx=>by
 unfold Bk at hx;obtain⟨d,_,rfl⟩:=Ql.1 hx;exact(Nk hp d).1
theorem Rb {n:Int} (hp:CI n p) (h0:0<=k):0<(Bk g p).getD k.toNat 0↔k<g.size/\0<=A4 (Ao g p.lv) p.seeds k:=by
 by_cases h1:k<g.size
 .rw [vD h0 h1,tV hp]
  exact⟨λ h=>⟨h1,h⟩,λ h=>h.2⟩
 .rw [Ze zy]
  constructor
  .intro h;omega
  .intro h;exact absurd h.1 h1
theorem AH.level (h:AH g) (v:Int):AH (Ao g v):=by
 refine⟨⟨h.1.1,h.1.2.1,QR (QV _ _) h.1.2.2.1,h.1.2.2.2⟩,λ i hi=>?_⟩;have hm:(Ao g v).edges[i]∈g.edges:=(QF.1 (Qi hi)).1;obtain⟨j,hj,q⟩:=Qt.1 hm;have h1:=h.2 j hj;rw[q] at h1;refine⟨h1.1,h1.2.1,h1.2.2.1,λ h0=>?_⟩;rw[IB];have hp:(Ao g v).edges.Pairwise B9:=h.pair.filter _;exact QK.1 hp (i - 1) i zy hi zy
theorem LX (h:AH g) {S:List Int}:k∈Ag g S↔Dy g k/\0<=A4 g S k:=by
 unfold Ag;rw[LF];constructor
 .rintro ⟨⟨h1,h2⟩,h3,_⟩
  exact⟨⟨h1,zy⟩,h3⟩
 .rintro ⟨h1,h2⟩
  have h3:=Sb (S:=S) h h1;have h4:=h1.1;have h5:=h1.2;exact⟨⟨h4,zy⟩,h2,zy⟩
theorem Ob (h:AH g) (v:Int):((Ao g v).edges.map Dv).Nodup /\ ∀ e∈(Ao g v).edges,0<=e.f/\e.f<g.size/\0<=e.t/\e.t<g.size:=by
 have hl:=h.level v;refine⟨?_,λ e he=>?_⟩
 .rw [List.Nodup,UM]
  refine hl.pair.imp λ {a b} q he=>?_;unfold B9 at q;unfold Dv at he;simp at he;omega
 .obtain ⟨i,hi,rfl⟩:=Qt.1 he
  have h1:=(hl.2 i hi).1;have h2:(Ao g v).size=g.size:=rfl;unfold CT at h1;omega
theorem CJ.nodup {l:List Int} {lo hi:Int} (h:CJ l lo hi):l.Nodup /\ ∀ x∈l,lo<=x/\x<=hi:=by
 have q:∀ (j i:Nat) (hj:j<l.length) (hij:i<j),l[i]<l[j]:=by
  intro j
  induction j with
  | zero=>intro i _ hij;omega
  | succ j ih =>
    intro i hj hij;have h1:=(h (j+1) hj).2.2 zy
    simp only[Nat.add_sub_cancel] at h1;rcases Ub i j with h2 | h2
    .have:=ih i zy h2
     omega
    .have:i=j:=zy
     subst this;exact h1
 refine⟨QK.2 λ i j hi hj hij he=>?_,λ x hx=>?_⟩
 .have:=q j i hj hij
  omega
 .obtain ⟨i,hi,rfl⟩:=Qt.1 hx
  have:=h i hi;exact⟨this.1,this.2.1⟩
theorem fQ {aB u f:List Int} {W:List (List Nat)} (hg:AH g) (hp:CI g.size p) (hk:aB.Nodup) (ha:∀ x∈aB,0<=x) (h4:u.Perm aB) (hf:CL (Df g p (Bk g p) aB) f) (hw:∀ w∈W,CO (Df g p (Bk g p) aB) 0 w 1/\(B7 (Df g p (Bk g p) aB) w).Nodup) (hs:∀ i,i<(Df g p (Bk g p) aB).length->(Cw (List.count i) W:Int)<=f.getD i 0) (hl:W.length=aB.length) :
  J7 g p.lv p.seeds (Ag (Ao g p.lv) p.seeds) (Bk g p) (W.map (C5 (Df g p (Bk g p) aB))) u:=by
 have h5:=hg.level p.lv;have h6:=hp.2.1.nodup;have q:=Ob hg p.lv
 have hb:∀ k,0<=k->0<(Bk g p).getD k.toNat 0->k∈Ag (Ao g p.lv) p.seeds:=λ k h0 hc=>by
  have h1:=(Rb hp h0).1 hc;exact(LX h5).2 ⟨⟨h0,h1.1⟩,h1.2⟩
 have h8:HM (Df g p (Bk g p) aB) (λ x y=>Mf g p.lv x y/\y∈Ag (Ao g p.lv) p.seeds) (p.seeds.filter λ x=>decide (x∈Ag (Ao g p.lv) p.seeds)) aB λ x=>(Bk g p).getD x.toNat 0:=by
  refine fP (λ e he hc=>?_) (λ x hx hc=>?_) h6.1 (λ x hx=>(h6.2 x hx).1) hk ha q.1 λ e he=>⟨(q.2 e he).1,(q.2 e he).2.2.1⟩
  .have h0:=q.2 e he
   have h1:=(Rb hp h0.1).1 hc;have h2:=cM h5 he h1.2;refine⟨?_,(LX h5).2 ⟨⟨h0.2.2.1,h0.2.2.2⟩,h2.1⟩⟩;unfold Ao at he;have h3:=QF.1 he;refine⟨e,h3.1,rfl,rfl,?_⟩;have:=h3.2;simp at this;omega
  .exact QF.2 ⟨hx,by simpa using hb x (h6.2 x hx).1 hc⟩
 obtain⟨q1,q2,q3,q4⟩:=Zq h8 hf hw hs (sY hp);refine⟨by rw[Qs,hl,h4.length_eq],h4.nodup_iff.2 hk,λ w hd=>?_,λ k hh=>h4.mem_iff.2 (q3 k hh),q2,q1⟩
 obtain⟨⟨k,h7,hj⟩,h2,h3⟩:=q4 w hd;have h9:=QF.1 hj;have hm:k∈Ag (Ao g p.lv) p.seeds:=by simpa using h9.2
 refine⟨⟨k,h7,h9.1⟩,λ x hx=>?_,h2,λ i hi=>(h3 i hi).1⟩;obtain⟨i,hi,rfl⟩:=Qt.1 hx
 cases i with
 | zero =>
   rw[List.head?_eq_getElem?,Qc hi] at h7;rw[Qh h7];exact hm
 | succ i=>exact(h3 i hi).2
variable {g:Gr} {p:A9}
theorem AH.edges_le (h:AH g):g.edges.length<=500:=h.1.2.2.1
theorem HV:(Bk g p).length=g.size.toNat:=by simp[Bk,Du,Ao]
def EU (g:Gr) (p:A9) (k:Nat):List Int:=(Bk g p).take k++(Du (Ao g p.lv) p.seeds).drop k
theorem WV (k:Nat) (hk:k<=g.size.toNat):(EU g p k).length=g.size.toNat:=by simp[EU,HV,Du,Ao];omega
theorem pD:EU g p 0=Du (Ao g p.lv) p.seeds:=by simp[EU]
theorem jF:EU g p g.size.toNat=Bk g p:=by
 unfold EU;rw[Qd (by rw[HV];exact Qf _),QI (by simp[Du,Ao])]
 simp
theorem vM {k:Nat} (hk:k<g.size.toNat):(EU g p k)[k]? = some (A4 (Ao g p.lv) p.seeds k):=by
 unfold EU;rw[Qr (by simp[HV];omega)]
 simp[HV,Nat.min_eq_left (Nat.le_of_lt hk),Du,Ao,hk]
theorem fW {k:Nat} (hk:k<g.size.toNat):(AP (EU g p k)).set k [AV.I (Eu p (A4 (Ao g p.lv) p.seeds k))]=AP (EU g p (k+1)):=by
 rw[show [AV.I (Eu p (A4 (Ao g p.lv) p.seeds k))]=(λ n:Int=>[AV.I n]) (Eu p (A4 (Ao g p.lv) p.seeds k)) from rfl]
 show (List.map (λ n:Int=>[AV.I n]) (EU g p k)).set k _=List.map (λ n:Int=>[AV.I n]) _;rw[<- UQ]
 congr 1
 have hc:k<(Bk g p).length:=by rw[HV];exact hk
 have hd:k<(Du (Ao g p.lv) p.seeds).length:=by simp[Du,Ao,hk]
 unfold EU;rw[List.set_append,if_neg (by simp[HV];omega)]
 rw[show k - ((Bk g p).take k).length=0 by simp[HV];omega]
 rw[QO hd,List.set_cons_zero,Qp hc,Qq]
 congr 2
 simp[Bk,Du]
theorem c8 (g:Gr) (p:A9) (hg:AH g) (hs:p.seeds.length<=1099511627776):AF 157 [eG g,eP p] [] (.rs 0 0 g.size.toNat) [some ⟨1,AP (Bk g p),0⟩]:=by
 refine rZ.s.ai ?_;have h5:=hg.1.1;have h4:=hg.1.2.1;have h7:=hg.edges_le;have h8:=hg.gone_le;have q:=Si (Ao g p.lv) p.seeds (hg.level p.lv) hs;have h1:(Ao g p.lv).size=g.size:=rfl;rw[h1,<- pD] at q;obtain⟨N,u⟩:∃ N:Nat,N=g.size.toNat:=⟨_,rfl⟩;rw[<- u] at q;have h9:∀ k,k<=N->(AP (EU g p k)).length=N:=λ k hk=>by rw[Qs,WV k zy,u]
 have h2:∀ (k:Nat) (h:k<(EU g p k).length),k<N->(EU g p k)[k]=A4 (Ao g p.lv) p.seeds k:=λ k h hk=>by
  have:=vM (g:=g) (p:=p) (k:=k) zy
  rw[Qc h] at this;exact Qh this
 have h0:∀ k,k<=N->(EU g p k).length=N:=λ k hk=>by rw[WV k zy,u]
 have h3:∀ k:Nat,k<N->(AP (EU g p k)).set k [AV.I (Eu p (A4 (Ao g p.lv) p.seeds k))]=AP (EU g p (k+1)):=λ k hk=>fW zy
 refine rs [2,3] [] [16,24] ?_;apply al [3,5] [88] 104
 .simp
  refine Au (MX g p.lv zy zy) ?_
  simp;refine Di q rfl ?_;simp[AC];exact⟨rfl,rfl⟩
 refine AB (rk (s:=?s3) [3,5,15,16,17] [88] rfl ?o3 ?q3)
 case o3=>simp;rfl
 refine AI (An (ι:=Nat) (λ i=>⟨30,[(3,.pv (pC p)),(5,.rs 88 0 N),(15,.rs 88 0 N),(16,.I N),(17,.I i)],[(88,some ⟨1,AP (EU g p i),0⟩)],128⟩) (λ i=>i<=N) (λ i=>N - i) 0 zz (A5) ?_)
 intro i hi;refine rk (s:=?s5) [3,5,15,16,17,18] [88] rfl ?o5 ?q5
 case o5=>simp;rfl
 refine AB (AE _ rfl (λ h6=>?_) λ h6=>?_)
 .simp at h6
  have hw:=w6 (x:=(i:Int)+1);refine AG (AB (AI (rk (s:=?s7) [3,5,6,7,15,16,17] [88] rfl ?o7 ?q7)))
  case o7=>simp[h6,h0,h2,hi];rfl
  refine Ay (s:=?s8) rfl ?o8 ?q8
  case o8 =>
   simp;refine Au (sR p (A4 (Ao g p.lv) p.seeds i)) ?_;simp[h6,h0,hi,h3];rfl
  refine Ay (s:=?s9) rfl ?o9 ?q9
  case o9=>simp[hw];rfl
  exact⟨i+1,zy,zy,DU [(88,88)] []⟩
 simp at h6;obtain rfl:i=N:=zy
 refine Ak (Al (rk (s:=?s10) [4] [88] rfl ?o10 ?q10))
 case o10=>simp;rfl
 refine Am ⟨.inr rfl,AO.out [88] [] rfl zz zz (by simp[u]) (by simp[AC,u,jF])⟩
end Go.Proofs.YtkabgnlcllmleaaGreat
namespace Go.Proofs.YtkabgnlcllmleaaGreat
open Go Go.RowKit Go.Shelf Go.Maps Go.Sort
theorem P7 {vs:Array Value} (h:vs.size=2):vs = #[vs.getD 0 undef,vs.getD 1 undef]:=by
 apply Array.ext
 .simpa using h
 .intro i h1 h2
  have:i=0∨i=1:=by simp at h2;omega
  rcases this with rfl | rfl<;>simp[Array.getD,h1]<;>intro h3<;>omega
theorem oT (x:Int):(encZ x:Value) = .int .i64 x:=rfl
theorem n8 (l:List Int) (hl:l.length<=1099511627776):AF 247 [.nilS,.fn (.func 204) [] [.pv [AA l]]] [] (.rs 0 0 l.length) [some ⟨1,AP l,0⟩]:=by
 refine⟨⟨_,_,Tryz.func247,rfl,zx⟩,zz,λ T M w vs h7 b3 b0 hq=>?_⟩
 obtain⟨a5,hr⟩:=hq;have h8:=hr 0 zz
 have h9:=hr 1 zz
 simp only[UR,List.getD_cons_succ] at h8 h9;rw[P7 a5];generalize vs.getD 0 undef=v0 at h8;generalize vs.getD 1 undef=v1 at h9
 cases h8
 cases h9 with
 | fn _ _ _ _ us ws hx hy h h' =>
 have a6:us = #[]:=by simpa using hx
 subst a6;have a7:=J2 (vs:=ws) hy;have hc:=h' 0 zz
 simp only[UR] at hc;rw[a7];generalize ws.getD 0 undef=u at hc
 cases hc with
 | pv _ _ Bs B0 cells ty fz c hb ht a8 ho hh =>
 have hB:=a8 0 zz
 have hv:=hh 0 zz
 simp only[UR,Uj] at hB hv;have a9:Bs<w.heap.size:=(Q0.1 hb).1;generalize c 0=sv at hB hv
 cases hv with
 | vs _ _ _ _ a cap cc hf b4 hw ag h1 ai =>
 have hs:(l.map λ n=>[AV.I n]).length=l.length:=zz
 rw[hs] at hB
 have hd:∃ b off,(l≠[]->a=some ⟨b,off,none⟩/\b<w.heap.size) /\ ∀ j (h:j<l.length),w.cell? ⟨b,off+j,none⟩=some (.int .i64 l[j]):=by
  by_cases h0:l=[]
  .exact ⟨0,0,λ h=>absurd h0 h,λ j hj=>by subst h0;simp at hj⟩
  .obtain ⟨b,off,cs,ty',fz',ha,hu,_,a0⟩:=ag (by simpa using h0)
   refine⟨b,off,λ _=>⟨ha,(Q0.1 hu).1⟩,λ j hj=>?_⟩;have h2:=a0 j 0 (by simpa using hj) zx
   have h3:=ai j 0 (by simpa using hj) zx
   have e:((l.map λ n=>[AV.I n]).getD j []).getD 0 .dead = .I l[j]:=by simp[List.getD,hj]
   rw[e] at h3;have h4:=Cu h3 rfl;rw[h4] at h2;simp only[World.cell?,hu]
   simpa using h2
 obtain⟨b,off,a1,am⟩:=hd;rw[<- callsIn_wide (n:=2)];refine(uN Fence.wide 2 trivial trivial rfl zy Bs B0 b off cap a l (λ h=>(a1 h).1) hl w ?_ a9 (λ h=>(a1 h).2) am).mono ?_
 .simp only[World.cell?,hb]
  exact hB
 rintro e w' ⟨v,rfl,⟨_,a2⟩,h5⟩
 have an:Ax T w T w':=⟨λ _=>Qf _,λ b' cs' ty' fz' h=>⟨cs',fz',by rw[h5.block b' (Q0.1 h).1];exact h,rfl,λ _ _=>rfl⟩⟩
 have aq:∀ b',w.heap.size<=b'->T b'=0:=λ b' q=>by
  rcases UF (T b') with e | e
  .exact e
  .obtain ⟨cells,ty,fz,h1,_⟩:=h7 b' e
   have:=(Q0.1 h1).1;omega
 have hm:Gy T w':=λ b' q=>by
  obtain⟨cells,ty,fz,h1,h2⟩:=h7 b' q;exact⟨cells,ty,fz,by rw[h5.block b' (Q0.1 h1).1];exact h1,h2⟩
 have fin:∀ g:GE,(∀ b,g.blk=some b->w.heap.size<=b)->H4 T w' (λ k=>if k=0 then some g else none) ⟨1,AP l,0⟩ g->Aj T w' (λ k=>if k=0 then some g else none) (.rs 0 0 l.length) v ->
   ∃ v' T' M',Ending.returned v = .returned v'/\Aj T' w' M' (.rs 0 0 l.length) v'/\Dl T' w' M' (Gj [some ⟨1,AP l,0⟩])/\Fq 0 T M w T' M' w':=by
  intro g hg ent hv;refine⟨v,T,_,rfl,hv,?_,⟨hm,λ _ _ _=>rfl,λ k hk=>absurd hk (UW k),h5.os,h5.tape,h5.output,h5.size,λ b' q _=>h5.block b' q,an,λ k g1 b1 _ h1 h2=>?_⟩⟩
  .rw [show ([some ⟨1,AP l,0⟩]:List (Option AD))=List.map some [⟨1,AP l,0⟩] from rfl,OU]
   have z:∀ id e,C9 [(⟨1,AP l,0⟩:AD)] id=some e->id=0/\e=⟨1,AP l,0⟩:=by
    intro id e he
    cases id with
    | zero=>simp[C9] at he;exact⟨rfl,he.symm⟩
    | succ k=>simp[C9] at he
   refine⟨λ id e he=>?_,λ id id' e e' _ _ _ h1 h2 _ _ _ _=>by rw[(z _ _ h1).1,(z _ _ h2).1]⟩
   obtain⟨rfl,rfl⟩:=z _ _ he;exact⟨g,rfl,ent⟩
  .by_cases hk:k=0
   .subst hk
    simp at h1;subst h1;exact .inr (hg b1 h2)
   .simp [hk] at h1
 have h6:∀ row∈AP l,row.length=1:=by intro row hr;simp at hr;obtain⟨x,_,rfl⟩:=hr;rfl
 rcases a2 with ⟨rfl,h0⟩ | ⟨g,cp,cur,rfl,hg,a3,a4,b5,b2,au⟩
 .have av:l=[]:=List.length_eq_zero_iff.1 h0
  subst av;exact fin ⟨none,0,1⟩ zz ⟨rfl,Qk _,λ _=>h6,(λ _=>rfl),(λ hz=>absurd hz (U0 0)),λ _ b' q=>by cases q⟩ (.rs _ _ _ _ _ _ _ rfl (U0 0) (Qf _) (λ _=>⟨rfl,rfl⟩) λ b' q=>by cases q)
 .refine fin ⟨some g,0,1⟩ (λ b' q=>by cases q;exact hg) ⟨rfl,Qk _,λ _=>h6,(λ hn=>by cases hn),(λ hz=>absurd hz (U0 0)),λ _ b' q=>?_⟩ (.rs _ _ _ _ cp _ _ rfl (U0 0) a4 (λ hn=>by cases hn) λ b' q=>?_)
  .obtain rfl:=Qh q
   refine⟨cur,3,a3,by rw[aq g hg];exact Qk _,zw,λ i j hi hj=>?_⟩
   have hi':i<l.length:=by simpa using hi
   obtain rfl:j=0:=by simpa using hj
   refine⟨.int .i64 l[i],?_,rfl,?_⟩
   .have:(cur.toList.take (l.length*1))[i]? = (l.map encZ)[i]?:=by rw[au]
    rw[Uu,if_pos zy] at this
    simpa [hi',oT] using this
   .have e:((AP l).getD i []).getD 0 .dead = .I l[i]:=by simp[List.getD,hi']
    rw[e];exact .sc _ _ rfl
  .obtain rfl:=Qh q
   exact⟨.inr zz,cur,3,(0,0),a3,zw⟩
section
variable {P:Program} {np id:Nat} {h:Nat->Option AD} {K:AV->List Nat->List (Nat × Option AD)->Prop} {f:FuncId} {first aA args aC:List AV} {res:AV}
theorem To (sn:List Nat) (q:∀ i∈sn,np<=i) (hc:CF P f aC [] res []) (hw:(first++args++aA).map (conv [] sn h 4)=aC) (hk:K (conv (((List.range 8).map (id + ·)).zipIdx.map λ (a,b)=>(b,a)) [] (λ _=>none) 4 res) sn (sn.filterMap λ i=>(h i).map λ e=>(i,some { e with ro:=e.rows.length }))):aK P np id .call (.fn (.func f) first aA::args) h K :=
 ⟨[],sn,true,aC,[],res,[],zz,zz,λ _=>q,by rw[UO,hw];exact FT _,rfl,hc,zz,.inl rfl,by simpa using hk⟩
end
abbrev HU (l:List Int):AV:=.fn (.func 204) [] [.pv [AA l]]
theorem lL (l:List Int):AF 160 [AA l] [] (HU l) []:=by
 refine qO.s.ai ?_;refine rk (s:=?s1) [1] [16] rfl ?o1 ?q1
 case o1=>simp;rfl
 refine rk (s:=?s2) [2] [16] rfl ?o2 ?q2
 case o2=>simp;rfl
 exact B3 [] [16]
theorem gT (l:List Int) (hl:l.length<=1099511627776):AF 203 [HU l] [] (.rs 0 0 l.length) [some ⟨1,AP l,0⟩]:=by
 refine kM.s.ai ?_;refine rk (s:=?s1) [0] [] rfl ?o1 ?q1
 case o1=>simp;rfl
 refine rk (s:=?s2) [2] [32] rfl ?o2 ?q2
 case o2 =>
  simp;refine C3 (n8 l hl) ?_;simp[AC];rfl
 exact B3 [32] []
theorem vW (l:List Int) (hl:l.length<=1099511627776):AF 159 [HU l] [] (.rs 0 0 l.length) [some ⟨1,AP (Gw l),0⟩]:=by
 refine ZN.s.ai ?_;refine rk (s:=?s1) [0] [] rfl ?o1 ?q1
 case o1=>simp;rfl
 refine rk (s:=?s2) [3] [32] rfl ?o2 ?q2
 case o2 =>
  simp;refine C3 (gT l hl) ?_;simp[AC];rfl
 refine rk (s:=?s3) [3] [32] rfl ?o3 ?q3
 case o3 =>
  simp;refine BZ (i:=32) rfl (e':=⟨1,Dm l,0⟩) (by simp[AC,Dm]) (PY l zy) zz zz ?_
  simp[AC,Dm];rfl
 refine rk (s:=?s4) [2] [32] rfl ?o4 ?q4
 case o4=>simp;rfl
 exact B3 [32] []
def cnt (f:Int->Int):List AV:=(List.range 64).map λ (k:Nat)=>AV.I (f (k:Int))
@[simp] theorem wZ {ρ:List (Nat × Nat)} {sn:List Nat} {h:Nat->Option AD} {f:Int->Int}:(cnt f).map (conv ρ sn h 4)=cnt f:=by
 unfold cnt;rw[Us];rfl
@[simp] theorem xP {nl:List (Nat × Nat)} {f:Int->Int}:A7 nl ⟨64,[cnt f],0⟩ ⟨64,[cnt f],0⟩:=A7.rfl' (Qk _)
section
variable {P:Program} {np id:Nat} {h:Nat->Option AD} {K:AV->List Nat->List (Nat × Option AD)->Prop} {s s' l k:Nat} {f:Bool} {rows:List (List AV)}
@[simp] theorem yD:aK P np id (.slc s true true false) [.vs s' f rows,.sc (.int .i64 (l:Int)),.sc (.int .i64 (k:Int))] h K=(l<=k/\k<=rows.length/\s'=s/\K (.vs s false ((rows.drop l).take (k - l))) [] []):=by
 rw[GU];refine propext ⟨?_,?_⟩
 .rintro ⟨l',r,m,n,h1,h2,h4,h5,h6,h7,h3,q,h8,h9⟩
  simp at h4 h1;subst h1;obtain⟨rfl,rfl⟩:l=l'/\k=r:=zy
  exact⟨h2,h3,h8,by simpa using h9⟩
 .rintro ⟨h1,h2,h3,h4⟩
  exact⟨l,k,0,rows.length,rfl,h1,zz,(λ h=>by cases h),(λ h=>by cases h),(λ h=>by cases h),h2,(λ h=>by cases h),h3,by simpa using h4⟩
end
theorem oV {g:Gr} {p:A9} {n:Int} (hp:CI n p):∀ c∈Bk g p,0<=c/\c<=1000:=by
 intro c hc;obtain⟨d,_,rfl⟩:=Ql.1 hc;exact Nk hp d
abbrev nC (n:Gg):List AV:=[.I n.nodes,BE n.arcs]
abbrev eN (n:Gg):AV:=.agg (nC n)
theorem cT (f:FuncId) (aA:List AV) (q:Ed->Bool) (l:List Ed) (hl:l.length<=1099511627776) (hs:GF aA) (hc:∀ e∈l,AF f (eE e::aA) [] (.B (q e)) []):AF 206 [BE l,.fn (.func f) [] aA] [] (.I (CB l q)) []:=by
 have h5:∀ ρ sn h,aA.map (conv ρ sn h 2)=aA:=λ _ _ _=>hs _ _ _ 1
 have u:∀ ρ sn h,aA.map (conv ρ sn h 3)=aA:=λ _ _ _=>hs _ _ _ 2
 have h1:∀ ρ sn h,aA.map (conv ρ sn h 4)=aA:=λ _ _ _=>hs _ _ _ 3
 refine mH.s.ai ?_;refine AB (AT ?_);refine AB (AB (AT ?_));refine AI (An (ι:=Nat) (λ k=>⟨19,[(0,BE l),(1,.fn (.func f) [] aA),(7,.I l.length),(8,.I k)],[],16⟩) (λ k=>k<=l.length /\ ∀ i,i<k -> ∀ h:i<l.length,q l[i]=false) (λ k=>l.length - k) (0) ?_ (AZ [] (by simp[u])) ?_)
 .simp
 rintro k ⟨hk,hp⟩
 refine AB (AT ?_);refine AB (AE _ rfl (λ h4=>?_) λ h4=>?_)
 .try simp at h4
  have h2:=w6 (x:=(k:Int)+1);have h3:=hc l[k] (Qi h4);refine AG (AB (AI (AB (Ay (s:=?s5) rfl ?o5 ?q5))))
  case o5=>simp[h4];rfl
  refine AB (Ay (s:=?s6) rfl ?o6 ?q6)
  case o6 =>
   simp[h4];refine Ah h3 ?_ ?_
   .simp [h1]
   simp;rfl
  refine AE _ rfl (λ h7=>?_) λ h7=>?_
  .try simp at h7
   refine AB (AT ?_);exact BR (AO.one (by simp[ME h4 hp h7]))
  try simp at h7
  refine AG (Ay (s:=?s9) rfl ?o9 ?q9)
  case o9=>simp[h2];rfl
  refine⟨k+1,⟨h4,λ i hi=>?_⟩,zy,AZ [] (by simp[u])⟩
  rcases Q2.1 hi with h | rfl
  .exact hp i h
  .exact λ _=>h7
 try simp at h4
 have h0:∀ i,i<l.length -> ∀ h:i<l.length,q l[i]=false:=λ i hi=>hp i zy
 refine Ak (Al (AB (AT ?_)));exact BR (AO.one (by simp[LV h0]))
theorem nY (f:FuncId) (aA:List AV) (q:Ed->Bool) (l:List Ed) (hl:l.length<=1099511627776) (hs:GF aA) (hc:∀ e∈l,AF f (eE e::aA) [] (.B (q e)) []):AF 164 [BE l,.fn (.func f) [] aA] [] (.B (l.any q)) []:=by
 have u:∀ ρ sn h,aA.map (conv ρ sn h 2)=aA:=λ _ _ _=>hs _ _ _ 1
 have h0:∀ ρ sn h,aA.map (conv ρ sn h 3)=aA:=λ _ _ _=>hs _ _ _ 2
 have h1:∀ ρ sn h,aA.map (conv ρ sn h 4)=aA:=λ _ _ _=>hs _ _ _ 3
 refine dH.s.ai ?_;refine AB (AT ?_)
 have hi:decide (0<=CB l q)=l.any q:=by
  unfold CB
  by_cases h:l.findIdx q<l.length
  .rw [if_pos h]
   have:=Vc (w:=h);have h2:l.any q=true:=UC.2 ⟨_,Qi h,this⟩;rw[h2];simp
  .rw [if_neg h]
   have:l.findIdx q=l.length:=by have:=List.findIdx_le_length (xs:=l) (p:=q);omega
   rw[U2] at this
   have h2:l.any q=false:=by
    rw[List.any_eq_false];intro x hx;simp[this x hx]
   rw[h2];simp
 refine arc ⟨9,[(4,.B (l.any q))],[],16⟩ ?_ ?_
 .simp
  refine Ah (cT f aA q l hl hs hc) ?_ ?_
  .simp [u,h0,h1]
  simp;exact AZ [] (by simp;exact A0 hi)
 exact Bg
theorem oP (n:Gg) (a:Ed) (h2:2<=n.nodes) (h3:n.nodes<=130):AF 163 [eE a,.pv (nC n)] [] (.B (!decide (HL n.nodes a))) []:=by
 refine sG.s.ai ?_;have hw:=w6 (x:=n.nodes - 1);refine rs [1,2] [] [16] ?_;refine arc ⟨43,[(3,.B (!decide (HL n.nodes a)))],[],400⟩ ?_ ?_
 .simp [hw]
  repeat' first
   | (refine Cs 33 rfl ?_;refine Ah (Dw ..) rfl ?_;simp[hw])
   | (refine DC (λ hb=>?_) (λ hb=>?_)<;>(try rw[hb])<;>(try simp at hb)<;>simp[hb,hw])
  all_goals exact AZ [] (by simp<;>exact A0 (by (try simp at *);grind [HL]))
 exact Bg
theorem P3 (n:Gg) (hl:n.arcs.length<=1099511627776):AF 109 [eN n] [] (.I (if DS n then 0 else 16)) []:=by
 refine j9.s.ai ?_;refine rs [1] [] [16] ?_;refine rs [1,3] [] [] ?_;refine AB (arc ⟨21,[(20,.B (!decide (DS n)))],[],300⟩ ?_ ?_)
 .by_cases h2:2<=n.nodes/\n.nodes<=130
  .have hcf:=nY 163 [.pv (nC n)] (λ a=>!decide (HL n.nodes a)) n.arcs hl (λ ρ sn h k=>zz) (λ e _=>oP n e h2.1 h2.2)
   simp;refine Ah (Dw ..) rfl ?_;simp[h2]
   by_cases h3:n.arcs.length<=1200
   .simp [show ¬ (1200<n.arcs.length) by omega,show ¬ (1200<(n.arcs.length:Int)) by omega]
    refine Au hcf ?_;simp;refine AZ [] (by simp<;>exact A0 (by rw[Qg];simp[DS,h2,h3]))
   .simp [show (1200<(n.arcs.length:Int)) by omega]
    refine AZ [] (by simp[DS,h3])
  .simp
   refine Ah (Dw ..) rfl ?_;have q:(decide (2<=n.nodes) && decide (n.nodes<=130))=false:=by simpa using λ h=>zy
   simp[q];have hn:¬ DS n:=λ h=>h2 ⟨h.1,h.2.1⟩;refine AZ [] (by simp[hn])
 refine AE _ rfl (λ h7=>?_) λ h7=>?_
 .simp at h7
  refine rs [2] [] [] ?_;exact BR (AO.one (by simp[h7]))
 simp at h7;refine AG (rs [2] [] [] ?_);exact BR (AO.one (by simp[h7]))
variable {g:Gr} {S:List Int} {key:Int}
variable {g:Gr} {S:List Int} {key:Int}
variable {m:Nat}
section
variable {P:Program} {np id:Nat} {h:Nat->Option AD} {K:AV->List Nat->List (Nat × Option AD)->Prop}
theorem XJ {s i off len:Nat} (l:Nat) {e:AD} (he:h i=some e) (hs:e.s=s) (hl:l<=len) (hK:K (.rs i (off+l) (len - l)) [i] []):aK P np id (.slc s true false false) [.rs i off len,.sc (.int .i64 l)] h K:=by
 rw[GU];exact⟨l,len,0,len,rfl,hl,rfl,zz,zz,zz,Qf _,rfl,⟨e,he,hs⟩,hK⟩
end
structure OX where
 D:List Int
 b:List Int
 Z:List Int
 off:Nat
 q:Nat
variable {s:OX}
structure EE (N:Nat) (A:List Ed) (f:List Int) (s:OX) (m:Nat):Prop where
 bfs:DK N A f s.D s.b
 z:s.off+s.q=s.Z.length
 d:m+s.q=s.D.length
 same:s.Z.drop s.off=s.D.drop m
section
variable {N:Nat} {A:List Ed} {f:List Int}
theorem EE.more (h:EE N A f s m) {x:Int} {b':List Int} (hb:DK N A f (s.D++[x]) b'):EE N A f ⟨s.D++[x],b',s.Z.drop s.off++[x],0,s.q+1⟩ m:=by
 have h1:=h.z;have h2:=h.d;refine⟨hb,?_,?_,?_⟩
 .simp only[Qe,QY,Q8];omega
 .simp only[Qe,Q8];omega
 .simp only[List.drop_zero]
  rw[h.same,List.drop_append_of_le_length zy]
theorem EE.pop (h:EE N A f s m) (hq:0<s.q):EE N A f { s with off:=s.off+1,q:=s.q - 1 } (m+1):=by
 have h1:=h.z;have h2:=h.d;refine⟨h.bfs,by simp only;omega,by simp only;omega,?_⟩
 simp only;rw[<- List.drop_drop,h.same,List.drop_drop]
theorem EE.head (h:EE N A f s m) (hq:0<s.q):∃ hm:m<s.D.length,s.Z[s.off]? = some s.D[m]:=by
 have h1:=h.z;have h2:=h.d;refine⟨zy,?_⟩
 have e:(s.Z.drop s.off)[0]? = (s.D.drop m)[0]?:=by rw[h.same]
 rw[Ud,Ud,Uj,Uj] at e;rw[e,Qc zy]
end
structure nN where
 X:List BL
 i:Nat
 k:Nat
theorem Is {X:List BL} {j:Nat} (h:j<X.length):(X.map D2)[j]? = some (D2 X[j]):=by rw[QB,Qc h];rfl
theorem rI (f:FuncId) (l:List BL) (n:Nat) (hn:l.length=n) (hl:n<=1000000) (hc:∀ x∈l,∀ y∈l,∃ b:Bool,AF f [Ee x,Ee y] [] (.B b) []) :
  ∃ p:List BL × List (List AV),(p.1.length<=n/\(∀ x∈p.1,x∈l) /\ ∀ ρ sn h m,p.2.map (List.map (conv ρ sn h (m+1)))=p.2)/\AF 130 [.rs 0 0 n,.fn (.func f) [] []] [⟨14,BV l,0⟩] (.rs 0 0 p.1.length) [some ⟨14,BV p.1++p.2,0⟩]:=by
 refine PA.s.acallsX (args:=[.rs 0 0 n,.fn (.func f) [] []]) (hs:=[⟨14,BV l,0⟩]) (λ p=>.rs 0 0 p.1.length) (λ p=>[some ⟨14,BV p.1++p.2,0⟩]) (λ p:List BL × List (List AV)=>p.1.length<=n/\(∀ x∈p.1,x∈l) /\ ∀ ρ sn h m,p.2.map (List.map (conv ρ sn h (m+1)))=p.2) (Ar rfl) (Ar rfl) (λ _=>zz) ?_
 show AY _ 1 _ _ ⟨66,[(0,.rs 0 0 n),(1,.fn (.func f) [] [])],[(0,some ⟨14,BV l,0⟩)],16⟩;refine ar [0,1] [(0,0)] [] 100 ?_;refine AB (arc ⟨66,[(0,.rs 0 0 n),(1,.fn (.func f) [] []),(10,.B (decide (n<2)))],[(0,some ⟨14,BV l,0⟩)],200⟩ ?_ ?_)
 .simp
  exact AN [(0,0)] [] (by simp[AC]<;>exact A0 (by rw[Qg];simp;omega)) (by simp[AC])
 refine AE _ rfl (λ _=>?_) λ h2=>AG ?_
 .refine ar [4] [(0,0)] [] 300 ?_
  refine Am (Bu.mk (.inr rfl) (l,[]) ⟨zw,λ x hx=>hx,zz⟩ ?_)
  exact AO.k1 rfl (by simp[hn]<;>exact .refl _) (by simp[AC])
 rw[Qb] at h2;refine AB (ar [0,1,5] [(0,0)] [] 300 ?_);refine AI (An (ι:=Nat) (λ i=>⟨66,[(0,.rs 0 0 n),(1,.fn (.func f) [] []),(5,.I i)],[(0,some ⟨14,BV l,0⟩)],400⟩) (λ i=>1<=i/\i<=n) (λ i=>n - i) 1 ⟨zy,zy⟩ (Aw [(0,0)] []) ?_)
 intro i ⟨he,hi⟩;refine AB (BM ⟨66,[(0,.rs 0 0 n),(1,.fn (.func f) [] []),(5,.I i),(15,.B (decide (i<n)))],[(0,some ⟨14,BV l,0⟩)],500⟩ [(0,0)] [] ?_);refine AE _ rfl (λ h=>AG ?_) λ h=>Ak (Al ?_)
 .rw [Qa] at h
  have h5:=EH h zy
  have h1:IntKind.i64.wrap ((i:Int) - 1)=((i - 1:Nat):Int):=by rw[w6];omega
  have g1:=Is (X:=l) (j:=i) zy
  have g2:=Is (X:=l) (j:=i - 1) zy
  have m1:l[i]' zy∈l:=Qi _
  have m2:l[i - 1]' zy∈l:=Qi _
  obtain⟨b,hb⟩:=hc _ m1 _ m2;have h6:i - 1<n:=zy
  generalize l[i]' zy=x at *
  generalize l[i - 1]' zy=y at *
  refine Dx ?_;refine AI ?_;apply ay [0,1,5,28] [(0,0)] [] 600
  .simp [h,h1,h6,g1,g2]
   refine Au hb ?_;simp[AC];exact⟨rfl,rfl⟩
  refine AE _ rfl (λ _=>?_) λ _=>AG ?_
  .apply ax [0,1,5,6] [(0,0)] [] 700
   .simp
    refine⟨zy,?_⟩
    simp[AC];rfl
   refine AB (ar [0,1,5,6,7] [(0,0)] [] 800 ?_);refine AI (An (ι:=nN) (λ c=>⟨66,[(0,.rs 0 0 n),(1,.fn (.func f) [] []),(5,.I c.i),(6,.rs 0 i (n - i)),(7,.I c.k)],[(0,some ⟨14,BV c.X,0⟩)],900⟩) (λ c=>(c.X.length=n /\ ∀ x∈c.X,x∈l)/\1<=c.k/\c.k<=n - i/\c.i+1<=i+c.k) (λ c=>n - i - c.k) ⟨l,i,1⟩ ⟨⟨hn,λ x hx=>hx⟩,zz,zw,zz⟩ (Aw [(0,0)] []) ?_)
   rintro⟨X,j,k⟩ ⟨⟨hX,q⟩,h7,hk,hj⟩
   simp only at hX q h7 hk hj;refine AB (BM ⟨66,[(0,.rs 0 0 n),(1,.fn (.func f) [] []),(5,.I j),(6,.rs 0 i (n - i)),(7,.I k),(35,.B (decide (k<n - i)))],[(0,some ⟨14,BV X,0⟩)],1000⟩ [(0,0)] [] ?_);refine AE _ rfl (λ h=>AG ?_) λ h=>Ak (Al ?_)
   .rw [Qa] at h
    have h3:=EH h zy
    have h8:=EH (k:=j) (N:=n) zy zy
    have h1:IntKind.i64.wrap ((k:Int) - 1)=((k - 1:Nat):Int):=by rw[w6];omega
    have g1:=Is (X:=X) (j:=i+k) zy
    have g2:=Is (X:=X) (j:=i+(k - 1)) zy
    have m1:X[i+k]' zy∈l:=q _ (Qi _)
    have m2:X[i+(k - 1)]' zy∈l:=q _ (Qi _)
    obtain⟨b2,h9⟩:=hc _ m1 _ m2;have ha:k - 1<n - i:=zy
    have u:j<n:=zy
    generalize X[i+k]' zy=x at *
    generalize X[i+(k - 1)]' zy=y at *
    refine Dx ?_;refine AI ?_;apply ay [0,1,5,6,7,49] [(0,0)] [] 1100
    .simp [h,h1,ha,g1,g2]
     refine Au h9 ?_;simp[AC];exact⟨rfl,rfl⟩
    have gj:=Is (X:=X) (j:=j) zy
    have h4:(X.map D2).set j (D2 x)=(X.set j x).map D2:=(UQ ..).symm;refine AE _ rfl (λ _=>?_) λ _=>AG ?_
    .apply ax [0,1,5,6,7] [(0,0)] [] 1200
     .simp [h,g1,u,gj,Ae]
      rw[h4]
     apply ae [0,1,5,6,7] [(0,0)] [] 1300
     .simp [h8]
      rfl
     refine Ab rfl ?_;simp[h3];refine⟨⟨X.set j x,j+1,k+1⟩,⟨⟨by simpa using hX,λ z hz=>?_⟩,zz,zw,zw⟩,zw,Aw [(0,0)] []⟩
     rcases List.mem_or_eq_of_mem_set hz with hz | rfl
     .exact q z hz
     .exact m1
    refine⟨_,Le.refl _ _,?_⟩;refine Ab rfl ?_;simp[h3];exact⟨⟨X,j,k+1⟩,⟨⟨hX,q⟩,zz,zw,zw⟩,zw,Aw [(0,0)] []⟩
   rw[Qb] at h;have u:j<=n:=zy
   obtain⟨Z,hZ⟩:∃ Z:List (List AV),Z=List.replicate (n - j) [AV.I 0,.I 0,.sc (.string ⟨#[]⟩),.I 0,.I 0,.I 0,.I 0,.I 0,.nilS,.nilS,.sc (.string ⟨#[]⟩),.I 0,.sc (.string ⟨#[]⟩),.sc (.string ⟨#[]⟩)]:=⟨_,rfl⟩;have h0:∀ ρ sn h m,Z.map (List.map (conv ρ sn h (m+1)))=Z:=λ ρ sn h m=>by rw[hZ];simp
   refine arc ⟨66,[(0,.rs 0 0 n),(5,.I j)],[(0,some ⟨14,BV (X.take j)++Z,0⟩)],2000⟩ ?_ ?_
   .simp
    refine⟨u,?_⟩;simp[hX,AC];have hd:(X.map D2).drop (j+(n - j))=[]:=QI zw
    have ht:(X.map D2).take j=(X.take j).map D2:=by rw[UH]
    refine⟨zy,?_⟩
    rw[hd,ht,<- hZ];exact AN [(0,0)] [] zz (by simp[h0,AC])
   apply ax [4] [(0,0)] [] 2100
   .simp
    refine⟨u,?_⟩;simp[h0,AC];rfl
   refine Am (Bu.mk (.inr rfl) (X.take j,Z) ⟨zw,λ x hx=>q x (QM hx),h0⟩ ?_)
   exact AO.k1 rfl (by simp[hX]<;>exact Eh zw) (by simp[h0,AC])
  refine⟨_,Le.refl _ _,?_⟩;refine Ab rfl ?_;simp[h5];exact⟨i+1,⟨zy,zy⟩,zy,Aw [(0,0)] []⟩
 rw[Qb] at h;refine ar [4] [(0,0)] [] 3000 ?_;refine Am (Bu.mk (.inr rfl) (l,[]) ⟨zw,λ x hx=>hx,zz⟩ ?_)
 exact AO.k1 rfl (by simp[hn]<;>exact .refl _) (by simp[AC])
structure rE where
 i:Nat
 Y:List BL
def Pm (a:Int) (l:List AL) (Y:List BL):Prop:=∀ x∈Y,x.s∈l/\Bz x.s/\x.s.au=a
theorem pO (a:Int) (l:List AL) (hl:l.length<=12) (hb:∀ s∈l,Cz s) :
  ∃ Y:List BL,(Pm a l Y/\Y.length<=l.length)/\AF 80 [.I a,Af l] [] (.vs 14 false (BV Y)) []:=by
 refine Pj.s.acallsX (args:=[.I a,Af l]) (hs:=[]) (λ Y=>.vs 14 false (BV Y)) (λ _=>[]) (λ Y:List BL=>Pm a l Y/\Y.length<=l.length) (Ar rfl) (Ar rfl) (λ _=>zz) ?_
 show AY _ 0 _ _ ⟨40,[(0,.I a),(1,Af l)],[],16⟩;refine ar [0,1] [] [] 100 ?_;refine ar [0,1,5] [] [] 200 ?_;refine AB (ar [0,5,8,9,10] [] [] 300 ?_);refine AI (An (ι:=rE) (λ p=>⟨40,[(0,.I a),(5,.rs 50 0 p.Y.length),(8,Af l),(9,.I l.length),(10,.I p.i)],[(50,some ⟨14,BV p.Y,0⟩)],400⟩) (λ p=>p.i<=l.length/\Pm a l p.Y/\p.Y.length<=p.i) (λ p=>l.length - p.i) ⟨0,[]⟩ ⟨Qk _,λ x hx=>(QT hx).elim,zz⟩ (Le.nw [] [(50,14)]) ?_)
 rintro⟨i,Y⟩ ⟨hi,hY,h6⟩
 simp only at hi hY h6;refine BM ⟨40,[(0,.I a),(5,.rs 50 0 Y.length),(8,Af l),(9,.I l.length),(10,.I i),(11,.B (decide (i<l.length)))],[(50,some ⟨14,BV Y,0⟩)],500⟩ [(50,50)] [] ?_;refine AB (AE _ rfl (λ h=>AG ?_) λ h=>Ak (Al ?_))
 .rw [Qa] at h
  have h1:=EH h zy
  obtain⟨s,hs⟩:=AJ (l[i]);have hg:l[i]? = some s:=by rw[hs];exact Qc h
  have h2:s∈l:=by rw[hs];exact Qi h
  have q:=hb s h2;obtain⟨e,he,h3⟩:=LW s (by have:=q.2.2.1;omega) (by have:=q.2.2.2.1;omega) (by have:=q.2.1;omega)
  obtain⟨se,h7⟩:∃ se:Bool,AF 28 [eS s] [] (.B se) []:=⟨_,Ri s q⟩;refine Dx ?_;refine AI ?_;apply ax [0,5,7,8,9,10] [(50,50)] [516] 600
  .simp [hg,Ae,AC]
   rfl
  refine arc ⟨40,[(0,.I a),(5,.rs 50 0 Y.length),(7,.pv (sC s)),(8,Af l),(9,.I l.length),(10,.I i),(26,.B (decide (s.au=a/\e=0/\se=true)))],[(50,some ⟨14,BV Y,0⟩)],1000⟩ ?_ ?_
  .by_cases u:s.au=a
   .subst u
    simp;refine Ah h3 (by simp[AC]) ?_
    simp
    repeat' first
     | (refine Cs 28 rfl ?_;refine Ah h7 (by simp[AC]) ?_;simp)
     | (refine DC (λ hb=>?_) (λ hb=>?_)<;>(try rw[hb])<;>(try simp at hb)<;>simp[hb])
    all_goals exact AN [(50,50)] [] (by simp[AC]<;>exact A0 (by rw[Qg];simp;try grind)) (by simp[AC])
   .have h4:(s.au == a)=false:=by simp[u]
    simp[u,h4];exact AN [(50,50)] [] (by simp[AC,u]) (by simp[AC])
  refine AE _ rfl (λ ht=>?_) λ _=>AG ?_
  .rw [Qa] at ht
   have h8:(Y.map D2).take Y.length=Y.map D2:=Qd zz
   apply ae [0,5,8,9,10] [(1056,50)] [] 1200
   .simp [h8,Ae,AC]
    refine⟨zy,zy,?_⟩
    rfl
   refine Ab rfl ?_;simp[h1];refine⟨⟨i+1,Y++[⟨s,s.sd⟩]⟩,⟨zw,λ x hx=>?_,zw⟩,zw,Aw [(50,50)] []⟩
   rcases Qm.1 hx with hx | hx
   .exact hY x hx
   .rw [Qv] at hx
    subst hx;exact⟨h2,he.1 ht.2.1,ht.1⟩
  refine⟨_,Le.refl _ _,?_⟩;refine Ab rfl ?_;simp[h1];exact⟨⟨i+1,Y⟩,⟨zw,hY,zw⟩,zw,Aw [(50,50)] []⟩
 rw[Qb] at h;obtain⟨n,hn⟩:=AJ (Y.length);have h0:=oX 129 FJ Y n hn.symm zy λ x _ y _=>mT x y
 obtain⟨⟨Z,R⟩,⟨h9,hZ,hR⟩,h5⟩:=rI 131 (GH FJ Y) n (by rw[wC,hn]) zy λ x _ y _=>⟨_,kK x y⟩
 have ha:∀ x∈GH FJ Y,x∈Y:=λ x hx=>by
  unfold GH at hx;exact(Ng FJ Y).mem_iff.1 (Va.1 hx)
 simp only at h9 hZ hR h5;rw[<- hn];apply ax [5] [(50,50)] [] 2000
 .simp
  refine BZ (i:=50) rfl (e':=⟨14,BV Y,0⟩) (by simp[AC]) h0 zz zz ?_
  simp[AC];rfl
 refine arc ⟨40,[(4,.rs 50 0 Z.length)],[(50,some ⟨14,BV Z++R,0⟩)],2100⟩ ?_ ?_
 .simp
  refine BZ (i:=50) rfl (e':=⟨14,BV (GH FJ Y),0⟩) (by simp[AC]) h5 zz zz ?_
  simp[AC,hR];exact AN [(50,50)] [] (by simp[AC]) (by simp[AC,hR])
 refine Am (Bu.mk (.inr rfl) Z ⟨λ x hx=>hY x (ha x (hZ x hx)),zy⟩ ?_)
 exact AO.out [] [50] rfl zz zz (by simp[AC]) zz
theorem aN (a:Int) (s:AL):AF 83 [eS s,.pv [.I a]] [] (.B (decide (s.au=a))) []:=by
 refine NY.s.ai ?_;refine ar [1,2] [] [16] 100 ?_;refine ar [3] [] [] 200 ?_;exact BR (AO.one (by simp;exact A0 (by rw[Qg];simp)))
theorem oU (f:FuncId) (aA:List AV) (q:AL->Bool) (l:List AL) (hl:l.length<=100000) (hs:GF aA) (hc:∀ s∈l,AF f (eS s::aA) [] (.B (q s)) []) :
  AF 82 [Af l,.fn (.func f) [] aA] [] (Af (l.filter q)) []:=by
 have u:∀ ρ sn h,aA.map (conv ρ sn h 2)=aA:=λ _ _ _=>hs _ _ _ 1
 have h0:∀ ρ sn h,aA.map (conv ρ sn h 3)=aA:=λ _ _ _=>hs _ _ _ 2
 have h1:∀ ρ sn h,aA.map (conv ρ sn h 4)=aA:=λ _ _ _=>hs _ _ _ 3
 refine Nr.s.ai ?_;apply ax [0,1] [] [] 100
 .simp [u,h0,h1]
  rfl
 apply ax [0,1,5] [] [] 200
 .simp [u,h0,h1]
  rfl
 refine AB ?_;apply ax [1,5,8,9,10] [] [] 300
 .simp [AC,u,h0,h1]
  rfl
 refine AI (An (ι:=Nat) (λ i=>⟨23,[(1,.fn (.func f) [] aA),(5,.rs 50 0 ((l.take i).filter q).length),(8,Af l),(9,.I l.length),(10,.I i)],[(50,some ⟨13,((l.take i).filter q).map sC,0⟩)],400⟩) (λ i=>i<=l.length) (λ i=>l.length - i) 0 (Qk _) (Le.nw [] [(50,13)] rfl (by simp[Up,u,h0,h1]) zz) ?_)
 intro i hi;obtain⟨Y,hY⟩:=AJ ((l.take i).filter q);rw[<- hY];refine arc ⟨23,[(1,.fn (.func f) [] aA),(5,.rs 50 0 Y.length),(8,Af l),(9,.I l.length),(10,.I i),(11,.B (decide (i<l.length)))],[(50,some ⟨13,Y.map sC,0⟩)],500⟩ ?_ ?_
 .simp
  exact AN [(50,50)] [] (by simp[AC,u,h0,h1]) (by simp[AC])
 have h7:Y.length<=i:=by
  rw[hY];have:=QV q (l.take i);rw[QC] at this;omega
 refine AB (AE _ rfl (λ h=>AG ?_) λ h=>Ak (Al ?_))
 .rw [Qa] at h
  have h4:=EH h zy
  obtain⟨s,h3⟩:=AJ (l[i]);have hg:l[i]? = some s:=by rw[h3];exact Qc h
  have hq:=hc s (by rw[h3];exact Qi h)
  have h2:(l.take (i+1)).filter q=Y++if q s then [s] else []:=by
   rw[hY,Qp h,Uz,<- h3]
   congr 1
   cases hh:q s<;>simp[hh]
  refine Dx ?_;refine AI ?_;apply ax [1,5,7,8,9,10] [(50,50)] [516] 600
  .simp [hg,Ae,AC,u,h0,h1]
   rfl
  apply ax [1,5,7,8,9,10,16] [(50,50)] [] 700
  .simp
   refine Ah hq (by simp[AC,u,h0,h1]) ?_
   simp[AC,u,h0,h1];rfl
  refine AE _ rfl (λ ht=>?_) λ ht=>AG ?_
  .have h6:(Y.map sC).take Y.length=Y.map sC:=Qd zz
   apply ae [1,5,8,9,10] [(724,50)] [] 1200
   .simp [h6,Ae,AC,u,h0,h1]
    refine⟨zy,zy,?_⟩
    rfl
   refine Ab rfl ?_;simp[h4];refine⟨i+1,zy,zy,?_⟩
   rw[h2];exact AN [(50,50)] [] (by simp[AC,u,h0,h1,ht]) (by simp[AC,ht])
  refine⟨_,Le.refl _ _,?_⟩;refine Ab rfl ?_;simp[h4];refine⟨i+1,zy,zy,?_⟩
  rw[h2];exact AN [(50,50)] [] (by simp[AC,u,h0,h1,ht]) (by simp[AC,ht])
 rw[Qb] at h;have h5:Y=l.filter q:=by rw[hY,Qd zy]
 refine ar [4] [(50,50)] [] 2000 ?_;refine Am ⟨.inr rfl,?_⟩;rw[<- h5];exact AO.out [] [50] rfl zz zz (by simp[AC,HB]) zz
theorem d6 (l:List AL) (a:Int) (hl:l.length<=100000):AF 32 [.agg [Af l],.I a] [] (Af (l.filter λ s=>decide (s.au=a))) []:=by
 refine N7.s.ai ?_;refine ar [2,3] [] [16,24] 100 ?_;apply ax [4] [] [] 200
 .simp
  refine Ah (oU 83 [.pv [.I a]] (λ s=>decide (s.au=a)) l hl (λ ρ sn h n=>zz) λ s _=>aN a s) (by simp[AC]) ?_
  simp;rfl
 exact BR (AO.one (by simp[AC]<;>exact .refl _))
theorem lH (l:List AL) (hl:l.length<=100000) (hb:∀ s∈l,Cz s):∃ b:Bool,True/\AF 26 [.agg [Af l]] [] (.B b) []:=by
 refine Ny.s.acallsX (args:=[.agg [Af l]]) (hs:=[]) (λ b=>.B b) (λ _=>[]) (λ _:Bool=>True) (Ar rfl) (Ar rfl) (λ _=>zz) ?_
 show AY _ 0 _ _ ⟨41,[(0,.agg [Af l])],[],16⟩;refine ar [1] [] [16] 100 ?_;refine AB (ar [1,8] [] [] 200 ?_);refine AE _ rfl (λ _=>?_) λ _=>AG ?_
 .refine ar [2] [] [] 300 ?_
  exact Am (Bu.mk (.inr rfl) false trivial (AO.one zz))
 refine AB (ar [1,10,11,12] [] [] 400 ?_);refine AI (An (ι:=Nat) (λ i=>⟨41,[(1,.pv [Af l]),(10,Af l),(11,.I l.length),(12,.I i)],[],500⟩) (λ i=>i<=l.length) (λ i=>l.length - i) 0 (Qk _) (Aw [] []) ?_);intro i hi;refine BM ⟨41,[(1,.pv [Af l]),(10,Af l),(11,.I l.length),(12,.I i),(13,.B (decide (i<l.length)))],[],600⟩ [] [] ?_;refine AB (AE _ rfl (λ h=>AG ?_) λ h=>Ak (Al ?_))
 .rw [Qa] at h
  have h4:=EH h zy
  obtain⟨s,h1⟩:=AJ (l[i]);have hg:l[i]? = some s:=by rw[h1];exact Qc h
  have q:=hb s (by rw[h1];exact Qi h)
  obtain⟨e,_,h2⟩:=LW s (by have:=q.2.2.1;omega) (by have:=q.2.2.2.1;omega) (by have:=q.2.1;omega)
  obtain⟨se,h3⟩:∃ se:Bool,AF 28 [eS s] [] (.B se) []:=⟨_,Ri s q⟩
  obtain⟨y,u⟩:∃ y,0<i->l[i - 1]? = some y:=by
   by_cases h0:0<i
   .exact ⟨l[i - 1]' zy,λ _=>Qc zy⟩
   .exact ⟨s,λ hh=>absurd hh h0⟩
  have h5:0<i->IntKind.i64.wrap ((i:Int) - 1)=((i - 1:Nat):Int):=λ h0=>by rw[w6];omega
  obtain⟨v,hv⟩:∃ v:Int,AF 69 [eS y,eS s] [] (.I v) []:=⟨_,NX y s⟩;refine Dx ?_;refine AI ?_;apply ax [1,3,4,10,11,12] [] [624] 700
  .simp [hg,Ae,AC]
   rfl
  obtain⟨b,h6⟩:∃ b:Bool,b=decide (e≠0∨se=false∨(0<i/\0<=v)):=⟨_,rfl⟩;refine Bi ⟨41,[(1,.pv [Af l]),(10,Af l),(11,.I l.length),(12,.I i),(39,.B b)],[],1200⟩ ?_ ?_
  .simp
   refine Ah h2 (by simp[AC]) ?_
   simp
   by_cases h0:0<i
   .have hw:=h5 h0
    have u:=u h0;have h7:i - 1<l.length:=zy
    try simp[h0]
    repeat' first
     | (refine Cs 28 rfl ?_;refine Ah h3 (by simp[AC]) ?_;simp)
     | (refine Cs 69 rfl ?_;refine Ah hv (by simp[AC]) ?_;simp)
     | (refine DC (λ hb=>?_) (λ hb=>?_)<;>(try rw[hb])<;>(try simp at hb)<;>simp[hb,h0,hw,u])
    all_goals exact⟨rfl,AN [] [] (by simp[AC]<;>exact A0 (by subst b;rw[Qg];simp;try grind))⟩
   .try simp[h0]
    repeat' first
     | (refine Cs 28 rfl ?_;refine Ah h3 (by simp[AC]) ?_;simp)
     | (refine DC (λ hb=>?_) (λ hb=>?_)<;>(try rw[hb])<;>(try simp at hb)<;>simp[hb,h0])
    all_goals exact⟨rfl,AN [] [] (by simp[AC]<;>exact A0 (by subst b;rw[Qg];simp;try grind))⟩
  refine AE _ rfl (λ _=>?_) λ _=>AG ?_
  .refine ar [2] [] [] 1300 ?_
   exact Am (Bu.mk (.inr rfl) false trivial (AO.one zz))
  refine⟨_,Le.refl _ _,?_⟩;refine Ab rfl ?_;simp[h4];exact⟨i+1,zy,zy,Aw [] []⟩
 refine ar [2] [] [] 2000 ?_;exact Am (Bu.mk (.inr rfl) true trivial (AO.one zz))
structure Ge (a:Int) (l Y:List AL):Prop where
 mem:∀ x∈Y,x∈l/\Bz x/\x.au=a
 num:∀ i (h:i<Y.length),Y[i].nu=i
 fol:∀ i (h:i+1<Y.length),HG Y[i] Y[i+1]/\Y[i].ki≠3
theorem Ge.nil (a:Int) (l:List AL):Ge a l []:=⟨λ x hx=>(QT hx).elim,λ i h=>by simp at h,λ i h=>by simp at h⟩
theorem Ge.snoc {a:Int} {l Y:List AL} (h:Ge a l Y) {x:AL} (hx:x∈l/\Bz x/\x.au=a) (hn:x.nu=Y.length) (hf:∀ (h0:0<Y.length),HG (Y[Y.length - 1]' zy) x/\(Y[Y.length - 1]' zy).ki≠3):Ge a l (Y++[x]):=by
 refine⟨λ y hy=>?_,λ i hi=>?_,λ i hi=>?_⟩
 .rcases Qm.1 hy with hy | hy
  .exact h.mem y hy
  .rw [Qv] at hy;subst hy;exact hx
 .by_cases hl:i<Y.length
  .rw [Q5 hl];exact h.num i hl
  .rw [Qe,Q8] at hi
   have e:i=Y.length:=zy
   subst e;rw[List.getElem_append_right zy]
   simpa using hn
 .rw [Qe,Q8] at hi
  by_cases hl:i+1<Y.length
  .rw [Q5 zy,Q5 hl];exact h.fol i hl
  .have e:i+1=Y.length:=zy
   have h1:=hf zy
   rw[Q5 zy,List.getElem_append_right zy]
   have e2:Y.length - 1=i:=zy
   simp only[e2] at h1;have e3:i+1 - Y.length=0:=zy
   simpa [e3] using h1
structure m9 where
 i:Nat
 Y:List AL
theorem SN (a:Int) (l:List AL) (hl:l.length<=12) (hb:∀ s∈l,Cz s) :
  ∃ Y:List AL,Ge a l Y/\AF 31 [.I a,Af l] [] (Af Y) []:=by
 refine O1.s.acallsX (args:=[.I a,Af l]) (hs:=[]) (λ Y=>Af Y) (λ _=>[]) (λ Y:List AL=>Ge a l Y) (Ar rfl) (Ar rfl) (λ _=>zz) ?_
 show AY _ 0 _ _ ⟨79,[(0,.I a),(1,Af l)],[],16⟩;obtain⟨L,⟨hL,hz⟩,hf⟩:=pO a l hl hb;refine ar [0,1] [] [] 100 ?_;apply ax [5] [] [] 200
 .simp
  refine Ah hf (by simp[AC]) ?_
  simp[AC];rfl
 refine ar [5,6] [] [] 300 ?_;refine AB (ar [5,6,13,14,15] [] [] 400 ?_);refine AI (An (ι:=m9) (λ p=>⟨79,[(5,.vs 14 false (BV L)),(6,.rs 50 0 p.i),(13,.vs 14 false (BV L)),(14,.I L.length),(15,.I p.i)],[(50,some ⟨13,p.Y.map sC,0⟩)],500⟩) (λ p=>(p.i<=L.length/\p.Y.length=p.i)/\Ge a l p.Y /\ ∀ j (h:j<p.i) (h2:j<L.length),p.Y[j]? = some L[j].s) (λ p=>L.length - p.i) ⟨0,[]⟩ ⟨⟨Qk _,rfl⟩,Ge.nil a l,λ j h=>by simp at h⟩ (Le.nw [] [(50,13)]) ?_)
 rintro⟨i,Y⟩ ⟨⟨hi,q⟩,hY,h8⟩
 simp only at hi q hY h8;refine BM ⟨79,[(5,.vs 14 false (BV L)),(6,.rs 50 0 i),(13,.vs 14 false (BV L)),(14,.I L.length),(15,.I i),(16,.B (decide (i<L.length)))],[(50,some ⟨13,Y.map sC,0⟩)],600⟩ [(50,50)] [] ?_;have a0:(Y.map sC).take i=Y.map sC:=Qd (by simp[q])
 have u:∀ f:AL->List AV,(Y.map f).take i=Y.map f:=λ f=>Qd (by simp[q])
 refine AB (AE _ rfl (λ h=>AG ?_) λ h=>Ak (Al ?_))
 .rw [Qa] at h
  have ha:=EH h zy
  obtain⟨x,hx⟩:=AJ (L[i]);have hg:=Is (X:=L) (j:=i) h;have h4:=hL x (by rw[hx];exact Qi h)
  rw[<- hx] at hg;have a1:=h4.2.1.2.2.2.1.1;refine Dx ?_;refine AI ?_;apply ax [5,6,7,8,13,14,15] [(50,50)] [624] 700
  .simp [hg,Ae,AC]
   rfl
  obtain⟨al,h6,h7⟩:∃ al:Bool,(i+1=L.length->al=true) /\ ∀ h:i+1<L.length,al=decide (L[i+1].s.nu≠x.s.nu):=by
   by_cases hh:i+1<L.length
   .exact ⟨decide (L[i+1].s.nu≠x.s.nu),λ h2=>zy,λ _=>rfl⟩
   .exact ⟨true,λ _=>rfl,λ h2=>absurd h2 hh⟩
  refine Bi ⟨79,[(5,.vs 14 false (BV L)),(6,.rs 50 0 i),(7,.I i),(8,.pv (D2 x)),(9,.B al),(13,.vs 14 false (BV L)),(14,.I L.length),(15,.I i)],[(50,some ⟨13,Y.map sC,0⟩)],1000⟩ ?_ ?_
  .obtain ⟨m,hm⟩:=AJ (i+1)
   have h5:IntKind.i64.wrap ((i:Int)+1)=(m:Int):=by rw[ha,hm]
   rw[<- hm] at h6 h7
   by_cases h9:m=L.length
   .have hc:((m:Int) == (L.length:Int))=true:=zw
    rw[h6 h9];simp[h5,hc];exact⟨rfl,Aw [(50,50)] []⟩
   .have hc:((m:Int) == (L.length:Int))=false:=zw
    have hd:m<L.length:=zy
    have hk:=Is (X:=L) (j:=m) hd;rw[h7 hd];generalize L[m]=y at *;simp[h5,hc,hk];exact⟨rfl,AN [(50,50)] [] (by simp[AC]<;>exact A0 (by rw[Qg];simp;try grind)) (by simp[AC])⟩
  obtain⟨y,hy⟩:∃ y,0<i->L[i - 1]? = some y:=by
   by_cases h0:0<i
   .exact ⟨L[i - 1]' zy,λ _=>Qc zy⟩
   .exact ⟨x,λ hh=>absurd hh h0⟩
  have h5:0<i->IntKind.i64.wrap ((i:Int) - 1)=((i - 1:Nat):Int):=λ h0=>by rw[w6];omega
  obtain⟨t,hn,he⟩:=rW y x zy
  obtain⟨b,ho⟩:∃ b:Bool,b=decide (al=false∨x.s.nu≠i∨(0<i/\(t=false∨y.s.ki=3))):=⟨_,rfl⟩;refine AB (Bi ⟨79,[(5,.vs 14 false (BV L)),(6,.rs 50 0 i),(8,.pv (D2 x)),(13,.vs 14 false (BV L)),(14,.I L.length),(15,.I i),(70,.B b)],[(50,some ⟨13,Y.map sC,0⟩)],2000⟩ ?_ ?_)
  .by_cases h0:0<i
   .have hw:=h5 h0
    have hq:(L.map D2)[i - 1]? = some (D2 y):=by rw[QB,hy h0];rfl
    simp
    repeat' first
     | (refine Cs 81 rfl ?_;refine Ah he (by simp[AC]<;>omega) ?_;simp)
     | (refine DC (λ hb=>?_) (λ hb=>?_)<;>(try rw[hb])<;>(try simp at hb)<;>simp[hb,h0,hw,hq])
    all_goals exact⟨rfl,AN [(50,50)] [] (by simp[AC]<;>exact A0 (by subst b;rw[Qg];simp;try grind)) (by simp[AC])⟩
   .simp
    repeat' first
     | (refine DC (λ hb=>?_) (λ hb=>?_)<;>(try rw[hb])<;>(try simp at hb)<;>simp[hb,h0])
    all_goals exact⟨rfl,AN [(50,50)] [] (by simp[AC]<;>exact A0 (by subst b;rw[Qg];simp;try grind)) (by simp[AC])⟩
  refine AE _ rfl (λ _=>?_) λ hr=>AG ?_
  .refine Ak (IE zx ?_)
   refine Al (ar [4] [(50,50)] [] 3000 ?_);refine Am (Bu.mk (.inr rfl) Y hY ?_);exact AO.out [] [50] rfl zz zz (by simp[AC,q,u]) zz
  rw[ho,Qb] at hr;have ht:=Xj x.s (by have:=(hb x.s h4.1).2.2.1;omega) (by have:=(hb x.s h4.1).2.2.2.1;omega)
  apply ae [5,13,14,15,6] [(2040,50)] [] 3000
  .simp
   refine Au ht ?_;simp[u,q,AC,Ae];refine⟨zy,zy,?_⟩
   rfl
  refine Ab rfl ?_;simp[ha];refine⟨⟨i+1,Y++[x.s]⟩,⟨⟨zw,by simp[q]⟩,hY.snoc h4 (by rw[q];grind) λ h0=>?_,λ j hj hu=>?_⟩,zw,AN [(50,50)] [] (by simp[AC]) (by simp[AC,q])⟩
  .have h1:Y[Y.length - 1]? = some y.s:=by
    have:=h8 (i - 1) zy zy
    rw[q,this];have h2:=hy zy
    rw[Qc zy] at h2
    rw[Qh h2]
   rw[Qc zy] at h1
   rw[Qh h1]
   have h3:t=true/\y.s.ki≠3:=by
    have:0<i:=zy
    cases t<;>grind
   exact⟨hn h3.1,h3.2⟩
  .simp only at hj
   by_cases hv:j<i
   .rw [QG zy]
    exact h8 j hv hu
   .have e:j=i:=zy
    subst e;rw[Qr zy]
    simp[q,hx]
 refine ar [4] [(50,50)] [] 2000 ?_;refine Am (Bu.mk (.inr rfl) Y hY ?_);exact AO.out [] [50] rfl zz zz (by simp[AC,q,u]) zz
theorem VT (l:List AL) (hl:l.length<=1000000):AF 77 [Af l] [] (.rs 0 0 l.length) [some ⟨13,l.map sC,0⟩]:=by
 cases l with
 | nil =>
   refine LP λ ad c=>?_;refine MU.s.ai ?_;refine AB (AT ?_);refine Bm ⟨8,[(0,.vs 13 false [])],[],40⟩ ?_ ?_
   .refine AB (AT ?_)
    refine AE _ rfl (λ h3=>?_) λ h3=>?_
    .refine arc ⟨8,[(2,.rs 40 0 0)],[(40,some ⟨13,[],0⟩)],48⟩ ?_ ?_
     .simp
      exact Le.lst [] [] [(40,13)] rfl zz zz zz zz zz zz zz (by simp[Up]) zz
     exact B3 [40] []
    exact AG (Le.slots rfl rfl (by simp;exact .mt _ _ _))
   refine AB (Ay (s:=?s5) rfl ?o5 ?q5)
   case o5=>simp[List.replicate];rfl
   exact B3 [56] []
 | cons x l =>
   refine MU.s.ai ?_;refine AB (AT ?_);refine AB (AB (AT ?_));refine AE _ rfl (λ h3=>by cases h3) λ h3=>?_
   refine AG (AB (Ay (s:=?t4) rfl ?p4 ?r4))
   case p4=>simp[List.replicate];refine⟨by simp at hl;omega,by simp at hl;omega,?_⟩;rfl
   exact B3 [56] []
theorem RF (l:List AL) (hl:l.length<=100000) (hb:∀ s∈l,Cz s):AF 30 [Af l] [] (.rs 0 0 l.length) [some ⟨13,l.map sC,0⟩]:=by
 refine Ow.s.ai ?_;refine ar [0] [] [] 100 ?_;apply ax [3] [(108,50)] [] 200
 .simp
  refine Di (VT l zy) (by simp[AC]) ?_
  simp[AC];rfl
 refine AB (ar [3,8,9,10] [(50,50)] [] 300 ?_);refine AI (An (ι:=Nat) (λ i=>⟨31,[(3,.rs 50 0 l.length),(8,.rs 50 0 l.length),(9,.I l.length),(10,.I i)],[(50,some ⟨13,l.map sC,0⟩)],400⟩) (λ i=>i<=l.length) (λ i=>l.length - i) 0 (Qk _) (Aw [(50,50)] []) ?_);intro i hi;refine BM ⟨31,[(3,.rs 50 0 l.length),(8,.rs 50 0 l.length),(9,.I l.length),(10,.I i),(11,.B (decide (i<l.length)))],[(50,some ⟨13,l.map sC,0⟩)],500⟩ [(50,50)] [] ?_;refine AB (AE _ rfl (λ h=>AG ?_) λ h=>Ak (Al ?_))
 .rw [Qa] at h
  have h0:=EH h zy
  have hg:(l.map sC)[i]? = some (sC l[i]):=by rw[QB,Qc h];rfl
  have q:=hb l[i] (Qi h)
  have u:(l.map sC).set i (sC l[i])=l.map sC:=by
   rw[<- UQ]
   congr 1
   exact List.set_getElem_self h
  have h1:(l.map sC).length=l.length:=zz
  generalize l[i]=s at *;refine Dx ?_;refine AI ?_;apply ax [3,4,5,8,9,10] [(50,50)] [524] 600
  .simp [hg,Ae,AC]
   refine⟨h,?_⟩;rfl
  refine Cx rfl ?_;simp;refine Di (Hr s.li (by have:=q.2.2.1;omega)) (by simp[AC]) ?_
  simp;refine Di (PT s.pi (by have:=q.2.2.2.1;omega)) (by simp[AC]) ?_
  simp[hg,Ae];refine⟨h,_,List.getElem?_set_self (by simp;exact h),zz,rfl,?_⟩
  refine⟨⟨31,[(3,.rs 50 0 l.length),(8,.rs 50 0 l.length),(9,.I l.length),(10,.I i)],[(50,some ⟨13,l.map sC,0⟩)],1000⟩,AN [(50,50)] [648,672] zz ?_,?_⟩
  .simp [UQ,AC,HB]
   exact u
  refine Ab rfl ?_;simp[h0];exact⟨i+1,zy,zy,Aw [(50,50)] []⟩
 refine ar [2] [(50,50)] [] 2000 ?_;refine Am ⟨.inr rfl,?_⟩;exact AO.out [50] [] rfl zz zz zz (by simp[AC])
theorem qQ (s:AL) (hs:Cz s):AF 63 [eS s] [] (eS { s with sk:=s.au,sd:=Cd s }) []:=by
 refine Re.s.ai ?_;have hb:=hs;obtain⟨_,_,h1,h2,_⟩:=hs;refine ar [1,2] [(16,16),(24,24)] [] 100 ?_;apply ay [1,2] [(16,16),(24,24),(116,50),(140,60)] [] 200
 .simp
  refine C3 (Hr s.li zy) ?_
  simp;refine C3 (PT s.pi zy) ?_
  simp[Ae];exact⟨rfl,rfl⟩
 apply ay [1,2] [(16,16),(24,24),(50,50),(60,60)] [] 300
 .simp
  refine FZ [50,60] (La s hb) (by simp[AC,HB]) (.sc _) ?_
  simp[Ae];exact⟨rfl,rfl⟩
 apply ax [2] [(24,24),(50,50),(60,60)] [] 400
 .simp [Ae,AC]
  rfl
 refine Am ⟨.inr rfl,?_⟩;exact AO.out [] [24,50,60] rfl zz zz (by simp[AC,HB]) zz
theorem gS (a b:List Pn) (hl:a.length<=1000000):∃ t:Bool,True/\AF 114 [Cq a,Cq b] [] (.B t) []:=by
 refine zBB.acallsX (args:=[Cq a,Cq b]) (hs:=[]) (λ t=>.B t) (λ _=>[]) (λ _:Bool=>True) (Ar rfl) (Ar rfl) (λ _=>zz) ?_
 show AY _ 0 _ _ ⟨26,[(0,Cq a),(1,Cq b)],[],16⟩;refine ar [0,1] [] [] 100 ?_;refine AB (arc ⟨26,[(0,Cq a),(1,Cq b),(10,.B (decide (a.length≠b.length)))],[],200⟩ ?_ ?_)
 .simp
  exact AN [] [] (by simp[AC]<;>exact A0 (by rw[Qg];simp;try omega))
 refine AE _ rfl (λ _=>?_) λ q=>AG ?_
 .refine ar [4] [] [] 300 ?_
  exact Am (Bu.mk (.inr rfl) false trivial (AO.one zz))
 simp only[ne_eq,decide_not,U9,Qa] at q;refine AB (ar [0,1,12,13] [] [] 300 ?_);refine AI (An (ι:=Nat) (λ i=>⟨26,[(0,Cq a),(1,Cq b),(12,.I a.length),(13,.I i)],[],400⟩) (λ i=>i<=a.length) (λ i=>a.length - i) 0 (Qk _) (Aw [] []) ?_);intro i hi;refine BM ⟨26,[(0,Cq a),(1,Cq b),(12,.I a.length),(13,.I i),(14,.B (decide (i<a.length)))],[],500⟩ [] [] ?_;refine AB (AE _ rfl (λ h=>AG ?_) λ h=>Ak (Al ?_))
 .rw [Qa] at h
  have u:=EH h zy
  have g1:a[i]? = some a[i]:=Qc h;have g2:b[i]? = some (b[i]' zy):=Qc _
  generalize a[i]=x at *;generalize b[i]' zy=y at *
  refine Dx ?_;refine AI (ar [0,1,5,12,13] [] [] 600 ?_);apply ay [0,1,12,13,24] [] [] 700
  .simp [g1,g2,C6]
   exact⟨rfl,rfl⟩
  refine AE _ rfl (λ _=>?_) λ _=>AG ?_
  .refine ar [4] [] [] 800 ?_
   exact Am (Bu.mk (.inr rfl) false trivial (AO.one zz))
  refine⟨_,Le.refl _ _,?_⟩;refine Ab rfl ?_;simp[u];exact⟨i+1,zy,zy,Aw [] []⟩
 refine ar [4] [] [] 2000 ?_;exact Am (Bu.mk (.inr rfl) true trivial (AO.one zz))
theorem kU (a b:AL) (ha:Cz a):∃ t:Bool,True/\AF 60 [eS a,eS b] [] (.B t) []:=by
 refine zBI.acallsX (args:=[eS a,eS b]) (hs:=[]) (λ t=>.B t) (λ _=>[]) (λ _:Bool=>True) (Ar rfl) (Ar rfl) (λ _=>zz) ?_
 show AY _ 0 _ _ ⟨87,[(0,eS a),(1,eS b)],[],16⟩;have hI:=RB a.li b.li (by have:=ha.2.2.1;omega)
 obtain⟨t,_,hP⟩:=gS a.pi b.pi (by have:=ha.2.2.2.1;omega)
 generalize decide (a.li=b.li)=u at hI;refine ar [2,3] [] [16,24] 100 ?_;obtain⟨c,hc⟩:∃ c:Bool,c=decide (a.au=b.au/\a.nu=b.nu/\a.pr.toList=b.pr.toList/\a.ti=b.ti/\a.ki=b.ki/\a.a=b.a/\a.b=b.b/\a.c=b.c/\u=true/\t=true/\a.bo.toList=b.bo.toList/\a.sk=b.sk/\a.sd.toList=b.sd.toList):=⟨_,rfl⟩;refine arc ⟨87,[(4,.B c)],[],1000⟩ ?_ ?_
 .simp
  repeat' first
   | (refine Cs 40 rfl ?_;refine Ah hI zz ?_;simp)
   | (refine Cs 114 rfl ?_;refine Ah hP zz ?_;simp)
   | (refine DC (λ hb=>?_) (λ hb=>?_)<;>(try rw[hb])<;>(try simp at hb)<;>simp[hb,C6])
  all_goals exact AN [] [] (by simp<;>exact A0 (by subst c;rw[Qg];simp;try grind))
 exact Am (Bu.mk (.inr rfl) c trivial (AO.one zz))
theorem eK (a b:List AL) (ha:a.length<=100000) (hb:∀ s∈a,Cz s):∃ t:Bool,True/\AF 59 [Af a,Af b,.fn (.func 60) [] []] [] (.B t) []:=by
 refine NO.s.acallsX (args:=[Af a,Af b,.fn (.func 60) [] []]) (hs:=[]) (λ t=>.B t) (λ _=>[]) (λ _:Bool=>True) (Ar rfl) (Ar rfl) (λ _=>zz) ?_
 show AY _ 0 _ _ ⟨32,[(0,Af a),(1,Af b),(2,.fn (.func 60) [] [])],[],16⟩;refine ar [0,1,2] [] [] 100 ?_;refine AB (arc ⟨32,[(0,Af a),(1,Af b),(2,.fn (.func 60) [] []),(14,.B (decide (a.length≠b.length)))],[],200⟩ ?_ ?_)
 .simp
  exact AN [] [] (by simp[AC]<;>exact A0 (by rw[Qg];simp;try omega))
 refine AE _ rfl (λ _=>?_) λ q=>AG ?_
 .refine ar [6] [] [] 300 ?_
  exact Am (Bu.mk (.inr rfl) false trivial (AO.one zz))
 simp only[ne_eq,decide_not,U9,Qa] at q;refine AB (ar [1,2,15,16,17] [] [] 300 ?_);refine AI (An (ι:=Nat) (λ i=>⟨32,[(1,Af b),(2,.fn (.func 60) [] []),(15,Af a),(16,.I a.length),(17,.I i)],[],400⟩) (λ i=>i<=a.length) (λ i=>a.length - i) 0 (Qk _) (Aw [] []) ?_);intro i hi;refine BM ⟨32,[(1,Af b),(2,.fn (.func 60) [] []),(15,Af a),(16,.I a.length),(17,.I i),(18,.B (decide (i<a.length)))],[],500⟩ [] [] ?_;refine AB (AE _ rfl (λ h=>AG ?_) λ h=>Ak (Al ?_))
 .rw [Qa] at h
  have u:=EH h zy
  have g1:a[i]? = some a[i]:=Qc h;have g2:b[i]? = some (b[i]' zy):=Qc _
  have hB:=hb a[i] (Qi h);generalize a[i]=x at *;generalize b[i]' zy=y at *
  obtain⟨t,_,ht⟩:=kU x y hB;refine Dx ?_;refine AI ?_;apply ax [1,2,7,8,15,16,17] [] [524] 600
  .simp [g1,Ae,AC]
   rfl
  apply ax [1,2,8,9,15,16,17] [] [632] 700
  .simp [g2,Ae,AC]
   rfl
  apply ax [1,2,15,16,17,30] [] [] 800
  .simp
   refine Ah ht (by simp[AC]) ?_
   simp[AC];rfl
  refine AE _ rfl (λ _=>?_) λ _=>AG ?_
  .refine ar [6] [] [] 900 ?_
   exact Am (Bu.mk (.inr rfl) false trivial (AO.one zz))
  refine⟨_,Le.refl _ _,?_⟩;refine Ab rfl ?_;simp[u];exact⟨i+1,zy,zy,Aw [] []⟩
 refine ar [6] [] [] 2000 ?_;exact Am (Bu.mk (.inr rfl) true trivial (AO.one zz))
def K6 (a:Int) (s y:AL):Prop:=Cz y/\y.au=a/\y.ki=s.ki/\y.a=s.a/\y.ti=s.ti
theorem Wu (a:Int) (l:List AL) (s:AL) (hl:l.length<=12) (hb:∀ s∈l,Cz s) (hs:Cz s) :
  ∃ p:AL × Int,(p.2=0->Bz p.1/\K6 a s p.1)/\AF 24 [.I a,Af l,eS s] [] (.tup [eS p.1,.I p.2]) []:=by
 refine Jh.s.acallsX (args:=[.I a,Af l,eS s]) (hs:=[]) (λ p=>.tup [eS p.1,.I p.2]) (λ _=>[]) (λ p:AL × Int=>p.2=0->Bz p.1/\K6 a s p.1) (Ar rfl) (Ar rfl) (λ _=>zz) ?_
 show AY _ 0 _ _ ⟨62,[(0,.I a),(1,Af l),(2,eS s)],[],16⟩;obtain⟨Y,hY,h3⟩:=SN a l hl hb;obtain⟨t,_,heq⟩:=eK l Y zy hb
 have h4:=Xj s (by have:=hs.2.2.1;omega) (by have:=hs.2.2.2.1;omega)
 have fin:∀ (e:Int),e≠0 -> ∀ (st:St),st.get 6 = .pt 24 0 0->st.get 7 = .I e->st.hp 24=some ⟨13,[zC],0⟩->(Bu Jh.c.res ([]:List AD).length (λ p:AL × Int=>.tup [eS p.1,.I p.2]) (λ _=>[]) (λ p:AL × Int=>p.2=0->Bz p.1/\K6 a s p.1)) .ret st:=λ e he st h6 h7 h5=>by
  refine Bu.mk (.inr rfl) (zS,e) (λ h=>absurd h he) ?_;show AO [(6,some (true,13)),(7,none)] 0 _ _ _;exact AO.out (vs:=[.agg zC,.I e]) [] [24] (by simp[EJ,Fl,h6,h7,h5,EQ]) zz zz (by simp;exact D5 uJ (.refl _)) zz
 refine ar [0,1,5,6] [(24,24)] [16] 100 ?_;refine AB ?_;apply ax [0,1,5,6,8] [(24,24)] [] 200
 .simp
  refine Ah h3 (by simp[AC]) ?_
  simp[AC];rfl
 apply ax [0,1,5,6,19] [(24,24)] [] 300
 .simp
  refine Ah heq (by simp[AC]) ?_
  simp[AC];rfl
 refine AE _ rfl (λ _=>?_) λ _=>AG ?_
 .apply ax [6,7] [(24,24)] [] 400
  .simp [Ae]
   rfl
  exact Am (fin 1 zx _ rfl rfl rfl)
 apply ax [0,1,5,6,9] [(24,24),(316,50)] [] 400
 .simp
  refine Au h4 ?_;simp[Ae];rfl
 apply ax [1,5,6,9] [(24,24),(50,50)] [] 500
 .simp [Ae]
  rfl
 refine EL (ι:=AL) (λ y=>⟨62,[(6,.pt 24 0 0),(9,.pt 50 0 0)],[(24,some ⟨13,[zC],0⟩),(50,some ⟨13,[sC y],0⟩)],2000⟩) (K6 a s) ?_ λ y hy=>?_
 .refine ar [1,5,6,9,10] [(24,24),(50,50)] [] 600 ?_
  refine BM ⟨62,[(1,Af l),(5,.pv (sC s)),(6,.pt 24 0 0),(9,.pt 50 0 0),(10,.I l.length),(30,.B (decide (0<l.length)))],[(24,some ⟨13,[zC],0⟩),(50,some ⟨13,[sC { s with au:=a,nu:=0,pr:=DQ }],0⟩)],700⟩ [(24,24),(50,50)] [] ?_;refine AE _ rfl (λ h=>?_) λ _=>AG ?_
  .rw [Qa] at h
   have h8:IntKind.i64.wrap ((l.length:Int) - 1)=((l.length - 1:Nat):Int):=by rw[w6];omega
   have hg:l[l.length - 1]? = some (l[l.length - 1]' zy):=Qc _
   have hB:=hb (l[l.length - 1]' zy) (Qi _)
   generalize l[l.length - 1]' zy=x at *
   apply ax [5,6,9,10,11] [(24,24),(50,50)] [740] 800
   .simp [h8,hg,Ae,AC]
    rfl
   refine AB (AI (ar [6,9,10,11,36] [(24,24),(50,50)] [] 900 ?_));refine AE _ rfl (λ _=>?_) λ _=>?_
   .apply ax [6,7] [(24,24)] [] 1000
    .simp [Ae]
     rfl
    exact Am (fin 9 zx _ rfl rfl rfl)
   refine ar [6,9,10,11,43] [(24,24),(50,50)] [] 1000 ?_;refine AE _ rfl (λ _=>?_) λ _=>AG ?_
   .apply ax [6,7] [(24,24)] [] 1100
    .simp [Ae]
     rfl
    exact Am (fin 5 zx _ rfl rfl rfl)
   refine Ab rfl ?_;simp;refine Ah (La x hB) (by simp[AC]) ?_
   simp[Ae];exact⟨{ s with au:=a,nu:=l.length,pr:=Cd x },⟨⟨by show (Cd x).size<=5000;rw[iW];omega,hs.2⟩,rfl,rfl,rfl,rfl⟩,DU [(24,24),(50,50)] []⟩
  exact⟨{ s with au:=a,nu:=0,pr:=DQ },⟨⟨by show DQ.size<=5000;decide,hs.2⟩,rfl,rfl,rfl,rfl⟩,DU [(24,24),(50,50)] []⟩
 have u:=hy.1;obtain⟨z,hz⟩:∃ z:AL,z={ y with sk:=y.au,sd:=Cd y }:=⟨_,rfl⟩;have h1:=qQ y u;rw[<- hz] at h1;have q:Cz z:=by rw[hz];exact u
 obtain⟨e,he,h2⟩:=LW z (by have:=q.2.2.1;omega) (by have:=q.2.2.2.1;omega) (by have:=q.2.1;omega)
 apply ax [6,9] [(24,24),(50,50)] [] 3000
 .simp
  refine Au h1 ?_;simp[Ae];rfl
 refine AB ?_;apply ax [6,9,12] [(24,24),(50,50)] [] 3100
 .simp
  refine Au h2 ?_;simp[Ae];rfl
 refine arc ⟨62,[(6,.pt 24 0 0),(9,.pt 50 0 0),(12,.I e),(58,.B (decide (e≠0)))],[(24,some ⟨13,[zC],0⟩),(50,some ⟨13,[sC z],0⟩)],3200⟩ ?_ ?_
 .simp
  exact AN [(24,24),(50,50)] [] (by simp[AC]<;>exact A0 (by rw[Qg];simp)) (by simp[AC])
 refine AE _ rfl (λ h=>?_) λ h=>AG ?_
 .rw [Qa] at h
  apply ax [6,7] [(24,24)] [] 3300
  .simp [Ae]
   rfl
  exact Am (fin e h _ rfl rfl rfl)
 have h0:e=0:=by simpa using h
 apply ax [6,7] [(24,24)] [] 3300
 .simp [Ae]
  rfl
 refine Am (Bu.mk (.inr rfl) (z,0) (λ _=>⟨he.1 h0,q,?_⟩) ?_)
 .rw [hz];exact hy.2
 show AO [(6,some (true,13)),(7,none)] 0 _ _ _;exact AO.out (vs:=[eS z,.I 0]) [] [24] (by simp[EJ,Fl,EQ]) zz zz (by simp[AC]) zz
theorem pK (R:List (List AV)) (row:List AV) (n k:Nat) (hn:R.length=n) (hk:k<=n) (hR:Es R) (hr:Es [row]) (hl:(n+1)*160<=140737488355328) :
  AF 76 [.rs 0 0 n,.I k,.vs 13 false [row]] [⟨13,R,0⟩] (.rs 1 0 (n+1)) [none,some ⟨13,R.take k++row::R.drop k,0⟩]:=by
 have h4:∀ ρ sn h n,row.map (conv ρ sn h (n+1))=row:=λ ρ sn h n=>by simpa using hr ρ sn h n
 have q:∀ ρ sn h n,(R.take k++row::R.drop k).map (List.map (conv ρ sn h (n+1)))=R.take k++row::R.drop k:=λ ρ sn h n=>by
  have:=hR ρ sn h n;rw[QN,QA,UH,UI,this,h4]
 refine Rh λ c hc=>?_;refine Na.s.acalls (Ar rfl) (Ar rfl) (Ar rfl) ?_;show AY _ 1 _ _ ⟨95,[(0,.rk 0 0 n c),(1,.I k),(2,.vs 13 false [row])],[(0,some ⟨13,R,0⟩)],16⟩;obtain⟨n1,h5⟩:=AJ (n+1);obtain⟨k1,h6⟩:=AJ (k+1);obtain⟨d,hd⟩:=AJ (n1 - k);have u:IntKind.i64.wrap ((n:Int)+1)=(n1:Int):=by rw[w6];omega
 have h0:IntKind.i64.wrap ((k:Int)+1)=(k1:Int):=by rw[w6];omega
 have h8:IntKind.i64.wrap ((n1:Int) - (k:Int))=(d:Int):=by rw[w6];omega
 have fin:∀ (t:List (Nat × AV)) (m:Nat),AY Tryz.prog 1 .ret (λ e st=>(e = .normal∨e = .ret)/\AO [(6,none)] 1 st (.rs 1 0 (n+1)) [none,some ⟨13,R.take k++row::R.drop k,0⟩]) ⟨95,[(6,.rs 16 0 n1)],[(16,some ⟨13,R.take k++row::R.drop k,0⟩)],24⟩:=by
  intro t m;refine Am ⟨.inr rfl,?_⟩;refine AO.m1 (vs:=[.rs 16 0 n1]) 16 zy rfl (by simp[h5]) rfl ?_
  show Option.map _ (some _)=_;rw[Ug];unfold AX;simp only[q]
 refine arc ⟨95,[(0,.rk 0 0 n c),(1,.I k),(2,.vs 13 false [row])],[(0,some ⟨13,R,0⟩)],24⟩ ?_ ?_
 .simp
  exact A5
 refine arc ⟨95,[(0,.rk 0 0 n c),(1,.I k),(2,.vs 13 false [row])],[(0,some ⟨13,R,0⟩)],48⟩ ?_ ?_
 .simp [hk,hc]
  exact A5
 refine arc ⟨95,[(0,.rk 0 0 n c),(1,.I k),(2,.vs 13 false [row]),(7,.I 1)],[(0,some ⟨13,R,0⟩)],72⟩ ?_ ?_
 .simp
  exact A5
 refine AB (arc ⟨95,[(0,.rk 0 0 n c),(1,.I k),(2,.vs 13 false [row]),(7,.I 1),(16,.B false)],[(0,some ⟨13,R,0⟩)],88⟩ ?_ ?_)
 .simp
  exact A5
 refine AE _ rfl (λ h=>by cases h) λ _=>AG ?_
 refine arc ⟨95,[(0,.rk 0 0 n c),(1,.I k),(2,.vs 13 false [row]),(7,.I 1),(8,.I n)],[(0,some ⟨13,R,0⟩)],112⟩ ?_ ?_
 .simp
  exact A5
 refine AB (arc ⟨95,[(0,.rk 0 0 n c),(1,.I k),(2,.vs 13 false [row]),(7,.I 1),(8,.I n),(22,.B (decide (k=n)))],[(0,some ⟨13,R,0⟩)],136⟩ ?_ ?_)
 .simp
  exact Le.keep rfl (Qf _) (by simp<;>rw[Qg]<;>simp<;>omega) zz
 refine AE _ rfl (λ h=>?_) λ h=>AG ?_
 .
  simp at h;subst h;have hT:R.take k=R:=Qd zy
  have hD:R.drop k=[]:=QI zy
  have h9:R.drop n1=[]:=QI zy
  simp only[hT,hD] at fin q ⊢;refine Bv ⟨95,[(6,.rs 16 0 n1)],[(16,some ⟨13,R++[row],0⟩)],24⟩ rfl ?_ (fin [] 0);simp[hn,<- h5,hT,h9];refine⟨zy,zy,?_⟩
  split
  .exact Le.mv1 0 16 rfl rfl (Ar rfl) zy rfl (by simp only[AX,q]) (Qk _) zz
  .exact Le.mv1 152 16 rfl rfl (Ar rfl) zy rfl (by simp only[AX,q]) (Qk _) zz
 simp at h;have hf:k<n:=zy
 refine AB (arc ⟨95,[(0,.rk 0 0 n c),(1,.I k),(2,.vs 13 false [row]),(7,.I 1),(8,.I n),(31,.B (decide (c<n1)))],[(0,some ⟨13,R,0⟩)],184⟩ ?_ ?_)
 .simp [u]
  exact A5
 refine AE _ rfl (λ h=>?_) λ h=>AG ?_
 .
  simp at h;have hg:n - k+1=d:=zy
  refine arc ⟨95,[(0,.rk 0 0 n c),(1,.I k),(2,.vs 13 false [row]),(7,.I 1),(8,.I n),(9,.rs 248 0 n1)],[(0,some ⟨13,R,0⟩),(248,some ⟨13,R.take k++List.replicate d zC,0⟩)],264⟩ ?_ ?_
  .have ha:k+d=n1:=zy
   simp[u,h8,ha];exact⟨zy,zy,zy,h,zy,zy,A5⟩
  refine arc ⟨95,[(0,.rk 0 0 n c),(1,.I k),(2,.vs 13 false [row]),(7,.I 1),(8,.I n),(9,.rs 248 0 n1)],[(0,some ⟨13,R,0⟩),(248,some ⟨13,R.take k++row::List.replicate (n - k) zC,0⟩)],304⟩ ?_ ?_
  .have hm:min 1 (n1 - k)=1:=zy
   have h3:(R.take k).length=k:=zw
   have h1:(R.take k++List.replicate d zC).take k=R.take k:=by
    rw[Q3 zy,List.take_take]
    congr 1;omega
   have h2:(R.take k++List.replicate d zC).drop (k+1)=List.replicate (n - k) zC:=by
    rw[List.drop_append,h3,QI zy,List.drop_replicate]
    simp;omega
   simp[show k<=n1 by omega,hm]
   exact⟨zy,Le.keep rfl (Qf _) zz (by simp[h1,h2])⟩
  refine Bi ⟨95,[(9,.rs 248 0 n1)],[(248,some ⟨13,R.take k++row::R.drop k,0⟩)],376⟩ ?_ ?_
  .have h3:(R.take k).length=k:=zw
   have hx:List.take (n - k) (List.drop k R)=List.drop k R:=Qd zw
   have hb:(List.drop k R).length=n - k:=zw
   have hm:min (n - k) (n1 - k1)=n - k:=zy
   have h1:(R.take k++row::List.replicate (n - k) zC).take k1=R.take k++[row]:=by
    rw[List.take_append,h3,Qd zy,h6,show k+1 - k=1 by omega]
    rfl
   have h2:(R.take k++row::List.replicate (n - k) zC).drop (k1+(n - k))=[]:=QI zw
   simp[h0];refine⟨zy,zy,zy,zy,_,⟨zy,hx⟩,rfl,?_⟩
   rw[hb,hm,h1,h2,hx];exact A5
  refine Bv ⟨95,[(6,.rs 16 0 n1)],[(16,some ⟨13,R.take k++row::R.drop k,0⟩)],24⟩ rfl ?_ (fin [] 0);simp;exact Le.mv1 248 16 rfl rfl (Ar rfl) zy rfl (by simp only[AX,q]) (Qk _) zz
 simp at h;refine arc ⟨95,[(0,.rk 0 0 n1 c),(1,.I k),(2,.vs 13 false [row]),(7,.I 1),(8,.I n)],[(0,some ⟨13,R,0⟩)],232⟩ ?_ ?_
 .simp [u,h]
  exact A5
 refine AB (arc ⟨95,[(0,.rk 0 0 n1 c),(1,.I k),(2,.vs 13 false [row]),(7,.I 1),(8,.I n),(68,.B true)],[(0,some ⟨13,R,0⟩)],296⟩ ?_ ?_)
 .simp [h0,h,show k1<=n1 by omega]
  exact A5
 refine AE _ rfl (λ _=>?_) λ h=>by cases h
 have h7:min (n1 - k) (n1 - k1)=n - k:=zy
 have he:(R.drop k).take (n - k)=R.drop k:=Qd zw
 refine Bi ⟨95,[(0,.rk 0 0 n1 c),(1,.I k),(2,.vs 13 false [row]),(7,.I 1),(8,.I n)],[(0,some ⟨13,R.take k1++R.drop k,0⟩)],368⟩ ?_ ?_
 .simp [h0,h,show k1<=n1 by omega,show k<=n1 by omega,h7,hn,show k+(n - k)<=n by omega,show k1<=n by omega,he,Nat.min_eq_left (show n - k<=n1 - k by omega)]
  refine⟨rfl,Le.keep rfl (Qf _) zz zw⟩
 refine arc ⟨95,[(0,.rk 0 0 n1 c)],[(0,some ⟨13,R.take k++row::R.drop k,0⟩)],408⟩ ?_ ?_
 .have hm:min 1 (n1 - k)=1:=zy
  have h1:(R.take k1++R.drop k).take k=R.take k:=by
   rw[Q3 zw,List.take_take]
   congr 1;omega
  have h2:(R.take k1++R.drop k).drop (k+1)=R.drop k:=by
   rw[<- h6,List.drop_append_of_le_length zw]
   rw[QI zw];rfl
  simp[h,show k<=n1 by omega,hm,hn]
  exact⟨zy,Le.keep rfl (Qf _) zz (by simp[h1,h2])⟩
 refine Bv ⟨95,[(6,.rs 16 0 n1)],[(16,some ⟨13,R.take k++row::R.drop k,0⟩)],24⟩ rfl ?_ (fin [] 0);simp;exact Le.mv1 0 16 rfl rfl (Ar rfl) zy rfl (by simp only[AX,q]) (Qk _) zz
structure e8 where
 i:Nat
 j:Nat
theorem c7 (l:List AL) (x:AL) (hl:l.length<=100000):∃ p:Nat × Bool,p.1<=l.length/\AF 75 [Af l,eS x,.fn (.func 69) [] []] [] (.tup [.I p.1,.B p.2]) []:=by
 refine Pw.s.acallsX (args:=[Af l,eS x,.fn (.func 69) [] []]) (hs:=[]) (λ p=>.tup [.I p.1,.B p.2]) (λ _=>[]) (λ p:Nat × Bool=>p.1<=l.length) (Ar rfl) (Ar rfl) (λ _=>zz) ?_
 show AY _ 0 _ _ ⟨49,[(0,Af l),(1,eS x),(2,.fn (.func 69) [] [])],[],16⟩;refine ar [0,2,4] [] [16] 100 ?_;refine ar [0,2,4,8] [] [] 200 ?_;refine ar [0,2,4,8,9,10] [] [] 300 ?_;refine AB (AI (An (ι:=e8) (λ p=>⟨49,[(0,Af l),(2,.fn (.func 69) [] []),(4,.pv (sC x)),(8,.I l.length),(9,.I p.i),(10,.I p.j)],[],400⟩) (λ p=>p.i<=p.j/\p.j<=l.length) (λ p=>p.j - p.i) ⟨0,l.length⟩ ⟨Qk _,Qf _⟩ (Aw [] []) ?_))
 rintro⟨i,j⟩ ⟨hij,q⟩
 simp only at hij q;refine AB (BM ⟨49,[(0,Af l),(2,.fn (.func 69) [] []),(4,.pv (sC x)),(8,.I l.length),(9,.I i),(10,.I j),(17,.B (decide (i<j)))],[],500⟩ [] [] ?_);refine AE _ rfl (λ h=>AG ?_) λ h=>Ak (Al ?_)
 .rw [Qa] at h
  refine AI ?_;have hw:=w6 (x:=(i:Int)+(j:Int));have hu:IntKind.u64.wrap ((i:Int)+(j:Int))=(i:Int)+(j:Int):=by rw[IntKind.wrap_u64];omega
  have hd:Int.fdiv ((i:Int)+(j:Int)) 2=(((i+j) / 2:Nat):Int):=by rw[QL _ zx];omega
  have u:=w6 (x:=(((i+j) / 2:Nat):Int));refine arc ⟨49,[(0,Af l),(2,.fn (.func 69) [] []),(4,.pv (sC x)),(8,.I l.length),(9,.I i),(10,.I j),(11,.I ((i+j) / 2:Nat))],[],600⟩ ?_ ?_
  .simp [hw,hu,hd,u,IntKind.bits,-Int.natCast_ediv,-Int.natCast_add]
   exact AZ [] (by simp[hw,hu,hd,u,AC])
  obtain⟨m,h2⟩:=AJ ((i+j) / 2);rw[<- h2];have h1:m<l.length:=zy
  have h3:=EH h1 zy
  have g:l[m]? = some l[m]:=Qc h1;generalize l[m]=y at *;apply ay [0,2,4,8,9,10,11,31] [] [] 700
  .simp [g]
   refine Ah (NX y x) (by simp[AC]) ?_
   simp[AC];exact⟨rfl,rfl⟩
  refine AE _ rfl (λ _=>?_) λ _=>?_
  .refine Ab rfl ?_
   simp[h3];exact⟨⟨m+1,j⟩,⟨by simp only;omega,q⟩,by simp only;omega,Aw [] []⟩
  refine Ab rfl ?_;simp;exact⟨⟨i,m⟩,⟨by simp only;omega,by simp only;omega⟩,by simp only;omega,Aw [] []⟩
 rw[Qb] at h;have h4:j=i:=zy
 subst h4
 obtain⟨y,hy⟩:∃ y,j<l.length->l[j]? = some y:=by
  by_cases h0:j<l.length
  .exact ⟨l[j],λ _=>Qc h0⟩
  .exact ⟨x,λ hh=>absurd hh h0⟩
 obtain⟨b,hb⟩:∃ b:Bool,b=decide (j<l.length/\O7 y x=0):=⟨_,rfl⟩;refine Bi ⟨49,[(6,.I j),(7,.B b)],[],1000⟩ ?_ ?_
 .by_cases h0:j<l.length
  .have g:=hy h0
   have hD:decide (j<l.length)=true:=QX h0;simp[hD,g];refine Ah (NX y x) (by simp[AC]) ?_
   simp;exact⟨rfl,AN [] [] (by simp<;>exact A0 (by subst b;rw[Qg];simp[h0]))⟩
  .simp [h0]
   exact⟨rfl,AN [] [] (by simp<;>exact A0 (by subst b;rw[Qg];simp[h0]))⟩
 refine Am (Bu.mk (.inr rfl) (j,b) q ?_);exact AO.out [] [] rfl zz zz zz zz
theorem aT (l:List AL) (x:AL) (hl:l.length<=100000) (hx:Cz x) :
  AF 29 [.rs 0 0 l.length,eS x] [⟨13,l.map sC,0⟩] (.tup [.rs 0 0 l.length,.B false]) [some ⟨13,l.map sC,0⟩] ∨
  ∃ r,Ew l x r/\AF 29 [.rs 0 0 l.length,eS x] [⟨13,l.map sC,0⟩] (.tup [.rs 1 0 r.length,.B true]) [none,some ⟨13,r.map sC,0⟩]:=by
 obtain⟨⟨k,t⟩,hk,u⟩:=c7 l x hl;simp only at hk u
 cases t with
 | true =>
   left
   refine MJ.s.ai ?_;refine ar [0,3] [(0,0)] [16] 100 ?_;apply ax [0,3,6,7] [(0,0)] [] 200
   .simp
    refine FZ [0] u (by simp[AC,HB]) (.tup _ λ i=>by match i with | 0=>exact .sc _ | 1=>exact .sc _ | _+2=>exact .dead) ?_
    simp[AC];rfl
   refine AB (ar [0,3,6,14] [(0,0)] [] 300 ?_);refine AE _ rfl (λ _=>?_) λ h=>by cases h
   refine ar [4,5] [(0,0)] [] 400 ?_;refine Am ⟨.inr rfl,?_⟩;exact⟨_,rfl,[],[],by simp[List.range,List.range.loop],zz,zz,by simp[List.range,List.range.loop]<;>exact .refl _,by simp[List.range,List.range.loop,AC]⟩
 | false =>
   right
   refine⟨l.take k++x::l.drop k,.inr ⟨k,rfl⟩,?_⟩;refine MJ.s.ai ?_;have h2:=RF [x] zz (by simpa using hx)
   have q:=pK (l.map sC) (sC x) l.length k zz hk (λ ρ sn h n=>by simp[AC]) (λ ρ sn h n=>zz) zy
   have h0:(l.map sC).take k++sC x::(l.map sC).drop k=(l.take k++x::l.drop k).map sC:=by simp[UH,UI]
   have h1:(l.take k++x::l.drop k).length=l.length+1:=zw
   rw[h0] at q;rw[h1];generalize l.take k++x::l.drop k=r at *;refine ar [0,3] [(0,0)] [16] 100 ?_;apply ax [0,3,6,7] [(0,0)] [] 200
   .simp
    refine FZ [0] u (by simp[AC,HB]) (.tup _ λ i=>by match i with | 0=>exact .sc _ | 1=>exact .sc _ | _+2=>exact .dead) ?_
    simp[AC];rfl
   refine AB (ar [0,3,6,14] [(0,0)] [] 300 ?_);refine AE _ rfl (λ h=>by cases h) λ _=>AG ?_
   apply ax [4,5] [(340,50)] [] 400
   .simp
    refine PJ [324] zx h2 (by simp[AC];exact .refl _) ?_
    simp[AC];refine Il (i:=0) (j:=332) zx zx rfl rfl (by simp[AC]) q zz (by simp[AC]) ?_
    simp[AC];rfl
   refine Am ⟨.inr rfl,?_⟩;exact AO.m1 50 zx rfl zz zz (by simp[AC])
theorem Xr (l:List AL) (x:AL) (hl:l.length<=100000) (hb:∀ s∈l,Cz s) (hx:Cz x) :
  ∃ p:List AL × Bool × Int,Ew l x p.1/\AF 8 [.agg [Af l],eS x] [] (.tup [.agg [Af p.1],.B p.2.1,.I p.2.2]) []:=by
 refine JV.s.acallsX (args:=[.agg [Af l],eS x]) (hs:=[]) (λ p=>.tup [.agg [Af p.1],.B p.2.1,.I p.2.2]) (λ _=>[]) (λ p:List AL × Bool × Int=>Ew l x p.1) (Ar rfl) (Ar rfl) (λ _=>zz) ?_
 show AY _ 0 _ _ ⟨41,[(0,.agg [Af l]),(1,eS x)],[],16⟩;obtain⟨v,_,hv⟩:=lH l hl hb;obtain⟨e,_,q⟩:=LW x (by have:=hx.2.2.1;omega) (by have:=hx.2.2.2.1;omega) (by have:=hx.2.1;omega)
 obtain⟨se,h0⟩:∃ se:Bool,AF 28 [eS x] [] (.B se) []:=⟨_,Ri x hx⟩
 obtain⟨r,b,hr,u⟩:∃ r b,Ew l x r/\((b=false/\r=l/\AF 29 [.rs 0 0 l.length,eS x] [⟨13,l.map sC,0⟩] (.tup [.rs 0 0 l.length,.B false]) [some ⟨13,l.map sC,0⟩])∨(b=true/\AF 29 [.rs 0 0 l.length,eS x] [⟨13,l.map sC,0⟩] (.tup [.rs 1 0 r.length,.B true]) [none,some ⟨13,r.map sC,0⟩])):=by
  rcases aT l x hl hx with h | ⟨r,hr,h⟩
  .exact ⟨l,false,.inl rfl,.inl ⟨rfl,rfl,h⟩⟩
  .exact ⟨r,true,hr,.inr ⟨rfl,h⟩⟩
 have old:∀ (b:Bool) (e:Int) (st:St),st.get 4 = .pt 32 0 0->st.get 5 = .B b->st.get 6 = .I e->st.hp 32=some ⟨1,[[Af l]],0⟩->(Bu JV.c.res ([]:List AD).length (λ p:List AL × Bool × Int=>.tup [.agg [Af p.1],.B p.2.1,.I p.2.2]) (λ _=>[]) (λ p:List AL × Bool × Int=>Ew l x p.1)) .ret st:=λ b e st h4 h5 h6 h1=>by
  refine Bu.mk (.inr rfl) (l,b,e) (.inl rfl) ?_;show AO [(4,some (true,1)),(5,none),(6,none)] 0 _ _ _;exact AO.out (vs:=[.agg [Af l],.B b,.I e]) [] [32] (by simp[EJ,Fl,h4,h5,h6,h1,EQ]) zz zz (by simp[AC]<;>exact .refl _) zz
 refine ar [2,3,4] [(32,32)] [16,24] 100 ?_;refine AB (AI ?_);apply ax [2,3,4,9] [(32,32)] [] 200
 .simp
  refine Ah hv (by simp[AC]) ?_
  simp[AC];rfl
 refine AE _ rfl (λ _=>?_) λ _=>?_
 .apply ax [4,5,6] [(32,32)] [] 300
  .simp [Ae,AC]
   rfl
  exact Am (old false 1 _ rfl rfl rfl rfl)
 apply ax [2,3,4,14] [(32,32)] [] 300
 .simp
  refine Ah q (by simp[AC]) ?_
  simp[AC];rfl
 refine AE _ rfl (λ _=>?_) λ _=>?_
 .apply ay [4,5,6] [(32,32)] [] 400
  .simp
   refine Ah q (by simp[AC]) ?_
   simp[Ae,AC];exact⟨rfl,rfl⟩
  exact Am (old false e _ rfl rfl rfl rfl)
 apply ax [2,3,4,21] [(32,32)] [] 400
 .simp
  refine Ah h0 (by simp[AC]) ?_
  simp[AC];rfl
 refine AE _ rfl (λ _=>?_) λ _=>AG ?_
 .apply ax [4,5,6] [(32,32)] [] 500
  .simp [Ae,AC]
   rfl
  exact Am (old false 6 _ rfl rfl rfl rfl)
 have h2:=RF l hl hb;refine Bi ⟨41,[(2,.pv [Af l]),(4,.pt 32 0 0),(7,.rs 50 0 r.length),(8,.B b)],[(32,some ⟨1,[[.nilS]],0⟩),(50,some ⟨13,r.map sC,0⟩)],1000⟩ ?_ ?_
 .simp
  refine Di h2 (by simp[AC]) ?_
  simp[AC];rcases u with ⟨rfl,rfl,h⟩ | ⟨rfl,h⟩
  .refine BZ (i:=416) rfl (e':=⟨13,r.map sC,0⟩) (by simp[AC]) h zz zz ?_
   simp[AC];exact⟨rfl,Aw [(32,32),(416,50)] []⟩
  .refine BZ (i:=416) rfl (e':=⟨13,l.map sC,0⟩) (by simp[AC]) h zz zz ?_
   simp[AC];exact⟨rfl,Aw [(32,32),(432,50)] []⟩
 refine AB (arc ⟨41,[(2,.pv [Af l]),(4,.pt 32 0 0),(7,.rs 50 0 r.length),(8,.B b),(36,.B (decide (1000<r.length)))],[(32,some ⟨1,[[.nilS]],0⟩),(50,some ⟨13,r.map sC,0⟩)],1100⟩ ?_ ?_)
 .simp
  exact AN [(32,32),(50,50)] [] (by simp[AC]<;>exact A0 (by rw[Qg];simp;try omega)) (by simp[AC])
 refine AE _ rfl (λ _=>?_) λ _=>AG ?_
 .apply ax [4,5,6] [(32,32)] [] 1200
  .simp [Ae,AC]
   rfl
  exact Am (old false 3 _ rfl rfl rfl rfl)
 apply ax [4,5,6] [(32,32),(50,50)] [] 1200
 .simp [Ae,AC]
  rfl
 refine Am (Bu.mk (.inr rfl) (r,b,0) hr ?_);show AO [(4,some (true,1)),(5,none),(6,none)] 0 _ _ _;exact AO.out (vs:=[.agg [.rs 50 0 r.length],.B b,.I 0]) [] [32,50] (by simp[EJ,Fl,EQ]) zz zz (by simp[AC,HB]) zz
theorem Ge.good {a:Int} {l Y:List AL} (h:Ge a l Y):DJ Y:=by
 have u:∀ (d i:Nat) (hi:i+d<Y.length),Y[i].ti<=Y[i+d].ti:=λ d=>by
  induction d with
  | zero=>intro i hi;exact Int.le_refl _
  | succ d ih =>
    intro i hi;have h1:=ih i zy
    have h2:=(h.fol (i+d) zy).1.2.2
    have e:Y[i+d+1]' zy=Y[i+(d+1)]:=by congr 1
    rw[e] at h2;omega
 refine⟨QK.2 λ i j hi hj hij=>.inr ⟨?_,?_,?_,?_⟩,λ s hs=>?_⟩
 .rw [(h.mem _ (Qi hi)).2.2,(h.mem _ (Qi hj)).2.2]
 .rw [h.num i hi,h.num j hj];omega
 .have:=u (j - i) i zy
  have e:Y[i+(j - i)]' zy=Y[j]:=by congr 1;omega
  rwa [e] at this
 .exact (h.fol i zy).2
 .obtain ⟨_,q,_⟩:=h.mem s hs
  exact⟨q.1.1,q.1.2,q.2.2.1.1,q.2.2.2.1.1.1⟩
structure sI where
 a:Nat
 c:List AL
theorem cH (l:List AL) (hl:l.length<=100000) (hb:∀ s∈l,Cz s) (hf:∀ a:Int,(l.filter λ s=>decide (s.au=a)).length<=12) :
  ∃ c:List AL,(DJ c/\c.length<=12800 /\ ∀ x∈c,Bz x/\x∈l)/\AF 9 [.agg [Af l]] [] (Af c) []:=by
 refine Oe.s.acallsX (args:=[.agg [Af l]]) (hs:=[]) (λ c=>Af c) (λ _=>[]) (λ c:List AL=>DJ c/\c.length<=12800 /\ ∀ x∈c,Bz x/\x∈l) (Ar rfl) (Ar rfl) (λ _=>zz) ?_
 show AY _ 0 _ _ ⟨17,[(0,.agg [Af l])],[],16⟩;refine ar [1] [] [16] 100 ?_;refine ar [1,3] [] [] 200 ?_;refine AB (ar [1,3,5] [] [] 300 ?_);refine AI (An (ι:=sI) (λ p=>⟨17,[(1,.pv [Af l]),(3,.rs 50 0 p.c.length),(5,.I p.a)],[(50,some ⟨13,p.c.map sC,0⟩)],400⟩) (λ p=>(p.a<=64/\p.c.length<=200*p.a)/\DJ p.c /\ ∀ x∈p.c,(Bz x/\x∈l)/\x.au<p.a) (λ p=>64 - p.a) ⟨0,[]⟩ ⟨⟨Qk _,zz⟩,⟨.nil,λ s hs=>(QT hs).elim⟩,λ x hx=>(QT hx).elim⟩ (Le.nw [] [(50,13)] rfl (by simp[Up,AC]) zz) ?_)
 rintro⟨a,c⟩ ⟨⟨ha,q⟩,hg,hm⟩
 simp only at ha q hg hm;refine arc ⟨17,[(1,.pv [Af l]),(3,.rs 50 0 c.length),(5,.I a),(6,.B (decide (a<64)))],[(50,some ⟨13,c.map sC,0⟩)],500⟩ ?_ ?_
 .simp
  exact AN [(50,50)] [] (by simp[AC]<;>exact A0 (by rw[Qg];simp;try omega)) (by simp[AC])
 refine AB (AE _ rfl (λ h=>AG ?_) λ h=>Ak (Al ?_))
 .rw [Qa] at h
  have u:=EH h zy
  have h0:=d6 l a hl;obtain⟨Y,hY,h3⟩:=SN a (l.filter λ s=>decide (s.au=(a:Int))) (hf a) (λ s hs=>hb s (QF.1 hs).1)
  have h4:Y.length<=200:=by
   refine Nat.le_of_not_lt λ hh=>?_;have h1:=hY.num 200 hh;have h2:=(hY.mem _ (Qi hh)).2.1.2.2.2.1.1;omega
  refine Dx ?_;refine AI (ar [1,3,4,5] [(50,50)] [] 600 ?_);apply ae [1,3,5] [(648,50)] [] 700
  .simp
   refine Ah h0 (by simp[AC]) ?_
   simp[AC];refine Ah h3 (by simp[AC]) ?_
   simp[AC,HB];refine⟨zy,zy,?_⟩
   rfl
  refine Ab rfl ?_;simp[u];refine⟨⟨a+1,c++Y⟩,⟨⟨zw,zw⟩,hg.append hY.good λ x hx y hy=>?_,λ x hx=>?_⟩,zw,Aw [(50,50)] []⟩
  .rw [(hY.mem y hy).2.2];exact(hm x hx).2
  .rcases Qm.1 hx with hx | hx
   .have:=hm x hx
    exact⟨this.1,zw⟩
   .have:=hY.mem x hx
    exact⟨⟨this.2.1,(QF.1 this.1).1⟩,by rw[this.2.2];simp;omega⟩
 refine ar [2] [(50,50)] [] 2000 ?_;refine Am (Bu.mk (.inr rfl) c ⟨hg,zy,λ x hx=>(hm x hx).1⟩ ?_)
 exact AO.out [] [50] rfl zz zz (by simp[AC,HB]) zz
theorem Oz {P:Program} {np id:Nat} {h:Nat->Option AD} {K:AV->List Nat->List (Nat × Option AD)->Prop} {f:FuncId} {first aA args aC:List AV} {res:AV} (sn:List Nat) (q:∀ i∈sn,np<=i) (hc:CF P f aC [] res []) (he:DG ((first++args++aA).map (conv [] sn h 4)) aC) (hk:K (conv (Cb [] id) [] (λ _=>none) 4 res) sn (sn.filterMap λ i=>(h i).map λ e=>(i,some { e with ro:=e.rows.length }))):aK P np id .call (.fn (.func f) first aA::args) h K :=
 ⟨[],sn,true,aC,[],res,[],zz,zz,λ _=>q,by rw[UO];exact he,rfl,hc,zz,.inl rfl,by simpa [Cb] using hk⟩
def Bh (a:Int) (l:List AL):Nat:=(l.filter λ s=>decide (s.au=a)).length
theorem Ih (a:Int) (l m:List AL):Bh a (l++m)=Bh a l+Bh a m:=by simp[Bh]
theorem WC (a:Int) (l:List AL):Bh a l<=l.length:=QV _ _
theorem Lr {a:Int} {l:List AL} (h:∀ s∈l,s.au≠a):Bh a l=0:=by
 unfold Bh;rw[List.filter_eq_nil_iff.2 (λ s hs=>by simpa using h s hs)]
 rfl
def W9 (k au ki a:Int):Prop:=au=k/\(ki=1->0<=a/\a<9)
structure YN where
 b:Nat
 t:Int
 n:Nat
 Y:List AL
 ro:Nat
structure iI where
 b:Nat
 ki:Int
 A:Int
 B:Int
 C:Int
abbrev OP (t ki A B C:Int):List AV:=[.I 0,.I 0,.sc (.string DQ),.I t,.I ki,.I A,.I B,.I C,.nilS,.nilS,.sc (.string DQ),.I 0,.sc (.string DQ)]
abbrev Ly (t ki A B C:Int):AL:=⟨0,0,DQ,t,ki,A,B,C,[],[],DQ,0,DQ⟩
theorem Ti {t ki A B C:Int}:Wk (.agg (OP t ki A B C)) (eS (Ly t ki A B C)) :=
 .agg _ _ rfl λ i=>match i with
  | 0=>.refl _ | 1=>.refl _ | 2=>.refl _ | 3=>.refl _ | 4=>.refl _ | 5=>.refl _ | 6=>.refl _ | 7=>.refl _
  | 8=>.nil _ _ | 9=>.nil _ _ | 10=>.refl _ | 11=>.refl _ | 12=>.refl _ | _+13=>.refl _
theorem XI (t ki A B C:Int):Cz (Ly t ki A B C):=⟨by show DQ.size<=5000;decide,by show DQ.size<=5000;decide,zz,zz,zz⟩
structure tK where
 b:Nat
 k:Nat
 H:List (List AL)
structure oO where
 b:Nat
 k:Nat
 B:List AL
 ro:Nat
abbrev Fe (H:List (List AL)):List (List AV):=H.map λ h=>[Af h]
structure Kj (H:List (List AL)) (B:List AL):Prop where
 len:H.length=4
 ok:∀ s∈H.flatten++B,Bz s/\(0<=s.au/\s.au<9)/\(s.ki=1->0<=s.a/\s.a<9)
 cnt:∀ a,Bh a (H.flatten++B)<=12
 few:(H.flatten++B).length<=100
theorem Le.nwd {st st':St} (i s:Nat) (K:List (Nat × AD)) (hs:s≠0) (hi:1<=i) (hn:i<st'.n) (h0:st'.sz=st.sz) (hh:st'.h=(K.map λ q=>(q.1,some q.2))++[(i,some ⟨s,[],0⟩)]) (hK:∀ q∈K,st.hp q.1=some q.2/\AX (K.map λ q=>(q.1,q.1)) [] st.hp 4 q.2=q.2/\q.2.ro<=q.2.rows.length/\q.1<st'.n) (hd:(K.map (·.1)).Nodup) (h1:i∉K.map (·.1)) (ht:∀ p∈st'.t,Up [(i,s)] (conv (K.map λ q=>(q.1,q.1)) [] st.hp 4 (st.get p.1)) p.2):Le 1 st st':=by
 have e1:((K.map λ q=>(q.1,q.1)).map (·.1))=K.map (·.1):=by simp[AC]
 have e2:((K.map λ q=>(q.1,q.1)).map (·.2))=K.map (·.1):=by simp[AC]
 refine Le.lst (K.map λ q=>(q.1,q.1)) [] [(i,s)] h0 (by rw[e1];exact hd) (by rw[e2];exact hd) (λ p hp=>?_) (λ p hp=>?_) zz zy zz ht λ p hp e' u=>?_
 .obtain ⟨q,hq,rfl⟩:=Ql.1 hp
  exact⟨(hK q hq).2.2.2,λ _=>rfl⟩
 .rw [Qv] at hp
  subst hp;exact⟨hi,hn,by rw[e2];exact h1,hs⟩
 .rw [hh] at hp
  rcases Qm.1 hp with hp | hp
  .obtain ⟨q,hq,rfl⟩:=Ql.1 hp
   cases u;have h:=hK q hq;exact .inl ⟨(q.1,q.1),Ql.2 ⟨q,hq,rfl⟩,rfl,_,h.1,A7.eq h.2.1 h.2.2.1⟩
  .rw [Qv] at hp
   subst hp
   cases u;exact .inr ⟨zz,rfl,rfl⟩
theorem Zw (L:List Int) (a:Nat) (hl:L.length<=400) (ha:a<=L.length) :
  ∃ p:(List (List AL) × List AL) × Nat,(Kj p.1.1 p.1.2/\p.2<=L.length)/\AF 7 [.pt 0 0 0] [AK L a] (.tup [.vs 1 false (Fe p.1.1),Af p.1.2]) [some (AK L p.2)]:=by
 refine iM.s.acallsX (args:=[.pt 0 0 0]) (hs:=[AK L a]) (λ p=>.tup [.vs 1 false (Fe p.1.1),Af p.1.2]) (λ p=>[some (AK L p.2)]) (λ p:(List (List AL) × List AL) × Nat=>Kj p.1.1 p.1.2/\p.2<=L.length) (Ar rfl) (Ar rfl) (λ _=>zz) ?_
 show AY _ 1 _ _ ⟨134,[(0,.pt 0 0 0)],[(0,some (AK L a))],16⟩;refine ar [0] [(0,0)] [] 100 ?_;refine ar [0,4] [(0,0)] [] 200 ?_;refine AB (ar [0,4,5] [(0,0)] [] 300 ?_);refine AI (An (ι:=tK) (λ p=>⟨134,[(0,.pt 0 0 0),(4,.rs 40 0 p.H.length),(5,.I p.k)],[(0,some (AK L p.b)),(40,some ⟨1,Fe p.H,0⟩)],400⟩) (λ p=>(p.b<=L.length/\p.k<=4/\p.H.length=p.k)/\(∀ h∈p.H,h.length<=5)/\(∀ s∈p.H.flatten,Bz s/\(0<=s.au/\s.au<p.k)/\(s.ki=1->0<=s.a/\s.a<9)) /\ ∀ a,Bh a p.H.flatten<=5) (λ p=>4 - p.k) ⟨a,0,[]⟩ ⟨⟨ha,Qk _,rfl⟩,λ h hh=>(QT hh).elim,λ s hs=>by simp at hs,λ a=>by simp[Bh]⟩ (Le.nwd 40 1 [(0,AK L a)] zx zx zz rfl rfl zz zz zz (by simp[Up])) ?_)
 rintro⟨b,k,H⟩ ⟨⟨hb,hk,bb⟩,hy,hq,hz⟩
 simp only at hb hk bb hy hq hz;have q:∀ ρ sn h m,(Fe H).map (List.map (conv ρ sn h (m+1)))=Fe H:=λ ρ sn h m=>by simp[AC]
 have c1:(Fe H).length=H.length:=zz
 refine AB (arc ⟨134,[(0,.pt 0 0 0),(4,.rs 40 0 H.length),(5,.I k),(21,.B (decide (k<4)))],[(0,some (AK L b)),(40,some ⟨1,Fe H,0⟩)],500⟩ ?_ ?_)
 .simp
  exact AN [(0,0),(40,40)] [] (by simp[AC]<;>exact A0 (by rw[Qg];simp;try omega)) (by simp[AC])
 refine AE _ rfl (λ h=>AG ?_) λ h=>Ak (Al ?_)
 .rw [Qa] at h
  have a0:=EH h zy
  obtain⟨t0,b1,⟨a1,_⟩,a2⟩:=Ez L b 4 hl hb zx
  obtain⟨n0,b2,⟨a3,c2,_,hj⟩,a4⟩:=Ez L b1 6 hl a1 zx
  have hj:=hj zx
  obtain⟨n,rfl⟩:∃ n:Nat,n0=n:=⟨n0.toNat,zy⟩
  generalize hX:Fe H=X at *;refine Dx ?_;refine AI ?_;apply ax [0,4,5,6] [(0,0),(40,40)] [] 600
  .simp [q]
   rfl
  apply ax [0,4,5,6,7] [(0,0),(40,40)] [] 700
  .simp
   refine BZ (i:=0) rfl (e':=AK L b) zz a2 zz zz ?_
   simp[q];rfl
  refine AB ?_;apply ax [0,4,5,6,7,8] [(0,0),(40,40)] [] 800
  .simp
   refine BZ (i:=0) rfl (e':=AK L b1) zz a4 zz zz ?_
   simp[q];rfl
  refine AI (An (ι:=YN) (λ p=>⟨134,[(0,.pt 0 0 0),(4,.rs 40 0 H.length),(5,.I k),(6,.rs 50 0 p.Y.length),(7,.I p.t),(8,.I p.n)],[(0,some (AK L p.b)),(40,some ⟨1,X,0⟩),(50,some ⟨13,p.Y.map sC,p.ro⟩)],900⟩) (λ p=>(p.b<=L.length/\p.ro<=p.Y.length/\p.Y.length+p.n<=5) /\ ∀ s∈p.Y,Bz s/\s.au=k/\(s.ki=1->0<=s.a/\s.a<9)) (λ p=>p.n) ⟨b2,t0,n,[],0⟩ ⟨⟨a3,Qf _,zw⟩,λ s hs=>(QT hs).elim⟩ (Le.nwd 50 13 [(0,AK L b2),(40,⟨1,X,0⟩)] zx zx zz rfl rfl (by simp[q]) zz zz (by simp[Up])) ?_)
  rintro⟨b3,t,m,Y,ro⟩ ⟨⟨h8,h3,a5⟩,h6⟩
  simp only at h8 h3 a5 h6;have u:∀ ρ sn h m,(Y.map sC).map (List.map (conv ρ sn h (m+1)))=Y.map sC:=λ ρ sn h m=>by simp[AC]
  have h0:(Y.map sC).length=Y.length:=zz
  have hr:Af Y = .vs 13 false (Y.map sC):=rfl;refine AB (arc ⟨134,[(0,.pt 0 0 0),(4,.rs 40 0 H.length),(5,.I k),(6,.rs 50 0 Y.length),(7,.I t),(8,.I m),(29,.B (decide (0<m)))],[(0,some (AK L b3)),(40,some ⟨1,X,0⟩),(50,some ⟨13,Y.map sC,ro⟩)],1000⟩ ?_ ?_)
  .generalize Y.map sC=Z at *
   simp;exact AN [(0,0),(40,40),(50,50)] [] (by simp[AC]) (by simp[q,u,h0,h3])
  refine AE _ rfl (λ h=>AG ?_) λ h=>Ak (Al ?_)
  .rw [Qa] at h
   have hm:IntKind.i64.wrap ((m:Int) - 1)=((m - 1:Nat):Int):=by rw[w6];omega
   have c3:=w6 (x:=(k:Int)+1);have c4:=w6 (x:=(k:Int)+2);have c5:=w6 (x:=(k:Int)+3);obtain⟨v1,cb,e2⟩:∃ v,Int.tmod ((k:Int)+1) 4=v/\0<=v/\v<9:=⟨_,rfl,by rw[Int.tmod_eq_emod_of_nonneg zy];omega⟩
   obtain⟨v2,cd,e3⟩:∃ v,Int.tmod ((k:Int)+2) 4=v/\0<=v/\v<9:=⟨_,rfl,by rw[Int.tmod_eq_emod_of_nonneg zy];omega⟩
   obtain⟨v3,ch,e4⟩:∃ v,Int.tmod ((k:Int)+3) 4=v/\0<=v/\v<9:=⟨_,rfl,by rw[Int.tmod_eq_emod_of_nonneg zy];omega⟩
   obtain⟨x1,b4,⟨hg,_⟩,a6⟩:=Mx L b3 [1,0,3] hl h8 zx zx
   obtain⟨t2,a7⟩:=AJ (IntKind.i64.wrap (t+x1));obtain⟨x2,b5,⟨ht,hx2⟩,a8⟩:=Mx L b4 [v1,v2,4,5,v3] hl hg zz zz
   obtain⟨x3,b6,⟨ck,_⟩,cl⟩:=Ez L b5 3 hl ht zx
   obtain⟨x4,b7,⟨cm,_⟩,cp⟩:=Mx L b6 [40,5,20] hl ck zx zx
   obtain⟨r1,b8,bo,cq⟩:=R3 L b7 6 hl cm zx zx
   have h7:0<=x2/\x2<9:=by
    simp only[Qu,QT,or_false] at hx2;omega
   obtain⟨y3,d0⟩:∃ y,y=IntKind.i64.wrap (1+x3):=⟨_,rfl⟩;obtain⟨y4,d1⟩:∃ y,y=IntKind.i64.wrap (t2+x4):=⟨_,rfl⟩;generalize hZ:Y.map sC=Z at *;refine Dx ?_;refine AI ?_;apply ax [0,4,5,6,7,8] [(0,0),(40,40),(50,50)] [] 1100
   .simp
    refine Il (i:=0) (j:=1016) zx zx rfl rfl zz a6 zz zz ?_
    simp[q,u,h0,h3,<- a7];rfl
   apply ax [0,4,5,6,7,8,9] [(0,0),(40,40),(50,50),(1276,60)] [] 1200
   .simp [c3,c4,c5,cb,cd,ch]
    refine Il (i:=0) (j:=1188) zx zx rfl rfl zz a8 zz zz ?_
    simp;refine BZ (i:=0) rfl (e':=AK L b5) zz cl zz zz ?_
    simp;refine Il (i:=0) (j:=1244) zx zx rfl rfl zz cp zz zz ?_
    simp[q,u,h0,h3,Ae,<- d0,<- d1];rfl
   refine EL (ι:=iI) (λ p=>⟨134,[(0,.pt 0 0 0),(4,.rs 40 0 H.length),(5,.I k),(6,.rs 50 0 Y.length),(7,.I t2),(8,.I m),(9,.pt 60 0 0)],[(0,some (AK L p.b)),(40,some ⟨1,X,0⟩),(50,some ⟨13,Z,ro⟩),(60,some ⟨13,[OP t2 p.ki p.A p.B p.C],0⟩)],2000⟩) (λ p=>p.b<=L.length/\(p.ki=1->0<=p.A/\p.A<9)) ?_ ?_
   .refine arc ⟨134,[(0,.pt 0 0 0),(4,.rs 40 0 H.length),(5,.I k),(6,.rs 50 0 Y.length),(7,.I t2),(8,.I m),(9,.pt 60 0 0),(65,.B (r1 && decide (0<Y.length)))],[(0,some (AK L b8)),(40,some ⟨1,X,0⟩),(50,some ⟨13,Z,ro⟩),(60,some ⟨13,[OP t2 1 x2 y3 y4],0⟩)],1400⟩ ?_ ?_
    .simp
     refine BZ (i:=0) rfl (e':=AK L b7) zz cq zz zz ?_
     simp
     cases r1 with
     | true =>
       simp;exact AN [(0,0),(40,40),(50,50),(60,60)] [] (by simp[AC]) (by simp[q,u,h0,h3])
     | false =>
       simp;exact AN [(0,0),(40,40),(50,50),(60,60)] [] (by simp[AC]) (by simp[q,u,h0,h3])
    refine AE _ rfl (λ hc=>?_) λ _=>AG ?_
    .have e5:0<Y.length:=by simp at hc;omega
     obtain⟨x6,b9,⟨hn,_⟩,d2⟩:=Ez L b8 Y.length hl bo zy
     refine Ab rfl ?_;simp;refine BZ (i:=0) rfl (e':=AK L b8) zz d2 zz zz ?_
     simp[Ae];exact⟨⟨b9,2,x6,0,0⟩,⟨hn,λ hh=>by simp at hh⟩,AN [(0,0),(40,40),(50,50),(60,60)] [] (by simp[AC]) (by simp[q,u,h0,h3])⟩
    exact⟨⟨b8,1,x2,y3,y4⟩,⟨bo,λ _=>h7⟩,AN [(0,0),(40,40),(50,50),(60,60)] [] (by simp[AC]) (by simp[q,u,h0,h3])⟩
   rintro⟨b9,ki,A,B,C⟩ ⟨hn,hA⟩
   simp only at hn hA;obtain⟨⟨x,e⟩,ho,h9⟩:=Wu k Y (Ly t2 ki A B C) zy (λ s hs=>(h6 s hs).1.b) (XI _ _ _ _ _)
   simp only at ho h9;rw[hr] at h9;apply ax [0,4,5,6,7,8,10,11] [(0,0),(40,40),(50,50)] [2056] 2200
   .simp
    refine Oz [50] zx h9 (by simp[u,h0];exact⟨by rw[Qd zy];exact .refl _,Ti⟩) ?_
    simp[q,u,h0,Ae];rfl
   refine arc ⟨134,[(0,.pt 0 0 0),(4,.rs 40 0 H.length),(5,.I k),(6,.rs 50 0 Y.length),(7,.I t2),(8,.I m),(10,.pv (sC x)),(80,.B (decide (e=0)))],[(0,some (AK L b9)),(40,some ⟨1,X,0⟩),(50,some ⟨13,Z,Y.length⟩)],2300⟩ ?_ ?_
   .simp
    exact AN [(0,0),(40,40),(50,50)] [] (by simp[AC]<;>exact A0 (by rw[Qg];simp)) (by simp[q,u,h0])
   have hi:Z.take Y.length=Z:=Qd zy
   refine AE _ rfl (λ he=>?_) λ _=>AG ?_
   .rw [Qa] at he
    obtain⟨a9,d3,ag,bp,ai,_⟩:=ho he;have hd:Z++[sC x]=(Y++[x]).map sC:=by rw[QN,hZ];rfl
    refine Ab rfl ?_;simp[u,h0,hi];refine⟨zy,zy,⟨134,[(0,.pt 0 0 0),(4,.rs 40 0 H.length),(5,.I k),(6,.rs 50 0 (Y++[x]).length),(7,.I t2),(8,.I m)],[(0,some (AK L b9)),(40,some ⟨1,X,0⟩),(50,some ⟨13,(Y++[x]).map sC,Y.length⟩)],2400⟩,?_,?_⟩
    .rw [<- hd]
     exact AN [(0,0),(40,40),(2324,50)] [] (by simp[AC]) (by simp[q,u,h0])
    refine Ab rfl ?_;simp only[<- hd];simp[hm];refine⟨⟨b9,t2,m - 1,Y++[x],Y.length⟩,⟨⟨hn,zz,zw⟩,λ s hs=>?_⟩,zw,?_⟩
    .rcases Qm.1 hs with hs | hs
     .exact h6 s hs
     .rw [Qv] at hs
      subst hs;exact⟨a9,ag,λ bs=>by rw[ai];exact hA (bp.symm.trans bs)⟩
    .simp only[<- hd]
     exact AN [(0,0),(40,40),(50,50)] [] (by simp[AC]) (by simp[q,u,h0])
   refine⟨⟨134,[(0,.pt 0 0 0),(4,.rs 40 0 H.length),(5,.I k),(6,.rs 50 0 Y.length),(7,.I t2),(8,.I m)],[(0,some (AK L b9)),(40,some ⟨1,X,0⟩),(50,some ⟨13,Z,Y.length⟩)],2400⟩,AN [(0,0),(40,40),(50,50)] [] (by simp[AC]) (by simp[q,u,h0]),?_⟩
   refine Ab rfl ?_;simp[hm];refine⟨⟨b9,t2,m - 1,Y,Y.length⟩,⟨⟨hn,zz,zw⟩,h6⟩,zw,?_⟩
   rw[hZ];exact AN [(0,0),(40,40),(50,50)] [] (by simp[AC]) (by simp[q,u,h0])
  have d4:∀ f:AL->List AV,(Y.map f).take Y.length=Y.map f:=λ f=>Qd zz
  have hu:X.take H.length=X:=Qd zy
  have am:Fe (H++[Y])=X++[[Af Y]]:=by rw[<- hX];simp
  refine Ab rfl ?_;simp[c1,hu];refine⟨zy,zy,⟨134,[(0,.pt 0 0 0),(4,.rs 40 0 (H++[Y]).length),(5,.I k)],[(0,some (AK L b3)),(40,some ⟨1,Fe (H++[Y]),0⟩)],2400⟩,?_,?_⟩
  .rw [am]
   exact AN [(0,0),(1024,40)] [50] (by simp[AC]) (by simp[AC,q,d4])
  refine Ab rfl ?_;rw[am];simp[a0];refine⟨⟨b3,k+1,H++[Y]⟩,⟨⟨h8,zw,zw⟩,λ h hh=>?_,λ s l hlm hs=>?_,λ a=>?_⟩,zw,?_⟩
  .rcases Qm.1 hh with hh | hh
   .exact hy h hh
   .rw [Qv] at hh;subst hh;omega
  .rcases Qm.1 hlm with hlm | hlm
   .obtain ⟨g1,g2,g3⟩:=hq s (List.mem_flatten.2 ⟨l,hlm,hs⟩)
    exact⟨g1,zw,g3⟩
   .rw [Qv] at hlm
    subst hlm;obtain⟨g1,g2,g3⟩:=h6 s hs;exact⟨g1,zw,g3⟩
  .have e:(H++[Y]).flatten=H.flatten++Y:=zz
   show Bh a (H++[Y]).flatten<=5;rw[e,Ih]
   by_cases an:a=k
   .rw [Lr (l:=H.flatten) (λ s hs=>by have:=(hq s hs).2.1;omega)]
    have:=WC a Y;omega
   .rw [Lr (l:=Y) (λ s hs=>by rw[(h6 s hs).2.1];exact λ h=>an h.symm)]
    exact hz a
  .show Le 1 _ ⟨134,[(0,.pt 0 0 0),(4,.rs 40 0 (H++[Y]).length),(5,.I (k+1:Nat))],[(0,some (AK L b3)),(40,some ⟨1,Fe (H++[Y]),0⟩)],400⟩
   rw[am];exact AN [(0,0),(40,40)] [] (by simp[AC]) (by simp[AC,q])
 rw[Qb] at h;obtain rfl:k=4:=zy
 generalize hX:Fe H=X at *;apply ax [0,4,12] [(0,0),(40,40)] [] 600
 .simp [q]
  rfl
 refine AB ?_;apply ax [0,4,12,13] [(0,0),(40,40)] [] 700
 .simp [q]
  rfl
 refine AI (An (ι:=oO) (λ p=>⟨134,[(0,.pt 0 0 0),(4,.rs 40 0 H.length),(12,.rs 70 0 p.B.length),(13,.I p.k)],[(0,some (AK L p.b)),(40,some ⟨1,X,0⟩),(70,some ⟨13,p.B.map sC,p.ro⟩)],800⟩) (λ p=>(p.b<=L.length/\p.ro<=p.B.length/\4<=p.k/\p.k<=9)/\(∀ s∈p.B,Bz s/\(4<=s.au/\s.au<p.k)/\(s.ki=1->0<=s.a/\s.a<9))/\(∀ a,Bh a p.B<=6)/\p.B.length<=6*(p.k - 4)) (λ p=>9 - p.k) ⟨b,4,[],0⟩ ⟨⟨hb,Qf _,zz,zz⟩,λ s hs=>(QT hs).elim,λ a=>by simp[Bh],zz⟩ (Le.nwd 70 13 [(0,AK L b),(40,⟨1,X,0⟩)] zx zx zz rfl rfl (by simp[q]) zz zz (by simp[Up])) ?_)
 rintro⟨b,k,B,ro⟩ ⟨⟨hb,h3,d5,d7⟩,hv,aq,dd⟩
 simp only at hb h3 d5 d7 hv aq dd;have h4:∀ ρ sn h m,(B.map sC).map (List.map (conv ρ sn h (m+1)))=B.map sC:=λ ρ sn h m=>by simp[AC]
 have h5:(B.map sC).length=B.length:=zz
 have e6:Af B = .vs 13 false (B.map sC):=rfl;generalize bt:B.map sC=ZB at *;refine AB (arc ⟨134,[(0,.pt 0 0 0),(4,.rs 40 0 H.length),(12,.rs 70 0 B.length),(13,.I k),(90,.B (decide (k<9)))],[(0,some (AK L b)),(40,some ⟨1,X,0⟩),(70,some ⟨13,ZB,ro⟩)],900⟩ ?_ ?_)
 .simp
  exact AN [(0,0),(40,40),(70,70)] [] (by simp[AC]<;>exact A0 (by rw[Qg];simp;try omega)) (by simp[q,h4,h5,h3])
 refine AE _ rfl (λ h=>AG ?_) λ h=>Ak (Al ?_)
 .rw [Qa] at h
  have a0:=EH h zy
  obtain⟨t0,b1,⟨a1,_⟩,a2⟩:=Ez L b 10 hl hb zx
  obtain⟨n0,b2,⟨a3,c2,_,hj⟩,a4⟩:=Ez L b1 5 hl a1 zx
  have hj:=hj zx
  obtain⟨n,rfl⟩:∃ n:Nat,n0=n:=⟨n0.toNat,zy⟩
  refine Dx ?_;refine AI ?_;apply ax [0,4,12,13,14] [(0,0),(40,40),(70,70)] [] 1000
  .simp [q,h4,h5,h3]
   rfl
  apply ax [0,4,12,13,14,15] [(0,0),(40,40),(70,70)] [] 1100
  .simp
   refine BZ (i:=0) rfl (e':=AK L b) zz a2 zz zz ?_
   simp[q,h4,h5,h3];rfl
  refine AB ?_;apply ax [0,4,12,13,14,15,16] [(0,0),(40,40),(70,70)] [] 1200
  .simp
   refine BZ (i:=0) rfl (e':=AK L b1) zz a4 zz zz ?_
   simp[q,h4,h5,h3];rfl
  refine AI (An (ι:=YN) (λ p=>⟨134,[(0,.pt 0 0 0),(4,.rs 40 0 H.length),(12,.rs 70 0 B.length),(13,.I k),(14,.rs 50 0 p.Y.length),(15,.I p.t),(16,.I p.n)],[(0,some (AK L p.b)),(40,some ⟨1,X,0⟩),(70,some ⟨13,ZB,ro⟩),(50,some ⟨13,p.Y.map sC,p.ro⟩)],1300⟩) (λ p=>(p.b<=L.length/\p.ro<=p.Y.length/\p.Y.length+p.n<=4)/\Hg (W9 k) p.Y) (λ p=>p.n) ⟨b2,t0,n,[],0⟩ ⟨⟨a3,Qf _,zw⟩,λ s hs=>(QT hs).elim⟩ (Le.nwd 50 13 [(0,AK L b2),(40,⟨1,X,0⟩),(70,⟨13,ZB,ro⟩)] zx zx zz rfl rfl (by simp[q,h4,h5,h3]) zz zz (by simp[Up])) ?_)
  rintro⟨b3,t,m,Y,rp⟩ ⟨⟨h8,hf,a5⟩,h6⟩
  simp only at h8 hf a5 h6;have u:∀ ρ sn h m,(Y.map sC).map (List.map (conv ρ sn h (m+1)))=Y.map sC:=λ ρ sn h m=>by simp[AC]
  have h0:(Y.map sC).length=Y.length:=zz
  have hr:Af Y = .vs 13 false (Y.map sC):=rfl;generalize hZ:Y.map sC=Z at *;refine AB (arc ⟨134,[(0,.pt 0 0 0),(4,.rs 40 0 H.length),(12,.rs 70 0 B.length),(13,.I k),(14,.rs 50 0 Y.length),(15,.I t),(16,.I m),(98,.B (decide (0<m)))],[(0,some (AK L b3)),(40,some ⟨1,X,0⟩),(70,some ⟨13,ZB,ro⟩),(50,some ⟨13,Z,rp⟩)],1400⟩ ?_ ?_)
  .simp
   exact AN [(0,0),(40,40),(70,70),(50,50)] [] (by simp[AC]) (by simp[q,u,h0,hf,h4,h5,h3])
  refine AE _ rfl (λ h=>AG ?_) λ h=>Ak (Al ?_)
  .rw [Qa] at h
   have hm:IntKind.i64.wrap ((m:Int) - 1)=((m - 1:Nat):Int):=by rw[w6];omega
   obtain⟨x1,b4,⟨hg,_⟩,a6⟩:=Ez L b3 3 hl h8 zx
   obtain⟨t2,a7⟩:=AJ (IntKind.i64.wrap (t+x1));obtain⟨x2,b5,⟨ht,c0,_,h7⟩,a8⟩:=Ez L b4 9 hl hg zx
   have h7:=h7 zx
   obtain⟨t5,df⟩:=AJ (IntKind.i64.wrap (t2+50));refine Dx ?_;refine AI ?_;apply ax [0,4,12,13,14,15,16] [(0,0),(40,40),(70,70),(50,50)] [] 1500
   .simp
    refine BZ (i:=0) rfl (e':=AK L b3) zz a6 zz zz ?_
    simp[q,u,h0,hf,h4,h5,h3,<- a7];rfl
   apply ax [0,4,12,13,14,15,16,17] [(0,0),(40,40),(70,70),(50,50)] [] 1600
   .simp
    refine BZ (i:=0) rfl (e':=AK L b4) zz a8 zz zz ?_
    simp[q,u,h0,hf,h4,h5,h3];rfl
   refine EL (ι:=Int) (λ A=>⟨134,[(0,.pt 0 0 0),(4,.rs 40 0 H.length),(12,.rs 70 0 B.length),(13,.I k),(14,.rs 50 0 Y.length),(15,.I t2),(16,.I m),(17,.I A)],[(0,some (AK L b5)),(40,some ⟨1,X,0⟩),(70,some ⟨13,ZB,ro⟩),(50,some ⟨13,Z,rp⟩)],2000⟩) (λ A=>0<=A/\A<9) ?_ λ A hA=>?_
   .refine arc ⟨134,[(0,.pt 0 0 0),(4,.rs 40 0 H.length),(12,.rs 70 0 B.length),(13,.I k),(14,.rs 50 0 Y.length),(15,.I t2),(16,.I m),(17,.I x2),(109,.B (decide (x2=k)))],[(0,some (AK L b5)),(40,some ⟨1,X,0⟩),(70,some ⟨13,ZB,ro⟩),(50,some ⟨13,Z,rp⟩)],1700⟩ ?_ ?_
    .simp
     exact AN [(0,0),(40,40),(70,70),(50,50)] [] (by simp[AC]<;>exact A0 (by rw[Qg];simp)) (by simp[q,u,h0,hf,h4,h5,h3])
    refine AE _ rfl (λ _=>?_) λ _=>AG ?_
    .refine Ab rfl ?_
     simp;exact⟨0,⟨zx,zx⟩,AN [(0,0),(40,40),(70,70),(50,50)] [] (by simp[AC]) (by simp[q,u,h0,hf,h4,h5,h3])⟩
    exact⟨x2,⟨c0,h7⟩,AN [(0,0),(40,40),(70,70),(50,50)] [] (by simp[AC]) (by simp[q,u,h0,hf,h4,h5,h3])⟩
   obtain⟨⟨x,e⟩,ho,h9⟩:=Wu k Y (Ly t2 1 A 3 t5) zy (λ s hs=>(h6 s hs).1.b) (XI _ _ _ _ _)
   simp only at ho h9;rw[hr] at h9;have hi:Z.take Y.length=Z:=Qd zy
   apply ax [0,4,12,13,14,15,16,18,19] [(0,0),(40,40),(70,70),(50,50)] [2088] 2200
   .simp
    refine Oz [50] zx h9 (by simp[u,h0,<- df];exact⟨by rw[hi];exact .refl _,Ti⟩) ?_
    simp[q,u,h0,h4,h5,h3,Ae];rfl
   refine arc ⟨134,[(0,.pt 0 0 0),(4,.rs 40 0 H.length),(12,.rs 70 0 B.length),(13,.I k),(14,.rs 50 0 Y.length),(15,.I t2),(16,.I m),(18,.pv (sC x)),(122,.B (decide (e=0)))],[(0,some (AK L b5)),(40,some ⟨1,X,0⟩),(70,some ⟨13,ZB,ro⟩),(50,some ⟨13,Z,Y.length⟩)],2300⟩ ?_ ?_
   .simp
    exact AN [(0,0),(40,40),(70,70),(50,50)] [] (by simp[AC]<;>exact A0 (by rw[Qg];simp)) (by simp[q,u,h0,h4,h5,h3])
   refine AE _ rfl (λ he=>?_) λ _=>AG ?_
   .rw [Qa] at he
    obtain⟨a9,d3,ag,bp,ai,_⟩:=ho he;have hd:Z++[sC x]=(Y++[x]).map sC:=by rw[QN,hZ];rfl
    refine Ab rfl ?_;simp[u,h0,hi];refine⟨zy,zy,⟨134,[(0,.pt 0 0 0),(4,.rs 40 0 H.length),(12,.rs 70 0 B.length),(13,.I k),(14,.rs 50 0 (Y++[x]).length),(15,.I t2),(16,.I m)],[(0,some (AK L b5)),(40,some ⟨1,X,0⟩),(70,some ⟨13,ZB,ro⟩),(50,some ⟨13,(Y++[x]).map sC,Y.length⟩)],2400⟩,?_,?_⟩
    .rw [<- hd]
     exact AN [(0,0),(40,40),(70,70),(2324,50)] [] (by simp[AC]) (by simp[q,u,h0,h4,h5,h3])
    refine Ab rfl ?_;simp only[<- hd];simp[hm];refine⟨⟨b5,t2,m - 1,Y++[x],Y.length⟩,⟨⟨ht,zz,zw⟩,λ s hs=>?_⟩,zw,?_⟩
    .rcases Qm.1 hs with hs | hs
     .exact h6 s hs
     .rw [Qv] at hs
      subst hs;exact⟨a9,ag,λ bs=>by rw[ai];exact hA⟩
    .simp only[<- hd]
     exact AN [(0,0),(40,40),(70,70),(50,50)] [] (by simp[AC]) (by simp[q,u,h0,h4,h5,h3])
   refine⟨⟨134,[(0,.pt 0 0 0),(4,.rs 40 0 H.length),(12,.rs 70 0 B.length),(13,.I k),(14,.rs 50 0 Y.length),(15,.I t2),(16,.I m)],[(0,some (AK L b5)),(40,some ⟨1,X,0⟩),(70,some ⟨13,ZB,ro⟩),(50,some ⟨13,Z,Y.length⟩)],2400⟩,AN [(0,0),(40,40),(70,70),(50,50)] [] (by simp[AC]) (by simp[q,u,h0,h4,h5,h3]),?_⟩
   refine Ab rfl ?_;simp[hm];refine⟨⟨b5,t2,m - 1,Y,Y.length⟩,⟨⟨ht,zz,zw⟩,h6⟩,zw,?_⟩
   rw[hZ];exact AN [(0,0),(40,40),(70,70),(50,50)] [] (by simp[AC]) (by simp[q,u,h0,h4,h5,h3])
  obtain⟨⟨C,b4⟩,⟨hC,dg,hg⟩,av⟩:=oB (W9 k) L b3 Y hl h8 h6 zy
  simp only at hC dg hg av;rw[hr] at av;have hi:Z.take Y.length=Z:=Qd zy
  have b0:∀ ρ sn h m,(C.map sC).map (List.map (conv ρ sn h (m+1)))=C.map sC:=λ ρ sn h m=>by simp[AC]
  have dn:(C.map sC).length=C.length:=zz
  have ds:ZB++C.map sC=(B++C).map sC:=by rw[QN,bt]
  have hw:ZB.take B.length=ZB:=Qd zy
  generalize e7:C.map sC=ZC at *;have dz:ZC.take C.length=ZC:=Qd zy
  refine Ab rfl ?_;simp;refine Il (i:=0) (j:=50) zx zx rfl rfl zz av zz (by simp[u,h0,hi]) ?_
  simp[b0,dn,dz,h5,hw];refine⟨h3,zy,zy,⟨134,[(0,.pt 0 0 0),(4,.rs 40 0 H.length),(12,.rs 70 0 (B++C).length),(13,.I k)],[(0,some (AK L b4)),(40,some ⟨1,X,0⟩),(70,some ⟨13,ZB++ZC,ro⟩)],2400⟩,AN [(0,0),(40,40),(1432,70)] [] zz (by simp[q,h4,b0,h5,h3];omega),?_⟩
  refine Ab rfl ?_;simp[a0];refine⟨⟨b4,k+1,B++C,ro⟩,⟨⟨hg,zw,zw,zw⟩,λ s hs=>?_,λ a=>?_,zw⟩,zw,?_⟩
  .rcases Qm.1 hs with hs | hs
   .obtain ⟨g1,g2,g3⟩:=hv s hs
    exact⟨g1,zw,g3⟩
   .obtain ⟨g1,g2,g3⟩:=hC s hs
    exact⟨g1,zw,g3⟩
  .show Bh a (B++C)<=6
   rw[Ih]
   by_cases an:a=k
   .rw [Lr (l:=B) (λ s hs=>by have:=(hv s hs).2.1;omega)]
    have:=WC a C;omega
   .rw [Lr (l:=C) (λ s hs=>by rw[(hC s hs).2.1];exact λ h=>an h.symm)]
    exact aq a
  .show Le 1 _ ⟨134,[(0,.pt 0 0 0),(4,.rs 40 0 H.length),(12,.rs 70 0 (B++C).length),(13,.I (k+1:Nat))],[(0,some (AK L b4)),(40,some ⟨1,X,0⟩),(70,some ⟨13,(B++C).map sC,ro⟩)],800⟩
   rw[<- ds];exact AN [(0,0),(40,40),(70,70)] [] (by simp[AC]) (by simp[AC,q,h4,b0,h5];omega)
 rw[Qb] at h;obtain rfl:k=9:=zy
 apply ax [2,3] [(0,0),(40,40),(70,70)] [] 3000
 .simp [q,h4,h5,h3]
  rfl
 have hu:X.take H.length=X:=Qd zy
 have hw:ZB.take B.length=ZB:=Qd zy
 have e0:∀ a,Bh a (H.flatten++B)<=12:=λ a=>by
  have h1:=hz a;have h2:=aq a;rw[Ih];omega
 have e1:∀ (H:List (List AL)),(∀ h∈H,h.length<=5)->H.flatten.length<=5*H.length:=λ H=>by
  induction H with
  | nil=>intro _;simp
  | cons h H ih =>
    intro hh;have h1:=hh h (Qo ..);have h2:=ih λ x hx=>hh x (Qj _ hx);rw[List.flatten_cons,Qe,QS];omega
 have ea:=e1 H hy;refine Am (Bu.mk (.inr rfl) ((H,B),b) ⟨⟨bb,λ s hs=>?_,e0,by show (H.flatten++B).length<=100;rw[Qe];omega⟩,hb⟩ ?_)
 .rcases Qm.1 hs with hs | hs
  .obtain ⟨g1,g2,g3⟩:=hq s hs
   exact⟨g1,zy,g3⟩
  .obtain ⟨g1,g2,g3⟩:=hv s hs
   exact⟨g1,zy,g3⟩
 .rw [<- bt] at h4 hw ⊢
  rw[<- hX] at q hu ⊢;exact⟨_,rfl,[],[40,70],by simp[List.range,List.range.loop],zz,zz,by simp[List.range,List.range.loop,q,h4,hu,hw,AC]<;>exact .refl _,by simp[List.range,List.range.loop,AC]⟩
theorem CO.last {A:List Ed}:∀ {l:List Nat} {u w:Int},CO A u l w->(u::B7 A l)[l.length]? = some w
 | [],u,w,h=>by
   have:u=w:=h;simp[B7,this]
 | i::l,u,w,h=>by
   have:=CO.last h.2.2
   simpa [B7] using this
structure Gn (N:Nat) (A:List Ed) (f:List Int):Prop where
 len:f.length=A.length
 nonneg:∀ i,0<=f.getD i 0
 bal:∀ x:Int,2<=x->x<N->Cl A f x=0
variable {N:Nat} {A:List Ed} {f g:List Int}
theorem BQ.balF (h:BQ N A f):Gn N A f:=by
 have hf:=IA.1 h.fit;refine⟨hf.1,λ i=>?_,λ x h2 h3=>?_⟩
 .by_cases hi:i<A.length
  .exact (hf.2 i hi).1
  .rw [Qn,Q6 (by rw[hf.1];omega)]
   exact Int.le_refl _
 .have:=h.bal x.toNat zy zy
  rw[Int.toNat_of_nonneg zy] at this
  unfold Cl;omega
theorem Gb.balF (hf:Gn N A f) {l:List Nat} (h:Gb A f g l 1):Gn N A g/\Cl A g 0=Cl A f 0 - 1:=by
 refine⟨⟨h.len,h.nonneg,λ x h2 h3=>?_⟩,?_⟩
 .rw [h.ex x,hf.bal x h2 h3,if_neg zy,if_neg zy]
  rfl
 .rw [h.ex 0,if_pos rfl,if_neg zx]
  omega
structure JF (N:Nat) (A:List Ed) (f g:List Int) (W:List (List Nat)):Prop where
 bal:Gn N A g
 ex:Cl A g 0=Cl A f 0 - W.length
 ways:∀ w∈W,CO A 0 w 1/\(B7 A w).Nodup
 used:∀ i,g.getD i 0+(Cw (List.count i) W:Int)<=f.getD i 0
theorem JF.nil (hf:Gn N A f):JF N A f f []:=⟨hf,zz,zz,λ i=>by simp[Cw]⟩
theorem JF.more {g':List Int} {W:List (List Nat)} {l:List Nat} (h:JF N A f g W) (hl:Gb A g g' l 1):JF N A f g' (W++[l]):=by
 obtain⟨b1,b2⟩:=hl.balF h.bal;refine⟨b1,by rw[b2,h.ex,Qe,Q8];omega,λ w hw=>?_,λ i=>?_⟩
 .rcases Qm.1 hw with hw | hw
  .exact h.ways w hw
  .rw [Qv] at hw
   subst hw;exact⟨hl.way,(Uh.1 hl.met).2⟩
 .have h1:=h.used i
  have h2:=hl.used i;have h3:Cw (List.count i) (W++[l])=Cw (List.count i) W+l.count i:=by unfold Cw;simp
  rw[h3];omega
variable {A:List Ed} {l:List BS} {v:Int}
theorem XV {α:Type} {l:List α} (h:l.Nodup):l.reverse.Nodup:=List.pairwise_reverse.2 (h.imp λ q e=>q e.symm)
theorem tN (hv:v≠0):DI (Fo v)=v:=by
 unfold Fo DI
 by_cases h:0<v
 .rw [if_pos h];simp;omega
 .rw [if_neg h];simp;omega
def D6 (A:List Ed) (u:Int) (l:List BS):Nat->Int
 | 0=>u
 | j+1=>BA A (l.getD j (0,false))
theorem V7 {u:Int} {s:BS} (j:Nat):D6 A u (s::l) (j+1)=D6 A (BA A s) l j:=by
 cases j<;>rfl
theorem Yn {A:List Ed}:∀ {l:List BS} {u w:Int},DR A u l w -> ∀ j (hj:j<l.length),C7 A l[j]=D6 A u l j
 | s::l,u,w,h,0,_=>h.2.1
 | s::l,u,w,h,j+1,hj=>by
   rw[V7];exact Yn h.2.2 j (by simpa using hj)
theorem T8 {A:List Ed}:∀ {l:List BS} {u w:Int},DR A u l w->D6 A u l l.length=w
 | [],u,w,h=>h
 | s::l,u,w,h=>by
   rw[QS,V7];exact T8 h.2.2
variable {N:Nat} {A:List Ed} {f D b:List Int}
structure I9 (N:Nat) (A:List Ed) (f b:List Int) (l:List BS):Prop where
 way:DR A 0 l 1
 nodup:(l.map (·.1)).Nodup
 at_:∀ j (h:j<l.length),l[j].1<A.length/\0<Ci A f l[j]/\BA A l[j]≠0/\0<=BA A l[j]/\BA A l[j]<N/\b.getD (BA A l[j]).toNat 0=DI l[j]
theorem DK.chain (h:DK N A f D b) (h1:(1:Int)∈D):∃ l,I9 N A f b l:=by
 obtain⟨j,hj,hx⟩:=Qt.1 h1;obtain⟨l,l1,l2,l3⟩:=h.tree.way j j hj (Qf _);rw[hx] at l1;refine⟨l,l1,l2,λ i hi=>?_⟩;obtain⟨q1,q2,q3,q4,_,q5⟩:=l3 _ (Qi hi);have hm:=QM q5;have hr:=h.rng _ hm;have q:=h.inn _ hm q4;refine⟨q1,q2,q4,hr.1,hr.2,?_⟩;rw[<- tN q,q3]
theorem I9.from_ (h:I9 N A f b l) (j:Nat) (hj:j<l.length):C7 A l[j]=D6 A 0 l j:=Yn h.way j hj
def E7 (v:Int) (f:List Int) (l:List BS) (j:Nat):List Int:=FE v f (l.drop j).reverse
theorem fZ (v:Int) (f:List Int) (l:List BS):E7 v f l l.length=f:=by simp[E7,FE]
theorem nV (v:Int) (f:List Int) (l:List BS) (j:Nat):(E7 v f l j).length=f.length:=Ka
theorem bU {f:List Int} (j:Nat) (hj:j<l.length):E7 v f l j=FR v (E7 v f l (j+1)) l[j]:=by
 unfold E7 FE;rw[QO hj,List.reverse_cons,UU];rfl
theorem mL (hn:(l.map (·.1)).Nodup) (hr:∀ s∈l,s.1<f.length) (j:Nat) (hj:j<l.length):(E7 v f l (j+1)).getD l[j].1 0=f.getD l[j].1 0:=by
 refine(KH (δ:=v) (f:=f) (i:=l[j].1) (l:=(l.drop (j+1)).reverse) ?_ ?_).1 ?_
 .rw [List.map_reverse]
  refine XV ?_;exact hn.sublist ((List.drop_sublist _ _).map _)
 .intro s hs
  exact hr s (Uw (Va.1 hs))
 .rw [List.map_reverse,Va]
  intro hm;obtain⟨s,hs,he⟩:=Ql.1 hm;obtain⟨i,hi,rfl⟩:=Qt.1 hs;rw[QY] at hi;rw[List.getElem_drop] at he;have h1:=(QK.1 hn) j (j+1+i) (by rw[Qs];exact hj) (by rw[Qs];omega) zy
  rw[List.getElem_map,List.getElem_map] at h1;exact h1 he.symm
theorem uT (hn:(l.map (·.1)).Nodup) (hr:∀ s∈l,s.1<f.length):E7 v f l 0=FE v f l:=by
 unfold E7;rw[List.drop_zero];have q:(l.reverse.map (·.1)).Nodup:=by rw[List.map_reverse];exact XV hn
 have u:∀ s∈l.reverse,s.1<f.length:=λ s hs=>hr s (Va.1 hs);apply List.ext_getElem (by rw[Ka,Ka])
 intro i h1 h2;have e:∀ (L:List Int) (h:i<L.length),L[i]=L.getD i 0:=λ L h=>by rw[Qn,Qc h,QZ]
 rw[e _ h1,e _ h2];have g1:=KH (δ:=v) (f:=f) (i:=i) q u;have g2:=KH (δ:=v) (f:=f) (i:=i) hn hr
 by_cases hm:i∈l.map (·.1)
 .obtain ⟨s,hs,rfl⟩:=Ql.1 hm
  rw[g1.2 s.2 (Va.2 hs),g2.2 s.2 hs]
 .rw [g1.1 (by rw[List.map_reverse,Va];exact hm),g2.1 hm]
theorem I9.push (hn:Ds N A) (hf:BQ N A f) (h:I9 N A f b l) (h0:0<=v) (hv:∀ s∈l,v<=Ci A f s):BQ N A (E7 v f l 0)/\Ai A (E7 v f l 0)=Ai A f+v:=by
 have hr:∀ s∈l,s.1<A.length:=λ s hs=>by
  obtain⟨i,hi,rfl⟩:=Qt.1 hs;exact(h.at_ i hi).1
 rw[uT h.nodup λ s hs=>by rw[hf.fit.len];exact hr s hs]
 exact tT hn hf h0 h.way h.nodup λ s hs=>⟨hr s hs,hv s hs⟩
theorem Jl {A:List Ed} {N:Nat} (h:DS ⟨N,A⟩):Ds N A:=by
 obtain⟨h1,_,_,h4⟩:=h;simp only at h1 h4;refine⟨zy,λ e he=>?_⟩
 obtain⟨q1,q2,q3,q4,q5,q6,q7,q8,_⟩:=h4 e he;exact⟨q1,zy,q3,zy,q5,q6,q7,q8⟩
variable {A:List Ed} {N:Nat} {P Q:List (List Int)} {c:List Int}
theorem iD (h:P.Perm Q) (k:Int):EI P k=EI Q k:=h.countP_eq _
theorem rU (h:P.Perm Q) (k:Int):Dr P k=Dr Q k:=(h.flatMap_right _).count_eq k
theorem qZ (h:P.Sublist Q) (k:Int):EI P k<=EI Q k:=h.countP_le
theorem l4 (h:P.Sublist Q) (k:Int):Dr P k<=Dr Q k:=by
 unfold Dr
 induction h with
 | slnil=>exact Qf _
 | cons a _ ih=>rw[U3,Vd];omega
 | cons_cons a _ ih=>rw[U3,U3,Vd,Vd];omega
theorem HZ.perm (h:HZ c P) (hp:P.Perm Q):HZ c Q:=λ k hk=>by
 rw[<- iD hp,<- rU hp];exact h k hk
theorem HZ.sub (h:HZ c Q) (hs:P.Sublist Q):HZ c P:=λ k hk=>by
 have h1:=h k hk;have h2:=qZ hs k;have h3:=l4 hs k;omega
theorem aU (h:P.Perm Q):(Ft P).Perm (Ft Q):=h.filterMap _
theorem JO.perm {g:Gr} {lv:Int} {seeds order:List Int} {u q:List Int} (h:JO g lv seeds order c P u) (hp:P.Perm Q) (he:u.Perm q):JO g lv seeds order c Q q :=
 ⟨λ w hw=>h.1 w (hp.mem_iff.2 hw),h.2.1.perm hp,LU.2 (((aU hp).symm.trans (LU.1 h.2.2)).trans he)⟩
theorem Nl (hn:Ds N A):BQ N A (A.map λ _=>0):=by
 have hs:∀ (φ:Ed->Int->Int),(∀ e,φ e 0=0) -> ∀ A:List Ed,Ap φ A (A.map λ _=>0)=0:=by
  intro φ hφ A
  induction A with
  | nil=>simp[Ap]
  | cons e A ih=>simp only[QA,Ap];rw[hφ,ih];omega
 refine⟨?_,λ x _ _=>?_⟩
 .have h0:∀ B:List Ed,(∀ e∈B,0<=e.v)->CL B (B.map λ _=>0):=by
   intro B
   induction B with
   | nil=>intro _;exact True.intro
   | cons e B ih=>intro h;exact⟨⟨Int.le_refl _,h e (Qo ..)⟩,ih λ x hx=>h x (Qj _ hx)⟩
  exact h0 A λ e he=>(hn.arc e he).2.2.2.2.2.2.2
 .unfold DH FV
  rw[hs _ λ e=>by split<;>rfl,hs _ λ e=>by split<;>rfl]
theorem K7 (hn:Ds N A):∃ f,BQ N A f /\ ∀ f',BQ N A f'->Ai A f'<=Ai A f:=by
 have hb:∀ f,BQ N A f->Ai A f<=Ba (λ x=>decide (x=0)) A:=λ f hf=>Kr hn hf zz zz
 have key:∀ (n:Nat) (f:List Int),BQ N A f->Ba (λ x=>decide (x=0)) A - Ai A f<=n -> ∃ f,BQ N A f /\ ∀ f',BQ N A f'->Ai A f'<=Ai A f:=by
  intro n
  induction n with
  | zero =>
    intro f hf h;exact⟨f,hf,λ f' q=>by have:=hb f' q;omega⟩
  | succ n ih =>
    intro f hf h
    by_cases hm:∀ f',BQ N A f'->Ai A f'<=Ai A f
    .exact ⟨f,hf,hm⟩
    .obtain ⟨f',q⟩:=Classical.not_forall.1 hm
     obtain⟨h1,h2⟩:=Classical.not_imp.1 q;exact ih f' h1 zy
 exact key _ _ (Nl hn) (Int.self_le_toNat _)
def Co (N:Nat) (A:List Ed):Int:=open Classical in if h:∃ f,BQ N A f /\ ∀ f',BQ N A f'->Ai A f'<=Ai A f then Ai A h.choose else 0
theorem Ja {f:List Int} (hf:BQ N A f) (hm:∀ f',BQ N A f'->Ai A f'<=Ai A f):Co N A=Ai A f:=by
 have h:∃ f,BQ N A f /\ ∀ f',BQ N A f'->Ai A f'<=Ai A f:=⟨f,hf,hm⟩;unfold Co;rw[dif_pos h];have h1:=h.choose_spec;have h2:=hm _ h1.1;have h3:=h1.2 _ hf;omega
theorem Xl (hn:Ds N A) {f:List Int} (hf:BQ N A f):Ai A f<=Co N A:=by
 obtain⟨m,h1,h2⟩:=K7 hn;rw[Ja h1 h2];exact h2 f hf
theorem S4 (hn:Ds N A):∃ f,BQ N A f/\Ai A f=Co N A:=by
 obtain⟨m,h1,h2⟩:=K7 hn;exact⟨m,h1,(Ja h1 h2).symm⟩
def Kb (A:List Ed) (f:List Int) (l:List BS) (j:Nat) (v:Int):Prop:=∀ t∈l.drop j,v<=Ci A f t
variable {g:Int->Int}
theorem Oq {φ:Ed->Int->Int}:∀ {A:List Ed} {f:List Int} (i:Nat) (h1:i<A.length) (h2:i<f.length),Ap φ (A.take (i+1)) (f.take (i+1))=Ap φ (A.take i) (f.take i)+φ A[i] f[i]
 | e::A,v::f,0,_,_=>by simp[Ap]
 | e::A,v::f,i+1,h1,h2=>by
   have:=Oq (φ:=φ) (A:=A) (f:=f) i (by simpa using h1) (by simpa using h2)
   simp only[List.take_succ_cons,Ap,this,List.getElem_cons_succ];omega
def EA (A:List Ed) (f:List Int) (i:Nat) (x:Int):Int:=FV (A.take i) (f.take i) x - DH (A.take i) (f.take i) x
variable {N:Nat} {A:List Ed} {f:List Int}
theorem Yx (x:Int):EA A f 0 x=0:=by simp[EA,FV,DH,Ap]
theorem Xw {i:Nat} (h1:i<A.length) (h2:i<f.length) (x:Int):EA A f (i+1) x=EA A f i x+(if A[i].t=x then f[i] else 0) - if A[i].f=x then f[i] else 0:=by
 unfold EA FV DH;rw[Oq i h1 h2,Oq i h1 h2];omega
theorem uV (hl:f.length=A.length) (x:Int):EA A f A.length x = - Cl A f x:=by
 unfold EA Cl;rw[Qd (Qf _),Qd zy]
 omega
theorem Vq (hl:f.length=A.length) (hb:∀ j (h:j<f.length),0<=f[j]/\f[j]<=1048576) (x:Int):∀ i,i<=A.length -> -(1048576*(i:Int))<=EA A f i x/\EA A f i x<=1048576*(i:Int)
 | 0,_=>by rw[Yx];omega
 | i+1,h=>by
   have ih:=Vq hl hb x i zy
   have h2:=hb i zy
   rw[Xw zy zy]
   split<;>split<;>omega
def BX (N:Nat) (g:Int->Int):List Int:=(List.range N).map λ k:Nat=>g k
theorem IX (N:Nat) (g:Int->Int):(BX N g).length=N:=by simp[BX]
theorem KZ {x:Int} (h0:0<=x) (h1:x<N):(BX N g)[x.toNat]? = some (g x):=by
 unfold BX;rw[QB,List.getElem?_range zy]
 simp only[Ug,Int.toNat_of_nonneg h0]
theorem Wh {x v:Int} (h0:0<=x) (h1:x<N):(BX N g).set x.toNat v=BX N λ y=>if y=x then v else g y:=by
 apply List.ext_getElem?;intro j
 by_cases hj:j<N
 .have e1:=KZ (N:=N) (g:=λ y=>if y=x then v else g y) (x:=(j:Int)) zy zy
  have e2:=KZ (N:=N) (g:=g) (x:=(j:Int)) zy zy
  simp only[Int.toNat_natCast] at e1 e2;rw[UE,e1,e2,IX]
  by_cases hx:x.toNat=j
  .rw [if_pos hx,if_pos zy,if_pos zy]
  .rw [if_neg hx,if_neg zy]
 .rw [Q6 (by rw[UG,IX];omega),Q6 (by rw[IX];omega)]
theorem Tp {h:Int->Int} (e:∀ x,g x=h x):BX N g=BX N h:=by
 obtain rfl:g=h:=funext e;rfl
theorem bB {g:Gr} {p:A9} {aB:List Int} (hg:AH g) (hp:CI g.size p) (hk:∀ x∈aB,0<=x/\x<g.size):Ds (2+2*g.size).toNat (Df g p (Bk g p) aB):=by
 have h0:=hg.1.1;have q:=hp.2.1.nodup;have u:=Ob hg p.lv;have h4:(Bk g p).length=g.size.toNat:=by unfold Bk;rw[Qs,YG];rfl
 refine⟨zy,λ a ha=>?_⟩
 unfold Df at ha;rcases Qm.1 ha with ha | ha
 .rcases Qm.1 ha with ha | ha
  .rcases Qm.1 ha with ha | ha
   .obtain ⟨x,hx,rfl⟩:=Ql.1 ha
    have h1:=QF.1 hx;have h2:=q.2 x h1.1;have h3:0<(Bk g p).getD x.toNat 0:=by simpa using h1.2
    simp only;omega
   .obtain ⟨i,hx,rfl⟩:=Ql.1 ha
    have h1:=QF.1 hx;have h2:=Q1.1 h1.1;have h3:0<(Bk g p).getD i 0:=by simpa using h1.2
    simp only;omega
  .obtain ⟨x,hx,rfl⟩:=Ql.1 ha
   have h2:=hk x (QF.1 hx).1;simp only;omega
 .obtain ⟨e,hx,rfl⟩:=Ql.1 ha
  have h2:=u.2 e (QF.1 hx).1;simp only;omega
open Classical in
theorem TL (n:Gg) (side:List Int) (hl:n.arcs.length<=1099511627776) (hs:side.length<=9223372036854775807):AF 112 [eN n,AA side] [] (.B (decide (Gv n side))) []:=by
 refine c9.s.ac ?_;show AY _ 0 _ _ ⟨24,[(0,eN n),(1,AA side)],[],16⟩;refine rs [1,2] [] [16] ?_;refine arc ⟨24,[(4,.B (decide (Gv n side)))],[],300⟩ ?_ ?_
 .have hc:=P3 n hl
  by_cases hn:DS n
  .rw [if_pos hn] at hc
   have hw:IntKind.i64.wrap (n.nodes - 1)=n.nodes - 1:=I4 (by have:=hn.1;omega) (by have:=hn.2.1;omega)
   simp;refine Au hc ?_;simp[hw];refine Au (SM side 0 (n.nodes - 1) hs) ?_;simp;refine DC (λ hb=>?_) (λ hb=>?_)<;>(try rw[hb])<;>(try simp at hb)<;>simp[hb]
   .refine Au (PP side 0 hs) ?_
    simp;refine DC (λ q=>?_) (λ q=>?_)<;>(try rw[q])<;>(try simp at q)<;>simp[q]
    .refine Au (PP side 1 hs) ?_
     simp;exact AZ [] (by simp[Gv,hn,hb,q])
    .exact AZ [] (by simp[Gv,hn,hb,q])
   .exact AZ [] (by simp[Gv,hn,hb])
  .rw [if_neg hn] at hc
   simp;refine Au hc ?_;simp;exact AZ [] (by simp[Gv,hn])
 exact Bg
variable {N k:Nat}
def Dh (N:Nat) (s:List Int):List (List AV):=(List.range N).map λ (k:Nat)=>[AV.B (decide ((k:Int)∈s))]
theorem Kp (N:Nat) (s:List Int):(Dh N s).length=N:=by simp[Dh]
theorem qM (N:Nat):Dh N []=List.replicate N [AV.B false]:=by
 unfold Dh;simp[List.map_const']
theorem eI (hk:k<N) (s:List Int):(Dh N s)[k]? = some [AV.B (decide ((k:Int)∈s))]:=by simp[Dh,hk]
@[simp] theorem yT {s:List Int} (h:k<(Dh N s).length):(Dh N s)[k]=[AV.B (decide ((k:Int)∈s))]:=by simp[Dh]
theorem Zu (s:List Int):(Dh N s).set k [AV.B true]=Dh N (s++[(k:Int)]):=by
 apply List.ext_getElem?;intro i;rw[UE]
 by_cases h:k=i
 .subst h
  rw[if_pos rfl]
  by_cases hk:k<N
  .rw [if_pos (by rw[Kp];exact hk),eI hk]
   simp
  .rw [if_neg (by rw[Kp];exact hk)]
   simp[Dh,hk]
 .rw [if_neg h]
  unfold Dh;simp only[QB]
  by_cases hi:i<N
  .simp [hi,show ¬ ((i:Int)=k) by omega]
  .simp [hi]
@[simp] theorem xX {ρ:List (Nat × Nat)} {sn:List Nat} {h:Nat->Option AD} {s:List Int}:(Dh N s).map (·.map (conv ρ sn h 4))=Dh N s:=by
 unfold Dh;rw[Us];rfl
open Classical in
theorem gN (n:Gg) (side:List Int) (hl:n.arcs.length<=1099511627776) (hs:side.length<=9223372036854775807):AF 113 [eN n,AA side] [] (.I (if Gv n side then CA n.arcs side else 0)) []:=by
 refine gP.s.ac ?_;show AY _ 0 _ _ ⟨54,[(0,eN n),(1,AA side)],[],16⟩;refine rs [1,2] [] [16] ?_;refine AB (rx (s:=?s2) [1,2,14] [] [] rfl ?o2 ?q2)
 case o2=>simp;refine Ah (TL n side hl hs) zz ?_;simp;rfl
 refine AE _ rfl (λ h3=>?_) λ h3=>?_
 .simp at h3
  refine rs [4] [] [] ?_;exact BR (AO.one (by simp[h3]))
 simp at h3;have hc:=h3.1.2.2.1;have hd:=h3.1.1;have he:=h3.1.2.1;obtain⟨N,hN,hg⟩:∃ N:Nat,n.nodes=N/\N<=130:=⟨n.nodes.toNat,zy,zy⟩
 have h1:∀ k∈side,∃ j:Nat,k=j/\j<N:=λ k hk=>by
  obtain⟨i,hi,rfl⟩:=UB hk;have:=(h3.2.1 i hi);exact⟨side[i].toNat,zy,zy⟩
 refine AG (arc ⟨54,[(1,AA side),(2,.pv (nC n)),(5,.rs 80 0 N)],[(80,some ⟨1,Dh N [],0⟩)],96⟩ ?_ ?_)
 .rw [qM]
  simp[hN];refine⟨zy,?_⟩
  exact Le.keep rfl (Qf _) (by simp[hN]) (by simp[hN])
 refine AB (rk (s:=?s5) [1,2,5,18,19,20] [80] rfl ?o5 ?q5)
 case o5=>simp;rfl
 refine AI (An (ι:=Nat) (λ i=>⟨54,[(1,AA side),(2,.pv (nC n)),(5,.rs 80 0 N),(18,AA side),(19,.I side.length),(20,.I i)],[(80,some ⟨1,Dh N (side.take i),0⟩)],120⟩) (λ i=>i<=side.length) (λ i=>side.length - i) 0 zz (A5) ?_)
 intro i hi;refine rk (s:=?s6) [1,2,5,18,19,20,21] [80] rfl ?o6 ?q6
 case o6=>simp;rfl
 refine AB (AE _ rfl (λ h7=>?_) λ h7=>?_)
 .simp at h7
  have hw:=w6 (x:=(i:Int)+1);obtain⟨j,hj,h6⟩:=h1 _ (Qi h7)
  have h2:(Dh N (side.take i)).set j [AV.sc (.bool true)]=Dh N (side.take (i+1)):=by
   rw[Qp h7,hj];exact Zu _
  refine AG (AB (AI (rk (s:=?s8) [1,2,5,7,18,19,20] [80] rfl ?o8 ?q8)))
  case o8=>simp[h7,hj];rfl
  refine Ay (s:=?s9) rfl ?o9 ?q9
  case o9=>simp[h6,Kp,h2];rfl
  refine Ay (s:=?s10) rfl ?o10 ?q10
  case o10=>simp[hw];rfl
  exact⟨i+1,zy,zy,CK [(80,80)] []⟩
 simp at h7;obtain rfl:i=side.length:=zy
 rw[Qd (Qf _)];refine Ak (Al (rk (s:=?s11) [1,2,5,8] [80] rfl ?o11 ?q11))
 case o11=>simp;rfl
 refine AB (rk (s:=?s12) [5,8,29,30,31] [80] rfl ?o12 ?q12)
 case o12=>simp;rfl
 refine AI (An (ι:=Nat) (λ i=>⟨54,[(5,.rs 80 0 N),(8,.I (CA (n.arcs.take i) side)),(29,BE n.arcs),(30,.I n.arcs.length),(31,.I i)],[(80,some ⟨1,Dh N side,0⟩)],168⟩) (λ i=>i<=n.arcs.length) (λ i=>n.arcs.length - i) 0 zz (AN [(80,80)] [] (by simp[CA]) zz) ?_)
 intro i hi;have hh:=Wt (n:=n.nodes) (side:=side) (arcs:=n.arcs.take i) λ a ha=>h3.1.2.2.2 a (QM ha);have hm:=List.length_take_le' i n.arcs;refine rk (s:=?s13) [5,8,29,30,31,32] [80] rfl ?o13 ?q13
 case o13=>simp;rfl
 refine AB (AE _ rfl (λ h7=>?_) λ h7=>?_)
 .simp at h7
  have hw:=w6 (x:=(i:Int)+1);have h0:=vZ n.arcs side i h7;have q:=h3.1.2.2.2 _ (Qi h7);have h4:IntKind.i64.wrap (CA (n.arcs.take i) side+n.arcs[i].v)=CA (n.arcs.take i) side+n.arcs[i].v:=I4 (by have:=q.2.2.2.2.2.2.2.1;omega) (by have:=q.2.2.2.2.2.2.2.2;omega)
  obtain⟨x,hx⟩:=AJ (n.arcs[i]);rw[<- hx] at h0 q h4;obtain⟨f,hf,h9⟩:∃ f:Nat,x.f=f/\f<N:=⟨x.f.toNat,by have:=q.1;omega,by have:=q.1;have:=q.2.1;omega⟩
  obtain⟨u,hu,h5⟩:∃ u:Nat,x.t=u/\u<N:=⟨x.t.toNat,by have:=q.2.2.1;omega,by have:=q.2.2.1;have:=q.2.2.2.1;omega⟩
  refine AG (Bm ⟨54,[(5,.rs 80 0 N),(8,.I (CA (n.arcs.take (i+1)) side)),(29,BE n.arcs),(30,.I n.arcs.length),(31,.I i)],[(80,some ⟨1,Dh N side,0⟩)],400⟩ ?_ ?_)
  .refine AI (arc ⟨54,[(5,.rs 80 0 N),(8,.I (CA (n.arcs.take i) side)),(10,.pv (eC x)),(29,BE n.arcs),(30,.I n.arcs.length),(31,.I i)],[(80,some ⟨1,Dh N side,0⟩)],208⟩ ?_ ?_)
   .simp [h7,<- hx]
    exact CK [(80,80)] [192]
   refine arc ⟨54,[(5,.rs 80 0 N),(8,.I (CA (n.arcs.take i) side)),(10,.pv (eC x)),(29,BE n.arcs),(30,.I n.arcs.length),(31,.I i),(47,.B (decide ((f:Int)∈side/\(u:Int)∉side)))],[(80,some ⟨1,Dh N side,0⟩)],312⟩ ?_ ?_
   .simp [hf,hu,h9,h5,Kp]
    refine DC (λ hb=>?_) (λ hb=>?_)<;>(try rw[hb])<;>(try simp at hb)<;>simp[hb,hu,h5,Kp]
    .exact AN [(80,80)] [] (by simp[hb])
    .exact AN [(80,80)] [] (by simp[hb])
   rw[<- hf,<- hu];refine AE _ rfl (λ h8=>?_) λ h8=>?_
   .rw [Qa] at h8
    rw[if_pos h8] at h0;refine AT ?_;exact AN [(80,80)] [] (by simp[h0,h4])
   .rw [Qb] at h8
    rw[if_neg h8] at h0;exact AG (AN [(80,80)] [] (by simp[h0]))
  refine AT ?_;exact⟨i+1,zy,zy,AN [(80,80)] [] (by simp[hw])⟩
 simp at h7;obtain rfl:i=n.arcs.length:=zy
 refine Ak (Al (rk (s:=?s16) [4] [] rfl ?o16 ?q16))
 case o16=>simp;rfl
 exact BR (AO.one (by simp[h3]))
open Classical in
theorem bX (n:Gg) (side:List Int) (most:Int) (hl:n.arcs.length<=1099511627776) (hs:side.length<=9223372036854775807):AF 58 [eN n,AA side,.I most] [] (.B (decide (HD n side most))) []:=by
 refine Zy.s.ac ?_;show AY _ 0 _ _ ⟨17,[(0,eN n),(1,AA side),(2,.I most)],[],16⟩;refine rs [1,2,3] [] [16] ?_;refine arc ⟨17,[(6,.B (decide (HD n side most)))],[],300⟩ ?_ ?_
 .have hc:=gN n side hl hs
  simp;refine Au (TL n side hl hs) ?_;simp
  by_cases hv:Gv n side
  .rw [if_pos hv] at hc
   simp[hv];refine Au hc ?_;simp;exact AZ [] (by simp[HD,hv])
  .simp [hv]
   exact AZ [] (by simp[HD,hv])
 exact Bg
section
variable {P:Program} {np id:Nat} {h:Nat->Option AD} {K:AV->List Nat->List (Nat × Option AD)->Prop} {f:FuncId} {first aA args aC:List AV} {res:AV}
theorem JT {i j:Nat} {e1 e2 e1' e2':AD} {hs':List (Option AD)} (hij:i≠j) (h1:h i=some e1) (h2:h j=some e2) (q:AX [(i,0),(j,1)] [] h 4 e1=e1') (u:AX [(i,0),(j,1)] [] h 4 e2=e2') (hc:CF P f aC [e1',e2'] res hs') (h8:hs'.length<=10) (he:(first++args++aA).map (conv [(i,0),(j,1)] [] h 4)=aC) (hk:K (conv (Cb [i,j] id) [] (λ _=>none) 4 res) [i,j] (hs'.zipIdx.map λ (e,k)=>((i::j::(List.range 8).map (id + ·)).getD k 0,e.map (AX (Cb [i,j] id) [] (λ _=>none) 4)))):aK P np id .call (.fn (.func f) first aA::args) h K :=
 ⟨[i,j],[],true,aC,[e1',e2'],res,hs',by simp[hij],zz,zz,by rw[show [i,j].zipIdx=[(i,0),(j,1)] from rfl,he];exact FT _,by
  rw[show [i,j].zipIdx=[(i,0),(j,1)] from rfl]
  simp only[QA,Vb,h1,h2,Ug,q,u],hc,by simpa using h8,.inl rfl,by simpa [Cb] using hk⟩
end
theorem I8 (k:Int) (h:0<=k) (h2:k<=1000000):AF 155 [.I k] [] (.I (2+2*k)) []:=by
 refine pI.s.ai ?_;have q:=w6 (x:=2*k);have u:=w6 (x:=2+2*k);refine rs [0] [] [] ?_;refine rx (s:=?s2) [2] [] [] rfl ?o2 ?q2
 case o2=>simp[q,u];rfl
 exact Bg
theorem XW (k:Int) (h:0<=k) (h2:k<=1000000):AF 158 [.I k] [] (.I (3+2*k)) []:=by
 refine Zh.s.ai ?_;have q:IntKind.i64.wrap (2+2*k+1)=3+2*k:=by rw[w6];omega
 refine rs [0] [] [] ?_;refine rx (s:=?s2) [2] [] [] rfl ?o2 ?q2
 case o2=>simp;refine Ah (I8 k h h2) zz ?_;simp[q];rfl
 exact Bg
abbrev DA (N:Int) (B n:Nat):AD:=⟨2,[[.I N,.rs B 0 n]],0⟩
theorem L9 (N f t v:Int) (L:List Ed) (n:Nat) (hL:L.length=n) (hn:n<=1000000):AF 156 [.I f,.I t,.I v,.pt 0 0 0] [DA N 1 n,⟨3,Cm L,0⟩] (.tup []) [some (DA N 2 (n+1)),none,some ⟨3,Cm (L++[⟨f,t,v⟩]),0⟩]:=by
 refine kR.s.ai ?_;have q:∀ f:Ed->List AV,List.take n (List.map f L)=List.map f L:=λ f=>Qd (by simp[hL])
 refine Ay (s:=?s1) rfl ?o1 ?q1
 case o1=>simp[hL,q];refine⟨zy,zy,?_⟩;rfl
 refine⟨.inl rfl,⟨[],rfl,[72],[],by simp[List.range,List.range.loop],zz,zz,zz,?_⟩⟩
 simp[List.range,List.range.loop]
end Go.Proofs.YtkabgnlcllmleaaGreat
