/- Texts of this claim,merged. -/
import Derived.Test.YtklclphfcibagaaGreatRb4
import Derived.Test.YtklclphfcibagaaGreatRb3
import Derived.Test.YtklclphfcibagaaGreatRb2
set_option linter.unusedSimpArgs false
set_option linter.unusedVariables false
set_option linter.unusedSectionVars false
set_option maxRecDepth 100000
set_option maxHeartbeats 8000000
noncomputable section
namespace Go.Proofs.YtklclphfcibagaaGreat
open Go
abbrev EV (R:List (Int × List Int)):List (List AV):=R.map λ r=>[.I r.1,AA r.2]
abbrev Iz (acc flow:List Int) (R:List (Int × List Int)):AV:=.agg [AA acc,AA flow,.vs 2 false (EV R)]
structure TH where
 i:Nat
 R:List (Int × List Int)
open Classical in
theorem jZ (g:Gr) (p:BV) (hg:Ah g) (hp:CG g.size p) (hs:p.seeds.length<=64) :
  ∃ x:List (Int × List Int) × List Int,(Fh g p (Aj (Ao g p.lv) p.seeds) x.1/\Jk g p (Az (Ai g p (Aj (Ao g p.lv) p.seeds))) x.2) /\
    AK 65 [eG g,eP p] [] (.tup [Iz (Ai g p (Aj (Ao g p.lv) p.seeds)) x.2 x.1,.I 0]) []:=by
 refine sL.s.acallsX (args:=[eG g,eP p]) (hs:=[]) (λ x=>.tup [Iz (Ai g p (Aj (Ao g p.lv) p.seeds)) x.2 x.1,.I 0]) (λ _=>[]) (λ x:List (Int × List Int) × List Int=>Fh g p (Aj (Ao g p.lv) p.seeds) x.1/\Jk g p (Az (Ai g p (Aj (Ao g p.lv) p.seeds))) x.2) (AW rfl) (AW rfl) (λ _=>Qg _) ?_;show AQ _ 0 _ _ ⟨84,[(0,eG g),(1,eP p)],[],16⟩;have am:=hg.1.1;have ag:=hg.1.2.1;have an:=hg.edges_le;have aq:=hg.gone_le;have h7:=LB g p zy zy zy (by have:=hp.2.2.2.1;omega)
 rw[if_pos hg,if_pos hp] at h7;have hm:=Ns g p.lv zy zy
 have h8:=Z0 (g:=Ao g p.lv) (S:=p.seeds) (hg.level p.lv) zy
 obtain⟨o,ho⟩:=AL (Aj (Ao g p.lv) p.seeds);have hd:∀ k∈o,0<=k/\k<g.size:=λ k hk=>by rw[ho] at hk;have h:=KF hk;exact h
 have a2:o.Nodup:=by rw[ho];exact IY _ _
 rw[<- ho] at h8 ⊢
 have a3:o.length<=64:=by
  have:=Fs (b:=(List.range g.size.toNat).map λ i:Nat=>(i:Int)) a2 λ x hx=>by
   have:=hd x hx;exact Qm.2 ⟨x.toNat,QS.2 zy,zy⟩
  simp at this;omega
 have hq:∀ a:List Int,(∀ x∈a,0<=x/\x<g.size)->Bh (Az a) 0 (g.size - 1):=λ a h=>Nd h;have hj0:Az []=[]:=rfl;refine rs [2,3,4] [32] [16,24] ?_;refine AC (rx (s:=?s2) [2,3,4,6] [32] [] rfl ?o2 ?q2)
 case o2=>simp;refine AT h7 zz ?_;simp;rfl
 refine rs [2,3,4,6,21] [32] [] ?_;refine AD _ rfl (λ h=>by cases h) λ _=>?_
 refine AE (ar [2,3,4,7] [(32,32),(96,40)] [] 200 ?_);refine ar [2,3,4,7,8] [(32,32),(40,40)] [] 300 ?_;refine BM ⟨84,[(2,.pv (gC g)),(3,.pv (pC p)),(4,.pt 32 0 0),(7,.pt 40 0 0),(8,.vs 1 false []),(9,AA o)],[(32,some ⟨3,[[.nilS,.nilS,.nilS]],0⟩),(40,some ⟨3,[[.nilS,.nilS,.nilS]],0⟩)],400⟩ ?_ ?_
 .simp
  refine Ay hm ?_;simp;refine C4 h8 ?_;simp;exact⟨rfl,AN [(32,32),(40,40)] [348] (by simp[AB,CI])⟩
 refine AC (BP ⟨84,[(2,.pv (gC g)),(3,.pv (pC p)),(4,.pt 32 0 0),(7,.pt 40 0 0),(8,.vs 1 false []),(9,AA o),(10,.I 0)],[(32,some ⟨3,[[.nilS,.nilS,.nilS]],0⟩),(40,some ⟨3,[[.nilS,.nilS,.nilS]],0⟩)],500⟩ [(32,32),(40,40)] [] ?_);refine AI ?_
 refine Ag (ι:=TH) (λ s=>⟨84,[(2,.pv (gC g)),(3,.pv (pC p)),(4,.pt 32 0 0),(7,.pt 40 0 0),(8,AA (Az (Ai g p (o.take s.i)))),(9,AA o),(10,.I s.i)],
   [(32,some ⟨3,[[.nilS,.nilS,.nilS]],0⟩),(40,some ⟨3,[[.rs 41 0 (Ai g p (o.take s.i)).length,.nilS,.rs 42 0 s.R.length]],0⟩),(41,some ⟨1,AH (Ai g p (o.take s.i)),0⟩),(42,some ⟨2,EV s.R,0⟩)],500⟩)
  (λ s=>s.i<=o.length/\Fh g p (o.take s.i) s.R) (λ s=>o.length - s.i) ⟨0,[]⟩ ⟨Qh _,Fh.nil⟩
  (Le.lst [(32,32),(40,40)] [] [(41,1),(42,2)] rfl zz zz zz zz zz zz zz (by simp[Up,MJ,hj0];exact .refl _) (by simp[MJ,AB];exact⟨Av.rfl' zz,Av.row rfl zy (by simp[El,Up,Wk.refl])⟩)) ?_
 rintro⟨i,R⟩ ⟨hi,hR⟩
 simp only at hi hR;obtain⟨acc,q⟩:=AL (Ai g p (o.take i));have hr:∀ x∈acc,0<=x/\x<g.size:=λ x hx=>hd x (QQ (J1 (q ▸ hx)))
 have au:acc.length<=64:=by
  have h1:=PI (g:=g) (p:=p) (o.take i);rw[<- q] at h1;exact QI h1 (QI (List.length_take_le' i o) a3)
 have av:=hR.len;have ai:=List.length_take_le' i o;rw[<- q];refine AC ?_
 refine BE ⟨84,[(2,.pv (gC g)),(3,.pv (pC p)),(4,.pt 32 0 0),(7,.pt 40 0 0),(8,AA (Az acc)),(9,AA o),(10,.I i),(34,.B (decide (i<o.length)))],
   [(32,some ⟨3,[[.nilS,.nilS,.nilS]],0⟩),(40,some ⟨3,[[.rs 41 0 acc.length,.nilS,.rs 42 0 R.length]],0⟩),(41,some ⟨1,AH acc,0⟩),(42,some ⟨2,EV R,0⟩)],600⟩ rfl ?_ ?_
 .simp
  exact B4 [(32,32),(40,40),(41,41),(42,42)] []
 refine AD _ rfl (λ u=>?_) λ u=>?_
 .simp at u
  have a4:=w6 (x:=(i:Int)+1);obtain⟨k,hk⟩:=AL (o[i]);have he:=hd _ (Qi u);rw[<- hk] at he;have ht:o.take (i+1)=o.take i++[k]:=by rw[Ql u,hk]
  have h2:=bT (Az acc) k (by have:=Kh acc;omega)
  rw[WE he.1 zy] at h2
  have a5:∀ x∈acc++[k],0<=x/\x<g.size:=λ x hx=>by
   rcases Qn.1 hx with h | h
   .exact hr x h
   .rw [Qw] at h;subst h;exact he
  have h3:=hq _ a5;have hu:=Kh (acc++[k]);obtain⟨f,hf,h6⟩:=Rm g p (Az (acc++[k])) hg hp h3 hs hu;have a6:=Oe hg hp (MZ h3) hs hu;obtain⟨side,⟨h9,ha,hv,hb⟩,h4⟩:=WP _ _ a6;have h5:=IB (g:=g) (p:=p) (o:=o.take i) (k:=k);have hh:=Jc (g:=g) (p:=p) (o:=o.take i) (k:=k);rw[<- q,<- ht] at h5 hh;have hj:=hR.yes (k:=k);have hw:=λ h=>hR.no (k:=k) (side:=side) h;rw[<- q,<- ht] at hj hw;obtain⟨J,hJ⟩:=AL (Az (acc++[k]));rw[<- hJ] at h2 h6 h4 h9 ha hb h5 hh hj hf;refine AE ?_
  refine Bn (ι:=TH) (λ s=>⟨84,[(2,.pv (gC g)),(3,.pv (pC p)),(4,.pt 32 0 0),(7,.pt 40 0 0),(8,AA (Az (Ai g p (o.take (i+1))))),(9,AA o),(10,.I i)],
   [(32,some ⟨3,[[.nilS,.nilS,.nilS]],0⟩),(40,some ⟨3,[[.rs 41 0 (Ai g p (o.take (i+1))).length,.nilS,.rs 42 0 s.R.length]],0⟩),(41,some ⟨1,AH (Ai g p (o.take (i+1))),0⟩),(42,some ⟨2,EV s.R,0⟩)],3000⟩)
   (λ s=>Fh g p (o.take (i+1)) s.R) ?_ λ s hs'=>?_
  .refine AI ?_
   refine BE ⟨84,[(2,.pv (gC g)),(3,.pv (pC p)),(4,.pt 32 0 0),(7,.pt 40 0 0),(8,AA (Az acc)),(9,AA o),(10,.I i),(11,.I k)],
    [(32,some ⟨3,[[.nilS,.nilS,.nilS]],0⟩),(40,some ⟨3,[[.rs 41 0 acc.length,.nilS,.rs 42 0 R.length]],0⟩),(41,some ⟨1,AH acc,0⟩),(42,some ⟨2,EV R,0⟩)],700⟩ rfl ?_ ?_
   .simp [u,<- hk]
    exact B4 [(32,32),(40,40),(41,41),(42,42)] []
   refine H9 ⟨84,[(2,.pv (gC g)),(3,.pv (pC p)),(4,.pt 32 0 0),(7,.pt 40 0 0),(8,AA (Az acc)),(9,AA o),(10,.I i),(11,.I k),(12,.pv (nC ⟨Bb g,A7 g p J⟩)),(14,.B (decide (B6 g p J)))],
    [(32,some ⟨3,[[.nilS,.nilS,.nilS]],0⟩),(40,some ⟨3,[[.rs 41 0 acc.length,.nilS,.rs 42 0 R.length]],0⟩),(41,some ⟨1,AH acc,0⟩),(42,some ⟨2,EV R,0⟩)],900⟩ rfl ?_ ?_
   .simp
    refine C4 h2 ?_;simp;refine XA (j:=732) zx rfl h6 (by simp[AB,CI]) ?_
    simp;exact⟨rfl,AN [(32,32),(40,40),(41,41),(42,42)] [780,732,740] (by simp[CI]) zw⟩
   refine AC ?_
   refine BE ⟨84,[(2,.pv (gC g)),(3,.pv (pC p)),(4,.pt 32 0 0),(7,.pt 40 0 0),(8,AA (Az acc)),(9,AA o),(10,.I i),(11,.I k),(12,.pv (nC ⟨Bb g,A7 g p J⟩)),(51,.B (decide (B6 g p J)))],
    [(32,some ⟨3,[[.nilS,.nilS,.nilS]],0⟩),(40,some ⟨3,[[.rs 41 0 acc.length,.nilS,.rs 42 0 R.length]],0⟩),(41,some ⟨1,AH acc,0⟩),(42,some ⟨2,EV R,0⟩)],1000⟩ rfl ?_ ?_
   .simp
    exact B4 [(32,32),(40,40),(41,41),(42,42)] []
   refine AD _ rfl (λ hl=>?_) λ hl=>?_
   .have h0:B6 g p J:=of_decide_eq_true hl
    have hy:=h5 h0;have hz:=hj h0
    refine BE ⟨84,[(2,.pv (gC g)),(3,.pv (pC p)),(4,.pt 32 0 0),(7,.pt 40 0 0),(8,AA J),(9,AA o),(10,.I i)],
     [(32,some ⟨3,[[.nilS,.nilS,.nilS]],0⟩),(40,some ⟨3,[[.rs 41 0 (acc++[k]).length,.nilS,.rs 42 0 R.length]],0⟩),(41,some ⟨1,AH (acc++[k]),0⟩),(42,some ⟨2,EV R,0⟩)],1200⟩ rfl ?_ ?_
    .simp [CI]
     refine⟨zy,zy,?_⟩
     refine C4 h2 ?_;simp[AZ];exact AN [(32,32),(40,40),(1032,41),(42,42)] [1056] (by simp[AB,CI]) zw
    exact Aa (Ab ⟨⟨i,R⟩,hz,AN [(32,32),(40,40),(41,41),(42,42)] [] (by simp[hy,<- hJ]) (by simp[hy,AB])⟩)
   .have h0:¬ B6 g p J:=of_decide_eq_false hl
    have a0:=hh h0;have a1:=hw ⟨by rw[<- hJ];exact h0,by rw[<- hJ];exact h9,by rw[<- hJ];exact ha,hv,by rw[<- hJ];exact hb⟩
    refine AE ?_
    refine BE ⟨84,[(2,.pv (gC g)),(3,.pv (pC p)),(4,.pt 32 0 0),(7,.pt 40 0 0),(8,AA (Az acc)),(9,AA o),(10,.I i),(11,.I k),(15,AA side)],
     [(32,some ⟨3,[[.nilS,.nilS,.nilS]],0⟩),(40,some ⟨3,[[.rs 41 0 acc.length,.nilS,.rs 42 0 R.length]],0⟩),(41,some ⟨1,AH acc,0⟩),(42,some ⟨2,EV R,0⟩)],1200⟩ rfl ?_ ?_
    .simp
     refine C4 h4 ?_;simp;exact AN [(32,32),(40,40),(41,41),(42,42)] [1008] (by simp[AB,CI]) zw
    have a7:∀ h:Int × List Int->List AV,List.take R.length (List.map h R)=List.map h R:=λ h=>Qc zz
    refine AU rfl ?_;simp[a7,AZ];exact⟨zy,zy,⟨i,R++[(k,side)]⟩,a1,AN [(32,32),(40,40),(41,41),(1248,42)] [] (by simp[a0]) (by simp[a0,AB])⟩
  refine Ad ?_;exact⟨⟨i+1,s.R⟩,⟨u,hs'⟩,Nat.sub_lt_sub_left u (Nat.lt_succ_self i),AN [(32,32),(40,40),(41,41),(42,42)] [] (by simp[a4]) zw⟩
 simp at u;obtain rfl:i=o.length:=zy
 rw[QP] at q hR;obtain⟨f,hf,h6⟩:=Rm g p (Az acc) hg hp (hq _ hr) hs (Kh acc);refine Aa (Ab ?_);have a8:=hf.ok.fit.len;have a9:∀ h:Int->List AV,List.take (A7 g p (Az acc)).length (List.map h f)=List.map h f:=λ h=>Qc zu
 refine BE ⟨84,[(4,.pt 32 0 0),(7,.pt 40 0 0)],
   [(32,some ⟨3,[[.nilS,.nilS,.nilS]],0⟩),(40,some ⟨3,[[AA acc,AA f,.vs 2 false (EV R)]],0⟩)],1200⟩ rfl ?_ ?_
 .simp
  refine C4 h6 ?_;simp[AZ];exact AN [(32,32),(40,40)] [41,42,624] zz (by simp[AB,CI,a9,a8])
 apply ax [4,5] [(32,32)] [] 1400
 .simp
  rfl
 exact AO (Af.mk (.inr rfl) (R,f) ⟨hR,by rw[<- q];exact hf⟩ (AG.out [] [] rfl zz zz (by simp[<- q]) zz))
theorem CV.mem {A:List Ed}:∀ {l:List Nat} {u w:Int},CV A u l w -> ∀ j∈l,j<A.length
 | i::l,u,w,hw,j,hj=>by
   rcases Qv.1 hj with rfl | hj
   .exact hw.1
   .exact CV.mem hw.2.2 j hj
theorem Gq.few {N:Nat} {A:List Ed} {f g:List Int} {l:List Nat} {w:Int} (hn:ED N A) (h:Gq A f g l w):l.length+1<=N:=by
 have:=Fs (b:=(List.range N).map λ i:Nat=>(i:Int)) h.met λ x hx=>by
  rcases Qv.1 hx with rfl | hx
  .have:=hn.two
   exact Qm.2 ⟨0,QS.2 zy,rfl⟩
  .obtain ⟨j,hj,rfl⟩:=Qm.1 hx
   have ha:=hn.arc _ (HX (h.way.mem j hj));exact Qm.2 ⟨(AR A j).t.toNat,QS.2 zy,zy⟩
 simpa [CA] using this
def Rn (g:Gr) (p:BV) (ks:List Int) (W:List (List Nat)):Prop :=
 ∃ f g',Jk g p (Az ks) f/\Jf (Bb g) (A7 g p (Az ks)) f g' W/\(W.length:Int)=Cv (Bb g) (A7 g p (Az ks)) /\ ∀ w∈W,w.length<=130
def F7 (o acc:List Int) (i:Nat):List Int:=(o.take i).filter λ k=>decide (k∈acc)
theorem YV {o acc:List Int} {i:Nat} (h:i<o.length):F7 o acc (i+1)=F7 o acc i++if o[i]∈acc then [o[i]] else []:=by
 unfold F7;rw[Ql h,Q3];simp only[List.filter_cons,List.filter_nil,Qb]
structure Er (g:Gr) (p:BV) (o:List Int) (key:Int) (x:G5):Prop where
 key_:x.key=key
 bef:∃ i,∃ h:i<o.length,o[i]=key/\x.before=F7 o (Ai g p o) i
 yes:key∈Ai g p o->x.acc=true/\x.side=[] /\ ∃ W,Rn g p (x.before++[key]) W/\x.paths=W.map (DM (A7 g p (Az (x.before++[key]))))
 no:key∉Ai g p o->x.acc=false/\x.paths=[] /\ ∃ R,Fh g p o R/\(key,x.side)∈R
theorem PP (a b:List Int) (ha:a.length<=140737488355328) (hb:b.length<=140737488355328):AK 22 [AA a,AA b] [] (.B (decide (a=b))) []:=by
 refine sP.s.ac ?_;show AQ _ 0 _ _ ⟨26,[(0,AA a),(1,AA b)],[],16⟩;refine BP ⟨26,[(0,AA a),(1,AA b)],[],100⟩ [] [] ?_;refine AC (arc ⟨26,[(0,AA a),(1,AA b),(10,.B (!decide (a.length=b.length)))],[],200⟩ ?_ ?_)
 .simp
  exact AN [] [] (by simp<;>exact An (by rw[Qk];simp;omega))
 refine AD _ rfl (λ h=>?_) λ h=>?_
 .simp at h
  have hn:¬ a=b:=λ e=>h (by rw[e])
  refine BP ⟨26,[(4,.B false)],[],300⟩ [] [] ?_;exact BG (AG.one (by simp[hn]))
 simp at h;refine AE (AC (BP ⟨26,[(0,AA a),(1,AA b),(5,.I 0)],[],300⟩ [] [] ?_));refine AI (Ag (ι:=Nat) (λ i=>⟨26,[(0,AA a),(1,AA b),(5,.I i)],[],300⟩) (λ i=>i<=a.length/\a.take i=b.take i) (λ i=>a.length - i) 0 zz (BT [] []) ?_)
 rintro i ⟨hi,hp⟩
 refine AC (BP ⟨26,[(0,AA a),(1,AA b),(5,.I i),(14,.B (decide (i<a.length)))],[],400⟩ [] [] ?_);refine AD _ rfl (λ h7=>?_) λ h7=>?_
 .simp at h7
  have q:i<b.length:=zy
  have hw:=w6 (x:=(i:Int)+1);refine AE (AC (AI (BM ⟨26,[(0,AA a),(1,AA b),(5,.I i),(25,.B (!decide (a[i]=b[i])))],[],600⟩ ?_ ?_)))
  .simp [h7,q]
   exact⟨rfl,AN [] [] (by simp<;>exact An zt)⟩
  refine AD _ rfl (λ h9=>?_) λ h9=>?_
  .simp at h9
   have hn:¬ a=b:=λ e=>by subst e;exact h9 rfl
   refine BP ⟨26,[(4,.B false)],[],700⟩ [] [] ?_;exact BG (AG.one (by simp[hn]))
  simp at h9;refine AE (Ad ?_);refine⟨i+1,⟨h7,?_⟩,zy,AN [] [] (by simp[hw])⟩
  rw[Ql h7,Ql q,hp,h9]
 simp at h7
 have he:a=b:=by
  have h1:i=a.length:=zy
  rw[h1,QP,h,QP] at hp;exact hp
 refine Aa (Ab (BP ⟨26,[(4,.B true)],[],700⟩ [] [] ?_));exact BG (AG.one (by simp[he]))
variable {key:Int} {o:List Int} {x:G5}
variable {g:Gr} {p:BV}
theorem M6:∀ (b a:List Int),∃ l,Ai g p (a++b)=Ai g p a++l /\ ∀ x∈l,x∈b
 | [],a=>⟨[],zz,zz⟩
 | x::b,a=>by
   obtain⟨l,hl,hm⟩:=M6 b (a++[x]);have e:a++x::b=a++[x]++b:=zz
   rw[e,hl];rcases Tl (g:=g) (p:=p) a x with h | h
   .exact ⟨l,by rw[h],λ y hy=>Qo _ (hm y hy)⟩
   .refine ⟨[x]++l,by rw[h,Qq],λ y hy=>?_⟩
    rcases Qn.1 hy with h | h
    .rw [Qw.1 h];exact Qp
    .exact Qo _ (hm y h)
theorem Nw (hn:o.Nodup) {i:Nat} (h:i<o.length):o[i]∈Ai g p o↔B6 g p (Az (Ai g p (o.take i)++[o[i]])):=by
 have hs:o.take (i+1)=o.take i++[o[i]]:=Ql h;obtain⟨l,hl,hm⟩:=M6 (g:=g) (p:=p) (o.drop (i+1)) (o.take (i+1));rw[QL] at hl
 have q:o[i]∉o.take i:=λ hx=>by
  obtain⟨j,hj,e⟩:=List.mem_take_iff_getElem.1 hx;have:=(List.getElem_inj hn).1 e;omega
 have u:o[i]∉o.drop (i+1):=λ hx=>by
  obtain⟨j,hj,e⟩:=List.mem_drop_iff_getElem.1 hx;have:=(List.getElem_inj hn).1 e;omega
 constructor
 .intro hx
  by_cases hc:B6 g p (Az (Ai g p (o.take i)++[o[i]]))
  .exact hc
  .rw [hl,hs,Jc hc] at hx
   rcases Qn.1 hx with h1 | h1
   .exact absurd (J1 h1) q
   .exact absurd (hm _ h1) u
 .intro hc
  rw[hl,hs,IB hc];exact Q2 _ (UE _ (Qw.2 rfl))
theorem Sa {o:List Int} (hn:o.Nodup):∀ i,i<=o.length->F7 o (Ai g p o) i=Ai g p (o.take i)
 | 0,_=>by simp[F7,MJ]
 | i+1,h=>by
   have hi:i<o.length:=h;rw[YV hi,Sa hn i zy,Ql hi]
   by_cases hc:B6 g p (Az (Ai g p (o.take i)++[o[i]]))
   .rw [if_pos ((Nw hn hi).2 hc),IB hc]
   .rw [if_neg (λ h=>hc ((Nw hn hi).1 h)),Jc hc,QK]
theorem jI {l:List Int} (h:l.Pairwise (· < ·)):l.Nodup:=h.imp λ h=>zy
theorem Nz {a:List Int} (hn:a.Nodup) (hr:∀ k∈a,0<=k/\k<64):a.Perm (Az a):=by
 rw[<- Nf hn hr];exact(JZ a).symm
theorem Pj {a:List Int} (hn:a.Nodup) (hr:∀ k∈a,0<=k/\k<64):(Az a).length=a.length:=(Nz hn hr).length_eq.symm
structure LG (g:Gr) (p:BV) (key:Int) (before:List Int):Prop where
 mem:key∈Aj (Ao g p.lv) p.seeds
 bef:IJ (Aj (Ao g p.lv) p.seeds) before key
 nodup:(before++[key]).Nodup
 range:∀ k∈before++[key],0<=k/\k<g.size
 serve:key∈Ai g p (Aj (Ao g p.lv) p.seeds)↔B6 g p (Az (before++[key]))
theorem Wx (hn:o.Nodup) {i:Nat} (h:i<o.length):Ha o o[i]=o.take i:=by
 unfold Ha;rw[List.takeWhile_eq_take_findIdx_not]
 congr 1
 rw[List.findIdx_eq h];refine⟨zz,λ j hj=>?_⟩
 have:o[j]≠o[i]:=λ e=>by have:=(List.getElem_inj hn).1 e;omega
 simp[this]
theorem Er.at_ (h:Er g p (Aj (Ao g p.lv) p.seeds) key x) (hg:Ah g):x.key=key/\LG g p key x.before /\ ∃ i,∃ hi:i<(Aj (Ao g p.lv) p.seeds).length,(Aj (Ao g p.lv) p.seeds)[i]=key/\x.before=Ai g p ((Aj (Ao g p.lv) p.seeds).take i):=by
 have hn:=IY (Ao g p.lv) p.seeds;have hr:∀ k∈Aj (Ao g p.lv) p.seeds,0<=k/\k<g.size:=λ k hk=>by have h:=KF hk;exact h
 obtain⟨o,ho⟩:=AL (Aj (Ao g p.lv) p.seeds);rw[<- ho] at h hn hr ⊢;obtain⟨i,hi,hk,hb⟩:=h.bef;rw[Sa hn i zy] at hb
 refine⟨h.key_,?_,i,hi,hk,hb⟩
 have q:x.before.Sublist (Ha o key):=by
  rw[hb,<- hk,Wx hn hi];exact Hi _ _ rfl
 refine⟨by rw[<- ho,<- hk];exact Qi hi,by rw[<- ho];exact q,IJ.nodup (order:=o) q hn,λ k u=>?_,?_⟩
 .rcases Qn.1 u with h1 | h1
  .refine hr k ?_
   rw[hb] at h1;exact QQ (J1 h1)
  .rw [Qw.1 h1,<- hk];exact hr _ (Qi hi)
 .rw [<- ho,hb,<- hk]
  exact Nw hn hi
theorem LG.joined {before:List Int} (h:LG g p key before) (hg:Ah g):(Az (before++[key])).Nodup/\(before++[key]).Perm (Az (before++[key]))/\(∀ x∈Az (before++[key]),0<=x/\x<g.size):=by
 have h64:=hg.1.2.1;have hr:∀ k∈before++[key],0<=k/\k<64:=λ k hk=>⟨(h.range k hk).1,by have:=(h.range k hk).2;omega⟩
 exact⟨jI (JM _),Nz h.nodup hr,λ x hx=>h.range x (ID.1 hx).1⟩
theorem fT {before:List Int} {W:List (List Nat)} (hg:Ah g) (hp:CG g.size p) (ha:LG g p key before) (hc:B6 g p (Az (before++[key]))) (hW:Rn g p (before++[key]) W) :
  Kj g p.lv p.seeds (Aj (Ao g p.lv) p.seeds) (BB g p) (W.map (DM (A7 g p (Az (before++[key]))))) (before++[key]):=by
 obtain⟨f,g',q,ht,hl,_⟩:=hW;obtain⟨j1,j2,j3⟩:=ha.joined hg;refine kW hg hp j1 (λ x hx=>(j3 x hx).1) j2 q.ok.fit ht.ways (λ i _=>?_) ?_
 .have h1:=ht.used i
  have h2:=ht.bal.nonneg i;omega
 .have:Cv (Bb g) (A7 g p (Az (before++[key])))=(Az (before++[key])).length:=hc
  omega
theorem Er.yes_serves (h:Er g p (Aj (Ao g p.lv) p.seeds) key x) (hg:Ah g) (hp:CG g.size p) (hk:key∈Ai g p (Aj (Ao g p.lv) p.seeds)) :
  Kj g p.lv p.seeds (Aj (Ao g p.lv) p.seeds) (BB g p) x.paths (x.before++[key]):=by
 obtain⟨_,ha,_⟩:=h.at_ hg;obtain⟨_,_,W,hW,q⟩:=h.yes hk;rw[q];exact fT hg hp ha (ha.serve.1 hk) hW
theorem Er.no_proves (h:Er g p (Aj (Ao g p.lv) p.seeds) key x) (hg:Ah g) (hp:CG g.size p) (hk:key∉Ai g p (Aj (Ao g p.lv) p.seeds)) :
  OY ⟨2+2*g.size,DW g p (BB g p) (Az (x.before++[key]))⟩ x.side x.before.length:=by
 obtain⟨_,ha,i,hi,h2,h3⟩:=h.at_ hg;obtain⟨_,_,R,hR,hs⟩:=h.no hk;obtain⟨i',hi',q,hn⟩:=hR.right _ hs;simp only at q hn;have h4:i'=i:=(List.getElem_inj (IY (Ao g p.lv) p.seeds)).1 (q.trans h2.symm);subst h4;rw[<- h3] at hn;obtain⟨j1,j2,j3⟩:=ha.joined hg;have h5:=Oo hg hp j3;have h6:Cv (Bb g) (A7 g p (Az (x.before++[key])))≠(Az (x.before++[key])).length:=hn.no;have u:=j2.length_eq;rw[Qe,Q6] at u;have h0:=hn.cut;have h1:=hn.ok;rw[Lq hg] at h1;exact⟨h1,by rw[h0];omega⟩
theorem Er.checked (h:Er g p (Aj (Ao g p.lv) p.seeds) key x) (hg:Ah g) (hp:CG g.size p):O4 g p x=0:=by
 rw[cP hg.1.2.1];obtain⟨hk,ha,_⟩:=h.at_ hg;unfold OZ;simp only;rw[hk,if_neg (by simpa using ha.mem)]
 by_cases q:key∈Ai g p (Aj (Ao g p.lv) p.seeds)
 .obtain ⟨h1,h2,_⟩:=h.yes q
  rw[if_neg (by rw[h1,h2];simpa using ha.bef),if_pos h1,if_pos (h.yes_serves hg hp q)]
 .obtain ⟨h1,h2,_⟩:=h.no q
  rw[if_neg (by rw[h1,h2];simpa using ha.bef),if_neg (by rw[h1];simp),if_pos (h.no_proves hg hp q)]
def Bo (A:List Ed) (f:List Int) (i:Nat) (x:Int):Int:=- BU A f i x
variable {N:Nat} {A:List Ed} {f:List Int}
theorem Ys (hl:f.length=A.length) (x:Int):Bo A f A.length x=Co A f x:=by
 unfold Bo;rw[RA hl];omega
theorem Pi (hn:C3 ⟨N,A⟩) (h0:f.length=A.length) (h6:∀ j (h:j<f.length),0<=f[j]/\f[j]<=1048576):AK 213 [eN ⟨N,A⟩,AA f] [] (.rs 0 0 N) [some ⟨1,AH (BF N (Co A f)),0⟩]:=by
 refine vY.s.ai ?_;obtain⟨hl,hm,ho,h7⟩:=hn;simp only at hl hm ho h7;have hq:=OG h0 h6;refine rs [1,2] [] [16] ?_;refine arc ⟨43,[(1,AA f),(2,.pv (nC ⟨N,A⟩)),(5,.rs 48 0 N)],[(48,some ⟨1,AH (BF N (Bo A f 0)),0⟩)],64⟩ ?_ ?_
 .simp
  refine⟨zy,zy,?_⟩
  have:BF N (Bo A f 0)=List.replicate N 0:=by
   unfold BF Bo;simp only[PH];simp[List.map_const']
  rw[this];exact BT [(48,48)] []
 refine AC (BP ⟨43,[(1,AA f),(5,.rs 48 0 N),(12,Cr A),(13,.I A.length),(14,.I 0)],[(48,some ⟨1,AH (BF N (Bo A f 0)),0⟩)],96⟩ [(48,48)] [] ?_);refine AI (Ag (ι:=Nat) (λ i=>⟨43,[(1,AA f),(5,.rs 48 0 N),(12,Cr A),(13,.I A.length),(14,.I i)],[(48,some ⟨1,AH (BF N (Bo A f i)),0⟩)],96⟩) (λ i=>i<=A.length) (λ i=>A.length - i) 0 (Qh _) (B4 [(48,48)] []) ?_);intro i hi;refine BP ⟨43,[(1,AA f),(5,.rs 48 0 N),(12,Cr A),(13,.I A.length),(14,.I i),(15,.B (decide (i<A.length)))],[(48,some ⟨1,AH (BF N (Bo A f i)),0⟩)],104⟩ [(48,48)] [] ?_;refine AC (AD _ rfl (λ h5=>?_) λ h5=>?_)
 .simp at h5
  have h8:i<f.length:=zy
  have hr:=w6 (x:=(i:Int)+1);obtain⟨b1,b3⟩:=h6 i h8;have h9:=h7 _ (Qi h5);have u:=PE h5 h8;have ha:=λ x=>hq x i zy
  obtain⟨e,he⟩:=AL (A[i]);obtain⟨w,hw⟩:=AL (f[i]);rw[<- he,<- hw] at u;rw[<- hw] at b1 b3;rw[<- he] at h9;obtain⟨e1,e2,e3,e4,e5,_⟩:=h9;have hv:A[i]? = some e:=by rw[Qa h5,he]
  have hx:f[i]? = some w:=by rw[Qa h8,hw]
  have hb:e.f<(N:Int)/\e.t<(N:Int):=zy
  have h1:=ha e.f;have h2:=ha e.t;have hs:IntKind.i64.wrap (Bo A f i e.f+w)=Bo A f i e.f+w:=ME (by unfold Bo;omega) (by unfold Bo;omega)
  have ht:IntKind.i64.wrap (Bo A f i e.t - w)=Bo A f i e.t - w:=ME (by unfold Bo;omega) (by unfold Bo;omega)
  have hu:=IQ (N:=N) (g:=Bo A f i) (x:=e.f) e1 zy
  have hd:=MN (N:=N) (g:=Bo A f i) (x:=e.f) (v:=Bo A f i e.f+w) e1 zy
  obtain⟨g1,q⟩:∃ g1:Int->Int,g1=λ y=>if y=e.f then Bo A f i e.f+w else Bo A f i y:=⟨_,rfl⟩
  rw[<- q] at hd;have hf:g1 e.t=Bo A f i e.t:=by rw[q];exact if_neg λ h=>e5 h.symm
  have hg:=IQ (N:=N) (g:=g1) (x:=e.t) e3 zy
  rw[hf] at hg;have hh:=MN (N:=N) (g:=g1) (x:=e.t) (v:=Bo A f i e.t - w) e3 zy
  have hj:(BF N λ y=>if y=e.t then Bo A f i e.t - w else g1 y)=BF N (Bo A f (i+1)):=PK λ x=>by
   unfold Bo at q ⊢;rw[u,q];simp only
   by_cases h3:x=e.t
   .rw [h3,if_pos rfl,if_pos rfl,if_neg e5]
    omega
   .by_cases h4:x=e.f
    .rw [if_neg h3,if_pos h4,if_neg λ h=>h3 h.symm,if_pos h4.symm,h4]
     omega
    .rw [if_neg h3,if_neg h4,if_neg λ h=>h3 h.symm,if_neg λ h=>h4 h.symm]
     omega
  rw[hj] at hh;refine AE (AC (AI (arc ⟨43,[(1,AA f),(5,.rs 48 0 N),(6,.I i),(7,.pv (eC e)),(12,Cr A),(13,.I A.length),(14,.I i)],[(48,some ⟨1,AH (BF N (Bo A f i)),0⟩)],152⟩ ?_ ?_)))
  .simp [h5,<- he]
   exact B4 [(48,48)] [128]
  refine BM ⟨43,[(1,AA f),(5,.rs 48 0 N),(6,.I i),(7,.pv (eC e)),(12,Cr A),(13,.I A.length),(14,.I i)],[(48,some ⟨1,AH (BF N g1),0⟩)],400⟩ ?_ ?_
  .simp [h8,<- hw,hu,e1,hb,hs,AZ]
   exact⟨rfl,AN [(48,48)] [] zz (by simp[AB,<- hd])⟩
  refine Cn rfl ?_;simp[h8,<- hw,hg,e3,hb,ht,AZ];refine⟨rfl,?_⟩;refine AU rfl ?_;simp;exact⟨i+1,zy,zy,AN [(48,48)] [] (by simp[hr]) (by simp[AB,<- hh])⟩
 simp at h5;obtain rfl:i=A.length:=zy
 refine Aa (Ab ?_);have hk:BF N (Bo A f A.length)=BF N (Co A f):=PK λ x=>Ys h0 x;rw[hk];refine BP ⟨43,[(4,.rs 48 0 N)],[(48,some ⟨1,AH (BF N (Co A f)),0⟩)],200⟩ [(48,48)] [] ?_;exact CD [48] []
def KJ (A:List Ed) (f:List Int) (i:Nat):Prop:=0<=f.getD i 0/\f.getD i 0<=(AR A i).v
theorem PA:BY N A f↔f.length=A.length/\(∀ i,i<A.length->KJ A f i) /\ ∀ x:Nat,2<=x->x<N->Co A f x=0:=by
 constructor
 .intro h
  have h1:=Gd.1 h.fit;exact⟨h1.1,h1.2,λ x h2 h3=>by have:=h.bal x h2 h3;unfold Co;omega⟩
 .rintro ⟨h1,h2,h3⟩
  exact⟨Gd.2 ⟨h1,h2⟩,λ x h4 h5=>by have:=h3 x h4 h5;unfold Co at this;omega⟩
theorem fU (g:Int->Int) (N:Nat):((BF N g).drop 2).any (λ x=>!decide (x=0))=true↔¬ ∀ x:Nat,2<=x->x<N->g x=0:=by
 rw[UM];constructor
 .rintro ⟨y,hy,h⟩ q
  obtain⟨j,hj,rfl⟩:=Qr.1 hy;rw[QV,Ih] at hj;have:=q (2+j) zy zy
  simp[BF] at h;exact h (by simpa using this)
 .intro h
  obtain⟨x,hx⟩:=Classical.not_forall.1 h;obtain⟨h1,hx⟩:=Classical.not_imp.1 hx;obtain⟨h2,hx⟩:=Classical.not_imp.1 hx;refine⟨g x,Qr.2 ⟨x - 2,by rw[QV,Ih];omega,?_⟩,by simpa using hx⟩
  simp[BF,show 2+(x - 2)=x by omega]
theorem We (x:Int):AK 276 [.I x] [] (.B (!decide (x=0))) []:=by
 refine vO.s.ai ?_;refine rs [0] [] [] ?_;refine arc ⟨5,[(2,.B (!decide (x=0)))],[],100⟩ ?_ ?_
 .simp
  exact AN [] [] (by simp<;>exact An zt)
 exact Bv
open Classical in
theorem kF (hn:C3 ⟨N,A⟩) (hl:f.length<=1099511627776):AK 212 [eN ⟨N,A⟩,AA f] [] (.B (decide (BY N A f))) []:=by
 refine u5.s.ai ?_;have h0:=R5 ⟨N,A⟩ (by have:=hn.2.2.1;simp only at this ⊢;omega)
 rw[if_pos hn] at h0;have hg:=hn;obtain⟨hh,hm,ho,h9⟩:=hn;simp only at hh hm ho h9;refine rs [1,2] [] [16] ?_;refine AC (arc ⟨41,[(1,AA f),(2,.pv (nC ⟨N,A⟩)),(17,.B (!decide (f.length=A.length)))],[],120⟩ ?_ ?_)
 .simp
  refine Ay h0 ?_;simp;exact AN [] [] (by simp<;>exact An (by rw[Qk];simp<;>omega))
 refine AD _ rfl (λ h3=>?_) λ h3=>?_
 .simp at h3
  refine rs [4] [] [] ?_;refine AO ?_;have h5:¬ BY N A f:=λ h=>h3 (PA.1 h).1;exact⟨.inr rfl,AG.one (by simp[h5])⟩
 simp at h3;refine AE (AC (rs [1,2,19,20,21] [] [] ?_));refine AI (Ag (ι:=Nat) (λ i=>⟨41,[(1,AA f),(2,.pv (nC ⟨N,A⟩)),(19,Cr A),(20,.I A.length),(21,.I i)],[],152⟩) (λ i=>i<=A.length /\ ∀ k,k<i->KJ A f k) (λ i=>A.length - i) 0 zz (BT [] []) ?_)
 rintro i ⟨hi,hp⟩
 refine rs [1,2,19,20,21,22] [] [] ?_;refine AC (AD _ rfl (λ h7=>?_) λ h7=>?_)
 .simp at h7
  have hq:=w6 (x:=(i:Int)+1);have ha:i<f.length:=zy
  obtain⟨e,he⟩:=AL (A[i]);obtain⟨w,hw⟩:=AL (f[i])
  have hd:KJ A f i↔0<=w/\w<=e.v:=by
   unfold KJ AR;rw[Qf,Qa ha,QH,Qf,Qa h7,QH,he,hw]
  refine AE (AC (AI ?_));apply ax [1,2,5,6,19,20,21] [] [184] 300
  .simp [h7,<- he]
   rfl
  refine BM ⟨41,[(1,AA f),(2,.pv (nC ⟨N,A⟩)),(19,Cr A),(20,.I A.length),(21,.I i),(33,.B (!decide (0<=w/\w<=e.v)))],[],400⟩ ?_ ?_
  .simp [ha,<- hw]
   refine Ay (Ge w 0 e.v) ?_;simp;exact⟨rfl,AN [] [] (by simp<;>exact An zt)⟩
  refine AD _ rfl (λ h6=>?_) λ h6=>?_
  .have q:¬ (0<=w/\w<=e.v):=by simp at h6;omega
   refine rs [4] [] [] ?_;refine AO ?_;have h5:¬ BY N A f:=λ h=>q (hd.1 ((PA.1 h).2.1 i h7));exact⟨.inr rfl,AG.one (by simp[h5])⟩
  have q:0<=w/\w<=e.v:=by simpa using h6
  refine AE (AU rfl ?_);simp;refine⟨i+1,⟨zy,λ k hk=>?_⟩,zy,AN [] [] (by simp[hq])⟩
  rcases QN.1 hk with h | h
  .exact hp k h
  .rw [h];exact hd.2 q
 simp at h7;obtain rfl:i=A.length:=zy
 have hr:∀ j (h:j<f.length),0<=f[j]/\f[j]<=1048576:=λ j hj=>by
  have h1:=hp j zy
  unfold KJ at h1;have e1:f.getD j 0=f[j]:=by rw[Qf,Qa hj,QH]
  have e2:AR A j=A[j]' zy:=by unfold AR;rw[Qf,Qa zy,QH]
  rw[e1,e2] at h1;have h2:=(h9 _ (Qi (show j<A.length by omega))).2.2.2.2.2.2.2.2
  omega
 refine Aa (Ab ?_);have h4:=Pi hg h3 hr;have h8:=Wo 276 [] (λ x=>!decide (x=0)) ((BF N (Co A f)).drop 2) (by rw[QV,Ih];omega) (λ ρ sn h k=>zz) (λ e _=>We e)
 have u:BY N A f↔((BF N (Co A f)).drop 2).any (λ x=>!decide (x=0))=false:=by
  rw[<- Bool.not_eq_true,fU,Classical.not_not,PA];exact⟨λ h=>h.2.2,λ h=>⟨h3,hp,h⟩⟩
 obtain⟨l,hf⟩:=AL (BF N (Co A f));have hs:l.length=N:=by rw[hf,Ih]
 rw[<- hf] at h4 h8 u;obtain⟨b,hb⟩:=AL ((l.drop 2).any (λ x=>!decide (x=0)));rw[<- hb] at h8 u;apply ax [4] [] [] 300
 .simp
  refine C4 h4 ?_;simp;refine N2 2 (i:=176) rfl rfl zy ?_
  simp;have ht:2+(N - 2)<=N:=zy
  refine G9 [176] h8 (by simp[AB,hs,ht];exact Qc zu) (.sc _) ?_
  simp;rfl
 exact BG (AG.one (by simp[u]))
open Classical in
theorem Vz (hn:C3 ⟨N,A⟩) (hl:f.length<=1099511627776):AK 146 [eN ⟨N,A⟩,AA f] [] (.I (if BY N A f then Al A f else 0)) []:=by
 refine tP.s.ai ?_;have h4:=kF hn hl;refine rs [1,2] [] [16] ?_;refine AC (rx (s:=?s2) [1,2,8] [] [] rfl ?o2 ?q2)
 case o2=>simp;refine AT h4 zz ?_;simp;rfl
 refine AD _ rfl (λ h3=>?_) λ h3=>?_
 .simp at h3
  refine rs [4] [] [] ?_;exact BG (AG.one (by simp[h3]))
 simp at h3;have u:=Gd.1 h3.fit;have h0:=hn.2.2.2;simp only at h0
 have h5:∀ j (h:j<f.length),0<=f[j]/\f[j]<=1048576:=λ j hj=>by
  have h1:=u.2 j zy
  have e1:f.getD j 0=f[j]:=by rw[Qf,Qa hj,QH]
  have e2:AR A j=A[j]' zy:=by unfold AR;rw[Qf,Qa zy,QH]
  rw[e1,e2] at h1;have h2:=(h0 _ (Qi (show j<A.length by omega))).2.2.2.2.2.2.2.2
  omega
 have q:=Pi hn u.1 h5;have hv:=eA (f:=f) (I0 hn);have h6:=hn.1;simp only at h6;have hr:=IQ (N:=N) (g:=Co A f) (x:=0) (Vb _) zy
 rw[hv] at hr;obtain⟨l,h7⟩:=AL (BF N (Co A f));rw[<- h7] at q hr;simp only[Int.toNat_zero] at hr;refine AE (arc ⟨14,[(4,.I (Al A f))],[],300⟩ ?_ ?_)
 .simp
  refine C4 q ?_;have h8:0<(N:Int):=zy
  simp[hr,h8];exact⟨zy,BT [] []⟩
 exact BG (AG.one (by simp[h3]))
section
variable {g:Gr} {p:BV}
theorem WD (hg:Ah g) (hp:CG g.size p) {a:List Int} (h:∀ x∈a,x∈Aj (Ao g p.lv) p.seeds):D0 g p a:=by
 refine⟨λ x hx=>?_,λ x hx=>?_⟩
 .have h2:=KF (h x hx)
  exact h2
 .have h2:=(Ku (hg.level p.lv)).1 (h x hx)
  exact(OO hp h2.1.1).2 ⟨h2.1.2,h2.2⟩
theorem D0.join {a:List Int} (h:D0 g p a):D0 g p (Az a):=h.sub λ _ hx=>(ID.1 hx).1
theorem dV (hg:Ah g) (hp:CG g.size p):D0 g p (Aj (Ao g p.lv) p.seeds):=WD hg hp λ _ h=>h
end
variable {E:Nat->List (List AV)} {L:List Nat} {N a j m np o s:Nat} {st st':St} {α:Type}
def Ev (s N:Nat) (E:Nat->List (List AV)):List (Nat × Option AX):=(List.range N).map λ k=>(k+1000,some ⟨s,E k,0⟩)
def EK (E:Nat->List (List AV)) (k:Nat):AV:=.rs (k+1000) 0 (E k).length
def CB (N:Nat) (E:Nat->List (List AV)):List (List AV):=(List.range N).map λ k=>[EK E k]
theorem KZ (N:Nat) (E:Nat->List (List AV)):(CB N E).length=N:=by simp[CB]
theorem J7 {k:Nat} (h:k<N):(CB N E)[k]? = some [EK E k]:=by simp[CB,h]
@[simp] theorem pY {k:Nat} (h:k<(CB N E).length):(CB N E)[k]=[EK E k]:=by simp[CB]
theorem JY {α β:Type} {f:α->β} (hf:∀ i j,f i=f j->i=j):∀ {l:List α},l.Nodup->(l.map f).Nodup
 | [],_=>List.nodup_nil
 | x::l,h=>by
   rw[Ur] at h;rw[List.map_cons,Ur];refine⟨λ hx=>?_,JY hf h.2⟩;obtain⟨y,hy,e⟩:=Qm.1 hx;exact h.1 (hf _ _ e ▸ hy)
theorem Lf (f:Nat->Nat) (hf:∀ i j,f i=f j->i=j) (g:Nat->α) (l:List Nat) (k:Nat):Am (l.map λ k=>(f k,g k)) (f k)=if k∈l then some (g k) else none:=by
 induction l with
 | nil=>simp
 | cons i l ih =>
   simp only[List.map_cons,Am]
   by_cases h:i=k
   .subst h;simp
   .have h1:f i≠f k:=λ e=>h (hf _ _ e)
    have h2:¬ k=i:=λ e=>h e.symm;simp[h1,ih,h2]
theorem jA (f:Nat->Nat) (g:Nat->α) (l:List Nat) (j:Nat) (h:∀ k∈l,f k≠j):Am (l.map λ k=>(f k,g k)) j=none:=by
 induction l with
 | nil=>simp
 | cons i l ih =>
   simp only[List.map_cons,Am];rw[if_neg (h i zz),ih λ k hk=>h k (by simp[hk])]
theorem aQ {r:List (Nat × Option AX)} {k:Nat} (h:k<N):Am (Ev s N E++r) (k+1000)=some (some ⟨s,E k,0⟩):=by
 rw[J9,Ev,Lf (λ k=>k+1000) (λ i j h=>by simpa using h)]
 simp[h]
theorem Ts {r:List (Nat × Option AX)} (h:j<1000∨1000+N<=j):Am (Ev s N E++r) j=Am r j:=by
 rw[J9,Ev,jA (λ k=>k+1000) _ _ _ (λ k hk e=>by have:=QS.1 hk;omega)]
 simp
section
variable {sz n s N:Nat} {t:List (Nat × AV)} {E:Nat->List (List AV)} {r:List (Nat × Option AX)}
theorem Yu {k:Nat} (h:k<N):(⟨sz,t,Ev s N E++r,n⟩:St).hp (k+1000)=some ⟨s,E k,0⟩:=by
 show (Am _ _).getD none=_;rw[aQ h];rfl
theorem Kp (h:j<1000):(⟨sz,t,Ev s N E++r,n⟩:St).hp j=(⟨sz,t,r,n⟩:St).hp j:=by
 show (Am _ _).getD none=(Am _ _).getD none;rw[Ts (.inl h)]
theorem WH (h:1000+N<=j):(⟨sz,t,Ev s N E++r,n⟩:St).hp j=(⟨sz,t,r,n⟩:St).hp j:=by
 show (Am _ _).getD none=(Am _ _).getD none;rw[Ts (.inr h)]
end
def B2 (m a N:Nat) (L:List Nat):List (Nat × Nat):=(m,a+1000)::(L++((List.range N).filter (· ≠ a)).map (· + 1000)).map λ j=>(j,j)
theorem fM (hL:L.Nodup) (h1:∀ j∈L,j<1000) (hm:m∉L) (q:m<1000∨1000+N<=m):((B2 m a N L).map (·.1)).Nodup:=by
 simp only[B2,List.map_cons,Un,AB,List.map_id',Ur,Qn,Qm,QA,QS];refine⟨?_,?_⟩
 .rintro (h | ⟨k,⟨h,_⟩,e⟩)
  .exact hm h
  .omega
 .refine Uy.2 ⟨hL,?_,?_⟩
  .exact JY (λ i j h=>by simpa using h) (List.nodup_range.filter _)
  .intro x hx y hy e
   simp only[Qm] at hy;obtain⟨k,_,e2⟩:=hy;have:=h1 x hx;omega
theorem Xs (hL:L.Nodup) (h1:∀ j∈L,j<1000):((B2 m a N L).map (·.2)).Nodup:=by
 simp only[B2,List.map_cons,Un,AB,List.map_id',Ur,Qn,Qm,QA,QS];refine⟨?_,?_⟩
 .rintro (h | ⟨k,⟨_,h⟩,e⟩)
  .have:=h1 _ h;omega
  .simp at h;omega
 .refine Uy.2 ⟨hL,?_,?_⟩
  .exact JY (λ i j h=>by simpa using h) (List.nodup_range.filter _)
  .intro x hx y hy e
   simp only[Qm] at hy;obtain⟨k,_,e2⟩:=hy;have:=h1 x hx;omega
theorem Yy:Am (B2 m a N L) m=some (a+1000):=by simp[B2]
theorem I8 (hm:m≠j) (h:j∈L ∨ ∃ k<N,k≠a/\j=k+1000):Am (B2 m a N L) j=some j:=by
 rw[B2,Am,if_neg hm,Lf (λ j=>j) (λ i j h=>h) (λ j=>j),if_pos];rcases h with h | ⟨k,h1,h2,rfl⟩
 .simp [h]
 .simp [h1,h2]
def grow {α:Type} (E:Nat->List α) (a:Nat) (r:α):Nat->List α:=λ k=>if k=a then E a++[r] else E k
theorem IN (f:AV->AV) (hf:∀ v,f (.sc v) = .sc v) (rows:List (List AV)) (hr:∀ r∈rows,∀ x∈r,∃ v,x = .sc v):rows.map (·.map f)=rows:=by
 conv=>rhs;rw[<- List.map_id rows]
 refine Ut λ r q=>?_
 conv=>rhs;rw[id,<- List.map_id r]
 refine Ut λ x hx=>?_;obtain⟨v,rfl⟩:=hr r q x hx;exact hf v
theorem Xv {row:List AV} {h:Nat->Option AX} {len:Nat} (ha:a<N) (hm:m<1000∨1000+N<=m) (u:len=(E a).length+1) :
  ((CB N E).set a [.rs m 0 len]).map (·.map (conv (B2 m a N L) [] h 4))=CB N (grow E a row):=by
 apply List.ext_getElem?;intro j;rw[QG,UA,KZ]
 by_cases hj:a=j
 .subst hj
  rw[if_pos rfl,if_pos ha,J7 ha];simp[Yy,EK,grow,u]
 .rw [if_neg hj]
  by_cases q:j<N
  .rw [J7 q,J7 q]
   have h1:Am (B2 m a N L) (j+1000)=some (j+1000):=I8 zy (.inr ⟨j,q,λ e=>hj e.symm,rfl⟩)
   have h2:j≠a:=λ e=>hj e.symm;simp[EK,h1,grow,h2]
  .simp [CB,q]
theorem Le.fam {row:List AV} (L:List Nat) (h5:st'.sz=st.sz) (ha:a<N) (hL:L.Nodup) (h1:∀ j∈L,j<1000) (h6:1000+N<=m) (hn:1000+N<=st'.n) (h9:np<=1000) (hE:∀ k<N,∀ r∈E k,∀ x∈r,∃ v,x = .sc v) (u:∀ x∈row,∃ v,x = .sc v) (h7:∀ k<N,k≠a->st.hp (k+1000)=some ⟨s,E k,0⟩) (h8:st.hp m=some ⟨s,E a++[row],0⟩) (h0:∀ k<N,st'.hp (k+1000)=some ⟨s,grow E a row k,0⟩) (h4:∀ j,j∉L->(j<1000∨1000+N<=j)->st'.hp j=none) (ht:∀ p∈st'.t,Wk (conv (B2 m a N L) [] st.hp 4 (st.get p.1)) p.2) (hb:∀ j∈L,∀ e',st'.hp j=some e' -> ∃ e,st.hp j=some e/\Av [] (Ak (B2 m a N L) [] st.hp 4 e) e'):Le np st st':=by
 have hm:m∉L:=λ h=>by have:=h1 m h;omega
 refine Le.mk (B2 m a N L) [] [] h5 (fM hL h1 hm (.inr h6)) (Xs hL h1) ?_ zz zz zy zz (λ i=>?_) ?_
 .intro p hp
  simp only[B2,Qv,Qm,Qn,QA,QS] at hp;rcases hp with rfl | ⟨j,h | ⟨k,⟨h2,_⟩,rfl⟩,rfl⟩
  .exact ⟨by simp only;omega,λ h=>by simp only at h;omega⟩
  .have:=h1 j h
   exact⟨by simp only;omega,λ _=>rfl⟩
  .exact ⟨by simp only;omega,λ _=>rfl⟩
 .unfold St.get at *
  cases hl:Am st'.t i with
  | none=>exact .inl (.dead _)
  | some v=>exact .inl (ht _ (Ds hl))
 .intro j e' he
  left
  by_cases hj:j∈L
  .obtain ⟨e,h2,h3⟩:=hb j hj e' he
   refine⟨j,e,?_,h2,h3⟩;simp only[B2,Qv,Qm,Qn];exact .inr ⟨j,.inl hj,rfl⟩
  .by_cases hr:j<1000∨1000+N<=j
   .rw [h4 j hj hr] at he;cases he
   .obtain ⟨k,rfl⟩:∃ k,j=k+1000:=⟨j - 1000,zy⟩
    have hk:k<N:=zy
    rw[h0 k hk] at he
    cases he
    by_cases q:k=a
    .subst q
     rw[show grow E k row k=E k++[row] from if_pos rfl]
     refine⟨m,_,by simp[B2],h8,?_⟩
     have:Ak (B2 m k N L) [] st.hp 4 ⟨s,E k++[row],0⟩=⟨s,E k++[row],0⟩:=by
      simp only[Ak];rw[IN _ λ v=>by simp[conv]]
      intro r hr x hx;rcases Qn.1 hr with h | h
      .exact hE k hk r h x hx
      .rw [Qw.1 h] at hx;exact u x hx
     rw[this];exact Av.rfl' (Qh _)
    .simp only[grow,if_neg q]
     refine⟨k+1000,_,?_,h7 k hk q,?_⟩
     .simp only[B2,Qv,Qm,Qn,QA,QS]
      exact .inr ⟨k+1000,.inr ⟨k,⟨hk,by simpa using q⟩,rfl⟩,rfl⟩
     .have:Ak (B2 m a N L) [] st.hp 4 ⟨s,E k,0⟩=⟨s,E k,0⟩:=by
       simp only[Ak];rw[IN _ (λ v=>by simp[conv]) _ (hE k hk)]
      rw[this];exact Av.rfl' (Qh _)
theorem Le.fam0 (L:List Nat) (h6:st'.sz=st.sz) (hs:s≠0) (hL:(o::L).Nodup) (h1:∀ j∈o::L,j<1000/\np<=1000) (hn:1000+N<=st'.n) (ho:st.hp o=some ⟨1,(List.range N).map λ _=>[.nilS],0⟩) (h7:st'.hp o=some ⟨1,CB N λ _=>[],0⟩) (h0:∀ k<N,st'.hp (k+1000)=some ⟨s,[],0⟩) (h4:∀ j,j∉o::L->(j<1000∨1000+N<=j)->st'.hp j=none) (ht:∀ p∈st'.t,Wk (conv ((o::L).map λ j=>(j,j)) [] st.hp 4 (st.get p.1)) p.2) (hb:∀ j∈L,∀ e',st'.hp j=some e' -> ∃ e,st.hp j=some e/\Av [] (Ak ((o::L).map λ j=>(j,j)) [] st.hp 4 e) e'):Le np st st':=by
 have u:∀ p,p∈(List.range N).map (λ k=>(k+1000,s)) ↔ ∃ k<N,p=(k+1000,s):=λ p=>by
  rw[Qm];exact⟨λ ⟨k,h,e⟩=>⟨k,QS.1 h,e.symm⟩,λ ⟨k,h,e⟩=>⟨k,QS.2 h,e.symm⟩⟩
 have hid:((o::L).map λ j=>(j,j)).map (·.1)=o::L:=zw
 have q:((o::L).map λ j=>(j,j)).map (·.2)=o::L:=zw
 refine Le.mk ((o::L).map λ j=>(j,j)) [] ((List.range N).map λ k=>(k+1000,s)) h6 (by rw[hid];exact hL) (by rw[q];exact hL) ?_ ?_ zz (by have:=h1 o zz;omega) ?_ (λ i=>?_) ?_
 .intro p hp
  obtain⟨j,hj,rfl⟩:=Qm.1 hp;have:=h1 j hj;exact⟨by simp only;omega,λ _=>rfl⟩
 .intro p hp
  obtain⟨k,hk,rfl⟩:=(u p).1 hp;have:=h1 o zz
  refine⟨by simp only;omega,by simp only;omega,?_,hs⟩
  rw[q];intro h;have:=h1 _ h;omega
 .rw [Un]
  exact JY (λ i j h=>by simpa using h) List.nodup_range
 .unfold St.get at *
  cases hl:Am st'.t i with
  | none=>exact .inl (.dead _)
  | some v=>exact .inl (ht _ (Ds hl))
 .intro j e' he
  by_cases h5:j=o
  .subst h5
   left
   rw[h7] at he
   cases he;refine⟨j,_,zz,ho,rfl,Qg _,Qh _,.inr ⟨by simp[Ak],by simp[Ak,CB],λ i=>?_⟩⟩
   by_cases hi:i<N
   .simp only[Ak,Un,AB,List.map_cons,UT,Qf,QG,List.getElem?_range hi,Um,QH,CB,EK,U7]
    exact⟨.inr ⟨by simp[conv],i+1000,s,rfl,(u _).2 ⟨i,hi,rfl⟩⟩,trivial⟩
   .simp [Ak,CB,Qf,hi,El]
  .by_cases hj:j∈L
   .left
    obtain⟨e,h2,h3⟩:=hb j hj e' he;refine⟨j,e,by simp[hj],h2,h3.1,h3.2.1,h3.2.2.1,?_⟩
    rcases h3.2.2.2 with h | ⟨q1,q2,q3⟩
    .exact .inl h
    .refine .inr ⟨q1,q2,λ i=>?_⟩
     have key:∀ {xs ys:List AV},El [] xs ys->El ((List.range N).map λ k=>(k+1000,s)) xs ys:=by
      intro xs
      induction xs with
      | nil=>intro ys h;cases ys<;>exact h
      | cons x xs ih =>
        intro ys h
        cases ys with
        | nil=>exact h
        | cons y ys =>
          refine⟨?_,ih h.2⟩;rcases h.1 with h | ⟨_,_,_,_,h⟩
          .exact .inl h
          .simp at h
     exact key (q3 i)
   .by_cases hr:j<1000∨1000+N<=j
    .rw [h4 j (by simp[h5,hj]) hr] at he;cases he
    .obtain ⟨k,rfl⟩:∃ k,j=k+1000:=⟨j - 1000,zy⟩
     have hk:k<N:=zy
     rw[h0 k hk] at he
     cases he;exact .inr ⟨(u _).2 ⟨k,hk,rfl⟩,rfl,rfl⟩
def Dx (N:Nat):List Nat:=(List.range N).map (· + 1000)
theorem IU:j∈Dx N↔1000<=j/\j<1000+N:=by
 simp only[Dx,Qm,QS];exact⟨λ ⟨k,h,e⟩=>zy,λ h=>⟨j - 1000,zy,zy⟩⟩
theorem W9 {ρ:List (Nat × Nat)} {sn:List Nat} {hp:Nat->Option AX} (hE:∀ k<N,∀ r∈E k,∀ x∈r,∃ v,x = .sc v) (hρ:Am ρ o=none) (q:o∈sn) (hf:∀ k<N,k+1000∈sn) (ho:hp o=some ⟨1,CB N E,0⟩) (hh:∀ k<N,hp (k+1000)=some ⟨s,E k,0⟩) :
  conv ρ sn hp 4 (.rs o 0 N) = .vs 1 false ((List.range N).map λ k=>[.vs s false (E k)]):=by
 simp only[conv,hρ,q,UQ,ho,KZ,Ug,Qg,List.drop_zero]
 rw[Qc (by rw[KZ];exact Qg _),CB,Un]
 congr 1
 refine Ut λ k hk=>?_;have hk:=QS.1 hk;simp only[AB,List.map_cons,UT,EK,Am,hf k hk,UQ,hh k hk,Ug,Qg,List.drop_zero,QP];rw[IN _ (λ v=>zz) _ (hE k hk)]
theorem Le.famOut (h0:st'.sz=st.sz) (hL:L.Nodup) (h1:∀ j∈L,j<1000) (h4:o∉L) (hn:1000<=st'.n) (h5:np<=o) (h6:np<=1000) (q:∀ j,j∉L->st'.hp j=none) (ht:∀ p∈st'.t,Wk (conv (L.map λ j=>(j,j)) (o::Dx N) st.hp 4 (st.get p.1)) p.2) (hb:∀ j∈L,∀ e',st'.hp j=some e' -> ∃ e,st.hp j=some e/\Av [] (Ak (L.map λ j=>(j,j)) (o::Dx N) st.hp 4 e) e'):Le np st st':=by
 have hid:(L.map λ j=>(j,j)).map (·.1)=L:=zw
 have u:(L.map λ j=>(j,j)).map (·.2)=L:=zw
 refine Le.mk (L.map λ j=>(j,j)) (o::Dx N) [] h0 (by rw[hid];exact hL) (by rw[u];exact hL) ?_ zz ?_ zy zz (λ i=>?_) ?_
 .intro p hp
  obtain⟨j,hj,rfl⟩:=Qm.1 hp;have:=h1 j hj;exact⟨by simp only;omega,λ _=>rfl⟩
 .intro i hi
  rw[hid];rcases Qv.1 hi with rfl | hi
  .exact ⟨h5,h4⟩
  .have:=IU.1 hi
   exact⟨zy,λ h=>by have:=h1 i h;omega⟩
 .unfold St.get at *
  cases hl:Am st'.t i with
  | none=>exact .inl (.dead _)
  | some v=>exact .inl (ht _ (Ds hl))
 .intro j e' he
  left
  by_cases hj:j∈L
  .obtain ⟨e,h2,h3⟩:=hb j hj e' he
   exact⟨j,e,by simp[hj],h2,h3⟩
  .rw [q j hj] at he;cases he
def E8 (l:List (Int × AV)):List (List AV):=l.map λ p=>[.sc (.int .i64 p.1),p.2]
theorem ON (n:Int):∀ l:List (Int × AV),EA n (E8 l)=(l.find? (λ p=>p.1=n)).map (·.2)
 | []=>rfl
 | (k,x)::l=>by
   have ih:=ON n l;simp only[E8] at ih;simp only[E8,List.map_cons,EA,U8]
   by_cases h:n=k
   .simp [h]
   .have h':¬ k=n:=λ e=>h e.symm
    simp[h,h',ih]
def Ei (rows:List (List AV)) (φ:Int->Option AV):Prop:=∃ l:List (Int × AV),rows=E8 l/\(l.map (·.1)).Nodup /\ ∀ n,EA n rows=φ n
theorem Ei.find {rows:List (List AV)} {φ:Int->Option AV} (h:Ei rows φ) (n:Int):EA n rows=φ n:=by
 obtain⟨_,_,_,h⟩:=h;exact h n
theorem Ei.nil:Ei [] λ _=>none:=⟨[],rfl,zz,λ _=>rfl⟩
theorem SO (n:Int) (y:AV):∀ l:List (Int × AV),∃ l',Bx n y (E8 l)=E8 l'/\(∀ k,k∈l'.map (·.1)↔k=n∨k∈l.map (·.1))/\((l.map (·.1)).Nodup->(l'.map (·.1)).Nodup) /\ ∀ k,EA k (E8 l')=if k=n then some y else EA k (E8 l)
 | []=>⟨[(n,y)],rfl,zz,zz,λ k=>by simp[E8,EA]⟩
 | (i,x)::l=>by
   by_cases h:n=i
   .subst h
    refine⟨(n,y)::l,by simp[E8,Bx],zz,zz,λ k=>?_⟩
    simp only[E8,List.map_cons,EA];split<;>rfl
   .obtain ⟨l',h1,h2,h3,h4⟩:=SO n y l
    refine⟨(i,x)::l',?_,λ k=>?_,λ hn=>?_,λ k=>?_⟩
    .simp only[E8] at h1
     simp[E8,Bx,h,h1]
    .simp only[List.map_cons,Qv,h2]
     constructor
     .rintro (h | h | h)<;>simp[h]
     .rintro (h | h | h)<;>simp[h]
    .rw [List.map_cons,Ur] at hn ⊢
     exact⟨λ hm=>((h2 i).1 hm).elim (λ e=>h e.symm) hn.1,h3 hn.2⟩
    .have h4:=h4 k
     simp only[E8] at h4;simp only[E8,List.map_cons,EA,h4]
     by_cases hk:k=i
     .subst hk
      simp[show ¬ k=n from λ e=>h e.symm]
     .simp [hk]
theorem Ei.set {rows:List (List AV)} {φ:Int->Option AV} (h:Ei rows φ) (n:Int) (y:AV):Ei (Bx n y rows) λ k=>if k=n then some y else φ k:=by
 obtain⟨l,rfl,hn,hf⟩:=h;obtain⟨l',h1,_,h3,h4⟩:=SO n y l;exact⟨l',h1,h3 hn,λ k=>by rw[h1,h4,hf]⟩
def Jj (s:Bd):AV:=.agg [.I s.1,.sc (.bool s.2)]
open Classical in
def Bf (D b:List Int):Int->Option AV:=λ x=>if x∈D then some (if x=0 then .agg [.I (-1),.sc (.bool false)] else Jj (F5 (b.getD x.toNat 0))) else none
theorem bR (b:List Int):Bf [0] b=λ x=>if x=0 then some (.agg [.I (-1),.sc (.bool false)]) else none:=by
 funext x
 by_cases h:x=0<;>simp[Bf,h]
theorem Yi {N:Nat} {A:List Ed} {f D b:List Int} (h:C6 N A f D b) {s:Bd} (hT:A0 A s∉D) (h0:0<=A0 A s) (h1:A0 A s<N) :
  Bf (D++[A0 A s]) (b.set (A0 A s).toNat (CM s))=λ x=>if x=A0 A s then some (Jj s) else Bf D b x:=by
 have hb:(A0 A s).toNat<b.length:=by rw[h.len];omega
 have q:A0 A s≠0:=λ e=>hT (e ▸ h.mem0)
 funext x
 by_cases hx:x=A0 A s
 .subst hx
  simp only[Bf,Qn,Qw,or_true,UQ,if_neg q];rw[Qf,List.getElem?_set_self hb,QH,MS]
 .simp only[Bf,Qn,Qw,hx,or_false,Uu]
  by_cases hD:x∈D
  .have hr:=h.rng x hD
   rw[if_pos hD,if_pos hD,Qf,List.getElem?_set_ne zy,Qf]
  .rw [if_neg hD,if_neg hD]
theorem Mq (D b:List Int) (x:Int):(Bf D b x).isSome=decide (x∈D):=by
 by_cases h:x∈D<;>simp[Bf,h]
variable {E:Nat->List (List AV)} {L:List Nat} {N:Nat}
abbrev C0 (s:Bd):List AV:=[.I s.1,.B s.2]
def Hm (A:List Ed):Nat->Nat->List Bd
 | 0,_=>[]
 | i+1,k=>Hm A i k++(if (AR A i).f=k then [(i,false)] else [])++(if (AR A i).t=k then [(i,true)] else [])
theorem Tm {A:List Ed} {s:Bd} {k:Nat}:∀ {i:Nat},s∈Hm A i k↔s.1<i/\CY A s=k
 | 0=>by simp[Hm]
 | i+1=>by
   obtain⟨j,c⟩:=s;have ih:=Tm (A:=A) (s:=(j,c)) (k:=k) (i:=i);simp only[Hm,Qn,ih];unfold CY;simp only;constructor
   .rintro ((h | h) | h)
    .exact ⟨zy,h.2⟩
    .split at h
     .rename_i e
      simp at h;obtain⟨rfl,rfl⟩:=h;exact⟨zy,by simpa using e⟩
     .simp at h
    .split at h
     .rename_i e
      simp at h;obtain⟨rfl,rfl⟩:=h;exact⟨zy,by simpa using e⟩
     .simp at h
   .rintro ⟨h1,h2⟩
    rcases QN.1 h1 with h | h
    .exact .inl (.inl ⟨h,h2⟩)
    .subst h
     cases c
     .have:(AR A j).f=k:=by simpa using h2
      rw[if_pos this];exact .inl (.inr zz)
     .have:(AR A j).t=k:=by simpa using h2
      rw[if_pos this];exact .inr zz
theorem PC (A:List Ed) (k:Nat):∀ i,(Hm A i k).length<=2*i
 | 0=>Qg _
 | i+1=>by
   have ih:=PC A k i;simp only[Hm,Qe];split<;>split<;>simp<;>omega
def Db (A:List Ed) (i:Nat):Nat->List (List AV):=λ k=>(Hm A i k).map C0
theorem T6 (A:List Ed) (i k:Nat):∀ r∈Db A i k,∀ x∈r,∃ v,x = .sc v:=by
 intro r hr x hx;obtain⟨s,_,rfl⟩:=Qm.1 hr;simp only[C0,Qv,Ue,or_false] at hx;rcases hx with rfl | rfl
 .exact ⟨_,rfl⟩
 .exact ⟨_,rfl⟩
theorem WV (A:List Ed) (i k:Nat):(Db A i k).length<=2*i:=by unfold Db;rw[Qs];exact PC A k i
theorem jG {a:Nat} {row:List AV} (hE:∀ k,∀ r∈E k,∀ x∈r,∃ v,x=AV.sc v) (hr:∀ x∈row,∃ v,x=AV.sc v) (k:Nat):∀ r∈grow E a row k,∀ x∈r,∃ v,x=AV.sc v:=by
 unfold grow;intro r h;split at h
 .rcases Qn.1 h with h | h
  .exact hE a r h
  .rw [Qw.1 h];exact hr
 .exact hE k r h
theorem XL {A:List Ed} {i a b:Nat} (ha:(AR A i).f=a) (hb:(AR A i).t=b) (q:a≠b):Db A (i+1)=grow (grow (Db A i) a (C0 (i,false))) b (C0 (i,true)):=by
 funext k
 simp only[Db,Hm,grow,ha,hb,List.map_append,Int.natCast_inj]
 by_cases h1:k=a
 .subst h1
  simp[q,q.symm]
 .by_cases h2:k=b
  .subst h2
   simp[q,h1]
  .have h3:¬ a=k:=λ e=>h1 e.symm
   have h4:¬ b=k:=λ e=>h2 e.symm;simp[h1,h2,h3,h4]
theorem Md (s:Bd):∀ x∈C0 s,∃ v,x=AV.sc v:=by
 intro x hx;simp only[C0,Qv,Ue,or_false] at hx;rcases hx with rfl | rfl
 .exact ⟨_,rfl⟩
 .exact ⟨_,rfl⟩
abbrev LM (N:Nat) (A:List Ed):AV:=.vs 1 false ((List.range N).map λ k=>[.vs 2 false (Db A A.length k)])
theorem Le.slot {np sz n n':Nat} {t t':List (Nat × AV)} {h:List (Nat × Option AX)} (hn:n<=n') (ht:∀ p∈t',(⟨sz,t,h,n⟩:St).get p.1=p.2):Le np ⟨sz,t,h,n⟩ ⟨sz,t',h,n'⟩:=by
 intro T0 M0 w0 T M a w ok q;refine⟨T,M,⟨ok.sz,ok.df,λ i=>?_,ok.hs,λ id g hg=>Nat.lt_of_lt_of_le (ok.dom id g hg) hn,ok.after⟩,QI q hn⟩;show Ar T w M ((Am t' i).getD .dead) _
 cases hl:Am t' i with
 | none=>exact .dead _ _
 | some v =>
   have:=ht _ (Ds hl);simp only at this;show Ar T w M v _;rw[<- this];exact ok.tm i
def famS (N:Nat) (L:List Nat):List (Nat × Nat):=(L++Dx N).map λ j=>(j,j)
theorem Kq {j:Nat} (h:j∈L ∨ ∃ k<N,j=k+1000):Am (famS N L) j=some j:=by
 rw[famS,Lf (λ j=>j) (λ i j h=>h) (λ j=>j),if_pos];rcases h with h | ⟨k,h1,rfl⟩
 .simp [h]
 .exact UE _ (IU.2 zy)
theorem V5 {j:Nat} (h:j∉L) (h2:1000+N<=j):Am (famS N L) j=none:=by
 rw[famS,Lf (λ j=>j) (λ i j h=>h) (λ j=>j),if_neg];rw[Qn,not_or];exact⟨h,λ hm=>by have:=IU.1 hm;omega⟩
theorem WC {sn:List Nat} {h:Nat->Option AX}:(CB N E).map (·.map (conv (famS N L) sn h 4))=CB N E:=by
 conv=>rhs;rw[<- List.map_id (CB N E)]
 refine Ut λ r hr=>?_;obtain⟨k,hk,rfl⟩:=Qm.1 hr;have:=Kq (N:=N) (L:=L) (j:=k+1000) (.inr ⟨k,QS.1 hk,rfl⟩);simp[EK,this]
theorem Le.famS {np s:Nat} (L sn:List Nat) {st st':St} (h6:st'.sz=st.sz) (hL:L.Nodup) (h1:∀ j∈L,j<1000) (hn:1000+N<=st'.n) (h9:np<=1000) (h7:∀ j∈sn,1000+N<=j) (hE:∀ k<N,∀ r∈E k,∀ x∈r,∃ v,x = .sc v) (h8:∀ k<N,st.hp (k+1000)=some ⟨s,E k,0⟩) (u:∀ k<N,st'.hp (k+1000)=some ⟨s,E k,0⟩) (h0:∀ j,j∉L->(j<1000∨1000+N<=j)->st'.hp j=none) (ht:∀ p∈st'.t,Wk (conv (famS N L) sn st.hp 4 (st.get p.1)) p.2) (hb:∀ j∈L,∀ e',st'.hp j=some e' -> ∃ e,st.hp j=some e/\Av [] (Ak (famS N L) sn st.hp 4 e) e'):Le np st st':=by
 have hid:(Go.Proofs.YtklclphfcibagaaGreat.famS N L).map (·.1)=L++Dx N:=by simp[Go.Proofs.YtklclphfcibagaaGreat.famS,AB]
 have h4:(Go.Proofs.YtklclphfcibagaaGreat.famS N L).map (·.2)=L++Dx N:=by simp[Go.Proofs.YtklclphfcibagaaGreat.famS,AB]
 have h5:(L++Dx N).Nodup:=Uy.2 ⟨hL,JY (λ i j h=>by simpa using h) List.nodup_range,λ x hx y hy e=>by
  have:=h1 x hx;have:=IU.1 hy
  omega⟩
 have q:∀ j,(j,j)∈Go.Proofs.YtklclphfcibagaaGreat.famS N L↔j∈L∨j∈Dx N:=λ j=>by simp[Go.Proofs.YtklclphfcibagaaGreat.famS]
 refine Le.mk (Go.Proofs.YtklclphfcibagaaGreat.famS N L) sn [] h6 (by rw[hid];exact h5) (by rw[h4];exact h5) ?_ zz ?_ zy zz (λ i=>?_) ?_
 .intro p hp
  obtain⟨j,hj,rfl⟩:=Qm.1 hp;rcases Qn.1 hj with h | h
  .have:=h1 j h
   exact⟨by simp only;omega,λ _=>rfl⟩
  .have:=IU.1 h
   exact⟨by simp only;omega,λ _=>rfl⟩
 .intro j hj
  have:=h7 j hj;refine⟨zy,?_⟩
  rw[hid,Qn,not_or];exact⟨λ h=>by have:=h1 j h;omega,λ h=>by have:=IU.1 h;omega⟩
 .unfold St.get at *
  cases hl:Am st'.t i with
  | none=>exact .inl (.dead _)
  | some v=>exact .inl (ht _ (Ds hl))
 .intro j e' he
  left
  by_cases hj:j∈L
  .obtain ⟨e,h2,h3⟩:=hb j hj e' he
   exact⟨j,e,(q j).2 (.inl hj),h2,h3⟩
  .by_cases hr:j<1000∨1000+N<=j
   .rw [h0 j hj hr] at he;cases he
   .obtain ⟨k,rfl⟩:∃ k,j=k+1000:=⟨j - 1000,zy⟩
    have hk:k<N:=zy
    rw[u k hk] at he
    cases he;refine⟨k+1000,_,(q _).2 (.inr (IU.2 zy)),h8 k hk,?_⟩
    have:Ak (Go.Proofs.YtklclphfcibagaaGreat.famS N L) sn st.hp 4 ⟨s,E k,0⟩=⟨s,E k,0⟩:=by
     simp only[Ak];rw[IN _ (λ v=>by simp[conv]) _ (hE k hk)]
    rw[this];exact Av.rfl' (Qh _)
variable {A:List Ed} {E:Nat->List (List AV)} {N m n sz:Nat} {f:List Int} {t:List (Nat × AV)}
abbrev oH (N:Nat) (A:List Ed) (m:Nat) (f:List Int) (E:Nat->List (List AV)):List (Nat × Option AX) :=
 Ev 2 N E++[(0,some ⟨1,AH f,0⟩),(24,some ⟨4,[[.I 0,.nilS,.nilS,.nilS]],0⟩),(64,some ⟨1,CB N E,0⟩),(80,some ⟨4,[[.I N,Cr A,.rs 0 0 m,.rs 64 0 N]],0⟩)]
theorem DL {i j:Nat} {h:List (Nat × Option AX)} {v:Option AX} (hij:i≠j):(⟨sz,t,(i,v)::h,n⟩:St).hp j=(⟨sz,t,h,n⟩:St).hp j:=by
 rw[LQ,if_neg hij]
theorem IS {k:Nat} (h:k<N):(⟨sz,t,oH N A m f E,n⟩:St).hp (k+1000)=some ⟨2,E k,0⟩:=Yu h
theorem MU {j:Nat} (hj:j∉[0,24,64,80]) (hr:j<1000∨1000+N<=j):(⟨sz,t,oH N A m f E,n⟩:St).hp j=none:=by
 have q:j≠0/\j≠24/\j≠64/\j≠80:=by simpa using hj
 rcases hr with hr | hr
 .rw [Kp hr]
  simp[q.1.symm,q.2.1.symm,q.2.2.1.symm,q.2.2.2.symm]
 .rw [WH hr]
  simp[q.1.symm,q.2.1.symm,q.2.2.1.symm,q.2.2.2.symm]
section
variable {sz n N m:Nat} {t:List (Nat × AV)} {A:List Ed} {f:List Int} {E:Nat->List (List AV)}
theorem F6:(⟨sz,t,oH N A m f E,n⟩:St).hp 0=some ⟨1,AH f,0⟩:=by rw[Kp zy];simp
theorem JJ:(⟨sz,t,oH N A m f E,n⟩:St).hp 24=some ⟨4,[[.I 0,.nilS,.nilS,.nilS]],0⟩:=by rw[Kp zy];simp
theorem JC:(⟨sz,t,oH N A m f E,n⟩:St).hp 64=some ⟨1,CB N E,0⟩:=by rw[Kp zy];simp
theorem H4:(⟨sz,t,oH N A m f E,n⟩:St).hp 80=some ⟨4,[[.I N,Cr A,.rs 0 0 m,.rs 64 0 N]],0⟩:=by rw[Kp zy];simp
end
theorem Le.oStep {a x y n':Nat} {row:List AV} {t':List (Nat × AV)} {h:List (Nat × Option AX)} (ha:a<N) (hx:1000+N<=x) (hy:1000+N<=y) (h0:x≠y) (hN:N<=900) (u:1000+N<=n') (hE:∀ k,∀ r∈E k,∀ z∈r,∃ v,z = .sc v) (q:∀ z∈row,∃ v,z = .sc v) (hh:h=(64,some ⟨1,(CB N E).set a [.rs x 0 ((E a).length+1)],0⟩)::(x,some ⟨2,E a++[row],0⟩)::(a+1000,none)::(y,some ⟨2,[row],0⟩)::oH N A m f E) (ht:∀ p∈t',Wk (conv (B2 x a N [0,24,64,80]) [] (⟨54,t,h,n⟩:St).hp 4 ((⟨54,t,h,n⟩:St).get p.1)) p.2):Le 1 ⟨54,t,h,n⟩ ⟨54,t',oH N A m f (grow E a row),n'⟩:=by
 have e64:(⟨54,t,h,n⟩:St).hp 64=some ⟨1,(CB N E).set a [.rs x 0 ((E a).length+1)],0⟩:=by rw[hh,LQ,if_pos rfl]
 have e0:(⟨54,t,h,n⟩:St).hp 0=some ⟨1,AH f,0⟩:=by rw[hh,DL zy,DL zy,DL zy,DL zy,F6]
 have e24:(⟨54,t,h,n⟩:St).hp 24=some ⟨4,[[.I 0,.nilS,.nilS,.nilS]],0⟩:=by rw[hh,DL zy,DL zy,DL zy,DL zy,JJ]
 have e80:(⟨54,t,h,n⟩:St).hp 80=some ⟨4,[[.I N,Cr A,.rs 0 0 m,.rs 64 0 N]],0⟩:=by rw[hh,DL zy,DL zy,DL zy,DL zy,H4]
 have l0:Am (B2 x a N [0,24,64,80]) 0=some 0:=I8 zy (.inl zz)
 have l64:Am (B2 x a N [0,24,64,80]) 64=some 64:=I8 zy (.inl zz)
 refine Le.fam (s:=2) (N:=N) (a:=a) (m:=x) (E:=E) (row:=row) [0,24,64,80] rfl ha zx zz hx u zy (λ k _=>hE k) q ?_ ?_ (λ k hk=>IS hk) (λ j hj hr=>MU hj hr) ht ?_
 .intro k hk h1
  rw[hh,DL zy,DL zy,DL zy,DL zy,IS hk]
 .rw [hh,DL zy,LQ,if_pos rfl]
 .intro j hj e' he
  simp only[Qv,Ue,or_false] at hj;rcases hj with rfl | rfl | rfl | rfl
  .rw [F6] at he
   cases he;exact⟨_,e0,by simp only[Ak];rw[IN _ (λ v=>by simp[conv]) _ zz];exact Av.rfl' (Qh _)⟩
  .rw [JJ] at he
   cases he;exact⟨_,e24,by simp[Ak];exact Av.rfl' (Qh _)⟩
  .rw [JC] at he
   cases he;refine⟨_,e64,?_⟩;simp only[Ak];rw[Xv ha (.inr hx) rfl];exact Av.rfl' (Qh _)
  .rw [H4] at he
   cases he;refine⟨_,e80,?_⟩;simp[Ak,l0,l64];exact Av.rfl' (Qh _)
theorem RK (N:Nat) (A:List Ed) (f:List Int) (m:Nat) (hn:C3 ⟨N,A⟩):AK 147 [eN ⟨N,A⟩,.rs 0 0 m] [⟨1,AH f,0⟩] (.agg [.I N,Cr A,.rs 0 0 m,LM N A]) [some ⟨1,AH f,0⟩]:=by
 refine rV.s.ai ?_;obtain⟨ho,hq,hs,ha⟩:=hn;simp only at ho hq hs ha;refine ar [1,2,4] [(0,0),(24,24)] [16] 32 ?_;refine BM ⟨54,[(2,.pv (nC ⟨N,A⟩)),(4,.pt 24 0 0),(5,.pt 80 0 0)],[(0,some ⟨1,AH f,0⟩),(24,some ⟨4,[[.I 0,.nilS,.nilS,.nilS]],0⟩),(64,some ⟨1,(List.range N).map λ _=>[.nilS],0⟩),(80,some ⟨4,[[.I N,Cr A,.rs 0 0 m,.rs 64 0 N]],0⟩)],96⟩ ?_ ?_
 .simp [List.map_const']
  refine⟨zy,zy,rfl,?_⟩
  exact B4 [(0,0),(24,24),(64,64),(80,80)] []
 refine AC (ar [4,5,15,16,17] [(0,0),(24,24),(64,64),(80,80)] [] 128 ?_);refine AI (Ag (ι:=Nat) (λ i=>⟨54,[(4,.pt 24 0 0),(5,.pt 80 0 0),(15,Cr A),(16,.I A.length),(17,.I i)],oH N A m f (Db A i),2000⟩) (λ i=>i<=A.length) (λ i=>A.length - i) 0 (Qh _) ?_ ?_)
 .refine Le.fam0 (s:=2) (N:=N) (o:=64) [0,24,80] rfl zy zx zz (by simp only;omega) zz JC (λ k hk=>IS hk) (λ j hj hr=>MU (by simpa [and_comm,and_left_comm,and_assoc,or_comm,or_left_comm] using hj) hr) zz ?_
  intro j hj e' he;simp only[Qv,Ue,or_false] at hj;rcases hj with rfl | rfl | rfl
  .rw [F6] at he
   cases he;exact⟨⟨1,AH f,0⟩,zz,by simp only[Ak];rw[IN _ (λ v=>by simp[conv]) _ zz];exact Av.rfl' (Qh _)⟩
  .rw [JJ] at he
   cases he;exact⟨⟨4,[[.I 0,.nilS,.nilS,.nilS]],0⟩,zz,by simp[Ak];exact Av.rfl' (Qh _)⟩
  .rw [H4] at he
   cases he;exact⟨⟨4,[[.I N,Cr A,.rs 0 0 m,.rs 64 0 N]],0⟩,zz,by simp[Ak];exact Av.rfl' (Qh _)⟩
 intro i hi;refine arc ⟨54,[(4,.pt 24 0 0),(5,.pt 80 0 0),(15,Cr A),(16,.I A.length),(17,.I i),(18,.B (decide (i<A.length)))],oH N A m f (Db A i),2008⟩ ?_ ?_
 .simp
  exact Le.slot zy zz
 refine AC (AD _ rfl (λ h5=>?_) λ h5=>?_)
 .simp at h5
  have ht:=w6 (x:=(i:Int)+1);have hb:=ha _ (Qi h5);have h0:AR A i=A[i]:=by unfold AR;rw[Qf,Qa h5,QH]
  obtain⟨e,he⟩:=AL (A[i]);rw[<- he] at hb h0;obtain⟨q1,q2,q3,q4,q5,_⟩:=hb;obtain⟨a,hd,h3⟩:∃ a:Nat,e.f=a/\a<N:=⟨e.f.toNat,zy,zy⟩
  obtain⟨b,hf,h4⟩:∃ b:Nat,e.t=b/\b<N:=⟨e.t.toNat,zy,zy⟩
  have hg:a≠b:=λ h=>q5 zy
  have u:=XL (A:=A) (i:=i) (a:=a) (b:=b) (by rw[h0];exact hd) (by rw[h0];exact hf) hg
  have h6:=T6 A i;have h8:=λ k=>WV A i k;obtain⟨E,hE⟩:=AL (Db A i);rw[<- hE] at u h6 h8 ⊢;refine AE (AC (AI (arc ⟨54,[(4,.pt 24 0 0),(5,.pt 80 0 0),(6,.I i),(7,.pv [.I a,.I b,.I e.v]),(15,Cr A),(16,.I A.length),(17,.I i)],oH N A m f E,3000⟩ ?_ ?_)))
  .simp [h5,<- he,hd,hf]
   have l24:Am (famS N [0,24,64,80]) 24=some 24:=Kq (.inl zz)
   have l80:Am (famS N [0,24,64,80]) 80=some 80:=Kq (.inl zz)
   have l0:Am (famS N [0,24,64,80]) 0=some 0:=Kq (.inl zz)
   have l64:Am (famS N [0,24,64,80]) 64=some 64:=Kq (.inl zz)
   have lno:Am (famS N [0,24,64,80]) 2032=none:=V5 zz zy
   refine Le.famS (s:=2) (N:=N) (E:=E) [0,24,64,80] [2032] rfl zx zz (by simp only;omega) zy zu (λ k _=>h6 k) ?_ (λ k hk=>IS hk) (λ j hj hr=>MU hj hr) ?_ ?_
   .intro k hk
    rw[DL zy,DL zy,IS hk]
   .simp [l24,l80,lno]
   .intro j hj e' q
    simp only[Qv,Ue,or_false] at hj;rcases hj with rfl | rfl | rfl | rfl
    .rw [F6] at q
     cases q;exact⟨_,by rw[DL zy,DL zy,F6],by simp only[Ak];rw[IN _ (λ v=>by simp[conv]) _ zz];exact Av.rfl' (Qh _)⟩
    .rw [JJ] at q
     cases q;exact⟨_,by rw[DL zy,DL zy,JJ],by simp[Ak];exact Av.rfl' (Qh _)⟩
    .rw [JC] at q
     cases q;refine⟨_,by rw[DL zy,DL zy,JC],?_⟩
     simp only[Ak];rw[WC];exact Av.rfl' (Qh _)
    .rw [H4] at q
     cases q;exact⟨_,by rw[DL zy,DL zy,H4],by simp[Ak,l0,l64];exact Av.rfl' (Qh _)⟩
  refine BM ⟨54,[(4,.pt 24 0 0),(5,.pt 80 0 0),(6,.I i),(7,.pv [.I a,.I b,.I e.v]),(15,Cr A),(16,.I A.length),(17,.I i)],oH N A m f (grow E a (C0 (i,false))),4000⟩ ?_ ?_
  .have hl:=h8 a
   have h9:¬ a=2096:=zy
   simp[H4,JC,IS h3,h3,J7 h3,KZ,EK,h9];refine⟨zy,zy,rfl,?_⟩
   have l24:Am (B2 3104 a N [0,24,64,80]) 24=some 24:=I8 zy (.inl zz)
   have l80:Am (B2 3104 a N [0,24,64,80]) 80=some 80:=I8 zy (.inl zz)
   refine Le.oStep (x:=3104) (y:=3096) h3 zy zy zy zy zy h6 (Md _) ?_ ?_
   .simp
   .simp [l24,l80]
  have h7:=jG (a:=a) h6 (Md (i,false))
  have hh:(grow E a (C0 (i,false)) b).length<=2*i:=by
   have:=h8 b;simp only[grow,if_neg hg.symm];exact this
  obtain⟨E1,hu⟩:=AL (grow E a (C0 (i,false)));rw[<- hu] at h7 hh u ⊢;refine Cn rfl ?_;have h9:¬ b=3096:=zy
  simp[H4,JC,IS h4,h4,J7 h4,KZ,EK,h9];refine⟨zy,zy,rfl,?_⟩
  refine AU rfl ?_;simp;have l24:Am (B2 4104 b N [0,24,64,80]) 24=some 24:=I8 zy (.inl zz)
  have l80:Am (B2 4104 b N [0,24,64,80]) 80=some 80:=I8 zy (.inl zz)
  refine⟨i+1,zy,zy,?_⟩
  rw[u];refine Le.oStep (x:=4104) (y:=4096) h4 zy zy zy zy zy h7 (Md _) ?_ ?_
  .simp
  .simp [l24,l80,ht]
 simp at h5;obtain rfl:i=A.length:=zy
 refine Aa (Ab (arc ⟨54,[(4,.pt 24 0 0)],[(0,some ⟨1,AH f,0⟩),(24,some ⟨4,[[.I N,Cr A,.rs 0 0 m,LM N A]],0⟩)],5000⟩ ?_ ?_))
 .simp [H4,JJ]
  have hv:∀ {h:Nat->Option AX},h 64=some ⟨1,CB N (Db A A.length),0⟩->(∀ k<N,h (k+1000)=some ⟨2,Db A A.length k,0⟩)->conv [(0,0),(24,24)] (64::Dx N) h 4 (.rs 64 0 N)=LM N A:=λ h1 h2 =>
   W9 (λ k _=>T6 A A.length k) zz zz (λ k hk=>by simp[IU];omega) h1 h2
  refine Le.famOut (N:=N) (o:=64) (L:=[0,24]) rfl zx zz zz zz zy zy ?_ ?_ ?_
  .intro j hj
   have hm:j≠0/\j≠24:=by simpa using hj
   simp[hm.1.symm,hm.2.symm]
  .simp
  .intro j hj e' q
   simp only[Qv,Ue,or_false] at hj;rcases hj with rfl | rfl
   .simp at q
    subst q;refine⟨_,by rw[DL zy,F6],?_⟩
    simp only[Ak];rw[IN _ (λ v=>by simp[conv]) _ zz]
    exact Av.rfl' (Qh _)
   .simp at q
    subst q;refine⟨_,by rw[LQ,if_pos rfl],?_⟩
    refine Av.eq ?_ (Qh _);simp only[Ak,List.map_cons,UT];rw[hv (by rw[DL zy,JC]) (λ k hk=>by rw[DL zy,IS hk])]
    simp
 exact BG (AG.k1 rfl zz zw)
variable {rows:List (List AV)} {φ:Int->Option AV}
abbrev rC (N:Nat) (A:List Ed) (f:AV):List AV:=[.I N,Cr A,f,LM N A]
abbrev eR (N:Nat) (A:List Ed) (f:AV):AV:=.agg (rC N A f)
theorem TW {A:List Ed} {i:Nat} (h:i<A.length):A[i]? = some (AR A i):=by
 unfold AR;rw[Qf,Qa h,QH]
theorem SZ (N:Nat) (A:List Ed) (f:List Int) (s:Bd) (hn:C3 ⟨N,A⟩) (hf:CN A f) (hs:s.1<A.length):AK 214 [eR N A (AA f),.agg (C0 s)] [] (.tup [.I (B5 A f s),.I (A0 A s)]) []:=by
 refine uA.s.ai ?_;obtain⟨i,c⟩:=s;simp only at hs;obtain⟨h6,h3⟩:=Gd.1 hf;have hA:=TW hs;have hi:=h3 i hs;have u:=hn.2.2.2 _ (HX hs);have q:i<f.length:=zy
 obtain⟨e,he⟩:=AL (AR A i);obtain⟨w,hw⟩:=AL (f.getD i 0);have hg:f[i]? = some w:=by rw[hw,Qf,Qa q,QH]
 have hge:A[i]=e:=by rw[Qa hs,<- he] at hA;exact Qj hA
 have h0:f[i]=w:=by rw[Qa q] at hg;exact Qj hg
 rw[<- he] at u;rw[<- hw,<- he] at hi;obtain⟨_,_,_,_,_,_,_,h8,h9⟩:=u;have h5:=w6 (x:=e.v - w);refine ar [2,3] [] [16,24] 48 ?_;apply ax [2,3,6] [] [104] 200
 .simp [hs,hge]
  rfl
 refine AC (rs [2,3,6,15] [] [] ?_);refine AD _ rfl (λ h4=>?_) λ h4=>?_
 .have hc:c=true:=h4
  subst hc;have h1:B5 A f (i,true)=w:=by unfold B5;simp[hw]
  have h2:A0 A (i,true)=e.f:=by unfold A0;simp[he]
  rw[h1,h2];apply ay [4,5] [] [] 400
  .simp [q,h0]
   exact⟨rfl,rfl⟩
  exact CD [] []
 have hc:c=false:=h4;subst hc;have h1:B5 A f (i,false)=e.v - w:=by unfold B5;simp[hw,he]
 have h2:A0 A (i,false)=e.t:=by unfold A0;simp[he]
 rw[h1,h2];refine AE ?_;apply ay [4,5] [] [] 400
 .simp [q,h0,h5]
  exact⟨rfl,rfl⟩
 exact CD [] []
theorem RW:∀ {l:List (Int × AV)} {q:Int × AV},(l.map (·.1)).Nodup->q∈l->EA q.1 (E8 l)=some q.2
 | (k,x)::l,q,hn,h=>by
   rw[List.map_cons,Ur] at hn;rw[ON,U8];rcases Qv.1 h with rfl | h
   .simp
   .have u:¬ k=q.1:=λ e=>hn.1 (e ▸ Qm.2 ⟨q,h,rfl⟩)
    have ih:=RW hn.2 h;rw[ON] at ih
    simpa [u] using ih
structure Cj (rows:List (List AV)) (φ:Int->Option AV):Prop where
 is:Ei rows φ
 flat:∀ n x,φ n=some x -> ∃ u v,x = .agg [.sc u,.sc v]
theorem Cj.mem (h:Cj rows φ) {r:List AV} (hr:r∈rows):∃ k u v,r=[.sc k,.agg [.sc u,.sc v]]:=by
 obtain⟨⟨l,rfl,hn,hf⟩,h0⟩:=h;obtain⟨q,hq,rfl⟩:=Qm.1 hr;obtain⟨u,v,e⟩:=h0 q.1 q.2 (by rw[<- hf];exact RW hn hq)
 exact⟨_,u,v,by rw[e]⟩
theorem Cj.conv (h:Cj rows φ) (ρ:List (Nat × Nat)) (sn:List Nat) (g:Nat->Option AX):rows.map (·.map (conv ρ sn g 4))=rows:=by
 conv=>rhs;rw[<- List.map_id rows]
 refine Ut λ r hr=>?_;obtain⟨k,u,v,rfl⟩:=h.mem hr;simp
theorem Cj.conv' (h:Cj rows φ) (ρ:List (Nat × Nat)) (sn:List Nat) (g:Nat->Option AX):rows.map (List.map (Go.Proofs.YtklclphfcibagaaGreat.conv ρ sn g 4))=rows:=h.conv ρ sn g
theorem Cj.plain (h:Cj rows φ) (s ro:Nat):HJ ⟨s,rows,ro⟩:=by
 intro r hr x hx;obtain⟨k,u,v,rfl⟩:=h.mem hr;simp only[Qv,Ue,or_false] at hx;rcases hx with rfl | rfl
 .exact .sc _
 .refine .agg _ λ i=>?_
  match i with
  | 0=>exact .sc _
  | 1=>exact .sc _
  | i+2=>exact .dead
theorem KE (D b:List Int) (n:Int) (x:AV) (h:Bf D b n=some x):∃ u v,x = .agg [.sc u,.sc v]:=by
 unfold Bf at h;split at h
 .split at h
  .cases h;exact⟨_,_,rfl⟩
  .cases h;exact⟨_,_,rfl⟩
 .cases h
theorem Cj.set {D b D' b':List Int} (h:Cj rows (Bf D b)) (n:Int) (y:AV) (he:Bf D' b'=λ k=>if k=n then some y else Bf D b k):Cj (Bx n y rows) (Bf D' b') :=
 ⟨by rw[he];exact h.is.set n y,KE D' b'⟩
theorem Xt {N:Nat} {A:List Ed} (hn:C3 ⟨N,A⟩) {s:Bd} (hs:s.1<A.length):0<=A0 A s/\A0 A s<N:=by
 have:G0 N (AR A s.1):=hn.2.2.2 _ (HX hs);obtain⟨q1,q2,q3,q4,_⟩:=this;unfold A0;split<;>omega
structure Sj where
 s:I1
 R:List (List AV)
 m:Nat
 i:Nat
def KB (A:List Ed) (f D:List Int) (l:List Bd):Prop:=∀ s∈l,0<B5 A f s->A0 A s∈D
theorem KB.nil {A:List Ed} {f D:List Int}:KB A f D []:=λ s h=>by simp at h
theorem Ra (N:Nat) (A:List Ed) (f:List Int) (hn:C3 ⟨N,A⟩) (hf:CN A f) :
  ∃ x:List Int × List Int × List (List AV),(C6 N A f x.1 x.2.1/\HP A f x.1/\Cj x.2.2 (Bf x.1 x.2.1))/\AK 148 [eR N A (AA f)] [] (.mp 0) [some ⟨0,x.2.2,0⟩]:=by
 refine wJ.s.acallsX (args:=[eR N A (AA f)]) (hs:=[]) (λ x=>.mp 0) (λ x=>[some ⟨0,x.2.2,0⟩]) (λ x:List Int × List Int × List (List AV)=>C6 N A f x.1 x.2.1/\HP A f x.1/\Cj x.2.2 (Bf x.1 x.2.1)) (AW rfl) (AW rfl) (λ _=>zz) ?_
 show AQ _ 0 _ _ ⟨59,[(0,eR N A (AA f))],[],16⟩;have hj:=λ s hs=>SZ N A f s hn hf hs;have hy:=λ (s:Bd) (hs:s.1<A.length)=>Xt hn hs;obtain⟨am,an,aq,au⟩:=hn;simp only at am an aq au;have hl:Cj ([[.I 0,.agg [.I (-1),.B false]]]) (Bf [0] (List.replicate N 0)):=⟨by rw[bR];exact Ei.nil.set 0 (.agg [.I (-1),.B false]),KE _ _⟩
 refine ar [1] [] [16] 32 ?_;apply ax [1,3] [(32,32)] [] 72
 .simp [Bx]
  rfl
 obtain⟨R0,hz⟩:∃ R0:List (List AV),R0=[[.I 0,.agg [.I (-1),.B false]]]:=⟨_,rfl⟩;rw[<- hz] at hl ⊢;refine AC (ar [1,3,4] [(32,32),(72,72)] [] 88 ?_);refine AI ?_
 refine Ag (ι:=Sj) (λ t=>⟨59,[(1,.pv (rC N A (AA f))),(3,.mp 32),(4,.rs 72 t.s.off t.s.q)],[(32,some ⟨0,t.R,0⟩),(72,some ⟨1,AH t.s.Z,0⟩)],88⟩)
  (λ t=>DS N A f t.s t.m/\Hs A f t.s.D t.m/\Cj t.R (Bf t.s.D t.s.b)) (λ t=>N - t.m) ⟨⟨[0],List.replicate N 0,[0],0,1⟩,R0,0,0⟩
  ⟨⟨C6.start zy,rfl,rfl,rfl⟩,λ s _ h=>by simp at h,hl⟩ (AN [(32,32),(72,72)] [] zz (by simp[hl.conv'])) ?_
 rintro⟨s,R,m,_⟩ ⟨hb,hd,hR⟩
 simp only at hb hd hR;have b5:=hb.bfs.few;have b8:=hb.d;have bb:=hb.z;refine AC (ar [1,3,4,17] [(32,32),(72,72)] [] 112 ?_);refine AD _ rfl (λ h5=>?_) λ h5=>?_
 .simp at h5
  obtain⟨he,hk⟩:=hb.head h5;have b6:s.off<s.Z.length:=zy
  obtain⟨k,hm⟩:=AL (s.D[m]);rw[<- hm] at hk;have a0:k∈s.D:=hm ▸ Qi he;have be:=hb.bfs.rng k a0;obtain⟨kn,a1,a2⟩:∃ kn:Nat,k=kn/\kn<N:=⟨k.toNat,zy,zy⟩
  obtain⟨L,hL⟩:=AL (Hm A A.length kn);have a3:∀ st:Bd,st∈L↔st.1<A.length/\CY A st=k:=λ st=>by rw[hL,a1];exact Tm
  have bo:L.length<=2*A.length:=by rw[hL];exact PC A kn A.length
  have a4:Db A A.length kn=L.map C0:=by rw[hL];rfl
  refine AE (AC (AI (BM ⟨59,[(1,.pv (rC N A (AA f))),(3,.mp 32),(4,.rs 72 s.off s.q),(26,.vs 2 false (L.map C0)),(27,.I L.length),(28,.I 0)],[(32,some ⟨0,R,0⟩),(72,some ⟨1,AH s.Z,0⟩)],184⟩ ?_ ?_)))
  .simp [hk,h5,a1,a2,a4]
   exact⟨rfl,AN [(32,32),(72,72)] [] (by simp[a4]) (by simp[hR.conv',AB])⟩
  refine AI ?_
  refine Ag (ι:=Sj) (λ t=>⟨59,[(1,.pv (rC N A (AA f))),(3,.mp 32),(4,.rs 72 t.s.off t.s.q),(26,.vs 2 false (L.map C0)),(27,.I L.length),(28,.I t.i)],[(32,some ⟨0,t.R,0⟩),(72,some ⟨1,AH t.s.Z,0⟩)],184⟩)
   (λ t=>DS N A f t.s m/\Cj t.R (Bf t.s.D t.s.b)/\t.i<=L.length/\KB A f t.s.D (L.take t.i) /\ ∃ l,t.s.D=s.D++l) (λ t=>L.length - t.i) ⟨s,R,m,0⟩
   ⟨hb,hR,Qh _,by rw[List.take_zero];exact KB.nil,[],zz⟩ (AN [(32,32),(72,72)] [] zz (by simp[hR.conv',AB])) ?_
  rintro⟨t,R,_,i⟩ ⟨ht,hR,hi,ho,l,h6⟩
  simp only at ht hR hi ho h6;have bp:=ht.z;have bs:=ht.d;have bt:=ht.bfs.few;refine ar [1,3,4,26,27,28,29] [(32,32),(72,72)] [] 192 ?_;refine AC (AD _ rfl (λ h8=>?_) λ h8=>?_)
  .simp at h8
   have hw:=w6 (x:=(i:Int)+1);obtain⟨st,hu⟩:=AL (L[i]);obtain⟨hv,av⟩:=(a3 st).1 (hu ▸ Qi h8);have a5:=hj st hv;obtain⟨a6,a7⟩:=hy st hv;have h7:=λ (h1:0<B5 A f st) (h2:A0 A st∉t.D)=>ht.bfs.push (s:=st) hv (by rw[av,h6];exact Q2 _ a0) h1 h2 a6 a7
   have hh:=λ (h2:A0 A st∉t.D)=>Yi ht.bfs h2 a6 a7;have h9:=Mq t.D t.b (A0 A st);have ha:=hR.is.find (A0 A st)
   have h0:∀ D',(∃ l,D'=t.D++l)->A0 A st∈D'∨¬ 0<B5 A f st->KB A f D' (L.take (i+1)):=λ D' b0 h s' hs' hr=>by
    rw[Ql h8,<- hu] at hs';obtain⟨l',rfl⟩:=b0;rcases Qn.1 hs' with h' | h'
    .exact Q2 _ (ho s' h' hr)
    .rw [Qw] at h'
     subst h';exact h.resolve_right λ hn=>hn hr
   obtain⟨T,hT⟩:=AL (A0 A st);obtain⟨rm,a8⟩:=AL (B5 A f st);rw[<- hT,<- a8] at a5 h7 h0;rw[<- hT] at hh h9 ha;refine AE (AC (AI (arc ⟨59,[(1,.pv (rC N A (AA f))),(3,.mp 32),(4,.rs 72 t.off t.q),(6,.pv (C0 st)),(26,.vs 2 false (L.map C0)),(27,.I L.length),(28,.I i)],[(32,some ⟨0,R,0⟩),(72,some ⟨1,AH t.Z,0⟩)],232⟩ ?_ ?_)))
   .simp [h8,<- hu]
    exact AN [(32,32),(72,72)] [208] zz (by simp[hR.conv',AB])
   refine arc ⟨59,[(1,.pv (rC N A (AA f))),(3,.mp 32),(4,.rs 72 t.off t.q),(6,.pv (C0 st)),(7,.I rm),(8,.I T),(26,.vs 2 false (L.map C0)),(27,.I L.length),(28,.I i)],[(32,some ⟨0,R,0⟩),(72,some ⟨1,AH t.Z,0⟩)],300⟩ ?_ ?_
   .simp
    refine Ay a5 ?_;simp;exact AN [(32,32),(72,72)] [] zz (by simp[hR.conv',AB])
   refine arc ⟨59,[(1,.pv (rC N A (AA f))),(3,.mp 32),(4,.rs 72 t.off t.q),(6,.pv (C0 st)),(7,.I rm),(8,.I T),(10,.B (decide (T∈t.D))),(26,.vs 2 false (L.map C0)),(27,.I L.length),(28,.I i)],[(32,some ⟨0,R,0⟩),(72,some ⟨1,AH t.Z,0⟩)],400⟩ ?_ ?_
   .have b1:∃ u v,(Bf t.D t.b T).getD (Ct (Value.agg #[Value.int IntKind.i64 0,Value.bool false])) = .agg [.sc u,.sc v]:=by
     cases hc:Bf t.D t.b T with
     | none=>exact⟨.int .i64 0,.bool false,by simp[Ct,Value.oneCell']⟩
     | some x =>
       obtain⟨u,v,rfl⟩:=KE _ _ _ _ hc;exact⟨u,v,rfl⟩
    obtain⟨u,v,b2⟩:=b1;simp[ha,h9,b2];exact AN [(32,32),(72,72)] [] zz (by simp[hR.conv',AB])
   refine arc ⟨59,[(1,.pv (rC N A (AA f))),(3,.mp 32),(4,.rs 72 t.off t.q),(6,.pv (C0 st)),(8,.I T),(26,.vs 2 false (L.map C0)),(27,.I L.length),(28,.I i),(49,.B (decide (0<rm/\T∉t.D)))],[(32,some ⟨0,R,0⟩),(72,some ⟨1,AH t.Z,0⟩)],500⟩ ?_ ?_
   .simp
    refine BK (λ hb=>?_) (λ hb=>?_)<;>(try rw[hb])<;>(try simp at hb)<;>simp[hb]
    .exact AN [(32,32),(72,72)] [] (by simp[hb]) (by simp[hR.conv',AB])
    .exact AN [(32,32),(72,72)] [] (by simp[hb]) (by simp[hR.conv',AB])
   refine AD _ rfl (λ h4=>?_) λ h4=>?_
   .rw [Qb] at h4
    have a9:=h7 h4.1 h4.2;have hg:=hR.set T (Jj st) (hh h4.2);have hx:=ht.more a9;have b3:=a9.few;rw[Qe,Q6] at b3;have b4:∀ g:Int->List AV,List.take t.q (List.drop t.off (List.map g t.Z))=List.map g (t.Z.drop t.off):=λ g=>by rw[<- US,Qc zu]
    obtain⟨R',ag⟩:∃ R',R'=Bx T (Jj st) R:=⟨_,rfl⟩;rw[<- ag] at hg;refine arc ⟨59,[(1,.pv (rC N A (AA f))),(3,.mp 32),(4,.rs 72 t.off t.q),(8,.I T),(26,.vs 2 false (L.map C0)),(27,.I L.length),(28,.I i)],[(32,some ⟨0,R',0⟩),(72,some ⟨1,AH t.Z,0⟩)],600⟩ ?_ ?_
    .simp
     rw[show Bx T (.agg [.I st.1,.B st.2]) R=R' from ag.symm]
     exact AN [(32,32),(72,72)] [] zz (by simp[hg.conv',AB])
    refine AU rfl ?_;simp[b4];refine⟨zy,zy,zy,?_⟩
    refine AU rfl ?_;simp;refine⟨⟨⟨t.D++[T],t.b.set T.toNat (CM st),t.Z.drop t.off++[T],0,t.q+1⟩,R',m,i+1⟩,⟨hx,hg,h8,h0 _ ⟨[T],rfl⟩ (.inl zz),l++[T],by simp only[h6,Qq]⟩,by simp only;omega,?_⟩
    exact AN [(32,32),(624,72)] [] (by simp[hw]) (by simp[hg.conv',AB])
   .rw [Qd] at h4
    refine AE (AU rfl ?_);simp;refine⟨⟨t,R,m,i+1⟩,⟨ht,hR,h8,h0 _ ⟨[],zz⟩ ?_,l,h6⟩,by simp only;omega,AN [(32,32),(72,72)] [] (by simp[hw]) (by simp[hR.conv',AB])⟩
    by_cases h:0<rm
    .exact .inl (UC λ hn=>h4 ⟨h,hn⟩)
    .exact .inr h
  simp at h8;obtain rfl:i=L.length:=zy
  refine Aa (Ab ?_);have b7:t.D.length=s.D.length+l.length:=by rw[h6,Qe]
  have hq:0<t.q:=zy
  have ai:Hr A f t.D s.D[m] A.length:=λ st h1 h2 h3=>by
   refine ho st ?_ h3;rw[QP];exact(a3 st).2 ⟨h1,by rw[hm];exact h2⟩
  refine AU rfl ?_;simp;refine N2 1 (i:=72) rfl rfl hq ?_;simp;exact⟨⟨{ t with off:=t.off+1,q:=t.q - 1 },R,m+1,0⟩,⟨ht.pop hq,Hs.next he hd ai h6,hR⟩,by simp only;omega,AN [(32,32),(72,72)] [] zz (by simp[hR.conv',AB])⟩
 simp at h5;have he:m=s.D.length:=zy
 refine Aa (Ab (arc ⟨59,[(2,.mp 32)],[(32,some ⟨0,R,0⟩)],200⟩ ?_ ?_))
 .simp
  exact AN [(32,32)] [] zz (by simp[hR.conv'])
 exact AO (Af.mk (.inr rfl) (s.D,s.b,R) ⟨hb.bfs,by rw[he] at hd;exact hd.all,hR⟩ (AG.out [32] [] rfl zz zz zz (by simp[hR.conv'])))
theorem SW:Ct (Value.agg #[Value.int IntKind.i64 0,Value.bool false]) = .agg [.sc (.int .i64 0),.sc (.bool false)]:=by simp[Ct,Value.oneCell']
theorem fP {a b:Int}:Plain (.tup [.I a,.I b]):=.tup _ λ i=>match i with
 | 0=>.sc _
 | 1=>.sc _
 | _+2=>.dead
structure WY where
 j:Nat
 v:Int
def De (l:List Bd) (j:Nat):List Bd:=(l.drop j).reverse
theorem RX (l:List Bd) (j:Nat):(De l j).length=l.length - j:=by simp[De]
theorem ZH {l:List Bd} {j:Nat} (h:j<l.length):De l j=De l (j+1)++[l[j]]:=by
 unfold De;rw[QX h,List.reverse_cons]
theorem ZI (l:List Bd):De l l.length=[]:=by simp[De]
theorem V0 {N:Nat} {A:List Ed} {f D b:List Int} {l:List Bd} (hb:C6 N A f D b) (hl:JI N A f b l) {j:Nat} (hj:j<l.length):Bf D b (A0 A l[j])=some (Jj l[j]):=by
 obtain⟨q1,q2,q3,q4,q5,q6⟩:=hl.at_ j hj;have hD:A0 A l[j]∈D:=UC λ h=>T9 l[j] (by rw[<- q6];exact hb.out _ q4 h)
 unfold Bf;rw[if_pos hD,if_neg q3,q6,MS]
theorem aT (N:Nat) (A:List Ed) (f:List Int) (hn:C3 ⟨N,A⟩) (hf:BY N A f) :
  ∃ x:Bool × List Int,(if x.1 then BY N A x.2/\Al A f+1<=Al A x.2 else x.2=f /\ ∀ f',BY N A f'->Al A f'<=Al A f)/\AK 275 [eR N A (.rs 0 0 A.length)] [⟨1,AH f,0⟩] (.B x.1) [some ⟨1,AH x.2,0⟩]:=by
 refine sO.s.acallsX (args:=[eR N A (.rs 0 0 A.length)]) (hs:=[⟨1,AH f,0⟩]) (λ x=>.B x.1) (λ x=>[some ⟨1,AH x.2,0⟩]) (λ x:Bool × List Int=>if x.1 then BY N A x.2/\Al A f+1<=Al A x.2 else x.2=f /\ ∀ f',BY N A f'->Al A f'<=Al A f) (AW rfl) (AW rfl) (λ _=>zz) ?_
 show AQ _ 1 _ _ ⟨86,[(0,eR N A (.rs 0 0 A.length))],[(0,some ⟨1,AH f,0⟩)],16⟩;have b0:=I0 hn;have a3:=hf.fit.len;have hy:=Gd.1 hf.fit;obtain⟨⟨D,b,R⟩,⟨hb,b1,hR⟩,h8⟩:=Ra N A f hn hf.fit;simp only at hb b1 hR h8;have a4:=λ s hs=>SZ N A f s hn hf.fit hs;obtain⟨bs,bt,c0,a5⟩:=hn;simp only at bs bt c0 a5;have h9:∀ g:Int->List AV,List.take A.length (List.map g f)=List.map g f:=λ g=>Qc zu
 have ha:=hR.is.find;have a6:=Mq D b 1;refine ar [1] [(0,0),(16,16)] [] 32 ?_;refine arc ⟨86,[(1,.pt 16 0 0),(3,.mp 60)],[(0,some ⟨1,AH f,0⟩),(16,some ⟨4,[rC N A (.rs 0 0 A.length)],0⟩),(60,some ⟨0,R,0⟩)],100⟩ ?_ ?_
 .simp
  refine KV [0] h8 (by simp[AB,h9,a3]) (.mp _) (hR.plain _ _) ?_
  simp;exact AN [(0,0),(16,16),(40,60)] [] zz (by simp[AB,hR.conv'])
 refine AC ?_
 have c1:∃ u v,(Bf D b 1).getD (Ct (Value.agg #[Value.int IntKind.i64 0,Value.bool false])) = .agg [.sc u,.sc v]:=by
  cases hc:Bf D b 1 with
  | none=>exact⟨_,_,SW⟩
  | some x =>
    obtain⟨u,v,rfl⟩:=KE _ _ _ _ hc;exact⟨u,v,rfl⟩
 refine arc ⟨86,[(1,.pt 16 0 0),(3,.mp 60),(5,.B (decide ((1:Int)∈D)))],[(0,some ⟨1,AH f,0⟩),(16,some ⟨4,[rC N A (.rs 0 0 A.length)],0⟩),(60,some ⟨0,R,0⟩)],200⟩ ?_ ?_
 .obtain ⟨u,v,c2⟩:=c1
  simp[ha,a6,c2];exact AN [(0,0),(16,16),(60,60)] [] zz (by simp[AB,hR.conv'])
 refine arc ⟨86,[(1,.pt 16 0 0),(3,.mp 60),(22,.B (!decide ((1:Int)∈D)))],[(0,some ⟨1,AH f,0⟩),(16,some ⟨4,[rC N A (.rs 0 0 A.length)],0⟩),(60,some ⟨0,R,0⟩)],300⟩ ?_ ?_
 .simp
  exact AN [(0,0),(16,16),(60,60)] [] zz (by simp[AB,hR.conv'])
 refine AD _ rfl (λ h5=>?_) λ h5=>?_
 .have a7:(1:Int)∉D:=by simpa using h5
  refine ar [2] [(0,0)] [] 400 ?_;exact AO (Af.mk (.inr rfl) (false,f) ⟨rfl,(KN b0 hf hb.mem0 a7 b1).2⟩ (AG.k1 rfl zz zw))
 have a7:(1:Int)∈D:=by simpa using h5
 obtain⟨l,hl⟩:=hb.chain a7;have a8:=OI hl.way
 have b2:∀ s∈l,s.1<f.length:=λ s hs=>by
  obtain⟨i,hi,rfl⟩:=Qr.1 hs;have:=(hl.at_ i hi).1;omega
 have cl:0<l.length:=by
  cases c3:l with
  | nil=>rw[c3] at a8;cases a8
  | cons=>simp
 have co:l.length<=A.length:=by
  have:=Fs (a:=l.map λ s=>(s.1:Int)) (b:=(List.range A.length).map λ i:Nat=>(i:Int)) (by
   have:=hl.nodup;have e:(l.map λ s=>(s.1:Int))=(l.map (·.1)).map λ i:Nat=>(i:Int):=zz
   rw[e]
   exact JY (λ i j h=>by have h2:(i:Int)=j:=h;omega) this) λ x hx=>by
   obtain⟨s,hs,rfl⟩:=Qm.1 hx;exact Qm.2 ⟨s.1,QS.2 (by have:=b2 s hs;omega),rfl⟩
  rw[Qs,Qs,Uz] at this;exact this
 have b3:=λ j (hj:j<l.length)=>V0 hb hl hj;refine AE (arc ⟨86,[(1,.pt 16 0 0),(3,.mp 60),(6,.rs 61 0 0)],[(0,some ⟨1,AH f,0⟩),(16,some ⟨4,[rC N A (.rs 0 0 A.length)],0⟩),(60,some ⟨0,R,0⟩),(61,some ⟨2,[],0⟩)],400⟩ ?_ ?_)
 .simp
  refine Le.lst [(0,0),(16,16),(60,60)] [] [(61,2)] rfl zz zz zz zz zz zz zz (by simp[Up]) ?_
  simp[AB,hR.conv']
  exact⟨Av.rfl' (Qh _),Av.rfl' (Qh _),Av.rfl' (Qh _)⟩
 refine ar [1,3,6,7] [(0,0),(16,16),(60,60),(61,61)] [] 500 ?_;refine Bn (ι:=Int) (λ v=>⟨86,[(1,.pt 16 0 0),(6,.rs 61 0 l.length),(7,.I v)],[(0,some ⟨1,AH f,0⟩),(16,some ⟨4,[rC N A (.rs 0 0 A.length)],0⟩),(61,some ⟨2,(De l 0).map C0,0⟩)],600⟩) (λ v=>1<=v/\v<=1048576/\Hf A f l 0 v) ?_ λ v hv=>?_
 .refine arc ⟨86,[(1,.pt 16 0 0),(3,.mp 60),(6,.rs 61 0 0),(7,.I 1048576),(8,.I 1)],[(0,some ⟨1,AH f,0⟩),(16,some ⟨4,[rC N A (.rs 0 0 A.length)],0⟩),(60,some ⟨0,R,0⟩),(61,some ⟨2,[],0⟩)],600⟩ ?_ ?_
  .simp
   exact AN [(0,0),(16,16),(60,60),(61,61)] [] zz (by simp[AB,hR.conv'])
  refine AI ?_
  refine Ag (ι:=WY) (λ s=>⟨86,[(1,.pt 16 0 0),(3,.mp 60),(6,.rs 61 0 (l.length - s.j)),(7,.I s.v),(8,.I (Ck A 0 l s.j))],[(0,some ⟨1,AH f,0⟩),(16,some ⟨4,[rC N A (.rs 0 0 A.length)],0⟩),(60,some ⟨0,R,0⟩),(61,some ⟨2,(De l s.j).map C0,0⟩)],600⟩)
   (λ s=>s.j<=l.length/\1<=s.v/\s.v<=1048576/\Hf A f l s.j s.v) (λ s=>s.j) ⟨l.length,1048576⟩ ⟨Qg _,zz,zz,by simp[Hf]⟩ (AN [(0,0),(16,16),(60,60),(61,61)] [] (by simp[a8]) (by simp[AB,hR.conv',ZI])) ?_
  rintro⟨j,v⟩ ⟨hj,a9,ag,hd⟩
  simp only at hj a9 ag hd;refine AC (arc ⟨86,[(1,.pt 16 0 0),(3,.mp 60),(6,.rs 61 0 (l.length - j)),(7,.I v),(8,.I (Ck A 0 l j)),(24,.B (!decide (Ck A 0 l j=0)))],[(0,some ⟨1,AH f,0⟩),(16,some ⟨4,[rC N A (.rs 0 0 A.length)],0⟩),(60,some ⟨0,R,0⟩),(61,some ⟨2,(De l j).map C0,0⟩)],700⟩ ?_ ?_)
  .simp
   exact AN [(0,0),(16,16),(60,60),(61,61)] [] (by simp<;>exact An zt) (by simp[AB,hR.conv'])
  refine AD _ rfl (λ h7=>?_) λ h7=>?_
  .simp at h7
   obtain⟨i,rfl⟩:∃ i,j=i+1:=by
    cases j with
    | zero=>exact absurd rfl h7
    | succ i=>exact⟨i,rfl⟩
   have hi:i<l.length:=zy
   obtain⟨q1,q2,q3,q4,q5,q6⟩:=hl.at_ i hi;have ai:=hl.from_ i hi;have am:=b3 i hi;have hh:=ZH hi;have c4:=RX l (i+1);obtain⟨s,hs⟩:=AL (l[i])
   have hk:Ck A 0 l (i+1)=A0 A s:=by
    show A0 A (l.getD i (0,false))=_;rw[Qf,Qa hi,hs];rfl
   have b4:∀ v':Int,v'<=v->v'<=B5 A f s->Hf A f l i v':=λ v' h1 h2 t ht=>by
    rw[QX hi,<- hs] at ht;rcases Qv.1 ht with rfl | ht
    .exact h2
    .exact Int.le_trans h1 (hd t ht)
   rw[<- hs] at q1 q2 q3 q4 q5 q6 ai am hh;have an:=a4 s q1
   have b5:B5 A f s<=1048576:=by
    have h1:=hy.2 s.1 q1;have h2:=(a5 _ (HX q1)).2.2.2.2.2.2.2.2;unfold B5;split<;>omega
   rw[hk];obtain⟨k,c5⟩:=AL (A0 A s);obtain⟨rm,cb⟩:=AL (B5 A f s);obtain⟨W,hW⟩:=AL (De l (i+1));rw[<- c5] at q3 q4 q5 q6 am an ⊢;rw[<- cb] at q2 an b5 b4;rw[<- hW] at hh c4;have hm:=TW q1;have b6:l.length - (i+1)=W.length:=zy
   rw[b6,<- hW];refine AE (AI ?_);apply ax [1,3,6,7,9] [(0,0),(16,16),(60,60),(61,61)] [724] 800
   .simp [ha,am,Jj]
    rfl
   refine arc ⟨86,[(1,.pt 16 0 0),(3,.mp 60),(6,.rs 61 0 W.length),(7,.I v),(9,.pv (C0 s)),(10,.I rm)],[(0,some ⟨1,AH f,0⟩),(16,some ⟨4,[rC N A (.rs 0 0 A.length)],0⟩),(60,some ⟨0,R,0⟩),(61,some ⟨2,W.map C0,0⟩)],900⟩ ?_ ?_
   .simp
    refine G9 [0] an (by simp[AB,h9,a3]) fP ?_
    simp;exact AN [(0,0),(16,16),(60,60),(61,61)] [] zz (by simp[AB,hR.conv'])
   refine arc ⟨86,[(1,.pt 16 0 0),(3,.mp 60),(6,.rs 62 0 (W.length+1)),(7,.I (if rm<v then rm else v)),(9,.pv (C0 s))],[(0,some ⟨1,AH f,0⟩),(16,some ⟨4,[rC N A (.rs 0 0 A.length)],0⟩),(60,some ⟨0,R,0⟩),(62,some ⟨2,(W++[s]).map C0,0⟩)],1000⟩ ?_ ?_
   .have aq:∀ g:Bd->List AV,List.take W.length (List.map g W)=List.map g W:=λ g=>Qc zz
    simp[aq];exact⟨zy,zy,AN [(0,0),(16,16),(60,60),(924,62)] [] zz (by simp[AB,hR.conv'])⟩
   have ho:CY A s=if s.2 then (AR A s.1).t else (AR A s.1).f:=rfl
   have cp:(s.1:Int)<A.length:=zy
   apply ax [1,3,6,7,8,9] [(0,0),(16,16),(60,60),(62,62)] [] 1100
   .have he:A[s.1]=AR A s.1:=by rw[Qa q1] at hm;exact Qj hm
    simp[q1,he];rfl
   refine arc ⟨86,[(1,.pt 16 0 0),(3,.mp 60),(6,.rs 62 0 (W.length+1)),(7,.I (if rm<v then rm else v)),(8,.I (AR A s.1).f),(9,.pv (C0 s)),(50,.B s.2)],[(0,some ⟨1,AH f,0⟩),(16,some ⟨4,[rC N A (.rs 0 0 A.length)],0⟩),(60,some ⟨0,R,0⟩),(62,some ⟨2,(W++[s]).map C0,0⟩)],1200⟩ ?_ ?_
   .simp
    exact AN [(0,0),(16,16),(60,60),(62,62)] [] zz (by simp[AB,hR.conv'])
   have hz:l.length - i=W.length+1:=zy
   have a0:i<=l.length/\1<=(if rm<v then rm else v)/\(if rm<v then rm else v)<=1048576/\Hf A f l i (if rm<v then rm else v):=⟨zy,by split<;>omega,by split<;>omega,b4 _ (by split<;>omega) (by split<;>omega)⟩
   refine AD _ rfl (λ q=>?_) λ q=>?_
   .have he:A[s.1]=AR A s.1:=by rw[Qa q1] at hm;exact Qj hm
    rw[if_pos q] at ho;refine AU rfl ?_;simp[q1,he];exact⟨⟨i,if rm<v then rm else v⟩,a0,Nat.lt_succ_self i,AN [(0,0),(16,16),(60,60),(62,61)] [] (by simp[hz,<- ai,ho]) (by simp[AB,hR.conv',hh])⟩
   .rw [if_neg (by simp[q])] at ho
    exact AE ⟨⟨i,if rm<v then rm else v⟩,a0,Nat.lt_succ_self i,AN [(0,0),(16,16),(60,60),(62,61)] [] (by simp[hz,<- ai,ho]) (by simp[AB,hR.conv',hh])⟩
  simp at h7
  obtain rfl:j=0:=by
   cases j with
   | zero=>rfl
   | succ i =>
     have h2:=(hl.at_ i zy).2.2.1
     refine absurd ?_ h2;have h3:Ck A 0 l (i+1)=A0 A (l.getD i (0,false)):=rfl;rw[h3,Qf,Qa zy] at h7
     exact h7
  exact Aa (Ab ⟨v,⟨a9,ag,hd⟩,B4 [(0,0),(16,16),(61,61)] []⟩)
 obtain⟨a9,ag,hd⟩:=hv;have a1:∀ s∈l,v<=B5 A f s:=λ s hs=>hd s (by simpa using hs)
 obtain⟨cd,b7⟩:=hl.push b0 hf zy a1
 have au:=RX l 0;obtain⟨W,hW⟩:=AL (De l 0);rw[<- hW] at au ⊢;have au:l.length=W.length:=zy
 refine AC (arc ⟨86,[(1,.pt 16 0 0),(7,.I v),(59,.vs 2 false (W.map C0)),(60,.I W.length),(61,.I 0)],[(0,some ⟨1,AH f,0⟩),(16,some ⟨4,[rC N A (.rs 0 0 A.length)],0⟩)],700⟩ ?_ ?_)
 .have aq:∀ g:Bd->List AV,List.take W.length (List.map g W)=List.map g W:=λ g=>Qc zz
  simp;exact AN [(0,0),(16,16)] [61] (by simp[au,aq,AB]) zw
 refine AI (Ag (ι:=Nat) (λ i=>⟨86,[(1,.pt 16 0 0),(7,.I v),(59,.vs 2 false (W.map C0)),(60,.I W.length),(61,.I i)],[(0,some ⟨1,AH (EF v f l (l.length - i)),0⟩),(16,some ⟨4,[rC N A (.rs 0 0 A.length)],0⟩)],700⟩) (λ i=>i<=W.length) (λ i=>W.length - i) 0 (Qh _) (AN [(0,0),(16,16)] [] zz (by simp[AB,Tz])) ?_)
 intro i hi;have a2:(EF v f l (l.length - i)).length=A.length:=by rw[RT,a3]
 refine ar [1,7,59,60,61,62] [(0,0),(16,16)] [] 800 ?_;refine AC (AD _ rfl (λ hg=>?_) λ hg=>?_)
 .simp at hg
  have b8:=w6 (x:=(i:Int)+1);obtain⟨j,hj⟩:∃ j,l.length - i=j+1:=⟨l.length - i - 1,zy⟩
  have hq:j<l.length:=zy
  have bb:l.length - (i+1)=j:=zy
  have be:W[i]=l[j]:=by
   have:W[i]? = some l[j]:=by
    rw[hW];unfold De;rw[List.drop_zero,List.getElem?_reverse zy,Qa zy]
    congr 1
    congr 1
    omega
   rw[Qa hg] at this;exact Qj this
  rw[hj] at a2 ⊢;obtain⟨q1,q2,q3,q4,q5,q6⟩:=hl.at_ j hq;have h0:=TA (v:=v) (f:=f) j hq;have h4:=ST (v:=v) hl.nodup b2 j hq;have hr:=a1 _ (Qi hq);obtain⟨s,hs⟩:=AL (l[j]);rw[<- hs] at q1 h0 h4 hr be;obtain⟨F,hF⟩:=AL (EF v f l (j+1));rw[<- hF] at a2 h4 h0 ⊢;have ck:=hy.2 s.1 q1;have cq:=(a5 _ (HX q1)).2.2.2.2.2.2.2.2;obtain⟨w,hw⟩:=AL (f.getD s.1 0);have hu:s.1<F.length:=zy
  have bo:F[s.1]=w:=by
   have:F[s.1]? = some w:=by rw[hw,<- h4,Qf,Qa hu,QH]
   rw[Qa hu] at this;exact Qj this
  rw[<- hw] at ck;have h6:EF v f l j=F.set s.1 (w+if s.2 then -v else v):=by rw[h0];unfold FE;rw[h4,<- hw]
  have bp:B5 A f s=if s.2 then w else (AR A s.1).v - w:=by unfold B5;rw[<- hw]
  refine AE (AC (AI ?_));apply ax [1,7,13,59,60,61] [(0,0),(16,16)] [816] 900
  .simp [hg,be]
   rfl
  refine ar [1,7,13,59,60,61,66] [(0,0),(16,16)] [] 1000 ?_;have d0:(s.1:Int)<A.length:=zy
  refine AD _ rfl (λ q=>?_) λ q=>?_
  .rw [if_pos q] at h6 bp
   have av:IntKind.i64.wrap (w - v)=w + -v:=by rw[w6];omega
   refine AU rfl ?_;simp[q1,hu,bo,av,AZ];refine AU rfl ?_;simp;exact⟨i+1,zy,zy,AN [(0,0),(16,16)] [] (by simp[b8]) (by simp[AB,bb,h6])⟩
  .rw [if_neg (by simp[q])] at h6 bp
   have av:=w6 (x:=w+v);refine AU rfl ?_;simp[q1,hu,bo,av,AZ];refine AU rfl ?_;simp;exact⟨i+1,zy,zy,AN [(0,0),(16,16)] [] (by simp[b8]) (by simp[AB,bb,h6])⟩
 simp at hg;obtain rfl:i=W.length:=zy
 rw[show l.length - W.length=0 by omega]
 refine Aa (Ab (ar [2] [(0,0)] [] 900 ?_));exact AO (Af.mk (.inr rfl) (true,EF v f l 0) ⟨cd,by rw[b7];omega⟩ (AG.k1 rfl zz zw))
theorem AG.k2n {rs:List (Nat × Option (Bool × Nat))} {st:St} {vs:List AV} {res:AV} {e0 e1 e:AX} (i:Nat) (hi:2<=i) (h1:F2 st rs=some vs) (hw:Wk (conv [(0,0),(1,1),(i,2)] [] st.hp 4 (EE vs)) res) (h0:(st.hp 0).map (Ak [(0,0),(1,1),(i,2)] [] st.hp 4)=some e0) (h2:(st.hp 1).map (Ak [(0,0),(1,1),(i,2)] [] st.hp 4)=some e1) (he:(st.hp i).map (Ak [(0,0),(1,1),(i,2)] [] st.hp 4)=some e):AG rs 2 st res [some e0,some e1,some e]:=by
 have e2:List.range 2++[i]=[0,1,i]:=rfl;refine⟨vs,h1,[i],[],?_,by simpa using hi,zz,?_,?_⟩
 .rw [e2]
  simp;omega
 .rw [e2]
  exact hw
 .rw [e2]
  show [_,_,_]=_;have q:Option.map (Ak (([0,1,i]:List Nat).zipIdx) [] st.hp 4) (st.hp 0)=some e0:=h0;have u:Option.map (Ak (([0,1,i]:List Nat).zipIdx) [] st.hp 4) (st.hp 1)=some e1:=h2;have h3:Option.map (Ak (([0,1,i]:List Nat).zipIdx) [] st.hp 4) (st.hp i)=some e:=he;simp only[List.map_cons,UT,q,u,h3]
theorem AG.k2 {rs:List (Nat × Option (Bool × Nat))} {st:St} {vs:List AV} {res:AV} {e0 e1:AX} (h1:F2 st rs=some vs) (hw:Wk (conv [(0,0),(1,1)] [] st.hp 4 (EE vs)) res) (h0:(st.hp 0).map (Ak [(0,0),(1,1)] [] st.hp 4)=some e0) (h2:(st.hp 1).map (Ak [(0,0),(1,1)] [] st.hp 4)=some e1):AG rs 2 st res [some e0,some e1] :=
 ⟨vs,h1,[],[],zx,zz,zz,hw,by
  show [_,_]=_;have q:Option.map (Ak ((List.range 2++[]:List Nat).zipIdx) [] st.hp 4) (st.hp 0)=some e0:=h0;have u:Option.map (Ak ((List.range 2++[]:List Nat).zipIdx) [] st.hp 4) (st.hp 1)=some e1:=h2
  simp only[q,u]⟩
theorem gU {N:Nat} {D b:List Int} {R:List (List AV)} (hR:Cj R (Bf D b)) (k:Int):AK 150 [.I k,.pt 0 0 0] [⟨1,[[.mp 1]],0⟩,⟨0,R,0⟩] (.B (decide (k∈D))) [some ⟨1,[[.mp 1]],0⟩,some ⟨0,R,0⟩]:=by
 refine sA.s.ai ?_;have q:=hR.is.find;have h0:=Mq D b k
 have h1:∃ u v,(Bf D b k).getD (Ct (Value.agg #[Value.int IntKind.i64 0,Value.bool false])) = .agg [.sc u,.sc v]:=by
  cases hc:Bf D b k with
  | none=>exact⟨_,_,SW⟩
  | some x =>
    obtain⟨u,v,rfl⟩:=KE _ _ _ _ hc;exact⟨u,v,rfl⟩
 obtain⟨u,v,h2⟩:=h1;refine rk (s:=?s1) [0,1] [0,1] rfl ?o1 ?q1
 case o1=>simp;rfl
 apply ax [5] [(0,0),(1,1)] [] 200
 .simp [q,h0,h2]
  rfl
 refine arc ⟨13,[(3,.B (decide (k∈D)))],[(0,some ⟨1,[[.mp 1]],0⟩),(1,some ⟨0,R,0⟩)],300⟩ ?_ ?_
 .simp
  exact AN [(0,0),(1,1)] [] zz (by simp[hR.conv'])
 exact BG (AG.k2 rfl zz zz (by simp[hR.conv']))
theorem iO {D b:List Int} {R:List (List AV)} (hR:Cj R (Bf D b)) (N:Nat) (hN:N<=1000000) :
  AK 149 [.I N,.fn (.func 150) [] [.pt 0 0 0]] [⟨1,[[.mp 1]],0⟩,⟨0,R,0⟩] (.rs 2 0 (Cb D N).length) [some ⟨1,[[.mp 1]],0⟩,some ⟨0,R,0⟩,some ⟨1,AH (Cb D N),0⟩]:=by
 refine RH.s.ai ?_;refine ar [0,1] [(0,0),(1,1)] [] 24 ?_;refine arc ⟨20,[(0,.I N),(1,.fn (.func 150) [] [.pt 0 0 0]),(5,.rs 50 0 0)],[(0,some ⟨1,[[.mp 1]],0⟩),(1,some ⟨0,R,0⟩),(50,some ⟨1,[],0⟩)],100⟩ ?_ ?_
 .simp
  refine Le.lst [(0,0),(1,1)] [] [(50,1)] rfl zz zz zz zz zz zz zz (by simp[Up,conv]) ?_
  simp[hR.conv']
  exact⟨Av.rfl' (Qh _),Av.rfl' (Qh _)⟩
 refine AC (ar [1,5,7,8] [(0,0),(1,1),(50,50)] [] 200 ?_);refine AI (Ag (ι:=Nat) (λ k=>⟨20,[(1,.fn (.func 150) [] [.pt 0 0 0]),(5,.rs 50 0 (Cb D k).length),(7,.I N),(8,.I k)],[(0,some ⟨1,[[.mp 1]],0⟩),(1,some ⟨0,R,0⟩),(50,some ⟨1,AH (Cb D k),0⟩)],200⟩) (λ k=>k<=N) (λ k=>N - k) 0 (Qh _) (AN [(0,0),(1,1),(50,50)] [] (by simp[conv,Cb]) (by simp[hR.conv',Cb])) ?_)
 intro k hk;have h0:=NJ D k;refine ar [1,5,7,8,9] [(0,0),(1,1),(50,50)] [] 300 ?_;refine AC (AD _ rfl (λ h=>?_) λ h=>?_)
 .simp at h
  have u:=w6 (x:=(k:Int)+1);have q:=Ng D k;refine AE (BO ⟨20,[(1,.fn (.func 150) [] [.pt 0 0 0]),(5,.rs 50 0 (Cb D (k+1)).length),(7,.I N),(8,.I k)],[(0,some ⟨1,[[.mp 1]],0⟩),(1,some ⟨0,R,0⟩),(50,some ⟨1,AH (Cb D (k+1)),0⟩)],1000⟩ ?_ ?_)
  .rw [q]
   obtain⟨W,hW⟩:=AL (Cb D k);rw[<- hW] at h0 ⊢;refine AI (arc ⟨20,[(1,.fn (.func 150) [] [.pt 0 0 0]),(5,.rs 50 0 W.length),(6,.I k),(7,.I N),(8,.I k)],[(0,some ⟨1,[[.mp 1]],0⟩),(1,some ⟨0,R,0⟩),(50,some ⟨1,AH W,0⟩)],400⟩ ?_ ?_)
   .simp
    exact AN [(0,0),(1,1),(50,50)] [] (by simp[conv]) (by simp[hR.conv',AB])
   refine arc ⟨20,[(1,.fn (.func 150) [] [.pt 0 0 0]),(5,.rs 50 0 W.length),(6,.I k),(7,.I N),(8,.I k),(13,.B (decide ((k:Int)∈D)))],[(0,some ⟨1,[[.mp 1]],0⟩),(1,some ⟨0,R,0⟩),(50,some ⟨1,AH W,0⟩)],500⟩ ?_ ?_
   .simp
    refine Jm (i:=0) (j:=1) zx rfl rfl zz (by simp[hR.conv']) (gU (N:=N) hR k) zz zz ?_
    simp[hR.conv']
    exact AN [(0,0),(1,1),(50,50)] [] (by simp[conv]) (by simp[hR.conv',AB])
   refine AD _ rfl (λ h5=>?_) λ h5=>?_
   .rw [Qb] at h5
    rw[if_pos h5];have h1:∀ g:Int->List AV,List.take W.length (List.map g W)=List.map g W:=λ g=>Qc zz
    refine AU rfl ?_;simp[h1];exact⟨zy,zy,AN [(0,0),(1,1),(524,50)] [] (by simp[conv]) (by simp[hR.conv',AB])⟩
   .rw [Qd] at h5
    rw[if_neg h5,QK];exact AE (AN [(0,0),(1,1),(50,50)] [] (by simp[conv]) (by simp[hR.conv',AB]))
  refine AU rfl ?_;simp[u];exact⟨k+1,zy,zy,AN [(0,0),(1,1),(50,50)] [] (by simp[conv,u]) (by simp[hR.conv',AB])⟩
 simp at h;obtain rfl:k=N:=zy
 refine Aa (Ab (arc ⟨20,[(4,.rs 50 0 (Cb D k).length)],[(0,some ⟨1,[[.mp 1]],0⟩),(1,some ⟨0,R,0⟩),(50,some ⟨1,AH (Cb D k),0⟩)],400⟩ ?_ ?_))
 .simp
  exact AN [(0,0),(1,1),(50,50)] [] zz (by simp[hR.conv',AB])
 exact BG (AG.k2n 50 zy rfl zz zz (by simp[hR.conv']) zw)
def DT (L:List Int) (a:Nat):Nat->List Int × Nat
 | 0=>([],a)
 | m+1=>(if (DK L (DT L a m).2 3).1=0 then (DT L a m).1++[(m:Int)] else (DT L a m).1,(DK L (DT L a m).2 3).2)
theorem Ko {L:List Int} {a:Nat} (ha:a<=L.length):∀ m,(DT L a m).2<=L.length
 | 0=>ha
 | m+1=>LU (Ko ha m)
theorem LL {L:List Int} {a:Nat}:∀ m,(DT L a m).1.length<=m
 | 0=>Qg _
 | m+1=>by
   have:=LL (L:=L) (a:=a) m;unfold DT;simp only;split
   .rw [Qe];simp;omega
   .omega
theorem AG.k1n {rs:List (Nat × Option (Bool × Nat))} {st:St} {vs:List AV} {res:AV} {e0 e:AX} (i:Nat) (hi:1<=i) (h1:F2 st rs=some vs) (hw:Wk (conv [(0,0),(i,1)] [] st.hp 4 (EE vs)) res) (h0:(st.hp 0).map (Ak [(0,0),(i,1)] [] st.hp 4)=some e0) (he:(st.hp i).map (Ak [(0,0),(i,1)] [] st.hp 4)=some e):AG rs 1 st res [some e0,some e] :=
 ⟨vs,h1,[i],[],by simp[List.range,List.range.loop];omega,by simpa using hi,zz,by simpa [List.range,List.range.loop] using hw,by simpa [List.range,List.range.loop] using ⟨by simpa using h0,by simpa using he⟩⟩
theorem VW (L:List Int) (a N:Nat) (hl:L.length<=400) (ha:a<=L.length) (hN:N<=1000):AK 24 [.pt 0 0 0,.I N] [AS L a] (.rs 1 0 (DT L a N).1.length) [some (AS L (DT L a N).2),some ⟨1,AH (DT L a N).1,0⟩]:=by
 refine Yt.s.acalls (AW rfl) (AW rfl) zz ?_
 show AQ _ 1 _ _ ⟨20,[(0,.pt 0 0 0),(1,.I N)],[(0,some (AS L a))],16⟩;refine AC (Ad ?_);refine AC (Ad ?_);refine AC (AC (Ad ?_));refine AI (Ag (ι:=Nat) (λ m=>⟨20,[(0,.pt 0 0 0),(1,.I N),(5,.rs 16 0 (DT L a m).1.length),(6,.I m)],[(0,some (AS L (DT L a m).2)),(16,some ⟨1,AH (DT L a m).1,0⟩)],40⟩) (λ m=>m<=N) (λ m=>N - m) 0 (Qh _) ?_ ?_)
 .refine Le.lst [(0,0)] [] [(16,1)] rfl zz zz zz zz zz zz zz (by simp[Up,DT]) λ p hp e' u=>?_
  simp[DT] at hp;rcases hp with rfl | rfl
  .cases u
   exact .inl ⟨(0,0),zz,rfl,_,rfl,Av.eq zw zz⟩
  .cases u
   exact .inr ⟨zz,zz,rfl⟩
 intro m hm;have h0:=Ko (L:=L) ha m;have h1:=LL (L:=L) (a:=a) m;have h3:=YY L (DT L a m).2 3 hl h0 zy
 obtain⟨X,hX⟩:=AL ((DT L a m).1);obtain⟨b,hb⟩:=AL ((DT L a m).2);have q:DT L a (m+1)=(if (DK L b 3).1=0 then X++[(m:Int)] else X,(DK L b 3).2):=by rw[hX,hb];rfl
 rw[<- hX] at h1;rw[<- hb] at h0 h3;rw[<- hX,<- hb];refine AC (arc ⟨20,[(0,.pt 0 0 0),(1,.I N),(5,.rs 16 0 X.length),(6,.I m),(9,.B (decide (m<N)))],[(0,some (AS L b)),(16,some ⟨1,AH X,0⟩)],64⟩ ?_ ?_)
 .simp
  exact BD
 refine AD _ rfl (λ h=>AE ?_) λ h=>Aa (Ab ?_)
 .simp only[Qb] at h
  have h4:=wq (k:=m);refine BO ⟨20,[(0,.pt 0 0 0),(1,.I N),(5,.rs 16 0 (DT L a (m+1)).1.length),(6,.I m)],[(0,some (AS L (DT L a (m+1)).2)),(16,some ⟨1,AH (DT L a (m+1)).1,0⟩)],64⟩ ?_ ?_
  .refine AI (arc ⟨20,[(0,.pt 0 0 0),(1,.I N),(5,.rs 16 0 X.length),(6,.I m),(14,.B (decide ((DK L b 3).1=0)))],[(0,some (AS L (DK L b 3).2)),(16,some ⟨1,AH X,0⟩)],88⟩ ?_ ?_)
   .simp
    refine BX (i:=0) rfl (e':=AS L b) zw h3 zz zz ?_
    simp[AB];exact Le.keep rfl (Qg _) (by simp<;>rw[Qk]<;>simp) zz
   refine AD _ rfl (λ h2=>?_) λ h2=>AE ?_
   .simp only[Qb] at h2
    rw[if_pos h2] at q;rw[q];refine AU rfl ?_;simp;refine⟨zy,zy,?_⟩
    refine Le.ents [(0,0),(112,16)] [] rfl zz zz zz zz zz zz λ p hp=>?_
    simp at hp;rcases hp with rfl | rfl
    .exact ⟨0,_,_,rfl,zz,rfl,Av.eq zw zz⟩
    .exact ⟨112,_,_,rfl,zz,rfl,Av.eq (by simp[AB];try rw[Qc zz]) zz⟩
   .simp only[Qd] at h2
    rw[if_neg h2] at q;rw[q];show Le 1 _ ⟨20,[(0,.pt 0 0 0),(1,.I N),(5,.rs 16 0 X.length),(6,.I m)],[(0,some (AS L (DK L b 3).2)),(16,some ⟨1,AH X,0⟩)],64⟩;refine Le.ents [(0,0),(16,16)] [] rfl zz zz zz zz zz zz λ p hp=>?_
    simp at hp;rcases hp with rfl | rfl
    .exact ⟨0,_,_,rfl,zz,rfl,Av.eq zw zz⟩
    .exact ⟨16,_,_,rfl,zz,rfl,Av.eq zw zz⟩
  refine AU rfl ?_;simp[h4];refine⟨m+1,zy,zy,?_⟩
  refine Le.ents [(0,0),(16,16)] [] rfl zz zz zz zz zz zz λ p hp=>?_
  simp at hp;rcases hp with rfl | rfl
  .exact ⟨0,_,_,rfl,zz,rfl,Av.eq zw zz⟩
  .exact ⟨16,_,_,rfl,zz,rfl,Av.eq zw zz⟩
 simp only[Qd] at h;obtain rfl:m=N:=zy
 refine AC (Ad ?_);refine AO ?_;rw[<- hX,<- hb];exact⟨.inr rfl,AG.k1n 16 zz rfl zz zw zw⟩
@[simp] theorem m9 {i:Nat}:cellsOf (.mp i)=some [.mp i]:=(rfl)
theorem Ws (N:Nat) (A:List Ed) (f0:List Int) (hn:C3 ⟨N,A⟩) (h1:BY N A f0) :
  ∃ f:List Int,(BY N A f /\ ∀ f',BY N A f'->Al A f'<=Al A f)/\AK 211 [eN ⟨N,A⟩,AA f0] [] (.rs 0 0 A.length) [some ⟨1,AH f,0⟩]:=by
 refine wH.s.acallsX (args:=[eN ⟨N,A⟩,AA f0]) (hs:=[]) (λ f=>.rs 0 0 A.length) (λ f=>[some ⟨1,AH f,0⟩]) (λ f:List Int=>BY N A f /\ ∀ f',BY N A f'->Al A f'<=Al A f) (AW rfl) (AW rfl) (λ _=>zz) ?_
 show AQ _ 0 _ _ ⟨14,[(0,eN ⟨N,A⟩),(1,AA f0)],[],16⟩;have h3:=I0 hn;have h5:=h1.fit.len;have u:=λ (f:List Int)=>RK N A f A.length hn;have h0:=λ (f:List Int) (hf:BY N A f)=>aT N A f hn hf;have h6:=hn.2.2.1;simp only at h6;have h2:=TL f0 zy
 rw[h5] at h2;have h7:∀ g:Int->List AV,List.take A.length (List.map g f0)=List.map g f0:=λ g=>Qc zu
 refine rs [1,2] [] [16] ?_;apply ay [5] [(48,48),(64,64)] [] 80
 .simp
  refine C4 h2 ?_;simp;refine BX (i:=48) rfl zw (u f0) zz zz ?_
  simp;exact⟨rfl,rfl⟩
 refine AC (AI (Ag (ι:=List Int) (λ f=>⟨14,[(5,.pt 64 0 0)],[(48,some ⟨1,AH f,0⟩),(64,some ⟨4,[rC N A (.rs 48 0 A.length)],0⟩)],80⟩) (λ f=>BY N A f) (λ f=>(Bj (λ x=>decide (x=0)) A - Al A f).toNat) f0 h1 (B4 [(48,48),(64,64)] []) ?_));intro f hf;obtain⟨⟨c,f'⟩,hx,q⟩:=h0 f hf;simp only at hx q;refine AC ?_;apply ax [5,11] [(48,48),(64,64)] [] 100
 .simp
  refine BX (i:=48) rfl zw q zz zz ?_
  simp;rfl
 refine AD _ rfl (λ h4=>?_) λ h4=>?_
 .have hc:c=true:=h4
  subst hc;simp only[UQ] at hx;have h8:=JV (S:=λ x=>decide (x=0)) h3 hx.1 zz zz
  exact AE (AI (AE ⟨f',hx.1,by have:=hx.2;omega,B4 [(48,48),(64,64)] []⟩))
 have hc:c=false:=h4;subst hc;simp only[Uh,Uu] at hx;obtain⟨rfl,hm⟩:=hx;refine Aa (Ab (ar [4] [(48,48)] [] 200 ?_));exact AO (Af.mk (.inr rfl) f' ⟨hf,hm⟩ (AG.out [48] [] rfl zz zz zz zw))
theorem cW (N:Nat) (A:List Ed) (hn:C3 ⟨N,A⟩) :
  ∃ f:List Int,(BY N A f /\ ∀ f',BY N A f'->Al A f'<=Al A f)/\AK 145 [eN ⟨N,A⟩] [] (.tup [.rs 0 0 A.length,.I 0]) [some ⟨1,AH f,0⟩]:=by
 have u:=I0 hn;obtain⟨f,hf,hg⟩:=Ws N A _ hn (LV u);refine⟨f,hf,?_⟩;have q:=R5 ⟨N,A⟩ (by have:=hn.2.2.1;simp only at this ⊢;omega)
 rw[if_pos hn] at q;have h0:=hn.2.2.1;simp only at h0;have h1:=hf.1.fit.len;refine uG.s.ai ?_;refine rs [1] [] [16] ?_;refine AC (rx (s:=?s2) [1,4] [] [] rfl ?o2 ?q2)
 case o2=>simp;refine AT q zz ?_;simp;rfl
 refine rs [1,4,8] [] [] ?_;refine AD _ rfl (λ h4=>by cases h4) λ h4=>?_
 refine AE ?_;apply ay [2,3] [(120,48)] [] 300
 .simp
  refine⟨zy,zy,?_⟩
  refine KV [112] hg (by simp[List.map_const']) (.rs _ _ _) OP ?_
  simp;exact⟨rfl,rfl⟩
 exact CD [48] []
theorem aI (N:Nat) (A:List Ed) (f:List Int) (hn:C3 ⟨N,A⟩) (hf:BY N A f) (hm:∀ f',BY N A f'->Al A f'<=Al A f) :
  AK 92 [eN ⟨N,A⟩,.rs 0 0 A.length] [⟨1,AH f,0⟩] (.rs 1 0 (FM N A).length) [some ⟨1,AH f,0⟩,some ⟨1,AH (FM N A),0⟩]:=by
 have h2:=I0 hn;obtain⟨⟨D,b,R⟩,⟨hb,h3,hR⟩,q⟩:=Ra N A f hn hf.fit;simp only at hb h3 hR q;have u:=RK N A f A.length hn;have h0:Cb D N=FM N A:=Ti h2 hf hm hb.tree hb.mem0 (Rl h2 hf hm hb) h3;have h4:=iO hR N (by have:=hn.2.1;simp only at this;omega)
 rw[h0] at h4;have h5:=hf.fit.len;have h1:∀ g:Int->List AV,List.take A.length (List.map g f)=List.map g f:=λ g=>Qc zu
 refine wQ.s.ai ?_;refine ar [1,2] [(0,0)] [16] 32 ?_;refine arc ⟨14,[(2,.pv (nC ⟨N,A⟩)),(5,.pt 64 0 0)],[(0,some ⟨1,AH f,0⟩),(64,some ⟨1,[[.mp 56]],0⟩),(56,some ⟨0,R,0⟩)],100⟩ ?_ ?_
 .simp
  refine BX (i:=0) rfl zw u zz zz ?_
  simp;refine KV [0] q (by simp[AB,h1,h5]) (.mp _) (hR.plain _ _) ?_
  simp;exact AN [(0,0),(64,64),(56,56)] [] zz (by simp[AB,hR.conv'])
 refine arc ⟨14,[(4,.rs 57 0 (FM N A).length)],[(0,some ⟨1,AH f,0⟩),(57,some ⟨1,AH (FM N A),0⟩)],200⟩ ?_ ?_
 .simp
  refine Jm (i:=64) (j:=56) zx rfl rfl zz (by simp[hR.conv']) h4 zz (by simp[conv]) ?_
  simp;exact B4 [(0,0),(124,57)] []
 exact BG (AG.k1n 57 zy rfl zz zw zw)
theorem Xp (l:List Int) (hl:l.length<=1099511627776):AK 144 [AA l] [] (.rs 0 0 l.length) [some ⟨1,AH (HL l),0⟩]:=by
 refine v8.s.ai ?_;have hs:AK 208 [Ho l] [] (.rs 0 0 l.length) [some ⟨1,AH (HL l),0⟩]:=cT l hl;refine rs [0] [] [] ?_;apply ax [2] [(40,50)] [] 100
 .simp
  refine Ay (gT l) ?_;simp;refine Cu hs (by simp[conv]) ?_
  simp;rfl
 exact CD [50] []
theorem Wy (g:Gr) (p:BV) (hg:Ah g) (hN:g.size<20∨(Aj (Ao g p.lv) p.seeds).length<20) (hs:p.seeds.length<=1099511627776):AK 88 [eG g,eP p] [] (.rs 0 0 (Aj (Ao g p.lv) p.seeds).length) [some ⟨1,AH (Aj (Ao g p.lv) p.seeds),0⟩]:=by
 refine tZ.s.ai ?_;have h0:=hg.edges_le;have h1:=hg.gone_le;have h2:=hg.1.2.1;have u:=Nh g p.lv zy zy
 have q:=cV (g:=Ao g p.lv) (S:=p.seeds) (hg.level p.lv) hN hs;obtain⟨o,ho⟩:=AL (Aj (Ao g p.lv) p.seeds);rw[<- ho] at q ⊢;refine rs [2,3] [] [16,24] ?_;apply ay [4] [(88,50)] [] 200
 .simp
  refine Ay u ?_;simp;refine C4 q ?_;simp;exact⟨rfl,rfl⟩
 exact CD [50] []
theorem dZ (l:List Int) (x:Int) (hl:l.length<=1000000):AK 89 [AA l,.I x] [] (.rs 0 0 (l.length+1)) [some ⟨1,AH (l++[x]),0⟩]:=by
 refine rZ.s.ai ?_;refine rs [0,1] [] [] ?_;refine arc ⟨14,[(4,.rs 50 0 (l.length+1))],[(50,some ⟨1,AH (l++[x]),0⟩)],200⟩ ?_ ?_
 .have q:∀ {id:Nat} {h:Nat->Option AX} {K:AV->List Nat->List (Nat × Option AX)->Prop},K (.vs 1 true (l.map λ n=>[AV.I n])) [] []->aK Tryz.prog 0 id (.slc 1 false true true) [AA l,.I (l.length:Nat),.I (l.length:Nat)] h K:=λ hK=>by
   rw[GS];refine⟨0,l.length,l.length,l.length,zz,Qh _,rfl,zz,zz,zz,Qg _,λ _=>rfl,rfl,?_⟩
   rw[List.drop_zero,Nat.sub_zero,Qc zz]
   exact hK
  simp;refine q ?_;simp;exact⟨zy,zy,B4 [(88,50)] []⟩
 exact CD [50] []
theorem RI (g:Gr) (p:BV) (ks:List Int) (hg:Ah g) (hp:CG g.size p) (hk:ks.Nodup) (hr:∀ k∈ks,0<=k/\k<g.size) (hs:p.seeds.length<=64):AK 90 [eG g,eP p,AA ks] [] (eN ⟨Bb g,A7 g p (Az ks)⟩) []:=by
 refine sN.s.ai ?_;have h3:=hg.1.2.1;have h0:∀ k∈ks,0<=k/\k<64:=λ k h=>by have:=hr k h;omega
 have h1:=Pj hk h0;have h2:=Kh ks;have q:=Xp ks zy
 rw[Nf hk h0,<- h1] at q;have u:=gZ g p (Az ks) hg hp (Nd hr) hs h2;rw[<- Lq hg,show DW g p (BB g p) (Az ks)=A7 g p (Az ks) from rfl] at u
 obtain⟨J,hJ⟩:=AL (Az ks);obtain⟨A,hA⟩:=AL (A7 g p (Az ks));rw[<- hA] at u ⊢;rw[<- hJ] at u q;refine rs [2,3,4,6] [32] [16,24] ?_;apply ay [6,7] [(32,32)] [104] 300
 .simp
  refine C4 q ?_;simp;refine YW [64] zz u (by simp[AB,CI]) ?_
  simp;exact⟨rfl,rfl⟩
 apply ax [6] [(32,32)] [] 400
 .simp [AZ]
  rfl
 exact CD [] [32]
def W6 (N:Nat) (A:List Ed) (f:List Int):Prop:=BY N A f /\ ∀ f',BY N A f'->Al A f'<=Al A f
theorem dR (N:Nat) (A:List Ed) (k:Int) (hn:C3 ⟨N,A⟩) :
  ∃ f:List Int,W6 N A f/\AK 91 [eN ⟨N,A⟩,.I k] [] (.tup [.rs 0 0 A.length,.B (decide (Al A f=k))]) [some ⟨1,AH f,0⟩]:=by
 obtain⟨f,hf,h0⟩:=cW N A hn;refine⟨f,hf,?_⟩;have h1:=hf.1.fit.len;have h2:=hn.2.2.1;simp only at h2;have q:=Vz (f:=f) hn zy
 rw[if_pos hf.1] at q;have u:∀ g:Int->List AV,List.take A.length (List.map g f)=List.map g f:=λ g=>Qc zu
 refine wN.s.ai ?_;refine rs [1,2] [] [16] ?_;apply ax [1,2,6] [(48,50)] [] 100
 .simp
  refine C4 h0 ?_;simp;rfl
 refine arc ⟨19,[(4,.rs 50 0 A.length),(5,.B (decide (Al A f=k)))],[(50,some ⟨1,AH f,0⟩)],200⟩ ?_ ?_
 .simp
  refine G9 [50] q (by simp[AB,u,h1]) (.sc _) ?_
  simp;exact AN [(50,50)] [] (by simp<;>exact An zt) zw
 exact CD [50] []
theorem Sr (g:Gr) (p:BV):∀ (n:Nat) (o:List Int),o.length=n->(DD g p o).length<=n
 | 0,o,h=>by
   obtain rfl:=Qy h;exact Qg _
 | n+1,o,h=>by
   have q:o≠[]:=λ e=>by rw[e] at h;cases h
   rw[<- List.dropLast_concat_getLast q];have ih:=Sr g p n o.dropLast (by rw[List.length_dropLast,h];rfl)
   by_cases hc:B6 g p (Az (Ai g p o.dropLast++[o.getLast q]))
   .rw [No hc];omega
   .rw [OT hc,Qe,Q6];omega
theorem i8 (N:Nat) (A:List Ed):(FM N A).length<=N:=by
 unfold FM;exact QI (QO ..) zz
theorem Xy (g:Gr) (p:BV) (hg:Ah g) (hp:CG g.size p) (hs:p.seeds.length<=64) (hN:g.size<20∨(Aj (Ao g p.lv) p.seeds).length<20) :
  ∃ f:List Int,Jk g p (Az (Ai g p (Aj (Ao g p.lv) p.seeds))) f /\
    AK 46 [eG g,eP p] [] (.tup [Iz (Ai g p (Aj (Ao g p.lv) p.seeds)) f (DD g p (Aj (Ao g p.lv) p.seeds)),.I 0]) []:=by
 have bs:=hg.1.1;have be:=hg.1.2.1;have bt:=hg.edges_le;have c0:=hg.gone_le;have hm:=O0 g p zy zy zy (by have:=hp.2.2.2.1;omega)
 rw[if_pos hg,if_pos hp] at hm;have hq:=Wy g p hg hN zy
 obtain⟨o,ho⟩:=AL (Aj (Ao g p.lv) p.seeds);have ht:∀ k∈o,0<=k/\k<g.size:=λ k hk=>by rw[ho] at hk;have h:=KF hk;exact h
 have hu:o.Nodup:=by rw[ho];exact IY _ _
 rw[<- ho] at hq ⊢
 have av:o.length<=64:=by
  have:=Fs (b:=(List.range g.size.toNat).map λ i:Nat=>(i:Int)) hu λ x hx=>by
   have:=ht x hx;exact Qm.2 ⟨x.toNat,QS.2 zy,zy⟩
  simp at this;omega
 have h64:∀ a:List Int,(∀ x∈a,0<=x/\x<g.size) -> ∀ x∈a,0<=x/\x<64:=λ a h x hx=>by have:=h x hx;omega
 have a6:∀ a:List Int,(∀ x∈a,0<=x/\x<g.size)->C3 ⟨Bb g,A7 g p (Az a)⟩:=λ a h=>Oe hg hp (MZ (Nd h)) hs (Kh a)
 have he:∀ a:List Int,a.Nodup->(∀ x∈a,0<=x/\x<g.size) -> ∃ f,Jk g p (Az a) f/\AK 91 [eN ⟨Bb g,A7 g p (Az a)⟩,.I (a.length:Nat)] [] (.tup [.rs 0 0 (A7 g p (Az a)).length,.B (@decide (B6 g p (Az a)) (Classical.propDecidable _))]) [some ⟨1,AH f,0⟩]:=λ a h1 h2=>by
  obtain⟨f,hf,hc⟩:=dR _ _ (a.length:Nat) (a6 a h2);have a7:=I9 hf.1 hf.2;refine⟨f,⟨hf.1,hf.2,a7.symm⟩,?_⟩;have b0:=Pj h1 (h64 a h2)
  have:decide (Al (A7 g p (Az a)) f=(a.length:Nat)) = @decide (B6 g p (Az a)) (Classical.propDecidable _):=by
   rw[UZ];unfold B6;rw[a7,b0]
  rw[this] at hc;exact hc
 have h6:∀ i,(Ai g p (o.take i)).Nodup:=λ i=>(hu.sublist ((Hi _ _ rfl).trans (List.take_sublist _ _)));have h7:∀ i,∀ x∈Ai g p (o.take i),0<=x/\x<g.size:=λ i x hx=>ht x (QQ (J1 hx));obtain⟨f,hf,h8⟩:=he (Ai g p o) (by have:=h6 o.length;rwa [QP] at this) (by have:=h7 o.length;rwa [QP] at this)
 refine⟨f,hf,?_⟩;have hv:=RI g p (Ai g p o) hg hp (by have:=h6 o.length;rwa [QP] at this) (by have:=h7 o.length;rwa [QP] at this) hs
 have hw:=hf.ok.fit.len;refine t7.s.ai ?_;refine rs [2,3,4] [32] [16,24] ?_;refine AC (rx (s:=?s2) [2,3,4,6] [32] [] rfl ?o2 ?q2)
 case o2=>simp;refine AT hm zz ?_;simp;rfl
 refine rs [2,3,4,18] [32] [] ?_;refine AD _ rfl (λ h=>by cases h) λ _=>?_
 refine AE (ar [2,3,4,7] [(32,32),(96,40)] [] 200 ?_);refine AC (arc ⟨72,[(2,.pv (gC g)),(3,.pv (pC p)),(4,.pt 32 0 0),(7,.pt 40 0 0),(23,AA o),(24,.I o.length),(25,.I 0)],[(32,some ⟨3,[[.nilS,.nilS,.nilS]],0⟩),(40,some ⟨3,[[.nilS,.nilS,.nilS]],0⟩)],400⟩ ?_ ?_)
 .simp
  refine C4 hq ?_;simp;exact AN [(32,32),(40,40)] [216] (by simp[AB,CI])
 refine AI ?_;have b1:DD g p []=[]:=rfl
 refine Ag (ι:=Nat) (λ i=>⟨72,[(2,.pv (gC g)),(3,.pv (pC p)),(4,.pt 32 0 0),(7,.pt 40 0 0),(23,AA o),(24,.I o.length),(25,.I i)],
   [(32,some ⟨3,[[.nilS,.nilS,.nilS]],0⟩),(40,some ⟨3,[[AA (Ai g p (o.take i)),.nilS,.rs 42 0 (DD g p (o.take i)).length]],0⟩),(42,some ⟨2,EV (DD g p (o.take i)),0⟩)],500⟩)
  (λ i=>i<=o.length) (λ i=>o.length - i) 0 (Qh _)
  (Le.lst [(32,32),(40,40)] [] [(42,2)] rfl zz zz zz zz zz zz zz (by simp[Up]) (by simp[MJ,b1,AB];exact⟨Av.rfl' zz,Av.row rfl zy (by simp[El,Up,Wk.refl];exact Wk.nil _ _)⟩)) ?_
 intro i hi;have a8:=h6 i;have a9:=h7 i;have b2:(Ai g p (o.take i)).length<=64:=QI (PI _) (QI (List.length_take_le' i o) av);have b3:=Sr g p _ (o.take i) rfl;have bo:=List.length_take_le' i o;have h0:=λ k=>IB (g:=g) (p:=p) (o:=o.take i) (k:=k);have hh:=λ k=>Jc (g:=g) (p:=p) (o:=o.take i) (k:=k);have q:=λ k=>No (g:=g) (p:=p) (o:=o.take i) (k:=k);have u:=λ k=>OT (g:=g) (p:=p) (o:=o.take i) (k:=k);have hr:∀ x∈Ai g p (o.take i),x∈o.take i:=λ x hx=>J1 hx;obtain⟨acc,h4⟩:=AL (Ai g p (o.take i));obtain⟨R,hR⟩:=AL (DD g p (o.take i));rw[<- h4] at a8 a9 b2 hr h0 hh q u;rw[<- hR] at b3 q u;rw[<- h4,<- hR]
 refine BE ⟨72,[(2,.pv (gC g)),(3,.pv (pC p)),(4,.pt 32 0 0),(7,.pt 40 0 0),(23,AA o),(24,.I o.length),(25,.I i),(26,.B (decide (i<o.length)))],
   [(32,some ⟨3,[[.nilS,.nilS,.nilS]],0⟩),(40,some ⟨3,[[AA acc,.nilS,.rs 42 0 R.length]],0⟩),(42,some ⟨2,EV R,0⟩)],600⟩ rfl ?_ ?_
 .simp
  exact B4 [(32,32),(40,40),(42,42)] []
 refine AC (AD _ rfl (λ h9=>?_) λ h9=>?_)
 .simp at h9
  have ag:=w6 (x:=(i:Int)+1);obtain⟨k,hk⟩:=AL (o[i]);have am:=ht _ (Qi h9);rw[<- hk] at am;have b4:o.take (i+1)=o.take i++[k]:=by rw[Ql h9,hk]
  have hz:k∉acc:=λ h=>by
   have h2:=hr k h;obtain⟨j,hj,an⟩:=Qr.1 h2;rw[Uv] at an;rw[QB] at hj;have:=(QD.1 hu) j i zy h9 zy
   exact this (an.trans hk)
  have a0:∀ x∈acc++[k],0<=x/\x<g.size:=λ x hx=>by
   rcases Qn.1 hx with h | h
   .exact a9 x h
   .rw [Qw] at h;subst h;exact am
  have aq:(acc++[k]).Nodup:=Uy.2 ⟨a8,zz,λ a ha b hb=>by
   rw[Qw] at hb;subst hb
   rintro rfl
   exact hz ha⟩
  have hd:=dZ acc k zy
  have hl:=RI g p (acc++[k]) hg hp aq a0 hs;obtain⟨fl,a1,a2⟩:=he (acc++[k]) aq a0;have h3:=aI _ _ fl (a6 _ a0) a1.ok a1.most;have a3:=a1.ok.fit.len;have bp:=i8 (Bb g) (A7 g p (Az (acc++[k])));have h0:=h0 k;have hh:=hh k;have q:=q k;have u:=u k;rw[<- b4] at h0 hh q u;obtain⟨A,hA⟩:=AL (A7 g p (Az (acc++[k])));obtain⟨side,a4⟩:=AL (FM (Bb g) A);rw[<- hA] at hl a2 h3 a3 u;rw[<- a4] at h3 u;have au:∀ h:Int->List AV,List.take A.length (List.map h fl)=List.map h fl:=λ h=>Qc zu
  obtain⟨W,hW⟩:=AL (acc++[k]);have b5:W.length=acc.length+1:=by rw[hW];simp
  rw[<- hW] at hd hl a2 h0 hh q u;rw[<- b5] at hd;refine AE ?_
  refine BO ⟨72,[(2,.pv (gC g)),(3,.pv (pC p)),(4,.pt 32 0 0),(7,.pt 40 0 0),(23,AA o),(24,.I o.length),(25,.I i)],
   [(32,some ⟨3,[[.nilS,.nilS,.nilS]],0⟩),(40,some ⟨3,[[AA (Ai g p (o.take (i+1))),.nilS,.rs 42 0 (DD g p (o.take (i+1))).length]],0⟩),(42,some ⟨2,EV (DD g p (o.take (i+1))),0⟩)],3000⟩ ?_ ?_
  .refine AI ?_
   refine BE ⟨72,[(2,.pv (gC g)),(3,.pv (pC p)),(4,.pt 32 0 0),(7,.pt 40 0 0),(9,.I k),(23,AA o),(24,.I o.length),(25,.I i)],
    [(32,some ⟨3,[[.nilS,.nilS,.nilS]],0⟩),(40,some ⟨3,[[AA acc,.nilS,.rs 42 0 R.length]],0⟩),(42,some ⟨2,EV R,0⟩)],700⟩ rfl ?_ ?_
   .simp [h9,<- hk]
    exact B4 [(32,32),(40,40),(42,42)] []
   refine BE ⟨72,[(2,.pv (gC g)),(3,.pv (pC p)),(4,.pt 32 0 0),(7,.pt 40 0 0),(9,.I k),(10,AA W),(23,AA o),(24,.I o.length),(25,.I i)],
    [(32,some ⟨3,[[.nilS,.nilS,.nilS]],0⟩),(40,some ⟨3,[[AA acc,.nilS,.rs 42 0 R.length]],0⟩),(42,some ⟨2,EV R,0⟩)],800⟩ rfl ?_ ?_
   .simp
    refine C4 hd ?_;simp;exact AN [(32,32),(40,40),(42,42)] [724] (by simp[AB,CI]) zw
   refine BE ⟨72,[(2,.pv (gC g)),(3,.pv (pC p)),(4,.pt 32 0 0),(7,.pt 40 0 0),(9,.I k),(10,AA W),(11,.pv (nC ⟨Bb g,A⟩)),(23,AA o),(24,.I o.length),(25,.I i)],
    [(32,some ⟨3,[[.nilS,.nilS,.nilS]],0⟩),(40,some ⟨3,[[AA acc,.nilS,.rs 42 0 R.length]],0⟩),(42,some ⟨2,EV R,0⟩)],900⟩ rfl ?_ ?_
   .simp
    refine Ay hl ?_;simp;exact B4 [(32,32),(40,40),(42,42)] [832]
   refine BE ⟨72,[(2,.pv (gC g)),(3,.pv (pC p)),(4,.pt 32 0 0),(7,.pt 40 0 0),(9,.I k),(10,AA W),(11,.pv (nC ⟨Bb g,A⟩)),(12,.rs 43 0 A.length),(13,.B (@decide (B6 g p (Az W)) (Classical.propDecidable _))),(23,AA o),(24,.I o.length),(25,.I i)],
    [(32,some ⟨3,[[.nilS,.nilS,.nilS]],0⟩),(40,some ⟨3,[[AA acc,.nilS,.rs 42 0 R.length]],0⟩),(42,some ⟨2,EV R,0⟩),(43,some ⟨1,AH fl,0⟩)],1000⟩ rfl ?_ ?_
   .simp
    refine C4 a2 ?_;simp;exact B4 [(32,32),(40,40),(42,42),(924,43)] []
   refine AC ?_
   refine BE ⟨72,[(2,.pv (gC g)),(3,.pv (pC p)),(4,.pt 32 0 0),(7,.pt 40 0 0),(9,.I k),(10,AA W),(11,.pv (nC ⟨Bb g,A⟩)),(12,.rs 43 0 A.length),(44,.B (@decide (B6 g p (Az W)) (Classical.propDecidable _))),(23,AA o),(24,.I o.length),(25,.I i)],
    [(32,some ⟨3,[[.nilS,.nilS,.nilS]],0⟩),(40,some ⟨3,[[AA acc,.nilS,.rs 42 0 R.length]],0⟩),(42,some ⟨2,EV R,0⟩),(43,some ⟨1,AH fl,0⟩)],1100⟩ rfl ?_ ?_
   .simp
    exact B4 [(32,32),(40,40),(42,42),(43,43)] []
   refine AD _ rfl (λ a5=>?_) λ a5=>?_
   .have h5:B6 g p (Az W):=@of_decide_eq_true _ (Classical.propDecidable _) a5
    have hy:=h0 h5;have b6:=q h5
    refine BE ⟨72,[(2,.pv (gC g)),(3,.pv (pC p)),(4,.pt 32 0 0),(7,.pt 40 0 0),(23,AA o),(24,.I o.length),(25,.I i)],
     [(32,some ⟨3,[[.nilS,.nilS,.nilS]],0⟩),(40,some ⟨3,[[AA W,.nilS,.rs 42 0 R.length]],0⟩),(42,some ⟨2,EV R,0⟩)],1200⟩ rfl ?_ ?_
    .simp [AZ]
     exact B4 [(32,32),(40,40),(42,42)] []
    exact Aa (Ab (AN [(32,32),(40,40),(42,42)] [] zz (by simp[hy,b6,AB])))
   .have h5:¬ B6 g p (Az W):=@of_decide_eq_false _ (Classical.propDecidable _) a5
    have b7:=hh h5;have b8:=u h5;have bb:∀ h:Int × List Int->List AV,List.take R.length (List.map h R)=List.map h R:=λ h=>Qc zz
    refine AE (Cn rfl ?_);simp;refine BX (i:=43) rfl zw h3 zz zz ?_
    simp[bb,AZ];exact⟨zy,zy,rfl,AN [(32,32),(40,40),(1164,42)] [1140] zz (by simp[b7,b8,AB,CI])⟩
  refine AU rfl ?_;simp[ag];exact⟨i+1,zy,zy,AN [(32,32),(40,40),(42,42)] [] (by simp[ag]) zw⟩
 simp at h9;obtain rfl:i=o.length:=zy
 rw[QP] at h4 hR;rw[<- h4] at h8 hv hw;have c1:((acc.length:Nat):Int)=acc.length:=rfl;obtain⟨A,hA⟩:=AL (A7 g p (Az acc));rw[<- hA] at hv h8 hw;have au:∀ h:Int->List AV,List.take A.length (List.map h f)=List.map h f:=λ h=>Qc zu
 refine Aa (Ab ?_)
 refine H9 ⟨72,[(4,.pt 32 0 0),(7,.pt 40 0 0)],
   [(32,some ⟨3,[[.nilS,.nilS,.nilS]],0⟩),(40,some ⟨3,[[AA acc,AA f,.vs 2 false (EV R)]],0⟩)],1200⟩ rfl ?_ ?_
 .simp
  refine Ay hv ?_;simp;refine C4 h8 ?_;simp[AZ];exact⟨rfl,AN [(32,32),(40,40)] [42,664] zz (by simp[AB,CI,au,hw])⟩
 apply ax [4,5] [(32,32)] [] 1400
 .simp [AZ]
  rfl
 refine AO ?_;rw[<- h4,<- hR];exact⟨.inr rfl,AG.out [] [32] rfl zz zz zz zz⟩
variable {g:Gr} {p:BV}
theorem Bh.pair {l:List Int} {lo hi:Int} (h:Bh l lo hi):l.Pairwise (· < ·):=by
 have q:∀ (j i:Nat) (hj:j<l.length) (hij:i<j),l[i]<l[j]:=by
  intro j
  induction j with
  | zero=>intro i _ hij;omega
  | succ j ih =>
    intro i hj hij;have h1:=(h (j+1) hj).2.2 zy
    simp only[Nat.add_sub_cancel] at h1;rcases Ua i j with h2 | h2
    .have:=ih i zy h2
     omega
    .have:i=j:=zy
     subst this;exact h1
 exact QD.2 λ i j hi hj hij=>q j i hj hij
variable {g:Gr} {p:BV}
theorem c9 (g:Gr) (p:BV):(Ai g p (Aj (Ao g p.lv) p.seeds)).Nodup:=(IY _ _).sublist (Hi _ _ rfl)
theorem h64 (hg:Ah g) {a:List Int} (h:∀ x∈a,0<=x/\x<g.size):∀ x∈a,0<=x/\x<64:=λ x hx=>by
 have:=h x hx;have:=hg.1.2.1;omega
variable {g:Gr} {p:BV}
def FP (g:Gr) (p:BV):List Int:=p.seeds.filter λ k=>!g.gone.contains k
theorem TE (w:Int->Int) (hw:∀ x,0<=w x):∀ {s a:List Int},s.Nodup->(∀ x∈s,x∈a)->(s.map w).sum<=(a.map w).sum
 | [],a,_,_=>by
   have:∀ a:List Int,0<=(a.map w).sum:=λ a=>by
    induction a with
    | nil=>exact Vb _
    | cons x a ih=>simp only[List.map_cons,UR];have:=hw x;omega
   exact this a
 | x::s,a,hn,h=>by
   rw[Ur] at hn;have h1:=List.perm_cons_erase (h x (Qp ..));have ih:=TE w hw (s:=s) (a:=a.erase x) hn.2 λ y hy=>(List.mem_erase_of_ne (by rintro rfl;exact hn.1 hy)).2 (h y (Qo _ hy))
   have h2:(a.map w).sum=((x::a.erase x).map w).sum:=by
    have hp:∀ {a b:List Int},a.Perm b->(a.map w).sum=(b.map w).sum:=λ h=>by
     induction h with
     | nil=>rfl
     | cons x _ ih=>simp only[List.map_cons,UR,ih]
     | swap x y l=>simp only[List.map_cons,UR];omega
     | trans _ _ i1 i2=>exact i1.trans i2
    exact hp h1
   rw[h2];simp only[List.map_cons,UR];omega
theorem Oy {α:Type} {w:α->Int}:∀ {l:List α},(∀ x∈l,0<=w x)->0<=(l.map w).sum
 | [],_=>Vb _
 | x::l,h=>by
   have:=Oy (l:=l) λ y hy=>h y (Qo _ hy);have:=h x (Qp ..);simp only[List.map_cons,UR];omega
theorem Y4 (hp:CG g.size p) (S:Int->Bool) (h0:S 0=true):((p.seeds.filter λ x=>decide (0<(BB g p).getD x.toNat 0)).map λ x=>if S (2+2*x)=false then (BB g p).getD x.toNat 0 else 0).sum<=Jx g p S:=by
 unfold Jx;simp only[L5,A7,DW,List.map_append,List.sum_append,Un,List.filter_nil,UT,List.sum_nil]
 have h1:0<=(((List.range (BB g p).length).filter λ i=>decide (0<(BB g p).getD i 0)).map ((λ e:Ed=>if S e.f=true/\S e.t=false then e.v else 0)∘λ i:Nat=>(⟨2+2*(i:Int),3+2*(i:Int),(BB g p).getD i 0 - 1⟩:Ed))).sum:=Oy λ i hi=>by
  have:0<(BB g p).getD i 0:=by simpa using (QA.1 hi).2
  simp only[Function.comp];split<;>omega
 have h2:0<=(((Ao g p.lv).edges.filter λ e=>decide (0<(BB g p).getD e.f.toNat 0)).map ((λ e:Ed=>if S e.f=true/\S e.t=false then e.v else 0)∘λ e:Ed=>(⟨3+2*e.f,2+2*e.t,64⟩:Ed))).sum:=Oy λ e _=>by
  simp only[Function.comp];split<;>omega
 have h3:((p.seeds.filter λ x=>decide (0<(BB g p).getD x.toNat 0)).map ((λ e:Ed=>if S e.f=true/\S e.t=false then e.v else 0)∘λ x:Int=>(⟨0,2+2*x,(BB g p).getD x.toNat 0⟩:Ed)))=(p.seeds.filter λ x=>decide (0<(BB g p).getD x.toNat 0)).map λ x=>if S (2+2*x)=false then (BB g p).getD x.toNat 0 else 0:=by
  refine Ut λ x _=>?_;simp only[Function.comp,h0,true_and]
 rw[h3];omega
theorem bA (hg:Ah g) (hp:CG g.size p) {ks:List Int} (hn:ks.Nodup) (hs:∀ k∈ks,k∈p.seeds) (hk:D0 g p ks):B6 g p ks:=by
 rw[Kt hg hp hk];intro S h0 h1;have hb:=Y4 (g:=g) hp S h0;have q:=Pv (g:=g) hp
 have u:∀ x:Int,0<=(BB g p).getD x.toNat 0:=λ x=>by
  rw[Qf]
  cases hh:(BB g p)[x.toNat]? with
  | none=>simp
  | some v=>exact q v (Ud hh)
 have h2:=TE (λ x=>if S (2+2*x)=false then (BB g p).getD x.toNat 0 else 0) (λ x=>by have:=u x;split<;>omega) hn (a:=p.seeds.filter λ x=>decide (0<(BB g p).getD x.toNat 0)) λ x hx=>QA.2 ⟨hs x hx,Q7 (hk.reach x hx)⟩
 have h3:(ks.length:Int)<=(ks.map λ x=>if S (2+2*x)=false then (BB g p).getD x.toNat 0 else 0).sum+E6 S ks:=by
  have key:∀ l:List Int,(∀ x∈l,Ow g p x)->(l.length:Int)<=(l.map λ x=>if S (2+2*x)=false then (BB g p).getD x.toNat 0 else 0).sum+E6 S l:=by
   intro l
   induction l with
   | nil=>intro _;exact Vb _
   | cons x l ih =>
     intro h;have ih:=ih λ y hy=>h y (Qo _ hy);have hx:0<(BB g p).getD x.toNat 0:=h x (Qp ..)
     have hs:E6 S (x::l)=(if S (2+2*x)=true then 1 else 0)+E6 S l:=by
      unfold E6;rfl
     rw[hs];simp only[List.map_cons,UR,QZ]
     cases hS:S (2+2*x)
     .rw [if_pos rfl,if_neg zz]
      omega
     .rw [if_neg zz,if_pos rfl]
      omega
  exact key ks hk.reach
 omega
theorem Tk (g:Gr) (S:List Int):∀ n,0<n -> ∃ l,Bg g S n=Bg g S 1++l
 | 1,_=>⟨[],(QK _).symm⟩
 | n+2,_=>by
   obtain⟨l,hl⟩:=Tk g S (n+1) zy
   exact⟨l++Cz g.size.toNat λ k=>decide (Aq g S k=((n+1:Nat):Int)),by rw[Bg,hl,Qq]⟩
theorem c6 (hg:Ah g) (hp:CG g.size p):∃ l,Aj (Ao g p.lv) p.seeds=FP g p++l:=by
 by_cases hn:0<g.size.toNat
 .obtain ⟨l,hl⟩:=Tk (Ao g p.lv) p.seeds g.size.toNat hn
  refine⟨l,?_⟩
  have h1:Bg (Ao g p.lv) p.seeds 1=FP g p:=by
   refine Kn ?_ ?_ λ x=>?_
   .exact Ms g.size.toNat _
   .exact (hp.2.1.pair).filter _
   .rw [IG]
    have h2:(0<=Aq (Ao g p.lv) p.seeds x/\Aq (Ao g p.lv) p.seeds x<(1:Nat))↔Eg g p.seeds x=true:=by
     rw[show Eg g p.seeds x=Eg (Ao g p.lv) p.seeds x from rfl,<- Ol (hg.level p.lv)]
     omega
    rw[h2];unfold Eg FP;rw[QA];simp only[QW,List.contains_iff_mem];constructor
    .exact λ h=>h.2
    .intro h
     have h3:=hp.2.1.nodup.2 x h.1;exact⟨⟨zy,by show x<g.size.toNat;omega⟩,h⟩
  rw[<- h1];exact hl
 .have h0:g.size.toNat=0:=zy
  refine⟨[],?_⟩
  have h1:FP g p=[]:=by
   unfold FP;rw[List.filter_eq_nil_iff];intro x hx;have h3:=hp.2.1.nodup.2 x hx;omega
  rw[h1];show Bg _ _ (g.size.toNat)=_;rw[h0];rfl
theorem PU {o:List Int} (h:∀ n,n<o.length->B6 g p (Az (o.take (n+1)))):∀ n,n<=o.length->Ai g p (o.take n)=o.take n
 | 0,_=>rfl
 | n+1,hn=>by
   have ih:=PU h n zy
   rw[Ql zy]
   have h1:=h n zy
   rw[Ql zy] at h1
   rw[IB (by rw[ih];exact h1),ih]
theorem Ro (hg:Ah g) (hp:CG g.size p):∃ l,Ai g p (Aj (Ao g p.lv) p.seeds)=FP g p++l:=by
 obtain⟨l,hl⟩:=c6 hg hp;have q:=IY (Ao g p.lv) p.seeds;have u:=dV hg hp;rw[hl] at q u;have h2:=(Uy.1 q).1;have h3:D0 g p (FP g p):=u.sub λ x hx=>Q2 _ hx
 have h1:Ai g p (FP g p)=FP g p:=by
  have:=PU (g:=g) (p:=p) (o:=FP g p) (λ n hn=>by
   have hk:D0 g p ((FP g p).take (n+1)):=h3.sub λ x hx=>QQ hx;have h0:((FP g p).take (n+1)).Nodup:=h2.sublist (List.take_sublist _ _)
   refine(bA hg hp h0 (λ k h4=>(QA.1 (QQ h4)).1) hk).perm hg hp hk (Nz h0 (h64 hg hk.rng))) _ (Qg _)
  rwa [QP] at this
 obtain⟨l2,h5,_⟩:=M6 (g:=g) (p:=p) l (FP g p);exact⟨l2,by rw[hl,h5,h1]⟩
theorem Ah.off {s:Int} {E:List Ed} {go:List Int} (h0:0<=s) (h1:s<=64) (hl:E.length<=500) (hg:Bh go 0 (s - 1)) (hp:E.Pairwise EU) (hf:∀ e∈E,DX ⟨s,E,go⟩ e/\1<=e.v/\e.v<=3):Ah ⟨s,E,go⟩ :=
 ⟨⟨h0,h1,hl,hg⟩,λ i hi=>⟨(hf _ (Qi hi)).1,(hf _ (Qi hi)).2.1,(hf _ (Qi hi)).2.2,λ h0=>Ka.2 (QD.1 hp (i - 1) i (by simp only at hi;omega) hi zy)⟩⟩
def wG:Gr:=⟨64,[],[]⟩
def wP:BV:=⟨[0,1],[2],1⟩
theorem OU:Ah wG:=Ah.off zx zx zx (λ i h=>by simp at h) zx zz
theorem Ph:CG 64 wP:=by
 refine⟨by simp[wP],λ i h=>?_,by simp[wP],by simp[wP],by simp[wP],by simp[wP],λ i h=>?_⟩
 .have:i=0∨i=1:=by simp[wP] at h;omega
  rcases this with rfl | rfl
  .exact ⟨by simp[wP],by simp[wP],λ h=>zy⟩
  .exact ⟨by simp[wP],by simp[wP],λ h=>by simp[wP]⟩
 .obtain rfl:i=0:=by simp[wP] at h;omega
  simp[wP]
theorem fX:Ao wG wP.lv=wG:=rfl
theorem NQ {k:Int} (h:0<=Aq wG [0,1] k):Aq wG [0,1] k=0:=by
 refine UC λ h0=>?_;obtain⟨m,hm⟩:∃ m:Nat,Aq wG [0,1] k=(m:Int)+1:=⟨(Aq wG [0,1] k - 1).toNat,zy⟩
 obtain⟨e,he,_⟩:=RJ OU hm;simp[wG] at he
theorem VD:Aj wG [0,1]=[0,1]:=by
 have hm:∀ k,k∈Aj wG [0,1]↔k=0∨k=1:=λ k=>by
  unfold Aj;rw[IG]
  have hs:Aq wG [0,1] k=0↔k=0∨k=1:=by
   rw[Ol OU];unfold Eg wG;simp
  constructor
  .exact λ h=>hs.1 (NQ h.2.1)
  .intro h
   rw[hs.2 h];refine⟨⟨zy,?_⟩,zy,zx⟩
   show k<(64:Nat);omega
 refine Kn ?_ zz λ k=>by rw[hm];simp
 have hp:(Aj wG [0,1]).Pairwise (Lt wG [0,1]):=PL _;refine hp.imp_of_mem λ {a b} ha hb q=>?_;have h1:Aq wG [0,1] a=0:=NQ ((IG.1 ha).2.1);have h2:Aq wG [0,1] b=0:=NQ ((IG.1 hb).2.1);unfold Lt at q;rw[h1,h2] at q;omega
theorem bE:Ai wG wP [0,1]=[0,1]:=by
 obtain⟨l,hl⟩:=Ro OU Ph;have e:Aj (Ao wG wP.lv) wP.seeds=[0,1]:=VD;rw[e] at hl;have hs:FP wG wP=[0,1]:=zx
 rw[hs] at hl;have q:=PI (g:=wG) (p:=wP) [0,1];rw[hl] at q ⊢
 have:l=[]:=by
  cases l with
  | nil=>rfl
  | cons a b=>simp at q
 rw[this];rfl
structure Ch where
 ge:List Int
 po:BV
 se:Int
 sp:Int
 qu:Int
abbrev CJ (r:Ch):List AV:=[AA r.ge,AA r.po.seeds,AA r.po.table,.I r.po.lv,.I r.se,.I r.sp,.I r.qu]
abbrev Bc (r:Ch):AV:=.agg (CJ r)
structure EW (r:Ch):Prop where
 ge:HD r.ge
 po:CG 64 r.po
 se:1<=r.se/\r.se<=9
 sp:1<=r.sp/\r.sp<=1000000
 qu:0<=r.qu/\r.qu<=64
def Hn:Gr:=⟨64,[],[]⟩
theorem VA:Ah Hn:=Ah.off zx zx zx (λ i h=>by simp at h) zx zz
theorem Jl (r:Ch) (h:EW r):AK 63 [Bc r] [] (.I 0) []:=by
 refine rP.s.ac ?_;show AQ _ 0 _ _ ⟨43,[(0,Bc r)],[],16⟩
 have u:r.po.seeds.length<=64:=by
  have:=Fs (a:=r.po.seeds) (b:=(List.range 64).map Int.ofNat) h.po.2.1.nodup.1 λ x hx=>by
   have h1:=h.po.2.1.nodup.2 x hx;exact Qm.2 ⟨x.toNat,QS.2 zy,by show ((x.toNat:Nat):Int)=x;omega⟩
  simpa using this
 have h0:r.po.table.length<=8:=h.po.2.2.2.1;have hv:=I2 r.ge (by have:=h.ge.2.1;omega)
 have ht:@decide (HD r.ge) (Classical.propDecidable _)=true:=by simp[h.ge]
 rw[ht] at hv;have q:=LB Hn r.po (by simp[Hn]) (by simp[Hn]) zy zy
 rw[if_pos VA,if_pos (show CG Hn.size r.po from h.po)] at q
 have q:=HK (args:=[.agg [.I 64,.nilS,.nilS],eP r.po]) q ⟨Iw (.refl _) (.nil _ _) (.nil _ _),.refl _,trivial⟩;obtain⟨s1,s2⟩:=h.se;obtain⟨p1,p2⟩:=h.sp;obtain⟨q1,q2⟩:=h.qu;have n1:¬ r.se<1:=zy
 have n2:¬ 9<r.se:=zy
 have n3:¬ r.sp<1:=zy
 have n4:¬ 1000000<r.sp:=zy
 have n5:¬ r.qu<0:=zy
 have n6:¬ 64<r.qu:=zy
 refine BP ⟨43,[(1,.pv (CJ r))],[],50⟩ [] [16] ?_;refine AC (arc ⟨43,[(1,.pv (CJ r)),(7,.B false)],[],100⟩ ?_ ?_)
 .simp
  refine Ay hv ?_;simp;exact BT [] []
 refine AD _ rfl (λ h=>by cases h) λ _=>?_
 refine AE (AC (arc ⟨43,[(1,.pv (CJ r)),(3,.I 0)],[],200⟩ ?_ ?_))
 .simp [EQ]
  refine Ay q ?_;simp;exact BT [] []
 refine BP ⟨43,[(1,.pv (CJ r)),(13,.B false)],[],300⟩ [] [] ?_;refine AD _ rfl (λ h=>by cases h) λ _=>?_
 refine AE (AC (arc ⟨43,[(42,.B false)],[],700⟩ ?_ ?_))
 .simp [n1,n2,n3,n4,n5,n6]
  exact BT [] []
 refine AD _ rfl (λ h=>by cases h) λ _=>?_
 refine AE (rs [2] [] [] ?_);exact Bv
structure Cl where
 ep:Int
 ki:Int
 su:Int
 ro:Int
abbrev B3 (c:Cl):List AV:=[.I c.ep,.I c.ki,.I c.su,.I c.ro]
abbrev Be (c:Cl):AV:=.agg (B3 c)
def Fo (c:Cl):Prop:=0<=c.ep/\c.ep<40/\0<=c.su/\c.su<64/\0<=c.ro/\c.ro<=1
instance (c:Cl):Decidable (Fo c):=by unfold Fo;infer_instance
def Gb (c:Cl):Prop:=c.ki=1/\c.su=0/\c.ro=0∨c.ki=2∨c.ki=3
instance (c:Cl):Decidable (Gb c):=by unfold Gb;infer_instance
def DF (c:Cl):Prop:=Fo c/\Gb c
instance (c:Cl):Decidable (DF c):=by unfold DF;infer_instance
theorem I3 (c:Cl):AK 129 [Be c] [] (.B (decide (DF c))) []:=by
 refine rH.s.ac ?_;show AQ _ 0 _ _ ⟨46,[(0,Be c)],[],16⟩;refine BP ⟨46,[(1,.pv (B3 c))],[],50⟩ [] [16] ?_;refine AC (arc ⟨46,[(1,.pv (B3 c)),(30,.B (decide (¬ Fo c)))],[],400⟩ ?_ ?_)
 .simp
  repeat' first
   | (refine BK (λ hb=>?_) (λ hb=>?_)<;>(try rw[hb])<;>(try simp at hb)<;>simp[hb])
  all_goals exact AN [] [] (by simp;exact An (by (try simp at *);grind [Fo]))
 refine AD _ rfl (λ h3=>?_) λ h3=>?_
 .rw [Qb] at h3
  have hn:¬ DF c:=λ h=>h3 h.1;refine rs [2] [] [] ?_;exact BG (AG.one (by simp[hn]))
 rw[Qd,Decidable.not_not] at h3;refine AE (AC (BP ⟨46,[(1,.pv (B3 c)),(32,.I c.ki)],[],500⟩ [] [] ?_));refine AI (arc ⟨46,[(1,.pv (B3 c)),(32,.I c.ki),(33,.B (decide (c.ki=1)))],[],600⟩ ?_ ?_)
 .simp
  exact AN [] [] (by simp<;>exact An zt)
 refine AD _ rfl (λ h4=>?_) λ h4=>?_
 .rw [Qb] at h4
  refine arc ⟨46,[(2,.B (decide (DF c)))],[],800⟩ ?_ ?_
  .have hk:DF c↔c.su=0/\c.ro=0:=by
    unfold DF Gb;constructor
    .rintro ⟨_,h⟩;omega
    .intro h;exact⟨h3,.inl ⟨h4,h⟩⟩
   simp
   repeat' first
    | (refine BK (λ hb=>?_) (λ hb=>?_)<;>(try rw[hb])<;>(try simp at hb)<;>simp[hb])
   all_goals exact AN [] [] (by simp;exact An (by (try simp at *);grind))
  exact Bv
 rw[Qd] at h4
 have hk:DF c↔c.ki=2∨c.ki=3:=by
  unfold DF Gb;constructor
  .rintro ⟨_,h⟩;omega
  .intro h;exact⟨h3,.inr h⟩
 refine AC (arc ⟨46,[(32,.I c.ki),(43,.B (decide (c.ki=2)))],[],900⟩ ?_ ?_)
 .simp
  exact AN [] [] (by simp<;>exact An zt)
 refine AD _ rfl (λ u=>?_) λ u=>?_
 .rw [Qb] at u
  refine AE (AD _ rfl (λ h0=>?_) λ h0=>?_)
  .refine rs [2] [] [] ?_
   exact BG (AG.one (by simp[hk,u]))
  .rw [Qd] at h0
   exact absurd u h0
 rw[Qd] at u;refine AU rfl ?_;simp;refine AD _ rfl (λ q=>?_) λ q=>?_
 .refine rs [2] [] [] ?_
  have q:c.ki=3:=by simpa using q
  exact BG (AG.one (by simp[hk,q]))
 have q:¬ c.ki=3:=by simpa using q
 refine AE (rs [2] [] [] ?_);exact BG (AG.one (by simp[hk,u,q]))
theorem kV (v n:Nat) (hv:v<=1000000) (hn:n<=1000000):AK 319 [.I v,.I n] [] (.B (decide (1<=n/\n<=9/\v<=n/\3*n<4*v))) []:=by
 refine qT.s.ac ?_;show AQ _ 0 _ _ ⟨27,[(0,.I v),(1,.I n)],[],16⟩;have w1:=w6 (x:=4*(v:Int));have w2:=w6 (x:=3*(n:Int));refine rs [0,1] [] [] ?_;refine arc ⟨27,[(4,.B (decide (1<=n/\n<=9/\v<=n/\3*n<4*v)))],[],300⟩ ?_ ?_
 .simp [w1,w2]
  repeat' first
   | (refine BK (λ hb=>?_) (λ hb=>?_)<;>(try rw[hb])<;>(try simp at hb)<;>simp[hb,w1,w2])
  all_goals exact AN [] [] (by simp<;>exact An (by (try simp at *);grind))
 exact Bv
theorem RM (e:Int):AK 77 [.I e] [] (Be ⟨e,1,0,0⟩) []:=by
 refine wB.s.ac ?_;show AQ _ 0 _ _ ⟨5,[(0,.I e)],[],16⟩;refine rs [0,2] [16] [] ?_;refine arc ⟨5,[(2,.pt 16 0 0)],[(16,some ⟨4,[[.I e,.I 1,.I 0,.I 0]],0⟩)],100⟩ ?_ ?_
 .simp [EQ,AZ]
  exact BT [(16,16)] []
 exact BG (AG.out [] [16] rfl zz zz (.refl _) zz)
def Dl (c:Cl):Prop:=DF c/\c.ro=0/\c.ki≠1
instance (c:Cl):Decidable (Dl c):=by unfold Dl;infer_instance
theorem RD (c:Cl):AK 345 [Be c] [] (.B (decide (Dl c))) []:=by
 refine uF.s.ac ?_;show AQ _ 0 _ _ ⟨15,[(0,Be c)],[],16⟩;refine BP ⟨15,[(1,.pv (B3 c))],[],50⟩ [] [16] ?_;refine arc ⟨15,[(2,.B (decide (Dl c)))],[],300⟩ ?_ ?_
 .simp
  refine Ay (I3 c) ?_;simp
  repeat' first
   | (refine BK (λ hb=>?_) (λ hb=>?_)<;>(try rw[hb])<;>(try simp at hb)<;>simp[hb])
  all_goals exact AN [] [] (by simp;exact An (by (try simp at *);grind [Dl]))
 exact Bv
theorem Xd (c:Cl):AK 339 [Be c] [] (.tup [Be (if Dl c then ⟨c.ep,c.ki,c.su,1⟩ else ⟨0,0,0,0⟩),.I (if Dl c then 0 else 41)]) []:=by
 refine tD.s.ac ?_;show AQ _ 0 _ _ ⟨10,[(0,Be c)],[],16⟩;refine BP ⟨10,[(1,.pt 16 0 0),(2,.pt 24 0 0)],[(16,some ⟨4,[B3 c],0⟩),(24,some ⟨4,[[.I 0,.I 0,.I 0,.I 0]],0⟩)],50⟩ [(16,16),(24,24)] [] ?_;refine AC (arc ⟨10,[(1,.pt 16 0 0),(2,.pt 24 0 0),(6,.B (!decide (Dl c)))],[(16,some ⟨4,[B3 c],0⟩),(24,some ⟨4,[[.I 0,.I 0,.I 0,.I 0]],0⟩)],150⟩ ?_ ?_)
 .simp
  refine Ay (RD c) ?_;simp;exact BT [(16,16),(24,24)] []
 refine AD _ rfl (λ h3=>?_) λ h3=>?_
 .have h3:¬ Dl c:=by simpa using h3
  rw[if_neg h3,if_neg h3];refine arc ⟨10,[(2,.pt 24 0 0),(3,.I 41)],[(24,some ⟨4,[[.I 0,.I 0,.I 0,.I 0]],0⟩)],250⟩ ?_ ?_
  .simp [EQ,AZ]
   exact BT [(24,24)] []
  exact BG (AG.out [] [24] rfl zz zz (.refl _) zz)
 have h3:Dl c:=by simpa using h3
 rw[if_pos h3,if_pos h3];refine AE (arc ⟨10,[(1,.pt 16 0 0),(2,.pt 24 0 0)],[(16,some ⟨4,[[.I c.ep,.I c.ki,.I c.su,.I 1]],0⟩),(24,some ⟨4,[[.I 0,.I 0,.I 0,.I 0]],0⟩)],350⟩ ?_ ?_)
 .simp [AZ]
  exact BT [(16,16),(24,24)] []
 refine arc ⟨10,[(2,.pt 24 0 0),(3,.I 0)],[(24,some ⟨4,[[.I c.ep,.I c.ki,.I c.su,.I 1]],0⟩)],450⟩ ?_ ?_
 .simp [AZ]
  exact BT [(24,24)] []
 exact BG (AG.out [] [24] rfl zz zz (.refl _) zz)
structure KI where
 lo:Int
 ne:Int
abbrev T8 (h:KI):List AV:=[.I h.lo,.I h.ne]
abbrev Pb (h:KI):AV:=.agg (T8 h)
def Es (h:KI):Prop:=0<=h.lo/\h.lo<64/\0<=h.ne/\h.ne<64/\h.lo≠h.ne
instance (h:KI):Decidable (Es h):=by unfold Es;infer_instance
theorem iP (h:KI):AK 323 [Pb h] [] (.B (decide (Es h))) []:=by
 refine sQ.s.ac ?_;show AQ _ 0 _ _ ⟨28,[(0,Pb h)],[],16⟩;refine BP ⟨28,[(1,.pv (T8 h))],[],50⟩ [] [16] ?_;refine arc ⟨28,[(2,.B (decide (Es h)))],[],300⟩ ?_ ?_
 .simp
  repeat' first
   | (refine BK (λ hb=>?_) (λ hb=>?_)<;>(try rw[hb])<;>(try simp at hb)<;>simp[hb])
  all_goals exact AN [] [] (by simp;exact An (by (try simp at *);grind [Es]))
 exact Bv
theorem Km (a b:Int):AK 344 [.I a,.I b] [] (.I (BC a b)) []:=by
 refine sI.s.ac ?_;show AQ _ 0 _ _ ⟨11,[(0,.I a),(1,.I b)],[],16⟩;refine rs [0,1] [] [] ?_;refine AC (BP ⟨11,[(0,.I a),(1,.I b),(7,.B (decide (a<b)))],[],100⟩ [] [] ?_);refine AD _ rfl (λ h=>?_) λ h=>?_
 .rw [Qb] at h
  refine rs [4] [] [] ?_;exact BG (AG.one (by simp[BC,h]))
 rw[Qd] at h;refine AE (AC (BP ⟨11,[(10,.B (decide (b<a)))],[],200⟩ [] [] ?_));refine AD _ rfl (λ h2=>?_) λ h2=>?_
 .rw [Qb] at h2
  refine rs [4] [] [] ?_;exact BG (AG.one (by simp[BC,h,h2]))
 rw[Qd] at h2;refine AE (rs [4] [] [] ?_);exact BG (AG.one (by simp[BC,h,h2]))
end Go.Proofs.YtklclphfcibagaaGreat
namespace Go.Proofs.YtklclphfcibagaaGreat
open Go
abbrev Ap (k:IntKind) (l:List Int):List (List AV):=l.map λ x=>[AV.sc (.int k x)]
abbrev Ek (l:List Int):AV:=.vs 1 false (Ap .u8 l)
section
variable {P:Program} {np id:Nat} {h:Nat->Option AX} {K:AV->List Nat->List (Nat × Option AX)->Prop} {f:FuncId} {first aB args aA:List AV} {res:AV}
theorem HQ (sn:List Nat) {e:AX} (hc:Cq P f aA [] res [some e]) (he:(first++args++aB).map (conv [] sn h 4)=aA) (hp:Plain res) (u:HJ e) (hk:K (conv (Cc [] id) [] (λ _=>none) 4 res) sn [(id,some (Ak (Cc [] id) [] (λ _=>none) 4 e))]):aK P np id .call (.fn (.func f) first aB::args) h K :=
 ⟨[],sn,false,aA,[],res,[some e],zz,zz,zz,by rw[UK,he];exact FW _,rfl,hc,zz,.inr ⟨hp,λ e' q=>by simp at q;subst q;exact u⟩,by simpa [Cc] using hk⟩
theorem gN {e:AX} (hc:Cq P f aA [] res [some e]) (he:Ec ((first++args++aB).map (conv [] [] h 4)) aA) (hk:K (conv (Cc [] id) [] (λ _=>none) 4 res) [] [(id,some (Ak (Cc [] id) [] (λ _=>none) 4 e))]):aK P np id .call (.fn (.func f) first aB::args) h K :=
 ⟨[],[],true,aA,[],res,[some e],zz,zz,zz,by rw[UK];exact he,rfl,hc,zz,.inl rfl,hk⟩
end
theorem HF {k:IntKind} {l:List Int}:HJ ⟨1,Ap k l,0⟩:=by
 intro row q x hx;simp only[Qm] at q;obtain⟨y,_,rfl⟩:=q;simp at hx;subst hx;exact .sc _
theorem NT (k:IntKind) (l:List Int) (ρ sn h m):(Ap k l).map (List.map (conv ρ sn h (m+1)))=Ap k l:=zw
theorem FA (k:IntKind) (l:List Int):(Ap k l).length=l.length:=zz
theorem Le.K1 {st st':St} {k:IntKind} {l:List Int} (i j:Nat) (sn:List Nat) (q:st'.sz=st.sz) (hh:st'.h=[(j,some ⟨1,Ap k l,0⟩)]) (hi:j<st'.n) (hs:∀ j∈sn,j≠i) (h0:st.hp i=some ⟨1,Ap k l,0⟩) (ht:∀ p∈st'.t,Wk (conv [(i,j)] sn st.hp 4 (st.get p.1)) p.2):Le 0 st st' :=
 Le.ren1 i j sn q hh hi hs h0 (by simp only[Ak,NT]) (Qh _) ht
def GA (v:Int) (k:Nat):Int:=IntKind.u8.wrap (v.fdiv (2 ^ (min (8*k) 64)))
def GW (v:Int) (n:Nat):List Int:=(List.range n).map λ j=>GA v (7 - j)
def Au (v:Int):List Int:=GW v 8
theorem ML (v:Int) (n:Nat):(GW v n).length=n:=by simp[GW]
theorem Dt (v:Int):(Au v).length=8:=ML v 8
theorem NI (v:Int) (n:Nat):GW v (n+1)=GW v n++[GA v (7 - n)]:=by simp[GW,List.range_succ]
theorem HV (b:List Int) (v:Int) (n:Nat) (hn:n=b.length+8) (hl:b.length<=1099511627776):AK 244 [Ek b,.I v] [] (.rs 0 0 n) [some ⟨1,Ap .u8 (b++Au v),0⟩]:=by
 refine ZB.s.ai ?_;refine ar [0,1] [] [] 24 ?_
 let Y:Nat->List Int:=λ j=>b++GW v j
 have h0:∀ j,(Y j).length=b.length+j:=λ j=>by simp only[Y];rw[Qe,ML]
 have h1:∀ j,Y (j+1)=Y j++[GA v (7 - j)]:=λ j=>by simp only[Y];rw[NI,Qq]
 have h2:Y 0=b:=by simp[Y,GW]
 have h3:b++Au v=Y 8:=rfl;rw[h3,hn];refine arc ⟨23,[(1,.I v),(5,.rs 32 0 (b.length+0))],[(32,some ⟨1,Ap .u8 (Y 0),0⟩)],48⟩ ?_ ?_
 .simp [h2]
  repeat' apply And.intro
  all_goals first | omega | exact BD
 clear_value Y
 refine AC ?_;apply ak [1,5,6] [32] 56
 .simp
  rfl
 refine AI (Ag (ι:=Nat) (λ j=>⟨23,[(1,.I v),(5,.rs 32 0 (b.length+j)),(6,.I (7 - (j:Int)))],[(32,some ⟨1,Ap .u8 (Y j),0⟩)],56⟩) (λ j=>j<=8) (λ j=>8 - j) 0 zy (Le.refl _ _) ?_)
 intro j hj;refine AC (arc ⟨23,[(1,.I v),(5,.rs 32 0 (b.length+j)),(6,.I (7 - (j:Int))),(10,.B (decide (j<8)))],[(32,some ⟨1,Ap .u8 (Y j),0⟩)],72⟩ ?_ ?_)
 .simp
  exact Le.keep rfl (Qg _) zu zz
 refine AD _ rfl (λ h=>AE ?_) λ h=>Aa (Ab ?_)
 .simp only[Qb] at h
  have h4:=h0 j;have hs:=h1 j;refine BO ⟨23,[(1,.I v),(5,.rs 32 0 (b.length+(j+1))),(6,.I (7 - (j:Int)))],[(32,some ⟨1,Ap .u8 (Y (j+1)),0⟩)],152⟩ ?_ ?_
  .rw [hs]
   generalize Y j=A at *;obtain⟨k,hk⟩:∃ k:Nat,7 - (j:Int)=k:=⟨7 - j,zy⟩
   have h5:7 - j=k:=zy
   have q:IntKind.i64.wrap (8*(k:Int))=((8*k:Nat):Int):=by rw[w6];omega
   have u:IntKind.u64.wrap ((8*k:Nat):Int)=((8*k:Nat):Int):=by rw[IntKind.wrap_u64];omega
   have hb:GA v k=IntKind.u8.wrap (v.fdiv (2 ^ (min (8*k) 64))):=rfl;rw[hk,h5];generalize GA v k=y at hb ⊢;obtain⟨s,h6⟩:=AL (8*k);rw[<- h6] at q u hb;have h7:List.take (b.length+j) (Ap .u8 A)=Ap .u8 A:=Qc (by rw[FA];omega)
   refine AI (AU rfl ?_);simp[q,u,IntKind.bits,<- hb,h4]
   repeat' apply And.intro
   all_goals first | omega | exact Le.ren1 136 32 [] rfl rfl zz zz rfl (by simp only[Ak];simp[h7,AB]) zz (by simp;exact Dy zu)
  have h8:IntKind.i64.wrap (7 - (j:Int) - 1)=7 - ((j+1:Nat):Int):=by rw[w6];omega
  refine AU rfl ?_;simp[h8];exact⟨j+1,zy,zy,Le.K1 32 32 [] rfl rfl zz zz rfl zz⟩
 simp only[Qd] at h;obtain rfl:j=8:=zy
 refine AC (Ad ?_);exact CD [32] []
def Dp (s:ByteArray):List Int:=s.data.toList.map λ b=>(b.toNat:Int)
theorem Iq (s:ByteArray):(Dp s).length=s.size:=by
 show (s.data.toList.map _).length=s.data.size;simp
theorem NG (s:ByteArray):GJ s=Ap .u8 (Dp s):=by
 unfold GJ Dp;rw[Ap,Un];rfl
def G2 (s:ByteArray):List Int:=Au s.size++Dp s
theorem KS (s:ByteArray):(G2 s).length=s.size+8:=by rw[G2,Qe,Dt,Iq];omega
theorem Oi (b:List Int) (s:ByteArray) (n:Nat) (hn:n=b.length+(s.size+8)) (hl:b.length<=1099511627776) (hs:s.size<=1099511627776):AK 243 [Ek b,.sc (.string s)] [] (.rs 0 0 n) [some ⟨1,Ap .u8 (b++G2 s),0⟩]:=by
 refine jH.s.ai ?_;refine ar [0,1] [] [] 24 ?_;have hI:=HV b s.size _ rfl hl;have e:b++G2 s=(b++Au s.size)++Dp s:=by rw[G2,Qq]
 have q:(b++Au s.size).length=b.length+8:=by rw[Qe,Dt]
 rw[e];generalize b++Au s.size=Y at *;have u:List.take (b.length+8) (Ap .u8 Y)=Ap .u8 Y:=Qc (by rw[FA];omega)
 refine arc ⟨11,[(4,.rs 64 0 n)],[(64,some ⟨1,Ap .u8 (Y++Dp s),0⟩)],80⟩ ?_ ?_
 .simp
  refine Cu hI rfl ?_;simp[AB,NG,q];refine⟨_,_,_,⟨u,rfl,rfl⟩,?_⟩;simp[q]
  repeat' apply And.intro
  all_goals first | omega | exact Le.keep rfl (Qg _) zu zz
 exact CD [64] []
def EM (l:List Int):List Int:=Au l.length++l.flatMap Au
theorem Kg (l:List Int):(l.flatMap Au).length=8*l.length:=by
 induction l with
 | nil=>rfl
 | cons x l ih=>rw[U2,Qe,ih,Dt];simp;omega
theorem Gv (l:List Int):(EM l).length=8*l.length+8:=by rw[EM,Qe,Dt,Kg];omega
theorem tK (b l:List Int) (n:Nat) (hn:n=b.length+(8*l.length+8)) (hl:b.length<=1000000000) (h6:l.length<=1000000):AK 245 [Ek b,AA l] [] (.rs 0 0 n) [some ⟨1,Ap .u8 (b++EM l),0⟩]:=by
 refine eF.s.ac ?_;show AQ _ 0 _ _ ⟨24,[(0,Ek b),(1,AA l)],[],16⟩;refine BE ⟨24,[(0,Ek b),(1,AA l)],[],24⟩ rfl (by simp;exact AM [] zz) ?_
 have hI:=HV b l.length _ rfl zy
 obtain⟨B,hB⟩:=AL (b++Au l.length);have h0:B.length=b.length+8:=by rw[hB,Qe,Dt]
 rw[<- hB] at hI;have e:∀ j,b++EM (l.take j)=b++EM (l.take j):=λ _=>rfl
 let Y:Nat->List Int:=λ j=>B++(l.take j).flatMap Au
 have q:∀ j,j<=l.length->(Y j).length=b.length+8+8*j:=λ j hj=>by
  simp only[Y];rw[Qe,Kg,h0,QB]
  congr 2
  omega
 have h1:∀ j (h:j<l.length),Y (j+1)=Y j++Au l[j]:=λ j h=>by
  simp only[Y];rw[Ql h,List.flatMap_append];simp
 have h2:Y 0=B:=by simp[Y]
 have h3:Y l.length=b++EM l:=by simp[Y,hB,EM]
 rw[<- h3,hn];refine arc ⟨24,[(1,AA l),(5,.rs 48 0 (b.length+8+8*0))],[(48,some ⟨1,Ap .u8 (Y 0),0⟩)],64⟩ ?_ ?_
 .simp
  refine Cu hI rfl ?_;simp[AB];exact Le.keep rfl (Qg _) zz (by simp[h2])
 clear_value Y
 refine AC (arc ⟨24,[(1,AA l),(5,.rs 48 0 (b.length+8+8*0)),(6,.I (0:Nat))],[(48,some ⟨1,Ap .u8 (Y 0),0⟩)],72⟩ ?_ ?_)
 .simp
  exact BD
 refine AI (Ag (ι:=Nat) (λ j=>⟨24,[(1,AA l),(5,.rs 48 0 (b.length+8+8*j)),(6,.I j)],[(48,some ⟨1,Ap .u8 (Y j),0⟩)],72⟩) (λ j=>j<=l.length) (λ j=>l.length - j) 0 zy (Le.refl _ _) ?_)
 intro j hj;refine AC (arc ⟨24,[(1,AA l),(5,.rs 48 0 (b.length+8+8*j)),(6,.I j),(14,.B (decide (j<l.length)))],[(48,some ⟨1,Ap .u8 (Y j),0⟩)],104⟩ ?_ ?_)
 .simp
  exact BD
 refine AD _ rfl (λ h=>AE ?_) λ h=>Aa (Ab ?_)
 .simp only[Qb] at h
  have hs:=h1 j h;have h4:=q j hj;have h7:=q (j+1) h;have u:=HV (Y j) l[j] _ rfl zy
  rw[<- hs] at u;have hg:l[j]? = some l[j]:=Qa h;refine BO ⟨24,[(1,AA l),(5,.rs 48 0 (b.length+8+8*(j+1))),(6,.I j)],[(48,some ⟨1,Ap .u8 (Y (j+1)),0⟩)],160⟩ ?_ ?_
  .generalize Y (j+1)=Z at *
   generalize Y j=A at *;refine AI (AU rfl ?_);simp[h,hg];refine HQ [48] u (by simp[AB,<- h4,CI]) (.rs _ _ _) HF ?_
   simp[AB];exact Le.K1 144 48 [] rfl rfl zz zz zw (by simp;exact Dy zu)
  have h5:=wq (k:=j);refine AU rfl ?_;simp[h5];exact⟨j+1,zy,zy,Le.K1 48 48 [] rfl rfl zz zz rfl zz⟩
 simp only[Qd] at h;obtain rfl:j=l.length:=zy
 refine AC (Ad ?_);exact BG (AG.out [48] [] rfl zz zz (by simp;exact Dy zu) zw)
variable {a n:Int}
abbrev Bm (l:List Int):AV:=.vs 1 false (Ap .u32 l)
abbrev wd (x:Int):AV:=.sc (.int .u32 x)
def u2 (op:BinOp) (a b:Int):Int:=match Aw op (.int .u32 a) (.int .u32 b) with | some (.int _ n)=>n | _=>0
def sh (op:BinOp) (a n:Int):Int:=match Aw op (.int .u32 a) (.int .u64 n) with | some (.int _ n)=>n | _=>0
def nt (a:Int):Int:=match JT .xor (.int .u32 a) with | some (.int _ n)=>n | _=>0
def HO (x n:Int):Int:=u2 .or (sh .shr x n) (sh .shl x (32 - n))
section
variable {P:Program} {np id:Nat} {h:Nat->Option AX} {K:AV->List Nat->List (Nat × Option AX)->Prop}
theorem H0 (op:BinOp) (ho:op = .add∨op = .xor∨op = .and∨op = .or) {b:Int}:aK P np id (.bin op) [.sc (.int .u32 a),.sc (.int .u32 b)] h K=K (.sc (.int .u32 (u2 op a b))) [] []:=by
 refine propext ?_;rcases ho with rfl | rfl | rfl | rfl
 all_goals
  constructor
  .rintro ⟨v,hv,hk⟩
   cases hv;exact hk
  .exact λ hk=>⟨_,rfl,hk⟩
@[simp high] theorem nO {a b:Int}:aK P np id (.bin .add) [.sc (.int .u32 a),.sc (.int .u32 b)] h K=K (.sc (.int .u32 (u2 .add a b))) [] []:=H0 _ (.inl rfl)
@[simp high] theorem qC {a b:Int}:aK P np id (.bin .xor) [.sc (.int .u32 a),.sc (.int .u32 b)] h K=K (.sc (.int .u32 (u2 .xor a b))) [] []:=H0 _ (.inr (.inl rfl))
@[simp high] theorem n7 {a b:Int}:aK P np id (.bin .and) [.sc (.int .u32 a),.sc (.int .u32 b)] h K=K (.sc (.int .u32 (u2 .and a b))) [] []:=H0 _ (.inr (.inr (.inl rfl)))
@[simp high] theorem nE {a b:Int}:aK P np id (.bin .or) [.sc (.int .u32 a),.sc (.int .u32 b)] h K=K (.sc (.int .u32 (u2 .or a b))) [] []:=H0 _ (.inr (.inr (.inr rfl)))
theorem J5 (op:BinOp) (ho:op = .shl∨op = .shr) (hn:0<=n):aK P np id (.bin op) [.sc (.int .u32 a),.sc (.int .u64 n)] h K=K (.sc (.int .u32 (sh op a n))) [] []:=by
 refine propext ?_
 have e:Aw op (.int .u32 a) (.int .u64 n)=some (.int .u32 (sh op a n)):=by
  rcases ho with rfl | rfl<;>simp[Aw,sh,hn]
 constructor
 .rintro ⟨v,hv,hk⟩
  rw[e] at hv
  cases hv;exact hk
 .exact λ hk=>⟨_,e,hk⟩
@[simp high] theorem lE {a n:Int} (hn:0<=n):aK P np id (.bin .shl) [.sc (.int .u32 a),.sc (.int .u64 n)] h K=K (.sc (.int .u32 (sh .shl a n))) [] []:=J5 _ (.inl rfl) hn
@[simp high] theorem oT {a n:Int} (hn:0<=n):aK P np id (.bin .shr) [.sc (.int .u32 a),.sc (.int .u64 n)] h K=K (.sc (.int .u32 (sh .shr a n))) [] []:=J5 _ (.inr rfl) hn
@[simp high] theorem nX {a:Int}:aK P np id (.un .xor) [.sc (.int .u32 a)] h K=K (.sc (.int .u32 (nt a))) [] []:=by
 refine propext ⟨?_,λ hk=>⟨_,rfl,hk⟩⟩
 rintro⟨v,hv,hk⟩
 cases hv;exact hk
end
theorem HS (x n:Int) (h0:0<=n) (h1:n<=32):AK 282 [wd x,.sc (.int .u64 n)] [] (wd (HO x n)) []:=by
 refine iK.s.ai ?_;have hw:IntKind.u64.wrap (32 - n)=32 - n:=by rw[IntKind.wrap_u64];omega
 have h2:0<=32 - n:=zy
 refine AC (Ad ?_);refine arc ⟨13,[(4,wd (HO x n))],[],96⟩ ?_ ?_
 .simp [h0,h1,hw]
  exact AM [] (by simp[HO])
 exact Bv
def ER:List Int:=[1116352408,1899447441,3049323471,3921009573,961987163,1508970993,2453635748,2870763221,3624381080,310598401,607225278,1426881987,1925078388,2162078206,2614888103,3248222580,3835390401,4022224774,264347078,604807628,770255983,1249150122,1555081692,1996064986,2554220882,2821834349,2952996808,3210313671,3336571891,3584528711,113926993,338241895,666307205,773529912,1294757372,1396182291,1695183700,1986661051,2177026350,2456956037,2730485921,2820302411,3259730800,3345764771,3516065817,3600352804,4094571909,275423344,430227734,506948616,659060556,883997877,958139571,1322822218,1537002063,1747873779,1955562222,2024104815,2227730452,2361852424,2428436474,2756734187,3204031479,3329325298]
theorem TS:ER.length=64:=rfl
theorem Vs:AK 241 [] [] (.rs 0 0 64) [some ⟨1,Ap .u32 ER,0⟩]:=by
 refine Y3.s.ai ?_;refine AC (Ad ?_);refine AC (Ad ?_);exact BG (AG.out [24] [] rfl zz zz zz (by simp[ER]))
abbrev gt (l:List Int) (i:Nat):Int:=l.getD i 0
theorem Ib {l:List Int} {i n:Nat} (hl:l.length=n) (h:i<n):∃ (h:i<l.length),l[i]=gt l i:=by
 have h2:i<l.length:=zy
 exact⟨h2,by simp[gt,h2]⟩
theorem FS {k:IntKind} {l:List Int} {i n:Nat} (hl:l.length=n) (h:i<n):(Ap k l)[i]? = some [AV.sc (.int k (gt l i))]:=by
 have h2:i<l.length:=zy
 simp[gt,h2]
def PO (a b c d:Int):Int:=u2 .or (u2 .or (u2 .or (sh .shl (IntKind.u32.wrap a) 24) (sh .shl (IntKind.u32.wrap b) 16)) (sh .shl (IntKind.u32.wrap c) 8)) (IntKind.u32.wrap d)
def Lx (x:Int):Int:=u2 .xor (u2 .xor (HO x 7) (HO x 18)) (sh .shr x 3)
def La (x:Int):Int:=u2 .xor (u2 .xor (HO x 17) (HO x 19)) (sh .shr x 10)
def FV (B:List Int):Nat->List Int
 | 0=>List.replicate 64 0
 | i+1=>(FV B i).set i (PO (gt B (4*i)) (gt B (4*i+1)) (gt B (4*i+2)) (gt B (4*i+3)))
def DY (B:List Int):Nat->List Int
 | 0=>FV B 16
 | i+1=>(DY B i).set (i+16) (u2 .add (u2 .add (u2 .add (gt (DY B i) i) (Lx (gt (DY B i) (i+1)))) (gt (DY B i) (i+9))) (La (gt (DY B i) (i+14))))
def r3 (x a b c:Int):Int:=u2 .xor (u2 .xor (HO x a) (HO x b)) (HO x c)
def xF (v:List Int) (k w:Int):Int:=u2 .add (u2 .add (u2 .add (u2 .add (gt v 7) (r3 (gt v 4) 6 11 25)) (u2 .xor (u2 .and (gt v 4) (gt v 5)) (u2 .and (nt (gt v 4)) (gt v 6)))) k) w
def mF (v:List Int):Int:=u2 .xor (u2 .xor (u2 .and (gt v 0) (gt v 1)) (u2 .and (gt v 0) (gt v 2))) (u2 .and (gt v 1) (gt v 2))
def vF (H B C:List Int):Nat->List Int
 | 0=>H
 | i+1 =>
   let v:=vF H B C i
   let x:=xF v (gt C i) (gt (DY B 48) i)
   [u2 .add (u2 .add x (r3 (gt v 0) 2 13 22)) (mF v),gt v 0,gt v 1,gt v 2,u2 .add (gt v 3) x,gt v 4,gt v 5,gt v 6]
def oF (H B C:List Int):Nat->List Int
 | 0=>vF H B C 64
 | i+1=>(oF H B C i).set i (u2 .add (gt (oF H B C i) i) (gt H i))
def J2 (H B C:List Int):List Int:=oF H B C 8
theorem Ma (B:List Int):∀ i,(FV B i).length=64
 | 0=>by simp[FV]
 | i+1=>by rw[FV,Ux,Ma B i]
theorem My (B:List Int):∀ i,(DY B i).length=64
 | 0=>Ma B 16
 | i+1=>by rw[DY,Ux,My B i]
theorem RE {H B C:List Int} (hH:H.length=8):∀ i,(vF H B C i).length=8
 | 0=>hH
 | i+1=>rfl
theorem OW {H B C:List Int} (hH:H.length=8):∀ i,(oF H B C i).length=8
 | 0=>RE hH 64
 | i+1=>by rw[oF,Ux,OW hH i]
theorem Le.X1 {st st':St} {X:List (List AV)} (q:∀ ρ sn h m,X.map (List.map (conv ρ sn h (m+1)))=X) (i j:Nat) (sn:List Nat) (u:st'.sz=st.sz) (hh:st'.h=[(j,some ⟨1,X,0⟩)]) (hi:j<st'.n) (hs:∀ j∈sn,j≠i) (h0:st.hp i=some ⟨1,X,0⟩) (ht:∀ p∈st'.t,Wk (conv [(i,j)] sn st.hp 4 (st.get p.1)) p.2):Le 0 st st' :=
 Le.ren1 i j sn u hh hi hs h0 (by simp only[Ak,q]) (Qh _) ht
theorem fV (H B C:List Int) (hH:H.length=8) (hB:B.length=64) (hC:C.length=64):AK 242 [Bm H,Ek B,Bm C] [] (.rs 0 0 8) [some ⟨1,Ap .u32 (J2 H B C),0⟩]:=by
 refine Vt.s.ai ?_;have h3:∀ (l:List Int) ρ sn h m,(Ap .u32 l).map (List.map (conv ρ sn h (m+1)))=Ap .u32 l:=λ l=>NT .u32 l
 refine ar [0,1,2] [] [] 24 ?_;apply ak [0,1,2,7] [24] 40
 .simp
  rfl
 refine AC ?_;apply ak [0,1,2,7,8] [24] 48
 .simp
  rfl
 refine AI (Ag (ι:=Nat) (λ i=>⟨256,[(0,Bm H),(1,Ek B),(2,Bm C),(7,.rs 24 0 64),(8,.I i)],[(24,some ⟨1,Ap .u32 (FV B i),0⟩)],48⟩) (λ i=>i<=16) (λ i=>16 - i) 0 zy (Le.refl _ _) ?_)
 intro i hi;refine AC (arc ⟨256,[(0,Bm H),(1,Ek B),(2,Bm C),(7,.rs 24 0 64),(8,.I i),(21,.B (decide (i<16)))],[(24,some ⟨1,Ap .u32 (FV B i),0⟩)],64⟩ ?_ ?_)
 .simp
  exact Le.keep rfl (Qg _) (by simp<;>omega) zz
 refine AD _ rfl (λ h=>AE ?_) λ h=>Aa (Ab ?_)
 .simp only[Qb] at h
  refine BO ⟨256,[(0,Bm H),(1,Ek B),(2,Bm C),(7,.rs 24 0 64),(8,.I i)],[(24,some ⟨1,Ap .u32 (FV B (i+1)),0⟩)],360⟩ ?_ ?_
  .obtain ⟨p,hp⟩:=AL (4*i)
   obtain⟨p1,ho⟩:∃ q,q=p+1:=⟨_,rfl⟩;obtain⟨p2,hq⟩:∃ q,q=p+2:=⟨_,rfl⟩;obtain⟨p3,hr⟩:∃ q,q=p+3:=⟨_,rfl⟩;have ht:IntKind.i64.wrap (4*(i:Int))=(p:Int):=by rw[w6];omega
   have hu:IntKind.i64.wrap ((p:Int)+1)=(p1:Int):=by rw[w6];omega
   have h4:IntKind.i64.wrap ((p:Int)+2)=(p2:Int):=by rw[w6];omega
   have hv:IntKind.i64.wrap ((p:Int)+3)=(p3:Int):=by rw[w6];omega
   obtain⟨l0,g0⟩:=Ib hB (show p<64 by omega)
   obtain⟨l1,g1⟩:=Ib hB (show p1<64 by omega)
   obtain⟨l2,g2⟩:=Ib hB (show p2<64 by omega)
   obtain⟨l3,g3⟩:=Ib hB (show p3<64 by omega)
   have hs:Ap .u32 (FV B (i+1))=(Ap .u32 (FV B i)).set i [wd (PO (gt B p) (gt B p1) (gt B p2) (gt B p3))]:=by rw[FV,Ap,Va,ho,hq,hr,hp]
   obtain⟨z,hz⟩:=AL (PO (gt B p) (gt B p1) (gt B p2) (gt B p3));rw[<- hz] at hs;rw[hs];have hg:=FS (k:=.u32) (Ma B i) (show i<64 by omega)
   have hX:=h3 (FV B i);generalize Ap .u32 (FV B i)=X at *;generalize gt (FV B i) i=o at *;have h2:∀ ρ sn h m,(X.set i [wd z]).map (List.map (conv ρ sn h (m+1)))=X.set i [wd z]:=λ ρ sn h m=>by rw[Va,hX];simp
   generalize a1:gt B p=c0 at *;generalize a3:gt B p1=c1 at *;generalize a4:gt B p2=c2 at *;generalize a5:gt B p3=c3 at *;refine AI (Cn rfl ?_);simp[ht,hu,h4,hv,l0,l1,l2,l3,g0,g1,g2,g3,h,hg,show (i:Int)<64 by omega,AZ]
   have hw:u2 .or (u2 .or (u2 .or (sh .shl (IntKind.u32.wrap c0) 24) (sh .shl (IntKind.u32.wrap c1) 16)) (sh .shl (IntKind.u32.wrap c2) 8)) (IntKind.u32.wrap c3)=z:=hz.symm;simp only[hw];exact⟨rfl,Le.X1 h2 24 24 [] rfl rfl zz zz rfl zz⟩
  have h1:=wq (k:=i);refine AU rfl ?_;simp[h1];exact⟨i+1,zy,zy,Le.K1 24 24 [] rfl rfl zz zz rfl zz⟩
 simp only[Qd] at h;obtain rfl:i=16:=zy
 refine AC ?_;apply ak [0,2,7,9] [24] 72
 .simp [DY]
  rfl
 refine AI (Ag (ι:=Nat) (λ i=>⟨256,[(0,Bm H),(2,Bm C),(7,.rs 24 0 64),(9,.I (i+16:Nat))],[(24,some ⟨1,Ap .u32 (DY B i),0⟩)],72⟩) (λ i=>i<=48) (λ i=>48 - i) 0 zy (Le.refl _ _) ?_)
 intro i hi;obtain⟨m,hm⟩:=AL (i+16);rw[<- hm];refine AC (arc ⟨256,[(0,Bm H),(2,Bm C),(7,.rs 24 0 64),(9,.I m),(61,.B (decide (i<48)))],[(24,some ⟨1,Ap .u32 (DY B i),0⟩)],88⟩ ?_ ?_)
 .simp
  exact Le.keep rfl (Qg _) zu zz
 refine AD _ rfl (λ h=>AE ?_) λ h=>Aa (Ab ?_)
 .simp only[Qb] at h
  refine BO ⟨256,[(0,Bm H),(2,Bm C),(7,.rs 24 0 64),(9,.I m)],[(24,some ⟨1,Ap .u32 (DY B (i+1)),0⟩)],576⟩ ?_ ?_
  .have h5:IntKind.i64.wrap ((m:Int) - 15)=((i+1:Nat):Int):=by rw[w6];omega
   have h4:IntKind.i64.wrap ((m:Int) - 2)=((i+14:Nat):Int):=by rw[w6];omega
   have ha:IntKind.i64.wrap ((m:Int) - 16)=((i:Nat):Int):=by rw[w6];omega
   have hb:IntKind.i64.wrap ((m:Int) - 7)=((i+9:Nat):Int):=by rw[w6];omega
   have u:=My B i;have g15:=FS (k:=.u32) u (show i+1<64 by omega)
   have g2:=FS (k:=.u32) u (show i+14<64 by omega)
   have g16:=FS (k:=.u32) u (show i<64 by omega)
   have g7:=FS (k:=.u32) u (show i+9<64 by omega)
   have gm:=FS (k:=.u32) u (show m<64 by omega)
   have hs:Ap .u32 (DY B (i+1))=(Ap .u32 (DY B i)).set m [wd (u2 .add (u2 .add (u2 .add (gt (DY B i) i) (Lx (gt (DY B i) (i+1)))) (gt (DY B i) (i+9))) (La (gt (DY B i) (i+14))))]:=by rw[DY,Ap,Va,hm]
   have hX:=h3 (DY B i);generalize gt (DY B i) (i+1)=a15 at *;generalize gt (DY B i) (i+14)=a2 at *;generalize gt (DY B i) i=a16 at *;generalize gt (DY B i) (i+9)=a7 at *;generalize gt (DY B i) m=am at *;generalize Ap .u32 (DY B i)=X at *;obtain⟨hx,hd⟩:∃ q,q=i+1:=⟨_,rfl⟩;obtain⟨q2,hq2⟩:∃ q,q=i+14:=⟨_,rfl⟩;obtain⟨q7,hy⟩:∃ q,q=i+9:=⟨_,rfl⟩;rw[<- hd] at h5 g15;rw[<- hq2] at h4 g2;rw[<- hy] at hb g7;obtain⟨b15,h6⟩:∃ b,b=Lx a15:=⟨_,rfl⟩;obtain⟨b2,he⟩:∃ b,b=La a2:=⟨_,rfl⟩;rw[<- h6,<- he] at hs;obtain⟨z,hz⟩:=AL (u2 .add (u2 .add (u2 .add a16 b15) a7) b2);rw[<- hz] at hs;rw[hs];have h2:∀ ρ sn h m',(X.set m [wd z]).map (List.map (conv ρ sn h (m'+1)))=X.set m [wd z]:=λ ρ sn h m'=>by rw[Va,hX];simp
   refine AI (BM ⟨256,[(0,Bm H),(2,Bm C),(7,.rs 24 0 64),(9,.I m),(10,wd b15)],[(24,some ⟨1,X,0⟩)],256⟩ ?_ ?_)
   .simp [h5,g15,show (hx:Int)<64 by omega]
    refine AT (HS a15 7 zx zx) rfl ?_
    simp[g15];refine AT (HS a15 18 zx zx) rfl ?_
    simp[g15];exact⟨rfl,Le.keep rfl (Qg _) (by simp[h6,Lx]) zz⟩
   refine BM ⟨256,[(0,Bm H),(2,Bm C),(7,.rs 24 0 64),(9,.I m),(10,wd b15),(11,wd b2)],[(24,some ⟨1,X,0⟩)],424⟩ ?_ ?_
   .simp [h4,g2,show (q2:Int)<64 by omega]
    refine AT (HS a2 17 zx zx) rfl ?_
    simp[g2];refine AT (HS a2 19 zx zx) rfl ?_
    simp[g2];exact⟨rfl,Le.keep rfl (Qg _) (by simp[he,La]) zz⟩
   refine Cn rfl ?_;simp[ha,hb,g16,g7,gm,show (q7:Int)<64 by omega,show (i:Int)<64 by omega,show (m:Int)<64 by omega,AZ,<- hz]
   exact⟨rfl,Le.X1 h2 24 24 [] rfl rfl zz zz rfl zz⟩
  have h1:IntKind.i64.wrap ((m:Int)+1)=((i+1+16:Nat):Int):=by rw[w6];omega
  refine AU rfl ?_;simp[h1];exact⟨i+1,zy,zy,Le.K1 24 24 [] rfl rfl zz zz rfl zz⟩
 simp only[Qd] at h;obtain rfl:i=48:=zy
 obtain⟨W,hW⟩:=AL (DY B 48);have hf:W.length=64:=by rw[hW];exact My B 48
 rw[<- hW];refine arc ⟨256,[(0,Bm H),(2,Bm C),(7,Bm W),(12,.rs 96 0 8)],[(96,some ⟨1,Ap .u32 (vF H B C 0),0⟩)],112⟩ ?_ ?_
 .simp [hH]
  have a6:List.take 64 (Ap .u32 W)=Ap .u32 W:=Qc (by rw[FA];omega)
  exact Le.ren1 96 96 [24] rfl rfl zz zz rfl (by simp[vF,AB]) zz (by simp[AB,hf];rw[Qc zu];exact .refl _)
 refine AC ?_;apply ak [0,2,7,12,13] [96] 120
 .simp
  rfl
 refine AI (Ag (ι:=Nat) (λ i=>⟨256,[(0,Bm H),(2,Bm C),(7,Bm W),(12,.rs 96 0 8),(13,.I i)],[(96,some ⟨1,Ap .u32 (vF H B C i),0⟩)],120⟩) (λ i=>i<=64) (λ i=>64 - i) 0 zy (Le.refl _ _) ?_)
 intro i hi;refine AC (arc ⟨256,[(0,Bm H),(2,Bm C),(7,Bm W),(12,.rs 96 0 8),(13,.I i),(125,.B (decide (i<64)))],[(96,some ⟨1,Ap .u32 (vF H B C i),0⟩)],136⟩ ?_ ?_)
 .simp
  exact Le.keep rfl (Qg _) (by simp<;>omega) zz
 refine AD _ rfl (λ h=>AE ?_) λ h=>Aa (Ab ?_)
 .simp only[Qb] at h
  refine BO ⟨256,[(0,Bm H),(2,Bm C),(7,Bm W),(12,.rs 96 0 8),(13,.I i)],[(96,some ⟨1,Ap .u32 (vF H B C (i+1)),0⟩)],1088⟩ ?_ ?_
  .have h0:=RE (B:=B) (C:=C) hH i
   have hs:vF H B C (i+1)=[u2 .add (u2 .add (xF (vF H B C i) (gt C i) (gt W i)) (r3 (gt (vF H B C i) 0) 2 13 22)) (mF (vF H B C i)),gt (vF H B C i) 0,gt (vF H B C i) 1,gt (vF H B C i) 2,u2 .add (gt (vF H B C i) 3) (xF (vF H B C i) (gt C i) (gt W i)),gt (vF H B C i) 4,gt (vF H B C i) 5,gt (vF H B C i) 6]:=by rw[hW];rfl
   rw[hs];generalize vF H B C i=v at *;have g0:=FS (k:=.u32) h0 (show 0<8 by omega)
   have g1:=FS (k:=.u32) h0 (show 1<8 by omega)
   have g2:=FS (k:=.u32) h0 (show 2<8 by omega)
   have g3:=FS (k:=.u32) h0 (show 3<8 by omega)
   have g4:=FS (k:=.u32) h0 (show 4<8 by omega)
   have g5:=FS (k:=.u32) h0 (show 5<8 by omega)
   have g6:=FS (k:=.u32) h0 (show 6<8 by omega)
   have g7:=FS (k:=.u32) h0 (show 7<8 by omega)
   obtain⟨lc,gc⟩:=Ib hC h;obtain⟨lw,gw⟩:=Ib hf h;have hh:xF v (gt C i) (gt W i)=u2 .add (u2 .add (u2 .add (u2 .add (gt v 7) (r3 (gt v 4) 6 11 25)) (u2 .xor (u2 .and (gt v 4) (gt v 5)) (u2 .and (nt (gt v 4)) (gt v 6)))) (gt C i)) (gt W i):=rfl;have hj:mF v=u2 .xor (u2 .xor (u2 .and (gt v 0) (gt v 1)) (u2 .and (gt v 0) (gt v 2))) (u2 .and (gt v 1) (gt v 2)):=rfl;have hX:=h3 v;generalize gt C i=ck at *;generalize gt W i=wk at *;generalize Ap .u32 v=X at *;generalize gt v 0=v0 at *;generalize gt v 1=v1 at *;generalize gt v 2=v2 at *;generalize gt v 3=v3 at *;generalize gt v 4=v4 at *;generalize gt v 5=v5 at *;generalize gt v 6=v6 at *;generalize gt v 7=v7 at *;obtain⟨s,hk⟩:=AL (r3 v4 6 11 25);obtain⟨c,hl⟩:=AL (u2 .xor (u2 .and v4 v5) (u2 .and (nt v4) v6));obtain⟨x,h8⟩:=AL (xF v ck wk);obtain⟨s',h7⟩:∃ s,s=r3 v0 2 13 22:=⟨_,rfl⟩;obtain⟨y,h9⟩:=AL (mF v);rw[<- hk,<- hl,<- h8] at hh;rw[<- h9] at hj;rw[<- h8,<- h7,<- h9]
   clear h8 h9
   refine AI (BM ⟨256,[(0,Bm H),(2,Bm C),(7,Bm W),(12,.rs 96 0 8),(13,.I i),(14,wd s)],[(96,some ⟨1,X,0⟩)],256⟩ ?_ ?_)
   .simp [g4]
    refine AT (HS v4 6 zx zx) rfl ?_
    simp[g4];refine AT (HS v4 11 zx zx) rfl ?_
    simp[g4];refine AT (HS v4 25 zx zx) rfl ?_
    simp;exact⟨rfl,Le.keep rfl (Qg _) (by simp[hk,r3]) zz⟩
   refine BM ⟨256,[(0,Bm H),(2,Bm C),(7,Bm W),(12,.rs 96 0 8),(13,.I i),(14,wd s),(15,wd c)],[(96,some ⟨1,X,0⟩)],392⟩ ?_ ?_
   .simp [g4,g5,g6]
    exact⟨rfl,Le.keep rfl (Qg _) (by simp[hl]) zz⟩
   refine BM ⟨256,[(0,Bm H),(2,Bm C),(7,Bm W),(12,.rs 96 0 8),(13,.I i),(16,wd x)],[(96,some ⟨1,X,0⟩)],536⟩ ?_ ?_
   .simp [g7,lc,gc,lw,gw]
    exact⟨rfl,Le.keep rfl (Qg _) (by simp[hh]) zz⟩
   refine BM ⟨256,[(0,Bm H),(2,Bm C),(7,Bm W),(12,.rs 96 0 8),(13,.I i),(16,wd x),(14,wd s')],[(96,some ⟨1,X,0⟩)],656⟩ ?_ ?_
   .simp [g0]
    refine AT (HS v0 2 zx zx) rfl ?_
    simp[g0];refine AT (HS v0 13 zx zx) rfl ?_
    simp[g0];refine AT (HS v0 22 zx zx) rfl ?_
    simp;exact⟨rfl,Le.keep rfl (Qg _) (by simp[h7,r3]) zz⟩
   refine BM ⟨256,[(0,Bm H),(2,Bm C),(7,Bm W),(12,.rs 96 0 8),(13,.I i),(16,wd x),(14,wd s'),(17,wd y)],[(96,some ⟨1,X,0⟩)],848⟩ ?_ ?_
   .simp [g0,g1,g2]
    exact⟨rfl,Le.keep rfl (Qg _) (by simp[hj]) zz⟩
   refine Cn rfl ?_;simp[g0,g1,g2,g3,g4,g5,g6];exact⟨rfl,Le.ren1 1072 96 [] rfl rfl zz zz rfl zz zz zz⟩
  have h1:=wq (k:=i);refine AU rfl ?_;simp[h1];exact⟨i+1,zy,zy,Le.K1 96 96 [] rfl rfl zz zz rfl zz⟩
 simp only[Qd] at h;obtain rfl:i=64:=zy
 refine AC ?_;apply ak [0,12,18] [96] 144
 .simp
  rfl
 refine AI (Ag (ι:=Nat) (λ i=>⟨256,[(0,Bm H),(12,.rs 96 0 8),(18,.I i)],[(96,some ⟨1,Ap .u32 (oF H B C i),0⟩)],144⟩) (λ i=>i<=8) (λ i=>8 - i) 0 zy (Le.refl _ _) ?_)
 intro i hi;refine AC (arc ⟨256,[(0,Bm H),(12,.rs 96 0 8),(18,.I i),(242,.B (decide (i<8)))],[(96,some ⟨1,Ap .u32 (oF H B C i),0⟩)],160⟩ ?_ ?_)
 .simp
  exact Le.keep rfl (Qg _) (by simp<;>omega) zz
 refine AD _ rfl (λ h=>AE ?_) λ h=>Aa (Ab ?_)
 .simp only[Qb] at h
  refine BO ⟨256,[(0,Bm H),(12,.rs 96 0 8),(18,.I i)],[(96,some ⟨1,Ap .u32 (oF H B C (i+1)),0⟩)],248⟩ ?_ ?_
  .have a0:=OW (B:=B) (C:=C) hH i
   have hg:=FS (k:=.u32) a0 h;obtain⟨lh,gh⟩:=Ib hH h;obtain⟨z,hz⟩:=AL (u2 .add (gt (oF H B C i) i) (gt H i));have hs:Ap .u32 (oF H B C (i+1))=(Ap .u32 (oF H B C i)).set i [wd z]:=by rw[oF,Ap,Va,hz]
   rw[hs];have hX:=h3 (oF H B C i);generalize gt (oF H B C i) i=a at *;generalize gt H i=b at *;generalize Ap .u32 (oF H B C i)=X at *;have h2:∀ ρ sn h m,(X.set i [wd z]).map (List.map (conv ρ sn h (m+1)))=X.set i [wd z]:=λ ρ sn h m=>by rw[Va,hX];simp
   refine AI (Cn rfl ?_);simp[hg,lh,gh,h,show (i:Int)<8 by omega,AZ,<- hz]
   exact⟨rfl,Le.X1 h2 96 96 [] rfl rfl zz zz rfl zz⟩
  have h1:=wq (k:=i);refine AU rfl ?_;simp[h1];exact⟨i+1,zy,zy,Le.K1 96 96 [] rfl rfl zz zz rfl zz⟩
 simp only[Qd] at h;obtain rfl:i=8:=zy
 refine AC (Ad ?_);exact BG (AG.out [96] [] rfl zz zz zz (by simp[J2,AB]))
section
variable {P:Program} {np id:Nat} {h:Nat->Option AX} {K:AV->List Nat->List (Nat × Option AX)->Prop} {s s':Nat} {f:Bool} {rows:List (List AV)} {k l:Nat}
@[simp] theorem nM:aK P np id (.slc s true true false) [.vs s' f rows,.sc (.int .i64 (l:Int)),.sc (.int .i64 (k:Int))] h K=(l<=k/\k<=rows.length/\s'=s/\K (.vs s false ((rows.drop l).take (k - l))) [] []):=by
 rw[GS];refine propext ⟨?_,?_⟩
 .rintro ⟨l',r,m,n,h1,h2,h4,h5,h6,h7,h3,q,h8,h9⟩
  simp at h4 h1;subst h1;obtain⟨rfl,rfl⟩:l=l'/\k=r:=zy
  exact⟨h2,h3,h8,by simpa using h9⟩
 .rintro ⟨h1,h2,h3,h4⟩
  exact⟨l,k,0,rows.length,rfl,h1,zz,(λ h=>by cases h),(λ h=>by cases h),(λ h=>by cases h),h2,(λ h=>by cases h),h3,by simpa using h4⟩
end
theorem V6 (l:List Int):IP (Ap .u8 l)=some (l.map λ n=>UInt8.ofNat n.toNat):=by
 induction l with
 | nil=>rfl
 | cons x l ih =>
   show (IP (Ap .u8 l)).map _=_;rw[ih];rfl
def GZ:List Int:=[1779033703,3144134277,1013904242,2773480762,1359893119,2600822924,528734635,1541459225]
def KH (L:Nat):Nat:=(120 - (L+1) % 64) % 64
def Ob (L:Nat):Int:=IntKind.u64.wrap (IntKind.u64.wrap (L:Int)*8)
def E4 (b:List Int):List Int:=b++[128]++List.replicate (KH b.length) 0++Au (Ob b.length)
def hF (M:List Int):Nat->List Int
 | 0=>GZ
 | i+1=>J2 (hF M i) ((M.drop (64*i)).take 64) ER
def He (x:Int):List Int:=[IntKind.u8.wrap (sh .shr x 24),IntKind.u8.wrap (sh .shr x 16),IntKind.u8.wrap (sh .shr x 8),IntKind.u8.wrap x]
def Ej (h:List Int):Nat->List Int
 | 0=>[]
 | i+1=>Ej h i++He (gt h i)
def FN (b:List Int):ByteArray:=⟨((Ej (hF (E4 b) ((E4 b).length / 64)) 8).map λ n=>UInt8.ofNat n.toNat).toArray⟩
theorem MG (h:List Int):∀ i,(Ej h i).length=4*i
 | 0=>rfl
 | i+1=>by rw[Ej,Qe,MG h i];simp[He];omega
theorem O8 (b:List Int):(FN b).size=32:=by
 show ((Ej _ 8).map _).toArray.size=32;simp[MG]
theorem d7 {H B C:List Int} (hH:H.length=8):(J2 H B C).length=8:=OW hH 8
theorem Lr (M:List Int):∀ i,(hF M i).length=8
 | 0=>rfl
 | i+1=>d7 (Lr M i)
theorem kO (b:List Int):(E4 b).length=b.length+1+KH b.length+8:=by simp[E4,Dt];omega
theorem eL (b:List Int):(E4 b).length % 64=0:=by rw[kO];unfold KH;omega
theorem L4 (b:List Int) (hl:b.length<=1073741824):AK 177 [Ek b] [] (.sc (.string (FN b))) []:=by
 refine dE.s.ai ?_;obtain⟨L,hL⟩:=AL (b.length);obtain⟨Z,hZ⟩:=AL (KH L);have a8:Z=(120 - (L+1) % 64) % 64:=hZ;have h0:∀ (k:IntKind) (l:List Int) ρ sn h m,(Ap k l).map (List.map (conv ρ sn h (m+1)))=Ap k l:=NT
 refine ar [0] [] [] 24 ?_;refine arc ⟨87,[(0,Ek b),(3,.rs 24 0 8)],[(24,some ⟨1,Ap .u32 GZ,0⟩)],40⟩ ?_ ?_
 .simp
  exact Le.keep rfl (Qg _) zz (by simp[GZ])
 let m:Nat->List Int:=λ z=>b++[128]++List.replicate z 0
 have hg:∀ z,(m z).length=L+1+z:=λ z=>by simp[m,hL];omega
 have hh:∀ z,m (z+1)=m z++[0]:=λ z=>by simp[m,List.replicate_succ']
 have h3:b++[128]++List.replicate (KH b.length) 0=m Z:=by rw[hZ,hL]
 refine arc ⟨87,[(0,Ek b),(3,.rs 24 0 8),(4,.rs 64 0 (L+1+0))],[(24,some ⟨1,Ap .u32 GZ,0⟩),(64,some ⟨1,Ap .u8 (m 0),0⟩)],80⟩ ?_ ?_
 .simp [<- hL]
  repeat' apply And.intro
  all_goals first | omega | exact Le.keep rfl (Qg _) zz (by simp[m,hL])
 clear_value m
 refine AC (AI (Ag (ι:=Nat) (λ z=>⟨87,[(0,Ek b),(3,.rs 24 0 8),(4,.rs 64 0 (L+1+z))],[(24,some ⟨1,Ap .u32 GZ,0⟩),(64,some ⟨1,Ap .u8 (m z),0⟩)],80⟩) (λ z=>z<=Z) (λ z=>Z - z) 0 zy (Le.refl _ _) ?_))
 intro z hz;obtain⟨N,hN⟩:=AL (L+1+z);have h4:Int.tmod (N:Int) 64=((N % 64:Nat):Int):=rfl;have u:=hg z;rw[<- hN] at u;rw[<- hN];refine AC (arc ⟨87,[(0,Ek b),(3,.rs 24 0 8),(4,.rs 64 0 N),(19,.B (decide (z<Z)))],[(24,some ⟨1,Ap .u32 GZ,0⟩),(64,some ⟨1,Ap .u8 (m z),0⟩)],112⟩ ?_ ?_)
 .simp [h4,-Int.natCast_emod]
  exact Le.keep rfl (Qg _) (by simp[-Int.natCast_emod];rw[Qk];simp[-Int.natCast_emod];omega) zz
 refine AD _ rfl (λ h=>AE ?_) λ h=>Aa (Ab ?_)
 .simp only[Qb] at h
  have a9:N<=1073741900:=zy
  have hs:=hh z;have hX:=h0 .u8 (m (z+1));have hm:Ap .u8 (m (z+1))=Ap .u8 (m z)++[[.sc (.int .u8 0)]]:=by rw[hs,Ap,List.map_append];rfl
  have ag:(Ap .u8 (m z)).length=N:=by rw[FA,u]
  refine AI (AU rfl ?_);simp[u];refine⟨zy,z+1,zy,zy,?_⟩
  refine Le.ents [(24,24),(128,64)] [] rfl zz zz zz zz zz (by simp;exact Dy zu) λ p hp=>?_
  simp only[Qv,Ue,or_false] at hp;rcases hp with rfl | rfl
  .exact ⟨24,_,_,rfl,zz,rfl,Av.eq (by simp only[Ak,h0]) zz⟩
  .exact ⟨128,_,_,rfl,zz,rfl,Av.eq (by
    show Ak _ _ _ _ ⟨1,List.take N (Ap .u8 (m z))++[[.sc (.int .u8 0)]],0⟩=_;rw[Qc zy,<- hm]
    simp only[Ak,h0]) zz⟩
 simp only[Qd] at h;obtain rfl:z=Z:=zy
 obtain⟨M0,ho⟩:=AL (m z);rw[<- ho] at u h3 ⊢;obtain⟨bt,h5⟩:=AL (Ob L);refine arc ⟨87,[(3,.rs 24 0 8),(4,.rs 64 0 N),(5,.sc (.int .u64 bt))],[(24,some ⟨1,Ap .u32 GZ,0⟩),(64,some ⟨1,Ap .u8 M0,0⟩)],152⟩ ?_ ?_
 .simp [<- hL]
  exact Le.keep rfl (Qg _) (by simp[h5,Ob]) zz
 let q:Nat->List Int:=λ j=>M0++GW bt j
 have h6:∀ j,(q j).length=N+j:=λ j=>by simp only[q];rw[Qe,ML,u]
 have hq:∀ j,q (j+1)=q j++[GA bt (7 - j)]:=λ j=>by simp only[q];rw[NI,Qq]
 have hr:q 0=M0:=by simp[q,GW]
 have h7:q 8=E4 b:=by
  simp only[q];rw[E4,h3,h5,hL];rfl
 refine AC (arc ⟨87,[(3,.rs 24 0 8),(4,.rs 64 0 (N+0)),(5,.sc (.int .u64 bt)),(6,.I (7 - (0:Nat)))],[(24,some ⟨1,Ap .u32 GZ,0⟩),(64,some ⟨1,Ap .u8 (q 0),0⟩)],160⟩ ?_ ?_)
 .simp [hr]
  exact BD
 clear_value q
 refine AI (Ag (ι:=Nat) (λ j=>⟨87,[(3,.rs 24 0 8),(4,.rs 64 0 (N+j)),(5,.sc (.int .u64 bt)),(6,.I (7 - (j:Int)))],[(24,some ⟨1,Ap .u32 GZ,0⟩),(64,some ⟨1,Ap .u8 (q j),0⟩)],160⟩) (λ j=>j<=8) (λ j=>8 - j) 0 zy (Le.refl _ _) ?_)
 intro j hj;refine AC (arc ⟨87,[(3,.rs 24 0 8),(4,.rs 64 0 (N+j)),(5,.sc (.int .u64 bt)),(6,.I (7 - (j:Int))),(28,.B (decide (j<8)))],[(24,some ⟨1,Ap .u32 GZ,0⟩),(64,some ⟨1,Ap .u8 (q j),0⟩)],176⟩ ?_ ?_)
 .simp
  exact Le.keep rfl (Qg _) zu zz
 refine AD _ rfl (λ h=>AE ?_) λ h=>Aa (Ab ?_)
 .simp only[Qb] at h
  refine BO ⟨87,[(3,.rs 24 0 8),(4,.rs 64 0 (N+(j+1))),(5,.sc (.int .u64 bt)),(6,.I (7 - (j:Int)))],[(24,some ⟨1,Ap .u32 GZ,0⟩),(64,some ⟨1,Ap .u8 (q (j+1)),0⟩)],256⟩ ?_ ?_
  .have hs:=hq j
   have ht:=h6 j;rw[hs];generalize q j=Y at *;obtain⟨k,hk⟩:∃ k:Nat,7 - (j:Int)=k:=⟨7 - j,zy⟩
   have hu:7 - j=k:=zy
   have h8:IntKind.i64.wrap (8*(k:Int))=((8*k:Nat):Int):=by rw[w6];omega
   have h9:IntKind.u64.wrap ((8*k:Nat):Int)=((8*k:Nat):Int):=by rw[IntKind.wrap_u64];omega
   have hb:GA bt k=IntKind.u8.wrap (bt.fdiv (2 ^ (min (8*k) 64))):=rfl;rw[hk,hu];generalize GA bt k=y at hb ⊢;obtain⟨s,hv⟩:=AL (8*k);rw[<- hv] at h8 h9 hb;refine AI (AU rfl ?_);simp[h8,h9,IntKind.bits,<- hb,ht];have h1:List.take (N+j) (Ap .u8 Y)=Ap .u8 Y:=Qc (by rw[FA];omega)
   refine⟨zy,?_⟩
   refine Le.ents [(24,24),(240,64)] [] rfl zz zz zz zz zz (by simp;exact Dy zu) λ p hp=>?_
   simp only[Qv,Ue,or_false] at hp;rcases hp with rfl | rfl
   .exact ⟨24,_,_,rfl,zz,rfl,Av.eq (by simp only[Ak,h0]) zz⟩
   .exact ⟨240,_,_,rfl,zz,rfl,Av.eq (by
     show Ak _ _ _ _ ⟨1,List.take (N+j) (Ap .u8 Y)++[[.sc (.int .u8 y)]],0⟩=_;rw[h1]
     simp[Ak,AB]) zz⟩
  have hw:IntKind.i64.wrap (7 - (j:Int) - 1)=7 - ((j+1:Nat):Int):=by rw[w6];omega
  refine AU rfl ?_;simp[hw];refine⟨j+1,zy,zy,?_⟩
  refine Le.ents [(24,24),(64,64)] [] rfl zz zz zz zz zz zz λ p hp=>?_
  simp only[Qv,Ue,or_false] at hp;rcases hp with rfl | rfl
  .exact ⟨24,_,_,rfl,zz,rfl,Av.eq (by simp only[Ak,h0]) zz⟩
  .exact ⟨64,_,_,rfl,zz,rfl,Av.eq (by simp only[Ak,h0]) zz⟩
 simp only[Qd] at h;obtain rfl:j=8:=zy
 obtain⟨M,hM⟩:=AL (E4 b);have hx:M.length=N+8:=by rw[hM,<- h7];exact h6 8
 have a7:M.length % 64=0:=by rw[hM];exact eL b
 obtain⟨nb,hy⟩:=AL (M.length / 64);have ha:FN b=⟨((Ej (hF M nb) 8).map λ n=>UInt8.ofNat n.toNat).toArray⟩:=by rw[hy,hM];rfl
 rw[h7,<- hM,<- hx,ha];refine arc ⟨87,[(3,Bm (hF M 0)),(4,Ek M),(7,Bm ER)],[],192⟩ ?_ ?_
 .simp
  refine Cu Vs rfl ?_;simp[AB];exact AM [24,64,176] (by simp[AB,hF,GZ,TS,Qc]<;>exact .refl _)
 refine AC (ar [3,4,7,8] [] [] 200 ?_);refine AI (Ag (ι:=Nat) (λ i=>⟨87,[(3,Bm (hF M i)),(4,Ek M),(7,Bm ER),(8,.I (64*i:Nat))],[],200⟩) (λ i=>i<=nb) (λ i=>nb - i) 0 zy (Le.refl _ _) ?_)
 intro i hi;obtain⟨c,hc⟩:=AL (64*i);rw[<- hc];refine AC (arc ⟨87,[(3,Bm (hF M i)),(4,Ek M),(7,Bm ER),(8,.I c),(44,.B (decide (i<nb)))],[],232⟩ ?_ ?_)
 .simp
  exact AM [] (by simp<;>exact An (by rw[Qk];simp;omega))
 refine AD _ rfl (λ h=>AE ?_) λ h=>Aa (Ab ?_)
 .simp only[Qb] at h
  have hd:=fV (hF M i) ((M.drop c).take 64) ER (Lr M i) zu TS
  have a0:hF M (i+1)=J2 (hF M i) ((M.drop c).take 64) ER:=by rw[hF,hc]
  rw[<- a0] at hd;have a1:=Lr M (i+1);obtain⟨c2,am⟩:=AL (c+64);have a2:IntKind.i64.wrap ((c:Int)+64)=(c2:Int):=by rw[w6];omega
  have he:c2 - c=64:=zy
  have hf:IntKind.i64.wrap ((c:Int)+64)=((64*(i+1):Nat):Int):=by rw[w6];omega
  refine BO ⟨87,[(3,Bm (hF M (i+1))),(4,Ek M),(7,Bm ER),(8,.I c)],[],304⟩ ?_ ?_
  .refine AI (AU rfl ?_)
   simp[a2,he];refine⟨zy,zy,?_⟩
   refine Cu hd (by simp[US,Vf]) ?_
   simp[AB];exact AM [288] (by simp[AB,a1];exact Dy (congrArg _ (Qc zu)))
  refine AU rfl ?_;simp[hf];exact⟨i+1,zy,zy,AM [] zz⟩
 simp only[Qd] at h;obtain rfl:i=nb:=zy
 obtain⟨H,hH⟩:=AL (hF M i);have a3:H.length=8:=by rw[hH];exact Lr M i
 rw[<- hH];refine ar [3,9] [] [] 240 ?_;refine AC (ar [3,9,10] [] [] 248 ?_);refine AI (Ag (ι:=Nat) (λ i=>⟨87,[(3,Bm H),(9,.rs 16 0 (4*i)),(10,.I i)],[(16,some ⟨1,Ap .u8 (Ej H i),0⟩)],248⟩) (λ i=>i<=8) (λ i=>8 - i) 0 zy (Le.lst [] [] [(16,1)] rfl zz zz zz zz zz zz zz (by simp[Up]) (by simp[Ej])) ?_)
 intro i hi;refine AC (arc ⟨87,[(3,Bm H),(9,.rs 16 0 (4*i)),(10,.I i),(56,.B (decide (i<8)))],[(16,some ⟨1,Ap .u8 (Ej H i),0⟩)],264⟩ ?_ ?_)
 .simp
  exact Le.keep rfl (Qg _) (by simp<;>omega) zz
 refine AD _ rfl (λ h=>AE ?_) λ h=>Aa (Ab ?_)
 .simp only[Qb] at h
  refine BO ⟨87,[(3,Bm H),(9,.rs 16 0 (4*(i+1))),(10,.I i)],[(16,some ⟨1,Ap .u8 (Ej H (i+1)),0⟩)],480⟩ ?_ ?_
  .obtain ⟨lh,gh⟩:=Ib a3 h
   have h2:=MG H i;have hs:Ej H (i+1)=Ej H i++He (gt H i):=rfl;rw[hs];generalize gt H i=x at *;generalize Ej H i=Y at *;have h1:List.take (4*i) (Ap .u8 Y)=Ap .u8 Y:=Qc (by rw[FA];omega)
   obtain⟨c,hc⟩:=AL (4*i);rw[<- hc] at h2 h1 ⊢;refine AI (Cn rfl ?_);simp[lh,gh,h2];refine⟨zy,rfl,?_⟩
   exact Le.ren1 464 16 [] rfl rfl zz zz rfl (by simp only[Ak];simp[h1,AB,He]) zz (by simp;exact Dy zu)
  have a4:=wq (k:=i);refine AU rfl ?_;simp[a4];exact⟨i+1,zy,zy,Le.K1 16 16 [] rfl rfl zz zz rfl zz⟩
 simp only[Qd] at h;obtain rfl:i=8:=zy
 have h2:=MG H 8;have a5:=V6 (Ej H 8);refine arc ⟨87,[(2,.sc (.string ⟨((Ej H 8).map λ n=>UInt8.ofNat n.toNat).toArray⟩))],[],288⟩ ?_ ?_
 .have h1:List.take 32 (Ap .u8 (Ej H 8))=Ap .u8 (Ej H 8):=Qc (by rw[FA];omega)
  generalize Ej H 8=Y at *;generalize hR:Ap .u8 Y=R at *;have a6:R.length=32:=by rw[<- hR,FA,h2]
  simp[a6,h1,a5];exact AM [] zz
 exact CD [] []
structure Pn where
 a:Int
 h:Int
 d:ByteArray
abbrev FB (p:Pn):List AV:=[.I p.a,.I p.h,.sc (.string p.d)]
abbrev BQ (l:List Pn):AV:=.vs 3 false (l.map FB)
structure AJ where
 au:Int
 nu:Int
 pr:ByteArray
 ti:Int
 ki:Int
 a:Int
 b:Int
 c:Int
 li:List Int
 pi:List Pn
 bo:ByteArray
 sk:Int
 sd:ByteArray
abbrev sC (s:AJ):List AV:=[.I s.au,.I s.nu,.sc (.string s.pr),.I s.ti,.I s.ki,.I s.a,.I s.b,.I s.c,AA s.li,BQ s.pi,.sc (.string s.bo),.I s.sk,.sc (.string s.sd)]
abbrev eS (s:AJ):AV:=.agg (sC s)
abbrev AF (l:List AJ):AV:=.vs 13 false (l.map sC)
def BJ (s:AJ):Prop:=s.pr.size<=5000/\s.bo.size<=5000/\s.li.length<=100/\s.pi.length<=100 /\ ∀ p∈s.pi,p.d.size<=5000
def Fq (p:Pn):List Int:=Au p.a++Au p.h++G2 p.d
def Hl (l:List Pn):List Int:=l.flatMap Fq
def Kd (s:AJ):List Int:=[s.ti,s.ki,s.a,s.b,s.c]
def F8 (s:AJ):List Int:=Au s.au++Au s.nu++G2 s.pr
def HH (s:AJ):List Int:=F8 s++(Kd s).flatMap Au++EM s.li++Au s.pi.length++Hl s.pi++G2 s.bo
theorem Vi (p:Pn):(Fq p).length=24+p.d.size:=by simp[Fq,Dt,KS];omega
theorem ND:∀ (l:List Pn),(∀ p∈l,p.d.size<=5000)->(Hl l).length<=5024*l.length
 | [],_=>by simp[Hl]
 | p::l,h=>by
   have h1:=ND l λ q hq=>h q (Qo _ hq);have h2:=h p Qp;unfold Hl at *;rw[U2,Qe,Vi,QZ];omega
theorem Na (s:AJ):(F8 s).length=24+s.pr.size:=by simp[F8,Dt,KS];omega
theorem bS (s:AJ) (hs:BJ s):AK 178 [eS s] [] (.rs 0 0 (HH s).length) [some ⟨1,Ap .u8 (HH s),0⟩]:=by
 refine fB.s.ac ?_;show AQ _ 0 _ _ ⟨71,[(0,eS s)],[],16⟩;obtain⟨hi,hk,hl,hm,h2⟩:=hs;have h7:=Na s;refine arc ⟨71,[(1,.pv (sC s))],[],32⟩ ?_ ?_
 .simp
  exact AM [16] zz
 have i1:=HV [] s.au _ rfl zz
 have i2:=HV ([]++Au s.au) s.nu _ rfl (by simp[Dt])
 have i3:=Oi ([]++Au s.au++Au s.nu) s.pr (F8 s).length (by simp[Na,Dt];omega) (by simp[Dt]) zy
 have e3:[]++Au s.au++Au s.nu++G2 s.pr=F8 s:=by simp[F8]
 rw[e3] at i3;have l1:([]++Au s.au).length=8:=by simp[Dt]
 have l2:([]++Au s.au++Au s.nu).length=16:=by simp[Dt]
 generalize []++Au s.au++Au s.nu=A2 at *;generalize []++Au s.au=A1 at *;have t1:List.take 8 (Ap .u8 A1)=Ap .u8 A1:=Qc (by rw[FA];omega)
 have t2:List.take 16 (Ap .u8 A2)=Ap .u8 A2:=Qc (by rw[FA];omega)
 refine BM ⟨71,[(1,.pv (sC s)),(3,.rs 96 0 (F8 s).length)],[(96,some ⟨1,Ap .u8 (F8 s),0⟩)],112⟩ ?_ ?_
 .simp
  refine gN i1 (by simp;exact .nil _ _) ?_
  simp[AB];refine HQ [48] i2 (by simp[AB,l1,t1]) (.rs _ _ _) HF ?_
  simp[AB,l1];refine HQ [72] i3 (by simp[AB,l1,l2,t2]) (.rs _ _ _) HF ?_
  simp[AB];exact⟨rfl,BD⟩
 obtain⟨F,hF⟩:=AL (Kd s);have h8:F.length=5:=by rw[hF];rfl
 refine AC ?_
 let Y:Nat->List Int:=λ j=>F8 s++(F.take j).flatMap Au
 have u:∀ j,j<=5->(Y j).length=(F8 s).length+8*j:=λ j hj=>by
  simp only[Y];rw[Qe,Kg,QB];omega
 have h9:∀ j (h:j<F.length),Y (j+1)=Y j++Au F[j]:=λ j h=>by
  simp only[Y];rw[Ql h,List.flatMap_append];simp
 have ha:F8 s=Y 0:=by simp[Y]
 have hb:F8 s++(Kd s).flatMap Au=Y 5:=by simp[Y,<- hF,<- h8]
 obtain⟨L,hL⟩:=AL ((F8 s).length);rw[<- hL] at u h7 ⊢;rw[ha];refine arc ⟨71,[(1,.pv (sC s)),(3,.rs 96 0 (L+8*0)),(27,AA F),(28,.I 5),(29,.I (0:Nat))],[(96,some ⟨1,Ap .u8 (Y 0),0⟩)],216⟩ ?_ ?_
 .simp
  exact Le.K1 96 96 [192] rfl rfl zz zz rfl (by simp[hF,Kd]<;>exact .refl _)
 clear_value Y
 refine AI (Ag (ι:=Nat) (λ j=>⟨71,[(1,.pv (sC s)),(3,.rs 96 0 (L+8*j)),(27,AA F),(28,.I 5),(29,.I j)],[(96,some ⟨1,Ap .u8 (Y j),0⟩)],216⟩) (λ j=>j<=5) (λ j=>5 - j) 0 zy (Le.refl _ _) ?_)
 intro j hj;refine arc ⟨71,[(1,.pv (sC s)),(3,.rs 96 0 (L+8*j)),(27,AA F),(28,.I 5),(29,.I j),(30,.B (decide (j<5)))],[(96,some ⟨1,Ap .u8 (Y j),0⟩)],224⟩ ?_ ?_
 .simp
  exact Le.keep rfl (Qg _) (by simp<;>omega) zz
 refine AC (AD _ rfl (λ h=>AE ?_) λ h=>Aa (Ab ?_))
 .simp only[Qb] at h
  have h3:j<F.length:=zy
  have hs:=h9 j h3;have q1:=u j hj;have q2:=u (j+1) h;have h4:=HV (Y j) F[j] _ rfl zy
  rw[<- hs] at h4;have hg:F[j]? = some F[j]:=Qa h3;refine BO ⟨71,[(1,.pv (sC s)),(3,.rs 96 0 (L+8*(j+1))),(27,AA F),(28,.I 5),(29,.I j)],[(96,some ⟨1,Ap .u8 (Y (j+1)),0⟩)],280⟩ ?_ ?_
  .generalize Y (j+1)=B at *
   generalize Y j=A at *;generalize F[j]=x at *;refine AI (arc ⟨71,[(1,.pv (sC s)),(3,.rs 96 0 (L+8*j)),(27,AA F),(28,.I 5),(29,.I j),(5,.I x)],[(96,some ⟨1,Ap .u8 A,0⟩)],248⟩ ?_ ?_)
   .simp [hg]
    exact BD
   refine AU rfl ?_;simp;refine HQ [96] h4 (by simp[AB,<- q1,CI]) (.rs _ _ _) HF ?_
   simp[AB];exact Le.K1 264 96 [] rfl rfl zz zz zw (by simp;exact Dy zu)
  have h1:=wq (k:=j);refine AU rfl ?_;simp[h1];exact⟨j+1,zy,zy,Le.K1 96 96 [] rfl rfl zz zz rfl zz⟩
 simp only[Qd] at h;obtain rfl:j=5:=zy
 have q5:=u 5 zy
 have i4:=tK (Y 5) s.li _ rfl zy zy
 have i5:=HV (Y 5++EM s.li) s.pi.length (L+40+(8*s.li.length+8)+8) (by rw[Qe,q5,Gv]) (by rw[Qe,q5,Gv];omega)
 obtain⟨C,hC⟩:=AL (Y 5++EM s.li++Au s.pi.length);obtain⟨c,hc⟩:=AL (L+40+(8*s.li.length+8)+8);have h5:C.length=c:=by rw[hC,Qe,Qe,q5,Gv,Dt,hc]
 rw[<- hC,<- hc] at i5;have lA:(Y 5++EM s.li).length=L+8*5+(8*s.li.length+8):=by rw[Qe,q5,Gv]
 generalize hd:Y 5++EM s.li=A3 at *;have tA:List.take (L+8*5+(8*s.li.length+8)) (Ap .u8 A3)=Ap .u8 A3:=Qc (by rw[FA];omega)
 have tY:List.take (L+8*5) (Ap .u8 (Y 5))=Ap .u8 (Y 5):=Qc (by rw[FA];omega)
 have q:C++Hl s.pi++G2 s.bo=HH s:=by rw[hC,<- hd,<- hb];rfl
 generalize Y 5=Y5 at *;refine BM ⟨71,[(1,.pv (sC s)),(3,.rs 280 0 c)],[(280,some ⟨1,Ap .u8 C,0⟩)],296⟩ ?_ ?_
 .simp
  refine HQ [96] i4 (by simp[AB,q5]<;>exact tY) (.rs _ _ _) HF ?_
  simp[AB,q5];refine HQ [248] i5 (by simp[AB,lA]<;>exact tA) (.rs _ _ _) HF ?_
  simp[AB];exact⟨rfl,BD⟩
 let Z:Nat->List Int:=λ j=>C++Hl (s.pi.take j)
 have h0:∀ j,j<=s.pi.length->(Z j).length<=1000000:=λ j hj=>by
  simp only[Z];have:=ND (s.pi.take j) λ p hp=>h2 p (QQ hp);rw[Qe,h5];rw[QB] at this;omega
 have he:∀ j (h:j<s.pi.length),Z (j+1)=Z j++Fq s.pi[j]:=λ j h=>by
  simp only[Z,Hl];rw[Ql h,List.flatMap_append];simp
 have hf:C=Z 0:=by simp[Z,Hl]
 have hh:C++Hl s.pi=Z s.pi.length:=by simp[Z]
 rw[<- h5];rw[hf];rw[hh] at q;refine AC (arc ⟨71,[(1,.pv (sC s)),(3,.rs 280 0 (Z 0).length),(6,.I (0:Nat))],[(280,some ⟨1,Ap .u8 (Z 0),0⟩)],304⟩ ?_ ?_)
 .simp
  exact BD
 clear_value Z
 refine AI (Ag (ι:=Nat) (λ j=>⟨71,[(1,.pv (sC s)),(3,.rs 280 0 (Z j).length),(6,.I j)],[(280,some ⟨1,Ap .u8 (Z j),0⟩)],304⟩) (λ j=>j<=s.pi.length) (λ j=>s.pi.length - j) 0 zy (Le.refl _ _) ?_)
 intro j hj;refine AC (arc ⟨71,[(1,.pv (sC s)),(3,.rs 280 0 (Z j).length),(6,.I j),(49,.B (decide (j<s.pi.length)))],[(280,some ⟨1,Ap .u8 (Z j),0⟩)],344⟩ ?_ ?_)
 .simp
  exact BD
 refine AD _ rfl (λ h=>AE ?_) λ h=>Aa (Ab ?_)
 .simp only[Qb] at h
  have hs:=he j h;have q1:=h0 j hj;have ho:=h2 s.pi[j] (Qi h);have hg:s.pi[j]? = some s.pi[j]:=Qa h;generalize s.pi[j]=p at *;have i1:=HV (Z j) p.a _ rfl zy
  have i2:=HV (Z j++Au p.a) p.h _ rfl (by rw[Qe,Dt];omega)
  have i3:=Oi (Z j++Au p.a++Au p.h) p.d (Z (j+1)).length (by rw[hs];simp[Fq,Dt,KS];omega) (by simp[Dt];omega) zy
  have e3:Z j++Au p.a++Au p.h++G2 p.d=Z (j+1):=by rw[hs];simp[Fq]
  rw[e3] at i3;have l1:(Z j++Au p.a).length=(Z j).length+8:=by simp[Dt]
  have l2:(Z j++Au p.a++Au p.h).length=(Z j).length+8+8:=by simp[Dt]
  generalize Z j++Au p.a++Au p.h=A2 at *;generalize Z j++Au p.a=A1 at *;refine BO ⟨71,[(1,.pv (sC s)),(3,.rs 280 0 (Z (j+1)).length),(6,.I j)],[(280,some ⟨1,Ap .u8 (Z (j+1)),0⟩)],488⟩ ?_ ?_
  .generalize Z (j+1)=B at *
   generalize Z j=A at *;obtain⟨n0,h6⟩:=AL (A.length);rw[<- h6] at i1 l1 l2 ⊢;rw[l1] at i2;have t0:List.take n0 (Ap .u8 A)=Ap .u8 A:=Qc (by rw[FA];omega)
   have t1:List.take (n0+8) (Ap .u8 A1)=Ap .u8 A1:=Qc (by rw[FA];omega)
   have t2:List.take (n0+8+8) (Ap .u8 A2)=Ap .u8 A2:=Qc (by rw[FA];omega)
   refine AI (arc ⟨71,[(1,.pv (sC s)),(3,.rs 280 0 n0),(6,.I j),(7,.pv (FB p))],[(280,some ⟨1,Ap .u8 A,0⟩)],400⟩ ?_ ?_)
   .simp [hg,AZ]
    exact Le.K1 280 280 [384] rfl rfl zz zz rfl zz
   refine Cn rfl ?_;simp;refine HQ [280] i1 (by simp[AB,<- h6]<;>exact t0) (.rs _ _ _) HF ?_
   simp[AB];refine HQ [424] i2 (by simp[AB,l1]<;>exact t1) (.rs _ _ _) HF ?_
   simp[AB];refine HQ [448] i3 (by simp[AB,l2]<;>exact t2) (.rs _ _ _) HF ?_
   simp[AB];exact⟨rfl,Le.K1 472 280 [] rfl rfl zz zz zw zz⟩
  have h1:=wq (k:=j);refine AU rfl ?_;simp[h1];exact⟨j+1,zy,zy,Le.K1 280 280 [] rfl rfl zz zz rfl zz⟩
 simp only[Qd] at h;obtain rfl:j=s.pi.length:=zy
 have qn:=h0 s.pi.length (Qg _);have i6:=Oi (Z s.pi.length) s.bo (HH s).length (by rw[<- q,Qe,KS]) zy zy
 rw[q] at i6;generalize Z s.pi.length=A at *;have t0:List.take A.length (Ap .u8 A)=Ap .u8 A:=Qc (by rw[FA];exact Qg _)
 refine arc ⟨71,[(2,.rs 368 0 (HH s).length)],[(368,some ⟨1,Ap .u8 (HH s),0⟩)],384⟩ ?_ ?_
 .simp
  refine HQ [280] i6 (by simp[AB]<;>exact t0) (.rs _ _ _) HF ?_
  simp[AB];exact BD
 exact CD [368] []
theorem Vo {s:AJ} (hs:BJ s):(HH s).length<=1000000:=by
 obtain⟨u,h0,h1,h2,q⟩:=hs;have:=ND s.pi q;unfold HH;simp only[Qe,Na,Kg,Gv,Dt,KS];simp[Kd];omega
def Bk (s:AJ):ByteArray:=FN (HH s)
theorem Od (s:AJ):(Bk s).size=32:=O8 _
theorem L6 (s:AJ) (hs:BJ s):AK 127 [eS s] [] (.sc (.string (Bk s))) []:=by
 refine XU.s.ac ?_;show AQ _ 0 _ _ ⟨6,[(0,eS s)],[],16⟩;have hl:=Vo hs;refine arc ⟨6,[(1,.pv (sC s))],[],32⟩ ?_ ?_
 .simp
  exact AM [16] zz
 refine arc ⟨6,[(2,.sc (.string (Bk s)))],[],64⟩ ?_ ?_
 .simp
  refine C4 (bS s hs) ?_;simp[AB];refine G9 [40] (L4 (HH s) zy) (by simp[AB,CI]) (.sc _) ?_
  simp;exact AM [] (by simp;exact .refl _)
 exact CD [] []
theorem Np (x:Int):AK 124 [.I x] [] (.B (decide (0<=x/\x<64))) []:=by
 refine Zo.s.ac ?_;show AQ _ 0 _ _ ⟨9,[(0,.I x)],[],16⟩;refine BE ⟨9,[(0,.I x)],[],24⟩ rfl (by simp;exact AM [] zz) ?_
 refine arc ⟨9,[(2,.B (decide (0<=x/\x<64)))],[],80⟩ ?_ ?_
 .by_cases h:0<=x
  .simp [h]
   exact AM [] zz
  .simp [h]
   exact AM [] zz
 exact Bv
theorem JG (x m:Int):AK 125 [.I x,.I m] [] (.B (decide (0<=x/\x<=m))) []:=by
 refine Vm.s.ac ?_;show AQ _ 0 _ _ ⟨12,[(0,.I x),(1,.I m)],[],16⟩;refine BE ⟨12,[(0,.I x),(1,.I m)],[],24⟩ rfl (by simp;exact AM [] zz) ?_
 refine arc ⟨12,[(4,.B (decide (0<=x/\x<=m)))],[],88⟩ ?_ ?_
 .by_cases h:0<=x
  .simp [h]
   exact AM [] zz
  .simp [h]
   exact AM [] zz
 exact Bv
def JD (l:List Pn) (i:Nat):Prop:=∀ h:i<l.length,(0<=l[i].a/\l[i].a<64)/\(0<i->l[i - 1].a<l[i].a)/\1<=l[i].h/\l[i].h<=200/\l[i].d.size=32
def Ix (l:List Pn):Prop:=∀ i,JD l i
open Classical in
theorem VM (l:List Pn) (hl:l.length<=1000000):AK 106 [BQ l] [] (.B (decide (Ix l))) []:=by
 refine eB.s.ac ?_;show AQ _ 0 _ _ ⟨50,[(0,BQ l)],[],16⟩;refine BE ⟨50,[(0,BQ l)],[],24⟩ rfl (by simp;exact AM [] zz) ?_
 refine AC (BE ⟨50,[(0,BQ l),(3,.I (0:Nat))],[],32⟩ rfl (by simp;exact AM [] zz) ?_)
 refine AI (Ag (ι:=Nat) (λ k=>⟨50,[(0,BQ l),(3,.I k)],[],32⟩) (λ k=>k<=l.length /\ ∀ i,i<k->JD l i) (λ k=>l.length - k) 0 ⟨Qh _,λ i hi=>zy⟩ (Le.refl _ _) ?_)
 rintro k ⟨hk,hp⟩
 refine AC (BE ⟨50,[(0,BQ l),(3,.I k),(8,.B (decide (k<l.length)))],[],64⟩ rfl (by simp;exact AM [] zz) ?_)
 refine AD _ rfl (λ h=>AE ?_) λ h=>Aa (Ab ?_)
 .simp only[Qb] at h
  obtain⟨p,h3⟩:∃ p,l[k]=p:=⟨_,rfl⟩;have hg:l[k]? = some p:=by rw[Qa h,h3]
  have h4:=wq (k:=k)
  have h0:JD l k↔((0<=p.a/\p.a<64)/\(0<k->(l[k - 1]).a<p.a)/\1<=p.h/\p.h<=200/\p.d.size=32):=by
   unfold JD;constructor
   .intro hq
    have:=hq h
    rwa [h3] at this
   .intro hq _
    rwa [h3]
  refine Bn (ι:=Unit) (λ _=>⟨50,[(0,BQ l),(3,.I k)],[],400⟩) (λ _=>JD l k) ?_ λ _ h6=>?_
  .refine AI (arc ⟨50,[(0,BQ l),(3,.I k),(4,.pv (FB p))],[],112⟩ ?_ ?_)
   .simp [hg,AZ]
    exact AM [96] zz
   refine BM ⟨50,[(0,BQ l),(3,.I k),(49,.B (decide (¬ JD l k)))],[],400⟩ ?_ ?_
   .simp
    refine AT (Np p.a) rfl ?_
    by_cases c1:0<=p.a/\p.a<64
    .cases k with
     | zero =>
       simp[c1]
       by_cases c3:p.h<1
       .simp [c3]
        exact⟨rfl,AM [] (by simp<;>exact An (by simp[h0];first | omega | grind))⟩
       by_cases c4:200<p.h
       .simp [c3,c4]
        exact⟨rfl,AM [] (by simp<;>exact An (by simp[h0];first | omega | grind))⟩
       by_cases c5:(p.d.size:Int)=32
       .simp [c3,c4,c5]
        exact⟨rfl,AM [] (by simp<;>exact An (by simp[h0];first | omega | grind))⟩
       .simp [c3,c4,c5]
        exact⟨rfl,AM [] (by simp<;>exact An (by simp[h0];first | omega | grind))⟩
     | succ j =>
       have h7:j<l.length:=zy
       obtain⟨q,hq⟩:∃ q,l[j]=q:=⟨_,rfl⟩;have h1:l[j]? = some q:=by rw[Qa h7,hq]
       have hw:IntKind.i64.wrap (((j+1:Nat):Int) - 1)=(j:Int):=by rw[w6];omega
       have u:JD l (j+1)↔((0<=p.a/\p.a<64)/\q.a<p.a/\1<=p.h/\p.h<=200/\p.d.size=32):=by
        rw[h0];simp[hq]
       clear h0
       obtain⟨J,hJ⟩:=AL (j+1);rw[<- hJ] at hw u ⊢;have h2:0<J:=zy
       by_cases c2:p.a<=q.a
       .simp [c1,h2,hw,h1,c2]
        exact⟨rfl,AM [] (by simp<;>exact An (by simp[u];first | omega | grind))⟩
       by_cases c3:p.h<1
       .simp [c1,h2,hw,h1,c2,c3]
        exact⟨rfl,AM [] (by simp<;>exact An (by simp[u];first | omega | grind))⟩
       by_cases c4:200<p.h
       .simp [c1,h2,hw,h1,c2,c3,c4]
        exact⟨rfl,AM [] (by simp<;>exact An (by simp[u];first | omega | grind))⟩
       by_cases c5:(p.d.size:Int)=32
       .simp [c1,h2,hw,h1,c2,c3,c4,c5]
        exact⟨rfl,AM [] (by simp<;>exact An (by simp[u];first | omega | grind))⟩
       .simp [c1,h2,hw,h1,c2,c3,c4,c5]
        exact⟨rfl,AM [] (by simp<;>exact An (by simp[u];first | omega | grind))⟩
    .have c1':decide (0<=p.a/\p.a<64)=false:=QE c1
     rw[c1'];simp;exact⟨rfl,AM [] (by simp<;>exact An (by simp only[h0];simp;omega))⟩
   refine AD _ rfl (λ h5=>?_) λ h5=>AE ?_
   .have h8:¬ Ix l:=λ hq=>(of_decide_eq_true h5) (hq k)
    rw[QE h8];refine AC (Ad ?_);exact Bv
   .exact ⟨(),Classical.not_not.1 (of_decide_eq_false h5),AM [] zz⟩
  refine AU rfl ?_;simp[h4];refine⟨k+1,⟨zy,λ i hi=>?_⟩,zy,AM [] zz⟩
  rcases QN.1 hi with h | rfl
  .exact hp i h
  .exact h6
 simp only[Qd] at h;have hy:Ix l:=λ i hi=>hp i zy hi
 rw[Q7 hy];refine AC (Ad ?_);exact Bv
def K1 (s:AJ):Prop:=(0<=s.a/\s.a<64)/\s.a≠s.au/\1<=s.b/\s.b<=3/\s.ti<=s.c/\s.c<=2147483648
def K2 (s:AJ):Prop:=(0<=s.a/\s.a<=199)/\s.b=0/\s.c=0
def K3 (s:AJ):Prop:=s.a=0/\s.b=0/\s.c=0
instance (s:AJ):Decidable (K1 s):=by unfold K1;infer_instance
instance (s:AJ):Decidable (K2 s):=by unfold K2;infer_instance
instance (s:AJ):Decidable (K3 s):=by unfold K3;infer_instance
def Hj (s:AJ):Prop:=(s.ki=1->K1 s)/\(s.ki=2->K2 s)/\(s.ki=3->K3 s)
instance (s:AJ):Decidable (Hj s):=by unfold Hj;infer_instance
def Gz (x:Int):Prop:=0<=x/\x<=1099511627776
instance (x:Int):Decidable (Gz x):=by unfold Gz;infer_instance
def HM (s:AJ):Prop:=(0<=s.nu/\s.nu<=199)/\Gz s.a/\Gz s.b/\Gz s.c/\(∀ x∈s.li,Gz x)/\Hj s
instance (s:AJ):Decidable (HM s):=by unfold HM;infer_instance
theorem iD (s:AJ) (hl:s.li.length<=1000000):AK 126 [eS s] [] (.B (decide (HM s))) []:=by
 refine Vh.s.ac ?_;show AQ _ 0 _ _ ⟨106,[(0,eS s)],[],16⟩;refine arc ⟨106,[(1,.pv (sC s))],[],32⟩ ?_ ?_
 .simp
  exact AM [16] zz
 obtain⟨b1,u⟩:∃ b,b=decide (0<=s.nu/\s.nu<=199):=⟨_,rfl⟩;obtain⟨b2,h0⟩:∃ b,b=decide (0<=s.a/\s.a<=1099511627776):=⟨_,rfl⟩;obtain⟨b3,h4⟩:∃ b,b=decide (0<=s.b/\s.b<=1099511627776):=⟨_,rfl⟩;obtain⟨b4,h6⟩:∃ b,b=decide (0<=s.c/\s.c<=1099511627776):=⟨_,rfl⟩;have q1:=JG s.nu 199;have q2:=JG s.a 1099511627776;have q3:=JG s.b 1099511627776;have q4:=JG s.c 1099511627776;rw[<- u] at q1;rw[<- h0] at q2;rw[<- h4] at q3;rw[<- h6] at q4;refine AC (arc ⟨106,[(1,.pv (sC s)),(25,.B (!(b1 && (b2 && (b3 && b4)))))],[],208⟩ ?_ ?_)
 .simp
  refine AT q1 rfl ?_
  cases b1
  .simp
   exact AM [] zz
  simp;refine AT q2 rfl ?_
  cases b2
  .simp
   exact AM [] zz
  simp;refine AT q3 rfl ?_
  cases b3
  .simp
   exact AM [] zz
  simp;refine AT q4 rfl ?_
  cases b4
  .simp
   exact AM [] zz
  simp;exact AM [] zz
 refine AD _ rfl (λ h=>?_) λ h=>AE ?_
 .have h8:¬ HM s:=λ hq=>by
   obtain⟨n1,n2,n3,n4,_⟩:=hq;rw[Q7 n1] at u;rw[Q7 (show _/\_ from n2)] at h0
   rw[Q7 (show _/\_ from n3)] at h4
   rw[Q7 (show _/\_ from n4)] at h6
   subst u h0 h4 h6
   cases h
  rw[QE h8];refine AC (Ad ?_);exact Bv
 have hn:(0<=s.nu/\s.nu<=199)/\Gz s.a/\Gz s.b/\Gz s.c:=by
  simp only[Bool.not_eq_false',QW] at h;obtain⟨e1,e2,e3,e4⟩:=h;rw[e1] at u;rw[e2] at h0;rw[e3] at h4;rw[e4] at h6;exact⟨of_decide_eq_true u.symm,of_decide_eq_true h0.symm,of_decide_eq_true h4.symm,of_decide_eq_true h6.symm⟩
 clear h q1 q2 q3 q4 u h0 h4 h6
 refine AC (BE ⟨106,[(1,.pv (sC s)),(3,.I (0:Nat))],[],216⟩ rfl (by simp;exact AM [] zz) ?_)
 refine AI (Ag (ι:=Nat) (λ k=>⟨106,[(1,.pv (sC s)),(3,.I k)],[],216⟩) (λ k=>k<=s.li.length /\ ∀ x∈s.li.take k,Gz x) (λ k=>s.li.length - k) 0 ⟨Qh _,zz⟩ (Le.refl _ _) ?_)
 rintro k ⟨hk,hp⟩
 refine AC (BE ⟨106,[(1,.pv (sC s)),(3,.I k),(30,.B (decide (k<s.li.length)))],[],256⟩ rfl (by simp;exact AM [] zz) ?_)
 refine AD _ rfl (λ h=>AE ?_) λ h=>Aa (Ab ?_)
 .simp only[Qb] at h
  obtain⟨x,hx⟩:∃ x,s.li[k]=x:=⟨_,rfl⟩;have hg:s.li[k]? = some x:=by rw[Qa h,hx]
  obtain⟨b,hb⟩:=AL (decide (0<=x/\x<=1099511627776));have q:=JG x 1099511627776;rw[<- hb] at q;have he:=wq (k:=k);refine Bn (ι:=Unit) (λ _=>⟨106,[(1,.pv (sC s)),(3,.I k)],[],312⟩) (λ _=>Gz x) ?_ λ _ h9=>?_
  .refine AI (arc ⟨106,[(1,.pv (sC s)),(3,.I k),(39,.B (!b))],[],312⟩ ?_ ?_)
   .simp [hg]
    refine AT q rfl ?_;simp;exact AM [] zz
   refine AD _ rfl (λ h5=>?_) λ h5=>AE ?_
   .have h8:¬ HM s:=λ hq=>by
     have:=hq.2.2.2.2.1 x (hx ▸ Qi h);rw[Q7 (show _/\_ from this)] at hb
     subst hb
     cases h5
    rw[QE h8];refine AC (Ad ?_);exact Bv
   .simp only[Bool.not_eq_false'] at h5
    rw[h5] at hb;exact⟨(),of_decide_eq_true hb.symm,AM [] zz⟩
  refine AU rfl ?_;simp[he];refine⟨k+1,⟨zy,λ y hy=>?_⟩,zy,AM [] zz⟩
  rw[Ql h,Qn] at hy;rcases hy with hy | hy
  .exact hp y hy
  .rw [Qw.1 hy,hx]
   exact h9
 simp only[Qd] at h;obtain rfl:k=s.li.length:=zy
 rw[QP] at hp;have ha:HM s↔Hj s:=⟨λ hq=>hq.2.2.2.2.2,λ hq=>⟨hn.1,hn.2.1,hn.2.2.1,hn.2.2.2,hp,hq⟩⟩
 have hd:decide (HM s)=decide (Hj s):=by
  rw[Qk,Qb,Qb];exact ha
 rw[hd];refine Bn (ι:=Unit) (λ _=>⟨106,[],[],1000⟩) (λ _=>Hj s) ?_ λ _ h9=>?_
 .refine BE ⟨106,[(1,.pv (sC s)),(41,.I s.ki)],[],272⟩ rfl (by simp;exact AM [] zz) ?_
  refine AI (arc ⟨106,[(1,.pv (sC s)),(41,.I s.ki),(42,.B (decide (s.ki=1)))],[],288⟩ ?_ ?_)
  .simp
   exact AM [] (by simp<;>exact An zt)
  refine AD _ rfl (λ h1=>?_) λ h1=>?_
  .simp only[Qb] at h1
   have h7:decide (Hj s)=decide (K1 s):=by
    rw[Qk,Qb,Qb];exact⟨λ hq=>hq.1 h1,λ hq=>⟨λ _=>hq,λ h2=>zy,λ h2=>zy⟩⟩
   rw[h7];obtain⟨b,hb⟩:=AL (decide (0<=s.a/\s.a<64));have q:=Np s.a;rw[<- hb] at q;refine arc ⟨106,[(2,.B (decide (K1 s)))],[],552⟩ ?_ ?_
   .simp
    refine AT q rfl ?_
    cases b
    .have e:decide (K1 s)=false:=QE λ hq=>by rw[Q7 hq.1] at hb;cases hb
     simp[e];exact AM [] zz
    .have e0:=of_decide_eq_true hb.symm
     have e:decide (K1 s)=decide (s.a≠s.au/\1<=s.b/\s.b<=3/\s.ti<=s.c/\s.c<=2147483648):=by
      rw[Qk,Qb,Qb];exact⟨λ hq=>hq.2,λ hq=>⟨e0,hq⟩⟩
     rw[e]
     by_cases c1:s.a=s.au
     .have c1':(s.a != s.au)=false:=by simp[c1]
      have e2:decide (s.a≠s.au/\1<=s.b/\s.b<=3/\s.ti<=s.c/\s.c<=2147483648)=false:=QE λ hq=>hq.1 c1;rw[e2];simp[c1'];exact AM [] zz
     have c1':(s.a != s.au)=true:=by simp[c1]
     have e2:decide (s.a≠s.au/\1<=s.b/\s.b<=3/\s.ti<=s.c/\s.c<=2147483648)=decide (1<=s.b/\s.b<=3/\s.ti<=s.c/\s.c<=2147483648):=by
      rw[Qk,Qb,Qb];exact⟨λ hq=>hq.2,λ hq=>⟨c1,hq⟩⟩
     rw[e2]
     clear c1 e e2
     by_cases c2:1<=s.b
     .by_cases c3:s.b<=3
      .by_cases c4:s.ti<=s.c
       .simp [c1',c2,c3,c4]
        exact AM [] zz
       .simp [c1',c2,c3,c4]
        exact AM [] zz
      .simp [c1',c2,c3]
       exact AM [] zz
     .simp [c1',c2]
      exact AM [] zz
   exact Bv
  simp only[Qd] at h1;refine arc ⟨106,[(1,.pv (sC s)),(41,.I s.ki),(76,.B (decide (s.ki=2)))],[],304⟩ ?_ ?_
  .simp
   exact AM [] (by simp<;>exact An zt)
  refine AD _ rfl (λ h2=>?_) λ h2=>?_
  .simp only[Qb] at h2
   have h7:decide (Hj s)=decide (K2 s):=by
    rw[Qk,Qb,Qb];exact⟨λ hq=>hq.2.1 h2,λ hq=>⟨λ h=>zy,λ _=>hq,λ h=>zy⟩⟩
   rw[h7];obtain⟨b,hb⟩:=AL (decide (0<=s.a/\s.a<=199));have q:=JG s.a 199;rw[<- hb] at q;refine arc ⟨106,[(2,.B (decide (K2 s)))],[],420⟩ ?_ ?_
   .simp
    refine AT q rfl ?_
    cases b
    .have e:decide (K2 s)=false:=QE λ hq=>by rw[Q7 hq.1] at hb;cases hb
     simp[e];exact AM [] zz
    .have e0:=of_decide_eq_true hb.symm
     have e:decide (K2 s)=decide (s.b=0/\s.c=0):=by
      rw[Qk,Qb,Qb];exact⟨λ hq=>hq.2,λ hq=>⟨e0,hq⟩⟩
     rw[e]
     by_cases c2:s.b=0
     .have c2':(s.b == 0)=true:=by simp[c2]
      simp[c2'];exact AM [] (by simp<;>exact An (by rw[Qk];simp[c2]))
     .have c2':(s.b == 0)=false:=by simp[c2]
      simp[c2'];exact AM [] (by simp[c2])
   exact Bv
  simp only[Qd] at h2;refine arc ⟨106,[(1,.pv (sC s)),(41,.I s.ki),(91,.B (decide (s.ki=3)))],[],320⟩ ?_ ?_
  .simp
   exact AM [] (by simp<;>exact An zt)
  refine AD _ rfl (λ h3=>?_) λ h3=>AE ?_
  .simp only[Qb] at h3
   have h7:decide (Hj s)=decide (K3 s):=by
    rw[Qk,Qb,Qb];exact⟨λ hq=>hq.2.2 h3,λ hq=>⟨λ h=>zy,λ h=>zy,λ _=>hq⟩⟩
   rw[h7];have e:decide (K3 s)=decide (s.a=0/\s.b=0/\s.c=0):=rfl;rw[e];refine arc ⟨106,[(2,.B (decide (s.a=0/\s.b=0/\s.c=0)))],[],440⟩ ?_ ?_
   .by_cases c1:s.a=0
    .have c1':(s.a == 0)=true:=by simp[c1]
     by_cases c2:s.b=0
     .have c2':(s.b == 0)=true:=by simp[c2]
      simp[c1',c2'];exact AM [] (by simp<;>exact An (by rw[Qk];simp[c1,c2]))
     .have c2':(s.b == 0)=false:=by simp[c2]
      simp[c1',c2'];exact AM [] (by simp[c2])
    .have c1':(s.a == 0)=false:=by simp[c1]
     simp[c1'];exact AM [] (by simp[c1])
   exact Bv
  simp only[Qd] at h3;exact⟨(),⟨λ h=>absurd h h1,λ h=>absurd h h2,λ h=>absurd h h3⟩,AM [] zz⟩
 rw[Q7 h9];refine AC (Ad ?_);exact Bv
end Go.Proofs.YtklclphfcibagaaGreat
