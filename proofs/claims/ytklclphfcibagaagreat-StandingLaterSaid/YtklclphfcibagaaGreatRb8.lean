/- Texts of this claim,merged. -/
import Derived.Test.YtklclphfcibagaaGreatRb7
import Derived.Test.YtklclphfcibagaaGreatRb6
import Derived.Test.YtklclphfcibagaaGreatRb4
import Derived.Test.YtklclphfcibagaaGreatRb5
import Derived.Test.YtklclphfcibagaaGreatRb3
set_option linter.unusedSimpArgs false
set_option linter.unusedVariables false
set_option linter.unusedSectionVars false
set_option maxRecDepth 100000
set_option maxHeartbeats 8000000
noncomputable section
namespace Go.Proofs.YtklclphfcibagaaGreat
open Go
variable {l:List AJ}
structure Fk (l r:List AJ):Prop where
 mem:∀ x∈r,x∈l/\Df x
 ord:r.Pairwise λ x y=>x.au<y.au∨(x.au=y.au/\OH x y)
def OQ (l r:List AJ):Prop:=r.length<=12800/\Fk l r
theorem Fk.nil:Fk l []:=⟨zz,.nil⟩
theorem Fk.append {a b:List AJ} (ha:Fk l a) (hb:Fk l b) (h:∀ x∈a,∀ y∈b,x.au<y.au):Fk l (a++b):=by
 refine⟨λ x hx=>?_,UB.2 ⟨ha.ord,hb.ord,λ x hx y hy=>.inl (h x hx y hy)⟩⟩;rcases Qn.1 hx with h1 | h1
 .exact ha.mem x h1
 .exact hb.mem x h1
theorem G7.vi {au:Int} {q r:List AJ} (h:G7 au q r) (hq:∀ x∈q,x∈l):Fk l r:=by
 refine⟨λ x hx=>⟨hq x (h.mem x hx).1,(h.mem x hx).2.2⟩,h.ord.imp_of_mem λ {x y} hx hy u=>.inr ⟨by rw[(h.mem x hx).2.1,(h.mem y hy).2.1],u⟩⟩
theorem Fk.good {r:List AJ} (h:Fk l r) (hk:∀ x∈l,x.ki≠3):CQ r:=by
 refine⟨h.ord.imp_of_mem λ {x y} hx _ q=>?_,λ s hs=>?_⟩
 .rcases q with h1 | ⟨h1,h2⟩
  .exact .inl h1
  .exact .inr ⟨h1,h2.1,h2.2,hk x (h.mem x hx).1⟩
 .have:=(h.mem s hs).2.ok
  exact⟨this.1.1,this.1.2,this.2.2.1.1,this.2.2.2.1.1.1⟩
open Classical in
theorem eJ (l:List AJ) (p:List Pn) (hl:l.length<=20000) (hb:∀ s∈l,BJ s) (hp:p.length<=100000):∃ r:List AJ × Int,OQ l r.1/\AK 61 [.agg [AF l],BQ p] [] (.tup [AF r.1,.I r.2]) []:=by
 refine rT.s.acallsX (args:=[.agg [AF l],BQ p]) (hs:=[]) (λ r=>.tup [AF r.1,.I r.2]) (λ _=>[]) (λ r:List AJ × Int=>OQ l r.1) (AW rfl) (AW rfl) (λ _=>zz) ?_
 show AQ _ 0 _ _ ⟨66,[(0,.agg [AF l]),(1,BQ p)],[],16⟩;obtain⟨v,_,hv⟩:=Ml l zy hb
 have h7:=VM p zy
 apply ax [1,2] [] [16] 100
 .simp [AB]
  rfl
 refine AC ?_;obtain⟨n,hn⟩:=AL (p.length);refine arc ⟨66,[(1,BQ p),(2,.pv [AF l]),(22,.B (!v || (decide (64<n) || !decide (Ix p))))],[],400⟩ ?_ ?_
 .simp [<- hn,AB]
  repeat' first
   | (refine CC 70 rfl ?_;refine AT hv zw ?_;simp[<- hn])
   | (refine CC 106 rfl ?_;refine AT h7 zw ?_;simp[<- hn])
   | (refine BK (λ hb=>?_) (λ hb=>?_)<;>(try rw[hb])<;>(try simp at hb)<;>simp[<- hn,hb])
  all_goals exact AN [] [] (by simp[AB]<;>exact An (by (try simp at *);grind))
 refine AD _ rfl (λ h=>?_) λ h=>AE ?_
 .refine ar [4,5] [] [] 600 ?_
  refine AO (Af.mk (.inr rfl) ([],1) ⟨zz,.nil⟩ ?_)
  exact AG.out [] [] rfl zz zz (by simp;exact Lv) zz
 have hk:p.length<=64:=by simp at h;omega
 have h8:∀ i (h:i<p.length),∀ j (h2:j<p.length),i<j->p[i].a<p[j].a:=by
  have h9:Ix p:=by simp at h;exact h.2.2
  intro i hi j
  induction j with
  | zero=>intro _ h2;omega
  | succ j ih =>
    intro hj hij;have h1:=(h9 (j+1) hj).2.1 zy
    simp only[Nat.add_sub_cancel] at h1;rcases(by omega:i=j∨i<j) with h2 | h2
    .subst h2;exact h1
    .have:=ih zy h2
     omega
 refine ar [1,2,6] [] [] 600 ?_;refine AC (ar [1,2,6,7] [] [] 640 ?_);refine AI (Ag (ι:=List AJ × Nat) (λ q=>⟨66,[(1,BQ p),(2,.pv [AF l]),(6,.rs 50 0 q.1.length),(7,.I q.2)],[(50,some ⟨13,q.1.map sC,0⟩)],700⟩) (λ q=>q.2<=p.length/\q.1.length<=200*q.2/\Fk l q.1 /\ ∀ x∈q.1,∀ j (h:j<p.length),q.2<=j->x.au<p[j].a) (λ q=>p.length - q.2) ([],0) ⟨zz,zz,.nil,zz⟩ (Le.nw [] [(50,13)]) ?_)
 rintro⟨o,i⟩ ⟨hi,ho,h0,h3⟩
 simp only at hi ho h0 h3 ⊢;refine AC (BP ⟨66,[(1,BQ p),(2,.pv [AF l]),(6,.rs 50 0 o.length),(7,.I i),(26,.B (decide (i<p.length)))],[(50,some ⟨13,o.map sC,0⟩)],800⟩ [(50,50)] [] ?_);refine AD _ rfl (λ h=>AE ?_) λ h=>Aa (Ab ?_)
 .rw [Qb] at h
  have ha:=h;have hd:=Ci h;obtain⟨x,hx⟩:=AL (p[i]);have hg:p[i]? = some x:=by rw[hx];exact Qa h
  obtain⟨q,⟨hm,h4⟩,he⟩:=Ov l x.a zy hb
  obtain⟨⟨B,ok⟩,⟨hf,u⟩,h5⟩:=WQ x.a q x.d zy (λ y hy=>hb y (h4 y hy))
  simp only at hf u h5;have h6:=h8 i h;refine G4 ?_;refine AI ?_;apply ay [1,2,6,7,8,9] [(50,50)] [] 1000
  .simp [h,hg,<- hx,AB]
   refine Cu he zw ?_
   simp[h,hg,<- hx,AB];refine ET [888] zz h5 (by simp[AB,Ba]) ?_
   simp[AB];exact⟨rfl,rfl⟩
  refine AC (arc ⟨66,[(1,BQ p),(2,.pv [AF l]),(6,.rs 50 0 o.length),(7,.I i),(8,AF B),(61,.B (decide (ok=false∨(B.length:Int)≠x.h)))],[(50,some ⟨13,o.map sC,0⟩)],1200⟩ ?_ ?_)
  .simp [h,hg,<- hx,AB]
   repeat' first
    | (refine BK (λ hb=>?_) (λ hb=>?_)<;>(try rw[hb])<;>(try simp at hb)<;>simp[h,hg,<- hx,hb,AB])
   all_goals exact AN [(50,50)] [] (by simp[AB]<;>exact An (by rw[Qk];simp[*])) zw
  refine AD _ rfl (λ h=>?_) λ h=>?_
  .refine ar [4,5] [] [] 1400 ?_
   refine AO (Af.mk (.inr rfl) ([],11) ⟨zz,.nil⟩ ?_)
   exact AG.out [] [] rfl zz zz (by simp;exact Lv) zz
  refine AE ?_;apply ae [1,2,6,7] [(1216,50)] [] 1400
  .simp [Ba,AB]
   refine⟨zy,zy,?_⟩
   rfl
  refine AU rfl ?_;simp[hd];have hh:Fk l B:=u.vi h4;refine⟨o++B,i+1,⟨zy,zu,h0.append hh λ y hy z hz=>?_,λ y hy j hj hij=>?_⟩,zy,AY [(50,50)] []⟩
  .rw [(u.mem z hz).2.1,hx]
   exact h3 y hy i ha (Qg _)
  .rcases Qn.1 hy with h | h
   .exact h3 y h j hj zy
   .rw [(u.mem y h).2.1,hx]
    exact h6 j hj zy
 refine ar [4,5] [(50,50)] [] 4000 ?_;refine AO (Af.mk (.inr rfl) (o,0) ⟨by simp only;omega,h0⟩ ?_)
 exact AG.out [] [50] rfl zz zz (by simp[AB,Ba]) zz
theorem YH (l:List AJ) (p:List Pn) (hl:l.length<=20000) (hb:∀ s∈l,BJ s) (hp:p.length<=100000):∃ r:List AJ × Int,OQ l r.1/\AK 29 [.agg [AF l],BQ p] [] (.tup [AF r.1,.I r.2]) []:=by
 obtain⟨r,hr,hc⟩:=eJ l p hl hb hp;refine⟨r,hr,?_⟩;obtain⟨r1,r2⟩:=r;simp only at hc;refine rL.s.acalls (AW rfl) (AW rfl) zz ?_
 show AQ _ 0 _ _ ⟨11,[(0,.agg [AF l]),(1,BQ p)],[],16⟩;apply ax [1,2] [] [16] 100
 .simp [AB]
  rfl
 apply ax [4,5] [] [] 200
 .simp [AB]
  refine AT hc zw ?_
  simp[AB];rfl
 exact CD [] []
variable {S:List Int}
def JF (s:AJ):Prop:=s.ki=1->(0<=s.au/\s.au<9)/\0<=s.a/\s.a<9
variable {l:List AJ} {t lv:Int}
theorem Ld (hv:∀ s∈l,JF s):∀ e∈BS (Bt l t) lv,(0<=e.f/\e.f<9)/\0<=e.t/\e.t<9:=λ e he=>by
 obtain⟨v,q,rfl⟩:=Qm.1 he;obtain⟨_,s,u,h0,rfl⟩:=S7 (QA.1 q).1;exact hv s u h0
theorem Sz (l:List AJ) (t lv:Int):(BS (Bt l t) lv).Pairwise EU:=by
 unfold BS;rw[Uw];exact((gY l t).sublist List.filter_sublist).imp λ {a b} h=>h
theorem TT (hv:∀ s∈l,JF s):(BS (Bt l t) lv).length<=81:=by
 have hn:((BS (Bt l t) lv).map λ e=>e.f*9+e.t).Nodup:=by
  rw[List.Nodup,Uw];refine(Sz l t lv).imp_of_mem λ {a b} ha hb q=>?_;have h1:=Ld hv a ha;have h2:=Ld hv b hb;unfold EU at q;omega
 have:=Fs (b:=(List.range 81).map λ i:Nat=>(i:Int)) hn λ x hx=>by
  obtain⟨e,he,rfl⟩:=Qm.1 hx;have h1:=Ld hv e he;exact Qm.2 ⟨(e.f*9+e.t).toNat,QS.2 zy,zy⟩
 simpa using this
theorem MC (h:CQ l) (hs:∀ s∈l,DC s) (hv:∀ s∈l,JF s) (t lv:Int) (h1:1<=lv):Ah (Cy l t lv):=by
 have q:(BS (Bt l t) lv).length<=500:=QI (TT hv) zx
 have u:∀ e∈BS (Bt l t) lv,DX (Cy l t lv) e/\1<=e.v/\e.v<=3:=λ e he=>by
  obtain⟨v,hv,rfl⟩:=Qm.1 he;have hb:=QA.1 hv;obtain⟨⟨_,_,_,h5,h6⟩,s,h7,hd,rfl⟩:=S7 hb.1;have hf:=(hs s h7).2.2.2.1.2.2.2.2.2.1 hd;have h8:=(hs s h7).1;obtain⟨⟨q1,q2⟩,q3,q4,q5,q6,q7⟩:=hf;simp only[FC] at h5 h6;exact⟨⟨h8.1,by show s.au<=64 - 1;have:=h8.2;omega,q1,by show s.a<=64 - 1;omega,λ e=>q3 e.symm,h5,h6⟩,q4,q5⟩
 refine⟨⟨by show (0:Int)<=64;decide,by show (64:Int)<=64;decide,q,?_⟩,λ i hi=>?_⟩
 .have h9:=h.asc t
  have ha:∀ x∈CH l t,0<=x/\x<=63:=λ x hx=>by
   unfold CH at hx;obtain⟨s,hg,rfl⟩:=Qm.1 hx;have:=h.rng s (QA.1 hg).1;omega
  show Bh (CH l t) 0 (64 - 1);generalize CH l t=G at *;intro i hi;have h2:=ha _ (Qi hi);exact⟨h2.1,zy,λ h0=>QD.1 h9 (i - 1) i zy hi zy⟩
 .have hi':i<(BS (Bt l t) lv).length:=hi
  obtain⟨h2,h3,h4⟩:=u _ (Qi hi');refine⟨h2,h3,h4,λ h0=>?_⟩;rw[Ka];exact QD.1 (Sz l t lv) (i - 1) i zy hi' zy
theorem RU (hv:∀ s∈l,JF s) (h1:1<=lv) (h3:lv<=3):IE l t lv=(Cy l t lv,0):=by
 unfold IE;rw[if_pos ⟨h1,h3⟩,if_pos (QI (TT hv) zx)]
theorem Xz {g:Gr} (hg:Ah g) (he:∀ e∈g.edges,e.t<9) (hS:∀ x∈S,x<9):∀ x∈Aj g S,0<=x/\x<9:=λ x hx=>by
 obtain⟨hk,hd⟩:=(Ku hg).1 hx;refine⟨hk.1,?_⟩;obtain⟨n,hn⟩:∃ n:Nat,Aq g S x=n:=⟨(Aq g S x).toNat,zy⟩
 cases n with
 | zero =>
   have h1:=(Ol hg).1 hn;unfold Eg at h1;simp only[QW,List.contains_iff_mem] at h1;exact hS x h1.1
 | succ n =>
   obtain⟨e,q,rfl,_⟩:=RJ hg (n:=n) (by rw[hn];rfl)
   exact he e q
theorem N4 {g:Gr} (h:∀ x∈Aj g S,0<=x/\x<9):(Aj g S).length<=9:=by
 have:=Fs (a:=Aj g S) (b:=(List.range 9).map λ i:Nat=>(i:Int)) (IY g S) λ x hx=>by
  have h1:=h x hx;exact Qm.2 ⟨x.toNat,QS.2 zy,zy⟩
 simpa using this
theorem OX (h:CQ l) (hs:∀ s∈l,DC s) (hv:∀ s∈l,JF s) (h1:1<=lv) (hS:∀ x∈S,x<9):∀ x∈Aj (Ao (Cy l t lv) lv) S,0<=x/\x<9 :=
 Xz ((MC h hs hv t lv h1).level lv) (λ e he=>(Ld hv e (QA.1 he).1).2.2) hS
structure IZ (l:List AJ):Prop where
 good:CQ l
 ok:∀ s∈l,DC s
 vo:∀ s∈l,JF s
theorem PD {e:AV}:Wk (.tup [.agg (A8 0 .nilS .nilS),e]) (.tup [eG Hp,e]):=Cs Gs (.refl _)
theorem cM (r:Ch) (l:List AJ) (k:Int) (hr:EW r) (hl:l.length<=100000) (hL:IZ l) (hk:k<1000000):∃ x:Gr × Int,(x.2=0 -> ∃ t,x.1=Cy l t r.po.lv)/\AK 32 [Bc r,AF l,.I k] [] (.tup [eG x.1,.I x.2]) []:=by
 refine sM.s.acallsX (args:=[Bc r,AF l,.I k]) (hs:=[]) (λ x=>.tup [eG x.1,.I x.2]) (λ _=>[]) (λ x:Gr × Int=>x.2=0 -> ∃ t,x.1=Cy l t r.po.lv) (AW rfl) (AW rfl) (λ _=>zz) ?_
 show AQ _ 0 _ _ ⟨28,[(0,Bc r),(1,AF l),(2,.I k)],[],16⟩;obtain⟨⟨t,e⟩,_,ht⟩:=Xh r hr k hk;simp only at ht;have q:=ZN l t r.po.lv hl hL.good;have u:=hr.po.2.2.2.2;rw[RU hL.vo u.1 u.2.1] at q;simp only at q;obtain⟨g,hg⟩:=AL (Cy l t r.po.lv);rw[<- hg] at q;apply ax [1,2,3,6] [(24,24)] [16] 100
 .simp [AB]
  rfl
 apply ax [1,3,6,8,9] [(24,24)] [] 200
 .simp [AB]
  refine AT ht zw ?_
  simp[AB];rfl
 refine AC (ar [1,3,6,8,9,17] [(24,24)] [] 300 ?_);refine AD _ rfl (λ h=>?_) λ h=>AE ?_
 .apply ax [6,7] [(24,24)] [] 400
  .simp [AZ]
   rfl
  refine AO (Af.mk (.inr rfl) (Hp,e) (λ h2=>by simp only at h2;rw[h2] at h;simp at h) ?_)
  show AG [(6,some (true,3)),(7,none)] 0 _ _ _;exact AG.out (vs:=[.agg (A8 0 .nilS .nilS),.I e]) [] [] zz zz zz (by simp;exact PD) zz
 apply ax [6,7] [(24,24)] [] 400
 .simp [AB]
  refine AT q zw ?_
  simp[AZ,AB];rfl
 refine AO (Af.mk (.inr rfl) (g,0) (λ _=>⟨t,hg⟩) ?_);show AG [(6,some (true,3)),(7,none)] 0 _ _ _;exact AG.out (vs:=[eG g,.I 0]) [] [] zz zz zz zz zz
theorem aJ (r:Ch) (l:List AJ) (k:Int) (hr:EW r) (hl:l.length<=100000) (hL:IZ l) (hk:k<1000000) (hS:∀ x∈r.po.seeds,x<9):∃ x:List Int × Int,(x.1.length<=64)/\AK 33 [Bc r,AF l,.I k] [] (.tup [AA x.1,.I x.2]) []:=by
 refine vI.s.acallsX (args:=[Bc r,AF l,.I k]) (hs:=[]) (λ x=>.tup [AA x.1,.I x.2]) (λ _=>[]) (λ x:List Int × Int=>x.1.length<=64) (AW rfl) (AW rfl) (λ _=>zz) ?_
 show AQ _ 0 _ _ ⟨33,[(0,Bc r),(1,AF l),(2,.I k)],[],16⟩;obtain⟨⟨g,e⟩,hge,u⟩:=cM r l k hr hl hL hk;simp only at hge u;apply ax [1,2,3] [] [16] 100
 .simp [AB]
  rfl
 apply ax [3,8,9] [(156,24)] [] 200
 .simp [AB]
  refine AT u zw ?_
  simp[AZ,AB];rfl
 refine AC (ar [3,8,9,19] [(24,24)] [] 300 ?_);refine AD _ rfl (λ h=>?_) λ h=>AE ?_
 .refine ar [6,7] [] [] 400 ?_
  refine AO (Af.mk (.inr rfl) ([],e) zz ?_)
  exact AG.out [] [] rfl zz zz (by simp;exact Cf) zz
 have he:e=0:=by simpa using h
 obtain⟨t,rfl⟩:=hge he;have h0:=hr.po.2.2.2.2;have hG:=MC hL.good hL.ok hL.vo t r.po.lv h0.1;have h3:CG (Cy l t r.po.lv).size r.po:=hr.po
 have h4:r.po.seeds.length<=64:=by
  have h1:=hr.po.2.1
  have:=Fs (a:=r.po.seeds) (b:=(List.range 64).map λ i:Nat=>(i:Int)) h1.nodup.1 λ x hx=>by
   have h2:=h1.nodup.2 x hx;exact Qm.2 ⟨x.toNat,QS.2 zy,zy⟩
  simpa using this
 obtain⟨⟨R,fl⟩,_,q⟩:=jZ _ r.po hG h3 h4;simp only at q;have h7:=N4 (OX (t:=t) hL.good hL.ok hL.vo h0.1 hS)
 have h5:(Ai (Cy l t r.po.lv) r.po (Aj (Ao (Cy l t r.po.lv) r.po.lv) r.po.seeds)).length<=64:=by
  have:=(Hi (g:=Cy l t r.po.lv) (p:=r.po) _ (Aj (Ao (Cy l t r.po.lv) r.po.lv) r.po.seeds) rfl).length_le;omega
 generalize h6:Ai (Cy l t r.po.lv) r.po (Aj (Ao (Cy l t r.po.lv) r.po.lv) r.po.seeds)=acc at *;generalize Cy l t r.po.lv=g at *;apply ax [9,10] [(356,40)] [] 400
 .simp [AB]
  refine AT q zw ?_
  simp[AZ,AB];rfl
 refine AC (ar [9,10,29] [(40,40)] [] 500 ?_);refine AD _ rfl (λ h=>by simp at h) λ _=>AE ?_
 apply ax [6,7] [] [] 600
 .simp [AB]
  rfl
 refine AO (Af.mk (.inr rfl) (acc,0) h5 ?_);exact AG.out [] [] rfl zz zz zz zz
theorem Xo (l:List AJ) (t:Dr) (c:Cl) (hl:l.length<=100000) (hb:∀ s∈l,BJ s) (h5:t.ro.length<=100000):∃ b:Bool,True/\AK 340 [AF l,C7 t,Be c] [] (.B b) []:=by
 refine uI.s.acallsX (args:=[AF l,C7 t,Be c]) (hs:=[]) (λ b=>.B b) (λ _=>[]) (λ _:Bool=>True) (AW rfl) (AW rfl) (λ _=>zz) ?_
 show AQ _ 0 _ _ ⟨79,[(0,AF l),(1,C7 t),(2,Be c)],[],16⟩;have h2:=RD c;apply ax [0,4,5] [] [16,24] 100
 .simp [AB]
  rfl
 refine AC ?_;apply ax [0,4,5,11] [] [] 200
 .simp
  refine Ay h2 ?_;simp;rfl
 refine AD _ rfl (λ _=>?_) λ _=>AE ?_
 .refine ar [6] [] [] 300 ?_
  exact AO (Af.mk (.inr rfl) false trivial (AG.one zz))
 refine AC (ar [0,4,5,7] [] [] 240 ?_);refine AI (Ag (ι:=Nat) (λ i=>⟨79,[(0,AF l),(4,.pv (EH t)),(5,.pv (B3 c)),(7,.I i)],[],300⟩) (λ i=>i<=l.length) (λ i=>l.length - i) 0 (Qh _) (BT [] []) ?_);intro i hi;refine AC (BP ⟨79,[(0,AF l),(4,.pv (EH t)),(5,.pv (B3 c)),(7,.I i),(15,.B (decide (i<l.length)))],[],400⟩ [] [] ?_);refine AD _ rfl (λ h=>AE ?_) λ h=>Aa (Ab ?_)
 .rw [Qb] at h
  obtain⟨s,hs⟩:=AL (l[i]);have hg:l[i]? = some s:=by rw[hs];exact Qa h
  have q:=hb s (by rw[hs];exact Qi h)
  have h3:=Ci h;have h4:=Eh t.ro s.au zy
  obtain⟨e,_,u⟩:=Gn s (by have:=q.2.2.1;omega) (by have:=q.2.2.2.1;omega)
  have h0:=Hw s q;obtain⟨se,h1⟩:∃ se:Bool,se=decide (s.sk=s.au/\s.sd.toList=(Bk s).toList):=⟨_,rfl⟩;rw[<- h1] at h0;refine G4 ?_;refine AI ?_;apply ax [0,4,5,7,8] [] [432] 500
  .simp [h,hg,<- hs,AZ,AB]
   rfl
  refine arc ⟨79,[(0,AF l),(4,.pv (EH t)),(5,.pv (B3 c)),(7,.I i),(78,.B (decide (s.ki=15/\s.a=c.ep/\s.b=c.ki/\s.c=c.su/\s.li=[]/\s.pi=[]/\s.bo.toList=[]/\s.au∈t.ro/\e=0/\se=true)))],[],1200⟩ ?_ ?_
  .simp
   repeat' first
    | (refine CC 16 rfl ?_;refine AT h4 zz ?_;simp)
    | (refine CC 71 rfl ?_;refine AT u (by simp[AB];grind) ?_;simp)
    | (refine CC 72 rfl ?_;refine AT h0 (by simp[AB];grind) ?_;simp)
    | (refine BK (λ hb=>?_) (λ hb=>?_)<;>(try rw[hb])<;>(try simp at hb)<;>simp[hb])
   all_goals exact AN [] [] (by simp[AB]<;>exact An (by (try simp at *);grind))
  refine AD _ rfl (λ _=>?_) λ _=>?_
  .refine ar [6] [] [] 1400 ?_
   exact AO (Af.mk (.inr rfl) true trivial (AG.one zz))
  refine AE ⟨_,Le.refl _ _,?_⟩;refine AU rfl ?_;simp[h3];exact⟨i+1,zy,zy,AY [] []⟩
 refine ar [6] [] [] 2000 ?_;exact AO (Af.mk (.inr rfl) false trivial (AG.one zz))
theorem S9 {e:AV}:Wk (.tup [.agg [.nilS,.nilS],e]) (.tup [Cm ⟨[],[]⟩,e]):=Cs KW (.refl _)
theorem XT (r:Ch) (l:List AJ) (t:Dr) (c:Cl) (hr:EW r) (hl:l.length<=20000) (hb:∀ s∈l,BJ s) (u:t.ro.length<=100000):∃ x:DQ × Bool,DJ x.1/\AK 322 [Bc r,AF l,C7 t,Be c] [] (.tup [Cm x.1,.B x.2]) []:=by
 refine qX.s.acallsX (args:=[Bc r,AF l,C7 t,Be c]) (hs:=[]) (λ x=>.tup [Cm x.1,.B x.2]) (λ _=>[]) (λ x:DQ × Bool=>DJ x.1) (AW rfl) (AW rfl) (λ _=>zz) ?_
 show AQ _ 0 _ _ ⟨44,[(0,Bc r),(1,AF l),(2,C7 t),(3,Be c)],[],16⟩;have q:=Xd c;generalize (if Dl c then (⟨c.ep,c.ki,c.su,1⟩:Cl) else ⟨0,0,0,0⟩)=c2 at q
 generalize (if Dl c then (0:Int) else 41)=e at q
 obtain⟨b,_,h1⟩:=Xo l t c zy hb u
 obtain⟨⟨x,ok,e2⟩,hx,h0⟩:=Mb r l t c2 hr hl hb u;simp only at hx h0;apply ax [1,4,6,7,8] [(40,40)] [16,24,32] 100
 .simp [AB]
  rfl
 apply ax [1,4,6,7,8,10,11] [(40,40)] [140] 200
 .simp
  refine Ay q ?_;simp[AZ];rfl
 refine AC (arc ⟨44,[(1,AF l),(4,.pv (CJ r)),(6,.pv (EH t)),(8,.pt 40 0 0),(10,.pv (B3 c2)),(27,.B (decide (e≠0∨b=false)))],[(40,some ⟨2,[[.nilS,.nilS]],0⟩)],400⟩ ?_ ?_)
 .simp [AB]
  repeat' first
   | (refine CC 340 rfl ?_;refine AT h1 zw ?_;simp)
   | (refine BK (λ hb=>?_) (λ hb=>?_)<;>(try rw[hb])<;>(try simp at hb)<;>simp[hb])
  all_goals exact AN [(40,40)] [] (by simp[AB]<;>exact An (by (try simp at *);grind))
 refine AD _ rfl (λ _=>?_) λ _=>AE ?_
 .apply ax [8,9] [(40,40)] [] 600
  .simp [AZ]
   rfl
  refine AO (Af.mk (.inr rfl) (⟨[],[]⟩,false) JP ?_);show AG [(8,some (true,2)),(9,none)] 0 _ _ _;exact AG.out (vs:=[.agg [.nilS,.nilS],.B false]) [] [] zz zz zz (by simp;exact S9) zz
 apply ax [8,11,12,13] [(40,40)] [472] 600
 .simp [AB]
  refine AT h0 zw ?_
  simp[AZ,AB];rfl
 refine arc ⟨44,[(8,.pt 40 0 0),(9,.B (decide (ok=true/\e2=0)))],[(40,some ⟨2,[CF x],0⟩)],800⟩ ?_ ?_
 .simp [AB]
  repeat' first
   | (refine BK (λ hb=>?_) (λ hb=>?_)<;>(try rw[hb])<;>(try simp at hb)<;>simp[hb,AZ])
  all_goals exact AN [(40,40)] [] (by simp[AB]<;>exact An (by (try simp at *);grind)) zw
 refine AO (Af.mk (.inr rfl) (x,decide (ok=true/\e2=0)) hx ?_);show AG [(8,some (true,2)),(9,none)] 0 _ _ _;exact AG.out (vs:=[Cm x,.B (decide (ok=true/\e2=0))]) [] [] zz zz zz zz zz
theorem Xe (r:Ch) (l:List AJ) (t:Dr) (c:Cl) (hr:EW r) (hl:l.length<=20000) (hb:∀ s∈l,BJ s) (q:t.ro.length<=100000):∃ x:DQ × Bool × Int,DJ x.1/\AK 286 [Bc r,AF l,C7 t,Be c] [] (.tup [Cm x.1,.B x.2.1,.I x.2.2]) []:=by
 refine rI.s.acallsX (args:=[Bc r,AF l,C7 t,Be c]) (hs:=[]) (λ x=>.tup [Cm x.1,.B x.2.1,.I x.2.2]) (λ _=>[]) (λ x:DQ × Bool × Int=>DJ x.1) (AW rfl) (AW rfl) (λ _=>zz) ?_
 show AQ _ 0 _ _ ⟨50,[(0,Bc r),(1,AF l),(2,C7 t),(3,Be c)],[],16⟩;have h1:=I3 c;obtain⟨⟨x,ok,e⟩,hx,u⟩:=Mb r l t c hr hl hb q;simp only at hx u;obtain⟨⟨y,is⟩,hy,h0⟩:=XT r l t c hr hl hb q;simp only at hy h0;apply ax [1,4,6,7,8] [(40,40)] [16,24,32] 100
 .simp [AB]
  rfl
 refine AC (arc ⟨50,[(1,AF l),(4,.pv (CJ r)),(6,.pv (EH t)),(7,.pv (B3 c)),(8,.pt 40 0 0),(23,.B (decide (¬ DF c∨c.ro≠0)))],[(40,some ⟨2,[[.nilS,.nilS]],0⟩)],200⟩ ?_ ?_)
 .simp [AB]
  refine AT h1 zw ?_
  simp
  repeat' first
   | (refine BK (λ hb=>?_) (λ hb=>?_)<;>(try rw[hb])<;>(try simp at hb)<;>simp[hb])
  all_goals exact AN [(40,40)] [] (by simp[AB]<;>exact An (by (try simp at *);grind))
 refine AD _ rfl (λ _=>?_) λ _=>AE ?_
 .apply ax [8,9,10] [(40,40)] [] 600
  .simp [AZ]
   rfl
  refine AO (Af.mk (.inr rfl) (⟨[],[]⟩,false,41) JP ?_);show AG [(8,some (true,2)),(9,none),(10,none)] 0 _ _ _;exact AG.out (vs:=[.agg [.nilS,.nilS],.B false,.I 41]) [] [] zz zz zz (by simp;exact Hg KW) zz
 apply ax [1,4,6,7,8,11,12,13] [(40,40)] [272] 400
 .simp [AB]
  refine AT u zw ?_
  simp[AZ,AB];rfl
 refine AC (ar [1,4,6,7,8,11,12,13,35] [(40,40)] [] 500 ?_);refine AD _ rfl (λ _=>?_) λ _=>AE ?_
 .apply ax [8,9,10] [(40,40)] [] 600
  .simp [AZ]
   rfl
  refine AO (Af.mk (.inr rfl) (⟨[],[]⟩,false,e) JP ?_);show AG [(8,some (true,2)),(9,none),(10,none)] 0 _ _ _;exact AG.out (vs:=[.agg [.nilS,.nilS],.B false,.I e]) [] [] zz zz zz (by simp;exact Hg KW) zz
 refine AC ?_;apply ax [8,11,12,14,15] [(40,40)] [564] 700
 .simp [AB]
  refine AT h0 zw ?_
  simp[AZ,AB];rfl
 refine ar [8,11,12,14,46] [(40,40)] [] 800 ?_;refine AD _ rfl (λ _=>?_) λ _=>AE ?_
 .apply ax [8,9,10] [(40,40)] [] 1000
  .simp [AZ,AB]
   rfl
  refine AO (Af.mk (.inr rfl) (y,true,0) hy ?_);show AG [(8,some (true,2)),(9,none),(10,none)] 0 _ _ _;exact AG.out (vs:=[Cm y,.B true,.I 0]) [] [] zz zz zz zz zz
 apply ax [8,9,10] [(40,40)] [] 1000
 .simp [AZ,AB]
  rfl
 refine AO (Af.mk (.inr rfl) (x,ok,0) hx ?_);show AG [(8,some (true,2)),(9,none),(10,none)] 0 _ _ _;exact AG.out (vs:=[Cm x,.B ok,.I 0]) [] [] zz zz zz zz zz
structure Eo where
 ow:Int
 ne:Int
 gu:List Int
abbrev Fe (g:Eo):List AV:=[.I g.ow,.I g.ne,AA g.gu]
abbrev GF (g:Eo):AV:=.agg (Fe g)
abbrev Hz (G:List Eo):AV:=.vs 3 false (G.map Fe)
def HA:Option Eo->List AV
 | none=>[.I 0,.I 0,.nilS]
 | some g=>Fe g
theorem IW (o:Option Eo) (ρ sn h m):(HA o).map (conv ρ sn h (m+1))=HA o:=by cases o<;>simp[HA,AB]
theorem Ht (o:Option Eo):(HA o).length=3:=by cases o<;>rfl
def HR (g:Eo):Prop:=g.gu.length<=100
theorem Jy {e:AV}:Wk (.tup [.agg [.I 0,.I 0,.nilS],e]) (.tup [GF ⟨0,0,[]⟩,e]):=Cs (.agg _ _ rfl λ j=>match j with | 0=>.refl _ | 1=>.refl _ | 2=>.nil _ _ | _+3=>.refl _) (.refl _)
open Classical in
theorem P8 (g:Eo) (hl:g.gu.length<=100000):∃ b:Bool,True/\AK 289 [GF g] [] (.B b) []:=by
 obtain⟨n,hn⟩:=AL (g.gu.length);refine sF.s.acallsX (args:=[GF g]) (hs:=[]) (λ b=>.B b) (λ _=>[]) (λ _:Bool=>True) (AW rfl) (AW rfl) (λ _=>zz) ?_
 show AQ _ 0 _ _ ⟨43,[(0,GF g)],[],16⟩;have hv:=I2 g.gu zy
 have hh:=Eh g.gu g.ow zy
 apply ax [1] [] [16] 100
 .simp [AB]
  rfl
 refine arc ⟨43,[(2,.B (decide (0<=g.ow/\g.ow<64/\n<=12/\HD g.gu/\g.ow∉g.gu/\1<=g.ne/\g.ne<=n)))],[],800⟩ ?_ ?_
 .simp [<- hn]
  repeat' first
   | (refine CC 109 rfl ?_;refine AT hv zz ?_;simp[<- hn])
   | (refine CC 16 rfl ?_;refine AT hh zz ?_;simp[<- hn])
   | (refine BK (λ hb=>?_) (λ hb=>?_)<;>(try rw[hb])<;>(try simp at hb)<;>simp[<- hn,hb])
  all_goals exact AN [] [] (by simp<;>exact An (by (try simp at *);grind))
 exact AO (Af.mk (.inr rfl) (decide (0<=g.ow/\g.ow<64/\n<=12/\HD g.gu/\g.ow∉g.gu/\1<=g.ne/\g.ne<=n)) trivial (AG.one (.refl _)))
open Classical in
theorem Zs (s:AJ) (hs:BJ s):∃ x:Eo × Int,HR x.1/\AK 287 [eS s] [] (.tup [GF x.1,.I x.2]) []:=by
 have h3:=hs.2.2.1;obtain⟨e,_,q⟩:=Gn s zy (by have:=hs.2.2.2.1;omega)
 have u:=Hw s hs;obtain⟨se,h0⟩:∃ se:Bool,se=decide (s.sk=s.au/\s.sd.toList=(Bk s).toList):=⟨_,rfl⟩;rw[<- h0] at u;obtain⟨va,_,h1⟩:=P8 ⟨s.au,s.a,s.li⟩ (by simp only;omega)
 refine uR.s.acallsX (args:=[eS s]) (hs:=[]) (λ x=>.tup [GF x.1,.I x.2]) (λ _=>[]) (λ x:Eo × Int=>HR x.1) (AW rfl) (AW rfl) (λ _=>zz) ?_
 show AQ _ 0 _ _ ⟨57,[(0,eS s)],[],16⟩;apply ax [1,2] [(24,24)] [16] 100
 .simp [AB]
  rfl
 refine AC ?_;apply ax [1,2,4] [(24,24)] [] 200
 .simp
  refine AT q zw ?_
  simp;rfl
 refine ar [1,2,4,9] [(24,24)] [] 300 ?_;refine AD _ rfl (λ _=>?_) λ _=>AE ?_
 .apply ax [2,3] [(24,24)] [] 400
  .simp [AZ]
   rfl
  refine AO (Af.mk (.inr rfl) (⟨0,0,[]⟩,e) (by simp[HR]) ?_)
  show AG [(2,some (true,3)),(3,none)] 0 _ _ _;exact AG.out (vs:=[.agg [.I 0,.I 0,.nilS],.I e]) [] [] zz zz zz (by simp;exact Jy) zz
 refine BM ⟨57,[(1,.pv (sC s)),(2,.pt 24 0 0),(5,.pv (Fe ⟨s.au,s.a,s.li⟩))],[(24,some ⟨3,[[.I 0,.I 0,.nilS]],0⟩)],400⟩ ?_ ?_
 .simp [AZ,AB]
  exact⟨zy,zy,rfl,AN [(24,24)] [356,372] (by simp[Ba,AB])⟩
 refine AC (arc ⟨57,[(2,.pt 24 0 0),(5,.pv (Fe ⟨s.au,s.a,s.li⟩)),(54,.B (decide (se=false∨s.ki≠12∨s.b≠0∨s.c≠0∨s.pi≠[]∨s.bo.toList≠[]∨va=false)))],[(24,some ⟨3,[[.I 0,.I 0,.nilS]],0⟩)],1000⟩ ?_ ?_)
 .simp
  refine AT u zw ?_
  simp
  repeat' first
   | (refine CC 289 rfl ?_;refine AT h1 zw ?_;simp)
   | (refine BK (λ hb=>?_) (λ hb=>?_)<;>(try rw[hb])<;>(try simp at hb)<;>simp[hb])
  all_goals exact AN [(24,24)] [] (by simp[AB]<;>exact An (by (try simp at *);grind))
 refine AD _ rfl (λ _=>?_) λ _=>AE ?_
 .apply ax [2,3] [(24,24)] [] 1200
  .simp [AZ]
   rfl
  refine AO (Af.mk (.inr rfl) (⟨0,0,[]⟩,47) (by simp[HR]) ?_)
  show AG [(2,some (true,3)),(3,none)] 0 _ _ _;exact AG.out (vs:=[.agg [.I 0,.I 0,.nilS],.I 47]) [] [] zz zz zz (by simp;exact Jy) zz
 apply ax [2,3] [(24,24)] [] 1200
 .simp [AZ,AB]
  rfl
 refine AO (Af.mk (.inr rfl) (⟨s.au,s.a,s.li⟩,0) (by show s.li.length<=100;omega) ?_)
 show AG [(2,some (true,3)),(3,none)] 0 _ _ _;exact AG.out (vs:=[GF ⟨s.au,s.a,s.li⟩,.I 0]) [] [] zz zz zz zz zz
theorem Pu (g:Eo) (v:List Int) (hl:g.gu.length<=100000) (hv:v.length<=100000):∃ n:Int,True/\AK 252 [GF g,AA v] [] (.I n) []:=by
 refine sD.s.acallsX (args:=[GF g,AA v]) (hs:=[]) (λ b=>.I b) (λ _=>[]) (λ _:Int=>True) (AW rfl) (AW rfl) (λ _=>zz) ?_
 show AQ _ 0 _ _ ⟨24,[(0,GF g),(1,AA v)],[],16⟩;apply ax [1,2] [] [16] 50
 .simp [AB]
  rfl
 refine ar [1,2,5] [] [] 60 ?_;refine AC (ar [1,2,5,6] [] [] 80 ?_);refine AI (Ag (ι:=Nat × Nat) (λ p=>⟨24,[(1,AA v),(2,.pv (Fe g)),(5,.I p.1),(6,.I p.2)],[],100⟩) (λ p=>p.1<=p.2/\p.2<=g.gu.length) (λ p=>g.gu.length - p.2) (0,0) ⟨zz,zz⟩ (BT [] []) ?_)
 rintro⟨n,i⟩ ⟨hn,hi⟩
 simp only at hn hi ⊢;refine AC (BP ⟨24,[(1,AA v),(2,.pv (Fe g)),(5,.I n),(6,.I i),(11,.B (decide (i<g.gu.length)))],[],200⟩ [] [] ?_);refine AD _ rfl (λ h=>AE ?_) λ h=>Aa (Ab ?_)
 .rw [Qb] at h
  have q:=Ci h;have u:=Ci (k:=n) (N:=g.gu.length+1) zy
  obtain⟨x,hx⟩:=AL (g.gu[i]);have hg:g.gu[i]? = some x:=by rw[hx];exact Qa h
  have hh:=Eh v x zy
  refine Bn (ι:=Nat) (λ m=>⟨24,[(1,AA v),(2,.pv (Fe g)),(5,.I m),(6,.I i)],[],1000⟩) (λ m=>m<=i+1) ?_ λ m hm=>?_
  .refine AI ?_
   apply ax [1,2,5,6,20] [] [] 400
   .simp [h,hg,<- hx]
    refine Ay hh ?_;simp;rfl
   refine AD _ rfl (λ _=>?_) λ _=>?_
   .refine AU rfl ?_
    simp[u];exact⟨n+1,zy,BT [] []⟩
   exact AE ⟨n,zy,BT [] []⟩
  refine AU rfl ?_;simp[q];exact⟨m,i+1,⟨zy,zy⟩,zy,BT [] []⟩
 refine ar [4] [] [] 2000 ?_;exact AO (Af.mk (.inr rfl) n trivial (AG.one zz))
theorem ZX (g:Eo) (v:List Int) (hl:g.gu.length<=100000) (hv:v.length<=100000):∃ b:Bool,True/\AK 253 [GF g,AA v] [] (.B b) []:=by
 obtain⟨n,_,hn⟩:=Pu g v hl hv;obtain⟨b,_,hb⟩:=P8 g hl;refine wR.s.acallsX (args:=[GF g,AA v]) (hs:=[]) (λ b=>.B b) (λ _=>[]) (λ _:Bool=>True) (AW rfl) (AW rfl) (λ _=>zz) ?_
 show AQ _ 0 _ _ ⟨15,[(0,GF g),(1,AA v)],[],16⟩;apply ax [1,2] [] [16] 50
 .simp [AB]
  rfl
 refine BM ⟨15,[(4,.B (decide (b=true/\g.ne<=n)))],[],400⟩ ?_ ?_
 .simp
  refine Ay hb ?_;simp
  repeat' first
   | (refine CC 252 rfl ?_;refine AT hn zz ?_;simp)
   | (refine BK (λ hb=>?_) (λ hb=>?_)<;>(try rw[hb])<;>(try simp at hb)<;>simp[hb])
  all_goals exact⟨rfl,AN [] [] (by simp<;>exact An (by (try simp at *);grind))⟩
 exact AO (Af.mk (.inr rfl) (decide (b=true/\g.ne<=n)) trivial (AG.one (.refl _)))
theorem fS (l:List AJ) (hl:l.length<=100000) (hb:∀ s∈l,BJ s):∃ G:List Eo,(G.length<=64 /\ ∀ g∈G,HR g)/\AK 249 [AF l] [] (Hz G) []:=by
 refine rD.s.acallsX (args:=[AF l]) (hs:=[]) (λ G=>Hz G) (λ _=>[]) (λ G:List Eo=>G.length<=64 /\ ∀ g∈G,HR g) (AW rfl) (AW rfl) (λ _=>zz) ?_
 show AQ _ 0 _ _ ⟨44,[(0,AF l)],[],16⟩;refine ar [0] [] [] 40 ?_;refine ar [0,3] [] [] 60 ?_;refine AC (ar [0,3,4] [] [] 80 ?_);refine AI (Ag (ι:=List Eo × Nat) (λ p=>⟨44,[(0,AF l),(3,.rs 50 0 p.1.length),(4,.I p.2)],[(50,some ⟨3,p.1.map Fe,0⟩)],100⟩) (λ p=>p.2<=64/\p.1.length<=p.2 /\ ∀ g∈p.1,HR g) (λ p=>64 - p.2) ([],0) ⟨zz,zz,zz⟩ (Le.nw [] [(50,3)]) ?_)
 rintro⟨o,k⟩ ⟨hk,ho,u⟩
 simp only at hk ho u ⊢;refine AC (arc ⟨44,[(0,AF l),(3,.rs 50 0 o.length),(4,.I k),(11,.B (decide (k<64)))],[(50,some ⟨3,o.map Fe,0⟩)],200⟩ ?_ ?_)
 .simp
  exact AN [(50,50)] [] (by simp[AB]<;>exact An (by rw[Qk];simp;omega)) zw
 refine AD _ rfl (λ h=>AE ?_) λ h=>Aa (Ab ?_)
 .rw [Qb] at h
  have h5:=Ci h;refine Bn (ι:=List Eo) (λ W=>⟨44,[(0,AF l),(3,.rs 50 0 W.length),(4,.I k)],[(50,some ⟨3,W.map Fe,0⟩)],5000⟩) (λ W=>W.length<=k+1 /\ ∀ g∈W,HR g) ?_ λ W hW=>?_
  .refine AI ?_
   apply ax [0,3,4,5] [(50,50),(200,60)] [] 300
   .simp [AB]
    rfl
   refine ar [0,3,4,5,6] [(50,50),(60,60)] [] 340 ?_;refine AC (ar [0,3,4,5,6,7] [(50,50),(60,60)] [] 380 ?_);refine AI (Ag (ι:=Option Eo × Nat) (λ p=>⟨44,[(0,AF l),(3,.rs 50 0 o.length),(4,.I k),(5,.pt 60 0 0),(6,.B p.1.isSome),(7,.I p.2)],[(50,some ⟨3,o.map Fe,0⟩),(60,some ⟨3,[HA p.1],0⟩)],400⟩) (λ p=>p.2<=l.length /\ ∀ g,p.1=some g->HR g) (λ p=>l.length - p.2) (none,0) ⟨zz,zz⟩ (AN [(50,50),(60,60)] [] zz (by simp[AB,HA])) ?_)
   rintro⟨og,i⟩ ⟨hi,q⟩
   simp only at hi q ⊢;refine AC (arc ⟨44,[(0,AF l),(3,.rs 50 0 o.length),(4,.I k),(5,.pt 60 0 0),(6,.B og.isSome),(7,.I i),(17,.B (decide (i<l.length)))],[(50,some ⟨3,o.map Fe,0⟩),(60,some ⟨3,[HA og],0⟩)],500⟩ ?_ ?_)
   .simp
    exact AN [(50,50),(60,60)] [] zw (by simp[AB,IW,Ht])
   refine AD _ rfl (λ h2=>AE ?_) λ h2=>Aa (Ab ?_)
   .rw [Qb] at h2
    obtain⟨s,hs⟩:=AL (l[i]);have hg:l[i]? = some s:=by rw[hs];exact Qa h2
    have h6:=hb s (by rw[hs];exact Qi h2)
    have h0:=Ci h2;obtain⟨⟨g,e⟩,h1,h4⟩:=Zs s h6;simp only at h1 h4;refine Bn (ι:=Option Eo) (λ og=>⟨44,[(0,AF l),(3,.rs 50 0 o.length),(4,.I k),(5,.pt 60 0 0),(6,.B og.isSome),(7,.I i)],[(50,some ⟨3,o.map Fe,0⟩),(60,some ⟨3,[HA og],0⟩)],2000⟩) (λ og=>∀ g,og=some g->HR g) ?_ λ og q=>?_
    .refine AI (AC ?_)
     apply ax [0,3,4,5,6,7,26] [(50,50),(60,60)] [] 600
     .simp [h2,hg,<- hs,AB,IW,Ht]
      rfl
     refine AD _ rfl (λ _=>?_) λ _=>AE ?_
     .refine Aa (Ab ?_)
      exact⟨og,q,AN [(50,50),(60,60)] [] zw (by simp[AB,IW,Ht])⟩
     apply ax [0,3,4,5,6,7,8,9] [(50,50),(60,60)] [664] 800
     .simp [h2,hg,<- hs,AB,IW,Ht]
      refine AT h4 zw ?_
      simp[AZ,AB,IW,Ht];rfl
     refine ar [0,3,4,5,6,7,8,36] [(50,50),(60,60)] [] 900 ?_;refine AD _ rfl (λ _=>?_) λ _=>?_
     .refine AU rfl ?_
      simp[AZ,AB,IW,Ht];exact⟨some g,by simpa using h1,AN [(50,50),(60,60)] [] zw (by simp[AB,Ht];cases og<;>simp[HA])⟩
     exact AE ⟨og,q,AN [(50,50),(60,60)] [] zw (by simp[AB,IW,Ht])⟩
    refine AU rfl ?_;simp[h0];exact⟨og,i+1,⟨zy,q⟩,zy,AN [(50,50),(60,60)] [] zw (by simp[AB,IW,Ht])⟩
   refine ar [3,4,0,5,6,38] [(50,50),(60,60)] [] 3000 ?_;refine AD _ rfl (λ h3=>?_) λ _=>?_
   .obtain ⟨g,rfl⟩:=Option.isSome_iff_exists.1 h3
    refine AU rfl ?_;simp[Ba,AB,HA];refine⟨zy,zy,o++[g],⟨zu,λ x hx=>?_⟩,B4 [(3024,50)] []⟩
    rcases Qn.1 hx with h | h
    .exact u x h
    .rw [Qw] at h;rw[h];exact q g rfl
   exact AE ⟨o,⟨zy,u⟩,AY [(50,50)] []⟩
  refine AU rfl ?_;simp[h5];exact⟨W,k+1,⟨zy,hW.1,hW.2⟩,zy,AY [(50,50)] []⟩
 refine ar [2] [(50,50)] [] 6000 ?_;refine AO (Af.mk (.inr rfl) o ⟨zy,u⟩ ?_)
 exact AG.out [] [50] rfl zz zz (by simp[AB,Ba]) zz
theorem YX (l:List AJ) (a b:Int) (hl:l.length<=100000):∃ r:Bool,True/\AK 250 [AF l,.I a,.I b] [] (.B r) []:=by
 refine uW.s.acallsX (args:=[AF l,.I a,.I b]) (hs:=[]) (λ b=>.B b) (λ _=>[]) (λ _:Bool=>True) (AW rfl) (AW rfl) (λ _=>zz) ?_
 show AQ _ 0 _ _ ⟨38,[(0,AF l),(1,.I a),(2,.I b)],[],16⟩;refine ar [0,1,2] [] [] 40 ?_;refine AC (ar [0,1,2,7] [] [] 60 ?_);refine AI (Ag (ι:=Nat) (λ i=>⟨38,[(0,AF l),(1,.I a),(2,.I b),(7,.I i)],[],100⟩) (λ i=>i<=l.length) (λ i=>l.length - i) 0 (Qh _) (AY [] []) ?_);intro i hi;refine AC (BP ⟨38,[(0,AF l),(1,.I a),(2,.I b),(7,.I i),(11,.B (decide (i<l.length)))],[],200⟩ [] [] ?_);refine AD _ rfl (λ h=>AE ?_) λ h=>Aa (Ab ?_)
 .rw [Qb] at h
  obtain⟨s,hs⟩:=AL (l[i]);have hg:l[i]? = some s:=by rw[hs];exact Qa h
  have q:=Ci h;refine G4 ?_;refine AI (arc ⟨38,[(0,AF l),(1,.I a),(2,.I b),(7,.I i),(37,.B (decide (s.ki=13/\s.a=a/\s.b=b)))],[],500⟩ ?_ ?_)
  .simp [h,hg,<- hs]
   repeat' first
    | (refine BK (λ hb=>?_) (λ hb=>?_)<;>(try rw[hb])<;>(try simp at hb)<;>simp[h,hg,<- hs,hb])
   all_goals exact AN [] [] (by simp[AB]<;>exact An (by rw[Qk];simp[*]))
  refine AD _ rfl (λ _=>?_) λ _=>?_
  .refine ar [6] [] [] 600 ?_
   exact AO (Af.mk (.inr rfl) true trivial (AG.one zz))
  refine AE ⟨_,Le.refl _ _,?_⟩;refine AU rfl ?_;simp[q];exact⟨i+1,zy,zy,AY [] []⟩
 refine ar [6] [] [] 2000 ?_;exact AO (Af.mk (.inr rfl) false trivial (AG.one zz))
theorem Y8 (s:AJ) (hs:BJ s):∃ r:(Int × Int) × Bool,True/\AK 288 [eS s] [] (.tup [.agg (HB r.1),.B r.2]) []:=by
 obtain⟨e,_,q⟩:=Gn s (by have:=hs.2.2.1;omega) (by have:=hs.2.2.2.1;omega)
 have u:=Hw s hs;obtain⟨se,h0⟩:∃ se:Bool,se=decide (s.sk=s.au/\s.sd.toList=(Bk s).toList):=⟨_,rfl⟩;rw[<- h0] at u;have h1:=iP ⟨s.a,s.b⟩;refine uS.s.acallsX (args:=[eS s]) (hs:=[]) (λ r=>.tup [.agg (HB r.1),.B r.2]) (λ _=>[]) (λ _:(Int × Int) × Bool=>True) (AW rfl) (AW rfl) (λ _=>zz) ?_
 show AQ _ 0 _ _ ⟨49,[(0,eS s)],[],16⟩;apply ax [1,2] [(24,24)] [16] 50
 .simp [AB]
  rfl
 apply ax [1,2,4] [(24,24)] [90] 100
 .simp [AZ,AB]
  rfl
 refine BM ⟨49,[(2,.pt 24 0 0),(3,.B (decide (s.ki=13/\s.c=0/\s.li=[]/\s.pi=[]/\s.bo.toList=[]/\Es ⟨s.a,s.b⟩/\e=0/\se=true)))],[(24,some ⟨2,[[.I s.a,.I s.b]],0⟩)],800⟩ ?_ ?_
 .simp
  repeat' first
   | (refine CC 323 rfl ?_;refine AT h1 zz ?_;simp)
   | (refine CC 71 rfl ?_;refine AT q (by simp[AB]<;>grind) ?_;simp)
   | (refine CC 72 rfl ?_;refine AT u (by simp[AB]<;>grind) ?_;simp)
   | (refine BK (λ hb=>?_) (λ hb=>?_)<;>(try rw[hb])<;>(try simp at hb)<;>simp[hb,AZ])
  all_goals exact⟨rfl,AN [(24,24)] [] (by simp<;>exact An (by (try simp at *);grind))⟩
 refine AO (Af.mk (.inr rfl) ((s.a,s.b),decide (s.ki=13/\s.c=0/\s.li=[]/\s.pi=[]/\s.bo.toList=[]/\Es ⟨s.a,s.b⟩/\e=0/\se=true)) trivial ?_);show AG [(2,some (true,2)),(3,none)] 0 _ _ _;exact AG.out (vs:=[.agg [.I s.a,.I s.b],.B (decide (s.ki=13/\s.c=0/\s.li=[]/\s.pi=[]/\s.bo.toList=[]/\Es ⟨s.a,s.b⟩/\e=0/\se=true))]) [] [] zz zz zz (.refl _) zz
theorem TZ (H:List (Int × Int)) (key:Int) (hl:H.length<=100000):∃ r:Int,True/\AK 189 [DU H,.I key] [] (.I r) []:=by
 refine u7.s.acallsX (args:=[DU H,.I key]) (hs:=[]) (λ r=>.I r) (λ _=>[]) (λ _:Int=>True) (AW rfl) (AW rfl) (λ _=>zz) ?_
 show AQ _ 0 _ _ ⟨39,[(0,DU H),(1,.I key)],[],16⟩;refine ar [0,1] [] [] 40 ?_;refine ar [0,1,5] [(48,50)] [] 80 ?_;refine AI (Ag (ι:=List Int × Nat) (λ p=>⟨39,[(0,DU H),(1,.I key),(5,.rs 50 0 p.1.length)],[(50,some ⟨1,AH p.1,p.2⟩)],100⟩) (λ p=>p.1≠[]/\p.1.length<=17/\p.2<=p.1.length) (λ p=>18 - p.1.length) ([key],0) zz (AY [(50,50)] []) ?_)
 rintro⟨o,z⟩ ⟨q,ho,hz⟩
 simp only at q ho hz ⊢;have h4:0<o.length:=Us.2 q;obtain⟨m,hm⟩:=AL (o.length - 1);have u:m<o.length:=zy
 obtain⟨x,hx⟩:=AL (o[m]);have hg:o[m]? = some x:=by rw[hx];exact Qa u
 have h1:IntKind.i64.wrap ((o.length:Int) - 1)=(m:Int):=by rw[w6];omega
 obtain⟨⟨y,ok⟩,_,h0⟩:=V3 H x hl;simp only at h0;have h2:=Eh o y zy
 refine AI ?_;apply ax [0,1,5,6] [(50,50)] [] 200
 .simp [h1,u,hg,<- hx,hz,AB]
  rfl
 apply ax [0,1,5,6,7,8] [(50,50)] [] 300
 .simp [hz,AB]
  refine AT h0 zw ?_
  simp[hz,AB];rfl
 refine AC ?_;apply ax [0,1,5,6,7,24] [(50,50)] [] 400
 .simp [hz,AB]
  rfl
 refine AD _ rfl (λ _=>?_) λ _=>AE ?_
 .refine ar [4] [] [] 500 ?_
  exact AO (Af.mk (.inr rfl) x trivial (AG.one zz))
 refine AC ?_;obtain⟨n,hn⟩:=AL (o.length);refine arc ⟨39,[(0,DU H),(1,.I key),(5,.rs 50 0 o.length),(7,.I y),(33,.B (decide (y∈o∨16<n)))],[(50,some ⟨1,AH o,o.length⟩)],600⟩ ?_ ?_
 .simp [AB]
  refine ET [50] zz h2 (by simp[AB,Ba]) ?_
  simp[<- hn,AB]
  repeat' first
   | (refine BK (λ hb=>?_) (λ hb=>?_)<;>(try rw[hb])<;>(try simp at hb)<;>simp[<- hn,hb,AB])
  all_goals exact AN [(50,50)] [] (by simp[AB,hn]<;>exact An (by (try simp at *);grind)) (by simp[AB];omega)
 refine AD _ rfl (λ _=>?_) λ h=>AE ?_
 .refine ar [4] [] [] 700 ?_
  exact AO (Af.mk (.inr rfl) key trivial (AG.one zz))
 have h3:o.length<=16:=by simp at h;omega
 refine AU rfl ?_;simp[Ba,AB];exact⟨zy,zy,o++[y],o.length,⟨zz,zu,zz⟩,zu,AY [(624,50)] []⟩
def IH (r:List Int):Prop:=r.length<=64 /\ ∀ x∈r,0<=x/\x<64
theorem LX (a:List Int):IH (Az a):=by
 refine⟨?_,λ x hx=>?_⟩
 .unfold Az;exact QI (QO ..) zz
 .exact (ID.1 hx).2
theorem VS (a b:List Int):IH (D2 a b):=by
 refine⟨Nc a b 64,λ x hx=>?_⟩;unfold D2 Dc at hx;obtain⟨h1,_⟩:=QA.1 hx;obtain⟨i,hi,rfl⟩:=Qm.1 h1;have:=QS.1 hi;constructor
 .exact Int.natCast_nonneg i
 .show (i:Int)<64;omega
theorem jN (l:List Int) (H:List (Int × Int)) (h2:l.length<=100000) (hl:H.length<=100000):∃ r:List Int,IH r/\AK 254 [AA l,DU H] [] (AA r) []:=by
 refine wC.s.acallsX (args:=[AA l,DU H]) (hs:=[]) (λ r=>AA r) (λ _=>[]) (λ r:List Int=>IH r) (AW rfl) (AW rfl) (λ _=>zz) ?_
 show AQ _ 0 _ _ ⟨36,[(0,AA l),(1,DU H)],[],16⟩;refine ar [0,1] [] [] 40 ?_;refine ar [0,1,5] [] [] 60 ?_;refine AC (ar [0,1,5,6] [] [] 80 ?_);refine AI (Ag (ι:=List Int × Nat) (λ p=>⟨36,[(0,AA l),(1,DU H),(5,.rs 50 0 p.1.length),(6,.I p.2)],[(50,some ⟨1,AH p.1,0⟩)],100⟩) (λ p=>p.2<=l.length/\p.1.length<=p.2) (λ p=>l.length - p.2) ([],0) ⟨zz,zz⟩ (Le.nw [] [(50,1)]) ?_)
 rintro⟨o,i⟩ ⟨hi,ho⟩
 simp only at hi ho ⊢;refine AC (BP ⟨36,[(0,AA l),(1,DU H),(5,.rs 50 0 o.length),(6,.I i),(10,.B (decide (i<l.length)))],[(50,some ⟨1,AH o,0⟩)],200⟩ [(50,50)] [] ?_);refine AD _ rfl (λ h=>AE ?_) λ h=>Aa (Ab ?_)
 .rw [Qb] at h
  have h0:=Ci h;obtain⟨x,hx⟩:=AL (l[i]);have hg:l[i]? = some x:=by rw[hx];exact Qa h
  obtain⟨y,_,h1⟩:=TZ H x hl;refine Bn (ι:=List Int) (λ W=>⟨36,[(0,AA l),(1,DU H),(5,.rs 50 0 W.length),(6,.I i)],[(50,some ⟨1,AH W,0⟩)],5000⟩) (λ W=>W.length<=i+1) ?_ λ W hW=>?_
  .refine AI (arc ⟨36,[(0,AA l),(1,DU H),(5,.rs 50 0 o.length),(6,.I i),(24,.B (decide (0<=x/\x<64)))],[(50,some ⟨1,AH o,0⟩)],400⟩ ?_ ?_)
   .simp [h,hg,<- hx,AB]
    repeat' first
     | (refine BK (λ hb=>?_) (λ hb=>?_)<;>(try rw[hb])<;>(try simp at hb)<;>simp[h,hg,<- hx,hb,AB])
    all_goals exact AN [(50,50)] [] (by simp[AB]<;>exact An (by (try simp at *);grind)) zw
   refine AD _ rfl (λ _=>?_) λ _=>?_
   .refine AU rfl ?_
    simp[h,hg,<- hx,AB];refine AT h1 zw ?_
    simp[Ba,AB];exact⟨zy,zy,o++[y],zu,AY [(464,50)] []⟩
   exact AE ⟨o,zy,AY [(50,50)] []⟩
  refine AU rfl ?_;simp[h0];exact⟨W,i+1,⟨zy,hW⟩,zy,AY [(50,50)] []⟩
 have u:=Ly o [] zy zz
 rw[QK] at u;have q:AK 192 [AA o,.nilS] [] (.rs 0 0 (Az o).length) [some ⟨1,AH (Az o),0⟩]:=HK u ⟨.refl _,.nil _ _,trivial⟩;have hk:=LX o;generalize Az o=J at q hk;apply ax [4] [] [208] 6000
 .simp [AB]
  refine H6 [50] zz q (by simp[AB,Ba]) ?_
  simp[AB,Ba];rfl
 exact AO (Af.mk (.inr rfl) J hk (AG.one zz))
theorem X8 (a b:List Int) (H:List (Int × Int)) (ha:a.length<=100000) (hb:b.length<=100000) (hl:H.length<=100000):∃ r:List Int,IH r/\AK 188 [AA a,AA b,DU H] [] (AA r) []:=by
 have q:=MR a b zy zy
 have u:=VS a b;generalize D2 a b=M at q u;obtain⟨R,hR,h0⟩:=jN M H (by have:=u.1;omega) hl
 refine vL.s.acallsX (args:=[AA a,AA b,DU H]) (hs:=[]) (λ r=>AA r) (λ _=>[]) (λ r:List Int=>IH r) (AW rfl) (AW rfl) (λ _=>zz) ?_
 show AQ _ 0 _ _ ⟨12,[(0,AA a),(1,AA b),(2,DU H)],[],16⟩;refine ar [0,1,2] [] [] 40 ?_;apply ax [6] [] [] 200
 .simp [AB]
  refine Cu q zw ?_
  simp[AB];refine ET [56] zz h0 (by simp[AB,Ba]) ?_
  simp[AB];rfl
 exact AO (Af.mk (.inr rfl) R hR (AG.one zz))
def K7 (ks:List Int) (x:List Int × Int):Prop:=x.1.length<=ks.length
theorem VY (r:Ch) (l:List AJ) (t:Dr) (kd:Int) (ks:List Int) (hr:EW r) (hl:l.length<=20000) (hb:∀ s∈l,BJ s) (u:t.ro.length<=100000) (h4:ks.length<=64) :
  ∃ x:List Int × Int,K7 ks x/\AK 248 [Bc r,AF l,C7 t,.I kd,AA ks] [] (.tup [AA x.1,.I x.2]) []:=by
 refine wS.s.acallsX (args:=[Bc r,AF l,C7 t,.I kd,AA ks]) (hs:=[]) (λ x=>.tup [AA x.1,.I x.2]) (λ _=>[]) (λ x:List Int × Int=>K7 ks x) (AW rfl) (AW rfl) (λ _=>zz) ?_
 show AQ _ 0 _ _ ⟨80,[(0,Bc r),(1,AF l),(2,C7 t),(3,.I kd),(4,AA ks)],[],16⟩;have hc:=Jl r hr;have hv:=I2 t.ro zy
 obtain⟨C,h5,h0⟩:=fD l hl hb;apply ax [1,3,4,5,7] [] [16,24] 100
 .simp [AB]
  rfl
 refine AC ?_;apply ax [1,3,4,5,7,12] [] [] 200
 .simp
  refine AT hc zw ?_
  simp;rfl
 refine ar [1,3,4,5,7,12,23] [] [] 300 ?_;refine AD _ rfl (λ h=>by simp at h) λ _=>AE ?_
 refine AC ?_;apply ax [1,3,4,5,7,28] [] [] 400
 .simp
  refine Ay hv ?_;simp;rfl
 refine AD _ rfl (λ _=>?_) λ _=>AE ?_
 .refine ar [10,11] [] [] 500 ?_
  refine AO (Af.mk (.inr rfl) ([],43) (by simp[K7]) ?_)
  exact AG.out [] [] rfl zz zz (by simp;exact Cf) zz
 apply ax [1,3,4,5,7,13] [] [] 500
 .simp [AB]
  refine AT h0 zw ?_
  simp[AB];rfl
 refine ar [1,3,4,5,7,13,14] [] [] 540 ?_;refine AC (ar [1,3,4,5,7,13,14,15] [] [] 580 ?_);refine AI (Ag (ι:=List Int × Nat) (λ p=>⟨80,[(1,AF l),(3,.I kd),(4,AA ks),(5,.pv (CJ r)),(7,.pv (EH t)),(13,Dh C),(14,.rs 50 0 p.1.length),(15,.I p.2)],[(50,some ⟨1,AH p.1,0⟩)],600⟩) (λ p=>p.2<=ks.length/\p.1.length<=p.2) (λ p=>ks.length - p.2) ([],0) ⟨zz,zz⟩ (Le.nw [] [(50,1)]) ?_)
 rintro⟨o,i⟩ ⟨hi,ho⟩
 simp only at hi ho ⊢;refine AC (BP ⟨80,[(1,AF l),(3,.I kd),(4,AA ks),(5,.pv (CJ r)),(7,.pv (EH t)),(13,Dh C),(14,.rs 50 0 o.length),(15,.I i),(34,.B (decide (i<ks.length)))],[(50,some ⟨1,AH o,0⟩)],700⟩ [(50,50)] [] ?_);refine AD _ rfl (λ h=>AE ?_) λ h=>Aa (Ab ?_)
 .rw [Qb] at h
  have h1:=Ci h;obtain⟨k,hk⟩:=AL (ks[i]);have hg:ks[i]? = some k:=by rw[hk];exact Qa h
  obtain⟨sb,_,h2⟩:=iR C ⟨t.ep,kd,k,0⟩ zy
  obtain⟨⟨x,ok,e⟩,hx,q⟩:=Xe r l t ⟨t.ep,kd,k,0⟩ hr hl hb u;simp only at hx q;have h6:=hx.1;have h3:=PP x.li [1] zy zz
  refine Bn (ι:=List Int) (λ W=>⟨80,[(1,AF l),(3,.I kd),(4,AA ks),(5,.pv (CJ r)),(7,.pv (EH t)),(13,Dh C),(14,.rs 50 0 W.length),(15,.I i)],[(50,some ⟨1,AH W,0⟩)],5000⟩) (λ W=>W.length<=i+1) ?_ λ W hW=>?_
  .refine AI (BM ⟨80,[(1,AF l),(3,.I kd),(4,AA ks),(5,.pv (CJ r)),(7,.pv (EH t)),(13,Dh C),(14,.rs 50 0 o.length),(15,.I i),(16,.pv (B3 ⟨t.ep,kd,k,0⟩))],[(50,some ⟨1,AH o,0⟩)],1000⟩ ?_ ?_)
   .simp [h,hg,<- hk,AZ,AB]
    exact⟨rfl,AY [(50,50)] [764]⟩
   refine AC (arc ⟨80,[(1,AF l),(3,.I kd),(4,AA ks),(5,.pv (CJ r)),(7,.pv (EH t)),(13,Dh C),(14,.rs 50 0 o.length),(15,.I i),(16,.pv (B3 ⟨t.ep,kd,k,0⟩)),(52,.B (decide (0<i/\sb=false)))],[(50,some ⟨1,AH o,0⟩)],1200⟩ ?_ ?_)
   .simp [AB]
    repeat' first
     | (refine CC 285 rfl ?_;refine AT h2 zw ?_;simp)
     | (refine BK (λ hb=>?_) (λ hb=>?_)<;>(try rw[hb])<;>(try simp at hb)<;>simp[hb])
    all_goals exact AN [(50,50)] [] (by simp[AB]<;>exact An (by (try simp at *);grind)) zw
   refine AD _ rfl (λ _=>?_) λ _=>AE ?_
   .refine Aa (Ab ?_)
    exact⟨o,zy,AY [(50,50)] []⟩
   apply ax [1,3,4,5,7,13,14,15,17,18,19] [(50,50)] [1272] 1400
   .simp [AB]
    refine AT q zw ?_
    simp[AZ,AB];rfl
   refine AC (ar [1,3,4,5,7,13,14,15,17,18,19,63] [(50,50)] [] 1500 ?_);refine AD _ rfl (λ _=>?_) λ _=>AE ?_
   .refine ar [10,11] [] [] 1600 ?_
    refine AO (Af.mk (.inr rfl) ([],e) (by simp[K7]) ?_)
    exact AG.out [] [] rfl zz zz (by simp;exact Cf) zz
   refine arc ⟨80,[(1,AF l),(3,.I kd),(4,AA ks),(5,.pv (CJ r)),(7,.pv (EH t)),(13,Dh C),(14,.rs 50 0 o.length),(15,.I i),(71,.B (decide (ok=true/\x.li=[1])))],[(50,some ⟨1,AH o,0⟩)],1700⟩ ?_ ?_
   .simp [AB]
    repeat' first
     | (refine CC 22 rfl ?_;refine ET [1532] zz h3 (by simp[AB];exact .refl _) ?_;simp)
     | (refine BK (λ hb=>?_) (λ hb=>?_)<;>(try rw[hb])<;>(try simp at hb)<;>simp[hb,AB])
    all_goals exact AN [(50,50)] [] (by simp[AB]<;>exact An (by (try simp at *);grind)) zw
   refine AD _ rfl (λ _=>?_) λ _=>?_
   .refine AU rfl ?_
    simp[h,hg,<- hk,Ba,AB];exact⟨zy,zy,o++[k],zu,AY [(1748,50)] []⟩
   exact AE ⟨o,zy,AY [(50,50)] []⟩
  refine AU rfl ?_;simp[h1];exact⟨W,i+1,⟨zy,hW⟩,zy,AY [(50,50)] []⟩
 refine ar [10,11] [(50,50)] [] 6000 ?_;refine AO (Af.mk (.inr rfl) (o,0) (by show o.length<=ks.length;omega) ?_)
 exact AG.out [] [50] rfl zz zz (by simp[AB,Ba]) zz
theorem j5 (r:Ch) (l:List AJ) (t:Dr) (hr:EW r) (hl:l.length<=20000) (hb:∀ s∈l,BJ s) (q:t.ro.length<=64) :
  ∃ x:List Int × Int,x.1.length<=64/\AK 185 [Bc r,AF l,C7 t] [] (.tup [AA x.1,.I x.2]) []:=by
 obtain⟨x,hx,hy⟩:=VY r l t 3 t.ro hr hl hb zy q
 refine⟨x,QI hx q,?_⟩;refine wO.s.acalls (AW rfl) (AW rfl) zz ?_
 show AQ _ 0 _ _ ⟨16,[(0,Bc r),(1,AF l),(2,C7 t)],[],16⟩;apply ax [1,3,5] [] [16,24] 100
 .simp [AB]
  rfl
 apply ax [6,7] [] [] 200
 .simp [AB]
  refine AT hy zw ?_
  simp[AB];rfl
 exact CD [] []
theorem ZV (r:Ch) (l:List AJ) (t:Dr) (hr:EW r) (hl:l.length<=20000) (hb:∀ s∈l,BJ s) (h0:t.ro.length<=64) :
  ∃ x:List Int × Int,x.1.length<=64/\AK 186 [Bc r,AF l,C7 t] [] (.tup [AA x.1,.I x.2]) []:=by
 refine sG.s.acallsX (args:=[Bc r,AF l,C7 t]) (hs:=[]) (λ x=>.tup [AA x.1,.I x.2]) (λ _=>[]) (λ x:List Int × Int=>x.1.length<=64) (AW rfl) (AW rfl) (λ _=>zz) ?_
 show AQ _ 0 _ _ ⟨25,[(0,Bc r),(1,AF l),(2,C7 t)],[],16⟩;apply ax [1,3,5] [] [16,24] 60
 .simp [AB]
  rfl
 refine ar [1,3,5,8] [] [] 70 ?_;refine AC (ar [1,3,5,8,9] [] [] 80 ?_);refine AI (Ag (ι:=List Int) (λ o=>⟨25,[(1,AF l),(3,.pv (CJ r)),(5,.pv (EH t)),(8,.rs 50 0 o.length),(9,.I o.length)],[(50,some ⟨1,AH o,0⟩)],100⟩) (λ o=>o.length<=64) (λ o=>64 - o.length) [] zz (Le.nw [] [(50,1)]) ?_)
 intro o ho;refine AC (arc ⟨25,[(1,AF l),(3,.pv (CJ r)),(5,.pv (EH t)),(8,.rs 50 0 o.length),(9,.I o.length),(11,.B (decide (o.length<64)))],[(50,some ⟨1,AH o,0⟩)],200⟩ ?_ ?_)
 .simp
  exact AN [(50,50)] [] (by simp[AB]<;>exact An (by rw[Qk];simp;omega)) zw
 refine AD _ rfl (λ h=>AE ?_) λ h=>Aa (Ab ?_)
 .rw [Qb] at h
  have u:=Ci h;refine G4 ?_;refine AI ?_;apply ae [1,3,5,8,9] [(224,50)] [] 300
  .simp [Ba,AB]
   refine⟨zy,zy,?_⟩
   rfl
  refine AU rfl ?_;simp[u];exact⟨o++[(o.length:Int)],zu,zu,AY [(50,50)] []⟩
 obtain⟨⟨y,e⟩,hy,q⟩:=VY r l t 2 o hr hl hb zy ho
 simp only at q;apply ax [6,7] [] [] 400
 .simp [AB]
  refine ET [50] zz q (by simp[AB,Ba]) ?_
  simp[AB];rfl
 refine AO (Af.mk (.inr rfl) (y,e) (QI hy ho) ?_);exact AG.out [] [] rfl zz zz zz zz
theorem XC (l:List AJ) (hl:l.length<=100000) (hb:∀ s∈l,BJ s):∃ r:List Int,IH r/\AK 190 [AF l] [] (AA r) []:=by
 refine uM.s.acallsX (args:=[AF l]) (hs:=[]) (λ r=>AA r) (λ _=>[]) (λ r:List Int=>IH r) (AW rfl) (AW rfl) (λ _=>zz) ?_
 show AQ _ 0 _ _ ⟨67,[(0,AF l)],[],16⟩;refine ar [0] [] [] 40 ?_;refine ar [0,3] [] [] 60 ?_;refine AC (ar [0,3,4] [] [] 80 ?_);refine AI (Ag (ι:=List Int × Nat) (λ p=>⟨67,[(0,AF l),(3,.rs 50 0 p.1.length),(4,.I p.2)],[(50,some ⟨1,AH p.1,0⟩)],100⟩) (λ p=>p.2<=l.length/\p.1.length<=p.2) (λ p=>l.length - p.2) ([],0) ⟨zz,zz⟩ (Le.nw [] [(50,1)]) ?_)
 rintro⟨o,i⟩ ⟨hi,ho⟩
 simp only at hi ho ⊢;refine AC (BP ⟨67,[(0,AF l),(3,.rs 50 0 o.length),(4,.I i),(9,.B (decide (i<l.length)))],[(50,some ⟨1,AH o,0⟩)],200⟩ [(50,50)] [] ?_);refine AD _ rfl (λ h=>AE ?_) λ h=>Aa (Ab ?_)
 .rw [Qb] at h
  obtain⟨s,hs⟩:=AL (l[i]);have hg:l[i]? = some s:=by rw[hs];exact Qa h
  have u:=hb s (by rw[hs];exact Qi h)
  have h4:=Ci h;obtain⟨e,_,h0⟩:=Gn s (by have:=u.2.2.1;omega) (by have:=u.2.2.2.1;omega)
  have h1:=Hw s u;obtain⟨se,h2⟩:∃ se:Bool,se=decide (s.sk=s.au/\s.sd.toList=(Bk s).toList):=⟨_,rfl⟩;rw[<- h2] at h1;refine Bn (ι:=List Int) (λ W=>⟨67,[(0,AF l),(3,.rs 50 0 W.length),(4,.I i)],[(50,some ⟨1,AH W,0⟩)],5000⟩) (λ W=>W.length<=i+1) ?_ λ W hW=>?_
  .refine AI ?_
   apply ax [0,3,4,5] [(50,50)] [232] 300
   .simp [h,hg,<- hs,AZ,AB]
    rfl
   refine arc ⟨67,[(0,AF l),(3,.rs 50 0 o.length),(4,.I i),(5,.pv (sC s)),(59,.B (decide (s.ki=11/\s.a=0/\s.b=0/\s.c=0/\s.li=[]/\s.pi=[]/\s.bo.toList=[]/\e=0/\se=true)))],[(50,some ⟨1,AH o,0⟩)],1000⟩ ?_ ?_
   .simp
    repeat' first
     | (refine CC 71 rfl ?_;refine AT h0 (by simp[AB]<;>grind) ?_;simp)
     | (refine CC 72 rfl ?_;refine AT h1 (by simp[AB]<;>grind) ?_;simp)
     | (refine BK (λ hb=>?_) (λ hb=>?_)<;>(try rw[hb])<;>(try simp at hb)<;>simp[hb])
    all_goals exact AN [(50,50)] [] (by simp[AB]<;>first | exact An (by (try simp at *);grind) | exact Dy (by simp<;>grind)) zw
   refine AD _ rfl (λ _=>?_) λ _=>?_
   .refine AU rfl ?_
    simp[Ba,AB];exact⟨zy,zy,o++[s.au],zu,AY [(1032,50)] []⟩
   exact AE ⟨o,zy,AY [(50,50)] []⟩
  refine AU rfl ?_;simp[h4];exact⟨W,i+1,⟨zy,hW⟩,zy,AY [(50,50)] []⟩
 have h3:=Ly o [] zy zz
 rw[QK] at h3;have q:AK 192 [AA o,.nilS] [] (.rs 0 0 (Az o).length) [some ⟨1,AH (Az o),0⟩]:=HK h3 ⟨.refl _,.nil _ _,trivial⟩;have hk:=LX o;generalize Az o=J at q hk;apply ax [2] [] [208] 6000
 .simp [AB]
  refine H6 [50] zz q (by simp[AB,Ba]) ?_
  simp[AB,Ba];rfl
 exact AO (Af.mk (.inr rfl) J hk (AG.one zz))
structure BN where
 z:Nat
 b:Bool
theorem bZ (a b:List Int) (q:Int) (ha:a.length<=100000) (hb:b.length<=100000):∃ r:List Int,r.length<=a.length/\AK 256 [AA a,AA b,.I q] [] (AA r) []:=by
 refine vS.s.acallsX (args:=[AA a,AA b,.I q]) (hs:=[]) (λ r=>AA r) (λ _=>[]) (λ r:List Int=>r.length<=a.length) (AW rfl) (AW rfl) (λ _=>zz) ?_
 show AQ _ 0 _ _ ⟨45,[(0,AA a),(1,AA b),(2,.I q)],[],16⟩;refine ar [0,1,2] [] [] 40 ?_;refine ar [0,1,2,7] [] [] 60 ?_;refine AC (ar [0,1,2,7,8] [] [] 80 ?_);refine AI (Ag (ι:=List Int × (Nat × Nat)) (λ p=>⟨45,[(0,AA a),(1,AA b),(2,.I q),(7,.rs 50 0 p.1.length),(8,.I p.2.1)],[(50,some ⟨1,AH p.1,p.2.2⟩)],100⟩) (λ p=>p.2.1<=a.length/\p.1.length<=p.2.1/\p.2.2<=p.1.length) (λ p=>a.length - p.2.1) ([],(0,0)) ⟨zz,zz,zz⟩ (Le.nw [] [(50,1)]) ?_)
 rintro⟨o,i,z⟩ ⟨hi,ho,hz⟩
 simp only at hi ho hz ⊢;refine AC ?_;obtain⟨n,hn⟩:=AL (o.length);refine arc ⟨45,[(0,AA a),(1,AA b),(2,.I q),(7,.rs 50 0 o.length),(8,.I i),(18,.B (decide (i<a.length/\(n:Int)<q)))],[(50,some ⟨1,AH o,z⟩)],300⟩ ?_ ?_
 .simp [<- hn]
  repeat' first
   | (refine BK (λ hb=>?_) (λ hb=>?_)<;>(try rw[hb])<;>(try simp at hb)<;>simp[<- hn,hb])
  all_goals exact AN [(50,50)] [] (by simp[AB,hn]<;>exact An (by rw[Qk];simp[*])) (by simp[AB];omega)
 refine AD _ rfl (λ h=>AE ?_) λ h=>Aa (Ab ?_)
 .have h:i<a.length:=by rw[Qb] at h;exact h.1
  have u:=Ci h;obtain⟨x,hx⟩:=AL (a[i]);have hg:a[i]? = some x:=by rw[hx];exact Qa h
  have h0:=Eh b x zy
  have h1:=Eh o x zy
  refine Bn (ι:=List Int × Nat) (λ W=>⟨45,[(0,AA a),(1,AA b),(2,.I q),(7,.rs 50 0 W.1.length),(8,.I i)],[(50,some ⟨1,AH W.1,W.2⟩)],5000⟩) (λ W=>W.1.length<=i+1/\W.2<=W.1.length) ?_ λ W hW=>?_
  .refine AI (Bn (ι:=BN) (λ z=>⟨45,[(0,AA a),(1,AA b),(2,.I q),(7,.rs 50 0 o.length),(8,.I i),(36,.B z.b)],[(50,some ⟨1,AH o,z.z⟩)],1000⟩) (λ z=>z.z<=o.length) ?_ λ z hz=>?_)
   .refine AU rfl ?_
    simp[h,hg,<- hx,AB];refine AT h0 zw ?_
    simp[AB];refine BK (λ hb=>?_) (λ hb=>?_)<;>(try rw[hb])<;>(try simp at hb)<;>simp[h,hg,<- hx,hb,AB]
    .refine CC 16 rfl ?_
     refine ET [50] zz h1 (by simp[AB,Ba]) ?_
     simp[AB];exact⟨⟨o.length,!decide (x∈o)⟩,Qg _,AY [(50,50)] []⟩
    .exact ⟨⟨z,false⟩,hz,AN [(50,50)] [] zw (by simp[AB];omega)⟩
   obtain⟨z,bb⟩:=z;simp only at hz ⊢;refine AD _ rfl (λ _=>?_) λ _=>?_
   .refine AU rfl ?_
    simp[h,hg,<- hx,Ba,AB];exact⟨hz,zy,zy,o++[x],z,⟨zu,zu⟩,AN [(1048,50)] [] zw (by simp[AB];omega)⟩
   exact AE ⟨(o,z),⟨by simp only;omega,hz⟩,AN [(50,50)] [] zw (by simp[AB];omega)⟩
  refine AU rfl ?_;simp[u];exact⟨W.1,i+1,W.2,⟨zy,hW.1,hW.2⟩,zy,AN [(50,50)] [] zw (by simp[AB];have:=hW.2;omega)⟩
 apply ax [6] [(50,50)] [] 6000
 .simp [hz,AB]
  rfl
 refine AO (Af.mk (.inr rfl) o zy ?_)
 exact AG.out [] [50] rfl zz zz (by simp[AB,Ba]) zz
theorem Yv (a b c d:List Int) (q:Int) (ha:a.length<=100000) (hb:b.length<=100000) (hc:c.length<=100000) (hd:d.length<=100000):∃ r:List Int,r.length<=a.length/\AK 191 [AA a,AA b,AA c,AA d,.I q] [] (AA r) []:=by
 refine u0.s.acallsX (args:=[AA a,AA b,AA c,AA d,.I q]) (hs:=[]) (λ r=>AA r) (λ _=>[]) (λ r:List Int=>r.length<=a.length) (AW rfl) (AW rfl) (λ _=>zz) ?_
 show AQ _ 0 _ _ ⟨45,[(0,AA a),(1,AA b),(2,AA c),(3,AA d),(4,.I q)],[],16⟩;refine ar [0,1,2,3,4] [] [] 40 ?_;refine ar [0,1,2,3,4,11] [] [] 60 ?_;refine AC (ar [0,1,2,3,4,11,12] [] [] 80 ?_);refine AI (Ag (ι:=List Int × Nat) (λ p=>⟨45,[(0,AA a),(1,AA b),(2,AA c),(3,AA d),(4,.I q),(11,.rs 50 0 p.1.length),(12,.I p.2)],[(50,some ⟨1,AH p.1,0⟩)],100⟩) (λ p=>p.2<=a.length/\p.1.length<=p.2) (λ p=>a.length - p.2) ([],0) ⟨zz,zz⟩ (Le.nw [] [(50,1)]) ?_)
 rintro⟨o,i⟩ ⟨hi,ho⟩
 simp only at hi ho ⊢;refine AC (BP ⟨45,[(0,AA a),(1,AA b),(2,AA c),(3,AA d),(4,.I q),(11,.rs 50 0 o.length),(12,.I i),(16,.B (decide (i<a.length)))],[(50,some ⟨1,AH o,0⟩)],200⟩ [(50,50)] [] ?_);refine AD _ rfl (λ h=>AE ?_) λ h=>Aa (Ab ?_)
 .rw [Qb] at h
  have u:=Ci h;obtain⟨x,hx⟩:=AL (a[i]);have hg:a[i]? = some x:=by rw[hx];exact Qa h
  have h0:=Eh c x zy
  have h1:=Eh d x zy
  refine Bn (ι:=List Int) (λ W=>⟨45,[(0,AA a),(1,AA b),(2,AA c),(3,AA d),(4,.I q),(11,.rs 50 0 W.length),(12,.I i)],[(50,some ⟨1,AH W,0⟩)],5000⟩) (λ W=>W.length<=i+1) ?_ λ W hW=>?_
  .refine AI (arc ⟨45,[(0,AA a),(1,AA b),(2,AA c),(3,AA d),(4,.I q),(11,.rs 50 0 o.length),(12,.I i),(33,.B (decide (x∈c/\x∉d)))],[(50,some ⟨1,AH o,0⟩)],1000⟩ ?_ ?_)
   .simp [h,hg,<- hx,AB]
    refine AT h0 zw ?_
    simp[AB];refine BK (λ hb=>?_) (λ hb=>?_)<;>(try rw[hb])<;>(try simp at hb)<;>simp[h,hg,<- hx,hb,AB]
    .refine CC 16 rfl ?_
     refine AT h1 zw ?_
     simp[AB];exact AN [(50,50)] [] (by simp[AB]<;>exact An (by simp[hb])) zw
    .exact AN [(50,50)] [] (by simp[AB]<;>exact An (by simp[hb])) zw
   refine AD _ rfl (λ _=>?_) λ _=>?_
   .refine AU rfl ?_
    simp[h,hg,<- hx,Ba,AB];exact⟨zy,zy,o++[x],zu,AY [(1048,50)] []⟩
   exact AE ⟨o,zy,AY [(50,50)] []⟩
  refine AU rfl ?_;simp[u];exact⟨W,i+1,⟨zy,hW⟩,zy,AY [(50,50)] []⟩
 obtain⟨r,hr,h2⟩:=bZ o b q zy hb
 apply ax [10] [] [] 6000
 .simp [AB]
  refine ET [50] zz h2 (by simp[AB,Ba]) ?_
  simp[AB];rfl
 exact AO (Af.mk (.inr rfl) r zy (AG.one zz))
theorem j9 (l:List AJ) (a b:Int) (hl:l.length<=100000) (hb:∀ s∈l,BJ s):∃ r:List Int,r.length<=64/\AK 251 [AF l,.I a,.I b] [] (AA r) []:=by
 refine wV.s.acallsX (args:=[AF l,.I a,.I b]) (hs:=[]) (λ r=>AA r) (λ _=>[]) (λ r:List Int=>r.length<=64) (AW rfl) (AW rfl) (λ _=>zz) ?_
 show AQ _ 0 _ _ ⟨59,[(0,AF l),(1,.I a),(2,.I b)],[],16⟩;refine ar [0,1,2] [] [] 40 ?_;refine ar [0,1,2,7] [] [] 60 ?_;refine AC (ar [0,1,2,7,8] [] [] 80 ?_);refine AI (Ag (ι:=List Int × Nat) (λ p=>⟨59,[(0,AF l),(1,.I a),(2,.I b),(7,.rs 50 0 p.1.length),(8,.I p.2)],[(50,some ⟨1,AH p.1,0⟩)],100⟩) (λ p=>p.2<=64/\p.1.length<=p.2) (λ p=>64 - p.2) ([],0) ⟨zz,zz⟩ (Le.nw [] [(50,1)]) ?_)
 rintro⟨o,k⟩ ⟨hk,ho⟩
 simp only at hk ho ⊢;refine AC (arc ⟨59,[(0,AF l),(1,.I a),(2,.I b),(7,.rs 50 0 o.length),(8,.I k),(14,.B (decide (k<64)))],[(50,some ⟨1,AH o,0⟩)],200⟩ ?_ ?_)
 .simp
  exact AN [(50,50)] [] (by simp[AB]<;>exact An (by rw[Qk];simp;omega)) zw
 refine AD _ rfl (λ h=>AE ?_) λ h=>Aa (Ab ?_)
 .rw [Qb] at h
  have h0:=Ci h;refine Bn (ι:=List Int) (λ W=>⟨59,[(0,AF l),(1,.I a),(2,.I b),(7,.rs 50 0 W.length),(8,.I k)],[(50,some ⟨1,AH W,0⟩)],5000⟩) (λ W=>W.length<=k+1) ?_ λ W hW=>?_
  .refine AI (ar [0,1,2,7,8,9] [(50,50)] [] 240 ?_)
   refine AC (ar [0,1,2,7,8,9,10] [(50,50)] [] 280 ?_);refine AI (Ag (ι:=Int × Nat) (λ p=>⟨59,[(0,AF l),(1,.I a),(2,.I b),(7,.rs 50 0 o.length),(8,.I k),(9,.I p.1),(10,.I p.2)],[(50,some ⟨1,AH o,0⟩)],300⟩) (λ p=>p.2<=l.length) (λ p=>l.length - p.2) (-1,0) zz (AY [(50,50)] []) ?_)
   rintro⟨y,i⟩ hi
   simp only at hi ⊢;refine AC (BP ⟨59,[(0,AF l),(1,.I a),(2,.I b),(7,.rs 50 0 o.length),(8,.I k),(9,.I y),(10,.I i),(20,.B (decide (i<l.length)))],[(50,some ⟨1,AH o,0⟩)],400⟩ [(50,50)] [] ?_);refine AD _ rfl (λ h2=>AE ?_) λ h2=>Aa (Ab ?_)
   .rw [Qb] at h2
    obtain⟨s,hs⟩:=AL (l[i]);have hg:l[i]? = some s:=by rw[hs];exact Qa h2
    have h1:=hb s (by rw[hs];exact Qi h2)
    have q:=Ci h2;obtain⟨⟨⟨lo,ne⟩,ok⟩,_,u⟩:=Y8 s h1;simp only at u;refine Bn (ι:=Int) (λ y=>⟨59,[(0,AF l),(1,.I a),(2,.I b),(7,.rs 50 0 o.length),(8,.I k),(9,.I y),(10,.I i)],[(50,some ⟨1,AH o,0⟩)],2000⟩) (λ _=>True) ?_ λ y _=>?_
    .refine AI (AC ?_)
     apply ax [0,1,2,7,8,9,10,29] [(50,50)] [] 600
     .simp [h2,hg,<- hs,AB]
      rfl
     refine AD _ rfl (λ _=>?_) λ _=>AE ?_
     .refine Aa (Ab ?_)
      exact⟨y,trivial,AY [(50,50)] []⟩
     apply ax [0,1,2,7,8,9,10,11,12] [(50,50)] [664] 800
     .simp [h2,hg,<- hs,AB]
      refine AT u zw ?_
      simp[AZ,AB];rfl
     refine arc ⟨59,[(0,AF l),(1,.I a),(2,.I b),(7,.rs 50 0 o.length),(8,.I k),(9,.I y),(10,.I i),(11,.pv [.I lo,.I ne]),(44,.B (decide (ok=true/\lo=a)))],[(50,some ⟨1,AH o,0⟩)],1000⟩ ?_ ?_
     .simp
      repeat' first
       | (refine BK (λ hb=>?_) (λ hb=>?_)<;>(try rw[hb])<;>(try simp at hb)<;>simp[hb])
      all_goals exact AN [(50,50)] [] (by simp[AB]<;>exact An (by rw[Qk];simp[*])) zw
     refine AD _ rfl (λ _=>?_) λ _=>?_
     .refine AU rfl ?_
      simp;exact⟨ne,AY [(50,50)] []⟩
     exact AE ⟨y,trivial,AY [(50,50)] []⟩
    refine AU rfl ?_;simp[q];exact⟨y,i+1,zy,zy,AY [(50,50)] []⟩
   refine arc ⟨59,[(0,AF l),(1,.I a),(2,.I b),(7,.rs 50 0 o.length),(8,.I k),(53,.B (decide (0<=y/\y=b)))],[(50,some ⟨1,AH o,0⟩)],3000⟩ ?_ ?_
   .simp
    repeat' first
     | (refine BK (λ hb=>?_) (λ hb=>?_)<;>(try rw[hb])<;>(try simp at hb)<;>simp[hb])
    all_goals exact AN [(50,50)] [] (by simp[AB]<;>exact An (by (try simp at *);grind)) zw
   refine AD _ rfl (λ _=>?_) λ _=>?_
   .refine AU rfl ?_
    simp[Ba,AB];exact⟨zy,zy,o++[(k:Int)],zu,AY [(3024,50)] []⟩
   exact AE ⟨o,zy,AY [(50,50)] []⟩
  refine AU rfl ?_;simp[h0];exact⟨W,k+1,⟨zy,hW⟩,zy,AY [(50,50)] []⟩
 refine ar [6] [(50,50)] [] 6000 ?_;refine AO (Af.mk (.inr rfl) o zy ?_)
 exact AG.out [] [50] rfl zz zz (by simp[AB,Ba]) zz
theorem Yp (l:List AJ) (hl:l.length<=100000) (hb:∀ s∈l,BJ s):∃ H:List (Int × Int),H.length<=64/\AK 187 [AF l] [] (DU H) []:=by
 refine rA.s.acallsX (args:=[AF l]) (hs:=[]) (λ H=>DU H) (λ _=>[]) (λ H:List (Int × Int)=>H.length<=64) (AW rfl) (AW rfl) (λ _=>zz) ?_
 show AQ _ 0 _ _ ⟨72,[(0,AF l)],[],16⟩;obtain⟨G,⟨hG,h1⟩,u⟩:=fS l hl hb;refine ar [0] [] [] 40 ?_;apply ax [0,3] [] [] 60
 .simp [AB]
  refine AT u zw ?_
  simp[AB];rfl
 refine ar [0,3,4] [] [] 80 ?_;refine AC (ar [0,3,4,5] [] [] 90 ?_);refine AI (Ag (ι:=List (Int × Int) × Nat) (λ p=>⟨72,[(0,AF l),(3,Hz G),(4,.rs 50 0 p.1.length),(5,.I p.2)],[(50,some ⟨2,p.1.map HB,0⟩)],100⟩) (λ p=>p.2<=G.length/\p.1.length<=p.2) (λ p=>G.length - p.2) ([],0) ⟨zz,zz⟩ (Le.nw [] [(50,2)]) ?_)
 rintro⟨o,k⟩ ⟨hk,ho⟩
 simp only at hk ho ⊢;refine AC (BP ⟨72,[(0,AF l),(3,Hz G),(4,.rs 50 0 o.length),(5,.I k),(16,.B (decide (k<G.length)))],[(50,some ⟨2,o.map HB,0⟩)],200⟩ [(50,50)] [] ?_);refine AD _ rfl (λ h=>AE ?_) λ h=>Aa (Ab ?_)
 .rw [Qb] at h
  have h3:=Ci h;obtain⟨g,q⟩:=AL (G[k]);have hg:G[k]? = some g:=by rw[q];exact Qa h
  have h8:g.gu.length<=100:=h1 g (by rw[q];exact Qi h)
  refine Bn (ι:=List (Int × Int)) (λ W=>⟨72,[(0,AF l),(3,Hz G),(4,.rs 50 0 W.length),(5,.I k)],[(50,some ⟨2,W.map HB,0⟩)],5000⟩) (λ W=>W.length<=k+1) ?_ λ W hW=>?_
  .refine AI (ar [0,3,4,5,6,7] [(50,50)] [] 240 ?_)
   refine AC (ar [0,3,4,5,6,7,8] [(50,50)] [] 280 ?_);refine AI (Ag (ι:=(Int × Int) × Nat) (λ p=>⟨72,[(0,AF l),(3,Hz G),(4,.rs 50 0 o.length),(5,.I k),(6,.I p.1.1),(7,.I p.1.2),(8,.I p.2)],[(50,some ⟨2,o.map HB,0⟩)],300⟩) (λ p=>p.2<=64) (λ p=>64 - p.2) ((-1,0),0) zz (AY [(50,50)] []) ?_)
   rintro⟨⟨y,m⟩,i⟩ hi
   simp only at hi ⊢;refine AC (arc ⟨72,[(0,AF l),(3,Hz G),(4,.rs 50 0 o.length),(5,.I k),(6,.I y),(7,.I m),(8,.I i),(20,.B (decide (i<64)))],[(50,some ⟨2,o.map HB,0⟩)],400⟩ ?_ ?_)
   .simp
    exact AN [(50,50)] [] (by simp[AB]<;>exact An (by rw[Qk];simp;omega)) zw
   refine AD _ rfl (λ h2=>AE ?_) λ h2=>Aa (Ab ?_)
   .rw [Qb] at h2
    have h0:=Ci h2;obtain⟨nb,_,h4⟩:=YX l g.ow i hl;obtain⟨V,hV,h5⟩:=j9 l g.ow i hl hb;obtain⟨c,_,h6⟩:=Pu g V zy zy
    obtain⟨en,_,h7⟩:=ZX g V zy zy
    refine Bn (ι:=Int × Int) (λ y=>⟨72,[(0,AF l),(3,Hz G),(4,.rs 50 0 o.length),(5,.I k),(6,.I y.1),(7,.I y.2),(8,.I i)],[(50,some ⟨2,o.map HB,0⟩)],2000⟩) (λ _=>True) ?_ λ y _=>?_
    .refine AI (AC ?_)
     apply ax [0,3,4,5,6,7,8,31] [(50,50)] [] 600
     .simp [h,hg,<- q,AB]
      refine AT h4 zw ?_
      simp[AB];rfl
     refine AD _ rfl (λ _=>?_) λ _=>AE ?_
     .refine Aa (Ab ?_)
      exact⟨(y,m),trivial,AY [(50,50)] []⟩
     apply ax [0,3,4,5,6,7,8,9] [(50,50)] [] 700
     .simp [h,hg,<- q,AB]
      refine AT h5 zw ?_
      simp[AB];rfl
     apply ax [0,3,4,5,6,7,8,9,10] [(50,50)] [] 800
     .simp [h,hg,<- q,AB]
      refine AT h6 zw ?_
      simp[AB];rfl
     refine arc ⟨72,[(0,AF l),(3,Hz G),(4,.rs 50 0 o.length),(5,.I k),(6,.I y),(7,.I m),(8,.I i),(10,.I c),(56,.B (decide (en=true/\m<c)))],[(50,some ⟨2,o.map HB,0⟩)],1000⟩ ?_ ?_
     .simp [h,hg,<- q,AB]
      refine AT h7 zw ?_
      simp
      repeat' first
       | (refine BK (λ hb=>?_) (λ hb=>?_)<;>(try rw[hb])<;>(try simp at hb)<;>simp[hb])
      all_goals exact AN [(50,50)] [] (by simp[AB]<;>exact An (by rw[Qk];simp[*])) zw
     refine AD _ rfl (λ _=>?_) λ _=>?_
     .refine AU rfl ?_
      simp;exact⟨i,c,AY [(50,50)] []⟩
     exact AE ⟨(y,m),trivial,AY [(50,50)] []⟩
    refine AU rfl ?_;simp[h0];exact⟨y.1,y.2,i+1,zy,zy,AY [(50,50)] []⟩
   refine ar [0,3,4,5,6,60] [(50,50)] [] 3000 ?_;refine AD _ rfl (λ _=>?_) λ _=>?_
   .refine AU rfl ?_
    simp[h,hg,<- q,Ba,AB];exact⟨zy,zy,o++[(g.ow,y)],zu,AY [(3072,50)] []⟩
   exact AE ⟨o,zy,AY [(50,50)] []⟩
  refine AU rfl ?_;simp[h3];exact⟨W,k+1,⟨zy,hW⟩,zy,AY [(50,50)] []⟩
 refine ar [2] [(50,50)] [] 6000 ?_;refine AO (Af.mk (.inr rfl) o zy ?_)
 exact AG.out [] [50] rfl zz zz (by simp[AB,Ba]) zz
theorem kQ (l:List Int) (hl:l.length<=100000):∃ x:List Int × Int,x.1.length<=2/\AK 133 [AA l] [] (.tup [AA x.1,.I x.2]) []:=by
 refine vK.s.acallsX (args:=[AA l]) (hs:=[]) (λ x=>.tup [AA x.1,.I x.2]) (λ _=>[]) (λ x:List Int × Int=>x.1.length<=2) (AW rfl) (AW rfl) (λ _=>zz) ?_
 show AQ _ 0 _ _ ⟨40,[(0,AA l)],[],16⟩;have hv:=I2 l zy
 refine ar [0] [] [] 40 ?_;refine AC ?_;apply ax [0,8] [] [] 80
 .simp
  refine Ay hv ?_;simp;rfl
 refine AD _ rfl (λ _=>?_) λ h=>AE ?_
 .refine ar [2,3] [] [] 100 ?_
  refine AO (Af.mk (.inr rfl) ([],43) zz ?_)
  exact AG.out [] [] rfl zz zz (by simp;exact Cf) zz
 have h1:HD l:=by simpa using h
 refine BP ⟨40,[(0,AA l),(4,.rs 50 0 2)],[(50,some ⟨1,AH [0,0],0⟩)],120⟩ [(80,50)] [] ?_;refine AC ?_;apply ax [0,4,5] [(50,50)] [] 160
 .simp
  rfl
 refine AI (Ag (ι:=List Int × Nat) (λ p=>⟨40,[(0,AA l),(4,.rs 50 0 2),(5,.I p.2)],[(50,some ⟨1,AH p.1,0⟩)],200⟩) (λ p=>p.2<=l.length/\p.1.length=2) (λ p=>l.length - p.2) ([0,0],0) ⟨zz,rfl⟩ (AY [(50,50)] []) ?_)
 rintro⟨o,i⟩ ⟨hi,ho⟩
 simp only at hi ho ⊢;refine AC (BP ⟨40,[(0,AA l),(4,.rs 50 0 2),(5,.I i),(13,.B (decide (i<l.length)))],[(50,some ⟨1,AH o,0⟩)],300⟩ [(50,50)] [] ?_);refine AD _ rfl (λ h=>AE ?_) λ h=>Aa (Ab ?_)
 .rw [Qb] at h
  have h2:=Ci h;obtain⟨x,hx⟩:=AL (l[i]);have hg:l[i]? = some x:=by rw[hx];exact Qa h
  have u:0<=x/\x<64:=by
   have:=h1.2.2.nodup.2 x (by rw[hx];exact Qi h)
   omega
  obtain⟨q,hq⟩:∃ q:Nat,Int.tdiv x 32=q:=⟨(Int.tdiv x 32).toNat,by rw[Int.tdiv_eq_ediv_of_nonneg u.1];omega⟩
  have hq2:q<2:=by rw[Int.tdiv_eq_ediv_of_nonneg u.1] at hq;omega
  obtain⟨m,hm⟩:∃ m:Nat,Int.tmod x 32=m:=⟨(Int.tmod x 32).toNat,by rw[U3 u.1];omega⟩
  have hd:m<32:=by rw[U3 u.1] at hm;omega
  have h3:IntKind.u64.wrap (m:Int)=(m:Int):=by rw[IntKind.wrap_u64];omega
  have h4:=w6 (x:=(q:Int));have h5:Aw .quo (.int .i64 x) (.int .i64 32)=some (.int .i64 (q:Int)):=by simp[hq,h4]
  have h6:Aw .rem (.int .i64 x) (.int .i64 32)=some (.int .i64 (m:Int)):=by simp[hm]
  have h0:q<o.length:=zy
  obtain⟨v,hv⟩:=AL (o[q]);have h7:o[q]? = some v:=by rw[hv];exact Qa h0
  obtain⟨sv,h8⟩:∃ s,Aw .shl (.int .i64 1) (.int .u64 m)=some (.int .i64 s):=⟨_,rfl⟩;obtain⟨ov,h9⟩:∃ s,Aw .or (.int .i64 v) (.int .i64 sv)=some (.int .i64 s):=⟨_,rfl⟩;refine Bn (ι:=List Int) (λ W=>⟨40,[(0,AA l),(4,.rs 50 0 2),(5,.I i)],[(50,some ⟨1,AH W,0⟩)],5000⟩) (λ W=>W.length=2) ?_ λ W hW=>?_
  .refine AI (Kb ⟨40,[(0,AA l),(4,.rs 50 0 2),(5,.I i)],[(50,some ⟨1,AH (o.set q ov),0⟩)],5000⟩ rfl ?_ λ st' ha=>⟨o.set q ov,by simp[ho],ha⟩)
   simp[-Aw,h,hg,<- hx,h5,h6,h3,hq2,h0,h7,<- hv,h8,h9,AZ,AB];exact⟨zy,rfl,AN [(50,50)] [] zz (by simp[AB,Va])⟩
  refine AU rfl ?_;simp[h2];exact⟨W,i+1,⟨zy,hW⟩,zy,AY [(50,50)] []⟩
 refine ar [2,3] [(50,50)] [] 6000 ?_;refine AO (Af.mk (.inr rfl) (o,0) (by simp only;omega) ?_)
 have hb:∀ f:Int->List AV,List.take 2 (o.map f)=o.map f:=λ f=>Qc (by simp[ho])
 exact AG.out [] [50] rfl zz zz (by simp[AB,ho,hb]) zz
structure Du (l:List AJ):Prop where
 len:l.length<=1000
 b:∀ s∈l,BJ s
 ki:∀ s∈l,s.ki≠3
 vo:∀ s∈l,JF s
theorem Fk.soL {l r:List AJ} (h:Fk l r) (hS:Du l):IZ r:=⟨h.good hS.ki,λ s hs=>(h.mem s hs).2.ok,λ s hs=>hS.vo s (h.mem s hs).1⟩
theorem XR (r:Ch) (l:List AJ) (t:Dr) (p:List Pn) (hr:EW r) (hS:Du l) (ht:Jr t) (hp:p.length<=100000) (hf:∀ x∈r.po.seeds,x<9) :
  ∃ x:List Int × Int,x.1.length<=64/\AK 132 [Bc r,.agg [AF l],C7 t,BQ p] [] (.tup [AA x.1,.I x.2]) []:=by
 refine uB.s.acallsX (args:=[Bc r,.agg [AF l],C7 t,BQ p]) (hs:=[]) (λ x=>.tup [AA x.1,.I x.2]) (λ _=>[]) (λ x:List Int × Int=>x.1.length<=64) (AW rfl) (AW rfl) (λ _=>zz) ?_
 show AQ _ 0 _ _ ⟨130,[(0,Bc r),(1,.agg [AF l]),(2,C7 t),(3,BQ p)],[],16⟩;have hc:=Jl r hr;have hv:=I2 t.ro (by have:=ht.1.1;omega)
 have h3:=ht.1.1;obtain⟨⟨V,e1⟩,⟨hg,h2⟩,h4⟩:=YH l p (by have:=hS.len;omega) hS.b hp
 simp only at hg h2 h4;have h0:∀ s∈V,BJ s:=λ s hs=>hS.b s (h2.mem s hs).1;obtain⟨⟨O,e2⟩,hO,h5⟩:=aJ r V t.ep hr zy (h2.soL hS) (by have:=ht.2.2.2;omega) hf
 simp only at hO h5;obtain⟨⟨U,e3⟩,hU,h6⟩:=j5 r V t hr zy h0 h3
 simp only at hU h6;obtain⟨⟨F,e4⟩,hF,h7⟩:=ZV r V t hr zy h0 h3
 simp only at hF h7;obtain⟨H,hH,hh⟩:=Yp V zy h0
 obtain⟨B,hB,hi⟩:=X8 t.ro U H zy zy zy
 obtain⟨A,hA,hj⟩:=XC V zy h0
 have hz:=hB.1;have a0:=hA.1;apply ax [3,4,5,6] [] [16,24,32] 100
 .simp [AB]
  rfl
 refine AC ?_;apply ax [3,4,5,6,10] [] [] 200
 .simp
  refine AT hc zw ?_
  simp;rfl
 refine ar [3,4,5,6,10,26] [] [] 300 ?_;refine AD _ rfl (λ h=>by simp at h) λ _=>AE ?_
 refine AC ?_;apply ax [3,4,5,6,31] [] [] 400
 .simp
  refine Ay hv ?_;simp;rfl
 refine AD _ rfl (λ _=>?_) λ _=>AE ?_
 .refine ar [8,9] [] [] 500 ?_
  refine AO (Af.mk (.inr rfl) ([],43) zz ?_)
  exact AG.out [] [] rfl zz zz (by simp;exact Cf) zz
 apply ax [4,6,11,12] [] [] 500
 .simp [AB]
  refine AT h4 zw ?_
  simp[AB];rfl
 refine AC (ar [4,6,11,12,39] [] [] 600 ?_);refine AD _ rfl (λ _=>?_) λ _=>AE ?_
 .refine ar [8,9] [] [] 700 ?_
  refine AO (Af.mk (.inr rfl) ([],e1) zz ?_)
  exact AG.out [] [] rfl zz zz (by simp;exact Cf) zz
 apply ax [4,6,11,12,13] [] [] 700
 .simp [AB]
  refine AT h5 zw ?_
  simp[AB];rfl
 refine AC (ar [4,6,11,12,13,50] [] [] 800 ?_);refine AD _ rfl (λ _=>?_) λ _=>AE ?_
 .refine ar [8,9] [] [] 900 ?_
  refine AO (Af.mk (.inr rfl) ([],e2) zz ?_)
  exact AG.out [] [] rfl zz zz (by simp;exact Cf) zz
 apply ax [4,6,11,12,13,14] [] [] 900
 .simp [AB]
  refine AT h6 zw ?_
  simp[AB];rfl
 refine AC (ar [4,6,11,12,13,14,60] [] [] 1000 ?_);refine AD _ rfl (λ _=>?_) λ _=>AE ?_
 .refine ar [8,9] [] [] 1100 ?_
  refine AO (Af.mk (.inr rfl) ([],e3) zz ?_)
  exact AG.out [] [] rfl zz zz (by simp;exact Cf) zz
 apply ax [4,6,11,12,13,14,15] [] [] 1100
 .simp [AB]
  refine AT h7 zw ?_
  simp[AB];rfl
 refine AC (ar [4,6,11,12,13,14,15,70] [] [] 1200 ?_);refine AD _ rfl (λ _=>?_) λ _=>AE ?_
 .refine ar [8,9] [] [] 1300 ?_
  refine AO (Af.mk (.inr rfl) ([],e4) zz ?_)
  exact AG.out [] [] rfl zz zz (by simp;exact Cf) zz
 apply ax [4,6,11,13,14,15,16] [] [] 1300
 .simp [AB]
  refine AT hh zw ?_
  simp[AB];rfl
 apply ax [4,11,13,14,15,16,17] [] [] 1400
 .simp [AB]
  refine AT hi zw ?_
  simp[AB];rfl
 refine ar [4,11,13,14,15,16,17,18,19] [] [] 1450 ?_;refine AC (ar [4,11,13,14,15,16,17,18,19,20] [] [] 1500 ?_);refine AI (Ag (ι:=(List Int × List Int) × Nat) (λ q=>⟨130,[(4,.pv (CJ r)),(11,AF V),(13,AA O),(14,AA U),(15,AA F),(16,DU H),(17,AA B),(18,.rs 50 0 q.1.1.length),(19,.rs 60 0 q.1.2.length),(20,.I q.2)],[(50,some ⟨1,AH q.1.1,0⟩),(60,some ⟨1,AH q.1.2,0⟩)],1600⟩) (λ q=>q.2<=64/\q.1.1.length<=q.2/\q.1.2.length<=q.2) (λ q=>64 - q.2) (([],[]),0) ⟨zz,zz,zz⟩ (Le.nw [] [(50,1),(60,1)]) ?_)
 rintro⟨⟨o,w⟩,k⟩ ⟨hk,ho,hw⟩
 simp only at hk ho hw ⊢;refine AC (arc ⟨130,[(4,.pv (CJ r)),(11,AF V),(13,AA O),(14,AA U),(15,AA F),(16,DU H),(17,AA B),(18,.rs 50 0 o.length),(19,.rs 60 0 w.length),(20,.I k),(80,.B (decide (k<64)))],[(50,some ⟨1,AH o,0⟩),(60,some ⟨1,AH w,0⟩)],1700⟩ ?_ ?_)
 .simp
  exact AN [(50,50),(60,60)] [] (by simp[AB]<;>exact An (by rw[Qk];simp;omega)) zw
 refine AD _ rfl (λ h=>AE ?_) λ h=>Aa (Ab ?_)
 .rw [Qb] at h
  have hl:=Ci h;have hm:=Eh B k zy
  have hq:=Eh O k zy
  have hu:=Eh U k zy
  obtain⟨y,_,hx⟩:=TZ H k zy
  refine Bn (ι:=List Int × List Int) (λ W=>⟨130,[(4,.pv (CJ r)),(11,AF V),(13,AA O),(14,AA U),(15,AA F),(16,DU H),(17,AA B),(18,.rs 50 0 W.1.length),(19,.rs 60 0 W.2.length),(20,.I k)],[(50,some ⟨1,AH W.1,0⟩),(60,some ⟨1,AH W.2,0⟩)],5000⟩) (λ W=>W.1.length<=k+1/\W.2.length<=k+1) ?_ λ W hW=>?_
  .refine AI (Bn (ι:=List Int) (λ W=>⟨130,[(4,.pv (CJ r)),(11,AF V),(13,AA O),(14,AA U),(15,AA F),(16,DU H),(17,AA B),(18,.rs 50 0 W.length),(19,.rs 60 0 w.length),(20,.I k)],[(50,some ⟨1,AH W,0⟩),(60,some ⟨1,AH w,0⟩)],3000⟩) (λ W=>W.length<=k+1) ?_ λ W hW=>?_)
   .refine arc ⟨130,[(4,.pv (CJ r)),(11,AF V),(13,AA O),(14,AA U),(15,AA F),(16,DU H),(17,AA B),(18,.rs 50 0 o.length),(19,.rs 60 0 w.length),(20,.I k),(96,.B (decide ((k:Int)∈B/\(k:Int)∈O/\(k:Int)∉U)))],[(50,some ⟨1,AH o,0⟩),(60,some ⟨1,AH w,0⟩)],2000⟩ ?_ ?_
    .simp [AB]
     refine AT hm zw ?_
     simp[AB];refine BK (λ hb=>?_) (λ hb=>?_)<;>(try rw[hb])<;>(try simp at hb)<;>simp[hb,AB]
     .refine CC 16 rfl ?_
      refine AT hq zw ?_
      simp[AB];refine BK (λ u=>?_) (λ u=>?_)<;>(try rw[u])<;>(try simp at u)<;>simp[u,AB]
      .refine CC 16 rfl ?_
       refine AT hu zw ?_
       simp[AB];exact AN [(50,50),(60,60)] [] (by simp[AB]<;>exact An (by simp[hb,u])) zw
      .exact AN [(50,50),(60,60)] [] (by simp[AB]<;>exact An (by simp[hb,u])) zw
     .exact AN [(50,50),(60,60)] [] (by simp[AB]<;>exact An (by simp[hb])) zw
    refine AD _ rfl (λ _=>?_) λ _=>?_
    .refine AU rfl ?_
     simp[Ba,AB];exact⟨zy,zy,o++[(k:Int)],zu,AY [(2024,50),(60,60)] []⟩
    exact AE ⟨o,zy,AY [(50,50),(60,60)] []⟩
   apply ax [4,11,13,14,15,16,17,18,19,20,105] [(50,50),(60,60)] [] 3100
   .simp [AB]
    refine AT hx zw ?_
    simp[AB];rfl
   refine AD _ rfl (λ _=>?_) λ _=>?_
   .refine AU rfl ?_
    simp[Ba,AB];exact⟨zy,zy,W,w++[(k:Int)],⟨hW,zu⟩,AY [(50,50),(3124,60)] []⟩
   exact AE ⟨(W,w),⟨hW,by simp only;omega⟩,AY [(50,50),(60,60)] []⟩
  refine AU rfl ?_;simp[hl];exact⟨W.1,W.2,k+1,⟨zy,hW.1,hW.2⟩,zy,AY [(50,50),(60,60)] []⟩
 have h8:=MR A w zy zy
 have h9:=VS A w;obtain⟨M,hM⟩:=AL (D2 A w);rw[<- hM] at h8 h9;have a1:=h9.1;have ha:=Ly F U zy zy
 have hd:=LX (F++U);obtain⟨J,hJ⟩:=AL (Az (F++U));rw[<- hJ] at ha hd;have a2:=hd.1;obtain⟨N,hN,hy⟩:=Yv O B M J r.qu zy zy zy zy
 have he:=Ly o N zy zy
 have h1:=LX (o++N);obtain⟨R,hR⟩:=AL (Az (o++N));rw[<- hR] at he h1;apply ax [4,13,14,15,17,18,21] [(50,50)] [1724] 7000
 .simp [AB]
  refine AT hj zw ?_
  simp[AB];refine H6 [60] zz h8 (by simp[AB,Ba]) ?_
  simp[AB,Ba];rfl
 apply ay [18,22] [(50,50)] [] 7200
 .simp [AB]
  refine Cu ha zw ?_
  simp[AB];refine ET [7040] zz hy (by simp[AB,Ba]) ?_
  simp[AB];exact⟨rfl,rfl⟩
 apply ax [18] [] [7216] 7300
 .simp [AB]
  refine H6 [50] zz he (by simp[AB,Ba]) ?_
  simp[AB,Ba];rfl
 refine AC (ar [18,128] [] [] 7400 ?_);refine AD _ rfl (λ _=>?_) λ _=>AE ?_
 .refine ar [8,9] [] [] 7500 ?_
  refine AO (Af.mk (.inr rfl) ([],43) zz ?_)
  exact AG.out [] [] rfl zz zz (by simp;exact Cf) zz
 refine ar [8,9] [] [] 7500 ?_;refine AO (Af.mk (.inr rfl) (R,0) h1.1 ?_);exact AG.out [] [] rfl zz zz zz zz
theorem iE (r:Ch) (l:List AJ) (t:Dr) (p:List Pn) (hr:EW r) (hS:Du l) (ht:Jr t) (hp:OF p) (h0:∀ x∈r.po.seeds,x<9) :
  ∃ x:DQ × Int,DJ x.1/\AK 79 [Bc r,.agg [AF l],C7 t,BQ p] [] (.tup [Cm x.1,.I x.2]) []:=by
 refine wM.s.acallsX (args:=[Bc r,.agg [AF l],C7 t,BQ p]) (hs:=[]) (λ x=>.tup [Cm x.1,.I x.2]) (λ _=>[]) (λ x:DQ × Int=>DJ x.1) (AW rfl) (AW rfl) (λ _=>zz) ?_
 show AQ _ 0 _ _ ⟨36,[(0,Bc r),(1,.agg [AF l]),(2,C7 t),(3,BQ p)],[],16⟩;have h1:=hp.1;obtain⟨⟨N,e⟩,hN,q⟩:=XR r l t p hr hS ht zy h0
 simp only at hN q;obtain⟨⟨x,e2⟩,hx,u⟩:=kQ N zy
 simp only at hx u;apply ax [3,4,5,6,8] [(40,40)] [16,24,32] 100
 .simp [AB]
  rfl
 apply ax [3,8,10,11] [(40,40)] [] 200
 .simp [AB]
  refine AT q zw ?_
  simp[AB];rfl
 refine AC (ar [3,8,10,11,22] [(40,40)] [] 300 ?_);refine AD _ rfl (λ _=>?_) λ _=>AE ?_
 .apply ax [8,9] [(40,40)] [] 400
  .simp [AZ]
   rfl
  refine AO (Af.mk (.inr rfl) (⟨[],[]⟩,e) JP ?_);show AG [(8,some (true,2)),(9,none)] 0 _ _ _;exact AG.out (vs:=[.agg [.nilS,.nilS],.I e]) [] [] zz zz zz (by simp;exact S9) zz
 apply ax [3,8,11,12] [(40,40)] [] 400
 .simp [AB]
  refine AT u zw ?_
  simp[AB];rfl
 refine arc ⟨36,[(8,.pt 40 0 0),(9,.I e2)],[(40,some ⟨2,[CF ⟨x,p⟩],0⟩)],600⟩ ?_ ?_
 .simp [AZ,Ba,AB]
  trace_state
  exact⟨zy,zy,AN [(40,40)] [424] zz (by simp[Ba,AB])⟩
 refine AO (Af.mk (.inr rfl) (⟨x,p⟩,e2) ⟨by show x.length<=100;omega,by show p.length<=100;omega,hp.2⟩ ?_)
 show AG [(8,some (true,2)),(9,none)] 0 _ _ _;exact AG.out (vs:=[Cm ⟨x,p⟩,.I e2]) [] [] zz zz zz zz zz
theorem Du.say {l:List AJ} {k t:Int} {d:F9} {r:List AJ × AJ × Int} (hS:Du l) (h:Dd k l (H2 d t) r) (hk:d.k≠3) (hv:d.k=1->(0<=k/\k<9)/\0<=d.a/\d.a<9) (hl:l.length+1<=1000):Du r.1:=by
 have hm:∀ y∈r.1,y∈l∨(BJ y/\y.ki=d.k/\y.a=d.a/\y.au=k):=λ y hy=>by
  rcases h.2 y hy with h1 | ⟨c,hc,_,rfl,q⟩
  .exact .inl h1
  .have h2:=q.1 c.length zz
   simp only[UN (Qg _),Nat.sub_self,List.getElem_singleton] at h2;exact .inr ⟨h2.b,rfl,rfl,rfl⟩
 refine⟨QI h.1 hl,λ s hs=>?_,λ s hs=>?_,λ s hs=>?_⟩
 .rcases hm s hs with h1 | h1
  .exact hS.b s h1
  .exact h1.1
 .rcases hm s hs with h1 | h1
  .exact hS.ki s h1
  .rw [h1.2.1];exact hk
 .rcases hm s hs with h1 | h1
  .exact hS.vo s h1
  .intro h2
   rw[h1.2.1] at h2;have:=hv h2;rw[h1.2.2.1,h1.2.2.2];exact this
structure SU (r:Ch):Prop where
 ok:EW r
 se:∀ x∈r.po.seeds,x<9
 len:r.po.seeds.length<=64
abbrev cS (l:List AJ):Option AX:=some ⟨1,[[AF l]],0⟩
theorem Xb (L:List Int) (a:Nat) (r:Ch) (l:List AJ) (hL:L.length<=400) (ha:a<=L.length) (hr:SU r) (hS:Du l) (hl:l.length<=900) :
  ∃ x:List AJ × Nat,(Du x.1/\x.1.length<=l.length+9/\x.2<=L.length)/\AK 42 [.pt 0 0 0,Bc r,.agg [AF l]] [AS L a] (.agg [AF x.1]) [some (AS L x.2)]:=by
 refine vT.s.acallsX (args:=[.pt 0 0 0,Bc r,.agg [AF l]]) (hs:=[AS L a]) (λ x=>.agg [AF x.1]) (λ x=>[some (AS L x.2)]) (λ x:List AJ × Nat=>Du x.1/\x.1.length<=l.length+9/\x.2<=L.length) (AW rfl) (AW rfl) (λ _=>zz) ?_
 show AQ _ 1 _ _ ⟨102,[(0,.pt 0 0 0),(1,Bc r),(2,.agg [AF l])],[(0,some (AS L a))],16⟩;obtain⟨t,ht,hf⟩:=bP r l hr.ok hr.len zy hS.b
 have a1:=ht.1.1;have hh:=RM t.ep;obtain⟨⟨se,e1⟩,⟨h5,h6,h7⟩,h8⟩:=SM r t.be t.ro ⟨t.ep,1,0,0⟩ hr.ok zy
 simp only at h5 h6 h7 h8;obtain⟨p,hp,hj⟩:=Vw l zy hS.b
 obtain⟨⟨x,e2⟩,hx,h9⟩:=iE r l t p hr.ok hS ht hp hr.se;simp only at hx h9;obtain⟨⟨d,e3⟩,⟨GO,h0⟩,hd⟩:=ZL ⟨t.ep,1,0,0⟩ x hx;simp only at GO h0 hd;have u:∀ (l':List AJ) (b:Nat),Du l'->l'.length<=l.length+9->b<=L.length->Du (l',b).1/\(l',b).1.length<=l.length+9/\(l',b).2<=L.length:=λ l' b h1 h2 h3=>⟨h1,h2,h3⟩;apply ax [0,4,5,6] [(0,0),(24,30),(32,40)] [16] 100
 .simp [AB]
  rfl
 apply ax [0,4,5,6,7,8] [(0,0),(30,30),(40,40)] [156] 200
 .simp [AB]
  refine AT hf zw ?_
  simp[AZ,AB];rfl
 refine AC ?_;apply ax [0,4,5,6,7,30] [(0,0),(30,30),(40,40)] [] 300
 .simp [AB]
  rfl
 refine AD _ rfl (λ _=>?_) λ _=>AE ?_
 .apply ax [6] [(0,0),(40,40)] [] 400
  .simp [AZ,AB]
   rfl
  refine AO (Af.mk (.inr rfl) (l,a) (u _ _ hS zy ha) ?_)
  exact AG.k1 rfl zw zz
 apply ax [0,4,5,6,7,9] [(0,0),(30,30),(40,40)] [324] 400
 .simp [AB]
  refine AT hh zw ?_
  simp[AZ,AB];rfl
 apply ax [0,4,5,6,7,8,9,10] [(0,0),(30,30),(40,40)] [] 500
 .simp [AB]
  refine AT h8 zw ?_
  simp[AB];rfl
 apply ay [0,4,5,6,7,8,9,10,11,12] [(0,0),(30,30),(40,40)] [572] 600
 .simp [AB]
  refine AT hj zw ?_
  simp[AB];refine AT h9 zw ?_
  simp[AZ,AB];exact⟨rfl,rfl⟩
 refine AC (arc ⟨102,[(0,.pt 0 0 0),(4,.pv (CJ r)),(5,.pt 30 0 0),(6,.pt 40 0 0),(7,.pv (EH t)),(9,.pv (B3 ⟨t.ep,1,0,0⟩)),(10,AA se),(11,.pv (CF x)),(59,.B (decide (e1≠0∨e2≠0)))],[(0,some (AS L a)),(30,cS l),(40,some ⟨1,[[.nilS]],0⟩)],700⟩ ?_ ?_)
 .simp [AB]
  repeat' first
   | (refine BK (λ hb=>?_) (λ hb=>?_)<;>(try rw[hb])<;>(try simp at hb)<;>simp[hb,AB])
  all_goals exact AN [(0,0),(30,30),(40,40)] [] (by simp[AB]<;>exact An (by (try simp at *);grind)) zw
 refine AD _ rfl (λ _=>?_) λ h=>AE ?_
 .apply ax [6] [(0,0),(40,40)] [] 800
  .simp [AZ,AB]
   rfl
  refine AO (Af.mk (.inr rfl) (l,a) (u _ _ hS zy ha) ?_)
  exact AG.k1 rfl zw zz
 apply ax [0,4,5,6,7,8,10,13] [(0,0),(30,30),(40,40)] [748] 800
 .simp [AB]
  refine AT hd zw ?_
  simp[AZ,AB];rfl
 refine AC ?_;apply ax [0,4,5,6,7,10,13,68] [(0,0),(30,30),(40,40)] [] 900
 .simp [AB]
  rfl
 refine AD _ rfl (λ _=>?_) λ h3=>AE ?_
 .apply ax [6] [(0,0),(40,40)] [] 1000
  .simp [AZ,AB]
   rfl
  refine AO (Af.mk (.inr rfl) (l,a) (u _ _ hS zy ha) ?_)
  exact AG.k1 rfl zw zz
 have ho:e3=0:=by simpa using h3
 have a2:=h0 ho;have a3:=hr.ok.sp;have a4:=ht.2.2;have hu:=w6 (x:=t.ep+1);obtain⟨T1,hv⟩:∃ T1,IntKind.i64.wrap ((t.ep+1)*r.sp)=T1:=⟨_,rfl⟩;obtain⟨T,hT⟩:∃ T,IntKind.i64.wrap (T1+50)=T:=⟨_,rfl⟩;refine AC ?_;apply ax [0,4,5,6,7,10,13,14] [(0,0),(30,30),(40,40)] [] 1000
 .simp [AB]
  rfl
 refine AI (Ag (ι:=List AJ × (Nat × Nat)) (λ q=>⟨102,[(0,.pt 0 0 0),(4,.pv (CJ r)),(5,.pt 30 0 0),(6,.pt 40 0 0),(7,.pv (EH t)),(10,AA se),(13,.pv (K8 d)),(14,.I q.2.1)],[(0,some (AS L q.2.2)),(30,cS q.1),(40,some ⟨1,[[.nilS]],0⟩)],1100⟩) (λ q=>q.2.1<=se.length/\Du q.1/\q.1.length<=l.length+q.2.1/\q.2.2<=L.length) (λ q=>se.length - q.2.1) (l,(0,a)) ⟨zz,hS,zz,ha⟩ (AY [(0,0),(30,30),(40,40)] []) ?_)
 rintro⟨m,i,b⟩ ⟨hi,hm,hw,hb⟩
 simp only at hi hm hw hb ⊢;refine AC (BP ⟨102,[(0,.pt 0 0 0),(4,.pv (CJ r)),(5,.pt 30 0 0),(6,.pt 40 0 0),(7,.pv (EH t)),(10,AA se),(13,.pv (K8 d)),(14,.I i),(73,.B (decide (i<se.length)))],[(0,some (AS L b)),(30,cS m),(40,some ⟨1,[[.nilS]],0⟩)],1200⟩ [(0,0),(30,30),(40,40)] [] ?_);refine AD _ rfl (λ h=>AE ?_) λ h=>Aa (Ab ?_)
 .rw [Qb] at h
  have hy:=Ci h;obtain⟨k,hk⟩:=AL (se[i]);have hg:se[i]? = some k:=by rw[hk];exact Qa h
  obtain⟨on,c,hc,hz⟩:=Rj L b 12 hL hb zy zy
  obtain⟨⟨l2,x2,e4⟩,hR,h4⟩:=Sp k m d T zy hm.b GO
  have he:=hm.say hR zy zy zy
  have a0:=hR.1;simp only at h4 he a0;refine Bn (ι:=List AJ × Nat) (λ q=>⟨102,[(0,.pt 0 0 0),(4,.pv (CJ r)),(5,.pt 30 0 0),(6,.pt 40 0 0),(7,.pv (EH t)),(10,AA se),(13,.pv (K8 d)),(14,.I i)],[(0,some (AS L q.2)),(30,cS q.1),(40,some ⟨1,[[.nilS]],0⟩)],5000⟩) (λ q=>Du q.1/\q.1.length<=l.length+(i+1)/\q.2<=L.length) ?_ λ q hq=>?_
  .refine AI (AC ?_)
   apply ax [0,4,5,6,7,10,13,14,77] [(0,0),(30,30),(40,40)] [] 1400
   .simp [AB]
    refine BX (i:=0) rfl (e':=AS L b) zz hz zz zz ?_
    simp[AB];rfl
   refine AD _ rfl (λ _=>?_) λ _=>AE ?_
   .refine Aa (Ab ?_)
    exact⟨(m,c),⟨hm,by simp only;omega,hc⟩,AY [(0,0),(30,30),(40,40)] []⟩
   apply ay [0,4,5,6,7,10,13,14,15,17] [(0,0),(30,30),(40,40)] [1552] 1700
   .simp [h,hg,<- hk,hu,hv,hT,AB]
    refine AT h4 zw ?_
    simp[AZ,AB];exact⟨rfl,rfl⟩
   refine ar [0,4,5,6,7,10,13,14,15,98] [(0,0),(30,30),(40,40)] [] 1800 ?_;refine AD _ rfl (λ _=>?_) λ _=>?_
   .refine AU rfl ?_
    simp[AZ,AB];exact⟨l2,c,⟨he,zy,hc⟩,AY [(0,0),(30,30),(40,40)] []⟩
   exact AE ⟨(m,c),⟨hm,by simp only;omega,hc⟩,AY [(0,0),(30,30),(40,40)] []⟩
  refine AU rfl ?_;simp[hy];exact⟨q.1,i+1,q.2,⟨zy,hq.1,hq.2.1,hq.2.2⟩,zy,AY [(0,0),(30,30),(40,40)] []⟩
 apply ax [6] [(0,0),(40,40)] [] 6000
 .simp [AZ,AB]
  rfl
 refine AO (Af.mk (.inr rfl) (m,b) (u _ _ hm zy hb) ?_)
 exact AG.k1 rfl zw zz
theorem HT.soc {r:Ch} (h:HT r):SU r:=by
 refine⟨h.ok,λ x hx=>?_,?_⟩
 .rcases h.se with h1 | h1<;>rw[h1] at hx<;>simp at hx<;>omega
 .rcases h.se with h1 | h1<;>rw[h1]<;>simp
theorem Du.nil:Du []:=⟨zz,zz,zz,zz⟩
theorem MP.say {n:Nat} {t k:Int} {d:F9} (h:MP n t d) (hn:n<=9) (hk:0<=k/\k<n):Ig d/\d.k≠3/\(d.k=1->(0<=k/\k<9)/\0<=d.a/\d.a<9):=by
 refine⟨⟨by have:=h.li.1;omega,by rw[h.pi];simp,by rw[h.pi];simp⟩,?_,λ h1=>⟨zy,?_⟩⟩
 .rcases h.k with h1 | h1 | h1 | h1 | h1 | h1 | h1<;>omega
 .have:=(h.vo h1).1;omega
def Im (z:AV) (l:List AJ):Prop:=z=AF l∨(z = .nilS/\l=[])
theorem Im.wk {z:AV} {l:List AJ} (h:Im z l):Wk z (AF l):=by
 rcases h with h | ⟨h,h2⟩
 .rw [h];exact .refl _
 .rw [h,h2];exact .nil _ _
theorem Im.flat {z:AV} {l:List AJ} (h:Im z l):∀ ρ sn h n,conv ρ sn h (n+1) z=z:=by
 rcases h with h | ⟨h,_⟩<;>rw[h]<;>intros<;>simp[AB]
theorem Tx (L:List Int) (a:Nat) (hL:L.length<=400) (ha:a<=L.length) :
  ∃ x:(Ch × List AJ) × Nat,(HT x.1.1/\Du x.1.2/\x.1.2.length<=50/\x.2<=L.length)/\AK 11 [.pt 0 0 0] [AS L a] (.tup [Bc x.1.1,.agg [AF x.1.2]]) [some (AS L x.2)]:=by
 refine tM.s.acallsX (args:=[.pt 0 0 0]) (hs:=[AS L a]) (λ x=>.tup [Bc x.1.1,.agg [AF x.1.2]]) (λ x=>[some (AS L x.2)]) (λ x:(Ch × List AJ) × Nat=>HT x.1.1/\Du x.1.2/\x.1.2.length<=50/\x.2<=L.length) (AW rfl) (AW rfl) (λ _=>zz) ?_
 show AQ _ 1 _ _ ⟨66,[(0,.pt 0 0 0)],[(0,some (AS L a))],16⟩;obtain⟨⟨r,a1⟩,⟨hr,h9⟩,he⟩:=f5 L a hL ha;simp only at hr h9 he;have ht:=hr.soc;obtain⟨kg,an,aq,hf⟩:=hr.ge;have hu:r.ge.length=kg:=by rw[hf];simp;omega
 obtain⟨y1,a2,⟨hv,av⟩,hw⟩:=E5 L a1 3 hL h9 zy zy
 obtain⟨y2,a3,⟨hx,b0⟩,hy⟩:=E5 L a2 14 hL hv zy zy
 obtain⟨N,hN⟩:∃ N:Nat,N=kg+y1:=⟨_,rfl⟩;have b1:1<=N/\N<=9:=zy
 have hz:IntKind.i64.wrap ((kg:Int)+(y1:Int))=(N:Int):=by rw[w6];omega
 obtain⟨M,hM⟩:∃ M:Nat,M=2+y2:=⟨_,rfl⟩;have a0:IntKind.i64.wrap (2+(y2:Int))=(M:Int):=by rw[w6];omega
 have au:M<=15:=zy
 apply ax [0,2,3] [(0,0),(16,16),(24,24)] [] 50
 .simp [AB]
  rfl
 apply ax [0,2,3,4] [(0,0),(16,16),(24,24)] [66] 100
 .simp [AB]
  refine BX (i:=0) rfl (e':=AS L a) zz he zz zz ?_
  simp[AZ,AB];rfl
 apply ay [0,2,3,4,5] [(0,0),(16,16),(24,24)] [] 200
 .simp [hu,AB]
  refine BX (i:=0) rfl (e':=AS L a1) zz hw zz zz ?_
  simp[hz,AB];exact⟨rfl,rfl⟩
 apply ax [0,2,3,4,5,6] [(0,0),(16,16),(24,24),(200,30)] [] 240
 .simp [AB]
  rfl
 apply ax [0,2,3,4,5,6,7] [(0,0),(16,16),(24,24),(30,30)] [] 280
 .simp [AB]
  rfl
 refine AC ?_;apply ax [0,2,3,4,5,6,7,8] [(0,0),(16,16),(24,24),(30,30)] [] 320
 .simp [AB]
  refine BX (i:=0) rfl (e':=AS L a2) zz hy zz zz ?_
  simp[a0,AB];rfl
 refine AI (Ag (ι:=((List AJ × AV) × Nat) × (Nat × Nat)) (λ q=>⟨66,[(0,.pt 0 0 0),(2,.pt 16 0 0),(3,.pt 24 0 0),(4,.pv (CJ r)),(5,.I N),(6,.pt 30 0 0),(7,.I q.2.1),(8,.I q.2.2)],[(0,some (AS L q.1.2)),(16,some ⟨7,[GP],0⟩),(24,some ⟨1,[[.nilS]],0⟩),(30,some ⟨1,[[q.1.1.2]],0⟩)],400⟩) (λ q=>(Du q.1.1.1/\Im q.1.1.2 q.1.1.1)/\q.1.1.1.length+q.2.2<=15/\q.1.2<=L.length/\q.2.1+2*q.2.2<=30) (λ q=>q.2.2) ((([],.nilS),a3),(0,M)) ⟨⟨.nil,.inr ⟨rfl,rfl⟩⟩,zu,hx,zu⟩ (AY [(0,0),(16,16),(24,24),(30,30)] []) ?_)
 rintro⟨⟨⟨m,zc⟩,b⟩,⟨tm,j⟩⟩ ⟨⟨hm,h0⟩,h3,hb,hg⟩
 simp only at hm h0 h3 hb hg ⊢;have h1:=h0.wk;have u:=h0.flat;refine AC (arc ⟨66,[(0,.pt 0 0 0),(2,.pt 16 0 0),(3,.pt 24 0 0),(4,.pv (CJ r)),(5,.I N),(6,.pt 30 0 0),(7,.I tm),(8,.I j),(26,.B (decide (0<j)))],[(0,some (AS L b)),(16,some ⟨7,[GP],0⟩),(24,some ⟨1,[[.nilS]],0⟩),(30,some ⟨1,[[zc]],0⟩)],500⟩ ?_ ?_)
 .simp
  exact AN [(0,0),(16,16),(24,24),(30,30)] [] (by simp[AB]<;>exact An zt) (by simp[AB,u])
 refine AD _ rfl (λ h=>AE ?_) λ h=>Aa (Ab ?_)
 .rw [Qb] at h
  obtain⟨me,c1,⟨a4,b3⟩,a5⟩:=E5 L b N hL hb zy zy
  obtain⟨dt,c2,⟨a6,b4⟩,a7⟩:=E5 L c1 3 hL a4 zy zy
  have hh:IntKind.i64.wrap ((tm:Int)+(dt:Int))=((tm+dt:Nat):Int):=by rw[w6];omega
  obtain⟨t2,a8⟩:=AL (tm+dt);rw[<- a8] at hh;obtain⟨⟨d,c3⟩,⟨hd,hi⟩,hj⟩:=Pz L c2 N me t2 hL a6 zy zy zy zy
  simp only at hd hi hj;obtain⟨GO,a9,ag⟩:=hd.say (k:=me) zy zy
  obtain⟨⟨l2,x2,e4⟩,hR,h4⟩:=Sp me m d t2 zy hm.b GO
  have h2:=hm.say hR a9 ag zy
  have h5:=hR.1;simp only at h4 h2 h5;have h6:AK 41 [.agg [.I me,zc],Hx d,.I t2] [] (.tup [.agg [.I me,AF l2],eS x2,.I e4]) []:=HK h4 ⟨.agg _ _ rfl λ i=>match i with | 0=>.refl _ | 1=>h1 | _+2=>.refl _,.refl _,.refl _,trivial⟩
  have h7:IntKind.i64.wrap ((j:Int) - 1)=((j - 1:Nat):Int):=by rw[w6];omega
  refine Bn (ι:=List AJ × AV) (λ q=>⟨66,[(0,.pt 0 0 0),(2,.pt 16 0 0),(3,.pt 24 0 0),(4,.pv (CJ r)),(5,.I N),(6,.pt 30 0 0),(7,.I t2),(8,.I j)],[(0,some (AS L c3)),(16,some ⟨7,[GP],0⟩),(24,some ⟨1,[[.nilS]],0⟩),(30,some ⟨1,[[q.2]],0⟩)],5000⟩) (λ q=>(Du q.1/\Im q.2 q.1)/\q.1.length<=m.length+1) ?_ λ q hq=>?_
  .refine AI ?_
   apply ax [0,2,3,4,5,6,7,8,9] [(0,0),(16,16),(24,24),(30,30)] [] 600
   .simp [u,AB]
    refine BX (i:=0) rfl (e':=AS L b) zz a5 zz zz ?_
    simp[u,AB];rfl
   apply ax [0,2,3,4,5,6,7,8,9] [(0,0),(16,16),(24,24),(30,30)] [] 700
   .simp [u,AB]
    refine BX (i:=0) rfl (e':=AS L c1) zz a7 zz zz ?_
    simp[u,hh,AB];rfl
   apply ay [0,2,3,4,5,6,7,8,10,12] [(0,0),(16,16),(24,24),(30,30)] [812] 1000
   .simp [u,AB]
    refine BX (i:=0) rfl (e':=AS L c2) zz hj zz zz ?_
    simp[u,AB];refine AT h6 (by simp[u,AB]) ?_
    simp[AZ,u,AB];exact⟨rfl,rfl⟩
   apply ax [0,2,3,4,5,6,7,8,10,51] [(0,0),(16,16),(24,24),(30,30)] [] 1100
   .simp [u,AB]
    rfl
   refine AD _ rfl (λ _=>?_) λ _=>?_
   .refine AU rfl ?_
    simp[AZ,u,AB];exact⟨l2,AF l2,⟨⟨h2,.inl rfl⟩,zy⟩,AY [(0,0),(16,16),(24,24),(30,30)] []⟩
   exact AE ⟨(m,zc),⟨⟨hm,h0⟩,by simp only;omega⟩,AN [(0,0),(16,16),(24,24),(30,30)] [] zw (by simp[AB,u])⟩
  refine AU rfl ?_;simp[h7];have ai:=hq.1.2.flat;exact⟨q.1,q.2,c3,t2,j - 1,⟨hq.1,zy,hi,zy⟩,zy,AN [(0,0),(16,16),(24,24),(30,30)] [] zw (by simp[ai,AB])⟩
 obtain⟨y3,b2,⟨am,b5⟩,hk⟩:=E5 L b 3 hL hb zy zy
 refine AC ?_;apply ax [0,2,3,4,6,13] [(0,0),(16,16),(24,24),(30,30)] [] 600
 .simp [u,AB]
  refine BX (i:=0) rfl (e':=AS L b) zz hk zz zz ?_
  simp[u,AB];rfl
 refine AI ?_;have h8:m.length<=15:=zy
 clear h3 hg
 refine Ag (ι:=(List AJ × AV) × (Nat × Nat)) (λ q=>⟨66,[(0,.pt 0 0 0),(2,.pt 16 0 0),(3,.pt 24 0 0),(4,.pv (CJ r)),(6,.pt 30 0 0),(13,.I q.2.2)],[(0,some (AS L q.2.1)),(16,some ⟨7,[GP],0⟩),(24,some ⟨1,[[.nilS]],0⟩),(30,some ⟨1,[[q.1.2]],0⟩)],700⟩) (λ q=>(Du q.1.1/\Im q.1.2 q.1.1)/\q.1.1.length+9*q.2.2<=33/\q.2.1<=L.length) (λ q=>q.2.2) ((m,zc),(b2,y3)) ⟨⟨hm,h0⟩,by simp only;omega,am⟩ (AN [(0,0),(16,16),(24,24),(30,30)] [] zw (by simp[u,AB])) ?_
 clear h1 u h0 hm h8 hk h
 rintro⟨⟨m,zc⟩,⟨b,j⟩⟩ ⟨⟨hm,h0⟩,h3,hb⟩
 simp only at hm h0 h3 hb ⊢;have h1:=h0.wk;have u:=h0.flat;refine AC (arc ⟨66,[(0,.pt 0 0 0),(2,.pt 16 0 0),(3,.pt 24 0 0),(4,.pv (CJ r)),(6,.pt 30 0 0),(13,.I j),(57,.B (decide (0<j)))],[(0,some (AS L b)),(16,some ⟨7,[GP],0⟩),(24,some ⟨1,[[.nilS]],0⟩),(30,some ⟨1,[[zc]],0⟩)],800⟩ ?_ ?_)
 .simp
  exact AN [(0,0),(16,16),(24,24),(30,30)] [] (by simp[AB]<;>exact An zt) (by simp[AB,u])
 refine AD _ rfl (λ h=>AE ?_) λ h=>Aa (Ab ?_)
 .rw [Qb] at h
  have h7:IntKind.i64.wrap ((j:Int) - 1)=((j - 1:Nat):Int):=by rw[w6];omega
  obtain⟨⟨l2,c⟩,⟨h2,h5,hc⟩,hl⟩:=Xb L b r m hL hb ht hm zy
  simp only at h2 h5 hc hl;have ho:AK 42 [.pt 0 0 0,Bc r,.agg [zc]] [AS L b] (.agg [AF l2]) [some (AS L c)]:=HK hl ⟨.refl _,.refl _,.agg _ _ rfl λ i=>match i with | 0=>h1 | _+1=>.refl _,trivial⟩
  refine G4 ?_;refine AI ?_;apply ae [0,2,3,4,6,13] [(0,0),(16,16),(24,24),(30,30)] [] 900
  .simp [u,AB]
   refine BX (i:=0) rfl (e':=AS L b) zz ho zz (by simp[u]) ?_
   simp[AZ,u,AB];rfl
  refine AU rfl ?_;simp[h7];exact⟨l2,AF l2,c,j - 1,⟨⟨h2,.inl rfl⟩,zy,hc⟩,zy,AY [(0,0),(16,16),(24,24),(30,30)] []⟩
 apply ay [2,3] [(0,0),(16,16),(24,24)] [] 1000
 .simp [u,AZ,AB]
  exact⟨rfl,rfl⟩
 refine AO (Af.mk (.inr rfl) ((r,m),b) ⟨hr,hm,by simp only;omega,hb⟩ ?_)
 exact AG.k1 rfl (by simp[AB,u];exact Cs (.refl _) (.agg _ _ rfl λ i=>match i with | 0=>h1 | _+1=>.refl _)) zz
structure H7 (r:Ch):Prop where
 ok:EW r
 ge:∃ k:Nat,1<=k/\k<=7/\r.ge=sg.take k
 se:∀ x∈r.po.seeds,x<9
theorem HT.k {r:Ch} (h:HT r):H7 r:=⟨h.ok,let ⟨k,h1,h2,h3⟩:=h.ge;⟨k,zy,zy,h3⟩,λ x hx=>by
 rcases h.se with h | h<;>rw[h] at hx<;>simp at hx<;>omega⟩
theorem H7.sl {r:Ch} (h:H7 r):r.po.seeds.length<=64:=by
 have h1:=h.ok.po.2.1
 have:=Fs (a:=r.po.seeds) (b:=(List.range 64).map λ i:Nat=>(i:Int)) h1.nodup.1 λ x hx=>by
  have h2:=h1.nodup.2 x hx;exact Qm.2 ⟨x.toNat,QS.2 zy,zy⟩
 simpa using this
theorem Vy (r:Ch) (hr:H7 r):AK 52 [Bc r] [] (.I 0) []:=by
 have h:=hr.ok;refine vW.s.ai ?_;have h1:=hr.sl;have h2:r.po.table.length<=8:=h.po.2.2.2.1;obtain⟨k,u,h0,hge⟩:=hr.ge;have hv:=Z8 u h0;rw[<- hge] at hv;have q:=O0 Hn r.po (by simp[Hn]) (by simp[Hn]) zy zy
 rw[if_pos VA,if_pos (show CG Hn.size r.po from h.po)] at q
 have q:=HK (args:=[.agg [.I 64,.nilS,.nilS],eP r.po]) q ⟨Iw (.refl _) (.nil _ _) (.nil _ _),.refl _,trivial⟩;obtain⟨s1,s2⟩:=h.se;obtain⟨p1,p2⟩:=h.sp;obtain⟨q1,q2⟩:=h.qu;have n1:¬ r.se<1:=zy
 have n2:¬ 9<r.se:=zy
 have n3:¬ r.sp<1:=zy
 have n4:¬ 1000000<r.sp:=zy
 have n5:¬ r.qu<0:=zy
 have n6:¬ 64<r.qu:=zy
 refine BP ⟨43,[(1,.pv (CJ r))],[],50⟩ [] [16] ?_;refine AC (arc ⟨43,[(1,.pv (CJ r)),(7,.B false)],[],100⟩ ?_ ?_)
 .simp
  refine Ay hv ?_;simp;exact BT [] []
 refine AD _ rfl (λ h=>by cases h) λ _=>?_
 refine AE (AC (arc ⟨43,[(1,.pv (CJ r)),(3,.I 0)],[],200⟩ ?_ ?_))
 .simp [EQ]
  refine Ay q ?_;simp;exact BT [] []
 refine BP ⟨43,[(1,.pv (CJ r)),(13,.B false)],[],300⟩ [] [] ?_;refine AD _ rfl (λ h=>by cases h) λ _=>?_
 refine AE (AC (arc ⟨43,[(42,.B false)],[],700⟩ ?_ ?_))
 .simp [n1,n2,n3,n4,n5,n6]
  exact BT [] []
 refine AD _ rfl (λ h=>by cases h) λ _=>?_
 refine AE (rs [2] [] [] ?_);exact Bv
theorem OK (r:Ch) (hr:H7 r) (k:Int) (h0:0<=k) (hk:k<40):AK 18 [Bc r,.I k] [] (.tup [.I ((k+1)*r.sp),.I 0]) []:=by
 have hc:=Vy r hr;have q:=hr.ok.sp;refine uT.s.ai ?_;apply ax [1,2] [] [16] 100
 .simp
  rfl
 refine AC ?_;apply ax [1,2,6] [] [] 200
 .simp
  refine Ay hc ?_;simp;rfl
 apply ax [1,2,10] [] [] 300
 .simp
  rfl
 refine AD _ rfl (λ h5=>by simp at h5) λ h5=>AE ?_
 refine AC ?_;have n1:¬ k<0:=zy
 have n2:¬ 40<=k:=zy
 apply ax [1,2,17] [] [] 400
 .simp [n1,n2]
  rfl
 refine AD _ rfl (λ h5=>by simp at h5) λ h5=>AE ?_
 have h1:=w6 (x:=k+1);have h0:0<=(k+1)*r.sp:=Int.mul_nonneg zy zy
 have h9:(k+1)*r.sp<=40*1000000:=Int.mul_le_mul zy zy zy zy
 have h2:=w6 (x:=(k+1)*r.sp);apply ax [4,5] [] [] 500
 .simp [h1,h2]
  rfl
 refine AO ⟨.inr rfl,?_⟩;show AG [(4,none),(5,none)] 0 _ _ _;exact AG.out (vs:=[.I ((k+1)*r.sp),.I 0]) [] [] zz zz zz zz zz
theorem Pa (r:Ch) (l:List AJ) (k:Int) (hr:H7 r) (hl:l.length<=100000) (hL:IZ l) (h0:0<=k) (hk:k<40):AK 13 [Bc r,AF l,.I k] [] (.tup [eG (Cy l ((k+1)*r.sp) r.po.lv),.I 0]) []:=by
 refine rN.s.ai ?_;have ht:=OK r hr k h0 hk;generalize (k+1)*r.sp=t at *;have q:=Vv l t r.po.lv hl (hL.good.sort hl) (hL.good.asc t);have u:=hr.ok.po.2.2.2.2;rw[RU hL.vo u.1 u.2.1] at q;simp only at q;generalize Cy l t r.po.lv=g at *;apply ax [1,2,3,6] [(24,24)] [16] 100
 .simp [AB]
  rfl
 apply ax [1,3,6,8,9] [(24,24)] [] 200
 .simp [AB]
  refine AT ht zw ?_
  simp[AB];rfl
 refine AC (ar [1,3,6,8,9,17] [(24,24)] [] 300 ?_);refine AD _ rfl (λ h=>by simp at h) λ h=>AE ?_
 apply ax [6,7] [(24,24)] [] 400
 .simp [AB]
  refine AT q zw ?_
  simp[AZ,AB];rfl
 refine AO ⟨.inr rfl,?_⟩;show AG [(6,some (true,3)),(7,none)] 0 _ _ _;exact AG.out (vs:=[eG g,.I 0]) [] [] zz zz zz zz zz
def EP (r:Ch) (l:List AJ) (t:Int):List Int:=Ai (Cy l t r.po.lv) r.po (Aj (Ao (Cy l t r.po.lv) r.po.lv) r.po.seeds)
theorem Lj (r:Ch) (l:List AJ) (k:Int) (hr:H7 r) (hl:l.length<=100000) (hL:IZ l) (h0:0<=k) (hk:k<40):AK 14 [Bc r,AF l,.I k] [] (.tup [AA (EP r l ((k+1)*r.sp)),.I 0]) []:=by
 refine rR.s.ai ?_;have h1:=Pa r l k hr hl hL h0 hk;generalize (k+1)*r.sp=t at *;apply ax [1,2,3] [] [16] 100
 .simp [AB]
  rfl
 apply ax [3,8,9] [(156,24)] [] 200
 .simp [AB]
  refine AT h1 zw ?_
  simp[AZ,AB];rfl
 refine AC (ar [3,8,9,19] [(24,24)] [] 300 ?_);refine AD _ rfl (λ h=>by simp at h) λ h=>AE ?_
 have q:=hr.ok.po.2.2.2.2;have hG:=MC hL.good hL.ok hL.vo t r.po.lv q.1;have h2:CG (Cy l t r.po.lv).size r.po:=hr.ok.po;have h3:=N4 (OX (t:=t) hL.good hL.ok hL.vo q.1 hr.se);obtain⟨fl,_,u⟩:=Xy _ r.po hG h2 hr.sl (.inr zy)
 show AQ _ _ _ (λ e st=>_/\AG _ _ st (.tup [AA (Ai (Cy l t r.po.lv) r.po (Aj (Ao (Cy l t r.po.lv) r.po.lv) r.po.seeds)),.I 0]) []) _;generalize Ai (Cy l t r.po.lv) r.po (Aj (Ao (Cy l t r.po.lv) r.po.lv) r.po.seeds)=acc at *;generalize Cy l t r.po.lv=g at *;apply ax [9,10] [(356,40)] [] 400
 .simp [AB]
  refine AT u zw ?_
  simp[AZ,AB];rfl
 refine AC (ar [9,10,29] [(40,40)] [] 500 ?_);refine AD _ rfl (λ h=>by simp at h) λ _=>AE ?_
 apply ax [6,7] [] [] 600
 .simp [AB]
  rfl
 refine AO ⟨.inr rfl,?_⟩;exact AG.out [] [] rfl zz zz zz zz
abbrev rW:Ch:=⟨[0,1],wP,2,5,0⟩
theorem J3:H7 rW:=⟨⟨⟨zz,zx,λ i h=>by
 have:i=0∨i=1:=by simp at h;omega
 rcases this with rfl | rfl<;>simp⟩,Ph,zx,zx,zx⟩,⟨2,zy,zy,rfl⟩,λ x hx=>by simp[wP] at hx;omega⟩
theorem d5:IZ []:=⟨⟨zz,zz⟩,zz,zz⟩
theorem ZC (t:Int):EP rW [] t=[0,1]:=by
 show Ai wG wP (Aj (Ao wG wP.lv) wP.seeds)=_;rw[fX,show wP.seeds=[0,1] from rfl,VD,bE]
theorem LH:AK 9 [] [] (.B true) []:=by
 refine tW.s.ai ?_;have ho:=Lj rW [] 0 J3 zz d5 zy zy
 rw[ZC] at ho;have ho:=HK (args:=[Bc rW,.nilS,.I 0]) ho ⟨.refl _,.nil _ _,.refl _,trivial⟩;have ht:=OK rW J3 1 zy zy
 have q:=PP [0,1] [0,1] zz zz
 apply ax [] [] [] 100
 .simp
  rfl
 apply ax [1] [(140,24)] [100,108,116] 200
 .simp [AB,AZ]
  rfl
 have hw:rW.po=wP:=rfl;apply ax [1,2,3] [(24,24)] [] 300
 .simp [AB]
  refine AT ho (by simp[AB,wP]) ?_
  simp[AB];rfl
 apply ax [2,3,4,5] [] [] 400
 .simp [AB]
  refine AT ht (by simp[AB,wP]) ?_
  simp[AB];rfl
 refine BE ⟨36,[(0,.B true)],[],900⟩ rfl ?_ (AO ⟨.inr rfl,AG.one zz⟩)
 simp[AB];refine ET [496] zz q (by simp[AB];exact .refl _) ?_
 simp[AB];exact BT [] []
theorem TD (L:List Int):AK 10 [AA L] [] (.pt 0 0 0) [some (AS L 0)]:=by
 refine vD.s.ai ?_;apply ax [0] [] [] 100
 .simp [AB]
  rfl
 apply ax [2] [(108,108)] [] 200
 .simp [AB]
  refine Cu (XW L) zw ?_
  simp[AB];rfl
 exact CD [108] []
theorem jP {α:Type} {q:α->Bool} {l:List α} {i:Nat} (h:i<l.length) (hq:q l[i]=true):(l.filter q)[((l.take i).filter q).length]? = some l[i]:=by
 have h1:l=l.take i++l[i]::l.drop (i+1):=by rw[<- QX h,QL]
 have h2:l.filter q=(l.take i).filter q++l[i]::(l.drop (i+1)).filter q:=by
  conv=>lhs;rw[h1]
  rw[Q3,List.filter_cons,if_pos hq]
 rw[h2,Qt (Qg _),Nat.sub_self];rfl
theorem iC {α:Type} {q:α->Bool} {l:List α} {i:Nat} (h:i<l.length):((l.take (i+1)).filter q).length=((l.take i).filter q).length+if q l[i] then 1 else 0:=by
 rw[Ql h,Q3,Qe];split<;>rename_i h2<;>simp[h2]
theorem Wj (L:List Int) (n:Int) (h0:0<=n) (hn:n<256):AK 3 [AA L,.sc (.int .u8 n)] [] (.B true) []:=by
 refine wT.s.ai ?_;apply ax [0,1] [] [] 100
 .simp [AB]
  rfl
 refine AC ?_;apply ax [0,1,20] [] [] 200
 .simp [AB]
  refine AT (Tj L) zw ?_
  simp[AB];rfl
 refine AD _ rfl (λ h=>?_) λ h=>AE ?_
 .apply ax [4] [] [] 300
  .simp [AB]
   refine Ay LH ?_;simp;rfl
  exact Bv
 have hL:L.length<=400:=by simpa using h
 obtain⟨⟨⟨r,S⟩,b⟩,⟨hr,hS,a5,hb⟩,hv⟩:=Tx L 0 hL (Qh _);simp only at hr hS a5 hb hv;obtain⟨l,⟨hy,b4,h8⟩,hz⟩:=cO S zy hS.b
 have h9:IZ l:=⟨hy,λ s hs=>(h8 s hs).1,λ s hs=>hS.vo s (h8 s hs).2⟩;obtain⟨k,hk⟩:∃ k:Int,k=n.tmod 4:=⟨_,rfl⟩
 have ha:0<=k/\k<40:=by
  rw[hk,U3 h0];omega
 have a6:=Pa r l k hr.k zy h9 ha.1 ha.2
 have a0:=Lj r l k hr.k zy h9 ha.1 ha.2
 unfold EP at a0;have a7:=hr.ok.po.2.2.2.2;generalize (k+1)*r.sp=t at *;have hG:=MC hy h9.ok h9.vo t r.po.lv a7.1;have hd:CG (Cy l t r.po.lv).size r.po:=hr.ok.po;have b5:(Cy l t r.po.lv).size=64:=rfl;generalize Cy l t r.po.lv=g at *;have b6:=hr.k.sl;have b7:r.po.table.length<=8:=hd.2.2.2.1;have b8:=hG.edges_le;have bb:=hG.gone_le;have hf:=LB g r.po zy zy zy zy
 rw[if_pos hG,if_pos hd] at hf;have hg:=VZ g r.po hG zy
 obtain⟨l2,hl⟩:=Ro hG hd;have a1:=c9 g r.po
 have hh:∀ x∈Ai g r.po (Aj (Ao g r.po.lv) r.po.seeds),(0<=x/\x<64)/\1<=(BB g r.po).getD x.toNat 0:=λ x hx=>by
  have h1:=(Hi (g:=g) (p:=r.po) _ (Aj (Ao g r.po.lv) r.po.seeds) rfl).subset hx;obtain⟨h2,h3⟩:=(Ku (hG.level r.po.lv)).1 h1;have h4:0<=x/\x<g.size:=h2;exact⟨zy,by rw[VF h4.1 h4.2];exact(N3 hd h3).1⟩
 have a8:=F4 (g:=g) (p:=r.po);generalize Ai g r.po (Aj (Ao g r.po.lv) r.po.seeds)=A at *;generalize BB g r.po=C at *;rw[<- a8] at hg
 have be:A.length<=64:=by
  have:=Fs (a:=A) (b:=(List.range 64).map λ i:Nat=>(i:Int)) a1 λ x hx=>by
   have h2:=(hh x hx).1;exact Qm.2 ⟨x.toNat,QS.2 zy,zy⟩
  simpa using this
 unfold FP at hl;apply ax [1,5] [(208,32)] [] 300
 .simp [AB]
  refine Cu (TD L) zw ?_
  simp[AB];rfl
 apply ax [1,6,7] [(340,40),(348,48)] [] 400
 .simp [AB]
  refine BX (i:=32) rfl (e':=AS L 0) zz hv zz zz ?_
  simp[AZ,AB];rfl
 apply ax [1,6,8] [(40,40)] [408] 500
 .simp [AB]
  refine Cu hz zw ?_
  simp[Ba,AB];rfl
 have a9:IntKind.i64.wrap (n.tmod 4)=k:=by rw[<- hk];exact w6
 have ag:IntKind.i64.wrap n=n:=w6;apply ax [6,8,9] [(40,40)] [] 600
 .simp [<- hk,a9,ag,AB]
  rfl
 apply ax [6,8,9,10,11] [(40,40),(656,56)] [] 700
 .simp [AB]
  refine AT a6 zw ?_
  simp[AZ,AB];rfl
 apply ax [6,10,11,12,13] [(40,40),(56,56)] [] 800
 .simp [AB]
  refine AT a0 zw ?_
  simp[AB];rfl
 refine AC ?_;apply ax [6,10,12,60] [(40,40),(56,56)] [] 900
 .simp [AB]
  refine AT hf zw ?_
  simp[AB];rfl
 refine AD _ rfl (λ h=>by simp at h) λ h=>AE ?_
 apply ax [6,10,12,14] [(40,40),(56,56)] [] 1000
 .simp [AB]
  rfl
 refine AC ?_;apply ax [6,10,12,14,15] [(40,40),(56,56)] [] 1100
 .simp [AB]
  rfl
 refine AI ?_;obtain⟨q,hq⟩:∃ q:Int->Bool,q=λ k=>!g.gone.contains k:=⟨_,rfl⟩;rw[<- hq] at hl;have hq:∀ x,q x = !decide (x∈g.gone):=λ x=>by rw[hq];simp
 refine Ag (ι:=Nat) (λ i=>⟨143,[(6,.pt 40 0 0),(10,.pt 56 0 0),(12,AA A),(14,.I ((r.po.seeds.take i).filter q).length),(15,.I i)],[(40,some ⟨7,[CJ r],0⟩),(56,some ⟨3,[gC g],0⟩)],1100⟩) (λ i=>i<=r.po.seeds.length) (λ i=>r.po.seeds.length - i) 0 (Qh _) (AY [(40,40),(56,56)] []) ?_;intro i hi;refine AC ?_;apply ax [6,10,12,14,15,66] [(40,40),(56,56)] [] 1200
 .simp [AB]
  rfl
 refine AD _ rfl (λ h=>AE ?_) λ h=>Aa (Ab ?_)
 .simp only[Qb,Uq] at h
  obtain⟨m,hm⟩:=AL (((r.po.seeds.take i).filter q).length);have u:=jP (q:=q) h;have ho:=iC (q:=q) h;rw[<- hm] at u ho;have am:r.po.seeds[i]? = some r.po.seeds[i]:=Qa h;have bo:m<=i:=by rw[hm];exact QI (QO ..) zu
  refine Bn (ι:=Nat) (λ m=>⟨143,[(6,.pt 40 0 0),(10,.pt 56 0 0),(12,AA A),(14,.I m),(15,.I i)],[(40,some ⟨7,[CJ r],0⟩),(56,some ⟨3,[gC g],0⟩)],2000⟩) (λ m=>m=((r.po.seeds.take (i+1)).filter q).length) ?_ λ m hm=>?_
  .rw [<- hm]
   simp only[ho]
   clear hm ho
   obtain⟨x,hx⟩:=AL (r.po.seeds[i]);have h7:∀ h,r.po.seeds[i]'h=x:=λ _=>hx.symm;rw[<- hx] at u am;simp only[<- hx];have ht:=Eh g.gone x zy
   refine AI ?_;apply ay [6,10,12,14,15,78] [(40,40),(56,56)] [] 1300
   .simp [h,h7,AB]
    refine AT ht zw ?_
    simp[h7,AB];exact⟨rfl,rfl⟩
   refine AD _ rfl (λ h5=>?_) λ h5=>AE ?_
   .have he:q x=true:=by rw[hq];simpa using h5
    have u:=u he;obtain⟨h8,_⟩:=Qu.1 u;have an:A[m]? = some x:=by rw[hl,QJ h8];exact u
    obtain⟨aq,au⟩:=Qu.1 an;have av:¬ A.length<=m:=zy
    have hw:=wq (k:=m);refine AC ?_;apply ay [6,10,12,14,15,95] [(40,40),(56,56)] [] 1500
    .simp [h,av,aq,au,h7,AB]
     exact⟨rfl,rfl⟩
    refine AD _ rfl (λ h6=>by simp at h6) λ h6=>AE ?_
    refine AU rfl ?_;simp[hw];exact AN [(40,40),(56,56)] [] (by simp[he,AB]) zw
   .have he:q x=false:=by rw[hq];simpa using h5
    exact⟨m,by simp[he],AY [(40,40),(56,56)] []⟩
  .have hu:=Ci h
   refine AU rfl ?_;simp[hu];exact⟨i+1,zy,zy,AN [(40,40),(56,56)] [] (by simp[AB,hm]) zw⟩
 apply ax [12,16] [] [1224] 2100
 .simp [AB]
  refine Cu hg zw ?_
  simp[Ba,AB];rfl
 refine AC ?_;apply ax [12,16,17] [] [] 2200
 .simp [AB]
  rfl
 refine AI (Ag (ι:=Nat) (λ i=>⟨143,[(12,AA A),(16,AA C),(17,.I i)],[],2200⟩) (λ i=>i<=A.length) (λ i=>A.length - i) 0 (Qh _) (AY [] []) ?_);intro i hi;refine AC ?_;apply ax [12,16,17,105] [] [] 2300
 .simp [AB]
  rfl
 refine AD _ rfl (λ h=>AE ?_) λ h=>Aa (Ab ?_)
 .simp only[Qb,Uq] at h
  refine BO ⟨143,[(12,AA A),(16,AA C),(17,.I i)],[],3000⟩ ?_ ?_
  .obtain ⟨⟨x0,x64⟩,x1⟩:=hh A[i] (Qi h)
   obtain⟨m,hm⟩:∃ m:Nat,A[i]=m:=⟨A[i].toNat,zy⟩
   have h7:∀ h,A[i]'h=m:=λ _=>hm;rw[hm] at x0 x64 x1;have a2:m<C.length:=zy
   have b0:C[m]=C.getD m 0:=by rw[Qf,Qa a2];rfl
   have b1:¬ C[m]<1:=by rw[b0];exact Int.not_lt.2 x1
   have b2:¬ (m:Int)<0:=zy
   have a3:¬ C.length<=m:=zy
   have ht:=Eh (A.take i) m zu
   have a4:(m:Int)∉A.take i:=λ hx=>by
    obtain⟨j,hj,b3⟩:=List.mem_take_iff_getElem.1 hx;have h1:=QD.1 a1 j i zy h zy
    rw[b3,hm] at h1;exact h1 rfl
   refine AI ?_;apply ay [12,16,17,141] [] [] 2800
   .simp [h,hi,b2,h7,a2,a3,b1,AB]
    refine AT ht zw ?_
    simp[a4,AB];exact⟨rfl,rfl⟩
   refine AD _ rfl (λ h6=>by simp at h6) λ h6=>AE ?_
   exact AY [] []
  .have hu:=Ci h
   refine AU rfl ?_;simp[hu];exact⟨i+1,zy,zy,AY [] []⟩
 apply ax [4] [] [] 3000
 .simp [AB]
  refine Ay LH ?_;simp;rfl
 exact Bv
theorem Ww (k:Int) (l:List AJ) (d:F9) (t:Int) (hl:l.length<=1000) (hb:∀ s∈l,BJ s) (hd:Ig d) :
  ∃ r:List AJ × AJ × Int,(Dd k l (H2 d t) r /\ ∀ u,u<t->GU u l r.1)/\AK 20 [.agg [.I k,AF l],Hx d,.I t] [] (.tup [.agg [.I k,AF r.1],eS r.2.1,.I r.2.2]) []:=by
 have q:BJ (H2 d t):=⟨AW rfl,AW rfl,hd.1,hd.2.1,hd.2.2⟩;obtain⟨r,hr,hs⟩:=Pp k l (H2 d t) hl hb q;refine⟨r,hr,?_⟩;obtain⟨l',x,e⟩:=r;simp only at hs;refine vX.s.ai ?_;apply ax [2,3,4,6,7,8] [(16,16),(24,24),(32,32),(40,40)] [] 100
 .simp [AB]
  rfl
 have h1:=hd.1;have h2:=hd.2.1;apply ay [6,7,8] [(32,32),(40,40)] [] 400
 .simp (maxSteps:=1000000) [AB,h1,h2]
  refine⟨zy,zy,zy,zy,?_⟩
  refine ET [204,236] zz hs (by simp[AB,CI,H2,GD]) ?_
  simp[AB,AZ];exact⟨rfl,rfl⟩
 refine AO ⟨.inr rfl,?_⟩;show AG [(6,some (true,2)),(7,some (true,13)),(8,none)] 0 _ _ _;exact AG.out (vs:=[.agg [.I k,AF l'],eS x,.I e]) [] [] zz zz zz zw zz
attribute [local irreducible] Br
theorem aU {r:Ch} {S m:List AJ} {t:Int} (h:GU t S m) (h1:CQ (Br S 64)) (h2:CQ (Br m 64)):EP r (Br m 64) t=EP r (Br S 64) t:=by
 unfold EP;rw[<- Vg h1,<- Vg h2,h.cnt 64]
theorem fL (L:List Int) (n:Int) (h0:0<=n) (hn:n<=255):AK 4 [AA L,.sc (.int .u8 n)] [] (.B true) []:=by
 refine sU.s.ai ?_;apply ax [0,1] [] [] 100
 .simp [AB]
  rfl
 refine AC ?_;apply ax [0,1,23] [] [] 200
 .simp [AB]
  refine AT (Tj L) zw ?_
  simp[AB];rfl
 refine AD _ rfl (λ h=>?_) λ h=>AE ?_
 .apply ax [4] [] [] 300
  .simp [AB]
   refine Ay LH ?_;simp;rfl
  exact Bv
 have hL:L.length<=400:=by simpa using h
 obtain⟨⟨⟨r,S⟩,b⟩,⟨hr,hS,ho,hb⟩,h7⟩:=Tx L 0 hL (Qh _);simp only at hr hS ho hb h7
 have u:∀ m:List AJ,Du m->(CQ (Br m 64)/\(Br m 64).length<=12800/\IZ (Br m 64))/\AK 12 [.agg [AF m]] [] (.rs 0 0 (Br m 64).length) [some ⟨13,(Br m 64).map sC,0⟩]:=λ m hm=>by
  obtain⟨c,⟨⟨a1,a2,a3⟩,rfl⟩,hc⟩:=P2 m (by have:=hm.len;omega) hm.b
  exact⟨⟨a1,a2,⟨a1,λ s hs=>(a3 s hs).1,λ s hs=>hm.vo s (a3 s hs).2⟩⟩,hc⟩
 obtain⟨⟨ht,au,h3⟩,h8⟩:=u S hS;obtain⟨k,hk⟩:∃ k:Int,k=n.tmod 3:=⟨_,rfl⟩
 have h5:0<=k/\k<3:=by
  rw[hk,U3 h0];omega
 have hu:=OK r hr.k k h5.1 zy
 have hv:=Lj r (Br S 64) k hr.k zy h3 h5.1 zy
 have h9:∀ m,Du m->GU ((k+1)*r.sp) S m->AK 14 [Bc r,AF (Br m 64),.I k] [] (.tup [AA (EP r (Br S 64) ((k+1)*r.sp)),.I 0]) []:=λ m hm he=>by
  obtain⟨⟨a1,a2,a3⟩,_⟩:=u m hm;have h1:=Lj r (Br m 64) k hr.k zy a3 h5.1 zy
  rwa [aU he ht a1] at h1
 have hT:0<=(k+1)*r.sp/\(k+1)*r.sp<=60:=by
  have h1:=hr.ok.sp;have h2:=hr.sp;exact⟨Int.mul_nonneg zy zy,Int.le_trans (Int.mul_le_mul (c:=3) (d:=20) zy zy zy zy) zx⟩
 have hw:GU ((k+1)*r.sp) S S:=λ _=>rfl;generalize (k+1)*r.sp=T at *
 have hA:(EP r (Br S 64) T).length<=1000000:=by
  have h1:=(Hi (g:=Cy (Br S 64) T r.po.lv) (p:=r.po) _ (Aj (Ao (Cy (Br S 64) T r.po.lv) r.po.lv) r.po.seeds) rfl).length_le;have h2:=N4 (OX (t:=T) h3.good h3.ok h3.vo hr.ok.po.2.2.2.2.1 hr.k.se);unfold EP;omega
 generalize EP r (Br S 64) T=A at *;apply ax [1,5] [(208,32)] [] 300
 .simp [AB]
  refine Cu (TD L) zw ?_
  simp[AB];rfl
 apply ax [1,5,6,7] [(32,32),(340,40),(348,48)] [] 400
 .simp [AB]
  refine BX (i:=32) rfl (e':=AS L 0) zz h7 zz zz ?_
  simp[AZ,AB];rfl
 have hx:IntKind.i64.wrap (n.tmod 3)=k:=by rw[<- hk];exact w6
 have hz:IntKind.i64.wrap n=n:=w6;apply ax [5,6,7,8] [(32,32),(40,40),(48,48)] [] 500
 .simp [<- hk,hx,hz,AB]
  rfl
 apply ax [5,6,7,8,9,10] [(32,32),(40,40),(48,48)] [] 600
 .simp [AB]
  refine AT hu zw ?_
  simp[AB];rfl
 apply ay [5,6,7,8,9,10,11,12] [(32,32),(40,40),(48,48)] [] 700
 .simp [AB]
  refine Cu h8 zw ?_
  simp[AB];refine ET [616] zz hv (by simp[Ba,AB]) ?_
  simp[AB];exact⟨rfl,rfl⟩
 apply ax [5,6,8,9,10,11,12,13] [(32,32),(40,40),(708,50)] [] 800
 .simp [AZ,AB]
  rfl
 refine AC ?_;apply ax [5,6,8,9,10,11,12,13,14] [(32,32),(40,40),(50,50)] [] 900
 .simp [AB]
  rfl
 refine AI (Ag (ι:=List AJ × (Nat × Nat)) (λ q=>⟨103,[(5,.pt 32 0 0),(6,.pt 40 0 0),(8,.I k),(9,.I T),(10,.I 0),(11,AA A),(12,.I 0),(13,.pt 50 0 0),(14,.I q.2.2)],[(32,some (AS L q.2.1)),(40,some ⟨7,[CJ r],0⟩),(50,some ⟨1,[[AF q.1]],0⟩)],900⟩) (λ q=>(Du q.1/\GU T S q.1)/\q.1.length<=50+q.2.2/\q.2.1<=L.length/\q.2.2<=5) (λ q=>5 - q.2.2) (S,(b,0)) ⟨⟨hS,hw⟩,by simp only;omega,hb,Qh _⟩ (AY [(32,32),(40,40),(50,50)] []) ?_)
 rintro⟨m,⟨b,i⟩⟩ ⟨⟨hm,hE⟩,a0,hb,hi⟩
 simp only at hm hE a0 hb hi ⊢;refine AC ?_;apply ax [5,6,8,9,10,11,12,13,14,51] [(32,32),(40,40),(50,50)] [] 1000
 .simp [AB]
  rfl
 refine AD _ rfl (λ h=>AE ?_) λ h=>Aa (Ab ?_)
 .have h:i<5:=by simp at h;omega
  obtain⟨y,b1,⟨a4,hy⟩,a5⟩:=E5 L b 7 hL hb zy zy
  obtain⟨⟨d,b2⟩,⟨hd,ha⟩,hf⟩:=Pz L b1 7 y (T+1000) hL a4 zy zy zy zy
  simp only at hd ha hf;obtain⟨GO,a6,a7⟩:=hd.say (k:=(y:Int)) zy zy
  obtain⟨t2,a8⟩:∃ t2:Int,t2=T+1000+i:=⟨_,rfl⟩;obtain⟨⟨l2,x2,e2⟩,⟨hR,a9⟩,h4⟩:=Ww y m d t2 zy hm.b GO
  have hg:=hm.say hR a6 a7 zy
  have ag:=hR.1;have am:GU T S l2:=λ n=>(a9 T zy n).trans (hE n)
  simp only at h4 hg ag;have hh:=w6 (x:=T+1000);have an:IntKind.i64.wrap (T+1000+i)=t2:=by rw[a8];exact w6
  refine Bn (ι:=List AJ) (λ m=>⟨103,[(5,.pt 32 0 0),(6,.pt 40 0 0),(8,.I k),(9,.I T),(10,.I 0),(11,AA A),(12,.I 0),(13,.pt 50 0 0),(14,.I i)],[(32,some (AS L b2)),(40,some ⟨7,[CJ r],0⟩),(50,some ⟨1,[[AF m]],0⟩)],2000⟩) (λ m=>(Du m/\GU T S m)/\m.length<=50+(i+1)) ?_ λ q hq=>?_
  .refine AI ?_
   apply ax [5,6,8,9,10,11,12,13,14,15] [(32,32),(40,40),(50,50)] [] 1100
   .simp [AB]
    refine BX (i:=32) rfl (e':=AS L b) zz a5 zz zz ?_
    simp[AB];rfl
   apply ay [5,6,8,9,10,11,12,13,14,16,18] [(32,32),(40,40),(50,50),(1236,60)] [] 1300
   .simp [hh,AB]
    refine BX (i:=32) rfl (e':=AS L b1) zz hf zz zz ?_
    simp[hh,an,AB];refine AT h4 zw ?_
    simp[AZ,AB];exact⟨rfl,rfl⟩
   apply ax [5,6,8,9,10,11,12,13,14,16,74] [(32,32),(40,40),(50,50),(60,60)] [] 1400
   .simp [AB]
    rfl
   refine AD _ rfl (λ _=>?_) λ _=>AE ?_
   .refine AU rfl ?_
    simp[AZ,AB];exact⟨l2,⟨⟨hg,am⟩,zy⟩,AY [(32,32),(40,40),(50,50)] []⟩
   .exact ⟨m,⟨⟨hm,hE⟩,zy⟩,AY [(32,32),(40,40),(50,50)] []⟩
  have aq:=Ci h;refine AU rfl ?_;simp[aq];exact⟨q,b2,i+1,⟨hq.1,hq.2,ha,zy⟩,zy,AY [(32,32),(40,40),(50,50)] []⟩
 have hj:=h9 m hm hE;obtain⟨_,h6⟩:=u m hm;have hl:=PP A A zy zy
 rw[Q7 rfl] at hl;apply ay [10,11,12,19,20] [] [] 1200
 .simp [AB]
  refine Cu h6 zw ?_
  simp[AB];refine ET [1016] zz hj (by simp[Ba,AB]) ?_
  simp[AB];exact⟨rfl,rfl⟩
 refine BE ⟨103,[(4,.B true)],[],2000⟩ rfl ?_ (AO ⟨.inr rfl,AG.one zz⟩)
 simp[AB];refine AT hl zw ?_
 simp[AB];refine Ay LH ?_;simp;exact BT [] []
end Go.Proofs.YtklclphfcibagaaGreat
