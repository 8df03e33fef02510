/- Texts of this claim,merged. -/
import Derived.Test.YtklclphfcibagaaGreatRb6
import Derived.Test.YtklclphfcibagaaGreatRb4
import Derived.Test.YtklclphfcibagaaGreatRb3
import Derived.Test.YtklclphfcibagaaGreatRb5
set_option linter.unusedSimpArgs false
set_option linter.unusedVariables false
set_option linter.unusedSectionVars false
set_option maxRecDepth 100000
set_option maxHeartbeats 8000000
noncomputable section
namespace Go.Proofs.YtklclphfcibagaaGreat
open Go
def I7 (l:List AJ) (x:AJ) (r:List AJ × Bool × Int):Prop:=E3 l x r.1
theorem dL (l:List AJ) (x:AJ) (hl:l.length<=100000) (hb:∀ s∈l,BJ s) (hx:BJ x):∃ r:List AJ × Bool × Int,I7 l x r/\AK 37 [.agg [AF l],eS x] [] (.tup [.agg [AF r.1],.B r.2.1,.I r.2.2]) []:=by
 obtain⟨v,_,hv⟩:=Ml l hl hb;obtain⟨e,_,u⟩:=Gn x (by have:=hx.2.2.1;omega) (by have:=hx.2.2.2.1;omega)
 have h1:=Hw x hx;obtain⟨q,hq⟩:=AL (decide (x.sk=x.au/\x.sd.toList=(Bk x).toList));rw[<- hq] at h1;obtain⟨⟨p,b⟩,hp,h2⟩:=Xw l x hl hb hx;refine rY.s.acallsX (args:=[.agg [AF l],eS x]) (hs:=[]) (λ r=>.tup [.agg [AF r.1],.B r.2.1,.I r.2.2]) (λ _=>[]) (λ r:List AJ × Bool × Int=>I7 l x r) (AW rfl) (AW rfl) (λ _=>Qh _) ?_;have h0:∀ b e,I7 l x (l,b,e):=λ b e=>.inl rfl;show AQ _ 0 _ _ ⟨40,[(0,.agg [AF l]),(1,eS x)],[],16⟩;refine BP ⟨40,[(2,.pt 16 0 0),(3,.pv (sC x)),(4,.pt 32 0 0)],[(16,some ⟨1,[[AF l]],0⟩),(32,some ⟨1,[[.nilS]],0⟩)],100⟩ [(16,16),(32,32)] [24] ?_;refine arc ⟨40,[(2,.pt 16 0 0),(3,.pv (sC x)),(4,.pt 32 0 0)],[(16,some ⟨1,[[AF l]],0⟩),(32,some ⟨1,[[.nilS]],0⟩)],200⟩ ?_ ?_
 .simp
  refine AT (RC l hl hb) zw ?_
  simp[AZ];exact AY [(16,16),(32,32)] []
 refine AC (arc ⟨40,[(2,.pt 16 0 0),(3,.pv (sC x)),(4,.pt 32 0 0),(14,.B (!v))],[(16,some ⟨1,[[AF l]],0⟩),(32,some ⟨1,[[.nilS]],0⟩)],300⟩ ?_ ?_)
 .simp
  refine AT hv zw ?_
  simp;exact AY [(16,16),(32,32)] []
 refine AD _ rfl (λ h=>?_) λ h=>?_
 .refine arc ⟨40,[(4,.pt 32 0 0),(5,.B false),(6,.I 1)],[(32,some ⟨1,[[AF l]],0⟩)],400⟩ ?_ ?_
  .simp [AZ]
   exact AY [(32,32)] []
  refine AO (Af.mk (.inr rfl) (l,false,1) (h0 _ _) ?_);show AG [(4,some (true,1)),(5,none),(6,none)] 0 _ _ _;exact AG.out (vs:=[.agg [AF l],.B false,.I 1]) [] [] zz zz zz zz zz
 refine AE (AC (arc ⟨40,[(2,.pt 16 0 0),(3,.pv (sC x)),(4,.pt 32 0 0),(7,.I e)],[(16,some ⟨1,[[AF l]],0⟩),(32,some ⟨1,[[.nilS]],0⟩)],400⟩ ?_ ?_))
 .simp
  refine AT u zw ?_
  simp;exact AY [(16,16),(32,32)] []
 refine arc ⟨40,[(2,.pt 16 0 0),(3,.pv (sC x)),(4,.pt 32 0 0),(7,.I e),(19,.B (decide (e≠0)))],[(16,some ⟨1,[[AF l]],0⟩),(32,some ⟨1,[[.nilS]],0⟩)],500⟩ ?_ ?_
 .simp
  exact AN [(16,16),(32,32)] [] (by simp[AB]<;>exact An zt) zw
 refine AD _ rfl (λ h=>?_) λ h=>?_
 .refine arc ⟨40,[(4,.pt 32 0 0),(5,.B false),(6,.I e)],[(32,some ⟨1,[[AF l]],0⟩)],600⟩ ?_ ?_
  .simp [AZ]
   exact AY [(32,32)] []
  refine AO (Af.mk (.inr rfl) (l,false,e) (h0 _ _) ?_);show AG [(4,some (true,1)),(5,none),(6,none)] 0 _ _ _;exact AG.out (vs:=[.agg [AF l],.B false,.I e]) [] [] zz zz zz zz zz
 refine AE (AC (arc ⟨40,[(2,.pt 16 0 0),(3,.pv (sC x)),(4,.pt 32 0 0),(24,.B (!q))],[(16,some ⟨1,[[AF l]],0⟩),(32,some ⟨1,[[.nilS]],0⟩)],600⟩ ?_ ?_))
 .simp
  refine AT h1 zw ?_
  simp;exact AY [(16,16),(32,32)] []
 refine AD _ rfl (λ h=>?_) λ h=>?_
 .refine arc ⟨40,[(4,.pt 32 0 0),(5,.B false),(6,.I 6)],[(32,some ⟨1,[[AF l]],0⟩)],700⟩ ?_ ?_
  .simp [AZ]
   exact AY [(32,32)] []
  refine AO (Af.mk (.inr rfl) (l,false,6) (h0 _ _) ?_);show AG [(4,some (true,1)),(5,none),(6,none)] 0 _ _ _;exact AG.out (vs:=[.agg [AF l],.B false,.I 6]) [] [] zz zz zz zz zz
 refine AE (arc ⟨40,[(2,.pt 16 0 0),(4,.pt 32 0 0),(8,AF p),(9,.B b)],[(16,some ⟨1,[[AF l]],0⟩),(32,some ⟨1,[[.nilS]],0⟩)],800⟩ ?_ ?_)
 .simp
  refine AT h2 zw ?_
  simp;exact AY [(16,16),(32,32)] []
 refine AC (arc ⟨40,[(2,.pt 16 0 0),(4,.pt 32 0 0),(8,AF p),(9,.B b),(35,.B (decide (1000<p.length)))],[(16,some ⟨1,[[AF l]],0⟩),(32,some ⟨1,[[.nilS]],0⟩)],900⟩ ?_ ?_)
 .simp
  exact AN [(16,16),(32,32)] [] (by simp[AB]<;>exact An (by rw[Qk];simp;omega)) zw
 refine AD _ rfl (λ h=>?_) λ h=>?_
 .refine arc ⟨40,[(4,.pt 32 0 0),(5,.B false),(6,.I 3)],[(32,some ⟨1,[[AF l]],0⟩)],1000⟩ ?_ ?_
  .simp [AZ]
   exact AY [(32,32)] []
  refine AO (Af.mk (.inr rfl) (l,false,3) (h0 _ _) ?_);show AG [(4,some (true,1)),(5,none),(6,none)] 0 _ _ _;exact AG.out (vs:=[.agg [AF l],.B false,.I 3]) [] [] zz zz zz zz zz
 refine AE (arc ⟨40,[(4,.pt 32 0 0),(5,.B b),(6,.I 0)],[(32,some ⟨1,[[AF p]],0⟩)],1000⟩ ?_ ?_)
 .simp [AZ]
  exact AY [(32,32)] []
 refine AO (Af.mk (.inr rfl) (p,b,0) hp ?_);show AG [(4,some (true,1)),(5,none),(6,none)] 0 _ _ _;exact AG.out (vs:=[.agg [AF p],.B b,.I 0]) [] [] zz zz zz zz zz
abbrev KK (x y:AJ):List AV:=[.I x.au,.I x.nu,.sc (.string x.pr),.I x.ti,.I x.ki,.I x.a,.I x.b,.I x.c,AA x.li,BQ x.pi,.sc (.string x.bo),.I x.sk,.sc (.string x.sd),.I y.au,.I y.nu,.sc (.string y.pr),.I y.ti,.I y.ki,.I y.a,.I y.b,.I y.c,AA y.li,BQ y.pi,.sc (.string y.bo),.I y.sk,.sc (.string y.sd)]
abbrev zE:AV:=.sc (.string ⟨#[]⟩)
abbrev HC:List AV:=[.I 0,.I 0,zE,.I 0,.I 0,.I 0,.I 0,.I 0,.nilS,.nilS,zE,.I 0,zE,.I 0,.I 0,zE,.I 0,.I 0,.I 0,.I 0,.I 0,.nilS,.nilS,zE,.I 0,zE]
theorem aW (au:Int) (l:List AJ) (hl:l.length<=100000) (hb:∀ s∈l,BJ s):∃ r:List AV × Bool,((∃ x y,r.1=KK x y)∨r.1=HC)/\AK 153 [.I au,AF l] [] (.tup [.agg r.1,.B r.2]) []:=by
 obtain⟨o,⟨ho,_⟩,u⟩:=P6 au l hl hb;refine wL.s.acallsX (args:=[.I au,AF l]) (hs:=[]) (λ r=>.tup [.agg r.1,.B r.2]) (λ _=>[]) (λ r:List AV × Bool=>(∃ x y,r.1=KK x y)∨r.1=HC) (AW rfl) (AW rfl) (λ _=>Qh _) ?_;show AQ _ 0 _ _ ⟨41,[(0,.I au),(1,AF l)],[],16⟩;refine BP ⟨41,[(0,.I au),(1,AF l),(4,.pt 16 0 0)],[(16,some ⟨26,[HC],0⟩)],100⟩ [(16,16)] [] ?_;refine arc ⟨41,[(4,.pt 16 0 0),(6,AF o)],[(16,some ⟨26,[HC],0⟩)],200⟩ ?_ ?_
 .simp
  refine Cu u zw ?_
  simp;exact AN [(16,16)] [116] (by simp[AB,CI]) zw
 refine AC (rs [4,6,7] [16] [] ?_);refine AI (Ag (ι:=Nat) (λ i=>⟨41,[(4,.pt 16 0 0),(6,AF o),(7,.I i)],[(16,some ⟨26,[HC],0⟩)],300⟩) (λ i=>i<=o.length) (λ i=>o.length - i) 0 (Qh _) (AY [(16,16)] []) ?_);intro i hi;have hw:=w6 (x:=(i:Int)+1);refine AC (arc ⟨41,[(4,.pt 16 0 0),(6,AF o),(7,.I i),(15,.B (decide (i+1<o.length)))],[(16,some ⟨26,[HC],0⟩)],400⟩ ?_ ?_)
 .simp [hw]
  exact AN [(16,16)] [] (by simp[AB]<;>exact An (by rw[Qk];simp;omega)) zw
 refine AD _ rfl (λ h5=>?_) λ h5=>?_
 .rw [Qb] at h5
  have h3:=Eb (show i<o.length by omega) zy
  obtain⟨x,hx⟩:=AL (o[i]);obtain⟨j,hj⟩:=AL (i+1);have q:j<o.length:=zy
  obtain⟨y,hy⟩:=AL (o[j]);have h0:o[i]? = some x:=by rw[hx];exact Qa zy
  have h1:o[j]? = some y:=by rw[hy];exact Qa q
  have h2:IntKind.i64.wrap ((i:Int)+1)=(j:Int):=by rw[hw];omega
  refine AE (AC (AI (BM ⟨41,[(4,.pt 16 0 0),(6,AF o),(7,.I i),(29,.B (decide (x.nu=y.nu)))],[(16,some ⟨26,[HC],0⟩)],600⟩ ?_ ?_)))
  .simp [h2,q,h0,h1,<- hx,<- hy,show i<o.length by omega]
   exact⟨rfl,AN [(16,16)] [] (by simp[AB]<;>exact An zt) zw⟩
  refine AD _ rfl (λ h6=>?_) λ h6=>?_
  .refine BM ⟨41,[(4,.pt 16 0 0),(5,.B true)],[(16,some ⟨26,[KK x y],0⟩)],800⟩ ?_ ?_
   .simp [h2,q,h0,h1,<- hx,<- hy,show i<o.length by omega,AZ]
    exact⟨rfl,AY [(16,16)] []⟩
   refine AO (Af.mk (.inr rfl) (KK x y,true) (.inl ⟨x,y,rfl⟩) ?_);show AG [(4,some (true,26)),(5,none)] 0 _ _ _;exact AG.out (vs:=[.agg (KK x y),.B true]) [] [] zz zz zz zz zz
  refine AE (AU rfl ?_);simp[h3];exact⟨i+1,zy,zy,AY [(16,16)] []⟩
 refine Aa (Ab (arc ⟨41,[(4,.pt 16 0 0),(5,.B false)],[(16,some ⟨26,[HC],0⟩)],800⟩ ?_ ?_))
 .simp [AZ]
  exact AY [(16,16)] []
 refine AO (Af.mk (.inr rfl) (HC,false) (.inr rfl) ?_);show AG [(4,some (true,26)),(5,none)] 0 _ _ _;exact AG.out (vs:=[.agg HC,.B false]) [] [] zz zz zz zz zz
theorem ET {P:Program} {np id:Nat} {h:Nat->Option AX} {K:AV->List Nat->List (Nat × Option AX)->Prop} {f:FuncId} {first capt args args':List AV} {res:AV} (sn:List Nat) (q:∀ i∈sn,np<=i) (hc:Cq P f args' [] res []) (he:Ec ((first++args++capt).map (conv [] sn h 4)) args') (hk:K (conv (Cc [] id) [] (λ _=>none) 4 res) sn (sn.filterMap λ i=>(h i).map λ e=>(i,some { e with ro:=e.rows.length }))):aK P np id .call (.fn (.func f) first capt::args) h K :=
 ⟨[],sn,true,args',[],res,[],zz,zz,λ _=>q,by rw[UK];exact he,rfl,hc,zz,.inl rfl,by simpa [Cc] using hk⟩
theorem cU (l:List AJ) (au:Int) (hl:l.length<=100000) (hb:∀ s∈l,BJ s):∃ r:Int,True/\AK 100 [.agg [AF l],.I au] [] (.I r) []:=by
 obtain⟨o,⟨ho,hm⟩,u⟩:=Ov l au hl hb;obtain⟨⟨c,b⟩,hc,h0⟩:=aW au o zy (λ s hs=>hb s (hm s hs))
 refine qZ.s.acallsX (args:=[.agg [AF l],.I au]) (hs:=[]) (λ r=>.I r) (λ _=>[]) (λ _:Int=>True) (AW rfl) (AW rfl) (λ _=>Qh _) ?_;show AQ _ 0 _ _ ⟨19,[(0,.agg [AF l]),(1,.I au)],[],16⟩;refine BP ⟨19,[(1,.I au),(2,.pv [AF l])],[],100⟩ [] [16] ?_
 obtain⟨m,q⟩:∃ m:Int,c[1]? = some (.I m):=by
  rcases hc with ⟨x,y,h⟩ | h
  .exact ⟨x.nu,by simp only at h;rw[h];rfl⟩
  .exact ⟨0,by simp only at h;rw[h];rfl⟩
 refine AC (arc ⟨19,[(5,.pv c),(6,.B b)],[],300⟩ ?_ ?_)
 .simp
  refine Cu u zw ?_
  simp;refine ET [124] zz h0 (by simp[AB,CI]) ?_
  rcases hc with ⟨x,y,h⟩ | h
  .simp only at h
   simp[h];exact AY [] [164]
  .simp only at h
   simp[h];exact AY [] [164]
 refine rs [5,15] [] [] ?_;refine AD _ rfl (λ h5=>?_) λ h5=>?_
 .refine arc ⟨19,[(4,.I m)],[],400⟩ ?_ ?_
  .rcases hc with ⟨x,y,h⟩ | h
   .simp only at h
    rw[h] at q;simp at q;simp[h,q];exact AN [] [] (by simp[q])
   .simp only at h
    rw[h] at q;simp at q;simp[h,q];exact AN [] [] (by simp[q])
  exact AO (Af.mk (.inr rfl) m trivial (AG.one zz))
 refine AE (rs [4] [] [] ?_);exact AO (Af.mk (.inr rfl) (-1) trivial (AG.one zz))
structure HT (r:Ch):Prop where
 ok:EW r
 ge:∃ k:Nat,2<=k/\k<=6/\r.ge=([0,1,2,3,4,5,6]:List Int).take k
 se:r.po.seeds=[0]∨r.po.seeds=[0,1]
 ta:r.po.table.length=2
 sp:r.sp<=20
abbrev GP:List AV:=[.nilS,.nilS,.nilS,.I 0,.I 0,.I 0,.I 0]
abbrev sg:List Int:=[0,1,2,3,4,5,6]
theorem O1 {k:Nat} (h:k<=7):Bh (sg.take k) 0 63:=by
 have:k=0∨k=1∨k=2∨k=3∨k=4∨k=5∨k=6∨k=7:=zy
 intro i hi;rcases this with rfl | rfl | rfl | rfl | rfl | rfl | rfl | rfl<;>revert i<;>decide
theorem f5 (L:List Int) (a:Nat) (hl:L.length<=400) (ha:a<=L.length) :
  ∃ x:Ch × Nat,(HT x.1/\x.2<=L.length)/\AK 40 [.pt 0 0 0] [AS L a] (Bc x.1) [some (AS L x.2)]:=by
 refine tS.s.acallsX (args:=[.pt 0 0 0]) (hs:=[AS L a]) (λ x=>Bc x.1) (λ x=>[some (AS L x.2)]) (λ x:Ch × Nat=>HT x.1/\x.2<=L.length) (AW rfl) (AW rfl) (λ _=>zz) ?_
 show AQ _ 1 _ _ ⟨56,[(0,.pt 0 0 0)],[(0,some (AS L a))],16⟩;obtain⟨se,b1,⟨u,h0⟩,h1⟩:=FI L a [3,1,4,5,2] hl ha zz zz
 obtain⟨sp,b2,⟨h2,h3⟩,h4⟩:=FI L b1 [10,20,5,1] hl u zz zz
 obtain⟨qu,b3,⟨h5,h6⟩,h7⟩:=FI L b2 [1,2,0,5] hl h2 zz zz
 obtain⟨x4,b4,⟨h8,hx⟩,h9⟩:=E5 L b3 5 hl h5 zy zy
 obtain⟨v5,b5,⟨hb,hd⟩,he⟩:=FI L b4 [4,8,2] hl h8 zz zz
 obtain⟨v6,b6,⟨hf,hg⟩,hh⟩:=FI L b5 [2,1,0] hl hb zz zz
 obtain⟨lv,b7,⟨hj,ho⟩,hq⟩:=FI L b6 [1,1,2] hl hf zz zz
 obtain⟨o,b8,hr,ht⟩:=Rj L b7 3 hl hj zy zy
 simp only[Qv,Ue,or_false] at h0 h3 h6 hd hg ho;obtain⟨k,hk⟩:∃ k:Nat,(k:Int)=2+(x4:Int):=⟨2+x4,zy⟩
 have hu:IntKind.i64.wrap (2+(x4:Int))=(k:Int):=by rw[w6];omega
 obtain⟨t0,hy⟩:∃ t:Int,t=1+v5:=⟨_,rfl⟩;have hv:IntKind.i64.wrap (1+v5)=t0:=by rw[w6];omega
 obtain⟨t1,hz⟩:∃ t:Int,t=1+v6:=⟨_,rfl⟩;have hw:IntKind.i64.wrap (1+v6)=t1:=by rw[w6];omega
 refine BP ⟨56,[(0,.pt 0 0 0),(2,.pt 16 0 0)],[(0,some (AS L a)),(16,some ⟨7,[GP],0⟩)],24⟩ [(0,0),(16,16)] [] ?_;refine arc ⟨56,[(0,.pt 0 0 0),(2,.pt 16 0 0),(3,.pt 104 0 0)],[(0,some (AS L b3)),(16,some ⟨7,[GP],0⟩),(104,some ⟨7,[[.nilS,.nilS,.nilS,.I 0,.I se,.I sp,.I qu]],0⟩)],200⟩ ?_ ?_
 .simp [Ee]
  refine Hh (i:=0) (j:=32) zx zx rfl rfl (e':=AS L a) zz h1 zz zz ?_
  simp[Ee];refine Hh (i:=0) (j:=56) zx zx rfl rfl (e':=AS L b1) zz h4 zz zz ?_
  simp[Ee];refine Hh (i:=0) (j:=80) zx zx rfl rfl (e':=AS L b2) zz h7 zz zz ?_
  simp[EQ,AZ];exact BT [(0,0),(16,16),(104,104)] []
 refine arc ⟨56,[(0,.pt 0 0 0),(2,.pt 16 0 0),(3,.pt 104 0 0)],[(0,some (AS L b4)),(16,some ⟨7,[GP],0⟩),(104,some ⟨7,[[AA (sg.take k),.nilS,.nilS,.I 0,.I se,.I sp,.I qu]],0⟩)],300⟩ ?_ ?_
 .simp [Ee]
  refine BX (i:=0) rfl (e':=AS L b3) zz h9 zz zz ?_
  simp[hu];simp[AZ,show k<=7 by omega]
  exact AN [(0,0),(16,16),(104,104)] [200] zz (by simp[show k<=7 by omega])
 refine arc ⟨56,[(0,.pt 0 0 0),(2,.pt 16 0 0),(3,.pt 104 0 0)],[(0,some (AS L b7)),(16,some ⟨7,[GP],0⟩),(104,some ⟨7,[[AA (sg.take k),AA [0],.rs 50 0 2,.I lv,.I se,.I sp,.I qu]],0⟩),(50,some ⟨1,AH [t0,t1],0⟩)],600⟩ ?_ ?_
 .simp [Ee]
  refine Hh (i:=0) (j:=316) zx zx rfl rfl (e':=AS L b4) zz he zz zz ?_
  simp[Ee,hv];refine Hh (i:=0) (j:=348) zx zx rfl rfl (e':=AS L b5) zz hh zz zz ?_
  simp[Ee,hw];refine Hh (i:=0) (j:=388) zx zx rfl rfl (e':=AS L b6) zz hq zz zz ?_
  simp[EQ,AZ];exact BT [(0,0),(16,16),(104,104),(372,50)] [300]
 have fin:∀ (S:List Int) (m:Int),(S=[0]∨S=[0,1])->m=min t0 t1->HT ⟨sg.take k,⟨S,[t0,m],lv⟩,se,sp,qu⟩:=by
  intro S m hS hm;have q:(sg.take k).length=k:=by rw[QB];simp;omega
  have a0:1<=m/\m<=t0/\m<=3:=zy
  refine⟨⟨⟨?_,?_,O1 zy⟩,⟨?_,?_,AW rfl,AW rfl,?_,?_,?_⟩,by show 1<=se/\se<=9;omega,by show 1<=sp/\sp<=1000000;omega,by show 0<=qu/\qu<=64;omega⟩,⟨k,zy,zy,rfl⟩,hS,rfl,by show sp<=20;omega⟩
  .intro h;rw[show sg.take k=[] from h] at q;simp at q;omega
  .show (sg.take k).length<=64;omega
  .rcases hS with rfl | rfl<;>simp
  .rcases hS with rfl | rfl
   .exact O1 (k:=1) zy
   .exact O1 (k:=2) zy
  .show 1<=lv;omega
  .show lv<=3;omega
  .intro i hi
   simp only[QZ,U7] at hi;have:i=0∨i=1:=zy
   rcases this with rfl | rfl
   .exact ⟨by show 1<=t0;omega,by show t0<=1000;omega,λ h=>zy⟩
   .exact ⟨by show 1<=m;omega,by show m<=1000;omega,λ h=>by show m<=t0;omega⟩
 obtain⟨G,hG⟩:=AL (sg.take k);rw[<- hG] at fin ⊢;refine Bn (ι:=List Int) (λ S=>⟨56,[(2,.pt 16 0 0),(3,.pt 104 0 0)],[(0,some (AS L b8)),(16,some ⟨7,[GP],0⟩),(104,some ⟨7,[[AA G,AA S,.rs 50 0 2,.I lv,.I se,.I sp,.I qu]],0⟩),(50,some ⟨1,AH [t0,t1],0⟩)],900⟩) (λ S=>S=[0]∨S=[0,1]) ?_ λ S hS=>?_
 .refine arc ⟨56,[(2,.pt 16 0 0),(3,.pt 104 0 0),(36,.B o)],[(0,some (AS L b8)),(16,some ⟨7,[GP],0⟩),(104,some ⟨7,[[AA G,AA [0],.rs 50 0 2,.I lv,.I se,.I sp,.I qu]],0⟩),(50,some ⟨1,AH [t0,t1],0⟩)],700⟩ ?_ ?_
  .simp
   refine BX (i:=0) rfl (e':=AS L b7) zz ht zz zz ?_
   simp;exact BT [(0,0),(16,16),(104,104),(50,50)] []
  refine AD _ rfl (λ _=>?_) λ _=>?_
  .refine AU rfl ?_
   simp[Ee,AZ];exact .inr (BT [(0,0),(16,16),(104,104),(50,50)] [700])
  .exact AE ⟨[0],.inl rfl,BT [(0,0),(16,16),(104,104),(50,50)] []⟩
 obtain⟨m,hm⟩:=AL (min t0 t1);refine BM ⟨56,[(2,.pt 16 0 0),(3,.pt 104 0 0)],[(0,some (AS L b8)),(16,some ⟨7,[GP],0⟩),(104,some ⟨7,[[AA G,AA S,.rs 50 0 2,.I lv,.I se,.I sp,.I qu]],0⟩),(50,some ⟨1,AH [t0,m],0⟩)],1200⟩ ?_ ?_
 .simp [AZ,<- hm]
  exact⟨rfl,AN [(0,0),(16,16),(104,104),(50,50)] [] zz (by simp;rw[hm];split<;>omega)⟩
 refine arc ⟨56,[(2,.pt 16 0 0)],[(0,some (AS L b8)),(16,some ⟨7,[CJ ⟨G,⟨S,[t0,m],lv⟩,se,sp,qu⟩],0⟩)],1300⟩ ?_ ?_
 .simp [AZ]
  exact BT [(0,0),(16,16)] [50]
 refine AO (Af.mk (.inr rfl) (⟨G,⟨S,[t0,m],lv⟩,se,sp,qu⟩,b8) ⟨fin S m hS hm,hr⟩ ?_);exact AG.k1 rfl (by simp;exact .refl _) zz
theorem Rk (n:Int):AK 151 [.I n] [] (.B (decide (0<=n/\n<64))) []:=by
 refine rB.s.ai ?_;refine ar [0] [] [] 100 ?_;refine arc ⟨9,[(2,.B (decide (0<=n/\n<64)))],[],300⟩ ?_ ?_
 .simp
  repeat' first
   | (refine BK (λ hb=>?_) (λ hb=>?_)<;>(try rw[hb])<;>(try simp at hb)<;>simp[hb])
  all_goals exact AN [] [] (by simp[AB]<;>exact An (by rw[Qk];simp<;>omega))
 exact Bv
def DP (i:Nat):List AV:=(List.range 64).map λ j=>.B (decide (j<i))
theorem Sy (i:Nat):∀ ρ sn h m,(DP i).map (conv ρ sn h (m+1))=DP i:=λ ρ sn h m=>by simp[DP,AB]
theorem ZM {i:Nat} (h:i<=6):AZ (DP i) i [.B true]=DP (i+1):=by
 rcases(by omega:i=0∨i=1∨i=2∨i=3∨i=4∨i=5∨i=6) with rfl | rfl | rfl | rfl | rfl | rfl | rfl<;>rfl
theorem cR (i:Nat):(DP i).length=64:=by simp[DP]
theorem TC {k i:Nat} (hk:k<=7) (h:i<k):(sg.take k)[i]? = some (i:Int):=by
 rw[Q5,if_pos h];rcases(by omega:i=0∨i=1∨i=2∨i=3∨i=4∨i=5∨i=6) with rfl | rfl | rfl | rfl | rfl | rfl | rfl<;>rfl
theorem SP {k:Nat} (hk:k<=7):(sg.take k).length=k:=zu
theorem gV {k:Nat} (hk:k<=7):AK 152 [AA (sg.take k)] [] (.agg (DP k)) []:=by
 refine sS.s.ai ?_;have hl:=SP hk;have hg:=@TC k;generalize sg.take k=l at *;have hz:List.replicate 64 (AV.B false)=DP 0:=rfl;have hf:=Sy;have hs:=@ZM;have q:=cR;generalize DP=Y at *;refine arc ⟨18,[(0,AA l),(2,.pt 16 0 0)],[(16,some ⟨64,[Y 0],0⟩)],40⟩ ?_ ?_
 .simp
  exact AN [(16,16)] [] zw (by simp[<- hz,AB])
 refine arc ⟨18,[(0,AA l),(2,.pt 16 0 0),(3,.pt 40 0 0)],[(16,some ⟨64,[Y 0],0⟩),(40,some ⟨64,[Y 0],0⟩)],80⟩ ?_ ?_
 .simp
  exact AN [(16,16),(40,40)] [] zw (by simp[<- hz,AB])
 refine AC ?_;apply ax [0,2,3,6,7,8] [(16,16),(40,40)] [] 200
 .simp [hf,hl,AB]
  rfl
 refine AI (Ag (ι:=Nat) (λ i=>⟨18,[(2,.pt 16 0 0),(3,.pt 40 0 0),(6,AA l),(7,.I k),(8,.I i)],[(16,some ⟨64,[Y 0],0⟩),(40,some ⟨64,[Y i],0⟩)],200⟩) (λ i=>i<=k) (λ i=>k - i) 0 (Qh _) (AN [(16,16),(40,40)] [] zw (by simp[hf])) ?_)
 intro i hi;simp only[];apply ax [2,3,6,7,8,9] [(16,16),(40,40)] [] 300
 .simp [hf,AB]
  rfl
 refine AC (AD _ rfl (λ h=>AE ?_) λ h=>Aa (Ab ?_))
 .simp only[Qb,Uq] at h
  have u:=hg hk h;have h3:∀ h,l[i]'h=(i:Int):=λ h=>by rw[Qa h] at u;exact Qj u
  have h0:=hs (i:=i) zy
  have h4:=Rk i;refine BO ⟨18,[(2,.pt 16 0 0),(3,.pt 40 0 0),(6,AA l),(7,.I k),(8,.I i)],[(16,some ⟨64,[Y 0],0⟩),(40,some ⟨64,[Y (i+1)],0⟩)],900⟩ ?_ ?_
  .refine AI ?_
   apply ax [2,3,5,6,7,8] [(16,16),(40,40)] [] 400
   .simp [hf,hl,h,h3,AB]
    rfl
   apply ax [2,3,5,6,7,8,13] [(16,16),(40,40)] [] 500
   .simp [hf,AB]
    refine AT h4 zw ?_
    simp[hf,AB];rfl
   refine AD _ rfl (λ _=>?_) λ h5=>?_
   .refine AU rfl ?_
    simp[hf,q,show i<64 by omega,AB]
    exact⟨zy,zy,AN [(16,16),(40,40)] [] (by simp[hf,AB]) (by simp[hf,q,AB];simp[AZ] at h0;exact h0)⟩
   .exfalso;simp at h5;omega
  have h6:=Ci h;refine AU rfl ?_;simp[h6,hf];exact⟨i+1,zy,zy,AN [(16,16),(40,40)] [] zw (by simp[hf])⟩
 obtain rfl:i=k:=by simp at h;omega
 apply ax [2] [(16,16)] [] 1000
 .simp [hf,q,AB]
  have h1:List.take 64 (Y i)=Y i:=Qc (by rw[q];omega)
  have h2:List.drop 64 (Y 0)=[]:=Q4 (by rw[q];omega)
  rw[h1,h2,QK]
 refine AO ⟨.inr rfl,?_⟩;show AG [(2,some (true,64))] 0 _ _ _;have h1:List.take 64 (Y i)=Y i:=Qc (by rw[q];omega)
 exact AG.out (vs:=[.agg (Y i)]) [] [] (by simp[h1,q]) zz zz (by simp[hf,h1]) zz
theorem Yz {k:Nat} (h:1<=k) (h7:k<=7):DV (List.replicate 64 1) (DP k) (DP 0)=some false:=by
 rcases(by omega:k=1∨k=2∨k=3∨k=4∨k=5∨k=6∨k=7) with rfl | rfl | rfl | rfl | rfl | rfl | rfl<;>rfl
theorem Z8 {k:Nat} (h1:1<=k) (hk:k<=7):AK 97 [AA (sg.take k)] [] (.B true) []:=by
 refine sY.s.ai ?_;have h6:=gV hk;have hl:=SP hk;have hg:=@TC k;generalize sg.take k=l at *;apply ax [0] [] [] 80
 .simp [AB]
  rfl
 refine AC ?_;apply ax [0,5,6,7] [] [] 200
 .simp [hl,AB]
  rfl
 refine AI (Ag (ι:=Nat) (λ i=>⟨33,[(0,AA l),(5,AA l),(6,.I k),(7,.I i)],[],200⟩) (λ i=>i<=k) (λ i=>k - i) 0 (Qh _) (AY [] []) ?_);intro i hi;simp only[];apply ax [0,5,6,7,8] [] [] 300
 .simp [AB]
  rfl
 refine AC (AD _ rfl (λ h=>AE ?_) λ h=>Aa (Ab ?_))
 .simp only[Qb,Uq] at h
  have u:=hg hk h;have h7:∀ h,l[i]'h=(i:Int):=λ h=>by rw[Qa h] at u;exact Qj u
  have h8:=Rk i;refine BO ⟨33,[(0,AA l),(5,AA l),(6,.I k),(7,.I i)],[],900⟩ ?_ ?_
  .refine AI ?_
   apply ax [0,3,4,5,6,7] [] [] 400
   .simp [hl,h,h7,AB]
    rfl
   refine arc ⟨33,[(0,AA l),(5,AA l),(6,.I k),(7,.I i),(27,.B false)],[],700⟩ ?_ ?_
   .simp [AB]
    refine AT h8 zw ?_
    have q:(i:Int)<64:=zy
    rcases Q8 i with h0 | h0
    .have h9:¬ 0<i:=zy
     simp[h9,q,AB];exact AY [] []
    .obtain ⟨j,hj⟩:∃ j,i=j+1:=⟨i - 1,zy⟩
     have h2:=hg hk (i:=j) zy
     have ha:j<l.length:=zy
     have h3:∀ h,l[j]'h=(j:Int):=λ h=>by rw[Qa h] at h2;exact Qj h2
     have hb:IntKind.i64.wrap ((i:Int) - 1)=(j:Int):=by rw[w6];omega
     have hd:¬ ((i:Int)<=(j:Int)):=zy
     simp[h0,q,hb,hd,ha,h3,AB];exact AY [] []
   refine AD _ rfl (λ h5=>absurd h5 zz) λ h5=>AE ?_
   exact AY [] []
  have he:=Ci h;refine AU rfl ?_;simp[he];exact⟨i+1,zy,zy,AY [] []⟩
 have h4:=Yz h1 hk;have hz:List.replicate 64 (AV.B false)=DP 0:=rfl;have hf:=Sy;generalize DP=Y at *;refine BE ⟨33,[(2,.B true)],[],1200⟩ rfl ?_ (AO ⟨.inr rfl,AG.one zz⟩)
 simp[AB];refine AT h6 zw ?_
 simp[hf,AB];rw[<- hz] at h4;exact⟨false,h4,BT [] []⟩
theorem Ny {L:List Int} {a:Nat}:∀ m,(DT L a m).1.Pairwise (· < ·) /\ ∀ x∈(DT L a m).1,0<=x/\x<m
 | 0=>⟨.nil,λ _ h=>(Ue h).elim⟩
 | m+1=>by
   have ih:=Ny (L:=L) (a:=a) m;unfold DT;simp only;split
   .refine ⟨UB.2 ⟨ih.1,List.pairwise_singleton _ _,λ x hx y hy=>?_⟩,λ x hx=>?_⟩
    .rw [Qw] at hy
     have:=ih.2 x hx;omega
    .rcases Qn.1 hx with h | h
     .have:=ih.2 x h;omega
     .rw [Qw] at h;omega
   .exact ⟨ih.1,λ x hx=>by have:=ih.2 x hx;omega⟩
theorem WK (L:List Int) (a N:Nat) (hl:L.length<=400) (ha:a<=L.length) (h1:1<=N) (hN:N<=1000) :
  ∃ x:List Int × Nat,((x.1.Pairwise (· < ·)/\(∀ k∈x.1,0<=k/\k<N)/\x.1.length<=N/\x.1≠[])/\x.2<=L.length)/\AK 57 [.pt 0 0 0,.I N] [AS L a] (.rs 1 0 x.1.length) [some (AS L x.2),some ⟨1,AH x.1,0⟩]:=by
 refine uJ.s.acallsX (args:=[.pt 0 0 0,.I N]) (hs:=[AS L a]) (λ x=>.rs 1 0 x.1.length) (λ x=>[some (AS L x.2),some ⟨1,AH x.1,0⟩]) (λ x:List Int × Nat=>(x.1.Pairwise (· < ·)/\(∀ k∈x.1,0<=k/\k<N)/\x.1.length<=N/\x.1≠[])/\x.2<=L.length) (AW rfl) (AW rfl) (λ _=>zz) ?_
 show AQ _ 1 _ _ ⟨17,[(0,.pt 0 0 0),(1,.I N)],[(0,some (AS L a))],16⟩;have hs:=VW L a N hl ha hN;obtain⟨x,b,⟨hb,hx⟩,hc⟩:=E5 L (DT L a N).2 N hl (Ko ha N) zy zy
 have hp:=Ny (L:=L) (a:=a) N;have q:=LL (L:=L) (a:=a) N;have u:=Ko (L:=L) ha N;generalize DT L a N=D at *;obtain⟨K,c⟩:=D;simp only at *;apply ax [0,1] [(0,0)] [] 24
 .simp [AB]
  rfl
 apply ax [0,1,5] [(0,0),(40,50)] [] 100
 .simp [AB]
  refine BX (i:=0) rfl (e':=AS L a) zz hs zz zz ?_
  simp[AB];rfl
 refine Bn (ι:=List Int × Nat) (λ x=>⟨17,[(5,.rs 50 0 x.1.length)],[(0,some (AS L x.2)),(50,some ⟨1,AH x.1,0⟩)],300⟩) (λ x:List Int × Nat=>(x.1.Pairwise (· < ·)/\(∀ k∈x.1,0<=k/\k<N)/\x.1.length<=N/\x.1≠[])/\x.2<=L.length) ?_ λ x hx=>?_
 .apply ax [0,1,5,11] [(0,0),(50,50)] [] 200
  .simp
   rfl
  refine AD _ rfl (λ h=>?_) λ h=>?_
  .refine AU rfl ?_
   simp;refine BX (i:=0) rfl (e':=AS L c) zz hc zz zz ?_
   simp;refine⟨[(x:Int)],b,⟨⟨zz,zu,zu,zz⟩,hb⟩,?_⟩
   exact BT [(0,0),(224,50)] []
  .refine AE ?_
   simp at h;refine⟨(K,c),⟨⟨hp.1,hp.2,q,h⟩,u⟩,?_⟩;exact BT [(0,0),(50,50)] []
 obtain⟨K',c'⟩:=x;apply ax [4] [(0,0),(50,50)] [] 400
 .simp [AB]
  rfl
 refine AO (Af.mk (.inr rfl) (K',c') hx ?_);exact AG.k1n 50 zx rfl zz zz zz
structure MP (n:Nat) (t:Int) (d:F9):Prop where
 vo:d.k=1->(0<=d.a/\d.a<n)/\(1<=d.b/\d.b<=3)/\(d.c=t+100∨d.c=t+30∨d.c=t+5)
 a:0<=d.a/\d.a<=10
 b:0<=d.b/\d.b<=10
 c:d.k≠1->0<=d.c/\d.c<=10
 k:d.k=1∨d.k=2∨d.k=11∨d.k=12∨d.k=13∨d.k=14∨d.k=15
 pi:d.pi=[]
 li:d.li.length<=n /\ ∀ x∈d.li,0<=x/\x<n
abbrev S4:List AV:=[.I 0,.I 0,.I 0,.I 0,.nilS,.nilS]
theorem On {a b:List Int}:∀ k,∀ x∈Dc a b k,x∈a
 | 0=>by simp[Dc]
 | k+1=>by
   intro x hx;rw[OB,Qn] at hx;rcases hx with h | h
   .exact On k x h
   .split at h
    .rename_i h2;simp at h;subst h;exact h2.1
    .simp at h
theorem Rf {a b:List Int} {n:Nat} (ha:∀ x∈a,x<n):∀ k,(Dc a b k).length<=k/\(Dc a b k).length<=n
 | 0=>by simp[Dc]
 | k+1=>by
   obtain⟨h1,h2⟩:=Rf (b:=b) ha k;rw[OB,Qe];split
   .rename_i h
    have:=ha _ h.1;simp;omega
   .simp;omega
theorem Ip {a b c d e e' f f':AV} (h1:Wk e e') (h2:Wk f f'):Wk (.agg [a,b,c,d,e,f]) (.agg [a,b,c,d,e',f']) :=
 .agg _ _ rfl λ j=>match j with | 4=>h1 | 5=>h2 | 0=>.refl _ | 1=>.refl _ | 2=>.refl _ | 3=>.refl _ | _+6=>.refl _
theorem Pz (L:List Int) (a n:Nat) (me t:Int) (hl:L.length<=400) (ha:a<=L.length) (hv:1<=n) (hn:n<=9) (a5:0<=me/\me<n) (ht:0<=t/\t<=1000000) :
  ∃ x:F9 × Nat,(MP n t x.1/\x.2<=L.length)/\AK 21 [.pt 0 0 0,.I me,.I n,.I t] [AS L a] (Hx x.1) [some (AS L x.2)]:=by
 refine vQ.s.acallsX (args:=[.pt 0 0 0,.I me,.I n,.I t]) (hs:=[AS L a]) (λ x=>Hx x.1) (λ x=>[some (AS L x.2)]) (λ x:F9 × Nat=>MP n t x.1/\x.2<=L.length) (AW rfl) (AW rfl) (λ _=>zz) ?_
 show AQ _ 1 _ _ ⟨82,[(0,.pt 0 0 0),(1,.I me),(2,.I n),(3,.I t)],[(0,some (AS L a))],16⟩;obtain⟨m1,h9⟩:∃ m:Int,m=max 1 ((n:Int) - 1):=⟨_,rfl⟩;obtain⟨x1,b1,⟨a0,a6⟩,hf⟩:=E5 L a m1 hl ha zy zy
 obtain⟨x2,b2,⟨h2,hx2⟩,a1⟩:=E5 L b1 10 hl a0 zy zy
 have h7:=dB (me+1+x1) n zy
 obtain⟨o,ho⟩:=AL (D3 (me+1+x1) n);rw[<- ho] at h7;have a2:0<=o/\o<n:=by rw[ho];exact Rz zy
 have hg:IntKind.i64.wrap ((n:Int) - 1)=n - 1:=by rw[w6]
 have hb:IntKind.i64.wrap (me+1)=me+1:=by rw[w6]
 have hh:IntKind.i64.wrap (me+1+(x1:Int))=me+1+x1:=by rw[w6]
 have hd:(if (1:Int)<(n:Int) - 1 then (n:Int) - 1 else 1)=m1:=by rw[h9];split<;>omega
 apply ax [0,1,2,3,8] [(0,0),(16,16)] [] 24
 .simp [AB]
  rfl
 apply ax [0,1,2,3,8,9] [(0,0),(16,16)] [] 200
 .simp [hg,hb,hd]
  refine BX (i:=0) rfl (e':=AS L a) zz hf zz zz ?_
  simp[hh];refine Ay h7 ?_;simp;rfl
 clear h7 hf hg hb hh hd
 refine BO ⟨82,[(0,.pt 0 0 0),(3,.I t),(8,.pt 16 0 0),(9,.I o)],[(0,some (AS L b2)),(16,some ⟨6,[S4],0⟩)],2000⟩ ?_ ?_
 .apply ax [0,1,2,3,8,9,22] [(0,0),(16,16)] [] 300
  .simp
   refine BX (i:=0) rfl (e':=AS L b1) zz a1 zz zz ?_
   simp;rfl
  refine AI ?_;apply ax [0,1,2,3,8,9,22,23] [(0,0),(16,16)] [] 400
  .simp
   rfl
  refine AD _ rfl (λ h0=>?_) λ h0=>?_
  .obtain ⟨y,c,⟨hc,hy⟩,u⟩:=E5 L b2 4 hl h2 zy zy
   apply ax [8] [(0,0),(16,16)] [] 500
   .simp
    refine BX (i:=0) rfl (e':=AS L b2) zz u zz zz ?_
    simp[EQ,AZ];rfl
   refine AO (Af.mk (.inr rfl) (⟨2,y,0,0,[],[]⟩,c) ⟨⟨zz,⟨zz,zu⟩,zz,zz,zz,rfl,zz⟩,hc⟩ ?_)
   exact AG.k1 rfl (by simp;exact Ip (.nil _ _) (.nil _ _)) zz
  refine BO ⟨82,[(0,.pt 0 0 0),(1,.I me),(2,.I n),(3,.I t),(8,.pt 16 0 0),(9,.I o),(22,.I x2),(28,.B (decide (x2=1∨x2=2)))],[(0,some (AS L b2)),(16,some ⟨6,[S4],0⟩)],600⟩ ?_ ?_
  .apply ax [0,1,2,3,8,9,22,28] [(0,0),(16,16)] [] 500
   .simp
    rfl
   refine AD _ rfl (λ h1=>?_) λ h1=>?_
   .exact AE (AN [(0,0),(16,16)] [] (by simp;exact An (by rw[h1];simp at h1;simp;omega)))
   .refine AU rfl ?_
    simp;exact AN [(0,0),(16,16)] [] (by simp;exact An (by simp at h1;rw[Qk];simp;omega))
  refine AD _ rfl (λ h1=>?_) λ h1=>?_
  .apply ax [8] [(0,0),(16,16)] [] 700
   .simp [EQ,AZ]
    rfl
   refine AO (Af.mk (.inr rfl) (⟨11,0,0,0,[],[]⟩,b2) ⟨⟨zz,zz,zz,zz,zz,rfl,zz⟩,h2⟩ ?_)
   exact AG.k1 rfl (by simp;exact Ip (.nil _ _) (.nil _ _)) zz
  apply ax [0,1,2,3,8,9,22,32] [(0,0),(16,16)] [] 800
  .simp
   rfl
  refine AD _ rfl (λ h3=>?_) λ h3=>?_
  .obtain ⟨⟨K,c⟩,⟨⟨_,hK,a3,_⟩,hi⟩,hk⟩:=WK L b2 n hl h2 hv zy
   simp only at hk hi hK a3;have a4:=MR K [me] zy zz
   have h9:=Rf (a:=K) (b:=[me]) (n:=n) (λ x hx=>(hK x hx).2) 64;have hj:=On (a:=K) (b:=[me]) 64;generalize hM:D2 K [me]=M at *;apply ax [0,8,10] [(0,0),(16,16),(840,50)] [] 1000
   .simp
    refine BX (i:=0) rfl (e':=AS L b2) zz hk zz zz ?_
    simp;refine H6 [816,832] zz a4 (by simp[AB,CI];exact .refl _) ?_
    simp[AB];rfl
   rw[D2] at hM;rw[hM] at h9 hj;obtain⟨q,hq⟩:∃ q:Int,q=max 1 (M.length:Int):=⟨_,rfl⟩;have hd:(if (1:Int)<(M.length:Int) then (M.length:Int) else 1)=q:=by rw[hq];split<;>omega
   obtain⟨y,c',⟨h8,hy⟩,u⟩:=E5 L c q hl hi zy zy
   have hw:IntKind.i64.wrap (1+(y:Int))=1+y:=by rw[w6]
   apply ax [8] [(0,0),(16,16)] [50] 1200
   .simp [hd]
    refine BX (i:=0) rfl (e':=AS L c) zz u zz zz ?_
    simp[EQ,AZ,hw,AB];rfl
   refine AO (Af.mk (.inr rfl) (⟨12,1+y,0,0,M,[]⟩,c') ⟨⟨zz,⟨zu,zu⟩,zz,zz,zz,rfl,⟨h9.2,λ x hx=>hK x (hj x hx)⟩⟩,h8⟩ ?_)
   exact AG.k1 rfl (by simp[CI];exact Ip (.refl _) (.nil _ _)) zz
  apply ax [0,2,3,8,9,22,48] [(0,0),(16,16)] [] 900
  .simp
   rfl
  refine AD _ rfl (λ h4=>?_) λ h4=>?_
  .obtain ⟨y,c,⟨hc,hy⟩,u⟩:=E5 L b2 n hl h2 zy zy
   apply ax [8] [(0,0),(16,16)] [] 1000
   .simp
    refine BX (i:=0) rfl (e':=AS L b2) zz u zz zz ?_
    simp[EQ,AZ];rfl
   refine AO (Af.mk (.inr rfl) (⟨13,o,y,0,[],[]⟩,c) ⟨⟨zz,zu,zu,zz,zz,rfl,zz⟩,hc⟩ ?_)
   exact AG.k1 rfl (by simp;exact Ip (.nil _ _) (.nil _ _)) zz
  apply ax [0,2,3,8,9,22,55] [(0,0),(16,16)] [] 1100
  .simp
   rfl
  refine AD _ rfl (λ h5=>?_) λ h5=>?_
  .obtain ⟨y,c,⟨hc,hy⟩,u⟩:=E5 L b2 2 hl h2 zy zy
   have hm:=VW L c n hl hc zy
   have hp:=Ny (L:=L) (a:=c) n;have hr:=LL (L:=L) (a:=c) n;have hu:=Ko (L:=L) hc n;generalize DT L c n=D at *;obtain⟨K,c'⟩:=D;simp only at hm hp hr hu;apply ax [8] [(0,0),(16,16)] [1132] 1200
   .simp
    refine BX (i:=0) rfl (e':=AS L b2) zz u zz zz ?_
    simp;refine BX (i:=0) rfl (e':=AS L c) zz hm zz zz ?_
    simp[EQ,AZ,AB];rfl
   refine AO (Af.mk (.inr rfl) (⟨14,y,0,0,K,[]⟩,c') ⟨⟨zz,zu,zz,zz,zz,rfl,⟨hr,hp.2⟩⟩,hu⟩ ?_)
   exact AG.k1 rfl (by simp[CI];exact Ip (.refl _) (.nil _ _)) zz
  apply ax [0,2,3,8,9,22,63] [(0,0),(16,16)] [] 1300
  .simp
   rfl
  refine AD _ rfl (λ h6=>?_) λ h6=>?_
  .obtain ⟨y,c,⟨hc,hy⟩,u⟩:=E5 L b2 2 hl h2 zy zy
   obtain⟨z,c',⟨h8,hz⟩,he⟩:=E5 L c n hl hc zy zy
   have hw:IntKind.i64.wrap (2+(y:Int))=2+y:=by rw[w6]
   apply ax [8] [(0,0),(16,16)] [] 1400
   .simp
    refine BX (i:=0) rfl (e':=AS L b2) zz u zz zz ?_
    simp[hw];refine BX (i:=0) rfl (e':=AS L c) zz he zz zz ?_
    simp[EQ,AZ];rfl
   refine AO (Af.mk (.inr rfl) (⟨15,0,2+y,z,[],[]⟩,c') ⟨⟨zz,zz,zu,zu,zz,rfl,zz⟩,h8⟩ ?_)
   exact AG.k1 rfl (by simp;exact Ip (.nil _ _) (.nil _ _)) zz
  exact AE (BT [(0,0),(16,16)] [])
 obtain⟨y,c,⟨hc,hy⟩,u⟩:=E5 L b2 3 hl h2 zy zy
 obtain⟨z,c',⟨h8,hz⟩,he⟩:=FI L c [100,30,5] hl hc zz zz
 have hw:IntKind.i64.wrap (1+(y:Int))=1+y:=by rw[w6]
 simp only[Qv,Ue,or_false] at hz;have hb:IntKind.i64.wrap (t+z)=t+z:=by rw[w6]
 apply ax [8] [(0,0),(16,16)] [] 2200
 .simp
  refine BX (i:=0) rfl (e':=AS L b2) zz u zz zz ?_
  simp[hw];refine Hh (i:=0) (j:=2048) zx zx rfl rfl (e':=AS L c) zz he zz zz ?_
  simp[EQ,AZ,hb];rfl
 refine AO (Af.mk (.inr rfl) (⟨1,o,1+y,t+z,[],[]⟩,c') ⟨⟨λ _=>⟨a2,zu,zu⟩,zu,zu,zz,zz,rfl,zz⟩,h8⟩ ?_)
 exact AG.k1 rfl (by simp;exact Ip (.nil _ _) (.nil _ _)) zz
theorem Io {st:St} {X:List (List AV)} (q:∀ ρ sn h m,X.map (List.map (conv ρ sn h (m+1)))=X) (he:st.hp 0=some ⟨7,X,0⟩):AG [] 1 st (.tup []) [some ⟨7,X,0⟩] :=
 ⟨[],rfl,[],[],by simp[List.range,List.range.loop],zz,zz,zz,by simp[List.range,List.range.loop,he,Ak,q]⟩
theorem SH {H G T:List Ac} {x y:Ac} {p q:Nat} (hp:H.length=p) (hq:p+1+G.length=q):(AP (H++x::(G++y::T)))[p]? = some (vC x)/\(AP (H++x::(G++y::T)))[q]? = some (vC y):=by
 subst hp hq;constructor
 .rw [QG,Qt zy]
  simp
 .rw [QG,Qt zy]
  have e:H.length+1+G.length - H.length=G.length+1:=zy
  rw[e,List.getElem?_cons_succ,Qt zy]
  simp
theorem SX {H G T:List Ac} {x y:Ac} {p q:Nat} (hp:H.length=p) (hq:p+1+G.length=q):((AP (H++x::(G++y::T))).set p (vC y)).set q (vC x)=AP (H++y::(G++x::T)):=by
 subst hp hq;have e1:(AP (H++x::(G++y::T))).set H.length (vC y)=AP (H++y::(G++y::T)):=by simp[AP,List.set_append]
 rw[e1,AP,List.map_append,List.set_append_right _ _ zu]
 have e:H.length+1+G.length - (H.map vC).length=G.length+1:=zu
 rw[e,List.map_cons,List.set_cons_succ,List.map_append,List.set_append_right _ _ zz]
 simp
theorem M5 (f:FuncId) (capt:List AV) (hs:Gc capt) (P X Q Y R:List Ac) (n a b t:Nat) (hn:(P++(X++(Q++(Y++R)))).length=n) (ha:P.length=a) (hX:X.length=t) (hY:Y.length=t) (hb:a+t+Q.length=b) (hl:n<=1000000) :
  AK 341 [.rs 0 0 n,.I a,.I b,.I t,.fn (.func f) [] capt] [⟨7,AP (P++(X++(Q++(Y++R)))),0⟩] (.tup []) [some ⟨7,AP (P++(Y++(Q++(X++R)))),0⟩]:=by
 have hk:∀ ρ sn h,capt.map (conv ρ sn h 2)=capt:=λ _ _ _=>hs _ _ _ 1
 have hm:∀ ρ sn h,capt.map (conv ρ sn h 3)=capt:=λ _ _ _=>hs _ _ _ 2
 have ho:∀ ρ sn h,capt.map (conv ρ sn h 4)=capt:=λ _ _ _=>hs _ _ _ 3
 refine fR.s.acalls (AW rfl) (AW rfl) (AW rfl) ?_;show AQ _ 1 _ _ ⟨38,[(0,.rs 0 0 n),(1,.I a),(2,.I b),(3,.I t),(4,.fn (.func f) [] capt)],[(0,some ⟨7,AP (P++(X++(Q++(Y++R)))),0⟩)],16⟩;have hq:a+t<=b:=zy
 have hr:b+t+R.length=n:=by simp only[Qe] at hn;omega
 refine arc ⟨38,[(0,.rs 0 0 n),(1,.I a),(2,.I b),(3,.I t),(10,.I (0:Nat))],[(0,some ⟨7,AP (P++(X++(Q++(Y++R)))),0⟩)],24⟩ ?_ ?_
 .simp
  exact BD
 refine AI ?_;obtain⟨F,hF⟩:=AL (P++(Y++(Q++(X++R))));rw[<- hF]
 refine Ag (ι:=(List Ac × List Ac × List Ac × List Ac) × Nat) (λ q=>⟨38,[(0,.rs 0 0 n),(1,.I a),(2,.I b),(3,.I t),(10,.I q.2)],[(0,some ⟨7,AP (q.1.1++(q.1.2.1++(q.1.2.2.1++(q.1.2.2.2++R)))),0⟩)],24⟩)
  (λ q=>q.1.1.length=a+q.2/\q.1.2.1.length+q.2=t/\q.1.2.2.2.length+q.2=t/\a+t+q.1.2.2.1.length=b+q.2/\F=q.1.1++(q.1.2.2.2++(q.1.2.2.1++(q.1.2.1++R)))) (λ q=>t - q.2) ((P,X,Q,Y),0) ⟨ha,hX,hY,hb,hF⟩ (Le.refl _ _) ?_
 rintro⟨⟨P,X,Q,Y⟩,i⟩ ⟨h1,h2,h3,h4,h5⟩
 simp only at h1 h2 h3 h4 h5;refine AC (arc ⟨38,[(0,.rs 0 0 n),(1,.I a),(2,.I b),(3,.I t),(10,.I i),(13,.B (decide (i<t)))],[(0,some ⟨7,AP (P++(X++(Q++(Y++R)))),0⟩)],48⟩ ?_ ?_)
 .generalize AP (P++(X++(Q++(Y++R))))=Z at *
  simp;exact BD
 refine AD _ rfl (λ h=>AE ?_) λ h=>Aa (Ab ?_)
 .simp only[Qb] at h
  obtain⟨x,X,rfl⟩:∃ x X',X=x::X':=by cases X with | nil=>simp at h2;omega | cons x X=>exact⟨x,X,rfl⟩
  obtain⟨y,Y,rfl⟩:∃ x X',Y=x::X':=by cases Y with | nil=>simp at h3;omega | cons x X=>exact⟨x,X,rfl⟩
  simp only[QZ] at h2 h3;have h7:=wq (k:=i);have h8:IntKind.i64.wrap ((a:Int)+(i:Int))=((a+i:Nat):Int):=by rw[w6];omega
  have h9:IntKind.i64.wrap ((b:Int)+(i:Int))=((b+i:Nat):Int):=by rw[w6];omega
  have e1:P++(x::X++(Q++(y::Y++R)))=P++x::((X++Q)++y::(Y++R)):=zz
  have e2:P++y::((X++Q)++x::(Y++R))=(P++[y])++(X++((Q++[x])++(Y++R))):=zz
  have hg:=SH (H:=P) (G:=X++Q) (T:=Y++R) (x:=x) (y:=y) (p:=a+i) (q:=b+i) h1 (by rw[Qe];omega)
  have u:=SX (H:=P) (G:=X++Q) (T:=Y++R) (x:=x) (y:=y) (p:=a+i) (q:=b+i) h1 (by rw[Qe];omega)
  obtain⟨g1,g2⟩:=hg;rw[e2] at u;rw[e1];have hd:a+i<n:=zy
  have he:b+i<n:=zy
  have hf:a+i≠b+i:=zy
  refine BO ⟨38,[(0,.rs 0 0 n),(1,.I a),(2,.I b),(3,.I t),(10,.I i)],[(0,some ⟨7,AP ((P++[y])++(X++((Q++[x])++(Y++R)))),0⟩)],400⟩ ?_ ?_
  .generalize AP ((P++[y])++(X++((Q++[x])++(Y++R))))=Z2 at *
   generalize AP (P++x::((X++Q)++y::(Y++R)))=Z at *;generalize a+i=p at *;generalize b+i=q at *
   have g3:(Z.set p (vC y))[q]? = some (vC y):=by
    rw[UA,if_neg hf];exact g2
   refine AI (Cn rfl ?_);simp[h8,h9,hd,he,g1,g2,g3,AZ];exact⟨rfl,Le.keep rfl zz zz (by simp;exact u)⟩
  refine AU rfl ?_;have h0:=CX ((P++[y])++(X++((Q++[x])++(Y++R))));have hh:∃ Z,Z=AP ((P++[y])++(X++((Q++[x])++(Y++R)))):=⟨_,rfl⟩;obtain⟨Z,hZ⟩:=hh;rw[<- hZ] at h0 ⊢;simp[h7];refine⟨P++[y],X,Q++[x],Y,i+1,⟨zu,zy,zy,zu,by rw[h5];simp⟩,zy,?_⟩
  exact Le.N1 h0 rfl zz (by simp[hZ]) rfl zz
 simp only[Qd] at h;have hi:X=[]:=Qy zy
 have hj:Y=[]:=Qy zy
 have h6:P++(X++(Q++(Y++R)))=F:=by rw[h5,hi,hj]
 rw[h6];exact⟨.inl rfl,Io (CX F) rfl⟩
theorem bW (f:FuncId) (capt:List AV) (hs:Gc capt) (A X Y B:List Ac) (n a m b:Nat) (hn:(A++(X++(Y++B))).length=n) (ha:A.length=a) (hm:a+X.length=m) (hb:m+Y.length=b) (hX:0<X.length) (hY:0<Y.length) (hl:n<=1000000) :
  AK 325 [.rs 0 0 n,.I a,.I m,.I b,.fn (.func f) [] capt] [⟨7,AP (A++(X++(Y++B))),0⟩] (.tup []) [some ⟨7,AP (A++(Y++(X++B))),0⟩]:=by
 have h9:∀ ρ sn h,capt.map (conv ρ sn h 2)=capt:=λ _ _ _=>hs _ _ _ 1
 have hd:∀ ρ sn h,capt.map (conv ρ sn h 3)=capt:=λ _ _ _=>hs _ _ _ 2
 have he:∀ ρ sn h,capt.map (conv ρ sn h 4)=capt:=λ _ _ _=>hs _ _ _ 3
 refine Zi.s.acalls (AW rfl) (AW rfl) (AW rfl) ?_;show AQ _ 1 _ _ ⟨58,[(0,.rs 0 0 n),(1,.I a),(2,.I m),(3,.I b),(4,.fn (.func f) [] capt)],[(0,some ⟨7,AP (A++(X++(Y++B))),0⟩)],16⟩;have hv:b+B.length=n:=by simp only[Qe] at hn;omega
 obtain⟨F,hF⟩:=AL (A++(Y++(X++B)));rw[<- hF];obtain⟨i,hi⟩:=AL (X.length);obtain⟨j,hj⟩:∃ i,i=Y.length:=⟨_,rfl⟩;have hq:IntKind.i64.wrap ((m:Int) - (a:Int))=(i:Int):=by rw[w6];omega
 have hr:IntKind.i64.wrap ((b:Int) - (m:Int))=(j:Int):=by rw[w6];omega
 refine arc ⟨58,[(0,.rs 0 0 n),(2,.I m),(3,.I b),(4,.fn (.func f) [] capt),(10,.I i)],[(0,some ⟨7,AP (A++(X++(Y++B))),0⟩)],48⟩ ?_ ?_
 .generalize AP (A++(X++(Y++B)))=Z at *
  simp[hq];exact BD
 refine arc ⟨58,[(0,.rs 0 0 n),(2,.I m),(4,.fn (.func f) [] capt),(10,.I i),(11,.I j)],[(0,some ⟨7,AP (A++(X++(Y++B))),0⟩)],80⟩ ?_ ?_
 .generalize AP (A++(X++(Y++B)))=Z at *
  simp[hr];exact BD
 refine AC (AI ?_)
 refine Ag (ι:=(List Ac × List Ac × List Ac × List Ac) × Nat × Nat) (λ q=>⟨58,[(0,.rs 0 0 n),(2,.I m),(4,.fn (.func f) [] capt),(10,.I q.2.1),(11,.I q.2.2)],[(0,some ⟨7,AP (q.1.1++(q.1.2.1++(q.1.2.2.1++q.1.2.2.2))),0⟩)],80⟩)
  (λ q=>q.1.1.length+q.2.1=m/\q.1.2.1.length=q.2.1/\q.1.2.2.1.length=q.2.2/\0<q.2.1/\0<q.2.2/\m+q.2.2+q.1.2.2.2.length=n/\F=q.1.1++(q.1.2.2.1++(q.1.2.1++q.1.2.2.2))) (λ q=>q.2.1+q.2.2) ((A,X,Y,B),i,j) ⟨by show A.length+i=m;omega,hi.symm,hj.symm,by show 0<i;omega,by show 0<j;omega,by show m+j+B.length=n;omega,hF⟩ (Le.refl _ _) ?_
 rintro⟨⟨A,X,Y,B⟩,i,j⟩ ⟨h1,h2,h3,h4,h5,h6,h7⟩
 simp only at h1 h2 h3 h4 h5 h6 h7;refine AC (arc ⟨58,[(0,.rs 0 0 n),(2,.I m),(4,.fn (.func f) [] capt),(10,.I i),(11,.I j),(20,.B (decide (i≠j)))],[(0,some ⟨7,AP (A++(X++(Y++B))),0⟩)],104⟩ ?_ ?_)
 .generalize AP (A++(X++(Y++B)))=Z at *
  simp;exact Le.keep rfl (Qg _) (by simp<;>rw[Qk]<;>simp<;>omega) zz
 have hg:IntKind.i64.wrap ((m:Int) - (i:Int))=((m - i:Nat):Int):=by rw[w6];omega
 refine AD _ rfl (λ h=>AE ?_) λ h=>Aa (Ab ?_)
 .simp only[Qb] at h
  refine AI (arc ⟨58,[(0,.rs 0 0 n),(2,.I m),(4,.fn (.func f) [] capt),(10,.I i),(11,.I j),(23,.B (decide (j<i)))],[(0,some ⟨7,AP (A++(X++(Y++B))),0⟩)],128⟩ ?_ ?_)
  .generalize AP (A++(X++(Y++B)))=Z at *
   simp;exact BD
  refine AD _ rfl (λ h8=>?_) λ h8=>?_
  .simp only[Qb] at h8
   obtain⟨X1,X2,rfl,hk⟩:∃ X1 X2,X=X1++X2/\X1.length=j:=⟨X.take j,X.drop j,(QL j X).symm,by rw[QB];omega⟩
   rw[Qe] at h2;have h0:=M5 f capt hs A X1 X2 Y B n (m - i) m j (by simp only[Qe];omega) zy hk h3 zy hl
   have e1:A++(X1++X2++(Y++B))=A++(X1++(X2++(Y++B))):=zz
   have e2:A++(Y++(X2++(X1++B)))=(A++Y)++(X2++(X1++B)):=zz
   rw[e2] at h0;rw[e1];have hf:=CX (A++(X1++(X2++(Y++B))));refine arc ⟨58,[(0,.rs 0 0 n),(2,.I m),(4,.fn (.func f) [] capt),(10,.I i),(11,.I j)],[(0,some ⟨7,AP ((A++Y)++(X2++(X1++B))),0⟩)],192⟩ ?_ ?_
   .have u:=CX ((A++Y)++(X2++(X1++B)))
    generalize AP ((A++Y)++(X2++(X1++B)))=Z2 at *;generalize AP (A++(X1++(X2++(Y++B))))=Z at *;simp[hg];refine BX (i:=0) rfl (e':=⟨7,Z,0⟩) (by simp[Ak,hf]) h0 zz ?_ ?_
    .simp [h9,hd,he]
    simp[u];exact BD
   have hh:IntKind.i64.wrap ((i:Int) - (j:Int))=((i - j:Nat):Int):=by rw[w6];omega
   have u:=CX ((A++Y)++(X2++(X1++B)));obtain⟨Z,hZ⟩:=AL (AP ((A++Y)++(X2++(X1++B))));rw[<- hZ] at u ⊢;refine AU rfl ?_;simp[hh];refine⟨A++Y,X2,X1,B,i - j,j,⟨by rw[Qe];omega,zy,hk,zy,h5,zy,by rw[h7];simp⟩,zy,?_⟩
   exact Le.N1 u rfl zz (by simp[hZ]) rfl (by simp[h9,hd,he])
  .simp only[Qd] at h8
   obtain⟨Y1,Y2,rfl,ht⟩:∃ X1 X2,Y=X1++X2/\X1.length=j - i:=⟨Y.take (j - i),Y.drop (j - i),(QL _ Y).symm,by rw[QB];omega⟩
   rw[Qe] at h3;have h0:=M5 f capt hs A X Y1 Y2 B n (m - i) (m+j - i) i (by simp only[Qe];omega) zy h2 zy zy hl
   have e1:A++(X++(Y1++Y2++B))=A++(X++(Y1++(Y2++B))):=zz
   rw[e1];have hf:=CX (A++(X++(Y1++(Y2++B))));have hu:IntKind.i64.wrap ((m:Int)+(j:Int))=((m+j:Nat):Int):=by rw[w6];omega
   have ho:IntKind.i64.wrap (((m+j:Nat):Int) - (i:Int))=((m+j - i:Nat):Int):=by rw[w6];omega
   refine arc ⟨58,[(0,.rs 0 0 n),(2,.I m),(4,.fn (.func f) [] capt),(10,.I i),(11,.I j)],[(0,some ⟨7,AP (A++(Y2++(Y1++(X++B)))),0⟩)],224⟩ ?_ ?_
   .have u:=CX (A++(Y2++(Y1++(X++B))))
    generalize AP (A++(Y2++(Y1++(X++B))))=Z2 at *;generalize AP (A++(X++(Y1++(Y2++B))))=Z at *;generalize m+j=mj at *;generalize mj - i=mji at *;generalize m - i=mi at *;simp[hg,hu,ho];refine BX (i:=0) rfl (e':=⟨7,Z,0⟩) (by simp[Ak,hf]) h0 zz ?_ ?_
    .simp [h9,hd,he]
    simp[u];exact BD
   have hh:IntKind.i64.wrap ((j:Int) - (i:Int))=((j - i:Nat):Int):=by rw[w6];omega
   have u:=CX (A++(Y2++(Y1++(X++B))));obtain⟨Z,hZ⟩:=AL (AP (A++(Y2++(Y1++(X++B)))));rw[<- hZ] at u ⊢;refine AU rfl ?_;simp[hh];refine⟨A,Y2,Y1,X++B,i,j - i,⟨h1,zy,ht,h4,zy,by rw[Qe];omega,by rw[h7];simp⟩,zy,?_⟩
   exact Le.N1 u rfl zz (by simp[hZ]) rfl (by simp[h9,hd,he])
 have hij:i=j:=by simpa using h
 subst hij;have h0:=M5 f capt hs A X [] Y B n (m - i) m i (by simp only[Qe,U7];omega) zy h2 h3 zu hl
 simp only[UJ] at h0;rw[<- h7] at h0;have hf:=CX (A++(X++(Y++B)));have u:=CX F;generalize AP F=Z2 at *;generalize AP (A++(X++(Y++B)))=Z at *;refine BA (s:=?s9) rfl ?o9 ?q9
 case o9 =>
  simp[hg];refine BX (i:=0) rfl (e':=⟨7,Z,0⟩) (by simp[Ak,hf]) h0 zz ?_ ?_
  .simp [h9,hd,he]
  simp[u];rfl
 exact⟨.inl rfl,Io u rfl⟩
variable {S T:List Ac}
def A6 (l:List Ac):Prop:=l.Pairwise λ a b=>¬ Bi b a
instance (a b:Ac):Decidable (Bi a b):=by unfold Bi;infer_instance
theorem Li (P:Nat->Prop) [DecidablePred P] (lo:Nat):∀ d,(∀ i j,lo<=i->i<j->j<lo+d->P j->P i) -> ∃ q,lo<=q/\q<=lo+d/\(∀ k,lo<=k->k<q->P k) /\ ∀ k,q<=k->k<lo+d->¬ P k
 | 0,_=>⟨lo,Qg _,zy,λ k h1 h2=>zy,λ k h1 h2=>zy⟩
 | d+1,h=>by
   by_cases hp:P (lo+d)
   .exact ⟨lo+(d+1),zy,Qg _,λ k h1 h2=>by
     by_cases he:k=lo+d
     .rw [he];exact hp
     .exact h k (lo+d) h1 zy zy hp,λ k h1 h2=>zy⟩
   .obtain ⟨q,h1,h2,h3,h4⟩:=Li P lo d λ i j a b c e=>h i j a b zy e
    exact⟨q,h1,zy,h3,λ k h5 h6=>by
     by_cases he:k=lo+d
     .rw [he];exact hp
     .exact h4 k h5 zy⟩
theorem Kz {A R:List Ac} {k p:Nat} (h:k<S.length) (hp:A.length+k=p):(AP (A++(S++R)))[p]? = some (vC S[k]):=by
 subst hp;rw[QG,Qt zy]
 have e:A.length+k - A.length=k:=zy
 rw[e,QJ h,Qa h];rfl
theorem Mx {A R:List Ac} {k p:Nat} (h:k<T.length) (hp:A.length+S.length+k=p):(AP (A++(S++(T++R))))[p]? = some (vC T[k]):=by
 rw[<- Qq];exact Kz h (by rw[Qe];omega)
theorem H3 {l:List Ac} (h:A6 l) {i j:Nat} (hi:i<l.length) (hj:j<l.length) (hij:i<=j):¬ Bi l[j] l[i]:=by
 rcases Nat.lt_or_eq_of_le hij with h1 | h1
 .exact QD.1 h i j hi hj h1
 .subst h1
  unfold Bi;omega
theorem Ln {a b c:Ac} (h1:¬ Bi b a) (h2:Bi b c):Bi a c:=by unfold Bi at *;omega
theorem Ls {a b c:Ac} (h1:Bi a b) (h2:¬ Bi c b):Bi a c:=by unfold Bi at *;omega
theorem Ni {a b:List Ac} (ha:A6 a) (hb:A6 b) (h:∀ x∈a,∀ y∈b,¬ Bi y x):A6 (a++b):=by
 unfold A6;rw[UB];exact⟨ha,hb,h⟩
theorem Lc {a b:List Ac} (h:A6 (a++b)):A6 a/\A6 b /\ ∀ x∈a,∀ y∈b,¬ Bi y x:=by
 unfold A6 at h;rw[UB] at h;exact h
theorem X5 {x:Ac} (hT:A6 T):∃ q,q<=T.length/\(∀ k (h:k<T.length),Bi T[k] x↔k<q)/\A6 (T.take q++x::T.drop q):=by
 obtain⟨q,_,h2,h3,h4⟩:=Li (λ k=>∃ h:k<T.length,Bi T[k] x) 0 T.length λ i j _ hij hj hp=>by
  obtain⟨u,hp⟩:=hp;exact⟨zy,Ln (H3 hT zy u zy) hp⟩
 rw[Ug] at h2 h4
 have key:∀ k (h:k<T.length),Bi T[k] x↔k<q:=λ k h=>⟨λ hl=>by
  rcases Ua k q with h5 | h5
  .exact h5
  .exact absurd ⟨h,hl⟩ (h4 k h5 h),λ hk=>(h3 k (Qh _) hk).2⟩
 refine⟨q,h2,key,?_⟩;obtain⟨s1,s2,s3⟩:=Lc (a:=T.take q) (b:=T.drop q) (by rw[QL];exact hT)
 have h5:∀ y∈T.take q,Bi y x:=λ y hy=>by
  obtain⟨k,hk,rfl⟩:=Qr.1 hy;rw[QB] at hk;rw[Uv];exact(key k zy).2 zy
 have h6:∀ y∈T.drop q,¬ Bi y x:=λ y hy=>by
  obtain⟨k,hk,rfl⟩:=Qr.1 hy;rw[QV] at hk;rw[Ve];exact λ hl=>by have:=(key (q+k) zy).1 hl;omega
 refine Ni s1 ?_ λ y hy z hz=>?_
 .unfold A6
  rw[QY];exact⟨h6,s2⟩
 .rcases Qv.1 hz with rfl | hz
  .exact LR (h5 y hy)
  .exact s3 y hy z hz
theorem WT {x:Ac} (hS:A6 S):∃ q,q<=S.length/\(∀ k (h:k<S.length),¬ Bi x S[k]↔k<q)/\A6 (S.take q++x::S.drop q):=by
 obtain⟨q,_,h2,h3,h4⟩:=Li (λ k=>∃ h:k<S.length,¬ Bi x S[k]) 0 S.length λ i j _ hij hj hp=>by
  obtain⟨u,hp⟩:=hp;exact⟨zy,λ hl=>hp (Ls hl (H3 hS zy u zy))⟩
 rw[Ug] at h2 h4
 have key:∀ k (h:k<S.length),¬ Bi x S[k]↔k<q:=λ k h=>⟨λ hl=>by
  rcases Ua k q with h5 | h5
  .exact h5
  .exact absurd ⟨h,hl⟩ (h4 k h5 h),λ hk=>(h3 k (Qh _) hk).2⟩
 refine⟨q,h2,key,?_⟩;obtain⟨s1,s2,s3⟩:=Lc (a:=S.take q) (b:=S.drop q) (by rw[QL];exact hS)
 have h5:∀ y∈S.take q,¬ Bi x y:=λ y hy=>by
  obtain⟨k,hk,rfl⟩:=Qr.1 hy;rw[QB] at hk;rw[Uv];exact(key k zy).2 zy
 have h6:∀ y∈S.drop q,¬ Bi y x:=λ y hy=>by
  obtain⟨k,hk,rfl⟩:=Qr.1 hy;rw[QV] at hk;rw[Ve];refine LR (Classical.not_not.1 λ hl=>?_);have:=(key (q+k) zy).1 hl
  omega
 refine Ni s1 ?_ λ y hy z hz=>?_
 .unfold A6
  rw[QY];exact⟨h6,s2⟩
 .rcases Qv.1 hz with rfl | hz
  .exact h5 y hy
  .exact s3 y hy z hz
structure OD (S T:List Ac) (a m b mid lo hi q:Nat):Prop where
 q1:lo<=q
 q2:q<=hi
 key:∀ c (h1:c - a<S.length) (h2:mid+m - 1 - c - m<T.length),lo<=c->c<hi->(¬ Bi T[mid+m - 1 - c - m] S[c - a]↔c<q)
 am:a<=q
 qm:q<=m
 qd:q<=mid
 eb:mid+m - q<=b
 below:∀ s∈S.drop (q - a),∀ t∈T.take (mid - q),Bi t s
 above:∀ s∈S.take (q - a),∀ t∈T.drop (mid - q),¬ Bi t s
theorem dK {a m b mid lo hi:Nat} (hS:A6 S) (hT:A6 T) (h1:a+S.length=m) (h2:m+T.length=b) (h3:0<S.length) (h4:0<T.length) (he:mid=(a+b) / 2) (hf:(mid<m/\lo=mid+m - b/\hi=mid)∨(m<=mid/\lo=a/\hi=m)):∃ q,OD S T a m b mid lo hi q:=by
 have hb:∀ c,lo<=c->c<hi->a<=c/\c<m/\c<mid/\mid+m - 1 - c<b:=λ c h5 h6=>zy
 obtain⟨q,hq1,hq2,h9,ha⟩:=Li (λ c=>∃ (h1:c - a<S.length) (h2:mid+m - 1 - c - m<T.length),¬ Bi T[mid+m - 1 - c - m] S[c - a]) lo (hi - lo) λ i j hd hij hj hp=>by
  have b1:=hb i hd zy
  have b2:=hb j zy zy
  obtain⟨x1,x2,hp⟩:=hp;refine⟨zy,zy,λ hl=>hp ?_⟩
  have s1:=H3 hS (i:=i - a) (j:=j - a) zy zy zy
  have s2:=H3 hT (i:=mid+m - 1 - j - m) (j:=mid+m - 1 - i - m) zy zy zy
  exact Ln s2 (Ls hl s1)
 have u:∀ c (h1:c - a<S.length) (h2:mid+m - 1 - c - m<T.length),lo<=c->c<hi->(¬ Bi T[mid+m - 1 - c - m] S[c - a]↔c<q):=λ c y1 y2 h5 h6=>⟨λ hl=>by
  rcases Ua c q with h7 | h7
  .exact h7
  .exact absurd ⟨y1,y2,hl⟩ (ha c h7 zy),λ h7=>(h9 c h5 h7).2.2⟩
 refine⟨q,hq1,zy,u,zy,zy,zy,zy,?_,?_⟩
 .intro s hs t ht
  obtain⟨i,hi',rfl⟩:=Qr.1 hs;obtain⟨j,h0,rfl⟩:=Qr.1 ht;rw[QV] at hi';rw[QB] at h0;rw[Ve,Uv];have h8:q<hi:=zy
  have b1:=hb q hq1 h8;have hk:=u q zy zy hq1 h8
  have hl:Bi T[mid+m - 1 - q - m] S[q - a]:=Classical.not_not.1 λ hn=>by have:=hk.1 hn;omega
  have s1:=H3 hS (i:=q - a) (j:=q - a+i) zy zy zy
  have s2:=H3 hT (i:=j) (j:=mid+m - 1 - q - m) zy zy zy
  exact Ln s2 (Ls hl s1)
 .intro s hs t ht hl
  obtain⟨i,hi',rfl⟩:=Qr.1 hs;obtain⟨j,h0,rfl⟩:=Qr.1 ht;rw[QB] at hi';rw[QV] at h0;rw[Ve,Uv] at hl;have hg:lo<q:=zy
  have b1:=hb (q - 1) zy zy
  have hk:=(u (q - 1) zy zy zy zy).2 zy
  have s1:=H3 hS (i:=i) (j:=q - 1 - a) zy zy zy
  have s2:=H3 hT (i:=mid+m - 1 - (q - 1) - m) (j:=mid - q+j) zy zy zy
  exact hk (Ln s2 (Ls hl s1))
theorem MM {i j:Nat} (h:i+j<=4000000):IntKind.i64.wrap ((i:Int)+(j:Int))=(i:Int)+(j:Int)/\IntKind.u64.wrap ((i:Int)+(j:Int))=(i:Int)+(j:Int)/\Int.fdiv ((i:Int)+(j:Int)) 2=(((i+j) / 2:Nat):Int)/\IntKind.i64.wrap (((i+j) / 2:Nat):Int)=(((i+j) / 2:Nat):Int):=by
 refine⟨w6,by rw[IntKind.wrap_u64];omega,?_,w6⟩
 rw[QR _ zx]
 omega
theorem jU (f:FuncId) (capt:List AV) (hs:Gc capt) (hc:∀ x y,AK f (eV x::eV y::capt) [] (.I (A5 x y)) []) (A T B:List Ac) (x:Ac) (n a m b q:Nat) (hn:(A++(x::(T++B))).length=n) (ha:A.length=a) (hm:a+1=m) (hb:m+T.length=b) (hT:0<T.length) (hl:n<=1000000) (hq:q<=T.length) (hy:∀ k (h:k<T.length),Bi T[k] x↔k<q) :
  AK 296 [.rs 0 0 n,.I a,.I m,.I b,.fn (.func f) [] capt] [⟨7,AP (A++(x::(T++B))),0⟩] (.tup []) [some ⟨7,AP (A++(T.take q++x::T.drop q++B)),0⟩]:=by
 have h3:∀ ρ sn h,capt.map (conv ρ sn h 2)=capt:=λ _ _ _=>hs _ _ _ 1
 have h6:∀ ρ sn h,capt.map (conv ρ sn h 3)=capt:=λ _ _ _=>hs _ _ _ 2
 have h7:∀ ρ sn h,capt.map (conv ρ sn h 4)=capt:=λ _ _ _=>hs _ _ _ 3
 refine Mh.s.acalls (AW rfl) (AW rfl) (AW rfl) ?_;have av:b+B.length=n:=by simp only[Qe,QZ] at hn;omega
 have he:(AP (A++(x::(T++B))))[a]? = some (vC x):=Kz (A:=A) (S:=[x]) (R:=T++B) (k:=0) zz zy
 have hgt:∀ h,(h1:m<=h)->(h2:h<b)->(AP (A++(x::(T++B))))[h]? = some (vC (T[h - m]' zy)):=λ h h1 h2=>Mx (A:=A) (S:=[x]) (T:=T) (R:=B) (k:=h - m) zy zu
 have u:=CX (A++(x::(T++B)));obtain⟨Z,hZ⟩:=AL (AP (A++(x::(T++B))));rw[<- hZ] at he hgt u ⊢;show AQ _ 1 _ _ ⟨220,[(0,.rs 0 0 n),(1,.I a),(2,.I m),(3,.I b),(4,.fn (.func f) [] capt)],[(0,some ⟨7,Z,0⟩)],16⟩;have hz:=w6 (x:=(m:Int) - a);refine AC (arc ⟨220,[(0,.rs 0 0 n),(1,.I a),(2,.I m),(3,.I b),(4,.fn (.func f) [] capt),(28,.B true)],[(0,some ⟨7,Z,0⟩)],48⟩ ?_ ?_)
 .simp [hz]
  exact Le.keep rfl (Qg _) zu zz
 refine AD _ rfl (λ _=>?_) λ h=>by cases h
 refine BE ⟨220,[(0,.rs 0 0 n),(1,.I a),(2,.I m),(3,.I b),(4,.fn (.func f) [] capt),(10,.I m)],[(0,some ⟨7,Z,0⟩)],64⟩ rfl (by simp;exact BD) ?_
 refine BE ⟨220,[(0,.rs 0 0 n),(1,.I a),(2,.I m),(3,.I b),(4,.fn (.func f) [] capt),(10,.I m),(11,.I b)],[(0,some ⟨7,Z,0⟩)],80⟩ rfl (by simp;exact BD) ?_
 refine AC (AI (Ag (ι:=Nat × Nat) (λ p=>⟨220,[(0,.rs 0 0 n),(1,.I a),(2,.I m),(3,.I b),(4,.fn (.func f) [] capt),(10,.I p.1),(11,.I p.2)],[(0,some ⟨7,Z,0⟩)],80⟩) (λ p=>m<=p.1/\p.1<=m+q/\m+q<=p.2/\p.2<=b) (λ p=>p.2 - p.1) (m,b) ⟨zz,zz,zu,zz⟩ (Le.refl _ _) ?_))
 rintro⟨i,j⟩ ⟨a0,a1,a2,a3⟩
 simp only at a0 a1 a2 a3;refine AC (BE ⟨220,[(0,.rs 0 0 n),(1,.I a),(2,.I m),(3,.I b),(4,.fn (.func f) [] capt),(10,.I i),(11,.I j),(33,.B (decide (i<j)))],[(0,some ⟨7,Z,0⟩)],104⟩ rfl (by simp;exact BD) ?_)
 refine AD _ rfl (λ h4=>AE ?_) λ h4=>Aa (Ab ?_)
 .simp only[Qb] at h4
  obtain⟨hw,hu,hd,hf⟩:=MM (i:=i) (j:=j) zy
  refine AI (arc ⟨220,[(0,.rs 0 0 n),(1,.I a),(2,.I m),(3,.I b),(4,.fn (.func f) [] capt),(10,.I i),(11,.I j),(12,.I ((i+j) / 2:Nat))],[(0,some ⟨7,Z,0⟩)],160⟩ ?_ ?_)
  .simp [hw,hu,hd,hf,IntKind.bits,-Int.natCast_ediv,-Int.natCast_add]
   exact Le.keep rfl (Qg _) (by simp[hw,hu,hd,hf]) zz
  obtain⟨h,hh⟩:=AL ((i+j) / 2);rw[<- hh];have a4:h<n:=zy
  have a5:a<n:=zy
  have a6:=hgt h zy zy
  have hk:=hy (h - m) zy
  have a7:=hc (T[h - m]' zy) x
  have a8:decide (A5 (T[h - m]' zy) x<0)=decide (h<m+q):=by rw[UZ,KG,hk];omega
  generalize T[h - m]' zy=y at *
  have a9:=wq (k:=h);refine BM ⟨220,[(0,.rs 0 0 n),(1,.I a),(2,.I m),(3,.I b),(4,.fn (.func f) [] capt),(10,.I i),(11,.I j),(12,.I h),(50,.B (decide (h<m+q)))],[(0,some ⟨7,Z,0⟩)],248⟩ ?_ ?_
  .rw [<- a8]
   simp[a6,he,a4,a5];refine AT a7 ?_ ?_
   .simp [h3,h6,h7]
   simp;exact⟨rfl,BD⟩
  refine AD _ rfl (λ h5=>?_) λ h5=>?_
  .simp only[Qb] at h5
   refine AU rfl ?_;simp[a9];exact⟨h+1,j,⟨zy,zy,zy,zy⟩,zy,Le.N1 u rfl zz rfl rfl (by simp[h3,h6,h7])⟩
  .simp only[Qd] at h5
   refine AU rfl ?_;simp;exact⟨i,h,⟨zy,zy,zy,zy⟩,zy,Le.N1 u rfl zz rfl rfl (by simp[h3,h6,h7])⟩
 simp only[Qd] at h4;obtain rfl:i=m+q:=zy
 refine AC (BE ⟨220,[(0,.rs 0 0 n),(1,.I a),(2,.I m),(3,.I b),(4,.fn (.func f) [] capt),(10,.I (m+q:Nat)),(13,.I a)],[(0,some ⟨7,Z,0⟩)],120⟩ rfl (by simp;exact BD) ?_)
 have hi:IntKind.i64.wrap (((m+q:Nat):Int) - 1)=((a+q:Nat):Int):=by rw[w6];omega
 obtain⟨F,hF⟩:=AL (A++(T.take q++x::T.drop q++B));have ag:(T.take q).length=q:=by rw[QB];omega
 have hj:A++(x::(T++B))=(A++[])++x::(T.take q++(T.drop q++B)):=by rw[<- Qq (T.take q),QL];simp
 obtain⟨D,hD⟩:=AL (T.drop q++B);have ai:F=(A++[])++(T.take q++x::D):=by rw[hF,hD];simp
 have b0:a+1+q+D.length=n:=by rw[hD,Qe,QV];omega
 rw[<- hD] at hj;rw[<- hF];rw[hj] at hZ;generalize T.take q=T1 at *;refine AI ?_;obtain⟨mq,am⟩:=AL (m+q);rw[<- am] at hi ⊢;refine Ag (ι:=(List Ac × List Ac) × Nat) (λ p=>⟨220,[(0,.rs 0 0 n),(1,.I a),(2,.I m),(3,.I b),(4,.fn (.func f) [] capt),(10,.I mq),(13,.I p.2)],[(0,some ⟨7,AP ((A++p.1.1)++x::(p.1.2++D)),0⟩)],120⟩) (λ p=>p.1.1.length+a=p.2/\p.1.1.length+p.1.2.length=q/\F=(A++p.1.1)++(p.1.2++x::D)) (λ p=>p.1.2.length) (([],T1),a) ⟨zz,by simpa using ag,ai⟩ (by rw[hZ];exact Le.refl _ _) ?_
 rintro⟨⟨U,V⟩,k⟩ ⟨an,h8,h9⟩
 simp only at an h8 h9;refine AC (arc ⟨220,[(0,.rs 0 0 n),(1,.I a),(2,.I m),(3,.I b),(4,.fn (.func f) [] capt),(10,.I mq),(13,.I k),(58,.B (decide (k<a+q)))],[(0,some ⟨7,AP ((A++U)++x::(V++D)),0⟩)],152⟩ ?_ ?_)
 .generalize AP ((A++U)++x::(V++D))=Z at *
  simp[hi];exact Le.keep rfl (Qg _) (by simp<;>omega) zz
 refine AD _ rfl (λ h=>AE ?_) λ h=>Aa (Ab ?_)
 .simp only[Qb] at h
  obtain⟨y,V,rfl⟩:∃ y V',V=y::V':=by cases V with | nil=>simp at h8;omega | cons y V=>exact⟨y,V,rfl⟩
  simp only[QZ] at h8;obtain⟨k1,b1⟩:=AL (k+1);have ho:IntKind.i64.wrap ((k:Int)+1)=(k1:Int):=by rw[w6];omega
  have hr:(A++U).length=k:=by rw[Qe];omega
  have hg:=SH (H:=A++U) (G:=[]) (T:=V++D) (x:=x) (y:=y) (p:=k) (q:=k1) hr zu
  have h0:=SX (H:=A++U) (G:=[]) (T:=V++D) (x:=x) (y:=y) (p:=k) (q:=k1) hr zu
  obtain⟨g1,g2⟩:=hg;simp only[UJ] at g1 g2 h0;have e2:(A++U)++y::x::(V++D)=(A++(U++[y]))++x::(V++D):=zz
  rw[e2] at h0;have e1:(A++U)++x::(y::V++D)=(A++U)++x::y::(V++D):=rfl;rw[e1];have aq:k<n:=zy
  have ht:k1<n:=zy
  refine BO ⟨220,[(0,.rs 0 0 n),(1,.I a),(2,.I m),(3,.I b),(4,.fn (.func f) [] capt),(10,.I mq),(13,.I k)],[(0,some ⟨7,AP ((A++(U++[y]))++x::(V++D)),0⟩)],400⟩ ?_ ?_
  .generalize AP ((A++(U++[y]))++x::(V++D))=Z2 at *
   generalize AP ((A++U)++x::y::(V++D))=Z at *
   have g3:(Z.set k (vC y))[k1]? = some (vC x)∨(Z.set k (vC y))[k1]? = some (vC y):=.inr (by
    rw[UA,if_neg zy]
    exact g2)
   have g4:(Z.set k (vC y))[k1]? = some (vC y):=by
    rw[UA,if_neg zy]
    exact g2
   refine AI (Cn rfl ?_);simp[ho,aq,ht,g1,g2,g4,AZ];exact⟨rfl,Le.keep rfl zz zz (by simp;exact h0)⟩
  have hv:=CX ((A++(U++[y]))++x::(V++D));obtain⟨Z,hZ⟩:=AL (AP ((A++(U++[y]))++x::(V++D)));rw[<- hZ] at hv ⊢;refine AU rfl ?_;simp[ho];refine⟨U++[y],V,k1,⟨zu,zu,by rw[h9];simp⟩,zy,?_⟩
  exact Le.N1 hv rfl zz (by simp[hZ]) rfl (by simp[h3,h6,h7])
 simp only[Qd] at h;have au:V=[]:=Qy zy
 have hx:(A++U)++x::(V++D)=F:=by rw[h9,au];rfl
 rw[hx];exact BG (Io (CX F) rfl)
theorem fW (f:FuncId) (capt:List AV) (hs:Gc capt) (hc:∀ x y,AK f (eV x::eV y::capt) [] (.I (A5 x y)) []) (A S B:List Ac) (x:Ac) (n a m b q:Nat) (hn:(A++(S++x::B)).length=n) (ha:A.length=a) (hm:a+S.length=m) (hb:m+1=b) (hS:1<S.length) (hl:n<=1000000) (hq:q<=S.length) (hv:∀ k (h:k<S.length),¬ Bi x S[k]↔k<q) :
  AK 296 [.rs 0 0 n,.I a,.I m,.I b,.fn (.func f) [] capt] [⟨7,AP (A++(S++x::B)),0⟩] (.tup []) [some ⟨7,AP (A++(S.take q++x::S.drop q++B)),0⟩]:=by
 have h3:∀ ρ sn h,capt.map (conv ρ sn h 2)=capt:=λ _ _ _=>hs _ _ _ 1
 have h6:∀ ρ sn h,capt.map (conv ρ sn h 3)=capt:=λ _ _ _=>hs _ _ _ 2
 have h7:∀ ρ sn h,capt.map (conv ρ sn h 4)=capt:=λ _ _ _=>hs _ _ _ 3
 refine Mh.s.acalls (AW rfl) (AW rfl) (AW rfl) ?_;have b1:b+B.length=n:=by simp only[Qe,QZ] at hn;omega
 have hf:(AP (A++(S++x::B)))[m]? = some (vC x):=Mx (A:=A) (S:=S) (T:=[x]) (R:=B) (k:=0) zz zy
 have hgt:∀ h,(h1:a<=h)->(h2:h<m)->(AP (A++(S++x::B)))[h]? = some (vC (S[h - a]' zy)):=λ h h1 h2=>Kz (A:=A) (S:=S) (R:=x::B) (k:=h - a) zy zy
 have u:=CX (A++(S++x::B));obtain⟨Z,hZ⟩:=AL (AP (A++(S++x::B)));rw[<- hZ] at hf hgt u ⊢;show AQ _ 1 _ _ ⟨220,[(0,.rs 0 0 n),(1,.I a),(2,.I m),(3,.I b),(4,.fn (.func f) [] capt)],[(0,some ⟨7,Z,0⟩)],16⟩;have hx:=w6 (x:=(m:Int) - a);have hy:=w6 (x:=(b:Int) - m);refine AC (arc ⟨220,[(0,.rs 0 0 n),(1,.I a),(2,.I m),(3,.I b),(4,.fn (.func f) [] capt),(28,.B false)],[(0,some ⟨7,Z,0⟩)],48⟩ ?_ ?_)
 .simp [hx]
  exact Le.keep rfl (Qg _) zu zz
 refine AD _ rfl (λ h=>by cases h) λ _=>AE ?_
 refine AC (arc ⟨220,[(0,.rs 0 0 n),(1,.I a),(2,.I m),(3,.I b),(4,.fn (.func f) [] capt),(80,.B true)],[(0,some ⟨7,Z,0⟩)],80⟩ ?_ ?_)
 .simp [hy]
  exact Le.keep rfl (Qg _) zu zz
 refine AD _ rfl (λ _=>?_) λ h=>by cases h
 refine BE ⟨220,[(0,.rs 0 0 n),(1,.I a),(2,.I m),(3,.I b),(4,.fn (.func f) [] capt),(14,.I a)],[(0,some ⟨7,Z,0⟩)],96⟩ rfl (by simp;exact BD) ?_
 refine BE ⟨220,[(0,.rs 0 0 n),(1,.I a),(2,.I m),(3,.I b),(4,.fn (.func f) [] capt),(14,.I a),(15,.I m)],[(0,some ⟨7,Z,0⟩)],112⟩ rfl (by simp;exact BD) ?_
 refine AC (AI (Ag (ι:=Nat × Nat) (λ p=>⟨220,[(0,.rs 0 0 n),(1,.I a),(2,.I m),(3,.I b),(4,.fn (.func f) [] capt),(14,.I p.1),(15,.I p.2)],[(0,some ⟨7,Z,0⟩)],112⟩) (λ p=>a<=p.1/\p.1<=a+q/\a+q<=p.2/\p.2<=m) (λ p=>p.2 - p.1) (a,m) ⟨zz,zz,zu,zz⟩ (Le.refl _ _) ?_))
 rintro⟨i,j⟩ ⟨hz,a0,a1,a2⟩
 simp only at hz a0 a1 a2;refine AC (BE ⟨220,[(0,.rs 0 0 n),(1,.I a),(2,.I m),(3,.I b),(4,.fn (.func f) [] capt),(14,.I i),(15,.I j),(85,.B (decide (i<j)))],[(0,some ⟨7,Z,0⟩)],136⟩ rfl (by simp;exact BD) ?_)
 refine AD _ rfl (λ h4=>AE ?_) λ h4=>Aa (Ab ?_)
 .simp only[Qb] at h4
  obtain⟨hw,hu,hd,hg⟩:=MM (i:=i) (j:=j) zy
  refine AI (arc ⟨220,[(0,.rs 0 0 n),(1,.I a),(2,.I m),(3,.I b),(4,.fn (.func f) [] capt),(14,.I i),(15,.I j),(16,.I ((i+j) / 2:Nat))],[(0,some ⟨7,Z,0⟩)],192⟩ ?_ ?_)
  .simp [hw,hu,hd,hg,IntKind.bits,-Int.natCast_ediv,-Int.natCast_add]
   exact Le.keep rfl (Qg _) (by simp[hw,hu,hd,hg]) zz
  obtain⟨h,hh⟩:=AL ((i+j) / 2);rw[<- hh];have a3:h<n:=zy
  have a4:m<n:=zy
  have a5:=hgt h zy zy
  have hk:=hv (h - a) zy
  have a6:=hc x (S[h - a]' zy)
  have a7:(!decide (A5 x (S[h - a]' zy)<0))=decide (h<a+q):=by
   rw[<- decide_not,UZ,KG,hk];omega
  generalize S[h - a]' zy=y at *
  have a8:=wq (k:=h);refine BM ⟨220,[(0,.rs 0 0 n),(1,.I a),(2,.I m),(3,.I b),(4,.fn (.func f) [] capt),(14,.I i),(15,.I j),(16,.I h),(103,.B (decide (h<a+q)))],[(0,some ⟨7,Z,0⟩)],288⟩ ?_ ?_
  .rw [<- a7]
   simp[a5,hf,a3,a4];refine AT a6 ?_ ?_
   .simp [h3,h6,h7]
   simp;exact⟨rfl,BD⟩
  refine AD _ rfl (λ h5=>?_) λ h5=>?_
  .simp only[Qb] at h5
   refine AU rfl ?_;simp[a8];exact⟨h+1,j,⟨zy,zy,zy,zy⟩,zy,Le.N1 u rfl zz rfl rfl (by simp[h3,h6,h7])⟩
  .simp only[Qd] at h5
   refine AU rfl ?_;simp;exact⟨i,h,⟨zy,zy,zy,zy⟩,zy,Le.N1 u rfl zz rfl rfl (by simp[h3,h6,h7])⟩
 simp only[Qd] at h4;obtain rfl:i=a+q:=zy
 refine AC (BE ⟨220,[(0,.rs 0 0 n),(1,.I a),(2,.I m),(3,.I b),(4,.fn (.func f) [] capt),(14,.I (a+q:Nat)),(17,.I m)],[(0,some ⟨7,Z,0⟩)],152⟩ rfl (by simp;exact BD) ?_)
 obtain⟨F,hF⟩:=AL (A++(S.take q++x::S.drop q++B));have b2:(S.take q).length=q:=by rw[QB];omega
 have a9:(S.drop q).length+q=S.length:=by rw[QV];omega
 have hi:A++(S++x::B)=(A++S.take q)++((S.drop q).reverse.reverse++x::([]++B)):=by
  rw[List.reverse_reverse,Qq A,<- Qq (S.take q),QL];rfl
 obtain⟨H,hH⟩:=AL (A++S.take q);have ag:F=H++(x::((S.drop q).reverse.reverse++([]++B))):=by rw[hF,hH,List.reverse_reverse];simp
 have ai:H.length=a+q:=by rw[hH,Qe];omega
 rw[<- hH] at hi;rw[<- hF];rw[hi] at hZ;have b3:(S.drop q).reverse.length+q=S.length:=by rw[Q9];exact a9
 generalize (S.drop q).reverse=W at *;refine AI ?_;obtain⟨aq,am⟩:=AL (a+q);rw[<- am] at ai ⊢;refine Ag (ι:=(List Ac × List Ac) × Nat) (λ p=>⟨220,[(0,.rs 0 0 n),(1,.I a),(2,.I m),(3,.I b),(4,.fn (.func f) [] capt),(14,.I aq),(17,.I p.2)],[(0,some ⟨7,AP (H++(p.1.1.reverse++x::(p.1.2++B))),0⟩)],152⟩) (λ p=>aq+p.1.1.length=p.2/\p.2+p.1.2.length=m/\F=H++(x::(p.1.1.reverse++(p.1.2++B)))) (λ p=>p.1.1.length) ((W,[]),m) ⟨by show aq+W.length=m;omega,zz,ag⟩ (by rw[hZ];exact Le.refl _ _) ?_
 rintro⟨⟨W,V⟩,k⟩ ⟨h8,an,h9⟩
 simp only at h8 an h9;refine AC (arc ⟨220,[(0,.rs 0 0 n),(1,.I a),(2,.I m),(3,.I b),(4,.fn (.func f) [] capt),(14,.I aq),(17,.I k),(110,.B (decide (aq<k)))],[(0,some ⟨7,AP (H++(W.reverse++x::(V++B))),0⟩)],176⟩ ?_ ?_)
 .generalize AP (H++(W.reverse++x::(V++B)))=Z at *
  simp;exact BD
 refine AD _ rfl (λ h=>AE ?_) λ h=>Aa (Ab ?_)
 .simp only[Qb] at h
  obtain⟨y,W,rfl⟩:∃ y V',W=y::V':=by cases W with | nil=>simp at h8;omega | cons y V=>exact⟨y,V,rfl⟩
  simp only[QZ] at h8;obtain⟨j,hj⟩:∃ j,j+1=k:=⟨k - 1,zy⟩
  have ho:IntKind.i64.wrap ((k:Int) - 1)=(j:Int):=by rw[w6];omega
  have he:(H++W.reverse).length=j:=by rw[Qe,Q9];omega
  have e1:H++((y::W).reverse++x::(V++B))=(H++W.reverse)++y::x::(V++B):=zz
  have e2:(H++W.reverse)++x::y::(V++B)=H++(W.reverse++x::((y::V)++B)):=zz
  have g1:=(L9 (H:=H++W.reverse) (T:=V++B) (y:=y) (x:=x) he).1;have g2:=(L9 (H:=H++W.reverse) (T:=V++B) (y:=y) (x:=x) he).2;have h0:=Tc (H:=H++W.reverse) (T:=V++B) (y:=y) (x:=x) he;rw[hj] at g2 h0;rw[e2] at h0;rw[e1];have au:k<n:=zy
  have av:j<n:=zy
  refine BO ⟨220,[(0,.rs 0 0 n),(1,.I a),(2,.I m),(3,.I b),(4,.fn (.func f) [] capt),(14,.I aq),(17,.I k)],[(0,some ⟨7,AP (H++(W.reverse++x::((y::V)++B))),0⟩)],400⟩ ?_ ?_
  .generalize AP (H++(W.reverse++x::((y::V)++B)))=Z2 at *
   generalize AP ((H++W.reverse)++y::x::(V++B))=Z at *
   have g4:(Z.set k (vC y))[j]? = some (vC y):=by
    rw[UA,if_neg zy]
    exact g1
   refine AI (Cn rfl ?_);simp[ho,au,av,g1,g2,g4,AZ];exact⟨rfl,Le.keep rfl zz zz (by simp;exact h0)⟩
  have hr:=CX (H++(W.reverse++x::((y::V)++B)));obtain⟨Z,hZ⟩:=AL (AP (H++(W.reverse++x::((y::V)++B))));rw[<- hZ] at hr ⊢;refine AU rfl ?_;simp[ho];refine⟨W,y::V,j,⟨zy,zu,by rw[h9];simp⟩,zy,?_⟩
  exact Le.N1 hr rfl zz (by simp[hZ]) rfl (by simp[h3,h6,h7])
 simp only[Qd] at h;have b0:W=[]:=Qy zy
 have ht:H++(W.reverse++x::(V++B))=F:=by rw[h9,b0];rfl
 rw[ht];exact BG (Io (CX F) rfl)
theorem Ty {a b:List Ac} (ha:A6 a) (hb:A6 b) (h:a=[]∨b=[]):A6 (a++b):=by
 rcases h with rfl | rfl
 .exact hb
 .rw [QK];exact ha
theorem jO {a b c d:List Ac} (h1:a.Perm b) (h2:c.Perm d) (hp:∀ x∈b,∀ y∈d,¬ Bi y x) (ha:A6 a) (hc:A6 c):A6 (a++c) :=
 Ni ha hc λ x hx y hy=>hp x (h1.mem_iff.1 hx) y (h2.mem_iff.1 hy)
theorem Wt (f:FuncId) (capt:List AV) (hs:Gc capt) (hc:∀ x y,AK f (eV x::eV y::capt) [] (.I (A5 x y)) []) (n a m b mid mm lo hi q e:Nat) (Z Z1 Z2 Z3:List (List AV)) (h6:∀ ρ sn h m,Z.map (List.map (conv ρ sn h (m+1)))=Z) (hb:∀ ρ sn h m,Z1.map (List.map (conv ρ sn h (m+1)))=Z1) (hf:∀ ρ sn h m,Z2.map (List.map (conv ρ sn h (m+1)))=Z2) (h7:∀ ρ sn h m,Z3.map (List.map (conv ρ sn h (m+1)))=Z3) (b3:a+1<m) (b4:m+1<b) (b5:b<=n) (hl:n<=1000000) (hg:mid=(a+b) / 2) (b6:mm=mid+m) (hA:mid<m->lo+b=mm/\hi=mid) (hB:m<=mid->lo=a/\hi=m) (hq1:lo<=q) (hq2:q<=hi) (he:e+q=mm) (b7:a<=lo) (b8:hi<=m) (b2:hi<=mid) (hh:∀ c d,lo<=c->c<hi->c+d+1=mm->d<n /\ ∃ x y,Z[c]? = some (vC x)/\Z[d]? = some (vC y)/\(¬ A5 y x<0↔c<q)) (hj:q<m->m<e->AK 325 [.rs 0 0 n,.I q,.I m,.I e,.fn (.func f) [] capt] [⟨7,Z,0⟩] (.tup []) [some ⟨7,Z1,0⟩]) (h8:¬ (q<m/\m<e)->Z=Z1) (hx:a<q->q<mid->AK 296 [.rs 0 0 n,.I a,.I q,.I mid,.fn (.func f) [] capt] [⟨7,Z1,0⟩] (.tup []) [some ⟨7,Z2,0⟩]) (hk:¬ (a<q/\q<mid)->Z1=Z2) (hy:mid<e->e<b->AK 296 [.rs 0 0 n,.I mid,.I e,.I b,.fn (.func f) [] capt] [⟨7,Z2,0⟩] (.tup []) [some ⟨7,Z3,0⟩]) (hm:¬ (mid<e/\e<b)->Z2=Z3) :
  AK 296 [.rs 0 0 n,.I a,.I m,.I b,.fn (.func f) [] capt] [⟨7,Z,0⟩] (.tup []) [some ⟨7,Z3,0⟩]:=by
 have u:∀ ρ sn h,capt.map (conv ρ sn h 2)=capt:=λ _ _ _=>hs _ _ _ 1
 have h0:∀ ρ sn h,capt.map (conv ρ sn h 3)=capt:=λ _ _ _=>hs _ _ _ 2
 have h1:∀ ρ sn h,capt.map (conv ρ sn h 4)=capt:=λ _ _ _=>hs _ _ _ 3
 have hz:=w6 (x:=(m:Int) - a);have a0:=w6 (x:=(b:Int) - m);have h2:¬ ((m:Int) - a=1):=zy
 have h3:¬ ((b:Int) - m=1):=zy
 obtain⟨p,hp⟩:∃ p,p+1=mm:=⟨mm - 1,zy⟩
 have a1:IntKind.i64.wrap ((mid:Int)+(m:Int))=(mm:Int):=by rw[w6];omega
 have a2:mid<m->IntKind.i64.wrap ((mm:Int) - (b:Int))=(lo:Int):=λ h=>by have:=hA h;rw[w6];omega
 have a3:IntKind.i64.wrap ((mm:Int) - 1)=(p:Int):=by rw[w6];omega
 have a4:IntKind.i64.wrap ((mm:Int) - (q:Int))=(e:Int):=by rw[w6];omega
 obtain⟨ho,hq,h9,ha⟩:=MM (i:=a) (j:=b) zy
 rw[<- hg] at h9 ha;refine Mh.s.acalls (AW rfl) (AW rfl) (AW rfl) ?_;show AQ _ 1 _ _ ⟨220,[(0,.rs 0 0 n),(1,.I a),(2,.I m),(3,.I b),(4,.fn (.func f) [] capt)],[(0,some ⟨7,Z,0⟩)],16⟩;refine AC (rk (s:=?s01) [0,1,2,3,4,28] [0] rfl ?o01 ?q01)
 case o01=>simp[hz,h2];rfl
 refine AD _ rfl (λ h=>by simp[h2] at h) λ _=>AE ?_
 refine AC (rk (s:=?s02) [0,1,2,3,4,80] [0] rfl ?o02 ?q02)
 case o02=>simp[a0,h3];rfl
 refine AD _ rfl (λ h=>by simp[h3] at h) λ _=>AE ?_
 refine rk (s:=?s1) [0,1,2,3,4,18] [0] rfl ?o1 ?q1
 case o1=>simp[ho,hq,h9,ha,IntKind.bits,-Int.natCast_ediv,-Int.natCast_add];rfl
 refine rk (s:=?s2) [0,1,2,3,4,18,19] [0] rfl ?o2 ?q2
 case o2=>simp[a1];rfl
 refine rk (s:=?s3) [0,1,2,3,4,18,19,20,21] [0] rfl ?o3 ?q3
 case o3=>simp;rfl
 clear ho hq h9 ha
 refine BO ⟨220,[(0,.rs 0 0 n),(1,.I a),(2,.I m),(3,.I b),(4,.fn (.func f) [] capt),(18,.I mid),(19,.I mm),(20,.I lo),(21,.I hi)],[(0,some ⟨7,Z,0⟩)],300⟩ ?_ ?_
 .refine rk (s:=?s4) [0,1,2,3,4,18,19,20,21,140] [0] rfl ?o4 ?q4
  case o4=>simp;rfl
  refine AD _ rfl (λ h5=>?_) λ h5=>?_
  .simp only[Qb,Uq] at h5
   refine rk (s:=?s5) [0,1,2,3,4,18,19,20] [0] rfl ?o5 ?q5
   case o5=>simp[a2 h5];rfl
   refine AU rfl ?_;simp;exact Le.keep rfl zz (by simp[(hA h5).2]) zz
  .simp only[Qd,Uq] at h5
   have hr:=hB zy
   refine rk (s:=?s6) [0,1,2,3,4,18,19,20] [0] rfl ?o6 ?q6
   case o6=>simp;rfl
   refine AU rfl ?_;simp;exact Le.keep rfl zz (by simp[hr.1,hr.2]) zz
 refine rk (s:=?s7) [0,1,2,3,4,18,19,20,21,22] [0] rfl ?o7 ?q7
 case o7=>simp[a3];rfl
 refine AC (AI (Ag (ι:=Nat × Nat) (λ p'=>⟨220,[(0,.rs 0 0 n),(1,.I a),(2,.I m),(3,.I b),(4,.fn (.func f) [] capt),(18,.I mid),(19,.I mm),(20,.I p'.1),(21,.I p'.2),(22,.I p)],[(0,some ⟨7,Z,0⟩)],400⟩) (λ p=>lo<=p.1/\p.1<=q/\q<=p.2/\p.2<=hi) (λ p=>p.2 - p.1) (lo,hi) ⟨zz,by simpa using hq1,by simpa using hq2,zz⟩ (Le.keep rfl zz zz zz) ?_))
 rintro⟨i,j⟩ ⟨a5,a6,a7,a8⟩
 simp only at a5 a6 a7 a8;refine AC (rk (s:=?s8) [0,1,2,3,4,18,19,20,21,22,151] [0] rfl ?o8 ?q8)
 case o8=>simp;rfl
 refine AD _ rfl (λ h4=>AE ?_) λ h4=>Aa (Ab ?_)
 .simp only[Qb,Uq] at h4
  obtain⟨hw,hu,hd,ht⟩:=MM (i:=i) (j:=j) zy
  refine AI ?_;obtain⟨c,a9⟩:=AL ((i+j) / 2);rw[<- a9] at hd ht;refine rk (s:=?s9) [0,1,2,3,4,18,19,20,21,22,23] [0] rfl ?o9 ?q9
  case o9=>simp[hw,hu,hd,ht,IntKind.bits,-Int.natCast_ediv,-Int.natCast_add];rfl
  obtain⟨d,ag⟩:∃ d,c+d+1=mm:=⟨p - c,zy⟩
  obtain⟨ai,x,y,am,an,aq⟩:=hh c d zy zy ag
  have hv:=hc y x;have au:(!decide (A5 y x<0))=decide (c<q):=by rw[<- decide_not,UZ];exact aq
  have av:IntKind.i64.wrap ((p:Int) - (c:Int))=(d:Int):=by rw[w6];omega
  have b0:c<n:=zy
  have b1:=wq (k:=c);refine BM ⟨220,[(0,.rs 0 0 n),(1,.I a),(2,.I m),(3,.I b),(4,.fn (.func f) [] capt),(18,.I mid),(19,.I mm),(20,.I i),(21,.I j),(22,.I p),(23,.I c),(171,.B (decide (c<q)))],[(0,some ⟨7,Z,0⟩)],600⟩ ?_ ?_
  .rw [<- au]
   simp[am,an,av,ai,b0];refine AT hv ?_ ?_
   .simp [u,h0,h1]
   simp;exact⟨rfl,Le.keep rfl zz zz zz⟩
  refine AD _ rfl (λ h5=>?_) λ h5=>?_
  .simp only[Qb] at h5
   refine AU rfl ?_;simp[b1];exact⟨c+1,j,⟨zy,zy,zy,zy⟩,zy,Le.N1 h6 rfl zz rfl rfl (by simp[u,h0,h1])⟩
  .simp only[Qd] at h5
   refine AU rfl ?_;simp;exact⟨i,c,⟨zy,zy,zy,zy⟩,zy,Le.N1 h6 rfl zz rfl rfl (by simp[u,h0,h1])⟩
 simp only[Qd,Uq] at h4;obtain rfl:i=q:=zy
 refine rk (s:=?s10) [0,1,2,3,4,18,20,24] [0] rfl ?o10 ?q10
 case o10=>simp[a4];rfl
 refine BO ⟨220,[(0,.rs 0 0 n),(1,.I a),(2,.I m),(3,.I b),(4,.fn (.func f) [] capt),(18,.I mid),(20,.I i),(24,.I e)],[(0,some ⟨7,Z1,0⟩)],1000⟩ ?_ ?_
 .refine arc ⟨220,[(0,.rs 0 0 n),(1,.I a),(2,.I m),(3,.I b),(4,.fn (.func f) [] capt),(18,.I mid),(20,.I i),(24,.I e),(185,.B (decide (i<m/\m<e)))],[(0,some ⟨7,Z,0⟩)],700⟩ ?_ ?_
  .by_cases c1:i<m
   .simp [c1]
    exact Le.keep rfl zz zz zz
   .simp [c1]
    exact Le.keep rfl zz zz zz
  refine AD _ rfl (λ h5=>?_) λ h5=>AE ?_
  .simp only[Qb] at h5
   refine AU rfl ?_;simp;refine BX (i:=0) rfl (e':=⟨7,Z,0⟩) (by simp[h6]) (hj h5.1 h5.2) zz (by simp[u,h0,h1]) ?_
   simp[hb];exact Le.keep rfl zz zz zz
  .simp only[Qd] at h5
   exact Le.keep rfl zz zz (by simp[h8 h5])
 refine BO ⟨220,[(0,.rs 0 0 n),(1,.I a),(2,.I m),(3,.I b),(4,.fn (.func f) [] capt),(18,.I mid),(20,.I i),(24,.I e)],[(0,some ⟨7,Z2,0⟩)],2000⟩ ?_ ?_
 .refine arc ⟨220,[(0,.rs 0 0 n),(1,.I a),(2,.I m),(3,.I b),(4,.fn (.func f) [] capt),(18,.I mid),(20,.I i),(24,.I e),(199,.B (decide (a<i/\i<mid)))],[(0,some ⟨7,Z1,0⟩)],1500⟩ ?_ ?_
  .by_cases c1:a<i
   .simp [c1]
    exact Le.keep rfl zz zz zz
   .simp [c1]
    exact Le.keep rfl zz zz zz
  refine AD _ rfl (λ h5=>?_) λ h5=>AE ?_
  .simp only[Qb] at h5
   refine AU rfl ?_;simp;refine BX (i:=0) rfl (e':=⟨7,Z1,0⟩) (by simp[hb]) (hx h5.1 h5.2) zz (by simp[u,h0,h1]) ?_
   simp[hf];exact Le.keep rfl zz zz zz
  .simp only[Qd] at h5
   exact Le.keep rfl zz zz (by simp[hk h5])
 refine arc ⟨220,[(0,.rs 0 0 n),(3,.I b),(4,.fn (.func f) [] capt),(18,.I mid),(24,.I e),(213,.B (decide (mid<e/\e<b)))],[(0,some ⟨7,Z2,0⟩)],2500⟩ ?_ ?_
 .by_cases c1:mid<e
  .simp [c1]
   exact Le.keep rfl zz zz zz
  .simp [c1]
   exact Le.keep rfl zz zz zz
 refine AD _ rfl (λ h5=>?_) λ h5=>AE ?_
 .simp only[Qb] at h5
  refine AU rfl ?_;simp;refine BX (i:=0) rfl (e':=⟨7,Z2,0⟩) (by simp[hf]) (hy h5.1 h5.2) zz (by simp[u,h0,h1]) ?_
  simp[h7];exact Io h7 rfl
 .simp only[Qd] at h5
  rw[hm h5];exact⟨.inl rfl,Io h7 rfl⟩
theorem So (f:FuncId) (capt:List AV) (hs:Gc capt) (hc:∀ x y,AK f (eV x::eV y::capt) [] (.I (A5 x y)) []):∀ (k:Nat) (A S T B:List Ac) (n a m b:Nat),S.length+T.length=k->(A++(S++(T++B))).length=n->A.length=a->a+S.length=m->m+T.length=b ->
  0<S.length->0<T.length->n<=1000000->A6 S->A6 T -> ∃ R:List Ac,R.Perm (S++T)/\A6 R /\
  AK 296 [.rs 0 0 n,.I a,.I m,.I b,.fn (.func f) [] capt] [⟨7,AP (A++(S++(T++B))),0⟩] (.tup []) [some ⟨7,AP (A++(R++B)),0⟩]:=by
 intro k
 induction k using Nat.strongRecOn with
 | ind k ih =>
 intro A S T B n a m b hk hn ha hm hb hz ht hl h8 h9
 by_cases a0:S.length=1
 .obtain ⟨x,rfl⟩:=List.length_eq_one_iff.1 a0
  obtain⟨q,hq,hf,hg⟩:=X5 (x:=x) h9;refine⟨T.take q++x::T.drop q,?_,hg,?_⟩
  .refine (List.perm_middle).trans ?_
   rw[QL];exact List.Perm.refl _
  .exact jU f capt hs hc A T B x n a m b q hn ha (by simpa using hm) hb ht hl hq hf
 by_cases a1:T.length=1
 .obtain ⟨x,rfl⟩:=List.length_eq_one_iff.1 a1
  obtain⟨q,hq,hf,hg⟩:=WT (x:=x) h8;refine⟨S.take q++x::S.drop q,?_,hg,?_⟩
  .refine (List.perm_middle).trans ?_
   rw[QL];exact(List.perm_append_singleton x S).symm
  .exact fW f capt hs hc A S B x n a m b q hn ha hm (by simpa using hb) zy hl hq hf
 obtain⟨mid,h7⟩:=AL ((a+b) / 2);obtain⟨lo,u⟩:∃ lo,lo=if mid<m then mid+m - b else a:=⟨_,rfl⟩
 obtain⟨hi,h0⟩:∃ hi,hi=if mid<m then mid else m:=⟨_,rfl⟩
 obtain⟨q,hq⟩:=dK (lo:=lo) (hi:=hi) h8 h9 hm hb hz ht h7 (by
  by_cases h:mid<m
  .rw [if_pos h] at u h0;exact .inl ⟨h,u,h0⟩
  .rw [if_neg h] at u h0;exact .inr ⟨zy,u,h0⟩)
 have au:b+B.length=n:=by simp only[Qe] at hn;omega
 have h4:a<=lo/\lo<=hi/\hi<=m/\hi<=mid/\mid+m<=b+lo:=by
  by_cases h:mid<m
  .rw [if_pos h] at u h0;omega
  .rw [if_neg h] at u h0;omega
 obtain⟨q1,q2,key,am,qm,qd,eb,below,above⟩:=hq;obtain⟨e,he⟩:=AL (mid+m - q);have h5:∀ s∈S.drop (q - a),∀ t∈T.take (mid - q),¬ Bi s t:=λ s h1 t h2=>LR (below s h1 t h2);obtain⟨sS1,sS2,sS3⟩:=Lc (a:=S.take (q - a)) (b:=S.drop (q - a)) (by rw[QL];exact h8)
 obtain⟨sT1,sT2,sT3⟩:=Lc (a:=T.take (mid - q)) (b:=T.drop (mid - q)) (by rw[QL];exact h9)
 have lS1:a+(S.take (q - a)).length=q:=by rw[QB];omega
 have lT1:q+(T.take (mid - q)).length=mid:=by rw[QB];omega
 have lS2:mid+(S.drop (q - a)).length=e:=by rw[QV];omega
 have lT2:e+(T.drop (mid - q)).length=b:=by rw[QV];omega
 have a2:S++T=S.take (q - a)++S.drop (q - a)++(T.take (mid - q)++T.drop (mid - q)):=by rw[QL,QL]
 have hj:A++(S++(T++B))=A++S.take (q - a)++(S.drop (q - a)++(T.take (mid - q)++(T.drop (mid - q)++B))):=by
  rw[Qq A,<- Qq (S.take (q - a)),QL,<- Qq (T.take (mid - q)),QL]
 have av:a<mid/\mid<b:=zy
 have hu:=bW f capt hs (A++S.take (q - a)) (S.drop (q - a)) (T.take (mid - q)) (T.drop (mid - q)++B) n q m e (by rw[<- hj];exact hn) (by rw[Qe];omega) (by rw[QV];omega) zy
 generalize ag:S.take (q - a)=S1 at *;generalize ai:S.drop (q - a)=S2 at *;generalize an:T.take (mid - q)=T1 at *;generalize aq:T.drop (mid - q)=T2 at *;have a3:∀ c,(h1:a<=c)->(h2:c<m)->(AP (A++(S++(T++B))))[c]? = some (vC (S[c - a]' zy)):=λ c h1 h2=>Kz (A:=A) (S:=S) (R:=T++B) (k:=c - a) zy zy
 have hgt:∀ c,(h1:m<=c)->(h2:c<b)->(AP (A++(S++(T++B))))[c]? = some (vC (T[c - m]' zy)):=λ c h1 h2=>Mx (A:=A) (S:=S) (T:=T) (R:=B) (k:=c - m) zy zy
 obtain⟨R1,ho,a4,a5,a6⟩:∃ R1:List Ac,R1.Perm (S1++T1)/\A6 R1/\(a<q/\q<mid->AK 296 [.rs 0 0 n,.I a,.I q,.I mid,.fn (.func f) [] capt] [⟨7,AP (A++(S1++(T1++(S2++(T2++B))))),0⟩] (.tup []) [some ⟨7,AP (A++(R1++(S2++(T2++B)))),0⟩])/\(¬ (a<q/\q<mid)->R1=S1++T1):=by
  by_cases h:a<q/\q<mid
  .obtain ⟨R,h1,h2,h3⟩:=ih (S1.length+T1.length) zy A S1 T1 (S2++(T2++B)) n a q mid rfl (by simp only[Qe];omega) ha lS1 lT1 zy zy hl sS1 sT1
   exact⟨R,h1,h2,λ _=>h3,λ hh=>absurd h hh⟩
  .refine ⟨S1++T1,List.Perm.refl _,Ty sS1 sT1 ?_,λ hh=>absurd hh h,λ _=>rfl⟩
   by_cases h2:a<q
   .exact .inr (Qy zy)
   .exact .inl (Qy zy)
 have lR1:R1.length+a=mid:=by rw[ho.length_eq,Qe];omega
 obtain⟨R2,hv,a7,a8,a9⟩:∃ R2:List Ac,R2.Perm (S2++T2)/\A6 R2/\(mid<e/\e<b->AK 296 [.rs 0 0 n,.I mid,.I e,.I b,.fn (.func f) [] capt] [⟨7,AP (A++(R1++(S2++(T2++B)))),0⟩] (.tup []) [some ⟨7,AP (A++(R1++R2++B)),0⟩])/\(¬ (mid<e/\e<b)->R2=S2++T2):=by
  by_cases h:mid<e/\e<b
  .obtain ⟨R,h1,h2,h3⟩:=ih (S2.length+T2.length) zy (A++R1) S2 T2 B n mid e b rfl (by simp only[Qe];omega) (by rw[Qe];omega) lS2 lT2 zy zy hl sS2 sT2
   refine⟨R,h1,h2,λ _=>?_,λ hh=>absurd h hh⟩;rw[Qq A,Qq A] at h3;rw[Qq R1];exact h3
  .refine ⟨S2++T2,List.Perm.refl _,Ty sS2 sT2 ?_,λ hh=>absurd hh h,λ _=>rfl⟩
   by_cases h2:mid<e
   .exact .inr (Qy zy)
   .exact .inl (Qy zy)
 refine⟨R1++R2,?_,jO ho hv (λ x hx y hy=>?_) a4 a7,?_⟩
 .rw [a2]
  refine(ho.append hv).trans ?_;simp only[Qq];refine List.Perm.append_left _ ?_;rw[<- Qq,<- Qq];exact List.Perm.append_right _ List.perm_append_comm
 .rcases Qn.1 hx with h | h<;>rcases Qn.1 hy with h' | h'
  .exact sS3 x h y h'
  .exact above x h y h'
  .exact h5 y h' x h
  .exact sT3 x h y h'
 refine Wt f capt hs hc n a m b mid (mid+m) lo hi q e _ (AP (A++(S1++(T1++(S2++(T2++B)))))) (AP (A++(R1++(S2++(T2++B))))) _ (CX _) (CX _) (CX _) (CX _)
  zy zy zy hl h7 rfl (λ h=>by rw[if_pos h] at u h0;omega) (λ h=>by rw[if_neg zy] at u h0;omega) q1 q2 zy h4.1 h4.2.2.1 h4.2.2.2.1 (λ c d h1 h2 h3=>?_) (λ h1 h2=>?_) (λ h=>?_) (λ h1 h2=>a5 ⟨h1,h2⟩) (λ h=>by rw[a6 h,Qq]) (λ h1 h2=>a8 ⟨h1,h2⟩) (λ h=>by rw[a9 h,Qq R1,Qq S2])
 .have hd:mid+m - 1 - c=d:=zy
  refine⟨zy,S[c - a]' zy,T[d - m]' zy,a3 c zy zy,hgt d zy zy,?_⟩
  rw[KG];have hw:=key c zy zy h1 h2
  simp only[hd] at hw;exact hw
 .have hr:=hu zy zy hl
  rw[<- hj,Qq A S1] at hr;exact hr
 .rw [hj,Qq A S1]
  by_cases h6:q<m
  .have:T1=[]:=Qy zy
   rw[this];rfl
  .have:S2=[]:=Qy zy
   rw[this];rfl
variable {r:List (List Ac)} {w:Nat}
def BW (w:Nat):List (List Ac)->Prop
 | []=>True
 | s::r=>A6 s/\0<s.length/\s.length<=w/\(r≠[]->s.length=w)/\BW w r
theorem BW.two (h:BW w r) (hl:2*w<=r.flatten.length) (hw:0<w):∃ s t r',r=s::t::r'/\s.length=w/\t.length=w/\A6 s/\A6 t/\BW w r':=by
 match r,h with
 | [],_=>simp at hl;omega
 | [s],h=>simp at hl;have:=h.2.2.1;omega
 | s::t::r',h =>
   obtain⟨h1,h2,h3,h4,h5,h6,h7,h8,h9⟩:=h;refine⟨s,t,r',rfl,h4 zz,?_,h1,h5,h9⟩
   by_cases hr:r'=[]
   .subst hr
    have:=h4 zz
    simp at hl;omega
   .exact h8 hr
theorem BW.tail (h:BW w r) (hl:r.flatten.length<2*w):(∃ s t,r=[s,t]/\s.length=w/\0<t.length/\A6 s/\A6 t)∨(r.flatten.length<=w/\A6 r.flatten):=by
 match r,h with
 | [],_=>exact .inr ⟨zz,by simp[A6]⟩
 | [s],h=>exact .inr ⟨by simpa using h.2.2.1,by simpa using h.1⟩
 | s::t::r',h =>
   obtain⟨h1,h2,h3,h4,h5,h6,h7,h8,h9⟩:=h;have q:=h4 zz
   by_cases hr:r'=[]
   .subst hr
    exact .inl ⟨s,t,rfl,q,h6,h1,h5⟩
   .have:=h8 hr
    simp at hl;omega
theorem BW.one (h:BW w r) (hl:r.flatten.length<=w) (hw:0<w):A6 r.flatten:=by
 rcases h.tail zy with ⟨s,t,rfl,h1,h2,_⟩ | ⟨_,h⟩
 .simp at hl;omega
 .exact h
theorem BW.mk {w:Nat} (hw:0<w) {t:List Ac} (ht:A6 t) (hl:t.length<=w):∀ d:List (List Ac),(∀ s∈d,A6 s/\s.length=w) -> ∃ r,BW w r/\r.flatten=d.flatten++t/\(d≠[]∨t≠[]->r≠[])
 | [],_=>by
   by_cases h:t=[]
   .exact ⟨[],trivial,by simp[h],by simp[h]⟩
   .exact ⟨[t],⟨ht,Us.2 h,hl,λ h=>absurd rfl h,trivial⟩,zz,zz⟩
 | s::d,h=>by
   obtain⟨r,h1,h2,h3⟩:=BW.mk hw ht hl d λ x hx=>h x (Qo _ hx);have hs:=h s Qp;exact⟨s::r,⟨hs.1,zy,zy,λ _=>hs.2,h1⟩,by simp[h2],zz⟩
theorem Ks (M:List Ac):(DN A5 M).Perm M:=(List.reverse_perm _).trans (MH A5 M)
theorem jL (f:FuncId) (capt:List AV) (hs:Gc capt) (hc:∀ x y,AK f (eV x::eV y::capt) [] (.I (A5 x y)) []) (l:List Ac) (n:Nat) (hn:l.length=n) (hl:n<=1000000):∃ R:List Ac,(R.Perm l/\A6 R) /\
  AK 268 [.rs 0 0 n,.I n,.fn (.func f) [] capt] [⟨7,AP l,0⟩] (.tup []) [some ⟨7,AP R,0⟩]:=by
 have h3:∀ ρ sn h,capt.map (conv ρ sn h 2)=capt:=λ _ _ _=>hs _ _ _ 1
 have h5:∀ ρ sn h,capt.map (conv ρ sn h 3)=capt:=λ _ _ _=>hs _ _ _ 2
 have h6:∀ ρ sn h,capt.map (conv ρ sn h 4)=capt:=λ _ _ _=>hs _ _ _ 3
 refine Tr.s.acallsX (λ _=>.tup []) (λ R=>[some ⟨7,AP R,0⟩]) (λ R=>R.Perm l/\A6 R) (AW rfl) (AW rfl) (λ _=>Qg _) ?_;show AQ _ 1 _ _ ⟨63,[(0,.rs 0 0 n),(1,.I n),(2,.fn (.func f) [] capt)],[(0,some ⟨7,AP l,0⟩)],16⟩;refine rk (s:=?s1) [0,1,2,6] [0] rfl ?o1 ?q1
 case o1=>simp;rfl
 refine rk (s:=?s2) [0,1,2,6,7,8] [0] rfl ?o2 ?q2
 case o2=>simp;rfl
 refine AC (AI ?_)
 refine Ag (ι:=(List (List Ac) × List Ac) × (Nat × Nat)) (λ p=>⟨63,[(0,.rs 0 0 n),(1,.I n),(2,.fn (.func f) [] capt),(6,.I 20),(7,.I p.2.1),(8,.I p.2.2)],[(0,some ⟨7,AP (p.1.1.flatten++p.1.2),0⟩)],500⟩)
  (λ p=>(p.1.1.flatten++p.1.2).Perm l/\p.1.1.flatten.length=p.2.1/\p.2.1+p.1.2.length=n/\p.2.2=p.2.1+20 /\ ∀ s∈p.1.1,A6 s/\s.length=20) (λ p=>n - p.2.1) (([],l),(0,20)) ⟨zz,zz,by simpa using hn,zz,zz⟩ (Le.keep rfl zz zz zz) ?_
 rintro⟨⟨d,r⟩,a,b⟩ ⟨i1,i2,i3,i4,i5⟩
 simp only at i1 i2 i3 i4 i5;have h1:=CX (d.flatten++r);obtain⟨Z,hZ⟩:=AL (AP (d.flatten++r));simp only;rw[<- hZ] at h1 ⊢;refine AC (rk (s:=?s3) [0,1,2,6,7,8,13] [0] rfl ?o3 ?q3)
 case o3=>simp;rfl
 refine AD _ rfl (λ h4=>AE ?_) λ h4=>Aa (Ab ?_)
 .simp only[Qb,Int.ofNat_le] at h4
  have a1:r=r.take 20++r.drop 20:=(QL 20 r).symm;have a2:(r.take 20).length=20:=by rw[QB];omega
  have ag:(r.drop 20).length=r.length - 20:=by rw[QV]
  generalize r.take 20=M at *;generalize r.drop 20=B at *;subst a1;have q:=Ox f capt A5 d.flatten M B n a b (by simp only[Qe] at i3 ⊢;omega) i2 zy hl hs λ x _ y _=>hc x y
  rw[Qq,<- hZ] at q;have u:=CX (d.flatten++DN A5 M++B);obtain⟨Z2,h0⟩:=AL (AP (d.flatten++DN A5 M++B));rw[<- h0] at u q;refine AI (BO ⟨63,[(0,.rs 0 0 n),(1,.I n),(2,.fn (.func f) [] capt),(6,.I 20),(8,.I b)],[(0,some ⟨7,Z2,0⟩)],1000⟩ ?_ ?_)
  .refine AU rfl ?_
   simp;refine BX (i:=0) rfl (e':=⟨7,Z,0⟩) (by simp[h1]) q zz (by simp[h3,h5,h6]) ?_
   simp[u];exact Le.keep rfl zz zz zz
  refine rk (s:=?s5) [0,1,2,6,7,8] [0] rfl ?o5 ?q5
  case o5=>simp;rfl
  obtain⟨b2,hh⟩:=AL (b+20);have hi:IntKind.i64.wrap ((b:Int)+20)=(b2:Int):=by rw[w6];omega
  refine AU rfl ?_;simp[hi];have hw:(DN A5 M).Perm M:=Ks M;have a3:(DN A5 M).length=20:=by rw[hw.length_eq];exact a2
  refine⟨d++[DN A5 M],B,b,b2,⟨?_,?_,?_,hh,?_⟩,zy,Le.N1 u rfl zz (by simp[h0]) rfl (by simp[h3,h5,h6])⟩
  .refine List.Perm.trans ?_ i1
   rw[List.flatten_append,List.flatten_singleton,Qq];exact List.Perm.append_left _ (List.Perm.append_right _ hw)
  .rw [<- List.length_flatten,List.flatten_append,List.flatten_singleton,Qe];omega
  .simp only[Qe] at i3;omega
  .intro s hs'
   rcases Qn.1 hs' with hs' | hs'
   .exact i5 s hs'
   .obtain rfl:=Qw.1 hs'
    exact⟨I5 M,a3⟩
 simp only[Qd,Int.ofNat_le] at h4;have q:=Ox f capt A5 d.flatten r [] n a n (by rw[QK,Qe];omega) i2 i3 hl hs λ x _ y _=>hc x y
 rw[QK,QK,<- hZ] at q;have hj:(DN A5 r).Perm r:=Ks r;obtain⟨Bs,ha,hk,_⟩:=BW.mk (w:=20) zx (I5 r) (by rw[hj.length_eq];omega) d i5
 rw[<- hk] at q;have h9:Bs.flatten.Perm l:=by rw[hk];exact(List.Perm.append_left _ hj).trans i1
 refine BO ⟨63,[(0,.rs 0 0 n),(1,.I n),(2,.fn (.func f) [] capt),(6,.I 20)],[(0,some ⟨7,AP Bs.flatten,0⟩)],1000⟩ ?_ ?_
 .have u:=CX Bs.flatten
  generalize AP Bs.flatten=Z2 at *;refine AU rfl ?_;simp;refine BX (i:=0) rfl (e':=⟨7,Z,0⟩) (by simp[h1]) q zz (by simp[h3,h5,h6]) ?_
  simp[u];exact Le.keep rfl zz zz zz
 clear q hZ h1 hk hj i1 i2 i3 i4 i5 h4
 refine AI ?_
 refine Ag (ι:=List (List Ac) × Nat) (λ p=>⟨63,[(0,.rs 0 0 n),(1,.I n),(2,.fn (.func f) [] capt),(6,.I p.2)],[(0,some ⟨7,AP p.1.flatten,0⟩)],1000⟩)
  (λ p=>BW p.2 p.1/\p.1.flatten.Perm l/\20<=p.2/\p.2<=4000000) (λ p=>n - p.2) (Bs,20) ⟨ha,h9,zz,zz⟩ (Le.refl _ _) ?_
 rintro⟨Bs,w⟩ ⟨ha,h9,a4,a5⟩
 simp only at ha h9 a4 a5;have h1:=CX Bs.flatten;obtain⟨Z,hZ⟩:=AL (AP Bs.flatten);simp only;rw[<- hZ] at h1 ⊢;refine AC (rk (s:=?s6) [0,1,2,6,30] [0] rfl ?o6 ?q6)
 case o6=>simp;rfl
 have a6:Bs.flatten.length=n:=by rw[h9.length_eq];exact hn
 refine AD _ rfl (λ h7=>AE ?_) λ h7=>Aa (Ab ?_)
 .simp only[Qb,Uq] at h7
  obtain⟨w2,a9⟩:=AL (2*w);have hx:IntKind.i64.wrap (2*(w:Int))=(w2:Int):=by rw[w6];omega
  refine AI (rk (s:=?s8) [0,1,2,6,7,8] [0] rfl ?o8 ?q8)
  case o8=>simp[hx];rfl
  refine AC (AI ?_)
  refine Ag (ι:=(List (List Ac) × List (List Ac)) × (Nat × Nat)) (λ p=>⟨63,[(0,.rs 0 0 n),(1,.I n),(2,.fn (.func f) [] capt),(6,.I w),(7,.I p.2.1),(8,.I p.2.2)],[(0,some ⟨7,AP (p.1.1.flatten++p.1.2.flatten),0⟩)],1500⟩)
   (λ p=>(p.1.1.flatten++p.1.2.flatten).Perm l/\p.1.1.flatten.length=p.2.1/\p.2.1+p.1.2.flatten.length=n/\p.2.2=p.2.1+w2/\(∀ s∈p.1.1,A6 s/\s.length=w2)/\BW w p.1.2) (λ p=>n - p.2.1) (([],Bs),(0,w2)) ⟨by simpa using h9,zz,by simpa using a6,zz,zz,ha⟩ (Le.keep rfl zz zz (by simp[hZ])) ?_
  rintro⟨⟨d,r⟩,a,b⟩ ⟨i1,i2,i3,i4,i5,i6⟩
  simp only at i1 i2 i3 i4 i5 i6;have h1:=CX (d.flatten++r.flatten);obtain⟨Z,hZ⟩:=AL (AP (d.flatten++r.flatten));simp only;rw[<- hZ] at h1 ⊢;refine AC (rk (s:=?s9) [0,1,2,6,7,8,35] [0] rfl ?o9 ?q9)
  case o9=>simp;rfl
  refine AD _ rfl (λ ho=>AE ?_) λ ho=>Aa (Ab ?_)
  .simp only[Qb,Int.ofNat_le] at ho
   obtain⟨s,t,r',rfl,hy,hq,he,hf,a7⟩:=i6.two zy zy
   obtain⟨m,hm⟩:=AL (a+w);have hr:IntKind.i64.wrap ((a:Int)+(w:Int))=(m:Int):=by rw[w6];omega
   have ht:(s::t::r').flatten=s++(t++r'.flatten):=zz
   rw[ht] at hZ i1 i3;simp only[Qe] at i3;obtain⟨R,hb,hu,h2⟩:=So f capt hs hc _ d.flatten s t r'.flatten n a m b rfl (by simp only[Qe];omega) i2 zy zy zy zy hl he hf
   rw[<- hZ] at h2;have u:=CX (d.flatten++(R++r'.flatten));obtain⟨Z2,h0⟩:=AL (AP (d.flatten++(R++r'.flatten)));rw[<- h0] at u h2;refine AI (BO ⟨63,[(0,.rs 0 0 n),(1,.I n),(2,.fn (.func f) [] capt),(6,.I w),(8,.I b)],[(0,some ⟨7,Z2,0⟩)],2000⟩ ?_ ?_)
   .refine AU rfl ?_
    simp[hr];refine BX (i:=0) rfl (e':=⟨7,Z,0⟩) (by simp[h1]) h2 zz (by simp[h3,h5,h6]) ?_
    simp[u];exact Le.keep rfl zz zz zz
   refine rk (s:=?s11) [0,1,2,6,7,8] [0] rfl ?o11 ?q11
   case o11=>simp;rfl
   obtain⟨b2,hh⟩:=AL (b+w2);have hi:IntKind.i64.wrap ((b:Int)+(w2:Int))=(b2:Int):=by rw[w6];omega
   have hv:R.length=w2:=by rw[hb.length_eq,Qe];omega
   refine AU rfl ?_;simp[hx,hi];refine⟨d++[R],r',b,b2,⟨?_,?_,?_,hh,?_,a7⟩,zy,Le.N1 u rfl zz (by simp[h0]) rfl (by simp[h3,h5,h6])⟩
   .refine List.Perm.trans ?_ i1
    rw[List.flatten_append,List.flatten_singleton,Qq,<- Qq s];exact List.Perm.append_left _ (List.Perm.append_right _ hb)
   .rw [<- List.length_flatten,List.flatten_append,List.flatten_singleton,Qe];omega
   .rw [<- List.length_flatten];omega
   .intro s hs'
    rcases Qn.1 hs' with hs' | hs'
    .exact i5 s hs'
    .obtain rfl:=Qw.1 hs'
     exact⟨hu,hv⟩
  simp only[Qd,Int.ofNat_le] at ho;obtain⟨m,hm⟩:=AL (a+w);have hr:IntKind.i64.wrap ((a:Int)+(w:Int))=(m:Int):=by rw[w6];omega
  refine Bn (ι:=List (List Ac)) (λ Bs=>⟨63,[(0,.rs 0 0 n),(1,.I n),(2,.fn (.func f) [] capt),(6,.I w)],[(0,some ⟨7,AP Bs.flatten,0⟩)],3000⟩) (λ Bs=>BW w2 Bs/\Bs.flatten.Perm l) ?_ ?_
  .refine rk (s:=?s12) [0,1,2,6,7,9] [0] rfl ?o12 ?q12
   case o12=>simp[hr];rfl
   refine rk (s:=?s13) [0,1,2,6,7,9,54] [0] rfl ?o13 ?q13
   case o13=>simp;rfl
   refine AD _ rfl (λ hg=>?_) λ hg=>AE ?_
   .simp only[Qb,Uq] at hg
    rcases i6.tail zy with ⟨s,t,rfl,hy,hq,he,hf⟩ | ⟨hz,_⟩
    .have ht:[s,t].flatten=s++(t++[]):=zz
     rw[ht] at hZ i1 i3;simp only[Qe,U7] at i3;obtain⟨R,hb,hu,h2⟩:=So f capt hs hc _ d.flatten s t [] n a m n rfl (by simp only[Qe,U7];omega) i2 zy zy zy hq hl he hf
     rw[<- hZ,QK] at h2;have hv:R.length<=w2:=by rw[hb.length_eq,Qe];omega
     obtain⟨Bs2,hd,h8,_⟩:=BW.mk (w:=w2) zy hu hv d i5
     rw[<- h8] at h2;have u:=CX Bs2.flatten;obtain⟨Z2,h0⟩:=AL (AP Bs2.flatten);rw[<- h0] at u h2;refine AU rfl ?_;simp;refine BX (i:=0) rfl (e':=⟨7,Z,0⟩) (by simp[h1]) h2 zz (by simp[h3,h5,h6]) ?_
     simp[u];refine⟨Bs2,⟨hd,?_⟩,Le.keep rfl zz zz (by simp[h0])⟩
     rw[h8];refine List.Perm.trans ?_ i1;rw[QK];exact List.Perm.append_left _ hb
    .exact absurd hg zy
   .simp only[Qd,Uq] at hg
    have a8:A6 r.flatten:=by
     rcases i6.tail zy with ⟨s,t,rfl,hy,hq,he,hf⟩ | ⟨_,hz⟩
     .simp only[List.flatten_cons,Qe] at i3
      omega
     .exact hz
    obtain⟨Bs2,hd,h8,_⟩:=BW.mk (w:=w2) zy a8 zy d i5
    exact⟨Bs2,⟨hd,by rw[h8];exact i1⟩,Le.keep rfl zz zz (by simp[hZ,h8])⟩
  .rintro Bs2 ⟨hd,h8⟩
   have u:=CX Bs2.flatten;obtain⟨Z2,h0⟩:=AL (AP Bs2.flatten);rw[<- h0] at u ⊢;have a0:IntKind.i64.wrap ((w:Int)*2)=(w2:Int):=by rw[w6];omega
   refine AU rfl ?_;simp[a0];exact⟨Bs2,w2,⟨hd,h8,zy,zy⟩,zy,Le.N1 u rfl zz (by simp[h0]) rfl (by simp[h3,h5,h6])⟩
 simp only[Qd,Uq] at h7;exact Af.mk (.inl rfl) Bs.flatten ⟨h9,ha.one zy zy⟩ (Io (CX _) (by simp[hZ]))
theorem Vj (f:FuncId) (capt:List AV) (hs:Gc capt) (hc:∀ x y,AK f (eV x::eV y::capt) [] (.I (A5 x y)) []) (l:List Ac) (n:Nat) (hn:l.length=n) (hl:n<=1000000):∃ R:List Ac,(R.Perm l/\A6 R) /\
  AK 196 [.rs 0 0 n,.fn (.func f) [] capt] [⟨7,AP l,0⟩] (.tup []) [some ⟨7,AP R,0⟩]:=by
 have u:∀ ρ sn h,capt.map (conv ρ sn h 2)=capt:=λ _ _ _=>hs _ _ _ 1
 have h0:∀ ρ sn h,capt.map (conv ρ sn h 3)=capt:=λ _ _ _=>hs _ _ _ 2
 have h1:∀ ρ sn h,capt.map (conv ρ sn h 4)=capt:=λ _ _ _=>hs _ _ _ 3
 obtain⟨R,hR,h2⟩:=jL f capt hs hc l n hn hl;refine⟨R,hR,?_⟩;refine Pd.s.acalls (AW rfl) (AW rfl) (AW rfl) ?_;have h3:=CX l;have q:=CX R;generalize AP l=Z at *;generalize AP R=Z2 at *;show AQ _ 1 _ _ ⟨9,[(0,.rs 0 0 n),(1,.fn (.func f) [] capt)],[(0,some ⟨7,Z,0⟩)],16⟩;refine AU rfl ?_;simp;refine BX (i:=0) rfl (e':=⟨7,Z,0⟩) (by simp[h3]) h2 zz (by simp[u,h0,h1]) ?_
 simp[q];exact⟨_,rfl,[],[],zz,zz,zz,.refl _,by simp[q,List.range,List.range.loop]⟩
theorem NL:∀ {a b:List Ac},(∀ x∈a,∀ y∈a,¬ Bi x y->¬ Bi y x->x=y)->a.Perm b->A6 a->A6 b->a=b
 | [],b,_,h,_,_=>(List.nil_perm.1 h).symm
 | x::a,[],_,h,_,_=>absurd h.length_eq zz
 | x::a,y::b,ht,h,ha,hb=>by
   unfold A6 at ha hb;rw[QY] at ha hb
   have q:x=y:=by
    have h1:x∈y::b:=h.mem_iff.1 Qp;have h2:y∈x::a:=h.mem_iff.2 Qp;rcases Qv.1 h1 with h1 | h1
    .exact h1
    rcases Qv.1 h2 with h2 | h2
    .exact h2.symm
    exact ht x Qp y (Qo _ h2) (hb.1 x h1) (ha.1 y h2)
   subst q;rw[NL (λ u hu v hv=>ht u (Qo _ hu) v (Qo _ hv)) ((List.perm_cons x).1 h) ha.2 hb.2]
theorem CQ.tot {l:List AJ} (h:CQ l) {x y:Ac} (hx:x∈BH l l) (hy:y∈BH l l) (h1:¬ Bi x y) (h2:¬ Bi y x):x=y:=by
 obtain⟨s,hs,_,rfl⟩:=IL hx;obtain⟨t,ht,_,rfl⟩:=IL hy
 have q:s.au=t.au/\s.nu=t.nu:=by
  simp only[Bi,FC] at h1 h2;omega
 obtain⟨i,hi,rfl⟩:=Qr.1 hs;obtain⟨j,hj,rfl⟩:=Qr.1 ht;have ho:=QD.1 h.ord;rcases Nat.lt_trichotomy i j with hij | rfl | hij
 .have:=ho i j hi hj hij
  unfold Fv at this;omega
 .rfl
 .have:=ho j i hj hi hij
  unfold Fv at this;omega
theorem CQ.sort {l:List AJ} (h:CQ l) (hl:l.length<=100000):IR l:=by
 obtain⟨R,⟨q,u⟩,h0⟩:=Vj 197 [] (λ ρ sn h n=>rfl) (λ x y=>Pq x y) (BH l l) _ rfl (QI (L3 l l) zy)
 have hp:=Ks (BH l l);have e:R=DB l:=NL (λ x hx y hy=>h.tot (q.mem_iff.1 hx) (q.mem_iff.1 hy)) (q.trans hp.symm) u (I5 _);unfold IR;rw[<- e];exact h0
variable {l:List AJ}
def er (v:Ac):Ac:={ v with re:=0 }
def CL (g:List Int) (t:Int):List Ac->List Ac
 | []=>[]
 | v::r=>if decide (EZ v g t) && r.all λ w=>!decide (Dg v t w) then v::CL g t r else CL g t r
theorem Rp (V:List Ac) (g:List Int) (t:Int):∀ i,i<=V.length->CO V g t i++CL g t (V.drop i)=CL g t V
 | 0,_=>rfl
 | i+1,h=>by
   have ih:=Rp V g t i zy
   have hd:V.drop i=V[i]' zy::V.drop (i+1):=QX zy
   rw[hd] at ih;rw[<- ih];have hg:V[i]? = some (V[i]' zy):=Qa zy
   simp only[CO,hg,CL];unfold Jn;split<;>simp
theorem LN (l:List AJ) (t:Int):Bt l t=CL (CH l t) t (DB l):=by
 have:=Rp (DB l) (CH l t) t (DB l).length (Qg _);rw[List.drop_length,CL,QK] at this;exact this
theorem JX {g:List Int} {t:Int} {v:Ac}:∀ {V:List Ac},v∈CL g t V->v∈V/\EZ v g t
 | [],h=>by simp[CL] at h
 | x::V,h=>by
   unfold CL at h;split at h
   .rename_i hc
    rw[QW,Qb] at hc;rcases Qv.1 h with rfl | h
    .exact ⟨Qp,hc.1⟩
    .exact ⟨Qo _ (JX h).1,(JX h).2⟩
   .exact ⟨Qo _ (JX h).1,(JX h).2⟩
theorem Me {g:List Int} {t:Int}:∀ V:List Ac,(CL g t V).Pairwise λ a b=>¬ (a.fr=b.fr/\a.to=b.to)
 | []=>List.Pairwise.nil
 | x::V=>by
   unfold CL;split
   .rename_i hc
    rw[QW,UL] at hc;rw[QY];refine⟨λ b hb he=>?_,Me V⟩;have q:=JX hb;have:=hc.2 b q.1;simp only[U0,Qd] at this;exact this ⟨he.1.symm,he.2.symm,q.2.1⟩
   .exact Me V
theorem Pk (g:List Int) (t:Int):∀ V:List Ac,CL g t (V.filter λ v=>decide (v.ti<=t))=CL g t V
 | []=>rfl
 | x::V=>by
   have ih:=Pk g t V
   by_cases hx:x.ti<=t
   .rw [List.filter_cons_of_pos (by simpa using hx)]
    have ha:((V.filter λ v=>decide (v.ti<=t)).all λ w=>!decide (Dg x t w))=V.all λ w=>!decide (Dg x t w):=by
     rw[Qk,UL,UL];constructor
     .intro h w hw
      by_cases hl:Dg x t w
      .exact h w (QA.2 ⟨hw,by simpa using hl.2.2⟩)
      .simp [hl]
     .intro h w hw
      exact h w (QA.1 hw).1
    unfold CL;rw[ha,ih]
   .rw [List.filter_cons_of_neg (by simpa using hx),ih]
    have:¬ EZ x g t:=λ h=>hx h.1;simp[CL,this]
theorem LI {a b:Ac} (h:er a=er b):a.fr=b.fr/\a.to=b.to/\a.nu=b.nu/\a.ti=b.ti/\a.en=b.en:=by
 unfold er at h;have:=Ac.mk.inj h;exact⟨this.1,this.2.1,this.2.2.2.1,this.2.2.2.2.1,this.2.2.2.2.2.1⟩
theorem Tg {g:List Int} {t:Int}:∀ {U W:List Ac},U.map er=W.map er->(∀ a∈U,∀ b∈W,er a=er b->(EZ a g t↔EZ b g t))->(CL g t U).map er=(CL g t W).map er
 | [],[],_,_=>rfl
 | [],_::_,h,_=>by simp at h
 | _::_,[],h,_=>by simp at h
 | a::U,b::W,h,hh=>by
   rw[List.map_cons,List.map_cons,List.cons.injEq] at h;have ih:=Tg (g:=g) (t:=t) h.2 λ x hx y hy=>hh x (Qo _ hx) y (Qo _ hy);have h1:=hh a Qp b Qp h.1;have he:=LI h.1
   have q:∀ (U W:List Ac),U.map er=W.map er->(U.all λ w=>!decide (Dg a t w))=W.all λ w=>!decide (Dg b t w):=by
    intro U
    induction U with
    | nil=>intro W hW;cases W with
      | nil=>rfl
      | cons _ _=>simp at hW
    | cons u U ihU=>intro W hW;cases W with
      | nil=>simp at hW
      | cons w W =>
        rw[List.map_cons,List.map_cons,List.cons.injEq] at hW;rw[List.all_cons,List.all_cons,ihU W hW.2];have hu:=LI hW.1;have:Dg a t u↔Dg b t w:=by unfold Dg;omega
        simp[this]
   unfold CL;rw[q U W h.2,show decide (EZ a g t)=decide (EZ b g t) from UZ.2 h1]
   split
   .rw [List.map_cons,List.map_cons,h.1,ih]
   .exact ih
def Dv (l:List AJ) (t:Int):List AJ:=l.filter λ s=>decide (s.ti<=t)
theorem CQ.early (h:CQ l) (t:Int):CQ (Dv l t):=⟨h.ord.filter _,λ s hs=>h.rng s (QA.1 hs).1⟩
theorem RQ (l:List AJ) (t:Int):CH (Dv l t) t=CH l t:=by
 unfold CH Dv;rw[List.filter_filter]
 congr 1
 refine List.filter_congr λ s _=>?_
 by_cases h:G1 t s
 .simp [h,h.2]
 .simp [h]
theorem Te {l:List Ac} (h:A6 l):A6 (l.map er):=by
 unfold A6 at *;rw[Uw];exact h
theorem X7 (h:CQ l) (t:Int):(DB (Dv l t)).map er=((DB l).filter λ v=>decide (v.ti<=t)).map er:=by
 have q:=Ks (BH (Dv l t) (Dv l t));have h3:=Ks (BH l l)
 have heq:((BH l l).filter λ v=>decide (v.ti<=t)).map er=(BH (Dv l t) (Dv l t)).map er:=by
  unfold BH Dv;rw[List.filter_map,Un,Un,List.filter_filter,List.filter_filter]
  have:(λ s:AJ=>decide (s.ki=1) && decide (s.ti<=t))=λ a=>((λ v:Ac=>decide (v.ti<=t))∘FC l) a && decide (a.ki=1):=by
   funext s
   show _=(decide (s.ti<=t) && decide (s.ki=1));rw[Bool.and_comm]
  rw[<- this];rfl
 have h0:((DB l).filter λ v=>decide (v.ti<=t)).Perm ((BH l l).filter λ v=>decide (v.ti<=t)):=h3.filter _
 have u:((DB (Dv l t)).map er).Perm (((DB l).filter λ v=>decide (v.ti<=t)).map er):=by
  refine(q.map er).trans ?_;rw[<- heq];exact(h0.map er).symm
 refine NL (λ x hx y hy h1 h2=>?_) u (Te (I5 _)) (Te ((I5 _).filter _));obtain⟨a,ha,rfl⟩:=Qm.1 ((q.map er).mem_iff.1 hx);obtain⟨b,hb,rfl⟩:=Qm.1 ((q.map er).mem_iff.1 hy);rw[(h.early t).tot ha hb h1 h2]
theorem fC (h:CQ l) (t:Int) (s:AJ):(Dk l s<0∨t<Dk l s)↔(Dk (Dv l t) s<0∨t<Dk (Dv l t) s):=by
 have key:∀ m:List AJ,CQ m->((Dk m s<0∨t<Dk m s) ↔ ∀ x∈m,EC s x->t<x.ti):=by
  intro m
  induction m with
  | nil=>intro _;simp[Dk]
  | cons x m ih =>
    intro hm;have q:CQ m:=⟨(QY.1 hm.ord).2,λ y hy=>hm.rng y (Qo _ hy)⟩
    by_cases hx:EC s x
    .have h1:Dk (x::m) s=x.ti:=by simp[Dk,U8,hx]
     have h0:=(hm.rng x Qp).2.2.1;rw[h1];constructor
     .intro h2 y hy hr
      have h3:t<x.ti:=zy
      rcases Qv.1 hy with rfl | hy
      .exact h3
      .have:=(QY.1 hm.ord).1 y hy
       rcases this with h4 | h4
       .exact absurd (hx.1.trans hr.1.symm) zy
       .omega
     .intro h2
      exact .inr (h2 x Qp hx)
    .have h1:Dk (x::m) s=Dk m s:=by simp[Dk,U8,hx]
     rw[h1,ih q];constructor
     .intro h2 y hy hr
      rcases Qv.1 hy with rfl | hy
      .exact absurd hr hx
      .exact h2 y hy hr
     .intro h2 y hy hr
      exact h2 y (Qo _ hy) hr
 rw[key l h,key _ (h.early t)];constructor
 .intro h1 x hx
  exact h1 x (QA.1 hx).1
 .intro h1 x hx hr
  by_cases u:x.ti<=t
  .exact h1 x (QA.2 ⟨hx,by simpa using u⟩) hr
  .omega
theorem kE (h:CQ l) (t:Int):(Bt (Dv l t) t).map er=(Bt l t).map er:=by
 rw[LN,LN,RQ,<- Pk _ _ (DB l)];refine Tg (X7 h t) λ a ha b hb he=>?_;obtain⟨s,hs,_,rfl⟩:=IL (Ji.1 ha);obtain⟨u,hu,_,rfl⟩:=IL (Ji.1 (QA.1 hb).1);have h1:=LI he;have q:=(QA.1 hs).1
 have h0:s=u:=by
  obtain⟨i,hi,rfl⟩:=Qr.1 q;obtain⟨j,hj,rfl⟩:=Qr.1 hu;have ho:=QD.1 h.ord;simp only[FC] at h1;rcases Nat.lt_trichotomy i j with hij | rfl | hij
  .have:=ho i j hi hj hij
   unfold Fv at this;omega
  .rfl
  .have:=ho j i hj hi hij
   unfold Fv at this;omega
 subst h0;have hr:=fC h t s;unfold EZ;simp only[FC];rw[h.rev,(h.early t).rev];constructor
 .rintro ⟨a1,a2,a3,a4⟩;exact⟨a1,a2,hr.2 a3,a4⟩
 .rintro ⟨a1,a2,a3,a4⟩;exact⟨a1,a2,hr.1 a3,a4⟩
def Om (v:Ac):Ed:=⟨v.fr,v.to,v.lv⟩
def BS (V:List Ac) (lv:Int):List Ed:=(V.filter λ v=>decide (lv<=v.lv)).map Om
def Cy (l:List AJ) (t lv:Int):Gr:=⟨64,BS (Bt l t) lv,CH l t⟩
def Hp:Gr:=⟨0,[],[]⟩
def IE (l:List AJ) (t lv:Int):Gr × Int:=if 1<=lv/\lv<=3 then (if (BS (Bt l t) lv).length<=500 then (Cy l t lv,0) else (Hp,3)) else (Hp,2)
theorem RG (V:List Ac) (lv:Int):(BS V lv).length<=V.length:=by
 unfold BS;rw[Qs];exact QO _ _
theorem Pc (l:List AJ) (t:Int):(Bt l t).length<=l.length:=by
 have h1:=NN (DB l) (CH l t) t (DB l).length;have h2:(DB l).length=(BH l l).length:=by unfold DB DN;rw[Q9,JW]
 have h3:=L3 l l;unfold Bt;omega
theorem S7 {l:List AJ} {t:Int} {v:Ac} (h:v∈Bt l t):EZ v (CH l t) t /\ ∃ s∈l,s.ki=1/\v=FC l s:=by
 rw[LN] at h;have h1:=JX h;exact⟨h1.2,IL (Ji.1 h1.1)⟩
theorem Ou {g:List Int} {t:Int}:∀ V:List Ac,(CL g t V).Sublist V
 | []=>List.Sublist.refl _
 | x::V=>by
   unfold CL;split
   .exact (Ou V).cons_cons x
   .exact (Ou V).cons x
theorem gY (l:List AJ) (t:Int):(Bt l t).Pairwise λ a b=>a.fr<b.fr∨(a.fr=b.fr/\a.to<b.to):=by
 rw[LN];have h1:=Me (g:=CH l t) (t:=t) (DB l);have h2:(CL (CH l t) t (DB l)).Pairwise λ a b=>¬ Bi b a:=(I5 (BH l l)).sublist (Ou _);refine(h1.and h2).imp λ {a b} h=>?_;obtain⟨h3,h4⟩:=h;unfold Bi at h4;omega
variable {l:List AJ} {x:AJ}
theorem N0 {α:Type}:∀ {c l:List α},c.Nodup->(∀ x∈c,x∈l)->l.length<=c.length->c.Perm l
 | [],l,_,_,h=>by rw[Qy (Nat.le_zero.1 h)]
 | a::c,l,hn,hs,h=>by
   classical
   rw[Ur] at hn;have h1:=List.perm_cons_erase (hs a Qp);have h2:l.length=(l.erase a).length+1:=by rw[h1.length_eq,QZ]
   have ih:=N0 (c:=c) (l:=l.erase a) hn.2 (λ y hy=>(List.mem_erase_of_ne (by rintro rfl;exact hn.1 hy)).2 (hs y (Qo _ hy))) (by simp at h;omega)
   exact(ih.cons a).trans h1.symm
theorem Cg.nodup {a:Int} {c:List AJ} (hc:Cg a c):c.Nodup:=by
 rw[List.Nodup,QD];intro i j hi hj hij he;have h1:=(hc.1 i hi).nu_;have h2:=(hc.1 j hj).nu_;rw[he] at h1;omega
theorem Ez.fine {a:Int} {i:Nat} {s:AJ} (h:Ez a i s):Df s:=⟨h.ok,h.sk_,h.sd_⟩
theorem ZS {me:Int} {l' c c':List AJ} (hc:Cg me c) (q:Cg me (c++[x])) (h7:∀ s∈c,s∈l) (hz:c.length=l.length) (hl:∀ s∈l',s∈l∨s=x) (ho:∀ s∈l,s∈l') (hq:x∈l') (a0:l'.length<=l.length+1) (hR:Gy me l' c'):c'=c∨c'=c++[x]:=by
 obtain⟨o,i,⟨a1,hr⟩,⟨ht,h8⟩,rfl,hi,h9⟩:=hR;have hu:∀ s∈l,s∈c:=λ s hs=>(N0 hc.nodup h7 zy).mem_iff.2 hs
 obtain⟨n,hn⟩:=AL (c.length);have ha:x.nu=(n:Int):=by have:=(q.1 c.length zz).nu_;simpa [hn] using this
 have hb:Ez me n x:=by have:=q.1 c.length zz;simpa [hn] using this
 have hd:∀ j:Nat,j<=n->(j:Int)∈o.map (·.nu):=λ j hj=>by
  rcases Nat.lt_or_eq_of_le hj with h | h
  .have h1:=hc.1 j zy
   obtain⟨y,hy,e⟩:=h8 c[j] (ho _ (h7 _ (Qi _))) h1.au_ h1.fine;exact Qm.2 ⟨y,hy,by rw[e,h1.nu_]⟩
  .subst h
   obtain⟨y,hy,e⟩:=h8 x hq hb.au_ hb.fine;exact Qm.2 ⟨y,hy,by rw[e,ha,hn]⟩
 have u:((List.range (n+1)).map λ j:Nat=>(j:Int)).Pairwise (· < ·):=by
  rw[Uw];exact List.pairwise_lt_range.imp λ h=>zy
 have h0:((List.range (n+1)).map λ j:Nat=>(j:Int)).Perm (o.map (·.nu)):=N0 (u.imp λ h=>zy) (λ y hy=>by
  obtain⟨j,hj,rfl⟩:=Qm.1 hy
  exact hd j (by have:=QS.1 hj;omega)) zu
 have hv:(o.map (·.nu)).Nodup:=h0.nodup_iff.1 (u.imp λ h=>zy)
 have hw:(o.map (·.nu)).Pairwise (· < ·):=by
  have h1:(o.map (·.nu)).Pairwise (· <= ·):=by rw[Uw];exact ht
  exact(h1.and hv).imp λ h=>zy
 have he:o.map (·.nu)=(List.range (n+1)).map λ j:Nat=>(j:Int):=Kn hw u λ y=>h0.symm.mem_iff
 have a2:o.length=n+1:=by have:=congrArg List.length he;simpa using this
 have h6:∀ j (h:j<o.length),o[j].nu=(j:Int):=λ j h=>by
  have h1:(o.map (·.nu))[j]'(by simpa using h)=((List.range (n+1)).map λ j:Nat=>(j:Int))[j]' zu:=by simp only[he]
  simpa using h1
 have hx:o=c++[x]:=by
  refine List.ext_getElem zu λ j h1 h2=>?_
  have h3:=h6 j h1;have hf:o[j]∈c∨o[j]=x:=(hl _ (hr _ (Qi h1)).1).imp (hu _) id;rcases hf with hm | hm
  .obtain ⟨m,hh,hk⟩:=Qr.1 hm
   have h4:=(hc.1 m hh).nu_;rw[hk,h3] at h4;obtain rfl:m=j:=zy
   rw[Q1 hh,hk]
  .rw [hm,ha] at h3
   obtain rfl:j=n:=zy
   rw[hm,UN zy]
   simp
 subst hx;rcases Ua i n with h | h
 .refine absurd ?_ (h9 zu)
  have hg:∀ m (hm:m<(c++[x]).length),(c++[x])[m]? = some (c++[x])[m]:=λ m hm=>Qa hm;refine⟨λ s hs=>?_,λ p hp=>?_,λ j hj p s hp hs=>?_⟩
  .obtain ⟨h1,rfl⟩:=Qu.1 hs
   exact h6 i h1
  .obtain ⟨h1,rfl⟩:=Qu.1 hp
   rw[h6 (i+1) h1];omega
  .obtain ⟨h1,rfl⟩:=Qu.1 hp
   obtain⟨h2,rfl⟩:=Qu.1 hs;subst hj;have h3:=q.2 j (by simpa using h2)
   have h4:=q.1 j h1;have h5:=q.1 (j+1) h2;exact⟨⟨h5.au_.trans h4.au_.symm,by rw[h5.nu_,h4.nu_];omega,h3.pr_,h3.ti_⟩,h3.ki_⟩
 .have:i=n∨i=n+1:=by simp at hi;omega
  rcases this with rfl | rfl
  .left
   rw[hn,List.take_left]
  .right
   rw[Qc zu]
theorem KL (a b:List AJ) (k:Int):Bp (a++b) k=Bp a k++Bp b k:=Q3 ..
theorem bM (k:Nat) (n:Int) (h:x.au≠n):Bp (l.take k++x::l.drop k) n=Bp l n:=by
 conv=>rhs;rw[<- QL k l]
 rw[KL,KL]
 congr 1
 unfold Bp;rw[List.filter_cons_of_neg (by simpa using h)]
theorem MQ (k:Nat):Bp (l.take k++x::l.drop k) x.au=Bp (l.take k) x.au++x::Bp (l.drop k) x.au:=by
 rw[KL]
 congr 1
 unfold Bp;rw[List.filter_cons_of_pos zz]
theorem cK {me t:Int} {r:List AJ} (hl:l.length<=10000) (hb:∀ s∈l,BJ s) (h1:BJ x) (hI:E3 l x r) (hx:x.au=me) (ht:t<x.ti) (h3:Cg me (CU me (Bp l me)++[x])) (q:(CU me (Bp l me)).length=(Bp l me).length) (n:Int):Dv (CU n (Bp r n)) t=Dv (CU n (Bp l n)) t:=by
 rcases hI with rfl | ⟨k,rfl⟩
 .rfl
 by_cases hn:x.au=n
 .subst hn
  subst hx;obtain⟨⟨⟨hc,_,h4⟩,_⟩,_⟩:=K9 x.au (l:=Bp l x.au) (by have:=Kw l x.au;omega) λ s hs=>hb s (Jz hs)
  have u:∀ s∈Bp (l.take k++x::l.drop k) x.au,s∈Bp l x.au∨s=x:=λ s hs=>by
   rw[MQ] at hs;have h2:Bp l x.au=Bp (l.take k) x.au++Bp (l.drop k) x.au:=by rw[<- KL,QL]
   rw[h2];simp only[Qn,Qv] at hs ⊢;rcases hs with h | h | h
   .exact .inl (.inl h)
   .exact .inr h
   .exact .inl (.inr h)
  have h2:Bp l x.au=Bp (l.take k) x.au++Bp (l.drop k) x.au:=by rw[<- KL,QL]
  have h5:(Bp (l.take k++x::l.drop k) x.au).length=(Bp l x.au).length+1:=by rw[MQ,h2];simp;omega
  have h6:=Kw l x.au;obtain⟨⟨_,hR⟩,_⟩:=K9 x.au (l:=Bp (l.take k++x::l.drop k) x.au) zy λ s hs=>(u s hs).elim (λ h=>hb s (Jz h)) λ h=>h ▸ h1
  have h0:∀ s∈Bp l x.au,s∈Bp (l.take k++x::l.drop k) x.au:=λ s hs=>by
   rw[MQ];rw[h2] at hs;simp only[Qn,Qv] at hs ⊢;rcases hs with h | h
   .exact .inl h
   .exact .inr (.inr h)
  rcases ZS hc h3 h4 q u h0 (by rw[MQ];simp) zy hR with h | h
  .rw [h]
  .rw [h]
   unfold Dv;rw[Q3,List.filter_cons_of_neg zu,List.filter_nil,QK]
 .rw [bM k n hn]
def GU (t:Int) (l r:List AJ):Prop:=∀ n:Int,Dv (CU n (Bp r n)) t=Dv (CU n (Bp l n)) t
theorem GU.cnt {t:Int} {r:List AJ} (h:GU t l r):∀ n,Dv (Br r n) t=Dv (Br l n) t
 | 0=>rfl
 | n+1=>by
   have ih:=h.cnt n;have h1:=h n;show Dv (Br r n++CU n (Bp r n)) t=Dv (Br l n++CU n (Bp l n)) t;unfold Dv at *;rw[Q3,Q3,ih,h1]
theorem Vg (h:CQ l) (t lv:Int):Cy (Dv l t) t lv=Cy l t lv:=by
 unfold Cy;rw[RQ];have h1:=kE h t
 congr 1
 have key:∀ V W:List Ac,V.map er=W.map er->BS V lv=BS W lv:=by
  intro V
  induction V with
  | nil=>intro W hW;cases W with
    | nil=>rfl
    | cons _ _=>simp at hW
  | cons v V ih=>intro W hW;cases W with
    | nil=>simp at hW
    | cons w W =>
      rw[List.map_cons,List.map_cons,List.cons.injEq] at hW;have h2:=LI hW.1;have h3:v.lv=w.lv:=by have:=hW.1;unfold er at this;exact(Ac.mk.inj this).2.2.1
      have h4:=ih W hW.2;unfold BS at h4 ⊢
      by_cases hv:lv<=v.lv
      .have hw:lv<=w.lv:=zy
       rw[List.filter_cons_of_pos (by simpa using hv),List.filter_cons_of_pos (by simpa using hw),List.map_cons,List.map_cons,h4]
       congr 1
       unfold Om;rw[h2.1,h2.2.1,h3]
      .have hw:¬ lv<=w.lv:=zy
       rw[List.filter_cons_of_neg (by simpa using hv),List.filter_cons_of_neg (by simpa using hw),h4]
 exact key _ _ h1
theorem Lp {a b c a' b' c':AV} (h1:Wk a a') (h2:Wk b b') (h3:Wk c c'):Wk (.tup [a,b,c]) (.tup [a',b',c']) :=
 .tup _ _ rfl λ i=>match i with | 0=>h1 | 1=>h2 | 2=>h3 | _+3=>.refl _
theorem Xl (au:Int) (l:List AJ) (s:AJ) (hc:Cg au l) (hl:l.length<=1000) (hs:BJ s) :
  ∃ (e:Int) (x:AJ),((e=0->x=nx au l s/\Cg au (l++[x]))/\(e≠0->x=zS))/\AK 101 [.I au,AF l,eS s] [] (.tup [eS x,.I e]) []:=by
 have u:=hs.2.2.1;have h1:=hs.2.2.2.1;obtain⟨eC,he,q⟩:=Gn (nx au l s) (by show s.li.length<=_;omega) (by show s.pi.length<=_;omega)
 by_cases hT:E0 l s
 .exact ⟨9,zS,⟨λ h=>zy,λ _=>rfl⟩,L8 au l s hc hl hs eC 9 zS q (λ _=>⟨rfl,rfl⟩) (λ h=>absurd hT h) (λ h=>absurd hT h)⟩
 .by_cases hK:FG l
  .exact ⟨5,zS,⟨λ h=>zy,λ _=>rfl⟩,L8 au l s hc hl hs eC 5 zS q (λ h=>absurd h hT) (λ _ _=>⟨rfl,rfl⟩) (λ _ h=>absurd hK h)⟩
  .by_cases h0:eC=0
   .exact ⟨eC,nx au l s,⟨λ _=>⟨rfl,aR hc hs hT hK (he.1 h0)⟩,λ h=>absurd h0 h⟩,L8 au l s hc hl hs eC eC _ q (λ h=>absurd h hT) (λ _ h=>absurd h hK) (λ _ _=>⟨rfl,λ _=>rfl,λ h=>absurd h0 h⟩)⟩
   .exact ⟨eC,zS,⟨λ h=>absurd h h0,λ _=>rfl⟩,L8 au l s hc hl hs eC eC _ q (λ h=>absurd h hT) (λ _ h=>absurd h hK) (λ _ _=>⟨rfl,λ h=>absurd h h0,λ _=>rfl⟩)⟩
def Dd (k:Int) (l:List AJ) (s:AJ) (r:List AJ × AJ × Int):Prop :=
 r.1.length<=l.length+1 /\ ∀ y∈r.1,y∈l∨(∃ c,Cg k c/\c.length<=l.length/\y=nx k c s/\Cg k (c++[y]))
theorem Dd.same {k:Int} {l:List AJ} {s x:AJ} {e:Int}:Dd k l s (l,x,e):=⟨zz,λ _ h=>.inl h⟩
theorem Pp (k:Int) (l:List AJ) (s:AJ) (hl:l.length<=1000) (hb:∀ s∈l,BJ s) (hs:BJ s) :
  ∃ r:List AJ × AJ × Int,(Dd k l s r /\ ∀ t,t<s.ti->GU t l r.1)/\AK 54 [.agg [.I k,AF l],eS s] [] (.tup [.agg [.I k,AF r.1],eS r.2.1,.I r.2.2]) []:=by
 refine wE.s.acallsX (args:=[.agg [.I k,AF l],eS s]) (hs:=[]) (λ r=>.tup [.agg [.I k,AF r.1],eS r.2.1,.I r.2.2]) (λ _=>[]) (λ r:List AJ × AJ × Int=>Dd k l s r /\ ∀ t,t<s.ti->GU t l r.1) (AW rfl) (AW rfl) (λ _=>zz) ?_
 show AQ _ 0 _ _ ⟨74,[(0,.agg [.I k,AF l]),(1,eS s)],[],16⟩;have h0:=Xg k l zy hb
 obtain⟨rv,_,ha⟩:=dA k l zy hb
 have hw:=Kw l k;have hj:∀ x∈Bp l k,x∈l:=λ _=>Jz;have hk:=M7 l k zy hb
 obtain⟨⟨⟨hd,hz,_⟩,_⟩,hg⟩:=K9 k (l:=Bp l k) zy (λ x hx=>hb x (hj x hx))
 have hm:∀ (x:AJ) (r:List AJ),x.au=k->x.ti=s.ti->BJ x->E3 l x r->Cg k (CU k (Bp l k)++[x])->(CU k (Bp l k)).length=(Bp l k).length -> ∀ t,t<s.ti->GU t l r:=λ x r h1 h2 h3 h4 h5 h6 t h7=>cK zy hb h3 h4 h1 zy h5 h6
 generalize CU k (Bp l k)=c at *;generalize Bp l k=o at *;obtain⟨fr,_,ho⟩:=cU l k zy hb
 obtain⟨e,x,⟨hq,a0⟩,hr⟩:=Xl k c s hd zy hs
 apply ax [2,3,4,5,6] [(16,16),(24,24),(32,32),(40,40)] [] 100
 .simp [AB]
  rfl
 apply ax [2,3,4,5,6] [(16,16),(24,24),(32,32),(40,40)] [] 200
 .simp [AB]
  refine AT h0 zw ?_
  simp[AZ,AB];rfl
 refine AC ?_;apply ax [2,3,4,5,6,17] [(16,16),(24,24),(32,32),(40,40)] [] 300
 .simp [AB]
  refine AT ha zw ?_
  simp[AB];rfl
 refine AD _ rfl (λ h1=>?_) λ h1=>?_
 .apply ax [4,5,6] [(32,32),(40,40)] [] 1000
  .simp [AZ,AB]
   rfl
  refine AO (Af.mk (.inr rfl) (l,zS,1) ⟨Dd.same,λ _ _ _=>rfl⟩ ?_);show AG [(4,some (true,2)),(5,some (true,13)),(6,none)] 0 _ _ _;exact AG.out (vs:=[.agg [.I k,AF l],.agg zC,.I 1]) [] [] zz zz zz (by simp[AB];exact Lp (.refl _) JA (.refl _)) zz
 refine AE ?_;apply ax [2,3,4,5,6,7] [(16,16),(24,24),(32,32),(40,40),(332,50)] [] 400
 .simp [AB]
  refine Cu hk zw ?_
  simp[AB];rfl
 apply ax [2,3,4,5,6,7,8] [(16,16),(24,24),(32,32),(40,40),(50,50),(424,60)] [] 500
 .simp [AB]
  refine H6 [50] zz hg (by simp[AB,CI]) ?_
  simp[AB];rfl
 refine AC (arc ⟨74,[(2,.pt 16 0 0),(3,.pt 24 0 0),(4,.pt 32 0 0),(5,.pt 40 0 0),(8,.rs 60 0 c.length),(41,.B (decide (0<=fr) || (c.length != o.length)))],[(16,some ⟨2,[[.I k,AF l]],0⟩),(24,some ⟨13,[sC s],0⟩),(32,some ⟨2,[[.I 0,.nilS]],0⟩),(40,some ⟨13,[zC],0⟩),(60,some ⟨13,c.map sC,0⟩)],700⟩ ?_ ?_)
 .simp [AB]
  refine AT ho zw ?_
  by_cases hf:0<=fr
  .simp [hf,AB]
   exact AY [(16,16),(24,24),(32,32),(40,40),(60,60)] []
  .simp [hf,AB]
   exact AN [(16,16),(24,24),(32,32),(40,40),(60,60)] [] (by simp[AB];exact An (by rw[Qk];simp;omega)) zw
 refine AD _ rfl (λ h2=>?_) λ h2=>?_
 .apply ax [4,5,6] [(32,32),(40,40)] [] 1000
  .simp [AZ,AB]
   rfl
  refine AO (Af.mk (.inr rfl) (l,zS,10) ⟨Dd.same,λ _ _ _=>rfl⟩ ?_);show AG [(4,some (true,2)),(5,some (true,13)),(6,none)] 0 _ _ _;exact AG.out (vs:=[.agg [.I k,AF l],.agg zC,.I 10]) [] [] zz zz zz (by simp[AB];exact Lp (.refl _) JA (.refl _)) zz
 refine AE ?_;apply ax [2,3,4,5,9,10] [(16,16),(32,32),(40,40),(764,64)] [] 800
 .simp [AB]
  refine ET [60] zz hr (by simp[AB,CI]) ?_
  simp[AB];rfl
 refine AC ?_;apply ax [2,4,5,9,10,53] [(16,16),(32,32),(40,40),(64,64)] [] 900
 .simp [AB]
  rfl
 refine AD _ rfl (λ h3=>?_) λ h3=>?_
 .apply ax [4,5,6] [(32,32),(40,40)] [] 1500
  .simp [AZ,AB]
   rfl
  refine AO (Af.mk (.inr rfl) (l,zS,e) ⟨Dd.same,λ _ _ _=>rfl⟩ ?_);show AG [(4,some (true,2)),(5,some (true,13)),(6,none)] 0 _ _ _;exact AG.out (vs:=[.agg [.I k,AF l],.agg zC,.I e]) [] [] zz zz zz (by simp[AB];exact Lp (.refl _) JA (.refl _)) zz
 refine AE ?_;have he:e=0:=by simpa using h3
 obtain⟨h8,h9⟩:=hq he
 have hh:BJ x:=by
  have:=(h9.1 c.length zz).b
  simpa using this
 obtain⟨⟨l',ok,e'⟩,q,u⟩:=dL l x zy hb hh
 have q:E3 l x l':=q;obtain⟨ht,hu⟩:=q.old;simp only at u;have hi:c.length=o.length:=by simp at h2;exact h2.2
 have hv:=hm x l' (by rw[h8];rfl) (by rw[h8];rfl) hh q h9 hi
 have hR:Dd k l s (l',x,0):=⟨ht,λ y hy=>(hu y hy).imp id λ h=>⟨c,hd,zy,by rw[h,h8],by rw[h];exact h9⟩⟩
 apply ax [2,4,5,9,10,11] [(16,16),(32,32),(40,40),(64,64),(964,70)] [] 1100
 .simp [AB]
  refine AT u zw ?_
  simp[AB,AZ];rfl
 refine AC ?_;apply ax [2,4,5,9,10,11,66] [(16,16),(32,32),(40,40),(64,64),(70,70)] [] 1200
 .simp [AB]
  rfl
 refine AD _ rfl (λ h4=>?_) λ h4=>?_
 .apply ax [4,5,6] [(32,32),(40,40)] [] 1500
  .simp [AZ,AB]
   rfl
  refine AO (Af.mk (.inr rfl) (l,zS,e') ⟨Dd.same,λ _ _ _=>rfl⟩ ?_);show AG [(4,some (true,2)),(5,some (true,13)),(6,none)] 0 _ _ _;exact AG.out (vs:=[.agg [.I k,AF l],.agg zC,.I e']) [] [] zz zz zz (by simp[AB];exact Lp (.refl _) JA (.refl _)) zz
 refine AE ?_;apply ax [2,4,5,9] [(16,16),(32,32),(40,40),(64,64)] [] 1300
 .simp [AB,AZ]
  rfl
 apply ay [4,5,6] [(32,32),(40,40)] [] 1500
 .simp [AB,AZ]
  exact⟨rfl,rfl⟩
 refine AO (Af.mk (.inr rfl) (l',x,0) ⟨hR,hv⟩ ?_);show AG [(4,some (true,2)),(5,some (true,13)),(6,none)] 0 _ _ _;exact AG.out (vs:=[.agg [.I k,AF l'],eS x,.I 0]) [] [] zz zz zz zw zz
theorem fG (k:Int) (l:List AJ) (s:AJ) (hl:l.length<=1000) (hb:∀ s∈l,BJ s) (hs:BJ s) :
  ∃ r:List AJ × AJ × Int,Dd k l s r/\AK 54 [.agg [.I k,AF l],eS s] [] (.tup [.agg [.I k,AF r.1],eS r.2.1,.I r.2.2]) [] :=
 let ⟨r,h,e⟩:=Pp k l s hl hb hs
 ⟨r,h.1,e⟩
def H2 (d:F9) (t:Int):AJ:=⟨0,0,GD,t,d.k,d.a,d.b,d.c,d.li,d.pi,GD,0,GD⟩
theorem Sp (k:Int) (l:List AJ) (d:F9) (t:Int) (hl:l.length<=1000) (hb:∀ s∈l,BJ s) (hd:Ig d) :
  ∃ r:List AJ × AJ × Int,Dd k l (H2 d t) r/\AK 41 [.agg [.I k,AF l],Hx d,.I t] [] (.tup [.agg [.I k,AF r.1],eS r.2.1,.I r.2.2]) []:=by
 have q:BJ (H2 d t):=⟨AW rfl,AW rfl,hd.1,hd.2.1,hd.2.2⟩;obtain⟨r,hr,hs⟩:=fG k l (H2 d t) hl hb q;refine⟨r,hr,?_⟩;obtain⟨l',x,e⟩:=r;simp only at hs;refine vM.s.ac ?_;show AQ _ 0 _ _ ⟨32,[(0,.agg [.I k,AF l]),(1,Hx d),(2,.I t)],[],16⟩;apply ax [2,3,4,6,7,8] [(16,16),(24,24),(32,32),(40,40)] [] 100
 .simp [AB]
  rfl
 have h1:=hd.1;have h2:=hd.2.1;apply ay [6,7,8] [(32,32),(40,40)] [] 400
 .simp (maxSteps:=1000000) [AB,h1,h2]
  refine⟨zy,zy,zy,zy,?_⟩
  refine ET [204,236] zz hs (by simp[AB,CI,H2,GD]) ?_
  simp[AB,AZ];exact⟨rfl,rfl⟩
 refine AO ⟨.inr rfl,?_⟩;show AG [(6,some (true,2)),(7,some (true,13)),(8,none)] 0 _ _ _;exact AG.out (vs:=[.agg [.I k,AF l'],eS x,.I e]) [] [] zz zz zz zw zz
theorem eX (v:Int) (k:Nat) (hk:k<=7):IntKind.u8.wrap ((IntKind.u64.wrap v).fdiv (2 ^ (min (8*k) 64)))=GA v k:=by
 have q:k=0∨k=1∨k=2∨k=3∨k=4∨k=5∨k=6∨k=7:=zy
 unfold GA;rw[IntKind.wrap_u64];rcases q with rfl | rfl | rfl | rfl | rfl | rfl | rfl | rfl
 .rw [show (2:Int) ^ (min (8*0) 64)=1 from rfl,QR _ zx,QR _ zx,IntKind.wrap_u8,IntKind.wrap_u8]
  omega
 .rw [show (2:Int) ^ (min (8*1) 64)=256 from rfl,QR _ zx,QR _ zx,IntKind.wrap_u8,IntKind.wrap_u8]
  omega
 .rw [show (2:Int) ^ (min (8*2) 64)=65536 from rfl,QR _ zx,QR _ zx,IntKind.wrap_u8,IntKind.wrap_u8]
  omega
 .rw [show (2:Int) ^ (min (8*3) 64)=16777216 from rfl,QR _ zx,QR _ zx,IntKind.wrap_u8,IntKind.wrap_u8]
  omega
 .rw [show (2:Int) ^ (min (8*4) 64)=4294967296 from rfl,QR _ zx,QR _ zx,IntKind.wrap_u8,IntKind.wrap_u8]
  omega
 .rw [show (2:Int) ^ (min (8*5) 64)=1099511627776 from rfl,QR _ zx,QR _ zx,IntKind.wrap_u8,IntKind.wrap_u8]
  omega
 .rw [show (2:Int) ^ (min (8*6) 64)=281474976710656 from rfl,QR _ zx,QR _ zx,IntKind.wrap_u8,IntKind.wrap_u8]
  omega
 .rw [show (2:Int) ^ (min (8*7) 64)=72057594037927936 from rfl,QR _ zx,QR _ zx,IntKind.wrap_u8,IntKind.wrap_u8]
  omega
theorem LD (b:List Int) (v:Int) (ha:b.length<=1099511627776):AK 183 [.rs 0 0 b.length,.I v] [⟨1,Ap .u8 b,0⟩] (.rs 1 0 (b.length+8)) [none,some ⟨1,Ap .u8 (b++Au v),0⟩]:=by
 refine sB.s.ai ?_;have h2:∀ (l:List Int) (f:Int->List AV),(l.map f).take l.length=l.map f:=λ l f=>Qc zz
 let q:Nat->List Int:=λ j=>b++GW v j
 have u:∀ j,(q j).length=(b:List Int).length+j:=λ j=>by simp only[q];rw[Qe,ML]
 have h3:∀ j,q (j+1)=q j++[GA v (7 - j)]:=λ j=>by simp only[q];rw[NI,Qq]
 have h0:q 0=b:=by simp[q,GW]
 have h4:q 8=b++Au v:=rfl;rw[<- h4];obtain⟨V,hV⟩:=AL (IntKind.u64.wrap v);refine ar [0,1] [(0,0)] [] 100 ?_;apply ax [0,5] [(0,0)] [] 200
 .simp [AB,<- hV]
  rfl
 refine AC (ar [0,5,6] [(0,0)] [] 250 ?_);refine AI (Ag (ι:=Nat) (λ j=>⟨23,[(0,.rs 50 0 (q j).length),(5,.sc (.int .u64 V)),(6,.I (7 - (j:Int)))],[(50,some ⟨1,Ap .u8 (q j),0⟩)],300⟩) (λ j=>j<=8) (λ j=>8 - j) 0 zy (AN [(0,50)] [] (by simp[h0]) (by simp[AB,h0])) ?_)
 clear_value q
 intro j hj;have hb:=u j;refine AC (arc ⟨23,[(0,.rs 50 0 (q j).length),(5,.sc (.int .u64 V)),(6,.I (7 - (j:Int))),(10,.B (decide (j<8)))],[(50,some ⟨1,Ap .u8 (q j),0⟩)],400⟩ ?_ ?_)
 .simp
  exact AN [(50,50)] [] (by simp[AB]<;>exact An (by rw[Qk];simp;omega)) zw
 refine AD _ rfl (λ h=>AE ?_) λ h=>Aa (Ab ?_)
 .rw [Qb] at h
  refine BO ⟨23,[(0,.rs 50 0 (q (j+1)).length),(5,.sc (.int .u64 V)),(6,.I (7 - (j:Int)))],[(50,some ⟨1,Ap .u8 (q (j+1)),0⟩)],1000⟩ ?_ ?_
  .have hs:=h3 j
   have h5:=h2 (q j);rw[hs];generalize q j=Y at *;obtain⟨k,hk⟩:∃ k:Nat,k=7 - j:=⟨_,rfl⟩;obtain⟨s,h6⟩:∃ s:Nat,s=8*k:=⟨_,rfl⟩;have h7:IntKind.i64.wrap (8*(7 - (j:Int)))=(s:Int):=by rw[w6];omega
   have h8:IntKind.u64.wrap (s:Int)=(s:Int):=by rw[IntKind.wrap_u64];omega
   have h1:IntKind.u8.wrap (V.fdiv (2 ^ (min s 64)))=GA v k:=by
    rw[h6,hV];exact eX v k zy
   rw[<- hk];generalize GA v k=y at h1 ⊢;refine AI (AU rfl ?_);simp[h7,h8,IntKind.bits,h1];refine⟨zy,?_⟩
   exact AN [(464,50)] [] zw (by simp[AB,h5])
  have h9:IntKind.i64.wrap (7 - (j:Int) - 1)=7 - ((j+1:Nat):Int):=by rw[w6];omega
  refine AU rfl ?_;simp[h9];exact⟨j+1,zy,zy,AY [(50,50)] []⟩
 rw[Qd] at h;obtain rfl:j=8:=zy
 refine ar [4] [(50,50)] [] 2000 ?_;refine AO ?_;rw[<- u 8];exact⟨.inr rfl,AG.m1 50 zx rfl zz zz zw⟩
theorem JS (b:List Int) (l:List Int) (h5:b.length<=1000000) (hl:l.length<=1000000):AK 184 [.rs 0 0 b.length,AA l] [⟨1,Ap .u8 b,0⟩] (.rs 1 0 (b.length+8+8*l.length)) [none,some ⟨1,Ap .u8 (b++EM l),0⟩]:=by
 refine uX.s.ai ?_
 let q:Nat->List Int:=λ j=>b++Au l.length++(l.take j).flatMap Au
 have u:∀ j,j<=l.length->(q j).length=b.length+8+8*j:=λ j hj=>by simp only[q];rw[Qe,Qe,Dt,Kg,QB,Nat.min_eq_left hj]
 have h2:∀ j (h:j<l.length),q (j+1)=q j++Au l[j]:=λ j h=>by simp only[q];rw[Ql h,List.flatMap_append,List.flatMap_singleton];simp only[Qq]
 have h0:q 0=b++Au l.length:=by simp[q]
 have h3:q l.length=b++EM l:=by simp[q,EM]
 have hn:=LD b l.length zy
 rw[<- h3,<- u _ (Qg _)];refine ar [0,1] [(0,0)] [] 100 ?_;apply ax [0,1] [(124,50)] [] 200
 .simp
  refine BX (i:=0) rfl (e':=⟨1,Ap .u8 b,0⟩) zw hn zz zz ?_
  simp;rfl
 refine AC (ar [0,1,5] [(50,50)] [] 250 ?_);refine AI (Ag (ι:=Nat) (λ j=>⟨23,[(0,.rs 50 0 (q j).length),(1,AA l),(5,.I j)],[(50,some ⟨1,Ap .u8 (q j),0⟩)],300⟩) (λ j=>j<=l.length) (λ j=>l.length - j) 0 zy (AN [(50,50)] [] (by simp[h0,Dt]) (by simp[AB,h0])) ?_)
 clear_value q
 intro j hj;have h6:=u j hj;refine AC (BP ⟨23,[(0,.rs 50 0 (q j).length),(1,AA l),(5,.I j),(13,.B (decide (j<l.length)))],[(50,some ⟨1,Ap .u8 (q j),0⟩)],400⟩ [(50,50)] [] ?_);refine AD _ rfl (λ h=>AE ?_) λ h=>Aa (Ab ?_)
 .rw [Qb] at h
  have hs:=h2 j h;have h7:=u (j+1) h;have h1:l[j]? = some l[j]:=Qa h;obtain⟨v,hv⟩:=AL (l[j]);rw[<- hv] at h1 hs;have hc:=LD (q j) v zy
  rw[<- hs,show (q j).length+8=(q (j+1)).length by omega] at hc
  have h4:=Ci h zy
  refine G4 ?_;refine AI ?_;apply ae [0,1,5] [(440,50)] [] 500
  .simp [h,h1,<- hv]
   refine BX (i:=50) rfl (e':=⟨1,Ap .u8 (q j),0⟩) zw hc zz zz ?_
   simp;rfl
  refine AU rfl ?_;simp[h4];exact⟨j+1,zy,zy,AY [(50,50)] []⟩
 rw[Qd] at h;obtain rfl:j=l.length:=zy
 refine ar [4] [(50,50)] [] 2000 ?_;exact BG (AG.m1 50 zx rfl zz zz zw)
theorem Ze (r:Ch) (h:EW r) (hs:r.po.seeds.length<=64):∃ s:ByteArray,s.size=32/\AK 179 [Bc r] [] (.tup [.sc (.string s),.I 0]) []:=by
 have hc:=Jl r h;obtain⟨b0,q⟩:∃ b0:List Int,b0=[116,114,117,115,116,102,108,111,119]:=⟨_,rfl⟩;have l0:b0.length=9:=by rw[q];rfl
 obtain⟨b1,u⟩:=AL (b0++EM r.ge);have l1:b1.length=b0.length+8+8*r.ge.length:=by rw[u,Qe,Gv];omega
 obtain⟨b2,h0⟩:=AL (b1++EM r.po.seeds);have l2:b2.length=b1.length+8+8*r.po.seeds.length:=by rw[h0,Qe,Gv];omega
 obtain⟨b3,h1⟩:=AL (b2++EM r.po.table);have l3:b3.length=b2.length+8+8*r.po.table.length:=by rw[h1,Qe,Gv];omega
 obtain⟨b4,h2⟩:=AL (b3++EM [r.po.lv,r.se,r.sp,r.qu]);have l4:b4.length=b3.length+8+8*4:=by rw[h2,Qe,Gv];simp
 have g1:=h.ge.2.1;have g2:=h.po.2.2.2.1;have c1:=JS b0 r.ge zy zy
 have c2:=JS b1 r.po.seeds zy zy
 have c3:=JS b2 r.po.table zy zy
 have c4:=JS b3 [r.po.lv,r.se,r.sp,r.qu] zy zz
 rw[<- u,<- l1] at c1;rw[<- h0,<- l2] at c2;rw[<- h1,<- l3] at c3;rw[<- h2,show b3.length+8+8*[r.po.lv,r.se,r.sp,r.qu].length=b4.length by rw[l4];rfl] at c4
 have c5:=L4 b4 zy
 have hz:=O8 b4;generalize FN b4=S at c5 hz;refine⟨S,hz,?_⟩;refine tV.ai ?_;apply ax [1,2,3] [] [16] 100
 .simp [AB]
  rfl
 refine AC ?_;apply ax [1,2,3,4] [] [] 200
 .simp
  refine AT hc zw ?_
  simp;rfl
 refine ar [1,2,3,9] [] [] 300 ?_;refine AD _ rfl (λ h=>by simp at h) λ _=>?_
 refine AE ?_;apply ax [1,5] [(308,50)] [] 500
 .simp [GJ]
  refine⟨_,_,_,⟨rfl,rfl,rfl⟩,?_⟩;simp;refine⟨zx,?_⟩
  rfl
 have e0:([[AV.sc (.int .u8 116)],[AV.sc (.int .u8 114)],[AV.sc (.int .u8 117)],[AV.sc (.int .u8 115)],[AV.sc (.int .u8 116)],[AV.sc (.int .u8 102)],[AV.sc (.int .u8 108)],[AV.sc (.int .u8 111)],[AV.sc (.int .u8 119)]]:List (List AV))=Ap .u8 b0:=by rw[q];rfl
 have e1:(⟨#[116,114,117,115,116,102,108,111,119]⟩:ByteArray).size=b0.length:=by rw[l0];rfl
 apply ax [1,5] [(524,50)] [] 600
 .rw [e0,e1]
  simp;refine BX (i:=50) rfl (e':=⟨1,Ap .u8 b0,0⟩) zw c1 zz zz ?_
  simp;rfl
 apply ax [1,5] [(632,50)] [] 700
 .simp
  refine BX (i:=50) rfl (e':=⟨1,Ap .u8 b1,0⟩) zw c2 zz zz ?_
  simp;rfl
 apply ax [1,5] [(732,50)] [] 800
 .simp
  refine BX (i:=50) rfl (e':=⟨1,Ap .u8 b2,0⟩) zw c3 zz zz ?_
  simp;rfl
 apply ax [1,5] [(888,50)] [] 1000
 .simp
  refine Hh (i:=50) (j:=880) zx zx rfl rfl (e':=⟨1,Ap .u8 b3,0⟩) zw c4 zz zz ?_
  simp;rfl
 apply ax [2,3] [] [] 1100
 .simp
  refine ET [50] zz c5 (by simp[AB,Ba]) ?_
  simp;rfl
 exact CD [] []
theorem Cf {e:AV}:Wk (.tup [.nilS,e]) (.tup [AA [],e]):=Cs (.nil _ _) (.refl _)
theorem iF (s:ByteArray) (q:List Int) (n:Nat) (ht:q.length<=64) (hn:n<=64):∃ r:List Int × Int,((r.2=0->r.1.length=n)/\r.1.length<=n)/\AK 130 [.sc (.string s),AA q,.I n] [] (.tup [AA r.1,.I r.2]) []:=by
 refine sV.s.acallsX (args:=[.sc (.string s),AA q,.I n]) (hs:=[]) (λ r=>.tup [AA r.1,.I r.2]) (λ _=>[]) (λ r:List Int × Int=>(r.2=0->r.1.length=n)/\r.1.length<=n) (AW rfl) (AW rfl) (λ _=>zz) ?_
 show AQ _ 0 _ _ ⟨58,[(0,.sc (.string s)),(1,AA q),(2,.I n)],[],16⟩;refine ar [0,1,2] [] [] 100 ?_;refine AC (arc ⟨58,[(0,.sc (.string s)),(1,AA q),(2,.I n),(13,.B (decide (s.size≠32)))],[],200⟩ ?_ ?_)
 .simp
  exact AN [] [] (by simp<;>exact An (by rw[Qk];simp<;>omega))
 refine AD _ rfl (λ h=>?_) λ h=>?_
 .refine ar [6,7] [] [] 300 ?_
  refine AO (Af.mk (.inr rfl) ([],1) ⟨zz,zz⟩ ?_)
  exact AG.out [] [] rfl zz zz (by simp;exact Cf) zz
 have hs:s.size=32:=by simpa using h
 refine AE (AC ?_);have h1:¬ (64:Int)<(q.length:Int):=zy
 have h2:¬ (n:Int)<0:=zy
 have h3:¬ (64:Int)<(n:Int):=zy
 refine arc ⟨58,[(0,.sc (.string s)),(1,AA q),(2,.I n),(16,.B false)],[],300⟩ ?_ ?_
 .simp [h1]
  exact BT [] []
 refine AD _ rfl (λ h=>by cases h) λ _=>AE ?_
 refine AC (arc ⟨58,[(0,.sc (.string s)),(1,AA q),(2,.I n),(22,.B false)],[],400⟩ ?_ ?_)
 .simp [h2,h3]
  exact BT [] []
 refine AD _ rfl (λ h=>by cases h) λ _=>AE ?_
 refine ar [0,1,2,8] [] [] 440 ?_;refine AC (ar [0,1,2,8,9] [] [] 480 ?_);refine AI (Ag (ι:=List Int) (λ o=>⟨58,[(0,.sc (.string s)),(1,AA q),(2,.I n),(8,.rs 50 0 o.length),(9,.I o.length)],[(50,some ⟨1,AH o,0⟩)],500⟩) (λ o=>o.length<=n) (λ o=>n - o.length) [] zz (Le.nw [] [(50,1)]) ?_)
 intro o ho;refine AC (BP ⟨58,[(0,.sc (.string s)),(1,AA q),(2,.I n),(8,.rs 50 0 o.length),(9,.I o.length),(25,.B (decide (o.length<n)))],[(50,some ⟨1,AH o,0⟩)],600⟩ [(50,50)] [] ?_);refine AD _ rfl (λ h=>AE ?_) λ h=>Aa (Ab ?_)
 .rw [Qb] at h
  have c1:=JS (Dp s) q (by rw[Iq];omega) zy
  obtain⟨b1,u⟩:=AL (Dp s++EM q);have l1:b1.length=s.size+8+8*q.length:=by rw[u,Qe,Gv,Iq];omega
  rw[<- u,Iq,<- l1] at c1;have c2:=LD b1 o.length zy
  obtain⟨b2,h0⟩:=AL (b1++Au o.length);have l2:b2.length=b1.length+8:=by rw[h0,Qe,Dt]
  rw[<- h0,<- l2] at c2;have c3:=L4 b2 zy
  have hz:=O8 b2;generalize FN b2=Z at c3 hz;have hg:Z.data.toList.length=32:=by rw[<- hz];rfl
  obtain⟨z0,h4⟩:∃ z0,Z.data.toList[0]? = some z0:=⟨_,Qa zy⟩
  obtain⟨z1,h5⟩:∃ z1,Z.data.toList[1]? = some z1:=⟨_,Qa zy⟩
  obtain⟨z2,h6⟩:∃ z2,Z.data.toList[2]? = some z2:=⟨_,Qa zy⟩
  obtain⟨z3,h7⟩:∃ z3,Z.data.toList[3]? = some z3:=⟨_,Qa zy⟩
  refine G4 ?_;refine AI ?_;apply ax [0,1,2,8,9,10] [(50,50)] [] 700
  .simp [NG]
   refine⟨_,_,_,⟨rfl,rfl,rfl⟩,?_⟩;simp;refine⟨zy,?_⟩
   refine BX (i:=616) rfl (e':=⟨1,Ap .u8 (Dp s),0⟩) zw c1 zz zz ?_
   simp;refine BX (i:=632) rfl (e':=⟨1,Ap .u8 b1,0⟩) zw c2 zz zz ?_
   simp;refine ET [648] zz c3 (by simp[AB,Ba]) ?_
   simp;rfl
  obtain⟨s0,h8⟩:∃ s,Aw .shl (.int .i64 (IntKind.i64.wrap z0.toNat)) (.int .u64 24)=some (.int .i64 s):=⟨_,rfl⟩;obtain⟨s1,h9⟩:∃ s,Aw .shl (.int .i64 (IntKind.i64.wrap z1.toNat)) (.int .u64 16)=some (.int .i64 s):=⟨_,rfl⟩;obtain⟨s2,ha⟩:∃ s,Aw .shl (.int .i64 (IntKind.i64.wrap z2.toNat)) (.int .u64 8)=some (.int .i64 s):=⟨_,rfl⟩;obtain⟨o1,hb⟩:∃ s,Aw .or (.int .i64 s0) (.int .i64 s1)=some (.int .i64 s):=⟨_,rfl⟩;obtain⟨o2,hd⟩:∃ s,Aw .or (.int .i64 o1) (.int .i64 s2)=some (.int .i64 s):=⟨_,rfl⟩;obtain⟨o3,he⟩:∃ s,Aw .or (.int .i64 o2) (.int .i64 (IntKind.i64.wrap z3.toNat))=some (.int .i64 s):=⟨_,rfl⟩;have hf:=Ci (k:=o.length) (N:=n) h;apply ad [0,1,2,8,9] [(860,50)] [] 1000
  .simp [-Aw,h4,h5,h6,h7,h8,h9,ha,hb,hd,he,Ba,AB]
   refine⟨zy,zy,rfl,?_⟩
   rfl
  refine AU rfl ?_;simp[hf];exact⟨o++[o3],zu,zu,B4 [(50,50)] []⟩
 rw[Qd] at h;refine ar [6,7] [(50,50)] [] 3000 ?_;refine AO (Af.mk (.inr rfl) (o,0) ⟨λ _=>by simp only;omega,by simp only;omega⟩ ?_)
 exact AG.out [] [50] rfl zz zz (by simp[AB,Ba]) zz
theorem kT (s:ByteArray) (k:Int) (l:List Int) (hl:l.length<=100000):∃ r:ByteArray × Int,True/\AK 182 [.sc (.string s),.I k,AA l] [] (.tup [.sc (.string r.1),.I r.2]) []:=by
 refine qY.s.acallsX (args:=[.sc (.string s),.I k,AA l]) (hs:=[]) (λ r=>.tup [.sc (.string r.1),.I r.2]) (λ _=>[]) (λ r:ByteArray × Int=>True) (AW rfl) (AW rfl) (λ _=>zz) ?_
 show AQ _ 0 _ _ ⟨28,[(0,.sc (.string s)),(1,.I k),(2,AA l)],[],16⟩;refine ar [0,1,2] [] [] 100 ?_;refine AC (arc ⟨28,[(0,.sc (.string s)),(1,.I k),(2,AA l),(10,.B (decide (s.size≠32)))],[],200⟩ ?_ ?_)
 .simp
  exact AN [] [] (by simp<;>exact An (by rw[Qk];simp<;>omega))
 refine AD _ rfl (λ h=>?_) λ h=>AE ?_
 .refine ar [6,7] [] [] 300 ?_
  refine AO (Af.mk (.inr rfl) (⟨#[]⟩,1) trivial ?_);exact AG.out [] [] rfl zz zz zz zz
 have hs:s.size=32:=by simpa using h
 refine AC (arc ⟨28,[(0,.sc (.string s)),(1,.I k),(2,AA l),(16,.B (decide (k<0∨40<=k)))],[],300⟩ ?_ ?_)
 .simp
  repeat' first
   | (refine BK (λ hb=>?_) (λ hb=>?_)<;>(try rw[hb])<;>(try simp at hb)<;>simp[hb])
  all_goals exact AN [] [] (by simp<;>exact An (by (try simp at *);grind))
 refine AD _ rfl (λ h=>?_) λ h=>AE ?_
 .refine ar [6,7] [] [] 400 ?_
  refine AO (Af.mk (.inr rfl) (⟨#[]⟩,2) trivial ?_);exact AG.out [] [] rfl zz zz zz zz
 refine AC (ar [0,1,2,19] [] [] 400 ?_);refine AD _ rfl (λ h=>?_) λ h=>AE ?_
 .refine ar [6,7] [] [] 500 ?_
  refine AO (Af.mk (.inr rfl) (⟨#[]⟩,3) trivial ?_);exact AG.out [] [] rfl zz zz zz zz
 have c2:=LD (Dp s) k (by rw[Iq];omega)
 obtain⟨b2,q⟩:=AL (Dp s++Au k);have l2:b2.length=s.size+8:=by rw[q,Qe,Dt,Iq]
 rw[<- q,Iq,<- l2] at c2;have c1:=JS b2 l zy zy
 obtain⟨b1,u⟩:=AL (b2++EM l);have l1:b1.length=b2.length+8+8*l.length:=by rw[u,Qe,Gv];omega
 rw[<- u,<- l1] at c1;have c3:=L4 b1 zy
 generalize FN b1=Z at c3;apply ax [6,7] [] [] 700
 .simp [NG]
  refine⟨_,_,_,⟨rfl,rfl,rfl⟩,?_⟩;simp;refine⟨zy,?_⟩
  refine BX (i:=416) rfl (e':=⟨1,Ap .u8 (Dp s),0⟩) zw c2 zz zz ?_
  simp;refine BX (i:=432) rfl (e':=⟨1,Ap .u8 b2,0⟩) zw c1 zz zz ?_
  simp;refine ET [448] zz c3 (by simp[AB,Ba]) ?_
  simp;rfl
 refine AO (Af.mk (.inr rfl) (Z,0) trivial ?_);exact AG.out [] [] rfl zz zz zz zz
theorem Zb (l ns:List Int) (k:Int) (hl:l.length<=100000) (a2:ns.length<=100000):∃ r:List Int × Int,((r.2=0->r.1≠[])/\r.1.length<=9 /\ ∀ x∈r.1,x∈l)/\AK 131 [AA l,AA ns,.I k] [] (.tup [AA r.1,.I r.2]) []:=by
 refine uP.s.acallsX (args:=[AA l,AA ns,.I k]) (hs:=[]) (λ r=>.tup [AA r.1,.I r.2]) (λ _=>[]) (λ r:List Int × Int=>(r.2=0->r.1≠[])/\r.1.length<=9 /\ ∀ x∈r.1,x∈l) (AW rfl) (AW rfl) (λ _=>zz) ?_
 show AQ _ 0 _ _ ⟨70,[(0,AA l),(1,AA ns),(2,.I k)],[],16⟩;have hz:∀ e:Int,e≠0->(((e:Int)=0->([]:List Int)≠[])/\([]:List Int).length<=9 /\ ∀ x∈([]:List Int),x∈l):=λ e he=>⟨λ h=>absurd h he,zz,zz⟩
 have hv:=I2 l zy
 refine ar [0,1,2] [] [] 100 ?_;refine AC ?_;apply ax [0,1,2,15] [] [] 200
 .simp
  refine Ay hv ?_;simp;rfl
 refine AD _ rfl (λ h=>?_) λ h=>?_
 .refine ar [6,7] [] [] 300 ?_
  refine AO (Af.mk (.inr rfl) ([],43) (hz _ zx) ?_)
  exact AG.out [] [] rfl zz zz (by simp;exact Cs (.nil _ _) (.refl _)) zz
 have h5:HD l:=by simpa using h
 have a3:0<l.length:=Us.2 h5.1;refine AE ?_;obtain⟨m,hm⟩:∃ m:Int,m=if (l.length:Int)<k then (l.length:Int) else k:=⟨_,rfl⟩
 refine arc ⟨70,[(0,AA l),(1,AA ns),(2,.I k),(8,.I m)],[],300⟩ ?_ ?_
 .simp
  exact AN [] [] (by simp[hm])
 refine AC ?_;obtain⟨t,ht⟩:∃ t:Bool,t=decide (k<1∨9<k∨(ns.length:Int)<m):=⟨_,rfl⟩;refine arc ⟨70,[(0,AA l),(1,AA ns),(2,.I k),(8,.I m),(31,.B t)],[],500⟩ ?_ ?_
 .simp
  repeat' first
   | (refine BK (λ hb=>?_) (λ hb=>?_)<;>(try rw[hb])<;>(try simp at hb)<;>simp[*])
  all_goals exact AN [] [] (by simp<;>exact An (by rw[Qk];simp[*]<;>omega))
 refine AD _ rfl (λ h=>?_) λ h=>?_
 .refine ar [6,7] [] [] 600 ?_
  refine AO (Af.mk (.inr rfl) ([],44) (hz _ zx) ?_)
  exact AG.out [] [] rfl zz zz (by simp;exact Cs (.nil _ _) (.refl _)) zz
 have h6:¬ (k<1∨9<k∨(ns.length:Int)<m):=by rw[ht] at h;simpa using h
 obtain⟨M,hM⟩:∃ M:Nat,m=M:=⟨m.toNat,zy⟩
 subst hM;refine AE ?_;have a4:M<=l.length/\M<=9/\M<=ns.length/\1<=M:=zy
 clear hm ht h h6
 apply ax [0,1,2,8,9] [(516,50)] [] 600
 .simp [AB]
  refine⟨zy,zy,?_⟩
  rfl
 refine ar [0,1,2,8,9,10] [(50,50)] [] 700 ?_;refine AC (ar [0,1,2,8,9,10,11] [(50,50)] [] 750 ?_);refine AI (Ag (ι:=List Int × List Int) (λ p=>⟨70,[(0,AA l),(1,AA ns),(2,.I k),(8,.I M),(9,.rs 50 0 p.2.length),(10,.rs 60 0 p.1.length),(11,.I p.1.length)],[(50,some ⟨1,AH p.2,0⟩),(60,some ⟨1,AH p.1,0⟩)],800⟩) (λ p=>p.1.length<=M/\p.2.length+p.1.length=l.length/\(∀ y∈p.1,y∈l)/\(∀ y∈p.2,y∈l)) (λ p=>M - p.1.length) ([],l) ⟨zz,zz,zz,λ _ h=>h⟩ (Le.nw [(50,50)] [(60,1)] (hh:=by simp;exact Av.eq zw zz)) ?_)
 rintro⟨o,f⟩ ⟨ho,hf,h1,q⟩
 simp only at ho hf h1 q;refine AC (BP ⟨70,[(0,AA l),(1,AA ns),(2,.I k),(8,.I M),(9,.rs 50 0 f.length),(10,.rs 60 0 o.length),(11,.I o.length),(37,.B (decide (o.length<M)))],[(50,some ⟨1,AH f,0⟩),(60,some ⟨1,AH o,0⟩)],900⟩ [(50,50),(60,60)] [] ?_);refine AD _ rfl (λ h=>AE ?_) λ h=>Aa (Ab ?_)
 .rw [Qb] at h
  have hi:o.length<ns.length:=zy
  have hg:ns[o.length]? = some ns[o.length]:=Qa hi;obtain⟨x,hx⟩:=AL (ns[o.length]);rw[<- hx] at hg;refine G4 ?_;refine AI (AC ?_);apply ax [0,1,2,8,9,10,11,44] [(50,50),(60,60)] [] 1000
  .simp [hi,hg,<- hx,AB]
   rfl
  refine AD _ rfl (λ h=>?_) λ h=>AE ?_
  .refine ar [6,7] [] [] 1200 ?_
   refine AO (Af.mk (.inr rfl) ([],44) (hz _ zx) ?_)
   exact AG.out [] [] rfl zz zz (by simp;exact Cs (.nil _ _) (.refl _)) zz
  have h7:0<=x:=by simpa using h
  have h8:0<f.length:=zy
  have h9:f≠[]:=Us.1 h8;obtain⟨j,hj⟩:∃ j:Nat,Int.tmod x f.length=j:=⟨(Int.tmod x f.length).toNat,by have:=Int.tmod_nonneg (f.length:Int) h7;omega⟩
  have h3:j<f.length:=by have:=Int.tmod_lt_of_pos x (b:=(f.length:Int)) zy;omega
  obtain⟨y,hy⟩:=AL (f[j]);have ha:f[j]? = some y:=by rw[hy];exact Qa h3
  have hd:y∈l:=q _ (by rw[hy];exact Qi h3)
  apply ax [0,1,2,8,9,10,11,12] [(50,50),(60,60)] [] 1200
  .simp [hi,hg,<- hx,hj,h9,AB]
   rfl
  apply ax [0,1,2,8,9,10,11,12] [(50,50),(1248,60)] [] 1400
  .simp [h3,ha,<- hy,Ba,AB]
   refine⟨zy,zy,?_⟩
   rfl
  obtain⟨m,hm⟩:∃ m:Nat,m=j+1:=⟨_,rfl⟩;have hk:IntKind.i64.wrap ((j:Int)+1)=(m:Nat):=by rw[hm];exact Ci (N:=l.length) zy
  have hq:IntKind.i64.wrap ((o.length:Int)+1)=(o.length+1:Nat):=Ci (N:=M) zy
  obtain⟨n,hn⟩:=AL (f.length);obtain⟨X,hX⟩:=AL (AH f);have h4:X.length=n:=by rw[hX,hn];simp
  have hr:∀ ρ sn h m,X.map (List.map (conv ρ sn h (m+1)))=X:=by rw[hX];intros;simp[AB]
  have u:min j n=j:=zy
  have hu:j<=n:=zy
  have hw:m<=n:=zy
  have a0:List.take j X++List.drop m X=AH (f.take j++f.drop m):=by rw[hX];simp[Vf,US]
  have h0:(f.take j++f.drop m).length=j+(n - m):=by rw[Qe,QB,QV,<- hn,u]
  apply ad [10,0,1,2,8,9,11] [(1472,50),(60,60)] [] 2000
  .simp only[<- hX,<- hn]
   simp[hk,h4,u,hu,hw,hr,AB];exact⟨zy,zy,zy,zy,rfl,rfl⟩
  have heq:List.take j (List.take j X)++List.take (n - m) (List.drop m X)=AH (f.take j++f.drop m):=by
   rw[List.take_take,Nat.min_self,Qc (l:=List.drop m X) (by rw[QV,h4];exact Qg _),a0]
  obtain⟨F,hF⟩:=AL (f.take j++f.drop m);rw[<- hF] at heq h0
  have a1:∀ y∈F,y∈l:=λ y hy=>by
   rw[hF] at hy;rcases Qn.1 hy with h | h
   .exact q _ (QQ h)
   .exact q _ (Uo h)
  refine AU rfl ?_;simp[hq];refine⟨o++[y],F,⟨zu,zu,?_,a1⟩,zu,AN [(50,50),(60,60)] [] (by simp[h0]) (by simp[heq,AB])⟩
  intro z hz;rcases Qn.1 hz with h | h
  .exact h1 z h
  .rw [Qw] at h;rw[h];exact hd
 obtain h:¬ o.length<M:=by simpa using h
 refine ar [6,7] [(60,60)] [] 3000 ?_;refine AO (Af.mk (.inr rfl) (o,0) ⟨λ _ h2=>by subst h2;simp at h;omega,zu,h1⟩ ?_)
 exact AG.out [] [60] rfl zz zz (by simp[AB,Ba]) zz
def JU (l:List Int) (x:List Int × Int):Prop:=(x.2=0->x.1≠[])/\x.1.length<=9 /\ ∀ y∈x.1,y∈l
theorem JU.no {l:List Int} {e:Int} (h:e≠0):JU l ([],e):=⟨λ h2=>absurd h2 h,zz,zz⟩
theorem SM (r:Ch) (v:ByteArray) (l:List Int) (c:Cl) (hr:EW r) (hl:l.length<=100000):∃ x:List Int × Int,JU l x/\AK 78 [Bc r,.sc (.string v),AA l,Be c] [] (.tup [AA x.1,.I x.2]) []:=by
 refine sW.s.acallsX (args:=[Bc r,.sc (.string v),AA l,Be c]) (hs:=[]) (λ x=>.tup [AA x.1,.I x.2]) (λ _=>[]) (λ x:List Int × Int=>JU l x) (AW rfl) (AW rfl) (λ _=>zz) ?_
 show AQ _ 0 _ _ ⟨67,[(0,Bc r),(1,.sc (.string v)),(2,AA l),(3,Be c)],[],16⟩;have h1:=Jl r hr;have h2:=I2 l zy
 have h3:=I3 c;apply ax [1,2,4,7] [] [16,24] 100
 .simp [AB]
  rfl
 refine AC ?_;apply ax [1,2,4,7,10] [] [] 200
 .simp
  refine AT h1 zw ?_
  simp;rfl
 refine ar [1,2,4,7,19] [] [] 300 ?_;refine AD _ rfl (λ h=>by simp at h) λ _=>AE ?_
 refine AC ?_;apply ax [1,2,4,7,23] [] [] 400
 .simp
  refine Ay h2 ?_;simp;rfl
 refine AD _ rfl (λ h=>?_) λ h=>AE ?_
 .refine ar [8,9] [] [] 500 ?_
  refine AO (Af.mk (.inr rfl) ([],43) (.no zx) ?_)
  exact AG.out [] [] rfl zz zz (by simp;exact Cf) zz
 refine AC ?_;apply ax [1,2,4,7,26] [] [] 500
 .simp
  refine Ay h3 ?_;simp;rfl
 refine AD _ rfl (λ h=>?_) λ h=>AE ?_
 .refine ar [8,9] [] [] 600 ?_
  refine AO (Af.mk (.inr rfl) ([],41) (.no zx) ?_)
  exact AG.out [] [] rfl zz zz (by simp;exact Cf) zz
 have hc:DF c:=by simpa using h
 have hb:=hc.1;unfold Fo at hb;refine ar [1,2,4,7,11] [] [] 600 ?_;refine AC (ar [1,2,4,7,11,12] [] [] 650 ?_);refine AI (Ag (ι:=List Int × Nat) (λ p=>⟨67,[(1,.sc (.string v)),(2,AA l),(4,.pv (CJ r)),(7,.pv (B3 c)),(11,AA p.1),(12,.I p.2)],[],700⟩) (λ p=>p.2<=c.ro.toNat+1/\p.1.length<=9/\(∀ y∈p.1,y∈l)/\(0<p.2->p.1≠[])) (λ p=>c.ro.toNat+1 - p.2) ([],0) ⟨zy,zz,zz,zz⟩ (AN [] [] (by simp;exact .nil _ _) zz) ?_)
 rintro⟨S,k⟩ ⟨hk,hS,h0,h4⟩
 simp only at hk hS h0 h4;refine AC (arc ⟨67,[(1,.sc (.string v)),(2,AA l),(4,.pv (CJ r)),(7,.pv (B3 c)),(11,AA S),(12,.I k),(30,.B (decide (k<=c.ro.toNat)))],[],800⟩ ?_ ?_)
 .simp
  exact AN [] [] (by simp<;>exact An (by rw[Qk];simp;omega))
 refine AD _ rfl (λ h=>AE ?_) λ h=>Aa (Ab ?_)
 .rw [Qb] at h
  obtain⟨⟨ns,e⟩,⟨hd,he⟩,q⟩:=iF v [c.ep,c.ki,c.su,k] 9 zz zy
  simp only at hd he q;have h5:=MR l S zy zy
  have u:=On (a:=l) (b:=S) 64;have h6:=Nc l S 64;obtain⟨M,hM⟩:=AL (D2 l S);rw[show Dc l S 64=D2 l S from rfl,<- hM] at u h6
  rw[<- hM] at h5;obtain⟨⟨ds,e2⟩,⟨h7,h8,h9⟩,ha⟩:=Zb M ns r.se zy zy
  simp only at h7 h8 h9 ha;refine G4 ?_;refine AI ?_;apply ax [1,2,4,7,11,12,13,14] [] [] 1000
  .simp
   refine ET [864] zz q (by simp;exact .refl _) ?_
   simp;rfl
  refine AC (ar [1,2,4,7,11,12,13,14,47] [] [] 1100 ?_);refine AD _ rfl (λ h=>?_) λ h=>AE ?_
  .simp at h
   refine ar [8,9] [] [] 1200 ?_;refine AO (Af.mk (.inr rfl) ([],e) (.no h) ?_);exact AG.out [] [] rfl zz zz (by simp;exact Cf) zz
  apply ax [1,2,4,7,12,13,15] [(1116,50)] [] 1200
  .simp
   refine C4 h5 ?_;simp;rfl
  refine AC (ar [1,2,4,7,12,13,15,54] [(50,50)] [] 1300 ?_);refine AD _ rfl (λ h=>?_) λ h=>AE ?_
  .refine ar [8,9] [] [] 1400 ?_
   refine AO (Af.mk (.inr rfl) ([],44) (.no zx) ?_)
   exact AG.out [] [] rfl zz zz (by simp;exact Cf) zz
  apply ax [1,2,4,7,11,12,14] [] [] 1400
  .simp
   refine ET [50] zz ha (by simp[AB,Ba]) ?_
   simp;rfl
  refine ar [1,2,4,7,11,12,14,64] [] [] 1500 ?_;refine AD _ rfl (λ h=>?_) λ h=>?_
  .simp at h
   refine ar [8,9] [] [] 1600 ?_;refine AO (Af.mk (.inr rfl) ([],e2) (.no h) ?_);exact AG.out [] [] rfl zz zz (by simp;exact Cf) zz
  have hf:e2=0:=by simpa using h
  have hg:=Ci (k:=k) (N:=k+1) zy
  refine AE ⟨_,Le.refl _ _,?_⟩;refine AU rfl ?_;simp[hg];exact⟨ds,k+1,⟨zy,h8,λ y hy=>u y (h9 y hy),λ _=>h7 hf⟩,zy,BT [] []⟩
 rw[Qd] at h;refine ar [8,9] [] [] 2000 ?_;refine AO (Af.mk (.inr rfl) (S,0) ⟨λ _=>h4 zy,hS,h0⟩ ?_)
 exact AG.out [] [] rfl zz zz zz zz
theorem gE (c:Cl) (l:List Int) (hl:l.length<=100000):∃ e:Int,(e=0->1<=l.length/\l.length<=9)/\AK 316 [Be c,AA l] [] (.I e) []:=by
 refine uK.s.acallsX (args:=[Be c,AA l]) (hs:=[]) (λ e=>.I e) (λ _=>[]) (λ e:Int=>e=0->1<=l.length/\l.length<=9) (AW rfl) (AW rfl) (λ _=>zz) ?_
 show AQ _ 0 _ _ ⟨45,[(0,Be c),(1,AA l)],[],16⟩;have h1:=I3 c;apply ax [1,2] [] [16] 100
 .simp [AB]
  rfl
 refine AC ?_;apply ax [1,8] [] [] 200
 .simp
  refine Ay h1 ?_;simp;rfl
 refine AD _ rfl (λ h=>?_) λ h=>AE ?_
 .refine ar [4] [] [] 300 ?_
  exact AO (Af.mk (.inr rfl) 41 zz (AG.one zz))
 refine AC ?_;obtain⟨n,hn⟩:=AL (l.length);refine arc ⟨45,[(1,AA l),(16,.B (decide (n<1∨9<n)))],[],300⟩ ?_ ?_
 .simp [<- hn]
  repeat' first
   | (refine BK (λ hb=>?_) (λ hb=>?_)<;>(try rw[hb])<;>(try simp at hb)<;>simp[<- hn,hb])
  all_goals exact AN [] [] (by simp<;>exact An (by (try simp at *);grind))
 refine AD _ rfl (λ h=>?_) λ h=>AE ?_
 .refine ar [4] [] [] 400 ?_
  exact AO (Af.mk (.inr rfl) 44 zz (AG.one zz))
 have h0:1<=l.length/\l.length<=9:=by rw[Qd] at h;omega
 refine AC (ar [1,5] [] [] 400 ?_);refine AI (Ag (ι:=Nat) (λ i=>⟨45,[(1,AA l),(5,.I i)],[],500⟩) (λ i=>i<=l.length) (λ i=>l.length - i) 0 (Qh _) (BT [] []) ?_);intro i hi;refine AC (BP ⟨45,[(1,AA l),(5,.I i),(20,.B (decide (i<l.length)))],[],600⟩ [] [] ?_);refine AD _ rfl (λ h=>AE ?_) λ h=>Aa (Ab ?_)
 .rw [Qb] at h
  have hg:l[i]? = some l[i]:=Qa h;obtain⟨x,hx⟩:=AL (l[i]);rw[<- hx] at hg;have h2:=Ci h zy
  have hh:=Eh (l.take i) x zu
  have q:min i l.length=i:=zy
  have u:i<=l.length:=zy
  refine G4 ?_;refine AI (BM ⟨45,[(1,AA l),(5,.I i),(44,.B (decide (x<0∨64<=x∨x∈l.take i)))],[],1000⟩ ?_ ?_)
  .simp [h,hg,<- hx,u]
   repeat' first
    | (refine CC 16 rfl ?_;refine AT hh (by simp[q,Vf]) ?_;simp)
    | (refine BK (λ hb=>?_) (λ hb=>?_)<;>(try rw[hb])<;>(try simp at hb)<;>simp[h,hg,<- hx,u,hb])
   all_goals exact⟨rfl,AN [] [] (by simp<;>exact An (by rw[Qk];simp;grind))⟩
  refine AD _ rfl (λ h=>?_) λ h=>?_
  .refine ar [4] [] [] 1100 ?_
   exact AO (Af.mk (.inr rfl) 44 zz (AG.one zz))
  refine AE ⟨_,Le.refl _ _,?_⟩;refine AU rfl ?_;simp[h2];exact⟨i+1,zy,zy,BT [] []⟩
 refine ar [4] [] [] 2000 ?_;exact AO (Af.mk (.inr rfl) 0 (λ _=>h0) (AG.one zz))
structure Hd where
 co:DQ
 ks:List Int
abbrev Ep (c:Hd):List AV:=[AA c.co.li,BQ c.co.pi,AA c.ks]
abbrev J6 (C:List Hd):AV:=.vs 3 false (C.map Ep)
def HE (C:List Hd) (n:Nat):Prop:=∀ c∈C,DJ c.co/\c.ks.length<=n
theorem HE.mono {C:List Hd} {n m:Nat} (h:HE C n) (hm:n<=m):HE C m:=λ c hc=>⟨(h c hc).1,QI (h c hc).2 hm⟩
theorem jX {X:List (List AV)} {k:Nat} {a b:List AV} (hk:k<=X.length):(X.take k++a::X.drop k).set k b=X.take k++b::X.drop k:=by
 rw[List.set_append_right _ _ zu]
 simp[Nat.min_eq_left hk]
theorem ZZ (V:List FO) (s:List Int) (hV:V.length<=20000) (a2:Js V) (hs:s.length<=100000):∃ C:List Hd,(C.length<=V.length/\HE C V.length)/\AK 317 [Dq V,AA s] [] (J6 C) []:=by
 refine rO.s.acallsX (args:=[Dq V,AA s]) (hs:=[]) (λ C=>J6 C) (λ _=>[]) (λ C:List Hd=>C.length<=V.length/\HE C V.length) (AW rfl) (AW rfl) (λ _=>zz) ?_
 show AQ _ 0 _ _ ⟨94,[(0,Dq V),(1,AA s)],[],16⟩;refine ar [0,1] [] [] 40 ?_;refine ar [0,1,5] [] [] 60 ?_;refine AC (ar [0,1,5,6] [] [] 80 ?_);refine AI (Ag (ι:=Nat × List Hd) (λ p=>⟨94,[(0,Dq V),(1,AA s),(5,.rs 50 0 p.2.length),(6,.I p.1)],[(50,some ⟨3,p.2.map Ep,0⟩)],100⟩) (λ p=>p.1<=V.length/\p.2.length<=p.1/\HE p.2 p.1) (λ p=>V.length - p.1) (0,[]) ⟨Qh _,Qg _,by simp[HE]⟩ (Le.nw [] [(50,3)]) ?_)
 rintro⟨i,C⟩ ⟨hi,hC,h0⟩
 simp only at hi hC h0 ⊢;refine AC (BP ⟨94,[(0,Dq V),(1,AA s),(5,.rs 50 0 C.length),(6,.I i),(11,.B (decide (i<V.length)))],[(50,some ⟨3,C.map Ep,0⟩)],200⟩ [(50,50)] [] ?_);refine AD _ rfl (λ h5=>?_) λ h5=>?_
 .rw [Qb] at h5
  obtain⟨v,hv⟩:=AL (V[i]);have hp:V[i]? = some v:=by rw[hv];exact Qa h5
  have hd:DJ v.co:=a2 _ (by rw[hv];exact Qi h5)
  have a3:=Ci h5 zy
  have a4:=Eh s v.au zy
  have a5:=cH v.co hd;refine AE (Bn (ι:=List Hd) (λ W=>⟨94,[(0,Dq V),(1,AA s),(5,.rs 50 0 W.length),(6,.I i)],[(50,some ⟨3,W.map Ep,0⟩)],4000⟩) (λ W=>W.length<=i+1/\HE W (i+1)) ?_ ?_)
  .refine AI (AC ?_)
   apply ax [0,1,5,6,21] [(50,50)] [] 400
   .simp [h5,hp,<- hv,AB]
    refine Ay a4 ?_;simp[AB];rfl
   refine AD _ rfl (λ h8=>?_) λ h8=>AE ?_
   .exact Aa (Ab ⟨C,⟨zy,h0.mono zy⟩,B4 [(50,50)] []⟩)
   refine ar [0,1,5,6,7] [(50,50)] [] 500 ?_;refine AC (AI (Ag (ι:=Nat) (λ k=>⟨94,[(0,Dq V),(1,AA s),(5,.rs 50 0 C.length),(6,.I i),(7,.I k)],[(50,some ⟨3,C.map Ep,0⟩)],600⟩) (λ k=>k<=C.length) (λ k=>C.length - k) 0 (Qh _) (B4 [(50,50)] []) ?_));intro k hk;refine AC ?_
   obtain⟨r2,hm⟩:∃ r2:Int,∀ h:k<C.length,AK 334 [Cm C[k].co,Cm v.co] [] (.I r2) []:=by
    by_cases h:k<C.length
    .obtain ⟨r,_,hr⟩:=RB C[k].co v.co (h0 _ (Qi h)).1 hd
     exact⟨r,λ _=>hr⟩
    .exact ⟨0,λ h'=>absurd h' h⟩
   refine BM ⟨94,[(0,Dq V),(1,AA s),(5,.rs 50 0 C.length),(6,.I i),(7,.I k),(39,.B (decide (k<C.length/\r2<0)))],[(50,some ⟨3,C.map Ep,0⟩)],800⟩ ?_ ?_
   .by_cases u:k<C.length
    .have h7:=hm u
     obtain⟨w,hw⟩:=AL (C[k]);have he:C[k]? = some w:=by rw[hw];exact Qa u
     rw[<- hw] at h7;simp[u,<- hw,he,h5,hp,<- hv,AB];refine Ay h7 ?_;simp[AB];exact⟨rfl,AN [(50,50)] [] (by simp[u]) zw⟩
    .simp [u,AB]
     exact⟨rfl,AN [(50,50)] [] (by simp[u]) zw⟩
   refine AD _ rfl (λ h4=>AE ?_) λ h4=>Aa (Ab ?_)
   .rw [Qb] at h4
    have a6:=Ci h4.1 zy
    refine AI (AU rfl ?_);simp[a6];exact⟨k+1,zy,zy,AY [(50,50)] []⟩
   refine Bn (ι:=List Hd × AV) (λ W=>⟨94,[(0,Dq V),(1,AA s),(5,.rs 50 0 W.1.length),(6,.I i),(7,.I k)],[(50,some ⟨3,(W.1.map Ep).set k [AA (W.1.getD k ⟨⟨[],[]⟩,[]⟩).co.li,BQ (W.1.getD k ⟨⟨[],[]⟩,[]⟩).co.pi,W.2],0⟩)],2000⟩) (λ W=>k<W.1.length/\W.1.length<=i+1/\HE W.1 i/\((W.1.getD k ⟨⟨[],[]⟩,[]⟩).ks=[]/\W.2 = .nilS∨W.2=AA (W.1.getD k ⟨⟨[],[]⟩,[]⟩).ks)) ?_ ?_
   .refine BM ⟨94,[(0,Dq V),(1,AA s),(5,.rs 50 0 C.length),(6,.I i),(7,.I k),(59,.B (decide (k=C.length∨r2≠0)))],[(50,some ⟨3,C.map Ep,0⟩)],1000⟩ ?_ ?_
    .by_cases u:k<C.length
     .have h7:=hm u
      obtain⟨w,hw⟩:=AL (C[k]);have he:C[k]? = some w:=by rw[hw];exact Qa u
      rw[<- hw] at h7;have aq:(k:Int)≠C.length:=zy
      have ho:k≠C.length:=zy
      have a7:((k:Int) == (C.length:Int))=false:=zu
      simp[u,<- hw,he,h5,hp,<- hv,a7,AB];refine Ay h7 ?_;simp[AB];exact⟨rfl,AN [(50,50)] [] (by simp[ho]<;>exact An zt) zw⟩
     .have hq:k=C.length:=zy
      simp[hq,AB];exact⟨rfl,AN [(50,50)] [] (by simp[hq]) zw⟩
    refine AD _ rfl (λ h8=>?_) λ h8=>?_
    .obtain ⟨X,hX⟩:=AL (C.map Ep)
     obtain⟨n,hn⟩:=AL (C.length);have ht:X.length=n:=by rw[hX,hn,Qs]
     have hf:∀ ρ sn h m,X.map (List.map (conv ρ sn h (m+1)))=X:=by rw[hX];intros;simp[AB]
     have hu:k<=n:=zy
     have h9:min k n=k:=zy
     obtain⟨W,hW⟩:=AL (C.take k++⟨v.co,[]⟩::C.drop k);have hg:W.length=n+1:=by rw[hW];simp;omega
     have a8:W.map Ep=List.take k X++Ep ⟨v.co,[]⟩::List.drop k X:=by rw[hW,hX,List.map_append,List.map_cons,Vf,US]
     have hx:W.getD k ⟨⟨[],[]⟩,[]⟩=⟨v.co,[]⟩:=by rw[hW,Qf,Qt zu];simp[<- hn,h9]
     have h3:HE W i:=λ c hc=>by
      rw[hW] at hc;rcases PX hc with h | h
      .exact h0 _ h
      .rw [h];exact⟨hd,zz⟩
     have hy:(W.map Ep).set k [AA v.co.li,BQ v.co.pi,.nilS]=List.take k X++[AA v.co.li,BQ v.co.pi,.nilS]::List.drop k X:=by rw[a8,jX zy]
     refine Kb ⟨94,[(0,Dq V),(1,AA s),(5,.rs 50 0 (n+1)),(6,.I i),(7,.I k)],[(50,some ⟨3,List.take k X++[AA v.co.li,BQ v.co.pi,.nilS]::List.drop k X,0⟩)],2000⟩ rfl ?_ λ st' hh=>⟨(W,.nilS),⟨by simp only;omega,by simp only;omega,h3,.inl ⟨by simp only;rw[hx],rfl⟩⟩,by simp only;rw[hx,hy,hg];exact hh⟩
     simp only[<- hX,<- hn];simp[ht,h9,hu,h5,hp,<- hv,hf,AB];refine⟨zy,zy,?_⟩
     refine AT a5 zw ?_
     simp[ht,h9,hu,hf,AB];refine⟨zy,zy,zy,zy,rfl,AN [(1136,50)] [] (by simp[show k+1+(n - k)=n+1 by omega]) ?_⟩
     simp[hf,AB];rw[List.take_take,Nat.min_self,Qc (l:=List.drop k X) zu,Qc zu]
     simp
    rw[Qd] at h8;have hb:k<C.length:=zy
    refine AE ⟨(C,AA C[k].ks),⟨hb,by simp only;omega,h0,.inr (by simp only;rw[Qf,Qa hb];rfl)⟩,?_⟩
    have a9:(C.map Ep).set k [AA (C.getD k ⟨⟨[],[]⟩,[]⟩).co.li,BQ (C.getD k ⟨⟨[],[]⟩,[]⟩).co.pi,AA C[k].ks]=C.map Ep:=by
     rw[Qf,Qa hb,QH];have:=@List.set_getElem_self _ (C.map Ep) k (by simpa using hb)
     rw[List.getElem_map] at this;exact this
    simp only[a9];exact B4 [(50,50)] []
   rintro⟨W,z⟩ ⟨h6,hg,h3,hz⟩
   simp only at h6 hg h3 hz ⊢;obtain⟨w,hw⟩:=AL (W.getD k ⟨⟨[],[]⟩,[]⟩);have ag:w∈W:=by rw[hw,Qf,Qa h6];exact Qi h6
   rw[<- hw] at hz ⊢;have ai:=h3 w ag;obtain⟨q,⟨av,_⟩,ha⟩:=eU w.ks v.au zy
   have hj:AK 336 [z,.I v.au] [] (AA q) []:=by
    rcases hz with ⟨h1,h2⟩ | h
    .rw [h1] at ha
     rw[h2];exact HK ha ⟨.nil _ _,.refl _,trivial⟩
    .rw [h];exact ha
   have am:∀ ρ sn h m,conv ρ sn h (m+1) z=z:=by
    rcases hz with ⟨_,h2⟩ | h2<;>rw[h2]<;>intros<;>simp
   obtain⟨Y,hY⟩:=AL ((W.map Ep).set k [AA w.co.li,BQ w.co.pi,z]);have hl:Y[k]? = some [AA w.co.li,BQ w.co.pi,z]:=by rw[hY,List.getElem?_set_self (by simpa using h6)]
   have a0:Y.length=W.length:=by rw[hY];simp
   have an:Y.set k [AA w.co.li,BQ w.co.pi,AA q]=(W.set k ⟨w.co,q⟩).map Ep:=by rw[hY,List.set_set,Va]
   rw[<- hY];have a1:∀ (h:k<Y.length),Y[k]'h=[AA w.co.li,BQ w.co.pi,z]:=λ h=>by have:=hl;rw[Qa h] at this;exact Qj this
   refine Kb ⟨94,[(0,Dq V),(1,AA s),(5,.rs 50 0 W.length),(6,.I i)],[(50,some ⟨3,(W.set k ⟨w.co,q⟩).map Ep,0⟩)],4000⟩ rfl ?_ λ st' hh=>⟨W.set k ⟨w.co,q⟩,⟨zu,λ c hc=>?_⟩,by simp only[Ux];exact hh⟩
   .simp [a1,hl,a0,h6,h5,hp,<- hv,AB]
    refine AT hj (by simp[am]) ?_
    simp[a1,hl,a0,h6,AB,AZ,an];exact⟨rfl,B4 [(50,50)] []⟩
   .rcases List.mem_or_eq_of_mem_set hc with h | h
    .exact ⟨(h3 c h).1,by have:=(h3 c h).2;omega⟩
    .rw [h];exact⟨ai.1,by simp only;omega⟩
  intro W hW;refine AU rfl ?_;simp[a3];exact⟨i+1,W,⟨zy,hW.1,hW.2⟩,zy,B4 [(50,50)] []⟩
 have b0:¬ i<V.length:=by simpa using h5
 refine Aa (Ab (ar [4] [(50,50)] [] 5000 ?_));refine AO (Af.mk (.inr rfl) C ⟨zy,h0.mono hi⟩ ?_)
 exact AG.out [] [50] rfl zz zz (by simp[AB,Ba]) zz
abbrev Nm (X:List DQ):AV:=.vs 2 false (X.map CF)
def GB (X:List DQ):Prop:=∀ x∈X,DJ x
theorem Zl (l:List AJ) (c:Cl) (s:List Int) (hl:l.length<=20000) (hb:∀ s∈l,BJ s) (hs:s.length<=100000):∃ r:List DQ × Int,GB r.1/\AK 283 [AF l,Be c,AA s] [] (.tup [Nm r.1,.I r.2]) []:=by
 refine rQ.s.acallsX (args:=[AF l,Be c,AA s]) (hs:=[]) (λ r=>.tup [Nm r.1,.I r.2]) (λ _=>[]) (λ r:List DQ × Int=>GB r.1) (AW rfl) (AW rfl) (λ _=>zz) ?_
 show AQ _ 0 _ _ ⟨47,[(0,AF l),(1,Be c),(2,AA s)],[],16⟩;obtain⟨e,_,he⟩:=gE c s hs;obtain⟨V,⟨h5,u⟩,hV⟩:=Xf l c hl hb;obtain⟨C,⟨h6,h0⟩,hC⟩:=ZZ V s zy u hs
 apply ax [0,2,4] [] [16] 100
 .simp [AB]
  rfl
 refine AC ?_;apply ax [0,2,4,8] [] [] 200
 .simp
  refine Ay he ?_;simp;rfl
 refine ar [0,2,4,8,16] [] [] 300 ?_;refine AD _ rfl (λ h=>?_) λ h=>AE ?_
 .refine ar [6,7] [] [] 400 ?_
  refine AO (Af.mk (.inr rfl) ([],e) (by simp[GB]) ?_)
  exact AG.out [] [] rfl zz zz (by simp;exact Cs (.nil _ _) (.refl _)) zz
 apply ax [2,9] [] [] 400
 .simp
  refine AT hV zw ?_
  simp;refine AT hC zw ?_
  simp;rfl
 refine ar [2,9,10] [] [] 440 ?_;refine AC (ar [2,9,10,11] [] [] 480 ?_);refine AI (Ag (ι:=List DQ × Nat) (λ p=>⟨47,[(2,AA s),(9,J6 C),(10,.rs 50 0 p.1.length),(11,.I p.2)],[(50,some ⟨2,p.1.map CF,0⟩)],500⟩) (λ p=>p.2<=C.length/\p.1.length<=p.2/\GB p.1) (λ p=>C.length - p.2) ([],0) ⟨zz,zz,by simp[GB]⟩ (Le.nw [] [(50,2)]) ?_)
 rintro⟨o,i⟩ ⟨hi,ho,q⟩
 simp only at hi ho q ⊢;refine AC (BP ⟨47,[(2,AA s),(9,J6 C),(10,.rs 50 0 o.length),(11,.I i),(26,.B (decide (i<C.length)))],[(50,some ⟨2,o.map CF,0⟩)],600⟩ [(50,50)] [] ?_);refine AD _ rfl (λ h=>AE ?_) λ h=>Aa (Ab ?_)
 .rw [Qb] at h
  obtain⟨w,hw⟩:=AL (C[i]);have hp:C[i]? = some w:=by rw[hw];exact Qa h
  have h1:=h0 w (by rw[hw];exact Qi h)
  have h3:=kV w.ks.length s.length zy zy
  have h4:=Ci h;refine Bn (ι:=List DQ) (λ W=>⟨47,[(2,AA s),(9,J6 C),(10,.rs 50 0 W.length),(11,.I i)],[(50,some ⟨2,W.map CF,0⟩)],3000⟩) (λ W=>W.length<=i+1/\GB W) ?_ λ W hW=>?_
  .refine AI ?_
   apply ax [2,9,10,11,37] [(50,50)] [] 1000
   .simp [h,hp,<- hw,AB]
    refine Ay h3 ?_;simp[AB];rfl
   refine AD _ rfl (λ h2=>?_) λ h2=>?_
   .refine AU rfl ?_
    simp[h,hp,<- hw,AB,Ba];refine⟨zy,zy,o++[w.co],⟨zu,λ x hx=>?_⟩,B4 [(1056,50)] []⟩
    rcases Qn.1 hx with h | h
    .exact q x h
    .rw [Qw] at h;rw[h];exact h1.1
   exact AE ⟨o,⟨zy,q⟩,AY [(50,50)] []⟩
  refine AU rfl ?_;simp[h4];exact⟨W,i+1,⟨zy,hW.1,hW.2⟩,zy,AY [(50,50)] []⟩
 refine ar [6,7] [(50,50)] [] 4000 ?_;refine AO (Af.mk (.inr rfl) (o,0) q ?_);exact AG.out [] [50] rfl zz zz (by simp[AB,Ba]) zz
theorem JP:DJ ⟨[],[]⟩:=by simp[DJ]
theorem KW:Wk (.agg [.nilS,.nilS]) (Cm ⟨[],[]⟩):=.agg _ _ rfl λ j=>match j with | 0=>.nil _ _ | 1=>.nil _ _ | _+2=>.refl _
theorem Hg {a b c a':AV} (h:Wk a a'):Wk (.tup [a,b,c]) (.tup [a',b,c]):=.tup _ _ rfl λ i=>match i with | 0=>h | 1=>.refl _ | 2=>.refl _ | _+3=>.refl _
theorem W8 (l:List AJ) (c:Cl) (s:List Int) (hl:l.length<=20000) (hb:∀ s∈l,BJ s) (hs:s.length<=100000):∃ r:DQ × Bool × Int,DJ r.1/\AK 247 [AF l,Be c,AA s] [] (.tup [Cm r.1,.B r.2.1,.I r.2.2]) []:=by
 refine wI.s.acallsX (args:=[AF l,Be c,AA s]) (hs:=[]) (λ r=>.tup [Cm r.1,.B r.2.1,.I r.2.2]) (λ _=>[]) (λ r:DQ × Bool × Int=>DJ r.1) (AW rfl) (AW rfl) (λ _=>zz) ?_
 show AQ _ 0 _ _ ⟨30,[(0,AF l),(1,Be c),(2,AA s)],[],16⟩;obtain⟨⟨X,e⟩,hX,q⟩:=Zl l c s hl hb hs;simp only at hX q;apply ax [0,2,4,6] [(24,24)] [16] 100
 .simp [AB]
  rfl
 apply ax [6,9,10] [(24,24)] [] 200
 .simp
  refine AT q zw ?_
  simp;rfl
 refine AC ?_;obtain⟨n,hn⟩:=AL (X.length);refine arc ⟨30,[(6,.pt 24 0 0),(9,Nm X),(10,.I e),(24,.B (decide (e≠0∨n≠1)))],[(24,some ⟨2,[[.nilS,.nilS]],0⟩)],400⟩ ?_ ?_
 .simp [<- hn]
  repeat' first
   | (refine BK (λ hb=>?_) (λ hb=>?_)<;>(try rw[hb])<;>(try simp at hb)<;>simp[<- hn,hb])
  all_goals exact AN [(24,24)] [] (by simp[AB]<;>exact An (by (try simp at *);grind))
 refine AD _ rfl (λ h=>?_) λ h=>AE ?_
 .apply ax [6,7,8] [(24,24)] [] 600
  .simp [AZ]
   rfl
  refine AO (Af.mk (.inr rfl) (⟨[],[]⟩,false,e) JP ?_);show AG [(6,some (true,2)),(7,none),(8,none)] 0 _ _ _;exact AG.out (vs:=[.agg [.nilS,.nilS],.B false,.I e]) [] [] zz zz zz (by simp;exact Hg KW) zz
 have u:0<X.length:=by simp at h;omega
 obtain⟨x,hx⟩:=AL (X[0]);have hp:X[0]? = some x:=by rw[hx];exact Qa u
 apply ax [6,7,8] [(24,24)] [] 600
 .simp [AZ,u,hp,<- hx]
  rfl
 refine AO (Af.mk (.inr rfl) (x,true,0) (hX x (by rw[hx];exact Qi u)) ?_)
 show AG [(6,some (true,2)),(7,none),(8,none)] 0 _ _ _;exact AG.out (vs:=[Cm x,.B true,.I 0]) [] [] zz zz zz zz zz
structure Dr where
 ep:Int
 ro:List Int
 be:ByteArray
 de:Bool
 ne:DQ
abbrev EH (t:Dr):List AV:=[.I t.ep,AA t.ro,.sc (.string t.be),.B t.de,AA t.ne.li,BQ t.ne.pi]
abbrev C7 (t:Dr):AV:=.agg (EH t)
abbrev PR (T:List Dr):AV:=.vs 6 false (T.map EH)
theorem kI (r:Ch) (t:Dr) (c:Cl) (hr:EW r) (hl:t.ro.length<=100000):∃ x:List Int × Int,JU t.ro x/\AK 246 [Bc r,C7 t,Be c] [] (.tup [AA x.1,.I x.2]) []:=by
 refine tC.s.acallsX (args:=[Bc r,C7 t,Be c]) (hs:=[]) (λ x=>.tup [AA x.1,.I x.2]) (λ _=>[]) (λ x:List Int × Int=>JU t.ro x) (AW rfl) (AW rfl) (λ _=>zz) ?_
 show AQ _ 0 _ _ ⟨22,[(0,Bc r),(1,C7 t),(2,Be c)],[],16⟩;obtain⟨⟨x,e⟩,hx,q⟩:=SM r t.be t.ro c hr hl;simp only at q;apply ax [3,4,5] [] [16,24,32] 100
 .simp [AB]
  rfl
 refine AC (ar [3,4,5,12] [] [] 200 ?_);refine AD _ rfl (λ h=>?_) λ h=>AE ?_
 .refine ar [6,7] [] [] 300 ?_
  refine AO (Af.mk (.inr rfl) ([],46) (.no zx) ?_)
  exact AG.out [] [] rfl zz zz (by simp;exact Cf) zz
 apply ax [6,7] [] [] 400
 .simp
  refine AT q zw ?_
  simp;rfl
 refine AO (Af.mk (.inr rfl) (x,e) hx ?_);exact AG.out [] [] rfl zz zz zz zz
theorem Mb (r:Ch) (l:List AJ) (t:Dr) (c:Cl) (hr:EW r) (hl:l.length<=20000) (hb:∀ s∈l,BJ s) (h0:t.ro.length<=100000):∃ x:DQ × Bool × Int,DJ x.1/\AK 180 [Bc r,AF l,C7 t,Be c] [] (.tup [Cm x.1,.B x.2.1,.I x.2.2]) []:=by
 refine uN.s.acallsX (args:=[Bc r,AF l,C7 t,Be c]) (hs:=[]) (λ x=>.tup [Cm x.1,.B x.2.1,.I x.2.2]) (λ _=>[]) (λ x:DQ × Bool × Int=>DJ x.1) (AW rfl) (AW rfl) (λ _=>zz) ?_
 show AQ _ 0 _ _ ⟨31,[(0,Bc r),(1,AF l),(2,C7 t),(3,Be c)],[],16⟩;obtain⟨⟨s,e⟩,⟨_,h1,_⟩,q⟩:=kI r t c hr h0;simp only at h1 q;obtain⟨⟨y,b,e2⟩,hy,u⟩:=W8 l c s hl hb zy
 simp only at hy u;apply ax [1,4,6,7,8] [(40,40)] [16,24,32] 100
 .simp [AB]
  rfl
 apply ax [1,7,8,11,12] [(40,40)] [] 200
 .simp
  refine AT q zw ?_
  simp;rfl
 refine AC (ar [1,7,8,11,12,21] [(40,40)] [] 300 ?_);refine AD _ rfl (λ h=>?_) λ h=>AE ?_
 .apply ax [8,9,10] [(40,40)] [] 400
  .simp [AZ]
   rfl
  refine AO (Af.mk (.inr rfl) (⟨[],[]⟩,false,e) JP ?_);show AG [(8,some (true,2)),(9,none),(10,none)] 0 _ _ _;exact AG.out (vs:=[.agg [.nilS,.nilS],.B false,.I e]) [] [] zz zz zz (by simp;exact Hg KW) zz
 apply ax [8,9,10] [(40,40)] [] 400
 .simp
  refine AT u zw ?_
  simp[AZ];rfl
 refine AO (Af.mk (.inr rfl) (y,b,e2) hy ?_);show AG [(8,some (true,2)),(9,none),(10,none)] 0 _ _ _;exact AG.out (vs:=[Cm y,.B b,.I e2]) [] [] zz zz zz zz zz
theorem jS (l:List Int) (hl:l.length<=100000):∃ r:List Int × Int,(r.1.length<=64 /\ ∀ x∈r.1,0<=x/\x<64)/\AK 181 [AA l] [] (.tup [AA r.1,.I r.2]) []:=by
 refine tJ.s.acallsX (args:=[AA l]) (hs:=[]) (λ r=>.tup [AA r.1,.I r.2]) (λ _=>[]) (λ r:List Int × Int=>r.1.length<=64 /\ ∀ x∈r.1,0<=x/\x<64) (AW rfl) (AW rfl) (λ _=>zz) ?_
 show AQ _ 0 _ _ ⟨65,[(0,AA l)],[],16⟩;refine ar [0] [] [] 100 ?_;refine AC ?_
 by_cases h2:l.length≠2
 .have h6:((l.length:Int) != 2)=true:=zu
  refine arc ⟨65,[(0,AA l),(44,.B true)],[],500⟩ ?_ ?_
  .simp [h6]
   exact BT [] []
  refine AD _ rfl (λ _=>?_) λ h=>by cases h
  refine ar [2,3] [] [] 600 ?_;refine AO (Af.mk (.inr rfl) ([],43) zz ?_)
  exact AG.out [] [] rfl zz zz (by simp;exact Cf) zz
 have h4:l.length=2:=zy
 clear h2
 obtain⟨a,ha⟩:=AL (l[0]);obtain⟨b,h3⟩:=AL (l[1]);have h0:l[0]? = some a:=by rw[ha];exact Qa _
 have h1:l[1]? = some b:=by rw[h3];exact Qa _
 refine arc ⟨65,[(0,AA l),(44,.B (decide (a<0∨4294967296<=a∨b<0∨4294967296<=b∨(a=0/\b=0))))],[],500⟩ ?_ ?_
 .simp [h4,h0,h1,<- ha,<- h3]
  repeat' first
   | (refine BK (λ hb=>?_) (λ hb=>?_)<;>(try rw[hb])<;>(try simp at hb)<;>simp[h4,h0,h1,<- ha,<- h3,hb])
  all_goals exact AN [] [] (by simp<;>exact An (by (try simp at *);grind))
 refine AD _ rfl (λ h=>?_) λ h=>AE ?_
 .refine ar [2,3] [] [] 600 ?_
  refine AO (Af.mk (.inr rfl) ([],43) zz ?_)
  exact AG.out [] [] rfl zz zz (by simp;exact Cf) zz
 refine ar [0,4] [] [] 600 ?_;refine AC (ar [0,4,5] [] [] 640 ?_);refine AI (Ag (ι:=List Int × Nat) (λ p=>⟨65,[(0,AA l),(4,.rs 50 0 p.1.length),(5,.I p.2)],[(50,some ⟨1,AH p.1,0⟩)],700⟩) (λ p=>p.2<=64/\p.1.length<=p.2 /\ ∀ x∈p.1,0<=x/\x<64) (λ p=>64 - p.2) ([],0) ⟨zz,zz,zz⟩ (Le.nw [] [(50,1)]) ?_)
 rintro⟨o,k⟩ ⟨hk,ho,u⟩
 simp only at hk ho u ⊢;refine AC (arc ⟨65,[(0,AA l),(4,.rs 50 0 o.length),(5,.I k),(46,.B (decide (k<64)))],[(50,some ⟨1,AH o,0⟩)],800⟩ ?_ ?_)
 .simp
  exact AN [(50,50)] [] (by simp<;>exact An (by rw[Qk];simp;omega)) zw
 refine AD _ rfl (λ h=>AE ?_) λ h=>Aa (Ab ?_)
 .rw [Qb] at h
  have h7:=Ci h;have hq:Int.tdiv (k:Int) 32=((k / 32:Nat):Int):=by rw[Int.tdiv_eq_ediv_of_nonneg zy];omega
  have hr:Int.tmod (k:Int) 32=((k % 32:Nat):Int):=by rw[U3 zy];omega
  obtain⟨q,h8⟩:=AL (k / 32);obtain⟨m,h9⟩:=AL (k % 32);rw[<- h8] at hq;rw[<- h9] at hr;have hq2:q=0∨q=1:=zy
  obtain⟨v,hv⟩:∃ v,l[q]? = some v:=⟨_,Qa zy⟩
  have h5:q<l.length:=zy
  have hd:l[q]=v:=by rw[Qa h5] at hv;exact Qj hv
  have he:IntKind.u64.wrap (m:Int)=(m:Int):=by rw[IntKind.wrap_u64];omega
  have hf:=w6 (x:=(q:Int));have hg:Aw .quo (.int .i64 (k:Int)) (.int .i64 32)=some (.int .i64 (q:Int)):=by simp[hq,hf]
  have hh:Aw .rem (.int .i64 (k:Int)) (.int .i64 32)=some (.int .i64 (m:Int)):=by simp[hr]
  obtain⟨sv,hi⟩:∃ s,Aw .shr (.int .i64 v) (.int .u64 m)=some (.int .i64 s):=⟨_,rfl⟩;obtain⟨av,hj⟩:∃ s,Aw .and (.int .i64 sv) (.int .i64 1)=some (.int .i64 s):=⟨_,rfl⟩;have hm:Aw .eql (.int .i64 av) (.int .i64 1)=some (.bool (decide (av=1))):=by simp;rw[Qk];simp
  refine Bn (ι:=List Int) (λ W=>⟨65,[(0,AA l),(4,.rs 50 0 W.length),(5,.I k)],[(50,some ⟨1,AH W,0⟩)],3000⟩) (λ W=>W.length<=k+1 /\ ∀ x∈W,0<=x/\x<64) ?_ λ W hW=>?_
  .refine AI (arc ⟨65,[(0,AA l),(4,.rs 50 0 o.length),(5,.I k),(59,.B (decide (av=1)))],[(50,some ⟨1,AH o,0⟩)],1000⟩ ?_ ?_)
   .simp [-Aw,hg,hh,hm,he,h5,hd,hi,hj,AB]
    exact AN [(50,50)] [] (by simp[-Aw]) zw
   refine AD _ rfl (λ h2=>?_) λ h2=>?_
   .refine AU rfl ?_
    simp[AB,Ba];refine⟨zy,zy,o++[(k:Int)],⟨zu,λ x hx=>?_⟩,B4 [(1024,50)] []⟩
    rcases Qn.1 hx with h | h
    .exact u x h
    .rw [Qw] at h;rw[h];omega
   exact AE ⟨o,⟨zy,u⟩,B4 [(50,50)] []⟩
  refine AU rfl ?_;simp[h7];exact⟨W,k+1,⟨zy,hW.1,hW.2⟩,zy,AY [(50,50)] []⟩
 refine ar [2,3] [(50,50)] [] 4000 ?_;refine AO (Af.mk (.inr rfl) (o,0) ⟨by simp only;omega,u⟩ ?_)
 exact AG.out [] [50] rfl zz zz (by simp[AB,Ba]) zz
def Jr (t:Dr):Prop:=(t.ro.length<=64 /\ ∀ x∈t.ro,0<=x/\x<64)/\DJ t.ne/\0<=t.ep/\t.ep<40
def Jt (T:List Dr):Prop:=∀ t∈T,Jr t
theorem NF {a b c d:AV}:Wk (.agg [a,b,c,d,.nilS,.nilS]) (.agg [a,b,c,d,AA [],BQ []]) :=
 .agg _ _ rfl λ j=>match j with | 0=>.refl _ | 1=>.refl _ | 2=>.refl _ | 3=>.refl _ | 4=>.nil _ _ | 5=>.nil _ _ | _+6=>.refl _
theorem YB (r:Ch) (l:List AJ) (hr:EW r) (hs:r.po.seeds.length<=64) (hl:l.length<=20000) (hb:∀ s∈l,BJ s):∃ T:List Dr,(T≠[]/\T.length<=40/\Jt T)/\AK 128 [Bc r,AF l] [] (.tup [PR T,.I 0]) []:=by
 refine vH.s.acallsX (args:=[Bc r,AF l]) (hs:=[]) (λ T=>.tup [PR T,.I 0]) (λ _=>[]) (λ T:List Dr=>T≠[]/\T.length<=40/\Jt T) (AW rfl) (AW rfl) (λ _=>zz) ?_
 show AQ _ 0 _ _ ⟨78,[(0,Bc r),(1,AF l)],[],16⟩;have hc:=Jl r hr;obtain⟨be,_,h9⟩:=Ze r hr hs;have hge:=hr.ge;have ha:=hge.2.1;apply ax [1,2] [] [16] 100
 .simp [AB]
  rfl
 refine AC ?_;apply ax [1,2,6] [] [] 200
 .simp
  refine AT hc zw ?_
  simp;rfl
 refine ar [1,2,6,21] [] [] 300 ?_;refine AD _ rfl (λ h=>by simp at h) λ _=>AE ?_
 apply ax [1,2,7] [] [] 400
 .simp
  refine AT h9 zw ?_
  simp;rfl
 apply ax [1,2,7,9] [] [424] 500
 .simp [AB,Ba]
  refine⟨zy,zy,?_⟩
  rfl
 refine ar [1,2,7,9,10] [] [] 520 ?_;refine AC (ar [1,2,7,9,10,11] [] [] 540 ?_);refine AI ?_
 refine Ag (ι:=(List Dr × Nat) × (ByteArray × List Int)) (λ p=>⟨78,[(1,AF l),(2,.pv (CJ r)),(7,.sc (.string p.2.1)),(9,AA p.2.2),(10,.rs 60 0 p.1.1.length),(11,.I p.1.2)],[(60,some ⟨6,p.1.1.map EH,0⟩)],600⟩)
  (λ p=>p.1.2<=40/\p.1.1.length=p.1.2/\Jt p.1.1/\p.2.2.length<=64 /\ ∀ x∈p.2.2,0<=x/\x<64) (λ p=>40 - p.1.2) (([],0),(be,r.ge)) ⟨zz,rfl,by simp[Jt],ha,λ x hx=>by
   have:=hge.2.2.nodup.2 x hx
   omega⟩ (Le.nw [] [(60,6)]) ?_
 rintro⟨⟨T,k⟩,⟨be,ro⟩⟩ ⟨hk,hT,u,hd,h0⟩
 simp only at hk hT u hd h0 ⊢
 clear h9 ha hge
 refine AC (arc ⟨78,[(1,AF l),(2,.pv (CJ r)),(7,.sc (.string be)),(9,AA ro),(10,.rs 60 0 T.length),(11,.I k),(33,.B (decide (k<40)))],[(60,some ⟨6,T.map EH,0⟩)],700⟩ ?_ ?_)
 .simp
  exact AN [(60,60)] [] (by simp[AB]<;>exact An (by rw[Qk];simp;omega)) zw
 refine AD _ rfl (λ h=>AE ?_) λ h=>Aa (Ab ?_)
 .rw [Qb] at h
  have hi:=Ci h;have he:=RM k;obtain⟨⟨x,ok,e⟩,h4,h5⟩:=Mb r l ⟨k,ro,be,false,⟨[],[]⟩⟩ ⟨k,1,0,0⟩ hr hl hb (by simp only;omega)
  simp only at h4 h5;have h1:AK 180 [Bc r,AF l,.agg [.I k,AA ro,.sc (.string be),.B false,.nilS,.nilS],Be ⟨k,1,0,0⟩] [] (.tup [Cm x,.B ok,.I e]) []:=HK h5 ⟨.refl _,.refl _,NF,.refl _,trivial⟩;have hj:=h4.1;have h6:(T++[(⟨k,ro,be,ok,x⟩:Dr)]).length=k+1:=zu
  have q:Jt (T++[(⟨k,ro,be,ok,x⟩:Dr)]):=λ t ht=>by
   rcases Qn.1 ht with h | h
   .exact u t h
   .rw [Qw] at h
    rw[h];exact⟨⟨hd,h0⟩,h4,by simp only;omega,by simp only;omega⟩
  have h7:T++[(⟨k,ro,be,ok,x⟩:Dr)]≠[]:=zz
  obtain⟨⟨dr,e2⟩,⟨hf,hg⟩,h3⟩:=jS x.li zy
  simp only at hf hg h3;obtain⟨⟨nb,e3⟩,_,hh⟩:=kT be k x.li zy
  simp only at hh;refine G4 ?_;refine AI ?_;apply ax [1,2,7,10,11,12] [(60,60),(732,70)] [] 800
  .simp [AZ,AB]
   rfl
  apply ay [1,2,7,10,11,12,13,14] [(60,60),(70,70),(880,80)] [] 1000
  .simp [AB]
   refine Ay he ?_;simp[AB];refine AT h1 zw ?_
   simp[AZ,AB];exact⟨rfl,rfl⟩
  apply ay [1,2,7,10,11,12,13,14] [(60,60),(70,70),(80,80)] [] 1200
  .simp [AZ,AB]
   exact⟨rfl,rfl⟩
  obtain⟨T2,h8⟩:=AL (T++[(⟨k,ro,be,ok,x⟩:Dr)]);rw[<- h8] at h6 q h7;refine arc ⟨78,[(1,AF l),(2,.pv (CJ r)),(7,.sc (.string be)),(10,.rs 60 0 T2.length),(11,.I k),(13,.pt 80 0 0),(14,.B ok)],[(60,some ⟨6,T2.map EH,0⟩),(80,some ⟨2,[CF x],0⟩)],1400⟩ ?_ ?_
  .simp [AZ,Ba,AB]
   exact⟨zy,zy,AN [(1224,60),(80,80)] [] (by simp[h6,hT,AB]) (by simp[h8,AB])⟩
  clear h8 h5 h1 he u hT
  refine AC (ar [1,2,7,10,11,13,59] [(60,60),(80,80)] [] 1500 ?_);refine AD _ rfl (λ h2=>?_) λ h2=>AE ?_
  .refine Aa (Fw zx ?_)
   refine Ab (ar [4,5] [(60,60)] [] 4000 ?_);refine AO (Af.mk (.inr rfl) T2 ⟨h7,zy,q⟩ ?_)
   exact AG.out [] [60] rfl zz zz (by simp[AB,Ba]) zz
  apply ax [1,2,7,10,11,13,16,17] [(60,60),(80,80)] [] 1600
  .simp [AB]
   refine Ay h3 ?_;simp[AB];rfl
  refine AC (ar [1,2,7,10,11,13,16,67] [(60,60),(80,80)] [] 1700 ?_);refine AD _ rfl (λ h2=>?_) λ h2=>AE ?_
  .refine Aa (Fw zx ?_)
   refine Ab (ar [4,5] [(60,60)] [] 4000 ?_);refine AO (Af.mk (.inr rfl) T2 ⟨h7,zy,q⟩ ?_)
   exact AG.out [] [60] rfl zz zz (by simp[AB,Ba]) zz
  refine ar [1,2,7,9,10,11,13] [(60,60),(80,80)] [] 1800 ?_;apply ae [1,2,7,9,10,11] [(60,60)] [] 2000
  .simp [AB]
   refine Ay hh ?_;simp[AB];rfl
  refine AU rfl ?_;simp[hi];exact⟨T2,k+1,nb,dr,⟨zy,h6,q,hf,hg⟩,zy,AY [(60,60)] []⟩
 have hm:k=40:=by simp at h;omega
 refine ar [4,5] [(60,60)] [] 4000 ?_;refine AO (Af.mk (.inr rfl) T ⟨λ h=>by rw[h] at hT;simp at hT;omega,zy,u⟩ ?_)
 exact AG.out [] [60] rfl zz zz (by simp[AB,Ba]) zz
theorem bP (r:Ch) (l:List AJ) (hr:EW r) (hs:r.po.seeds.length<=64) (hl:l.length<=20000) (hb:∀ s∈l,BJ s):∃ t:Dr,Jr t/\AK 76 [Bc r,AF l] [] (.tup [C7 t,.I 0]) []:=by
 obtain⟨T,⟨u,h4,h0⟩,h1⟩:=YB r l hr hs hl hb;have h5:0<T.length:=Us.2 u;obtain⟨m,hm⟩:=AL (T.length - 1);have q:m<T.length:=zy
 obtain⟨t,ht⟩:=AL (T[m]);have hgt:T[m]? = some t:=by rw[ht];exact Qa q
 have h2:IntKind.i64.wrap ((T.length:Int) - 1)=(m:Int):=by rw[w6];omega
 have h3:Jr t:=h0 t (by rw[ht];exact Qi q)
 refine tH.s.acallsX (args:=[Bc r,AF l]) (hs:=[]) (λ t=>.tup [C7 t,.I 0]) (λ _=>[]) (λ t:Dr=>Jr t) (AW rfl) (AW rfl) (λ _=>zz) ?_
 show AQ _ 0 _ _ ⟨24,[(0,Bc r),(1,AF l)],[],16⟩;apply ax [1,2,4] [(24,24)] [16] 100
 .simp [AB]
  rfl
 apply ax [4,6,7] [(24,24)] [] 200
 .simp [AB]
  refine AT h1 zw ?_
  simp[AB];rfl
 refine AC (ar [4,6,7,15] [(24,24)] [] 300 ?_);refine AD _ rfl (λ h=>by simp at h) λ _=>AE ?_
 apply ax [4,5] [(24,24)] [] 500
 .simp [h2,q,hgt,<- ht,AZ,AB]
  rfl
 refine AO (Af.mk (.inr rfl) t h3 ?_);show AG [(4,some (true,6)),(5,none)] 0 _ _ _;exact AG.out (vs:=[C7 t,.I 0]) [] [] zz zz zz zz zz
abbrev A8 (g:Int) (es ks:AV):List AV:=[.I g,es,ks]
theorem Gs:Wk (.agg (A8 0 .nilS .nilS)) (eG Hp):=Iw (.refl _) (.nil 3 false) (.nil 1 false)
abbrev Cp (l:List Ed):List (List AV):=l.map λ e=>[.I e.f,.I e.t,.I e.v]
theorem IA (l:List Ed) (ρ sn h m):(Cp l).map (List.map (conv ρ sn h (m+1)))=Cp l:=zw
theorem RZ (V:List Ac) (lv:Int) (i:Nat) (h:i<V.length):BS (V.take (i+1)) lv=BS (V.take i) lv++if lv<=V[i].lv then [Om V[i]] else []:=by
 unfold BS;rw[Ql h,Q3,List.map_append]
 congr 1
 by_cases hk:lv<=V[i].lv
 .rw [if_pos hk];simp[hk]
 .rw [if_neg hk];simp[hk]
theorem Le.g3 {st st':St} {X:List (List AV)} {G:AV} {n:Nat} (i k:Nat) (sn:List Nat) (h0:st'.sz=st.sz) (hh:st'.h=[(16,some ⟨3,[A8 0 .nilS .nilS],0⟩),(k,some ⟨3,[A8 64 (.rs 24 0 n) G],0⟩),(24,some ⟨3,X,0⟩)]) (hk:24<k/\k<st'.n/\i≠16/\i≠k) (hs:∀ j∈sn,j∉[16,k,i]) (hX:∀ ρ sn h m,X.map (List.map (conv ρ sn h (m+1)))=X) (hG:∀ ρ sn h m,conv ρ sn h (m+1) G=G) (h1:st.hp 16=some ⟨3,[A8 0 .nilS .nilS],0⟩) (h2:st.hp k=some ⟨3,[A8 64 (.rs i 0 n) G],0⟩) (h3:st.hp i=some ⟨3,X,0⟩) (ht:∀ p∈st'.t,Wk (conv [(16,16),(k,k),(i,24)] sn st.hp 4 (st.get p.1)) p.2):Le 0 st st':=by
 refine Le.ents [(16,16),(k,k),(i,24)] sn h0 zu zu zu (λ j hj=>⟨Qh _,by simpa using hs j hj⟩) zy ht λ p hp=>?_
 rw[hh] at hp;simp only[Qv,Ue,or_false] at hp;have h4:¬ (16=i):=λ h=>hk.2.2.1 h.symm;have q:¬ (k=i):=λ h=>hk.2.2.2 h.symm;have u:¬ (16=k):=zy
 rcases hp with rfl | rfl | rfl
 .exact ⟨16,_,_,rfl,zz,h1,Av.eq zz zz⟩
 .exact ⟨k,_,_,rfl,zz,h2,Av.eq (by simp[hG,h4,q,u]) zz⟩
 .exact ⟨i,_,_,rfl,zz,h3,Av.eq (by simp only[Ak,hX]) zz⟩
theorem Vv (l:List AJ) (t lv:Int) (hl:l.length<=100000) (hn:IR l) (hz:(CH l t).Pairwise (· < ·)):AK 45 [AF l,.I t,.I lv] [] (.tup [eG (IE l t lv).1,.I (IE l t lv).2]) []:=by
 have hd:=aV l t hl hn hz;have he:=SN l t hl hz;have hr:=Pc l t;have h8:IE l t lv=if 1<=lv/\lv<=3 then (if (BS (Bt l t) lv).length<=500 then (⟨64,BS (Bt l t) lv,CH l t⟩,0) else (Hp,3)) else (Hp,2):=rfl
 rw[h8];generalize Bt l t=V at *;generalize CH l t=G at *;refine sH.s.ac ?_;show AQ _ 0 _ _ ⟨50,[(0,AF l),(1,.I t),(2,.I lv)],[],16⟩;refine arc ⟨50,[(0,AF l),(1,.I t),(2,.I lv),(6,.pt 16 0 0)],[(16,some ⟨3,[A8 0 .nilS .nilS],0⟩)],32⟩ ?_ ?_
 .simp
  exact Le.keep rfl zz zz zz
 refine AC (arc ⟨50,[(0,AF l),(1,.I t),(2,.I lv),(6,.pt 16 0 0),(13,.B (decide (¬ (1<=lv/\lv<=3))))],[(16,some ⟨3,[A8 0 .nilS .nilS],0⟩)],56⟩ ?_ ?_)
 .simp
  refine Ay (Ge lv 1 3) ?_;simp;exact Le.keep rfl zz (by simp<;>rw[Qk]<;>simp<;>omega) zz
 refine AD _ rfl (λ h3=>?_) λ h3=>AE ?_
 .have h4:¬ (1<=lv/\lv<=3):=of_decide_eq_true h3
  rw[if_neg h4];refine BE ⟨50,[(6,.pv (A8 0 .nilS .nilS)),(7,.I 2)],[],200⟩ rfl ?_ (AO ⟨.inr rfl,AG.out [] [] rfl zz zz (by simp;exact Cs Gs (.refl _)) zz⟩)
  simp[AZ];exact AM [16] zz
 have h4:1<=lv/\lv<=3:=by simpa using h3
 rw[if_pos h4];have hf:List.take G.length (BZ G)=BZ G:=Qc zz
 have hh:List.take V.length (AP V)=AP V:=Qc zz
 have h9:=CX V;have ha:=It G;have ht:AA G = .vs 1 false (BZ G):=rfl;have h0:∀ (ρ:List (Nat × Nat)) (sn:List Nat) (h:Nat->Option AX) (m:Nat),conv ρ sn h (m+1) (AA G)=AA G:=λ _ _ _ _=>rfl
 refine arc ⟨50,[(0,AF l),(1,.I t),(2,.I lv),(6,.pt 16 0 0),(8,.pt 88 0 0)],[(16,some ⟨3,[A8 0 .nilS .nilS],0⟩),(88,some ⟨3,[A8 64 .nilS (AA G)],0⟩)],110⟩ ?_ ?_
 .simp
  refine C4 he ?_;simp[ha,AZ];exact AN [(16,16),(88,88)] [72] zz (by simp[hf,ha])
 refine Bn (ι:=Nat) (λ k=>⟨50,[(6,.pt 16 0 0),(8,.pt 88 0 0)],[(16,some ⟨3,[A8 0 .nilS .nilS],0⟩),(88,some ⟨3,[A8 64 (.rs 24 0 (BS V lv).length) (AA G)],0⟩),(24,some ⟨3,Cp (BS V lv),0⟩)],600⟩) (λ _=>True) ?_ λ _ _=>?_
 .refine arc ⟨50,[(2,.I lv),(6,.pt 16 0 0),(8,.pt 88 0 0),(21,Ax V),(22,.I V.length),(23,.I (0:Nat))],[(16,some ⟨3,[A8 0 .nilS .nilS],0⟩),(88,some ⟨3,[A8 64 .nilS (AA G)],0⟩)],150⟩ ?_ ?_
  .simp
   refine C4 hd ?_;simp[h9];exact AN [(16,16),(88,88)] [126] (by simp[h9];exact Dy (congrArg _ hh)) (by simp[h0])
  refine AI (Ag (ι:=Nat) (λ i=>⟨50,[(2,.I lv),(6,.pt 16 0 0),(8,.pt 88 0 0),(21,Ax V),(22,.I V.length),(23,.I i)],[(16,some ⟨3,[A8 0 .nilS .nilS],0⟩),(88,some ⟨3,[A8 64 (.rs 24 0 (BS (V.take i) lv).length) (AA G)],0⟩),(24,some ⟨3,Cp (BS (V.take i) lv),0⟩)],160⟩) (λ i=>i<=V.length) (λ i=>V.length - i) 0 (Qh _) ?_ ?_)
  .refine Le.lst [(16,16),(88,88)] [] [(24,3)] rfl zz zz zz zz zz zz zz (by simp[Up]) λ p hp e' h2=>?_
   simp only[Qv,Ue,or_false] at hp;rcases hp with rfl | rfl | rfl
   .cases h2
    exact .inl ⟨(16,16),zz,rfl,_,rfl,Av.eq zz zz⟩
   .cases h2
    exact .inl ⟨(88,88),zz,rfl,_,rfl,Av.row (r:=A8 64 .nilS (AA G)) zz (Qh _) (by simp[El,Up,BS])⟩
   .cases h2
    exact .inr ⟨zz,by simp[BS],rfl⟩
  intro i hi;have hj:=RZ V lv i;have hk:(BS (V.take i) lv).length<=i:=QI (RG _ _) (by rw[QB];omega)
  have q:=IA (BS (V.take i) lv);have u:(Cp (BS (V.take i) lv)).length=(BS (V.take i) lv).length:=Qs ..;obtain⟨X,hX⟩:=AL (Cp (BS (V.take i) lv));obtain⟨n,hn⟩:=AL ((BS (V.take i) lv).length);rw[<- hX] at q u ⊢;rw[<- hn] at u hk ⊢;refine rk (s:=?s5) [2,6,8,21,22,23,24] [16,88,24] rfl ?o5 ?q5
  case o5=>simp;rfl
  refine AC (AD _ rfl (λ h=>AE ?_) λ h=>Aa (Ab ?_))
  .simp only[Qb,Uq] at h
   have hg:V[i]? = some V[i]:=Qa h;have hs:=hj h;obtain⟨v,hv⟩:=AL (V[i]);rw[<- hv] at hg hs;have hm:=Eb h zy
   refine BO ⟨50,[(2,.I lv),(6,.pt 16 0 0),(8,.pt 88 0 0),(21,Ax V),(22,.I V.length),(23,.I i)],[(16,some ⟨3,[A8 0 .nilS .nilS],0⟩),(88,some ⟨3,[A8 64 (.rs 24 0 (BS (V.take (i+1)) lv).length) (AA G)],0⟩),(24,some ⟨3,Cp (BS (V.take (i+1)) lv),0⟩)],500⟩ ?_ ?_
   .refine AI (arc ⟨50,[(2,.I lv),(6,.pt 16 0 0),(8,.pt 88 0 0),(10,.pv (vC v)),(21,Ax V),(22,.I V.length),(23,.I i)],[(16,some ⟨3,[A8 0 .nilS .nilS],0⟩),(88,some ⟨3,[A8 64 (.rs 24 0 n) (AA G)],0⟩),(24,some ⟨3,X,0⟩)],210⟩ ?_ ?_)
    .simp [hg,AZ]
     exact AN [(16,16),(88,88),(24,24)] [184] zz (by simp[q,h0])
    refine arc ⟨50,[(2,.I lv),(6,.pt 16 0 0),(8,.pt 88 0 0),(10,.pv (vC v)),(21,Ax V),(22,.I V.length),(23,.I i),(30,.B (decide (lv<=v.lv)))],[(16,some ⟨3,[A8 0 .nilS .nilS],0⟩),(88,some ⟨3,[A8 64 (.rs 24 0 n) (AA G)],0⟩),(24,some ⟨3,X,0⟩)],250⟩ ?_ ?_
    .simp
     exact Le.keep rfl zz zz zz
    refine AD _ rfl (λ h5=>?_) λ h5=>AE ?_
    .simp only[Qb] at h5
     rw[if_pos h5] at hs;have hb:Cp (BS (V.take (i+1)) lv)=X++[[.I v.fr,.I v.to,.I v.lv]]:=by rw[hs,Cp,List.map_append,<- Cp,<- hX];rfl
     have ho:(BS (V.take (i+1)) lv).length=n+1:=by rw[hs,Qe,<- hn];rfl
     have h1:=IA (BS (V.take (i+1)) lv);rw[hb] at h1;have h7:List.take n X=X:=Qc zy
     rw[hb,ho];refine AU rfl ?_;simp[u,h7,AZ];exact⟨zy,zy,AN [(16,16),(88,88),(330,24)] [] zz (by simp[q,h0])⟩
    .simp only[Qd] at h5
     rw[if_neg h5,QK] at hs;exact Le.keep rfl zz zz (by simp[hs,hX,hn])
   have h1:=IA (BS (V.take (i+1)) lv);refine AU rfl ?_;simp[hm];exact⟨i+1,zy,zy,AN [(16,16),(88,88),(24,24)] [] zz (by simp[h0,AB])⟩
  .simp only[Qd,Uq] at h
   obtain rfl:i=V.length:=zy
   rw[QP] at hX hn;exact⟨0,trivial,Le.keep rfl zz zz (by simp[hX,hn])⟩
 have q:=IA (BS V lv);have u:(Cp (BS V lv)).length=(BS V lv).length:=Qs ..;have hq:Cr (BS V lv) = .vs 3 false (Cp (BS V lv)):=rfl;obtain⟨E,hE⟩:=AL (BS V lv);rw[<- hE] at q u hq ⊢;have h7:List.take E.length (Cp E)=Cp E:=Qc zy
 refine AC (arc ⟨50,[(6,.pt 16 0 0),(8,.pt 88 0 0),(47,.B (decide (500<E.length)))],[(16,some ⟨3,[A8 0 .nilS .nilS],0⟩),(88,some ⟨3,[A8 64 (.rs 24 0 E.length) (AA G)],0⟩),(24,some ⟨3,Cp E,0⟩)],700⟩ ?_ ?_)
 .generalize Cp E=X at *
  simp;exact Le.keep rfl zz zu zz
 refine AD _ rfl (λ h6=>?_) λ h6=>AE ?_
 .simp only[Qb] at h6
  rw[if_neg zy]
  refine BE ⟨50,[(6,.pv (A8 0 .nilS .nilS)),(7,.I 3)],[],900⟩ rfl ?_ (AO ⟨.inr rfl,AG.out [] [] rfl zz zz (by simp;exact Cs Gs (.refl _)) zz⟩)
  generalize Cp E=X at *;simp[AZ];exact AM [16] zz
 .simp only[Qd] at h6
  rw[if_pos zy]
  refine BE ⟨50,[(6,.pv (gC ⟨64,E,G⟩)),(7,.I 0)],[],900⟩ rfl ?_ (AO ⟨.inr rfl,AG.out [] [] rfl zz zz zz zz⟩)
  rw[show gC ⟨64,E,G⟩=[.I 64,.vs 3 false (Cp E),AA G] from rfl]
  generalize Cp E=X at *;simp[AZ];exact AM [16,24] (by simp[u,q,h7,h0])
theorem ZN (l:List AJ) (t lv:Int) (hl:l.length<=100000) (h7:CQ l):AK 64 [AF l,.I t,.I lv] [] (.tup [eG (IE l t lv).1,.I (IE l t lv).2]) []:=by
 have ha:=bI l t hl;have hb:=Tn l t zy
 have hu:=Pc l t;have hd:IE l t lv=if 1<=lv/\lv<=3 then (if (BS (Bt l t) lv).length<=500 then (⟨64,BS (Bt l t) lv,CH l t⟩,0) else (Hp,3)) else (Hp,2):=rfl
 rw[hd];rw[<- h7.act] at ha;rw[<- h7.gone] at hb
 clear h7
 generalize Bt l t=V at *;generalize CH l t=G at *;refine rF.s.ac ?_;show AQ _ 0 _ _ ⟨65,[(0,AF l),(1,.I t),(2,.I lv)],[],16⟩;refine arc ⟨65,[(0,AF l),(1,.I t),(2,.I lv),(6,.pt 16 0 0)],[(16,some ⟨3,[A8 0 .nilS .nilS],0⟩)],32⟩ ?_ ?_
 .simp
  exact Le.keep rfl zz zz zz
 refine AC (arc ⟨65,[(0,AF l),(1,.I t),(2,.I lv),(6,.pt 16 0 0),(16,.B (decide (¬ (1<=lv/\lv<=3))))],[(16,some ⟨3,[A8 0 .nilS .nilS],0⟩)],80⟩ ?_ ?_)
 .by_cases h1:lv<1
  .rw [show decide (¬ (1<=lv/\lv<=3))=true from Q7 zy]
   simp[h1];exact Le.keep rfl zz zz zz
  .rw [show decide (¬ (1<=lv/\lv<=3))=decide (3<lv) from UZ.2 zy]
   simp[h1];exact Le.keep rfl zz zz zz
 refine AD _ rfl (λ h3=>?_) λ h3=>AE ?_
 .have h4:¬ (1<=lv/\lv<=3):=of_decide_eq_true h3
  rw[if_neg h4];refine BE ⟨65,[(6,.pv (A8 0 .nilS .nilS)),(7,.I 2)],[],200⟩ rfl ?_ (AO ⟨.inr rfl,AG.out [] [] rfl zz zz (by simp;exact Cs Gs (.refl _)) zz⟩)
  simp[AZ];exact AM [16] zz
 have h4:1<=lv/\lv<=3:=by simpa using h3
 rw[if_pos h4];have hj:List.take G.length (BZ G)=BZ G:=Qc zz
 have hk:List.take V.length (AP V)=AP V:=Qc zz
 have he:=CX V;have hf:=It G;have hw:AA G = .vs 1 false (BZ G):=rfl;have h0:∀ (ρ:List (Nat × Nat)) (sn:List Nat) (h:Nat->Option AX) (m:Nat),conv ρ sn h (m+1) (AA G)=AA G:=λ _ _ _ _=>rfl
 refine arc ⟨65,[(0,AF l),(1,.I t),(2,.I lv),(6,.pt 16 0 0),(8,.pt 112 0 0)],[(16,some ⟨3,[A8 0 .nilS .nilS],0⟩),(112,some ⟨3,[A8 64 .nilS (AA G)],0⟩)],140⟩ ?_ ?_
 .simp
  refine C4 hb ?_;simp[hf,AZ];exact AN [(16,16),(112,112)] [96] zz (by simp[hj,hf])
 refine arc ⟨65,[(2,.I lv),(6,.pt 16 0 0),(8,.pt 112 0 0),(9,Ax V)],[(16,some ⟨3,[A8 0 .nilS .nilS],0⟩),(112,some ⟨3,[A8 64 .nilS (AA G)],0⟩)],180⟩ ?_ ?_
 .simp
  refine C4 ha ?_;simp[he];exact AN [(16,16),(112,112)] [156] (by simp[he];exact Dy (congrArg _ hk)) (by simp[h0])
 refine Bn (ι:=Nat) (λ k=>⟨65,[(6,.pt 16 0 0),(8,.pt 112 0 0)],[(16,some ⟨3,[A8 0 .nilS .nilS],0⟩),(112,some ⟨3,[A8 64 (.rs 24 0 (BS V lv).length) (AA G)],0⟩),(24,some ⟨3,Cp (BS V lv),0⟩)],600⟩) (λ _=>True) ?_ λ _ _=>?_
 .refine BE ⟨65,[(2,.I lv),(6,.pt 16 0 0),(8,.pt 112 0 0),(9,Ax V),(10,.I (0:Nat))],[(16,some ⟨3,[A8 0 .nilS .nilS],0⟩),(112,some ⟨3,[A8 64 .nilS (AA G)],0⟩)],190⟩ rfl (by simp;exact Le.keep rfl zz zz zz) ?_
  refine AI (Ag (ι:=Nat) (λ i=>⟨65,[(2,.I lv),(6,.pt 16 0 0),(8,.pt 112 0 0),(9,Ax V),(10,.I i)],[(16,some ⟨3,[A8 0 .nilS .nilS],0⟩),(112,some ⟨3,[A8 64 (.rs 24 0 (BS (V.take i) lv).length) (AA G)],0⟩),(24,some ⟨3,Cp (BS (V.take i) lv),0⟩)],200⟩) (λ i=>i<=V.length) (λ i=>V.length - i) 0 (Qh _) ?_ ?_)
  .refine Le.lst [(16,16),(112,112)] [] [(24,3)] rfl zz zz zz zz zz zz zz (by simp[Up]) λ p hp e' h8=>?_
   simp only[Qv,Ue,or_false] at hp;rcases hp with rfl | rfl | rfl
   .cases h8
    exact .inl ⟨(16,16),zz,rfl,_,rfl,Av.eq zz zz⟩
   .cases h8
    exact .inl ⟨(112,112),zz,rfl,_,rfl,Av.row (r:=A8 64 .nilS (AA G)) zz (Qh _) (by simp[El,Up,BS])⟩
   .cases h8
    exact .inr ⟨zz,by simp[BS],rfl⟩
  intro i hi;have hm:=RZ V lv i;have ho:(BS (V.take i) lv).length<=i:=QI (RG _ _) (by rw[QB];omega)
  have u:=IA (BS (V.take i) lv);have q:(Cp (BS (V.take i) lv)).length=(BS (V.take i) lv).length:=Qs ..;obtain⟨X,hX⟩:=AL (Cp (BS (V.take i) lv));obtain⟨n,hn⟩:=AL ((BS (V.take i) lv).length);rw[<- hX] at u q ⊢;rw[<- hn] at q ho ⊢;refine AC (rk (s:=?s5) [2,6,8,9,10,28] [16,112,24] rfl ?o5 ?q5)
  case o5=>simp;rfl
  refine AD _ rfl (λ h=>AE ?_) λ h=>Aa (Ab ?_)
  .simp only[Qb,Uq] at h
   have hg:V[i]? = some V[i]:=Qa h;have hs:=hm h;obtain⟨v,hv⟩:=AL (V[i]);rw[<- hv] at hg hs;have hq:=Eb h zy
   refine BO ⟨65,[(2,.I lv),(6,.pt 16 0 0),(8,.pt 112 0 0),(9,Ax V),(10,.I i)],[(16,some ⟨3,[A8 0 .nilS .nilS],0⟩),(112,some ⟨3,[A8 64 (.rs 24 0 (BS (V.take (i+1)) lv).length) (AA G)],0⟩),(24,some ⟨3,Cp (BS (V.take (i+1)) lv),0⟩)],500⟩ ?_ ?_
   .refine AI (arc ⟨65,[(2,.I lv),(6,.pt 16 0 0),(8,.pt 112 0 0),(9,Ax V),(10,.I i),(37,.B (decide (lv<=v.lv)))],[(16,some ⟨3,[A8 0 .nilS .nilS],0⟩),(112,some ⟨3,[A8 64 (.rs 24 0 n) (AA G)],0⟩),(24,some ⟨3,X,0⟩)],300⟩ ?_ ?_)
    .simp [hg]
     exact Le.keep rfl zz zz zz
    refine AD _ rfl (λ h5=>?_) λ h5=>AE ?_
    .simp only[Qb] at h5
     rw[if_pos h5] at hs;have hh:Cp (BS (V.take (i+1)) lv)=X++[[.I v.fr,.I v.to,.I v.lv]]:=by rw[hs,Cp,List.map_append,<- Cp,<- hX];rfl
     have hr:(BS (V.take (i+1)) lv).length=n+1:=by rw[hs,Qe,<- hn];rfl
     have h2:=IA (BS (V.take (i+1)) lv);rw[hh] at h2;have h9:List.take n X=X:=Qc zy
     rw[hh,hr];refine Cn rfl ?_;simp[hg,q,h9,AZ];exact⟨zy,zy,rfl,AN [(16,16),(112,112),(452,24)] [] zz (by simp[u,h0])⟩
    .simp only[Qd] at h5
     rw[if_neg h5,QK] at hs;exact Le.keep rfl zz zz (by simp[hs,hX,hn])
   have h2:=IA (BS (V.take (i+1)) lv);refine AU rfl ?_;simp[hq];exact⟨i+1,zy,zy,AN [(16,16),(112,112),(24,24)] [] zz (by simp[h0,AB])⟩
  .simp only[Qd,Uq] at h
   obtain rfl:i=V.length:=zy
   rw[QP] at hX hn;exact⟨0,trivial,Le.keep rfl zz zz (by simp[hX,hn])⟩
 have u:=IA (BS V lv);have q:(Cp (BS V lv)).length=(BS V lv).length:=Qs ..;have ht:Cr (BS V lv) = .vs 3 false (Cp (BS V lv)):=rfl;obtain⟨E,hE⟩:=AL (BS V lv);rw[<- hE] at u q ht ⊢;have h9:List.take E.length (Cp E)=Cp E:=Qc zy
 refine AC (arc ⟨65,[(6,.pt 16 0 0),(8,.pt 112 0 0),(62,.B (decide (500<E.length)))],[(16,some ⟨3,[A8 0 .nilS .nilS],0⟩),(112,some ⟨3,[A8 64 (.rs 24 0 E.length) (AA G)],0⟩),(24,some ⟨3,Cp E,0⟩)],700⟩ ?_ ?_)
 .generalize Cp E=X at *
  simp;exact Le.keep rfl zz zu zz
 refine AD _ rfl (λ h6=>?_) λ h6=>AE ?_
 .simp only[Qb] at h6
  rw[if_neg zy]
  refine BE ⟨65,[(6,.pv (A8 0 .nilS .nilS)),(7,.I 3)],[],900⟩ rfl ?_ (AO ⟨.inr rfl,AG.out [] [] rfl zz zz (by simp;exact Cs Gs (.refl _)) zz⟩)
  generalize Cp E=X at *;simp[AZ];exact AM [16] zz
 .simp only[Qd] at h6
  rw[if_pos zy]
  refine BE ⟨65,[(6,.pv (gC ⟨64,E,G⟩)),(7,.I 0)],[],900⟩ rfl ?_ (AO ⟨.inr rfl,AG.out [] [] rfl zz zz zz zz⟩)
  rw[show gC ⟨64,E,G⟩=[.I 64,.vs 3 false (Cp E),AA G] from rfl]
  generalize Cp E=X at *;simp[AZ];exact AM [16,24] (by simp[q,u,h9,h0])
def OF (p:List Pn):Prop:=p.length<=64 /\ ∀ x∈p,x.d.size<=5000
theorem Vw (l:List AJ) (hl:l.length<=20000) (hb:∀ s∈l,BJ s):∃ p:List Pn,OF p/\AK 23 [.agg [AF l]] [] (BQ p) []:=by
 refine rX.s.acallsX (args:=[.agg [AF l]]) (hs:=[]) (λ p=>BQ p) (λ _=>[]) (λ p:List Pn=>OF p) (AW rfl) (AW rfl) (λ _=>zz) ?_
 show AQ _ 0 _ _ ⟨34,[(0,.agg [AF l])],[],16⟩;apply ax [1] [] [16] 50
 .simp [AB]
  rfl
 refine ar [1,3] [] [] 60 ?_;refine AC (ar [1,3,4] [] [] 80 ?_);refine AI (Ag (ι:=List Pn × Nat) (λ p=>⟨34,[(1,.pv [AF l]),(3,.rs 50 0 p.1.length),(4,.I p.2)],[(50,some ⟨3,p.1.map FB,0⟩)],100⟩) (λ p=>p.2<=64/\p.1.length<=p.2 /\ ∀ x∈p.1,x.d.size<=5000) (λ p=>64 - p.2) ([],0) ⟨zz,zz,zz⟩ (Le.nw [] [(50,3)]) ?_)
 rintro⟨o,k⟩ ⟨hk,ho,u⟩
 simp only at hk ho u ⊢;refine AC (arc ⟨34,[(1,.pv [AF l]),(3,.rs 50 0 o.length),(4,.I k),(7,.B (decide (k<64)))],[(50,some ⟨3,o.map FB,0⟩)],200⟩ ?_ ?_)
 .simp
  exact AN [(50,50)] [] (by simp[AB]<;>exact An (by rw[Qk];simp;omega)) zw
 refine AD _ rfl (λ h=>AE ?_) λ h=>Aa (Ab ?_)
 .rw [Qb] at h
  have h4:=Ci h;obtain⟨q,⟨hd,h5⟩,h6⟩:=Ov l k zy hb
  obtain⟨c,⟨h7,he,_⟩,h1⟩:=kS k q zy (λ x hx=>hb x (h5 x hx))
  refine Bn (ι:=List Pn) (λ W=>⟨34,[(1,.pv [AF l]),(3,.rs 50 0 W.length),(4,.I k)],[(50,some ⟨3,W.map FB,0⟩)],3000⟩) (λ W=>W.length<=k+1 /\ ∀ x∈W,x.d.size<=5000) ?_ λ W hW=>?_
  .refine AI ?_
   apply ax [1,3,4,5] [(50,50),(232,60)] [] 500
   .simp [AB]
    refine Cu h6 zw ?_
    simp[AB];refine H6 [224] zz h1 (by simp[AB,Ba]) ?_
    simp[AB];rfl
   refine ar [1,3,4,5,17] [(50,50),(60,60)] [] 600 ?_;refine AD _ rfl (λ h2=>?_) λ h2=>?_
   .have hf:0<c.length:=by simpa [Us] using h2
    obtain⟨m,hm⟩:=AL (c.length - 1);have h0:m<c.length:=zy
    obtain⟨s,hs⟩:=AL (c[m]);have h8:c[m]? = some s:=by rw[hs];exact Qa h0
    have h9:IntKind.i64.wrap ((c.length:Int) - 1)=(m:Int):=by rw[w6];omega
    have ha:s.sd.size<=5000:=by
     have:=(h7.1 m h0);rw[<- hs] at this;have h3:=congrArg List.length this.sd_;rw[VP,VP,Od] at h3;omega
    refine AU rfl ?_;simp[h9,h0,h8,<- hs,Ba,AB];refine⟨zy,zy,o++[⟨k,c.length,s.sd⟩],⟨zu,λ x hx=>?_⟩,B4 [(712,50)] []⟩
    rcases Qn.1 hx with h | h
    .exact u x h
    .rw [Qw] at h;rw[h];exact ha
   exact AE ⟨o,⟨zy,u⟩,AY [(50,50)] []⟩
  refine AU rfl ?_;simp[h4];exact⟨W,k+1,⟨zy,hW.1,hW.2⟩,zy,AY [(50,50)] []⟩
 refine ar [2] [(50,50)] [] 4000 ?_;refine AO (Af.mk (.inr rfl) o ⟨zy,u⟩ ?_)
 exact AG.out [] [50] rfl zz zz (by simp[AB,Ba]) zz
theorem Lv {e:AV}:Wk (.tup [.nilS,e]) (.tup [AF [],e]):=Cs (.nil _ _) (.refl _)
def OH (x y:AJ):Prop:=x.nu<y.nu/\x.ti<=y.ti
structure G7 (au:Int) (l r:List AJ):Prop where
 mem:∀ x∈r,x∈l/\x.au=au/\Df x
 ord:r.Pairwise OH
theorem G7.nil {au:Int} {l:List AJ}:G7 au l []:=⟨zz,.nil⟩
theorem G7.cons {au:Int} {l r:List AJ} {s:AJ} (h:G7 au l r) (hs:s∈l/\s.au=au/\Df s) (hF:∀ x,r[0]? = some x->Fj s x):G7 au l (s::r):=by
 refine⟨λ x hx=>?_,QY.2 ⟨λ y hy=>?_,h.ord⟩⟩
 .rcases Qv.1 hx with h1 | h1
  .rw [h1];exact hs
  .exact h.mem x h1
 .cases r with
  | nil=>cases hy
  | cons z r =>
    have h1:=hF z rfl;unfold Fj at h1;rcases Qv.1 hy with h2 | h2
    .subst h2;exact⟨zy,zy⟩
    .have h3:=(QY.1 h.ord).1 y h2
     unfold OH at h3 ⊢;omega
open Classical in
theorem WQ (au:Int) (l:List AJ) (d:ByteArray) (hl:l.length<=20000) (hb:∀ s∈l,BJ s):∃ r:List AJ × Bool,(r.1.length<=200/\G7 au l r.1)/\AK 107 [.I au,AF l,.sc (.string d)] [] (.tup [AF r.1,.B r.2]) []:=by
 refine tO.s.acallsX (args:=[.I au,AF l,.sc (.string d)]) (hs:=[]) (λ r=>.tup [AF r.1,.B r.2]) (λ _=>[]) (λ r:List AJ × Bool=>r.1.length<=200/\G7 au l r.1) (AW rfl) (AW rfl) (λ _=>zz) ?_
 show AQ _ 0 _ _ ⟨67,[(0,.I au),(1,AF l),(2,.sc (.string d))],[],16⟩;obtain⟨o,⟨hm,ha⟩,h3⟩:=P6 au l zy hb
 refine ar [0,1,2] [] [] 50 ?_;apply ax [2,8] [(66,50)] [] 100
 .simp [AB]
  refine Cu h3 zw ?_
  simp[AB];rfl
 refine ar [2,8,9] [(50,50)] [] 140 ?_;refine AI (Ag (ι:=List AJ × ByteArray) (λ p=>⟨67,[(2,.sc (.string p.2)),(8,.rs 50 0 o.length),(9,.rs 60 0 p.1.length)],[(50,some ⟨13,o.map sC,0⟩),(60,some ⟨13,p.1.map sC,0⟩)],200⟩) (λ p=>G7 au l p.1/\(∀ x:AJ,p.1[0]? = some x->x.nu+(p.1.length:Int)<=200/\0<x.nu/\Df x)) (λ p=>match p.1 with | []=>1000 | x::_=>Int.toNat (AJ.nu x)) ([],d) ⟨.nil,zz⟩ (Le.nw [(50,50)] [(60,13)] (hh:=by simp;exact Av.eq zw zz)) ?_)
 rintro⟨O,d⟩ ⟨hO,u⟩
 simp only at hO u
 have ho:O.length<=199:=by
  cases O with
  | nil=>simp
  | cons x O=>have:=u x rfl;simp at this ⊢;omega
 refine AI (ar [2,8,9,10] [(50,50),(60,60)] [] 240 ?_);refine AC (ar [2,8,9,10,11] [(50,50),(60,60)] [] 280 ?_);refine AI (Ag (ι:=Int × Nat) (λ p=>⟨67,[(2,.sc (.string d)),(8,.rs 50 0 o.length),(9,.rs 60 0 O.length),(10,.I p.1),(11,.I p.2)],[(50,some ⟨13,o.map sC,0⟩),(60,some ⟨13,O.map sC,0⟩)],300⟩) (λ p=>p.2<=o.length /\ -1<=p.1/\p.1<p.2) (λ p=>o.length - p.2) (-1,0) ⟨zz,zz,zz⟩ (B4 [(50,50),(60,60)] []) ?_)
 rintro⟨f,i⟩ ⟨hi,hd,hf⟩
 simp only at hi hd hf ⊢;refine AC (BP ⟨67,[(2,.sc (.string d)),(8,.rs 50 0 o.length),(9,.rs 60 0 O.length),(10,.I f),(11,.I i),(18,.B (decide (i<o.length)))],[(50,some ⟨13,o.map sC,0⟩),(60,some ⟨13,O.map sC,0⟩)],400⟩ [(50,50),(60,60)] [] ?_);refine AD _ rfl (λ h=>AE ?_) λ h=>Aa (Ab ?_)
 .rw [Qb] at h
  obtain⟨s,hs⟩:=AL (o[i]);have hg:o[i]? = some s:=by rw[hs];exact Qa h
  have he:=Ci h;refine Bn (ι:=Int) (λ f=>⟨67,[(2,.sc (.string d)),(8,.rs 50 0 o.length),(9,.rs 60 0 O.length),(10,.I f),(11,.I i)],[(50,some ⟨13,o.map sC,0⟩),(60,some ⟨13,O.map sC,0⟩)],1000⟩) (λ f=>-1<=f/\f<(i+1:Nat)) ?_ λ f hf=>?_
  .refine AI ?_
   apply ax [2,8,9,10,11,28] [(50,50),(60,60)] [] 600
   .simp [h,hg,<- hs,AB]
    rfl
   refine AD _ rfl (λ h2=>?_) λ h2=>?_
   .refine AU rfl ?_
    simp;exact⟨i,zy,B4 [(50,50),(60,60)] []⟩
   exact AE ⟨f,zy,B4 [(50,50),(60,60)] []⟩
  refine AU rfl ?_;simp[he];exact⟨f,i+1,⟨zy,hf.1,hf.2⟩,zy,AY [(50,50),(60,60)] []⟩
 have h4:i=o.length:=by simp at h;omega
 rw[h4] at hf
 clear h h4 hi
 refine AC ?_;rcases(by omega:f<0∨0<=f) with h5 | hpos
 .apply ay [8,9,10,47] [(50,50),(60,60)] [] 1200
  .simp [h5,AB]
   exact⟨rfl,rfl⟩
  refine AD _ rfl (λ _=>?_) λ h=>by cases h
  refine ar [6,7] [] [] 1300 ?_;refine AO (Af.mk (.inr rfl) ([],false) ⟨zz,.nil⟩ ?_)
  exact AG.out [] [] rfl zz zz (by simp;exact Lv) zz
 obtain⟨m,rfl⟩:∃ m:Nat,f=m:=⟨f.toNat,zy⟩
 have q:m<o.length:=zy
 obtain⟨s,hs⟩:=AL (o[m]);have hg:o[m]? = some s:=by rw[hs];exact Qa q
 obtain⟨h6,hj,h0⟩:=ha s (by rw[hs];exact Qi q)
 have hk:=h0.ok.2.2.2.1.1;have h7:=λ x=>NE s x (hb s h6) zy zy
 have h8:¬ (m:Int)<0:=zy
 refine BM ⟨67,[(8,.rs 50 0 o.length),(9,.rs 60 0 O.length),(10,.I m),(47,.B (decide (∃ x,O[0]? = some x/\¬ Fj s x)))],[(50,some ⟨13,o.map sC,0⟩),(60,some ⟨13,O.map sC,0⟩)],1200⟩ ?_ ?_
 .cases O with
  | nil =>
    simp[h8,AB];exact⟨rfl,B4 [(50,50),(60,60)] []⟩
  | cons x O =>
    simp[h8,q,hg,<- hs,AB];refine AT (h7 x) zw ?_
    simp[AB];exact⟨rfl,B4 [(50,50),(60,60)] []⟩
 refine AD _ rfl (λ h=>?_) λ h=>AE ?_
 .refine ar [6,7] [] [] 1300 ?_
  refine AO (Af.mk (.inr rfl) ([],false) ⟨zz,.nil⟩ ?_)
  exact AG.out [] [] rfl zz zz (by simp;exact Lv) zz
 have hF:∀ x,O[0]? = some x->Fj s x:=λ x hx=>by
  rw[Qd] at h;exact Classical.byContradiction λ hn=>h ⟨x,hx,hn⟩
 clear h
 have h9:G7 au l (s::O):=hO.cons ⟨h6,hj,h0⟩ hF;apply ax [8,9,10] [(50,50),(1248,60)] [] 1400
 .simp [q,hg,<- hs,Ba,AB]
  refine⟨zy,zy,?_⟩
  rfl
 refine AC ?_;apply ax [8,9,10,60] [(50,50),(60,60)] [] 1500
 .simp [q,hg,<- hs,AB]
  rfl
 refine AD _ rfl (λ h=>?_) λ h=>AE ?_
 .refine ar [6,7] [(60,60)] [] 1600 ?_
  refine AO (Af.mk (.inr rfl) (s::O,true) ⟨zu,h9⟩ ?_)
  exact AG.out [] [60] rfl zz zz (by simp[AB,Nat.add_comm 1,Ba];exact .refl _) zz
 refine AU rfl ?_;simp[q,hg,<- hs,AB];have hq:s.nu≠0:=by simpa using h
 refine⟨s::O,⟨h9,λ x hx=>?_⟩,?_,s.pr,AN [(50,50),(60,60)] [] (by simp[Nat.add_comm 1]) zw⟩
 .obtain rfl:s=x:=by simpa using hx
  refine⟨?_,zy,h0⟩
  cases O with
  | nil=>simp;omega
  | cons y O =>
    have h1:=(hF y rfl).2.1;have h2:=(u y rfl).1;simp at h2 ⊢;omega
 .cases O with
  | nil=>simp;omega
  | cons y O =>
    have h1:=(hF y rfl).2.1;simp only;omega
end Go.Proofs.YtklclphfcibagaaGreat
