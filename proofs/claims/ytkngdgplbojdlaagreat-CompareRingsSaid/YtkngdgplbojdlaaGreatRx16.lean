/- Texts of this claim,merged. -/
import Derived.Test.YtkngdgplbojdlaaGreatRx15
import Derived.Test.YtkngdgplbojdlaaGreatRx13
import Derived.Test.YtkngdgplbojdlaaGreatRx14
import Derived.Test.YtkngdgplbojdlaaGreatRx11
import Derived.Test.YtkngdgplbojdlaaGreatRx7
import Derived.Test.YtkngdgplbojdlaaGreatRx10
import Derived.Shelf.SlSortCmp.WholeK
import Derived.Test.YtkngdgplbojdlaaGreatProg
import Derived.LoopN
import Derived.BigQuiet
import Derived.Deep.RegionHeld3
import Derived.Deep.DrawnRows
import Derived.Test.YtkngdgplbojdlaaGreatRx5
set_option linter.unusedSimpArgs false
set_option linter.unusedVariables false
set_option linter.unusedSectionVars false
namespace Go.Proofs.YtkngdgplbojdlaaGreat
open Go
theorem zao.k2n {rs : List (Nat × Option (Bool × Nat))} {st : St} {vs : List AV} {res : AV} {e0 e1 e : Ent} (i : Nat) (hi : 2<=i) (h1 : zgy st rs=some vs) (hw : Wk (conv [(0,0),(1,1),(i,2)] [] st.hp 4 (resV vs)) res)
  (h0 : (st.hp 0).map (zay [(0,0),(1,1),(i,2)] [] st.hp 4)=some e0) (h2 : (st.hp 1).map (zay [(0,0),(1,1),(i,2)] [] st.hp 4)=some e1) (he : (st.hp i).map (zay [(0,0),(1,1),(i,2)] [] st.hp 4)=some e) : zao rs 2 st res [some e0,some e1,some e]:=by
 have e2 : List.range 2++[i]=[0,1,i]:=rfl;refine ⟨vs,h1,[i],[],?_,by simpa using hi,by simp,?_,?_⟩
 .rw [e2]
  simp;omega
 .rw [e2]
  exact hw
 .rw [e2]
  show [_,_,_]=_;have h0' : Option.map (zay (([0,1,i] : List Nat).zipIdx) [] st.hp 4) (st.hp 0)=some e0:=h0;have h2' : Option.map (zay (([0,1,i] : List Nat).zipIdx) [] st.hp 4) (st.hp 1)=some e1:=h2;have he' : Option.map (zay (([0,1,i] : List Nat).zipIdx) [] st.hp 4) (st.hp i)=some e:=he;simp only [List.map_cons,List.map_nil,h0',h2',he']
theorem zao.k2 {rs : List (Nat × Option (Bool × Nat))} {st : St} {vs : List AV} {res : AV} {e0 e1 : Ent} (h1 : zgy st rs=some vs) (hw : Wk (conv [(0,0),(1,1)] [] st.hp 4 (resV vs)) res)
  (h0 : (st.hp 0).map (zay [(0,0),(1,1)] [] st.hp 4)=some e0) (h2 : (st.hp 1).map (zay [(0,0),(1,1)] [] st.hp 4)=some e1) : zao rs 2 st res [some e0,some e1] :=
 ⟨vs,h1,[],[],by decide,by simp,by simp,hw,by
  show [_,_]=_;have h0' : Option.map (zay ((List.range 2++[] : List Nat).zipIdx) [] st.hp 4) (st.hp 0)=some e0:=h0;have h2' : Option.map (zay ((List.range 2++[] : List Nat).zipIdx) [] st.hp 4) (st.hp 1)=some e1:=h2
  simp only [h0',h2']⟩
set_option maxRecDepth 100000 in
theorem zpg {N : Nat} {D b : List Int} {R : List (List AV)} (hR : MapF R (camF D b)) (k : Int) : zaj Tryz.prog zaV [.I k,.pt 0 0 0] [⟨1,[[.mp 1]],0⟩,⟨0,R,0⟩] (.B (decide (k∈D))) [some ⟨1,[[.mp 1]],0⟩,some ⟨0,R,0⟩]:=by
 refine zlB.ac ?_;show awp _ 2 _ _ ⟨13,[(0,.I k),(1,.pt 0 0 0)],[(0,some ⟨1,[[.mp 1]],0⟩),(1,some ⟨0,R,0⟩)],16⟩;have hfind:=hR.is.find;have hsome:=zjC D b k
 have hgd : ∃ u v,(camF D b k).getD (toAV (Value.agg #[Value.int IntKind.i64 0,Value.bool false])) = .agg [.sc u,.sc v]:=by
  cases hc : camF D b k with
  | none=>exact ⟨_,_,ztc⟩
  | some x =>
    obtain ⟨u,v,rfl⟩:=zh4 _ _ _ _ hc;exact ⟨u,v,rfl⟩
 obtain ⟨u,v,huv⟩:=hgd;refine rk (s:=?s1) [0,1] [0,1] rfl ?o1 ?q1
 case o1=>simp; rfl
 refine zaa ⟨13,[(5,.B (decide (k∈D)))],[(0,some ⟨1,[[.mp 1]],0⟩),(1,some ⟨0,R,0⟩)],200⟩ rfl ?_ ?_
 .simp [hfind,hsome,huv]
  exact Le.go [(0,0),(1,1)] [] rfl rfl (by simp) (by simp [hR.conv'])
 refine zaa ⟨13,[(3,.B (decide (k∈D)))],[(0,some ⟨1,[[.mp 1]],0⟩),(1,some ⟨0,R,0⟩)],300⟩ rfl ?_ ?_
 .simp
  exact Le.go [(0,0),(1,1)] [] rfl rfl (by simp) (by simp [hR.conv'])
 refine zai ?_;exact ⟨.inr rfl,zao.k2 rfl (by simp) (by simp) (by simp [hR.conv'])⟩
set_option maxRecDepth 100000 in
set_option maxHeartbeats 1000000 in
theorem zuo {D b : List Int} {R : List (List AV)} (hR : MapF R (camF D b)) (N : Nat) (hN : N<=1000000) :
  zaj Tryz.prog zbt [.I N,.fn (.func zaV) [] [.pt 0 0 0]] [⟨1,[[.mp 1]],0⟩,⟨0,R,0⟩] (.rs 2 0 (inD D N).length) [some ⟨1,[[.mp 1]],0⟩,some ⟨0,R,0⟩,some ⟨1,zag (inD D N),0⟩]:=by
 refine zgi.acalls (nbz rfl) (nbz rfl) (by simp) ?_
 show awp _ 2 _ _ ⟨20,[(0,.I N),(1,.fn (.func zaV) [] [.pt 0 0 0])],[(0,some ⟨1,[[.mp 1]],0⟩),(1,some ⟨0,R,0⟩)],16⟩;refine zaa ⟨20,[(0,.I N),(1,.fn (.func zaV) [] [.pt 0 0 0])],[(0,some ⟨1,[[.mp 1]],0⟩),(1,some ⟨0,R,0⟩)],24⟩ rfl ?_ ?_
 .simp
  exact Le.go [(0,0),(1,1)] [] rfl rfl (by simp) (by simp [hR.conv'])
 refine zaa ⟨20,[(0,.I N),(1,.fn (.func zaV) [] [.pt 0 0 0]),(5,.rs 50 0 0)],[(0,some ⟨1,[[.mp 1]],0⟩),(1,some ⟨0,R,0⟩),(50,some ⟨1,[],0⟩)],100⟩ rfl ?_ ?_
 .simp
  refine Le.lst [(0,0),(1,1)] [] [(50,1)] rfl (by simp) (by simp) (by simp) (by simp) (by simp) (by simp) (by simp) (by simp [Up,conv]) ?_
  simp [hR.conv']
  exact ⟨zaN.rfl' (Nat.zero_le _),zaN.rfl' (Nat.zero_le _)⟩
 refine zab ?_;refine zaa ⟨20,[(1,.fn (.func zaV) [] [.pt 0 0 0]),(5,.rs 50 0 0),(7,.I N),(8,.I 0)],[(0,some ⟨1,[[.mp 1]],0⟩),(1,some ⟨0,R,0⟩),(50,some ⟨1,[],0⟩)],200⟩ rfl ?_ ?_
 .simp
  exact Le.go [(0,0),(1,1),(50,50)] [] rfl rfl (by simp [conv]) (by simp [hR.conv'])
 refine zaf ?_;refine zas (ι:=Nat) (λ k=>⟨20,[(1,.fn (.func zaV) [] [.pt 0 0 0]),(5,.rs 50 0 (inD D k).length),(7,.I N),(8,.I k)],[(0,some ⟨1,[[.mp 1]],0⟩),(1,some ⟨0,R,0⟩),(50,some ⟨1,zag (inD D k),0⟩)],200⟩) (λ k=>k<=N) (λ k=>N - k) 0 (Nat.zero_le _) (Le.go [(0,0),(1,1),(50,50)] [] rfl rfl (by simp [conv,inD]) (by simp [hR.conv',inD])) ?_
 intro k hk;have hwl:=zr1 D k;refine zaa ⟨20,[(1,.fn (.func zaV) [] [.pt 0 0 0]),(5,.rs 50 0 (inD D k).length),(7,.I N),(8,.I k),(9,.B (decide (k<N)))],[(0,some ⟨1,[[.mp 1]],0⟩),(1,some ⟨0,R,0⟩),(50,some ⟨1,zag (inD D k),0⟩)],300⟩ rfl ?_ ?_
 .simp
  exact Le.go [(0,0),(1,1),(50,50)] [] rfl rfl (by simp [conv]) (by simp [hR.conv',fcd])
 refine zab ?_;refine zad _ rfl (λ h=>?_) λ h=>?_
 .simp at h
  have hw2 : IntKind.i64.wrap ((k : Int)+1)=(k : Int)+1:=w6;have hnext:=zoZ D k;refine zae ?_;refine zaO (ι:=Unit) (λ _=>⟨20,[(1,.fn (.func zaV) [] [.pt 0 0 0]),(5,.rs 50 0 (inD D (k+1)).length),(7,.I N),(8,.I k)],[(0,some ⟨1,[[.mp 1]],0⟩),(1,some ⟨0,R,0⟩),(50,some ⟨1,zag (inD D (k+1)),0⟩)],1000⟩) (λ _=>True) ?_ λ _ _=>?_
  .rw [hnext]
   obtain ⟨W,hW⟩ : ∃ W,W=inD D k:=⟨_,rfl⟩;rw [<- hW] at hwl ⊢;refine zaf ?_;refine zaa ⟨20,[(1,.fn (.func zaV) [] [.pt 0 0 0]),(5,.rs 50 0 W.length),(6,.I k),(7,.I N),(8,.I k)],[(0,some ⟨1,[[.mp 1]],0⟩),(1,some ⟨0,R,0⟩),(50,some ⟨1,zag W,0⟩)],400⟩ rfl ?_ ?_
   .simp
    exact Le.go [(0,0),(1,1),(50,50)] [] rfl rfl (by simp [conv]) (by simp [hR.conv',fcd])
   refine zaa ⟨20,[(1,.fn (.func zaV) [] [.pt 0 0 0]),(5,.rs 50 0 W.length),(6,.I k),(7,.I N),(8,.I k),(13,.B (decide ((k : Int)∈D)))],[(0,some ⟨1,[[.mp 1]],0⟩),(1,some ⟨0,R,0⟩),(50,some ⟨1,zag W,0⟩)],500⟩ rfl ?_ ?_
   .simp
    refine zjX (i:=0) (j:=1) (by decide) rfl rfl (by simp) (by simp [hR.conv']) (zpg (N:=N) hR k) (by simp) (by simp) ?_
    simp [hR.conv']
    exact Le.go [(0,0),(1,1),(50,50)] [] rfl rfl (by simp [conv]) (by simp [hR.conv',fcd])
   refine zad _ rfl (λ h5=>?_) λ h5=>?_
   .rw [decide_eq_true_eq] at h5
    rw [if_pos h5];have hmw : ∀ g : Int->List AV,List.take W.length (List.map g W)=List.map g W:=λ g=>List.take_of_length_le (by simp)
    refine zav rfl ?_;simp [hmw];exact ⟨by omega,by omega,Le.go [(0,0),(1,1),(524,50)] [] rfl rfl (by simp [conv]) (by simp [hR.conv',fcd])⟩
   .rw [decide_eq_false_iff_not] at h5
    rw [if_neg h5,List.append_nil];refine zae ?_;exact ⟨(),trivial,Le.go [(0,0),(1,1),(50,50)] [] rfl rfl (by simp [conv]) (by simp [hR.conv',fcd])⟩
  refine zav rfl ?_;simp [hw2];exact ⟨k+1,by omega,by omega,Le.go [(0,0),(1,1),(50,50)] [] rfl rfl (by simp [conv,hw2]) (by simp [hR.conv',fcd])⟩
 simp at h;obtain rfl : k=N:=by omega
 refine zaq ?_;refine hit ?_;refine zaa ⟨20,[(4,.rs 50 0 (inD D k).length)],[(0,some ⟨1,[[.mp 1]],0⟩),(1,some ⟨0,R,0⟩),(50,some ⟨1,zag (inD D k),0⟩)],400⟩ rfl ?_ ?_
 .simp
  exact Le.go [(0,0),(1,1),(50,50)] [] rfl rfl (by simp) (by simp [hR.conv',fcd])
 refine zai ?_;exact ⟨.inr rfl,zao.k2n 50 (by omega) rfl (by simp) (by simp) (by simp [hR.conv']) (by simp [fcd])⟩
theorem zao.k1n {rs : List (Nat × Option (Bool × Nat))} {st : St} {vs : List AV} {res : AV} {e0 e : Ent} (i : Nat) (hi : 1<=i) (h1 : zgy st rs=some vs) (hw : Wk (conv [(0,0),(i,1)] [] st.hp 4 (resV vs)) res) (h0 : (st.hp 0).map (zay [(0,0),(i,1)] [] st.hp 4)=some e0) (he : (st.hp i).map (zay [(0,0),(i,1)] [] st.hp 4)=some e) : zao rs 1 st res [some e0,some e] :=
 ⟨vs,h1,[i],[],by simp [List.range,List.range.loop]; omega,by simpa using hi,by simp,by simpa [List.range,List.range.loop] using hw,by simpa [List.range,List.range.loop] using ⟨by simpa using h0,by simpa using he⟩⟩
@[simp] theorem zyN {i : Nat} : cellsOf (.mp i)=some [.mp i]:=(rfl)
set_option maxRecDepth 100000 in
set_option maxHeartbeats 2000000 in
theorem zzs (N : Nat) (A : List Ed) (f0 : List Int) (hn : zbX ⟨N,A⟩) (hf0 : zaJ N A f0) :
  ∃ f : List Int,(zaJ N A f /\ ∀ f',zaJ N A f'->valF A f'<=valF A f)/\zaj Tryz.prog ziI [eN ⟨N,A⟩,ints f0] [] (.rs 0 0 A.length) [some ⟨1,zag f,0⟩]:=by
 refine znT.acallsX (args:=[eN ⟨N,A⟩,ints f0]) (hs:=[]) (λ f=>.rs 0 0 A.length) (λ f=>[some ⟨1,zag f,0⟩]) (λ f : List Int=>zaJ N A f /\ ∀ f',zaJ N A f'->valF A f'<=valF A f) (nbz rfl) (nbz rfl) (λ _=>by simp) ?_
 show awp _ 0 _ _ ⟨14,[(0,eN ⟨N,A⟩),(1,ints f0)],[],16⟩;have hno:=zgx hn;have hfl:=hf0.fit.len;have hopen:=λ (f : List Int)=>zuK N A f A.length hn;have hpush:=λ (f : List Int) (hf : zaJ N A f)=>zAp N A f hn hf;have hal:=hn.2.2.1;simp only at hal;have hcl:=zpY f0 (by omega)
 rw [hfl] at hcl;have htake : ∀ g : Int->List AV,List.take A.length (List.map g f0)=List.map g f0:=λ g=>List.take_of_length_le (by simp; omega)
 refine rs [1,2] [] [16] ?_;refine zaC ⟨14,[(5,.pt 64 0 0)],[(48,some ⟨1,zag f0,0⟩),(64,some ⟨4,[rC N A (.rs 48 0 A.length)],0⟩)],80⟩ rfl ?_ ?_
 .simp
  refine zbz hcl (by simp) ?_
  simp;refine zcz (i:=48) rfl (by simp [fcd]) (hopen f0) (by simp) (by simp) ?_
  simp;exact ⟨rfl,LeI [(48,48),(64,64)] []⟩
 refine zab ?_;refine zaf ?_;refine zas (ι:=List Int) (λ f=>⟨14,[(5,.pt 64 0 0)],[(48,some ⟨1,zag f,0⟩),(64,some ⟨4,[rC N A (.rs 48 0 A.length)],0⟩)],80⟩) (λ f=>zaJ N A f) (λ f=>(capS (λ x=>decide (x=0)) A - valF A f).toNat) f0 hf0 (LeI [(48,48),(64,64)] []) ?_;intro f hf;obtain ⟨⟨c,f'⟩,hx,hcall⟩:=hpush f hf;simp only at hx hcall;refine zab ?_;refine zaa ⟨14,[(5,.pt 64 0 0),(11,.B c)],[(48,some ⟨1,zag f',0⟩),(64,some ⟨4,[rC N A (.rs 48 0 A.length)],0⟩)],100⟩ rfl ?_ ?_
 .simp
  refine zcz (i:=48) rfl (by simp [fcd]) hcall (by simp) (by simp) ?_
  simp;exact LeI [(48,48),(64,64)] []
 refine zad _ rfl (λ h4=>?_) λ h4=>?_
 .have hc : c=true:=h4
  subst hc;simp only [if_true] at hx;have hbnd:=zfH (S:=λ x=>decide (x=0)) hno hx.1 (by simp) (by simp)
  refine zae ?_;refine zaf ?_;refine zae ?_;exact ⟨f',hx.1,by have:=hx.2; omega,LeI [(48,48),(64,64)] []⟩
 have hc : c=false:=h4;subst hc;simp only [Bool.false_eq_true,if_false] at hx;obtain ⟨rfl,hm⟩:=hx;refine zaq ?_;refine hit ?_;refine zaa ⟨14,[(4,.rs 48 0 A.length)],[(48,some ⟨1,zag f',0⟩)],200⟩ rfl ?_ ?_
 .simp
  exact LeI [(48,48)] []
 refine zai ?_;exact zm0.mk (.inr rfl) f' ⟨hf,hm⟩ (zao.out [48] [] rfl (by simp) (by simp) (by simp) (by simp [fcd]))
set_option maxRecDepth 100000 in
set_option maxHeartbeats 2000000 in
theorem ztL (N : Nat) (A : List Ed) (hn : zbX ⟨N,A⟩) :
  ∃ f : List Int,(zaJ N A f /\ ∀ f',zaJ N A f'->valF A f'<=valF A f)/\zaj Tryz.prog zhQ [eN ⟨N,A⟩] [] (.tup [.rs 0 0 A.length,.I 0]) [some ⟨1,zag f,0⟩]:=by
 have hno:=zgx hn;obtain ⟨f,hf,hg⟩:=zzs N A _ hn (zko hno);refine ⟨f,hf,?_⟩;have hchk:=zkg ⟨N,A⟩ (by have:=hn.2.2.1; simp only at this ⊢; omega)
 rw [if_pos hn] at hchk;have hal:=hn.2.2.1;simp only at hal;have hfl:=hf.1.fit.len;refine zqi.ac ?_;show awp _ 0 _ _ ⟨16,[(0,eN ⟨N,A⟩)],[],16⟩;refine rs [1] [] [16] ?_;refine zab ?_;refine rx (s:=?s2) [1,4] [] [] rfl ?o2 ?q2
 case o2=>simp; refine zap hchk (by simp) ?_; simp; rfl
 refine rs [1,4,8] [] [] ?_;refine zad _ rfl (λ h4=>by cases h4) λ h4=>?_
 refine zae ?_;refine zaC ⟨16,[(2,.rs 48 0 A.length),(3,.I 0)],[(48,some ⟨1,zag f,0⟩)],300⟩ rfl ?_ ?_
 .simp
  refine ⟨by omega,by omega,?_⟩
  refine zm4 [112] hg (by simp [List.map_const']) (.rs _ _ _) zv4 ?_
  simp;exact ⟨rfl,LeI [(120,48)] []⟩
 refine zai ?_;exact ⟨.inr rfl,zao.out [48] [] rfl (by simp) (by simp) (by simp) (by simp [fcd])⟩
set_option maxRecDepth 100000 in
set_option maxHeartbeats 2000000 in
theorem zl7 (N : Nat) (A : List Ed) (f : List Int) (hn : zbX ⟨N,A⟩) (hf : zaJ N A f) (hm : ∀ f',zaJ N A f'->valF A f'<=valF A f) :
  zaj Tryz.prog zhj [eN ⟨N,A⟩,.rs 0 0 A.length] [⟨1,zag f,0⟩] (.rs 1 0 (zgT N A).length) [some ⟨1,zag f,0⟩,some ⟨1,zag (zgT N A),0⟩]:=by
 have hno:=zgx hn;obtain ⟨⟨D,b,R⟩,⟨hb,hcl,hR⟩,hcall⟩:=ztd N A f hn hf.fit;simp only at hb hcl hR hcall;have hopen:=zuK N A f A.length hn;have hnear : inD D N=zgT N A:=zo8 hno hf hm hb.tree hb.mem0 (zrv hno hf hm hb) hcl;have hwh:=zuo hR N (by have:=hn.2.1; simp only at this; omega)
 rw [hnear] at hwh;have hfl:=hf.fit.len;have htake : ∀ g : Int->List AV,List.take A.length (List.map g f)=List.map g f:=λ g=>List.take_of_length_le (by simp; omega)
 refine zpw.acalls (nbz rfl) (nbz rfl) (by simp) ?_
 show awp _ 1 _ _ ⟨14,[(0,eN ⟨N,A⟩),(1,.rs 0 0 A.length)],[(0,some ⟨1,zag f,0⟩)],16⟩;refine zaa ⟨14,[(1,.rs 0 0 A.length),(2,.pv (nC ⟨N,A⟩))],[(0,some ⟨1,zag f,0⟩)],32⟩ rfl ?_ ?_
 .simp
  exact LeI [(0,0)] [16]
 refine zaa ⟨14,[(2,.pv (nC ⟨N,A⟩)),(5,.pt 64 0 0)],[(0,some ⟨1,zag f,0⟩),(64,some ⟨1,[[.mp 56]],0⟩),(56,some ⟨0,R,0⟩)],100⟩ rfl ?_ ?_
 .simp
  refine zcz (i:=0) rfl (by simp [fcd]) hopen (by simp) (by simp) ?_
  simp;refine zm4 [0] hcall (by simp [fcd,htake,hfl]) (.mp _) (hR.plain _ _) ?_
  simp;exact Le.go [(0,0),(64,64),(56,56)] [] rfl rfl (by simp) (by simp [fcd,hR.conv'])
 refine zaa ⟨14,[(4,.rs 57 0 (zgT N A).length)],[(0,some ⟨1,zag f,0⟩),(57,some ⟨1,zag (zgT N A),0⟩)],200⟩ rfl ?_ ?_
 .simp
  refine zjX (i:=64) (j:=56) (by decide) rfl rfl (by simp) (by simp [hR.conv']) hwh (by simp) (by simp [conv]) ?_
  simp;exact LeI [(0,0),(124,57)] []
 refine zai ?_;exact ⟨.inr rfl,zao.k1n 57 (by omega) rfl (by simp) (by simp [fcd]) (by simp [fcd])⟩
theorem zif (l : List Int) (hl : l.length<=1099511627776) : zaj Tryz.prog zcZ [ints l] [] (.rs 0 0 l.length) [some ⟨1,zag (srt l),0⟩]:=by
 refine zpc.ac ?_;show awp _ 0 _ _ ⟨6,[(0,ints l)],[],16⟩;have hs : zaj Tryz.prog zde [seqF l] [] (.rs 0 0 l.length) [some ⟨1,zag (srt l),0⟩]:=zvd l hl;refine rs [0] [] [] ?_;refine zaa ⟨6,[(2,.rs 50 0 l.length)],[(50,some ⟨1,zag (srt l),0⟩)],100⟩ rfl ?_ ?_
 .simp
  refine zap (zum l) (by simp) ?_
  simp;refine zbz hs (by simp [conv]) ?_
  simp;exact LeI [(40,50)] []
 refine zai ?_;exact ⟨.inr rfl,zao.out [50] [] rfl (by simp) (by simp) (by simp) (by simp [fcd])⟩
theorem zmQ (g : Gr) (p : Pol) (hg : GrOk g) (hN : g.size<20) (hs : p.seeds.length<=1099511627776) : zaj Tryz.prog zhq [eG g,eP p] [] (.rs 0 0 (ordL (zal g p.lv) p.seeds).length) [some ⟨1,zag (ordL (zal g p.lv) p.seeds),0⟩]:=by
 refine zo0.ac ?_;show awp _ 0 _ _ ⟨12,[(0,eG g),(1,eP p)],[],16⟩;have hel:=hg.edges_le;have hgl:=hg.gone_le;have hsz:=hg.1.2.1;have hlev:=zgO g p.lv (by omega) (by omega)
 have hord:=zkG (g:=zal g p.lv) (S:=p.seeds) (hg.level p.lv) hN hs;obtain ⟨o,ho⟩ : ∃ o,o=ordL (zal g p.lv) p.seeds:=⟨_,rfl⟩;rw [<- ho] at hord ⊢;refine rs [2,3] [] [16,24] ?_;refine zaC ⟨12,[(4,.rs 50 0 o.length)],[(50,some ⟨1,zag o,0⟩)],200⟩ rfl ?_ ?_
 .simp
  refine zap hlev (by simp) ?_
  simp;refine zbz hord (by simp) ?_
  simp;exact ⟨rfl,LeI [(88,50)] []⟩
 refine zai ?_;exact ⟨.inr rfl,zao.out [50] [] rfl (by simp) (by simp) (by simp) (by simp [fcd])⟩
theorem znK (l : List Int) (x : Int) (hl : l.length<=1000000) : zaj Tryz.prog zh8 [ints l,.I x] [] (.rs 0 0 (l.length+1)) [some ⟨1,zag (l++[x]),0⟩]:=by
 refine zpS.ac ?_;show awp _ 0 _ _ ⟨14,[(0,ints l),(1,.I x)],[],16⟩;refine rs [0,1] [] [] ?_;refine zaa ⟨14,[(4,.rs 50 0 (l.length+1))],[(50,some ⟨1,zag (l++[x]),0⟩)],200⟩ rfl ?_ ?_
 .have hsl : ∀ {id : Nat} {h : Nat->Option Ent} {K : AV->List Nat->List (Nat × Option Ent)->Prop},K (.vs 1 true (l.map λ n=>[AV.I n])) [] []->aK Tryz.prog 0 id (.slc 1 false true true) [ints l,.I (l.length : Nat),.I (l.length : Nat)] h K:=λ hK=>by
   rw [zmd];refine ⟨0,l.length,l.length,l.length,by simp,Nat.zero_le _,rfl,by simp,by simp,by simp,Nat.le_refl _,λ _=>rfl,rfl,?_⟩
   rw [List.drop_zero,Nat.sub_zero,List.take_of_length_le (by simp)]
   exact hK
  simp;refine hsl ?_;simp;exact ⟨by omega,by omega,LeI [(88,50)] []⟩
 refine zai ?_;exact ⟨.inr rfl,zao.out [50] [] rfl (by simp) (by simp) (by simp) (by simp [fcd])⟩
theorem zg0 (g : Gr) (p : Pol) (ks : List Int) (hg : GrOk g) (hp : zbu g.size p) (hk : ks.Nodup) (hr : ∀ k∈ks,0<=k/\k<g.size) (hs : p.seeds.length<=64) : zaj Tryz.prog zev [eG g,eP p,ints ks] [] (eN ⟨netN g,netA g p (zaM ks)⟩) []:=by
 refine zmf.ac ?_;show awp _ 0 _ _ ⟨18,[(0,eG g),(1,eP p),(2,ints ks)],[],16⟩;have hsz:=hg.1.2.1;have hr64 : ∀ k∈ks,0<=k/\k<64:=λ k h=>by have:=hr k h; omega
 have hlen:=zou hk hr64;have hJl:=zgS ks;have hsort:=zif ks (by omega)
 rw [zpo hk hr64,<- hlen] at hsort;have hnet:=zlN g p (zaM ks) hg hp (ziq hr) hs hJl;rw [<- zlR hg,show zbK g p (zaQ g p) (zaM ks)=netA g p (zaM ks) from rfl] at hnet
 obtain ⟨J,hJ⟩ : ∃ J,J=zaM ks:=⟨_,rfl⟩;obtain ⟨A,hA⟩ : ∃ A,A=netA g p (zaM ks):=⟨_,rfl⟩;rw [<- hA] at hnet ⊢;rw [<- hJ] at hnet hsort;refine rs [2,3,4,6] [32] [16,24] ?_;refine zaC ⟨18,[(6,.pt 32 0 0),(7,.pv (nC ⟨netN g,A⟩))],[(32,some ⟨2,[[.I 0,.nilS]],0⟩)],300⟩ rfl ?_ ?_
 .simp
  refine zbz hsort (by simp) ?_
  simp;refine zAj [64] (by simp) hnet (by simp [fcd,zac]) ?_
  simp;exact ⟨rfl,LeH [(32,32)] [104]⟩
 refine zaa ⟨18,[(6,.pt 32 0 0)],[(32,some ⟨2,[nC ⟨netN g,A⟩],0⟩)],400⟩ rfl ?_ ?_
 .simp [zat]
  exact LeH [(32,32)] []
 refine zai ?_;exact ⟨.inr rfl,zao.out [] [32] rfl (by simp) (by simp) (by simp) (by simp)⟩
def zzk (N : Nat) (A : List Ed) (f : List Int) : Prop:=zaJ N A f /\ ∀ f',zaJ N A f'->valF A f'<=valF A f
theorem znM (N : Nat) (A : List Ed) (k : Int) (hn : zbX ⟨N,A⟩) :
  ∃ f : List Int,zzk N A f/\zaj Tryz.prog zeE [eN ⟨N,A⟩,.I k] [] (.tup [.rs 0 0 A.length,.B (decide (valF A f=k))]) [some ⟨1,zag f,0⟩]:=by
 obtain ⟨f,hf,hmax⟩:=ztL N A hn;refine ⟨f,hf,?_⟩;have hfl:=hf.1.fit.len;have hal:=hn.2.2.1;simp only at hal;have hval:=zoK (f:=f) hn (by omega)
 rw [if_pos hf.1] at hval;have htake : ∀ g : Int->List AV,List.take A.length (List.map g f)=List.map g f:=λ g=>List.take_of_length_le (by simp; omega)
 refine zpp.ac ?_;show awp _ 0 _ _ ⟨19,[(0,eN ⟨N,A⟩),(1,.I k)],[],16⟩;refine rs [1,2] [] [16] ?_;refine zaa ⟨19,[(1,.I k),(2,.pv (nC ⟨N,A⟩)),(6,.rs 50 0 A.length)],[(50,some ⟨1,zag f,0⟩)],100⟩ rfl ?_ ?_
 .simp
  refine zbz hmax (by simp) ?_
  simp;exact LeI [(48,50)] []
 refine zaa ⟨19,[(4,.rs 50 0 A.length),(5,.B (decide (valF A f=k)))],[(50,some ⟨1,zag f,0⟩)],200⟩ rfl ?_ ?_
 .simp
  refine zi1 [50] hval (by simp [fcd,htake,hfl]) (.sc _) ?_
  simp;exact Le.go [(50,50)] [] rfl rfl (by simp <;> exact wkB (by rw [Bool.eq_iff_iff]; simp)) (by simp [fcd])
 refine zai ?_;exact ⟨.inr rfl,zao.out [50] [] rfl (by simp) (by simp) (by simp) (by simp [fcd])⟩
theorem zs9 (g : Gr) (p : Pol) : ∀ (n : Nat) (o : List Int),o.length=n->(refR g p o).length<=n
 | 0,o,h=>by
   obtain rfl:=List.eq_nil_of_length_eq_zero h;exact Nat.le_refl _
 | n+1,o,h=>by
   have hne : o≠[]:=λ e=>by rw [e] at h; cases h
   rw [<- List.dropLast_concat_getLast hne];have ih:=zs9 g p n o.dropLast (by rw [List.length_dropLast,h]; rfl)
   by_cases hc : zau g p (zaM (accR g p o.dropLast++[o.getLast hne]))
   .rw [ziL hc]; omega
   .rw [zpy hc,List.length_append,List.length_singleton]; omega
theorem zwh (N : Nat) (A : List Ed) : (zgT N A).length<=N:=by
 unfold zgT;exact Nat.le_trans (List.length_filter_le ..) (by simp)
set_option maxRecDepth 100000 in
set_option maxHeartbeats 8000000 in
theorem zim (g : Gr) (p : Pol) (hg : GrOk g) (hp : zbu g.size p) (hs : p.seeds.length<=64) (hN : g.size<20) :
  ∃ f : List Int,zod g p (zaM (accR g p (ordL (zal g p.lv) p.seeds))) f /\
    zaj Tryz.prog zd0 [eG g,eP p] [] (.tup [eAcc (accR g p (ordL (zal g p.lv) p.seeds)) f (refR g p (ordL (zal g p.lv) p.seeds)),.I 0]) []:=by
 have hsz:=hg.1.1;have hsz2:=hg.1.2.1;have hel:=hg.edges_le;have hgl:=hg.gone_le;have hchk:=zeO g p (by omega) (by omega) (by omega) (by have:=hp.2.2.2.1; omega)
 rw [if_pos hg,if_pos hp] at hchk;have hord:=zmQ g p hg hN (by omega)
 obtain ⟨o,ho⟩ : ∃ o,o=ordL (zal g p.lv) p.seeds:=⟨_,rfl⟩;have hor : ∀ k∈o,0<=k/\k<g.size:=λ k hk=>by rw [ho] at hk; have h:=zeV hk; exact h
 have hon : o.Nodup:=by rw [ho]; exact zcv _ _
 rw [<- ho] at hord ⊢
 have hol : o.length<=64:=by
  have:=zbm (b:=(List.range g.size.toNat).map λ i : Nat=>(i : Int)) hon λ x hx=>by
   have:=hor x hx;exact List.mem_map.2 ⟨x.toNat,List.mem_range.2 (by omega),by omega⟩
  simp at this;omega
 have h64 : ∀ a : List Int,(∀ x∈a,0<=x/\x<g.size) -> ∀ x∈a,0<=x/\x<64:=λ a h x hx=>by have:=h x hx; omega
 have hnv : ∀ a : List Int,(∀ x∈a,0<=x/\x<g.size)->zbX ⟨netN g,netA g p (zaM a)⟩:=λ a h=>zlU hg hp (zmg (ziq h)) hs (zgS a)
 have hserve : ∀ a : List Int,a.Nodup->(∀ x∈a,0<=x/\x<g.size) -> ∃ f,zod g p (zaM a) f/\zaj Tryz.prog zeE [eN ⟨netN g,netA g p (zaM a)⟩,.I (a.length : Nat)] [] (.tup [.rs 0 0 (netA g p (zaM a)).length,.B (@decide (zau g p (zaM a)) (Classical.propDecidable _))]) [some ⟨1,zag f,0⟩]:=λ a h1 h2=>by
  obtain ⟨f,hf,hc⟩:=znM _ _ (a.length : Nat) (hnv a h2);have hmf:=ziw hf.1 hf.2;refine ⟨f,⟨hf.1,hf.2,hmf.symm⟩,?_⟩;have hjl:=zou h1 (h64 a h2)
  have : decide (valF (netA g p (zaM a)) f=(a.length : Nat)) = @decide (zau g p (zaM a)) (Classical.propDecidable _):=by
   rw [decide_eq_decide];unfold zau;rw [hmf,hjl]
  rw [this] at hc;exact hc
 have haccn : ∀ i,(accR g p (o.take i)).Nodup:=λ i=>(hon.sublist ((zgp _ _ rfl).trans (List.take_sublist _ _)));have haccr : ∀ i,∀ x∈accR g p (o.take i),0<=x/\x<g.size:=λ i x hx=>hor x (List.mem_of_mem_take (zfF hx));obtain ⟨f,hf,hlast⟩:=hserve (accR g p o) (by have:=haccn o.length; rwa [List.take_length] at this) (by have:=haccr o.length; rwa [List.take_length] at this)
 refine ⟨f,hf,?_⟩;have hnl:=zg0 g p (accR g p o) hg hp (by have:=haccn o.length; rwa [List.take_length] at this) (by have:=haccr o.length; rwa [List.take_length] at this) hs
 have hlf:=hf.ok.fit.len;refine zrx.ac ?_;show awp _ 0 _ _ ⟨72,[(0,eG g),(1,eP p)],[],16⟩;refine rs [2,3,4] [32] [16,24] ?_;refine zab ?_;refine rx (s:=?s2) [2,3,4,6] [32] [] rfl ?o2 ?q2
 case o2=>simp; refine zap hchk (by simp) ?_; simp; rfl
 refine rs [2,3,4,18] [32] [] ?_;refine zad _ rfl (λ h=>by cases h) λ _=>?_
 refine zae ?_;refine zaa ⟨72,[(2,.pv (gC g)),(3,.pv (pC p)),(4,.pt 32 0 0),(7,.pt 40 0 0)],[(32,some ⟨3,[[.nilS,.nilS,.nilS]],0⟩),(40,some ⟨3,[[.nilS,.nilS,.nilS]],0⟩)],200⟩ rfl ?_ ?_
 .simp
  exact LeH [(32,32),(96,40)] []
 refine zab ?_;refine zaa ⟨72,[(2,.pv (gC g)),(3,.pv (pC p)),(4,.pt 32 0 0),(7,.pt 40 0 0),(23,ints o),(24,.I o.length),(25,.I 0)],[(32,some ⟨3,[[.nilS,.nilS,.nilS]],0⟩),(40,some ⟨3,[[.nilS,.nilS,.nilS]],0⟩)],400⟩ rfl ?_ ?_
 .simp
  refine zbz hord (by simp) ?_
  simp;exact Le.go [(32,32),(40,40)] [216] rfl rfl (by simp [fcd,zac]) (by simp)
 refine zaf ?_;have hR0 : refR g p []=[]:=rfl
 refine zas (ι:=Nat) (λ i=>⟨72,[(2,.pv (gC g)),(3,.pv (pC p)),(4,.pt 32 0 0),(7,.pt 40 0 0),(23,ints o),(24,.I o.length),(25,.I i)],
   [(32,some ⟨3,[[.nilS,.nilS,.nilS]],0⟩),(40,some ⟨3,[[ints (accR g p (o.take i)),.nilS,.rs 42 0 (refR g p (o.take i)).length]],0⟩),(42,some ⟨2,zbo (refR g p (o.take i)),0⟩)],500⟩)
  (λ i=>i<=o.length) (λ i=>o.length - i) 0 (Nat.zero_le _)
  (Le.lst [(32,32),(40,40)] [] [(42,2)] rfl (by simp) (by simp) (by simp) (by simp) (by simp) (by simp) (by simp) (by simp [Up]) (by simp [zl0,hR0,fcd]; exact ⟨zaN.rfl' (by simp),zaN.row rfl (by omega) (by simp [UpL,Up,Wk.refl]; exact Wk.nil _ _)⟩)) ?_
 intro i hi;have haN:=haccn i;have haR:=haccr i;have hal : (accR g p (o.take i)).length<=64:=Nat.le_trans (zoL _) (Nat.le_trans (List.length_take_le' i o) hol);have hRl:=zs9 g p _ (o.take i) rfl;have hRl2:=List.length_take_le' i o;have hyes:=λ k=>zc3 (g:=g) (p:=p) (o:=o.take i) (k:=k);have hno:=λ k=>zjE (g:=g) (p:=p) (o:=o.take i) (k:=k);have hryes:=λ k=>ziL (g:=g) (p:=p) (o:=o.take i) (k:=k);have hrno:=λ k=>zpy (g:=g) (p:=p) (o:=o.take i) (k:=k);have hmem : ∀ x∈accR g p (o.take i),x∈o.take i:=λ x hx=>zfF hx;obtain ⟨acc,hacc⟩ : ∃ acc,acc=accR g p (o.take i):=⟨_,rfl⟩;obtain ⟨R,hR⟩ : ∃ R,R=refR g p (o.take i):=⟨_,rfl⟩;rw [<- hacc] at haN haR hal hmem hyes hno hryes hrno;rw [<- hR] at hRl hryes hrno;rw [<- hacc,<- hR]
 refine zaa ⟨72,[(2,.pv (gC g)),(3,.pv (pC p)),(4,.pt 32 0 0),(7,.pt 40 0 0),(23,ints o),(24,.I o.length),(25,.I i),(26,.B (decide (i<o.length)))],
   [(32,some ⟨3,[[.nilS,.nilS,.nilS]],0⟩),(40,some ⟨3,[[ints acc,.nilS,.rs 42 0 R.length]],0⟩),(42,some ⟨2,zbo R,0⟩)],600⟩ rfl ?_ ?_
 .simp
  exact LeI [(32,32),(40,40),(42,42)] []
 refine zab ?_;refine zad _ rfl (λ h11=>?_) λ h11=>?_
 .simp at h11
  have hw1 : IntKind.i64.wrap ((i : Int)+1)=(i : Int)+1:=w6;obtain ⟨k,hk⟩ : ∃ k,k=o[i]:=⟨_,rfl⟩;have hkr:=hor _ (List.getElem_mem h11);rw [<- hk] at hkr;have hts : o.take (i+1)=o.take i++[k]:=by rw [List.take_succ_eq_append_getElem h11,hk]
  have hkacc : k∉acc:=λ h=>by
   have h2:=hmem k h;obtain ⟨j,hj,hjk⟩:=List.mem_iff_getElem.1 h2;rw [List.getElem_take] at hjk;rw [List.length_take] at hj;have:=(List.pairwise_iff_getElem.1 hon) j i (by omega) h11 (by omega)
   exact this (hjk.trans hk)
  have hks : ∀ x∈acc++[k],0<=x/\x<g.size:=λ x hx=>by
   rcases List.mem_append.1 hx with h | h
   .exact haR x h
   .rw [List.mem_singleton] at h; subst h; exact hkr
  have hkn : (acc++[k]).Nodup:=List.nodup_append.2 ⟨haN,by simp,λ a ha b hb=>by
   rw [List.mem_singleton] at hb;subst hb
   rintro rfl
   exact hkacc ha⟩
  have hwith:=znK acc k (by omega)
  have hnet:=zg0 g p (acc++[k]) hg hp hkn hks hs;obtain ⟨fl,hfl,hsv⟩:=hserve (acc++[k]) hkn hks;have hreach:=zl7 _ _ fl (hnv _ hks) hfl.ok hfl.most;have hflen:=hfl.ok.fit.len;have hnl2:=zwh (netN g) (netA g p (zaM (acc++[k])));have hyes:=hyes k;have hno:=hno k;have hryes:=hryes k;have hrno:=hrno k;rw [<- hts] at hyes hno hryes hrno;obtain ⟨A,hA⟩ : ∃ A,A=netA g p (zaM (acc++[k])):=⟨_,rfl⟩;obtain ⟨side,hside⟩ : ∃ side,side=zgT (netN g) A:=⟨_,rfl⟩;rw [<- hA] at hnet hsv hreach hflen hrno;rw [<- hside] at hreach hrno;have htf : ∀ h : Int->List AV,List.take A.length (List.map h fl)=List.map h fl:=λ h=>List.take_of_length_le (by simp; omega)
  obtain ⟨W,hW⟩ : ∃ W,W=acc++[k]:=⟨_,rfl⟩;have hWl : W.length=acc.length+1:=by rw [hW]; simp
  rw [<- hW] at hwith hnet hsv hyes hno hryes hrno;rw [<- hWl] at hwith;refine zae ?_
  refine zaO (ι:=Unit) (λ _=>⟨72,[(2,.pv (gC g)),(3,.pv (pC p)),(4,.pt 32 0 0),(7,.pt 40 0 0),(23,ints o),(24,.I o.length),(25,.I i)],
   [(32,some ⟨3,[[.nilS,.nilS,.nilS]],0⟩),(40,some ⟨3,[[ints (accR g p (o.take (i+1))),.nilS,.rs 42 0 (refR g p (o.take (i+1))).length]],0⟩),(42,some ⟨2,zbo (refR g p (o.take (i+1))),0⟩)],3000⟩) (λ _=>True) ?_ λ _ _=>?_
  .refine zaf ?_
   refine zaa ⟨72,[(2,.pv (gC g)),(3,.pv (pC p)),(4,.pt 32 0 0),(7,.pt 40 0 0),(9,.I k),(23,ints o),(24,.I o.length),(25,.I i)],
    [(32,some ⟨3,[[.nilS,.nilS,.nilS]],0⟩),(40,some ⟨3,[[ints acc,.nilS,.rs 42 0 R.length]],0⟩),(42,some ⟨2,zbo R,0⟩)],700⟩ rfl ?_ ?_
   .simp [h11,<- hk]
    exact LeI [(32,32),(40,40),(42,42)] []
   refine zaa ⟨72,[(2,.pv (gC g)),(3,.pv (pC p)),(4,.pt 32 0 0),(7,.pt 40 0 0),(9,.I k),(10,ints W),(23,ints o),(24,.I o.length),(25,.I i)],
    [(32,some ⟨3,[[.nilS,.nilS,.nilS]],0⟩),(40,some ⟨3,[[ints acc,.nilS,.rs 42 0 R.length]],0⟩),(42,some ⟨2,zbo R,0⟩)],800⟩ rfl ?_ ?_
   .simp
    refine zbz hwith (by simp) ?_
    simp;exact Le.go [(32,32),(40,40),(42,42)] [724] rfl rfl (by simp [fcd,zac]) (by simp [fcd])
   refine zaa ⟨72,[(2,.pv (gC g)),(3,.pv (pC p)),(4,.pt 32 0 0),(7,.pt 40 0 0),(9,.I k),(10,ints W),(11,.pv (nC ⟨netN g,A⟩)),(23,ints o),(24,.I o.length),(25,.I i)],
    [(32,some ⟨3,[[.nilS,.nilS,.nilS]],0⟩),(40,some ⟨3,[[ints acc,.nilS,.rs 42 0 R.length]],0⟩),(42,some ⟨2,zbo R,0⟩)],900⟩ rfl ?_ ?_
   .simp
    refine zap hnet (by simp) ?_
    simp;exact LeI [(32,32),(40,40),(42,42)] [832]
   refine zaa ⟨72,[(2,.pv (gC g)),(3,.pv (pC p)),(4,.pt 32 0 0),(7,.pt 40 0 0),(9,.I k),(10,ints W),(11,.pv (nC ⟨netN g,A⟩)),(12,.rs 43 0 A.length),(13,.B (@decide (zau g p (zaM W)) (Classical.propDecidable _))),(23,ints o),(24,.I o.length),(25,.I i)],
    [(32,some ⟨3,[[.nilS,.nilS,.nilS]],0⟩),(40,some ⟨3,[[ints acc,.nilS,.rs 42 0 R.length]],0⟩),(42,some ⟨2,zbo R,0⟩),(43,some ⟨1,zag fl,0⟩)],1000⟩ rfl ?_ ?_
   .simp
    refine zbz hsv (by simp) ?_
    simp;exact LeI [(32,32),(40,40),(42,42),(924,43)] []
   refine zab ?_
   refine zaa ⟨72,[(2,.pv (gC g)),(3,.pv (pC p)),(4,.pt 32 0 0),(7,.pt 40 0 0),(9,.I k),(10,ints W),(11,.pv (nC ⟨netN g,A⟩)),(12,.rs 43 0 A.length),(44,.B (@decide (zau g p (zaM W)) (Classical.propDecidable _))),(23,ints o),(24,.I o.length),(25,.I i)],
    [(32,some ⟨3,[[.nilS,.nilS,.nilS]],0⟩),(40,some ⟨3,[[ints acc,.nilS,.rs 42 0 R.length]],0⟩),(42,some ⟨2,zbo R,0⟩),(43,some ⟨1,zag fl,0⟩)],1100⟩ rfl ?_ ?_
   .simp
    exact LeI [(32,32),(40,40),(42,42),(43,43)] []
   refine zad _ rfl (λ h15=>?_) λ h15=>?_
   .have h15' : zau g p (zaM W):=@of_decide_eq_true _ (Classical.propDecidable _) h15
    have hy:=hyes h15';have hry:=hryes h15'
    refine zaa ⟨72,[(2,.pv (gC g)),(3,.pv (pC p)),(4,.pt 32 0 0),(7,.pt 40 0 0),(23,ints o),(24,.I o.length),(25,.I i)],
     [(32,some ⟨3,[[.nilS,.nilS,.nilS]],0⟩),(40,some ⟨3,[[ints W,.nilS,.rs 42 0 R.length]],0⟩),(42,some ⟨2,zbo R,0⟩)],1200⟩ rfl ?_ ?_
    .simp [zat]
     exact LeI [(32,32),(40,40),(42,42)] []
    refine zaq ?_;refine hit ?_;exact ⟨(),trivial,Le.go [(32,32),(40,40),(42,42)] [] rfl rfl (by simp) (by simp [hy,hry,fcd])⟩
   .have h15' : ¬ zau g p (zaM W):=@of_decide_eq_false _ (Classical.propDecidable _) h15
    have hn':=hno h15';have hrn:=hrno h15';have htR : ∀ h : Int × List Int->List AV,List.take R.length (List.map h R)=List.map h R:=λ h=>List.take_of_length_le (by simp)
    refine zae ?_;refine zcP rfl ?_;simp;refine zcz (i:=43) rfl (by simp [fcd]) hreach (by simp) (by simp) ?_
    simp [htR,zat];exact ⟨by omega,by omega,rfl,Le.go [(32,32),(40,40),(1164,42)] [1140] rfl rfl (by simp) (by simp [hn',hrn,fcd,zac])⟩
  refine zav rfl ?_;simp [hw1];exact ⟨i+1,by omega,by omega,Le.go [(32,32),(40,40),(42,42)] [] rfl rfl (by simp [hw1]) (by simp [fcd])⟩
 simp at h11;obtain rfl : i=o.length:=by omega
 rw [List.take_length] at hacc hR;rw [<- hacc] at hlast hnl hlf;have hl1 : ((acc.length : Nat) : Int)=acc.length:=rfl;obtain ⟨A,hA⟩ : ∃ A,A=netA g p (zaM acc):=⟨_,rfl⟩;rw [<- hA] at hnl hlast hlf;have htf : ∀ h : Int->List AV,List.take A.length (List.map h f)=List.map h f:=λ h=>List.take_of_length_le (by simp; omega)
 refine zaq ?_;refine hit ?_
 refine zaC ⟨72,[(4,.pt 32 0 0),(7,.pt 40 0 0)],
   [(32,some ⟨3,[[.nilS,.nilS,.nilS]],0⟩),(40,some ⟨3,[[ints acc,ints f,.vs 2 false (zbo R)]],0⟩)],1200⟩ rfl ?_ ?_
 .simp
  refine zap hnl (by simp) ?_
  simp;refine zbz hlast (by simp) ?_
  simp [zat];exact ⟨rfl,Le.go [(32,32),(40,40)] [42,664] rfl rfl (by simp) (by simp [fcd,zac,htf,hlf])⟩
 refine zaa ⟨72,[(4,.pt 32 0 0),(5,.I 0)],[(32,some ⟨3,[[ints acc,ints f,.vs 2 false (zbo R)]],0⟩)],1400⟩ rfl ?_ ?_
 .simp [zat]
  exact LeI [(32,32)] []
 refine zai ?_;rw [<- hacc,<- hR];exact ⟨.inr rfl,zao.out [] [32] rfl (by simp) (by simp) (by simp) (by simp)⟩
section
variable {P : Program} {np id : Nat} {h : Nat->Option Ent} {K : AV->List Nat->List (Nat × Option Ent)->Prop} {f : FuncId} {first capt args args' : List AV} {res : AV}
end
theorem zzn (L : List Int) (hl : L.length<=400) : ∃ (g : Gr) (b : Nat),(GrOk g/\2<=g.size/\g.size<=9/\b<=L.length)/\zaj Tryz.prog zdQ [.pt 0 0 0] [dice L 0] (eG g) [some (dice L b)] :=
 have h:=zsl L 0 (Nat.zero_le _)
 ⟨_,_,⟨h.ok,h.lo,h.hi,h.at_⟩,zxc L 0 hl (Nat.zero_le _)⟩
variable {g : Gr} {p : Pol}
theorem Rise.pair {l : List Int} {lo hi : Int} (h : Rise l lo hi) : l.Pairwise (· < ·):=by
 have hlt : ∀ (j i : Nat) (hj : j<l.length) (hij : i<j),l[i]<l[j]:=by
  intro j
  induction j with
  | zero=>intro i _ hij; omega
  | succ j ih =>
    intro i hj hij;have h1:=(h (j+1) hj).2.2 (by omega)
    simp only [Nat.add_sub_cancel] at h1;rcases Nat.lt_or_ge i j with h2 | h2
    .have:=ih i (by omega) h2
     omega
    .have : i=j:=by omega
     subst this;exact h1
 exact List.pairwise_iff_getElem.2 λ i j hi hj hij=>hlt j i hj hij
theorem zeZ (acc f : List Int) (R : List (Int × List Int)) (k : Int) (hl : acc.length<=140737488355328) : zaj Tryz.prog zbT [eAcc acc f R,.I k] [] (.B (decide (k∈acc))) []:=by
 refine zis.ac ?_;show awp _ 0 _ _ ⟨9,[(0,eAcc acc f R),(1,.I k)],[],16⟩;refine zaa ⟨9,[(1,.I k),(2,.pv [ints acc,ints f,.vs 2 false (zbo R)])],[],100⟩ rfl ?_ ?_
 .simp
  exact LeH [] [16]
 refine zaa ⟨9,[(4,.B (decide (k∈acc)))],[],200⟩ rfl ?_ ?_
 .simp
  refine zap (zdj acc k hl) (by simp) ?_
  simp;exact LeH [] []
 refine zai ?_;exact ⟨.inr rfl,zao.one (by simp)⟩
variable {g : Gr} {p : Pol}
theorem ztP (g : Gr) (p : Pol) : (accR g p (ordL (zal g p.lv) p.seeds)).Nodup:=(zcv _ _).sublist (zgp _ _ rfl)
theorem h64 (hg : GrOk g) {a : List Int} (h : ∀ x∈a,0<=x/\x<g.size) : ∀ x∈a,0<=x/\x<64:=λ x hx=>by
 have:=h x hx;have:=hg.1.2.1;omega
variable {g : Gr} {p : Pol}
theorem zvR (w : Int->Int) (hw : ∀ x,0<=w x) : ∀ {s a : List Int},s.Nodup->(∀ x∈s,x∈a)->(s.map w).sum<=(a.map w).sum
 | [],a,_,_=>by
   have : ∀ a : List Int,0<=(a.map w).sum:=λ a=>by
    induction a with
    | nil=>exact Int.le_refl _
    | cons x a ih=>simp only [List.map_cons,List.sum_cons]; have:=hw x; omega
   exact this a
 | x::s,a,hn,h=>by
   rw [List.nodup_cons] at hn;have h1:=List.perm_cons_erase (h x (List.mem_cons_self ..));have ih:=zvR w hw (s:=s) (a:=a.erase x) hn.2 λ y hy=>(List.mem_erase_of_ne (by rintro rfl; exact hn.1 hy)).2 (h y (List.mem_cons_of_mem _ hy))
   have h2 : (a.map w).sum=((x::a.erase x).map w).sum:=by
    have hp : ∀ {a b : List Int},a.Perm b->(a.map w).sum=(b.map w).sum:=λ h=>by
     induction h with
     | nil=>rfl
     | cons x _ ih=>simp only [List.map_cons,List.sum_cons,ih]
     | swap x y l=>simp only [List.map_cons,List.sum_cons]; omega
     | trans _ _ i1 i2=>exact i1.trans i2
    exact hp h1
   rw [h2];simp only [List.map_cons,List.sum_cons];omega
variable {g : Gr} {p : Pol}
def zx5 (p : Pol) (S : List Int) (k : Int) (e : Ed) : Bool:=decide (e.f=k) && (decide (p.lv<=e.v) && S.contains e.t)
def decv (g : Gr) (p : Pol) (S : List Int) (k : Int) : Bool:=g.edges.any (zx5 p S k)
def totK (g : Gr) (p : Pol) (S : List Int) (k : Int) : Int:=if S.contains k && p.seeds.contains k then (zaQ g p).getD k.toNat 0 else if !S.contains k && decv g p S k then max 0 ((zaQ g p).getD k.toNat 0 - 1) else 0
def totB (g : Gr) (p : Pol) (S : List Int) (n : Nat) : Int:=((List.range n).map λ (i : Nat)=>totK g p S i).sum
theorem zuX (S : List Int) (n : Nat) : totB g p S (n+1)=totB g p S n+totK g p S n:=by
 unfold totB;rw [List.range_succ,List.map_append,List.sum_append];simp
theorem zks {α : Type} {q : α->Bool} {f w : α->Int} : ∀ {l : List α},(∀ x∈l,q x=true->f x<=w x)->(∀ x∈l,0<=w x)->((l.filter q).map f).sum<=(l.map w).sum
 | [],_,_=>Int.le_refl _
 | x::l,h1,h2=>by
   have ih:=zks (l:=l) (q:=q) (f:=f) (w:=w) (λ y hy=>h1 y (List.mem_cons_of_mem _ hy)) λ y hy=>h2 y (List.mem_cons_of_mem _ hy);have h3:=h2 x (List.mem_cons_self ..);have h4:=h1 x (List.mem_cons_self ..);rw [List.filter_cons]
   by_cases hq : q x=true
   .rw [if_pos hq]
    have:=h4 hq;simp only [List.map_cons,List.sum_cons];omega
   .rw [if_neg hq]
    simp only [List.map_cons,List.sum_cons];omega
theorem znf {α : Type} (f w : α->Int) : ∀ l : List α,(l.map λ x=>f x+w x).sum=(l.map f).sum+(l.map w).sum
 | []=>rfl
 | x::l=>by
   have:=znf f w l;simp only [List.map_cons,List.sum_cons,this];omega
def zhV (g : Gr) (p : Pol) (S : List Int) (x : Int) : Bool :=
 decide (x=0) || (decide (2<=x) && (if x % 2=0 then !S.contains ((x - 2) / 2) else !S.contains ((x - 3) / 2) && !decv g p S ((x - 3) / 2)))
theorem zlZ {S : List Int} {k : Int} (h : 0<=k) : zhV g p S (2+2*k) = !S.contains k:=by
 unfold zhV;rw [decide_eq_false (by omega),decide_eq_true (by omega),if_pos (by omega),show (2+2*k - 2) / 2=k by omega]
 rfl
theorem zp9 {S : List Int} {k : Int} (h : 0<=k) : zhV g p S (3+2*k)=(!S.contains k && !decv g p S k):=by
 unfold zhV;rw [decide_eq_false (by omega),decide_eq_true (by omega),if_neg (by omega),show (3+2*k - 3) / 2=k by omega]
 rfl
theorem zz0 (hg : GrOk g) (hp : zbu g.size p) (S : List Int) : zuR g p (zhV g p S)<=totB g p S g.size.toNat:=by
 have hcn:=zld (g:=g) hp
 have hc0 : ∀ x : Int,0<=(zaQ g p).getD x.toNat 0:=λ x=>by
  rw [List.getD_eq_getElem?_getD]
  cases hh : (zaQ g p)[x.toNat]? with
  | none=>simp
  | some v=>exact hcn v (List.mem_of_getElem? hh)
 obtain ⟨wA,hwA⟩ : ∃ wA : Int->Int,∀ k,wA k=if S.contains k && p.seeds.contains k then (zaQ g p).getD k.toNat 0 else 0:=⟨_,λ _=>rfl⟩
 obtain ⟨wB,hwB⟩ : ∃ wB : Int->Int,∀ k,wB k=if !S.contains k && decv g p S k then max 0 ((zaQ g p).getD k.toNat 0 - 1) else 0:=⟨_,λ _=>rfl⟩
 have hwA0 : ∀ k,0<=wA k:=λ k=>by
  have:=hc0 k;rw [hwA]; split <;> omega
 have hwB0 : ∀ k,0<=wB k:=λ k=>by
  rw [hwB]; split <;> omega
 have htot : ∀ k,totK g p S k=wA k+wB k:=λ k=>by
  unfold totK;rw [hwA,hwB]
  cases S.contains k <;> cases p.seeds.contains k <;> simp
 have hsum : totB g p S g.size.toNat=(((List.range g.size.toNat).map λ (i : Nat)=>(i : Int)).map wA).sum+((List.range g.size.toNat).map λ (i : Nat)=>wB (i : Int)).sum:=by
  unfold totB;rw [List.map_map,<- znf]
  congr 1
  exact List.map_congr_left λ x _=>htot _
 have hcl : (zaQ g p).length=g.size.toNat:=zcN;unfold zuR;simp only [zlP,netA,zbK,List.map_append,List.sum_append,List.map_map,List.filter_nil,List.map_nil,List.sum_nil];have hs0 : ∀ x∈p.seeds,0<=x/\x<g.size:=λ x hx=>by have:=hp.2.1.nodup.2 x hx; omega
 have h1 : ((p.seeds.filter λ x=>decide (0<(zaQ g p).getD x.toNat 0)).map ((λ e : Ed=>if zhV g p S e.f=true/\zhV g p S e.t=false then e.v else 0)∘λ x : Int=>(⟨0,2+2*x,(zaQ g p).getD x.toNat 0⟩ : Ed))).sum<=(((List.range g.size.toNat).map λ (i : Nat)=>(i : Int)).map wA).sum:=by
  have e1 : ((p.seeds.filter λ x=>decide (0<(zaQ g p).getD x.toNat 0)).map ((λ e : Ed=>if zhV g p S e.f=true/\zhV g p S e.t=false then e.v else 0)∘λ x : Int=>(⟨0,2+2*x,(zaQ g p).getD x.toNat 0⟩ : Ed)))=(p.seeds.filter λ x=>decide (0<(zaQ g p).getD x.toNat 0)).map wA:=by
   refine List.map_congr_left λ x hx=>?_;have hx1:=(List.mem_filter.1 hx).1;have h2:=(hs0 x hx1).1;have h3 : p.seeds.contains x=true:=List.contains_iff_mem.2 hx1;simp only [Function.comp];rw [hwA,h3,zlZ h2,show zhV g p S 0=true from rfl]
   cases S.contains x <;> simp
  rw [e1];refine zvR wA hwA0 ((ze8 hp.2.1.pair).filter _) λ x hx=>?_;have h2:=hs0 x (List.mem_filter.1 hx).1;exact List.mem_map.2 ⟨x.toNat,List.mem_range.2 (by omega),by omega⟩
 have h2 : (((List.range (zaQ g p).length).filter λ i=>decide (0<(zaQ g p).getD i 0)).map ((λ e : Ed=>if zhV g p S e.f=true/\zhV g p S e.t=false then e.v else 0)∘λ i : Nat=>(⟨2+2*(i : Int),3+2*(i : Int),(zaQ g p).getD i 0 - 1⟩ : Ed))).sum<=((List.range g.size.toNat).map λ (i : Nat)=>wB (i : Int)).sum:=by
  rw [hcl];refine zks (λ i hi hq=>?_) λ i _=>hwB0 _;simp only [Function.comp];rw [hwB,zlZ (by omega),zp9 (by omega),Int.toNat_natCast]
  cases S.contains (i : Int) <;> cases decv g p S (i : Int) <;> simp <;> omega
 have h3 : (((zal g p.lv).edges.filter λ e=>decide (0<(zaQ g p).getD e.f.toNat 0)).map ((λ e : Ed=>if zhV g p S e.f=true/\zhV g p S e.t=false then e.v else 0)∘λ e : Ed=>(⟨3+2*e.f,2+2*e.t,64⟩ : Ed))).sum<=0:=by
  have e1 : ∀ l : List Ed,(∀ e∈l,e∈(zal g p.lv).edges)->(l.map ((λ e : Ed=>if zhV g p S e.f=true/\zhV g p S e.t=false then e.v else 0)∘λ e : Ed=>(⟨3+2*e.f,2+2*e.t,64⟩ : Ed))).sum<=0:=by
   intro l
   induction l with
   | nil=>intro _; exact Int.le_refl _
   | cons e l ih =>
     intro h;have ih:=ih λ y hy=>h y (List.mem_cons_of_mem _ hy);have he:=List.mem_filter.1 (h e (List.mem_cons_self ..));have hf:=hg.fits e he.1;have hlv : p.lv<=e.v:=by have:=he.2; simp at this; omega
     unfold Fits at hf;simp only [List.map_cons,List.sum_cons,Function.comp] at ih ⊢;rw [zlZ (by omega),zp9 (by omega)]
     have hno : ¬ ((!S.contains e.f && !decv g p S e.f)=true/\(!S.contains e.t)=false):=by
      rintro ⟨a,b⟩
      simp only [Bool.and_eq_true,Bool.not_eq_true',Bool.not_eq_false'] at a b
      have hd : decv g p S e.f=true:=by
       unfold decv;rw [List.any_eq_true];exact ⟨e,he.1,by unfold zx5; rw [decide_eq_true rfl,decide_eq_true hlv,b]; rfl⟩
      rw [hd] at a;exact absurd a.2 (by simp)
     rw [if_neg hno];omega
  exact e1 _ λ e he=>(List.mem_filter.1 he).1
 omega
theorem zvB (hg : GrOk g) (hp : zbu g.size p) {a : List Int} (hk : zdg g p a) (ha : zau g p a) (S : List Int) : ((a.filter λ x=>S.contains x).length : Int)<=totB g p S g.size.toNat:=by
 have hsub : (a.filter λ x=>S.contains x).Sublist a:=List.filter_sublist;have h1:=ha.sublist hg hp hk hsub;have hk1 : zdg g p (a.filter λ x=>S.contains x):=hk.sub λ x hx=>hsub.subset hx;have h2:=(zfd hg hp hk1).1 h1 (zhV g p S) rfl rfl
 rw [znY λ k hk2=>by
  have h3:=List.mem_filter.1 hk2;have h4:=hk.rng k h3.1;rw [zlZ h4.1,h3.2]
  rfl] at h2
 have:=zz0 hg hp S;omega
variable {g : Gr} {p : Pol} {S : List Int} {l : Int}
section
variable {C : Int->Bool}
end
structure GStp where
 gone : Bool
 e : Ed
def HasE (g : Gr) (f t : Int) : Prop:=∃ x∈g.edges,x.f=f/\x.t=t
theorem Bef.asymm {a b : Ed} (h : Bef a b) : ¬ Bef b a:=by unfold Bef at *; omega
theorem Bef.irrefl (a : Ed) : ¬ Bef a a:=by unfold Bef; omega
theorem GrOk.of {s : Int} {E : List Ed} {go : List Int} (h0 : 0<=s) (h1 : s<=64) (hl : E.length<=500) (hg : Rise go 0 (s - 1)) (hp : E.Pairwise Bef) (hf : ∀ e∈E,Fits ⟨s,E,go⟩ e/\1<=e.v/\e.v<=3) : GrOk ⟨s,E,go⟩ :=
 ⟨⟨h0,h1,hl,hg⟩,λ i hi=>⟨(hf _ (List.getElem_mem hi)).1,(hf _ (List.getElem_mem hi)).2.1,(hf _ (List.getElem_mem hi)).2.2,λ h0=>zkx.2 (List.pairwise_iff_getElem.1 hp (i - 1) i (by simp only at hi; omega) hi (by omega))⟩⟩
variable {g : Gr} {f t : Int} {e : Ed}
theorem GrOk.val (hg : GrOk g) : ∀ e∈g.edges,1<=e.v/\e.v<=3:=λ e he=>by
 obtain ⟨i,hi,rfl⟩:=List.getElem_of_mem he;exact ⟨(hg.2 i hi).2.1,(hg.2 i hi).2.2.1⟩
theorem GrOk.uniq (hg : GrOk g) {x y : Ed} (hx : x∈g.edges) (hy : y∈g.edges) (hf : x.f=y.f) (ht : x.t=y.t) : x=y:=by
 obtain ⟨i,hi,rfl⟩:=List.getElem_of_mem hx;obtain ⟨j,hj,rfl⟩:=List.getElem_of_mem hy;rcases Nat.lt_trichotomy i j with h | h | h
 .have:=hg.lt j i hi hj h
  unfold Bef at this;omega
 .subst h; rfl
 .have:=hg.lt i j hj hi h
  unfold Bef at this;omega
theorem zyK {k : Nat} (h : AtE g.edges k f t) : HasE g f t:=by
 obtain ⟨h1,h2,h3⟩:=h;exact ⟨_,List.getElem_mem h1,h2,h3⟩
theorem zyu (hg : GrOk g) {i : Nat} (hi : i<g.edges.length) (hf : g.edges[i].f=f) (ht : g.edges[i].t=t) : idxE g.edges ⟨f,t,0⟩=i :=
 zvb (by omega) (λ j hj hjl=>by
  have:=hg.lt i j (by omega) hi hj
  unfold Bef at this ⊢;rw [hf,ht] at this;exact this) (λ _ hb=>by
  unfold Bef at hb;simp only at hb
  omega)
theorem zvQ (hg : GrOk g) : AtE g.edges (idxE g.edges ⟨f,t,0⟩) f t↔HasE g f t:=by
 refine ⟨zyK,?_⟩
 rintro ⟨x,hx,hf,ht⟩
 obtain ⟨i,hi,rfl⟩:=List.getElem_of_mem hx;rw [zyu hg hi hf ht];exact ⟨hi,hf,ht⟩
theorem zwj (g : Gr) (e : Ed) : ∀ x,x∈(zmu g e).edges↔x=e∨x∈g.edges:=by
 intro x
 have h : x∈g.edges↔x∈g.edges.take (idxE g.edges ⟨e.f,e.t,0⟩)∨x∈g.edges.drop (idxE g.edges ⟨e.f,e.t,0⟩):=by
  rw [<- List.mem_append,List.take_append_drop]
 rw [h];simp only [zmu,List.mem_append,List.mem_cons];constructor <;> rintro (h | h | h) <;> simp [h]
theorem zwA (hg : GrOk g) (hl : g.edges.length<500) : (zdC g e).2=0↔Fits g e/\(1<=e.v/\e.v<=3)/\¬ HasE g e.f e.t:=by
 constructor
 .intro h
  obtain ⟨_,h2,h3,h4,_⟩:=zpv h;exact ⟨h2,h3,λ h=>h4 ((zvQ hg).2 h)⟩
 .rintro ⟨h1,h2,h3⟩
  unfold zdC;rw [if_neg (λ h=>h hg),if_neg (λ h=>h h1),if_neg (λ h=>h h2),if_neg (λ h=>h3 ((zvQ hg).1 h)),if_neg (by omega)]
theorem zpq : ∀ {a b : List Ed},a.Pairwise Bef->b.Pairwise Bef->(∀ x,x∈a↔x∈b)->a=b
 | [],[],_,_,_=>rfl
 | [],y::b,_,_,h=>absurd ((h y).2 List.mem_cons_self) (by simp)
 | x::a,[],_,_,h=>absurd ((h x).1 List.mem_cons_self) (by simp)
 | x::a,y::b,ha,hb,h=>by
   rw [List.pairwise_cons] at ha hb
   have hxy : x=y:=by
    rcases List.mem_cons.1 ((h x).1 List.mem_cons_self) with h1 | h1
    .exact h1
    rcases List.mem_cons.1 ((h y).2 List.mem_cons_self) with h2 | h2
    .exact h2.symm
    exact absurd (ha.1 y h2) (hb.1 x h1).asymm
   subst hxy;rw [zpq ha.2 hb.2 λ z=>⟨λ hz=>?_,λ hz=>?_⟩]
   .rcases List.mem_cons.1 ((h z).1 (List.mem_cons_of_mem _ hz)) with h1 | h1
    .subst h1; exact absurd (ha.1 z hz) (Bef.irrefl z)
    .exact h1
   .rcases List.mem_cons.1 ((h z).2 (List.mem_cons_of_mem _ hz)) with h1 | h1
    .subst h1; exact absurd (hb.1 z hz) (Bef.irrefl z)
    .exact h1
theorem zxt {a b : Gr} (ha : GrOk a) (hb : GrOk b) (hs : a.size=b.size) (hg : a.gone=b.gone) (h : ∀ x,x∈a.edges↔x∈b.edges) : a=b:=by
 obtain ⟨s,E,go⟩:=a;obtain ⟨s',E',go'⟩:=b;have:=zpq ha.pair hb.pair h;simp only at hs hg this;subst hs hg this;rfl
def OkS (g : Gr) (s : GStp) : Prop:=if s.gone=true then HasE g s.e.f s.e.t else Fits g s.e/\(1<=s.e.v/\s.e.v<=3)/\¬ HasE g s.e.f s.e.t
structure ztb (g g' : Gr) (s : GStp) : Prop where
 ok : GrOk g'
 size : g'.size=g.size
 gone : g'.gone=g.gone
 len : g'.edges.length<=g.edges.length+1
 mem : ∀ x,x∈g'.edges↔(s.gone=false/\x=s.e)∨(x∈g.edges/\¬ (s.gone=true/\x.f=s.e.f/\x.t=s.e.t))
theorem ztb.has {g' : Gr} {s : GStp} (h : ztb g g' s) {f t : Int} (hne : ¬ (s.e.f=f/\s.e.t=t)) : HasE g' f t↔HasE g f t:=by
 constructor
 .rintro ⟨x,hx,hf,ht⟩
  rcases (h.mem x).1 hx with h1 | h1
  .obtain ⟨_,rfl⟩:=h1
   exact absurd ⟨hf,ht⟩ hne
  .exact ⟨x,h1.1,hf,ht⟩
 .rintro ⟨x,hx,hf,ht⟩
  refine ⟨x,(h.mem x).2 (.inr ⟨hx,λ hc=>hne ?_⟩),hf,ht⟩;exact ⟨hc.2.1.symm.trans hf,hc.2.2.symm.trans ht⟩
theorem ztb.okS {g' : Gr} {s u : GStp} (h : ztb g g' s) (hne : ¬ (s.e.f=u.e.f/\s.e.t=u.e.t)) : OkS g' u↔OkS g u:=by
 unfold OkS;have hf : Fits g' u.e↔Fits g u.e:=by unfold Fits; rw [h.size,h.gone]
 rw [h.has hne,hf]
theorem GrOk.nodup (hg : GrOk g) : g.edges.Nodup:=hg.pair.imp λ h he=>by subst he; exact Bef.irrefl _ h
variable {g : Gr} {p : Pol} {x : Int} {l : List Int}
def zh7 (g : Gr) (p : Pol) (x k : Int) : Bool:=!decide (k=x) && (!(g.edges.any λ e=>decide (e.f=k) || decide (e.t=k)) && (!decide (k∈g.gone) && !decide (k∈p.seeds)))
def zge (g : Gr) (p : Pol) (x : Int) : List Int:=za7 g.size.toNat (zh7 g p x)
structure zk5 (g : Gr) (p : Pol) (x : Int) (l : List Int) : Prop where
 rng : ∀ k∈l,0<=k/\k<g.size
 ne : ∀ k∈l,k≠x
 edge : ∀ k∈l,∀ e∈g.edges,e.f≠k/\e.t≠k
 gone : ∀ k∈l,k∉g.gone
 seed : ∀ k∈l,k∉p.seeds
 pair : l.Pairwise (· < ·)
theorem zhW (n : Nat) : zk5 g p x ((zge g p x).take n):=by
 have hm : ∀ k∈(zge g p x).take n,(0<=k/\k<g.size)/\k≠x/\(∀ e∈g.edges,e.f≠k/\e.t≠k)/\k∉g.gone/\k∉p.seeds:=λ k hk=>by
  have h1:=zdw.1 (List.mem_of_mem_take hk);have h2:=h1.2;simp only [zh7,Bool.and_eq_true,Bool.not_eq_true',decide_eq_false_iff_not,List.any_eq_false,Bool.or_eq_true,decide_eq_true_eq,not_or] at h2;exact ⟨by omega,h2⟩
 exact ⟨λ k hk=>(hm k hk).1,λ k hk=>(hm k hk).2.1,λ k hk=>(hm k hk).2.2.1,λ k hk=>(hm k hk).2.2.2.1,λ k hk=>(hm k hk).2.2.2.2,(zhB _ _).sublist (List.take_sublist _ _)⟩
theorem zk5.nodup (h : zk5 g p x l) : l.Nodup:=ze8 h.pair
def tieI (x : Int) (l : List Int) (i : Nat) : List Ed:=[⟨x,l.getD i 0,3⟩,⟨l.getD i 0,x,3⟩]++(if 1<l.length then [⟨l.getD i 0,l.getD ((i+1) % l.length) 0,3⟩] else [])
def tieL (x : Int) (l : List Int) : List Ed:=(List.range l.length).flatMap (tieI x l)
theorem zfB {i : Nat} (h : i<l.length) : l.getD i 0∈l:=by
 rw [List.getD_eq_getElem?_getD,List.getElem?_eq_getElem h,Option.getD_some];exact List.getElem_mem h
theorem zof {e : Ed} (h : e∈tieL x l) : e.v=3/\((e.f=x/\e.t∈l)∨(e.t=x/\e.f∈l)∨(e.f∈l/\e.t∈l)):=by
 obtain ⟨i,hi,h⟩:=List.mem_flatMap.1 h;have hi:=List.mem_range.1 hi;have h1:=zfB hi;unfold tieI at h;simp only [List.cons_append,List.nil_append,List.mem_cons] at h;rcases h with rfl | rfl | h
 .exact ⟨rfl,.inl ⟨rfl,h1⟩⟩
 .exact ⟨rfl,.inr (.inl ⟨rfl,h1⟩)⟩
 .split at h
  .rw [List.mem_singleton] at h
   subst h;exact ⟨rfl,.inr (.inr ⟨h1,zfB (Nat.mod_lt _ (by omega))⟩)⟩
  .exact (List.not_mem_nil h).elim
theorem zv5 {k : Int} (h : k∈l) : (⟨x,k,3⟩ : Ed)∈tieL x l:=by
 obtain ⟨i,hi,rfl⟩:=List.mem_iff_getElem.1 h;refine List.mem_flatMap.2 ⟨i,List.mem_range.2 hi,?_⟩;unfold tieI;rw [List.getD_eq_getElem?_getD,List.getElem?_eq_getElem hi,Option.getD_some];simp
def zkS (a b : Ed) : Prop:=¬ (a.f=b.f/\a.t=b.t)
theorem zsU (hn : l.Nodup) {i j : Nat} (hi : i<l.length) (hj : j<l.length) (h : l.getD i 0=l.getD j 0) : i=j:=by
 rw [List.getD_eq_getElem?_getD,List.getElem?_eq_getElem hi,Option.getD_some,List.getD_eq_getElem?_getD,List.getElem?_eq_getElem hj,Option.getD_some] at h;exact (List.getElem_inj hn).1 h
theorem zmv (hn : l.Nodup) (hx : x∉l) : (tieL x l).Pairwise zkS:=by
 unfold tieL;rw [List.pairwise_flatMap]
 have hm : ∀ i,i∈List.range l.length -> ∀ e∈tieI x l i,(e.f=x/\e.t=l.getD i 0)∨(e.f=l.getD i 0/\(e.t=x∨e.t∈l)):=λ i hi e he=>by
  unfold tieI at he;simp only [List.cons_append,List.nil_append,List.mem_cons] at he;rcases he with rfl | rfl | h
  .exact .inl ⟨rfl,rfl⟩
  .exact .inr ⟨rfl,.inl rfl⟩
  .split at h
   .rw [List.mem_singleton] at h
    subst h;exact .inr ⟨rfl,.inr (zfB (Nat.mod_lt _ (by omega)))⟩
   .exact (List.not_mem_nil h).elim
 constructor
 .intro i hi
  have h1:=zfB (List.mem_range.1 hi);have h2 : x≠l.getD i 0:=λ e=>hx (e ▸ h1);unfold tieI;simp only [List.cons_append,List.nil_append,List.pairwise_cons,List.mem_cons];refine ⟨λ e he=>?_,λ e he=>?_,?_⟩
  .rcases he with rfl | h
   .exact λ h=>h2 h.1
   .split at h
    .rw [List.mem_singleton] at h; subst h; exact λ h=>h2 h.1
    .exact (List.not_mem_nil h).elim
  .split at he
   .rename_i h3
    rw [List.mem_singleton] at he;subst he;exact λ h=>hx ((show x=_ from h.2) ▸ zfB (Nat.mod_lt _ (by omega)))
   .exact (List.not_mem_nil he).elim
  .split
   .exact List.pairwise_singleton _ _
   .exact .nil
 .refine List.pairwise_lt_range.imp_of_mem λ {i j} hi hj hij a ha b hb=>?_
  have h1:=hm i hi a ha;have h2:=hm j hj b hb;have mi:=zfB (List.mem_range.1 hi);have mj:=zfB (List.mem_range.1 hj);have hne : l.getD i 0≠l.getD j 0:=λ e=>by have:=zsU hn (List.mem_range.1 hi) (List.mem_range.1 hj) e; omega
  have xi : x≠l.getD i 0:=λ e=>hx (e ▸ mi);have xj : x≠l.getD j 0:=λ e=>hx (e ▸ mj)
  rintro ⟨e1,e2⟩
  rcases h1 with ⟨q1,q2⟩ | ⟨q1,q2⟩ <;> rcases h2 with ⟨r1,r2⟩ | ⟨r1,r2⟩
  .exact hne (by rw [<- q2,<- r2,e2])
  .exact xj (by rw [<- q1,<- r1,e1])
  .exact xi (by rw [<- r1,<- q1,e1])
  .exact hne (by rw [<- q1,<- r1,e1])
def zkK (L : List Ed) : List Ed:=L.mergeSort λ a b=>!decide (Bef b a)
theorem zfJ (L : List Ed) : (zkK L).Perm L:=List.mergeSort_perm _ _
theorem zn0 {L : List Ed} (h : L.Pairwise zkS) : (zkK L).Pairwise Bef:=by
 have h1 : (zkK L).Pairwise λ a b=>(!decide (Bef b a))=true:=List.pairwise_mergeSort (λ a b c h1 h2=>by
  simp only [Bool.not_eq_true',decide_eq_false_iff_not] at *;unfold Bef at *;omega) (λ a b=>by
  simp only [Bool.or_eq_true,Bool.not_eq_true',decide_eq_false_iff_not];unfold Bef
  omega) L
 have h2 : (zkK L).Pairwise zkS:=((zfJ L).pairwise_iff λ {a b} h=>λ e=>h ⟨e.1.symm,e.2.symm⟩).2 h;refine (List.pairwise_and_iff.2 ⟨h1,h2⟩).imp λ {a b} h=>?_;have ha:=h.1;have hb:=h.2;simp only [Bool.not_eq_true',decide_eq_false_iff_not] at ha;unfold zkS at hb;unfold Bef at *;omega
def zce (g : Gr) (x : Int) (l : List Int) : Gr:=⟨g.size,zkK (g.edges++tieL x l),g.gone⟩
theorem zgv {e : Ed} : e∈(zce g x l).edges↔e∈g.edges∨e∈tieL x l:=by
 unfold zce;rw [(zfJ _).mem_iff,List.mem_append]
theorem zov : (zce g x l).edges.length=g.edges.length+(tieL x l).length:=by
 unfold zce;rw [(zfJ _).length_eq,List.length_append]
theorem zpC (hg : GrOk g) (hf : zk5 g p x l) (hx : 0<=x/\x<g.size) (hxg : x∉g.gone) (hl : g.edges.length+(tieL x l).length<=500) : GrOk (zce g x l):=by
 have hxl : x∉l:=λ h=>hf.ne x h rfl;refine GrOk.of hg.1.1 hg.1.2.1 (by have:=zov (g:=g) (x:=x) (l:=l); unfold zce at this; simp only at this; omega) hg.1.2.2.2 (zn0 ?_) λ e he=>?_
 .rw [List.pairwise_append]
  refine ⟨hg.pair.imp λ {a b} h=>?_,zmv hf.nodup hxl,λ a ha b hb=>?_⟩
  .unfold Bef at h; unfold zkS; omega
  .have h1:=(zof hb).2
   rintro ⟨e1,e2⟩
   rcases h1 with ⟨_,h⟩ | ⟨_,h⟩ | ⟨h,_⟩
   .exact (hf.edge _ h a ha).2 e2
   .exact (hf.edge _ h a ha).1 e1
   .exact (hf.edge _ h a ha).1 e1
 .rcases (zgv (g:=g) (x:=x) (l:=l)).1 he with h | h
  .exact ⟨hg.fits e h,hg.val e h⟩
  .obtain ⟨hv,h⟩:=zof h
   refine ⟨?_,by omega⟩
   unfold Fits;rcases h with ⟨h1,h2⟩ | ⟨h1,h2⟩ | ⟨h1,h2⟩
   .have r:=hf.rng _ h2
    have n:=hf.ne _ h2;exact ⟨by omega,by simp only; omega,by omega,by simp only; omega,by omega,by rw [h1]; exact hxg,hf.gone _ h2⟩
   .have r:=hf.rng _ h2
    have n:=hf.ne _ h2;exact ⟨by omega,by simp only; omega,by omega,by simp only; omega,by omega,hf.gone _ h2,by rw [h1]; exact hxg⟩
   .have r:=hf.rng _ h1
    have r2:=hf.rng _ h2;refine ⟨by omega,by simp only; omega,by omega,by simp only; omega,?_,hf.gone _ h1,hf.gone _ h2⟩
    obtain ⟨i,hi,h⟩:=List.mem_flatMap.1 (by assumption : e∈tieL x l)
    have hi:=List.mem_range.1 hi;unfold tieI at h;simp only [List.cons_append,List.nil_append,List.mem_cons] at h;rcases h with rfl | rfl | h
    .exact λ e=>hxl ((show x=_ from e) ▸ zfB hi)
    .exact λ e=>hxl ((show _=x from e) ▸ zfB hi)
    .split at h
     .rename_i h3
      rw [List.mem_singleton] at h;subst h;intro e;have:=zsU hf.nodup hi (Nat.mod_lt _ (by omega)) e
      rcases Nat.lt_or_ge (i+1) l.length with h4 | h4
      .rw [Nat.mod_eq_of_lt h4] at this; omega
      .have h5 : i+1=l.length:=by omega
       rw [h5,Nat.mod_self] at this;omega
     .exact (List.not_mem_nil h).elim
structure zuE (G H : Gr) (S : List Int) (x : Int) (l : List Int) : Prop where
 size : H.size=G.size
 gone : H.gone=G.gone
 ne : x∉l
 seed : ∀ k∈l,zfb G S k=false
 off : ∀ e∈G.edges,e.f∉l/\e.t∉l
 sub : ∀ e∈G.edges,e∈H.edges
 new : ∀ e∈H.edges,e∈G.edges∨(e.f=x/\e.t∈l)∨(e.t=x/\e.f∈l)∨(e.f∈l/\e.t∈l)
 has : ∀ k∈l,(⟨x,k,3⟩ : Ed)∈H.edges
theorem zxY (hf : zk5 g p x l) {lv : Int} (h3 : lv<=3) : zuE (zal g lv) (zal (zce g x l) lv) p.seeds x l:=by
 refine ⟨rfl,rfl,λ h=>hf.ne x h rfl,λ k hk=>?_,λ e he=>?_,λ e he=>?_,λ e he=>?_,λ k hk=>?_⟩
 .unfold zfb
  have : p.seeds.contains k=false:=by
   cases h : p.seeds.contains k with
   | false=>rfl
   | true=>exact absurd (List.contains_iff_mem.1 h) (hf.seed k hk)
  rw [this];rfl
 .have:=(List.mem_filter.1 he).1
  exact ⟨λ h=>(hf.edge _ h e this).1 rfl,λ h=>(hf.edge _ h e this).2 rfl⟩
 .have:=List.mem_filter.1 he
  exact List.mem_filter.2 ⟨zgv.2 (.inl this.1),this.2⟩
 .have:=List.mem_filter.1 he
  rcases zgv.1 this.1 with h | h
  .exact .inl (List.mem_filter.2 ⟨h,this.2⟩)
  .exact .inr (zof h).2
 .exact List.mem_filter.2 ⟨zgv.2 (.inr (zv5 hk)),by simp only [Bool.not_eq_true',decide_eq_false_iff_not]; omega⟩
theorem zuA {G H : Gr} {S : List Int} (h : zuE G H S x l) : ∀ n : Nat,(∀ k,k∉l->dl H S n k=dl G S n k)/\(∀ k,k∈l->dl H S n k=if 0<=dl G S n x/\dl G S n x<n then dl G S n x+1 else -1)
 | 0=>by
   have hs : ∀ k,zfb H S k=zfb G S k:=λ k=>by unfold zfb; rw [h.gone]
   refine ⟨λ k _=>by rw [dl,dl,hs],λ k hk=>?_⟩
   rw [if_neg (by omega),dl,hs,h.seed k hk]
   rfl
 | n+1=>by
   obtain ⟨i1,i2⟩:=zuA h n;have hrx:=zcD (g:=G) (S:=S) n x;constructor
   .intro k hk
    rw [dl,dl,i1 k hk]
    by_cases h2 : 0<=dl G S n k
    .rw [if_pos h2,if_pos h2]
    .rw [if_neg h2,if_neg h2]
     have e1 : H.edges.any (λ e=>decide (e.t=k) && decide (dl H S n e.f=n))=G.edges.any (λ e=>decide (e.t=k) && decide (dl G S n e.f=n)):=by
      rw [Bool.eq_iff_iff,List.any_eq_true,List.any_eq_true];constructor
      .rintro ⟨e,he,h3⟩
       simp only [Bool.and_eq_true,decide_eq_true_eq] at h3;rcases h.new e he with h4 | h4 | h4 | h4
       .rw [i1 e.f (h.off e h4).1] at h3
        exact ⟨e,h4,by simp [h3.1,h3.2]⟩
       .exact absurd (h3.1 ▸ h4.2) hk
       .rw [i2 e.f h4.2] at h3
        split at h3
        .rename_i h5
         rw [<- h3.1,h4.1] at h2;exact absurd h5.1 h2
        .omega
       .exact absurd (h3.1 ▸ h4.2) hk
      .rintro ⟨e,he,h3⟩
       exact ⟨e,h.sub e he,by rw [i1 e.f (h.off e he).1]; exact h3⟩
     rw [e1]
   .intro k hk
    rw [dl,i2 k hk]
    by_cases h5 : 0<=dl G S n x/\dl G S n x<n
    .rw [if_pos h5,if_pos (by omega),zgM h5.1,if_pos (by omega)]
    .rw [if_neg h5,if_neg (by omega)]
     by_cases h6 : dl G S n x=n
     .rw [if_pos,zgM (by omega),if_pos (by omega),h6]
      rw [List.any_eq_true];exact ⟨_,h.has k hk,by simp [i1 x h.ne,h6]⟩
     .have h7 : ¬ 0<=dl G S n x:=by omega
      rw [if_neg,if_neg]
      .rw [dl,if_neg h7]
       split <;> omega
      .rw [List.any_eq_true]
       rintro ⟨e,he,h3⟩
       simp only [Bool.and_eq_true,decide_eq_true_eq] at h3;rcases h.new e he with h4 | h4 | h4 | h4
       .exact (h.off e h4).2 (h3.1 ▸ hk)
       .rw [h4.1,i1 x h.ne] at h3
        exact h6 h3.2
       .exact h.ne (by rw [<- h4.1,h3.1]; exact hk)
       .rw [i2 e.f h4.1,if_neg h5] at h3
        omega
theorem zuS {G H : Gr} {S : List Int} (hG : GrOk G) (hx : Key G x) (h : zuE G H S x l) : (∀ k,k∉l->dist H S k=dist G S k)/\(∀ k,k∈l->dist H S k=if 0<=dist G S x then dist G S x+1 else -1):=by
 have h1:=zuA h G.size.toNat;unfold dist;rw [h.size];refine ⟨h1.1,λ k hk=>?_⟩;rw [h1.2 k hk];have h2:=zrs hG (S:=S) hx;have h3:=hx.1;have h4:=hx.2;unfold dist at h2
 by_cases h5 : 0<=dl G S G.size.toNat x
 .rw [if_pos ⟨h5,by omega⟩,if_pos h5]
 .rw [if_neg (λ h=>h5 h.1),if_neg h5]
variable {g : Gr} {p : Pol} {x : Int} {l : List Int}
section
variable {C : Int->Bool} {T : List Int}
end
variable {g : Gr} {p : Pol} {x : Int} {l l1 l2 T : List Int}
theorem zv7 {n : Int} (hp : zbu n p) : p.lv<=3:=hp.2.2.2.2.2.1
theorem zuL (hg : GrOk g) (hp : zbu g.size p) (hx : Key g x) (hf : zk5 g p x l) :
  (∀ k,k∉l->dist (zal (zce g x l) p.lv) p.seeds k=dist (zal g p.lv) p.seeds k) /\
  (∀ k,k∈l->dist (zal (zce g x l) p.lv) p.seeds k=if 0<=dist (zal g p.lv) p.seeds x then dist (zal g p.lv) p.seeds x+1 else -1) :=
 zuS (hg.level p.lv) (show Key (zal g p.lv) x from hx) (zxY hf (zv7 hp))
theorem zwi (hg : GrOk g) (hp : zbu g.size p) (hx : Key g x) (hf : zk5 g p x l) :
  (∀ k : Int,0<=k->k∉l->(zaQ (zce g x l) p).getD k.toNat 0=(zaQ g p).getD k.toNat 0) /\
  (∀ k : Int,k∈l->0<(zaQ (zce g x l) p).getD k.toNat 0->0<=dist (zal g p.lv) p.seeds x):=by
 have hd:=zuL hg hp hx hf;constructor
 .intro k h0 hk
  by_cases h1 : k<g.size
  .rw [zkk h0 (show k<(zce g x l).size from h1),zkk h0 h1,hd.1 k hk]
  .rw [zmr (show (zce g x l).size<=k by show g.size<=k; omega),zmr (by omega)]
 .intro k hk h
  have hr:=hf.rng k hk;rw [zkk hr.1 (show k<(zce g x l).size from hr.2),hd.2 k hk] at h
  refine Classical.byContradiction λ hn=>?_;rw [if_neg hn] at h;have:=zh2 (p:=p) (d:=-1) (by omega)
  omega
abbrev ordR (g : Gr) (p : Pol) (x : Int) (l : List Int) : List Int:=ordL (zal (zce g x l) p.lv) p.seeds
noncomputable def inN (g : Gr) (p : Pol) (x : Int) (l : List Int) : Nat:=((accR (zce g x l) p (ordR g p x l)).filter λ k=>decide (k∈l)).length
theorem zwx (hg : GrOk g) (hp : zbu g.size p) (hs : p.seeds.length<=64) (hx : Key g x) (hf : zk5 g p x l) (hr : GrOk (zce g x l)) : (inN g p x l : Int)<=max 0 ((zaQ g p).getD x.toNat 0 - 1):=by
 have hc:=zwi hg hp hx hf;have hxl : x∉l:=λ h=>hf.ne x h rfl;have hok : zdg (zce g x l) p (accR (zce g x l) p (ordR g p x l)):=zon hr hp λ k hk=>zfF hk;have h1:=zvB hr (show zbu g.size p from hp) hok ((zwf hr (show zbu g.size p from hp) hs _ _ rfl (zcv _ _) (zon hr hp λ k hk=>hk)).1.perm hr hp hok.join (znk ((zcv _ _).sublist (zgp _ _ rfl)) (h64 hr hok.rng)).symm) l
 have hfil : ((accR (zce g x l) p (ordR g p x l)).filter λ x=>l.contains x).length=inN g p x l:=by
  unfold inN
  congr 1
  exact List.filter_congr λ k _=>by simp
 rw [hfil] at h1
 have hk0 : ∀ k : Nat,(k : Int)≠x->totK (zce g x l) p l k=0:=λ k hk=>by
  unfold totK
  by_cases hkl : (k : Int)∈l
  .have e1 : l.contains (k : Int)=true:=List.contains_iff_mem.2 hkl
   have e2 : p.seeds.contains (k : Int)=false:=by
    cases h : p.seeds.contains (k : Int) with
    | false=>rfl
    | true=>exact absurd (List.contains_iff_mem.1 h) (hf.seed _ hkl)
   rw [e1,e2];simp
  .have e1 : l.contains (k : Int)=false:=by
    cases h : l.contains (k : Int) with
    | false=>rfl
    | true=>exact absurd (List.contains_iff_mem.1 h) hkl
   have e2 : decv (zce g x l) p l k=false:=by
    unfold decv;rw [List.any_eq_false];intro e he;unfold zx5;simp only [Bool.and_eq_true,decide_eq_true_eq,not_and];intro hef _ hct;have het:=List.contains_iff_mem.1 hct;rcases zgv.1 he with h | h
    .exact (hf.edge _ het e h).2 rfl
    .rcases (zof h).2 with ⟨a,_⟩ | ⟨a,_⟩ | ⟨a,_⟩
     .exact hk (by rw [<- hef,a])
     .exact hxl (a ▸ het)
     .exact hkl (hef ▸ a)
   rw [e1,e2];simp
 have hkx : totK (zce g x l) p l x<=max 0 ((zaQ g p).getD x.toNat 0 - 1):=by
  unfold totK
  have e1 : l.contains x=false:=by
   cases h : l.contains x with
   | false=>rfl
   | true=>exact absurd (List.contains_iff_mem.1 h) hxl
  rw [e1,hc.1 x hx.1 hxl];simp only [Bool.false_and,Bool.false_eq_true,if_false];split <;> omega
 have hsum : ∀ n : Nat,totB (zce g x l) p l n<=max 0 ((zaQ g p).getD x.toNat 0 - 1)/\((n : Int)<=x->totB (zce g x l) p l n<=0):=by
  intro n
  induction n with
  | zero=>exact ⟨by show (0 : Int)<=_; omega,λ _=>Int.le_refl _⟩
  | succ n ih =>
    rw [zuX]
    by_cases hn : (n : Int)=x
    .rw [hn]
     exact ⟨by have:=ih.2 (by omega); omega,λ h=>by omega⟩
    .rw [hk0 n hn]
     exact ⟨by omega,λ h=>by have:=ih.2 (by omega); omega⟩
 have:=(hsum (zce g x l).size.toNat).1;omega
theorem zll (n : Nat) (q : Int->Bool) : (za7 n q).Nodup:=ze8 (zhB n q)
theorem zyn {a b : List Int} {n : Nat} (ha : a.Nodup) (hr : ∀ k∈a,0<=k/\k<n) : (za7 n λ k=>decide (k∈a) && decide (k∈b)).length=(a.filter λ k=>decide (k∈b)).length:=by
 refine List.Perm.length_eq ((List.perm_ext_iff_of_nodup (zll _ _) (ha.filter _)).2 λ k=>?_);simp only [zdw,List.mem_filter,Bool.and_eq_true,decide_eq_true_eq];exact ⟨λ h=>h.2,λ h=>⟨hr k h.1,h⟩⟩
theorem zyD {a b : List Int} {n : Nat} (ha : a.Nodup) (hr : ∀ k∈a,0<=k/\k<n) : (za7 n λ k=>decide (k∈a) && !decide (k∈b)).length=(a.filter λ k=>!decide (k∈b)).length:=by
 refine List.Perm.length_eq ((List.perm_ext_iff_of_nodup (zll _ _) (ha.filter _)).2 λ k=>?_);simp only [zdw,List.mem_filter,Bool.and_eq_true,decide_eq_true_eq];exact ⟨λ h=>h.2,λ h=>⟨hr k h.1,h⟩⟩
end Go.Proofs.YtkngdgplbojdlaaGreat
namespace Go.Proofs
open Go.Shelf
def Tryz.sortEd_ren : Go.Shelf.Ren:=⟨fun | 6=>55 | 15=>113 | 14=>112 | 28=>154 | 29=>155 | 20=>146 | 21=>147 | 22=>148 | 23=>149 | 24=>150 | 25=>151 | 26=>152 | 27=>153 | 46=>180 | 47=>181 | 48=>182 | 49=>183 | 50=>184 | 57=>203 | n=>n,fun | 22=>28 | 24=>72 | 25=>84 | 3=>3 | 39=>134 | 0=>0 | 53=>175 | 55=>158 | 4=>4 | 46=>169 | 45=>168 | 50=>100 | 5=>5 | 9=>9 | 66=>198 | 70=>202 | 76=>214 | 77=>183 | n=>n,fun | n=>n⟩
theorem Tryz.sortEd : Go.Proofs.SlLaysF0.n6 Tryz.prog Tryz.sortEd_ren:={
 mixed:=by kernel_rfl
 f6:=⟨Tryz.f55.name,by decide,Tryz.func55.trans (congrArg some (by kernel_rfl))⟩
 f14:=⟨Tryz.f112.name,by decide,Tryz.func112.trans (congrArg some (by kernel_rfl))⟩
 f15:=Tryz.func113.trans (congrArg some (by kernel_rfl))
 f20:=⟨Tryz.f146.name,by decide,Tryz.func146.trans (congrArg some (by kernel_rfl))⟩
 f21:=⟨Tryz.f147.name,by decide,Tryz.func147.trans (congrArg some (by kernel_rfl))⟩
 f22:=⟨Tryz.f148.name,by decide,Tryz.func148.trans (congrArg some (by kernel_rfl))⟩
 f23:=⟨Tryz.f149.name,by decide,Tryz.func149.trans (congrArg some (by kernel_rfl))⟩
 f24:=⟨Tryz.f150.name,by decide,Tryz.func150.trans (congrArg some (by kernel_rfl))⟩
 f25:=⟨Tryz.f151.name,by decide,Tryz.func151.trans (congrArg some (by kernel_rfl))⟩
 f26:=⟨Tryz.f152.name,by decide,Tryz.func152.trans (congrArg some (by kernel_rfl))⟩
 f27:=⟨Tryz.f153.name,by decide,Tryz.func153.trans (congrArg some (by kernel_rfl))⟩
 f28:=Tryz.func154.trans (congrArg some (by kernel_rfl))
 f29:=Tryz.func155.trans (congrArg some (by kernel_rfl))
 f46:=⟨Tryz.f180.name,by decide,Tryz.func180.trans (congrArg some (by kernel_rfl))⟩
 f47:=Tryz.func181.trans (congrArg some (by kernel_rfl))
 f48:=Tryz.func182.trans (congrArg some (by kernel_rfl))
 f49:=⟨Tryz.f183.name,by decide,Tryz.func183.trans (congrArg some (by kernel_rfl))⟩
 f50:=⟨Tryz.f184.name,by decide,Tryz.func184.trans (congrArg some (by kernel_rfl))⟩
 f57:=⟨Tryz.f203.name,by decide,Tryz.func203.trans (congrArg some (by kernel_rfl))⟩
 t0:=Tryz.underlying0
 a0:=Tryz.isAgg0
 z0:=Tryz.sizeOf0
 v0:=Tryz.zeroValue0
 t3:=Tryz.underlying3
 a3:=Tryz.isAgg3
 z3:=Tryz.sizeOf3
 v3:=Tryz.zeroValue3
 t4:=Tryz.underlying4
 a4:=Tryz.isAgg4
 z4:=Tryz.sizeOf4
 v4:=Tryz.zeroValue4
 t5:=Tryz.underlying5
 a5:=Tryz.isAgg5
 z5:=Tryz.sizeOf5
 v5:=Tryz.zeroValue5
 t9:=Tryz.underlying9
 a9:=Tryz.isAgg9
 z9:=Tryz.sizeOf9
 v9:=Tryz.zeroValue9
 t22:=Tryz.underlying28
 a22:=Tryz.isAgg28
 z22:=Tryz.sizeOf28
 v22:=Tryz.zeroValue28
 t25:=Tryz.underlying84
 a25:=Tryz.isAgg84
 z25:=Tryz.sizeOf84
 v25:=Tryz.zeroValue84
 t39:=Tryz.underlying134
 a39:=Tryz.isAgg134
 z39:=Tryz.sizeOf134
 v39:=Tryz.zeroValue134
 t45:=Tryz.underlying168
 a45:=Tryz.isAgg168
 z45:=Tryz.sizeOf168
 v45:=Tryz.zeroValue168
 t46:=Tryz.underlying169
 a46:=Tryz.isAgg169
 z46:=Tryz.sizeOf169
 v46:=Tryz.zeroValue169
 t50:=Tryz.underlying100
 a50:=Tryz.isAgg100
 z50:=Tryz.sizeOf100
 v50:=Tryz.zeroValue100
 t53:=Tryz.underlying175
 a53:=Tryz.isAgg175
 z53:=Tryz.sizeOf175
 v53:=Tryz.zeroValue175
 t55:=Tryz.underlying158
 a55:=Tryz.isAgg158
 z55:=Tryz.sizeOf158
 v55:=Tryz.zeroValue158
 t66:=Tryz.underlying198
 a66:=Tryz.isAgg198
 z66:=Tryz.sizeOf198
 v66:=Tryz.zeroValue198
 t70:=Tryz.underlying202
 a70:=Tryz.isAgg202
 z70:=Tryz.sizeOf202
 v70:=Tryz.zeroValue202
 t76:=Tryz.underlying214
 a76:=Tryz.isAgg214
 z76:=Tryz.sizeOf214
 v76:=Tryz.zeroValue214
 t77:=Tryz.underlying183
 a77:=Tryz.isAgg183
 z77:=Tryz.sizeOf183
 v77:=Tryz.zeroValue183 }
end Go.Proofs
namespace Go.Proofs.YtkngdgplbojdlaaGreat
open Go Go.Shelf Go.RowKit Go.Lib Go.Sort Go.Proofs
theorem zvn (x : Int) (W : World) : Calls Tryz.prog zcd #[.int .i64 x] W λ e w'=>e = .returned (.bool false)/\w'=W:=by
 go_enter Tryz.func114,Tryz.ntmps114
 go_wp2
 go_ret
 simp
theorem zyb (x y : Int) (W : World) : Calls Tryz.prog zby #[.int .i64 x,.int .i64 y] W λ e w'=>e = .returned (.int .i64 (Lib.compareInt x y))/\w'=W:=by
 have hn:=zvn;change ∀ x W,Calls Tryz.prog 114 _ _ _ at hn;have hr : Lib.compareInt x y=if x<y then -1 else if x > y then 1 else 0:=rfl
 rw [hr]
 by_cases h1 : x<y
 .rw [if_pos h1]
  go_enter Tryz.func58,Tryz.ntmps58
  go_wp2_with (go_at_call 114; refine (hn _ _).mono ?_; rintro e w' ⟨rfl,rfl⟩)
  all_goals first
   | (go_ret; exact ⟨rfl,rfl⟩)
   | omega
   | (exfalso; omega)
 .rw [if_neg h1]
  by_cases h2 : x > y
  .rw [if_pos h2]
   go_enter Tryz.func58,Tryz.ntmps58
   go_wp2_with (go_at_call 114; refine (hn _ _).mono ?_; rintro e w' ⟨rfl,rfl⟩)
   all_goals first
    | (go_ret; exact ⟨rfl,rfl⟩)
    | omega
    | trace_state
  .rw [if_neg h2]
   go_enter Tryz.func58,Tryz.ntmps58
   go_wp2_with (go_at_call 114; refine (hn _ _).mono ?_; rintro e w' ⟨rfl,rfl⟩)
   all_goals first
    | (go_ret; exact ⟨rfl,rfl⟩)
    | omega
    | trace_state
theorem zzy (b : Nat) (x y : Int) (W : World) (h0 : W.heap[b]? = some (.cells #[.int .i64 x,.int .i64 y] 3 (0,0))) : Calls Tryz.prog zeT #[.slice (some ⟨b,0,none⟩) 2 2] W λ e w'=>e = .returned (.int .i64 (if x≠0 then x else y))/\w'=W:=by
 have c0 : W.cell? ⟨b,0,none⟩=some (.int .i64 x):=by simp [World.cell?,h0]
 have c1 : W.cell? ⟨b,1,none⟩=some (.int .i64 y):=by simp [World.cell?,h0]
 by_cases hx : x=0
 .rw [if_neg (by simpa using hx)]
  go_enter Tryz.func57,Tryz.ntmps57
  go_wp2
  refine wp_loop_rounds 3 ?_;rw [rounds_succ]
  go_wp2
  rw [rounds_succ]
  by_cases hy : y=0
  .subst hy
   go_wp2
   rw [rounds_succ]
   go_wp2
   go_ret
   exact ⟨rfl,rfl⟩
  .go_wp2
   all_goals first
    | (go_ret; exact ⟨rfl,rfl⟩)
    | contradiction
    | trace_state
 .rw [if_pos (by simpa using hx)]
  go_enter Tryz.func57,Tryz.ntmps57
  go_wp2
  refine wp_loop_rounds 3 ?_;rw [rounds_succ]
  go_wp2
  all_goals first
   | (go_ret; exact ⟨rfl,rfl⟩)
   | contradiction
   | trace_state
def orV (x y : Int) : Int:=if x≠0 then x else y
def cmpL (a b : Ed) : Int:=orV (Lib.compareInt a.f b.f) (Lib.compareInt a.t b.t)
theorem zyk (b : Nat) (x y : Int) (W : World) (h0 : W.heap[b]? = some (.cells #[.int .i64 x,.int .i64 y] 3 (0,0))) : Calls Tryz.prog zeT #[.slice (some ⟨b,0,none⟩) 2 2] W λ e w'=>e = .returned (.int .i64 (orV x y))/\w'=W:=zzy b x y W h0
theorem zus (W : World) (a b c : Obj) : (((W.alloc a).alloc b).alloc c).drew.heap[W.heap.size+1+1]? = some c:=by
 show (((W.heap.push a).push b).push c)[W.heap.size+1+1]? = some c;rw [Array.getElem?_push,if_pos (by simp)]
attribute [local go_sem ↓] Go.wp_at_zero Go.wp_at_succ
set_option maxHeartbeats 4000000 in
theorem zso (a b : Ed) (W : World) : Calls Tryz.prog zfq #[.agg #[.int .i64 a.f,.int .i64 a.t,.int .i64 a.v],.agg #[.int .i64 b.f,.int .i64 b.t,.int .i64 b.v]] W λ e w'=>e = .returned (.int .i64 (cmpL a b)) /\ ∃ q os',w'=Go.Sort.grow (W.drewN q) os':=by
 have hc:=zyb;change ∀ x y W,Calls Tryz.prog 58 _ _ _ at hc;have ho:=zyk;change ∀ b x y W h,Calls Tryz.prog 57 _ _ _ at ho;unfold cmpL;generalize hr1 : Lib.compareInt a.f b.f=r1 at *;generalize hr2 : Lib.compareInt a.t b.t=r2 at *;obtain ⟨af,at_,av⟩:=a;obtain ⟨bf,bt,bv⟩:=b;simp only at *
 go_enter Tryz.func56,Tryz.ntmps56
 go_wp2
 go_region_held3 (λ w'=>w'.cell? ⟨W.heap.size,0,none⟩=some (.int .i64 af)/\w'.cell? ⟨W.heap.size,1,none⟩=some (.int .i64 at_)/\w'.cell? ⟨W.heap.size+1,0,none⟩=some (.int .i64 bf)/\w'.cell? ⟨W.heap.size+1,1,none⟩=some (.int .i64 bt)) (go_keep)
  (first | (go_at_call 58; refine (hc _ _ _).mono ?_; rintro e w' ⟨rfl,rfl⟩) | (go_at_call 57; refine (ho _ r1 r2 _ (zus ..)).mono ?_; rintro e w' ⟨rfl,rfl⟩))
 go_wp2
 go_ret
 refine ⟨rfl,1,#[.cells #[.int .i64 af,.int .i64 at_,.int .i64 av] 72,.cells #[.int .i64 bf,.int .i64 bt,.int .i64 bv] 72,.cells #[.int .i64 r1,.int .i64 r2] 3],?_⟩;rw [alloc_eq_grow,alloc_eq_grow,alloc_eq_grow,grow_grow,grow_grow];rfl
def encE (e : Ed) : List Value:=[.int .i64 e.f,.int .i64 e.t,.int .i64 e.v]
theorem zoz (a b : Ed) : cmpL a b<0↔Bef a b:=by
 unfold cmpL orV Lib.compareInt Bef
 by_cases h1 : a.f<b.f
 .simp [h1]
 .by_cases h2 : b.f<a.f
  .have : ¬ a.f=b.f:=by omega
   simp [h1,h2,this]
  .have : a.f=b.f:=by omega
   simp [this]
   by_cases h3 : a.t<b.t
   .simp [h3]
   .by_cases h4 : b.t<a.t <;> simp [h3,h4]
theorem zww : Go.Sort.SWO (Go.Proofs.ltOf cmpL) where
 irrefl x:=by unfold Go.Proofs.ltOf; rw [decide_eq_false_iff_not,zoz]; exact Bef.irrefl x
 trans x y z h1 h2:=by
  unfold Go.Proofs.ltOf at *;rw [decide_eq_true_eq,zoz] at *;unfold Bef at *;omega
 ntrans x y z h1 h2:=by
  unfold Go.Proofs.ltOf at *;rw [decide_eq_false_iff_not,zoz] at *;unfold Bef at *;omega
theorem zuH {L : List Ed} {d : Array Ed} (hA : L.Pairwise zkS) (hp : Go.Sort.PermIn 0 L.toArray.size L.toArray d) (hs : Go.Sort.SortedIn (Go.Proofs.ltOf cmpL) 0 L.toArray.size d) : d.toList=zkK L:=by
 obtain ⟨p1,_,p3⟩:=hp;have e1 : d.extract 0 L.toArray.size=d:=by rw [<- p1]; exact Array.extract_size
 rw [e1,Array.extract_size] at p3;have p3 : d.toList.Perm L:=p3;have hAd : d.toList.Pairwise zkS:=(p3.pairwise_iff λ {a b} h=>λ e=>h ⟨e.1.symm,e.2.symm⟩).2 hA;refine zpq ?_ (zn0 hA) λ x=>by rw [p3.mem_iff,(zfJ L).mem_iff]
 rw [List.pairwise_iff_getElem];intro i j hi hj hij;have h1:=List.pairwise_iff_getElem.1 hAd i j hi hj hij;have hi' : i<d.size:=by simpa using hi
 have hj' : j<d.size:=by simpa using hj
 have h2:=hs i j (Nat.zero_le _) hij (by rw [<- p1]; exact hj')
 rw [getElem!_pos d j hj',getElem!_pos d i hi'] at h2;unfold Go.Proofs.ltOf at h2;rw [decide_eq_false_iff_not,zoz] at h2;simp only [Array.getElem_toList];unfold zkS at h1;simp only [Array.getElem_toList] at h1;unfold Bef at *;omega
theorem zsw (L : List Ed) (i j : Nat) (hi : i<L.length) (hj : j<3) : (Go.Sort.flatK encE 3 L.toArray)[i*3+j]! = (encE L[i])[j]!:=by
 have ht : i*3+j<L.toArray.size*3:=by simp; omega
 rw [Go.Sort.get_flatK _ _ _ _ ht];have e1 : (i*3+j) / 3=i:=by omega
 have e2 : (i*3+j) % 3=j:=by omega
 rw [e1,e2];simp [hi]
theorem ztr (zs : List Ed) (h0 : zs≠[]) (hl : zs.length<4611686018427387904) (hA : zs.Pairwise zkS) :
  zaj Tryz.prog zbr [.rs 0 0 zs.length,.fn (.func zfq) [] []] [{ s:=3,rows:=zaT zs }] (.tup []) ([{ s:=3,rows:=zaT (zkK zs) }].map some):=by
 refine ⟨zd7.body,by simp,λ T M w vs htok hhs hdom hrep=>?_⟩
 have hpos : 0<zs.length:=List.length_pos_iff.2 h0;obtain ⟨hsz,hr⟩:=hrep;have hr0:=hr 0 (by simp)
 have hr1:=hr 1 (by simp)
 simp only [List.getD_cons_zero,List.getD_cons_succ] at hr0 hr1
 have hvs : vs = #[vs.getD 0 undef,vs.getD 1 undef]:=by
  apply Array.ext
  .simpa using hsz
  .intro i h1 h2
   have h3 : vs.size=2:=by simpa using hsz
   have : i=0∨i=1:=by simp at h2; omega
   rcases this with rfl | rfl <;> simp [Array.getD,h3]
 rw [hvs];generalize vs.getD 0 undef=v at hr0;generalize vs.getD 1 undef=fv at hr1
 cases hr1 with
 | fn _ _ _ _ us us' hx hy hq hq' =>
 have hus : us = #[]:=Array.eq_empty_of_size_eq_zero (by simpa using hx)
 have hus' : us' = #[]:=Array.eq_empty_of_size_eq_zero (by simpa using hy)
 subst hus hus'
 cases hr0 with
 | rs _ _ _ _ cap a g hg hgz hlc hn hb =>
 obtain ⟨g',hg',ent⟩:=hhs.ent 0 _ rfl;rw [hg] at hg';obtain rfl:=Option.some.inj hg';have hrl : (zaT zs).length=zs.length:=by simp
 have hgs : g.s=3:=ent.s
 cases hblk : g.blk with
 | none =>
   have:=ent.none hblk;simp at this;exact absurd this h0
 | some b =>
 obtain ⟨hcap,c0,t0,f0,hc0,hle0⟩:=hb b hblk;obtain ⟨cells,ty,hw,htb,hlen,hrows⟩:=ent.blk (Nat.succ_ne_zero 2) b hblk
 have ha : a=some ⟨b,g.base+0*g.s,none⟩:=by
  rcases hcap with h | h
  .omega
  .exact h
 subst ha;simp only [Nat.zero_mul,Nat.add_zero] at *
 have hcell : ∀ i,(hi : i<zs.length) -> ∀ j,j<3->cells[g.base+(i*3+j)]? = some ((encE zs[i])[j]!):=by
  intro i hi j hj;obtain ⟨u,hu,_,hru⟩:=hrows i j (by rw [hrl]; exact hi) hj
  rw [<- Nat.add_assoc];rw [hu];have : ((zaT zs).getD i [])=[AV.I zs[i].f,AV.I zs[i].t,AV.I zs[i].v]:=by simp [List.getD,hi]
  rw [this] at hru;have h3 : j=0∨j=1∨j=2:=by omega
  rcases h3 with rfl | rfl | rfl
  .cases hru; rfl
  .cases hru; rfl
  .cases hru; rfl
 have hb' : b<w.heap.size:=(Array.getElem?_eq_some_iff.1 hw).1;have hfs : ∀ L : List Ed,(Go.Sort.flatK encE 3 L.toArray).size=L.length*3:=λ L=>by simp
 refine (Go.Proofs.AnyQ.slices_SortFunc Tryz.sortEd 3 Tryz.isAgg72 Tryz.sizeOf72 encE (λ _=>rfl) (λ x v hv=>by simp [encE] at hv; rcases hv with rfl | rfl | rfl <;> rfl) cmpL zww 56 #[] b g.base cap zs.toArray w
  (Go.Proofs.enters_of Tryz.func56 (by kernel_rfl) rfl) (λ _ _ _ _ x y=>zso x y _) ?_ hb' (by simpa using hl)).mono ?_
 .intro t ht
  rw [hfs] at ht;have h3 : t=t / 3*3+t % 3:=by omega
  have hti : t / 3<zs.length:=by omega
  have hv:=zsw zs (t / 3) (t % 3) hti (by omega)
  rw [<- h3] at hv;rw [hv];have hc:=hcell (t / 3) hti (t % 3) (by omega)
  rw [<- h3] at hc;constructor
  .show w.cell? _=_
   unfold World.cell?;simp only [hw];rw [hc];rfl
  .unfold World.frozen?
   simp only [hw];simp
 .rintro e w' ⟨rfl,d',n,os,hp,hs,rfl⟩
  have hd:=zuH hA hp hs;obtain rfl : d'=(zkK zs).toArray:=by rw [<- hd]
  have hsl : (zkK zs).length=zs.length:=(zfJ zs).length_eq;generalize zkK zs=ys at hsl;have hFs:=hfs ys;have hFg:=λ i j hi hj=>zsw ys i j hi hj;show ∃ v T' M',Ending.returned _ = .returned v/\_;have hw0 : Go.Proofs.sortWorldK encE 3 w b g.base n ys.toArray os=Go.Sort.grow (Go.Sort.putRow id (Go.Sort.ahead w n) b g.base (Go.Sort.flatK encE 3 ys.toArray)) os:=rfl;rw [hw0];generalize Go.Sort.flatK encE 3 ys.toArray=F at hFs hFg
  have hh : ∀ b',b'<w.heap.size->(Go.Sort.grow (Go.Sort.putRow id (Go.Sort.ahead w n) b g.base F) os).heap[b']? = if b'=b then some (.cells (Go.Sort.putCells id g.base F cells) ty (0,0)) else w.heap[b']?:=by
   intro b' hb1;have hsz' : (w.heap.modify b (Go.Sort.onCells (Go.Sort.putCells id g.base F))).size=w.heap.size:=Array.size_modify;show ((w.heap.modify b (Go.Sort.onCells (Go.Sort.putCells id g.base F)))++os)[b']? = _;rw [Array.getElem?_append_left (by rw [hsz']; exact hb1),Array.getElem?_modify]
   by_cases hbb : b=b'
   .subst hbb
    rw [if_pos rfl,if_pos rfl,hw];rfl
   .rw [if_neg hbb,if_neg (Ne.symm hbb)]
  have hput : ∀ o,(o<g.base∨g.base+ys.length*3<=o)->(Go.Sort.putCells id g.base F cells)[o]? = cells[o]?:=by
   intro o ho;unfold Go.Sort.putCells;rw [Array.getElem?_mapIdx]
   cases hc : cells[o]? with
   | none=>rfl
   | some u =>
     simp only [Option.map_some];rw [if_neg];rw [hFs];omega
  have hput2 : ∀ i,(hi : i<ys.length) -> ∀ j,j<3->(Go.Sort.putCells id g.base F cells)[g.base+i*3+j]? = some ((encE ys[i])[j]!):=by
   intro i hi j hj;unfold Go.Sort.putCells;rw [Nat.add_assoc,Array.getElem?_mapIdx,hcell i (by omega) j hj]
   simp only [Option.map_some];rw [if_pos (by rw [hFs]; omega),show g.base+(i*3+j) - g.base=i*3+j by omega,hFg i j hi hj]
   rfl
  have hcs : (Go.Sort.putCells id g.base F cells).size=cells.size:=by
   unfold Go.Sort.putCells;exact Array.size_mapIdx
  have hbig : w.heap.size<=(Go.Sort.grow (Go.Sort.putRow id (Go.Sort.ahead w n) b g.base F) os).heap.size:=by
   show w.heap.size<=((w.heap.modify b _)++os).size;rw [Array.size_append,Array.size_modify];omega
  have htb' : T b<=g.base:=by simpa using htb
  generalize hw' : (Go.Sort.grow (Go.Sort.putRow id (Go.Sort.ahead w n) b g.base F) os)=w' at hh hbig;have hlt : ∀ b' o,w.heap[b']? = some o->b'<w.heap.size:=λ b' o h=>(Array.getElem?_eq_some_iff.1 h).1
  have hpr : Pres T w T w':=by
   refine ⟨λ _=>Nat.le_refl _,λ b' cs' ty' fz' h=>?_⟩;rw [hh b' (hlt _ _ h)]
   by_cases hbb : b'=b
   .subst hbb
    rw [hw] at h
    cases h;exact ⟨_,_,if_pos rfl,hcs,λ o ho=>hput o (.inl (by omega))⟩
   .exact ⟨cs',fz',by rw [if_neg hbb]; exact h,rfl,λ _ _=>rfl⟩
  rw [ziP];refine ⟨_,T,M,rfl,.tup M [] #[] rfl (λ i hi=>by simp at hi),⟨λ id e he=>?_,λ id id' e e' g1 g2 b' h1 h2 h3 h4 h5 h6=>?_⟩,⟨λ b' hb1=>?_,λ _ _ _=>rfl,λ _ _=>rfl,?_,?_,?_,hbig,λ b' hb1 hb2=>?_,hpr,λ k g1 b' hk hg1 _=>?_⟩⟩
  .have hid : id=0:=by
    cases id with
    | zero=>rfl
    | succ k=>simp [hpOf] at he
   subst hid;simp only [hpOf,List.getElem?_cons_zero,Option.some.injEq] at he;subst he;refine ⟨g,hg,⟨ent.s,Nat.zero_le _,λ _ row hr=>?_,λ hn=>(by rw [hblk] at hn; cases hn),λ hz=>absurd hz (Nat.succ_ne_zero 2),λ _ b' hb1=>?_⟩⟩
   .simp at hr
    obtain ⟨x,_,rfl⟩:=hr;rfl
   .rw [hblk] at hb1
    obtain rfl:=Option.some.inj hb1;refine ⟨_,ty,by rw [hh _ hb',if_pos rfl],by simpa using htb',by rw [hcs]; simp only [List.length_map] at hlen ⊢; rw [hsl]; exact hlen,λ i j hi hj=>?_⟩
    have hi' : i<ys.length:=by simpa using hi
    have hj' : j<3:=hj;refine ⟨(encE ys[i])[j]!,hput2 i hi' j hj',?_,?_⟩
    .have h3 : j=0∨j=1∨j=2:=by omega
     rcases h3 with rfl | rfl | rfl <;> rfl
    .have : ((zaT ys).getD i [])=[AV.I ys[i].f,AV.I ys[i].t,AV.I ys[i].v]:=by simp [List.getD,hi']
     show Rep T w' M (((zaT ys).getD i []).getD j .dead) _;rw [this];have h3 : j=0∨j=1∨j=2:=by omega
     rcases h3 with rfl | rfl | rfl <;> exact .sc _ _ rfl
  .have h0 : ∀ id e,hpOf [({ s:=3,rows:=zaT ys } : Ent)] id=some e->id=0:=by
    intro id e he
    cases id with
    | zero=>rfl
    | succ k=>simp [hpOf] at he
   rw [h0 _ _ h1,h0 _ _ h2]
  .obtain ⟨c1,ty1,fz1,h1,h2⟩:=htok b' hb1
   obtain ⟨c2,fz2,h3,h4,_⟩:=hpr.cell b' c1 ty1 fz1 h1;exact ⟨c2,ty1,fz2,h3,by omega⟩
  .rw [<- hw']; rfl
  .rw [<- hw']; rfl
  .rw [<- hw']; rfl
  .rw [hh b' hb1,if_neg]
   intro hbb;exact hb2 ⟨0,g,by simp,hg,by rw [hblk,hbb]⟩
  .rw [hdom k hk] at hg1
   cases hg1
theorem ztK (e : Ed) (k : Int) : zaj Tryz.prog zdZ [eE e,.pv [.I k]] [] (.B (decide (e.f=k) || decide (e.t=k))) []:=by
 refine zlu.ac ?_;show awp _ 0 _ _ ⟨14,[(0,eE e),(1,.pv [.I k])],[],16⟩;refine rs [1,2] [] [16] ?_;refine zaa ⟨14,[(3,.B (decide (e.f=k) || decide (e.t=k)))],[],200⟩ rfl ?_ ?_
 .simp
  repeat' first
   | (refine zem (λ hb=>?_) (λ hb=>?_) <;> (try rw [hb]) <;> (try simp at hb) <;> simp [hb])
  all_goals exact Le.snap [] rfl rfl (by simp <;> exact wkB (by (try simp at *); grind))
 refine zai ?_;exact ⟨.inr rfl,zao.one (by simp)⟩
theorem zlJ (f : FuncId) (capt : List AV) (q : Ed->Bool) (l : List Ed) (hl : l.length<=1099511627776) (hs : zlI capt) (hc : ∀ e∈l,zaj Tryz.prog f (eE e::capt) [] (.B (q e)) []) : zaj Tryz.prog zbc [eEs l,.fn (.func f) [] capt] [] (.B (l.any q)) []:=by
 have hs2 : ∀ ρ sn h,capt.map (conv ρ sn h 2)=capt:=λ _ _ _=>hs _ _ _ 1
 have hs3 : ∀ ρ sn h,capt.map (conv ρ sn h 3)=capt:=λ _ _ _=>hs _ _ _ 2
 have hs4 : ∀ ρ sn h,capt.map (conv ρ sn h 4)=capt:=λ _ _ _=>hs _ _ _ 3
 refine zdo.ac ?_;show awp _ 0 _ _ ⟨9,[(0,eEs l),(1,.fn (.func f) [] capt)],[],16⟩;refine zab ?_;refine zan ?_
 have hi : decide (0<=idxQ l q)=l.any q:=by
  unfold idxQ
  by_cases h : l.findIdx q<l.length
  .rw [if_pos h]
   have:=List.findIdx_getElem (w:=h);have h2 : l.any q=true:=List.any_eq_true.2 ⟨_,List.getElem_mem h,this⟩;rw [h2];simp
  .rw [if_neg h]
   have : l.findIdx q=l.length:=by have:=List.findIdx_le_length (xs:=l) (p:=q); omega
   rw [List.findIdx_eq_length] at this
   have h2 : l.any q=false:=by
    rw [List.any_eq_false];intro x hx;simp [this x hx]
   rw [h2];simp
 refine zaa ⟨9,[(4,.B (l.any q))],[],16⟩ rfl ?_ ?_
 .simp
  refine zap (zkh f capt q l hl hs hc) ?_ ?_
  .simp [hs2,hs3,hs4]
  simp;exact Le.snap [] rfl rfl (by simp; exact wkB hi)
 refine zai ?_;exact ⟨.inr rfl,zao.one (by simp)⟩
set_option maxHeartbeats 1000000 in
theorem zyp (g : Gr) (p : Pol) (x k : Int) (hl : g.edges.length<=1099511627776) (hl2 : g.gone.length<=1099511627776) (hs : p.seeds.length<=1099511627776) : zaj Tryz.prog zho [eG g,eP p,.I x,.I k] [] (.B (zh7 g p x k)) []:=by
 refine zpB.ac ?_;show awp _ 0 _ _ ⟨35,[(0,eG g),(1,eP p),(2,.I x),(3,.I k)],[],16⟩;have hcf:=zlJ zdZ [.pv [.I k]] (λ e=>decide (e.f=k) || decide (e.t=k)) g.edges hl (λ ρ sn h n=>by simp) λ e _=>ztK e k
 have hc1:=zdj g.gone k (by omega)
 have hc2:=zdj p.seeds k (by omega)
 refine zaa ⟨35,[(2,.I x),(4,.pv (gC g)),(5,.pv (pC p)),(7,.pt 32 0 0)],[(32,some ⟨1,[[.I k]],0⟩)],100⟩ rfl ?_ ?_
 .simp
  exact LeH [(32,32)] [16,24]
 obtain ⟨b,hb0⟩ : ∃ b,b=g.edges.any λ e=>decide (e.f=k) || decide (e.t=k):=⟨_,rfl⟩;rw [<- hb0] at hcf;refine zaa ⟨35,[(2,.I x),(4,.pv (gC g)),(5,.pv (pC p)),(7,.pv [.I k]),(9,.B b)],[],200⟩ rfl ?_ ?_
 .simp
  refine zi1 [32] hcf (by simp) (.sc _) ?_
  simp;exact LeH [] [32]
 have hq : zh7 g p x k=(!decide (k=x) && (!b && (!decide (k∈g.gone) && !decide (k∈p.seeds)))):=by rw [hb0]; rfl
 rw [hq];refine zaa ⟨35,[(8,.B (!decide (k=x) && (!b && (!decide (k∈g.gone) && !decide (k∈p.seeds)))))],[],400⟩ rfl ?_ ?_
 .by_cases h1 : k=x
  .have hne : (k != x)=false:=by simp [h1]
   simp [h1,hne];exact LeH [] []
  have hne : (k != x)=true:=by simp [h1]
  cases b with
  | true =>
    simp [h1,hne];exact LeH [] []
  | false =>
    simp [h1,hne];refine zap hc1 (by simp) ?_
    by_cases h3 : k∈g.gone
    .simp [h3]
     exact LeH [] []
    .simp [h3]
     refine zap hc2 (by simp) ?_
     simp;exact LeH [] []
 refine zai ?_;exact ⟨.inr rfl,zao.one (by simp)⟩
theorem ztv (g : Gr) (p : Pol) (x k : Int) (hl : g.edges.length<=1099511627776) (hl2 : g.gone.length<=1099511627776) (hs : p.seeds.length<=1099511627776) : zaj Tryz.prog zdT [.I k,.pv (gC g),.pv (pC p),.pv [.I x]] [] (.B (zh7 g p x k)) []:=by
 refine zlM.ac ?_;show awp _ 0 _ _ ⟨11,[(0,.I k),(1,.pv (gC g)),(2,.pv (pC p)),(3,.pv [.I x])],[],16⟩;refine rs [0,1,2,3] [] [] ?_;refine zaa ⟨11,[(5,.B (zh7 g p x k))],[],200⟩ rfl ?_ ?_
 .simp
  refine zap (zyp g p x k hl hl2 hs) (by simp) ?_
  simp;exact LeH [] []
 refine zai ?_;exact ⟨.inr rfl,zao.one (by simp)⟩
abbrev outG (N : Int) (go : List Int) (B n : Nat) : Ent:=⟨3,[[.I N,.rs B 0 n,ints go]],0⟩
theorem zuj (N : Int) (go : List Int) (f t : Int) (L : List Ed) (n : Nat) (hL : L.length=n) (hn : n<=1000000) : zaj Tryz.prog za3 [.I f,.I t,.pt 0 0 0] [outG N go 1 n,⟨3,zaT L,0⟩] (.tup []) [some (outG N go 2 (n+1)),none,some ⟨3,zaT (L++[⟨f,t,3⟩]),0⟩]:=by
 refine zlr.acalls (nbz rfl) (nbz rfl) (nbz rfl) ?_;show awp _ 2 _ _ ⟨13,[(0,.I f),(1,.I t),(2,.pt 0 0 0)],[(0,some (outG N go 1 n)),(1,some ⟨3,zaT L,0⟩)],16⟩;have htl : ∀ f : Ed->List AV,List.take n (List.map f L)=List.map f L:=λ f=>List.take_of_length_le (by simp [hL])
 refine zar (s:=?s1) rfl ?o1 ?q1
 case o1=>simp [hL,htl]; refine ⟨by omega,by omega,?_⟩; rfl
 refine ⟨.inl rfl,⟨[],rfl,[64],[],by simp [List.range,List.range.loop],by simp,by simp,by simp,?_⟩⟩
 simp [List.range,List.range.loop]
theorem zm2 (g : Gr) (v : Int) (hall : zal g v=g) (hl : g.edges.length<=1099511627776) (hl2 : g.gone.length<=1099511627776) : zaj Tryz.prog zbV [eG g,.I v] [] (.agg [.I g.size,.rs 0 0 g.edges.length,ints g.gone]) [some ⟨3,zaT g.edges,0⟩]:=by
 refine zgn.ac ?_;show awp _ 0 _ _ ⟨14,[(0,eG g),(1,.I v)],[],16⟩;have hee : (g.edges.filter λ e=>!decide (e.v<v))=g.edges:=congrArg Gr.edges hall;obtain ⟨E,hE⟩ : ∃ E,E=g.edges.filter λ e=>!decide (e.v<v):=⟨_,rfl⟩;have hEl : E.length<=g.edges.length:=by rw [hE]; exact List.length_filter_le _ _
 have hdel:=zi8 zcf [.pv [.I v]] (λ e=>decide (e.v<v)) g.edges g.edges.length E.length rfl (by rw [hE]) hl (λ ρ sn h n=>by simp) (λ e _=>zg1 e v)
 rw [<- hE] at hdel;have hEg : E=g.edges:=hE.trans hee;refine zaa ⟨14,[(2,.pv (gC g)),(3,.pt 24 0 0),(4,.pt 32 0 0)],[(24,some ⟨1,[[.I v]],0⟩),(32,some zG)],40⟩ rfl ?_ ?_
 .simp
  refine Le.ents [(24,24),(32,32)] [16] rfl (by simp) (by simp) (by simp) (by simp) (by simp) (by simp) λ p hp=>?_
  simp at hp;rcases hp with rfl | rfl
  .exact ⟨24,_,_,rfl,by simp,rfl,zaN.eq (by simp) (by simp)⟩
  .exact ⟨32,_,_,rfl,by simp,rfl,zaN.eq (by simp) (by simp)⟩
 refine zaa ⟨14,[(3,.pt 24 0 0),(4,.pt 32 0 0),(5,.pt 56 0 0)],[(24,some ⟨1,[[.I v]],0⟩),(32,some zG),(56,some ⟨3,[[.I g.size,.rs 48 0 g.edges.length,.rs 49 0 g.gone.length]],0⟩),(48,some ⟨3,zaT g.edges,0⟩),(49,some ⟨1,g.gone.map λ n=>[AV.I n],0⟩)],72⟩ rfl ?_ ?_
 .simp
  refine zql (zh5 g (by omega) (by omega)) rfl ?_
  simp [fcd];exact Le.keep rfl (Nat.le_refl _) (by simp) (by simp)
 refine zaa ⟨14,[(4,.pt 32 0 0),(5,.pt 56 0 0)],[(32,some zG),(56,some ⟨3,[[.I g.size,.rs 48 0 E.length,.rs 49 0 g.gone.length]],0⟩),(48,some ⟨3,zaT E++List.replicate (g.edges.length - E.length) [.I 0,.I 0,.I 0],0⟩),(49,some ⟨1,g.gone.map λ n=>[AV.I n],0⟩)],120⟩ rfl ?_ ?_
 .simp
  refine zox (i:=48) (j:=24) (by decide) (Nat.zero_le _) rfl rfl ?_ hdel (by simp) ?_ ?_
  .simp [fcd]
  .simp
  simp [fcd];exact Le.keep rfl (Nat.le_refl _) (by simp) (by simp)
 refine zab ?_;refine zan ?_;refine zai ?_;refine ⟨.inr rfl,?_⟩;show zao [(4,some (true,3))] 0 _ _ _;subst hEg;refine zao.out (vs:=[.agg [.I g.size,.rs 48 0 g.edges.length,.rs 49 0 g.gone.length]]) [48] [49] (by simp) (by simp) (by simp) ?_ (by simp [fcd])
 simp [fcd,zac]
structure MapI (rows : List (List AV)) (φ : Int->Option AV) : Prop where
 is : MapR rows φ
 flat : ∀ n x,φ n=some x -> ∃ v,x = .sc v
theorem MapI.mem {rows : List (List AV)} {φ : Int->Option AV} (h : MapI rows φ) {r : List AV} (hr : r∈rows) : ∃ k v,r=[.sc k,.sc v]:=by
 obtain ⟨⟨l,rfl,hn,hf⟩,hfl⟩:=h;obtain ⟨q,hq,rfl⟩:=List.mem_map.1 hr;obtain ⟨v,e⟩:=hfl q.1 q.2 (by rw [<- hf]; exact zms hn hq)
 exact ⟨_,v,by rw [e]⟩
theorem MapI.conv' {rows : List (List AV)} {φ : Int->Option AV} (h : MapI rows φ) (ρ : List (Nat × Nat)) (sn : List Nat) (g : Nat->Option Ent) : rows.map (List.map (Go.Proofs.YtkngdgplbojdlaaGreat.conv ρ sn g 4))=rows:=by
 conv=>rhs; rw [<- List.map_id rows]
 refine List.map_congr_left λ r hr=>?_;obtain ⟨k,v,rfl⟩:=h.mem hr;simp
theorem MapI.set {rows : List (List AV)} {φ ψ : Int->Option AV} (h : MapI rows φ) (n v : Int) (he : ψ=λ k=>if k=n then some (.I v) else φ k) : MapI (mset n (.I v) rows) ψ:=by
 subst he;refine ⟨h.is.set n (.I v),λ k x hx=>?_⟩;split at hx
 .cases hx; exact ⟨_,rfl⟩
 .exact h.flat k x hx
variable {g : Gr} {p : Pol}
theorem ForR.uniq {key : Int} {x y : Expl} (hg : GrOk g) (hx : ForR g p (ordL (zal g p.lv) p.seeds) key x) (hy : ForR g p (ordL (zal g p.lv) p.seeds) key y) :
  x.key=y.key/\x.acc=y.acc/\x.before=y.before/\x.side=y.side/\x.paths.length=y.paths.length:=by
 obtain ⟨hx1,hx2,i,hi,hik,hib⟩:=hx.at_ hg;obtain ⟨hy1,hy2,j,hj,hjk,hjb⟩:=hy.at_ hg;have hij : i=j:=(List.getElem_inj (zcv (zal g p.lv) p.seeds)).1 (hik.trans hjk.symm);subst hij;have hb : x.before=y.before:=hib.trans hjb.symm;refine ⟨hx1.trans hy1.symm,?_⟩
 by_cases hacc : key∈accR g p (ordL (zal g p.lv) p.seeds)
 .obtain ⟨x1,x2,W,⟨f,g',_,_,hl,_⟩,x3⟩:=hx.yes hacc
  obtain ⟨y1,y2,V,⟨f',g'',_,_,hl',_⟩,y3⟩:=hy.yes hacc;refine ⟨x1.trans y1.symm,hb,x2.trans y2.symm,?_⟩;rw [x3,y3,List.length_map,List.length_map];rw [hb] at hl;omega
 .obtain ⟨x1,x2,R,hR,hs⟩:=hx.no hacc
  obtain ⟨y1,y2,R',hR',hs'⟩:=hy.no hacc;refine ⟨x1.trans y1.symm,hb,?_,by rw [x2,y2]⟩
  obtain ⟨a,ha,hak,hn⟩:=hR.right _ hs;obtain ⟨b,hb',hbk,hn'⟩:=hR'.right _ hs';simp only at hak hbk hn hn';have h1 : a=i:=(List.getElem_inj (zcv (zal g p.lv) p.seeds)).1 (hak.trans hik.symm);have h2 : b=i:=(List.getElem_inj (zcv (zal g p.lv) p.seeds)).1 (hbk.trans hik.symm);subst h1;subst h2;rw [hn.eq,hn'.eq]
def g1 : Gr:=⟨1,[],[]⟩
def p1 : Pol:=⟨[0],[2],1⟩
section
variable {P : Program} {np id : Nat} {h : Nat->Option Ent} {K : AV->List Nat->List (Nat × Option Ent)->Prop} {f : FuncId} {first capt args args' : List AV} {res : AV}
end
end Go.Proofs.YtkngdgplbojdlaaGreat
