/- Texts of this claim,merged. -/
import Derived.Test.YtkngdgplbojdlaaGreatRw14
import Derived.Test.YtkngdgplbojdlaaGreatRw12
import Derived.Test.YtkngdgplbojdlaaGreatRw13
import Derived.Test.YtkngdgplbojdlaaGreatRw10
import Derived.Test.YtkngdgplbojdlaaGreatRw6
import Derived.Test.YtkngdgplbojdlaaGreatRw9
import Derived.Test.YtkngdgplbojdlaaGreatRw7
import Derived.Shelf.SlSortCmp.WholeK
import Derived.Test.YtkngdgplbojdlaaGreatProg
import Derived.LoopN
import Derived.BigQuiet
import Derived.Deep.RegionHeld3
import Derived.Deep.DrawnRows
import Derived.Test.YtkngdgplbojdlaaGreatRw5
set_option linter.unusedSimpArgs false
set_option linter.unusedVariables false
set_option linter.unusedSectionVars false
namespace Go.Proofs.YtkngdgplbojdlaaGreat
open Go
theorem zao.k2n {rs : List (Nat × Option (Bool × Nat))} {st : St} {vs : List AV} {res : AV} {e0 e1 e : Ent} (i : Nat) (hi : 2<=i) (h1 : zgp st rs=some vs) (hw : Wk (conv [(0,0),(1,1),(i,2)] [] st.hp 4 (resV vs)) res)
  (h0 : (st.hp 0).map (zaw [(0,0),(1,1),(i,2)] [] st.hp 4)=some e0) (h2 : (st.hp 1).map (zaw [(0,0),(1,1),(i,2)] [] st.hp 4)=some e1) (he : (st.hp i).map (zaw [(0,0),(1,1),(i,2)] [] st.hp 4)=some e) : zao rs 2 st res [some e0,some e1,some e]:=by
 have e2 : List.range 2++[i]=[0,1,i]:=rfl;refine ⟨vs,h1,[i],[],?_,by simpa using hi,by simp,?_,?_⟩
 .rw [e2]
  simp;omega
 .rw [e2]
  exact hw
 .rw [e2]
  show [_,_,_]=_;have h0' : Option.map (zaw (([0,1,i] : List Nat).zipIdx) [] st.hp 4) (st.hp 0)=some e0:=h0;have h2' : Option.map (zaw (([0,1,i] : List Nat).zipIdx) [] st.hp 4) (st.hp 1)=some e1:=h2;have he' : Option.map (zaw (([0,1,i] : List Nat).zipIdx) [] st.hp 4) (st.hp i)=some e:=he;simp only [List.map_cons,List.map_nil,h0',h2',he']
theorem zao.k2 {rs : List (Nat × Option (Bool × Nat))} {st : St} {vs : List AV} {res : AV} {e0 e1 : Ent} (h1 : zgp st rs=some vs) (hw : Wk (conv [(0,0),(1,1)] [] st.hp 4 (resV vs)) res)
  (h0 : (st.hp 0).map (zaw [(0,0),(1,1)] [] st.hp 4)=some e0) (h2 : (st.hp 1).map (zaw [(0,0),(1,1)] [] st.hp 4)=some e1) : zao rs 2 st res [some e0,some e1] :=
 ⟨vs,h1,[],[],by decide,by simp,by simp,hw,by
  show [_,_]=_;have h0' : Option.map (zaw ((List.range 2++[] : List Nat).zipIdx) [] st.hp 4) (st.hp 0)=some e0:=h0;have h2' : Option.map (zaw ((List.range 2++[] : List Nat).zipIdx) [] st.hp 4) (st.hp 1)=some e1:=h2
  simp only [h0',h2']⟩
set_option maxRecDepth 100000 in
theorem zpg {N : Nat} {D b : List Int} {R : List (List AV)} (hR : MapF R (camF D b)) (k : Int) : zaj Tryz.prog zaW [.I k,.pt 0 0 0] [⟨1,[[.mp 1]],0⟩,⟨0,R,0⟩] (.B (decide (k∈D))) [some ⟨1,[[.mp 1]],0⟩,some ⟨0,R,0⟩]:=by
 refine zlT.ac ?_;show awp _ 2 _ _ ⟨13,[(0,.I k),(1,.pt 0 0 0)],[(0,some ⟨1,[[.mp 1]],0⟩),(1,some ⟨0,R,0⟩)],16⟩;have hfind:=hR.is.find;have hsome:=zjr D b k
 have hgd : ∃ u v,(camF D b k).getD (toAV (Value.agg #[Value.int IntKind.i64 0,Value.bool false])) = .agg [.sc u,.sc v]:=by
  cases hc : camF D b k with
  | none=>exact ⟨_,_,zth⟩
  | some x =>
    obtain ⟨u,v,rfl⟩:=zh3 _ _ _ _ hc;exact ⟨u,v,rfl⟩
 obtain ⟨u,v,huv⟩:=hgd;refine rk (s:=?s1) [0,1] [0,1] rfl ?o1 ?q1
 case o1=>simp; rfl
 refine zaa ⟨13,[(5,.B (decide (k∈D)))],[(0,some ⟨1,[[.mp 1]],0⟩),(1,some ⟨0,R,0⟩)],200⟩ rfl ?_ ?_
 .simp [hfind,hsome,huv]
  exact Le.go [(0,0),(1,1)] [] rfl rfl (by simp) (by simp [hR.conv'])
 refine zaa ⟨13,[(3,.B (decide (k∈D)))],[(0,some ⟨1,[[.mp 1]],0⟩),(1,some ⟨0,R,0⟩)],300⟩ rfl ?_ ?_
 .simp
  exact Le.go [(0,0),(1,1)] [] rfl rfl (by simp) (by simp [hR.conv'])
 refine zah ?_;exact ⟨.inr rfl,zao.k2 rfl (by simp) (by simp) (by simp [hR.conv'])⟩
set_option maxRecDepth 100000 in
set_option maxHeartbeats 1000000 in
theorem zuU {D b : List Int} {R : List (List AV)} (hR : MapF R (camF D b)) (N : Nat) (hN : N<=1000000) :
  zaj Tryz.prog zbt [.I N,.fn (.func zaW) [] [.pt 0 0 0]] [⟨1,[[.mp 1]],0⟩,⟨0,R,0⟩] (.rs 2 0 (inD D N).length) [some ⟨1,[[.mp 1]],0⟩,some ⟨0,R,0⟩,some ⟨1,zag (inD D N),0⟩]:=by
 refine zgr.acalls (nbz rfl) (nbz rfl) (by simp) ?_
 show awp _ 2 _ _ ⟨20,[(0,.I N),(1,.fn (.func zaW) [] [.pt 0 0 0])],[(0,some ⟨1,[[.mp 1]],0⟩),(1,some ⟨0,R,0⟩)],16⟩;refine zaa ⟨20,[(0,.I N),(1,.fn (.func zaW) [] [.pt 0 0 0])],[(0,some ⟨1,[[.mp 1]],0⟩),(1,some ⟨0,R,0⟩)],24⟩ rfl ?_ ?_
 .simp
  exact Le.go [(0,0),(1,1)] [] rfl rfl (by simp) (by simp [hR.conv'])
 refine zaa ⟨20,[(0,.I N),(1,.fn (.func zaW) [] [.pt 0 0 0]),(5,.rs 50 0 0)],[(0,some ⟨1,[[.mp 1]],0⟩),(1,some ⟨0,R,0⟩),(50,some ⟨1,[],0⟩)],100⟩ rfl ?_ ?_
 .simp
  refine Le.lst [(0,0),(1,1)] [] [(50,1)] rfl (by simp) (by simp) (by simp) (by simp) (by simp) (by simp) (by simp) (by simp [Up,conv]) ?_
  simp [hR.conv']
  exact ⟨zaQ.rfl' (Nat.zero_le _),zaQ.rfl' (Nat.zero_le _)⟩
 refine zab ?_;refine zaa ⟨20,[(1,.fn (.func zaW) [] [.pt 0 0 0]),(5,.rs 50 0 0),(7,.I N),(8,.I 0)],[(0,some ⟨1,[[.mp 1]],0⟩),(1,some ⟨0,R,0⟩),(50,some ⟨1,[],0⟩)],200⟩ rfl ?_ ?_
 .simp
  exact Le.go [(0,0),(1,1),(50,50)] [] rfl rfl (by simp [conv]) (by simp [hR.conv'])
 refine zae ?_;refine zat (ι:=Nat) (λ k=>⟨20,[(1,.fn (.func zaW) [] [.pt 0 0 0]),(5,.rs 50 0 (inD D k).length),(7,.I N),(8,.I k)],[(0,some ⟨1,[[.mp 1]],0⟩),(1,some ⟨0,R,0⟩),(50,some ⟨1,zag (inD D k),0⟩)],200⟩) (λ k=>k<=N) (λ k=>N - k) 0 (Nat.zero_le _) (Le.go [(0,0),(1,1),(50,50)] [] rfl rfl (by simp [conv,inD]) (by simp [hR.conv',inD])) ?_
 intro k hk;have hwl:=zsi D k;refine zaa ⟨20,[(1,.fn (.func zaW) [] [.pt 0 0 0]),(5,.rs 50 0 (inD D k).length),(7,.I N),(8,.I k),(9,.B (decide (k<N)))],[(0,some ⟨1,[[.mp 1]],0⟩),(1,some ⟨0,R,0⟩),(50,some ⟨1,zag (inD D k),0⟩)],300⟩ rfl ?_ ?_
 .simp
  exact Le.go [(0,0),(1,1),(50,50)] [] rfl rfl (by simp [conv]) (by simp [hR.conv',fcd])
 refine zab ?_;refine zac _ rfl (λ h=>?_) λ h=>?_
 .simp at h
  have hw2 : IntKind.i64.wrap ((k : Int)+1)=(k : Int)+1:=w6;have hnext:=zoL D k;refine zad ?_;refine zaT (ι:=Unit) (λ _=>⟨20,[(1,.fn (.func zaW) [] [.pt 0 0 0]),(5,.rs 50 0 (inD D (k+1)).length),(7,.I N),(8,.I k)],[(0,some ⟨1,[[.mp 1]],0⟩),(1,some ⟨0,R,0⟩),(50,some ⟨1,zag (inD D (k+1)),0⟩)],1000⟩) (λ _=>True) ?_ λ _ _=>?_
  .rw [hnext]
   obtain ⟨W,hW⟩ : ∃ W,W=inD D k:=⟨_,rfl⟩;rw [<- hW] at hwl ⊢;refine zae ?_;refine zaa ⟨20,[(1,.fn (.func zaW) [] [.pt 0 0 0]),(5,.rs 50 0 W.length),(6,.I k),(7,.I N),(8,.I k)],[(0,some ⟨1,[[.mp 1]],0⟩),(1,some ⟨0,R,0⟩),(50,some ⟨1,zag W,0⟩)],400⟩ rfl ?_ ?_
   .simp
    exact Le.go [(0,0),(1,1),(50,50)] [] rfl rfl (by simp [conv]) (by simp [hR.conv',fcd])
   refine zaa ⟨20,[(1,.fn (.func zaW) [] [.pt 0 0 0]),(5,.rs 50 0 W.length),(6,.I k),(7,.I N),(8,.I k),(13,.B (decide ((k : Int)∈D)))],[(0,some ⟨1,[[.mp 1]],0⟩),(1,some ⟨0,R,0⟩),(50,some ⟨1,zag W,0⟩)],500⟩ rfl ?_ ?_
   .simp
    refine zke (i:=0) (j:=1) (by decide) rfl rfl (by simp) (by simp [hR.conv']) (zpg (N:=N) hR k) (by simp) (by simp) ?_
    simp [hR.conv']
    exact Le.go [(0,0),(1,1),(50,50)] [] rfl rfl (by simp [conv]) (by simp [hR.conv',fcd])
   refine zac _ rfl (λ h5=>?_) λ h5=>?_
   .rw [decide_eq_true_eq] at h5
    rw [if_pos h5];have hmw : ∀ g : Int->List AV,List.take W.length (List.map g W)=List.map g W:=λ g=>List.take_of_length_le (by simp)
    refine zay rfl ?_;simp [hmw];exact ⟨by omega,by omega,Le.go [(0,0),(1,1),(524,50)] [] rfl rfl (by simp [conv]) (by simp [hR.conv',fcd])⟩
   .rw [decide_eq_false_iff_not] at h5
    rw [if_neg h5,List.append_nil];refine zad ?_;exact ⟨(),trivial,Le.go [(0,0),(1,1),(50,50)] [] rfl rfl (by simp [conv]) (by simp [hR.conv',fcd])⟩
  refine zay rfl ?_;simp [hw2];exact ⟨k+1,by omega,by omega,Le.go [(0,0),(1,1),(50,50)] [] rfl rfl (by simp [conv,hw2]) (by simp [hR.conv',fcd])⟩
 simp at h;obtain rfl : k=N:=by omega
 refine zar ?_;refine hit ?_;refine zaa ⟨20,[(4,.rs 50 0 (inD D k).length)],[(0,some ⟨1,[[.mp 1]],0⟩),(1,some ⟨0,R,0⟩),(50,some ⟨1,zag (inD D k),0⟩)],400⟩ rfl ?_ ?_
 .simp
  exact Le.go [(0,0),(1,1),(50,50)] [] rfl rfl (by simp) (by simp [hR.conv',fcd])
 refine zah ?_;exact ⟨.inr rfl,zao.k2n 50 (by omega) rfl (by simp) (by simp) (by simp [hR.conv']) (by simp [fcd])⟩
theorem zao.k1n {rs : List (Nat × Option (Bool × Nat))} {st : St} {vs : List AV} {res : AV} {e0 e : Ent} (i : Nat) (hi : 1<=i) (h1 : zgp st rs=some vs) (hw : Wk (conv [(0,0),(i,1)] [] st.hp 4 (resV vs)) res) (h0 : (st.hp 0).map (zaw [(0,0),(i,1)] [] st.hp 4)=some e0) (he : (st.hp i).map (zaw [(0,0),(i,1)] [] st.hp 4)=some e) : zao rs 1 st res [some e0,some e] :=
 ⟨vs,h1,[i],[],by simp [List.range,List.range.loop]; omega,by simpa using hi,by simp,by simpa [List.range,List.range.loop] using hw,by simpa [List.range,List.range.loop] using ⟨by simpa using h0,by simpa using he⟩⟩
@[simp] theorem zy0 {i : Nat} : cellsOf (.mp i)=some [.mp i]:=(rfl)
set_option maxRecDepth 100000 in
set_option maxHeartbeats 2000000 in
theorem zAz (N : Nat) (A : List Ed) (f0 : List Int) (hn : zbF ⟨N,A⟩) (hf0 : zaK N A f0) :
  ∃ f : List Int,(zaK N A f /\ ∀ f',zaK N A f'->valF A f'<=valF A f)/\zaj Tryz.prog ziO [eN ⟨N,A⟩,ints f0] [] (.rs 0 0 A.length) [some ⟨1,zag f,0⟩]:=by
 refine znW.acallsX (args:=[eN ⟨N,A⟩,ints f0]) (hs:=[]) (λ f=>.rs 0 0 A.length) (λ f=>[some ⟨1,zag f,0⟩]) (λ f : List Int=>zaK N A f /\ ∀ f',zaK N A f'->valF A f'<=valF A f) (nbz rfl) (nbz rfl) (λ _=>by simp) ?_
 show awp _ 0 _ _ ⟨14,[(0,eN ⟨N,A⟩),(1,ints f0)],[],16⟩;have hno:=zfK hn;have hfl:=hf0.fit.len;have hopen:=λ (f : List Int)=>zvD N A f A.length hn;have hpush:=λ (f : List Int) (hf : zaK N A f)=>zAt N A f hn hf;have hal:=hn.2.2.1;simp only at hal;have hcl:=zqx f0 (by omega)
 rw [hfl] at hcl;have htake : ∀ g : Int->List AV,List.take A.length (List.map g f0)=List.map g f0:=λ g=>List.take_of_length_le (by simp; omega)
 refine rs [1,2] [] [16] ?_;refine zaE ⟨14,[(5,.pt 64 0 0)],[(48,some ⟨1,zag f0,0⟩),(64,some ⟨4,[rC N A (.rs 48 0 A.length)],0⟩)],80⟩ rfl ?_ ?_
 .simp
  refine zbx hcl (by simp) ?_
  simp;refine zcO (i:=48) rfl (by simp [fcd]) (hopen f0) (by simp) (by simp) ?_
  simp;exact ⟨rfl,LeI [(48,48),(64,64)] []⟩
 refine zab ?_;refine zae ?_;refine zat (ι:=List Int) (λ f=>⟨14,[(5,.pt 64 0 0)],[(48,some ⟨1,zag f,0⟩),(64,some ⟨4,[rC N A (.rs 48 0 A.length)],0⟩)],80⟩) (λ f=>zaK N A f) (λ f=>(capS (λ x=>decide (x=0)) A - valF A f).toNat) f0 hf0 (LeI [(48,48),(64,64)] []) ?_;intro f hf;obtain ⟨⟨c,f'⟩,hx,hcall⟩:=hpush f hf;simp only at hx hcall;refine zab ?_;refine zaa ⟨14,[(5,.pt 64 0 0),(11,.B c)],[(48,some ⟨1,zag f',0⟩),(64,some ⟨4,[rC N A (.rs 48 0 A.length)],0⟩)],100⟩ rfl ?_ ?_
 .simp
  refine zcO (i:=48) rfl (by simp [fcd]) hcall (by simp) (by simp) ?_
  simp;exact LeI [(48,48),(64,64)] []
 refine zac _ rfl (λ h4=>?_) λ h4=>?_
 .have hc : c=true:=h4
  subst hc;simp only [if_true] at hx;have hbnd:=zfL (S:=λ x=>decide (x=0)) hno hx.1 (by simp) (by simp)
  refine zad ?_;refine zae ?_;refine zad ?_;exact ⟨f',hx.1,by have:=hx.2; omega,LeI [(48,48),(64,64)] []⟩
 have hc : c=false:=h4;subst hc;simp only [Bool.false_eq_true,if_false] at hx;obtain ⟨rfl,hm⟩:=hx;refine zar ?_;refine hit ?_;refine zaa ⟨14,[(4,.rs 48 0 A.length)],[(48,some ⟨1,zag f',0⟩)],200⟩ rfl ?_ ?_
 .simp
  exact LeI [(48,48)] []
 refine zah ?_;exact znd.mk (.inr rfl) f' ⟨hf,hm⟩ (zao.out [48] [] rfl (by simp) (by simp) (by simp) (by simp [fcd]))
set_option maxRecDepth 100000 in
set_option maxHeartbeats 2000000 in
theorem ztH (N : Nat) (A : List Ed) (hn : zbF ⟨N,A⟩) :
  ∃ f : List Int,(zaK N A f /\ ∀ f',zaK N A f'->valF A f'<=valF A f)/\zaj Tryz.prog zh8 [eN ⟨N,A⟩] [] (.tup [.rs 0 0 A.length,.I 0]) [some ⟨1,zag f,0⟩]:=by
 have hno:=zfK hn;obtain ⟨f,hf,hg⟩:=zAz N A _ hn (zky hno);refine ⟨f,hf,?_⟩;have hchk:=zj5 ⟨N,A⟩ (by have:=hn.2.2.1; simp only at this ⊢; omega)
 rw [if_pos hn] at hchk;have hal:=hn.2.2.1;simp only at hal;have hfl:=hf.1.fit.len;refine zqa.ac ?_;show awp _ 0 _ _ ⟨16,[(0,eN ⟨N,A⟩)],[],16⟩;refine rs [1] [] [16] ?_;refine zab ?_;refine rx (s:=?s2) [1,4] [] [] rfl ?o2 ?q2
 case o2=>simp; refine zaq hchk (by simp) ?_; simp; rfl
 refine rs [1,4,8] [] [] ?_;refine zac _ rfl (λ h4=>by cases h4) λ h4=>?_
 refine zad ?_;refine zaE ⟨16,[(2,.rs 48 0 A.length),(3,.I 0)],[(48,some ⟨1,zag f,0⟩)],300⟩ rfl ?_ ?_
 .simp
  refine ⟨by omega,by omega,?_⟩
  refine zmD [112] hg (by simp [List.map_const']) (.rs _ _ _) zve ?_
  simp;exact ⟨rfl,LeI [(120,48)] []⟩
 refine zah ?_;exact ⟨.inr rfl,zao.out [48] [] rfl (by simp) (by simp) (by simp) (by simp [fcd])⟩
set_option maxRecDepth 100000 in
set_option maxHeartbeats 2000000 in
theorem zm1 (N : Nat) (A : List Ed) (f : List Int) (hn : zbF ⟨N,A⟩) (hf : zaK N A f) (hm : ∀ f',zaK N A f'->valF A f'<=valF A f) :
  zaj Tryz.prog zhF [eN ⟨N,A⟩,.rs 0 0 A.length] [⟨1,zag f,0⟩] (.rs 1 0 (zg6 N A).length) [some ⟨1,zag f,0⟩,some ⟨1,zag (zg6 N A),0⟩]:=by
 have hno:=zfK hn;obtain ⟨⟨D,b,R⟩,⟨hb,hcl,hR⟩,hcall⟩:=zsK N A f hn hf.fit;simp only at hb hcl hR hcall;have hopen:=zvD N A f A.length hn;have hnear : inD D N=zg6 N A:=zpd hno hf hm hb.tree hb.mem0 (zsj hno hf hm hb) hcl;have hwh:=zuU hR N (by have:=hn.2.1; simp only at this; omega)
 rw [hnear] at hwh;have hfl:=hf.fit.len;have htake : ∀ g : Int->List AV,List.take A.length (List.map g f)=List.map g f:=λ g=>List.take_of_length_le (by simp; omega)
 refine zpO.acalls (nbz rfl) (nbz rfl) (by simp) ?_
 show awp _ 1 _ _ ⟨14,[(0,eN ⟨N,A⟩),(1,.rs 0 0 A.length)],[(0,some ⟨1,zag f,0⟩)],16⟩;refine zaa ⟨14,[(1,.rs 0 0 A.length),(2,.pv (nC ⟨N,A⟩))],[(0,some ⟨1,zag f,0⟩)],32⟩ rfl ?_ ?_
 .simp
  exact LeI [(0,0)] [16]
 refine zaa ⟨14,[(2,.pv (nC ⟨N,A⟩)),(5,.pt 64 0 0)],[(0,some ⟨1,zag f,0⟩),(64,some ⟨1,[[.mp 56]],0⟩),(56,some ⟨0,R,0⟩)],100⟩ rfl ?_ ?_
 .simp
  refine zcO (i:=0) rfl (by simp [fcd]) hopen (by simp) (by simp) ?_
  simp;refine zmD [0] hcall (by simp [fcd,htake,hfl]) (.mp _) (hR.plain _ _) ?_
  simp;exact Le.go [(0,0),(64,64),(56,56)] [] rfl rfl (by simp) (by simp [fcd,hR.conv'])
 refine zaa ⟨14,[(4,.rs 57 0 (zg6 N A).length)],[(0,some ⟨1,zag f,0⟩),(57,some ⟨1,zag (zg6 N A),0⟩)],200⟩ rfl ?_ ?_
 .simp
  refine zke (i:=64) (j:=56) (by decide) rfl rfl (by simp) (by simp [hR.conv']) hwh (by simp) (by simp [conv]) ?_
  simp;exact LeI [(0,0),(124,57)] []
 refine zah ?_;exact ⟨.inr rfl,zao.k1n 57 (by omega) rfl (by simp) (by simp [fcd]) (by simp [fcd])⟩
theorem zh5 (l : List Int) (hl : l.length<=1099511627776) : zaj Tryz.prog zc2 [ints l] [] (.rs 0 0 l.length) [some ⟨1,zag (srt l),0⟩]:=by
 refine zoJ.ac ?_;show awp _ 0 _ _ ⟨6,[(0,ints l)],[],16⟩;have hs : zaj Tryz.prog zdh [seqF l] [] (.rs 0 0 l.length) [some ⟨1,zag (srt l),0⟩]:=zvu l hl;refine rs [0] [] [] ?_;refine zaa ⟨6,[(2,.rs 50 0 l.length)],[(50,some ⟨1,zag (srt l),0⟩)],100⟩ rfl ?_ ?_
 .simp
  refine zaq (zvR l) (by simp) ?_
  simp;refine zbx hs (by simp [conv]) ?_
  simp;exact LeI [(40,50)] []
 refine zah ?_;exact ⟨.inr rfl,zao.out [50] [] rfl (by simp) (by simp) (by simp) (by simp [fcd])⟩
theorem zl8 (g : Gr) (p : Pol) (hg : GrOk g) (hN : g.size<20) (hs : p.seeds.length<=1099511627776) : zaj Tryz.prog zhn [eG g,eP p] [] (.rs 0 0 (ordL (zai g p.lv) p.seeds).length) [some ⟨1,zag (ordL (zai g p.lv) p.seeds),0⟩]:=by
 refine zoU.ac ?_;show awp _ 0 _ _ ⟨12,[(0,eG g),(1,eP p)],[],16⟩;have hel:=hg.edges_le;have hgl:=hg.gone_le;have hsz:=hg.1.2.1;have hlev:=zgC g p.lv (by omega) (by omega)
 have hord:=zkS (g:=zai g p.lv) (S:=p.seeds) (hg.level p.lv) hN hs;obtain ⟨o,ho⟩ : ∃ o,o=ordL (zai g p.lv) p.seeds:=⟨_,rfl⟩;rw [<- ho] at hord ⊢;refine rs [2,3] [] [16,24] ?_;refine zaE ⟨12,[(4,.rs 50 0 o.length)],[(50,some ⟨1,zag o,0⟩)],200⟩ rfl ?_ ?_
 .simp
  refine zaq hlev (by simp) ?_
  simp;refine zbx hord (by simp) ?_
  simp;exact ⟨rfl,LeI [(88,50)] []⟩
 refine zah ?_;exact ⟨.inr rfl,zao.out [50] [] rfl (by simp) (by simp) (by simp) (by simp [fcd])⟩
theorem znA (l : List Int) (x : Int) (hl : l.length<=1000000) : zaj Tryz.prog zic [ints l,.I x] [] (.rs 0 0 (l.length+1)) [some ⟨1,zag (l++[x]),0⟩]:=by
 refine zqs.ac ?_;show awp _ 0 _ _ ⟨14,[(0,ints l),(1,.I x)],[],16⟩;refine rs [0,1] [] [] ?_;refine zaa ⟨14,[(4,.rs 50 0 (l.length+1))],[(50,some ⟨1,zag (l++[x]),0⟩)],200⟩ rfl ?_ ?_
 .have hsl : ∀ {id : Nat} {h : Nat->Option Ent} {K : AV->List Nat->List (Nat × Option Ent)->Prop},K (.vs 1 true (l.map λ n=>[AV.I n])) [] []->aK Tryz.prog 0 id (.slc 1 false true true) [ints l,.I (l.length : Nat),.I (l.length : Nat)] h K:=λ hK=>by
   rw [zmF];refine ⟨0,l.length,l.length,l.length,by simp,Nat.zero_le _,rfl,by simp,by simp,by simp,Nat.le_refl _,λ _=>rfl,rfl,?_⟩
   rw [List.drop_zero,Nat.sub_zero,List.take_of_length_le (by simp)]
   exact hK
  simp;refine hsl ?_;simp;exact ⟨by omega,by omega,LeI [(88,50)] []⟩
 refine zah ?_;exact ⟨.inr rfl,zao.out [50] [] rfl (by simp) (by simp) (by simp) (by simp [fcd])⟩
theorem zgX (g : Gr) (p : Pol) (ks : List Int) (hg : GrOk g) (hp : zbe g.size p) (hk : ks.Nodup) (hr : ∀ k∈ks,0<=k/\k<g.size) (hs : p.seeds.length<=64) : zaj Tryz.prog zes [eG g,eP p,ints ks] [] (eN ⟨netN g,netA g p (zaJ ks)⟩) []:=by
 refine zmR.ac ?_;show awp _ 0 _ _ ⟨18,[(0,eG g),(1,eP p),(2,ints ks)],[],16⟩;have hsz:=hg.1.2.1;have hr64 : ∀ k∈ks,0<=k/\k<64:=λ k h=>by have:=hr k h; omega
 have hlen:=zpL hk hr64;have hJl:=zgS ks;have hsort:=zh5 ks (by omega)
 rw [zpH hk hr64,<- hlen] at hsort;have hnet:=zlO g p (zaJ ks) hg hp (zh7 hr) hs hJl;rw [<- zlX hg,show zbA g p (zax g p) (zaJ ks)=netA g p (zaJ ks) from rfl] at hnet
 obtain ⟨J,hJ⟩ : ∃ J,J=zaJ ks:=⟨_,rfl⟩;obtain ⟨A,hA⟩ : ∃ A,A=netA g p (zaJ ks):=⟨_,rfl⟩;rw [<- hA] at hnet ⊢;rw [<- hJ] at hnet hsort;refine rs [2,3,4,6] [32] [16,24] ?_;refine zaE ⟨18,[(6,.pt 32 0 0),(7,.pv (nC ⟨netN g,A⟩))],[(32,some ⟨2,[[.I 0,.nilS]],0⟩)],300⟩ rfl ?_ ?_
 .simp
  refine zbx hsort (by simp) ?_
  simp;refine zz7 [64] (by simp) hnet (by simp [fcd,zak]) ?_
  simp;exact ⟨rfl,LeH [(32,32)] [104]⟩
 refine zaa ⟨18,[(6,.pt 32 0 0)],[(32,some ⟨2,[nC ⟨netN g,A⟩],0⟩)],400⟩ rfl ?_ ?_
 .simp [zaO]
  exact LeH [(32,32)] []
 refine zah ?_;exact ⟨.inr rfl,zao.out [] [32] rfl (by simp) (by simp) (by simp) (by simp)⟩
def zAw (N : Nat) (A : List Ed) (f : List Int) : Prop:=zaK N A f /\ ∀ f',zaK N A f'->valF A f'<=valF A f
theorem zny (N : Nat) (A : List Ed) (k : Int) (hn : zbF ⟨N,A⟩) :
  ∃ f : List Int,zAw N A f/\zaj Tryz.prog zex [eN ⟨N,A⟩,.I k] [] (.tup [.rs 0 0 A.length,.B (decide (valF A f=k))]) [some ⟨1,zag f,0⟩]:=by
 obtain ⟨f,hf,hmax⟩:=ztH N A hn;refine ⟨f,hf,?_⟩;have hfl:=hf.1.fit.len;have hal:=hn.2.2.1;simp only at hal;have hval:=zpS (f:=f) hn (by omega)
 rw [if_pos hf.1] at hval;have htake : ∀ g : Int->List AV,List.take A.length (List.map g f)=List.map g f:=λ g=>List.take_of_length_le (by simp; omega)
 refine zoY.ac ?_;show awp _ 0 _ _ ⟨19,[(0,eN ⟨N,A⟩),(1,.I k)],[],16⟩;refine rs [1,2] [] [16] ?_;refine zaa ⟨19,[(1,.I k),(2,.pv (nC ⟨N,A⟩)),(6,.rs 50 0 A.length)],[(50,some ⟨1,zag f,0⟩)],100⟩ rfl ?_ ?_
 .simp
  refine zbx hmax (by simp) ?_
  simp;exact LeI [(48,50)] []
 refine zaa ⟨19,[(4,.rs 50 0 A.length),(5,.B (decide (valF A f=k)))],[(50,some ⟨1,zag f,0⟩)],200⟩ rfl ?_ ?_
 .simp
  refine zll [50] hval (by simp [fcd,htake,hfl]) (.sc _) ?_
  simp;exact Le.go [(50,50)] [] rfl rfl (by simp <;> exact wkB (by rw [Bool.eq_iff_iff]; simp)) (by simp [fcd])
 refine zah ?_;exact ⟨.inr rfl,zao.out [50] [] rfl (by simp) (by simp) (by simp) (by simp [fcd])⟩
theorem ztk (g : Gr) (p : Pol) : ∀ (n : Nat) (o : List Int),o.length=n->(refR g p o).length<=n
 | 0,o,h=>by
   obtain rfl:=List.eq_nil_of_length_eq_zero h;exact Nat.le_refl _
 | n+1,o,h=>by
   have hne : o≠[]:=λ e=>by rw [e] at h; cases h
   rw [<- List.dropLast_concat_getLast hne];have ih:=ztk g p n o.dropLast (by rw [List.length_dropLast,h]; rfl)
   by_cases hc : zas g p (zaJ (accR g p o.dropLast++[o.getLast hne]))
   .rw [ziR hc]; omega
   .rw [zoB hc,List.length_append,List.length_singleton]; omega
theorem zuV (N : Nat) (A : List Ed) : (zg6 N A).length<=N:=by
 unfold zg6;exact Nat.le_trans (List.length_filter_le ..) (by simp)
set_option maxRecDepth 100000 in
set_option maxHeartbeats 8000000 in
theorem zhY (g : Gr) (p : Pol) (hg : GrOk g) (hp : zbe g.size p) (hs : p.seeds.length<=64) (hN : g.size<20) :
  ∃ f : List Int,zok g p (zaJ (accR g p (ordL (zai g p.lv) p.seeds))) f /\
    zaj Tryz.prog zd4 [eG g,eP p] [] (.tup [eAcc (accR g p (ordL (zai g p.lv) p.seeds)) f (refR g p (ordL (zai g p.lv) p.seeds)),.I 0]) []:=by
 have hsz:=hg.1.1;have hsz2:=hg.1.2.1;have hel:=hg.edges_le;have hgl:=hg.gone_le;have hchk:=ze2 g p (by omega) (by omega) (by omega) (by have:=hp.2.2.2.1; omega)
 rw [if_pos hg,if_pos hp] at hchk;have hord:=zl8 g p hg hN (by omega)
 obtain ⟨o,ho⟩ : ∃ o,o=ordL (zai g p.lv) p.seeds:=⟨_,rfl⟩;have hor : ∀ k∈o,0<=k/\k<g.size:=λ k hk=>by rw [ho] at hk; have h:=zfN hk; exact h
 have hon : o.Nodup:=by rw [ho]; exact zcA _ _
 rw [<- ho] at hord ⊢
 have hol : o.length<=64:=by
  have:=zbo (b:=(List.range g.size.toNat).map λ i : Nat=>(i : Int)) hon λ x hx=>by
   have:=hor x hx;exact List.mem_map.2 ⟨x.toNat,List.mem_range.2 (by omega),by omega⟩
  simp at this;omega
 have h64 : ∀ a : List Int,(∀ x∈a,0<=x/\x<g.size) -> ∀ x∈a,0<=x/\x<64:=λ a h x hx=>by have:=h x hx; omega
 have hnv : ∀ a : List Int,(∀ x∈a,0<=x/\x<g.size)->zbF ⟨netN g,netA g p (zaJ a)⟩:=λ a h=>zlY hg hp (zmp (zh7 h)) hs (zgS a)
 have hserve : ∀ a : List Int,a.Nodup->(∀ x∈a,0<=x/\x<g.size) -> ∃ f,zok g p (zaJ a) f/\zaj Tryz.prog zex [eN ⟨netN g,netA g p (zaJ a)⟩,.I (a.length : Nat)] [] (.tup [.rs 0 0 (netA g p (zaJ a)).length,.B (@decide (zas g p (zaJ a)) (Classical.propDecidable _))]) [some ⟨1,zag f,0⟩]:=λ a h1 h2=>by
  obtain ⟨f,hf,hc⟩:=zny _ _ (a.length : Nat) (hnv a h2);have hmf:=zhB hf.1 hf.2;refine ⟨f,⟨hf.1,hf.2,hmf.symm⟩,?_⟩;have hjl:=zpL h1 (h64 a h2)
  have : decide (valF (netA g p (zaJ a)) f=(a.length : Nat)) = @decide (zas g p (zaJ a)) (Classical.propDecidable _):=by
   rw [decide_eq_decide];unfold zas;rw [hmf,hjl]
  rw [this] at hc;exact hc
 have haccn : ∀ i,(accR g p (o.take i)).Nodup:=λ i=>(hon.sublist ((zgA _ _ rfl).trans (List.take_sublist _ _)));have haccr : ∀ i,∀ x∈accR g p (o.take i),0<=x/\x<g.size:=λ i x hx=>hor x (List.mem_of_mem_take (ze8 hx));obtain ⟨f,hf,hlast⟩:=hserve (accR g p o) (by have:=haccn o.length; rwa [List.take_length] at this) (by have:=haccr o.length; rwa [List.take_length] at this)
 refine ⟨f,hf,?_⟩;have hnl:=zgX g p (accR g p o) hg hp (by have:=haccn o.length; rwa [List.take_length] at this) (by have:=haccr o.length; rwa [List.take_length] at this) hs
 have hlf:=hf.ok.fit.len;refine zrF.ac ?_;show awp _ 0 _ _ ⟨72,[(0,eG g),(1,eP p)],[],16⟩;refine rs [2,3,4] [32] [16,24] ?_;refine zab ?_;refine rx (s:=?s2) [2,3,4,6] [32] [] rfl ?o2 ?q2
 case o2=>simp; refine zaq hchk (by simp) ?_; simp; rfl
 refine rs [2,3,4,18] [32] [] ?_;refine zac _ rfl (λ h=>by cases h) λ _=>?_
 refine zad ?_;refine zaa ⟨72,[(2,.pv (gC g)),(3,.pv (pC p)),(4,.pt 32 0 0),(7,.pt 40 0 0)],[(32,some ⟨3,[[.nilS,.nilS,.nilS]],0⟩),(40,some ⟨3,[[.nilS,.nilS,.nilS]],0⟩)],200⟩ rfl ?_ ?_
 .simp
  exact LeH [(32,32),(96,40)] []
 refine zab ?_;refine zaa ⟨72,[(2,.pv (gC g)),(3,.pv (pC p)),(4,.pt 32 0 0),(7,.pt 40 0 0),(23,ints o),(24,.I o.length),(25,.I 0)],[(32,some ⟨3,[[.nilS,.nilS,.nilS]],0⟩),(40,some ⟨3,[[.nilS,.nilS,.nilS]],0⟩)],400⟩ rfl ?_ ?_
 .simp
  refine zbx hord (by simp) ?_
  simp;exact Le.go [(32,32),(40,40)] [216] rfl rfl (by simp [fcd,zak]) (by simp)
 refine zae ?_;have hR0 : refR g p []=[]:=rfl
 refine zat (ι:=Nat) (λ i=>⟨72,[(2,.pv (gC g)),(3,.pv (pC p)),(4,.pt 32 0 0),(7,.pt 40 0 0),(23,ints o),(24,.I o.length),(25,.I i)],
   [(32,some ⟨3,[[.nilS,.nilS,.nilS]],0⟩),(40,some ⟨3,[[ints (accR g p (o.take i)),.nilS,.rs 42 0 (refR g p (o.take i)).length]],0⟩),(42,some ⟨2,zce (refR g p (o.take i)),0⟩)],500⟩)
  (λ i=>i<=o.length) (λ i=>o.length - i) 0 (Nat.zero_le _)
  (Le.lst [(32,32),(40,40)] [] [(42,2)] rfl (by simp) (by simp) (by simp) (by simp) (by simp) (by simp) (by simp) (by simp [Up]) (by simp [zlW,hR0,fcd]; exact ⟨zaQ.rfl' (by simp),zaQ.row rfl (by omega) (by simp [UpL,Up,Wk.refl]; exact Wk.nil _ _)⟩)) ?_
 intro i hi;have haN:=haccn i;have haR:=haccr i;have hal : (accR g p (o.take i)).length<=64:=Nat.le_trans (zpp _) (Nat.le_trans (List.length_take_le' i o) hol);have hRl:=ztk g p _ (o.take i) rfl;have hRl2:=List.length_take_le' i o;have hyes:=λ k=>zcE (g:=g) (p:=p) (o:=o.take i) (k:=k);have hno:=λ k=>zhK (g:=g) (p:=p) (o:=o.take i) (k:=k);have hryes:=λ k=>ziR (g:=g) (p:=p) (o:=o.take i) (k:=k);have hrno:=λ k=>zoB (g:=g) (p:=p) (o:=o.take i) (k:=k);have hmem : ∀ x∈accR g p (o.take i),x∈o.take i:=λ x hx=>ze8 hx;obtain ⟨acc,hacc⟩ : ∃ acc,acc=accR g p (o.take i):=⟨_,rfl⟩;obtain ⟨R,hR⟩ : ∃ R,R=refR g p (o.take i):=⟨_,rfl⟩;rw [<- hacc] at haN haR hal hmem hyes hno hryes hrno;rw [<- hR] at hRl hryes hrno;rw [<- hacc,<- hR]
 refine zaa ⟨72,[(2,.pv (gC g)),(3,.pv (pC p)),(4,.pt 32 0 0),(7,.pt 40 0 0),(23,ints o),(24,.I o.length),(25,.I i),(26,.B (decide (i<o.length)))],
   [(32,some ⟨3,[[.nilS,.nilS,.nilS]],0⟩),(40,some ⟨3,[[ints acc,.nilS,.rs 42 0 R.length]],0⟩),(42,some ⟨2,zce R,0⟩)],600⟩ rfl ?_ ?_
 .simp
  exact LeI [(32,32),(40,40),(42,42)] []
 refine zab ?_;refine zac _ rfl (λ h11=>?_) λ h11=>?_
 .simp at h11
  have hw1 : IntKind.i64.wrap ((i : Int)+1)=(i : Int)+1:=w6;obtain ⟨k,hk⟩ : ∃ k,k=o[i]:=⟨_,rfl⟩;have hkr:=hor _ (List.getElem_mem h11);rw [<- hk] at hkr;have hts : o.take (i+1)=o.take i++[k]:=by rw [List.take_succ_eq_append_getElem h11,hk]
  have hkacc : k∉acc:=λ h=>by
   have h2:=hmem k h;obtain ⟨j,hj,hjk⟩:=List.mem_iff_getElem.1 h2;rw [List.getElem_take] at hjk;rw [List.length_take] at hj;have:=(List.pairwise_iff_getElem.1 hon) j i (by omega) h11 (by omega)
   exact this (hjk.trans hk)
  have hks : ∀ x∈acc++[k],0<=x/\x<g.size:=λ x hx=>by
   rcases List.mem_append.1 hx with h | h
   .exact haR x h
   .rw [List.mem_singleton] at h; subst h; exact hkr
  have hkn : (acc++[k]).Nodup:=List.nodup_append.2 ⟨haN,by simp,λ a ha b hb=>by
   rw [List.mem_singleton] at hb;subst hb
   rintro rfl
   exact hkacc ha⟩
  have hwith:=znA acc k (by omega)
  have hnet:=zgX g p (acc++[k]) hg hp hkn hks hs;obtain ⟨fl,hfl,hsv⟩:=hserve (acc++[k]) hkn hks;have hreach:=zm1 _ _ fl (hnv _ hks) hfl.ok hfl.most;have hflen:=hfl.ok.fit.len;have hnl2:=zuV (netN g) (netA g p (zaJ (acc++[k])));have hyes:=hyes k;have hno:=hno k;have hryes:=hryes k;have hrno:=hrno k;rw [<- hts] at hyes hno hryes hrno;obtain ⟨A,hA⟩ : ∃ A,A=netA g p (zaJ (acc++[k])):=⟨_,rfl⟩;obtain ⟨side,hside⟩ : ∃ side,side=zg6 (netN g) A:=⟨_,rfl⟩;rw [<- hA] at hnet hsv hreach hflen hrno;rw [<- hside] at hreach hrno;have htf : ∀ h : Int->List AV,List.take A.length (List.map h fl)=List.map h fl:=λ h=>List.take_of_length_le (by simp; omega)
  obtain ⟨W,hW⟩ : ∃ W,W=acc++[k]:=⟨_,rfl⟩;have hWl : W.length=acc.length+1:=by rw [hW]; simp
  rw [<- hW] at hwith hnet hsv hyes hno hryes hrno;rw [<- hWl] at hwith;refine zad ?_
  refine zaT (ι:=Unit) (λ _=>⟨72,[(2,.pv (gC g)),(3,.pv (pC p)),(4,.pt 32 0 0),(7,.pt 40 0 0),(23,ints o),(24,.I o.length),(25,.I i)],
   [(32,some ⟨3,[[.nilS,.nilS,.nilS]],0⟩),(40,some ⟨3,[[ints (accR g p (o.take (i+1))),.nilS,.rs 42 0 (refR g p (o.take (i+1))).length]],0⟩),(42,some ⟨2,zce (refR g p (o.take (i+1))),0⟩)],3000⟩) (λ _=>True) ?_ λ _ _=>?_
  .refine zae ?_
   refine zaa ⟨72,[(2,.pv (gC g)),(3,.pv (pC p)),(4,.pt 32 0 0),(7,.pt 40 0 0),(9,.I k),(23,ints o),(24,.I o.length),(25,.I i)],
    [(32,some ⟨3,[[.nilS,.nilS,.nilS]],0⟩),(40,some ⟨3,[[ints acc,.nilS,.rs 42 0 R.length]],0⟩),(42,some ⟨2,zce R,0⟩)],700⟩ rfl ?_ ?_
   .simp [h11,<- hk]
    exact LeI [(32,32),(40,40),(42,42)] []
   refine zaa ⟨72,[(2,.pv (gC g)),(3,.pv (pC p)),(4,.pt 32 0 0),(7,.pt 40 0 0),(9,.I k),(10,ints W),(23,ints o),(24,.I o.length),(25,.I i)],
    [(32,some ⟨3,[[.nilS,.nilS,.nilS]],0⟩),(40,some ⟨3,[[ints acc,.nilS,.rs 42 0 R.length]],0⟩),(42,some ⟨2,zce R,0⟩)],800⟩ rfl ?_ ?_
   .simp
    refine zbx hwith (by simp) ?_
    simp;exact Le.go [(32,32),(40,40),(42,42)] [724] rfl rfl (by simp [fcd,zak]) (by simp [fcd])
   refine zaa ⟨72,[(2,.pv (gC g)),(3,.pv (pC p)),(4,.pt 32 0 0),(7,.pt 40 0 0),(9,.I k),(10,ints W),(11,.pv (nC ⟨netN g,A⟩)),(23,ints o),(24,.I o.length),(25,.I i)],
    [(32,some ⟨3,[[.nilS,.nilS,.nilS]],0⟩),(40,some ⟨3,[[ints acc,.nilS,.rs 42 0 R.length]],0⟩),(42,some ⟨2,zce R,0⟩)],900⟩ rfl ?_ ?_
   .simp
    refine zaq hnet (by simp) ?_
    simp;exact LeI [(32,32),(40,40),(42,42)] [832]
   refine zaa ⟨72,[(2,.pv (gC g)),(3,.pv (pC p)),(4,.pt 32 0 0),(7,.pt 40 0 0),(9,.I k),(10,ints W),(11,.pv (nC ⟨netN g,A⟩)),(12,.rs 43 0 A.length),(13,.B (@decide (zas g p (zaJ W)) (Classical.propDecidable _))),(23,ints o),(24,.I o.length),(25,.I i)],
    [(32,some ⟨3,[[.nilS,.nilS,.nilS]],0⟩),(40,some ⟨3,[[ints acc,.nilS,.rs 42 0 R.length]],0⟩),(42,some ⟨2,zce R,0⟩),(43,some ⟨1,zag fl,0⟩)],1000⟩ rfl ?_ ?_
   .simp
    refine zbx hsv (by simp) ?_
    simp;exact LeI [(32,32),(40,40),(42,42),(924,43)] []
   refine zab ?_
   refine zaa ⟨72,[(2,.pv (gC g)),(3,.pv (pC p)),(4,.pt 32 0 0),(7,.pt 40 0 0),(9,.I k),(10,ints W),(11,.pv (nC ⟨netN g,A⟩)),(12,.rs 43 0 A.length),(44,.B (@decide (zas g p (zaJ W)) (Classical.propDecidable _))),(23,ints o),(24,.I o.length),(25,.I i)],
    [(32,some ⟨3,[[.nilS,.nilS,.nilS]],0⟩),(40,some ⟨3,[[ints acc,.nilS,.rs 42 0 R.length]],0⟩),(42,some ⟨2,zce R,0⟩),(43,some ⟨1,zag fl,0⟩)],1100⟩ rfl ?_ ?_
   .simp
    exact LeI [(32,32),(40,40),(42,42),(43,43)] []
   refine zac _ rfl (λ h15=>?_) λ h15=>?_
   .have h15' : zas g p (zaJ W):=@of_decide_eq_true _ (Classical.propDecidable _) h15
    have hy:=hyes h15';have hry:=hryes h15'
    refine zaa ⟨72,[(2,.pv (gC g)),(3,.pv (pC p)),(4,.pt 32 0 0),(7,.pt 40 0 0),(23,ints o),(24,.I o.length),(25,.I i)],
     [(32,some ⟨3,[[.nilS,.nilS,.nilS]],0⟩),(40,some ⟨3,[[ints W,.nilS,.rs 42 0 R.length]],0⟩),(42,some ⟨2,zce R,0⟩)],1200⟩ rfl ?_ ?_
    .simp [zaO]
     exact LeI [(32,32),(40,40),(42,42)] []
    refine zar ?_;refine hit ?_;exact ⟨(),trivial,Le.go [(32,32),(40,40),(42,42)] [] rfl rfl (by simp) (by simp [hy,hry,fcd])⟩
   .have h15' : ¬ zas g p (zaJ W):=@of_decide_eq_false _ (Classical.propDecidable _) h15
    have hn':=hno h15';have hrn:=hrno h15';have htR : ∀ h : Int × List Int->List AV,List.take R.length (List.map h R)=List.map h R:=λ h=>List.take_of_length_le (by simp)
    refine zad ?_;refine zcZ rfl ?_;simp;refine zcO (i:=43) rfl (by simp [fcd]) hreach (by simp) (by simp) ?_
    simp [htR,zaO];exact ⟨by omega,by omega,rfl,Le.go [(32,32),(40,40),(1164,42)] [1140] rfl rfl (by simp) (by simp [hn',hrn,fcd,zak])⟩
  refine zay rfl ?_;simp [hw1];exact ⟨i+1,by omega,by omega,Le.go [(32,32),(40,40),(42,42)] [] rfl rfl (by simp [hw1]) (by simp [fcd])⟩
 simp at h11;obtain rfl : i=o.length:=by omega
 rw [List.take_length] at hacc hR;rw [<- hacc] at hlast hnl hlf;have hl1 : ((acc.length : Nat) : Int)=acc.length:=rfl;obtain ⟨A,hA⟩ : ∃ A,A=netA g p (zaJ acc):=⟨_,rfl⟩;rw [<- hA] at hnl hlast hlf;have htf : ∀ h : Int->List AV,List.take A.length (List.map h f)=List.map h f:=λ h=>List.take_of_length_le (by simp; omega)
 refine zar ?_;refine hit ?_
 refine zaE ⟨72,[(4,.pt 32 0 0),(7,.pt 40 0 0)],
   [(32,some ⟨3,[[.nilS,.nilS,.nilS]],0⟩),(40,some ⟨3,[[ints acc,ints f,.vs 2 false (zce R)]],0⟩)],1200⟩ rfl ?_ ?_
 .simp
  refine zaq hnl (by simp) ?_
  simp;refine zbx hlast (by simp) ?_
  simp [zaO];exact ⟨rfl,Le.go [(32,32),(40,40)] [42,664] rfl rfl (by simp) (by simp [fcd,zak,htf,hlf])⟩
 refine zaa ⟨72,[(4,.pt 32 0 0),(5,.I 0)],[(32,some ⟨3,[[ints acc,ints f,.vs 2 false (zce R)]],0⟩)],1400⟩ rfl ?_ ?_
 .simp [zaO]
  exact LeI [(32,32)] []
 refine zah ?_;rw [<- hacc,<- hR];exact ⟨.inr rfl,zao.out [] [32] rfl (by simp) (by simp) (by simp) (by simp)⟩
section
variable {P : Program} {np id : Nat} {h : Nat->Option Ent} {K : AV->List Nat->List (Nat × Option Ent)->Prop} {f : FuncId} {first capt args args' : List AV} {res : AV}
end
theorem zAs (L : List Int) (hl : L.length<=400) : ∃ (g : Gr) (b : Nat),(GrOk g/\2<=g.size/\g.size<=9/\b<=L.length)/\zaj Tryz.prog zdW [.pt 0 0 0] [dice L 0] (eG g) [some (dice L b)] :=
 have h:=zrw L 0 (Nat.zero_le _)
 ⟨_,_,⟨h.ok,h.lo,h.hi,h.at_⟩,zwN L 0 hl (Nat.zero_le _)⟩
variable {g : Gr} {p : Pol}
theorem Rise.pair {l : List Int} {lo hi : Int} (h : Rise l lo hi) : l.Pairwise (· < ·):=by
 have hlt : ∀ (j i : Nat) (hj : j<l.length) (hij : i<j),l[i]<l[j]:=by
  intro j
  induction j with
  | zero=>intro i _ hij; omega
  | succ j ih =>
    intro i hj hij;have h1:=(h (j+1) hj).2.2 (by omega)
    simp only [Nat.add_sub_cancel] at h1;rcases Nat.lt_or_ge i j with h2 | h2
    .have:=ih i (by omega) h2
     omega
    .have : i=j:=by omega
     subst this;exact h1
 exact List.pairwise_iff_getElem.2 λ i j hi hj hij=>hlt j i hj hij
theorem zeY (acc f : List Int) (R : List (Int × List Int)) (k : Int) (hl : acc.length<=140737488355328) : zaj Tryz.prog zbQ [eAcc acc f R,.I k] [] (.B (decide (k∈acc))) []:=by
 refine ziy.ac ?_;show awp _ 0 _ _ ⟨9,[(0,eAcc acc f R),(1,.I k)],[],16⟩;refine zaa ⟨9,[(1,.I k),(2,.pv [ints acc,ints f,.vs 2 false (zce R)])],[],100⟩ rfl ?_ ?_
 .simp
  exact LeH [] [16]
 refine zaa ⟨9,[(4,.B (decide (k∈acc)))],[],200⟩ rfl ?_ ?_
 .simp
  refine zaq (zdn acc k hl) (by simp) ?_
  simp;exact LeH [] []
 refine zah ?_;exact ⟨.inr rfl,zao.one (by simp)⟩
variable {g : Gr} {p : Pol}
theorem ztE (g : Gr) (p : Pol) : (accR g p (ordL (zai g p.lv) p.seeds)).Nodup:=(zcA _ _).sublist (zgA _ _ rfl)
theorem h64 (hg : GrOk g) {a : List Int} (h : ∀ x∈a,0<=x/\x<g.size) : ∀ x∈a,0<=x/\x<64:=λ x hx=>by
 have:=h x hx;have:=hg.1.2.1;omega
variable {g : Gr} {p : Pol}
theorem zwu (w : Int->Int) (hw : ∀ x,0<=w x) : ∀ {s a : List Int},s.Nodup->(∀ x∈s,x∈a)->(s.map w).sum<=(a.map w).sum
 | [],a,_,_=>by
   have : ∀ a : List Int,0<=(a.map w).sum:=λ a=>by
    induction a with
    | nil=>exact Int.le_refl _
    | cons x a ih=>simp only [List.map_cons,List.sum_cons]; have:=hw x; omega
   exact this a
 | x::s,a,hn,h=>by
   rw [List.nodup_cons] at hn;have h1:=List.perm_cons_erase (h x (List.mem_cons_self ..));have ih:=zwu w hw (s:=s) (a:=a.erase x) hn.2 λ y hy=>(List.mem_erase_of_ne (by rintro rfl; exact hn.1 hy)).2 (h y (List.mem_cons_of_mem _ hy))
   have h2 : (a.map w).sum=((x::a.erase x).map w).sum:=by
    have hp : ∀ {a b : List Int},a.Perm b->(a.map w).sum=(b.map w).sum:=λ h=>by
     induction h with
     | nil=>rfl
     | cons x _ ih=>simp only [List.map_cons,List.sum_cons,ih]
     | swap x y l=>simp only [List.map_cons,List.sum_cons]; omega
     | trans _ _ i1 i2=>exact i1.trans i2
    exact hp h1
   rw [h2];simp only [List.map_cons,List.sum_cons];omega
variable {g : Gr} {p : Pol}
def zx6 (p : Pol) (S : List Int) (k : Int) (e : Ed) : Bool:=decide (e.f=k) && (decide (p.lv<=e.v) && S.contains e.t)
def decv (g : Gr) (p : Pol) (S : List Int) (k : Int) : Bool:=g.edges.any (zx6 p S k)
def totK (g : Gr) (p : Pol) (S : List Int) (k : Int) : Int:=if S.contains k && p.seeds.contains k then (zax g p).getD k.toNat 0 else if !S.contains k && decv g p S k then max 0 ((zax g p).getD k.toNat 0 - 1) else 0
def totB (g : Gr) (p : Pol) (S : List Int) (n : Nat) : Int:=((List.range n).map λ (i : Nat)=>totK g p S i).sum
theorem zvk (S : List Int) (n : Nat) : totB g p S (n+1)=totB g p S n+totK g p S n:=by
 unfold totB;rw [List.range_succ,List.map_append,List.sum_append];simp
theorem zj9 {α : Type} {q : α->Bool} {f w : α->Int} : ∀ {l : List α},(∀ x∈l,q x=true->f x<=w x)->(∀ x∈l,0<=w x)->((l.filter q).map f).sum<=(l.map w).sum
 | [],_,_=>Int.le_refl _
 | x::l,h1,h2=>by
   have ih:=zj9 (l:=l) (q:=q) (f:=f) (w:=w) (λ y hy=>h1 y (List.mem_cons_of_mem _ hy)) λ y hy=>h2 y (List.mem_cons_of_mem _ hy);have h3:=h2 x (List.mem_cons_self ..);have h4:=h1 x (List.mem_cons_self ..);rw [List.filter_cons]
   by_cases hq : q x=true
   .rw [if_pos hq]
    have:=h4 hq;simp only [List.map_cons,List.sum_cons];omega
   .rw [if_neg hq]
    simp only [List.map_cons,List.sum_cons];omega
theorem zjz {α : Type} (f w : α->Int) : ∀ l : List α,(l.map λ x=>f x+w x).sum=(l.map f).sum+(l.map w).sum
 | []=>rfl
 | x::l=>by
   have:=zjz f w l;simp only [List.map_cons,List.sum_cons,this];omega
def zim (g : Gr) (p : Pol) (S : List Int) (x : Int) : Bool :=
 decide (x=0) || (decide (2<=x) && (if x % 2=0 then !S.contains ((x - 2) / 2) else !S.contains ((x - 3) / 2) && !decv g p S ((x - 3) / 2)))
theorem zl4 {S : List Int} {k : Int} (h : 0<=k) : zim g p S (2+2*k) = !S.contains k:=by
 unfold zim;rw [decide_eq_false (by omega),decide_eq_true (by omega),if_pos (by omega),show (2+2*k - 2) / 2=k by omega]
 rfl
theorem zp4 {S : List Int} {k : Int} (h : 0<=k) : zim g p S (3+2*k)=(!S.contains k && !decv g p S k):=by
 unfold zim;rw [decide_eq_false (by omega),decide_eq_true (by omega),if_neg (by omega),show (3+2*k - 3) / 2=k by omega]
 rfl
theorem zAg (hg : GrOk g) (hp : zbe g.size p) (S : List Int) : zpa g p (zim g p S)<=totB g p S g.size.toNat:=by
 have hcn:=zlr (g:=g) hp
 have hc0 : ∀ x : Int,0<=(zax g p).getD x.toNat 0:=λ x=>by
  rw [List.getD_eq_getElem?_getD]
  cases hh : (zax g p)[x.toNat]? with
  | none=>simp
  | some v=>exact hcn v (List.mem_of_getElem? hh)
 obtain ⟨wA,hwA⟩ : ∃ wA : Int->Int,∀ k,wA k=if S.contains k && p.seeds.contains k then (zax g p).getD k.toNat 0 else 0:=⟨_,λ _=>rfl⟩
 obtain ⟨wB,hwB⟩ : ∃ wB : Int->Int,∀ k,wB k=if !S.contains k && decv g p S k then max 0 ((zax g p).getD k.toNat 0 - 1) else 0:=⟨_,λ _=>rfl⟩
 have hwA0 : ∀ k,0<=wA k:=λ k=>by
  have:=hc0 k;rw [hwA]; split <;> omega
 have hwB0 : ∀ k,0<=wB k:=λ k=>by
  rw [hwB]; split <;> omega
 have htot : ∀ k,totK g p S k=wA k+wB k:=λ k=>by
  unfold totK;rw [hwA,hwB]
  cases S.contains k <;> cases p.seeds.contains k <;> simp
 have hsum : totB g p S g.size.toNat=(((List.range g.size.toNat).map λ (i : Nat)=>(i : Int)).map wA).sum+((List.range g.size.toNat).map λ (i : Nat)=>wB (i : Int)).sum:=by
  unfold totB;rw [List.map_map,<- zjz]
  congr 1
  exact List.map_congr_left λ x _=>htot _
 have hcl : (zax g p).length=g.size.toNat:=zca;unfold zpa;simp only [ziI,netA,zbA,List.map_append,List.sum_append,List.map_map,List.filter_nil,List.map_nil,List.sum_nil];have hs0 : ∀ x∈p.seeds,0<=x/\x<g.size:=λ x hx=>by have:=hp.2.1.nodup.2 x hx; omega
 have h1 : ((p.seeds.filter λ x=>decide (0<(zax g p).getD x.toNat 0)).map ((λ e : Ed=>if zim g p S e.f=true/\zim g p S e.t=false then e.v else 0)∘λ x : Int=>(⟨0,2+2*x,(zax g p).getD x.toNat 0⟩ : Ed))).sum<=(((List.range g.size.toNat).map λ (i : Nat)=>(i : Int)).map wA).sum:=by
  have e1 : ((p.seeds.filter λ x=>decide (0<(zax g p).getD x.toNat 0)).map ((λ e : Ed=>if zim g p S e.f=true/\zim g p S e.t=false then e.v else 0)∘λ x : Int=>(⟨0,2+2*x,(zax g p).getD x.toNat 0⟩ : Ed)))=(p.seeds.filter λ x=>decide (0<(zax g p).getD x.toNat 0)).map wA:=by
   refine List.map_congr_left λ x hx=>?_;have hx1:=(List.mem_filter.1 hx).1;have h2:=(hs0 x hx1).1;have h3 : p.seeds.contains x=true:=List.contains_iff_mem.2 hx1;simp only [Function.comp];rw [hwA,h3,zl4 h2,show zim g p S 0=true from rfl]
   cases S.contains x <;> simp
  rw [e1];refine zwu wA hwA0 ((zdH hp.2.1.pair).filter _) λ x hx=>?_;have h2:=hs0 x (List.mem_filter.1 hx).1;exact List.mem_map.2 ⟨x.toNat,List.mem_range.2 (by omega),by omega⟩
 have h2 : (((List.range (zax g p).length).filter λ i=>decide (0<(zax g p).getD i 0)).map ((λ e : Ed=>if zim g p S e.f=true/\zim g p S e.t=false then e.v else 0)∘λ i : Nat=>(⟨2+2*(i : Int),3+2*(i : Int),(zax g p).getD i 0 - 1⟩ : Ed))).sum<=((List.range g.size.toNat).map λ (i : Nat)=>wB (i : Int)).sum:=by
  rw [hcl];refine zj9 (λ i hi hq=>?_) λ i _=>hwB0 _;simp only [Function.comp];rw [hwB,zl4 (by omega),zp4 (by omega),Int.toNat_natCast]
  cases S.contains (i : Int) <;> cases decv g p S (i : Int) <;> simp <;> omega
 have h3 : (((zai g p.lv).edges.filter λ e=>decide (0<(zax g p).getD e.f.toNat 0)).map ((λ e : Ed=>if zim g p S e.f=true/\zim g p S e.t=false then e.v else 0)∘λ e : Ed=>(⟨3+2*e.f,2+2*e.t,64⟩ : Ed))).sum<=0:=by
  have e1 : ∀ l : List Ed,(∀ e∈l,e∈(zai g p.lv).edges)->(l.map ((λ e : Ed=>if zim g p S e.f=true/\zim g p S e.t=false then e.v else 0)∘λ e : Ed=>(⟨3+2*e.f,2+2*e.t,64⟩ : Ed))).sum<=0:=by
   intro l
   induction l with
   | nil=>intro _; exact Int.le_refl _
   | cons e l ih =>
     intro h;have ih:=ih λ y hy=>h y (List.mem_cons_of_mem _ hy);have he:=List.mem_filter.1 (h e (List.mem_cons_self ..));have hf:=hg.fits e he.1;have hlv : p.lv<=e.v:=by have:=he.2; simp at this; omega
     unfold Fits at hf;simp only [List.map_cons,List.sum_cons,Function.comp] at ih ⊢;rw [zl4 (by omega),zp4 (by omega)]
     have hno : ¬ ((!S.contains e.f && !decv g p S e.f)=true/\(!S.contains e.t)=false):=by
      rintro ⟨a,b⟩
      simp only [Bool.and_eq_true,Bool.not_eq_true',Bool.not_eq_false'] at a b
      have hd : decv g p S e.f=true:=by
       unfold decv;rw [List.any_eq_true];exact ⟨e,he.1,by unfold zx6; rw [decide_eq_true rfl,decide_eq_true hlv,b]; rfl⟩
      rw [hd] at a;exact absurd a.2 (by simp)
     rw [if_neg hno];omega
  exact e1 _ λ e he=>(List.mem_filter.1 he).1
 omega
theorem zvS (hg : GrOk g) (hp : zbe g.size p) {a : List Int} (hk : zck g p a) (ha : zas g p a) (S : List Int) : ((a.filter λ x=>S.contains x).length : Int)<=totB g p S g.size.toNat:=by
 have hsub : (a.filter λ x=>S.contains x).Sublist a:=List.filter_sublist;have h1:=ha.sublist hg hp hk hsub;have hk1 : zck g p (a.filter λ x=>S.contains x):=hk.sub λ x hx=>hsub.subset hx;have h2:=(zdp hg hp hk1).1 h1 (zim g p S) rfl rfl
 rw [zn7 λ k hk2=>by
  have h3:=List.mem_filter.1 hk2;have h4:=hk.rng k h3.1;rw [zl4 h4.1,h3.2]
  rfl] at h2
 have:=zAg hg hp S;omega
variable {g : Gr} {p : Pol} {S : List Int} {l : Int}
theorem zoh {g' : Gr} (hz : g.size=g'.size) (h : ∀ k,dist g S k=dist g' S k) : ∀ m,ordN g S m=ordN g' S m
 | 0=>rfl
 | m+1=>by
   rw [ordN,ordN,zoh hz h m,hz]
   congr 2
   funext k
   rw [h k]
theorem zg3 {α : Type} {f w : α->Int} : ∀ {L : List α},(∀ x∈L,f x<=w x)->(L.map f).sum<=(L.map w).sum
 | [],_=>Int.le_refl _
 | x::L,h=>by
   have ih:=zg3 (L:=L) (f:=f) (w:=w) λ y hy=>h y (List.mem_cons_of_mem _ hy);have h1:=h x (List.mem_cons_self ..);simp only [List.map_cons,List.sum_cons];omega
theorem zdc {α : Type} (q : α->Bool) (f : α->Int) : ∀ L : List α,((L.filter q).map f).sum=(L.map λ x=>if q x=true then f x else 0).sum
 | []=>rfl
 | x::L=>by
   have ih:=zdc q f L;rw [List.filter_cons]
   by_cases h : q x=true
   .rw [if_pos h]
    simp only [List.map_cons,List.sum_cons,ih,if_pos h]
   .rw [if_neg h]
    simp only [List.map_cons,List.sum_cons,ih,if_neg h];omega
section
variable {C : Int->Bool}
theorem ztg (g : Gr) (p : Pol) (C : Int->Bool) : zpa g p C =
  (p.seeds.map λ x=>if decide (0<(zax g p).getD x.toNat 0)=true then (if C 0=true/\C (2+2*x)=false then (zax g p).getD x.toNat 0 else 0) else 0).sum
  + ((List.range (zax g p).length).map λ (i : Nat)=>if decide (0<(zax g p).getD i 0)=true then (if C (2+2*(i : Int))=true/\C (3+2*(i : Int))=false then (zax g p).getD i 0 - 1 else 0) else 0).sum
  + ((zai g p.lv).edges.map λ e=>if decide (0<(zax g p).getD e.f.toNat 0)=true then (if C (3+2*e.f)=true/\C (2+2*e.t)=false then 64 else 0) else 0).sum:=by
 unfold zpa;simp only [ziI,netA,zbA,List.map_append,List.sum_append,List.map_map,List.filter_nil,List.map_nil,List.sum_nil];rw [zdc,zdc,zdc];simp only [Function.comp];omega
end
structure GStp where
 gone : Bool
 e : Ed
def HasE (g : Gr) (f t : Int) : Prop:=∃ x∈g.edges,x.f=f/\x.t=t
theorem Bef.asymm {a b : Ed} (h : Bef a b) : ¬ Bef b a:=by unfold Bef at *; omega
theorem Bef.irrefl (a : Ed) : ¬ Bef a a:=by unfold Bef; omega
theorem GrOk.of {s : Int} {E : List Ed} {go : List Int} (h0 : 0<=s) (h1 : s<=64) (hl : E.length<=500) (hg : Rise go 0 (s - 1)) (hp : E.Pairwise Bef) (hf : ∀ e∈E,Fits ⟨s,E,go⟩ e/\1<=e.v/\e.v<=3) : GrOk ⟨s,E,go⟩ :=
 ⟨⟨h0,h1,hl,hg⟩,λ i hi=>⟨(hf _ (List.getElem_mem hi)).1,(hf _ (List.getElem_mem hi)).2.1,(hf _ (List.getElem_mem hi)).2.2,λ h0=>zk1.2 (List.pairwise_iff_getElem.1 hp (i - 1) i (by simp only at hi; omega) hi (by omega))⟩⟩
variable {g : Gr} {f t : Int} {e : Ed}
theorem GrOk.val (hg : GrOk g) : ∀ e∈g.edges,1<=e.v/\e.v<=3:=λ e he=>by
 obtain ⟨i,hi,rfl⟩:=List.getElem_of_mem he;exact ⟨(hg.2 i hi).2.1,(hg.2 i hi).2.2.1⟩
theorem GrOk.uniq (hg : GrOk g) {x y : Ed} (hx : x∈g.edges) (hy : y∈g.edges) (hf : x.f=y.f) (ht : x.t=y.t) : x=y:=by
 obtain ⟨i,hi,rfl⟩:=List.getElem_of_mem hx;obtain ⟨j,hj,rfl⟩:=List.getElem_of_mem hy;rcases Nat.lt_trichotomy i j with h | h | h
 .have:=hg.lt j i hi hj h
  unfold Bef at this;omega
 .subst h; rfl
 .have:=hg.lt i j hj hi h
  unfold Bef at this;omega
theorem zpz : ∀ {a b : List Ed},a.Pairwise Bef->b.Pairwise Bef->(∀ x,x∈a↔x∈b)->a=b
 | [],[],_,_,_=>rfl
 | [],y::b,_,_,h=>absurd ((h y).2 List.mem_cons_self) (by simp)
 | x::a,[],_,_,h=>absurd ((h x).1 List.mem_cons_self) (by simp)
 | x::a,y::b,ha,hb,h=>by
   rw [List.pairwise_cons] at ha hb
   have hxy : x=y:=by
    rcases List.mem_cons.1 ((h x).1 List.mem_cons_self) with h1 | h1
    .exact h1
    rcases List.mem_cons.1 ((h y).2 List.mem_cons_self) with h2 | h2
    .exact h2.symm
    exact absurd (ha.1 y h2) (hb.1 x h1).asymm
   subst hxy;rw [zpz ha.2 hb.2 λ z=>⟨λ hz=>?_,λ hz=>?_⟩]
   .rcases List.mem_cons.1 ((h z).1 (List.mem_cons_of_mem _ hz)) with h1 | h1
    .subst h1; exact absurd (ha.1 z hz) (Bef.irrefl z)
    .exact h1
   .rcases List.mem_cons.1 ((h z).2 (List.mem_cons_of_mem _ hz)) with h1 | h1
    .subst h1; exact absurd (hb.1 z hz) (Bef.irrefl z)
    .exact h1
theorem zzY {a b : Gr} (ha : GrOk a) (hb : GrOk b) (hs : a.size=b.size) (hg : a.gone=b.gone) (h : ∀ x,x∈a.edges↔x∈b.edges) : a=b:=by
 obtain ⟨s,E,go⟩:=a;obtain ⟨s',E',go'⟩:=b;have:=zpz ha.pair hb.pair h;simp only at hs hg this;subst hs hg this;rfl
def OkS (g : Gr) (s : GStp) : Prop:=if s.gone=true then HasE g s.e.f s.e.t else Fits g s.e/\(1<=s.e.v/\s.e.v<=3)/\¬ HasE g s.e.f s.e.t
structure zsx (g g' : Gr) (s : GStp) : Prop where
 ok : GrOk g'
 size : g'.size=g.size
 gone : g'.gone=g.gone
 len : g'.edges.length<=g.edges.length+1
 mem : ∀ x,x∈g'.edges↔(s.gone=false/\x=s.e)∨(x∈g.edges/\¬ (s.gone=true/\x.f=s.e.f/\x.t=s.e.t))
theorem zsx.has {g' : Gr} {s : GStp} (h : zsx g g' s) {f t : Int} (hne : ¬ (s.e.f=f/\s.e.t=t)) : HasE g' f t↔HasE g f t:=by
 constructor
 .rintro ⟨x,hx,hf,ht⟩
  rcases (h.mem x).1 hx with h1 | h1
  .obtain ⟨_,rfl⟩:=h1
   exact absurd ⟨hf,ht⟩ hne
  .exact ⟨x,h1.1,hf,ht⟩
 .rintro ⟨x,hx,hf,ht⟩
  refine ⟨x,(h.mem x).2 (.inr ⟨hx,λ hc=>hne ?_⟩),hf,ht⟩;exact ⟨hc.2.1.symm.trans hf,hc.2.2.symm.trans ht⟩
theorem zsx.okS {g' : Gr} {s u : GStp} (h : zsx g g' s) (hne : ¬ (s.e.f=u.e.f/\s.e.t=u.e.t)) : OkS g' u↔OkS g u:=by
 unfold OkS;have hf : Fits g' u.e↔Fits g u.e:=by unfold Fits; rw [h.size,h.gone]
 rw [h.has hne,hf]
theorem GrOk.nodup (hg : GrOk g) : g.edges.Nodup:=hg.pair.imp λ h he=>by subst he; exact Bef.irrefl _ h
variable {g : Gr} {p : Pol} {x : Int} {l : List Int}
def zm4 (g : Gr) (p : Pol) (x k : Int) : Bool:=!decide (k=x) && (!(g.edges.any λ e=>decide (e.f=k) || decide (e.t=k)) && (!decide (k∈g.gone) && !decide (k∈p.seeds)))
def zb5 (g : Gr) (p : Pol) (x : Int) : List Int:=zbj g.size.toNat (zm4 g p x)
structure zfh (g : Gr) (p : Pol) (x : Int) (l : List Int) : Prop where
 rng : ∀ k∈l,0<=k/\k<g.size
 ne : ∀ k∈l,k≠x
 edge : ∀ k∈l,∀ e∈g.edges,e.f≠k/\e.t≠k
 gone : ∀ k∈l,k∉g.gone
 seed : ∀ k∈l,k∉p.seeds
 pair : l.Pairwise (· < ·)
theorem zg8 (n : Nat) : zfh g p x ((zb5 g p x).take n):=by
 have hm : ∀ k∈(zb5 g p x).take n,(0<=k/\k<g.size)/\k≠x/\(∀ e∈g.edges,e.f≠k/\e.t≠k)/\k∉g.gone/\k∉p.seeds:=λ k hk=>by
  have h1:=zda.1 (List.mem_of_mem_take hk);have h2:=h1.2;simp only [zm4,Bool.and_eq_true,Bool.not_eq_true',decide_eq_false_iff_not,List.any_eq_false,Bool.or_eq_true,decide_eq_true_eq,not_or] at h2;exact ⟨by omega,h2⟩
 exact ⟨λ k hk=>(hm k hk).1,λ k hk=>(hm k hk).2.1,λ k hk=>(hm k hk).2.2.1,λ k hk=>(hm k hk).2.2.2.1,λ k hk=>(hm k hk).2.2.2.2,(zha _ _).sublist (List.take_sublist _ _)⟩
theorem zfh.nodup (h : zfh g p x l) : l.Nodup:=zdH h.pair
def tieI (x : Int) (l : List Int) (i : Nat) : List Ed:=[⟨x,l.getD i 0,3⟩,⟨l.getD i 0,x,3⟩]++(if 1<l.length then [⟨l.getD i 0,l.getD ((i+1) % l.length) 0,3⟩] else [])
def tieL (x : Int) (l : List Int) : List Ed:=(List.range l.length).flatMap (tieI x l)
theorem zfJ {i : Nat} (h : i<l.length) : l.getD i 0∈l:=by
 rw [List.getD_eq_getElem?_getD,List.getElem?_eq_getElem h,Option.getD_some];exact List.getElem_mem h
theorem zli {e : Ed} (h : e∈tieL x l) : e.v=3/\((e.f=x/\e.t∈l)∨(e.t=x/\e.f∈l)∨(e.f∈l/\e.t∈l)):=by
 obtain ⟨i,hi,h⟩:=List.mem_flatMap.1 h;have hi:=List.mem_range.1 hi;have h1:=zfJ hi;unfold tieI at h;simp only [List.cons_append,List.nil_append,List.mem_cons] at h;rcases h with rfl | rfl | h
 .exact ⟨rfl,.inl ⟨rfl,h1⟩⟩
 .exact ⟨rfl,.inr (.inl ⟨rfl,h1⟩)⟩
 .split at h
  .rw [List.mem_singleton] at h
   subst h;exact ⟨rfl,.inr (.inr ⟨h1,zfJ (Nat.mod_lt _ (by omega))⟩)⟩
  .exact (List.not_mem_nil h).elim
theorem zrW {k : Int} (h : k∈l) : (⟨x,k,3⟩ : Ed)∈tieL x l:=by
 obtain ⟨i,hi,rfl⟩:=List.mem_iff_getElem.1 h;refine List.mem_flatMap.2 ⟨i,List.mem_range.2 hi,?_⟩;unfold tieI;rw [List.getD_eq_getElem?_getD,List.getElem?_eq_getElem hi,Option.getD_some];simp
def zmJ (a b : Ed) : Prop:=¬ (a.f=b.f/\a.t=b.t)
theorem ztn (hn : l.Nodup) {i j : Nat} (hi : i<l.length) (hj : j<l.length) (h : l.getD i 0=l.getD j 0) : i=j:=by
 rw [List.getD_eq_getElem?_getD,List.getElem?_eq_getElem hi,Option.getD_some,List.getD_eq_getElem?_getD,List.getElem?_eq_getElem hj,Option.getD_some] at h;exact (List.getElem_inj hn).1 h
theorem zpY (hn : l.Nodup) (hx : x∉l) : (tieL x l).Pairwise zmJ:=by
 unfold tieL;rw [List.pairwise_flatMap]
 have hm : ∀ i,i∈List.range l.length -> ∀ e∈tieI x l i,(e.f=x/\e.t=l.getD i 0)∨(e.f=l.getD i 0/\(e.t=x∨e.t∈l)):=λ i hi e he=>by
  unfold tieI at he;simp only [List.cons_append,List.nil_append,List.mem_cons] at he;rcases he with rfl | rfl | h
  .exact .inl ⟨rfl,rfl⟩
  .exact .inr ⟨rfl,.inl rfl⟩
  .split at h
   .rw [List.mem_singleton] at h
    subst h;exact .inr ⟨rfl,.inr (zfJ (Nat.mod_lt _ (by omega)))⟩
   .exact (List.not_mem_nil h).elim
 constructor
 .intro i hi
  have h1:=zfJ (List.mem_range.1 hi);have h2 : x≠l.getD i 0:=λ e=>hx (e ▸ h1);unfold tieI;simp only [List.cons_append,List.nil_append,List.pairwise_cons,List.mem_cons];refine ⟨λ e he=>?_,λ e he=>?_,?_⟩
  .rcases he with rfl | h
   .exact λ h=>h2 h.1
   .split at h
    .rw [List.mem_singleton] at h; subst h; exact λ h=>h2 h.1
    .exact (List.not_mem_nil h).elim
  .split at he
   .rename_i h3
    rw [List.mem_singleton] at he;subst he;exact λ h=>hx ((show x=_ from h.2) ▸ zfJ (Nat.mod_lt _ (by omega)))
   .exact (List.not_mem_nil he).elim
  .split
   .exact List.pairwise_singleton _ _
   .exact .nil
 .refine List.pairwise_lt_range.imp_of_mem λ {i j} hi hj hij a ha b hb=>?_
  have h1:=hm i hi a ha;have h2:=hm j hj b hb;have mi:=zfJ (List.mem_range.1 hi);have mj:=zfJ (List.mem_range.1 hj);have hne : l.getD i 0≠l.getD j 0:=λ e=>by have:=ztn hn (List.mem_range.1 hi) (List.mem_range.1 hj) e; omega
  have xi : x≠l.getD i 0:=λ e=>hx (e ▸ mi);have xj : x≠l.getD j 0:=λ e=>hx (e ▸ mj)
  rintro ⟨e1,e2⟩
  rcases h1 with ⟨q1,q2⟩ | ⟨q1,q2⟩ <;> rcases h2 with ⟨r1,r2⟩ | ⟨r1,r2⟩
  .exact hne (by rw [<- q2,<- r2,e2])
  .exact xj (by rw [<- q1,<- r1,e1])
  .exact xi (by rw [<- r1,<- q1,e1])
  .exact hne (by rw [<- q1,<- r1,e1])
def zkt (L : List Ed) : List Ed:=L.mergeSort λ a b=>!decide (Bef b a)
theorem zfO (L : List Ed) : (zkt L).Perm L:=List.mergeSort_perm _ _
theorem zn9 {L : List Ed} (h : L.Pairwise zmJ) : (zkt L).Pairwise Bef:=by
 have h1 : (zkt L).Pairwise λ a b=>(!decide (Bef b a))=true:=List.pairwise_mergeSort (λ a b c h1 h2=>by
  simp only [Bool.not_eq_true',decide_eq_false_iff_not] at *;unfold Bef at *;omega) (λ a b=>by
  simp only [Bool.or_eq_true,Bool.not_eq_true',decide_eq_false_iff_not];unfold Bef
  omega) L
 have h2 : (zkt L).Pairwise zmJ:=((zfO L).pairwise_iff λ {a b} h=>λ e=>h ⟨e.1.symm,e.2.symm⟩).2 h;refine (List.pairwise_and_iff.2 ⟨h1,h2⟩).imp λ {a b} h=>?_;have ha:=h.1;have hb:=h.2;simp only [Bool.not_eq_true',decide_eq_false_iff_not] at ha;unfold zmJ at hb;unfold Bef at *;omega
def za9 (g : Gr) (x : Int) (l : List Int) : Gr:=⟨g.size,zkt (g.edges++tieL x l),g.gone⟩
theorem zep {e : Ed} : e∈(za9 g x l).edges↔e∈g.edges∨e∈tieL x l:=by
 unfold za9;rw [(zfO _).mem_iff,List.mem_append]
theorem zsv : (za9 g x l).edges.length=g.edges.length+(tieL x l).length:=by
 unfold za9;rw [(zfO _).length_eq,List.length_append]
theorem zo8 (hg : GrOk g) (hf : zfh g p x l) (hx : 0<=x/\x<g.size) (hxg : x∉g.gone) (hl : g.edges.length+(tieL x l).length<=500) : GrOk (za9 g x l):=by
 have hxl : x∉l:=λ h=>hf.ne x h rfl;refine GrOk.of hg.1.1 hg.1.2.1 (by have:=zsv (g:=g) (x:=x) (l:=l); unfold za9 at this; simp only at this; omega) hg.1.2.2.2 (zn9 ?_) λ e he=>?_
 .rw [List.pairwise_append]
  refine ⟨hg.pair.imp λ {a b} h=>?_,zpY hf.nodup hxl,λ a ha b hb=>?_⟩
  .unfold Bef at h; unfold zmJ; omega
  .have h1:=(zli hb).2
   rintro ⟨e1,e2⟩
   rcases h1 with ⟨_,h⟩ | ⟨_,h⟩ | ⟨h,_⟩
   .exact (hf.edge _ h a ha).2 e2
   .exact (hf.edge _ h a ha).1 e1
   .exact (hf.edge _ h a ha).1 e1
 .rcases (zep (g:=g) (x:=x) (l:=l)).1 he with h | h
  .exact ⟨hg.fits e h,hg.val e h⟩
  .obtain ⟨hv,h⟩:=zli h
   refine ⟨?_,by omega⟩
   unfold Fits;rcases h with ⟨h1,h2⟩ | ⟨h1,h2⟩ | ⟨h1,h2⟩
   .have r:=hf.rng _ h2
    have n:=hf.ne _ h2;exact ⟨by omega,by simp only; omega,by omega,by simp only; omega,by omega,by rw [h1]; exact hxg,hf.gone _ h2⟩
   .have r:=hf.rng _ h2
    have n:=hf.ne _ h2;exact ⟨by omega,by simp only; omega,by omega,by simp only; omega,by omega,hf.gone _ h2,by rw [h1]; exact hxg⟩
   .have r:=hf.rng _ h1
    have r2:=hf.rng _ h2;refine ⟨by omega,by simp only; omega,by omega,by simp only; omega,?_,hf.gone _ h1,hf.gone _ h2⟩
    obtain ⟨i,hi,h⟩:=List.mem_flatMap.1 (by assumption : e∈tieL x l)
    have hi:=List.mem_range.1 hi;unfold tieI at h;simp only [List.cons_append,List.nil_append,List.mem_cons] at h;rcases h with rfl | rfl | h
    .exact λ e=>hxl ((show x=_ from e) ▸ zfJ hi)
    .exact λ e=>hxl ((show _=x from e) ▸ zfJ hi)
    .split at h
     .rename_i h3
      rw [List.mem_singleton] at h;subst h;intro e;have:=ztn hf.nodup hi (Nat.mod_lt _ (by omega)) e
      rcases Nat.lt_or_ge (i+1) l.length with h4 | h4
      .rw [Nat.mod_eq_of_lt h4] at this; omega
      .have h5 : i+1=l.length:=by omega
       rw [h5,Nat.mod_self] at this;omega
     .exact (List.not_mem_nil h).elim
structure zv0 (G H : Gr) (S : List Int) (x : Int) (l : List Int) : Prop where
 size : H.size=G.size
 gone : H.gone=G.gone
 ne : x∉l
 seed : ∀ k∈l,zeJ G S k=false
 off : ∀ e∈G.edges,e.f∉l/\e.t∉l
 sub : ∀ e∈G.edges,e∈H.edges
 new : ∀ e∈H.edges,e∈G.edges∨(e.f=x/\e.t∈l)∨(e.t=x/\e.f∈l)∨(e.f∈l/\e.t∈l)
 has : ∀ k∈l,(⟨x,k,3⟩ : Ed)∈H.edges
theorem zx9 (hf : zfh g p x l) {lv : Int} (h3 : lv<=3) : zv0 (zai g lv) (zai (za9 g x l) lv) p.seeds x l:=by
 refine ⟨rfl,rfl,λ h=>hf.ne x h rfl,λ k hk=>?_,λ e he=>?_,λ e he=>?_,λ e he=>?_,λ k hk=>?_⟩
 .unfold zeJ
  have : p.seeds.contains k=false:=by
   cases h : p.seeds.contains k with
   | false=>rfl
   | true=>exact absurd (List.contains_iff_mem.1 h) (hf.seed k hk)
  rw [this];rfl
 .have:=(List.mem_filter.1 he).1
  exact ⟨λ h=>(hf.edge _ h e this).1 rfl,λ h=>(hf.edge _ h e this).2 rfl⟩
 .have:=List.mem_filter.1 he
  exact List.mem_filter.2 ⟨zep.2 (.inl this.1),this.2⟩
 .have:=List.mem_filter.1 he
  rcases zep.1 this.1 with h | h
  .exact .inl (List.mem_filter.2 ⟨h,this.2⟩)
  .exact .inr (zli h).2
 .exact List.mem_filter.2 ⟨zep.2 (.inr (zrW hk)),by simp only [Bool.not_eq_true',decide_eq_false_iff_not]; omega⟩
theorem zu6 {G H : Gr} {S : List Int} (h : zv0 G H S x l) : ∀ n : Nat,(∀ k,k∉l->dl H S n k=dl G S n k)/\(∀ k,k∈l->dl H S n k=if 0<=dl G S n x/\dl G S n x<n then dl G S n x+1 else -1)
 | 0=>by
   have hs : ∀ k,zeJ H S k=zeJ G S k:=λ k=>by unfold zeJ; rw [h.gone]
   refine ⟨λ k _=>by rw [dl,dl,hs],λ k hk=>?_⟩
   rw [if_neg (by omega),dl,hs,h.seed k hk]
   rfl
 | n+1=>by
   obtain ⟨i1,i2⟩:=zu6 h n;have hrx:=zcr (g:=G) (S:=S) n x;constructor
   .intro k hk
    rw [dl,dl,i1 k hk]
    by_cases h2 : 0<=dl G S n k
    .rw [if_pos h2,if_pos h2]
    .rw [if_neg h2,if_neg h2]
     have e1 : H.edges.any (λ e=>decide (e.t=k) && decide (dl H S n e.f=n))=G.edges.any (λ e=>decide (e.t=k) && decide (dl G S n e.f=n)):=by
      rw [Bool.eq_iff_iff,List.any_eq_true,List.any_eq_true];constructor
      .rintro ⟨e,he,h3⟩
       simp only [Bool.and_eq_true,decide_eq_true_eq] at h3;rcases h.new e he with h4 | h4 | h4 | h4
       .rw [i1 e.f (h.off e h4).1] at h3
        exact ⟨e,h4,by simp [h3.1,h3.2]⟩
       .exact absurd (h3.1 ▸ h4.2) hk
       .rw [i2 e.f h4.2] at h3
        split at h3
        .rename_i h5
         rw [<- h3.1,h4.1] at h2;exact absurd h5.1 h2
        .omega
       .exact absurd (h3.1 ▸ h4.2) hk
      .rintro ⟨e,he,h3⟩
       exact ⟨e,h.sub e he,by rw [i1 e.f (h.off e he).1]; exact h3⟩
     rw [e1]
   .intro k hk
    rw [dl,i2 k hk]
    by_cases h5 : 0<=dl G S n x/\dl G S n x<n
    .rw [if_pos h5,if_pos (by omega),zf1 h5.1,if_pos (by omega)]
    .rw [if_neg h5,if_neg (by omega)]
     by_cases h6 : dl G S n x=n
     .rw [if_pos,zf1 (by omega),if_pos (by omega),h6]
      rw [List.any_eq_true];exact ⟨_,h.has k hk,by simp [i1 x h.ne,h6]⟩
     .have h7 : ¬ 0<=dl G S n x:=by omega
      rw [if_neg,if_neg]
      .rw [dl,if_neg h7]
       split <;> omega
      .rw [List.any_eq_true]
       rintro ⟨e,he,h3⟩
       simp only [Bool.and_eq_true,decide_eq_true_eq] at h3;rcases h.new e he with h4 | h4 | h4 | h4
       .exact (h.off e h4).2 (h3.1 ▸ hk)
       .rw [h4.1,i1 x h.ne] at h3
        exact h6 h3.2
       .exact h.ne (by rw [<- h4.1,h3.1]; exact hk)
       .rw [i2 e.f h4.1,if_neg h5] at h3
        omega
theorem zvM {G H : Gr} {S : List Int} (hG : GrOk G) (hx : Key G x) (h : zv0 G H S x l) : (∀ k,k∉l->dist H S k=dist G S k)/\(∀ k,k∈l->dist H S k=if 0<=dist G S x then dist G S x+1 else -1):=by
 have h1:=zu6 h G.size.toNat;unfold dist;rw [h.size];refine ⟨h1.1,λ k hk=>?_⟩;rw [h1.2 k hk];have h2:=zrD hG (S:=S) hx;have h3:=hx.1;have h4:=hx.2;unfold dist at h2
 by_cases h5 : 0<=dl G S G.size.toNat x
 .rw [if_pos ⟨h5,by omega⟩,if_pos h5]
 .rw [if_neg (λ h=>h5 h.1),if_neg h5]
variable {g : Gr} {p : Pol} {x : Int} {l : List Int}
open Classical in
theorem zsZ {α : Type} (w : α->Int) (hw : ∀ x,0<=w x) : ∀ {s a : List α},s.Nodup->(∀ x∈s,x∈a)->(s.map w).sum<=(a.map w).sum
 | [],a,_,_=>by
   have : ∀ a : List α,0<=(a.map w).sum:=λ a=>by
    induction a with
    | nil=>exact Int.le_refl _
    | cons x a ih=>simp only [List.map_cons,List.sum_cons]; have:=hw x; omega
   exact this a
 | x::s,a,hn,h=>by
   rw [List.nodup_cons] at hn;have h1:=List.perm_cons_erase (h x (List.mem_cons_self ..));have ih:=zsZ w hw (s:=s) (a:=a.erase x) hn.2 λ y hy=>(List.mem_erase_of_ne (by rintro rfl; exact hn.1 hy)).2 (h y (List.mem_cons_of_mem _ hy))
   have h2 : (a.map w).sum=((x::a.erase x).map w).sum:=by
    have hp : ∀ {u v : List α},u.Perm v->(u.map w).sum=(v.map w).sum:=λ hp=>by
     induction hp with
     | nil=>rfl
     | cons x _ ih=>simp only [List.map_cons,List.sum_cons,ih]
     | swap x y l=>simp only [List.map_cons,List.sum_cons]; omega
     | trans _ _ ih1 ih2=>exact ih1.trans ih2
    exact hp h1
   rw [h2];simp only [List.map_cons,List.sum_cons];omega
structure zrz (h h' : Gr) (p : Pol) (x : Int) (T ks : List Int) : Prop where
 size : h.size=h'.size
 x0 : 0<=x
 ne : x∉T
 seed : ∀ k∈T,k∉p.seeds
 pos : ∀ k∈T,0<=k
 cap : ∀ k : Int,0<=k->k∉T->(zax h p).getD k.toNat 0=(zax h' p).getD k.toNat 0
 m1 : ∀ e∈(zai h p.lv).edges,e.f∉T->e.t∉T->e∈(zai h' p.lv).edges
 m2 : ∀ e∈(zai h p.lv).edges,e.f∈T∨e.t∈T->(e.f=x∨e.f∈T)/\(e.t=x∨e.t∈T)
 m3 : ∀ k∈ks,k∈T->(⟨x,k,3⟩ : Ed)∈(zai h' p.lv).edges/\0<(zax h' p).getD x.toNat 0
def zff (C : Int->Bool) (x : Int) (T : List Int) (y : Int) : Bool :=
 if y=3+2*x ∨ ∃ t∈T,y=2+2*t∨y=3+2*t then C (3+2*x) && C (2+2*x) else C y
section
variable {C : Int->Bool} {T : List Int}
theorem zmf {k : Int} (h : k∉T) : zff C x T (2+2*k)=C (2+2*k):=by
 unfold zff;rw [if_neg]
 rintro (h1 | ⟨t,ht,h1⟩)
 .omega
 .exact h (by have : k=t:=by omega
              rw [this]; exact ht)
theorem zs7 {k : Int} (h : k∉T) (hx : k≠x) : zff C x T (3+2*k)=C (3+2*k):=by
 unfold zff;rw [if_neg]
 rintro (h1 | ⟨t,ht,h1⟩)
 .omega
 .exact h (by have : k=t:=by omega
              rw [this]; exact ht)
theorem zv5 : zff C x T (3+2*x)=(C (3+2*x) && C (2+2*x)):=by unfold zff; rw [if_pos (.inl rfl)]
theorem zrP {k : Int} (h : k∈T) : zff C x T (2+2*k)=(C (3+2*x) && C (2+2*x)):=by unfold zff; rw [if_pos (.inr ⟨k,h,.inl rfl⟩)]
theorem zuE {k : Int} (h : k∈T) : zff C x T (3+2*k)=(C (3+2*x) && C (2+2*x)):=by unfold zff; rw [if_pos (.inr ⟨k,h,.inr rfl⟩)]
theorem zps {y : Int} (h0 : 0<=x) (hp : ∀ k∈T,0<=k) (hy : y<=1) : zff C x T y=C y:=by
 unfold zff;rw [if_neg]
 rintro (h1 | ⟨t,ht,h1⟩)
 .omega
 .have:=hp t ht
  omega
end
open Classical in
theorem zwa {h h' : Gr} {T ks : List Int} (hg : GrOk h) (hp : zbe h.size p) (hR : zrz h h' p x T ks) (hn : ks.Nodup) (C : Int->Bool) :
  zpa h p (zff C x T)+zhx (zff C x T) ks<=zpa h' p C+zhx C ks:=by
 rw [ztg,ztg];have hlen : (zax h p).length=(zax h' p).length:=by rw [zca,zca,hR.size]
 have h0 : zff C x T 0=C 0:=zps hR.x0 hR.pos (by omega)
 have h1 : (p.seeds.map λ y=>if decide (0<(zax h p).getD y.toNat 0)=true then (if zff C x T 0=true/\zff C x T (2+2*y)=false then (zax h p).getD y.toNat 0 else 0) else 0).sum<=(p.seeds.map λ y=>if decide (0<(zax h' p).getD y.toNat 0)=true then (if C 0=true/\C (2+2*y)=false then (zax h' p).getD y.toNat 0 else 0) else 0).sum:=by
  refine zg3 λ y hy=>?_;have h2:=hp.2.1.nodup.2 y hy;have h3 : y∉T:=λ h=>hR.seed y h hy;rw [hR.cap y h2.1 h3,h0,zmf h3];exact Int.le_refl _
 have h2 : ((List.range (zax h p).length).map λ (i : Nat)=>if decide (0<(zax h p).getD i 0)=true then (if zff C x T (2+2*(i : Int))=true/\zff C x T (3+2*(i : Int))=false then (zax h p).getD i 0 - 1 else 0) else 0).sum<=((List.range (zax h' p).length).map λ (i : Nat)=>if decide (0<(zax h' p).getD i 0)=true then (if C (2+2*(i : Int))=true/\C (3+2*(i : Int))=false then (zax h' p).getD i 0 - 1 else 0) else 0).sum:=by
  rw [hlen];refine zg3 λ i _=>?_
  by_cases hi : (i : Int)∈T
  .rw [zrP hi,zuE hi]
   have e : ¬ ((C (3+2*x) && C (2+2*x))=true/\(C (3+2*x) && C (2+2*x))=false):=λ h=>by rw [h.1] at h; exact absurd h.2 (by simp)
   rw [if_neg e,ite_self];split
   .rename_i h
    have:=of_decide_eq_true h;split <;> omega
   .exact Int.le_refl _
  .have:=hR.cap i (by omega) hi
   rw [Int.toNat_natCast] at this;rw [this,zmf hi]
   by_cases hx : (i : Int)=x
   .rw [hx,zv5]
    split
    .cases C (3+2*x) <;> cases C (2+2*x) <;> simp
    .exact Int.le_refl _
   .rw [zs7 hi hx]
    exact Int.le_refl _
 obtain ⟨w,hw⟩ : ∃ w : Ed->Int,∀ e,w e=if decide (0<(zax h' p).getD e.f.toNat 0)=true then (if C (3+2*e.f)=true/\C (2+2*e.t)=false then 64 else 0) else 0:=⟨_,λ _=>rfl⟩
 have hw0 : ∀ e,0<=w e:=λ e=>by
  rw [hw];split
  .split <;> omega
  .omega
 have h3 : ((zai h p.lv).edges.map λ e=>if decide (0<(zax h p).getD e.f.toNat 0)=true then (if zff C x T (3+2*e.f)=true/\zff C x T (2+2*e.t)=false then (64 : Int) else 0) else 0).sum<=(((zai h p.lv).edges.filter λ e=>decide (e.f∉T/\e.t∉T)).map w).sum:=by
  rw [zdc];refine zg3 λ e he=>?_;have hf:=hg.fits e (List.mem_filter.1 he).1;unfold Fits at hf
  by_cases hT : e.f∉T/\e.t∉T
  .rw [if_pos (decide_eq_true hT),hw,hR.cap e.f hf.1 hT.1,zmf hT.2]
   by_cases hx : e.f=x
   .rw [hx,zv5]
    split
    .cases C (3+2*x) <;> cases C (2+2*x) <;> cases C (2+2*e.t) <;> simp
    .exact Int.le_refl _
   .rw [zs7 hT.1 hx]
    exact Int.le_refl _
  .rw [show (if decide (e.f∉T/\e.t∉T)=true then w e else 0)=0 from if_neg (by rw [decide_eq_false hT]; simp)]
   have hT' : e.f∈T∨e.t∈T:=by
    by_cases h4 : e.f∈T
    .exact .inl h4
    .exact .inr (Classical.byContradiction λ h5=>hT ⟨h4,h5⟩)
   obtain ⟨m1,m2⟩:=hR.m2 e he hT';have ef : zff C x T (3+2*e.f)=(C (3+2*x) && C (2+2*x)):=m1.elim (λ h=>by rw [h]; exact zv5) zuE
   have et : zff C x T (3+2*e.f)=true->zff C x T (2+2*e.t)=true:=λ h=>by
    rw [ef] at h;rcases m2 with h6 | h6
    .rw [h6,zmf hR.ne]
     simp only [Bool.and_eq_true] at h;exact h.2
    .rw [zrP h6]
     exact h
   split
   .rw [if_neg]
    .exact Int.le_refl _
    .rintro ⟨a,b⟩
     rw [et a] at b
     cases b
   .exact Int.le_refl _
 have h4 : zhx (zff C x T) ks<=zhx C ks+(((ks.filter λ k=>decide (k∈T)).map λ k=>(⟨x,k,3⟩ : Ed)).map w).sum:=by
  rw [List.map_map,zdc];unfold zhx;rw [<- zjz];refine zg3 λ k hk=>?_
  by_cases hT : k∈T
  .rw [if_pos (decide_eq_true hT),zrP hT]
   have h5:=(hR.m3 k hk hT).2;simp only [Function.comp];rw [hw];simp only [h5,decide_true,if_true]
   cases C (3+2*x) <;> cases C (2+2*x) <;> cases C (2+2*k) <;> simp
  .rw [zmf hT,decide_eq_false hT]
   simp
 have h5 : ((((zai h p.lv).edges.filter λ e=>decide (e.f∉T/\e.t∉T))++(ks.filter λ k=>decide (k∈T)).map λ k=>(⟨x,k,3⟩ : Ed)).map w).sum<=((zai h' p.lv).edges.map w).sum:=by
  refine zsZ w hw0 ?_ λ e he=>?_
  .rw [List.nodup_append]
   refine ⟨((hg.level p.lv).nodup).filter _,?_,λ a ha b hb=>?_⟩
   .refine List.pairwise_map.2 ((hn.filter _).imp λ {a b} h e=>h ?_)
    injection e
   .rintro rfl
    have h6:=of_decide_eq_true (List.mem_filter.1 ha).2;obtain ⟨k,hk,rfl⟩:=List.mem_map.1 hb;exact h6.2 (of_decide_eq_true (List.mem_filter.1 hk).2)
  .rcases List.mem_append.1 he with h6 | h6
   .have h7:=List.mem_filter.1 h6
    have h8:=of_decide_eq_true h7.2;exact hR.m1 e h7.1 h8.1 h8.2
   .obtain ⟨k,hk,rfl⟩:=List.mem_map.1 h6
    have h7:=List.mem_filter.1 hk;exact (hR.m3 k h7.1 (of_decide_eq_true h7.2)).1
 rw [List.map_append,List.sum_append] at h5
 have h6 : ((zai h' p.lv).edges.map w).sum=((zai h' p.lv).edges.map λ e=>if decide (0<(zax h' p).getD e.f.toNat 0)=true then (if C (3+2*e.f)=true/\C (2+2*e.t)=false then (64 : Int) else 0) else 0).sum:=by
  congr 1
  exact List.map_congr_left λ e _=>hw e
 omega
theorem zwB {h h' : Gr} {T ks : List Int} (hg : GrOk h) (hg' : GrOk h') (hp : zbe h.size p) (hR : zrz h h' p x T ks) (hn : ks.Nodup) (hk : zck h p ks) (hk' : zck h' p ks) (hc : zas h p ks) : zas h' p ks:=by
 rw [zdp hg hp hk] at hc;rw [zdp hg' (by rw [<- hR.size]; exact hp) hk']
 intro C c0 c1;have h1:=hc (zff C x T) (by rw [zps hR.x0 hR.pos (by omega)]; exact c0) (by rw [zps hR.x0 hR.pos (by omega)]; exact c1)
 have h2:=zwa hg hp hR hn C;omega
theorem znZ {g' : Gr} {o' : List Int} (h : ∀ ks : List Int,ks.Nodup->(∀ x∈ks,x∈o')->(zas g p ks↔zas g' p ks)) : ∀ (n : Nat) (o : List Int),o.length=n->(∀ x∈o,x∈o')->accR g p o=accR g' p o
 | 0,o,hn,_=>by
   obtain rfl:=List.eq_nil_of_length_eq_zero hn;rfl
 | n+1,o,hn,ho=>by
   have hne : o≠[]:=λ e=>by rw [e] at hn; cases hn
   rw [<- List.dropLast_concat_getLast hne];have ih:=znZ h n o.dropLast (by rw [List.length_dropLast,hn]; rfl) λ x hx=>ho x (List.dropLast_subset _ hx)
   have hsub : ∀ x∈zaJ (accR g p o.dropLast++[o.getLast hne]),x∈o':=λ x hx=>by
    rcases List.mem_append.1 (zfk.1 hx).1 with h1 | h1
    .exact ho x (List.dropLast_subset _ (ze8 h1))
    .rw [List.mem_singleton] at h1
     rw [h1];exact ho _ (List.getLast_mem hne)
   have hnd : (zaJ (accR g p o.dropLast++[o.getLast hne])).Nodup:=zdH (zhd _)
   by_cases hc : zas g p (zaJ (accR g p o.dropLast++[o.getLast hne]))
   .rw [zcE hc,zcE (by rw [<- ih]; exact (h _ hnd hsub).1 hc),ih]
   .rw [zhK hc,zhK (by rw [<- ih]; exact λ h1=>hc ((h _ hnd hsub).2 h1)),ih]
variable {g : Gr} {p : Pol} {x : Int} {l l1 l2 T : List Int}
theorem zqk {n : Int} (hp : zbe n p) : p.lv<=3:=hp.2.2.2.2.2.1
theorem zq1 (hg : GrOk g) (hf : zfh g p x l) {k : Int} (hk : k∈l) : dist (zai g p.lv) p.seeds k = -1:=by
 have hG:=hg.level p.lv;have hr:=zkL (g:=zai g p.lv) (S:=p.seeds) k;refine Classical.byContradiction λ hne=>?_;obtain ⟨n,hn⟩ : ∃ n : Nat,dist (zai g p.lv) p.seeds k=n:=⟨(dist (zai g p.lv) p.seeds k).toNat,by omega⟩
 cases n with
 | zero =>
   have h1:=(zww hG).1 (by rw [hn]; rfl)
   unfold zeJ at h1;simp only [Bool.and_eq_true] at h1;exact hf.seed k hk (List.contains_iff_mem.1 h1.1)
 | succ n =>
   obtain ⟨e,he,ht,_⟩:=zwl hG (k:=k) (n:=n) (by rw [hn]; omega)
   exact (hf.edge k hk e (List.mem_filter.1 he).1).2 ht
theorem zmi (hg : GrOk g) (hp : zbe g.size p) (hx : Key g x) (hf : zfh g p x l) :
  (∀ k,k∉l->dist (zai (za9 g x l) p.lv) p.seeds k=dist (zai g p.lv) p.seeds k) /\
  (∀ k,k∈l->dist (zai (za9 g x l) p.lv) p.seeds k=if 0<=dist (zai g p.lv) p.seeds x then dist (zai g p.lv) p.seeds x+1 else -1) :=
 zvM (hg.level p.lv) (show Key (zai g p.lv) x from hx) (zx9 hf (zqk hp))
theorem zkk (hg : GrOk g) (hp : zbe g.size p) (hx : Key g x) (hf : zfh g p x l) :
  (∀ k : Int,0<=k->k∉l->(zax (za9 g x l) p).getD k.toNat 0=(zax g p).getD k.toNat 0) /\
  (∀ k : Int,k∈l->0<(zax (za9 g x l) p).getD k.toNat 0->0<=dist (zai g p.lv) p.seeds x):=by
 have hd:=zmi hg hp hx hf;constructor
 .intro k h0 hk
  by_cases h1 : k<g.size
  .rw [zj0 h0 (show k<(za9 g x l).size from h1),zj0 h0 h1,hd.1 k hk]
  .rw [znj (show (za9 g x l).size<=k by show g.size<=k; omega),znj (by omega)]
 .intro k hk h
  have hr:=hf.rng k hk;rw [zj0 hr.1 (show k<(za9 g x l).size from hr.2),hd.2 k hk] at h
  refine Classical.byContradiction λ hn=>?_;rw [if_neg hn] at h;have:=zhX (p:=p) (d:=-1) (by omega)
  omega
theorem zwZ (hg : GrOk g) (hp : zbe g.size p) (hx : Key g x) (h1 : zfh g p x l1) (h2 : zfh g p x l2) (hT : zfh g p x T) (s1 : ∀ k∈l1,k∈T) (s2 : ∀ k∈l2,k∈T)
  {ks : List Int} (hks : ∀ k∈ks,k∈T->k∈l2) (hk : zck (za9 g x l2) p ks) : zrz (za9 g x l1) (za9 g x l2) p x T ks:=by
 have c1:=zkk hg hp hx h1;have c2:=zkk hg hp hx h2;have hxT : x∉T:=λ h=>hT.ne x h rfl;have hl3:=zqk hp;refine ⟨rfl,hx.1,hxT,hT.seed,λ k hk=>(hT.rng k hk).1,λ k h0 hk=>?_,λ e he hf ht=>?_,λ e he h=>?_,λ k hkk hkT=>?_⟩
 .rw [c1.1 k h0 λ h=>hk (s1 k h),c2.1 k h0 λ h=>hk (s2 k h)]
 .have hm:=List.mem_filter.1 he
  refine List.mem_filter.2 ⟨zep.2 ?_,hm.2⟩;rcases zep.1 hm.1 with h | h
  .exact .inl h
  .rcases (zli h).2 with ⟨_,h⟩ | ⟨_,h⟩ | ⟨h,_⟩
   .exact absurd (s1 _ h) ht
   .exact absurd (s1 _ h) hf
   .exact absurd (s1 _ h) hf
 .have hm:=List.mem_filter.1 he
  rcases zep.1 hm.1 with h' | h'
  .rcases h with h | h
   .exact absurd rfl (hT.edge _ h e h').1
   .exact absurd rfl (hT.edge _ h e h').2
  .rcases (zli h').2 with ⟨a,b⟩ | ⟨a,b⟩ | ⟨a,b⟩
   .exact ⟨.inl a,.inr (s1 _ b)⟩
   .exact ⟨.inr (s1 _ b),.inl a⟩
   .exact ⟨.inr (s1 _ a),.inr (s1 _ b)⟩
 .have hk2:=hks k hkk hkT
  have hd:=c2.2 k hk2 (hk.reach k hkk);refine ⟨List.mem_filter.2 ⟨zep.2 (.inr (zrW hk2)),by simp only [Bool.not_eq_true',decide_eq_false_iff_not]; omega⟩,?_⟩
  rw [c2.1 x hx.1 λ h=>h2.ne x h rfl];exact (ziJ hp hx.1).2 ⟨hx.2,hd⟩
theorem zpU (hg : GrOk g) (hp : zbe g.size p) (hx : Key g x) (g1 : GrOk (za9 g x l1)) (g2 : GrOk (za9 g x l2)) (h1 : zfh g p x l1) (h2 : zfh g p x l2) (hT : zfh g p x T) (s1 : ∀ k∈l1,k∈T) (s2 : ∀ k∈l2,k∈T)
  {ks : List Int} (hn : ks.Nodup) (hks : ∀ k∈ks,k∈T->k∈l2) (k1 : zck (za9 g x l1) p ks) (k2 : zck (za9 g x l2) p ks) (hc : zas (za9 g x l1) p ks) : zas (za9 g x l2) p ks :=
 zwB g1 g2 (show zbe g.size p from hp) (zwZ hg hp hx h1 h2 hT s1 s2 hks k2) hn k1 k2 hc
theorem zxa (hg : GrOk g) : za9 g x []=g:=by
 have h : zkt (g.edges++tieL x [])=g.edges:=by
  show (g.edges++[]).mergeSort _=g.edges;rw [List.append_nil];refine List.mergeSort_of_pairwise (hg.pair.imp λ {a b} h=>?_);have:=h.asymm;simp [this]
 unfold za9;rw [h]
abbrev ordR (g : Gr) (p : Pol) (x : Int) (l : List Int) : List Int:=ordL (zai (za9 g x l) p.lv) p.seeds
theorem zw7 (hg : GrOk g) (hp : zbe g.size p) (hx : Key g x) (hf : zfh g p x l) (hr : GrOk (za9 g x l)) {k : Int} : k∈ordR g p x l↔Key g k/\0<=dist (zai g p.lv) p.seeds (if k∈l then x else k):=by
 have hd:=zmi hg hp hx hf;rw [zj4 (hr.level p.lv)];have e : Key (zai (za9 g x l) p.lv) k↔Key g k:=Iff.rfl;rw [e]
 by_cases hk : k∈l
 .rw [if_pos hk,hd.2 k hk]
  constructor
  .rintro ⟨a,b⟩
   refine ⟨a,?_⟩;split at b
   .assumption
   .omega
  .rintro ⟨a,b⟩
   rw [if_pos b];exact ⟨a,by omega⟩
 .rw [if_neg hk,hd.1 k hk]
theorem zoS (hg : GrOk g) (hp : zbe g.size p) (hx : Key g x) (hf : zfh g p x l) (hr : GrOk (za9 g x l)) (hd : dist (zai g p.lv) p.seeds x<0) :
  ordR g p x l=ordL (zai g p.lv) p.seeds/\accR (za9 g x l) p (ordR g p x l)=accR g p (ordL (zai g p.lv) p.seeds):=by
 have hdd:=zmi hg hp hx hf
 have ho : ordR g p x l=ordL (zai g p.lv) p.seeds:=by
  refine zoh (g:=zai (za9 g x l) p.lv) (g':=zai g p.lv) rfl (λ k=>?_) _
  by_cases hk : k∈l
  .rw [hdd.2 k hk,if_neg (by omega),zq1 hg hf hk]
  .exact hdd.1 k hk
 refine ⟨ho,?_⟩;rw [ho]
 have hno : ∀ k∈l,k∉ordL (zai g p.lv) p.seeds:=λ k hk h=>by
  have:=((zj4 (hg.level p.lv)).1 h).2;rw [zq1 hg hf hk] at this;omega
 have h0 : zfh g p x []:=⟨by simp,by simp,by simp,by simp,by simp,.nil⟩
 have e0 : za9 g x []=g:=zxa hg;refine znZ (o':=ordL (zai g p.lv) p.seeds) (λ ks hn hks=>?_) _ _ rfl λ _ h=>h;have k1 : zck (za9 g x l) p ks:=ziM hr hp λ k hk=>by rw [show ordL (zai (za9 g x l) p.lv) p.seeds=ordL (zai g p.lv) p.seeds from ho]; exact hks k hk
 have k2 : zck g p ks:=ziM hg hp hks;constructor
 .intro h
  have:=zpU (l2:=[]) (T:=l) hg hp hx hr (by rw [e0]; exact hg) hf h0 hf (λ _ h=>h) (by simp) hn (λ k hk hkl=>absurd (hks k hk) (hno k hkl)) k1 (by rw [e0]; exact k2) h
  rwa [e0] at this
 .intro h
  exact zpU (l1:=[]) (T:=l) hg hp hx (by rw [e0]; exact hg) hr h0 hf hf (by simp) (λ _ h=>h) hn (λ k hk hkl=>absurd (hks k hk) (hno k hkl)) (by rw [e0]; exact k2) k1 (by rw [e0]; exact h)
noncomputable def inN (g : Gr) (p : Pol) (x : Int) (l : List Int) : Nat:=((accR (za9 g x l) p (ordR g p x l)).filter λ k=>decide (k∈l)).length
theorem zra (hg : GrOk g) (hp : zbe g.size p) (hx : Key g x) (hf : zfh g p x l) (hr : GrOk (za9 g x l)) (hd : dist (zai g p.lv) p.seeds x<0) : inN g p x l=0:=by
 unfold inN;rw [List.length_eq_zero_iff,List.filter_eq_nil_iff];intro k hk hkl;have h1:=(zw7 hg hp hx hf hr).1 (ze8 hk);rw [if_pos (of_decide_eq_true hkl)] at h1;omega
theorem ztb (hg : GrOk g) (hp : zbe g.size p) (hs : p.seeds.length<=64) (hx : Key g x) (hf : zfh g p x l) (hr : GrOk (za9 g x l)) : (inN g p x l : Int)<=max 0 ((zax g p).getD x.toNat 0 - 1):=by
 have hc:=zkk hg hp hx hf;have hxl : x∉l:=λ h=>hf.ne x h rfl;have hok : zck (za9 g x l) p (accR (za9 g x l) p (ordR g p x l)):=ziM hr hp λ k hk=>ze8 hk;have h1:=zvS hr (show zbe g.size p from hp) hok ((zuD hr (show zbe g.size p from hp) hs _ _ rfl (zcA _ _) (ziM hr hp λ k hk=>hk)).1.perm hr hp hok.join (zms ((zcA _ _).sublist (zgA _ _ rfl)) (h64 hr hok.rng)).symm) l
 have hfil : ((accR (za9 g x l) p (ordR g p x l)).filter λ x=>l.contains x).length=inN g p x l:=by
  unfold inN
  congr 1
  exact List.filter_congr λ k _=>by simp
 rw [hfil] at h1
 have hk0 : ∀ k : Nat,(k : Int)≠x->totK (za9 g x l) p l k=0:=λ k hk=>by
  unfold totK
  by_cases hkl : (k : Int)∈l
  .have e1 : l.contains (k : Int)=true:=List.contains_iff_mem.2 hkl
   have e2 : p.seeds.contains (k : Int)=false:=by
    cases h : p.seeds.contains (k : Int) with
    | false=>rfl
    | true=>exact absurd (List.contains_iff_mem.1 h) (hf.seed _ hkl)
   rw [e1,e2];simp
  .have e1 : l.contains (k : Int)=false:=by
    cases h : l.contains (k : Int) with
    | false=>rfl
    | true=>exact absurd (List.contains_iff_mem.1 h) hkl
   have e2 : decv (za9 g x l) p l k=false:=by
    unfold decv;rw [List.any_eq_false];intro e he;unfold zx6;simp only [Bool.and_eq_true,decide_eq_true_eq,not_and];intro hef _ hct;have het:=List.contains_iff_mem.1 hct;rcases zep.1 he with h | h
    .exact (hf.edge _ het e h).2 rfl
    .rcases (zli h).2 with ⟨a,_⟩ | ⟨a,_⟩ | ⟨a,_⟩
     .exact hk (by rw [<- hef,a])
     .exact hxl (a ▸ het)
     .exact hkl (hef ▸ a)
   rw [e1,e2];simp
 have hkx : totK (za9 g x l) p l x<=max 0 ((zax g p).getD x.toNat 0 - 1):=by
  unfold totK
  have e1 : l.contains x=false:=by
   cases h : l.contains x with
   | false=>rfl
   | true=>exact absurd (List.contains_iff_mem.1 h) hxl
  rw [e1,hc.1 x hx.1 hxl];simp only [Bool.false_and,Bool.false_eq_true,if_false];split <;> omega
 have hsum : ∀ n : Nat,totB (za9 g x l) p l n<=max 0 ((zax g p).getD x.toNat 0 - 1)/\((n : Int)<=x->totB (za9 g x l) p l n<=0):=by
  intro n
  induction n with
  | zero=>exact ⟨by show (0 : Int)<=_; omega,λ _=>Int.le_refl _⟩
  | succ n ih =>
    rw [zvk]
    by_cases hn : (n : Int)=x
    .rw [hn]
     exact ⟨by have:=ih.2 (by omega); omega,λ h=>by omega⟩
    .rw [hk0 n hn]
     exact ⟨by omega,λ h=>by have:=ih.2 (by omega); omega⟩
 have:=(hsum (za9 g x l).size.toNat).1;omega
theorem zyc {a b : List Int} (ha : a.Nodup) (hb : b.Nodup) : (a.filter λ k=>decide (k∈b)).length=(b.filter λ k=>decide (k∈a)).length:=by
 refine List.Perm.length_eq ((List.perm_ext_iff_of_nodup (ha.filter _) (hb.filter _)).2 λ k=>?_);simp only [List.mem_filter,decide_eq_true_eq];exact And.comm
theorem zrh (n : Nat) (q : Int->Bool) : (zbj n q).Nodup:=zdH (zha n q)
theorem zvO {a b : List Int} {n : Nat} (ha : a.Nodup) (hr : ∀ k∈a,0<=k/\k<n) : (zbj n λ k=>decide (k∈a) && decide (k∈b)).length=(a.filter λ k=>decide (k∈b)).length:=by
 refine List.Perm.length_eq ((List.perm_ext_iff_of_nodup (zrh _ _) (ha.filter _)).2 λ k=>?_);simp only [zda,List.mem_filter,Bool.and_eq_true,decide_eq_true_eq];exact ⟨λ h=>h.2,λ h=>⟨hr k h.1,h⟩⟩
end Go.Proofs.YtkngdgplbojdlaaGreat
namespace Go.Proofs
open Go.Shelf
def Tryz.sortEd_ren : Go.Shelf.Ren:=⟨fun | 6=>55 | 15=>113 | 14=>112 | 28=>154 | 29=>155 | 20=>146 | 21=>147 | 22=>148 | 23=>149 | 24=>150 | 25=>151 | 26=>152 | 27=>153 | 46=>180 | 47=>181 | 48=>182 | 49=>183 | 50=>184 | 57=>203 | n=>n,fun | 22=>28 | 24=>72 | 25=>84 | 3=>3 | 39=>134 | 0=>0 | 53=>175 | 55=>158 | 4=>4 | 46=>169 | 45=>168 | 50=>100 | 5=>5 | 9=>9 | 66=>198 | 70=>202 | 76=>214 | 77=>183 | n=>n,fun | n=>n⟩
theorem Tryz.sortEd : Go.Proofs.SlLaysF0.n6 Tryz.prog Tryz.sortEd_ren:={
 mixed:=by kernel_rfl
 f6:=⟨Tryz.f55.name,by decide,Tryz.func55.trans (congrArg some (by kernel_rfl))⟩
 f14:=⟨Tryz.f112.name,by decide,Tryz.func112.trans (congrArg some (by kernel_rfl))⟩
 f15:=Tryz.func113.trans (congrArg some (by kernel_rfl))
 f20:=⟨Tryz.f146.name,by decide,Tryz.func146.trans (congrArg some (by kernel_rfl))⟩
 f21:=⟨Tryz.f147.name,by decide,Tryz.func147.trans (congrArg some (by kernel_rfl))⟩
 f22:=⟨Tryz.f148.name,by decide,Tryz.func148.trans (congrArg some (by kernel_rfl))⟩
 f23:=⟨Tryz.f149.name,by decide,Tryz.func149.trans (congrArg some (by kernel_rfl))⟩
 f24:=⟨Tryz.f150.name,by decide,Tryz.func150.trans (congrArg some (by kernel_rfl))⟩
 f25:=⟨Tryz.f151.name,by decide,Tryz.func151.trans (congrArg some (by kernel_rfl))⟩
 f26:=⟨Tryz.f152.name,by decide,Tryz.func152.trans (congrArg some (by kernel_rfl))⟩
 f27:=⟨Tryz.f153.name,by decide,Tryz.func153.trans (congrArg some (by kernel_rfl))⟩
 f28:=Tryz.func154.trans (congrArg some (by kernel_rfl))
 f29:=Tryz.func155.trans (congrArg some (by kernel_rfl))
 f46:=⟨Tryz.f180.name,by decide,Tryz.func180.trans (congrArg some (by kernel_rfl))⟩
 f47:=Tryz.func181.trans (congrArg some (by kernel_rfl))
 f48:=Tryz.func182.trans (congrArg some (by kernel_rfl))
 f49:=⟨Tryz.f183.name,by decide,Tryz.func183.trans (congrArg some (by kernel_rfl))⟩
 f50:=⟨Tryz.f184.name,by decide,Tryz.func184.trans (congrArg some (by kernel_rfl))⟩
 f57:=⟨Tryz.f203.name,by decide,Tryz.func203.trans (congrArg some (by kernel_rfl))⟩
 t0:=Tryz.underlying0
 a0:=Tryz.isAgg0
 z0:=Tryz.sizeOf0
 v0:=Tryz.zeroValue0
 t3:=Tryz.underlying3
 a3:=Tryz.isAgg3
 z3:=Tryz.sizeOf3
 v3:=Tryz.zeroValue3
 t4:=Tryz.underlying4
 a4:=Tryz.isAgg4
 z4:=Tryz.sizeOf4
 v4:=Tryz.zeroValue4
 t5:=Tryz.underlying5
 a5:=Tryz.isAgg5
 z5:=Tryz.sizeOf5
 v5:=Tryz.zeroValue5
 t9:=Tryz.underlying9
 a9:=Tryz.isAgg9
 z9:=Tryz.sizeOf9
 v9:=Tryz.zeroValue9
 t22:=Tryz.underlying28
 a22:=Tryz.isAgg28
 z22:=Tryz.sizeOf28
 v22:=Tryz.zeroValue28
 t25:=Tryz.underlying84
 a25:=Tryz.isAgg84
 z25:=Tryz.sizeOf84
 v25:=Tryz.zeroValue84
 t39:=Tryz.underlying134
 a39:=Tryz.isAgg134
 z39:=Tryz.sizeOf134
 v39:=Tryz.zeroValue134
 t45:=Tryz.underlying168
 a45:=Tryz.isAgg168
 z45:=Tryz.sizeOf168
 v45:=Tryz.zeroValue168
 t46:=Tryz.underlying169
 a46:=Tryz.isAgg169
 z46:=Tryz.sizeOf169
 v46:=Tryz.zeroValue169
 t50:=Tryz.underlying100
 a50:=Tryz.isAgg100
 z50:=Tryz.sizeOf100
 v50:=Tryz.zeroValue100
 t53:=Tryz.underlying175
 a53:=Tryz.isAgg175
 z53:=Tryz.sizeOf175
 v53:=Tryz.zeroValue175
 t55:=Tryz.underlying158
 a55:=Tryz.isAgg158
 z55:=Tryz.sizeOf158
 v55:=Tryz.zeroValue158
 t66:=Tryz.underlying198
 a66:=Tryz.isAgg198
 z66:=Tryz.sizeOf198
 v66:=Tryz.zeroValue198
 t70:=Tryz.underlying202
 a70:=Tryz.isAgg202
 z70:=Tryz.sizeOf202
 v70:=Tryz.zeroValue202
 t76:=Tryz.underlying214
 a76:=Tryz.isAgg214
 z76:=Tryz.sizeOf214
 v76:=Tryz.zeroValue214
 t77:=Tryz.underlying183
 a77:=Tryz.isAgg183
 z77:=Tryz.sizeOf183
 v77:=Tryz.zeroValue183 }
end Go.Proofs
namespace Go.Proofs.YtkngdgplbojdlaaGreat
open Go Go.Shelf Go.RowKit Go.Lib Go.Sort Go.Proofs
theorem zvF (x : Int) (W : World) : Calls Tryz.prog zcf #[.int .i64 x] W λ e w'=>e = .returned (.bool false)/\w'=W:=by
 go_enter Tryz.func114,Tryz.ntmps114
 go_wp2
 go_ret
 simp
theorem zyw (x y : Int) (W : World) : Calls Tryz.prog zby #[.int .i64 x,.int .i64 y] W λ e w'=>e = .returned (.int .i64 (Lib.compareInt x y))/\w'=W:=by
 have hn:=zvF;change ∀ x W,Calls Tryz.prog 114 _ _ _ at hn;have hr : Lib.compareInt x y=if x<y then -1 else if x > y then 1 else 0:=rfl
 rw [hr]
 by_cases h1 : x<y
 .rw [if_pos h1]
  go_enter Tryz.func58,Tryz.ntmps58
  go_wp2_with (go_at_call 114; refine (hn _ _).mono ?_; rintro e w' ⟨rfl,rfl⟩)
  all_goals first
   | (go_ret; exact ⟨rfl,rfl⟩)
   | omega
   | (exfalso; omega)
 .rw [if_neg h1]
  by_cases h2 : x > y
  .rw [if_pos h2]
   go_enter Tryz.func58,Tryz.ntmps58
   go_wp2_with (go_at_call 114; refine (hn _ _).mono ?_; rintro e w' ⟨rfl,rfl⟩)
   all_goals first
    | (go_ret; exact ⟨rfl,rfl⟩)
    | omega
    | trace_state
  .rw [if_neg h2]
   go_enter Tryz.func58,Tryz.ntmps58
   go_wp2_with (go_at_call 114; refine (hn _ _).mono ?_; rintro e w' ⟨rfl,rfl⟩)
   all_goals first
    | (go_ret; exact ⟨rfl,rfl⟩)
    | omega
    | trace_state
theorem zAD (b : Nat) (x y : Int) (W : World) (h0 : W.heap[b]? = some (.cells #[.int .i64 x,.int .i64 y] 3 (0,0))) : Calls Tryz.prog zeZ #[.slice (some ⟨b,0,none⟩) 2 2] W λ e w'=>e = .returned (.int .i64 (if x≠0 then x else y))/\w'=W:=by
 have c0 : W.cell? ⟨b,0,none⟩=some (.int .i64 x):=by simp [World.cell?,h0]
 have c1 : W.cell? ⟨b,1,none⟩=some (.int .i64 y):=by simp [World.cell?,h0]
 by_cases hx : x=0
 .rw [if_neg (by simpa using hx)]
  go_enter Tryz.func57,Tryz.ntmps57
  go_wp2
  refine wp_loop_rounds 3 ?_;rw [rounds_succ]
  go_wp2
  rw [rounds_succ]
  by_cases hy : y=0
  .subst hy
   go_wp2
   rw [rounds_succ]
   go_wp2
   go_ret
   exact ⟨rfl,rfl⟩
  .go_wp2
   all_goals first
    | (go_ret; exact ⟨rfl,rfl⟩)
    | contradiction
    | trace_state
 .rw [if_pos (by simpa using hx)]
  go_enter Tryz.func57,Tryz.ntmps57
  go_wp2
  refine wp_loop_rounds 3 ?_;rw [rounds_succ]
  go_wp2
  all_goals first
   | (go_ret; exact ⟨rfl,rfl⟩)
   | contradiction
   | trace_state
def orV (x y : Int) : Int:=if x≠0 then x else y
def cmpL (a b : Ed) : Int:=orV (Lib.compareInt a.f b.f) (Lib.compareInt a.t b.t)
theorem zyu (b : Nat) (x y : Int) (W : World) (h0 : W.heap[b]? = some (.cells #[.int .i64 x,.int .i64 y] 3 (0,0))) : Calls Tryz.prog zeZ #[.slice (some ⟨b,0,none⟩) 2 2] W λ e w'=>e = .returned (.int .i64 (orV x y))/\w'=W:=zAD b x y W h0
theorem zwp (W : World) (a b c : Obj) : (((W.alloc a).alloc b).alloc c).drew.heap[W.heap.size+1+1]? = some c:=by
 show (((W.heap.push a).push b).push c)[W.heap.size+1+1]? = some c;rw [Array.getElem?_push,if_pos (by simp)]
attribute [local go_sem ↓] Go.wp_at_zero Go.wp_at_succ
set_option maxHeartbeats 4000000 in
theorem zrV (a b : Ed) (W : World) : Calls Tryz.prog zfq #[.agg #[.int .i64 a.f,.int .i64 a.t,.int .i64 a.v],.agg #[.int .i64 b.f,.int .i64 b.t,.int .i64 b.v]] W λ e w'=>e = .returned (.int .i64 (cmpL a b)) /\ ∃ q os',w'=Go.Sort.grow (W.drewN q) os':=by
 have hc:=zyw;change ∀ x y W,Calls Tryz.prog 58 _ _ _ at hc;have ho:=zyu;change ∀ b x y W h,Calls Tryz.prog 57 _ _ _ at ho;unfold cmpL;generalize hr1 : Lib.compareInt a.f b.f=r1 at *;generalize hr2 : Lib.compareInt a.t b.t=r2 at *;obtain ⟨af,at_,av⟩:=a;obtain ⟨bf,bt,bv⟩:=b;simp only at *
 go_enter Tryz.func56,Tryz.ntmps56
 go_wp2
 go_region_held3 (λ w'=>w'.cell? ⟨W.heap.size,0,none⟩=some (.int .i64 af)/\w'.cell? ⟨W.heap.size,1,none⟩=some (.int .i64 at_)/\w'.cell? ⟨W.heap.size+1,0,none⟩=some (.int .i64 bf)/\w'.cell? ⟨W.heap.size+1,1,none⟩=some (.int .i64 bt)) (go_keep)
  (first | (go_at_call 58; refine (hc _ _ _).mono ?_; rintro e w' ⟨rfl,rfl⟩) | (go_at_call 57; refine (ho _ r1 r2 _ (zwp ..)).mono ?_; rintro e w' ⟨rfl,rfl⟩))
 go_wp2
 go_ret
 refine ⟨rfl,1,#[.cells #[.int .i64 af,.int .i64 at_,.int .i64 av] 72,.cells #[.int .i64 bf,.int .i64 bt,.int .i64 bv] 72,.cells #[.int .i64 r1,.int .i64 r2] 3],?_⟩;rw [alloc_eq_grow,alloc_eq_grow,alloc_eq_grow,grow_grow,grow_grow];rfl
end Go.Proofs.YtkngdgplbojdlaaGreat
