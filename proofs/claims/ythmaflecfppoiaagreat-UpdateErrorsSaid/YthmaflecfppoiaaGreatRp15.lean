/- Texts of this claim,merged. -/
import Derived.Test.YthmaflecfppoiaaGreatRp13
import Derived.Test.YthmaflecfppoiaaGreatRp14
import Derived.Test.YthmaflecfppoiaaGreatRp11
import Derived.Test.YthmaflecfppoiaaGreatRp6
import Derived.Test.YthmaflecfppoiaaGreatRp9
set_option linter.unusedSimpArgs false
set_option linter.unusedVariables false
set_option linter.unusedSectionVars false
namespace Go.Proofs.YthmaflecfppoiaaGreat
open Go
section
variable {N : Nat} {A : List Ed} {f : List Int}
theorem ztd (hn : zen N A) {s : Stp} (hs : s.1<A.length) : 0≤stT A s∧stT A s<N:=by
 have:=hn.arc _ (zd0 hs)
 unfold stT
 split <;> omega
theorem Bfs.grow (hn : zen N A) : ∀ (n : Nat) (D b : List Int),Bfs N A f D b→N - D.length≤n → ∃ D' b',Bfs N A f D' b'∧zeX A f D'
 | n,D,b,h,hl=>by
   by_cases hc : zeX A f D
   ·exact ⟨D,b,h,hc⟩
   ·unfold zeX at hc
    obtain ⟨s,hs⟩:=Classical.not_forall.1 hc
    obtain ⟨h1,hs⟩:=Classical.not_imp.1 hs
    obtain ⟨h2,hs⟩:=Classical.not_imp.1 hs
    obtain ⟨h3,h4⟩:=Classical.not_imp.1 hs
    have hr:=ztd hn h1
    have hp:=h.push h1 h2 h3 h4 hr.1 hr.2
    have hf:=hp.few
    rw [List.length_append,List.length_singleton] at hf
    match n,hl with
    | 0,hl=>omega
    | n+1,hl=>exact Bfs.grow hn n _ _ hp (by rw [List.length_append,List.length_singleton]; omega)
theorem zp7 (hn : zen N A) {D b : List Int} (hf1 : zaA N A f) (hf2 : ∀ f',zaA N A f'→valF A f'≤valF A f) (hb : Bfs N A f D b) : (1 : Int)∉D:=fun hm=>by
 obtain ⟨l,hl⟩:=hb.chain hm
 have h1:=hl.push hn hf1 (v:=1) (by omega) fun s hs=>by
  obtain ⟨i,hi,rfl⟩:=List.mem_iff_getElem.1 hs
  have:=(hl.at_ i hi).2.1
  omega
 have h2:=hf2 _ h1.1
 omega
theorem zvk (hn : zen N A) {S : Int→Bool} (h0 : S 0=true) (h1 : S 1=false) : maxF N A≤capS S A:=by
 obtain ⟨f,hf,hv⟩:=zrg hn
 rw [← hv]
 exact zec hn hf h0 h1
theorem zus (hn : zen N A) : ∃ X : Int→Bool,X 0=true∧X 1=false∧capS X A=maxF N A ∧ ∀ S : Int→Bool,S 0=true→S 1=false→capS S A=maxF N A → ∀ x,X x=true→S x=true:=by
 obtain ⟨f,hf,hm⟩:=zfG hn
 obtain ⟨D,b,hb,hc⟩:=Bfs.grow hn N [0] _ (Bfs.start (f:=f) (by have:=hn.two; omega)) (by omega)
 have h1:=zp7 hn hf hm hb
 have hmf:=zgi hf hm
 refine ⟨fun x=>decide (x∈D),by simpa using hb.mem0,by simpa using h1,?_,fun S s0 s1 hS x hx=>?_⟩
 ·rw [hmf]
  exact (zgI hn hf hb.mem0 h1 hc).1.symm
 ·exact zmp hn hf hb.tree s0 s1 (hS.trans hmf) x (by simpa using hx)
end
def zvb (g : Gr) (p : Pol) (S : Int→Bool) : Int:=capS S (netA g p [])
def zjz (S : Int→Bool) (ks : List Int) : Int:=(ks.map fun k=>if S (2+2*k)=true then 1 else 0).sum
variable {g : Gr} {p : Pol}
def zuY (g : Gr) (p : Pol) (k : Int) : Prop:=0<(zaO g p).getD k.toNat 0
theorem zms {S : Int→Bool} (h1 : S 1=false) {ks : List Int} (hk : ∀ k∈ks,zuY g p k) : capS S (netA g p ks)=zvb g p S+zjz S ks:=by
 have hf : ks.filter (fun x=>decide (0<(zaO g p).getD x.toNat 0))=ks:=List.filter_eq_self.2 fun x hx=>decide_eq_true (hk x hx)
 unfold zvb zjz
 simp only [zm7,netA,zba,List.map_append,List.sum_append,List.map_map,hf]
 have e : ((fun e : Ed=>if S e.f=true∧S e.t=false then e.v else 0)∘fun x : Int=>(⟨2+2*x,1,1⟩ : Ed))=fun k=>if S (2+2*k)=true then 1 else 0:=by
  funext k
  simp only [Function.comp,h1,and_true]
 rw [e]
 simp only [List.filter_nil,List.map_nil,List.sum_nil]
 omega
theorem zqM (S : Int→Bool) : ∀ ks : List Int,zjz S ks≤ks.length
 | []=>Int.le_refl _
 | k::ks=>by
   have ih:=zqM S ks
   unfold zjz at ih ⊢
   simp only [List.map_cons,List.sum_cons,List.length_cons]
   split <;> omega
theorem zoF (S : Int→Bool) (a b : List Int) : zjz S (a++b)=zjz S a+zjz S b:=by simp [zjz]
theorem zrx (S : Int→Bool) {a b : List Int} (h : a.Perm b) : zjz S a=zjz S b:=by
 unfold zjz
 induction h with
 | nil=>rfl
 | cons x _ ih=>simp only [List.map_cons,List.sum_cons,ih]
 | swap x y l=>simp only [List.map_cons,List.sum_cons]; omega
 | trans _ _ ih1 ih2=>exact ih1.trans ih2
structure zcm (g : Gr) (p : Pol) (ks : List Int) : Prop where
 rng : ∀ x∈ks,0≤x∧x<g.size
 reach : ∀ x∈ks,zuY g p x
theorem zcm.sub {a b : List Int} (h : zcm g p b) (hs : ∀ x∈a,x∈b) : zcm g p a:=⟨fun x hx=>h.rng x (hs x hx),fun x hx=>h.reach x (hs x hx)⟩
theorem zcm.nil : zcm g p []:=⟨fun _ h=>(List.not_mem_nil h).elim,fun _ h=>(List.not_mem_nil h).elim⟩
theorem zcm.append {a b : List Int} (h : zcm g p a) (h' : zcm g p b) : zcm g p (a++b) :=
 ⟨fun x hx=>(List.mem_append.1 hx).elim (h.rng x) (h'.rng x),fun x hx=>(List.mem_append.1 hx).elim (h.reach x) (h'.reach x)⟩
theorem zeH (hg : GrOk g) (hp : zaY g.size p) {ks : List Int} (hk : zcm g p ks) : zat g p ks ↔ ∀ S : Int→Bool,S 0=true→S 1=false→(ks.length : Int)≤zvb g p S+zjz S ks:=by
 have hn:=zkd hg hp hk.rng
 unfold zat
 constructor
 ·intro h S h0 h1
  rw [← zms h1 hk.reach,← h]
  exact zvk hn h0 h1
 ·intro h
  obtain ⟨X,h0,h1,hc,_⟩:=zus hn
  have h2:=h X h0 h1
  rw [← zms h1 hk.reach,hc] at h2
  have h3:=zib (p:=p) hg hp hk.rng
  omega
theorem zat.perm (hg : GrOk g) (hp : zaY g.size p) {a b : List Int} (ha : zcm g p a) (h : zat g p a) (hp' : a.Perm b) : zat g p b:=by
 have hb : zcm g p b:=ha.sub fun x hx=>hp'.mem_iff.2 hx
 rw [zeH hg hp hb]
 rw [zeH hg hp ha] at h
 intro S h0 h1
 rw [← zrx S hp',← hp'.length_eq]
 exact h S h0 h1
theorem zat.left (hg : GrOk g) (hp : zaY g.size p) {a b : List Int} (hk : zcm g p (a++b)) (h : zat g p (a++b)) : zat g p a:=by
 have ha : zcm g p a:=hk.sub fun x hx=>List.mem_append_left _ hx
 rw [zeH hg hp ha]
 rw [zeH hg hp hk] at h
 intro S h0 h1
 have:=h S h0 h1
 rw [zoF,List.length_append] at this
 have:=zqM S b
 omega
theorem zat.sublist (hg : GrOk g) (hp : zaY g.size p) {a b : List Int} (hk : zcm g p b) (h : zat g p b) (hs : a.Sublist b) : zat g p a:=by
 obtain ⟨c,hc⟩ : ∃ c,(a++c).Perm b:=by
  induction hs with
  | slnil=>exact ⟨[],.refl _⟩
  | cons x hs ih =>
    obtain ⟨c,hc⟩:=ih (hk.sub fun y hy=>List.mem_cons_of_mem _ hy) (by
     have h2 : zat g p (_++[x]):=h.perm hg hp hk (List.perm_append_comm (l₁:=[x]))
     exact h2.left hg hp (hk.sub fun y hy=>by simpa [or_comm] using hy))
    exact ⟨x::c,List.perm_middle.trans (hc.cons x)⟩
  | cons_cons x hs ih =>
    obtain ⟨c,hc⟩:=ih (hk.sub fun y hy=>List.mem_cons_of_mem _ hy) (by
     have h2 : zat g p (_++[x]):=h.perm hg hp hk (List.perm_append_comm (l₁:=[x]))
     exact h2.left hg hp (hk.sub fun y hy=>by simpa [or_comm] using hy))
    exact ⟨c,hc.cons x⟩
 exact (h.perm hg hp hk hc.symm).left hg hp (hk.sub fun x hx=>hc.mem_iff.1 hx)
theorem zat.nil (hg : GrOk g) (hp : zaY g.size p) : zat g p []:=by
 have h1:=zib (p:=p) (ks:=[]) hg hp (by simp)
 have hn:=zkd (p:=p) (ks:=[]) hg hp (by simp)
 have h2:=zto hn (zid hn)
 have h3 : valF (netA g p []) ((netA g p []).map fun _=>0)=0:=by
  unfold valF outF
  have : ∀ A : List Ed,sumF (fun e v=>if e.f=0 then v else 0) A (A.map fun _=>0)=0:=by
   intro A
   induction A with
   | nil=>rfl
   | cons e A ih=>simp only [List.map_cons,sumF,ih]; split <;> rfl
  exact this _
 unfold zat
 simp at h1 ⊢
 omega
theorem zak.k1n {rs : List (Nat × Option (Bool × Nat))} {st : St} {vs : List AV} {res : AV} {e0 e : Ent} (i : Nat) (hi : 1≤i) (h1 : zfO st rs=some vs) (hw : Wk (conv [(0,0),(i,1)] [] st.hp 4 (resV vs)) res) (h0 : (st.hp 0).map (zax [(0,0),(i,1)] [] st.hp 4)=some e0) (he : (st.hp i).map (zax [(0,0),(i,1)] [] st.hp 4)=some e) : zak rs 1 st res [some e0,some e] :=
 ⟨vs,h1,[i],[],by simp [List.range,List.range.loop]; omega,by simpa using hi,by simp,by simpa [List.range,List.range.loop] using hw,by simpa [List.range,List.range.loop] using ⟨by simpa using h0,by simpa using he⟩⟩
@[simp] theorem zvO {i : Nat} : cellsOf (.mp i)=some [.mp i]:=(rfl)
set_option maxRecDepth 100000 in
set_option maxHeartbeats 2000000 in
theorem zwj (N : Nat) (A : List Ed) (f0 : List Int) (hn : za5 ⟨N,A⟩) (hf0 : zaA N A f0) :
  ∃ f : List Int,(zaA N A f ∧ ∀ f',zaA N A f'→valF A f'≤valF A f)∧zai Tryz.prog ziR [eN ⟨N,A⟩,ints f0] [] (.rs 0 0 A.length) [some ⟨1,zah f,0⟩]:=by
 refine zr4.acallsX (args:=[eN ⟨N,A⟩,ints f0]) (hs:=[]) (fun f=>.rs 0 0 A.length) (fun f=>[some ⟨1,zah f,0⟩]) (fun f : List Int=>zaA N A f ∧ ∀ f',zaA N A f'→valF A f'≤valF A f) (nbz rfl) (nbz rfl) (fun _=>by simp) ?_
 show awp _ 0 _ _ ⟨14,[(0,eN ⟨N,A⟩),(1,ints f0)],[],16⟩
 have hno:=zeE hn
 have hfl:=hf0.fit.len
 have hopen:=fun (f : List Int)=>ztp N A f A.length hn
 have hpush:=fun (f : List Int) (hf : zaA N A f)=>zwk N A f hn hf
 have hal:=hn.2.2.1
 simp only at hal
 have hcl:=zgr f0 (by omega)
 rw [hfl] at hcl
 have htake : ∀ g : Int→List AV,List.take A.length (List.map g f0)=List.map g f0:=fun g=>List.take_of_length_le (by simp; omega)
 refine rx (s:=?s1) [1,2] [] [16] rfl ?o1 ?q1
 case o1=>simp; rfl
 refine zaq ⟨14,[(5,.pt 64 0 0)],[(48,some ⟨1,zah f0,0⟩),(64,some ⟨4,[rC N A (.rs 48 0 A.length)],0⟩)],80⟩ rfl ?_ ?_
 ·simp
  refine za0 hcl (by simp) ?_
  simp
  refine zbH (i:=48) rfl (by simp [fcd]) (hopen f0) (by simp) (by simp) ?_
  simp
  exact ⟨rfl,LeI [(48,48),(64,64)] []⟩
 refine zab ?_
 refine zaf ?_
 refine zao (ι:=List Int) (fun f=>⟨14,[(5,.pt 64 0 0)],[(48,some ⟨1,zah f,0⟩),(64,some ⟨4,[rC N A (.rs 48 0 A.length)],0⟩)],80⟩) (fun f=>zaA N A f) (fun f=>(capS (fun x=>decide (x=0)) A - valF A f).toNat) f0 hf0 (LeI [(48,48),(64,64)] []) ?_
 intro f hf
 obtain ⟨⟨c,f'⟩,hx,hcall⟩:=hpush f hf
 simp only at hx hcall
 refine zab ?_
 refine zaa ⟨14,[(5,.pt 64 0 0),(11,.B c)],[(48,some ⟨1,zah f',0⟩),(64,some ⟨4,[rC N A (.rs 48 0 A.length)],0⟩)],100⟩ rfl ?_ ?_
 ·simp
  refine zbH (i:=48) rfl (by simp [fcd]) hcall (by simp) (by simp) ?_
  simp
  exact LeI [(48,48),(64,64)] []
 refine zac _ rfl (fun h4=>?_) fun h4=>?_
 ·have hc : c=true:=h4
  subst hc
  simp only [if_true] at hx
  have hbnd:=zec (S:=fun x=>decide (x=0)) hno hx.1 (by simp) (by simp)
  refine zae ?_
  refine zaf ?_
  refine zae ?_
  exact ⟨f',hx.1,by have:=hx.2; omega,LeI [(48,48),(64,64)] []⟩
 have hc : c=false:=h4
 subst hc
 simp only [Bool.false_eq_true,if_false] at hx
 obtain ⟨rfl,hm⟩:=hx
 refine zan ?_
 refine hit ?_
 refine zaa ⟨14,[(4,.rs 48 0 A.length)],[(48,some ⟨1,zah f',0⟩)],200⟩ rfl ?_ ?_
 ·simp
  exact LeI [(48,48)] []
 refine zag ?_
 exact zgh.mk (.inr rfl) f' ⟨hf,hm⟩ (zak.out [48] [] rfl (by simp) (by simp) (by simp) (by simp [fcd]))
set_option maxRecDepth 100000 in
set_option maxHeartbeats 2000000 in
theorem zsw (N : Nat) (A : List Ed) (hn : za5 ⟨N,A⟩) :
  ∃ f : List Int,(zaA N A f ∧ ∀ f',zaA N A f'→valF A f'≤valF A f)∧zai Tryz.prog zk3 [eN ⟨N,A⟩] [] (.tup [.rs 0 0 A.length,.I 0]) [some ⟨1,zah f,0⟩]:=by
 have hno:=zeE hn
 obtain ⟨f,hf,hg⟩:=zwj N A _ hn (zid hno)
 refine ⟨f,hf,?_⟩
 have hchk:=zfl ⟨N,A⟩ (by have:=hn.2.2.1; simp only at this ⊢; omega)
 rw [if_pos hn] at hchk
 have hal:=hn.2.2.1
 simp only at hal
 have hfl:=hf.1.fit.len
 refine zsX.acalls (nbz rfl) (nbz rfl) (Nat.zero_le _) ?_
 show awp _ 0 _ _ ⟨16,[(0,eN ⟨N,A⟩)],[],16⟩
 refine rx (s:=?s1) [1] [] [16] rfl ?o1 ?q1
 case o1=>simp; rfl
 refine zab ?_
 refine rx (s:=?s2) [1,4] [] [] rfl ?o2 ?q2
 case o2=>simp; refine zaj hchk (by simp) ?_; simp; rfl
 refine rx (s:=?s3) [1,4,8] [] [] rfl ?o3 ?q3
 case o3=>simp; rfl
 refine zac _ rfl (fun h4=>by cases h4) fun h4=>?_
 refine zae ?_
 refine zaq ⟨16,[(2,.rs 48 0 A.length),(3,.I 0)],[(48,some ⟨1,zah f,0⟩)],300⟩ rfl ?_ ?_
 ·simp
  refine ⟨by omega,by omega,?_⟩
  refine ziE [112] hg (by simp [List.map_const']) (.rs _ _ _) zro ?_
  simp
  exact ⟨rfl,LeI [(120,48)] []⟩
 refine zag ?_
 exact ⟨.inr rfl,zak.out [48] [] rfl (by simp) (by simp) (by simp) (by simp [fcd])⟩
set_option maxRecDepth 100000 in
set_option maxHeartbeats 2000000 in
theorem zlo (N : Nat) (A : List Ed) (f : List Int) (hn : za5 ⟨N,A⟩) (hf : zaA N A f) (hm : ∀ f',zaA N A f'→valF A f'≤valF A f) :
  zai Tryz.prog zfK [eN ⟨N,A⟩,.rs 0 0 A.length] [⟨1,zah f,0⟩] (.rs 1 0 (zfa N A).length) [some ⟨1,zah f,0⟩,some ⟨1,zah (zfa N A),0⟩]:=by
 have hno:=zeE hn
 obtain ⟨⟨D,b,R⟩,⟨hb,hcl,hR⟩,hcall⟩:=zra N A f hn hf.fit
 simp only at hb hcl hR hcall
 have hopen:=ztp N A f A.length hn
 have hnear : inD D N=zfa N A:=zmY hno hf hm hb.tree hb.mem0 (zp7 hno hf hm hb) hcl
 have hwh:=zs2 hR N (by have:=hn.2.1; simp only at this; omega)
 rw [hnear] at hwh
 have hfl:=hf.fit.len
 have htake : ∀ g : Int→List AV,List.take A.length (List.map g f)=List.map g f:=fun g=>List.take_of_length_le (by simp; omega)
 refine znB.acalls (nbz rfl) (nbz rfl) (by simp) ?_
 show awp _ 1 _ _ ⟨14,[(0,eN ⟨N,A⟩),(1,.rs 0 0 A.length)],[(0,some ⟨1,zah f,0⟩)],16⟩
 refine zaa ⟨14,[(1,.rs 0 0 A.length),(2,.pv (nC ⟨N,A⟩))],[(0,some ⟨1,zah f,0⟩)],32⟩ rfl ?_ ?_
 ·simp
  exact LeI [(0,0)] [16]
 refine zaa ⟨14,[(2,.pv (nC ⟨N,A⟩)),(5,.pt 64 0 0)],[(0,some ⟨1,zah f,0⟩),(64,some ⟨1,[[.mp 56]],0⟩),(56,some ⟨0,R,0⟩)],100⟩ rfl ?_ ?_
 ·simp
  refine zbH (i:=0) rfl (by simp [fcd]) hopen (by simp) (by simp) ?_
  simp
  refine ziE [0] hcall (by simp [fcd,htake,hfl]) (.mp _) (hR.plain _ _) ?_
  simp
  exact Le.go [(0,0),(64,64),(56,56)] [] rfl rfl (by simp) (by simp [fcd,hR.conv'])
 refine zaa ⟨14,[(4,.rs 57 0 (zfa N A).length)],[(0,some ⟨1,zah f,0⟩),(57,some ⟨1,zah (zfa N A),0⟩)],200⟩ rfl ?_ ?_
 ·simp
  refine zml (i:=64) (j:=56) (by decide) rfl rfl (by simp) (by simp [hR.conv']) hwh (by simp) (by simp [conv]) ?_
  simp
  exact LeI [(0,0),(124,57)] []
 refine zag ?_
 exact ⟨.inr rfl,zak.k1n 57 (by omega) rfl (by simp) (by simp [fcd]) (by simp [fcd])⟩
variable {g : Gr} {p : Pol}
theorem zrt : ∀ (b a : List Int),∃ l,accR g p (a++b)=accR g p a++l ∧ ∀ x∈l,x∈b
 | [],a=>⟨[],by simp,by simp⟩
 | x::b,a=>by
   obtain ⟨l,hl,hm⟩:=zrt b (a++[x])
   have e : a++x::b=a++[x]++b:=by simp
   rw [e,hl]
   rcases zoD (g:=g) (p:=p) a x with h | h
   ·exact ⟨l,by rw [h],fun y hy=>List.mem_cons_of_mem _ (hm y hy)⟩
   ·refine ⟨[x]++l,by rw [h,List.append_assoc],fun y hy=>?_⟩
    rcases List.mem_append.1 hy with h | h
    ·rw [List.mem_singleton.1 h]; exact List.mem_cons_self
    ·exact List.mem_cons_of_mem _ (hm y h)
theorem znJ {o : List Int} (hn : o.Nodup) {i : Nat} (h : i<o.length) : o[i]∈accR g p o↔zat g p (zav (accR g p (o.take i)++[o[i]])):=by
 have hs : o.take (i+1)=o.take i++[o[i]]:=List.take_succ_eq_append_getElem h
 obtain ⟨l,hl,hm⟩:=zrt (g:=g) (p:=p) (o.drop (i+1)) (o.take (i+1))
 rw [List.take_append_drop] at hl
 have hni : o[i]∉o.take i:=fun hx=>by
  obtain ⟨j,hj,e⟩:=List.mem_take_iff_getElem.1 hx
  have:=(List.getElem_inj hn).1 e
  omega
 have hnd : o[i]∉o.drop (i+1):=fun hx=>by
  obtain ⟨j,hj,e⟩:=List.mem_drop_iff_getElem.1 hx
  have:=(List.getElem_inj hn).1 e
  omega
 constructor
 ·intro hx
  by_cases hc : zat g p (zav (accR g p (o.take i)++[o[i]]))
  ·exact hc
  ·rw [hl,hs,zhw hc] at hx
   rcases List.mem_append.1 hx with h1 | h1
   ·exact absurd (zea h1) hni
   ·exact absurd (hm _ h1) hnd
 ·intro hc
  rw [hl,hs,zbV hc]
  exact List.mem_append_left _ (List.mem_append_right _ (List.mem_singleton.2 rfl))
theorem zrk {o : List Int} (hn : o.Nodup) : ∀ i,i≤o.length→befL o (accR g p o) i=accR g p (o.take i)
 | 0,_=>by simp [befL,zjV]
 | i+1,h=>by
   have hi : i<o.length:=h
   rw [ztD hi,zrk hn i (by omega),List.take_succ_eq_append_getElem hi]
   by_cases hc : zat g p (zav (accR g p (o.take i)++[o[i]]))
   ·rw [if_pos ((znJ hn hi).2 hc),zbV hc]
   ·rw [if_neg (fun h=>hc ((znJ hn hi).1 h)),zhw hc,List.append_nil]
theorem zlL {l : List Int} (h : l.Pairwise (· < ·)) : l.Nodup:=h.imp fun h=>by omega
theorem zox {a : List Int} (hn : a.Nodup) (hr : ∀ k∈a,0≤k∧k<64) : a.Perm (zav a):=by
 rw [← zjW hn hr]
 exact (zgK a).symm
theorem zgL {a : List Int} (hn : a.Nodup) (hr : ∀ k∈a,0≤k∧k<64) : (zav a).length=a.length:=(zox hn hr).length_eq.symm
structure AtO (g : Gr) (p : Pol) (key : Int) (before : List Int) : Prop where
 mem : key∈ordL (zam g p.lv) p.seeds
 bef : zf5 (ordL (zam g p.lv) p.seeds) before key
 nodup : (before++[key]).Nodup
 range : ∀ k∈before++[key],0≤k∧k<g.size
 serve : key∈accR g p (ordL (zam g p.lv) p.seeds)↔zat g p (zav (before++[key]))
theorem zqq {o : List Int} (hn : o.Nodup) {i : Nat} (h : i<o.length) : zin o o[i]=o.take i:=by
 unfold zin
 rw [List.takeWhile_eq_take_findIdx_not]
 congr 1
 rw [List.findIdx_eq h]
 refine ⟨by simp,fun j hj=>?_⟩
 have : o[j]≠o[i]:=fun e=>by have:=(List.getElem_inj hn).1 e; omega
 simp [this]
theorem ForR.at_ {key : Int} {x : Expl} (h : ForR g p (ordL (zam g p.lv) p.seeds) key x) (hg : GrOk g) : x.key=key∧AtO g p key x.before ∧ ∃ i,∃ hi : i<(ordL (zam g p.lv) p.seeds).length,(ordL (zam g p.lv) p.seeds)[i]=key∧x.before=accR g p ((ordL (zam g p.lv) p.seeds).take i):=by
 have hn:=zbf (zam g p.lv) p.seeds
 have hr : ∀ k∈ordL (zam g p.lv) p.seeds,0≤k∧k<g.size:=fun k hk=>by have h:=zb3 hk; exact h
 obtain ⟨o,ho⟩ : ∃ o,o=ordL (zam g p.lv) p.seeds:=⟨_,rfl⟩
 rw [← ho] at h hn hr ⊢
 obtain ⟨i,hi,hk,hb⟩:=h.bef
 rw [zrk hn i (by omega)] at hb
 refine ⟨h.key_,?_,i,hi,hk,hb⟩
 have hsub : x.before.Sublist (zin o key):=by
  rw [hb,← hk,zqq hn hi]
  exact zd7 _ _ rfl
 refine ⟨by rw [← ho,← hk]; exact List.getElem_mem hi,by rw [← ho]; exact hsub,zf5.nodup (order:=o) hsub hn,fun k hkm=>?_,?_⟩
 ·rcases List.mem_append.1 hkm with h1 | h1
  ·refine hr k ?_
   rw [hb] at h1
   exact List.mem_of_mem_take (zea h1)
  ·rw [List.mem_singleton.1 h1,← hk]; exact hr _ (List.getElem_mem hi)
 ·rw [← ho,hb,← hk]
  exact znJ hn hi
theorem AtO.joined {key : Int} {before : List Int} (h : AtO g p key before) (hg : GrOk g) : (zav (before++[key])).Nodup∧(before++[key]).Perm (zav (before++[key]))∧(∀ x∈zav (before++[key]),0≤x∧x<g.size):=by
 have h64:=hg.1.2.1
 have hr : ∀ k∈before++[key],0≤k∧k<64:=fun k hk=>⟨(h.range k hk).1,by have:=(h.range k hk).2; omega⟩
 exact ⟨zlL (zgO _),zox h.nodup hr,fun x hx=>h.range x (zc3.1 hx).1⟩
theorem zpP {key : Int} {before : List Int} {W : List (List Nat)} (hg : GrOk g) (hp : zaY g.size p) (ha : AtO g p key before) (hc : zat g p (zav (before++[key]))) (hW : zuQ g p (before++[key]) W) :
  zkU g p.lv p.seeds (ordL (zam g p.lv) p.seeds) (zaO g p) (W.map (zcS (netA g p (zav (before++[key]))))) (before++[key]):=by
 obtain ⟨f,g',hgf,ht,hl,_⟩:=hW
 obtain ⟨j1,j2,j3⟩:=ha.joined hg
 refine zoQ hg hp j1 (fun x hx=>(j3 x hx).1) j2 hgf.ok.fit ht.ways (fun i _=>?_) ?_
 ·have h1:=ht.used i
  have h2:=ht.bal.nonneg i
  omega
 ·have : maxF (netN g) (netA g p (zav (before++[key])))=(zav (before++[key])).length:=hc
  omega
theorem ForR.yes_serves {key : Int} {x : Expl} (h : ForR g p (ordL (zam g p.lv) p.seeds) key x) (hg : GrOk g) (hp : zaY g.size p) (hk : key∈accR g p (ordL (zam g p.lv) p.seeds)) :
  zkU g p.lv p.seeds (ordL (zam g p.lv) p.seeds) (zaO g p) x.paths (x.before++[key]):=by
 obtain ⟨_,ha,_⟩:=h.at_ hg
 obtain ⟨_,_,W,hW,hpa⟩:=h.yes hk
 rw [hpa]
 exact zpP hg hp ha (ha.serve.1 hk) hW
theorem ForR.no_proves {key : Int} {x : Expl} (h : ForR g p (ordL (zam g p.lv) p.seeds) key x) (hg : GrOk g) (hp : zaY g.size p) (hk : key∉accR g p (ordL (zam g p.lv) p.seeds)) :
  zc9 ⟨2+2*g.size,zba g p (zaO g p) (zav (x.before++[key]))⟩ x.side x.before.length:=by
 obtain ⟨_,ha,i,hi,hik,hib⟩:=h.at_ hg
 obtain ⟨_,_,R,hR,hs⟩:=h.no hk
 obtain ⟨i',hi',hik',hn⟩:=hR.right _ hs
 simp only at hik' hn
 have hii : i'=i:=(List.getElem_inj (zbf (zam g p.lv) p.seeds)).1 (hik'.trans hik.symm)
 subst hii
 rw [← hib] at hn
 obtain ⟨j1,j2,j3⟩:=ha.joined hg
 have hfew:=zib hg hp j3
 have hno : maxF (netN g) (netA g p (zav (x.before++[key])))≠(zav (x.before++[key])).length:=hn.no
 have hlen:=j2.length_eq
 rw [List.length_append,List.length_singleton] at hlen
 have hcut:=hn.cut
 have hok:=hn.ok
 rw [zfD hg] at hok
 exact ⟨hok,by rw [hcut]; omega⟩
theorem ForR.checked {key : Int} {x : Expl} (h : ForR g p (ordL (zam g p.lv) p.seeds) key x) (hg : GrOk g) (hp : zaY g.size p) : ztf g p x=0:=by
 rw [zrA hg.1.2.1]
 obtain ⟨hk,ha,_⟩:=h.at_ hg
 unfold ztY
 simp only
 rw [hk,if_neg (by simpa using ha.mem)]
 by_cases hacc : key∈accR g p (ordL (zam g p.lv) p.seeds)
 ·obtain ⟨h1,h2,_⟩:=h.yes hacc
  rw [if_neg (by rw [h1,h2]; simpa using ha.bef),if_pos h1,if_pos (h.yes_serves hg hp hacc)]
 ·obtain ⟨h1,h2,_⟩:=h.no hacc
  rw [if_neg (by rw [h1,h2]; simpa using ha.bef),if_neg (by rw [h1]; simp),if_pos (h.no_proves hg hp hacc)]
theorem zfY (l : List Int) (hl : l.length≤1099511627776) : zai Tryz.prog zd8 [ints l] [] (.rs 0 0 l.length) [some ⟨1,zah (srt l),0⟩]:=by
 refine zmZ.acalls (nbz rfl) (nbz rfl) (Nat.zero_le _) ?_
 show awp _ 0 _ _ ⟨6,[(0,ints l)],[],16⟩
 have hs : zai Tryz.prog zb6 [seqF l] [] (.rs 0 0 l.length) [some ⟨1,zah (srt l),0⟩]:=zsT l hl
 refine rx (s:=?s1) [0] [] [] rfl ?o1 ?q1
 case o1=>simp; rfl
 refine zaa ⟨6,[(2,.rs 50 0 l.length)],[(50,some ⟨1,zah (srt l),0⟩)],100⟩ rfl ?_ ?_
 ·simp
  refine zaj (ztt l) (by simp) ?_
  simp
  refine za0 hs (by simp [conv]) ?_
  simp
  exact LeI [(40,50)] []
 refine zag ?_
 exact ⟨.inr rfl,zak.out [50] [] rfl (by simp) (by simp) (by simp) (by simp [fcd])⟩
theorem zf4 (g : Gr) (p : Pol) (hg : GrOk g) (hN : g.size<20) (hs : p.seeds.length≤1099511627776) : zai Tryz.prog zd2 [eG g,eP p] [] (.rs 0 0 (ordL (zam g p.lv) p.seeds).length) [some ⟨1,zah (ordL (zam g p.lv) p.seeds),0⟩]:=by
 refine zmL.acalls (nbz rfl) (nbz rfl) (Nat.zero_le _) ?_
 show awp _ 0 _ _ ⟨12,[(0,eG g),(1,eP p)],[],16⟩
 have hel:=hg.edges_le
 have hgl:=hg.gone_le
 have hsz:=hg.1.2.1
 have hlev:=zdx g p.lv (by omega) (by omega)
 have hord:=ziP (g:=zam g p.lv) (S:=p.seeds) (hg.level p.lv) hN hs
 obtain ⟨o,ho⟩ : ∃ o,o=ordL (zam g p.lv) p.seeds:=⟨_,rfl⟩
 rw [← ho] at hord ⊢
 refine rx (s:=?s1) [2,3] [] [16,24] rfl ?o1 ?q1
 case o1=>simp; rfl
 refine zaq ⟨12,[(4,.rs 50 0 o.length)],[(50,some ⟨1,zah o,0⟩)],200⟩ rfl ?_ ?_
 ·simp
  refine zaj hlev (by simp) ?_
  simp
  refine za0 hord (by simp) ?_
  simp
  exact ⟨rfl,LeI [(88,50)] []⟩
 refine zag ?_
 exact ⟨.inr rfl,zak.out [50] [] rfl (by simp) (by simp) (by simp) (by simp [fcd])⟩
theorem zg4 (l : List Int) (x : Int) (hl : l.length≤1000000) : zai Tryz.prog zeI [ints l,.I x] [] (.rs 0 0 (l.length+1)) [some ⟨1,zah (l++[x]),0⟩]:=by
 refine zoL.acalls (nbz rfl) (nbz rfl) (Nat.zero_le _) ?_
 show awp _ 0 _ _ ⟨14,[(0,ints l),(1,.I x)],[],16⟩
 refine rx (s:=?s1) [0,1] [] [] rfl ?o1 ?q1
 case o1=>simp; rfl
 refine zaa ⟨14,[(4,.rs 50 0 (l.length+1))],[(50,some ⟨1,zah (l++[x]),0⟩)],200⟩ rfl ?_ ?_
 ·have hsl : ∀ {id : Nat} {h : Nat→Option Ent} {K : AV→List Nat→List (Nat × Option Ent)→Prop},K (.vs 1 true (l.map fun n=>[AV.I n])) [] []→aK Tryz.prog 0 id (.slc 1 false true true) [ints l,.I (l.length : Nat),.I (l.length : Nat)] h K:=fun hK=>by
   rw [zku]
   refine ⟨0,l.length,l.length,l.length,by simp,Nat.zero_le _,rfl,by simp,by simp,by simp,Nat.le_refl _,fun _=>rfl,rfl,?_⟩
   rw [List.drop_zero,Nat.sub_zero,List.take_of_length_le (by simp)]
   exact hK
  simp
  refine hsl ?_
  simp
  exact ⟨by omega,by omega,LeI [(88,50)] []⟩
 refine zag ?_
 exact ⟨.inr rfl,zak.out [50] [] rfl (by simp) (by simp) (by simp) (by simp [fcd])⟩
theorem zcg (g : Gr) (p : Pol) (ks : List Int) (hg : GrOk g) (hp : zaY g.size p) (hk : ks.Nodup) (hr : ∀ k∈ks,0≤k∧k<g.size) (hs : p.seeds.length≤64) : zai Tryz.prog zbO [eG g,eP p,ints ks] [] (eN ⟨netN g,netA g p (zav ks)⟩) []:=by
 refine zj5.acalls (nbz rfl) (nbz rfl) (Nat.zero_le _) ?_
 show awp _ 0 _ _ ⟨18,[(0,eG g),(1,eP p),(2,ints ks)],[],16⟩
 have hsz:=hg.1.2.1
 have hr64 : ∀ k∈ks,0≤k∧k<64:=fun k h=>by have:=hr k h; omega
 have hlen:=zgL hk hr64
 have hJl:=zbr ks
 have hsort:=zfY ks (by omega)
 rw [zjW hk hr64,← hlen] at hsort
 have hnet:=zjO g p (zav ks) hg hp (zdb hr) hs hJl
 rw [← zfD hg,show zba g p (zaO g p) (zav ks)=netA g p (zav ks) from rfl] at hnet
 obtain ⟨J,hJ⟩ : ∃ J,J=zav ks:=⟨_,rfl⟩
 obtain ⟨A,hA⟩ : ∃ A,A=netA g p (zav ks):=⟨_,rfl⟩
 rw [← hA] at hnet ⊢
 rw [← hJ] at hnet hsort
 refine rx (s:=?s1) [2,3,4,6] [32] [16,24] rfl ?o1 ?q1
 case o1=>simp; rfl
 refine zaq ⟨18,[(6,.pt 32 0 0),(7,.pv (nC ⟨netN g,A⟩))],[(32,some ⟨2,[[.I 0,.nilS]],0⟩)],300⟩ rfl ?_ ?_
 ·simp
  refine za0 hsort (by simp) ?_
  simp
  refine zkE [64] (by simp) hnet (by simp [fcd,zal]) ?_
  simp
  exact ⟨rfl,LeH [(32,32)] [104]⟩
 refine zaa ⟨18,[(6,.pt 32 0 0)],[(32,some ⟨2,[nC ⟨netN g,A⟩],0⟩)],400⟩ rfl ?_ ?_
 ·simp [zar]
  exact LeH [(32,32)] []
 refine zag ?_
 exact ⟨.inr rfl,zak.out [] [32] rfl (by simp) (by simp) (by simp) (by simp)⟩
def zwg (N : Nat) (A : List Ed) (f : List Int) : Prop:=zaA N A f ∧ ∀ f',zaA N A f'→valF A f'≤valF A f
theorem zl7 (N : Nat) (A : List Ed) (k : Int) (hn : za5 ⟨N,A⟩) :
  ∃ f : List Int,zwg N A f∧zai Tryz.prog zcZ [eN ⟨N,A⟩,.I k] [] (.tup [.rs 0 0 A.length,.B (decide (valF A f=k))]) [some ⟨1,zah f,0⟩]:=by
 obtain ⟨f,hf,hmax⟩:=zsw N A hn
 refine ⟨f,hf,?_⟩
 have hfl:=hf.1.fit.len
 have hal:=hn.2.2.1
 simp only at hal
 have hval:=zh0 (f:=f) hn (by omega)
 rw [if_pos hf.1] at hval
 have htake : ∀ g : Int→List AV,List.take A.length (List.map g f)=List.map g f:=fun g=>List.take_of_length_le (by simp; omega)
 refine zmI.acalls (nbz rfl) (nbz rfl) (Nat.zero_le _) ?_
 show awp _ 0 _ _ ⟨19,[(0,eN ⟨N,A⟩),(1,.I k)],[],16⟩
 refine rx (s:=?s1) [1,2] [] [16] rfl ?o1 ?q1
 case o1=>simp; rfl
 refine zaa ⟨19,[(1,.I k),(2,.pv (nC ⟨N,A⟩)),(6,.rs 50 0 A.length)],[(50,some ⟨1,zah f,0⟩)],100⟩ rfl ?_ ?_
 ·simp
  refine za0 hmax (by simp) ?_
  simp
  exact LeI [(48,50)] []
 refine zaa ⟨19,[(4,.rs 50 0 A.length),(5,.B (decide (valF A f=k)))],[(50,some ⟨1,zah f,0⟩)],200⟩ rfl ?_ ?_
 ·simp
  refine zle [50] hval (by simp [fcd,htake,hfl]) (.sc _) ?_
  simp
  exact Le.go [(50,50)] [] rfl rfl (by simp <;> exact wkB (by rw [Bool.eq_iff_iff]; simp)) (by simp [fcd])
 refine zag ?_
 exact ⟨.inr rfl,zak.out [50] [] rfl (by simp) (by simp) (by simp) (by simp [fcd])⟩
def tkL {α : Type} (l : List α) (i : Nat) : List α:=l.take i
theorem zuI {α : Type} (l : List α) : tkL l 0=[]:=rfl
theorem zuH {α : Type} {l : List α} {i : Nat} (h : i<l.length) : tkL l (i+1)=tkL l i++[l[i]]:=List.take_succ_eq_append_getElem h
theorem zvs {α : Type} {l : List α} {i : Nat} (h : i≤l.length) : (tkL l i).length=i:=by unfold tkL; rw [List.length_take]; omega
theorem zu4 {α : Type} (l : List α) : tkL l l.length=l:=List.take_length
theorem zna (g : Gr) (p : Pol) : ∀ (n : Nat) (o : List Int),o.length=n→(refR g p o).length≤n
 | 0,o,h=>by
   obtain rfl:=List.eq_nil_of_length_eq_zero h
   exact Nat.le_refl _
 | n+1,o,h=>by
   have hne : o≠[]:=fun e=>by rw [e] at h; cases h
   rw [← List.dropLast_concat_getLast hne]
   have ih:=zna g p n o.dropLast (by rw [List.length_dropLast,h]; rfl)
   by_cases hc : zat g p (zav (accR g p o.dropLast++[o.getLast hne]))
   ·rw [zhZ hc]; omega
   ·rw [zk1 hc,List.length_append,List.length_singleton]; omega
theorem zoT (N : Nat) (A : List Ed) : (zfa N A).length≤N:=by
 unfold zfa
 exact Nat.le_trans (List.length_filter_le ..) (by simp)
set_option maxRecDepth 100000 in
set_option maxHeartbeats 8000000 in
theorem zo3 (g : Gr) (p : Pol) (hg : GrOk g) (hp : zaY g.size p) (hs : p.seeds.length≤64) (hN : g.size<20) :
  ∃ f : List Int,zcH g p (zav (accR g p (ordL (zam g p.lv) p.seeds))) f ∧
    zai Tryz.prog zes [eG g,eP p] [] (.tup [eAcc (accR g p (ordL (zam g p.lv) p.seeds)) f (refR g p (ordL (zam g p.lv) p.seeds)),.I 0]) []:=by
 have hsz:=hg.1.1
 have hsz2:=hg.1.2.1
 have hel:=hg.edges_le
 have hgl:=hg.gone_le
 have hchk:=zck g p (by omega) (by omega) (by omega) (by have:=hp.2.2.2.1; omega)
 rw [if_pos hg,if_pos hp] at hchk
 have hord:=zf4 g p hg hN (by omega)
 obtain ⟨o,ho⟩ : ∃ o,o=ordL (zam g p.lv) p.seeds:=⟨_,rfl⟩
 have hor : ∀ k∈o,0≤k∧k<g.size:=fun k hk=>by rw [ho] at hk; have h:=zb3 hk; exact h
 have hon : o.Nodup:=by rw [ho]; exact zbf _ _
 rw [← ho] at hord ⊢
 have hol : o.length≤64:=by
  have:=zbC (b:=(List.range g.size.toNat).map fun i : Nat=>(i : Int)) hon fun x hx=>by
   have:=hor x hx
   exact List.mem_map.2 ⟨x.toNat,List.mem_range.2 (by omega),by omega⟩
  simp at this
  omega
 have h64 : ∀ a : List Int,(∀ x∈a,0≤x∧x<g.size) → ∀ x∈a,0≤x∧x<64:=fun a h x hx=>by have:=h x hx; omega
 have hnv : ∀ a : List Int,(∀ x∈a,0≤x∧x<g.size)→za5 ⟨netN g,netA g p (zav a)⟩:=fun a h=>zfo hg hp (zgv (zdb h)) hs (zbr a)
 have hserve : ∀ a : List Int,a.Nodup→(∀ x∈a,0≤x∧x<g.size) → ∃ f,zcH g p (zav a) f∧zai Tryz.prog zcZ [eN ⟨netN g,netA g p (zav a)⟩,.I (a.length : Nat)] [] (.tup [.rs 0 0 (netA g p (zav a)).length,.B (@decide (zat g p (zav a)) (Classical.propDecidable _))]) [some ⟨1,zah f,0⟩]:=fun a h1 h2=>by
  obtain ⟨f,hf,hc⟩:=zl7 _ _ (a.length : Nat) (hnv a h2)
  have hmf:=zgi hf.1 hf.2
  refine ⟨f,⟨hf.1,hf.2,hmf.symm⟩,?_⟩
  have hjl:=zgL h1 (h64 a h2)
  have : decide (valF (netA g p (zav a)) f=(a.length : Nat)) = @decide (zat g p (zav a)) (Classical.propDecidable _):=by
   rw [decide_eq_decide]
   unfold zat
   rw [hmf,hjl]
  rw [this] at hc
  exact hc
 have haccn : ∀ i,(accR g p (o.take i)).Nodup:=fun i=>(hon.sublist ((zd7 _ _ rfl).trans (List.take_sublist _ _)))
 have haccr : ∀ i,∀ x∈accR g p (o.take i),0≤x∧x<g.size:=fun i x hx=>hor x (List.mem_of_mem_take (zea hx))
 obtain ⟨f,hf,hlast⟩:=hserve (accR g p o) (by have:=haccn o.length; rwa [List.take_length] at this) (by have:=haccr o.length; rwa [List.take_length] at this)
 refine ⟨f,hf,?_⟩
 have hnl:=zcg g p (accR g p o) hg hp (by have:=haccn o.length; rwa [List.take_length] at this) (by have:=haccr o.length; rwa [List.take_length] at this) hs
 have hlf:=hf.ok.fit.len
 refine zlq.acalls (nbz rfl) (nbz rfl) (Nat.zero_le _) ?_
 show awp _ 0 _ _ ⟨72,[(0,eG g),(1,eP p)],[],16⟩
 refine rx (s:=?s1) [2,3,4] [32] [16,24] rfl ?o1 ?q1
 case o1=>simp; rfl
 refine zab ?_
 refine rx (s:=?s2) [2,3,4,6] [32] [] rfl ?o2 ?q2
 case o2=>simp; refine zaj hchk (by simp) ?_; simp; rfl
 refine rx (s:=?s3) [2,3,4,18] [32] [] rfl ?o3 ?q3
 case o3=>simp; rfl
 refine zac _ rfl (fun h=>by cases h) fun _=>?_
 refine zae ?_
 refine zaa ⟨72,[(2,.pv (gC g)),(3,.pv (pC p)),(4,.pt 32 0 0),(7,.pt 40 0 0)],[(32,some ⟨3,[[.nilS,.nilS,.nilS]],0⟩),(40,some ⟨3,[[.nilS,.nilS,.nilS]],0⟩)],200⟩ rfl ?_ ?_
 ·simp
  exact LeH [(32,32),(96,40)] []
 refine zab ?_
 refine zaa ⟨72,[(2,.pv (gC g)),(3,.pv (pC p)),(4,.pt 32 0 0),(7,.pt 40 0 0),(23,ints o),(24,.I o.length),(25,.I 0)],[(32,some ⟨3,[[.nilS,.nilS,.nilS]],0⟩),(40,some ⟨3,[[.nilS,.nilS,.nilS]],0⟩)],400⟩ rfl ?_ ?_
 ·simp
  refine za0 hord (by simp) ?_
  simp
  exact Le.go [(32,32),(40,40)] [216] rfl rfl (by simp [fcd,zal]) (by simp)
 refine zaf ?_
 have hR0 : refR g p []=[]:=rfl
 refine zao (ι:=Nat) (fun i=>⟨72,[(2,.pv (gC g)),(3,.pv (pC p)),(4,.pt 32 0 0),(7,.pt 40 0 0),(23,ints o),(24,.I o.length),(25,.I i)],
   [(32,some ⟨3,[[.nilS,.nilS,.nilS]],0⟩),(40,some ⟨3,[[ints (accR g p (o.take i)),.nilS,.rs 42 0 (refR g p (o.take i)).length]],0⟩),(42,some ⟨2,zaG (refR g p (o.take i)),0⟩)],500⟩)
  (fun i=>i≤o.length) (fun i=>o.length - i) 0 (Nat.zero_le _)
  (Le.lst [(32,32),(40,40)] [] [(42,2)] rfl (by simp) (by simp) (by simp) (by simp) (by simp) (by simp) (by simp) (by simp [Up]) (by simp [zjV,hR0,fcd]; exact ⟨zaI.rfl' (by simp),zaI.row rfl (by omega) (by simp [UpL,Up,Wk.refl]; exact Wk.nil _ _)⟩)) ?_
 intro i hi
 have haN:=haccn i
 have haR:=haccr i
 have hal : (accR g p (o.take i)).length≤64:=Nat.le_trans (znx _) (Nat.le_trans (List.length_take_le' i o) hol)
 have hRl:=zna g p _ (o.take i) rfl
 have hRl2:=List.length_take_le' i o
 have hyes:=fun k=>zbV (g:=g) (p:=p) (o:=o.take i) (k:=k)
 have hno:=fun k=>zhw (g:=g) (p:=p) (o:=o.take i) (k:=k)
 have hryes:=fun k=>zhZ (g:=g) (p:=p) (o:=o.take i) (k:=k)
 have hrno:=fun k=>zk1 (g:=g) (p:=p) (o:=o.take i) (k:=k)
 have hmem : ∀ x∈accR g p (o.take i),x∈o.take i:=fun x hx=>zea hx
 obtain ⟨acc,hacc⟩ : ∃ acc,acc=accR g p (o.take i):=⟨_,rfl⟩
 obtain ⟨R,hR⟩ : ∃ R,R=refR g p (o.take i):=⟨_,rfl⟩
 rw [← hacc] at haN haR hal hmem hyes hno hryes hrno
 rw [← hR] at hRl hryes hrno
 rw [← hacc,← hR]
 refine zaa ⟨72,[(2,.pv (gC g)),(3,.pv (pC p)),(4,.pt 32 0 0),(7,.pt 40 0 0),(23,ints o),(24,.I o.length),(25,.I i),(26,.B (decide (i<o.length)))],
   [(32,some ⟨3,[[.nilS,.nilS,.nilS]],0⟩),(40,some ⟨3,[[ints acc,.nilS,.rs 42 0 R.length]],0⟩),(42,some ⟨2,zaG R,0⟩)],600⟩ rfl ?_ ?_
 ·simp
  exact LeI [(32,32),(40,40),(42,42)] []
 refine zab ?_
 refine zac _ rfl (fun h11=>?_) fun h11=>?_
 ·simp at h11
  have hw1 : IntKind.i64.wrap ((i : Int)+1)=(i : Int)+1:=w64 (by omega) (by omega)
  obtain ⟨k,hk⟩ : ∃ k,k=o[i]:=⟨_,rfl⟩
  have hkr:=hor _ (List.getElem_mem h11)
  rw [← hk] at hkr
  have hts : o.take (i+1)=o.take i++[k]:=by rw [List.take_succ_eq_append_getElem h11,hk]
  have hkacc : k∉acc:=fun h=>by
   have h2:=hmem k h
   obtain ⟨j,hj,hjk⟩:=List.mem_iff_getElem.1 h2
   rw [List.getElem_take] at hjk
   rw [List.length_take] at hj
   have:=(List.pairwise_iff_getElem.1 hon) j i (by omega) h11 (by omega)
   exact this (hjk.trans hk)
  have hks : ∀ x∈acc++[k],0≤x∧x<g.size:=fun x hx=>by
   rcases List.mem_append.1 hx with h | h
   ·exact haR x h
   ·rw [List.mem_singleton] at h; subst h; exact hkr
  have hkn : (acc++[k]).Nodup:=List.nodup_append.2 ⟨haN,by simp,fun a ha b hb=>by
   rw [List.mem_singleton] at hb
   subst hb
   rintro rfl
   exact hkacc ha⟩
  have hwith:=zg4 acc k (by omega)
  have hnet:=zcg g p (acc++[k]) hg hp hkn hks hs
  obtain ⟨fl,hfl,hsv⟩:=hserve (acc++[k]) hkn hks
  have hreach:=zlo _ _ fl (hnv _ hks) hfl.ok hfl.most
  have hflen:=hfl.ok.fit.len
  have hnl2:=zoT (netN g) (netA g p (zav (acc++[k])))
  have hyes:=hyes k
  have hno:=hno k
  have hryes:=hryes k
  have hrno:=hrno k
  rw [← hts] at hyes hno hryes hrno
  obtain ⟨A,hA⟩ : ∃ A,A=netA g p (zav (acc++[k])):=⟨_,rfl⟩
  obtain ⟨side,hside⟩ : ∃ side,side=zfa (netN g) A:=⟨_,rfl⟩
  rw [← hA] at hnet hsv hreach hflen hrno
  rw [← hside] at hreach hrno
  have htf : ∀ h : Int→List AV,List.take A.length (List.map h fl)=List.map h fl:=fun h=>List.take_of_length_le (by simp; omega)
  obtain ⟨W,hW⟩ : ∃ W,W=acc++[k]:=⟨_,rfl⟩
  have hWl : W.length=acc.length+1:=by rw [hW]; simp
  rw [← hW] at hwith hnet hsv hyes hno hryes hrno
  rw [← hWl] at hwith
  refine zae ?_
  refine zaL (ι:=Unit) (fun _=>⟨72,[(2,.pv (gC g)),(3,.pv (pC p)),(4,.pt 32 0 0),(7,.pt 40 0 0),(23,ints o),(24,.I o.length),(25,.I i)],
   [(32,some ⟨3,[[.nilS,.nilS,.nilS]],0⟩),(40,some ⟨3,[[ints (accR g p (o.take (i+1))),.nilS,.rs 42 0 (refR g p (o.take (i+1))).length]],0⟩),(42,some ⟨2,zaG (refR g p (o.take (i+1))),0⟩)],3000⟩) (fun _=>True) ?_ fun _ _=>?_
  ·refine zaf ?_
   refine zaa ⟨72,[(2,.pv (gC g)),(3,.pv (pC p)),(4,.pt 32 0 0),(7,.pt 40 0 0),(9,.I k),(23,ints o),(24,.I o.length),(25,.I i)],
    [(32,some ⟨3,[[.nilS,.nilS,.nilS]],0⟩),(40,some ⟨3,[[ints acc,.nilS,.rs 42 0 R.length]],0⟩),(42,some ⟨2,zaG R,0⟩)],700⟩ rfl ?_ ?_
   ·simp [h11,← hk]
    exact LeI [(32,32),(40,40),(42,42)] []
   refine zaa ⟨72,[(2,.pv (gC g)),(3,.pv (pC p)),(4,.pt 32 0 0),(7,.pt 40 0 0),(9,.I k),(10,ints W),(23,ints o),(24,.I o.length),(25,.I i)],
    [(32,some ⟨3,[[.nilS,.nilS,.nilS]],0⟩),(40,some ⟨3,[[ints acc,.nilS,.rs 42 0 R.length]],0⟩),(42,some ⟨2,zaG R,0⟩)],800⟩ rfl ?_ ?_
   ·simp
    refine za0 hwith (by simp) ?_
    simp
    exact Le.go [(32,32),(40,40),(42,42)] [724] rfl rfl (by simp [fcd,zal]) (by simp [fcd])
   refine zaa ⟨72,[(2,.pv (gC g)),(3,.pv (pC p)),(4,.pt 32 0 0),(7,.pt 40 0 0),(9,.I k),(10,ints W),(11,.pv (nC ⟨netN g,A⟩)),(23,ints o),(24,.I o.length),(25,.I i)],
    [(32,some ⟨3,[[.nilS,.nilS,.nilS]],0⟩),(40,some ⟨3,[[ints acc,.nilS,.rs 42 0 R.length]],0⟩),(42,some ⟨2,zaG R,0⟩)],900⟩ rfl ?_ ?_
   ·simp
    refine zaj hnet (by simp) ?_
    simp
    exact LeI [(32,32),(40,40),(42,42)] [832]
   refine zaa ⟨72,[(2,.pv (gC g)),(3,.pv (pC p)),(4,.pt 32 0 0),(7,.pt 40 0 0),(9,.I k),(10,ints W),(11,.pv (nC ⟨netN g,A⟩)),(12,.rs 43 0 A.length),(13,.B (@decide (zat g p (zav W)) (Classical.propDecidable _))),(23,ints o),(24,.I o.length),(25,.I i)],
    [(32,some ⟨3,[[.nilS,.nilS,.nilS]],0⟩),(40,some ⟨3,[[ints acc,.nilS,.rs 42 0 R.length]],0⟩),(42,some ⟨2,zaG R,0⟩),(43,some ⟨1,zah fl,0⟩)],1000⟩ rfl ?_ ?_
   ·simp
    refine za0 hsv (by simp) ?_
    simp
    exact LeI [(32,32),(40,40),(42,42),(924,43)] []
   refine zab ?_
   refine zaa ⟨72,[(2,.pv (gC g)),(3,.pv (pC p)),(4,.pt 32 0 0),(7,.pt 40 0 0),(9,.I k),(10,ints W),(11,.pv (nC ⟨netN g,A⟩)),(12,.rs 43 0 A.length),(44,.B (@decide (zat g p (zav W)) (Classical.propDecidable _))),(23,ints o),(24,.I o.length),(25,.I i)],
    [(32,some ⟨3,[[.nilS,.nilS,.nilS]],0⟩),(40,some ⟨3,[[ints acc,.nilS,.rs 42 0 R.length]],0⟩),(42,some ⟨2,zaG R,0⟩),(43,some ⟨1,zah fl,0⟩)],1100⟩ rfl ?_ ?_
   ·simp
    exact LeI [(32,32),(40,40),(42,42),(43,43)] []
   refine zac _ rfl (fun h15=>?_) fun h15=>?_
   ·have h15' : zat g p (zav W):=@of_decide_eq_true _ (Classical.propDecidable _) h15
    have hy:=hyes h15'
    have hry:=hryes h15'
    refine zaa ⟨72,[(2,.pv (gC g)),(3,.pv (pC p)),(4,.pt 32 0 0),(7,.pt 40 0 0),(23,ints o),(24,.I o.length),(25,.I i)],
     [(32,some ⟨3,[[.nilS,.nilS,.nilS]],0⟩),(40,some ⟨3,[[ints W,.nilS,.rs 42 0 R.length]],0⟩),(42,some ⟨2,zaG R,0⟩)],1200⟩ rfl ?_ ?_
    ·simp [zar]
     exact LeI [(32,32),(40,40),(42,42)] []
    refine zan ?_
    refine hit ?_
    exact ⟨(),trivial,Le.go [(32,32),(40,40),(42,42)] [] rfl rfl (by simp) (by simp [hy,hry,fcd])⟩
   ·have h15' : ¬ zat g p (zav W):=@of_decide_eq_false _ (Classical.propDecidable _) h15
    have hn':=hno h15'
    have hrn:=hrno h15'
    have htR : ∀ h : Int × List Int→List AV,List.take R.length (List.map h R)=List.map h R:=fun h=>List.take_of_length_le (by simp)
    refine zae ?_
    refine zbF rfl ?_
    simp
    refine zbH (i:=43) rfl (by simp [fcd]) hreach (by simp) (by simp) ?_
    simp [htR,zar]
    exact ⟨by omega,by omega,rfl,Le.go [(32,32),(40,40),(1164,42)] [1140] rfl rfl (by simp) (by simp [hn',hrn,fcd,zal])⟩
  refine zas rfl ?_
  simp [hw1]
  exact ⟨i+1,by omega,by omega,Le.go [(32,32),(40,40),(42,42)] [] rfl rfl (by simp [hw1]) (by simp [fcd])⟩
 simp at h11
 obtain rfl : i=o.length:=by omega
 rw [List.take_length] at hacc hR
 rw [← hacc] at hlast hnl hlf
 have hl1 : ((acc.length : Nat) : Int)=acc.length:=rfl
 obtain ⟨A,hA⟩ : ∃ A,A=netA g p (zav acc):=⟨_,rfl⟩
 rw [← hA] at hnl hlast hlf
 have htf : ∀ h : Int→List AV,List.take A.length (List.map h f)=List.map h f:=fun h=>List.take_of_length_le (by simp; omega)
 refine zan ?_
 refine hit ?_
 refine zaq ⟨72,[(4,.pt 32 0 0),(7,.pt 40 0 0)],
   [(32,some ⟨3,[[.nilS,.nilS,.nilS]],0⟩),(40,some ⟨3,[[ints acc,ints f,.vs 2 false (zaG R)]],0⟩)],1200⟩ rfl ?_ ?_
 ·simp
  refine zaj hnl (by simp) ?_
  simp
  refine za0 hlast (by simp) ?_
  simp [zar]
  exact ⟨rfl,Le.go [(32,32),(40,40)] [42,664] rfl rfl (by simp) (by simp [fcd,zal,htf,hlf])⟩
 refine zaa ⟨72,[(4,.pt 32 0 0),(5,.I 0)],[(32,some ⟨3,[[ints acc,ints f,.vs 2 false (zaG R)]],0⟩)],1400⟩ rfl ?_ ?_
 ·simp [zar]
  exact LeI [(32,32)] []
 refine zag ?_
 rw [← hacc,← hR]
 exact ⟨.inr rfl,zak.out [] [32] rfl (by simp) (by simp) (by simp) (by simp)⟩
section
variable {P : Program} {np id : Nat} {h : Nat→Option Ent} {K : AV→List Nat→List (Nat × Option Ent)→Prop} {f : FuncId} {first capt args args' : List AV} {res : AV}
end
theorem zwJ (L : List Int) (hl : L.length≤400) : ∃ (g : Gr) (b : Nat),(GrOk g∧2≤g.size∧g.size≤9∧b≤L.length)∧zai Tryz.prog zcA [.pt 0 0 0] [dice L 0] (eG g) [some (dice L b)] :=
 have h:=zpS L 0 (Nat.zero_le _)
 ⟨_,_,⟨h.ok,h.lo,h.hi,h.at_⟩,zuK L 0 hl (Nat.zero_le _)⟩
variable {g : Gr} {p : Pol}
theorem Rise.pair {l : List Int} {lo hi : Int} (h : Rise l lo hi) : l.Pairwise (· < ·):=by
 have hlt : ∀ (j i : Nat) (hj : j<l.length) (hij : i<j),l[i]<l[j]:=by
  intro j
  induction j with
  | zero=>intro i _ hij; omega
  | succ j ih =>
    intro i hj hij
    have h1:=(h (j+1) hj).2.2 (by omega)
    simp only [Nat.add_sub_cancel] at h1
    rcases Nat.lt_or_ge i j with h2 | h2
    ·have:=ih i (by omega) h2
     omega
    ·have : i=j:=by omega
     subst this
     exact h1
 exact List.pairwise_iff_getElem.2 fun i j hi hj hij=>hlt j i hj hij
def za2 : List Int→List Int→List Int→Bool
 | [],a,r=>a.isEmpty && r.isEmpty
 | x::o,a,r=>if a.head? = some x then za2 o a.tail r else if r.head? = some x then za2 o a r.tail else false
def zbP : Nat→List Int→List Int→List Int→List Nat
 | _,[],_,_=>[]
 | c,x::o,a,r=>if a.head? = some x then zbP (c+1) o a.tail r else if r.head? = some x then c::zbP c o a r.tail else []
theorem zfb : ∀ {o a r : List Int},za2 o a r=true→a.Sublist o∧r.Sublist o
 | [],a,r,h=>by
   simp [za2] at h
   rw [h.1,h.2]
   exact ⟨List.nil_sublist _,List.nil_sublist _⟩
 | x::o,a,r,h=>by
   simp only [za2] at h
   split at h
   ·rename_i h1
    obtain ⟨h2,h3⟩:=zfb h
    cases a with
    | nil=>cases h1
    | cons y a =>
      have : y=x:=by simpa using h1
      subst this
      exact ⟨h2.cons_cons _,h3.cons _⟩
   ·split at h
    ·rename_i h1
     obtain ⟨h2,h3⟩:=zfb h
     cases r with
     | nil=>cases h1
     | cons y r =>
       have : y=x:=by simpa using h1
       subst this
       exact ⟨h2.cons _,h3.cons_cons _⟩
    ·cases h
theorem zkS : ∀ {o a r : List Int},za2 o a r=true → ∀ x∈o,x∈a∨x∈r
 | [],a,r,_,x,hx=>by simp at hx
 | x::o,a,r,h,y,hy=>by
   simp only [za2] at h
   split at h
   ·rename_i h1
    cases a with
    | nil=>cases h1
    | cons z a =>
      have : z=x:=by simpa using h1
      subst this
      rcases List.mem_cons.1 hy with rfl | hy
      ·exact .inl (by simp)
      ·rcases zkS h y hy with h2 | h2
       ·exact .inl (List.mem_cons_of_mem _ h2)
       ·exact .inr h2
   ·split at h
    ·rename_i h1
     cases r with
     | nil=>cases h1
     | cons z r =>
       have : z=x:=by simpa using h1
       subst this
       rcases List.mem_cons.1 hy with rfl | hy
       ·exact .inr (by simp)
       ·rcases zkS h y hy with h2 | h2
        ·exact .inl h2
        ·exact .inr (List.mem_cons_of_mem _ h2)
    ·cases h
theorem zka : ∀ {o a r : List Int},za2 o a r=true→o.length=a.length+r.length
 | [],a,r,h=>by
   simp [za2] at h
   rw [h.1,h.2]
   rfl
 | x::o,a,r,h=>by
   simp only [za2] at h
   split at h
   ·rename_i h1
    cases a with
    | nil=>cases h1
    | cons z a =>
      have:=zka h
      simp at this ⊢
      omega
   ·split at h
    ·rename_i h1
     cases r with
     | nil=>cases h1
     | cons z r =>
       have:=zka h
       simp at this ⊢
       omega
    ·cases h
theorem zgS : ∀ {o a r : List Int} {c : Nat},za2 o a r=true→(zbP c o a r).length=r.length
 | [],a,r,c,h=>by
   simp [za2] at h
   rw [h.2]
   rfl
 | x::o,a,r,c,h=>by
   simp only [za2] at h
   simp only [zbP]
   split at h
   ·rename_i h1
    rw [if_pos h1]
    exact zgS h
   ·rename_i h1
    rw [if_neg h1]
    split at h
    ·rename_i h2
     rw [if_pos h2,List.length_cons,zgS h]
     cases r with
     | nil=>cases h2
     | cons y r=>rfl
    ·cases h
theorem zil : ∀ {o a r : List Int} {c m : Nat},m∈zbP c o a r→c≤m∧m≤c+a.length
 | [],a,r,c,m,h=>by simp [zbP] at h
 | x::o,a,r,c,m,h=>by
   simp only [zbP] at h
   split at h
   ·rename_i h1
    have:=zil h
    cases a with
    | nil=>cases h1
    | cons y a=>simp at this ⊢; omega
   ·split at h
    ·rcases List.mem_cons.1 h with rfl | h
     ·omega
     ·exact zil h
    ·simp at h
theorem zkg : ∀ {o a r : List Int} {k : Int},za2 o a r=true→k∉o→za2 (o++[k]) (a++[k]) r=true
 | [],a,r,k,h,_=>by
   simp [za2] at h
   rw [h.1,h.2]
   simp [za2]
 | x::o,a,r,k,h,hk=>by
   have hkx : k≠x:=fun e=>hk (by simp [e])
   have hko : k∉o:=fun e=>hk (List.mem_cons_of_mem _ e)
   simp only [za2] at h
   simp only [List.cons_append,za2]
   split at h
   ·rename_i h1
    cases a with
    | nil=>cases h1
    | cons y a =>
      have : y=x:=by simpa using h1
      subst this
      simpa using zkg h hko
   ·rename_i h1
    split at h
    ·rename_i h2
     have h3 : (a++[k]).head? ≠ some x:=by
      cases a with
      | nil=>simpa using hkx
      | cons y a=>simpa using h1
     rw [if_neg h3,if_pos h2]
     exact zkg h hko
    ·cases h
theorem zlb : ∀ {o a r : List Int} {k : Int},za2 o a r=true→k∉o→za2 (o++[k]) a (r++[k])=true
 | [],a,r,k,h,_=>by
   simp [za2] at h
   rw [h.1,h.2]
   simp [za2]
 | x::o,a,r,k,h,hk=>by
   have hkx : k≠x:=fun e=>hk (by simp [e])
   have hko : k∉o:=fun e=>hk (List.mem_cons_of_mem _ e)
   simp only [za2] at h
   simp only [List.cons_append,za2]
   split at h
   ·rename_i h1
    rw [if_pos h1]
    exact zlb h hko
   ·rename_i h1
    rw [if_neg h1]
    split at h
    ·rename_i h2
     cases r with
     | nil=>cases h2
     | cons y r =>
       have : y=x:=by simpa using h2
       subst this
       simpa using zlb h hko
    ·cases h
def zgn (g : Gr) (p : Pol) (b : List Int) (r : Int × List Int) : Prop:=zc9 ⟨netN g,netA g p (zav (b++[r.1]))⟩ r.2 b.length
def zde (g : Gr) (p : Pol) : List Int→List Int→List Int→List (Int × List Int)→Prop
 | _,[],_,_=>True
 | b,x::o,a,R=>if a.head? = some x then zde g p (b++[x]) o a.tail R else match R with
   | []=>True
   | r::R=>zgn g p b r∧zde g p b o a R
def zaS (R : List (Int × List Int)) : List Int:=R.map (·.1)
theorem zlg {g : Gr} {p : Pol} : ∀ {o b a : List Int} {R : List (Int × List Int)},za2 o a (zaS R)=true →
  (zde g p b o a R ↔ ∀ i (h : i<R.length),zgn g p (b++a.take ((zbP b.length o a (zaS R)).getD i 0 - b.length)) R[i])
 | [],b,a,R,h=>by
   simp [za2,zaS] at h
   obtain ⟨_,rfl⟩:=h
   simp [zde]
 | x::o,b,a,R,h=>by
   simp only [za2] at h
   simp only [zde,zbP]
   split at h
   ·rename_i h1
    rw [if_pos h1,if_pos h1]
    have ih:=zlg (g:=g) (p:=p) (b:=b++[x]) h
    rw [List.length_append,List.length_singleton] at ih
    rw [ih]
    cases a with
    | nil=>cases h1
    | cons y a =>
      have : y=x:=by simpa using h1
      subst this
      simp only [List.tail_cons] at h ih ⊢
      have key : ∀ i (hi : i<R.length),b++[y]++a.take ((zbP (b.length+1) o a (zaS R)).getD i 0 - (b.length+1))=b++(y::a).take ((zbP (b.length+1) o a (zaS R)).getD i 0 - b.length):=fun i hi=>by
       have hl : i<(zbP (b.length+1) o a (zaS R)).length:=by
        rw [zgS h,zaS,List.length_map]
        exact hi
       have hm:=zil (List.getElem_mem hl)
       have e : (zbP (b.length+1) o a (zaS R)).getD i 0=(zbP (b.length+1) o a (zaS R))[i]:=by rw [List.getD_eq_getElem?_getD,List.getElem?_eq_getElem hl,Option.getD_some]
       rw [e]
       obtain ⟨q,hq⟩ : ∃ q,(zbP (b.length+1) o a (zaS R))[i]=b.length+1+q:=⟨_,(Nat.add_sub_cancel' hm.1).symm⟩
       rw [hq,show b.length+1+q - (b.length+1)=q by omega,show b.length+1+q - b.length=q+1 by omega,List.take_succ_cons,List.append_assoc]
       rfl
      constructor
      ·intro h2 i hi
       rw [← key i hi]
       exact h2 i hi
      ·intro h2 i hi
       have:=h2 i hi
       rw [← key i hi] at this
       exact this
   ·rename_i h1
    rw [if_neg h1,if_neg h1]
    split at h
    ·rename_i h2
     cases R with
     | nil=>cases h2
     | cons r R =>
       rw [if_pos h2]
       have ih:=zlg (g:=g) (p:=p) (b:=b) (R:=R) h
       simp only
       rw [ih]
       constructor
       ·rintro ⟨h3,h4⟩ i hi
        cases i with
        | zero=>simpa using h3
        | succ i=>exact h4 i (by simpa using hi)
       ·intro h3
        refine ⟨by
         have h4:=h3 0 (Nat.zero_lt_succ _)
         simp only [List.getD_cons_zero,Nat.sub_self,List.take_zero,List.append_nil] at h4
         exact h4,fun i hi=>h3 (i+1) (by simpa using hi)⟩
    ·cases h
open Classical in
noncomputable def zf8 (g : Gr) (p : Pol) (acc flow : List Int) (R : List (Int × List Int)) : Int :=
 if za2 (ordL (zam g p.lv) p.seeds) acc (zaS R)=true then
  if zaA (netN g) (netA g p (zav acc)) flow∧valF (netA g p (zav acc)) flow=acc.length then
   if zde g p [] (ordL (zam g p.lv) p.seeds) acc R then 0 else 18
  else 17
 else 1
theorem zsp {N : Nat} {A : List Ed} (hn : za5 ⟨N,A⟩) : zct ⟨N,A⟩ (zfa N A)∧cutV A (zfa N A)=maxF N A:=by
 have hno:=zeE hn
 obtain ⟨f,hf,hm⟩:=zfG hno
 obtain ⟨D,b,hb,hc⟩:=Bfs.grow hno N [0] _ (Bfs.start (f:=f) (by have:=hno.two; omega)) (by omega)
 have h1:=zp7 hno hf hm hb
 have hmf:=zgi hf hm
 have he : inD D N=zfa N A:=zmY hno hf hm hb.tree hb.mem0 h1 hc
 have hgr:=(zgI hno hf hb.mem0 h1 hc).1
 have hmD : ∀ x,x∈inD D N↔x∈D:=fun x=>by
  rw [znE]
  exact ⟨fun h=>h.2,fun h=>⟨hb.rng x h,h⟩⟩
 rw [← he]
 refine ⟨⟨hn,zgp (zrc D N) fun k hk=>by have:=(znE.1 hk).1; simp only; omega,(hmD 0).2 hb.mem0,fun h=>h1 ((hmD 1).1 h)⟩,?_⟩
 rw [zkk,hmf,hgr]
 congr 1
 funext x
 exact decide_eq_decide.2 (hmD x)
section
variable {g : Gr} {p : Pol}
theorem zkt : ∀ {o b a : List Int} {R : List (Int × List Int)} {k : Int},za2 o a (zaS R)=true→k∉o→zde g p b o a R→zde g p b (o++[k]) (a++[k]) R
 | [],b,a,R,k,h,_,_=>by
   simp [za2,zaS] at h
   obtain ⟨rfl,rfl⟩:=h
   simp [zde]
 | x::o,b,a,R,k,h,hk,hc=>by
   have hkx : k≠x:=fun e=>hk (by simp [e])
   have hko : k∉o:=fun e=>hk (List.mem_cons_of_mem _ e)
   simp only [za2] at h
   simp only [zde] at hc
   simp only [List.cons_append,zde]
   split at h
   ·rename_i h1
    rw [if_pos h1] at hc
    cases a with
    | nil=>cases h1
    | cons y a =>
      have : y=x:=by simpa using h1
      subst this
      simpa using zkt h hko hc
   ·rename_i h1
    rw [if_neg h1] at hc
    have h3 : (a++[k]).head? ≠ some x:=by
     cases a with
     | nil=>simpa using hkx
     | cons y a=>simpa using h1
    rw [if_neg h3]
    split at h
    ·cases R with
     | nil=>trivial
     | cons r R=>exact ⟨hc.1,zkt h hko hc.2⟩
    ·cases h
theorem zlk : ∀ {o b a : List Int} {R : List (Int × List Int)} {r : Int × List Int},za2 o a (zaS R)=true→r.1∉o→zgn g p (b++a) r→zde g p b o a R→zde g p b (o++[r.1]) a (R++[r])
 | [],b,a,R,r,h,_,hr,_=>by
   simp [za2,zaS] at h
   obtain ⟨rfl,rfl⟩:=h
   rw [List.append_nil] at hr
   simp [zde,hr]
 | x::o,b,a,R,r,h,hk,hr,hc=>by
   have hko : r.1∉o:=fun e=>hk (List.mem_cons_of_mem _ e)
   simp only [za2] at h
   simp only [zde] at hc
   simp only [List.cons_append,zde]
   split at h
   ·rename_i h1
    rw [if_pos h1] at hc
    rw [if_pos h1]
    cases a with
    | nil=>cases h1
    | cons y a =>
      have : y=x:=by simpa using h1
      subst this
      exact zlk h hko (by simpa using hr) hc
   ·rename_i h1
    rw [if_neg h1] at hc
    rw [if_neg h1]
    split at h
    ·rename_i h2
     cases R with
     | nil=>cases h2
     | cons q R=>exact ⟨hc.1,zlk h hko hr hc.2⟩
    ·cases h
theorem zrT (hg : GrOk g) (hp : zaY g.size p) {a : List Int} (h : ∀ x∈a,x∈ordL (zam g p.lv) p.seeds) : zcm g p a:=by
 refine ⟨fun x hx=>?_,fun x hx=>?_⟩
 ·have h2:=zb3 (h x hx)
  exact h2
 ·have h2:=(zm5 (hg.level p.lv)).1 (h x hx)
  exact (ziM hp h2.1.1).2 ⟨h2.1.2,h2.2⟩
theorem zcm.join {a : List Int} (h : zcm g p a) : zcm g p (zav a):=h.sub fun _ hx=>(zc3.1 hx).1
theorem ztw (hg : GrOk g) (hp : zaY g.size p) (hs : p.seeds.length≤64) : ∀ (n : Nat) (o : List Int),o.length=n→o.Nodup→zcm g p o →
  zat g p (zav (accR g p o))∧za2 o (accR g p o) (zaS (refR g p o))=true∧zde g p [] o (accR g p o) (refR g p o)
 | 0,o,h,_,_=>by
   obtain rfl:=List.eq_nil_of_length_eq_zero h
   exact ⟨zat.nil hg hp,rfl,trivial⟩
 | n+1,o,h,hon,hok=>by
   have hne : o≠[]:=fun e=>by rw [e] at h; cases h
   obtain ⟨q,hq⟩ : ∃ q,q=o.dropLast:=⟨_,rfl⟩
   obtain ⟨k,hk⟩ : ∃ k,k=o.getLast hne:=⟨_,rfl⟩
   have ho : o=q++[k]:=by rw [hq,hk]; exact (List.dropLast_concat_getLast hne).symm
   have hql : q.length=n:=by rw [hq,List.length_dropLast,h]; rfl
   rw [ho] at hon hok ⊢
   have hqn : q.Nodup:=(List.nodup_append.1 hon).1
   have hkq : k∉q:=fun hm=>(List.nodup_append.1 hon).2.2 k hm k (by simp) rfl
   have hqok : zcm g p q:=hok.sub fun x hx=>List.mem_append_left _ hx
   obtain ⟨ih1,ih2,ih3⟩:=ztw hg hp hs n q hql hqn hqok
   by_cases hc : zat g p (zav (accR g p q++[k]))
   ·rw [zbV hc,zhZ hc]
    exact ⟨hc,zkg ih2 hkq,zkt ih2 hkq ih3⟩
   ·rw [zhw hc,zk1 hc]
    have hsz2:=hg.1.2.1
    have hrng : ∀ x∈accR g p q++[k],0≤x∧x<g.size:=fun x hx=>hok.rng x (by
     rcases List.mem_append.1 hx with h2 | h2
     ·exact List.mem_append_left _ (zea h2)
     ·exact List.mem_append_right _ h2)
    have hnd : (accR g p q++[k]).Nodup:=List.nodup_append.2 ⟨hqn.sublist (zd7 _ _ rfl),by simp,fun a ha b hb=>by
     rw [List.mem_singleton] at hb
     subst hb
     rintro rfl
     exact hkq (zea ha)⟩
    have hjl:=zgL hnd fun x hx=>by have:=hrng x hx; omega
    have hnv:=zfo hg hp (zgv (zdb hrng)) hs (zbr (accR g p q++[k]))
    have hside:=zsp hnv
    have hfew:=zib (p:=p) (ks:=zav (accR g p q++[k])) hg hp (zgv (zdb hrng))
    have hcut : zgn g p (accR g p q) (k,zfa (netN g) (netA g p (zav (accR g p q++[k])))):=by
     refine ⟨hside.1,?_⟩
     simp only
     rw [hside.2]
     have : maxF (netN g) (netA g p (zav (accR g p q++[k])))≠(zav (accR g p q++[k])).length:=hc
     rw [hjl,List.length_append,List.length_singleton] at this hfew
     omega
    refine ⟨ih1,?_,?_⟩
    ·have:=zlb (r:=zaS (refR g p q)) ih2 hkq
     simpa [zaS] using this
    ·exact zlk (r:=(k,zfa (netN g) (netA g p (zav (accR g p q++[k]))))) ih2 hkq (by rw [List.nil_append]; exact hcut) ih3
theorem zmj (hg : GrOk g) (hp : zaY g.size p) : zcm g p (ordL (zam g p.lv) p.seeds):=zrT hg hp fun _ h=>h
theorem zog (hg : GrOk g) (hp : zaY g.size p) (hs : p.seeds.length≤64) {f : List Int} (hf : zcH g p (zav (accR g p (ordL (zam g p.lv) p.seeds))) f) :
  zf8 g p (accR g p (ordL (zam g p.lv) p.seeds)) f (refR g p (ordL (zam g p.lv) p.seeds))=0:=by
 have hon:=zbf (zam g p.lv) p.seeds
 obtain ⟨h1,h2,h3⟩:=ztw hg hp hs _ _ rfl hon (zmj hg hp)
 have hsz2:=hg.1.2.1
 have hjl:=zgL (hon.sublist (zd7 (g:=g) (p:=p) _ _ rfl)) fun x hx=>by
  have:=(zmj hg hp).rng x (zea hx)
  omega
 unfold zf8
 rw [if_pos h2,if_pos ⟨hf.ok,by rw [hf.val,← hjl]; exact h1⟩,if_pos h3]
end
def gF : Gr:=⟨3,[⟨0,1,1⟩,⟨0,2,1⟩],[]⟩
theorem zmW : GrOk gF:=by
 refine ⟨⟨by decide +revert,by decide +revert,by decide +revert,fun i h=>by simp [gF] at h⟩,fun i h=>?_⟩
 have : i=0∨i=1:=by simp [gF] at h; omega
 rcases this with rfl | rfl
 ·exact ⟨by unfold Fits; simp [gF],by decide +revert,by decide +revert,fun h=>by cases h⟩
 ·exact ⟨by unfold Fits; simp [gF],by decide +revert,by decide +revert,fun h=>by decide +revert⟩
theorem zqa {N : Nat} {A : List Ed} {f : List Int} (h : (decide (f.length=A.length) && ((List.range A.length).all fun i=>decide (0≤f.getD i 0∧f.getD i 0≤(arcD A i).v)) && ((List.range N).all fun x=>decide (x<2∨exF A f x=0)))=true) : zaA N A f:=by
 simp only [Bool.and_eq_true,decide_eq_true_eq,List.all_eq_true,List.mem_range] at h
 exact zcP.2 ⟨h.1.1,fun i hi=>h.1.2 i hi,fun x h1 h2=>(h.2 x h2).resolve_left (by omega)⟩
variable {g : Gr} {p : Pol}
theorem h64 (hg : GrOk g) {a : List Int} (h : ∀ x∈a,0≤x∧x<g.size) : ∀ x∈a,0≤x∧x<64:=fun x hx=>by
 have:=h x hx
 have:=hg.1.2.1
 omega
variable {g : Gr} {p : Pol}
variable {g : Gr} {p : Pol}
theorem ForR.uniq {key : Int} {x y : Expl} (hg : GrOk g) (hx : ForR g p (ordL (zam g p.lv) p.seeds) key x) (hy : ForR g p (ordL (zam g p.lv) p.seeds) key y) :
  x.key=y.key∧x.acc=y.acc∧x.before=y.before∧x.side=y.side∧x.paths.length=y.paths.length:=by
 obtain ⟨hx1,hx2,i,hi,hik,hib⟩:=hx.at_ hg
 obtain ⟨hy1,hy2,j,hj,hjk,hjb⟩:=hy.at_ hg
 have hij : i=j:=(List.getElem_inj (zbf (zam g p.lv) p.seeds)).1 (hik.trans hjk.symm)
 subst hij
 have hb : x.before=y.before:=hib.trans hjb.symm
 refine ⟨hx1.trans hy1.symm,?_⟩
 by_cases hacc : key∈accR g p (ordL (zam g p.lv) p.seeds)
 ·obtain ⟨x1,x2,W,⟨f,g',_,_,hl,_⟩,x3⟩:=hx.yes hacc
  obtain ⟨y1,y2,V,⟨f',g'',_,_,hl',_⟩,y3⟩:=hy.yes hacc
  refine ⟨x1.trans y1.symm,hb,x2.trans y2.symm,?_⟩
  rw [x3,y3,List.length_map,List.length_map]
  rw [hb] at hl
  omega
 ·obtain ⟨x1,x2,R,hR,hs⟩:=hx.no hacc
  obtain ⟨y1,y2,R',hR',hs'⟩:=hy.no hacc
  refine ⟨x1.trans y1.symm,hb,?_,by rw [x2,y2]⟩
  obtain ⟨a,ha,hak,hn⟩:=hR.right _ hs
  obtain ⟨b,hb',hbk,hn'⟩:=hR'.right _ hs'
  simp only at hak hbk hn hn'
  have h1 : a=i:=(List.getElem_inj (zbf (zam g p.lv) p.seeds)).1 (hak.trans hik.symm)
  have h2 : b=i:=(List.getElem_inj (zbf (zam g p.lv) p.seeds)).1 (hbk.trans hik.symm)
  subst h1
  subst h2
  rw [hn.eq,hn'.eq]
def g1 : Gr:=⟨1,[],[]⟩
def p1 : Pol:=⟨[0],[2],1⟩
section
variable {P : Program} {np id : Nat} {h : Nat→Option Ent} {K : AV→List Nat→List (Nat × Option Ent)→Prop} {f : FuncId} {first capt args args' : List AV} {res : AV}
end
open Classical in
noncomputable def chkE (g : Gr) (p : Pol) : Int:=if GrOk g then if zaY g.size p then 0 else 15 else 14
theorem zpq {g : Gr} {p : Pol} : chkE g p=0↔GrOk g∧zaY g.size p:=by
 unfold chkE
 by_cases h1 : GrOk g
 ·by_cases h2 : zaY g.size p
  ·simp [h1,h2]
  ·simp [h1,h2]
 ·simp [h1]
theorem zjk (g : Gr) (p : Pol) (hl : g.edges.length≤140737488355328) (hl2 : g.gone.length≤140737488355328) (hs : p.seeds.length≤140737488355328) (ht : p.table.length≤140737488355328) :
  zai Tryz.prog zbN [eG g,eP p] [] (.I (chkE g p)) []:=zck g p hl hl2 hs ht
theorem zot (g : Gr) (p : Pol) (hl : g.edges.length≤140737488355328) (hl2 : g.gone.length≤140737488355328) (hs : p.seeds.length≤140737488355328) (ht : p.table.length≤140737488355328) :
  zai Tryz.prog zcQ [eG g,eP p] [] (.I (chkE g p)) []:=zdy g p hl hl2 hs ht
variable {g : Gr} {p : Pol}
theorem zlv (he : chkE g p≠0) (hl : g.edges.length≤140737488355328) (hl2 : g.gone.length≤140737488355328) (hs : p.seeds.length≤140737488355328) (ht : p.table.length≤140737488355328) :
  zai Tryz.prog zes [eG g,eP p] [] (.tup [eAcc [] [] [],.I (chkE g p)]) []:=by
 refine zlq.acalls (nbz rfl) (nbz rfl) (Nat.zero_le _) ?_
 show awp _ 0 _ _ ⟨72,[(0,eG g),(1,eP p)],[],16⟩
 have hchk:=zjk g p hl hl2 hs ht
 obtain ⟨e,hed⟩ : ∃ e,e=chkE g p:=⟨_,rfl⟩
 rw [← hed] at he hchk ⊢
 have he' : (e != 0)=true:=by simp [he]
 refine zaa ⟨72,[(2,.pv (gC g)),(3,.pv (pC p)),(4,.pt 32 0 0)],[(32,some ⟨3,[[.nilS,.nilS,.nilS]],0⟩)],100⟩ rfl ?_ ?_
 ·simp
  exact LeH [(32,32)] [16,24]
 refine zab ?_
 refine zaa ⟨72,[(2,.pv (gC g)),(3,.pv (pC p)),(4,.pt 32 0 0),(6,.I e)],[(32,some ⟨3,[[.nilS,.nilS,.nilS]],0⟩)],200⟩ rfl ?_ ?_
 ·simp
  refine zaj hchk (by simp) ?_
  simp
  exact LeH [(32,32)] []
 refine zaa ⟨72,[(4,.pt 32 0 0),(6,.I e),(18,.B true)],[(32,some ⟨3,[[.nilS,.nilS,.nilS]],0⟩)],300⟩ rfl ?_ ?_
 ·simp
  exact Le.go [(32,32)] [] rfl rfl (by simp [he']) (by simp)
 refine zac _ rfl (fun _=>?_) fun h=>by cases h
 refine zaa ⟨72,[(4,.pt 32 0 0),(5,.I e)],[(32,some ⟨3,[[.nilS,.nilS,.nilS]],0⟩)],400⟩ rfl ?_ ?_
 ·simp [zar]
  exact LeH [(32,32)] []
 refine zag ?_
 exact ⟨.inr rfl,zak.out [] [] rfl (by simp) (by simp) (by simp; exact wkT2 (wkA3 (.nil _ _) (.nil _ _) (.nil _ _)) (.refl _)) (by simp)⟩
theorem znh (he : chkE g p≠0) (hl : g.edges.length≤140737488355328) (hl2 : g.gone.length≤140737488355328) (hs : p.seeds.length≤140737488355328) (ht : p.table.length≤140737488355328) :
  zai Tryz.prog zef [eG g,eP p] [] (.tup [eAcc [] [] [],.I (chkE g p)]) []:=by
 refine zmg.acalls (nbz rfl) (nbz rfl) (Nat.zero_le _) ?_
 show awp _ 0 _ _ ⟨84,[(0,eG g),(1,eP p)],[],16⟩
 have hchk:=zot g p hl hl2 hs ht
 obtain ⟨e,hed⟩ : ∃ e,e=chkE g p:=⟨_,rfl⟩
 rw [← hed] at he hchk ⊢
 have he' : (e != 0)=true:=by simp [he]
 refine zaa ⟨84,[(2,.pv (gC g)),(3,.pv (pC p)),(4,.pt 32 0 0)],[(32,some ⟨3,[[.nilS,.nilS,.nilS]],0⟩)],100⟩ rfl ?_ ?_
 ·simp
  exact LeH [(32,32)] [16,24]
 refine zab ?_
 refine zaa ⟨84,[(2,.pv (gC g)),(3,.pv (pC p)),(4,.pt 32 0 0),(6,.I e)],[(32,some ⟨3,[[.nilS,.nilS,.nilS]],0⟩)],200⟩ rfl ?_ ?_
 ·simp
  refine zaj hchk (by simp) ?_
  simp
  exact LeH [(32,32)] []
 refine zaa ⟨84,[(4,.pt 32 0 0),(6,.I e),(21,.B true)],[(32,some ⟨3,[[.nilS,.nilS,.nilS]],0⟩)],300⟩ rfl ?_ ?_
 ·simp
  exact Le.go [(32,32)] [] rfl rfl (by simp [he']) (by simp)
 refine zac _ rfl (fun _=>?_) fun h=>by cases h
 refine zaa ⟨84,[(4,.pt 32 0 0),(5,.I e)],[(32,some ⟨3,[[.nilS,.nilS,.nilS]],0⟩)],400⟩ rfl ?_ ?_
 ·simp [zar]
  exact LeH [(32,32)] []
 refine zag ?_
 exact ⟨.inr rfl,zak.out [] [] rfl (by simp) (by simp) (by simp; exact wkT2 (wkA3 (.nil _ _) (.nil _ _) (.nil _ _)) (.refl _)) (by simp)⟩
theorem ze1 {l : List Int} {i : Nat} (h : i<l.length) : (l.drop i).head? = some l[i]:=by rw [List.head?_drop,List.getElem?_eq_getElem h]
theorem zcu {l : List Int} {i : Nat} (h : ¬ i<l.length) : (l.drop i).head? = none:=by rw [List.head?_drop,List.getElem?_eq_none (by omega)]
structure PtSt where
 n : Nat
 i : Nat
 k : Nat
 L : List Int
set_option maxRecDepth 100000 in
set_option maxHeartbeats 4000000 in
theorem zlh (o acc f : List Int) (R : List (Int × List Int)) (hol : o.length≤100) (ha : acc.length≤1000) (hR : R.length≤1000) :
  ∃ L : List Int,(za2 o acc (zaS R)=true→L=(zbP 0 o acc (zaS R)).map fun (n : Nat)=>(n : Int))∧zai Tryz.prog ze9 [ints o,eAcc acc f R] [] (.tup [ints L,.B (za2 o acc (zaS R))]) []:=by
 refine zlE.acallsX (args:=[ints o,eAcc acc f R]) (hs:=[]) (fun L=>.tup [ints L,.B (za2 o acc (zaS R))]) (fun _=>[]) (fun L : List Int=>za2 o acc (zaS R)=true→L=(zbP 0 o acc (zaS R)).map fun (n : Nat)=>(n : Int)) (nbz rfl) (nbz rfl) (fun _=>Nat.le_refl _) ?_
 show awp _ 0 _ _ ⟨70,[(0,ints o),(1,eAcc acc f R)],[],16⟩
 have hkl : (zaS R).length=R.length:=by simp [zaS]
 obtain ⟨b,hb⟩ : ∃ b,b=za2 o acc (zaS R):=⟨_,rfl⟩
 rw [← hb]
 refine zaa ⟨70,[(0,ints o),(3,.pv [ints acc,ints f,.vs 2 false (zaG R)])],[],40⟩ rfl ?_ ?_
 ·simp
  exact LeH [] [16]
 refine zaa ⟨70,[(0,ints o),(3,.pv [ints acc,ints f,.vs 2 false (zaG R)]),(6,.rs 50 0 0)],[(50,some ⟨1,[],0⟩)],100⟩ rfl ?_ ?_
 ·simp
  exact Le.lst [] [] [(50,1)] rfl (by simp) (by simp) (by simp) (by simp) (by simp) (by simp) (by simp) (by simp [Up]) (by simp)
 refine zaa ⟨70,[(0,ints o),(3,.pv [ints acc,ints f,.vs 2 false (zaG R)]),(6,.rs 50 0 0),(7,.I 0),(8,.I 0)],[(50,some ⟨1,[],0⟩)],200⟩ rfl ?_ ?_
 ·simp
  exact LeH [(50,50)] []
 refine zab ?_
 refine zaa ⟨70,[(3,.pv [ints acc,ints f,.vs 2 false (zaG R)]),(6,.rs 50 0 0),(7,.I 0),(8,.I 0),(11,ints o),(12,.I o.length),(13,.I 0)],[(50,some ⟨1,[],0⟩)],300⟩ rfl ?_ ?_
 ·simp
  exact LeH [(50,50)] []
 refine zaf ?_
 refine zao (ι:=PtSt) (fun s=>⟨70,[(3,.pv [ints acc,ints f,.vs 2 false (zaG R)]),(6,.rs 50 0 s.L.length),(7,.I s.i),(8,.I s.k),(11,ints o),(12,.I o.length),(13,.I s.n)],[(50,some ⟨1,zah s.L,0⟩)],300⟩)
  (fun s=>s.n≤o.length∧s.i≤acc.length∧s.k≤R.length∧s.L.length≤s.n∧b=za2 (o.drop s.n) (acc.drop s.i) ((zaS R).drop s.k)∧s.L++(zbP s.i (o.drop s.n) (acc.drop s.i) ((zaS R).drop s.k)).map (fun (n : Nat)=>(n : Int))=(zbP 0 o acc (zaS R)).map (fun (n : Nat)=>(n : Int)))
  (fun s=>o.length - s.n) ⟨0,0,0,[]⟩ ⟨Nat.zero_le _,Nat.zero_le _,Nat.zero_le _,Nat.le_refl _,by simpa using hb,by simp⟩ (LeH [(50,50)] []) ?_
 rintro ⟨n,i,k,L⟩ ⟨hn,hi,hk,hL,hp,hah⟩
 simp only at hn hi hk hL hp hah
 refine zaa ⟨70,[(3,.pv [ints acc,ints f,.vs 2 false (zaG R)]),(6,.rs 50 0 L.length),(7,.I i),(8,.I k),(11,ints o),(12,.I o.length),(13,.I n),(14,.B (decide (n<o.length)))],[(50,some ⟨1,zah L,0⟩)],400⟩ rfl ?_ ?_
 ·simp
  exact LeI [(50,50)] []
 refine zab ?_
 refine zac _ rfl (fun h6=>?_) fun h6=>?_
 ·simp at h6
  have hw1 : IntKind.i64.wrap ((n : Int)+1)=(n : Int)+1:=w64 (by omega) (by omega)
  have hw2 : IntKind.i64.wrap ((i : Int)+1)=(i : Int)+1:=w64 (by omega) (by omega)
  have hw3 : IntKind.i64.wrap ((k : Int)+1)=(k : Int)+1:=w64 (by omega) (by omega)
  obtain ⟨x,hx⟩ : ∃ x,x=o[n]:=⟨_,rfl⟩
  have hod : o.drop n=x::o.drop (n+1):=by rw [List.drop_eq_getElem_cons h6,hx]
  rw [hod] at hp hah
  simp only [za2,zbP,List.tail_drop] at hp hah
  refine zae ?_
  refine zab ?_
  refine zaf ?_
  refine zaa ⟨70,[(3,.pv [ints acc,ints f,.vs 2 false (zaG R)]),(6,.rs 50 0 L.length),(7,.I i),(8,.I k),(10,.I x),(11,ints o),(12,.I o.length),(13,.I n)],[(50,some ⟨1,zah L,0⟩)],500⟩ rfl ?_ ?_
  ·simp [h6,← hx]
   exact LeI [(50,50)] []
  refine zaf ?_
  refine zaa ⟨70,[(3,.pv [ints acc,ints f,.vs 2 false (zaG R)]),(6,.rs 50 0 L.length),(7,.I i),(8,.I k),(10,.I x),(11,ints o),(12,.I o.length),(13,.I n),(17,.B (decide ((acc.drop i).head? = some x)))],[(50,some ⟨1,zah L,0⟩)],700⟩ rfl ?_ ?_
  ·by_cases hia : i<acc.length
   ·have hh:=ze1 hia
    simp [hia]
    exact Le.go [(50,50)] [] rfl rfl (by simp <;> exact wkB (by rw [Bool.eq_iff_iff]; simp [hia])) (by simp [fcd])
   ·have hh:=zcu hia
    have hai : acc.length≤i:=by omega
    simp [hia]
    exact Le.go [(50,50)] [] rfl rfl (by simp [hia]) (by simp [fcd])
  refine zac _ rfl (fun h9=>?_) fun h9=>?_
  ·rw [decide_eq_true_eq] at h9
   rw [if_pos h9] at hp hah
   have hia : i<acc.length:=Decidable.byContradiction fun h=>by rw [zcu h] at h9; cases h9
   refine zas rfl ?_
   simp
   refine zas rfl ?_
   simp
   exact ⟨⟨n+1,i+1,k,L⟩,⟨by simp only; omega,by simp only; omega,hk,by simp only; omega,hp,hah⟩,by simp only; omega,Le.go [(50,50)] [] rfl rfl (by simp [hw1,hw2]) (by simp [fcd])⟩
  rw [decide_eq_false_iff_not] at h9
  rw [if_neg h9] at hp hah
  refine zaa ⟨70,[(3,.pv [ints acc,ints f,.vs 2 false (zaG R)]),(6,.rs 50 0 L.length),(7,.I i),(8,.I k),(11,ints o),(12,.I o.length),(13,.I n),(34,.B (decide (((zaS R).drop k).head? = some x)))],[(50,some ⟨1,zah L,0⟩)],900⟩ rfl ?_ ?_
  ·by_cases hkR : k<R.length
   ·have hh : ((zaS R).drop k).head? = some R[k].1:=by rw [List.head?_drop,zaS,List.getElem?_map,List.getElem?_eq_getElem hkR]; rfl
    have hh2 : (zaS R)[k]? = some R[k].1:=by rw [← List.head?_drop]; exact hh
    simp [hkR]
    exact Le.go [(50,50)] [] rfl rfl (by simp [hh2] <;> exact wkB (by rw [Bool.eq_iff_iff]; simp)) (by simp [fcd])
   ·have hh : ((zaS R).drop k).head? = none:=by rw [List.head?_drop,List.getElem?_eq_none (by omega)]
    have hh2 : (zaS R)[k]? = none:=by rw [← List.head?_drop]; exact hh
    simp [hkR]
    exact Le.go [(50,50)] [] rfl rfl (by simp [hh2,hkR]) (by simp [fcd])
  refine zac _ rfl (fun h11=>?_) fun h11=>?_
  ·rw [decide_eq_true_eq] at h11
   rw [if_pos h11] at hp hah
   have hkR : k<R.length:=Decidable.byContradiction fun h=>by rw [List.head?_drop,List.getElem?_eq_none (by omega)] at h11; cases h11
   refine zaa ⟨70,[(3,.pv [ints acc,ints f,.vs 2 false (zaG R)]),(6,.rs 50 0 L.length),(7,.I i),(8,.I (k+1 : Nat)),(11,ints o),(12,.I o.length),(13,.I n)],[(50,some ⟨1,zah L,0⟩)],1000⟩ rfl ?_ ?_
   ·simp
    exact Le.go [(50,50)] [] rfl rfl (by simp [hw3]) (by simp [fcd])
   have htL : ∀ h : Int→List AV,List.take L.length (List.map h L)=List.map h L:=fun h=>List.take_of_length_le (by simp)
   refine zas rfl ?_
   simp [htL]
   refine ⟨by omega,by omega,?_⟩
   refine zas rfl ?_
   simp
   exact ⟨⟨n+1,i,k+1,L++[(i : Int)]⟩,⟨by simp only; omega,hi,hkR,by simp; omega,hp,by simpa using hah⟩,by simp only; omega,Le.go [(1024,50)] [] rfl rfl (by simp [hw1]) (by simp [fcd])⟩
  rw [decide_eq_false_iff_not] at h11
  rw [if_neg h11] at hp
  subst hp
  refine zaa ⟨70,[(4,ints []),(5,.B false)],[],1000⟩ rfl ?_ ?_
  ·simp
   exact Le.go [] [] rfl rfl (by simp; exact Wk.nil _ _) (by simp)
  refine zag ?_
  exact zgh.mk (.inr rfl) [] (fun h=>by cases h) (zak.out [] [] rfl (by simp) (by simp) (by simp; exact .refl _) (by simp))
 simp at h6
 obtain rfl : n=o.length:=by omega
 rw [List.drop_length] at hp hah
 have hp2 : b=(decide (i=acc.length) && decide (k=R.length)):=by
  rw [hp]
  simp only [za2]
  rw [Bool.eq_iff_iff]
  simp [List.isEmpty_iff]
  omega
 refine zan ?_
 refine hit ?_
 have htL : ∀ h : Int→List AV,List.take L.length (List.map h L)=List.map h L:=fun h=>List.take_of_length_le (by simp)
 refine zaq ⟨70,[(4,ints L),(5,.B b)],[],1000⟩ rfl ?_ ?_
 ·by_cases hia : i=acc.length
  ·simp [hia]
   exact ⟨rfl,Le.go [] [50] rfl rfl (by simp [hp2,hia,fcd,htL] <;> exact wkB (by rw [Bool.eq_iff_iff]; simp; omega)) (by simp)⟩
  ·have hia2 : ¬ (i : Int)=acc.length:=by omega
   have hia3 : ((i : Int) == (acc.length : Int))=false:=by simpa using hia2
   simp [hia3]
   exact ⟨rfl,Le.go [] [50] rfl rfl (by simp [hp2,hia,fcd,htL]) (by simp)⟩
 refine zag ?_
 exact zgh.mk (.inr rfl) L (fun _=>by simpa [zbP] using hah) (zak.out [] [] rfl (by simp) (by simp) (by simp) (by simp))
theorem zmA {o a r : List Int} (hn : o.Nodup) (h : za2 o a r=true) : o.Perm (a++r) :=
 zcd hn (fun x hx=>List.mem_append.2 (zkS h x hx)) (by rw [zka h,List.length_append]; exact Nat.le_refl _)
theorem znr {g : Gr} (hg : GrOk g) (p : Pol) : (ordL (zam g p.lv) p.seeds).length≤64:=by
 have hsz:=hg.1.1
 have hsz2:=hg.1.2.1
 have hr : ∀ x∈ordL (zam g p.lv) p.seeds,0≤x∧x<g.size:=fun x hx=>by have h:=zb3 hx; exact h
 have:=zbC (b:=(List.range g.size.toNat).map fun i : Nat=>(i : Int)) (zbf (zam g p.lv) p.seeds) fun x hx=>by
  have:=hr x hx
  exact List.mem_map.2 ⟨x.toNat,List.mem_range.2 (by omega),by omega⟩
 rw [List.length_map,List.length_range] at this
 omega
set_option maxRecDepth 100000 in
set_option maxHeartbeats 4000000 in
open Classical in
theorem zjR (g : Gr) (p : Pol) (acc f : List Int) (R : List (Int × List Int)) (hg : GrOk g) (hp : zaY g.size p) (hs : p.seeds.length≤64) (hN : g.size<20) (ha : acc.length≤1000) (hR : R.length≤1000) (hf : f.length≤1099511627776) (hsd : ∀ r∈R,r.2.length≤9223372036854775807) :
  zai Tryz.prog zaM [eG g,eP p,eAcc acc f R] [] (.I (zf8 g p acc f R)) []:=by
 have hsz:=hg.1.1
 have hsz2:=hg.1.2.1
 have hel:=hg.edges_le
 have hgl:=hg.gone_le
 have hchk:=zck g p (by omega) (by omega) (by omega) (by have:=hp.2.2.2.1; omega)
 rw [if_pos hg,if_pos hp] at hchk
 have hord:=zf4 g p hg hN (by omega)
 have hol:=znr hg p
 unfold zf8
 obtain ⟨o,ho⟩ : ∃ o,o=ordL (zam g p.lv) p.seeds:=⟨_,rfl⟩
 have hor : ∀ k∈o,0≤k∧k<g.size:=fun k hk=>by rw [ho] at hk; have h:=zb3 hk; exact h
 have hon : o.Nodup:=by rw [ho]; exact zbf _ _
 rw [← ho] at hord hol ⊢
 obtain ⟨L,hL,hpart⟩:=zlh o acc f R (by omega) ha hR
 refine zhX.acalls (nbz rfl) (nbz rfl) (Nat.le_refl _) ?_
 show awp _ 0 _ _ ⟨80,[(0,eG g),(1,eP p),(2,eAcc acc f R)],[],16⟩
 refine zaa ⟨80,[(3,.pv (gC g)),(4,.pv (pC p)),(5,.pv [ints acc,ints f,.vs 2 false (zaG R)])],[],60⟩ rfl ?_ ?_
 ·simp
  exact LeH [] [16,24,32]
 refine zab ?_
 refine rx (s:=?s2) [3,4,5,7] [] [] rfl ?o2 ?q2
 case o2=>simp; refine zaj hchk (by simp) ?_; simp; rfl
 refine rx (s:=?s3) [3,4,5,18] [] [] rfl ?o3 ?q3
 case o3=>simp; rfl
 refine zac _ rfl (fun h=>by cases h) fun _=>?_
 refine zae ?_
 refine zaq ⟨80,[(3,.pv (gC g)),(4,.pv (pC p)),(5,.pv [ints acc,ints f,.vs 2 false (zaG R)]),(8,ints L),(9,.B (za2 o acc (zaS R)))],[],300⟩ rfl ?_ ?_
 ·simp
  refine za0 hord (by simp) ?_
  simp
  refine zkE [124] (by simp) hpart (by simp [fcd,zal]) ?_
  simp
  exact ⟨rfl,LeH [] []⟩
 refine zab ?_
 refine zaa ⟨80,[(3,.pv (gC g)),(4,.pv (pC p)),(5,.pv [ints acc,ints f,.vs 2 false (zaG R)]),(8,ints L),(29,.B (!za2 o acc (zaS R)))],[],400⟩ rfl ?_ ?_
 ·simp
  exact LeH [] []
 refine zac _ rfl (fun h8=>?_) fun h8=>?_
 ·have h8' : ¬ za2 o acc (zaS R)=true:=by simpa using h8
  rw [if_neg h8']
  refine rx (s:=?s9) [6] [] [] rfl ?o9 ?q9
  case o9=>simp; rfl
  refine zag ?_
  exact ⟨.inr rfl,zak.one (by simp)⟩
 have h8' : za2 o acc (zaS R)=true:=by simpa using h8
 rw [if_pos h8']
 have hL:=hL h8'
 have hsub:=zfb h8'
 have hperm:=(zmA hon h8').nodup_iff.1 hon
 have hkl : (zaS R).length=R.length:=by simp [zaS]
 have hrk : ∀ k∈zaS R,0≤k∧k<g.size:=fun k hk=>hor k (hsub.2.subset hk)
 have hak : ∀ k∈acc,0≤k∧k<g.size:=fun k hk=>hor k (hsub.1.subset hk)
 have han : acc.Nodup:=(List.nodup_append.1 hperm).1
 have hnet:=zcg g p acc hg hp han hak hs
 have hnv : ∀ a : List Int,(∀ x∈a,0≤x∧x<g.size)→za5 ⟨netN g,netA g p (zav a)⟩:=fun a h=>zfo hg hp (zgv (zdb h)) hs (zbr a)
 have hval:=zhL (f:=f) (hnv acc hak) hf
 have hvv:=zh0 (f:=f) (hnv acc hak) hf
 have hcut:=zlg (g:=g) (p:=p) (b:=[]) h8'
 obtain ⟨A,hA⟩ : ∃ A,A=netA g p (zav acc):=⟨_,rfl⟩
 rw [← hA] at hnet hval hvv
 rw [← hA]
 refine zae ?_
 refine zab ?_
 refine zaa ⟨80,[(3,.pv (gC g)),(4,.pv (pC p)),(5,.pv [ints acc,ints f,.vs 2 false (zaG R)]),(8,ints L),(10,.pv (nC ⟨netN g,A⟩))],[],500⟩ rfl ?_ ?_
 ·simp
  refine zaj hnet (by simp) ?_
  simp
  exact LeH [] [440]
 refine zaq ⟨80,[(3,.pv (gC g)),(4,.pv (pC p)),(5,.pv [ints acc,ints f,.vs 2 false (zaG R)]),(8,ints L),(49,.B (!decide (zaA (netN g) A f∧valF A f=acc.length)))],[],700⟩ rfl ?_ ?_
 ·by_cases hfo : zaA (netN g) A f
  ·rw [decide_eq_true hfo] at hval
   rw [if_pos hfo] at hvv
   simp
   refine zaj hval (by simp) ?_
   simp
   refine zaj hvv (by simp) ?_
   simp
   exact ⟨rfl,Le.go [] [] rfl rfl (by simp [hfo] <;> exact wkB (by rw [Bool.eq_iff_iff]; simp)) (by simp)⟩
  ·rw [decide_eq_false hfo] at hval
   simp
   refine zaj hval (by simp) ?_
   simp
   exact ⟨rfl,Le.go [] [] rfl rfl (by simp [hfo]) (by simp)⟩
 refine zac _ rfl (fun h12=>?_) fun h12=>?_
 ·have h12' : ¬ (zaA (netN g) A f∧valF A f=acc.length):=fun h=>by rw [decide_eq_true h] at h12; cases h12
  rw [if_neg h12']
  refine rx (s:=?s13) [6] [] [] rfl ?o13 ?q13
  case o13=>simp; rfl
  refine zag ?_
  exact ⟨.inr rfl,zak.one (by simp)⟩
 have h12' : zaA (netN g) A f∧valF A f=acc.length:=by simpa using h12
 rw [if_pos h12']
 refine zae ?_
 refine zab ?_
 refine rx (s:=?s14) [3,4,5,8,51,52,53] [] [] rfl ?o14 ?q14
 case o14=>simp; rfl
 refine zaf ?_
 refine zao (ι:=Nat) (fun i=>⟨80,[(3,.pv (gC g)),(4,.pv (pC p)),(5,.pv [ints acc,ints f,.vs 2 false (zaG R)]),(8,ints L),(51,.vs 2 false (zaG R)),(52,.I R.length),(53,.I i)],[],800⟩)
  (fun i=>i≤R.length ∧ ∀ j (h : j<R.length),j<i→zgn g p ([]++acc.take ((zbP 0 o acc (zaS R)).getD j 0 - 0)) R[j]) (fun i=>R.length - i) 0 ⟨Nat.zero_le _,fun j _ h=>absurd h (Nat.not_lt_zero _)⟩ (LeH [] []) ?_
 rintro i ⟨hi,hpre⟩
 refine rx (s:=?s15) [3,4,5,8,51,52,53,54] [] [] rfl ?o15 ?q15
 case o15=>simp; rfl
 refine zab ?_
 refine zac _ rfl (fun h16=>?_) fun h16=>?_
 ·simp at h16
  have hw1 : IntKind.i64.wrap ((i : Int)+1)=(i : Int)+1:=w64 (by omega) (by omega)
  have hail : i<(zbP 0 o acc (zaS R)).length:=by rw [zgS h8',hkl]; exact h16
  have hage:=zil (List.getElem_mem hail)
  have hgd : (zbP 0 o acc (zaS R)).getD i 0=(zbP 0 o acc (zaS R))[i]:=by rw [List.getD_eq_getElem?_getD,List.getElem?_eq_getElem hail,Option.getD_some]
  obtain ⟨m,hm⟩ : ∃ m,m=(zbP 0 o acc (zaS R))[i]:=⟨_,rfl⟩
  rw [← hm] at hage hgd
  have hLi : L[i]? = some (m : Int):=by rw [hL,List.getElem?_map,List.getElem?_eq_getElem hail,← hm]; rfl
  have hiL : i<L.length:=(List.getElem?_eq_some_iff.1 hLi).1
  have hLi' : L[i]=(m : Int):=by rw [List.getElem?_eq_getElem hiL] at hLi; exact Option.some.inj hLi
  have hgoal : zgn g p ([]++acc.take ((zbP 0 o acc (zaS R)).getD i 0 - 0)) R[i]↔zgn g p (acc.take m) R[i]:=by rw [hgd,Nat.sub_zero,List.nil_append]
  have hsdi:=hsd _ (List.getElem_mem h16)
  obtain ⟨r,hr⟩ : ∃ r,r=R[i]:=⟨_,rfl⟩
  have hrm : r.1∈zaS R:=by rw [hr]; exact List.mem_map.2 ⟨_,List.getElem_mem h16,rfl⟩
  rw [← hr] at hgoal hsdi
  have htl : (acc.take m).length=m:=by rw [List.length_take]; omega
  have hks : ∀ x∈acc.take m++[r.1],0≤x∧x<g.size:=fun x hx=>by
   rcases List.mem_append.1 hx with h | h
   ·exact hak x (List.mem_of_mem_take h)
   ·rw [List.mem_singleton] at h; subst h; exact hrk _ hrm
  have hkn : (acc.take m++[r.1]).Nodup:=List.nodup_append.2 ⟨han.sublist (List.take_sublist _ _),by simp,fun a ha b hb=>by
   rw [List.mem_singleton] at hb
   subst hb
   exact (List.nodup_append.1 hperm).2.2 a (List.mem_of_mem_take ha) _ hrm⟩
  have hwith:=zg4 (acc.take m) r.1 (by omega)
  have hnet2:=zcg g p (acc.take m++[r.1]) hg hp hkn hks hs
  have hprv:=zlS ⟨netN g,netA g p (zav (acc.take m++[r.1]))⟩ r.2 m (by have:=(hnv _ hks).2.2.1; simp only at this ⊢; omega) hsdi
  have hpd : decide (zc9 ⟨netN g,netA g p (zav (acc.take m++[r.1]))⟩ r.2 m)=decide (zgn g p (acc.take m) r):=by
   unfold zgn
   rw [htl]
  rw [hpd] at hprv
  rw [htl] at hwith
  obtain ⟨W,hW⟩ : ∃ W,W=acc.take m++[r.1]:=⟨_,rfl⟩
  have hWl : W.length=m+1:=by rw [hW,List.length_append,htl]; rfl
  rw [← hW] at hwith hnet2 hprv
  rw [← hWl] at hwith
  obtain ⟨A2,hA2⟩ : ∃ A2,A2=netA g p (zav W):=⟨_,rfl⟩
  rw [← hA2] at hnet2 hprv
  have hw2 : IntKind.i64.wrap ((W.length : Int) - 1)=(m : Int):=by rw [hWl,w64 (by omega) (by omega)]; omega
  have hma : m≤acc.length:=by omega
  refine zae ?_
  refine zab ?_
  refine zaf ?_
  refine zaa ⟨80,[(3,.pv (gC g)),(4,.pv (pC p)),(5,.pv [ints acc,ints f,.vs 2 false (zaG R)]),(8,ints L),(11,.I i),(12,.pv [.I r.1,ints r.2]),(51,.vs 2 false (zaG R)),(52,.I R.length),(53,.I i)],[],1000⟩ rfl ?_ ?_
  ·simp [h16,← hr]
   exact LeH [] [832]
  refine zaq ⟨80,[(3,.pv (gC g)),(4,.pv (pC p)),(5,.pv [ints acc,ints f,.vs 2 false (zaG R)]),(8,ints L),(12,.pv [.I r.1,ints r.2]),(13,ints W),(51,.vs 2 false (zaG R)),(52,.I R.length),(53,.I i)],[],1200⟩ rfl ?_ ?_
  ·simp [hiL,hLi',hma]
   refine za0 hwith (by simp [List.map_take]) ?_
   simp
   exact ⟨rfl,Le.go [] [1072] rfl rfl (by simp [fcd,zal]) (by simp)⟩
  refine zaq ⟨80,[(3,.pv (gC g)),(4,.pv (pC p)),(5,.pv [ints acc,ints f,.vs 2 false (zaG R)]),(8,ints L),(51,.vs 2 false (zaG R)),(52,.I R.length),(53,.I i),(78,.B (!decide (zgn g p (acc.take m) r)))],[],1400⟩ rfl ?_ ?_
  ·simp
   refine zaj hnet2 (by simp) ?_
   simp [hw2]
   refine zaj hprv (by simp) ?_
   simp
   exact ⟨rfl,LeH [] []⟩
  refine zac _ rfl (fun h20=>?_) fun h20=>?_
  ·have h20' : ¬ zgn g p (acc.take m) r:=by simpa using h20
   have hno : ¬ zde g p [] o acc R:=fun h=>h20' (hgoal.1 (by rw [hr]; exact hcut.1 h i h16))
   rw [if_neg hno]
   refine rx (s:=?s21) [6] [] [] rfl ?o21 ?q21
   case o21=>simp; rfl
   refine zag ?_
   exact ⟨.inr rfl,zak.one (by simp)⟩
  have h20' : zgn g p (acc.take m) r:=by simpa using h20
  refine zae ?_
  refine zas rfl ?_
  simp
  refine ⟨i+1,⟨h16,fun j hj hji=>?_⟩,by omega,Le.go [] [] rfl rfl (by simp [hw1]) (by simp)⟩
  rcases Nat.lt_succ_iff_lt_or_eq.1 hji with h | h
  ·exact hpre j hj h
  ·subst h
   have h5:=hgoal.2 h20'
   rw [hr] at h5
   exact h5
 simp at h16
 obtain rfl : i=R.length:=by omega
 have hyes : zde g p [] o acc R:=hcut.2 fun j hj=>hpre j hj hj
 rw [if_pos hyes]
 refine zan ?_
 refine hit ?_
 refine rx (s:=?s22) [6] [] [] rfl ?o22 ?q22
 case o22=>simp; rfl
 refine zag ?_
 exact ⟨.inr rfl,zak.one (by simp)⟩
open Classical in
theorem zgF (g : Gr) (p : Pol) (acc f : List Int) (R : List (Int × List Int)) (hg : GrOk g) (hp : zaY g.size p) (hs : p.seeds.length≤64) (hN : g.size<20) (ha : acc.length≤1000) (hR : R.length≤1000) (hf : f.length≤1099511627776) (hsd : ∀ r∈R,r.2.length≤140737488355328) : zai Tryz.prog zaM [eG g,eP p,eAcc acc f R] [] (.I (zf8 g p acc f R)) [] :=
 zjR g p acc f R hg hp hs hN ha hR hf (fun r hr=>by have:=hsd r hr; omega)
variable {N : Nat} {A : List Ed} {f : List Int}
theorem zq0 (hl : f.length=A.length) (x : Int) : ∀ i,i≤A.length→(∀ j (h : j<f.length),j<i→0≤f[j]∧f[j]≤1048576) → -(1048576*(i : Int))≤netG A f i x∧netG A f i x≤1048576*(i : Int)
 | 0,_,_=>by rw [zf0]; omega
 | i+1,h,hb=>by
   have ih:=zq0 hl x i (by omega) fun j h1 h2=>hb j h1 (by omega)
   have h2:=hb i (by omega) (by omega)
   rw [zga (by omega) (by omega)]
   split <;> split <;> omega
set_option maxRecDepth 100000 in
set_option maxHeartbeats 4000000 in
open Classical in
theorem zg8 (hn : za5 ⟨N,A⟩) (hfl0 : f.length≤1099511627776) : zai Tryz.prog zdN [eN ⟨N,A⟩,ints f] [] (.B (decide (zaA N A f))) []:=by
 refine zjc.acalls (nbz rfl) (nbz rfl) (Nat.le_refl _) ?_
 show awp _ 0 _ _ ⟨87,[(0,eN ⟨N,A⟩),(1,ints f)],[],16⟩
 have hchk:=zdF ⟨N,A⟩ (by have:=hn.2.2.1; simp only at this ⊢; omega)
 rw [if_pos hn] at hchk
 obtain ⟨hn0,hn1,hal,hav⟩:=hn
 simp only at hn0 hn1 hal hav
 refine rx (s:=?s1) [1,2] [] [16] rfl ?o1 ?q1
 case o1=>simp; rfl
 refine zab ?_
 refine zaa ⟨87,[(1,ints f),(2,.pv (nC ⟨N,A⟩)),(18,.B (!decide (f.length=A.length)))],[],120⟩ rfl ?_ ?_
 ·simp
  refine zaj hchk (by simp) ?_
  simp
  exact Le.snap [] rfl rfl (by simp <;> exact wkB (by rw [Bool.eq_iff_iff]; simp <;> omega))
 refine zac _ rfl (fun h3=>?_) fun h3=>?_
 ·have h3' : ¬ f.length=A.length:=by simpa using h3
  have hno : ¬ zaA N A f:=fun h=>h3' (zcP.1 h).1
  refine rx (s:=?s3) [4] [] [] rfl ?o3 ?q3
  case o3=>simp; rfl
  refine zag ?_
  exact ⟨.inr rfl,zak.one (by simp [hno])⟩
 have hfl : f.length=A.length:=by simpa using h3
 refine zae ?_
 refine zaa ⟨87,[(1,ints f),(2,.pv (nC ⟨N,A⟩)),(5,.rs 136 0 N)],[(136,some ⟨1,zah (rowR N (netG A f 0)),0⟩)],144⟩ rfl ?_ ?_
 ·simp
  refine ⟨by omega,by omega,?_⟩
  have : rowR N (netG A f 0)=List.replicate N 0:=by
   unfold rowR
   simp only [zf0]
   simp [List.map_const']
  rw [this]
  exact LeH [(136,136)] []
 refine zab ?_
 refine zaa ⟨87,[(1,ints f),(2,.pv (nC ⟨N,A⟩)),(5,.rs 136 0 N),(6,.I 0)],[(136,some ⟨1,zah (rowR N (netG A f 0)),0⟩)],160⟩ rfl ?_ ?_
 ·simp
  exact LeI [(136,136)] []
 refine zaf ?_
 refine zao (ι:=Nat) (fun i=>⟨87,[(1,ints f),(2,.pv (nC ⟨N,A⟩)),(5,.rs 136 0 N),(6,.I i)],[(136,some ⟨1,zah (rowR N (netG A f i)),0⟩)],160⟩) (fun i=>i≤A.length ∧ ∀ k,k<i→zlt A f k) (fun i=>A.length - i) 0 ⟨Nat.zero_le _,fun k h=>absurd h (Nat.not_lt_zero _)⟩ (LeI [(136,136)] []) ?_
 rintro i ⟨hi,hp⟩
 have hfb : ∀ j (h : j<f.length),j<i→0≤f[j]∧f[j]≤1048576:=fun j hj hji=>by
  have h1:=hp j hji
  unfold zlt at h1
  have e1 : f.getD j 0=f[j]:=by rw [List.getD_eq_getElem?_getD,List.getElem?_eq_getElem hj,Option.getD_some]
  have e2 : arcD A j=A[j]'(by omega):=by unfold arcD; rw [List.getD_eq_getElem?_getD,List.getElem?_eq_getElem (by omega),Option.getD_some]
  rw [e1,e2] at h1
  have h2:=(hav _ (List.getElem_mem (show j<A.length by omega))).2.2.2.2.2.2.2.2
  omega
 have hbd:=fun x=>zq0 hfl x i hi hfb
 refine zab ?_
 refine zaa ⟨87,[(1,ints f),(2,.pv (nC ⟨N,A⟩)),(5,.rs 136 0 N),(6,.I i),(25,.B (decide (i<f.length)))],[(136,some ⟨1,zah (rowR N (netG A f i)),0⟩)],192⟩ rfl ?_ ?_
 ·simp
  exact LeI [(136,136)] []
 refine zac _ rfl (fun h8=>?_) fun h8=>?_
 ·simp at h8
  have hiA : i<A.length:=by omega
  have hw1 : IntKind.i64.wrap ((i : Int)+1)=(i : Int)+1:=w64 (by omega) (by omega)
  have heo:=hav _ (List.getElem_mem hiA)
  have hsucc:=zga hiA h8
  have hbe:=hbd
  obtain ⟨e,he⟩ : ∃ e,e=A[i]:=⟨_,rfl⟩
  obtain ⟨w,hw⟩ : ∃ w,w=f[i]:=⟨_,rfl⟩
  rw [← he,← hw] at hsucc
  rw [← he] at heo
  obtain ⟨e1,e2,e3,e4,e5,e6,e7,e8,b3⟩:=heo
  have hfa : zlt A f i↔0≤w∧w≤e.v:=by
   unfold zlt arcD
   rw [List.getD_eq_getElem?_getD,List.getElem?_eq_getElem h8,Option.getD_some,List.getD_eq_getElem?_getD,List.getElem?_eq_getElem hiA,Option.getD_some,he,hw]
  have hg1 : A[i]? = some e:=by rw [List.getElem?_eq_getElem hiA,he]
  have hg2 : f[i]? = some w:=by rw [List.getElem?_eq_getElem h8,hw]
  have h2N : e.f<(N : Int)∧e.t<(N : Int):=by omega
  have h1:=hbe e.f
  have h2:=hbe e.t
  have hr1:=zcW (N:=N) (g:=netG A f i) (x:=e.f) e1 (by omega)
  have hs1:=zgR (N:=N) (g:=netG A f i) (x:=e.f) (v:=netG A f i e.f - w) e1 (by omega)
  obtain ⟨g1,hg1d⟩ : ∃ g1 : Int→Int,g1=fun y=>if y=e.f then netG A f i e.f - w else netG A f i y:=⟨_,rfl⟩
  rw [← hg1d] at hs1
  have hg1t : g1 e.t=netG A f i e.t:=by rw [hg1d]; exact if_neg fun h=>e5 h.symm
  have hr2:=zcW (N:=N) (g:=g1) (x:=e.t) e3 (by omega)
  rw [hg1t] at hr2
  have hs2:=zgR (N:=N) (g:=g1) (x:=e.t) (v:=netG A f i e.t+w) e3 (by omega)
  have hend : (rowR N fun y=>if y=e.t then netG A f i e.t+w else g1 y)=rowR N (netG A f (i+1)):=zgJ fun x=>by
   rw [hsucc,hg1d]
   simp only
   by_cases h3 : x=e.t
   ·rw [h3,if_pos rfl,if_pos rfl,if_neg e5]
    omega
   ·by_cases h4 : x=e.f
    ·rw [if_neg h3,if_pos h4,if_neg fun h=>h3 h.symm,if_pos h4.symm,h4]
     omega
    ·rw [if_neg h3,if_neg h4,if_neg fun h=>h3 h.symm,if_neg fun h=>h4 h.symm]
     omega
  rw [hend] at hs2
  refine zae ?_
  refine zaL (ι:=Unit) (fun _=>⟨87,[(1,ints f),(2,.pv (nC ⟨N,A⟩)),(5,.rs 136 0 N),(6,.I i)],[(136,some ⟨1,zah (rowR N (netG A f (i+1))),0⟩)],1000⟩) (fun _=>zlt A f i) ?_ fun _ hfit=>?_
  ·refine zaf ?_
   refine zab ?_
   refine zaq ⟨87,[(1,ints f),(2,.pv (nC ⟨N,A⟩)),(5,.rs 136 0 N),(6,.I i),(45,.B (!decide (0≤w∧w≤e.v)))],[(136,some ⟨1,zah (rowR N (netG A f i)),0⟩)],500⟩ rfl ?_ ?_
   ·simp [hg1,hg2,hiA,h8,← he,← hw]
    refine zb5 (fun hb=>?_) (fun hb=>?_) <;> (try rw [hb]) <;> (try simp at hb) <;> simp [hb,hg1,hg2,hiA,h8,← he,← hw]
    ·exact ⟨rfl,Le.go [(136,136)] [] rfl rfl (by simp <;> exact wkB (by rw [Bool.eq_iff_iff]; simp <;> omega)) (by simp [fcd])⟩
    ·exact ⟨rfl,Le.go [(136,136)] [] rfl rfl (by simp <;> exact wkB (by rw [Bool.eq_iff_iff]; simp <;> omega)) (by simp [fcd])⟩
   refine zac _ rfl (fun h45=>?_) fun h45=>?_
   ·have h45' : ¬ (0≤w∧w≤e.v):=fun h=>by rw [decide_eq_true h] at h45; cases h45
    have hno : ¬ zaA N A f:=fun h=>h45' (hfa.1 ((zcP.1 h).2.1 i hiA))
    refine rx (s:=?s46) [4] [] [] rfl ?o46 ?q46
    case o46=>simp; rfl
    refine zag ?_
    exact ⟨.inr rfl,zak.one (by simp [hno])⟩
   have h45' : 0≤w∧w≤e.v:=Decidable.byContradiction fun h=>by rw [decide_eq_false h] at h45; cases h45
   obtain ⟨b1,b2⟩:=h45'
   have hwx : IntKind.i64.wrap (netG A f i e.f - w)=netG A f i e.f - w:=w64 (by omega) (by omega)
   have hwy : IntKind.i64.wrap (netG A f i e.t+w)=netG A f i e.t+w:=w64 (by omega) (by omega)
   refine zae ?_
   refine zaq ⟨87,[(1,ints f),(2,.pv (nC ⟨N,A⟩)),(5,.rs 136 0 N),(6,.I i)],[(136,some ⟨1,zah (rowR N g1),0⟩)],700⟩ rfl ?_ ?_
   ·simp [hg1,hg2,hiA,h8,← he,← hw,hr1,e1,h2N,hwx,zar]
    exact ⟨rfl,Le.go [(136,136)] [] rfl rfl (by simp) (by simp [fcd,← hs1])⟩
   refine zbF rfl ?_
   simp [hg1,hg2,hiA,h8,← he,← hw,hr2,e3,h2N,hwy,zar]
   exact ⟨rfl,hfa.2 ⟨b1,b2⟩,Le.go [(136,136)] [] rfl rfl (by simp) (by simp [fcd,← hs2])⟩
  refine zad (s:=?s20) rfl ?o20 ?q20
  case o20=>simp; rfl
  exact ⟨i+1,⟨by omega,fun k hk=>by
   rcases Nat.lt_succ_iff_lt_or_eq.1 hk with h | h
   ·exact hp k h
   ·rw [h]; exact hfit⟩,by omega,Le.go [(136,136)] [] rfl rfl (by simp [hw1]) (by simp [fcd])⟩
 simp at h8
 obtain rfl : i=A.length:=by omega
 refine zan ?_
 refine hit ?_
 refine zab ?_
 refine zaa ⟨87,[(2,.pv (nC ⟨N,A⟩)),(5,.rs 136 0 N),(7,.I 2)],[(136,some ⟨1,zah (rowR N (netG A f A.length)),0⟩)],200⟩ rfl ?_ ?_
 ·simp
  exact LeI [(136,136)] []
 refine zaf ?_
 refine zao (ι:=Nat) (fun k=>⟨87,[(2,.pv (nC ⟨N,A⟩)),(5,.rs 136 0 N),(7,.I k)],[(136,some ⟨1,zah (rowR N (netG A f A.length)),0⟩)],200⟩) (fun k=>(2≤k∧k≤N) ∧ ∀ x : Nat,2≤x→x<k→exF A f x=0) (fun k=>N - k) 2 ⟨by omega,fun x h1 h2=>by omega⟩ (LeI [(136,136)] []) ?_
 rintro k ⟨⟨hk1,hk2⟩,hz⟩
 refine zab ?_
 refine zaa ⟨87,[(2,.pv (nC ⟨N,A⟩)),(5,.rs 136 0 N),(7,.I k),(79,.B (decide (k<N)))],[(136,some ⟨1,zah (rowR N (netG A f A.length)),0⟩)],300⟩ rfl ?_ ?_
 ·simp
  exact LeI [(136,136)] []
 refine zac _ rfl (fun h15=>?_) fun h15=>?_
 ·simp at h15
  have hr:=zcW (N:=N) (g:=netG A f A.length) (x:=(k : Int)) (by omega) (by omega)
  have hng:=znm hfl (k : Int)
  obtain ⟨z,hzd⟩ : ∃ z,z=netG A f A.length k:=⟨_,rfl⟩
  rw [← hzd] at hr hng
  simp only [Int.toNat_natCast] at hr
  have hw1 : IntKind.i64.wrap ((k : Int)+1)=(k : Int)+1:=w64 (by omega) (by omega)
  refine zae ?_
  refine zab ?_
  refine zaf ?_
  refine zaa ⟨87,[(2,.pv (nC ⟨N,A⟩)),(5,.rs 136 0 N),(7,.I k),(86,.B (!decide (z=0)))],[(136,some ⟨1,zah (rowR N (netG A f A.length)),0⟩)],400⟩ rfl ?_ ?_
  ·simp [hr,h15]
   exact Le.go [(136,136)] [] rfl rfl (by simp <;> exact wkB (by rw [Bool.eq_iff_iff]; simp)) (by simp [fcd])
  refine zac _ rfl (fun h86=>?_) fun h86=>?_
  ·have h86' : ¬ z=0:=by simpa using h86
   have hno : ¬ zaA N A f:=fun h=>h86' (by rw [hng,(zcP.1 h).2.2 k hk1 h15]; rfl)
   refine rx (s:=?s87) [4] [] [] rfl ?o87 ?q87
   case o87=>simp; rfl
   refine zag ?_
   exact ⟨.inr rfl,zak.one (by simp [hno])⟩
  have h86' : z=0:=by simpa using h86
  refine zae ?_
  refine zad (s:=?s21) rfl ?o21 ?q21
  case o21=>simp; rfl
  exact ⟨k+1,⟨by omega,fun x h1 h2=>by
   rcases Nat.lt_succ_iff_lt_or_eq.1 h2 with h | h
   ·exact hz x h1 h
   ·subst h; omega⟩,by omega,Le.go [(136,136)] [] rfl rfl (by simp [hw1]) (by simp [fcd])⟩
 simp at h15
 have hyes : zaA N A f:=zcP.2 ⟨hfl,hp,fun x h1 h2=>hz x h1 (by omega)⟩
 refine zan ?_
 refine hit ?_
 refine zaa ⟨87,[(4,.B true)],[],400⟩ rfl ?_ ?_
 ·simp
  exact LeH [] []
 refine zag ?_
 exact ⟨.inr rfl,zak.one (by simp [hyes])⟩
set_option maxRecDepth 100000 in
open Classical in
theorem zlG (hn : za5 ⟨N,A⟩) (hfl0 : f.length≤1099511627776) : zai Tryz.prog zdL [eN ⟨N,A⟩,ints f] [] (.I (if zaA N A f then valF A f else 0)) []:=by
 by_cases hf : zaA N A f
 ·rw [if_pos hf]
  exact zfS hn hf
 rw [if_neg hf]
 have hchk:=zg8 hn hfl0
 rw [decide_eq_false hf] at hchk
 refine zjm.acalls (nbz rfl) (nbz rfl) (Nat.le_refl _) ?_
 show awp _ 0 _ _ ⟨31,[(0,eN ⟨N,A⟩),(1,ints f)],[],16⟩
 refine rx (s:=?s1) [1,2] [] [16] rfl ?o1 ?q1
 case o1=>simp; rfl
 refine zab ?_
 refine rx (s:=?s2) [1,2,10] [] [] rfl ?o2 ?q2
 case o2=>simp; refine zaj hchk (by simp) ?_; simp; rfl
 refine zac _ rfl (fun h=>?_) fun h=>by cases h
 refine rx (s:=?s3) [4] [] [] rfl ?o3 ?q3
 case o3=>simp; rfl
 refine zag ?_
 exact ⟨.inr rfl,zak.one (by simp)⟩
end Go.Proofs.YthmaflecfppoiaaGreat
