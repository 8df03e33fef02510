/- Texts of this claim,merged. -/
import Derived.Test.YteiabadhhhckfaaGreatRg13
import Derived.Test.YteiabadhhhckfaaGreatRg14
import Derived.Test.YteiabadhhhckfaaGreatRg10
import Derived.Test.YteiabadhhhckfaaGreatRg15
import Derived.Test.YteiabadhhhckfaaGreatRg6
import Derived.Test.YteiabadhhhckfaaGreatRg9
set_option linter.unusedSimpArgs false
set_option linter.unusedVariables false
set_option linter.unusedSectionVars false
namespace Go.Proofs.YteiabadhhhckfaaGreat
open Go
section
variable {N : Nat} {A : List Ed} {f : List Int}
theorem zr3 (hn : zc5 N A) {s : Stp} (hs : s.1 < A.length) : 0 ≤ stT A s ∧ stT A s < N:=by
 have:=hn.arc _ (zbD hs)
 unfold stT
 split <;> omega
theorem Bfs.grow (hn : zc5 N A) : ∀ (n : Nat) (D b : List Int),Bfs N A f D b → N - D.length ≤ n → ∃ D' b',Bfs N A f D' b' ∧ zex A f D'
 | n,D,b,h,hl=>by
   by_cases hc : zex A f D
   ·exact ⟨D,b,h,hc⟩
   ·unfold zex at hc
    obtain ⟨s,hs⟩:=Classical.not_forall.1 hc
    obtain ⟨h1,hs⟩:=Classical.not_imp.1 hs
    obtain ⟨h2,hs⟩:=Classical.not_imp.1 hs
    obtain ⟨h3,h4⟩:=Classical.not_imp.1 hs
    have hr:=zr3 hn h1
    have hp:=h.push h1 h2 h3 h4 hr.1 hr.2
    have hf:=hp.few
    rw [List.length_append,List.length_singleton] at hf
    match n,hl with
    | 0,hl=>omega
    | n + 1,hl=>exact Bfs.grow hn n _ _ hp (by rw [List.length_append,List.length_singleton]; omega)
theorem zse (hn : zc5 N A) {D b : List Int} (hf1 : zaE N A f) (hf2 : ∀ f',zaE N A f' → valF A f' ≤ valF A f) (hb : Bfs N A f D b) : (1 : Int) ∉ D:=fun hm=>by
 obtain ⟨l,hl⟩:=hb.chain hm
 have h1:=hl.push hn hf1 (v:=1) (by omega) fun s hs=>by
  obtain ⟨i,hi,rfl⟩:=List.mem_iff_getElem.1 hs
  have:=(hl.at_ i hi).2.1
  omega
 have h2:=hf2 _ h1.1
 omega
theorem zue (hn : zc5 N A) {S : Int → Bool} (h0 : S 0 = true) (h1 : S 1 = false) : maxF N A ≤ capS S A:=by
 obtain ⟨f,hf,hv⟩:=zpH hn
 rw [← hv]
 exact zdM hn hf h0 h1
theorem zti (hn : zc5 N A) : ∃ X : Int → Bool,X 0 = true ∧ X 1 = false ∧ capS X A = maxF N A ∧ ∀ S : Int → Bool,S 0 = true → S 1 = false → capS S A = maxF N A → ∀ x,X x = true → S x = true:=by
 obtain ⟨f,hf,hm⟩:=zgm hn
 obtain ⟨D,b,hb,hc⟩:=Bfs.grow hn N [0] _ (Bfs.start (f:=f) (by have:=hn.two; omega)) (by omega)
 have h1:=zse hn hf hm hb
 have hmf:=ze8 hf hm
 refine ⟨fun x=>decide (x ∈ D),by simpa using hb.mem0,by simpa using h1,?_,fun S s0 s1 hS x hx=>?_⟩
 ·rw [hmf]
  exact (zhG hn hf hb.mem0 h1 hc).1.symm
 ·exact zlp hn hf hb.tree s0 s1 (hS.trans hmf) x (by simpa using hx)
end
def zsp (g : Gr) (p : Pol) (S : Int → Bool) : Int:=capS S (netA g p [])
def zfR (S : Int → Bool) (ks : List Int) : Int:=(ks.map fun k=>if S (2 + 2 * k) = true then 1 else 0).sum
variable {g : Gr} {p : Pol}
def zrj (g : Gr) (p : Pol) (k : Int) : Prop:=0 < (zaC g p).getD k.toNat 0
theorem zlv {S : Int → Bool} (h1 : S 1 = false) {ks : List Int} (hk : ∀ k ∈ ks,zrj g p k) : capS S (netA g p ks) = zsp g p S + zfR S ks:=by
 have hf : ks.filter (fun x=>decide (0 < (zaC g p).getD x.toNat 0)) = ks:=List.filter_eq_self.2 fun x hx=>decide_eq_true (hk x hx)
 unfold zsp zfR
 simp only [zi4,netA,zaX,List.map_append,List.sum_append,List.map_map,hf]
 have e : ((fun e : Ed=>if S e.f = true ∧ S e.t = false then e.v else 0) ∘ fun x : Int=>(⟨2 + 2 * x,1,1⟩ : Ed)) = fun k=>if S (2 + 2 * k) = true then 1 else 0:=by
  funext k
  simp only [Function.comp,h1,and_true]
 rw [e]
 simp only [List.filter_nil,List.map_nil,List.sum_nil]
 omega
theorem zp8 (S : Int → Bool) : ∀ ks : List Int,zfR S ks ≤ ks.length
 | []=>Int.le_refl _
 | k :: ks=>by
   have ih:=zp8 S ks
   unfold zfR at ih ⊢
   simp only [List.map_cons,List.sum_cons,List.length_cons]
   split <;> omega
theorem znC (S : Int → Bool) (a b : List Int) : zfR S (a ++ b) = zfR S a + zfR S b:=by simp [zfR]
theorem zqG (S : Int → Bool) {a b : List Int} (h : a.Perm b) : zfR S a = zfR S b:=by
 unfold zfR
 induction h with
 | nil=>rfl
 | cons x _ ih=>simp only [List.map_cons,List.sum_cons,ih]
 | swap x y l=>simp only [List.map_cons,List.sum_cons]; omega
 | trans _ _ ih1 ih2=>exact ih1.trans ih2
structure zbX (g : Gr) (p : Pol) (ks : List Int) : Prop where
 rng : ∀ x ∈ ks,0 ≤ x ∧ x < g.size
 reach : ∀ x ∈ ks,zrj g p x
theorem zbX.sub {a b : List Int} (h : zbX g p b) (hs : ∀ x ∈ a,x ∈ b) : zbX g p a:=⟨fun x hx=>h.rng x (hs x hx),fun x hx=>h.reach x (hs x hx)⟩
theorem zbX.nil : zbX g p []:=⟨fun _ h=>(List.not_mem_nil h).elim,fun _ h=>(List.not_mem_nil h).elim⟩
theorem zbX.append {a b : List Int} (h : zbX g p a) (h' : zbX g p b) : zbX g p (a ++ b) :=
 ⟨fun x hx=>(List.mem_append.1 hx).elim (h.rng x) (h'.rng x),fun x hx=>(List.mem_append.1 hx).elim (h.reach x) (h'.reach x)⟩
theorem zdw (hg : GrOk g) (hp : zaV g.size p) {ks : List Int} (hk : zbX g p ks) : zat g p ks ↔ ∀ S : Int → Bool,S 0 = true → S 1 = false → (ks.length : Int) ≤ zsp g p S + zfR S ks:=by
 have hn:=zhW hg hp hk.rng
 unfold zat
 constructor
 ·intro h S h0 h1
  rw [← zlv h1 hk.reach,← h]
  exact zue hn h0 h1
 ·intro h
  obtain ⟨X,h0,h1,hc,_⟩:=zti hn
  have h2:=h X h0 h1
  rw [← zlv h1 hk.reach,hc] at h2
  have h3:=zf8 (p:=p) hg hp hk.rng
  omega
theorem zat.perm (hg : GrOk g) (hp : zaV g.size p) {a b : List Int} (ha : zbX g p a) (h : zat g p a) (hp' : a.Perm b) : zat g p b:=by
 have hb : zbX g p b:=ha.sub fun x hx=>hp'.mem_iff.2 hx
 rw [zdw hg hp hb]
 rw [zdw hg hp ha] at h
 intro S h0 h1
 rw [← zqG S hp',← hp'.length_eq]
 exact h S h0 h1
theorem zat.left (hg : GrOk g) (hp : zaV g.size p) {a b : List Int} (hk : zbX g p (a ++ b)) (h : zat g p (a ++ b)) : zat g p a:=by
 have ha : zbX g p a:=hk.sub fun x hx=>List.mem_append_left _ hx
 rw [zdw hg hp ha]
 rw [zdw hg hp hk] at h
 intro S h0 h1
 have:=h S h0 h1
 rw [znC,List.length_append] at this
 have:=zp8 S b
 omega
theorem zat.sublist (hg : GrOk g) (hp : zaV g.size p) {a b : List Int} (hk : zbX g p b) (h : zat g p b) (hs : a.Sublist b) : zat g p a:=by
 obtain ⟨c,hc⟩ : ∃ c,(a ++ c).Perm b:=by
  induction hs with
  | slnil=>exact ⟨[],.refl _⟩
  | cons x hs ih =>
    obtain ⟨c,hc⟩:=ih (hk.sub fun y hy=>List.mem_cons_of_mem _ hy) (by
     have h2 : zat g p (_ ++ [x]):=h.perm hg hp hk (List.perm_append_comm (l₁:=[x]))
     exact h2.left hg hp (hk.sub fun y hy=>by simpa [or_comm] using hy))
    exact ⟨x :: c,List.perm_middle.trans (hc.cons x)⟩
  | cons_cons x hs ih =>
    obtain ⟨c,hc⟩:=ih (hk.sub fun y hy=>List.mem_cons_of_mem _ hy) (by
     have h2 : zat g p (_ ++ [x]):=h.perm hg hp hk (List.perm_append_comm (l₁:=[x]))
     exact h2.left hg hp (hk.sub fun y hy=>by simpa [or_comm] using hy))
    exact ⟨c,hc.cons x⟩
 exact (h.perm hg hp hk hc.symm).left hg hp (hk.sub fun x hx=>hc.mem_iff.1 hx)
theorem zat.nil (hg : GrOk g) (hp : zaV g.size p) : zat g p []:=by
 have h1:=zf8 (p:=p) (ks:=[]) hg hp (by simp)
 have hn:=zhW (p:=p) (ks:=[]) hg hp (by simp)
 have h2:=zur hn (zgO hn)
 have h3 : valF (netA g p []) ((netA g p []).map fun _=>0) = 0:=by
  unfold valF outF
  have : ∀ A : List Ed,sumF (fun e v=>if e.f = 0 then v else 0) A (A.map fun _=>0) = 0:=by
   intro A
   induction A with
   | nil=>rfl
   | cons e A ih=>simp only [List.map_cons,sumF,ih]; split <;> rfl
  exact this _
 unfold zat
 simp at h1 ⊢
 omega
theorem zan.k1n {rs : List (Nat × Option (Bool × Nat))} {st : St} {vs : List AV} {res : AV} {e0 e : Ent} (i : Nat) (hi : 1 ≤ i) (h1 : zfl st rs = some vs) (hw : Wk (conv [(0,0),(i,1)] [] st.hp 4 (resV vs)) res) (h0 : (st.hp 0).map (zax [(0,0),(i,1)] [] st.hp 4) = some e0) (he : (st.hp i).map (zax [(0,0),(i,1)] [] st.hp 4) = some e) : zan rs 1 st res [some e0,some e] :=
 ⟨vs,h1,[i],[],by simp [List.range,List.range.loop]; omega,by simpa using hi,by simp,by simpa [List.range,List.range.loop] using hw,by simpa [List.range,List.range.loop] using ⟨by simpa using h0,by simpa using he⟩⟩
@[simp] theorem zuO {i : Nat} : cellsOf (.mp i) = some [.mp i]:=(rfl)
set_option maxRecDepth 100000 in
set_option maxHeartbeats 2000000 in
theorem zvw (N : Nat) (A : List Ed) (f0 : List Int) (hn : za7 ⟨N,A⟩) (hf0 : zaE N A f0) :
  ∃ f : List Int,(zaE N A f ∧ ∀ f',zaE N A f' → valF A f' ≤ valF A f) ∧ zak Tryz.prog zhR [eN ⟨N,A⟩,ints f0] [] (.rs 0 0 A.length) [some ⟨1,zae f,0⟩]:=by
 refine zrg.acallsX (args:=[eN ⟨N,A⟩,ints f0]) (hs:=[]) (fun f=>.rs 0 0 A.length) (fun f=>[some ⟨1,zae f,0⟩]) (fun f : List Int=>zaE N A f ∧ ∀ f',zaE N A f' → valF A f' ≤ valF A f) (nbz rfl) (nbz rfl) (fun _=>by simp) ?_
 show awp _ 0 _ _ ⟨14,[(0,eN ⟨N,A⟩),(1,ints f0)],[],16⟩
 have hno:=zdE hn
 have hfl:=hf0.fit.len
 have hopen:=fun (f : List Int)=>zsy N A f A.length hn
 have hpush:=fun (f : List Int) (hf : zaE N A f)=>zvl N A f hn hf
 have hal:=hn.2.2.1
 simp only at hal
 have hcl:=zeA f0 (by omega)
 rw [hfl] at hcl
 have htake : ∀ g : Int → List AV,List.take A.length (List.map g f0) = List.map g f0:=fun g=>List.take_of_length_le (by simp; omega)
 refine rx (s:=?s1) [1,2] [] [16] rfl ?o1 ?q1
 case o1=>simp; rfl
 refine zaq ⟨14,[(5,.pt 64 0 0)],[(48,some ⟨1,zae f0,0⟩),(64,some ⟨4,[rC N A (.rs 48 0 A.length)],0⟩)],80⟩ rfl ?_ ?_
 ·simp
  refine zaM hcl (by simp) ?_
  simp
  refine zbl (i:=48) rfl (by simp [fcd]) (hopen f0) (by simp) (by simp) ?_
  simp
  exact ⟨rfl,LeI [(48,48),(64,64)] []⟩
 refine zab ?_
 refine zaf ?_
 refine zao (ι:=List Int) (fun f=>⟨14,[(5,.pt 64 0 0)],[(48,some ⟨1,zae f,0⟩),(64,some ⟨4,[rC N A (.rs 48 0 A.length)],0⟩)],80⟩) (fun f=>zaE N A f) (fun f=>(capS (fun x=>decide (x = 0)) A - valF A f).toNat) f0 hf0 (LeI [(48,48),(64,64)] []) ?_
 intro f hf
 obtain ⟨⟨c,f'⟩,hx,hcall⟩:=hpush f hf
 simp only at hx hcall
 refine zab ?_
 refine zaa ⟨14,[(5,.pt 64 0 0),(11,.B c)],[(48,some ⟨1,zae f',0⟩),(64,some ⟨4,[rC N A (.rs 48 0 A.length)],0⟩)],100⟩ rfl ?_ ?_
 ·simp
  refine zbl (i:=48) rfl (by simp [fcd]) hcall (by simp) (by simp) ?_
  simp
  exact LeI [(48,48),(64,64)] []
 refine zac _ rfl (fun h4=>?_) fun h4=>?_
 ·have hc : c = true:=h4
  subst hc
  simp only [if_true] at hx
  have hbnd:=zdM (S:=fun x=>decide (x = 0)) hno hx.1 (by simp) (by simp)
  refine zad ?_
  refine zaf ?_
  refine zad ?_
  exact ⟨f',hx.1,by have:=hx.2; omega,LeI [(48,48),(64,64)] []⟩
 have hc : c = false:=h4
 subst hc
 simp only [Bool.false_eq_true,if_false] at hx
 obtain ⟨rfl,hm⟩:=hx
 refine zam ?_
 refine hit ?_
 refine zaa ⟨14,[(4,.rs 48 0 A.length)],[(48,some ⟨1,zae f',0⟩)],200⟩ rfl ?_ ?_
 ·simp
  exact LeI [(48,48)] []
 refine zah ?_
 exact zdZ.mk (.inr rfl) f' ⟨hf,hm⟩ (zan.out [48] [] rfl (by simp) (by simp) (by simp) (by simp [fcd]))
set_option maxRecDepth 100000 in
set_option maxHeartbeats 2000000 in
theorem zlo (N : Nat) (A : List Ed) (hn : za7 ⟨N,A⟩) :
  ∃ f : List Int,(zaE N A f ∧ ∀ f',zaE N A f' → valF A f' ≤ valF A f) ∧ zak Tryz.prog zgR [eN ⟨N,A⟩] [] (.tup [.rs 0 0 A.length,.I 0]) [some ⟨1,zae f,0⟩]:=by
 have hno:=zdE hn
 obtain ⟨f,hf,hg⟩:=zvw N A _ hn (zgO hno)
 refine ⟨f,hf,?_⟩
 have hchk:=ze5 ⟨N,A⟩ (by have:=hn.2.2.1; simp only at this ⊢; omega)
 rw [if_pos hn] at hchk
 have hal:=hn.2.2.1
 simp only at hal
 have hfl:=hf.1.fit.len
 refine zrt.acalls (nbz rfl) (nbz rfl) (Nat.zero_le _) ?_
 show awp _ 0 _ _ ⟨16,[(0,eN ⟨N,A⟩)],[],16⟩
 refine rx (s:=?s1) [1] [] [16] rfl ?o1 ?q1
 case o1=>simp; rfl
 refine zab ?_
 refine rx (s:=?s2) [1,4] [] [] rfl ?o2 ?q2
 case o2=>simp; refine zal hchk (by simp) ?_; simp; rfl
 refine rx (s:=?s3) [1,4,8] [] [] rfl ?o3 ?q3
 case o3=>simp; rfl
 refine zac _ rfl (fun h4=>by cases h4) fun h4=>?_
 refine zad ?_
 refine zaq ⟨16,[(2,.rs 48 0 A.length),(3,.I 0)],[(48,some ⟨1,zae f,0⟩)],300⟩ rfl ?_ ?_
 ·simp
  refine ⟨by omega,by omega,?_⟩
  refine zgI [112] hg (by simp [List.map_const']) (.rs _ _ _) znA ?_
  simp
  exact ⟨rfl,LeI [(120,48)] []⟩
 refine zah ?_
 exact ⟨.inr rfl,zan.out [48] [] rfl (by simp) (by simp) (by simp) (by simp [fcd])⟩
set_option maxRecDepth 100000 in
set_option maxHeartbeats 2000000 in
theorem zjA (N : Nat) (A : List Ed) (f : List Int) (hn : za7 ⟨N,A⟩) (hf : zaE N A f) (hm : ∀ f',zaE N A f' → valF A f' ≤ valF A f) :
  zak Tryz.prog zfg [eN ⟨N,A⟩,.rs 0 0 A.length] [⟨1,zae f,0⟩] (.rs 1 0 (zgy N A).length) [some ⟨1,zae f,0⟩,some ⟨1,zae (zgy N A),0⟩]:=by
 have hno:=zdE hn
 obtain ⟨⟨D,b,R⟩,⟨hb,hcl,hR⟩,hcall⟩:=zpI N A f hn hf.fit
 simp only at hb hcl hR hcall
 have hopen:=zsy N A f A.length hn
 have hnear : inD D N = zgy N A:=zpR hno hf hm hb.tree hb.mem0 (zse hno hf hm hb) hcl
 have hwh:=zsz hR N (by have:=hn.2.1; simp only at this; omega)
 rw [hnear] at hwh
 have hfl:=hf.fit.len
 have htake : ∀ g : Int → List AV,List.take A.length (List.map g f) = List.map g f:=fun g=>List.take_of_length_le (by simp; omega)
 refine zmH.acalls (nbz rfl) (nbz rfl) (by simp) ?_
 show awp _ 1 _ _ ⟨14,[(0,eN ⟨N,A⟩),(1,.rs 0 0 A.length)],[(0,some ⟨1,zae f,0⟩)],16⟩
 refine zaa ⟨14,[(1,.rs 0 0 A.length),(2,.pv (nC ⟨N,A⟩))],[(0,some ⟨1,zae f,0⟩)],32⟩ rfl ?_ ?_
 ·simp
  exact LeI [(0,0)] [16]
 refine zaa ⟨14,[(2,.pv (nC ⟨N,A⟩)),(5,.pt 64 0 0)],[(0,some ⟨1,zae f,0⟩),(64,some ⟨1,[[.mp 56]],0⟩),(56,some ⟨0,R,0⟩)],100⟩ rfl ?_ ?_
 ·simp
  refine zbl (i:=0) rfl (by simp [fcd]) hopen (by simp) (by simp) ?_
  simp
  refine zgI [0] hcall (by simp [fcd,htake,hfl]) (.mp _) (hR.plain _ _) ?_
  simp
  exact Le.go [(0,0),(64,64),(56,56)] [] rfl rfl (by simp) (by simp [fcd,hR.conv'])
 refine zaa ⟨14,[(4,.rs 57 0 (zgy N A).length)],[(0,some ⟨1,zae f,0⟩),(57,some ⟨1,zae (zgy N A),0⟩)],200⟩ rfl ?_ ?_
 ·simp
  refine zls (i:=64) (j:=56) (by decide) rfl rfl (by simp) (by simp [hR.conv']) hwh (by simp) (by simp [conv]) ?_
  simp
  exact LeI [(0,0),(124,57)] []
 refine zah ?_
 exact ⟨.inr rfl,zan.k1n 57 (by omega) rfl (by simp) (by simp [fcd]) (by simp [fcd])⟩
abbrev eXs (X : List Expl) : AV:=.vs 5 false (X.map xE)
def AllR (g : Gr) (p : Pol) (o : List Int) (X : List Expl) : Prop:=X.length = o.length ∧ ∀ i (h1 : i < X.length) (h2 : i < o.length),ForR g p o o[i] X[i]
structure ASt where
 X : List Expl
set_option maxRecDepth 100000 in
set_option maxHeartbeats 4000000 in
theorem zuB (g : Gr) (p : Pol) (hg : GrOk g) (hp : zaV g.size p) (hs : p.seeds.length ≤ 64) :
  ∃ X,AllR g p (ordL (zai g p.lv) p.seeds) X ∧ zak Tryz.prog zez [eG g,eP p] [] (.tup [eXs X,.I 0]) []:=by
 refine zld.acallsX (args:=[eG g,eP p]) (hs:=[]) (fun X=>.tup [eXs X,.I 0]) (fun _=>[]) (fun X : List Expl=>AllR g p (ordL (zai g p.lv) p.seeds) X) (nbz rfl) (nbz rfl) (fun _=>Nat.le_refl _) ?_
 show awp _ 0 _ _ ⟨45,[(0,eG g),(1,eP p)],[],16⟩
 have hsz:=hg.1.1
 have hsz2:=hg.1.2.1
 have hel:=hg.edges_le
 have hgl:=hg.gone_le
 have hchk:=zbU g p (by omega) (by omega) (by omega) (by have:=hp.2.2.2.1; omega)
 rw [if_pos hg,if_pos hp] at hchk
 have hre:=zh6 g p hg (by omega)
 have hfor:=fun key h=>zu2 g p key hg hp hs h
 obtain ⟨o,ho⟩ : ∃ o,o = ordL (zai g p.lv) p.seeds:=⟨_,rfl⟩
 have hol : o.length ≤ 64:=by
  have h1:=zdD (g:=zai g p.lv) (S:=p.seeds) hsz
  have h2 : (zai g p.lv).size = g.size:=rfl
  rw [← ho] at h1
  omega
 rw [← ho] at hre hfor ⊢
 refine zaa ⟨45,[(2,.pv (gC g)),(3,.pv (pC p))],[],100⟩ rfl ?_ ?_
 ·simp
  exact LeH [] [16,24]
 refine zab ?_
 refine zaa ⟨45,[(2,.pv (gC g)),(3,.pv (pC p)),(6,.I 0)],[],200⟩ rfl ?_ ?_
 ·simp
  refine zal hchk (by simp) ?_
  simp
  exact LeH [] []
 refine zaa ⟨45,[(2,.pv (gC g)),(3,.pv (pC p)),(16,.B false)],[],300⟩ rfl ?_ ?_
 ·simp
  exact LeH [] []
 refine zac _ rfl (fun h=>by cases h) fun _=>?_
 refine zad ?_
 refine zaa ⟨45,[(2,.pv (gC g)),(3,.pv (pC p)),(7,ints o)],[],400⟩ rfl ?_ ?_
 ·simp
  refine zaM hre (by simp) ?_
  simp
  exact Le.go [] [316] rfl rfl (by simp [zaj,fcd]) (by simp)
 refine zaa ⟨45,[(2,.pv (gC g)),(3,.pv (pC p)),(7,ints o),(8,.nilS)],[],500⟩ rfl ?_ ?_
 ·simp
  exact LeH [] []
 refine zab ?_
 refine zaa ⟨45,[(2,.pv (gC g)),(3,.pv (pC p)),(7,ints o),(8,.nilS),(9,.I 0)],[],600⟩ rfl ?_ ?_
 ·simp
  exact LeH [] []
 refine zaf ?_
 refine zao (ι:=ASt) (fun s=>⟨45,[(2,.pv (gC g)),(3,.pv (pC p)),(7,ints o),(8,.rs 17 0 s.X.length),(9,.I s.X.length)],[(17,some ⟨5,s.X.map xE,0⟩)],600⟩)
  (fun s=>s.X.length ≤ o.length ∧ ∀ i (h1 : i < s.X.length) (h2 : i < o.length),ForR g p o o[i] s.X[i]) (fun s=>o.length - s.X.length) ⟨[]⟩ ⟨Nat.zero_le _,fun i h=>absurd h (Nat.not_lt_zero _)⟩
  (Le.lst [] [] [(17,5)] rfl (by simp) (by simp) (by simp) (by simp) (by simp) (by simp) (by simp) (by simp [Up]) (by simp)) ?_
 rintro ⟨X⟩ ⟨hX,hXr⟩
 simp only at hX hXr
 refine zab ?_
 refine zaa ⟨45,[(2,.pv (gC g)),(3,.pv (pC p)),(7,ints o),(8,.rs 17 0 X.length),(9,.I X.length),(24,.B (decide (X.length < o.length)))],[(17,some ⟨5,X.map xE,0⟩)],700⟩ rfl ?_ ?_
 ·simp
  exact LeI [(17,17)] []
 refine zac _ rfl (fun h5=>?_) fun h5=>?_
 ·simp at h5
  have hwi : IntKind.i64.wrap ((X.length : Int) + 1) = ((X.length + 1 : Nat) : Int):=by rw [w64 (by omega) (by omega)]; omega
  have hoi : o[X.length]? = some o[X.length]:=List.getElem?_eq_getElem h5
  obtain ⟨x,hx,hc⟩:=hfor _ (List.getElem_mem h5)
  obtain ⟨k,hk⟩ : ∃ k,k = o[X.length]:=⟨_,rfl⟩
  rw [← hk] at hoi hc
  refine zad ?_
  refine zab ?_
  refine zaf ?_
  refine zaq ⟨45,[(2,.pv (gC g)),(3,.pv (pC p)),(7,ints o),(8,.rs 17 0 X.length),(9,.I X.length),(10,.pv (xE x)),(11,.I 0)],[(17,some ⟨5,X.map xE,0⟩)],900⟩ rfl ?_ ?_
  ·simp [hoi,← hk,h5]
   refine zal hc (by simp) ?_
   simp
   exact ⟨rfl,LeI [(17,17)] [780]⟩
  refine zab ?_
  refine zaa ⟨45,[(2,.pv (gC g)),(3,.pv (pC p)),(7,ints o),(8,.rs 17 0 X.length),(9,.I X.length),(10,.pv (xE x)),(38,.B false)],[(17,some ⟨5,X.map xE,0⟩)],1000⟩ rfl ?_ ?_
  ·simp
   exact LeI [(17,17)] []
  refine zac _ rfl (fun h=>by cases h) fun _=>?_
  refine zad ?_
  have htX : ∀ h : Expl → List AV,List.take X.length (List.map h X) = List.map h X:=fun h=>List.take_of_length_le (by simp)
  refine zag (s:=?s19) rfl ?o19 ?q19
  case o19=>simp [htX]; refine ⟨by omega,by omega,?_⟩; rfl
  refine zag (s:=?s20) rfl ?o20 ?q20
  case o20=>simp; rfl
  have hxl : (X ++ [x]).length = X.length + 1:=by simp
  refine ⟨⟨X ++ [x]⟩,⟨by simp only [hxl]; omega,fun i h1 h2=>?_⟩,by simp only [hxl]; omega,Le.go [(1024,17)] [] rfl rfl (by simp [hwi]) (by simp [fcd])⟩
  have h1' : i < X.length + 1:=by rw [← hxl]; exact h1
  by_cases hi : i < X.length
  ·rw [List.getElem_append_left hi]
   exact hXr i hi h2
  ·obtain rfl : i = X.length:=by omega
   rw [List.getElem_concat_length rfl]
   exact hx
 simp at h5
 refine zam ?_
 refine hit ?_
 have htX : ∀ h : Expl → List AV,List.take X.length (List.map h X) = List.map h X:=fun h=>List.take_of_length_le (by simp)
 refine zaa ⟨45,[(4,eXs X),(5,.I 0)],[],800⟩ rfl ?_ ?_
 ·simp
  exact Le.go [] [17] rfl rfl (by simp [fcd,htX]) (by simp)
 refine zah ?_
 exact zdZ.mk (.inr rfl) X ⟨by omega,hXr⟩ (zan.out [] [] rfl (by simp) (by simp) (by simp) (by simp))
set_option maxRecDepth 100000 in
theorem zb6 (a b : List Int) (ha : a.length ≤ 140737488355328) (hb : b.length ≤ 140737488355328) : zak Tryz.prog zbJ [ints a,ints b] [] (.B (decide (a = b))) []:=by
 refine zjJ.acalls (nbz rfl) (nbz rfl) (Nat.le_refl _) ?_
 show awp _ 0 _ _ ⟨26,[(0,ints a),(1,ints b)],[],16⟩
 refine zaa ⟨26,[(0,ints a),(1,ints b)],[],100⟩ rfl ?_ ?_
 ·simp
  exact LeH [] []
 refine zab ?_
 refine zaa ⟨26,[(0,ints a),(1,ints b),(10,.B (!decide (a.length = b.length)))],[],200⟩ rfl ?_ ?_
 ·simp
  exact Le.go [] [] rfl rfl (by simp <;> exact wkB (by rw [Bool.eq_iff_iff]; simp; omega)) (by simp)
 refine zac _ rfl (fun h=>?_) fun h=>?_
 ·simp at h
  have hn : ¬ a = b:=fun e=>h (by rw [e])
  refine zaa ⟨26,[(4,.B false)],[],300⟩ rfl ?_ ?_
  ·simp
   exact LeH [] []
  refine zah ?_
  exact ⟨.inr rfl,zan.one (by simp [hn])⟩
 simp at h
 refine zad ?_
 refine zab ?_
 refine zaa ⟨26,[(0,ints a),(1,ints b),(5,.I 0)],[],300⟩ rfl ?_ ?_
 ·simp
  exact LeH [] []
 refine zaf ?_
 refine zao (ι:=Nat) (fun i=>⟨26,[(0,ints a),(1,ints b),(5,.I i)],[],300⟩) (fun i=>i ≤ a.length ∧ a.take i = b.take i) (fun i=>a.length - i) 0 (by simp) (LeH [] []) ?_
 rintro i ⟨hi,hp⟩
 refine zab ?_
 refine zaa ⟨26,[(0,ints a),(1,ints b),(5,.I i),(14,.B (decide (i < a.length)))],[],400⟩ rfl ?_ ?_
 ·simp
  exact LeH [] []
 refine zac _ rfl (fun h7=>?_) fun h7=>?_
 ·simp at h7
  have hib : i < b.length:=by omega
  have hw : IntKind.i64.wrap ((i : Int) + 1) = (i : Int) + 1:=w64 (by omega) (by omega)
  refine zad ?_
  refine zab ?_
  refine zaf ?_
  refine zaq ⟨26,[(0,ints a),(1,ints b),(5,.I i),(25,.B (!decide (a[i] = b[i])))],[],600⟩ rfl ?_ ?_
  ·simp [h7,hib]
   exact ⟨rfl,Le.go [] [] rfl rfl (by simp <;> exact wkB (by rw [Bool.eq_iff_iff]; simp)) (by simp)⟩
  refine zac _ rfl (fun h9=>?_) fun h9=>?_
  ·simp at h9
   have hn : ¬ a = b:=fun e=>by subst e; exact h9 rfl
   refine zaa ⟨26,[(4,.B false)],[],700⟩ rfl ?_ ?_
   ·simp
    exact LeH [] []
   refine zah ?_
   exact ⟨.inr rfl,zan.one (by simp [hn])⟩
  simp at h9
  refine zad ?_
  refine zag (s:=?s11) rfl ?o11 ?q11
  case o11=>simp; rfl
  refine ⟨i + 1,⟨h7,?_⟩,by omega,Le.go [] [] rfl rfl (by simp [hw]) (by simp)⟩
  rw [List.take_succ_eq_append_getElem h7,List.take_succ_eq_append_getElem hib,hp,h9]
 simp at h7
 have he : a = b:=by
  have h1 : i = a.length:=by omega
  rw [h1,List.take_length,h,List.take_length] at hp
  exact hp
 refine zam ?_
 refine hit ?_
 refine zaa ⟨26,[(4,.B true)],[],700⟩ rfl ?_ ?_
 ·simp
  exact LeH [] []
 refine zah ?_
 exact ⟨.inr rfl,zan.one (by simp [he])⟩
theorem wkX0 {k a b p s b' p' s' c : AV} (hb : Wk b b') (hp : Wk p p') (hs : Wk s s') : Wk (.tup [.agg [k,a,b,p,s],c]) (.tup [.agg [k,a,b',p',s'],c]):=by
 refine .tup _ _ rfl fun i=>?_
 match i with
 | 0 =>
   refine .agg _ _ rfl fun j=>?_
   match j with
   | 0=>exact .refl _
   | 1=>exact .refl _
   | 2=>exact hb
   | 3=>exact hp
   | 4=>exact hs
   | _ + 5=>exact .refl _
 | 1=>exact .refl _
 | _ + 2=>exact .refl _
set_option maxRecDepth 100000 in
set_option maxHeartbeats 4000000 in
theorem zvm (g : Gr) (p : Pol) (key : Int) (hg : GrOk g) (hp : zaV g.size p) (hs : p.seeds.length ≤ 64) (hkey : key ∉ ordL (zai g p.lv) p.seeds) :
  zak Tryz.prog zc3 [eG g,eP p,.I key] [] (.tup [eX ⟨0,false,[],[],[]⟩,.I 11]) []:=by
 refine zhI.acalls (nbz rfl) (nbz rfl) (Nat.le_refl _) ?_
 show awp _ 0 _ _ ⟨114,[(0,eG g),(1,eP p),(2,.I key)],[],16⟩
 have hsz:=hg.1.1
 have hsz2:=hg.1.2.1
 have hel:=hg.edges_le
 have hgl:=hg.gone_le
 have hchk:=zbU g p (by omega) (by omega) (by omega) (by have:=hp.2.2.2.1; omega)
 rw [if_pos hg,if_pos hp] at hchk
 have hre:=zh6 g p hg (by omega)
 obtain ⟨o,ho⟩ : ∃ o,o = ordL (zai g p.lv) p.seeds:=⟨_,rfl⟩
 have hor : ∀ k ∈ o,0 ≤ k ∧ k < g.size:=fun k hk=>by rw [ho] at hk; have h:=zbF hk; exact h
 have hol : o.length ≤ 64:=by
  have h1:=zdD (g:=zai g p.lv) (S:=p.seeds) hsz
  have h2 : (zai g p.lv).size = g.size:=rfl
  rw [← ho] at h1
  omega
 rw [← ho] at hre hkey
 have hh1:=zdl o key (by omega)
 rw [decide_eq_false hkey] at hh1
 refine zaa ⟨114,[(2,.I key),(3,.pv (gC g)),(4,.pv (pC p)),(6,.pt 32 0 0)],[(32,some ⟨5,[[.I 0,.B false,.nilS,.nilS,.nilS]],0⟩)],100⟩ rfl ?_ ?_
 ·simp
  exact LeH [(32,32)] [16,24]
 refine zab ?_
 refine zaa ⟨114,[(2,.I key),(3,.pv (gC g)),(4,.pv (pC p)),(6,.pt 32 0 0),(8,.I 0)],[(32,some ⟨5,[[.I 0,.B false,.nilS,.nilS,.nilS]],0⟩)],200⟩ rfl ?_ ?_
 ·simp
  refine zal hchk (by simp) ?_
  simp
  exact LeH [(32,32)] []
 refine zaa ⟨114,[(2,.I key),(3,.pv (gC g)),(4,.pv (pC p)),(6,.pt 32 0 0),(19,.B false)],[(32,some ⟨5,[[.I 0,.B false,.nilS,.nilS,.nilS]],0⟩)],300⟩ rfl ?_ ?_
 ·simp
  exact LeH [(32,32)] []
 refine zac _ rfl (fun h=>by cases h) fun _=>?_
 refine zad ?_
 refine zaa ⟨114,[(2,.I key),(3,.pv (gC g)),(4,.pv (pC p)),(6,.pt 32 0 0),(9,ints o)],[(32,some ⟨5,[[.I 0,.B false,.nilS,.nilS,.nilS]],0⟩)],400⟩ rfl ?_ ?_
 ·simp
  refine zaM hre (by simp) ?_
  simp
  exact Le.go [(32,32)] [316] rfl rfl (by simp [zaj,fcd]) (by simp)
 refine zab ?_
 refine zaa ⟨114,[(2,.I key),(3,.pv (gC g)),(4,.pv (pC p)),(6,.pt 32 0 0),(9,ints o),(28,.B true)],[(32,some ⟨5,[[.I 0,.B false,.nilS,.nilS,.nilS]],0⟩)],500⟩ rfl ?_ ?_
 ·simp
  refine zal hh1 (by simp) ?_
  simp
  exact LeH [(32,32)] []
 refine zac _ rfl (fun _=>?_) fun h=>by cases h
 refine zaa ⟨114,[(6,.pt 32 0 0),(7,.I 11)],[(32,some ⟨5,[[.I 0,.B false,.nilS,.nilS,.nilS]],0⟩)],700⟩ rfl ?_ ?_
 ·simp [zaw]
  exact LeH [(32,32)] []
 refine zah ?_
 exact ⟨.inr rfl,zan.out [] [] rfl (by simp) (by simp) (by simp; exact wkX0 (.nil _ _) (.nil _ _) (.nil _ _)) (by simp)⟩
structure zwA (x : Expl) (m : Nat) : Prop where
 b : x.before.length ≤ m
 p : x.paths.length ≤ m
 w : ∀ w ∈ x.paths,w.length ≤ m
 s : x.side.length ≤ m
variable {g : Gr} {p : Pol}
theorem zmK : ∀ (b a : List Int),∃ l,accR g p (a ++ b) = accR g p a ++ l ∧ ∀ x ∈ l,x ∈ b
 | [],a=>⟨[],by simp,by simp⟩
 | x :: b,a=>by
   obtain ⟨l,hl,hm⟩:=zmK b (a ++ [x])
   have e : a ++ x :: b = a ++ [x] ++ b:=by simp
   rw [e,hl]
   rcases zjH (g:=g) (p:=p) a x with h | h
   ·exact ⟨l,by rw [h],fun y hy=>List.mem_cons_of_mem _ (hm y hy)⟩
   ·refine ⟨[x] ++ l,by rw [h,List.append_assoc],fun y hy=>?_⟩
    rcases List.mem_append.1 hy with h | h
    ·rw [List.mem_singleton.1 h]; exact List.mem_cons_self
    ·exact List.mem_cons_of_mem _ (hm y h)
theorem zmx {o : List Int} (hn : o.Nodup) {i : Nat} (h : i < o.length) : o[i] ∈ accR g p o ↔ zat g p (zav (accR g p (o.take i) ++ [o[i]])):=by
 have hs : o.take (i + 1) = o.take i ++ [o[i]]:=List.take_succ_eq_append_getElem h
 obtain ⟨l,hl,hm⟩:=zmK (g:=g) (p:=p) (o.drop (i + 1)) (o.take (i + 1))
 rw [List.take_append_drop] at hl
 have hni : o[i] ∉ o.take i:=fun hx=>by
  obtain ⟨j,hj,e⟩:=List.mem_take_iff_getElem.1 hx
  have:=(List.getElem_inj hn).1 e
  omega
 have hnd : o[i] ∉ o.drop (i + 1):=fun hx=>by
  obtain ⟨j,hj,e⟩:=List.mem_drop_iff_getElem.1 hx
  have:=(List.getElem_inj hn).1 e
  omega
 constructor
 ·intro hx
  by_cases hc : zat g p (zav (accR g p (o.take i) ++ [o[i]]))
  ·exact hc
  ·rw [hl,hs,zh8 hc] at hx
   rcases List.mem_append.1 hx with h1 | h1
   ·exact absurd (zhi h1) hni
   ·exact absurd (hm _ h1) hnd
 ·intro hc
  rw [hl,hs,zeh hc]
  exact List.mem_append_left _ (List.mem_append_right _ (List.mem_singleton.2 rfl))
theorem zpw {o : List Int} (hn : o.Nodup) : ∀ i,i ≤ o.length → befL o (accR g p o) i = accR g p (o.take i)
 | 0,_=>by simp [befL,zi5]
 | i + 1,h=>by
   have hi : i < o.length:=h
   rw [zjW hi,zpw hn i (by omega),List.take_succ_eq_append_getElem hi]
   by_cases hc : zat g p (zav (accR g p (o.take i) ++ [o[i]]))
   ·rw [if_pos ((zmx hn hi).2 hc),zeh hc]
   ·rw [if_neg (fun h=>hc ((zmx hn hi).1 h)),zh8 hc,List.append_nil]
theorem zkM {l : List Int} (h : l.Pairwise (· < ·)) : l.Nodup:=h.imp fun h=>by omega
theorem zjQ {a : List Int} (hn : a.Nodup) (hr : ∀ k ∈ a,0 ≤ k ∧ k < 64) : a.Perm (zav a):=by
 rw [← zi6 hn hr]
 exact (zf3 a).symm
theorem zmt {a : List Int} (hn : a.Nodup) (hr : ∀ k ∈ a,0 ≤ k ∧ k < 64) : (zav a).length = a.length:=(zjQ hn hr).length_eq.symm
structure AtO (g : Gr) (p : Pol) (key : Int) (before : List Int) : Prop where
 mem : key ∈ ordL (zai g p.lv) p.seeds
 bef : zfV (ordL (zai g p.lv) p.seeds) before key
 nodup : (before ++ [key]).Nodup
 range : ∀ k ∈ before ++ [key],0 ≤ k ∧ k < g.size
 serve : key ∈ accR g p (ordL (zai g p.lv) p.seeds) ↔ zat g p (zav (before ++ [key]))
theorem zok {o : List Int} (hn : o.Nodup) {i : Nat} (h : i < o.length) : zhF o o[i] = o.take i:=by
 unfold zhF
 rw [List.takeWhile_eq_take_findIdx_not]
 congr 1
 rw [List.findIdx_eq h]
 refine ⟨by simp,fun j hj=>?_⟩
 have : o[j] ≠ o[i]:=fun e=>by have:=(List.getElem_inj hn).1 e; omega
 simp [this]
theorem ForR.at_ {key : Int} {x : Expl} (h : ForR g p (ordL (zai g p.lv) p.seeds) key x) (hg : GrOk g) : x.key = key ∧ AtO g p key x.before ∧ ∃ i,∃ hi : i < (ordL (zai g p.lv) p.seeds).length,(ordL (zai g p.lv) p.seeds)[i] = key ∧ x.before = accR g p ((ordL (zai g p.lv) p.seeds).take i):=by
 have hn:=zbK (zai g p.lv) p.seeds
 have hr : ∀ k ∈ ordL (zai g p.lv) p.seeds,0 ≤ k ∧ k < g.size:=fun k hk=>by have h:=zbF hk; exact h
 obtain ⟨o,ho⟩ : ∃ o,o = ordL (zai g p.lv) p.seeds:=⟨_,rfl⟩
 rw [← ho] at h hn hr ⊢
 obtain ⟨i,hi,hk,hb⟩:=h.bef
 rw [zpw hn i (by omega)] at hb
 refine ⟨h.key_,?_,i,hi,hk,hb⟩
 have hsub : x.before.Sublist (zhF o key):=by
  rw [hb,← hk,zok hn hi]
  exact zhj _ _ rfl
 refine ⟨by rw [← ho,← hk]; exact List.getElem_mem hi,by rw [← ho]; exact hsub,zfV.nodup (order:=o) hsub hn,fun k hkm=>?_,?_⟩
 ·rcases List.mem_append.1 hkm with h1 | h1
  ·refine hr k ?_
   rw [hb] at h1
   exact List.mem_of_mem_take (zhi h1)
  ·rw [List.mem_singleton.1 h1,← hk]; exact hr _ (List.getElem_mem hi)
 ·rw [← ho,hb,← hk]
  exact zmx hn hi
theorem AtO.joined {key : Int} {before : List Int} (h : AtO g p key before) (hg : GrOk g) : (zav (before ++ [key])).Nodup ∧ (before ++ [key]).Perm (zav (before ++ [key])) ∧ (∀ x ∈ zav (before ++ [key]),0 ≤ x ∧ x < g.size):=by
 have h64:=hg.1.2.1
 have hr : ∀ k ∈ before ++ [key],0 ≤ k ∧ k < 64:=fun k hk=>⟨(h.range k hk).1,by have:=(h.range k hk).2; omega⟩
 exact ⟨zkM (zeb _),zjQ h.nodup hr,fun x hx=>h.range x (zcL.1 hx).1⟩
theorem zoz {key : Int} {before : List Int} {W : List (List Nat)} (hg : GrOk g) (hp : zaV g.size p) (ha : AtO g p key before) (hc : zat g p (zav (before ++ [key]))) (hW : zjk g p (before ++ [key]) W) :
  zfW g p.lv p.seeds (ordL (zai g p.lv) p.seeds) (zaC g p) (W.map (zaY (netA g p (zav (before ++ [key]))))) (before ++ [key]):=by
 obtain ⟨f,g',hgf,ht,hl,_⟩:=hW
 obtain ⟨j1,j2,j3⟩:=ha.joined hg
 refine znN hg hp j1 (fun x hx=>(j3 x hx).1) j2 hgf.ok.fit ht.ways (fun i _=>?_) ?_
 ·have h1:=ht.used i
  have h2:=ht.bal.nonneg i
  omega
 ·have : maxF (netN g) (netA g p (zav (before ++ [key]))) = (zav (before ++ [key])).length:=hc
  omega
theorem ForR.yes_serves {key : Int} {x : Expl} (h : ForR g p (ordL (zai g p.lv) p.seeds) key x) (hg : GrOk g) (hp : zaV g.size p) (hk : key ∈ accR g p (ordL (zai g p.lv) p.seeds)) :
  zfW g p.lv p.seeds (ordL (zai g p.lv) p.seeds) (zaC g p) x.paths (x.before ++ [key]):=by
 obtain ⟨_,ha,_⟩:=h.at_ hg
 obtain ⟨_,_,W,hW,hpa⟩:=h.yes hk
 rw [hpa]
 exact zoz hg hp ha (ha.serve.1 hk) hW
theorem ForR.no_proves {key : Int} {x : Expl} (h : ForR g p (ordL (zai g p.lv) p.seeds) key x) (hg : GrOk g) (hp : zaV g.size p) (hk : key ∉ accR g p (ordL (zai g p.lv) p.seeds)) :
  zor ⟨2 + 2 * g.size,zaX g p (zaC g p) (zav (x.before ++ [key]))⟩ x.side x.before.length:=by
 obtain ⟨_,ha,i,hi,hik,hib⟩:=h.at_ hg
 obtain ⟨_,_,R,hR,hs⟩:=h.no hk
 obtain ⟨i',hi',hik',hn⟩:=hR.right _ hs
 simp only at hik' hn
 have hii : i' = i:=(List.getElem_inj (zbK (zai g p.lv) p.seeds)).1 (hik'.trans hik.symm)
 subst hii
 rw [← hib] at hn
 obtain ⟨j1,j2,j3⟩:=ha.joined hg
 have hfew:=zf8 hg hp j3
 have hno : maxF (netN g) (netA g p (zav (x.before ++ [key]))) ≠ (zav (x.before ++ [key])).length:=hn.no
 have hlen:=j2.length_eq
 rw [List.length_append,List.length_singleton] at hlen
 have hcut:=hn.cut
 have hok:=hn.ok
 rw [ze2 hg] at hok
 exact ⟨hok,by rw [hcut]; omega⟩
theorem ForR.checked {key : Int} {x : Expl} (h : ForR g p (ordL (zai g p.lv) p.seeds) key x) (hg : GrOk g) (hp : zaV g.size p) : zs5 g p x = 0:=by
 rw [zqC hg.1.2.1]
 obtain ⟨hk,ha,_⟩:=h.at_ hg
 unfold zsJ
 simp only
 rw [hk,if_neg (by simpa using ha.mem)]
 by_cases hacc : key ∈ accR g p (ordL (zai g p.lv) p.seeds)
 ·obtain ⟨h1,h2,_⟩:=h.yes hacc
  rw [if_neg (by rw [h1,h2]; simpa using ha.bef),if_pos h1,if_pos (h.yes_serves hg hp hacc)]
 ·obtain ⟨h1,h2,_⟩:=h.no hacc
  rw [if_neg (by rw [h1,h2]; simpa using ha.bef),if_neg (by rw [h1]; simp),if_pos (h.no_proves hg hp hacc)]
theorem ForR.bounds {key : Int} {x : Expl} (h : ForR g p (ordL (zai g p.lv) p.seeds) key x) (hg : GrOk g) (hp : zaV g.size p) : zwA x 200:=by
 have hol : (ordL (zai g p.lv) p.seeds).length ≤ 64:=by
  have h1:=zdD (g:=zai g p.lv) (S:=p.seeds) hg.1.1
  have h2 : (zai g p.lv).size = g.size:=rfl
  have h3:=hg.1.2.1
  omega
 obtain ⟨_,ha,i,hi,hik,hib⟩:=h.at_ hg
 obtain ⟨j1,j2,j3⟩:=ha.joined hg
 have hbl : x.before.length ≤ 64:=by
  rw [hib]
  refine Nat.le_trans (zgP _) ?_
  rw [List.length_take]; omega
 by_cases hacc : key ∈ accR g p (ordL (zai g p.lv) p.seeds)
 ·obtain ⟨_,h2,W,⟨f,g',_,_,hl,hw⟩,hpa⟩:=h.yes hacc
  have hfew:=zf8 hg hp j3
  have hjl:=zcS (x.before ++ [key])
  refine ⟨by omega,by rw [hpa,List.length_map]; omega,fun w hw'=>?_,by rw [h2]; simp⟩
  rw [hpa] at hw'
  obtain ⟨v,hv,rfl⟩:=List.mem_map.1 hw'
  have:=znR (netA g p (zav (x.before ++ [key]))) v
  have:=hw v hv
  omega
 ·obtain ⟨_,h2,R,hR,hs⟩:=h.no hacc
  obtain ⟨i',hi',hik',hn⟩:=hR.right _ hs
  have:=hn.len
  simp only at this
  refine ⟨by omega,by rw [h2]; simp,fun w hw=>?_,by omega⟩
  rw [h2] at hw
  cases hw
theorem zjl (l : List Int) (hl : l.length ≤ 1099511627776) : zak Tryz.prog zfc [ints l] [] (.rs 0 0 l.length) [some ⟨1,zae (srt l),0⟩]:=by
 refine zlX.acalls (nbz rfl) (nbz rfl) (Nat.zero_le _) ?_
 show awp _ 0 _ _ ⟨6,[(0,ints l)],[],16⟩
 have hs : zak Tryz.prog zba [seqF l] [] (.rs 0 0 l.length) [some ⟨1,zae (srt l),0⟩]:=znT l hl
 refine rx (s:=?s1) [0] [] [] rfl ?o1 ?q1
 case o1=>simp; rfl
 refine zaa ⟨6,[(2,.rs 50 0 l.length)],[(50,some ⟨1,zae (srt l),0⟩)],100⟩ rfl ?_ ?_
 ·simp
  refine zal (zmV l) (by simp) ?_
  simp
  refine zaM hs (by simp [conv]) ?_
  simp
  exact LeI [(40,50)] []
 refine zah ?_
 exact ⟨.inr rfl,zan.out [50] [] rfl (by simp) (by simp) (by simp) (by simp [fcd])⟩
theorem zj4 (g : Gr) (p : Pol) (hg : GrOk g) (hN : g.size < 20) (hs : p.seeds.length ≤ 1099511627776) : zak Tryz.prog zeQ [eG g,eP p] [] (.rs 0 0 (ordL (zai g p.lv) p.seeds).length) [some ⟨1,zae (ordL (zai g p.lv) p.seeds),0⟩]:=by
 refine zlY.acalls (nbz rfl) (nbz rfl) (Nat.zero_le _) ?_
 show awp _ 0 _ _ ⟨12,[(0,eG g),(1,eP p)],[],16⟩
 have hel:=hg.edges_le
 have hgl:=hg.gone_le
 have hsz:=hg.1.2.1
 have hlev:=zdq g p.lv (by omega) (by omega)
 have hord:=zeK (g:=zai g p.lv) (S:=p.seeds) (hg.level p.lv) hN hs
 obtain ⟨o,ho⟩ : ∃ o,o = ordL (zai g p.lv) p.seeds:=⟨_,rfl⟩
 rw [← ho] at hord ⊢
 refine rx (s:=?s1) [2,3] [] [16,24] rfl ?o1 ?q1
 case o1=>simp; rfl
 refine zaq ⟨12,[(4,.rs 50 0 o.length)],[(50,some ⟨1,zae o,0⟩)],200⟩ rfl ?_ ?_
 ·simp
  refine zal hlev (by simp) ?_
  simp
  refine zaM hord (by simp) ?_
  simp
  exact ⟨rfl,LeI [(88,50)] []⟩
 refine zah ?_
 exact ⟨.inr rfl,zan.out [50] [] rfl (by simp) (by simp) (by simp) (by simp [fcd])⟩
theorem zks (l : List Int) (x : Int) (hl : l.length ≤ 1000000) : zak Tryz.prog zfu [ints l,.I x] [] (.rs 0 0 (l.length + 1)) [some ⟨1,zae (l ++ [x]),0⟩]:=by
 refine znK.acalls (nbz rfl) (nbz rfl) (Nat.zero_le _) ?_
 show awp _ 0 _ _ ⟨14,[(0,ints l),(1,.I x)],[],16⟩
 refine rx (s:=?s1) [0,1] [] [] rfl ?o1 ?q1
 case o1=>simp; rfl
 refine zaa ⟨14,[(4,.rs 50 0 (l.length + 1))],[(50,some ⟨1,zae (l ++ [x]),0⟩)],200⟩ rfl ?_ ?_
 ·have hsl : ∀ {id : Nat} {h : Nat → Option Ent} {K : AV → List Nat → List (Nat × Option Ent) → Prop},K (.vs 1 true (l.map fun n=>[AV.I n])) [] [] → aK Tryz.prog 0 id (.slc 1 false true true) [ints l,.I (l.length : Nat),.I (l.length : Nat)] h K:=fun hK=>by
   rw [ziD]
   refine ⟨0,l.length,l.length,l.length,by simp,Nat.zero_le _,rfl,by simp,by simp,by simp,Nat.le_refl _,fun _=>rfl,rfl,?_⟩
   rw [List.drop_zero,Nat.sub_zero,List.take_of_length_le (by simp)]
   exact hK
  simp
  refine hsl ?_
  simp
  exact ⟨by omega,by omega,LeI [(88,50)] []⟩
 refine zah ?_
 exact ⟨.inr rfl,zan.out [50] [] rfl (by simp) (by simp) (by simp) (by simp [fcd])⟩
theorem zeD (g : Gr) (p : Pol) (ks : List Int) (hg : GrOk g) (hp : zaV g.size p) (hk : ks.Nodup) (hr : ∀ k ∈ ks,0 ≤ k ∧ k < g.size) (hs : p.seeds.length ≤ 64) : zak Tryz.prog zcK [eG g,eP p,ints ks] [] (eN ⟨netN g,netA g p (zav ks)⟩) []:=by
 refine zj9.acalls (nbz rfl) (nbz rfl) (Nat.zero_le _) ?_
 show awp _ 0 _ _ ⟨18,[(0,eG g),(1,eP p),(2,ints ks)],[],16⟩
 have hsz:=hg.1.2.1
 have hr64 : ∀ k ∈ ks,0 ≤ k ∧ k < 64:=fun k h=>by have:=hr k h; omega
 have hlen:=zmt hk hr64
 have hJl:=zcS ks
 have hsort:=zjl ks (by omega)
 rw [zi6 hk hr64,← hlen] at hsort
 have hnet:=zfo g p (zav ks) hg hp (zey hr) hs hJl
 rw [← ze2 hg,show zaX g p (zaC g p) (zav ks) = netA g p (zav ks) from rfl] at hnet
 obtain ⟨J,hJ⟩ : ∃ J,J = zav ks:=⟨_,rfl⟩
 obtain ⟨A,hA⟩ : ∃ A,A = netA g p (zav ks):=⟨_,rfl⟩
 rw [← hA] at hnet ⊢
 rw [← hJ] at hnet hsort
 refine rx (s:=?s1) [2,3,4,6] [32] [16,24] rfl ?o1 ?q1
 case o1=>simp; rfl
 refine zaq ⟨18,[(6,.pt 32 0 0),(7,.pv (nC ⟨netN g,A⟩))],[(32,some ⟨2,[[.I 0,.nilS]],0⟩)],300⟩ rfl ?_ ?_
 ·simp
  refine zaM hsort (by simp) ?_
  simp
  refine zlb [64] (by simp) hnet (by simp [fcd,zaj]) ?_
  simp
  exact ⟨rfl,LeH [(32,32)] [104]⟩
 refine zaa ⟨18,[(6,.pt 32 0 0)],[(32,some ⟨2,[nC ⟨netN g,A⟩],0⟩)],400⟩ rfl ?_ ?_
 ·simp [zaw]
  exact LeH [(32,32)] []
 refine zah ?_
 exact ⟨.inr rfl,zan.out [] [32] rfl (by simp) (by simp) (by simp) (by simp)⟩
def zvG (N : Nat) (A : List Ed) (f : List Int) : Prop:=zaE N A f ∧ ∀ f',zaE N A f' → valF A f' ≤ valF A f
theorem zkF (N : Nat) (A : List Ed) (k : Int) (hn : za7 ⟨N,A⟩) :
  ∃ f : List Int,zvG N A f ∧ zak Tryz.prog zcN [eN ⟨N,A⟩,.I k] [] (.tup [.rs 0 0 A.length,.B (decide (valF A f = k))]) [some ⟨1,zae f,0⟩]:=by
 obtain ⟨f,hf,hmax⟩:=zlo N A hn
 refine ⟨f,hf,?_⟩
 have hfl:=hf.1.fit.len
 have hal:=hn.2.2.1
 simp only at hal
 have hval:=zhw (f:=f) hn (by omega)
 rw [if_pos hf.1] at hval
 have htake : ∀ g : Int → List AV,List.take A.length (List.map g f) = List.map g f:=fun g=>List.take_of_length_le (by simp; omega)
 refine zmF.acalls (nbz rfl) (nbz rfl) (Nat.zero_le _) ?_
 show awp _ 0 _ _ ⟨19,[(0,eN ⟨N,A⟩),(1,.I k)],[],16⟩
 refine rx (s:=?s1) [1,2] [] [16] rfl ?o1 ?q1
 case o1=>simp; rfl
 refine zaa ⟨19,[(1,.I k),(2,.pv (nC ⟨N,A⟩)),(6,.rs 50 0 A.length)],[(50,some ⟨1,zae f,0⟩)],100⟩ rfl ?_ ?_
 ·simp
  refine zaM hmax (by simp) ?_
  simp
  exact LeI [(48,50)] []
 refine zaa ⟨19,[(4,.rs 50 0 A.length),(5,.B (decide (valF A f = k)))],[(50,some ⟨1,zae f,0⟩)],200⟩ rfl ?_ ?_
 ·simp
  refine zeG [50] hval (by simp [fcd,htake,hfl]) (.sc _) ?_
  simp
  exact Le.go [(50,50)] [] rfl rfl (by simp <;> exact wkB (by rw [Bool.eq_iff_iff]; simp)) (by simp [fcd])
 refine zah ?_
 exact ⟨.inr rfl,zan.out [50] [] rfl (by simp) (by simp) (by simp) (by simp [fcd])⟩
abbrev eRf (r : Int × List Int) : AV:=.agg [.I r.1,ints r.2]
theorem zmb (f : FuncId) (capt : List AV) (q : Int × List Int → Bool) (l : List (Int × List Int)) (hl : l.length ≤ 1099511627776) (hs : zhx capt) (hc : ∀ e ∈ l,zak Tryz.prog f (eRf e :: capt) [] (.B (q e)) []) : zak Tryz.prog zaK [.vs 2 false (zaZ l),.fn (.func f) [] capt] [] (.I (idxQ l q)) []:=by
 have hs2 : ∀ ρ sn h,capt.map (conv ρ sn h 2) = capt:=fun _ _ _=>hs _ _ _ 1
 have hs3 : ∀ ρ sn h,capt.map (conv ρ sn h 3) = capt:=fun _ _ _=>hs _ _ _ 2
 have hs4 : ∀ ρ sn h,capt.map (conv ρ sn h 4) = capt:=fun _ _ _=>hs _ _ _ 3
 refine zbS.acalls (nbz rfl) (nbz rfl) (Nat.le_refl _) ?_
 show awp _ 0 _ _ ⟨19,[(0,.vs 2 false (zaZ l)),(1,.fn (.func f) [] capt)],[],16⟩
 refine zab ?_
 refine zag (s:=?s1) rfl ?o1 ?q1
 case o1=>simp; rfl
 refine zab ?_
 refine zab ?_
 refine zag (s:=?s2) rfl ?o2 ?q2
 case o2=>simp; rfl
 refine zaf ?_
 refine zao (ι:=Nat) (fun k=>⟨19,[(0,.vs 2 false (zaZ l)),(1,.fn (.func f) [] capt),(7,.I l.length),(8,.I k)],[],16⟩) (fun k=>k ≤ l.length ∧ ∀ i,i < k → ∀ h : i < l.length,q l[i] = false) (fun k=>l.length - k) (0) ?_ (Le.snap [] rfl rfl (by simp [hs2,hs3,hs4])) ?_
 ·simp
 rintro k ⟨hk,hp⟩
 refine zab ?_
 refine zag (s:=?s3) rfl ?o3 ?q3
 case o3=>simp; rfl
 refine zab ?_
 refine zac _ rfl (fun h4=>?_) fun h4=>?_
 ·try simp at h4
  have hw2 : IntKind.i64.wrap ((k : Int) + 1) = (k : Int) + 1:=w64 (by omega) (by omega)
  have hck:=hc l[k] (List.getElem_mem h4)
  refine zad ?_
  refine zab ?_
  refine zaf ?_
  refine zab ?_
  refine zag (s:=?s5) rfl ?o5 ?q5
  case o5=>simp [h4,hw2]; rfl
  refine zab ?_
  refine zag (s:=?s6) rfl ?o6 ?q6
  case o6 =>
   simp [h4,hw2]
   refine zal hck ?_ ?_
   ·simp [hs2,hs3,hs4]
   simp [h4,hw2]; rfl
  refine zac _ rfl (fun h7=>?_) fun h7=>?_
  ·try simp at h7
   refine zab ?_
   refine zag (s:=?s8) rfl ?o8 ?q8
   case o8=>simp [h4,hw2]; rfl
   refine zah ?_
   exact ⟨.inr rfl,zan.one (by simp [zmE h4 hp h7])⟩
  try simp at h7
  refine zad ?_
  refine zag (s:=?s9) rfl ?o9 ?q9
  case o9=>simp [h4,hw2]; rfl
  refine ⟨k + 1,⟨h4,fun i hi=>?_⟩,by omega,Le.snap [] rfl rfl (by simp [h4,hw2,hs2,hs3,hs4])⟩
  rcases Nat.lt_succ_iff_lt_or_eq.1 hi with h | rfl
  ·exact hp i h
  ·exact fun _=>h7
 try simp at h4
 have hall : ∀ i,i < l.length → ∀ h : i < l.length,q l[i] = false:=fun i hi=>hp i (by omega)
 refine zam ?_
 refine hit ?_
 refine zab ?_
 refine zag (s:=?s10) rfl ?o10 ?q10
 case o10=>simp; rfl
 refine zah ?_
 exact ⟨.inr rfl,zan.one (by simp [zmk hall])⟩
theorem zkn (r : Int × List Int) (k : Int) : zak Tryz.prog zbt [eRf r,.pv [.I k]] [] (.B (decide (r.1 = k))) []:=by
 refine zfC.acalls (nbz rfl) (nbz rfl) (Nat.zero_le _) ?_
 show awp _ 0 _ _ ⟨8,[(0,eRf r),(1,.pv [.I k])],[],16⟩
 refine zaa ⟨8,[(1,.pv [.I k]),(2,.pv [.I r.1,ints r.2])],[],100⟩ rfl ?_ ?_
 ·simp
  exact LeH [] [16]
 refine zaa ⟨8,[(3,.B (decide (r.1 = k)))],[],200⟩ rfl ?_ ?_
 ·simp
  exact Le.go [] [] rfl rfl (by simp <;> exact wkB (by rw [Bool.eq_iff_iff]; simp)) (by simp)
 refine zah ?_
 exact ⟨.inr rfl,zan.one (by simp)⟩
theorem znl (g : Gr) (N : Int) (A : List Ed) (w : List Int) (hA : A.length ≤ 1000000) (hw : w.length ≤ 1000000) : zak Tryz.prog zbr [ints w,.pv (gC g),.pv (nC ⟨N,A⟩)] [] (.tup [ints (zhn g.size A w),.I (zjo g.size A w)]) []:=by
 refine zg1.acalls (nbz rfl) (nbz rfl) (Nat.zero_le _) ?_
 show awp _ 0 _ _ ⟨14,[(0,ints w),(1,.pv (gC g)),(2,.pv (nC ⟨N,A⟩))],[],16⟩
 have hk:=zkk g.size A w hA hw
 refine zaa ⟨14,[(0,ints w),(1,.pv (gC g)),(2,.pv (nC ⟨N,A⟩))],[],100⟩ rfl ?_ ?_
 ·simp
  exact LeH [] []
 refine zaa ⟨14,[(4,ints (zhn g.size A w)),(5,.I (zjo g.size A w))],[],200⟩ rfl ?_ ?_
 ·simp
  refine zal hk (by simp) ?_
  simp
  exact LeH [] []
 refine zah ?_
 exact ⟨.inr rfl,zan.out [] [] rfl (by simp) (by simp) (by simp) (by simp)⟩
def tkL {α : Type} (l : List α) (i : Nat) : List α:=l.take i
theorem zpD {α : Type} (l : List α) : tkL l 0 = []:=rfl
theorem zpV {α : Type} {l : List α} {i : Nat} (h : i < l.length) : tkL l (i + 1) = tkL l i ++ [l[i]]:=List.take_succ_eq_append_getElem h
theorem zpm {α : Type} {l : List α} {i : Nat} (h : i ≤ l.length) : (tkL l i).length = i:=by unfold tkL; rw [List.length_take]; omega
theorem zsr {α : Type} (l : List α) : tkL l l.length = l:=List.take_length
set_option maxRecDepth 100000 in
set_option maxHeartbeats 2000000 in
theorem zqr (f : FuncId) (capt : List AV) (F : List Int → List Int) (W : List (List Int)) (hW : W.length ≤ 1000000000000) (hs : zhx capt) (hc : ∀ w ∈ W,zak Tryz.prog f (ints w :: capt) [] (.tup [ints (F w),.I 0]) []) :
  zak Tryz.prog zbx [zaS W,.fn (.func f) [] capt] [] (.tup [zaS (W.map F),.I 0]) []:=by
 have hs2 : ∀ ρ sn h,capt.map (conv ρ sn h 2) = capt:=fun _ _ _=>hs _ _ _ 1
 have hs3 : ∀ ρ sn h,capt.map (conv ρ sn h 3) = capt:=fun _ _ _=>hs _ _ _ 2
 have hs4 : ∀ ρ sn h,capt.map (conv ρ sn h 4) = capt:=fun _ _ _=>hs _ _ _ 3
 refine zeo.acalls (nbz rfl) (nbz rfl) (Nat.zero_le _) ?_
 show awp _ 0 _ _ ⟨32,[(0,zaS W),(1,.fn (.func f) [] capt)],[],16⟩
 refine zaa ⟨32,[(0,zaS W),(1,.fn (.func f) [] capt)],[],100⟩ rfl ?_ ?_
 ·simp
  exact Le.go [] [] rfl rfl (by simp [hs3]) (by simp)
 refine zaa ⟨32,[(0,zaS W),(1,.fn (.func f) [] capt),(6,.nilS)],[],200⟩ rfl ?_ ?_
 ·simp
  exact Le.go [] [] rfl rfl (by simp [hs3]) (by simp)
 refine zab ?_
 refine zaa ⟨32,[(1,.fn (.func f) [] capt),(6,.nilS),(11,zaS W),(12,.I W.length),(13,.I 0)],[],300⟩ rfl ?_ ?_
 ·simp
  exact Le.go [] [] rfl rfl (by simp [hs3]) (by simp)
 refine zaf ?_
 refine zao (ι:=Nat) (fun i=>⟨32,[(1,.fn (.func f) [] capt),(6,.rs 17 0 i),(11,zaS W),(12,.I W.length),(13,.I i)],[(17,some ⟨1,(tkL W i).map fun w=>[ints (F w)],0⟩)],300⟩)
  (fun i=>i ≤ W.length) (fun i=>W.length - i) 0 (Nat.zero_le _) (Le.lst [] [] [(17,1)] rfl (by simp) (by simp) (by simp) (by simp) (by simp) (by simp) (by simp) (by simp [Up,hs3]) (by simp [zpD])) ?_
 intro i hi
 have hlt : (tkL W i).length = i:=zpm hi
 refine zaa ⟨32,[(1,.fn (.func f) [] capt),(6,.rs 17 0 i),(11,zaS W),(12,.I W.length),(13,.I i),(14,.B (decide (i < W.length)))],[(17,some ⟨1,(tkL W i).map fun w=>[ints (F w)],0⟩)],400⟩ rfl ?_ ?_
 ·simp
  exact Le.go [(17,17)] [] rfl rfl (by simp [hs3]) (by simp [fcd])
 refine zab ?_
 refine zac _ rfl (fun h5=>?_) fun h5=>?_
 ·rw [decide_eq_true_eq] at h5
  have hwi : IntKind.i64.wrap ((i : Int) + 1) = ((i + 1 : Nat) : Int):=by rw [w64 (by omega) (by omega)]; omega
  have hck:=hc W[i] (List.getElem_mem h5)
  have htk:=zpV h5
  obtain ⟨w,hw⟩ : ∃ w,w = W[i]:=⟨_,rfl⟩
  rw [← hw] at hck htk
  obtain ⟨T,hT⟩ : ∃ T,T = tkL W i:=⟨_,rfl⟩
  rw [← hT] at hlt htk ⊢
  have hTt : ∀ h : List Int → List AV,List.take i (List.map h T) = List.map h T:=fun h=>List.take_of_length_le (by simp; omega)
  refine zad ?_
  refine zab ?_
  refine zaf ?_
  refine zaa ⟨32,[(1,.fn (.func f) [] capt),(6,.rs 17 0 i),(8,ints w),(11,zaS W),(12,.I W.length),(13,.I i)],[(17,some ⟨1,T.map fun w=>[ints (F w)],0⟩)],500⟩ rfl ?_ ?_
  ·simp [h5,← hw]
   exact Le.go [(17,17)] [] rfl rfl (by simp [hs3]) (by simp [fcd])
  refine zaa ⟨32,[(1,.fn (.func f) [] capt),(6,.rs 17 0 i),(9,ints (F w)),(10,.I 0),(11,zaS W),(12,.I W.length),(13,.I i)],[(17,some ⟨1,T.map fun w=>[ints (F w)],0⟩)],600⟩ rfl ?_ ?_
  ·simp
   refine zal hck ?_ ?_
   ·simp [hs2,hs3,hs4]
   simp
   exact Le.go [(17,17)] [] rfl rfl (by simp [hs3]) (by simp [fcd])
  refine zab ?_
  refine zaa ⟨32,[(1,.fn (.func f) [] capt),(6,.rs 17 0 i),(9,ints (F w)),(11,zaS W),(12,.I W.length),(13,.I i),(24,.B false)],[(17,some ⟨1,T.map fun w=>[ints (F w)],0⟩)],700⟩ rfl ?_ ?_
  ·simp
   exact Le.go [(17,17)] [] rfl rfl (by simp [hs3]) (by simp [fcd])
  refine zac _ rfl (fun h=>by cases h) fun _=>?_
  refine zad ?_
  refine zar rfl ?_
  simp [hTt,hlt]
  refine ⟨by omega,by omega,?_⟩
  refine zar rfl ?_
  simp
  exact ⟨i + 1,h5,by omega,Le.go [(724,17)] [] rfl rfl (by simp [hs3,hwi]) (by simp [htk,fcd])⟩
 rw [decide_eq_false_iff_not] at h5
 obtain rfl : i = W.length:=by omega
 rw [zsr]
 refine zam ?_
 refine hit ?_
 have htW : ∀ h : List Int → List AV,List.take W.length (List.map h W) = List.map h W:=fun h=>List.take_of_length_le (by simp)
 refine zaa ⟨32,[(4,.vs 1 false (W.map fun w=>[ints (F w)])),(5,.I 0)],[],600⟩ rfl ?_ ?_
 ·simp
  exact Le.go [] [17] rfl rfl (by simp [htW,fcd]) (by simp)
 refine zah ?_
 exact ⟨.inr rfl,zan.out [] [] rfl (by simp) (by simp) (by rw [show zaS (W.map F) = .vs 1 false (W.map fun w=>[ints (F w)]) from by simp [fcd]]; simp) (by simp)⟩
set_option maxRecDepth 100000 in
set_option maxHeartbeats 2000000 in
theorem zqL (f : FuncId) (capt : List AV) (F : Int → Expl) (W : List Int) (hW : W.length ≤ 1000000000000) (hs : zhx capt) (hc : ∀ w ∈ W,zak Tryz.prog f (.I w :: capt) [] (.tup [eX (F w),.I 0]) []) :
  zak Tryz.prog zaU [ints W,.fn (.func f) [] capt] [] (.tup [eXs (W.map F),.I 0]) []:=by
 have hs2 : ∀ ρ sn h,capt.map (conv ρ sn h 2) = capt:=fun _ _ _=>hs _ _ _ 1
 have hs3 : ∀ ρ sn h,capt.map (conv ρ sn h 3) = capt:=fun _ _ _=>hs _ _ _ 2
 have hs4 : ∀ ρ sn h,capt.map (conv ρ sn h 4) = capt:=fun _ _ _=>hs _ _ _ 3
 refine zcw.acalls (nbz rfl) (nbz rfl) (Nat.zero_le _) ?_
 show awp _ 0 _ _ ⟨32,[(0,ints W),(1,.fn (.func f) [] capt)],[],16⟩
 refine zaa ⟨32,[(0,ints W),(1,.fn (.func f) [] capt)],[],100⟩ rfl ?_ ?_
 ·simp
  exact Le.go [] [] rfl rfl (by simp [hs3]) (by simp)
 refine zaa ⟨32,[(0,ints W),(1,.fn (.func f) [] capt),(6,.nilS)],[],200⟩ rfl ?_ ?_
 ·simp
  exact Le.go [] [] rfl rfl (by simp [hs3]) (by simp)
 refine zab ?_
 refine zaa ⟨32,[(1,.fn (.func f) [] capt),(6,.nilS),(11,ints W),(12,.I W.length),(13,.I 0)],[],300⟩ rfl ?_ ?_
 ·simp
  exact Le.go [] [] rfl rfl (by simp [hs3]) (by simp)
 refine zaf ?_
 refine zao (ι:=Nat) (fun i=>⟨32,[(1,.fn (.func f) [] capt),(6,.rs 17 0 i),(11,ints W),(12,.I W.length),(13,.I i)],[(17,some ⟨5,(tkL W i).map fun w=>xE (F w),0⟩)],300⟩)
  (fun i=>i ≤ W.length) (fun i=>W.length - i) 0 (Nat.zero_le _) (Le.lst [] [] [(17,5)] rfl (by simp) (by simp) (by simp) (by simp) (by simp) (by simp) (by simp) (by simp [Up,hs3]) (by simp [zpD])) ?_
 intro i hi
 have hlt : (tkL W i).length = i:=zpm hi
 refine zaa ⟨32,[(1,.fn (.func f) [] capt),(6,.rs 17 0 i),(11,ints W),(12,.I W.length),(13,.I i),(14,.B (decide (i < W.length)))],[(17,some ⟨5,(tkL W i).map fun w=>xE (F w),0⟩)],400⟩ rfl ?_ ?_
 ·simp
  exact Le.go [(17,17)] [] rfl rfl (by simp [hs3]) (by simp [fcd])
 refine zab ?_
 refine zac _ rfl (fun h5=>?_) fun h5=>?_
 ·rw [decide_eq_true_eq] at h5
  have hwi : IntKind.i64.wrap ((i : Int) + 1) = ((i + 1 : Nat) : Int):=by rw [w64 (by omega) (by omega)]; omega
  have hck:=hc W[i] (List.getElem_mem h5)
  have htk:=zpV h5
  obtain ⟨w,hw⟩ : ∃ w,w = W[i]:=⟨_,rfl⟩
  rw [← hw] at hck htk
  obtain ⟨T,hT⟩ : ∃ T,T = tkL W i:=⟨_,rfl⟩
  rw [← hT] at hlt htk ⊢
  have hTt : ∀ h : Int → List AV,List.take i (List.map h T) = List.map h T:=fun h=>List.take_of_length_le (by simp; omega)
  refine zad ?_
  refine zab ?_
  refine zaf ?_
  refine zaa ⟨32,[(1,.fn (.func f) [] capt),(6,.rs 17 0 i),(8,.I w),(11,ints W),(12,.I W.length),(13,.I i)],[(17,some ⟨5,T.map fun w=>xE (F w),0⟩)],500⟩ rfl ?_ ?_
  ·simp [h5,← hw]
   exact Le.go [(17,17)] [] rfl rfl (by simp [hs3]) (by simp [fcd])
  refine zaa ⟨32,[(1,.fn (.func f) [] capt),(6,.rs 17 0 i),(9,.pv (xE (F w))),(10,.I 0),(11,ints W),(12,.I W.length),(13,.I i)],[(17,some ⟨5,T.map fun w=>xE (F w),0⟩)],600⟩ rfl ?_ ?_
  ·simp
   refine zal hck ?_ ?_
   ·simp [hs2,hs3,hs4]
   simp [zaw]
   exact Le.go [(17,17)] [548] rfl rfl (by simp [hs3]) (by simp [fcd])
  refine zab ?_
  refine zaa ⟨32,[(1,.fn (.func f) [] capt),(6,.rs 17 0 i),(9,.pv (xE (F w))),(11,ints W),(12,.I W.length),(13,.I i),(24,.B false)],[(17,some ⟨5,T.map fun w=>xE (F w),0⟩)],700⟩ rfl ?_ ?_
  ·simp
   exact Le.go [(17,17)] [] rfl rfl (by simp [hs3]) (by simp [fcd])
  refine zac _ rfl (fun h=>by cases h) fun _=>?_
  refine zad ?_
  refine zar rfl ?_
  simp [hTt,hlt]
  refine ⟨by omega,by omega,?_⟩
  refine zar rfl ?_
  simp
  exact ⟨i + 1,h5,by omega,Le.go [(724,17)] [] rfl rfl (by simp [hs3,hwi]) (by simp [htk,fcd])⟩
 rw [decide_eq_false_iff_not] at h5
 obtain rfl : i = W.length:=by omega
 rw [zsr]
 refine zam ?_
 refine hit ?_
 have htW : ∀ h : Int → List AV,List.take W.length (List.map h W) = List.map h W:=fun h=>List.take_of_length_le (by simp)
 refine zaa ⟨32,[(4,.vs 5 false (W.map fun w=>xE (F w))),(5,.I 0)],[],600⟩ rfl ?_ ?_
 ·simp
  exact Le.go [] [17] rfl rfl (by simp [htW,fcd]) (by simp)
 refine zah ?_
 exact ⟨.inr rfl,zan.out [] [] rfl (by simp) (by simp) (by rw [show eXs (W.map F) = .vs 5 false (W.map fun w=>xE (F w)) from by simp [fcd]]; simp) (by simp)⟩
set_option maxRecDepth 100000 in
set_option maxHeartbeats 2000000 in
theorem ziU (g : Gr) (p : Pol) (ks : List Int) (hg : GrOk g) (hp : zaV g.size p) (hs : p.seeds.length ≤ 64) (hk : ks.Nodup) (hr : ∀ k ∈ ks,0 ≤ k ∧ k < g.size) :
  ∃ W,zjk g p ks W ∧ zak Tryz.prog zd3 [eG g,eP p,ints ks] [] (.tup [zaS (W.map (zaY (netA g p (zav ks)))),.I 0]) []:=by
 have hsz:=hg.1.1
 have hsz2:=hg.1.2.1
 have hr64 : ∀ k ∈ ks,0 ≤ k ∧ k < 64:=fun k h=>by have:=hr k h; omega
 have hlen:=zmt hk hr64
 have hJl:=zcS ks
 have hkl : ks.length ≤ 64:=by omega
 have hJk:=zi9 (zey hr)
 have hsort : zak Tryz.prog zba [seqF ks] [] (.rs 0 0 ks.length) [some ⟨1,zae (srt ks),0⟩]:=znT ks (by omega)
 rw [zi6 hk hr64,← hlen] at hsort
 have hnet:=zfo g p (zav ks) hg hp (zey hr) hs hJl
 rw [← ze2 hg,show zaX g p (zaC g p) (zav ks) = netA g p (zav ks) from rfl] at hnet
 have hnv:=zgU hg hp hJk hs hJl
 have hno:=zhW hg hp hJk
 obtain ⟨f,hf,hmx⟩:=zlo _ _ hnv
 have hgf : zit g p (zav ks) f:=⟨hf.1,hf.2,(ze8 hf.1 hf.2).symm⟩
 obtain ⟨W,⟨⟨g',hT⟩,hWl,hWb⟩,hpaths⟩:=znt _ _ f hnv hf.1 (by unfold netN; omega)
 have hR : zjk g p ks W:=⟨f,g',hgf,hT,by rw [hWl,hgf.val],hWb⟩
 have hW64 : W.length ≤ 64:=by
  have:=zf8 hg hp hJk
  have h2:=hgf.val
  omega
 refine ⟨W,hR,?_⟩
 have hfl:=hf.1.fit.len
 have hal:=hnv.2.2.1
 simp only at hal
 have hkeys : ∀ w ∈ W.map natL,zak Tryz.prog zbr [ints w,.pv (gC g),.pv (nC ⟨(netN g : Nat),netA g p (zav ks)⟩)] [] (.tup [ints (zhn g.size (netA g p (zav ks)) w),.I 0]) []:=fun w hw=>by
  obtain ⟨v,hv,rfl⟩:=List.mem_map.1 hw
  have h1:=znl g (netN g : Nat) (netA g p (zav ks)) (natL v) (by omega) (by rw [zdo]; have:=hWb v hv; omega)
  rw [(znU hsz hsz2 hno (hT.ways v hv).1).1] at h1
  exact h1
 have hturn:=zqr zbr [.pv (gC g),.pv (nC ⟨(netN g : Nat),netA g p (zav ks)⟩)] (zhn g.size (netA g p (zav ks))) (W.map natL) (by rw [List.length_map]; omega) (fun ρ sn h k=>by simp) hkeys
 have hmm : (W.map natL).map (zhn g.size (netA g p (zav ks))) = W.map (zaY (netA g p (zav ks))):=by
  rw [List.map_map]
  exact List.map_congr_left fun w hw=>(znU hsz hsz2 hno (hT.ways w hw).1).2
 rw [hmm] at hturn
 rw [show AV.vs 1 false (W.map fun w=>[ints (natL w)]) = zaS (W.map natL) from by simp [fcd]] at hpaths
 obtain ⟨X,hX⟩ : ∃ X,X = W.map natL:=⟨_,rfl⟩
 rw [← hX] at hturn hpaths
 obtain ⟨J,hJ⟩ : ∃ J,J = zav ks:=⟨_,rfl⟩
 obtain ⟨A,hA⟩ : ∃ A,A = netA g p (zav ks):=⟨_,rfl⟩
 obtain ⟨N,hN⟩ : ∃ N,N = netN g:=⟨_,rfl⟩
 rw [← hA,← hN] at hnet hmx hpaths hturn
 rw [← hA] at hfl ⊢
 rw [← hJ] at hnet hsort
 have htf : ∀ h : Int → List AV,List.take A.length (List.map h f) = List.map h f:=fun h=>List.take_of_length_le (by simp; omega)
 refine zjU.acalls (nbz rfl) (nbz rfl) (Nat.zero_le _) ?_
 show awp _ 0 _ _ ⟨46,[(0,eG g),(1,eP p),(2,ints ks)],[],16⟩
 refine rx (s:=?s1) [2,3,4] [] [16,24] rfl ?o1 ?q1
 case o1=>simp; rfl
 refine zaq ⟨46,[(3,.pv (gC g)),(8,.pv (nC ⟨N,A⟩)),(9,.I 0)],[],300⟩ rfl ?_ ?_
 ·simp
  refine zal (zmV ks) (by simp) ?_
  simp
  refine zaM hsort (by simp [conv]) ?_
  simp
  refine zlb [80] (by simp) hnet (by simp [fcd,zaj]) ?_
  simp [zaw]
  exact ⟨rfl,LeH [] [120]⟩
 refine zab ?_
 refine zaa ⟨46,[(3,.pv (gC g)),(8,.pv (nC ⟨N,A⟩)),(22,.B false)],[],400⟩ rfl ?_ ?_
 ·simp
  exact LeH [] []
 refine zac _ rfl (fun h=>by cases h) fun _=>?_
 refine zad ?_
 refine zaa ⟨46,[(3,.pv (gC g)),(8,.pv (nC ⟨N,A⟩)),(9,.I 0),(10,.rs 33 0 A.length)],[(33,some ⟨1,zae f,0⟩)],500⟩ rfl ?_ ?_
 ·simp
  refine zaM hmx (by simp) ?_
  simp
  exact LeI [(408,33)] []
 refine zab ?_
 refine zaa ⟨46,[(3,.pv (gC g)),(8,.pv (nC ⟨N,A⟩)),(10,.rs 33 0 A.length),(30,.B false)],[(33,some ⟨1,zae f,0⟩)],600⟩ rfl ?_ ?_
 ·simp
  exact LeI [(33,33)] []
 refine zac _ rfl (fun h=>by cases h) fun _=>?_
 refine zad ?_
 refine zaa ⟨46,[(3,.pv (gC g)),(8,.pv (nC ⟨N,A⟩)),(9,.I 0),(11,zaS X)],[],700⟩ rfl ?_ ?_
 ·simp
  refine zlb [33] (by simp) hpaths (by simp [fcd,htf,hfl]) ?_
  simp
  exact Le.go [] [] rfl rfl (by simp [fcd]) (by simp)
 refine zab ?_
 refine zaa ⟨46,[(3,.pv (gC g)),(8,.pv (nC ⟨N,A⟩)),(11,zaS X),(39,.B false)],[],800⟩ rfl ?_ ?_
 ·simp
  exact LeH [] []
 refine zac _ rfl (fun h=>by cases h) fun _=>?_
 refine zad ?_
 obtain ⟨Y,hY⟩ : ∃ Y,Y = W.map (zaY A):=⟨_,rfl⟩
 rw [← hY] at hturn ⊢
 refine zaa ⟨46,[(6,zaS Y),(7,.I 0)],[],900⟩ rfl ?_ ?_
 ·simp
  refine zal hturn (by simp) ?_
  simp
  exact LeH [] []
 refine zah ?_
 exact ⟨.inr rfl,zan.out [] [] rfl (by simp) (by simp) (by simp) (by simp)⟩
theorem zcU (g : Gr) (p : Pol) (hg : GrOk g) (hN : g.size < 20) (hs : p.seeds.length ≤ 1099511627776) : zak Tryz.prog zcr [eG g,eP p] [] (.rs 0 0 (ordL (zai g p.lv) p.seeds).length) [some ⟨1,zae (ordL (zai g p.lv) p.seeds),0⟩]:=by
 refine ziT.acalls (nbz rfl) (nbz rfl) (Nat.zero_le _) ?_
 show awp _ 0 _ _ ⟨12,[(0,eG g),(1,eP p)],[],16⟩
 have hel:=hg.edges_le
 have hgl:=hg.gone_le
 have hsz:=hg.1.2.1
 have hlev:=zdq g p.lv (by omega) (by omega)
 have hord:=zeK (g:=zai g p.lv) (S:=p.seeds) (hg.level p.lv) hN hs
 obtain ⟨o,ho⟩ : ∃ o,o = ordL (zai g p.lv) p.seeds:=⟨_,rfl⟩
 rw [← ho] at hord ⊢
 refine rx (s:=?s1) [2,3] [] [16,24] rfl ?o1 ?q1
 case o1=>simp; rfl
 refine zaq ⟨12,[(4,.rs 50 0 o.length)],[(50,some ⟨1,zae o,0⟩)],200⟩ rfl ?_ ?_
 ·simp
  refine zal hlev (by simp) ?_
  simp
  refine zaM hord (by simp) ?_
  simp
  exact ⟨rfl,LeI [(88,50)] []⟩
 refine zah ?_
 exact ⟨.inr rfl,zan.out [50] [] rfl (by simp) (by simp) (by simp) (by simp [fcd])⟩
theorem zpv (g : Gr) (p : Pol) : ∀ (n : Nat) (o : List Int),o.length = n → (refR g p o).length ≤ n
 | 0,o,h=>by
   obtain rfl:=List.eq_nil_of_length_eq_zero h
   exact Nat.le_refl _
 | n + 1,o,h=>by
   have hne : o ≠ []:=fun e=>by rw [e] at h; cases h
   rw [← List.dropLast_concat_getLast hne]
   have ih:=zpv g p n o.dropLast (by rw [List.length_dropLast,h]; rfl)
   by_cases hc : zat g p (zav (accR g p o.dropLast ++ [o.getLast hne]))
   ·rw [zlM hc]; omega
   ·rw [zoq hc,List.length_append,List.length_singleton]; omega
theorem zrp (N : Nat) (A : List Ed) : (zgy N A).length ≤ N:=by
 unfold zgy
 exact Nat.le_trans (List.length_filter_le ..) (by simp)
set_option maxRecDepth 100000 in
set_option maxHeartbeats 8000000 in
theorem zin (g : Gr) (p : Pol) (hg : GrOk g) (hp : zaV g.size p) (hs : p.seeds.length ≤ 64) (hN : g.size < 20) :
  ∃ f : List Int,zit g p (zav (accR g p (ordL (zai g p.lv) p.seeds))) f ∧
    zak Tryz.prog zd2 [eG g,eP p] [] (.tup [eAcc (accR g p (ordL (zai g p.lv) p.seeds)) f (refR g p (ordL (zai g p.lv) p.seeds)),.I 0]) []:=by
 have hsz:=hg.1.1
 have hsz2:=hg.1.2.1
 have hel:=hg.edges_le
 have hgl:=hg.gone_le
 have hchk:=zbE g p (by omega) (by omega) (by omega) (by have:=hp.2.2.2.1; omega)
 rw [if_pos hg,if_pos hp] at hchk
 have hord:=zj4 g p hg hN (by omega)
 obtain ⟨o,ho⟩ : ∃ o,o = ordL (zai g p.lv) p.seeds:=⟨_,rfl⟩
 have hor : ∀ k ∈ o,0 ≤ k ∧ k < g.size:=fun k hk=>by rw [ho] at hk; have h:=zbF hk; exact h
 have hon : o.Nodup:=by rw [ho]; exact zbK _ _
 rw [← ho] at hord ⊢
 have hol : o.length ≤ 64:=by
  have:=za5 (b:=(List.range g.size.toNat).map fun i : Nat=>(i : Int)) hon fun x hx=>by
   have:=hor x hx
   exact List.mem_map.2 ⟨x.toNat,List.mem_range.2 (by omega),by omega⟩
  simp at this
  omega
 have h64 : ∀ a : List Int,(∀ x ∈ a,0 ≤ x ∧ x < g.size) → ∀ x ∈ a,0 ≤ x ∧ x < 64:=fun a h x hx=>by have:=h x hx; omega
 have hnv : ∀ a : List Int,(∀ x ∈ a,0 ≤ x ∧ x < g.size) → za7 ⟨netN g,netA g p (zav a)⟩:=fun a h=>zgU hg hp (zi9 (zey h)) hs (zcS a)
 have hserve : ∀ a : List Int,a.Nodup → (∀ x ∈ a,0 ≤ x ∧ x < g.size) → ∃ f,zit g p (zav a) f ∧ zak Tryz.prog zcN [eN ⟨netN g,netA g p (zav a)⟩,.I (a.length : Nat)] [] (.tup [.rs 0 0 (netA g p (zav a)).length,.B (@decide (zat g p (zav a)) (Classical.propDecidable _))]) [some ⟨1,zae f,0⟩]:=fun a h1 h2=>by
  obtain ⟨f,hf,hc⟩:=zkF _ _ (a.length : Nat) (hnv a h2)
  have hmf:=ze8 hf.1 hf.2
  refine ⟨f,⟨hf.1,hf.2,hmf.symm⟩,?_⟩
  have hjl:=zmt h1 (h64 a h2)
  have : decide (valF (netA g p (zav a)) f = (a.length : Nat)) = @decide (zat g p (zav a)) (Classical.propDecidable _):=by
   rw [decide_eq_decide]
   unfold zat
   rw [hmf,hjl]
  rw [this] at hc
  exact hc
 have haccn : ∀ i,(accR g p (o.take i)).Nodup:=fun i=>(hon.sublist ((zhj _ _ rfl).trans (List.take_sublist _ _)))
 have haccr : ∀ i,∀ x ∈ accR g p (o.take i),0 ≤ x ∧ x < g.size:=fun i x hx=>hor x (List.mem_of_mem_take (zhi hx))
 obtain ⟨f,hf,hlast⟩:=hserve (accR g p o) (by have:=haccn o.length; rwa [List.take_length] at this) (by have:=haccr o.length; rwa [List.take_length] at this)
 refine ⟨f,hf,?_⟩
 have hnl:=zeD g p (accR g p o) hg hp (by have:=haccn o.length; rwa [List.take_length] at this) (by have:=haccr o.length; rwa [List.take_length] at this) hs
 have hlf:=hf.ok.fit.len
 refine zjy.acalls (nbz rfl) (nbz rfl) (Nat.zero_le _) ?_
 show awp _ 0 _ _ ⟨72,[(0,eG g),(1,eP p)],[],16⟩
 refine rx (s:=?s1) [2,3,4] [32] [16,24] rfl ?o1 ?q1
 case o1=>simp; rfl
 refine zab ?_
 refine rx (s:=?s2) [2,3,4,6] [32] [] rfl ?o2 ?q2
 case o2=>simp; refine zal hchk (by simp) ?_; simp; rfl
 refine rx (s:=?s3) [2,3,4,18] [32] [] rfl ?o3 ?q3
 case o3=>simp; rfl
 refine zac _ rfl (fun h=>by cases h) fun _=>?_
 refine zad ?_
 refine zaa ⟨72,[(2,.pv (gC g)),(3,.pv (pC p)),(4,.pt 32 0 0),(7,.pt 40 0 0)],[(32,some ⟨3,[[.nilS,.nilS,.nilS]],0⟩),(40,some ⟨3,[[.nilS,.nilS,.nilS]],0⟩)],200⟩ rfl ?_ ?_
 ·simp
  exact LeH [(32,32),(96,40)] []
 refine zab ?_
 refine zaa ⟨72,[(2,.pv (gC g)),(3,.pv (pC p)),(4,.pt 32 0 0),(7,.pt 40 0 0),(23,ints o),(24,.I o.length),(25,.I 0)],[(32,some ⟨3,[[.nilS,.nilS,.nilS]],0⟩),(40,some ⟨3,[[.nilS,.nilS,.nilS]],0⟩)],400⟩ rfl ?_ ?_
 ·simp
  refine zaM hord (by simp) ?_
  simp
  exact Le.go [(32,32),(40,40)] [216] rfl rfl (by simp [fcd,zaj]) (by simp)
 refine zaf ?_
 have hR0 : refR g p [] = []:=rfl
 refine zao (ι:=Nat) (fun i=>⟨72,[(2,.pv (gC g)),(3,.pv (pC p)),(4,.pt 32 0 0),(7,.pt 40 0 0),(23,ints o),(24,.I o.length),(25,.I i)],
   [(32,some ⟨3,[[.nilS,.nilS,.nilS]],0⟩),(40,some ⟨3,[[ints (accR g p (o.take i)),.nilS,.rs 42 0 (refR g p (o.take i)).length]],0⟩),(42,some ⟨2,zaZ (refR g p (o.take i)),0⟩)],500⟩)
  (fun i=>i ≤ o.length) (fun i=>o.length - i) 0 (Nat.zero_le _)
  (Le.lst [(32,32),(40,40)] [] [(42,2)] rfl (by simp) (by simp) (by simp) (by simp) (by simp) (by simp) (by simp) (by simp [Up]) (by simp [zi5,hR0,fcd]; exact ⟨zay.rfl' (by simp),zay.row rfl (by omega) (by simp [UpL,Up,Wk.refl]; exact Wk.nil _ _)⟩)) ?_
 intro i hi
 have haN:=haccn i
 have haR:=haccr i
 have hal : (accR g p (o.take i)).length ≤ 64:=Nat.le_trans (zgP _) (Nat.le_trans (List.length_take_le' i o) hol)
 have hRl:=zpv g p _ (o.take i) rfl
 have hRl2:=List.length_take_le' i o
 have hyes:=fun k=>zeh (g:=g) (p:=p) (o:=o.take i) (k:=k)
 have hno:=fun k=>zh8 (g:=g) (p:=p) (o:=o.take i) (k:=k)
 have hryes:=fun k=>zlM (g:=g) (p:=p) (o:=o.take i) (k:=k)
 have hrno:=fun k=>zoq (g:=g) (p:=p) (o:=o.take i) (k:=k)
 have hmem : ∀ x ∈ accR g p (o.take i),x ∈ o.take i:=fun x hx=>zhi hx
 obtain ⟨acc,hacc⟩ : ∃ acc,acc = accR g p (o.take i):=⟨_,rfl⟩
 obtain ⟨R,hR⟩ : ∃ R,R = refR g p (o.take i):=⟨_,rfl⟩
 rw [← hacc] at haN haR hal hmem hyes hno hryes hrno
 rw [← hR] at hRl hryes hrno
 rw [← hacc,← hR]
 refine zaa ⟨72,[(2,.pv (gC g)),(3,.pv (pC p)),(4,.pt 32 0 0),(7,.pt 40 0 0),(23,ints o),(24,.I o.length),(25,.I i),(26,.B (decide (i < o.length)))],
   [(32,some ⟨3,[[.nilS,.nilS,.nilS]],0⟩),(40,some ⟨3,[[ints acc,.nilS,.rs 42 0 R.length]],0⟩),(42,some ⟨2,zaZ R,0⟩)],600⟩ rfl ?_ ?_
 ·simp
  exact LeI [(32,32),(40,40),(42,42)] []
 refine zab ?_
 refine zac _ rfl (fun h11=>?_) fun h11=>?_
 ·simp at h11
  have hw1 : IntKind.i64.wrap ((i : Int) + 1) = (i : Int) + 1:=w64 (by omega) (by omega)
  obtain ⟨k,hk⟩ : ∃ k,k = o[i]:=⟨_,rfl⟩
  have hkr:=hor _ (List.getElem_mem h11)
  rw [← hk] at hkr
  have hts : o.take (i + 1) = o.take i ++ [k]:=by rw [List.take_succ_eq_append_getElem h11,hk]
  have hkacc : k ∉ acc:=fun h=>by
   have h2:=hmem k h
   obtain ⟨j,hj,hjk⟩:=List.mem_iff_getElem.1 h2
   rw [List.getElem_take] at hjk
   rw [List.length_take] at hj
   have:=(List.pairwise_iff_getElem.1 hon) j i (by omega) h11 (by omega)
   exact this (hjk.trans hk)
  have hks : ∀ x ∈ acc ++ [k],0 ≤ x ∧ x < g.size:=fun x hx=>by
   rcases List.mem_append.1 hx with h | h
   ·exact haR x h
   ·rw [List.mem_singleton] at h; subst h; exact hkr
  have hkn : (acc ++ [k]).Nodup:=List.nodup_append.2 ⟨haN,by simp,fun a ha b hb=>by
   rw [List.mem_singleton] at hb
   subst hb
   rintro rfl
   exact hkacc ha⟩
  have hwith:=zks acc k (by omega)
  have hnet:=zeD g p (acc ++ [k]) hg hp hkn hks hs
  obtain ⟨fl,hfl,hsv⟩:=hserve (acc ++ [k]) hkn hks
  have hreach:=zjA _ _ fl (hnv _ hks) hfl.ok hfl.most
  have hflen:=hfl.ok.fit.len
  have hnl2:=zrp (netN g) (netA g p (zav (acc ++ [k])))
  have hyes:=hyes k
  have hno:=hno k
  have hryes:=hryes k
  have hrno:=hrno k
  rw [← hts] at hyes hno hryes hrno
  obtain ⟨A,hA⟩ : ∃ A,A = netA g p (zav (acc ++ [k])):=⟨_,rfl⟩
  obtain ⟨side,hside⟩ : ∃ side,side = zgy (netN g) A:=⟨_,rfl⟩
  rw [← hA] at hnet hsv hreach hflen hrno
  rw [← hside] at hreach hrno
  have htf : ∀ h : Int → List AV,List.take A.length (List.map h fl) = List.map h fl:=fun h=>List.take_of_length_le (by simp; omega)
  obtain ⟨W,hW⟩ : ∃ W,W = acc ++ [k]:=⟨_,rfl⟩
  have hWl : W.length = acc.length + 1:=by rw [hW]; simp
  rw [← hW] at hwith hnet hsv hyes hno hryes hrno
  rw [← hWl] at hwith
  refine zad ?_
  refine zaI (ι:=Unit) (fun _=>⟨72,[(2,.pv (gC g)),(3,.pv (pC p)),(4,.pt 32 0 0),(7,.pt 40 0 0),(23,ints o),(24,.I o.length),(25,.I i)],
   [(32,some ⟨3,[[.nilS,.nilS,.nilS]],0⟩),(40,some ⟨3,[[ints (accR g p (o.take (i + 1))),.nilS,.rs 42 0 (refR g p (o.take (i + 1))).length]],0⟩),(42,some ⟨2,zaZ (refR g p (o.take (i + 1))),0⟩)],3000⟩) (fun _=>True) ?_ fun _ _=>?_
  ·refine zaf ?_
   refine zaa ⟨72,[(2,.pv (gC g)),(3,.pv (pC p)),(4,.pt 32 0 0),(7,.pt 40 0 0),(9,.I k),(23,ints o),(24,.I o.length),(25,.I i)],
    [(32,some ⟨3,[[.nilS,.nilS,.nilS]],0⟩),(40,some ⟨3,[[ints acc,.nilS,.rs 42 0 R.length]],0⟩),(42,some ⟨2,zaZ R,0⟩)],700⟩ rfl ?_ ?_
   ·simp [h11,← hk]
    exact LeI [(32,32),(40,40),(42,42)] []
   refine zaa ⟨72,[(2,.pv (gC g)),(3,.pv (pC p)),(4,.pt 32 0 0),(7,.pt 40 0 0),(9,.I k),(10,ints W),(23,ints o),(24,.I o.length),(25,.I i)],
    [(32,some ⟨3,[[.nilS,.nilS,.nilS]],0⟩),(40,some ⟨3,[[ints acc,.nilS,.rs 42 0 R.length]],0⟩),(42,some ⟨2,zaZ R,0⟩)],800⟩ rfl ?_ ?_
   ·simp
    refine zaM hwith (by simp) ?_
    simp
    exact Le.go [(32,32),(40,40),(42,42)] [724] rfl rfl (by simp [fcd,zaj]) (by simp [fcd])
   refine zaa ⟨72,[(2,.pv (gC g)),(3,.pv (pC p)),(4,.pt 32 0 0),(7,.pt 40 0 0),(9,.I k),(10,ints W),(11,.pv (nC ⟨netN g,A⟩)),(23,ints o),(24,.I o.length),(25,.I i)],
    [(32,some ⟨3,[[.nilS,.nilS,.nilS]],0⟩),(40,some ⟨3,[[ints acc,.nilS,.rs 42 0 R.length]],0⟩),(42,some ⟨2,zaZ R,0⟩)],900⟩ rfl ?_ ?_
   ·simp
    refine zal hnet (by simp) ?_
    simp
    exact LeI [(32,32),(40,40),(42,42)] [832]
   refine zaa ⟨72,[(2,.pv (gC g)),(3,.pv (pC p)),(4,.pt 32 0 0),(7,.pt 40 0 0),(9,.I k),(10,ints W),(11,.pv (nC ⟨netN g,A⟩)),(12,.rs 43 0 A.length),(13,.B (@decide (zat g p (zav W)) (Classical.propDecidable _))),(23,ints o),(24,.I o.length),(25,.I i)],
    [(32,some ⟨3,[[.nilS,.nilS,.nilS]],0⟩),(40,some ⟨3,[[ints acc,.nilS,.rs 42 0 R.length]],0⟩),(42,some ⟨2,zaZ R,0⟩),(43,some ⟨1,zae fl,0⟩)],1000⟩ rfl ?_ ?_
   ·simp
    refine zaM hsv (by simp) ?_
    simp
    exact LeI [(32,32),(40,40),(42,42),(924,43)] []
   refine zab ?_
   refine zaa ⟨72,[(2,.pv (gC g)),(3,.pv (pC p)),(4,.pt 32 0 0),(7,.pt 40 0 0),(9,.I k),(10,ints W),(11,.pv (nC ⟨netN g,A⟩)),(12,.rs 43 0 A.length),(44,.B (@decide (zat g p (zav W)) (Classical.propDecidable _))),(23,ints o),(24,.I o.length),(25,.I i)],
    [(32,some ⟨3,[[.nilS,.nilS,.nilS]],0⟩),(40,some ⟨3,[[ints acc,.nilS,.rs 42 0 R.length]],0⟩),(42,some ⟨2,zaZ R,0⟩),(43,some ⟨1,zae fl,0⟩)],1100⟩ rfl ?_ ?_
   ·simp
    exact LeI [(32,32),(40,40),(42,42),(43,43)] []
   refine zac _ rfl (fun h15=>?_) fun h15=>?_
   ·have h15' : zat g p (zav W):=@of_decide_eq_true _ (Classical.propDecidable _) h15
    have hy:=hyes h15'
    have hry:=hryes h15'
    refine zaa ⟨72,[(2,.pv (gC g)),(3,.pv (pC p)),(4,.pt 32 0 0),(7,.pt 40 0 0),(23,ints o),(24,.I o.length),(25,.I i)],
     [(32,some ⟨3,[[.nilS,.nilS,.nilS]],0⟩),(40,some ⟨3,[[ints W,.nilS,.rs 42 0 R.length]],0⟩),(42,some ⟨2,zaZ R,0⟩)],1200⟩ rfl ?_ ?_
    ·simp [zaw]
     exact LeI [(32,32),(40,40),(42,42)] []
    refine zam ?_
    refine hit ?_
    exact ⟨(),trivial,Le.go [(32,32),(40,40),(42,42)] [] rfl rfl (by simp) (by simp [hy,hry,fcd])⟩
   ·have h15' : ¬ zat g p (zav W):=@of_decide_eq_false _ (Classical.propDecidable _) h15
    have hn':=hno h15'
    have hrn:=hrno h15'
    have htR : ∀ h : Int × List Int → List AV,List.take R.length (List.map h R) = List.map h R:=fun h=>List.take_of_length_le (by simp)
    refine zad ?_
    refine zbI rfl ?_
    simp
    refine zbl (i:=43) rfl (by simp [fcd]) hreach (by simp) (by simp) ?_
    simp [htR,zaw]
    exact ⟨by omega,by omega,rfl,Le.go [(32,32),(40,40),(1164,42)] [1140] rfl rfl (by simp) (by simp [hn',hrn,fcd,zaj])⟩
  refine zar rfl ?_
  simp [hw1]
  exact ⟨i + 1,by omega,by omega,Le.go [(32,32),(40,40),(42,42)] [] rfl rfl (by simp [hw1]) (by simp [fcd])⟩
 simp at h11
 obtain rfl : i = o.length:=by omega
 rw [List.take_length] at hacc hR
 rw [← hacc] at hlast hnl hlf
 have hl1 : ((acc.length : Nat) : Int) = acc.length:=rfl
 obtain ⟨A,hA⟩ : ∃ A,A = netA g p (zav acc):=⟨_,rfl⟩
 rw [← hA] at hnl hlast hlf
 have htf : ∀ h : Int → List AV,List.take A.length (List.map h f) = List.map h f:=fun h=>List.take_of_length_le (by simp; omega)
 refine zam ?_
 refine hit ?_
 refine zaq ⟨72,[(4,.pt 32 0 0),(7,.pt 40 0 0)],
   [(32,some ⟨3,[[.nilS,.nilS,.nilS]],0⟩),(40,some ⟨3,[[ints acc,ints f,.vs 2 false (zaZ R)]],0⟩)],1200⟩ rfl ?_ ?_
 ·simp
  refine zal hnl (by simp) ?_
  simp
  refine zaM hlast (by simp) ?_
  simp [zaw]
  exact ⟨rfl,Le.go [(32,32),(40,40)] [42,664] rfl rfl (by simp) (by simp [fcd,zaj,htf,hlf])⟩
 refine zaa ⟨72,[(4,.pt 32 0 0),(5,.I 0)],[(32,some ⟨3,[[ints acc,ints f,.vs 2 false (zaZ R)]],0⟩)],1400⟩ rfl ?_ ?_
 ·simp [zaw]
  exact LeI [(32,32)] []
 refine zah ?_
 rw [← hacc,← hR]
 exact ⟨.inr rfl,zan.out [] [32] rfl (by simp) (by simp) (by simp) (by simp)⟩
section
variable {P : Program} {np id : Nat} {h : Nat → Option Ent} {K : AV → List Nat → List (Nat × Option Ent) → Prop} {f : FuncId} {first capt args args' : List AV} {res : AV}
end
variable {g : Gr} {p : Pol}
theorem Rise.pair {l : List Int} {lo hi : Int} (h : Rise l lo hi) : l.Pairwise (· < ·):=by
 have hlt : ∀ (j i : Nat) (hj : j < l.length) (hij : i < j),l[i] < l[j]:=by
  intro j
  induction j with
  | zero=>intro i _ hij; omega
  | succ j ih =>
    intro i hj hij
    have h1:=(h (j + 1) hj).2.2 (by omega)
    simp only [Nat.add_sub_cancel] at h1
    rcases Nat.lt_or_ge i j with h2 | h2
    ·have:=ih i (by omega) h2
     omega
    ·have : i = j:=by omega
     subst this
     exact h1
 exact List.pairwise_iff_getElem.2 fun i j hi hj hij=>hlt j i hj hij
theorem zhX (acc f : List Int) (R : List (Int × List Int)) (k : Int) (hl : acc.length ≤ 140737488355328) : zak Tryz.prog zcO [eAcc acc f R,.I k] [] (.B (decide (k ∈ acc))) []:=by
 refine zjd.acalls (nbz rfl) (nbz rfl) (Nat.zero_le _) ?_
 show awp _ 0 _ _ ⟨9,[(0,eAcc acc f R),(1,.I k)],[],16⟩
 refine zaa ⟨9,[(1,.I k),(2,.pv [ints acc,ints f,.vs 2 false (zaZ R)])],[],100⟩ rfl ?_ ?_
 ·simp
  exact LeH [] [16]
 refine zaa ⟨9,[(4,.B (decide (k ∈ acc)))],[],200⟩ rfl ?_ ?_
 ·simp
  refine zal (zdb acc k hl) (by simp) ?_
  simp
  exact LeH [] []
 refine zah ?_
 exact ⟨.inr rfl,zan.one (by simp)⟩
theorem zq5 {R : List (Int × List Int)} {key : Int} {side : List Int} (h : (key,side) ∈ R) : ∃ j,∃ hj : j < R.length,idxQ R (fun r=>decide (r.1 = key)) = (j : Int) ∧ R[j].1 = key:=by
 have hlt : R.findIdx (fun r=>decide (r.1 = key)) < R.length:=List.findIdx_lt_length_of_exists ⟨_,h,by simp⟩
 refine ⟨_,hlt,by unfold idxQ; rw [if_pos hlt],?_⟩
 have:=List.findIdx_getElem (w:=hlt)
 simpa using this
set_option maxRecDepth 100000 in
set_option maxHeartbeats 8000000 in
open Classical in
theorem zj5 (g : Gr) (p : Pol) (fl : List Int) (key : Int) (hg : GrOk g) (hp : zaV g.size p) (hs : p.seeds.length ≤ 64) (hkey : key ∈ ordL (zai g p.lv) p.seeds) :
  ∃ x,ForR g p (ordL (zai g p.lv) p.seeds) key x ∧ zak Tryz.prog za9 [eG g,eP p,eAcc (accR g p (ordL (zai g p.lv) p.seeds)) fl (refR g p (ordL (zai g p.lv) p.seeds)),ints (ordL (zai g p.lv) p.seeds),.I key] [] (.tup [eX x,.I 0]) []:=by
 refine zg4.acallsX (args:=[eG g,eP p,eAcc (accR g p (ordL (zai g p.lv) p.seeds)) fl (refR g p (ordL (zai g p.lv) p.seeds)),ints (ordL (zai g p.lv) p.seeds),.I key]) (hs:=[]) (fun x=>.tup [eX x,.I 0]) (fun _=>[]) (fun x : Expl=>ForR g p (ordL (zai g p.lv) p.seeds) key x) (nbz rfl) (nbz rfl) (fun _=>Nat.le_refl _) ?_
 have hsz:=hg.1.1
 have hsz2:=hg.1.2.1
 obtain ⟨⟨R',fl'⟩,⟨hR,_⟩,_⟩:=zvo g p hg hp hs
 simp only at hR
 have hReq:=hR.eq
 subst hReq
 have hon:=zbK (zai g p.lv) p.seeds
 have hsrv:=fun ks=>ziU g p ks hg hp hs
 obtain ⟨o,ho⟩ : ∃ o,o = ordL (zai g p.lv) p.seeds:=⟨_,rfl⟩
 have hor : ∀ k ∈ o,0 ≤ k ∧ k < g.size:=fun k hk=>by rw [ho] at hk; have h:=zbF hk; exact h
 have hol : o.length ≤ 64:=by
  have h1:=zdD (g:=zai g p.lv) (S:=p.seeds) hsz
  have h2 : (zai g p.lv).size = g.size:=rfl
  rw [← ho] at h1
  omega
 rw [← ho] at hR hkey hon ⊢
 obtain ⟨R,hRd⟩ : ∃ R,R = refR g p o:=⟨_,rfl⟩
 rw [← hRd] at hR ⊢
 have hRl:=hR.len
 obtain ⟨acc,hacc⟩ : ∃ acc,acc = accR g p o:=⟨_,rfl⟩
 rw [← hacc]
 have hal : acc.length ≤ 64:=by rw [hacc]; exact Nat.le_trans (zgP o) hol
 have hA:=fun k=>zhX acc fl R k (by omega)
 obtain ⟨i0,hi0d⟩ : ∃ i0,i0 = o.idxOf key:=⟨_,rfl⟩
 have hi0 : i0 < o.length:=by rw [hi0d]; exact List.idxOf_lt_length_of_mem hkey
 have hok : o[i0] = key:=by
  have : o[o.idxOf key]'(List.idxOf_lt_length_of_mem hkey) = key:=List.getElem_idxOf _
  simp only [hi0d]
  exact this
 have hidx:=zeF o key (by omega)
 rw [show idxI o key = (i0 : Int) by unfold idxI; rw [if_pos hkey,hi0d]] at hidx
 obtain ⟨T,hT⟩ : ∃ T,T = tkL o i0:=⟨_,rfl⟩
 have hTl : T.length = i0:=by rw [hT]; exact zpm (by omega)
 have hTo : ∀ (i : Nat) (h : i < T.length),∃ h2 : i < o.length,T[i] = o[i]:=fun i h=>by
  have h2 : i < o.length:=by omega
  refine ⟨h2,?_⟩
  have e : T[i]? = o[i]?:=by rw [hT]; unfold tkL; rw [List.getElem?_take_of_lt (by omega)]
  rw [List.getElem?_eq_getElem h,List.getElem?_eq_getElem h2] at e
  exact Option.some.inj e
 have htT : ∀ h : Int → List AV,List.take i0 (List.map h o) = List.map h T:=fun h=>by rw [hT]; unfold tkL; rw [List.map_take]
 obtain ⟨ac,hac⟩ : ∃ ac,ac = decide (key ∈ acc):=⟨_,rfl⟩
 have hAk:=hA key
 rw [show @decide (key ∈ acc) (List.instDecidableMemOfLawfulBEq key acc) = ac by rw [hac]] at hAk
 show awp _ 0 _ _ ⟨76,[(0,eG g),(1,eP p),(2,eAcc acc fl R),(3,ints o),(4,.I key)],[],16⟩
 refine zaa ⟨76,[(3,ints o),(5,.pv (gC g)),(6,.pv (pC p)),(7,.pv [ints acc,ints fl,.vs 2 false (zaZ R)]),(9,.pv [.I key]),(10,.pt 48 0 0)],[(48,some ⟨5,[[.I 0,.B false,.nilS,.nilS,.nilS]],0⟩)],100⟩ rfl ?_ ?_
 ·simp
  exact LeH [(48,48)] [16,24,32,40]
 refine zaq ⟨76,[(3,ints o),(5,.pv (gC g)),(6,.pv (pC p)),(7,.pv [ints acc,ints fl,.vs 2 false (zaZ R)]),(9,.pv [.I key]),(10,.pt 48 0 0),(12,.pt 50 0 0)],[(48,some ⟨5,[[.I 0,.B false,.nilS,.nilS,.nilS]],0⟩),(50,some ⟨5,[[.I key,.B ac,.nilS,.nilS,.nilS]],0⟩)],200⟩ rfl ?_ ?_
 ·simp
  refine zal hAk (by simp) ?_
  simp [zaw]
  exact ⟨rfl,LeH [(48,48),(140,50)] []⟩
 refine zab ?_
 refine zaa ⟨76,[(5,.pv (gC g)),(6,.pv (pC p)),(7,.pv [ints acc,ints fl,.vs 2 false (zaZ R)]),(9,.pv [.I key]),(10,.pt 48 0 0),(12,.pt 50 0 0),(27,ints T),(28,.I T.length),(29,.I 0)],[(48,some ⟨5,[[.I 0,.B false,.nilS,.nilS,.nilS]],0⟩),(50,some ⟨5,[[.I key,.B ac,.nilS,.nilS,.nilS]],0⟩)],300⟩ rfl ?_ ?_
 ·simp
  refine zal hidx (by simp) ?_
  simp [hi0]
  exact ⟨by omega,Le.go [(48,48),(50,50)] [] rfl rfl (by simp [htT,hTl,Nat.le_of_lt hi0]) (by simp)⟩
 refine zaf ?_
 refine zao (ι:=Nat) (fun i=>⟨76,[(5,.pv (gC g)),(6,.pv (pC p)),(7,.pv [ints acc,ints fl,.vs 2 false (zaZ R)]),(9,.pv [.I key]),(10,.pt 48 0 0),(12,.pt 50 0 0),(27,ints T),(28,.I T.length),(29,.I i)],[(48,some ⟨5,[[.I 0,.B false,.nilS,.nilS,.nilS]],0⟩),(50,some ⟨5,[[.I key,.B ac,.rs 51 0 (befL o acc i).length,.nilS,.nilS]],0⟩),(51,some ⟨1,zae (befL o acc i),0⟩)],300⟩)
  (fun i=>i ≤ T.length) (fun i=>T.length - i) 0 (Nat.zero_le _)
  (Le.lst [(48,48),(50,50)] [] [(51,1)] rfl (by simp) (by simp) (by simp) (by simp) (by simp) (by simp) (by simp) (by simp [Up]) (by simp [befL,fcd]; exact ⟨zay.rfl' (by simp),zay.row rfl (by omega) (by simp [UpL,Up,Wk.refl])⟩)) ?_
 intro i hi
 have hbl:=zp2 o acc i
 refine zaa ⟨76,[(5,.pv (gC g)),(6,.pv (pC p)),(7,.pv [ints acc,ints fl,.vs 2 false (zaZ R)]),(9,.pv [.I key]),(10,.pt 48 0 0),(12,.pt 50 0 0),(27,ints T),(28,.I T.length),(29,.I i),(30,.B (decide (i < T.length)))],[(48,some ⟨5,[[.I 0,.B false,.nilS,.nilS,.nilS]],0⟩),(50,some ⟨5,[[.I key,.B ac,.rs 51 0 (befL o acc i).length,.nilS,.nilS]],0⟩),(51,some ⟨1,zae (befL o acc i),0⟩)],400⟩ rfl ?_ ?_
 ·simp
  exact LeI [(48,48),(50,50),(51,51)] []
 refine zab ?_
 refine zac _ rfl (fun h5=>?_) fun h5=>?_
 ·rw [decide_eq_true_eq] at h5
  have hwi : IntKind.i64.wrap ((i : Int) + 1) = ((i + 1 : Nat) : Int):=by rw [w64 (by omega) (by omega)]; omega
  obtain ⟨hio,hTi⟩:=hTo i h5
  have hsu:=zjW (o:=o) (acc:=acc) hio
  obtain ⟨k,hk⟩ : ∃ k,k = o[i]:=⟨_,rfl⟩
  rw [← hk] at hsu hTi
  have hha:=hA k
  refine zad ?_
  refine zaI (ι:=Unit) (fun _=>⟨76,[(5,.pv (gC g)),(6,.pv (pC p)),(7,.pv [ints acc,ints fl,.vs 2 false (zaZ R)]),(9,.pv [.I key]),(10,.pt 48 0 0),(12,.pt 50 0 0),(27,ints T),(28,.I T.length),(29,.I i)],[(48,some ⟨5,[[.I 0,.B false,.nilS,.nilS,.nilS]],0⟩),(50,some ⟨5,[[.I key,.B ac,.rs 51 0 (befL o acc (i + 1)).length,.nilS,.nilS]],0⟩),(51,some ⟨1,zae (befL o acc (i + 1)),0⟩)],2000⟩) (fun _=>True) ?_ fun _ _=>?_
  ·refine zaf ?_
   refine zaa ⟨76,[(5,.pv (gC g)),(6,.pv (pC p)),(7,.pv [ints acc,ints fl,.vs 2 false (zaZ R)]),(9,.pv [.I key]),(10,.pt 48 0 0),(12,.pt 50 0 0),(14,.I k),(27,ints T),(28,.I T.length),(29,.I i)],[(48,some ⟨5,[[.I 0,.B false,.nilS,.nilS,.nilS]],0⟩),(50,some ⟨5,[[.I key,.B ac,.rs 51 0 (befL o acc i).length,.nilS,.nilS]],0⟩),(51,some ⟨1,zae (befL o acc i),0⟩)],500⟩ rfl ?_ ?_
   ·simp [h5,hTi]
    exact LeI [(48,48),(50,50),(51,51)] []
   refine zaa ⟨76,[(5,.pv (gC g)),(6,.pv (pC p)),(7,.pv [ints acc,ints fl,.vs 2 false (zaZ R)]),(9,.pv [.I key]),(10,.pt 48 0 0),(12,.pt 50 0 0),(14,.I k),(27,ints T),(28,.I T.length),(29,.I i),(35,.B (decide (k ∈ acc)))],[(48,some ⟨5,[[.I 0,.B false,.nilS,.nilS,.nilS]],0⟩),(50,some ⟨5,[[.I key,.B ac,.rs 51 0 (befL o acc i).length,.nilS,.nilS]],0⟩),(51,some ⟨1,zae (befL o acc i),0⟩)],600⟩ rfl ?_ ?_
   ·simp
    refine zal hha (by simp) ?_
    simp
    exact LeI [(48,48),(50,50),(51,51)] []
   refine zac _ rfl (fun h19=>?_) fun h19=>?_
   ·rw [decide_eq_true_eq] at h19
    rw [if_pos h19] at hsu
    rw [hsu]
    obtain ⟨E,hE⟩ : ∃ E,E = befL o acc i:=⟨_,rfl⟩
    rw [← hE] at hbl ⊢
    refine zar rfl ?_
    simp [zaj,zaw]
    exact ⟨by omega,by omega,LeI [(48,48),(50,50),(632,51)] []⟩
   ·rw [decide_eq_false_iff_not] at h19
    rw [if_neg h19,List.append_nil] at hsu
    rw [hsu]
    refine zad ?_
    exact ⟨(),trivial,LeI [(48,48),(50,50),(51,51)] []⟩
  refine zar rfl ?_
  simp
  exact ⟨i + 1,h5,by omega,Le.go [(48,48),(50,50),(51,51)] [] rfl rfl (by simp [hwi]) (by simp [fcd])⟩
 rw [decide_eq_false_iff_not] at h5
 obtain rfl : i = i0:=by omega
 refine zam ?_
 refine hit ?_
 have hEm : ∀ x ∈ befL o acc i,x ∈ o:=fun x hx=>zpq hx
 have hsub : (befL o acc i ++ [key]).Sublist o:=by
  have h1 : (befL o acc i).Sublist (o.take i):=List.filter_sublist
  have h2 : o.take i ++ [key] = o.take (i + 1):=by rw [List.take_succ_eq_append_getElem hi0,hok]
  have h3:=h1.append (List.Sublist.refl [key])
  rw [h2] at h3
  exact h3.trans (List.take_sublist _ _)
 have hEn : (befL o acc i ++ [key]).Nodup:=hon.sublist hsub
 have hEr : ∀ x ∈ befL o acc i ++ [key],0 ≤ x ∧ x < g.size:=fun x hx=>hor x (hsub.subset hx)
 obtain ⟨E,hE⟩ : ∃ E,E = befL o acc i:=⟨_,rfl⟩
 rw [← hE] at hbl hEm hEn hEr ⊢
 refine zab ?_
 refine zaa ⟨76,[(5,.pv (gC g)),(6,.pv (pC p)),(7,.pv [ints acc,ints fl,.vs 2 false (zaZ R)]),(9,.pv [.I key]),(10,.pt 48 0 0),(12,.pt 50 0 0),(44,.B ac)],[(48,some ⟨5,[[.I 0,.B false,.nilS,.nilS,.nilS]],0⟩),(50,some ⟨5,[[.I key,.B ac,.rs 51 0 E.length,.nilS,.nilS]],0⟩),(51,some ⟨1,zae E,0⟩)],700⟩ rfl ?_ ?_
 ·simp
  exact LeI [(48,48),(50,50),(51,51)] []
 refine zac _ rfl (fun h10=>?_) fun h10=>?_
 ·have hin : key ∈ acc:=by rw [h10] at hac; exact of_decide_eq_true hac.symm
  obtain ⟨W,hW,hcall⟩:=hsrv (E ++ [key]) hEn hEr
  have hcl:=zeA E (by omega)
  obtain ⟨Y,hY⟩ : ∃ Y,Y = W.map (zaY (netA g p (zav (E ++ [key])))):=⟨_,rfl⟩
  rw [← hY] at hcall
  refine zaq ⟨76,[(10,.pt 48 0 0),(12,.pt 50 0 0),(15,zaS Y),(16,.I 0)],[(48,some ⟨5,[[.I 0,.B false,.nilS,.nilS,.nilS]],0⟩),(50,some ⟨5,[[.I key,.B true,ints E,.nilS,.nilS]],0⟩)],900⟩ rfl ?_ ?_
  ·simp
   refine zgI [51] hcl (by simp [fcd,zaj]) (.rs _ _ _) znA ?_
   simp [zaj]
   refine ⟨by omega,by omega,?_⟩
   refine zlb [756] (by simp) hcall (by simp [fcd,zaj]; exact List.take_of_length_le (by simp)) ?_
   simp
   exact ⟨rfl,Le.go [(48,48),(50,50)] [51] rfl rfl (by simp) (by simp [fcd,zaj,h10])⟩
  refine zaa ⟨76,[(10,.pt 48 0 0),(12,.pt 50 0 0),(16,.I 0)],[(48,some ⟨5,[[.I 0,.B false,.nilS,.nilS,.nilS]],0⟩),(50,some ⟨5,[[.I key,.B true,ints E,zaS Y,.nilS]],0⟩)],1000⟩ rfl ?_ ?_
  ·simp [zaw]
   exact LeI [(48,48),(50,50)] []
  refine zaa ⟨76,[(10,.pt 48 0 0),(11,.I 0)],[(48,some ⟨5,[[.I key,.B true,ints E,zaS Y,.nilS]],0⟩)],1100⟩ rfl ?_ ?_
  ·simp [zaw]
   exact LeI [(48,48)] []
  refine zah ?_
  rw [hacc] at hin
  refine zdZ.mk (.inr rfl) ⟨key,true,E,Y,[]⟩ ⟨rfl,⟨i,hi0,hok,by rw [← hacc]; exact hE⟩,fun _=>⟨rfl,rfl,W,hW,hY⟩,fun h=>absurd hin h⟩ (zan.out [] [] rfl (by simp) (by simp) (by simp; exact wkX (.refl _) (.nil _ _)) (by simp))
 have hnin : key ∉ acc:=by rw [h10] at hac; exact of_decide_eq_false hac.symm
 have hnin' : key ∉ accR g p o:=by rw [← hacc]; exact hnin
 obtain ⟨side,hside⟩:=hR.all i hi0 (fun hm=>hnin' (by rw [← hok]; exact zn0 hm))
 rw [hok] at hside
 obtain ⟨j,hj,hij,hRj⟩:=zq5 hside
 have hixc:=zmb zbt [.pv [.I key]] (fun r=>decide (r.1 = key)) R (by omega) (fun ρ sn h k=>by simp) fun r _=>zkn r key
 rw [hij] at hixc
 obtain ⟨sd,hsd⟩ : ∃ sd,sd = R[j].2:=⟨_,rfl⟩
 have hgR : R[j]? = some (key,sd):=by rw [List.getElem?_eq_getElem hj,hsd,← hRj]
 have hgR' : R[j] = (key,sd):=by rw [hsd,← hRj]
 have hmem : (key,sd) ∈ R:=by rw [← hgR']; exact List.getElem_mem hj
 have hsl : sd.length ≤ 130:=by
  obtain ⟨_,_,_,hnear⟩:=hR.right _ hmem
  exact hnear.len
 have hcl:=zeA sd (by omega)
 refine zad ?_
 refine zab ?_
 refine zaa ⟨76,[(7,.pv [ints acc,ints fl,.vs 2 false (zaZ R)]),(10,.pt 48 0 0),(12,.pt 50 0 0),(17,.I j)],[(48,some ⟨5,[[.I 0,.B false,.nilS,.nilS,.nilS]],0⟩),(50,some ⟨5,[[.I key,.B false,ints E,.nilS,.nilS]],0⟩)],900⟩ rfl ?_ ?_
 ·simp
  refine zal hixc (by simp) ?_
  simp [h10]
  exact Le.go [(48,48),(50,50)] [51] rfl rfl (by simp) (by simp [fcd,zaj,h10])
 refine zaa ⟨76,[(7,.pv [ints acc,ints fl,.vs 2 false (zaZ R)]),(10,.pt 48 0 0),(12,.pt 50 0 0),(17,.I j),(66,.B true)],[(48,some ⟨5,[[.I 0,.B false,.nilS,.nilS,.nilS]],0⟩),(50,some ⟨5,[[.I key,.B false,ints E,.nilS,.nilS]],0⟩)],1000⟩ rfl ?_ ?_
 ·simp
  exact LeI [(48,48),(50,50)] []
 refine zac _ rfl (fun _=>?_) fun h=>by cases h
 refine zar rfl ?_
 simp [hgR,hgR',hj]
 refine zaM hcl (by simp) ?_
 simp [zaw]
 refine zaa ⟨76,[(10,.pt 48 0 0),(11,.I 0)],[(48,some ⟨5,[[.I key,.B false,ints E,.nilS,ints sd]],0⟩)],1500⟩ rfl ?_ ?_
 ·simp [zaw]
  exact Le.go [(48,48)] [1048] rfl rfl (by simp) (by simp [fcd,zaj])
 refine zah ?_
 refine zdZ.mk (.inr rfl) ⟨key,false,E,[],sd⟩ ⟨rfl,⟨i,hi0,hok,by rw [← hacc]; exact hE⟩,fun h=>absurd h hnin',fun _=>⟨rfl,rfl,R,hR,hmem⟩⟩ (zan.out [] [] rfl (by simp) (by simp) (by simp; exact wkX (.nil _ _) (.refl _)) (by simp))
set_option maxRecDepth 100000 in
set_option maxHeartbeats 4000000 in
theorem zgW (g : Gr) (p : Pol) (key : Int) (hg : GrOk g) (hp : zaV g.size p) (hs : p.seeds.length ≤ 64) (hN : g.size < 20) (hkey : key ∈ ordL (zai g p.lv) p.seeds) :
  ∃ x,ForR g p (ordL (zai g p.lv) p.seeds) key x ∧ zak Tryz.prog zb4 [eG g,eP p,.I key] [] (.tup [eX x,.I 0]) []:=by
 have hsz:=hg.1.1
 have hsz2:=hg.1.2.1
 have hel:=hg.edges_le
 have hgl:=hg.gone_le
 obtain ⟨fl,_,hrun⟩:=zin g p hg hp hs hN
 obtain ⟨x,hx,hexp⟩:=zj5 g p fl key hg hp hs hkey
 refine ⟨x,hx,?_⟩
 have hchk:=zbE g p (by omega) (by omega) (by omega) (by have:=hp.2.2.2.1; omega)
 rw [if_pos hg,if_pos hp] at hchk
 have hre:=zcU g p hg hN (by omega)
 have hol : (ordL (zai g p.lv) p.seeds).length ≤ 64:=by
  have h1:=zdD (g:=zai g p.lv) (S:=p.seeds) hsz
  have h2 : (zai g p.lv).size = g.size:=rfl
  omega
 have hcon:=zdb (ordL (zai g p.lv) p.seeds) key (by omega)
 rw [decide_eq_true hkey] at hcon
 obtain ⟨o,ho⟩ : ∃ o,o = ordL (zai g p.lv) p.seeds:=⟨_,rfl⟩
 rw [← ho] at hrun hexp hre hcon
 obtain ⟨acc,hacc⟩ : ∃ acc,acc = accR g p o:=⟨_,rfl⟩
 obtain ⟨R,hRd⟩ : ∃ R,R = refR g p o:=⟨_,rfl⟩
 rw [← hacc,← hRd] at hrun hexp
 refine zfv.acalls (nbz rfl) (nbz rfl) (Nat.zero_le _) ?_
 show awp _ 0 _ _ ⟨45,[(0,eG g),(1,eP p),(2,.I key)],[],16⟩
 refine zaa ⟨45,[(2,.I key),(3,.pv (gC g)),(4,.pv (pC p)),(6,.pt 32 0 0)],[(32,some ⟨5,[[.I 0,.B false,.nilS,.nilS,.nilS]],0⟩)],100⟩ rfl ?_ ?_
 ·simp
  exact LeH [(32,32)] [16,24]
 refine zab ?_
 refine zaa ⟨45,[(2,.I key),(3,.pv (gC g)),(4,.pv (pC p)),(6,.pt 32 0 0),(8,.I 0)],[(32,some ⟨5,[[.I 0,.B false,.nilS,.nilS,.nilS]],0⟩)],200⟩ rfl ?_ ?_
 ·simp
  refine zal hchk (by simp) ?_
  simp
  exact LeH [(32,32)] []
 refine zaa ⟨45,[(2,.I key),(3,.pv (gC g)),(4,.pv (pC p)),(6,.pt 32 0 0),(16,.B false)],[(32,some ⟨5,[[.I 0,.B false,.nilS,.nilS,.nilS]],0⟩)],300⟩ rfl ?_ ?_
 ·simp
  exact LeH [(32,32)] []
 refine zac _ rfl (fun h=>by cases h) fun _=>?_
 refine zad ?_
 refine zaa ⟨45,[(2,.I key),(3,.pv (gC g)),(4,.pv (pC p)),(6,.pt 32 0 0),(9,ints o)],[(32,some ⟨5,[[.I 0,.B false,.nilS,.nilS,.nilS]],0⟩)],400⟩ rfl ?_ ?_
 ·simp
  refine zaM hre (by simp) ?_
  simp
  exact Le.go [(32,32)] [316] rfl rfl (by simp [zaj,fcd]) (by simp)
 refine zab ?_
 refine zaa ⟨45,[(2,.I key),(3,.pv (gC g)),(4,.pv (pC p)),(6,.pt 32 0 0),(9,ints o),(25,.B false)],[(32,some ⟨5,[[.I 0,.B false,.nilS,.nilS,.nilS]],0⟩)],500⟩ rfl ?_ ?_
 ·simp
  refine zal hcon (by simp) ?_
  simp
  exact LeH [(32,32)] []
 refine zac _ rfl (fun h=>by cases h) fun _=>?_
 refine zad ?_
 refine zaa ⟨45,[(2,.I key),(3,.pv (gC g)),(4,.pv (pC p)),(6,.pt 32 0 0),(9,ints o),(10,.pv [ints acc,ints fl,.vs 2 false (zaZ R)]),(11,.I 0)],[(32,some ⟨5,[[.I 0,.B false,.nilS,.nilS,.nilS]],0⟩)],600⟩ rfl ?_ ?_
 ·simp
  refine zal hrun (by simp) ?_
  simp
  exact LeH [(32,32)] [548]
 refine zab ?_
 refine zaa ⟨45,[(2,.I key),(3,.pv (gC g)),(4,.pv (pC p)),(6,.pt 32 0 0),(9,ints o),(10,.pv [ints acc,ints fl,.vs 2 false (zaZ R)]),(34,.B false)],[(32,some ⟨5,[[.I 0,.B false,.nilS,.nilS,.nilS]],0⟩)],700⟩ rfl ?_ ?_
 ·simp
  exact LeH [(32,32)] []
 refine zac _ rfl (fun h=>by cases h) fun _=>?_
 refine zad ?_
 refine zaa ⟨45,[(6,.pt 32 0 0),(7,.I 0)],[(32,some ⟨5,[xE x],0⟩)],800⟩ rfl ?_ ?_
 ·simp
  refine zal hexp (by simp) ?_
  simp [zaw]
  exact LeI [(32,32)] []
 refine zah ?_
 exact ⟨.inr rfl,zan.out [] [] rfl (by simp) (by simp) (by simp) (by simp)⟩
theorem znu (g : Gr) (p : Pol) (acc fl : List Int) (R : List (Int × List Int)) (o : List Int) (key : Int) (x : Expl)
  (hexp : zak Tryz.prog za9 [eG g,eP p,eAcc acc fl R,ints o,.I key] [] (.tup [eX x,.I 0]) []) :
  zak Tryz.prog zcP [.I key,.pv (gC g),.pv (pC p),.pv [ints acc,ints fl,.vs 2 false (zaZ R)],.pv [ints o]] [] (.tup [eX x,.I 0]) []:=by
 refine zkh.acalls (nbz rfl) (nbz rfl) (Nat.zero_le _) ?_
 show awp _ 0 _ _ ⟨16,[(0,.I key),(1,.pv (gC g)),(2,.pv (pC p)),(3,.pv [ints acc,ints fl,.vs 2 false (zaZ R)]),(4,.pv [ints o])],[],16⟩
 refine rk (s:=?s1) [0,1,2,3,4,6] [16] rfl ?o1 ?q1
 case o1=>simp; rfl
 refine zaa ⟨16,[(6,.pt 16 0 0),(7,.I 0)],[(16,some ⟨5,[xE x],0⟩)],800⟩ rfl ?_ ?_
 ·simp
  refine zal hexp (by simp) ?_
  simp [zaw]
  exact LeI [(16,16)] []
 refine zah ?_
 exact ⟨.inr rfl,zan.out [] [] rfl (by simp) (by simp) (by simp) (by simp)⟩
set_option maxRecDepth 100000 in
set_option maxHeartbeats 4000000 in
theorem zmA (g : Gr) (p : Pol) (hg : GrOk g) (hp : zaV g.size p) (hs : p.seeds.length ≤ 64) (hN : g.size < 20) :
  ∃ X,AllR g p (ordL (zai g p.lv) p.seeds) X ∧ zak Tryz.prog zdt [eG g,eP p] [] (.tup [eXs X,.I 0]) []:=by
 obtain ⟨fl,_,hrun⟩:=zin g p hg hp hs hN
 have hexp:=fun key h=>zj5 g p fl key hg hp hs h
 have hre:=zcU g p hg hN (by omega)
 have hol : (ordL (zai g p.lv) p.seeds).length ≤ 64:=by
  have h1:=zdD (g:=zai g p.lv) (S:=p.seeds) hg.1.1
  have h2 : (zai g p.lv).size = g.size:=rfl
  have h3:=hg.1.2.1
  omega
 obtain ⟨o,ho⟩ : ∃ o,o = ordL (zai g p.lv) p.seeds:=⟨_,rfl⟩
 rw [← ho] at hrun hexp hre hol ⊢
 obtain ⟨F,hF⟩ : ∃ F : Int → Expl,∀ k,k ∈ o → ForR g p o k (F k) ∧ zak Tryz.prog za9 [eG g,eP p,eAcc (accR g p o) fl (refR g p o),ints o,.I k] [] (.tup [eX (F k),.I 0]) []:=by
  refine ⟨fun k=>if h : k ∈ o then (hexp k h).choose else ⟨0,false,[],[],[]⟩,fun k hk=>?_⟩
  simp only [dif_pos hk]
  exact (hexp k hk).choose_spec
 refine ⟨o.map F,⟨by simp,fun i h1 h2=>by rw [List.getElem_map]; exact (hF _ (List.getElem_mem h2)).1⟩,?_⟩
 obtain ⟨acc,hacc⟩ : ∃ acc,acc = accR g p o:=⟨_,rfl⟩
 obtain ⟨R,hRd⟩ : ∃ R,R = refR g p o:=⟨_,rfl⟩
 rw [← hacc,← hRd] at hrun hF
 have hturn:=zqL zcP [.pv (gC g),.pv (pC p),.pv [ints acc,ints fl,.vs 2 false (zaZ R)],.pv [ints o]] F o (by omega) (fun ρ sn h k=>by simp) fun k hk=>znu g p acc fl R o k (F k) (hF k hk).2
 obtain ⟨Y,hY⟩ : ∃ Y,Y = o.map F:=⟨_,rfl⟩
 rw [← hY] at hturn ⊢
 refine zis.acalls (nbz rfl) (nbz rfl) (Nat.zero_le _) ?_
 show awp _ 0 _ _ ⟨26,[(0,eG g),(1,eP p)],[],16⟩
 refine zaa ⟨26,[(2,.pv (gC g)),(3,.pv (pC p))],[],100⟩ rfl ?_ ?_
 ·simp
  exact LeH [] [16,24]
 refine zaa ⟨26,[(2,.pv (gC g)),(3,.pv (pC p)),(6,.pv [ints acc,ints fl,.vs 2 false (zaZ R)]),(7,.I 0)],[],200⟩ rfl ?_ ?_
 ·simp
  refine zal hrun (by simp) ?_
  simp [zaw]
  exact LeH [] [148]
 refine zab ?_
 refine zaa ⟨26,[(2,.pv (gC g)),(3,.pv (pC p)),(6,.pv [ints acc,ints fl,.vs 2 false (zaZ R)]),(16,.B false)],[],300⟩ rfl ?_ ?_
 ·simp
  exact LeH [] []
 refine zac _ rfl (fun h=>by cases h) fun _=>?_
 refine zad ?_
 refine zaa ⟨26,[(2,.pv (gC g)),(3,.pv (pC p)),(6,.pv [ints acc,ints fl,.vs 2 false (zaZ R)]),(8,.pv [ints o])],[],400⟩ rfl ?_ ?_
 ·simp
  refine zaM hre (by simp) ?_
  simp
  exact Le.go [] [316,324] rfl rfl (by simp [zaj,fcd]) (by simp)
 refine zaa ⟨26,[(4,eXs Y),(5,.I 0)],[],500⟩ rfl ?_ ?_
 ·simp
  refine zal hturn (by simp) ?_
  simp
  exact LeH [] []
 refine zah ?_
 exact ⟨.inr rfl,zan.out [] [] rfl (by simp) (by simp) (by simp) (by simp)⟩
section
variable {g : Gr} {p : Pol}
theorem zqP (hg : GrOk g) (hp : zaV g.size p) {a : List Int} (h : ∀ x ∈ a,x ∈ ordL (zai g p.lv) p.seeds) : zbX g p a:=by
 refine ⟨fun x hx=>?_,fun x hx=>?_⟩
 ·have h2:=zbF (h x hx)
  exact h2
 ·have h2:=(zi7 (hg.level p.lv)).1 (h x hx)
  exact (zga hp h2.1.1).2 ⟨h2.1.2,h2.2⟩
theorem zbX.join {a : List Int} (h : zbX g p a) : zbX g p (zav a):=h.sub fun _ hx=>(zcL.1 hx).1
theorem zqq (hg : GrOk g) (hp : zaV g.size p) : zbX g p (ordL (zai g p.lv) p.seeds):=zqP hg hp fun _ h=>h
end
variable {g : Gr} {p : Pol}
theorem h64 (hg : GrOk g) {a : List Int} (h : ∀ x ∈ a,0 ≤ x ∧ x < g.size) : ∀ x ∈ a,0 ≤ x ∧ x < 64:=fun x hx=>by
 have:=h x hx
 have:=hg.1.2.1
 omega
end Go.Proofs.YteiabadhhhckfaaGreat
