/- Texts of this claim,merged. -/
import Derived.Test.YteiabadhhhckfaaGreatRd13
import Derived.Test.YteiabadhhhckfaaGreatRd11
import Derived.Test.YteiabadhhhckfaaGreatRd6
import Derived.Test.YteiabadhhhckfaaGreatRd12
import Derived.Test.YteiabadhhhckfaaGreatRd9
set_option linter.unusedSimpArgs false
set_option linter.unusedVariables false
set_option linter.unusedSectionVars false
namespace Go.Proofs.YteiabadhhhckfaaGreat
open Go
section
variable {N : Nat} {A : List Ed} {f : List Int}
theorem zqx (hn : zdm N A) {s : Stp} (hs : s.1 < A.length) : 0 ≤ stT A s ∧ stT A s < N:=by
 have:=hn.arc _ (zef hs)
 unfold stT
 split <;> omega
theorem Bfs.grow (hn : zdm N A) : ∀ (n : Nat) (D b : List Int),Bfs N A f D b → N - D.length ≤ n → ∃ D' b',Bfs N A f D' b' ∧ ze1 A f D'
 | n,D,b,h,hl=>by
   by_cases hc : ze1 A f D
   ·exact ⟨D,b,h,hc⟩
   ·unfold ze1 at hc
    obtain ⟨s,hs⟩:=Classical.not_forall.1 hc
    obtain ⟨h1,hs⟩:=Classical.not_imp.1 hs
    obtain ⟨h2,hs⟩:=Classical.not_imp.1 hs
    obtain ⟨h3,h4⟩:=Classical.not_imp.1 hs
    have hr:=zqx hn h1
    have hp:=h.push h1 h2 h3 h4 hr.1 hr.2
    have hf:=hp.few
    rw [List.length_append,List.length_singleton] at hf
    match n,hl with
    | 0,hl=>omega
    | n + 1,hl=>exact Bfs.grow hn n _ _ hp (by rw [List.length_append,List.length_singleton]; omega)
theorem znf (hn : zdm N A) {D b : List Int} (hf1 : zaD N A f) (hf2 : ∀ f',zaD N A f' → valF A f' ≤ valF A f) (hb : Bfs N A f D b) : (1 : Int) ∉ D:=fun hm=>by
 obtain ⟨l,hl⟩:=hb.chain hm
 have h1:=hl.push hn hf1 (v:=1) (by omega) fun s hs=>by
  obtain ⟨i,hi,rfl⟩:=List.mem_iff_getElem.1 hs
  have:=(hl.at_ i hi).2.1
  omega
 have h2:=hf2 _ h1.1
 omega
theorem zpR (hn : zdm N A) {S : Int → Bool} (h0 : S 0 = true) (h1 : S 1 = false) : maxF N A ≤ capS S A:=by
 obtain ⟨f,hf,hv⟩:=zob hn
 rw [← hv]
 exact zd2 hn hf h0 h1
theorem zrg (hn : zdm N A) : ∃ X : Int → Bool,X 0 = true ∧ X 1 = false ∧ capS X A = maxF N A ∧ ∀ S : Int → Bool,S 0 = true → S 1 = false → capS S A = maxF N A → ∀ x,X x = true → S x = true:=by
 obtain ⟨f,hf,hm⟩:=zei hn
 obtain ⟨D,b,hb,hc⟩:=Bfs.grow hn N [0] _ (Bfs.start (f:=f) (by have:=hn.two; omega)) (by omega)
 have h1:=znf hn hf hm hb
 have hmf:=zfJ hf hm
 refine ⟨fun x=>decide (x ∈ D),by simpa using hb.mem0,by simpa using h1,?_,fun S s0 s1 hS x hx=>?_⟩
 ·rw [hmf]
  exact (zia hn hf hb.mem0 h1 hc).1.symm
 ·exact zkr hn hf hb.tree s0 s1 (hS.trans hmf) x (by simpa using hx)
end
def zio (g : Gr) (p : Pol) (S : Int → Bool) : Int:=capS S (netA g p [])
def zfe (S : Int → Bool) (ks : List Int) : Int:=(ks.map fun k=>if S (2 + 2 * k) = true then 1 else 0).sum
variable {g : Gr} {p : Pol}
def zr6 (g : Gr) (p : Pol) (k : Int) : Prop:=0 < (zat g p).getD k.toNat 0
theorem zko {S : Int → Bool} (h1 : S 1 = false) {ks : List Int} (hk : ∀ k ∈ ks,zr6 g p k) : capS S (netA g p ks) = zio g p S + zfe S ks:=by
 have hf : ks.filter (fun x=>decide (0 < (zat g p).getD x.toNat 0)) = ks:=List.filter_eq_self.2 fun x hx=>decide_eq_true (hk x hx)
 unfold zio zfe
 simp only [zgi,netA,za1,List.map_append,List.sum_append,List.map_map,hf]
 have e : ((fun e : Ed=>if S e.f = true ∧ S e.t = false then e.v else 0) ∘ fun x : Int=>(⟨2 + 2 * x,1,1⟩ : Ed)) = fun k=>if S (2 + 2 * k) = true then 1 else 0:=by
  funext k
  simp only [Function.comp,h1,and_true]
 rw [e]
 simp only [List.filter_nil,List.map_nil,List.sum_nil]
 omega
theorem zoi (S : Int → Bool) : ∀ ks : List Int,zfe S ks ≤ ks.length
 | []=>Int.le_refl _
 | k :: ks=>by
   have ih:=zoi S ks
   unfold zfe at ih ⊢
   simp only [List.map_cons,List.sum_cons,List.length_cons]
   split <;> omega
theorem zmu (S : Int → Bool) (a b : List Int) : zfe S (a ++ b) = zfe S a + zfe S b:=by simp [zfe]
theorem zoW (S : Int → Bool) {a b : List Int} (h : a.Perm b) : zfe S a = zfe S b:=by
 unfold zfe
 induction h with
 | nil=>rfl
 | cons x _ ih=>simp only [List.map_cons,List.sum_cons,ih]
 | swap x y l=>simp only [List.map_cons,List.sum_cons]; omega
 | trans _ _ ih1 ih2=>exact ih1.trans ih2
theorem zj4 {S : Int → Bool} : ∀ {ks : List Int},(∀ k ∈ ks,S (2 + 2 * k) = false) → zfe S ks = 0
 | [],_=>rfl
 | k :: ks,h=>by
   have ih:=zj4 (S:=S) (ks:=ks) fun x hx=>h x (List.mem_cons_of_mem _ hx)
   unfold zfe at ih ⊢
   simp [ih,h k (List.mem_cons_self ..)]
structure zbf (g : Gr) (p : Pol) (ks : List Int) : Prop where
 rng : ∀ x ∈ ks,0 ≤ x ∧ x < g.size
 reach : ∀ x ∈ ks,zr6 g p x
theorem zbf.sub {a b : List Int} (h : zbf g p b) (hs : ∀ x ∈ a,x ∈ b) : zbf g p a:=⟨fun x hx=>h.rng x (hs x hx),fun x hx=>h.reach x (hs x hx)⟩
theorem zbf.nil : zbf g p []:=⟨fun _ h=>(List.not_mem_nil h).elim,fun _ h=>(List.not_mem_nil h).elim⟩
theorem zbf.append {a b : List Int} (h : zbf g p a) (h' : zbf g p b) : zbf g p (a ++ b) :=
 ⟨fun x hx=>(List.mem_append.1 hx).elim (h.rng x) (h'.rng x),fun x hx=>(List.mem_append.1 hx).elim (h.reach x) (h'.reach x)⟩
theorem zbP (hg : GrOk g) (hp : zbb g.size p) {ks : List Int} (hk : zbf g p ks) : zaq g p ks ↔ ∀ S : Int → Bool,S 0 = true → S 1 = false → (ks.length : Int) ≤ zio g p S + zfe S ks:=by
 have hn:=zgO hg hp hk.rng
 unfold zaq
 constructor
 ·intro h S h0 h1
  rw [← zko h1 hk.reach,← h]
  exact zpR hn h0 h1
 ·intro h
  obtain ⟨X,h0,h1,hc,_⟩:=zrg hn
  have h2:=h X h0 h1
  rw [← zko h1 hk.reach,hc] at h2
  have h3:=zgl (p:=p) hg hp hk.rng
  omega
theorem zaq.perm (hg : GrOk g) (hp : zbb g.size p) {a b : List Int} (ha : zbf g p a) (h : zaq g p a) (hp' : a.Perm b) : zaq g p b:=by
 have hb : zbf g p b:=ha.sub fun x hx=>hp'.mem_iff.2 hx
 rw [zbP hg hp hb]
 rw [zbP hg hp ha] at h
 intro S h0 h1
 rw [← zoW S hp',← hp'.length_eq]
 exact h S h0 h1
theorem zaq.left (hg : GrOk g) (hp : zbb g.size p) {a b : List Int} (hk : zbf g p (a ++ b)) (h : zaq g p (a ++ b)) : zaq g p a:=by
 have ha : zbf g p a:=hk.sub fun x hx=>List.mem_append_left _ hx
 rw [zbP hg hp ha]
 rw [zbP hg hp hk] at h
 intro S h0 h1
 have:=h S h0 h1
 rw [zmu,List.length_append] at this
 have:=zoi S b
 omega
theorem zaq.sublist (hg : GrOk g) (hp : zbb g.size p) {a b : List Int} (hk : zbf g p b) (h : zaq g p b) (hs : a.Sublist b) : zaq g p a:=by
 obtain ⟨c,hc⟩ : ∃ c,(a ++ c).Perm b:=by
  induction hs with
  | slnil=>exact ⟨[],.refl _⟩
  | cons x hs ih =>
    obtain ⟨c,hc⟩:=ih (hk.sub fun y hy=>List.mem_cons_of_mem _ hy) (by
     have h2 : zaq g p (_ ++ [x]):=h.perm hg hp hk (List.perm_append_comm (l₁:=[x]))
     exact h2.left hg hp (hk.sub fun y hy=>by simpa [or_comm] using hy))
    exact ⟨x :: c,List.perm_middle.trans (hc.cons x)⟩
  | cons_cons x hs ih =>
    obtain ⟨c,hc⟩:=ih (hk.sub fun y hy=>List.mem_cons_of_mem _ hy) (by
     have h2 : zaq g p (_ ++ [x]):=h.perm hg hp hk (List.perm_append_comm (l₁:=[x]))
     exact h2.left hg hp (hk.sub fun y hy=>by simpa [or_comm] using hy))
    exact ⟨c,hc.cons x⟩
 exact (h.perm hg hp hk hc.symm).left hg hp (hk.sub fun x hx=>hc.mem_iff.1 hx)
theorem zaq.nil (hg : GrOk g) (hp : zbb g.size p) : zaq g p []:=by
 have h1:=zgl (p:=p) (ks:=[]) hg hp (by simp)
 have hn:=zgO (p:=p) (ks:=[]) hg hp (by simp)
 have h2:=zqK hn (zjf hn)
 have h3 : valF (netA g p []) ((netA g p []).map fun _=>0) = 0:=by
  unfold valF outF
  have : ∀ A : List Ed,sumF (fun e v=>if e.f = 0 then v else 0) A (A.map fun _=>0) = 0:=by
   intro A
   induction A with
   | nil=>rfl
   | cons e A ih=>simp only [List.map_cons,sumF,ih]; split <;> rfl
  exact this _
 unfold zaq
 simp at h1 ⊢
 omega
def zcv (L : List Int) (a : Nat) : Nat → List Int × Nat
 | 0=>([],a)
 | m + 1=>(if (zau L (zcv L a m).2 3).1 = 0 then (zcv L a m).1 ++ [(m : Int)] else (zcv L a m).1,(zau L (zcv L a m).2 3).2)
theorem zos {L : List Int} {a : Nat} (ha : a ≤ L.length) : ∀ m,(zcv L a m).2 ≤ L.length
 | 0=>ha
 | m + 1=>zbt (zos ha m)
theorem zgr {L : List Int} {a : Nat} : ∀ m,(zcv L a m).1.length ≤ m
 | 0=>Nat.le_refl _
 | m + 1=>by
   have:=zgr (L:=L) (a:=a) m
   unfold zcv
   simp only
   split
   ·rw [List.length_append]; simp; omega
   ·omega
theorem zan.k1n {rs : List (Nat × Option (Bool × Nat))} {st : St} {vs : List AV} {res : AV} {e0 e : Ent} (i : Nat) (hi : 1 ≤ i) (h1 : zeA st rs = some vs) (hw : Wk (conv [(0,0),(i,1)] [] st.hp 4 (resV vs)) res) (h0 : (st.hp 0).map (zaw [(0,0),(i,1)] [] st.hp 4) = some e0) (he : (st.hp i).map (zaw [(0,0),(i,1)] [] st.hp 4) = some e) : zan rs 1 st res [some e0,some e] :=
 ⟨vs,h1,[i],[],by simp [List.range,List.range.loop]; omega,by simpa using hi,by simp,by simpa [List.range,List.range.loop] using hw,by simpa [List.range,List.range.loop] using ⟨by simpa using h0,by simpa using he⟩⟩
set_option maxRecDepth 100000 in
theorem zpL (L : List Int) (a N : Nat) (hl : L.length ≤ 400) (ha : a ≤ L.length) (hN : N ≤ 1000) : zaj Tryz.prog zcx [.pt 0 0 0,.I N] [dice L a] (.rs 1 0 (zcv L a N).1.length) [some (dice L (zcv L a N).2),some ⟨1,zah (zcv L a N).1,0⟩]:=by
 refine zjl.acalls (Nat.le_of_ble_eq_true rfl) (Nat.le_of_ble_eq_true rfl) (by simp) ?_
 show awp _ 1 _ _ ⟨20,[(0,.pt 0 0 0),(1,.I N)],[(0,some (dice L a))],16⟩
 refine zaa ?_
 refine zac (s:=?s1) rfl ?o1 ?q1
 case o1=>simp; rfl
 refine zaa ?_
 refine zac (s:=?s2) rfl ?o2 ?q2
 case o2=>simp; rfl
 refine zaa ?_
 refine zaa ?_
 refine zac (s:=?s3) rfl ?o3 ?q3
 case o3=>simp; rfl
 refine zaf ?_
 refine zap (ι:=Nat) (fun m=>⟨20,[(0,.pt 0 0 0),(1,.I N),(5,.rs 16 0 (zcv L a m).1.length),(6,.I m)],[(0,some (dice L (zcv L a m).2)),(16,some ⟨1,zah (zcv L a m).1,0⟩)],40⟩) (fun m=>m ≤ N) (fun m=>N - m) 0 (Nat.zero_le _) ?_ ?_
 ·refine Le.lst [(0,0)] [] [(16,1)] rfl (by simp) (by simp) (by simp) (by simp) (by simp) (by simp) (by simp) (by simp [Up,zcv]) fun p hp e' he'=>?_
  simp [zcv] at hp
  rcases hp with rfl | rfl
  ·cases he'
   exact .inl ⟨(0,0),by simp,rfl,_,rfl,zaC.eq (by simp [fcd]) (by simp)⟩
  ·cases he'
   exact .inr ⟨by simp,by simp,rfl⟩
 intro m hm
 have hle:=zos (L:=L) ha m
 have hlen:=zgr (L:=L) (a:=a) m
 have hnx:=zeh L (zcv L a m).2 3 hl hle (by omega)
 obtain ⟨X,hX⟩ : ∃ X,X = (zcv L a m).1:=⟨_,rfl⟩
 obtain ⟨b,hb⟩ : ∃ b,b = (zcv L a m).2:=⟨_,rfl⟩
 have hs1 : zcv L a (m + 1) = (if (zau L b 3).1 = 0 then X ++ [(m : Int)] else X,(zau L b 3).2):=by rw [hX,hb]; rfl
 rw [← hX] at hlen
 rw [← hb] at hle hnx
 rw [← hX,← hb]
 refine zaa ?_
 refine zab ⟨20,[(0,.pt 0 0 0),(1,.I N),(5,.rs 16 0 X.length),(6,.I m),(9,.B (decide (m < N)))],[(0,some (dice L b)),(16,some ⟨1,zah X,0⟩)],64⟩ rfl ?_ ?_
 ·simp
  exact Le.keep rfl (Nat.le_refl _) (by simp) (by simp)
 refine zad _ rfl (fun h=>zae ?_) fun h=>zao (hit ?_)
 ·simp only [decide_eq_true_eq] at h
  have hwm : IntKind.i64.wrap ((m : Int) + 1) = ((m + 1 : Nat) : Int):=by rw [w64 (by omega) (by omega)]; omega
  refine zaI (ι:=Unit) (fun _=>⟨20,[(0,.pt 0 0 0),(1,.I N),(5,.rs 16 0 (zcv L a (m + 1)).1.length),(6,.I m)],[(0,some (dice L (zcv L a (m + 1)).2)),(16,some ⟨1,zah (zcv L a (m + 1)).1,0⟩)],64⟩) (fun _=>True) ?_ fun _ _=>?_
  ·refine zaf ?_
   refine zab ⟨20,[(0,.pt 0 0 0),(1,.I N),(5,.rs 16 0 X.length),(6,.I m),(14,.B (decide ((zau L b 3).1 = 0)))],[(0,some (dice L (zau L b 3).2)),(16,some ⟨1,zah X,0⟩)],88⟩ rfl ?_ ?_
   ·simp
    refine zba (i:=0) rfl (e':=dice L b) (by simp [fcd]) hnx (by simp) (by simp) ?_
    simp [fcd]
    exact Le.keep rfl (Nat.le_refl _) (by simp <;> rw [Bool.eq_iff_iff] <;> simp) (by simp)
   refine zad _ rfl (fun h2=>?_) fun h2=>zae ?_
   ·simp only [decide_eq_true_eq] at h2
    rw [if_pos h2] at hs1
    rw [hs1]
    refine zar rfl ?_
    simp
    refine ⟨by omega,by omega,?_⟩
    refine Le.ents [(0,0),(112,16)] [] rfl (by simp) (by simp) (by simp) (by simp) (by simp) (by simp) fun p hp=>?_
    simp at hp
    rcases hp with rfl | rfl
    ·exact ⟨0,_,_,rfl,by simp,rfl,zaC.eq (by simp [fcd]) (by simp)⟩
    ·exact ⟨112,_,_,rfl,by simp,rfl,zaC.eq (by simp [fcd]; try rw [List.take_of_length_le (by simp)]) (by simp)⟩
   ·simp only [decide_eq_false_iff_not] at h2
    rw [if_neg h2] at hs1
    rw [hs1]
    refine ⟨(),trivial,?_⟩
    show Le 1 _ ⟨20,[(0,.pt 0 0 0),(1,.I N),(5,.rs 16 0 X.length),(6,.I m)],[(0,some (dice L (zau L b 3).2)),(16,some ⟨1,zah X,0⟩)],64⟩
    refine Le.ents [(0,0),(16,16)] [] rfl (by simp) (by simp) (by simp) (by simp) (by simp) (by simp) fun p hp=>?_
    simp at hp
    rcases hp with rfl | rfl
    ·exact ⟨0,_,_,rfl,by simp,rfl,zaC.eq (by simp [fcd]) (by simp)⟩
    ·exact ⟨16,_,_,rfl,by simp,rfl,zaC.eq (by simp [fcd]) (by simp)⟩
  refine zar rfl ?_
  simp [hwm]
  refine ⟨m + 1,by omega,by omega,?_⟩
  refine Le.ents [(0,0),(16,16)] [] rfl (by simp) (by simp) (by simp) (by simp) (by simp) (by simp) fun p hp=>?_
  simp at hp
  rcases hp with rfl | rfl
  ·exact ⟨0,_,_,rfl,by simp,rfl,zaC.eq (by simp [fcd]) (by simp)⟩
  ·exact ⟨16,_,_,rfl,by simp,rfl,zaC.eq (by simp [fcd]) (by simp)⟩
 simp only [decide_eq_false_iff_not] at h
 obtain rfl : m = N:=by omega
 refine zaa ?_
 refine zac (s:=?z9) rfl ?p9 ?r9
 case p9=>simp; rfl
 refine zag ?_
 rw [← hX,← hb]
 exact ⟨.inr rfl,zan.k1n 16 (by simp) rfl (by simp) (by simp [fcd]) (by simp [fcd])⟩
@[simp] theorem zsU {i : Nat} : cellsOf (.mp i) = some [.mp i]:=(rfl)
set_option maxRecDepth 100000 in
set_option maxHeartbeats 2000000 in
theorem ztr (N : Nat) (A : List Ed) (f0 : List Int) (hn : zby ⟨N,A⟩) (hf0 : zaD N A f0) :
  ∃ f : List Int,(zaD N A f ∧ ∀ f',zaD N A f' → valF A f' ≤ valF A f) ∧ zaj Tryz.prog zgQ [eN ⟨N,A⟩,ints f0] [] (.rs 0 0 A.length) [some ⟨1,zah f,0⟩]:=by
 refine zoD.acallsX (args:=[eN ⟨N,A⟩,ints f0]) (hs:=[]) (fun f=>.rs 0 0 A.length) (fun f=>[some ⟨1,zah f,0⟩]) (fun f : List Int=>zaD N A f ∧ ∀ f',zaD N A f' → valF A f' ≤ valF A f) (Nat.le_of_ble_eq_true rfl) (Nat.le_of_ble_eq_true rfl) (fun _=>by simp) ?_
 show awp _ 0 _ _ ⟨14,[(0,eN ⟨N,A⟩),(1,ints f0)],[],16⟩
 have hno:=zfk hn
 have hfl:=hf0.fit.len
 have hopen:=fun (f : List Int)=>zqm N A f A.length hn
 have hpush:=fun (f : List Int) (hf : zaD N A f)=>ztk N A f hn hf
 have hal:=hn.2.2.1
 simp only at hal
 have hcl:=zmv f0 (by omega)
 rw [hfl] at hcl
 have htake : ∀ g : Int → List AV,List.take A.length (List.map g f0) = List.map g f0:=fun g=>List.take_of_length_le (by simp; omega)
 refine rx (s:=?s1) [1,2] [] [16] rfl ?o1 ?q1
 case o1=>simp; rfl
 refine zaF ⟨14,[(5,.pt 64 0 0)],[(48,some ⟨1,zah f0,0⟩),(64,some ⟨4,[rC N A (.rs 48 0 A.length)],0⟩)],80⟩ rfl ?_ ?_
 ·simp
  refine za3 hcl (by simp) ?_
  simp
  refine zba (i:=48) rfl (by simp [fcd]) (hopen f0) (by simp) (by simp) ?_
  simp
  exact ⟨rfl,Le.go [(48,48),(64,64)] [] rfl rfl (by simp) (by simp [fcd])⟩
 refine zaa ?_
 refine zaf ?_
 refine zap (ι:=List Int) (fun f=>⟨14,[(5,.pt 64 0 0)],[(48,some ⟨1,zah f,0⟩),(64,some ⟨4,[rC N A (.rs 48 0 A.length)],0⟩)],80⟩) (fun f=>zaD N A f) (fun f=>(capS (fun x=>decide (x = 0)) A - valF A f).toNat) f0 hf0 (Le.go [(48,48),(64,64)] [] rfl rfl (by simp) (by simp [fcd])) ?_
 intro f hf
 obtain ⟨⟨c,f'⟩,hx,hcall⟩:=hpush f hf
 simp only at hx hcall
 refine zaa ?_
 refine zab ⟨14,[(5,.pt 64 0 0),(11,.B c)],[(48,some ⟨1,zah f',0⟩),(64,some ⟨4,[rC N A (.rs 48 0 A.length)],0⟩)],100⟩ rfl ?_ ?_
 ·simp
  refine zba (i:=48) rfl (by simp [fcd]) hcall (by simp) (by simp) ?_
  simp
  exact Le.go [(48,48),(64,64)] [] rfl rfl (by simp) (by simp [fcd])
 refine zad _ rfl (fun h4=>?_) fun h4=>?_
 ·have hc : c = true:=h4
  subst hc
  simp only [if_true] at hx
  have hbnd:=zd2 (S:=fun x=>decide (x = 0)) hno hx.1 (by simp) (by simp)
  refine zae ?_
  refine zaf ?_
  refine zae ?_
  exact ⟨f',hx.1,by have:=hx.2; omega,Le.go [(48,48),(64,64)] [] rfl rfl (by simp) (by simp [fcd])⟩
 have hc : c = false:=h4
 subst hc
 simp only [Bool.false_eq_true,if_false] at hx
 obtain ⟨rfl,hm⟩:=hx
 refine zao ?_
 refine hit ?_
 refine zab ⟨14,[(4,.rs 48 0 A.length)],[(48,some ⟨1,zah f',0⟩)],200⟩ rfl ?_ ?_
 ·simp
  exact Le.go [(48,48)] [] rfl rfl (by simp) (by simp [fcd])
 refine zag ?_
 exact zjs.mk (.inr rfl) f' ⟨hf,hm⟩ (zan.out [48] [] rfl (by simp) (by simp) (by simp) (by simp [fcd]))
set_option maxRecDepth 100000 in
set_option maxHeartbeats 2000000 in
theorem zoP (N : Nat) (A : List Ed) (hn : zby ⟨N,A⟩) :
  ∃ f : List Int,(zaD N A f ∧ ∀ f',zaD N A f' → valF A f' ≤ valF A f) ∧ zaj Tryz.prog zjc [eN ⟨N,A⟩] [] (.tup [.rs 0 0 A.length,.I 0]) [some ⟨1,zah f,0⟩]:=by
 have hno:=zfk hn
 obtain ⟨f,hf,hg⟩:=ztr N A _ hn (zjf hno)
 refine ⟨f,hf,?_⟩
 have hchk:=zd8 ⟨N,A⟩ (by have:=hn.2.2.1; simp only at this ⊢; omega)
 rw [if_pos hn] at hchk
 have hal:=hn.2.2.1
 simp only at hal
 have hfl:=hf.1.fit.len
 refine zpq.acalls (Nat.le_of_ble_eq_true rfl) (Nat.le_of_ble_eq_true rfl) (Nat.zero_le _) ?_
 show awp _ 0 _ _ ⟨16,[(0,eN ⟨N,A⟩)],[],16⟩
 refine rx (s:=?s1) [1] [] [16] rfl ?o1 ?q1
 case o1=>simp; rfl
 refine zaa ?_
 refine rx (s:=?s2) [1,4] [] [] rfl ?o2 ?q2
 case o2=>simp; refine zam hchk (by simp) ?_; simp; rfl
 refine rx (s:=?s3) [1,4,8] [] [] rfl ?o3 ?q3
 case o3=>simp; rfl
 refine zad _ rfl (fun h4=>by cases h4) fun h4=>?_
 refine zae ?_
 refine zaF ⟨16,[(2,.rs 48 0 A.length),(3,.I 0)],[(48,some ⟨1,zah f,0⟩)],300⟩ rfl ?_ ?_
 ·simp
  refine ⟨by omega,by omega,?_⟩
  refine znE [112] hg (by simp [List.map_const']) (.rs _ _ _) zta ?_
  simp
  exact ⟨rfl,Le.go [(120,48)] [] rfl rfl (by simp) (by simp [fcd])⟩
 refine zag ?_
 exact ⟨.inr rfl,zan.out [48] [] rfl (by simp) (by simp) (by simp) (by simp [fcd])⟩
set_option maxRecDepth 100000 in
set_option maxHeartbeats 2000000 in
theorem zi0 (N : Nat) (A : List Ed) (f : List Int) (hn : zby ⟨N,A⟩) (hf : zaD N A f) (hm : ∀ f',zaD N A f' → valF A f' ≤ valF A f) :
  zaj Tryz.prog zeu [eN ⟨N,A⟩,.rs 0 0 A.length] [⟨1,zah f,0⟩] (.rs 1 0 (zel N A).length) [some ⟨1,zah f,0⟩,some ⟨1,zah (zel N A),0⟩]:=by
 have hno:=zfk hn
 obtain ⟨⟨D,b,R⟩,⟨hb,hcl,hR⟩,hcall⟩:=zok N A f hn hf.fit
 simp only at hb hcl hR hcall
 have hopen:=zqm N A f A.length hn
 have hnear : inD D N = zel N A:=zn2 hno hf hm hb.tree hb.mem0 (znf hno hf hm hb) hcl
 have hwh:=zqs hR N (by have:=hn.2.1; simp only at this; omega)
 rw [hnear] at hwh
 have hfl:=hf.fit.len
 have htake : ∀ g : Int → List AV,List.take A.length (List.map g f) = List.map g f:=fun g=>List.take_of_length_le (by simp; omega)
 refine zk9.acalls (Nat.le_of_ble_eq_true rfl) (Nat.le_of_ble_eq_true rfl) (by simp) ?_
 show awp _ 1 _ _ ⟨14,[(0,eN ⟨N,A⟩),(1,.rs 0 0 A.length)],[(0,some ⟨1,zah f,0⟩)],16⟩
 refine zab ⟨14,[(1,.rs 0 0 A.length),(2,.pv (nC ⟨N,A⟩))],[(0,some ⟨1,zah f,0⟩)],32⟩ rfl ?_ ?_
 ·simp
  exact Le.go [(0,0)] [16] rfl rfl (by simp) (by simp [fcd])
 refine zab ⟨14,[(2,.pv (nC ⟨N,A⟩)),(5,.pt 64 0 0)],[(0,some ⟨1,zah f,0⟩),(64,some ⟨1,[[.mp 56]],0⟩),(56,some ⟨0,R,0⟩)],100⟩ rfl ?_ ?_
 ·simp
  refine zba (i:=0) rfl (by simp [fcd]) hopen (by simp) (by simp) ?_
  simp
  refine znE [0] hcall (by simp [fcd,htake,hfl]) (.mp _) (hR.plain _ _) ?_
  simp
  exact Le.go [(0,0),(64,64),(56,56)] [] rfl rfl (by simp) (by simp [fcd,hR.conv'])
 refine zab ⟨14,[(4,.rs 57 0 (zel N A).length)],[(0,some ⟨1,zah f,0⟩),(57,some ⟨1,zah (zel N A),0⟩)],200⟩ rfl ?_ ?_
 ·simp
  refine zj2 (i:=64) (j:=56) (by decide) rfl rfl (by simp) (by simp [hR.conv']) hwh (by simp) (by simp [conv]) ?_
  simp
  exact Le.go [(0,0),(124,57)] [] rfl rfl (by simp) (by simp [fcd])
 refine zag ?_
 exact ⟨.inr rfl,zan.k1n 57 (by omega) rfl (by simp) (by simp [fcd]) (by simp [fcd])⟩
abbrev zaM (R : List (Int × List Int)) : List (List AV):=R.map fun r=>[.I r.1,ints r.2]
abbrev eAcc (acc flow : List Int) (R : List (Int × List Int)) : AV:=.agg [ints acc,ints flow,.vs 2 false (zaM R)]
theorem WayA.mem {A : List Ed} : ∀ {l : List Nat} {u w : Int},WayA A u l w → ∀ j ∈ l,j < A.length
 | i :: l,u,w,hw,j,hj=>by
   rcases List.mem_cons.1 hj with rfl | hj
   ·exact hw.1
   ·exact WayA.mem hw.2.2 j hj
theorem zi8.few {N : Nat} {A : List Ed} {f g : List Int} {l : List Nat} {w : Int} (hn : zdm N A) (h : zi8 A f g l w) : l.length + 1 ≤ N:=by
 have:=za6 (b:=(List.range N).map fun i : Nat=>(i : Int)) h.met fun x hx=>by
  rcases List.mem_cons.1 hx with rfl | hx
  ·have:=hn.two
   exact List.mem_map.2 ⟨0,List.mem_range.2 (by omega),rfl⟩
  ·obtain ⟨j,hj,rfl⟩:=List.mem_map.1 hx
   have ha:=hn.arc _ (zef (h.way.mem j hj))
   exact List.mem_map.2 ⟨(arcD A j).t.toNat,List.mem_range.2 (by omega),by omega⟩
 simpa [metA] using this
section
variable {P : Program} {np id : Nat} {h : Nat → Option Ent} {K : AV → List Nat → List (Nat × Option Ent) → Prop} {f : FuncId} {first capt args args' : List AV} {res : AV}
end
def zr1 (g : Gr) (p : Pol) (ks : List Int) (W : List (List Nat)) : Prop :=
 ∃ f g',zmK g p (zaG ks) f ∧ zkc (netN g) (netA g p (zaG ks)) f g' W ∧ (W.length : Int) = maxF (netN g) (netA g p (zaG ks)) ∧ ∀ w ∈ W,w.length ≤ 130
def befL (o acc : List Int) (i : Nat) : List Int:=(o.take i).filter fun k=>decide (k ∈ acc)
theorem zq1 {o acc : List Int} {i : Nat} (h : i < o.length) : befL o acc (i + 1) = befL o acc i ++ if o[i] ∈ acc then [o[i]] else []:=by
 unfold befL
 rw [List.take_succ_eq_append_getElem h,List.filter_append]
 simp only [List.filter_cons,List.filter_nil,decide_eq_true_eq]
structure ForR (g : Gr) (p : Pol) (o : List Int) (key : Int) (x : Expl) : Prop where
 key_ : x.key = key
 bef : ∃ i,∃ h : i < o.length,o[i] = key ∧ x.before = befL o (accR g p o) i
 yes : key ∈ accR g p o → x.acc = true ∧ x.side = [] ∧ ∃ W,zr1 g p (x.before ++ [key]) W ∧ x.paths = W.map (zcr (netA g p (zaG (x.before ++ [key]))))
 no : key ∉ accR g p o → x.acc = false ∧ x.paths = [] ∧ ∃ R,zla g p o R ∧ (key,x.side) ∈ R
variable {g : Gr} {p : Pol}
theorem zog : ∀ (b a : List Int),∃ l,accR g p (a ++ b) = accR g p a ++ l ∧ ∀ x ∈ l,x ∈ b
 | [],a=>⟨[],by simp,by simp⟩
 | x :: b,a=>by
   obtain ⟨l,hl,hm⟩:=zog b (a ++ [x])
   have e : a ++ x :: b = a ++ [x] ++ b:=by simp
   rw [e,hl]
   rcases zlT (g:=g) (p:=p) a x with h | h
   ·exact ⟨l,by rw [h],fun y hy=>List.mem_cons_of_mem _ (hm y hy)⟩
   ·refine ⟨[x] ++ l,by rw [h,List.append_assoc],fun y hy=>?_⟩
    rcases List.mem_append.1 hy with h | h
    ·rw [List.mem_singleton.1 h]; exact List.mem_cons_self
    ·exact List.mem_cons_of_mem _ (hm y h)
theorem zli {o : List Int} (hn : o.Nodup) {i : Nat} (h : i < o.length) : o[i] ∈ accR g p o ↔ zaq g p (zaG (accR g p (o.take i) ++ [o[i]])):=by
 have hs : o.take (i + 1) = o.take i ++ [o[i]]:=List.take_succ_eq_append_getElem h
 obtain ⟨l,hl,hm⟩:=zog (g:=g) (p:=p) (o.drop (i + 1)) (o.take (i + 1))
 rw [List.take_append_drop] at hl
 have hni : o[i] ∉ o.take i:=fun hx=>by
  obtain ⟨j,hj,e⟩:=List.mem_take_iff_getElem.1 hx
  have:=(List.getElem_inj hn).1 e
  omega
 have hnd : o[i] ∉ o.drop (i + 1):=fun hx=>by
  obtain ⟨j,hj,e⟩:=List.mem_drop_iff_getElem.1 hx
  have:=(List.getElem_inj hn).1 e
  omega
 constructor
 ·intro hx
  by_cases hc : zaq g p (zaG (accR g p (o.take i) ++ [o[i]]))
  ·exact hc
  ·rw [hl,hs,zdQ hc] at hx
   rcases List.mem_append.1 hx with h1 | h1
   ·exact absurd (zcb h1) hni
   ·exact absurd (hm _ h1) hnd
 ·intro hc
  rw [hl,hs,zbK hc]
  exact List.mem_append_left _ (List.mem_append_right _ (List.mem_singleton.2 rfl))
theorem zol {o : List Int} (hn : o.Nodup) : ∀ i,i ≤ o.length → befL o (accR g p o) i = accR g p (o.take i)
 | 0,_=>by simp [befL,zoe]
 | i + 1,h=>by
   have hi : i < o.length:=h
   rw [zq1 hi,zol hn i (by omega),List.take_succ_eq_append_getElem hi]
   by_cases hc : zaq g p (zaG (accR g p (o.take i) ++ [o[i]]))
   ·rw [if_pos ((zli hn hi).2 hc),zbK hc]
   ·rw [if_neg (fun h=>hc ((zli hn hi).1 h)),zdQ hc,List.append_nil]
theorem zdM {l : List Int} (h : l.Pairwise (· < ·)) : l.Nodup:=h.imp fun h=>by omega
theorem zgM {a : List Int} (hn : a.Nodup) (hr : ∀ k ∈ a,0 ≤ k ∧ k < 64) : a.Perm (zaG a):=by
 rw [← zk2 hn hr]
 exact (zfs a).symm
theorem zh3 {a : List Int} (hn : a.Nodup) (hr : ∀ k ∈ a,0 ≤ k ∧ k < 64) : (zaG a).length = a.length:=(zgM hn hr).length_eq.symm
structure AtO (g : Gr) (p : Pol) (key : Int) (before : List Int) : Prop where
 mem : key ∈ ordL (zai g p.lv) p.seeds
 bef : zfg (ordL (zai g p.lv) p.seeds) before key
 nodup : (before ++ [key]).Nodup
 range : ∀ k ∈ before ++ [key],0 ≤ k ∧ k < g.size
 serve : key ∈ accR g p (ordL (zai g p.lv) p.seeds) ↔ zaq g p (zaG (before ++ [key]))
theorem znI {o : List Int} (hn : o.Nodup) {i : Nat} (h : i < o.length) : zgm o o[i] = o.take i:=by
 unfold zgm
 rw [List.takeWhile_eq_take_findIdx_not]
 congr 1
 rw [List.findIdx_eq h]
 refine ⟨by simp,fun j hj=>?_⟩
 have : o[j] ≠ o[i]:=fun e=>by have:=(List.getElem_inj hn).1 e; omega
 simp [this]
theorem ForR.at_ {key : Int} {x : Expl} (h : ForR g p (ordL (zai g p.lv) p.seeds) key x) (hg : GrOk g) : x.key = key ∧ AtO g p key x.before ∧ ∃ i,∃ hi : i < (ordL (zai g p.lv) p.seeds).length,(ordL (zai g p.lv) p.seeds)[i] = key ∧ x.before = accR g p ((ordL (zai g p.lv) p.seeds).take i):=by
 have hn:=zbH (zai g p.lv) p.seeds
 have hr : ∀ k ∈ ordL (zai g p.lv) p.seeds,0 ≤ k ∧ k < g.size:=fun k hk=>by have h:=zcP hk; exact h
 obtain ⟨o,ho⟩ : ∃ o,o = ordL (zai g p.lv) p.seeds:=⟨_,rfl⟩
 rw [← ho] at h hn hr ⊢
 obtain ⟨i,hi,hk,hb⟩:=h.bef
 rw [zol hn i (by omega)] at hb
 refine ⟨h.key_,?_,i,hi,hk,hb⟩
 have hsub : x.before.Sublist (zgm o key):=by
  rw [hb,← hk,znI hn hi]
  exact zdG _ _ rfl
 refine ⟨by rw [← ho,← hk]; exact List.getElem_mem hi,by rw [← ho]; exact hsub,zfg.nodup (order:=o) hsub hn,fun k hkm=>?_,?_⟩
 ·rcases List.mem_append.1 hkm with h1 | h1
  ·refine hr k ?_
   rw [hb] at h1
   exact List.mem_of_mem_take (zcb h1)
  ·rw [List.mem_singleton.1 h1,← hk]; exact hr _ (List.getElem_mem hi)
 ·rw [← ho,hb,← hk]
  exact zli hn hi
theorem AtO.joined {key : Int} {before : List Int} (h : AtO g p key before) (hg : GrOk g) : (zaG (before ++ [key])).Nodup ∧ (before ++ [key]).Perm (zaG (before ++ [key])) ∧ (∀ x ∈ zaG (before ++ [key]),0 ≤ x ∧ x < g.size):=by
 have h64:=hg.1.2.1
 have hr : ∀ k ∈ before ++ [key],0 ≤ k ∧ k < 64:=fun k hk=>⟨(h.range k hk).1,by have:=(h.range k hk).2; omega⟩
 exact ⟨zdM (zgh _),zgM h.nodup hr,fun x hx=>h.range x (zdt.1 hx).1⟩
theorem zns {key : Int} {before : List Int} {W : List (List Nat)} (hg : GrOk g) (hp : zbb g.size p) (ha : AtO g p key before) (hc : zaq g p (zaG (before ++ [key]))) (hW : zr1 g p (before ++ [key]) W) :
  ziL g p.lv p.seeds (ordL (zai g p.lv) p.seeds) (zat g p) (W.map (zcr (netA g p (zaG (before ++ [key]))))) (before ++ [key]):=by
 obtain ⟨f,g',hgf,ht,hl,_⟩:=hW
 obtain ⟨j1,j2,j3⟩:=ha.joined hg
 refine zlY hg hp j1 (fun x hx=>(j3 x hx).1) j2 hgf.ok.fit ht.ways (fun i _=>?_) ?_
 ·have h1:=ht.used i
  have h2:=ht.bal.nonneg i
  omega
 ·have : maxF (netN g) (netA g p (zaG (before ++ [key]))) = (zaG (before ++ [key])).length:=hc
  omega
theorem ForR.yes_serves {key : Int} {x : Expl} (h : ForR g p (ordL (zai g p.lv) p.seeds) key x) (hg : GrOk g) (hp : zbb g.size p) (hk : key ∈ accR g p (ordL (zai g p.lv) p.seeds)) :
  ziL g p.lv p.seeds (ordL (zai g p.lv) p.seeds) (zat g p) x.paths (x.before ++ [key]):=by
 obtain ⟨_,ha,_⟩:=h.at_ hg
 obtain ⟨_,_,W,hW,hpa⟩:=h.yes hk
 rw [hpa]
 exact zns hg hp ha (ha.serve.1 hk) hW
theorem ForR.no_proves {key : Int} {x : Expl} (h : ForR g p (ordL (zai g p.lv) p.seeds) key x) (hg : GrOk g) (hp : zbb g.size p) (hk : key ∉ accR g p (ordL (zai g p.lv) p.seeds)) :
  zek ⟨2 + 2 * g.size,za1 g p (zat g p) (zaG (x.before ++ [key]))⟩ x.side x.before.length:=by
 obtain ⟨_,ha,i,hi,hik,hib⟩:=h.at_ hg
 obtain ⟨_,_,R,hR,hs⟩:=h.no hk
 obtain ⟨i',hi',hik',hn⟩:=hR.right _ hs
 simp only at hik' hn
 have hii : i' = i:=(List.getElem_inj (zbH (zai g p.lv) p.seeds)).1 (hik'.trans hik.symm)
 subst hii
 rw [← hib] at hn
 obtain ⟨j1,j2,j3⟩:=ha.joined hg
 have hfew:=zgl hg hp j3
 have hno : maxF (netN g) (netA g p (zaG (x.before ++ [key]))) ≠ (zaG (x.before ++ [key])).length:=hn.no
 have hlen:=j2.length_eq
 rw [List.length_append,List.length_singleton] at hlen
 have hcut:=hn.cut
 have hok:=hn.ok
 rw [zh5 hg] at hok
 exact ⟨hok,by rw [hcut]; omega⟩
theorem ForR.checked {key : Int} {x : Expl} (h : ForR g p (ordL (zai g p.lv) p.seeds) key x) (hg : GrOk g) (hp : zbb g.size p) : zpU g p x = 0:=by
 rw [zov hg.1.2.1]
 obtain ⟨hk,ha,_⟩:=h.at_ hg
 unfold zp9
 simp only
 rw [hk,if_neg (by simpa using ha.mem)]
 by_cases hacc : key ∈ accR g p (ordL (zai g p.lv) p.seeds)
 ·obtain ⟨h1,h2,_⟩:=h.yes hacc
  rw [if_neg (by rw [h1,h2]; simpa using ha.bef),if_pos h1,if_pos (h.yes_serves hg hp hacc)]
 ·obtain ⟨h1,h2,_⟩:=h.no hacc
  rw [if_neg (by rw [h1,h2]; simpa using ha.bef),if_neg (by rw [h1]; simp),if_pos (h.no_proves hg hp hacc)]
theorem ziV (l : List Int) (hl : l.length ≤ 1099511627776) : zaj Tryz.prog zeo [ints l] [] (.rs 0 0 l.length) [some ⟨1,zah (srt l),0⟩]:=by
 refine zkW.acalls (Nat.le_of_ble_eq_true rfl) (Nat.le_of_ble_eq_true rfl) (Nat.zero_le _) ?_
 show awp _ 0 _ _ ⟨6,[(0,ints l)],[],16⟩
 have hs : zaj Tryz.prog zbJ [seqF l] [] (.rs 0 0 l.length) [some ⟨1,zah (srt l),0⟩]:=zpX l hl
 refine rx (s:=?s1) [0] [] [] rfl ?o1 ?q1
 case o1=>simp; rfl
 refine zab ⟨6,[(2,.rs 50 0 l.length)],[(50,some ⟨1,zah (srt l),0⟩)],100⟩ rfl ?_ ?_
 ·simp
  refine zam (zqo l) (by simp) ?_
  simp
  refine za3 hs (by simp [conv]) ?_
  simp
  exact Le.go [(40,50)] [] rfl rfl (by simp) (by simp [fcd])
 refine zag ?_
 exact ⟨.inr rfl,zan.out [50] [] rfl (by simp) (by simp) (by simp) (by simp [fcd])⟩
theorem ze8 (g : Gr) (p : Pol) (hg : GrOk g) (hN : g.size < 20) (hs : p.seeds.length ≤ 1099511627776) : zaj Tryz.prog zc7 [eG g,eP p] [] (.rs 0 0 (ordL (zai g p.lv) p.seeds).length) [some ⟨1,zah (ordL (zai g p.lv) p.seeds),0⟩]:=by
 refine zkV.acalls (Nat.le_of_ble_eq_true rfl) (Nat.le_of_ble_eq_true rfl) (Nat.zero_le _) ?_
 show awp _ 0 _ _ ⟨12,[(0,eG g),(1,eP p)],[],16⟩
 have hel:=hg.edges_le
 have hgl:=hg.gone_le
 have hsz:=hg.1.2.1
 have hlev:=zdO g p.lv (by omega) (by omega)
 have hord:=zha (g:=zai g p.lv) (S:=p.seeds) (hg.level p.lv) hN hs
 obtain ⟨o,ho⟩ : ∃ o,o = ordL (zai g p.lv) p.seeds:=⟨_,rfl⟩
 rw [← ho] at hord ⊢
 refine rx (s:=?s1) [2,3] [] [16,24] rfl ?o1 ?q1
 case o1=>simp; rfl
 refine zaF ⟨12,[(4,.rs 50 0 o.length)],[(50,some ⟨1,zah o,0⟩)],200⟩ rfl ?_ ?_
 ·simp
  refine zam hlev (by simp) ?_
  simp
  refine za3 hord (by simp) ?_
  simp
  exact ⟨rfl,Le.go [(88,50)] [] rfl rfl (by simp) (by simp [fcd])⟩
 refine zag ?_
 exact ⟨.inr rfl,zan.out [50] [] rfl (by simp) (by simp) (by simp) (by simp [fcd])⟩
theorem zfB (l : List Int) (x : Int) (hl : l.length ≤ 1000000) : zaj Tryz.prog zdH [ints l,.I x] [] (.rs 0 0 (l.length + 1)) [some ⟨1,zah (l ++ [x]),0⟩]:=by
 refine zlL.acalls (Nat.le_of_ble_eq_true rfl) (Nat.le_of_ble_eq_true rfl) (Nat.zero_le _) ?_
 show awp _ 0 _ _ ⟨14,[(0,ints l),(1,.I x)],[],16⟩
 refine rx (s:=?s1) [0,1] [] [] rfl ?o1 ?q1
 case o1=>simp; rfl
 refine zab ⟨14,[(4,.rs 50 0 (l.length + 1))],[(50,some ⟨1,zah (l ++ [x]),0⟩)],200⟩ rfl ?_ ?_
 ·have hsl : ∀ {id : Nat} {h : Nat → Option Ent} {K : AV → List Nat → List (Nat × Option Ent) → Prop},K (.vs 1 true (l.map fun n=>[AV.I n])) [] [] → aK Tryz.prog 0 id (.slc 1 false true true) [ints l,.I (l.length : Nat),.I (l.length : Nat)] h K:=fun hK=>by
   rw [ziz]
   refine ⟨0,l.length,l.length,l.length,by simp,Nat.zero_le _,rfl,by simp,by simp,by simp,Nat.le_refl _,fun _=>rfl,rfl,?_⟩
   rw [List.drop_zero,Nat.sub_zero,List.take_of_length_le (by simp)]
   exact hK
  simp
  refine hsl ?_
  simp
  exact ⟨by omega,by omega,Le.go [(88,50)] [] rfl rfl (by simp) (by simp [fcd])⟩
 refine zag ?_
 exact ⟨.inr rfl,zan.out [50] [] rfl (by simp) (by simp) (by simp) (by simp [fcd])⟩
theorem zbu (g : Gr) (p : Pol) (ks : List Int) (hg : GrOk g) (hp : zbb g.size p) (hk : ks.Nodup) (hr : ∀ k ∈ ks,0 ≤ k ∧ k < g.size) (hs : p.seeds.length ≤ 64) : zaj Tryz.prog zbe [eG g,eP p,ints ks] [] (eN ⟨netN g,netA g p (zaG ks)⟩) []:=by
 refine zie.acalls (Nat.le_of_ble_eq_true rfl) (Nat.le_of_ble_eq_true rfl) (Nat.zero_le _) ?_
 show awp _ 0 _ _ ⟨18,[(0,eG g),(1,eP p),(2,ints ks)],[],16⟩
 have hsz:=hg.1.2.1
 have hr64 : ∀ k ∈ ks,0 ≤ k ∧ k < 64:=fun k h=>by have:=hr k h; omega
 have hlen:=zh3 hk hr64
 have hJl:=zeS ks
 have hsort:=ziV ks (by omega)
 rw [zk2 hk hr64,← hlen] at hsort
 have hnet:=zhT g p (zaG ks) hg hp (zd1 hr) hs hJl
 rw [← zh5 hg,show za1 g p (zat g p) (zaG ks) = netA g p (zaG ks) from rfl] at hnet
 obtain ⟨J,hJ⟩ : ∃ J,J = zaG ks:=⟨_,rfl⟩
 obtain ⟨A,hA⟩ : ∃ A,A = netA g p (zaG ks):=⟨_,rfl⟩
 rw [← hA] at hnet ⊢
 rw [← hJ] at hnet hsort
 refine rx (s:=?s1) [2,3,4,6] [32] [16,24] rfl ?o1 ?q1
 case o1=>simp; rfl
 refine zaF ⟨18,[(6,.pt 32 0 0),(7,.pv (nC ⟨netN g,A⟩))],[(32,some ⟨2,[[.I 0,.nilS]],0⟩)],300⟩ rfl ?_ ?_
 ·simp
  refine za3 hsort (by simp) ?_
  simp
  refine zl5 [64] (by simp) hnet (by simp [fcd,zal]) ?_
  simp
  exact ⟨rfl,Le.go [(32,32)] [104] rfl rfl (by simp) (by simp)⟩
 refine zab ⟨18,[(6,.pt 32 0 0)],[(32,some ⟨2,[nC ⟨netN g,A⟩],0⟩)],400⟩ rfl ?_ ?_
 ·simp [zaZ]
  exact Le.go [(32,32)] [] rfl rfl (by simp) (by simp)
 refine zag ?_
 exact ⟨.inr rfl,zan.out [] [32] rfl (by simp) (by simp) (by simp) (by simp)⟩
def zsW (N : Nat) (A : List Ed) (f : List Int) : Prop:=zaD N A f ∧ ∀ f',zaD N A f' → valF A f' ≤ valF A f
theorem zfD (N : Nat) (A : List Ed) (k : Int) (hn : zby ⟨N,A⟩) :
  ∃ f : List Int,zsW N A f ∧ zaj Tryz.prog zbZ [eN ⟨N,A⟩,.I k] [] (.tup [.rs 0 0 A.length,.B (decide (valF A f = k))]) [some ⟨1,zah f,0⟩]:=by
 obtain ⟨f,hf,hmax⟩:=zoP N A hn
 refine ⟨f,hf,?_⟩
 have hfl:=hf.1.fit.len
 have hal:=hn.2.2.1
 simp only at hal
 have hval:=zgp (f:=f) hn (by omega)
 rw [if_pos hf.1] at hval
 have htake : ∀ g : Int → List AV,List.take A.length (List.map g f) = List.map g f:=fun g=>List.take_of_length_le (by simp; omega)
 refine zkS.acalls (Nat.le_of_ble_eq_true rfl) (Nat.le_of_ble_eq_true rfl) (Nat.zero_le _) ?_
 show awp _ 0 _ _ ⟨19,[(0,eN ⟨N,A⟩),(1,.I k)],[],16⟩
 refine rx (s:=?s1) [1,2] [] [16] rfl ?o1 ?q1
 case o1=>simp; rfl
 refine zab ⟨19,[(1,.I k),(2,.pv (nC ⟨N,A⟩)),(6,.rs 50 0 A.length)],[(50,some ⟨1,zah f,0⟩)],100⟩ rfl ?_ ?_
 ·simp
  refine za3 hmax (by simp) ?_
  simp
  exact Le.go [(48,50)] [] rfl rfl (by simp) (by simp [fcd])
 refine zab ⟨19,[(4,.rs 50 0 A.length),(5,.B (decide (valF A f = k)))],[(50,some ⟨1,zah f,0⟩)],200⟩ rfl ?_ ?_
 ·simp
  refine zhE [50] hval (by simp [fcd,htake,hfl]) (.sc _) ?_
  simp
  exact Le.go [(50,50)] [] rfl rfl (by simp <;> exact wkB (by rw [Bool.eq_iff_iff]; simp)) (by simp [fcd])
 refine zag ?_
 exact ⟨.inr rfl,zan.out [50] [] rfl (by simp) (by simp) (by simp) (by simp [fcd])⟩
theorem zkU (g : Gr) (p : Pol) : ∀ (n : Nat) (o : List Int),o.length = n → (refR g p o).length ≤ n
 | 0,o,h=>by
   obtain rfl:=List.eq_nil_of_length_eq_zero h
   exact Nat.le_refl _
 | n + 1,o,h=>by
   have hne : o ≠ []:=fun e=>by rw [e] at h; cases h
   rw [← List.dropLast_concat_getLast hne]
   have ih:=zkU g p n o.dropLast (by rw [List.length_dropLast,h]; rfl)
   by_cases hc : zaq g p (zaG (accR g p o.dropLast ++ [o.getLast hne]))
   ·rw [zen hc]; omega
   ·rw [zhr hc,List.length_append,List.length_singleton]; omega
theorem zlI (N : Nat) (A : List Ed) : (zel N A).length ≤ N:=by
 unfold zel
 exact Nat.le_trans (List.length_filter_le ..) (by simp)
set_option maxRecDepth 100000 in
set_option maxHeartbeats 8000000 in
theorem zcZ (g : Gr) (p : Pol) (hg : GrOk g) (hp : zbb g.size p) (hs : p.seeds.length ≤ 64) (hN : g.size < 20) :
  ∃ f : List Int,zmK g p (zaG (accR g p (ordL (zai g p.lv) p.seeds))) f ∧
    zaj Tryz.prog zce [eG g,eP p] [] (.tup [eAcc (accR g p (ordL (zai g p.lv) p.seeds)) f (refR g p (ordL (zai g p.lv) p.seeds)),.I 0]) []:=by
 have hsz:=hg.1.1
 have hsz2:=hg.1.2.1
 have hel:=hg.edges_le
 have hgl:=hg.gone_le
 have hchk:=zbW g p (by omega) (by omega) (by omega) (by have:=hp.2.2.2.1; omega)
 rw [if_pos hg,if_pos hp] at hchk
 have hord:=ze8 g p hg hN (by omega)
 obtain ⟨o,ho⟩ : ∃ o,o = ordL (zai g p.lv) p.seeds:=⟨_,rfl⟩
 have hor : ∀ k ∈ o,0 ≤ k ∧ k < g.size:=fun k hk=>by rw [ho] at hk; have h:=zcP hk; exact h
 have hon : o.Nodup:=by rw [ho]; exact zbH _ _
 rw [← ho] at hord ⊢
 have hol : o.length ≤ 64:=by
  have:=za6 (b:=(List.range g.size.toNat).map fun i : Nat=>(i : Int)) hon fun x hx=>by
   have:=hor x hx
   exact List.mem_map.2 ⟨x.toNat,List.mem_range.2 (by omega),by omega⟩
  simp at this
  omega
 have h64 : ∀ a : List Int,(∀ x ∈ a,0 ≤ x ∧ x < g.size) → ∀ x ∈ a,0 ≤ x ∧ x < 64:=fun a h x hx=>by have:=h x hx; omega
 have hnv : ∀ a : List Int,(∀ x ∈ a,0 ≤ x ∧ x < g.size) → zby ⟨netN g,netA g p (zaG a)⟩:=fun a h=>zgz hg hp (zhf (zd1 h)) hs (zeS a)
 have hserve : ∀ a : List Int,a.Nodup → (∀ x ∈ a,0 ≤ x ∧ x < g.size) → ∃ f,zmK g p (zaG a) f ∧ zaj Tryz.prog zbZ [eN ⟨netN g,netA g p (zaG a)⟩,.I (a.length : Nat)] [] (.tup [.rs 0 0 (netA g p (zaG a)).length,.B (@decide (zaq g p (zaG a)) (Classical.propDecidable _))]) [some ⟨1,zah f,0⟩]:=fun a h1 h2=>by
  obtain ⟨f,hf,hc⟩:=zfD _ _ (a.length : Nat) (hnv a h2)
  have hmf:=zfJ hf.1 hf.2
  refine ⟨f,⟨hf.1,hf.2,hmf.symm⟩,?_⟩
  have hjl:=zh3 h1 (h64 a h2)
  have : decide (valF (netA g p (zaG a)) f = (a.length : Nat)) = @decide (zaq g p (zaG a)) (Classical.propDecidable _):=by
   rw [decide_eq_decide]
   unfold zaq
   rw [hmf,hjl]
  rw [this] at hc
  exact hc
 have haccn : ∀ i,(accR g p (o.take i)).Nodup:=fun i=>(hon.sublist ((zdG _ _ rfl).trans (List.take_sublist _ _)))
 have haccr : ∀ i,∀ x ∈ accR g p (o.take i),0 ≤ x ∧ x < g.size:=fun i x hx=>hor x (List.mem_of_mem_take (zcb hx))
 obtain ⟨f,hf,hlast⟩:=hserve (accR g p o) (by have:=haccn o.length; rwa [List.take_length] at this) (by have:=haccr o.length; rwa [List.take_length] at this)
 refine ⟨f,hf,?_⟩
 have hnl:=zbu g p (accR g p o) hg hp (by have:=haccn o.length; rwa [List.take_length] at this) (by have:=haccr o.length; rwa [List.take_length] at this) hs
 have hlf:=hf.ok.fit.len
 refine znz.acalls (Nat.le_of_ble_eq_true rfl) (Nat.le_of_ble_eq_true rfl) (Nat.zero_le _) ?_
 show awp _ 0 _ _ ⟨72,[(0,eG g),(1,eP p)],[],16⟩
 refine rx (s:=?s1) [2,3,4] [32] [16,24] rfl ?o1 ?q1
 case o1=>simp; rfl
 refine zaa ?_
 refine rx (s:=?s2) [2,3,4,6] [32] [] rfl ?o2 ?q2
 case o2=>simp; refine zam hchk (by simp) ?_; simp; rfl
 refine rx (s:=?s3) [2,3,4,18] [32] [] rfl ?o3 ?q3
 case o3=>simp; rfl
 refine zad _ rfl (fun h=>by cases h) fun _=>?_
 refine zae ?_
 refine zab ⟨72,[(2,.pv (gC g)),(3,.pv (pC p)),(4,.pt 32 0 0),(7,.pt 40 0 0)],[(32,some ⟨3,[[.nilS,.nilS,.nilS]],0⟩),(40,some ⟨3,[[.nilS,.nilS,.nilS]],0⟩)],200⟩ rfl ?_ ?_
 ·simp
  exact Le.go [(32,32),(96,40)] [] rfl rfl (by simp) (by simp)
 refine zaa ?_
 refine zab ⟨72,[(2,.pv (gC g)),(3,.pv (pC p)),(4,.pt 32 0 0),(7,.pt 40 0 0),(23,ints o),(24,.I o.length),(25,.I 0)],[(32,some ⟨3,[[.nilS,.nilS,.nilS]],0⟩),(40,some ⟨3,[[.nilS,.nilS,.nilS]],0⟩)],400⟩ rfl ?_ ?_
 ·simp
  refine za3 hord (by simp) ?_
  simp
  exact Le.go [(32,32),(40,40)] [216] rfl rfl (by simp [fcd,zal]) (by simp)
 refine zaf ?_
 have hR0 : refR g p [] = []:=rfl
 refine zap (ι:=Nat) (fun i=>⟨72,[(2,.pv (gC g)),(3,.pv (pC p)),(4,.pt 32 0 0),(7,.pt 40 0 0),(23,ints o),(24,.I o.length),(25,.I i)],
   [(32,some ⟨3,[[.nilS,.nilS,.nilS]],0⟩),(40,some ⟨3,[[ints (accR g p (o.take i)),.nilS,.rs 42 0 (refR g p (o.take i)).length]],0⟩),(42,some ⟨2,zaM (refR g p (o.take i)),0⟩)],500⟩)
  (fun i=>i ≤ o.length) (fun i=>o.length - i) 0 (Nat.zero_le _)
  (Le.lst [(32,32),(40,40)] [] [(42,2)] rfl (by simp) (by simp) (by simp) (by simp) (by simp) (by simp) (by simp) (by simp [Up]) (by simp [zoe,hR0,fcd]; exact ⟨zaC.rfl' (by simp),zaC.row rfl (by omega) (by simp [UpL,Up,Wk.refl]; exact Wk.nil _ _)⟩)) ?_
 intro i hi
 have haN:=haccn i
 have haR:=haccr i
 have hal : (accR g p (o.take i)).length ≤ 64:=Nat.le_trans (znT _) (Nat.le_trans (List.length_take_le' i o) hol)
 have hRl:=zkU g p _ (o.take i) rfl
 have hRl2:=List.length_take_le' i o
 have hyes:=fun k=>zbK (g:=g) (p:=p) (o:=o.take i) (k:=k)
 have hno:=fun k=>zdQ (g:=g) (p:=p) (o:=o.take i) (k:=k)
 have hryes:=fun k=>zen (g:=g) (p:=p) (o:=o.take i) (k:=k)
 have hrno:=fun k=>zhr (g:=g) (p:=p) (o:=o.take i) (k:=k)
 have hmem : ∀ x ∈ accR g p (o.take i),x ∈ o.take i:=fun x hx=>zcb hx
 obtain ⟨acc,hacc⟩ : ∃ acc,acc = accR g p (o.take i):=⟨_,rfl⟩
 obtain ⟨R,hR⟩ : ∃ R,R = refR g p (o.take i):=⟨_,rfl⟩
 rw [← hacc] at haN haR hal hmem hyes hno hryes hrno
 rw [← hR] at hRl hryes hrno
 rw [← hacc,← hR]
 refine zab ⟨72,[(2,.pv (gC g)),(3,.pv (pC p)),(4,.pt 32 0 0),(7,.pt 40 0 0),(23,ints o),(24,.I o.length),(25,.I i),(26,.B (decide (i < o.length)))],
   [(32,some ⟨3,[[.nilS,.nilS,.nilS]],0⟩),(40,some ⟨3,[[ints acc,.nilS,.rs 42 0 R.length]],0⟩),(42,some ⟨2,zaM R,0⟩)],600⟩ rfl ?_ ?_
 ·simp
  exact Le.go [(32,32),(40,40),(42,42)] [] rfl rfl (by simp) (by simp [fcd])
 refine zaa ?_
 refine zad _ rfl (fun h11=>?_) fun h11=>?_
 ·simp at h11
  have hw1 : IntKind.i64.wrap ((i : Int) + 1) = (i : Int) + 1:=w64 (by omega) (by omega)
  obtain ⟨k,hk⟩ : ∃ k,k = o[i]:=⟨_,rfl⟩
  have hkr:=hor _ (List.getElem_mem h11)
  rw [← hk] at hkr
  have hts : o.take (i + 1) = o.take i ++ [k]:=by rw [List.take_succ_eq_append_getElem h11,hk]
  have hkacc : k ∉ acc:=fun h=>by
   have h2:=hmem k h
   obtain ⟨j,hj,hjk⟩:=List.mem_iff_getElem.1 h2
   rw [List.getElem_take] at hjk
   rw [List.length_take] at hj
   have:=(List.pairwise_iff_getElem.1 hon) j i (by omega) h11 (by omega)
   exact this (hjk.trans hk)
  have hks : ∀ x ∈ acc ++ [k],0 ≤ x ∧ x < g.size:=fun x hx=>by
   rcases List.mem_append.1 hx with h | h
   ·exact haR x h
   ·rw [List.mem_singleton] at h; subst h; exact hkr
  have hkn : (acc ++ [k]).Nodup:=List.nodup_append.2 ⟨haN,by simp,fun a ha b hb=>by
   rw [List.mem_singleton] at hb
   subst hb
   rintro rfl
   exact hkacc ha⟩
  have hwith:=zfB acc k (by omega)
  have hnet:=zbu g p (acc ++ [k]) hg hp hkn hks hs
  obtain ⟨fl,hfl,hsv⟩:=hserve (acc ++ [k]) hkn hks
  have hreach:=zi0 _ _ fl (hnv _ hks) hfl.ok hfl.most
  have hflen:=hfl.ok.fit.len
  have hnl2:=zlI (netN g) (netA g p (zaG (acc ++ [k])))
  have hyes:=hyes k
  have hno:=hno k
  have hryes:=hryes k
  have hrno:=hrno k
  rw [← hts] at hyes hno hryes hrno
  obtain ⟨A,hA⟩ : ∃ A,A = netA g p (zaG (acc ++ [k])):=⟨_,rfl⟩
  obtain ⟨side,hside⟩ : ∃ side,side = zel (netN g) A:=⟨_,rfl⟩
  rw [← hA] at hnet hsv hreach hflen hrno
  rw [← hside] at hreach hrno
  have htf : ∀ h : Int → List AV,List.take A.length (List.map h fl) = List.map h fl:=fun h=>List.take_of_length_le (by simp; omega)
  obtain ⟨W,hW⟩ : ∃ W,W = acc ++ [k]:=⟨_,rfl⟩
  have hWl : W.length = acc.length + 1:=by rw [hW]; simp
  rw [← hW] at hwith hnet hsv hyes hno hryes hrno
  rw [← hWl] at hwith
  refine zae ?_
  refine zaI (ι:=Unit) (fun _=>⟨72,[(2,.pv (gC g)),(3,.pv (pC p)),(4,.pt 32 0 0),(7,.pt 40 0 0),(23,ints o),(24,.I o.length),(25,.I i)],
   [(32,some ⟨3,[[.nilS,.nilS,.nilS]],0⟩),(40,some ⟨3,[[ints (accR g p (o.take (i + 1))),.nilS,.rs 42 0 (refR g p (o.take (i + 1))).length]],0⟩),(42,some ⟨2,zaM (refR g p (o.take (i + 1))),0⟩)],3000⟩) (fun _=>True) ?_ fun _ _=>?_
  ·refine zaf ?_
   refine zab ⟨72,[(2,.pv (gC g)),(3,.pv (pC p)),(4,.pt 32 0 0),(7,.pt 40 0 0),(9,.I k),(23,ints o),(24,.I o.length),(25,.I i)],
    [(32,some ⟨3,[[.nilS,.nilS,.nilS]],0⟩),(40,some ⟨3,[[ints acc,.nilS,.rs 42 0 R.length]],0⟩),(42,some ⟨2,zaM R,0⟩)],700⟩ rfl ?_ ?_
   ·simp [h11,← hk]
    exact Le.go [(32,32),(40,40),(42,42)] [] rfl rfl (by simp) (by simp [fcd])
   refine zab ⟨72,[(2,.pv (gC g)),(3,.pv (pC p)),(4,.pt 32 0 0),(7,.pt 40 0 0),(9,.I k),(10,ints W),(23,ints o),(24,.I o.length),(25,.I i)],
    [(32,some ⟨3,[[.nilS,.nilS,.nilS]],0⟩),(40,some ⟨3,[[ints acc,.nilS,.rs 42 0 R.length]],0⟩),(42,some ⟨2,zaM R,0⟩)],800⟩ rfl ?_ ?_
   ·simp
    refine za3 hwith (by simp) ?_
    simp
    exact Le.go [(32,32),(40,40),(42,42)] [724] rfl rfl (by simp [fcd,zal]) (by simp [fcd])
   refine zab ⟨72,[(2,.pv (gC g)),(3,.pv (pC p)),(4,.pt 32 0 0),(7,.pt 40 0 0),(9,.I k),(10,ints W),(11,.pv (nC ⟨netN g,A⟩)),(23,ints o),(24,.I o.length),(25,.I i)],
    [(32,some ⟨3,[[.nilS,.nilS,.nilS]],0⟩),(40,some ⟨3,[[ints acc,.nilS,.rs 42 0 R.length]],0⟩),(42,some ⟨2,zaM R,0⟩)],900⟩ rfl ?_ ?_
   ·simp
    refine zam hnet (by simp) ?_
    simp
    exact Le.go [(32,32),(40,40),(42,42)] [832] rfl rfl (by simp) (by simp [fcd])
   refine zab ⟨72,[(2,.pv (gC g)),(3,.pv (pC p)),(4,.pt 32 0 0),(7,.pt 40 0 0),(9,.I k),(10,ints W),(11,.pv (nC ⟨netN g,A⟩)),(12,.rs 43 0 A.length),(13,.B (@decide (zaq g p (zaG W)) (Classical.propDecidable _))),(23,ints o),(24,.I o.length),(25,.I i)],
    [(32,some ⟨3,[[.nilS,.nilS,.nilS]],0⟩),(40,some ⟨3,[[ints acc,.nilS,.rs 42 0 R.length]],0⟩),(42,some ⟨2,zaM R,0⟩),(43,some ⟨1,zah fl,0⟩)],1000⟩ rfl ?_ ?_
   ·simp
    refine za3 hsv (by simp) ?_
    simp
    exact Le.go [(32,32),(40,40),(42,42),(924,43)] [] rfl rfl (by simp) (by simp [fcd])
   refine zaa ?_
   refine zab ⟨72,[(2,.pv (gC g)),(3,.pv (pC p)),(4,.pt 32 0 0),(7,.pt 40 0 0),(9,.I k),(10,ints W),(11,.pv (nC ⟨netN g,A⟩)),(12,.rs 43 0 A.length),(44,.B (@decide (zaq g p (zaG W)) (Classical.propDecidable _))),(23,ints o),(24,.I o.length),(25,.I i)],
    [(32,some ⟨3,[[.nilS,.nilS,.nilS]],0⟩),(40,some ⟨3,[[ints acc,.nilS,.rs 42 0 R.length]],0⟩),(42,some ⟨2,zaM R,0⟩),(43,some ⟨1,zah fl,0⟩)],1100⟩ rfl ?_ ?_
   ·simp
    exact Le.go [(32,32),(40,40),(42,42),(43,43)] [] rfl rfl (by simp) (by simp [fcd])
   refine zad _ rfl (fun h15=>?_) fun h15=>?_
   ·have h15' : zaq g p (zaG W):=@of_decide_eq_true _ (Classical.propDecidable _) h15
    have hy:=hyes h15'
    have hry:=hryes h15'
    refine zab ⟨72,[(2,.pv (gC g)),(3,.pv (pC p)),(4,.pt 32 0 0),(7,.pt 40 0 0),(23,ints o),(24,.I o.length),(25,.I i)],
     [(32,some ⟨3,[[.nilS,.nilS,.nilS]],0⟩),(40,some ⟨3,[[ints W,.nilS,.rs 42 0 R.length]],0⟩),(42,some ⟨2,zaM R,0⟩)],1200⟩ rfl ?_ ?_
    ·simp [zaZ]
     exact Le.go [(32,32),(40,40),(42,42)] [] rfl rfl (by simp) (by simp [fcd])
    refine zao ?_
    refine hit ?_
    exact ⟨(),trivial,Le.go [(32,32),(40,40),(42,42)] [] rfl rfl (by simp) (by simp [hy,hry,fcd])⟩
   ·have h15' : ¬ zaq g p (zaG W):=@of_decide_eq_false _ (Classical.propDecidable _) h15
    have hn':=hno h15'
    have hrn:=hrno h15'
    have htR : ∀ h : Int × List Int → List AV,List.take R.length (List.map h R) = List.map h R:=fun h=>List.take_of_length_le (by simp)
    refine zae ?_
    refine zc0 rfl ?_
    simp
    refine zba (i:=43) rfl (by simp [fcd]) hreach (by simp) (by simp) ?_
    simp [htR,zaZ]
    exact ⟨by omega,by omega,rfl,Le.go [(32,32),(40,40),(1164,42)] [1140] rfl rfl (by simp) (by simp [hn',hrn,fcd,zal])⟩
  refine zar rfl ?_
  simp [hw1]
  exact ⟨i + 1,by omega,by omega,Le.go [(32,32),(40,40),(42,42)] [] rfl rfl (by simp [hw1]) (by simp [fcd])⟩
 simp at h11
 obtain rfl : i = o.length:=by omega
 rw [List.take_length] at hacc hR
 rw [← hacc] at hlast hnl hlf
 have hl1 : ((acc.length : Nat) : Int) = acc.length:=rfl
 obtain ⟨A,hA⟩ : ∃ A,A = netA g p (zaG acc):=⟨_,rfl⟩
 rw [← hA] at hnl hlast hlf
 have htf : ∀ h : Int → List AV,List.take A.length (List.map h f) = List.map h f:=fun h=>List.take_of_length_le (by simp; omega)
 refine zao ?_
 refine hit ?_
 refine zaF ⟨72,[(4,.pt 32 0 0),(7,.pt 40 0 0)],
   [(32,some ⟨3,[[.nilS,.nilS,.nilS]],0⟩),(40,some ⟨3,[[ints acc,ints f,.vs 2 false (zaM R)]],0⟩)],1200⟩ rfl ?_ ?_
 ·simp
  refine zam hnl (by simp) ?_
  simp
  refine za3 hlast (by simp) ?_
  simp [zaZ]
  exact ⟨rfl,Le.go [(32,32),(40,40)] [42,664] rfl rfl (by simp) (by simp [fcd,zal,htf,hlf])⟩
 refine zab ⟨72,[(4,.pt 32 0 0),(5,.I 0)],[(32,some ⟨3,[[ints acc,ints f,.vs 2 false (zaM R)]],0⟩)],1400⟩ rfl ?_ ?_
 ·simp [zaZ]
  exact Le.go [(32,32)] [] rfl rfl (by simp) (by simp [fcd])
 refine zag ?_
 rw [← hacc,← hR]
 exact ⟨.inr rfl,zan.out [] [32] rfl (by simp) (by simp) (by simp) (by simp)⟩
section
variable {P : Program} {np id : Nat} {h : Nat → Option Ent} {K : AV → List Nat → List (Nat × Option Ent) → Prop} {f : FuncId} {first capt args args' : List AV} {res : AV}
end
theorem zqk (L : List Int) (hl : L.length ≤ 400) : ∃ (g : Gr) (b : Nat),(GrOk g ∧ 2 ≤ g.size ∧ g.size ≤ 9 ∧ b ≤ L.length) ∧ zaj Tryz.prog zbk [.pt 0 0 0] [dice L 0] (eG g) [some (dice L b)] :=
 have h:=zmW L 0 (Nat.zero_le _)
 ⟨_,_,⟨h.ok,h.lo,h.hi,h.at_⟩,zrL L 0 hl (Nat.zero_le _)⟩
variable {g : Gr} {p : Pol}
def zej (g : Gr) (p : Pol) (ks : List Int) : Prop:=Rise ks 0 (g.size - 1) ∧ (∀ k ∈ ks,0 ≤ dist (zai g p.lv) p.seeds k) ∧ zaq g p ks
theorem Rise.pair {l : List Int} {lo hi : Int} (h : Rise l lo hi) : l.Pairwise (· < ·):=by
 have hlt : ∀ (j i : Nat) (hj : j < l.length) (hij : i < j),l[i] < l[j]:=by
  intro j
  induction j with
  | zero=>intro i _ hij; omega
  | succ j ih =>
    intro i hj hij
    have h1:=(h (j + 1) hj).2.2 (by omega)
    simp only [Nat.add_sub_cancel] at h1
    rcases Nat.lt_or_ge i j with h2 | h2
    ·have:=ih i (by omega) h2
     omega
    ·have : i = j:=by omega
     subst this
     exact h1
 exact List.pairwise_iff_getElem.2 fun i j hi hj hij=>hlt j i hj hij
theorem zcF (acc f : List Int) (R : List (Int × List Int)) (k : Int) (hl : acc.length ≤ 140737488355328) : zaj Tryz.prog zbO [eAcc acc f R,.I k] [] (.B (decide (k ∈ acc))) []:=by
 refine zim.acalls (Nat.le_of_ble_eq_true rfl) (Nat.le_of_ble_eq_true rfl) (Nat.zero_le _) ?_
 show awp _ 0 _ _ ⟨9,[(0,eAcc acc f R),(1,.I k)],[],16⟩
 refine zab ⟨9,[(1,.I k),(2,.pv [ints acc,ints f,.vs 2 false (zaM R)])],[],100⟩ rfl ?_ ?_
 ·simp
  exact Le.go [] [16] rfl rfl (by simp) (by simp)
 refine zab ⟨9,[(4,.B (decide (k ∈ acc)))],[],200⟩ rfl ?_ ?_
 ·simp
  refine zam (zcJ acc k hl) (by simp) ?_
  simp
  exact Le.go [] [] rfl rfl (by simp) (by simp)
 refine zag ?_
 exact ⟨.inr rfl,zan.one (by simp)⟩
theorem zf1 (C : List Int) (k : Int) (h0 : 0 ≤ k) (h1 : k < C.length) : zaj Tryz.prog zbY [.I k,.pv [ints C]] [] (.B (decide (C.getD k.toNat 0 = 0))) []:=by
 refine zg6.acalls (Nat.le_of_ble_eq_true rfl) (Nat.le_of_ble_eq_true rfl) (Nat.zero_le _) ?_
 show awp _ 0 _ _ ⟨9,[(0,.I k),(1,.pv [ints C])],[],16⟩
 have hk : k.toNat < C.length:=by omega
 have hget : C[k.toNat]? = some (C.getD k.toNat 0):=by rw [List.getD_eq_getElem?_getD,List.getElem?_eq_getElem hk,Option.getD_some]
 obtain ⟨v,hv⟩ : ∃ v,v = C.getD k.toNat 0:=⟨_,rfl⟩
 rw [← hv] at hget ⊢
 refine rx (s:=?s1) [0,1] [] [] rfl ?o1 ?q1
 case o1=>simp; rfl
 refine zab ⟨9,[(3,.B (decide (v = 0)))],[],200⟩ rfl ?_ ?_
 ·have hv' : C[k.toNat] = v:=by rw [List.getElem?_eq_getElem hk] at hget; exact Option.some.inj hget
  simp [hget,hk,h0,hv']
  exact Le.go [] [] rfl rfl (by simp <;> exact wkB (by rw [Bool.eq_iff_iff]; simp)) (by simp)
 refine zag ?_
 exact ⟨.inr rfl,zan.one (by simp)⟩
set_option maxRecDepth 100000 in
set_option maxHeartbeats 1000000 in
open Classical in
theorem zeF (g : Gr) (p : Pol) (ks : List Int) (hg : GrOk g) (hp : zbb g.size p) (hs : p.seeds.length ≤ 64) (hl : ks.length ≤ 1099511627776) :
  zaj Tryz.prog zcR [eG g,eP p,ints ks] [] (.B (decide (zej g p ks))) []:=by
 refine zjE.acalls (Nat.le_of_ble_eq_true rfl) (Nat.le_of_ble_eq_true rfl) (Nat.le_refl _) ?_
 show awp _ 0 _ _ ⟨39,[(0,eG g),(1,eP p),(2,ints ks)],[],16⟩
 have hsz:=hg.1.1
 have hsz2:=hg.1.2.1
 have hel:=hg.edges_le
 have hgl:=hg.gone_le
 have hchk:=zbW g p (by omega) (by omega) (by omega) (by have:=hp.2.2.2.1; omega)
 rw [if_pos hg,if_pos hp] at hchk
 have hris:=zbQ ks 0 (g.size - 1) (by omega)
 have hall:=ze6 g p hg (by omega)
 have hcl : (zat g p).length = g.size.toNat:=zaT
 have hcr:=fun (k : Int) (h0 : 0 ≤ k)=>zfj (g:=g) hp h0
 have hcn:=zeT (g:=g) hp
 obtain ⟨C,hC⟩ : ∃ C,C = zat g p:=⟨_,rfl⟩
 rw [← hC] at hall hcl hcr hcn
 rw [← hcl] at hall
 have hw : IntKind.i64.wrap (g.size - 1) = g.size - 1:=w64 (by omega) (by omega)
 refine zab ⟨39,[(2,ints ks),(3,.pv (gC g)),(4,.pv (pC p))],[],100⟩ rfl ?_ ?_
 ·simp
  exact Le.go [] [16,24] rfl rfl (by simp) (by simp)
 refine zaa ?_
 refine zab ⟨39,[(2,ints ks),(3,.pv (gC g)),(4,.pv (pC p)),(21,.B (decide (¬ Rise ks 0 (g.size - 1))))],[],300⟩ rfl ?_ ?_
 ·simp
  refine zam hchk (by simp) ?_
  simp [hw]
  refine zam hris (by simp) ?_
  simp
  exact Le.go [] [] rfl rfl (by simp) (by simp)
 refine zad _ rfl (fun h3=>?_) fun h3=>?_
 ·rw [decide_eq_true_eq] at h3
  have hno : ¬ zej g p ks:=fun h=>h3 h.1
  rw [decide_eq_false hno]
  refine rx (s:=?s4) [6] [] [] rfl ?o4 ?q4
  case o4=>simp; rfl
  refine zag ?_
  exact ⟨.inr rfl,zan.one (by simp)⟩
 rw [decide_eq_false_iff_not,Decidable.not_not] at h3
 have hr:=zhf h3
 have hkn:=h3.nodup.1
 have hkl : ks.length ≤ 64:=by
  have:=za6 (a:=ks) (b:=(List.range 64).map Int.ofNat) hkn fun x hx=>by
   have:=hr x hx
   exact List.mem_map.2 ⟨x.toNat,List.mem_range.2 (by omega),by simp; omega⟩
  simpa using this
 have hcf:=zeE zbY [.pv [ints C]] (fun k=>decide (C.getD k.toNat 0 = 0)) ks hl (fun ρ sn h k=>by simp) fun e he=>zf1 C e (hr e he).1 (by have:=hr e he; omega)
 have hany : (ks.any fun k=>decide (C.getD k.toNat 0 = 0)) = true ↔ ¬ ∀ k ∈ ks,0 ≤ dist (zai g p.lv) p.seeds k:=by
  rw [List.any_eq_true]
  constructor
  ·rintro ⟨k,hk,h⟩ hall
   have h1:=(hcr k (hr k hk).1).2 ⟨(hr k hk).2,hall k hk⟩
   have h2 : C.getD k.toNat 0 = 0:=by simpa using h
   omega
  ·intro h
   obtain ⟨k,hk⟩:=Classical.not_forall.1 h
   obtain ⟨h1,h2⟩:=Classical.not_imp.1 hk
   refine ⟨k,h1,?_⟩
   have h4 : ¬ 0 < C.getD k.toNat 0:=fun h5=>h2 ((hcr k (hr k h1).1).1 h5).2
   have h5 : 0 ≤ C.getD k.toNat 0:=by
    rw [List.getD_eq_getElem?_getD]
    cases hh : C[k.toNat]? with
    | none=>simp
    | some v=>exact hcn v (List.mem_of_getElem? hh)
   simp only [decide_eq_true_eq]
   omega
 obtain ⟨b,hb⟩ : ∃ b,b = ks.any fun k=>decide (C.getD k.toNat 0 = 0):=⟨_,rfl⟩
 rw [← hb] at hcf hany
 refine zae ?_
 refine zab ⟨39,[(2,ints ks),(3,.pv (gC g)),(4,.pv (pC p)),(7,.pv [ints C])],[],400⟩ rfl ?_ ?_
 ·simp
  refine za3 hall (by simp) ?_
  simp
  exact Le.go [] [316,324] rfl rfl (by simp [fcd,zal]) (by simp)
 refine zaa ?_
 refine zab ⟨39,[(2,ints ks),(3,.pv (gC g)),(4,.pv (pC p)),(27,.B b)],[],500⟩ rfl ?_ ?_
 ·simp
  refine zam hcf (by simp) ?_
  simp
  exact Le.go [] [] rfl rfl (by simp) (by simp)
 refine zad _ rfl (fun h7=>?_) fun h7=>?_
 ·have hno : ¬ zej g p ks:=fun h=>hany.1 h7 h.2.1
  rw [decide_eq_false hno]
  refine rx (s:=?s8) [6] [] [] rfl ?o8 ?q8
  case o8=>simp; rfl
  refine zag ?_
  exact ⟨.inr rfl,zan.one (by simp)⟩
 have h7' : ∀ k ∈ ks,0 ≤ dist (zai g p.lv) p.seeds k:=Decidable.byContradiction fun h=>by
  have:=hany.2 h
  rw [show b = false from h7] at this
  cases this
 have hks : zaG ks = ks:=zj3 (zgh ks) h3.pair fun x=>by
  rw [zdt]
  exact ⟨fun h=>h.1,fun h=>⟨h,by have:=hr x h; omega⟩⟩
 have hnet:=zbu g p ks hg hp hkn hr hs
 rw [hks] at hnet
 have hnv:=zgz hg hp hr hs hkl
 obtain ⟨fl,hfl,hsv⟩:=zfD _ _ (ks.length : Nat) hnv
 have hcs : decide (valF (netA g p ks) fl = (ks.length : Nat)) = decide (zej g p ks):=by
  rw [decide_eq_decide]
  have hmf:=zfJ hfl.1 hfl.2
  unfold zej zaq
  rw [hmf]
  exact ⟨fun h=>⟨h3,h7',h⟩,fun h=>h.2.2⟩
 rw [hcs] at hsv
 obtain ⟨A,hA⟩ : ∃ A,A = netA g p ks:=⟨_,rfl⟩
 rw [← hA] at hnet hsv
 refine zae ?_
 refine zab ⟨39,[(9,.B (decide (zej g p ks)))],[],700⟩ rfl ?_ ?_
 ·simp
  refine zam hnet (by simp) ?_
  simp
  refine za3 hsv (by simp) ?_
  simp
  exact Le.go [] [] rfl rfl (by simp) (by simp)
 refine zab ⟨39,[(6,.B (decide (zej g p ks)))],[],800⟩ rfl ?_ ?_
 ·simp
  exact Le.go [] [] rfl rfl (by simp) (by simp)
 refine zag ?_
 exact ⟨.inr rfl,zan.one (by simp)⟩
def za8 : List Int → List Int → List Int → Bool
 | [],a,r=>a.isEmpty && r.isEmpty
 | x :: o,a,r=>if a.head? = some x then za8 o a.tail r else if r.head? = some x then za8 o a r.tail else false
def zbx : Nat → List Int → List Int → List Int → List Nat
 | _,[],_,_=>[]
 | c,x :: o,a,r=>if a.head? = some x then zbx (c + 1) o a.tail r else if r.head? = some x then c :: zbx c o a r.tail else []
theorem ziE : ∀ {o a r : List Int},za8 o a r = true → a.Sublist o ∧ r.Sublist o
 | [],a,r,h=>by
   simp [za8] at h
   rw [h.1,h.2]
   exact ⟨List.nil_sublist _,List.nil_sublist _⟩
 | x :: o,a,r,h=>by
   simp only [za8] at h
   split at h
   ·rename_i h1
    obtain ⟨h2,h3⟩:=ziE h
    cases a with
    | nil=>cases h1
    | cons y a =>
      have : y = x:=by simpa using h1
      subst this
      exact ⟨h2.cons_cons _,h3.cons _⟩
   ·split at h
    ·rename_i h1
     obtain ⟨h2,h3⟩:=ziE h
     cases r with
     | nil=>cases h1
     | cons y r =>
       have : y = x:=by simpa using h1
       subst this
       exact ⟨h2.cons _,h3.cons_cons _⟩
    ·cases h
theorem ziU : ∀ {o a r : List Int},za8 o a r = true → ∀ x ∈ o,x ∈ a ∨ x ∈ r
 | [],a,r,_,x,hx=>by simp at hx
 | x :: o,a,r,h,y,hy=>by
   simp only [za8] at h
   split at h
   ·rename_i h1
    cases a with
    | nil=>cases h1
    | cons z a =>
      have : z = x:=by simpa using h1
      subst this
      rcases List.mem_cons.1 hy with rfl | hy
      ·exact .inl (by simp)
      ·rcases ziU h y hy with h2 | h2
       ·exact .inl (List.mem_cons_of_mem _ h2)
       ·exact .inr h2
   ·split at h
    ·rename_i h1
     cases r with
     | nil=>cases h1
     | cons z r =>
       have : z = x:=by simpa using h1
       subst this
       rcases List.mem_cons.1 hy with rfl | hy
       ·exact .inr (by simp)
       ·rcases ziU h y hy with h2 | h2
        ·exact .inl h2
        ·exact .inr (List.mem_cons_of_mem _ h2)
    ·cases h
theorem ziB : ∀ {o a r : List Int},za8 o a r = true → o.length = a.length + r.length
 | [],a,r,h=>by
   simp [za8] at h
   rw [h.1,h.2]
   rfl
 | x :: o,a,r,h=>by
   simp only [za8] at h
   split at h
   ·rename_i h1
    cases a with
    | nil=>cases h1
    | cons z a =>
      have:=ziB h
      simp at this ⊢
      omega
   ·split at h
    ·rename_i h1
     cases r with
     | nil=>cases h1
     | cons z r =>
       have:=ziB h
       simp at this ⊢
       omega
    ·cases h
theorem zft : ∀ {o a r : List Int} {c : Nat},za8 o a r = true → (zbx c o a r).length = r.length
 | [],a,r,c,h=>by
   simp [za8] at h
   rw [h.2]
   rfl
 | x :: o,a,r,c,h=>by
   simp only [za8] at h
   simp only [zbx]
   split at h
   ·rename_i h1
    rw [if_pos h1]
    exact zft h
   ·rename_i h1
    rw [if_neg h1]
    split at h
    ·rename_i h2
     rw [if_pos h2,List.length_cons,zft h]
     cases r with
     | nil=>cases h2
     | cons y r=>rfl
    ·cases h
theorem zgx : ∀ {o a r : List Int} {c m : Nat},m ∈ zbx c o a r → c ≤ m ∧ m ≤ c + a.length
 | [],a,r,c,m,h=>by simp [zbx] at h
 | x :: o,a,r,c,m,h=>by
   simp only [zbx] at h
   split at h
   ·rename_i h1
    have:=zgx h
    cases a with
    | nil=>cases h1
    | cons y a=>simp at this ⊢; omega
   ·split at h
    ·rcases List.mem_cons.1 h with rfl | h
     ·omega
     ·exact zgx h
    ·simp at h
theorem ziT : ∀ {o a r : List Int} {k : Int},za8 o a r = true → k ∉ o → za8 (o ++ [k]) (a ++ [k]) r = true
 | [],a,r,k,h,_=>by
   simp [za8] at h
   rw [h.1,h.2]
   simp [za8]
 | x :: o,a,r,k,h,hk=>by
   have hkx : k ≠ x:=fun e=>hk (by simp [e])
   have hko : k ∉ o:=fun e=>hk (List.mem_cons_of_mem _ e)
   simp only [za8] at h
   simp only [List.cons_append,za8]
   split at h
   ·rename_i h1
    cases a with
    | nil=>cases h1
    | cons y a =>
      have : y = x:=by simpa using h1
      subst this
      simpa using ziT h hko
   ·rename_i h1
    split at h
    ·rename_i h2
     have h3 : (a ++ [k]).head? ≠ some x:=by
      cases a with
      | nil=>simpa using hkx
      | cons y a=>simpa using h1
     rw [if_neg h3,if_pos h2]
     exact ziT h hko
    ·cases h
theorem ziq : ∀ {o a r : List Int} {k : Int},za8 o a r = true → k ∉ o → za8 (o ++ [k]) a (r ++ [k]) = true
 | [],a,r,k,h,_=>by
   simp [za8] at h
   rw [h.1,h.2]
   simp [za8]
 | x :: o,a,r,k,h,hk=>by
   have hkx : k ≠ x:=fun e=>hk (by simp [e])
   have hko : k ∉ o:=fun e=>hk (List.mem_cons_of_mem _ e)
   simp only [za8] at h
   simp only [List.cons_append,za8]
   split at h
   ·rename_i h1
    rw [if_pos h1]
    exact ziq h hko
   ·rename_i h1
    rw [if_neg h1]
    split at h
    ·rename_i h2
     cases r with
     | nil=>cases h2
     | cons y r =>
       have : y = x:=by simpa using h2
       subst this
       simpa using ziq h hko
    ·cases h
def zhS (g : Gr) (p : Pol) (b : List Int) (r : Int × List Int) : Prop:=zek ⟨netN g,netA g p (zaG (b ++ [r.1]))⟩ r.2 b.length
def zey (g : Gr) (p : Pol) : List Int → List Int → List Int → List (Int × List Int) → Prop
 | _,[],_,_=>True
 | b,x :: o,a,R=>if a.head? = some x then zey g p (b ++ [x]) o a.tail R else match R with
   | []=>True
   | r :: R=>zhS g p b r ∧ zey g p b o a R
def za5 (R : List (Int × List Int)) : List Int:=R.map (·.1)
theorem zih {g : Gr} {p : Pol} : ∀ {o b a : List Int} {R : List (Int × List Int)},za8 o a (za5 R) = true →
  (zey g p b o a R ↔ ∀ i (h : i < R.length),zhS g p (b ++ a.take ((zbx b.length o a (za5 R)).getD i 0 - b.length)) R[i])
 | [],b,a,R,h=>by
   simp [za8,za5] at h
   obtain ⟨_,rfl⟩:=h
   simp [zey]
 | x :: o,b,a,R,h=>by
   simp only [za8] at h
   simp only [zey,zbx]
   split at h
   ·rename_i h1
    rw [if_pos h1,if_pos h1]
    have ih:=zih (g:=g) (p:=p) (b:=b ++ [x]) h
    rw [List.length_append,List.length_singleton] at ih
    rw [ih]
    cases a with
    | nil=>cases h1
    | cons y a =>
      have : y = x:=by simpa using h1
      subst this
      simp only [List.tail_cons] at h ih ⊢
      have key : ∀ i (hi : i < R.length),b ++ [y] ++ a.take ((zbx (b.length + 1) o a (za5 R)).getD i 0 - (b.length + 1)) = b ++ (y :: a).take ((zbx (b.length + 1) o a (za5 R)).getD i 0 - b.length):=fun i hi=>by
       have hl : i < (zbx (b.length + 1) o a (za5 R)).length:=by
        rw [zft h,za5,List.length_map]
        exact hi
       have hm:=zgx (List.getElem_mem hl)
       have e : (zbx (b.length + 1) o a (za5 R)).getD i 0 = (zbx (b.length + 1) o a (za5 R))[i]:=by rw [List.getD_eq_getElem?_getD,List.getElem?_eq_getElem hl,Option.getD_some]
       rw [e]
       obtain ⟨q,hq⟩ : ∃ q,(zbx (b.length + 1) o a (za5 R))[i] = b.length + 1 + q:=⟨_,(Nat.add_sub_cancel' hm.1).symm⟩
       rw [hq,show b.length + 1 + q - (b.length + 1) = q by omega,show b.length + 1 + q - b.length = q + 1 by omega,List.take_succ_cons,List.append_assoc]
       rfl
      constructor
      ·intro h2 i hi
       rw [← key i hi]
       exact h2 i hi
      ·intro h2 i hi
       have:=h2 i hi
       rw [← key i hi] at this
       exact this
   ·rename_i h1
    rw [if_neg h1,if_neg h1]
    split at h
    ·rename_i h2
     cases R with
     | nil=>cases h2
     | cons r R =>
       rw [if_pos h2]
       have ih:=zih (g:=g) (p:=p) (b:=b) (R:=R) h
       simp only
       rw [ih]
       constructor
       ·rintro ⟨h3,h4⟩ i hi
        cases i with
        | zero=>simpa using h3
        | succ i=>exact h4 i (by simpa using hi)
       ·intro h3
        refine ⟨by
         have h4:=h3 0 (Nat.zero_lt_succ _)
         simp only [List.getD_cons_zero,Nat.sub_self,List.take_zero,List.append_nil] at h4
         exact h4,fun i hi=>h3 (i + 1) (by simpa using hi)⟩
    ·cases h
open Classical in
noncomputable def znU (g : Gr) (p : Pol) (acc flow : List Int) (R : List (Int × List Int)) : Int :=
 if za8 (ordL (zai g p.lv) p.seeds) acc (za5 R) = true then
  if zaD (netN g) (netA g p (zaG acc)) flow ∧ valF (netA g p (zaG acc)) flow = acc.length then
   if zey g p [] (ordL (zai g p.lv) p.seeds) acc R then 0 else 18
  else 17
 else 1
theorem zjQ {l : List Int} {i : Nat} (h : i < l.length) : (l.drop i).head? = some l[i]:=by rw [List.head?_drop,List.getElem?_eq_getElem h]
theorem zfy {l : List Int} {i : Nat} (h : ¬ i < l.length) : (l.drop i).head? = none:=by rw [List.head?_drop,List.getElem?_eq_none (by omega)]
structure PtSt where
 n : Nat
 i : Nat
 k : Nat
 L : List Int
set_option maxRecDepth 100000 in
set_option maxHeartbeats 4000000 in
theorem zjj (o acc f : List Int) (R : List (Int × List Int)) (hol : o.length ≤ 100) (ha : acc.length ≤ 1000) (hR : R.length ≤ 1000) :
  ∃ L : List Int,(za8 o acc (za5 R) = true → L = (zbx 0 o acc (za5 R)).map fun (n : Nat)=>(n : Int)) ∧ zaj Tryz.prog zdS [ints o,eAcc acc f R] [] (.tup [ints L,.B (za8 o acc (za5 R))]) []:=by
 refine zjT.acallsX (args:=[ints o,eAcc acc f R]) (hs:=[]) (fun L=>.tup [ints L,.B (za8 o acc (za5 R))]) (fun _=>[]) (fun L : List Int=>za8 o acc (za5 R) = true → L = (zbx 0 o acc (za5 R)).map fun (n : Nat)=>(n : Int)) (Nat.le_of_ble_eq_true rfl) (Nat.le_of_ble_eq_true rfl) (fun _=>Nat.le_refl _) ?_
 show awp _ 0 _ _ ⟨70,[(0,ints o),(1,eAcc acc f R)],[],16⟩
 have hkl : (za5 R).length = R.length:=by simp [za5]
 obtain ⟨b,hb⟩ : ∃ b,b = za8 o acc (za5 R):=⟨_,rfl⟩
 rw [← hb]
 refine zab ⟨70,[(0,ints o),(3,.pv [ints acc,ints f,.vs 2 false (zaM R)])],[],40⟩ rfl ?_ ?_
 ·simp
  exact Le.go [] [16] rfl rfl (by simp) (by simp)
 refine zab ⟨70,[(0,ints o),(3,.pv [ints acc,ints f,.vs 2 false (zaM R)]),(6,.rs 50 0 0)],[(50,some ⟨1,[],0⟩)],100⟩ rfl ?_ ?_
 ·simp
  exact Le.lst [] [] [(50,1)] rfl (by simp) (by simp) (by simp) (by simp) (by simp) (by simp) (by simp) (by simp [Up]) (by simp)
 refine zab ⟨70,[(0,ints o),(3,.pv [ints acc,ints f,.vs 2 false (zaM R)]),(6,.rs 50 0 0),(7,.I 0),(8,.I 0)],[(50,some ⟨1,[],0⟩)],200⟩ rfl ?_ ?_
 ·simp
  exact Le.go [(50,50)] [] rfl rfl (by simp) (by simp)
 refine zaa ?_
 refine zab ⟨70,[(3,.pv [ints acc,ints f,.vs 2 false (zaM R)]),(6,.rs 50 0 0),(7,.I 0),(8,.I 0),(11,ints o),(12,.I o.length),(13,.I 0)],[(50,some ⟨1,[],0⟩)],300⟩ rfl ?_ ?_
 ·simp
  exact Le.go [(50,50)] [] rfl rfl (by simp) (by simp)
 refine zaf ?_
 refine zap (ι:=PtSt) (fun s=>⟨70,[(3,.pv [ints acc,ints f,.vs 2 false (zaM R)]),(6,.rs 50 0 s.L.length),(7,.I s.i),(8,.I s.k),(11,ints o),(12,.I o.length),(13,.I s.n)],[(50,some ⟨1,zah s.L,0⟩)],300⟩)
  (fun s=>s.n ≤ o.length ∧ s.i ≤ acc.length ∧ s.k ≤ R.length ∧ s.L.length ≤ s.n ∧ b = za8 (o.drop s.n) (acc.drop s.i) ((za5 R).drop s.k) ∧ s.L ++ (zbx s.i (o.drop s.n) (acc.drop s.i) ((za5 R).drop s.k)).map (fun (n : Nat)=>(n : Int)) = (zbx 0 o acc (za5 R)).map (fun (n : Nat)=>(n : Int)))
  (fun s=>o.length - s.n) ⟨0,0,0,[]⟩ ⟨Nat.zero_le _,Nat.zero_le _,Nat.zero_le _,Nat.le_refl _,by simpa using hb,by simp⟩ (Le.go [(50,50)] [] rfl rfl (by simp) (by simp)) ?_
 rintro ⟨n,i,k,L⟩ ⟨hn,hi,hk,hL,hp,hah⟩
 simp only at hn hi hk hL hp hah
 refine zab ⟨70,[(3,.pv [ints acc,ints f,.vs 2 false (zaM R)]),(6,.rs 50 0 L.length),(7,.I i),(8,.I k),(11,ints o),(12,.I o.length),(13,.I n),(14,.B (decide (n < o.length)))],[(50,some ⟨1,zah L,0⟩)],400⟩ rfl ?_ ?_
 ·simp
  exact Le.go [(50,50)] [] rfl rfl (by simp) (by simp [fcd])
 refine zaa ?_
 refine zad _ rfl (fun h6=>?_) fun h6=>?_
 ·simp at h6
  have hw1 : IntKind.i64.wrap ((n : Int) + 1) = (n : Int) + 1:=w64 (by omega) (by omega)
  have hw2 : IntKind.i64.wrap ((i : Int) + 1) = (i : Int) + 1:=w64 (by omega) (by omega)
  have hw3 : IntKind.i64.wrap ((k : Int) + 1) = (k : Int) + 1:=w64 (by omega) (by omega)
  obtain ⟨x,hx⟩ : ∃ x,x = o[n]:=⟨_,rfl⟩
  have hod : o.drop n = x :: o.drop (n + 1):=by rw [List.drop_eq_getElem_cons h6,hx]
  rw [hod] at hp hah
  simp only [za8,zbx,List.tail_drop] at hp hah
  refine zae ?_
  refine zaa ?_
  refine zaf ?_
  refine zab ⟨70,[(3,.pv [ints acc,ints f,.vs 2 false (zaM R)]),(6,.rs 50 0 L.length),(7,.I i),(8,.I k),(10,.I x),(11,ints o),(12,.I o.length),(13,.I n)],[(50,some ⟨1,zah L,0⟩)],500⟩ rfl ?_ ?_
  ·simp [h6,← hx]
   exact Le.go [(50,50)] [] rfl rfl (by simp) (by simp [fcd])
  refine zaf ?_
  refine zab ⟨70,[(3,.pv [ints acc,ints f,.vs 2 false (zaM R)]),(6,.rs 50 0 L.length),(7,.I i),(8,.I k),(10,.I x),(11,ints o),(12,.I o.length),(13,.I n),(17,.B (decide ((acc.drop i).head? = some x)))],[(50,some ⟨1,zah L,0⟩)],700⟩ rfl ?_ ?_
  ·by_cases hia : i < acc.length
   ·have hh:=zjQ hia
    simp [hia]
    exact Le.go [(50,50)] [] rfl rfl (by simp <;> exact wkB (by rw [Bool.eq_iff_iff]; simp [hia])) (by simp [fcd])
   ·have hh:=zfy hia
    have hai : acc.length ≤ i:=by omega
    simp [hia]
    exact Le.go [(50,50)] [] rfl rfl (by simp [hia]) (by simp [fcd])
  refine zad _ rfl (fun h9=>?_) fun h9=>?_
  ·rw [decide_eq_true_eq] at h9
   rw [if_pos h9] at hp hah
   have hia : i < acc.length:=Decidable.byContradiction fun h=>by rw [zfy h] at h9; cases h9
   refine zar rfl ?_
   simp
   refine zar rfl ?_
   simp
   exact ⟨⟨n + 1,i + 1,k,L⟩,⟨by simp only; omega,by simp only; omega,hk,by simp only; omega,hp,hah⟩,by simp only; omega,Le.go [(50,50)] [] rfl rfl (by simp [hw1,hw2]) (by simp [fcd])⟩
  rw [decide_eq_false_iff_not] at h9
  rw [if_neg h9] at hp hah
  refine zab ⟨70,[(3,.pv [ints acc,ints f,.vs 2 false (zaM R)]),(6,.rs 50 0 L.length),(7,.I i),(8,.I k),(11,ints o),(12,.I o.length),(13,.I n),(34,.B (decide (((za5 R).drop k).head? = some x)))],[(50,some ⟨1,zah L,0⟩)],900⟩ rfl ?_ ?_
  ·by_cases hkR : k < R.length
   ·have hh : ((za5 R).drop k).head? = some R[k].1:=by rw [List.head?_drop,za5,List.getElem?_map,List.getElem?_eq_getElem hkR]; rfl
    have hh2 : (za5 R)[k]? = some R[k].1:=by rw [← List.head?_drop]; exact hh
    simp [hkR]
    exact Le.go [(50,50)] [] rfl rfl (by simp [hh2] <;> exact wkB (by rw [Bool.eq_iff_iff]; simp)) (by simp [fcd])
   ·have hh : ((za5 R).drop k).head? = none:=by rw [List.head?_drop,List.getElem?_eq_none (by omega)]
    have hh2 : (za5 R)[k]? = none:=by rw [← List.head?_drop]; exact hh
    simp [hkR]
    exact Le.go [(50,50)] [] rfl rfl (by simp [hh2,hkR]) (by simp [fcd])
  refine zad _ rfl (fun h11=>?_) fun h11=>?_
  ·rw [decide_eq_true_eq] at h11
   rw [if_pos h11] at hp hah
   have hkR : k < R.length:=Decidable.byContradiction fun h=>by rw [List.head?_drop,List.getElem?_eq_none (by omega)] at h11; cases h11
   refine zab ⟨70,[(3,.pv [ints acc,ints f,.vs 2 false (zaM R)]),(6,.rs 50 0 L.length),(7,.I i),(8,.I (k + 1 : Nat)),(11,ints o),(12,.I o.length),(13,.I n)],[(50,some ⟨1,zah L,0⟩)],1000⟩ rfl ?_ ?_
   ·simp
    exact Le.go [(50,50)] [] rfl rfl (by simp [hw3]) (by simp [fcd])
   have htL : ∀ h : Int → List AV,List.take L.length (List.map h L) = List.map h L:=fun h=>List.take_of_length_le (by simp)
   refine zar rfl ?_
   simp [htL]
   refine ⟨by omega,by omega,?_⟩
   refine zar rfl ?_
   simp
   exact ⟨⟨n + 1,i,k + 1,L ++ [(i : Int)]⟩,⟨by simp only; omega,hi,hkR,by simp; omega,hp,by simpa using hah⟩,by simp only; omega,Le.go [(1024,50)] [] rfl rfl (by simp [hw1]) (by simp [fcd])⟩
  rw [decide_eq_false_iff_not] at h11
  rw [if_neg h11] at hp
  subst hp
  refine zab ⟨70,[(4,ints []),(5,.B false)],[],1000⟩ rfl ?_ ?_
  ·simp
   exact Le.go [] [] rfl rfl (by simp; exact Wk.nil _ _) (by simp)
  refine zag ?_
  exact zjs.mk (.inr rfl) [] (fun h=>by cases h) (zan.out [] [] rfl (by simp) (by simp) (by simp; exact .refl _) (by simp))
 simp at h6
 obtain rfl : n = o.length:=by omega
 rw [List.drop_length] at hp hah
 have hp2 : b = (decide (i = acc.length) && decide (k = R.length)):=by
  rw [hp]
  simp only [za8]
  rw [Bool.eq_iff_iff]
  simp [List.isEmpty_iff]
  omega
 refine zao ?_
 refine hit ?_
 have htL : ∀ h : Int → List AV,List.take L.length (List.map h L) = List.map h L:=fun h=>List.take_of_length_le (by simp)
 refine zaF ⟨70,[(4,ints L),(5,.B b)],[],1000⟩ rfl ?_ ?_
 ·by_cases hia : i = acc.length
  ·simp [hia]
   exact ⟨rfl,Le.go [] [50] rfl rfl (by simp [hp2,hia,fcd,htL] <;> exact wkB (by rw [Bool.eq_iff_iff]; simp; omega)) (by simp)⟩
  ·have hia2 : ¬ (i : Int) = acc.length:=by omega
   have hia3 : ((i : Int) == (acc.length : Int)) = false:=by simpa using hia2
   simp [hia3]
   exact ⟨rfl,Le.go [] [50] rfl rfl (by simp [hp2,hia,fcd,htL]) (by simp)⟩
 refine zag ?_
 exact zjs.mk (.inr rfl) L (fun _=>by simpa [zbx] using hah) (zan.out [] [] rfl (by simp) (by simp) (by simp) (by simp))
theorem zoM {o a r : List Int} (hn : o.Nodup) (h : za8 o a r = true) : o.Perm (a ++ r) :=
 zbV hn (fun x hx=>List.mem_append.2 (ziU h x hx)) (by rw [ziB h,List.length_append]; exact Nat.le_refl _)
theorem zkP {g : Gr} (hg : GrOk g) (p : Pol) : (ordL (zai g p.lv) p.seeds).length ≤ 64:=by
 have hsz:=hg.1.1
 have hsz2:=hg.1.2.1
 have hr : ∀ x ∈ ordL (zai g p.lv) p.seeds,0 ≤ x ∧ x < g.size:=fun x hx=>by have h:=zcP hx; exact h
 have:=za6 (b:=(List.range g.size.toNat).map fun i : Nat=>(i : Int)) (zbH (zai g p.lv) p.seeds) fun x hx=>by
  have:=hr x hx
  exact List.mem_map.2 ⟨x.toNat,List.mem_range.2 (by omega),by omega⟩
 rw [List.length_map,List.length_range] at this
 omega
set_option maxRecDepth 100000 in
set_option maxHeartbeats 4000000 in
open Classical in
theorem ziH (g : Gr) (p : Pol) (acc f : List Int) (R : List (Int × List Int)) (hg : GrOk g) (hp : zbb g.size p) (hs : p.seeds.length ≤ 64) (hN : g.size < 20) (ha : acc.length ≤ 1000) (hR : R.length ≤ 1000) (hf : f.length ≤ 1099511627776) (hsd : ∀ r ∈ R,r.2.length ≤ 140737488355328) :
  zaj Tryz.prog zev [eG g,eP p,eAcc acc f R] [] (.I (znU g p acc f R)) []:=by
 have hsz:=hg.1.1
 have hsz2:=hg.1.2.1
 have hel:=hg.edges_le
 have hgl:=hg.gone_le
 have hchk:=zbW g p (by omega) (by omega) (by omega) (by have:=hp.2.2.2.1; omega)
 rw [if_pos hg,if_pos hp] at hchk
 have hord:=ze8 g p hg hN (by omega)
 have hol:=zkP hg p
 unfold znU
 obtain ⟨o,ho⟩ : ∃ o,o = ordL (zai g p.lv) p.seeds:=⟨_,rfl⟩
 have hor : ∀ k ∈ o,0 ≤ k ∧ k < g.size:=fun k hk=>by rw [ho] at hk; have h:=zcP hk; exact h
 have hon : o.Nodup:=by rw [ho]; exact zbH _ _
 rw [← ho] at hord hol ⊢
 obtain ⟨L,hL,hpart⟩:=zjj o acc f R (by omega) ha hR
 refine zkO.acalls (Nat.le_of_ble_eq_true rfl) (Nat.le_of_ble_eq_true rfl) (Nat.le_refl _) ?_
 show awp _ 0 _ _ ⟨80,[(0,eG g),(1,eP p),(2,eAcc acc f R)],[],16⟩
 refine zab ⟨80,[(3,.pv (gC g)),(4,.pv (pC p)),(5,.pv [ints acc,ints f,.vs 2 false (zaM R)])],[],60⟩ rfl ?_ ?_
 ·simp
  exact Le.go [] [16,24,32] rfl rfl (by simp) (by simp)
 refine zaa ?_
 refine rx (s:=?s2) [3,4,5,7] [] [] rfl ?o2 ?q2
 case o2=>simp; refine zam hchk (by simp) ?_; simp; rfl
 refine rx (s:=?s3) [3,4,5,18] [] [] rfl ?o3 ?q3
 case o3=>simp; rfl
 refine zad _ rfl (fun h=>by cases h) fun _=>?_
 refine zae ?_
 refine zaF ⟨80,[(3,.pv (gC g)),(4,.pv (pC p)),(5,.pv [ints acc,ints f,.vs 2 false (zaM R)]),(8,ints L),(9,.B (za8 o acc (za5 R)))],[],300⟩ rfl ?_ ?_
 ·simp
  refine za3 hord (by simp) ?_
  simp
  refine zl5 [124] (by simp) hpart (by simp [fcd,zal]) ?_
  simp
  exact ⟨rfl,Le.go [] [] rfl rfl (by simp) (by simp)⟩
 refine zaa ?_
 refine zab ⟨80,[(3,.pv (gC g)),(4,.pv (pC p)),(5,.pv [ints acc,ints f,.vs 2 false (zaM R)]),(8,ints L),(29,.B (!za8 o acc (za5 R)))],[],400⟩ rfl ?_ ?_
 ·simp
  exact Le.go [] [] rfl rfl (by simp) (by simp)
 refine zad _ rfl (fun h8=>?_) fun h8=>?_
 ·have h8' : ¬ za8 o acc (za5 R) = true:=by simpa using h8
  rw [if_neg h8']
  refine rx (s:=?s9) [6] [] [] rfl ?o9 ?q9
  case o9=>simp; rfl
  refine zag ?_
  exact ⟨.inr rfl,zan.one (by simp)⟩
 have h8' : za8 o acc (za5 R) = true:=by simpa using h8
 rw [if_pos h8']
 have hL:=hL h8'
 have hsub:=ziE h8'
 have hperm:=(zoM hon h8').nodup_iff.1 hon
 have hkl : (za5 R).length = R.length:=by simp [za5]
 have hrk : ∀ k ∈ za5 R,0 ≤ k ∧ k < g.size:=fun k hk=>hor k (hsub.2.subset hk)
 have hak : ∀ k ∈ acc,0 ≤ k ∧ k < g.size:=fun k hk=>hor k (hsub.1.subset hk)
 have han : acc.Nodup:=(List.nodup_append.1 hperm).1
 have hnet:=zbu g p acc hg hp han hak hs
 have hnv : ∀ a : List Int,(∀ x ∈ a,0 ≤ x ∧ x < g.size) → zby ⟨netN g,netA g p (zaG a)⟩:=fun a h=>zgz hg hp (zhf (zd1 h)) hs (zeS a)
 have hval:=zgF (f:=f) (hnv acc hak) hf
 have hvv:=zgp (f:=f) (hnv acc hak) hf
 have hcut:=zih (g:=g) (p:=p) (b:=[]) h8'
 obtain ⟨A,hA⟩ : ∃ A,A = netA g p (zaG acc):=⟨_,rfl⟩
 rw [← hA] at hnet hval hvv
 rw [← hA]
 refine zae ?_
 refine zaa ?_
 refine zab ⟨80,[(3,.pv (gC g)),(4,.pv (pC p)),(5,.pv [ints acc,ints f,.vs 2 false (zaM R)]),(8,ints L),(10,.pv (nC ⟨netN g,A⟩))],[],500⟩ rfl ?_ ?_
 ·simp
  refine zam hnet (by simp) ?_
  simp
  exact Le.go [] [440] rfl rfl (by simp) (by simp)
 refine zaF ⟨80,[(3,.pv (gC g)),(4,.pv (pC p)),(5,.pv [ints acc,ints f,.vs 2 false (zaM R)]),(8,ints L),(49,.B (!decide (zaD (netN g) A f ∧ valF A f = acc.length)))],[],700⟩ rfl ?_ ?_
 ·by_cases hfo : zaD (netN g) A f
  ·rw [decide_eq_true hfo] at hval
   rw [if_pos hfo] at hvv
   simp
   refine zam hval (by simp) ?_
   simp
   refine zam hvv (by simp) ?_
   simp
   exact ⟨rfl,Le.go [] [] rfl rfl (by simp [hfo] <;> exact wkB (by rw [Bool.eq_iff_iff]; simp)) (by simp)⟩
  ·rw [decide_eq_false hfo] at hval
   simp
   refine zam hval (by simp) ?_
   simp
   exact ⟨rfl,Le.go [] [] rfl rfl (by simp [hfo]) (by simp)⟩
 refine zad _ rfl (fun h12=>?_) fun h12=>?_
 ·have h12' : ¬ (zaD (netN g) A f ∧ valF A f = acc.length):=fun h=>by rw [decide_eq_true h] at h12; cases h12
  rw [if_neg h12']
  refine rx (s:=?s13) [6] [] [] rfl ?o13 ?q13
  case o13=>simp; rfl
  refine zag ?_
  exact ⟨.inr rfl,zan.one (by simp)⟩
 have h12' : zaD (netN g) A f ∧ valF A f = acc.length:=by simpa using h12
 rw [if_pos h12']
 refine zae ?_
 refine zaa ?_
 refine rx (s:=?s14) [3,4,5,8,51,52,53] [] [] rfl ?o14 ?q14
 case o14=>simp; rfl
 refine zaf ?_
 refine zap (ι:=Nat) (fun i=>⟨80,[(3,.pv (gC g)),(4,.pv (pC p)),(5,.pv [ints acc,ints f,.vs 2 false (zaM R)]),(8,ints L),(51,.vs 2 false (zaM R)),(52,.I R.length),(53,.I i)],[],800⟩)
  (fun i=>i ≤ R.length ∧ ∀ j (h : j < R.length),j < i → zhS g p ([] ++ acc.take ((zbx 0 o acc (za5 R)).getD j 0 - 0)) R[j]) (fun i=>R.length - i) 0 ⟨Nat.zero_le _,fun j _ h=>absurd h (Nat.not_lt_zero _)⟩ (Le.go [] [] rfl rfl (by simp) (by simp)) ?_
 rintro i ⟨hi,hpre⟩
 refine rx (s:=?s15) [3,4,5,8,51,52,53,54] [] [] rfl ?o15 ?q15
 case o15=>simp; rfl
 refine zaa ?_
 refine zad _ rfl (fun h16=>?_) fun h16=>?_
 ·simp at h16
  have hw1 : IntKind.i64.wrap ((i : Int) + 1) = (i : Int) + 1:=w64 (by omega) (by omega)
  have hail : i < (zbx 0 o acc (za5 R)).length:=by rw [zft h8',hkl]; exact h16
  have hage:=zgx (List.getElem_mem hail)
  have hgd : (zbx 0 o acc (za5 R)).getD i 0 = (zbx 0 o acc (za5 R))[i]:=by rw [List.getD_eq_getElem?_getD,List.getElem?_eq_getElem hail,Option.getD_some]
  obtain ⟨m,hm⟩ : ∃ m,m = (zbx 0 o acc (za5 R))[i]:=⟨_,rfl⟩
  rw [← hm] at hage hgd
  have hLi : L[i]? = some (m : Int):=by rw [hL,List.getElem?_map,List.getElem?_eq_getElem hail,← hm]; rfl
  have hiL : i < L.length:=(List.getElem?_eq_some_iff.1 hLi).1
  have hLi' : L[i] = (m : Int):=by rw [List.getElem?_eq_getElem hiL] at hLi; exact Option.some.inj hLi
  have hgoal : zhS g p ([] ++ acc.take ((zbx 0 o acc (za5 R)).getD i 0 - 0)) R[i] ↔ zhS g p (acc.take m) R[i]:=by rw [hgd,Nat.sub_zero,List.nil_append]
  have hsdi:=hsd _ (List.getElem_mem h16)
  obtain ⟨r,hr⟩ : ∃ r,r = R[i]:=⟨_,rfl⟩
  have hrm : r.1 ∈ za5 R:=by rw [hr]; exact List.mem_map.2 ⟨_,List.getElem_mem h16,rfl⟩
  rw [← hr] at hgoal hsdi
  have htl : (acc.take m).length = m:=by rw [List.length_take]; omega
  have hks : ∀ x ∈ acc.take m ++ [r.1],0 ≤ x ∧ x < g.size:=fun x hx=>by
   rcases List.mem_append.1 hx with h | h
   ·exact hak x (List.mem_of_mem_take h)
   ·rw [List.mem_singleton] at h; subst h; exact hrk _ hrm
  have hkn : (acc.take m ++ [r.1]).Nodup:=List.nodup_append.2 ⟨han.sublist (List.take_sublist _ _),by simp,fun a ha b hb=>by
   rw [List.mem_singleton] at hb
   subst hb
   exact (List.nodup_append.1 hperm).2.2 a (List.mem_of_mem_take ha) _ hrm⟩
  have hwith:=zfB (acc.take m) r.1 (by omega)
  have hnet2:=zbu g p (acc.take m ++ [r.1]) hg hp hkn hks hs
  have hprv:=zkv ⟨netN g,netA g p (zaG (acc.take m ++ [r.1]))⟩ r.2 m (by have:=(hnv _ hks).2.2.1; simp only at this ⊢; omega) hsdi
  have hpd : decide (zek ⟨netN g,netA g p (zaG (acc.take m ++ [r.1]))⟩ r.2 m) = decide (zhS g p (acc.take m) r):=by
   unfold zhS
   rw [htl]
  rw [hpd] at hprv
  rw [htl] at hwith
  obtain ⟨W,hW⟩ : ∃ W,W = acc.take m ++ [r.1]:=⟨_,rfl⟩
  have hWl : W.length = m + 1:=by rw [hW,List.length_append,htl]; rfl
  rw [← hW] at hwith hnet2 hprv
  rw [← hWl] at hwith
  obtain ⟨A2,hA2⟩ : ∃ A2,A2 = netA g p (zaG W):=⟨_,rfl⟩
  rw [← hA2] at hnet2 hprv
  have hw2 : IntKind.i64.wrap ((W.length : Int) - 1) = (m : Int):=by rw [hWl,w64 (by omega) (by omega)]; omega
  have hma : m ≤ acc.length:=by omega
  refine zae ?_
  refine zaa ?_
  refine zaf ?_
  refine zab ⟨80,[(3,.pv (gC g)),(4,.pv (pC p)),(5,.pv [ints acc,ints f,.vs 2 false (zaM R)]),(8,ints L),(11,.I i),(12,.pv [.I r.1,ints r.2]),(51,.vs 2 false (zaM R)),(52,.I R.length),(53,.I i)],[],1000⟩ rfl ?_ ?_
  ·simp [h16,← hr]
   exact Le.go [] [832] rfl rfl (by simp) (by simp)
  refine zaF ⟨80,[(3,.pv (gC g)),(4,.pv (pC p)),(5,.pv [ints acc,ints f,.vs 2 false (zaM R)]),(8,ints L),(12,.pv [.I r.1,ints r.2]),(13,ints W),(51,.vs 2 false (zaM R)),(52,.I R.length),(53,.I i)],[],1200⟩ rfl ?_ ?_
  ·simp [hiL,hLi',hma]
   refine za3 hwith (by simp [List.map_take]) ?_
   simp
   exact ⟨rfl,Le.go [] [1072] rfl rfl (by simp [fcd,zal]) (by simp)⟩
  refine zaF ⟨80,[(3,.pv (gC g)),(4,.pv (pC p)),(5,.pv [ints acc,ints f,.vs 2 false (zaM R)]),(8,ints L),(51,.vs 2 false (zaM R)),(52,.I R.length),(53,.I i),(78,.B (!decide (zhS g p (acc.take m) r)))],[],1400⟩ rfl ?_ ?_
  ·simp
   refine zam hnet2 (by simp) ?_
   simp [hw2]
   refine zam hprv (by simp) ?_
   simp
   exact ⟨rfl,Le.go [] [] rfl rfl (by simp) (by simp)⟩
  refine zad _ rfl (fun h20=>?_) fun h20=>?_
  ·have h20' : ¬ zhS g p (acc.take m) r:=by simpa using h20
   have hno : ¬ zey g p [] o acc R:=fun h=>h20' (hgoal.1 (by rw [hr]; exact hcut.1 h i h16))
   rw [if_neg hno]
   refine rx (s:=?s21) [6] [] [] rfl ?o21 ?q21
   case o21=>simp; rfl
   refine zag ?_
   exact ⟨.inr rfl,zan.one (by simp)⟩
  have h20' : zhS g p (acc.take m) r:=by simpa using h20
  refine zae ?_
  refine zar rfl ?_
  simp
  refine ⟨i + 1,⟨h16,fun j hj hji=>?_⟩,by omega,Le.go [] [] rfl rfl (by simp [hw1]) (by simp)⟩
  rcases Nat.lt_succ_iff_lt_or_eq.1 hji with h | h
  ·exact hpre j hj h
  ·subst h
   have h5:=hgoal.2 h20'
   rw [hr] at h5
   exact h5
 simp at h16
 obtain rfl : i = R.length:=by omega
 have hyes : zey g p [] o acc R:=hcut.2 fun j hj=>hpre j hj hj
 rw [if_pos hyes]
 refine zao ?_
 refine hit ?_
 refine rx (s:=?s22) [6] [] [] rfl ?o22 ?q22
 case o22=>simp; rfl
 refine zag ?_
 exact ⟨.inr rfl,zan.one (by simp)⟩
variable {N : Nat} {A : List Ed} {f : List Int}
set_option maxRecDepth 100000
theorem zoX {N : Nat} {A : List Ed} (hn : zby ⟨N,A⟩) : zfa ⟨N,A⟩ (zel N A) ∧ cutV A (zel N A) = maxF N A:=by
 have hno:=zfk hn
 obtain ⟨f,hf,hm⟩:=zei hno
 obtain ⟨D,b,hb,hc⟩:=Bfs.grow hno N [0] _ (Bfs.start (f:=f) (by have:=hno.two; omega)) (by omega)
 have h1:=znf hno hf hm hb
 have hmf:=zfJ hf hm
 have he : inD D N = zel N A:=zn2 hno hf hm hb.tree hb.mem0 h1 hc
 have hgr:=(zia hno hf hb.mem0 h1 hc).1
 have hmD : ∀ x,x ∈ inD D N ↔ x ∈ D:=fun x=>by
  rw [zpD]
  exact ⟨fun h=>h.2,fun h=>⟨hb.rng x h,h⟩⟩
 rw [← he]
 refine ⟨⟨hn,zeP (zrw D N) fun k hk=>by have:=(zpD.1 hk).1; simp only; omega,(hmD 0).2 hb.mem0,fun h=>h1 ((hmD 1).1 h)⟩,?_⟩
 rw [zmc,hmf,hgr]
 congr 1
 funext x
 exact decide_eq_decide.2 (hmD x)
section
variable {g : Gr} {p : Pol}
theorem ziI : ∀ {o b a : List Int} {R : List (Int × List Int)} {k : Int},za8 o a (za5 R) = true → k ∉ o → zey g p b o a R → zey g p b (o ++ [k]) (a ++ [k]) R
 | [],b,a,R,k,h,_,_=>by
   simp [za8,za5] at h
   obtain ⟨rfl,rfl⟩:=h
   simp [zey]
 | x :: o,b,a,R,k,h,hk,hc=>by
   have hkx : k ≠ x:=fun e=>hk (by simp [e])
   have hko : k ∉ o:=fun e=>hk (List.mem_cons_of_mem _ e)
   simp only [za8] at h
   simp only [zey] at hc
   simp only [List.cons_append,zey]
   split at h
   ·rename_i h1
    rw [if_pos h1] at hc
    cases a with
    | nil=>cases h1
    | cons y a =>
      have : y = x:=by simpa using h1
      subst this
      simpa using ziI h hko hc
   ·rename_i h1
    rw [if_neg h1] at hc
    have h3 : (a ++ [k]).head? ≠ some x:=by
     cases a with
     | nil=>simpa using hkx
     | cons y a=>simpa using h1
    rw [if_neg h3]
    split at h
    ·cases R with
     | nil=>trivial
     | cons r R=>exact ⟨hc.1,ziI h hko hc.2⟩
    ·cases h
theorem zi3 : ∀ {o b a : List Int} {R : List (Int × List Int)} {r : Int × List Int},za8 o a (za5 R) = true → r.1 ∉ o → zhS g p (b ++ a) r → zey g p b o a R → zey g p b (o ++ [r.1]) a (R ++ [r])
 | [],b,a,R,r,h,_,hr,_=>by
   simp [za8,za5] at h
   obtain ⟨rfl,rfl⟩:=h
   rw [List.append_nil] at hr
   simp [zey,hr]
 | x :: o,b,a,R,r,h,hk,hr,hc=>by
   have hko : r.1 ∉ o:=fun e=>hk (List.mem_cons_of_mem _ e)
   simp only [za8] at h
   simp only [zey] at hc
   simp only [List.cons_append,zey]
   split at h
   ·rename_i h1
    rw [if_pos h1] at hc
    rw [if_pos h1]
    cases a with
    | nil=>cases h1
    | cons y a =>
      have : y = x:=by simpa using h1
      subst this
      exact zi3 h hko (by simpa using hr) hc
   ·rename_i h1
    rw [if_neg h1] at hc
    rw [if_neg h1]
    split at h
    ·rename_i h2
     cases R with
     | nil=>cases h2
     | cons q R=>exact ⟨hc.1,zi3 h hko hr hc.2⟩
    ·cases h
theorem zhb (hg : GrOk g) (hp : zbb g.size p) {a : List Int} (h : ∀ x ∈ a,x ∈ ordL (zai g p.lv) p.seeds) : zbf g p a:=by
 refine ⟨fun x hx=>?_,fun x hx=>?_⟩
 ·have h2:=zcP (h x hx)
  exact h2
 ·have h2:=(zgN (hg.level p.lv)).1 (h x hx)
  exact (zfj hp h2.1.1).2 ⟨h2.1.2,h2.2⟩
theorem zbf.join {a : List Int} (h : zbf g p a) : zbf g p (zaG a):=h.sub fun _ hx=>(zdt.1 hx).1
theorem zm7 (hg : GrOk g) (hp : zbb g.size p) (hs : p.seeds.length ≤ 64) : ∀ (n : Nat) (o : List Int),o.length = n → o.Nodup → zbf g p o →
  zaq g p (zaG (accR g p o)) ∧ za8 o (accR g p o) (za5 (refR g p o)) = true ∧ zey g p [] o (accR g p o) (refR g p o)
 | 0,o,h,_,_=>by
   obtain rfl:=List.eq_nil_of_length_eq_zero h
   exact ⟨zaq.nil hg hp,rfl,trivial⟩
 | n + 1,o,h,hon,hok=>by
   have hne : o ≠ []:=fun e=>by rw [e] at h; cases h
   obtain ⟨q,hq⟩ : ∃ q,q = o.dropLast:=⟨_,rfl⟩
   obtain ⟨k,hk⟩ : ∃ k,k = o.getLast hne:=⟨_,rfl⟩
   have ho : o = q ++ [k]:=by rw [hq,hk]; exact (List.dropLast_concat_getLast hne).symm
   have hql : q.length = n:=by rw [hq,List.length_dropLast,h]; rfl
   rw [ho] at hon hok ⊢
   have hqn : q.Nodup:=(List.nodup_append.1 hon).1
   have hkq : k ∉ q:=fun hm=>(List.nodup_append.1 hon).2.2 k hm k (by simp) rfl
   have hqok : zbf g p q:=hok.sub fun x hx=>List.mem_append_left _ hx
   obtain ⟨ih1,ih2,ih3⟩:=zm7 hg hp hs n q hql hqn hqok
   by_cases hc : zaq g p (zaG (accR g p q ++ [k]))
   ·rw [zbK hc,zen hc]
    exact ⟨hc,ziT ih2 hkq,ziI ih2 hkq ih3⟩
   ·rw [zdQ hc,zhr hc]
    have hsz2:=hg.1.2.1
    have hrng : ∀ x ∈ accR g p q ++ [k],0 ≤ x ∧ x < g.size:=fun x hx=>hok.rng x (by
     rcases List.mem_append.1 hx with h2 | h2
     ·exact List.mem_append_left _ (zcb h2)
     ·exact List.mem_append_right _ h2)
    have hnd : (accR g p q ++ [k]).Nodup:=List.nodup_append.2 ⟨hqn.sublist (zdG _ _ rfl),by simp,fun a ha b hb=>by
     rw [List.mem_singleton] at hb
     subst hb
     rintro rfl
     exact hkq (zcb ha)⟩
    have hjl:=zh3 hnd fun x hx=>by have:=hrng x hx; omega
    have hnv:=zgz hg hp (zhf (zd1 hrng)) hs (zeS (accR g p q ++ [k]))
    have hside:=zoX hnv
    have hfew:=zgl (p:=p) (ks:=zaG (accR g p q ++ [k])) hg hp (zhf (zd1 hrng))
    have hcut : zhS g p (accR g p q) (k,zel (netN g) (netA g p (zaG (accR g p q ++ [k])))):=by
     refine ⟨hside.1,?_⟩
     simp only
     rw [hside.2]
     have : maxF (netN g) (netA g p (zaG (accR g p q ++ [k]))) ≠ (zaG (accR g p q ++ [k])).length:=hc
     rw [hjl,List.length_append,List.length_singleton] at this hfew
     omega
    refine ⟨ih1,?_,?_⟩
    ·have:=ziq (r:=za5 (refR g p q)) ih2 hkq
     simpa [za5] using this
    ·exact zi3 (r:=(k,zel (netN g) (netA g p (zaG (accR g p q ++ [k]))))) ih2 hkq (by rw [List.nil_append]; exact hcut) ih3
theorem zfm (hg : GrOk g) (hp : zbb g.size p) : zbf g p (ordL (zai g p.lv) p.seeds):=zhb hg hp fun _ h=>h
theorem zmG (hg : GrOk g) (hp : zbb g.size p) (hs : p.seeds.length ≤ 64) {f : List Int} (hf : zmK g p (zaG (accR g p (ordL (zai g p.lv) p.seeds))) f) :
  znU g p (accR g p (ordL (zai g p.lv) p.seeds)) f (refR g p (ordL (zai g p.lv) p.seeds)) = 0:=by
 have hon:=zbH (zai g p.lv) p.seeds
 obtain ⟨h1,h2,h3⟩:=zm7 hg hp hs _ _ rfl hon (zfm hg hp)
 have hsz2:=hg.1.2.1
 have hjl:=zh3 (hon.sublist (zdG (g:=g) (p:=p) _ _ rfl)) fun x hx=>by
  have:=(zfm hg hp).rng x (zcb hx)
  omega
 unfold znU
 rw [if_pos h2,if_pos ⟨hf.ok,by rw [hf.val,← hjl]; exact h1⟩,if_pos h3]
end
def gF : Gr:=⟨3,[⟨0,1,1⟩,⟨0,2,1⟩],[]⟩
def pF : Pol:=⟨[0],[2,1],1⟩
theorem zjK : GrOk gF:=by
 refine ⟨⟨by decide +revert,by decide +revert,by decide +revert,fun i h=>by simp [gF] at h⟩,fun i h=>?_⟩
 have : i = 0 ∨ i = 1:=by simp [gF] at h; omega
 rcases this with rfl | rfl
 ·exact ⟨by unfold Fits; simp [gF],by decide +revert,by decide +revert,fun h=>by cases h⟩
 ·exact ⟨by unfold Fits; simp [gF],by decide +revert,by decide +revert,fun h=>by decide +revert⟩
theorem zlv : zbb gF.size pF:=by
 refine ⟨by decide +revert,fun i h=>?_,by decide +revert,by decide +revert,by decide +revert,by decide +revert,fun i h=>?_⟩
 ·obtain rfl : i = 0:=by simp [pF] at h; omega
  exact ⟨by decide +revert,by decide +revert,fun h=>by cases h⟩
 ·have : i = 0 ∨ i = 1:=by simp [pF] at h; omega
  rcases this with rfl | rfl
  ·exact ⟨by decide +revert,by decide +revert,fun h=>by cases h⟩
  ·exact ⟨by decide +revert,by decide +revert,fun h=>by decide +revert⟩
theorem zn9 : ordL (zai gF pF.lv) pF.seeds = [0,1,2]:=by decide
theorem zqZ : ∀ {ks : List Int},(∀ x ∈ ks,x = 0 ∨ x = 1 ∨ x = 2) → ∀ x ∈ ks,0 ≤ x ∧ x < gF.size:=fun h x hx=>by
 have : gF.size = 3:=rfl
 rcases h x hx with rfl | rfl | rfl <;> omega
theorem zqj {ks f : List Int} {A : List Ed} (hk : ∀ x ∈ ks,x = 0 ∨ x = 1 ∨ x = 2) (hA : netA gF pF ks = A) (hf : zaD 8 A f) (hv : valF A f = ks.length) : zaq gF pF ks:=by
 have hr:=zqZ hk
 have h1:=zgl (p:=pF) zjK zlv hr
 have h2:=zqK (zgO zjK zlv hr) (f:=f) (by rw [hA]; exact hf)
 rw [hA,hv] at h2
 rw [hA] at h1
 unfold zaq
 rw [hA]
 have h3 : netN gF = 8:=rfl
 rw [h3] at h1 h2 ⊢
 omega
theorem zr8 {N : Nat} {A : List Ed} {f : List Int} (h : (decide (f.length = A.length) && ((List.range A.length).all fun i=>decide (0 ≤ f.getD i 0 ∧ f.getD i 0 ≤ (arcD A i).v)) && ((List.range N).all fun x=>decide (x < 2 ∨ exF A f x = 0))) = true) : zaD N A f:=by
 simp only [Bool.and_eq_true,decide_eq_true_eq,List.all_eq_true,List.mem_range] at h
 exact zfo.2 ⟨h.1.1,fun i hi=>h.1.2 i hi,fun x h1 h2=>(h.2 x h2).resolve_left (by omega)⟩
theorem zsw : zaq gF pF [0]:=zqj (f:=[1,0,0,0,1,0,0]) (by simp) rfl (zr8 (by decide)) (by decide)
theorem zpJ : zaq gF pF [0,1]:=zqj (f:=[2,1,0,0,1,1,1,0]) (by simp) rfl (zr8 (by decide)) (by decide)
theorem ztt : zaq gF pF [0,2]:=zqj (f:=[2,1,0,0,1,1,0,1]) (by simp) rfl (zr8 (by decide)) (by decide)
theorem zln : ¬ zaq gF pF [0,1,2]:=fun h=>by
 have h1:=zpR (zgO zjK zlv (zqZ (ks:=[0,1,2]) (by simp))) (S:=fun x=>decide (x = 0)) (by decide) (by decide)
 have h2 : maxF (netN gF) (netA gF pF [0,1,2]) = 3:=h
 rw [h2] at h1
 revert h1
 decide
theorem ztK : accR gF pF [0,1,2] = [0,1]:=by
 have h0 : accR gF pF [0] = [0]:=zbK (o:=[]) (k:=0) zsw
 have h1 : accR gF pF [0,1] = [0,1]:=by
  have h:=zbK (g:=gF) (p:=pF) (o:=[0]) (k:=1) (by rw [h0]; exact zpJ)
  rw [h0] at h
  exact h
 have h:=zdQ (g:=gF) (p:=pF) (o:=[0,1]) (k:=2) (by rw [h1]; exact zln)
 rw [h1] at h
 exact h
theorem ztz : ∃ side,refR gF pF [0,1,2] = [(2,side)]:=by
 have h0 : accR gF pF [0] = [0]:=zbK (o:=[]) (k:=0) zsw
 have h1 : accR gF pF [0,1] = [0,1]:=by
  have h:=zbK (g:=gF) (p:=pF) (o:=[0]) (k:=1) (by rw [h0]; exact zpJ)
  rw [h0] at h
  exact h
 have r0 : refR gF pF [0] = []:=zen (o:=[]) (k:=0) zsw
 have r1 : refR gF pF [0,1] = []:=by
  have h:=zen (g:=gF) (p:=pF) (o:=[0]) (k:=1) (by rw [h0]; exact zpJ)
  rw [r0] at h
  exact h
 have h:=zhr (g:=gF) (p:=pF) (o:=[0,1]) (k:=2) (by rw [h1]; exact zln)
 rw [r1] at h
 exact ⟨_,h⟩
end Go.Proofs.YteiabadhhhckfaaGreat
