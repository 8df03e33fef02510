/- Texts of this claim,merged. -/
import Derived.Test.YthmaflecfppoiaaGreatRo13
import Derived.Test.YthmaflecfppoiaaGreatRo14
import Derived.Test.YthmaflecfppoiaaGreatRo9
import Derived.Test.YthmaflecfppoiaaGreatRo6
import Derived.Test.YthmaflecfppoiaaGreatRo10
import Derived.Test.YthmaflecfppoiaaGreatRo7
set_option linter.unusedSimpArgs false
set_option linter.unusedVariables false
set_option linter.unusedSectionVars false
namespace Go.Proofs.YthmaflecfppoiaaGreat
open Go
def zaY : List Int → List Int → List Int → Bool
 | [],a,r=>a.isEmpty && r.isEmpty
 | x :: o,a,r=>if a.head? = some x then zaY o a.tail r else if r.head? = some x then zaY o a r.tail else false
def zbH : Nat → List Int → List Int → List Int → List Nat
 | _,[],_,_=>[]
 | c,x :: o,a,r=>if a.head? = some x then zbH (c + 1) o a.tail r else if r.head? = some x then c :: zbH c o a r.tail else []
theorem zgb : ∀ {o a r : List Int},zaY o a r = true → a.Sublist o ∧ r.Sublist o
 | [],a,r,h=>by
   simp [zaY] at h
   rw [h.1,h.2]
   exact ⟨List.nil_sublist _,List.nil_sublist _⟩
 | x :: o,a,r,h=>by
   simp only [zaY] at h
   split at h
   ·rename_i h1
    obtain ⟨h2,h3⟩:=zgb h
    cases a with
    | nil=>cases h1
    | cons y a =>
      have : y = x:=by simpa using h1
      subst this
      exact ⟨h2.cons_cons _,h3.cons _⟩
   ·split at h
    ·rename_i h1
     obtain ⟨h2,h3⟩:=zgb h
     cases r with
     | nil=>cases h1
     | cons y r =>
       have : y = x:=by simpa using h1
       subst this
       exact ⟨h2.cons _,h3.cons_cons _⟩
    ·cases h
theorem zkl : ∀ {o a r : List Int},zaY o a r = true → ∀ x ∈ o,x ∈ a ∨ x ∈ r
 | [],a,r,_,x,hx=>by simp at hx
 | x :: o,a,r,h,y,hy=>by
   simp only [zaY] at h
   split at h
   ·rename_i h1
    cases a with
    | nil=>cases h1
    | cons z a =>
      have : z = x:=by simpa using h1
      subst this
      rcases List.mem_cons.1 hy with rfl | hy
      ·exact .inl (by simp)
      ·rcases zkl h y hy with h2 | h2
       ·exact .inl (List.mem_cons_of_mem _ h2)
       ·exact .inr h2
   ·split at h
    ·rename_i h1
     cases r with
     | nil=>cases h1
     | cons z r =>
       have : z = x:=by simpa using h1
       subst this
       rcases List.mem_cons.1 hy with rfl | hy
       ·exact .inr (by simp)
       ·rcases zkl h y hy with h2 | h2
        ·exact .inl h2
        ·exact .inr (List.mem_cons_of_mem _ h2)
    ·cases h
theorem zjC : ∀ {o a r : List Int},zaY o a r = true → o.length = a.length + r.length
 | [],a,r,h=>by
   simp [zaY] at h
   rw [h.1,h.2]
   rfl
 | x :: o,a,r,h=>by
   simp only [zaY] at h
   split at h
   ·rename_i h1
    cases a with
    | nil=>cases h1
    | cons z a =>
      have:=zjC h
      simp at this ⊢
      omega
   ·split at h
    ·rename_i h1
     cases r with
     | nil=>cases h1
     | cons z r =>
       have:=zjC h
       simp at this ⊢
       omega
    ·cases h
theorem zgh : ∀ {o a r : List Int} {c : Nat},zaY o a r = true → (zbH c o a r).length = r.length
 | [],a,r,c,h=>by
   simp [zaY] at h
   rw [h.2]
   rfl
 | x :: o,a,r,c,h=>by
   simp only [zaY] at h
   simp only [zbH]
   split at h
   ·rename_i h1
    rw [if_pos h1]
    exact zgh h
   ·rename_i h1
    rw [if_neg h1]
    split at h
    ·rename_i h2
     rw [if_pos h2,List.length_cons,zgh h]
     cases r with
     | nil=>cases h2
     | cons y r=>rfl
    ·cases h
theorem zhL : ∀ {o a r : List Int} {c m : Nat},m ∈ zbH c o a r → c ≤ m ∧ m ≤ c + a.length
 | [],a,r,c,m,h=>by simp [zbH] at h
 | x :: o,a,r,c,m,h=>by
   simp only [zbH] at h
   split at h
   ·rename_i h1
    have:=zhL h
    cases a with
    | nil=>cases h1
    | cons y a=>simp at this ⊢; omega
   ·split at h
    ·rcases List.mem_cons.1 h with rfl | h
     ·omega
     ·exact zhL h
    ·simp at h
theorem zjO : ∀ {o a r : List Int} {k : Int},zaY o a r = true → k ∉ o → zaY (o ++ [k]) (a ++ [k]) r = true
 | [],a,r,k,h,_=>by
   simp [zaY] at h
   rw [h.1,h.2]
   simp [zaY]
 | x :: o,a,r,k,h,hk=>by
   have hkx : k ≠ x:=fun e=>hk (by simp [e])
   have hko : k ∉ o:=fun e=>hk (List.mem_cons_of_mem _ e)
   simp only [zaY] at h
   simp only [List.cons_append,zaY]
   split at h
   ·rename_i h1
    cases a with
    | nil=>cases h1
    | cons y a =>
      have : y = x:=by simpa using h1
      subst this
      simpa using zjO h hko
   ·rename_i h1
    split at h
    ·rename_i h2
     have h3 : (a ++ [k]).head? ≠ some x:=by
      cases a with
      | nil=>simpa using hkx
      | cons y a=>simpa using h1
     rw [if_neg h3,if_pos h2]
     exact zjO h hko
    ·cases h
theorem zky : ∀ {o a r : List Int} {k : Int},zaY o a r = true → k ∉ o → zaY (o ++ [k]) a (r ++ [k]) = true
 | [],a,r,k,h,_=>by
   simp [zaY] at h
   rw [h.1,h.2]
   simp [zaY]
 | x :: o,a,r,k,h,hk=>by
   have hkx : k ≠ x:=fun e=>hk (by simp [e])
   have hko : k ∉ o:=fun e=>hk (List.mem_cons_of_mem _ e)
   simp only [zaY] at h
   simp only [List.cons_append,zaY]
   split at h
   ·rename_i h1
    rw [if_pos h1]
    exact zky h hko
   ·rename_i h1
    rw [if_neg h1]
    split at h
    ·rename_i h2
     cases r with
     | nil=>cases h2
     | cons y r =>
       have : y = x:=by simpa using h2
       subst this
       simpa using zky h hko
    ·cases h
def zga (g : Gr) (p : Pol) (b : List Int) (r : Int × List Int) : Prop:=zcV ⟨netN g,netA g p (zaz (b ++ [r.1]))⟩ r.2 b.length
def zc2 (g : Gr) (p : Pol) : List Int → List Int → List Int → List (Int × List Int) → Prop
 | _,[],_,_=>True
 | b,x :: o,a,R=>if a.head? = some x then zc2 g p (b ++ [x]) o a.tail R else match R with
   | []=>True
   | r :: R=>zga g p b r ∧ zc2 g p b o a R
def zaS (R : List (Int × List Int)) : List Int:=R.map (·.1)
theorem zjv {g : Gr} {p : Pol} : ∀ {o b a : List Int} {R : List (Int × List Int)},zaY o a (zaS R) = true →
  (zc2 g p b o a R ↔ ∀ i (h : i < R.length),zga g p (b ++ a.take ((zbH b.length o a (zaS R)).getD i 0 - b.length)) R[i])
 | [],b,a,R,h=>by
   simp [zaY,zaS] at h
   obtain ⟨_,rfl⟩:=h
   simp [zc2]
 | x :: o,b,a,R,h=>by
   simp only [zaY] at h
   simp only [zc2,zbH]
   split at h
   ·rename_i h1
    rw [if_pos h1,if_pos h1]
    have ih:=zjv (g:=g) (p:=p) (b:=b ++ [x]) h
    rw [List.length_append,List.length_singleton] at ih
    rw [ih]
    cases a with
    | nil=>cases h1
    | cons y a =>
      have : y = x:=by simpa using h1
      subst this
      simp only [List.tail_cons] at h ih ⊢
      have key : ∀ i (hi : i < R.length),b ++ [y] ++ a.take ((zbH (b.length + 1) o a (zaS R)).getD i 0 - (b.length + 1)) = b ++ (y :: a).take ((zbH (b.length + 1) o a (zaS R)).getD i 0 - b.length):=fun i hi=>by
       have hl : i < (zbH (b.length + 1) o a (zaS R)).length:=by
        rw [zgh h,zaS,List.length_map]
        exact hi
       have hm:=zhL (List.getElem_mem hl)
       have e : (zbH (b.length + 1) o a (zaS R)).getD i 0 = (zbH (b.length + 1) o a (zaS R))[i]:=by rw [List.getD_eq_getElem?_getD,List.getElem?_eq_getElem hl,Option.getD_some]
       rw [e]
       obtain ⟨q,hq⟩ : ∃ q,(zbH (b.length + 1) o a (zaS R))[i] = b.length + 1 + q:=⟨_,(Nat.add_sub_cancel' hm.1).symm⟩
       rw [hq,show b.length + 1 + q - (b.length + 1) = q by omega,show b.length + 1 + q - b.length = q + 1 by omega,List.take_succ_cons,List.append_assoc]
       rfl
      constructor
      ·intro h2 i hi
       rw [← key i hi]
       exact h2 i hi
      ·intro h2 i hi
       have:=h2 i hi
       rw [← key i hi] at this
       exact this
   ·rename_i h1
    rw [if_neg h1,if_neg h1]
    split at h
    ·rename_i h2
     cases R with
     | nil=>cases h2
     | cons r R =>
       rw [if_pos h2]
       have ih:=zjv (g:=g) (p:=p) (b:=b) (R:=R) h
       simp only
       rw [ih]
       constructor
       ·rintro ⟨h3,h4⟩ i hi
        cases i with
        | zero=>simpa using h3
        | succ i=>exact h4 i (by simpa using hi)
       ·intro h3
        refine ⟨by
         have h4:=h3 0 (Nat.zero_lt_succ _)
         simp only [List.getD_cons_zero,Nat.sub_self,List.take_zero,List.append_nil] at h4
         exact h4,fun i hi=>h3 (i + 1) (by simpa using hi)⟩
    ·cases h
open Classical in
noncomputable def zhj (g : Gr) (p : Pol) (acc flow : List Int) (R : List (Int × List Int)) : Int :=
 if zaY (ordL (zal g p.lv) p.seeds) acc (zaS R) = true then
  if zaB (netN g) (netA g p (zaz acc)) flow ∧ valF (netA g p (zaz acc)) flow = acc.length then
   if zc2 g p [] (ordL (zal g p.lv) p.seeds) acc R then 0 else 18
  else 17
 else 1
theorem zqS {N : Nat} {A : List Ed} (hn : za8 ⟨N,A⟩) : zcX ⟨N,A⟩ (ze9 N A) ∧ cutV A (ze9 N A) = maxF N A:=by
 have hno:=zgk hn
 obtain ⟨f,hf,hm⟩:=zeZ hno
 obtain ⟨D,b,hb,hc⟩:=Bfs.grow hno N [0] _ (Bfs.start (f:=f) (by have:=hno.two; omega)) (by omega)
 have h1:=zpj hno hf hm hb
 have hmf:=zig hf hm
 have he : inD D N = ze9 N A:=zp8 hno hf hm hb.tree hb.mem0 h1 hc
 have hgr:=(zjo hno hf hb.mem0 h1 hc).1
 have hmD : ∀ x,x ∈ inD D N ↔ x ∈ D:=fun x=>by
  rw [zsH]
  exact ⟨fun h=>h.2,fun h=>⟨hb.rng x h,h⟩⟩
 rw [← he]
 refine ⟨⟨hn,ziI (ztn D N) fun k hk=>by have:=(zsH.1 hk).1; simp only; omega,(hmD 0).2 hb.mem0,fun h=>h1 ((hmD 1).1 h)⟩,?_⟩
 rw [zn6,hmf,hgr]
 congr 1
 funext x
 exact decide_eq_decide.2 (hmD x)
section
variable {g : Gr} {p : Pol}
theorem zkk : ∀ {o b a : List Int} {R : List (Int × List Int)} {k : Int},zaY o a (zaS R) = true → k ∉ o → zc2 g p b o a R → zc2 g p b (o ++ [k]) (a ++ [k]) R
 | [],b,a,R,k,h,_,_=>by
   simp [zaY,zaS] at h
   obtain ⟨rfl,rfl⟩:=h
   simp [zc2]
 | x :: o,b,a,R,k,h,hk,hc=>by
   have hkx : k ≠ x:=fun e=>hk (by simp [e])
   have hko : k ∉ o:=fun e=>hk (List.mem_cons_of_mem _ e)
   simp only [zaY] at h
   simp only [zc2] at hc
   simp only [List.cons_append,zc2]
   split at h
   ·rename_i h1
    rw [if_pos h1] at hc
    cases a with
    | nil=>cases h1
    | cons y a =>
      have : y = x:=by simpa using h1
      subst this
      simpa using zkk h hko hc
   ·rename_i h1
    rw [if_neg h1] at hc
    have h3 : (a ++ [k]).head? ≠ some x:=by
     cases a with
     | nil=>simpa using hkx
     | cons y a=>simpa using h1
    rw [if_neg h3]
    split at h
    ·cases R with
     | nil=>trivial
     | cons r R=>exact ⟨hc.1,zkk h hko hc.2⟩
    ·cases h
theorem zki : ∀ {o b a : List Int} {R : List (Int × List Int)} {r : Int × List Int},zaY o a (zaS R) = true → r.1 ∉ o → zga g p (b ++ a) r → zc2 g p b o a R → zc2 g p b (o ++ [r.1]) a (R ++ [r])
 | [],b,a,R,r,h,_,hr,_=>by
   simp [zaY,zaS] at h
   obtain ⟨rfl,rfl⟩:=h
   rw [List.append_nil] at hr
   simp [zc2,hr]
 | x :: o,b,a,R,r,h,hk,hr,hc=>by
   have hko : r.1 ∉ o:=fun e=>hk (List.mem_cons_of_mem _ e)
   simp only [zaY] at h
   simp only [zc2] at hc
   simp only [List.cons_append,zc2]
   split at h
   ·rename_i h1
    rw [if_pos h1] at hc
    rw [if_pos h1]
    cases a with
    | nil=>cases h1
    | cons y a =>
      have : y = x:=by simpa using h1
      subst this
      exact zki h hko (by simpa using hr) hc
   ·rename_i h1
    rw [if_neg h1] at hc
    rw [if_neg h1]
    split at h
    ·rename_i h2
     cases R with
     | nil=>cases h2
     | cons q R=>exact ⟨hc.1,zki h hko hr hc.2⟩
    ·cases h
theorem zqW (hg : GrOk g) (hp : za6 g.size p) {a : List Int} (h : ∀ x ∈ a,x ∈ ordL (zal g p.lv) p.seeds) : zcg g p a:=by
 refine ⟨fun x hx=>?_,fun x hx=>?_⟩
 ·have h2:=zcJ (h x hx)
  exact h2
 ·have h2:=(zmL (hg.level p.lv)).1 (h x hx)
  exact (zid hp h2.1.1).2 ⟨h2.1.2,h2.2⟩
theorem zcg.join {a : List Int} (h : zcg g p a) : zcg g p (zaz a):=h.sub fun _ hx=>(zdv.1 hx).1
theorem zrN (hg : GrOk g) (hp : za6 g.size p) (hs : p.seeds.length ≤ 64) : ∀ (n : Nat) (o : List Int),o.length = n → o.Nodup → zcg g p o →
  zat g p (zaz (accR g p o)) ∧ zaY o (accR g p o) (zaS (refR g p o)) = true ∧ zc2 g p [] o (accR g p o) (refR g p o)
 | 0,o,h,_,_=>by
   obtain rfl:=List.eq_nil_of_length_eq_zero h
   exact ⟨zat.nil hg hp,rfl,trivial⟩
 | n + 1,o,h,hon,hok=>by
   have hne : o ≠ []:=fun e=>by rw [e] at h; cases h
   obtain ⟨q,hq⟩ : ∃ q,q = o.dropLast:=⟨_,rfl⟩
   obtain ⟨k,hk⟩ : ∃ k,k = o.getLast hne:=⟨_,rfl⟩
   have ho : o = q ++ [k]:=by rw [hq,hk]; exact (List.dropLast_concat_getLast hne).symm
   have hql : q.length = n:=by rw [hq,List.length_dropLast,h]; rfl
   rw [ho] at hon hok ⊢
   have hqn : q.Nodup:=(List.nodup_append.1 hon).1
   have hkq : k ∉ q:=fun hm=>(List.nodup_append.1 hon).2.2 k hm k (by simp) rfl
   have hqok : zcg g p q:=hok.sub fun x hx=>List.mem_append_left _ hx
   obtain ⟨ih1,ih2,ih3⟩:=zrN hg hp hs n q hql hqn hqok
   by_cases hc : zat g p (zaz (accR g p q ++ [k]))
   ·rw [zbY hc,zhx hc]
    exact ⟨hc,zjO ih2 hkq,zkk ih2 hkq ih3⟩
   ·rw [zh7 hc,zjT hc]
    have hsz2:=hg.1.2.1
    have hrng : ∀ x ∈ accR g p q ++ [k],0 ≤ x ∧ x < g.size:=fun x hx=>hok.rng x (by
     rcases List.mem_append.1 hx with h2 | h2
     ·exact List.mem_append_left _ (zet h2)
     ·exact List.mem_append_right _ h2)
    have hnd : (accR g p q ++ [k]).Nodup:=List.nodup_append.2 ⟨hqn.sublist (zep _ _ rfl),by simp,fun a ha b hb=>by
     rw [List.mem_singleton] at hb
     subst hb
     rintro rfl
     exact hkq (zet ha)⟩
    have hjl:=zge hnd fun x hx=>by have:=hrng x hx; omega
    have hnv:=zhi hg hp (zia (zdx hrng)) hs (zcq (accR g p q ++ [k]))
    have hside:=zqS hnv
    have hfew:=zhy (p:=p) (ks:=zaz (accR g p q ++ [k])) hg hp (zia (zdx hrng))
    have hcut : zga g p (accR g p q) (k,ze9 (netN g) (netA g p (zaz (accR g p q ++ [k])))):=by
     refine ⟨hside.1,?_⟩
     simp only
     rw [hside.2]
     have : maxF (netN g) (netA g p (zaz (accR g p q ++ [k]))) ≠ (zaz (accR g p q ++ [k])).length:=hc
     rw [hjl,List.length_append,List.length_singleton] at this hfew
     omega
    refine ⟨ih1,?_,?_⟩
    ·have:=zky (r:=zaS (refR g p q)) ih2 hkq
     simpa [zaS] using this
    ·exact zki (r:=(k,ze9 (netN g) (netA g p (zaz (accR g p q ++ [k]))))) ih2 hkq (by rw [List.nil_append]; exact hcut) ih3
theorem zlK (hg : GrOk g) (hp : za6 g.size p) : zcg g p (ordL (zal g p.lv) p.seeds):=zqW hg hp fun _ h=>h
theorem znp (hg : GrOk g) (hp : za6 g.size p) (hs : p.seeds.length ≤ 64) {f : List Int} (hf : zfp g p (zaz (accR g p (ordL (zal g p.lv) p.seeds))) f) :
  zhj g p (accR g p (ordL (zal g p.lv) p.seeds)) f (refR g p (ordL (zal g p.lv) p.seeds)) = 0:=by
 have hon:=zbv (zal g p.lv) p.seeds
 obtain ⟨h1,h2,h3⟩:=zrN hg hp hs _ _ rfl hon (zlK hg hp)
 have hsz2:=hg.1.2.1
 have hjl:=zge (hon.sublist (zep (g:=g) (p:=p) _ _ rfl)) fun x hx=>by
  have:=(zlK hg hp).rng x (zet hx)
  omega
 unfold zhj
 rw [if_pos h2,if_pos ⟨hf.ok,by rw [hf.val,← hjl]; exact h1⟩,if_pos h3]
end
def gF : Gr:=⟨3,[⟨0,1,1⟩,⟨0,2,1⟩],[]⟩
theorem zmZ : GrOk gF:=by
 refine ⟨⟨by decide +revert,by decide +revert,by decide +revert,fun i h=>by simp [gF] at h⟩,fun i h=>?_⟩
 have : i = 0 ∨ i = 1:=by simp [gF] at h; omega
 rcases this with rfl | rfl
 ·exact ⟨by unfold Fits; simp [gF],by decide +revert,by decide +revert,fun h=>by cases h⟩
 ·exact ⟨by unfold Fits; simp [gF],by decide +revert,by decide +revert,fun h=>by decide +revert⟩
theorem zpm {N : Nat} {A : List Ed} {f : List Int} (h : (decide (f.length = A.length) && ((List.range A.length).all fun i=>decide (0 ≤ f.getD i 0 ∧ f.getD i 0 ≤ (arcD A i).v)) && ((List.range N).all fun x=>decide (x < 2 ∨ exF A f x = 0))) = true) : zaB N A f:=by
 simp only [Bool.and_eq_true,decide_eq_true_eq,List.all_eq_true,List.mem_range] at h
 exact zcE.2 ⟨h.1.1,fun i hi=>h.1.2 i hi,fun x h1 h2=>(h.2 x h2).resolve_left (by omega)⟩
variable {g : Gr} {p : Pol}
theorem h64 (hg : GrOk g) {a : List Int} (h : ∀ x ∈ a,0 ≤ x ∧ x < g.size) : ∀ x ∈ a,0 ≤ x ∧ x < 64:=fun x hx=>by
 have:=h x hx
 have:=hg.1.2.1
 omega
variable {g : Gr} {p : Pol}
variable {g : Gr} {p : Pol}
theorem ForR.uniq {key : Int} {x y : Expl} (hg : GrOk g) (hx : ForR g p (ordL (zal g p.lv) p.seeds) key x) (hy : ForR g p (ordL (zal g p.lv) p.seeds) key y) :
  x.key = y.key ∧ x.acc = y.acc ∧ x.before = y.before ∧ x.side = y.side ∧ x.paths.length = y.paths.length:=by
 obtain ⟨hx1,hx2,i,hi,hik,hib⟩:=hx.at_ hg
 obtain ⟨hy1,hy2,j,hj,hjk,hjb⟩:=hy.at_ hg
 have hij : i = j:=(List.getElem_inj (zbv (zal g p.lv) p.seeds)).1 (hik.trans hjk.symm)
 subst hij
 have hb : x.before = y.before:=hib.trans hjb.symm
 refine ⟨hx1.trans hy1.symm,?_⟩
 by_cases hacc : key ∈ accR g p (ordL (zal g p.lv) p.seeds)
 ·obtain ⟨x1,x2,W,⟨f,g',_,_,hl,_⟩,x3⟩:=hx.yes hacc
  obtain ⟨y1,y2,V,⟨f',g'',_,_,hl',_⟩,y3⟩:=hy.yes hacc
  refine ⟨x1.trans y1.symm,hb,x2.trans y2.symm,?_⟩
  rw [x3,y3,List.length_map,List.length_map]
  rw [hb] at hl
  omega
 ·obtain ⟨x1,x2,R,hR,hs⟩:=hx.no hacc
  obtain ⟨y1,y2,R',hR',hs'⟩:=hy.no hacc
  refine ⟨x1.trans y1.symm,hb,?_,by rw [x2,y2]⟩
  obtain ⟨a,ha,hak,hn⟩:=hR.right _ hs
  obtain ⟨b,hb',hbk,hn'⟩:=hR'.right _ hs'
  simp only at hak hbk hn hn'
  have h1 : a = i:=(List.getElem_inj (zbv (zal g p.lv) p.seeds)).1 (hak.trans hik.symm)
  have h2 : b = i:=(List.getElem_inj (zbv (zal g p.lv) p.seeds)).1 (hbk.trans hik.symm)
  subst h1
  subst h2
  rw [hn.eq,hn'.eq]
def g1 : Gr:=⟨1,[],[]⟩
def p1 : Pol:=⟨[0],[2],1⟩
section
variable {P : Program} {np id : Nat} {h : Nat → Option Ent} {K : AV → List Nat → List (Nat × Option Ent) → Prop} {f : FuncId} {first capt args args' : List AV} {res : AV}
end
variable {g : Gr} {p : Pol}
theorem zeJ {l : List Int} {i : Nat} (h : i < l.length) : (l.drop i).head? = some l[i]:=by rw [List.head?_drop,List.getElem?_eq_getElem h]
theorem zcp {l : List Int} {i : Nat} (h : ¬ i < l.length) : (l.drop i).head? = none:=by rw [List.head?_drop,List.getElem?_eq_none (by omega)]
structure PtSt where
 n : Nat
 i : Nat
 k : Nat
 L : List Int
set_option maxRecDepth 100000 in
set_option maxHeartbeats 4000000 in
theorem zjP (o acc f : List Int) (R : List (Int × List Int)) (hol : o.length ≤ 100) (ha : acc.length ≤ 1000) (hR : R.length ≤ 1000) :
  ∃ L : List Int,(zaY o acc (zaS R) = true → L = (zbH 0 o acc (zaS R)).map fun (n : Nat)=>(n : Int)) ∧ zai Tryz.prog zeE [ints o,eAcc acc f R] [] (.tup [ints L,.B (zaY o acc (zaS R))]) []:=by
 refine zkW.acallsX (args:=[ints o,eAcc acc f R]) (hs:=[]) (fun L=>.tup [ints L,.B (zaY o acc (zaS R))]) (fun _=>[]) (fun L : List Int=>zaY o acc (zaS R) = true → L = (zbH 0 o acc (zaS R)).map fun (n : Nat)=>(n : Int)) (nbz rfl) (nbz rfl) (fun _=>Nat.le_refl _) ?_
 show awp _ 0 _ _ ⟨70,[(0,ints o),(1,eAcc acc f R)],[],16⟩
 have hkl : (zaS R).length = R.length:=by simp [zaS]
 obtain ⟨b,hb⟩ : ∃ b,b = zaY o acc (zaS R):=⟨_,rfl⟩
 rw [← hb]
 refine zab ⟨70,[(0,ints o),(3,.pv [ints acc,ints f,.vs 2 false (zaN R)])],[],40⟩ rfl ?_ ?_
 ·simp
  exact LeH [] [16]
 refine zab ⟨70,[(0,ints o),(3,.pv [ints acc,ints f,.vs 2 false (zaN R)]),(6,.rs 50 0 0)],[(50,some ⟨1,[],0⟩)],100⟩ rfl ?_ ?_
 ·simp
  exact Le.lst [] [] [(50,1)] rfl (by simp) (by simp) (by simp) (by simp) (by simp) (by simp) (by simp) (by simp [Up]) (by simp)
 refine zab ⟨70,[(0,ints o),(3,.pv [ints acc,ints f,.vs 2 false (zaN R)]),(6,.rs 50 0 0),(7,.I 0),(8,.I 0)],[(50,some ⟨1,[],0⟩)],200⟩ rfl ?_ ?_
 ·simp
  exact LeH [(50,50)] []
 refine zaa ?_
 refine zab ⟨70,[(3,.pv [ints acc,ints f,.vs 2 false (zaN R)]),(6,.rs 50 0 0),(7,.I 0),(8,.I 0),(11,ints o),(12,.I o.length),(13,.I 0)],[(50,some ⟨1,[],0⟩)],300⟩ rfl ?_ ?_
 ·simp
  exact LeH [(50,50)] []
 refine zaf ?_
 refine zao (ι:=PtSt) (fun s=>⟨70,[(3,.pv [ints acc,ints f,.vs 2 false (zaN R)]),(6,.rs 50 0 s.L.length),(7,.I s.i),(8,.I s.k),(11,ints o),(12,.I o.length),(13,.I s.n)],[(50,some ⟨1,zah s.L,0⟩)],300⟩)
  (fun s=>s.n ≤ o.length ∧ s.i ≤ acc.length ∧ s.k ≤ R.length ∧ s.L.length ≤ s.n ∧ b = zaY (o.drop s.n) (acc.drop s.i) ((zaS R).drop s.k) ∧ s.L ++ (zbH s.i (o.drop s.n) (acc.drop s.i) ((zaS R).drop s.k)).map (fun (n : Nat)=>(n : Int)) = (zbH 0 o acc (zaS R)).map (fun (n : Nat)=>(n : Int)))
  (fun s=>o.length - s.n) ⟨0,0,0,[]⟩ ⟨Nat.zero_le _,Nat.zero_le _,Nat.zero_le _,Nat.le_refl _,by simpa using hb,by simp⟩ (LeH [(50,50)] []) ?_
 rintro ⟨n,i,k,L⟩ ⟨hn,hi,hk,hL,hp,hah⟩
 simp only at hn hi hk hL hp hah
 refine zab ⟨70,[(3,.pv [ints acc,ints f,.vs 2 false (zaN R)]),(6,.rs 50 0 L.length),(7,.I i),(8,.I k),(11,ints o),(12,.I o.length),(13,.I n),(14,.B (decide (n < o.length)))],[(50,some ⟨1,zah L,0⟩)],400⟩ rfl ?_ ?_
 ·simp
  exact LeI [(50,50)] []
 refine zaa ?_
 refine zac _ rfl (fun h6=>?_) fun h6=>?_
 ·simp at h6
  have hw1 : IntKind.i64.wrap ((n : Int) + 1) = (n : Int) + 1:=w64 (by omega) (by omega)
  have hw2 : IntKind.i64.wrap ((i : Int) + 1) = (i : Int) + 1:=w64 (by omega) (by omega)
  have hw3 : IntKind.i64.wrap ((k : Int) + 1) = (k : Int) + 1:=w64 (by omega) (by omega)
  obtain ⟨x,hx⟩ : ∃ x,x = o[n]:=⟨_,rfl⟩
  have hod : o.drop n = x :: o.drop (n + 1):=by rw [List.drop_eq_getElem_cons h6,hx]
  rw [hod] at hp hah
  simp only [zaY,zbH,List.tail_drop] at hp hah
  refine zae ?_
  refine zaa ?_
  refine zaf ?_
  refine zab ⟨70,[(3,.pv [ints acc,ints f,.vs 2 false (zaN R)]),(6,.rs 50 0 L.length),(7,.I i),(8,.I k),(10,.I x),(11,ints o),(12,.I o.length),(13,.I n)],[(50,some ⟨1,zah L,0⟩)],500⟩ rfl ?_ ?_
  ·simp [h6,← hx]
   exact LeI [(50,50)] []
  refine zaf ?_
  refine zab ⟨70,[(3,.pv [ints acc,ints f,.vs 2 false (zaN R)]),(6,.rs 50 0 L.length),(7,.I i),(8,.I k),(10,.I x),(11,ints o),(12,.I o.length),(13,.I n),(17,.B (decide ((acc.drop i).head? = some x)))],[(50,some ⟨1,zah L,0⟩)],700⟩ rfl ?_ ?_
  ·by_cases hia : i < acc.length
   ·have hh:=zeJ hia
    simp [hia]
    exact Le.go [(50,50)] [] rfl rfl (by simp <;> exact wkB (by rw [Bool.eq_iff_iff]; simp [hia])) (by simp [fcd])
   ·have hh:=zcp hia
    have hai : acc.length ≤ i:=by omega
    simp [hia]
    exact Le.go [(50,50)] [] rfl rfl (by simp [hia]) (by simp [fcd])
  refine zac _ rfl (fun h9=>?_) fun h9=>?_
  ·rw [decide_eq_true_eq] at h9
   rw [if_pos h9] at hp hah
   have hia : i < acc.length:=Decidable.byContradiction fun h=>by rw [zcp h] at h9; cases h9
   refine zav rfl ?_
   simp
   refine zav rfl ?_
   simp
   exact ⟨⟨n + 1,i + 1,k,L⟩,⟨by simp only; omega,by simp only; omega,hk,by simp only; omega,hp,hah⟩,by simp only; omega,Le.go [(50,50)] [] rfl rfl (by simp [hw1,hw2]) (by simp [fcd])⟩
  rw [decide_eq_false_iff_not] at h9
  rw [if_neg h9] at hp hah
  refine zab ⟨70,[(3,.pv [ints acc,ints f,.vs 2 false (zaN R)]),(6,.rs 50 0 L.length),(7,.I i),(8,.I k),(11,ints o),(12,.I o.length),(13,.I n),(34,.B (decide (((zaS R).drop k).head? = some x)))],[(50,some ⟨1,zah L,0⟩)],900⟩ rfl ?_ ?_
  ·by_cases hkR : k < R.length
   ·have hh : ((zaS R).drop k).head? = some R[k].1:=by rw [List.head?_drop,zaS,List.getElem?_map,List.getElem?_eq_getElem hkR]; rfl
    have hh2 : (zaS R)[k]? = some R[k].1:=by rw [← List.head?_drop]; exact hh
    simp [hkR]
    exact Le.go [(50,50)] [] rfl rfl (by simp [hh2] <;> exact wkB (by rw [Bool.eq_iff_iff]; simp)) (by simp [fcd])
   ·have hh : ((zaS R).drop k).head? = none:=by rw [List.head?_drop,List.getElem?_eq_none (by omega)]
    have hh2 : (zaS R)[k]? = none:=by rw [← List.head?_drop]; exact hh
    simp [hkR]
    exact Le.go [(50,50)] [] rfl rfl (by simp [hh2,hkR]) (by simp [fcd])
  refine zac _ rfl (fun h11=>?_) fun h11=>?_
  ·rw [decide_eq_true_eq] at h11
   rw [if_pos h11] at hp hah
   have hkR : k < R.length:=Decidable.byContradiction fun h=>by rw [List.head?_drop,List.getElem?_eq_none (by omega)] at h11; cases h11
   refine zab ⟨70,[(3,.pv [ints acc,ints f,.vs 2 false (zaN R)]),(6,.rs 50 0 L.length),(7,.I i),(8,.I (k + 1 : Nat)),(11,ints o),(12,.I o.length),(13,.I n)],[(50,some ⟨1,zah L,0⟩)],1000⟩ rfl ?_ ?_
   ·simp
    exact Le.go [(50,50)] [] rfl rfl (by simp [hw3]) (by simp [fcd])
   have htL : ∀ h : Int → List AV,List.take L.length (List.map h L) = List.map h L:=fun h=>List.take_of_length_le (by simp)
   refine zav rfl ?_
   simp [htL]
   refine ⟨by omega,by omega,?_⟩
   refine zav rfl ?_
   simp
   exact ⟨⟨n + 1,i,k + 1,L ++ [(i : Int)]⟩,⟨by simp only; omega,hi,hkR,by simp; omega,hp,by simpa using hah⟩,by simp only; omega,Le.go [(1024,50)] [] rfl rfl (by simp [hw1]) (by simp [fcd])⟩
  rw [decide_eq_false_iff_not] at h11
  rw [if_neg h11] at hp
  subst hp
  refine zab ⟨70,[(4,ints []),(5,.B false)],[],1000⟩ rfl ?_ ?_
  ·simp
   exact Le.go [] [] rfl rfl (by simp; exact Wk.nil _ _) (by simp)
  refine zag ?_
  exact zij.mk (.inr rfl) [] (fun h=>by cases h) (zak.out [] [] rfl (by simp) (by simp) (by simp; exact .refl _) (by simp))
 simp at h6
 obtain rfl : n = o.length:=by omega
 rw [List.drop_length] at hp hah
 have hp2 : b = (decide (i = acc.length) && decide (k = R.length)):=by
  rw [hp]
  simp only [zaY]
  rw [Bool.eq_iff_iff]
  simp [List.isEmpty_iff]
  omega
 refine zan ?_
 refine hit ?_
 have htL : ∀ h : Int → List AV,List.take L.length (List.map h L) = List.map h L:=fun h=>List.take_of_length_le (by simp)
 refine zap ⟨70,[(4,ints L),(5,.B b)],[],1000⟩ rfl ?_ ?_
 ·by_cases hia : i = acc.length
  ·simp [hia]
   exact ⟨rfl,Le.go [] [50] rfl rfl (by simp [hp2,hia,fcd,htL] <;> exact wkB (by rw [Bool.eq_iff_iff]; simp; omega)) (by simp)⟩
  ·have hia2 : ¬ (i : Int) = acc.length:=by omega
   have hia3 : ((i : Int) == (acc.length : Int)) = false:=by simpa using hia2
   simp [hia3]
   exact ⟨rfl,Le.go [] [50] rfl rfl (by simp [hp2,hia,fcd,htL]) (by simp)⟩
 refine zag ?_
 exact zij.mk (.inr rfl) L (fun _=>by simpa [zbH] using hah) (zak.out [] [] rfl (by simp) (by simp) (by simp) (by simp))
theorem zlt {o a r : List Int} (hn : o.Nodup) (h : zaY o a r = true) : o.Perm (a ++ r) :=
 zcc hn (fun x hx=>List.mem_append.2 (zkl h x hx)) (by rw [zjC h,List.length_append]; exact Nat.le_refl _)
theorem zm3 {g : Gr} (hg : GrOk g) (p : Pol) : (ordL (zal g p.lv) p.seeds).length ≤ 64:=by
 have hsz:=hg.1.1
 have hsz2:=hg.1.2.1
 have hr : ∀ x ∈ ordL (zal g p.lv) p.seeds,0 ≤ x ∧ x < g.size:=fun x hx=>by have h:=zcJ hx; exact h
 have:=zbz (b:=(List.range g.size.toNat).map fun i : Nat=>(i : Int)) (zbv (zal g p.lv) p.seeds) fun x hx=>by
  have:=hr x hx
  exact List.mem_map.2 ⟨x.toNat,List.mem_range.2 (by omega),by omega⟩
 rw [List.length_map,List.length_range] at this
 omega
set_option maxRecDepth 100000 in
set_option maxHeartbeats 4000000 in
open Classical in
theorem ziX (g : Gr) (p : Pol) (acc f : List Int) (R : List (Int × List Int)) (hg : GrOk g) (hp : za6 g.size p) (hs : p.seeds.length ≤ 64) (hN : g.size < 20) (ha : acc.length ≤ 1000) (hR : R.length ≤ 1000) (hf : f.length ≤ 1099511627776) (hsd : ∀ r ∈ R,r.2.length ≤ 9223372036854775807) :
  zai Tryz.prog zbd [eG g,eP p,eAcc acc f R] [] (.I (zhj g p acc f R)) []:=by
 have hsz:=hg.1.1
 have hsz2:=hg.1.2.1
 have hel:=hg.edges_le
 have hgl:=hg.gone_le
 have hchk:=zc8 g p (by omega) (by omega) (by omega) (by have:=hp.2.2.2.1; omega)
 rw [if_pos hg,if_pos hp] at hchk
 have hord:=zfR g p hg hN (by omega)
 have hol:=zm3 hg p
 unfold zhj
 obtain ⟨o,ho⟩ : ∃ o,o = ordL (zal g p.lv) p.seeds:=⟨_,rfl⟩
 have hor : ∀ k ∈ o,0 ≤ k ∧ k < g.size:=fun k hk=>by rw [ho] at hk; have h:=zcJ hk; exact h
 have hon : o.Nodup:=by rw [ho]; exact zbv _ _
 rw [← ho] at hord hol ⊢
 obtain ⟨L,hL,hpart⟩:=zjP o acc f R (by omega) ha hR
 refine zmX.acalls (nbz rfl) (nbz rfl) (Nat.le_refl _) ?_
 show awp _ 0 _ _ ⟨80,[(0,eG g),(1,eP p),(2,eAcc acc f R)],[],16⟩
 refine zab ⟨80,[(3,.pv (gC g)),(4,.pv (pC p)),(5,.pv [ints acc,ints f,.vs 2 false (zaN R)])],[],60⟩ rfl ?_ ?_
 ·simp
  exact LeH [] [16,24,32]
 refine zaa ?_
 refine rx (s:=?s2) [3,4,5,7] [] [] rfl ?o2 ?q2
 case o2=>simp; refine zaj hchk (by simp) ?_; simp; rfl
 refine rx (s:=?s3) [3,4,5,18] [] [] rfl ?o3 ?q3
 case o3=>simp; rfl
 refine zac _ rfl (fun h=>by cases h) fun _=>?_
 refine zae ?_
 refine zap ⟨80,[(3,.pv (gC g)),(4,.pv (pC p)),(5,.pv [ints acc,ints f,.vs 2 false (zaN R)]),(8,ints L),(9,.B (zaY o acc (zaS R)))],[],300⟩ rfl ?_ ?_
 ·simp
  refine zbc hord (by simp) ?_
  simp
  refine zly [124] (by simp) hpart (by simp [fcd,zaq]) ?_
  simp
  exact ⟨rfl,LeH [] []⟩
 refine zaa ?_
 refine zab ⟨80,[(3,.pv (gC g)),(4,.pv (pC p)),(5,.pv [ints acc,ints f,.vs 2 false (zaN R)]),(8,ints L),(29,.B (!zaY o acc (zaS R)))],[],400⟩ rfl ?_ ?_
 ·simp
  exact LeH [] []
 refine zac _ rfl (fun h8=>?_) fun h8=>?_
 ·have h8' : ¬ zaY o acc (zaS R) = true:=by simpa using h8
  rw [if_neg h8']
  refine rx (s:=?s9) [6] [] [] rfl ?o9 ?q9
  case o9=>simp; rfl
  refine zag ?_
  exact ⟨.inr rfl,zak.one (by simp)⟩
 have h8' : zaY o acc (zaS R) = true:=by simpa using h8
 rw [if_pos h8']
 have hL:=hL h8'
 have hsub:=zgb h8'
 have hperm:=(zlt hon h8').nodup_iff.1 hon
 have hkl : (zaS R).length = R.length:=by simp [zaS]
 have hrk : ∀ k ∈ zaS R,0 ≤ k ∧ k < g.size:=fun k hk=>hor k (hsub.2.subset hk)
 have hak : ∀ k ∈ acc,0 ≤ k ∧ k < g.size:=fun k hk=>hor k (hsub.1.subset hk)
 have han : acc.Nodup:=(List.nodup_append.1 hperm).1
 have hnet:=zcd g p acc hg hp han hak hs
 have hnv : ∀ a : List Int,(∀ x ∈ a,0 ≤ x ∧ x < g.size) → za8 ⟨netN g,netA g p (zaz a)⟩:=fun a h=>zhi hg hp (zia (zdx h)) hs (zcq a)
 have hval:=zha (f:=f) (hnv acc hak) hf
 have hvv:=zg7 (f:=f) (hnv acc hak) hf
 have hcut:=zjv (g:=g) (p:=p) (b:=[]) h8'
 obtain ⟨A,hA⟩ : ∃ A,A = netA g p (zaz acc):=⟨_,rfl⟩
 rw [← hA] at hnet hval hvv
 rw [← hA]
 refine zae ?_
 refine zaa ?_
 refine zab ⟨80,[(3,.pv (gC g)),(4,.pv (pC p)),(5,.pv [ints acc,ints f,.vs 2 false (zaN R)]),(8,ints L),(10,.pv (nC ⟨netN g,A⟩))],[],500⟩ rfl ?_ ?_
 ·simp
  refine zaj hnet (by simp) ?_
  simp
  exact LeH [] [440]
 refine zap ⟨80,[(3,.pv (gC g)),(4,.pv (pC p)),(5,.pv [ints acc,ints f,.vs 2 false (zaN R)]),(8,ints L),(49,.B (!decide (zaB (netN g) A f ∧ valF A f = acc.length)))],[],700⟩ rfl ?_ ?_
 ·by_cases hfo : zaB (netN g) A f
  ·rw [decide_eq_true hfo] at hval
   rw [if_pos hfo] at hvv
   simp
   refine zaj hval (by simp) ?_
   simp
   refine zaj hvv (by simp) ?_
   simp
   exact ⟨rfl,Le.go [] [] rfl rfl (by simp [hfo] <;> exact wkB (by rw [Bool.eq_iff_iff]; simp)) (by simp)⟩
  ·rw [decide_eq_false hfo] at hval
   simp
   refine zaj hval (by simp) ?_
   simp
   exact ⟨rfl,Le.go [] [] rfl rfl (by simp [hfo]) (by simp)⟩
 refine zac _ rfl (fun h12=>?_) fun h12=>?_
 ·have h12' : ¬ (zaB (netN g) A f ∧ valF A f = acc.length):=fun h=>by rw [decide_eq_true h] at h12; cases h12
  rw [if_neg h12']
  refine rx (s:=?s13) [6] [] [] rfl ?o13 ?q13
  case o13=>simp; rfl
  refine zag ?_
  exact ⟨.inr rfl,zak.one (by simp)⟩
 have h12' : zaB (netN g) A f ∧ valF A f = acc.length:=by simpa using h12
 rw [if_pos h12']
 refine zae ?_
 refine zaa ?_
 refine rx (s:=?s14) [3,4,5,8,51,52,53] [] [] rfl ?o14 ?q14
 case o14=>simp; rfl
 refine zaf ?_
 refine zao (ι:=Nat) (fun i=>⟨80,[(3,.pv (gC g)),(4,.pv (pC p)),(5,.pv [ints acc,ints f,.vs 2 false (zaN R)]),(8,ints L),(51,.vs 2 false (zaN R)),(52,.I R.length),(53,.I i)],[],800⟩)
  (fun i=>i ≤ R.length ∧ ∀ j (h : j < R.length),j < i → zga g p ([] ++ acc.take ((zbH 0 o acc (zaS R)).getD j 0 - 0)) R[j]) (fun i=>R.length - i) 0 ⟨Nat.zero_le _,fun j _ h=>absurd h (Nat.not_lt_zero _)⟩ (LeH [] []) ?_
 rintro i ⟨hi,hpre⟩
 refine rx (s:=?s15) [3,4,5,8,51,52,53,54] [] [] rfl ?o15 ?q15
 case o15=>simp; rfl
 refine zaa ?_
 refine zac _ rfl (fun h16=>?_) fun h16=>?_
 ·simp at h16
  have hw1 : IntKind.i64.wrap ((i : Int) + 1) = (i : Int) + 1:=w64 (by omega) (by omega)
  have hail : i < (zbH 0 o acc (zaS R)).length:=by rw [zgh h8',hkl]; exact h16
  have hage:=zhL (List.getElem_mem hail)
  have hgd : (zbH 0 o acc (zaS R)).getD i 0 = (zbH 0 o acc (zaS R))[i]:=by rw [List.getD_eq_getElem?_getD,List.getElem?_eq_getElem hail,Option.getD_some]
  obtain ⟨m,hm⟩ : ∃ m,m = (zbH 0 o acc (zaS R))[i]:=⟨_,rfl⟩
  rw [← hm] at hage hgd
  have hLi : L[i]? = some (m : Int):=by rw [hL,List.getElem?_map,List.getElem?_eq_getElem hail,← hm]; rfl
  have hiL : i < L.length:=(List.getElem?_eq_some_iff.1 hLi).1
  have hLi' : L[i] = (m : Int):=by rw [List.getElem?_eq_getElem hiL] at hLi; exact Option.some.inj hLi
  have hgoal : zga g p ([] ++ acc.take ((zbH 0 o acc (zaS R)).getD i 0 - 0)) R[i] ↔ zga g p (acc.take m) R[i]:=by rw [hgd,Nat.sub_zero,List.nil_append]
  have hsdi:=hsd _ (List.getElem_mem h16)
  obtain ⟨r,hr⟩ : ∃ r,r = R[i]:=⟨_,rfl⟩
  have hrm : r.1 ∈ zaS R:=by rw [hr]; exact List.mem_map.2 ⟨_,List.getElem_mem h16,rfl⟩
  rw [← hr] at hgoal hsdi
  have htl : (acc.take m).length = m:=by rw [List.length_take]; omega
  have hks : ∀ x ∈ acc.take m ++ [r.1],0 ≤ x ∧ x < g.size:=fun x hx=>by
   rcases List.mem_append.1 hx with h | h
   ·exact hak x (List.mem_of_mem_take h)
   ·rw [List.mem_singleton] at h; subst h; exact hrk _ hrm
  have hkn : (acc.take m ++ [r.1]).Nodup:=List.nodup_append.2 ⟨han.sublist (List.take_sublist _ _),by simp,fun a ha b hb=>by
   rw [List.mem_singleton] at hb
   subst hb
   exact (List.nodup_append.1 hperm).2.2 a (List.mem_of_mem_take ha) _ hrm⟩
  have hwith:=zgy (acc.take m) r.1 (by omega)
  have hnet2:=zcd g p (acc.take m ++ [r.1]) hg hp hkn hks hs
  have hprv:=zkL ⟨netN g,netA g p (zaz (acc.take m ++ [r.1]))⟩ r.2 m (by have:=(hnv _ hks).2.2.1; simp only at this ⊢; omega) hsdi
  have hpd : decide (zcV ⟨netN g,netA g p (zaz (acc.take m ++ [r.1]))⟩ r.2 m) = decide (zga g p (acc.take m) r):=by
   unfold zga
   rw [htl]
  rw [hpd] at hprv
  rw [htl] at hwith
  obtain ⟨W,hW⟩ : ∃ W,W = acc.take m ++ [r.1]:=⟨_,rfl⟩
  have hWl : W.length = m + 1:=by rw [hW,List.length_append,htl]; rfl
  rw [← hW] at hwith hnet2 hprv
  rw [← hWl] at hwith
  obtain ⟨A2,hA2⟩ : ∃ A2,A2 = netA g p (zaz W):=⟨_,rfl⟩
  rw [← hA2] at hnet2 hprv
  have hw2 : IntKind.i64.wrap ((W.length : Int) - 1) = (m : Int):=by rw [hWl,w64 (by omega) (by omega)]; omega
  have hma : m ≤ acc.length:=by omega
  refine zae ?_
  refine zaa ?_
  refine zaf ?_
  refine zab ⟨80,[(3,.pv (gC g)),(4,.pv (pC p)),(5,.pv [ints acc,ints f,.vs 2 false (zaN R)]),(8,ints L),(11,.I i),(12,.pv [.I r.1,ints r.2]),(51,.vs 2 false (zaN R)),(52,.I R.length),(53,.I i)],[],1000⟩ rfl ?_ ?_
  ·simp [h16,← hr]
   exact LeH [] [832]
  refine zap ⟨80,[(3,.pv (gC g)),(4,.pv (pC p)),(5,.pv [ints acc,ints f,.vs 2 false (zaN R)]),(8,ints L),(12,.pv [.I r.1,ints r.2]),(13,ints W),(51,.vs 2 false (zaN R)),(52,.I R.length),(53,.I i)],[],1200⟩ rfl ?_ ?_
  ·simp [hiL,hLi',hma]
   refine zbc hwith (by simp [List.map_take]) ?_
   simp
   exact ⟨rfl,Le.go [] [1072] rfl rfl (by simp [fcd,zaq]) (by simp)⟩
  refine zap ⟨80,[(3,.pv (gC g)),(4,.pv (pC p)),(5,.pv [ints acc,ints f,.vs 2 false (zaN R)]),(8,ints L),(51,.vs 2 false (zaN R)),(52,.I R.length),(53,.I i),(78,.B (!decide (zga g p (acc.take m) r)))],[],1400⟩ rfl ?_ ?_
  ·simp
   refine zaj hnet2 (by simp) ?_
   simp [hw2]
   refine zaj hprv (by simp) ?_
   simp
   exact ⟨rfl,LeH [] []⟩
  refine zac _ rfl (fun h20=>?_) fun h20=>?_
  ·have h20' : ¬ zga g p (acc.take m) r:=by simpa using h20
   have hno : ¬ zc2 g p [] o acc R:=fun h=>h20' (hgoal.1 (by rw [hr]; exact hcut.1 h i h16))
   rw [if_neg hno]
   refine rx (s:=?s21) [6] [] [] rfl ?o21 ?q21
   case o21=>simp; rfl
   refine zag ?_
   exact ⟨.inr rfl,zak.one (by simp)⟩
  have h20' : zga g p (acc.take m) r:=by simpa using h20
  refine zae ?_
  refine zav rfl ?_
  simp
  refine ⟨i + 1,⟨h16,fun j hj hji=>?_⟩,by omega,Le.go [] [] rfl rfl (by simp [hw1]) (by simp)⟩
  rcases Nat.lt_succ_iff_lt_or_eq.1 hji with h | h
  ·exact hpre j hj h
  ·subst h
   have h5:=hgoal.2 h20'
   rw [hr] at h5
   exact h5
 simp at h16
 obtain rfl : i = R.length:=by omega
 have hyes : zc2 g p [] o acc R:=hcut.2 fun j hj=>hpre j hj hj
 rw [if_pos hyes]
 refine zan ?_
 refine hit ?_
 refine rx (s:=?s22) [6] [] [] rfl ?o22 ?q22
 case o22=>simp; rfl
 refine zag ?_
 exact ⟨.inr rfl,zak.one (by simp)⟩
open Classical in
theorem zjy (g : Gr) (p : Pol) (acc f : List Int) (R : List (Int × List Int)) (hg : GrOk g) (hp : za6 g.size p) (hs : p.seeds.length ≤ 64) (hN : g.size < 20) (ha : acc.length ≤ 1000) (hR : R.length ≤ 1000) (hf : f.length ≤ 1099511627776) (hsd : ∀ r ∈ R,r.2.length ≤ 140737488355328) : zai Tryz.prog zbd [eG g,eP p,eAcc acc f R] [] (.I (zhj g p acc f R)) [] :=
 ziX g p acc f R hg hp hs hN ha hR hf (fun r hr=>by have:=hsd r hr; omega)
variable {N : Nat} {A : List Ed} {f : List Int}
theorem zql (hl : f.length = A.length) (x : Int) : ∀ i,i ≤ A.length → (∀ j (h : j < f.length),j < i → 0 ≤ f[j] ∧ f[j] ≤ 1048576) → -(1048576 * (i : Int)) ≤ netG A f i x ∧ netG A f i x ≤ 1048576 * (i : Int)
 | 0,_,_=>by rw [zf5]; omega
 | i + 1,h,hb=>by
   have ih:=zql hl x i (by omega) fun j h1 h2=>hb j h1 (by omega)
   have h2:=hb i (by omega) (by omega)
   rw [zfF (by omega) (by omega)]
   split <;> split <;> omega
set_option maxRecDepth 100000 in
set_option maxHeartbeats 4000000 in
open Classical in
theorem zgD (hn : za8 ⟨N,A⟩) (hfl0 : f.length ≤ 1099511627776) : zai Tryz.prog zds [eN ⟨N,A⟩,ints f] [] (.B (decide (zaB N A f))) []:=by
 refine ziF.acalls (nbz rfl) (nbz rfl) (Nat.le_refl _) ?_
 show awp _ 0 _ _ ⟨87,[(0,eN ⟨N,A⟩),(1,ints f)],[],16⟩
 have hchk:=zeC ⟨N,A⟩ (by have:=hn.2.2.1; simp only at this ⊢; omega)
 rw [if_pos hn] at hchk
 obtain ⟨hn0,hn1,hal,hav⟩:=hn
 simp only at hn0 hn1 hal hav
 refine rx (s:=?s1) [1,2] [] [16] rfl ?o1 ?q1
 case o1=>simp; rfl
 refine zaa ?_
 refine zab ⟨87,[(1,ints f),(2,.pv (nC ⟨N,A⟩)),(18,.B (!decide (f.length = A.length)))],[],120⟩ rfl ?_ ?_
 ·simp
  refine zaj hchk (by simp) ?_
  simp
  exact Le.snap [] rfl rfl (by simp <;> exact wkB (by rw [Bool.eq_iff_iff]; simp <;> omega))
 refine zac _ rfl (fun h3=>?_) fun h3=>?_
 ·have h3' : ¬ f.length = A.length:=by simpa using h3
  have hno : ¬ zaB N A f:=fun h=>h3' (zcE.1 h).1
  refine rx (s:=?s3) [4] [] [] rfl ?o3 ?q3
  case o3=>simp; rfl
  refine zag ?_
  exact ⟨.inr rfl,zak.one (by simp [hno])⟩
 have hfl : f.length = A.length:=by simpa using h3
 refine zae ?_
 refine zab ⟨87,[(1,ints f),(2,.pv (nC ⟨N,A⟩)),(5,.rs 136 0 N)],[(136,some ⟨1,zah (rowR N (netG A f 0)),0⟩)],144⟩ rfl ?_ ?_
 ·simp
  refine ⟨by omega,by omega,?_⟩
  have : rowR N (netG A f 0) = List.replicate N 0:=by
   unfold rowR
   simp only [zf5]
   simp [List.map_const']
  rw [this]
  exact LeH [(136,136)] []
 refine zaa ?_
 refine zab ⟨87,[(1,ints f),(2,.pv (nC ⟨N,A⟩)),(5,.rs 136 0 N),(6,.I 0)],[(136,some ⟨1,zah (rowR N (netG A f 0)),0⟩)],160⟩ rfl ?_ ?_
 ·simp
  exact LeI [(136,136)] []
 refine zaf ?_
 refine zao (ι:=Nat) (fun i=>⟨87,[(1,ints f),(2,.pv (nC ⟨N,A⟩)),(5,.rs 136 0 N),(6,.I i)],[(136,some ⟨1,zah (rowR N (netG A f i)),0⟩)],160⟩) (fun i=>i ≤ A.length ∧ ∀ k,k < i → zkI A f k) (fun i=>A.length - i) 0 ⟨Nat.zero_le _,fun k h=>absurd h (Nat.not_lt_zero _)⟩ (LeI [(136,136)] []) ?_
 rintro i ⟨hi,hp⟩
 have hfb : ∀ j (h : j < f.length),j < i → 0 ≤ f[j] ∧ f[j] ≤ 1048576:=fun j hj hji=>by
  have h1:=hp j hji
  unfold zkI at h1
  have e1 : f.getD j 0 = f[j]:=by rw [List.getD_eq_getElem?_getD,List.getElem?_eq_getElem hj,Option.getD_some]
  have e2 : arcD A j = A[j]'(by omega):=by unfold arcD; rw [List.getD_eq_getElem?_getD,List.getElem?_eq_getElem (by omega),Option.getD_some]
  rw [e1,e2] at h1
  have h2:=(hav _ (List.getElem_mem (show j < A.length by omega))).2.2.2.2.2.2.2.2
  omega
 have hbd:=fun x=>zql hfl x i hi hfb
 refine zaa ?_
 refine zab ⟨87,[(1,ints f),(2,.pv (nC ⟨N,A⟩)),(5,.rs 136 0 N),(6,.I i),(25,.B (decide (i < f.length)))],[(136,some ⟨1,zah (rowR N (netG A f i)),0⟩)],192⟩ rfl ?_ ?_
 ·simp
  exact LeI [(136,136)] []
 refine zac _ rfl (fun h8=>?_) fun h8=>?_
 ·simp at h8
  have hiA : i < A.length:=by omega
  have hw1 : IntKind.i64.wrap ((i : Int) + 1) = (i : Int) + 1:=w64 (by omega) (by omega)
  have heo:=hav _ (List.getElem_mem hiA)
  have hsucc:=zfF hiA h8
  have hbe:=hbd
  obtain ⟨e,he⟩ : ∃ e,e = A[i]:=⟨_,rfl⟩
  obtain ⟨w,hw⟩ : ∃ w,w = f[i]:=⟨_,rfl⟩
  rw [← he,← hw] at hsucc
  rw [← he] at heo
  obtain ⟨e1,e2,e3,e4,e5,e6,e7,e8,b3⟩:=heo
  have hfa : zkI A f i ↔ 0 ≤ w ∧ w ≤ e.v:=by
   unfold zkI arcD
   rw [List.getD_eq_getElem?_getD,List.getElem?_eq_getElem h8,Option.getD_some,List.getD_eq_getElem?_getD,List.getElem?_eq_getElem hiA,Option.getD_some,he,hw]
  have hg1 : A[i]? = some e:=by rw [List.getElem?_eq_getElem hiA,he]
  have hg2 : f[i]? = some w:=by rw [List.getElem?_eq_getElem h8,hw]
  have h2N : e.f < (N : Int) ∧ e.t < (N : Int):=by omega
  have h1:=hbe e.f
  have h2:=hbe e.t
  have hr1:=zcR (N:=N) (g:=netG A f i) (x:=e.f) e1 (by omega)
  have hs1:=zgg (N:=N) (g:=netG A f i) (x:=e.f) (v:=netG A f i e.f - w) e1 (by omega)
  obtain ⟨g1,hg1d⟩ : ∃ g1 : Int → Int,g1 = fun y=>if y = e.f then netG A f i e.f - w else netG A f i y:=⟨_,rfl⟩
  rw [← hg1d] at hs1
  have hg1t : g1 e.t = netG A f i e.t:=by rw [hg1d]; exact if_neg fun h=>e5 h.symm
  have hr2:=zcR (N:=N) (g:=g1) (x:=e.t) e3 (by omega)
  rw [hg1t] at hr2
  have hs2:=zgg (N:=N) (g:=g1) (x:=e.t) (v:=netG A f i e.t + w) e3 (by omega)
  have hend : (rowR N fun y=>if y = e.t then netG A f i e.t + w else g1 y) = rowR N (netG A f (i + 1)):=zgj fun x=>by
   rw [hsucc,hg1d]
   simp only
   by_cases h3 : x = e.t
   ·rw [h3,if_pos rfl,if_pos rfl,if_neg e5]
    omega
   ·by_cases h4 : x = e.f
    ·rw [if_neg h3,if_pos h4,if_neg fun h=>h3 h.symm,if_pos h4.symm,h4]
     omega
    ·rw [if_neg h3,if_neg h4,if_neg fun h=>h3 h.symm,if_neg fun h=>h4 h.symm]
     omega
  rw [hend] at hs2
  refine zae ?_
  refine zaL (ι:=Unit) (fun _=>⟨87,[(1,ints f),(2,.pv (nC ⟨N,A⟩)),(5,.rs 136 0 N),(6,.I i)],[(136,some ⟨1,zah (rowR N (netG A f (i + 1))),0⟩)],1000⟩) (fun _=>zkI A f i) ?_ fun _ hfit=>?_
  ·refine zaf ?_
   refine zaa ?_
   refine zap ⟨87,[(1,ints f),(2,.pv (nC ⟨N,A⟩)),(5,.rs 136 0 N),(6,.I i),(45,.B (!decide (0 ≤ w ∧ w ≤ e.v)))],[(136,some ⟨1,zah (rowR N (netG A f i)),0⟩)],500⟩ rfl ?_ ?_
   ·simp [hg1,hg2,hiA,h8,← he,← hw]
    refine zci (fun hb=>?_) (fun hb=>?_) <;> (try rw [hb]) <;> (try simp at hb) <;> simp [hb,hg1,hg2,hiA,h8,← he,← hw]
    ·exact ⟨rfl,Le.go [(136,136)] [] rfl rfl (by simp <;> exact wkB (by rw [Bool.eq_iff_iff]; simp <;> omega)) (by simp [fcd])⟩
    ·exact ⟨rfl,Le.go [(136,136)] [] rfl rfl (by simp <;> exact wkB (by rw [Bool.eq_iff_iff]; simp <;> omega)) (by simp [fcd])⟩
   refine zac _ rfl (fun h45=>?_) fun h45=>?_
   ·have h45' : ¬ (0 ≤ w ∧ w ≤ e.v):=fun h=>by rw [decide_eq_true h] at h45; cases h45
    have hno : ¬ zaB N A f:=fun h=>h45' (hfa.1 ((zcE.1 h).2.1 i hiA))
    refine rx (s:=?s46) [4] [] [] rfl ?o46 ?q46
    case o46=>simp; rfl
    refine zag ?_
    exact ⟨.inr rfl,zak.one (by simp [hno])⟩
   have h45' : 0 ≤ w ∧ w ≤ e.v:=Decidable.byContradiction fun h=>by rw [decide_eq_false h] at h45; cases h45
   obtain ⟨b1,b2⟩:=h45'
   have hwx : IntKind.i64.wrap (netG A f i e.f - w) = netG A f i e.f - w:=w64 (by omega) (by omega)
   have hwy : IntKind.i64.wrap (netG A f i e.t + w) = netG A f i e.t + w:=w64 (by omega) (by omega)
   refine zae ?_
   refine zap ⟨87,[(1,ints f),(2,.pv (nC ⟨N,A⟩)),(5,.rs 136 0 N),(6,.I i)],[(136,some ⟨1,zah (rowR N g1),0⟩)],700⟩ rfl ?_ ?_
   ·simp [hg1,hg2,hiA,h8,← he,← hw,hr1,e1,h2N,hwx,zaG]
    exact ⟨rfl,Le.go [(136,136)] [] rfl rfl (by simp) (by simp [fcd,← hs1])⟩
   refine zbP rfl ?_
   simp [hg1,hg2,hiA,h8,← he,← hw,hr2,e3,h2N,hwy,zaG]
   exact ⟨rfl,hfa.2 ⟨b1,b2⟩,Le.go [(136,136)] [] rfl rfl (by simp) (by simp [fcd,← hs2])⟩
  refine zad (s:=?s20) rfl ?o20 ?q20
  case o20=>simp; rfl
  exact ⟨i + 1,⟨by omega,fun k hk=>by
   rcases Nat.lt_succ_iff_lt_or_eq.1 hk with h | h
   ·exact hp k h
   ·rw [h]; exact hfit⟩,by omega,Le.go [(136,136)] [] rfl rfl (by simp [hw1]) (by simp [fcd])⟩
 simp at h8
 obtain rfl : i = A.length:=by omega
 refine zan ?_
 refine hit ?_
 refine zaa ?_
 refine zab ⟨87,[(2,.pv (nC ⟨N,A⟩)),(5,.rs 136 0 N),(7,.I 2)],[(136,some ⟨1,zah (rowR N (netG A f A.length)),0⟩)],200⟩ rfl ?_ ?_
 ·simp
  exact LeI [(136,136)] []
 refine zaf ?_
 refine zao (ι:=Nat) (fun k=>⟨87,[(2,.pv (nC ⟨N,A⟩)),(5,.rs 136 0 N),(7,.I k)],[(136,some ⟨1,zah (rowR N (netG A f A.length)),0⟩)],200⟩) (fun k=>(2 ≤ k ∧ k ≤ N) ∧ ∀ x : Nat,2 ≤ x → x < k → exF A f x = 0) (fun k=>N - k) 2 ⟨by omega,fun x h1 h2=>by omega⟩ (LeI [(136,136)] []) ?_
 rintro k ⟨⟨hk1,hk2⟩,hz⟩
 refine zaa ?_
 refine zab ⟨87,[(2,.pv (nC ⟨N,A⟩)),(5,.rs 136 0 N),(7,.I k),(79,.B (decide (k < N)))],[(136,some ⟨1,zah (rowR N (netG A f A.length)),0⟩)],300⟩ rfl ?_ ?_
 ·simp
  exact LeI [(136,136)] []
 refine zac _ rfl (fun h15=>?_) fun h15=>?_
 ·simp at h15
  have hr:=zcR (N:=N) (g:=netG A f A.length) (x:=(k : Int)) (by omega) (by omega)
  have hng:=zm6 hfl (k : Int)
  obtain ⟨z,hzd⟩ : ∃ z,z = netG A f A.length k:=⟨_,rfl⟩
  rw [← hzd] at hr hng
  simp only [Int.toNat_natCast] at hr
  have hw1 : IntKind.i64.wrap ((k : Int) + 1) = (k : Int) + 1:=w64 (by omega) (by omega)
  refine zae ?_
  refine zaa ?_
  refine zaf ?_
  refine zab ⟨87,[(2,.pv (nC ⟨N,A⟩)),(5,.rs 136 0 N),(7,.I k),(86,.B (!decide (z = 0)))],[(136,some ⟨1,zah (rowR N (netG A f A.length)),0⟩)],400⟩ rfl ?_ ?_
  ·simp [hr,h15]
   exact Le.go [(136,136)] [] rfl rfl (by simp <;> exact wkB (by rw [Bool.eq_iff_iff]; simp)) (by simp [fcd])
  refine zac _ rfl (fun h86=>?_) fun h86=>?_
  ·have h86' : ¬ z = 0:=by simpa using h86
   have hno : ¬ zaB N A f:=fun h=>h86' (by rw [hng,(zcE.1 h).2.2 k hk1 h15]; rfl)
   refine rx (s:=?s87) [4] [] [] rfl ?o87 ?q87
   case o87=>simp; rfl
   refine zag ?_
   exact ⟨.inr rfl,zak.one (by simp [hno])⟩
  have h86' : z = 0:=by simpa using h86
  refine zae ?_
  refine zad (s:=?s21) rfl ?o21 ?q21
  case o21=>simp; rfl
  exact ⟨k + 1,⟨by omega,fun x h1 h2=>by
   rcases Nat.lt_succ_iff_lt_or_eq.1 h2 with h | h
   ·exact hz x h1 h
   ·subst h; omega⟩,by omega,Le.go [(136,136)] [] rfl rfl (by simp [hw1]) (by simp [fcd])⟩
 simp at h15
 have hyes : zaB N A f:=zcE.2 ⟨hfl,hp,fun x h1 h2=>hz x h1 (by omega)⟩
 refine zan ?_
 refine hit ?_
 refine zab ⟨87,[(4,.B true)],[],400⟩ rfl ?_ ?_
 ·simp
  exact LeH [] []
 refine zag ?_
 exact ⟨.inr rfl,zak.one (by simp [hyes])⟩
set_option maxRecDepth 100000 in
open Classical in
theorem zkK (hn : za8 ⟨N,A⟩) (hfl0 : f.length ≤ 1099511627776) : zai Tryz.prog zei [eN ⟨N,A⟩,ints f] [] (.I (if zaB N A f then valF A f else 0)) []:=by
 by_cases hf : zaB N A f
 ·rw [if_pos hf]
  exact ziV hn hf
 rw [if_neg hf]
 have hchk:=zgD hn hfl0
 rw [decide_eq_false hf] at hchk
 refine ziO.acalls (nbz rfl) (nbz rfl) (Nat.le_refl _) ?_
 show awp _ 0 _ _ ⟨31,[(0,eN ⟨N,A⟩),(1,ints f)],[],16⟩
 refine rx (s:=?s1) [1,2] [] [16] rfl ?o1 ?q1
 case o1=>simp; rfl
 refine zaa ?_
 refine rx (s:=?s2) [1,2,10] [] [] rfl ?o2 ?q2
 case o2=>simp; refine zaj hchk (by simp) ?_; simp; rfl
 refine zac _ rfl (fun h=>?_) fun h=>by cases h
 refine rx (s:=?s3) [4] [] [] rfl ?o3 ?q3
 case o3=>simp; rfl
 refine zag ?_
 exact ⟨.inr rfl,zak.one (by simp)⟩
set_option maxRecDepth 100000
def zi7 : AFun:=⟨65,[(4,none)],
 (.seq
 (.reg false [
  ⟨(some 3),(.box 3),[(.t 1)],none⟩,
  ⟨(some 4),.mv,[(.c (.bool false))],none⟩] [])
 (.seq
 (.reg false [
  ⟨(some 5),.mv,[(.c (.int .i64 0))],none⟩,
  ⟨(some 6),.mv,[(.c (.int .i64 0))],none⟩] [])
 (.seq
 (.seq
 (.reg false [
  ⟨(some 7),.mv,[(.c (.int .i64 0))],none⟩] [])
 (.block 0
 (.loop
 (.seq
 (.seq
 (.reg false [
  ⟨(some 8),.mv,[(.t 7)],none⟩,
  ⟨(some 9),.mv,[(.t 0)],none⟩,
  ⟨(some 10),.len,[(.t 9)],none⟩,
  ⟨(some 11),(.bin .lss),[(.t 8),(.t 10)],none⟩] [])
 (.cond (.t 11)
  .skip
  (.exit 0)))
 (.seq
 (.block 1
 (.seq
 (.reg true [
  ⟨(some 14),.mv,[(.t 5)],none⟩,
  ⟨(some 15),(.fad 0),[(.t 3)],none⟩,
  ⟨(some 16),(.ld false 1),[(.t 15)],none⟩,
  ⟨(some 17),.len,[(.t 16)],none⟩,
  ⟨(some 18),(.bin .lss),[(.t 14),(.t 17)],none⟩,
  ⟨(some 19),.mv,[(.t 18)],none⟩,
  ⟨(some 20),(.fad 0),[(.t 3)],(some (19,true))⟩,
  ⟨(some 21),(.ld false 1),[(.t 20)],(some (19,true))⟩,
  ⟨(some 22),.mv,[(.t 5)],(some (19,true))⟩,
  ⟨(some 23),(.iad 1),[(.t 21),(.t 22)],(some (19,true))⟩,
  ⟨(some 24),(.ld false 1),[(.t 23)],(some (19,true))⟩,
  ⟨(some 25),.mv,[(.t 0)],(some (19,true))⟩,
  ⟨(some 26),.mv,[(.t 7)],(some (19,true))⟩,
  ⟨(some 27),(.iad 1),[(.t 25),(.t 26)],(some (19,true))⟩,
  ⟨(some 28),(.ld false 1),[(.t 27)],(some (19,true))⟩,
  ⟨(some 29),(.bin .eql),[(.t 24),(.t 28)],(some (19,true))⟩,
  ⟨(some 30),.pick,[(.t 19),(.t 29),(.c (.bool false))],none⟩] [[],[],[1],[2],[0,3],[4],[5],[6,5],[5],[7,8,5],[9,5],[5],[5],[11,12,5],[13,5],[10,14,5],[5,15]])
 (.cond (.t 30)
  (.reg false [
   ⟨(some 31),.mv,[(.t 5)],none⟩,
   ⟨(some 32),(.bin .add),[(.t 31),(.c (.int .i64 1))],none⟩,
   ⟨(some 5),.mv,[(.t 32)],none⟩] [])
  (.seq
  (.reg true [
   ⟨(some 33),.mv,[(.t 6)],none⟩,
   ⟨(some 34),(.fad 2),[(.t 3)],none⟩,
   ⟨(some 35),(.ld false 1),[(.t 34)],none⟩,
   ⟨(some 36),.len,[(.t 35)],none⟩,
   ⟨(some 37),(.bin .lss),[(.t 33),(.t 36)],none⟩,
   ⟨(some 38),.mv,[(.t 37)],none⟩,
   ⟨(some 39),(.fad 2),[(.t 3)],(some (38,true))⟩,
   ⟨(some 40),(.ld false 1),[(.t 39)],(some (38,true))⟩,
   ⟨(some 41),.mv,[(.t 6)],(some (38,true))⟩,
   ⟨(some 42),(.iad 2),[(.t 40),(.t 41)],(some (38,true))⟩,
   ⟨(some 43),(.fad 0),[(.t 42)],(some (38,true))⟩,
   ⟨(some 44),(.ld false 1),[(.t 43)],(some (38,true))⟩,
   ⟨(some 45),.mv,[(.t 0)],(some (38,true))⟩,
   ⟨(some 46),.mv,[(.t 7)],(some (38,true))⟩,
   ⟨(some 47),(.iad 1),[(.t 45),(.t 46)],(some (38,true))⟩,
   ⟨(some 48),(.ld false 1),[(.t 47)],(some (38,true))⟩,
   ⟨(some 49),(.bin .eql),[(.t 44),(.t 48)],(some (38,true))⟩,
   ⟨(some 50),.pick,[(.t 38),(.t 49),(.c (.bool false))],none⟩] [[],[],[1],[2],[0,3],[4],[5],[6,5],[5],[7,8,5],[9,5],[10,5],[5],[5],[12,13,5],[14,5],[11,15,5],[5,16]])
  (.cond (.t 50)
   (.reg false [
    ⟨(some 51),.mv,[(.t 6)],none⟩,
    ⟨(some 52),(.bin .add),[(.t 51),(.c (.int .i64 1))],none⟩,
    ⟨(some 6),.mv,[(.t 52)],none⟩] [])
   (.seq
   (.reg false [
    ⟨(some 4),.mv,[(.c (.bool false))],none⟩] [])
   .ret))))))
 (.reg false [
  ⟨(some 12),.mv,[(.t 7)],none⟩,
  ⟨(some 13),(.bin .add),[(.t 12),(.c (.int .i64 1))],none⟩,
  ⟨(some 7),.mv,[(.t 13)],none⟩] []))))))
 (.seq
 (.reg false [
  ⟨(some 53),.mv,[(.t 5)],none⟩,
  ⟨(some 54),(.fad 0),[(.t 3)],none⟩,
  ⟨(some 55),(.ld false 1),[(.t 54)],none⟩,
  ⟨(some 56),.len,[(.t 55)],none⟩,
  ⟨(some 57),(.bin .eql),[(.t 53),(.t 56)],none⟩,
  ⟨(some 58),.mv,[(.t 57)],none⟩,
  ⟨(some 59),.mv,[(.t 6)],(some (58,true))⟩,
  ⟨(some 60),(.fad 2),[(.t 3)],(some (58,true))⟩,
  ⟨(some 61),(.ld false 1),[(.t 60)],(some (58,true))⟩,
  ⟨(some 62),.len,[(.t 61)],(some (58,true))⟩,
  ⟨(some 63),(.bin .eql),[(.t 59),(.t 62)],(some (58,true))⟩,
  ⟨(some 64),.pick,[(.t 58),(.t 63),(.c (.bool false))],none⟩,
  ⟨(some 4),.mv,[(.t 64)],none⟩] [])
 .ret))))⟩
theorem ziU : Src Tryz.prog zdC zi7:=mkS Tryz.f70
structure PnSt where
 n : Nat
 i : Nat
 k : Nat
set_option maxRecDepth 100000 in
set_option maxHeartbeats 4000000 in
theorem zhP (o acc f : List Int) (R : List (Int × List Int)) (hol : o.length ≤ 100) (ha : acc.length ≤ 1000) (hR : R.length ≤ 1000) : zai Tryz.prog zdC [ints o,eAcc acc f R] [] (.B (zaY o acc (zaS R))) []:=by
 refine ziU.acalls (nbz rfl) (nbz rfl) (Nat.le_refl _) ?_
 show awp _ 0 _ _ ⟨65,[(0,ints o),(1,eAcc acc f R)],[],16⟩
 have hkl : (zaS R).length = R.length:=by simp [zaS]
 obtain ⟨b,hb⟩ : ∃ b,b = zaY o acc (zaS R):=⟨_,rfl⟩
 rw [← hb]
 refine zab ⟨65,[(0,ints o),(3,.pv [ints acc,ints f,.vs 2 false (zaN R)])],[],40⟩ rfl ?_ ?_
 ·simp
  exact LeH [] [16]
 refine rx (s:=?s2) [0,3,5,6] [] [] rfl ?o2 ?q2
 case o2=>simp; rfl
 refine zaa ?_
 refine rx (s:=?s3) [0,3,5,6,7] [] [] rfl ?o3 ?q3
 case o3=>simp; rfl
 refine zaf ?_
 refine zao (ι:=PnSt) (fun s=>⟨65,[(0,ints o),(3,.pv [ints acc,ints f,.vs 2 false (zaN R)]),(5,.I s.i),(6,.I s.k),(7,.I s.n)],[],300⟩)
  (fun s=>s.n ≤ o.length ∧ s.i ≤ acc.length ∧ s.k ≤ R.length ∧ b = zaY (o.drop s.n) (acc.drop s.i) ((zaS R).drop s.k))
  (fun s=>o.length - s.n) ⟨0,0,0⟩ ⟨Nat.zero_le _,Nat.zero_le _,Nat.zero_le _,by simpa using hb⟩ (LeH [] []) ?_
 rintro ⟨n,i,k⟩ ⟨hn,hi,hk,hp⟩
 simp only at hn hi hk hp
 refine zaa ?_
 refine zab ⟨65,[(0,ints o),(3,.pv [ints acc,ints f,.vs 2 false (zaN R)]),(5,.I i),(6,.I k),(7,.I n),(11,.B (decide (n < o.length)))],[],400⟩ rfl ?_ ?_
 ·simp
  exact LeH [] []
 refine zac _ rfl (fun h6=>?_) fun h6=>?_
 ·simp at h6
  have hw1 : IntKind.i64.wrap ((n : Int) + 1) = (n : Int) + 1:=w64 (by omega) (by omega)
  have hw2 : IntKind.i64.wrap ((i : Int) + 1) = (i : Int) + 1:=w64 (by omega) (by omega)
  have hw3 : IntKind.i64.wrap ((k : Int) + 1) = (k : Int) + 1:=w64 (by omega) (by omega)
  obtain ⟨x,hx⟩ : ∃ x,x = o[n]:=⟨_,rfl⟩
  have hod : o.drop n = x :: o.drop (n + 1):=by rw [List.drop_eq_getElem_cons h6,hx]
  rw [hod] at hp
  simp only [zaY,List.tail_drop] at hp
  refine zae ?_
  refine zaa ?_
  refine zaf ?_
  refine zap ⟨65,[(0,ints o),(3,.pv [ints acc,ints f,.vs 2 false (zaN R)]),(5,.I i),(6,.I k),(7,.I n),(30,.B (decide ((acc.drop i).head? = some x)))],[],700⟩ rfl ?_ ?_
  ·by_cases hia : i < acc.length
   ·have hh:=zeJ hia
    simp [hia,h6,← hx]
    exact ⟨rfl,Le.go [] [] rfl rfl (by simp <;> exact wkB (by rw [Bool.eq_iff_iff]; simp [hia])) (by simp)⟩
   ·have hh:=zcp hia
    have hai : acc.length ≤ i:=by omega
    simp [hia]
    exact ⟨rfl,Le.go [] [] rfl rfl (by simp [hia]) (by simp)⟩
  refine zac _ rfl (fun h9=>?_) fun h9=>?_
  ·rw [decide_eq_true_eq] at h9
   rw [if_pos h9] at hp
   have hia : i < acc.length:=Decidable.byContradiction fun h=>by rw [zcp h] at h9; cases h9
   refine zav rfl ?_
   simp
   refine zav rfl ?_
   simp
   exact ⟨⟨n + 1,i + 1,k⟩,⟨by simp only; omega,by simp only; omega,hk,hp⟩,by simp only; omega,Le.go [] [] rfl rfl (by simp [hw1,hw2]) (by simp)⟩
  rw [decide_eq_false_iff_not] at h9
  rw [if_neg h9] at hp
  refine zap ⟨65,[(0,ints o),(3,.pv [ints acc,ints f,.vs 2 false (zaN R)]),(5,.I i),(6,.I k),(7,.I n),(50,.B (decide (((zaS R).drop k).head? = some x)))],[],900⟩ rfl ?_ ?_
  ·by_cases hkR : k < R.length
   ·have hh2 : (zaS R)[k]? = some R[k].1:=by rw [zaS,List.getElem?_map,List.getElem?_eq_getElem hkR]; rfl
    simp [hkR,h6,← hx]
    exact ⟨rfl,Le.go [] [] rfl rfl (by simp [hh2] <;> exact wkB (by rw [Bool.eq_iff_iff]; simp)) (by simp)⟩
   ·have hh2 : (zaS R)[k]? = none:=List.getElem?_eq_none (by omega)
    simp [hkR]
    exact ⟨rfl,Le.go [] [] rfl rfl (by simp [hh2,hkR]) (by simp)⟩
  refine zac _ rfl (fun h11=>?_) fun h11=>?_
  ·rw [decide_eq_true_eq] at h11
   rw [if_pos h11] at hp
   have hkR : k < R.length:=Decidable.byContradiction fun h=>by rw [List.head?_drop,List.getElem?_eq_none (by omega)] at h11; cases h11
   refine zav rfl ?_
   simp
   refine zav rfl ?_
   simp
   exact ⟨⟨n + 1,i,k + 1⟩,⟨by simp only; omega,hi,hkR,hp⟩,by simp only; omega,Le.go [] [] rfl rfl (by simp [hw1,hw3]) (by simp)⟩
  rw [decide_eq_false_iff_not] at h11
  rw [if_neg h11] at hp
  subst hp
  refine rx (s:=?s10) [4] [] [] rfl ?o10 ?q10
  case o10=>simp; rfl
  refine zag ?_
  exact ⟨.inr rfl,zak.one (by simp)⟩
 simp at h6
 obtain rfl : n = o.length:=by omega
 rw [List.drop_length] at hp
 have hp2 : b = (decide (i = acc.length) && decide (k = R.length)):=by
  rw [hp]
  simp only [zaY]
  rw [Bool.eq_iff_iff]
  simp [List.isEmpty_iff]
  omega
 refine zan ?_
 refine hit ?_
 refine zab ⟨65,[(4,.B b)],[],1000⟩ rfl ?_ ?_
 ·by_cases hia : i = acc.length
  ·simp [hia]
   exact Le.go [] [] rfl rfl (by simp [hp2,hia] <;> exact wkB (by rw [Bool.eq_iff_iff]; simp; omega)) (by simp)
  ·have hia2 : ¬ (i : Int) = acc.length:=by omega
   have hia3 : ((i : Int) == (acc.length : Int)) = false:=by simpa using hia2
   simp [hia3]
   exact Le.go [] [] rfl rfl (by simp [hp2,hia]) (by simp)
 refine zag ?_
 exact ⟨.inr rfl,zak.one (by simp)⟩
theorem zqT {o : List Int} {x : Int} {a r : List Int} (h : zaY (x :: o) a r = true) (hn : (x :: o).Nodup) (hx : x ∈ a) : a.head? = some x:=by
 simp only [zaY] at h
 split at h
 ·assumption
 ·split at h
  ·exact absurd ((zgb h).1.subset hx) (List.nodup_cons.1 hn).1
  ·cases h
set_option maxRecDepth 100000 in
set_option maxHeartbeats 8000000 in
open Classical in
theorem zjM (g : Gr) (p : Pol) (acc f : List Int) (R : List (Int × List Int)) (hg : GrOk g) (hp : za6 g.size p) (hs : p.seeds.length ≤ 64) (ha : acc.length ≤ 1000) (hR : R.length ≤ 1000) (hf : f.length ≤ 1099511627776) (hsd : ∀ r ∈ R,r.2.length ≤ 9223372036854775807) :
  zai Tryz.prog zdt [eG g,eP p,eAcc acc f R] [] (.I (zhj g p acc f R)) []:=by
 have hsz:=hg.1.1
 have hsz2:=hg.1.2.1
 have hel:=hg.edges_le
 have hgl:=hg.gone_le
 have hchk:=zgB g p (by omega) (by omega) (by omega) (by have:=hp.2.2.2.1; omega)
 rw [if_pos hg,if_pos hp] at hchk
 have hlev:=zeK g p.lv (by omega) (by omega)
 have hord:=zkU (g:=zal g p.lv) (S:=p.seeds) (hg.level p.lv) (by omega)
 have hol:=zm3 hg p
 unfold zhj
 obtain ⟨o,ho⟩ : ∃ o,o = ordL (zal g p.lv) p.seeds:=⟨_,rfl⟩
 have hor : ∀ k ∈ o,0 ≤ k ∧ k < g.size:=fun k hk=>by rw [ho] at hk; have h:=zcJ hk; exact h
 have hon : o.Nodup:=by rw [ho]; exact zbv _ _
 rw [← ho] at hord hol ⊢
 have hpart:=zhP o acc f R (by omega) ha hR
 have hj0 : zaz [] = []:=rfl
 refine znC.acalls (nbz rfl) (nbz rfl) (Nat.le_refl _) ?_
 show awp _ 0 _ _ ⟨114,[(0,eG g),(1,eP p),(2,eAcc acc f R)],[],16⟩
 refine zab ⟨114,[(3,.pv (gC g)),(4,.pv (pC p)),(5,.pv [ints acc,ints f,.vs 2 false (zaN R)])],[],60⟩ rfl ?_ ?_
 ·simp
  exact LeH [] [16,24,32]
 refine zaa ?_
 refine rx (s:=?s2) [3,4,5,7] [] [] rfl ?o2 ?q2
 case o2=>simp; refine zaj hchk (by simp) ?_; simp; rfl
 refine rx (s:=?s3) [3,4,5,22] [] [] rfl ?o3 ?q3
 case o3=>simp; rfl
 refine zac _ rfl (fun h=>by cases h) fun _=>?_
 refine zae ?_
 refine zap ⟨114,[(3,.pv (gC g)),(4,.pv (pC p)),(5,.pv [ints acc,ints f,.vs 2 false (zaN R)]),(8,ints o)],[],300⟩ rfl ?_ ?_
 ·simp
  refine zaj hlev (by simp) ?_
  simp
  refine zbc hord (by simp) ?_
  simp
  exact ⟨rfl,Le.go [] [156] rfl rfl (by simp [fcd,zaq]) (by simp)⟩
 refine zaa ?_
 refine zab ⟨114,[(3,.pv (gC g)),(4,.pv (pC p)),(5,.pv [ints acc,ints f,.vs 2 false (zaN R)]),(8,ints o),(34,.B (!zaY o acc (zaS R)))],[],400⟩ rfl ?_ ?_
 ·simp
  refine zaj hpart (by simp) ?_
  simp
  exact LeH [] []
 refine zac _ rfl (fun h8=>?_) fun h8=>?_
 ·have h8' : ¬ zaY o acc (zaS R) = true:=by simpa using h8
  rw [if_neg h8']
  refine rx (s:=?s9) [6] [] [] rfl ?o9 ?q9
  case o9=>simp; rfl
  refine zag ?_
  exact ⟨.inr rfl,zak.one (by simp)⟩
 have h8' : zaY o acc (zaS R) = true:=by simpa using h8
 rw [if_pos h8']
 have hsub:=zgb h8'
 have hperm:=(zlt hon h8').nodup_iff.1 hon
 have hkl : (zaS R).length = R.length:=by simp [zaS]
 have hrk : ∀ k ∈ zaS R,0 ≤ k ∧ k < g.size:=fun k hk=>hor k (hsub.2.subset hk)
 have hak : ∀ k ∈ acc,0 ≤ k ∧ k < g.size:=fun k hk=>hor k (hsub.1.subset hk)
 have h64 : ∀ a : List Int,(∀ x ∈ a,0 ≤ x ∧ x < g.size) → ∀ x ∈ a,0 ≤ x ∧ x < 64:=fun a h x hx=>by have:=h x hx; omega
 have han : acc.Nodup:=(List.nodup_append.1 hperm).1
 have hjl:=zge han (h64 acc hak)
 have hnet:=zfq g p (zaz acc) hg hp (zdx hak) hs (zcq acc)
 rw [← zgd hg,show zba g p (zaO g p) (zaz acc) = netA g p (zaz acc) from rfl] at hnet
 have hnv : ∀ a : List Int,(∀ x ∈ a,0 ≤ x ∧ x < g.size) → za8 ⟨netN g,netA g p (zaz a)⟩:=fun a h=>zhi hg hp (zia (zdx h)) hs (zcq a)
 have hval:=zgD (f:=f) (hnv acc hak) hf
 have hvv:=zkK (f:=f) (hnv acc hak) hf
 obtain ⟨A,hA⟩ : ∃ A,A = netA g p (zaz acc):=⟨_,rfl⟩
 rw [← hA] at hnet hval hvv
 rw [← hA]
 refine zae ?_
 refine zab ⟨114,[(3,.pv (gC g)),(4,.pv (pC p)),(5,.pv [ints acc,ints f,.vs 2 false (zaN R)]),(8,ints o),(9,.vs 1 false [])],[],500⟩ rfl ?_ ?_
 ·simp
  exact LeH [] []
 refine zaa ?_
 refine zab ⟨114,[(3,.pv (gC g)),(4,.pv (pC p)),(5,.pv [ints acc,ints f,.vs 2 false (zaN R)]),(8,ints o),(9,.vs 1 false []),(10,.I 0)],[],600⟩ rfl ?_ ?_
 ·simp
  exact LeH [] []
 refine zaf ?_
 refine zao (ι:=Nat) (fun i=>⟨114,[(3,.pv (gC g)),(4,.pv (pC p)),(5,.pv [ints acc,ints f,.vs 2 false (zaN R)]),(8,ints o),(9,ints (zaz (acc.take i))),(10,.I i)],[],700⟩) (fun i=>i ≤ acc.length) (fun i=>acc.length - i) 0 (Nat.zero_le _) (Le.go [] [] rfl rfl (by simp [hj0]; exact .refl _) (by simp)) ?_
 intro i hi
 refine zaa ?_
 refine zab ⟨114,[(3,.pv (gC g)),(4,.pv (pC p)),(5,.pv [ints acc,ints f,.vs 2 false (zaN R)]),(8,ints o),(9,ints (zaz (acc.take i))),(10,.I i),(39,.B (decide (i < acc.length)))],[],800⟩ rfl ?_ ?_
 ·simp
  exact LeH [] []
 refine zac _ rfl (fun h13=>?_) fun h13=>?_
 ·simp at h13
  have hw1 : IntKind.i64.wrap ((i : Int) + 1) = (i : Int) + 1:=w64 (by omega) (by omega)
  have hxr:=hak _ (List.getElem_mem h13)
  have hput:=zso (zaz (acc.take i)) acc[i] (by have:=zcq (acc.take i); omega)
  rw [znE hxr.1 (by omega),← List.take_succ_eq_append_getElem h13] at hput
  obtain ⟨J,hJ⟩ : ∃ J,J = zaz (acc.take (i + 1)):=⟨_,rfl⟩
  rw [← hJ] at hput
  refine zae ?_
  refine zaa ?_
  refine zaf ?_
  refine zav rfl ?_
  simp [h13]
  refine zbc hput (by simp) ?_
  simp
  refine zav rfl ?_
  simp
  exact ⟨i + 1,by omega,by omega,Le.go [] [848] rfl rfl (by simp [hw1,← hJ,fcd,zaq]) (by simp)⟩
 simp at h13
 obtain rfl : i = acc.length:=by omega
 rw [List.take_length]
 refine zan ?_
 refine hit ?_
 refine zab ⟨114,[(3,.pv (gC g)),(4,.pv (pC p)),(5,.pv [ints acc,ints f,.vs 2 false (zaN R)]),(8,ints o),(9,ints (zaz acc)),(11,.pv (nC ⟨netN g,A⟩))],[],1000⟩ rfl ?_ ?_
 ·simp
  refine zaj hnet (by simp) ?_
  simp
  exact LeH [] [856]
 refine zaa ?_
 refine zab ⟨114,[(3,.pv (gC g)),(4,.pv (pC p)),(5,.pv [ints acc,ints f,.vs 2 false (zaN R)]),(8,ints o),(69,.B (!decide (zaB (netN g) A f ∧ valF A f = acc.length)))],[],1200⟩ rfl ?_ ?_
 ·by_cases hfo : zaB (netN g) A f
  ·rw [decide_eq_true hfo] at hval
   rw [if_pos hfo] at hvv
   simp
   refine zaj hval (by simp) ?_
   simp
   refine zaj hvv (by simp) ?_
   simp
   exact Le.go [] [] rfl rfl (by simp [hfo,hjl] <;> exact wkB (by rw [Bool.eq_iff_iff]; simp)) (by simp)
  ·rw [decide_eq_false hfo] at hval
   simp
   refine zaj hval (by simp) ?_
   simp
   exact Le.go [] [] rfl rfl (by simp [hfo]) (by simp)
 refine zac _ rfl (fun h12=>?_) fun h12=>?_
 ·have h12' : ¬ (zaB (netN g) A f ∧ valF A f = acc.length):=fun h=>by rw [decide_eq_true h] at h12; cases h12
  rw [if_neg h12']
  refine rx (s:=?s13) [6] [] [] rfl ?o13 ?q13
  case o13=>simp; rfl
  refine zag ?_
  exact ⟨.inr rfl,zak.one (by simp)⟩
 have h12' : zaB (netN g) A f ∧ valF A f = acc.length:=by simpa using h12
 rw [if_pos h12']
 refine zae ?_
 refine zab ⟨114,[(3,.pv (gC g)),(4,.pv (pC p)),(5,.pv [ints acc,ints f,.vs 2 false (zaN R)]),(8,ints o),(13,.vs 1 false [])],[],1300⟩ rfl ?_ ?_
 ·simp
  exact LeH [] []
 refine zab ⟨114,[(3,.pv (gC g)),(4,.pv (pC p)),(5,.pv [ints acc,ints f,.vs 2 false (zaN R)]),(8,ints o),(13,.vs 1 false []),(14,.I 0)],[],1400⟩ rfl ?_ ?_
 ·simp
  exact LeH [] []
 refine zaa ?_
 refine zab ⟨114,[(3,.pv (gC g)),(4,.pv (pC p)),(5,.pv [ints acc,ints f,.vs 2 false (zaN R)]),(8,ints o),(13,.vs 1 false []),(14,.I 0),(15,.I 0)],[],1500⟩ rfl ?_ ?_
 ·simp
  exact LeH [] []
 refine zaf ?_
 refine zao (ι:=PnSt) (fun s=>⟨114,[(3,.pv (gC g)),(4,.pv (pC p)),(5,.pv [ints acc,ints f,.vs 2 false (zaN R)]),(8,ints o),(13,ints (zaz (acc.take s.i))),(14,.I s.k),(15,.I s.n)],[],1600⟩)
  (fun s=>s.n ≤ o.length ∧ s.i ≤ acc.length ∧ s.k ≤ R.length ∧ zaY (o.drop s.n) (acc.drop s.i) ((zaS R).drop s.k) = true ∧ (zc2 g p [] o acc R ↔ zc2 g p (acc.take s.i) (o.drop s.n) (acc.drop s.i) (R.drop s.k)) ∧ ∀ x ∈ acc.take s.i,x ∈ o.take s.n)
  (fun s=>o.length - s.n) ⟨0,0,0⟩ ⟨Nat.zero_le _,Nat.zero_le _,Nat.zero_le _,by simpa using h8',by simp,by simp⟩ (Le.go [] [] rfl rfl (by simp [hj0]; exact .refl _) (by simp)) ?_
 rintro ⟨n,i,k⟩ ⟨hn,hi,hk,hpp,hcc,hin⟩
 simp only at hn hi hk hpp hcc hin
 refine zaa ?_
 refine zab ⟨114,[(3,.pv (gC g)),(4,.pv (pC p)),(5,.pv [ints acc,ints f,.vs 2 false (zaN R)]),(8,ints o),(13,ints (zaz (acc.take i))),(14,.I k),(15,.I n),(73,.B (decide (n < o.length)))],[],1700⟩ rfl ?_ ?_
 ·simp
  exact LeH [] []
 refine zac _ rfl (fun h22=>?_) fun h22=>?_
 ·simp at h22
  have hw1 : IntKind.i64.wrap ((n : Int) + 1) = (n : Int) + 1:=w64 (by omega) (by omega)
  have hw3 : IntKind.i64.wrap ((k : Int) + 1) = (k : Int) + 1:=w64 (by omega) (by omega)
  obtain ⟨x,hx⟩ : ∃ x,x = o[n]:=⟨_,rfl⟩
  have hxr : 0 ≤ x ∧ x < g.size:=by rw [hx]; exact hor _ (List.getElem_mem h22)
  have hod : o.drop n = x :: o.drop (n + 1):=by rw [List.drop_eq_getElem_cons h22,hx]
  have hdn : (x :: o.drop (n + 1)).Nodup:=by rw [← hod]; exact hon.sublist (List.drop_sublist _ _)
  rw [hod] at hpp hcc
  have hhead : x ∈ acc ↔ (acc.drop i).head? = some x:=by
   constructor
   ·intro hm
    rw [← List.take_append_drop i acc] at hm
    rcases List.mem_append.1 hm with h | h
    ·exfalso
     have h2:=hin x h
     obtain ⟨j,hj,hjx⟩:=List.mem_iff_getElem.1 h2
     rw [List.getElem_take] at hjx
     rw [List.length_take] at hj
     exact (List.pairwise_iff_getElem.1 hon) j n (by omega) h22 (by omega) (hjx.trans hx)
    ·exact zqT hpp hdn h
   ·intro h
    exact List.mem_of_mem_drop (List.mem_of_mem_head? h)
  have hhas:=zhD acc x (by omega)
  have hput:=zso (zaz (acc.take i)) x (by have:=zcq (acc.take i); omega)
  rw [znE hxr.1 (by omega)] at hput
  have htn : o.take (n + 1) = o.take n ++ [x]:=by rw [List.take_succ_eq_append_getElem h22,hx]
  have hcd : (acc.contains x) = decide (x ∈ acc):=by rw [Bool.eq_iff_iff]; simp
  rw [hcd] at hhas
  refine zae ?_
  refine zaL (ι:=PnSt) (fun s=>⟨114,[(3,.pv (gC g)),(4,.pv (pC p)),(5,.pv [ints acc,ints f,.vs 2 false (zaN R)]),(8,ints o),(13,ints (zaz (acc.take s.i))),(14,.I s.k),(15,.I n)],[],3000⟩)
   (fun s=>s.i ≤ acc.length ∧ s.k ≤ R.length ∧ zaY (o.drop (n + 1)) (acc.drop s.i) ((zaS R).drop s.k) = true ∧ (zc2 g p [] o acc R ↔ zc2 g p (acc.take s.i) (o.drop (n + 1)) (acc.drop s.i) (R.drop s.k)) ∧ ∀ x ∈ acc.take s.i,x ∈ o.take (n + 1)) ?_ fun s hs'=>?_
  ·refine zaf ?_
   refine zaa ?_
   refine zap ⟨114,[(3,.pv (gC g)),(4,.pv (pC p)),(5,.pv [ints acc,ints f,.vs 2 false (zaN R)]),(8,ints o),(13,ints (zaz (acc.take i))),(14,.I k),(15,.I n),(82,.B (decide (x ∈ acc)))],[],1800⟩ rfl ?_ ?_
   ·simp [h22,← hx]
    refine zaj hhas (by simp) ?_
    simp
    exact ⟨rfl,LeH [] []⟩
   refine zac _ rfl (fun h24=>?_) fun h24=>?_
   ·have h24':=hhead.1 (of_decide_eq_true h24)
    simp only [zaY,zc2,if_pos h24',List.tail_drop] at hpp hcc
    have hia : i < acc.length:=Decidable.byContradiction fun h=>by rw [zcp h] at h24'; cases h24'
    have hai : acc[i] = x:=by rw [zeJ hia] at h24'; exact Option.some.inj h24'
    have hti : acc.take (i + 1) = acc.take i ++ [x]:=by rw [List.take_succ_eq_append_getElem hia,hai]
    rw [← hti] at hput hcc
    obtain ⟨J,hJ⟩ : ∃ J,J = zaz (acc.take (i + 1)):=⟨_,rfl⟩
    rw [← hJ] at hput
    refine zab ⟨114,[(3,.pv (gC g)),(4,.pv (pC p)),(5,.pv [ints acc,ints f,.vs 2 false (zaN R)]),(8,ints o),(13,ints J),(14,.I k),(15,.I n)],[],1900⟩ rfl ?_ ?_
    ·simp [h22,← hx]
     refine zbc hput (by simp) ?_
     simp
     exact Le.go [] [1840] rfl rfl (by simp [fcd,zaq]) (by simp)
    refine zan ?_
    refine hit ?_
    refine ⟨⟨n,i + 1,k⟩,⟨hia,hk,hpp,hcc,fun y hy=>?_⟩,Le.go [] [] rfl rfl (by simp [hJ]) (by simp)⟩
    simp only [hti] at hy
    rw [htn]
    rcases List.mem_append.1 hy with h | h
    ·exact List.mem_append_left _ (hin y h)
    ·exact List.mem_append_right _ h
   ·have h24' : ¬ (acc.drop i).head? = some x:=fun h=>(of_decide_eq_false h24) (hhead.2 h)
    simp only [zaY,zc2,if_neg h24',List.tail_drop] at hpp hcc
    have hrh : ((zaS R).drop k).head? = some x:=by
     split at hpp
     ·assumption
     ·cases hpp
    rw [if_pos hrh] at hpp
    have hkR : k < R.length:=Decidable.byContradiction fun h=>by rw [List.head?_drop,List.getElem?_eq_none (by omega)] at hrh; cases hrh
    have hrx : R[k].1 = x:=by
     rw [List.head?_drop,zaS,List.getElem?_map,List.getElem?_eq_getElem hkR] at hrh
     exact Option.some.inj hrh
    rw [List.drop_eq_getElem_cons hkR] at hcc
    simp only at hcc
    have hsdk:=hsd _ (List.getElem_mem hkR)
    obtain ⟨r,hr⟩ : ∃ r,r = R[k]:=⟨_,rfl⟩
    rw [← hr] at hcc hsdk hrx
    have hbr : ∀ y ∈ acc.take i,0 ≤ y ∧ y < g.size:=fun y hy=>hak y (List.mem_of_mem_take hy)
    have hbn : (acc.take i).Nodup:=han.sublist (List.take_sublist _ _)
    have hbl:=zge hbn (h64 _ hbr)
    have hks : ∀ y ∈ acc.take i ++ [x],0 ≤ y ∧ y < g.size:=fun y hy=>by
     rcases List.mem_append.1 hy with h | h
     ·exact hbr y h
     ·rw [List.mem_singleton] at h; subst h; exact hxr
    have hnet2:=zfq g p (zaz (acc.take i ++ [x])) hg hp (zdx hks) hs (zcq _)
    rw [← zgd hg,show zba g p (zaO g p) (zaz (acc.take i ++ [x])) = netA g p (zaz (acc.take i ++ [x])) from rfl] at hnet2
    have hprv:=zjd ⟨netN g,netA g p (zaz (acc.take i ++ [x]))⟩ r.2 (zaz (acc.take i)).length (by have:=(hnv _ hks).2.2.1; simp only at this ⊢; omega) hsdk
    have hpd : decide (zcV ⟨netN g,netA g p (zaz (acc.take i ++ [x]))⟩ r.2 (zaz (acc.take i)).length) = decide (zga g p (acc.take i) r):=by
     unfold zga
     rw [hrx,hbl]
    rw [hpd] at hprv
    obtain ⟨W,hW⟩ : ∃ W,W = zaz (acc.take i ++ [x]):=⟨_,rfl⟩
    obtain ⟨B,hB⟩ : ∃ B,B = zaz (acc.take i):=⟨_,rfl⟩
    rw [← hW] at hput hnet2 hprv
    rw [← hB] at hput hprv
    rw [← hB]
    obtain ⟨A2,hA2⟩ : ∃ A2,A2 = netA g p W:=⟨_,rfl⟩
    rw [← hA2] at hnet2 hprv
    refine zae ?_
    refine zap ⟨114,[(3,.pv (gC g)),(4,.pv (pC p)),(5,.pv [ints acc,ints f,.vs 2 false (zaN R)]),(8,ints o),(13,ints B),(14,.I k),(15,.I n),(16,.pv (nC ⟨netN g,A2⟩))],[],2000⟩ rfl ?_ ?_
    ·simp [h22,← hx]
     refine zbc hput (by simp) ?_
     simp
     refine zly [1856] (by simp) hnet2 (by simp [fcd,zaq]) ?_
     simp
     exact ⟨rfl,LeH [] [1896]⟩
    refine zaa ?_
    refine zap ⟨114,[(3,.pv (gC g)),(4,.pv (pC p)),(5,.pv [ints acc,ints f,.vs 2 false (zaN R)]),(8,ints o),(13,ints B),(14,.I k),(15,.I n),(111,.B (!decide (zga g p (acc.take i) r)))],[],2200⟩ rfl ?_ ?_
    ·simp [hkR,← hr]
     refine zaj hprv (by simp) ?_
     simp
     exact ⟨rfl,LeH [] []⟩
    refine zac _ rfl (fun h28=>?_) fun h28=>?_
    ·have h28' : ¬ zga g p (acc.take i) r:=by simpa using h28
     have hno : ¬ zc2 g p [] o acc R:=fun h=>h28' (hcc.1 h).1
     rw [if_neg hno]
     refine rx (s:=?s29) [6] [] [] rfl ?o29 ?q29
     case o29=>simp; rfl
     refine zag ?_
     exact ⟨.inr rfl,zak.one (by simp)⟩
    have h28' : zga g p (acc.take i) r:=by simpa using h28
    refine zae ?_
    refine zav rfl ?_
    simp
    refine ⟨⟨n,i,k + 1⟩,⟨hi,hkR,hpp,?_,fun y hy=>by rw [htn]; exact List.mem_append_left _ (hin y hy)⟩,Le.go [] [] rfl rfl (by simp [hw3,hB]) (by simp)⟩
    rw [hcc]
    exact ⟨fun h=>h.2,fun h=>⟨h28',h⟩⟩
  obtain ⟨c1,c2,c3,c4,c5⟩:=hs'
  refine zav rfl ?_
  simp
  exact ⟨⟨n + 1,s.i,s.k⟩,⟨by simp only; omega,c1,c2,c3,c4,c5⟩,by simp only; omega,Le.go [] [] rfl rfl (by simp [hw1]) (by simp)⟩
 simp at h22
 obtain rfl : n = o.length:=by omega
 rw [List.drop_length] at hcc
 have hyes : zc2 g p [] o acc R:=hcc.2 (by simp [zc2])
 rw [if_pos hyes]
 refine zan ?_
 refine hit ?_
 refine rx (s:=?s30) [6] [] [] rfl ?o30 ?q30
 case o30=>simp; rfl
 refine zag ?_
 exact ⟨.inr rfl,zak.one (by simp)⟩
open Classical in
theorem zkM (g : Gr) (p : Pol) (acc f : List Int) (R : List (Int × List Int)) (hg : GrOk g) (hp : za6 g.size p) (hs : p.seeds.length ≤ 64) (ha : acc.length ≤ 1000) (hR : R.length ≤ 1000) (hf : f.length ≤ 1099511627776) (hsd : ∀ r ∈ R,r.2.length ≤ 140737488355328) : zai Tryz.prog zdt [eG g,eP p,eAcc acc f R] [] (.I (zhj g p acc f R)) [] :=
 zjM g p acc f R hg hp hs ha hR hf (fun r hr=>by have:=hsd r hr; omega)
set_option maxRecDepth 100000 in
theorem zkC (R S : List (Int × List Int)) (hR : R.length ≤ 1000) (hS : S.length ≤ 1000) (hr : ∀ r ∈ R,r.2.length ≤ 140737488355328) : zai Tryz.prog zcw [.vs 2 false (zaN R),.vs 2 false (zaN S)] [] (.B (decide (R = S))) []:=by
 refine zgH.acalls (nbz rfl) (nbz rfl) (Nat.le_refl _) ?_
 show awp _ 0 _ _ ⟨42,[(0,.vs 2 false (zaN R)),(1,.vs 2 false (zaN S))],[],16⟩
 refine rx (s:=?s1) [0,1] [] [] rfl ?o1 ?q1
 case o1=>simp; rfl
 refine zaa ?_
 refine zab ⟨42,[(0,.vs 2 false (zaN R)),(1,.vs 2 false (zaN S)),(10,.B (!decide (R.length = S.length)))],[],100⟩ rfl ?_ ?_
 ·simp
  exact Le.go [] [] rfl rfl (by simp <;> exact wkB (by rw [Bool.eq_iff_iff]; simp <;> omega)) (by simp)
 refine zac _ rfl (fun h3=>?_) fun h3=>?_
 ·have h3' : ¬ R.length = S.length:=by simpa using h3
  have hno : ¬ R = S:=fun h=>h3' (by rw [h])
  refine rx (s:=?s4) [4] [] [] rfl ?o4 ?q4
  case o4=>simp; rfl
  refine zag ?_
  exact ⟨.inr rfl,zak.one (by simp [hno])⟩
 have h3' : R.length = S.length:=by simpa using h3
 refine zae ?_
 refine zaa ?_
 refine rx (s:=?s5) [0,1,5] [] [] rfl ?o5 ?q5
 case o5=>simp; rfl
 refine zaf ?_
 refine zao (ι:=Nat) (fun i=>⟨42,[(0,.vs 2 false (zaN R)),(1,.vs 2 false (zaN S)),(5,.I i)],[],200⟩) (fun i=>i ≤ R.length ∧ ∀ k (h : k < R.length) (h' : k < S.length),k < i → R[k] = S[k]) (fun i=>R.length - i) 0 ⟨Nat.zero_le _,fun k _ _ h=>absurd h (Nat.not_lt_zero _)⟩ (LeH [] []) ?_
 rintro i ⟨hi,hp⟩
 refine zaa ?_
 refine rx (s:=?s6) [0,1,5,14] [] [] rfl ?o6 ?q6
 case o6=>simp; rfl
 refine zac _ rfl (fun h7=>?_) fun h7=>?_
 ·simp at h7
  have h7S : i < S.length:=by omega
  have hw1 : IntKind.i64.wrap ((i : Int) + 1) = (i : Int) + 1:=w64 (by omega) (by omega)
  have hrl:=hr _ (List.getElem_mem h7)
  obtain ⟨⟨k1,s1⟩,hr1⟩ : ∃ r,r = R[i]:=⟨_,rfl⟩
  obtain ⟨⟨k2,s2⟩,hr2⟩ : ∃ r,r = S[i]:=⟨_,rfl⟩
  rw [← hr1] at hrl
  have hsame:=zcx s1 s2 hrl
  refine zae ?_
  refine zaa ?_
  refine zaf ?_
  refine zap ⟨42,[(0,.vs 2 false (zaN R)),(1,.vs 2 false (zaN S)),(5,.I i),(41,.B (!decide (k1 = k2 ∧ s1 = s2)))],[],600⟩ rfl ?_ ?_
  ·by_cases hk : k1 = k2
   ·subst hk
    simp [h7,h7S,← hr1,← hr2]
    refine zaj hsame (by simp) ?_
    simp
    exact ⟨rfl,LeH [] []⟩
   ·have hk2 : (k1 == k2) = false:=by simpa using hk
    simp [h7,h7S,← hr1,← hr2,hk2,bne]
    exact ⟨rfl,Le.go [] [] rfl rfl (by simp [hk]) (by simp)⟩
  refine zac _ rfl (fun h9=>?_) fun h9=>?_
  ·have h9' : ¬ (k1 = k2 ∧ s1 = s2):=fun h=>by rw [decide_eq_true h] at h9; cases h9
   have hno : ¬ R = S:=fun h=>by
    subst h
    rw [← hr1] at hr2
    exact h9' ⟨(congrArg Prod.fst hr2).symm,(congrArg Prod.snd hr2).symm⟩
   refine rx (s:=?s10) [4] [] [] rfl ?o10 ?q10
   case o10=>simp; rfl
   refine zag ?_
   exact ⟨.inr rfl,zak.one (by simp [hno])⟩
  have h9' : k1 = k2 ∧ s1 = s2:=by simpa using h9
  refine zae ?_
  refine zav rfl ?_
  simp
  refine ⟨i + 1,⟨by omega,fun k h h' hki=>?_⟩,by omega,Le.go [] [] rfl rfl (by simp [hw1]) (by simp)⟩
  rcases Nat.lt_succ_iff_lt_or_eq.1 hki with h2 | h2
  ·exact hp k h h' h2
  ·subst h2
   rw [← hr1,← hr2,h9'.1,h9'.2]
 simp at h7
 have hyes : R = S:=List.ext_getElem h3' fun k h1 h2=>hp k h1 h2 (by omega)
 refine zan ?_
 refine hit ?_
 refine rx (s:=?s11) [4] [] [] rfl ?o11 ?q11
 case o11=>simp; rfl
 refine zag ?_
 exact ⟨.inr rfl,zak.one (by simp [hyes])⟩
theorem ztj (a f b f' : List Int) (R S : List (Int × List Int)) (ha : a.length ≤ 140737488355328) (hR : R.length ≤ 1000) (hS : S.length ≤ 1000) (hr : ∀ r ∈ R,r.2.length ≤ 140737488355328) : zai Tryz.prog zfM [eAcc a f R,eAcc b f' S] [] (.B (decide (a = b ∧ R = S))) []:=by
 refine zm8.acalls (nbz rfl) (nbz rfl) (Nat.le_refl _) ?_
 show awp _ 0 _ _ ⟨17,[(0,eAcc a f R),(1,eAcc b f' S)],[],16⟩
 have h1:=zcx a b ha
 have h2:=zkC R S hR hS hr
 refine zab ⟨17,[(2,.pv [ints a,ints f,.vs 2 false (zaN R)]),(3,.pv [ints b,ints f',.vs 2 false (zaN S)])],[],60⟩ rfl ?_ ?_
 ·simp
  exact LeH [] [16,24]
 refine zab ⟨17,[(4,.B (decide (a = b ∧ R = S)))],[],300⟩ rfl ?_ ?_
 ·by_cases hab : a = b
  ·rw [decide_eq_true hab] at h1
   simp
   refine zaj h1 (by simp) ?_
   simp
   refine zaj h2 (by simp) ?_
   simp
   exact Le.go [] [] rfl rfl (by simp [hab]) (by simp)
  ·rw [decide_eq_false hab] at h1
   simp
   refine zaj h1 (by simp) ?_
   simp
   exact Le.go [] [] rfl rfl (by simp [hab]) (by simp)
 refine zag ?_
 exact ⟨.inr rfl,zak.one (by simp)⟩
theorem zny (g : Gr) (p : Pol) : ∀ (n : Nat) (o : List Int),o.length = n → ∀ r ∈ refR g p o,r.2.length ≤ netN g
 | 0,o,h,r,hr=>by
   obtain rfl:=List.eq_nil_of_length_eq_zero h
   cases hr
 | n + 1,o,h,r,hr=>by
   have hne : o ≠ []:=fun e=>by rw [e] at h; cases h
   rw [← List.dropLast_concat_getLast hne] at hr
   have ih:=zny g p n o.dropLast (by rw [List.length_dropLast,h]; rfl)
   by_cases hc : zat g p (zaz (accR g p o.dropLast ++ [o.getLast hne]))
   ·rw [zhx hc] at hr; exact ih r hr
   ·rw [zjT hc] at hr
    rcases List.mem_append.1 hr with h2 | h2
    ·exact ih r h2
    ·rw [List.mem_singleton] at h2
     rw [h2]
     exact zok _ _
noncomputable abbrev accG (g : Gr) (p : Pol) : List Int:=accR g p (ordL (zal g p.lv) p.seeds)
noncomputable abbrev refG (g : Gr) (p : Pol) : List (Int × List Int):=refR g p (ordL (zal g p.lv) p.seeds)
theorem zmd {g : Gr} (hg : GrOk g) (p : Pol) : (accG g p).length ≤ 64:=Nat.le_trans (zqq _) (zm3 hg p)
theorem ztx {g : Gr} (hg : GrOk g) (p : Pol) : (refG g p).length ≤ 64:=Nat.le_trans (zl8 _ _ _ _ rfl) (zm3 hg p)
theorem zrT {g : Gr} (hg : GrOk g) (p : Pol) : ∀ r ∈ refG g p,r.2.length ≤ 130:=fun r hr=>by
 have h1:=zny g p _ _ rfl r hr
 have h2:=zgd hg
 have h3:=hg.1.2.1
 omega
theorem zrR {g : Gr} {p : Pol} {ks f : List Int} (hg : GrOk g) (hp : za6 g.size p) (hr : ∀ x ∈ ks,0 ≤ x ∧ x < g.size) (hs : p.seeds.length ≤ 64) (hl : ks.length ≤ 64) (hf : zfp g p ks f) : f.length ≤ 1200:=by
 have h1:=zhi hg hp hr hs hl
 have h2:=hf.ok.fit.len
 have h3:=h1.2.2.1
 simp only at h3
 omega
theorem zp3 {g : Gr} (p : Pol) : ∀ x ∈ accG g p,0 ≤ x ∧ x < g.size:=fun x hx=>by
 have h:=zcJ (zet hx)
 exact h
section
variable {g : Gr} {p : Pol}
theorem zmE (hg : GrOk g) (hp : za6 g.size p) : (p.seeds.length : Int) ≤ g.size:=by
 have h:=hp.2.1
 have hsz:=hg.1.1
 rcases Nat.eq_zero_or_pos p.seeds.length with h0 | h0
 ·omega
 have h1:=zlM h (p.seeds.length - 1) (by omega)
 have h2:=zia h (p.seeds[p.seeds.length - 1]'(by omega)) (List.getElem_mem _)
 omega
end
structure GStp where
 gone : Bool
 e : Ed
open Classical in
noncomputable def zau (g : Gr) (s : GStp) : Gr × Int:=if s.gone = true then zbr g s.e.f s.e.t else zbn g s.e
def HasE (g : Gr) (f t : Int) : Prop:=∃ x ∈ g.edges,x.f = f ∧ x.t = t
theorem Bef.asymm {a b : Ed} (h : Bef a b) : ¬ Bef b a:=by unfold Bef at *; omega
theorem Bef.irrefl (a : Ed) : ¬ Bef a a:=by unfold Bef; omega
theorem GrOk.of {s : Int} {E : List Ed} {go : List Int} (h0 : 0 ≤ s) (h1 : s ≤ 64) (hl : E.length ≤ 500) (hg : Rise go 0 (s - 1)) (hp : E.Pairwise Bef) (hf : ∀ e ∈ E,Fits ⟨s,E,go⟩ e ∧ 1 ≤ e.v ∧ e.v ≤ 3) : GrOk ⟨s,E,go⟩ :=
 ⟨⟨h0,h1,hl,hg⟩,fun i hi=>⟨(hf _ (List.getElem_mem hi)).1,(hf _ (List.getElem_mem hi)).2.1,(hf _ (List.getElem_mem hi)).2.2,fun h0=>zfK.2 (List.pairwise_iff_getElem.1 hp (i - 1) i (by simp only at hi; omega) hi (by omega))⟩⟩
variable {g : Gr} {f t : Int} {e : Ed}
theorem GrOk.val (hg : GrOk g) : ∀ e ∈ g.edges,1 ≤ e.v ∧ e.v ≤ 3:=fun e he=>by
 obtain ⟨i,hi,rfl⟩:=List.getElem_of_mem he
 exact ⟨(hg.2 i hi).2.1,(hg.2 i hi).2.2.1⟩
theorem GrOk.uniq (hg : GrOk g) {x y : Ed} (hx : x ∈ g.edges) (hy : y ∈ g.edges) (hf : x.f = y.f) (ht : x.t = y.t) : x = y:=by
 obtain ⟨i,hi,rfl⟩:=List.getElem_of_mem hx
 obtain ⟨j,hj,rfl⟩:=List.getElem_of_mem hy
 rcases Nat.lt_trichotomy i j with h | h | h
 ·have:=hg.lt j i hi hj h
  unfold Bef at this
  omega
 ·subst h; rfl
 ·have:=hg.lt i j hj hi h
  unfold Bef at this
  omega
theorem zuu {k : Nat} (h : AtE g.edges k f t) : HasE g f t:=by
 obtain ⟨h1,h2,h3⟩:=h
 exact ⟨_,List.getElem_mem h1,h2,h3⟩
theorem zsD (hg : GrOk g) {i : Nat} (hi : i < g.edges.length) (hf : g.edges[i].f = f) (ht : g.edges[i].t = t) : idxE g.edges ⟨f,t,0⟩ = i :=
 zmf (by omega) (fun j hj hjl=>by
  have:=hg.lt i j (by omega) hi hj
  unfold Bef at this ⊢
  rw [hf,ht] at this
  exact this) (fun _ hb=>by
  unfold Bef at hb
  simp only at hb
  omega)
theorem zm4 (hg : GrOk g) : AtE g.edges (idxE g.edges ⟨f,t,0⟩) f t ↔ HasE g f t:=by
 refine ⟨zuu,?_⟩
 rintro ⟨x,hx,hf,ht⟩
 obtain ⟨i,hi,rfl⟩:=List.getElem_of_mem hx
 rw [zsD hg hi hf ht]
 exact ⟨hi,hf,ht⟩
theorem zgK (hg : GrOk g) (h : HasE g f t) : zbr g f t = (zeh g f t,0) ∧ GrOk (zeh g f t) ∧ ∀ x,x ∈ (zeh g f t).edges ↔ x ∈ g.edges ∧ ¬ (x.f = f ∧ x.t = t):=by
 have hat:=(zm4 hg).2 h
 obtain ⟨x,hx,hxf,hxt⟩:=h
 obtain ⟨i,hi,rfl⟩:=List.getElem_of_mem hx
 have hix:=zsD hg hi hxf hxt
 have hE : (zeh g f t).edges = g.edges.take i ++ g.edges.drop (i + 1):=by unfold zeh; rw [hix]
 have hsub : (g.edges.take i ++ g.edges.drop (i + 1)).Sublist g.edges:=by
  have h1 : (g.edges.drop (i + 1)).Sublist (g.edges.drop i):=by
   rw [List.drop_eq_getElem_cons hi]
   exact List.sublist_cons_self _ _
  have h2:=(List.Sublist.refl (g.edges.take i)).append h1
  rwa [List.take_append_drop] at h2
 have hmem : ∀ y,y ∈ (zeh g f t).edges ↔ y ∈ g.edges ∧ ¬ (y.f = f ∧ y.t = t):=by
  intro y
  rw [hE]
  constructor
  ·intro hy
   refine ⟨hsub.subset hy,fun hc=>?_⟩
   have : y = g.edges[i]:=hg.uniq (hsub.subset hy) (List.getElem_mem hi) (hc.1.trans hxf.symm) (hc.2.trans hxt.symm)
   rcases List.mem_append.1 hy with h | h
   ·obtain ⟨j,hj,e⟩:=List.mem_take_iff_getElem.1 h
    have hjl : j < g.edges.length:=by omega
    have:=hg.lt i j hjl hi (by omega)
    rw [e,‹y = _›] at this
    exact Bef.irrefl _ this
   ·obtain ⟨j,hj,e⟩:=List.mem_drop_iff_getElem.1 h
    have:=hg.lt (i + 1 + j) i hi (by omega) (by omega)
    rw [e,‹y = _›] at this
    exact Bef.irrefl _ this
  ·rintro ⟨hy,hn⟩
   obtain ⟨j,hj,rfl⟩:=List.getElem_of_mem hy
   rcases Nat.lt_trichotomy j i with h | h | h
   ·exact List.mem_append_left _ (List.mem_take_iff_getElem.2 ⟨j,by omega,rfl⟩)
   ·subst h; exact absurd ⟨hxf,hxt⟩ hn
   ·refine List.mem_append_right _ (List.mem_drop_iff_getElem.2 ⟨j - (i + 1),by omega,?_⟩)
    congr 1
    omega
 refine ⟨?_,?_,hmem⟩
 ·unfold zbr
  rw [if_neg (fun h=>h hg),if_neg (fun h=>h hat)]
 ·have hl:=hsub.length_le
  have hp : (zeh g f t).edges.Pairwise Bef:=by rw [hE]; exact hg.pair.sublist hsub
  exact GrOk.of hg.1.1 hg.1.2.1 (by have:=hg.1.2.2.1; simp only [zeh,hix]; omega) hg.1.2.2.2 hp fun y hy=>⟨hg.fits y ((hmem y).1 hy).1,hg.val y ((hmem y).1 hy).1⟩
theorem zjH (hg : GrOk g) : (zbr g f t).2 = 0 ↔ HasE g f t:=by
 refine ⟨fun h=>?_,fun h=>by rw [(zgK hg h).1]⟩
 refine (zm4 hg).1 (Classical.byContradiction fun hn=>?_)
 unfold zbr at h
 rw [if_neg (fun h=>h hg),if_pos hn] at h
 simp at h
theorem zsF (g : Gr) (e : Ed) : ∀ x,x ∈ (zeO g e).edges ↔ x = e ∨ x ∈ g.edges:=by
 intro x
 have h : x ∈ g.edges ↔ x ∈ g.edges.take (idxE g.edges ⟨e.f,e.t,0⟩) ∨ x ∈ g.edges.drop (idxE g.edges ⟨e.f,e.t,0⟩):=by
  rw [← List.mem_append,List.take_append_drop]
 rw [h]
 simp only [zeO,List.mem_append,List.mem_cons]
 constructor <;> rintro (h | h | h) <;> simp [h]
theorem zp9 (hg : GrOk g) (hl : g.edges.length < 500) : (zbn g e).2 = 0 ↔ Fits g e ∧ (1 ≤ e.v ∧ e.v ≤ 3) ∧ ¬ HasE g e.f e.t:=by
 constructor
 ·intro h
  obtain ⟨_,h2,h3,h4,_⟩:=zhA h
  exact ⟨h2,h3,fun h=>h4 ((zm4 hg).2 h)⟩
 ·rintro ⟨h1,h2,h3⟩
  unfold zbn
  rw [if_neg (fun h=>h hg),if_neg (fun h=>h h1),if_neg (fun h=>h h2),if_neg (fun h=>h3 ((zm4 hg).1 h)),if_neg (by omega)]
theorem zqn : ∀ {a b : List Ed},a.Pairwise Bef → b.Pairwise Bef → (∀ x,x ∈ a ↔ x ∈ b) → a = b
 | [],[],_,_,_=>rfl
 | [],y :: b,_,_,h=>absurd ((h y).2 List.mem_cons_self) (by simp)
 | x :: a,[],_,_,h=>absurd ((h x).1 List.mem_cons_self) (by simp)
 | x :: a,y :: b,ha,hb,h=>by
   rw [List.pairwise_cons] at ha hb
   have hxy : x = y:=by
    rcases List.mem_cons.1 ((h x).1 List.mem_cons_self) with h1 | h1
    ·exact h1
    rcases List.mem_cons.1 ((h y).2 List.mem_cons_self) with h2 | h2
    ·exact h2.symm
    exact absurd (ha.1 y h2) (hb.1 x h1).asymm
   subst hxy
   rw [zqn ha.2 hb.2 fun z=>⟨fun hz=>?_,fun hz=>?_⟩]
   ·rcases List.mem_cons.1 ((h z).1 (List.mem_cons_of_mem _ hz)) with h1 | h1
    ·subst h1; exact absurd (ha.1 z hz) (Bef.irrefl z)
    ·exact h1
   ·rcases List.mem_cons.1 ((h z).2 (List.mem_cons_of_mem _ hz)) with h1 | h1
    ·subst h1; exact absurd (hb.1 z hz) (Bef.irrefl z)
    ·exact h1
theorem zrw {a b : Gr} (ha : GrOk a) (hb : GrOk b) (hs : a.size = b.size) (hg : a.gone = b.gone) (h : ∀ x,x ∈ a.edges ↔ x ∈ b.edges) : a = b:=by
 obtain ⟨s,E,go⟩:=a
 obtain ⟨s',E',go'⟩:=b
 have:=zqn ha.pair hb.pair h
 simp only at hs hg this
 subst hs hg this
 rfl
def OkS (g : Gr) (s : GStp) : Prop:=if s.gone = true then HasE g s.e.f s.e.t else Fits g s.e ∧ (1 ≤ s.e.v ∧ s.e.v ≤ 3) ∧ ¬ HasE g s.e.f s.e.t
structure zne (g g' : Gr) (s : GStp) : Prop where
 ok : GrOk g'
 size : g'.size = g.size
 gone : g'.gone = g.gone
 len : g'.edges.length ≤ g.edges.length + 1
 mem : ∀ x,x ∈ g'.edges ↔ (s.gone = false ∧ x = s.e) ∨ (x ∈ g.edges ∧ ¬ (s.gone = true ∧ x.f = s.e.f ∧ x.t = s.e.t))
theorem zhb (hg : GrOk g) (hl : g.edges.length < 500) (s : GStp) : (zau g s).2 = 0 ↔ OkS g s:=by
 unfold zau OkS
 by_cases h : s.gone = true
 ·rw [if_pos h,if_pos h]; exact zjH hg
 ·rw [if_neg h,if_neg h]; exact zp9 hg hl
theorem zfA (hg : GrOk g) (hl : g.edges.length < 500) {s : GStp} (h : OkS g s) : (zau g s).2 = 0 ∧ zne g (zau g s).1 s:=by
 refine ⟨(zhb hg hl s).2 h,?_⟩
 unfold OkS at h
 unfold zau
 by_cases hs : s.gone = true
 ·rw [if_pos hs] at h
  rw [if_pos hs]
  obtain ⟨h1,h2,h3⟩:=zgK hg h
  rw [h1]
  refine ⟨h2,rfl,rfl,?_,fun x=>?_⟩
  ·simp only [zeh,List.length_append,List.length_take,List.length_drop]; omega
  ·simp only [h3,hs]; simp
 ·rw [if_neg hs] at h
  rw [if_neg hs]
  obtain ⟨h1,h2,h3⟩:=h
  obtain ⟨_,_,_,_,_,h4,h5⟩:=zhA ((zp9 hg hl).2 ⟨h1,h2,h3⟩)
  rw [h4]
  refine ⟨h5,rfl,rfl,?_,fun x=>?_⟩
  ·simp only [zeO,List.length_append,List.length_take,List.length_cons,List.length_drop]; omega
  ·rw [zsF]; simp [hs]
theorem zne.has {g' : Gr} {s : GStp} (h : zne g g' s) {f t : Int} (hne : ¬ (s.e.f = f ∧ s.e.t = t)) : HasE g' f t ↔ HasE g f t:=by
 constructor
 ·rintro ⟨x,hx,hf,ht⟩
  rcases (h.mem x).1 hx with h1 | h1
  ·obtain ⟨_,rfl⟩:=h1
   exact absurd ⟨hf,ht⟩ hne
  ·exact ⟨x,h1.1,hf,ht⟩
 ·rintro ⟨x,hx,hf,ht⟩
  refine ⟨x,(h.mem x).2 (.inr ⟨hx,fun hc=>hne ?_⟩),hf,ht⟩
  exact ⟨hc.2.1.symm.trans hf,hc.2.2.symm.trans ht⟩
theorem zne.okS {g' : Gr} {s u : GStp} (h : zne g g' s) (hne : ¬ (s.e.f = u.e.f ∧ s.e.t = u.e.t)) : OkS g' u ↔ OkS g u:=by
 unfold OkS
 have hf : Fits g' u.e ↔ Fits g u.e:=by unfold Fits; rw [h.size,h.gone]
 rw [h.has hne,hf]
noncomputable def runS : Gr → List GStp → Gr × Nat × Int
 | g,[]=>(g,0,0)
 | g,s :: l=>if (zau g s).2 = 0 then ((runS (zau g s).1 l).1,(runS (zau g s).1 l).2.1 + 1,(runS (zau g s).1 l).2.2) else (g,0,(zau g s).2)
theorem zeU {s : GStp} {l : List GStp} (h : (zau g s).2 = 0) : runS g (s :: l) = ((runS (zau g s).1 l).1,(runS (zau g s).1 l).2.1 + 1,(runS (zau g s).1 l).2.2):=by simp only [runS]; rw [if_pos h]
theorem zmn {s : GStp} {l : List GStp} (h : (zau g s).2 ≠ 0) : runS g (s :: l) = (g,0,(zau g s).2):=by simp only [runS]; rw [if_neg h]
theorem zeN (hg : GrOk g) {s : GStp} (h : (zau g s).2 = 0) : GrOk (zau g s).1 ∧ (zau g s).1.size = g.size ∧ (zau g s).1.gone = g.gone ∧ (zau g s).1.edges.length ≤ g.edges.length + 1:=by
 have key : g.edges.length < 500 ∨ s.gone = true:=by
  by_cases hs : s.gone = true
  ·exact .inr hs
  ·unfold zau at h
   rw [if_neg hs] at h
   exact .inl (zhA h).2.2.2.2.1
 by_cases hs : s.gone = true
 ·unfold zau at h ⊢
  rw [if_pos hs] at h ⊢
  obtain ⟨h1,h2,h3⟩:=zgK hg ((zjH hg).1 h)
  rw [h1]
  refine ⟨h2,rfl,rfl,?_⟩
  simp only [zeh,List.length_append,List.length_take,List.length_drop]; omega
 ·have hl : g.edges.length < 500:=key.elim id fun h=>absurd h hs
  have:=(zfA hg hl ((zhb hg hl s).1 h)).2
  exact ⟨this.ok,this.size,this.gone,this.len⟩
theorem zqL (hg : GrOk g) (hl : g.edges.length < 400) (s u : GStp) (hne : ¬ (s.e.f = u.e.f ∧ s.e.t = u.e.t)) :
  ((runS g [s,u]).2.2 = 0 ↔ (runS g [u,s]).2.2 = 0) ∧ ((runS g [s,u]).2.2 = 0 → (runS g [s,u]).1 = (runS g [u,s]).1 ∧ (runS g [s,u]).2.1 = 2 ∧ (runS g [u,s]).2.1 = 2):=by
 have hne' : ¬ (u.e.f = s.e.f ∧ u.e.t = s.e.t):=fun h=>hne ⟨h.1.symm,h.2.symm⟩
 have key : ∀ s u : GStp,¬ (s.e.f = u.e.f ∧ s.e.t = u.e.t) → ((runS g [s,u]).2.2 = 0 ↔ OkS g s ∧ OkS g u):=by
  intro s u hne
  by_cases h1 : OkS g s
  ·obtain ⟨h2,h3⟩:=zfA hg (by omega) h1
   rw [zeU h2]
   by_cases h4 : (zau (zau g s).1 u).2 = 0
   ·rw [zeU h4]
    have:=(h3.okS hne).1 ((zhb h3.ok (by have:=h3.len; omega) u).1 h4)
    simp [runS,h1,this]
   ·rw [zmn h4]
    have : ¬ OkS g u:=fun h=>h4 ((zhb h3.ok (by have:=h3.len; omega) u).2 ((h3.okS hne).2 h))
    simp [h4,this]
  ·have h2 : (zau g s).2 ≠ 0:=fun h=>h1 ((zhb hg (by omega) s).1 h)
   rw [zmn h2]
   simp [h1,h2]
 refine ⟨by rw [key s u hne,key u s hne']; exact And.comm,fun h=>?_⟩
 obtain ⟨h1,h2⟩:=(key s u hne).1 h
 obtain ⟨a1,a2⟩:=zfA hg (by omega) h1
 obtain ⟨b1,b2⟩:=zfA hg (by omega) h2
 obtain ⟨c1,c2⟩:=zfA a2.ok (by have:=a2.len; omega) ((a2.okS hne).2 h2)
 obtain ⟨d1,d2⟩:=zfA b2.ok (by have:=b2.len; omega) ((b2.okS hne').2 h1)
 rw [zeU a1,zeU c1,zeU b1,zeU d1]
 refine ⟨?_,rfl,rfl⟩
 simp only [runS]
 refine zrw c2.ok d2.ok ?_ ?_ fun x=>?_
 ·rw [c2.size,a2.size,d2.size,b2.size]
 ·rw [c2.gone,a2.gone,d2.gone,b2.gone]
 ·rw [c2.mem,a2.mem,d2.mem,b2.mem]
  by_cases e1 : x = s.e
  ·subst e1
   have : ¬ (s.e = u.e):=fun h=>hne (by rw [h]; exact ⟨rfl,rfl⟩)
   simp [this,hne]
  ·by_cases e2 : x = u.e
   ·subst e2
    simp [e1,hne']
   ·simp [e1,e2]
    constructor <;> (rintro ⟨⟨h1,h2⟩,h3⟩; exact ⟨⟨h1,h3⟩,h2⟩)
theorem GrOk.nodup (hg : GrOk g) : g.edges.Nodup:=hg.pair.imp fun h he=>by subst he; exact Bef.irrefl _ h
end Go.Proofs.YthmaflecfppoiaaGreat
