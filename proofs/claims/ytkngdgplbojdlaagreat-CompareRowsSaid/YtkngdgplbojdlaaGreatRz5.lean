/- Texts of this claim,merged. -/
import Derived.Test.YtkngdgplbojdlaaGreatRz3
import Derived.Test.YtkngdgplbojdlaaGreatRz4
import Derived.Test.YtkngdgplbojdlaaGreatRz2
set_option linter.unusedSimpArgs false
set_option linter.unusedVariables false
set_option linter.unusedSectionVars false
set_option maxRecDepth 100000
set_option maxHeartbeats 8000000
noncomputable section
namespace Go.Proofs.YtkngdgplbojdlaaGreat
open Go
def zce (l : List (Int × AV)) : List (List AV):=l.map λ p=>[.sc (.int .i64 p.1),p.2]
theorem zdV (n : Int) : ∀ l : List (Int × AV),zb3 n (zce l)=(l.find? (λ p=>p.1=n)).map (·.2)
 | []=>rfl
 | (k,x)::l=>by
   have ih:=zdV n l;simp only [zce] at ih;simp only [zce,Qn,zb3,List.find?_cons]
   by_cases h : n=k
   .simp [h]
   .have h' : ¬ k=n:=λ e=>h e.symm
    simp [h,h',ih]
def MapR (rows : List (List AV)) (φ : Int->Option AV) : Prop:=∃ l : List (Int × AV),rows=zce l/\(l.map (·.1)).Nodup /\ ∀ n,zb3 n rows=φ n
theorem MapR.find {rows : List (List AV)} {φ : Int->Option AV} (h : MapR rows φ) (n : Int) : zb3 n rows=φ n:=by
 obtain ⟨_,_,_,h⟩:=h;exact h n
theorem MapR.nil : MapR [] λ _=>none:=⟨[],rfl,by simp,λ _=>rfl⟩
theorem zj4 (n : Int) (y : AV) : ∀ l : List (Int × AV),∃ l',mset n y (zce l)=zce l'/\(∀ k,k∈l'.map (·.1)↔k=n∨k∈l.map (·.1))/\((l.map (·.1)).Nodup->(l'.map (·.1)).Nodup) /\ ∀ k,zb3 k (zce l')=if k=n then some y else zb3 k (zce l)
 | []=>⟨[(n,y)],rfl,by simp,by simp,λ k=>by simp [zce,zb3]⟩
 | (i,x)::l=>by
   by_cases h : n=i
   .subst h
    refine ⟨(n,y)::l,by simp [zce,mset],by simp,by simp,λ k=>?_⟩
    simp only [zce,Qn,zb3];split <;> rfl
   .obtain ⟨l',h1,h2,h3,h4⟩:=zj4 n y l
    refine ⟨(i,x)::l',?_,λ k=>?_,λ hn=>?_,λ k=>?_⟩
    .simp only [zce] at h1
     simp [zce,mset,h,h1]
    .simp only [Qn,Qu,h2]
     constructor
     .rintro (h | h | h) <;> simp [h]
     .rintro (h | h | h) <;> simp [h]
    .rw [Qn,Q6] at hn ⊢
     exact ⟨λ hm=>((h2 i).1 hm).elim (λ e=>h e.symm) hn.1,h3 hn.2⟩
    .have h4:=h4 k
     simp only [zce] at h4;simp only [zce,Qn,zb3,h4]
     by_cases hk : k=i
     .subst hk
      simp [show ¬ k=n from λ e=>h e.symm]
     .simp [hk]
theorem MapR.set {rows : List (List AV)} {φ : Int->Option AV} (h : MapR rows φ) (n : Int) (y : AV) : MapR (mset n y rows) λ k=>if k=n then some y else φ k:=by
 obtain ⟨l,rfl,hn,hf⟩:=h;obtain ⟨l',h1,_,h3,h4⟩:=zj4 n y l;exact ⟨l',h1,h3 hn,λ k=>by rw [h1,h4,hf]⟩
theorem zjO (n : Int) : ∀ l : List (Int × AV),(l.map (·.1)).Nodup -> ∃ l',mdel n (zce l)=zce l'/\(∀ k,k∈l'.map (·.1)->k∈l.map (·.1))/\(l'.map (·.1)).Nodup /\ ∀ k,zb3 k (zce l')=if k=n then none else zb3 k (zce l)
 | [],_=>⟨[],rfl,by simp,by simp,λ k=>by simp [zce,zb3]⟩
 | (i,x)::l,hn=>by
   rw [Qn,Q6] at hn
   by_cases h : n=i
   .subst h
    refine ⟨l,by simp [zce,mdel],λ k hk=>by simp only [Qn,Qu]; exact .inr hk,hn.2,λ k=>?_⟩
    simp only [zce,Qn,zb3]
    by_cases hk : k=n
    .subst hk
     rw [if_pos rfl,show List.map (λ p : Int × AV=>[AV.sc (.int .i64 p.1),p.2]) l=zce l from rfl,zdV]
     rw [List.find?_eq_none.2]
     .rfl
     .intro p hp
      simp only [Qe];exact λ e=>hn.1 (Qg.2 ⟨p,hp,e⟩)
    .simp [hk]
   .obtain ⟨l',h1,h2,h3,h4⟩:=zjO n l hn.2
    refine ⟨(i,x)::l',?_,λ k=>?_,?_,λ k=>?_⟩
    .simp only [zce] at h1
     simp [zce,mdel,h,h1]
    .simp only [Qn,Qu]
     rintro (e | e)
     .exact .inl e
     .exact .inr (h2 k e)
    .rw [Qn,Q6]
     exact ⟨λ hm=>hn.1 (h2 i hm),h3⟩
    .have h4:=h4 k
     simp only [zce] at h4;simp only [zce,Qn,zb3,h4]
     by_cases hk : k=i
     .subst hk
      simp [show ¬ k=n from λ e=>h e.symm]
     .simp [hk]
theorem MapR.del {rows : List (List AV)} {φ : Int->Option AV} (h : MapR rows φ) (n : Int) : MapR (mdel n rows) λ k=>if k=n then none else φ k:=by
 obtain ⟨l,rfl,hn,hf⟩:=h;obtain ⟨l',h1,_,h3,h4⟩:=zjO n l hn;exact ⟨l',h1,h3,λ k=>by rw [h1,h4,hf]⟩
def dedA (a : List Int) (x : Int) : List Int:=if a.getLast? = some x then a else a++[x]
def dedF (z : List Int) : List Int:=z.foldl dedA []
theorem zfF (z : List Int) (i : Nat) (h : i<z.length) : dedF (z.take (i+1))=dedA (dedF (z.take i)) z[i]:=by
 unfold dedF;rw [Qp h,Vf];rfl
theorem zph (a : List Int) (x : Int) : (dedA a x).length<=a.length+1:=by
 unfold dedA;split <;> simp
theorem zsL (a : List Int) (x : Int) : (dedA a x).getLast? = some x:=by
 unfold dedA;split
 .assumption
 .simp
theorem zrO (z : List Int) (i : Nat) (h : i<z.length) : (dedF (z.take (i+1))).getLast? = some z[i]:=by
 rw [zfF z i h];exact zsL _ _
theorem ztN (z : List Int) : (dedF z).length<=z.length:=by
 have key : ∀ i,i<=z.length->(dedF (z.take i)).length<=i:=by
  intro i
  induction i with
  | zero=>intro _; simp [dedF]
  | succ i ih =>
    intro h;rw [zfF z i (by omega)]
    have:=zph (dedF (z.take i)) z[i];have:=ih (by omega)
    omega
 have:=key z.length (Ql _)
 rwa [Q1] at this
theorem zoz {a : List Int} {x y : Int} : y∈dedA a x↔y∈a∨y=x:=by
 unfold dedA;split
 .rename_i h
  constructor
  .exact .inl
  .rintro (h1 | rfl)
   .exact h1
   .exact List.mem_of_getLast? h
 .simp
theorem zt7 (z : List Int) (y : Int) : y∈dedF z↔y∈z:=by
 have key : ∀ (z a : List Int),y∈z.foldl dedA a↔y∈a∨y∈z:=by
  intro z
  induction z with
  | nil=>simp
  | cons x z ih =>
    intro a;rw [List.foldl_cons,ih,zoz,Qu];constructor
    .rintro ((h | h) | h) <;> simp [h]
    .rintro (h | h | h) <;> simp [h]
 have:=key z []
 simpa [dedF] using this
theorem ztw {a : List Int} {x : Int} (ha : a.Pairwise (· < ·)) (hx : ∀ y∈a,y<=x) : (dedA a x).Pairwise (· < ·):=by
 unfold dedA;split
 .exact ha
 .rename_i h
  rw [Vd];refine ⟨ha,by simp,λ y hy z hz=>?_⟩
  rw [QB] at hz;subst hz;rcases List.eq_nil_or_concat a with rfl | ⟨b,l,rfl⟩
  .simp at hy
  .simp at h
   have h1:=hx y hy;have h2:=hx l (by simp)
   simp at hy;rcases hy with hy | rfl
   .simp only [Uw,Vd] at ha
    have:=ha.2.2 y hy l (by simp)
    omega
   .omega
theorem ztA {z : List Int} (hz : z.Pairwise (· <= ·)) : (dedF z).Pairwise (· < ·):=by
 have key : ∀ (z a : List Int),z.Pairwise (· <= ·)->a.Pairwise (· < ·)->(∀ y∈a,∀ x∈z,y<=x)->(z.foldl dedA a).Pairwise (· < ·):=by
  intro z
  induction z with
  | nil=>intro a _ ha _; exact ha
  | cons x z ih =>
    intro a hz ha h;rw [Ur] at hz;refine ih _ hz.2 (ztw ha λ y hy=>h y hy x Qm) λ y hy w hw=>?_;rcases zoz.1 hy with hy | rfl
    .exact h y hy w (Qk _ hw)
    .exact hz.1 w hw
 exact key z [] hz .nil (by simp)
def nbS (k : Int) (a : List Int) (e : Ed) : List Int:=if e.t=k then putL (if e.f=k then putL a e.t else a) e.f else if e.f=k then putL a e.t else a
def nbL (l : List Ed) (k : Int) : List Int:=l.foldl (nbS k) []
theorem zvn {k : Int} {a : List Int} {e : Ed} (h : a.Pairwise (· < ·)) : (nbS k a e).Pairwise (· < ·):=by
 unfold nbS;split <;> split
 .exact zdo (zdo h)
 .exact zdo h
 .exact zdo h
 .exact h
theorem zro (l : List Ed) (k : Int) : (nbL l k).Pairwise (· < ·):=by
 have key : ∀ (l : List Ed) (a : List Int),a.Pairwise (· < ·)->(l.foldl (nbS k) a).Pairwise (· < ·):=by
  intro l
  induction l with
  | nil=>intro a h; exact h
  | cons e l ih=>intro a h; exact ih _ (zvn h)
 exact key l [] .nil
theorem zkN {l : List Ed} {k x : Int} : x∈nbL l k ↔ ∃ e∈l,(e.f=k/\e.t=x)∨(e.t=k/\e.f=x):=by
 have key : ∀ (l : List Ed) (a : List Int),x∈l.foldl (nbS k) a↔x∈a ∨ ∃ e∈l,(e.f=k/\e.t=x)∨(e.t=k/\e.f=x):=by
  intro l
  induction l with
  | nil=>intro a; simp
  | cons e l ih =>
    intro a;rw [List.foldl_cons,ih]
    have h1 : x∈nbS k a e↔x∈a∨(e.f=k/\e.t=x)∨(e.t=k/\e.f=x):=by
     unfold nbS
     by_cases h1 : e.t=k <;> by_cases h2 : e.f=k <;> simp [h1,h2,zhL]
     .rw [eq_comm (a:=k)]
     .rw [eq_comm (a:=e.f)]
     .rw [eq_comm (a:=e.t)]
    rw [h1];simp only [Qu,exists_eq_or_imp,or_assoc]
 simpa [nbL] using key l []
theorem zsa {l : List Ed} {k x : Int} (h : x∈nbL l k) : k∈nbL l x:=by
 obtain ⟨e,he,h⟩:=zkN.1 h;exact zkN.2 ⟨e,he,h.elim (λ h=>.inr ⟨h.2,h.1⟩) λ h=>.inl ⟨h.2,h.1⟩⟩
theorem ztl {l : List Ed} {k x : Int} : x∈outs l k ↔ ∃ e∈l,e.f=k/\e.t=x:=by simp [outs]
theorem zti {l : List Ed} {k x : Int} : x∈inns l k ↔ ∃ e∈l,e.t=k/\e.f=x:=by simp [inns]
theorem zxB (l : List Ed) (k : Int) : dedF (srt (srt (outs l k)++srt (inns l k)))=nbL l k:=by
 refine zeG (ztA (zmV _)) (zro l k) λ x=>?_;rw [zt7,(zbs _).mem_iff,Qo,(zbs _).mem_iff,(zbs _).mem_iff,zkN,ztl,zti];constructor
 .rintro (⟨e,he,h⟩ | ⟨e,he,h⟩)
  .exact ⟨e,he,.inl h⟩
  .exact ⟨e,he,.inr h⟩
 .rintro ⟨e,he,h | h⟩
  .exact .inl ⟨e,he,h⟩
  .exact .inr ⟨e,he,h⟩
theorem ztI (l : List Ed) (k : Int) : (outs l k).length<=l.length:=List.length_filterMap_le _ _
theorem ztP (l : List Ed) (k : Int) : (inns l k).length<=l.length:=List.length_filterMap_le _ _
structure Plc where
 k : Int
 d : ByteArray
def ltB (a b : ByteArray) : Bool:=Op.bytesLess a.toList b.toList
def cmpS (a b : ByteArray) : Int:=if ltB a b then -1 else if a.toList == b.toList then 0 else 1
def cmpP (a b : Plc) : Int:=cmpS a.d b.d
def rkS (salt : ByteArray) (k x : Int) : ByteArray:=sumB (zez salt++intY k++intY x)
def plcs (l : List Ed) (salt : ByteArray) (k : Int) : List Plc:=(nbL l k).map λ x=>⟨x,rkS salt k x⟩
def zb6 (c : Plc->Plc->Int) : List Plc->Plc->List Plc
 | [],x=>[x]
 | y::r,x=>if c x y<0 then y::zb6 c r x else x::y::r
def zbx (c : Plc->Plc->Int) (M : List Plc) : List Plc:=M.foldl (zb6 c) []
def zdf (c : Plc->Plc->Int) (M : List Plc) : List Plc:=(zbx c M).reverse
theorem zg3 (c : Plc->Plc->Int) : ∀ (r : List Plc) (x : Plc),(zb6 c r x).Perm (x::r)
 | [],x=>.refl _
 | y::r,x=>by
   unfold zb6;split
   .exact ((zg3 c r x).cons y).trans (.swap _ _ _)
   .exact .refl _
theorem zi8 (c : Plc->Plc->Int) (M : List Plc) (k : Nat) (h : k<M.length) : zbx c (M.take (k+1))=zb6 c (zbx c (M.take k)) M[k]:=by
 unfold zbx;rw [<- UH h,Uw,Vf];rfl
theorem zdl (c : Plc->Plc->Int) (M : List Plc) : (zbx c M).Perm M:=by
 have key : ∀ (M acc : List Plc),(M.foldl (zb6 c) acc).Perm (M++acc):=by
  intro M
  induction M with
  | nil=>intro acc; exact .refl _
  | cons x M ih =>
    intro acc;refine (ih _).trans ?_;refine ((zg3 c acc x).append_left M).trans ?_;simp only [QO];exact List.perm_middle
 simpa [zbx] using key M []
theorem zf4 (c : Plc->Plc->Int) (M : List Plc) : (zbx c M).length=M.length:=(zdl c M).length_eq
theorem zqB (c : Plc->Plc->Int) (M : List Plc) : (zdf c M).length=M.length:=by rw [zdf,List.length_reverse,zf4]
theorem zpR (c : Plc->Plc->Int) (x : Plc) : zbx c [x]=[x]:=rfl
def tabL (l : List Ed) (salt : ByteArray) (k : Int) : List Int:=(zdf cmpP (plcs l salt k)).map (·.k)
theorem zne (l : List Ed) (salt : ByteArray) (k : Int) : (tabL l salt k).Perm (nbL l k):=by
 unfold tabL zdf;refine ((List.reverse_perm _).trans (zdl _ _)).map _ |>.trans ?_;rw [plcs,List.map_map];exact .of_eq (List.map_id _)
theorem zkg {l : List Ed} {salt : ByteArray} {k x : Int} : x∈tabL l salt k↔x∈nbL l k:=(zne l salt k).mem_iff
def nxtT (t : List Int) (x : Int) : Int:=t.getD ((t.idxOf x+1) % t.length) 0
def rtP (T : Int->List Int) (k x : Int) : Nat->Int × Int
 | 0=>(k,x)
 | i+1=>((rtP T k x i).2,nxtT (T (rtP T k x i).2) (rtP T k x i).1)
def rtL (T : Int->List Int) (k x : Int) (n : Nat) : List Int:=k::(List.range n).map λ i=>(rtP T k x i).2
theorem zog (T : Int->List Int) (k x : Int) (n : Nat) : (rtL T k x n).length=n+1:=by simp [rtL]
theorem zv3 (T : Int->List Int) (k x : Int) : rtL T k x 1=[k,x]:=rfl
theorem ztR (T : Int->List Int) (k x : Int) (n : Nat) : rtL T k x (n+1)=rtL T k x n++[(rtP T k x n).2]:=by simp [rtL,UL]
theorem zvC (T : Int->List Int) (k x : Int) (i : Nat) : (rtP T k x (i+1)).1=(rtP T k x i).2:=rfl
theorem zs9 {t : List Int} {x : Int} (h : t≠[]) : nxtT t x∈t:=by
 unfold nxtT;have hl : 0<t.length:=Ux.2 h;rw [Qd,Qa (Uj _ hl)];exact Qj _
theorem zwZ {l : List Ed} {salt : ByteArray} {k x : Int} (h : x∈nbL l k) (i : Nat) : (rtP (tabL l salt) k x i).2∈nbL l (rtP (tabL l salt) k x i).1:=by
 induction i with
 | zero=>exact h
 | succ i ih =>
   have h1:=zsa ih
   have h2 : tabL l salt (rtP (tabL l salt) k x i).2≠[]:=λ e=>by
    have:=zkg (salt:=salt).2 h1;rw [e] at this;simp at this
   exact zkg.1 (zs9 h2)
theorem zvK {l : List Ed} {salt : ByteArray} {k x : Int} (h : x∈nbL l k) (i : Nat) : (rtP (tabL l salt) k x i).1∈tabL l salt (rtP (tabL l salt) k x i).2 :=
 zkg.2 (zsa (zwZ h i))
theorem zwL (T : Int->List Int) (k x : Int) (n : Nat) : (rtL T k x (n+1))[n]? = some (rtP T k x n).1/\(rtL T k x (n+1))[n+1]? = some (rtP T k x n).2:=by
 constructor
 .cases n with
  | zero=>rfl
  | succ n=>simp [rtL,zvC]
 .simp [rtL]
def escL (l : List Ed) (salt : ByteArray) (k : Int) (n : Int) (keys : List Int) : Int :=
 if 1<=n/\n<=100 then (((nbL l k).filter λ x=>(rtL (tabL l salt) k x n.toNat).any λ y=>decide (y∈keys)).length : Nat) else 0
def mapT (T : Int->List Int) (ks : List Int) : List (List AV):=ks.map λ k=>[.sc (.int .i64 k),ints (T k)]
def addK (ks : List Int) (k : Int) : List Int:=if k∈ks then ks else ks++[k]
theorem zmy (T : Int->List Int) (n : Int) : ∀ ks,zb3 n (mapT T ks)=if n∈ks then some (ints (T n)) else none
 | []=>rfl
 | k::ks=>by
   have ih:=zmy T n ks;simp only [mapT] at ih;simp only [mapT,Qn,zb3,ih]
   by_cases h : n=k
   .subst h; simp
   .simp [h]
theorem zoM (T : Int->List Int) (n : Int) : ∀ ks,n∉ks->mset n (ints (T n)) (mapT T ks)=mapT T (ks++[n])
 | [],_=>rfl
 | k::ks,h=>by
   have ih:=zoM T n ks λ h2=>h (Qk _ h2);have hk : ¬ n=k:=λ e=>h (e ▸ Qm);simp only [mapT] at ih;simp only [mapT,Qn,mset,QO,if_neg hk,ih]
theorem zef (T : Int->List Int) (ks : List Int) (ρ sn h m) : (mapT T ks).map (List.map (conv ρ sn h (m+2)))=mapT T ks:=by
 simp [mapT,fcd]
abbrev pcC (v : Plc) : List AV:=[.I v.k,.sc (.string v.d)]
abbrev ePl (v : Plc) : AV:=.agg (pcC v)
abbrev zaX (l : List Plc) : List (List AV):=l.map pcC
def zw6 (capt : List AV) : Prop:=∀ ρ sn h n,capt.map (conv ρ sn h (n+1))=capt
theorem Le.npP {st st' : St} {D : List Plc} (sn : List Nat) (hsz : st'.sz=st.sz) (hn : 1<=st'.n) (hh : st'.h=[(0,some ⟨2,zaX D,0⟩)]) (hs : ∀ k∈sn,1<=k) (he : st.hp 0=some ⟨2,zaX D,0⟩) (ht : ∀ p∈st'.t,Wk (conv [(0,0)] sn st.hp 4 (st.get p.1)) p.2) : Le 1 st st' :=
 Le.ents [(0,0)] sn hsz (by simp) (by simp) (by simp; omega) (λ k hk=>⟨hs k hk,by have:=hs k hk; simp; omega⟩) hn ht (λ p hp=>by
  rw [hh] at hp;simp at hp;subst hp
  exact ⟨0,_,_,rfl,by simp,he,zaA.eq (by simp [fcd]) (by simp)⟩)
theorem zpk {H T : List Plc} {y x : Plc} {h : Nat} (hh : H.length=h) : (zaX (H++y::x::T))[h]? = some (pcC y)/\(zaX (H++y::x::T))[h+1]? = some (pcC x):=by
 subst hh;constructor
 .rw [Qs,Qr (by omega)]
  simp
 .rw [Qs,Qr (by omega)]
  simp
theorem zub {H T : List Plc} {y x : Plc} {h : Nat} (hh : H.length=h) : ((zaX (H++y::x::T)).set (h+1) (pcC y)).set h (pcC x)=zaX (H++x::y::T):=by
 subst hh;simp [zaX,List.set_append]
theorem zkm (f : FuncId) (capt : List AV) (c : Plc->Plc->Int) (A M B : List Plc) (n a b : Nat) (hn : (A++M++B).length=n) (ha : A.length=a) (hb : a+M.length=b) (hl : n<=1000000) (hs : zw6 capt)
  (hc : ∀ x∈M,∀ y∈M,AcP f (ePl x::ePl y::capt) [] (.I (c x y)) []) :
  AcP 229 [.rs 0 0 n,.I a,.I b,.fn (.func f) [] capt] [⟨2,zaX (A++M++B),0⟩] (.tup []) [some ⟨2,zaX (A++zdf c M++B),0⟩]:=by
 have hs2 : ∀ ρ sn h,capt.map (conv ρ sn h 2)=capt:=λ _ _ _=>hs _ _ _ 1
 have hs3 : ∀ ρ sn h,capt.map (conv ρ sn h 3)=capt:=λ _ _ _=>hs _ _ _ 2
 have hs4 : ∀ ρ sn h,capt.map (conv ρ sn h 4)=capt:=λ _ _ _=>hs _ _ _ 3
 refine zbr.s.acalls (nbz rfl) (nbz rfl) (nbz rfl) ?_;show awp _ 1 _ _ ⟨53,[(0,.rs 0 0 n),(1,.I a),(2,.I b),(3,.fn (.func f) [] capt)],[(0,some ⟨2,zaX (A++M++B),0⟩)],16⟩
 have hlen : a+(M.length+B.length)=n:=by
  simp only [Qh] at hn;omega
 have hbn : b<=n:=by omega
 have hwa : IntKind.i64.wrap ((a : Int)+1)=((a+1 : Nat) : Int):=by rw [w6]; omega
 let Lk : Nat->List Plc:=λ k=>A++((zbx c (M.take k)).reverse++(M.drop k++B))
 have hL1 : A++M++B=Lk 1:=by
  cases M with
  | nil=>simp [Lk,zbx]
  | cons m M=>simp [Lk,zpR]
 rw [hL1];refine zaa ⟨53,[(0,.rs 0 0 n),(1,.I a),(2,.I b),(3,.fn (.func f) [] capt),(8,.I (a+1 : Nat))],[(0,some ⟨2,zaX (Lk 1),0⟩)],40⟩ rfl ?_ ?_
 .simp [hwa]
  exact LeK
 refine zad (zaj (ι:=Nat) (λ k=>⟨53,[(0,.rs 0 0 n),(1,.I a),(2,.I b),(3,.fn (.func f) [] capt),(8,.I (a+k : Nat))],[(0,some ⟨2,zaX (Lk k),0⟩)],40⟩) (λ k=>1<=k/\k<=M.length+1/\(M.length<=k->zaX (Lk k)=zaX (A++zdf c M++B))) (λ k=>M.length+1 - k) 1 ?_ (Le.refl _ _) ?_)
 .refine ⟨Ql _,by omega,λ h=>?_⟩
  simp only [Lk];rw [Qb h,Um h];simp [zdf]
 rintro k ⟨hk1,hk2,hk3⟩
 refine zab (zaa ⟨53,[(0,.rs 0 0 n),(1,.I a),(2,.I b),(3,.fn (.func f) [] capt),(8,.I (a+k : Nat)),(14,.B (decide (k<M.length)))],[(0,some ⟨2,zaX (Lk k),0⟩)],64⟩ rfl ?_ ?_)
 .simp
  exact Le.keep rfl (Ql _) (by simp <;> omega) (by simp)
 refine zac _ rfl (λ h=>zae ?_) λ h=>zai (hit ?_)
 .simp only [Qe] at h
  refine zap (ι:=Unit) (λ _=>⟨53,[(0,.rs 0 0 n),(1,.I a),(2,.I b),(3,.fn (.func f) [] capt),(8,.I (a+k : Nat))],[(0,some ⟨2,zaX (Lk (k+1)),0⟩)],64⟩) (λ _=>True) ?_ λ _ _=>?_
  .have hx : M[k]∈M:=Qj h
   have hdrop : M.drop k=M[k]::M.drop (k+1):=QQ h;have hsucc:=zi8 c M k h;generalize M[k]=x at *;obtain ⟨D,hD⟩ : ∃ D,D=M.drop (k+1)++B:=⟨_,rfl⟩;obtain ⟨R,hR⟩ : ∃ R,R=zbx c (M.take k):=⟨_,rfl⟩
   have hRm : ∀ y∈R,y∈M:=λ y hy=>by
    rw [hR] at hy;exact QY ((zdl c _).mem_iff.1 hy)
   have hRl : R.length=k:=by rw [hR,zf4]; simp; omega
   have hDl : D.length+k+1=M.length+B.length:=by rw [hD]; simp; omega
   have hLk : Lk k=A++R.reverse++x::D:=by simp only [Lk]; rw [hdrop,<- hR,hD]; simp
   have hLk1 : Lk (k+1)=A++(zb6 c R x).reverse++D:=by simp only [Lk]; rw [hsucc,<- hR,hD]; simp
   rw [hLk,hLk1];refine zad (zaa ⟨53,[(0,.rs 0 0 n),(1,.I a),(2,.I b),(3,.fn (.func f) [] capt),(8,.I (a+k : Nat)),(9,.I (a+k : Nat))],[(0,some ⟨2,zaX (A++R.reverse++x::D),0⟩)],80⟩ rfl ?_ ?_)
   .simp
    exact LeK
   refine zad ?_
   let C : List Plc × List Plc->St:=λ p=>⟨53,[(0,.rs 0 0 n),(1,.I a),(2,.I b),(3,.fn (.func f) [] capt),(8,.I (a+k : Nat)),(9,.I (a+p.2.length : Nat))],[(0,some ⟨2,zaX (A++p.2.reverse++x::(p.1++D)),0⟩)],80⟩
   refine zaj C (λ p : List Plc × List Plc=>zb6 c R x=p.1.reverse++zb6 c p.2 x/\p.1.length+p.2.length=k /\ ∀ y∈p.2,y∈M) (λ p : List Plc × List Plc=>p.2.length) ([],R) ⟨rfl,by simpa using hRl,hRm⟩ ?_ ?_
   .simp only [C,hRl,Q5]
    exact Le.refl _ _
   rintro ⟨U,V⟩ ⟨hins,hUV,hVm⟩
   simp only at hins hUV hVm
   match V,hins,hUV,hVm with
   | [],hins,hUV,hVm =>
     have hC : C (U,[])=⟨53,[(0,.rs 0 0 n),(1,.I a),(2,.I b),(3,.fn (.func f) [] capt),(8,.I (a+k : Nat)),(9,.I a)],[(0,some ⟨2,zaX (A++x::(U++D)),0⟩)],80⟩:=by simp [C]
     rw [hC];refine zab (zas ⟨53,[(0,.rs 0 0 n),(1,.I a),(2,.I b),(3,.fn (.func f) [] capt),(8,.I (a+k : Nat)),(34,.B false)],[(0,some ⟨2,zaX (A++x::(U++D)),0⟩)],216⟩ rfl ?_ ?_)
     .simp
      exact ⟨rfl,LeK⟩
     refine zac _ rfl (λ h=>by cases h) λ h=>zai (hit ?_)
     have e : A++x::(U++D)=A++(zb6 c R x).reverse++D:=by rw [hins]; simp [zb6]
     rw [<- e];exact ⟨(),trivial,Le.npP [] rfl (by simp) rfl (by simp) rfl (by simp [hs2,hs3,hs4])⟩
   | y::V',hins,hUV,hVm =>
     obtain ⟨H,hH⟩ : ∃ H,H=A++V'.reverse:=⟨_,rfl⟩;obtain ⟨T,hT⟩ : ∃ T,T=U++D:=⟨_,rfl⟩;obtain ⟨q,hq⟩ : ∃ q,q=a+V'.length:=⟨_,rfl⟩;obtain ⟨j,hj⟩ : ∃ j,j=q+1:=⟨_,rfl⟩;have hHl : H.length=q:=by rw [hH,hq]; simp; omega
     have hgl : (H++y::x::T).length=n:=by
      have e : (H++y::x::T).length=H.length+(T.length+2):=by simp
      rw [e,hHl,hT,Qh];simp at hUV;omega
     have hg1:=(zpk (T:=T) (y:=y) (x:=x) hHl).1;have hg2:=(zpk (T:=T) (y:=y) (x:=x) hHl).2;have hset:=zub (T:=T) (y:=y) (x:=x) hHl;rw [<- hj] at hg2 hset
     have hC : C (U,y::V')=⟨53,[(0,.rs 0 0 n),(1,.I a),(2,.I b),(3,.fn (.func f) [] capt),(8,.I (a+k : Nat)),(9,.I j)],[(0,some ⟨2,zaX (H++y::x::T),0⟩)],80⟩:=by
      simp [C,hH,hT,hj,hq,UE]
     rw [hC];have hcy:=hc x hx y (hVm y Qm);have hjn : j<n:=by rw [<- hgl,hj,<- hHl]; simp
     have hwj : IntKind.i64.wrap ((j : Int) - 1)=(q : Int):=by rw [w6]; omega
     have hqn : q<n:=by omega
     have haj : a<j:=by omega
     have hRl2 : (zaX (H++y::x::T)).length=n:=by rw [zaX,Qt,hgl]
     generalize hX : zaX (H++y::x::T)=X at *;have hflat : ∀ ρ sn h m,X.map (List.map (conv ρ sn h (m+1)))=X:=λ ρ sn h m=>by rw [<- hX]; simp [fcd]
     refine zab (zas ⟨53,[(0,.rs 0 0 n),(1,.I a),(2,.I b),(3,.fn (.func f) [] capt),(8,.I (a+k : Nat)),(9,.I j),(34,.B (decide (c x y<0)))],[(0,some ⟨2,X,0⟩)],216⟩ rfl ?_ ?_)
     .simp [haj,hjn,hqn,hg1,hg2,hwj]
      refine zau hcy ?_ ?_
      .simp [hs4]
      simp;exact ⟨rfl,LeK⟩
     refine zac _ rfl (λ h5=>zae ?_) λ h5=>zai (hit ?_)
     .simp only [Qe] at h5
      have hg3 : (X.set j (pcC y))[q]? = some (pcC y):=by
       rw [UF,if_neg (by omega)]
       exact hg1
      generalize hY : zaX (H++x::y::T)=Y at hset;refine zap (ι:=Unit) (λ _=>⟨53,[(0,.rs 0 0 n),(1,.I a),(2,.I b),(3,.fn (.func f) [] capt),(8,.I (a+k : Nat)),(9,.I j)],[(0,some ⟨2,Y,0⟩)],360⟩) (λ _=>True) ?_ λ _ _=>?_
      .refine zad (zaP rfl ?_)
       simp [hjn,hqn,hg1,hg2,hg3,hwj,zat];exact ⟨rfl,Le.keep rfl (Ql _) (by simp) (by simp; exact hset)⟩
      refine zan rfl ?_;simp [hwj];refine ⟨y::U,V',⟨?_,?_,?_⟩,?_,?_⟩
      .rw [hins,zb6,if_pos h5]; simp
      .simp at hUV ⊢; omega
      .exact λ z hz=>hVm z (Qk _ hz)
      .simp
      .have hC2 : C (y::U,V')=⟨53,[(0,.rs 0 0 n),(1,.I a),(2,.I b),(3,.fn (.func f) [] capt),(8,.I (a+k : Nat)),(9,.I q)],[(0,some ⟨2,Y,0⟩)],80⟩:=by rw [<- hY]; simp [C,hH,hT,hq]
       rw [hC2];have hflat2 : ∀ ρ sn h m,Y.map (List.map (conv ρ sn h (m+1)))=Y:=λ ρ sn h m=>by rw [<- hY]; simp [fcd]
       exact Le.ents [(0,0)] [] rfl (by simp) (by simp) (by simp) (by simp) (by simp) (by simp [hs2,hs3,hs4]) λ p hp=>by
        simp at hp;subst hp;exact ⟨0,_,_,rfl,by simp,rfl,zaA.eq (by simp only [zaw,hflat2]) (by simp)⟩
     .simp only [Qc] at h5
      have e : H++y::x::T=A++(zb6 c R x).reverse++D:=by rw [hins,zb6,if_neg h5,hH,hT]; simp
      rw [<- e,hX]
      exact ⟨(),trivial,Le.ents [(0,0)] [] rfl (by simp) (by simp) (by simp) (by simp) (by simp) (by simp [hs2,hs3,hs4]) λ p hp=>by
       simp at hp;subst hp
       exact ⟨0,_,_,rfl,by simp,rfl,zaA.eq (by simp only [zaw,hflat]) (by simp)⟩⟩
  have hwk : IntKind.i64.wrap (((a+k : Nat) : Int)+1)=((a+(k+1) : Nat) : Int):=by rw [w6]; omega
  refine zan rfl ?_;have hwk' : IntKind.i64.wrap ((a : Int)+(k : Int)+1)=((a+(k+1) : Nat) : Int):=by rw [<- hwk]; congr 1
  simp [hwk'];refine ⟨k+1,⟨by omega,by omega,λ h2=>?_⟩,by omega,?_⟩
  .have he : M.length=k+1:=by omega
   simp only [Lk];rw [Qb (by omega),Um (by omega)]
   simp [zdf]
  .exact Le.npP [] rfl (by simp) rfl (by simp) rfl (by simp [hs2,hs3,hs4])
 simp only [Qc] at h;rw [hk3 (by omega)]
 exact ⟨.inl rfl,⟨[],rfl,[],[],by simp [List.range,List.range.loop],by simp,by simp,by simp,by simp [List.range,List.range.loop,fcd]⟩⟩
abbrev sB (x : ByteArray) : AV:=.sc (.string x)
theorem zl0 (x : ByteArray) : AcP 224 [sB x] [] (.B false) []:=by
 refine zgp.s.ac ?_;show awp _ 0 _ _ ⟨6,[(0,sB x)],[],16⟩;refine rs [0] [] [] ?_;refine rs [2] [] [] ?_;exact zaI
theorem znF (x y : ByteArray) : AcP 214 [sB x,sB y] [] (.I (cmpS x y)) []:=by
 refine zfh.s.ac ?_;show awp _ 0 _ _ ⟨20,[(0,sB x),(1,sB y)],[],16⟩;refine zab (zal (s:=?s1) rfl ?o1 ?q1)
 case o1=>simp; rfl
 refine zab (zal (s:=?s2) rfl ?o2 ?q2)
 case o2=>simp; refine zau (zl0 _) rfl ?_; simp; rfl
 refine zab (zal (s:=?s3) rfl ?o3 ?q3)
 case o3=>simp; refine zau (zl0 _) rfl ?_; simp; rfl
 refine zab (zab (zal (s:=?s4) rfl ?o4 ?q4))
 case o4=>simp; rfl
 refine zac _ rfl (λ h=>by cases h) λ _=>zae ?_
 refine zab (zab (zal (s:=?s5) rfl ?o5 ?q5))
 case o5=>simp; rfl
 refine zac _ rfl (λ h=>by cases h) λ _=>zae ?_
 refine zab (zaa ⟨20,[(0,sB x),(1,sB y),(16,.B (ltB x y))],[],200⟩ rfl ?_ ?_)
 .simp
  exact Le.go [] [] rfl rfl (by simp [ltB]) (by simp)
 refine zac _ rfl (λ h=>?_) λ h1=>zae ?_
 .refine zab (zal (s:=?s7) rfl ?o7 ?q7)
  case o7=>simp; rfl
  exact zah ⟨.inr rfl,zao.one (by simp [cmpS,h])⟩
 refine zab (zaa ⟨20,[(0,sB x),(1,sB y),(19,.B (!(x.toList == y.toList)))],[],300⟩ rfl ?_ ?_)
 .have h2 : Op.bytesLess x.toList y.toList=false:=by simpa [ltB] using h1
  simp;exact Le.go [] [] rfl rfl (by simp [h2]) (by simp)
 refine zac _ rfl (λ h=>?_) λ h2=>zae ?_
 .refine zab (zal (s:=?s9) rfl ?o9 ?q9)
  case o9=>simp; rfl
  exact zah ⟨.inr rfl,zao.one (by simp at h h1; simp [cmpS,h,h1])⟩
 refine zab (zal (s:=?s10) rfl ?o10 ?q10)
 case o10=>simp; rfl
 exact zah ⟨.inr rfl,zao.one (by simp at h1 h2; simp [cmpS,h1,h2])⟩
theorem zof (a b : Plc) : AcP 213 [ePl a,ePl b] [] (.I (cmpP a b)) []:=by
 refine zg9.s.ac ?_;show awp _ 0 _ _ ⟨10,[(0,ePl a),(1,ePl b)],[],16⟩;refine rs [2,3] [] [16,24] ?_;refine zaa ⟨10,[(4,.I (cmpP a b))],[],200⟩ rfl ?_ ?_
 .simp
  refine cl0 (znF a.d b.d) ?_;simp;exact Le.go [] [] rfl rfl (by simp [cmpP]) (by simp)
 exact zaI
theorem zvm (n : Nat) (h : n<=12) : ∃ v : Int,True/\AcP 155 [.sc (.int .u64 n)] [] (.I v) []:=by
 refine zd7.s.acallsX (args:=[.sc (.int .u64 n)]) (hs:=[]) (λ v=>.I v) (λ _=>[]) (λ _ : Int=>True) (nbz rfl) (nbz rfl) (λ _=>Qi _) ?_;show awp _ 0 _ _ ⟨25,[(0,.sc (.int .u64 n))],[],16⟩;refine rs [0,2] [] [] ?_;have hf : ∀ k : Int,12<k->decide ((n : Int)≥k)=false:=λ k hk=>UX (by omega)
 refine zab (zaa ⟨25,[(0,.sc (.int .u64 n)),(2,.I 0),(4,.B false)],[],100⟩ rfl ?_ ?_)
 .simp
  exact Le.go [] [] rfl rfl (by simp <;> exact wkB (by rw [Qc]; omega)) (by simp)
 refine zac _ rfl (λ h=>by cases h) λ _=>zae ?_
 refine zab (zaa ⟨25,[(0,.sc (.int .u64 n)),(2,.I 0),(8,.B false)],[],200⟩ rfl ?_ ?_)
 .simp
  exact Le.go [] [] rfl rfl (by simp <;> exact wkB (by rw [Qc]; omega)) (by simp)
 refine zac _ rfl (λ h=>by cases h) λ _=>zae ?_
 refine zab (zaa ⟨25,[(0,.sc (.int .u64 n)),(2,.I 0),(14,.B false)],[],300⟩ rfl ?_ ?_)
 .simp
  exact Le.go [] [] rfl rfl (by simp <;> exact wkB (by rw [Qc]; omega)) (by simp)
 refine zac _ rfl (λ h=>by cases h) λ _=>zae ?_
 have hu : IntKind.u8.wrap (n : Int)=(n : Int):=by rw [IntKind.wrap_u8]; omega
 refine rx (s:=?s4) [2] [] [] rfl ?o4 ?q4
 case o4=>simp [hu]; refine ⟨_,Qa (by simp; omega),?_⟩; rfl
 exact zah (zhs.mk (.inr rfl) _ trivial (zao.one (.refl _)))
theorem zyo (n : Nat) (h : n<=12) : ∃ v : Int,AcP 113 [.sc (.int .u64 n)] [] (.I v) []:=by
 obtain ⟨v,_,hv⟩:=zvm n h;refine ⟨v,zi4.s.ac ?_⟩;show awp _ 0 _ _ ⟨8,[(0,.sc (.int .u64 n))],[],16⟩;refine rs [0,2] [] [] ?_;refine zab (zac _ rfl (λ h=>by simp at h) λ _=>zae ?_)
 refine rx (s:=?s2) [2] [] [] rfl ?o2 ?q2
 case o2=>simp; refine zau hv (by simp) ?_; simp; rfl
 exact zaI
theorem zvb (f : FuncId) (c : Plc->Plc->Int) (l : List Plc) (n : Nat) (v : Int) (hn : l.length=n) (hl : n<=12)
  (hc : ∀ x∈l,∀ y∈l,AcP f [ePl x,ePl y] [] (.I (c x y)) []) :
  AcP 223 [.rs 0 0 n,.I 0,.I n,.I v,.fn (.func f) [] []] [⟨2,zaX l,0⟩] (.tup []) [some ⟨2,zaX (zdf c l),0⟩]:=by
 refine zbS.s.acalls (nbz rfl) (nbz rfl) (nbz rfl) ?_;show awp _ 1 _ _ ⟨148,[(0,.rs 0 0 n),(1,.I 0),(2,.I n),(3,.I v),(4,.fn (.func f) [] [])],[(0,some ⟨2,zaX l,0⟩)],16⟩;have hins:=zkm f [] c [] l [] n 0 n (by simpa using hn) rfl (by simpa using hn) (by omega) (λ _ _ _ _=>rfl) hc
 simp only [Q5,QX] at hins;have hw : IntKind.i64.wrap (n : Int)=(n : Int):=w6;refine zaa ⟨148,[(0,.rs 0 0 n),(1,.I 0),(2,.I n),(3,.I v),(4,.fn (.func f) [] [])],[(0,some ⟨2,zaX l,0⟩)],50⟩ rfl ?_ ?_
 .simp
  exact LeI [(0,0)] []
 refine zaa ⟨148,[(0,.rs 0 0 n),(1,.I 0),(2,.I n),(3,.I v),(4,.fn (.func f) [] [])],[(0,some ⟨2,zaX l,0⟩)],100⟩ rfl ?_ ?_
 .simp
  exact LeI [(0,0)] []
 refine zad (zaj (ι:=Unit) (λ _=>⟨148,[(0,.rs 0 0 n),(1,.I 0),(2,.I n),(3,.I v),(4,.fn (.func f) [] [])],[(0,some ⟨2,zaX l,0⟩)],100⟩) (λ _=>True) (λ _=>0) () trivial (Le.refl _ _) ?_);intro _ _;refine zad (zaa ⟨148,[(0,.rs 0 0 n),(1,.I 0),(2,.I n),(3,.I v),(4,.fn (.func f) [] []),(12,.I n)],[(0,some ⟨2,zaX l,0⟩)],200⟩ rfl ?_ ?_)
 .simp [hw]
  exact LeI [(0,0)] []
 refine zab (zaa ⟨148,[(0,.rs 0 0 n),(1,.I 0),(2,.I n),(3,.I v),(4,.fn (.func f) [] []),(25,.B true)],[(0,some ⟨2,zaX l,0⟩)],300⟩ rfl ?_ ?_)
 .simp
  exact Le.go [(0,0)] [] rfl rfl (by simp <;> exact wkB (by simp; omega)) (by simp [fcd])
 refine zac _ rfl (λ _=>?_) λ h=>by cases h
 refine zaa ⟨148,[],[(0,some ⟨2,zaX (zdf c l),0⟩)],400⟩ rfl ?_ ?_
 .simp
  refine zaS (i:=0) rfl (e':=⟨2,zaX l,0⟩) (by simp [fcd]) hins (by simp) (by simp) ?_
  simp [fcd];exact LeI [(0,0)] []
 exact zah ⟨.inr rfl,⟨[],rfl,[],[],by simp [List.range,List.range.loop],by simp,by simp,by simp,by simp [List.range,List.range.loop,fcd]⟩⟩
theorem ztg (f : FuncId) (c : Plc->Plc->Int) (l : List Plc) (n : Nat) (hn : l.length=n) (hl : n<=12)
  (hc : ∀ x∈l,∀ y∈l,AcP f [ePl x,ePl y] [] (.I (c x y)) []) :
  AcP 212 [.rs 0 0 n,.fn (.func f) [] []] [⟨2,zaX l,0⟩] (.tup []) [some ⟨2,zaX (zdf c l),0⟩]:=by
 refine zbh.s.acalls (nbz rfl) (nbz rfl) (nbz rfl) ?_;show awp _ 1 _ _ ⟨14,[(0,.rs 0 0 n),(1,.fn (.func f) [] [])],[(0,some ⟨2,zaX l,0⟩)],16⟩;obtain ⟨v,hv⟩:=zyo n hl;have hw : IntKind.u64.wrap (n : Int)=(n : Int):=by rw [IntKind.wrap_u64]; omega
 refine zaa ⟨14,[(0,.rs 0 0 n),(1,.fn (.func f) [] []),(4,.I n)],[(0,some ⟨2,zaX l,0⟩)],100⟩ rfl ?_ ?_
 .simp
  exact LeI [(0,0)] []
 refine zal (s:=?s2) rfl ?o2 ?q2
 case o2 =>
  simp [hw];refine cl0 hv ?_;simp;refine zaS (i:=0) rfl (e':=⟨2,zaX l,0⟩) (by simp [fcd]) (zvb f c l n v hn hl hc) (by simp) (by simp) ?_
  simp [fcd];rfl
 exact ⟨.inl rfl,⟨[],rfl,[],[],by simp [List.range,List.range.loop],by simp,by simp,by simp,by simp [List.range,List.range.loop,fcd]⟩⟩
structure Pn where
 a : Int
 h : Int
 d : ByteArray
structure Stm where
 au : Int
 nu : Int
 pr : ByteArray
 ti : Int
 ki : Int
 a : Int
 b : Int
 c : Int
 li : List Int
 pi : List Pn
 bo : ByteArray
 sk : Int
 sd : ByteArray
def K1 (s : Stm) : Prop:=(0<=s.a/\s.a<64)/\s.a≠s.au/\1<=s.b/\s.b<=3/\s.ti<=s.c/\s.c<=2147483648
def K2 (s : Stm) : Prop:=(0<=s.a/\s.a<=199)/\s.b=0/\s.c=0
instance (s : Stm) : Decidable (K1 s):=by unfold K1; infer_instance
instance (s : Stm) : Decidable (K2 s):=by unfold K2; infer_instance
abbrev rwI (l : List Int) : List (List AV):=l.map λ n=>[AV.I n]
theorem zdR (l : List Int) (ρ sn h m) : (rwI l).map (List.map (conv ρ sn h (m+1)))=rwI l:=by simp [fcd]
theorem Le.N1 {st st' : St} {z : Nat} {X : List (List AV)} (hflat : ∀ ρ sn h m,X.map (List.map (conv ρ sn h (m+1)))=X) (hsz : st'.sz=st.sz) (hn : 1<=st'.n) (hh : st'.h=[(0,some ⟨z,X,0⟩)]) (he : st.hp 0=some ⟨z,X,0⟩) (ht : ∀ p∈st'.t,Wk (conv [(0,0)] [] st.hp 4 (st.get p.1)) p.2) : Le 1 st st' :=
 Le.ents [(0,0)] [] hsz (by simp) (by simp) (by simp; omega) (by simp) hn ht (λ p hp=>by
  rw [hh] at hp;simp at hp;subst hp
  exact ⟨0,_,_,rfl,by simp,he,zaA.eq (by simp only [zaw,hflat]) (by simp)⟩)
def cX (z W : List Int) : List Int:=W++z.drop W.length
theorem zww {z W : List Int} (h : W.length<=z.length) : (cX z W).length=z.length:=by simp [cX]; omega
theorem zwq {z W : List Int} {i : Nat} (h : W.length<=i) : (cX z W)[i]? = z[i]?:=by
 unfold cX;rw [Qr h,Q8]
 congr 1
 omega
theorem zxL {z W : List Int} {x : Int} (h : W.length<z.length) : (cX z W).set W.length x=cX z (W++[x]):=by
 unfold cX;rw [List.set_append_right _ _ (Ql _),Nat.sub_self,QQ h,List.set_cons_zero,Qh,QZ,Qx];rfl
theorem zmx {a : List Int} {x : Int} (h : a.getLast? = some x) : dedA a x=a:=if_pos h
theorem zo0 {a : List Int} {x : Int} (h : a.getLast? ≠ some x) : dedA a x=a++[x]:=if_neg h
theorem zp1 (z : List Int) (n : Nat) (hn : z.length=n) (hl : n<=1000000) : AcP 172 [.rs 0 0 n] [⟨1,rwI z,0⟩] (.rs 0 0 (dedF z).length) [some ⟨1,rwI (dedF z)++List.replicate (n - (dedF z).length) [.I 0],0⟩]:=by
 refine zdv.s.acalls (nbz rfl) (nbz rfl) (nbz rfl) ?_;show awp _ 1 _ _ ⟨61,[(0,.rs 0 0 n)],[(0,some ⟨1,rwI z,0⟩)],16⟩;have hdl:=ztN z;refine zaa ⟨61,[(0,.rs 0 0 n)],[(0,some ⟨1,rwI z,0⟩)],24⟩ rfl ?_ ?_
 .simp
  exact Le.keep rfl (by simp) (by simp) (by simp)
 refine zab (zaa ⟨61,[(0,.rs 0 0 n),(8,.B (decide (n<2)))],[(0,some ⟨1,rwI z,0⟩)],48⟩ rfl ?_ ?_)
 .simp
  exact Le.keep rfl (by simp) (by simp <;> omega) (by simp)
 have hsame : ∀ {W : List Int},W=z->rwI z=rwI W++List.replicate (n - W.length) [.I 0]:=λ h=>by subst h; rw [hn]; simp
 refine zac _ rfl (λ h=>?_) λ h=>zae ?_
 .simp only [Qe] at h
  have hd : dedF z=z:=by
   match z,hn with
   | [],_=>rfl
   | [x],_=>rfl
   | _::_::_,hn=>simp at hn; omega
  refine zab (zam ?_);refine zah ?_;rw [<- hsame hd,hd,hn];exact ⟨.inr rfl,zao.k1 rfl (by simp) (by simp [fcd])⟩
 simp only [Qc] at h;refine zab (zab (zam ?_));refine zad (zaj (ι:=Nat) (λ k=>⟨61,[(0,.rs 0 0 n),(3,.I (k+1 : Nat))],[(0,some ⟨1,rwI z,0⟩)],56⟩) (λ k=>k+1<=n/\dedF (z.take (k+1))=z.take (k+1)) (λ k=>n - k) 0 ?_ ?_ ?_)
 .refine ⟨by omega,?_⟩
  match z,hn with
  | [],hn=>simp at hn; omega
  | x::l,_=>rfl
 .exact Le.N1 (zdR z) rfl (by simp) rfl rfl (by simp)
 rintro k ⟨hk,hdk⟩
 obtain ⟨q,hq⟩ : ∃ q,q=k+1:=⟨_,rfl⟩;rw [<- hq] at hdk ⊢;refine zab (zaa ⟨61,[(0,.rs 0 0 n),(3,.I q),(13,.B (decide (q<n)))],[(0,some ⟨1,rwI z,0⟩)],88⟩ rfl ?_ ?_)
 .simp
  exact Le.keep rfl (by simp) (by simp) (by simp)
 refine zac _ rfl (λ h2=>zae ?_) λ h2=>zai (hit ?_)
 .simp only [Qe] at h2
  have hkn : k<n:=by omega
  have hwq : IntKind.i64.wrap ((q : Int) - 1)=(k : Int):=by rw [w6]; omega
  have hwk : IntKind.i64.wrap ((q : Int)+1)=((k+1+1 : Nat) : Int):=by rw [w6]; omega
  have hgq : (rwI z)[q]? = some [AV.I z[q]]:=by rw [rwI,Qs,Qa (by omega)]; rfl
  have hgk : (rwI z)[k]? = some [AV.I z[k]]:=by rw [rwI,Qs,Qa (by omega)]; rfl
  have hlk : (z.take q).getLast? = some z[k]:=by
   subst hq;rw [Qp (by omega),List.getLast?_concat]
  have hds:=zfF z q (by omega)
  rw [hdk] at hds;obtain ⟨a,ha⟩ : ∃ a,a=z[k]:=⟨_,rfl⟩;obtain ⟨b,hb⟩ : ∃ b,b=z[q]:=⟨_,rfl⟩;rw [<- ha] at hgk hlk;rw [<- hb] at hgq hds
  by_cases hab : b=a
  .
   rw [hab,zmx hlk] at hds;refine zab (zad ?_);obtain ⟨X,hX⟩ : ∃ X,X=rwI z:=⟨_,rfl⟩;have hXf:=zdR z;have hXl : X.length=n:=by rw [hX,rwI,Qt,hn]
   rw [<- hX] at hgk hgq hXf ⊢;refine zas ⟨61,[(0,.rs 0 0 n),(3,.I q),(25,.B true)],[(0,some ⟨1,X,0⟩)],168⟩ rfl ?_ ?_
   .simp [hwq,h2,hkn,hgk,hgq,hab]
    exact ⟨rfl,Le.keep rfl (by simp) (by simp) (by simp)⟩
   refine zac _ rfl (λ _=>?_) λ h=>by cases h
   refine zaa ⟨61,[(0,.rs 0 0 n),(3,.I q),(4,.rs 0 q (n - q))],[(0,some ⟨1,X,0⟩)],200⟩ rfl ?_ ?_
   .simp [show q<=n by omega]
    exact Le.keep rfl (by simp) (by simp) (by simp)
   refine zab (zaa ⟨61,[(0,.rs 0 0 n),(3,.I q),(4,.rs 0 q (n - q)),(5,.I (1 : Nat))],[(0,some ⟨1,X,0⟩)],220⟩ rfl ?_ ?_)
   .simp
    exact Le.keep rfl (by simp) (by simp) (by simp)
   rw [hX];refine zad ?_
   refine zaj (ι:=Nat) (λ j=>⟨61,[(0,.rs 0 0 n),(3,.I ((dedF (z.take (q+(j+1)))).length : Nat)),(4,.rs 0 q (n - q)),(5,.I (j+1 : Nat))],[(0,some ⟨1,rwI (cX z (dedF (z.take (q+(j+1))))),0⟩)],230⟩)
    (λ j=>q+(j+1)<=n/\(dedF (z.take (q+(j+1)))).length<=q+j) (λ j=>n - j) 0 ?_ ?_ ?_
   .refine ⟨by omega,?_⟩
    rw [hds];simp;omega
   .rw [hds]
    have e : cX z (z.take q)=z:=by unfold cX; rw [QW,Nat.min_eq_left (by omega),UR]
    rw [e];have e2 : (z.take q).length=q:=by rw [QW]; omega
    rw [e2];exact Le.N1 (zdR z) rfl (by simp) rfl rfl (by simp)
   rintro j ⟨hj,hWl⟩
   obtain ⟨r,hr⟩ : ∃ r,r=j+1:=⟨_,rfl⟩;rw [<- hr] at hj hWl ⊢;obtain ⟨W,hW⟩ : ∃ W,W=dedF (z.take (q+r)):=⟨_,rfl⟩
   have hlast : W.getLast? = some z[q+j]:=by
    rw [hW,show q+r=q+j+1 by omega]
    exact zrO z (q+j) (by omega)
   have hnext : ∀ h : q+r<z.length,dedF (z.take (q+(r+1)))=dedA W z[q+r]:=λ h=>by
    rw [hW]; exact zfF z (q+r) h
   rw [<- hW] at hWl ⊢;have hUl:=zww (z:=z) (W:=W) (by omega)
   have hUg:=λ i (h : W.length<=i)=>zwq (z:=z) h;have hUs:=λ x=>zxL (z:=z) (W:=W) (x:=x) (by omega)
   have hUf:=zdR (cX z W);obtain ⟨Y,hY⟩ : ∃ Y,Y=rwI (cX z W):=⟨_,rfl⟩;have hYl : Y.length=n:=by rw [hY,rwI,Qt,hUl,hn]
   have hYg : ∀ i,(h : i<n)->W.length<=i->Y[i]? = some [AV.I (z[i]'(by rw [hn]; exact h))]:=λ i h h2=>by
    rw [hY,rwI,Qs,hUg i h2,Qa (by omega)]
    rfl
   have hYs : ∀ x,Y.set W.length [AV.I x]=rwI (cX z (W++[x])):=λ x=>by
    rw [hY,<- hUs,rwI,rwI,List.map_set]
   have hYt : Y.take W.length=rwI W:=by
    rw [hY,rwI,<- List.map_take];unfold cX;rw [List.take_left'];rfl
   rw [<- hY] at hUf ⊢;refine zab (zaa ⟨61,[(0,.rs 0 0 n),(3,.I W.length),(4,.rs 0 q (n - q)),(5,.I r),(32,.B (decide (q+r<n)))],[(0,some ⟨1,Y,0⟩)],280⟩ rfl ?_ ?_)
   .simp
    exact Le.keep rfl (by simp) (by simp <;> omega) (by simp)
   refine zac _ rfl (λ h3=>zae ?_) λ h3=>zai (hit ?_)
   .simp only [Qe] at h3
    have hnx:=hnext (by omega)
    have hg1:=hYg (q+r) (by omega) (by omega)
    have hg2:=hYg (q+j) (by omega) (by omega)
    obtain ⟨x,hx⟩ : ∃ x,x=z[q+r]:=⟨_,rfl⟩;obtain ⟨y,hy⟩ : ∃ y,y=z[q+j]:=⟨_,rfl⟩;rw [<- hx] at hg1 hnx;rw [<- hy] at hg2 hlast;have hwr : IntKind.i64.wrap ((r : Int) - 1)=(j : Int):=by rw [w6]; omega
    have hwr1 : IntKind.i64.wrap ((r : Int)+1)=((r+1 : Nat) : Int):=by rw [w6]; omega
    have hww : IntKind.i64.wrap ((W.length : Int)+1)=((W.length+1 : Nat) : Int):=by rw [w6]; omega
    have hrn : r<n - q:=by omega
    have hjn : j<n - q:=by omega
    refine zap (ι:=Unit) (λ _=>⟨61,[(0,.rs 0 0 n),(3,.I ((dedF (z.take (q+(r+1)))).length : Nat)),(4,.rs 0 q (n - q)),(5,.I r)],[(0,some ⟨1,rwI (cX z (dedF (z.take (q+(r+1))))),0⟩)],600⟩) (λ _=>True) ?_ λ _ _=>?_
    .refine zad (zas ⟨61,[(0,.rs 0 0 n),(3,.I W.length),(4,.rs 0 q (n - q)),(5,.I r),(44,.B (decide (x≠y)))],[(0,some ⟨1,Y,0⟩)],380⟩ rfl ?_ ?_)
     .simp [hwr,hrn,hjn,hg1,hg2]
      exact ⟨rfl,Le.N1 hUf rfl (by simp) rfl rfl (by simp <;> exact wkB (by rw [QE]; simp))⟩
     refine zac _ rfl (λ h4=>?_) λ h4=>zae ?_
     .rw [Qe] at h4
      have hne : W.getLast? ≠ some x:=λ h=>by rw [hlast] at h; exact h4 (Qf h).symm
      rw [hnx,zo0 hne];have hWn : W.length<n:=by omega
      refine zaa ⟨61,[(0,.rs 0 0 n),(3,.I W.length),(4,.rs 0 q (n - q)),(5,.I r)],[(0,some ⟨1,rwI (cX z (W++[x])),0⟩)],480⟩ rfl ?_ ?_
      .have hgW:=hYg W.length hWn (Ql _)
       simp [hrn,hg1,hgW,hWn,hYs,zat];exact Le.keep rfl (by simp) (by simp) (by simp)
      refine zan rfl ?_;simp [hww];exact Le.N1 (zdR _) rfl (by simp) rfl rfl (by simp)
     .rw [Qc] at h4
      have hxy : x=y:=Decidable.not_not.1 h4;rw [hnx,zmx (by rw [hlast,hxy]),<- hY]
      exact ⟨(),trivial,Le.N1 hUf rfl (by simp) rfl rfl (by simp)⟩
    refine zan rfl ?_;simp [hwr1];refine ⟨r,⟨by omega,?_⟩,by omega,Le.N1 (zdR _) rfl (by simp) rfl rfl (by simp)⟩
    rw [hnx];have:=zph W x;omega
   simp only [Qc] at h3;have hqr : q+r=n:=by omega
   have hWz : W=dedF z:=by rw [hW,hqr,Qb (by omega)]
   rw [<- hWz] at hdl ⊢;have hWn : W.length<=n:=by omega
   have hWe : W.length+(n - W.length)=n:=by omega
   refine zaa ⟨61,[(0,.rs 0 0 n),(3,.I W.length)],[(0,some ⟨1,rwI W++List.replicate (n - W.length) [.I 0],0⟩)],700⟩ rfl ?_ ?_
   .simp [hWn,hWe,hYl,hYt]
    exact Le.N1 (X:=rwI W++List.replicate (n - W.length) [.I 0]) (by simp [fcd]) rfl (by simp) rfl (by simp [hYl]) (by simp)
   refine zab (zal (s:=?s9) rfl ?o9 ?q9)
   case o9=>simp [hWn]; rfl
   exact zah ⟨.inr rfl,zao.k1 rfl (by simp) (by simp [fcd])⟩
  .have hne : (z.take q).getLast? ≠ some b:=λ h=>by rw [hlk] at h; exact hab (Qf h).symm
   rw [zo0 hne] at hds;have hbf : (b == a)=false:=by simpa using hab
   refine zap (ι:=Unit) (λ _=>⟨61,[(0,.rs 0 0 n),(3,.I q)],[(0,some ⟨1,rwI z,0⟩)],168⟩) (λ _=>True) ?_ λ _ _=>?_
   .refine zad (zas ⟨61,[(0,.rs 0 0 n),(3,.I q),(25,.B false)],[(0,some ⟨1,rwI z,0⟩)],168⟩ rfl ?_ ?_)
    .simp [hwq,h2,hkn,hgk,hgq,hbf]
     exact ⟨rfl,Le.keep rfl (by simp) (by simp) (by simp)⟩
    refine zac _ rfl (λ h=>by cases h) λ _=>zae ?_
    exact ⟨(),trivial,Le.keep rfl (by simp) (by simp) (by simp)⟩
   refine zan rfl ?_;simp [hwk];refine ⟨k+1,⟨by omega,?_⟩,by omega,Le.N1 (zdR z) rfl (by simp) rfl rfl (by simp)⟩
   rw [<- hq,hds,Qp (by omega),<- hb]
 simp only [Qc] at h2;have hqn : q=n:=by omega
 rw [hqn,Qb (by omega)] at hdk
 refine zab (zam ?_);refine zah ?_;rw [<- hsame hdk,hdk,hn];exact ⟨.inr rfl,zao.k1 rfl (by simp) (by simp [fcd])⟩
def famH (s N : Nat) (E : Nat->List (List AV)) : List (Nat × Option Ent):=(List.range N).map λ k=>(k+1000,some ⟨s,E k,0⟩)
def famV (E : Nat->List (List AV)) (k : Nat) : AV:=.rs (k+1000) 0 (E k).length
def famO (N : Nat) (E : Nat->List (List AV)) : List (List AV):=(List.range N).map λ k=>[famV E k]
theorem zdT (N : Nat) (E : Nat->List (List AV)) : (famO N E).length=N:=by simp [famO]
theorem zbQ {N k : Nat} {E : Nat->List (List AV)} (h : k<N) : (famO N E)[k]? = some [famV E k]:=by simp [famO,h]
@[simp] theorem zyu {N k : Nat} {E : Nat->List (List AV)} (h : k<(famO N E).length) : (famO N E)[k]=[famV E k]:=by simp [famO]
theorem zbZ {α β : Type} {f : α->β} (hf : ∀ i j,f i=f j->i=j) : ∀ {l : List α},l.Nodup->(l.map f).Nodup
 | [],_=>List.nodup_nil
 | x::l,h=>by
   rw [Q6] at h;rw [Qn,Q6];refine ⟨λ hx=>?_,zbZ hf h.2⟩;obtain ⟨y,hy,e⟩:=Qg.1 hx;exact h.1 (hf _ _ e ▸ hy)
theorem zgN {α : Type} (f : Nat->Nat) (hf : ∀ i j,f i=f j->i=j) (g : Nat->α) (l : List Nat) (k : Nat) : lkp (l.map λ k=>(f k,g k)) (f k)=if k∈l then some (g k) else none:=by
 induction l with
 | nil=>simp [lkp]
 | cons i l ih =>
   simp only [Qn,lkp]
   by_cases h : i=k
   .subst h; simp
   .have h1 : f i≠f k:=λ e=>h (hf _ _ e)
    have h2 : ¬ k=i:=λ e=>h e.symm;simp [h1,ih,h2]
theorem zmj {α : Type} (f : Nat->Nat) (g : Nat->α) (l : List Nat) (j : Nat) (h : ∀ k∈l,f k≠j) : lkp (l.map λ k=>(f k,g k)) j=none:=by
 induction l with
 | nil=>simp [lkp]
 | cons i l ih =>
   simp only [Qn,lkp];rw [if_neg (h i (by simp)),ih λ k hk=>h k (by simp [hk])]
theorem zvH {s N : Nat} {E : Nat->List (List AV)} {r : List (Nat × Option Ent)} {k : Nat} (h : k<N) : lkp (famH s N E++r) (k+1000)=some (some ⟨s,E k,0⟩):=by
 rw [zdx,famH,zgN (λ k=>k+1000) (λ i j h=>by simpa using h)]
 simp [h]
theorem zoT {s N : Nat} {E : Nat->List (List AV)} {r : List (Nat × Option Ent)} {j : Nat} (h : j<1000∨1000+N<=j) : lkp (famH s N E++r) j=lkp r j:=by
 rw [zdx,famH,zmj (λ k=>k+1000) _ _ _ (λ k hk e=>by have:=QA.1 hk; omega)]
 simp
section
variable {sz n s N : Nat} {t : List (Nat × AV)} {E : Nat->List (List AV)} {r : List (Nat × Option Ent)}
theorem zuQ {k : Nat} (h : k<N) : (⟨sz,t,famH s N E++r,n⟩ : St).hp (k+1000)=some ⟨s,E k,0⟩:=by
 show (lkp _ _).getD none=_;rw [zvH h];rfl
theorem zfc {j : Nat} (h : j<1000) : (⟨sz,t,famH s N E++r,n⟩ : St).hp j=(⟨sz,t,r,n⟩ : St).hp j:=by
 show (lkp _ _).getD none=(lkp _ _).getD none;rw [zoT (.inl h)]
theorem zsJ {j : Nat} (h : 1000+N<=j) : (⟨sz,t,famH s N E++r,n⟩ : St).hp j=(⟨sz,t,r,n⟩ : St).hp j:=by
 show (lkp _ _).getD none=(lkp _ _).getD none;rw [zoT (.inr h)]
end
def famR (m a N : Nat) (L : List Nat) : List (Nat × Nat):=(m,a+1000)::(L++((List.range N).filter (· ≠ a)).map (· + 1000)).map λ j=>(j,j)
theorem zuv {m a N : Nat} {L : List Nat} (hL : L.Nodup) (h1 : ∀ j∈L,j<1000) (hm : m∉L) (hm1 : m<1000∨1000+N<=m) : ((famR m a N L).map (·.1)).Nodup:=by
 simp only [famR,Qn,List.map_map,fcd,List.map_id',Q6,Qo,Qg,Qw,QA];refine ⟨?_,?_⟩
 .rintro (h | ⟨k,⟨h,_⟩,e⟩)
  .exact hm h
  .omega
 .refine Ue.2 ⟨hL,?_,?_⟩
  .exact zbZ (λ i j h=>by simpa using h) (List.nodup_range.filter _)
  .intro x hx y hy e
   simp only [Qg] at hy;obtain ⟨k,_,e2⟩:=hy;have:=h1 x hx;omega
theorem zut {m a N : Nat} {L : List Nat} (hL : L.Nodup) (h1 : ∀ j∈L,j<1000) : ((famR m a N L).map (·.2)).Nodup:=by
 simp only [famR,Qn,List.map_map,fcd,List.map_id',Q6,Qo,Qg,Qw,QA];refine ⟨?_,?_⟩
 .rintro (h | ⟨k,⟨_,h⟩,e⟩)
  .have:=h1 _ h; omega
  .simp at h; omega
 .refine Ue.2 ⟨hL,?_,?_⟩
  .exact zbZ (λ i j h=>by simpa using h) (List.nodup_range.filter _)
  .intro x hx y hy e
   simp only [Qg] at hy;obtain ⟨k,_,e2⟩:=hy;have:=h1 x hx;omega
theorem zmr {m a N : Nat} {L : List Nat} : lkp (famR m a N L) m=some (a+1000):=by simp [famR,lkp]
theorem zdZ {m a N j : Nat} {L : List Nat} (hm : m≠j) (h : j∈L ∨ ∃ k<N,k≠a/\j=k+1000) : lkp (famR m a N L) j=some j:=by
 rw [famR,lkp,if_neg hm,zgN (λ j=>j) (λ i j h=>h) (λ j=>j),if_pos];rcases h with h | ⟨k,h1,h2,rfl⟩
 .simp [h]
 .simp [h1,h2]
def grow {α : Type} (E : Nat->List α) (a : Nat) (r : α) : Nat->List α:=λ k=>if k=a then E a++[r] else E k
theorem zcS (f : AV->AV) (hf : ∀ v,f (.sc v) = .sc v) (rows : List (List AV)) (hr : ∀ r∈rows,∀ x∈r,∃ v,x = .sc v) : rows.map (·.map f)=rows:=by
 conv=>rhs; rw [<- List.map_id rows]
 refine QG λ r hr'=>?_
 conv=>rhs; rw [id,<- List.map_id r]
 refine QG λ x hx=>?_;obtain ⟨v,rfl⟩:=hr r hr' x hx;exact hf v
theorem zrP {m a N : Nat} {L : List Nat} {E : Nat->List (List AV)} {row : List AV} {h : Nat->Option Ent} {len : Nat} (ha : a<N) (hm : m<1000∨1000+N<=m) (hlen : len=(E a).length+1) :
  ((famO N E).set a [.rs m 0 len]).map (·.map (conv (famR m a N L) [] h 4))=famO N (grow E a row):=by
 apply U9;intro j;rw [Qs,UF,zdT]
 by_cases hj : a=j
 .subst hj
  rw [if_pos rfl,if_pos ha,zbQ ha];simp [zmr,famV,grow,hlen]
 .rw [if_neg hj]
  by_cases hjN : j<N
  .rw [zbQ hjN,zbQ hjN]
   have h1 : lkp (famR m a N L) (j+1000)=some (j+1000):=zdZ (by omega) (.inr ⟨j,hjN,λ e=>hj e.symm,rfl⟩)
   have h2 : j≠a:=λ e=>hj e.symm;simp [famV,h1,grow,h2]
  .simp [famO,hjN]
theorem Le.fam {np s N a m : Nat} {E : Nat->List (List AV)} {row : List AV} (L : List Nat) {st st' : St} (hsz : st'.sz=st.sz)
  (ha : a<N) (hL : L.Nodup) (h1 : ∀ j∈L,j<1000) (hm1 : 1000+N<=m) (hn : 1000+N<=st'.n) (hnp : np<=1000)
  (hE : ∀ k<N,∀ r∈E k,∀ x∈r,∃ v,x = .sc v) (hrow : ∀ x∈row,∃ v,x = .sc v)
  (hst : ∀ k<N,k≠a->st.hp (k+1000)=some ⟨s,E k,0⟩) (hsm : st.hp m=some ⟨s,E a++[row],0⟩)
  (hst' : ∀ k<N,st'.hp (k+1000)=some ⟨s,grow E a row k,0⟩)
  (hout : ∀ j,j∉L->(j<1000∨1000+N<=j)->st'.hp j=none)
  (ht : ∀ p∈st'.t,Wk (conv (famR m a N L) [] st.hp 4 (st.get p.1)) p.2)
  (hb : ∀ j∈L,∀ e',st'.hp j=some e' -> ∃ e,st.hp j=some e/\zaA [] (zaw (famR m a N L) [] st.hp 4 e) e') : Le np st st':=by
 have hm : m∉L:=λ h=>by have:=h1 m h; omega
 refine Le.mk (famR m a N L) [] [] hsz (zuv hL h1 hm (.inr hm1)) (zut hL h1) ?_ (by simp) (by simp) (by omega) (by simp) (λ i=>?_) ?_
 .intro p hp
  simp only [famR,Qu,Qg,Qo,Qw,QA] at hp;rcases hp with rfl | ⟨j,h | ⟨k,⟨h2,_⟩,rfl⟩,rfl⟩
  .exact ⟨by simp only; omega,λ h=>by simp only at h; omega⟩
  .have:=h1 j h
   exact ⟨by simp only; omega,λ _=>rfl⟩
  .exact ⟨by simp only; omega,λ _=>rfl⟩
 .unfold St.get at *
  cases hl : lkp st'.t i with
  | none=>exact .inl (.dead _)
  | some v=>exact .inl (ht _ (zaR hl))
 .intro j e' he
  left
  by_cases hj : j∈L
  .obtain ⟨e,h2,h3⟩:=hb j hj e' he
   refine ⟨j,e,?_,h2,h3⟩;simp only [famR,Qu,Qg,Qo];exact .inr ⟨j,.inl hj,rfl⟩
  .by_cases hr : j<1000∨1000+N<=j
   .rw [hout j hj hr] at he; cases he
   .obtain ⟨k,rfl⟩ : ∃ k,j=k+1000:=⟨j - 1000,by omega⟩
    have hk : k<N:=by omega
    rw [hst' k hk] at he
    cases he
    by_cases hka : k=a
    .subst hka
     rw [show grow E k row k=E k++[row] from if_pos rfl]
     refine ⟨m,_,by simp [famR],hsm,?_⟩
     have : zaw (famR m k N L) [] st.hp 4 ⟨s,E k++[row],0⟩=⟨s,E k++[row],0⟩:=by
      simp only [zaw];rw [zcS _ λ v=>by simp [conv]]
      intro r hr x hx;rcases Qo.1 hr with h | h
      .exact hE k hk r h x hx
      .rw [QB.1 h] at hx; exact hrow x hx
     rw [this];exact zaA.rfl' (Qi _)
    .simp only [grow,if_neg hka]
     refine ⟨k+1000,_,?_,hst k hk hka,?_⟩
     .simp only [famR,Qu,Qg,Qo,Qw,QA]
      exact .inr ⟨k+1000,.inr ⟨k,⟨hk,by simpa using hka⟩,rfl⟩,rfl⟩
     .have : zaw (famR m a N L) [] st.hp 4 ⟨s,E k,0⟩=⟨s,E k,0⟩:=by
       simp only [zaw];rw [zcS _ (λ v=>by simp [conv]) _ (hE k hk)]
      rw [this];exact zaA.rfl' (Qi _)
theorem Le.fam0 {np s N o : Nat} (L : List Nat) {st st' : St} (hsz : st'.sz=st.sz) (hs : s≠0) (hL : (o::L).Nodup) (h1 : ∀ j∈o::L,j<1000/\np<=1000) (hn : 1000+N<=st'.n)
  (ho : st.hp o=some ⟨1,(List.range N).map λ _=>[.nilS],0⟩) (ho' : st'.hp o=some ⟨1,famO N λ _=>[],0⟩)
  (hst' : ∀ k<N,st'.hp (k+1000)=some ⟨s,[],0⟩)
  (hout : ∀ j,j∉o::L->(j<1000∨1000+N<=j)->st'.hp j=none)
  (ht : ∀ p∈st'.t,Wk (conv ((o::L).map λ j=>(j,j)) [] st.hp 4 (st.get p.1)) p.2)
  (hb : ∀ j∈L,∀ e',st'.hp j=some e' -> ∃ e,st.hp j=some e/\zaA [] (zaw ((o::L).map λ j=>(j,j)) [] st.hp 4 e) e') : Le np st st':=by
 have hnl : ∀ p,p∈(List.range N).map (λ k=>(k+1000,s)) ↔ ∃ k<N,p=(k+1000,s):=λ p=>by
  rw [Qg];exact ⟨λ ⟨k,h,e⟩=>⟨k,QA.1 h,e.symm⟩,λ ⟨k,h,e⟩=>⟨k,QA.2 h,e.symm⟩⟩
 have hid : ((o::L).map λ j=>(j,j)).map (·.1)=o::L:=by simp [fcd]
 have hid2 : ((o::L).map λ j=>(j,j)).map (·.2)=o::L:=by simp [fcd]
 refine Le.mk ((o::L).map λ j=>(j,j)) [] ((List.range N).map λ k=>(k+1000,s)) hsz (by rw [hid]; exact hL) (by rw [hid2]; exact hL) ?_ ?_ (by simp) (by have:=h1 o (by simp); omega) ?_ (λ i=>?_) ?_
 .intro p hp
  obtain ⟨j,hj,rfl⟩:=Qg.1 hp;have:=h1 j hj;exact ⟨by simp only; omega,λ _=>rfl⟩
 .intro p hp
  obtain ⟨k,hk,rfl⟩:=(hnl p).1 hp;have:=h1 o (by simp)
  refine ⟨by simp only; omega,by simp only; omega,?_,hs⟩
  rw [hid2];intro h;have:=h1 _ h;omega
 .rw [List.map_map]
  exact zbZ (λ i j h=>by simpa using h) List.nodup_range
 .unfold St.get at *
  cases hl : lkp st'.t i with
  | none=>exact .inl (.dead _)
  | some v=>exact .inl (ht _ (zaR hl))
 .intro j e' he
  by_cases hjo : j=o
  .subst hjo
   left
   rw [ho'] at he
   cases he;refine ⟨j,_,by simp,ho,rfl,Ql _,Qi _,.inr ⟨by simp [zaw],by simp [zaw,famO],λ i=>?_⟩⟩
   by_cases hi : i<N
   .simp only [zaw,List.map_map,fcd,Qn,Uz,Qd,Qs,List.getElem?_range hi,Q7,Qz,famO,famV,UW]
    exact ⟨.inr ⟨by simp [conv],i+1000,s,rfl,(hnl _).2 ⟨i,hi,rfl⟩⟩,trivial⟩
   .simp [zaw,famO,Qd,hi,UpL]
  .by_cases hj : j∈L
   .left
    obtain ⟨e,h2,h3⟩:=hb j hj e' he;refine ⟨j,e,by simp [hj],h2,h3.1,h3.2.1,h3.2.2.1,?_⟩
    rcases h3.2.2.2 with h | ⟨q1,q2,q3⟩
    .exact .inl h
    .refine .inr ⟨q1,q2,λ i=>?_⟩
     have key : ∀ {xs ys : List AV},UpL [] xs ys->UpL ((List.range N).map λ k=>(k+1000,s)) xs ys:=by
      intro xs
      induction xs with
      | nil=>intro ys h; cases ys <;> exact h
      | cons x xs ih =>
        intro ys h
        cases ys with
        | nil=>exact h
        | cons y ys =>
          refine ⟨?_,ih h.2⟩;rcases h.1 with h | ⟨_,_,_,_,h⟩
          .exact .inl h
          .simp at h
     exact key (q3 i)
   .by_cases hr : j<1000∨1000+N<=j
    .rw [hout j (by simp [hjo,hj]) hr] at he; cases he
    .obtain ⟨k,rfl⟩ : ∃ k,j=k+1000:=⟨j - 1000,by omega⟩
     have hk : k<N:=by omega
     rw [hst' k hk] at he
     cases he;exact .inr ⟨(hnl _).2 ⟨k,hk,rfl⟩,rfl,rfl⟩
def famI (N : Nat) : List Nat:=(List.range N).map (· + 1000)
theorem zaV {N j : Nat} : j∈famI N↔1000<=j/\j<1000+N:=by
 simp only [famI,Qg,QA];exact ⟨λ ⟨k,h,e⟩=>by omega,λ h=>⟨j - 1000,by omega,by omega⟩⟩
theorem zuy {s N o : Nat} {ρ : List (Nat × Nat)} {sn : List Nat} {hp : Nat->Option Ent} {E : Nat->List (List AV)} (hE : ∀ k<N,∀ r∈E k,∀ x∈r,∃ v,x = .sc v)
  (hρ : lkp ρ o=none) (hsn : o∈sn) (hf : ∀ k<N,k+1000∈sn) (ho : hp o=some ⟨1,famO N E,0⟩) (hh : ∀ k<N,hp (k+1000)=some ⟨s,E k,0⟩) :
  conv ρ sn hp 4 (.rs o 0 N) = .vs 1 false ((List.range N).map λ k=>[.vs s false (E k)]):=by
 simp only [conv,hρ,hsn,UY,ho,zdT,Q0,Ql,List.drop_zero]
 rw [Qb (by rw [zdT]; exact Ql _),famO,List.map_map]
 congr 1
 refine QG λ k hk=>?_;have hk:=QA.1 hk;simp only [fcd,Qn,Uz,famV,conv,lkp,hf k hk,UY,hh k hk,Q0,Ql,List.drop_zero,Q1]
 rw [zcS _ (λ v=>by simp [conv]) _ (hE k hk)]
theorem Le.famOut {np N o : Nat} {L : List Nat} {st st' : St} (hsz : st'.sz=st.sz) (hL : L.Nodup) (h1 : ∀ j∈L,j<1000) (hoL : o∉L) (hn : 1000<=st'.n) (hnp : np<=o) (hnp2 : np<=1000)
  (hout : ∀ j,j∉L->st'.hp j=none)
  (ht : ∀ p∈st'.t,Wk (conv (L.map λ j=>(j,j)) (o::famI N) st.hp 4 (st.get p.1)) p.2)
  (hb : ∀ j∈L,∀ e',st'.hp j=some e' -> ∃ e,st.hp j=some e/\zaA [] (zaw (L.map λ j=>(j,j)) (o::famI N) st.hp 4 e) e') : Le np st st':=by
 have hid : (L.map λ j=>(j,j)).map (·.1)=L:=by simp [fcd]
 have hid2 : (L.map λ j=>(j,j)).map (·.2)=L:=by simp [fcd]
 refine Le.mk (L.map λ j=>(j,j)) (o::famI N) [] hsz (by rw [hid]; exact hL) (by rw [hid2]; exact hL) ?_ (by simp) ?_ (by omega) (by simp) (λ i=>?_) ?_
 .intro p hp
  obtain ⟨j,hj,rfl⟩:=Qg.1 hp;have:=h1 j hj;exact ⟨by simp only; omega,λ _=>rfl⟩
 .intro i hi
  rw [hid];rcases Qu.1 hi with rfl | hi
  .exact ⟨hnp,hoL⟩
  .have:=zaV.1 hi
   exact ⟨by omega,λ h=>by have:=h1 i h; omega⟩
 .unfold St.get at *
  cases hl : lkp st'.t i with
  | none=>exact .inl (.dead _)
  | some v=>exact .inl (ht _ (zaR hl))
 .intro j e' he
  left
  by_cases hj : j∈L
  .obtain ⟨e,h2,h3⟩:=hb j hj e' he
   exact ⟨j,e,by simp [hj],h2,h3⟩
  .rw [hout j hj] at he; cases he
def zqj (s : Stp) : AV:=.agg [.I s.1,.sc (.bool s.2)]
open Classical in
def camF (D b : List Int) : Int->Option AV:=λ x=>if x∈D then some (if x=0 then .agg [.I (-1),.sc (.bool false)] else zqj (decS (b.getD x.toNat 0))) else none
theorem zp6 (b : List Int) : camF [0] b=λ x=>if x=0 then some (.agg [.I (-1),.sc (.bool false)]) else none:=by
 funext x
 by_cases h : x=0 <;> simp [camF,h]
theorem zrI {N : Nat} {A : List Ed} {f D b : List Int} (h : Bfs N A f D b) {s : Stp} (hT : stT A s∉D) (h0 : 0<=stT A s) (h1 : stT A s<N) :
  camF (D++[stT A s]) (b.set (stT A s).toNat (encS s))=λ x=>if x=stT A s then some (zqj s) else camF D b x:=by
 have hb : (stT A s).toNat<b.length:=by rw [h.len]; omega
 have hn0 : stT A s≠0:=λ e=>hT (e ▸ h.mem0)
 funext x
 by_cases hx : x=stT A s
 .subst hx
  simp only [camF,Qo,QB,or_true,UY,if_neg hn0];rw [Qd,List.getElem?_set_self hb,Qz,znz]
 .simp only [camF,Qo,QB,hx,or_false,Us]
  by_cases hD : x∈D
  .have hr:=h.rng x hD
   rw [if_pos hD,if_pos hD,Qd,List.getElem?_set_ne (by omega),Qd]
  .rw [if_neg hD,if_neg hD]
theorem ze7 (D b : List Int) (x : Int) : (camF D b x).isSome=decide (x∈D):=by
 by_cases h : x∈D <;> simp [camF,h]
variable {g : Gr} {S : List Int} {key : Int}
abbrev zgs (l : List Bool) : List (List AV):=l.map λ b=>[AV.B b]
variable {g : Gr} {S : List Int} {key : Int}
section
variable {P : Program} {np id : Nat} {h : Nat->Option Ent} {K : AV->List Nat->List (Nat × Option Ent)->Prop}
theorem zvZ {s i off len : Nat} (l : Nat) {e : Ent} (he : h i=some e) (hs : e.s=s) (hl : l<=len) (hK : K (.rs i (off+l) (len - l)) [i] []) : aK P np id (.slc s true false false) [.rs i off len,.sc (.int .i64 l)] h K:=by
 rw [zfR];exact ⟨l,len,0,len,rfl,hl,rfl,by simp,by simp,by simp,Ql _,rfl,⟨e,he,hs⟩,hK⟩
theorem zyr {s i off len : Nat} (r : Nat) {e : Ent} (he : h i=some e) (hs : e.s=s) (hr : r<=len) (hK : K (.rs i off r) [i] []) : aK P np id (.slc s false true false) [.rs i off len,.sc (.int .i64 r)] h K:=by
 rw [zfR];exact ⟨0,r,0,len,rfl,Qi _,rfl,by simp,by simp,by simp,hr,rfl,⟨e,he,hs⟩,hK⟩
end
structure BSt where
 D : List Int
 b : List Int
 Z : List Int
 off : Nat
 q : Nat
structure BInv (N : Nat) (A : List Ed) (f : List Int) (s : BSt) (m : Nat) : Prop where
 bfs : Bfs N A f s.D s.b
 z : s.off+s.q=s.Z.length
 d : m+s.q=s.D.length
 same : s.Z.drop s.off=s.D.drop m
section
variable {N : Nat} {A : List Ed} {f : List Int}
theorem zum {i : Nat} {k : Int} {D b : List Int} (hi : i<A.length) (hf : i<f.length) : tryS A f k (i,false) (D,b)=if A[i].f=k/\f[i]<A[i].v/\A[i].t∉D then (D++[A[i].t],b.set A[i].t.toNat ((i : Int)+1)) else (D,b):=by
 have he : arcD A i=A[i]:=by unfold arcD; rw [Qd,Qa hi,Qz]
 have hg : f.getD i 0=f[i]:=by rw [Qd,Qa hf,Qz]
 unfold tryS stF stT za1 encS;simp only [Ub,Us,he,hg,Int.sub_pos]
theorem ztm {i : Nat} {k : Int} {D b : List Int} (hi : i<A.length) (hf : i<f.length) : tryS A f k (i,true) (D,b)=if A[i].t=k/\0<f[i]/\A[i].f∉D then (D++[A[i].f],b.set A[i].f.toNat (-((i : Int)+1))) else (D,b):=by
 have he : arcD A i=A[i]:=by unfold arcD; rw [Qd,Qa hi,Qz]
 have hg : f.getD i 0=f[i]:=by rw [Qd,Qa hf,Qz]
 unfold tryS stF stT za1 encS;simp only [UY,he,hg]
theorem BInv.more {s : BSt} {m : Nat} (h : BInv N A f s m) {x : Int} {b' : List Int} (hb : Bfs N A f (s.D++[x]) b') : BInv N A f ⟨s.D++[x],b',s.Z.drop s.off++[x],0,s.q+1⟩ m:=by
 have h1:=h.z;have h2:=h.d;refine ⟨hb,?_,?_,?_⟩
 .simp only [Qh,UM,QZ]; omega
 .simp only [Qh,QZ]; omega
 .simp only [List.drop_zero]
  rw [h.same,List.drop_append_of_le_length (by omega)]
theorem BInv.pop {s : BSt} {m : Nat} (h : BInv N A f s m) (hq : 0<s.q) : BInv N A f { s with off:=s.off+1,q:=s.q - 1 } (m+1):=by
 have h1:=h.z;have h2:=h.d;refine ⟨h.bfs,by simp only; omega,by simp only; omega,?_⟩
 simp only;rw [<- List.drop_drop,h.same,List.drop_drop]
theorem BInv.head {s : BSt} {m : Nat} (h : BInv N A f s m) (hq : 0<s.q) : ∃ hm : m<s.D.length,s.Z[s.off]? = some s.D[m]:=by
 have h1:=h.z;have h2:=h.d;refine ⟨by omega,?_⟩
 have e : (s.Z.drop s.off)[0]? = (s.D.drop m)[0]?:=by rw [h.same]
 rw [Q8,Q8,Ua,Ua] at e;rw [e,Qa (by omega)]
end
theorem zj3 (N : Nat) (A : List Ed) (f : List Int) (hn : zaT ⟨N,A⟩) (hf : f.length=A.length) :
  ∃ x : List Int × List Int,(Bfs N A f x.1 x.2/\zdn A f x.1)/\AcP 116 [eN ⟨N,A⟩,ints f] [] (.rs 0 0 N) [some ⟨1,zaf x.2,0⟩]:=by
 refine zh4.s.acallsX (args:=[eN ⟨N,A⟩,ints f]) (hs:=[]) (λ x=>.rs 0 0 N) (λ x=>[some ⟨1,zaf x.2,0⟩]) (λ x : List Int × List Int=>Bfs N A f x.1 x.2/\zdn A f x.1) (nbz rfl) (nbz rfl) (λ _=>by simp) ?_
 show awp _ 0 _ _ ⟨112,[(0,eN ⟨N,A⟩),(1,ints f)],[],16⟩;obtain ⟨hn0,hn1,hal,hav⟩:=hn;simp only at hn0 hn1 hal hav;refine rs [1,2] [] [16] ?_;refine zaa ⟨112,[(1,ints f),(2,.pv (nC ⟨N,A⟩)),(5,.rs 48 0 N)],[(48,some ⟨1,zaf (List.replicate N 0),0⟩)],56⟩ rfl ?_ ?_
 .simp
  refine ⟨by omega,by omega,?_⟩
  exact LeH [(48,48)] []
 refine zaa ⟨112,[(1,ints f),(2,.pv (nC ⟨N,A⟩)),(5,.rs 48 0 N),(6,.rs 80 0 N)],[(48,some ⟨1,zaf (List.replicate N 0),0⟩),(80,some ⟨1,zgs (List.replicate N false),0⟩)],88⟩ rfl ?_ ?_
 .simp
  refine ⟨by omega,?_⟩
  exact LeH [(48,48),(72,80)] []
 have hmf:=zlT (N:=N) (by omega)
 refine zaa ⟨112,[(1,ints f),(2,.pv (nC ⟨N,A⟩)),(5,.rs 48 0 N),(6,.rs 80 0 N)],[(48,some ⟨1,zaf (List.replicate N 0),0⟩),(80,some ⟨1,zgs (zbo N [0]),0⟩)],112⟩ rfl ?_ ?_
 .have h0 : 0<N:=by omega
  simp [h0,zat];exact Le.go [(48,48),(80,80)] [] rfl rfl (by simp) (by simp [<- hmf])
 refine zaa ⟨112,[(1,ints f),(2,.pv (nC ⟨N,A⟩)),(5,.rs 48 0 N),(6,.rs 80 0 N),(7,.rs 120 0 1)],[(48,some ⟨1,zaf (List.replicate N 0),0⟩),(80,some ⟨1,zgs (zbo N [0]),0⟩),(120,some ⟨1,zaf [0],0⟩)],136⟩ rfl ?_ ?_
 .simp
  exact LeH [(48,48),(80,80),(112,120)] []
 refine zab (zad ?_)
 refine zaj (ι:=BSt × Nat) (λ s=>⟨112,[(1,ints f),(2,.pv (nC ⟨N,A⟩)),(5,.rs 48 0 N),(6,.rs 80 0 N),(7,.rs 120 s.1.off s.1.q)],[(48,some ⟨1,zaf s.1.b,0⟩),(80,some ⟨1,zgs (zbo N s.1.D),0⟩),(120,some ⟨1,zaf s.1.Z,0⟩)],136⟩)
  (λ s=>BInv N A f s.1 s.2/\zdG A f s.1.D s.2) (λ s=>N - s.2) (⟨[0],List.replicate N 0,[0],0,1⟩,0)
  ⟨⟨Bfs.start (by omega),rfl,rfl,rfl⟩,λ s _ h=>by simp at h⟩ (LeH [(48,48),(80,80),(120,120)] []) ?_
 rintro ⟨s,m⟩ ⟨hb,hcl⟩
 simp only at hb hcl;have hfew:=hb.bfs.few;have hbd:=hb.d;have hbz:=hb.z;refine zab (rk (s:=?s6) [1,2,5,6,7,22] [48,80,120] rfl ?o6 ?q6)
 case o6=>simp; rfl
 refine zac _ rfl (λ h7=>?_) λ h7=>?_
 .simp at h7
  obtain ⟨hmD,hk⟩:=hb.head h7;have hoff : s.off<s.Z.length:=by omega
  obtain ⟨k,hkd⟩ : ∃ k,k=s.D[m]:=⟨_,rfl⟩;rw [<- hkd] at hk;have hkD : k∈s.D:=hkd ▸ Qj hmD;refine zae (zad (rk (s:=?s8) [1,2,5,6,7,8] [48,80,120] rfl ?o8 ?q8))
  case o8=>simp [hk,h7]; rfl
  refine zaa ⟨112,[(1,ints f),(2,.pv (nC ⟨N,A⟩)),(5,.rs 48 0 N),(6,.rs 80 0 N),(7,.rs 120 (s.off+1) (s.q - 1)),(8,.I k)],[(48,some ⟨1,zaf s.b,0⟩),(80,some ⟨1,zgs (zbo N s.D),0⟩),(120,some ⟨1,zaf s.Z,0⟩)],300⟩ rfl ?_ ?_
  .simp
   refine zvZ 1 (i:=120) rfl rfl h7 ?_;simp;exact LeH [(48,48),(80,80),(120,120)] []
  have hpop:=hb.pop h7;refine rk (s:=?s10) [1,2,5,6,7,8,9] [48,80,120] rfl ?o10 ?q10
  case o10=>simp; rfl
  refine zad ?_
  refine zaj (ι:=BSt × Nat) (λ s=>⟨112,[(1,ints f),(2,.pv (nC ⟨N,A⟩)),(5,.rs 48 0 N),(6,.rs 80 0 N),(7,.rs 120 s.1.off s.1.q),(8,.I k),(9,.I s.2)],[(48,some ⟨1,zaf s.1.b,0⟩),(80,some ⟨1,zgs (zbo N s.1.D),0⟩),(120,some ⟨1,zaf s.1.Z,0⟩)],400⟩)
   (λ t=>BInv N A f t.1 (m+1)/\t.2<=A.length/\zdM A f t.1.D k t.2 /\ ∃ l,t.1.D=s.D++l) (λ t=>A.length - t.2) ({ s with off:=s.off+1,q:=s.q - 1 },0)
   ⟨hpop,Qi _,λ s h=>by omega,[],by simp⟩ (LeH [(48,48),(80,80),(120,120)] []) ?_
  rintro ⟨t,i⟩ ⟨ht,hi,htc,l,htl⟩
  simp only at ht hi htc htl;refine zab (rk (s:=?s11) [1,2,5,6,7,8,9,32] [48,80,120] rfl ?o11 ?q11)
  case o11=>simp; rfl
  refine zac _ rfl (λ h12=>?_) λ h12=>?_
  .simp at h12
   have hif : i<f.length:=by omega
   have hw : IntKind.i64.wrap ((i : Int)+1)=(i : Int)+1:=w6;have hw2 : IntKind.i64.wrap (-((i : Int)+1)) = -((i : Int)+1):=w6;obtain ⟨e,he⟩ : ∃ e,e=A[i]:=⟨_,rfl⟩;obtain ⟨v,hv⟩ : ∃ v,v=f[i]:=⟨_,rfl⟩;have hfwd:=λ (D b : List Int)=>zum (k:=k) (D:=D) (b:=b) h12 hif;have hbwd:=λ (D b : List Int)=>ztm (k:=k) (D:=D) (b:=b) h12 hif;rw [<- he,<- hv] at hfwd hbwd;have heo:=hav _ (Qj h12);rw [<- he] at heo;obtain ⟨e1,e2,e3,e4,_⟩:=heo;have hg1 : A[i]? = some e:=by rw [Qa h12,he]
   have hg2 : f[i]? = some v:=by rw [Qa hif,hv]
   have hkt : k∈t.D:=by rw [htl]; exact QU _ hkD
   refine zae ?_
   refine zap (ι:=BSt) (λ u=>⟨112,[(1,ints f),(2,.pv (nC ⟨N,A⟩)),(5,.rs 48 0 N),(6,.rs 80 0 N),(7,.rs 120 u.off u.q),(8,.I k),(9,.I i)],[(48,some ⟨1,zaf u.b,0⟩),(80,some ⟨1,zgs (zbo N u.D),0⟩),(120,some ⟨1,zaf u.Z,0⟩)],2000⟩)
    (λ u=>BInv N A f u (m+1)/\zdM A f u.D k (i+1) /\ ∃ l,u.D=t.D++l) ?_ λ u hu=>?_
   .refine zad (zaa ⟨112,[(1,ints f),(2,.pv (nC ⟨N,A⟩)),(5,.rs 48 0 N),(6,.rs 80 0 N),(7,.rs 120 t.off t.q),(8,.I k),(9,.I i),(10,.pv (eC e))],[(48,some ⟨1,zaf t.b,0⟩),(80,some ⟨1,zgs (zbo N t.D),0⟩),(120,some ⟨1,zaf t.Z,0⟩)],600⟩ rfl ?_ ?_)
    .simp [h12,<- he]
     exact LeH [(48,48),(80,80),(120,120)] [480]
    refine zap (ι:=BSt) (λ u=>⟨112,[(1,ints f),(2,.pv (nC ⟨N,A⟩)),(5,.rs 48 0 N),(6,.rs 80 0 N),(7,.rs 120 u.off u.q),(8,.I k),(9,.I i),(10,.pv (eC e))],[(48,some ⟨1,zaf u.b,0⟩),(80,some ⟨1,zgs (zbo N u.D),0⟩),(120,some ⟨1,zaf u.Z,0⟩)],1000⟩)
     (λ u=>BInv N A f u (m+1)/\(u.D,u.b)=tryS A f k (i,false) (t.D,t.b)) ?_ λ u hu=>?_
    .have hmk : (zbo N t.D)[e.t.toNat]? = some (decide (e.t∈t.D)):=zeJ e3 (by omega)
     have hlt : e.t.toNat<N:=by omega
     have hlt2 : e.t<(N : Int):=by omega
     refine zas ⟨112,[(1,ints f),(2,.pv (nC ⟨N,A⟩)),(5,.rs 48 0 N),(6,.rs 80 0 N),(7,.rs 120 t.off t.q),(8,.I k),(9,.I i),(10,.pv (eC e)),(60,.B (decide (e.f=k/\v<e.v/\e.t∉t.D)))],[(48,some ⟨1,zaf t.b,0⟩),(80,some ⟨1,zgs (zbo N t.D),0⟩),(120,some ⟨1,zaf t.Z,0⟩)],800⟩ rfl ?_ ?_
     .by_cases hm : e.t∈t.D
      .rw [U3 hm] at hmk
       simp
       repeat' first
        | (refine zcb (λ hb=>?_) (λ hb=>?_) <;> (try rw [hb]) <;> (try simp at hb) <;> simp [hb,hmk,hg2,e3,hlt2,hif,<- hv])
       all_goals exact ⟨rfl,Le.go [(48,48),(80,80),(120,120)] [] rfl rfl (by simp [hb,hm]) (by simp)⟩
      .rw [UX hm] at hmk
       simp
       repeat' first
        | (refine zcb (λ hb=>?_) (λ hb=>?_) <;> (try rw [hb]) <;> (try simp at hb) <;> simp [hb,hmk,hg2,e3,hlt2,hif,<- hv])
       all_goals exact ⟨rfl,Le.go [(48,48),(80,80),(120,120)] [] rfl rfl (by simp [hm]) (by simp)⟩
     refine zac _ rfl (λ h15=>?_) λ h15=>?_
     .rw [Qe] at h15
      have hs1:=hfwd t.D t.b;rw [if_pos h15] at hs1;have hbk : ∃ y,t.b[e.t.toNat]? = some y:=⟨_,Qa (by rw [ht.bfs.len]; omega)⟩
      obtain ⟨y,hy⟩:=hbk;have hbl : e.t.toNat<t.b.length:=by rw [ht.bfs.len]; omega
      have hbt : ∀ g : Int->List AV,List.take t.q (List.drop t.off (List.map g t.Z))=List.map g (t.Z.drop t.off):=λ g=>by rw [<- List.map_drop,Qb (by have:=ht.z; simp; omega)]
      have htz:=ht.z;have htd:=ht.d;have hms:=zgI (D:=t.D) e3 hlt2
      have hbu : Bfs N A f (t.D++[e.t]) (t.b.set e.t.toNat ((i : Int)+1)):=by
       have h3:=zr4 (A:=A) (f:=f) (k:=k) (s:=(i,false)) (st:=(t.D,t.b)) ht.bfs hkt h12 (by unfold stT arcD; rw [Qd,hg1]; exact e3) (by unfold stT arcD; rw [Qd,hg1]; exact hlt2)
       rw [hs1] at h3;exact h3
      have hfw:=hbu.few;rw [Qh,QZ] at hfw;refine zas ⟨112,[(1,ints f),(2,.pv (nC ⟨N,A⟩)),(5,.rs 48 0 N),(6,.rs 80 0 N),(7,.rs 120 t.off t.q),(8,.I k),(9,.I i),(10,.pv (eC e))],[(48,some ⟨1,zaf (t.b.set e.t.toNat ((i : Int)+1)),0⟩),(80,some ⟨1,zgs (zbo N (t.D++[e.t])),0⟩),(120,some ⟨1,zaf t.Z,0⟩)],900⟩ rfl ?_ ?_
      .simp [hmk,e3,hlt2,hw,hy,zat]
       exact ⟨rfl,Le.go [(48,48),(80,80),(120,120)] [] rfl rfl (by simp) (by simp [<- hms,fcd])⟩
      refine zan rfl ?_;simp [hbt];exact ⟨by omega,by omega,by omega,⟨t.D++[e.t],t.b.set e.t.toNat ((i : Int)+1),t.Z.drop t.off++[e.t],0,t.q+1⟩,⟨ht.more hbu,hs1.symm⟩,LeI [(48,48),(80,80),(932,120)] []⟩
     .rw [Qc] at h15
      have hs1:=hfwd t.D t.b;rw [if_neg h15] at hs1;exact zae ⟨t,⟨ht,hs1.symm⟩,LeH [(48,48),(80,80),(120,120)] []⟩
    obtain ⟨hu1,hu2⟩:=hu
    have hku : k∈u.D:=by
     obtain ⟨l1,e1⟩:=zhB (A:=A) (f:=f) (k:=k) (s:=(i,false)) (st:=(t.D,t.b));rw [<- hu2] at e1;simp only at e1;rw [e1];exact QU _ hkt
    have hul : ∃ l,u.D=t.D++l:=by
     obtain ⟨l1,e1⟩:=zhB (A:=A) (f:=f) (k:=k) (s:=(i,false)) (st:=(t.D,t.b));rw [<- hu2] at e1;exact ⟨l1,e1⟩
    have hcl2 : zdM A f (tryS A f k (i,true) (u.D,u.b)).1 k (i+1):=by
     rw [hu2];exact zdM.try2 (st:=(t.D,t.b)) htc
    have hmk : (zbo N u.D)[e.f.toNat]? = some (decide (e.f∈u.D)):=zeJ e1 (by omega)
    have hlt : e.f.toNat<N:=by omega
    have hlt2 : e.f<(N : Int):=by omega
    have hub:=hbwd u.D u.b;refine zaa ⟨112,[(1,ints f),(2,.pv (nC ⟨N,A⟩)),(5,.rs 48 0 N),(6,.rs 80 0 N),(7,.rs 120 u.off u.q),(8,.I k),(9,.I i),(10,.pv (eC e)),(94,.B (decide (e.t=k/\0<v/\e.f∉u.D)))],[(48,some ⟨1,zaf u.b,0⟩),(80,some ⟨1,zgs (zbo N u.D),0⟩),(120,some ⟨1,zaf u.Z,0⟩)],1200⟩ rfl ?_ ?_
    .by_cases hm : e.f∈u.D
     .rw [U3 hm] at hmk
      simp
      repeat' first
       | (refine zcb (λ hb=>?_) (λ hb=>?_) <;> (try rw [hb]) <;> (try simp at hb) <;> simp [hb,hmk,hg2,e1,hlt2,hif,<- hv])
      all_goals exact Le.go [(48,48),(80,80),(120,120)] [] rfl rfl (by simp [hb,hm]) (by simp)
     .rw [UX hm] at hmk
      simp
      repeat' first
       | (refine zcb (λ hb=>?_) (λ hb=>?_) <;> (try rw [hb]) <;> (try simp at hb) <;> simp [hb,hmk,hg2,e1,hlt2,hif,<- hv])
      all_goals exact Le.go [(48,48),(80,80),(120,120)] [] rfl rfl (by simp [hm]) (by simp)
    refine zac _ rfl (λ h15=>?_) λ h15=>?_
    .rw [Qe] at h15
     rw [if_pos h15] at hub;obtain ⟨y,hy⟩ : ∃ y,u.b[e.f.toNat]? = some y:=⟨_,Qa (by rw [hu1.bfs.len]; omega)⟩
     have hbt : ∀ g : Int->List AV,List.take u.q (List.drop u.off (List.map g u.Z))=List.map g (u.Z.drop u.off):=λ g=>by rw [<- List.map_drop,Qb (by have:=hu1.z; simp; omega)]
     have htz:=hu1.z;have htd:=hu1.d;have hms:=zgI (D:=u.D) e1 hlt2
     have hbu : Bfs N A f (u.D++[e.f]) (u.b.set e.f.toNat (-((i : Int)+1))):=by
      have h3:=zr4 (A:=A) (f:=f) (k:=k) (s:=(i,true)) (st:=(u.D,u.b)) hu1.bfs hku h12 (by unfold stT arcD; rw [Qd,hg1]; exact e1) (by unfold stT arcD; rw [Qd,hg1]; exact hlt2)
      rw [hub] at h3;exact h3
     have hfw:=hbu.few;rw [Qh,QZ] at hfw;refine zas ⟨112,[(1,ints f),(2,.pv (nC ⟨N,A⟩)),(5,.rs 48 0 N),(6,.rs 80 0 N),(7,.rs 120 u.off u.q),(8,.I k),(9,.I i),(10,.pv (eC e))],[(48,some ⟨1,zaf (u.b.set e.f.toNat (-((i : Int)+1))),0⟩),(80,some ⟨1,zgs (zbo N (u.D++[e.f])),0⟩),(120,some ⟨1,zaf u.Z,0⟩)],1400⟩ rfl ?_ ?_
     .simp [hmk,e1,hlt2,hw,hw2,hy,zat]
      exact ⟨rfl,Le.go [(48,48),(80,80),(120,120)] [] rfl rfl (by simp) (by simp [<- hms,fcd])⟩
     refine zan rfl ?_;simp [hbt];rw [hub] at hcl2;refine ⟨by omega,by omega,by omega,⟨u.D++[e.f],u.b.set e.f.toNat (-((i : Int)+1)),u.Z.drop u.off++[e.f],0,u.q+1⟩,⟨hu1.more hbu,hcl2,?_⟩,LeI [(48,48),(80,80),(1432,120)] []⟩
     obtain ⟨l1,e1⟩:=hul;exact ⟨l1++[e.f],by simp only [e1,Qx]⟩
    .rw [Qc] at h15
     rw [if_neg h15] at hub;rw [hub] at hcl2;exact zae ⟨u,⟨hu1,hcl2,hul⟩,LeH [(48,48),(80,80),(120,120)] []⟩
   obtain ⟨hu1,hu2,l2,hu3⟩:=hu;refine zam ?_;exact ⟨(u,i+1),⟨hu1,h12,hu2,l++l2,by rw [hu3,htl,Qx]⟩,Nat.sub_lt_sub_left h12 (Nat.lt_succ_self i),Le.go [(48,48),(80,80),(120,120)] [] rfl rfl (by simp [hw]) (by simp)⟩
  simp at h12;obtain rfl : i=A.length:=by omega
  refine zai (hit ?_);rw [hkd] at htc;refine ⟨(t,m+1),⟨ht,zdG.next hmD hcl htc htl⟩,?_,LeH [(48,48),(80,80),(120,120)] []⟩
  simp only;omega
 simp at h7;have hmD : m=s.D.length:=by omega
 refine zai (hit (rk (s:=?s23) [4] [48] rfl ?o23 ?q23))
 case o23=>simp; rfl
 exact zah (zhs.mk (.inr rfl) (s.D,s.b) ⟨hb.bfs,by rw [hmD] at hcl; exact hcl.all⟩ (zao.out [48] [] rfl (by simp) (by simp) (by simp) (by simp [fcd])))
abbrev zba (s : Stp) : List AV:=[.I s.1,.B s.2]
def zfG (A : List Ed) : Nat->Nat->List Stp
 | 0,_=>[]
 | i+1,k=>zfG A i k++(if (arcD A i).f=k then [(i,false)] else [])++(if (arcD A i).t=k then [(i,true)] else [])
theorem zjB {A : List Ed} {s : Stp} {k : Nat} : ∀ {i : Nat},s∈zfG A i k↔s.1<i/\stF A s=k
 | 0=>by simp [zfG]
 | i+1=>by
   obtain ⟨j,c⟩:=s;have ih:=zjB (A:=A) (s:=(j,c)) (k:=k) (i:=i);simp only [zfG,Qo,ih];unfold stF;simp only;constructor
   .rintro ((h | h) | h)
    .exact ⟨by omega,h.2⟩
    .split at h
     .rename_i e
      simp at h;obtain ⟨rfl,rfl⟩:=h;exact ⟨by omega,by simpa using e⟩
     .simp at h
    .split at h
     .rename_i e
      simp at h;obtain ⟨rfl,rfl⟩:=h;exact ⟨by omega,by simpa using e⟩
     .simp at h
   .rintro ⟨h1,h2⟩
    rcases QS.1 h1 with h | h
    .exact .inl (.inl ⟨h,h2⟩)
    .subst h
     cases c
     .have : (arcD A j).f=k:=by simpa using h2
      rw [if_pos this];exact .inl (.inr (by simp))
     .have : (arcD A j).t=k:=by simpa using h2
      rw [if_pos this];exact .inr (by simp)
theorem zgG (A : List Ed) (k : Nat) : ∀ i,(zfG A i k).length<=2*i
 | 0=>Ql _
 | i+1=>by
   have ih:=zgG A k i;simp only [zfG,Qh];split <;> split <;> simp <;> omega
def famE (A : List Ed) (i : Nat) : Nat->List (List AV):=λ k=>(zfG A i k).map zba
theorem zpp (A : List Ed) (i k : Nat) : ∀ r∈famE A i k,∀ x∈r,∃ v,x = .sc v:=by
 intro r hr x hx;obtain ⟨s,_,rfl⟩:=Qg.1 hr;simp only [zba,Qu,Uk,or_false] at hx;rcases hx with rfl | rfl
 .exact ⟨_,rfl⟩
 .exact ⟨_,rfl⟩
theorem ztH (A : List Ed) (i k : Nat) : (famE A i k).length<=2*i:=by unfold famE; rw [Qt]; exact zgG A k i
theorem ztW {E : Nat->List (List AV)} {a : Nat} {row : List AV} (hE : ∀ k,∀ r∈E k,∀ x∈r,∃ v,x=AV.sc v) (hr : ∀ x∈row,∃ v,x=AV.sc v) (k : Nat) : ∀ r∈grow E a row k,∀ x∈r,∃ v,x=AV.sc v:=by
 unfold grow;intro r h;split at h
 .rcases Qo.1 h with h | h
  .exact hE a r h
  .rw [QB.1 h]; exact hr
 .exact hE k r h
theorem zsP {A : List Ed} {i a b : Nat} (ha : (arcD A i).f=a) (hb : (arcD A i).t=b) (hab : a≠b) : famE A (i+1)=grow (grow (famE A i) a (zba (i,false))) b (zba (i,true)):=by
 funext k
 simp only [famE,zfG,grow,ha,hb,Q4,Int.natCast_inj]
 by_cases h1 : k=a
 .subst h1
  simp [hab,hab.symm]
 .by_cases h2 : k=b
  .subst h2
   simp [hab,h1]
  .have h3 : ¬ a=k:=λ e=>h1 e.symm
   have h4 : ¬ b=k:=λ e=>h2 e.symm;simp [h1,h2,h3,h4]
theorem zis (s : Stp) : ∀ x∈zba s,∃ v,x=AV.sc v:=by
 intro x hx;simp only [zba,Qu,Uk,or_false] at hx;rcases hx with rfl | rfl
 .exact ⟨_,rfl⟩
 .exact ⟨_,rfl⟩
abbrev atV (N : Nat) (A : List Ed) : AV:=.vs 1 false ((List.range N).map λ k=>[.vs 2 false (famE A A.length k)])
theorem Le.slot {np sz n n' : Nat} {t t' : List (Nat × AV)} {h : List (Nat × Option Ent)} (hn : n<=n') (ht : ∀ p∈t',(⟨sz,t,h,n⟩ : St).get p.1=p.2) : Le np ⟨sz,t,h,n⟩ ⟨sz,t',h,n'⟩:=by
 intro T0 M0 w0 T M a w ok hnp;refine ⟨T,M,⟨ok.sz,ok.df,λ i=>?_,ok.hs,λ id g hg=>U7 (ok.dom id g hg) hn,ok.after⟩,QH hnp hn⟩;show Rep T w M ((lkp t' i).getD .dead) _
 cases hl : lkp t' i with
 | none=>exact .dead _ _
 | some v =>
   have:=ht _ (zaR hl);simp only at this;show Rep T w M v _;rw [<- this];exact ok.tm i
def famS (N : Nat) (L : List Nat) : List (Nat × Nat):=(L++famI N).map λ j=>(j,j)
theorem zfC {N j : Nat} {L : List Nat} (h : j∈L ∨ ∃ k<N,j=k+1000) : lkp (famS N L) j=some j:=by
 rw [famS,zgN (λ j=>j) (λ i j h=>h) (λ j=>j),if_pos];rcases h with h | ⟨k,h1,rfl⟩
 .simp [h]
 .exact UD _ (zaV.2 (by omega))
theorem znN {N j : Nat} {L : List Nat} (h : j∉L) (h2 : 1000+N<=j) : lkp (famS N L) j=none:=by
 rw [famS,zgN (λ j=>j) (λ i j h=>h) (λ j=>j),if_neg];rw [Qo,not_or];exact ⟨h,λ hm=>by have:=zaV.1 hm; omega⟩
theorem zqQ {N : Nat} {L sn : List Nat} {E : Nat->List (List AV)} {h : Nat->Option Ent} : (famO N E).map (·.map (conv (famS N L) sn h 4))=famO N E:=by
 conv=>rhs; rw [<- List.map_id (famO N E)]
 refine QG λ r hr=>?_;obtain ⟨k,hk,rfl⟩:=Qg.1 hr;have:=zfC (N:=N) (L:=L) (j:=k+1000) (.inr ⟨k,QA.1 hk,rfl⟩);simp [famV,this]
theorem Le.famS {np s N : Nat} {E : Nat->List (List AV)} (L sn : List Nat) {st st' : St} (hsz : st'.sz=st.sz)
  (hL : L.Nodup) (h1 : ∀ j∈L,j<1000) (hn : 1000+N<=st'.n) (hnp : np<=1000) (hsn : ∀ j∈sn,1000+N<=j)
  (hE : ∀ k<N,∀ r∈E k,∀ x∈r,∃ v,x = .sc v)
  (hst : ∀ k<N,st.hp (k+1000)=some ⟨s,E k,0⟩) (hst' : ∀ k<N,st'.hp (k+1000)=some ⟨s,E k,0⟩)
  (hout : ∀ j,j∉L->(j<1000∨1000+N<=j)->st'.hp j=none)
  (ht : ∀ p∈st'.t,Wk (conv (famS N L) sn st.hp 4 (st.get p.1)) p.2)
  (hb : ∀ j∈L,∀ e',st'.hp j=some e' -> ∃ e,st.hp j=some e/\zaA [] (zaw (famS N L) sn st.hp 4 e) e') : Le np st st':=by
 have hid : (Go.Proofs.YtkngdgplbojdlaaGreat.famS N L).map (·.1)=L++famI N:=by simp [Go.Proofs.YtkngdgplbojdlaaGreat.famS,fcd]
 have hid2 : (Go.Proofs.YtkngdgplbojdlaaGreat.famS N L).map (·.2)=L++famI N:=by simp [Go.Proofs.YtkngdgplbojdlaaGreat.famS,fcd]
 have hnd : (L++famI N).Nodup:=Ue.2 ⟨hL,zbZ (λ i j h=>by simpa using h) List.nodup_range,λ x hx y hy e=>by
  have:=h1 x hx;have:=zaV.1 hy
  omega⟩
 have hmem : ∀ j,(j,j)∈Go.Proofs.YtkngdgplbojdlaaGreat.famS N L↔j∈L∨j∈famI N:=λ j=>by simp [Go.Proofs.YtkngdgplbojdlaaGreat.famS]
 refine Le.mk (Go.Proofs.YtkngdgplbojdlaaGreat.famS N L) sn [] hsz (by rw [hid]; exact hnd) (by rw [hid2]; exact hnd) ?_ (by simp) ?_ (by omega) (by simp) (λ i=>?_) ?_
 .intro p hp
  obtain ⟨j,hj,rfl⟩:=Qg.1 hp;rcases Qo.1 hj with h | h
  .have:=h1 j h
   exact ⟨by simp only; omega,λ _=>rfl⟩
  .have:=zaV.1 h
   exact ⟨by simp only; omega,λ _=>rfl⟩
 .intro j hj
  have:=hsn j hj;refine ⟨by omega,?_⟩
  rw [hid,Qo,not_or];exact ⟨λ h=>by have:=h1 j h; omega,λ h=>by have:=zaV.1 h; omega⟩
 .unfold St.get at *
  cases hl : lkp st'.t i with
  | none=>exact .inl (.dead _)
  | some v=>exact .inl (ht _ (zaR hl))
 .intro j e' he
  left
  by_cases hj : j∈L
  .obtain ⟨e,h2,h3⟩:=hb j hj e' he
   exact ⟨j,e,(hmem j).2 (.inl hj),h2,h3⟩
  .by_cases hr : j<1000∨1000+N<=j
   .rw [hout j hj hr] at he; cases he
   .obtain ⟨k,rfl⟩ : ∃ k,j=k+1000:=⟨j - 1000,by omega⟩
    have hk : k<N:=by omega
    rw [hst' k hk] at he
    cases he;refine ⟨k+1000,_,(hmem _).2 (.inr (zaV.2 (by omega))),hst k hk,?_⟩
    have : zaw (Go.Proofs.YtkngdgplbojdlaaGreat.famS N L) sn st.hp 4 ⟨s,E k,0⟩=⟨s,E k,0⟩:=by
     simp only [zaw];rw [zcS _ (λ v=>by simp [conv]) _ (hE k hk)]
    rw [this];exact zaA.rfl' (Qi _)
abbrev oH (N : Nat) (A : List Ed) (m : Nat) (f : List Int) (E : Nat->List (List AV)) : List (Nat × Option Ent) :=
 famH 2 N E++[(0,some ⟨1,zaf f,0⟩),(24,some ⟨4,[[.I 0,.nilS,.nilS,.nilS]],0⟩),(64,some ⟨1,famO N E,0⟩),(80,some ⟨4,[[.I N,eEs A,.rs 0 0 m,.rs 64 0 N]],0⟩)]
theorem zb2 {sz n i j : Nat} {t : List (Nat × AV)} {h : List (Nat × Option Ent)} {v : Option Ent} (hij : i≠j) : (⟨sz,t,(i,v)::h,n⟩ : St).hp j=(⟨sz,t,h,n⟩ : St).hp j:=by
 rw [zc0,if_neg hij]
theorem zgX {sz n N m : Nat} {t : List (Nat × AV)} {A : List Ed} {f : List Int} {E : Nat->List (List AV)} {k : Nat} (h : k<N) : (⟨sz,t,oH N A m f E,n⟩ : St).hp (k+1000)=some ⟨2,E k,0⟩:=zuQ h
theorem znT {sz n N m j : Nat} {t : List (Nat × AV)} {A : List Ed} {f : List Int} {E : Nat->List (List AV)} (hj : j∉[0,24,64,80]) (hr : j<1000∨1000+N<=j) : (⟨sz,t,oH N A m f E,n⟩ : St).hp j=none:=by
 have hj' : j≠0/\j≠24/\j≠64/\j≠80:=by simpa using hj
 rcases hr with hr | hr
 .rw [zfc hr]
  simp [hj'.1.symm,hj'.2.1.symm,hj'.2.2.1.symm,hj'.2.2.2.symm]
 .rw [zsJ hr]
  simp [hj'.1.symm,hj'.2.1.symm,hj'.2.2.1.symm,hj'.2.2.2.symm]
section
variable {sz n N m : Nat} {t : List (Nat × AV)} {A : List Ed} {f : List Int} {E : Nat->List (List AV)}
theorem oH_0 : (⟨sz,t,oH N A m f E,n⟩ : St).hp 0=some ⟨1,zaf f,0⟩:=by rw [zfc (by omega)]; simp
theorem zqm : (⟨sz,t,oH N A m f E,n⟩ : St).hp 24=some ⟨4,[[.I 0,.nilS,.nilS,.nilS]],0⟩:=by rw [zfc (by omega)]; simp
theorem znX : (⟨sz,t,oH N A m f E,n⟩ : St).hp 64=some ⟨1,famO N E,0⟩:=by rw [zfc (by omega)]; simp
theorem zmi : (⟨sz,t,oH N A m f E,n⟩ : St).hp 80=some ⟨4,[[.I N,eEs A,.rs 0 0 m,.rs 64 0 N]],0⟩:=by rw [zfc (by omega)]; simp
end
theorem Le.oStep {N a m x y n n' : Nat} {A : List Ed} {f : List Int} {E : Nat->List (List AV)} {row : List AV} {t t' : List (Nat × AV)} {h : List (Nat × Option Ent)} (ha : a<N) (hx : 1000+N<=x) (hy : 1000+N<=y) (hxy : x≠y) (hN : N<=900) (hn' : 1000+N<=n')
  (hE : ∀ k,∀ r∈E k,∀ z∈r,∃ v,z = .sc v) (hrow : ∀ z∈row,∃ v,z = .sc v)
  (hh : h=(64,some ⟨1,(famO N E).set a [.rs x 0 ((E a).length+1)],0⟩)::(x,some ⟨2,E a++[row],0⟩)::(a+1000,none)::(y,some ⟨2,[row],0⟩)::oH N A m f E)
  (ht : ∀ p∈t',Wk (conv (famR x a N [0,24,64,80]) [] (⟨54,t,h,n⟩ : St).hp 4 ((⟨54,t,h,n⟩ : St).get p.1)) p.2) : Le 1 ⟨54,t,h,n⟩ ⟨54,t',oH N A m f (grow E a row),n'⟩:=by
 have e64 : (⟨54,t,h,n⟩ : St).hp 64=some ⟨1,(famO N E).set a [.rs x 0 ((E a).length+1)],0⟩:=by rw [hh,zc0,if_pos rfl]
 have e0 : (⟨54,t,h,n⟩ : St).hp 0=some ⟨1,zaf f,0⟩:=by rw [hh,zb2 (by omega),zb2 (by omega),zb2 (by omega),zb2 (by omega),oH_0]
 have e24 : (⟨54,t,h,n⟩ : St).hp 24=some ⟨4,[[.I 0,.nilS,.nilS,.nilS]],0⟩:=by rw [hh,zb2 (by omega),zb2 (by omega),zb2 (by omega),zb2 (by omega),zqm]
 have e80 : (⟨54,t,h,n⟩ : St).hp 80=some ⟨4,[[.I N,eEs A,.rs 0 0 m,.rs 64 0 N]],0⟩:=by rw [hh,zb2 (by omega),zb2 (by omega),zb2 (by omega),zb2 (by omega),zmi]
 have l0 : lkp (famR x a N [0,24,64,80]) 0=some 0:=zdZ (by omega) (.inl (by simp))
 have l64 : lkp (famR x a N [0,24,64,80]) 64=some 64:=zdZ (by omega) (.inl (by simp))
 refine Le.fam (s:=2) (N:=N) (a:=a) (m:=x) (E:=E) (row:=row) [0,24,64,80] rfl ha (by decide) (by simp) hx hn' (by omega) (λ k _=>hE k) hrow ?_ ?_ (λ k hk=>zgX hk) (λ j hj hr=>znT hj hr) ht ?_
 .intro k hk hka
  rw [hh,zb2 (by omega),zb2 (by omega),zb2 (by omega),zb2 (by omega),zgX hk]
 .rw [hh,zb2 (by omega),zc0,if_pos rfl]
 .intro j hj e' he
  simp only [Qu,Uk,or_false] at hj;rcases hj with rfl | rfl | rfl | rfl
  .rw [oH_0] at he
   cases he;exact ⟨_,e0,by simp only [zaw]; rw [zcS _ (λ v=>by simp [conv]) _ (by simp)]; exact zaA.rfl' (Qi _)⟩
  .rw [zqm] at he
   cases he;exact ⟨_,e24,by simp [zaw]; exact zaA.rfl' (Qi _)⟩
  .rw [znX] at he
   cases he;refine ⟨_,e64,?_⟩;simp only [zaw];rw [zrP ha (.inr hx) rfl];exact zaA.rfl' (Qi _)
  .rw [zmi] at he
   cases he;refine ⟨_,e80,?_⟩;simp [zaw,l0,l64];exact zaA.rfl' (Qi _)
theorem zrG (N : Nat) (A : List Ed) (f : List Int) (m : Nat) (hn : zaT ⟨N,A⟩) : AcP 123 [eN ⟨N,A⟩,.rs 0 0 m] [⟨1,zaf f,0⟩] (.agg [.I N,eEs A,.rs 0 0 m,atV N A]) [some ⟨1,zaf f,0⟩]:=by
 refine zqa.s.ac ?_;show awp _ 1 _ _ ⟨54,[(0,eN ⟨N,A⟩),(1,.rs 0 0 m)],[(0,some ⟨1,zaf f,0⟩)],16⟩;obtain ⟨hn0,hn1,hal,hav⟩:=hn;simp only at hn0 hn1 hal hav;refine zaa ⟨54,[(1,.rs 0 0 m),(2,.pv (nC ⟨N,A⟩)),(4,.pt 24 0 0)],[(0,some ⟨1,zaf f,0⟩),(24,some ⟨4,[[.I 0,.nilS,.nilS,.nilS]],0⟩)],32⟩ rfl ?_ ?_
 .simp
  exact LeI [(0,0),(24,24)] [16]
 refine zas ⟨54,[(2,.pv (nC ⟨N,A⟩)),(4,.pt 24 0 0),(5,.pt 80 0 0)],[(0,some ⟨1,zaf f,0⟩),(24,some ⟨4,[[.I 0,.nilS,.nilS,.nilS]],0⟩),(64,some ⟨1,(List.range N).map λ _=>[.nilS],0⟩),(80,some ⟨4,[[.I N,eEs A,.rs 0 0 m,.rs 64 0 N]],0⟩)],96⟩ rfl ?_ ?_
 .simp [Vi]
  refine ⟨by omega,by omega,rfl,?_⟩
  exact LeI [(0,0),(24,24),(64,64),(80,80)] []
 refine zab (zaa ⟨54,[(4,.pt 24 0 0),(5,.pt 80 0 0),(15,eEs A),(16,.I A.length),(17,.I 0)],[(0,some ⟨1,zaf f,0⟩),(24,some ⟨4,[[.I 0,.nilS,.nilS,.nilS]],0⟩),(64,some ⟨1,(List.range N).map λ _=>[.nilS],0⟩),(80,some ⟨4,[[.I N,eEs A,.rs 0 0 m,.rs 64 0 N]],0⟩)],128⟩ rfl ?_ ?_)
 .simp
  exact Le.go [(0,0),(24,24),(64,64),(80,80)] [] rfl rfl (by simp) (by simp [fcd,Vi])
 refine zad (zaj (ι:=Nat) (λ i=>⟨54,[(4,.pt 24 0 0),(5,.pt 80 0 0),(15,eEs A),(16,.I A.length),(17,.I i)],oH N A m f (famE A i),2000⟩) (λ i=>i<=A.length) (λ i=>A.length - i) 0 (Qi _) ?_ ?_)
 .refine Le.fam0 (s:=2) (N:=N) (o:=64) [0,24,80] rfl (by omega) (by decide) (by simp) (by simp only; omega) (by simp) znX (λ k hk=>zgX hk) (λ j hj hr=>znT (by simpa [and_comm,and_left_comm,and_assoc,or_comm,or_left_comm] using hj) hr) (by simp) ?_
  intro j hj e' he;simp only [Qu,Uk,or_false] at hj;rcases hj with rfl | rfl | rfl
  .rw [oH_0] at he
   cases he;exact ⟨⟨1,zaf f,0⟩,by simp,by simp only [zaw]; rw [zcS _ (λ v=>by simp [conv]) _ (by simp)]; exact zaA.rfl' (Qi _)⟩
  .rw [zqm] at he
   cases he;exact ⟨⟨4,[[.I 0,.nilS,.nilS,.nilS]],0⟩,by simp,by simp [zaw]; exact zaA.rfl' (Qi _)⟩
  .rw [zmi] at he
   cases he;exact ⟨⟨4,[[.I N,eEs A,.rs 0 0 m,.rs 64 0 N]],0⟩,by simp,by simp [zaw]; exact zaA.rfl' (Qi _)⟩
 intro i hi;refine zaa ⟨54,[(4,.pt 24 0 0),(5,.pt 80 0 0),(15,eEs A),(16,.I A.length),(17,.I i),(18,.B (decide (i<A.length)))],oH N A m f (famE A i),2008⟩ rfl ?_ ?_
 .simp
  exact Le.slot (by omega) (by simp)
 refine zab (zac _ rfl (λ h5=>?_) λ h5=>?_)
 .simp at h5
  have hw1 : IntKind.i64.wrap ((i : Int)+1)=(i : Int)+1:=w6;have heo:=hav _ (Qj h5);have harc : arcD A i=A[i]:=by unfold arcD; rw [Qd,Qa h5,Qz]
  obtain ⟨e,he⟩ : ∃ e,e=A[i]:=⟨_,rfl⟩;rw [<- he] at heo harc;obtain ⟨q1,q2,q3,q4,q5,_⟩:=heo;obtain ⟨a,haf,haN⟩ : ∃ a : Nat,e.f=a/\a<N:=⟨e.f.toNat,by omega,by omega⟩
  obtain ⟨b,hbt,hbN⟩ : ∃ b : Nat,e.t=b/\b<N:=⟨e.t.toNat,by omega,by omega⟩
  have hab : a≠b:=λ h=>q5 (by omega)
  have hsucc:=zsP (A:=A) (i:=i) (a:=a) (b:=b) (by rw [harc]; exact haf) (by rw [harc]; exact hbt) hab
  have hEs:=zpp A i;have hEl:=λ k=>ztH A i k;obtain ⟨E,hE⟩ : ∃ E,E=famE A i:=⟨_,rfl⟩;rw [<- hE] at hsucc hEs hEl ⊢;refine zae (zab (zad (zaa ⟨54,[(4,.pt 24 0 0),(5,.pt 80 0 0),(6,.I i),(7,.pv [.I a,.I b,.I e.v]),(15,eEs A),(16,.I A.length),(17,.I i)],oH N A m f E,3000⟩ rfl ?_ ?_)))
  .simp [h5,<- he,haf,hbt]
   have l24 : lkp (famS N [0,24,64,80]) 24=some 24:=zfC (.inl (by simp))
   have l80 : lkp (famS N [0,24,64,80]) 80=some 80:=zfC (.inl (by simp))
   have l0 : lkp (famS N [0,24,64,80]) 0=some 0:=zfC (.inl (by simp))
   have l64 : lkp (famS N [0,24,64,80]) 64=some 64:=zfC (.inl (by simp))
   have lno : lkp (famS N [0,24,64,80]) 2032=none:=znN (by simp) (by omega)
   refine Le.famS (s:=2) (N:=N) (E:=E) [0,24,64,80] [2032] rfl (by decide) (by simp) (by simp only; omega) (by omega) (by simp; omega) (λ k _=>hEs k) ?_ (λ k hk=>zgX hk) (λ j hj hr=>znT hj hr) ?_ ?_
   .intro k hk
    rw [zb2 (by omega),zb2 (by omega),zgX hk]
   .simp [l24,l80,lno]
   .intro j hj e' he'
    simp only [Qu,Uk,or_false] at hj;rcases hj with rfl | rfl | rfl | rfl
    .rw [oH_0] at he'
     cases he';exact ⟨_,by rw [zb2 (by omega),zb2 (by omega),oH_0],by simp only [zaw]; rw [zcS _ (λ v=>by simp [conv]) _ (by simp)]; exact zaA.rfl' (Qi _)⟩
    .rw [zqm] at he'
     cases he';exact ⟨_,by rw [zb2 (by omega),zb2 (by omega),zqm],by simp [zaw]; exact zaA.rfl' (Qi _)⟩
    .rw [znX] at he'
     cases he';refine ⟨_,by rw [zb2 (by omega),zb2 (by omega),znX],?_⟩
     simp only [zaw];rw [zqQ];exact zaA.rfl' (Qi _)
    .rw [zmi] at he'
     cases he';exact ⟨_,by rw [zb2 (by omega),zb2 (by omega),zmi],by simp [zaw,l0,l64]; exact zaA.rfl' (Qi _)⟩
  refine zas ⟨54,[(4,.pt 24 0 0),(5,.pt 80 0 0),(6,.I i),(7,.pv [.I a,.I b,.I e.v]),(15,eEs A),(16,.I A.length),(17,.I i)],oH N A m f (grow E a (zba (i,false))),4000⟩ rfl ?_ ?_
  .have hl:=hEl a
   have hne : ¬ a=2096:=by omega
   simp [zmi,znX,zgX haN,haN,zbQ haN,zdT,famV,hne];refine ⟨by omega,by omega,rfl,?_⟩
   have l24 : lkp (famR 3104 a N [0,24,64,80]) 24=some 24:=zdZ (by omega) (.inl (by simp))
   have l80 : lkp (famR 3104 a N [0,24,64,80]) 80=some 80:=zdZ (by omega) (.inl (by simp))
   refine Le.oStep (x:=3104) (y:=3096) haN (by omega) (by omega) (by omega) (by omega) (by omega) hEs (zis _) ?_ ?_
   .simp
   .simp [l24,l80]
  have hEs1:=ztW (a:=a) hEs (zis (i,false))
  have hEl1 : (grow E a (zba (i,false)) b).length<=2*i:=by
   have:=hEl b;simp only [grow,if_neg hab.symm];exact this
  obtain ⟨E1,hE1⟩ : ∃ E1,E1=grow E a (zba (i,false)):=⟨_,rfl⟩;rw [<- hE1] at hEs1 hEl1 hsucc ⊢;refine zaP rfl ?_;have hne : ¬ b=3096:=by omega
  simp [zmi,znX,zgX hbN,hbN,zbQ hbN,zdT,famV,hne];refine ⟨by omega,by omega,rfl,?_⟩
  refine zan rfl ?_;simp;have l24 : lkp (famR 4104 b N [0,24,64,80]) 24=some 24:=zdZ (by omega) (.inl (by simp))
  have l80 : lkp (famR 4104 b N [0,24,64,80]) 80=some 80:=zdZ (by omega) (.inl (by simp))
  refine ⟨i+1,by omega,by omega,?_⟩
  rw [hsucc];refine Le.oStep (x:=4104) (y:=4096) hbN (by omega) (by omega) (by omega) (by omega) (by omega) hEs1 (zis _) ?_ ?_
  .simp
  .simp [l24,l80,hw1]
 simp at h5;obtain rfl : i=A.length:=by omega
 refine zai (hit (zaa ⟨54,[(4,.pt 24 0 0)],[(0,some ⟨1,zaf f,0⟩),(24,some ⟨4,[[.I N,eEs A,.rs 0 0 m,atV N A]],0⟩)],5000⟩ rfl ?_ ?_))
 .simp [zmi,zqm]
  have hcv : ∀ {h : Nat->Option Ent},h 64=some ⟨1,famO N (famE A A.length),0⟩->(∀ k<N,h (k+1000)=some ⟨2,famE A A.length k,0⟩)->conv [(0,0),(24,24)] (64::famI N) h 4 (.rs 64 0 N)=atV N A:=λ h1 h2 =>
   zuy (λ k _=>zpp A A.length k) (by simp) (by simp) (λ k hk=>by simp [zaV]; omega) h1 h2
  refine Le.famOut (N:=N) (o:=64) (L:=[0,24]) rfl (by decide) (by simp) (by simp) (by simp) (by omega) (by omega) ?_ ?_ ?_
  .intro j hj
   have hj' : j≠0/\j≠24:=by simpa using hj
   simp [hj'.1.symm,hj'.2.symm]
  .simp
  .intro j hj e' he'
   simp only [Qu,Uk,or_false] at hj;rcases hj with rfl | rfl
   .simp at he'
    subst he';refine ⟨_,by rw [zb2 (by omega),oH_0],?_⟩
    simp only [zaw];rw [zcS _ (λ v=>by simp [conv]) _ (by simp)]
    exact zaA.rfl' (Qi _)
   .simp at he'
    subst he';refine ⟨_,by rw [zc0,if_pos rfl],?_⟩
    refine zaA.eq ?_ (Qi _);simp only [zaw,Qn,Uz];rw [hcv (by rw [zb2 (by omega),znX]) (λ k hk=>by rw [zb2 (by omega),zgX hk])]
    simp
 exact zah ⟨.inr rfl,zao.k1 rfl (by simp) (by simp [fcd])⟩
abbrev rC (N : Nat) (A : List Ed) (f : AV) : List AV:=[.I N,eEs A,f,atV N A]
abbrev eR (N : Nat) (A : List Ed) (f : AV) : AV:=.agg (rC N A f)
theorem zmE {A : List Ed} {i : Nat} (h : i<A.length) : A[i]? = some (arcD A i):=by
 unfold arcD;rw [Qd,Qa h,Qz]
theorem zsb (N : Nat) (A : List Ed) (f : List Int) (s : Stp) (hn : zaT ⟨N,A⟩) (hf : Fit2 A f) (hs : s.1<A.length) : AcP 164 [eR N A (ints f),.agg (zba s)] [] (.tup [.I (za1 A f s),.I (stT A s)]) []:=by
 refine zfj.s.ac ?_;show awp _ 0 _ _ ⟨35,[(0,eR N A (ints f)),(1,.agg (zba s))],[],16⟩;obtain ⟨i,c⟩:=s;simp only at hs;obtain ⟨hfl,hfa⟩:=zb8.1 hf;have hA:=zmE hs;have hi:=hfa i hs;have hav:=hn.2.2.2 _ (zcF hs);have hif : i<f.length:=by omega
 obtain ⟨e,he⟩ : ∃ e,e=arcD A i:=⟨_,rfl⟩;obtain ⟨w,hw⟩ : ∃ w,w=f.getD i 0:=⟨_,rfl⟩;have hg : f[i]? = some w:=by rw [hw,Qd,Qa hif,Qz]
 have hge : A[i]=e:=by rw [Qa hs,<- he] at hA; exact Qf hA
 have hgf : f[i]=w:=by rw [Qa hif] at hg; exact Qf hg
 rw [<- he] at hav;rw [<- hw,<- he] at hi;obtain ⟨_,_,_,_,_,_,_,h8,h9⟩:=hav;have hwr : IntKind.i64.wrap (e.v - w)=e.v - w:=w6;refine zaa ⟨35,[(2,.pv (rC N A (ints f))),(3,.pv [.I i,.B c])],[],48⟩ rfl ?_ ?_
 .simp
  exact LeH [] [16,24]
 refine zaa ⟨35,[(2,.pv (rC N A (ints f))),(3,.pv [.I i,.B c]),(6,.pv (eC e))],[],200⟩ rfl ?_ ?_
 .simp [hs,hge]
  exact LeH [] [104]
 refine zab (rs [2,3,6,15] [] [] ?_);refine zac _ rfl (λ h4=>?_) λ h4=>?_
 .have hc : c=true:=h4
  subst hc;have h1 : za1 A f (i,true)=w:=by unfold za1; simp [hw]
  have h2 : stT A (i,true)=e.f:=by unfold stT; simp [he]
  rw [h1,h2];refine zas ⟨35,[(4,.I w),(5,.I e.f)],[],400⟩ rfl ?_ ?_
  .simp [hif,hgf]
   exact ⟨rfl,LeH [] []⟩
  exact zah ⟨.inr rfl,zao.out [] [] rfl (by simp) (by simp) (by simp) (by simp)⟩
 have hc : c=false:=h4;subst hc;have h1 : za1 A f (i,false)=e.v - w:=by unfold za1; simp [hw,he]
 have h2 : stT A (i,false)=e.t:=by unfold stT; simp [he]
 rw [h1,h2];refine zae (zas ⟨35,[(4,.I (e.v - w)),(5,.I e.t)],[],400⟩ rfl ?_ ?_)
 .simp [hif,hgf,hwr]
  exact ⟨rfl,LeH [] []⟩
 exact zah ⟨.inr rfl,zao.out [] [] rfl (by simp) (by simp) (by simp) (by simp)⟩
theorem ziy : ∀ {l : List (Int × AV)} {q : Int × AV},(l.map (·.1)).Nodup->q∈l->zb3 q.1 (zce l)=some q.2
 | (k,x)::l,q,hn,h=>by
   rw [Qn,Q6] at hn;rw [zdV,List.find?_cons];rcases Qu.1 h with rfl | h
   .simp
   .have hne : ¬ k=q.1:=λ e=>hn.1 (e ▸ Qg.2 ⟨q,h,rfl⟩)
    have ih:=ziy hn.2 h;rw [zdV] at ih
    simpa [hne] using ih
structure MapF (rows : List (List AV)) (φ : Int->Option AV) : Prop where
 is : MapR rows φ
 flat : ∀ n x,φ n=some x -> ∃ u v,x = .agg [.sc u,.sc v]
theorem MapF.mem {rows : List (List AV)} {φ : Int->Option AV} (h : MapF rows φ) {r : List AV} (hr : r∈rows) : ∃ k u v,r=[.sc k,.agg [.sc u,.sc v]]:=by
 obtain ⟨⟨l,rfl,hn,hf⟩,hfl⟩:=h;obtain ⟨q,hq,rfl⟩:=Qg.1 hr;obtain ⟨u,v,e⟩:=hfl q.1 q.2 (by rw [<- hf]; exact ziy hn hq)
 exact ⟨_,u,v,by rw [e]⟩
theorem MapF.conv {rows : List (List AV)} {φ : Int->Option AV} (h : MapF rows φ) (ρ : List (Nat × Nat)) (sn : List Nat) (g : Nat->Option Ent) : rows.map (·.map (conv ρ sn g 4))=rows:=by
 conv=>rhs; rw [<- List.map_id rows]
 refine QG λ r hr=>?_;obtain ⟨k,u,v,rfl⟩:=h.mem hr;simp
theorem MapF.conv' {rows : List (List AV)} {φ : Int->Option AV} (h : MapF rows φ) (ρ : List (Nat × Nat)) (sn : List Nat) (g : Nat->Option Ent) : rows.map (List.map (Go.Proofs.YtkngdgplbojdlaaGreat.conv ρ sn g 4))=rows:=h.conv ρ sn g
theorem MapF.plain {rows : List (List AV)} {φ : Int->Option AV} (h : MapF rows φ) (s ro : Nat) : zf0 ⟨s,rows,ro⟩:=by
 intro r hr x hx;obtain ⟨k,u,v,rfl⟩:=h.mem hr;simp only [Qu,Uk,or_false] at hx;rcases hx with rfl | rfl
 .exact .sc _
 .refine .agg _ λ i=>?_
  match i with
  | 0=>exact .sc _
  | 1=>exact .sc _
  | i+2=>exact .dead
theorem zer (D b : List Int) (n : Int) (x : AV) (h : camF D b n=some x) : ∃ u v,x = .agg [.sc u,.sc v]:=by
 unfold camF at h;split at h
 .split at h
  .cases h; exact ⟨_,_,rfl⟩
  .cases h; exact ⟨_,_,rfl⟩
 .cases h
theorem MapF.set {rows : List (List AV)} {D b D' b' : List Int} (h : MapF rows (camF D b)) (n : Int) (y : AV) (he : camF D' b'=λ k=>if k=n then some y else camF D b k) : MapF (mset n y rows) (camF D' b') :=
 ⟨by rw [he]; exact h.is.set n y,zer D' b'⟩
theorem zjj {N : Nat} {A : List Ed} (hn : zaT ⟨N,A⟩) {s : Stp} (hs : s.1<A.length) : 0<=stT A s/\stT A s<N:=by
 have : zgy N (arcD A s.1):=hn.2.2.2 _ (zcF hs);obtain ⟨q1,q2,q3,q4,_⟩:=this;unfold stT;split <;> omega
structure SSt where
 s : BSt
 R : List (List AV)
 m : Nat
 i : Nat
def zh3 (A : List Ed) (f D : List Int) (l : List Stp) : Prop:=∀ s∈l,0<za1 A f s->stT A s∈D
theorem zh3.nil {A : List Ed} {f D : List Int} : zh3 A f D []:=λ s h=>by simp at h
theorem zoG (N : Nat) (A : List Ed) (f : List Int) (hn : zaT ⟨N,A⟩) (hf : Fit2 A f) :
  ∃ x : List Int × List Int × List (List AV),(Bfs N A f x.1 x.2.1/\zdn A f x.1/\MapF x.2.2 (camF x.1 x.2.1))/\AcP 124 [eR N A (ints f)] [] (.mp 0) [some ⟨0,x.2.2,0⟩]:=by
 refine zee.s.acallsX (args:=[eR N A (ints f)]) (hs:=[]) (λ x=>.mp 0) (λ x=>[some ⟨0,x.2.2,0⟩]) (λ x : List Int × List Int × List (List AV)=>Bfs N A f x.1 x.2.1/\zdn A f x.1/\MapF x.2.2 (camF x.1 x.2.1)) (nbz rfl) (nbz rfl) (λ _=>by simp) ?_
 show awp _ 0 _ _ ⟨59,[(0,eR N A (ints f))],[],16⟩;have hroom:=λ s hs=>zsb N A f s hn hf hs;have hrng:=λ (s : Stp) (hs : s.1<A.length)=>zjj hn hs;obtain ⟨hn0,hn1,hal,hav⟩:=hn;simp only at hn0 hn1 hal hav;have hR0 : MapF ([[.I 0,.agg [.I (-1),.B false]]]) (camF [0] (List.replicate N 0)):=⟨by rw [zp6]; exact MapR.nil.set 0 (.agg [.I (-1),.B false]),zer _ _⟩
 refine zaa ⟨59,[(1,.pv (rC N A (ints f)))],[],32⟩ rfl ?_ ?_
 .simp
  exact LeH [] [16]
 refine zaa ⟨59,[(1,.pv (rC N A (ints f))),(3,.mp 32)],[(32,some ⟨0,[[.I 0,.agg [.I (-1),.B false]]],0⟩)],72⟩ rfl ?_ ?_
 .simp [mset]
  exact LeH [(32,32)] []
 obtain ⟨R0,hR0d⟩ : ∃ R0 : List (List AV),R0=[[.I 0,.agg [.I (-1),.B false]]]:=⟨_,rfl⟩;rw [<- hR0d] at hR0 ⊢;refine zab (zaa ⟨59,[(1,.pv (rC N A (ints f))),(3,.mp 32),(4,.rs 72 0 1)],[(32,some ⟨0,R0,0⟩),(72,some ⟨1,zaf [0],0⟩)],88⟩ rfl ?_ ?_)
 .simp
  exact Le.go [(32,32),(72,72)] [] rfl rfl (by simp) (by simp [hR0.conv'])
 refine zad ?_
 refine zaj (ι:=SSt) (λ t=>⟨59,[(1,.pv (rC N A (ints f))),(3,.mp 32),(4,.rs 72 t.s.off t.s.q)],[(32,some ⟨0,t.R,0⟩),(72,some ⟨1,zaf t.s.Z,0⟩)],88⟩)
  (λ t=>BInv N A f t.s t.m/\zdG A f t.s.D t.m/\MapF t.R (camF t.s.D t.s.b)) (λ t=>N - t.m) ⟨⟨[0],List.replicate N 0,[0],0,1⟩,R0,0,0⟩
  ⟨⟨Bfs.start (by omega),rfl,rfl,rfl⟩,λ s _ h=>by simp at h,hR0⟩ (Le.go [(32,32),(72,72)] [] rfl rfl (by simp) (by simp [hR0.conv'])) ?_
 rintro ⟨s,R,m,_⟩ ⟨hb,hcl,hR⟩
 simp only at hb hcl hR;have hfew:=hb.bfs.few;have hbd:=hb.d;have hbz:=hb.z;refine zab (zaa ⟨59,[(1,.pv (rC N A (ints f))),(3,.mp 32),(4,.rs 72 s.off s.q),(17,.B (decide (0<s.q)))],[(32,some ⟨0,R,0⟩),(72,some ⟨1,zaf s.Z,0⟩)],112⟩ rfl ?_ ?_)
 .simp
  exact Le.go [(32,32),(72,72)] [] rfl rfl (by simp) (by simp [hR.conv',fcd])
 refine zac _ rfl (λ h5=>?_) λ h5=>?_
 .simp at h5
  obtain ⟨hmD,hk⟩:=hb.head h5;have hoff : s.off<s.Z.length:=by omega
  obtain ⟨k,hkd⟩ : ∃ k,k=s.D[m]:=⟨_,rfl⟩;rw [<- hkd] at hk;have hkD : k∈s.D:=hkd ▸ Qj hmD;have hkr:=hb.bfs.rng k hkD;obtain ⟨kn,hkn,hknN⟩ : ∃ kn : Nat,k=kn/\kn<N:=⟨k.toNat,by omega,by omega⟩
  obtain ⟨L,hL⟩ : ∃ L,L=zfG A A.length kn:=⟨_,rfl⟩;have hLm : ∀ st : Stp,st∈L↔st.1<A.length/\stF A st=k:=λ st=>by rw [hL,hkn]; exact zjB
  have hLl : L.length<=2*A.length:=by rw [hL]; exact zgG A kn A.length
  have hfe : famE A A.length kn=L.map zba:=by rw [hL]; rfl
  refine zae (zab (zad (zas ⟨59,[(1,.pv (rC N A (ints f))),(3,.mp 32),(4,.rs 72 s.off s.q),(26,.vs 2 false (L.map zba)),(27,.I L.length),(28,.I 0)],[(32,some ⟨0,R,0⟩),(72,some ⟨1,zaf s.Z,0⟩)],184⟩ rfl ?_ ?_)))
  .simp [hk,h5,hkn,hknN,hfe]
   exact ⟨rfl,Le.go [(32,32),(72,72)] [] rfl rfl (by simp [hfe]) (by simp [hR.conv',fcd])⟩
  refine zad ?_
  refine zaj (ι:=SSt) (λ t=>⟨59,[(1,.pv (rC N A (ints f))),(3,.mp 32),(4,.rs 72 t.s.off t.s.q),(26,.vs 2 false (L.map zba)),(27,.I L.length),(28,.I t.i)],[(32,some ⟨0,t.R,0⟩),(72,some ⟨1,zaf t.s.Z,0⟩)],184⟩)
   (λ t=>BInv N A f t.s m/\MapF t.R (camF t.s.D t.s.b)/\t.i<=L.length/\zh3 A f t.s.D (L.take t.i) /\ ∃ l,t.s.D=s.D++l) (λ t=>L.length - t.i) ⟨s,R,m,0⟩
   ⟨hb,hR,Qi _,by rw [List.take_zero]; exact zh3.nil,[],by simp⟩ (Le.go [(32,32),(72,72)] [] rfl rfl (by simp) (by simp [hR.conv',fcd])) ?_
  rintro ⟨t,R,_,i⟩ ⟨ht,hR,hi,htc,l,htl⟩
  simp only at ht hR hi htc htl;have htz:=ht.z;have htd:=ht.d;have htf:=ht.bfs.few;refine zaa ⟨59,[(1,.pv (rC N A (ints f))),(3,.mp 32),(4,.rs 72 t.off t.q),(26,.vs 2 false (L.map zba)),(27,.I L.length),(28,.I i),(29,.B (decide (i<L.length)))],[(32,some ⟨0,R,0⟩),(72,some ⟨1,zaf t.Z,0⟩)],192⟩ rfl ?_ ?_
  .simp
   exact Le.go [(32,32),(72,72)] [] rfl rfl (by simp) (by simp [hR.conv',fcd])
  refine zab (zac _ rfl (λ h8=>?_) λ h8=>?_)
  .simp at h8
   have hw : IntKind.i64.wrap ((i : Int)+1)=(i : Int)+1:=w6;obtain ⟨st,hst⟩ : ∃ st,st=L[i]:=⟨_,rfl⟩;obtain ⟨hs1,hs2⟩:=(hLm st).1 (hst ▸ Qj h8);have hrm:=hroom st hs1;obtain ⟨hr1,hr2⟩:=hrng st hs1;have hpush:=λ (h1 : 0<za1 A f st) (h2 : stT A st∉t.D)=>ht.bfs.push (s:=st) hs1 (by rw [hs2,htl]; exact QU _ hkD) h1 h2 hr1 hr2
   have hcam:=λ (h2 : stT A st∉t.D)=>zrI ht.bfs h2 hr1 hr2;have hsome:=ze7 t.D t.b (stT A st);have hfind:=hR.is.find (stT A st)
   have htake : ∀ D',(∃ l,D'=t.D++l)->stT A st∈D'∨¬ 0<za1 A f st->zh3 A f D' (L.take (i+1)):=λ D' hD' h s' hs' hr=>by
    rw [Qp h8,<- hst] at hs';obtain ⟨l',rfl⟩:=hD';rcases Qo.1 hs' with h' | h'
    .exact QU _ (htc s' h' hr)
    .rw [QB] at h'
     subst h';exact h.resolve_right λ hn=>hn hr
   obtain ⟨T,hT⟩ : ∃ T,T=stT A st:=⟨_,rfl⟩;obtain ⟨rm,hrmd⟩ : ∃ rm,rm=za1 A f st:=⟨_,rfl⟩;rw [<- hT,<- hrmd] at hrm hpush htake;rw [<- hT] at hcam hsome hfind;refine zae (zab (zad (zaa ⟨59,[(1,.pv (rC N A (ints f))),(3,.mp 32),(4,.rs 72 t.off t.q),(6,.pv (zba st)),(26,.vs 2 false (L.map zba)),(27,.I L.length),(28,.I i)],[(32,some ⟨0,R,0⟩),(72,some ⟨1,zaf t.Z,0⟩)],232⟩ rfl ?_ ?_)))
   .simp [h8,<- hst]
    exact Le.go [(32,32),(72,72)] [208] rfl rfl (by simp) (by simp [hR.conv',fcd])
   refine zaa ⟨59,[(1,.pv (rC N A (ints f))),(3,.mp 32),(4,.rs 72 t.off t.q),(6,.pv (zba st)),(7,.I rm),(8,.I T),(26,.vs 2 false (L.map zba)),(27,.I L.length),(28,.I i)],[(32,some ⟨0,R,0⟩),(72,some ⟨1,zaf t.Z,0⟩)],300⟩ rfl ?_ ?_
   .simp
    refine cl0 hrm ?_;simp;exact Le.go [(32,32),(72,72)] [] rfl rfl (by simp) (by simp [hR.conv',fcd])
   refine zaa ⟨59,[(1,.pv (rC N A (ints f))),(3,.mp 32),(4,.rs 72 t.off t.q),(6,.pv (zba st)),(7,.I rm),(8,.I T),(10,.B (decide (T∈t.D))),(26,.vs 2 false (L.map zba)),(27,.I L.length),(28,.I i)],[(32,some ⟨0,R,0⟩),(72,some ⟨1,zaf t.Z,0⟩)],400⟩ rfl ?_ ?_
   .have hgd : ∃ u v,(camF t.D t.b T).getD (toAV (Value.agg #[Value.int IntKind.i64 0,Value.bool false])) = .agg [.sc u,.sc v]:=by
     cases hc : camF t.D t.b T with
     | none=>exact ⟨.int .i64 0,.bool false,by simp [toAV,Value.oneCell']⟩
     | some x =>
       obtain ⟨u,v,rfl⟩:=zer _ _ _ _ hc;exact ⟨u,v,rfl⟩
    obtain ⟨u,v,huv⟩:=hgd;simp [hfind,hsome,huv];exact Le.go [(32,32),(72,72)] [] rfl rfl (by simp) (by simp [hR.conv',fcd])
   refine zaa ⟨59,[(1,.pv (rC N A (ints f))),(3,.mp 32),(4,.rs 72 t.off t.q),(6,.pv (zba st)),(8,.I T),(26,.vs 2 false (L.map zba)),(27,.I L.length),(28,.I i),(49,.B (decide (0<rm/\T∉t.D)))],[(32,some ⟨0,R,0⟩),(72,some ⟨1,zaf t.Z,0⟩)],500⟩ rfl ?_ ?_
   .simp
    refine zcb (λ hb=>?_) (λ hb=>?_) <;> (try rw [hb]) <;> (try simp at hb) <;> simp [hb]
    .exact Le.go [(32,32),(72,72)] [] rfl rfl (by simp [hb]) (by simp [hR.conv',fcd])
    .exact Le.go [(32,32),(72,72)] [] rfl rfl (by simp [hb]) (by simp [hR.conv',fcd])
   refine zac _ rfl (λ h13=>?_) λ h13=>?_
   .rw [Qe] at h13
    have hbu:=hpush h13.1 h13.2;have hRu:=hR.set T (zqj st) (hcam h13.2);have hmore:=ht.more hbu;have hfw:=hbu.few;rw [Qh,QZ] at hfw;have hbt : ∀ g : Int->List AV,List.take t.q (List.drop t.off (List.map g t.Z))=List.map g (t.Z.drop t.off):=λ g=>by rw [<- List.map_drop,Qb (by simp; omega)]
    obtain ⟨R',hR'⟩ : ∃ R',R'=mset T (zqj st) R:=⟨_,rfl⟩;rw [<- hR'] at hRu;refine zaa ⟨59,[(1,.pv (rC N A (ints f))),(3,.mp 32),(4,.rs 72 t.off t.q),(8,.I T),(26,.vs 2 false (L.map zba)),(27,.I L.length),(28,.I i)],[(32,some ⟨0,R',0⟩),(72,some ⟨1,zaf t.Z,0⟩)],600⟩ rfl ?_ ?_
    .simp
     rw [show mset T (.agg [.I st.1,.B st.2]) R=R' from hR'.symm]
     exact Le.go [(32,32),(72,72)] [] rfl rfl (by simp) (by simp [hRu.conv',fcd])
    refine zan rfl ?_;simp [hbt];refine ⟨by omega,by omega,by omega,?_⟩
    refine zan rfl ?_;simp;refine ⟨⟨⟨t.D++[T],t.b.set T.toNat (encS st),t.Z.drop t.off++[T],0,t.q+1⟩,R',m,i+1⟩,⟨hmore,hRu,h8,htake _ ⟨[T],rfl⟩ (.inl (by simp)),l++[T],by simp only [htl,Qx]⟩,by simp only; omega,?_⟩
    exact Le.go [(32,32),(624,72)] [] rfl rfl (by simp [hw]) (by simp [hRu.conv',fcd])
   .rw [Qc] at h13
    refine zae (zan rfl ?_);simp;refine ⟨⟨t,R,m,i+1⟩,⟨ht,hR,h8,htake _ ⟨[],by simp⟩ ?_,l,htl⟩,by simp only; omega,Le.go [(32,32),(72,72)] [] rfl rfl (by simp [hw]) (by simp [hR.conv',fcd])⟩
    by_cases h : 0<rm
    .exact .inl (Uh λ hn=>h13 ⟨h,hn⟩)
    .exact .inr h
  simp at h8;obtain rfl : i=L.length:=by omega
  refine zai (hit ?_);have hlen : t.D.length=s.D.length+l.length:=by rw [htl,Qh]
  have hq : 0<t.q:=by omega
  have htc' : zdM A f t.D s.D[m] A.length:=λ st h1 h2 h3=>by
   refine htc st ?_ h3;rw [Q1];exact (hLm st).2 ⟨h1,by rw [hkd]; exact h2⟩
  refine zan rfl ?_;simp;refine zvZ 1 (i:=72) rfl rfl hq ?_;simp;exact ⟨⟨{ t with off:=t.off+1,q:=t.q - 1 },R,m+1,0⟩,⟨ht.pop hq,zdG.next hmD hcl htc' htl,hR⟩,by simp only; omega,Le.go [(32,32),(72,72)] [] rfl rfl (by simp) (by simp [hR.conv',fcd])⟩
 simp at h5;have hmD : m=s.D.length:=by omega
 refine zai (hit (zaa ⟨59,[(2,.mp 32)],[(32,some ⟨0,R,0⟩)],200⟩ rfl ?_ ?_))
 .simp
  exact Le.go [(32,32)] [] rfl rfl (by simp) (by simp [hR.conv'])
 exact zah (zhs.mk (.inr rfl) (s.D,s.b,R) ⟨hb.bfs,by rw [hmD] at hcl; exact hcl.all,hR⟩ (zao.out [32] [] rfl (by simp) (by simp) (by simp) (by simp [hR.conv'])))
structure MSt where
 j : Nat
 v : Int
def zkS (A : List Ed) (f : List Int) (l : List Stp) (j : Nat) (v : Int) : Prop:=∀ t∈l.drop j,v<=za1 A f t
theorem zxv (N : Nat) (A : List Ed) (hn : zaT ⟨N,A⟩) :
  ∃ f : List Int,(zaF N A f /\ ∀ f',zaF N A f'->valF A f'<=valF A f)/\AcP 65 [eN ⟨N,A⟩] [] (.tup [.rs 0 0 A.length,.I 0]) [some ⟨1,zaf f,0⟩]:=by
 refine zpH.s.acallsX (args:=[eN ⟨N,A⟩]) (hs:=[]) (λ f=>.tup [.rs 0 0 A.length,.I 0]) (λ f=>[some ⟨1,zaf f,0⟩]) (λ f : List Int=>zaF N A f /\ ∀ f',zaF N A f'->valF A f'<=valF A f) (nbz rfl) (nbz rfl) (λ _=>by simp) ?_
 show awp _ 0 _ _ ⟨112,[(0,eN ⟨N,A⟩)],[],16⟩;have hno:=zbR hn;have hchk:=zeY ⟨N,A⟩ (by have:=hn.2.2.1; simp only at this ⊢; omega)
 rw [if_pos hn] at hchk;have hres:=λ f hf=>zj3 N A f hn hf;obtain ⟨hn0,hn1,hal,hav⟩:=hn;simp only at hn0 hn1 hal hav;refine rs [1] [] [16] ?_;refine zab (rx (s:=?s2) [1,13] [] [] rfl ?o2 ?q2)
 case o2=>simp; refine zau hchk (by simp) ?_; simp; rfl
 refine zac _ rfl (λ h3=>by cases h3) λ h3=>?_
 refine zae (zaa ⟨112,[(1,.pv (nC ⟨N,A⟩)),(4,.rs 88 0 A.length)],[(88,some ⟨1,zaf (A.map λ _=>0),0⟩)],104⟩ rfl ?_ ?_)
 .simp
  refine ⟨by omega,by omega,?_⟩
  exact Le.go [(88,88)] [] rfl rfl (by simp) (by simp [Vi,fcd])
 refine zad (zaj (ι:=List Int) (λ f=>⟨112,[(1,.pv (nC ⟨N,A⟩)),(4,.rs 88 0 A.length)],[(88,some ⟨1,zaf f,0⟩)],104⟩) (λ f=>zaF N A f) (λ f=>(capS (λ x=>decide (x=0)) A - valF A f).toNat) (A.map λ _=>0) (zfN hno) (LeI [(88,88)] []) ?_);intro f hf;have hfl:=hf.fit.len;obtain ⟨⟨D,b⟩,⟨hb,hcl⟩,hcall⟩:=hres f hfl;simp only at hb hcl hcall;have hblen:=hb.len;have htake : ∀ g : Int->List AV,List.take A.length (List.map g f)=List.map g f:=λ g=>Qb (by simp; omega)
 refine zad (zaa ⟨112,[(1,.pv (nC ⟨N,A⟩)),(4,.rs 88 0 A.length),(5,.rs 90 0 N)],[(88,some ⟨1,zaf f,0⟩),(90,some ⟨1,zaf b,0⟩)],200⟩ rfl ?_ ?_)
 .simp
  refine zdO [88] hcall (by simp [fcd,htake,hfl]) (.rs _ _ _) zm9 ?_
  simp;exact LeI [(88,88),(120,90)] []
 obtain ⟨y1,hy1⟩ : ∃ y,y=b.getD 1 0:=⟨_,rfl⟩;have hb1 : b[1]? = some y1:=by rw [hy1,Qd,Qa (by omega),Qz]
 refine zab (zaa ⟨112,[(1,.pv (nC ⟨N,A⟩)),(4,.rs 88 0 A.length),(5,.rs 90 0 N),(24,.B (y1 == 0))],[(88,some ⟨1,zaf f,0⟩),(90,some ⟨1,zaf b,0⟩)],300⟩ rfl ?_ ?_)
 .have h1N : (1 : Int)<N:=by omega
  simp [hb1,h1N];exact LeI [(88,88),(90,90)] []
 have hcode : ∀ k : Nat,k<N->b[k]? = some (b.getD k 0):=λ k hk=>by rw [Qd,Qa (by omega),Qz]
 refine zac _ rfl (λ h8=>?_) λ h8=>?_
 .simp at h8
  refine zaa ⟨112,[(2,.rs 88 0 A.length),(3,.I 0)],[(88,some ⟨1,zaf f,0⟩)],400⟩ rfl ?_ ?_
  .simp
   exact LeI [(88,88)] []
  have h1D : (1 : Int)∉D:=λ hm=>by
   have h2:=hb.inn 1 hm (by decide)
   exact h2 (by rw [show b.getD (Int.toNat 1) 0=y1 from hy1.symm,h8])
  exact zah (zhs.mk (.inr rfl) f ⟨hf,(zeM hno hf hb.mem0 h1D hcl).2⟩ (zao.out [88] [] rfl (by simp) (by simp) (by simp) (by simp [fcd])))
 simp at h8;have h1D : (1 : Int)∈D:=Uh λ hm=>h8 (by rw [hy1]; exact hb.out 1 (by decide) hm)
 obtain ⟨l,hl⟩:=hb.chain h1D;have hle:=zoe hl.way;have hfit:=zb8.1 hf.fit
 have hlr : ∀ s∈l,s.1<f.length:=λ s hs=>by
  obtain ⟨i,hi,rfl⟩:=QF.1 hs;have:=(hl.at_ i hi).1;omega
 have hl0 : 0<l.length:=by
  cases hll : l with
  | nil=>rw [hll] at hle; cases hle
  | cons=>simp
 refine zae (zaa ⟨112,[(1,.pv (nC ⟨N,A⟩)),(4,.rs 88 0 A.length),(5,.rs 90 0 N),(6,.I 1048576)],[(88,some ⟨1,zaf f,0⟩),(90,some ⟨1,zaf b,0⟩)],400⟩ rfl ?_ ?_)
 .simp
  exact LeI [(88,88),(90,90)] []
 refine zap (ι:=Int) (λ v=>⟨112,[(1,.pv (nC ⟨N,A⟩)),(4,.rs 88 0 A.length),(5,.rs 90 0 N),(6,.I v)],[(88,some ⟨1,zaf f,0⟩),(90,some ⟨1,zaf b,0⟩)],600⟩) (λ v=>1<=v/\v<=1048576/\zkS A f l 0 v) ?_ λ v hv=>?_
 .refine zaa ⟨112,[(1,.pv (nC ⟨N,A⟩)),(4,.rs 88 0 A.length),(5,.rs 90 0 N),(6,.I 1048576),(7,.I 1)],[(88,some ⟨1,zaf f,0⟩),(90,some ⟨1,zaf b,0⟩)],500⟩ rfl ?_ ?_
  .simp
   exact LeI [(88,88),(90,90)] []
  refine zad ?_
  refine zaj (ι:=MSt) (λ s=>⟨112,[(1,.pv (nC ⟨N,A⟩)),(4,.rs 88 0 A.length),(5,.rs 90 0 N),(6,.I s.v),(7,.I (endW A 0 l s.j))],[(88,some ⟨1,zaf f,0⟩),(90,some ⟨1,zaf b,0⟩)],600⟩)
   (λ s=>s.j<=l.length/\1<=s.v/\s.v<=1048576/\zkS A f l s.j s.v) (λ s=>s.j) ⟨l.length,1048576⟩ ⟨Ql _,by simp,by simp,by simp [zkS]⟩ (Le.go [(88,88),(90,90)] [] rfl rfl (by simp [hle]) (by simp [fcd])) ?_
  rintro ⟨j,v⟩ ⟨hj,hv1,hv2,hv3⟩
  simp only at hj hv1 hv2 hv3;refine zab (rk (s:=?s12) [1,4,5,6,7,27] [88,90] rfl ?o12 ?q12)
  case o12=>simp; rfl
  refine zac _ rfl (λ h13=>?_) λ h13=>?_
  .simp at h13
   obtain ⟨i,rfl⟩ : ∃ i,j=i+1:=by
    cases j with
    | zero=>exact absurd rfl h13
    | succ i=>exact ⟨i,rfl⟩
   have hi : i<l.length:=by omega
   obtain ⟨q1,q2,q3,q4,q5,q6⟩:=hl.at_ i hi;have hfr:=hl.from_ i hi;obtain ⟨s,hs⟩ : ∃ s,s=l[i]:=⟨_,rfl⟩
   have hk : endW A 0 l (i+1)=stT A s:=by
    show stT A (l.getD i (0,false))=_;rw [Qd,Qa hi,hs];rfl
   have hvn : ∀ v' : Int,v'<=v->v'<=za1 A f s->zkS A f l i v':=λ v' h1 h2 t ht=>by
    rw [QQ hi,<- hs] at ht;rcases Qu.1 ht with rfl | ht
    .exact h2
    .exact Int.le_trans h1 (hv3 t ht)
   rw [<- hs] at q1 q2 q3 q4 q5 q6 hfr;rw [hk];obtain ⟨k,hkd⟩ : ∃ k,k=stT A s:=⟨_,rfl⟩;rw [<- hkd] at q4 q5 q6 ⊢;have hbk:=hcode k.toNat (by omega)
   obtain ⟨x,hx⟩ : ∃ x,x=encS s:=⟨_,rfl⟩;rw [q6,<- hx] at hbk;refine zae (zad (rk (s:=?s14) [1,4,5,6,8] [88,90] rfl ?o14 ?q14))
   case o14=>simp [hbk,q4,q5]; rfl
   have hfa:=hfit.2 s.1 q1;have heo:=hav _ (zcF q1);obtain ⟨e,he⟩ : ∃ e,e=arcD A s.1:=⟨_,rfl⟩;obtain ⟨w,hw⟩ : ∃ w,w=f.getD s.1 0:=⟨_,rfl⟩;have hg1 : A[s.1]? = some e:=by rw [he]; unfold arcD; rw [Qd,Qa q1,Qz]
   have hg2 : f[s.1]? = some w:=by rw [hw,Qd,Qa (by omega),Qz]
   rw [<- he,<- hw] at hfa;rw [<- he] at heo;obtain ⟨e1,e2,e3,e4,e5,e6,e7,e8,e9⟩:=heo;obtain ⟨a,c⟩:=s;simp only at q1 hg1 hg2 he hw;have hal' : a<A.length:=q1;have ha0 : (0 : Int)<=a/\(a : Int)<A.length:=by omega
   have hafl : a<f.length:=by omega
   have hAe : A[a]=e:=by rw [Qa hal'] at hg1; exact Qf hg1
   have hfw : f[a]=w:=by rw [Qa hafl] at hg2; exact Qf hg2
   cases c with
   | false =>
     have hen : encS (a,false)=(a : Int)+1:=rfl;have hro : za1 A f (a,false)=e.v - w:=by unfold za1; simp [he,hw]
     have hst : stF A (a,false)=e.f:=by unfold stF; simp [he]
     rw [hen] at hx;rw [hst] at hfr;rw [hro] at q2 hvn;have hw1 : IntKind.i64.wrap (x - 1)=(a : Int):=by rw [w6]; omega
     have hw2 : IntKind.i64.wrap (e.v - w)=e.v - w:=w6;refine rk (s:=?s15) [1,4,5,6,8,33] [88,90] rfl ?o15 ?q15
     case o15=>simp; rfl
     refine zac _ rfl (λ h16=>?_) λ h16=>?_
     .refine zaP rfl ?_
      simp [hw1,hw2,ha0,hal',hafl,hAe,hfw];refine ⟨rfl,⟨i,if e.v - w<v then e.v - w else v⟩,⟨by simp only; omega,by simp only; split <;> omega,by simp only; split <;> omega,hvn (if e.v - w<v then e.v - w else v) (by split <;> omega) (by split <;> omega)⟩,Nat.lt_succ_self i,Le.go [(88,88),(90,90)] [] rfl rfl (by simp [hfr]) (by simp [fcd])⟩
     .simp at h16
      omega
   | true =>
     have hen : encS (a,true) = -((a : Int)+1):=rfl;have hro : za1 A f (a,true)=w:=by unfold za1; simp [hw]
     have hst : stF A (a,true)=e.t:=by unfold stF; simp [he]
     rw [hen] at hx;rw [hst] at hfr;rw [hro] at q2 hvn;have hw0 : IntKind.i64.wrap (-x)=(a : Int)+1:=by rw [w6]; omega
     have hw1 : IntKind.i64.wrap (a : Int)=(a : Int):=w6;refine rk (s:=?s25) [1,4,5,6,8,33] [88,90] rfl ?o25 ?q25
     case o25=>simp; rfl
     refine zac _ rfl (λ h16=>?_) λ h16=>?_
     .simp at h16
      omega
     .refine zaP rfl ?_
      simp [hw0,hw1,ha0,hal',hafl,hAe,hfw];refine ⟨rfl,⟨i,if w<v then w else v⟩,⟨by simp only; omega,by simp only; split <;> omega,by simp only; split <;> omega,hvn (if w<v then w else v) (by split <;> omega) (by split <;> omega)⟩,Nat.lt_succ_self i,Le.go [(88,88),(90,90)] [] rfl rfl (by simp [hfr]) (by simp [fcd])⟩
  simp at h13
  obtain rfl : j=0:=by
   cases j with
   | zero=>rfl
   | succ i =>
     have h2:=(hl.at_ i (by omega)).2.2.1
     refine absurd ?_ h2;have h3 : endW A 0 l (i+1)=stT A (l.getD i (0,false)):=rfl;rw [h3,Qd,Qa (by omega)] at h13
     exact h13
  exact zai (hit ⟨v,⟨hv1,hv2,hv3⟩,LeI [(88,88),(90,90)] []⟩)
 obtain ⟨hv1,hv2,hv3⟩:=hv;have hv3' : ∀ s∈l,v<=za1 A f s:=λ s hs=>hv3 s (by simpa using hs)
 obtain ⟨hf2,hval⟩:=hl.push hno hf (by omega) hv3'
 have hbnd:=zcL (S:=λ x=>decide (x=0)) hno hf2 (by simp) (by simp)
 refine zaa ⟨112,[(1,.pv (nC ⟨N,A⟩)),(4,.rs 88 0 A.length),(5,.rs 90 0 N),(6,.I v),(9,.I 1)],[(88,some ⟨1,zaf f,0⟩),(90,some ⟨1,zaf b,0⟩)],700⟩ rfl ?_ ?_
 .simp
  exact LeI [(88,88),(90,90)] []
 refine zad ?_
 refine zaj (ι:=Nat) (λ j=>⟨112,[(1,.pv (nC ⟨N,A⟩)),(4,.rs 88 0 A.length),(5,.rs 90 0 N),(6,.I v),(9,.I (endW A 0 l j))],[(88,some ⟨1,zaf (zcJ v f l j),0⟩),(90,some ⟨1,zaf b,0⟩)],800⟩)
  (λ j=>j<=l.length) (λ j=>j) l.length (Ql _) (Le.go [(88,88),(90,90)] [] rfl rfl (by simp [hle]) (by simp [fcd,zl2])) ?_
 intro j hj;refine zab (zaa ⟨112,[(1,.pv (nC ⟨N,A⟩)),(4,.rs 88 0 A.length),(5,.rs 90 0 N),(6,.I v),(9,.I (endW A 0 l j)),(73,.B (!decide (endW A 0 l j=0)))],[(88,some ⟨1,zaf (zcJ v f l j),0⟩),(90,some ⟨1,zaf b,0⟩)],900⟩ rfl ?_ ?_)
 .simp
  exact Le.go [(88,88),(90,90)] [] rfl rfl (by simp <;> exact wkB (by rw [QE]; simp)) (by simp [fcd])
 refine zac _ rfl (λ h19=>?_) λ h19=>?_
 .simp at h19
  obtain ⟨i,rfl⟩ : ∃ i,j=i+1:=by
   cases j with
   | zero=>exact absurd rfl h19
   | succ i=>exact ⟨i,rfl⟩
  have hi : i<l.length:=by omega
  obtain ⟨q1,q2,q3,q4,q5,q6⟩:=hl.at_ i hi;have hfr:=hl.from_ i hi;have hstep:=zjV (v:=v) (f:=f) i hi;have hget:=zmq (v:=v) hl.nodup hlr i hi;have hroom:=hv3' _ (Qj hi);obtain ⟨s,hs⟩ : ∃ s,s=l[i]:=⟨_,rfl⟩
  have hk : endW A 0 l (i+1)=stT A s:=by
   show stT A (l.getD i (0,false))=_;rw [Qd,Qa hi,hs];rfl
  rw [<- hs] at q1 q2 q3 q4 q5 q6 hfr hstep hget hroom;rw [hk];obtain ⟨k,hkd⟩ : ∃ k,k=stT A s:=⟨_,rfl⟩;rw [<- hkd] at q4 q5 q6 ⊢;have hbk:=hcode k.toNat (by omega)
  obtain ⟨x,hx⟩ : ∃ x,x=encS s:=⟨_,rfl⟩;rw [q6,<- hx] at hbk;have hFl : (zcJ v f l (i+1)).length=A.length:=by rw [znc,hfl]
  obtain ⟨F,hF⟩ : ∃ F,F=zcJ v f l (i+1):=⟨_,rfl⟩;rw [<- hF] at hFl hget hstep ⊢;have hfa:=hfit.2 s.1 q1;have heo:=hav _ (zcF q1);obtain ⟨e,he⟩ : ∃ e,e=arcD A s.1:=⟨_,rfl⟩;obtain ⟨w,hw⟩ : ∃ w,w=f.getD s.1 0:=⟨_,rfl⟩;have hg1 : A[s.1]? = some e:=by rw [he]; unfold arcD; rw [Qd,Qa q1,Qz]
  have hg2 : F[s.1]? = some w:=by rw [hw,<- hget,Qd,Qa (by omega),Qz]
  rw [<- he,<- hw] at hfa;rw [<- he] at heo;obtain ⟨e1,e2,e3,e4,e5,e6,e7,e8,e9⟩:=heo;obtain ⟨a,c⟩:=s;simp only at q1 hg1 hg2 he hw;have hal' : a<A.length:=q1;have ha0 : (0 : Int)<=a/\(a : Int)<A.length:=by omega
  have hafl : a<F.length:=by omega
  have hAe : A[a]=e:=by rw [Qa hal'] at hg1; exact Qf hg1
  have hfw : F[a]=w:=by rw [Qa hafl] at hg2; exact Qf hg2
  have hset : zcJ v f l i=F.set a (w+if c then -v else v):=by rw [hstep]; unfold ze5; simp only [hget]; rw [hw]
  refine zae (zad (zaa ⟨112,[(1,.pv (nC ⟨N,A⟩)),(4,.rs 88 0 A.length),(5,.rs 90 0 N),(6,.I v),(10,.I x)],[(88,some ⟨1,zaf F,0⟩),(90,some ⟨1,zaf b,0⟩)],1000⟩ rfl ?_ ?_))
  .simp [hbk,q4,q5]
   exact LeI [(88,88),(90,90)] []
  refine zaa ⟨112,[(1,.pv (nC ⟨N,A⟩)),(4,.rs 88 0 A.length),(5,.rs 90 0 N),(6,.I v),(10,.I x),(79,.B (decide (0<x)))],[(88,some ⟨1,zaf F,0⟩),(90,some ⟨1,zaf b,0⟩)],1100⟩ rfl ?_ ?_
  .simp
   exact LeI [(88,88),(90,90)] []
  cases c with
  | false =>
    have hen : encS (a,false)=(a : Int)+1:=rfl;have hro : za1 A f (a,false)=e.v - w:=by unfold za1; simp [he,hw]
    have hst : stF A (a,false)=e.f:=by unfold stF; simp [he]
    rw [hen] at hx;rw [hst] at hfr;rw [hro] at hroom;have hw1 : IntKind.i64.wrap (x - 1)=(a : Int):=by rw [w6]; omega
    have hw2 : IntKind.i64.wrap (w+v)=w+v:=w6;refine zac _ rfl (λ h16=>?_) λ h16=>?_
    .refine zaa ⟨112,[(1,.pv (nC ⟨N,A⟩)),(4,.rs 88 0 A.length),(5,.rs 90 0 N),(6,.I v),(10,.I x)],[(88,some ⟨1,zaf (F.set a (w+v)),0⟩),(90,some ⟨1,zaf b,0⟩)],1300⟩ rfl ?_ ?_
     .simp [hw1,hw2,ha0,hal',hafl,hAe,hfw,zat]
      exact LeI [(88,88),(90,90)] []
     refine zan rfl ?_;simp [hw1,ha0,hal',hAe];exact ⟨i,by omega,by omega,Le.go [(88,88),(90,90)] [] rfl rfl (by simp [hfr]) (by simp [fcd,hset])⟩
    .simp at h16
     omega
  | true =>
    have hen : encS (a,true) = -((a : Int)+1):=rfl;have hro : za1 A f (a,true)=w:=by unfold za1; simp [hw]
    have hst : stF A (a,true)=e.t:=by unfold stF; simp [he]
    rw [hen] at hx;rw [hst] at hfr;rw [hro] at hroom;have hw0 : IntKind.i64.wrap (-x)=(a : Int)+1:=by rw [w6]; omega
    have hw1 : IntKind.i64.wrap (a : Int)=(a : Int):=w6;have hw2 : IntKind.i64.wrap (w - v)=w + -v:=by rw [w6]; omega
    refine zac _ rfl (λ h16=>?_) λ h16=>?_
    .simp at h16
     omega
    .refine zaa ⟨112,[(1,.pv (nC ⟨N,A⟩)),(4,.rs 88 0 A.length),(5,.rs 90 0 N),(6,.I v),(10,.I x)],[(88,some ⟨1,zaf (F.set a (w + -v)),0⟩),(90,some ⟨1,zaf b,0⟩)],1300⟩ rfl ?_ ?_
     .simp [hw0,hw1,hw2,ha0,hal',hafl,hAe,hfw,zat]
      exact LeI [(88,88),(90,90)] []
     refine zan rfl ?_;simp [hw0,hw1,ha0,hal',hAe];exact ⟨i,by omega,by omega,Le.go [(88,88),(90,90)] [] rfl rfl (by simp [hfr]) (by simp [fcd,hset])⟩
 simp at h19
 obtain rfl : j=0:=by
  cases j with
  | zero=>rfl
  | succ i =>
    have h2:=(hl.at_ i (by omega)).2.2.1
    refine absurd ?_ h2;have h3 : endW A 0 l (i+1)=stT A (l.getD i (0,false)):=rfl;rw [h3,Qd,Qa (by omega)] at h19
    exact h19
 exact zai (hit ⟨zcJ v f l 0,hf2,by rw [hval]; omega,LeI [(88,88)] []⟩)
theorem zo5 : toAV (Value.agg #[Value.int IntKind.i64 0,Value.bool false]) = .agg [.sc (.int .i64 0),.sc (.bool false)]:=by simp [toAV,Value.oneCell']
theorem zwp {a b : Int} : Plain (.tup [.I a,.I b]):=.tup _ λ i=>match i with
 | 0=>.sc _
 | 1=>.sc _
 | _+2=>.dead
structure zwY where
 j : Nat
 v : Int
def wayB (l : List Stp) (j : Nat) : List Stp:=(l.drop j).reverse
theorem zpA (l : List Stp) (j : Nat) : (wayB l j).length=l.length - j:=by simp [wayB]
theorem zsh {l : List Stp} {j : Nat} (h : j<l.length) : wayB l j=wayB l (j+1)++[l[j]]:=by
 unfold wayB;rw [QQ h,List.reverse_cons]
theorem ztp (l : List Stp) : wayB l l.length=[]:=by simp [wayB]
theorem zpE {N : Nat} {A : List Ed} {f D b : List Int} {l : List Stp} (hb : Bfs N A f D b) (hl : zj5 N A f b l) {j : Nat} (hj : j<l.length) : camF D b (stT A l[j])=some (zqj l[j]):=by
 obtain ⟨q1,q2,q3,q4,q5,q6⟩:=hl.at_ j hj;have hD : stT A l[j]∈D:=Uh λ h=>zuT l[j] (by rw [<- q6]; exact hb.out _ q4 h)
 unfold camF;rw [if_pos hD,if_neg q3,q6,znz]
theorem zxy (N : Nat) (A : List Ed) (f : List Int) (hn : zaT ⟨N,A⟩) (hf : zaF N A f) :
  ∃ x : Bool × List Int,(if x.1 then zaF N A x.2/\valF A f+1<=valF A x.2 else x.2=f /\ ∀ f',zaF N A f'->valF A f'<=valF A f)/\AcP 177 [eR N A (.rs 0 0 A.length)] [⟨1,zaf f,0⟩] (.B x.1) [some ⟨1,zaf x.2,0⟩]:=by
 refine ze9.s.acallsX (args:=[eR N A (.rs 0 0 A.length)]) (hs:=[⟨1,zaf f,0⟩]) (λ x=>.B x.1) (λ x=>[some ⟨1,zaf x.2,0⟩]) (λ x : Bool × List Int=>if x.1 then zaF N A x.2/\valF A f+1<=valF A x.2 else x.2=f /\ ∀ f',zaF N A f'->valF A f'<=valF A f) (nbz rfl) (nbz rfl) (λ _=>by simp) ?_
 show awp _ 1 _ _ ⟨86,[(0,eR N A (.rs 0 0 A.length))],[(0,some ⟨1,zaf f,0⟩)],16⟩;have hno:=zbR hn;have hfl:=hf.fit.len;have hfit:=zb8.1 hf.fit;obtain ⟨⟨D,b,R⟩,⟨hb,hcl,hR⟩,hcall⟩:=zoG N A f hn hf.fit;simp only at hb hcl hR hcall;have hroom:=λ s hs=>zsb N A f s hn hf.fit hs;obtain ⟨hn0,hn1,hal,hav⟩:=hn;simp only at hn0 hn1 hal hav;have htake : ∀ g : Int->List AV,List.take A.length (List.map g f)=List.map g f:=λ g=>Qb (by simp; omega)
 have hfind:=hR.is.find;have hsome:=ze7 D b 1;refine zaa ⟨86,[(1,.pt 16 0 0)],[(0,some ⟨1,zaf f,0⟩),(16,some ⟨4,[rC N A (.rs 0 0 A.length)],0⟩)],32⟩ rfl ?_ ?_
 .simp
  exact LeI [(0,0),(16,16)] []
 refine zaa ⟨86,[(1,.pt 16 0 0),(3,.mp 60)],[(0,some ⟨1,zaf f,0⟩),(16,some ⟨4,[rC N A (.rs 0 0 A.length)],0⟩),(60,some ⟨0,R,0⟩)],100⟩ rfl ?_ ?_
 .simp
  refine zdO [0] hcall (by simp [fcd,htake,hfl]) (.mp _) (hR.plain _ _) ?_
  simp;exact Le.go [(0,0),(16,16),(40,60)] [] rfl rfl (by simp) (by simp [fcd,hR.conv'])
 refine zab ?_
 have hgd : ∃ u v,(camF D b 1).getD (toAV (Value.agg #[Value.int IntKind.i64 0,Value.bool false])) = .agg [.sc u,.sc v]:=by
  cases hc : camF D b 1 with
  | none=>exact ⟨_,_,zo5⟩
  | some x =>
    obtain ⟨u,v,rfl⟩:=zer _ _ _ _ hc;exact ⟨u,v,rfl⟩
 refine zaa ⟨86,[(1,.pt 16 0 0),(3,.mp 60),(5,.B (decide ((1 : Int)∈D)))],[(0,some ⟨1,zaf f,0⟩),(16,some ⟨4,[rC N A (.rs 0 0 A.length)],0⟩),(60,some ⟨0,R,0⟩)],200⟩ rfl ?_ ?_
 .obtain ⟨u,v,huv⟩:=hgd
  simp [hfind,hsome,huv];exact Le.go [(0,0),(16,16),(60,60)] [] rfl rfl (by simp) (by simp [fcd,hR.conv'])
 refine zaa ⟨86,[(1,.pt 16 0 0),(3,.mp 60),(22,.B (!decide ((1 : Int)∈D)))],[(0,some ⟨1,zaf f,0⟩),(16,some ⟨4,[rC N A (.rs 0 0 A.length)],0⟩),(60,some ⟨0,R,0⟩)],300⟩ rfl ?_ ?_
 .simp
  exact Le.go [(0,0),(16,16),(60,60)] [] rfl rfl (by simp) (by simp [fcd,hR.conv'])
 refine zac _ rfl (λ h5=>?_) λ h5=>?_
 .have h1D : (1 : Int)∉D:=by simpa using h5
  refine zaa ⟨86,[(2,.B false)],[(0,some ⟨1,zaf f,0⟩)],400⟩ rfl ?_ ?_
  .simp
   exact LeI [(0,0)] []
  exact zah (zhs.mk (.inr rfl) (false,f) ⟨rfl,(zeM hno hf hb.mem0 h1D hcl).2⟩ (zao.k1 rfl (by simp) (by simp [fcd])))
 have h1D : (1 : Int)∈D:=by simpa using h5
 obtain ⟨l,hl⟩:=hb.chain h1D;have hle:=zoe hl.way
 have hlr : ∀ s∈l,s.1<f.length:=λ s hs=>by
  obtain ⟨i,hi,rfl⟩:=QF.1 hs;have:=(hl.at_ i hi).1;omega
 have hl0 : 0<l.length:=by
  cases hll : l with
  | nil=>rw [hll] at hle; cases hle
  | cons=>simp
 have hlA : l.length<=A.length:=by
  have:=zaL (a:=l.map λ s=>(s.1 : Int)) (b:=(List.range A.length).map λ i : Nat=>(i : Int)) (by
   have:=hl.nodup;have e : (l.map λ s=>(s.1 : Int))=(l.map (·.1)).map λ i : Nat=>(i : Int):=by simp
   rw [e]
   exact zbZ (λ i j h=>by have h2 : (i : Int)=j:=h; omega) this) λ x hx=>by
   obtain ⟨s,hs,rfl⟩:=Qg.1 hx;exact Qg.2 ⟨s.1,QA.2 (by have:=hlr s hs; omega),rfl⟩
  rw [Qt,Qt,UB] at this;exact this
 have hcam:=λ j (hj : j<l.length)=>zpE hb hl hj;refine zae (zaa ⟨86,[(1,.pt 16 0 0),(3,.mp 60),(6,.rs 61 0 0)],[(0,some ⟨1,zaf f,0⟩),(16,some ⟨4,[rC N A (.rs 0 0 A.length)],0⟩),(60,some ⟨0,R,0⟩),(61,some ⟨2,[],0⟩)],400⟩ rfl ?_ ?_)
 .simp
  refine Le.lst [(0,0),(16,16),(60,60)] [] [(61,2)] rfl (by simp) (by simp) (by simp) (by simp) (by simp) (by simp) (by simp) (by simp [Up]) ?_
  simp [fcd,hR.conv']
  exact ⟨zaA.rfl' (Qi _),zaA.rfl' (Qi _),zaA.rfl' (Qi _)⟩
 refine zaa ⟨86,[(1,.pt 16 0 0),(3,.mp 60),(6,.rs 61 0 0),(7,.I 1048576)],[(0,some ⟨1,zaf f,0⟩),(16,some ⟨4,[rC N A (.rs 0 0 A.length)],0⟩),(60,some ⟨0,R,0⟩),(61,some ⟨2,[],0⟩)],500⟩ rfl ?_ ?_
 .simp
  exact Le.go [(0,0),(16,16),(60,60),(61,61)] [] rfl rfl (by simp) (by simp [fcd,hR.conv'])
 refine zap (ι:=Int) (λ v=>⟨86,[(1,.pt 16 0 0),(6,.rs 61 0 l.length),(7,.I v)],[(0,some ⟨1,zaf f,0⟩),(16,some ⟨4,[rC N A (.rs 0 0 A.length)],0⟩),(61,some ⟨2,(wayB l 0).map zba,0⟩)],600⟩) (λ v=>1<=v/\v<=1048576/\zkS A f l 0 v) ?_ λ v hv=>?_
 .refine zaa ⟨86,[(1,.pt 16 0 0),(3,.mp 60),(6,.rs 61 0 0),(7,.I 1048576),(8,.I 1)],[(0,some ⟨1,zaf f,0⟩),(16,some ⟨4,[rC N A (.rs 0 0 A.length)],0⟩),(60,some ⟨0,R,0⟩),(61,some ⟨2,[],0⟩)],600⟩ rfl ?_ ?_
  .simp
   exact Le.go [(0,0),(16,16),(60,60),(61,61)] [] rfl rfl (by simp) (by simp [fcd,hR.conv'])
  refine zad ?_
  refine zaj (ι:=zwY) (λ s=>⟨86,[(1,.pt 16 0 0),(3,.mp 60),(6,.rs 61 0 (l.length - s.j)),(7,.I s.v),(8,.I (endW A 0 l s.j))],[(0,some ⟨1,zaf f,0⟩),(16,some ⟨4,[rC N A (.rs 0 0 A.length)],0⟩),(60,some ⟨0,R,0⟩),(61,some ⟨2,(wayB l s.j).map zba,0⟩)],600⟩)
   (λ s=>s.j<=l.length/\1<=s.v/\s.v<=1048576/\zkS A f l s.j s.v) (λ s=>s.j) ⟨l.length,1048576⟩ ⟨Ql _,by simp,by simp,by simp [zkS]⟩ (Le.go [(0,0),(16,16),(60,60),(61,61)] [] rfl rfl (by simp [hle]) (by simp [fcd,hR.conv',ztp])) ?_
  rintro ⟨j,v⟩ ⟨hj,hv1,hv2,hv3⟩
  simp only at hj hv1 hv2 hv3;refine zab (zaa ⟨86,[(1,.pt 16 0 0),(3,.mp 60),(6,.rs 61 0 (l.length - j)),(7,.I v),(8,.I (endW A 0 l j)),(24,.B (!decide (endW A 0 l j=0)))],[(0,some ⟨1,zaf f,0⟩),(16,some ⟨4,[rC N A (.rs 0 0 A.length)],0⟩),(60,some ⟨0,R,0⟩),(61,some ⟨2,(wayB l j).map zba,0⟩)],700⟩ rfl ?_ ?_)
  .simp
   exact Le.go [(0,0),(16,16),(60,60),(61,61)] [] rfl rfl (by simp <;> exact wkB (by rw [QE]; simp)) (by simp [fcd,hR.conv'])
  refine zac _ rfl (λ h13=>?_) λ h13=>?_
  .simp at h13
   obtain ⟨i,rfl⟩ : ∃ i,j=i+1:=by
    cases j with
    | zero=>exact absurd rfl h13
    | succ i=>exact ⟨i,rfl⟩
   have hi : i<l.length:=by omega
   obtain ⟨q1,q2,q3,q4,q5,q6⟩:=hl.at_ i hi;have hfr:=hl.from_ i hi;have hca:=hcam i hi;have hws:=zsh hi;have hwl:=zpA l (i+1);obtain ⟨s,hs⟩ : ∃ s,s=l[i]:=⟨_,rfl⟩
   have hk : endW A 0 l (i+1)=stT A s:=by
    show stT A (l.getD i (0,false))=_;rw [Qd,Qa hi,hs];rfl
   have hvn : ∀ v' : Int,v'<=v->v'<=za1 A f s->zkS A f l i v':=λ v' h1 h2 t ht=>by
    rw [QQ hi,<- hs] at ht;rcases Qu.1 ht with rfl | ht
    .exact h2
    .exact Int.le_trans h1 (hv3 t ht)
   rw [<- hs] at q1 q2 q3 q4 q5 q6 hfr hca hws;have hrm:=hroom s q1
   have hrmb : za1 A f s<=1048576:=by
    have h1:=hfit.2 s.1 q1;have h2:=(hav _ (zcF q1)).2.2.2.2.2.2.2.2;unfold za1;split <;> omega
   rw [hk];obtain ⟨k,hkd⟩ : ∃ k,k=stT A s:=⟨_,rfl⟩;obtain ⟨rm,hrd⟩ : ∃ rm,rm=za1 A f s:=⟨_,rfl⟩;obtain ⟨W,hW⟩ : ∃ W,W=wayB l (i+1):=⟨_,rfl⟩;rw [<- hkd] at q3 q4 q5 q6 hca hrm ⊢;rw [<- hrd] at q2 hrm hrmb hvn;rw [<- hW] at hws hwl;have hAe:=zmE q1;have hlen : l.length - (i+1)=W.length:=by omega
   rw [hlen,<- hW];refine zae (zad (zaa ⟨86,[(1,.pt 16 0 0),(3,.mp 60),(6,.rs 61 0 W.length),(7,.I v),(9,.pv (zba s))],[(0,some ⟨1,zaf f,0⟩),(16,some ⟨4,[rC N A (.rs 0 0 A.length)],0⟩),(60,some ⟨0,R,0⟩),(61,some ⟨2,W.map zba,0⟩)],800⟩ rfl ?_ ?_))
   .simp [hfind,hca,zqj]
    exact Le.go [(0,0),(16,16),(60,60),(61,61)] [724] rfl rfl (by simp) (by simp [fcd,hR.conv'])
   refine zaa ⟨86,[(1,.pt 16 0 0),(3,.mp 60),(6,.rs 61 0 W.length),(7,.I v),(9,.pv (zba s)),(10,.I rm)],[(0,some ⟨1,zaf f,0⟩),(16,some ⟨4,[rC N A (.rs 0 0 A.length)],0⟩),(60,some ⟨0,R,0⟩),(61,some ⟨2,W.map zba,0⟩)],900⟩ rfl ?_ ?_
   .simp
    refine zfE [0] hrm (by simp [fcd,htake,hfl]) zwp ?_
    simp;exact Le.go [(0,0),(16,16),(60,60),(61,61)] [] rfl rfl (by simp) (by simp [fcd,hR.conv'])
   refine zaa ⟨86,[(1,.pt 16 0 0),(3,.mp 60),(6,.rs 62 0 (W.length+1)),(7,.I (if rm<v then rm else v)),(9,.pv (zba s))],[(0,some ⟨1,zaf f,0⟩),(16,some ⟨4,[rC N A (.rs 0 0 A.length)],0⟩),(60,some ⟨0,R,0⟩),(62,some ⟨2,(W++[s]).map zba,0⟩)],1000⟩ rfl ?_ ?_
   .have hmw : ∀ g : Stp->List AV,List.take W.length (List.map g W)=List.map g W:=λ g=>Qb (by simp)
    simp [hmw];exact ⟨by omega,by omega,Le.go [(0,0),(16,16),(60,60),(924,62)] [] rfl rfl (by simp) (by simp [fcd,hR.conv'])⟩
   have hst : stF A s=if s.2 then (arcD A s.1).t else (arcD A s.1).f:=rfl
   have hqi : (s.1 : Int)<A.length:=by omega
   refine zaa ⟨86,[(1,.pt 16 0 0),(3,.mp 60),(6,.rs 62 0 (W.length+1)),(7,.I (if rm<v then rm else v)),(8,.I (arcD A s.1).f),(9,.pv (zba s))],[(0,some ⟨1,zaf f,0⟩),(16,some ⟨4,[rC N A (.rs 0 0 A.length)],0⟩),(60,some ⟨0,R,0⟩),(62,some ⟨2,(W++[s]).map zba,0⟩)],1100⟩ rfl ?_ ?_
   .have hAe' : A[s.1]=arcD A s.1:=by rw [Qa q1] at hAe; exact Qf hAe
    simp [q1,hAe'];exact Le.go [(0,0),(16,16),(60,60),(62,62)] [] rfl rfl (by simp) (by simp [fcd,hR.conv'])
   refine zaa ⟨86,[(1,.pt 16 0 0),(3,.mp 60),(6,.rs 62 0 (W.length+1)),(7,.I (if rm<v then rm else v)),(8,.I (arcD A s.1).f),(9,.pv (zba s)),(50,.B s.2)],[(0,some ⟨1,zaf f,0⟩),(16,some ⟨4,[rC N A (.rs 0 0 A.length)],0⟩),(60,some ⟨0,R,0⟩),(62,some ⟨2,(W++[s]).map zba,0⟩)],1200⟩ rfl ?_ ?_
   .simp
    exact Le.go [(0,0),(16,16),(60,60),(62,62)] [] rfl rfl (by simp) (by simp [fcd,hR.conv'])
   have hwl2 : l.length - i=W.length+1:=by omega
   have hinv : i<=l.length/\1<=(if rm<v then rm else v)/\(if rm<v then rm else v)<=1048576/\zkS A f l i (if rm<v then rm else v):=⟨by omega,by split <;> omega,by split <;> omega,hvn _ (by split <;> omega) (by split <;> omega)⟩
   refine zac _ rfl (λ h16=>?_) λ h16=>?_
   .have hAe' : A[s.1]=arcD A s.1:=by rw [Qa q1] at hAe; exact Qf hAe
    rw [if_pos h16] at hst;refine zan rfl ?_;simp [q1,hAe'];exact ⟨⟨i,if rm<v then rm else v⟩,hinv,Nat.lt_succ_self i,Le.go [(0,0),(16,16),(60,60),(62,61)] [] rfl rfl (by simp [hwl2,<- hfr,hst]) (by simp [fcd,hR.conv',hws])⟩
   .rw [if_neg (by simp [h16])] at hst
    exact zae ⟨⟨i,if rm<v then rm else v⟩,hinv,Nat.lt_succ_self i,Le.go [(0,0),(16,16),(60,60),(62,61)] [] rfl rfl (by simp [hwl2,<- hfr,hst]) (by simp [fcd,hR.conv',hws])⟩
  simp at h13
  obtain rfl : j=0:=by
   cases j with
   | zero=>rfl
   | succ i =>
     have h2:=(hl.at_ i (by omega)).2.2.1
     refine absurd ?_ h2;have h3 : endW A 0 l (i+1)=stT A (l.getD i (0,false)):=rfl;rw [h3,Qd,Qa (by omega)] at h13
     exact h13
  exact zai (hit ⟨v,⟨hv1,hv2,hv3⟩,LeI [(0,0),(16,16),(61,61)] []⟩)
 obtain ⟨hv1,hv2,hv3⟩:=hv;have hv3' : ∀ s∈l,v<=za1 A f s:=λ s hs=>hv3 s (by simpa using hs)
 obtain ⟨hf2,hval⟩:=hl.push hno hf (by omega) hv3'
 have hWl:=zpA l 0;obtain ⟨W,hW⟩ : ∃ W,W=wayB l 0:=⟨_,rfl⟩;rw [<- hW] at hWl ⊢;have hWl : l.length=W.length:=by omega
 refine zab (zaa ⟨86,[(1,.pt 16 0 0),(7,.I v),(59,.vs 2 false (W.map zba)),(60,.I W.length),(61,.I 0)],[(0,some ⟨1,zaf f,0⟩),(16,some ⟨4,[rC N A (.rs 0 0 A.length)],0⟩)],700⟩ rfl ?_ ?_)
 .have hmw : ∀ g : Stp->List AV,List.take W.length (List.map g W)=List.map g W:=λ g=>Qb (by simp)
  simp;exact Le.go [(0,0),(16,16)] [61] rfl rfl (by simp [hWl,hmw,fcd]) (by simp [fcd])
 refine zad (zaj (ι:=Nat) (λ i=>⟨86,[(1,.pt 16 0 0),(7,.I v),(59,.vs 2 false (W.map zba)),(60,.I W.length),(61,.I i)],[(0,some ⟨1,zaf (zcJ v f l (l.length - i)),0⟩),(16,some ⟨4,[rC N A (.rs 0 0 A.length)],0⟩)],700⟩) (λ i=>i<=W.length) (λ i=>W.length - i) 0 (Qi _) (Le.go [(0,0),(16,16)] [] rfl rfl (by simp) (by simp [fcd,zl2])) ?_)
 intro i hi;have hFl0 : (zcJ v f l (l.length - i)).length=A.length:=by rw [znc,hfl]
 refine zaa ⟨86,[(1,.pt 16 0 0),(7,.I v),(59,.vs 2 false (W.map zba)),(60,.I W.length),(61,.I i),(62,.B (decide (i<W.length)))],[(0,some ⟨1,zaf (zcJ v f l (l.length - i)),0⟩),(16,some ⟨4,[rC N A (.rs 0 0 A.length)],0⟩)],800⟩ rfl ?_ ?_
 .simp
  exact LeI [(0,0),(16,16)] []
 refine zab (zac _ rfl (λ h20=>?_) λ h20=>?_)
 .simp at h20
  have hw1 : IntKind.i64.wrap ((i : Int)+1)=(i : Int)+1:=w6;obtain ⟨j,hj⟩ : ∃ j,l.length - i=j+1:=⟨l.length - i - 1,by omega⟩
  have hjl : j<l.length:=by omega
  have hj2 : l.length - (i+1)=j:=by omega
  have hWi : W[i]=l[j]:=by
   have : W[i]? = some l[j]:=by
    rw [hW];unfold wayB;rw [List.drop_zero,List.getElem?_reverse (by omega),Qa (by omega)]
    congr 1
    congr 1
    omega
   rw [Qa h20] at this;exact Qf this
  rw [hj] at hFl0 ⊢;obtain ⟨q1,q2,q3,q4,q5,q6⟩:=hl.at_ j hjl;have hstep:=zjV (v:=v) (f:=f) j hjl;have hget:=zmq (v:=v) hl.nodup hlr j hjl;have hroomj:=hv3' _ (Qj hjl);obtain ⟨s,hs⟩ : ∃ s,s=l[j]:=⟨_,rfl⟩;rw [<- hs] at q1 hstep hget hroomj hWi;obtain ⟨F,hF⟩ : ∃ F,F=zcJ v f l (j+1):=⟨_,rfl⟩;rw [<- hF] at hFl0 hget hstep ⊢;have hfa:=hfit.2 s.1 q1;have heo:=(hav _ (zcF q1)).2.2.2.2.2.2.2.2;obtain ⟨w,hw⟩ : ∃ w,w=f.getD s.1 0:=⟨_,rfl⟩;have haf : s.1<F.length:=by omega
  have hg2 : F[s.1]=w:=by
   have : F[s.1]? = some w:=by rw [hw,<- hget,Qd,Qa haf,Qz]
   rw [Qa haf] at this;exact Qf this
  rw [<- hw] at hfa;have hset : zcJ v f l j=F.set s.1 (w+if s.2 then -v else v):=by rw [hstep]; unfold ze5; rw [hget,<- hw]
  have hro : za1 A f s=if s.2 then w else (arcD A s.1).v - w:=by unfold za1; rw [<- hw]
  refine zae (zab (zad (zaa ⟨86,[(1,.pt 16 0 0),(7,.I v),(13,.pv (zba s)),(59,.vs 2 false (W.map zba)),(60,.I W.length),(61,.I i)],[(0,some ⟨1,zaf F,0⟩),(16,some ⟨4,[rC N A (.rs 0 0 A.length)],0⟩)],900⟩ rfl ?_ ?_)))
  .simp [h20,hWi]
   exact LeI [(0,0),(16,16)] [816]
  refine zaa ⟨86,[(1,.pt 16 0 0),(7,.I v),(13,.pv (zba s)),(59,.vs 2 false (W.map zba)),(60,.I W.length),(61,.I i),(66,.B s.2)],[(0,some ⟨1,zaf F,0⟩),(16,some ⟨4,[rC N A (.rs 0 0 A.length)],0⟩)],1000⟩ rfl ?_ ?_
  .simp
   exact LeI [(0,0),(16,16)] []
  have hsA : (s.1 : Int)<A.length:=by omega
  refine zac _ rfl (λ h16=>?_) λ h16=>?_
  .rw [if_pos h16] at hset hro
   have hw2 : IntKind.i64.wrap (w - v)=w + -v:=by rw [w6]; omega
   refine zan rfl ?_;simp [q1,haf,hg2,hw2,zat];refine zan rfl ?_;simp;exact ⟨i+1,by omega,by omega,Le.go [(0,0),(16,16)] [] rfl rfl (by simp [hw1]) (by simp [fcd,hj2,hset])⟩
  .rw [if_neg (by simp [h16])] at hset hro
   have hw2 : IntKind.i64.wrap (w+v)=w+v:=w6;refine zan rfl ?_;simp [q1,haf,hg2,hw2,zat];refine zan rfl ?_;simp;exact ⟨i+1,by omega,by omega,Le.go [(0,0),(16,16)] [] rfl rfl (by simp [hw1]) (by simp [fcd,hj2,hset])⟩
 simp at h20;obtain rfl : i=W.length:=by omega
 rw [show l.length - W.length=0 by omega]
 refine zai (hit (zaa ⟨86,[(2,.B true)],[(0,some ⟨1,zaf (zcJ v f l 0),0⟩)],900⟩ rfl ?_ ?_))
 .simp
  exact LeI [(0,0)] []
 exact zah (zhs.mk (.inr rfl) (true,zcJ v f l 0) ⟨hf2,by rw [hval]; omega⟩ (zao.k1 rfl (by simp) (by simp [fcd])))
theorem zfS {φ : Ed->Int->Int} : ∀ {A : List Ed} {f : List Int} (i : Nat) (h1 : i<A.length) (h2 : i<f.length),sumF φ (A.take (i+1)) (f.take (i+1))=sumF φ (A.take i) (f.take i)+φ A[i] f[i]
 | e::A,v::f,0,_,_=>by simp [sumF]
 | e::A,v::f,i+1,h1,h2=>by
   have:=zfS (φ:=φ) (A:=A) (f:=f) i (by simpa using h1) (by simpa using h2)
   simp only [List.take_succ_cons,sumF,this,List.getElem_cons_succ];omega
def netG (A : List Ed) (f : List Int) (i : Nat) (x : Int) : Int:=inF (A.take i) (f.take i) x - outF (A.take i) (f.take i) x
variable {N : Nat} {A : List Ed} {f : List Int}
theorem ziC (x : Int) : netG A f 0 x=0:=by simp [netG,inF,outF,sumF]
theorem ziJ {i : Nat} (h1 : i<A.length) (h2 : i<f.length) (x : Int) : netG A f (i+1) x=netG A f i x+(if A[i].t=x then f[i] else 0) - if A[i].f=x then f[i] else 0:=by
 unfold netG inF outF;rw [zfS i h1 h2,zfS i h1 h2];omega
theorem zoQ (hl : f.length=A.length) (x : Int) : netG A f A.length x = - exF A f x:=by
 unfold netG exF;rw [Qb (Ql _),Qb (by omega)]
 omega
theorem zgx (hl : f.length=A.length) (hb : ∀ j (h : j<f.length),0<=f[j]/\f[j]<=1048576) (x : Int) : ∀ i,i<=A.length -> -(1048576*(i : Int))<=netG A f i x/\netG A f i x<=1048576*(i : Int)
 | 0,_=>by rw [ziC]; omega
 | i+1,h=>by
   have ih:=zgx hl hb x i (by omega)
   have h2:=hb i (by omega)
   rw [ziJ (by omega) (by omega)]
   split <;> split <;> omega
theorem zmL {i : Nat} (h1 : i<A.length) (h2 : i<f.length) (x : Int) : outF (A.take (i+1)) (f.take (i+1)) x=outF (A.take i) (f.take i) x+if A[i].f=x then f[i] else 0:=by
 unfold outF;rw [zfS i h1 h2]
theorem zkb (hl : f.length=A.length) (hb : ∀ j (h : j<f.length),0<=f[j]/\f[j]<=1048576) (x : Int) : ∀ i,i<=A.length->0<=outF (A.take i) (f.take i) x/\outF (A.take i) (f.take i) x<=1048576*(i : Int)
 | 0,_=>by simp [outF,sumF]
 | i+1,h=>by
   have ih:=zkb hl hb x i (by omega)
   have h2:=hb i (by omega)
   rw [zmL (by omega) (by omega)]
   split <;> omega
def rowR (N : Nat) (g : Int->Int) : List Int:=(List.range N).map λ k : Nat=>g k
theorem zdN (N : Nat) (g : Int->Int) : (rowR N g).length=N:=by simp [rowR]
theorem zde {g : Int->Int} {x : Int} (h0 : 0<=x) (h1 : x<N) : (rowR N g)[x.toNat]? = some (g x):=by
 unfold rowR;rw [Qs,List.getElem?_range (by omega)]
 simp only [Q7,Int.toNat_of_nonneg h0]
theorem zhJ {g : Int->Int} {x v : Int} (h0 : 0<=x) (h1 : x<N) : (rowR N g).set x.toNat v=rowR N λ y=>if y=x then v else g y:=by
 apply U9;intro j
 by_cases hj : j<N
 .have e1:=zde (N:=N) (g:=λ y=>if y=x then v else g y) (x:=(j : Int)) (by omega) (by omega)
  have e2:=zde (N:=N) (g:=g) (x:=(j : Int)) (by omega) (by omega)
  simp only [UC] at e1 e2;rw [UF,e1,e2,zdN]
  by_cases hx : x.toNat=j
  .rw [if_pos hx,if_pos (by omega),if_pos (by omega)]
  .rw [if_neg hx,if_neg (by omega)]
 .rw [Q3 (by rw [Uy,zdN]; omega),Q3 (by rw [zdN]; omega)]
theorem zgA {g h : Int->Int} (e : ∀ x,g x=h x) : rowR N g=rowR N h:=by
 obtain rfl : g=h:=funext e;rfl
theorem zhb (hn : zaT ⟨N,A⟩) (hf : zaF N A f) : AcP 118 [eN ⟨N,A⟩,ints f] [] (.B true) []:=by
 refine zmo.s.ac ?_;show awp _ 0 _ _ ⟨87,[(0,eN ⟨N,A⟩),(1,ints f)],[],16⟩;have hfl:=hf.fit.len;have hfit:=zb8.1 hf.fit;have hchk:=zeY ⟨N,A⟩ (by have:=hn.2.2.1; simp only at this ⊢; omega)
 rw [if_pos hn] at hchk;obtain ⟨hn0,hn1,hal,hav⟩:=hn;simp only at hn0 hn1 hal hav
 have hfb : ∀ j (h : j<f.length),0<=f[j]/\f[j]<=(A[j]'(by omega)).v/\(A[j]'(by omega)).v<=1048576:=λ j hj=>by
  have h1:=hfit.2 j (by omega)
  have e1 : f.getD j 0=f[j]:=by rw [Qd,Qa hj,Qz]
  have e2 : arcD A j=A[j]'(by omega):=by unfold arcD; rw [Qd,Qa (by omega),Qz]
  rw [e1,e2] at h1;exact ⟨h1.1,h1.2,(hav _ (Qj (by omega))).2.2.2.2.2.2.2.2⟩
 have hbd:=zgx hfl λ j hj=>⟨(hfb j hj).1,by have:=hfb j hj; omega⟩
 refine rs [1,2] [] [16] ?_;refine zab (zaa ⟨87,[(1,ints f),(2,.pv (nC ⟨N,A⟩)),(18,.B false)],[],120⟩ rfl ?_ ?_)
 .simp
  refine cl0 hchk ?_;simp;exact Le.snap [] rfl rfl (by simp <;> exact wkB (by simp [hfl]))
 refine zac _ rfl (λ h3=>by cases h3) λ _=>?_
 refine zae (zaa ⟨87,[(1,ints f),(2,.pv (nC ⟨N,A⟩)),(5,.rs 136 0 N)],[(136,some ⟨1,zaf (rowR N (netG A f 0)),0⟩)],144⟩ rfl ?_ ?_)
 .simp
  refine ⟨by omega,by omega,?_⟩
  have : rowR N (netG A f 0)=List.replicate N 0:=by
   unfold rowR;simp only [ziC];simp [Vi]
  rw [this];exact LeH [(136,136)] []
 refine zab (zaa ⟨87,[(1,ints f),(2,.pv (nC ⟨N,A⟩)),(5,.rs 136 0 N),(6,.I 0)],[(136,some ⟨1,zaf (rowR N (netG A f 0)),0⟩)],160⟩ rfl ?_ ?_)
 .simp
  exact LeI [(136,136)] []
 refine zad (zaj (ι:=Nat) (λ i=>⟨87,[(1,ints f),(2,.pv (nC ⟨N,A⟩)),(5,.rs 136 0 N),(6,.I i)],[(136,some ⟨1,zaf (rowR N (netG A f i)),0⟩)],160⟩) (λ i=>i<=A.length) (λ i=>A.length - i) 0 (Qi _) (LeI [(136,136)] []) ?_);intro i hi;refine zab (zaa ⟨87,[(1,ints f),(2,.pv (nC ⟨N,A⟩)),(5,.rs 136 0 N),(6,.I i),(25,.B (decide (i<f.length)))],[(136,some ⟨1,zaf (rowR N (netG A f i)),0⟩)],192⟩ rfl ?_ ?_)
 .simp
  exact LeI [(136,136)] []
 refine zac _ rfl (λ h8=>?_) λ h8=>?_
 .simp at h8
  have hiA : i<A.length:=by omega
  have hw1 : IntKind.i64.wrap ((i : Int)+1)=(i : Int)+1:=w6;obtain ⟨b1,b2,b3⟩:=hfb i h8;have heo:=hav _ (Qj hiA);have hsucc:=ziJ hiA h8;have hbe:=λ x=>hbd x i (by omega)
  obtain ⟨e,he⟩ : ∃ e,e=A[i]:=⟨_,rfl⟩;obtain ⟨w,hw⟩ : ∃ w,w=f[i]:=⟨_,rfl⟩;rw [<- he,<- hw] at hsucc b2;rw [<- hw] at b1;rw [<- he] at b3 heo;obtain ⟨e1,e2,e3,e4,e5,_⟩:=heo;have hg1 : A[i]? = some e:=by rw [Qa hiA,he]
  have hg2 : f[i]? = some w:=by rw [Qa h8,hw]
  have h2N : e.f<(N : Int)/\e.t<(N : Int):=by omega
  have h1:=hbe e.f;have h2:=hbe e.t;have hwx : IntKind.i64.wrap (netG A f i e.f - w)=netG A f i e.f - w:=w6;have hwy : IntKind.i64.wrap (netG A f i e.t+w)=netG A f i e.t+w:=w6;have hr1:=zde (N:=N) (g:=netG A f i) (x:=e.f) e1 (by omega)
  have hs1:=zhJ (N:=N) (g:=netG A f i) (x:=e.f) (v:=netG A f i e.f - w) e1 (by omega)
  obtain ⟨g1,hg1d⟩ : ∃ g1 : Int->Int,g1=λ y=>if y=e.f then netG A f i e.f - w else netG A f i y:=⟨_,rfl⟩
  rw [<- hg1d] at hs1;have hg1t : g1 e.t=netG A f i e.t:=by rw [hg1d]; exact if_neg λ h=>e5 h.symm
  have hr2:=zde (N:=N) (g:=g1) (x:=e.t) e3 (by omega)
  rw [hg1t] at hr2;have hs2:=zhJ (N:=N) (g:=g1) (x:=e.t) (v:=netG A f i e.t+w) e3 (by omega)
  have hend : (rowR N λ y=>if y=e.t then netG A f i e.t+w else g1 y)=rowR N (netG A f (i+1)):=zgA λ x=>by
   rw [hsucc,hg1d];simp only
   by_cases h3 : x=e.t
   .rw [h3,if_pos rfl,if_pos rfl,if_neg e5]
    omega
   .by_cases h4 : x=e.f
    .rw [if_neg h3,if_pos h4,if_neg λ h=>h3 h.symm,if_pos h4.symm,h4]
     omega
    .rw [if_neg h3,if_neg h4,if_neg λ h=>h3 h.symm,if_neg λ h=>h4 h.symm]
     omega
  rw [hend] at hs2;refine zae (zap (ι:=Unit) (λ _=>⟨87,[(1,ints f),(2,.pv (nC ⟨N,A⟩)),(5,.rs 136 0 N),(6,.I i)],[(136,some ⟨1,zaf (rowR N (netG A f (i+1))),0⟩)],1000⟩) (λ _=>True) ?_ λ _ _=>?_)
  .refine zad (zab (zas ⟨87,[(1,ints f),(2,.pv (nC ⟨N,A⟩)),(5,.rs 136 0 N),(6,.I i),(45,.B false)],[(136,some ⟨1,zaf (rowR N (netG A f i)),0⟩)],500⟩ rfl ?_ ?_))
   .have hc1 : ¬ w<0:=by omega
    have hc2 : ¬ e.v<w:=by omega
    simp [hg1,hg2,hiA,h8,<- he,<- hw,hc1,hc2];exact ⟨rfl,Le.go [(136,136)] [] rfl rfl (by simp [hc2]) (by simp [fcd])⟩
   refine zac _ rfl (λ h=>by cases h) λ _=>?_
   refine zae (zas ⟨87,[(1,ints f),(2,.pv (nC ⟨N,A⟩)),(5,.rs 136 0 N),(6,.I i)],[(136,some ⟨1,zaf (rowR N g1),0⟩)],700⟩ rfl ?_ ?_)
   .simp [hg1,hg2,hiA,h8,<- he,<- hw,hr1,e1,h2N,hwx,zat]
    exact ⟨rfl,Le.go [(136,136)] [] rfl rfl (by simp) (by simp [fcd,<- hs1])⟩
   refine zaP rfl ?_;simp [hg1,hg2,hiA,h8,<- he,<- hw,hr2,e3,h2N,hwy,zat];exact ⟨rfl,Le.go [(136,136)] [] rfl rfl (by simp) (by simp [fcd,<- hs2])⟩
  refine zam ?_;exact ⟨i+1,by omega,by omega,Le.go [(136,136)] [] rfl rfl (by simp [hw1]) (by simp [fcd])⟩
 simp at h8;obtain rfl : i=A.length:=by omega
 refine zai (hit (zab (zaa ⟨87,[(2,.pv (nC ⟨N,A⟩)),(5,.rs 136 0 N),(7,.I 2)],[(136,some ⟨1,zaf (rowR N (netG A f A.length)),0⟩)],200⟩ rfl ?_ ?_)))
 .simp
  exact LeI [(136,136)] []
 refine zad (zaj (ι:=Nat) (λ k=>⟨87,[(2,.pv (nC ⟨N,A⟩)),(5,.rs 136 0 N),(7,.I k)],[(136,some ⟨1,zaf (rowR N (netG A f A.length)),0⟩)],200⟩) (λ k=>2<=k/\k<=N) (λ k=>N - k) 2 (by omega) (LeI [(136,136)] []) ?_)
 rintro k ⟨hk1,hk2⟩
 refine zab (zaa ⟨87,[(2,.pv (nC ⟨N,A⟩)),(5,.rs 136 0 N),(7,.I k),(79,.B (decide (k<N)))],[(136,some ⟨1,zaf (rowR N (netG A f A.length)),0⟩)],300⟩ rfl ?_ ?_)
 .simp
  exact LeI [(136,136)] []
 refine zac _ rfl (λ h15=>?_) λ h15=>?_
 .simp at h15
  have hz : netG A f A.length k=0:=by
   rw [zoQ hfl];have:=hf.bal k hk1 h15;unfold exF;omega
  have hr:=zde (N:=N) (g:=netG A f A.length) (x:=(k : Int)) (by omega) (by omega)
  rw [hz] at hr;simp only [UC] at hr;have hw1 : IntKind.i64.wrap ((k : Int)+1)=(k : Int)+1:=w6;refine zae (zab (zad (zaa ⟨87,[(2,.pv (nC ⟨N,A⟩)),(5,.rs 136 0 N),(7,.I k),(86,.B false)],[(136,some ⟨1,zaf (rowR N (netG A f A.length)),0⟩)],400⟩ rfl ?_ ?_)))
  .simp [hr,h15]
   exact LeI [(136,136)] []
  refine zac _ rfl (λ h=>by cases h) λ _=>?_
  refine zae (zam ?_);exact ⟨k+1,by omega,by omega,Le.go [(136,136)] [] rfl rfl (by simp [hw1]) (by simp [fcd])⟩
 simp at h15;refine zai (hit (zaa ⟨87,[(4,.B true)],[],400⟩ rfl ?_ ?_))
 .simp
  exact LeH [] []
 exact zaI
theorem zg8 (hn : zaT ⟨N,A⟩) (hf : zaF N A f) : AcP 66 [eN ⟨N,A⟩,ints f] [] (.I (valF A f)) []:=by
 refine zlz.s.ac ?_;show awp _ 0 _ _ ⟨31,[(0,eN ⟨N,A⟩),(1,ints f)],[],16⟩;have hchk:=zhb hn hf;have hfl:=hf.fit.len;have hfit:=zb8.1 hf.fit;obtain ⟨hn0,hn1,hal,hav⟩:=hn;simp only at hn0 hn1 hal hav
 have hfb : ∀ j (h : j<f.length),0<=f[j]/\f[j]<=1048576:=λ j hj=>by
  have h1:=hfit.2 j (by omega)
  have e1 : f.getD j 0=f[j]:=by rw [Qd,Qa hj,Qz]
  have e2 : arcD A j=A[j]'(by omega):=by unfold arcD; rw [Qd,Qa (by omega),Qz]
  rw [e1,e2] at h1;have h2:=(hav _ (Qj (show j<A.length by omega))).2.2.2.2.2.2.2.2
  omega
 have hbd:=zkb hfl hfb 0
 have hall : outF (A.take A.length) (f.take A.length) 0=valF A f:=by
  unfold valF;rw [Qb (Ql _),Qb (by omega)]
 refine rs [1,2] [] [16] ?_;refine zab (rx (s:=?s2) [1,2,10] [] [] rfl ?o2 ?q2)
 case o2=>simp; refine zau hchk (by simp) ?_; simp; rfl
 refine zac _ rfl (λ h=>by cases h) λ _=>?_
 refine zae (rs [1,2,5] [] [] ?_);refine zab (rs [1,2,5,6] [] [] ?_);refine zad (zaj (ι:=Nat) (λ i=>⟨31,[(1,ints f),(2,.pv (nC ⟨N,A⟩)),(5,.I (outF (A.take i) (f.take i) 0)),(6,.I i)],[],80⟩) (λ i=>i<=A.length) (λ i=>A.length - i) 0 (Qi _) (Le.go [] [] rfl rfl (by simp [outF,sumF]) (by simp)) ?_)
 intro i hi;have hbi:=hbd i hi;refine zab (rs [1,2,5,6,14] [] [] ?_);refine zac _ rfl (λ h8=>?_) λ h8=>?_
 .simp at h8
  have hiA : i<A.length:=by omega
  have hw1 : IntKind.i64.wrap ((i : Int)+1)=(i : Int)+1:=w6;have hsucc:=zmL hiA h8 0;have hb:=hfb i h8;refine zae (zap (ι:=Unit) (λ _=>⟨31,[(1,ints f),(2,.pv (nC ⟨N,A⟩)),(5,.I (outF (A.take (i+1)) (f.take (i+1)) 0)),(6,.I i)],[],400⟩) (λ _=>True) ?_ λ _ _=>?_)
  .refine zad (zaa ⟨31,[(1,ints f),(2,.pv (nC ⟨N,A⟩)),(5,.I (outF (A.take i) (f.take i) 0)),(6,.I i),(23,.B (decide (A[i].f=0)))],[],200⟩ rfl ?_ ?_)
   .simp [hiA]
    exact Le.go [] [] rfl rfl (by simp <;> exact wkB (by rw [QE]; simp)) (by simp)
   refine zac _ rfl (λ h10=>?_) λ h10=>?_
   .rw [Qe] at h10
    rw [if_pos h10] at hsucc;have hw2 : IntKind.i64.wrap (outF (A.take i) (f.take i) 0+f[i])=outF (A.take i) (f.take i) 0+f[i]:=w6;refine zal (s:=?s9) rfl ?o9 ?q9
    case o9=>simp [h8]; rfl
    exact ⟨(),trivial,Le.go [] [] rfl rfl (by simp [hsucc,hw2]) (by simp)⟩
   .rw [Qc] at h10
    rw [if_neg h10,Int.add_zero] at hsucc;exact zae ⟨(),trivial,Le.go [] [] rfl rfl (by simp [hsucc]) (by simp)⟩
  refine zam ?_;exact ⟨i+1,by omega,by omega,Le.go [] [] rfl rfl (by simp [hw1]) (by simp)⟩
 simp at h8;obtain rfl : i=A.length:=by omega
 rw [hall];refine zai (hit (rs [4] [] [] ?_));exact zaI
structure zj7 (g : Gr) (p : Pol) (ks f : List Int) : Prop where
 ok : zaF (netN g) (netA g p ks) f
 most : ∀ f',zaF (netN g) (netA g p ks) f'->valF (netA g p ks) f'<=valF (netA g p ks) f
 val : valF (netA g p ks) f=maxF (netN g) (netA g p ks)
theorem ziP {ks : List Int} {n : Int} (h : Rise ks 0 (n - 1)) : ∀ x∈ks,0<=x/\x<n:=λ x hx=>by
 have:=h.nodup.2 x hx;omega
open Classical in
theorem zpd (g : Gr) (p : Pol) (ks : List Int) (hg : GrOk g) (hp : zaN g.size p) (hr : Rise ks 0 (g.size - 1)) (hs : p.seeds.length<=64) (hsl : ks.length<=64) :
  ∃ f,zj7 g p ks f/\AcP 62 [eG g,eP p,ints ks] [] (.tup [eN ⟨netN g,netA g p ks⟩,.rs 0 0 (netA g p ks).length,.B (decide (zar g p ks))]) [some ⟨1,zaf f,0⟩]:=by
 have hnet:=zg6 g p ks hg hp hr hs hsl;rw [<- zhN hg] at hnet;have hnv:=zhC hg hp (ziP hr) hs hsl;obtain ⟨f,⟨hf1,hf2⟩,hmax⟩:=zxv _ _ hnv;have hval:=zg8 hnv hf1;have hmf:=zd1 hf1 hf2;refine ⟨f,⟨hf1,hf2,hmf.symm⟩,?_⟩;have hcs : zar g p ks↔valF (netA g p ks) f=ks.length:=by unfold zar; rw [hmf]
 have hfl:=hf1.fit.len;obtain ⟨A,hA⟩ : ∃ A,A=netA g p ks:=⟨_,rfl⟩;obtain ⟨N,hN⟩ : ∃ N,N=netN g:=⟨_,rfl⟩;rw [show zaQ g p (zaH g p) ks=A from hA.symm,<- hN] at hnet
 rw [<- hA,<- hN] at hmax hval;rw [<- hA] at hcs hfl ⊢;rw [<- hN];refine zkH.s.ac ?_;show awp _ 0 _ _ ⟨33,[(0,eG g),(1,eP p),(2,ints ks)],[],16⟩;have htake : ∀ g : Int->List AV,List.take A.length (List.map g f)=List.map g f:=λ g=>Qb (by simp; omega)
 refine rs [2,3,4,6] [32] [16,24] ?_;refine rx (s:=?s2) [2,6,9] [32] [112] rfl ?o2 ?q2
 case o2=>simp; refine zau hnet (by simp) ?_; simp; rfl
 refine zaa ⟨33,[(2,ints ks),(6,.pt 32 0 0),(9,.pv (nC ⟨N,A⟩)),(11,.rs 33 0 A.length)],[(32,some ⟨2,[[.I 0,.sc (.slice none 0 0)]],0⟩),(33,some ⟨1,zaf f,0⟩)],300⟩ rfl ?_ ?_
 .simp
  refine cn1 hmax ?_;simp;exact LeI [(32,32),(144,33)] []
 refine zas ⟨33,[(6,.pt 32 0 0),(7,.rs 33 0 A.length),(8,.B (decide (zar g p ks)))],[(32,some ⟨2,[nC ⟨N,A⟩],0⟩),(33,some ⟨1,zaf f,0⟩)],600⟩ rfl ?_ ?_
 .simp
  refine zfE [33] hval (by simp [fcd,htake,hfl]) (.sc _) ?_
  simp [zat];exact ⟨rfl,Le.go [(32,32),(33,33)] [] rfl rfl (by simp <;> exact wkB (by rw [QE]; simp [hcs])) (by simp [fcd])⟩
 exact zah ⟨.inr rfl,zao.out [33] [] rfl (by simp) (by simp) (by simp) (by simp [fcd])⟩
theorem zhZ (side : List Int) : ∀ A : List Ed,cutV A side=capS (λ x=>decide (x∈side)) A
 | []=>rfl
 | e::A=>by
   have h1 : cutV (e::A) side=(if e.f∈side/\e.t∉side then e.v else 0)+cutV A side:=by simp [cutV]
   have h2 : capS (λ x=>decide (x∈side)) (e::A)=(if decide (e.f∈side)=true/\decide (e.t∈side)=false then e.v else 0)+capS (λ x=>decide (x∈side)) A:=rfl
   rw [h1,h2,zhZ side A];simp
theorem zvD (L : List Int) (a : Nat) {l : List Int} (h : 0<l.length) : ofD L a l∈l:=by
 have:=zc9 (L:=L) (a:=a) (n:=l.length) (by omega)
 obtain ⟨q,hq⟩ : ∃ q : Nat,(zax L a l.length).1=q:=⟨(zax L a l.length).1.toNat,by omega⟩
 have hql : q<l.length:=by omega
 unfold ofD;rw [hq];simp [hql]
theorem zoZ (L : List Int) (a : Nat) (n : Int) (hl : L.length<=400) (ha : a<=L.length) (h0 : 0<n) (hn : n<=1000000) : ∃ (x : Nat) (b : Nat),(b<=L.length/\(x : Int)<n)/\AcP 13 [.pt 0 0 0,.I n] [dice L a] (.I x) [some (dice L b)]:=by
 have:=zc9 (L:=L) (a:=a) h0;obtain ⟨q,hq⟩ : ∃ q : Nat,(zax L a n).1=q:=⟨(zax L a n).1.toNat,by omega⟩
 exact ⟨q,_,⟨zbi ha,by omega⟩,by rw [<- hq]; exact zlf L a n (by omega) ha (by omega)⟩
theorem Of_a (L : List Int) (a : Nat) (l : List Int) (hl : L.length<=400) (ha : a<=L.length) (h0 : 0<l.length) (hl2 : l.length<=100) : ∃ (x : Int) (b : Nat),(b<=L.length/\x∈l)/\AcP 16 [.pt 0 0 0,ints l] [dice L a] (.I x) [some (dice L b)] :=
 ⟨_,_,⟨zbi ha,zvD L a h0⟩,zyL L a l (by omega) ha h0 (by omega)⟩
theorem zyD (L : List Int) (a : Nat) (n : Int) (hl : L.length<=400) (ha : a<=L.length) (hn0 : 0<=n) (hn : n<=1000000) : ∃ (x : Bool) (b : Nat),b<=L.length/\AcP 33 [.pt 0 0 0,.I n] [dice L a] (.B x) [some (dice L b)] :=
 ⟨_,_,zbi ha,zuV L a n (by omega) ha hn0 (by omega)⟩
section
variable {P : Program} {np id : Nat} {h : Nat->Option Ent} {K : AV->List Nat->List (Nat × Option Ent)->Prop} {f : FuncId} {first capt args args' : List AV} {res : AV}
theorem zpj {j : Nat} {e ej : Ent} (hnp : np<=j) (hj : h j=some ej) (hc : zaU P f args' [] res [some e]) (he : (first++args++capt).map (conv [] [j] h 4)=args')
  (hk : K (conv (swp [] id) [] (λ _=>none) 4 res) [j] [(id,some (zaw (swp [] id) [] (λ _=>none) 4 e)),(j,some { ej with ro:=ej.rows.length })]) : aK P np id .call (.fn (.func f) first capt::args) h K :=
 ⟨[],[j],true,args',[],res,[some e],by simp,by simp,by simpa using hnp,by rw [List.zipIdx_nil,he]; exact zbu _,rfl,hc,by simp,.inl rfl,by simpa [swp,hj] using hk⟩
end
def TabL (t : List Int) : Prop:=∀ i (h : i<t.length),1<=t[i]/\t[i]<=1000/\(0<i->t[i]<=t[i - 1])
theorem zru {t : List Int} {v : Int} (h : TabL t) (h1 : 1<=v) (h2 : v<=1000) (h3 : ∀ x∈t,v<=x) : TabL (t++[v]):=by
 intro i hi;rw [Qh,QZ] at hi
 by_cases hit : i<t.length
 .rw [Uu hit]
  obtain ⟨a,b,c⟩:=h i hit;refine ⟨a,b,λ hp=>?_⟩;rw [Uu (by omega)]
  exact c hp
 .obtain rfl : i=t.length:=by omega
  simp only [List.getElem_concat_length];refine ⟨h1,h2,λ hp=>?_⟩;rw [Uu (by omega)]
  exact h3 _ (Qj _)
theorem zuh (L : List Int) (a : Nat) (g : Gr) (hl : L.length<=400) (ha : a<=L.length) (h0 : 0<g.size) (hn : g.size<=1000) :
  ∃ x : Pol × Nat,(zaN g.size x.1/\x.1.seeds.length<=2/\x.1.table.length<=4/\x.2<=L.length)/\AcP 12 [.pt 0 0 0,eG g] [dice L a] (eP x.1) [some (dice L x.2)]:=by
 refine zgR.s.acallsX (args:=[.pt 0 0 0,eG g]) (hs:=[dice L a]) (λ x=>eP x.1) (λ x=>[some (dice L x.2)]) (λ x : Pol × Nat=>zaN g.size x.1/\x.1.seeds.length<=2/\x.1.table.length<=4/\x.2<=L.length) (nbz rfl) (nbz rfl) (λ _=>by simp) ?_
 show awp _ 1 _ _ ⟨50,[(0,.pt 0 0 0),(1,eG g)],[(0,some (dice L a))],16⟩;obtain ⟨k1,b1,⟨hb1,hk1⟩,hc1⟩:=zoZ L a g.size hl ha h0 (by omega)
 obtain ⟨lv,b2,⟨hb2,hlv⟩,hc2⟩:=Of_a L b1 [1,1,2,3] hl hb1 (by simp) (by simp)
 have hlv' : 1<=lv/\lv<=3:=by simp at hlv; omega
 obtain ⟨o,b3,hb3,hc3⟩:=zyD L b2 3 hl hb2 (by omega) (by omega)
 refine zaa ⟨50,[(0,.pt 0 0 0),(3,.pv (gC g)),(4,.pt 24 0 0)],[(0,some (dice L a)),(24,some ⟨3,[[.nilS,.nilS,.I 0]],0⟩)],32⟩ rfl ?_ ?_
 .simp
  exact LeH [(0,0),(24,24)] [16]
 refine zaa ⟨50,[(0,.pt 0 0 0),(3,.pv (gC g)),(4,.pt 24 0 0),(5,.pt 104 0 0)],[(0,some (dice L b2)),(24,some ⟨3,[[.nilS,.nilS,.I 0]],0⟩),(104,some ⟨3,[[.rs 17 0 1,.nilS,.I lv]],0⟩),(17,some ⟨1,zaf [(k1 : Int)],0⟩)],120⟩ rfl ?_ ?_
 .simp
  refine zaS (i:=0) rfl (e':=dice L a) (by simp) hc1 (by simp) (by simp) ?_
  simp;refine zki (i:=0) (j:=80) (by decide) (by decide) rfl rfl (e':=dice L b1) (by simp) hc2 (by simp) (by simp) ?_
  simp;exact LeH [(0,0),(24,24),(104,104),(64,17)] []
 refine zap (ι:=List Int × Nat) (λ s=>⟨50,[(0,.pt 0 0 0),(4,.pt 24 0 0),(5,.pt 104 0 0)],[(0,some (dice L s.2)),(24,some ⟨3,[[.nilS,.nilS,.I 0]],0⟩),(104,some ⟨3,[[.rs 17 0 s.1.length,.nilS,.I lv]],0⟩),(17,some ⟨1,zaf s.1,0⟩)],300⟩)
  (λ s=>s.2<=L.length/\s.1≠[]/\s.1.length<=2/\s.1.Pairwise (· < ·) /\ ∀ k∈s.1,0<=k/\k<g.size) ?_ λ s hs=>?_
 .refine zaa ⟨50,[(0,.pt 0 0 0),(3,.pv (gC g)),(4,.pt 24 0 0),(5,.pt 104 0 0),(18,.B o)],[(0,some (dice L b3)),(24,some ⟨3,[[.nilS,.nilS,.I 0]],0⟩),(104,some ⟨3,[[.rs 17 0 1,.nilS,.I lv]],0⟩),(17,some ⟨1,zaf [(k1 : Int)],0⟩)],136⟩ rfl ?_ ?_
  .simp
   refine zaS (i:=0) rfl (e':=dice L b2) (by simp) hc3 (by simp) (by simp) ?_
   simp;exact LeK
  cases o with
  | true =>
    refine zac _ rfl (λ _=>?_) λ h=>by cases h
    obtain ⟨k2,b4,⟨hb4,hk2⟩,hc4⟩:=zoZ L b3 g.size hl hb3 h0 (by omega)
    have hput:=zuY [(k1 : Int)] k2 (by simp)
    obtain ⟨S,hS⟩ : ∃ S,S=putL [(k1 : Int)] k2:=⟨_,rfl⟩;rw [<- hS] at hput;refine zaP rfl ?_;simp;refine zaS (i:=0) rfl (e':=dice L b3) (by simp) hc4 (by simp) (by simp) ?_
    simp;refine zpj (j:=17) (by decide) rfl hput (by simp) ?_
    simp [fcd];refine ⟨rfl,S,b4,⟨hb4,?_,?_,?_,λ k hk=>?_⟩,LeI [(0,0),(24,24),(104,104),(184,17)] []⟩
    .intro h
     have : (k1 : Int)∈S:=by rw [hS]; exact zhL.2 (.inl (by simp))
     rw [h] at this
     cases this
    .rw [hS]; exact zuM _ _
    .rw [hS]; exact zdo (by simp)
    .rw [hS] at hk
     rcases zhL.1 hk with h | h
     .simp at h; omega
     .omega
  | false =>
    refine zac _ rfl (λ h=>by cases h) λ _=>?_
    exact zae ⟨([(k1 : Int)],b3),⟨hb3,by simp,by simp,by simp,by simp; omega⟩,LeH [(0,0),(24,24),(104,104),(17,17)] []⟩
 obtain ⟨S,b4⟩:=s;obtain ⟨hb4,hS1,hS2,hS3,hS4⟩:=hs;simp only at hb4 hS1 hS2 hS3 hS4;obtain ⟨v0,b5,⟨hb5,hv0⟩,hc5⟩:=Of_a L b4 [3,2,1,6,0] hl hb4 (by simp) (by simp)
 have hv0' : 0<=v0/\v0<=6:=by simp at hv0; omega
 have hwv : IntKind.i64.wrap (1+v0)=1+v0:=w6;obtain ⟨n0,b6,⟨hb6,hn0⟩,hc6⟩:=zoZ L b5 4 hl hb5 (by omega) (by omega)
 have hwn : IntKind.i64.wrap (1+(n0 : Int))=((n0+1 : Nat) : Int):=by rw [w6]; omega
 refine zaa ⟨50,[(0,.pt 0 0 0),(4,.pt 24 0 0),(5,.pt 104 0 0),(6,.I (1+v0))],[(0,some (dice L b5)),(24,some ⟨3,[[.nilS,.nilS,.I 0]],0⟩),(104,some ⟨3,[[.rs 17 0 S.length,.nilS,.I lv]],0⟩),(17,some ⟨1,zaf S,0⟩)],400⟩ rfl ?_ ?_
 .simp
  refine zki (i:=0) (j:=308) (by decide) (by decide) rfl rfl (e':=dice L b4) (by simp) hc5 (by simp) (by simp) ?_
  simp [hwv];exact LeI [(0,0),(24,24),(104,104),(17,17)] []
 refine zab (zaa ⟨50,[(0,.pt 0 0 0),(4,.pt 24 0 0),(5,.pt 104 0 0),(6,.I (1+v0)),(7,.I (n0+1 : Nat))],[(0,some (dice L b6)),(24,some ⟨3,[[.nilS,.nilS,.I 0]],0⟩),(104,some ⟨3,[[.rs 17 0 S.length,.nilS,.I lv]],0⟩),(17,some ⟨1,zaf S,0⟩)],432⟩ rfl ?_ ?_)
 .simp
  refine zaS (i:=0) rfl (e':=dice L b5) (by simp) hc6 (by simp) (by simp) ?_
  simp [hwn];exact LeI [(0,0),(24,24),(104,104),(17,17)] []
 refine zad ?_
 refine zaj (ι:=(List Int × Int) × (Nat × Nat)) (λ s=>⟨50,[(0,.pt 0 0 0),(4,.pt 24 0 0),(5,.pt 104 0 0),(6,.I s.1.2),(7,.I s.2.1)],[(0,some (dice L s.2.2)),(24,some ⟨3,[[.nilS,.nilS,.I 0]],0⟩),(104,some ⟨3,[[.rs 17 0 S.length,.rs 18 0 s.1.1.length,.I lv]],0⟩),(17,some ⟨1,zaf S,0⟩),(18,some ⟨1,zaf s.1.1,0⟩)],432⟩)
  (λ s=>s.1.1.length+s.2.1=n0+1/\TabL s.1.1/\(1<=s.1.2/\s.1.2<=7)/\(∀ x∈s.1.1,s.1.2<=x)/\s.2.2<=L.length) (λ s=>s.2.1) (([],1+v0),(n0+1,b6)) ⟨by simp,λ i h=>by simp at h,⟨by simp only; omega,by simp only; omega⟩,by simp,hb6⟩
  (Le.lst [(0,0),(24,24),(104,104),(17,17)] [] [(18,1)] rfl (by simp) (by simp) (by simp) (by simp) (by simp) (by simp) (by simp) (by simp [Up]) (by simp [fcd]; exact ⟨zaA.rfl' (by simp),zaA.rfl' (by simp),zaA.row rfl (by omega) (by simp [UpL,Up]),zaA.rfl' (by simp)⟩)) ?_
 rintro ⟨⟨T,v⟩,n,b⟩ ⟨hTn,hT,hv,hTv,hb⟩
 simp only at hTn hT hv hTv hb;refine zab (rk (s:=?s7) [0,4,5,6,7,35] [0,24,104,17,18] rfl ?o7 ?q7)
 case o7=>simp; rfl
 refine zac _ rfl (λ h8=>?_) λ h8=>?_
 .simp at h8
  obtain ⟨m,rfl⟩ : ∃ m,n=m+1:=⟨n - 1,by omega⟩
  have hwm : IntKind.i64.wrap (((m+1 : Nat) : Int) - 1)=(m : Int):=by rw [w6]; omega
  have hwm2 : IntKind.i64.wrap (m : Int)=(m : Int):=w6;obtain ⟨d,b',⟨hb',hd⟩,hc7⟩:=zoZ L b 3 hl hb (by omega) (by omega)
  have hwd : IntKind.i64.wrap (v - (d : Int))=v - (d : Int):=w6;have htl : ∀ f : Int->List AV,List.take T.length (List.map f T)=List.map f T:=λ f=>Qb (by simp)
  refine zae (zab (zad (zaa ⟨50,[(0,.pt 0 0 0),(4,.pt 24 0 0),(5,.pt 104 0 0),(6,.I v),(7,.I (m+1 : Nat))],[(0,some (dice L b)),(24,some ⟨3,[[.nilS,.nilS,.I 0]],0⟩),(104,some ⟨3,[[.rs 17 0 S.length,.rs 18 0 (T++[v]).length,.I lv]],0⟩),(17,some ⟨1,zaf S,0⟩),(18,some ⟨1,zaf (T++[v]),0⟩)],512⟩ rfl ?_ ?_)))
  .simp [htl]
   refine ⟨by omega,by omega,?_⟩
   exact LeI [(0,0),(24,24),(104,104),(17,17),(480,18)] []
  refine zal (s:=?s9) rfl ?o9 ?q9
  case o9 =>
   simp;refine zaS (i:=0) rfl (e':=dice L b) (by simp) hc7 (by simp) (by simp) ?_
   simp [hwd];rfl
  refine zam ?_;refine ⟨((T++[v],if 1<v - d then v - d else 1),(m,b')),⟨by simp only [Qh,QZ]; omega,zru hT hv.1 (by omega) hTv,⟨by simp only; split <;> omega,by simp only; split <;> omega⟩,λ x hx=>?_,hb'⟩,by simp only; omega,Le.go [(0,0),(24,24),(104,104),(17,17),(18,18)] [] rfl rfl (by simp [hwm2]) (by simp [fcd])⟩
  have : v<=x:=by
   rcases Qo.1 hx with h | h
   .exact hTv x h
   .rw [QB] at h; omega
  simp only;split <;> omega
 simp at h8;obtain rfl : n=0:=by omega
 refine zai (hit (rk (s:=?s11) [4] [0,24,17,18] rfl ?o11 ?q11))
 case o11=>simp; rfl
 refine zah (zhs.mk (.inr rfl) (⟨S,T,lv⟩,b) ⟨⟨hS1,zey hS3 hS4,by simp only; omega,by simp only; omega,hlv'.1,hlv'.2,hT⟩,hS2,by simp only; omega,hb⟩ ?_)
 refine ⟨_,rfl,[],[17,18],by simp [List.range,List.range.loop],by simp,by simp,?_,?_⟩
 .simp [List.range,List.range.loop,fcd,zaq]
 .simp [List.range,List.range.loop]
def inD (D : List Int) (n : Nat) : List Int:=((List.range n).map λ k : Nat=>(k : Int)).filter λ k=>decide (k∈D)
theorem zkk (D : List Int) (n : Nat) : inD D (n+1)=inD D n++if (n : Int)∈D then [(n : Int)] else []:=by
 unfold inD;rw [UL,Q4,UJ];simp only [Qn,Uz,List.filter_cons,List.filter_nil];split <;> simp_all
theorem zlr {D : List Int} {n : Nat} {x : Int} : x∈inD D n↔(0<=x/\x<n)/\x∈D:=by
 unfold inD;rw [Qw,Qg];constructor
 .rintro ⟨⟨k,hk,rfl⟩,h⟩
  have:=QA.1 hk;exact ⟨by omega,by simpa using h⟩
 .rintro ⟨h,h2⟩
  exact ⟨⟨x.toNat,QA.2 (by omega),by omega⟩,by simpa using h2⟩
theorem zoL (D : List Int) (n : Nat) : (inD D n).Pairwise (· < ·):=by
 unfold inD;refine List.Pairwise.filter _ ?_;rw [U2];exact List.pairwise_lt_range.imp λ h=>by omega
theorem znO (D : List Int) (n : Nat) : (inD D n).length<=n:=by
 unfold inD;refine QH (QV ..) (by simp)
theorem zsV (N : Nat) (A : List Ed) (hn : zaT ⟨N,A⟩) :
  ∃ side : List Int,(zmC ⟨N,A⟩ side/\cutV A side=maxF N A/\side.length<=130/\side=zdq N A)/\AcP 63 [eN ⟨N,A⟩] [] (.tup [.rs 0 0 side.length,.I 0]) [some ⟨1,zaf side,0⟩]:=by
 have hno:=zbR hn;obtain ⟨f,⟨hf1,hf2⟩,hmax⟩:=zxv N A hn;have hfl:=hf1.fit.len;obtain ⟨⟨D,b⟩,⟨hb,hcl⟩,hcall⟩:=zj3 N A f hn hfl;simp only at hb hcl hcall
 have h1D : (1 : Int)∉D:=λ hm=>by
  obtain ⟨l,hl⟩:=hb.chain hm
  have h1:=hl.push hno hf1 (v:=1) (by omega) λ s hs=>by
   obtain ⟨i,hi,rfl⟩:=QF.1 hs;have:=(hl.at_ i hi).2.1;omega
  have h2:=hf2 _ h1.1;omega
 have hgr:=(zeM hno hf1 hb.mem0 h1D hcl).1;have hmf:=zd1 hf1 hf2;have hn':=hn;obtain ⟨hn0,hn1,hal,hav⟩:=hn;simp only at hn0 hn1 hal hav
 have hmD : ∀ x,x∈inD D N↔x∈D:=λ x=>by
  rw [zlr];exact ⟨λ h=>h.2,λ h=>⟨hb.rng x h,h⟩⟩
 have hside : zmC ⟨N,A⟩ (inD D N):=⟨hn',zey (zoL D N) λ k hk=>by have:=(zlr.1 hk).1; simp only; omega,(hmD 0).2 hb.mem0,λ h=>h1D ((hmD 1).1 h)⟩
 have hcut : cutV A (inD D N)=maxF N A:=by
  rw [zhZ,hmf,hgr]
  congr 1
  funext x
  exact decide_eq_decide.2 (hmD x)
 refine ⟨inD D N,⟨hside,hcut,QH (znO D N) (by omega),zkz hno hf1 hf2 hb.tree hb.mem0 h1D hcl⟩,?_⟩
 have hblen:=hb.len
 have hbk : ∀ k : Nat,1<=k->k<N->b[k]? = some (b.getD k 0)/\(b.getD k 0=0↔(k : Int)∉D):=λ k h1 h2=>by
  refine ⟨by rw [Qd,Qa (by omega),Qz],λ h hm=>?_,λ h=>?_⟩
  .have:=hb.inn k hm (by omega)
   simp only [UC] at this;exact this h
  .have:=hb.out k (by omega) h
   simpa using this
 have htake : ∀ g : Int->List AV,List.take A.length (List.map g f)=List.map g f:=λ g=>Qb (by simp; omega)
 refine zjb.s.ac ?_;show awp _ 0 _ _ ⟨37,[(0,eN ⟨N,A⟩)],[],16⟩;refine rs [1] [] [16] ?_;refine zaa ⟨37,[(1,.pv (nC ⟨N,A⟩)),(4,.rs 33 0 A.length),(5,.I 0)],[(33,some ⟨1,zaf f,0⟩)],100⟩ rfl ?_ ?_
 .simp
  refine cn1 hmax ?_;simp;exact LeI [(48,33)] []
 refine zab (zaa ⟨37,[(1,.pv (nC ⟨N,A⟩)),(4,.rs 33 0 A.length),(15,.B false)],[(33,some ⟨1,zaf f,0⟩)],200⟩ rfl ?_ ?_)
 .simp
  exact LeI [(33,33)] []
 refine zac _ rfl (λ h=>by cases h) λ _=>?_
 refine zae (zaa ⟨37,[(1,.pv (nC ⟨N,A⟩)),(6,.rs 34 0 N)],[(34,some ⟨1,zaf b,0⟩)],300⟩ rfl ?_ ?_)
 .simp
  refine zdO [33] hcall (by simp [fcd,htake,hfl]) (.rs _ _ _) zm9 ?_
  simp;exact LeI [(216,34)] []
 have hi1 : inD D 1=[0]:=by
  rw [zkk];have : ((0 : Nat) : Int)∈D:=hb.mem0;rw [if_pos this];rfl
 refine zaa ⟨37,[(1,.pv (nC ⟨N,A⟩)),(6,.rs 34 0 N),(7,.rs 35 0 (inD D 1).length)],[(34,some ⟨1,zaf b,0⟩),(35,some ⟨1,zaf (inD D 1),0⟩)],400⟩ rfl ?_ ?_
 .rw [hi1]
  simp;exact LeI [(34,34),(300,35)] []
 refine zab (zaa ⟨37,[(1,.pv (nC ⟨N,A⟩)),(6,.rs 34 0 N),(7,.rs 35 0 (inD D 1).length),(8,.I 1)],[(34,some ⟨1,zaf b,0⟩),(35,some ⟨1,zaf (inD D 1),0⟩)],500⟩ rfl ?_ ?_)
 .simp
  exact LeI [(34,34),(35,35)] []
 refine zad (zaj (ι:=Nat) (λ k=>⟨37,[(1,.pv (nC ⟨N,A⟩)),(6,.rs 34 0 N),(7,.rs 35 0 (inD D k).length),(8,.I k)],[(34,some ⟨1,zaf b,0⟩),(35,some ⟨1,zaf (inD D k),0⟩)],500⟩) (λ k=>1<=k/\k<=N) (λ k=>N - k) 1 (by omega) (LeI [(34,34),(35,35)] []) ?_)
 rintro k ⟨hk1,hk2⟩
 have hdl:=znO D k;refine zab (zaa ⟨37,[(1,.pv (nC ⟨N,A⟩)),(6,.rs 34 0 N),(7,.rs 35 0 (inD D k).length),(8,.I k),(24,.B (decide (k<N)))],[(34,some ⟨1,zaf b,0⟩),(35,some ⟨1,zaf (inD D k),0⟩)],600⟩ rfl ?_ ?_)
 .simp
  exact LeI [(34,34),(35,35)] []
 refine zac _ rfl (λ h10=>?_) λ h10=>?_
 .simp at h10
  obtain ⟨hbe,hbi⟩:=hbk k hk1 h10;obtain ⟨y,hy⟩ : ∃ y,y=b.getD k 0:=⟨_,rfl⟩;rw [<- hy] at hbe hbi;have hsu:=zkk D k;have hw1 : IntKind.i64.wrap ((k : Int)+1)=(k : Int)+1:=w6;refine zae (zap (ι:=Unit) (λ _=>⟨37,[(1,.pv (nC ⟨N,A⟩)),(6,.rs 34 0 N),(7,.rs 35 0 (inD D (k+1)).length),(8,.I k)],[(34,some ⟨1,zaf b,0⟩),(35,some ⟨1,zaf (inD D (k+1)),0⟩)],1000⟩) (λ _=>True) ?_ λ _ _=>?_)
  .refine zad (zaa ⟨37,[(1,.pv (nC ⟨N,A⟩)),(6,.rs 34 0 N),(7,.rs 35 0 (inD D k).length),(8,.I k),(31,.B (!decide (y=0)))],[(34,some ⟨1,zaf b,0⟩),(35,some ⟨1,zaf (inD D k),0⟩)],700⟩ rfl ?_ ?_)
   .simp [hbe,h10]
    exact Le.go [(34,34),(35,35)] [] rfl rfl (by simp <;> exact wkB (by rw [QE]; simp)) (by simp [fcd])
   refine zac _ rfl (λ h12=>?_) λ h12=>?_
   .simp at h12
    rw [if_pos (Uh λ h=>h12 (hbi.2 h))] at hsu;rw [hsu];obtain ⟨E,hE⟩ : ∃ E,E=inD D k:=⟨_,rfl⟩;rw [<- hE] at hdl ⊢;have htk : ∀ g : Int->List AV,List.take E.length (List.map g E)=List.map g E:=λ g=>Qb (by simp)
    refine zan rfl ?_;simp [htk];exact ⟨by omega,by omega,LeI [(34,34),(724,35)] []⟩
   .simp at h12
    rw [if_neg (hbi.1 h12),QX] at hsu;rw [hsu];exact zae ⟨(),trivial,LeI [(34,34),(35,35)] []⟩
  refine zam ?_;exact ⟨k+1,by omega,by omega,Le.go [(34,34),(35,35)] [] rfl rfl (by simp [hw1]) (by simp [fcd])⟩
 simp at h10;obtain rfl : k=N:=by omega
 refine zai (hit (zaa ⟨37,[(2,.rs 35 0 (inD D k).length),(3,.I 0)],[(35,some ⟨1,zaf (inD D k),0⟩)],700⟩ rfl ?_ ?_))
 .simp
  exact LeI [(35,35)] []
 exact zah ⟨.inr rfl,zao.out [35] [] rfl (by simp) (by simp) (by simp) (by simp [fcd])⟩
theorem zao.k2n {rs : List (Nat × Option (Bool × Nat))} {st : St} {vs : List AV} {res : AV} {e0 e1 e : Ent} (i : Nat) (hi : 2<=i) (h1 : zd3 st rs=some vs) (hw : Wk (conv [(0,0),(1,1),(i,2)] [] st.hp 4 (resV vs)) res)
  (h0 : (st.hp 0).map (zaw [(0,0),(1,1),(i,2)] [] st.hp 4)=some e0) (h2 : (st.hp 1).map (zaw [(0,0),(1,1),(i,2)] [] st.hp 4)=some e1) (he : (st.hp i).map (zaw [(0,0),(1,1),(i,2)] [] st.hp 4)=some e) : zao rs 2 st res [some e0,some e1,some e]:=by
 have e2 : List.range 2++[i]=[0,1,i]:=rfl;refine ⟨vs,h1,[i],[],?_,by simpa using hi,by simp,?_,?_⟩
 .rw [e2]
  simp;omega
 .rw [e2]
  exact hw
 .rw [e2]
  show [_,_,_]=_;have h0' : Option.map (zaw (([0,1,i] : List Nat).zipIdx) [] st.hp 4) (st.hp 0)=some e0:=h0;have h2' : Option.map (zaw (([0,1,i] : List Nat).zipIdx) [] st.hp 4) (st.hp 1)=some e1:=h2;have he' : Option.map (zaw (([0,1,i] : List Nat).zipIdx) [] st.hp 4) (st.hp i)=some e:=he;simp only [Qn,Uz,h0',h2',he']
theorem zao.k2 {rs : List (Nat × Option (Bool × Nat))} {st : St} {vs : List AV} {res : AV} {e0 e1 : Ent} (h1 : zd3 st rs=some vs) (hw : Wk (conv [(0,0),(1,1)] [] st.hp 4 (resV vs)) res)
  (h0 : (st.hp 0).map (zaw [(0,0),(1,1)] [] st.hp 4)=some e0) (h2 : (st.hp 1).map (zaw [(0,0),(1,1)] [] st.hp 4)=some e1) : zao rs 2 st res [some e0,some e1] :=
 ⟨vs,h1,[],[],by decide,by simp,by simp,hw,by
  show [_,_]=_;have h0' : Option.map (zaw ((List.range 2++[] : List Nat).zipIdx) [] st.hp 4) (st.hp 0)=some e0:=h0;have h2' : Option.map (zaw ((List.range 2++[] : List Nat).zipIdx) [] st.hp 4) (st.hp 1)=some e1:=h2
  simp only [h0',h2']⟩
theorem zkI {N : Nat} {D b : List Int} {R : List (List AV)} (hR : MapF R (camF D b)) (k : Int) : AcP 125 [.I k,.pt 0 0 0] [⟨1,[[.mp 1]],0⟩,⟨0,R,0⟩] (.B (decide (k∈D))) [some ⟨1,[[.mp 1]],0⟩,some ⟨0,R,0⟩]:=by
 refine zhq.s.ac ?_;show awp _ 2 _ _ ⟨13,[(0,.I k),(1,.pt 0 0 0)],[(0,some ⟨1,[[.mp 1]],0⟩),(1,some ⟨0,R,0⟩)],16⟩;have hfind:=hR.is.find;have hsome:=ze7 D b k
 have hgd : ∃ u v,(camF D b k).getD (toAV (Value.agg #[Value.int IntKind.i64 0,Value.bool false])) = .agg [.sc u,.sc v]:=by
  cases hc : camF D b k with
  | none=>exact ⟨_,_,zo5⟩
  | some x =>
    obtain ⟨u,v,rfl⟩:=zer _ _ _ _ hc;exact ⟨u,v,rfl⟩
 obtain ⟨u,v,huv⟩:=hgd;refine rk (s:=?s1) [0,1] [0,1] rfl ?o1 ?q1
 case o1=>simp; rfl
 refine zaa ⟨13,[(5,.B (decide (k∈D)))],[(0,some ⟨1,[[.mp 1]],0⟩),(1,some ⟨0,R,0⟩)],200⟩ rfl ?_ ?_
 .simp [hfind,hsome,huv]
  exact Le.go [(0,0),(1,1)] [] rfl rfl (by simp) (by simp [hR.conv'])
 refine zaa ⟨13,[(3,.B (decide (k∈D)))],[(0,some ⟨1,[[.mp 1]],0⟩),(1,some ⟨0,R,0⟩)],300⟩ rfl ?_ ?_
 .simp
  exact Le.go [(0,0),(1,1)] [] rfl rfl (by simp) (by simp [hR.conv'])
 exact zah ⟨.inr rfl,zao.k2 rfl (by simp) (by simp) (by simp [hR.conv'])⟩
theorem zsE {D b : List Int} {R : List (List AV)} (hR : MapF R (camF D b)) (N : Nat) (hN : N<=1000000) :
  AcP 41 [.I N,.fn (.func 125) [] [.pt 0 0 0]] [⟨1,[[.mp 1]],0⟩,⟨0,R,0⟩] (.rs 2 0 (inD D N).length) [some ⟨1,[[.mp 1]],0⟩,some ⟨0,R,0⟩,some ⟨1,zaf (inD D N),0⟩]:=by
 refine zg4.s.acalls (nbz rfl) (nbz rfl) (by simp) ?_
 show awp _ 2 _ _ ⟨20,[(0,.I N),(1,.fn (.func 125) [] [.pt 0 0 0])],[(0,some ⟨1,[[.mp 1]],0⟩),(1,some ⟨0,R,0⟩)],16⟩;refine zaa ⟨20,[(0,.I N),(1,.fn (.func 125) [] [.pt 0 0 0])],[(0,some ⟨1,[[.mp 1]],0⟩),(1,some ⟨0,R,0⟩)],24⟩ rfl ?_ ?_
 .simp
  exact Le.go [(0,0),(1,1)] [] rfl rfl (by simp) (by simp [hR.conv'])
 refine zaa ⟨20,[(0,.I N),(1,.fn (.func 125) [] [.pt 0 0 0]),(5,.rs 50 0 0)],[(0,some ⟨1,[[.mp 1]],0⟩),(1,some ⟨0,R,0⟩),(50,some ⟨1,[],0⟩)],100⟩ rfl ?_ ?_
 .simp
  refine Le.lst [(0,0),(1,1)] [] [(50,1)] rfl (by simp) (by simp) (by simp) (by simp) (by simp) (by simp) (by simp) (by simp [Up,conv]) ?_
  simp [hR.conv']
  exact ⟨zaA.rfl' (Qi _),zaA.rfl' (Qi _)⟩
 refine zab (zaa ⟨20,[(1,.fn (.func 125) [] [.pt 0 0 0]),(5,.rs 50 0 0),(7,.I N),(8,.I 0)],[(0,some ⟨1,[[.mp 1]],0⟩),(1,some ⟨0,R,0⟩),(50,some ⟨1,[],0⟩)],200⟩ rfl ?_ ?_)
 .simp
  exact Le.go [(0,0),(1,1),(50,50)] [] rfl rfl (by simp [conv]) (by simp [hR.conv'])
 refine zad (zaj (ι:=Nat) (λ k=>⟨20,[(1,.fn (.func 125) [] [.pt 0 0 0]),(5,.rs 50 0 (inD D k).length),(7,.I N),(8,.I k)],[(0,some ⟨1,[[.mp 1]],0⟩),(1,some ⟨0,R,0⟩),(50,some ⟨1,zaf (inD D k),0⟩)],200⟩) (λ k=>k<=N) (λ k=>N - k) 0 (Qi _) (Le.go [(0,0),(1,1),(50,50)] [] rfl rfl (by simp [conv,inD]) (by simp [hR.conv',inD])) ?_)
 intro k hk;have hwl:=znO D k;refine zaa ⟨20,[(1,.fn (.func 125) [] [.pt 0 0 0]),(5,.rs 50 0 (inD D k).length),(7,.I N),(8,.I k),(9,.B (decide (k<N)))],[(0,some ⟨1,[[.mp 1]],0⟩),(1,some ⟨0,R,0⟩),(50,some ⟨1,zaf (inD D k),0⟩)],300⟩ rfl ?_ ?_
 .simp
  exact Le.go [(0,0),(1,1),(50,50)] [] rfl rfl (by simp [conv]) (by simp [hR.conv',fcd])
 refine zab (zac _ rfl (λ h=>?_) λ h=>?_)
 .simp at h
  have hw2 : IntKind.i64.wrap ((k : Int)+1)=(k : Int)+1:=w6;have hnext:=zkk D k;refine zae (zap (ι:=Unit) (λ _=>⟨20,[(1,.fn (.func 125) [] [.pt 0 0 0]),(5,.rs 50 0 (inD D (k+1)).length),(7,.I N),(8,.I k)],[(0,some ⟨1,[[.mp 1]],0⟩),(1,some ⟨0,R,0⟩),(50,some ⟨1,zaf (inD D (k+1)),0⟩)],1000⟩) (λ _=>True) ?_ λ _ _=>?_)
  .rw [hnext]
   obtain ⟨W,hW⟩ : ∃ W,W=inD D k:=⟨_,rfl⟩;rw [<- hW] at hwl ⊢;refine zad (zaa ⟨20,[(1,.fn (.func 125) [] [.pt 0 0 0]),(5,.rs 50 0 W.length),(6,.I k),(7,.I N),(8,.I k)],[(0,some ⟨1,[[.mp 1]],0⟩),(1,some ⟨0,R,0⟩),(50,some ⟨1,zaf W,0⟩)],400⟩ rfl ?_ ?_)
   .simp
    exact Le.go [(0,0),(1,1),(50,50)] [] rfl rfl (by simp [conv]) (by simp [hR.conv',fcd])
   refine zaa ⟨20,[(1,.fn (.func 125) [] [.pt 0 0 0]),(5,.rs 50 0 W.length),(6,.I k),(7,.I N),(8,.I k),(13,.B (decide ((k : Int)∈D)))],[(0,some ⟨1,[[.mp 1]],0⟩),(1,some ⟨0,R,0⟩),(50,some ⟨1,zaf W,0⟩)],500⟩ rfl ?_ ?_
   .simp
    refine zfs (i:=0) (j:=1) (by decide) rfl rfl (by simp) (by simp [hR.conv']) (zkI (N:=N) hR k) (by simp) (by simp) ?_
    simp [hR.conv']
    exact Le.go [(0,0),(1,1),(50,50)] [] rfl rfl (by simp [conv]) (by simp [hR.conv',fcd])
   refine zac _ rfl (λ h5=>?_) λ h5=>?_
   .rw [Qe] at h5
    rw [if_pos h5];have hmw : ∀ g : Int->List AV,List.take W.length (List.map g W)=List.map g W:=λ g=>Qb (by simp)
    refine zan rfl ?_;simp [hmw];exact ⟨by omega,by omega,Le.go [(0,0),(1,1),(524,50)] [] rfl rfl (by simp [conv]) (by simp [hR.conv',fcd])⟩
   .rw [Qc] at h5
    rw [if_neg h5,QX];exact zae ⟨(),trivial,Le.go [(0,0),(1,1),(50,50)] [] rfl rfl (by simp [conv]) (by simp [hR.conv',fcd])⟩
  refine zan rfl ?_;simp [hw2];exact ⟨k+1,by omega,by omega,Le.go [(0,0),(1,1),(50,50)] [] rfl rfl (by simp [conv,hw2]) (by simp [hR.conv',fcd])⟩
 simp at h;obtain rfl : k=N:=by omega
 refine zai (hit (zaa ⟨20,[(4,.rs 50 0 (inD D k).length)],[(0,some ⟨1,[[.mp 1]],0⟩),(1,some ⟨0,R,0⟩),(50,some ⟨1,zaf (inD D k),0⟩)],400⟩ rfl ?_ ?_))
 .simp
  exact Le.go [(0,0),(1,1),(50,50)] [] rfl rfl (by simp) (by simp [hR.conv',fcd])
 exact zah ⟨.inr rfl,zao.k2n 50 (by omega) rfl (by simp) (by simp) (by simp [hR.conv']) (by simp [fcd])⟩
theorem WayA.last {A : List Ed} : ∀ {l : List Nat} {u w : Int},WayA A u l w->(u::metA A l)[l.length]? = some w
 | [],u,w,h=>by
   have : u=w:=h;simp [metA,this]
 | i::l,u,w,h=>by
   have:=WayA.last h.2.2
   simpa [metA] using this
structure BalF (N : Nat) (A : List Ed) (f : List Int) : Prop where
 len : f.length=A.length
 nonneg : ∀ i,0<=f.getD i 0
 bal : ∀ x : Int,2<=x->x<N->exF A f x=0
variable {N : Nat} {A : List Ed} {f g : List Int}
theorem zaF.balF (h : zaF N A f) : BalF N A f:=by
 have hf:=zb8.1 h.fit;refine ⟨hf.1,λ i=>?_,λ x h2 h3=>?_⟩
 .by_cases hi : i<A.length
  .exact (hf.2 i hi).1
  .rw [Qd,Q3 (by rw [hf.1]; omega)]
   exact UI _
 .have:=h.bal x.toNat (by omega) (by omega)
  rw [Int.toNat_of_nonneg (by omega)] at this
  unfold exF;omega
theorem zia.balF (hf : BalF N A f) {l : List Nat} (h : zia A f g l 1) : BalF N A g/\exF A g 0=exF A f 0 - 1:=by
 refine ⟨⟨h.len,h.nonneg,λ x h2 h3=>?_⟩,?_⟩
 .rw [h.ex x,hf.bal x h2 h3,if_neg (by omega),if_neg (by omega)]
  rfl
 .rw [h.ex 0,if_pos rfl,if_neg (by decide)]
  omega
structure zjE (N : Nat) (A : List Ed) (f g : List Int) (W : List (List Nat)) : Prop where
 bal : BalF N A g
 ex : exF A g 0=exF A f 0 - W.length
 ways : ∀ w∈W,WayA A 0 w 1/\(metA A w).Nodup
 used : ∀ i,g.getD i 0+(sumN (List.count i) W : Int)<=f.getD i 0
theorem zjE.nil (hf : BalF N A f) : zjE N A f f []:=⟨hf,by simp,by simp,λ i=>by simp [sumN]⟩
theorem zjE.more {g' : List Int} {W : List (List Nat)} {l : List Nat} (h : zjE N A f g W) (hl : zia A g g' l 1) : zjE N A f g' (W++[l]):=by
 obtain ⟨b1,b2⟩:=hl.balF h.bal;refine ⟨b1,by rw [b2,h.ex,Qh,QZ]; omega,λ w hw=>?_,λ i=>?_⟩
 .rcases Qo.1 hw with hw | hw
  .exact h.ways w hw
  .rw [QB] at hw
   subst hw;exact ⟨hl.way,(Q6.1 hl.met).2⟩
 .have h1:=h.used i
  have h2:=hl.used i;have h3 : sumN (List.count i) (W++[l])=sumN (List.count i) W+l.count i:=by unfold sumN; simp
  rw [h3];omega
theorem zhE (S : Int->Bool) : ∀ A : List Ed,capS S A=(A.map λ e=>if S e.f=true/\S e.t=false then e.v else 0).sum
 | []=>rfl
 | e::A=>by
   have ih:=zhE S A;unfold capS at ih ⊢;simp only [Qn,sumF,Uv];rw [ih]
theorem zhD {α : Type} {h : α->Int} : ∀ {l : List α},(∀ x∈l,h x=0)->(l.map h).sum=0
 | [],_=>rfl
 | x::l,hx=>by
   rw [Qn,Uv,hx x (Qm ..),zhD λ y hy=>hx y (Qk _ hy)];rfl
theorem zsF {α : Type} {h : α->Int} : ∀ {l : List α},(∀ x∈l,h x<=1)->(l.map h).sum<=l.length
 | [],_=>UI _
 | x::l,hx=>by
   have ih:=zsF (l:=l) λ y hy=>hx y (Qk _ hy);have h1:=hx x (Qm ..);rw [Qn,Uv,QM];omega
theorem zf9 {g : Gr} {p : Pol} {ks : List Int} (hg : GrOk g) (hp : zaN g.size p) (hk : ∀ x∈ks,0<=x/\x<g.size) : maxF (netN g) (netA g p ks)<=ks.length:=by
 have hno:=ziW hg hp hk;obtain ⟨f,hf,hv⟩:=zlm hno;rw [<- hv];refine Int.le_trans (zcL (S:=λ x=>decide (x≠1)) hno hf (by simp) (by simp)) ?_
 rw [zhE];simp only [netA,zaQ,Q4,List.sum_append,List.map_map];have hle:=zgT hg p.lv;rw [zhD,zhD,zhD (l:=(zag g p.lv).edges.filter _)]
 .have h1:=zsF (h:=(λ e : Ed=>if (decide (e.f≠1))=true/\(decide (e.t≠1))=false then e.v else 0)∘λ x : Int=>(⟨2+2*x,1,1⟩ : Ed)) (l:=ks.filter λ x=>decide (0<(zaH g p).getD x.toNat 0)) λ x _=>by
   simp only [Function.comp];split <;> omega
  have h2:=QV (λ x=>decide (0<(zaH g p).getD x.toNat 0)) ks;omega
 .intro e he
  have:=hle.2 e (Qw.1 he).1;simp only [Function.comp];rw [if_neg];simp;omega
 .intro i _
  simp only [Function.comp];rw [if_neg];simp;omega
 .intro x _
  simp only [Function.comp];rw [if_neg];simp;omega
theorem zv0 {N : Nat} {A : List Ed} {f : List Int} (hn : zcV N A) : exF A f 0=valF A f:=by
 unfold exF valF;rw [ziO hn];omega
def surG (A : List Ed) (f : List Int) (i : Nat) (x : Int) : Int:=- netG A f i x
variable {N : Nat} {A : List Ed} {f : List Int}
theorem zue (hl : f.length=A.length) (x : Int) : surG A f A.length x=exF A f x:=by
 unfold surG;rw [zoQ hl];omega
theorem zjF (hn : zaT ⟨N,A⟩) (hfl : f.length=A.length) (hfb : ∀ j (h : j<f.length),0<=f[j]/\f[j]<=1048576) : AcP 141 [eN ⟨N,A⟩,ints f] [] (.rs 0 0 N) [some ⟨1,zaf (rowR N (exF A f)),0⟩]:=by
 refine zls.s.ac ?_;show awp _ 0 _ _ ⟨43,[(0,eN ⟨N,A⟩),(1,ints f)],[],16⟩;obtain ⟨hn0,hn1,hal,hav⟩:=hn;simp only at hn0 hn1 hal hav;have hbd:=zgx hfl hfb;refine rs [1,2] [] [16] ?_;refine zaa ⟨43,[(1,ints f),(2,.pv (nC ⟨N,A⟩)),(5,.rs 48 0 N)],[(48,some ⟨1,zaf (rowR N (surG A f 0)),0⟩)],64⟩ rfl ?_ ?_
 .simp
  refine ⟨by omega,by omega,?_⟩
  have : rowR N (surG A f 0)=List.replicate N 0:=by
   unfold rowR surG;simp only [ziC];simp [Vi]
  rw [this];exact LeH [(48,48)] []
 refine zab (zaa ⟨43,[(1,ints f),(5,.rs 48 0 N),(12,eEs A),(13,.I A.length),(14,.I 0)],[(48,some ⟨1,zaf (rowR N (surG A f 0)),0⟩)],96⟩ rfl ?_ ?_)
 .simp
  exact LeI [(48,48)] []
 refine zad (zaj (ι:=Nat) (λ i=>⟨43,[(1,ints f),(5,.rs 48 0 N),(12,eEs A),(13,.I A.length),(14,.I i)],[(48,some ⟨1,zaf (rowR N (surG A f i)),0⟩)],96⟩) (λ i=>i<=A.length) (λ i=>A.length - i) 0 (Qi _) (LeI [(48,48)] []) ?_);intro i hi;refine zaa ⟨43,[(1,ints f),(5,.rs 48 0 N),(12,eEs A),(13,.I A.length),(14,.I i),(15,.B (decide (i<A.length)))],[(48,some ⟨1,zaf (rowR N (surG A f i)),0⟩)],104⟩ rfl ?_ ?_
 .simp
  exact LeI [(48,48)] []
 refine zab (zac _ rfl (λ h5=>?_) λ h5=>?_)
 .simp at h5
  have h8 : i<f.length:=by omega
  have hw1 : IntKind.i64.wrap ((i : Int)+1)=(i : Int)+1:=w6;obtain ⟨b1,b3⟩:=hfb i h8;have heo:=hav _ (Qj h5);have hsucc:=ziJ h5 h8;have hbe:=λ x=>hbd x i (by omega)
  obtain ⟨e,he⟩ : ∃ e,e=A[i]:=⟨_,rfl⟩;obtain ⟨w,hw⟩ : ∃ w,w=f[i]:=⟨_,rfl⟩;rw [<- he,<- hw] at hsucc;rw [<- hw] at b1 b3;rw [<- he] at heo;obtain ⟨e1,e2,e3,e4,e5,_⟩:=heo;have hg1 : A[i]? = some e:=by rw [Qa h5,he]
  have hg2 : f[i]? = some w:=by rw [Qa h8,hw]
  have h2N : e.f<(N : Int)/\e.t<(N : Int):=by omega
  have h1:=hbe e.f;have h2:=hbe e.t;have hwx : IntKind.i64.wrap (surG A f i e.f+w)=surG A f i e.f+w:=w64 (by unfold surG; omega) (by unfold surG; omega)
  have hwy : IntKind.i64.wrap (surG A f i e.t - w)=surG A f i e.t - w:=w64 (by unfold surG; omega) (by unfold surG; omega)
  have hr1:=zde (N:=N) (g:=surG A f i) (x:=e.f) e1 (by omega)
  have hs1:=zhJ (N:=N) (g:=surG A f i) (x:=e.f) (v:=surG A f i e.f+w) e1 (by omega)
  obtain ⟨g1,hg1d⟩ : ∃ g1 : Int->Int,g1=λ y=>if y=e.f then surG A f i e.f+w else surG A f i y:=⟨_,rfl⟩
  rw [<- hg1d] at hs1;have hg1t : g1 e.t=surG A f i e.t:=by rw [hg1d]; exact if_neg λ h=>e5 h.symm
  have hr2:=zde (N:=N) (g:=g1) (x:=e.t) e3 (by omega)
  rw [hg1t] at hr2;have hs2:=zhJ (N:=N) (g:=g1) (x:=e.t) (v:=surG A f i e.t - w) e3 (by omega)
  have hend : (rowR N λ y=>if y=e.t then surG A f i e.t - w else g1 y)=rowR N (surG A f (i+1)):=zgA λ x=>by
   unfold surG at hg1d ⊢;rw [hsucc,hg1d];simp only
   by_cases h3 : x=e.t
   .rw [h3,if_pos rfl,if_pos rfl,if_neg e5]
    omega
   .by_cases h4 : x=e.f
    .rw [if_neg h3,if_pos h4,if_neg λ h=>h3 h.symm,if_pos h4.symm,h4]
     omega
    .rw [if_neg h3,if_neg h4,if_neg λ h=>h3 h.symm,if_neg λ h=>h4 h.symm]
     omega
  rw [hend] at hs2;refine zae (zab (zad (zaa ⟨43,[(1,ints f),(5,.rs 48 0 N),(6,.I i),(7,.pv (eC e)),(12,eEs A),(13,.I A.length),(14,.I i)],[(48,some ⟨1,zaf (rowR N (surG A f i)),0⟩)],152⟩ rfl ?_ ?_)))
  .simp [h5,<- he]
   exact LeI [(48,48)] [128]
  refine zas ⟨43,[(1,ints f),(5,.rs 48 0 N),(6,.I i),(7,.pv (eC e)),(12,eEs A),(13,.I A.length),(14,.I i)],[(48,some ⟨1,zaf (rowR N g1),0⟩)],400⟩ rfl ?_ ?_
  .simp [hg2,h8,<- hw,hr1,e1,h2N,hwx,zat]
   exact ⟨rfl,Le.go [(48,48)] [] rfl rfl (by simp) (by simp [fcd,<- hs1])⟩
  refine zaP rfl ?_;simp [hg2,h8,<- hw,hr2,e3,h2N,hwy,zat];refine ⟨rfl,?_⟩;refine zan rfl ?_;simp;exact ⟨i+1,by omega,by omega,Le.go [(48,48)] [] rfl rfl (by simp [hw1]) (by simp [fcd,<- hs2])⟩
 simp at h5;obtain rfl : i=A.length:=by omega
 refine zai (hit ?_);have hfin : rowR N (surG A f A.length)=rowR N (exF A f):=zgA λ x=>zue hfl x;rw [hfin];refine zaa ⟨43,[(4,.rs 48 0 N)],[(48,some ⟨1,zaf (rowR N (exF A f)),0⟩)],200⟩ rfl ?_ ?_
 .simp
  exact LeI [(48,48)] []
 exact zah ⟨.inr rfl,zao.out [48] [] rfl (by simp) (by simp) (by simp) (by simp [fcd])⟩
def zst (A : List Ed) (f : List Int) (i : Nat) : Prop:=0<=f.getD i 0/\f.getD i 0<=(arcD A i).v
theorem zeE : zaF N A f↔f.length=A.length/\(∀ i,i<A.length->zst A f i) /\ ∀ x : Nat,2<=x->x<N->exF A f x=0:=by
 constructor
 .intro h
  have h1:=zb8.1 h.fit;exact ⟨h1.1,h1.2,λ x h2 h3=>by have:=h.bal x h2 h3; unfold exF; omega⟩
 .rintro ⟨h1,h2,h3⟩
  exact ⟨zb8.2 ⟨h1,h2⟩,λ x h4 h5=>by have:=h3 x h4 h5; unfold exF at this; omega⟩
theorem zvg (g : Int->Int) (N : Nat) : ((rowR N g).drop 2).any (λ x=>!decide (x=0))=true↔¬ ∀ x : Nat,2<=x->x<N->g x=0:=by
 rw [Uq];constructor
 .rintro ⟨y,hy,h⟩ hall
  obtain ⟨j,hj,rfl⟩:=QF.1 hy;rw [UM,zdN] at hj;have:=hall (2+j) (by omega) (by omega)
  simp [rowR] at h;exact h (by simpa using this)
 .intro h
  obtain ⟨x,hx⟩:=Classical.not_forall.1 h;obtain ⟨h1,hx⟩:=Classical.not_imp.1 hx;obtain ⟨h2,hx⟩:=Classical.not_imp.1 hx;refine ⟨g x,QF.2 ⟨x - 2,by rw [UM,zdN]; omega,?_⟩,by simpa using hx⟩
  simp [rowR,show 2+(x - 2)=x by omega]
theorem zg5 (x : Int) : AcP 178 [.I x] [] (.B (!decide (x=0))) []:=by
 refine zja.s.ac ?_;show awp _ 0 _ _ ⟨5,[(0,.I x)],[],16⟩;refine rs [0] [] [] ?_;refine zaa ⟨5,[(2,.B (!decide (x=0)))],[],100⟩ rfl ?_ ?_
 .simp
  exact Le.go [] [] rfl rfl (by simp <;> exact wkB (by rw [QE]; simp)) (by simp)
 exact zaI
open Classical in
theorem zla (hn : zaT ⟨N,A⟩) (hl : f.length<=1099511627776) : AcP 140 [eN ⟨N,A⟩,ints f] [] (.B (decide (zaF N A f))) []:=by
 refine zot.s.ac ?_;show awp _ 0 _ _ ⟨41,[(0,eN ⟨N,A⟩),(1,ints f)],[],16⟩;have hchk:=zgd ⟨N,A⟩ (by have:=hn.2.2.1; simp only at this ⊢; omega)
 rw [if_pos hn] at hchk;have hn':=hn;obtain ⟨hn0,hn1,hal,hav⟩:=hn;simp only at hn0 hn1 hal hav;refine rs [1,2] [] [16] ?_;refine zab (zaa ⟨41,[(1,ints f),(2,.pv (nC ⟨N,A⟩)),(17,.B (!decide (f.length=A.length)))],[],120⟩ rfl ?_ ?_)
 .simp
  refine cl0 hchk ?_;simp;exact Le.go [] [] rfl rfl (by simp <;> exact wkB (by rw [QE]; simp <;> omega)) (by simp)
 refine zac _ rfl (λ h3=>?_) λ h3=>?_
 .simp at h3
  refine rs [4] [] [] ?_;refine zah ?_;have hno : ¬ zaF N A f:=λ h=>h3 (zeE.1 h).1;exact ⟨.inr rfl,zao.one (by simp [hno])⟩
 simp at h3;refine zae (zab (rs [1,2,19,20,21] [] [] ?_));refine zad (zaj (ι:=Nat) (λ i=>⟨41,[(1,ints f),(2,.pv (nC ⟨N,A⟩)),(19,eEs A),(20,.I A.length),(21,.I i)],[],152⟩) (λ i=>i<=A.length /\ ∀ k,k<i->zst A f k) (λ i=>A.length - i) 0 (by simp) (LeH [] []) ?_)
 rintro i ⟨hi,hp⟩
 refine rs [1,2,19,20,21,22] [] [] ?_;refine zab (zac _ rfl (λ h7=>?_) λ h7=>?_)
 .simp at h7
  have hw1 : IntKind.i64.wrap ((i : Int)+1)=(i : Int)+1:=w6;have hif : i<f.length:=by omega
  obtain ⟨e,he⟩ : ∃ e,e=A[i]:=⟨_,rfl⟩;obtain ⟨w,hw⟩ : ∃ w,w=f[i]:=⟨_,rfl⟩
  have hfa : zst A f i↔0<=w/\w<=e.v:=by
   unfold zst arcD;rw [Qd,Qa hif,Qz,Qd,Qa h7,Qz,he,hw]
  refine zae (zab (zad (zaa ⟨41,[(1,ints f),(2,.pv (nC ⟨N,A⟩)),(5,.I i),(6,.pv (eC e)),(19,eEs A),(20,.I A.length),(21,.I i)],[],300⟩ rfl ?_ ?_)))
  .simp [h7,<- he]
   exact LeH [] [184]
  refine zas ⟨41,[(1,ints f),(2,.pv (nC ⟨N,A⟩)),(19,eEs A),(20,.I A.length),(21,.I i),(33,.B (!decide (0<=w/\w<=e.v)))],[],400⟩ rfl ?_ ?_
  .simp [hif,<- hw]
   refine cl0 (zaJ w 0 e.v) ?_;simp;exact ⟨rfl,Le.go [] [] rfl rfl (by simp <;> exact wkB (by rw [QE]; simp)) (by simp)⟩
  refine zac _ rfl (λ h10=>?_) λ h10=>?_
  .have h10' : ¬ (0<=w/\w<=e.v):=by simp at h10; omega
   refine rs [4] [] [] ?_;refine zah ?_;have hno : ¬ zaF N A f:=λ h=>h10' (hfa.1 ((zeE.1 h).2.1 i h7));exact ⟨.inr rfl,zao.one (by simp [hno])⟩
  have h10' : 0<=w/\w<=e.v:=by simpa using h10
  refine zae (zan rfl ?_);simp;refine ⟨i+1,⟨by omega,λ k hk=>?_⟩,by omega,Le.go [] [] rfl rfl (by simp [hw1]) (by simp)⟩
  rcases QS.1 hk with h | h
  .exact hp k h
  .rw [h]; exact hfa.2 h10'
 simp at h7;obtain rfl : i=A.length:=by omega
 have hfb : ∀ j (h : j<f.length),0<=f[j]/\f[j]<=1048576:=λ j hj=>by
  have h1:=hp j (by omega)
  unfold zst at h1;have e1 : f.getD j 0=f[j]:=by rw [Qd,Qa hj,Qz]
  have e2 : arcD A j=A[j]'(by omega):=by unfold arcD; rw [Qd,Qa (by omega),Qz]
  rw [e1,e2] at h1;have h2:=(hav _ (Qj (show j<A.length by omega))).2.2.2.2.2.2.2.2
  omega
 refine zai (hit ?_);have hsur:=zjF hn' h3 hfb;have hcf:=zd5 178 [] (λ x=>!decide (x=0)) ((rowR N (exF A f)).drop 2) (by rw [UM,zdN]; omega) (λ ρ sn h k=>by simp) (λ e _=>zg5 e)
 have hiff : zaF N A f↔((rowR N (exF A f)).drop 2).any (λ x=>!decide (x=0))=false:=by
  rw [<- Bool.not_eq_true,zvg,Classical.not_not,zeE];exact ⟨λ h=>h.2.2,λ h=>⟨h3,hp,h⟩⟩
 obtain ⟨l,hld⟩ : ∃ l,l=rowR N (exF A f):=⟨_,rfl⟩;have hll : l.length=N:=by rw [hld,zdN]
 rw [<- hld] at hsur hcf hiff;obtain ⟨b,hb⟩ : ∃ b,b=(l.drop 2).any (λ x=>!decide (x=0)):=⟨_,rfl⟩;rw [<- hb] at hcf hiff;refine zaa ⟨41,[(4,.B (!b))],[],300⟩ rfl ?_ ?_
 .simp
  refine cn1 hsur ?_;simp;refine zvZ 2 (i:=176) rfl rfl (by omega) ?_
  simp;have h2N : 2+(N - 2)<=N:=by omega
  refine zfE [176] hcf (by simp [fcd,hll,h2N]; exact Qb (by simp; omega)) (.sc _) ?_
  simp;exact LeH [] []
 exact zah ⟨.inr rfl,zao.one (by simp [hiff])⟩
open Classical in
theorem zfx (hn : zaT ⟨N,A⟩) (hl : f.length<=1099511627776) : AcP 99 [eN ⟨N,A⟩,ints f] [] (.I (if zaF N A f then valF A f else 0)) []:=by
 refine zon.s.ac ?_;show awp _ 0 _ _ ⟨14,[(0,eN ⟨N,A⟩),(1,ints f)],[],16⟩;have hvl:=zla hn hl;refine rs [1,2] [] [16] ?_;refine zab (rx (s:=?s2) [1,2,8] [] [] rfl ?o2 ?q2)
 case o2=>simp; refine zau hvl (by simp) ?_; simp; rfl
 refine zac _ rfl (λ h3=>?_) λ h3=>?_
 .simp at h3
  refine rs [4] [] [] ?_;exact zah ⟨.inr rfl,zao.one (by simp [h3])⟩
 simp at h3;have h31:=zb8.1 h3.fit;have hav:=hn.2.2.2;simp only at hav
 have hfb : ∀ j (h : j<f.length),0<=f[j]/\f[j]<=1048576:=λ j hj=>by
  have h1:=h31.2 j (by omega)
  have e1 : f.getD j 0=f[j]:=by rw [Qd,Qa hj,Qz]
  have e2 : arcD A j=A[j]'(by omega):=by unfold arcD; rw [Qd,Qa (by omega),Qz]
  rw [e1,e2] at h1;have h2:=(hav _ (Qj (show j<A.length by omega))).2.2.2.2.2.2.2.2
  omega
 have hsur:=zjF hn h31.1 hfb;have hv:=zv0 (f:=f) (zbR hn);have hn0:=hn.1;simp only at hn0;have hr:=zde (N:=N) (g:=exF A f) (x:=0) (UI _) (by omega)
 rw [hv] at hr;obtain ⟨l,hld⟩ : ∃ l,l=rowR N (exF A f):=⟨_,rfl⟩;rw [<- hld] at hsur hr;simp only [Int.toNat_zero] at hr;refine zae (zaa ⟨14,[(4,.I (valF A f))],[],300⟩ rfl ?_ ?_)
 .simp
  refine cn1 hsur ?_;have h0N : 0<(N : Int):=by omega
  simp [hr,h0N];exact ⟨by omega,LeH [] []⟩
 exact zah ⟨.inr rfl,zao.one (by simp [h3])⟩
section
variable {N : Nat} {A : List Ed} {f : List Int}
theorem zq7 (hn : zcV N A) {s : Stp} (hs : s.1<A.length) : 0<=stT A s/\stT A s<N:=by
 have:=hn.arc _ (zcF hs);unfold stT;split <;> omega
theorem Bfs.grow (hn : zcV N A) : ∀ (n : Nat) (D b : List Int),Bfs N A f D b->N - D.length<=n -> ∃ D' b',Bfs N A f D' b'/\zdn A f D'
 | n,D,b,h,hl=>by
   by_cases hc : zdn A f D
   .exact ⟨D,b,h,hc⟩
   .unfold zdn at hc
    obtain ⟨s,hs⟩:=Classical.not_forall.1 hc;obtain ⟨h1,hs⟩:=Classical.not_imp.1 hs;obtain ⟨h2,hs⟩:=Classical.not_imp.1 hs;obtain ⟨h3,h4⟩:=Classical.not_imp.1 hs;have hr:=zq7 hn h1;have hp:=h.push h1 h2 h3 h4 hr.1 hr.2;have hf:=hp.few;rw [Qh,QZ] at hf
    match n,hl with
    | 0,hl=>omega
    | n+1,hl=>exact Bfs.grow hn n _ _ hp (by rw [Qh,QZ]; omega)
theorem znx (hn : zcV N A) {D b : List Int} (hf1 : zaF N A f) (hf2 : ∀ f',zaF N A f'->valF A f'<=valF A f) (hb : Bfs N A f D b) : (1 : Int)∉D:=λ hm=>by
 obtain ⟨l,hl⟩:=hb.chain hm
 have h1:=hl.push hn hf1 (v:=1) (by omega) λ s hs=>by
  obtain ⟨i,hi,rfl⟩:=QF.1 hs;have:=(hl.at_ i hi).2.1;omega
 have h2:=hf2 _ h1.1;omega
theorem zsD (hn : zcV N A) {S : Int->Bool} (h0 : S 0=true) (h1 : S 1=false) : maxF N A<=capS S A:=by
 obtain ⟨f,hf,hv⟩:=zlm hn;rw [<- hv];exact zcL hn hf h0 h1
theorem zoO (hn : zcV N A) : ∃ X : Int->Bool,X 0=true/\X 1=false/\capS X A=maxF N A /\ ∀ S : Int->Bool,S 0=true->S 1=false->capS S A=maxF N A -> ∀ x,X x=true->S x=true:=by
 obtain ⟨f,hf,hm⟩:=zdF hn;obtain ⟨D,b,hb,hc⟩:=Bfs.grow hn N [0] _ (Bfs.start (f:=f) (by have:=hn.two; omega)) (by omega)
 have h1:=znx hn hf hm hb;have hmf:=zd1 hf hm;refine ⟨λ x=>decide (x∈D),by simpa using hb.mem0,by simpa using h1,?_,λ S s0 s1 hS x hx=>?_⟩
 .rw [hmf]
  exact (zeM hn hf hb.mem0 h1 hc).1.symm
 .exact zjw hn hf hb.tree s0 s1 (hS.trans hmf) x (by simpa using hx)
end
def zqW (g : Gr) (p : Pol) (S : Int->Bool) : Int:=capS S (netA g p [])
def zf6 (S : Int->Bool) (ks : List Int) : Int:=(ks.map λ k=>if S (2+2*k)=true then 1 else 0).sum
variable {g : Gr} {p : Pol}
def zu2 (g : Gr) (p : Pol) (k : Int) : Prop:=0<(zaH g p).getD k.toNat 0
theorem zjP {S : Int->Bool} (h1 : S 1=false) {ks : List Int} (hk : ∀ k∈ks,zu2 g p k) : capS S (netA g p ks)=zqW g p S+zf6 S ks:=by
 have hf : ks.filter (λ x=>decide (0<(zaH g p).getD x.toNat 0))=ks:=List.filter_eq_self.2 λ x hx=>U3 (hk x hx);unfold zqW zf6;simp only [zhE,netA,zaQ,Q4,List.sum_append,List.map_map,hf]
 have e : ((λ e : Ed=>if S e.f=true/\S e.t=false then e.v else 0)∘λ x : Int=>(⟨2+2*x,1,1⟩ : Ed))=λ k=>if S (2+2*k)=true then 1 else 0:=by
  funext k
  simp only [Function.comp,h1,and_true]
 rw [e];simp only [List.filter_nil,Uz,List.sum_nil];omega
theorem zoE (S : Int->Bool) : ∀ ks : List Int,zf6 S ks<=ks.length
 | []=>UI _
 | k::ks=>by
   have ih:=zoE S ks;unfold zf6 at ih ⊢;simp only [Qn,Uv,QM];split <;> omega
theorem zl9 (S : Int->Bool) (a b : List Int) : zf6 S (a++b)=zf6 S a+zf6 S b:=by simp [zf6]
theorem zqv (S : Int->Bool) {a b : List Int} (h : a.Perm b) : zf6 S a=zf6 S b:=by
 unfold zf6
 induction h with
 | nil=>rfl
 | cons x _ ih=>simp only [Qn,Uv,ih]
 | swap x y l=>simp only [Qn,Uv]; omega
 | trans _ _ ih1 ih2=>exact ih1.trans ih2
theorem zjZ {S : Int->Bool} : ∀ {ks : List Int},(∀ k∈ks,S (2+2*k)=false)->zf6 S ks=0
 | [],_=>rfl
 | k::ks,h=>by
   have ih:=zjZ (S:=S) (ks:=ks) λ x hx=>h x (Qk _ hx);unfold zf6 at ih ⊢;simp [ih,h k (Qm ..)]
structure zbt (g : Gr) (p : Pol) (ks : List Int) : Prop where
 rng : ∀ x∈ks,0<=x/\x<g.size
 reach : ∀ x∈ks,zu2 g p x
theorem zbt.sub {a b : List Int} (h : zbt g p b) (hs : ∀ x∈a,x∈b) : zbt g p a:=⟨λ x hx=>h.rng x (hs x hx),λ x hx=>h.reach x (hs x hx)⟩
theorem zbt.nil : zbt g p []:=⟨λ _ h=>(Uk h).elim,λ _ h=>(Uk h).elim⟩
theorem zbt.append {a b : List Int} (h : zbt g p a) (h' : zbt g p b) : zbt g p (a++b) :=
 ⟨λ x hx=>(Qo.1 hx).elim (h.rng x) (h'.rng x),λ x hx=>(Qo.1 hx).elim (h.reach x) (h'.reach x)⟩
theorem zcy (hg : GrOk g) (hp : zaN g.size p) {ks : List Int} (hk : zbt g p ks) : zar g p ks ↔ ∀ S : Int->Bool,S 0=true->S 1=false->(ks.length : Int)<=zqW g p S+zf6 S ks:=by
 have hn:=ziW hg hp hk.rng;unfold zar;constructor
 .intro h S h0 h1
  rw [<- zjP h1 hk.reach,<- h];exact zsD hn h0 h1
 .intro h
  obtain ⟨X,h0,h1,hc,_⟩:=zoO hn;have h2:=h X h0 h1;rw [<- zjP h1 hk.reach,hc] at h2;have h3:=zf9 (p:=p) hg hp hk.rng;omega
theorem zar.perm (hg : GrOk g) (hp : zaN g.size p) {a b : List Int} (ha : zbt g p a) (h : zar g p a) (hp' : a.Perm b) : zar g p b:=by
 have hb : zbt g p b:=ha.sub λ x hx=>hp'.mem_iff.2 hx;rw [zcy hg hp hb];rw [zcy hg hp ha] at h;intro S h0 h1;rw [<- zqv S hp',<- hp'.length_eq];exact h S h0 h1
theorem zar.left (hg : GrOk g) (hp : zaN g.size p) {a b : List Int} (hk : zbt g p (a++b)) (h : zar g p (a++b)) : zar g p a:=by
 have ha : zbt g p a:=hk.sub λ x hx=>QU _ hx;rw [zcy hg hp ha];rw [zcy hg hp hk] at h;intro S h0 h1;have:=h S h0 h1;rw [zl9,Qh] at this;have:=zoE S b;omega
theorem zar.sublist (hg : GrOk g) (hp : zaN g.size p) {a b : List Int} (hk : zbt g p b) (h : zar g p b) (hs : a.Sublist b) : zar g p a:=by
 obtain ⟨c,hc⟩ : ∃ c,(a++c).Perm b:=by
  induction hs with
  | slnil=>exact ⟨[],.refl _⟩
  | cons x hs ih =>
    obtain ⟨c,hc⟩:=ih (hk.sub λ y hy=>Qk _ hy) (by
     have h2 : zar g p (_++[x]):=h.perm hg hp hk (List.perm_append_comm (l₁:=[x]))
     exact h2.left hg hp (hk.sub λ y hy=>by simpa [or_comm] using hy))
    exact ⟨x::c,List.perm_middle.trans (hc.cons x)⟩
  | cons_cons x hs ih =>
    obtain ⟨c,hc⟩:=ih (hk.sub λ y hy=>Qk _ hy) (by
     have h2 : zar g p (_++[x]):=h.perm hg hp hk (List.perm_append_comm (l₁:=[x]))
     exact h2.left hg hp (hk.sub λ y hy=>by simpa [or_comm] using hy))
    exact ⟨c,hc.cons x⟩
 exact (h.perm hg hp hk hc.symm).left hg hp (hk.sub λ x hx=>hc.mem_iff.1 hx)
theorem zar.nil (hg : GrOk g) (hp : zaN g.size p) : zar g p []:=by
 have h1:=zf9 (p:=p) (ks:=[]) hg hp (by simp)
 have hn:=ziW (p:=p) (ks:=[]) hg hp (by simp)
 have h2:=zsH hn (zfN hn)
 have h3 : valF (netA g p []) ((netA g p []).map λ _=>0)=0:=by
  unfold valF outF
  have : ∀ A : List Ed,sumF (λ e v=>if e.f=0 then v else 0) A (A.map λ _=>0)=0:=by
   intro A
   induction A with
   | nil=>rfl
   | cons e A ih=>simp only [Qn,sumF,ih]; split <;> rfl
  exact this _
 unfold zar;simp at h1 ⊢;omega
theorem zao.k1n {rs : List (Nat × Option (Bool × Nat))} {st : St} {vs : List AV} {res : AV} {e0 e : Ent} (i : Nat) (hi : 1<=i) (h1 : zd3 st rs=some vs) (hw : Wk (conv [(0,0),(i,1)] [] st.hp 4 (resV vs)) res) (h0 : (st.hp 0).map (zaw [(0,0),(i,1)] [] st.hp 4)=some e0) (he : (st.hp i).map (zaw [(0,0),(i,1)] [] st.hp 4)=some e) : zao rs 1 st res [some e0,some e] :=
 ⟨vs,h1,[i],[],by simp [List.range,List.range.loop]; omega,by simpa using hi,by simp,by simpa [List.range,List.range.loop] using hw,by simpa [List.range,List.range.loop] using ⟨by simpa using h0,by simpa using he⟩⟩
@[simp] theorem zwh {i : Nat} : cellsOf (.mp i)=some [.mp i]:=(rfl)
theorem zwG (N : Nat) (A : List Ed) (f0 : List Int) (hn : zaT ⟨N,A⟩) (hf0 : zaF N A f0) :
  ∃ f : List Int,(zaF N A f /\ ∀ f',zaF N A f'->valF A f'<=valF A f)/\AcP 139 [eN ⟨N,A⟩,ints f0] [] (.rs 0 0 A.length) [some ⟨1,zaf f,0⟩]:=by
 refine zp4.s.acallsX (args:=[eN ⟨N,A⟩,ints f0]) (hs:=[]) (λ f=>.rs 0 0 A.length) (λ f=>[some ⟨1,zaf f,0⟩]) (λ f : List Int=>zaF N A f /\ ∀ f',zaF N A f'->valF A f'<=valF A f) (nbz rfl) (nbz rfl) (λ _=>by simp) ?_
 show awp _ 0 _ _ ⟨14,[(0,eN ⟨N,A⟩),(1,ints f0)],[],16⟩;have hno:=zbR hn;have hfl:=hf0.fit.len;have hopen:=λ (f : List Int)=>zrG N A f A.length hn;have hpush:=λ (f : List Int) (hf : zaF N A f)=>zxy N A f hn hf;have hal:=hn.2.2.1;simp only at hal;have hcl:=zmZ f0 (by omega)
 rw [hfl] at hcl;have htake : ∀ g : Int->List AV,List.take A.length (List.map g f0)=List.map g f0:=λ g=>Qb (by simp; omega)
 refine rs [1,2] [] [16] ?_;refine zas ⟨14,[(5,.pt 64 0 0)],[(48,some ⟨1,zaf f0,0⟩),(64,some ⟨4,[rC N A (.rs 48 0 A.length)],0⟩)],80⟩ rfl ?_ ?_
 .simp
  refine cn1 hcl ?_;simp;refine zaS (i:=48) rfl (by simp [fcd]) (hopen f0) (by simp) (by simp) ?_
  simp;exact ⟨rfl,LeI [(48,48),(64,64)] []⟩
 refine zab (zad (zaj (ι:=List Int) (λ f=>⟨14,[(5,.pt 64 0 0)],[(48,some ⟨1,zaf f,0⟩),(64,some ⟨4,[rC N A (.rs 48 0 A.length)],0⟩)],80⟩) (λ f=>zaF N A f) (λ f=>(capS (λ x=>decide (x=0)) A - valF A f).toNat) f0 hf0 (LeI [(48,48),(64,64)] []) ?_));intro f hf;obtain ⟨⟨c,f'⟩,hx,hcall⟩:=hpush f hf;simp only at hx hcall;refine zab (zaa ⟨14,[(5,.pt 64 0 0),(11,.B c)],[(48,some ⟨1,zaf f',0⟩),(64,some ⟨4,[rC N A (.rs 48 0 A.length)],0⟩)],100⟩ rfl ?_ ?_)
 .simp
  refine zaS (i:=48) rfl (by simp [fcd]) hcall (by simp) (by simp) ?_
  simp;exact LeI [(48,48),(64,64)] []
 refine zac _ rfl (λ h4=>?_) λ h4=>?_
 .have hc : c=true:=h4
  subst hc;simp only [UY] at hx;have hbnd:=zcL (S:=λ x=>decide (x=0)) hno hx.1 (by simp) (by simp)
  exact zae (zad (zae ⟨f',hx.1,by have:=hx.2; omega,LeI [(48,48),(64,64)] []⟩))
 have hc : c=false:=h4;subst hc;simp only [Ub,Us] at hx;obtain ⟨rfl,hm⟩:=hx;refine zai (hit (zaa ⟨14,[(4,.rs 48 0 A.length)],[(48,some ⟨1,zaf f',0⟩)],200⟩ rfl ?_ ?_))
 .simp
  exact LeI [(48,48)] []
 exact zah (zhs.mk (.inr rfl) f' ⟨hf,hm⟩ (zao.out [48] [] rfl (by simp) (by simp) (by simp) (by simp [fcd])))
theorem zjU (N : Nat) (A : List Ed) (hn : zaT ⟨N,A⟩) :
  ∃ f : List Int,(zaF N A f /\ ∀ f',zaF N A f'->valF A f'<=valF A f)/\AcP 98 [eN ⟨N,A⟩] [] (.tup [.rs 0 0 A.length,.I 0]) [some ⟨1,zaf f,0⟩]:=by
 have hno:=zbR hn;obtain ⟨f,hf,hg⟩:=zwG N A _ hn (zfN hno);refine ⟨f,hf,?_⟩;have hchk:=zgd ⟨N,A⟩ (by have:=hn.2.2.1; simp only at this ⊢; omega)
 rw [if_pos hn] at hchk;have hal:=hn.2.2.1;simp only at hal;have hfl:=hf.1.fit.len;refine zqS.s.ac ?_;show awp _ 0 _ _ ⟨16,[(0,eN ⟨N,A⟩)],[],16⟩;refine rs [1] [] [16] ?_;refine zab (rx (s:=?s2) [1,4] [] [] rfl ?o2 ?q2)
 case o2=>simp; refine zau hchk (by simp) ?_; simp; rfl
 refine rs [1,4,8] [] [] ?_;refine zac _ rfl (λ h4=>by cases h4) λ h4=>?_
 refine zae (zas ⟨16,[(2,.rs 48 0 A.length),(3,.I 0)],[(48,some ⟨1,zaf f,0⟩)],300⟩ rfl ?_ ?_)
 .simp
  refine ⟨by omega,by omega,?_⟩
  refine zdO [112] hg (by simp [Vi]) (.rs _ _ _) zm9 ?_
  simp;exact ⟨rfl,LeI [(120,48)] []⟩
 exact zah ⟨.inr rfl,zao.out [48] [] rfl (by simp) (by simp) (by simp) (by simp [fcd])⟩
theorem zhS (N : Nat) (A : List Ed) (f : List Int) (hn : zaT ⟨N,A⟩) (hf : zaF N A f) (hm : ∀ f',zaF N A f'->valF A f'<=valF A f) :
  AcP 74 [eN ⟨N,A⟩,.rs 0 0 A.length] [⟨1,zaf f,0⟩] (.rs 1 0 (zdq N A).length) [some ⟨1,zaf f,0⟩,some ⟨1,zaf (zdq N A),0⟩]:=by
 have hno:=zbR hn;obtain ⟨⟨D,b,R⟩,⟨hb,hcl,hR⟩,hcall⟩:=zoG N A f hn hf.fit;simp only at hb hcl hR hcall;have hopen:=zrG N A f A.length hn;have hnear : inD D N=zdq N A:=zkz hno hf hm hb.tree hb.mem0 (znx hno hf hm hb) hcl;have hwh:=zsE hR N (by have:=hn.2.1; simp only at this; omega)
 rw [hnear] at hwh;have hfl:=hf.fit.len;have htake : ∀ g : Int->List AV,List.take A.length (List.map g f)=List.map g f:=λ g=>Qb (by simp; omega)
 refine zkG.s.acalls (nbz rfl) (nbz rfl) (by simp) ?_
 show awp _ 1 _ _ ⟨14,[(0,eN ⟨N,A⟩),(1,.rs 0 0 A.length)],[(0,some ⟨1,zaf f,0⟩)],16⟩;refine zaa ⟨14,[(1,.rs 0 0 A.length),(2,.pv (nC ⟨N,A⟩))],[(0,some ⟨1,zaf f,0⟩)],32⟩ rfl ?_ ?_
 .simp
  exact LeI [(0,0)] [16]
 refine zaa ⟨14,[(2,.pv (nC ⟨N,A⟩)),(5,.pt 64 0 0)],[(0,some ⟨1,zaf f,0⟩),(64,some ⟨1,[[.mp 56]],0⟩),(56,some ⟨0,R,0⟩)],100⟩ rfl ?_ ?_
 .simp
  refine zaS (i:=0) rfl (by simp [fcd]) hopen (by simp) (by simp) ?_
  simp;refine zdO [0] hcall (by simp [fcd,htake,hfl]) (.mp _) (hR.plain _ _) ?_
  simp;exact Le.go [(0,0),(64,64),(56,56)] [] rfl rfl (by simp) (by simp [fcd,hR.conv'])
 refine zaa ⟨14,[(4,.rs 57 0 (zdq N A).length)],[(0,some ⟨1,zaf f,0⟩),(57,some ⟨1,zaf (zdq N A),0⟩)],200⟩ rfl ?_ ?_
 .simp
  refine zfs (i:=64) (j:=56) (by decide) rfl rfl (by simp) (by simp [hR.conv']) hwh (by simp) (by simp [conv]) ?_
  simp;exact LeI [(0,0),(124,57)] []
 exact zah ⟨.inr rfl,zao.k1n 57 (by omega) rfl (by simp) (by simp [fcd]) (by simp [fcd])⟩
abbrev zbm (R : List (Int × List Int)) : List (List AV):=R.map λ r=>[.I r.1,ints r.2]
abbrev eAcc (acc flow : List Int) (R : List (Int × List Int)) : AV:=.agg [ints acc,ints flow,.vs 2 false (zbm R)]
structure RSt where
 i : Nat
 R : List (Int × List Int)
open Classical in
theorem zyc (g : Gr) (p : Pol) (hg : GrOk g) (hp : zaN g.size p) (hs : p.seeds.length<=64) :
  ∃ x : List (Int × List Int) × List Int,(zf2 g p (ordL (zag g p.lv) p.seeds) x.1/\zj7 g p (zaG (accR g p (ordL (zag g p.lv) p.seeds))) x.2) /\
    AcP 25 [eG g,eP p] [] (.tup [eAcc (accR g p (ordL (zag g p.lv) p.seeds)) x.2 x.1,.I 0]) []:=by
 refine zpS.s.acallsX (args:=[eG g,eP p]) (hs:=[]) (λ x=>.tup [eAcc (accR g p (ordL (zag g p.lv) p.seeds)) x.2 x.1,.I 0]) (λ _=>[]) (λ x : List (Int × List Int) × List Int=>zf2 g p (ordL (zag g p.lv) p.seeds) x.1/\zj7 g p (zaG (accR g p (ordL (zag g p.lv) p.seeds))) x.2) (nbz rfl) (nbz rfl) (λ _=>Ql _) ?_;show awp _ 0 _ _ ⟨84,[(0,eG g),(1,eP p)],[],16⟩;have hsz:=hg.1.1;have hsz2:=hg.1.2.1;have hel:=hg.edges_le;have hgl:=hg.gone_le;have hchk:=zeU g p (by omega) (by omega) (by omega) (by have:=hp.2.2.2.1; omega)
 rw [if_pos hg,if_pos hp] at hchk;have hlev:=zct g p.lv (by omega) (by omega)
 have hord:=zeX (g:=zag g p.lv) (S:=p.seeds) (hg.level p.lv) (by omega)
 obtain ⟨o,ho⟩ : ∃ o,o=ordL (zag g p.lv) p.seeds:=⟨_,rfl⟩;have hor : ∀ k∈o,0<=k/\k<g.size:=λ k hk=>by rw [ho] at hk; have h:=zbD hk; exact h
 have hon : o.Nodup:=by rw [ho]; exact za3 _ _
 rw [<- ho] at hord ⊢
 have hol : o.length<=64:=by
  have:=zaL (b:=(List.range g.size.toNat).map λ i : Nat=>(i : Int)) hon λ x hx=>by
   have:=hor x hx;exact Qg.2 ⟨x.toNat,QA.2 (by omega),by omega⟩
  simp at this;omega
 have hjr : ∀ a : List Int,(∀ x∈a,0<=x/\x<g.size)->Rise (zaG a) 0 (g.size - 1):=λ a h=>zeq h;have hj0 : zaG []=[]:=rfl;refine rs [2,3,4] [32] [16,24] ?_;refine zab (rx (s:=?s2) [2,3,4,6] [32] [] rfl ?o2 ?q2)
 case o2=>simp; refine zau hchk (by simp) ?_; simp; rfl
 refine rs [2,3,4,6,21] [32] [] ?_;refine zac _ rfl (λ h=>by cases h) λ _=>?_
 refine zae (zaa ⟨84,[(2,.pv (gC g)),(3,.pv (pC p)),(4,.pt 32 0 0),(7,.pt 40 0 0)],[(32,some ⟨3,[[.nilS,.nilS,.nilS]],0⟩),(40,some ⟨3,[[.nilS,.nilS,.nilS]],0⟩)],200⟩ rfl ?_ ?_)
 .simp
  exact LeH [(32,32),(96,40)] []
 refine zaa ⟨84,[(2,.pv (gC g)),(3,.pv (pC p)),(4,.pt 32 0 0),(7,.pt 40 0 0),(8,.vs 1 false [])],[(32,some ⟨3,[[.nilS,.nilS,.nilS]],0⟩),(40,some ⟨3,[[.nilS,.nilS,.nilS]],0⟩)],300⟩ rfl ?_ ?_
 .simp
  exact LeH [(32,32),(40,40)] []
 refine zas ⟨84,[(2,.pv (gC g)),(3,.pv (pC p)),(4,.pt 32 0 0),(7,.pt 40 0 0),(8,.vs 1 false []),(9,ints o)],[(32,some ⟨3,[[.nilS,.nilS,.nilS]],0⟩),(40,some ⟨3,[[.nilS,.nilS,.nilS]],0⟩)],400⟩ rfl ?_ ?_
 .simp
  refine cl0 hlev ?_;simp;refine cn1 hord ?_;simp;exact ⟨rfl,Le.go [(32,32),(40,40)] [348] rfl rfl (by simp [fcd,zaq]) (by simp)⟩
 refine zab (zaa ⟨84,[(2,.pv (gC g)),(3,.pv (pC p)),(4,.pt 32 0 0),(7,.pt 40 0 0),(8,.vs 1 false []),(9,ints o),(10,.I 0)],[(32,some ⟨3,[[.nilS,.nilS,.nilS]],0⟩),(40,some ⟨3,[[.nilS,.nilS,.nilS]],0⟩)],500⟩ rfl ?_ ?_)
 .simp
  exact LeH [(32,32),(40,40)] []
 refine zad ?_
 refine zaj (ι:=RSt) (λ s=>⟨84,[(2,.pv (gC g)),(3,.pv (pC p)),(4,.pt 32 0 0),(7,.pt 40 0 0),(8,ints (zaG (accR g p (o.take s.i)))),(9,ints o),(10,.I s.i)],
   [(32,some ⟨3,[[.nilS,.nilS,.nilS]],0⟩),(40,some ⟨3,[[.rs 41 0 (accR g p (o.take s.i)).length,.nilS,.rs 42 0 s.R.length]],0⟩),(41,some ⟨1,zaf (accR g p (o.take s.i)),0⟩),(42,some ⟨2,zbm s.R,0⟩)],500⟩)
  (λ s=>s.i<=o.length/\zf2 g p (o.take s.i) s.R) (λ s=>o.length - s.i) ⟨0,[]⟩ ⟨Qi _,zf2.nil⟩
  (Le.lst [(32,32),(40,40)] [] [(41,1),(42,2)] rfl (by simp) (by simp) (by simp) (by simp) (by simp) (by simp) (by simp) (by simp [Up,zhF,hj0]; exact .refl _) (by simp [zhF,fcd]; exact ⟨zaA.rfl' (by simp),zaA.row rfl (by omega) (by simp [UpL,Up,Wk.refl])⟩)) ?_
 rintro ⟨i,R⟩ ⟨hi,hR⟩
 simp only at hi hR;obtain ⟨acc,hacc⟩ : ∃ acc,acc=accR g p (o.take i):=⟨_,rfl⟩;have hai : ∀ x∈acc,0<=x/\x<g.size:=λ x hx=>hor x (QY (zdb (hacc ▸ hx)))
 have hal : acc.length<=64:=by
  have h1:=zkx (g:=g) (p:=p) (o.take i);rw [<- hacc] at h1;exact QH h1 (QH (Ve i o) hol)
 have hRl:=hR.len;have hRl2:=Ve i o;rw [<- hacc];refine zab ?_
 refine zaa ⟨84,[(2,.pv (gC g)),(3,.pv (pC p)),(4,.pt 32 0 0),(7,.pt 40 0 0),(8,ints (zaG acc)),(9,ints o),(10,.I i),(34,.B (decide (i<o.length)))],
   [(32,some ⟨3,[[.nilS,.nilS,.nilS]],0⟩),(40,some ⟨3,[[.rs 41 0 acc.length,.nilS,.rs 42 0 R.length]],0⟩),(41,some ⟨1,zaf acc,0⟩),(42,some ⟨2,zbm R,0⟩)],600⟩ rfl ?_ ?_
 .simp
  exact LeI [(32,32),(40,40),(41,41),(42,42)] []
 refine zac _ rfl (λ h11=>?_) λ h11=>?_
 .simp at h11
  have hw1 : IntKind.i64.wrap ((i : Int)+1)=(i : Int)+1:=w6;obtain ⟨k,hk⟩ : ∃ k,k=o[i]:=⟨_,rfl⟩;have hkr:=hor _ (Qj h11);rw [<- hk] at hkr;have hts : o.take (i+1)=o.take i++[k]:=by rw [Qp h11,hk]
  have hput:=zuY (zaG acc) k (by have:=zdr acc; omega)
  rw [zrC hkr.1 (by omega)] at hput
  have hks : ∀ x∈acc++[k],0<=x/\x<g.size:=λ x hx=>by
   rcases Qo.1 hx with h | h
   .exact hai x h
   .rw [QB] at h; subst h; exact hkr
  have hrise:=hjr _ hks;have hJl:=zdr (acc++[k]);obtain ⟨f,hf,hsv⟩:=zpd g p (zaG (acc++[k])) hg hp hrise hs hJl;have hnv:=zhC hg hp (ziP hrise) hs hJl;obtain ⟨side,⟨hsd1,hsd2,hsd3,hsd4⟩,hnear⟩:=zsV _ _ hnv;have hyes:=zbk (g:=g) (p:=p) (o:=o.take i) (k:=k);have hno:=zfg (g:=g) (p:=p) (o:=o.take i) (k:=k);rw [<- hacc,<- hts] at hyes hno;have hRy:=hR.yes (k:=k);have hRn:=λ h=>hR.no (k:=k) (side:=side) h;rw [<- hacc,<- hts] at hRy hRn;obtain ⟨J,hJ⟩ : ∃ J,J=zaG (acc++[k]):=⟨_,rfl⟩;rw [<- hJ] at hput hsv hnear hsd1 hsd2 hsd4 hyes hno hRy hf;refine zae ?_
  refine zap (ι:=RSt) (λ s=>⟨84,[(2,.pv (gC g)),(3,.pv (pC p)),(4,.pt 32 0 0),(7,.pt 40 0 0),(8,ints (zaG (accR g p (o.take (i+1))))),(9,ints o),(10,.I i)],
   [(32,some ⟨3,[[.nilS,.nilS,.nilS]],0⟩),(40,some ⟨3,[[.rs 41 0 (accR g p (o.take (i+1))).length,.nilS,.rs 42 0 s.R.length]],0⟩),(41,some ⟨1,zaf (accR g p (o.take (i+1))),0⟩),(42,some ⟨2,zbm s.R,0⟩)],3000⟩)
   (λ s=>zf2 g p (o.take (i+1)) s.R) ?_ λ s hs'=>?_
  .refine zad ?_
   refine zaa ⟨84,[(2,.pv (gC g)),(3,.pv (pC p)),(4,.pt 32 0 0),(7,.pt 40 0 0),(8,ints (zaG acc)),(9,ints o),(10,.I i),(11,.I k)],
    [(32,some ⟨3,[[.nilS,.nilS,.nilS]],0⟩),(40,some ⟨3,[[.rs 41 0 acc.length,.nilS,.rs 42 0 R.length]],0⟩),(41,some ⟨1,zaf acc,0⟩),(42,some ⟨2,zbm R,0⟩)],700⟩ rfl ?_ ?_
   .simp [h11,<- hk]
    exact LeI [(32,32),(40,40),(41,41),(42,42)] []
   refine zas ⟨84,[(2,.pv (gC g)),(3,.pv (pC p)),(4,.pt 32 0 0),(7,.pt 40 0 0),(8,ints (zaG acc)),(9,ints o),(10,.I i),(11,.I k),(12,.pv (nC ⟨netN g,netA g p J⟩)),(14,.B (decide (zar g p J)))],
    [(32,some ⟨3,[[.nilS,.nilS,.nilS]],0⟩),(40,some ⟨3,[[.rs 41 0 acc.length,.nilS,.rs 42 0 R.length]],0⟩),(41,some ⟨1,zaf acc,0⟩),(42,some ⟨2,zbm R,0⟩)],900⟩ rfl ?_ ?_
   .simp
    refine cn1 hput ?_;simp;refine zpj (j:=732) (by decide) rfl hsv (by simp [fcd,zaq]) ?_
    simp;exact ⟨rfl,Le.go [(32,32),(40,40),(41,41),(42,42)] [780,732,740] rfl rfl (by simp [zaq]) (by simp [fcd])⟩
   refine zab ?_
   refine zaa ⟨84,[(2,.pv (gC g)),(3,.pv (pC p)),(4,.pt 32 0 0),(7,.pt 40 0 0),(8,ints (zaG acc)),(9,ints o),(10,.I i),(11,.I k),(12,.pv (nC ⟨netN g,netA g p J⟩)),(51,.B (decide (zar g p J)))],
    [(32,some ⟨3,[[.nilS,.nilS,.nilS]],0⟩),(40,some ⟨3,[[.rs 41 0 acc.length,.nilS,.rs 42 0 R.length]],0⟩),(41,some ⟨1,zaf acc,0⟩),(42,some ⟨2,zbm R,0⟩)],1000⟩ rfl ?_ ?_
   .simp
    exact LeI [(32,32),(40,40),(41,41),(42,42)] []
   refine zac _ rfl (λ h15=>?_) λ h15=>?_
   .have h15' : zar g p J:=of_decide_eq_true h15
    have hy:=hyes h15';have hRy':=hRy h15'
    refine zaa ⟨84,[(2,.pv (gC g)),(3,.pv (pC p)),(4,.pt 32 0 0),(7,.pt 40 0 0),(8,ints J),(9,ints o),(10,.I i)],
     [(32,some ⟨3,[[.nilS,.nilS,.nilS]],0⟩),(40,some ⟨3,[[.rs 41 0 (acc++[k]).length,.nilS,.rs 42 0 R.length]],0⟩),(41,some ⟨1,zaf (acc++[k]),0⟩),(42,some ⟨2,zbm R,0⟩)],1200⟩ rfl ?_ ?_
    .simp [zaq]
     refine ⟨by omega,by omega,?_⟩
     refine cn1 hput ?_;simp [zat];exact Le.go [(32,32),(40,40),(1032,41),(42,42)] [1056] rfl rfl (by simp [fcd,zaq]) (by simp [fcd])
    exact zai (hit ⟨⟨i,R⟩,hRy',Le.go [(32,32),(40,40),(41,41),(42,42)] [] rfl rfl (by simp [hy,<- hJ]) (by simp [hy,fcd])⟩)
   .have h15' : ¬ zar g p J:=of_decide_eq_false h15
    have hn':=hno h15';have hRn':=hRn ⟨by rw [<- hJ]; exact h15',by rw [<- hJ]; exact hsd1,by rw [<- hJ]; exact hsd2,hsd3,by rw [<- hJ]; exact hsd4⟩
    refine zae ?_
    refine zaa ⟨84,[(2,.pv (gC g)),(3,.pv (pC p)),(4,.pt 32 0 0),(7,.pt 40 0 0),(8,ints (zaG acc)),(9,ints o),(10,.I i),(11,.I k),(15,ints side)],
     [(32,some ⟨3,[[.nilS,.nilS,.nilS]],0⟩),(40,some ⟨3,[[.rs 41 0 acc.length,.nilS,.rs 42 0 R.length]],0⟩),(41,some ⟨1,zaf acc,0⟩),(42,some ⟨2,zbm R,0⟩)],1200⟩ rfl ?_ ?_
    .simp
     refine cn1 hnear ?_;simp;exact Le.go [(32,32),(40,40),(41,41),(42,42)] [1008] rfl rfl (by simp [fcd,zaq]) (by simp [fcd])
    have htR : ∀ h : Int × List Int->List AV,List.take R.length (List.map h R)=List.map h R:=λ h=>Qb (by simp)
    refine zan rfl ?_;simp [htR,zat];exact ⟨by omega,by omega,⟨i,R++[(k,side)]⟩,hRn',Le.go [(32,32),(40,40),(41,41),(1248,42)] [] rfl rfl (by simp [hn']) (by simp [hn',fcd])⟩
  refine zam ?_;exact ⟨⟨i+1,s.R⟩,⟨h11,hs'⟩,Nat.sub_lt_sub_left h11 (Nat.lt_succ_self i),Le.go [(32,32),(40,40),(41,41),(42,42)] [] rfl rfl (by simp [hw1]) (by simp [fcd])⟩
 simp at h11;obtain rfl : i=o.length:=by omega
 rw [Q1] at hacc hR;obtain ⟨f,hf,hsv⟩:=zpd g p (zaG acc) hg hp (hjr _ hai) hs (zdr acc);refine zai (hit ?_);have hfl:=hf.ok.fit.len;have htf : ∀ h : Int->List AV,List.take (netA g p (zaG acc)).length (List.map h f)=List.map h f:=λ h=>Qb (by simp; omega)
 refine zaa ⟨84,[(4,.pt 32 0 0),(7,.pt 40 0 0)],
   [(32,some ⟨3,[[.nilS,.nilS,.nilS]],0⟩),(40,some ⟨3,[[ints acc,ints f,.vs 2 false (zbm R)]],0⟩)],1200⟩ rfl ?_ ?_
 .simp
  refine cn1 hsv ?_;simp [zat];exact Le.go [(32,32),(40,40)] [41,42,624] rfl rfl (by simp) (by simp [fcd,zaq,htf,hfl])
 refine zaa ⟨84,[(4,.pt 32 0 0),(5,.I 0)],[(32,some ⟨3,[[ints acc,ints f,.vs 2 false (zbm R)]],0⟩)],1400⟩ rfl ?_ ?_
 .simp [zat]
  exact LeI [(32,32)] []
 exact zah (zhs.mk (.inr rfl) (R,f) ⟨hR,by rw [<- hacc]; exact hf⟩ (zao.out [] [] rfl (by simp) (by simp) (by simp [<- hacc]) (by simp)))
theorem WayA.mem {A : List Ed} : ∀ {l : List Nat} {u w : Int},WayA A u l w -> ∀ j∈l,j<A.length
 | i::l,u,w,hw,j,hj=>by
   rcases Qu.1 hj with rfl | hj
   .exact hw.1
   .exact WayA.mem hw.2.2 j hj
theorem zia.few {N : Nat} {A : List Ed} {f g : List Int} {l : List Nat} {w : Int} (hn : zcV N A) (h : zia A f g l w) : l.length+1<=N:=by
 have:=zaL (b:=(List.range N).map λ i : Nat=>(i : Int)) h.met λ x hx=>by
  rcases Qu.1 hx with rfl | hx
  .have:=hn.two
   exact Qg.2 ⟨0,QA.2 (by omega),rfl⟩
  .obtain ⟨j,hj,rfl⟩:=Qg.1 hx
   have ha:=hn.arc _ (zcF (h.way.mem j hj));exact Qg.2 ⟨(arcD A j).t.toNat,QA.2 (by omega),by omega⟩
 simpa [metA] using this
section
variable {P : Program} {np id : Nat} {h : Nat->Option Ent} {K : AV->List Nat->List (Nat × Option Ent)->Prop} {f : FuncId} {first capt args args' : List AV} {res : AV}
end
def zu3 (g : Gr) (p : Pol) (ks : List Int) (W : List (List Nat)) : Prop :=
 ∃ f g',zj7 g p (zaG ks) f/\zjE (netN g) (netA g p (zaG ks)) f g' W/\(W.length : Int)=maxF (netN g) (netA g p (zaG ks)) /\ ∀ w∈W,w.length<=130
def befL (o acc : List Int) (i : Nat) : List Int:=(o.take i).filter λ k=>decide (k∈acc)
theorem zsY {o acc : List Int} {i : Nat} (h : i<o.length) : befL o acc (i+1)=befL o acc i++if o[i]∈acc then [o[i]] else []:=by
 unfold befL;rw [Qp h,UJ];simp only [List.filter_cons,List.filter_nil,Qe]
structure ForR (g : Gr) (p : Pol) (o : List Int) (key : Int) (x : Expl) : Prop where
 key_ : x.key=key
 bef : ∃ i,∃ h : i<o.length,o[i]=key/\x.before=befL o (accR g p o) i
 yes : key∈accR g p o->x.acc=true/\x.side=[] /\ ∃ W,zu3 g p (x.before++[key]) W/\x.paths=W.map (zb5 (netA g p (zaG (x.before++[key]))))
 no : key∉accR g p o->x.acc=false/\x.paths=[] /\ ∃ R,zf2 g p o R/\(key,x.side)∈R
end Go.Proofs.YtkngdgplbojdlaaGreat
