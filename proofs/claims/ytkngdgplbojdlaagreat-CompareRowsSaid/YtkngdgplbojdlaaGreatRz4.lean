/- Texts of this claim,merged. -/
import Derived.Test.YtkngdgplbojdlaaGreatRz3
import Derived.Test.YtkngdgplbojdlaaGreatRz2
set_option linter.unusedSimpArgs false
set_option linter.unusedVariables false
set_option linter.unusedSectionVars false
set_option maxRecDepth 100000
set_option maxHeartbeats 8000000
noncomputable section
namespace Go.Proofs.YtkngdgplbojdlaaGreat
open Go
structure Pol where
 seeds : List Int
 table : List Int
 lv : Int
def zaN (n : Int) (p : Pol) : Prop :=
 p.seeds≠[]/\Rise p.seeds 0 (n - 1)/\1<=p.table.length/\p.table.length<=8/\1<=p.lv/\p.lv<=3 /\ ∀ i (h : i<p.table.length),1<=p.table[i]/\p.table[i]<=1000/\(0<i->p.table[i]<=p.table[i - 1])
def zcQ (p : Pol) (d : Int) : Int:=if d<0 then 0 else p.table.getD d.toNat 1
theorem zex {p : Pol} {d : Int} (h : d<0) : zcQ p d=0:=if_pos h
theorem zpl {p : Pol} {n : Int} (hp : zaN n p) {d : Int} (h : 0<=d) : 1<=zcQ p d/\zcQ p d<=1000:=by
 unfold zcQ;rw [if_neg (by omega)]
 by_cases hd : d.toNat<p.table.length
 .rw [Qd,Qa hd,Qz]
  have:=hp.2.2.2.2.2.2 d.toNat hd;omega
 .rw [Qd,Q3 (by omega),Option.getD_none]
  omega
theorem zmM {p : Pol} {n : Int} (hp : zaN n p) {d : Int} : 0<zcQ p d↔0<=d:=by
 constructor
 .intro h
  refine Uh λ h1=>?_;rw [zex (by omega)] at h
  omega
 .intro h
  have:=zpl hp h;omega
theorem zff {p : Pol} {n : Int} (hp : zaN n p) (d : Int) : 0<=zcQ p d/\zcQ p d<=1000:=by
 by_cases h : 0<=d
 .have:=zpl hp h; omega
 .rw [zex (by omega)]; omega
theorem zmw (g : Gr) (v : Int) : zag (zag g v) v=zag g v:=by
 unfold zag;simp only [List.filter_filter,Bool.and_self]
def zaH (g : Gr) (p : Pol) : List Int:=(zaW (zag g p.lv) p.seeds).map (zcQ p)
def zaQ (g : Gr) (p : Pol) (c : List Int) (sinks : List Int) : List Ed :=
 ((p.seeds.filter λ x=>decide (0<c.getD x.toNat 0)).map λ x=>⟨0,2+2*x,c.getD x.toNat 0⟩)
 ++ ((List.range c.length).filter λ i=>decide (0<c.getD i 0)).map (λ i=>⟨2+2*(i : Int),3+2*(i : Int),c.getD i 0 - 1⟩)
 ++ ((sinks.filter λ x=>decide (0<c.getD x.toNat 0)).map λ x=>⟨2+2*x,1,1⟩)
 ++ (((zag g p.lv).edges.filter λ e=>decide (0<c.getD e.f.toNat 0)).map λ e=>⟨3+2*e.f,2+2*e.t,64⟩)
structure Net where
 nodes : Int
 arcs : List Ed
def zgy (n : Int) (a : Ed) : Prop:=0<=a.f/\a.f<=n - 1/\0<=a.t/\a.t<=n - 1/\a.f≠a.t/\a.t≠0/\a.f≠1/\0<=a.v/\a.v<=1048576
instance (n : Int) (a : Ed) : Decidable (zgy n a):=by unfold zgy; infer_instance
def zaT (n : Net) : Prop:=2<=n.nodes/\n.nodes<=130/\n.arcs.length<=1200 /\ ∀ a∈n.arcs,zgy n.nodes a
instance (n : Net) : Decidable (zaT n):=by unfold zaT; infer_instance
def zmC (n : Net) (side : List Int) : Prop:=zaT n/\Rise side 0 (n.nodes - 1)/\(0 : Int)∈side/\(1 : Int)∉side
def cutV (arcs : List Ed) (side : List Int) : Int:=(arcs.map λ a=>if a.f∈side/\a.t∉side then a.v else 0).sum
def zlp (n : Net) (side : List Int) (most : Int) : Prop:=zmC n side/\cutV n.arcs side<=most
def zaG (a : List Int) : List Int:=((List.range 64).map Int.ofNat).filter λ x=>decide (x∈a)
theorem zcX {a : List Int} {x : Int} : x∈zaG a↔x∈a/\0<=x/\x<64:=by
 unfold zaG;simp only [Qw,Qg,QA,Qe];constructor
 .rintro ⟨⟨i,hi,rfl⟩,h⟩
  exact ⟨h,Int.natCast_nonneg _,by show (i : Int)<64; omega⟩
 .rintro ⟨h,h0,h1⟩
  exact ⟨⟨x.toNat,by omega,by show ((x.toNat : Nat) : Int)=x; omega⟩,h⟩
theorem zeF (a : List Int) : (zaG a).Pairwise (· < ·):=by
 unfold zaG;refine List.Pairwise.filter _ ?_;rw [U2];exact List.pairwise_lt_range.imp λ {a b} h=>by show (a : Int)<(b : Int); omega
theorem zaL : ∀ {a b : List Int},a.Nodup->(∀ x∈a,x∈b)->a.length<=b.length
 | [],_,_,_=>Qi _
 | x::a,b,hn,hs=>by
   have hx : x∈b:=hs x (Qm ..);rw [Q6] at hn;have hb:=List.perm_cons_erase hx;have hlb : (b.erase x).length+1=b.length:=by have:=hb.length_eq; simp at this; omega
   have:=zaL (b:=b.erase x) hn.2 λ y hy=>by
    have hne : y≠x:=λ e=>hn.1 (e ▸ hy);exact (List.mem_erase_of_ne hne).2 (hs y (Qk _ hy))
   rw [QM];omega
theorem zk7 {a : List Int} (hn : a.Nodup) (hr : ∀ k∈a,0<=k/\k<64) : srt a=zaG a:=by
 have h1 : (zaG a).Nodup:=(zeF a).imp λ {x y} h=>by omega
 have h2 : a.Perm (zaG a):=zck hn (λ x hx=>zcX.2 ⟨hx,hr x hx⟩) (zaL h1 λ x hx=>(zcX.1 hx).1);exact List.Perm.eq_of_pairwise (le:=(· <= ·)) (λ x y _ _ h1 h2=>by omega) (zmV a) ((zeF a).imp λ {x y} h=>by omega) ((zbs a).trans h2)
abbrev pC (p : Pol) : List AV:=[ints p.seeds,ints p.table,.I p.lv]
abbrev eP (p : Pol) : AV:=.agg (pC p)
def zmX (p : Pol) (i : Nat) : Prop:=∀ h : i<p.table.length,1<=p.table[i]/\p.table[i]<=1000/\(0<i->p.table[i]<=p.table[i - 1])
def zgW (n : Int) (p : Pol) : Prop:=p.seeds≠[]/\Rise p.seeds 0 (n - 1)/\(1<=p.table.length/\p.table.length<=8)/\(1<=p.lv/\p.lv<=3)
theorem zdw {n : Int} {p : Pol} : zaN n p↔zgW n p /\ ∀ i,zmX p i:=by
 unfold zaN zgW zmX;constructor
 .rintro ⟨a,b,c,d,e,f,g⟩; exact ⟨⟨a,b,⟨c,d⟩,e,f⟩,g⟩
 .rintro ⟨⟨a,b,⟨c,d⟩,e,f⟩,g⟩; exact ⟨a,b,c,d,e,f,g⟩
theorem zjs (p : Pol) (d : Int) : AcP 185 [eP p,.I d] [] (.I (zcQ p d)) []:=by
 refine zmm.s.ac ?_;show awp _ 0 _ _ ⟨19,[(0,eP p),(1,.I d)],[],16⟩;refine rs [1,2] [] [16] ?_;refine zap (ι:=Unit) (λ _=>⟨19,[],[],200⟩) (λ _=>0<=d/\(p.table.length : Int)<=d) ?_ λ _ hd=>?_
 .refine zad (rs [1,2,5] [] [] ?_)
  refine zac _ rfl (λ h3=>?_) λ h3=>?_
  .simp at h3
   refine rs [4] [] [] ?_;exact zah ⟨.inr rfl,zao.one (by simp [zex h3])⟩
  simp at h3;refine rs [1,2,8] [] [] ?_;refine zac _ rfl (λ h6=>?_) λ h6=>?_
  .simp at h6
   obtain ⟨k,rfl⟩ : ∃ k : Nat,d=k:=⟨d.toNat,by omega⟩
   have hk : k<p.table.length:=by omega
   refine rx (s:=?s7) [4] [] [] rfl ?o7 ?q7
   case o7=>simp [hk]; rfl
   exact zah ⟨.inr rfl,zao.one (by simp [zcQ,hk,show ¬ ((k : Int)<0) by omega])⟩
  simp at h6;exact zae ⟨(),⟨h3,h6⟩,Le.keep rfl (nbz rfl) (by simp) (by simp)⟩
 refine rs [4] [] [] ?_;refine zah ?_
 have h1 : zcQ p d=1:=by
  unfold zcQ;rw [if_neg (by omega),Qd,Q3 (by omega)]
  rfl
 exact ⟨.inr rfl,zao.one (by simp [h1])⟩
theorem zno (p : Pol) (d : Int) : AcP 67 [eP p,.I d] [] (.I (zcQ p d)) []:=by
 refine zsM.s.ac ?_;show awp _ 0 _ _ ⟨17,[(0,eP p),(1,.I d)],[],16⟩;refine rs [1,2] [] [16] ?_;refine zab (rs [1,2,6] [] [] ?_);refine zac _ rfl (λ h3=>?_) λ h3=>?_
 .simp at h3
  refine rs [4] [] [] ?_;exact zah ⟨.inr rfl,zao.one (by simp [zex h3])⟩
 simp at h3;refine zae (zab (rs [1,2,11] [] [] ?_));refine zac _ rfl (λ h6=>?_) λ h6=>?_
 .simp at h6
  obtain ⟨k,rfl⟩ : ∃ k : Nat,d=k:=⟨d.toNat,by omega⟩
  have hk : k<p.table.length:=by omega
  refine rx (s:=?s7) [4] [] [] rfl ?o7 ?q7
  case o7=>simp [hk]; rfl
  exact zah ⟨.inr rfl,zao.one (by simp [zcQ,hk,show ¬ ((k : Int)<0) by omega])⟩
 simp at h6;refine zae (rs [4] [] [] ?_);refine zah ?_
 have h1 : zcQ p d=1:=by
  unfold zcQ;rw [if_neg (by omega),Qd,Q3 (by omega)]
  rfl
 exact ⟨.inr rfl,zao.one (by simp [h1])⟩
open Classical in
theorem zbA (g : Gr) (p : Pol) (hl : g.edges.length<=140737488355328) (hl2 : g.gone.length<=140737488355328) (hs : p.seeds.length<=140737488355328) (ht : p.table.length<=140737488355328) :
  AcP 50 [eG g,eP p] [] (.I (if GrOk g then if zaN g.size p then 0 else 15 else 14)) []:=by
 refine ziH.s.ac ?_;show awp _ 0 _ _ ⟨65,[(0,eG g),(1,eP p)],[],16⟩;refine rs [2,3] [] [16,24] ?_;refine zab (rx (s:=?s2) [2,3,5] [] [] rfl ?o2 ?q2)
 case o2=>simp; refine zau (zi2 g hl hl2) (by simp) ?_; simp; rfl
 refine rs [2,3,5,11] [] [] ?_;refine zac _ rfl (λ h4=>?_) λ h4=>?_
 .simp at h4
  refine rs [4] [] [] ?_;exact zah ⟨.inr rfl,zao.one (by simp [h4])⟩
 simp at h4;have hg0:=h4.1.1;have hg1:=h4.1.2.1;refine zae (zab (zaa ⟨65,[(3,.pv (pC p)),(38,.B (decide (¬ zgW g.size p)))],[],288⟩ rfl ?_ ?_))
 .simp
  repeat' first
   | (refine zc8 108 rfl ?_; have hw : IntKind.i64.wrap (g.size - 1)=g.size - 1:=w6; rw [hw]; refine zau (zcR _ _ _ hs) rfl ?_; simp)
   | (refine zc8 37 rfl ?_; refine zau (zaJ ..) rfl ?_; simp)
   | (refine zcb (λ hb=>?_) (λ hb=>?_) <;> (try rw [hb]) <;> (try simp at hb) <;> simp [hb])
  all_goals exact Le.snap [] rfl rfl (by simp; first | exact wkB (by (try simp at *); grind [zgW]) | exact ⟨by rw [show pC p=[.vs 1 false [],ints p.table,.I p.lv] by simp [pC,ints,hb]]; exact .refl _,wkB (by (try simp at *); grind [zgW])⟩)
 refine zac _ rfl (λ h7=>?_) λ h7=>?_
 .simp at h7
  refine rs [4] [] [] ?_;exact zah ⟨.inr rfl,zao.one (by simp [h4,zdw,h7])⟩
 simp at h7;refine zae (zab (rs [3,40,41,42] [] [] ?_));refine zad (zaj (ι:=Nat) (λ i=>⟨65,[(3,.pv (pC p)),(40,ints p.table),(41,.I p.table.length),(42,.I i)],[],320⟩) (λ i=>i<=p.table.length /\ ∀ k,k<i->zmX p k) (λ i=>p.table.length - i) 0 (by simp) (LeH [] []) ?_)
 rintro i ⟨hi,hp⟩
 refine rs [3,40,41,42,43] [] [] ?_;refine zab (zac _ rfl (λ h11=>?_) λ h11=>?_)
 .simp at h11
  have hw2 : IntKind.i64.wrap ((i : Int)+1)=(i : Int)+1:=w6;have hwp : 0<i->IntKind.i64.wrap ((i : Int) - 1)=((i - 1 : Nat) : Int):=λ h=>by rw [w6]; omega
  have h11' : i - 1<p.table.length:=by omega
  refine zae (zab (zad (rx (s:=?s12) [3,6,7,40,41,42] [] [] rfl ?o12 ?q12)))
  case o12=>simp [h11]; rfl
  refine zaa ⟨65,[(3,.pv (pC p)),(40,ints p.table),(41,.I p.table.length),(42,.I i),(63,.B (decide (¬ zmX p i)))],[],504⟩ rfl ?_ ?_
  .simp
   repeat' first
    | (refine zc8 37 rfl ?_; refine zau (zaJ ..) rfl ?_; simp)
    | (refine zcb (λ hb=>?_) (λ hb=>?_) <;> (try rw [hb]) <;> (try simp at hb) <;> simp [hb,h11,h11',hwp])
   all_goals exact Le.snap [] rfl rfl (by simp; exact wkB (by (try simp at *); grind [zmX]))
  refine zac _ rfl (λ h14=>?_) λ h14=>?_
  .refine rs [4] [] [] ?_
   refine zah ?_;have hn : ¬ zaN g.size p:=λ h=>by simp at h14; exact h14 ((zdw.1 h).2 i)
   exact ⟨.inr rfl,zao.one (by simp [h4,hn])⟩
  simp at h14;refine zae (zam ?_);refine ⟨i+1,⟨h11,λ k hk=>?_⟩,?_,Le.go [] [] rfl rfl (by simp [hw2]) (by simp)⟩
  .rcases QS.1 hk with h | rfl
   .exact hp k h
   .exact h14
  .omega
 simp at h11;have hy : zaN g.size p:=zdw.2 ⟨h7,λ k hk=>hp k (by omega) hk⟩
 refine zai (hit (rs [4] [] [] ?_));exact zah ⟨.inr rfl,zao.one (by simp [h4,hy])⟩
open Classical in
theorem ziD (g : Gr) (p : Pol) (hs : p.seeds.length<=140737488355328) (ht : p.table.length<=140737488355328) :
  AcP 100 [eG g,eP p] [] (.B (decide (zaN g.size p))) []:=by
 refine zk6.s.ac ?_;show awp _ 0 _ _ ⟨79,[(0,eG g),(1,eP p)],[],16⟩;refine rs [2,3] [] [16,24] ?_;refine zab (zaa ⟨79,[(3,.pv (pC p)),(39,.B (decide (¬ zgW g.size p)))],[],312⟩ rfl ?_ ?_)
 .simp
  repeat' first
   | (refine zc8 119 rfl ?_; refine zau (zei _ _ hs) rfl ?_; simp)
   | (refine zcb (λ hb=>?_) (λ hb=>?_) <;> (try rw [hb]) <;> (try simp at hb) <;> simp [hb])
  all_goals exact Le.snap [] rfl rfl (by simp; first | exact wkB (by (try simp at *); grind [zgW]) | exact ⟨by rw [show pC p=[.vs 1 false [],ints p.table,.I p.lv] by simp [pC,ints,hb]]; exact .refl _,wkB (by (try simp at *); grind [zgW])⟩)
 refine zac _ rfl (λ h3=>?_) λ h3=>?_
 .simp at h3
  refine rs [4] [] [] ?_;exact zah ⟨.inr rfl,zao.one (by simp [zdw,h3])⟩
 simp at h3;refine zae (zab (rs [3,5] [] [] ?_));refine zad (zaj (ι:=Nat) (λ i=>⟨79,[(3,.pv (pC p)),(5,.I i)],[],320⟩) (λ i=>i<=p.table.length /\ ∀ k,k<i->zmX p k) (λ i=>p.table.length - i) 0 (by simp) (LeH [] []) ?_)
 rintro i ⟨hi,hp⟩
 refine zab (rs [3,5,44] [] [] ?_);refine zac _ rfl (λ h7=>?_) λ h7=>?_
 .simp at h7
  have hw2 : IntKind.i64.wrap ((i : Int)+1)=(i : Int)+1:=w6;have hwp : 0<i->IntKind.i64.wrap ((i : Int) - 1)=((i - 1 : Nat) : Int):=λ h=>by rw [w6]; omega
  have h7' : i - 1<p.table.length:=by omega
  refine zae (zab (zad (zas ⟨79,[(3,.pv (pC p)),(5,.I i),(78,.B (decide (¬ zmX p i)))],[],616⟩ rfl ?_ ?_)))
  .simp [h7]
   repeat' first
    | (refine zcb (λ hb=>?_) (λ hb=>?_) <;> (try rw [hb]) <;> (try simp at hb) <;> simp [hb,h7,h7',hwp])
   all_goals exact ⟨rfl,Le.snap [] rfl rfl (by simp; exact wkB (by (try simp at *); grind [zmX]))⟩
  refine zac _ rfl (λ h9=>?_) λ h9=>?_
  .refine rs [4] [] [] ?_
   refine zah ?_;have hn : ¬ zaN g.size p:=λ h=>by simp at h9; exact h9 ((zdw.1 h).2 i)
   exact ⟨.inr rfl,zao.one (by simp [hn])⟩
  simp at h9;refine zae (zam ?_);refine ⟨i+1,⟨h7,λ k hk=>?_⟩,?_,Le.go [] [] rfl rfl (by simp [hw2]) (by simp)⟩
  .rcases QS.1 hk with h | rfl
   .exact hp k h
   .exact h9
  .omega
 simp at h7;have hy : zaN g.size p:=zdw.2 ⟨h3,λ k hk=>hp k (by omega) hk⟩
 refine zai (hit (rs [4] [] [] ?_));exact zah ⟨.inr rfl,zao.one (by simp [hy])⟩
open Classical in
theorem zeU (g : Gr) (p : Pol) (hl : g.edges.length<=140737488355328) (hl2 : g.gone.length<=140737488355328) (hs : p.seeds.length<=140737488355328) (ht : p.table.length<=140737488355328) :
  AcP 47 [eG g,eP p] [] (.I (if GrOk g then if zaN g.size p then 0 else 15 else 14)) []:=by
 refine zmt.s.ac ?_;show awp _ 0 _ _ ⟨12,[(0,eG g),(1,eP p)],[],16⟩;refine rs [2,3] [] [16,24] ?_;refine zab (rx (s:=?s2) [2,3,7] [] [] rfl ?o2 ?q2)
 case o2=>simp; refine zau (zeW g hl hl2) (by simp) ?_; simp; rfl
 refine zac _ rfl (λ h3=>?_) λ h3=>?_
 .simp at h3
  refine rs [4] [] [] ?_;exact zah ⟨.inr rfl,zao.one (by simp [h3])⟩
 simp at h3;refine zae (zab (rx (s:=?s5) [11] [] [] rfl ?o5 ?q5))
 case o5=>simp; refine zau (ziD g p hs ht) (by simp) ?_; simp; rfl
 refine zac _ rfl (λ h6=>?_) λ h6=>?_
 .simp at h6
  refine rs [4] [] [] ?_;exact zah ⟨.inr rfl,zao.one (by simp [h3,h6])⟩
 simp at h6;refine zae (rs [4] [] [] ?_);exact zah ⟨.inr rfl,zao.one (by simp [h3,h6])⟩
theorem Le.dn {st st' : St} {D D' : List (List AV)} (N : Nat) (i j i' j' : Nat) (sn : List Nat) (hsz : st'.sz=st.sz) (hh : st'.h=[(i',some ⟨1,[[.rs j' 0 N]],0⟩),(j',some ⟨1,D',0⟩)]) (hi : i'<st'.n) (hj : j'<st'.n) (hij : i≠j) (hij' : i'≠j') (hs : ∀ k∈sn,k≠i/\k≠j)
  (h1 : st.hp i=some ⟨1,[[.rs j 0 N]],0⟩) (h2 : st.hp j=some ⟨1,D,0⟩) (hD : D.map (·.map (conv [(i,i'),(j,j')] sn st.hp 4))=D') (ht : ∀ p∈st'.t,Wk (conv [(i,i'),(j,j')] sn st.hp 4 (st.get p.1)) p.2) : Le 0 st st' :=
 Le.ents [(i,i'),(j,j')] sn hsz (by simpa using hij) (by simpa using hij') (by simp [hi,hj]) (by simpa using hs) (Qi _) ht λ p hp=>by
  rw [hh] at hp;simp at hp;rcases hp with rfl | rfl
  .exact ⟨i,_,_,rfl,by simp,h1,zaA.eq (by simp [hij]) (by simp)⟩
  .exact ⟨j,_,_,rfl,by simp,h2,zaA.eq (by simp only [zaw,hD]) (by simp)⟩
theorem zpu {l : List Int} {lo hi : Int} (h : Rise l lo hi) : ∀ (i : Nat) (hi : i<l.length),lo+i<=l[i]
 | 0,hi=>by have:=(h 0 hi).1; simp; omega
 | i+1,hi=>by
   have h1:=zpu h i (by omega)
   have h2:=(h (i+1) hi).2.2 (by omega)
   simp only [Nat.add_sub_cancel] at h2;omega
theorem GrOk.gone_le {g : Gr} (h : GrOk g) : g.gone.length<=64:=by
 have hr:=h.1.2.2.2;have h1:=h.1.1;have h2:=h.1.2.1;rcases Ui g.gone.length with h0 | h0
 .omega
 .have h3:=zpu hr (g.gone.length - 1) (by omega)
  have h4:=(hr (g.gone.length - 1) (by omega)).2.1
  omega
theorem zoU {l : List Ed} {x t : Int} : t∈outs l x ↔ ∃ e∈l,e.f=x/\e.t=t:=by
 unfold outs;simp only [Vb];constructor
 .rintro ⟨e,he,h⟩
  split at h
  .exact ⟨e,he,by assumption,by simpa using h⟩
  .cases h
 .rintro ⟨e,he,h1,h2⟩
  exact ⟨e,he,by rw [if_pos h1,h2]⟩
theorem zqo {g : Gr} {S : List Int} {d : Nat} {F X : List Int} (hg : GrOk g) (hF : ∀ x,x∈F↔Key g x/\dl g S d x=d) (hX : ∀ t,t∈X ↔ ∃ x∈F,t∈outs g.edges x) (x : Int) :
  x∈X.filter (λ e=>!offQ (outL g S (d+1)) e)↔Key g x/\dl g S (d+1) x=(d+1 : Nat):=by
 rw [Qw,hX];have hlen:=zpw g S (d+1);have hsz:=hg.1.1;constructor
 .rintro ⟨⟨y,hy,hxy⟩,ho⟩
  obtain ⟨e,he,rfl,rfl⟩:=zoU.1 hxy;have hyF:=(hF e.f).1 hy;simp only [offQ,Bool.not_or,Bool.not_not,QT,Qe,hlen] at ho;have hk : Key g e.t:=⟨ho.1.1,by omega⟩
  have h1:=zrS (S:=S) (n:=d) he (by omega)
  refine ⟨hk,?_⟩;have ho2:=ho.2;obtain ⟨k,hk2⟩ : ∃ k : Nat,e.t=k:=⟨e.t.toNat,by have:=hk.1; omega⟩
  rw [hk2] at ho2 h1 ⊢;have hkN : k<g.size.toNat:=by have:=hk.2; omega
  have hget : (outL g S (d+1)).getD k 0=if 0<=dl g S (d+1) k/\dl g S (d+1) k<(d+1 : Nat) then dl g S (d+1) k else -1:=by
   simp [outL,List.getD,hkN]
  simp only [UC,hget] at ho2;simp at ho2;split at ho2 <;> omega
 .rintro ⟨hk,hd⟩
  have h2 : ¬ 0<=dl g S d x:=by
   intro h2;rw [zcZ h2] at hd;have:=za6 (g:=g) (S:=S) d x;omega
  obtain ⟨_,e,he,h4,h5⟩:=zjT (g:=g) (S:=S) (n:=d) (k:=x) (by omega) h2
  have hf:=hg.fits e he;refine ⟨⟨e.f,(hF _).2 ⟨⟨hf.1,by have:=hf.2.1; omega⟩,h5⟩,zoU.2 ⟨e,he,rfl,h4⟩⟩,?_⟩
  obtain ⟨k,rfl⟩ : ∃ k : Nat,x=k:=⟨x.toNat,by have:=hk.1; omega⟩
  have hkN : k<g.size.toNat:=by have:=hk.2; omega
  have hget : (outL g S (d+1)).getD k 0=if 0<=dl g S (d+1) k/\dl g S (d+1) k<(d+1 : Nat) then dl g S (d+1) k else -1:=by
   simp [outL,List.getD,hkN]
  simp only [offQ,UC,hget,hlen];rw [if_neg (by omega)]
  simp;omega
theorem zkB {F : List Int} {i : Nat} (h : i<F.length) (x : Int) : x∈F.take (i+1)↔x∈F.take i++[F[i]]:=by
 rw [<- UH h,Uw]
theorem zcP (g : Gr) (S : List Int) (hg : GrOk g) (hS : S.length<=1099511627776) : AcP 39 [eG g,ints S] [] (.rs 0 0 g.size.toNat) [some ⟨1,zaf (zaW g S),0⟩]:=by
 refine zk1.s.ac ?_;show awp _ 0 _ _ ⟨50,[(0,eG g),(1,ints S)],[],16⟩;have hsz:=hg.1.1;have hsz2:=hg.1.2.1;have h500:=hg.1.2.2.1;have hgone : g.gone.length<=1000000:=QH hg.gone_le (by omega)
 obtain ⟨N,hN⟩ : ∃ N : Nat,N=g.size.toNat:=⟨_,rfl⟩;have hNs : (if 0<g.size then g.size else 0)=(N : Int):=by split <;> omega
 refine zaa ⟨50,[(2,.pv (gC g)),(3,.pv [ints S])],[],40⟩ rfl ?_ ?_
 .simp
  exact Le.snap [16,24] rfl rfl (by simp)
 refine zaa ⟨50,[(2,.pv (gC g)),(3,.pv [ints S]),(5,.pt 80 0 0)],[(80,some ⟨1,[[.rs 72 0 N]],0⟩),(72,some ⟨1,List.replicate N [.I (-1)],0⟩)],96⟩ rfl ?_ ?_
 .simp [hNs]
  refine zq5 (j:=40) (Qi _) rfl (zsv (-1) N (by omega)) ?_ ?_
  .simp
  simp;exact LeK
 have h0 : List.replicate N [AV.I (-1)]=zaf (outL g S 0):=by
  unfold outL zaf;rw [List.map_map];apply List.ext_getElem
  .simp [hN]
  .intro i h1 h2
   simp;omega
 rw [h0];obtain ⟨F0,hF0⟩ : ∃ F,F=zaK N (za4 g S):=⟨_,rfl⟩
 have hF0m : ∀ x,x∈F0↔Key g x/\dl g S 0 x=((0 : Nat) : Int):=by
  intro x;rw [hF0];unfold zaK;simp only [Qw,Qg,QA];constructor
  .rintro ⟨⟨i,hi,rfl⟩,hs⟩
   exact ⟨⟨by omega,by omega⟩,by rw [dl,if_pos hs]; rfl⟩
  .rintro ⟨⟨k1,k2⟩,hs⟩
   refine ⟨⟨x.toNat,by omega,by omega⟩,?_⟩
   rw [dl] at hs;split at hs
   .assumption
   .simp at hs
 have hF0l : F0.length<=500:=by have:=zdz N (za4 g S); rw [hF0]; omega
 refine zaa ⟨50,[(2,.pv (gC g)),(5,.pt 80 0 0),(6,ints F0)],[(80,some ⟨1,[[.rs 72 0 N]],0⟩),(72,some ⟨1,zaf (outL g S 0),0⟩)],136⟩ rfl ?_ ?_
 .simp
  refine cn1 (zeH 79 [.pv (gC g),.pv [ints S]] (za4 g S) g.size (by omega) (λ ρ sn h n=>by simp) (λ k _=>zsd g S k hS (by omega))) ?_
  rw [<- hN,<- hF0];simp [fcd];exact Le.dn N 80 72 80 72 [120] rfl rfl (by simp) (by simp) (by decide) (by decide) (by simp) rfl rfl (by simp [fcd]) (by simp [fcd,zaq])
 refine zab (zaa ⟨50,[(2,.pv (gC g)),(5,.pt 80 0 0),(6,ints F0),(7,.I 0)],[(80,some ⟨1,[[.rs 72 0 N]],0⟩),(72,some ⟨1,zaf (outL g S 0),0⟩)],144⟩ rfl ?_ ?_)
 .simp
  exact LeK
 refine zad (zaj (ι:=Nat × List Int) (λ p=>⟨50,[(2,.pv (gC g)),(5,.pt 80 0 0),(6,ints p.2),(7,.I p.1)],[(80,some ⟨1,[[.rs 72 0 N]],0⟩),(72,some ⟨1,zaf (outL g S p.1),0⟩)],144⟩) (λ p=>p.1<=64/\p.2.length<=500 /\ ∀ x,x∈p.2↔Key g x/\dl g S p.1 x=p.1) (λ p=>64 - p.1) (0,F0) ⟨by simp,hF0l,hF0m⟩ (Le.refl _ _) ?_)
 rintro ⟨d,F⟩ ⟨hd,hFl,hFm⟩
 simp only at hd hFl hFm ⊢;refine zab (zaa ⟨50,[(2,.pv (gC g)),(5,.pt 80 0 0),(6,ints F),(7,.I d),(22,.B (decide (0<F.length)))],[(80,some ⟨1,[[.rs 72 0 N]],0⟩),(72,some ⟨1,zaf (outL g S d),0⟩)],168⟩ rfl ?_ ?_)
 .simp
  exact Le.keep rfl (Ql _) (by simp <;> rw [QE] <;> simp) (by simp)
 refine zac _ rfl (λ h=>zae ?_) λ h=>zai (hit ?_)
 .simp only [Qe] at h
  have hdlt : (d : Int)<g.size:=by
   have:=hFm F[0];have h1:=(this.1 (Qj _));exact zoB hg h1.1 h1.2
  refine zap (ι:=List Int) (λ F'=>⟨50,[(2,.pv (gC g)),(5,.pt 80 0 0),(6,ints F'),(7,.I d)],[(80,some ⟨1,[[.rs 72 0 N]],0⟩),(72,some ⟨1,zaf (outL g S (d+1)),0⟩)],144⟩) (λ F'=>F'.length<=500 /\ ∀ x,x∈F'↔Key g x/\dl g S (d+1) x=(d+1 : Nat)) ?_ ?_
  .refine zad (zaa ⟨50,[(2,.pv (gC g)),(5,.pt 80 0 0),(6,ints F),(7,.I d),(8,.nilS)],[(80,some ⟨1,[[.rs 72 0 N]],0⟩),(72,some ⟨1,zaf (outL g S d),0⟩)],176⟩ rfl ?_ ?_)
   .simp
    exact LeK
   rw [<- zkf];refine zab (zab (zam ?_));refine zad ?_
   let C : Nat × List Int->St:=λ p=>⟨50,[(2,.pv (gC g)),(5,.pt 80 0 0),(7,.I d),(8,.rs 16 0 p.2.length),(25,ints F),(26,.I F.length),(27,.I p.1)],[(80,some ⟨1,[[.rs 72 0 N]],0⟩),(72,some ⟨1,zaf (outP g S d (F.take p.1)),0⟩),(16,some ⟨1,zaf p.2,0⟩)],200⟩
   refine zaj C (λ p : Nat × List Int=>p.1<=F.length/\(∀ t,t∈p.2 ↔ ∃ x∈F.take p.1,t∈outs g.edges x)/\p.2.length=g.edges.countP λ e=>decide (e.f∈F.take p.1)) (λ p : Nat × List Int=>F.length - p.1) (0,[]) ⟨Qi _,by simp,by simp⟩ ?_ ?_
   .refine Le.lst [(80,80),(72,72)] [] [(16,1)] rfl (by simp) (by simp) (by simp [C]) (by simp [C]) (by simp) (by simp) (by simp) (by simp [C,Up]) λ p hp e' he'=>?_
    simp [C] at hp;rcases hp with rfl | rfl | rfl
    .cases he'
     exact .inl ⟨(80,80),by simp,rfl,_,rfl,zaA.eq (by simp) (by simp)⟩
    .cases he'
     exact .inl ⟨(72,72),by simp,rfl,_,rfl,zaA.eq (by simp [fcd,zkf]) (by simp)⟩
    .cases he'
     exact .inr ⟨by simp,by simp,rfl⟩
   rintro ⟨i,X⟩ ⟨hi,hXm,hXl⟩
   simp only at hi hXm hXl ⊢;have hXle : X.length<=500:=by rw [hXl]; exact QH List.countP_le_length h500
   have hC : C (i,X)=⟨50,[(2,.pv (gC g)),(5,.pt 80 0 0),(7,.I d),(8,.rs 16 0 X.length),(25,ints F),(26,.I F.length),(27,.I i)],[(80,some ⟨1,[[.rs 72 0 N]],0⟩),(72,some ⟨1,zaf (outP g S d (F.take i)),0⟩),(16,some ⟨1,zaf X,0⟩)],200⟩:=rfl;rw [hC];refine zaa ⟨50,[(2,.pv (gC g)),(5,.pt 80 0 0),(7,.I d),(8,.rs 16 0 X.length),(25,ints F),(26,.I F.length),(27,.I i),(28,.B (decide (i<F.length)))],[(80,some ⟨1,[[.rs 72 0 N]],0⟩),(72,some ⟨1,zaf (outP g S d (F.take i)),0⟩),(16,some ⟨1,zaf X,0⟩)],208⟩ rfl ?_ ?_
   .simp
    exact LeK
   refine zab (zac _ rfl (λ h2=>zae ?_) λ h2=>zai (hit ?_))
   .simp only [Qe] at h2
    have hx:=(hFm F[i]).1 (Qj h2);obtain ⟨k,hk⟩ : ∃ k : Nat,F[i]=k:=⟨F[i].toNat,by have:=hx.1.1; omega⟩
    have hkN : k<g.size.toNat:=by have:=hx.1.2; omega
    have hkd : dl g S d k=d:=by rw [<- hk]; exact hx.2
    have hmt:=zkB h2;rw [hk] at hmt;refine zap (ι:=List Int) (λ X'=>⟨50,[(2,.pv (gC g)),(5,.pt 80 0 0),(7,.I d),(8,.rs 16 0 X'.length),(25,ints F),(26,.I F.length),(27,.I i)],[(80,some ⟨1,[[.rs 72 0 N]],0⟩),(72,some ⟨1,zaf (outP g S d (F.take (i+1))),0⟩),(16,some ⟨1,zaf X',0⟩)],200⟩) (λ X'=>(∀ t,t∈X' ↔ ∃ x∈F.take (i+1),t∈outs g.edges x)/\X'.length=g.edges.countP λ e=>decide (e.f∈F.take (i+1))) ?_ ?_
    .have hOlen : (outP g S d (F.take i)).length=N:=by rw [zgf,hN]
     have hOget:=ztX (g:=g) (S:=S) (d:=d) (F:=F.take i) hkN hkd
     have hOset0 : zaf ((outP g S d (F.take i)).set k d)=zaf (outP g S d (F.take (i+1))):=by
      rw [zuF hkN hkd]
      congr 1
      exact zoC λ x=>(hmt x).symm
     have hOset : (zaf (outP g S d (F.take i))).set k [AV.I d]=zaf (outP g S d (F.take (i+1))):=by
      rw [<- hOset0,zaf,zaf,List.map_set]
     clear hOset0
     have hrow : (zaf (outP g S d (F.take i)))[k]? = some [AV.I (if (k : Int)∈F.take i then (d : Int) else -1)]:=by
      rw [Qs,Qa (by omega),hOget]
      rfl
     have hOl : (zaf (outP g S d (F.take i))).length=N:=by simp [hOlen]
     generalize hO : zaf (outP g S d (F.take i))=O at *;refine zad (zaa ⟨50,[(2,.pv (gC g)),(5,.pt 80 0 0),(7,.I d),(8,.rs 16 0 X.length),(25,ints F),(26,.I F.length),(27,.I i),(10,.I k)],[(80,some ⟨1,[[.rs 72 0 N]],0⟩),(72,some ⟨1,O,0⟩),(16,some ⟨1,zaf X,0⟩)],232⟩ rfl ?_ ?_)
     .simp [h2,hk]
      exact LeK
     refine zab (zaa ⟨50,[(2,.pv (gC g)),(5,.pt 80 0 0),(7,.I d),(8,.rs 16 0 X.length),(25,ints F),(26,.I F.length),(27,.I i),(10,.I k),(35,.B (decide ((k : Int)∈F.take i)))],[(80,some ⟨1,[[.rs 72 0 N]],0⟩),(72,some ⟨1,O,0⟩),(16,some ⟨1,zaf X,0⟩)],272⟩ rfl ?_ ?_)
     .simp [hrow,show k<N by omega]
      refine Le.keep rfl (Ql _) ?_ (by simp)
      by_cases hin : (k : Int)∈F.take i <;> simp [hin]
     refine zac _ rfl (λ h3=>zai (hit ?_)) λ h3=>zae ?_
     .simp only [Qe] at h3
      have hsame : ∀ x,x∈F.take (i+1)↔x∈F.take i:=by
       intro x;rw [hmt x];simp
       rintro rfl
       exact h3
      refine ⟨X,⟨λ t=>?_,?_⟩,?_⟩
      .rw [hXm]
       simp only [hsame]
      .rw [hXl]
       simp only [hsame]
      .rw [zoC hsame,hO]
       refine Le.ents [(80,80),(72,72),(16,16)] [] rfl (by simp) (by simp) (by simp) (by simp) (by simp) (by simp) λ p hp=>?_
       simp at hp;rcases hp with rfl | rfl | rfl
       .exact ⟨80,_,_,rfl,by simp,rfl,zaA.eq (by simp) (by simp)⟩
       .exact ⟨72,_,_,rfl,by simp,rfl,zaA.eq (by rw [<- hO]; simp [fcd]) (by simp)⟩
       .exact ⟨16,_,_,rfl,by simp,rfl,zaA.eq (by simp [fcd]) (by simp)⟩
     simp only [Qc] at h3;refine zaa ⟨50,[(2,.pv (gC g)),(5,.pt 80 0 0),(7,.I d),(8,.rs 16 0 X.length),(25,ints F),(26,.I F.length),(27,.I i),(10,.I k)],[(80,some ⟨1,[[.rs 72 0 N]],0⟩),(72,some ⟨1,zaf (outP g S d (F.take (i+1))),0⟩),(16,some ⟨1,zaf X,0⟩)],312⟩ rfl ?_ ?_
     .simp [hrow,show k<N by omega,zat]
      exact Le.keep rfl (Ql _) (by simp) (by simp; exact hOset)
     have hcount:=zql (l:=g.edges) h3;have hol:=znk g.edges k;refine zan rfl ?_;simp;refine zdg (zg1 g k (by omega)) rfl ?_
     simp [fcd]
     have hcm : (λ e : Ed=>decide (e.f∈F.take (i+1)))=λ e : Ed=>decide (e.f∈F.take i++[(k : Int)]):=by
      funext e
      simp only [hmt]
     refine ⟨by omega,by omega,X++zes (outs g.edges k),⟨λ t=>?_,?_⟩,?_⟩
     .rw [Qo,zqk,hXm]
      simp only [hmt,Qo,QB];constructor
      .rintro (⟨x,hx,ht⟩ | ht)
       .exact ⟨x,.inl hx,ht⟩
       .exact ⟨k,.inr rfl,ht⟩
      .rintro ⟨x,hx | rfl,ht⟩
       .exact .inl ⟨x,hx,ht⟩
       .exact .inr ht
     .rw [Qh,zgr,hXl,hcm,hcount]
     .have e1 : List.take X.length (zaf X)=zaf X:=Qb (by simp)
      have e2 : List.take (outs g.edges k).length (zaf (zes (outs g.edges k)))=zaf (zes (outs g.edges k)):=Qb (by rw [zaf,Qt,zgr]; exact Ql _)
      have e3 : (X++zes (outs g.edges k)).length=X.length+(outs g.edges k).length:=by rw [Qh,zgr]
      rw [e1,e3];refine Le.ents [(80,80),(72,72),(344,16)] [] rfl (by simp) (by simp) (by simp) (by simp) (by simp) (by simp) λ p hp=>?_
      simp at hp;rcases hp with rfl | rfl | rfl
      .exact ⟨80,_,_,rfl,by simp,rfl,zaA.eq (by simp) (by simp)⟩
      .exact ⟨72,_,_,rfl,by simp,rfl,zaA.eq (by simp [fcd]) (by simp)⟩
      .refine ⟨344,_,_,rfl,by simp,rfl,zaA.eq ?_ (by simp)⟩
       have e4 : zaf X++List.take (outs g.edges k).length (zaf (zes (outs g.edges k)))=zaf X++zaf (zes (outs g.edges k)):=by rw [e2]
       have e5 : (⟨1,zaf X++List.take (outs g.edges k).length (zaf (zes (outs g.edges k))),0⟩ : Ent)=⟨1,zaf X++zaf (zes (outs g.edges k)),0⟩:=by rw [e4]
       refine (congrArg _ e5).trans ?_;simp [fcd]
    rintro X' ⟨k1,k2⟩
    have hwi : IntKind.i64.wrap ((i : Int)+1)=((i+1 : Nat) : Int):=by rw [w6]; omega
    refine zan rfl ?_;simp [hwi];refine ⟨i+1,X',⟨by omega,k1,k2⟩,by omega,Le.ents [(80,80),(72,72),(16,16)] [] rfl (by simp) (by simp) (by simp [C]) (by simp) (by simp [C]) (by simp [C]) λ p hp=>?_⟩
    simp [C] at hp;rcases hp with rfl | rfl | rfl
    .exact ⟨80,_,_,rfl,by simp,rfl,zaA.eq (by simp) (by simp)⟩
    .exact ⟨72,_,_,rfl,by simp,rfl,zaA.eq (by simp [fcd]) (by simp)⟩
    .exact ⟨16,_,_,rfl,by simp,rfl,zaA.eq (by simp [fcd]) (by simp)⟩
   simp only [Qc] at h2;obtain rfl : i=F.length:=by omega
   rw [Qb (Ql _)] at hXm hXl ⊢;rw [zq8 d F hFm];obtain ⟨F',hF'⟩ : ∃ F',F'=X.filter λ e=>!offQ (outL g S (d+1)) e:=⟨_,rfl⟩;have hF'l : F'.length<=X.length:=by rw [hF']; exact QV _ _
   have hDl:=zpw g S (d+1);have hdel:=zjt 83 [.pv [ints (outL g S (d+1))]] (offQ (outL g S (d+1))) X X.length F'.length rfl (by rw [hF']) (by omega) (λ ρ sn h n=>by simp) (λ e _=>zsc (outL g S (d+1)) e (by rw [hDl]; omega))
   rw [<- hF'] at hdel;have htk : List.take N (zaf (outL g S (d+1)))=zaf (outL g S (d+1)):=Qb (by rw [zaf,Qt,hDl]; omega)
   have hle : N<=(zaf (outL g S (d+1))).length:=by rw [zaf,Qt,hDl]; omega
   have hnf:=λ x=>zqo hg hFm hXm x;rw [<- hF'] at hnf;generalize hO : outL g S (d+1)=O at *;refine zan rfl ?_;simp
   refine zu6 (i:=16) [80,72] (by simp) rfl (e':=⟨1,zaf X,0⟩) (by simp [fcd]) hdel (by simp) ?_ (.rs _ _ _) (by
    intro e he;simp at he;subst he
    exact znj) ?_
   .have hle2 : N<=O.length:=by simpa using hle
    have htk2 : List.take N (List.map (λ x=>[AV.I x]) O)=List.map (λ x=>[AV.I x]) O:=htk;simp [fcd,hle2,htk2]
   simp [fcd];refine ⟨F',⟨by omega,hnf⟩,?_⟩
   rw [zkf,hO];exact Le.dn N 80 72 80 72 [16] rfl rfl (by simp) (by simp) (by decide) (by decide) (by simp) rfl rfl (by simp [fcd]) (by simp [fcd,zaq])
  rintro F' ⟨k1,k2⟩
  have hwd : IntKind.i64.wrap ((d : Int)+1)=((d+1 : Nat) : Int):=by rw [w6]; omega
  refine zan rfl ?_;simp [hwd];exact ⟨d+1,F',⟨by omega,k1,k2⟩,by omega,Le.dn N 80 72 80 72 [] rfl rfl (by simp) (by simp) (by decide) (by decide) (by simp) rfl rfl (by simp [fcd]) (by simp)⟩
 simp only [Qc] at h;have hnil : F=[]:=QK (by omega)
 have hstop : ∀ k,Key g k->dl g S d k≠d:=by
  intro k hk he;have:=(hFm k).2 ⟨hk,he⟩;rw [hnil] at this;simp at this
 have hout : outL g S d=zaW g S:=by
  unfold outL zaW;refine QG λ i hi=>?_;simp at hi;have hkey : Key g i:=⟨by omega,by omega⟩
  rw [zlW hg hstop i hkey];have hr:=za6 (g:=g) (S:=S) d i;have:=hstop i hkey;rw [zlW hg hstop i hkey] at this hr;split <;> omega
 rw [hout];refine zab (zam ?_);refine zah ?_;rw [<- hN];exact ⟨.inr rfl,zao.out [72] [] rfl (by simp) (by simp) (by simp) (by simp [fcd])⟩
def dP (g : Gr) (S : List Int) (n i : Nat) (k : Int) : Int:=if 0<=dl g S n k then dl g S n k else if (g.edges.take i).any (λ e=>decide (e.t=k) && decide (dl g S n e.f=n))=true then (n : Int)+1 else -1
variable {g : Gr} {S : List Int}
theorem znr (n : Nat) (k : Int) : dP g S n 0 k=dl g S n k:=by
 unfold dP;have:=za6 (g:=g) (S:=S) n k;split
 .rfl
 .simp; omega
theorem zwI (n : Nat) (k : Int) : dP g S n g.edges.length k=dl g S (n+1) k:=by
 unfold dP;rw [Qb (Ql _),dl]
theorem zyN (n i : Nat) (k : Int) : dP g S n i k=n↔dl g S n k=n:=by
 unfold dP;have:=za6 (g:=g) (S:=S) n k;split
 .exact Iff.rfl
 .split <;> omega
theorem zsS (n i : Nat) (hi : i<g.edges.length) (k : Int) : dP g S n (i+1) k=if dl g S n g.edges[i].f=n/\dP g S n i g.edges[i].t = -1/\k=g.edges[i].t then (n : Int)+1 else dP g S n i k:=by
 have hany : ∀ k,(g.edges.take (i+1)).any (λ e=>decide (e.t=k) && decide (dl g S n e.f=n))=((g.edges.take i).any (λ e=>decide (e.t=k) && decide (dl g S n e.f=n)) || (decide (g.edges[i].t=k) && decide (dl g S n g.edges[i].f=n))):=by
  intro k;rw [<- UH hi,Uw,List.any_append];simp
 unfold dP;rw [hany]
 by_cases h1 : dl g S n g.edges[i].f=n
 .by_cases h2 : k=g.edges[i].t
  .subst h2
   simp only [h1,decide_true,Bool.and_self,Bool.or_true,UY,and_true,true_and];have:=za6 (g:=g) (S:=S) n g.edges[i].t
   by_cases h3 : 0<=dl g S n g.edges[i].t
   .simp only [h3,UY]
    rw [if_neg (by omega)]
   .simp only [h3,Us]
    split <;> simp
  .have h3 : decide (g.edges[i].t=k)=false:=by simpa using λ h=>h2 h.symm
   simp only [h3,h2,Bool.false_and,Bool.or_false,and_false,Us]
 .simp only [h1,decide_false,Bool.and_false,Bool.or_false,false_and,Us]
def zdd (g : Gr) (S : List Int) (k : Nat) : List Int:=(List.range k).map λ (i : Nat)=>dl g S 0 (i : Int)
def midL (g : Gr) (S : List Int) (n i : Nat) : List Int:=(List.range g.size.toNat).map λ (k : Nat)=>dP g S n i (k : Int)
theorem zhz (n i : Nat) : (midL g S n i).length=g.size.toNat:=by simp [midL]
theorem zpG : midL g S 0 0=zdd g S g.size.toNat:=by unfold midL zdd; simp only [znr]
theorem zri (n : Nat) : midL g S n g.edges.length=midL g S (n+1) 0:=by unfold midL; simp only [zwI,znr]
theorem zqL : midL g S g.size.toNat 0=zaW g S:=by unfold midL zaW dist; simp only [znr]
theorem zoD (n i : Nat) {k : Nat} (hk : k<g.size.toNat) : (zaf (midL g S n i))[k]? = some [AV.I (dP g S n i k)]:=by
 simp [midL,hk]
theorem zrg (n i : Nat) (hi : i<g.edges.length) (h : ¬ (dl g S n g.edges[i].f=n/\dP g S n i g.edges[i].t = -1)) : midL g S n (i+1)=midL g S n i:=by
 unfold midL;refine QG λ k _=>?_;rw [zsS n i hi,if_neg]
 rintro ⟨h1,h2,_⟩
 exact h ⟨h1,h2⟩
theorem ztx (n i : Nat) (hi : i<g.edges.length) {k : Nat} (hk : g.edges[i].t=k) (hkN : k<g.size.toNat) (h1 : dl g S n g.edges[i].f=n) (h2 : dP g S n i g.edges[i].t = -1) : (zaf (midL g S n i)).set k [AV.I ((n : Int)+1)]=zaf (midL g S n (i+1)):=by
 have e : (midL g S n i).set k ((n : Int)+1)=midL g S n (i+1):=by
  apply U9;intro j
  by_cases hj : j<g.size.toNat
  .have e1 : (midL g S n (i+1))[j]? = some (dP g S n (i+1) j):=by simp [midL,hj]
   have e2 : (midL g S n i)[j]? = some (dP g S n i j):=by simp [midL,hj]
   rw [UF,e1,e2,zsS n i hi,zhz]
   by_cases hkj : k=j
   .subst hkj
    rw [if_pos rfl,if_pos hkN,if_pos ⟨h1,h2,hk.symm⟩]
   .rw [if_neg hkj,if_neg]
    rintro ⟨_,_,h3⟩
    rw [hk] at h3;omega
  .rw [Q3 (by rw [Uy,zhz]; omega),Q3 (by rw [zhz]; omega)]
 rw [<- e,zaf,zaf,List.map_set]
theorem zod (k : Nat) : zdd g S (k+1)=zdd g S k++[dl g S 0 k]:=by
 unfold zdd;rw [UL,Q4];rfl
theorem Le.l1 {st st' : St} {D : List Int} (i j : Nat) (sn : List Nat) (hsz : st'.sz=st.sz) (hh : st'.h=[(j,some ⟨1,zaf D,0⟩)]) (hj : j<st'.n) (hs : ∀ k∈sn,k≠i) (he : st.hp i=some ⟨1,zaf D,0⟩) (ht : ∀ p∈st'.t,Wk (conv [(i,j)] sn st.hp 4 (st.get p.1)) p.2) : Le 0 st st' :=
 zgi hsz hh hj hs he (by simp [fcd]) (by simp) ht
theorem zdc (g : Gr) (S : List Int) (hg : GrOk g) (hS : S.length<=1099511627776) : AcP 31 [eG g,ints S] [] (.rs 0 0 g.size.toNat) [some ⟨1,zaf (zaW g S),0⟩]:=by
 refine zp2.s.ac ?_;show awp _ 0 _ _ ⟨72,[(0,eG g),(1,ints S)],[],16⟩;have hsz:=hg.1.1;have hsz2:=hg.1.2.1;have h500:=hg.1.2.2.1;have hgone : g.gone.length<=1000000:=QH hg.gone_le (by omega)
 obtain ⟨N,hN⟩ : ∃ N : Nat,N=g.size.toNat:=⟨_,rfl⟩;refine zaa ⟨72,[(1,ints S),(2,.pv (gC g))],[],32⟩ rfl ?_ ?_
 .simp
  exact Le.snap [16] rfl rfl (by simp)
 refine zab (zam ?_);refine zab (zab (zam ?_));refine zad ?_
 let C : Nat->St:=λ k=>⟨72,[(1,ints S),(2,.pv (gC g)),(5,.rs 16 0 k),(6,.I k)],[(16,some ⟨1,zaf (zdd g S k),0⟩)],48⟩
 refine zaj C (λ k=>k<=N) (λ k=>N - k) 0 (Qi _) (Le.lst [] [] [(16,1)] rfl (by simp) (by simp) (by simp) (by simp [C]) (by simp) (by simp) (by simp) (by simp [C,Up]) (by simp [C,zdd])) ?_
 intro k hk;have hCk : C k=⟨72,[(1,ints S),(2,.pv (gC g)),(5,.rs 16 0 k),(6,.I k)],[(16,some ⟨1,zaf (zdd g S k),0⟩)],48⟩:=rfl;rw [hCk];refine zab (zaa ⟨72,[(1,ints S),(2,.pv (gC g)),(5,.rs 16 0 k),(6,.I k),(13,.B (decide ((k : Int)<g.size)))],[(16,some ⟨1,zaf (zdd g S k),0⟩)],80⟩ rfl ?_ ?_)
 .simp
  exact LeK
 refine zac _ rfl (λ h=>zae ?_) λ h=>zai (hit ?_)
 .simp only [Qe] at h
  refine zap (ι:=Unit) (λ _=>⟨72,[(1,ints S),(2,.pv (gC g)),(5,.rs 16 0 (k+1)),(6,.I k)],[(16,some ⟨1,zaf (zdd g S (k+1)),0⟩)],48⟩) (λ _=>True) ?_ λ _ _=>?_
  .rw [zod]
   have hAl : (zdd g S k).length=k:=by simp [zdd]
   generalize zdd g S k=A at *;refine zad (zaa ⟨72,[(1,ints S),(2,.pv (gC g)),(5,.rs 96 0 (k+1)),(6,.I k)],[(96,some ⟨1,zaf A++[[.I (-1)]],0⟩)],112⟩ rfl ?_ ?_)
   .simp [List.replicate,hAl]
    refine ⟨by omega,by omega,?_⟩
    have e1 : List.take k (zaf A)=zaf A:=Qb (by simp [hAl])
    exact zgi (i:=96) (sn:=[]) rfl rfl (by simp) (by simp) rfl (by rw [e1]; simp [fcd]) (by simp) (by simp)
   refine zaa ⟨72,[(1,ints S),(2,.pv (gC g)),(5,.rs 96 0 (k+1)),(6,.I k),(28,.B (za4 g S k))],[(96,some ⟨1,zaf A++[[.I (-1)]],0⟩)],192⟩ rfl ?_ ?_
   .simp
    refine zc8 26 rfl ?_;refine zau (zmf S k (by omega)) rfl ?_
    simp;refine zcb (λ hb=>?_) (λ hb=>?_)
    .simp [hb]
     refine zc8 26 rfl ?_;refine zau (zmf g.gone k (by omega)) rfl ?_
     simp [hb];exact zgi (i:=96) (sn:=[]) rfl rfl (by simp) (by simp) rfl (by simp [fcd]) (by simp) (by simp [za4] <;> exact wkB (by simp_all))
    .simp [hb]
     exact zgi (i:=96) (sn:=[]) rfl rfl (by simp) (by simp) rfl (by simp [fcd]) (by simp) (by simp [za4] <;> exact wkB (by simp_all))
   refine zac _ rfl (λ h5=>?_) λ h5=>zae ?_
   .have h0 : dl g S 0 k=0:=by rw [dl,if_pos h5]
    rw [h0];refine zan rfl ?_
    have hset : (zaf A++[[AV.I (-1)]]).set k [AV.I 0]=zaf A++[[AV.I 0]]:=by
     rw [List.set_append,if_neg (by simp [hAl])]
     simp [hAl]
    have hget : (zaf A++[[AV.I (-1)]])[k]? = some [AV.I (-1)]:=by
     rw [Qr (by simp [hAl])]
     simp [hAl]
    simp [hget,zat,hset];refine ⟨by omega,zgi (i:=96) (sn:=[]) rfl rfl (by simp) (by simp) rfl (by simp [fcd]) (by simp) (by simp)⟩
   .have h0 : dl g S 0 k = -1:=by rw [dl,if_neg (by simp [h5])]
    rw [h0];exact ⟨(),trivial,zgi (i:=96) (sn:=[]) rfl rfl (by simp) (by simp) rfl (by simp [fcd]) (by simp) (by simp)⟩
  have hwk : IntKind.i64.wrap ((k : Int)+1)=((k+1 : Nat) : Int):=by rw [w6]; omega
  refine zan rfl ?_;simp [hwk];exact ⟨k+1,by omega,by omega,Le.l1 16 16 [] rfl rfl (by simp [C]) (by simp) rfl (by simp [C])⟩
 simp only [Qc] at h;obtain rfl : k=N:=by omega
 have hf : zdd g S k=midL g S 0 0:=by rw [zpG,hN]
 rw [hf];refine zab (zaa ⟨72,[(2,.pv (gC g)),(5,.rs 16 0 k),(7,.I 0)],[(16,some ⟨1,zaf (midL g S 0 0),0⟩)],88⟩ rfl ?_ ?_)
 .simp
  exact LeK
 refine zad (zaj (ι:=Nat) (λ n=>⟨72,[(2,.pv (gC g)),(5,.rs 16 0 k),(7,.I n)],[(16,some ⟨1,zaf (midL g S n 0),0⟩)],88⟩) (λ n=>n<=k) (λ n=>k - n) 0 (Qi _) (Le.refl _ _) ?_);intro n hn;refine zab (zaa ⟨72,[(2,.pv (gC g)),(5,.rs 16 0 k),(7,.I n),(35,.B (decide ((n : Int)<g.size)))],[(16,some ⟨1,zaf (midL g S n 0),0⟩)],120⟩ rfl ?_ ?_)
 .simp
  exact LeK
 refine zac _ rfl (λ h=>zae ?_) λ h=>zai (hit ?_)
 .simp only [Qe] at h
  refine zap (ι:=Unit) (λ _=>⟨72,[(2,.pv (gC g)),(5,.rs 16 0 k),(7,.I n)],[(16,some ⟨1,zaf (midL g S (n+1) 0),0⟩)],88⟩) (λ _=>True) ?_ λ _ _=>?_
  .rw [<- zri]
   refine zad (zaa ⟨72,[(2,.pv (gC g)),(5,.rs 16 0 k),(7,.I n),(8,.I 0)],[(16,some ⟨1,zaf (midL g S n 0),0⟩)],128⟩ rfl ?_ ?_)
   .simp
    exact LeK
   refine zad (zaj (ι:=Nat) (λ i=>⟨72,[(2,.pv (gC g)),(5,.rs 16 0 k),(7,.I n),(8,.I i)],[(16,some ⟨1,zaf (midL g S n i),0⟩)],128⟩) (λ i=>i<=g.edges.length) (λ i=>g.edges.length - i) 0 (Qi _) (Le.refl _ _) ?_);intro i hi;refine zab (zaa ⟨72,[(2,.pv (gC g)),(5,.rs 16 0 k),(7,.I n),(8,.I i),(42,.B (decide (i<g.edges.length)))],[(16,some ⟨1,zaf (midL g S n i),0⟩)],168⟩ rfl ?_ ?_)
   .simp
    exact LeK
   refine zac _ rfl (λ h2=>zae ?_) λ h2=>zai (hit ?_)
   .simp only [Qe] at h2
    refine zap (ι:=Unit) (λ _=>⟨72,[(2,.pv (gC g)),(5,.rs 16 0 k),(7,.I n),(8,.I i)],[(16,some ⟨1,zaf (midL g S n (i+1)),0⟩)],128⟩) (λ _=>True) ?_ λ _ _=>?_
    .have hfit:=hg.fits g.edges[i] (Qj h2)
     obtain ⟨a,ha⟩ : ∃ a : Nat,g.edges[i].f=a:=⟨g.edges[i].f.toNat,by have:=hfit.1; omega⟩
     obtain ⟨b,hb⟩ : ∃ b : Nat,g.edges[i].t=b:=⟨g.edges[i].t.toNat,by have:=hfit.2.2.1; omega⟩
     have haN : a<g.size.toNat:=by have:=hfit.2.1; omega
     have hbN : b<g.size.toNat:=by have:=hfit.2.2.2.1; omega
     have hga:=zoD (g:=g) (S:=S) n i haN;have hgb:=zoD (g:=g) (S:=S) n i hbN;have hml : (zaf (midL g S n i)).length=k:=by rw [zaf,Qt,zhz,hN]
     have hsame:=zrg (S:=S) n i h2;have hset:=ztx (S:=S) n i h2 hb hbN;rw [ha] at hsame hset;rw [hb] at hsame hset;have hdat:=zyN (g:=g) (S:=S) n i a;generalize hD1 : dP g S n i a=va at *;generalize hD2 : dP g S n i b=vb at *;generalize hM : zaf (midL g S n i)=M at *;have hwn : IntKind.i64.wrap ((n : Int)+1)=(n : Int)+1:=w6;refine zad (zaa ⟨72,[(2,.pv (gC g)),(5,.rs 16 0 k),(7,.I n),(8,.I i),(9,.pv (eC g.edges[i]))],[(16,some ⟨1,M,0⟩)],128⟩ rfl ?_ ?_)
     .simp [h2]
      exact zgi (i:=16) (sn:=[208]) rfl rfl (by simp) (by simp) rfl (by rw [<- hM]; simp [fcd]) (by simp) (by simp)
     refine zaa ⟨72,[(2,.pv (gC g)),(5,.rs 16 0 k),(7,.I n),(8,.I i),(9,.pv (eC g.edges[i])),(64,.B (decide (va=n/\vb = -1)))],[(16,some ⟨1,M,0⟩)],248⟩ rfl ?_ ?_
     .simp [ha,hb,hga,hgb,show a<k by omega,show b<k by omega]
      refine zcb (λ hx=>?_) (λ hx=>?_)
      .simp [hx,ha,hb,hga,hgb,show a<k by omega,show b<k by omega]
       refine Le.keep rfl (Ql _) (by simp <;> simp_all <;> rw [QE] <;> simp) (by simp)
      .simp [hx]
       refine Le.keep rfl (Ql _) (by simp <;> simp_all) (by simp)
     refine zac _ rfl (λ h5=>?_) λ h5=>zae ?_
     .simp only [Qe] at h5
      have hs2:=hset (hdat.1 h5.1) h5.2;refine zan rfl ?_;simp [ha,hb,hgb,show b<k by omega,zat,hwn,hs2]
      exact Le.l1 16 16 [] rfl rfl (by simp) (by simp) rfl (by simp)
     .simp only [Qc] at h5
      rw [hsame (λ hq=>h5 ⟨hdat.2 hq.1,hq.2⟩),hM];exact ⟨(),trivial,zgi (i:=16) (sn:=[]) rfl rfl (by simp) (by simp) rfl (by rw [<- hM]; simp [fcd]) (by simp) (by simp)⟩
    have hwi : IntKind.i64.wrap ((i : Int)+1)=((i+1 : Nat) : Int):=by rw [w6]; omega
    refine zan rfl ?_;simp [hwi];exact ⟨i+1,by omega,by omega,Le.l1 16 16 [] rfl rfl (by simp) (by simp) rfl (by simp)⟩
   simp only [Qc] at h2;obtain rfl : i=g.edges.length:=by omega
   exact ⟨(),trivial,Le.l1 16 16 [] rfl rfl (by simp) (by simp) rfl (by simp)⟩
  have hwn : IntKind.i64.wrap ((n : Int)+1)=((n+1 : Nat) : Int):=by rw [w6]; omega
  refine zan rfl ?_;simp [hwn];exact ⟨n+1,by omega,by omega,Le.l1 16 16 [] rfl rfl (by simp) (by simp) rfl (by simp)⟩
 simp only [Qc] at h;obtain rfl : n=k:=by omega
 rw [hN,zqL,<- hN];refine zab (zam ?_);exact zah ⟨.inr rfl,zao.out [16] [] rfl (by simp) (by simp) (by simp) (by simp [fcd])⟩
def zcf (c : Int->Int->Int) : List Int->Int->List Int
 | [],x=>[x]
 | y::r,x=>if c x y<0 then y::zcf c r x else x::y::r
def zbP (c : Int->Int->Int) (M : List Int) : List Int:=M.foldl (zcf c) []
def zeO (c : Int->Int->Int) (M : List Int) : List Int:=(zbP c M).reverse
theorem zdS (c : Int->Int->Int) : ∀ (r : List Int) (x : Int),(zcf c r x).Perm (x::r)
 | [],x=>.refl _
 | y::r,x=>by
   unfold zcf;split
   .exact ((zdS c r x).cons y).trans (.swap _ _ _)
   .exact .refl _
theorem zkL (c : Int->Int->Int) (M : List Int) (k : Nat) (h : k<M.length) : zbP c (M.take (k+1))=zcf c (zbP c (M.take k)) M[k]:=by
 unfold zbP;rw [<- UH h,Uw,Vf];rfl
theorem zdJ (c : Int->Int->Int) (M : List Int) : (zbP c M).Perm M:=by
 have key : ∀ (M acc : List Int),(M.foldl (zcf c) acc).Perm (M++acc):=by
  intro M
  induction M with
  | nil=>intro acc; exact .refl _
  | cons x M ih =>
    intro acc;refine (ih _).trans ?_;refine ((zdS c acc x).append_left M).trans ?_;simp only [QO];exact List.perm_middle
 simpa [zbP] using key M []
theorem zgY (c : Int->Int->Int) (M : List Int) : (zbP c M).length=M.length:=(zdJ c M).length_eq
theorem zr5 (c : Int->Int->Int) (x : Int) : zbP c [x]=[x]:=rfl
theorem Le.np1 {st st' : St} {D : List Int} (sn : List Nat) (hsz : st'.sz=st.sz) (hn : 1<=st'.n) (hh : st'.h=[(0,some ⟨1,zaf D,0⟩)]) (hs : ∀ k∈sn,1<=k) (he : st.hp 0=some ⟨1,zaf D,0⟩) (ht : ∀ p∈st'.t,Wk (conv [(0,0)] sn st.hp 4 (st.get p.1)) p.2) : Le 1 st st' :=
 Le.ents [(0,0)] sn hsz (by simp) (by simp) (by simp; omega) (λ k hk=>⟨hs k hk,by have:=hs k hk; simp; omega⟩) hn ht (λ p hp=>by
  rw [hh] at hp;simp at hp;subst hp
  exact ⟨0,_,_,rfl,by simp,he,zaA.eq (by simp [fcd]) (by simp)⟩)
theorem zrx {H T : List Int} {y x : Int} {h : Nat} (hh : H.length=h) : (zaf (H++y::x::T))[h]? = some [AV.I y]/\(zaf (H++y::x::T))[h+1]? = some [AV.I x]:=by
 subst hh;constructor
 .rw [Qs,Qr (by omega)]
  simp
 .rw [Qs,Qr (by omega)]
  simp
theorem zvq {H T : List Int} {y x : Int} {h : Nat} (hh : H.length=h) : ((zaf (H++y::x::T)).set (h+1) [AV.I y]).set h [AV.I x]=zaf (H++x::y::T):=by
 subst hh;simp [zaf,List.set_append]
theorem zme (f : FuncId) (capt : List AV) (c : Int->Int->Int) (A M B : List Int) (n a b : Nat) (hn : (A++M++B).length=n) (ha : A.length=a) (hb : a+M.length=b) (hl : n<=1000000) (hs : zhk capt)
  (hc : ∀ x∈M,∀ y∈M,AcP f (AV.I x::AV.I y::capt) [] (.I (c x y)) []) :
  AcP 169 [.rs 0 0 n,.I a,.I b,.fn (.func f) [] capt] [⟨1,zaf (A++M++B),0⟩] (.tup []) [some ⟨1,zaf (A++zeO c M++B),0⟩]:=by
 have hs2 : ∀ ρ sn h,capt.map (conv ρ sn h 2)=capt:=λ _ _ _=>hs _ _ _ 1
 have hs3 : ∀ ρ sn h,capt.map (conv ρ sn h 3)=capt:=λ _ _ _=>hs _ _ _ 2
 have hs4 : ∀ ρ sn h,capt.map (conv ρ sn h 4)=capt:=λ _ _ _=>hs _ _ _ 3
 refine zcd.s.acalls (nbz rfl) (nbz rfl) (nbz rfl) ?_;show awp _ 1 _ _ ⟨53,[(0,.rs 0 0 n),(1,.I a),(2,.I b),(3,.fn (.func f) [] capt)],[(0,some ⟨1,zaf (A++M++B),0⟩)],16⟩
 have hlen : a+(M.length+B.length)=n:=by
  simp only [Qh] at hn;omega
 have hbn : b<=n:=by omega
 have hwa : IntKind.i64.wrap ((a : Int)+1)=((a+1 : Nat) : Int):=by rw [w6]; omega
 let Lk : Nat->List Int:=λ k=>A++((zbP c (M.take k)).reverse++(M.drop k++B))
 have hL1 : A++M++B=Lk 1:=by
  cases M with
  | nil=>simp [Lk,zbP]
  | cons m M=>simp [Lk,zr5]
 rw [hL1];refine zaa ⟨53,[(0,.rs 0 0 n),(1,.I a),(2,.I b),(3,.fn (.func f) [] capt),(8,.I (a+1 : Nat))],[(0,some ⟨1,zaf (Lk 1),0⟩)],40⟩ rfl ?_ ?_
 .simp [hwa]
  exact LeK
 refine zad (zaj (ι:=Nat) (λ k=>⟨53,[(0,.rs 0 0 n),(1,.I a),(2,.I b),(3,.fn (.func f) [] capt),(8,.I (a+k : Nat))],[(0,some ⟨1,zaf (Lk k),0⟩)],40⟩) (λ k=>1<=k/\k<=M.length+1/\(M.length<=k->zaf (Lk k)=zaf (A++zeO c M++B))) (λ k=>M.length+1 - k) 1 ?_ (Le.refl _ _) ?_)
 .refine ⟨Ql _,by omega,λ h=>?_⟩
  simp only [Lk];rw [Qb h,Um h];simp [zeO]
 rintro k ⟨hk1,hk2,hk3⟩
 refine zab (zaa ⟨53,[(0,.rs 0 0 n),(1,.I a),(2,.I b),(3,.fn (.func f) [] capt),(8,.I (a+k : Nat)),(14,.B (decide (k<M.length)))],[(0,some ⟨1,zaf (Lk k),0⟩)],64⟩ rfl ?_ ?_)
 .simp
  exact Le.keep rfl (Ql _) (by simp <;> omega) (by simp)
 refine zac _ rfl (λ h=>zae ?_) λ h=>zai (hit ?_)
 .simp only [Qe] at h
  refine zap (ι:=Unit) (λ _=>⟨53,[(0,.rs 0 0 n),(1,.I a),(2,.I b),(3,.fn (.func f) [] capt),(8,.I (a+k : Nat))],[(0,some ⟨1,zaf (Lk (k+1)),0⟩)],64⟩) (λ _=>True) ?_ λ _ _=>?_
  .have hx : M[k]∈M:=Qj h
   have hdrop : M.drop k=M[k]::M.drop (k+1):=QQ h;have hsucc:=zkL c M k h;generalize M[k]=x at *;obtain ⟨D,hD⟩ : ∃ D,D=M.drop (k+1)++B:=⟨_,rfl⟩;obtain ⟨R,hR⟩ : ∃ R,R=zbP c (M.take k):=⟨_,rfl⟩
   have hRm : ∀ y∈R,y∈M:=λ y hy=>by
    rw [hR] at hy;exact QY ((zdJ c _).mem_iff.1 hy)
   have hRl : R.length=k:=by rw [hR,zgY]; simp; omega
   have hDl : D.length+k+1=M.length+B.length:=by rw [hD]; simp; omega
   have hLk : Lk k=A++R.reverse++x::D:=by simp only [Lk]; rw [hdrop,<- hR,hD]; simp
   have hLk1 : Lk (k+1)=A++(zcf c R x).reverse++D:=by simp only [Lk]; rw [hsucc,<- hR,hD]; simp
   rw [hLk,hLk1];refine zad (zaa ⟨53,[(0,.rs 0 0 n),(1,.I a),(2,.I b),(3,.fn (.func f) [] capt),(8,.I (a+k : Nat)),(9,.I (a+k : Nat))],[(0,some ⟨1,zaf (A++R.reverse++x::D),0⟩)],80⟩ rfl ?_ ?_)
   .simp
    exact LeK
   refine zad ?_
   let C : List Int × List Int->St:=λ p=>⟨53,[(0,.rs 0 0 n),(1,.I a),(2,.I b),(3,.fn (.func f) [] capt),(8,.I (a+k : Nat)),(9,.I (a+p.2.length : Nat))],[(0,some ⟨1,zaf (A++p.2.reverse++x::(p.1++D)),0⟩)],80⟩
   refine zaj C (λ p : List Int × List Int=>zcf c R x=p.1.reverse++zcf c p.2 x/\p.1.length+p.2.length=k /\ ∀ y∈p.2,y∈M) (λ p : List Int × List Int=>p.2.length) ([],R) ⟨rfl,by simpa using hRl,hRm⟩ ?_ ?_
   .simp only [C,hRl,Q5]
    exact Le.refl _ _
   rintro ⟨U,V⟩ ⟨hins,hUV,hVm⟩
   simp only at hins hUV hVm
   match V,hins,hUV,hVm with
   | [],hins,hUV,hVm =>
     have hC : C (U,[])=⟨53,[(0,.rs 0 0 n),(1,.I a),(2,.I b),(3,.fn (.func f) [] capt),(8,.I (a+k : Nat)),(9,.I a)],[(0,some ⟨1,zaf (A++x::(U++D)),0⟩)],80⟩:=by simp [C]
     rw [hC];refine zab (zas ⟨53,[(0,.rs 0 0 n),(1,.I a),(2,.I b),(3,.fn (.func f) [] capt),(8,.I (a+k : Nat)),(34,.B false)],[(0,some ⟨1,zaf (A++x::(U++D)),0⟩)],216⟩ rfl ?_ ?_)
     .simp
      exact ⟨rfl,LeK⟩
     refine zac _ rfl (λ h=>by cases h) λ h=>zai (hit ?_)
     have e : A++x::(U++D)=A++(zcf c R x).reverse++D:=by rw [hins]; simp [zcf]
     rw [<- e];exact ⟨(),trivial,Le.np1 [] rfl (by simp) rfl (by simp) rfl (by simp [hs2,hs3,hs4])⟩
   | y::V',hins,hUV,hVm =>
     obtain ⟨H,hH⟩ : ∃ H,H=A++V'.reverse:=⟨_,rfl⟩;obtain ⟨T,hT⟩ : ∃ T,T=U++D:=⟨_,rfl⟩;obtain ⟨q,hq⟩ : ∃ q,q=a+V'.length:=⟨_,rfl⟩;obtain ⟨j,hj⟩ : ∃ j,j=q+1:=⟨_,rfl⟩;have hHl : H.length=q:=by rw [hH,hq]; simp; omega
     have hgl : (H++y::x::T).length=n:=by
      have e : (H++y::x::T).length=H.length+(T.length+2):=by simp
      rw [e,hHl,hT,Qh];simp at hUV;omega
     have hg1:=(zrx (T:=T) (y:=y) (x:=x) hHl).1;have hg2:=(zrx (T:=T) (y:=y) (x:=x) hHl).2;have hset:=zvq (T:=T) (y:=y) (x:=x) hHl;rw [<- hj] at hg2 hset
     have hC : C (U,y::V')=⟨53,[(0,.rs 0 0 n),(1,.I a),(2,.I b),(3,.fn (.func f) [] capt),(8,.I (a+k : Nat)),(9,.I j)],[(0,some ⟨1,zaf (H++y::x::T),0⟩)],80⟩:=by
      simp [C,hH,hT,hj,hq,UE]
     rw [hC];have hcy:=hc x hx y (hVm y Qm);have hjn : j<n:=by rw [<- hgl,hj,<- hHl]; simp
     have hwj : IntKind.i64.wrap ((j : Int) - 1)=(q : Int):=by rw [w6]; omega
     have hqn : q<n:=by omega
     have haj : a<j:=by omega
     have hRl2 : (zaf (H++y::x::T)).length=n:=by rw [zaf,Qt,hgl]
     generalize hX : zaf (H++y::x::T)=X at *;have hflat : ∀ ρ sn h m,X.map (List.map (conv ρ sn h (m+1)))=X:=λ ρ sn h m=>by rw [<- hX]; simp [fcd]
     refine zab (zas ⟨53,[(0,.rs 0 0 n),(1,.I a),(2,.I b),(3,.fn (.func f) [] capt),(8,.I (a+k : Nat)),(9,.I j),(34,.B (decide (c x y<0)))],[(0,some ⟨1,X,0⟩)],216⟩ rfl ?_ ?_)
     .simp [haj,hjn,hqn,hg1,hg2,hwj]
      refine zau hcy ?_ ?_
      .simp [hs4]
      simp;exact ⟨rfl,LeK⟩
     refine zac _ rfl (λ h5=>zae ?_) λ h5=>zai (hit ?_)
     .simp only [Qe] at h5
      have hg3 : (X.set j [AV.I y])[q]? = some [AV.I y]:=by
       rw [UF,if_neg (by omega)]
       exact hg1
      generalize hY : zaf (H++x::y::T)=Y at hset;refine zap (ι:=Unit) (λ _=>⟨53,[(0,.rs 0 0 n),(1,.I a),(2,.I b),(3,.fn (.func f) [] capt),(8,.I (a+k : Nat)),(9,.I j)],[(0,some ⟨1,Y,0⟩)],360⟩) (λ _=>True) ?_ λ _ _=>?_
      .refine zad (zaP rfl ?_)
       simp [hjn,hqn,hg1,hg2,hg3,hwj,zat];exact ⟨rfl,Le.keep rfl (Ql _) (by simp) (by simp; exact hset)⟩
      refine zan rfl ?_;simp [hwj];refine ⟨y::U,V',⟨?_,?_,?_⟩,?_,?_⟩
      .rw [hins,zcf,if_pos h5]; simp
      .simp at hUV ⊢; omega
      .exact λ z hz=>hVm z (Qk _ hz)
      .simp
      .have hC2 : C (y::U,V')=⟨53,[(0,.rs 0 0 n),(1,.I a),(2,.I b),(3,.fn (.func f) [] capt),(8,.I (a+k : Nat)),(9,.I q)],[(0,some ⟨1,Y,0⟩)],80⟩:=by rw [<- hY]; simp [C,hH,hT,hq]
       rw [hC2];have hflat2 : ∀ ρ sn h m,Y.map (List.map (conv ρ sn h (m+1)))=Y:=λ ρ sn h m=>by rw [<- hY]; simp [fcd]
       exact Le.ents [(0,0)] [] rfl (by simp) (by simp) (by simp) (by simp) (by simp) (by simp [hs2,hs3,hs4]) λ p hp=>by
        simp at hp;subst hp;exact ⟨0,_,_,rfl,by simp,rfl,zaA.eq (by simp only [zaw,hflat2]) (by simp)⟩
     .simp only [Qc] at h5
      have e : H++y::x::T=A++(zcf c R x).reverse++D:=by rw [hins,zcf,if_neg h5,hH,hT]; simp
      rw [<- e,hX]
      exact ⟨(),trivial,Le.ents [(0,0)] [] rfl (by simp) (by simp) (by simp) (by simp) (by simp) (by simp [hs2,hs3,hs4]) λ p hp=>by
       simp at hp;subst hp
       exact ⟨0,_,_,rfl,by simp,rfl,zaA.eq (by simp only [zaw,hflat]) (by simp)⟩⟩
  have hwk : IntKind.i64.wrap (((a+k : Nat) : Int)+1)=((a+(k+1) : Nat) : Int):=by rw [w6]; omega
  refine zan rfl ?_;have hwk' : IntKind.i64.wrap ((a : Int)+(k : Int)+1)=((a+(k+1) : Nat) : Int):=by rw [<- hwk]; congr 1
  simp [hwk'];refine ⟨k+1,⟨by omega,by omega,λ h2=>?_⟩,by omega,?_⟩
  .have he : M.length=k+1:=by omega
   simp only [Lk];rw [Qb (by omega),Um (by omega)]
   simp [zeO]
  .exact Le.np1 [] rfl (by simp) rfl (by simp) rfl (by simp [hs2,hs3,hs4])
 simp only [Qc] at h;rw [hk3 (by omega)]
 exact ⟨.inl rfl,⟨[],rfl,[],[],by simp [List.range,List.range.loop],by simp,by simp,by simp,by simp [List.range,List.range.loop,fcd]⟩⟩
theorem zrd (f : FuncId) (capt : List AV) (c : Int->Int->Int) (l : List Int) (n : Nat) (hn : l.length=n) (hl : n<20) (hs : zhk capt)
  (hc : ∀ x∈l,∀ y∈l,AcP f (AV.I x::AV.I y::capt) [] (.I (c x y)) []) :
  AcP 134 [.rs 0 0 n,.I n,.fn (.func f) [] capt] [⟨1,zaf l,0⟩] (.tup []) [some ⟨1,zaf (zeO c l),0⟩]:=by
 have hs2 : ∀ ρ sn h,capt.map (conv ρ sn h 2)=capt:=λ _ _ _=>hs _ _ _ 1
 have hs3 : ∀ ρ sn h,capt.map (conv ρ sn h 3)=capt:=λ _ _ _=>hs _ _ _ 2
 have hs4 : ∀ ρ sn h,capt.map (conv ρ sn h 4)=capt:=λ _ _ _=>hs _ _ _ 3
 refine zdk.s.acalls (nbz rfl) (nbz rfl) (nbz rfl) ?_;show awp _ 1 _ _ ⟨63,[(0,.rs 0 0 n),(1,.I n),(2,.fn (.func f) [] capt)],[(0,some ⟨1,zaf l,0⟩)],16⟩;have hins:=zme f capt c [] l [] n 0 n (by simpa using hn) rfl (by simpa using hn) (by omega) hs hc
 simp only [Q5,QX] at hins;refine zab (zam ?_);refine zaa ⟨63,[(0,.rs 0 0 n),(1,.I n),(2,.fn (.func f) [] capt),(6,.I 20),(7,.I 0),(8,.I 20)],[(0,some ⟨1,zaf l,0⟩)],48⟩ rfl ?_ ?_
 .simp
  exact LeK
 refine zab (zad (zaj (ι:=Unit) (λ _=>⟨63,[(0,.rs 0 0 n),(1,.I n),(2,.fn (.func f) [] capt),(6,.I 20),(7,.I 0),(8,.I 20)],[(0,some ⟨1,zaf l,0⟩)],48⟩) (λ _=>True) (λ _=>0) () trivial (Le.refl _ _) ?_));intro _ _;refine zab (zaa ⟨63,[(0,.rs 0 0 n),(1,.I n),(2,.fn (.func f) [] capt),(6,.I 20),(7,.I 0),(8,.I 20),(13,.B false)],[(0,some ⟨1,zaf l,0⟩)],72⟩ rfl ?_ ?_)
 .simp
  exact Le.keep rfl (Ql _) (by simp; omega) (by simp)
 refine zac _ rfl (λ h=>by cases h) λ _=>zai (hit ?_)
 refine zaa ⟨63,[(1,.I n),(6,.I 20)],[(0,some ⟨1,zaf (zeO c l),0⟩)],112⟩ rfl ?_ ?_
 .simp
  refine zaS (i:=0) rfl (e':=⟨1,zaf l,0⟩) (by simp [fcd]) hins (by simp) ?_ ?_
  .simp [hs2,hs3,hs4]
  simp [fcd];exact LeK
 refine zad (zaj (ι:=Unit) (λ _=>⟨63,[(1,.I n),(6,.I 20)],[(0,some ⟨1,zaf (zeO c l),0⟩)],112⟩) (λ _=>True) (λ _=>0) () trivial (Le.refl _ _) ?_);intro _ _;refine zab (zaa ⟨63,[(1,.I n),(6,.I 20),(30,.B false)],[(0,some ⟨1,zaf (zeO c l),0⟩)],136⟩ rfl ?_ ?_)
 .simp
  exact Le.keep rfl (Ql _) (by simp; omega) (by simp)
 refine zac _ rfl (λ h=>by cases h) λ _=>zai (hit ?_)
 exact ⟨.inl rfl,⟨[],rfl,[],[],by simp [List.range,List.range.loop],by simp,by simp,by simp,by simp [List.range,List.range.loop,fcd]⟩⟩
theorem zko (f : FuncId) (capt : List AV) (c : Int->Int->Int) (l : List Int) (n : Nat) (hn : l.length=n) (hl : n<20) (hs : zhk capt)
  (hc : ∀ x∈l,∀ y∈l,AcP f (AV.I x::AV.I y::capt) [] (.I (c x y)) []) :
  AcP 89 [.rs 0 0 n,.fn (.func f) [] capt] [⟨1,zaf l,0⟩] (.tup []) [some ⟨1,zaf (zeO c l),0⟩]:=by
 have hs2 : ∀ ρ sn h,capt.map (conv ρ sn h 2)=capt:=λ _ _ _=>hs _ _ _ 1
 have hs3 : ∀ ρ sn h,capt.map (conv ρ sn h 3)=capt:=λ _ _ _=>hs _ _ _ 2
 have hs4 : ∀ ρ sn h,capt.map (conv ρ sn h 4)=capt:=λ _ _ _=>hs _ _ _ 3
 refine zcm.s.acalls (nbz rfl) (nbz rfl) (nbz rfl) ?_;show awp _ 1 _ _ ⟨9,[(0,.rs 0 0 n),(1,.fn (.func f) [] capt)],[(0,some ⟨1,zaf l,0⟩)],16⟩;refine zal (s:=?s1) rfl ?o1 ?q1
 case o1 =>
  simp;refine zaS (i:=0) rfl (e':=⟨1,zaf l,0⟩) (by simp [fcd]) (zrd f capt c l n hn hl hs hc) (by simp) ?_ ?_
  .simp [hs2,hs3,hs4]
  simp [fcd];rfl
 exact ⟨.inl rfl,⟨[],rfl,[],[],by simp [List.range,List.range.loop],by simp,by simp,by simp,by simp [List.range,List.range.loop,fcd]⟩⟩
theorem zoa (D : List Int) (k : Nat) (hk : k<D.length) : AcP 88 [.I k,.pv [ints D]] [] (.B (decide (0<=D.getD k 0))) []:=by
 refine zga.s.ac ?_;show awp _ 0 _ _ ⟨9,[(0,.I k),(1,.pv [ints D])],[],16⟩;refine zab (zam ?_);refine zab (zal (s:=?s1) rfl ?o1 ?q1)
 case o1=>simp [hk]; rfl
 exact zah ⟨.inr rfl,zao.one (by simp [hk])⟩
theorem znI (D : List Int) (a b : Nat) (ha : a<D.length) (hb : b<D.length) : AcP 90 [.I a,.I b,.pv [ints D]] [] (.I (cmpI (D.getD a 0) (D.getD b 0))) []:=by
 refine zf1.s.ac ?_;show awp _ 0 _ _ ⟨15,[(0,.I a),(1,.I b),(2,.pv [ints D])],[],16⟩;refine zab (zam ?_);refine zab (zdU (s:=?s1) (tr:=?t1) rfl ?o1 ?r1 ?q1)
 case o1=>simp [ha,hb]; refine zau (zgk ..) rfl ?_; simp; constructor <;> rfl
 case r1=>rfl
 exact zah ⟨.inr rfl,zao.one (by simp [ha,hb])⟩
variable {g : Gr} {S : List Int}
theorem ziF {k : Nat} (hk : k<g.size.toNat) : (zaW g S).getD k 0=dist g S k:=by simp [zaW,List.getD,hk]
theorem zdt : (zaW g S).length=g.size.toNat:=by simp [zaW]
def Lt (g : Gr) (S : List Int) (a b : Int) : Prop:=dist g S a<dist g S b∨dist g S a=dist g S b/\a<b
def cD (g : Gr) (S : List Int) (a b : Int) : Int:=cmpI (dist g S a) (dist g S b)
def ordN (g : Gr) (S : List Int) : Nat->List Int
 | 0=>[]
 | m+1=>ordN g S m++zaK g.size.toNat λ k=>decide (dist g S k=m)
def ordL (g : Gr) (S : List Int) : List Int:=ordN g S g.size.toNat
theorem zcl {n : Nat} {q : Int->Bool} {x : Int} : x∈zaK n q↔(0<=x/\x<n)/\q x=true:=by
 unfold zaK;simp only [Qw,Qg,QA];constructor
 .rintro ⟨⟨i,hi,rfl⟩,h⟩
  exact ⟨⟨by omega,by omega⟩,h⟩
 .rintro ⟨⟨h1,h2⟩,h⟩
  exact ⟨⟨x.toNat,by omega,by omega⟩,h⟩
theorem zdQ (n : Nat) (q : Int->Bool) : (zaK n q).Pairwise (· < ·):=by
 unfold zaK;refine List.Pairwise.filter _ ?_;rw [U2];exact List.pairwise_lt_range.imp λ h=>by omega
theorem zfT {m : Nat} {x : Int} : x∈ordN g S m↔(0<=x/\x<g.size.toNat)/\0<=dist g S x/\dist g S x<m:=by
 induction m with
 | zero=>simp [ordN] <;> omega
 | succ m ih =>
   rw [ordN,Qo,ih,zcl];simp only [Qe];constructor
   .rintro (⟨h1,h2,h3⟩ | ⟨h1,h2⟩)
    .exact ⟨h1,h2,by omega⟩
    .exact ⟨h1,by omega,by omega⟩
   .rintro ⟨h1,h2,h3⟩
    by_cases h4 : dist g S x=m
    .exact .inr ⟨h1,h4⟩
    .exact .inl ⟨h1,h2,by omega⟩
theorem zm1 (m : Nat) : (ordN g S m).Pairwise (Lt g S):=by
 induction m with
 | zero=>exact .nil
 | succ m ih =>
   rw [ordN,Vd];refine ⟨ih,?_,λ a ha b hb=>?_⟩
   .refine (zdQ _ _).imp_of_mem λ {a b} ha hb hab=>?_
    have h1:=(zcl.1 ha).2;have h2:=(zcl.1 hb).2;simp at h1 h2;exact .inr ⟨by omega,hab⟩
   .have h1:=zfT.1 ha
    have h2:=(zcl.1 hb).2;simp at h2;exact .inl (by omega)
theorem zuP {a b : Int} : cD g S a b<0↔dist g S a<dist g S b:=by
 simp only [cD,cmpI]
 grind
theorem ziZ : ∀ (r : List Int) (x : Int),r.Pairwise (λ a b=>Lt g S b a)->(∀ y∈r,y<x)->(zcf (cD g S) r x).Pairwise λ a b=>Lt g S b a
 | [],x,_,_=>by simp [zcf]
 | y::r,x,hp,hx=>by
   unfold zcf;rw [Ur] at hp;split
   .rename_i h
    rw [zuP] at h;rw [Ur];refine ⟨λ z hz=>?_,ziZ r x hp.2 λ z hz=>hx z (Qk _ hz)⟩;have:=(zdS (cD g S) r x).mem_iff.1 hz;rcases Qu.1 this with rfl | hz
    .exact .inl h
    .exact hp.1 z hz
   .rename_i h
    rw [zuP] at h;rw [Ur,Ur];have hyx:=hx y Qm;refine ⟨λ z hz=>?_,hp.1,hp.2⟩;rcases Qu.1 hz with rfl | hz
    .unfold Lt; omega
    .have h1:=hp.1 z hz
     have h2:=hx z (Qk _ hz);unfold Lt at *;omega
theorem zpZ {l : List Int} (h : l.Pairwise (· < ·)) : (zeO (cD g S) l).Pairwise (Lt g S):=by
 have key : ∀ (l acc : List Int),l.Pairwise (· < ·)->acc.Pairwise (λ a b=>Lt g S b a)->(∀ y∈acc,∀ x∈l,y<x)->(l.foldl (zcf (cD g S)) acc).Pairwise λ a b=>Lt g S b a:=by
  intro l
  induction l with
  | nil=>intro acc _ h _; exact h
  | cons x l ih =>
    intro acc hl hacc hlt;rw [Ur] at hl;refine ih _ hl.2 (ziZ acc x hacc λ y hy=>hlt y hy x Qm) λ y hy z hz=>?_;have:=(zdS (cD g S) acc x).mem_iff.1 hy;rcases Qu.1 this with rfl | hy
    .exact hl.1 z hz
    .exact hlt y hy z (Qk _ hz)
 unfold zeO zbP;rw [List.pairwise_reverse];exact key l [] h .nil (by simp)
theorem zf7 {R : Int->Int->Prop} (hR : ∀ a b,R a b->¬ R b a) : ∀ {l1 l2 : List Int},l1.Pairwise R->l2.Pairwise R->(∀ x,x∈l1↔x∈l2)->l1=l2
 | [],[],_,_,_=>rfl
 | [],b::l2,_,_,h=>absurd ((h b).2 Qm) (by simp)
 | a::l1,[],_,_,h=>absurd ((h a).1 Qm) (by simp)
 | a::l1,b::l2,h1,h2,h=>by
   rw [Ur] at h1 h2
   have hab : a=b:=by
    rcases Qu.1 ((h a).1 Qm) with e | ha
    .exact e
    .rcases Qu.1 ((h b).2 Qm) with e | hb
     .exact e.symm
     .exact absurd (h1.1 b hb) (hR _ _ (h2.1 a ha))
   subst hab
   congr 1
   refine zf7 hR h1.2 h2.2 λ x=>?_;constructor
   .intro hx
    rcases Qu.1 ((h x).1 (Qk _ hx)) with rfl | hx2
    .exact absurd (h1.1 x hx) (λ q=>hR _ _ q q)
    .exact hx2
   .intro hx
    rcases Qu.1 ((h x).2 (Qk _ hx)) with rfl | hx2
    .exact absurd (h2.1 x hx) (λ q=>hR _ _ q q)
    .exact hx2
theorem zuH (hg : GrOk g) : zeO (cD g S) (zaK g.size.toNat λ k=>decide (0<=dist g S k))=ordL g S:=by
 refine zf7 (R:=Lt g S) (λ a b h1 h2=>by unfold Lt at *; omega) (zpZ (zdQ _ _)) (zm1 _) λ x=>?_
 have hp : x∈zeO (cD g S) (zaK g.size.toNat λ k=>decide (0<=dist g S k))↔x∈zaK g.size.toNat λ k=>decide (0<=dist g S k):=by
  unfold zeO;rw [List.mem_reverse];exact (zdJ _ _).mem_iff
 rw [hp,zcl];have hm:=zfT (g:=g) (S:=S) (m:=g.size.toNat) (x:=x);unfold ordL;rw [hm];simp only [Qe];constructor
 .rintro ⟨h1,h2⟩
  refine ⟨h1,h2,?_⟩;rcases zn2 hg (S:=S) (k:=x) ⟨h1.1,by omega⟩ with h | h <;> omega
 .rintro ⟨h1,h2,_⟩
  exact ⟨h1,h2⟩
section
variable {P : Program} {np id : Nat} {h : Nat->Option Ent} {K : AV->List Nat->List (Nat × Option Ent)->Prop} {f : FuncId} {first capt args args' : List AV} {res : AV}
theorem zdO (sn : List Nat) {e : Ent} (hc : zaU P f args' [] res [some e]) (he : (first++args++capt).map (conv [] sn h 4)=args') (hp : Plain res) (hpe : zf0 e)
  (hk : K (conv (swp [] id) [] (λ _=>none) 4 res) sn [(id,some (zaw (swp [] id) [] (λ _=>none) 4 e))]) : aK P np id .call (.fn (.func f) first capt::args) h K :=
 ⟨[],sn,false,args',[],res,[some e],by simp,by simp,by simp,by rw [List.zipIdx_nil,he]; exact zbu _,rfl,hc,by simp,.inr ⟨hp,λ e' he'=>by simp at he'; subst he'; exact hpe⟩,by simpa [swp] using hk⟩
end
theorem zm9 {l : List Int} : zf0 ⟨1,zaf l,0⟩:=by
 intro row hrow x hx;simp only [Qg] at hrow;obtain ⟨y,_,rfl⟩:=hrow;simp at hx;subst hx;exact .sc _
variable {g : Gr} {S : List Int}
theorem zcj (hg : GrOk g) (hN : g.size<20) (hS : S.length<=1099511627776) : AcP 44 [eG g,ints S] [] (.rs 0 0 (ordL g S).length) [some ⟨1,zaf (ordL g S),0⟩]:=by
 refine zhR.s.ac ?_;show awp _ 0 _ _ ⟨18,[(0,eG g),(1,ints S)],[],16⟩;have hsz:=hg.1.1;obtain ⟨N,hNe⟩ : ∃ N : Nat,N=g.size.toNat:=⟨_,rfl⟩;have hall:=zcP g S hg hS;have hDl : (zaW g S).length=N:=by rw [zdt,hNe]
 have hDg : ∀ k : Nat,k<N->(zaW g S).getD k 0=dist g S k:=λ k hk=>ziF (by omega)
 rw [<- hNe] at hall;obtain ⟨D,hD⟩ : ∃ D,D=zaW g S:=⟨_,rfl⟩;rw [<- hD] at hall hDl hDg;obtain ⟨W,hW⟩ : ∃ W,W=zaK N λ k=>decide (0<=dist g S k):=⟨_,rfl⟩;have hWl : W.length<=N:=by rw [hW]; exact zdz _ _
 have hWm : ∀ x∈W,0<=x/\x<N:=λ x hx=>by rw [hW] at hx; exact (zcl.1 hx).1
 have hwhere : AcP 41 [.I N,.fn (.func 88) [] [.pv [ints D]]] [] (.rs 0 0 W.length) [some ⟨1,zaf W,0⟩]:=by
  have:=zeH 88 [.pv [ints D]] (λ k=>decide (0<=dist g S k)) N (by omega) (λ ρ sn h n=>by simp) (λ k hk=>by
   have h1:=zoa D k (by omega)
   rw [hDg k (by omega)] at h1
   exact h1)
  simpa [<- hW] using this
 have hsort:=zko 90 [.pv [ints D]] (cD g S) W W.length rfl (by omega) (λ ρ sn h n=>by simp) (λ x hx y hy=>by
  obtain ⟨a,ha⟩ : ∃ a : Nat,x=a:=⟨x.toNat,by have:=hWm x hx; omega⟩
  obtain ⟨b,hb⟩ : ∃ b : Nat,y=b:=⟨y.toNat,by have:=hWm y hy; omega⟩
  have h1:=hWm x hx;have h2:=hWm y hy;subst ha hb;have h3:=znI D a b (by omega) (by omega)
  rw [hDg a (by omega),hDg b (by omega)] at h3
  exact h3)
 have hord : zeO (cD g S) W=ordL g S:=by rw [hW,hNe]; exact zuH hg
 have hol : (ordL g S).length=W.length:=by
  rw [<- hord];unfold zeO;rw [List.length_reverse,zgY]
 rw [hord] at hsort;have htk : List.take N (zaf D)=zaf D:=Qb (by simp [hDl])
 have hRl : (zaf D).length=N:=by simp [hDl]
 refine zaa ⟨18,[(1,ints S),(2,.pv (gC g))],[],32⟩ rfl ?_ ?_
 .simp
  exact Le.snap [16] rfl rfl (by simp)
 refine zaa ⟨18,[(5,.pv [ints D])],[],72⟩ rfl ?_ ?_
 .simp
  refine zdg hall rfl ?_;simp [fcd];exact Le.snap [48,56] rfl rfl (by simp [fcd,<- hDl,zaq])
 refine zaa ⟨18,[(5,.pv [ints D]),(6,.rs 96 0 W.length)],[(96,some ⟨1,zaf W,0⟩)],112⟩ rfl ?_ ?_
 .simp [hDl]
  refine cn1 hwhere ?_;simp [fcd];exact LeK
 rw [hol];refine zaa ⟨18,[(6,.rs 96 0 W.length)],[(96,some ⟨1,zaf (ordL g S),0⟩)],136⟩ rfl ?_ ?_
 .simp
  refine zaS (i:=96) rfl (e':=⟨1,zaf W,0⟩) (by simp [fcd]) hsort (by simp) (by simp) ?_
  simp [fcd];exact LeK
 refine zab (zam ?_);exact zah ⟨.inr rfl,zao.out [96] [] rfl (by simp) (by simp) (by simp) (by simp [fcd])⟩
theorem zeX (hg : GrOk g) (hS : S.length<=1099511627776) : AcP 30 [eG g,ints S] [] (.rs 0 0 (ordL g S).length) [some ⟨1,zaf (ordL g S),0⟩]:=by
 refine zlN.s.ac ?_;show awp _ 0 _ _ ⟨35,[(0,eG g),(1,ints S)],[],16⟩;have hsz:=hg.1.1;have hsz2:=hg.1.2.1;obtain ⟨N,hNe⟩ : ∃ N : Nat,N=g.size.toNat:=⟨_,rfl⟩;have hall:=zdc g S hg hS;have hDl : (zaW g S).length=N:=by rw [zdt,hNe]
 have hDg : ∀ k : Nat,k<N->(zaf (zaW g S))[k]? = some [AV.I (dist g S k)]:=λ k hk=>by simp [zaW,show k<g.size.toNat by omega]
 rw [<- hNe] at hall;obtain ⟨D,hD⟩ : ∃ D,D=zaW g S:=⟨_,rfl⟩;rw [<- hD] at hall hDl hDg;refine zaa ⟨35,[(1,ints S),(2,.pv (gC g))],[],32⟩ rfl ?_ ?_
 .simp
  exact Le.snap [16] rfl rfl (by simp)
 refine zaa ⟨35,[(2,.pv (gC g)),(5,ints D)],[],64⟩ rfl ?_ ?_
 .simp
  refine zdg hall rfl ?_;simp [fcd];exact Le.snap [48] rfl rfl (by simp [fcd,<- hDl,zaq])
 refine zab (zam ?_);refine zab (zab (zam ?_));refine zad ?_
 have hcount : ∀ n k : Nat,n<=N->k<=N->(ordN g S n++zaK k λ x=>decide (dist g S x=n)).length<=100000:=by
  intro n k hn hk
  have h1 : ∀ m : Nat,m<=64->(ordN g S m).length<=m*64:=by
   intro m
   induction m with
   | zero=>intro _; simp [ordN]
   | succ m ih =>
     intro hm;rw [ordN,Qh];have:=ih (by omega)
     have:=zdz g.size.toNat λ k=>decide (dist g S k=m);omega
  have:=h1 n (by omega)
  have:=zdz k λ x=>decide (dist g S x=n);rw [Qh];omega
 let T : Nat->Nat->List Int:=λ n k=>ordN g S n++zaK k λ x=>decide (dist g S x=n)
 have hT0 : ∀ n,T n 0=ordN g S n:=λ n=>by simp [T,zaK]
 have hTN : ∀ n,T n N=ordN g S (n+1):=λ n=>by simp only [T]; rw [hNe]; rfl
 let C : Nat->St:=λ n=>⟨35,[(2,.pv (gC g)),(5,ints D),(6,.rs 16 0 (ordN g S n).length),(7,.I n)],[(16,some ⟨1,zaf (ordN g S n),0⟩)],80⟩
 refine zaj C (λ n=>n<=N) (λ n=>N - n) 0 (Qi _) (Le.lst [] [] [(16,1)] rfl (by simp) (by simp) (by simp) (by simp [C]) (by simp) (by simp) (by simp) (by simp [C,Up,ordN]) (by simp [C,ordN])) ?_
 intro n hn;have hCn : C n=⟨35,[(2,.pv (gC g)),(5,ints D),(6,.rs 16 0 (ordN g S n).length),(7,.I n)],[(16,some ⟨1,zaf (ordN g S n),0⟩)],80⟩:=rfl;rw [hCn];refine zab (zaa ⟨35,[(2,.pv (gC g)),(5,ints D),(6,.rs 16 0 (ordN g S n).length),(7,.I n),(15,.B (decide ((n : Int)<g.size)))],[(16,some ⟨1,zaf (ordN g S n),0⟩)],112⟩ rfl ?_ ?_)
 .simp
  exact LeK
 refine zac _ rfl (λ h=>zae ?_) λ h=>zai (hit ?_)
 .simp only [Qe] at h
  refine zap (ι:=Unit) (λ _=>⟨35,[(2,.pv (gC g)),(5,ints D),(6,.rs 16 0 (ordN g S (n+1)).length),(7,.I n)],[(16,some ⟨1,zaf (ordN g S (n+1)),0⟩)],80⟩) (λ _=>True) ?_ λ _ _=>?_
  .rw [<- hT0 n,<- hTN n]
   refine zad (zaa ⟨35,[(2,.pv (gC g)),(5,ints D),(6,.rs 16 0 (T n 0).length),(7,.I n),(8,.I 0)],[(16,some ⟨1,zaf (T n 0),0⟩)],120⟩ rfl ?_ ?_)
   .simp
    exact LeK
   refine zad (zaj (ι:=Nat) (λ k=>⟨35,[(2,.pv (gC g)),(5,ints D),(6,.rs 16 0 (T n k).length),(7,.I n),(8,.I k)],[(16,some ⟨1,zaf (T n k),0⟩)],120⟩) (λ k=>k<=N) (λ k=>N - k) 0 (Qi _) (Le.refl _ _) ?_);intro k hk;have hTl:=hcount n k (by omega) hk
   have hTs : T n (k+1)=T n k++if dist g S k=n then [(k : Int)] else []:=by
    simp only [T];rw [ziX,Qx]
    congr 2
    by_cases hq : dist g S k=n <;> simp [hq]
   have hTe : T n k=ordN g S n++zaK k λ x=>decide (dist g S x=n):=rfl;rw [<- hTe] at hTl;refine zab (zaa ⟨35,[(2,.pv (gC g)),(5,ints D),(6,.rs 16 0 (T n k).length),(7,.I n),(8,.I k),(21,.B (decide ((k : Int)<g.size)))],[(16,some ⟨1,zaf (T n k),0⟩)],152⟩ rfl ?_ ?_)
   .simp
    exact LeK
   refine zac _ rfl (λ h2=>zae ?_) λ h2=>zai (hit ?_)
   .simp only [Qe] at h2
    have hkN : k<N:=by omega
    have hget:=hDg k hkN;refine zap (ι:=Unit) (λ _=>⟨35,[(2,.pv (gC g)),(5,ints D),(6,.rs 16 0 (T n (k+1)).length),(7,.I n),(8,.I k)],[(16,some ⟨1,zaf (T n (k+1)),0⟩)],120⟩) (λ _=>True) ?_ λ _ _=>?_
    .rw [hTs]
     generalize T n k=A at *;refine zad (zaa ⟨35,[(2,.pv (gC g)),(5,ints D),(6,.rs 16 0 A.length),(7,.I n),(8,.I k),(29,.B (decide (dist g S k=n)))],[(16,some ⟨1,zaf A,0⟩)],200⟩ rfl ?_ ?_)
     .simp only [zwC,Qn,Uz]
      simp
      have hget2 : D[k]? = some (dist g S k):=by
       have:=hget;rw [zaf,Qs] at this
       cases hq : D[k]? with
       | none=>rw [hq] at this; simp at this
       | some v=>rw [hq] at this; simp at this; rw [this]
      simp [hget2];exact Le.keep rfl (Ql _) (by simp <;> rw [QE] <;> simp) (by simp)
     refine zac _ rfl (λ h5=>?_) λ h5=>zae ?_
     .simp only [Qe] at h5
      rw [if_pos h5];refine zan rfl ?_;simp [List.replicate];refine ⟨by omega,by omega,zgi (i:=224) (sn:=[]) rfl rfl (by simp) (by simp) rfl (by simp [fcd,zaq]) (by simp) (by simp)⟩
     .simp only [Qc] at h5
      rw [if_neg h5,QX];exact ⟨(),trivial,Le.l1 16 16 [] rfl rfl (by simp) (by simp) rfl (by simp)⟩
    have hwk : IntKind.i64.wrap ((k : Int)+1)=((k+1 : Nat) : Int):=by rw [w6]; omega
    refine zan rfl ?_;simp [hwk];exact ⟨k+1,by omega,by omega,Le.l1 16 16 [] rfl rfl (by simp) (by simp) rfl (by simp)⟩
   simp only [Qc] at h2;obtain rfl : k=N:=by omega
   exact ⟨(),trivial,Le.l1 16 16 [] rfl rfl (by simp) (by simp) rfl (by simp)⟩
  have hwn : IntKind.i64.wrap ((n : Int)+1)=((n+1 : Nat) : Int):=by rw [w6]; omega
  refine zan rfl ?_;simp [hwn];exact ⟨n+1,by omega,by omega,Le.l1 16 16 [] rfl rfl (by simp [C]) (by simp) rfl (by simp [C])⟩
 simp only [Qc] at h;obtain rfl : n=N:=by omega
 have hfin : ordN g S n=ordL g S:=by rw [hNe]; rfl
 rw [hfin];refine zab (zam ?_);exact zah ⟨.inr rfl,zao.out [16] [] rfl (by simp) (by simp) (by simp) (by simp [fcd])⟩
def sumF (φ : Ed->Int->Int) : List Ed->List Int->Int
 | e::A,v::f=>φ e v+sumF φ A f
 | _,_=>0
def outF (A : List Ed) (f : List Int) (x : Int) : Int:=sumF (λ e v=>if e.f=x then v else 0) A f
def inF (A : List Ed) (f : List Int) (x : Int) : Int:=sumF (λ e v=>if e.t=x then v else 0) A f
structure zcV (N : Nat) (A : List Ed) : Prop where
 two : 2<=N
 arc : ∀ e∈A,0<=e.f/\e.f<N/\0<=e.t/\e.t<N/\e.f≠e.t/\e.t≠0/\e.f≠1/\0<=e.v
def Fit2 : List Ed->List Int->Prop
 | e::A,v::f=>(0<=v/\v<=e.v)/\Fit2 A f
 | [],[]=>True
 | _,_=>False
structure zaF (N : Nat) (A : List Ed) (f : List Int) : Prop where
 fit : Fit2 A f
 bal : ∀ x : Nat,2<=x->x<N->outF A f x=inF A f x
def valF (A : List Ed) (f : List Int) : Int:=outF A f 0
theorem Fit2.len : ∀ {A : List Ed} {f : List Int},Fit2 A f->f.length=A.length
 | [],[],_=>rfl
 | _::_,_::_,h=>by simp [h.2.len]
 | [],_::_,h=>h.elim
 | _::_,[],h=>h.elim
theorem zpv (φ ψ : Ed->Int->Int) : ∀ (A : List Ed) (f : List Int),sumF (λ e v=>φ e v+ψ e v) A f=sumF φ A f+sumF ψ A f
 | [],_=>by simp [sumF]
 | _::_,[]=>by simp [sumF]
 | e::A,v::f=>by
   simp only [sumF];rw [zpv φ ψ A f];omega
theorem zkY (φ ψ : Ed->Int->Int) : ∀ (A : List Ed) (f : List Int),sumF (λ e v=>φ e v - ψ e v) A f=sumF φ A f - sumF ψ A f
 | [],_=>by simp [sumF]
 | _::_,[]=>by simp [sumF]
 | e::A,v::f=>by
   simp only [sumF];rw [zkY φ ψ A f];omega
theorem zcp {φ ψ : Ed->Int->Int} : ∀ {A : List Ed} {f : List Int},(∀ e∈A,∀ v,φ e v=ψ e v)->sumF φ A f=sumF ψ A f
 | [],_,_=>by simp [sumF]
 | _::_,[],_=>by simp [sumF]
 | e::A,v::f,h=>by
   simp only [sumF];rw [h e Qm v,zcp λ x hx=>h x (Qk _ hx)]
theorem zdE : ∀ {A : List Ed} {f : List Int},sumF (λ _ _=>0) A f=0
 | [],_=>by simp [sumF]
 | _::_,[]=>by simp [sumF]
 | e::A,v::f=>by simp [sumF,zdE (A:=A) (f:=f)]
theorem zlj {φ ψ : Ed->Int->Int} : ∀ {A : List Ed} {f : List Int},Fit2 A f->(∀ e∈A,∀ v,0<=v->v<=e.v->φ e v<=ψ e v)->sumF φ A f<=sumF ψ A f
 | [],[],_,_=>by simp [sumF]
 | [],_::_,h,_=>h.elim
 | _::_,[],h,_=>h.elim
 | e::A,v::f,h,hh=>by
   simp only [sumF];have h1:=hh e Qm v h.1.1 h.1.2;have h2:=zlj h.2 λ x hx=>hh x (Qk _ hx);omega
def zcB (S : Int->Bool) (g : Int->Int) : Nat->Int
 | 0=>0
 | n+1=>zcB S g n+if S n then g n else 0
theorem zhY (S : Int->Bool) (g h : Int->Int) : ∀ n,zcB S (λ x=>g x - h x) n=zcB S g n - zcB S h n
 | 0=>rfl
 | n+1=>by
   simp only [zcB];rw [zhY S g h n];split <;> omega
theorem zfb (S : Int->Bool) (A : List Ed) (f : List Int) (π : Ed->Int) : ∀ n : Nat,(∀ e∈A,0<=π e)->zcB S (λ x=>sumF (λ e v=>if π e=x then v else 0) A f) n=sumF (λ e v=>if π e<n/\S (π e)=true then v else 0) A f
 | 0,h=>by
   rw [zcp (ψ:=λ _ _=>0) λ e he v=>if_neg λ h2=>by have:=h e he; omega,zdE]
   rfl
 | n+1,h=>by
   have ih:=zfb S A f π n h;simp only [zcB];rw [ih]
   by_cases hs : S n=true
   .rw [if_pos hs,<- zpv]
    refine zcp λ e he v=>?_;have h0:=h e he
    by_cases h1 : π e=n
    .have h2 : ¬ (π e<(n : Int)/\S (π e)=true):=by omega
     have h3 : π e<((n+1 : Nat) : Int)/\S (π e)=true:=⟨by omega,by rw [h1]; exact hs⟩
     rw [if_neg h2,if_pos h1,if_pos h3,Int.zero_add]
    .rw [if_neg h1,Int.add_zero]
     by_cases h2 : π e<(n : Int)/\S (π e)=true
     .rw [if_pos h2,if_pos ⟨by omega,h2.2⟩]
     .rw [if_neg h2,if_neg λ h3=>h2 ⟨by omega,h3.2⟩]
   .rw [if_neg hs,Int.add_zero]
    refine zcp λ e he v=>?_;have h0:=h e he
    by_cases h2 : π e<(n : Int)/\S (π e)=true
    .rw [if_pos h2,if_pos ⟨by omega,h2.2⟩]
    .rw [if_neg h2,if_neg λ h3=>h2 ⟨?_,h3.2⟩]
     have h4 : π e≠n:=λ h5=>hs (h5 ▸ h3.2);omega
def outS (S : Int->Bool) (A : List Ed) (f : List Int) : Int:=sumF (λ e v=>if S e.f=true/\S e.t=false then v else 0) A f
def inS (S : Int->Bool) (A : List Ed) (f : List Int) : Int:=sumF (λ e v=>if S e.f=false/\S e.t=true then v else 0) A f
def capS (S : Int->Bool) (A : List Ed) : Int:=sumF (λ e _=>if S e.f=true/\S e.t=false then e.v else 0) A (A.map λ _=>0)
theorem ziL (S : Int->Bool) (g : Int->Int) (N : Nat) (h0 : S 0=true) (h1 : S 1=false) (hg : ∀ x : Nat,2<=x->x<N->g x=0) : ∀ n,n<=N->1<=n->zcB S g n=g 0
 | 0,_,h=>by omega
 | 1,_,_=>by simp [zcB,h0]
 | n+2,h,_=>by
   have ih:=ziL S g N h0 h1 hg (n+1) (by omega) (by omega)
   simp only [zcB] at ih ⊢;rw [ih]
   cases n with
   | zero=>simp [h1]
   | succ n =>
     have:=hg (n+1+1) (by omega) (by omega)
     split <;> omega
theorem zld {N : Nat} {A : List Ed} {f : List Int} (hn : zcV N A) (hf : zaF N A f) {S : Int->Bool} (h0 : S 0=true) (h1 : S 1=false) : valF A f=outS S A f - inS S A f:=by
 have e1:=ziL S (λ x=>outF A f x - inF A f x) N h0 h1 (λ x h2 h3=>by have:=hf.bal x h2 h3; omega) N (Ql _) (by have:=hn.two; omega)
 have e2 : inF A f 0=0:=by
  unfold inF;rw [zcp (ψ:=λ _ _=>0) λ e he v=>if_neg (hn.arc e he).2.2.2.2.2.1,zdE]
 rw [zhY] at e1;have e3:=zfb S A f (·.f) N λ e he=>(hn.arc e he).1
 have e4:=zfb S A f (·.t) N λ e he=>(hn.arc e he).2.2.1
 have e5 : zcB S (outF A f) N=_:=e3;have e6 : zcB S (inF A f) N=_:=e4;rw [e5,e6,<- zkY] at e1;unfold valF outS inS;rw [<- zkY];have e7 : outF A f 0=outF A f 0 - inF A f 0:=by omega
 rw [e7,<- e1];refine zcp λ e he v=>?_;obtain ⟨q1,q2,q3,q4,_⟩:=hn.arc e he
 cases hf1 : S e.f <;> cases ht1 : S e.t <;> simp [q2,q4]
theorem znM {A : List Ed} {f : List Int} (hf : Fit2 A f) (S : Int->Bool) : outS S A f<=capS S A:=by
 have key : ∀ {A : List Ed} {f : List Int},Fit2 A f->sumF (λ e _=>if S e.f=true/\S e.t=false then e.v else 0) A (A.map λ _=>0)=sumF (λ e _=>if S e.f=true/\S e.t=false then e.v else 0) A f:=by
  intro A
  induction A with
  | nil=>intro f _; simp [sumF]
  | cons e A ih =>
    intro f h
    cases f with
    | nil=>exact h.elim
    | cons v f=>simp only [sumF,Qn]; rw [ih h.2]
 unfold outS capS;rw [key hf];exact zlj hf λ e _ v h1 h2=>by split <;> omega
theorem zgP {A : List Ed} {f : List Int} (hf : Fit2 A f) (S : Int->Bool) : 0<=inS S A f:=by
 have : sumF (λ _ _=>0) A f<=inS S A f:=zlj hf λ e _ v h1 h2=>by split <;> omega
 rw [zdE] at this;exact this
theorem zcL {N : Nat} {A : List Ed} {f : List Int} (hn : zcV N A) (hf : zaF N A f) {S : Int->Bool} (h0 : S 0=true) (h1 : S 1=false) : valF A f<=capS S A:=by
 rw [zld hn hf h0 h1];have:=znM hf.fit S;have:=zgP hf.fit S;omega
def arcD (A : List Ed) (i : Nat) : Ed:=A.getD i ⟨0,0,0⟩
theorem zcF {A : List Ed} {i : Nat} (h : i<A.length) : arcD A i∈A:=by
 unfold arcD;rw [Qd,Qa h];exact Qj h
abbrev Stp:=Nat × Bool
def stF (A : List Ed) (s : Stp) : Int:=if s.2 then (arcD A s.1).t else (arcD A s.1).f
def stT (A : List Ed) (s : Stp) : Int:=if s.2 then (arcD A s.1).f else (arcD A s.1).t
def za1 (A : List Ed) (f : List Int) (s : Stp) : Int:=if s.2 then f.getD s.1 0 else (arcD A s.1).v - f.getD s.1 0
def ze5 (δ : Int) (f : List Int) (s : Stp) : List Int:=f.set s.1 (f.getD s.1 0+if s.2 then -δ else δ)
def zfe (δ : Int) (f : List Int) (l : List Stp) : List Int:=l.foldl (ze5 δ) f
theorem zkv (φ : Ed->Int->Int) : ∀ (A : List Ed) (f : List Int) (i : Nat) (v : Int),i<A.length->f.length=A.length->sumF φ A (f.set i v)=sumF φ A f+(φ (arcD A i) v - φ (arcD A i) (f.getD i 0))
 | [],_,_,_,h,_=>by simp at h
 | _::_,[],_,_,_,h=>by simp at h
 | e::A,w::f,0,v,_,_=>by
   simp only [List.set_cons_zero,sumF];have h1 : arcD (e::A) 0=e:=rfl;have h2 : (w::f).getD 0 0=w:=rfl;rw [h1,h2];omega
 | e::A,w::f,i+1,v,h,hl=>by
   simp only [List.set_cons_succ,sumF];have h1 : arcD (e::A) (i+1)=arcD A i:=by simp [arcD]
   have h2 : (w::f).getD (i+1) 0=f.getD i 0:=by simp
   rw [zkv φ A f i v (by simpa using h) (by simpa using hl),h1,h2]
   omega
def exF (A : List Ed) (f : List Int) (x : Int) : Int:=outF A f x - inF A f x
theorem ziI {δ : Int} {f : List Int} {s : Stp} : (ze5 δ f s).length=f.length:=Uy ..
theorem zev {δ : Int} : ∀ {l : List Stp} {f : List Int},(zfe δ f l).length=f.length
 | [],_=>rfl
 | s::l,f=>by
   show (zfe δ (ze5 δ f s) l).length=_;rw [zev,ziI]
theorem zoY {A : List Ed} {f : List Int} {δ : Int} {s : Stp} (hs : s.1<A.length) (hl : f.length=A.length) (x : Int) :
  exF A (ze5 δ f s) x=exF A f x+(if stF A s=x then δ else 0) - if stT A s=x then δ else 0:=by
 unfold exF outF inF ze5;rw [zkv _ A f s.1 _ hs hl,zkv _ A f s.1 _ hs hl];unfold stF stT;generalize arcD A s.1=e;generalize f.getD s.1 0=v;generalize sumF _ A f=p;generalize sumF _ A f=q;obtain ⟨i,b⟩:=s
 cases b
 .simp only [Ub,Us]
  by_cases h1 : e.f=x <;> by_cases h2 : e.t=x <;> simp only [h1,h2,UY,Us] <;> omega
 .simp only [UY]
  by_cases h1 : e.f=x <;> by_cases h2 : e.t=x <;> simp only [h1,h2,UY,Us] <;> omega
def WayS (A : List Ed) : Int->List Stp->Int->Prop
 | u,[],w=>u=w
 | u,s::l,w=>s.1<A.length/\stF A s=u/\WayS A (stT A s) l w
theorem zpa {A : List Ed} {δ : Int} (x w : Int) : ∀ {l : List Stp} {f : List Int} {u : Int},f.length=A.length->WayS A u l w->exF A (zfe δ f l) x=exF A f x+(if u=x then δ else 0) - if w=x then δ else 0
 | [],f,u,_,h=>by
   have h' : u=w:=h;subst h';show exF A f x=_;omega
 | s::l,f,u,hl,h=>by
   obtain ⟨h1,h2,h3⟩:=h;show exF A (zfe δ (ze5 δ f s) l) x=_;rw [zpa x w (by rw [ziI,hl]) h3,zoY h1 hl x,h2]
   omega
theorem zb8 {A : List Ed} {f : List Int} : Fit2 A f↔f.length=A.length /\ ∀ i,i<A.length->0<=f.getD i 0/\f.getD i 0<=(arcD A i).v:=by
 induction A generalizing f with
 | nil =>
   cases f with
   | nil=>simp [Fit2]
   | cons v f=>simp [Fit2]
 | cons e A ih =>
   cases f with
   | nil=>simp [Fit2]
   | cons v f =>
     show (0<=v/\v<=e.v)/\Fit2 A f↔_;rw [ih];constructor
     .rintro ⟨h1,h2,h3⟩
      refine ⟨by simp [h2],λ i hi=>?_⟩
      cases i with
      | zero=>exact h1
      | succ i =>
        have:=h3 i (by simpa using hi)
        simpa [arcD] using this
     .rintro ⟨h1,h2⟩
      refine ⟨h2 0 (by simp),by simpa using h1,λ i hi=>?_⟩
      have:=h2 (i+1) (by simpa using hi)
      simpa [arcD] using this
theorem zeu {δ : Int} : ∀ {l : List Stp} {f : List Int} {i : Nat},(l.map (·.1)).Nodup->(∀ s∈l,s.1<f.length) ->
  (i∉l.map (·.1)->(zfe δ f l).getD i 0=f.getD i 0) /\ ∀ b,(i,b)∈l->(zfe δ f l).getD i 0=f.getD i 0+if b then -δ else δ
 | [],f,i,_,_=>⟨λ _=>rfl,λ b hb=>by simp at hb⟩
 | s::l,f,i,hn,hr=>by
   rw [Qn,Q6] at hn;have ih:=zeu (δ:=δ) (l:=l) (f:=ze5 δ f s) (i:=i) hn.2 λ x hx=>by rw [ziI]; exact hr x (Qk _ hx)
   have hs:=hr s (Qm ..)
   have hget : ∀ j,(ze5 δ f s).getD j 0=if s.1=j then f.getD j 0+(if s.2 then -δ else δ) else f.getD j 0:=λ j=>by
    unfold ze5
    by_cases hj : s.1=j
    .subst hj
     rw [if_pos rfl,Qd,List.getElem?_set_self hs,Qz]
    .rw [if_neg hj,Qd,List.getElem?_set_ne hj,Qd]
   refine ⟨λ hi=>?_,λ b hb=>?_⟩
   .rw [Qn,Qu,not_or] at hi
    show (zfe δ (ze5 δ f s) l).getD i 0=_;rw [ih.1 hi.2,hget,if_neg λ e=>hi.1 e.symm]
   .show (zfe δ (ze5 δ f s) l).getD i 0=_
    rcases Qu.1 hb with hb | hb
    .subst hb
     rw [ih.1 hn.1,hget,if_pos rfl]
    .have hne : s.1≠i:=λ e=>hn.1 (e ▸ Qg.2 ⟨_,hb,rfl⟩)
     rw [ih.2 b hb,hget,if_neg hne]
theorem zrB {A : List Ed} {f : List Int} {δ : Int} {l : List Stp} (hf : Fit2 A f) (h0 : 0<=δ) (hn : (l.map (·.1)).Nodup) (hr : ∀ s∈l,s.1<A.length/\δ<=za1 A f s) : Fit2 A (zfe δ f l):=by
 rw [zb8] at hf ⊢;refine ⟨by rw [zev,hf.1],λ i hi=>?_⟩
 have hg:=zeu (δ:=δ) (f:=f) (i:=i) hn λ s hs=>by rw [hf.1]; exact (hr s hs).1
 have hfi:=hf.2 i hi
 by_cases hm : i∈l.map (·.1)
 .obtain ⟨⟨j,b⟩,hs,rfl⟩:=Qg.1 hm
  have h1:=hg.2 b hs;have h2:=(hr _ hs).2;simp only at h1 h2 hfi ⊢;rw [h1];unfold za1 at h2
  cases b
  .simp only [Ub,Us] at h2 ⊢
   omega
  .simp only [UY] at h2 ⊢
   omega
 .rw [hg.1 hm]
  exact hfi
theorem ziO {N : Nat} {A : List Ed} (hn : zcV N A) (f : List Int) : inF A f 0=0:=by
 unfold inF;rw [zcp (ψ:=λ _ _=>0) λ e he v=>if_neg (hn.arc e he).2.2.2.2.2.1,zdE]
theorem zvM {N : Nat} {A : List Ed} {f : List Int} {δ : Int} {l : List Stp} (hn : zcV N A) (hf : zaF N A f) (h0 : 0<=δ) (hw : WayS A 0 l 1) (hd : (l.map (·.1)).Nodup) (hr : ∀ s∈l,s.1<A.length/\δ<=za1 A f s) :
  zaF N A (zfe δ f l)/\valF A (zfe δ f l)=valF A f+δ:=by
 have hl:=hf.fit.len;have hx:=λ x=>zpa (A:=A) (δ:=δ) x 1 (l:=l) (f:=f) hl hw;refine ⟨⟨zrB hf.fit h0 hd hr,λ x h2 hN=>?_⟩,?_⟩
 .have h3:=hx x
  have h4:=hf.bal x h2 hN;rw [if_neg (by omega),if_neg (by omega)] at h3
  unfold exF at h3;omega
 .have h3:=hx 0
  rw [if_pos rfl,if_neg (by omega)] at h3
  unfold exF at h3;rw [ziO hn,ziO hn] at h3;unfold valF;omega
theorem zp8 {N : Nat} {A : List Ed} {f : List Int} (hn : zcV N A) (hf : zaF N A f) {S : Int->Bool} (h0 : S 0=true) (h1 : S 1=false)
  (hc : ∀ s : Stp,s.1<A.length->S (stF A s)=true->0<za1 A f s->S (stT A s)=true) : valF A f=capS S A:=by
 rw [zld hn hf h0 h1]
 have key : ∀ {A : List Ed} {f : List Int},Fit2 A f->(∀ s : Stp,s.1<A.length->S (stF A s)=true->0<za1 A f s->S (stT A s)=true)->outS S A f=capS S A/\inS S A f=0:=by
  intro A
  induction A with
  | nil=>intro f _ _; simp [outS,inS,capS,sumF]
  | cons e A ih =>
    intro f hf hc
    cases f with
    | nil=>exact hf.elim
    | cons v f =>
      have h2:=ih hf.2 λ s hs hsf hr=>by
       have:=hc (s.1+1,s.2) (by simpa using hs) (by simpa [stF,arcD] using hsf) (by simpa [za1,arcD] using hr)
       simpa [stT,arcD] using this
      have ha:=hc (0,false) (by simp)
      have hb:=hc (0,true) (by simp)
      simp [stF,stT,za1,arcD] at ha hb;have hv:=hf.1;unfold outS inS capS at h2 ⊢;simp only [sumF,Qn];obtain ⟨p1,p2⟩:=h2;rw [p1,p2]
      cases hF : S e.f <;> cases hT : S e.t <;> simp [hF,hT] at ha hb ⊢ <;> omega
 obtain ⟨p1,p2⟩:=key hf.fit hc;rw [p1,p2];omega
theorem WayS.snoc {A : List Ed} : ∀ {l : List Stp} {u w : Int} {s : Stp},WayS A u l w->s.1<A.length->stF A s=w->WayS A u (l++[s]) (stT A s)
 | [],u,w,s,h,h1,h2=>⟨h1,by rw [h2]; exact (show u=w from h).symm,rfl⟩
 | t::l,u,w,s,h,h1,h2=>⟨h.1,h.2.1,WayS.snoc h.2.2 h1 h2⟩
structure zsr (A : List Ed) (f : List Int) (D : List Int) (by_ : Int->Stp) : Prop where
 zero : D.head? = some 0
 nodup : D.Nodup
 step : ∀ j (h : j<D.length),0<j->(by_ D[j]).1<A.length/\stT A (by_ D[j])=D[j]/\stF A (by_ D[j])∈D.take j/\0<za1 A f (by_ D[j])
theorem znA {A : List Ed} {s t : Stp} (h : s.1=t.1) : (stF A s=stF A t/\stT A s=stT A t)∨(stF A s=stT A t/\stT A s=stF A t):=by
 obtain ⟨i,b⟩:=s;obtain ⟨j,c⟩:=t;simp only at h;subst h;unfold stF stT
 cases b <;> cases c <;> simp
theorem zsr.way {A : List Ed} {f D : List Int} {by_ : Int->Stp} (h : zsr A f D by_) : ∀ (n j : Nat) (hj : j<D.length),j<=n ->
  ∃ l,WayS A 0 l D[j]/\(l.map (·.1)).Nodup /\ ∀ s∈l,s.1<A.length/\0<za1 A f s/\by_ (stT A s)=s/\stT A s≠0/\stF A s∈D.take (j+1)/\stT A s∈D.take (j+1)
 | n,0,hj,_=>by
   refine ⟨[],?_,by simp,by simp⟩
   show (0 : Int)=D[0];have h0:=h.zero;rw [List.head?_eq_getElem?,Qa hj] at h0;exact (Qf h0).symm
 | 0,j+1,_,hn=>by omega
 | n+1,j+1,hj,hn=>by
   obtain ⟨h1,h2,h3,h4⟩:=h.step (j+1) hj (by omega)
   obtain ⟨i,hi,hiF⟩:=QF.1 h3;rw [QW] at hi;rw [UT] at hiF;have hij : i<j+1:=by omega
   obtain ⟨l,w1,w2,w3⟩:=h.way n i (by omega) (by omega)
   have hne : ∀ (k m : Nat) (hk : k<D.length) (hm : m<D.length),k≠m->D[k]≠D[m]:=λ k m hk hm hkm he=>by
    rcases Ug k m with hlt | hge
    .exact QR.1 h.nodup k m hk hm hlt he
    .exact QR.1 h.nodup m k hm hk (by omega) he.symm
   have hnot : D[j+1]∉D.take (i+1):=λ hm=>by
    obtain ⟨k,hk,hkD⟩:=QF.1 hm;rw [QW] at hk;rw [UT] at hkD;exact hne k (j+1) (by omega) hj (by omega) hkD
   have hup : ∀ x,x∈D.take (i+1)->x∈D.take (j+1+1):=λ x hx=>(List.take_sublist_take_left (by omega : i+1<=j+1+1)).subset hx
   have h0 : D[j+1]≠0:=λ he=>by
    have hz:=h.zero;rw [List.head?_eq_getElem?,Qa (by omega)] at hz
    exact hne 0 (j+1) (by omega) hj (by omega) ((Qf hz).trans he.symm)
   refine ⟨l++[by_ D[j+1]],?_,?_,λ s hs=>?_⟩
   .have:=WayS.snoc (s:=by_ D[j+1]) w1 h1 hiF.symm
    rw [h2] at this;exact this
   .rw [Q4,Ue]
    refine ⟨w2,by simp,λ a ha b hb=>?_⟩
    obtain ⟨t,ht,rfl⟩:=Qg.1 ha;simp only [Qn,Uz,QB] at hb;subst hb;intro he;obtain ⟨_,_,_,_,q1,q2⟩:=w3 t ht;rcases znA (A:=A) he with ⟨e1,e2⟩ | ⟨e1,e2⟩
    .rw [e2,h2] at q2
     exact hnot q2
    .rw [e1,h2] at q1
     exact hnot q1
   .rcases Qo.1 hs with hs | hs
    .obtain ⟨p1,p2,p3,p4,p5,p6⟩:=w3 s hs
     exact ⟨p1,p2,p3,p4,hup _ p5,hup _ p6⟩
    .rw [QB] at hs
     subst hs;refine ⟨h1,h4,by rw [h2],by rw [h2]; exact h0,?_,?_⟩
     .exact (List.take_sublist_take_left (by omega : j+1<=j+1+1)).subset h3
     .rw [h2]
      refine QF.2 ⟨j+1,by rw [QW]; omega,by rw [UT]⟩
def zdn (A : List Ed) (f D : List Int) : Prop:=∀ s : Stp,s.1<A.length->stF A s∈D->0<za1 A f s->stT A s∈D
theorem zeM {N : Nat} {A : List Ed} {f D : List Int} (hn : zcV N A) (hf : zaF N A f) (h0 : (0 : Int)∈D) (h1 : (1 : Int)∉D) (hc : zdn A f D) : valF A f=capS (λ x=>decide (x∈D)) A /\ ∀ f',zaF N A f'->valF A f'<=valF A f:=by
 have e:=zp8 (S:=λ x=>decide (x∈D)) hn hf (by simpa using h0) (by simpa using h1) λ s hs hF hr=>by
  have:=hc s hs (by simpa using hF) hr
  simpa using this
 refine ⟨e,λ f' hf'=>?_⟩;rw [e];exact zcL hn hf' (by simpa using h0) (by simpa using h1)
theorem zjw {N : Nat} {A : List Ed} {f D : List Int} {by_ : Int->Stp} (hn : zcV N A) (hf : zaF N A f) (ht : zsr A f D by_) {S : Int->Bool} (h0 : S 0=true) (h1 : S 1=false) (hS : capS S A=valF A f) : ∀ x∈D,S x=true:=by
 have hv:=zld hn hf h0 h1;have ho:=znM hf.fit S;have hi:=zgP hf.fit S;have ho2 : outS S A f=capS S A:=by omega
 have hi2 : inS S A f=0:=by omega
 have key : ∀ {A : List Ed} {f : List Int},Fit2 A f->outS S A f=capS S A->inS S A f=0 -> ∀ s : Stp,s.1<A.length->S (stF A s)=true->0<za1 A f s->S (stT A s)=true:=by
  intro A
  induction A with
  | nil=>intro f _ _ _ s hs; simp at hs
  | cons e A ih =>
    intro f hf ho hi s hs hF hr
    cases f with
    | nil=>exact hf.elim
    | cons v f =>
      have k1:=znM hf.2 S;have k2:=zgP hf.2 S;have hv:=hf.1;have e1 : outS S (e::A) (v::f)=(if S e.f=true/\S e.t=false then v else 0)+outS S A f:=rfl
      have e2 : inS S (e::A) (v::f)=(if S e.f=false/\S e.t=true then v else 0)+inS S A f:=rfl
      have e3 : capS S (e::A)=(if S e.f=true/\S e.t=false then e.v else 0)+capS S A:=rfl
      rw [e1,e3] at ho;rw [e2] at hi;obtain ⟨i,b⟩:=s
      cases i with
      | zero =>
        cases b
        .simp [stF,stT,za1,arcD] at hF hr ⊢
         cases hT : S e.t
         .simp [hF,hT] at ho
          omega
         .rfl
        .simp [stF,stT,za1,arcD] at hF hr ⊢
         cases hT : S e.f
         .simp [hF,hT] at hi
          omega
         .rfl
      | succ i =>
        have q1 : outS S A f=capS S A:=by
         split at ho <;> omega
        have q2 : inS S A f=0:=by
         split at hi <;> omega
        have:=ih hf.2 q1 q2 (i,b) (by simpa using hs) (by simpa [stF,arcD] using hF) (by simpa [za1,arcD] using hr)
        simpa [stT,arcD] using this
 have hcl:=key hf.fit ho2 hi2
 have hind : ∀ (n j : Nat) (hj : j<D.length),j<=n->S D[j]=true:=by
  intro n
  induction n with
  | zero =>
    intro j hj hn;have hj0 : j=0:=by omega
    subst hj0;have hz:=ht.zero;rw [List.head?_eq_getElem?,Qa hj] at hz;rw [Qf hz];exact h0
  | succ n ih =>
    intro j hj hn;rcases Ui j with hj0 | hj0
    .exact ih j hj (by omega)
    .obtain ⟨q1,q2,q3,q4⟩:=ht.step j hj hj0
     obtain ⟨i,hi,hiF⟩:=QF.1 q3;rw [QW] at hi;rw [UT] at hiF;have:=hcl _ q1 (by rw [<- hiF]; exact ih i (by omega) (by omega)) q4
     rw [q2] at this;exact this
 intro x hx;obtain ⟨j,hj,rfl⟩:=QF.1 hx;exact hind j j hj (Ql _)
def WayA (A : List Ed) : Int->List Nat->Int->Prop
 | u,[],w=>u=w
 | u,i::l,w=>i<A.length/\(arcD A i).f=u/\WayA A (arcD A i).t l w
theorem WayA.snoc {A : List Ed} : ∀ {l : List Nat} {u w : Int} {i : Nat},WayA A u l w->i<A.length->(arcD A i).f=w->WayA A u (l++[i]) (arcD A i).t
 | [],u,w,i,h,h1,h2=>⟨h1,by rw [h2]; exact (show u=w from h).symm,rfl⟩
 | j::l,u,w,i,h,h1,h2=>⟨h.1,h.2.1,WayA.snoc h.2.2 h1 h2⟩
def metA (A : List Ed) (l : List Nat) : List Int:=l.map λ i=>(arcD A i).t
theorem zrD (A : List Ed) (l : List Nat) (i : Nat) : metA A (l++[i])=metA A l++[(arcD A i).t]:=by simp [metA]
theorem WayA.take {A : List Ed} : ∀ {l : List Nat} {u w : Int} (n : Nat),WayA A u l w -> ∀ x,(u::metA A l)[n]? = some x->WayA A u (l.take n) x
 | l,u,w,0,_,x,hx=>by
   have : u=x:=by simpa using hx
   exact this
 | [],u,w,n+1,_,x,hx=>by simp [metA] at hx
 | i::l,u,w,n+1,h,x,hx=>by
   refine ⟨h.1,h.2.1,WayA.take n h.2.2 x ?_⟩
   simpa [metA] using hx
theorem zkD (l : List Nat) (n i : Nat) : (l.take n).count i<=l.count i:=(List.take_sublist n l).count_le i
structure zia (A : List Ed) (f g : List Int) (l : List Nat) (w : Int) : Prop where
 len : g.length=A.length
 nonneg : ∀ i,0<=g.getD i 0
 way : WayA A 0 l w
 met : ((0 : Int)::metA A l).Nodup
 used : ∀ i,g.getD i 0+(l.count i : Int)<=f.getD i 0
 ex : ∀ x,exF A g x=exF A f x - (if x=0 then 1 else 0)+if x=w then 1 else 0
theorem zia.start {A : List Ed} {f : List Int} (hl : f.length=A.length) (h0 : ∀ i,0<=f.getD i 0) : zia A f f [] 0 :=
 ⟨hl,h0,rfl,by simp [metA],λ i=>by simp,λ x=>by split <;> omega⟩
theorem zoF (f : List Int) (i j : Nat) (v : Int) (h : i<f.length) : (f.set i v).getD j 0=if i=j then v else f.getD j 0:=by
 by_cases hj : i=j
 .subst hj
  rw [if_pos rfl,Qd,List.getElem?_set_self h,Qz]
 .rw [if_neg hj,Qd,List.getElem?_set_ne hj,Qd]
theorem zia.more {A : List Ed} {f g : List Int} {l : List Nat} {w : Int} (h : zia A f g l w) {k : Nat} (hk : k<A.length) (hf : (arcD A k).f=w) (hg : 0<g.getD k 0) :
  ((arcD A k).t∉((0 : Int)::metA A l)->zia A f (g.set k (g.getD k 0 - 1)) (l++[k]) (arcD A k).t) /\
  ∀ n,((0 : Int)::metA A l)[n]? = some (arcD A k).t->zia A f (g.set k (g.getD k 0 - 1)) (l.take n) (arcD A k).t:=by
 have hkl : k<g.length:=by rw [h.len]; exact hk
 have hnn : ∀ i,0<=(g.set k (g.getD k 0 - 1)).getD i 0:=λ i=>by
  rw [zoF g k i _ hkl];split
  .omega
  .exact h.nonneg i
 have hex : ∀ x,exF A (g.set k (g.getD k 0 - 1)) x=exF A f x - (if x=0 then 1 else 0)+if x=(arcD A k).t then 1 else 0:=λ x=>by
  have h1:=zoY (A:=A) (f:=g) (δ:=-1) (s:=(k,false)) hk h.len x;have h2 : ze5 (-1) g (k,false)=g.set k (g.getD k 0 - 1):=rfl;have h3 : stF A (k,false)=w:=hf;have h4 : stT A (k,false)=(arcD A k).t:=rfl;rw [h2,h3,h4,h.ex x] at h1;rw [h1]
  have e1 : (if w=x then (-1 : Int) else 0) = - if x=w then 1 else 0:=by
   by_cases hh : w=x
   .rw [if_pos hh,if_pos hh.symm]
   .rw [if_neg hh,if_neg λ e=>hh e.symm,Int.neg_zero]
  have e2 : (if (arcD A k).t=x then (-1 : Int) else 0) = - if x=(arcD A k).t then 1 else 0:=by
   by_cases hh : (arcD A k).t=x
   .rw [if_pos hh,if_pos hh.symm]
   .rw [if_neg hh,if_neg λ e=>hh e.symm,Int.neg_zero]
  rw [e1,e2];omega
 have hus : ∀ i,(g.set k (g.getD k 0 - 1)).getD i 0+((l++[k]).count i : Int)<=f.getD i 0:=λ i=>by
  have h1:=h.used i;rw [zoF g k i _ hkl,Vg]
  by_cases hi : k=i
  .subst hi
   rw [if_pos rfl,show List.count k [k]=1 by simp]
   omega
  .rw [if_neg hi,show List.count i [k]=0 from List.count_eq_zero.2 (by simpa using λ e=>hi e.symm)]
   omega
 refine ⟨λ hm=>⟨by rw [Uy]; exact h.len,hnn,h.way.snoc hk hf,?_,hus,hex⟩,λ n hn=>⟨by rw [Uy]; exact h.len,hnn,h.way.take n _ hn,?_,λ i=>?_,hex⟩⟩
 .rw [zrD,<- QO,Ue]
  exact ⟨h.met,by simp,λ a ha b hb=>by rw [QB] at hb; subst hb; rintro rfl; exact hm ha⟩
 .have hs : ((0 : Int)::metA A (l.take n)).Sublist ((0 : Int)::metA A l):=((List.take_sublist n l).map _).cons_cons 0
  exact h.met.sublist hs
 .have h1:=hus i
  have h2 : (l.take n).count i<=(l++[k]).count i:=QH (zkD l n i) (by rw [Vg]; omega)
  omega
structure zge (A : List Ed) (E : Int->Int->Prop) (seeds sinks : List Int) (c : Int->Int) : Prop where
 kind : ∀ i,i<A.length->(∃ x,x∈seeds/\0<=x/\arcD A i=⟨0,2+2*x,c x⟩)∨(∃ x,0<=x/\arcD A i=⟨2+2*x,3+2*x,c x - 1⟩)∨(∃ x,x∈sinks/\0<=x/\arcD A i=⟨2+2*x,1,1⟩)∨(∃ x y,0<=x/\0<=y/\E x y/\arcD A i=⟨3+2*x,2+2*y,64⟩)
 uniq : ∀ i j,i<A.length->j<A.length->(arcD A i).f=(arcD A j).f->(arcD A i).t=(arcD A j).t->i=j
inductive zfd (A : List Ed) (E : Int->Int->Prop) (sinks : List Int) (c : Int->Int) : Int->List Nat->List Int->Prop
 | last (k : Int) (i : Nat) : i<A.length->arcD A i=⟨2+2*k,1,1⟩->k∈sinks->zfd A E sinks c k [i] []
 | more (k y : Int) (i j : Nat) (l : List Nat) (ks : List Int) : i<A.length->arcD A i=⟨2+2*k,3+2*k,c k - 1⟩->arcD A j=⟨3+2*k,2+2*y,64⟩->E k y->0<=y->zfd A E sinks c y l ks->zfd A E sinks c k (i::j::l) (y::ks)
variable {A : List Ed} {E : Int->Int->Prop} {seeds sinks : List Int} {c : Int->Int}
theorem zge.sinkless (h : zge A E seeds sinks c) {i : Nat} (hi : i<A.length) : (arcD A i).f≠1:=by
 rcases h.kind i hi with ⟨x,_,hx,e⟩ | ⟨x,hx,e⟩ | ⟨x,_,hx,e⟩ | ⟨x,y,hx,hy,_,e⟩ <;> rw [e] <;> simp only <;> omega
theorem zge.path (h : zge A E seeds sinks c) : ∀ (n : Nat) (l : List Nat) (k : Int),l.length<=n->0<=k->WayA A (2+2*k) l 1 -> ∃ ks,zfd A E sinks c k l ks
 | _,[],k,_,hk,hw=>by
   have : 2+2*k=1:=hw;omega
 | n,[i],k,_,hk,hw=>by
   obtain ⟨h1,h2,h3⟩:=hw;have h3' : (arcD A i).t=1:=h3;rcases h.kind i h1 with ⟨x,_,hx,e⟩ | ⟨x,hx,e⟩ | ⟨x,hs,hx,e⟩ | ⟨x,y,hx,hy,_,e⟩ <;> rw [e] at h2 h3' <;> simp only at h2 h3'
   .omega
   .omega
   .have : x=k:=by omega
    subst this;exact ⟨[],.last _ i h1 e hs⟩
   .omega
 | 0,_::_::_,_,hn,_,_=>by simp at hn
 | n+1,i::j::l,k,hn,hk,hw=>by
   obtain ⟨h1,h2,h4,h5,h6⟩:=hw;rcases h.kind i h1 with ⟨x,_,hx,e⟩ | ⟨x,hx,e⟩ | ⟨x,hs,hx,e⟩ | ⟨x,y,hx,hy,_,e⟩
   .rw [e] at h2; simp only at h2; omega
   .rw [e] at h2 h5
    simp only at h2 h5;have : x=k:=by omega
    subst this;rcases h.kind j h4 with ⟨z,_,hz,e'⟩ | ⟨z,hz,e'⟩ | ⟨z,hs,hz,e'⟩ | ⟨z,y,hz,hy,hE,e'⟩
    .rw [e'] at h5; simp only at h5; omega
    .rw [e'] at h5; simp only at h5; omega
    .rw [e'] at h5; simp only at h5; omega
    .rw [e'] at h5 h6
     simp only at h5 h6;have : z=x:=by omega
     subst this;obtain ⟨ks,hp⟩:=h.path n l y (by simp at hn; omega) hy h6
     exact ⟨y::ks,.more _ y i j l ks h1 e e' hE hy hp⟩
   .rw [e] at h5
    simp only at h5;exact absurd h5 (h.sinkless h4)
   .rw [e] at h2; simp only at h2; omega
def keyT (t : Int) : Option Int:=if 2<=t/\t % 2=0 then some ((t - 2) / 2) else none
def zb5 (A : List Ed) (l : List Nat) : List Int:=(metA A l).filterMap keyT
theorem zjy {k : Int} (h : 0<=k) : keyT (2+2*k)=some k:=by
 unfold keyT;rw [if_pos ⟨by omega,by omega⟩]
 congr 1
 omega
theorem zrQ (k : Int) : keyT (3+2*k)=none:=if_neg (by omega)
theorem zq4 : keyT 1=none:=if_neg (by omega)
theorem zfd.keys {k : Int} {l : List Nat} {ks : List Int} (h : zfd A E sinks c k l ks) : zb5 A l=ks:=by
 induction h with
 | last k i h1 h2 h3 =>
   unfold zb5 metA;rw [Qn,Uz,UQ,h2];simp only;rw [zq4];rfl
 | more k y i j l ks h1 h2 h3 h4 h5 h6 ih =>
   unfold zb5 metA at ih ⊢;rw [Qn,Qn,UQ,h2];simp only;rw [zrQ,UQ,h3];simp only;rw [zjy h5,ih]
theorem zfd.edges {k : Int} {l : List Nat} {ks : List Int} (h : zfd A E sinks c k l ks) : ∀ i (hi : i+1<(k::ks).length),E (k::ks)[i] (k::ks)[i+1]:=by
 induction h with
 | last k i h1 h2 h3=>intro i hi; simp at hi
 | more k y i j l ks h1 h2 h3 h4 h5 h6 ih =>
   intro n hn
   cases n with
   | zero=>exact h4
   | succ n=>exact ih n (by simpa using hn)
theorem zfd.ends {k : Int} {l : List Nat} {ks : List Int} (h : zfd A E sinks c k l ks) : ∃ z,(k::ks).getLast? = some z/\z∈sinks /\ ∃ i∈l,i<A.length/\arcD A i=⟨2+2*z,1,1⟩:=by
 induction h with
 | last k i h1 h2 h3=>exact ⟨k,rfl,h3,i,QB.2 rfl,h1,h2⟩
 | more k y i j l ks h1 h2 h3 h4 h5 h6 ih =>
   obtain ⟨z,hz,hs,m,hm,hm2,hm3⟩:=ih;exact ⟨z,by rw [List.getLast?_cons_cons]; exact hz,hs,m,Qk _ (Qk _ hm),hm2,hm3⟩
theorem zfd.uses (hu : ∀ i j,i<A.length->j<A.length->(arcD A i).f=(arcD A j).f->(arcD A i).t=(arcD A j).t->i=j) {k : Int} {l : List Nat} {ks : List Int} (h : zfd A E sinks c k l ks) {m : Int} {n : Nat} (hn : n<A.length) (hm : arcD A n=⟨2+2*m,3+2*m,c m - 1⟩) : (k::ks).dropLast.count m<=l.count n:=by
 induction h with
 | last k i h1 h2 h3=>simp
 | more k y i j l ks h1 h2 h3 h4 h5 h6 ih =>
   rw [List.dropLast_cons_of_ne_nil (by simp),List.count_cons]
   have h7 : l.count n<=(j::l).count n:=by rw [List.count_cons]; omega
   rw [List.count_cons]
   by_cases hk : k=m
   .subst hk
    have : i=n:=hu i n h1 hn (by rw [h2,hm]) (by rw [h2,hm])
    subst this;simp only [beq_self_eq_true,UY];omega
   .have hk' : (k == m)=false:=by simpa using hk
    rw [hk'];simp only [Ub,Us];omega
theorem zfd.mids {k : Int} {l : List Nat} {ks : List Int} (h : zfd A E sinks c k l ks) {m : Int} (hm : m∈(k::ks).dropLast) : ∃ n,n<A.length/\arcD A n=⟨2+2*m,3+2*m,c m - 1⟩:=by
 induction h with
 | last k i h1 h2 h3=>simp at hm
 | more k y i j l ks h1 h2 h3 h4 h5 h6 ih =>
   rw [List.dropLast_cons_of_ne_nil (by simp)] at hm
   rcases Qu.1 hm with rfl | hm
   .exact ⟨i,h1,h2⟩
   .exact ih hm
theorem zge.whole (h : zge A E seeds sinks c) {l : List Nat} (hw : WayA A 0 l 1) : ∃ x i l' ks,l=i::l'/\i<A.length/\x∈seeds/\0<=x/\arcD A i=⟨0,2+2*x,c x⟩/\zfd A E sinks c x l' ks/\zb5 A l=x::ks:=by
 cases l with
 | nil=>have : (0 : Int)=1:=hw; omega
 | cons i l =>
   obtain ⟨h1,h2,h3⟩:=hw;rcases h.kind i h1 with ⟨x,hs,hx,e⟩ | ⟨x,hx,e⟩ | ⟨x,hs,hx,e⟩ | ⟨x,y,hx,hy,_,e⟩
   .rw [e] at h3
    obtain ⟨ks,hp⟩:=h.path l.length l x (Ql _) hx h3;refine ⟨x,i,l,ks,rfl,h1,hs,hx,e,hp,?_⟩;have hk:=hp.keys;unfold zb5 metA at hk ⊢;rw [Qn,UQ,e];simp only;rw [zjy hx,hk]
   .rw [e] at h2; simp only at h2; omega
   .rw [e] at h2; simp only at h2; omega
   .rw [e] at h2; simp only at h2; omega
theorem znq {l : List Nat} (h : (metA A l).Nodup) : (zb5 A l).Nodup:=by
 unfold zb5;refine List.Pairwise.filterMap _ (λ a a' hne b hb b' hb'=>?_) h;unfold keyT at hb hb';split at hb <;> split at hb' <;> simp at hb hb' <;> omega
def sumN (g : List Nat->Nat) (W : List (List Nat)) : Nat:=(W.map g).sum
theorem ziG (g : List Nat->Nat) (w : List Nat) (W : List (List Nat)) : sumN g (w::W)=g w+sumN g W:=by simp [sumN]
theorem zjm {l : List Int} (h : ∀ x,l.count x<=1) : l.Nodup:=by
 induction l with
 | nil=>exact List.nodup_nil
 | cons x l ih =>
   rw [Q6];refine ⟨λ hm=>?_,ih λ y=>?_⟩
   .have h1:=h x
    rw [List.count_cons_self] at h1;have h2:=List.count_pos_iff.2 hm;omega
   .have h1:=h y
    rw [List.count_cons] at h1;omega
theorem zqO {A : List Ed} {n : Nat} {k : Int} : ∀ {W : List (List Nat)},(∀ w∈W,(zb5 A w).head? = some k->1<=w.count n)->begC (W.map (zb5 A)) k<=sumN (List.count n) W
 | [],_=>by simp [begC,sumN]
 | w::W,h=>by
   have ih:=zqO (n:=n) (k:=k) λ x hx=>h x (Qk w hx);have h1:=h w (Qm ..);unfold begC at ih ⊢;rw [Qn,List.countP_cons,ziG]
   by_cases hk : (zb5 A w).head? = some k
   .have:=h1 hk
    simp only [hk,decide_true,UY];omega
   .simp only [hk,decide_false,Ub,Us]
    omega
theorem zm3 {A : List Ed} {k : Int} : ∀ {W : List (List Nat)},begC (W.map (zb5 A)) k=0 ∨ ∃ w∈W,(zb5 A w).head? = some k
 | []=>.inl rfl
 | w::W=>by
   by_cases hk : (zb5 A w).head? = some k
   .exact .inr ⟨w,Qm ..,hk⟩
   .rcases zm3 (A:=A) (k:=k) (W:=W) with h | ⟨x,hx,hx2⟩
    .left
     unfold begC at h ⊢;rw [Qn,List.countP_cons,h];simp [hk]
    .exact .inr ⟨x,Qk _ hx,hx2⟩
theorem zrN {A : List Ed} {n : Nat} {k : Int} : ∀ {W : List (List Nat)},(∀ w∈W,(zb5 A w).dropLast.count k<=w.count n)->useC (W.map (zb5 A)) k<=sumN (List.count n) W
 | [],_=>by simp [useC,sumN]
 | w::W,h=>by
   have ih:=zrN (n:=n) (k:=k) λ x hx=>h x (Qk w hx);have h1:=h w (Qm ..);unfold useC at ih ⊢;rw [Qn,Vh,Vg,ziG];omega
theorem zl8 {A : List Ed} {k : Int} : ∀ {W : List (List Nat)},useC (W.map (zb5 A)) k=0 ∨ ∃ w∈W,k∈(zb5 A w).dropLast
 | []=>.inl rfl
 | w::W=>by
   by_cases hk : k∈(zb5 A w).dropLast
   .exact .inr ⟨w,Qm ..,hk⟩
   .rcases zl8 (A:=A) (k:=k) (W:=W) with h | ⟨x,hx,hx2⟩
    .left
     unfold useC at h ⊢;rw [Qn,Vh,Vg,h,List.count_eq_zero.2 hk]
    .exact .inr ⟨x,Qk _ hx,hx2⟩
theorem zpq {A : List Ed} {n : Nat} {k : Int} : ∀ {W : List (List Nat)},(∀ w∈W,(zb5 A w).getLast? = some k->1<=w.count n)->(zgH (W.map (zb5 A))).count k<=sumN (List.count n) W
 | [],_=>by simp [zgH,sumN]
 | w::W,h=>by
   have ih:=zpq (n:=n) (k:=k) λ x hx=>h x (Qk w hx);have h1:=h w (Qm ..);unfold zgH at ih ⊢;rw [Qn,UQ,ziG]
   cases hl : (zb5 A w).getLast? with
   | none=>simp only; omega
   | some z =>
     simp only [List.count_cons]
     by_cases hz : z=k
     .subst hz
      have:=h1 hl;simp only [beq_self_eq_true,UY];omega
     .have : (z == k)=false:=by simpa using hz
      rw [this];simp only [Ub,Us];omega
theorem zpF {A : List Ed} {E : Int->Int->Prop} {seeds sinks : List Int} {cl : List Int} {f : List Int} {W : List (List Nat)}
  (hk : zge A E seeds sinks λ x=>cl.getD x.toNat 0) (hf : Fit2 A f) (hw : ∀ w∈W,WayA A 0 w 1/\(metA A w).Nodup) (hs : ∀ i,i<A.length->(sumN (List.count i) W : Int)<=f.getD i 0) (hc : ∀ x∈cl,0<=x) :
  zkq cl (W.map (zb5 A))/\(zgH (W.map (zb5 A))).Nodup/\(∀ k∈zgH (W.map (zb5 A)),k∈sinks) /\
  ∀ p∈W.map (zb5 A),(∃ k,p.head? = some k/\k∈seeds)/\p.Nodup /\ ∀ i (h : i+1<p.length),E p[i] p[i+1]:=by
 have hfit:=(zb8.1 hf).2
 have hlast : ∀ w∈W,∃ z,(zb5 A w).getLast? = some z/\z∈sinks /\ ∃ i∈w,i<A.length/\arcD A i=⟨2+2*z,1,1⟩:=λ w hwW=>by
  obtain ⟨x,i,l',ks,rfl,hi,hxs,hx0,he,hp,hkk⟩:=hk.whole (hw w hwW).1;obtain ⟨z,hz,hzs,m,hm,hm2,hm3⟩:=hp.ends;exact ⟨z,by rw [hkk]; exact hz,hzs,m,Qk _ hm,hm2,hm3⟩
 refine ⟨λ k hkl=>⟨?_,?_⟩,zjm λ z=>?_,λ z hz=>?_,λ p hp=>?_⟩
 .have hck:=hc _ (Qj hkl)
  have hcg : cl.getD k 0=cl[k]:=by rw [Qd,Qa hkl,Qz]
  rcases zm3 (A:=A) (k:=(k : Int)) (W:=W) with h | ⟨w,hwW,hh⟩
  .rw [h]; exact hck
  .obtain ⟨x,i,l',ks,rfl,hi,hxs,hx0,he,hp,hkk⟩:=hk.whole (hw w hwW).1
   rw [hkk] at hh;have hxk : x=k:=Qf hh;subst hxk
   have h1:=zqO (A:=A) (n:=i) (k:=(k : Int)) (W:=W) λ v hvW hvk=>by
    obtain ⟨y,j,l2,ks2,rfl,hj,_,_,he2,_,hkk2⟩:=hk.whole (hw v hvW).1;rw [hkk2] at hvk;have hyk : y=k:=Qf hvk;have : j=i:=hk.uniq j i hj hi (by rw [he2,he]) (by rw [he2,he,hyk])
    subst this;rw [List.count_cons_self];omega
   have h2:=hs i hi;have h3:=(hfit i hi).2;rw [he] at h3;simp only [UC] at h3;rw [hcg] at h3;omega
 .have hck:=hc _ (Qj hkl)
  have hcg : cl.getD k 0=cl[k]:=by rw [Qd,Qa hkl,Qz]
  rcases zl8 (A:=A) (k:=(k : Int)) (W:=W) with h | ⟨w,hwW,hh⟩
  .rw [h]; omega
  .obtain ⟨x,i,l',ks,rfl,hi,hxs,hx0,he,hp,hkk⟩:=hk.whole (hw w hwW).1
   rw [hkk] at hh;obtain ⟨n,hn,hnA⟩:=hp.mids hh
   have h1:=zrN (A:=A) (n:=n) (k:=(k : Int)) (W:=W) λ v hvW=>by
    obtain ⟨y,j,l2,ks2,rfl,hj,_,_,he2,hp2,hkk2⟩:=hk.whole (hw v hvW).1;rw [hkk2,List.count_cons];have:=hp2.uses hk.uniq hn hnA;omega
   have h2:=hs n hn;have h3:=(hfit n hn).2;rw [hnA] at h3;simp only [UC] at h3;rw [hcg] at h3;omega
 .by_cases hz : z∈zgH (W.map (zb5 A))
  .obtain ⟨p,hp,hpz⟩:=Vb.1 hz
   obtain ⟨w,hwW,rfl⟩:=Qg.1 hp;obtain ⟨y,hy,hys,i,hiw,hi,hiA⟩:=hlast w hwW;rw [hpz] at hy;have hzy : z=y:=Qf hy;subst hzy
   have h1:=zpq (A:=A) (n:=i) (k:=z) (W:=W) λ v hvW hvz=>by
    obtain ⟨y,hy,_,j,hjv,hj,hjA⟩:=hlast v hvW;rw [hvz] at hy;have hzy : z=y:=Qf hy;have : j=i:=hk.uniq j i hj hi (by rw [hjA,hiA,hzy]) (by rw [hjA,hiA])
    subst this;exact List.count_pos_iff.2 hjv
   have h2:=hs i hi;have h3:=(hfit i hi).2;rw [hiA] at h3;simp only at h3;omega
  .rw [List.count_eq_zero.2 hz]
   omega
 .obtain ⟨p,hp,hpz⟩:=Vb.1 hz
  obtain ⟨w,hwW,rfl⟩:=Qg.1 hp;obtain ⟨y,hy,hys,_⟩:=hlast w hwW;rw [hpz] at hy;rw [Qf hy];exact hys
 .obtain ⟨w,hwW,rfl⟩:=Qg.1 hp
  refine ⟨?_,znq (hw w hwW).2,?_⟩
  .obtain ⟨x,i,l',ks,rfl,hi,hxs,hx0,he,hp,hkk⟩:=hk.whole (hw w hwW).1
   exact ⟨x,by rw [hkk]; rfl,hxs⟩
  .obtain ⟨x,i,l',ks,rfl,hi,hxs,hx0,he,hp,hkk⟩:=hk.whole (hw w hwW).1
   have:=hp.edges;intro n hn;simp only [hkk] at hn ⊢;exact this n hn
def zc3 (e : Ed) : Int × Int:=(e.f,e.t)
theorem zkj {A : List Ed} (h : (A.map zc3).Nodup) {i j : Nat} (hi : i<A.length) (hj : j<A.length) (h1 : (arcD A i).f=(arcD A j).f) (h2 : (arcD A i).t=(arcD A j).t) : i=j:=by
 have hg : ∀ k (hk : k<A.length),(A.map zc3)[k]'(by simpa using hk)=zc3 (arcD A k):=λ k hk=>by
  rw [List.getElem_map];unfold arcD;rw [Qd,Qa hk,Qz]
 have he : zc3 (arcD A i)=zc3 (arcD A j):=by unfold zc3; rw [h1,h2]
 rcases Nat.lt_trichotomy i j with hlt | heq | hgt
 .exact absurd ((hg i hi).trans (he.trans (hg j hj).symm)) (QR.1 h i j (by simpa using hi) (by simpa using hj) hlt)
 .exact heq
 .exact absurd ((hg j hj).trans (he.symm.trans (hg i hi).symm)) (QR.1 h j i (by simpa using hj) (by simpa using hi) hgt)
theorem zel {α β : Type} {φ : α->β} {l : List α} (h : l.Nodup) (hi : ∀ a∈l,∀ b∈l,φ a=φ b->a=b) : (l.map φ).Nodup:=by
 rw [List.Nodup,U2];exact List.Pairwise.imp_of_mem (λ {a b} ha hb hab he=>hab (hi a ha b hb he)) h
theorem zn9 {g : Gr} {p : Pol} {c sinks seeds' : List Int} {E : Int->Int->Prop} (hE : ∀ e∈(zag g p.lv).edges,0<c.getD e.f.toNat 0->E e.f e.t) (hS : ∀ x∈p.seeds,0<c.getD x.toNat 0->x∈seeds') (hs : p.seeds.Nodup) (hs0 : ∀ x∈p.seeds,0<=x) (hk : sinks.Nodup) (hk0 : ∀ x∈sinks,0<=x) (he : ((zag g p.lv).edges.map zc3).Nodup) (he0 : ∀ e∈(zag g p.lv).edges,0<=e.f/\0<=e.t) :
  zge (zaQ g p c sinks) E seeds' sinks λ x=>c.getD x.toNat 0:=by
 refine ⟨λ i hi=>?_,λ i j hi hj=>zkj ?_ hi hj⟩
 .have hm:=zcF hi
  revert hm
  generalize arcD (zaQ g p c sinks) i=a;intro hm;unfold zaQ at hm;rcases Qo.1 hm with hm | hm
  .rcases Qo.1 hm with hm | hm
   .rcases Qo.1 hm with hm | hm
    .obtain ⟨x,hx,rfl⟩:=Qg.1 hm
     have hx:=Qw.1 hx;exact .inl ⟨x,hS x hx.1 (by simpa using hx.2),hs0 x hx.1,rfl⟩
    .obtain ⟨x,hx,rfl⟩:=Qg.1 hm
     exact .inr (.inl ⟨x,Int.natCast_nonneg _,by simp⟩)
   .obtain ⟨x,hx,rfl⟩:=Qg.1 hm
    have hx:=(Qw.1 hx).1;exact .inr (.inr (.inl ⟨x,hx,hk0 x hx,rfl⟩))
  .obtain ⟨e,hx,rfl⟩:=Qg.1 hm
   have hx:=Qw.1 hx;have h0:=he0 e hx.1;exact .inr (.inr (.inr ⟨e.f,e.t,h0.1,h0.2,hE e hx.1 (by simpa using hx.2),rfl⟩))
 .unfold zaQ
  simp only [Q4,List.map_map];refine Ue.2 ⟨Ue.2 ⟨Ue.2 ⟨?_,?_,?_⟩,?_,?_⟩,?_,?_⟩
  .exact zel (hs.filter _) λ a _ b _ h=>by simp [zc3] at h; omega
  .exact zel (List.nodup_range.filter _) λ a _ b _ h=>by simp [zc3] at h; omega
  .intro a ha b hb
   obtain ⟨x,hx,rfl⟩:=Qg.1 ha;obtain ⟨y,hy,rfl⟩:=Qg.1 hb;intro h;simp [zc3] at h;omega
  .exact zel (hk.filter _) λ a _ b _ h=>by simp [zc3] at h; omega
  .intro a ha b hb
   obtain ⟨y,hy,rfl⟩:=Qg.1 hb;have hy0:=hk0 y (Qw.1 hy).1;rcases Qo.1 ha with ha | ha
   .obtain ⟨x,hx,rfl⟩:=Qg.1 ha
    intro h;simp [zc3] at h;omega
   .obtain ⟨x,hx,rfl⟩:=Qg.1 ha
    intro h;simp [zc3] at h;omega
  .have h1 : ((zag g p.lv).edges.filter λ e=>decide (0<c.getD e.f.toNat 0)).Pairwise λ a b=>zc3 a≠zc3 b:=by
    rw [List.Nodup,U2] at he;exact he.filter _
   rw [List.Nodup,U2];refine h1.imp λ {a b} hab h=>hab ?_;simp [zc3] at h;unfold zc3;rw [show a.f=b.f by omega,show a.t=b.t by omega]
  .intro a ha b hb
   obtain ⟨e,hy,rfl⟩:=Qg.1 hb;have hy0:=he0 e (Qw.1 hy).1;rcases Qo.1 ha with ha | ha
   .rcases Qo.1 ha with ha | ha
    .obtain ⟨x,hx,rfl⟩:=Qg.1 ha
     intro h;simp [zc3] at h;omega
    .obtain ⟨x,hx,rfl⟩:=Qg.1 ha
     intro h;simp [zc3] at h;omega
   .obtain ⟨x,hx,rfl⟩:=Qg.1 ha
    intro h;simp [zc3] at h;omega
structure Expl where
 key : Int
 acc : Bool
 before : List Int
 paths : List (List Int)
 side : List Int
theorem za3 (g : Gr) (S : List Int) : (ordL g S).Nodup:=by
 refine (zm1 (g:=g) (S:=S) g.size.toNat).imp λ {a b} h e=>?_;subst e;unfold Lt at h;omega
theorem zbD {g : Gr} {S : List Int} {k : Int} (h : k∈ordL g S) : 0<=k/\k<g.size:=by
 have:=zfT.1 h;omega
open Classical in
def zrs (g : Gr) (p : Pol) (x : Expl) : Int :=
 let order:=ordL (zag g p.lv) p.seeds
 let c:=zaH g p
 if x.key∉order then 11
 else if ¬ zeo order x.before x.key∨(x.acc=true/\x.side≠[])∨(x.acc=false/\x.paths≠[]) then 1
 else if x.acc=true then (if zgJ g p.lv p.seeds order c x.paths (x.before++[x.key]) then 0 else 52)
 else if zlp ⟨2+2*g.size,zaQ g p c (srt (x.before++[x.key]))⟩ x.side x.before.length then 0 else 52
open Classical in
def zsK (g : Gr) (p : Pol) (x : Expl) : Int :=
 let order:=ordL (zag g p.lv) p.seeds
 let c:=zaH g p
 if x.key∉order then 11
 else if ¬ zeo order x.before x.key∨(x.acc=true/\x.side≠[])∨(x.acc=false/\x.paths≠[]) then 1
 else if x.acc=true then (if zi1 g p.lv p.seeds order c x.paths (x.before++[x.key]) then 0 else 52)
 else if zlp ⟨2+2*g.size,zaQ g p c (zaG (x.before++[x.key]))⟩ x.side x.before.length then 0 else 52
theorem zp0 {g : Gr} (hs : g.size<=64) (p : Pol) (x : Expl) : zrs g p x=zsK g p x:=by
 unfold zrs zsK;simp only;have hno:=za3 (zag g p.lv) p.seeds
 have hra : ∀ k∈ordL (zag g p.lv) p.seeds,0<=k/\k<64:=λ k hk=>by
  have:=zbD hk;have h2 : (zag g p.lv).size=g.size:=rfl;omega
 generalize ordL (zag g p.lv) p.seeds=o at *
 by_cases h1 : x.key∈o
 .by_cases h2 : ¬ zeo o x.before x.key∨(x.acc=true/\x.side≠[])∨(x.acc=false/\x.paths≠[])
  .rw [if_neg (not_not_intro h1),if_pos h2,if_neg (not_not_intro h1),if_pos h2]
  .rw [if_neg (not_not_intro h1),if_neg h2,if_neg (not_not_intro h1),if_neg h2]
   have h3 : zeo o x.before x.key:=Classical.byContradiction λ h=>h2 (.inl h);have h4:=h3.nodup hno
   have h5 : ∀ k∈x.before++[x.key],0<=k/\k<64:=λ k hk=>by
    rcases Qo.1 hk with hk | hk
    .exact hra k ((List.takeWhile_sublist _).subset (h3.subset hk))
    .rw [QB] at hk
     rw [hk];exact hra _ h1
   rw [zk7 h4 h5]
   by_cases ha : x.acc=true
   .rw [if_pos ha,if_pos ha]
    by_cases hc : zgJ g p.lv p.seeds o (zaH g p) x.paths (x.before++[x.key])
    .rw [if_pos hc,if_pos ((zjC h4).1 hc)]
    .rw [if_neg hc,if_neg λ h=>hc ((zjC h4).2 h)]
   .rw [if_neg ha,if_neg ha]
 .rw [if_pos h1,if_pos h1]
theorem zgh {g : Gr} {p : Pol} {k : Int} (h0 : 0<=k) (h1 : k<g.size) : (zaH g p).getD k.toNat 0=zcQ p (dist (zag g p.lv) p.seeds k):=by
 unfold zaH zaW;have h2 : k.toNat<(zag g p.lv).size.toNat:=by show k.toNat<g.size.toNat; omega
 rw [Qd,Qs,Qs,List.getElem?_range h2];simp only [Q7,Qz];rw [show ((k.toNat : Nat) : Int)=k by omega]
theorem zhW {g : Gr} {p : Pol} {k : Int} (h1 : g.size<=k) : (zaH g p).getD k.toNat 0=0:=by
 unfold zaH zaW;have h2 : ¬ k.toNat<(zag g p.lv).size.toNat:=by show ¬ k.toNat<g.size.toNat; omega
 rw [Qd,Q3 (by simp; omega)]
 rfl
theorem zgV {g : Gr} {p : Pol} {n : Int} (hp : zaN n p) : ∀ x∈zaH g p,0<=x:=λ x hx=>by
 unfold zaH at hx;obtain ⟨d,_,rfl⟩:=Qg.1 hx;exact (zff hp d).1
theorem zgn {g : Gr} {p : Pol} {n : Int} (hp : zaN n p) {k : Int} (h0 : 0<=k) : 0<(zaH g p).getD k.toNat 0↔k<g.size/\0<=dist (zag g p.lv) p.seeds k:=by
 by_cases h1 : k<g.size
 .rw [zgh h0 h1,zmM hp]
  exact ⟨λ h=>⟨h1,h⟩,λ h=>h.2⟩
 .rw [zhW (by omega)]
  constructor
  .intro h; omega
  .intro h; exact absurd h.1 h1
theorem GrOk.level {g : Gr} (h : GrOk g) (v : Int) : GrOk (zag g v):=by
 refine ⟨⟨h.1.1,h.1.2.1,QH (QV _ _) h.1.2.2.1,h.1.2.2.2⟩,λ i hi=>?_⟩;have hm : (zag g v).edges[i]∈g.edges:=(Qw.1 (Qj hi)).1;obtain ⟨j,hj,hje⟩:=QF.1 hm;have h1:=h.2 j hj;rw [hje] at h1;refine ⟨h1.1,h1.2.1,h1.2.2.1,λ h0=>?_⟩;rw [zgK];have hp : (zag g v).edges.Pairwise Bef:=h.pair.filter _;exact QR.1 hp (i - 1) i (by omega) hi (by omega)
theorem zeB {g : Gr} (h : GrOk g) {S : List Int} {k : Int} : k∈ordL g S↔Key g k/\0<=dist g S k:=by
 unfold ordL;rw [zfT];constructor
 .rintro ⟨⟨h1,h2⟩,h3,_⟩
  exact ⟨⟨h1,by omega⟩,h3⟩
 .rintro ⟨h1,h2⟩
  have h3:=zn2 (S:=S) h h1;have h4:=h1.1;have h5:=h1.2;exact ⟨⟨h4,by omega⟩,h2,by omega⟩
theorem zgT {g : Gr} (h : GrOk g) (v : Int) : ((zag g v).edges.map zc3).Nodup /\ ∀ e∈(zag g v).edges,0<=e.f/\e.f<g.size/\0<=e.t/\e.t<g.size:=by
 have hl:=h.level v;refine ⟨?_,λ e he=>?_⟩
 .rw [List.Nodup,U2]
  refine hl.pair.imp λ {a b} hab he=>?_;unfold Bef at hab;unfold zc3 at he;simp at he;omega
 .obtain ⟨i,hi,rfl⟩:=QF.1 he
  have h1:=(hl.2 i hi).1;have h2 : (zag g v).size=g.size:=rfl;unfold Fits at h1;omega
theorem Rise.nodup {l : List Int} {lo hi : Int} (h : Rise l lo hi) : l.Nodup /\ ∀ x∈l,lo<=x/\x<=hi:=by
 have hlt : ∀ (j i : Nat) (hj : j<l.length) (hij : i<j),l[i]<l[j]:=by
  intro j
  induction j with
  | zero=>intro i _ hij; omega
  | succ j ih =>
    intro i hj hij;have h1:=(h (j+1) hj).2.2 (by omega)
    simp only [Nat.add_sub_cancel] at h1;rcases Ug i j with h2 | h2
    .have:=ih i (by omega) h2
     omega
    .have : i=j:=by omega
     subst this;exact h1
 refine ⟨QR.2 λ i j hi hj hij he=>?_,λ x hx=>?_⟩
 .have:=hlt j i hj hij
  omega
 .obtain ⟨i,hi,rfl⟩:=QF.1 hx
  have:=h i hi;exact ⟨this.1,this.2.1⟩
theorem zlG {g : Gr} {p : Pol} {sinks ends f : List Int} {W : List (List Nat)} (hg : GrOk g) (hp : zaN g.size p) (hk : sinks.Nodup) (hk0 : ∀ x∈sinks,0<=x) (hpe : ends.Perm sinks)
  (hf : Fit2 (zaQ g p (zaH g p) sinks) f) (hw : ∀ w∈W,WayA (zaQ g p (zaH g p) sinks) 0 w 1/\(metA (zaQ g p (zaH g p) sinks) w).Nodup)
  (hs : ∀ i,i<(zaQ g p (zaH g p) sinks).length->(sumN (List.count i) W : Int)<=f.getD i 0) (hl : W.length=sinks.length) :
  zi1 g p.lv p.seeds (ordL (zag g p.lv) p.seeds) (zaH g p) (W.map (zb5 (zaQ g p (zaH g p) sinks))) ends:=by
 have hgl:=hg.level p.lv;have hse:=hp.2.1.nodup;have hle:=zgT hg p.lv
 have hmo : ∀ k,0<=k->0<(zaH g p).getD k.toNat 0->k∈ordL (zag g p.lv) p.seeds:=λ k h0 hc=>by
  have h1:=(zgn hp h0).1 hc;exact (zeB hgl).2 ⟨⟨h0,h1.1⟩,h1.2⟩
 have hnet : zge (zaQ g p (zaH g p) sinks) (λ x y=>zpz g p.lv x y/\y∈ordL (zag g p.lv) p.seeds) (p.seeds.filter λ x=>decide (x∈ordL (zag g p.lv) p.seeds)) sinks λ x=>(zaH g p).getD x.toNat 0:=by
  refine zn9 (λ e he hc=>?_) (λ x hx hc=>?_) hse.1 (λ x hx=>(hse.2 x hx).1) hk hk0 hle.1 λ e he=>⟨(hle.2 e he).1,(hle.2 e he).2.2.1⟩
  .have h0:=hle.2 e he
   have h1:=(zgn hp h0.1).1 hc;have h2:=zlQ hgl he h1.2;refine ⟨?_,(zeB hgl).2 ⟨⟨h0.2.2.1,h0.2.2.2⟩,h2.1⟩⟩;unfold zag at he;have h3:=Qw.1 he;refine ⟨e,h3.1,rfl,rfl,?_⟩;have:=h3.2;simp at this;omega
  .exact Qw.2 ⟨hx,by simpa using hmo x (hse.2 x hx).1 hc⟩
 obtain ⟨q1,q2,q3,q4⟩:=zpF hnet hf hw hs (zgV hp);refine ⟨by rw [Qt,hl,hpe.length_eq],hpe.nodup_iff.2 hk,λ w hwW=>?_,λ k hkl=>hpe.mem_iff.2 (q3 k hkl),q2,q1⟩
 obtain ⟨⟨k,hk1,hk2⟩,h2,h3⟩:=q4 w hwW;have hk3:=Qw.1 hk2;have hk4 : k∈ordL (zag g p.lv) p.seeds:=by simpa using hk3.2
 refine ⟨⟨k,hk1,hk3.1⟩,λ x hx=>?_,h2,λ i hi=>(h3 i hi).1⟩;obtain ⟨i,hi,rfl⟩:=QF.1 hx
 cases i with
 | zero =>
   rw [List.head?_eq_getElem?,Qa hi] at hk1;rw [Qf hk1];exact hk4
 | succ i=>exact (h3 i hi).2
theorem GrOk.edges_le {g : Gr} (h : GrOk g) : g.edges.length<=500:=h.1.2.2.1
theorem zbe {g : Gr} {p : Pol} : (zaH g p).length=g.size.toNat:=by simp [zaH,zaW,zag]
def zbW (g : Gr) (p : Pol) (k : Nat) : List Int:=(zaH g p).take k++(zaW (zag g p.lv) p.seeds).drop k
theorem zkc {g : Gr} {p : Pol} (k : Nat) (hk : k<=g.size.toNat) : (zbW g p k).length=g.size.toNat:=by simp [zbW,zbe,zaW,zag]; omega
theorem zn4 {g : Gr} {p : Pol} : zbW g p 0=zaW (zag g p.lv) p.seeds:=by simp [zbW]
theorem zpB {g : Gr} {p : Pol} : zbW g p g.size.toNat=zaH g p:=by
 unfold zbW;rw [Qb (by rw [zbe]; exact Ql _),Um (by simp [zaW,zag])]
 simp
theorem zqb {g : Gr} {p : Pol} {k : Nat} (hk : k<g.size.toNat) : (zbW g p k)[k]? = some (dist (zag g p.lv) p.seeds k):=by
 unfold zbW;rw [Qr (by simp [zbe]; omega)]
 simp [zbe,Nat.min_eq_left (Nat.le_of_lt hk),zaW,zag,hk]
theorem zqc {g : Gr} {p : Pol} {k : Nat} (hk : k<g.size.toNat) : (zaf (zbW g p k)).set k [AV.I (zcQ p (dist (zag g p.lv) p.seeds k))]=zaf (zbW g p (k+1)):=by
 rw [show [AV.I (zcQ p (dist (zag g p.lv) p.seeds k))]=(λ n : Int=>[AV.I n]) (zcQ p (dist (zag g p.lv) p.seeds k)) from rfl]
 show (List.map (λ n : Int=>[AV.I n]) (zbW g p k)).set k _=List.map (λ n : Int=>[AV.I n]) _;rw [<- List.map_set]
 congr 1
 have hc : k<(zaH g p).length:=by rw [zbe]; exact hk
 have hd : k<(zaW (zag g p.lv) p.seeds).length:=by simp [zaW,zag,hk]
 unfold zbW;rw [List.set_append,if_neg (by simp [zbe]; omega)]
 rw [show k - ((zaH g p).take k).length=0 by simp [zbe]; omega]
 rw [QQ hd,List.set_cons_zero,Qp hc,Qx]
 congr 2
 simp [zaH,zaW]
theorem zig (g : Gr) (p : Pol) (hg : GrOk g) (hs : p.seeds.length<=1099511627776) : AcP 160 [eG g,eP p] [] (.rs 0 0 g.size.toNat) [some ⟨1,zaf (zaH g p),0⟩]:=by
 refine zku.s.ac ?_;show awp _ 0 _ _ ⟨30,[(0,eG g),(1,eP p)],[],16⟩;have hsz:=hg.1.1;have hsz2:=hg.1.2.1;have hel:=hg.edges_le;have hgl:=hg.gone_le;have hall:=zcP (zag g p.lv) p.seeds (hg.level p.lv) hs;have hsl : (zag g p.lv).size=g.size:=rfl;rw [hsl,<- zn4] at hall;obtain ⟨N,hNe⟩ : ∃ N : Nat,N=g.size.toNat:=⟨_,rfl⟩;rw [<- hNe] at hall;have hml : ∀ k,k<=N->(zaf (zbW g p k)).length=N:=λ k hk=>by rw [Qt,zkc k (by omega),hNe]
 have hmg : ∀ (k : Nat) (h : k<(zbW g p k).length),k<N->(zbW g p k)[k]=dist (zag g p.lv) p.seeds k:=λ k h hk=>by
  have:=zqb (g:=g) (p:=p) (k:=k) (by omega)
  rw [Qa h] at this;exact Qf this
 have hml2 : ∀ k,k<=N->(zbW g p k).length=N:=λ k hk=>by rw [zkc k (by omega),hNe]
 have hms : ∀ k : Nat,k<N->(zaf (zbW g p k)).set k [AV.I (zcQ p (dist (zag g p.lv) p.seeds k))]=zaf (zbW g p (k+1)):=λ k hk=>zqc (by omega)
 refine rs [2,3] [] [16,24] ?_;refine zas ⟨30,[(3,.pv (pC p)),(5,.rs 88 0 N)],[(88,some ⟨1,zaf (zbW g p 0),0⟩)],104⟩ rfl ?_ ?_
 .simp
  refine cl0 (zbO g p.lv (by omega) (by omega)) ?_
  simp;refine zdg hall rfl ?_;simp [fcd];exact ⟨rfl,LeK⟩
 refine zab (rk (s:=?s3) [3,5,15,16,17] [88] rfl ?o3 ?q3)
 case o3=>simp; rfl
 refine zad (zaj (ι:=Nat) (λ i=>⟨30,[(3,.pv (pC p)),(5,.rs 88 0 N),(15,.rs 88 0 N),(16,.I N),(17,.I i)],[(88,some ⟨1,zaf (zbW g p i),0⟩)],128⟩) (λ i=>i<=N) (λ i=>N - i) 0 (by simp) (LeK) ?_)
 intro i hi;refine rk (s:=?s5) [3,5,15,16,17,18] [88] rfl ?o5 ?q5
 case o5=>simp; rfl
 refine zab (zac _ rfl (λ h6=>?_) λ h6=>?_)
 .simp at h6
  have hw : IntKind.i64.wrap ((i : Int)+1)=(i : Int)+1:=w6;refine zae (zab (zad (rk (s:=?s7) [3,5,6,7,15,16,17] [88] rfl ?o7 ?q7)))
  case o7=>simp [h6,hml2,hmg,hi]; rfl
  refine zal (s:=?s8) rfl ?o8 ?q8
  case o8 =>
   simp;refine cl0 (zjs p (dist (zag g p.lv) p.seeds i)) ?_;simp [h6,hml2,hi,hms];rfl
  refine zal (s:=?s9) rfl ?o9 ?q9
  case o9=>simp [hw]; rfl
  exact ⟨i+1,by omega,by omega,LeI [(88,88)] []⟩
 simp at h6;obtain rfl : i=N:=by omega
 refine zai (hit (rk (s:=?s10) [4] [88] rfl ?o10 ?q10))
 case o10=>simp; rfl
 refine zah ⟨.inr rfl,zao.out [88] [] rfl (by simp) (by simp) (by simp [hNe]) (by simp [fcd,hNe,zpB])⟩
theorem ziY {g : Gr} {p : Pol} {k : Nat} (hk : k<g.size.toNat) : (zaH g p).take (k+1)=(zaH g p).take k++[zcQ p (dist (zag g p.lv) p.seeds k)]:=by
 rw [Qp (by rw [zbe]; exact hk)]
 simp [zaH,zaW]
theorem znf (g : Gr) (p : Pol) (hg : GrOk g) (hs : p.seeds.length<=1099511627776) : AcP 28 [eG g,eP p] [] (.rs 0 0 g.size.toNat) [some ⟨1,zaf (zaH g p),0⟩]:=by
 refine zqe.s.ac ?_;show awp _ 0 _ _ ⟨31,[(0,eG g),(1,eP p)],[],16⟩;have hsz:=hg.1.1;have hsz2:=hg.1.2.1;have hel:=hg.edges_le;have hgl:=hg.gone_le;have hall:=zdc (zag g p.lv) p.seeds (hg.level p.lv) hs;have hsl : (zag g p.lv).size=g.size:=rfl;rw [hsl] at hall;obtain ⟨N,hNe⟩ : ∃ N : Nat,N=g.size.toNat:=⟨_,rfl⟩;have hDl : (zaW (zag g p.lv) p.seeds).length=N:=by simp [zaW,zag,hNe]
 have hDg : ∀ (k : Nat) (h : k<(zaW (zag g p.lv) p.seeds).length),(zaW (zag g p.lv) p.seeds)[k]=dist (zag g p.lv) p.seeds k:=λ k h=>by simp [zaW]
 rw [<- hNe] at hall;obtain ⟨D,hD⟩ : ∃ D,D=zaW (zag g p.lv) p.seeds:=⟨_,rfl⟩;rw [<- hD] at hall hDl;simp only [<- hD] at hDg;have hcl : (zaH g p).length=N:=by rw [zbe,hNe]
 obtain ⟨C,hC0,hCs,hCl,hCN⟩ : ∃ C : Nat->List Int,C 0=[]/\(∀ k : Nat,k<N->C (k+1)=C k++[zcQ p (dist (zag g p.lv) p.seeds k)])/\(∀ k,k<=N->(C k).length=k)/\C N=zaH g p :=
  ⟨λ k=>(zaH g p).take k,by simp,λ k hk=>ziY (by omega),λ k hk=>by simp [hcl,hk],by simp [<- hcl]⟩
 refine rs [2,3] [] [16,24] ?_;refine zas ⟨31,[(3,.pv (pC p)),(5,ints D)],[],104⟩ rfl ?_ ?_
 .simp
  refine cl0 (zct g p.lv (by omega) (by omega)) ?_
  simp;refine zdg hall rfl ?_;simp [fcd];exact ⟨rfl,Le.snap [88] rfl rfl (by simp [fcd,<- hDl,zaq])⟩
 refine rs [3,5,6] [] [] ?_;refine zab (rs [3,5,6,7] [] [] ?_);refine zad (zaj (ι:=Nat) (λ i=>⟨31,[(3,.pv (pC p)),(5,ints D),(6,.rs 16 0 i),(7,.I i)],[(16,some ⟨1,zaf (C i),0⟩)],120⟩) (λ i=>i<=N) (λ i=>N - i) 0 (by simp) (Le.lst [] [] [(16,1)] rfl (by simp) (by simp) (by simp) (by simp) (by simp) (by simp) (by simp) (by simp [Up]) (by simp [hC0])) ?_)
 intro i hi;have hCi:=hCl i hi;have hti : ∀ f : Int->List AV,List.take i (List.map f (C i))=List.map f (C i):=λ f=>Qb (by simp [hCi])
 refine zab (rk (s:=?s5) [3,5,6,7,18] [16] rfl ?o5 ?q5)
 case o5=>simp [hDl]; rfl
 refine zac _ rfl (λ h6=>?_) λ h6=>?_
 .simp at h6
  have hw : IntKind.i64.wrap ((i : Int)+1)=(i : Int)+1:=w6;refine zae (zab (zad (zaP rfl ?_)));simp [h6,hDl,hDg];refine cl0 (zno p (dist (zag g p.lv) p.seeds i)) ?_;simp [hCi];refine ⟨by omega,by omega,rfl,?_⟩
  refine zan rfl ?_;simp [hw];exact ⟨i+1,by omega,by omega,Le.go [(216,16)] [] rfl rfl (by simp) (by simp [fcd,hCs i h6,hti])⟩
 simp at h6;obtain rfl : i=N:=by omega
 refine zai (hit (rk (s:=?s7) [4] [16] rfl ?o7 ?q7))
 case o7=>simp; rfl
 exact zah ⟨.inr rfl,zao.out [16] [] rfl (by simp) (by simp) (by simp [hNe]) (by simp [fcd,hCN])⟩
end Go.Proofs.YtkngdgplbojdlaaGreat
namespace Go.Proofs.YtkngdgplbojdlaaGreat
open Go Go.RowKit Go.Shelf Go.Maps Go.Sort
theorem arr2 {vs : Array Value} (h : vs.size=2) : vs = #[vs.getD 0 undef,vs.getD 1 undef]:=by
 apply Array.ext
 .simpa using h
 .intro i h1 h2
  have : i=0∨i=1:=by simp at h2; omega
  rcases this with rfl | rfl <;> simp [Array.getD,h1] <;> intro h3 <;> omega
theorem zs6 (x : Int) : (encZ x : Value) = .int .i64 x:=rfl
theorem zmY (l : List Int) (hl : l.length<=1099511627776) : AcP 204 [.nilS,.fn (.func 187) [] [.pv [ints l]]] [] (.rs 0 0 l.length) [some ⟨1,zaf l,0⟩]:=by
 refine ⟨⟨_,_,Tryz.func204,rfl,by decide⟩,by simp,λ T M w vs htok hhs hdom hrep=>?_⟩
 obtain ⟨hsz,hr⟩:=hrep;have hr0:=hr 0 (by simp)
 have hr1:=hr 1 (by simp)
 simp only [UO,List.getD_cons_succ] at hr0 hr1;rw [arr2 hsz];generalize vs.getD 0 undef=v0 at hr0;generalize vs.getD 1 undef=v1 at hr1
 cases hr0
 cases hr1 with
 | fn _ _ _ _ us ws hx hy h h' =>
 have hus : us = #[]:=by simpa using hx
 subst hus;have hws:=arr1 (vs:=ws) hy;have hc0:=h' 0 (by simp)
 simp only [UO] at hc0;rw [hws];generalize ws.getD 0 undef=u at hc0
 cases hc0 with
 | pv _ _ Bs B0 cells ty fz c hb ht hcc ho hh =>
 have hB:=hcc 0 (by simp)
 have hv:=hh 0 (by simp)
 simp only [UO,Ua] at hB hv;have hBl : Bs<w.heap.size:=(QN.1 hb).1;generalize c 0=sv at hB hv
 cases hv with
 | vs _ _ _ _ a cap cc hf hle hw hbb h1 hcv =>
 have hlen : (l.map λ n=>[AV.I n]).length=l.length:=by simp
 rw [hlen] at hB
 have hcell : ∃ b off,(l≠[]->a=some ⟨b,off,none⟩/\b<w.heap.size) /\ ∀ j (h : j<l.length),w.cell? ⟨b,off+j,none⟩=some (.int .i64 l[j]):=by
  by_cases h0 : l=[]
  .exact ⟨0,0,λ h=>absurd h0 h,λ j hj=>by subst h0; simp at hj⟩
  .obtain ⟨b,off,cs,ty',fz',ha,hwb,_,hrow⟩:=hbb (by simpa using h0)
   refine ⟨b,off,λ _=>⟨ha,(QN.1 hwb).1⟩,λ j hj=>?_⟩;have h2:=hrow j 0 (by simpa using hj) (by decide)
   have h3:=hcv j 0 (by simpa using hj) (by decide)
   have e : ((l.map λ n=>[AV.I n]).getD j []).getD 0 .dead = .I l[j]:=by simp [List.getD,hj]
   rw [e] at h3;have h4:=zaY h3 rfl;rw [h4] at h2;simp only [World.cell?,hwb]
   simpa using h2
 obtain ⟨b,off,hab,hcs⟩:=hcell;rw [<- callsIn_wide (n:=2)];refine (zll Fence.wide 2 trivial trivial rfl (by omega) Bs B0 b off cap a l (λ h=>(hab h).1) hl w ?_ hBl (λ h=>(hab h).2) hcs).mono ?_
 .simp only [World.cell?,hb]
  exact hB
 rintro e w' ⟨v,rfl,⟨_,hown⟩,hbel⟩
 have hpr : Pres T w T w':=⟨λ _=>Ql _,λ b' cs' ty' fz' h=>⟨cs',fz',by rw [hbel.block b' (QN.1 h).1]; exact h,rfl,λ _ _=>rfl⟩⟩
 have hT0 : ∀ b',w.heap.size<=b'->T b'=0:=λ b' hb'=>by
  rcases Ui (T b') with e | e
  .exact e
  .obtain ⟨cells,ty,fz,h1,_⟩:=htok b' e
   have:=(QN.1 h1).1;omega
 have htok' : TOk T w':=λ b' hb'=>by
  obtain ⟨cells,ty,fz,h1,h2⟩:=htok b' hb';exact ⟨cells,ty,fz,by rw [hbel.block b' (QN.1 h1).1]; exact h1,h2⟩
 have fin : ∀ g : GE,(∀ b,g.blk=some b->w.heap.size<=b)->zms T w' (λ k=>if k=0 then some g else none) ⟨1,zaf l,0⟩ g->Rep T w' (λ k=>if k=0 then some g else none) (.rs 0 0 l.length) v ->
   ∃ v' T' M',Ending.returned v = .returned v'/\Rep T' w' M' (.rs 0 0 l.length) v'/\HsOk T' w' M' (ziN [some ⟨1,zaf l,0⟩])/\zgF 0 T M w T' M' w':=by
  intro g hg ent hv;refine ⟨v,T,_,rfl,hv,?_,⟨htok',λ _ _ _=>rfl,λ k hk=>absurd hk (U4 k),hbel.os,hbel.tape,hbel.output,hbel.size,λ b' hb' _=>hbel.block b' hb',hpr,λ k g1 b1 _ h1 h2=>?_⟩⟩
  .rw [show ([some ⟨1,zaf l,0⟩] : List (Option Ent))=List.map some [⟨1,zaf l,0⟩] from rfl,zeN]
   have z : ∀ id e,hpOf [(⟨1,zaf l,0⟩ : Ent)] id=some e->id=0/\e=⟨1,zaf l,0⟩:=by
    intro id e he
    cases id with
    | zero=>simp [hpOf] at he; exact ⟨rfl,he.symm⟩
    | succ k=>simp [hpOf] at he
   refine ⟨λ id e he=>?_,λ id id' e e' _ _ _ h1 h2 _ _ _ _=>by rw [(z _ _ h1).1,(z _ _ h2).1]⟩
   obtain ⟨rfl,rfl⟩:=z _ _ he;exact ⟨g,rfl,ent⟩
  .by_cases hk : k=0
   .subst hk
    simp at h1;subst h1;exact .inr (hg b1 h2)
   .simp [hk] at h1
 have hwide : ∀ row∈zaf l,row.length=1:=by intro row hr; simp at hr; obtain ⟨x,_,rfl⟩:=hr; rfl
 rcases hown with ⟨rfl,h0⟩ | ⟨g,cp,cur,rfl,hg,hgw,hle2,hcm,hcsz,htk⟩
 .have h0' : l=[]:=UU.1 h0
  subst h0';exact fin ⟨none,0,1⟩ (by simp) ⟨rfl,Qi _,λ _=>hwide,(λ _=>rfl),(λ hz=>absurd hz (UN 0)),λ _ b' hb'=>by cases hb'⟩ (.rs _ _ _ _ _ _ _ rfl (UN 0) (Ql _) (λ _=>⟨rfl,rfl⟩) λ b' hb'=>by cases hb')
 .refine fin ⟨some g,0,1⟩ (λ b' hb'=>by cases hb'; exact hg) ⟨rfl,Qi _,λ _=>hwide,(λ hn=>by cases hn),(λ hz=>absurd hz (UN 0)),λ _ b' hb'=>?_⟩ (.rs _ _ _ _ cp _ _ rfl (UN 0) hle2 (λ hn=>by cases hn) λ b' hb'=>?_)
  .obtain rfl:=Qf hb'
   refine ⟨cur,3,hgw,by rw [hT0 g hg]; exact Qi _,by simp; omega,λ i j hi hj=>?_⟩
   have hi' : i<l.length:=by simpa using hi
   obtain rfl : j=0:=by simpa using hj
   refine ⟨.int .i64 l[i],?_,rfl,?_⟩
   .have : (cur.toList.take (l.length*1))[i]? = (l.map encZ)[i]?:=by rw [htk]
    rw [Ud,if_pos (by omega)] at this
    simpa [hi',zs6] using this
   .have e : ((zaf l).getD i []).getD 0 .dead = .I l[i]:=by simp [List.getD,hi']
    rw [e];exact .sc _ _ rfl
  .obtain rfl:=Qf hb'
   exact ⟨.inr (by simp),cur,3,(0,0),hgw,by simp; omega⟩
section
variable {P : Program} {np id : Nat} {h : Nat->Option Ent} {K : AV->List Nat->List (Nat × Option Ent)->Prop} {f : FuncId} {first capt args args' : List AV} {res : AV}
theorem zxj (sn : List Nat) (hnp : ∀ i∈sn,np<=i) (hc : zaU P f args' [] res []) (hw : (first++args++capt).map (conv [] sn h 4)=args')
  (hk : K (conv (((List.range 8).map (id + ·)).zipIdx.map λ (a,b)=>(b,a)) [] (λ _=>none) 4 res) sn (sn.filterMap λ i=>(h i).map λ e=>(i,some { e with ro:=e.rows.length }))) : aK P np id .call (.fn (.func f) first capt::args) h K :=
 ⟨[],sn,true,args',[],res,[],by simp,by simp,λ _=>hnp,by rw [List.zipIdx_nil,hw]; exact zbu _,rfl,hc,by simp,.inl rfl,by simpa using hk⟩
end
abbrev seqF (l : List Int) : AV:=.fn (.func 187) [] [.pv [ints l]]
theorem zrb (l : List Int) : AcP 163 [ints l] [] (seqF l) []:=by
 refine zdX.s.ac ?_;show awp _ 0 _ _ ⟨4,[(0,ints l)],[],16⟩;refine rk (s:=?s1) [1] [16] rfl ?o1 ?q1
 case o1=>simp; rfl
 refine rk (s:=?s2) [2] [16] rfl ?o2 ?q2
 case o2=>simp; rfl
 exact zah ⟨.inr rfl,zao.out [] [16] rfl (by simp) (by simp) (by simp) (by simp)⟩
theorem zqh (l : List Int) (hl : l.length<=1099511627776) : AcP 186 [seqF l] [] (.rs 0 0 l.length) [some ⟨1,zaf l,0⟩]:=by
 refine ze2.s.ac ?_;show awp _ 0 _ _ ⟨5,[(0,seqF l)],[],16⟩;refine rk (s:=?s1) [0] [] rfl ?o1 ?q1
 case o1=>simp; rfl
 refine rk (s:=?s2) [2] [32] rfl ?o2 ?q2
 case o2 =>
  simp;refine cn1 (zmY l hl) ?_;simp [fcd];rfl
 exact zah ⟨.inr rfl,zao.out [32] [] rfl (by simp) (by simp) (by simp) (by simp [fcd])⟩
theorem zqN (l : List Int) (hl : l.length<=1099511627776) : AcP 162 [seqF l] [] (.rs 0 0 l.length) [some ⟨1,zaf (zes l),0⟩]:=by
 refine zfw.s.ac ?_;show awp _ 0 _ _ ⟨9,[(0,seqF l)],[],16⟩;refine rk (s:=?s1) [0] [] rfl ?o1 ?q1
 case o1=>simp; rfl
 refine rk (s:=?s2) [3] [32] rfl ?o2 ?q2
 case o2 =>
  simp;refine cn1 (zqh l hl) ?_;simp [fcd];rfl
 refine rk (s:=?s3) [3] [32] rfl ?o3 ?q3
 case o3 =>
  simp;refine zaS (i:=32) rfl (e':=⟨1,zcA l,0⟩) (by simp [fcd,zcA]) (znD l (by omega)) (by simp) (by simp) ?_
  simp [fcd,zcA];rfl
 refine rk (s:=?s4) [2] [32] rfl ?o4 ?q4
 case o4=>simp; rfl
 exact zah ⟨.inr rfl,zao.out [32] [] rfl (by simp) (by simp) (by simp) (by simp [fcd])⟩
abbrev zbz (P : List (List Int)) : AV:=.vs 1 false (P.map λ w=>[ints w])
section
variable {P : Program} {np id : Nat} {h : Nat->Option Ent} {K : AV->List Nat->List (Nat × Option Ent)->Prop} {s s' l k : Nat} {f : Bool} {rows : List (List AV)}
@[simp] theorem zx8 : aK P np id (.slc s true true false) [.vs s' f rows,.sc (.int .i64 (l : Int)),.sc (.int .i64 (k : Int))] h K=(l<=k/\k<=rows.length/\s'=s/\K (.vs s false ((rows.drop l).take (k - l))) [] []):=by
 rw [zfR];refine propext ⟨?_,?_⟩
 .rintro ⟨l',r,m,n,h1,h2,h4,h5,h6,h7,h3,h10,h8,h9⟩
  simp at h4 h1;subst h1;obtain ⟨rfl,rfl⟩ : l=l'/\k=r:=by omega
  exact ⟨h2,h3,h8,by simpa using h9⟩
 .rintro ⟨h1,h2,h3,h4⟩
  exact ⟨l,k,0,rows.length,rfl,h1,by simp,(λ h=>by cases h),(λ h=>by cases h),(λ h=>by cases h),h2,(λ h=>by cases h),h3,by simpa using h4⟩
end
theorem zh8 {g : Gr} {p : Pol} {n : Int} (hp : zaN n p) : ∀ c∈zaH g p,0<=c/\c<=1000:=by
 intro c hc;obtain ⟨d,_,rfl⟩:=Qg.1 hc;exact zff hp d
theorem zt5 {g : Gr} {S : List Int} (hg : 0<=g.size) : (ordL g S).length<=g.size.toNat:=by
 have h:=zaL (a:=ordL g S) (b:=(List.range g.size.toNat).map λ (i : Nat)=>(i : Int)) (za3 g S) λ x hx=>by
  have:=zbD hx;exact Qg.2 ⟨x.toNat,QA.2 (by omega),by show ((x.toNat : Nat) : Int)=x; omega⟩
 simpa using h
abbrev nC (n : Net) : List AV:=[.I n.nodes,eEs n.arcs]
abbrev eN (n : Net) : AV:=.agg (nC n)
theorem zkV (f : FuncId) (capt : List AV) (q : Ed->Bool) (l : List Ed) (hl : l.length<=1099511627776) (hs : zhk capt) (hc : ∀ e∈l,AcP f (eE e::capt) [] (.B (q e)) []) : AcP 201 [eEs l,.fn (.func f) [] capt] [] (.I (idxQ l q)) []:=by
 have hs2 : ∀ ρ sn h,capt.map (conv ρ sn h 2)=capt:=λ _ _ _=>hs _ _ _ 1
 have hs3 : ∀ ρ sn h,capt.map (conv ρ sn h 3)=capt:=λ _ _ _=>hs _ _ _ 2
 have hs4 : ∀ ρ sn h,capt.map (conv ρ sn h 4)=capt:=λ _ _ _=>hs _ _ _ 3
 refine zb4.s.ac ?_;show awp _ 0 _ _ ⟨19,[(0,eEs l),(1,.fn (.func f) [] capt)],[],16⟩;refine zab (zam ?_);refine zab (zab (zam ?_));refine zad (zaj (ι:=Nat) (λ k=>⟨19,[(0,eEs l),(1,.fn (.func f) [] capt),(7,.I l.length),(8,.I k)],[],16⟩) (λ k=>k<=l.length /\ ∀ i,i<k -> ∀ h : i<l.length,q l[i]=false) (λ k=>l.length - k) (0) ?_ (Le.snap [] rfl rfl (by simp [hs2,hs3,hs4])) ?_)
 .simp
 rintro k ⟨hk,hp⟩
 refine zab (zam ?_);refine zab (zac _ rfl (λ h4=>?_) λ h4=>?_)
 .try simp at h4
  have hw2 : IntKind.i64.wrap ((k : Int)+1)=(k : Int)+1:=w6;have hck:=hc l[k] (Qj h4);refine zae (zab (zad (zab (zal (s:=?s5) rfl ?o5 ?q5))))
  case o5=>simp [h4,hw2]; rfl
  refine zab (zal (s:=?s6) rfl ?o6 ?q6)
  case o6 =>
   simp [h4,hw2];refine zau hck ?_ ?_
   .simp [hs2,hs3,hs4]
   simp [h4,hw2]; rfl
  refine zac _ rfl (λ h7=>?_) λ h7=>?_
  .try simp at h7
   refine zab (zal (s:=?s8) rfl ?o8 ?q8)
   case o8=>simp [h4,hw2]; rfl
   exact zah ⟨.inr rfl,zao.one (by simp [zn1 h4 hp h7])⟩
  try simp at h7
  refine zae (zal (s:=?s9) rfl ?o9 ?q9)
  case o9=>simp [h4,hw2]; rfl
  refine ⟨k+1,⟨h4,λ i hi=>?_⟩,by omega,Le.snap [] rfl rfl (by simp [h4,hw2,hs2,hs3,hs4])⟩
  rcases QS.1 hi with h | rfl
  .exact hp i h
  .exact λ _=>h7
 try simp at h4
 have hall : ∀ i,i<l.length -> ∀ h : i<l.length,q l[i]=false:=λ i hi=>hp i (by omega)
 refine zai (hit (zab (zam ?_)));exact zah ⟨.inr rfl,zao.one (by simp [zor hall])⟩
theorem zhw (f : FuncId) (capt : List AV) (q : Ed->Bool) (l : List Ed) (hl : l.length<=1099511627776) (hs : zhk capt) (hc : ∀ e∈l,AcP f (eE e::capt) [] (.B (q e)) []) : AcP 176 [eEs l,.fn (.func f) [] capt] [] (.B (l.any q)) []:=by
 have hs2 : ∀ ρ sn h,capt.map (conv ρ sn h 2)=capt:=λ _ _ _=>hs _ _ _ 1
 have hs3 : ∀ ρ sn h,capt.map (conv ρ sn h 3)=capt:=λ _ _ _=>hs _ _ _ 2
 have hs4 : ∀ ρ sn h,capt.map (conv ρ sn h 4)=capt:=λ _ _ _=>hs _ _ _ 3
 refine zbG.s.ac ?_;show awp _ 0 _ _ ⟨9,[(0,eEs l),(1,.fn (.func f) [] capt)],[],16⟩;refine zab (zam ?_)
 have hi : decide (0<=idxQ l q)=l.any q:=by
  unfold idxQ
  by_cases h : l.findIdx q<l.length
  .rw [if_pos h]
   have:=Vc (w:=h);have h2 : l.any q=true:=Uq.2 ⟨_,Qj h,this⟩;rw [h2];simp
  .rw [if_neg h]
   have : l.findIdx q=l.length:=by have:=U8 (xs:=l) (p:=q); omega
   rw [UZ] at this
   have h2 : l.any q=false:=by
    rw [List.any_eq_false];intro x hx;simp [this x hx]
   rw [h2];simp
 refine zaa ⟨9,[(4,.B (l.any q))],[],16⟩ rfl ?_ ?_
 .simp
  refine zau (zkV f capt q l hl hs hc) ?_ ?_
  .simp [hs2,hs3,hs4]
  simp;exact Le.snap [] rfl rfl (by simp; exact wkB hi)
 exact zaI
theorem zhh (n : Net) (a : Ed) (h2 : 2<=n.nodes) (h3 : n.nodes<=130) : AcP 175 [eE a,.pv (nC n)] [] (.B (!decide (zgy n.nodes a))) []:=by
 refine zju.s.ac ?_;show awp _ 0 _ _ ⟨43,[(0,eE a),(1,.pv (nC n))],[],16⟩;have hw : IntKind.i64.wrap (n.nodes - 1)=n.nodes - 1:=w6;refine rs [1,2] [] [16] ?_;refine zaa ⟨43,[(3,.B (!decide (zgy n.nodes a)))],[],400⟩ rfl ?_ ?_
 .simp [hw]
  repeat' first
   | (refine zc8 37 rfl ?_; refine zau (zaJ ..) rfl ?_; simp [hw])
   | (refine zcb (λ hb=>?_) (λ hb=>?_) <;> (try rw [hb]) <;> (try simp at hb) <;> simp [hb,hw])
  all_goals exact Le.snap [] rfl rfl (by simp <;> exact wkB (by (try simp at *); grind [zgy]))
 exact zaI
theorem zgd (n : Net) (hl : n.arcs.length<=1099511627776) : AcP 138 [eN n] [] (.I (if zaT n then 0 else 16)) []:=by
 refine znC.s.ac ?_;show awp _ 0 _ _ ⟨21,[(0,eN n)],[],16⟩;refine rs [1] [] [16] ?_;refine rs [1,3] [] [] ?_;refine zab (zaa ⟨21,[(20,.B (!decide (zaT n)))],[],300⟩ rfl ?_ ?_)
 .by_cases h2 : 2<=n.nodes/\n.nodes<=130
  .have hcf:=zhw 175 [.pv (nC n)] (λ a=>!decide (zgy n.nodes a)) n.arcs hl (λ ρ sn h k=>by simp) (λ e _=>zhh n e h2.1 h2.2)
   simp;refine zau (zaJ ..) rfl ?_;simp [h2]
   by_cases h3 : n.arcs.length<=1200
   .simp [show ¬ (1200<n.arcs.length) by omega,show ¬ (1200<(n.arcs.length : Int)) by omega]
    refine cl0 hcf ?_;simp;refine Le.snap [] rfl rfl (by simp <;> exact wkB (by rw [QE]; simp [zaT,h2,h3]))
   .simp [show (1200<n.arcs.length) by omega,show (1200<(n.arcs.length : Int)) by omega]
    refine Le.snap [] rfl rfl (by simp [zaT,h3])
  .simp
   refine zau (zaJ ..) rfl ?_;have h2' : (decide (2<=n.nodes) && decide (n.nodes<=130))=false:=by simpa using λ h=>by omega
   simp [h2'];have hn : ¬ zaT n:=λ h=>h2 ⟨h.1,h.2.1⟩;refine Le.snap [] rfl rfl (by simp [hn])
 refine zac _ rfl (λ h7=>?_) λ h7=>?_
 .simp at h7
  refine rs [2] [] [] ?_;exact zah ⟨.inr rfl,zao.one (by simp [h7])⟩
 simp at h7;refine zae (rs [2] [] [] ?_);exact zah ⟨.inr rfl,zao.one (by simp [h7])⟩
def zoR (n : Net) : Prop:=(2<=n.nodes/\n.nodes<=130)/\n.arcs.length<=1200
def zr3 (n : Net) (i : Nat) : Prop:=∀ h : i<n.arcs.length,zgy n.nodes n.arcs[i]
theorem zgm {n : Net} : zaT n↔zoR n /\ ∀ i,zr3 n i:=by
 unfold zaT zoR zr3;constructor
 .rintro ⟨a,b,c,d⟩
  exact ⟨⟨⟨a,b⟩,c⟩,λ i h=>d _ (Qj h)⟩
 .rintro ⟨⟨⟨a,b⟩,c⟩,d⟩
  exact ⟨a,b,c,λ x hx=>by obtain ⟨i,hi,rfl⟩:=Ut hx; exact d i hi⟩
open Classical in
theorem zeY (n : Net) (hl : n.arcs.length<=1099511627776) : AcP 117 [eN n] [] (.I (if zaT n then 0 else 16)) []:=by
 refine znd.s.ac ?_;show awp _ 0 _ _ ⟨80,[(0,eN n)],[],16⟩;refine rs [1] [] [16] ?_;refine zab (zaa ⟨80,[(1,.pv (nC n)),(18,.B (!decide (zoR n)))],[],300⟩ rfl ?_ ?_)
 .simp
  repeat' first
   | (refine zcb (λ hb=>?_) (λ hb=>?_) <;> (try rw [hb]) <;> (try simp at hb) <;> simp [hb])
  all_goals exact Le.snap [] rfl rfl (by simp <;> exact wkB (by (try simp at *); grind [zoR]))
 refine zac _ rfl (λ h3=>?_) λ h3=>?_
 .simp at h3
  refine rs [2] [] [] ?_;exact zah ⟨.inr rfl,zao.one (by simp [zgm,h3])⟩
 simp at h3;refine zae (zab (rs [1,3] [] [] ?_));refine zad (zaj (ι:=Nat) (λ i=>⟨80,[(1,.pv (nC n)),(3,.I i)],[],308⟩) (λ i=>i<=n.arcs.length /\ ∀ k,k<i->zr3 n k) (λ i=>n.arcs.length - i) 0 (by simp) (LeH [] []) ?_)
 rintro i ⟨hi,hp⟩
 refine zab (rs [1,3,23] [] [] ?_);refine zac _ rfl (λ h7=>?_) λ h7=>?_
 .simp at h7
  have hw : IntKind.i64.wrap ((i : Int)+1)=(i : Int)+1:=w6;refine zae (zab (zad (zaa ⟨80,[(1,.pv (nC n)),(3,.I i),(4,.pv (eC n.arcs[i]))],[],408⟩ rfl ?_ ?_)))
  .simp [h7]
   exact Le.snap [388] rfl rfl (by simp)
  refine zaa ⟨80,[(1,.pv (nC n)),(3,.I i),(79,.B (!decide (zr3 n i)))],[],900⟩ rfl ?_ ?_
  .simp
   have hat : zr3 n i↔zgy n.nodes n.arcs[i]:=⟨λ h=>h h7,λ h _=>h⟩
   repeat' first
    | (refine zcb (λ hb=>?_) (λ hb=>?_) <;> (try rw [hb]) <;> (try simp at hb) <;> simp [hb])
   all_goals exact Le.snap [] rfl rfl (by simp <;> exact wkB (by (try simp at *); simp only [hat]; grind [zgy]))
  refine zac _ rfl (λ h9=>?_) λ h9=>?_
  .refine rs [2] [] [] ?_
   refine zah ?_;have hn : ¬ zaT n:=λ h=>by simp at h9; exact h9 ((zgm.1 h).2 i)
   exact ⟨.inr rfl,zao.one (by simp [hn])⟩
  simp at h9;refine zae (zam ?_);refine ⟨i+1,⟨h7,λ k hk=>?_⟩,by omega,Le.go [] [] rfl rfl (by simp [hw]) (by simp)⟩
  rcases QS.1 hk with h | rfl
  .exact hp k h
  .exact h9
 simp at h7;have hy : zaT n:=zgm.2 ⟨h3,λ k hk=>hp k (by omega) hk⟩
 refine zai (hit (rs [2] [] [] ?_));exact zah ⟨.inr rfl,zao.one (by simp [hy])⟩
section
variable {P : Program} {np id : Nat} {h : Nat->Option Ent} {K : AV->List Nat->List (Nat × Option Ent)->Prop} {f : FuncId} {first capt args args' : List AV} {res : AV}
theorem zfs {i j : Nat} {e1 e2 e1' e2' : Ent} {hs' : List (Option Ent)} (hij : i≠j) (h1 : h i=some e1) (h2 : h j=some e2) (he1 : zaw [(i,0),(j,1)] [] h 4 e1=e1') (he2 : zaw [(i,0),(j,1)] [] h 4 e2=e2')
  (hc : zaU P f args' [e1',e2'] res hs') (h8 : hs'.length<=10) (he : (first++args++capt).map (conv [(i,0),(j,1)] [] h 4)=args')
  (hk : K (conv (swp [i,j] id) [] (λ _=>none) 4 res) [i,j] (hs'.zipIdx.map λ (e,k)=>((i::j::(List.range 8).map (id + ·)).getD k 0,e.map (zaw (swp [i,j] id) [] (λ _=>none) 4)))) : aK P np id .call (.fn (.func f) first capt::args) h K :=
 ⟨[i,j],[],true,args',[e1',e2'],res,hs',by simp [hij],by simp,by simp,by rw [show [i,j].zipIdx=[(i,0),(j,1)] from rfl,he]; exact zbu _,by
  rw [show [i,j].zipIdx=[(i,0),(j,1)] from rfl]
  simp only [Qn,Uz,h1,h2,Q7,he1,he2],hc,by simpa using h8,.inl rfl,by simpa [swp] using hk⟩
end
theorem zbq (k : Int) (h : 0<=k) (h2 : k<=1000000) : AcP 158 [.I k] [] (.I (2+2*k)) []:=by
 refine zlF.s.ac ?_;show awp _ 0 _ _ ⟨6,[(0,.I k)],[],16⟩;have hw1 : IntKind.i64.wrap (2*k)=2*k:=w6;have hw2 : IntKind.i64.wrap (2+2*k)=2+2*k:=w6;refine rs [0] [] [] ?_;refine rx (s:=?s2) [2] [] [] rfl ?o2 ?q2
 case o2=>simp [hw1,hw2]; rfl
 exact zaI
theorem zft (k : Int) (h : 0<=k) (h2 : k<=1000000) : AcP 161 [.I k] [] (.I (3+2*k)) []:=by
 refine znP.s.ac ?_;show awp _ 0 _ _ ⟨_,[(0,.I k)],[],16⟩;have hw2 : IntKind.i64.wrap (2+2*k+1)=3+2*k:=by rw [w6]; omega
 refine rs [0] [] [] ?_;refine rx (s:=?s2) [2] [] [] rfl ?o2 ?q2
 case o2=>simp; refine zau (zbq k h h2) (by simp) ?_; simp [hw2]; rfl
 exact zaI
theorem zcs (k : Int) (h : 0<=k) (h2 : k<=1000000) : AcP 156 [.I k] [] (.I (2+2*k)) []:=by
 refine zl1.s.ac ?_;show awp _ 0 _ _ ⟨_,[(0,.I k)],[],16⟩;have hw1 : IntKind.i64.wrap (2*k)=2*k:=w6;have hw2 : IntKind.i64.wrap (2+2*k)=2+2*k:=w6;refine rs [0] [] [] ?_;refine rx (s:=?s2) [2] [] [] rfl ?o2 ?q2
 case o2=>simp [hw1,hw2]; rfl
 exact zaI
theorem zfY (k : Int) (h : 0<=k) (h2 : k<=1000000) : AcP 157 [.I k] [] (.I (3+2*k)) []:=by
 refine zoj.s.ac ?_;show awp _ 0 _ _ ⟨_,[(0,.I k)],[],16⟩;have hw1 : IntKind.i64.wrap (2*k)=2*k:=w6;have hw2 : IntKind.i64.wrap (3+2*k)=3+2*k:=w6;refine rs [0] [] [] ?_;refine rx (s:=?s2) [2] [] [] rfl ?o2 ?q2
 case o2=>simp [hw1,hw2]; rfl
 exact zaI
abbrev outV (N : Int) (B n : Nat) : Ent:=⟨2,[[.I N,.rs B 0 n]],0⟩
theorem zo1 (N f t v : Int) (L : List Ed) (n : Nat) (hL : L.length=n) (hn : n<=1000000) : AcP 159 [.I f,.I t,.I v,.pt 0 0 0] [outV N 1 n,⟨3,zaC L,0⟩] (.tup []) [some (outV N 2 (n+1)),none,some ⟨3,zaC (L++[⟨f,t,v⟩]),0⟩]:=by
 refine zgC.s.acalls (nbz rfl) (nbz rfl) (nbz rfl) ?_;show awp _ 2 _ _ ⟨16,[(0,.I f),(1,.I t),(2,.I v),(3,.pt 0 0 0)],[(0,some (outV N 1 n)),(1,some ⟨3,zaC L,0⟩)],16⟩;have htl : ∀ f : Ed->List AV,List.take n (List.map f L)=List.map f L:=λ f=>Qb (by simp [hL])
 refine zal (s:=?s1) rfl ?o1 ?q1
 case o1=>simp [hL,htl]; refine ⟨by omega,by omega,?_⟩; rfl
 refine ⟨.inl rfl,⟨[],rfl,[72],[],by simp [List.range,List.range.loop],by simp,by simp,by simp,?_⟩⟩
 simp [List.range,List.range.loop]
def arc1 (c : List Int) (x : Int) : List Ed:=if 0<c.getD x.toNat 0 then [⟨0,2+2*x,c.getD x.toNat 0⟩] else []
def arc2 (c : List Int) (i : Nat) : List Ed:=if 0<c.getD i 0 then [⟨2+2*(i : Int),3+2*(i : Int),c.getD i 0 - 1⟩] else []
def arc3 (c : List Int) (x : Int) : List Ed:=if 0<c.getD x.toNat 0 then [⟨2+2*x,1,1⟩] else []
def arc4 (c : List Int) (e : Ed) : List Ed:=if 0<c.getD e.f.toNat 0 then [⟨3+2*e.f,2+2*e.t,64⟩] else []
theorem zb9 {α : Type} (q : α->Bool) (f : α->Ed) (l : List α) : (l.filter q).map f=l.flatMap λ x=>if q x=true then [f x] else []:=by
 induction l with
 | nil=>rfl
 | cons x l ih=>by_cases h : q x=true <;> simp [h,ih]
theorem zed (g : Gr) (p : Pol) (c sinks : List Int) : zaQ g p c sinks=p.seeds.flatMap (arc1 c)++(List.range c.length).flatMap (arc2 c)++sinks.flatMap (arc3 c)++(zag g p.lv).edges.flatMap (arc4 c):=by
 unfold zaQ;rw [zb9,zb9,zb9,zb9];simp only [Qe];rfl
theorem zcv {α : Type} (f : α->List Ed) (l : List α) (i : Nat) (h : i<l.length) : (l.take (i+1)).flatMap f=(l.take i).flatMap f++f l[i]:=by
 rw [Qp h,List.flatMap_append];simp
theorem zbE {α : Type} (f : α->List Ed) (hf : ∀ x,(f x).length<=1) (l : List α) : (l.flatMap f).length<=l.length:=by
 induction l with
 | nil=>simp
 | cons x l ih=>rw [Vh,Qh,QM]; have:=hf x; omega
theorem zfK (c : List Int) (x : Int) : (arc1 c x).length<=1:=by unfold arc1; split <;> simp
theorem zfW (c : List Int) (x : Nat) : (arc2 c x).length<=1:=by unfold arc2; split <;> simp
theorem zfJ (c : List Int) (x : Int) : (arc3 c x).length<=1:=by unfold arc3; split <;> simp
theorem zgc (c : List Int) (x : Ed) : (arc4 c x).length<=1:=by unfold arc4; split <;> simp
theorem za9 {α : Type} (f : α->List Ed) (hf : ∀ x,(f x).length<=1) (l : List α) (i : Nat) : ((l.take i).flatMap f).length<=l.length:=QH (zbE f hf _) (Ve i l)
theorem zhe (g : Gr) (p : Pol) (sinks : List Int) (hg : GrOk g) (hp : zaN g.size p) (hr : Rise sinks 0 (g.size - 1)) (hs : p.seeds.length<=64) (hsl : sinks.length<=64) :
  AcP 121 [eG g,eP p,ints sinks] [] (.tup [eN ⟨2+2*g.size,zaQ g p (zaH g p) sinks⟩,.I 0]) []:=by
 refine zi9.s.ac ?_;show awp _ 0 _ _ ⟨123,[(0,eG g),(1,eP p),(2,ints sinks)],[],16⟩;have hsz:=hg.1.1;have hsz2:=hg.1.2.1;have hel:=hg.edges_le;have hgl:=hg.gone_le;have hchk:=zbA g p (by omega) (by omega) (by omega) (by have:=hp.2.2.2.1; omega)
 rw [if_pos hg,if_pos hp] at hchk;have hcap:=zig g p hg (by omega)
 have hcb:=zh8 (g:=g) hp;have hcl : (zaH g p).length=g.size.toNat:=zbe;rw [<- hcl] at hcap;have hlev:=zbO g p.lv (by omega) (by omega)
 rw [zed];obtain ⟨C,hC⟩ : ∃ C,C=zaH g p:=⟨_,rfl⟩;rw [<- hC] at hcap hcl hcb ⊢;have hGe : ∀ e∈(zag g p.lv).edges,e∈g.edges:=λ e he=>(Qw.1 he).1;have hGl : (zag g p.lv).edges.length<=500:=QH (QV ..) hel;obtain ⟨G,hG⟩ : ∃ G,G=zag g p.lv:=⟨_,rfl⟩;rw [<- hG] at hlev hGe hGl ⊢;have hw1 : IntKind.i64.wrap (g.size - 1)=g.size - 1:=w6
 have hfit : ∀ e∈G.edges,(0<=e.f/\e.f<g.size)/\(0<=e.t/\e.t<g.size):=λ e he=>by
  have:=hg.fits e (hGe e he);unfold Fits at this;omega
 have hkey : ∀ k : Int,0<=k->k<g.size -> ∃ j : Nat,k=j/\j<C.length/\j<64:=λ k h0 h1=>⟨k.toNat,by omega,by omega,by omega⟩
 have hseed : ∀ k∈p.seeds,∃ j : Nat,k=j/\j<C.length/\j<64:=λ k hk=>by
  obtain ⟨i,hi,rfl⟩:=Ut hk;have:=hp.2.1 i hi;exact hkey _ (by omega) (by omega)
 have hsink : ∀ k∈sinks,∃ j : Nat,k=j/\j<C.length/\j<64:=λ k hk=>by
  obtain ⟨i,hi,rfl⟩:=Ut hk;have:=hr i hi;exact hkey _ (by omega) (by omega)
 refine zaa ⟨123,[(2,ints sinks),(3,.pv (gC g)),(4,.pv (pC p)),(6,.pt 32 0 0)],[(32,some ⟨2,[[.I 0,.nilS]],0⟩)],48⟩ rfl ?_ ?_
 .simp
  exact LeH [(32,32)] [16,24]
 refine zab (rk (s:=?s2) [2,3,4,6,8] [32] rfl ?o2 ?q2)
 case o2=>simp; refine zau hchk (by simp) ?_; simp; rfl
 refine rk (s:=?s3) [2,3,4,6,24] [32] rfl ?o3 ?q3
 case o3=>simp; rfl
 refine zac _ rfl (λ h4=>?_) λ h4=>zae ?_
 .simp at h4
 refine zab (rk (s:=?s5) [2,3,4,6,32] [32] rfl ?o5 ?q5)
 case o5=>simp [hw1]; refine zau (zcR sinks 0 (g.size - 1) (by omega)) (by simp) ?_; simp [hr]; rfl
 refine zac _ rfl (λ h6=>?_) λ h6=>zae ?_
 .simp at h6
 refine rk (s:=?s7) [2,3,4,6,9] [32,176] rfl ?o7 ?q7
 case o7=>simp; refine zau (zbq g.size hsz (by omega)) (by simp) ?_; simp; rfl
 obtain ⟨N,hN⟩ : ∃ N : Int,N=2+2*g.size:=⟨_,rfl⟩;simp only [<- hN];refine rk (s:=?s8) [2,3,4,6,9,10] [32,176] rfl ?o8 ?q8
 case o8=>simp; rfl
 refine zaa ⟨123,[(2,ints sinks),(3,.pv (gC g)),(4,.pv (pC p)),(6,.pt 32 0 0),(9,.pt 176 0 0),(10,.fn (.func 159) [] [.pt 176 0 0]),(11,ints C)],[(32,some ⟨2,[[.I 0,.nilS]],0⟩),(176,some ⟨2,[[.I N,.nilS]],0⟩)],240⟩ rfl ?_ ?_
 .simp
  refine cn1 hcap ?_;simp [fcd];exact Le.go [(32,32),(176,176)] [224] rfl rfl (by simp [fcd,zaq]) (by simp)
 have hb1 : (p.seeds.flatMap (arc1 C)).length<=64:=QH (zbE _ (zfK C) _) hs;have hb2 : ((List.range C.length).flatMap (arc2 C)).length<=64:=QH (zbE _ (zfW C) _) (by rw [UB]; omega)
 have hb3 : (sinks.flatMap (arc3 C)).length<=64:=QH (zbE _ (zfJ C) _) hsl;have hb4 : (G.edges.flatMap (arc4 C)).length<=500:=QH (zbE _ (zgc C) _) hGl;obtain ⟨X1,hX1⟩ : ∃ X,X=p.seeds.flatMap (arc1 C):=⟨_,rfl⟩;obtain ⟨X2,hX2⟩ : ∃ X,X=(List.range C.length).flatMap (arc2 C):=⟨_,rfl⟩;obtain ⟨X3,hX3⟩ : ∃ X,X=sinks.flatMap (arc3 C):=⟨_,rfl⟩;obtain ⟨X4,hX4⟩ : ∃ X,X=G.edges.flatMap (arc4 C):=⟨_,rfl⟩;obtain ⟨Z2,hZ2⟩ : ∃ Z,Z=X1++X2:=⟨_,rfl⟩;obtain ⟨Z3,hZ3⟩ : ∃ Z,Z=Z2++X3:=⟨_,rfl⟩;obtain ⟨Z4,hZ4⟩ : ∃ Z,Z=Z3++X4:=⟨_,rfl⟩;rw [<- hX1] at hb1;rw [<- hX2] at hb2;rw [<- hX3] at hb3;rw [<- hX4] at hb4;rw [<- hX1,<- hX2,<- hX3,<- hX4,<- hZ2,<- hZ3,<- hZ4];have hz2 : Z2.length<=128:=by rw [hZ2,Qh]; omega
 have hz3 : Z3.length<=192:=by rw [hZ3,Qh]; omega
 refine zab (rk (s:=?sa1) [2,3,4,6,9,10,11,43,44,45] [32,176] rfl ?oa1 ?qa1)
 case oa1=>simp; rfl
 refine zad ?_
 obtain ⟨Fa,Fa0,Fas,Fal,FaN⟩ : ∃ F : Nat->List Ed,F 0=[]/\(∀ i (h : i<(p.seeds).length),F (i+1)=F i++arc1 C (p.seeds)[i])/\(∀ i,(F i).length<=64)/\F (p.seeds).length=(p.seeds).flatMap (arc1 C) :=
  ⟨λ i=>((p.seeds).take i).flatMap (arc1 C),by simp,λ i h=>by simp only [zcv _ _ i h,Qx],λ i=>by have:=za9 _ (zfK C) (p.seeds) i; exact QH this hs,by simp⟩
 rw [<- hX1] at FaN;refine zaj (ι:=Nat) (λ i=>⟨123,[(2,ints sinks),(3,.pv (gC g)),(4,.pv (pC p)),(6,.pt 32 0 0),(9,.pt 176 0 0),(10,.fn (.func 159) [] [.pt 176 0 0]),(11,ints C),(43,ints p.seeds),(44,.I p.seeds.length),(45,.I i)],[(32,some ⟨2,[[.I 0,.nilS]],0⟩),(176,some (outV N 16 (Fa i).length)),(16,some ⟨3,zaC (Fa i),0⟩)],272⟩) (λ i=>i<=p.seeds.length) (λ i=>p.seeds.length - i) 0 (Qi _) (Le.lst [(32,32),(176,176)] [] [(16,3)] rfl (by simp) (by simp) (by simp) (by simp) (by simp) (by simp) (by simp) (by simp [Up]) (by simp [Fa0]; refine ⟨zaA.rfl' (by simp),zaA.row rfl (by omega) (by simp [UpL,Up])⟩)) ?_
 intro i hi;refine rk (s:=?sa2) [2,3,4,6,9,10,11,43,44,45,46] [32,176,16] rfl ?oa2 ?qa2
 case oa2=>simp; rfl
 refine zab (zac _ rfl (λ h7=>?_) λ h7=>?_)
 .simp at h7
  have hw : IntKind.i64.wrap ((i : Int)+1)=(i : Int)+1:=w6;have hFi:=Fal i;obtain ⟨k,hk,hkC,hk64⟩:=hseed _ (Qj h7)
  have hFn : Fa (i+1)=Fa i++if 0<C[k] then [⟨0,2+2*(k : Int),C[k]⟩] else []:=by
   rw [Fas i h7,hk];unfold arc1;simp [hkC]
  refine zae (zap (ι:=Unit) (λ _=>⟨123,[(2,ints sinks),(3,.pv (gC g)),(4,.pv (pC p)),(6,.pt 32 0 0),(9,.pt 176 0 0),(10,.fn (.func 159) [] [.pt 176 0 0]),(11,ints C),(43,ints p.seeds),(44,.I p.seeds.length),(45,.I i)],[(32,some ⟨2,[[.I 0,.nilS]],0⟩),(176,some (outV N 16 (Fa (i+1)).length)),(16,some ⟨3,zaC (Fa (i+1)),0⟩)],700⟩) (λ _=>True) ?_ λ _ _=>?_)
  .refine zad (rk (s:=?sa3) [2,3,4,6,9,10,11,13,43,44,45] [32,176,16] rfl ?oa3 ?qa3)
   case oa3=>simp [h7,hk]; rfl
   refine rk (s:=?sa4) [2,3,4,6,9,10,11,13,43,44,45,53] [32,176,16] rfl ?oa4 ?qa4
   case oa4=>simp [hkC]; rfl
   refine zac _ rfl (λ h8=>?_) λ h8=>?_
   .simp at h8
    rw [if_pos h8] at hFn;refine zaP rfl ?_;simp [hkC];refine cl0 (zbq k (by omega) (by omega)) ?_
    simp [hkC];refine zfs (i:=176) (j:=16) (by decide) rfl rfl (e1':=outV N 1 (Fa i).length) (e2':=⟨3,zaC (Fa i),0⟩) (by simp) (by simp [fcd]) (zo1 N 0 (2+2*(k : Int)) C[k] (Fa i) _ rfl (by omega)) (by simp) (by simp) ?_
    simp [fcd];exact ⟨rfl,Le.go [(32,32),(176,176),(400,16)] [] rfl rfl (by simp [hFn]) (by simp [hFn,fcd])⟩
   .simp at h8
    rw [if_neg (by omega)] at hFn
    exact zae ⟨(),trivial,Le.go [(32,32),(176,176),(16,16)] [] rfl rfl (by simp [hFn]) (by simp [hFn,fcd])⟩
  refine zam ?_;exact ⟨i+1,by omega,by omega,Le.go [(32,32),(176,176),(16,16)] [] rfl rfl (by simp [hw]) (by simp [fcd])⟩
 simp at h7;obtain rfl : i=p.seeds.length:=by omega
 rw [FaN];refine zai (hit ?_);refine zab (rk (s:=?sb1) [2,3,4,6,9,10,11,63,64,65] [32,176,16] rfl ?ob1 ?qb1)
 case ob1=>simp; rfl
 refine zad ?_
 obtain ⟨Fb,Fb0,Fbs,Fbl,FbN⟩ : ∃ F : Nat->List Ed,F 0=X1/\(∀ i (h : i<(List.range C.length).length),F (i+1)=F i++arc2 C (List.range C.length)[i])/\(∀ i,(F i).length<=200)/\F (List.range C.length).length=X1++(List.range C.length).flatMap (arc2 C) :=
  ⟨λ i=>X1++((List.range C.length).take i).flatMap (arc2 C),by simp,λ i h=>by simp only [zcv _ _ i h,Qx],λ i=>by have:=za9 _ (zfW C) (List.range C.length) i; rw [UB] at this; rw [Qh]; omega,by simp⟩
 rw [UB,<- hX2,<- hZ2] at FbN;refine zaj (ι:=Nat) (λ i=>⟨123,[(2,ints sinks),(3,.pv (gC g)),(4,.pv (pC p)),(6,.pt 32 0 0),(9,.pt 176 0 0),(10,.fn (.func 159) [] [.pt 176 0 0]),(11,ints C),(63,ints C),(64,.I C.length),(65,.I i)],[(32,some ⟨2,[[.I 0,.nilS]],0⟩),(176,some (outV N 16 (Fb i).length)),(16,some ⟨3,zaC (Fb i),0⟩)],304⟩) (λ i=>i<=C.length) (λ i=>C.length - i) 0 (Qi _) (Le.go [(32,32),(176,176),(16,16)] [] rfl rfl (by simp [Fb0]) (by simp [Fb0,fcd])) ?_
 intro i hi;refine rk (s:=?sb2) [2,3,4,6,9,10,11,63,64,65,66] [32,176,16] rfl ?ob2 ?qb2
 case ob2=>simp; rfl
 refine zab (zac _ rfl (λ h7=>?_) λ h7=>?_)
 .simp at h7
  have hw : IntKind.i64.wrap ((i : Int)+1)=(i : Int)+1:=w6;have hFi:=Fbl i;have hkC:=h7
  have hFn : Fb (i+1)=Fb i++if 0<C[i] then [⟨2+2*(i : Int),3+2*(i : Int),C[i] - 1⟩] else []:=by
   rw [Fbs i (by simpa using h7)]
   unfold arc2;simp [hkC]
  have hci:=hcb _ (Qj h7);have hwc : IntKind.i64.wrap (C[i] - 1)=C[i] - 1:=w6;refine zae (zap (ι:=Unit) (λ _=>⟨123,[(2,ints sinks),(3,.pv (gC g)),(4,.pv (pC p)),(6,.pt 32 0 0),(9,.pt 176 0 0),(10,.fn (.func 159) [] [.pt 176 0 0]),(11,ints C),(63,ints C),(64,.I C.length),(65,.I i)],[(32,some ⟨2,[[.I 0,.nilS]],0⟩),(176,some (outV N 16 (Fb (i+1)).length)),(16,some ⟨3,zaC (Fb (i+1)),0⟩)],700⟩) (λ _=>True) ?_ λ _ _=>?_)
  .refine zad (rk (s:=?sb3) [2,3,4,6,9,10,11,14,15,63,64,65] [32,176,16] rfl ?ob3 ?qb3)
   case ob3=>simp [h7]; rfl
   refine rk (s:=?sb4) [2,3,4,6,9,10,11,14,15,63,64,65,71] [32,176,16] rfl ?ob4 ?qb4
   case ob4=>simp [hkC]; rfl
   refine zac _ rfl (λ h8=>?_) λ h8=>?_
   .simp at h8
    rw [if_pos h8] at hFn;refine zan rfl ?_;simp [hkC];refine cl0 (zbq i (by omega) (by omega)) ?_
    simp [hkC,hwc];refine cl0 (zft i (by omega) (by omega)) ?_
    simp [hkC,hwc];refine zfs (i:=176) (j:=16) (by decide) rfl rfl (e1':=outV N 1 (Fb i).length) (e2':=⟨3,zaC (Fb i),0⟩) (by simp) (by simp [fcd]) (zo1 N (2+2*(i : Int)) (3+2*(i : Int)) (C[i] - 1) (Fb i) _ rfl (by omega)) (by simp) (by simp) ?_
    simp [fcd];exact Le.go [(32,32),(176,176),(424,16)] [] rfl rfl (by simp [hFn]) (by simp [hFn,fcd])
   .simp at h8
    rw [if_neg (by omega)] at hFn
    exact zae ⟨(),trivial,Le.go [(32,32),(176,176),(16,16)] [] rfl rfl (by simp [hFn]) (by simp [hFn,fcd])⟩
  refine zam ?_;exact ⟨i+1,by omega,by omega,Le.go [(32,32),(176,176),(16,16)] [] rfl rfl (by simp [hw]) (by simp [fcd])⟩
 simp at h7;obtain rfl : i=C.length:=by omega
 rw [FbN];refine zai (hit ?_);refine zab (rk (s:=?sc1) [3,4,6,9,10,11,81,82,83] [32,176,16] rfl ?oc1 ?qc1)
 case oc1=>simp; rfl
 refine zad ?_
 obtain ⟨Fc,Fc0,Fcs,Fcl,FcN⟩ : ∃ F : Nat->List Ed,F 0=Z2/\(∀ i (h : i<(sinks).length),F (i+1)=F i++arc3 C (sinks)[i])/\(∀ i,(F i).length<=300)/\F (sinks).length=Z2++(sinks).flatMap (arc3 C) :=
  ⟨λ i=>Z2++((sinks).take i).flatMap (arc3 C),by simp,λ i h=>by simp only [zcv _ _ i h,Qx],λ i=>by have:=za9 _ (zfJ C) (sinks) i; simp only [Qh]; omega,by simp⟩
 rw [<- hX3,<- hZ3] at FcN;refine zaj (ι:=Nat) (λ i=>⟨123,[(3,.pv (gC g)),(4,.pv (pC p)),(6,.pt 32 0 0),(9,.pt 176 0 0),(10,.fn (.func 159) [] [.pt 176 0 0]),(11,ints C),(81,ints sinks),(82,.I sinks.length),(83,.I i)],[(32,some ⟨2,[[.I 0,.nilS]],0⟩),(176,some (outV N 16 (Fc i).length)),(16,some ⟨3,zaC (Fc i),0⟩)],336⟩) (λ i=>i<=sinks.length) (λ i=>sinks.length - i) 0 (Qi _) (Le.go [(32,32),(176,176),(16,16)] [] rfl rfl (by simp [Fc0]) (by simp [Fc0,fcd])) ?_
 intro i hi;refine rk (s:=?sc2) [3,4,6,9,10,11,81,82,83,84] [32,176,16] rfl ?oc2 ?qc2
 case oc2=>simp; rfl
 refine zab (zac _ rfl (λ h7=>?_) λ h7=>?_)
 .simp at h7
  have hw : IntKind.i64.wrap ((i : Int)+1)=(i : Int)+1:=w6;have hFi:=Fcl i;obtain ⟨k,hk,hkC,hk64⟩:=hsink _ (Qj h7)
  have hFn : Fc (i+1)=Fc i++if 0<C[k] then [⟨2+2*(k : Int),1,1⟩] else []:=by
   rw [Fcs i h7,hk];unfold arc3;simp [hkC]
  refine zae (zap (ι:=Unit) (λ _=>⟨123,[(3,.pv (gC g)),(4,.pv (pC p)),(6,.pt 32 0 0),(9,.pt 176 0 0),(10,.fn (.func 159) [] [.pt 176 0 0]),(11,ints C),(81,ints sinks),(82,.I sinks.length),(83,.I i)],[(32,some ⟨2,[[.I 0,.nilS]],0⟩),(176,some (outV N 16 (Fc (i+1)).length)),(16,some ⟨3,zaC (Fc (i+1)),0⟩)],700⟩) (λ _=>True) ?_ λ _ _=>?_)
  .refine zad (rk (s:=?sc3) [3,4,6,9,10,11,17,81,82,83] [32,176,16] rfl ?oc3 ?qc3)
   case oc3=>simp [h7,hk]; rfl
   refine rk (s:=?sc4) [3,4,6,9,10,11,17,81,82,83,91] [32,176,16] rfl ?oc4 ?qc4
   case oc4=>simp [hkC]; rfl
   refine zac _ rfl (λ h8=>?_) λ h8=>?_
   .simp at h8
    rw [if_pos h8] at hFn;refine zan rfl ?_;simp [hkC];refine cl0 (zbq k (by omega) (by omega)) ?_
    simp [hkC];refine zfs (i:=176) (j:=16) (by decide) rfl rfl (e1':=outV N 1 (Fc i).length) (e2':=⟨3,zaC (Fc i),0⟩) (by simp) (by simp [fcd]) (zo1 N (2+2*(k : Int)) 1 1 (Fc i) _ rfl (by omega)) (by simp) (by simp) ?_
    simp [fcd];exact Le.go [(32,32),(176,176),(432,16)] [] rfl rfl (by simp [hFn]) (by simp [hFn,fcd])
   .simp at h8
    rw [if_neg (by omega)] at hFn
    exact zae ⟨(),trivial,Le.go [(32,32),(176,176),(16,16)] [] rfl rfl (by simp [hFn]) (by simp [hFn,fcd])⟩
  refine zam ?_;exact ⟨i+1,by omega,by omega,Le.go [(32,32),(176,176),(16,16)] [] rfl rfl (by simp [hw]) (by simp [fcd])⟩
 simp at h7;obtain rfl : i=sinks.length:=by omega
 rw [FcN];refine zai (hit ?_);refine zab (rk (s:=?sd1) [6,9,10,11,101,102,103] [32,176,16] rfl ?od1 ?qd1)
 case od1=>simp; refine zau hlev (by simp) ?_; simp; rfl
 refine zad ?_
 obtain ⟨Fd,Fd0,Fds,Fdl,FdN⟩ : ∃ F : Nat->List Ed,F 0=Z3/\(∀ i (h : i<(G.edges).length),F (i+1)=F i++arc4 C (G.edges)[i])/\(∀ i,(F i).length<=900)/\F (G.edges).length=Z3++(G.edges).flatMap (arc4 C) :=
  ⟨λ i=>Z3++((G.edges).take i).flatMap (arc4 C),by simp,λ i h=>by simp only [zcv _ _ i h,Qx],λ i=>by have:=za9 _ (zgc C) (G.edges) i; simp only [Qh]; omega,by simp⟩
 rw [<- hX4,<- hZ4] at FdN;refine zaj (ι:=Nat) (λ i=>⟨123,[(6,.pt 32 0 0),(9,.pt 176 0 0),(10,.fn (.func 159) [] [.pt 176 0 0]),(11,ints C),(101,eEs G.edges),(102,.I G.edges.length),(103,.I i)],[(32,some ⟨2,[[.I 0,.nilS]],0⟩),(176,some (outV N 16 (Fd i).length)),(16,some ⟨3,zaC (Fd i),0⟩)],400⟩) (λ i=>i<=G.edges.length) (λ i=>G.edges.length - i) 0 (Qi _) (Le.go [(32,32),(176,176),(16,16)] [] rfl rfl (by simp [Fd0]) (by simp [Fd0,fcd])) ?_
 intro i hi;refine rk (s:=?sd2) [6,9,10,11,101,102,103,104] [32,176,16] rfl ?od2 ?qd2
 case od2=>simp; rfl
 refine zab (zac _ rfl (λ h7=>?_) λ h7=>?_)
 .simp at h7
  have hw : IntKind.i64.wrap ((i : Int)+1)=(i : Int)+1:=w6;have hFi:=Fdl i;obtain ⟨x,hx⟩ : ∃ x,x=G.edges[i]:=⟨_,rfl⟩;have hfx:=hfit _ (Qj h7);rw [<- hx] at hfx;obtain ⟨k,hk,hkC,hk64⟩:=hkey x.f hfx.1.1 hfx.1.2;obtain ⟨u,hu,huC,hu64⟩:=hkey x.t hfx.2.1 hfx.2.2
  have hFn : Fd (i+1)=Fd i++if 0<C[k] then [⟨3+2*(k : Int),2+2*(u : Int),64⟩] else []:=by
   rw [Fds i h7,<- hx];unfold arc4;rw [hk,hu];simp [hkC]
  refine zae (zap (ι:=Unit) (λ _=>⟨123,[(6,.pt 32 0 0),(9,.pt 176 0 0),(10,.fn (.func 159) [] [.pt 176 0 0]),(11,ints C),(101,eEs G.edges),(102,.I G.edges.length),(103,.I i)],[(32,some ⟨2,[[.I 0,.nilS]],0⟩),(176,some (outV N 16 (Fd (i+1)).length)),(16,some ⟨3,zaC (Fd (i+1)),0⟩)],700⟩) (λ _=>True) ?_ λ _ _=>?_)
  .refine zad (zaa ⟨123,[(6,.pt 32 0 0),(9,.pt 176 0 0),(10,.fn (.func 159) [] [.pt 176 0 0]),(11,ints C),(19,.pv (eC x)),(101,eEs G.edges),(102,.I G.edges.length),(103,.I i)],[(32,some ⟨2,[[.I 0,.nilS]],0⟩),(176,some (outV N 16 (Fd i).length)),(16,some ⟨3,zaC (Fd i),0⟩)],440⟩ rfl ?_ ?_)
   .simp [h7,<- hx]
    exact LeI [(32,32),(176,176),(16,16)] [424]
   refine rk (s:=?sd4) [6,9,10,11,19,101,102,103,112] [32,176,16] rfl ?od4 ?qd4
   case od4=>simp [hk,hkC]; rfl
   refine zac _ rfl (λ h8=>?_) λ h8=>?_
   .simp at h8
    rw [if_pos h8] at hFn;refine zaP rfl ?_;simp [hk,hu];refine cl0 (zft k (by omega) (by omega)) ?_
    simp [hkC];refine cl0 (zbq u (by omega) (by omega)) ?_
    simp [hkC];refine zfs (i:=176) (j:=16) (by decide) rfl rfl (e1':=outV N 1 (Fd i).length) (e2':=⟨3,zaC (Fd i),0⟩) (by simp) (by simp [fcd]) (zo1 N (3+2*(k : Int)) (2+2*(u : Int)) 64 (Fd i) _ rfl (by omega)) (by simp) (by simp) ?_
    simp [fcd];exact ⟨rfl,Le.go [(32,32),(176,176),(544,16)] [] rfl rfl (by simp [hFn]) (by simp [hFn,fcd])⟩
   .simp at h8
    rw [if_neg (by omega)] at hFn
    exact zae ⟨(),trivial,Le.go [(32,32),(176,176),(16,16)] [] rfl rfl (by simp [hFn]) (by simp [hFn,fcd])⟩
  refine zam ?_;exact ⟨i+1,by omega,by omega,Le.go [(32,32),(176,176),(16,16)] [] rfl rfl (by simp [hw]) (by simp [fcd])⟩
 simp at h7;obtain rfl : i=G.edges.length:=by omega
 rw [FdN];refine zai (hit (rk (s:=?sz) [6,7] [32,16] rfl ?oz ?qz))
 case oz=>simp; rfl
 exact zah ⟨.inr rfl,zao.out [] [16] rfl (by simp) (by simp) (by simp [hN,fcd,zaq]) (by simp)⟩
theorem zg6 (g : Gr) (p : Pol) (sinks : List Int) (hg : GrOk g) (hp : zaN g.size p) (hr : Rise sinks 0 (g.size - 1)) (hs : p.seeds.length<=64) (hsl : sinks.length<=64) :
  AcP 115 [eG g,eP p,ints sinks] [] (.tup [eN ⟨2+2*g.size,zaQ g p (zaH g p) sinks⟩,.I 0]) []:=by
 refine zjd.s.ac ?_;show awp _ 0 _ _ ⟨158,[(0,eG g),(1,eP p),(2,ints sinks)],[],16⟩;have hsz:=hg.1.1;have hsz2:=hg.1.2.1;have hel:=hg.edges_le;have hgl:=hg.gone_le;have hchk:=zeU g p (by omega) (by omega) (by omega) (by have:=hp.2.2.2.1; omega)
 rw [if_pos hg,if_pos hp] at hchk;have hcb:=zh8 (g:=g) hp;have hcl : (zaH g p).length=g.size.toNat:=zbe;have hlev:=zct g p.lv (by omega) (by omega)
 rw [zed];have hGe : ∀ e∈(zag g p.lv).edges,e∈g.edges:=λ e he=>(Qw.1 he).1;have hGl : (zag g p.lv).edges.length<=500:=QH (QV ..) hel;have hall:=zdc (zag g p.lv) p.seeds (hg.level p.lv) (by omega)
 have hcap:=znf (zag g p.lv) p (hg.level p.lv) (by omega)
 have hcc : zaH (zag g p.lv) p=zaH g p:=by unfold zaH; rw [zmw]
 rw [hcc] at hcap
 have hDC : ∀ k : Nat,k<g.size.toNat -> ∀ (h1 : k<(zaW (zag g p.lv) p.seeds).length) (h2 : k<(zaH g p).length),0<=(zaW (zag g p.lv) p.seeds)[k]↔0<(zaH g p)[k]:=λ k hk h1 h2=>by
  have:=zmM hp (d:=(zaW (zag g p.lv) p.seeds)[k]);rw [<- this];simp [zaH]
 have hDl : (zaW (zag g p.lv) p.seeds).length=g.size.toNat:=by simp [zaW,zag]
 have hGs : (zag g p.lv).size=g.size:=rfl;rw [hGs] at hall hcap;rw [<- hcl] at hcap;rw [<- hDl] at hall;obtain ⟨C,hC⟩ : ∃ C,C=zaH g p:=⟨_,rfl⟩;obtain ⟨D,hD⟩ : ∃ D,D=zaW (zag g p.lv) p.seeds:=⟨_,rfl⟩;rw [<- hC] at hcap hcl hcb ⊢;rw [<- hD] at hall hDl;simp only [<- hC,<- hD] at hDC;have hDk : ∀ k : Nat,k<C.length->k<D.length:=λ k hk=>by omega
 have hDC' : ∀ (k : Nat) (h2 : k<C.length),0<=D[k]'(hDk k h2)↔0<C[k]:=λ k h2=>hDC k (by omega) (hDk k h2) h2
 obtain ⟨G,hG⟩ : ∃ G,G=zag g p.lv:=⟨_,rfl⟩;rw [<- hG] at hlev hGe hGl hall hcap hGs ⊢
 have hfit : ∀ e∈G.edges,(0<=e.f/\e.f<g.size)/\(0<=e.t/\e.t<g.size):=λ e he=>by
  have:=hg.fits e (hGe e he);unfold Fits at this;omega
 have hkey : ∀ k : Int,0<=k->k<g.size -> ∃ j : Nat,k=j/\j<C.length/\j<64:=λ k h0 h1=>⟨k.toNat,by omega,by omega,by omega⟩
 have hseed : ∀ k∈p.seeds,∃ j : Nat,k=j/\j<C.length/\j<64:=λ k hk=>by
  obtain ⟨i,hi,rfl⟩:=Ut hk;have:=hp.2.1 i hi;exact hkey _ (by omega) (by omega)
 have hsink : ∀ k∈sinks,∃ j : Nat,k=j/\j<C.length/\j<64:=λ k hk=>by
  obtain ⟨i,hi,rfl⟩:=Ut hk;have:=hr i hi;exact hkey _ (by omega) (by omega)
 have hw3 : IntKind.i64.wrap (2*g.size)=2*g.size:=w6;have hw4 : IntKind.i64.wrap (2+2*g.size)=2+2*g.size:=w6;refine zaa ⟨158,[(2,ints sinks),(3,.pt 16 0 0),(4,.pv (pC p)),(6,.pt 32 0 0)],[(16,some ⟨3,[gC g],0⟩),(32,some ⟨2,[[.I 0,.nilS]],0⟩)],48⟩ rfl ?_ ?_
 .simp
  exact LeH [(16,16),(32,32)] [24]
 refine zab (rk (s:=?s2) [2,3,4,6,8] [16,32] rfl ?o2 ?q2)
 case o2=>simp; refine zau hchk (by simp) ?_; simp; rfl
 refine rk (s:=?s3) [2,3,4,6,22] [16,32] rfl ?o3 ?q3
 case o3=>simp; rfl
 refine zac _ rfl (λ h4=>?_) λ h4=>zae ?_
 .simp at h4
 refine zab (rk (s:=?s5) [2,3,4,6,29] [16,32] rfl ?o5 ?q5)
 case o5=>simp; refine zau (zei sinks g.size (by omega)) (by simp) ?_; simp [hr]; rfl
 refine zac _ rfl (λ h6=>?_) λ h6=>zae ?_
 .simp at h6
 refine zaa ⟨158,[(2,ints sinks),(3,.pv (gC G)),(4,.pv (pC p)),(6,.pt 32 0 0)],[(32,some ⟨2,[[.I 0,.nilS]],0⟩)],176⟩ rfl ?_ ?_
 .simp
  refine cl0 hlev ?_;simp;exact LeH [(32,32)] [16]
 refine zas ⟨158,[(2,ints sinks),(3,.pv (gC G)),(4,.pv (pC p)),(6,.pt 32 0 0),(9,ints D),(10,ints C)],[(32,some ⟨2,[[.I 0,.nilS]],0⟩)],248⟩ rfl ?_ ?_
 .simp
  refine cn1 hall ?_;simp [fcd];refine cn1 hcap ?_;simp [fcd];exact ⟨rfl,Le.go [(32,32)] [200,224] rfl rfl (by simp [fcd,zaq]) (by simp)⟩
 refine rk (s:=?s7) [2,3,4,6,9,10,11] [32,288] rfl ?o7 ?q7
 case o7=>simp [hGs,hw3,hw4]; rfl
 obtain ⟨N,hN⟩ : ∃ N : Int,N=2+2*g.size:=⟨_,rfl⟩;simp only [<- hN];have hb1 : (p.seeds.flatMap (arc1 C)).length<=64:=QH (zbE _ (zfK C) _) hs;have hb2 : ((List.range C.length).flatMap (arc2 C)).length<=64:=QH (zbE _ (zfW C) _) (by rw [UB]; omega)
 have hb3 : (sinks.flatMap (arc3 C)).length<=64:=QH (zbE _ (zfJ C) _) hsl;have hb4 : (G.edges.flatMap (arc4 C)).length<=500:=QH (zbE _ (zgc C) _) hGl;obtain ⟨X1,hX1⟩ : ∃ X,X=p.seeds.flatMap (arc1 C):=⟨_,rfl⟩;obtain ⟨X2,hX2⟩ : ∃ X,X=(List.range C.length).flatMap (arc2 C):=⟨_,rfl⟩;obtain ⟨X3,hX3⟩ : ∃ X,X=sinks.flatMap (arc3 C):=⟨_,rfl⟩;obtain ⟨X4,hX4⟩ : ∃ X,X=G.edges.flatMap (arc4 C):=⟨_,rfl⟩;obtain ⟨Z2,hZ2⟩ : ∃ Z,Z=X1++X2:=⟨_,rfl⟩;obtain ⟨Z3,hZ3⟩ : ∃ Z,Z=Z2++X3:=⟨_,rfl⟩;obtain ⟨Z4,hZ4⟩ : ∃ Z,Z=Z3++X4:=⟨_,rfl⟩;rw [<- hX1] at hb1;rw [<- hX2] at hb2;rw [<- hX3] at hb3;rw [<- hX4] at hb4;rw [<- hX1,<- hX2,<- hX3,<- hX4,<- hZ2,<- hZ3,<- hZ4];have hz2 : Z2.length<=128:=by rw [hZ2,Qh]; omega
 have hz3 : Z3.length<=192:=by rw [hZ3,Qh]; omega
 refine zab (rk (s:=?sa1) [2,3,4,6,9,10,11,12] [32,288] rfl ?oa1 ?qa1)
 case oa1=>simp; rfl
 refine zad ?_
 obtain ⟨Fa,Fa0,Fas,Fal,FaN⟩ : ∃ F : Nat->List Ed,F 0=[]/\(∀ i (h : i<(p.seeds).length),F (i+1)=F i++arc1 C (p.seeds)[i])/\(∀ i,(F i).length<=64)/\F (p.seeds).length=(p.seeds).flatMap (arc1 C) :=
  ⟨λ i=>((p.seeds).take i).flatMap (arc1 C),by simp,λ i h=>by simp only [zcv _ _ i h,Qx],λ i=>by have:=za9 _ (zfK C) (p.seeds) i; exact QH this hs,by simp⟩
 rw [<- hX1] at FaN;refine zaj (ι:=Nat) (λ i=>⟨158,[(2,ints sinks),(3,.pv (gC G)),(4,.pv (pC p)),(6,.pt 32 0 0),(9,ints D),(10,ints C),(11,.pt 288 0 0),(12,.I i)],[(32,some ⟨2,[[.I 0,.nilS]],0⟩),(288,some (outV N 16 (Fa i).length)),(16,some ⟨3,zaC (Fa i),0⟩)],312⟩) (λ i=>i<=p.seeds.length) (λ i=>p.seeds.length - i) 0 (Qi _) (Le.lst [(32,32),(288,288)] [] [(16,3)] rfl (by simp) (by simp) (by simp) (by simp) (by simp) (by simp) (by simp) (by simp [Up]) (by simp [Fa0]; refine ⟨zaA.rfl' (by simp),zaA.row rfl (by omega) (by simp [UpL,Up])⟩)) ?_
 intro i hi;refine zab (rk (s:=?sa2) [2,3,4,6,9,10,11,12,51] [32,288,16] rfl ?oa2 ?qa2)
 case oa2=>simp; rfl
 refine zac _ rfl (λ h7=>?_) λ h7=>?_
 .simp at h7
  have hw : IntKind.i64.wrap ((i : Int)+1)=(i : Int)+1:=w6;have hFi:=Fal i;obtain ⟨k,hk,hkC,hk64⟩:=hseed _ (Qj h7)
  have hFn : Fa (i+1)=Fa i++if 0<C[k] then [⟨0,2+2*(k : Int),C[k]⟩] else []:=by
   rw [Fas i h7,hk];unfold arc1;simp [hkC]
  have hkD:=hDk _ hkC;have hdc:=hDC' _ hkC;refine zae (zap (ι:=Unit) (λ _=>⟨158,[(2,ints sinks),(3,.pv (gC G)),(4,.pv (pC p)),(6,.pt 32 0 0),(9,ints D),(10,ints C),(11,.pt 288 0 0),(12,.I i)],[(32,some ⟨2,[[.I 0,.nilS]],0⟩),(288,some (outV N 16 (Fa (i+1)).length)),(16,some ⟨3,zaC (Fa (i+1)),0⟩)],800⟩) (λ _=>True) ?_ λ _ _=>?_)
  .refine zad (rk (s:=?sa3) [2,3,4,6,9,10,11,12,13] [32,288,16] rfl ?oa3 ?qa3)
   case oa3=>simp [h7,hk]; rfl
   refine rk (s:=?sa4) [2,3,4,6,9,10,11,12,13,63] [32,288,16] rfl ?oa4 ?qa4
   case oa4=>simp [hkD]; rfl
   refine zac _ rfl (λ h8=>?_) λ h8=>?_
   .simp at h8
    rw [if_pos (hdc.1 h8)] at hFn;have htl : ∀ f : Ed->List AV,List.take (Fa i).length (List.map f (Fa i))=List.map f (Fa i):=λ f=>Qb (by simp)
    refine zaP rfl ?_;simp [hkC];refine cl0 (zcs k (by omega) (by omega)) ?_
    simp [htl,hkC];refine ⟨by omega,by omega,?_⟩
    exact ⟨rfl,Le.go [(32,32),(288,288),(520,16)] [] rfl rfl (by simp [hFn]) (by simp [hFn,fcd])⟩
   .simp at h8
    rw [if_neg (by omega)] at hFn
    exact zae ⟨(),trivial,Le.go [(32,32),(288,288),(16,16)] [] rfl rfl (by simp [hFn]) (by simp [hFn,fcd])⟩
  refine zam ?_;exact ⟨i+1,by omega,by omega,Le.go [(32,32),(288,288),(16,16)] [] rfl rfl (by simp [hw]) (by simp [fcd])⟩
 simp at h7;obtain rfl : i=p.seeds.length:=by omega
 rw [FaN];refine zai (hit ?_);refine zab (rk (s:=?sb1) [2,3,6,9,10,11,14] [32,288,16] rfl ?ob1 ?qb1)
 case ob1=>simp; rfl
 refine zad ?_
 obtain ⟨Fb,Fb0,Fbs,Fbl,FbN⟩ : ∃ F : Nat->List Ed,F 0=X1/\(∀ i (h : i<(List.range C.length).length),F (i+1)=F i++arc2 C (List.range C.length)[i])/\(∀ i,(F i).length<=200)/\F (List.range C.length).length=X1++(List.range C.length).flatMap (arc2 C) :=
  ⟨λ i=>X1++((List.range C.length).take i).flatMap (arc2 C),by simp,λ i h=>by simp only [zcv _ _ i h,Qx],λ i=>by have:=za9 _ (zfW C) (List.range C.length) i; rw [UB] at this; rw [Qh]; omega,by simp⟩
 rw [UB,<- hX2,<- hZ2] at FbN;refine zaj (ι:=Nat) (λ i=>⟨158,[(2,ints sinks),(3,.pv (gC G)),(6,.pt 32 0 0),(9,ints D),(10,ints C),(11,.pt 288 0 0),(14,.I i)],[(32,some ⟨2,[[.I 0,.nilS]],0⟩),(288,some (outV N 16 (Fb i).length)),(16,some ⟨3,zaC (Fb i),0⟩)],360⟩) (λ i=>i<=C.length) (λ i=>C.length - i) 0 (Qi _) (Le.go [(32,32),(288,288),(16,16)] [] rfl rfl (by simp [Fb0]) (by simp [Fb0,fcd])) ?_
 intro i hi;refine zab (rk (s:=?sb2) [2,3,6,9,10,11,14,79] [32,288,16] rfl ?ob2 ?qb2)
 case ob2=>simp; rfl
 refine zac _ rfl (λ h7=>?_) λ h7=>?_
 .simp [hGs] at h7
  have hw : IntKind.i64.wrap ((i : Int)+1)=(i : Int)+1:=w6;have hFi:=Fbl i;have hkC : i<C.length:=by omega
  have hFn : Fb (i+1)=Fb i++if 0<C[i] then [⟨2+2*(i : Int),3+2*(i : Int),C[i] - 1⟩] else []:=by
   rw [Fbs i (by simpa using hkC)]
   unfold arc2;simp [hkC]
  have hci:=hcb _ (Qj hkC);have hwc : IntKind.i64.wrap (C[i] - 1)=C[i] - 1:=w6;have hkD:=hDk _ hkC;have hdc:=hDC' _ hkC;refine zae (zap (ι:=Unit) (λ _=>⟨158,[(2,ints sinks),(3,.pv (gC G)),(6,.pt 32 0 0),(9,ints D),(10,ints C),(11,.pt 288 0 0),(14,.I i)],[(32,some ⟨2,[[.I 0,.nilS]],0⟩),(288,some (outV N 16 (Fb (i+1)).length)),(16,some ⟨3,zaC (Fb (i+1)),0⟩)],800⟩) (λ _=>True) ?_ λ _ _=>?_)
  .refine zad (rk (s:=?sb3) [2,3,6,9,10,11,14,86] [32,288,16] rfl ?ob3 ?qb3)
   case ob3=>simp [hkD]; rfl
   refine zac _ rfl (λ h8=>?_) λ h8=>?_
   .simp at h8
    rw [if_pos (hdc.1 h8)] at hFn;have htl : ∀ f : Ed->List AV,List.take (Fb i).length (List.map f (Fb i))=List.map f (Fb i):=λ f=>Qb (by simp)
    refine zaP rfl ?_;simp [hkC,hwc];refine cl0 (zcs i (by omega) (by omega)) ?_
    simp [htl,hkC,hwc];refine cl0 (zfY i (by omega) (by omega)) ?_
    simp [htl,hkC,hwc];refine ⟨by omega,by omega,?_⟩
    exact ⟨rfl,Le.go [(32,32),(288,288),(536,16)] [] rfl rfl (by simp [hFn]) (by simp [hFn,fcd])⟩
   .simp at h8
    rw [if_neg (by omega)] at hFn
    exact zae ⟨(),trivial,Le.go [(32,32),(288,288),(16,16)] [] rfl rfl (by simp [hFn]) (by simp [hFn,fcd])⟩
  refine zam ?_;exact ⟨i+1,by omega,by omega,Le.go [(32,32),(288,288),(16,16)] [] rfl rfl (by simp [hw]) (by simp [fcd])⟩
 simp [hGs] at h7;obtain rfl : i=C.length:=by omega
 rw [FbN];refine zai (hit ?_);refine zab (rk (s:=?sc1) [2,3,6,9,11,15] [32,288,16] rfl ?oc1 ?qc1)
 case oc1=>simp; rfl
 refine zad ?_
 obtain ⟨Fc,Fc0,Fcs,Fcl,FcN⟩ : ∃ F : Nat->List Ed,F 0=Z2/\(∀ i (h : i<(sinks).length),F (i+1)=F i++arc3 C (sinks)[i])/\(∀ i,(F i).length<=300)/\F (sinks).length=Z2++(sinks).flatMap (arc3 C) :=
  ⟨λ i=>Z2++((sinks).take i).flatMap (arc3 C),by simp,λ i h=>by simp only [zcv _ _ i h,Qx],λ i=>by have:=za9 _ (zfJ C) (sinks) i; simp only [Qh]; omega,by simp⟩
 rw [<- hX3,<- hZ3] at FcN;refine zaj (ι:=Nat) (λ i=>⟨158,[(2,ints sinks),(3,.pv (gC G)),(6,.pt 32 0 0),(9,ints D),(11,.pt 288 0 0),(15,.I i)],[(32,some ⟨2,[[.I 0,.nilS]],0⟩),(288,some (outV N 16 (Fc i).length)),(16,some ⟨3,zaC (Fc i),0⟩)],400⟩) (λ i=>i<=sinks.length) (λ i=>sinks.length - i) 0 (Qi _) (Le.go [(32,32),(288,288),(16,16)] [] rfl rfl (by simp [Fc0]) (by simp [Fc0,fcd])) ?_
 intro i hi;refine zab (rk (s:=?sc2) [2,3,6,9,11,15,105] [32,288,16] rfl ?oc2 ?qc2)
 case oc2=>simp; rfl
 refine zac _ rfl (λ h7=>?_) λ h7=>?_
 .simp at h7
  have hw : IntKind.i64.wrap ((i : Int)+1)=(i : Int)+1:=w6;have hFi:=Fcl i;obtain ⟨k,hk,hkC,hk64⟩:=hsink _ (Qj h7)
  have hFn : Fc (i+1)=Fc i++if 0<C[k] then [⟨2+2*(k : Int),1,1⟩] else []:=by
   rw [Fcs i h7,hk];unfold arc3;simp [hkC]
  have hkD:=hDk _ hkC;have hdc:=hDC' _ hkC;refine zae (zap (ι:=Unit) (λ _=>⟨158,[(2,ints sinks),(3,.pv (gC G)),(6,.pt 32 0 0),(9,ints D),(11,.pt 288 0 0),(15,.I i)],[(32,some ⟨2,[[.I 0,.nilS]],0⟩),(288,some (outV N 16 (Fc (i+1)).length)),(16,some ⟨3,zaC (Fc (i+1)),0⟩)],800⟩) (λ _=>True) ?_ λ _ _=>?_)
  .refine zad (rk (s:=?sc3) [2,3,6,9,11,15,115] [32,288,16] rfl ?oc3 ?qc3)
   case oc3=>simp [h7,hk,hkD]; rfl
   refine zac _ rfl (λ h8=>?_) λ h8=>?_
   .simp at h8
    rw [if_pos (hdc.1 h8)] at hFn;have htl : ∀ f : Ed->List AV,List.take (Fc i).length (List.map f (Fc i))=List.map f (Fc i):=λ f=>Qb (by simp)
    refine zaP rfl ?_;simp [h7,hk];refine cl0 (zcs k (by omega) (by omega)) ?_
    simp [htl,h7,hk];refine ⟨by omega,by omega,?_⟩
    exact ⟨rfl,Le.go [(32,32),(288,288),(568,16)] [] rfl rfl (by simp [hFn]) (by simp [hFn,fcd])⟩
   .simp at h8
    rw [if_neg (by omega)] at hFn
    exact zae ⟨(),trivial,Le.go [(32,32),(288,288),(16,16)] [] rfl rfl (by simp [hFn]) (by simp [hFn,fcd])⟩
  refine zam ?_;exact ⟨i+1,by omega,by omega,Le.go [(32,32),(288,288),(16,16)] [] rfl rfl (by simp [hw]) (by simp [fcd])⟩
 simp at h7;obtain rfl : i=sinks.length:=by omega
 rw [FcN];refine zai (hit ?_);refine zab (rk (s:=?sd1) [3,6,9,11,16] [32,288,16] rfl ?od1 ?qd1)
 case od1=>simp; rfl
 refine zad ?_
 obtain ⟨Fd,Fd0,Fds,Fdl,FdN⟩ : ∃ F : Nat->List Ed,F 0=Z3/\(∀ i (h : i<(G.edges).length),F (i+1)=F i++arc4 C (G.edges)[i])/\(∀ i,(F i).length<=900)/\F (G.edges).length=Z3++(G.edges).flatMap (arc4 C) :=
  ⟨λ i=>Z3++((G.edges).take i).flatMap (arc4 C),by simp,λ i h=>by simp only [zcv _ _ i h,Qx],λ i=>by have:=za9 _ (zgc C) (G.edges) i; simp only [Qh]; omega,by simp⟩
 rw [<- hX4,<- hZ4] at FdN;refine zaj (ι:=Nat) (λ i=>⟨158,[(3,.pv (gC G)),(6,.pt 32 0 0),(9,ints D),(11,.pt 288 0 0),(16,.I i)],[(32,some ⟨2,[[.I 0,.nilS]],0⟩),(288,some (outV N 16 (Fd i).length)),(16,some ⟨3,zaC (Fd i),0⟩)],440⟩) (λ i=>i<=G.edges.length) (λ i=>G.edges.length - i) 0 (Qi _) (Le.go [(32,32),(288,288),(16,16)] [] rfl rfl (by simp [Fd0]) (by simp [Fd0,fcd])) ?_
 intro i hi;refine zab (rk (s:=?sd2) [3,6,9,11,16,131] [32,288,16] rfl ?od2 ?qd2)
 case od2=>simp; rfl
 refine zac _ rfl (λ h7=>?_) λ h7=>?_
 .simp at h7
  have hw : IntKind.i64.wrap ((i : Int)+1)=(i : Int)+1:=w6;have hFi:=Fdl i;obtain ⟨x,hx⟩ : ∃ x,x=G.edges[i]:=⟨_,rfl⟩;have hfx:=hfit _ (Qj h7);rw [<- hx] at hfx;obtain ⟨k,hk,hkC,hk64⟩:=hkey x.f hfx.1.1 hfx.1.2;obtain ⟨u,hu,huC,hu64⟩:=hkey x.t hfx.2.1 hfx.2.2
  have hFn : Fd (i+1)=Fd i++if 0<C[k] then [⟨3+2*(k : Int),2+2*(u : Int),64⟩] else []:=by
   rw [Fds i h7,<- hx];unfold arc4;rw [hk,hu];simp [hkC]
  have hkD:=hDk _ hkC;have hdc:=hDC' _ hkC;refine zae (zap (ι:=Unit) (λ _=>⟨158,[(3,.pv (gC G)),(6,.pt 32 0 0),(9,ints D),(11,.pt 288 0 0),(16,.I i)],[(32,some ⟨2,[[.I 0,.nilS]],0⟩),(288,some (outV N 16 (Fd (i+1)).length)),(16,some ⟨3,zaC (Fd (i+1)),0⟩)],800⟩) (λ _=>True) ?_ λ _ _=>?_)
  .refine zad (zaa ⟨158,[(3,.pv (gC G)),(6,.pt 32 0 0),(9,ints D),(11,.pt 288 0 0),(16,.I i),(17,.pv (eC x))],[(32,some ⟨2,[[.I 0,.nilS]],0⟩),(288,some (outV N 16 (Fd i).length)),(16,some ⟨3,zaC (Fd i),0⟩)],536⟩ rfl ?_ ?_)
   .simp [h7,<- hx]
    exact LeI [(32,32),(288,288),(16,16)] [520]
   refine rk (s:=?sd4) [3,6,9,11,16,17,144] [32,288,16] rfl ?od4 ?qd4
   case od4=>simp [hk,hkD]; rfl
   refine zac _ rfl (λ h8=>?_) λ h8=>?_
   .simp at h8
    rw [if_pos (hdc.1 h8)] at hFn;have htl : ∀ f : Ed->List AV,List.take (Fd i).length (List.map f (Fd i))=List.map f (Fd i):=λ f=>Qb (by simp)
    refine zaP rfl ?_;simp [hk,hu];refine cl0 (zfY k (by omega) (by omega)) ?_
    simp [htl,hk,hu];refine cl0 (zcs u (by omega) (by omega)) ?_
    simp [htl,hk,hu];refine ⟨by omega,by omega,?_⟩
    exact ⟨rfl,Le.go [(32,32),(288,288),(664,16)] [] rfl rfl (by simp [hFn]) (by simp [hFn,fcd])⟩
   .simp at h8
    rw [if_neg (by omega)] at hFn
    exact zae ⟨(),trivial,Le.go [(32,32),(288,288),(16,16)] [] rfl rfl (by simp [hFn]) (by simp [hFn,fcd])⟩
  refine zam ?_;exact ⟨i+1,by omega,by omega,Le.go [(32,32),(288,288),(16,16)] [] rfl rfl (by simp [hw]) (by simp [fcd])⟩
 simp at h7;obtain rfl : i=G.edges.length:=by omega
 rw [FdN];refine zai (hit (rk (s:=?sz) [6,7] [32,16] rfl ?oz ?qz))
 case oz=>simp; rfl
 exact zah ⟨.inr rfl,zao.out [] [16] rfl (by simp) (by simp) (by simp [hN,fcd,zaq]) (by simp)⟩
instance (g : Gr) (lv f t : Int) : Decidable (zpz g lv f t):=by unfold zpz; infer_instance
theorem zeq {a : List Int} {n : Int} (h : ∀ k∈a,0<=k/\k<n) : Rise (zaG a) 0 (n - 1):=by
 intro i hi;have hm:=zcX.1 (Qj hi);have:=h _ hm.1;refine ⟨by omega,by omega,λ hp=>?_⟩
 exact (QR.1 (zeF a)) (i - 1) i (by omega) hi (by omega)
theorem zdr (a : List Int) : (zaG a).length<=64:=QH (QV ..) (by simp)
theorem zoo (g : Gr) (p : Pol) (sinks : List Int) (hg : GrOk g) (hs : p.seeds.length<=64) (hsl : sinks.length<=64) : (zaQ g p (zaH g p) sinks).length<=1000:=by
 rw [zed];have h1:=zbE _ (zfK (zaH g p)) p.seeds;have h2:=zbE _ (zfW (zaH g p)) (List.range (zaH g p).length);have h3:=zbE _ (zfJ (zaH g p)) sinks;have h4:=zbE _ (zgc (zaH g p)) (zag g p.lv).edges;have h5 : (zag g p.lv).edges.length<=g.edges.length:=QV ..;have h6:=hg.edges_le;have h7:=hg.1.2.1;have h8:=hg.1.1;rw [UB] at h2;have h9 : (zaH g p).length=g.size.toNat:=zbe;simp only [Qh];omega
section
variable {P : Program} {np id : Nat} {h : Nat->Option Ent} {K : AV->List Nat->List (Nat × Option Ent)->Prop} {f : FuncId} {first capt args args' : List AV} {res : AV}
end
def lowN : List Int->Int->Nat
 | [],_=>0
 | x::l,k=>if x<k then lowN l k+1 else 0
def putL (l : List Int) (k : Int) : List Int:=if l[lowN l k]? = some k then l else l.take (lowN l k)++k::l.drop (lowN l k)
theorem zlh : ∀ (l : List Int) (k : Int),lowN l k<=l.length
 | [],_=>Ql _
 | x::l,k=>by unfold lowN; have:=zlh l k; split <;> simp <;> omega
theorem znE : ∀ {l : List Int} {k : Int} {i : Nat} (h : i<l.length),i<lowN l k->l[i]<k
 | x::l,k,0,_,h=>by
   unfold lowN at h;split at h
   .simpa
   .omega
 | x::l,k,i+1,hi,h=>by
   unfold lowN at h;split at h
   .simpa using znE (l:=l) (by simpa using hi) (by omega)
   .omega
theorem zhV : ∀ {l : List Int} {k : Int} (h : lowN l k<l.length),¬ l[lowN l k]<k
 | x::l,k,h=>by
   by_cases hx : x<k
   .have e : lowN (x::l) k=lowN l k+1:=by simp [lowN,hx]
    simp only [e,List.getElem_cons_succ];exact zhV (by rw [e] at h; simpa using h)
   .have e : lowN (x::l) k=0:=by simp [lowN,hx]
    simp only [e,List.getElem_cons_zero];exact hx
theorem zvP {l : List Int} {k : Int} {i : Nat} (hi : i<=l.length) (h1 : ∀ j (h : j<l.length),j<i->l[j]<k) (h2 : ∀ h : i<l.length,¬ l[i]<k) : lowN l k=i:=by
 rcases Nat.lt_trichotomy (lowN l k) i with h | h | h
 .exact absurd (h1 _ (by omega) h) (zhV (by omega))
 .exact h
 .have hl:=zlh l k
  exact absurd (znE (by omega) h) (h2 (by omega))
theorem zuM (l : List Int) (k : Int) : (putL l k).length<=l.length+1:=by
 unfold putL;split
 .omega
 .simp; have:=zlh l k; omega
theorem zhL {l : List Int} {k x : Int} : x∈putL l k↔x∈l∨x=k:=by
 unfold putL;split
 .rename_i h
  constructor
  .exact .inl
  .rintro (h1 | rfl)
   .exact h1
   .exact Uf h
 .rw [Qo,Qu]
  conv=>rhs; rw [<- UR (lowN l k) l,Qo]
  constructor
  .rintro (h | rfl | h)
   .exact .inl (.inl h)
   .exact .inr rfl
   .exact .inl (.inr h)
  .rintro ((h | h) | rfl)
   .exact .inl h
   .exact .inr (.inr h)
   .exact .inr (.inl rfl)
theorem zdo {l : List Int} {k : Int} (h : l.Pairwise (· < ·)) : (putL l k).Pairwise (· < ·):=by
 unfold putL;split
 .exact h
 .rename_i hne
  have hd : ∀ y∈l.drop (lowN l k),k<y:=by
   intro y hy;obtain ⟨i,hi,rfl⟩:=Ut hy;rw [UM] at hi;rw [List.getElem_drop];have h0 : lowN l k<l.length:=by omega
   have h1:=zhV h0;have h2 : l[lowN l k]≠k:=λ e=>hne (by rw [Qa h0,e])
   rcases Ui i with rfl | hp
   .simp only [Ua]; omega
   .have:=(QR.1 h) (lowN l k) (lowN l k+i) h0 (by omega) (by omega)
    omega
  have ht : ∀ y∈l.take (lowN l k),y<k:=by
   intro y hy;obtain ⟨i,hi,rfl⟩:=Ut hy;rw [QW] at hi;rw [UT];exact znE (by omega) (by omega)
  rw [Vd,Ur];refine ⟨h.sublist (List.take_sublist ..),⟨hd,h.sublist (List.drop_sublist ..)⟩,λ x hx y hy=>?_⟩;rcases Qu.1 hy with rfl | hy
  .exact ht x hx
  .have:=ht x hx; have:=hd y hy; omega
theorem zey {l : List Int} {n : Int} (h : l.Pairwise (· < ·)) (hr : ∀ k∈l,0<=k/\k<n) : Rise l 0 (n - 1):=by
 intro i hi;have:=hr _ (Qj hi);refine ⟨by omega,by omega,λ hp=>?_⟩
 exact (QR.1 h) (i - 1) i (by omega) hi (by omega)
theorem zuY (l : List Int) (k : Int) (hl : l.length<=1000000) : AcP 35 [ints l,.I k] [] (.rs 0 0 (putL l k).length) [some ⟨1,zaf (putL l k),0⟩]:=by
 refine zpQ.s.ac ?_;show awp _ 0 _ _ ⟨45,[(0,ints l),(1,.I k)],[],16⟩;refine rs [0,1] [] [] ?_;refine rs [0,1,5] [] [] ?_;refine zap (ι:=Nat) (λ i=>⟨45,[(0,ints l),(1,.I k),(5,.I i)],[],200⟩) (λ i=>i=lowN l k) ?_ λ i hil=>?_
 .refine zad (zaj (ι:=Nat) (λ i=>⟨45,[(0,ints l),(1,.I k),(5,.I i)],[],32⟩) (λ i=>i<=l.length /\ ∀ j (h : j<l.length),j<i->l[j]<k) (λ i=>l.length - i) 0 (by simp) (LeH [] []) ?_)
  rintro i ⟨hi,hp⟩
  refine zab (zaa ⟨45,[(0,ints l),(1,.I k),(5,.I i),(17,.B (decide (∃ h : i<l.length,l[i]<k)))],[],200⟩ rfl ?_ ?_)
  .by_cases h1 : i<l.length
   .simp [h1]
    exact Le.snap [] rfl rfl (by simp [h1])
   .have hno : ¬ ∃ h : i<l.length,l[i]<k:=λ ⟨h,_⟩=>h1 h
    rw [UX hno];simp [h1];exact Le.snap [] rfl rfl (by simp)
  refine zac _ rfl (λ h2=>?_) λ h2=>?_
  .rw [Qe] at h2
   obtain ⟨h1,h2⟩:=h2;have hw : IntKind.i64.wrap ((i : Int)+1)=(i : Int)+1:=w6;refine zae (zad (zam ?_));refine ⟨i+1,⟨h1,λ j hj hji=>?_⟩,by omega,Le.go [] [] rfl rfl (by simp [hw]) (by simp)⟩
   rcases QS.1 hji with h | rfl
   .exact hp j hj h
   .exact h2
  .rw [Qc] at h2
   exact zai (hit ⟨i,(zvP hi hp λ h h3=>h2 ⟨h,h3⟩).symm,LeH [] []⟩)
 have hlo:=zlh l k;rw [<- hil] at hlo;refine zab (zaa ⟨45,[(0,ints l),(1,.I k),(5,.I i),(31,.B (decide (l[i]? = some k)))],[],400⟩ rfl ?_ ?_)
 .by_cases h1 : i<l.length
  .simp [h1]
   exact Le.snap [] rfl rfl (by simp [h1]; exact wkB (by rw [QE]; simp))
  .have hno : ¬ l[i]? = some k:=by rw [Q3 (by omega)]; simp
   rw [UX hno];simp [h1];exact Le.snap [] rfl rfl (by simp)
 refine zac _ rfl (λ h2=>?_) λ h2=>?_
 .rw [Qe] at h2
  have hput : putL l k=l:=by unfold putL; rw [<- hil,if_pos h2]
  rw [hput];refine rk (s:=?s6) [4] [408] rfl ?o6 ?q6
  case o6=>simp; refine ⟨by omega,by omega,?_⟩; rfl
  exact zah ⟨.inr rfl,zao.out [408] [] rfl (by simp) (by simp) (by simp) (by simp [fcd])⟩
 rw [Qc] at h2;have hput : putL l k=l.take i++k::l.drop i:=by unfold putL; rw [<- hil,if_neg h2]
 have hpl : (putL l k).length=l.length+1:=by rw [hput]; simp; omega
 have hpl2 : (putL l k).length=i+1+(l.length - i):=by omega
 refine zae (zas ⟨45,[(4,.rs 480 0 (putL l k).length)],[(480,some ⟨1,zaf (putL l k),0⟩)],600⟩ rfl ?_ ?_)
 .simp [hlo]
  refine ⟨by omega,by omega,by omega,by omega,by omega,by omega,rfl,Le.go [(480,480)] [] rfl rfl (by simp [hpl2]) (by simp [hput,fcd,Qb,hlo])⟩
 exact zah ⟨.inr rfl,zao.out [480] [] rfl (by simp) (by simp) (by simp) (by simp [fcd])⟩
theorem zrw {P Q : List (List Int)} (h : P.Perm Q) (k : Int) : begC P k=begC Q k:=h.countP_eq _
theorem zrE {P Q : List (List Int)} (h : P.Perm Q) (k : Int) : useC P k=useC Q k:=(h.flatMap_right _).count_eq k
theorem ztt {P Q : List (List Int)} (h : P.Sublist Q) (k : Int) : begC P k<=begC Q k:=h.countP_le
theorem zt8 {P Q : List (List Int)} (h : P.Sublist Q) (k : Int) : useC P k<=useC Q k:=by
 unfold useC
 induction h with
 | slnil=>exact Ql _
 | cons a _ ih=>rw [Vh,Vg]; omega
 | cons_cons a _ ih=>rw [Vh,Vh,Vg,Vg]; omega
theorem zkq.perm {c : List Int} {P Q : List (List Int)} (h : zkq c P) (hp : P.Perm Q) : zkq c Q:=λ k hk=>by
 rw [<- zrw hp,<- zrE hp];exact h k hk
theorem zkq.sub {c : List Int} {P Q : List (List Int)} (h : zkq c Q) (hs : P.Sublist Q) : zkq c P:=λ k hk=>by
 have h1:=h k hk;have h2:=ztt hs k;have h3:=zt8 hs k;omega
theorem zpN {P Q : List (List Int)} (h : P.Perm Q) : (zgH P).Perm (zgH Q):=h.filterMap _
theorem zgJ.perm {g : Gr} {lv : Int} {seeds order c : List Int} {P Q : List (List Int)} {ends ends' : List Int} (h : zgJ g lv seeds order c P ends) (hp : P.Perm Q) (he : ends.Perm ends') : zgJ g lv seeds order c Q ends' :=
 ⟨λ w hw=>h.1 w (hp.mem_iff.2 hw),h.2.1.perm hp,zdu.2 (((zpN hp).symm.trans (zdu.1 h.2.2)).trans he)⟩
theorem zfN {N : Nat} {A : List Ed} (hn : zcV N A) : zaF N A (A.map λ _=>0):=by
 have hs : ∀ (φ : Ed->Int->Int),(∀ e,φ e 0=0) -> ∀ A : List Ed,sumF φ A (A.map λ _=>0)=0:=by
  intro φ hφ A
  induction A with
  | nil=>simp [sumF]
  | cons e A ih=>simp only [Qn,sumF]; rw [hφ,ih]; omega
 refine ⟨?_,λ x _ _=>?_⟩
 .have h0 : ∀ B : List Ed,(∀ e∈B,0<=e.v)->Fit2 B (B.map λ _=>0):=by
   intro B
   induction B with
   | nil=>intro _; exact True.intro
   | cons e B ih=>intro h; exact ⟨⟨UI _,h e (Qm ..)⟩,ih λ x hx=>h x (Qk _ hx)⟩
  exact h0 A λ e he=>(hn.arc e he).2.2.2.2.2.2.2
 .unfold outF inF
  rw [hs _ λ e=>by split <;> rfl,hs _ λ e=>by split <;> rfl]
theorem zdF {N : Nat} {A : List Ed} (hn : zcV N A) : ∃ f,zaF N A f /\ ∀ f',zaF N A f'->valF A f'<=valF A f:=by
 have hb : ∀ f,zaF N A f->valF A f<=capS (λ x=>decide (x=0)) A:=λ f hf=>zcL hn hf (by simp) (by simp)
 have key : ∀ (n : Nat) (f : List Int),zaF N A f->capS (λ x=>decide (x=0)) A - valF A f<=n -> ∃ f,zaF N A f /\ ∀ f',zaF N A f'->valF A f'<=valF A f:=by
  intro n
  induction n with
  | zero =>
    intro f hf h;exact ⟨f,hf,λ f' hf'=>by have:=hb f' hf'; omega⟩
  | succ n ih =>
    intro f hf h
    by_cases hm : ∀ f',zaF N A f'->valF A f'<=valF A f
    .exact ⟨f,hf,hm⟩
    .obtain ⟨f',hf'⟩:=Classical.not_forall.1 hm
     obtain ⟨h1,h2⟩:=Classical.not_imp.1 hf';exact ih f' h1 (by omega)
 exact key _ _ (zfN hn) (Int.self_le_toNat _)
def maxF (N : Nat) (A : List Ed) : Int:=open Classical in if h : ∃ f,zaF N A f /\ ∀ f',zaF N A f'->valF A f'<=valF A f then valF A h.choose else 0
theorem zd1 {N : Nat} {A : List Ed} {f : List Int} (hf : zaF N A f) (hm : ∀ f',zaF N A f'->valF A f'<=valF A f) : maxF N A=valF A f:=by
 have h : ∃ f,zaF N A f /\ ∀ f',zaF N A f'->valF A f'<=valF A f:=⟨f,hf,hm⟩;unfold maxF;rw [dif_pos h];have h1:=h.choose_spec;have h2:=hm _ h1.1;have h3:=h1.2 _ hf;omega
theorem zsH {N : Nat} {A : List Ed} (hn : zcV N A) {f : List Int} (hf : zaF N A f) : valF A f<=maxF N A:=by
 obtain ⟨m,h1,h2⟩:=zdF hn;rw [zd1 h1 h2];exact h2 f hf
theorem zlm {N : Nat} {A : List Ed} (hn : zcV N A) : ∃ f,zaF N A f/\valF A f=maxF N A:=by
 obtain ⟨m,h1,h2⟩:=zdF hn;exact ⟨m,h1,(zd1 h1 h2).symm⟩
theorem zp3 {g : Gr} {p : Pol} {sinks : List Int} (hg : GrOk g) (hp : zaN g.size p) (hk : ∀ x∈sinks,0<=x/\x<g.size) : zcV (2+2*g.size).toNat (zaQ g p (zaH g p) sinks):=by
 have hs0:=hg.1.1;have hse:=hp.2.1.nodup;have hle:=zgT hg p.lv;have hcl : (zaH g p).length=g.size.toNat:=by unfold zaH; rw [Qt,zdt]; rfl
 refine ⟨by omega,λ a ha=>?_⟩
 unfold zaQ at ha;rcases Qo.1 ha with ha | ha
 .rcases Qo.1 ha with ha | ha
  .rcases Qo.1 ha with ha | ha
   .obtain ⟨x,hx,rfl⟩:=Qg.1 ha
    have h1:=Qw.1 hx;have h2:=hse.2 x h1.1;have h3 : 0<(zaH g p).getD x.toNat 0:=by simpa using h1.2
    simp only;omega
   .obtain ⟨i,hx,rfl⟩:=Qg.1 ha
    have h1:=Qw.1 hx;have h2:=QA.1 h1.1;have h3 : 0<(zaH g p).getD i 0:=by simpa using h1.2
    simp only;omega
  .obtain ⟨x,hx,rfl⟩:=Qg.1 ha
   have h2:=hk x (Qw.1 hx).1;simp only;omega
 .obtain ⟨e,hx,rfl⟩:=Qg.1 ha
  have h2:=hle.2 e (Qw.1 hx).1;simp only;omega
def encS (s : Stp) : Int:=if s.2 then -((s.1 : Int)+1) else (s.1 : Int)+1
def decS (v : Int) : Stp:=if 0<v then ((v - 1).toNat,false) else ((-v - 1).toNat,true)
theorem znz (s : Stp) : decS (encS s)=s:=by
 obtain ⟨i,b⟩:=s;unfold decS encS
 cases b
 .simp only [Ub,Us]
  rw [if_pos (by omega)]
  congr 1
  omega
 .simp only [UY]
  rw [if_neg (by omega)]
  congr 1
  omega
theorem zuT (s : Stp) : encS s≠0:=by unfold encS; split <;> omega
structure Bfs (N : Nat) (A : List Ed) (f D b : List Int) : Prop where
 tree : zsr A f D λ x=>decS (b.getD x.toNat 0)
 rng : ∀ x∈D,0<=x/\x<N
 len : b.length=N
 zero : b.getD 0 0=0
 out : ∀ x : Int,0<=x->x∉D->b.getD x.toNat 0=0
 inn : ∀ x∈D,x≠0->b.getD x.toNat 0≠0
def zdG (A : List Ed) (f D : List Int) (m : Nat) : Prop:=∀ s : Stp,s.1<A.length->stF A s∈D.take m->0<za1 A f s->stT A s∈D
def zdM (A : List Ed) (f D : List Int) (k : Int) (i : Nat) : Prop:=∀ s : Stp,s.1<i->stF A s=k->0<za1 A f s->stT A s∈D
variable {N : Nat} {A : List Ed} {f D b : List Int}
theorem Bfs.start (hN : 0<N) : Bfs N A f [0] (List.replicate N 0):=by
 have h0 : ∀ i,(List.replicate N (0 : Int)).getD i 0=0:=λ i=>by
  rw [Qd,List.getElem?_replicate];split <;> rfl
 exact ⟨⟨rfl,by simp,λ j h hj=>by simp at h; omega⟩,λ x hx=>by simp at hx; omega,by simp,h0 0,λ x _ _=>h0 _,λ x hx hn=>absurd (by simpa using hx) hn⟩
theorem Bfs.mem0 (h : Bfs N A f D b) : (0 : Int)∈D:=List.mem_of_mem_head? (by rw [h.tree.zero]; rfl)
theorem Bfs.push (h : Bfs N A f D b) {s : Stp} (hs : s.1<A.length) (hF : stF A s∈D) (hr : 0<za1 A f s) (hT : stT A s∉D) (h0 : 0<=stT A s) (h1 : stT A s<N) : Bfs N A f (D++[stT A s]) (b.set (stT A s).toNat (encS s)):=by
 have hb : (stT A s).toNat<b.length:=by rw [h.len]; omega
 have hne : ∀ x : Int,0<=x->x≠stT A s->(b.set (stT A s).toNat (encS s)).getD x.toNat 0=b.getD x.toNat 0:=λ x hx hxn=>by
  rw [Qd,List.getElem?_set_ne (by omega),Qd]
 have heq : (b.set (stT A s).toNat (encS s)).getD (stT A s).toNat 0=encS s:=by
  rw [Qd,List.getElem?_set_self hb,Qz]
 have hn0 : stT A s≠0:=λ e=>hT (e ▸ h.mem0);refine ⟨⟨?_,?_,λ j hj hj0=>?_⟩,λ x hx=>?_,by rw [Uy]; exact h.len,?_,λ x hx hxn=>?_,λ x hx hxn=>?_⟩
 .rw [List.head?_append,h.tree.zero]
  rfl
 .rw [Ue]
  exact ⟨h.tree.nodup,by simp,λ a ha c hc=>by rw [QB] at hc; subst hc; rintro rfl; exact hT ha⟩
 .rw [Qh,QZ] at hj
  by_cases hjl : j<D.length
  .have hm:=Qj hjl
   have hx : D[j]≠stT A s:=λ e=>hT (e ▸ hm);simp only [Uu hjl];rw [hne _ (h.rng _ hm).1 hx];obtain ⟨q1,q2,q3,q4⟩:=h.tree.step j hjl hj0;refine ⟨q1,q2,?_,q4⟩;rw [Un (by omega)]
   exact q3
  .obtain rfl : j=D.length:=by omega
   have e : (D++[stT A s])[D.length]'(by simp)=stT A s:=by simp
   simp only [e];rw [heq,znz];refine ⟨hs,rfl,?_,hr⟩;rw [Un (Ql _),Q1];exact hF
 .rcases Qo.1 hx with h2 | h2
  .exact h.rng x h2
  .rw [QB] at h2
   subst h2;exact ⟨h0,h1⟩
 .have:=hne 0 (UI _) (Ne.symm hn0)
  simp only [Int.toNat_zero] at this;rw [this];exact h.zero
 .rw [Qo,QB,not_or] at hxn
  rw [hne x hx hxn.2];exact h.out x hx hxn.1
 .by_cases hxt : x=stT A s
  .subst hxt
   rw [heq];exact zuT s
  .rcases Qo.1 hx with h2 | h2
   .rw [hne x (h.rng x h2).1 hxt]
    exact h.inn x h2 hxn
   .exact absurd (QB.1 h2) hxt
theorem Bfs.few (h : Bfs N A f D b) : D.length<=N:=by
 have:=zaL (b:=(List.range N).map λ i : Nat=>(i : Int)) h.tree.nodup λ x hx=>by
  have:=h.rng x hx;exact Qg.2 ⟨x.toNat,QA.2 (by omega),by omega⟩
 simpa using this
def tryS (A : List Ed) (f : List Int) (k : Int) (s : Stp) (st : List Int × List Int) : List Int × List Int :=
 if stF A s=k/\0<za1 A f s/\stT A s∉st.1 then (st.1++[stT A s],st.2.set (stT A s).toNat (encS s)) else st
theorem zhB {k : Int} {s : Stp} {st : List Int × List Int} : ∃ l,(tryS A f k s st).1=st.1++l:=by
 unfold tryS;split
 .exact ⟨_,rfl⟩
 .exact ⟨[],by simp⟩
theorem zr4 {k : Int} {s : Stp} {st : List Int × List Int} (h : Bfs N A f st.1 st.2) (hk : k∈st.1) (hs : s.1<A.length) (h0 : 0<=stT A s) (h1 : stT A s<N) : Bfs N A f (tryS A f k s st).1 (tryS A f k s st).2:=by
 unfold tryS;split
 .rename_i hc
  exact h.push hs (hc.1 ▸ hk) hc.2.1 hc.2.2 h0 h1
 .exact h
theorem zpm {k : Int} {s : Stp} {st : List Int × List Int} (hF : stF A s=k) (hr : 0<za1 A f s) : stT A s∈(tryS A f k s st).1:=by
 unfold tryS
 by_cases h : stT A s∈st.1
 .rw [if_neg λ hc=>hc.2.2 h]
  exact h
 .rw [if_pos ⟨hF,hr,h⟩]
  simp
theorem zdM.try2 {k : Int} {i : Nat} {st : List Int × List Int} (h : zdM A f st.1 k i) : zdM A f (tryS A f k (i,true) (tryS A f k (i,false) st)).1 k (i+1):=by
 obtain ⟨l1,e1⟩:=zhB (A:=A) (f:=f) (k:=k) (s:=(i,false)) (st:=st);obtain ⟨l2,e2⟩:=zhB (A:=A) (f:=f) (k:=k) (s:=(i,true)) (st:=tryS A f k (i,false) st);intro s hs hF hr;obtain ⟨j,c⟩:=s;rcases QS.1 hs with hj | hj
 .rw [e2,e1]
  exact QU _ (QU _ (h (j,c) hj hF hr))
 .have hj : j=i:=hj
  subst hj
  cases c
  .rw [e2]
   exact QU _ (zpm hF hr)
  .exact zpm hF hr
theorem zdG.next {m : Nat} (hm : m<D.length) {D' : List Int} (h : zdG A f D m) (hi : zdM A f D' D[m] A.length) {l : List Int} (hD : D'=D++l) : zdG A f D' (m+1):=by
 subst hD;intro s hs hF hr;rw [Un (by omega),Qp hm] at hF
 rcases Qo.1 hF with h1 | h1
 .exact QU _ (h s hs h1 hr)
 .exact hi s hs (QB.1 h1) hr
theorem zdG.all (h : zdG A f D D.length) : zdn A f D:=λ s hs hF hr=>h s hs (by rw [Q1]; exact hF) hr
def zbo (N : Nat) (D : List Int) : List Bool:=(List.range N).map λ k : Nat=>decide ((k : Int)∈D)
theorem zgl (N : Nat) (D : List Int) : (zbo N D).length=N:=by simp [zbo]
theorem zeJ {x : Int} (h0 : 0<=x) (h1 : x<N) : (zbo N D)[x.toNat]? = some (decide (x∈D)):=by
 unfold zbo;rw [Qs,List.getElem?_range (by omega)]
 simp only [Q7,Int.toNat_of_nonneg h0]
theorem zgI {x : Int} (h0 : 0<=x) (h1 : x<N) : (zbo N D).set x.toNat true=zbo N (D++[x]):=by
 apply U9;intro j
 by_cases hj : j<N
 .have e1 : (zbo N (D++[x]))[j]? = some (decide ((j : Int)∈D++[x])):=by
   have:=zeJ (N:=N) (D:=D++[x]) (x:=(j : Int)) (by omega) (by omega)
   simpa using this
  have e2 : (zbo N D)[j]? = some (decide ((j : Int)∈D)):=by
   have:=zeJ (N:=N) (D:=D) (x:=(j : Int)) (by omega) (by omega)
   simpa using this
  rw [UF,e1,e2,zgl]
  by_cases hx : x.toNat=j
  .rw [if_pos hx,if_pos (by omega)]
   have : (j : Int)=x:=by omega
   simp [this]
  .rw [if_neg hx]
   have : (j : Int)≠x:=by omega
   simp [this]
 .rw [Q3 (by rw [Uy,zgl]; omega),Q3 (by rw [zgl]; omega)]
theorem zlT (hN : 0<N) : (List.replicate N false).set 0 true=zbo N [0]:=by
 have h:=zgI (N:=N) (D:=[]) (x:=0) (UI _) (by omega)
 have e : zbo N []=List.replicate N false:=by
  unfold zbo;apply List.ext_getElem (by simp)
  simp
 rw [e] at h;exact h
theorem zlL {α : Type} {l : List α} (h : l.Nodup) : l.reverse.Nodup:=List.pairwise_reverse.2 (h.imp λ hne e=>hne e.symm)
theorem zvh {v : Int} (hv : v≠0) : encS (decS v)=v:=by
 unfold decS encS
 by_cases h : 0<v
 .rw [if_pos h]; simp; omega
 .rw [if_neg h]; simp; omega
def endW (A : List Ed) (u : Int) (l : List Stp) : Nat->Int
 | 0=>u
 | j+1=>stT A (l.getD j (0,false))
theorem zmk {A : List Ed} {u : Int} {s : Stp} {l : List Stp} (j : Nat) : endW A u (s::l) (j+1)=endW A (stT A s) l j:=by
 cases j <;> rfl
theorem zu0 {A : List Ed} : ∀ {l : List Stp} {u w : Int},WayS A u l w -> ∀ j (hj : j<l.length),stF A l[j]=endW A u l j
 | s::l,u,w,h,0,_=>h.2.1
 | s::l,u,w,h,j+1,hj=>by
   rw [zmk];exact zu0 h.2.2 j (by simpa using hj)
theorem zoe {A : List Ed} : ∀ {l : List Stp} {u w : Int},WayS A u l w->endW A u l l.length=w
 | [],u,w,h=>h
 | s::l,u,w,h=>by
   rw [QM,zmk];exact zoe h.2.2
variable {N : Nat} {A : List Ed} {f D b : List Int}
structure zj5 (N : Nat) (A : List Ed) (f b : List Int) (l : List Stp) : Prop where
 way : WayS A 0 l 1
 nodup : (l.map (·.1)).Nodup
 at_ : ∀ j (h : j<l.length),l[j].1<A.length/\0<za1 A f l[j]/\stT A l[j]≠0/\0<=stT A l[j]/\stT A l[j]<N/\b.getD (stT A l[j]).toNat 0=encS l[j]
theorem Bfs.chain (h : Bfs N A f D b) (h1 : (1 : Int)∈D) : ∃ l,zj5 N A f b l:=by
 obtain ⟨j,hj,hx⟩:=QF.1 h1;obtain ⟨l,l1,l2,l3⟩:=h.tree.way j j hj (Ql _);rw [hx] at l1;refine ⟨l,l1,l2,λ i hi=>?_⟩;obtain ⟨q1,q2,q3,q4,_,q5⟩:=l3 _ (Qj hi);have hm:=QY q5;have hr:=h.rng _ hm;have hne:=h.inn _ hm q4;refine ⟨q1,q2,q4,hr.1,hr.2,?_⟩;rw [<- zvh hne,q3]
theorem zj5.from_ {l : List Stp} (h : zj5 N A f b l) (j : Nat) (hj : j<l.length) : stF A l[j]=endW A 0 l j:=zu0 h.way j hj
def zcJ (v : Int) (f : List Int) (l : List Stp) (j : Nat) : List Int:=zfe v f (l.drop j).reverse
theorem zl2 (v : Int) (f : List Int) (l : List Stp) : zcJ v f l l.length=f:=by simp [zcJ,zfe]
theorem znc (v : Int) (f : List Int) (l : List Stp) (j : Nat) : (zcJ v f l j).length=f.length:=zev
theorem zjV {v : Int} {f : List Int} {l : List Stp} (j : Nat) (hj : j<l.length) : zcJ v f l j=ze5 v (zcJ v f l (j+1)) l[j]:=by
 unfold zcJ zfe;rw [QQ hj,List.reverse_cons,Vf];rfl
theorem zmq {v : Int} {l : List Stp} (hn : (l.map (·.1)).Nodup) (hr : ∀ s∈l,s.1<f.length) (j : Nat) (hj : j<l.length) : (zcJ v f l (j+1)).getD l[j].1 0=f.getD l[j].1 0:=by
 refine (zeu (δ:=v) (f:=f) (i:=l[j].1) (l:=(l.drop (j+1)).reverse) ?_ ?_).1 ?_
 .rw [List.map_reverse]
  refine zlL ?_;exact hn.sublist ((List.drop_sublist _ _).map _)
 .intro s hs
  exact hr s (UV (List.mem_reverse.1 hs))
 .rw [List.map_reverse,List.mem_reverse]
  intro hm;obtain ⟨s,hs,he⟩:=Qg.1 hm;obtain ⟨i,hi,rfl⟩:=QF.1 hs;rw [UM] at hi;rw [List.getElem_drop] at he;have h1:=(QR.1 hn) j (j+1+i) (by rw [Qt]; exact hj) (by rw [Qt]; omega) (by omega)
  rw [List.getElem_map,List.getElem_map] at h1;exact h1 he.symm
theorem zqR {v : Int} {l : List Stp} (hn : (l.map (·.1)).Nodup) (hr : ∀ s∈l,s.1<f.length) : zcJ v f l 0=zfe v f l:=by
 unfold zcJ;rw [List.drop_zero];have hn' : (l.reverse.map (·.1)).Nodup:=by rw [List.map_reverse]; exact zlL hn
 have hr' : ∀ s∈l.reverse,s.1<f.length:=λ s hs=>hr s (List.mem_reverse.1 hs);apply List.ext_getElem (by rw [zev,zev])
 intro i h1 h2;have e : ∀ (L : List Int) (h : i<L.length),L[i]=L.getD i 0:=λ L h=>by rw [Qd,Qa h,Qz]
 rw [e _ h1,e _ h2];have g1:=zeu (δ:=v) (f:=f) (i:=i) hn' hr';have g2:=zeu (δ:=v) (f:=f) (i:=i) hn hr
 by_cases hm : i∈l.map (·.1)
 .obtain ⟨s,hs,rfl⟩:=Qg.1 hm
  rw [g1.2 s.2 (List.mem_reverse.2 hs),g2.2 s.2 hs]
 .rw [g1.1 (by rw [List.map_reverse,List.mem_reverse]; exact hm),g2.1 hm]
theorem zj5.push {l : List Stp} (hn : zcV N A) (hf : zaF N A f) (h : zj5 N A f b l) {v : Int} (h0 : 0<=v) (hv : ∀ s∈l,v<=za1 A f s) : zaF N A (zcJ v f l 0)/\valF A (zcJ v f l 0)=valF A f+v:=by
 have hr : ∀ s∈l,s.1<A.length:=λ s hs=>by
  obtain ⟨i,hi,rfl⟩:=QF.1 hs;exact (h.at_ i hi).1
 rw [zqR h.nodup λ s hs=>by rw [hf.fit.len]; exact hr s hs]
 exact zvM hn hf h0 h.way h.nodup λ s hs=>⟨hr s hs,hv s hs⟩
theorem zbR {A : List Ed} {N : Nat} (h : zaT ⟨N,A⟩) : zcV N A:=by
 obtain ⟨h1,_,_,h4⟩:=h;simp only at h1 h4;refine ⟨by omega,λ e he=>?_⟩
 obtain ⟨q1,q2,q3,q4,q5,q6,q7,q8,_⟩:=h4 e he;exact ⟨q1,by omega,q3,by omega,q5,q6,q7,q8⟩
def netN (g : Gr) : Nat:=(2+2*g.size).toNat
theorem zhN {g : Gr} (hg : GrOk g) : ((netN g : Nat) : Int)=2+2*g.size:=by unfold netN; have:=hg.1.1; omega
abbrev netA (g : Gr) (p : Pol) (ks : List Int) : List Ed:=zaQ g p (zaH g p) ks
def zar (g : Gr) (p : Pol) (ks : List Int) : Prop:=maxF (netN g) (netA g p ks)=ks.length
theorem ziW {g : Gr} {p : Pol} {ks : List Int} (hg : GrOk g) (hp : zaN g.size p) (hk : ∀ x∈ks,0<=x/\x<g.size) : zcV (netN g) (netA g p ks):=zp3 hg hp hk
theorem zhC {g : Gr} {p : Pol} {ks : List Int} (hg : GrOk g) (hp : zaN g.size p) (hk : ∀ x∈ks,0<=x/\x<g.size) (hs : p.seeds.length<=64) (hsl : ks.length<=64) : zaT ⟨netN g,netA g p ks⟩:=by
 have h1:=ziW hg hp hk;have h2 : (netA g p ks).length<=1000:=zoo g p ks hg hs hsl;have h3:=hg.1.2.1;have hN:=zhN hg;have h0:=hg.1.1
 have hcb : ∀ i : Nat,(zaH g p).getD i 0<=1000:=λ i=>by
  rw [Qd]
  cases h : (zaH g p)[i]? with
  | none=>simp
  | some v =>
    have hm:=Uf h;unfold zaH at hm;obtain ⟨d,_,rfl⟩:=Qg.1 hm;exact (zff hp d).2
 refine ⟨by simp only; omega,by simp only; omega,by simp only; omega,λ a ha=>?_⟩
 obtain ⟨q1,q2,q3,q4,q5,q6,q7,q8⟩:=h1.arc a ha;refine ⟨q1,by simp only; omega,q3,by simp only; omega,q5,q6,q7,q8,?_⟩
 simp only [netA,zaQ] at ha;rcases Qo.1 ha with ha | ha
 .rcases Qo.1 ha with ha | ha
  .rcases Qo.1 ha with ha | ha
   .obtain ⟨x,hx,rfl⟩:=Qg.1 ha
    have:=hcb x.toNat;simp only;omega
   .obtain ⟨i,hx,rfl⟩:=Qg.1 ha
    have:=hcb i;simp only;omega
  .obtain ⟨x,hx,rfl⟩:=Qg.1 ha
   simp
 .obtain ⟨e,hx,rfl⟩:=Qg.1 ha
  simp
theorem zeG : ∀ {a b : List Int},a.Pairwise (· < ·)->b.Pairwise (· < ·)->(∀ x,x∈a↔x∈b)->a=b
 | [],[],_,_,_=>rfl
 | [],y::b,_,_,h=>by have:=(h y).2 (by simp); cases this
 | x::a,[],_,_,h=>by have:=(h x).1 (by simp); cases this
 | x::a,y::b,ha,hb,h=>by
   have ha':=Ur.1 ha;have hb':=Ur.1 hb
   have hxy : x=y:=by
    have h1:=(h x).1 (by simp)
    have h2:=(h y).2 (by simp)
    rcases Qu.1 h1 with e | e
    .exact e
    .rcases Qu.1 h2 with e2 | e2
     .exact e2.symm
     .have:=hb'.1 x e
      have:=ha'.1 y e2;omega
   subst hxy
   congr 1
   refine zeG ha'.2 hb'.2 λ z=>⟨λ hz=>?_,λ hz=>?_⟩
   .rcases Qu.1 ((h z).1 (Qk _ hz)) with rfl | e
    .have:=ha'.1 z hz; omega
    .exact e
   .rcases Qu.1 ((h z).2 (Qk _ hz)) with rfl | e
    .have:=hb'.1 z hz; omega
    .exact e
theorem zrC {a : List Int} {k : Int} (h0 : 0<=k) (h1 : k<64) : putL (zaG a) k=zaG (a++[k]):=by
 refine zeG (zdo (zeF a)) (zeF _) λ x=>?_;rw [zhL,zcX,zcX,Qo,QB];constructor
 .rintro (h | rfl)
  .exact ⟨.inl h.1,h.2⟩
  .exact ⟨.inr rfl,h0,h1⟩
 .rintro ⟨h | h,h2⟩
  .exact .inl ⟨h,h2⟩
  .exact .inr h
open Classical in
def accR (g : Gr) (p : Pol) (o : List Int) : List Int:=o.foldl (λ acc k=>if zar g p (zaG (acc++[k])) then acc++[k] else acc) []
variable {g : Gr} {p : Pol}
theorem zhF : accR g p []=[]:=rfl
open Classical in
theorem zbk {o : List Int} {k : Int} (h : zar g p (zaG (accR g p o++[k]))) : accR g p (o++[k])=accR g p o++[k]:=by
 have h2 : accR g p (o++[k])=if zar g p (zaG (accR g p o++[k])) then accR g p o++[k] else accR g p o:=by unfold accR; rw [Vf]; rfl
 rw [h2,if_pos h]
open Classical in
theorem zfg {o : List Int} {k : Int} (h : ¬ zar g p (zaG (accR g p o++[k]))) : accR g p (o++[k])=accR g p o:=by
 have h2 : accR g p (o++[k])=if zar g p (zaG (accR g p o++[k])) then accR g p o++[k] else accR g p o:=by unfold accR; rw [Vf]; rfl
 rw [h2,if_neg h]
theorem zlP (o : List Int) (k : Int) : accR g p (o++[k])=accR g p o∨accR g p (o++[k])=accR g p o++[k]:=by
 by_cases h : zar g p (zaG (accR g p o++[k]))
 .exact .inr (zbk h)
 .exact .inl (zfg h)
theorem zcG : ∀ (n : Nat) (o : List Int),o.length=n->(accR g p o).Sublist o
 | 0,o,h=>by
   obtain rfl:=QK h;exact List.nil_sublist _
 | n+1,o,h=>by
   have hne : o≠[]:=λ e=>by rw [e] at h; cases h
   rw [<- List.dropLast_concat_getLast hne];have ih:=zcG n o.dropLast (by rw [List.length_dropLast,h]; rfl)
   rcases zlP (g:=g) (p:=p) o.dropLast (o.getLast hne) with e | e
   .rw [e]; exact ih.trans (List.sublist_append_left _ _)
   .rw [e]; exact ih.append (List.Sublist.refl _)
theorem zdb {o : List Int} {x : Int} (h : x∈accR g p o) : x∈o:=(zcG _ o rfl).subset h
theorem zkx (o : List Int) : (accR g p o).length<=o.length:=(zcG _ o rfl).length_le
open Classical in
def zdq (N : Nat) (A : List Ed) : List Int:=((List.range N).map λ k : Nat=>(k : Int)).filter λ k=>decide (∀ S : Int->Bool,S 0=true->S 1=false->capS S A=maxF N A->S k=true)
theorem zkz {N : Nat} {A : List Ed} {f D : List Int} {by_ : Int->Stp} (hn : zcV N A) (hf : zaF N A f) (hm : ∀ f',zaF N A f'->valF A f'<=valF A f) (ht : zsr A f D by_) (h0 : (0 : Int)∈D) (h1 : (1 : Int)∉D) (hc : zdn A f D) :
  ((List.range N).map λ k : Nat=>(k : Int)).filter (λ k=>decide (k∈D))=zdq N A:=by
 unfold zdq;refine List.filter_congr λ k _=>?_;rw [decide_eq_decide];have hmf:=zd1 hf hm;constructor
 .intro hk S s0 s1 hS
  exact zjw hn hf ht s0 s1 (hS.trans hmf) k hk
 .intro h
  have:=h (λ x=>decide (x∈D)) (by simpa using h0) (by simpa using h1) (by rw [hmf]; exact (zeM hn hf h0 h1 hc).1.symm)
  simpa using this
open Classical in
def refS (g : Gr) (p : Pol) (o : List Int) : List Int × List (Int × List Int) :=
 o.foldl (λ s k=>if zar g p (zaG (s.1++[k])) then (s.1++[k],s.2) else (s.1,s.2++[(k,zdq (netN g) (netA g p (zaG (s.1++[k]))))])) ([],[])
def refR (g : Gr) (p : Pol) (o : List Int) : List (Int × List Int):=(refS g p o).2
open Classical in
theorem zil (o : List Int) (k : Int) : refS g p (o++[k])=if zar g p (zaG ((refS g p o).1++[k])) then ((refS g p o).1++[k],(refS g p o).2) else ((refS g p o).1,(refS g p o).2++[(k,zdq (netN g) (netA g p (zaG ((refS g p o).1++[k]))))]):=by
 unfold refS;rw [Vf];rfl
theorem zkW : ∀ (n : Nat) (o : List Int),o.length=n->(refS g p o).1=accR g p o
 | 0,o,h=>by
   obtain rfl:=QK h;rfl
 | n+1,o,h=>by
   have hne : o≠[]:=λ e=>by rw [e] at h; cases h
   rw [<- List.dropLast_concat_getLast hne];have ih:=zkW n o.dropLast (by rw [List.length_dropLast,h]; rfl)
   rw [zil,ih];split
   .rename_i h1
    rw [zbk h1]
   .rename_i h1
    rw [zfg h1]
theorem zeD {o : List Int} {k : Int} (h : zar g p (zaG (accR g p o++[k]))) : refR g p (o++[k])=refR g p o:=by
 unfold refR;rw [zil,zkW _ o rfl,if_pos h]
theorem zkT {o : List Int} {k : Int} (h : ¬ zar g p (zaG (accR g p o++[k]))) : refR g p (o++[k])=refR g p o++[(k,zdq (netN g) (netA g p (zaG (accR g p o++[k]))))]:=by
 unfold refR;rw [zil,zkW _ o rfl,if_neg h]
structure zuW (g : Gr) (p : Pol) (acc : List Int) (k : Int) (side : List Int) : Prop where
 no : ¬ zar g p (zaG (acc++[k]))
 ok : zmC ⟨netN g,netA g p (zaG (acc++[k]))⟩ side
 cut : cutV (netA g p (zaG (acc++[k]))) side=maxF (netN g) (netA g p (zaG (acc++[k])))
 len : side.length<=130
 eq : side=zdq (netN g) (netA g p (zaG (acc++[k])))
structure zf2 (g : Gr) (p : Pol) (o : List Int) (R : List (Int × List Int)) : Prop where
 all : ∀ i (h : i<o.length),o[i]∉accR g p (o.take (i+1)) -> ∃ side,(o[i],side)∈R
 right : ∀ r∈R,∃ i,∃ h : i<o.length,o[i]=r.1/\zuW g p (accR g p (o.take i)) r.1 r.2
 len : R.length<=o.length
 eq : R=refR g p o
theorem zf2.nil : zf2 g p [] []:=⟨λ i h=>absurd h (U4 _),(λ r h=>nomatch h),Ql _,rfl⟩
theorem zf2.yes {o : List Int} {k : Int} {R : List (Int × List Int)} (hr : zf2 g p o R) (h : zar g p (zaG (accR g p o++[k]))) : zf2 g p (o++[k]) R:=by
 refine ⟨λ i hi hn=>?_,λ r hr'=>?_,QH hr.len (by simp),by rw [zeD h]; exact hr.eq⟩
 .rw [Qh,QZ] at hi
  by_cases hio : i<o.length
  .rw [Uu hio] at hn ⊢
   rw [Un (by omega)] at hn
   exact hr.all i hio hn
  .obtain rfl : i=o.length:=by omega
   refine absurd ?_ hn;rw [Qb (by simp),zbk h]
   simp
 .obtain ⟨i,hi,h1,h2⟩:=hr.right r hr'
  refine ⟨i,by simp; omega,by rw [Uu hi]; exact h1,?_⟩
  rw [Un (by omega)]
  exact h2
theorem zf2.no {o : List Int} {k : Int} {R : List (Int × List Int)} {side : List Int} (hr : zf2 g p o R) (h : zuW g p (accR g p o) k side) : zf2 g p (o++[k]) (R++[(k,side)]):=by
 refine ⟨λ i hi hn=>?_,λ r hr'=>?_,by have:=hr.len; simp; omega,by rw [zkT h.no,<- hr.eq,<- h.eq]⟩
 .rw [Qh,QZ] at hi
  by_cases hio : i<o.length
  .rw [Uu hio] at hn ⊢
   rw [Un (by omega)] at hn
   obtain ⟨s,hs⟩:=hr.all i hio hn;exact ⟨s,QU _ hs⟩
  .obtain rfl : i=o.length:=by omega
   exact ⟨side,by simp⟩
 .rcases Qo.1 hr' with h3 | h3
  .obtain ⟨i,hi,h1,h2⟩:=hr.right r h3
   refine ⟨i,by simp; omega,by rw [Uu hi]; exact h1,?_⟩
   rw [Un (by omega)]
   exact h2
  .rw [QB] at h3
   subst h3;refine ⟨o.length,by simp,by simp,?_⟩
   rw [Un (Ql _),Q1];exact h
end Go.Proofs.YtkngdgplbojdlaaGreat
