/- Texts of this claim,merged. -/
import Derived.Test.YtkngdgplbojdlaaGreatRs6
import Derived.Test.YtkngdgplbojdlaaGreatRs5
import Derived.Test.YtkngdgplbojdlaaGreatRs3
import Derived.Shelf.SlSortCmp.WholeK
import Derived.Test.YtkngdgplbojdlaaGreatProg
import Derived.LoopN
import Derived.BigQuiet
import Derived.Deep.RegionHeld3
import Derived.Deep.DrawnRows
import Derived.Test.YtkngdgplbojdlaaGreatRs2
import Derived.Test.YtkngdgplbojdlaaGreatRs4
set_option linter.unusedSimpArgs false
set_option linter.unusedVariables false
set_option linter.unusedSectionVars false
set_option maxRecDepth 100000
set_option maxHeartbeats 8000000
noncomputable section
namespace Go.Proofs.YtkngdgplbojdlaaGreat
open Go
theorem bN {s N:Nat} {E E':Nat->List (List AV)} (h:∀ k<N,E k=E' k):CF s N E=CF s N E':=by
 unfold CF;rw[XV (E:=E) (E':=E') λ k hk=>by rw[h k hk]]
 congr 1
 unfold ER;refine QF λ k hk=>?_;rw[h k (Qy.1 hk)]
theorem Oo {B B':Nat->Nat->Nat} {M k:Nat} (h:∀ j,j<M->B k j=B' k j):Af B M k=Af B' M k:=by
 unfold Af;refine QF λ j hj=>?_;rw[h j (Qy.1 hj)]
def Br (W:BS) (N i:Nat):List Int:=(List.range (N+1)).map λ j=>W i j
theorem ND (W:BS) (N i:Nat):(Br W N i).length=N+1:=by simp[Br]
theorem Rf {W:BS} {N i c:Nat} (h:c<(Br W N i).length):(Br W N i)[c]=W i c:=by simp[Br]
theorem Zs (W:BS) (N i:Nat):(Br W N i).sum=BP (N+1) (W i):=by
 rw[OU,ND];refine GX _ λ j hj=>?_;simp[Br,Qe,hj]
section
variable (K:List Int) (L:List (List Int)) (W:BS) (N root:Nat) (hl:L.length=N+1) (h8:N<=8) (hr:root<N+1)
 (hL:∀ i,i<N+1->L[i]? = some (Br W N i)) (hW:∀ i j,0<=W i j/\W i j<=8)
 (hm:∀ i,i<N+1->AcP 85 [KP K L,.I i] [] (.I (BP (N+1) (W i))) [])
 (hs:∀ i,i<N+1->0<=BP (N+1) (W i) - W i i/\BP (N+1) (W i)<=100)
 (hA:MM N (BW W N root)) (hp:∀ k,k<=N->(EX k λ i=>BW W N root i i)<=722204136308736)
include hl h8 hr hL hW hm hs hA hp
theorem uB:AcP 86 [KP K L,.I root] [] (.I (GV W N root)) []:=by
 refine Y3.s.ai ?_;have b5:∀ i:Nat,i<N+1->i<L.length:=λ i hi=>by omega
 have b6:∀ (i:Nat) (h:i<L.length),L[i]=Br W N i:=λ i h=>by
  have:=hL i (by omega)
  rw[Qc h] at this;exact Qf this
 refine rs [1,2] [] [16] ?_;refine rs [1,2,5] [] [] ?_;refine Ao ⟨139,[(5,.rs 50 0 N)],CF 1 N (Af (b0 W N root) N),9000⟩ ?_ ?_
 .refine rx (s:=?z3) [1,2,5,18,19,20] [] [] rfl ?p3 ?r3
  case p3=>simp[hl];rfl
  refine AL (Ae (ι:=Nat) (λ i=>⟨139,[(1,.I root),(2,.pv [AA K,BJ L]),(5,.rs 50 0 (AO root i)),(18,BJ L),(19,.I (N+1:Nat)),(20,.I i)],CF 1 (AO root i) (Af (b0 W N root) N),3000⟩) (λ i=>i<=N+1) (λ i=>N+1 - i) 0 (Qh _) ?_ ?_)
  .refine Le.lst [] [] [(50,1)] rfl (by simp) (by simp) (by simp) (by simp) (by simp) (by simp) (by simp) (by simp[Up,I7]) (by simp[I7,ER,A8])
  intro i hi;refine arc ⟨139,[(1,.I root),(2,.pv [AA K,BJ L]),(5,.rs 50 0 (AO root i)),(18,BJ L),(19,.I (N+1:Nat)),(20,.I i),(21,.B (decide (i<N+1)))],CF 1 (AO root i) (Af (b0 W N root) N),3100⟩ ?_ ?_
  .simp
   exact Le.slot (by omega) (by simp<;>omega)
  refine AC (AE _ rfl (λ hc=>?_) λ hc=>?_)
  .rw [Qd] at hc
   have hb:=w6 (x:=(i:Int)+1);have a7:=b5 i hc;have bf:=b6 i a7;refine AJ (Ao ⟨139,[(1,.I root),(2,.pv [AA K,BJ L]),(5,.rs 50 0 (AO root (i+1))),(18,BJ L),(19,.I (N+1:Nat)),(20,.I i)],CF 1 (AO root (i+1)) (Af (b0 W N root) N),8000⟩ ?_ ?_)
   .refine AL (arc ⟨139,[(1,.I root),(2,.pv [AA K,BJ L]),(5,.rs 50 0 (AO root i)),(6,.I i),(7,AA (Br W N i)),(18,BJ L),(19,.I (N+1:Nat)),(20,.I i)],CF 1 (AO root i) (Af (b0 W N root) N),3200⟩ ?_ ?_)
    .simp [a7,bf]
     exact Le.slot (by omega) (by simp)
    refine AC (arc ⟨139,[(1,.I root),(2,.pv [AA K,BJ L]),(5,.rs 50 0 (AO root i)),(6,.I i),(7,AA (Br W N i)),(18,BJ L),(19,.I (N+1:Nat)),(20,.I i),(27,.B (decide (i=root)))],CF 1 (AO root i) (Af (b0 W N root) N),3300⟩ ?_ ?_)
    .simp
     exact Le.slot (by omega) (by simp[Gp]<;>omega)
    refine AE _ rfl (λ he=>?_) λ he=>?_
    .rw [Qd] at he
     subst he;refine Aa (hit ?_);rw[NB];exact Le.slot (by omega) (by simp)
    rw[Qa] at he;have cl:=MX he hr hc;have bo:=Mg he;refine AJ (arc ⟨139,[(1,.I root),(2,.pv [AA K,BJ L]),(5,.rs 50 0 (AO root i)),(6,.I i),(7,AA (Br W N i)),(8,.nilS),(18,BJ L),(19,.I (N+1:Nat)),(20,.I i)],CF 1 (AO root i) (Af (b0 W N root) N),3400⟩ ?_ ?_)
    .simp
     exact Le.slot (by omega) (by simp)
    refine AC (arc ⟨139,[(1,.I root),(2,.pv [AA K,BJ L]),(5,.rs 50 0 (AO root i)),(6,.I i),(8,.nilS),(18,BJ L),(19,.I (N+1:Nat)),(20,.I i),(28,AA (Br W N i)),(29,.I (N+1:Nat)),(30,.I 0)],CF 1 (AO root i) (Af (b0 W N root) N),3500⟩ ?_ ?_)
    .simp [ND]
     exact Le.slot (by omega) (by simp)
    refine AL (Ae (ι:=Nat) (λ c=>⟨139,[(1,.I root),(2,.pv [AA K,BJ L]),(5,.rs 50 0 (AO root i)),(6,.I i),(8,.rs 60 0 (AO root c)),(18,BJ L),(19,.I (N+1:Nat)),(20,.I i),(28,AA (Br W N i)),(29,.I (N+1:Nat)),(30,.I c)],(60,some ⟨1,Af (b0 W N root) (AO root c) (AO root i),0⟩)::CF 1 (AO root i) (Af (b0 W N root) N),4000⟩) (λ c=>c<=N+1) (λ c=>N+1 - c) 0 (Qh _) ?_ ?_)
    .exact Le.famX (m:=0) true ⟨by omega,.inl (by omega)⟩ (by omega) (λ k _=>GU _ _ k) (λ k hk=>GN hk) Gx (.inr (.inl ⟨rfl,by simp[I7,Af]⟩)) (by simp[Up,Ce,AW,I7])
    intro c cp;refine arc ⟨139,[(1,.I root),(2,.pv [AA K,BJ L]),(5,.rs 50 0 (AO root i)),(6,.I i),(8,.rs 60 0 (AO root c)),(18,BJ L),(19,.I (N+1:Nat)),(20,.I i),(28,AA (Br W N i)),(29,.I (N+1:Nat)),(30,.I c),(31,.B (decide (c<N+1)))],(60,some ⟨1,Af (b0 W N root) (AO root c) (AO root i),0⟩)::CF 1 (AO root i) (Af (b0 W N root) N),4100⟩ ?_ ?_
    .simp
     exact Le.slot (by omega) (by simp<;>omega)
    refine AC (AE _ rfl (λ h5=>?_) λ h5=>?_)
    .rw [Qd] at h5
     have hu:=w6 (x:=(c:Int)+1);have hf:=hW i c;have bs:=hs i hc
     have hh:∀ {a b d e:Nat × Option AQ} {t:List (Nat × AV)} {n k:Nat},k<AO root i->a.1≠k+1000->b.1≠k+1000->d.1≠k+1000->e.1≠k+1000->(⟨139,t,a::b::d::e::CF 1 (AO root i) (Af (b0 W N root) N),n⟩:St).hp (k+1000)=some ⟨1,Af (b0 W N root) N k,0⟩:=λ {a b d e t n k} hk h1 h2 h3 h4=>by
      obtain⟨a1,a2⟩:=a;obtain⟨b1,b2⟩:=b;obtain⟨d1,d2⟩:=d;obtain⟨e1,e2⟩:=e;rw[Gg h1,Gg h2,Gg h3,Gg h4,GN hk]
     refine AJ (Ao ⟨139,[(1,.I root),(2,.pv [AA K,BJ L]),(5,.rs 50 0 (AO root i)),(6,.I i),(8,.rs 60 0 (AO root (c+1))),(18,BJ L),(19,.I (N+1:Nat)),(20,.I i),(28,AA (Br W N i)),(29,.I (N+1:Nat)),(30,.I c)],(60,some ⟨1,Af (b0 W N root) (AO root (c+1)) (AO root i),0⟩)::CF 1 (AO root i) (Af (b0 W N root) N),7000⟩ ?_ ?_)
     .refine AL (arc ⟨139,[(1,.I root),(2,.pv [AA K,BJ L]),(5,.rs 50 0 (AO root i)),(6,.I i),(8,.rs 60 0 (AO root c)),(9,.I c),(10,.I (W i c)),(18,BJ L),(19,.I (N+1:Nat)),(20,.I i),(28,AA (Br W N i)),(29,.I (N+1:Nat)),(30,.I c)],(60,some ⟨1,Af (b0 W N root) (AO root c) (AO root i),0⟩)::CF 1 (AO root i) (Af (b0 W N root) N),4200⟩ ?_ ?_)
      .simp [h5,ND,Rf]
       exact Le.slot (by omega) (by simp)
      refine AL (arc ⟨139,[(1,.I root),(2,.pv [AA K,BJ L]),(5,.rs 50 0 (AO root i)),(6,.I i),(8,.rs 60 0 (AO root c)),(9,.I c),(10,.I (W i c)),(18,BJ L),(19,.I (N+1:Nat)),(20,.I i),(28,AA (Br W N i)),(29,.I (N+1:Nat)),(30,.I c),(42,.B (decide (c=root)))],(60,some ⟨1,Af (b0 W N root) (AO root c) (AO root i),0⟩)::CF 1 (AO root i) (Af (b0 W N root) N),4300⟩ ?_ ?_)
      .simp
       exact Le.slot (by omega) (by simp[Gp]<;>omega)
      refine AE _ rfl (λ h1=>?_) λ h1=>?_
      .rw [Qd] at h1
       subst h1;refine AJ ?_;rw[NB];exact Le.slot (by omega) (by simp)
      rw[Qa] at h1;have hd:=Mg h1;have ck:=MX h1 hr h5;refine arc ⟨139,[(1,.I root),(2,.pv [AA K,BJ L]),(5,.rs 50 0 (AO root i)),(6,.I i),(8,.rs 60 0 (AO root c)),(9,.I c),(10,.I (W i c)),(18,BJ L),(19,.I (N+1:Nat)),(20,.I i),(28,AA (Br W N i)),(29,.I (N+1:Nat)),(30,.I c),(46,.B (decide (c=i)))],(60,some ⟨1,Af (b0 W N root) (AO root c) (AO root i),0⟩)::CF 1 (AO root i) (Af (b0 W N root) N),4500⟩ ?_ ?_
      .simp
       exact Le.slot (by omega) (by simp[Gp]<;>omega)
      refine AE _ rfl (λ h2=>?_) λ h2=>?_
      .rw [Qd] at h2
       subst h2;have hv:=kW (W:=W) (N:=N) he rfl rfl bs.1 (by omega)
       have hx:=w6 (x:=BP (N+1) (W c) - W c c);have hy:IntKind.u64.wrap (BP (N+1) (W c) - W c c)=((b0 W N root (AO root c) (AO root c):Nat):Int):=by rw[hv];exact E0 (by omega) (by omega)
       refine Ac rfl ?_;simp;refine Aj (hm c hc) ?_;simp[hx,hy,Fz];refine⟨by omega,by omega,?_⟩
       refine Le.famX (m:=4564) false ⟨by omega,.inr (by omega)⟩ (by omega) (λ k _=>GU _ _ k) (λ k hk=>hh hk (by simp only;omega) (by simp only;omega) (by simp only;omega) (by simp only;omega)) (by simp[Gx]) (.inr (.inr ⟨rfl,_,GU _ _ _,rfl,?_⟩)) (by simp[Up,Ce,AW,hd])
       rw[Fg,if_pos rfl,hd,Ro,Qb (by rw[Fz];exact Qk _)]
      .rw [Qa] at h2
       have hv:=f7 (W:=W) (N:=N) he h1 (λ e=>h2 e.symm) rfl hf.1 hf.2;have hx:IntKind.u64.wrap (W i c)=W i c:=E0 (by omega) (by omega)
       have hy:IntKind.u64.wrap (2305843009213693951 - W i c)=2305843009213693951 - W i c:=E0 (by omega) (by omega)
       have bt:(2305843009213693951 - W i c).tmod 2305843009213693951=((b0 W N root (AO root i) (AO root c):Nat):Int):=by rw[hv,Vg (by omega)]
       refine Ac rfl ?_;simp[hx,hy,bt,Fz];refine⟨by omega,by omega,?_⟩
       refine Le.famX (m:=4548) false ⟨by omega,.inr (by omega)⟩ (by omega) (λ k _=>GU _ _ k) (λ k hk=>hh hk (by simp only;omega) (by simp only;omega) (by simp only;omega) (by simp only;omega)) (by simp[Gx]) (.inr (.inr ⟨rfl,_,GU _ _ _,rfl,?_⟩)) (by simp[Up,Ce,AW,hd])
       rw[Fg,if_pos rfl,hd,Ro,Qb (by rw[Fz];exact Qk _)]
     refine Ag (s:=?z59) rfl ?o59 ?q59
     case o59=>simp[hu];rfl
     exact⟨c+1,by omega,by omega,Le.famX (m:=60) false ⟨by omega,.inl (by omega)⟩ (by omega) (λ k _=>GU _ _ k) (λ k hk=>by rw[Gg (by omega),GN hk]) (by simp[Gx]) (.inr (.inr ⟨rfl,_,GU _ _ _,rfl,by rw[Fg,if_pos rfl]⟩)) (by simp[Up,Ce,AW])⟩
    rw[Qa] at h5;obtain rfl:c=N+1:=by omega
    refine Aa (hit (Ac rfl ?_));simp[Gx,JY];refine⟨by omega,by omega,?_⟩
    rw[bo];refine Le.famNew (m:=60) (x:=4124) (E:=Af (b0 W N root) N) (R:=Af (b0 W N root) (AO root (N+1)) (AO root i)) (by omega) (.inl (by omega)) (by omega) (by omega) (λ k _=>GU _ _ k) (GU _ _ _) (λ _ _=>rfl) (by rw[L7 hr]) (λ k hk=>?_) ?_ ?_ ?_
    .rw [Gg (by omega),Gg (by omega),Gg (by omega),Gg (by omega),GN hk]
    .rw [Gg (by omega),Gg (by omega),Gg (by omega),Fg,if_pos rfl]
    .rw [Fg,if_pos rfl,Fz,Qb (by rw[JY];exact Qk _)]
    .simp [DJ,AW]
   have cq:AO root (i+1)<=i+1:=by unfold AO;split<;>omega
   refine Ag (s:=?z64) rfl ?o64 ?q64
   case o64=>simp[hb];rfl
   exact⟨i+1,by omega,by omega,Le.famK (by omega) (λ k _=>GU _ _ k) (by simp[Up,Ce,AW])⟩
  .rw [Qa] at hc
   obtain rfl:i=N+1:=by omega
   refine Aa (hit ?_);rw[L7 hr];exact Le.slot (by omega) (by simp)
 refine arc ⟨139,[(5,.rs 50 0 N),(11,U 1)],CF 1 N (Af (b0 W N root) N),9100⟩ ?_ ?_
 .simp
  exact Le.slot (by omega) (by simp)
 refine AC (arc ⟨139,[(5,.rs 50 0 N),(11,U 1),(66,.I N),(67,.I 0)],CF 1 N (Af (b0 W N root) N),9200⟩ ?_ ?_)
 .simp
  exact Le.slot (by omega) (by simp)
 refine AL (Ae (ι:=Nat × Nat × (Nat->Nat->Nat)) (λ x=>⟨139,[(5,.rs 50 0 N),(11,U (x.2.1:Int)),(66,.I N),(67,.I x.1)],CF 1 N (Af x.2.2 N),10000⟩) (λ x=>HO (BW W N root) N x.1 x.2.1 x.2.2) (λ x=>N - x.1) (0,1,b0 W N root) (HO.start W N root) (Le.slot (by omega) (by simp)) ?_)
 rintro⟨k,o,B⟩ hE
 simp only at hE;refine arc ⟨139,[(5,.rs 50 0 N),(11,U o),(66,.I N),(67,.I k),(68,.B (decide (k<N)))],CF 1 N (Af B N),10100⟩ ?_ ?_
 .simp
  exact Le.slot (by omega) (by simp<;>omega)
 refine AC (AE _ rfl (λ hk=>?_) λ hk=>?_)
 .rw [Qd] at hk
  have hb:=w6 (x:=(k:Int)+1);have a8:=hE.piv hA hk (hp (k+1) hk);have h0:=hE.lt;have a9:=hE.olt;have hP:(2305843009213693951:Nat)=DQ:=rfl;obtain⟨inv,h6⟩:∃ z,z=B k k ^ (DQ - 2) % DQ:=⟨_,rfl⟩;have ad:=eS (B k k) (h0 k k);rw[<- h6] at ad;have hz:inv<2305843009213693951:=by rw[h6];exact Uf _ (by decide)
  have ag:B k k*inv % 2305843009213693951=1:=by
   have h1:=Y1 a8 (h0 k k);rw[h6,hP,Nat.mul_mod_mod];exact h1
  have am:=hE.next hk ag
  have a0:=L8 o (B k k) a9 (h0 k k);rw[<- hP] at a0;obtain⟨o2,c0⟩:∃ z,z=o*B k k % 2305843009213693951:=⟨_,rfl⟩;rw[<- c0] at a0 am;refine AJ (Ao ⟨139,[(5,.rs 50 0 N),(11,U o2),(66,.I N),(67,.I k)],CF 1 N (Af (DU 2305843009213693951 k inv B) N),18000⟩ ?_ ?_)
  .refine AL (arc ⟨139,[(5,.rs 50 0 N),(11,U o),(12,.I k),(66,.I N),(67,.I k)],CF 1 N (Af B N),10200⟩ ?_ ?_)
   .simp
    exact Le.slot (by omega) (by simp)
   refine arc ⟨139,[(5,.rs 50 0 N),(11,U o2),(12,.I k),(66,.I N),(67,.I k)],CF 1 N (Af B N),10400⟩ ?_ ?_
   .simp [Gx,GN hk,Ho hk,Ch,Fz,Kh,hk]
    refine Aj a0 ?_;simp;exact Le.slot (by omega) (by simp)
   refine arc ⟨139,[(5,.rs 50 0 N),(11,U o2),(12,.I k),(13,U inv),(66,.I N),(67,.I k)],CF 1 N (Af B N),10600⟩ ?_ ?_
   .simp [Gx,GN hk,Ho hk,Ch,Fz,Kh,hk]
    refine Aj ad ?_;simp;exact Le.slot (by omega) (by simp)
   refine arc ⟨139,[(5,.rs 50 0 N),(11,U o2),(12,.I k),(13,U inv),(14,.I (k+1:Nat)),(66,.I N),(67,.I k)],CF 1 N (Af B N),10700⟩ ?_ ?_
   .simp [hb]
    exact Le.slot (by omega) (by simp)
   refine AL (Ae (ι:=Nat) (λ i=>⟨139,[(5,.rs 50 0 N),(11,U o2),(12,.I k),(13,U inv),(14,.I i),(66,.I N),(67,.I k)],CF 1 N (Af (BR 2305843009213693951 k inv B i k) N),11000⟩) (λ i=>k<i/\i<=N) (λ i=>N - i) (k+1) ⟨by omega,by omega⟩ (by rw[jP];exact Le.slot (by omega) (by simp)) ?_)
   rintro i ⟨a3,d0⟩
   refine AC (arc ⟨139,[(5,.rs 50 0 N),(11,U o2),(12,.I k),(13,U inv),(14,.I i),(66,.I N),(67,.I k),(92,.B (decide (i<N)))],CF 1 N (Af (BR 2305843009213693951 k inv B i k) N),11100⟩ ?_ ?_)
   .simp
    exact Le.slot (by omega) (by simp<;>omega)
   refine AE _ rfl (λ hi=>?_) λ hi=>?_
   .rw [Qd] at hi
    have hu:=w6 (x:=(i:Int)+1);have a4:=L8 (B i k) inv (h0 i k) hz;rw[<- hP] at a4;have hq:B i k*inv % 2305843009213693951<2305843009213693951:=Uf _ (by decide)
    obtain⟨sh,an⟩:∃ z,z=B i k*inv % 2305843009213693951:=⟨_,rfl⟩;rw[<- an] at a4 hq;refine AJ (Ao ⟨139,[(5,.rs 50 0 N),(11,U o2),(12,.I k),(13,U inv),(14,.I i),(66,.I N),(67,.I k)],CF 1 N (Af (BR 2305843009213693951 k inv B i N) N),16000⟩ ?_ ?_)
    .refine AL (arc ⟨139,[(5,.rs 50 0 N),(11,U o2),(12,.I k),(13,U inv),(14,.I i),(15,U sh),(66,.I N),(67,.I k)],CF 1 N (Af (BR 2305843009213693951 k inv B i k) N),11400⟩ ?_ ?_)
     .simp [Gx,GN hi,Ho hi,Ch,Fz,Kh,hi,hk,eD a3]
      refine Aj a4 ?_;simp;exact Le.slot (by omega) (by simp)
     refine arc ⟨139,[(5,.rs 50 0 N),(11,U o2),(12,.I k),(13,U inv),(14,.I i),(15,U sh),(16,.I k),(66,.I N),(67,.I k)],CF 1 N (Af (BR 2305843009213693951 k inv B i k) N),11500⟩ ?_ ?_
     .simp
      exact Le.slot (by omega) (by simp)
     refine AL (Ae (ι:=Nat) (λ j=>⟨139,[(5,.rs 50 0 N),(11,U o2),(12,.I k),(13,U inv),(14,.I i),(15,U sh),(16,.I j),(66,.I N),(67,.I k)],CF 1 N (Af (BR 2305843009213693951 k inv B i j) N),12000⟩) (λ j=>k<=j/\j<=N) (λ j=>N - j) k ⟨by omega,by omega⟩ (Le.slot (by omega) (by simp)) ?_)
     rintro j ⟨au,d3⟩
     refine AC (arc ⟨139,[(5,.rs 50 0 N),(11,U o2),(12,.I k),(13,U inv),(14,.I i),(15,U sh),(16,.I j),(66,.I N),(67,.I k),(108,.B (decide (j<N)))],CF 1 N (Af (BR 2305843009213693951 k inv B i j) N),12100⟩ ?_ ?_)
     .simp
      exact Le.slot (by omega) (by simp<;>omega)
     refine AE _ rfl (λ hj=>?_) λ hj=>?_
     .rw [Qd] at hj
      have c1:=w6 (x:=(j:Int)+1);have a5:=L8 sh (B k j) hq (h0 k j);rw[<- hP] at a5;have c2:sh*B k j % 2305843009213693951<2305843009213693951:=Uf _ (by decide)
      have h7:=cU (h0 i j) c2;have av:∀ c,c<N->BR 2305843009213693951 k inv B i (j+1) i c=if c=j then (B i j+2305843009213693951 - sh*B k j % 2305843009213693951) % 2305843009213693951 else BR 2305843009213693951 k inv B i j i c:=λ c _=>by rw[an];exact nL a3 au
      have h9:=vN (M:=N) av;obtain⟨tt,c3⟩:∃ z,z=sh*B k j % 2305843009213693951:=⟨_,rfl⟩;rw[<- c3] at a5 h7 h9;obtain⟨vv,c4⟩:∃ z,z=(B i j+2305843009213693951 - tt) % 2305843009213693951:=⟨_,rfl⟩;rw[<- c4] at h7 h9;have b3:=zA2 (P:=2305843009213693951) (inv:=inv) (B:=B) a3 au;have b4:BR 2305843009213693951 k inv B i j k j=B k j:=pH (Qk k);refine AJ (Ao ⟨139,[(5,.rs 50 0 N),(11,U o2),(12,.I k),(13,U inv),(14,.I i),(15,U sh),(16,.I j),(66,.I N),(67,.I k)],CF 1 N (Af (BR 2305843009213693951 k inv B i (j+1)) N),14000⟩ ?_ ?_)
      .refine AL (Cr rfl ?_)
       simp[Gx,GN hi,GN hk,Ho hi,Ho hk,Ch,Fz,Kh,hi,hk,hj,b3,b4];refine Aj a5 ?_;simp[h7,GN hi,Fz,Kh,hj,b3,h9];refine⟨rfl,?_⟩;refine Le.famSet (a:=i) (by omega) (λ a _ ha=>?_) (by rw[Fz,Fz]) (by simp)
       exact Oo λ c _=>cV ha
      refine Ag (s:=?z109) rfl ?o109 ?q109
      case o109=>simp[c1];rfl
      exact⟨j+1,⟨by omega,by omega⟩,by omega,Le.famK (by omega) (λ k _=>GU _ _ k) (by simp[Up,Ce,AW])⟩
     .rw [Qa] at hj
      obtain rfl:j=N:=by omega
      exact Aa (hit (Le.slot (by omega) (by simp)))
    refine Ag (s:=?z93) rfl ?o93 ?q93
    case o93=>simp[hu];rfl
    have cb:Af (BR 2305843009213693951 k inv B i N) N=Af (BR 2305843009213693951 k inv B (i+1) k) N:=by
     funext a
     exact Oo λ c hc=>pJ hc
    refine⟨i+1,⟨by omega,by omega⟩,by omega,?_⟩
    rw[cb];exact Le.famK (by omega) (λ k _=>GU _ _ k) (by simp[Up,Ce,AW])
   .rw [Qa] at hi
    obtain rfl:i=N:=by omega
    refine Aa (hit ?_);rw[bN (E:=Af (DU 2305843009213693951 k inv B) i) (E':=Af (BR 2305843009213693951 k inv B i k) i) λ a ha=>Oo λ c _=>(b9 ha).symm];exact Le.slot (by omega) (by simp)
  refine Ag (s:=?z136) rfl ?o136 ?q136
  case o136=>simp[hb];rfl
  exact⟨(k+1,o2,DU 2305843009213693951 k inv B),am,by simp only;omega,Le.famK (by omega) (λ k _=>GU _ _ k) (by simp[Up,Ce,AW])⟩
 .rw [Qa] at hk
  have cd:k=N:=by have:=hE.le;omega
  subst cd;have a6:=hE.done hA (hp k (Qk k));have ho:=hE.olt;refine Aa (hit ?_)
  have hw:IntKind.i64.wrap (o:Int)=GV W k root:=by
   rw[w6,a6];rfl
  refine arc ⟨139,[(4,.I (GV W k root))],[],20000⟩ ?_ ?_
  .simp [hw]
   exact Le.keepF rfl (by simp) (by simp) (λ j e h=>by simp at h)
  exact Bl
end
variable {y:Nat}
theorem zlO:∀ (l:List Nat) (x:Nat),BI (l++[x])=Nat.gcd (BI l) x
 | [],x=>by simp[BI]
 | y::l,x=>by
   simp only[QR,BI];rw[zlO l x,Nat.gcd_assoc]
def EV (G:Gr) (S:List Int) (r:Int):List Int × Int:=if Ai G S=[] then ([],11) else if 9<(Ai G S).length then ([],3) else (Cj G S r,0)
def oA (G:Gr) (S:List Int) (r:Int) (i:Nat):List Int:=(List.range G.size.toNat).map λ (k:Nat)=>if (k:Int)∈(Ai G S).take i then ((BB G S r ((Ai G S).idxOf (k:Int)):Nat):Int) else 0
def oB (G:Gr) (S:List Int) (r:Int) (j:Nat):List Int:=(List.range G.size.toNat).map λ (k:Nat)=>if (k:Int)∈Ai G S then (if (k:Int)∈(Ai G S).take j then ((BB G S r ((Ai G S).idxOf (k:Int)) / BI (G9 G S r):Nat):Int) else ((BB G S r ((Ai G S).idxOf (k:Int)):Nat):Int)) else 0
section
variable {G:Gr} {S:List Int} {r:Int}
theorem zzS (i:Nat):(oA G S r i).length=G.size.toNat:=by simp[oA]
theorem XO (i:Nat):(oB G S r i).length=G.size.toNat:=by simp[oB]
theorem Wt:AD (oA G S r 0)=List.replicate G.size.toNat [AV.I 0]:=by simp[oA,Vq]
theorem zzQ:oA G S r (Ai G S).length=oB G S r 0:=by
 unfold oA oB;refine QF λ k _=>?_;rw[QO];simp
theorem RN:oB G S r (Ai G S).length=Cj G S r:=by
 unfold oB Cj;refine QF λ k _=>?_;rw[QO]
 by_cases h:(k:Int)∈Ai G S
 .rw [if_pos h,if_pos h,if_pos h]
 .rw [if_neg h,if_neg h]
theorem No {K:List Int} (hn:K.Nodup) {i:Nat} (hi:i<K.length) (hy:K[i]=(y:Int)) (k:Nat):(k:Int)∈K.take (i+1)↔(k:Int)∈K.take i∨k=y:=by
 rw[Qm hi,Qq,QC,hy];constructor
 .rintro (h | h)
  .exact .inl h
  .exact .inr (by omega)
 .rintro (h | h)
  .exact .inl h
  .exact .inr (by omega)
theorem jQ {K:List Int} (hn:K.Nodup) {i:Nat} (hi:i<K.length):K[i]∉K.take i:=λ h=>by
 obtain⟨j,hj,e⟩:=QG.1 h;simp at hj;rw[UU] at e;have:=(U0 hn).1 e;omega
theorem Se {i:Nat} (hi:i<(Ai G S).length) (hy:(Ai G S)[i]=(y:Int)):(AD (oA G S r i)).set y [AV.I ((BB G S r i:Nat):Int)]=AD (oA G S r (i+1)):=by
 rw[KI]
 congr 1
 unfold oA;rw[Lo];refine QF λ k _=>?_;have h:=No HG hi hy k
 by_cases hk:k=y
 .subst hk
  rw[if_pos rfl,if_pos (h.2 (.inr rfl)),<- hy,HG.idxOf_getElem i hi]
 .rw [if_neg hk]
  by_cases h1:(k:Int)∈(Ai G S).take i
  .rw [if_pos h1,if_pos (h.2 (.inl h1))]
  .rw [if_neg h1,if_neg λ q=>by rcases h.1 q with q | q;exact h1 q;exact hk q]
theorem TS {i:Nat} (hi:i<(Ai G S).length) (hy:(Ai G S)[i]=(y:Int)) (h0:y<G.size.toNat):(oA G S r (i+1))[y]? = some ((BB G S r i:Nat):Int):=by
 unfold oA;rw[QA,List.getElem?_range h0,Q8,if_pos ((No HG hi hy y).2 (.inr rfl)),<- hy,HG.idxOf_getElem i hi]
theorem Wa {i:Nat} (hi:i<(Ai G S).length) (hy:(Ai G S)[i]=(y:Int)) (h0:y<G.size.toNat):(oB G S r i)[y]? = some ((BB G S r i:Nat):Int):=by
 unfold oB;have h1:(y:Int)∈Ai G S:=by rw[<- hy];exact Qj hi
 have h2:¬ (y:Int)∈(Ai G S).take i:=by rw[<- hy];exact jQ HG hi
 rw[QA,List.getElem?_range h0,Q8,if_pos h1,if_neg h2,<- hy,HG.idxOf_getElem i hi]
theorem Ss {i:Nat} (hi:i<(Ai G S).length) (hy:(Ai G S)[i]=(y:Int)):(AD (oB G S r i)).set y [AV.I ((BB G S r i / BI (G9 G S r):Nat):Int)]=AD (oB G S r (i+1)):=by
 rw[KI]
 congr 1
 unfold oB;rw[Lo];refine QF λ k _=>?_;have h:=No HG hi hy k
 by_cases hk:k=y
 .subst hk
  have h1:(k:Int)∈Ai G S:=by rw[<- hy];exact Qj hi
  rw[if_pos rfl,if_pos h1,if_pos (h.2 (.inr rfl)),<- hy,HG.idxOf_getElem i hi]
 .rw [if_neg hk]
  by_cases h1:(k:Int)∈(Ai G S).take i
  .rw [if_pos h1,if_pos (h.2 (.inl h1))]
  .have h2:¬ (k:Int)∈(Ai G S).take (i+1):=λ q=>by rcases h.1 q with q | q;exact h1 q;exact hk q
   rw[if_neg h1,if_neg h2]
theorem L6 {i:Nat} (h:i<(Ai G S).length):(Dl G S r)[i]? = some (CG G S r (Da G S i)):=by
 unfold Dl;rw[QA,Qc h,YK h];rfl
theorem zqH {i N:Nat} (hN:(Ai G S).length=N+1):Br (Fe G S r) N i=CG G S r (Da G S i):=by
 unfold Br CG Fe KO;rw[<- hN];exact OG (Ai G S) λ y=>C1 G S r (Da G S i) y
theorem ztR (hg:AI G) (hr:1<=r) (aB:r<=5) (hS:∀ s∈S,CM G s) (h9:(Ai G S).length<=9) (h0:0<(Ai G S).length):0<BI (G9 G S r) :=
 Zn ⟨_,Qi.2 ⟨0,Qy.2 h0,rfl⟩,(OB hg hr aB hS h9 h0).2.1⟩
end
section
variable (G:Gr) (S:List Int) (r:Int) (hg:AI G) (hr:1<=r) (aB:r<=5) (hS:∀ s∈S,CM G s)
include hg hr aB
theorem zpX {i:Nat} (h:i<(Ai G S).length):AcP 85 [KP (Ai G S) (Dl G S r),.I i] [] (.I (FE G S r (Da G S i))) []:=by
 refine ZA _ _ _ _ (L6 h) (λ x hx=>?_) ?_
 .obtain ⟨y,_,rfl⟩:=Qi.1 hx
  exact IH hg hr aB _ y
 .have:=K9 (g:=G) (S:=S)
  have:=hg.1.2.1;simp[CG];omega
include hS
theorem eL (h9:(Ai G S).length<=9) {i:Nat} (h:i<(Ai G S).length):AcP 86 [KP (Ai G S) (Dl G S r),.I i] [] (.I (G4 G S r i)) []:=by
 obtain⟨N,hN⟩:∃ N,(Ai G S).length=N+1:=⟨(Ai G S).length - 1,by omega⟩
 have hw:=PA hg hr hS h;have h0:∀ j,BP (N+1) (Fe G S r j)=FE G S r (Da G S j):=λ j=>by rw[<- hN];exact L2
 have hW:∀ i j,0<=Fe G S r i j/\Fe G S r i j<=8:=λ i j=>IH hg hr aB _ _;have h3:(Ai G S).length - 1=N:=by omega
 unfold G4;rw[h3] at hw ⊢;refine uB (Ai G S) (Dl G S r) (Fe G S r) N i (by simp[Dl,hN]) (by omega) (by omega) (λ j hj=>?_) hW (λ j hj=>?_) (λ j hj=>?_) (NU hw) (λ k hk=>?_)
 .rw [L6 (by omega),zqH hN]
 .rw [h0]
  exact zpX G S r hg hr aB (by omega)
 .rw [h0]
  have h1:=Kj hg hr aB (S:=S) (Da G S j)
  have h2:Fe G S r j j<=FE G S r (Da G S j):=Ko (λ v hv=>by
   obtain⟨y,_,rfl⟩:=Qi.1 hv
   exact(IH hg hr aB _ y).1) (Qi.2 ⟨Da G S j,zlG (by omega),rfl⟩)
  omega
 .have:=mV hg hr aB hS h9 (i:=i) (k:=k) (by omega) (by omega)
  rw[h3] at this;exact this
end
def Ef:List Int->List Int->List Int->Bool
 | [],a,r=>a.isEmpty && r.isEmpty
 | x::o,a,r=>if a.head? = some x then Ef o a.tail r else if r.head? = some x then Ef o a r.tail else false
theorem Np:∀ {o a r:List Int} {k:Int},Ef o a r=true->k∉o->Ef (o++[k]) (a++[k]) r=true
 | [],a,r,k,h,_=>by
   simp[Ef] at h;rw[h.1,h.2];simp[Ef]
 | x::o,a,r,k,h,hk=>by
   have h4:k≠x:=λ e=>hk (by simp[e])
   have h0:k∉o:=λ e=>hk (Ql _ e);simp only[Ef] at h;simp only[QR,Ef];split at h
   .rename_i h1
    cases a with
    | nil=>cases h1
    | cons y a =>
      have:y=x:=by simpa using h1
      subst this
      simpa using Np h h0
   .rename_i h1
    split at h
    .rename_i h2
     have h3:(a++[k]).head? ≠ some x:=by
      cases a with
      | nil=>simpa using h4
      | cons y a=>simpa using h1
     rw[if_neg h3,if_pos h2];exact Np h h0
    .cases h
theorem zmH:∀ {o a r:List Int} {k:Int},Ef o a r=true->k∉o->Ef (o++[k]) a (r++[k])=true
 | [],a,r,k,h,_=>by
   simp[Ef] at h;rw[h.1,h.2];simp[Ef]
 | x::o,a,r,k,h,hk=>by
   have h3:k≠x:=λ e=>hk (by simp[e])
   have h0:k∉o:=λ e=>hk (Ql _ e);simp only[Ef] at h;simp only[QR,Ef];split at h
   .rename_i h1
    rw[if_pos h1];exact zmH h h0
   .rename_i h1
    rw[if_neg h1];split at h
    .rename_i h2
     cases r with
     | nil=>cases h2
     | cons y r =>
       have:y=x:=by simpa using h2
       subst this
       simpa using zmH h h0
    .cases h
def Pu (g:Gr) (p:Al) (b:List Int) (r:Int × List Int):Prop:=NA ⟨BD g,Ar g p (Az (b++[r.1]))⟩ r.2 b.length
def Ge (g:Gr) (p:Al):List Int->List Int->List Int->List (Int × List Int)->Prop
 | _,[],_,_=>True
 | b,x::o,a,R=>if a.head? = some x then Ge g p (b++[x]) o a.tail R else match R with
   | []=>True
   | r::R=>Pu g p b r/\Ge g p b o a R
def Ja (R:List (Int × List Int)):List Int:=R.map (·.1)
theorem cK {N:Nat} {A:List Ed} (hn:Cu ⟨N,A⟩):Kz ⟨N,A⟩ (Eu N A)/\Ex A (Eu N A)=CC N A:=by
 have h0:=HH hn;obtain⟨f,hf,hm⟩:=NR h0;obtain⟨D,b,hb,hc⟩:=DA.grow h0 N [0] _ (DA.start (f:=f) (by have:=h0.two;omega)) (by omega)
 have h1:=PT h0 hf hm hb;have h3:=Hu hf hm;have he:CX D N=Eu N A:=P4 h0 hf hm hb.tree hb.mem0 h1 hc;have h4:=(Ji h0 hf hb.mem0 h1 hc).1
 have h2:∀ x,x∈CX D N↔x∈D:=λ x=>by
  rw[Lu];exact⟨λ h=>h.2,λ h=>⟨hb.rng x h,h⟩⟩
 rw[<- he];refine⟨⟨hn,Pg (RD D N) λ k hk=>by have:=(Lu.1 hk).1;simp only;omega,(h2 0).2 hb.mem0,λ h=>h1 ((h2 1).1 h)⟩,?_⟩
 rw[Nc,h3,h4]
 congr 1
 funext x
 exact decide_eq_decide.2 (h2 x)
section
variable {g:Gr} {p:Al}
theorem OZ:∀ {o b a:List Int} {R:List (Int × List Int)} {k:Int},Ef o a (Ja R)=true->k∉o->Ge g p b o a R->Ge g p b (o++[k]) (a++[k]) R
 | [],b,a,R,k,h,_,_=>by
   simp[Ef,Ja] at h;obtain⟨rfl,rfl⟩:=h;simp[Ge]
 | x::o,b,a,R,k,h,hk,hc=>by
   have h2:k≠x:=λ e=>hk (by simp[e])
   have h0:k∉o:=λ e=>hk (Ql _ e);simp only[Ef] at h;simp only[Ge] at hc;simp only[QR,Ge];split at h
   .rename_i h1
    rw[if_pos h1] at hc
    cases a with
    | nil=>cases h1
    | cons y a =>
      have:y=x:=by simpa using h1
      subst this
      simpa using OZ h h0 hc
   .rename_i h1
    rw[if_neg h1] at hc
    have h3:(a++[k]).head? ≠ some x:=by
     cases a with
     | nil=>simpa using h2
     | cons y a=>simpa using h1
    rw[if_neg h3];split at h
    .cases R with
     | nil=>trivial
     | cons r R=>exact⟨hc.1,OZ h h0 hc.2⟩
    .cases h
theorem PR:∀ {o b a:List Int} {R:List (Int × List Int)} {r:Int × List Int},Ef o a (Ja R)=true->r.1∉o->Pu g p (b++a) r->Ge g p b o a R->Ge g p b (o++[r.1]) a (R++[r])
 | [],b,a,R,r,h,_,hr,_=>by
   simp[Ef,Ja] at h;obtain⟨rfl,rfl⟩:=h;rw[QW] at hr;simp[Ge,hr]
 | x::o,b,a,R,r,h,hk,hr,hc=>by
   have h0:r.1∉o:=λ e=>hk (Ql _ e);simp only[Ef] at h;simp only[Ge] at hc;simp only[QR,Ge];split at h
   .rename_i h1
    rw[if_pos h1] at hc;rw[if_pos h1]
    cases a with
    | nil=>cases h1
    | cons y a =>
      have:y=x:=by simpa using h1
      subst this;exact PR h h0 (by simpa using hr) hc
   .rename_i h1
    rw[if_neg h1] at hc;rw[if_neg h1];split at h
    .rename_i h2
     cases R with
     | nil=>cases h2
     | cons q R=>exact⟨hc.1,PR h h0 hr hc.2⟩
    .cases h
theorem Wb (hg:AI g) (hp:BT g.size p) {a:List Int} (h:∀ x∈a,x∈AY (AM g p.lv) p.seeds):ED g p a:=by
 refine⟨λ x hx=>?_,λ x hx=>?_⟩
 .have h2:=IA (h x hx)
  exact h2
 .have h2:=(LV (hg.level p.lv)).1 (h x hx)
  exact(Ot hp h2.1.1).2 ⟨h2.1.2,h2.2⟩
theorem ED.join {a:List Int} (h:ED g p a):ED g p (Az a):=h.sub λ _ hx=>(JD.1 hx).1
theorem zxq (hg:AI g) (hp:BT g.size p) (hs:p.seeds.length<=64):∀ (n:Nat) (o:List Int),o.length=n->o.Nodup->ED g p o ->
  BZ g p (Az (AR g p o))/\Ef o (AR g p o) (Ja (B9 g p o))=true/\Ge g p [] o (AR g p o) (B9 g p o)
 | 0,o,h,_,_=>by
   obtain rfl:=QL h;exact⟨BZ.nil hg hp,rfl,trivial⟩
 | n+1,o,h,h4,h5=>by
   have h6:o≠[]:=λ e=>by rw[e] at h;cases h
   obtain⟨q,hq⟩:=AG (o.dropLast);obtain⟨k,hk⟩:=AG (o.getLast h6);have ho:o=q++[k]:=by rw[hq,hk];exact(List.dropLast_concat_getLast h6).symm
   have hf:q.length=n:=by rw[hq,List.length_dropLast,h];rfl
   rw[ho] at h4 h5 ⊢;have h7:q.Nodup:=(Uh.1 h4).1;have h0:k∉q:=λ hm=>(Uh.1 h4).2.2 k hm k (by simp) rfl
   have h9:ED g p q:=h5.sub λ x hx=>Q0 _ hx;obtain⟨ih1,ih2,ih3⟩:=zxq hg hp hs n q hf h7 h9
   by_cases hc:BZ g p (Az (AR g p q++[k]))
   .rw [Fo hc,Jw hc]
    exact⟨hc,Np ih2 h0,OZ ih2 h0 ih3⟩
   .rw [JZ hc,Mn hc]
    have hu:=hg.1.2.1
    have h1:∀ x∈AR g p q++[k],0<=x/\x<g.size:=λ x hx=>h5.rng x (by
     rcases Qq.1 hx with h2 | h2
     .exact Q0 _ (Im h2)
     .exact UH _ h2)
    have hh:(AR g p q++[k]).Nodup:=Uh.2 ⟨h7.sublist (IC _ _ rfl),by simp,λ a ha b hb=>by
     rw[QC] at hb;subst hb
     rintro rfl
     exact h0 (Im ha)⟩
    have hi:=zo4 hh λ x hx=>by have:=h1 x hx;omega
    have hj:=NH hg hp (Kw (Ka h1)) hs (KR (AR g p q++[k]));have h3:=cK hj;have hd:=Lc (p:=p) (ks:=Az (AR g p q++[k])) hg hp (Kw (Ka h1))
    have he:Pu g p (AR g p q) (k,Eu (BD g) (Ar g p (Az (AR g p q++[k])))):=by
     refine⟨h3.1,?_⟩;simp only;rw[h3.2];have:CC (BD g) (Ar g p (Az (AR g p q++[k])))≠(Az (AR g p q++[k])).length:=hc;rw[hi,Qg,Q3] at this hd;omega
    refine⟨ih1,?_,?_⟩
    .have:=zmH (r:=Ja (B9 g p q)) ih2 h0
     simpa [Ja] using this
    .exact PR (r:=(k,Eu (BD g) (Ar g p (Az (AR g p q++[k]))))) ih2 h0 (by rw[Q5];exact he) ih3
end
theorem Jb {N:Nat} {A:List Ed} {f:List Int} (h:(decide (f.length=A.length) && ((List.range A.length).all λ i=>decide (0<=f.getD i 0/\f.getD i 0<=(AP A i).v)) && ((List.range N).all λ x=>decide (x<2∨Cv A f x=0)))=true):BN N A f:=by
 simp only[QM,Qd,List.all_eq_true,Qy] at h;exact MA.2 ⟨h.1.1,λ i hi=>h.1.2 i hi,λ x h1 h2=>(h.2 x h2).resolve_left (by omega)⟩
theorem VT (g:Gr) (p:Al):∀ (n:Nat) (o:List Int),o.length=n->(B9 g p o).length<=n
 | 0,o,h=>by
   obtain rfl:=QL h;exact Qk _
 | n+1,o,h=>by
   have h0:o≠[]:=λ e=>by rw[e] at h;cases h
   rw[<- List.dropLast_concat_getLast h0];have ih:=VT g p n o.dropLast (by rw[List.length_dropLast,h];rfl)
   by_cases hc:BZ g p (Az (AR g p o.dropLast++[o.getLast h0]))
   .rw [Jw hc];omega
   .rw [Mn hc,Qg,Q3];omega
theorem pN (N:Nat) (A:List Ed):(Eu N A).length<=N:=by
 unfold Eu;exact QH (QU ..) (by simp)
theorem Mz (g:Gr) (p:Al) (hg:AI g) (hp:BT g.size p) (hs:p.seeds.length<=64) (hN:g.size<20) :
  ∃ f:List Int,Js g p (Az (AR g p (AY (AM g p.lv) p.seeds))) f /\
    AcP 36 [eG g,eP p] [] (.tup [Fl (AR g p (AY (AM g p.lv) p.seeds)) f (B9 g p (AY (AM g p.lv) p.seeds)),.I 0]) []:=by
 have cq:=hg.1.1;have ck:=hg.1.2.1;have d0:=hg.edges_le;have d1:=hg.gone_le;have hz:=Mm g p (by omega) (by omega) (by omega) (by have:=hp.2.2.2.1;omega)
 rw[if_pos hg,if_pos hp] at hz;have a0:=aM g p hg hN (by omega)
 obtain⟨o,ho⟩:=AG (AY (AM g p.lv) p.seeds);have a2:∀ k∈o,0<=k/\k<g.size:=λ k hk=>by rw[ho] at hk;have h:=IA hk;exact h
 have a3:o.Nodup:=by rw[ho];exact Gj _ _
 rw[<- ho] at a0 ⊢
 have bf:o.length<=64:=by
  have:=Gw (b:=(List.range g.size.toNat).map λ i:Nat=>(i:Int)) a3 λ x hx=>by
   have:=a2 x hx;exact Qi.2 ⟨x.toNat,Qy.2 (by omega),by omega⟩
  simp at this;omega
 have h64:∀ a:List Int,(∀ x∈a,0<=x/\x<g.size) -> ∀ x∈a,0<=x/\x<64:=λ a h x hx=>by have:=h x hx;omega
 have an:∀ a:List Int,(∀ x∈a,0<=x/\x<g.size)->Cu ⟨BD g,Ar g p (Az a)⟩:=λ a h=>NH hg hp (Kw (Ka h)) hs (KR a)
 have hu:∀ a:List Int,a.Nodup->(∀ x∈a,0<=x/\x<g.size) -> ∃ f,Js g p (Az a) f/\AcP 73 [eN ⟨BD g,Ar g p (Az a)⟩,.I (a.length:Nat)] [] (.tup [.rs 0 0 (Ar g p (Az a)).length,.B (@decide (BZ g p (Az a)) (Classical.propDecidable _))]) [some ⟨1,AD f,0⟩]:=λ a h1 h2=>by
  obtain⟨f,hf,hc⟩:=nK _ _ (a.length:Nat) (an a h2);have au:=Hu hf.1 hf.2;refine⟨f,⟨hf.1,hf.2,au.symm⟩,?_⟩;have bo:=zo4 h1 (h64 a h2)
  have:decide (AZ (Ar g p (Az a)) f=(a.length:Nat)) = @decide (BZ g p (Az a)) (Classical.propDecidable _):=by
   rw[decide_eq_decide];unfold BZ;rw[au,bo]
  rw[this] at hc;exact hc
 have h9:∀ i,(AR g p (o.take i)).Nodup:=λ i=>(a3.sublist ((IC _ _ rfl).trans (List.take_sublist _ _)));have hd:∀ i,∀ x∈AR g p (o.take i),0<=x/\x<g.size:=λ i x hx=>a2 x (QZ (Im hx));obtain⟨f,hf,he⟩:=hu (AR g p o) (by have:=h9 o.length;rwa [QO] at this) (by have:=hd o.length;rwa [QO] at this)
 refine⟨f,hf,?_⟩;have a4:=T6 g p (AR g p o) hg hp (by have:=h9 o.length;rwa [QO] at this) (by have:=hd o.length;rwa [QO] at this) hs
 have a5:=hf.ok.fit.len;refine Wj.s.ai ?_;refine rs [2,3,4] [32] [16,24] ?_;refine AC (rx (s:=?s2) [2,3,4,6] [32] [] rfl ?o2 ?q2)
 case o2=>simp;refine Aq hz (by simp) ?_;simp;rfl
 refine rs [2,3,4,18] [32] [] ?_;refine AE _ rfl (λ h=>by cases h) λ _=>?_
 refine AJ (ar [2,3,4,7] [(32,32),(96,40)] [] 200 ?_);refine AC (arc ⟨72,[(2,.pv (gC g)),(3,.pv (pC p)),(4,.pt 32 0 0),(7,.pt 40 0 0),(23,AA o),(24,.I o.length),(25,.I 0)],[(32,some ⟨3,[[.nilS,.nilS,.nilS]],0⟩),(40,some ⟨3,[[.nilS,.nilS,.nilS]],0⟩)],400⟩ ?_ ?_)
 .simp
  refine CV a0 ?_;simp;exact AF [(32,32),(40,40)] [216] (by simp[AB,Cz])
 refine AL ?_;have bs:B9 g p []=[]:=rfl
 refine Ae (ι:=Nat) (λ i=>⟨72,[(2,.pv (gC g)),(3,.pv (pC p)),(4,.pt 32 0 0),(7,.pt 40 0 0),(23,AA o),(24,.I o.length),(25,.I i)],
   [(32,some ⟨3,[[.nilS,.nilS,.nilS]],0⟩),(40,some ⟨3,[[AA (AR g p (o.take i)),.nilS,.rs 42 0 (B9 g p (o.take i)).length]],0⟩),(42,some ⟨2,Dv (B9 g p (o.take i)),0⟩)],500⟩)
  (λ i=>i<=o.length) (λ i=>o.length - i) 0 (Qh _)
  (Le.lst [(32,32),(40,40)] [] [(42,2)] rfl (by simp) (by simp) (by simp) (by simp) (by simp) (by simp) (by simp) (by simp[Up]) (by simp[Lr,bs,AB];exact⟨Am.rfl' (by simp),Am.row rfl (by omega) (by simp[Eg,Up,Wk.refl];exact Wk.nil _ _)⟩)) ?_
 intro i hi;have av:=h9 i;have b1:=hd i;have bt:(AR g p (o.take i)).length<=64:=QH (Ob _) (QH (Va i o) bf);have c0:=VT g p _ (o.take i) rfl;have cl:=Va i o;have h4:=λ k=>Fo (g:=g) (p:=p) (o:=o.take i) (k:=k);have hv:=λ k=>JZ (g:=g) (p:=p) (o:=o.take i) (k:=k);have h0:=λ k=>Jw (g:=g) (p:=p) (o:=o.take i) (k:=k);have h3:=λ k=>Mn (g:=g) (p:=p) (o:=o.take i) (k:=k);have a1:∀ x∈AR g p (o.take i),x∈o.take i:=λ x hx=>Im hx;obtain⟨acc,h6⟩:=AG (AR g p (o.take i));obtain⟨R,hR⟩:=AG (B9 g p (o.take i));rw[<- h6] at av b1 bt a1 h4 hv h0 h3;rw[<- hR] at c0 h0 h3;rw[<- h6,<- hR]
 refine D9 ⟨72,[(2,.pv (gC g)),(3,.pv (pC p)),(4,.pt 32 0 0),(7,.pt 40 0 0),(23,AA o),(24,.I o.length),(25,.I i),(26,.B (decide (i<o.length)))],
   [(32,some ⟨3,[[.nilS,.nilS,.nilS]],0⟩),(40,some ⟨3,[[AA acc,.nilS,.rs 42 0 R.length]],0⟩),(42,some ⟨2,Dv R,0⟩)],600⟩ rfl ?_ ?_
 .simp
  exact Av [(32,32),(40,40),(42,42)] []
 refine AC (AE _ rfl (λ hh=>?_) λ hh=>?_)
 .simp at hh
  have b2:=w6 (x:=(i:Int)+1);obtain⟨k,hk⟩:=AG (o[i]);have b3:=a2 _ (Qj hh);rw[<- hk] at b3;have c1:o.take (i+1)=o.take i++[k]:=by rw[Qm hh,hk]
  have a6:k∉acc:=λ h=>by
   have h2:=a1 k h;obtain⟨j,hj,b4⟩:=QG.1 h2;rw[UU] at b4;rw[QV] at hj;have:=(QX.1 a3) j i (by omega) hh (by omega)
   exact this (b4.trans hk)
  have a7:∀ x∈acc++[k],0<=x/\x<g.size:=λ x hx=>by
   rcases Qq.1 hx with h | h
   .exact b1 x h
   .rw [QC] at h;subst h;exact b3
  have b5:(acc++[k]).Nodup:=Uh.2 ⟨av,by simp,λ a ha b hb=>by
   rw[QC] at hb;subst hb
   rintro rfl
   exact a6 ha⟩
  have hq:=Ya acc k (by omega)
  have hw:=T6 g p (acc++[k]) hg hp b5 a7 hs;obtain⟨fl,a8,a9⟩:=hu (acc++[k]) b5 a7;have h5:=fP _ _ fl (an _ a7) a8.ok a8.most;have ad:=a8.ok.fit.len;have cp:=pN (BD g) (Ar g p (Az (acc++[k])));have h4:=h4 k;have hv:=hv k;have h0:=h0 k;have h3:=h3 k;rw[<- c1] at h4 hv h0 h3;obtain⟨A,hA⟩:=AG (Ar g p (Az (acc++[k])));obtain⟨side,ag⟩:=AG (Eu (BD g) A);rw[<- hA] at hw a9 h5 ad h3;rw[<- ag] at h5 h3;have b6:∀ h:Int->List AV,List.take A.length (List.map h fl)=List.map h fl:=λ h=>Qb (by simp;omega)
  obtain⟨W,hW⟩:=AG (acc++[k]);have c2:W.length=acc.length+1:=by rw[hW];simp
  rw[<- hW] at hq hw a9 h4 hv h0 h3;rw[<- c2] at hq;refine AJ ?_
  refine Ao ⟨72,[(2,.pv (gC g)),(3,.pv (pC p)),(4,.pt 32 0 0),(7,.pt 40 0 0),(23,AA o),(24,.I o.length),(25,.I i)],
   [(32,some ⟨3,[[.nilS,.nilS,.nilS]],0⟩),(40,some ⟨3,[[AA (AR g p (o.take (i+1))),.nilS,.rs 42 0 (B9 g p (o.take (i+1))).length]],0⟩),(42,some ⟨2,Dv (B9 g p (o.take (i+1))),0⟩)],3000⟩ ?_ ?_
  .refine AL ?_
   refine D9 ⟨72,[(2,.pv (gC g)),(3,.pv (pC p)),(4,.pt 32 0 0),(7,.pt 40 0 0),(9,.I k),(23,AA o),(24,.I o.length),(25,.I i)],
    [(32,some ⟨3,[[.nilS,.nilS,.nilS]],0⟩),(40,some ⟨3,[[AA acc,.nilS,.rs 42 0 R.length]],0⟩),(42,some ⟨2,Dv R,0⟩)],700⟩ rfl ?_ ?_
   .simp [hh,<- hk]
    exact Av [(32,32),(40,40),(42,42)] []
   refine D9 ⟨72,[(2,.pv (gC g)),(3,.pv (pC p)),(4,.pt 32 0 0),(7,.pt 40 0 0),(9,.I k),(10,AA W),(23,AA o),(24,.I o.length),(25,.I i)],
    [(32,some ⟨3,[[.nilS,.nilS,.nilS]],0⟩),(40,some ⟨3,[[AA acc,.nilS,.rs 42 0 R.length]],0⟩),(42,some ⟨2,Dv R,0⟩)],800⟩ rfl ?_ ?_
   .simp
    refine CV hq ?_;simp;exact AF [(32,32),(40,40),(42,42)] [724] (by simp[AB,Cz]) (by simp[AB])
   refine D9 ⟨72,[(2,.pv (gC g)),(3,.pv (pC p)),(4,.pt 32 0 0),(7,.pt 40 0 0),(9,.I k),(10,AA W),(11,.pv (nC ⟨BD g,A⟩)),(23,AA o),(24,.I o.length),(25,.I i)],
    [(32,some ⟨3,[[.nilS,.nilS,.nilS]],0⟩),(40,some ⟨3,[[AA acc,.nilS,.rs 42 0 R.length]],0⟩),(42,some ⟨2,Dv R,0⟩)],900⟩ rfl ?_ ?_
   .simp
    refine Aj hw ?_;simp;exact Av [(32,32),(40,40),(42,42)] [832]
   refine D9 ⟨72,[(2,.pv (gC g)),(3,.pv (pC p)),(4,.pt 32 0 0),(7,.pt 40 0 0),(9,.I k),(10,AA W),(11,.pv (nC ⟨BD g,A⟩)),(12,.rs 43 0 A.length),(13,.B (@decide (BZ g p (Az W)) (Classical.propDecidable _))),(23,AA o),(24,.I o.length),(25,.I i)],
    [(32,some ⟨3,[[.nilS,.nilS,.nilS]],0⟩),(40,some ⟨3,[[AA acc,.nilS,.rs 42 0 R.length]],0⟩),(42,some ⟨2,Dv R,0⟩),(43,some ⟨1,AD fl,0⟩)],1000⟩ rfl ?_ ?_
   .simp
    refine CV a9 ?_;simp;exact Av [(32,32),(40,40),(42,42),(924,43)] []
   refine AC ?_
   refine D9 ⟨72,[(2,.pv (gC g)),(3,.pv (pC p)),(4,.pt 32 0 0),(7,.pt 40 0 0),(9,.I k),(10,AA W),(11,.pv (nC ⟨BD g,A⟩)),(12,.rs 43 0 A.length),(44,.B (@decide (BZ g p (Az W)) (Classical.propDecidable _))),(23,AA o),(24,.I o.length),(25,.I i)],
    [(32,some ⟨3,[[.nilS,.nilS,.nilS]],0⟩),(40,some ⟨3,[[AA acc,.nilS,.rs 42 0 R.length]],0⟩),(42,some ⟨2,Dv R,0⟩),(43,some ⟨1,AD fl,0⟩)],1100⟩ rfl ?_ ?_
   .simp
    exact Av [(32,32),(40,40),(42,42),(43,43)] []
   refine AE _ rfl (λ am=>?_) λ am=>?_
   .have h7:BZ g p (Az W):=@of_decide_eq_true _ (Classical.propDecidable _) am
    have hy:=h4 h7;have c3:=h0 h7
    refine D9 ⟨72,[(2,.pv (gC g)),(3,.pv (pC p)),(4,.pt 32 0 0),(7,.pt 40 0 0),(23,AA o),(24,.I o.length),(25,.I i)],
     [(32,some ⟨3,[[.nilS,.nilS,.nilS]],0⟩),(40,some ⟨3,[[AA W,.nilS,.rs 42 0 R.length]],0⟩),(42,some ⟨2,Dv R,0⟩)],1200⟩ rfl ?_ ?_
    .simp [Ay]
     exact Av [(32,32),(40,40),(42,42)] []
    exact Aa (hit (AF [(32,32),(40,40),(42,42)] [] (by simp) (by simp[hy,c3,AB])))
   .have h7:¬ BZ g p (Az W):=@of_decide_eq_false _ (Classical.propDecidable _) am
    have c4:=hv h7;have cb:=h3 h7;have cd:∀ h:Int × List Int->List AV,List.take R.length (List.map h R)=List.map h R:=λ h=>Qb (by simp)
    refine AJ (Cr rfl ?_);simp;refine Cq (i:=43) rfl (by simp[AB]) h5 (by simp) (by simp) ?_
    simp[cd,Ay];exact⟨by omega,by omega,rfl,AF [(32,32),(40,40),(1164,42)] [1140] (by simp) (by simp[c4,cb,AB,Cz])⟩
  refine Ac rfl ?_;simp[b2];exact⟨i+1,by omega,by omega,AF [(32,32),(40,40),(42,42)] [] (by simp[b2]) (by simp[AB])⟩
 simp at hh;obtain rfl:i=o.length:=by omega
 rw[QO] at h6 hR;rw[<- h6] at he a4 a5;have d2:((acc.length:Nat):Int)=acc.length:=rfl;obtain⟨A,hA⟩:=AG (Ar g p (Az acc));rw[<- hA] at a4 he a5;have b6:∀ h:Int->List AV,List.take A.length (List.map h f)=List.map h f:=λ h=>Qb (by simp;omega)
 refine Aa (hit ?_)
 refine KF ⟨72,[(4,.pt 32 0 0),(7,.pt 40 0 0)],
   [(32,some ⟨3,[[.nilS,.nilS,.nilS]],0⟩),(40,some ⟨3,[[AA acc,AA f,.vs 2 false (Dv R)]],0⟩)],1200⟩ rfl ?_ ?_
 .simp
  refine Aj a4 ?_;simp;refine CV he ?_;simp[Ay];exact⟨rfl,AF [(32,32),(40,40)] [42,664] (by simp) (by simp[AB,Cz,b6,a5])⟩
 apply ax [4,5] [(32,32)] [] 1400
 .simp [Ay]
  rfl
 refine BG ?_;rw[<- h6,<- hR];exact⟨.inr rfl,AS.out [] [32] rfl (by simp) (by simp) (by simp) (by simp)⟩
section
variable {P:Program} {np id:Nat} {h:Nat->Option AQ} {K:AV->List Nat->List (Nat × Option AQ)->Prop} {f:FuncId} {first aA args aC:List AV} {res:AV}
end
theorem eT (L:List Int) (hl:L.length<=400):∃ (g:Gr) (b:Nat),(AI g/\2<=g.size/\g.size<=9/\b<=L.length)/\AcP 11 [.pt 0 0 0] [As L 0] (eG g) [some (As L b)] :=
 have h:=lL L 0 (Qh _)
 ⟨_,_,⟨h.ok,h.lo,h.hi,h.at_⟩,vS L 0 hl (Qh _)⟩
variable {g:Gr} {p:Al}
theorem Bu.pair {l:List Int} {lo hi:Int} (h:Bu l lo hi):l.Pairwise (· < ·):=by
 have h3:∀ (j i:Nat) (hj:j<l.length) (h0:i<j),l[i]<l[j]:=by
  intro j
  induction j with
  | zero=>intro i _ h0;omega
  | succ j ih =>
    intro i hj h0;have h1:=(h (j+1) hj).2.2 (by omega)
    simp only[Nat.add_sub_cancel] at h1;rcases Um i j with h2 | h2
    .have:=ih i (by omega) h2
     omega
    .have:i=j:=by omega
     subst this;exact h1
 exact QX.2 λ i j hi hj h0=>h3 j i hj h0
theorem LH (acc f:List Int) (R:List (Int × List Int)) (k:Int) (hl:acc.length<=140737488355328):AcP 43 [Fl acc f R,.I k] [] (.B (decide (k∈acc))) []:=by
 refine rS.s.ai ?_;refine ar [1,2] [] [16] 100 ?_;apply ax [4] [] [] 200
 .simp
  refine Aj (Ht acc k hl) ?_;simp;rfl
 exact Bl
variable {g:Gr} {p:Al}
theorem h64 (hg:AI g) {a:List Int} (h:∀ x∈a,0<=x/\x<g.size):∀ x∈a,0<=x/\x<64:=λ x hx=>by
 have:=h x hx;have:=hg.1.2.1;omega
variable {g:Gr} {p:Al}
def GH (g:Gr) (p:Al):List Int:=p.seeds.filter λ k=>!g.gone.contains k
theorem WN (w:Int->Int) (hw:∀ x,0<=w x):∀ {s a:List Int},s.Nodup->(∀ x∈s,x∈a)->(s.map w).sum<=(a.map w).sum
 | [],a,_,_=>by
   have:∀ a:List Int,0<=(a.map w).sum:=λ a=>by
    induction a with
    | nil=>exact UX _
    | cons x a ih=>simp only[Qo,UA];have:=hw x;omega
   exact this a
 | x::s,a,hn,h=>by
   rw[Q7] at hn;have h1:=List.perm_cons_erase (h x (Qn ..));have ih:=WN w hw (s:=s) (a:=a.erase x) hn.2 λ y hy=>(List.mem_erase_of_ne (by rintro rfl;exact hn.1 hy)).2 (h y (Ql _ hy))
   have h2:(a.map w).sum=((x::a.erase x).map w).sum:=by
    have hp:∀ {a b:List Int},a.Perm b->(a.map w).sum=(b.map w).sum:=λ h=>by
     induction h with
     | nil=>rfl
     | cons x _ ih=>simp only[Qo,UA,ih]
     | swap x y l=>simp only[Qo,UA];omega
     | trans _ _ i1 i2=>exact i1.trans i2
    exact hp h1
   rw[h2];simp only[Qo,UA];omega
theorem TA (g:Gr) (S:List Int):∀ n,0<n -> ∃ l,Bi g S n=Bi g S 1++l
 | 1,_=>⟨[],(QW _).symm⟩
 | n+2,_=>by
   obtain⟨l,hl⟩:=TA g S (n+1) (by omega)
   exact⟨l++CU g.size.toNat λ k=>decide (AN g S k=((n+1:Nat):Int)),by rw[Bi,hl,Qu]⟩
theorem qJ (hg:AI g) (hp:BT g.size p):∃ l,AY (AM g p.lv) p.seeds=GH g p++l:=by
 by_cases hn:0<g.size.toNat
 .obtain ⟨l,hl⟩:=TA (AM g p.lv) p.seeds g.size.toNat hn
  refine⟨l,?_⟩
  have h1:Bi (AM g p.lv) p.seeds 1=GH g p:=by
   refine NF ?_ ?_ λ x=>?_
   .exact NS g.size.toNat _
   .exact (hp.2.1.pair).filter _
   .rw [LQ]
    have h2:(0<=AN (AM g p.lv) p.seeds x/\AN (AM g p.lv) p.seeds x<(1:Nat))↔DO g p.seeds x=true:=by
     rw[show DO g p.seeds x=DO (AM g p.lv) p.seeds x from rfl,<- H6 (hg.level p.lv)]
     omega
    rw[h2];unfold DO GH;rw[Qx];simp only[QM,Uv];constructor
    .exact λ h=>h.2
    .intro h
     have h3:=hp.2.1.nodup.2 x h.1;exact⟨⟨by omega,by show x<g.size.toNat;omega⟩,h⟩
  rw[<- h1];exact hl
 .have h0:g.size.toNat=0:=by omega
  refine⟨[],?_⟩
  have h1:GH g p=[]:=by
   unfold GH;rw[List.filter_eq_nil_iff];intro x hx;have h3:=hp.2.1.nodup.2 x hx;omega
  rw[h1];show Bi _ _ (g.size.toNat)=_;rw[h0];rfl
variable {g:Gr} {x:Int}
theorem zvl {φ:Ed->Int->Int}:∀ {A:List Ed} {e:Ed},(∀ a∈A,0<=φ a 0)->e∈A->φ e 0<=Ah φ A (A.map λ _=>0)
 | [],_,_,h=>absurd h Ub
 | a::A,e,h,he=>by
   have hz:0<=Ah φ A (A.map λ _=>0):=by
    have key:∀ B:List Ed,(∀ a∈B,0<=φ a 0)->0<=Ah φ B (B.map λ _=>0):=by
     intro B
     induction B with
     | nil=>intro _;simp[Ah]
     | cons b B ih =>
       intro h;have h1:=ih λ x hx=>h x (Ql _ hx);have h2:=h b Qn;simp only[Qo,Ah];omega
    exact key A λ x hx=>h x (Ql _ hx)
   have h0:=h a Qn;simp only[Qo,Ah];rcases Qs.1 he with rfl | he
   .omega
   .have:=zvl (λ x hx=>h x (Ql _ hx)) he
    omega
theorem nS {S:Int->Bool} {A:List Ed} {e:Ed} (h0:∀ a∈A,0<=a.v) (he:e∈A) (h1:S e.f=true) (h2:S e.t=false):e.v<=BQ S A:=by
 have:=zvl (φ:=λ e _=>if S e.f=true/\S e.t=false then e.v else 0) (A:=A) (e:=e) (λ a ha=>by
  have:=h0 a ha;show 0<=if S a.f=true/\S a.t=false then a.v else 0
  split<;>omega) he
 rw[if_pos ⟨h1,h2⟩] at this;exact this
theorem Zi {a b k:Int} {n:Nat} (h0:0<=k) (h1:k<n) (ha:k≠a) (hb:k≠b):(⟨2+2*k,3+2*k,1⟩:Ed)∈BH a b n:=by
 unfold BH;refine List.mem_flatMap.2 ⟨k.toNat,Qy.2 (by omega),?_⟩
 have e:((k.toNat:Nat):Int)=k:=by omega
 rw[e,if_pos ⟨ha,hb⟩];exact QC.2 rfl
theorem uL {lv s:Int} (hg:AI g) (hw:1<=lv/\lv<=3) (hs:CM g s) (hx:CM g x) (hd:0<AN (AM g lv) [s] x):1<=Ea g lv s x:=by
 have hL:=hg.level lv
 have hb:∀ k,AN (AM g lv) [s] k=0->k=s:=λ k hk=>by
  have:=(H6 hL).1 hk;unfold DO at this;simp at this;exact this.1
 obtain⟨m,hm⟩:∃ m:Nat,AN (AM g lv) [s] x=(m:Int)+1:=⟨(AN (AM g lv) [s] x - 1).toNat,by omega⟩
 have hh:s≠x:=λ e=>by
  subst e;obtain⟨e,he,_,h2⟩:=Iq hL hm
  have key:∀ n:Nat,∀ k,AN (AM g lv) [s] k=n->AN (AM g lv) [s] s=0:=by
   intro n
   induction n with
   | zero =>
     intro k hk;have hi:AN (AM g lv) [s] k=0:=hk;have:=hb k hi
     rwa [this] at hi
   | succ n ih =>
     intro k hk;obtain⟨e,_,_,h2⟩:=Iq hL (n:=n) (by rw[hk];omega)
     exact ih e.f h2
  have:=key _ _ h2;omega
 have hA:FJ g lv s x:=⟨hw,⟨hs.1,by have:=hs.2;omega⟩,⟨hx.1,by have:=hx.2;omega⟩,hh⟩
 unfold Ea;rw[if_pos hA];have hj:=MT (lv:=lv) (a:=s) (b:=x) hg;obtain⟨X,x0,x1,hc,_⟩:=Tr (HH hj);replace hc:BQ X (BX g lv s x)=CC (2+2*g.size.toNat) (BX g lv s x):=hc;refine Q6 λ hz=>?_;have hy:∀ a∈BX g lv s x,0<=a.v:=λ a ha=>((HH hj).arc a ha).2.2.2.2.2.2.2
 have h7:∀ e∈BX g lv s x,e.v=1->X e.f=true->X e.t=true:=λ e he h1 h2=>by
  cases h3:X e.t
  .have:=nS hy he h2 h3
   omega
  .rfl
 have ho:∀ e∈(AM g lv).edges,e.t≠s->e.f≠x->(⟨if e.f=s then 0 else 3+2*e.f,if e.t=x then 1 else 2+2*e.t,1⟩:Ed)∈BX g lv s x:=λ e he h1 h2=>by
  have hq:=Qx.1 he;have h3:¬ e.v<lv:=by simpa using hq.2
  unfold BX;refine UH _ (List.mem_flatMap.2 ⟨e,hq.1,?_⟩);unfold B8;rw[if_neg (by omega)]
  exact QC.2 rfl
 have hu:∀ e∈(AM g lv).edges,CM g e.t:=λ e he=>by
  have hf:=hg.fits e (Qx.1 he).1;unfold BO at hf;exact⟨hf.2.2.1,by omega⟩
 have key:∀ n:Nat,n<=m -> ∀ k,AN (AM g lv) [s] k=n->X (if k=s then 0 else 3+2*k)=true:=by
  intro n
  induction n with
  | zero =>
    intro _ k hk;rw[if_pos (hb k hk)];exact x0
  | succ n ih =>
    intro hn k hk
    by_cases h0:k=s
    .rw [if_pos h0];exact x0
    obtain⟨e,he,h1,h2⟩:=Iq hL (n:=n) (by rw[hk];omega)
    have h3:=ih (by omega) e.f h2
    have hv:k≠x:=λ e=>by subst e;omega
    have h9:e.f≠x:=λ h=>by rw[h] at h2;omega
    have h4:=h7 _ (ho e he (by rw[h1];exact h0) h9) rfl h3
    simp only[h1,if_neg hv] at h4;have h6:=hu e he;rw[h1] at h6;have h5:=h7 ⟨2+2*k,3+2*k,1⟩ (Q0 _ (Zi h6.1 (by have:=h6.1;have:=h6.2;omega) h0 hv)) rfl h4
    rw[if_neg h0];exact h5
 obtain⟨e,he,h1,h2⟩:=Iq hL hm;have h3:=key m (Qk _) e.f h2;have h9:e.f≠x:=λ h=>by rw[h] at h2;omega
 have h4:=h7 _ (ho e he (by rw[h1];exact Ne.symm hh) h9) rfl h3
 simp only[h1,UY] at h4;rw[h4] at x1
 cases x1
structure Rw where
 k:Int
 d:Int
 m:Int
 e:Int
 w:Int
 a:Bool
abbrev IN (r:Rw):List AV:=[.I r.k,.I r.d,.I r.m,.I r.e,.I r.w,.B r.a]
abbrev Gk (l:List Rw):List (List AV):=l.map IN
abbrev D6 (l:List Rw):AV:=.vs 6 false (Gk l)
def Dk (g:Gr) (p:Al):List Int:=AY (AM g p.lv) p.seeds
def Es (g:Gr) (p:Al):List Int:=AR g p (Dk g p)
def Dc (g:Gr) (p:Al):List Int:=CU g.size.toNat λ x=>!decide (x∈Es g p)
def DK (g:Gr) (p:Al) (r:Int):List Int:=if (EV (AM g p.lv) p.seeds r).2=0 then (EV (AM g p.lv) p.seeds r).1 else List.replicate g.size.toNat 0
def GC (g:Gr) (p:Al) (salt:ByteArray) (n r x:Int):Rw :=
 ⟨x,AN (AM g p.lv) p.seeds x,Ea g p.lv ((Dk g p).headD 0) x,Di g.edges salt x n (Dc g p),(DK g p r).getD x.toNat 0,decide (x∈Es g p)⟩
def FH (g:Gr) (p:Al) (salt:ByteArray) (n r:Int):List Rw:=(Dk g p).map (GC g p salt n r)
theorem Sg {lv:Int}:Ea g lv x x=0:=by
 unfold Ea;rw[if_neg λ h=>h.2.2.2 rfl]
theorem oT (g:Gr) (p:Al) (r:Int):DK g p r=List.replicate g.size.toNat 0 ∨ ∃ h:(EV (AM g p.lv) p.seeds r).2=0,DK g p r=(EV (AM g p.lv) p.seeds r).1:=by
 unfold DK
 by_cases h:(EV (AM g p.lv) p.seeds r).2=0
 .rw [if_pos h];exact .inr ⟨h,rfl⟩
 .rw [if_neg h];exact .inl rfl
theorem SS (g:Gr) (p:Al) (r:Int):(DK g p r).length=g.size.toNat:=by
 rcases oT g p r with h | ⟨h,h2⟩
 .rw [h,List.length_replicate]
 .rw [h2]
  unfold EV at h ⊢
  by_cases h3:Ai (AM g p.lv) p.seeds=[]
  .rw [if_pos h3] at h;cases h
  .rw [if_neg h3] at h ⊢
   split
   .rename_i h4;rw[if_pos h4] at h;cases h
   .simp [Cj,AM]
theorem Xw {g:Gr} {S:List Int} (hg:AI g):∀ (n:Nat) (x:Int),AN g S x=n -> ∃ k,AN g S k=0
 | 0,x,h=>⟨x,h⟩
 | n+1,x,h=>by
   obtain⟨e,_,_,h2⟩:=Iq hg (n:=n) (by rw[h];omega)
   exact Xw hg n e.f h2
theorem tJ {p:Al} (hg:AI g) {s:Int} (hs:s∈p.seeds):0<=AN (AM g p.lv) p.seeds s↔s∉g.gone:=by
 have hL:=hg.level p.lv;constructor
 .intro h h2
  by_cases h0:AN (AM g p.lv) p.seeds s=0
  .have:=(H6 hL).1 h0
   unfold DO at this;simp at this;exact this.2 h2
  .obtain ⟨n,hn⟩:∃ n:Nat,AN (AM g p.lv) p.seeds s=(n:Int)+1:=⟨(AN (AM g p.lv) p.seeds s - 1).toNat,by omega⟩
   obtain⟨e,he,h1,_⟩:=Iq hL hn;have hf:=hL.fits e he;unfold BO at hf;rw[h1] at hf;exact hf.2.2.2.2.2.2 h2
 .intro h
  have:AN (AM g p.lv) p.seeds s=0:=(H6 hL).2 (by unfold DO;simp;exact⟨hs,h⟩)
  omega
def Dy (g:Gr) (p:Al):Int:=(p.seeds.find? λ s=>decide (0<=AN (AM g p.lv) p.seeds s)).getD (-1)
theorem pA {p:Al} (hg:AI g) (hp:BT g.size p) (hx:x∈Dk g p):Dy g p=(Dk g p).headD 0/\Dy g p∈p.seeds/\CM g (Dy g p):=by
 have hL:=hg.level p.lv;obtain⟨_,h6⟩:=(LV hL).1 hx;obtain⟨n,hn⟩:∃ n:Nat,AN (AM g p.lv) p.seeds x=n:=⟨(AN (AM g p.lv) p.seeds x).toNat,by omega⟩
 obtain⟨k,hk⟩:=Xw hL n x hn;have h0:=(H6 hL).1 hk;unfold DO at h0;simp at h0;obtain⟨l,hl⟩:=qJ hg hp;have hf:(λ s=>decide (0<=AN (AM g p.lv) p.seeds s))=(λ s=>decide (0<=AN (AM g p.lv) p.seeds s)):=rfl
 have h5:GH g p=p.seeds.filter λ s=>decide (0<=AN (AM g p.lv) p.seeds s):=by
  unfold GH;refine List.filter_congr λ s hs=>?_;rw[Qp,Qd,tJ hg hs];simp
 have h4:k∈GH g p:=by
  unfold GH;rw[Qx];exact⟨h0.1,by simpa using (show k∉g.gone from h0.2)⟩
 have hh:(GH g p).head? = p.seeds.find? λ s=>decide (0<=AN (AM g p.lv) p.seeds s):=by rw[h5,List.head?_filter]
 cases hc:GH g p with
 | nil=>rw[hc] at h4;simp at h4
 | cons a b =>
   rw[hc] at hh
   have h1:Dy g p=a:=by
    unfold Dy;rw[<- hh];rfl
   have h2:Dk g p=a::(b++l):=by
    unfold Dk;rw[hl,hc];rfl
   have h3:a∈p.seeds:=by
    have:a∈GH g p:=by rw[hc];exact Qn
    unfold GH at this;exact(Qx.1 this).1
   refine⟨by rw[h1,h2];rfl,by rw[h1];exact h3,?_⟩
   rw[h1];have:=hp.2.1.nodup.2 a h3;exact⟨this.1,by omega⟩
theorem gI (g:Gr) (lv a b:Int) (hg:AI g) (ha:0<=a) (hb:0<=b):AcP 97 [eG g,.I lv,.I a,.I b] [] (eN ⟨2+2*g.size.toNat,BX g lv a b⟩) []:=by
 refine uF.s.ai ?_;have a4:=hg.1.1;have a5:=hg.1.2.1;have a6:=hg.edges_le;obtain⟨n,hn⟩:∃ n:Nat,g.size=n:=⟨g.size.toNat,by omega⟩
 have hk:g.size.toNat=n:=by omega
 have ho:=ML n (by omega) (by omega)
 refine Dw ⟨92,[(1,.I lv),(2,.I a),(3,.I b),(4,.pv (gC g)),(8,.pt 24 0 0)],[(24,some ⟨2,[[.I 0,.nilS]],0⟩)],100⟩ [(24,24)] [16] ?_;refine arc ⟨92,[(1,.I lv),(2,.I a),(3,.I b),(4,.pv (gC g)),(8,.pt 24 0 0),(9,.pt 50 0 0)],[(24,some ⟨2,[[.I 0,.nilS]],0⟩),(50,some ⟨2,[[.I (2+2*(n:Int)),.nilS]],0⟩)],200⟩ ?_ ?_
 .simp [hn]
  refine Aj ho ?_;simp;exact Bk [(24,24),(132,50)] []
 have hv:∀ (k:Nat) (f:Ed->List AV),((BH a b k).map f).take (BH a b k).length=(BH a b k).map f:=λ k f=>Qb (by simp)
 refine Ao ⟨92,[(1,.I lv),(2,.I a),(3,.I b),(4,.pv (gC g)),(8,.pt 24 0 0),(9,.pt 50 0 0)],[(24,some ⟨2,[[.I 0,.nilS]],0⟩),(50,some ⟨2,[[.I (2+2*(n:Int)),.rs 51 0 (BH a b n).length]],0⟩),(51,some ⟨3,A3 (BH a b n),0⟩)],5000⟩ ?_ ?_
 .refine arc ⟨92,[(1,.I lv),(2,.I a),(3,.I b),(4,.pv (gC g)),(8,.pt 24 0 0),(9,.pt 50 0 0),(19,.I n),(20,.I 0)],[(24,some ⟨2,[[.I 0,.nilS]],0⟩),(50,some ⟨2,[[.I (2+2*(n:Int)),.nilS]],0⟩)],300⟩ ?_ ?_
  .simp [hn]
   exact Bk [(24,24),(50,50)] []
  refine AL (Ae (ι:=Nat) (λ i=>⟨92,[(1,.I lv),(2,.I a),(3,.I b),(4,.pv (gC g)),(8,.pt 24 0 0),(9,.pt 50 0 0),(19,.I n),(20,.I i)],[(24,some ⟨2,[[.I 0,.nilS]],0⟩),(50,some ⟨2,[[.I (2+2*(n:Int)),.rs 51 0 (BH a b i).length]],0⟩),(51,some ⟨3,A3 (BH a b i),0⟩)],1000⟩) (λ i=>i<=n) (λ i=>n - i) 0 (Qh _) ?_ ?_)
  .exact Le.lst [(24,24),(50,50)] [] [(51,3)] rfl (by simp) (by simp) (by simp) (by simp) (by simp) (by simp) (by simp) (by simp[Up]) (by simp[BH];exact⟨Am.rfl' (by simp),Am.row rfl (by omega) (by simp[Eg,Up,Wk.refl])⟩)
  intro i hi;refine ar [1,2,3,4,8,9,19,20,21] [(24,24),(50,50),(51,51)] [] 1100 ?_;refine AC (AE _ rfl (λ hc=>?_) λ hc=>?_)
  .rw [Qd] at hc
   have h7:=w6 (x:=(i:Int)+1);have h5:=ML i (by omega) (by omega)
   have h9:IntKind.i64.wrap (2+2*(i:Int)+1)=3+2*i:=by rw[w6];omega
   have h0:=Ni (a:=a) (b:=b) i;have hd:=KW (a:=a) (b:=b) i;have h4:=hv i;obtain⟨I,hI⟩:=AG (BH a b i);rw[<- hI] at h0 hd h4;refine AJ (Ao ⟨92,[(1,.I lv),(2,.I a),(3,.I b),(4,.pv (gC g)),(8,.pt 24 0 0),(9,.pt 50 0 0),(19,.I n),(20,.I i)],[(24,some ⟨2,[[.I 0,.nilS]],0⟩),(50,some ⟨2,[[.I (2+2*(n:Int)),.rs 51 0 (BH a b (i+1)).length]],0⟩),(51,some ⟨3,A3 (BH a b (i+1)),0⟩)],4000⟩ ?_ ?_)
   .refine AL (arc ⟨92,[(1,.I lv),(2,.I a),(3,.I b),(4,.pv (gC g)),(8,.pt 24 0 0),(9,.pt 50 0 0),(10,.I i),(19,.I n),(20,.I i)],[(24,some ⟨2,[[.I 0,.nilS]],0⟩),(50,some ⟨2,[[.I (2+2*(n:Int)),.rs 51 0 I.length]],0⟩),(51,some ⟨3,A3 I,0⟩)],1300⟩ ?_ ?_)
    .simp
     exact AF [(24,24),(50,50),(51,51)] [] (by simp) (by simp[AB,hI])
    refine arc ⟨92,[(1,.I lv),(2,.I a),(3,.I b),(4,.pv (gC g)),(8,.pt 24 0 0),(9,.pt 50 0 0),(10,.I i),(19,.I n),(20,.I i),(30,.B (decide ((i:Int)≠a/\(i:Int)≠b)))],[(24,some ⟨2,[[.I 0,.nilS]],0⟩),(50,some ⟨2,[[.I (2+2*(n:Int)),.rs 51 0 I.length]],0⟩),(51,some ⟨3,A3 I,0⟩)],1500⟩ ?_ ?_
    .by_cases h1:(i:Int)=a
     .have hf:((i:Int) != a)=false:=by simp[h1]
      simp[hf];exact AF [(24,24),(50,50),(51,51)] [] (by simp[h1]) (by simp[AB])
     .have hf:((i:Int) != a)=true:=by simp[h1]
      simp[hf];exact AF [(24,24),(50,50),(51,51)] [] (by simp[h1]<;>exact Aw (by rw[Qp];simp)) (by simp[AB])
    refine AE _ rfl (λ hq=>?_) λ hq=>?_
    .rw [Qd] at hq
     rw[if_pos hq] at h0;refine Cr rfl ?_;simp;refine Aj h5 ?_;simp;refine Aj h5 ?_;simp[E7,Dn,h9];refine⟨by omega,by omega,rfl,?_⟩
     rw[h0];exact AF [(24,24),(50,50),(1572,51)] [] (by simp) (by simp[AB,h4])
    .rw [Qa] at hq
     rw[if_neg hq,QW] at h0;refine AJ ?_;rw[h0];exact Av [(24,24),(50,50),(51,51)] []
   refine Ag (s:=?z42) rfl ?p42 ?r42
   case p42=>simp[h7];rfl
   exact⟨i+1,by omega,by omega,Av [(24,24),(50,50),(51,51)] []⟩
  .rw [Qa] at hc
   obtain rfl:i=n:=by omega
   exact Aa (hit (Av [(24,24),(50,50),(51,51)] []))
 obtain⟨J,hJ⟩:∃ J,J=λ i=>BH a b n++(g.edges.take i).flatMap (B8 lv a b):=⟨_,rfl⟩;have hx:J 0=BH a b n:=by rw[hJ];simp
 have hy:J g.edges.length=BX g lv a b:=by rw[hJ];unfold BX;simp only[QO,hk]
 have hz:∀ i,(J i).length<=1000:=λ i=>by
  rw[hJ];have h1:=KW (a:=a) (b:=b) n;have h2:=Ma (lv:=lv) (a:=a) (b:=b) (g.edges.take i);have h3:=Va i g.edges;simp only[Qg];omega
 have a0:∀ i (h:i<g.edges.length),J (i+1)=J i++B8 lv a b g.edges[i]:=λ i h=>by
  rw[hJ];simp only;rw[Sr h,Qu]
 refine Ao ⟨92,[(8,.pt 24 0 0),(9,.pt 50 0 0)],[(24,some ⟨2,[[.I 0,.nilS]],0⟩),(50,some ⟨2,[[.I (2+2*(n:Int)),.rs 51 0 (J g.edges.length).length]],0⟩),(51,some ⟨3,A3 (J g.edges.length),0⟩)],20000⟩ ?_ ?_
 .refine arc ⟨92,[(1,.I lv),(2,.I a),(3,.I b),(8,.pt 24 0 0),(9,.pt 50 0 0),(44,CB g.edges),(45,.I g.edges.length),(46,.I 0)],[(24,some ⟨2,[[.I 0,.nilS]],0⟩),(50,some ⟨2,[[.I (2+2*(n:Int)),.rs 51 0 (J 0).length]],0⟩),(51,some ⟨3,A3 (J 0),0⟩)],5300⟩ ?_ ?_
  .simp
   exact AF [(24,24),(50,50),(51,51)] [] (by simp) (by simp[AB,hx])
  refine AL (Ae (ι:=Nat) (λ i=>⟨92,[(1,.I lv),(2,.I a),(3,.I b),(8,.pt 24 0 0),(9,.pt 50 0 0),(44,CB g.edges),(45,.I g.edges.length),(46,.I i)],[(24,some ⟨2,[[.I 0,.nilS]],0⟩),(50,some ⟨2,[[.I (2+2*(n:Int)),.rs 51 0 (J i).length]],0⟩),(51,some ⟨3,A3 (J i),0⟩)],6000⟩) (λ i=>i<=g.edges.length) (λ i=>g.edges.length - i) 0 (Qh _) (Av [(24,24),(50,50),(51,51)] []) ?_);intro i hi;refine ar [1,2,3,8,9,44,45,46,47] [(24,24),(50,50),(51,51)] [] 6100 ?_;refine AC (AE _ rfl (λ hc=>?_) λ hc=>?_)
  .rw [Qd] at hc
   have h7:=w6 (x:=(i:Int)+1);have h6:=hg.fits g.edges[i] (Qj hc);have h0:=a0 i hc;have hd:=hz i;obtain⟨e,he⟩:=AG (g.edges[i]);rw[<- he] at h6 h0;unfold BO at h6;obtain⟨I,hI⟩:=AG (J i);rw[<- hI] at h0 hd;have h4:∀ f:Ed->List AV,(I.map f).take I.length=I.map f:=λ f=>Qb (by simp)
   have a1:=ML e.f (by omega) (by omega)
   have a2:=ML e.t (by omega) (by omega)
   have h9:IntKind.i64.wrap (2+2*e.f+1)=3+2*e.f:=by rw[w6];omega
   refine AJ (Ao ⟨92,[(1,.I lv),(2,.I a),(3,.I b),(8,.pt 24 0 0),(9,.pt 50 0 0),(44,CB g.edges),(45,.I g.edges.length),(46,.I i)],[(24,some ⟨2,[[.I 0,.nilS]],0⟩),(50,some ⟨2,[[.I (2+2*(n:Int)),.rs 51 0 (J (i+1)).length]],0⟩),(51,some ⟨3,A3 (J (i+1)),0⟩)],18000⟩ ?_ ?_)
   .refine AL (arc ⟨92,[(1,.I lv),(2,.I a),(3,.I b),(8,.pt 24 0 0),(9,.pt 50 0 0),(44,CB g.edges),(45,.I g.edges.length),(46,.I i),(12,.pv (eC e))],[(24,some ⟨2,[[.I 0,.nilS]],0⟩),(50,some ⟨2,[[.I (2+2*(n:Int)),.rs 51 0 (I).length]],0⟩),(51,some ⟨3,A3 (I),0⟩)],6300⟩ ?_ ?_)
    .simp [hc,<- he]
     exact AF [(24,24),(50,50),(51,51)] [6116] (by simp) (by simp[AB,hI])
    refine AC (arc ⟨92,[(1,.I lv),(2,.I a),(3,.I b),(8,.pt 24 0 0),(9,.pt 50 0 0),(44,CB g.edges),(45,.I g.edges.length),(46,.I i),(12,.pv (eC e)),(65,.B (decide (e.v<lv∨e.t=a∨e.f=b)))],[(24,some ⟨2,[[.I 0,.nilS]],0⟩),(50,some ⟨2,[[.I (2+2*(n:Int)),.rs 51 0 (I).length]],0⟩),(51,some ⟨3,A3 (I),0⟩)],6500⟩ ?_ ?_)
    .by_cases h1:e.v<lv
     .simp [h1]
      exact AF [(24,24),(50,50),(51,51)] [] (by simp[h1]) (by simp[AB])
     .by_cases h2:e.t=a
      .have hh:(e.t == a)=true:=by simp[h2]
       simp[h1,hh];exact AF [(24,24),(50,50),(51,51)] [] (by simp[h1,h2]) (by simp[AB])
      .have hh:(e.t == a)=false:=by simp[h2]
       simp[h1,hh];exact AF [(24,24),(50,50),(51,51)] [] (by simp[h1,h2]<;>exact Aw (by rw[Qp];simp)) (by simp[AB])
    refine AE _ rfl (λ hq=>?_) λ hq=>?_
    .rw [Qd] at hq
     have hj:B8 lv a b e=[]:=by unfold B8;rw[if_pos hq]
     rw[hj,QW] at h0;refine Aa (hit ?_);rw[h0];exact Av [(24,24),(50,50),(51,51)] []
    rw[Qa] at hq;have hj:B8 lv a b e=[⟨if e.f=a then 0 else 3+2*e.f,if e.t=b then 1 else 2+2*e.t,1⟩]:=by unfold B8;rw[if_neg hq]
    rw[hj] at h0;obtain⟨u,hu⟩:∃ u,u=if e.f=a then 0 else 3+2*e.f:=⟨_,rfl⟩
    obtain⟨w,hw⟩:∃ w,w=if e.t=b then 1 else 2+2*e.t:=⟨_,rfl⟩
    rw[<- hu,<- hw] at h0;refine AJ ?_;apply ay [1,2,3,8,9,44,45,46,12,13] [(24,24),(50,50),(51,51),(6564,60)] [] 7000
    .simp
     refine Aj a1 ?_;simp;refine Aj a2 ?_;simp[E7,h9];exact⟨rfl,rfl⟩
    refine Ao ⟨92,[(1,.I lv),(2,.I a),(3,.I b),(8,.pt 24 0 0),(9,.pt 50 0 0),(44,CB g.edges),(45,.I g.edges.length),(46,.I i),(12,.pv (eC e)),(13,.pt 60 0 0)],[(24,some ⟨2,[[.I 0,.nilS]],0⟩),(50,some ⟨2,[[.I (2+2*(n:Int)),.rs 51 0 (I).length]],0⟩),(51,some ⟨3,A3 (I),0⟩),(60,some ⟨3,[[.I (u),.I (2+2*e.t),.I 1]],0⟩)],9000⟩ ?_ ?_
    .refine arc ⟨92,[(1,.I lv),(2,.I a),(3,.I b),(8,.pt 24 0 0),(9,.pt 50 0 0),(44,CB g.edges),(45,.I g.edges.length),(46,.I i),(12,.pv (eC e)),(13,.pt 60 0 0),(77,.B (decide (e.f=a)))],[(24,some ⟨2,[[.I 0,.nilS]],0⟩),(50,some ⟨2,[[.I (2+2*(n:Int)),.rs 51 0 (I).length]],0⟩),(51,some ⟨3,A3 (I),0⟩),(60,some ⟨3,[[.I (3+2*e.f),.I (2+2*e.t),.I 1]],0⟩)],7200⟩ ?_ ?_
     .simp
      exact AF [(24,24),(50,50),(51,51),(60,60)] [] (by simp<;>exact Aw (by rw[Qp];simp)) (by simp[AB])
     refine AE _ rfl (λ h1=>?_) λ h1=>?_
     .rw [Qd] at h1
      rw[if_pos h1] at hu;subst hu;refine Ac rfl ?_;simp;exact Av [(24,24),(50,50),(51,51),(60,60)] []
     .rw [Qa] at h1
      rw[if_neg h1] at hu;subst hu;exact AJ (Av [(24,24),(50,50),(51,51),(60,60)] [])
    refine Ao ⟨92,[(1,.I lv),(2,.I a),(3,.I b),(8,.pt 24 0 0),(9,.pt 50 0 0),(44,CB g.edges),(45,.I g.edges.length),(46,.I i),(12,.pv (eC e)),(13,.pt 60 0 0)],[(24,some ⟨2,[[.I 0,.nilS]],0⟩),(50,some ⟨2,[[.I (2+2*(n:Int)),.rs 51 0 (I).length]],0⟩),(51,some ⟨3,A3 (I),0⟩),(60,some ⟨3,[[.I (u),.I (w),.I 1]],0⟩)],12000⟩ ?_ ?_
    .refine arc ⟨92,[(1,.I lv),(2,.I a),(3,.I b),(8,.pt 24 0 0),(9,.pt 50 0 0),(44,CB g.edges),(45,.I g.edges.length),(46,.I i),(12,.pv (eC e)),(13,.pt 60 0 0),(82,.B (decide (e.t=b)))],[(24,some ⟨2,[[.I 0,.nilS]],0⟩),(50,some ⟨2,[[.I (2+2*(n:Int)),.rs 51 0 (I).length]],0⟩),(51,some ⟨3,A3 (I),0⟩),(60,some ⟨3,[[.I (u),.I (2+2*e.t),.I 1]],0⟩)],9200⟩ ?_ ?_
     .simp
      exact AF [(24,24),(50,50),(51,51),(60,60)] [] (by simp<;>exact Aw (by rw[Qp];simp)) (by simp[AB])
     refine AE _ rfl (λ h1=>?_) λ h1=>?_
     .rw [Qd] at h1
      rw[if_pos h1] at hw;subst hw;refine Ac rfl ?_;simp;exact Av [(24,24),(50,50),(51,51),(60,60)] []
     .rw [Qa] at h1
      rw[if_neg h1] at hw;subst hw;exact AJ (Av [(24,24),(50,50),(51,51),(60,60)] [])
    refine Ac rfl ?_;simp[Dn];refine⟨by omega,by omega,?_⟩
    rw[h0];exact AF [(24,24),(50,50),(12032,51)] [] (by simp) (by simp[AB,h4])
   refine Ag (s:=?z90) rfl ?p90 ?r90
   case p90=>simp[h7];rfl
   exact⟨i+1,by omega,by omega,Av [(24,24),(50,50),(51,51)] []⟩
  .rw [Qa] at hc
   obtain rfl:i=g.edges.length:=by omega
   exact Aa (hit (Av [(24,24),(50,50),(51,51)] []))
 rw[hy,hk];have a3:∀ f:Ed->List AV,((BX g lv a b).map f).take (BX g lv a b).length=(BX g lv a b).map f:=λ f=>Qb (by simp)
 refine arc ⟨92,[(8,.pt 24 0 0)],[(24,some ⟨2,[nC ⟨2+2*(n:Int),BX g lv a b⟩],0⟩)],30000⟩ ?_ ?_
 .simp
  exact AF [(24,24)] [51] (by simp) (by simp[AB,a3])
 exact B7 [] [24]
theorem qT (g:Gr) (lv a b:Int) (hg:AI g):AcP 46 [eG g,.I lv,.I a,.I b] [] (.I (Ea g lv a b)) []:=by
 refine oV.s.ai ?_;have h9:=uI g lv a b hg.1.1 hg.1.2.1;refine rs [1,2,3,4] [] [16] ?_;refine AC ?_;apply ax [1,2,3,4,17] [] [] 300
 .simp
  refine Aj h9 ?_;simp;rfl
 refine AE _ rfl (λ hc=>?_) λ hc=>?_
 .have ha:¬ FJ g lv a b:=by simpa using hc
  have hm:Ea g lv a b=0:=if_neg ha;refine rs [8] [] [] ?_;exact A9 (AS.one (by simp[hm]))
 have hy:FJ g lv a b:=by simpa using hc
 have hm:Ea g lv a b=CC (2+2*g.size.toNat) (BX g lv a b):=if_pos hy;have h5:=gI g lv a b hg hy.2.1.1 hy.2.2.1.1;have h6:=MT (lv:=lv) (a:=a) (b:=b) hg
 have h0:Cu ⟨((2+2*g.size.toNat:Nat):Int),BX g lv a b⟩:=by
  have e:((2+2*g.size.toNat:Nat):Int)=2+2*(g.size.toNat:Int):=by omega
  rw[e];exact h6
 obtain⟨f,⟨h3,hb⟩,h1⟩:=znY (2+2*g.size.toNat) (BX g lv a b) h0
 have hd:f.length<=1099511627776:=by
  have:=h3.fit.len;have h2:=h6.2.2.1;simp only at h2;omega
 have h4:=ziQ (f:=f) h0 hd;rw[if_pos h3,<- Hu h3 hb,<- hm] at h4;have e:((2+2*g.size.toNat:Nat):Int)=2+2*(g.size.toNat:Int):=by omega
 rw[e] at h1 h4;have h7:f.length=(BX g lv a b).length:=h3.fit.len;obtain⟨A,hA⟩:=AG (BX g lv a b);rw[<- hA] at h5 h1 h4 h7;have he:∀ F:Int->List AV,(f.map F).take A.length=f.map F:=λ F=>Qb (by simp[h7])
 refine AJ ?_;apply ax [9] [] [340] 500
 .simp
  refine Aj h5 ?_;simp;rfl
 refine arc ⟨31,[(9,.pv (nC ⟨2+2*g.size.toNat,A⟩)),(10,AA f)],[],700⟩ ?_ ?_
 .simp
  refine CV h1 ?_;simp;exact AF [] [508] (by simp[AB,he,h7])
 refine rx (s:=?z6) [8] [] [] rfl ?p6 ?r6
 case p6=>simp;refine Aq h4 (by simp) ?_;simp;rfl
 exact Bl
theorem wF (g:Gr) (lv a b:Int):AcP 64 [eG g,.I lv,.I a,.I b] [] (.B (decide (FJ g lv a b))) []:=by
 refine t8.s.ai ?_;refine rs [1,2,3,4] [] [16] ?_;refine arc ⟨40,[(8,.B (decide (FJ g lv a b)))],[],900⟩ ?_ ?_
 .simp
  repeat' first
   | (refine Dd (λ hb=>?_) (λ hb=>?_)<;>(try rw[hb])<;>(try simp at hb)<;>simp[hb])
  all_goals exact A5 [] (by simp<;>exact Aw (by (try simp at *);grind [FJ]))
 exact Bl
theorem mS (g:Gr) (lv a b:Int) (hg:AI g):AcP 27 [eG g,.I lv,.I a,.I b] [] (.I (Ea g lv a b)) []:=by
 refine rA.s.ai ?_;have hf:=wF g lv a b;have a4:=hg.edges_le;have bt:=hg.gone_le;refine ar [1,2,3,4] [(16,16)] [] 100 ?_;refine AC ?_;apply ax [1,2,3,4,21] [(16,16)] [] 300
 .simp
  refine Aj hf ?_;simp;rfl
 refine AE _ rfl (λ hc=>?_) λ hc=>?_
 .have a5:¬ FJ g lv a b:=by simpa using hc
  have hm:Ea g lv a b=0:=if_neg a5;refine rs [8] [] [] ?_;exact A9 (AS.one (by simp[hm]))
 have hy:FJ g lv a b:=by simpa using hc
 have hm:Ea g lv a b=CC (2+2*g.size.toNat) (BX g lv a b):=if_pos hy;have hz:=MT (lv:=lv) (a:=a) (b:=b) hg;have e:((2+2*g.size.toNat:Nat):Int)=2+2*(g.size.toNat:Int):=by omega
 have h9:Cu ⟨((2+2*g.size.toNat:Nat):Int),BX g lv a b⟩:=by rw[e];exact hz
 obtain⟨f,⟨hh,a6⟩,h5⟩:=zAE (2+2*g.size.toNat) (BX g lv a b) h9;have ha:=zfW (f:=f) h9 hh;rw[<- Hu hh a6,<- hm] at ha;rw[e] at h5 ha;have hj:f.length=(BX g lv a b).length:=hh.fit.len;have hk:=uP g lv a b;have hd:=KG g lv (by omega) (by omega)
 have c0:=hg.1.1;have c1:=hg.1.2.1;obtain⟨n,hn⟩:∃ n:Nat,g.size=n:=⟨g.size.toNat,by omega⟩
 have a0:g.size.toNat=n:=by omega
 have a1:∀ e∈(AM g lv).edges,BO g e/\¬ e.v<lv:=λ e he=>by
  have h1:=Qx.1 he;exact⟨hg.fits e h1.1,by simpa using h1.2⟩
 have ho:(AM g lv).size=n:=by show g.size=n;exact hn
 have a7:(AM g lv).edges.length<=500:=QH (QU _ _) a4;have hb:BX g lv a b=BH a b n++(AM g lv).edges.flatMap (B8 lv a b):=by rw[hk,<- a0];rfl
 rw[a0] at h5 ha;obtain⟨G,a8⟩:=AG (AM g lv);rw[<- a8] at hd a1 ho a7 hb;have a9:IntKind.i64.wrap (2*(n:Int))=2*n:=w6;have ad:IntKind.i64.wrap (2+2*(n:Int))=2+2*n:=w6;refine AJ (arc ⟨129,[(1,.I lv),(2,.I a),(3,.I b),(4,.pv (gC G))],[],500⟩ ?_ ?_)
 .simp
  refine Aj hd ?_;simp;exact Bk [] [16]
 refine arc ⟨129,[(1,.I lv),(2,.I a),(3,.I b),(4,.pv (gC G)),(9,.pt 50 0 0)],[(50,some ⟨2,[[.I (2+2*(n:Int)),.nilS]],0⟩)],600⟩ ?_ ?_
 .simp [ho,a9,ad,E7]
  exact Bk [(540,50)] []
 have ag:∀ (k:Nat) (f:Ed->List AV),((BH a b k).map f).take (BH a b k).length=(BH a b k).map f:=λ k f=>Qb (by simp)
 refine Ao ⟨129,[(1,.I lv),(2,.I a),(3,.I b),(4,.pv (gC G)),(9,.pt 50 0 0)],[(50,some ⟨2,[[.I (2+2*(n:Int)),.rs 51 0 (BH a b n).length]],0⟩),(51,some ⟨3,A3 (BH a b n),0⟩)],5000⟩ ?_ ?_
 .refine Dw ⟨129,[(1,.I lv),(2,.I a),(3,.I b),(4,.pv (gC G)),(9,.pt 50 0 0),(10,.I 0)],[(50,some ⟨2,[[.I (2+2*(n:Int)),.nilS]],0⟩)],700⟩ [(50,50)] [] ?_
  refine AL (Ae (ι:=Nat) (λ i=>⟨129,[(1,.I lv),(2,.I a),(3,.I b),(4,.pv (gC G)),(9,.pt 50 0 0),(10,.I i)],[(50,some ⟨2,[[.I (2+2*(n:Int)),.rs 51 0 (BH a b i).length]],0⟩),(51,some ⟨3,A3 (BH a b i),0⟩)],1000⟩) (λ i=>i<=n) (λ i=>n - i) 0 (Qh _) ?_ ?_)
  .exact Le.lst [(50,50)] [] [(51,3)] rfl (by simp) (by simp) (by simp) (by simp) (by simp) (by simp) (by simp) (by simp[Up]) (by simp[AB,BH];exact Am.row rfl (by omega) (by simp[Eg,Up,Wk.refl]))
  intro i hi;refine AC ?_;apply ax [1,2,3,4,9,10,33] [(50,50),(51,51)] [] 1100
  .simp [ho]
   rfl
  refine AE _ rfl (λ hc=>?_) λ hc=>?_
  .rw [Qd] at hc
   have hv:=w6 (x:=(i:Int)+1);have am:IntKind.i64.wrap (2*(i:Int))=2*i:=w6;have an:IntKind.i64.wrap (2+2*(i:Int))=2+2*i:=w6;have au:IntKind.i64.wrap (3+2*(i:Int))=3+2*i:=w6;have h0:=Ni (a:=a) (b:=b) i;have hx:=KW (a:=a) (b:=b) i;have h6:=ag i;obtain⟨I,hI⟩:=AG (BH a b i);rw[<- hI] at h0 hx h6;refine AJ (Ao ⟨129,[(1,.I lv),(2,.I a),(3,.I b),(4,.pv (gC G)),(9,.pt 50 0 0),(10,.I i)],[(50,some ⟨2,[[.I (2+2*(n:Int)),.rs 51 0 (BH a b (i+1)).length]],0⟩),(51,some ⟨3,A3 (BH a b (i+1)),0⟩)],4000⟩ ?_ ?_)
   .refine AL (arc ⟨129,[(1,.I lv),(2,.I a),(3,.I b),(4,.pv (gC G)),(9,.pt 50 0 0),(10,.I i),(43,.B (decide ((i:Int)≠a/\(i:Int)≠b)))],[(50,some ⟨2,[[.I (2+2*(n:Int)),.rs 51 0 (I).length]],0⟩),(51,some ⟨3,A3 (I),0⟩)],1500⟩ ?_ ?_)
    .by_cases h1:(i:Int)=a
     .have h4:((i:Int) != a)=false:=by simp[h1]
      simp[h4];exact AF [(50,50),(51,51)] [] (by simp[h1,hI]) (by simp[AB,hI])
     .have h4:((i:Int) != a)=true:=by simp[h1]
      simp[h4];exact AF [(50,50),(51,51)] [] (by simp[h1,hI]<;>exact Aw (by rw[Qp];simp)) (by simp[AB,hI])
    refine AE _ rfl (λ hq=>?_) λ hq=>?_
    .rw [Qd] at hq
     rw[if_pos hq] at h0;refine Ac rfl ?_;simp[E7,Dn,am,an,au];refine⟨by omega,by omega,?_⟩
     rw[h0];exact AF [(50,50),(1580,51)] [] (by simp) (by simp[AB,h6])
    .rw [Qa] at hq
     rw[if_neg hq,QW] at h0;refine AJ ?_;rw[h0];exact Av [(50,50),(51,51)] []
   refine Ag (s:=?z42) rfl ?p42 ?r42
   case p42=>simp[hv];rfl
   exact⟨i+1,by omega,by omega,Av [(50,50),(51,51)] []⟩
  .rw [Qa] at hc
   obtain rfl:i=n:=by omega
   exact Aa (hit (Av [(50,50),(51,51)] []))
 obtain⟨J,hJ⟩:∃ J,J=λ i=>BH a b n++(G.edges.take i).flatMap (B8 lv a b):=⟨_,rfl⟩;have av:J 0=BH a b n:=by rw[hJ];simp
 have b1:J G.edges.length=BX g lv a b:=by rw[hJ,hb];simp only[QO]
 have b2:∀ i,(J i).length<=1000:=λ i=>by
  rw[hJ];have h1:=KW (a:=a) (b:=b) n;have h2:=Ma (lv:=lv) (a:=a) (b:=b) (G.edges.take i);have h3:=Va i G.edges;simp only[Qg];omega
 have b3:∀ i (h:i<G.edges.length),J (i+1)=J i++B8 lv a b G.edges[i]:=λ i h=>by
  rw[hJ];simp only;rw[Sr h,Qu]
 refine Ao ⟨129,[(9,.pt 50 0 0)],[(50,some ⟨2,[[.I (2+2*(n:Int)),.rs 51 0 (J G.edges.length).length]],0⟩),(51,some ⟨3,A3 (J G.edges.length),0⟩)],20000⟩ ?_ ?_
 .refine arc ⟨129,[(1,.I lv),(2,.I a),(3,.I b),(4,.pv (gC G)),(9,.pt 50 0 0),(11,.I 0)],[(50,some ⟨2,[[.I (2+2*(n:Int)),.rs 51 0 (J 0).length]],0⟩),(51,some ⟨3,A3 (J 0),0⟩)],5300⟩ ?_ ?_
  .simp
   exact AF [(50,50),(51,51)] [] (by simp) (by simp[AB,av])
  refine AL (Ae (ι:=Nat) (λ i=>⟨129,[(1,.I lv),(2,.I a),(3,.I b),(4,.pv (gC G)),(9,.pt 50 0 0),(11,.I i)],[(50,some ⟨2,[[.I (2+2*(n:Int)),.rs 51 0 (J i).length]],0⟩),(51,some ⟨3,A3 (J i),0⟩)],6000⟩) (λ i=>i<=G.edges.length) (λ i=>G.edges.length - i) 0 (Qh _) (Av [(50,50),(51,51)] []) ?_);intro i hi;refine AC (ar [1,2,3,4,9,11,60] [(50,50),(51,51)] [] 6100 ?_);refine AE _ rfl (λ hc=>?_) λ hc=>?_
  .rw [Qd] at hc
   have hv:=w6 (x:=(i:Int)+1);have h7:=a1 G.edges[i] (Qj hc);have h0:=b3 i hc;have hx:=b2 i;obtain⟨e,he⟩:=AG (G.edges[i]);rw[<- he] at h7 h0;obtain⟨h7,a2⟩:=h7;unfold BO at h7;obtain⟨I,hI⟩:=AG (J i);rw[<- hI] at h0 hx;have h6:∀ f:Ed->List AV,(I.map f).take I.length=I.map f:=λ f=>Qb (by simp)
   have b4:=w6 (x:=2*e.f);have b5:=w6 (x:=3+2*e.f);have b6:=w6 (x:=2*e.t);have bf:=w6 (x:=2+2*e.t);obtain⟨u,hu⟩:∃ u,u=if e.f=a then 0 else 3+2*e.f:=⟨_,rfl⟩
   obtain⟨w,hw⟩:∃ w,w=if e.t=b then 1 else 2+2*e.t:=⟨_,rfl⟩
   have bo:B8 lv a b e=if e.t≠a/\e.f≠b then [⟨u,w,1⟩] else []:=by
    unfold B8
    by_cases h1:e.t=a
    .rw [if_pos (.inr (.inl h1)),if_neg (λ q=>q.1 h1)]
    .by_cases h2:e.f=b
     .rw [if_pos (.inr (.inr h2)),if_neg (λ q=>q.2 h2)]
     .rw [if_neg (by simp[a2,h1,h2]),<- hu,<- hw]
      exact(if_pos ⟨h1,h2⟩).symm
   rw[bo] at h0;refine AJ (Ao ⟨129,[(1,.I lv),(2,.I a),(3,.I b),(4,.pv (gC G)),(9,.pt 50 0 0),(11,.I i)],[(50,some ⟨2,[[.I (2+2*(n:Int)),.rs 51 0 (J (i+1)).length]],0⟩),(51,some ⟨3,A3 (J (i+1)),0⟩)],18000⟩ ?_ ?_)
   .refine AL (CW ⟨129,[(1,.I lv),(2,.I a),(3,.I b),(4,.pv (gC G)),(9,.pt 50 0 0),(11,.I i),(12,.I (3+2*e.f)),(13,.I (2+2*e.t))],[(50,some ⟨2,[[.I (2+2*(n:Int)),.rs 51 0 (I).length]],0⟩),(51,some ⟨3,A3 (I),0⟩)],6500⟩ ?_ ?_)
    .simp [hc,<- he,b4,b5,b6,bf]
     exact⟨rfl,AF [(50,50),(51,51)] [] (by simp[hI]) (by simp[AB,hI])⟩
    refine Ao ⟨129,[(1,.I lv),(2,.I a),(3,.I b),(4,.pv (gC G)),(9,.pt 50 0 0),(11,.I i),(12,.I u),(13,.I (2+2*e.t))],[(50,some ⟨2,[[.I (2+2*(n:Int)),.rs 51 0 (I).length]],0⟩),(51,some ⟨3,A3 (I),0⟩)],8000⟩ ?_ ?_
    .refine arc ⟨129,[(1,.I lv),(2,.I a),(3,.I b),(4,.pv (gC G)),(9,.pt 50 0 0),(11,.I i),(12,.I (3+2*e.f)),(13,.I (2+2*e.t)),(86,.B (decide (e.f=a)))],[(50,some ⟨2,[[.I (2+2*(n:Int)),.rs 51 0 (I).length]],0⟩),(51,some ⟨3,A3 (I),0⟩)],7000⟩ ?_ ?_
     .simp [hc,<- he]
      exact AF [(50,50),(51,51)] [] (by simp<;>exact Aw (by rw[Qp];simp)) (by simp[AB])
     refine AE _ rfl (λ h1=>?_) λ h1=>?_
     .rw [Qd] at h1
      rw[if_pos h1] at hu;refine Ac rfl ?_;simp;exact AF [(50,50),(51,51)] [] (by simp[hu]) (by simp[AB])
     .rw [Qa] at h1
      rw[if_neg h1] at hu;exact AJ (AF [(50,50),(51,51)] [] (by simp[hu]) (by simp[AB]))
    refine Ao ⟨129,[(1,.I lv),(2,.I a),(3,.I b),(4,.pv (gC G)),(9,.pt 50 0 0),(11,.I i),(12,.I u),(13,.I w)],[(50,some ⟨2,[[.I (2+2*(n:Int)),.rs 51 0 (I).length]],0⟩),(51,some ⟨3,A3 (I),0⟩)],11000⟩ ?_ ?_
    .refine arc ⟨129,[(1,.I lv),(2,.I a),(3,.I b),(4,.pv (gC G)),(9,.pt 50 0 0),(11,.I i),(12,.I u),(13,.I (2+2*e.t)),(94,.B (decide (e.t=b)))],[(50,some ⟨2,[[.I (2+2*(n:Int)),.rs 51 0 (I).length]],0⟩),(51,some ⟨3,A3 (I),0⟩)],9000⟩ ?_ ?_
     .simp [hc,<- he]
      exact AF [(50,50),(51,51)] [] (by simp<;>exact Aw (by rw[Qp];simp)) (by simp[AB])
     refine AE _ rfl (λ h1=>?_) λ h1=>?_
     .rw [Qd] at h1
      rw[if_pos h1] at hw;refine Ac rfl ?_;simp;exact AF [(50,50),(51,51)] [] (by simp[hw]) (by simp[AB])
     .rw [Qa] at h1
      rw[if_neg h1] at hw;exact AJ (AF [(50,50),(51,51)] [] (by simp[hw]) (by simp[AB]))
    refine arc ⟨129,[(1,.I lv),(2,.I a),(3,.I b),(4,.pv (gC G)),(9,.pt 50 0 0),(11,.I i),(12,.I u),(13,.I w),(112,.B (decide (e.t≠a/\e.f≠b)))],[(50,some ⟨2,[[.I (2+2*(n:Int)),.rs 51 0 (I).length]],0⟩),(51,some ⟨3,A3 (I),0⟩)],12000⟩ ?_ ?_
    .by_cases h1:e.t=a
     .have h4:(e.t != a)=false:=by simp[h1]
      simp[hc,<- he,h4];exact AF [(50,50),(51,51)] [] (by simp[h1]) (by simp[AB])
     .have h4:(e.t != a)=true:=by simp[h1]
      simp[hc,<- he,h4];exact AF [(50,50),(51,51)] [] (by simp[h1]<;>exact Aw (by rw[Qp];simp)) (by simp[AB])
    refine AE _ rfl (λ hq=>?_) λ hq=>?_
    .rw [Qd] at hq
     rw[if_pos hq] at h0;refine Ac rfl ?_;simp[E7,Dn];refine⟨by omega,by omega,?_⟩
     rw[h0];exact AF [(50,50),(12048,51)] [] (by simp) (by simp[AB,h6])
    .rw [Qa] at hq
     rw[if_neg hq,QW] at h0;refine AJ ?_;rw[h0];exact Av [(50,50),(51,51)] []
   refine Ag (s:=?z90) rfl ?p90 ?r90
   case p90=>simp[hv];rfl
   exact⟨i+1,by omega,by omega,Av [(50,50),(51,51)] []⟩
  .rw [Qa] at hc
   obtain rfl:i=G.edges.length:=by omega
   exact Aa (hit (Av [(50,50),(51,51)] []))
 rw[b1];obtain⟨A,hA⟩:=AG (BX g lv a b);rw[<- hA] at h5 ha hj;rw[<- hA];have a3:∀ F:Ed->List AV,(A.map F).take A.length=A.map F:=λ F=>Qb (by simp)
 have bs:∀ F:Int->List AV,(f.map F).take A.length=f.map F:=λ F=>Qb (by simp[hj])
 refine arc ⟨129,[(9,.pv (nC ⟨2+2*(n:Int),A⟩)),(14,AA f)],[],22000⟩ ?_ ?_
 .simp
  refine N7 (j:=51) (by omega) (by simp;rfl) h5 (by simp[AB,a3]) ?_
  simp;exact AF [] [50,51,20008] (by simp[AB,a3,bs,hj])
 refine rx (s:=?z6) [8] [] [] rfl ?p6 ?r6
 case p6=>simp;refine Aq ha (by simp) ?_;simp;rfl
 exact Bl
section
variable (g:Gr) (p:Al) (r:Int) (hg:AI g) (hp:BT g.size p) (hN:g.size<20) (hr:1<=r) (aB:r<=5) (hs:p.seeds.length<=64) (ht:p.table.length<=8)
include hg hp hN hr aB hs ht
theorem mN:∀ s∈p.seeds,CM (AM g p.lv) s:=λ s h=>by
 have hR:=hp.2.1;obtain⟨i,hi,rfl⟩:=Uq h;have:=hR i hi;exact⟨this.1,by show p.seeds[i]<g.size;omega⟩
theorem gD:AcP 40 [eG g,eP p,.I r] [] (.tup [AA (EV (AM g p.lv) p.seeds r).1,.I (EV (AM g p.lv) p.seeds r).2]) []:=by
 refine mM.s.ai ?_;have ha:=mE g p r hg hp hN hr aB hs ht;have h6:=hg.level p.lv;have hS:=mN g p r hg hp hN hr aB hs ht;have b1:(AM g p.lv).size=g.size:=rfl;obtain⟨G,b2⟩:=AG (AM g p.lv);rw[<- b2] at ha h6 hS b1 ⊢;have hb:=λ i (h:i<(Ai G p.seeds).length)=>zpX G p.seeds r h6 hr aB (i:=i) h;have hd:=λ (h9:(Ai G p.seeds).length<=9) i (h:i<(Ai G p.seeds).length)=>eL G p.seeds r h6 hr aB hS h9 (i:=i) h;have he:=λ (h9:(Ai G p.seeds).length<=9) i (h:i<(Ai G p.seeds).length)=>OB h6 hr aB hS h9 (i:=i) h;have a3:=λ (h9:(Ai G p.seeds).length<=9) (h:0<(Ai G p.seeds).length)=>ztR h6 hr aB hS h9 h;have hu:=λ i (h:i<(Ai G p.seeds).length)=>Iu.1 (Qj h)
 have a4:(Ai G p.seeds).length<=64:=by
  have:=K9 (g:=G) (S:=p.seeds);have:=h6.1.2.1;omega
 have c3:=hg.1.1;have c4:=hg.1.2.1;have a5:=λ i y (h:i<(Ai G p.seeds).length) h2=>Se (G:=G) (S:=p.seeds) (r:=r) (i:=i) (y:=y) h h2;have hv:=λ i y (h:i<(Ai G p.seeds).length) h2=>Ss (G:=G) (S:=p.seeds) (r:=r) (i:=i) (y:=y) h h2;have a6:=λ i y (h:i<(Ai G p.seeds).length) h2 h3=>TS (G:=G) (S:=p.seeds) (r:=r) (i:=i) (y:=y) h h2 h3;have a7:=λ i y (h:i<(Ai G p.seeds).length) h2 h3=>Wa (G:=G) (S:=p.seeds) (r:=r) (i:=i) (y:=y) h h2 h3;obtain⟨K,h7⟩:=AG (Ai G p.seeds);obtain⟨L,b3⟩:=AG (Dl G p.seeds r);have b4:EV G p.seeds r=if K=[] then ([],11) else if 9<K.length then ([],3) else (Cj G p.seeds r,0):=by rw[h7];rfl
 rw[b4];have a8:oA G p.seeds r K.length=oB G p.seeds r 0:=by rw[h7];exact zzQ
 have hw:oB G p.seeds r K.length=Cj G p.seeds r:=by rw[h7];exact RN
 rw[<- h7] at a4;simp only[<- h7,<- b3] at ha hb hd he a3 hu a5 hv a6 a7;refine ar [2,3,4,6,7] [] [16,24] 100 ?_;apply ax [3,6,7,8,9] [] [156] 200
 .simp
  refine Aj ha ?_;simp;rfl
 refine FO (ι:=Unit) (λ _=>⟨81,[(3,.pv (gC g)),(8,.pv [AA K,BJ L])],[],900⟩) (λ _=>K≠[]/\K.length<=9) ?_ λ _ hK=>?_
 .refine AL (rs [3,6,7,8,9,23] [] [] ?_)
  refine AE _ rfl (λ h=>by simp at h) λ _=>?_
  refine arc ⟨81,[(3,.pv (gC g)),(6,.nilS),(7,.I 0),(8,.pv [AA K,BJ L]),(27,.B (decide (K=[])))],[],400⟩ ?_ ?_
  .simp
   exact AF [] [] (by simp<;>exact Aw (by rw[Qp];simp[UJ]))
  refine AE _ rfl (λ h=>?_) λ h=>?_
  .rw [Qd] at h
   rw[if_pos h];refine rs [6,7] [] [] ?_;exact A9 (AS.out [] [] rfl (by simp) (by simp) (by simp;exact Db (.nil 1 false) (.refl _)) (by simp))
  rw[Qa] at h;rw[if_neg h];refine arc ⟨81,[(3,.pv (gC g)),(6,.nilS),(7,.I 0),(8,.pv [AA K,BJ L]),(32,.B (decide (9<K.length)))],[],500⟩ ?_ ?_
  .simp
   exact AF [] [] (by simp<;>exact Aw (by rw[Qp];simp;omega))
  refine AE _ rfl (λ h2=>?_) λ h2=>?_
  .rw [Qd] at h2
   rw[if_pos h2];refine rs [6,7] [] [] ?_;exact A9 (AS.out [] [] rfl (by simp) (by simp) (by simp;exact Db (.nil 1 false) (.refl _)) (by simp))
  rw[Qa] at h2;exact AJ ⟨(),⟨h,by omega⟩,Bk [] []⟩
 obtain⟨ho,hf⟩:=hK;have b5:0<K.length:=Uy.2 ho;rw[if_neg ho,if_neg (by omega)]
 obtain⟨n,hn⟩:=AG (K.length);obtain⟨N,hh⟩:=AG (G.size.toNat);have b6:g.size=N:=by omega
 have a9:∀ i,(oA G p.seeds r i).length=N:=λ i=>by rw[zzS,hh]
 have ad:∀ i,(oB G p.seeds r i).length=N:=λ i=>by rw[XO,hh]
 have hz:AD (oA G p.seeds r 0)=List.replicate N [AV.I 0]:=by rw[Wt,hh]
 refine arc ⟨81,[(8,.pv [AA K,BJ L]),(10,.rs 50 0 N)],[(50,some ⟨1,AD (oA G p.seeds r 0),0⟩)],1000⟩ ?_ ?_
 .simp [b6]
  exact⟨by omega,by omega,AF [(916,50)] [] (by simp) (by simp[hz,AB])⟩
 refine rx (s:=?z8) [8,10,11] [50] [] rfl ?p8 ?r8
 case p8=>simp[AB];rfl
 have cb:BI ((List.range 0).map (BB G p.seeds r))=0:=rfl;refine Ao ⟨81,[(8,.pv [AA K,BJ L]),(10,.rs 50 0 N),(11,.I (BI (G9 G p.seeds r):Nat))],[(50,some ⟨1,AD (oB G p.seeds r 0),0⟩)],4000⟩ ?_ ?_
 .refine rx (s:=?z9) [8,10,11,41,42,43] [50] [] rfl ?p9 ?r9
  case p9=>simp[<- hn,AB];rfl
  refine AL (Ae (ι:=Nat) (λ i=>⟨81,[(8,.pv [AA K,BJ L]),(10,.rs 50 0 N),(11,.I (BI ((List.range i).map (BB G p.seeds r)):Nat)),(41,AA K),(42,.I n),(43,.I i)],[(50,some ⟨1,AD (oA G p.seeds r i),0⟩)],1200⟩) (λ i=>i<=n) (λ i=>n - i) 0 (Qh _) (AF [(50,50)] [] (by simp[BI]) (by simp[AB])) ?_)
  intro i hi;refine rx (s:=?z10) [8,10,11,41,42,43,44] [50] [] rfl ?p10 ?r10
  case p10=>simp[AB];rfl
  refine AC (AE _ rfl (λ hc=>?_) λ hc=>?_)
  .simp at hc
   have h0:i<K.length:=by omega
   have hx:=w6 (x:=(i:Int)+1);have h4:=(hu i h0).1;obtain⟨y,hy⟩:∃ y:Nat,K[i]=(y:Int):=⟨K[i].toNat,by have:=h4.1;omega⟩
   have hj:y<N:=by have:=h4.2;rw[hy] at this;omega
   obtain⟨ag,bf,am⟩:=he hf i h0;have h5:=a5 i y h0 hy;have h1:=a6 i y h0 hy (by omega)
   have hm:=hb i h0;have bo:=hd hf i h0;have an:IntKind.i64.wrap (FE G p.seeds r (Da G p.seeds i)*G4 G p.seeds r i)=((BB G p.seeds r i:Nat):Int):=by rw[<- ag];exact w6
   have hk:=uG (BI ((List.range i).map (BB G p.seeds r))) (BB G p.seeds r i)
   have au:BI ((List.range (i+1)).map (BB G p.seeds r))=Nat.gcd (BI ((List.range i).map (BB G p.seeds r))) (BB G p.seeds r i):=by
    rw[Uk,QT];exact zlO _ _
   rw[<- au] at hk;obtain⟨q1,hq1⟩:∃ q,q=BI ((List.range i).map (BB G p.seeds r)):=⟨_,rfl⟩;obtain⟨q2,hq2⟩:∃ q,q=BI ((List.range (i+1)).map (BB G p.seeds r)):=⟨_,rfl⟩;rw[<- hq1,<- hq2] at hk;obtain⟨w,a0⟩:=AG (BB G p.seeds r i);rw[<- a0] at an h5 h1 hk
   have a1:∀ h:y<(oA G p.seeds r (i+1)).length,(oA G p.seeds r (i+1))[y]=((w:Nat):Int):=λ h=>by
    rw[Qc h] at h1;exact Qf h1
   refine AJ (Ao ⟨81,[(8,.pv [AA K,BJ L]),(10,.rs 50 0 N),(11,.I (q2:Nat)),(41,AA K),(42,.I n),(43,.I i)],[(50,some ⟨1,AD (oA G p.seeds r (i+1)),0⟩)],3000⟩ ?_ ?_)
   .refine AL (arc ⟨81,[(8,.pv [AA K,BJ L]),(10,.rs 50 0 N),(11,.I (q1:Nat)),(12,.I i),(13,.I y),(41,AA K),(42,.I n),(43,.I i)],[(50,some ⟨1,AD (oA G p.seeds r i),0⟩)],1500⟩ ?_ ?_)
    .simp [h0,hy]
     exact AF [(50,50)] [] (by simp[hq1]) (by simp[AB])
    refine CW ⟨81,[(8,.pv [AA K,BJ L]),(10,.rs 50 0 N),(11,.I (q1:Nat)),(12,.I i),(13,.I y),(41,AA K),(42,.I n),(43,.I i)],[(50,some ⟨1,AD (oA G p.seeds r (i+1)),0⟩)],1800⟩ ?_ ?_
    .simp
     refine Aj hm ?_;simp;refine Aj bo ?_;simp[an,hj,a9,h5];exact⟨rfl,Av [(50,50)] []⟩
    refine Ac rfl ?_;simp[hj,a9,a1];refine Aj hk ?_;simp;exact Av [(50,50)] []
   refine Ag (s:=?z12) rfl ?p12 ?r12
   case p12=>simp[hx];rfl
   refine⟨i+1,by omega,by omega,?_⟩
   rw[<- hq2];exact Av [(50,50)] []
  .simp at hc
   obtain rfl:i=n:=by omega
   have bs:BI ((List.range i).map (BB G p.seeds r))=BI (G9 G p.seeds r):=by unfold G9;rw[hn,h7]
   refine Aa (hit ?_);rw[bs,<- a8,<- hn];exact Av [(50,50)] []
 have bt:=a3 hf b5;obtain⟨d,a2⟩:=AG (BI (G9 G p.seeds r));rw[<- a2] at bt;simp only[<- a2] at hv;refine Ao ⟨81,[(10,.rs 50 0 N)],[(50,some ⟨1,AD (Cj G p.seeds r),0⟩)],8000⟩ ?_ ?_
 .refine arc ⟨81,[(10,.rs 50 0 N),(11,.I (d:Nat)),(66,AA K),(67,.I n),(68,.I 0)],[(50,some ⟨1,AD (oB G p.seeds r 0),0⟩)],4500⟩ ?_ ?_
  .simp [<- hn]
   exact AF [(50,50)] [] (by simp[a2]) (by simp[AB])
  refine AL (Ae (ι:=Nat) (λ i=>⟨81,[(10,.rs 50 0 N),(11,.I (d:Nat)),(66,AA K),(67,.I n),(68,.I i)],[(50,some ⟨1,AD (oB G p.seeds r i),0⟩)],5000⟩) (λ i=>i<=n) (λ i=>n - i) 0 (Qh _) (Av [(50,50)] []) ?_);intro i hi;refine rx (s:=?z20) [10,11,66,67,68,69] [50] [] rfl ?p20 ?r20
  case p20=>simp[AB];rfl
  refine AC (AE _ rfl (λ hc=>?_) λ hc=>?_)
  .simp at hc
   have h0:i<K.length:=by omega
   have hx:=w6 (x:=(i:Int)+1);have h4:=(hu i h0).1;obtain⟨y,hy⟩:∃ y:Nat,K[i]=(y:Int):=⟨K[i].toNat,by have:=h4.1;omega⟩
   have hj:y<N:=by have:=h4.2;rw[hy] at this;omega
   obtain⟨ag,bf,am⟩:=he hf i h0;have h5:=hv i y h0 hy;have h1:=a7 i y h0 hy (by omega)
   obtain⟨w,a0⟩:=AG (BB G p.seeds r i);rw[<- a0] at am h5 h1
   have a1:∀ h:y<(oB G p.seeds r i).length,(oB G p.seeds r i)[y]=((w:Nat):Int):=λ h=>by
    rw[Qc h] at h1;exact Qf h1
   have c0:=Nat.div_le_self w d
   have hq:AH .quo (.int .i64 (w:Int)) (.int .i64 (d:Int))=some (.int .i64 ((w / d:Nat):Int)):=by
    show (if (d:Int)=0 then none else some (Value.int .i64 (IntKind.i64.wrap ((w:Int).tdiv d))))=_
    have c1:IntKind.i64.wrap ((w / d:Nat):Int)=((w / d:Nat):Int):=by
     obtain⟨z,hz⟩:=AG (w / d);rw[<- hz] at c0 ⊢;exact w6
    rw[if_neg (by omega),show ((w:Int).tdiv d)=((w / d:Nat):Int) by simp,c1]
   refine AJ (Ao ⟨81,[(10,.rs 50 0 N),(11,.I (d:Nat)),(66,AA K),(67,.I n),(68,.I i)],[(50,some ⟨1,AD (oB G p.seeds r (i+1)),0⟩)],7000⟩ ?_ ?_)
   .refine AL (arc ⟨81,[(10,.rs 50 0 N),(11,.I (d:Nat)),(15,.I y),(66,AA K),(67,.I n),(68,.I i)],[(50,some ⟨1,AD (oB G p.seeds r i),0⟩)],5500⟩ ?_ ?_)
    .simp [h0,hy]
     exact Av [(50,50)] []
    refine Ac rfl ?_;simp[-AH,-Int.natCast_ediv,hj,ad,a1,hq,h5];exact Av [(50,50)] []
   refine Ag (s:=?z22) rfl ?p22 ?r22
   case p22=>simp[hx];rfl
   exact⟨i+1,by omega,by omega,Av [(50,50)] []⟩
  .simp at hc
   obtain rfl:i=n:=by omega
   refine Aa (hit ?_);rw[<- hw,<- hn];exact Av [(50,50)] []
 have av:(Cj G p.seeds r).length=N:=by simp[Cj,hh]
 have c2:∀ f:Int->List AV,((Cj G p.seeds r).map f).take N=(Cj G p.seeds r).map f:=λ f=>Qb (by simp[av])
 refine arc ⟨81,[(6,AA (Cj G p.seeds r)),(7,.I 0)],[],9000⟩ ?_ ?_
 .simp
  exact AF [] [50] (by simp[av,c2,AB])
 exact B7 [] []
end
variable {g:Gr} {p:Al}
def zAL (p:Al) (S:List Int) (k:Int) (e:Ed):Bool:=decide (e.f=k) && (decide (p.lv<=e.v) && S.contains e.t)
def Eh (g:Gr) (p:Al) (S:List Int) (k:Int):Bool:=g.edges.any (zAL p S k)
def FN (g:Gr) (p:Al) (S:List Int) (k:Int):Int:=if S.contains k && p.seeds.contains k then (A1 g p).getD k.toNat 0 else if !S.contains k && Eh g p S k then max 0 ((A1 g p).getD k.toNat 0 - 1) else 0
def E3 (g:Gr) (p:Al) (S:List Int) (n:Nat):Int:=((List.range n).map λ (i:Nat)=>FN g p S i).sum
theorem m9 (S:List Int) (n:Nat):E3 g p S (n+1)=E3 g p S n+FN g p S n:=by
 unfold E3;rw[Uk,QT,List.sum_append];simp
theorem ziR {α:Type} {q:α->Bool} {f w:α->Int}:∀ {l:List α},(∀ x∈l,q x=true->f x<=w x)->(∀ x∈l,0<=w x)->((l.filter q).map f).sum<=(l.map w).sum
 | [],_,_=>UX _
 | x::l,h1,h2=>by
   have ih:=ziR (l:=l) (q:=q) (f:=f) (w:=w) (λ y hy=>h1 y (Ql _ hy)) λ y hy=>h2 y (Ql _ hy);have h3:=h2 x (Qn ..);have h4:=h1 x (Qn ..);rw[Vk]
   by_cases hq:q x=true
   .rw [if_pos hq]
    have:=h4 hq;simp only[Qo,UA];omega
   .rw [if_neg hq]
    simp only[Qo,UA];omega
theorem VL {α:Type} (f w:α->Int):∀ l:List α,(l.map λ x=>f x+w x).sum=(l.map f).sum+(l.map w).sum
 | []=>rfl
 | x::l=>by
   have:=VL f w l;simp only[Qo,UA,this];omega
def FU (g:Gr) (p:Al) (S:List Int) (x:Int):Bool :=
 decide (x=0) || (decide (2<=x) && (if x % 2=0 then !S.contains ((x - 2) / 2) else !S.contains ((x - 3) / 2) && !Eh g p S ((x - 3) / 2)))
theorem NX {S:List Int} {k:Int} (h:0<=k):FU g p S (2+2*k) = !S.contains k:=by
 unfold FU;rw[UI (by omega),UK (by omega),if_pos (by omega),show (2+2*k - 2) / 2=k by omega]
 rfl
theorem Rk {S:List Int} {k:Int} (h:0<=k):FU g p S (3+2*k)=(!S.contains k && !Eh g p S k):=by
 unfold FU;rw[UI (by omega),UK (by omega),if_neg (by omega),show (3+2*k - 3) / 2=k by omega]
 rfl
theorem eU (hg:AI g) (hp:BT g.size p) (S:List Int):LD g p (FU g p S)<=E3 g p S g.size.toNat:=by
 have hb:=Tf (g:=g) hp
 have hc:∀ x:Int,0<=(A1 g p).getD x.toNat 0:=λ x=>by
  rw[Qe]
  cases hh:(A1 g p)[x.toNat]? with
  | none=>simp
  | some v=>exact hb v (Uj hh)
 obtain⟨wA,h0⟩:∃ wA:Int->Int,∀ k,wA k=if S.contains k && p.seeds.contains k then (A1 g p).getD k.toNat 0 else 0:=⟨_,λ _=>rfl⟩
 obtain⟨wB,h4⟩:∃ wB:Int->Int,∀ k,wB k=if !S.contains k && Eh g p S k then max 0 ((A1 g p).getD k.toNat 0 - 1) else 0:=⟨_,λ _=>rfl⟩
 have h5:∀ k,0<=wA k:=λ k=>by
  have:=hc k;rw[h0];split<;>omega
 have h6:∀ k,0<=wB k:=λ k=>by
  rw[h4];split<;>omega
 have h7:∀ k,FN g p S k=wA k+wB k:=λ k=>by
  unfold FN;rw[h0,h4]
  cases S.contains k<;>cases p.seeds.contains k<;>simp
 have hu:E3 g p S g.size.toNat=(((List.range g.size.toNat).map λ (i:Nat)=>(i:Int)).map wA).sum+((List.range g.size.toNat).map λ (i:Nat)=>wB (i:Int)).sum:=by
  unfold E3;rw[List.map_map,<- VL]
  congr 1
  exact QF λ x _=>h7 _
 have hj:(A1 g p).length=g.size.toNat:=GK;unfold LD;simp only[NT,Ar,D3,QT,List.sum_append,List.map_map,List.filter_nil,UE,List.sum_nil];have h9:∀ x∈p.seeds,0<=x/\x<g.size:=λ x hx=>by have:=hp.2.1.nodup.2 x hx;omega
 have h1:((p.seeds.filter λ x=>decide (0<(A1 g p).getD x.toNat 0)).map ((λ e:Ed=>if FU g p S e.f=true/\FU g p S e.t=false then e.v else 0)∘λ x:Int=>(⟨0,2+2*x,(A1 g p).getD x.toNat 0⟩:Ed))).sum<=(((List.range g.size.toNat).map λ (i:Nat)=>(i:Int)).map wA).sum:=by
  have e1:((p.seeds.filter λ x=>decide (0<(A1 g p).getD x.toNat 0)).map ((λ e:Ed=>if FU g p S e.f=true/\FU g p S e.t=false then e.v else 0)∘λ x:Int=>(⟨0,2+2*x,(A1 g p).getD x.toNat 0⟩:Ed)))=(p.seeds.filter λ x=>decide (0<(A1 g p).getD x.toNat 0)).map wA:=by
   refine QF λ x hx=>?_;have ha:=(Qx.1 hx).1;have h2:=(h9 x ha).1;have h3:p.seeds.contains x=true:=Uv.2 ha;simp only[Function.comp];rw[h0,h3,NX h2,show FU g p S 0=true from rfl]
   cases S.contains x<;>simp
  rw[e1];refine WN wA h5 ((NP hp.2.1.pair).filter _) λ x hx=>?_;have h2:=h9 x (Qx.1 hx).1;exact Qi.2 ⟨x.toNat,Qy.2 (by omega),by omega⟩
 have h2:(((List.range (A1 g p).length).filter λ i=>decide (0<(A1 g p).getD i 0)).map ((λ e:Ed=>if FU g p S e.f=true/\FU g p S e.t=false then e.v else 0)∘λ i:Nat=>(⟨2+2*(i:Int),3+2*(i:Int),(A1 g p).getD i 0 - 1⟩:Ed))).sum<=((List.range g.size.toNat).map λ (i:Nat)=>wB (i:Int)).sum:=by
  rw[hj];refine ziR (λ i hi hq=>?_) λ i _=>h6 _;simp only[Function.comp];rw[h4,NX (by omega),Rk (by omega),Uu]
  cases S.contains (i:Int)<;>cases Eh g p S (i:Int)<;>simp<;>omega
 have h3:(((AM g p.lv).edges.filter λ e=>decide (0<(A1 g p).getD e.f.toNat 0)).map ((λ e:Ed=>if FU g p S e.f=true/\FU g p S e.t=false then e.v else 0)∘λ e:Ed=>(⟨3+2*e.f,2+2*e.t,64⟩:Ed))).sum<=0:=by
  have e1:∀ l:List Ed,(∀ e∈l,e∈(AM g p.lv).edges)->(l.map ((λ e:Ed=>if FU g p S e.f=true/\FU g p S e.t=false then e.v else 0)∘λ e:Ed=>(⟨3+2*e.f,2+2*e.t,64⟩:Ed))).sum<=0:=by
   intro l
   induction l with
   | nil=>intro _;exact UX _
   | cons e l ih =>
     intro h;have ih:=ih λ y hy=>h y (Ql _ hy);have he:=Qx.1 (h e (Qn ..));have hf:=hg.fits e he.1;have hk:p.lv<=e.v:=by have:=he.2;simp at this;omega
     unfold BO at hf;simp only[Qo,UA,Function.comp] at ih ⊢;rw[NX (by omega),Rk (by omega)]
     have ho:¬ ((!S.contains e.f && !Eh g p S e.f)=true/\(!S.contains e.t)=false):=by
      rintro⟨a,b⟩
      simp only[QM,UF,Bool.not_eq_false'] at a b
      have hd:Eh g p S e.f=true:=by
       unfold Eh;rw[Ui];exact⟨e,he.1,by unfold zAL;rw[UK rfl,UK hk,b];rfl⟩
      rw[hd] at a;exact absurd a.2 (by simp)
     rw[if_neg ho];omega
  exact e1 _ λ e he=>(Qx.1 he).1
 omega
theorem l4 (hg:AI g) (hp:BT g.size p) {a:List Int} (hk:ED g p a) (ha:BZ g p a) (S:List Int):((a.filter λ x=>S.contains x).length:Int)<=E3 g p S g.size.toNat:=by
 have h0:(a.filter λ x=>S.contains x).Sublist a:=List.filter_sublist;have h1:=ha.sublist hg hp hk h0;have h5:ED g p (a.filter λ x=>S.contains x):=hk.sub λ x hx=>h0.subset hx;have h2:=(LW hg hp h5).1 h1 (FU g p S) rfl rfl
 rw[V3 λ k h6=>by
  have h3:=Qx.1 h6;have h4:=hk.rng k h3.1;rw[NX h4.1,h3.2]
  rfl] at h2
 have:=eU hg hp S;omega
variable {g:Gr} {p:Al} {S:List Int} {l:Int}
section
variable {C:Int->Bool}
end
variable {g:Gr} {p:Al} {x:Int} {l:List Int}
def IV (g:Gr) (p:Al) (x k:Int):Bool:=!decide (k=x) && (!(g.edges.any λ e=>decide (e.f=k) || decide (e.t=k)) && (!decide (k∈g.gone) && !decide (k∈p.seeds)))
def HA (g:Gr) (p:Al) (x:Int):List Int:=CU g.size.toNat (IV g p x)
structure Hg (g:Gr) (p:Al) (x:Int) (l:List Int):Prop where
 rng:∀ k∈l,0<=k/\k<g.size
 ne:∀ k∈l,k≠x
 edge:∀ k∈l,∀ e∈g.edges,e.f≠k/\e.t≠k
 gone:∀ k∈l,k∉g.gone
 seed:∀ k∈l,k∉p.seeds
 pair:l.Pairwise (· < ·)
theorem NZ (n:Nat):Hg g p x ((HA g p x).take n):=by
 have hm:∀ k∈(HA g p x).take n,(0<=k/\k<g.size)/\k≠x/\(∀ e∈g.edges,e.f≠k/\e.t≠k)/\k∉g.gone/\k∉p.seeds:=λ k hk=>by
  have h1:=JQ.1 (QZ hk);have h2:=h1.2;simp only[IV,QM,UF,Qa,List.any_eq_false,UO,Qd,not_or] at h2;exact⟨by omega,h2⟩
 exact⟨λ k hk=>(hm k hk).1,λ k hk=>(hm k hk).2.1,λ k hk=>(hm k hk).2.2.1,λ k hk=>(hm k hk).2.2.2.1,λ k hk=>(hm k hk).2.2.2.2,(NS _ _).sublist (List.take_sublist _ _)⟩
theorem Hg.nodup (h:Hg g p x l):l.Nodup:=NP h.pair
def D7 (x:Int) (l:List Int) (i:Nat):List Ed:=[⟨x,l.getD i 0,3⟩,⟨l.getD i 0,x,3⟩]++(if 1<l.length then [⟨l.getD i 0,l.getD ((i+1) % l.length) 0,3⟩] else [])
def DS (x:Int) (l:List Int):List Ed:=(List.range l.length).flatMap (D7 x l)
theorem H8 {i:Nat} (h:i<l.length):l.getD i 0∈l:=by
 rw[Qe,Qc h,QB];exact Qj h
theorem Kf {e:Ed} (h:e∈DS x l):e.v=3/\((e.f=x/\e.t∈l)∨(e.t=x/\e.f∈l)∨(e.f∈l/\e.t∈l)):=by
 obtain⟨i,hi,h⟩:=List.mem_flatMap.1 h;have hi:=Qy.1 hi;have h1:=H8 hi;unfold D7 at h;simp only[QR,Q5,Qs] at h;rcases h with rfl | rfl | h
 .exact ⟨rfl,.inl ⟨rfl,h1⟩⟩
 .exact ⟨rfl,.inr (.inl ⟨rfl,h1⟩)⟩
 .split at h
  .rw [QC] at h
   subst h;exact⟨rfl,.inr (.inr ⟨h1,H8 (Uf _ (by omega))⟩)⟩
  .exact (Ub h).elim
theorem zw1 {k:Int} (h:k∈l):(⟨x,k,3⟩:Ed)∈DS x l:=by
 obtain⟨i,hi,rfl⟩:=QG.1 h;refine List.mem_flatMap.2 ⟨i,Qy.2 hi,?_⟩;unfold D7;rw[Qe,Qc hi,QB];simp
def HF (a b:Ed):Prop:=¬ (a.f=b.f/\a.t=b.t)
theorem zsJ (hn:l.Nodup) {i j:Nat} (hi:i<l.length) (hj:j<l.length) (h:l.getD i 0=l.getD j 0):i=j:=by
 rw[Qe,Qc hi,QB,Qe,Qc hj,QB] at h;exact(U0 hn).1 h
theorem Wh (hn:l.Nodup) (hx:x∉l):(DS x l).Pairwise HF:=by
 unfold DS;rw[List.pairwise_flatMap]
 have hm:∀ i,i∈List.range l.length -> ∀ e∈D7 x l i,(e.f=x/\e.t=l.getD i 0)∨(e.f=l.getD i 0/\(e.t=x∨e.t∈l)):=λ i hi e he=>by
  unfold D7 at he;simp only[QR,Q5,Qs] at he;rcases he with rfl | rfl | h
  .exact .inl ⟨rfl,rfl⟩
  .exact .inr ⟨rfl,.inl rfl⟩
  .split at h
   .rw [QC] at h
    subst h;exact .inr ⟨rfl,.inr (H8 (Uf _ (by omega)))⟩
   .exact (Ub h).elim
 constructor
 .intro i hi
  have h1:=H8 (Qy.1 hi);have h2:x≠l.getD i 0:=λ e=>hx (e ▸ h1);unfold D7;simp only[QR,Q5,Uw,Qs];refine⟨λ e he=>?_,λ e he=>?_,?_⟩
  .rcases he with rfl | h
   .exact λ h=>h2 h.1
   .split at h
    .rw [QC] at h;subst h;exact λ h=>h2 h.1
    .exact (Ub h).elim
  .split at he
   .rename_i h3
    rw[QC] at he;subst he;exact λ h=>hx ((show x=_ from h.2) ▸ H8 (Uf _ (by omega)))
   .exact (Ub he).elim
  .split
   .exact List.pairwise_singleton _ _
   .exact .nil
 .refine List.pairwise_lt_range.imp_of_mem λ {i j} hi hj h4 a ha b hb=>?_
  have h1:=hm i hi a ha;have h2:=hm j hj b hb;have mi:=H8 (Qy.1 hi);have mj:=H8 (Qy.1 hj);have h0:l.getD i 0≠l.getD j 0:=λ e=>by have:=zsJ hn (Qy.1 hi) (Qy.1 hj) e;omega
  have xi:x≠l.getD i 0:=λ e=>hx (e ▸ mi);have xj:x≠l.getD j 0:=λ e=>hx (e ▸ mj)
  rintro⟨e1,e2⟩
  rcases h1 with ⟨q1,q2⟩ | ⟨q1,q2⟩<;>rcases h2 with ⟨r1,r2⟩ | ⟨r1,r2⟩
  .exact h0 (by rw[<- q2,<- r2,e2])
  .exact xj (by rw[<- q1,<- r1,e1])
  .exact xi (by rw[<- r1,<- q1,e1])
  .exact h0 (by rw[<- q1,<- r1,e1])
def Gl (L:List Ed):List Ed:=L.mergeSort λ a b=>!decide (Bd b a)
theorem Jl (L:List Ed):(Gl L).Perm L:=List.mergeSort_perm _ _
theorem Tt {L:List Ed} (h:L.Pairwise HF):(Gl L).Pairwise Bd:=by
 have h1:(Gl L).Pairwise λ a b=>(!decide (Bd b a))=true:=List.pairwise_mergeSort (λ a b c h1 h2=>by
  simp only[UF,Qa] at *;unfold Bd at *;omega) (λ a b=>by
  simp only[UO,UF,Qa];unfold Bd
  omega) L
 have h2:(Gl L).Pairwise HF:=((Jl L).pairwise_iff λ {a b} h=>λ e=>h ⟨e.1.symm,e.2.symm⟩).2 h;refine(List.pairwise_and_iff.2 ⟨h1,h2⟩).imp λ {a b} h=>?_;have ha:=h.1;have hb:=h.2;simp only[UF,Qa] at ha;unfold HF at hb;unfold Bd at *;omega
def DG (g:Gr) (x:Int) (l:List Int):Gr:=⟨g.size,Gl (g.edges++DS x l),g.gone⟩
theorem Ju {e:Ed}:e∈(DG g x l).edges↔e∈g.edges∨e∈DS x l:=by
 unfold DG;rw[(Jl _).mem_iff,Qq]
theorem Vt:(DG g x l).edges.length=g.edges.length+(DS x l).length:=by
 unfold DG;rw[(Jl _).length_eq,Qg]
theorem Xa (hg:AI g) (hf:Hg g p x l) (hx:0<=x/\x<g.size) (h6:x∉g.gone) (hl:g.edges.length+(DS x l).length<=500):AI (DG g x l):=by
 have h0:x∉l:=λ h=>hf.ne x h rfl;refine AI.of hg.1.1 hg.1.2.1 (by have:=Vt (g:=g) (x:=x) (l:=l);unfold DG at this;simp only at this;omega) hg.1.2.2.2 (Tt ?_) λ e he=>?_
 .rw [Vn]
  refine⟨hg.pair.imp λ {a b} h=>?_,Wh hf.nodup h0,λ a ha b hb=>?_⟩
  .unfold Bd at h;unfold HF;omega
  .have h1:=(Kf hb).2
   rintro⟨e1,e2⟩
   rcases h1 with ⟨_,h⟩ | ⟨_,h⟩ | ⟨h,_⟩
   .exact (hf.edge _ h a ha).2 e2
   .exact (hf.edge _ h a ha).1 e1
   .exact (hf.edge _ h a ha).1 e1
 .rcases (Ju (g:=g) (x:=x) (l:=l)).1 he with h | h
  .exact ⟨hg.fits e h,hg.val e h⟩
  .obtain ⟨hv,h⟩:=Kf h
   refine⟨?_,by omega⟩
   unfold BO;rcases h with ⟨h1,h2⟩ | ⟨h1,h2⟩ | ⟨h1,h2⟩
   .have r:=hf.rng _ h2
    have n:=hf.ne _ h2;exact⟨by omega,by simp only;omega,by omega,by simp only;omega,by omega,by rw[h1];exact h6,hf.gone _ h2⟩
   .have r:=hf.rng _ h2
    have n:=hf.ne _ h2;exact⟨by omega,by simp only;omega,by omega,by simp only;omega,by omega,hf.gone _ h2,by rw[h1];exact h6⟩
   .have r:=hf.rng _ h1
    have r2:=hf.rng _ h2;refine⟨by omega,by simp only;omega,by omega,by simp only;omega,?_,hf.gone _ h1,hf.gone _ h2⟩
    obtain⟨i,hi,h⟩:=List.mem_flatMap.1 (by assumption:e∈DS x l)
    have hi:=Qy.1 hi;unfold D7 at h;simp only[QR,Q5,Qs] at h;rcases h with rfl | rfl | h
    .exact λ e=>h0 ((show x=_ from e) ▸ H8 hi)
    .exact λ e=>h0 ((show _=x from e) ▸ H8 hi)
    .split at h
     .rename_i h3
      rw[QC] at h;subst h;intro e;have:=zsJ hf.nodup hi (Uf _ (by omega)) e
      rcases Um (i+1) l.length with h4 | h4
      .rw [Vi h4] at this;omega
      .have h5:i+1=l.length:=by omega
       rw[h5,Nat.mod_self] at this;omega
     .exact (Ub h).elim
structure zxs (G H:Gr) (S:List Int) (x:Int) (l:List Int):Prop where
 size:H.size=G.size
 gone:H.gone=G.gone
 ne:x∉l
 seed:∀ k∈l,DO G S k=false
 off:∀ e∈G.edges,e.f∉l/\e.t∉l
 sub:∀ e∈G.edges,e∈H.edges
 new:∀ e∈H.edges,e∈G.edges∨(e.f=x/\e.t∈l)∨(e.t=x/\e.f∈l)∨(e.f∈l/\e.t∈l)
 has:∀ k∈l,(⟨x,k,3⟩:Ed)∈H.edges
theorem aY (hf:Hg g p x l) {lv:Int} (h3:lv<=3):zxs (AM g lv) (AM (DG g x l) lv) p.seeds x l:=by
 refine⟨rfl,rfl,λ h=>hf.ne x h rfl,λ k hk=>?_,λ e he=>?_,λ e he=>?_,λ e he=>?_,λ k hk=>?_⟩
 .unfold DO
  have:p.seeds.contains k=false:=by
   cases h:p.seeds.contains k with
   | false=>rfl
   | true=>exact absurd (Uv.1 h) (hf.seed k hk)
  rw[this];rfl
 .have:=(Qx.1 he).1
  exact⟨λ h=>(hf.edge _ h e this).1 rfl,λ h=>(hf.edge _ h e this).2 rfl⟩
 .have:=Qx.1 he
  exact Qx.2 ⟨Ju.2 (.inl this.1),this.2⟩
 .have:=Qx.1 he
  rcases Ju.1 this.1 with h | h
  .exact .inl (Qx.2 ⟨h,this.2⟩)
  .exact .inr (Kf h).2
 .exact Qx.2 ⟨Ju.2 (.inr (zw1 hk)),by simp only[UF,Qa];omega⟩
theorem zwX {G H:Gr} {S:List Int} (h:zxs G H S x l):∀ n:Nat,(∀ k,k∉l->dl H S n k=dl G S n k)/\(∀ k,k∈l->dl H S n k=if 0<=dl G S n x/\dl G S n x<n then dl G S n x+1 else -1)
 | 0=>by
   have hs:∀ k,DO H S k=DO G S k:=λ k=>by unfold DO;rw[h.gone]
   refine⟨λ k _=>by rw[dl,dl,hs],λ k hk=>?_⟩
   rw[if_neg (by omega),dl,hs,h.seed k hk]
   rfl
 | n+1=>by
   obtain⟨i1,i2⟩:=zwX h n;have h0:=FC (g:=G) (S:=S) n x;constructor
   .intro k hk
    rw[dl,dl,i1 k hk]
    by_cases h2:0<=dl G S n k
    .rw [if_pos h2,if_pos h2]
    .rw [if_neg h2,if_neg h2]
     have e1:H.edges.any (λ e=>decide (e.t=k) && decide (dl H S n e.f=n))=G.edges.any (λ e=>decide (e.t=k) && decide (dl G S n e.f=n)):=by
      rw[Qp,Ui,Ui];constructor
      .rintro ⟨e,he,h3⟩
       simp only[QM,Qd] at h3;rcases h.new e he with h4 | h4 | h4 | h4
       .rw [i1 e.f (h.off e h4).1] at h3
        exact⟨e,h4,by simp[h3.1,h3.2]⟩
       .exact absurd (h3.1 ▸ h4.2) hk
       .rw [i2 e.f h4.2] at h3
        split at h3
        .rename_i h5
         rw[<- h3.1,h4.1] at h2;exact absurd h5.1 h2
        .omega
       .exact absurd (h3.1 ▸ h4.2) hk
      .rintro ⟨e,he,h3⟩
       exact⟨e,h.sub e he,by rw[i1 e.f (h.off e he).1];exact h3⟩
     rw[e1]
   .intro k hk
    rw[dl,i2 k hk]
    by_cases h5:0<=dl G S n x/\dl G S n x<n
    .rw [if_pos h5,if_pos (by omega),HK h5.1,if_pos (by omega)]
    .rw [if_neg h5,if_neg (by omega)]
     by_cases h6:dl G S n x=n
     .rw [if_pos,HK (by omega),if_pos (by omega),h6]
      rw[Ui];exact⟨_,h.has k hk,by simp[i1 x h.ne,h6]⟩
     .have h7:¬ 0<=dl G S n x:=by omega
      rw[if_neg,if_neg]
      .rw [dl,if_neg h7]
       split<;>omega
      .rw [Ui]
       rintro⟨e,he,h3⟩
       simp only[QM,Qd] at h3;rcases h.new e he with h4 | h4 | h4 | h4
       .exact (h.off e h4).2 (h3.1 ▸ hk)
       .rw [h4.1,i1 x h.ne] at h3
        exact h6 h3.2
       .exact h.ne (by rw[<- h4.1,h3.1];exact hk)
       .rw [i2 e.f h4.1,if_neg h5] at h3
        omega
theorem Yv {G H:Gr} {S:List Int} (hG:AI G) (hx:CM G x) (h:zxs G H S x l):(∀ k,k∉l->AN H S k=AN G S k)/\(∀ k,k∈l->AN H S k=if 0<=AN G S x then AN G S x+1 else -1):=by
 have h1:=zwX h G.size.toNat;unfold AN;rw[h.size];refine⟨h1.1,λ k hk=>?_⟩;rw[h1.2 k hk];have h2:=Pi hG (S:=S) hx;have h3:=hx.1;have h4:=hx.2;unfold AN at h2
 by_cases h5:0<=dl G S G.size.toNat x
 .rw [if_pos ⟨h5,by omega⟩,if_pos h5]
 .rw [if_neg (λ h=>h5 h.1),if_neg h5]
variable {g:Gr} {p:Al} {x:Int} {l:List Int}
section
variable {C:Int->Bool} {T:List Int}
end
variable {g:Gr} {p:Al} {x:Int} {l l1 l2 T:List Int}
theorem uM {n:Int} (hp:BT n p):p.lv<=3:=hp.2.2.2.2.2.1
theorem vX (hg:AI g) (hp:BT g.size p) (hx:CM g x) (hf:Hg g p x l) :
  (∀ k,k∉l->AN (AM (DG g x l) p.lv) p.seeds k=AN (AM g p.lv) p.seeds k) /\
  (∀ k,k∈l->AN (AM (DG g x l) p.lv) p.seeds k=if 0<=AN (AM g p.lv) p.seeds x then AN (AM g p.lv) p.seeds x+1 else -1) :=
 Yv (hg.level p.lv) (show CM (AM g p.lv) x from hx) (aY hf (uM hp))
theorem mT (hg:AI g) (hp:BT g.size p) (hx:CM g x) (hf:Hg g p x l) :
  (∀ k:Int,0<=k->k∉l->(A1 (DG g x l) p).getD k.toNat 0=(A1 g p).getD k.toNat 0) /\
  (∀ k:Int,k∈l->0<(A1 (DG g x l) p).getD k.toNat 0->0<=AN (AM g p.lv) p.seeds x):=by
 have hd:=vX hg hp hx hf;constructor
 .intro k h0 hk
  by_cases h1:k<g.size
  .rw [Lz h0 (show k<(DG g x l).size from h1),Lz h0 h1,hd.1 k hk]
  .rw [PK (show (DG g x l).size<=k by show g.size<=k;omega),PK (by omega)]
 .intro k hk h
  have hr:=hf.rng k hk;rw[Lz hr.1 (show k<(DG g x l).size from hr.2),hd.2 k hk] at h
  refine Classical.byContradiction λ hn=>?_;rw[if_neg hn] at h;have:=Lf (p:=p) (d:=-1) (by omega)
  omega
abbrev IB (g:Gr) (p:Al) (x:Int) (l:List Int):List Int:=AY (AM (DG g x l) p.lv) p.seeds
def MO (g:Gr) (p:Al) (x:Int) (l:List Int):Nat:=((AR (DG g x l) p (IB g p x l)).filter λ k=>decide (k∈l)).length
theorem sI (hg:AI g) (hp:BT g.size p) (hs:p.seeds.length<=64) (hx:CM g x) (hf:Hg g p x l) (hr:AI (DG g x l)):(MO g p x l:Int)<=max 0 ((A1 g p).getD x.toNat 0 - 1):=by
 have hc:=mT hg hp hx hf;have h2:x∉l:=λ h=>hf.ne x h rfl;have h3:ED (DG g x l) p (AR (DG g x l) p (IB g p x l)):=Wb hr hp λ k hk=>Im hk;have h1:=l4 hr (show BT g.size p from hp) h3 ((zxq hr (show BT g.size p from hp) hs _ _ rfl (Gj _ _) (Wb hr hp λ k hk=>hk)).1.perm hr hp h3.join (Pw ((Gj _ _).sublist (IC _ _ rfl)) (h64 hr h3.rng)).symm) l
 have h4:((AR (DG g x l) p (IB g p x l)).filter λ x=>l.contains x).length=MO g p x l:=by
  unfold MO
  congr 1
  exact List.filter_congr λ k _=>by simp
 rw[h4] at h1
 have h9:∀ k:Nat,(k:Int)≠x->FN (DG g x l) p l k=0:=λ k hk=>by
  unfold FN
  by_cases h0:(k:Int)∈l
  .have e1:l.contains (k:Int)=true:=Uv.2 h0
   have e2:p.seeds.contains (k:Int)=false:=by
    cases h:p.seeds.contains (k:Int) with
    | false=>rfl
    | true=>exact absurd (Uv.1 h) (hf.seed _ h0)
   rw[e1,e2];simp
  .have e1:l.contains (k:Int)=false:=by
    cases h:l.contains (k:Int) with
    | false=>rfl
    | true=>exact absurd (Uv.1 h) h0
   have e2:Eh (DG g x l) p l k=false:=by
    unfold Eh;rw[List.any_eq_false];intro e he;unfold zAL;simp only[QM,Qd,not_and];intro h5 _ ha;have h6:=Uv.1 ha;rcases Ju.1 he with h | h
    .exact (hf.edge _ h6 e h).2 rfl
    .rcases (Kf h).2 with ⟨a,_⟩ | ⟨a,_⟩ | ⟨a,_⟩
     .exact hk (by rw[<- h5,a])
     .exact h2 (a ▸ h6)
     .exact h0 (h5 ▸ a)
   rw[e1,e2];simp
 have hb:FN (DG g x l) p l x<=max 0 ((A1 g p).getD x.toNat 0 - 1):=by
  unfold FN
  have e1:l.contains x=false:=by
   cases h:l.contains x with
   | false=>rfl
   | true=>exact absurd (Uv.1 h) h2
  rw[e1,hc.1 x hx.1 h2];simp only[Bool.false_and,Ud,Ux];split<;>omega
 have h7:∀ n:Nat,E3 (DG g x l) p l n<=max 0 ((A1 g p).getD x.toNat 0 - 1)/\((n:Int)<=x->E3 (DG g x l) p l n<=0):=by
  intro n
  induction n with
  | zero=>exact⟨by show (0:Int)<=_;omega,λ _=>UX _⟩
  | succ n ih =>
    rw[m9]
    by_cases hn:(n:Int)=x
    .rw [hn]
     exact⟨by have:=ih.2 (by omega);omega,λ h=>by omega⟩
    .rw [h9 n hn]
     exact⟨by omega,λ h=>by have:=ih.2 (by omega);omega⟩
 have:=(h7 (DG g x l).size.toNat).1;omega
end Go.Proofs.YtkngdgplbojdlaaGreat
namespace Go.Proofs
open Go.Shelf
def Tryz.sortEd_ren:Go.Shelf.Ren:=⟨fun | 6=>55 | 15=>113 | 14=>112 | 28=>154 | 29=>155 | 20=>146 | 21=>147 | 22=>148 | 23=>149 | 24=>150 | 25=>151 | 26=>152 | 27=>153 | 46=>180 | 47=>181 | 48=>182 | 49=>183 | 50=>184 | 57=>203 | n=>n,fun | 22=>28 | 24=>72 | 25=>84 | 3=>3 | 39=>134 | 0=>0 | 53=>175 | 55=>158 | 4=>4 | 46=>169 | 45=>168 | 50=>100 | 5=>5 | 9=>9 | 66=>198 | 70=>202 | 76=>214 | 77=>183 | n=>n,fun | n=>n⟩
theorem Tryz.sortEd:Go.Proofs.SlLaysF0.n6 Tryz.prog Tryz.sortEd_ren:={
 mixed:=by kernel_rfl
 f6:=⟨Tryz.f55.name,by decide,Tryz.func55.trans (congrArg some (by kernel_rfl))⟩
 f14:=⟨Tryz.f112.name,by decide,Tryz.func112.trans (congrArg some (by kernel_rfl))⟩
 f15:=Tryz.func113.trans (congrArg some (by kernel_rfl))
 f20:=⟨Tryz.f146.name,by decide,Tryz.func146.trans (congrArg some (by kernel_rfl))⟩
 f21:=⟨Tryz.f147.name,by decide,Tryz.func147.trans (congrArg some (by kernel_rfl))⟩
 f22:=⟨Tryz.f148.name,by decide,Tryz.func148.trans (congrArg some (by kernel_rfl))⟩
 f23:=⟨Tryz.f149.name,by decide,Tryz.func149.trans (congrArg some (by kernel_rfl))⟩
 f24:=⟨Tryz.f150.name,by decide,Tryz.func150.trans (congrArg some (by kernel_rfl))⟩
 f25:=⟨Tryz.f151.name,by decide,Tryz.func151.trans (congrArg some (by kernel_rfl))⟩
 f26:=⟨Tryz.f152.name,by decide,Tryz.func152.trans (congrArg some (by kernel_rfl))⟩
 f27:=⟨Tryz.f153.name,by decide,Tryz.func153.trans (congrArg some (by kernel_rfl))⟩
 f28:=Tryz.func154.trans (congrArg some (by kernel_rfl))
 f29:=Tryz.func155.trans (congrArg some (by kernel_rfl))
 f46:=⟨Tryz.f180.name,by decide,Tryz.func180.trans (congrArg some (by kernel_rfl))⟩
 f47:=Tryz.func181.trans (congrArg some (by kernel_rfl))
 f48:=Tryz.func182.trans (congrArg some (by kernel_rfl))
 f49:=⟨Tryz.f183.name,by decide,Tryz.func183.trans (congrArg some (by kernel_rfl))⟩
 f50:=⟨Tryz.f184.name,by decide,Tryz.func184.trans (congrArg some (by kernel_rfl))⟩
 f57:=⟨Tryz.f203.name,by decide,Tryz.func203.trans (congrArg some (by kernel_rfl))⟩
 t0:=Tryz.underlying0
 a0:=Tryz.isAgg0
 z0:=Tryz.sizeOf0
 v0:=Tryz.zeroValue0
 t3:=Tryz.underlying3
 a3:=Tryz.isAgg3
 z3:=Tryz.sizeOf3
 v3:=Tryz.zeroValue3
 t4:=Tryz.underlying4
 a4:=Tryz.isAgg4
 z4:=Tryz.sizeOf4
 v4:=Tryz.zeroValue4
 t5:=Tryz.underlying5
 a5:=Tryz.isAgg5
 z5:=Tryz.sizeOf5
 v5:=Tryz.zeroValue5
 t9:=Tryz.underlying9
 a9:=Tryz.isAgg9
 z9:=Tryz.sizeOf9
 v9:=Tryz.zeroValue9
 t22:=Tryz.underlying28
 a22:=Tryz.isAgg28
 z22:=Tryz.sizeOf28
 v22:=Tryz.zeroValue28
 t25:=Tryz.underlying84
 a25:=Tryz.isAgg84
 z25:=Tryz.sizeOf84
 v25:=Tryz.zeroValue84
 t39:=Tryz.underlying134
 a39:=Tryz.isAgg134
 z39:=Tryz.sizeOf134
 v39:=Tryz.zeroValue134
 t45:=Tryz.underlying168
 a45:=Tryz.isAgg168
 z45:=Tryz.sizeOf168
 v45:=Tryz.zeroValue168
 t46:=Tryz.underlying169
 a46:=Tryz.isAgg169
 z46:=Tryz.sizeOf169
 v46:=Tryz.zeroValue169
 t50:=Tryz.underlying100
 a50:=Tryz.isAgg100
 z50:=Tryz.sizeOf100
 v50:=Tryz.zeroValue100
 t53:=Tryz.underlying175
 a53:=Tryz.isAgg175
 z53:=Tryz.sizeOf175
 v53:=Tryz.zeroValue175
 t55:=Tryz.underlying158
 a55:=Tryz.isAgg158
 z55:=Tryz.sizeOf158
 v55:=Tryz.zeroValue158
 t66:=Tryz.underlying198
 a66:=Tryz.isAgg198
 z66:=Tryz.sizeOf198
 v66:=Tryz.zeroValue198
 t70:=Tryz.underlying202
 a70:=Tryz.isAgg202
 z70:=Tryz.sizeOf202
 v70:=Tryz.zeroValue202
 t76:=Tryz.underlying214
 a76:=Tryz.isAgg214
 z76:=Tryz.sizeOf214
 v76:=Tryz.zeroValue214
 t77:=Tryz.underlying183
 a77:=Tryz.isAgg183
 z77:=Tryz.sizeOf183
 v77:=Tryz.zeroValue183 }
end Go.Proofs
namespace Go.Proofs.YtkngdgplbojdlaaGreat
open Go Go.Shelf Go.RowKit Go.Lib Go.Sort Go.Proofs
theorem Zv (x:Int) (W:World):Calls Tryz.prog 114 #[.int .i64 x] W λ e w'=>e = .returned (.bool false)/\w'=W:=by
 go_enter Tryz.func114,Tryz.ntmps114
 go_wp2
 go_ret
 simp
theorem nZ (x y:Int) (W:World):Calls Tryz.prog 58 #[.int .i64 x,.int .i64 y] W λ e w'=>e = .returned (.int .i64 (Lib.compareInt x y))/\w'=W:=by
 have hn:=Zv;change ∀ x W,Calls Tryz.prog 114 _ _ _ at hn;have hr:Lib.compareInt x y=if x<y then -1 else if x > y then 1 else 0:=rfl
 rw[hr]
 by_cases h1:x<y
 .rw [if_pos h1]
  go_enter Tryz.func58,Tryz.ntmps58
  go_wp2_with (go_at_call 114;refine(hn _ _).mono ?_;rintro e w' ⟨rfl,rfl⟩)
  all_goals first
   | (go_ret;exact⟨rfl,rfl⟩)
   | omega
   | (exfalso;omega)
 .rw [if_neg h1]
  by_cases h2:x > y
  .rw [if_pos h2]
   go_enter Tryz.func58,Tryz.ntmps58
   go_wp2_with (go_at_call 114;refine(hn _ _).mono ?_;rintro e w' ⟨rfl,rfl⟩)
   all_goals first
    | (go_ret;exact⟨rfl,rfl⟩)
    | omega
    | trace_state
  .rw [if_neg h2]
   go_enter Tryz.func58,Tryz.ntmps58
   go_wp2_with (go_at_call 114;refine(hn _ _).mono ?_;rintro e w' ⟨rfl,rfl⟩)
   all_goals first
    | (go_ret;exact⟨rfl,rfl⟩)
    | omega
    | trace_state
theorem m6 (b:Nat) (x y:Int) (W:World) (h0:W.heap[b]? = some (.cells #[.int .i64 x,.int .i64 y] 3 (0,0))):Calls Tryz.prog 57 #[.slice (some ⟨b,0,none⟩) 2 2] W λ e w'=>e = .returned (.int .i64 (if x≠0 then x else y))/\w'=W:=by
 have c0:W.cell? ⟨b,0,none⟩=some (.int .i64 x):=by simp[World.cell?,h0]
 have c1:W.cell? ⟨b,1,none⟩=some (.int .i64 y):=by simp[World.cell?,h0]
 by_cases hx:x=0
 .rw [if_neg (by simpa using hx)]
  go_enter Tryz.func57,Tryz.ntmps57
  go_wp2
  refine wp_loop_rounds 3 ?_;rw[rounds_succ]
  go_wp2
  rw[rounds_succ]
  by_cases hy:y=0
  .subst hy
   go_wp2
   rw[rounds_succ]
   go_wp2
   go_ret
   exact⟨rfl,rfl⟩
  .go_wp2
   all_goals first
    | (go_ret;exact⟨rfl,rfl⟩)
    | contradiction
    | trace_state
 .rw [if_pos (by simpa using hx)]
  go_enter Tryz.func57,Tryz.ntmps57
  go_wp2
  refine wp_loop_rounds 3 ?_;rw[rounds_succ]
  go_wp2
  all_goals first
   | (go_ret;exact⟨rfl,rfl⟩)
   | contradiction
   | trace_state
def P7 (x y:Int):Int:=if x≠0 then x else y
def Fr (a b:Ed):Int:=P7 (Lib.compareInt a.f b.f) (Lib.compareInt a.t b.t)
theorem dB (b:Nat) (x y:Int) (W:World) (h0:W.heap[b]? = some (.cells #[.int .i64 x,.int .i64 y] 3 (0,0))):Calls Tryz.prog 57 #[.slice (some ⟨b,0,none⟩) 2 2] W λ e w'=>e = .returned (.int .i64 (P7 x y))/\w'=W:=m6 b x y W h0
theorem mC (W:World) (a b c:Obj):(((W.alloc a).alloc b).alloc c).drew.heap[W.heap.size+1+1]? = some c:=by
 show (((W.heap.push a).push b).push c)[W.heap.size+1+1]? = some c;rw[U1,if_pos (by simp)]
attribute [local go_sem ↓] Go.wp_at_zero Go.wp_at_succ
theorem rK (a b:Ed) (W:World):Calls Tryz.prog 56 #[.agg #[.int .i64 a.f,.int .i64 a.t,.int .i64 a.v],.agg #[.int .i64 b.f,.int .i64 b.t,.int .i64 b.v]] W λ e w'=>e = .returned (.int .i64 (Fr a b)) /\ ∃ q os',w'=Go.Sort.grow (W.drewN q) os':=by
 have hc:=nZ;change ∀ x y W,Calls Tryz.prog 58 _ _ _ at hc;have ho:=dB;change ∀ b x y W h,Calls Tryz.prog 57 _ _ _ at ho;unfold Fr;generalize hr1:Lib.compareInt a.f b.f=r1 at *;generalize hr2:Lib.compareInt a.t b.t=r2 at *;obtain⟨af,at_,av⟩:=a;obtain⟨bf,bt,bv⟩:=b;simp only at *
 go_enter Tryz.func56,Tryz.ntmps56
 go_wp2
 go_region_held3 (λ w'=>w'.cell? ⟨W.heap.size,0,none⟩=some (.int .i64 af)/\w'.cell? ⟨W.heap.size,1,none⟩=some (.int .i64 at_)/\w'.cell? ⟨W.heap.size+1,0,none⟩=some (.int .i64 bf)/\w'.cell? ⟨W.heap.size+1,1,none⟩=some (.int .i64 bt)) (go_keep)
  (first | (go_at_call 58;refine(hc _ _ _).mono ?_;rintro e w' ⟨rfl,rfl⟩) | (go_at_call 57;refine(ho _ r1 r2 _ (mC ..)).mono ?_;rintro e w' ⟨rfl,rfl⟩))
 go_wp2
 go_ret
 refine⟨rfl,1,#[.cells #[.int .i64 af,.int .i64 at_,.int .i64 av] 72,.cells #[.int .i64 bf,.int .i64 bt,.int .i64 bv] 72,.cells #[.int .i64 r1,.int .i64 r2] 3],?_⟩;rw[alloc_eq_grow,alloc_eq_grow,alloc_eq_grow,grow_grow,grow_grow];rfl
def EO (e:Ed):List Value:=[.int .i64 e.f,.int .i64 e.t,.int .i64 e.v]
theorem Mk (a b:Ed):Fr a b<0↔Bd a b:=by
 unfold Fr P7 Lib.compareInt Bd
 by_cases h1:a.f<b.f
 .simp [h1]
 .by_cases h2:b.f<a.f
  .have:¬ a.f=b.f:=by omega
   simp[h1,h2,this]
  .have:a.f=b.f:=by omega
   simp[this]
   by_cases h3:a.t<b.t
   .simp [h3]
   .by_cases h4:b.t<a.t<;>simp[h3,h4]
theorem eW:Go.Sort.SWO (Go.Proofs.ltOf Fr) where
 irrefl x:=by unfold Go.Proofs.ltOf;rw[Qa,Mk];exact Bd.irrefl x
 trans x y z h1 h2:=by
  unfold Go.Proofs.ltOf at *;rw[Qd,Mk] at *;unfold Bd at *;omega
 ntrans x y z h1 h2:=by
  unfold Go.Proofs.ltOf at *;rw[Qa,Mk] at *;unfold Bd at *;omega
theorem Zh {L:List Ed} {d:Array Ed} (hA:L.Pairwise HF) (hp:Go.Sort.PermIn 0 L.toArray.size L.toArray d) (hs:Go.Sort.SortedIn (Go.Proofs.ltOf Fr) 0 L.toArray.size d):d.toList=Gl L:=by
 obtain⟨p1,_,p3⟩:=hp;have e1:d.extract 0 L.toArray.size=d:=by rw[<- p1];exact Array.extract_size
 rw[e1,Array.extract_size] at p3;have p3:d.toList.Perm L:=p3;have h4:d.toList.Pairwise HF:=(p3.pairwise_iff λ {a b} h=>λ e=>h ⟨e.1.symm,e.2.symm⟩).2 hA;refine zpo ?_ (Tt hA) λ x=>by rw[p3.mem_iff,(Jl L).mem_iff]
 rw[QX];intro i j hi hj h0;have h1:=QX.1 h4 i j hi hj h0;have hi':i<d.size:=by simpa using hi
 have h3:j<d.size:=by simpa using hj
 have h2:=hs i j (Qh _) h0 (by rw[<- p1];exact h3)
 rw[getElem!_pos d j h3,getElem!_pos d i hi'] at h2;unfold Go.Proofs.ltOf at h2;rw[Qa,Mk] at h2;simp only[Array.getElem_toList];unfold HF at h1;simp only[Array.getElem_toList] at h1;unfold Bd at *;omega
theorem SI (L:List Ed) (i j:Nat) (hi:i<L.length) (hj:j<3):(Go.Sort.flatK EO 3 L.toArray)[i*3+j]! = (EO L[i])[j]!:=by
 have ht:i*3+j<L.toArray.size*3:=by simp;omega
 rw[Go.Sort.get_flatK _ _ _ _ ht];have e1:(i*3+j) / 3=i:=by omega
 have e2:(i*3+j) % 3=j:=by omega
 rw[e1,e2];simp[hi]
theorem vJ (zs:List Ed) (h0:zs≠[]) (hl:zs.length<4611686018427387904) (hA:zs.Pairwise HF) :
  AcP 55 [.rs 0 0 zs.length,.fn (.func 56) [] []] [{ s:=3,rows:=A3 zs }] (.tup []) ([{ s:=3,rows:=A3 (Gl zs) }].map some):=by
 refine⟨gH.s.body,by simp,λ T M w vs ad c4 ag ai=>?_⟩
 have d2:0<zs.length:=Uy.2 h0;obtain⟨am,hr⟩:=ai;have a4:=hr 0 (by simp)
 have a5:=hr 1 (by simp)
 simp only[US,List.getD_cons_succ] at a4 a5
 have cb:vs = #[vs.getD 0 undef,vs.getD 1 undef]:=by
  apply Array.ext
  .simpa using am
  .intro i h1 h2
   have h3:vs.size=2:=by simpa using am
   have:i=0∨i=1:=by simp at h2;omega
   rcases this with rfl | rfl<;>simp[Array.getD,h3]
 rw[cb];generalize vs.getD 0 undef=v at a4;generalize vs.getD 1 undef=fv at a5
 cases a5 with
 | fn _ _ _ _ us us' hx hy hq d4 =>
 have cd:us = #[]:=Array.eq_empty_of_size_eq_zero (by simpa using hx)
 have an:us' = #[]:=Array.eq_empty_of_size_eq_zero (by simpa using hy)
 subst cd an
 cases a4 with
 | rs _ _ _ _ cap a g hg d7 dd hn hb =>
 obtain⟨g',au,ent⟩:=c4.ent 0 _ rfl;rw[hg] at au;obtain rfl:=Qf au;have ck:(A3 zs).length=zs.length:=by simp
 have df:g.s=3:=ent.s
 cases h7:g.blk with
 | none =>
   have:=ent.none h7;simp at this;exact absurd this h0
 | some b =>
 obtain⟨av,c0,t0,f0,dn,d3⟩:=hb b h7;obtain⟨cells,ty,hw,cl,a2,a6⟩:=ent.blk (UR 2) b h7
 have ha:a=some ⟨b,g.base+0*g.s,none⟩:=by
  rcases av with h | h
  .omega
  .exact h
 subst ha;simp only[Nat.zero_mul,Ua] at *
 have a0:∀ i,(hi:i<zs.length) -> ∀ j,j<3->cells[g.base+(i*3+j)]? = some ((EO zs[i])[j]!):=by
  intro i hi j hj;obtain⟨u,hu,_,a1⟩:=a6 i j (by rw[ck];exact hi) hj
  rw[<- UL];rw[hu];have:((A3 zs).getD i [])=[AV.I zs[i].f,AV.I zs[i].t,AV.I zs[i].v]:=by simp[List.getD,hi]
  rw[this] at a1;have h3:j=0∨j=1∨j=2:=by omega
  rcases h3 with rfl | rfl | rfl
  .cases a1;rfl
  .cases a1;rfl
  .cases a1;rfl
 have b1:b<w.heap.size:=(QQ.1 hw).1;have b2:∀ L:List Ed,(Go.Sort.flatK EO 3 L.toArray).size=L.length*3:=λ L=>by simp
 refine(Go.Proofs.AnyQ.slices_SortFunc Tryz.sortEd 3 Tryz.isAgg72 Tryz.sizeOf72 EO (λ _=>rfl) (λ x v hv=>by simp[EO] at hv;rcases hv with rfl | rfl | rfl<;>rfl) Fr eW 56 #[] b g.base cap zs.toArray w
  (Go.Proofs.enters_of Tryz.func56 (by kernel_rfl) rfl) (λ _ _ _ _ x y=>rK x y _) ?_ b1 (by simpa using hl)).mono ?_
 .intro t ht
  rw[b2] at ht;have h3:t=t / 3*3+t % 3:=by omega
  have b3:t / 3<zs.length:=by omega
  have hv:=SI zs (t / 3) (t % 3) b3 (by omega)
  rw[<- h3] at hv;rw[hv];have hc:=a0 (t / 3) b3 (t % 3) (by omega)
  rw[<- h3] at hc;constructor
  .show w.cell? _=_
   unfold World.cell?;simp only[hw];rw[hc];rfl
  .unfold World.frozen?
   simp only[hw];simp
 .rintro e w' ⟨rfl,d',n,os,hp,hs,rfl⟩
  have hd:=Zh hA hp hs;obtain rfl:d'=(Gl zs).toArray:=by rw[<- hd]
  have b4:(Gl zs).length=zs.length:=(Jl zs).length_eq;generalize Gl zs=ys at b4;have a7:=b2 ys;have b5:=λ i j hi hj=>SI ys i j hi hj;show ∃ v T' M',Ending.returned _ = .returned v/\_;have cp:Go.Proofs.sortWorldK EO 3 w b g.base n ys.toArray os=Go.Sort.grow (Go.Sort.putRow id (Go.Sort.ahead w n) b g.base (Go.Sort.flatK EO 3 ys.toArray)) os:=rfl;rw[cp];generalize Go.Sort.flatK EO 3 ys.toArray=F at a7 b5
  have hh:∀ b',b'<w.heap.size->(Go.Sort.grow (Go.Sort.putRow id (Go.Sort.ahead w n) b g.base F) os).heap[b']? = if b'=b then some (.cells (Go.Sort.putCells id g.base F cells) ty (0,0)) else w.heap[b']?:=by
   intro b' h9;have b6:(w.heap.modify b (Go.Sort.onCells (Go.Sort.putCells id g.base F))).size=w.heap.size:=Array.size_modify;show ((w.heap.modify b (Go.Sort.onCells (Go.Sort.putCells id g.base F)))++os)[b']? = _;rw[Uc (by rw[b6];exact h9),Array.getElem?_modify]
   by_cases hf:b=b'
   .subst hf
    rw[if_pos rfl,if_pos rfl,hw];rfl
   .rw [if_neg hf,if_neg (Ne.symm hf)]
  have bf:∀ o,(o<g.base∨g.base+ys.length*3<=o)->(Go.Sort.putCells id g.base F cells)[o]? = cells[o]?:=by
   intro o ho;unfold Go.Sort.putCells;rw[Array.getElem?_mapIdx]
   cases hc:cells[o]? with
   | none=>rfl
   | some u =>
     simp only[Q8];rw[if_neg];rw[a7];omega
  have a8:∀ i,(hi:i<ys.length) -> ∀ j,j<3->(Go.Sort.putCells id g.base F cells)[g.base+i*3+j]? = some ((EO ys[i])[j]!):=by
   intro i hi j hj;unfold Go.Sort.putCells;rw[UL,Array.getElem?_mapIdx,a0 i (by omega) j hj]
   simp only[Q8];rw[if_pos (by rw[a7];omega),show g.base+(i*3+j) - g.base=i*3+j by omega,b5 i j hi hj]
   rfl
  have bo:(Go.Sort.putCells id g.base F cells).size=cells.size:=by
   unfold Go.Sort.putCells;exact Array.size_mapIdx
  have a3:w.heap.size<=(Go.Sort.grow (Go.Sort.putRow id (Go.Sort.ahead w n) b g.base F) os).heap.size:=by
   show w.heap.size<=((w.heap.modify b _)++os).size;rw[UM,Array.size_modify];omega
  have bs:T b<=g.base:=by simpa using cl
  generalize a9:(Go.Sort.grow (Go.Sort.putRow id (Go.Sort.ahead w n) b g.base F) os)=w' at hh a3;have cq:∀ b' o,w.heap[b']? = some o->b'<w.heap.size:=λ b' o h=>(QQ.1 h).1
  have bt:Au T w T w':=by
   refine⟨λ _=>Qk _,λ b' cs' ty' fz' h=>?_⟩;rw[hh b' (cq _ _ h)]
   by_cases hf:b'=b
   .subst hf
    rw[hw] at h
    cases h;exact⟨_,_,if_pos rfl,bo,λ o ho=>bf o (.inl (by omega))⟩
   .exact ⟨cs',fz',by rw[if_neg hf];exact h,rfl,λ _ _=>rfl⟩
  rw[MK];refine⟨_,T,M,rfl,.tup M [] #[] rfl (λ i hi=>by simp at hi),⟨λ id e he=>?_,λ id id' e e' g1 g2 b' h1 h2 h3 h4 h5 h6=>?_⟩,⟨λ b' h9=>?_,λ _ _ _=>rfl,λ _ _=>rfl,?_,?_,?_,a3,λ b' h9 d0=>?_,bt,λ k g1 b' hk c3 _=>?_⟩⟩
  .have hid:id=0:=by
    cases id with
    | zero=>rfl
    | succ k=>simp[Cs] at he
   subst hid;simp only[Cs,List.getElem?_cons_zero,Qt] at he;subst he;refine⟨g,hg,⟨ent.s,Qh _,λ _ row hr=>?_,λ hn=>(by rw[h7] at hn;cases hn),λ hz=>absurd hz (UR 2),λ _ b' h9=>?_⟩⟩
   .simp at hr
    obtain⟨x,_,rfl⟩:=hr;rfl
   .rw [h7] at h9
    obtain rfl:=Qf h9;refine⟨_,ty,by rw[hh _ b1,if_pos rfl],by simpa using bs,by rw[bo];simp only[Qr] at a2 ⊢;rw[b4];exact a2,λ i j hi hj=>?_⟩
    have hi':i<ys.length:=by simpa using hi
    have d1:j<3:=hj;refine⟨(EO ys[i])[j]!,a8 i hi' j d1,?_,?_⟩
    .have h3:j=0∨j=1∨j=2:=by omega
     rcases h3 with rfl | rfl | rfl<;>rfl
    .have:((A3 ys).getD i [])=[AV.I ys[i].f,AV.I ys[i].t,AV.I ys[i].v]:=by simp[List.getD,hi']
     show Ad T w' M (((A3 ys).getD i []).getD j .dead) _;rw[this];have h3:j=0∨j=1∨j=2:=by omega
     rcases h3 with rfl | rfl | rfl<;>exact .sc _ _ rfl
  .have h0:∀ id e,Cs [({ s:=3,rows:=A3 ys }:AQ)] id=some e->id=0:=by
    intro id e he
    cases id with
    | zero=>rfl
    | succ k=>simp[Cs] at he
   rw[h0 _ _ h1,h0 _ _ h2]
  .obtain ⟨c1,ty1,fz1,h1,h2⟩:=ad b' h9
   obtain⟨c2,fz2,h3,h4,_⟩:=bt.cell b' c1 ty1 fz1 h1;exact⟨c2,ty1,fz2,h3,by omega⟩
  .rw [<- a9];rfl
  .rw [<- a9];rfl
  .rw [<- a9];rfl
  .rw [hh b' h9,if_neg]
   intro hf;exact d0 ⟨0,g,by simp,hg,by rw[h7,hf]⟩
  .rw [ag k hk] at c3
   cases c3
theorem qD (e:Ed) (k:Int):AcP 111 [eE e,.pv [.I k]] [] (.B (decide (e.f=k) || decide (e.t=k))) []:=by
 refine lF.s.ai ?_;refine rs [1,2] [] [16] ?_;refine arc ⟨14,[(3,.B (decide (e.f=k) || decide (e.t=k)))],[],200⟩ ?_ ?_
 .simp
  repeat' first
   | (refine Dd (λ hb=>?_) (λ hb=>?_)<;>(try rw[hb])<;>(try simp at hb)<;>simp[hb])
  all_goals exact A5 [] (by simp<;>exact Aw (by (try simp at *);grind))
 exact Bl
theorem lD (f:FuncId) (aA:List AV) (q:Ed->Bool) (l:List Ed) (hl:l.length<=1099511627776) (hs:G1 aA) (hc:∀ e∈l,AcP f (eE e::aA) [] (.B (q e)) []):AcP 110 [CB l,.fn (.func f) [] aA] [] (.B (l.any q)) []:=by
 have h0:∀ ρ sn h,aA.map (conv ρ sn h 2)=aA:=λ _ _ _=>hs _ _ _ 1
 have h1:∀ ρ sn h,aA.map (conv ρ sn h 3)=aA:=λ _ _ _=>hs _ _ _ 2
 have h3:∀ ρ sn h,aA.map (conv ρ sn h 4)=aA:=λ _ _ _=>hs _ _ _ 3
 refine wM.s.ai ?_;refine AC (AX ?_)
 have hi:decide (0<=CH l q)=l.any q:=by
  unfold CH
  by_cases h:l.findIdx q<l.length
  .rw [if_pos h]
   have:=Vm (w:=h);have h2:l.any q=true:=Ui.2 ⟨_,Qj h,this⟩;rw[h2];simp
  .rw [if_neg h]
   have:l.findIdx q=l.length:=by have:=Vc (xs:=l) (p:=q);omega
   rw[UZ] at this
   have h2:l.any q=false:=by
    rw[List.any_eq_false];intro x hx;simp[this x hx]
   rw[h2];simp
 refine arc ⟨9,[(4,.B (l.any q))],[],16⟩ ?_ ?_
 .simp
  refine Aq (ziz f aA q l hl hs hc) ?_ ?_
  .simp [h0,h1,h3]
  simp;exact A5 [] (by simp;exact Aw hi)
 exact Bl
theorem aO (g:Gr) (p:Al) (x k:Int) (hl:g.edges.length<=1099511627776) (h7:g.gone.length<=1099511627776) (hs:p.seeds.length<=1099511627776):AcP 53 [eG g,eP p,.I x,.I k] [] (.B (IV g p x k)) []:=by
 refine sD.s.ai ?_;have h2:=lD 111 [.pv [.I k]] (λ e=>decide (e.f=k) || decide (e.t=k)) g.edges hl (λ ρ sn h n=>by simp) λ e _=>qD e k
 have h5:=Ht g.gone k (by omega)
 have h6:=Ht p.seeds k (by omega)
 refine ar [2,4,5,7] [(32,32)] [16,24] 100 ?_;obtain⟨b,h4⟩:=AG (g.edges.any λ e=>decide (e.f=k) || decide (e.t=k));rw[<- h4] at h2;apply ax [2,4,5,7,9] [] [32] 200
 .simp
  refine Hk [32] h2 (by simp) (.sc _) ?_
  simp;rfl
 have hq:IV g p x k=(!decide (k=x) && (!b && (!decide (k∈g.gone) && !decide (k∈p.seeds)))):=by rw[h4];rfl
 rw[hq];refine arc ⟨35,[(8,.B (!decide (k=x) && (!b && (!decide (k∈g.gone) && !decide (k∈p.seeds)))))],[],400⟩ ?_ ?_
 .by_cases h1:k=x
  .have h0:(k != x)=false:=by simp[h1]
   simp[h1,h0];exact Bk [] []
  have h0:(k != x)=true:=by simp[h1]
  cases b with
  | true =>
    simp[h1,h0];exact Bk [] []
  | false =>
    simp[h1,h0];refine Aj h5 ?_
    by_cases h3:k∈g.gone
    .simp [h3]
     exact Bk [] []
    .simp [h3]
     refine Aj h6 ?_;simp;exact Bk [] []
 exact Bl
theorem t7 (g:Gr) (p:Al) (x k:Int) (hl:g.edges.length<=1099511627776) (h0:g.gone.length<=1099511627776) (hs:p.seeds.length<=1099511627776):AcP 52 [.I k,.pv (gC g),.pv (pC p),.pv [.I x]] [] (.B (IV g p x k)) []:=by
 refine rB.s.ai ?_;refine rs [0,1,2,3] [] [] ?_;apply ax [5] [] [] 200
 .simp
  refine Aj (aO g p x k hl h0 hs) ?_;simp;rfl
 exact Bl
abbrev FV (N:Int) (go:List Int) (B n:Nat):AQ:=⟨3,[[.I N,.rs B 0 n,AA go]],0⟩
theorem Nd (N:Int) (go:List Int) (f t:Int) (L:List Ed) (n:Nat) (hL:L.length=n) (hn:n<=1000000):AcP 54 [.I f,.I t,.pt 0 0 0] [FV N go 1 n,⟨3,A3 L,0⟩] (.tup []) [some (FV N go 2 (n+1)),none,some ⟨3,A3 (L++[⟨f,t,3⟩]),0⟩]:=by
 refine fV.s.ai ?_;have h0:∀ f:Ed->List AV,List.take n (List.map f L)=List.map f L:=λ f=>Qb (by simp[hL])
 refine Ag (s:=?s1) rfl ?o1 ?q1
 case o1=>simp[hL,h0];refine⟨by omega,by omega,?_⟩;rfl
 refine⟨.inl rfl,⟨[],rfl,[64],[],by simp[List.range,List.range.loop],by simp,by simp,by simp,?_⟩⟩
 simp[List.range,List.range.loop]
theorem w9 (g:Gr) (v:Int) (h1:AM g v=g) (hl:g.edges.length<=1099511627776) (h4:g.gone.length<=1099511627776):AcP 38 [eG g,.I v] [] (.agg [.I g.size,.rs 0 0 g.edges.length,AA g.gone]) [some ⟨3,A3 g.edges,0⟩]:=by
 refine zjP.s.ai ?_;have h2:(g.edges.filter λ e=>!decide (e.v<v))=g.edges:=congrArg Gr.edges h1;obtain⟨E,hE⟩:=AG (g.edges.filter λ e=>!decide (e.v<v));have h5:E.length<=g.edges.length:=by rw[hE];exact QU _ _
 have h0:=S5 77 [.pv [.I v]] (λ e=>decide (e.v<v)) g.edges g.edges.length E.length rfl (by rw[hE]) hl (λ ρ sn h n=>by simp) (λ e _=>SA e v)
 rw[<- hE] at h0;have h3:E=g.edges:=hE.trans h2;refine arc ⟨14,[(2,.pv (gC g)),(3,.pt 24 0 0),(4,.pt 32 0 0)],[(24,some ⟨1,[[.I v]],0⟩),(32,some zG)],40⟩ ?_ ?_
 .simp
  refine Le.ents [(24,24),(32,32)] [16] rfl (by simp) (by simp) (by simp) (by simp) (by simp) (by simp) λ p hp=>?_
  simp at hp;rcases hp with rfl | rfl
  .exact ⟨24,_,_,rfl,by simp,rfl,Am.eq (by simp) (by simp)⟩
  .exact ⟨32,_,_,rfl,by simp,rfl,Am.eq (by simp) (by simp)⟩
 apply ak [3,4,5] [24,32,56,48,49] 72
 .simp
  refine NJ (zgs g (by omega) (by omega)) rfl ?_
  simp[AB];rfl
 apply ak [4,5] [32,56,48,49] 120
 .simp
  refine KQ (i:=48) (j:=24) (by decide) (Qh _) rfl rfl ?_ h0 (by simp) ?_ ?_
  .simp [AB]
  .simp
  simp[AB];rfl
 refine AC (AX ?_);refine BG ⟨.inr rfl,?_⟩;show AS [(4,some (true,3))] 0 _ _ _;subst h3;refine AS.out (vs:=[.agg [.I g.size,.rs 48 0 g.edges.length,.rs 49 0 g.gone.length]]) [48] [49] (by simp) (by simp) (by simp) ?_ (by simp[AB])
 simp[AB,Cz]
variable {rows:List (List AV)} {φ:Int->Option AV}
structure El (rows:List (List AV)) (φ:Int->Option AV):Prop where
 is:Du rows φ
 flat:∀ n x,φ n=some x -> ∃ v,x = .sc v
theorem El.mem (h:El rows φ) {r:List AV} (hr:r∈rows):∃ k v,r=[.sc k,.sc v]:=by
 obtain⟨⟨l,rfl,hn,hf⟩,h0⟩:=h;obtain⟨q,hq,rfl⟩:=Qi.1 hr;obtain⟨v,e⟩:=h0 q.1 q.2 (by rw[<- hf];exact zlu hn hq)
 exact⟨_,v,by rw[e]⟩
theorem El.conv' (h:El rows φ) (ρ:List (Nat × Nat)) (sn:List Nat) (g:Nat->Option AQ):rows.map (List.map (Go.Proofs.YtkngdgplbojdlaaGreat.conv ρ sn g 4))=rows:=by
 conv=>rhs;rw[<- List.map_id rows]
 refine QF λ r hr=>?_;obtain⟨k,v,rfl⟩:=h.mem hr;simp
theorem El.set {ψ:Int->Option AV} (h:El rows φ) (n v:Int) (he:ψ=λ k=>if k=n then some (.I v) else φ k):El (Bc n (.I v) rows) ψ:=by
 subst he;refine⟨h.is.set n (.I v),λ k x hx=>?_⟩;split at hx
 .cases hx;exact⟨_,rfl⟩
 .exact h.flat k x hx
theorem El.del {ψ:Int->Option AV} (h:El rows φ) (n:Int) (he:ψ=λ k=>if k=n then none else φ k):El (Cm n rows) ψ:=by
 subst he;refine⟨h.is.del n,λ k x hx=>?_⟩;split at hx
 .cases hx
 .exact h.flat k x hx
variable {g:Gr} {p:Al}
theorem EF.uniq {key:Int} {x y:GJ} (hg:AI g) (hx:EF g p (AY (AM g p.lv) p.seeds) key x) (hy:EF g p (AY (AM g p.lv) p.seeds) key y) :
  x.key=y.key/\x.acc=y.acc/\x.before=y.before/\x.side=y.side/\x.paths.length=y.paths.length:=by
 obtain⟨h7,hx2,i,hi,h3,h9⟩:=hx.at_ hg;obtain⟨hc,hk,j,hj,hd,he⟩:=hy.at_ hg;have hf:i=j:=(U0 (Gj (AM g p.lv) p.seeds)).1 (h3.trans hd.symm);subst hf;have hb:x.before=y.before:=h9.trans he.symm;refine⟨h7.trans hc.symm,?_⟩
 by_cases h0:key∈AR g p (AY (AM g p.lv) p.seeds)
 .obtain ⟨x1,x2,W,⟨f,g',_,_,hl,_⟩,x3⟩:=hx.yes h0
  obtain⟨y1,y2,V,⟨f',g'',_,_,ho,_⟩,y3⟩:=hy.yes h0;refine⟨x1.trans y1.symm,hb,x2.trans y2.symm,?_⟩;rw[x3,y3,Qr,Qr];rw[hb] at hl;omega
 .obtain ⟨x1,x2,R,hR,hs⟩:=hx.no h0
  obtain⟨y1,y2,R',hh,hs'⟩:=hy.no h0;refine⟨x1.trans y1.symm,hb,?_,by rw[x2,y2]⟩
  obtain⟨a,ha,h4,hn⟩:=hR.right _ hs;obtain⟨b,hq,h5,h6⟩:=hh.right _ hs';simp only at h4 h5 hn h6;have h1:a=i:=(U0 (Gj (AM g p.lv) p.seeds)).1 (h4.trans h3.symm);have h2:b=i:=(U0 (Gj (AM g p.lv) p.seeds)).1 (h5.trans h3.symm);subst h1;subst h2;rw[hn.eq,h6.eq]
def g1:Gr:=⟨1,[],[]⟩
def p1:Al:=⟨[0],[2],1⟩
section
variable {P:Program} {np id:Nat} {h:Nat->Option AQ} {K:AV->List Nat->List (Nat × Option AQ)->Prop} {f:FuncId} {first aA args aC:List AV} {res:AV}
end
open Classical in
def Co (g:Gr) (p:Al):Int:=if AI g then if BT g.size p then 0 else 15 else 14
theorem Jo {g:Gr} {p:Al}:Co g p=0↔AI g/\BT g.size p:=by
 unfold Co
 by_cases h1:AI g
 .by_cases h2:BT g.size p
  .simp [h1,h2]
  .simp [h1,h2]
 .simp [h1]
theorem V7 (g:Gr) (p:Al) (hl:g.edges.length<=140737488355328) (h0:g.gone.length<=140737488355328) (hs:p.seeds.length<=140737488355328) (ht:p.table.length<=140737488355328) :
  AcP 50 [eG g,eP p] [] (.I (Co g p)) []:=Mm g p hl h0 hs ht
theorem Nh (g:Gr) (p:Al) (hl:g.edges.length<=140737488355328) (h0:g.gone.length<=140737488355328) (hs:p.seeds.length<=140737488355328) (ht:p.table.length<=140737488355328) :
  AcP 47 [eG g,eP p] [] (.I (Co g p)) []:=MZ g p hl h0 hs ht
variable {g:Gr} {p:Al}
theorem tC (he:Co g p≠0) (hl:g.edges.length<=140737488355328) (h1:g.gone.length<=140737488355328) (hs:p.seeds.length<=140737488355328) (ht:p.table.length<=140737488355328) :
  AcP 36 [eG g,eP p] [] (.tup [Fl [] [] [],.I (Co g p)]) []:=by
 refine Wj.s.ai ?_;have h0:=V7 g p hl h1 hs ht;obtain⟨e,h2⟩:=AG (Co g p);rw[<- h2] at he h0 ⊢;have h3:(e != 0)=true:=by simp[he]
 refine ar [2,3,4] [(32,32)] [16,24] 100 ?_;refine AC ?_;apply ax [2,3,4,6] [(32,32)] [] 200
 .simp
  refine Aj h0 ?_;simp;rfl
 refine arc ⟨72,[(4,.pt 32 0 0),(6,.I e),(18,.B true)],[(32,some ⟨3,[[.nilS,.nilS,.nilS]],0⟩)],300⟩ ?_ ?_
 .simp
  exact AF [(32,32)] [] (by simp[h3])
 refine AE _ rfl (λ _=>?_) λ h=>by cases h
 apply ax [4,5] [(32,32)] [] 400
 .simp [Ay]
  rfl
 exact A9 (AS.out [] [] rfl (by simp) (by simp) (by simp;exact Db (FM (.nil _ _) (.nil _ _) (.nil _ _)) (.refl _)) (by simp))
open Classical in
def FX (g:Gr) (p:Al) (x n:Int):Gr × List Int × Int :=
 if Co g p≠0 then (Eb,[],Co g p)
 else if ¬ (0<=x/\x<=g.size - 1)∨x∈g.gone then (Eb,[],4)
 else if n<1 then (Eb,[],2)
 else if ((HA g p x).length:Int)<n then (Eb,[],3)
 else if 500<g.edges.length+(DS x ((HA g p x).take n.toNat)).length then (Eb,[],3)
 else (DG g x ((HA g p x).take n.toNat),(HA g p x).take n.toNat,0)
theorem Hx {a b c a' b' c':AV} (h1:Wk a a') (h2:Wk b b') (h3:Wk c c'):Wk (.tup [a,b,c]) (.tup [a',b',c']) :=
 .tup _ _ rfl λ i=>match i with | 0=>h1 | 1=>h2 | 2=>h3 | _+3=>.refl _
abbrev Rx (r:Gr × List Int × Int):AV:=.tup [eG r.1,AA r.2.1,.I r.2.2]
theorem cQ {g:Gr} (hg:AI g):AM g 0=g:=by
 unfold AM
 have:(g.edges.filter λ e=>!decide (e.v<0))=g.edges:=Vh.2 λ e he=>by
  have:=hg.val e he;simp;omega
 rw[this]
def D0 (g:Gr) (x:Int) (l:List Int) (i:Nat):List Ed:=g.edges++(List.range i).flatMap (D7 x l)
theorem WZ (g:Gr) (x:Int) (l:List Int) (i:Nat):D0 g x l (i+1)=D0 g x l i++D7 x l i:=by
 unfold D0;rw[Uk,List.flatMap_append,Qu];simp
theorem dY (x:Int) (l:List Int) (i:Nat):(D7 x l i).length<=3:=by
 unfold D7;split<;>simp
theorem Nj (g:Gr) (x:Int) (l:List Int):∀ i,(D0 g x l i).length<=g.edges.length+3*i
 | 0=>by simp[D0]
 | i+1=>by
   rw[WZ,Qg];have h1:=Nj g x l i;have h2:=dY x l i;omega
theorem Xo (g:Gr) (p:Al) (x n:Int) (hl:g.edges.length<=1000000) (c4:g.gone.length<=1000000) (hs:p.seeds.length<=1000000) (ht:p.table.length<=1000000) :
  AcP 19 [eG g,eP p,.I x,.I n] [] (Rx (FX g p x n)) []:=by
 refine iT.s.ai ?_;have hu:=V7 g p (by omega) (by omega) (by omega) (by omega)
 generalize h0:FX g p x n=r;unfold FX at h0;replace h0:=h0.symm;have a4:=Jo (g:=g) (p:=p);obtain⟨c,hc⟩:=AG (Co g p);rw[<- hc] at hu h0 a4
 have h5:∀ (e:Int) (m:Nat),r=(Eb,[],e)->AS [(8,some (true,3)),(9,none),(10,none)] 0 ⟨96,[(8,.pt 40 0 0),(9,.nilS),(10,.I e)],[(40,some zG)],m⟩ (Rx r) []:=by
  intro e m he;rw[he];exact AS.out [] [40] rfl (by simp) (by simp) (Hx (by simp;exact FM (.refl _) (.nil _ _) (.nil _ _)) (.nil _ _) (.refl _)) (by simp)
 refine ar [3,4,5,6,8] [(40,40)] [16,24,32] 100 ?_;refine AC ?_;apply ax [3,4,5,6,8,11] [(40,40)] [] 200
 .simp
  refine Aj hu ?_;simp;rfl
 refine AL (arc ⟨96,[(3,.I n),(4,.pv (gC g)),(5,.pv (pC p)),(6,.pv [.I x]),(8,.pt 40 0 0),(11,.I c),(20,.B (decide (c≠0)))],[(40,some zG)],300⟩ ?_ ?_)
 .simp
  exact AF [(40,40)] [] (by simp<;>exact Aw (by rw[Qp];simp))
 refine AE _ rfl (λ h4=>?_) λ h4=>?_
 .rw [Qd] at h4
  rw[if_pos h4] at h0;apply ax [8,9,10] [(40,40)] [] 400
  .simp [Ay]
   rfl
  exact A9 (h5 c _ h0)
 rw[Qa] at h4;rw[if_neg h4] at h0;obtain⟨hg,hp⟩:=a4.1 (Q6 h4);have cb:=hg.1.1;have c1:=hg.1.2.1;have cd:=hg.edges_le;have an:=w6 (x:=g.size - 1);have a5:=Ht g.gone x (by omega)
 refine arc ⟨96,[(3,.I n),(4,.pv (gC g)),(5,.pv (pC p)),(6,.pv [.I x]),(8,.pt 40 0 0),(25,.B (decide (¬ (0<=x/\x<=g.size - 1)∨x∈g.gone)))],[(40,some zG)],600⟩ ?_ ?_
 .simp [an]
  refine Aj (Ev x 0 (g.size - 1)) ?_
  by_cases hw:0<=x/\x<=g.size - 1
  .simp [hw]
   refine Aj a5 ?_;simp;exact AF [(40,40)] [] (by simp<;>exact Aw (by simp[hw];intro h;omega))
  .have a6:(decide (0<=x) && decide (x<=g.size - 1))=false:=by
    rw[<- Bool.decide_and];exact UI hw
   simp[a6];exact AF [(40,40)] [] (by simp<;>exact Aw (by simp;exact .inl (by omega)))
 refine AE _ rfl (λ h7=>?_) λ h7=>?_
 .rw [Qd] at h7
  rw[if_pos h7] at h0;apply ax [8,9,10] [(40,40)] [] 700
  .simp [Ay]
   rfl
  exact A9 (h5 4 _ h0)
 rw[Qa] at h7;rw[if_neg h7] at h0
 have hx:0<=x/\x<g.size:=by
  have:¬ ¬ (0<=x/\x<=g.size - 1):=λ h=>h7 (.inl h);omega
 have ck:x∉g.gone:=λ h=>h7 (.inr h);refine ar [3,4,5,6,8,39] [(40,40)] [] 800 ?_;refine AE _ rfl (λ h6=>?_) λ h6=>?_
 .rw [Qd] at h6
  rw[if_pos h6] at h0;apply ax [8,9,10] [(40,40)] [] 900
  .simp [Ay]
   rfl
  exact A9 (h5 2 _ h0)
 rw[Qa] at h6;rw[if_neg h6] at h0;have hy:=KK 52 [.pv (gC g),.pv (pC p),.pv [.I x]] (IV g p x) g.size (by omega) (λ ρ sn h k=>by simp) λ k _=>t7 g p x k (by omega) (by omega) (by omega)
 have hL:CU g.size.toNat (IV g p x)=HA g p x:=rfl;rw[hL] at hy;obtain⟨L,hz⟩:=AG (HA g p x);rw[<- hz] at hy h0
 have au:L.length<=64:=by
  have h1:(CU g.size.toNat (IV g p x)).length<=g.size.toNat:=by
   unfold CU;have:=QU (IV g p x) ((List.range g.size.toNat).map λ (i:Nat)=>(i:Int))
   simpa using this
  rw[hz,<- hL];omega
 refine AJ (arc ⟨96,[(3,.I n),(4,.pv (gC g)),(6,.pv [.I x]),(8,.pt 40 0 0),(12,AA L)],[(40,some zG)],1000⟩ ?_ ?_)
 .simp
  refine CV hy ?_;simp;exact AF [(40,40)] [824] (by simp[AB,Cz])
 refine AC (Dw ⟨96,[(3,.I n),(4,.pv (gC g)),(6,.pv [.I x]),(8,.pt 40 0 0),(12,AA L),(50,.B (decide ((L.length:Int)<n)))],[(40,some zG)],1100⟩ [(40,40)] [] ?_);refine AE _ rfl (λ h9=>?_) λ h9=>?_
 .rw [Qd] at h9
  rw[if_pos h9] at h0;refine arc ⟨96,[(8,.pt 40 0 0),(9,.nilS),(10,.I 3)],[(40,some zG)],1200⟩ ?_ ?_
  .simp [Ay]
   exact Bk [(40,40)] []
  exact A9 (h5 3 _ h0)
 rw[Qa] at h9;rw[if_neg h9] at h0;obtain⟨N,rfl⟩:∃ N:Nat,n=N:=⟨n.toNat,by omega⟩
 rw[Uu] at h0;obtain⟨l,ho⟩:=AG (L.take N);rw[<- ho] at h0;have av:l.length=N:=by rw[ho,QV];omega
 have c2:N<=64:=by omega
 have hd:Hg g p x l:=by rw[ho,hz];exact NZ _
 have b1:AM g 0=g:=cQ hg;have a7:=w9 g 0 b1 (by omega) (by omega)
 refine AJ (arc ⟨96,[(3,.I N),(4,.pv (gC g)),(6,.pv [.I x]),(8,.pt 40 0 0),(12,AA l)],[(40,some zG)],1300⟩ ?_ ?_)
 .simp
  refine⟨by omega,?_⟩
  exact AF [(40,40)] [] (by simp[ho];exact List.map_take ▸ .refl _)
 apply ax [3,6,8,12,13] [(40,40),(1316,50),(1308,60)] [] 1400
 .simp
  refine CV a7 ?_;simp[Ay,AB];rfl
 refine ar [3,6,8,12,13,14] [(40,40),(50,50),(60,60)] [] 1500 ?_;refine AC (ar [3,6,8,12,13,14,58,59,60] [(40,40),(50,50),(60,60)] [] 1600 ?_);have a8:D0 g x l 0=g.edges:=by simp[D0]
 refine AL (Ae (ι:=Nat) (λ i=>⟨96,[(3,.I N),(6,.pv [.I x]),(8,.pt 40 0 0),(12,AA l),(13,.pt 50 0 0),(14,.fn (.func 54) [] [.pt 50 0 0]),(58,AA l),(59,.I l.length),(60,.I i)],[(40,some zG),(50,some (FV g.size g.gone 60 (D0 g x l i).length)),(60,some ⟨3,A3 (D0 g x l i),0⟩)],1700⟩) (λ i=>i<=l.length) (λ i=>l.length - i) 0 (Qh _) (AF [(40,40),(50,50),(60,60)] [] (by simp[a8]) (by simp[a8,AB])) ?_)
 intro i hi;have b2:=Nj g x l i;refine ar [3,6,8,12,13,14,58,59,60,61] [(40,40),(50,50),(60,60)] [] 1800 ?_;refine AC (AE _ rfl (λ hf=>?_) λ hf=>?_)
 .rw [Qd] at hf
  have h3:=WZ g x l i;obtain⟨k,hk⟩:=AG (l.getD i 0);have b3:l[i]=k:=by rw[hk,Qe,Qc hf,QB]
  have a9:=w6 (x:=(i:Int)+1);obtain⟨F,hF⟩:=AG (D0 g x l i);rw[<- hF] at h3 b2 ⊢;have b4:D7 x l i=[⟨x,k,3⟩,⟨k,x,3⟩]++(if 1<l.length then [⟨k,l.getD ((i+1) % l.length) 0,3⟩] else []):=by rw[hk];rfl
  rw[b4] at h3;refine AJ (Ao ⟨96,[(3,.I N),(6,.pv [.I x]),(8,.pt 40 0 0),(12,AA l),(13,.pt 50 0 0),(14,.fn (.func 54) [] [.pt 50 0 0]),(58,AA l),(59,.I l.length),(60,.I i)],[(40,some zG),(50,some (FV g.size g.gone 60 (D0 g x l (i+1)).length)),(60,some ⟨3,A3 (D0 g x l (i+1)),0⟩)],4000⟩ ?_ ?_)
  .refine AL ?_
   apply ax [3,6,8,12,13,14,15,16,58,59,60] [(40,40),(50,50),(60,60)] [] 2000
   .simp [hf,b3]
    rfl
   apply ax [3,6,8,12,13,14,15,16,58,59,60] [(40,40),(50,50),(2024,60)] [] 2200
   .simp
    refine HP (i:=50) (j:=60) (by decide) rfl rfl (e1':=FV g.size g.gone 1 F.length) (e2':=⟨3,A3 F,0⟩) (by simp) (by simp[AB]) (Nd g.size g.gone x k F _ rfl (by omega)) (by simp) (by simp) ?_
    simp[AB];rfl
   refine arc ⟨96,[(3,.I N),(6,.pv [.I x]),(8,.pt 40 0 0),(12,AA l),(13,.pt 50 0 0),(14,.fn (.func 54) [] [.pt 50 0 0]),(15,.I i),(16,.I k),(58,AA l),(59,.I l.length),(60,.I i)],[(40,some zG),(50,some (FV g.size g.gone 60 (F.length+1+1))),(60,some ⟨3,A3 (F++[⟨x,k,3⟩]++[⟨k,x,3⟩]),0⟩)],2400⟩ ?_ ?_
   .simp
    refine HP (i:=50) (j:=60) (by decide) rfl rfl (e1':=FV g.size g.gone 1 (F.length+1)) (e2':=⟨3,A3 (F++[⟨x,k,3⟩]),0⟩) (by simp) (by simp[AB]) (Nd g.size g.gone k x (F++[⟨x,k,3⟩]) _ (by simp) (by omega)) (by simp) (by simp) ?_
    simp[AB];exact Av [(40,40),(50,50),(2224,60)] []
   obtain⟨F2,hq⟩:=AG (F++[⟨x,k,3⟩]++[⟨k,x,3⟩]);have ad:F.length+1+1=F2.length:=by rw[hq];simp
   rw[<- hq,ad];refine ar [3,6,8,12,13,14,15,16,58,59,60,74] [(40,40),(50,50),(60,60)] [] 2600 ?_;refine AE _ rfl (λ a0=>?_) λ a0=>?_
   .rw [Qd] at a0
    rw[if_pos (by omega),<- Qu,show F++[⟨x,k,3⟩,⟨k,x,3⟩]=F2 by rw[hq];simp] at h3
    have hv:((i:Int)+1).tmod (N:Int)=(((i+1) % l.length:Nat):Int):=by rw[av];exact(Int.ofNat_tmod (i+1) N).symm
    have hj:(i+1) % l.length<l.length:=Uf _ (by omega)
    obtain⟨j,b5⟩:=AG ((i+1) % l.length);rw[<- b5] at hv hj h3;have a1:l[j]=l.getD j 0:=by rw[Qe,Qc hj,QB]
    obtain⟨k2,b6⟩:=AG (l.getD j 0);rw[<- b6] at a1 h3;have bf:¬ N=0:=by omega
    refine Ac rfl ?_;simp[a9,hv,hj,a1];refine⟨_,⟨bf,rfl⟩,?_⟩;simp[hj,a1];refine HP (i:=50) (j:=60) (by decide) rfl rfl (e1':=FV g.size g.gone 1 F2.length) (e2':=⟨3,A3 F2,0⟩) (by simp) (by simp[AB]) (Nd g.size g.gone k k2 F2 _ rfl (by omega)) (by simp) (by simp) ?_
    simp[AB];exact AF [(40,40),(50,50),(2672,60)] [] (by simp[h3]) (by simp[h3,AB])
   .rw [Qa] at a0
    rw[if_neg (by omega),QW,show F++[⟨x,k,3⟩,⟨k,x,3⟩]=F2 by rw[hq];simp] at h3
    exact AJ (AF [(40,40),(50,50),(60,60)] [] (by simp[h3]) (by simp[h3,AB]))
  refine Ac rfl ?_;simp;exact⟨i+1,by omega,by omega,AF [(40,40),(50,50),(60,60)] [] (by simp[a9]) (by simp[AB])⟩
 rw[Qa] at hf;obtain rfl:i=l.length:=by omega
 have ag:D0 g x l l.length=g.edges++DS x l:=rfl;refine Aa (hit (AC ?_));obtain⟨A,hA⟩:=AG (g.edges++DS x l);rw[ag,<- hA];have bo:g.edges.length+(DS x l).length=A.length:=by rw[hA,Qg]
 have c3:A.length<=1000000:=by rw[hA,<- ag];have:=Nj g x l l.length;omega
 rw[bo] at h0;refine ar [8,12,13,89] [(40,40),(50,50),(60,60)] [] 5000 ?_;refine AE _ rfl (λ a2=>?_) λ a2=>?_
 .rw [Qd] at a2
  rw[if_pos (by omega)] at h0
  apply ax [8,9,10] [(40,40)] [] 5100
  .simp [Ay]
   rfl
  exact A9 (h5 3 _ h0)
 rw[Qa] at a2;rw[if_neg (by omega)] at h0
 have bs:A.Pairwise HF:=by
  rw[hA,Vn];refine⟨hg.pair.imp λ {a b} h=>?_,Wh hd.nodup λ h=>hd.ne x h rfl,λ a ha b hb=>?_⟩
  .unfold Bd at h;unfold HF;omega
  .have h1:=(Kf hb).2
   rintro⟨e1,e2⟩
   rcases h1 with ⟨_,h⟩ | ⟨_,h⟩ | ⟨h,_⟩
   .exact (hd.edge _ h a ha).2 e2
   .exact (hd.edge _ h a ha).1 e1
   .exact (hd.edge _ h a ha).1 e1
 have bt:A≠[]:=by
  have h1:0<l.length:=by omega
  have h2:=zw1 (x:=x) (l:=l) (Qj h1);intro h;rw[hA,List.append_eq_nil_iff] at h;rw[h.2] at h2;exact Ub h2
 have hh:=vJ A bt (by omega) bs
 have am:DG g x l=⟨g.size,Gl A,g.gone⟩:=by rw[hA];rfl
 have a3:(Gl A).length=A.length:=(Jl A).length_eq;obtain⟨Z,hZ⟩:=AG (Gl A);rw[<- hZ] at hh am a3;have c0:∀ f:Ed->List AV,List.take A.length (List.map f Z)=List.map f Z:=λ f=>Qb (by simp[a3])
 refine AJ ?_;apply ax [8,12,13] [(40,40),(50,50),(60,60)] [] 6000
 .simp
  refine Cq (i:=60) rfl (by simp[AB]) hh (by simp) (by simp) ?_
  simp[AB];rfl
 refine arc ⟨96,[(8,.pt 40 0 0),(9,AA l),(10,.I 0)],[(40,some ⟨3,[[.I g.size,CB Z,AA g.gone]],0⟩)],7000⟩ ?_ ?_
 .simp [Ay]
  exact AF [(40,40)] [60] (by simp) (by simp[AB,Ay,c0,a3])
 refine BG ?_;rw[h0,am];exact⟨.inr rfl,AS.out [] [40] rfl (by simp) (by simp) (Hx (by simp) (.refl _) (.refl _)) (by simp)⟩
theorem Mw {g:Gr} (hg:AI g) (p:Al):(AY (AM g p.lv) p.seeds).length<=64:=by
 have h1:=hg.1.1;have h0:=hg.1.2.1;have hr:∀ x∈AY (AM g p.lv) p.seeds,0<=x/\x<g.size:=λ x hx=>by have h:=IA hx;exact h
 have:=Gw (b:=(List.range g.size.toNat).map λ i:Nat=>(i:Int)) (Gj (AM g p.lv) p.seeds) λ x hx=>by
  have:=hr x hx;exact Qi.2 ⟨x.toNat,Qy.2 (by omega),by omega⟩
 rw[Qr,UB] at this;omega
end Go.Proofs.YtkngdgplbojdlaaGreat
namespace Go.Proofs.YtkngdgplbojdlaaGreat
open Go
abbrev GO (g:Gr) (p:Al):List Int:=AR g p (AY (AM g p.lv) p.seeds)
theorem Xc {g:Gr} (hg:AI g) (p:Al):(GO g p).length<=64:=QH (Ob _) (Mw hg p)
def Tl (N:Nat) (l a:List Int):Nat:=(CU N λ k=>decide (k∈l) && decide (k∈a)).length
def Ld (N:Nat) (l a:List Int):Nat:=(CU N λ k=>decide (k∈l) && !decide (k∈a)).length
def JR (g:Gr) (p:Al) (x n:Int):Int × Int × Int :=
 if (FX g p x n).2.2≠0 then (0,0,(FX g p x n).2.2)
 else ((Tl g.size.toNat (FX g p x n).2.1 (GO (FX g p x n).1 p):Int),(Ld g.size.toNat (GO g p) (GO (FX g p x n).1 p):Int),0)
theorem pI {g:Gr} {p:Al} {x n:Int} (h:(FX g p x n).2.2=0) :
  AI g/\BT g.size p/\(0<=x/\x<g.size)/\x∉g.gone/\1<=n /\ ∃ l,l=(HA g p x).take n.toNat/\(l.length:Int)=n/\Hg g p x l/\AI (DG g x l)/\FX g p x n=(DG g x l,l,0):=by
 have h6:=Jo (g:=g) (p:=p);unfold FX at h ⊢
 by_cases h1:Co g p≠0
 .rw [if_pos h1] at h;exact absurd h h1
 rw[if_neg h1] at h ⊢
 by_cases h2:¬ (0<=x/\x<=g.size - 1)∨x∈g.gone
 .rw [if_pos h2] at h;cases h
 rw[if_neg h2] at h ⊢
 by_cases h3:n<1
 .rw [if_pos h3] at h;cases h
 rw[if_neg h3] at h ⊢
 by_cases h4:((HA g p x).length:Int)<n
 .rw [if_pos h4] at h;cases h
 rw[if_neg h4] at h ⊢
 by_cases h5:500<g.edges.length+(DS x ((HA g p x).take n.toNat)).length
 .rw [if_pos h5] at h;cases h
 rw[if_neg h5] at h ⊢;obtain⟨hg,hp⟩:=h6.1 (Q6 h1)
 have hx:0<=x/\x<g.size:=by
  have:¬ ¬ (0<=x/\x<=g.size - 1):=λ h=>h2 (.inl h);omega
 have h0:x∉g.gone:=λ h=>h2 (.inr h);refine⟨hg,hp,hx,h0,by omega,_,rfl,?_,NZ _,Xa hg (NZ _) hx h0 (by omega),rfl⟩
 rw[QV];omega
theorem cN (l acc f:List Int) (R:List (Int × List Int)) (k:Int) (hl:l.length<=1000000) (ha:acc.length<=1000000):AcP 60 [.I k,.pv [AA l],.pv [AA acc,AA f,.vs 2 false (Dv R)]] [] (.B (decide (k∈l) && decide (k∈acc))) []:=by
 refine k7.s.ai ?_;refine rs [0,1,2] [] [] ?_;refine arc ⟨13,[(4,.B (decide (k∈l) && decide (k∈acc)))],[],200⟩ ?_ ?_
 .simp
  refine Aj (Ht l k (by omega)) ?_
  by_cases h:k∈l
  .simp [h]
   refine Aj (LH acc f R k (by omega)) ?_
   simp;exact Bk [] []
  .simp [h]
   exact Bk [] []
 exact Bl
theorem jY (a1 f1 a2 f2:List Int) (R1 R2:List (Int × List Int)) (k:Int) (h1:a1.length<=1000000) (h2:a2.length<=1000000):AcP 61 [.I k,.pv [AA a1,AA f1,.vs 2 false (Dv R1)],.pv [AA a2,AA f2,.vs 2 false (Dv R2)]] [] (.B (decide (k∈a1) && !decide (k∈a2))) []:=by
 refine kL.s.ai ?_;refine rs [0,1,2] [] [] ?_;refine arc ⟨14,[(4,.B (decide (k∈a1) && !decide (k∈a2)))],[],200⟩ ?_ ?_
 .simp
  refine Aj (LH a1 f1 R1 k (by omega)) ?_
  by_cases h:k∈a1
  .simp [h]
   refine Aj (LH a2 f2 R2 k (by omega)) ?_
   simp;exact Bk [] []
  .simp [h]
   exact Bk [] []
 exact Bl
theorem LI {g:Gr} {p:Al} (hg:AI g) (hp:BT g.size p):p.seeds.length<=64:=by
 have:=Gw (a:=p.seeds) (b:=(List.range 64).map Int.ofNat) hp.2.1.nodup.1 λ x hx=>by
  have h1:=hp.2.1.nodup.2 x hx;have h2:=hg.1.2.1;exact Qi.2 ⟨x.toNat,Qy.2 (by omega),by simp;omega⟩
 simpa using this
theorem xD (g:Gr) (p:Al) (x n:Int) (hl:g.edges.length<=1000000) (hj:g.gone.length<=1000000) (hs:p.seeds.length<=1000000) (ht:p.table.length<=1000000) (hN:AI g->g.size<20) :
  AcP 21 [eG g,eP p,.I x,.I n] [] (.tup [.I (JR g p x n).1,.I (JR g p x n).2.1,.I (JR g p x n).2.2]) []:=by
 refine pX.s.ai ?_;have h9:=Xo g p x n hl hj hs ht;have h6:=pI (g:=g) (p:=p) (x:=x) (n:=n);generalize h0:JR g p x n=res;unfold JR at h0;replace h0:=h0.symm;generalize FX g p x n=r at *;obtain⟨h,l,e⟩:=r;simp only at *;refine ar [2,3,4,5] [] [16,24] 100 ?_;apply ax [4,5,11,12,13] [] [172,180] 300
 .simp
  refine Aj h9 ?_;simp[Ay];rfl
 refine AC (arc ⟨56,[(4,.pv (gC g)),(5,.pv (pC p)),(11,.pv (gC h)),(12,.pv [AA l]),(13,.I e),(30,.B (decide (e≠0)))],[],400⟩ ?_ ?_)
 .simp
  exact AF [] [] (by simp<;>exact Aw (by rw[Qp];simp))
 refine AE _ rfl (λ h4=>?_) λ h4=>?_
 .rw [Qd] at h4
  rw[if_pos h4] at h0;refine ar [8,9,10] [] [] 500 ?_;refine BG ?_;rw[h0];exact⟨.inr rfl,AS.out [] [] rfl (by simp) (by simp) (Hx (.refl _) (.refl _) (.refl _)) (by simp)⟩
 rw[Qa] at h4;rw[if_neg h4] at h0;obtain⟨hg,hp,hx,a0,a3,l',a4,a5,hd,ha,hk⟩:=h6 (Q6 h4);injection hk with e1 e2;injection e2 with e2 e3;subst e2 e3;have ho:BT h.size p:=by rw[e1];exact hp
 rw[<- e1] at ha;have hq:h.size=g.size:=by rw[e1];rfl
 have hz:l.length<=64:=by
  have:=Gw (a:=l) (b:=(List.range 64).map Int.ofNat) hd.nodup λ x hx=>by
   have h1:=hd.rng x hx;have h2:=hg.1.2.1;exact Qi.2 ⟨x.toNat,Qy.2 (by omega),by simp;omega⟩
  simpa using this
 have h7:=LI hg hp;obtain⟨f1,a6,h3⟩:=Mz g p hg hp h7 (hN hg);obtain⟨f2,a7,h5⟩:=Mz h p ha ho h7 (by rw[hq];exact hN hg)
 have he:=Xc hg p;have hf:=Xc ha p;simp only[GO] at he hf h0;obtain⟨a1,hb⟩:∃ a,a=AR g p (AY (AM g p.lv) p.seeds):=⟨_,rfl⟩;obtain⟨a2,hc⟩:∃ a,a=AR h p (AY (AM h p.lv) p.seeds):=⟨_,rfl⟩;obtain⟨R1,hu⟩:∃ R,R=B9 g p (AY (AM g p.lv) p.seeds):=⟨_,rfl⟩;obtain⟨R2,hv⟩:∃ R,R=B9 h p (AY (AM h p.lv) p.seeds):=⟨_,rfl⟩;rw[<- hb,<- hu] at h3;rw[<- hc,<- hv] at h5;rw[<- hb] at he;rw[<- hc] at hf;rw[<- hb,<- hc] at h0;have hh:=KK 60 [.pv [AA l],.pv [AA a2,AA f2,.vs 2 false (Dv R2)]] (λ k=>decide (k∈l) && decide (k∈a2)) g.size (by have:=hg.1.2.1;omega) (λ ρ sn h k=>by simp) λ k _=>cN l a2 f2 R2 k (by omega) (by omega)
 have hi:=KK 61 [.pv [AA a1,AA f1,.vs 2 false (Dv R1)],.pv [AA a2,AA f2,.vs 2 false (Dv R2)]] (λ k=>decide (k∈a1) && !decide (k∈a2)) g.size (by have:=hg.1.2.1;omega) (λ ρ sn h k=>by simp) λ k _=>jY a1 f1 a2 f2 R1 R2 k (by omega) (by omega)
 unfold Tl Ld at h0;obtain⟨W1,hw⟩:∃ W,W=CU g.size.toNat λ k=>decide (k∈l) && decide (k∈a2):=⟨_,rfl⟩;obtain⟨W2,hy⟩:∃ W,W=CU g.size.toNat λ k=>decide (k∈a1) && !decide (k∈a2):=⟨_,rfl⟩;rw[<- hw] at hh h0;rw[<- hy] at hi h0;refine AJ ?_;apply ax [4,5,11,12,14] [] [448] 600
 .simp
  refine Aj h3 ?_;simp[Ay];rfl
 apply ax [4,12,14,16] [] [648] 700
 .simp
  refine Aj h5 ?_;simp[Ay];rfl
 apply ax [4,14,16,18] [] [724] 800
 .simp
  refine CV hh ?_;simp;rfl
 apply ax [18,19] [] [824] 900
 .simp
  refine CV hi ?_;simp;rfl
 refine ar [8,9,10] [] [] 1000 ?_;refine BG ?_;rw[h0];exact⟨.inr rfl,AS.out [] [] rfl (by simp) (by simp) (Hx (.refl _) (.refl _) (.refl _)) (by simp)⟩
theorem lK {g:Gr} {salt:ByteArray} (hg:AI g) (h9:g.size<=12) (hs:salt.size<=100000):Kq g salt:=by
 refine⟨by have:=hg.edges_le;omega,hs,λ k=>?_⟩
 have hn:(Bb g.edges k).Nodup:=NP (zv6 _ _)
 have:=Gw (b:=(List.range 12).map λ i:Nat=>(i:Int)) hn λ x hx=>by
  obtain⟨e,he,h⟩:=M7.1 hx;have hf:=hg.fits e he;unfold BO at hf;refine Qi.2 ⟨x.toNat,Qy.2 ?_,?_⟩
  .rcases h with ⟨_,h⟩ | ⟨_,h⟩<;>omega
  .rcases h with ⟨_,h⟩ | ⟨_,h⟩<;>omega
 simpa using this
abbrev BV (acc f:List Int) (R:List (Int × List Int)):AV:=.pv [AA acc,AA f,.vs 2 false (Dv R)]
theorem m7 (acc f:List Int) (R:List (Int × List Int)) (k:Int) (hl:acc.length<=140737488355328):AcP 42 [.I k,BV acc f R] [] (.B (!decide (k∈acc))) []:=by
 refine nY.s.ai ?_;refine ar [0,1] [] [] 50 ?_;apply ax [3] [] [] 100
 .simp
  refine Aq (LH acc f R k hl) (by simp[AB]) ?_
  simp;rfl
 exact Bl
theorem zqS (g:Gr) (p:Al) (salt:ByteArray) (n r:Int) (hg:AI g) (hp:BT g.size p) (bf:g.size<=12) (bo:salt.size<=100000) (bs:1<=n) (bt:n<=100) (a8:1<=r) (a9:r<=5) :
  AcP 14 [eG g,eP p,sB salt,.I n,.I r] [] (.tup [D6 (FH g p salt n r),.I 0]) []:=by
 refine PI.s.ai ?_;have hh:=LI hg hp;have c0:p.table.length<=8:=hp.2.2.2.1;have d7:=hg.edges_le;have dd:=hg.gone_le;have df:=hg.1.1;obtain⟨f,_,h3⟩:=Mz g p hg hp hh (by omega)
 have hj:=Kp g p.lv (by omega) (by omega)
 have h4:=Nu (AM g p.lv) p.seeds (hg.level p.lv) (by omega)
 have h6:=Oe (g:=AM g p.lv) (S:=p.seeds) (hg.level p.lv) (show g.size<20 by omega) (by omega)
 have ho:=gD g p r hg hp (by omega) a8 a9 hh c0
 have hz:(Bj (AM g p.lv) p.seeds).length=g.size.toNat:=KE
 have a0:∀ (x:Nat) (h:x<(Bj (AM g p.lv) p.seeds).length),(Bj (AM g p.lv) p.seeds)[x]=AN (AM g p.lv) p.seeds x:=λ x h=>by
  have:=zlH (g:=AM g p.lv) (S:=p.seeds) (k:=x) (show x<g.size.toNat by omega)
  rw[<- this,List.getD,Qc h];rfl
 rw[show (AM g p.lv).size.toNat=(Bj (AM g p.lv) p.seeds).length from hz.symm] at h4
 have hq:=lK hg bf bo;have ad:∀ k∈Dk g p,0<=k/\k<g.size:=λ k hk=>IA (g:=AM g p.lv) hk;have ag:(Dk g p).length<=64:=Mw hg p
 have am:(Es g p).length<=64:=by
  have:(Es g p).Sublist (Dk g p):=IC _ _ rfl;exact QH this.length_le ag
 have an:(Dc g p).length<=g.size.toNat:=Ig _ _;have c1:=SS g p r;have a1:(EV (AM g p.lv) p.seeds r).2=0->DK g p r=(EV (AM g p.lv) p.seeds r).1:=λ h=>if_pos h;have a2:(EV (AM g p.lv) p.seeds r).2≠0->DK g p r=List.replicate g.size.toNat 0:=λ h=>if_neg h;have a3:=λ a b=>qT g p.lv a b hg;have a4:∀ x,Ea g p.lv x x=0:=λ x=>Sg;have h0:=λ R=>KK 42 [BV (Es g p) f R] (λ x=>!decide (x∈Es g p)) g.size (by omega) (λ _ _ _ _=>by simp[AB]) λ k _=>m7 (Es g p) f R k (by omega)
 have hu:=λ x=>bC hq x n (Dc g p) (by omega)
 have h7:=λ R x=>LH (Es g p) f R x (by omega)
 have au:FH g p salt n r=(Dk g p).map (GC g p salt n r):=rfl;have h1:∀ x,GC g p salt n r x=⟨x,AN (AM g p.lv) p.seeds x,Ea g p.lv ((Dk g p).headD 0) x,Di g.edges salt x n (Dc g p),(DK g p r).getD x.toNat 0,decide (x∈Es g p)⟩:=λ _=>rfl;change AK _ _ _ _ (.tup [Fl (Es g p) f (B9 g p (Dk g p)),.I 0]) [] at h3;change AK _ _ _ _ (.rs 0 0 (Dk g p).length) [some ⟨1,AD (Dk g p),0⟩] at h6;change ∀ R,AK _ _ _ _ (.rs 0 0 (Dc g p).length) [some ⟨1,AD (Dc g p),0⟩] at h0;rw[au];obtain⟨ρ,hρ⟩:=AG (GC g p salt n r);rw[<- hρ] at h1 ⊢;obtain⟨R,hR⟩:=AG (B9 g p (Dk g p));rw[<- hR] at h3;replace h0:=h0 R;replace h7:=λ x=>h7 R x;obtain⟨S1,av⟩:∃ S,S=(EV (AM g p.lv) p.seeds r).1:=⟨_,rfl⟩;obtain⟨S2,a5⟩:∃ S,S=(EV (AM g p.lv) p.seeds r).2:=⟨_,rfl⟩;rw[<- av,<- a5] at ho;rw[<- av,<- a5] at a1;rw[<- a5] at a2;obtain⟨D,hD⟩:=AG (Bj (AM g p.lv) p.seeds);rw[<- hD] at h4 hz;simp only[<- hD] at a0;obtain⟨O,hO⟩:=AG (Dk g p);rw[<- hO] at ad ag h6 ⊢;simp only[<- hO] at h1;obtain⟨A,hA⟩:=AG (Es g p);simp only[<- hA] at h3 h0 h7 h1 am;obtain⟨Z,hZ⟩:=AG (Dc g p);simp only[<- hZ] at h0 hu h1 an;obtain⟨W,hW⟩:=AG (DK g p r);simp only[<- hW] at c1 a1 a2 h1;obtain⟨V,hV⟩:=AG (AM g p.lv);have dn:V.size=g.size:=by rw[hV];rfl
 rw[<- hV] at hj h4 h6;simp only[<- hV] at a0 h1;have c2:∀ f:Int->List AV,(D.map f).take D.length=D.map f:=λ f=>Qb (by simp)
 have b1:∀ f:Int->List AV,(O.map f).take O.length=O.map f:=λ f=>Qb (by simp)
 have c3:∀ f:Int->List AV,(Z.map f).take Z.length=Z.map f:=λ f=>Qb (by simp)
 have b2:AcP 37 [.I n,.I 1,.I 100] [] (.B true) []:=by
  have:=Ev n 1 100
  rwa [show (decide (1<=n) && decide (n<=100))=true by simp[bs,bt]] at this
 have b3:AcP 37 [.I r,.I 1,.I 5] [] (.B true) []:=by
  have:=Ev r 1 5
  rwa [show (decide (1<=r) && decide (r<=5))=true by simp[a8,a9]] at this
 clear hq hz
 refine ar [2,3,4,5,6] [] [16,24] 50 ?_;apply ax [2,3,4,5,6,12,13] [] [98] 200
 .simp
  refine Aj h3 ?_;simp[Ay];rfl
 refine AC (AL (ar [2,3,4,5,6,12,29] [] [] 300 ?_));refine AE _ rfl (λ h=>by cases h) λ _=>?_
 apply ax [2,3,4,5,6,12,33] [] [] 400
 .simp
  refine Aj b2 ?_;simp;refine Aj b3 ?_;simp;rfl
 refine AE _ rfl (λ h=>by cases h) λ _=>?_
 refine AJ ?_;apply ax [2,3,4,5,6,12,14] [] [432] 500
 .simp
  refine Aj hj ?_;simp[Ay];rfl
 refine arc ⟨115,[(2,sB salt),(3,.I n),(4,.I r),(5,.pv (gC g)),(6,.pv (pC p)),(12,BV A f R),(14,.pv (gC V)),(15,AA D)],[],600⟩ ?_ ?_
 .simp
  refine CV h4 ?_;simp;exact AF [] [524] (by simp[AB,c2])
 refine arc ⟨115,[(2,sB salt),(3,.I n),(5,.pv (gC g)),(6,.pv (pC p)),(12,BV A f R),(13,.I S2),(14,.pv (gC V)),(15,AA D),(16,AA S1)],[],700⟩ ?_ ?_
 .simp
  refine Aj ho ?_;simp;exact BF [] []
 refine Ao ⟨115,[(2,sB salt),(3,.I n),(5,.pv (gC g)),(6,.pv (pC p)),(12,BV A f R),(14,.pv (gC V)),(15,AA D),(16,AA W)],[],1000⟩ ?_ ?_
 .refine arc ⟨115,[(2,sB salt),(3,.I n),(5,.pv (gC g)),(6,.pv (pC p)),(12,BV A f R),(14,.pv (gC V)),(15,AA D),(16,AA S1),(58,.B (decide (S2≠0)))],[],800⟩ ?_ ?_
  .simp
   exact AF [] [] (by simp[AB]<;>exact Aw (by rw[Qp];simp))
  refine AE _ rfl (λ h=>?_) λ h=>?_
  .rw [Qd] at h
   rw[a2 h];refine Ac rfl ?_;simp;refine⟨by omega,by omega,by omega,?_⟩
   exact AF [] [816] (by simp[AB]<;>exact GI (by show AV.vs 1 false _=AV.vs 1 false _;rw[List.map_replicate]))
  .rw [Qa] at h
   rw[a1 (Decidable.not_not.1 h)];exact AJ (BF [] [])
 refine arc ⟨115,[(2,sB salt),(3,.I n),(5,.pv (gC g)),(6,.pv (pC p)),(12,BV A f R),(14,.pv (gC V)),(15,AA D),(16,AA W),(17,AA Z)],[],1100⟩ ?_ ?_
 .simp
  refine E2 h0 (by simp[AB]) ?_
  simp;exact AF [] [1024] (by simp[AB,c3])
 refine Dw ⟨115,[(2,sB salt),(3,.I n),(5,.pv (gC g)),(6,.pv (pC p)),(12,BV A f R),(14,.pv (gC V)),(15,AA D),(16,AA W),(17,AA Z),(18,.nilS)],[],1200⟩ [] [] ?_;refine arc ⟨115,[(2,sB salt),(3,.I n),(5,.pv (gC g)),(6,.pv (pC p)),(12,BV A f R),(15,AA D),(16,AA W),(17,AA Z),(18,.nilS),(19,AA O)],[],1300⟩ ?_ ?_
 .simp
  refine CV h6 ?_;simp;exact AF [] [1224] (by simp[AB,b1])
 refine AC (Dw ⟨115,[(2,sB salt),(3,.I n),(5,.pv (gC g)),(6,.pv (pC p)),(12,BV A f R),(15,AA D),(16,AA W),(17,AA Z),(18,.nilS),(19,AA O),(70,AA O),(71,.I O.length),(72,.I (0:Nat))],[],1400⟩ [] [] ?_);refine AL ?_
 refine Ae (ι:=Nat) (λ i=>⟨115,[(2,sB salt),(3,.I n),(5,.pv (gC g)),(6,.pv (pC p)),(12,BV A f R),(15,AA D),(16,AA W),(17,AA Z),(18,.rs 40 0 i),(19,AA O),(70,AA O),(71,.I O.length),(72,.I i)],[(40,some ⟨6,Gk ((O.take i).map ρ),0⟩)],1400⟩) (λ i=>i<=O.length) (λ i=>O.length - i) 0 (Qh _)
  (Le.lst [] [] [(40,6)] rfl (by simp) (by simp) (by simp) (by simp) (by simp) (by simp) (by simp) (by simp[Up,AB]) (by simp)) ?_
 intro i hi;refine Dw ⟨115,[(2,sB salt),(3,.I n),(5,.pv (gC g)),(6,.pv (pC p)),(12,BV A f R),(15,AA D),(16,AA W),(17,AA Z),(18,.rs 40 0 i),(19,AA O),(70,AA O),(71,.I O.length),(72,.I i),(73,.B (decide (i<O.length)))],[(40,some ⟨6,Gk ((O.take i).map ρ),0⟩)],1500⟩ [(40,40)] [] ?_;refine AC (AE _ rfl (λ h=>AJ ?_) λ h=>Aa (hit ?_))
 .rw [Qd] at h
  have c4:=wq (k:=i);have he:(O.take (i+1)).map ρ=(O.take i).map ρ++[ρ O[i]]:=by rw[Qm h,QT];rfl
  obtain⟨cb,cd⟩:=ad O[i] (Qj h);obtain⟨x,hx⟩:∃ x:Nat,O[i]=(x:Int):=⟨O[i].toNat,by omega⟩
  rw[hx] at he cb cd;have ck:(O.map λ n=>[AV.I n])[i]? = some [AV.I x]:=by rw[QA,Qc h,<- hx];rfl
  obtain⟨o,O',b4⟩:∃ o O',O=o::O':=by
   cases hc:O with
   | nil=>rw[hc] at h;simp at h
   | cons a b=>exact⟨a,b,rfl⟩
  have b5:(O.map λ n=>[AV.I n])[0]? = some [AV.I o]:=by rw[b4];rfl
  have cl:O.headD 0=o:=by rw[b4];rfl
  have h2:=h1 x;rw[cl,Uu] at h2;have h9:x<D.length:=by rw[hD,KE];show x<g.size.toNat;omega
  have ha:x<W.length:=by omega
  have cp:=a0 x h9;rw[<- cp] at h2;rw[Qe,Qc ha,QB] at h2;have a6:(D.map λ n=>[AV.I n])[x]? = some [AV.I D[x]]:=by rw[QA,Qc h9];rfl
  have a7:(W.map λ n=>[AV.I n])[x]? = some [AV.I W[x]]:=by rw[QA,Qc ha];rfl
  obtain⟨d,hd⟩:=AG (D[x]);obtain⟨w,hw⟩:=AG (W[x]);rw[<- hd] at h2 a6;rw[<- hw] at h2 a7;have hv:=hu x;obtain⟨s,hs⟩:=AG (Di g.edges salt x n Z);rw[<- hs] at hv h2;have hy:=h7 x;obtain⟨b,hb⟩:=AG (decide ((x:Int)∈A));rw[<- hb] at hy h2;have b6:=a3 o x;have cq:=a4 x;obtain⟨m,hm⟩:=AG (Ea g p.lv o x);rw[<- hm] at b6 h2;have hf:((O.take i).map ρ).length=i:=by rw[Qr,QV];omega
  rw[h2] at he;obtain⟨T,hT⟩:=AG ((O.take i).map ρ);rw[<- hT] at hf he ⊢;have d0:∀ f:Rw->List AV,(T.map f).take i=T.map f:=λ f=>Qb (by simp[hf])
  refine Ao ⟨115,[(2,sB salt),(3,.I n),(5,.pv (gC g)),(6,.pv (pC p)),(12,BV A f R),(15,AA D),(16,AA W),(17,AA Z),(18,.rs 40 0 (i+1)),(19,AA O),(70,AA O),(71,.I O.length),(72,.I i)],[(40,some ⟨6,Gk (T++[⟨x,d,m,s,w,b⟩]),0⟩)],3000⟩ ?_ ?_
  .refine AL ?_
   apply ax [2,3,5,6,12,15,16,17,18,19,21,70,71,72] [(40,40)] [] 1600
   .simp [h,ck,hx]
    rfl
   refine CW ⟨115,[(2,sB salt),(3,.I n),(5,.pv (gC g)),(6,.pv (pC p)),(12,BV A f R),(15,AA D),(16,AA W),(17,AA Z),(18,.rs 40 0 i),(19,AA O),(21,.I x),(22,.pt 50 0 0),(70,AA O),(71,.I O.length),(72,.I i)],[(40,some ⟨6,Gk T,0⟩),(50,some ⟨6,[IN ⟨x,d,0,s,w,b⟩],0⟩)],1900⟩ ?_ ?_
   .simp [a6,a7,h9,ha]
    refine Aq hv (by simp[AB]) ?_
    simp[a6,a7,h9,ha];refine Aq hy (by simp[AB]) ?_
    simp[E7,Ay];exact⟨rfl,AF [(40,40),(1752,50)] [] (by simp[AB]) (by simp[AB,<- hd,<- hw])⟩
   refine Ao ⟨115,[(2,sB salt),(3,.I n),(5,.pv (gC g)),(6,.pv (pC p)),(12,BV A f R),(15,AA D),(16,AA W),(17,AA Z),(18,.rs 40 0 i),(19,AA O),(22,.pt 50 0 0),(70,AA O),(71,.I O.length),(72,.I i)],[(40,some ⟨6,Gk T,0⟩),(50,some ⟨6,[IN ⟨x,d,m,s,w,b⟩],0⟩)],2200⟩ ?_ ?_
   .refine arc ⟨115,[(2,sB salt),(3,.I n),(5,.pv (gC g)),(6,.pv (pC p)),(12,BV A f R),(15,AA D),(16,AA W),(17,AA Z),(18,.rs 40 0 i),(19,AA O),(21,.I x),(22,.pt 50 0 0),(70,AA O),(71,.I O.length),(72,.I i),(99,.B (decide ((x:Int)≠o)))],[(40,some ⟨6,Gk T,0⟩),(50,some ⟨6,[IN ⟨x,d,0,s,w,b⟩],0⟩)],2000⟩ ?_ ?_
    .simp [b5]
     exact AF [(40,40),(50,50)] [] (by simp[AB]<;>exact Aw (by rw[Qp];simp)) (by simp[AB])
    refine AE _ rfl (λ h5=>?_) λ h5=>?_
    .refine Cr rfl ?_
     simp[b5];refine Aj b6 ?_;simp[Ay];exact⟨rfl,BF [(40,40),(50,50)] []⟩
    .rw [Qa] at h5
     have d1:(x:Int)=o:=Decidable.not_not.1 h5;have d2:m=0:=by rw[hm,<- d1,cq]
     rw[d2];exact AJ (BF [(40,40),(50,50)] [])
   refine Ac rfl ?_;simp[Dn,hf];refine⟨by omega,by omega,?_⟩
   exact AF [(2224,40)] [50] (by simp[AB]) (by simp[AB,hf,d0])
  refine Ac rfl ?_;simp[c4,-List.map_take,-List.map_map];refine⟨i+1,by omega,by omega,?_⟩
  rw[he];exact BF [(40,40)] []
 rw[Qa] at h;obtain rfl:i=O.length:=by omega
 have d3:O.take O.length=O:=QO;rw[d3];have d4:∀ f:Int->List AV,(O.map f).take O.length=O.map f:=b1;refine ar [10,11] [(40,40)] [] 3200 ?_;refine BG ?_;exact⟨.inr rfl,AS.out [] [40] rfl (by simp) (by simp) (by simp[AB,d4]<;>exact GI (by show AV.tup [AV.vs 6 false _,_]=AV.tup [AV.vs 6 false (List.map IN (List.map ρ O)),_];rw[List.map_map];rfl)) (by simp)⟩
section
variable {used n c:Nat}
theorem qP (hc:c<=n):Cy used n=Cy used c++Fs used n c:=by
 unfold Cy Fs;rw[<- Ug]
 congr 1
 have e:List.range' 0 c++List.range' (0+c) (n - c)=List.range' 0 (c+(n - c)):=List.range'_append_1;rw[Q1,show c+(n - c)=n by omega] at e
 rw[UV,UV,e]
theorem lY (hc:c<n) (h:CR used c=true):(Cy (used ||| 2 ^ c) n).length+1=(Cy used n).length:=by
 rw[WL hc h,qP (Nat.le_of_lt hc),SM hc h];simp;omega
theorem WI:CR used c=true↔¬ used / 2 ^ c % 2=1:=by
 unfold CR;rw[Nat.testBit_eq_decide_div_mod_eq];simp
end
abbrev C7 (x:Int):Int:=IntKind.i64.wrap x
theorem JH (x:Int):∃ k,C7 x=x+18446744073709551616*k:=⟨((x+9223372036854775808) % 18446744073709551616 - 9223372036854775808 - x) / 18446744073709551616,by unfold C7;rw[IntKind.wrap_i64];omega⟩
theorem RO {x y:Int} (k:Int) (h:x=y+18446744073709551616*k):C7 x=C7 y:=by
 unfold C7;rw[IntKind.wrap_i64,IntKind.wrap_i64];omega
theorem Tu (a b:Int):C7 (a*C7 b)=C7 (a*b):=by
 obtain⟨k,hk⟩:=JH b;rw[hk];exact RO (a*k) (by grind)
theorem iR (a b:Int):C7 (C7 a*b)=C7 (a*b):=by
 rw[Int.mul_comm,Tu,Int.mul_comm]
theorem qH (a b:Int):C7 (C7 a+C7 b)=C7 (a+b):=by
 obtain⟨k,hk⟩:=JH a;obtain⟨l,hl⟩:=JH b;rw[hk,hl];exact RO (k+l) (by grind)
theorem JF (a:Nat) (h:a<9223372036854775808):(BitVec.ofInt 64 (a:Int)).toNat=a:=HU a (by omega)
theorem OW (a s:Nat) (hs:s<=64):AH .shr (.int .i64 (a:Int)) (.int .u64 (s:Int))=some (.int .i64 ((a / 2 ^ s:Nat):Int)):=by
 show (if (0:Int)<=s then some (Value.int .i64 ((a:Int).fdiv (2 ^ (min (s:Int).toNat 64)))) else none)=_
 rw[if_pos (by omega)]
 have:min (s:Int).toNat 64=s:=by omega
 have h0:(0:Int)<=2 ^ s:=by have:=Int.pow_pos (n:=2) (m:=s) (by omega);omega
 rw[this,QK _ h0]
 congr 2
theorem lN (a:Nat) (h:a<9223372036854775808):AH .and (.int .i64 (a:Int)) (.int .i64 1)=some (.int .i64 ((a % 2:Nat):Int)):=by
 have h2:(BitVec.ofInt 64 (1:Int)).toNat=2 ^ 1 - 1:=rfl;show some (Value.int .i64 (IntKind.i64.wrap ((BitVec.ofInt 64 (a:Int) &&& BitVec.ofInt 64 1).toNat:Int)))=_;rw[BitVec.toNat_and,JF a h,h2,Nat.and_two_pow_sub_one_eq_mod,w6]
theorem wX (a b:Nat) (ha:a<9223372036854775808) (hb:b<9223372036854775808) (h:a ||| b<9223372036854775808):AH .or (.int .i64 (a:Int)) (.int .i64 (b:Int))=some (.int .i64 ((a ||| b:Nat):Int)):=by
 show some (Value.int .i64 (IntKind.i64.wrap ((BitVec.ofInt 64 (a:Int) ||| BitVec.ofInt 64 (b:Int)).toNat:Int)))=_;rw[BitVec.toNat_or,JF a ha,JF b hb];obtain⟨z,hz⟩:=AG (a ||| b);rw[<- hz] at h ⊢;rw[w6]
theorem SX (c:Nat) (hc:c<=20):AH .shl (.int .i64 1) (.int .u64 (c:Int))=some (.int .i64 ((2 ^ c:Nat):Int)):=by
 show (if (0:Int)<=c then some (Value.int .i64 (IntKind.i64.wrap ((1:Int)*2 ^ (min (c:Int).toNat 64)))) else none)=_
 rw[if_pos (by omega)]
 have:min (c:Int).toNat 64=c:=by omega
 have h1:(2:Nat) ^ c<=2 ^ 20:=Nat.pow_le_pow_right (by omega) hc
 have h2:((2:Int) ^ c)=((2 ^ c:Nat):Int):=by simp
 rw[this,Int.one_mul,h2];obtain⟨z,hz⟩:∃ z:Nat,z=2 ^ c:=⟨_,rfl⟩;rw[<- hz] at h1 ⊢;rw[Jz (by omega) (by have:(2:Nat) ^ 20=1048576:=rfl;omega)]
abbrev Et (l:List Bool):List (List AV):=l.map λ b=>[AV.B b]
structure HL (A:BS) (n:Nat) (kn:List Int) (sn:List Bool):Prop where
 kl:kn.length=2 ^ n
 sl:sn.length=2 ^ n
 ok:∀ (u:Nat) (h:u<sn.length) (h2:u<kn.length),sn[u]=true->kn[u]=C7 (CI A n (n - (Cy u n).length) u)
theorem HL.put {A:BS} {n used:Nat} {kn:List Int} {sn:List Bool} (h:HL A n kn sn) {row:Nat} (hr:row=n - (Cy used n).length):HL A n (kn.set used (C7 (CI A n row used))) (sn.set used true):=by
 refine⟨by rw[Ur,h.kl],by rw[Ur,h.sl],λ u h1 h2 hs=>?_⟩
 rw[Ur] at h1 h2;rw[List.getElem_set] at hs ⊢
 by_cases hu:used=u
 .subst hu
  rw[if_pos rfl,hr]
 .rw [if_neg hu] at hs ⊢
  exact h.ok u h1 h2 hs
structure MQ where
 c:Nat
 kn:List Int
 sn:List Bool
section
variable (A:BS) (M:List (List Int)) (n:Nat) (hn:n<=8) (hM:M.length=n) (hA:∀ i,i<n->M[i]? = some ((List.range n).map λ j=>A i j))
include hn hM hA
theorem aZ:∀ (k row used:Nat) (kn:List Int) (sn:List Bool),row+k=n->(Cy used n).length=k->used<2 ^ n->HL A n kn sn ->
  ∃ x:List Int × List Bool,HL A n x.1 x.2/\AcP 142 [BJ M,.I row,.I used,.rs 0 0 (2 ^ n),.rs 1 0 (2 ^ n)] [⟨1,AD kn,0⟩,⟨1,Et sn,0⟩] (.I (C7 (CI A n row used))) [some ⟨1,AD x.1,0⟩,some ⟨1,Et x.2,0⟩]:=by
 intro k;have hw:2 ^ n<=256:=Nat.pow_le_pow_right (n:=2) (by omega) hn
 obtain⟨Z,hZ⟩:=AG (2 ^ n);rw[<- hZ] at hw
 induction k with
 | zero =>
   intro row used kn sn a0 a1 hu h0;obtain rfl:row=n:=by omega
   refine⟨(kn,sn),h0,?_⟩;rw[YS,<- hZ];refine zeJ.s.ai ?_;refine rx (s:=?z1) [0,1] [0,1] [] rfl ?p1 ?r1
   case p1=>simp[AB];rfl
   refine AC (rx (s:=?z2) [17] [0,1] [] rfl ?p2 ?r2)
   case p2=>simp[hM,AB];rfl
   refine AE _ rfl (λ _=>?_) λ h=>by simp at h
   refine rx (s:=?z3) [10] [0,1] [] rfl ?p3 ?r3
   case p3=>simp[AB];rfl
   exact A9 (AS.k2 rfl (by simp;exact .refl _) (by simp[AB]) (by simp[AB]))
 | succ k ih =>
   intro row used kn sn a0 a1 hu h0;rw[<- hZ] at hu;have a2:row<n:=by omega
   have hi:=h0.kl;have hj:=h0.sl;rw[<- hZ] at hi hj;have ho:row<M.length:=by omega
   have a3:M[row]=(List.range n).map λ j=>A row j:=by
    have:=hA row a2;rw[Qc ho] at this;exact Qf this
   have hR:∀ c (h:c<(M[row]).length),(M[row])[c]=A row c:=λ c h=>by simp[a3]
   have am:(M[row]).length=n:=by rw[a3];simp
   obtain⟨Rw,hq⟩:=AG (M[row]);simp only[<- hq] at hR am;have ha:row=n - (Cy used n).length:=by omega
   refine zeJ.s.acallsX (args:=[BJ M,.I row,.I used,.rs 0 0 (2 ^ n),.rs 1 0 (2 ^ n)]) (hs:=[⟨1,AD kn,0⟩,⟨1,Et sn,0⟩]) (λ _=>.I (C7 (CI A n row used))) (λ x=>[some ⟨1,AD x.1,0⟩,some ⟨1,Et x.2,0⟩]) (λ x:List Int × List Bool=>HL A n x.1 x.2) (CL rfl) (CL rfl) (λ _=>by simp) ?_
   show A2 _ 2 _ _ ⟨79,[(0,BJ M),(1,.I row),(2,.I used),(3,.rs 0 0 (2 ^ n)),(4,.rs 1 0 (2 ^ n))],[(0,some ⟨1,AD kn,0⟩),(1,some ⟨1,Et sn,0⟩)],16⟩;rw[<- hZ];refine rx (s:=?y1) [0,1,2,3,4] [0,1] [] rfl ?o1 ?q1
   case o1=>simp[AB];rfl
   refine AC (arc ⟨79,[(0,BJ M),(1,.I row),(2,.I used),(3,.rs 0 0 Z),(4,.rs 1 0 Z),(17,.B false)],[(0,some ⟨1,AD kn,0⟩),(1,some ⟨1,Et sn,0⟩)],200⟩ ?_ ?_)
   .simp
    exact AF [(0,0),(1,1)] [] (by simp<;>exact Aw (by simp[hM];omega)) (by simp[AB])
   refine AE _ rfl (λ h=>by simp at h) λ _=>?_
   refine AJ (AC ?_);have a4:used<sn.length:=by omega
   have a5:used<kn.length:=by omega
   refine rx (s:=?y3) [0,1,2,3,4,21] [0,1] [] rfl ?o3 ?q3
   case o3=>simp[hu,hj,AB];rfl
   refine AE _ rfl (λ hb=>?_) λ hb=>?_
   .have a6:=h0.ok used a4 a5 (by simpa using hb)
    rw[<- ha] at a6;apply ax [10] [(0,0),(1,1)] [] 400
    .simp [hu,hi,a6]
     rfl
    exact BG (F4.mk (.inr rfl) (kn,sn) h0 (AS.k2 rfl (by simp) (by simp[AB]) (by simp[AB])))
   refine AJ ?_;have bf:∀ c,FP A n row used c=FP A n row used c:=λ _=>rfl;refine ar [0,1,2,3,4,11,12] [(0,0),(1,1)] [] 500 ?_;refine FO (ι:=MQ) (λ x=>⟨79,[(2,.I used),(3,.rs 0 0 Z),(4,.rs 1 0 Z),(11,.I (C7 (CI A n row used)))],[(0,some ⟨1,AD x.kn,0⟩),(1,some ⟨1,Et x.sn,0⟩)],9000⟩) (λ x=>HL A n x.kn x.sn) ?_ λ x hx=>?_
   .refine ar [0,1,2,3,4,11,12,13] [(0,0),(1,1)] [] 600 ?_
    refine AL (Ae (ι:=MQ) (λ x=>⟨79,[(0,BJ M),(1,.I row),(2,.I used),(3,.rs 0 0 Z),(4,.rs 1 0 Z),(11,.I (C7 (CI A n row used - FP A n row used x.c))),(12,.I (sg (Cy used x.c).length)),(13,.I x.c)],[(0,some ⟨1,AD x.kn,0⟩),(1,some ⟨1,Et x.sn,0⟩)],1000⟩) (λ x=>x.c<=n/\HL A n x.kn x.sn) (λ x=>n - x.c) ⟨0,kn,sn⟩ ⟨Qh _,h0⟩ (AF [(0,0),(1,1)] [] (by simp[Zd a2,C7];exact⟨.refl _,.refl _⟩) (by simp[AB])) ?_)
    rintro⟨c,kn,sn⟩ ⟨hc,h0⟩
    simp only at hc h0
    clear hi hj a4 a5 hb
    obtain⟨sm,h7⟩:∃ s,s=C7 (CI A n row used - FP A n row used c):=⟨_,rfl⟩;refine AC (arc ⟨79,[(0,BJ M),(1,.I row),(2,.I used),(3,.rs 0 0 Z),(4,.rs 1 0 Z),(11,.I sm),(12,.I (sg (Cy used c).length)),(13,.I c),(29,.B (decide (c<n)))],[(0,some ⟨1,AD kn,0⟩),(1,some ⟨1,Et sn,0⟩)],1100⟩ ?_ ?_)
    .simp [hM]
     exact AF [(0,0),(1,1)] [] (by simp[h7]) (by simp[AB])
    refine AE _ rfl (λ h4=>?_) λ h4=>?_
    .rw [Qd] at h4
     have an:=w6 (x:=(c:Int)+1);have au:=wq (k:=row);have a7:IntKind.u64.wrap (c:Int)=c:=E0 (by omega) (by omega)
     have f1:=OW used c (by omega)
     have f2:=lN (used / 2 ^ c) (Nat.lt_of_le_of_lt (Nat.div_le_self _ _) (by omega))
     have f3:∀ k:Nat,AH .eql (.int .i64 (k:Int)) (.int .i64 1)=some (.bool (decide (k=1))):=λ k=>by
      show some (Value.bool ((k:Int) == 1))=_
      by_cases hk:k=1
      .subst hk;rfl
      .have h2:¬ (k:Int)=1:=by omega
       simp[hk,h2]
     refine AJ (FO (ι:=MQ) (λ x=>⟨79,[(0,BJ M),(1,.I row),(2,.I used),(3,.rs 0 0 Z),(4,.rs 1 0 Z),(11,.I (C7 (CI A n row used - FP A n row used (c+1)))),(12,.I (sg (Cy used (c+1)).length)),(13,.I c)],[(0,some ⟨1,AD x.kn,0⟩),(1,some ⟨1,Et x.sn,0⟩)],6000⟩) (λ x=>HL A n x.kn x.sn) ?_ λ x hx=>?_)
     .refine AL (AC (arc ⟨79,[(0,BJ M),(1,.I row),(2,.I used),(3,.rs 0 0 Z),(4,.rs 1 0 Z),(11,.I sm),(12,.I (sg (Cy used c).length)),(13,.I c),(37,.B (decide (used / 2 ^ c % 2=1)))],[(0,some ⟨1,AD kn,0⟩),(1,some ⟨1,Et sn,0⟩)],1300⟩ ?_ ?_))
      .simp [-AH,a7,f1,f2,f3,-Int.natCast_ediv,-Int.natCast_emod]
       exact Av [(0,0),(1,1)] []
      refine AE _ rfl (λ hb=>?_) λ hb=>?_
      .rw [Qd] at hb
       have hf:CR used c=false:=by
        cases h:CR used c
        .rfl
        .exact absurd hb (WI.1 h)
       refine Aa (hit ⟨⟨c,kn,sn⟩,h0,?_⟩);rw[<- cW h4 hf,TK hf,<- h7];exact Av [(0,0),(1,1)] []
      rw[Qa] at hb;have hf:CR used c=true:=WI.2 hb;have h9:=mL (A:=A) (row:=row) h4 hf;have bo:=lY h4 hf;have hh:sg (Cy used (c+1)).length = - sg (Cy used c).length:=by rw[S7 hf,Qg];exact TY _
      have a8:sg (Cy used c).length=1∨sg (Cy used c).length = -1:=by unfold sg;split<;>simp
      obtain⟨s,hs⟩:=AG (sg (Cy used c).length);rw[<- hs] at h9 hh a8;rw[hh];refine AJ (FO (ι:=MQ) (λ x=>⟨79,[(0,BJ M),(1,.I row),(2,.I used),(3,.rs 0 0 Z),(4,.rs 1 0 Z),(11,.I (C7 (CI A n row used - FP A n row used (c+1)))),(12,.I s),(13,.I c)],[(0,some ⟨1,AD x.kn,0⟩),(1,some ⟨1,Et x.sn,0⟩)],4000⟩) (λ x=>HL A n x.kn x.sn) ?_ λ x hx=>?_)
      .have a9:c<Rw.length:=by omega
       refine arc ⟨79,[(0,BJ M),(1,.I row),(2,.I used),(3,.rs 0 0 Z),(4,.rs 1 0 Z),(11,.I sm),(12,.I s),(13,.I c),(45,.B (!decide (A row c=0)))],[(0,some ⟨1,AD kn,0⟩),(1,some ⟨1,Et sn,0⟩)],1500⟩ ?_ ?_
       .simp [ho,<- hq,a9,hR]
        exact AF [(0,0),(1,1)] [] (by simp[hs]<;>exact Aw (by rw[Qp];simp)) (by simp[AB])
       refine AE _ rfl (λ hz=>?_) λ hz=>?_
       .have f4:=SX c (by omega)
        have bs:(2:Nat) ^ c<=2 ^ 8:=Nat.pow_le_pow_right (by omega) (by omega)
        have bt:(2:Nat) ^ 8=256:=rfl;have av:used ||| 2 ^ c<2 ^ n:=Nat.or_lt_two_pow (by omega) (Nat.pow_lt_pow_right (by omega) h4)
        have f5:=wX used (2 ^ c) (by omega) (by omega) (by omega)
        obtain⟨y,hy,h3⟩:=ih (row+1) (used ||| 2 ^ c) kn sn (by omega) (by omega) av h0
        rw[<- hZ] at h3;obtain⟨dt,b1⟩:∃ d,d=CI A n (row+1) (used ||| 2 ^ c):=⟨_,rfl⟩;rw[<- b1] at h9 h3;obtain⟨u2,b2⟩:∃ u,u=used ||| 2 ^ c:=⟨_,rfl⟩;rw[<- b2] at h3 f5;obtain⟨pc,b3⟩:∃ u,u=2 ^ c:=⟨_,rfl⟩;rw[<- b3] at f4 f5
        have ad:IntKind.i64.wrap (sm+IntKind.i64.wrap (IntKind.i64.wrap (s*A row c)*C7 dt))=C7 (CI A n row used - FP A n row used (c+1)):=by
         have e1:IntKind.i64.wrap (IntKind.i64.wrap (s*A row c)*C7 dt)=C7 (s*A row c*dt):=(Tu (C7 (s*A row c)) dt).trans (iR (s*A row c) dt);rw[e1,h7];refine(qH _ _).trans ?_
         congr 1
         rw[h9];omega
        have m1:∀ a b:Int,AH .mul (.int .i64 a) (.int .i64 b)=some (.int .i64 (IntKind.i64.wrap (a*b))):=λ _ _=>rfl;have m2:∀ a b:Int,AH .add (.int .i64 a) (.int .i64 b)=some (.int .i64 (IntKind.i64.wrap (a+b))):=λ _ _=>rfl;refine Cr rfl ?_;simp[-AH,m1,m2,ho,<- hq,a9,hR,au,a7,f4,f5];refine HP (i:=0) (j:=1) (by omega) rfl rfl (e1':=⟨1,AD kn,0⟩) (e2':=⟨1,Et sn,0⟩) (by simp[AB]) (by simp[AB]) h3 (by simp) (by simp) ?_
        simp[-AH,m1,m2,ad];exact⟨rfl,⟨c,y.1,y.2⟩,hy,AF [(0,0),(1,1)] [] (by simp[hs]) (by simp[AB])⟩
       .have b4:A row c=0:=by simpa using hz
        rw[b4] at h9;simp at h9;refine AJ ⟨⟨c,kn,sn⟩,h0,?_⟩;rw[<- h9,<- h7];exact Av [(0,0),(1,1)] []
      have ag:IntKind.i64.wrap (0 - s) = -s:=by rw[w6];omega
      have hv:=w6 (x:=-s);refine Ac rfl ?_;simp[ag,hv];exact⟨x,hx,Av [(0,0),(1,1)] []⟩
     refine Ag (s:=?y30) rfl ?o30 ?q30
     case o30=>simp[an];rfl
     exact⟨⟨c+1,x.kn,x.sn⟩,⟨by simp only;omega,hx⟩,by simp only;omega,Av [(0,0),(1,1)] []⟩
    .rw [Qa] at h4
     obtain rfl:c=n:=by omega
     rw[nR,Int.sub_zero] at h7;refine Aa (hit ⟨⟨c,kn,sn⟩,h0,?_⟩);rw[<- h7];exact Av [(0,0),(1,1)] []
   .have h1:=hx.kl
    have h2:=hx.sl;rw[<- hZ] at h1 h2;have h6:=hx.put ha;have h5:(AD x.kn).set used [AV.I (C7 (CI A n row used))]=AD (x.kn.set used (C7 (CI A n row used))):=KI
    have he:(Et x.sn).set used [AV.B true]=Et (x.sn.set used true):=by
     show (x.sn.map λ b=>[AV.B b]).set used ((λ b:Bool=>[AV.B b]) true)=(x.sn.set used true).map λ b=>[AV.B b];rw[U8]
    obtain⟨d,hd⟩:=AG (C7 (CI A n row used));rw[<- hd] at h6 h5;obtain⟨kn2,b5⟩:∃ l,l=x.kn.set used d:=⟨_,rfl⟩;obtain⟨sn2,b6⟩:∃ l,l=x.sn.set used true:=⟨_,rfl⟩;rw[<- b5] at h5 h6;rw[<- b6] at he h6;refine arc ⟨79,[(11,.I d)],[(0,some ⟨1,AD kn2,0⟩),(1,some ⟨1,Et sn2,0⟩)],9500⟩ ?_ ?_
    .simp [hu,h1,h2,<- hd,h5,he]
     exact Av [(0,0),(1,1)] []
    refine rx (s:=?y50) [10] [0,1] [] rfl ?o50 ?q50
    case o50=>simp[AB];rfl
    exact BG (F4.mk (.inr rfl) (kn2,sn2) h6 (AS.k2 rfl (by simp[hd]) (by simp[AB]) (by simp[AB])))
end
theorem zsY (R:List Int) (hR:∀ x∈R,0<=x/\x<=8) (hl:R.length<=1000):AcP 103 [AA R] [] (.I R.sum) []:=by
 refine kB.s.ai ?_;refine rs [0] [] [] ?_;refine rs [0,3] [] [] ?_;refine AC (rs [0,3,4] [] [] ?_);refine AL (Ae (ι:=Nat) (λ k=>⟨18,[(0,AA R),(3,.I (R.take k).sum),(4,.I k)],[],300⟩) (λ k=>k<=R.length) (λ k=>R.length - k) 0 (Qh _) (Bk [] []) ?_);intro k hk;have hb:=My 8 (l:=R.take k) λ x hx=>hR x (QZ hx);have h0:(R.take k).length=k:=by simp;omega
 rw[h0] at hb;refine AC (rs [0,3,4,8] [] [] ?_);refine AE _ rfl (λ hc=>?_) λ hc=>?_
 .simp at hc
  have hx:=hR R[k] (Qj hc);have hw:=w6 (x:=(k:Int)+1);have hs:=Sy hc;have h1:IntKind.i64.wrap ((R.take k).sum+R[k])=(R.take (k+1)).sum:=by rw[w6,hs]
  refine AJ (AC (AL (Ag (s:=?z6) rfl ?p6 ?r6)))
  case p6=>simp[hc,h1];rfl
  refine Ag (s:=?z7) rfl ?p7 ?r7
  case p7=>simp[hw];rfl
  exact⟨k+1,by omega,by omega,Bk [] []⟩
 .simp at hc
  have h2:R.take k=R:=Qb (by omega)
  rw[h2];refine Aa (hit (rs [2] [] [] ?_));exact Bl
theorem jI (a b:Nat):AcP 104 [.I a,.I b] [] (.I (Nat.gcd a b:Nat)) []:=by
 refine nE.s.ai ?_;refine rs [0,1] [] [] ?_;refine AC (AL (Ae (ι:=Nat × Nat) (λ i=>⟨12,[(0,.I i.1),(1,.I i.2)],[],100⟩) (λ i=>Nat.gcd i.1 i.2=Nat.gcd a b) (λ i=>i.2) (a,b) rfl (Bk [] []) ?_))
 rintro⟨x,y⟩ h0
 simp only at h0;refine AC (rs [0,1,6] [] [] ?_);refine AE _ rfl (λ hc=>?_) λ hc=>?_
 .simp at hc
  have f1:AH .rem (.int .i64 (x:Int)) (.int .i64 (y:Int))=some (.int .i64 ((x % y:Nat):Int)):=by
   show (if (y:Int)=0 then none else some (Value.int .i64 ((x:Int).tmod y)))=_
   rw[if_neg (by omega)]
   simp[Vg]
  refine AJ (AL (Cr rfl ?_));simp[-AH,f1,-Int.natCast_emod];exact⟨rfl,y,x % y,V5 h0,Uf _ (by omega),Bk [] []⟩
 .simp at hc
  subst hc;rw[Nat.gcd_zero_right] at h0;refine Aa (hit (rs [4] [] [] ?_));exact A9 (AS.one (by simp[h0]))
def C2 (W:BS) (N r a:Nat) (k:Nat):List Int:=(List.range k).map λ c=>BW W N r a c
theorem Lv (W:BS) (N r a k:Nat):(C2 W N r a k).length=k:=by simp[C2]
theorem pF (W:BS) (N r a k:Nat):C2 W N r a (k+1)=C2 W N r a k++[BW W N r a k]:=by simp[C2,Uk]
def CJ (W:BS) (N r:Nat) (k:Nat):List (List Int):=(List.range k).map λ a=>C2 W N r a N
theorem Ks (W:BS) (N r k:Nat):(CJ W N r k).length=k:=by simp[CJ]
theorem fO (W:BS) (N r k:Nat):CJ W N r (k+1)=CJ W N r k++[C2 W N r k N]:=by simp[CJ,Uk]
section
variable (L:List (List Int)) (W:BS) (N root:Nat) (hl:L.length=N+1) (h8:N<=8) (hr:root<N+1)
 (hL:∀ i,i<N+1->L[i]? = some (Br W N i)) (hW:∀ i j,0<=W i j/\W i j<=8)
 (hs:∀ i,i<N+1->0<=BP (N+1) (W i) - W i i/\BP (N+1) (W i)<=100)
 (ht:0<GV W N root/\GV W N root<=722204136308736)
include hl h8 hr hL hW hs ht
theorem Y8:AcP 102 [BJ L,.I root] [] (.I (GV W N root)) []:=by
 refine jD.s.ai ?_
 have hk:∀ (i:Nat) (h:i<L.length),L[i]=Br W N i:=λ i h=>by
  have:=hL i (by omega)
  rw[Qc h] at this;exact Qf this
 have hh:∀ (k:Nat) (f:List Int->List AV),((CJ W N root k).map f).take k=(CJ W N root k).map f:=λ k f=>Qb (by simp[Ks])
 have h9:∀ (a k:Nat) (f:Int->List AV),((C2 W N root a k).map f).take k=(C2 W N root a k).map f:=λ a k f=>Qb (by simp[Lv])
 refine rs [0,1] [] [] ?_;refine rs [0,1,5] [] [] ?_;refine Ao ⟨73,[(5,BJ (CJ W N root N))],[],9000⟩ ?_ ?_
 .refine rs [0,1,5,6] [] [] ?_
  refine AL (Ae (ι:=Nat) (λ i=>⟨73,[(0,BJ L),(1,.I root),(5,.rs 50 0 (AO root i)),(6,.I i)],[(50,some ⟨1,C4 (CJ W N root (AO root i)),0⟩)],1000⟩) (λ i=>i<=N+1) (λ i=>N+1 - i) 0 (Qh _) (Le.lst [] [] [(50,1)] rfl (by simp) (by simp) (by simp) (by simp) (by simp) (by simp) (by simp) (by simp[Up,I7]) (by simp[I7,CJ])) ?_)
  intro i hi;refine AC (arc ⟨73,[(0,BJ L),(1,.I root),(5,.rs 50 0 (AO root i)),(6,.I i),(12,.B (decide (i<N+1)))],[(50,some ⟨1,C4 (CJ W N root (AO root i)),0⟩)],1100⟩ ?_ ?_)
  .simp [hl]
   exact AF [(50,50)] [] (by simp<;>exact Aw (by rw[Qp];simp;omega))
  refine AE _ rfl (λ hc=>?_) λ hc=>?_
  .rw [Qd] at hc
   have h6:i<L.length:=by omega
   have ha:=hk i h6;have ho:=w6 (x:=(i:Int)+1);refine AJ (Ao ⟨73,[(0,BJ L),(1,.I root),(5,.rs 50 0 (AO root (i+1))),(6,.I i)],[(50,some ⟨1,C4 (CJ W N root (AO root (i+1))),0⟩)],8000⟩ ?_ ?_)
   .refine AL (AC (arc ⟨73,[(0,BJ L),(1,.I root),(5,.rs 50 0 (AO root i)),(6,.I i),(17,.B (decide (i=root)))],[(50,some ⟨1,C4 (CJ W N root (AO root i)),0⟩)],1200⟩ ?_ ?_))
    .simp
     exact AF [(50,50)] [] (by simp[Gp]<;>exact .refl _)
    refine AE _ rfl (λ he=>?_) λ he=>?_
    .rw [Qd] at he
     subst he;refine Aa (hit ?_);rw[NB];exact Bk [(50,50)] []
    rw[Qa] at he;have a8:=MX he hr hc;have hq:=Mg he;refine AJ (ar [0,1,5,6,7] [(50,50)] [] 1300 ?_);refine Ao ⟨73,[(0,BJ L),(1,.I root),(5,.rs 50 0 (AO root i)),(6,.I i),(7,.rs 51 0 N)],[(50,some ⟨1,C4 (CJ W N root (AO root i)),0⟩),(51,some ⟨1,AD (C2 W N root (AO root i) N),0⟩)],6000⟩ ?_ ?_
    .refine ar [0,1,5,6,7,8] [(50,50)] [] 1400 ?_
     refine AL (Ae (ι:=Nat) (λ c=>⟨73,[(0,BJ L),(1,.I root),(5,.rs 50 0 (AO root i)),(6,.I i),(7,.rs 51 0 (AO root c)),(8,.I c)],[(50,some ⟨1,C4 (CJ W N root (AO root i)),0⟩),(51,some ⟨1,AD (C2 W N root (AO root i) (AO root c)),0⟩)],1500⟩) (λ c=>c<=N+1) (λ c=>N+1 - c) 0 (Qh _) (Le.lst [(50,50)] [] [(51,1)] rfl (by simp) (by simp) (by simp) (by simp) (by simp) (by simp) (by simp) (by simp[Up,I7]) (by simp[I7,C2];exact Am.rfl' (by simp))) ?_)
     intro c a4;refine AC (arc ⟨73,[(0,BJ L),(1,.I root),(5,.rs 50 0 (AO root i)),(6,.I i),(7,.rs 51 0 (AO root c)),(8,.I c),(21,.B (decide (c<N+1)))],[(50,some ⟨1,C4 (CJ W N root (AO root i)),0⟩),(51,some ⟨1,AD (C2 W N root (AO root i) (AO root c)),0⟩)],1600⟩ ?_ ?_)
     .simp [hl]
      exact AF [(50,50),(51,51)] [] (by simp<;>exact Aw (by rw[Qp];simp;omega)) (by simp[AB])
     refine AE _ rfl (λ h3=>?_) λ h3=>?_
     .rw [Qd] at h3
      have hu:=w6 (x:=(c:Int)+1);have a5:=hW i c;have a6:=hW i i;have a9:=hs i hc;have hb:=ND W N i;have hj:∀ (k:Nat) (h:k<(Br W N i).length),(Br W N i)[k]=W i k:=λ k h=>Rf h;have hv:=Zs W N i
      have h7:=zsY (Br W N i) (λ x hx=>by
       obtain⟨j,_,rfl⟩:=Qi.1 hx
       exact hW i j) (by rw[hb];omega)
      rw[hv] at h7;refine AJ (Ao ⟨73,[(0,BJ L),(1,.I root),(5,.rs 50 0 (AO root i)),(6,.I i),(7,.rs 51 0 (AO root (c+1))),(8,.I c)],[(50,some ⟨1,C4 (CJ W N root (AO root i)),0⟩),(51,some ⟨1,AD (C2 W N root (AO root i) (AO root (c+1))),0⟩)],5000⟩ ?_ ?_)
      .refine AL (AC (arc ⟨73,[(0,BJ L),(1,.I root),(5,.rs 50 0 (AO root i)),(6,.I i),(7,.rs 51 0 (AO root c)),(8,.I c),(26,.B (decide (c=root)))],[(50,some ⟨1,C4 (CJ W N root (AO root i)),0⟩),(51,some ⟨1,AD (C2 W N root (AO root i) (AO root c)),0⟩)],1700⟩ ?_ ?_))
       .simp
        exact AF [(50,50),(51,51)] [] (by simp[Gp]<;>exact .refl _) (by simp[AB])
       refine AE _ rfl (λ h1=>?_) λ h1=>?_
       .rw [Qd] at h1
        subst h1;refine Aa (hit ?_);rw[NB];exact Av [(50,50),(51,51)] []
       rw[Qa] at h1;have hw:=Mg h1;have a7:=MX h1 hr h3;have hy:=pF W N root (AO root i) (AO root c);refine AJ (arc ⟨73,[(0,BJ L),(1,.I root),(5,.rs 50 0 (AO root i)),(6,.I i),(7,.rs 51 0 (AO root c)),(8,.I c),(29,.B (decide (i=c)))],[(50,some ⟨1,C4 (CJ W N root (AO root i)),0⟩),(51,some ⟨1,AD (C2 W N root (AO root i) (AO root c)),0⟩)],1800⟩ ?_ ?_)
       .simp
        exact AF [(50,50),(51,51)] [] (by simp[Gp]<;>exact .refl _) (by simp[AB])
       rw[hw,hy];refine AE _ rfl (λ h2=>?_) λ h2=>?_
       .rw [Qd] at h2
        subst h2;have h4:BW W N root (AO root i) (AO root i)=BP (N+1) (W i) - W i i:=by unfold BW;rw[if_pos rfl,Jh he]
        have hd:IntKind.i64.wrap (BP (N+1) (W i) - W i i)=BW W N root (AO root i) (AO root i):=by rw[h4];exact w6
        refine Cr rfl ?_;simp[h6,ha];refine Aj h7 ?_;simp[h6,ha,hb,hj,hc,hd,Lv];exact⟨by omega,by omega,rfl,AF [(50,50),(1920,51)] [] (by simp) (by simp[AB,h9])⟩
       .rw [Qa] at h2
        have h4:BW W N root (AO root i) (AO root c) = - W i c:=by unfold BW;rw[if_neg (λ h=>h2 ((Xr he h1).1 h)),Jh he,Jh h1]
        have hd:IntKind.i64.wrap (- W i c)=BW W N root (AO root i) (AO root c):=by rw[h4];exact w6
        refine Ac rfl ?_;simp[h6,ha,hb,hj,h3,hd,Lv];exact⟨by omega,by omega,AF [(50,50),(1880,51)] [] (by simp) (by simp[AB,h9])⟩
      refine Ag (s:=?z22) rfl ?p22 ?r22
      case p22=>simp[hu];rfl
      exact⟨c+1,by omega,by omega,Av [(50,50),(51,51)] []⟩
     .rw [Qa] at h3
      obtain rfl:c=N+1:=by omega
      refine Aa (hit ?_);rw[L7 hr];exact Av [(50,50),(51,51)] []
    rw[hq,fO];refine Ac rfl ?_;simp[Ks];exact⟨by omega,by omega,AF [(6024,50)] [51] (by simp) (by simp[AB,h9,hh,Lv])⟩
   refine Ag (s:=?z13) rfl ?p13 ?r13
   case p13=>simp[ho];rfl
   exact⟨i+1,by omega,by omega,Bk [(50,50)] []⟩
  .rw [Qa] at hc
   obtain rfl:i=N+1:=by omega
   refine Aa (hit ?_);rw[L7 hr];exact AF [] [50] (by simp[hh,Ks,AB])
 obtain⟨Z,hZ⟩:=AG (2 ^ N);have ad:Z<=256:=by rw[hZ];exact Nat.pow_le_pow_right (n:=2) (by omega) h8
 have hz:(Cy 0 N).length=N:=by
  have:Cy 0 N=List.range N:=by
   unfold Cy;rw[Vh];intro x _;simp[CR]
  rw[this,UB]
 have hf:HL (BW W N root) N (List.replicate Z 0) (List.replicate Z false):=⟨by rw[List.length_replicate,hZ],by rw[List.length_replicate,hZ],λ u h _ hs=>by simp at hs⟩
 obtain⟨y,_,h5⟩:=aZ (BW W N root) (CJ W N root N) N h8 (Ks W N root N) (λ i hi=>by simp[CJ,hi,C2]) N 0 0 (List.replicate Z 0) (List.replicate Z false) (by omega) hz (Nat.two_pow_pos N) hf
 have a0:C7 (CI (BW W N root) N 0 0)=GV W N root:=by
  rw[Yz];exact Jz (by show -9223372036854775808<=GV W N root;omega) (by show GV W N root<9223372036854775808;omega)
 rw[a0,<- hZ] at h5;have h0:AcP 142 [BJ (CJ W N root N),.I 0,.I 0,.rs 0 0 Z,.rs 1 0 Z] [⟨1,AD (List.replicate Z 0),0⟩,⟨1,Et (List.replicate Z false),0⟩] (.I (GV W N root)) [some ⟨1,AD y.1,0⟩,some ⟨1,Et y.2,0⟩]:=h5;have a1:AD (List.replicate Z (0:Int))=List.replicate Z [AV.I 0]:=by simp
 have a2:Et (List.replicate Z false)=List.replicate Z [AV.B false]:=by simp
 rw[a1,a2] at h0;have f1:=SX N (by omega)
 rw[<- hZ] at f1;have a3:IntKind.u64.wrap (N:Int)=N:=E0 (by omega) (by omega)
 apply ay [4] [] [] 12000
 .simp [-AH,Ks,a3,f1]
  refine⟨by omega,by omega,?_⟩
  refine HP (i:=9040) (j:=9080) (by omega) rfl rfl (e1':=⟨1,List.replicate Z [AV.I 0],0⟩) (e2':=⟨1,List.replicate Z [AV.B false],0⟩) (by simp) (by simp) h0 (by simp) (by simp) ?_
  simp;exact⟨rfl,rfl⟩
 exact Bl
end
variable {j:Nat}
def FS (g:Gr) (S:List Int) (i:Nat):List Int:=((List.range i).map Int.ofNat).filter λ k=>decide (0<=AN g S k)
theorem wP (g:Gr) (S:List Int) (i:Nat):FS g S (i+1)=FS g S i++if 0<=AN g S i then [(i:Int)] else []:=by
 unfold FS;rw[Uk,QT,Ug]
 congr 1
 by_cases h:0<=AN g S (i:Int)
 .simp [h]
 .simp [h]
theorem aR (g:Gr) (S:List Int) (i:Nat):(FS g S i).length<=i:=by
 unfold FS;exact QH (QU _ _) (by simp)
def Bf (G:Gr) (S K:List Int) (r x:Int) (j:Nat) (v:Int):List Int:=(List.range K.length).map λ q=>if q<j then C1 G S r x (K.getD q 0) else if q=j then v else 0
section
variable {G:Gr} {S K:List Int} {r x:Int}
theorem Tv (j:Nat) (v:Int):(Bf G S K r x j v).length=K.length:=by simp[Bf]
theorem fI:AD (Bf G S K r x 0 0)=List.replicate K.length [AV.I 0]:=by
 simp[Bf,AB,Vq]
theorem l8 {v:Int} (h:j<(Bf G S K r x j v).length):(Bf G S K r x j v)[j]=v:=by simp[Bf]
theorem dK {v v2:Int}:(AD (Bf G S K r x j v)).set j [AV.I v2]=AD (Bf G S K r x j v2):=by
 rw[KI]
 congr 1
 unfold Bf;rw[Lo];refine QF λ q _=>?_
 by_cases h:q=j
 .subst h;simp
 .simp [h]
theorem Y0 (hj:j<K.length):Bf G S K r x j (C1 G S r x K[j])=Bf G S K r x (j+1) 0:=by
 unfold Bf;refine QF λ q _=>?_
 by_cases h1:q<j
 .rw [if_pos h1,if_pos (by omega)]
 .rw [if_neg h1]
  by_cases h2:q=j
  .subst h2
   rw[if_pos rfl,if_pos (by omega)]
   simp[hj]
  .rw [if_neg h2,if_neg (by omega)]
   split<;>rfl
end
theorem cC (G:Gr) (S:List Int) (r x:Int):Bf G S (Ai G S) r x (Ai G S).length 0=CG G S r x:=by
 unfold Bf CG;rw[<- OG (Ai G S) λ y=>C1 G S r x y];refine QF λ q hq=>?_;rw[if_pos (Qy.1 hq)]
section
variable (g:Gr) (p:Al) (r:Int) (hg:AI g) (hr:1<=r) (aB:r<=5) (hs:p.seeds.length<=64)
include hg hr aB hs
theorem sR:AcP 101 [eG g,eP p,.I r] [] (.tup [AA (Ai (AM g p.lv) p.seeds),BJ (Dl (AM g p.lv) p.seeds r)]) []:=by
 refine qL.s.ai ?_;have d1:=hg.edges_le;have d2:=hg.gone_le;have hw:=KG g p.lv (by omega) (by omega)
 have h1:=hg.level p.lv;have h5:=LC (AM g p.lv) p.seeds h1 (by omega)
 obtain⟨G,c0⟩:=AG (AM g p.lv);rw[<- c0] at hw h1 h5 ⊢;have d3:=h1.edges_le;have d4:=h1.1.1;have d7:=h1.1.2.1;obtain⟨n,hn⟩:∃ n:Nat,G.size=n:=⟨G.size.toNat,by omega⟩
 have a3:G.size.toNat=n:=by omega
 rw[a3] at h5;have a4:(Bj G p.seeds).length=n:=by simp[Bj,a3]
 have ad:∀ (k:Nat) (h:k<(Bj G p.seeds).length),(Bj G p.seeds)[k]=AN G p.seeds k:=λ k h=>by simp[Bj]
 obtain⟨D,ag⟩:=AG (Bj G p.seeds);rw[<- ag] at h5 a4;simp only[<- ag] at ad;have c1:∀ f:Int->List AV,(D.map f).take n=D.map f:=λ f=>Qb (by simp[a4])
 refine ar [2,3,4] [(16,16)] [24] 100 ?_;apply ax [2,3,4] [] [16] 200
 .simp
  refine Aj hw ?_;simp;rfl
 refine arc ⟨117,[(2,.I r),(3,.pv (gC G)),(4,.pv (pC p)),(8,AA D)],[],300⟩ ?_ ?_
 .simp
  refine CV h5 ?_;simp;exact AF [] [224] (by simp[a4,c1,AB])
 refine rs [2,3,4,8,9] [] [] ?_;have am:∀ (i:Nat) (f:Int->List AV),((FS G p.seeds i).map f).take (FS G p.seeds i).length=(FS G p.seeds i).map f:=λ i f=>Qb (by simp)
 refine Ao ⟨117,[(2,.I r),(3,.pv (gC G)),(4,.pv (pC p)),(9,AA (Ai G p.seeds))],[],5000⟩ ?_ ?_
 .refine rs [2,3,4,8,9,10] [] [] ?_
  refine AL (Ae (ι:=Nat) (λ i=>⟨117,[(2,.I r),(3,.pv (gC G)),(4,.pv (pC p)),(8,AA D),(9,.rs 50 0 (FS G p.seeds i).length),(10,.I i)],[(50,some ⟨1,AD (FS G p.seeds i),0⟩)],1000⟩) (λ i=>i<=n) (λ i=>n - i) 0 (Qh _) (Le.lst [] [] [(50,1)] rfl (by simp) (by simp) (by simp) (by simp) (by simp) (by simp) (by simp) (by simp[Up,FS]) (by simp[FS])) ?_)
  intro i hi;refine AC (rx (s:=?z6) [2,3,4,8,9,10,27] [50] [] rfl ?p6 ?r6)
  case p6=>simp[hn,AB];rfl
  refine AE _ rfl (λ hc=>?_) λ hc=>?_
  .simp at hc
   have an:i<D.length:=by omega
   have c2:=ad i an;have a5:=w6 (x:=(i:Int)+1);have h7:=wP G p.seeds i;have c3:=aR G p.seeds i;obtain⟨B,hB⟩:=AG (FS G p.seeds i);have h2:=am i;rw[<- hB] at h7 c3 h2;refine AJ (Ao ⟨117,[(2,.I r),(3,.pv (gC G)),(4,.pv (pC p)),(8,AA D),(9,.rs 50 0 (FS G p.seeds (i+1)).length),(10,.I i)],[(50,some ⟨1,AD (FS G p.seeds (i+1)),0⟩)],3000⟩ ?_ ?_)
   .refine AL (arc ⟨117,[(2,.I r),(3,.pv (gC G)),(4,.pv (pC p)),(8,AA D),(9,.rs 50 0 B.length),(10,.I i),(34,.B (decide (0<=AN G p.seeds i)))],[(50,some ⟨1,AD B,0⟩)],1500⟩ ?_ ?_)
    .simp [an,c2]
     exact AF [(50,50)] [] (by simp[hB]) (by simp[hB,AB])
    refine AE _ rfl (λ hd=>?_) λ hd=>?_
    .rw [Qd] at hd
     rw[if_pos hd] at h7;refine Ac rfl ?_;simp[Dn];refine⟨by omega,by omega,?_⟩
     rw[h7];exact AF [(1524,50)] [] (by simp) (by simp[AB,h2])
    .rw [Qa] at hd
     rw[if_neg hd,QW] at h7;refine AJ ?_;rw[h7];exact Av [(50,50)] []
   refine Ag (s:=?z8) rfl ?p8 ?r8
   case p8=>simp[a5];rfl
   exact⟨i+1,by omega,by omega,Av [(50,50)] []⟩
  .simp at hc
   obtain rfl:i=n:=by omega
   have au:FS G p.seeds i=Ai G p.seeds:=by unfold FS Ai;rw[a3]
   have h2:=am i;rw[au] at h2;exact Aa (hit (AF [] [50] (by simp[au,h2,AB])))
 have av:(Ai G p.seeds).length<=64:=by
  have:=K9 (g:=G) (S:=p.seeds);omega
 have b1:Dl G p.seeds r=(Ai G p.seeds).map (CG G p.seeds r):=rfl;have a6:=cC G p.seeds r;obtain⟨K,a7⟩:=AG (Ai G p.seeds);rw[<- a7] at av b1;simp only[<- a7] at a6;rw[<- a7];have dd:∀ f:Int->List AV,(K.map f).take K.length=K.map f:=λ f=>Qb (by simp)
 obtain⟨q,hq⟩:=AG (K.length);refine rs [2,3,4,9,11] [] [] ?_;refine Ao ⟨117,[(9,AA K),(11,BJ (Dl G p.seeds r))],[],30000⟩ ?_ ?_
 .refine rs [2,3,4,9,11,12] [] [] ?_
  refine AL (Ae (ι:=Nat) (λ i=>⟨117,[(2,.I r),(3,.pv (gC G)),(4,.pv (pC p)),(9,AA K),(11,.rs 50 0 i),(12,.I i)],[(50,some ⟨1,C4 ((K.take i).map (CG G p.seeds r)),0⟩)],6000⟩) (λ i=>i<=q) (λ i=>q - i) 0 (Qh _) (Le.lst [] [] [(50,1)] rfl (by simp) (by simp) (by simp) (by simp) (by simp) (by simp) (by simp) (by simp[Up]) (by simp)) ?_)
  intro i hi;have hk:∀ f:List Int->List AV,(((K.take i).map (CG G p.seeds r)).map f).take i=((K.take i).map (CG G p.seeds r)).map f:=λ f=>Qb (by simp;omega)
  have h6:((K.take i).map (CG G p.seeds r)).length=i:=by simp;omega
  obtain⟨D2,ho⟩:∃ D,D=(K.take i).map (CG G p.seeds r):=⟨_,rfl⟩;rw[<- ho] at hk h6;refine AC (arc ⟨117,[(2,.I r),(3,.pv (gC G)),(4,.pv (pC p)),(9,AA K),(11,.rs 50 0 i),(12,.I i),(42,.B (decide (i<q)))],[(50,some ⟨1,C4 D2,0⟩)],6100⟩ ?_ ?_)
  .simp [<- hq]
   exact AF [(50,50)] [] (by simp) (by simp[AB,ho])
  refine AE _ rfl (λ hc=>?_) λ hc=>?_
  .rw [Qd] at hc
   have a8:i<K.length:=by omega
   have a5:=w6 (x:=(i:Int)+1)
   have h9:(K.take (i+1)).map (CG G p.seeds r)=D2++[CG G p.seeds r K[i]]:=by
    rw[Qm a8,QT,ho];rfl
   obtain⟨x,hx⟩:=AG (K[i]);rw[<- hx] at h9;have b2:∀ j v,(Bf G p.seeds K r x j v).length=q:=λ j v=>by rw[Tv,hq]
   have c4:AD (Bf G p.seeds K r x 0 0)=List.replicate q [AV.I 0]:=by rw[fI,hq]
   refine AJ (Ao ⟨117,[(2,.I r),(3,.pv (gC G)),(4,.pv (pC p)),(9,AA K),(11,.rs 50 0 (i+1)),(12,.I i)],[(50,some ⟨1,C4 ((K.take (i+1)).map (CG G p.seeds r)),0⟩)],25000⟩ ?_ ?_)
   .refine AL (arc ⟨117,[(2,.I r),(3,.pv (gC G)),(4,.pv (pC p)),(9,AA K),(11,.rs 50 0 i),(12,.I i),(13,.rs 51 0 q)],[(50,some ⟨1,C4 D2,0⟩),(51,some ⟨1,AD (Bf G p.seeds K r x 0 0),0⟩)],6300⟩ ?_ ?_)
    .simp [<- hq]
     exact⟨by omega,by omega,AF [(50,50),(6116,51)] [] (by simp) (by simp[AB,c4])⟩
    refine Ao ⟨117,[(2,.I r),(3,.pv (gC G)),(4,.pv (pC p)),(9,AA K),(11,.rs 50 0 i),(12,.I i),(13,.rs 51 0 q)],[(50,some ⟨1,C4 D2,0⟩),(51,some ⟨1,AD (CG G p.seeds r x),0⟩)],20000⟩ ?_ ?_
    .refine ar [2,3,4,9,11,12,13,14] [(50,50),(51,51)] [] 6500 ?_
     refine AL (Ae (ι:=Nat) (λ j=>⟨117,[(2,.I r),(3,.pv (gC G)),(4,.pv (pC p)),(9,AA K),(11,.rs 50 0 i),(12,.I i),(13,.rs 51 0 q),(14,.I j)],[(50,some ⟨1,C4 D2,0⟩),(51,some ⟨1,AD (Bf G p.seeds K r x j 0),0⟩)],7000⟩) (λ j=>j<=q) (λ j=>q - j) 0 (Qh _) (Av [(50,50),(51,51)] []) ?_);intro j hj;refine AC ?_;apply ax [2,3,4,9,11,12,13,14,51] [(50,50),(51,51)] [] 7100
     .simp [<- hq]
      rfl
     refine AE _ rfl (λ ha=>?_) λ ha=>?_
     .rw [Qd] at ha
      have hu:j<K.length:=by omega
      have cb:=w6 (x:=(j:Int)+1);have he:=Y0 (G:=G) (S:=p.seeds) (r:=r) (x:=x) hu;obtain⟨y,hy⟩:=AG (K[j]);rw[<- hy] at he;have hz:∀ v (h:j<(Bf G p.seeds K r x j v).length),(Bf G p.seeds K r x j v)[j]=v:=λ v h=>l8 h;have a0:∀ v v2,(AD (Bf G p.seeds K r x j v)).set j [AV.I v2]=AD (Bf G p.seeds K r x j v2):=λ v v2=>dK;have b3:=I2 p.seeds y (by omega)
      refine AJ (Ao ⟨117,[(2,.I r),(3,.pv (gC G)),(4,.pv (pC p)),(9,AA K),(11,.rs 50 0 i),(12,.I i),(13,.rs 51 0 q),(14,.I j)],[(50,some ⟨1,C4 D2,0⟩),(51,some ⟨1,AD (Bf G p.seeds K r x (j+1) 0),0⟩)],18000⟩ ?_ ?_)
      .refine AL (Ao ⟨117,[(2,.I r),(3,.pv (gC G)),(4,.pv (pC p)),(9,AA K),(11,.rs 50 0 i),(12,.I i),(13,.rs 51 0 q),(14,.I j)],[(50,some ⟨1,C4 D2,0⟩),(51,some ⟨1,AD (Bf G p.seeds K r x j (GP G x y)),0⟩)],14000⟩ ?_ ?_)
       .refine ar [2,3,4,9,11,12,13,14,15] [(50,50),(51,51)] [] 7300 ?_
        refine AL (Ae (ι:=Nat) (λ m=>⟨117,[(2,.I r),(3,.pv (gC G)),(4,.pv (pC p)),(9,AA K),(11,.rs 50 0 i),(12,.I i),(13,.rs 51 0 q),(14,.I j),(15,.I m)],[(50,some ⟨1,C4 D2,0⟩),(51,some ⟨1,AD (Bf G p.seeds K r x j (CN (G.edges.take m) x y)),0⟩)],8000⟩) (λ m=>m<=G.edges.length) (λ m=>G.edges.length - m) 0 (Qh _) (AF [(50,50),(51,51)] [] (by simp) (by simp[AB,CN])) ?_)
        intro m hm;refine AC (ar [2,3,4,9,11,12,13,14,15,58] [(50,50),(51,51)] [] 8100 ?_);refine AE _ rfl (λ h3=>?_) λ h3=>?_
        .rw [Qd] at h3
         have cd:=w6 (x:=(m:Int)+1);have hh:=PG h3 x y;have ck:=RE h1 m x y;have cl:=h1.val G.edges[m] (Qj h3);obtain⟨e,h4⟩:=AG (G.edges[m]);obtain⟨v,hv⟩:=AG (CN (G.edges.take m) x y);obtain⟨v2,a1⟩:∃ v,v=CN (G.edges.take (m+1)) x y:=⟨_,rfl⟩;rw[<- hv,<- a1,<- h4] at hh;rw[<- hv] at ck;rw[<- h4] at cl;refine AJ (Ao ⟨117,[(2,.I r),(3,.pv (gC G)),(4,.pv (pC p)),(9,AA K),(11,.rs 50 0 i),(12,.I i),(13,.rs 51 0 q),(14,.I j),(15,.I m)],[(50,some ⟨1,C4 D2,0⟩),(51,some ⟨1,AD (Bf G p.seeds K r x j v2),0⟩)],12000⟩ ?_ ?_)
         .refine AL (CW ⟨117,[(2,.I r),(3,.pv (gC G)),(4,.pv (pC p)),(9,AA K),(11,.rs 50 0 i),(12,.I i),(13,.rs 51 0 q),(14,.I j),(15,.I m),(84,.B (decide (e.f=x) && decide (e.t=y)))],[(50,some ⟨1,C4 D2,0⟩),(51,some ⟨1,AD (Bf G p.seeds K r x j v),0⟩)],9000⟩ ?_ ?_)
          .by_cases hf:e.f=x
           .simp [h3,<- h4,hf,a8,<- hx,hu,<- hy]
            exact⟨rfl,AF [(50,50),(51,51)] [] (by simp[hf,<- h4,<- hy]<;>exact Aw (by rw[Qp];simp)) (by simp[AB,hv])⟩
           .have b4:(e.f == x)=false:=by simpa using hf
            simp[h3,<- h4,b4,a8,<- hx,hu,<- hy];exact⟨rfl,AF [(50,50),(51,51)] [] (by simp[hf,b4,<- h4]) (by simp[AB,hv])⟩
          refine AE _ rfl (λ hb=>?_) λ hb=>?_
          .rw [QM,Qd,Qd] at hb
           rw[if_pos hb] at hh;have a9:IntKind.i64.wrap (v+e.v)=v2:=by rw[hh];exact w6
           refine Cr rfl ?_;simp[h3,<- h4,ha,b2,hz,a9,a0];exact⟨rfl,Av [(50,50),(51,51)] []⟩
          .rw [Bool.and_eq_false_iff,Qa,Qa] at hb
           rw[if_neg (λ h=>by rcases hb with hb | hb;exact hb h.1;exact hb h.2),Int.add_zero] at hh
           refine AJ ?_;rw[hh];exact Av [(50,50),(51,51)] []
         refine Ag (s:=?z37) rfl ?p37 ?r37
         case p37=>simp[cd];rfl
         refine⟨m+1,by omega,by omega,?_⟩
         rw[<- a1];exact Av [(50,50),(51,51)] []
        .rw [Qa] at h3
         obtain rfl:m=G.edges.length:=by omega
         have b5:CN (G.edges.take G.edges.length) x y=GP G x y:=by rw[QO];rfl
         refine Aa (hit ?_);rw[b5];exact Av [(50,50),(51,51)] []
       have h0:C1 G p.seeds r x y=(if p.seeds.contains y then r else 0)+GP G x y:=rfl
       have b6:=Mx h1 x y;have bf:=IH h1 hr aB (S:=p.seeds) x y;rw[<- he];obtain⟨ew,bo⟩:∃ e,e=GP G x y:=⟨_,rfl⟩;rw[<- bo] at h0 b6;obtain⟨wa,cp⟩:∃ a,a=C1 G p.seeds r x y:=⟨_,rfl⟩;rw[<- cp] at h0 bf ⊢;refine CW ⟨117,[(2,.I r),(3,.pv (gC G)),(4,.pv (pC p)),(9,AA K),(11,.rs 50 0 i),(12,.I i),(13,.rs 51 0 q),(14,.I j),(103,.B (p.seeds.contains y))],[(50,some ⟨1,C4 D2,0⟩),(51,some ⟨1,AD (Bf G p.seeds K r x j ew),0⟩)],15000⟩ ?_ ?_
       .simp [hu,<- hy]
        refine Aj b3 ?_;simp;exact⟨rfl,AF [(50,50),(51,51)] [] (by simp) (by simp[AB,bo])⟩
       refine AE _ rfl (λ hb=>?_) λ hb=>?_
       .rw [if_pos hb] at h0
        have a9:IntKind.i64.wrap (ew+r)=wa:=by rw[h0,Int.add_comm];exact w6
        refine Ac rfl ?_;simp[ha,b2,hz,a9,a0];exact Av [(50,50),(51,51)] []
       .rw [if_neg (by rw[hb];simp),Int.zero_add] at h0
        subst h0;exact AJ (Av [(50,50),(51,51)] [])
      refine Ag (s:=?z40) rfl ?p40 ?r40
      case p40=>simp[cb];rfl
      exact⟨j+1,by omega,by omega,Av [(50,50),(51,51)] []⟩
     .rw [Qa] at ha
      obtain rfl:j=q:=by omega
      have a2:=a6 x;rw[<- hq] at a2;refine Aa (hit ?_);rw[a2];exact Av [(50,50),(51,51)] []
    have bs:(CG G p.seeds r x).length=q:=by rw[<- a6 x,Tv,hq]
    have cq:∀ f:Int->List AV,((CG G p.seeds r x).map f).take q=(CG G p.seeds r x).map f:=λ f=>Qb (by simp[bs])
    have d0:List.take (i+1) (List.map ((λ l=>[AA l])∘CG G p.seeds r) K)=C4 D2++[[AA (CG G p.seeds r x)]]:=by
     rw[<- List.map_take,<- List.map_map,h9];simp
    refine Ac rfl ?_;simp[h6];refine⟨by omega,by omega,?_⟩
    rw[d0];exact AF [(20024,50)] [51] (by simp) (by simp[AB,hk,cq,bs])
   refine Ag (s:=?z42) rfl ?p42 ?r42
   case p42=>simp[a5];rfl
   exact⟨i+1,by omega,by omega,Av [(50,50)] []⟩
  .rw [Qa] at hc
   obtain rfl:i=q:=by omega
   have bt:D2=Dl G p.seeds r:=by rw[ho,b1,hq,QO]
   rw[bt] at hk h6;refine Aa (hit ?_);rw[bt];exact AF [] [50] (by simp[AB,hk,h6])
 refine rs [6,7] [] [] ?_;exact B7 [] []
end
end Go.Proofs.YtkngdgplbojdlaaGreat
