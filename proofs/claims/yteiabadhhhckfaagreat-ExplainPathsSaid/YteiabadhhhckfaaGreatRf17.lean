/- Texts of this claim,merged. -/
import Derived.Test.YteiabadhhhckfaaGreatRf16
import Derived.Test.YteiabadhhhckfaaGreatRf15
import Derived.Test.YteiabadhhhckfaaGreatRf14
import Derived.Test.YteiabadhhhckfaaGreatRf9
import Derived.Test.YteiabadhhhckfaaGreatRf6
set_option linter.unusedSimpArgs false
set_option linter.unusedVariables false
set_option linter.unusedSectionVars false
namespace Go.Proofs.YteiabadhhhckfaaGreat
open Go
section
variable {P : Program} {np id : Nat} {h : Nat → Option Ent} {K : AV → List Nat → List (Nat × Option Ent) → Prop} {f : FuncId} {first capt args args' : List AV} {res : AV}
theorem zuH (sn : List Nat) (hc : zaj P f args' [] res []) (hw : WkL ((first ++ args ++ capt).map (conv [] sn h 4)) args') (hnp : ∀ i ∈ sn,np ≤ i)
  (hk : K (conv (((List.range 8).map (id + ·)).zipIdx.map fun (a,b)=>(b,a)) [] (fun _=>none) 4 res) sn (sn.filterMap fun i=>(h i).map fun e=>(i,some { e with ro:=e.rows.length }))) : aK P np id .call (.fn (.func f) first capt :: args) h K :=
 ⟨[],sn,true,args',[],res,[],by simp,by simp,fun _=>hnp,by rw [List.zipIdx_nil]; exact hw,rfl,hc,by simp,.inl rfl,by simpa using hk⟩
end
set_option maxRecDepth 100000 in
set_option maxHeartbeats 4000000 in
theorem zgH (g : Gr) (p : Pol) (key : Int) (hg : GrOk g) (hp : za9 g.size p) (hs : p.seeds.length ≤ 64) (hN : g.size < 20) (hkey : key ∉ ordL (zai g p.lv) p.seeds) :
  zaj Tryz.prog zb9 [eG g,eP p,.I key] [] (.tup [eX ⟨0,false,[],[],[]⟩,.I 11]) []:=by
 have hsz:=hg.1.1
 have hsz2:=hg.1.2.1
 have hel:=hg.edges_le
 have hgl:=hg.gone_le
 have hchk:=zcj g p (by omega) (by omega) (by omega) (by have:=hp.2.2.2.1; omega)
 rw [if_pos hg,if_pos hp] at hchk
 have hre:=zcU g p hg hN (by omega)
 have hol : (ordL (zai g p.lv) p.seeds).length ≤ 64:=by
  have h1:=zem (g:=zai g p.lv) (S:=p.seeds) hsz
  have h2 : (zai g p.lv).size = g.size:=rfl
  omega
 have hcon:=zda (ordL (zai g p.lv) p.seeds) key (by omega)
 rw [decide_eq_false hkey] at hcon
 obtain ⟨o,ho⟩ : ∃ o,o = ordL (zai g p.lv) p.seeds:=⟨_,rfl⟩
 rw [← ho] at hre hcon
 refine ziZ.acalls (nbz rfl) (nbz rfl) (Nat.zero_le _) ?_
 show awp _ 0 _ _ ⟨45,[(0,eG g),(1,eP p),(2,.I key)],[],16⟩
 refine zaa ⟨45,[(2,.I key),(3,.pv (gC g)),(4,.pv (pC p)),(6,.pt 32 0 0)],[(32,some ⟨5,[[.I 0,.B false,.nilS,.nilS,.nilS]],0⟩)],100⟩ rfl ?_ ?_
 ·simp
  exact LeH [(32,32)] [16,24]
 refine zab ?_
 refine zaa ⟨45,[(2,.I key),(3,.pv (gC g)),(4,.pv (pC p)),(6,.pt 32 0 0),(8,.I 0)],[(32,some ⟨5,[[.I 0,.B false,.nilS,.nilS,.nilS]],0⟩)],200⟩ rfl ?_ ?_
 ·simp
  refine zal hchk (by simp) ?_
  simp
  exact LeH [(32,32)] []
 refine zaa ⟨45,[(2,.I key),(3,.pv (gC g)),(4,.pv (pC p)),(6,.pt 32 0 0),(16,.B false)],[(32,some ⟨5,[[.I 0,.B false,.nilS,.nilS,.nilS]],0⟩)],300⟩ rfl ?_ ?_
 ·simp
  exact LeH [(32,32)] []
 refine zac _ rfl (fun h=>by cases h) fun _=>?_
 refine zad ?_
 refine zaa ⟨45,[(2,.I key),(3,.pv (gC g)),(4,.pv (pC p)),(6,.pt 32 0 0),(9,ints o)],[(32,some ⟨5,[[.I 0,.B false,.nilS,.nilS,.nilS]],0⟩)],400⟩ rfl ?_ ?_
 ·simp
  refine zaN hre (by simp) ?_
  simp
  exact Le.go [(32,32)] [316] rfl rfl (by simp [zak,fcd]) (by simp)
 refine zab ?_
 refine zaa ⟨45,[(6,.pt 32 0 0),(25,.B true)],[(32,some ⟨5,[[.I 0,.B false,.nilS,.nilS,.nilS]],0⟩)],500⟩ rfl ?_ ?_
 ·simp
  refine zal hcon (by simp) ?_
  simp
  exact LeH [(32,32)] []
 refine zac _ rfl (fun _=>?_) fun h=>by cases h
 refine zaa ⟨45,[(6,.pt 32 0 0),(7,.I 11)],[(32,some ⟨5,[[.I 0,.B false,.nilS,.nilS,.nilS]],0⟩)],700⟩ rfl ?_ ?_
 ·simp [zaE]
  exact LeH [(32,32)] []
 refine zah ?_
 exact ⟨.inr rfl,zan.out [] [] rfl (by simp) (by simp) (by simp; exact wkX0 (.nil _ _) (.nil _ _) (.nil _ _)) (by simp)⟩
set_option maxRecDepth 100000 in
set_option maxHeartbeats 4000000 in
theorem zbY : zaj Tryz.prog zbd [] [] (.B true) []:=by
 obtain ⟨x,hx,hc⟩:=ze3 g1 p1 0 ztk ztQ (by decide) (by decide) (by rw [zqa]; decide)
 obtain ⟨h1,h2,h3⟩:=zuQ hx
 have hsm:=za7 [0] [0] (by decide) (by decide)
 rw [decide_eq_true rfl] at hsm
 obtain ⟨a1,a2,a3,a4,a5⟩:=x
 simp only at h1 h2 h3
 subst h1
 subst h2
 subst h3
 refine zox.acalls (nbz rfl) (nbz rfl) (Nat.zero_le _) ?_
 show awp _ 0 _ _ ⟨37,[],[],16⟩
 refine rx (s:=?s1) [] [] [] rfl ?o1 ?q1
 case o1=>simp; rfl
 refine zaa ⟨37,[(1,.pv (xE ⟨a1,true,[],[[0]],a5⟩)),(2,.I 0)],[],200⟩ rfl ?_ ?_
 ·simp
  refine zuH [32,40] hc (by simp [g1,p1,Wk.refl]; exact ⟨wkA3 (.refl _) (.nil _ _) (.nil _ _),.refl _⟩) (by simp) ?_
  simp [zaE]
  exact Le.go [] [88] rfl rfl (by simp; exact .refl _) (by simp)
 refine zaa ⟨37,[(0,.B true)],[],500⟩ rfl ?_ ?_
 ·simp
  refine zdq [336] hsm (by simp) (.sc _) ?_
  simp
  exact LeH [] []
 refine zah ?_
 exact ⟨.inr rfl,zan.one (by simp)⟩
set_option maxRecDepth 100000 in
set_option maxHeartbeats 4000000 in
theorem zk9 (g : Gr) (p : Pol) (key : Int) (x y : Expl) (hg : GrOk g) (hp : za9 g.size p) (hs : p.seeds.length ≤ 64) (hx : ForR g p (ordL (zai g p.lv) p.seeds) key x) (hy : ForR g p (ordL (zai g p.lv) p.seeds) key y) :
  zaj Tryz.prog zfZ [eG g,eP p,eX x,eX y] [] (.B true) []:=by
 obtain ⟨h1,h2,h3,h4,h5⟩:=hx.uniq hg hy
 have hb:=hx.bounds hg hp
 have hyes:=fun h=>hx.yes_serves hg hp h
 have hai:=hx.acc_iff'
 obtain ⟨hkey,_,_⟩:=hx.at_ hg
 obtain ⟨k,ac,E,Pa,sd⟩:=x
 obtain ⟨k',ac',E',Pb,sd'⟩:=y
 simp only at h1 h2 h3 h4 h5 hai hyes hkey
 subst h1 h2 h3 h4
 have hE:=hb.b
 have hS:=hb.s
 have hPl:=hb.p
 simp only at hE hS hPl
 have hs1:=za7 E E (by omega) (by omega)
 have hs2:=za7 sd sd (by omega) (by omega)
 rw [decide_eq_true rfl] at hs1 hs2
 refine zn3.acalls (nbz rfl) (nbz rfl) (Nat.zero_le _) ?_
 show awp _ 0 _ _ ⟨64,[(0,eG g),(1,eP p),(2,eX ⟨k,ac,E,Pa,sd⟩),(3,eX ⟨k,ac,E,Pb,sd⟩)],[],16⟩
 refine zaa ⟨64,[(4,.pv (gC g)),(5,.pv (pC p)),(6,.pv (xE ⟨k,ac,E,Pa,sd⟩)),(7,.pv (xE ⟨k,ac,E,Pb,sd⟩))],[],100⟩ rfl ?_ ?_
 ·simp
  exact LeH [] [16,24,32,40]
 have hPl2 : Pb.length = Pa.length:=h5.symm
 refine zar ⟨64,[(8,.B true)],[],2000⟩ rfl ?_ ?_
 ·cases ac with
  | false =>
    simp
    refine zal hs1 (by simp) ?_
    simp
    refine zal hs2 (by simp) ?_
    simp [hPl2]
    exact ⟨rfl,LeH [] []⟩
  | true =>
    have hsv:=zgG g p Pa (E ++ [k]) hg hp hs (by rw [hkey]; exact hyes (hai.1 rfl))
    simp
    refine zal hs1 (by simp) ?_
    simp
    refine zal hs2 (by simp) ?_
    simp [hPl2]
    refine ⟨by omega,by omega,by omega,by omega,?_⟩
    refine zk0 [508] (by simp) hsv (by simp [fcd,zak]; exact List.take_of_length_le (by simp)) ?_
    simp
    exact ⟨rfl,LeH [] []⟩
 refine zah ?_
 exact ⟨.inr rfl,zan.one (by simp)⟩
set_option maxRecDepth 100000 in
set_option maxHeartbeats 4000000 in
open Classical in
theorem zlb (g : Gr) (p : Pol) (key : Int) (x : Expl) (hg : GrOk g) (hp : za9 g.size p) (hs : p.seeds.length ≤ 64) (hx : ForR g p (ordL (zai g p.lv) p.seeds) key x) :
  zaj Tryz.prog zgb [eG g,eP p,eX x] [] (.B true) []:=by
 have hb:=hx.bounds hg hp
 have hyes:=fun h=>hx.yes_serves hg hp h
 have hpr:=fun h=>hx.no_proves hg hp h
 have hyf:=fun h=>(hx.yes h).2.1
 have hnf:=fun h=>(hx.no h).2.1
 have hai:=hx.acc_iff'
 obtain ⟨hkey,ha,_⟩:=hx.at_ hg
 obtain ⟨j1,j2,j3⟩:=ha.joined hg
 obtain ⟨k,ac,E,Pa,sd⟩:=x
 simp only at hai hyes hkey hpr hyf hnf j1 j2 j3
 have hE:=hb.b
 have hS:=hb.s
 simp only at hE hS
 rw [← hkey] at hai hyes hpr j1 j2 j3 hyf hnf
 refine zoD.acalls (nbz rfl) (nbz rfl) (Nat.zero_le _) ?_
 show awp _ 0 _ _ ⟨57,[(0,eG g),(1,eP p),(2,eX ⟨k,ac,E,Pa,sd⟩)],[],16⟩
 refine zaa ⟨57,[(3,.pv (gC g)),(4,.pv (pC p)),(5,.pv (xE ⟨k,ac,E,Pa,sd⟩))],[],100⟩ rfl ?_ ?_
 ·simp
  exact LeH [] [16,24,32]
 obtain ⟨D,hD⟩ : ∃ D,D = E ++ [k]:=⟨_,rfl⟩
 refine zar ⟨57,[(3,.pv (gC g)),(4,.pv (pC p)),(5,.pv (xE ⟨k,ac,E,Pa,sd⟩)),(7,ints D)],[],200⟩ rfl ?_ ?_
 ·simp
  refine ⟨by omega,by omega,by omega,by omega,rfl,Le.go [] [156] rfl rfl (by simp [hD,fcd]; rw [List.take_of_length_le (by simp),show ints (E ++ [k]) = .vs 1 false (E.map (fun x=>[AV.I x]) ++ [[AV.I k]]) by simp]; exact .refl _) (by simp)⟩
 refine zab ?_
 refine zaa ⟨57,[(3,.pv (gC g)),(4,.pv (pC p)),(5,.pv (xE ⟨k,ac,E,Pa,sd⟩)),(7,ints D),(19,.B ac)],[],300⟩ rfl ?_ ?_
 ·simp
  exact LeH [] []
 refine zac _ rfl (fun h4=>?_) fun h4=>?_
 ·subst h4
  have hin:=hai.1 rfl
  have hsv:=zgG g p Pa (E ++ [k]) hg hp hs (hyes hin)
  have hsd:=hyf hin
  subst hsd
  rw [← hD] at hsv
  refine zaa ⟨57,[(6,.B true)],[],500⟩ rfl ?_ ?_
  ·simp
   refine zal hsv (by simp) ?_
   simp
   exact LeH [] []
  refine zah ?_
  exact ⟨.inr rfl,zan.one (by simp)⟩
 subst h4
 have hnin : k ∉ accR g p (ordL (zai g p.lv) p.seeds):=fun h=>by have:=hai.2 h; cases this
 have hPa:=hnf hnin
 subst hPa
 have hprv:=hpr hnin
 have hJl:=zb3 (E ++ [k])
 have hEk : (E ++ [k]).length ≤ 300:=by simp; omega
 have hnet:=zdA g p (zat (E ++ [k])) hg hp (zd5 fun x hx=>j3 x (zb7.2 ⟨hx,by have h1:=j2.mem_iff.1 hx; have h2:=j3 x h1; have h3:=hg.1.2.1; omega⟩)) hs hJl
 have hjn:=zeC (E ++ [k]) [] (by omega) (by simp)
 rw [List.append_nil] at hjn
 rw [← hD] at hnet hjn hprv hJl
 have hnal : (zaW g p (zax g p) (zat D)).length ≤ 1200:=by
  have:=zgi hg hp (ks:=zat D) (by rw [hD]; exact j3) hs hJl
  exact this.2.2.1
 obtain ⟨A,hA⟩ : ∃ A,A = zaW g p (zax g p) (zat D):=⟨_,rfl⟩
 obtain ⟨J,hJ⟩ : ∃ J,J = zat D:=⟨_,rfl⟩
 rw [← hA] at hnet hprv hnal
 rw [← hJ] at hnet hjn
 have hprf:=zkX ⟨2 + 2 * g.size,A⟩ sd E.length (by simp only; omega) (by omega)
 rw [decide_eq_true hprv] at hprf
 refine zad ?_
 refine zar ⟨57,[(5,.pv (xE ⟨k,false,E,[],sd⟩)),(8,.pv (nC ⟨2 + 2 * g.size,A⟩)),(9,.I 0)],[],600⟩ rfl ?_ ?_
 ·simp
  refine zjH hjn (by simp [Wk.refl,ints,Wk.nil]) ?_
  simp
  refine zk0 [324] (by simp) hnet (by simp [fcd,zak]) ?_
  simp [zaE]
  exact ⟨rfl,LeH [] [364]⟩
 refine zaa ⟨57,[(6,.B true)],[],900⟩ rfl ?_ ?_
 ·simp
  refine zal hprf (by simp) ?_
  simp
  exact LeH [] []
 refine zah ?_
 exact ⟨.inr rfl,zan.one (by simp)⟩
variable {N : Nat} {A : List Ed} {f : List Int}
set_option maxRecDepth 100000
theorem ForR.step {g : Gr} {p : Pol} {x : Expl} {i : Nat} {o : List Int} (hg : GrOk g) (ho : o = ordL (zai g p.lv) p.seeds) (h : i < o.length) (hx : ForR g p o o[i] x) :
  x.key = o[i] ∧ x.before = accR g p (o.take i) ∧ accR g p (o.take (i + 1)) = accR g p (o.take i) ++ if x.acc = true then [o[i]] else []:=by
 subst ho
 have hn:=zbu (zai g p.lv) p.seeds
 obtain ⟨h1,h2,j,hj,hjk,hjb⟩:=hx.at_ hg
 have hji : j = i:=(List.getElem_inj hn).1 hjk
 subst hji
 refine ⟨h1,hjb,?_⟩
 have hai:=hx.acc_iff'
 have hac:=zjG (g:=g) (p:=p) hn h
 rw [List.take_succ_eq_append_getElem h]
 by_cases hc : zau g p (zat (accR g p ((ordL (zai g p.lv) p.seeds).take j) ++ [(ordL (zai g p.lv) p.seeds)[j]]))
 ·rw [zdG hc,if_pos (hai.2 (hac.2 hc))]
 ·rw [zgN hc,if_neg fun ha=>hc (hac.1 (hai.1 ha)),List.append_nil]
set_option maxRecDepth 100000 in
set_option maxHeartbeats 8000000 in
open Classical in
theorem zgY (L : List Int) : zaj Tryz.prog zeH [ints L] [] (.B true) []:=by
 refine ziJ.acalls (nbz rfl) (nbz rfl) (Nat.le_refl _) ?_
 show awp _ 0 _ _ ⟨112,[(0,ints L)],[],16⟩
 have hlight:=ze8 L
 refine rx (s:=?s1) [0] [] [] rfl ?o1 ?q1
 case o1=>simp; rfl
 refine zab ?_
 refine zaa ⟨112,[(0,ints L),(15,.B (!decide (L.length ≤ 400)))],[],100⟩ rfl ?_ ?_
 ·simp
  refine zal hlight (by simp) ?_
  simp
  exact Le.go [] [] rfl rfl (by simp <;> exact wkB (by rw [Bool.eq_iff_iff]; simp)) (by simp)
 refine zac _ rfl (fun h3=>?_) fun h3=>?_
 ·refine rx (s:=?s4) [2] [] [] rfl ?o4 ?q4
  case o4=>simp; refine zal zbY (by simp) ?_; simp; rfl
  refine zah ?_
  exact ⟨.inr rfl,zan.one (by simp)⟩
 have h3 : L.length ≤ 400:=by simpa using h3
 obtain ⟨g,b1,⟨hg,hg2,hg9,hb1⟩,hcg⟩:=zqc L h3
 obtain ⟨⟨p,b2⟩,⟨hp1,hp2,hp3,hb2⟩,hcp⟩:=zjC L b1 g h3 hb1 (by omega) (by omega)
 simp only at hp1 hp2 hp3 hb2 hcp
 have hel:=hg.edges_le
 have hgl:=hg.gone_le
 refine zad ?_
 refine zaa ⟨112,[(3,.pt 20 0 0)],[(20,some (dice L 0))],200⟩ rfl ?_ ?_
 ·simp
  refine zaN (zm4 L) (by simp) ?_
  simp
  exact LeH [(108,20)] []
 refine zaa ⟨112,[(3,.pt 20 0 0),(4,.pv (gC g))],[(20,some (dice L b1))],300⟩ rfl ?_ ?_
 ·simp
  refine zbp (i:=20) rfl (e':=dice L 0) (by simp) hcg (by simp) (by simp) ?_
  simp
  exact LeH [(20,20)] [216]
 refine zaa ⟨112,[(3,.pt 20 0 0),(4,.pv (gC g)),(5,.pv (pC p))],[(20,some (dice L b2))],400⟩ rfl ?_ ?_
 ·simp
  refine zbp (i:=20) rfl (e':=dice L b1) (by simp) hcp (by simp) (by simp) ?_
  simp
  exact LeH [(20,20)] [324]
 obtain ⟨X,⟨hXl,hXr⟩,hall⟩:=ze5 g p hg hp1 (by omega) (by omega)
 obtain ⟨⟨R,fl⟩,_,hrun⟩:=zvo g p hg hp1 (by omega)
 simp only at hrun
 have hlev:=zbZ g p.lv (by omega) (by omega)
 have hord:=zgz (g:=zai g p.lv) (S:=p.seeds) (hg.level p.lv) (by omega)
 have hol : (ordL (zai g p.lv) p.seeds).length ≤ 64:=by
  have h1:=zem (g:=zai g p.lv) (S:=p.seeds) hg.1.1
  have h2 : (zai g p.lv).size = g.size:=rfl
  omega
 have hshown:=fun key x=>zlb g p key x hg hp1 (by omega)
 obtain ⟨o,ho⟩ : ∃ o,o = ordL (zai g p.lv) p.seeds:=⟨_,rfl⟩
 have hstep:=fun (i : Nat) (h : i < o.length) (x : Expl) (hx : ForR g p o o[i] x)=>hx.step hg ho h
 rw [← ho] at hXl hXr hrun hord hol hshown
 obtain ⟨F,hF⟩ : ∃ F : Nat → List Int,∀ i,F i = accR g p (o.take i):=⟨_,fun _=>rfl⟩
 have hF0 : F 0 = []:=by rw [hF]; rfl
 have hFl : ∀ i,(F i).length ≤ 64:=fun i=>by
  rw [hF]
  refine Nat.le_trans (zh9 _) ?_
  rw [List.length_take]
  omega
 have hFe : accR g p o = F o.length:=by rw [hF,List.take_length]
 simp only [← hF] at hstep
 rw [hFe] at hrun
 refine zaa ⟨112,[(4,.pv (gC g)),(5,.pv (pC p)),(6,eXs X),(7,.I 0)],[],500⟩ rfl ?_ ?_
 ·simp
  refine zal hall (by simp) ?_
  simp
  exact LeH [] []
 refine zaa ⟨112,[(4,.pv (gC g)),(5,.pv (pC p)),(6,eXs X),(7,.I 0),(8,.pv [ints (F o.length),ints fl,.vs 2 false (zbb R)]),(9,.I 0)],[],600⟩ rfl ?_ ?_
 ·simp
  refine zal hrun (by simp) ?_
  simp [zaE]
  exact LeH [] [548]
 refine zar ⟨112,[(4,.pv (gC g)),(5,.pv (pC p)),(6,eXs X),(7,.I 0),(8,.pv [ints (F o.length),ints fl,.vs 2 false (zbb R)]),(9,.I 0),(10,ints o)],[],700⟩ rfl ?_ ?_
 ·simp
  refine zal hlev (by simp) ?_
  simp
  refine zaN hord (by simp) ?_
  simp
  exact ⟨rfl,Le.go [] [648] rfl rfl (by simp [fcd,zak]) (by simp)⟩
 refine zab ?_
 refine zaa ⟨112,[(4,.pv (gC g)),(5,.pv (pC p)),(6,eXs X),(8,.pv [ints (F o.length),ints fl,.vs 2 false (zbb R)]),(10,ints o),(55,.B false)],[],900⟩ rfl ?_ ?_
 ·simp [hXl]
  exact LeH [] []
 refine zac _ rfl (fun h=>by cases h) fun _=>?_
 refine zad ?_
 refine zaa ⟨112,[(4,.pv (gC g)),(5,.pv (pC p)),(6,eXs X),(8,.pv [ints (F o.length),ints fl,.vs 2 false (zbb R)]),(10,ints o),(11,.nilS)],[],1000⟩ rfl ?_ ?_
 ·simp
  exact LeH [] []
 refine zab ?_
 refine zaa ⟨112,[(4,.pv (gC g)),(5,.pv (pC p)),(6,eXs X),(8,.pv [ints (F o.length),ints fl,.vs 2 false (zbb R)]),(10,ints o),(11,.nilS),(12,.I 0)],[],1100⟩ rfl ?_ ?_
 ·simp
  exact LeH [] []
 refine zae ?_
 refine zao (ι:=Nat) (fun i=>⟨112,[(4,.pv (gC g)),(5,.pv (pC p)),(6,eXs X),(8,.pv [ints (F o.length),ints fl,.vs 2 false (zbb R)]),(10,ints o),(11,.rs 17 0 (F i).length),(12,.I i)],[(17,some ⟨1,zaf (F i),0⟩)],1100⟩) (fun i=>i ≤ X.length) (fun i=>X.length - i) 0 (Nat.zero_le _)
  (Le.lst [] [] [(17,1)] rfl (by simp) (by simp) (by simp) (by simp) (by simp) (by simp) (by simp) (by simp [Up,hF0]) (by simp [hF0])) ?_
 intro i hi
 refine zab ?_
 refine zaa ⟨112,[(4,.pv (gC g)),(5,.pv (pC p)),(6,eXs X),(8,.pv [ints (F o.length),ints fl,.vs 2 false (zbb R)]),(10,ints o),(11,.rs 17 0 (F i).length),(12,.I i),(59,.B (decide (i < X.length)))],[(17,some ⟨1,zaf (F i),0⟩)],1200⟩ rfl ?_ ?_
 ·simp
  exact LeI [(17,17)] []
 refine zac _ rfl (fun h17=>?_) fun h17=>?_
 ·rw [decide_eq_true_eq] at h17
  have hio : i < o.length:=by omega
  have hwi : IntKind.i64.wrap ((i : Int) + 1) = ((i + 1 : Nat) : Int):=by rw [w64 (by omega) (by omega)]; omega
  have hXi:=hXr i h17 hio
  obtain ⟨x,hx⟩ : ∃ x,x = X[i]:=⟨_,rfl⟩
  rw [← hx] at hXi
  obtain ⟨e1,e2,e3⟩:=hstep i hio x hXi
  have hsh:=hshown _ x hXi
  obtain ⟨k,hk⟩ : ∃ k,k = o[i]:=⟨_,rfl⟩
  rw [← hk] at e1 e3
  have hsm:=za7 (F i) (F i) (by have:=hFl i; omega) (by have:=hFl i; omega)
  rw [decide_eq_true rfl] at hsm
  have hFi:=hFl i
  obtain ⟨k',ac,E,Pa,sd⟩:=x
  simp only at e1 e2 e3
  subst e1 e2
  have hXg : X[i]? = some ⟨k',ac,F i,Pa,sd⟩:=by rw [List.getElem?_eq_getElem h17,← hx]
  refine zad ?_
  refine zab ?_
  refine zae ?_
  refine zab ?_
  refine zar ⟨112,[(4,.pv (gC g)),(5,.pv (pC p)),(6,eXs X),(8,.pv [ints (F o.length),ints fl,.vs 2 false (zbb R)]),(10,ints o),(11,.rs 17 0 (F i).length),(12,.I i),(91,.B false)],[(17,some ⟨1,zaf (F i),0⟩)],1500⟩ rfl ?_ ?_
  ·simp [h17,← hx,hio,← hk]
   refine zdq [17] hsm (by simp [fcd,zak]) (.sc _) ?_
   simp [h17,← hx]
   refine zal hsh (by simp) ?_
   simp
   exact ⟨rfl,LeI [(17,17)] []⟩
  refine zac _ rfl (fun h=>by cases h) fun _=>?_
  refine zad ?_
  refine zaa ⟨112,[(4,.pv (gC g)),(5,.pv (pC p)),(6,eXs X),(8,.pv [ints (F o.length),ints fl,.vs 2 false (zbb R)]),(10,ints o),(11,.rs 17 0 (F i).length),(12,.I i),(96,.B ac)],[(17,some ⟨1,zaf (F i),0⟩)],1600⟩ rfl ?_ ?_
  ·simp [h17,← hx]
   exact LeI [(17,17)] []
  cases ac with
  | true =>
    rw [if_pos rfl] at e3
    refine zac _ rfl (fun _=>?_) fun h=>by cases h
    refine zaq rfl ?_
    simp [h17,← hx,zak]
    refine ⟨by omega,by omega,?_⟩
    refine zaq rfl ?_
    simp
    exact ⟨i + 1,h17,by omega,Le.go [(1656,17)] [] rfl rfl (by simp [hwi,e3]) (by simp [e3,fcd])⟩
  | false =>
    rw [if_neg (by simp),List.append_nil] at e3
    refine zac _ rfl (fun h=>by cases h) fun _=>?_
    refine zad ?_
    refine zaq rfl ?_
    simp
    exact ⟨i + 1,h17,by omega,Le.go [(17,17)] [] rfl rfl (by simp [hwi,e3]) (by simp [e3,fcd])⟩
 rw [decide_eq_false_iff_not] at h17
 obtain rfl : i = X.length:=by omega
 rw [hXl]
 have hFi:=hFl o.length
 have hsm:=za7 (F o.length) (F o.length) (by omega) (by omega)
 rw [decide_eq_true rfl] at hsm
 refine zam ?_
 refine hit ?_
 refine zaa ⟨112,[(2,.B true)],[],1600⟩ rfl ?_ ?_
 ·simp
  refine zdq [17] hsm (by simp [fcd,zak]) (.sc _) ?_
  simp
  refine zal zbY (by simp) ?_
  simp
  exact LeH [] []
 refine zah ?_
 exact ⟨.inr rfl,zan.one (by simp)⟩
set_option maxRecDepth 100000 in
set_option maxHeartbeats 8000000 in
open Classical in
theorem zgw (L : List Int) : zaj Tryz.prog zeg [ints L] [] (.B true) []:=by
 refine zh2.acalls (nbz rfl) (nbz rfl) (Nat.le_refl _) ?_
 show awp _ 0 _ _ ⟨140,[(0,ints L)],[],16⟩
 have hlight:=ze8 L
 refine rx (s:=?s1) [0] [] [] rfl ?o1 ?q1
 case o1=>simp; rfl
 refine zab ?_
 refine zaa ⟨140,[(0,ints L),(15,.B (!decide (L.length ≤ 400)))],[],100⟩ rfl ?_ ?_
 ·simp
  refine zal hlight (by simp) ?_
  simp
  exact Le.go [] [] rfl rfl (by simp <;> exact wkB (by rw [Bool.eq_iff_iff]; simp)) (by simp)
 refine zac _ rfl (fun h3=>?_) fun h3=>?_
 ·refine rx (s:=?s4) [2] [] [] rfl ?o4 ?q4
  case o4=>simp; refine zal zbY (by simp) ?_; simp; rfl
  refine zah ?_
  exact ⟨.inr rfl,zan.one (by simp)⟩
 have h3 : L.length ≤ 400:=by simpa using h3
 obtain ⟨g,b1,⟨hg,hg2,hg9,hb1⟩,hcg⟩:=zqc L h3
 obtain ⟨⟨p,b2⟩,⟨hp1,hp2,hp3,hb2⟩,hcp⟩:=zjC L b1 g h3 hb1 (by omega) (by omega)
 simp only at hp1 hp2 hp3 hb2 hcp
 have hel:=hg.edges_le
 have hgl:=hg.gone_le
 refine zad ?_
 refine zaa ⟨140,[(3,.pt 20 0 0)],[(20,some (dice L 0))],200⟩ rfl ?_ ?_
 ·simp
  refine zaN (zm4 L) (by simp) ?_
  simp
  exact LeH [(108,20)] []
 refine zaa ⟨140,[(3,.pt 20 0 0),(4,.pv (gC g))],[(20,some (dice L b1))],300⟩ rfl ?_ ?_
 ·simp
  refine zbp (i:=20) rfl (e':=dice L 0) (by simp) hcg (by simp) (by simp) ?_
  simp
  exact LeH [(20,20)] [216]
 refine zaa ⟨140,[(3,.pt 20 0 0),(4,.pv (gC g)),(5,.pv (pC p))],[(20,some (dice L b2))],400⟩ rfl ?_ ?_
 ·simp
  refine zbp (i:=20) rfl (e':=dice L b1) (by simp) hcp (by simp) (by simp) ?_
  simp
  exact LeH [(20,20)] [324]
 obtain ⟨X,⟨hXl,hXr⟩,hall⟩:=ze5 g p hg hp1 (by omega) (by omega)
 have hol : (ordL (zai g p.lv) p.seeds).length ≤ 64:=by
  have h1:=zem (g:=zai g p.lv) (S:=p.seeds) hg.1.1
  have h2 : (zai g p.lv).size = g.size:=rfl
  omega
 refine zaa ⟨140,[(4,.pv (gC g)),(5,.pv (pC p)),(6,eXs X),(7,.I 0)],[],500⟩ rfl ?_ ?_
 ·simp
  refine zal hall (by simp) ?_
  simp
  exact LeH [] []
 refine zab ?_
 refine zaa ⟨140,[(4,.pv (gC g)),(5,.pv (pC p)),(6,eXs X),(31,.B false)],[],600⟩ rfl ?_ ?_
 ·simp
  exact LeH [] []
 refine zac _ rfl (fun h=>by cases h) fun _=>?_
 refine zad ?_
 refine zab ?_
 refine zaa ⟨140,[(4,.pv (gC g)),(5,.pv (pC p)),(6,eXs X),(8,.I 0)],[],700⟩ rfl ?_ ?_
 ·simp
  exact LeH [] []
 refine zae ?_
 refine zao (ι:=Nat) (fun i=>⟨140,[(4,.pv (gC g)),(5,.pv (pC p)),(6,eXs X),(8,.I i)],[],700⟩) (fun i=>i ≤ X.length) (fun i=>X.length - i) 0 (Nat.zero_le _) (LeH [] []) ?_
 intro i hi
 refine zab ?_
 refine zaa ⟨140,[(4,.pv (gC g)),(5,.pv (pC p)),(6,eXs X),(8,.I i),(35,.B (decide (i < X.length)))],[],800⟩ rfl ?_ ?_
 ·simp
  exact LeH [] []
 refine zac _ rfl (fun h14=>?_) fun h14=>?_
 ·rw [decide_eq_true_eq] at h14
  have hio : i < (ordL (zai g p.lv) p.seeds).length:=by omega
  have hwi : IntKind.i64.wrap ((i : Int) + 1) = ((i + 1 : Nat) : Int):=by rw [w64 (by omega) (by omega)]; omega
  have hXi:=hXr i h14 hio
  obtain ⟨x,hx⟩ : ∃ x,x = X[i]:=⟨_,rfl⟩
  rw [← hx] at hXi
  have hb:=hXi.bounds hg hp1
  have hpr:=fun h=>hXi.no_proves hg hp1 h
  have hnf:=fun h=>(hXi.no h).2.1
  have hai:=hXi.acc_iff'
  obtain ⟨hkey,ha,_⟩:=hXi.at_ hg
  obtain ⟨j1,j2,j3⟩:=ha.joined hg
  rw [← hkey] at hpr hnf hai j1 j2 j3
  obtain ⟨k,ac,E,Pa,sd⟩:=x
  simp only at hpr hnf hai j1 j2 j3
  have hE:=hb.b
  have hS:=hb.s
  simp only at hE hS
  refine zad ?_
  refine zab ?_
  refine zae ?_
  refine zab ?_
  refine zaa ⟨140,[(4,.pv (gC g)),(5,.pv (pC p)),(6,eXs X),(8,.I i),(42,.B ac)],[],900⟩ rfl ?_ ?_
  ·simp [h14,← hx]
   exact LeH [] []
  cases ac with
  | true =>
    refine zac _ rfl (fun _=>?_) fun h=>by cases h
    refine zam ?_
    refine hit ?_
    refine zaq rfl ?_
    simp
    exact ⟨i + 1,h14,by omega,Le.go [] [] rfl rfl (by simp [hwi]) (by simp)⟩
  | false =>
    have hnin : k ∉ accR g p (ordL (zai g p.lv) p.seeds):=fun h=>by have:=hai.2 h; cases this
    have hPa:=hnf hnin
    subst hPa
    have hprv:=hpr hnin
    have hJl:=zb3 (E ++ [k])
    have hEk : (E ++ [k]).length ≤ 300:=by simp; omega
    have hnet:=zdA g p (zat (E ++ [k])) hg hp1 (zd5 fun x hx=>j3 x (zb7.2 ⟨hx,by have h1:=j2.mem_iff.1 hx; have h2:=j3 x h1; omega⟩)) (by omega) hJl
    have hjn:=zeC E [k] (by omega) (by simp)
    have hnv:=zgi hg hp1 (ks:=zat (E ++ [k])) j3 (by omega) hJl
    obtain ⟨A,hA⟩ : ∃ A,A = zaW g p (zax g p) (zat (E ++ [k])):=⟨_,rfl⟩
    rw [show netA g p (zat (E ++ [k])) = A from hA.symm] at hnv
    rw [← hA] at hnet hprv
    obtain ⟨J,hJ⟩ : ∃ J,J = zat (E ++ [k]):=⟨_,rfl⟩
    rw [← hJ] at hnet hjn
    have hnal:=hnv.2.2.1
    have hnav:=hnv.2.2.2
    simp only at hnal hnav
    obtain ⟨⟨_,_,h0,h1⟩,hcut⟩:=hprv
    simp only at hcut
    have hh0:=zcy sd 0 (by omega)
    have hh1:=zcy sd 1 (by omega)
    have hhk:=fun q=>zcy sd q (by omega)
    rw [decide_eq_true h0] at hh0
    rw [decide_eq_false h1] at hh1
    obtain ⟨N,hN⟩ : ∃ N,N = 2 + 2 * g.size:=⟨_,rfl⟩
    rw [← hN] at hnet
    refine zac _ rfl (fun h=>by cases h) fun _=>?_
    refine zad ?_
    refine zar ⟨140,[(4,.pv (gC g)),(5,.pv (pC p)),(6,eXs X),(8,.I i),(9,.pv (nC ⟨N,A⟩)),(10,.I 0)],[],1200⟩ rfl ?_ ?_
    ·simp [h14,← hx]
     refine zeS [996] hjn (by simp) (.rs _ _ _) zjQ ?_
     simp
     refine zk0 [1004] (by simp) hnet (by simp [fcd,zak]) ?_
     simp [zaE]
     exact ⟨rfl,LeH [] [1044]⟩
    refine zab ?_
    refine zaa ⟨140,[(4,.pv (gC g)),(5,.pv (pC p)),(6,eXs X),(8,.I i),(9,.pv (nC ⟨N,A⟩)),(88,.B false)],[],1500⟩ rfl ?_ ?_
    ·simp [h14,← hx]
     refine zal hh0 (by simp) ?_
     simp [h14,← hx]
     refine zal hh1 (by simp) ?_
     simp [h14,← hx]
     exact LeH [] []
    refine zac _ rfl (fun h=>by cases h) fun _=>?_
    refine zad ?_
    refine zaa ⟨140,[(4,.pv (gC g)),(5,.pv (pC p)),(6,eXs X),(8,.I i),(9,.pv (nC ⟨N,A⟩)),(11,.I 0)],[],1600⟩ rfl ?_ ?_
    ·simp
     exact LeH [] []
    refine zab ?_
    refine zaa ⟨140,[(4,.pv (gC g)),(5,.pv (pC p)),(6,eXs X),(8,.I i),(9,.pv (nC ⟨N,A⟩)),(11,.I 0),(12,.I 0)],[],1700⟩ rfl ?_ ?_
    ·simp
     exact LeH [] []
    refine zae ?_
    refine zao (ι:=Nat) (fun q=>⟨140,[(4,.pv (gC g)),(5,.pv (pC p)),(6,eXs X),(8,.I i),(9,.pv (nC ⟨N,A⟩)),(11,.I (cutV (A.take q) sd)),(12,.I q)],[],1700⟩) (fun q=>q ≤ A.length) (fun q=>A.length - q) 0 (Nat.zero_le _) (Le.go [] [] rfl rfl (by simp [cutV]) (by simp)) ?_
    intro q hq
    have hcb:=ziP (n:=N) (side:=sd) (arcs:=A.take q) fun a ha=>by
     have:=hnav a (List.mem_of_mem_take ha)
     rw [zgp hg,← hN] at this
     exact this
    have htl:=List.length_take_le' q A
    refine zab ?_
    refine zaa ⟨140,[(4,.pv (gC g)),(5,.pv (pC p)),(6,eXs X),(8,.I i),(9,.pv (nC ⟨N,A⟩)),(11,.I (cutV (A.take q) sd)),(12,.I q),(93,.B (decide (q < A.length)))],[],1800⟩ rfl ?_ ?_
    ·simp
     exact LeH [] []
    refine zac _ rfl (fun h24=>?_) fun h24=>?_
    ·rw [decide_eq_true_eq] at h24
     have hwq : IntKind.i64.wrap ((q : Int) + 1) = ((q + 1 : Nat) : Int):=by rw [w64 (by omega) (by omega)]; omega
     have hcs:=znv A sd q h24
     have hav:=hnav _ (List.getElem_mem h24)
     have hav1 : 0 ≤ A[q].v:=hav.2.2.2.2.2.2.2.1
     have hav2 : A[q].v ≤ 1048576:=hav.2.2.2.2.2.2.2.2
     obtain ⟨e,he⟩ : ∃ e,e = A[q]:=⟨_,rfl⟩
     rw [← he] at hcs hav1 hav2
     have hAq : A[q]? = some e:=by rw [List.getElem?_eq_getElem h24,he]
     obtain ⟨cv,hcv⟩ : ∃ cv,cv = cutV (A.take q) sd:=⟨_,rfl⟩
     rw [← hcv] at hcs hcb ⊢
     have hwv : IntKind.i64.wrap (cv + e.v) = cv + e.v:=w64 (by omega) (by omega)
     obtain ⟨b,hbd⟩ : ∃ b,b = decide (e.f ∈ sd ∧ e.t ∉ sd):=⟨_,rfl⟩
     refine zad ?_
     refine zab ?_
     refine zae ?_
     refine zar ⟨140,[(4,.pv (gC g)),(5,.pv (pC p)),(6,eXs X),(8,.I i),(9,.pv (nC ⟨N,A⟩)),(11,.I cv),(12,.I q),(122,.B b)],[],2200⟩ rfl ?_ ?_
     ·have hhf:=hhk e.f
      have hht:=hhk e.t
      by_cases c1 : e.f ∈ sd
      ·rw [decide_eq_true c1] at hhf
       obtain ⟨b2,hb2⟩ : ∃ b2,b2 = decide (e.t ∈ sd):=⟨_,rfl⟩
       rw [show @decide (e.t ∈ sd) (List.instDecidableMemOfLawfulBEq e.t sd) = b2 by rw [hb2]] at hht
       have hb' : b = !b2:=by rw [hbd,hb2]; simp [c1]
       simp [h14,← hx,h24,← he]
       refine zal hhf (by simp) ?_
       simp [h14,← hx,h24,← he]
       refine zal hht (by simp) ?_
       simp
       exact ⟨rfl,Le.go [] [] rfl rfl (by simp [hb']) (by simp)⟩
      ·rw [decide_eq_false c1] at hhf
       have hb' : b = false:=by rw [hbd]; simp [c1]
       simp [h14,← hx,h24,← he]
       refine zal hhf (by simp) ?_
       simp
       exact ⟨rfl,Le.go [] [] rfl rfl (by simp [hb']) (by simp)⟩
     cases b with
     | true =>
       rw [if_pos (of_decide_eq_true hbd.symm)] at hcs
       refine zac _ rfl (fun _=>?_) fun h=>by cases h
       refine zaq rfl ?_
       simp [h24,← he]
       refine zaq rfl ?_
       simp
       exact ⟨q + 1,h24,by omega,Le.go [] [] rfl rfl (by simp [hwq,hcs,hwv]) (by simp)⟩
     | false =>
       rw [if_neg (of_decide_eq_false hbd.symm),Int.add_zero] at hcs
       refine zac _ rfl (fun h=>by cases h) fun _=>?_
       refine zad ?_
       refine zaq rfl ?_
       simp
       exact ⟨q + 1,h24,by omega,Le.go [] [] rfl rfl (by simp [hwq,hcs]) (by simp)⟩
    rw [decide_eq_false_iff_not] at h24
    obtain rfl : q = A.length:=by omega
    rw [List.take_length]
    refine zam ?_
    refine hit ?_
    refine zaa ⟨140,[(4,.pv (gC g)),(5,.pv (pC p)),(6,eXs X),(8,.I i),(138,.B false)],[],2000⟩ rfl ?_ ?_
    ·have hc2 : ¬ (E.length : Int) < cutV A sd:=by omega
     simp [h14,← hx,hc2]
     exact LeH [] []
    refine zac _ rfl (fun h=>by cases h) fun _=>?_
    refine zad ?_
    refine zaq rfl ?_
    simp
    exact ⟨i + 1,h14,by omega,Le.go [] [] rfl rfl (by simp [hwi]) (by simp)⟩
 rw [decide_eq_false_iff_not] at h14
 refine zam ?_
 refine hit ?_
 refine zaa ⟨140,[(2,.B true)],[],1600⟩ rfl ?_ ?_
 ·simp
  refine zal zbY (by simp) ?_
  simp
  exact LeH [] []
 refine zah ?_
 exact ⟨.inr rfl,zan.one (by simp)⟩
def cntO (o : List Int) (k i : Nat) : Nat:=o.countP (fun x=>decide (x < (k : Int))) + (o.take i).count (k : Int)
theorem zsc {o : List Int} {k i : Nat} (h : i < o.length) : cntO o k (i + 1) = cntO o k i + if o[i] = (k : Int) then 1 else 0:=by
 unfold cntO
 rw [zfz o i h]
 omega
theorem zsw (o : List Int) (k : Nat) : cntO o k o.length = cntO o (k + 1) 0:=by
 unfold cntO
 rw [List.take_length,List.take_zero,List.count_nil,Nat.add_zero]
 induction o with
 | nil=>rfl
 | cons x o ih =>
   simp only [List.countP_cons,List.count_cons,beq_iff_eq,decide_eq_true_eq]
   rcases Int.lt_trichotomy x (k : Int) with h | h | h
   ·rw [if_pos h,if_neg (by omega),if_pos (by omega)]; omega
   ·rw [if_neg (by omega),if_pos h,if_pos (by omega)]; omega
   ·rw [if_neg (by omega),if_neg (by omega),if_neg (by omega)]; omega
theorem ztg {o : List Int} (h : ∀ x ∈ o,0 ≤ x) : cntO o 0 0 = 0:=by
 unfold cntO
 rw [List.take_zero,List.count_nil,Nat.add_zero,List.countP_eq_zero]
 intro x hx
 have:=h x hx
 simp
 omega
theorem ztG {o : List Int} {n : Nat} (h : ∀ x ∈ o,x < (n : Int)) : cntO o n 0 = o.length:=by
 unfold cntO
 rw [List.take_zero,List.count_nil,Nat.add_zero,List.countP_eq_length]
 intro x hx
 simpa using h x hx
theorem zuY (o : List Int) (k i : Nat) : cntO o k i ≤ 2 * o.length:=by
 unfold cntO
 have h1:=List.countP_le_length (p:=fun x=>decide (x < (k : Int))) (l:=o)
 have h2 : (o.take i).count (k : Int) ≤ o.length:=Nat.le_trans List.count_le_length (List.length_take_le' i o)
 omega
set_option maxRecDepth 100000 in
set_option maxHeartbeats 8000000 in
open Classical in
theorem zgI (L : List Int) : zaj Tryz.prog zeJ [ints L] [] (.B true) []:=by
 refine ziK.acalls (nbz rfl) (nbz rfl) (Nat.le_refl _) ?_
 show awp _ 0 _ _ ⟨91,[(0,ints L)],[],16⟩
 have hlight:=ze8 L
 refine rx (s:=?s1) [0] [] [] rfl ?o1 ?q1
 case o1=>simp; rfl
 refine zab ?_
 refine zaa ⟨91,[(0,ints L),(16,.B (!decide (L.length ≤ 400)))],[],100⟩ rfl ?_ ?_
 ·simp
  refine zal hlight (by simp) ?_
  simp
  exact Le.go [] [] rfl rfl (by simp <;> exact wkB (by rw [Bool.eq_iff_iff]; simp)) (by simp)
 refine zac _ rfl (fun h3=>?_) fun h3=>?_
 ·refine rx (s:=?s4) [2] [] [] rfl ?o4 ?q4
  case o4=>simp; refine zal zbY (by simp) ?_; simp; rfl
  refine zah ?_
  exact ⟨.inr rfl,zan.one (by simp)⟩
 have h3 : L.length ≤ 400:=by simpa using h3
 obtain ⟨g,b1,⟨hg,hg2,hg9,hb1⟩,hcg⟩:=zqc L h3
 obtain ⟨⟨p,b2⟩,⟨hp1,hp2,hp3,hb2⟩,hcp⟩:=zjC L b1 g h3 hb1 (by omega) (by omega)
 simp only at hp1 hp2 hp3 hb2 hcp
 have hel:=hg.edges_le
 have hgl:=hg.gone_le
 refine zad ?_
 refine zaa ⟨91,[(3,.pt 20 0 0)],[(20,some (dice L 0))],200⟩ rfl ?_ ?_
 ·simp
  refine zaN (zm4 L) (by simp) ?_
  simp
  exact LeH [(108,20)] []
 refine zaa ⟨91,[(3,.pt 20 0 0),(4,.pv (gC g))],[(20,some (dice L b1))],300⟩ rfl ?_ ?_
 ·simp
  refine zbp (i:=20) rfl (e':=dice L 0) (by simp) hcg (by simp) (by simp) ?_
  simp
  exact LeH [(20,20)] [216]
 refine zaa ⟨91,[(3,.pt 20 0 0),(4,.pv (gC g)),(5,.pv (pC p))],[(20,some (dice L b2))],400⟩ rfl ?_ ?_
 ·simp
  refine zbp (i:=20) rfl (e':=dice L b1) (by simp) hcp (by simp) (by simp) ?_
  simp
  exact LeH [(20,20)] [324]
 obtain ⟨X,⟨hXl,hXr⟩,hall⟩:=ze5 g p hg hp1 (by omega) (by omega)
 have hol : (ordL (zai g p.lv) p.seeds).length ≤ 64:=by
  have h1:=zem (g:=zai g p.lv) (S:=p.seeds) hg.1.1
  have h2 : (zai g p.lv).size = g.size:=rfl
  omega
 have hyes:=fun key h=>ze3 g p key hg hp1 (by omega) (by omega) h
 have hno:=fun key h=>zgH g p key hg hp1 (by omega) (by omega) h
 have halike:=fun key x y hx hy=>zk9 g p key x y hg hp1 (by omega) hx hy
 have hkeyX:=fun key x (hx : ForR g p (ordL (zai g p.lv) p.seeds) key x)=>(hx.at_ hg).1
 obtain ⟨o,ho⟩ : ∃ o,o = ordL (zai g p.lv) p.seeds:=⟨_,rfl⟩
 have hor : ∀ k ∈ o,0 ≤ k ∧ k < g.size:=fun k hk=>by rw [ho] at hk; have h:=zb0 hk; exact h
 rw [← ho] at hXl hXr hol hyes hno halike hkeyX
 obtain ⟨N,hN⟩ : ∃ N : Nat,g.size = N:=⟨g.size.toNat,by have:=hg.1.1; omega⟩
 have hFor : ∀ k : Nat,∃ (x : Expl) (e : Int),(e = 0 ∧ (k : Int) ∈ o ∧ ForR g p o k x ∨ e = 11 ∧ (k : Int) ∉ o) ∧ zaj Tryz.prog zb9 [eG g,eP p,.I k] [] (.tup [eX x,.I e]) []:=fun k=>by
  by_cases hk : (k : Int) ∈ o
  ·obtain ⟨x,h1,h2⟩:=hyes k hk
   exact ⟨x,0,.inl ⟨rfl,hk,h1⟩,h2⟩
  ·exact ⟨_,11,.inr ⟨rfl,hk⟩,hno k hk⟩
 refine zaa ⟨91,[(4,.pv (gC g)),(5,.pv (pC p)),(6,eXs X),(7,.I 0)],[],500⟩ rfl ?_ ?_
 ·simp
  refine zal hall (by simp) ?_
  simp
  exact LeH [] []
 refine zaa ⟨91,[(4,.pv (gC g)),(5,.pv (pC p)),(6,eXs X),(7,.I 0),(8,.I 0)],[],600⟩ rfl ?_ ?_
 ·simp
  exact LeH [] []
 refine zab ?_
 refine zaa ⟨91,[(4,.pv (gC g)),(5,.pv (pC p)),(6,eXs X),(7,.I 0),(8,.I 0),(9,.I 0)],[],700⟩ rfl ?_ ?_
 ·simp
  exact LeH [] []
 refine zae ?_
 refine zao (ι:=Nat) (fun k=>⟨91,[(4,.pv (gC g)),(5,.pv (pC p)),(6,eXs X),(7,.I 0),(8,.I (cntO o k 0 : Nat)),(9,.I k)],[],700⟩) (fun k=>k ≤ N) (fun k=>N - k) 0 (Nat.zero_le _) (Le.go [] [] rfl rfl (by simp [ztg fun x hx=>(hor x hx).1]) (by simp)) ?_
 intro k hk
 refine zab ?_
 refine zaa ⟨91,[(4,.pv (gC g)),(5,.pv (pC p)),(6,eXs X),(7,.I 0),(8,.I (cntO o k 0 : Nat)),(9,.I k),(34,.B (decide (k < N)))],[],800⟩ rfl ?_ ?_
 ·simp [hN]
  exact Le.go [] [] rfl rfl (by simp [hN]) (by simp)
 refine zac _ rfl (fun h12=>?_) fun h12=>?_
 ·rw [decide_eq_true_eq] at h12
  have hwk : IntKind.i64.wrap ((k : Int) + 1) = ((k + 1 : Nat) : Int):=by rw [w64 (by omega) (by omega)]; omega
  obtain ⟨x,e,hxe,hcx⟩:=hFor k
  refine zad ?_
  refine zab ?_
  refine zae ?_
  refine zaa ⟨91,[(4,.pv (gC g)),(5,.pv (pC p)),(6,eXs X),(7,.I 0),(8,.I (cntO o k 0 : Nat)),(9,.I k),(10,.pv (xE x)),(11,.I e)],[],900⟩ rfl ?_ ?_
  ·simp
   refine zal hcx (by simp) ?_
   simp [zaE]
   exact LeH [] [856]
  refine zaa ⟨91,[(4,.pv (gC g)),(5,.pv (pC p)),(6,eXs X),(7,.I 0),(8,.I (cntO o k 0 : Nat)),(9,.I k),(10,.pv (xE x)),(11,.I e),(12,.B false)],[],1000⟩ rfl ?_ ?_
  ·simp
   exact LeH [] []
  refine zab ?_
  refine zaa ⟨91,[(4,.pv (gC g)),(5,.pv (pC p)),(6,eXs X),(7,.I 0),(8,.I (cntO o k 0 : Nat)),(9,.I k),(10,.pv (xE x)),(11,.I e),(12,.B false),(13,.I 0)],[],1100⟩ rfl ?_ ?_
  ·simp
   exact LeH [] []
  refine zae ?_
  refine zao (ι:=Nat) (fun i=>⟨91,[(4,.pv (gC g)),(5,.pv (pC p)),(6,eXs X),(7,.I 0),(8,.I (cntO o k i : Nat)),(9,.I k),(10,.pv (xE x)),(11,.I e),(12,.B (decide ((k : Int) ∈ o.take i))),(13,.I i)],[],1100⟩) (fun i=>i ≤ X.length) (fun i=>X.length - i) 0 (Nat.zero_le _) (LeH [] []) ?_
  intro i hi
  obtain ⟨fo,hfo⟩ : ∃ fo,fo = decide ((k : Int) ∈ o.take i):=⟨_,rfl⟩
  rw [← hfo]
  refine zab ?_
  refine zaa ⟨91,[(4,.pv (gC g)),(5,.pv (pC p)),(6,eXs X),(7,.I 0),(8,.I (cntO o k i : Nat)),(9,.I k),(10,.pv (xE x)),(11,.I e),(12,.B fo),(13,.I i),(47,.B (decide (i < X.length)))],[],1200⟩ rfl ?_ ?_
  ·simp
   exact LeH [] []
  refine zac _ rfl (fun h17=>?_) fun h17=>?_
  ·rw [decide_eq_true_eq] at h17
   have hio : i < o.length:=by omega
   have hwi : IntKind.i64.wrap ((i : Int) + 1) = ((i + 1 : Nat) : Int):=by rw [w64 (by omega) (by omega)]; omega
   have hXi:=hXr i h17 hio
   obtain ⟨y,hy⟩ : ∃ y,y = X[i]:=⟨_,rfl⟩
   rw [← hy] at hXi
   have hyk:=hkeyX _ y hXi
   have hcs:=zsc (k:=k) hio
   have hcl:=zuY o k i
   obtain ⟨c,hc⟩ : ∃ c,c = cntO o k i:=⟨_,rfl⟩
   rw [← hc] at hcs hcl ⊢
   have htk : o.take (i + 1) = o.take i ++ [o[i]]:=List.take_succ_eq_append_getElem hio
   obtain ⟨q,hq⟩ : ∃ q,q = o[i]:=⟨_,rfl⟩
   rw [← hq] at hyk hcs htk hXi
   have hwc : IntKind.i64.wrap ((c : Int) + 1) = ((c + 1 : Nat) : Int):=by rw [w64 (by omega) (by omega)]; omega
   refine zad ?_
   refine zab ?_
   refine zae ?_
   refine zaa ⟨91,[(4,.pv (gC g)),(5,.pv (pC p)),(6,eXs X),(7,.I 0),(8,.I c),(9,.I k),(10,.pv (xE x)),(11,.I e),(12,.B fo),(13,.I i),(56,.B (decide (q = (k : Int))))],[],1300⟩ rfl ?_ ?_
   ·simp [h17,← hy,hyk]
    exact Le.go [] [] rfl rfl (by simp <;> exact wkB (by rw [Bool.eq_iff_iff]; simp)) (by simp)
   refine zac _ rfl (fun h19=>?_) fun h19=>?_
   ·rw [decide_eq_true_eq] at h19
    subst h19
    rw [if_pos rfl] at hcs
    have hko : (k : Int) ∈ o:=by rw [hq]; exact List.getElem_mem hio
    have hxk : ForR g p o k x:=by
     rcases hxe with h | h
     ·exact h.2.2
     ·exact absurd hko h.2
    have hal:=halike k y x hXi hxk
    have hfn : decide ((k : Int) ∈ o.take (i + 1)) = true:=by rw [htk]; simp
    refine zaa ⟨91,[(4,.pv (gC g)),(5,.pv (pC p)),(6,eXs X),(7,.I 0),(8,.I c),(9,.I k),(10,.pv (xE x)),(11,.I e),(12,.B true),(13,.I i)],[],1400⟩ rfl ?_ ?_
    ·simp
     exact LeH [] []
    refine zaa ⟨91,[(4,.pv (gC g)),(5,.pv (pC p)),(6,eXs X),(7,.I 0),(8,.I (c + 1 : Nat)),(9,.I k),(10,.pv (xE x)),(11,.I e),(12,.B true),(13,.I i)],[],1500⟩ rfl ?_ ?_
    ·simp
     exact Le.go [] [] rfl rfl (by simp [hwc]) (by simp)
    obtain ⟨c1,hc1⟩ : ∃ c1,c1 = c + 1:=⟨_,rfl⟩
    rw [← hc1] at hcs ⊢
    refine zar ⟨91,[(4,.pv (gC g)),(5,.pv (pC p)),(6,eXs X),(7,.I 0),(8,.I c1),(9,.I k),(10,.pv (xE x)),(11,.I e),(12,.B true),(13,.I i),(67,.B false)],[],1700⟩ rfl ?_ ?_
    ·simp [h17,← hy]
     refine zal hal (by simp) ?_
     simp
     exact ⟨rfl,LeH [] []⟩
    refine zac _ rfl (fun h=>by cases h) fun _=>?_
    refine zad ?_
    refine zaq rfl ?_
    simp
    exact ⟨i + 1,h17,by omega,Le.go [] [] rfl rfl (by simp [hwi,hcs]; rw [htk]; simp) (by simp)⟩
   ·rw [decide_eq_false_iff_not] at h19
    rw [if_neg h19,Nat.add_zero] at hcs
    have hfn : decide ((k : Int) ∈ o.take (i + 1)) = fo:=by rw [htk,hfo,decide_eq_decide]; simp [Ne.symm h19]
    refine zad ?_
    refine zaq rfl ?_
    simp
    exact ⟨i + 1,h17,by omega,Le.go [] [] rfl rfl (by simp [hwi,hcs]; rw [hfn]; exact .refl _) (by simp)⟩
  rw [decide_eq_false_iff_not] at h17
  obtain rfl : i = X.length:=by omega
  rw [hXl] at hfo ⊢
  rw [List.take_length] at hfo
  rw [zsw]
  refine zam ?_
  refine hit ?_
  refine zaa ⟨91,[(4,.pv (gC g)),(5,.pv (pC p)),(6,eXs X),(7,.I 0),(8,.I (cntO o (k + 1) 0 : Nat)),(9,.I k),(79,.B false)],[],1400⟩ rfl ?_ ?_
  ·rcases hxe with ⟨h1,h2,_⟩ | ⟨h1,h2⟩
   ·rw [decide_eq_true h2] at hfo
    subst hfo h1
    simp
    exact LeH [] []
   ·rw [decide_eq_false h2] at hfo
    subst hfo h1
    simp
    exact LeH [] []
  refine zac _ rfl (fun h=>by cases h) fun _=>?_
  refine zad ?_
  refine zaq rfl ?_
  simp
  exact ⟨k + 1,h12,by omega,Le.go [] [] rfl rfl (by simp [hwk]) (by simp)⟩
 rw [decide_eq_false_iff_not] at h12
 obtain rfl : k = N:=by omega
 rw [ztG fun x hx=>by have:=hor x hx; omega,← hXl]
 refine zam ?_
 refine hit ?_
 refine zaa ⟨91,[(2,.B true)],[],1600⟩ rfl ?_ ?_
 ·simp
  refine zal zbY (by simp) ?_
  simp
  exact LeH [] []
 refine zah ?_
 exact ⟨.inr rfl,zan.one (by simp)⟩
theorem zqC {H : Type} {P : Program} {tU : TypeId} {n : Nat} (hU : P.underlying tU = some (.int .u8)) {d : DataW H} {x : AV} (h : zgt P (n + 1) tU d = some x) : ∃ k : Int,x = .sc (.int .u8 k) ∧ 0 ≤ k ∧ k ≤ 255:=by
 simp only [zgt,hU,Option.bind_eq_some_iff] at h
 obtain ⟨cs,h1,h2⟩:=h
 cases d <;> simp [avs,hU] at h1
 rename_i l
 cases l <;> simp at h1
 obtain ⟨⟨rfl,hw⟩,rfl⟩:=h1
 simp at h2
 subst h2
 exact ⟨_,rfl,by simpa [Lit.wf,IntKind.min,IntKind.max,IntKind.signed,IntKind.bits] using hw⟩
set_option maxRecDepth 100000 in
set_option maxHeartbeats 16000000 in
theorem zfN (L : List Int) (odd : Int) : zaj Tryz.prog zdS [ints L,.sc (.int .u8 odd)] [] (.B true) []:=by
 refine zgQ.acalls (nbz rfl) (nbz rfl) (Nat.le_refl _) ?_
 show awp _ 0 _ _ ⟨195,[(0,ints L),(1,.sc (.int .u8 odd))],[],16⟩
 refine rx (s:=?s1) [0,1] [] [] rfl ?o1 ?q1
 case o1=>simp; rfl
 refine zab ?_
 refine rx (s:=?s2) [0,1,19] [] [] rfl ?o2 ?q2
 case o2=>simp; refine zal (ze8 L) (by simp) ?_; simp; rfl
 refine zac _ rfl (fun h3=>?_) fun h3=>?_
 ·refine rx (s:=?s4) [4] [] [] rfl ?o4 ?q4
  case o4=>simp; refine zal zbY (by simp) ?_; simp; rfl
  refine zah ?_
  exact ⟨.inr rfl,zan.one (by simp)⟩
 simp at h3
 obtain ⟨g,b1,⟨hg,hg2,hg9,hb1⟩,hcg⟩:=zqc L h3
 obtain ⟨⟨p,b2⟩,⟨hp,hp2,hp3,hb2⟩,hcp⟩:=zjC L b1 g h3 hb1 (by omega) (by omega)
 simp only at hp hp2 hp3 hb2 hcp
 have hel:=hg.edges_le
 have hgl:=hg.gone_le
 refine zad ?_
 refine zaa ⟨195,[(1,.sc (.int .u8 odd)),(5,.pt 20 0 0)],[(20,some (dice L 0))],200⟩ rfl ?_ ?_
 ·simp
  refine zaN (zm4 L) (by simp) ?_
  simp
  exact LeH [(56,20)] []
 refine zaa ⟨195,[(1,.sc (.int .u8 odd)),(5,.pt 20 0 0),(6,.pv (gC g))],[(20,some (dice L b1))],300⟩ rfl ?_ ?_
 ·simp
  refine zbp (i:=20) rfl (e':=dice L 0) (by simp) hcg (by simp) (by simp) ?_
  simp
  exact LeH [(20,20)] [216]
 refine zaa ⟨195,[(1,.sc (.int .u8 odd)),(6,.pv (gC g)),(7,.pv (pC p))],[],400⟩ rfl ?_ ?_
 ·simp
  refine zbp (i:=20) rfl (e':=dice L b1) (by simp) hcp (by simp) (by simp) ?_
  simp
  exact LeH [] [324]
 obtain ⟨q,hq⟩ : ∃ q,q = Int.tmod (IntKind.i64.wrap odd) g.size:=⟨_,rfl⟩
 have hgs : ¬ g.size = 0:=by omega
 by_cases hqo : q ∉ ordL (zai g p.lv) p.seeds
 ·have hfor:=zgH g p q hg hp (by omega) (by omega) hqo
  refine zar ⟨195,[(6,.pv (gC g)),(7,.pv (pC p)),(8,.pv (xE ⟨0,false,[],[],[]⟩)),(9,.I 11)],[],600⟩ rfl ?_ ?_
  ·simp [hgs,← hq]
   refine zal hfor (by simp) ?_
   simp [zaE]
   exact ⟨rfl,Le.go [] [488] rfl rfl (by simp; exact .refl _) (by simp)⟩
  refine zab ?_
  refine zaa ⟨195,[(9,.I 11),(45,.B true)],[],700⟩ rfl ?_ ?_
  ·simp
   exact LeH [] []
  refine zac _ rfl (fun _=>?_) fun h=>by cases h
  refine zaa ⟨195,[(4,.B true)],[],800⟩ rfl ?_ ?_
  ·simp
   refine zal zbY (by simp) ?_
   simp
   exact LeH [] []
  refine zah ?_
  exact ⟨.inr rfl,zan.one (by simp)⟩
 rw [Decidable.not_not] at hqo
 obtain ⟨x,hx,hfor⟩:=ze3 g p q hg hp (by omega) (by omega) hqo
 have hyes:=fun h=>(hx.yes_serves hg hp h).facts hg hp
 have hai:=hx.acc_iff'
 have hkey:=(hx.at_ hg).1
 have hb:=hx.bounds hg hp
 obtain ⟨k0,ac,E,P,sd⟩:=x
 simp only at hyes hai hkey
 have hE:=hb.b
 simp only at hE
 rw [← hkey] at hyes hai
 refine zar ⟨195,[(6,.pv (gC g)),(7,.pv (pC p)),(8,.pv (xE ⟨k0,ac,E,P,sd⟩)),(9,.I 0)],[],600⟩ rfl ?_ ?_
 ·simp [hgs,← hq]
  refine zal hfor (by simp) ?_
  simp [zaE]
  exact ⟨rfl,LeH [] [488]⟩
 refine zab ?_
 cases ac with
 | false =>
   refine zaa ⟨195,[(9,.I 0),(45,.B true)],[],700⟩ rfl ?_ ?_
   ·simp
    exact LeH [] []
   refine zac _ rfl (fun _=>?_) fun h=>by cases h
   refine zaa ⟨195,[(4,.B true)],[],800⟩ rfl ?_ ?_
   ·simp
    refine zal zbY (by simp) ?_
    simp
    exact LeH [] []
   refine zah ?_
   exact ⟨.inr rfl,zan.one (by simp)⟩
 | true =>
 have hf:=hyes (hai.1 rfl)
 clear hyes hai hfor hx hb
 have hsz:=hg.1.1
 have hall:=zfY g p hg (by omega)
 have hcl : (zax g p).length = g.size.toNat:=by unfold zax; rw [List.length_map,zfT]; rfl
 have hcb : ∀ k,0 ≤ (zax g p).getD k 0 ∧ (zax g p).getD k 0 ≤ 1000000:=fun k=>by
  rw [List.getD_eq_getElem?_getD]
  cases hh : (zax g p)[k]? with
  | none=>simp
  | some v =>
    have hm:=List.mem_of_getElem? hh
    unfold zax at hm
    obtain ⟨d,_,rfl⟩:=List.mem_map.1 hm
    have:=zdW hp d
    simp only [Option.getD_some]
    omega
 obtain ⟨N,hN⟩ : ∃ N : Nat,g.size = N:=⟨g.size.toNat,by omega⟩
 have hlev:=zbZ g p.lv (by omega) (by omega)
 have hlel : (zai g p.lv).edges.length ≤ 1000:=Nat.le_trans (List.length_filter_le _ _) (by omega)
 have hst:=hf.steps
 have hPl:=hf.len
 have hroom:=hf.room
 have hends:=hf.ends
 rw [List.length_append,List.length_singleton] at hends
 obtain ⟨C,hC⟩ : ∃ C,C = zax g p:=⟨_,rfl⟩
 rw [← hC,hN] at hall hcl
 rw [← hC] at hcb hroom
 rw [Int.toNat_natCast] at hall hcl
 have hPw : ∀ w ∈ P,w.length ≤ 64:=fun w hw=>by obtain ⟨i,hi,rfl⟩:=List.mem_iff_getElem.1 hw; exact (hst i hi).len
 refine zaa ⟨195,[(6,.pv (gC g)),(7,.pv (pC p)),(8,.pv (xE ⟨k0,true,E,P,sd⟩)),(45,.B false)],[],700⟩ rfl ?_ ?_
 ·simp
  exact LeH [] []
 refine zac _ rfl (fun h=>by cases h) fun _=>?_
 refine zad ?_
 refine zaa ⟨195,[(6,.pv (gC g)),(7,.pv (pC p)),(8,.pv (xE ⟨k0,true,E,P,sd⟩)),(10,ints C)],[],800⟩ rfl ?_ ?_
 ·simp
  refine zaN hall (by simp [hN]) ?_
  simp
  exact Le.go [] [716] rfl rfl (by simp [fcd,← hcl,zak]) (by simp)
 refine zaa ⟨195,[(6,.pv (gC g)),(7,.pv (pC p)),(8,.pv (xE ⟨k0,true,E,P,sd⟩)),(10,ints C),(11,.rs 31 0 N)],[(31,some ⟨1,zaf (rowR N (useF P 0)),0⟩)],900⟩ rfl ?_ ?_
 ·rw [znS,zoA]
  simp [hN]
  refine ⟨by omega,by omega,LeH [(816,31)] []⟩
 refine zaa ⟨195,[(6,.pv (gC g)),(7,.pv (pC p)),(8,.pv (xE ⟨k0,true,E,P,sd⟩)),(10,ints C),(11,.rs 31 0 N),(12,.nilS)],[(31,some ⟨1,zaf (rowR N (useF P 0)),0⟩)],1000⟩ rfl ?_ ?_
 ·simp
  exact LeI [(31,31)] []
 refine zab ?_
 refine zaa ⟨195,[(6,.pv (gC g)),(7,.pv (pC p)),(8,.pv (xE ⟨k0,true,E,P,sd⟩)),(10,ints C),(11,.rs 31 0 N),(12,.nilS),(68,.B false)],[(31,some ⟨1,zaf (rowR N (useF P 0)),0⟩)],1100⟩ rfl ?_ ?_
 ·have hwE : IntKind.i64.wrap ((E.length : Int) + 1) = ((E.length + 1 : Nat) : Int):=by rw [w64 (by omega) (by omega)]; omega
  simp [hends,hwE]
  exact Le.go [(31,31)] [] rfl rfl (by simp [hwE]) (by simp [fcd])
 refine zac _ rfl (fun h=>by cases h) fun _=>?_
 refine zad ?_
 refine zab ?_
 refine zaa ⟨195,[(6,.pv (gC g)),(7,.pv (pC p)),(8,.pv (xE ⟨k0,true,E,P,sd⟩)),(10,ints C),(11,.rs 31 0 N),(12,.nilS),(13,.I 0)],[(31,some ⟨1,zaf (rowR N (useF P 0)),0⟩)],1200⟩ rfl ?_ ?_
 ·simp
  exact LeI [(31,31)] []
 refine zae ?_
 refine zao (ι:=Nat) (fun i=>⟨195,[(6,.pv (gC g)),(7,.pv (pC p)),(8,.pv (xE ⟨k0,true,E,P,sd⟩)),(10,ints C),(11,.rs 31 0 N),(12,.rs 32 0 i),(13,.I i)],[(31,some ⟨1,zaf (rowR N (useF P i)),0⟩),(32,some ⟨1,zaf (zaU P i),0⟩)],1200⟩)
  (fun i=>i ≤ P.length) (fun i=>P.length - i) 0 (Nat.zero_le _)
  (Le.lst [(31,31)] [] [(32,1)] rfl (by simp) (by simp) (by simp) (by simp) (by simp) (by simp) (by simp) (by simp [Up]) (by simp [fcd,zkK]; exact zaB.rfl' (by simp))) ?_
 intro i hi
 have hLl : (zaU P i).length = i:=by
  unfold zaU
  rw [zfW fun w hw=>by
   obtain ⟨j,hj,rfl⟩:=List.mem_take_iff_getElem.1 hw
   exact List.length_pos_iff.1 (hst j (by omega)).ne,List.length_take]
  omega
 refine zab ?_
 refine zaa ⟨195,[(6,.pv (gC g)),(7,.pv (pC p)),(8,.pv (xE ⟨k0,true,E,P,sd⟩)),(10,ints C),(11,.rs 31 0 N),(12,.rs 32 0 i),(13,.I i),(73,.B (decide (i < P.length)))],[(31,some ⟨1,zaf (rowR N (useF P i)),0⟩),(32,some ⟨1,zaf (zaU P i),0⟩)],1300⟩ rfl ?_ ?_
 ·simp
  exact LeI [(31,31),(32,32)] []
 refine zac _ rfl (fun h7=>?_) fun h7=>?_
 ·rw [decide_eq_true_eq] at h7
  have hwi : IntKind.i64.wrap ((i : Int) + 1) = ((i + 1 : Nat) : Int):=by rw [w64 (by omega) (by omega)]; omega
  obtain ⟨w,hw⟩ : ∃ w,w = P[i]:=⟨_,rfl⟩
  have hsw : zpX g p w:=hw ▸ hst i h7
  have hfr:=hf.fresh i h7
  have hPi : P[i]? = some w:=by rw [List.getElem?_eq_getElem h7,hw]
  have hwl:=hsw.len
  have hpos:=hsw.ne
  have hwne : w ≠ []:=List.length_pos_iff.1 hpos
  obtain ⟨w0,hw0⟩ : ∃ w0,w0 = w[0]:=⟨_,rfl⟩
  have hhas0:=zcy p.seeds w0 (by omega)
  rw [decide_eq_true (by rw [hw0]; exact hsw.seed)] at hhas0
  have hwm : IntKind.i64.wrap ((w.length : Int) - 1) = ((w.length - 1 : Nat) : Int):=by rw [w64 (by omega) (by omega)]; omega
  refine zad ?_
  refine zab ?_
  refine zae ?_
  refine zaa ⟨195,[(6,.pv (gC g)),(7,.pv (pC p)),(8,.pv (xE ⟨k0,true,E,P,sd⟩)),(10,ints C),(11,.rs 31 0 N),(12,.rs 32 0 i),(13,.I i),(14,ints w)],[(31,some ⟨1,zaf (rowR N (useF P i)),0⟩),(32,some ⟨1,zaf (zaU P i),0⟩)],1400⟩ rfl ?_ ?_
  ·simp [h7,← hw]
   exact LeI [(31,31),(32,32)] []
  refine zab ?_
  refine zar ⟨195,[(6,.pv (gC g)),(7,.pv (pC p)),(8,.pv (xE ⟨k0,true,E,P,sd⟩)),(10,ints C),(11,.rs 31 0 N),(12,.rs 32 0 i),(13,.I i),(14,ints w),(92,.B false)],[(31,some ⟨1,zaf (rowR N (useF P i)),0⟩),(32,some ⟨1,zaf (zaU P i),0⟩)],1600⟩ rfl ?_ ?_
  ·have hne0 : ((w.length : Int) == 0) = false:=by simp; omega
   simp [hne0,hpos,← hw0]
   refine zal hhas0 (by simp) ?_
   simp
   exact ⟨rfl,LeI [(31,31),(32,32)] []⟩
  refine zac _ rfl (fun h=>by cases h) fun _=>?_
  refine zad ?_
  obtain ⟨d,hd⟩ : ∃ d,d = w.dropLast:=⟨_,rfl⟩
  have hdl : d.length = w.length - 1:=by rw [hd,List.length_dropLast]
  have hdw : ∀ (j : Nat) (hj : j < d.length),d[j] = w[j]'(by omega):=fun j hj=>by subst hd; rw [List.getElem_dropLast]
  have hdl64 : d.length ≤ 64:=by omega
  refine zab ?_
  refine zaa ⟨195,[(6,.pv (gC g)),(7,.pv (pC p)),(8,.pv (xE ⟨k0,true,E,P,sd⟩)),(10,ints C),(11,.rs 31 0 N),(12,.rs 32 0 i),(13,.I i),(14,ints w),(15,.I 0)],[(31,some ⟨1,zaf (rowR N (useJ P i d 0)),0⟩),(32,some ⟨1,zaf (zaU P i),0⟩)],1700⟩ rfl ?_ ?_
  ·rw [zhi]
   simp
   exact LeI [(31,31),(32,32)] []
  refine zae ?_
  refine zao (ι:=Nat) (fun j=>⟨195,[(6,.pv (gC g)),(7,.pv (pC p)),(8,.pv (xE ⟨k0,true,E,P,sd⟩)),(10,ints C),(11,.rs 31 0 N),(12,.rs 32 0 i),(13,.I i),(14,ints w),(15,.I j)],[(31,some ⟨1,zaf (rowR N (useJ P i d j)),0⟩),(32,some ⟨1,zaf (zaU P i),0⟩)],1700⟩)
   (fun j=>j ≤ w.length) (fun j=>w.length - j) 0 (Nat.zero_le _) (LeI [(31,31),(32,32)] []) ?_
  intro j hj
  refine zab ?_
  refine zaa ⟨195,[(6,.pv (gC g)),(7,.pv (pC p)),(8,.pv (xE ⟨k0,true,E,P,sd⟩)),(10,ints C),(11,.rs 31 0 N),(12,.rs 32 0 i),(13,.I i),(14,ints w),(15,.I j),(96,.B (decide (j < w.length)))],[(31,some ⟨1,zaf (rowR N (useJ P i d j)),0⟩),(32,some ⟨1,zaf (zaU P i),0⟩)],1800⟩ rfl ?_ ?_
  ·simp
   exact LeI [(31,31),(32,32)] []
  refine zac _ rfl (fun h14=>?_) fun h14=>?_
  ·rw [decide_eq_true_eq] at h14
   have hwj : IntKind.i64.wrap ((j : Int) + 1) = ((j + 1 : Nat) : Int):=by rw [w64 (by omega) (by omega)]; omega
   obtain ⟨k,hk⟩ : ∃ k,k = w[j]:=⟨_,rfl⟩
   have hkr:=hsw.rng j h14
   rw [← hk,hN] at hkr
   have hk0 : ¬ k < 0:=by omega
   have hk1 : ¬ (N : Int) ≤ k:=by omega
   refine zad ?_
   refine zab ?_
   refine zae ?_
   refine zab ?_
   refine zar ⟨195,[(6,.pv (gC g)),(7,.pv (pC p)),(8,.pv (xE ⟨k0,true,E,P,sd⟩)),(10,ints C),(11,.rs 31 0 N),(12,.rs 32 0 i),(13,.I i),(14,ints w),(15,.I j),(134,.B false)],[(31,some ⟨1,zaf (rowR N (useJ P i d j)),0⟩),(32,some ⟨1,zaf (zaU P i),0⟩)],2800⟩ rfl ?_ ?_
   ·by_cases hj0 : 0 < j
    ·have hjm : IntKind.i64.wrap ((j : Int) - 1) = ((j - 1 : Nat) : Int):=by rw [w64 (by omega) (by omega)]; omega
     have hj1 : j - 1 < w.length:=by omega
     have hed:=hsw.edge (j - 1) (by omega)
     obtain ⟨q,hq⟩ : ∃ q,q = w[j - 1]'(by omega):=⟨_,rfl⟩
     have hout:=zi2 (zai g p.lv) q (by omega)
     have hedk : k ∈ outs (zai g p.lv).edges q:=by
      rw [hk,hq]
      have e : w[j] = w[j - 1 + 1]'(by omega):=by congr 1; omega
      rw [e]
      exact hed
     obtain ⟨O,hO⟩ : ∃ O,O = outs (zai g p.lv).edges q:=⟨_,rfl⟩
     have hOl : O.length ≤ 1000:=by rw [hO]; exact Nat.le_trans (ziL _ _) hlel
     have hhas2:=zcy O k (by omega)
     rw [← hO] at hout hedk
     rw [decide_eq_true hedk] at hhas2
     simp [h14,← hk,hN,hk0,hk1,hj0]
     refine zal hlev (by simp [hN]) ?_
     simp [hjm,hj1,← hq]
     refine zaN hout (by simp) ?_
     simp [h14,← hk]
     refine zdq [2016] hhas2 (by simp [zak,fcd]) (.sc _) ?_
     simp
     exact ⟨rfl,LeI [(31,31),(32,32)] []⟩
    ·simp [h14,← hk,hN,hk0,hk1,hj0]
     exact ⟨rfl,LeI [(31,31),(32,32)] []⟩
   refine zac _ rfl (fun h=>by cases h) fun _=>?_
   refine zad ?_
   refine zaa ⟨195,[(6,.pv (gC g)),(7,.pv (pC p)),(8,.pv (xE ⟨k0,true,E,P,sd⟩)),(10,ints C),(11,.rs 31 0 N),(12,.rs 32 0 i),(13,.I i),(14,ints w),(15,.I j),(139,.B (decide (j < d.length)))],[(31,some ⟨1,zaf (rowR N (useJ P i d j)),0⟩),(32,some ⟨1,zaf (zaU P i),0⟩)],3000⟩ rfl ?_ ?_
   ·simp [hwm]
    exact Le.go [(31,31),(32,32)] [] rfl rfl (by simp <;> exact wkB (by rw [Bool.eq_iff_iff]; simp; omega)) (by simp [fcd])
   refine zac _ rfl (fun h19=>?_) fun h19=>?_
   ·rw [decide_eq_true_eq] at h19
    have hdk : d[j] = k:=by rw [hk]; exact hdw j h19
    have hub:=zgm (P:=P) (i:=i) hPl hPw hdl64 j k
    have hsu:=zn5 (P:=P) (i:=i) h19
    rw [hdk] at hsu
    obtain ⟨V,hV⟩ : ∃ V,V = useJ P i d j:=⟨_,rfl⟩
    rw [← hV] at hub hsu ⊢
    have hrg:=zb2 (N:=N) (g:=V) hkr.1 hkr.2
    have hrs:=ze4 (N:=N) (g:=V) (v:=V k + 1) hkr.1 hkr.2
    rw [hsu] at hrs
    have hwv : IntKind.i64.wrap (V k + 1) = V k + 1:=w64 (by omega) (by omega)
    refine zaq rfl ?_
    simp [h14,← hk,hkr,hrg,hwv,zaE]
    refine zaq rfl ?_
    simp
    exact ⟨j + 1,h14,by omega,Le.go [(31,31),(32,32)] [] rfl rfl (by simp [hwj]) (by simp [fcd,← hrs])⟩
   rw [decide_eq_false_iff_not] at h19
   have hfu : useJ P i d (j + 1) = useJ P i d j:=by rw [zeO (j:=j + 1) (by omega),zeO (j:=j) (by omega)]
   refine zad ?_
   refine zaq rfl ?_
   simp
   exact ⟨j + 1,h14,by omega,Le.go [(31,31),(32,32)] [] rfl rfl (by simp [hwj]) (by simp [fcd,hfu])⟩
  rw [decide_eq_false_iff_not] at h14
  obtain rfl : j = w.length:=by omega
  have hua : useJ P i d w.length = useF P (i + 1):=by rw [zeO (j:=w.length) (by omega),hd]; exact zpV h7 hw.symm
  rw [hua]
  refine zam ?_
  refine hit ?_
  obtain ⟨wl,hwlD⟩ : ∃ wl,wl = w.getLast hwne:=⟨_,rfl⟩
  have hwgl' : w[w.length - 1]'(by omega) = wl:=by rw [hwlD,List.getLast_eq_getElem]
  have hwl1 : w.length - 1 < w.length:=by omega
  have hls : zaU P (i + 1) = zaU P i ++ [wl]:=by
   unfold zaU
   have hwne2 : P[i] ≠ []:=by rw [← hw]; exact hwne
   rw [zii P i h7 hwne2]
   subst hw
   rw [hwlD]
  have hnl : wl ∉ zaU P i:=by
   subst hw
   rw [hwlD]
   exact hfr hwne
  obtain ⟨Z,hZ⟩ : ∃ Z,Z = zaU P i:=⟨_,rfl⟩
  rw [← hZ] at hLl hls hnl ⊢
  have hhas3:=zcy Z wl (by omega)
  rw [decide_eq_false hnl] at hhas3
  have htZ : ∀ h : Int → List AV,List.take i (List.map h Z) = List.map h Z:=fun h=>List.take_of_length_le (by simp; omega)
  refine zab ?_
  refine zaa ⟨195,[(6,.pv (gC g)),(7,.pv (pC p)),(8,.pv (xE ⟨k0,true,E,P,sd⟩)),(10,ints C),(11,.rs 31 0 N),(12,.rs 32 0 i),(13,.I i),(14,ints w),(156,.B false)],[(31,some ⟨1,zaf (rowR N (useF P (i + 1))),0⟩),(32,some ⟨1,zaf Z,0⟩)],3000⟩ rfl ?_ ?_
  ·simp [hwm,hwl1,hwgl']
   refine zdq [32] hhas3 (by simp [htZ,hLl,fcd]) (.sc _) ?_
   simp
   exact LeI [(31,31),(32,32)] []
  refine zac _ rfl (fun h=>by cases h) fun _=>?_
  refine zad ?_
  refine zaq rfl ?_
  simp [hwm,hwl1,hwgl',htZ,hLl]
  refine ⟨by omega,by omega,?_⟩
  refine zaq rfl ?_
  simp
  exact ⟨i + 1,h7,by omega,Le.go [(31,31),(3064,32)] [] rfl rfl (by simp [hwi]) (by simp [fcd,hls])⟩
 rw [decide_eq_false_iff_not] at h7
 obtain rfl : i = P.length:=by omega
 have hBF : ∀ k : Nat,k < N → useF P P.length k ≤ max 0 (C.getD k 0 - 1):=fun k hk=>by
  have h1:=hroom k (by omega)
  have e : C.getD k 0 = C[k]'(by omega):=by rw [List.getD_eq_getElem?_getD,List.getElem?_eq_getElem (by omega),Option.getD_some]
  unfold useF
  rw [List.take_length,e]
  exact h1.2
 have hZj : zat (zaU P P.length) = zat (E ++ [k0]):=by unfold zaU; rw [List.take_length]; exact hf.same
 obtain ⟨Z,hZ⟩ : ∃ Z,Z = zaU P P.length:=⟨_,rfl⟩
 have hub:=fun k : Int=>zgm (P:=P) (i:=P.length) (d:=[]) hPl hPw (by simp) 0 k
 rw [zhi] at hub
 obtain ⟨U,hU⟩ : ∃ U,U = useF P P.length:=⟨_,rfl⟩
 rw [← hZ] at hZj hLl ⊢
 rw [← hU] at hBF hub ⊢
 have htZ : ∀ h : Int → List AV,List.take P.length (List.map h Z) = List.map h Z:=fun h=>List.take_of_length_le (by simp; omega)
 refine zam ?_
 refine hit ?_
 refine zab ?_
 refine zaa ⟨195,[(6,.pv (gC g)),(8,.pv (xE ⟨k0,true,E,P,sd⟩)),(10,ints C),(11,.rs 31 0 N),(12,ints Z),(16,.I 0)],[(31,some ⟨1,zaf (rowR N U),0⟩)],2000⟩ rfl ?_ ?_
 ·simp
  exact Le.go [(31,31)] [32] rfl rfl (by simp [htZ,fcd,hLl]) (by simp [fcd])
 refine zae ?_
 refine zao (ι:=Nat) (fun k=>⟨195,[(6,.pv (gC g)),(8,.pv (xE ⟨k0,true,E,P,sd⟩)),(10,ints C),(11,.rs 31 0 N),(12,ints Z),(16,.I k)],[(31,some ⟨1,zaf (rowR N U),0⟩)],2000⟩) (fun k=>k ≤ N) (fun k=>N - k) 0 (Nat.zero_le _) (LeI [(31,31)] []) ?_
 intro k hk
 refine zab ?_
 refine zaa ⟨195,[(6,.pv (gC g)),(8,.pv (xE ⟨k0,true,E,P,sd⟩)),(10,ints C),(11,.rs 31 0 N),(12,ints Z),(16,.I k),(169,.B (decide (k < N)))],[(31,some ⟨1,zaf (rowR N U),0⟩)],2100⟩ rfl ?_ ?_
 ·simp [hN]
  exact Le.go [(31,31)] [] rfl rfl (by simp [hN]) (by simp [fcd])
 refine zac _ rfl (fun h26=>?_) fun h26=>?_
 ·rw [decide_eq_true_eq] at h26
  have hwk : IntKind.i64.wrap ((k : Int) + 1) = ((k + 1 : Nat) : Int):=by rw [w64 (by omega) (by omega)]; omega
  have h2:=hBF k h26
  have hkN : (0 : Int) ≤ k ∧ (k : Int) < N:=by omega
  have hru:=zb2 (N:=N) (g:=U) hkN.1 hkN.2
  rw [Int.toNat_natCast] at hru
  have hkn : k < C.length:=by omega
  have hcb':=hcb k
  obtain ⟨c,hc⟩ : ∃ c,c = C.getD k 0:=⟨_,rfl⟩
  rw [← hc] at h2 hcb'
  have hCk' : C[k]'(by omega) = c:=by rw [hc,List.getD_eq_getElem?_getD,List.getElem?_eq_getElem hkn,Option.getD_some]
  have hwc : IntKind.i64.wrap (c - 1) = c - 1:=w64 (by omega) (by omega)
  have hb3 : ¬ (if 1 < c then c - 1 else 0) < U k:=by split <;> omega
  refine zad ?_
  refine zab ?_
  refine zae ?_
  refine zar ⟨195,[(6,.pv (gC g)),(8,.pv (xE ⟨k0,true,E,P,sd⟩)),(10,ints C),(11,.rs 31 0 N),(12,ints Z),(16,.I k),(182,.B false)],[(31,some ⟨1,zaf (rowR N U),0⟩)],2400⟩ rfl ?_ ?_
  ·simp [hru,h26,hkn,hCk',hwc]
   exact ⟨rfl,Le.go [(31,31)] [] rfl rfl (by simp [hb3]) (by simp [fcd])⟩
  refine zac _ rfl (fun h=>by cases h) fun _=>?_
  refine zad ?_
  refine zaq rfl ?_
  simp
  exact ⟨k + 1,h26,by omega,Le.go [(31,31)] [] rfl rfl (by simp [hwk]) (by simp [fcd])⟩
 have hj1:=zeC Z [] (by omega) (by simp)
 have hj2:=zeC E [k0] (by omega) (by simp)
 rw [List.append_nil,hZj] at hj1
 have hJl:=zb3 (E ++ [k0])
 have hsm:=za7 (zat (E ++ [k0])) (zat (E ++ [k0])) (by omega) (by omega)
 rw [decide_eq_true rfl] at hsm
 obtain ⟨J,hJ⟩ : ∃ J,J = zat (E ++ [k0]):=⟨_,rfl⟩
 rw [← hJ] at hj1 hj2 hsm
 refine zam ?_
 refine hit ?_
 refine zar ⟨195,[(4,.B true)],[],3000⟩ rfl ?_ ?_
 ·simp
  refine zjH hj1 (by simp [Wk.refl,ints,Wk.nil]) ?_
  simp
  refine zeS [2148] hj2 (by simp) (.rs _ _ _) zjQ ?_
  simp
  refine zdq [2108,2156] hsm (by simp [zak,fcd]) (.sc _) ?_
  simp
  refine zal zbY (by simp) ?_
  simp
  exact ⟨rfl,LeH [] []⟩
 refine zah ?_
 exact ⟨.inr rfl,zan.one (by simp)⟩
end Go.Proofs.YteiabadhhhckfaaGreat
