/- Texts of this claim,merged. -/
import Derived.Test.YtlhjelookgjmpaaGreatRe15
import Derived.Test.YtlhjelookgjmpaaGreatRe14
import Derived.Test.YtlhjelookgjmpaaGreatRe9
set_option linter.unusedSimpArgs false
set_option linter.unusedVariables false
set_option linter.unusedSectionVars false
namespace Go.Proofs.YtlhjelookgjmpaaGreat
open Go
structure ExplB (x : Expl) (m : Nat) : Prop where
 b : x.before.length ≤ m
 p : x.paths.length ≤ m
 w : ∀ w ∈ x.paths,w.length ≤ m
 s : x.side.length ≤ m
structure CSt where
 i : Nat
 own : Bool
def copyS (L : List Int) (a : Nat) (x : Expl) (size : Int) (k0 : Nat) : CSt → St
 | ⟨i,false⟩=>⟨201,[(0,.pt 0 0 0),(2,.I size),(4,.pt 16 0 0),(6,.pt 24 0 0),(7,.rs 32 0 i),(8,.I i)],
   [(0,some (dice L a)),(16,some ⟨5,[[.I x.key,.B x.acc,.rs 30 0 x.before.length,pathsV x.paths,.rs 31 0 x.side.length]],0⟩),(24,some ⟨5,[[.I 0,.B false,.nilS,.nilS,.nilS]],0⟩),(30,some ⟨1,rowsI x.before,0⟩),(31,some ⟨1,rowsI x.side,0⟩),
     (32,some ⟨1,(x.paths.take i).map fun w=>[ints w],0⟩)],700⟩
 | ⟨i,true⟩=>⟨201,[(0,.pt 0 0 0),(2,.I size),(4,.pt 16 0 0),(6,.pt 24 0 0),(7,.rs 32 0 i),(8,.I i)],
   [(0,some (dice L a)),(16,some ⟨5,[[.I x.key,.B x.acc,.rs 30 0 x.before.length,pathsV x.paths,.rs 31 0 x.side.length]],0⟩),(24,some ⟨5,[[.I 0,.B false,.nilS,.nilS,.nilS]],0⟩),(30,some ⟨1,rowsI x.before,0⟩),(31,some ⟨1,rowsI x.side,0⟩),
     (33,some ⟨1,rowsI (x.paths.getD k0 []),0⟩),(32,some ⟨1,((x.paths.take k0).map fun w=>[ints w]) ++ [[.rs 33 0 (x.paths.getD k0 []).length]] ++ (((x.paths.take i).drop (k0 + 1)).map fun w=>[ints w]),0⟩)],700⟩
def finS (L : List Int) (a : Nat) (x : Expl) (size : Int) (k0 : Nat) : Bool → St
 | false=>⟨201,[(0,.pt 0 0 0),(2,.I size),(4,.pt 16 0 0),(6,.pt 24 0 0),(7,.rs 32 0 x.paths.length)],
   [(0,some (dice L a)),(16,some ⟨5,[[.I x.key,.B x.acc,.rs 30 0 x.before.length,pathsV x.paths,.rs 31 0 x.side.length]],0⟩),(24,some ⟨5,[[.I 0,.B false,.nilS,.nilS,.nilS]],0⟩),(30,some ⟨1,rowsI x.before,0⟩),(31,some ⟨1,rowsI x.side,0⟩),
     (32,some ⟨1,x.paths.map fun w=>[ints w],0⟩)],900⟩
 | true=>⟨201,[(0,.pt 0 0 0),(2,.I size),(4,.pt 16 0 0),(6,.pt 24 0 0),(7,.rs 32 0 x.paths.length)],
   [(0,some (dice L a)),(16,some ⟨5,[[.I x.key,.B x.acc,.rs 30 0 x.before.length,pathsV x.paths,.rs 31 0 x.side.length]],0⟩),(24,some ⟨5,[[.I 0,.B false,.nilS,.nilS,.nilS]],0⟩),(30,some ⟨1,rowsI x.before,0⟩),(31,some ⟨1,rowsI x.side,0⟩),
     (33,some ⟨1,rowsI (x.paths.getD k0 []),0⟩),(32,some ⟨1,((x.paths.take k0).map fun w=>[ints w]) ++ [[.rs 33 0 (x.paths.getD k0 []).length]] ++ ((x.paths.drop (k0 + 1)).map fun w=>[ints w]),0⟩)],900⟩
theorem set_mid {α : Type} {Q T : List α} {r r' : α} {k : Nat} (h : Q.length = k) : (Q ++ [r] ++ T).set k r' = Q ++ [r'] ++ T:=by
 subst h
 rw [List.append_assoc,List.set_append_right _ _ (Nat.le_refl _),List.append_assoc]
 simp
theorem get_mid {α : Type} {Q T : List α} {r : α} {k : Nat} (h : Q.length = k) : (Q ++ [r] ++ T)[k]? = some r:=by
 subst h
 simp
set_option maxRecDepth 100000 in
set_option maxHeartbeats 40000000 in
theorem bend_a (L : List Int) (a : Nat) (x : Expl) (size : Int) (m : Nat) (hl : L.length ≤ 400) (ha : a ≤ L.length) (h0 : 0 < size) (hn : size ≤ 64) (hx : ExplB x m) (hm : m ≤ 10000) :
  ∃ y : Expl × Nat,(ExplB y.1 (m + 64) ∧ y.2 ≤ L.length) ∧ ACalls Tryz.prog nlaw44_bend [.pt 0 0 0,eX x,.I size] [dice L a] (eX y.1) [some (dice L y.2)]:=by
 refine slaw44_bend.acallsX (args:=[.pt 0 0 0,eX x,.I size]) (hs:=[dice L a]) (fun y=>eX y.1) (fun y=>[some (dice L y.2)]) (fun y : Expl × Nat=>ExplB y.1 (m + 64) ∧ y.2 ≤ L.length) (Nat.le_of_ble_eq_true rfl) (Nat.le_of_ble_eq_true rfl) (fun _=>Nat.le_refl _) ?_
 show awp _ 1 _ _ ⟨201,[(0,.pt 0 0 0),(1,eX x),(2,.I size)],[(0,some (dice L a))],16⟩
 have hxb:=hx.b
 have hxp:=hx.p
 have hxs:=hx.s
 refine awp_regc ⟨201,[(0,.pt 0 0 0),(2,.I size),(4,.pt 16 0 0),(6,.pt 24 0 0)],[(0,some (dice L a)),(16,some ⟨5,[xE x],0⟩),(24,some ⟨5,[[.I 0,.B false,.nilS,.nilS,.nilS]],0⟩)],100⟩ rfl ?_ ?_
 ·simp
  exact Le.go [(0,0),(16,16),(24,24)] [] rfl rfl (by simp) (by simp [fcd])
 refine awp_regc ⟨201,[(0,.pt 0 0 0),(2,.I size),(4,.pt 16 0 0),(6,.pt 24 0 0)],[(0,some (dice L a)),(16,some ⟨5,[[.I x.key,.B x.acc,.rs 30 0 x.before.length,pathsV x.paths,ints x.side]],0⟩),(24,some ⟨5,[[.I 0,.B false,.nilS,.nilS,.nilS]],0⟩),(30,some ⟨1,rowsI x.before,0⟩)],200⟩ rfl ?_ ?_
 ·simp [splice]
  exact ⟨by omega,by omega,Le.go [(0,0),(16,16),(24,24),(124,30)] [] rfl rfl (by simp) (by simp [fcd])⟩
 refine awp_regc ⟨201,[(0,.pt 0 0 0),(2,.I size),(4,.pt 16 0 0),(6,.pt 24 0 0)],[(0,some (dice L a)),(16,some ⟨5,[[.I x.key,.B x.acc,.rs 30 0 x.before.length,pathsV x.paths,.rs 31 0 x.side.length]],0⟩),(24,some ⟨5,[[.I 0,.B false,.nilS,.nilS,.nilS]],0⟩),(30,some ⟨1,rowsI x.before,0⟩),(31,some ⟨1,rowsI x.side,0⟩)],300⟩ rfl ?_ ?_
 ·simp [splice]
  exact ⟨by omega,by omega,Le.go [(0,0),(16,16),(24,24),(30,30),(224,31)] [] rfl rfl (by simp) (by simp [fcd])⟩
 refine awp_regc ⟨201,[(0,.pt 0 0 0),(2,.I size),(4,.pt 16 0 0),(6,.pt 24 0 0),(7,.nilS)],[(0,some (dice L a)),(16,some ⟨5,[[.I x.key,.B x.acc,.rs 30 0 x.before.length,pathsV x.paths,.rs 31 0 x.side.length]],0⟩),(24,some ⟨5,[[.I 0,.B false,.nilS,.nilS,.nilS]],0⟩),(30,some ⟨1,rowsI x.before,0⟩),(31,some ⟨1,rowsI x.side,0⟩)],400⟩ rfl ?_ ?_
 ·simp
  exact Le.go [(0,0),(16,16),(24,24),(30,30),(31,31)] [] rfl rfl (by simp) (by simp [fcd])
 have hxw:=hx.w
 obtain ⟨c,b1,⟨hb1,hc12⟩,hcN⟩:=Next_a L a 12 hl ha (by omega) (by omega)
 obtain ⟨k,hkN⟩ : ∃ k : Nat,0 < x.paths.length → k < x.paths.length ∧ ∃ b2 : Nat,b2 ≤ L.length ∧ ACalls Tryz.prog nmade_Dice_Next [.pt 0 0 0,.I x.paths.length] [dice L b1] (.I k) [some (dice L b2)]:=by
  by_cases h : 0 < x.paths.length
  ·obtain ⟨k,b2,⟨h1,h2⟩,h3⟩:=Next_a L b1 x.paths.length hl hb1 (by omega) (by omega)
   exact ⟨k,fun _=>⟨by omega,b2,h1,h3⟩⟩
  ·exact ⟨0,fun h'=>absurd h' h⟩
 obtain ⟨k0,hk5,hk6,hk7⟩ : ∃ k0 : Nat,(c = 5 → k0 = k) ∧ (c = 6 → k0 = 0) ∧ (c ≠ 5 → c ≠ 6 → k0 = x.paths.length):=by
  by_cases h5 : c = 5
  ·exact ⟨k,fun _=>rfl,fun h=>by omega,fun h=>absurd h5 h⟩
  ·by_cases h6 : c = 6
   ·exact ⟨0,fun h=>absurd h h5,fun _=>rfl,fun _ h=>absurd h6 h⟩
   ·exact ⟨x.paths.length,fun h=>absurd h h5,fun h=>absurd h h6,fun _ _=>rfl⟩
 refine awp_cut (ι:=Bool) (finS L a x size k0) (fun own=>(own = false → x.paths.length ≤ k0) ∧ (own = true → k0 < x.paths.length)) ?_ ?_
 ·refine awp_regc ⟨201,[(0,.pt 0 0 0),(2,.I size),(4,.pt 16 0 0),(6,.pt 24 0 0),(7,.nilS),(8,.I 0)],[(0,some (dice L a)),(16,some ⟨5,[[.I x.key,.B x.acc,.rs 30 0 x.before.length,pathsV x.paths,.rs 31 0 x.side.length]],0⟩),(24,some ⟨5,[[.I 0,.B false,.nilS,.nilS,.nilS]],0⟩),(30,some ⟨1,rowsI x.before,0⟩),(31,some ⟨1,rowsI x.side,0⟩)],500⟩ rfl ?_ ?_
  ·simp
   exact Le.go [(0,0),(16,16),(24,24),(30,30),(31,31)] [] rfl rfl (by simp) (by simp [fcd])
  refine awp_block ?_
  refine awp_loop (ι:=CSt) (copyS L a x size k0) (fun s=>s.i ≤ x.paths.length ∧ (s.own = false → s.i ≤ k0) ∧ (s.own = true → k0 < s.i)) (fun s=>x.paths.length - s.i) ⟨0,false⟩ ⟨Nat.zero_le _,fun _=>Nat.zero_le _,fun h=>by cases h⟩
   (Le.lst [(0,0),(16,16),(24,24),(30,30),(31,31)] [] [(32,1)] rfl (by simp) (by simp) (by simp [copyS]) (by simp [copyS]) (by simp) (by simp [copyS]) (by simp) (by simp [copyS,Up]) (by simp [copyS,fcd]; exact ⟨EntUp.rfl' (by simp),EntUp.rfl' (by simp),EntUp.rfl' (by simp),EntUp.rfl' (by simp),EntUp.rfl' (by simp)⟩)) ?_
  rintro ⟨i,own⟩ ⟨hi,hf,ht⟩
  simp only at hi hf ht
  cases own with
  | false =>
    have hf:=hf rfl
    obtain ⟨Q,hQ⟩ : ∃ Q,Q = x.paths.take i:=⟨_,rfl⟩
    have hQl : Q.length = i:=by rw [hQ,List.length_take]; omega
    show awp _ 1 _ _ ⟨201,[(0,.pt 0 0 0),(2,.I size),(4,.pt 16 0 0),(6,.pt 24 0 0),(7,.rs 32 0 i),(8,.I i)],[(0,some (dice L a)),(16,some ⟨5,[[.I x.key,.B x.acc,.rs 30 0 x.before.length,pathsV x.paths,.rs 31 0 x.side.length]],0⟩),(24,some ⟨5,[[.I 0,.B false,.nilS,.nilS,.nilS]],0⟩),(30,some ⟨1,rowsI x.before,0⟩),(31,some ⟨1,rowsI x.side,0⟩),(32,some ⟨1,(x.paths.take i).map fun w=>[ints w],0⟩)],700⟩
    rw [← hQ]
    refine awp_seq ?_
    refine awp_regc ⟨201,[(0,.pt 0 0 0),(2,.I size),(4,.pt 16 0 0),(6,.pt 24 0 0),(7,.rs 32 0 i),(8,.I i),(25,.B (decide (i < x.paths.length)))],[(0,some (dice L a)),(16,some ⟨5,[[.I x.key,.B x.acc,.rs 30 0 x.before.length,pathsV x.paths,.rs 31 0 x.side.length]],0⟩),(24,some ⟨5,[[.I 0,.B false,.nilS,.nilS,.nilS]],0⟩),(30,some ⟨1,rowsI x.before,0⟩),(31,some ⟨1,rowsI x.side,0⟩),(32,some ⟨1,Q.map fun w=>[ints w],0⟩)],800⟩ rfl ?_ ?_
    ·simp
     exact Le.go [(0,0),(16,16),(24,24),(30,30),(31,31),(32,32)] [] rfl rfl (by simp) (by simp [fcd])
    refine awp_cond _ rfl (fun h7=>?_) fun h7=>?_
    ·simp at h7
     have hw : IntKind.i64.wrap ((i : Int) + 1) = (i : Int) + 1:=w64 (by omega) (by omega)
     obtain ⟨w,hwd⟩ : ∃ w,w = x.paths[i]:=⟨_,rfl⟩
     have hwl : w.length ≤ m:=by rw [hwd]; exact hx.w _ (List.getElem_mem h7)
     have hpi : x.paths[i]? = some w:=by rw [List.getElem?_eq_getElem h7,hwd]
     have hts : x.paths.take (i + 1) = Q ++ [w]:=by rw [List.take_succ_eq_append_getElem h7,← hwd,hQ]
     have htQ : ∀ h : List Int → List AV,List.take i (List.map h Q) = List.map h Q:=fun h=>List.take_of_length_le (by simp [hQl])
     refine awp_skip ?_
     refine awp_seq ?_
     refine awp_block ?_
     refine awp_run (s:=?s30) rfl ?o30 ?q30
     case o30=>simp [hpi,h7,← hwd,htQ,hQl]; refine ⟨by omega,by omega,by omega,by omega,?_⟩; rfl
     refine awp_run (s:=?s31) rfl ?o31 ?q31
     case o31=>simp; rfl
     by_cases hk : i = k0
     ·subst hk
      refine ⟨⟨i + 1,true⟩,⟨h7,(fun h=>by cases h),fun _=>Nat.lt_succ_self i⟩,Nat.sub_lt_sub_left h7 (Nat.lt_succ_self i),?_⟩
      have hgd : x.paths.getD i [] = w:=by rw [List.getD_eq_getElem?_getD,hpi]; rfl
      have hdr : (x.paths.take (i + 1)).drop (i + 1) = []:=List.drop_eq_nil_of_le (by rw [List.length_take]; omega)
      show Le 1 _ ⟨201,_,_,700⟩
      rw [hgd,← hQ,hdr]
      exact Le.go [(0,0),(16,16),(24,24),(30,30),(31,31),(856,33),(872,32)] [] rfl rfl (by simp [hw]) (by simp [fcd])
     ·refine ⟨⟨i + 1,false⟩,⟨h7,fun _=>Nat.lt_of_le_of_ne hf hk,fun h=>by cases h⟩,Nat.sub_lt_sub_left h7 (Nat.lt_succ_self i),?_⟩
      show Le 1 _ ⟨201,_,[_,_,_,_,_,(32,some ⟨1,(x.paths.take (i + 1)).map fun w=>[ints w],0⟩)],700⟩
      rw [hts]
      exact Le.go [(0,0),(16,16),(24,24),(30,30),(31,31),(872,32)] [856] rfl rfl (by simp [hw]) (by simp [fcd,take_map_len])
    ·simp at h7
     obtain rfl : i = x.paths.length:=by omega
     refine awp_exit ?_
     refine hit ?_
     refine ⟨false,⟨fun _=>hf,fun h=>(by cases h)⟩,?_⟩
     show Le 1 _ ⟨201,_,[_,_,_,_,_,(32,some ⟨1,x.paths.map fun w=>[ints w],0⟩)],900⟩
     rw [hQ,List.take_length]
     exact Le.go [(0,0),(16,16),(24,24),(30,30),(31,31),(32,32)] [] rfl rfl (by simp) (by simp [fcd])
  | true =>
    have ht:=ht rfl
    obtain ⟨Q,hQ⟩ : ∃ Q,Q = x.paths.take k0:=⟨_,rfl⟩
    obtain ⟨T,hT⟩ : ∃ T,T = (x.paths.take i).drop (k0 + 1):=⟨_,rfl⟩
    obtain ⟨v,hv⟩ : ∃ v,v = x.paths.getD k0 []:=⟨_,rfl⟩
    have hQl : Q.length = k0:=by rw [hQ,List.length_take]; omega
    have hTl : T.length = i - (k0 + 1):=by rw [hT,List.length_drop,List.length_take]; omega
    show awp _ 1 _ _ ⟨201,[(0,.pt 0 0 0),(2,.I size),(4,.pt 16 0 0),(6,.pt 24 0 0),(7,.rs 32 0 i),(8,.I i)],[(0,some (dice L a)),(16,some ⟨5,[[.I x.key,.B x.acc,.rs 30 0 x.before.length,pathsV x.paths,.rs 31 0 x.side.length]],0⟩),(24,some ⟨5,[[.I 0,.B false,.nilS,.nilS,.nilS]],0⟩),(30,some ⟨1,rowsI x.before,0⟩),(31,some ⟨1,rowsI x.side,0⟩),(33,some ⟨1,rowsI (x.paths.getD k0 []),0⟩),(32,some ⟨1,((x.paths.take k0).map fun w=>[ints w]) ++ [[.rs 33 0 (x.paths.getD k0 []).length]] ++ (((x.paths.take i).drop (k0 + 1)).map fun w=>[ints w]),0⟩)],700⟩
    rw [← hQ,← hT,← hv]
    refine awp_seq ?_
    refine awp_regc ⟨201,[(0,.pt 0 0 0),(2,.I size),(4,.pt 16 0 0),(6,.pt 24 0 0),(7,.rs 32 0 i),(8,.I i),(25,.B (decide (i < x.paths.length)))],[(0,some (dice L a)),(16,some ⟨5,[[.I x.key,.B x.acc,.rs 30 0 x.before.length,pathsV x.paths,.rs 31 0 x.side.length]],0⟩),(24,some ⟨5,[[.I 0,.B false,.nilS,.nilS,.nilS]],0⟩),(30,some ⟨1,rowsI x.before,0⟩),(31,some ⟨1,rowsI x.side,0⟩),(33,some ⟨1,rowsI v,0⟩),(32,some ⟨1,(Q.map fun w=>[ints w]) ++ [[.rs 33 0 v.length]] ++ (T.map fun w=>[ints w]),0⟩)],800⟩ rfl ?_ ?_
    ·simp
     exact Le.go [(0,0),(16,16),(24,24),(30,30),(31,31),(32,32),(33,33)] [] rfl rfl (by simp) (by simp [fcd])
    refine awp_cond _ rfl (fun h7=>?_) fun h7=>?_
    ·simp at h7
     have hw : IntKind.i64.wrap ((i : Int) + 1) = (i : Int) + 1:=w64 (by omega) (by omega)
     obtain ⟨w,hwd⟩ : ∃ w,w = x.paths[i]:=⟨_,rfl⟩
     have hwl : w.length ≤ m:=by rw [hwd]; exact hx.w _ (List.getElem_mem h7)
     have hpi : x.paths[i]? = some w:=by rw [List.getElem?_eq_getElem h7,hwd]
     have hts : (x.paths.take (i + 1)).drop (k0 + 1) = T ++ [w]:=by rw [List.take_succ_eq_append_getElem h7,← hwd,hT,List.drop_append_of_le_length (by rw [List.length_take]; omega)]
     obtain ⟨Z,hZ⟩ : ∃ Z,Z = (Q.map fun w=>[ints w]) ++ [[.rs 33 0 v.length]] ++ (T.map fun w=>[ints w]):=⟨_,rfl⟩
     have hZl : Z.length = i:=by rw [hZ]; simp [hQl,hTl]; omega
     have htZ : List.take i Z = Z:=List.take_of_length_le (by omega)
     rw [← hZ]
     refine awp_skip ?_
     refine awp_seq ?_
     refine awp_block ?_
     refine awp_run (s:=?s40) rfl ?o40 ?q40
     case o40=>simp [hpi,h7,← hwd,htZ,hZl]; refine ⟨by omega,by omega,by omega,by omega,?_⟩; rfl
     refine awp_run (s:=?s41) rfl ?o41 ?q41
     case o41=>simp; rfl
     refine ⟨⟨i + 1,true⟩,⟨h7,(fun h=>by cases h),fun _=>Nat.lt_succ_of_lt ht⟩,Nat.sub_lt_sub_left h7 (Nat.lt_succ_self i),?_⟩
     show Le 1 _ ⟨201,_,[_,_,_,_,_,_,(32,some ⟨1,((x.paths.take k0).map fun w=>[ints w]) ++ [[.rs 33 0 (x.paths.getD k0 []).length]] ++ (((x.paths.take (i + 1)).drop (k0 + 1)).map fun w=>[ints w]),0⟩)],700⟩
     rw [hts,← hQ,← hv]
     exact Le.go [(0,0),(16,16),(24,24),(30,30),(31,31),(33,33),(872,32)] [856] rfl rfl (by simp [hw]) (by simp [fcd,take_map_len,hZ])
    ·simp at h7
     obtain rfl : i = x.paths.length:=by omega
     refine awp_exit ?_
     refine hit ?_
     refine ⟨true,⟨(fun h=>by cases h),fun _=>ht⟩,?_⟩
     show Le 1 _ ⟨201,_,[_,_,_,_,_,_,(32,some ⟨1,((x.paths.take k0).map fun w=>[ints w]) ++ [[.rs 33 0 (x.paths.getD k0 []).length]] ++ ((x.paths.drop (k0 + 1)).map fun w=>[ints w]),0⟩)],900⟩
     rw [← hQ,← hv,hT,List.take_length]
     exact Le.go [(0,0),(16,16),(24,24),(30,30),(31,31),(33,33),(32,32)] [] rfl rfl (by simp) (by simp [fcd])
 intro own ho
 obtain ⟨hof,hot⟩:=ho
 cases own with
 | false =>
   have hof:=hof rfl
   show awp _ 1 _ _ ⟨201,[(0,.pt 0 0 0),(2,.I size),(4,.pt 16 0 0),(6,.pt 24 0 0),(7,.rs 32 0 x.paths.length)],[(0,some (dice L a)),(16,some ⟨5,[[.I x.key,.B x.acc,.rs 30 0 x.before.length,pathsV x.paths,.rs 31 0 x.side.length]],0⟩),(24,some ⟨5,[[.I 0,.B false,.nilS,.nilS,.nilS]],0⟩),(30,some ⟨1,rowsI x.before,0⟩),(31,some ⟨1,rowsI x.side,0⟩),(32,some ⟨1,x.paths.map fun w=>[ints w],0⟩)],900⟩
   refine rx (s:=?s1) [0,2,4,6] [0,16,24,30,31,32] [] rfl ?o1 ?q1
   case o1=>simp [splice,fcd]; rfl
   refine awp_cut (ι:=Expl × Nat) (fun y=>⟨201,[(4,.pt 16 0 0),(6,.pt 24 0 0)],[(0,some (dice L y.2)),(16,some ⟨5,[xE y.1],0⟩),(24,some ⟨5,[[.I 0,.B false,.nilS,.nilS,.nilS]],0⟩)],2000⟩) (fun y=>ExplB y.1 (m + 64) ∧ y.2 ≤ L.length) ?_ fun y hy=>?_
   ·refine rx (s:=?s2) [0,2,4,6,41] [0,16,24,30,31,32] [] rfl ?o2 ?q2
    case o2 =>
     simp
     refine callM1 (i:=0) rfl (e':=dice L a) (by simp) hcN (by simp) (by simp) ?_
     simp [fcd]
     rfl
    refine awp_block ?_
    refine rx (s:=?s10) [0,2,4,6,41,42] [0,16,24,30,31,32] [] rfl ?o10 ?q10
    case o10=>simp [fcd]; rfl
    refine awp_cond _ rfl (fun h10=>?_) fun h10=>?_
    ·simp at h10
     obtain ⟨v,b2,⟨hb2,hv⟩,hcv⟩:=Next_a L b1 (size + 1) hl hb1 (by omega) (by omega)
     have hw : IntKind.i64.wrap (size + 1) = size + 1:=w64 (by omega) (by omega)
     refine awp_reg rfl ?_
     simp [hw,splice]
     refine callM1 (i:=0) rfl (e':=dice L b1) (by simp) hcv (by simp) (by simp) ?_
     simp [splice]
     exact ⟨⟨v,x.acc,x.before,x.paths,x.side⟩,b2,⟨⟨by simp only; omega,by simp only; omega,fun w hw=>Nat.le_trans (hxw w hw) (by omega),by simp only; omega⟩,by omega⟩,Le.go [(0,0),(16,16),(24,24)] [30,31,32] rfl rfl (by simp) (by simp [fcd,take_map_len])⟩
    simp at h10
    refine rx (s:=?s11) [0,2,4,6,41,49] [0,16,24,30,31,32] [] rfl ?o11 ?q11
    case o11=>simp [fcd]; rfl
    refine awp_cond _ rfl (fun h11=>?_) fun h11=>?_
    ·simp at h11
     refine awp_reg rfl ?_
     simp [splice]
     exact ⟨⟨x.key,!x.acc,x.before,x.paths,x.side⟩,b1,⟨⟨by simp only; omega,by simp only; omega,fun w hw=>Nat.le_trans (hxw w hw) (by omega),by simp only; omega⟩,by omega⟩,Le.go [(0,0),(16,16),(24,24)] [30,31,32] rfl rfl (by simp) (by simp [fcd,take_map_len])⟩
    simp at h11
    refine rx (s:=?s12) [0,2,4,6,41,55] [0,16,24,30,31,32] [] rfl ?o12 ?q12
    case o12=>simp [fcd]; rfl
    refine awp_cond _ rfl (fun h12=>?_) fun h12=>?_
    ·simp at h12
     refine rx (s:=?s13) [4,6,60] [0,16,24,30,31,32] [] rfl ?o13 ?q13
     case o13=>simp [fcd]; rfl
     refine awp_cond _ rfl (fun h13=>?_) fun h13=>?_
     ·simp at h13
      refine awp_reg rfl ?_
      simp
      refine k_slr 1 (i:=30) rfl rfl (by omega) ?_
      have hd1 : 1 + (x.before.length - 1) ≤ x.before.length:=by omega
      have hd2 : ∀ f : Int → List AV,List.take (x.before.length - 1) (List.map f x.before).tail = List.map f x.before.tail:=fun f=>by rw [List.take_of_length_le (by simp),List.map_tail]
      simp [splice]
      exact ⟨⟨x.key,x.acc,x.before.tail,x.paths,x.side⟩,b1,⟨⟨by simp only [List.length_tail]; omega,by simp only; omega,fun w hw=>Nat.le_trans (hxw w hw) (by omega),by simp only; omega⟩,by omega⟩,Le.go [(0,0),(16,16),(24,24)] [30,31,32] rfl rfl (by simp) (by simp [fcd,take_map_len,hd1,hd2])⟩
     simp at h13
     refine awp_skip ?_
     exact ⟨(⟨x.key,x.acc,x.before,x.paths,x.side⟩,b1),⟨⟨by simp only; omega,by simp only; omega,fun w hw=>Nat.le_trans (hxw w hw) (by omega),by simp only; omega⟩,by omega⟩,Le.go [(0,0),(16,16),(24,24)] [30,31,32] rfl rfl (by simp) (by simp [fcd,take_map_len])⟩
    simp at h12
    refine rx (s:=?s14) [0,2,4,6,41,65] [0,16,24,30,31,32] [] rfl ?o14 ?q14
    case o14=>simp [fcd]; rfl
    refine awp_cond _ rfl (fun h14=>?_) fun h14=>?_
    ·simp at h14
     obtain ⟨v,b2,⟨hb2,hv⟩,hcv⟩:=Next_a L b1 size hl hb1 (by omega) (by omega)
     refine awp_drw rfl ?_
     simp
     refine callM1 (i:=0) rfl (e':=dice L b1) (by simp) hcv (by simp) (by simp) ?_
     simp [splice,take_map_len]
     have hd2 : ∀ (f : Int → List AV) (u : List AV),List.take (x.before.length + 1) (List.map f x.before ++ [u]) = List.map f x.before ++ [u]:=fun f u=>List.take_of_length_le (by simp)
     refine ⟨by omega,by omega,?_⟩
     exact ⟨rfl,⟨x.key,x.acc,x.before ++ [(v : Int)],x.paths,x.side⟩,b2,⟨⟨by simp only [List.length_append,List.length_singleton]; omega,by simp only; omega,fun w hw=>Nat.le_trans (hxw w hw) (by omega),by simp only; omega⟩,by omega⟩,Le.go [(0,0),(16,16),(24,24)] [1052,31,32] rfl rfl (by simp) (by simp [fcd,take_map_len,hd2])⟩
    simp at h14
    refine rx (s:=?s15) [0,2,4,6,41,75] [0,16,24,30,31,32] [] rfl ?o15 ?q15
    case o15=>simp [fcd]; rfl
    refine awp_cond _ rfl (fun h15=>?_) fun h15=>?_
    ·simp at h15
     refine rx (s:=?s16) [4,6,80] [0,16,24,30,31,32] [] rfl ?o16 ?q16
     case o16=>simp [fcd]; rfl
     refine awp_cond _ rfl (fun h16=>?_) fun h16=>?_
     ·simp at h16
      refine awp_reg rfl ?_
      simp
      refine k_slr 1 (i:=32) rfl rfl (by omega) ?_
      have hd1 : 1 + (x.paths.length - 1) ≤ x.paths.length:=by omega
      have hd2 : ∀ f : List Int → List AV,List.take (x.paths.length - 1) (List.map f x.paths).tail = List.map f x.paths.tail:=fun f=>by rw [List.take_of_length_le (by simp),List.map_tail]
      simp [splice]
      exact ⟨⟨x.key,x.acc,x.before,x.paths.tail,x.side⟩,b1,⟨⟨by simp only; omega,by simp only [List.length_tail]; omega,fun w hw=>Nat.le_trans (hxw w (List.mem_of_mem_tail hw)) (by omega),by simp only; omega⟩,by omega⟩,Le.go [(0,0),(16,16),(24,24)] [30,31,32] rfl rfl (by simp) (by simp [fcd,take_map_len,hd1,hd2])⟩
     simp at h16
     refine awp_skip ?_
     exact ⟨(⟨x.key,x.acc,x.before,x.paths,x.side⟩,b1),⟨⟨by simp only; omega,by simp only; omega,fun w hw=>Nat.le_trans (hxw w hw) (by omega),by simp only; omega⟩,by omega⟩,Le.go [(0,0),(16,16),(24,24)] [30,31,32] rfl rfl (by simp) (by simp [fcd,take_map_len])⟩
    simp at h15
    refine rx (s:=?s17) [0,2,4,6,41,85] [0,16,24,30,31,32] [] rfl ?o17 ?q17
    case o17=>simp [fcd]; rfl
    refine awp_cond _ rfl (fun h17=>?_) fun h17=>?_
    ·simp at h17
     have hp0 : x.paths.length = 0:=by
      rcases Nat.eq_zero_or_pos x.paths.length with h | h
      ·exact h
      ·have:=(hkN h).1; have:=hk5 (by omega); omega
     refine rx (s:=?s18) [0,2,4,6,90] [0,16,24,30,31,32] [] rfl ?o18 ?q18
     case o18=>simp [fcd]; rfl
     refine awp_cond _ rfl (fun h18=>?_) fun h18=>?_
     ·simp at h18
      omega
     refine awp_skip ?_
     exact ⟨(⟨x.key,x.acc,x.before,x.paths,x.side⟩,b1),⟨⟨by simp only; omega,by simp only; omega,fun w hw=>Nat.le_trans (hxw w hw) (by omega),by simp only; omega⟩,by omega⟩,Le.go [(0,0),(16,16),(24,24)] [30,31,32] rfl rfl (by simp) (by simp [fcd,take_map_len])⟩
    simp at h17
    refine rx (s:=?s19) [0,2,4,6,41,110] [0,16,24,30,31,32] [] rfl ?o19 ?q19
    case o19=>simp [fcd]; rfl
    refine awp_cond _ rfl (fun h19=>?_) fun h19=>?_
    ·simp at h19
     have hp0 : x.paths = []:=by have:=hk6 (by omega); exact List.eq_nil_of_length_eq_zero (by omega)
     refine awp_regc ⟨201,[(0,.pt 0 0 0),(2,.I size),(4,.pt 16 0 0),(6,.pt 24 0 0),(123,.B false)],[(0,some (dice L b1)),(16,some ⟨5,[[.I x.key,.B x.acc,.rs 30 0 x.before.length,.rs 32 0 x.paths.length,.rs 31 0 x.side.length]],0⟩),(24,some ⟨5,[[.I 0,.B false,.nilS,.nilS,.nilS]],0⟩),(30,some ⟨1,rowsI x.before,0⟩),(31,some ⟨1,rowsI x.side,0⟩),(32,some ⟨1,x.paths.map fun w=>[ints w],0⟩)],1900⟩ rfl ?_ ?_
     ·simp [hp0]
      exact Le.go [(0,0),(16,16),(24,24),(30,30),(31,31),(32,32)] [] rfl rfl (by simp [hp0]) (by simp [hp0,fcd])
     refine awp_cond _ rfl (fun h=>by cases h) fun _=>?_
     refine awp_skip ?_
     exact ⟨(⟨x.key,x.acc,x.before,x.paths,x.side⟩,b1),⟨⟨by simp only; omega,by simp only; omega,fun w hw=>Nat.le_trans (hxw w hw) (by omega),by simp only; omega⟩,by omega⟩,Le.go [(0,0),(16,16),(24,24)] [30,31,32] rfl rfl (by simp) (by simp [fcd,take_map_len])⟩
    simp at h19
    refine rx (s:=?s20) [0,2,4,6,41,139] [0,16,24,30,31,32] [] rfl ?o20 ?q20
    case o20=>simp [fcd]; rfl
    refine awp_cond _ rfl (fun h20=>?_) fun h20=>?_
    ·simp at h20
     refine rx (s:=?s21) [0,4,6,144] [0,16,24,30,31,32] [] rfl ?o21 ?q21
     case o21=>simp [fcd]; rfl
     refine awp_cond _ rfl (fun h21=>?_) fun h21=>?_
     ·simp at h21
      obtain ⟨v,b2,⟨hb2,hv⟩,hcv⟩:=Next_a L b1 ((x.side.length : Int) - 1) hl hb1 (by omega) (by omega)
      have hw1 : IntKind.i64.wrap ((x.side.length : Int) - 1) = (x.side.length : Int) - 1:=w64 (by omega) (by omega)
      have hw2 : IntKind.i64.wrap (1 + (v : Int)) = ((v + 1 : Nat) : Int):=by rw [w64 (by omega) (by omega)]; omega
      obtain ⟨q,hq⟩ : ∃ q,q = v + 1:=⟨_,rfl⟩
      rw [← hq] at hw2
      obtain ⟨q1,hq1⟩ : ∃ q1,q1 = q + 1:=⟨_,rfl⟩
      have hw3 : IntKind.i64.wrap ((q : Int) + 1) = (q1 : Int):=by rw [w64 (by omega) (by omega)]; omega
      refine rx (s:=?s22) [4,6,10] [0,16,24,30,31,32] [] rfl ?o22 ?q22
      case o22 =>
       simp [hw1]
       refine callM1 (i:=0) rfl (e':=dice L b1) (by simp) hcv (by simp) (by simp) ?_
       simp [hw2,fcd]
       rfl
      refine awp_drw rfl ?_
      obtain ⟨S1,hS1⟩ : ∃ S1,S1 = x.side.take q:=⟨_,rfl⟩
      obtain ⟨S2,hS2⟩ : ∃ S2,S2 = x.side.drop q1:=⟨_,rfl⟩
      have hS1l : S1.length = q:=by rw [hS1,List.length_take]; omega
      have hS2l : S2.length = x.side.length - q1:=by rw [hS2,List.length_drop]
      have e1 : ∀ f : Int → List AV,List.take q (List.map f x.side) = List.map f S1:=fun f=>by rw [hS1,List.map_take]
      have e2 : ∀ f : Int → List AV,List.take (x.side.length - q1) (List.drop q1 (List.map f x.side)) = List.map f S2:=fun f=>by rw [hS2,List.map_drop,List.take_of_length_le (by simp)]
      have e3 : ∀ f : Int → List AV,List.take (q + S2.length) (List.map f S1 ++ List.map f S2) = List.map f S1 ++ List.map f S2:=fun f=>List.take_of_length_le (by simp; omega)
      simp [hw3,splice,e1,e2]
      refine ⟨by omega,by omega,_,⟨by omega,rfl⟩,by omega,by simp; omega,by simp; omega,rfl,⟨x.key,x.acc,x.before,x.paths,S1 ++ S2⟩,b2,⟨⟨by simp only; omega,by simp only; omega,fun w hw=>Nat.le_trans (hxw w hw) (by omega),by simp only [List.length_append]; omega⟩,by omega⟩,Le.go [(0,0),(16,16),(24,24)] [30,1236,32] rfl rfl (by simp) (by simp [fcd,take_map_len,hS1l,e3])⟩
     simp at h21
     refine awp_skip ?_
     exact ⟨(⟨x.key,x.acc,x.before,x.paths,x.side⟩,b1),⟨⟨by simp only; omega,by simp only; omega,fun w hw=>Nat.le_trans (hxw w hw) (by omega),by simp only; omega⟩,by omega⟩,Le.go [(0,0),(16,16),(24,24)] [30,31,32] rfl rfl (by simp) (by simp [fcd,take_map_len])⟩
    simp at h20
    refine rx (s:=?s23) [0,2,4,6,41,163] [0,16,24,30,31,32] [] rfl ?o23 ?q23
    case o23=>simp [fcd]; rfl
    refine awp_cond _ rfl (fun h23=>?_) fun h23=>?_
    ·simp at h23
     have hw1 : IntKind.i64.wrap (2 * size) = 2 * size:=w64 (by omega) (by omega)
     have hw2 : IntKind.i64.wrap (2 + 2 * size) = 2 + 2 * size:=w64 (by omega) (by omega)
     refine awp_reg rfl ?_
     simp [hw1,hw2,splice,take_map_len]
     have hd2 : ∀ (f : Int → List AV) (u : List AV),List.take (x.side.length + 1) (List.map f x.side ++ [u]) = List.map f x.side ++ [u]:=fun f u=>List.take_of_length_le (by simp)
     refine ⟨by omega,by omega,?_⟩
     exact ⟨⟨x.key,x.acc,x.before,x.paths,x.side ++ [2 + 2 * size]⟩,b1,⟨⟨by simp only; omega,by simp only; omega,fun w hw=>Nat.le_trans (hxw w hw) (by omega),by simp only [List.length_append,List.length_singleton]; omega⟩,by omega⟩,Le.go [(0,0),(16,16),(24,24)] [30,1132,32] rfl rfl (by simp) (by simp [fcd,take_map_len,hd2])⟩
    simp at h23
    refine rx (s:=?s24) [0,2,4,6,41,173] [0,16,24,30,31,32] [] rfl ?o24 ?q24
    case o24=>simp [fcd]; rfl
    refine awp_cond _ rfl (fun h24=>?_) fun h24=>?_
    ·simp at h24
     refine rx (s:=?s25) [4,6,178] [0,16,24,30,31,32] [] rfl ?o25 ?q25
     case o25=>simp [fcd]; rfl
     refine awp_cond _ rfl (fun h25=>?_) fun h25=>?_
     ·simp at h25
      obtain ⟨w0,hw0⟩ : ∃ w0,w0 = x.paths[0]:=⟨_,rfl⟩
      have hg0 : x.paths[0]? = some w0:=by rw [List.getElem?_eq_getElem h25,hw0]
      have hm0 : w0 ∈ x.paths:=by rw [hw0]; exact List.getElem_mem _
      refine awp_drw rfl ?_
      simp [hg0,h25,splice,take_map_len]
      have hd2 : ∀ (f : List Int → List AV) (u : List AV),List.take (x.paths.length + 1) (List.map f x.paths ++ [u]) = List.map f x.paths ++ [u]:=fun f u=>List.take_of_length_le (by simp)
      rw [← hw0]
      refine ⟨by omega,by omega,rfl,⟨x.key,x.acc,x.before,x.paths ++ [w0],x.side⟩,b1,⟨⟨by simp only; omega,by simp only [List.length_append,List.length_singleton]; omega,fun w hw=>?_,by simp only; omega⟩,by omega⟩,Le.go [(0,0),(16,16),(24,24)] [30,31,1188] rfl rfl (by simp) (by simp [fcd,take_map_len,hd2])⟩
      rcases List.mem_append.1 hw with h | h
      ·exact Nat.le_trans (hxw w h) (by omega)
      ·rw [List.mem_singleton.1 h]; exact Nat.le_trans (hxw w0 hm0) (by omega)
     simp at h25
     refine awp_skip ?_
     exact ⟨(⟨x.key,x.acc,x.before,x.paths,x.side⟩,b1),⟨⟨by simp only; omega,by simp only; omega,fun w hw=>Nat.le_trans (hxw w hw) (by omega),by simp only; omega⟩,by omega⟩,Le.go [(0,0),(16,16),(24,24)] [30,31,32] rfl rfl (by simp) (by simp [fcd,take_map_len])⟩
    simp at h24
    refine rx (s:=?s26) [0,2,4,6,188] [0,16,24,30,31,32] [] rfl ?o26 ?q26
    case o26=>simp [fcd]; rfl
    refine awp_cond _ rfl (fun h26=>?_) fun h26=>?_
    ·simp at h26
     obtain ⟨v,b2,⟨hb2,hv⟩,hcv⟩:=Next_a L b1 (2 * size) hl hb1 (by omega) (by omega)
     have hw1 : IntKind.i64.wrap (2 * size) = 2 * size:=w64 (by omega) (by omega)
     have hw2 : IntKind.i64.wrap (2 + (v : Int)) = 2 + (v : Int):=w64 (by omega) (by omega)
     have hj:=join24_ok x.side [0,2 + (v : Int)] (by omega) (by simp)
     obtain ⟨J,hJ⟩ : ∃ J,J = joinL (x.side ++ [0,2 + (v : Int)]):=⟨_,rfl⟩
     have hJl : J.length ≤ 64:=by rw [hJ]; exact joinL_len _
     rw [← hJ] at hj
     refine awp_drw rfl ?_
     simp [hw1]
     refine callM1 (i:=0) rfl (e':=dice L b1) (by simp) hcv (by simp) (by simp) ?_
     simp [hw2]
     refine callN1r [31,1172] hj (by simp [take_map_len]) (by first | exact .rs _ _ _ | simp) (by intro row hr; simp at hr; obtain ⟨z,_,rfl⟩:=hr; intro u hu; simp at hu; subst hu; exact .sc _) ?_
     simp [splice,fcd]
     exact ⟨rfl,⟨x.key,x.acc,x.before,x.paths,J⟩,b2,⟨⟨by simp only; omega,by simp only; omega,fun w hw=>Nat.le_trans (hxw w hw) (by omega),by simp only; omega⟩,by omega⟩,Le.go [(0,0),(16,16),(24,24)] [30,1180,32] rfl rfl (by simp) (by simp [fcd,take_map_len])⟩
    refine awp_skip ?_
    exact ⟨(⟨x.key,x.acc,x.before,x.paths,x.side⟩,b1),⟨⟨by simp only; omega,by simp only; omega,fun w hw=>Nat.le_trans (hxw w hw) (by omega),by simp only; omega⟩,by omega⟩,Le.go [(0,0),(16,16),(24,24)] [30,31,32] rfl rfl (by simp) (by simp [fcd,take_map_len])⟩
   obtain ⟨y,b⟩:=y
   refine rx (s:=?s90) [6] [0,24] [16] rfl ?o90 ?q90
   case o90=>simp [splice]; rfl
   refine awp_ret ?_
   exact PostX.mk (.inr rfl) (y,b) hy ⟨_,rfl,[],[24],by simp [List.range,List.range.loop],by simp,by simp,by simp [List.range,List.range.loop],by simp [List.range,List.range.loop]⟩
 | true =>
   have hot:=hot rfl
   obtain ⟨hkl,b2,hb2,hkC⟩:=hkN (by omega)
   obtain ⟨Q,hQ⟩ : ∃ Q,Q = x.paths.take k0:=⟨_,rfl⟩
   obtain ⟨T,hT⟩ : ∃ T,T = x.paths.drop (k0 + 1):=⟨_,rfl⟩
   obtain ⟨v,hv⟩ : ∃ v,v = x.paths.getD k0 []:=⟨_,rfl⟩
   have hQl : Q.length = k0:=by rw [hQ,List.length_take]; omega
   have hTl : T.length = x.paths.length - (k0 + 1):=by rw [hT,List.length_drop]
   have hvm : v ∈ x.paths:=by rw [hv,List.getD_eq_getElem?_getD,List.getElem?_eq_getElem hot]; exact List.getElem_mem hot
   have hvl : v.length ≤ m:=hxw v hvm
   have hQm : ∀ w ∈ Q,w ∈ x.paths:=fun w hw=>by rw [hQ] at hw; exact List.mem_of_mem_take hw
   have hTm : ∀ w ∈ T,w ∈ x.paths:=fun w hw=>by rw [hT] at hw; exact List.mem_of_mem_drop hw
   obtain ⟨n,hn⟩ : ∃ n,n = x.paths.length:=⟨_,rfl⟩
   rw [← hn] at hot hkl hTl hkC hxp hof hk7
   show awp _ 1 _ _ ⟨201,[(0,.pt 0 0 0),(2,.I size),(4,.pt 16 0 0),(6,.pt 24 0 0),(7,.rs 32 0 x.paths.length)],[(0,some (dice L a)),(16,some ⟨5,[[.I x.key,.B x.acc,.rs 30 0 x.before.length,pathsV x.paths,.rs 31 0 x.side.length]],0⟩),(24,some ⟨5,[[.I 0,.B false,.nilS,.nilS,.nilS]],0⟩),(30,some ⟨1,rowsI x.before,0⟩),(31,some ⟨1,rowsI x.side,0⟩),(33,some ⟨1,rowsI (x.paths.getD k0 []),0⟩),(32,some ⟨1,((x.paths.take k0).map fun w=>[ints w]) ++ [[.rs 33 0 (x.paths.getD k0 []).length]] ++ ((x.paths.drop (k0 + 1)).map fun w=>[ints w]),0⟩)],900⟩
   rw [← hQ,← hT,← hv,← hn]
   have hget : ∀ r : List AV,((Q.map fun w=>[ints w]) ++ [r] ++ (T.map fun w=>[ints w]))[k0]? = some r:=fun r=>get_mid (by simp [hQl])
   have hset : ∀ r r' : List AV,((Q.map fun w=>[ints w]) ++ [r] ++ (T.map fun w=>[ints w])).set k0 r' = (Q.map fun w=>[ints w]) ++ [r'] ++ (T.map fun w=>[ints w]):=fun r r'=>set_mid (by simp [hQl])
   have hlenZ : ∀ r : List AV,((Q.map fun w=>[ints w]) ++ [r] ++ (T.map fun w=>[ints w])).length = n:=fun r=>by simp [hQl,hTl]; omega
   obtain ⟨Z,hZ⟩ : ∃ Z : List AV → List (List AV),Z = fun r=>(Q.map fun w=>[ints w]) ++ [r] ++ (T.map fun w=>[ints w]):=⟨_,rfl⟩
   have hZ' : ∀ r,(Q.map fun w=>[ints w]) ++ [r] ++ (T.map fun w=>[ints w]) = Z r:=fun r=>by rw [hZ]
   simp only [hZ'] at hget hset hlenZ
   rw [hZ']
   have hconv : ∀ (ρ : List (Nat × Nat)) (sn : List Nat) (h : Nat → Option Ent) (k : Nat) (r : List AV),(Z r).map (fun l=>l.map (conv ρ sn h (k + 1))) = Z (r.map (conv ρ sn h (k + 1))):=fun ρ sn h k r=>by rw [hZ]; simp [fcd]
   refine rx (s:=?t1) [0,2,4,6] [0,16,24,30,31,33,32] [] rfl ?u1 ?v1
   case u1=>simp [splice,fcd,hconv]; rfl
   refine awp_cut (ι:=Expl × Nat) (fun y=>⟨201,[(4,.pt 16 0 0),(6,.pt 24 0 0)],[(0,some (dice L y.2)),(16,some ⟨5,[xE y.1],0⟩),(24,some ⟨5,[[.I 0,.B false,.nilS,.nilS,.nilS]],0⟩)],2000⟩) (fun y=>ExplB y.1 (m + 64) ∧ y.2 ≤ L.length) ?_ fun y hy=>?_
   ·refine rx (s:=?t2) [0,2,4,6,41] [0,16,24,30,31,33,32] [] rfl ?u2 ?v2
    case u2 =>
     simp
     refine callM1 (i:=0) rfl (e':=dice L a) (by simp) hcN (by simp) (by simp) ?_
     simp [fcd,hconv]
     rfl
    refine awp_block ?_
    have hc : c = 5 ∨ c = 6:=by
     by_cases h5 : c = 5
     ·exact .inl h5
     ·by_cases h6 : c = 6
      ·exact .inr h6
      ·have:=hk7 h5 h6; omega
    have hun : ∀ r : List AV,List.take n (Z r) = Z r:=fun r=>List.take_of_length_le (Nat.le_of_eq (hlenZ r))
    rcases hc with rfl | rfl
    ·refine rx (s:=?s200) [0,2,4,6,41,42] [0,16,24,30,31,33,32] [] rfl ?o200 ?q200
     case o200=>simp [fcd,hconv]; rfl
     refine awp_cond _ rfl (fun h=>by cases h) fun _=>?_
     refine rx (s:=?s201) [0,2,4,6,41,49] [0,16,24,30,31,33,32] [] rfl ?o201 ?q201
     case o201=>simp [fcd,hconv]; rfl
     refine awp_cond _ rfl (fun h=>by cases h) fun _=>?_
     refine rx (s:=?s202) [0,2,4,6,41,55] [0,16,24,30,31,33,32] [] rfl ?o202 ?q202
     case o202=>simp [fcd,hconv]; rfl
     refine awp_cond _ rfl (fun h=>by cases h) fun _=>?_
     refine rx (s:=?s203) [0,2,4,6,41,65] [0,16,24,30,31,33,32] [] rfl ?o203 ?q203
     case o203=>simp [fcd,hconv]; rfl
     refine awp_cond _ rfl (fun h=>by cases h) fun _=>?_
     refine rx (s:=?s204) [0,2,4,6,41,75] [0,16,24,30,31,33,32] [] rfl ?o204 ?q204
     case o204=>simp [fcd,hconv]; rfl
     refine awp_cond _ rfl (fun h=>by cases h) fun _=>?_
     refine rx (s:=?s205) [0,2,4,6,41,85] [0,16,24,30,31,33,32] [] rfl ?o205 ?q205
     case o205=>simp [fcd,hconv]; rfl
     refine awp_cond _ rfl (fun _=>?_) fun h=>by cases h
     obtain rfl:=hk5 rfl
     refine rx (s:=?s206) [0,2,4,6,90] [0,16,24,30,31,33,32] [] rfl ?o206 ?q206
     case o206=>simp [fcd,hconv]; rfl
     refine awp_cond _ rfl (fun _=>?_) fun h=>by simp at h; omega
     refine rx (s:=?s207) [0,2,4,6,9] [0,16,24,30,31,33,32] [] rfl ?o207 ?q207
     case o207 =>
      simp
      refine callM1 (i:=0) rfl (e':=dice L b1) (by simp) hkC (by simp) (by simp) ?_
      simp [fcd,hconv]
      rfl
     obtain ⟨d,b3,⟨hb3,hd⟩,hcd⟩:=Next_a L b2 size hl hb2 (by omega) (by omega)
     refine awp_drw rfl ?_
     simp [hget]
     refine ⟨hkl,?_⟩
     refine callM1 (i:=0) rfl (e':=dice L b2) (by simp) hcd (by simp) (by simp) ?_
     simp [hget,hset,splice]
     obtain ⟨P,hP⟩ : ∃ P : List (List Int),P = Q ++ [v ++ [(d : Int)]] ++ T:=⟨_,rfl⟩
     have hPm : (P.map fun w=>[ints w]) = Z [.vs 1 false (List.map (fun n=>[AV.I n]) v ++ [[AV.I d]])]:=by rw [hP,hZ]; simp
     have hPl : P.length = n:=by have h:=congrArg List.length hPm; rw [List.length_map,hlenZ] at h; exact h
     have hd2 : ∀ (f : Int → List AV) (u : List AV),List.take (v.length + 1) (List.map f v ++ [u]) = List.map f v ++ [u]:=fun f u=>List.take_of_length_le (by simp)
     refine ⟨by omega,by omega,hkl,rfl,⟨x.key,x.acc,x.before,P,x.side⟩,b3,⟨⟨by simp only; omega,by simp only; omega,fun w hw=>?_,by simp only; omega⟩,by omega⟩,Le.go [(0,0),(16,16),(24,24)] [30,31,1212,32] rfl rfl (by simp) (by simp [fcd,take_map_len,hPm,hun,hconv,hlenZ,hd2])⟩
     rw [hP] at hw
     simp only [List.mem_append,List.mem_singleton] at hw
     rcases hw with (h | h) | h
     ·exact Nat.le_trans (hxw w (hQm w h)) (by omega)
     ·rw [h,List.length_append,List.length_singleton]; omega
     ·exact Nat.le_trans (hxw w (hTm w h)) (by omega)
    ·refine rx (s:=?s208) [0,2,4,6,41,42] [0,16,24,30,31,33,32] [] rfl ?o208 ?q208
     case o208=>simp [fcd,hconv]; rfl
     refine awp_cond _ rfl (fun h=>by cases h) fun _=>?_
     refine rx (s:=?s209) [0,2,4,6,41,49] [0,16,24,30,31,33,32] [] rfl ?o209 ?q209
     case o209=>simp [fcd,hconv]; rfl
     refine awp_cond _ rfl (fun h=>by cases h) fun _=>?_
     refine rx (s:=?s210) [0,2,4,6,41,55] [0,16,24,30,31,33,32] [] rfl ?o210 ?q210
     case o210=>simp [fcd,hconv]; rfl
     refine awp_cond _ rfl (fun h=>by cases h) fun _=>?_
     refine rx (s:=?s211) [0,2,4,6,41,65] [0,16,24,30,31,33,32] [] rfl ?o211 ?q211
     case o211=>simp [fcd,hconv]; rfl
     refine awp_cond _ rfl (fun h=>by cases h) fun _=>?_
     refine rx (s:=?s212) [0,2,4,6,41,75] [0,16,24,30,31,33,32] [] rfl ?o212 ?q212
     case o212=>simp [fcd,hconv]; rfl
     refine awp_cond _ rfl (fun h=>by cases h) fun _=>?_
     refine rx (s:=?s213) [0,2,4,6,41,85] [0,16,24,30,31,33,32] [] rfl ?o213 ?q213
     case o213=>simp [fcd,hconv]; rfl
     refine awp_cond _ rfl (fun h=>by cases h) fun _=>?_
     refine rx (s:=?s214) [0,2,4,6,41,110] [0,16,24,30,31,33,32] [] rfl ?o214 ?q214
     case o214=>simp [fcd,hconv]; rfl
     refine awp_cond _ rfl (fun _=>?_) fun h=>by cases h
     obtain rfl:=hk6 rfl
     refine awp_regc ⟨201,[(0,.pt 0 0 0),(2,.I size),(4,.pt 16 0 0),(6,.pt 24 0 0),(123,.B (decide (0 < v.length)))],[(0,some (dice L b1)),(16,some ⟨5,[[.I x.key,.B x.acc,.rs 30 0 x.before.length,.rs 32 0 n,.rs 31 0 x.side.length]],0⟩),(24,some ⟨5,[[.I 0,.B false,.nilS,.nilS,.nilS]],0⟩),(30,some ⟨1,rowsI x.before,0⟩),(31,some ⟨1,rowsI x.side,0⟩),(33,some ⟨1,rowsI v,0⟩),(32,some ⟨1,Z [.rs 33 0 v.length],0⟩)],1900⟩ rfl ?_ ?_
     ·simp [hget,hot]
      exact Le.go [(0,0),(16,16),(24,24),(30,30),(31,31),(33,33),(32,32)] [] rfl rfl (by simp) (by simp [fcd,hconv])
     refine awp_cond _ rfl (fun h6=>?_) fun h6=>?_
     ·simp at h6
      obtain ⟨j,b3,⟨hb3,hj⟩,hcj⟩:=Next_a L b1 v.length hl hb1 (by omega) (by omega)
      obtain ⟨d,b4,⟨hb4,hd⟩,hcd⟩:=Next_a L b3 size hl hb3 (by omega) (by omega)
      have hjv : j < v.length:=by omega
      refine awp_drw rfl ?_
      simp [hget,hot]
      refine callM1 (i:=0) rfl (e':=dice L b1) (by simp) hcj (by simp) (by simp) ?_
      simp [hget,hot]
      refine callM1 (i:=0) rfl (e':=dice L b3) (by simp) hcd (by simp) (by simp) ?_
      simp [hjv,splice]
      obtain ⟨P,hP⟩ : ∃ P : List (List Int),P = Q ++ [v.set j (d : Int)] ++ T:=⟨_,rfl⟩
      have hPm : (P.map fun w=>[ints w]) = Z [.vs 1 false ((List.map (fun n=>[AV.I n]) v).set j [AV.I d])]:=by rw [hP,hZ]; simp [List.map_set]
      have hPl : P.length = n:=by have h:=congrArg List.length hPm; rw [List.length_map,hlenZ] at h; exact h
      have hd6 : ∀ (f : Int → List AV) (u : List AV),List.take v.length ((List.map f v).set j u) = (List.map f v).set j u:=fun f u=>List.take_of_length_le (by simp)
      refine ⟨rfl,⟨x.key,x.acc,x.before,P,x.side⟩,b4,⟨⟨by simp only; omega,by simp only; omega,fun w hw=>?_,by simp only; omega⟩,by omega⟩,Le.go [(0,0),(16,16),(24,24)] [30,31,33,32] rfl rfl (by simp) (by simp [fcd,take_map_len,hPm,hun,hconv,hlenZ,hd6])⟩
      rw [hP] at hw
      simp only [List.mem_append,List.mem_singleton] at hw
      rcases hw with (h | h) | h
      ·exact Nat.le_trans (hxw w (hQm w h)) (by omega)
      ·rw [h,List.length_set]; omega
      ·exact Nat.le_trans (hxw w (hTm w h)) (by omega)
     refine awp_skip ?_
     obtain ⟨P,hP⟩ : ∃ P : List (List Int),P = Q ++ [v] ++ T:=⟨_,rfl⟩
     have hPm : (P.map fun w=>[ints w]) = Z [ints v]:=by rw [hP,hZ]; simp
     have hPl : P.length = n:=by have h:=congrArg List.length hPm; rw [List.length_map,hlenZ] at h; exact h
     refine ⟨(⟨x.key,x.acc,x.before,P,x.side⟩,b1),⟨⟨by simp only; omega,by simp only; omega,fun w hw=>?_,by simp only; omega⟩,by omega⟩,Le.go [(0,0),(16,16),(24,24)] [30,31,33,32] rfl rfl (by simp) (by simp [fcd,take_map_len,hPm,hun,hconv,hlenZ])⟩
     rw [hP] at hw
     simp only [List.mem_append,List.mem_singleton] at hw
     rcases hw with (h | h) | h
     ·exact Nat.le_trans (hxw w (hQm w h)) (by omega)
     ·rw [h]; omega
     ·exact Nat.le_trans (hxw w (hTm w h)) (by omega)
   obtain ⟨y,b⟩:=y
   refine rx (s:=?s91) [6] [0,24] [16] rfl ?o91 ?q91
   case o91=>simp [splice]; rfl
   refine awp_ret ?_
   exact PostX.mk (.inr rfl) (y,b) hy ⟨_,rfl,[],[24],by simp [List.range,List.range.loop],by simp,by simp,by simp [List.range,List.range.loop],by simp [List.range,List.range.loop]⟩
variable {g : Gr} {p : Pol}
theorem accR_app : ∀ (b a : List Int),∃ l,accR g p (a ++ b) = accR g p a ++ l ∧ ∀ x ∈ l,x ∈ b
 | [],a=>⟨[],by simp,by simp⟩
 | x :: b,a=>by
   obtain ⟨l,hl,hm⟩:=accR_app b (a ++ [x])
   have e : a ++ x :: b = a ++ [x] ++ b:=by simp
   rw [e,hl]
   rcases accR_step (g:=g) (p:=p) a x with h | h
   ·exact ⟨l,by rw [h],fun y hy=>List.mem_cons_of_mem _ (hm y hy)⟩
   ·refine ⟨[x] ++ l,by rw [h,List.append_assoc],fun y hy=>?_⟩
    rcases List.mem_append.1 hy with h | h
    ·rw [List.mem_singleton.1 h]; exact List.mem_cons_self
    ·exact List.mem_cons_of_mem _ (hm y h)
theorem accR_iff {o : List Int} (hn : o.Nodup) {i : Nat} (h : i < o.length) : o[i] ∈ accR g p o ↔ CanServe g p (joinL (accR g p (o.take i) ++ [o[i]])):=by
 have hs : o.take (i + 1) = o.take i ++ [o[i]]:=List.take_succ_eq_append_getElem h
 obtain ⟨l,hl,hm⟩:=accR_app (g:=g) (p:=p) (o.drop (i + 1)) (o.take (i + 1))
 rw [List.take_append_drop] at hl
 have hni : o[i] ∉ o.take i:=fun hx=>by
  obtain ⟨j,hj,e⟩:=List.mem_take_iff_getElem.1 hx
  have:=(List.getElem_inj hn).1 e
  omega
 have hnd : o[i] ∉ o.drop (i + 1):=fun hx=>by
  obtain ⟨j,hj,e⟩:=List.mem_drop_iff_getElem.1 hx
  have:=(List.getElem_inj hn).1 e
  omega
 constructor
 ·intro hx
  by_cases hc : CanServe g p (joinL (accR g p (o.take i) ++ [o[i]]))
  ·exact hc
  ·rw [hl,hs,accR_no hc] at hx
   rcases List.mem_append.1 hx with h1 | h1
   ·exact absurd (accR_mem h1) hni
   ·exact absurd (hm _ h1) hnd
 ·intro hc
  rw [hl,hs,accR_yes hc]
  exact List.mem_append_left _ (List.mem_append_right _ (List.mem_singleton.2 rfl))
theorem befL_acc {o : List Int} (hn : o.Nodup) : ∀ i,i ≤ o.length → befL o (accR g p o) i = accR g p (o.take i)
 | 0,_=>by simp [befL,accR_nil]
 | i + 1,h=>by
   have hi : i < o.length:=h
   rw [befL_succ hi,befL_acc hn i (by omega),List.take_succ_eq_append_getElem hi]
   by_cases hc : CanServe g p (joinL (accR g p (o.take i) ++ [o[i]]))
   ·rw [if_pos ((accR_iff hn hi).2 hc),accR_yes hc]
   ·rw [if_neg (fun h=>hc ((accR_iff hn hi).1 h)),accR_no hc,List.append_nil]
theorem pairwise_nodup {l : List Int} (h : l.Pairwise (· < ·)) : l.Nodup:=h.imp fun h=>by omega
theorem join_perm {a : List Int} (hn : a.Nodup) (hr : ∀ k ∈ a,0 ≤ k ∧ k < 64) : a.Perm (joinL a):=by
 rw [← srt_join hn hr]
 exact (srt_perm a).symm
structure AtO (g : Gr) (p : Pol) (key : Int) (before : List Int) : Prop where
 mem : key ∈ ordL (levelG g p.lv) p.seeds
 bef : BeforeP (ordL (levelG g p.lv) p.seeds) before key
 nodup : (before ++ [key]).Nodup
 range : ∀ k ∈ before ++ [key],0 ≤ k ∧ k < g.size
 serve : key ∈ accR g p (ordL (levelG g p.lv) p.seeds) ↔ CanServe g p (joinL (before ++ [key]))
theorem aheadO_take {o : List Int} (hn : o.Nodup) {i : Nat} (h : i < o.length) : aheadO o o[i] = o.take i:=by
 unfold aheadO
 rw [List.takeWhile_eq_take_findIdx_not]
 congr 1
 rw [List.findIdx_eq h]
 refine ⟨by simp,fun j hj=>?_⟩
 have : o[j] ≠ o[i]:=fun e=>by have:=(List.getElem_inj hn).1 e; omega
 simp [this]
theorem ForR.at_ {key : Int} {x : Expl} (h : ForR g p (ordL (levelG g p.lv) p.seeds) key x) (hg : GrOk g) : x.key = key ∧ AtO g p key x.before ∧ ∃ i,∃ hi : i < (ordL (levelG g p.lv) p.seeds).length,(ordL (levelG g p.lv) p.seeds)[i] = key ∧ x.before = accR g p ((ordL (levelG g p.lv) p.seeds).take i):=by
 have hn:=ordL_nodup (levelG g p.lv) p.seeds
 have hr : ∀ k ∈ ordL (levelG g p.lv) p.seeds,0 ≤ k ∧ k < g.size:=fun k hk=>by have h:=ordL_range hk; exact h
 obtain ⟨o,ho⟩ : ∃ o,o = ordL (levelG g p.lv) p.seeds:=⟨_,rfl⟩
 rw [← ho] at h hn hr ⊢
 obtain ⟨i,hi,hk,hb⟩:=h.bef
 rw [befL_acc hn i (by omega)] at hb
 refine ⟨h.key_,?_,i,hi,hk,hb⟩
 have hsub : x.before.Sublist (aheadO o key):=by
  rw [hb,← hk,aheadO_take hn hi]
  exact accR_sub _ _ rfl
 refine ⟨by rw [← ho,← hk]; exact List.getElem_mem hi,by rw [← ho]; exact hsub,BeforeP.nodup (order:=o) hsub hn,fun k hkm=>?_,?_⟩
 ·rcases List.mem_append.1 hkm with h1 | h1
  ·refine hr k ?_
   rw [hb] at h1
   exact List.mem_of_mem_take (accR_mem h1)
  ·rw [List.mem_singleton.1 h1,← hk]; exact hr _ (List.getElem_mem hi)
 ·rw [← ho,hb,← hk]
  exact accR_iff hn hi
theorem AtO.joined {key : Int} {before : List Int} (h : AtO g p key before) (hg : GrOk g) : (joinL (before ++ [key])).Nodup ∧ (before ++ [key]).Perm (joinL (before ++ [key])) ∧ (∀ x ∈ joinL (before ++ [key]),0 ≤ x ∧ x < g.size):=by
 have h64:=hg.1.2.1
 have hr : ∀ k ∈ before ++ [key],0 ≤ k ∧ k < 64:=fun k hk=>⟨(h.range k hk).1,by have:=(h.range k hk).2; omega⟩
 exact ⟨pairwise_nodup (joinL_lt _),join_perm h.nodup hr,fun x hx=>h.range x (mem_joinL.1 hx).1⟩
theorem paths_serve {key : Int} {before : List Int} {W : List (List Nat)} (hg : GrOk g) (hp : PolOk g.size p) (ha : AtO g p key before) (hc : CanServe g p (joinL (before ++ [key]))) (hW : PathsW g p (before ++ [key]) W) :
  ServesR g p.lv p.seeds (ordL (levelG g p.lv) p.seeds) (capsL g p) (W.map (keysA (netA g p (joinL (before ++ [key]))))) (before ++ [key]):=by
 obtain ⟨f,g',hgf,ht,hl,_⟩:=hW
 obtain ⟨j1,j2,j3⟩:=ha.joined hg
 refine ways_checked hg hp j1 (fun x hx=>(j3 x hx).1) j2 hgf.ok.fit ht.ways (fun i _=>?_) ?_
 ·have h1:=ht.used i
  have h2:=ht.bal.nonneg i
  omega
 ·have : maxF (netN g) (netA g p (joinL (before ++ [key]))) = (joinL (before ++ [key])).length:=hc
  omega
theorem ForR.yes_serves {key : Int} {x : Expl} (h : ForR g p (ordL (levelG g p.lv) p.seeds) key x) (hg : GrOk g) (hp : PolOk g.size p) (hk : key ∈ accR g p (ordL (levelG g p.lv) p.seeds)) :
  ServesR g p.lv p.seeds (ordL (levelG g p.lv) p.seeds) (capsL g p) x.paths (x.before ++ [key]):=by
 obtain ⟨_,ha,_⟩:=h.at_ hg
 obtain ⟨_,_,W,hW,hpa⟩:=h.yes hk
 rw [hpa]
 exact paths_serve hg hp ha (ha.serve.1 hk) hW
theorem ForR.no_proves {key : Int} {x : Expl} (h : ForR g p (ordL (levelG g p.lv) p.seeds) key x) (hg : GrOk g) (hp : PolOk g.size p) (hk : key ∉ accR g p (ordL (levelG g p.lv) p.seeds)) :
  ProvesP ⟨2 + 2 * g.size,netArcs g p (capsL g p) (joinL (x.before ++ [key]))⟩ x.side x.before.length:=by
 obtain ⟨_,ha,i,hi,hik,hib⟩:=h.at_ hg
 obtain ⟨_,_,R,hR,hs⟩:=h.no hk
 obtain ⟨i',hi',hik',hn⟩:=hR.right _ hs
 simp only at hik' hn
 have hii : i' = i:=(List.getElem_inj (ordL_nodup (levelG g p.lv) p.seeds)).1 (hik'.trans hik.symm)
 subst hii
 rw [← hib] at hn
 obtain ⟨j1,j2,j3⟩:=ha.joined hg
 have hfew:=maxF_few hg hp j3
 have hno : maxF (netN g) (netA g p (joinL (x.before ++ [key]))) ≠ (joinL (x.before ++ [key])).length:=hn.no
 have hlen:=j2.length_eq
 rw [List.length_append,List.length_singleton] at hlen
 have hcut:=hn.cut
 have hok:=hn.ok
 rw [netN_int hg] at hok
 exact ⟨hok,by rw [hcut]; omega⟩
theorem ForR.checked {key : Int} {x : Expl} (h : ForR g p (ordL (levelG g p.lv) p.seeds) key x) (hg : GrOk g) (hp : PolOk g.size p) : checkC g p x = 0:=by
 rw [check_same hg.1.2.1]
 obtain ⟨hk,ha,_⟩:=h.at_ hg
 unfold checkR
 simp only
 rw [hk,if_neg (by simpa using ha.mem)]
 by_cases hacc : key ∈ accR g p (ordL (levelG g p.lv) p.seeds)
 ·obtain ⟨h1,h2,_⟩:=h.yes hacc
  rw [if_neg (by rw [h1,h2]; simpa using ha.bef),if_pos h1,if_pos (h.yes_serves hg hp hacc)]
 ·obtain ⟨h1,h2,_⟩:=h.no hacc
  rw [if_neg (by rw [h1,h2]; simpa using ha.bef),if_neg (by rw [h1]; simp),if_pos (h.no_proves hg hp hacc)]
theorem ForR.bounds {key : Int} {x : Expl} (h : ForR g p (ordL (levelG g p.lv) p.seeds) key x) (hg : GrOk g) (hp : PolOk g.size p) : ExplB x 200:=by
 have hol : (ordL (levelG g p.lv) p.seeds).length ≤ 64:=by
  have h1:=ordL_len (g:=levelG g p.lv) (S:=p.seeds) hg.1.1
  have h2 : (levelG g p.lv).size = g.size:=rfl
  have h3:=hg.1.2.1
  omega
 obtain ⟨_,ha,i,hi,hik,hib⟩:=h.at_ hg
 obtain ⟨j1,j2,j3⟩:=ha.joined hg
 have hbl : x.before.length ≤ 64:=by
  rw [hib]
  refine Nat.le_trans (accR_len _) ?_
  rw [List.length_take]; omega
 by_cases hacc : key ∈ accR g p (ordL (levelG g p.lv) p.seeds)
 ·obtain ⟨_,h2,W,⟨f,g',_,_,hl,hw⟩,hpa⟩:=h.yes hacc
  have hfew:=maxF_few hg hp j3
  have hjl:=joinL_len (x.before ++ [key])
  refine ⟨by omega,by rw [hpa,List.length_map]; omega,fun w hw'=>?_,by rw [h2]; simp⟩
  rw [hpa] at hw'
  obtain ⟨v,hv,rfl⟩:=List.mem_map.1 hw'
  have:=keysA_len (netA g p (joinL (x.before ++ [key]))) v
  have:=hw v hv
  omega
 ·obtain ⟨_,h2,R,hR,hs⟩:=h.no hacc
  obtain ⟨i',hi',hik',hn⟩:=hR.right _ hs
  have:=hn.len
  simp only at this
  refine ⟨by omega,by rw [h2]; simp,fun w hw=>?_,by omega⟩
  rw [h2] at hw
  cases hw
def gW : Gr:=⟨3,[⟨0,1,1⟩,⟨0,2,1⟩],[]⟩
def pW : Pol:=⟨[0],[2],1⟩
theorem gW_ok : GrOk gW:=by
 refine ⟨⟨by decide +revert,by decide +revert,by decide +revert,fun i h=>by simp [gW] at h⟩,fun i h=>?_⟩
 have : i = 0 ∨ i = 1:=by simp [gW] at h; omega
 rcases this with rfl | rfl
 ·exact ⟨by unfold Fits; simp [gW],by decide +revert,by decide +revert,fun h=>by cases h⟩
 ·exact ⟨by unfold Fits; simp [gW],by decide +revert,by decide +revert,fun h=>by decide +revert⟩
theorem pW_ok : PolOk gW.size pW:=by
 refine ⟨by decide +revert,fun i h=>?_,by decide +revert,by decide +revert,by decide +revert,by decide +revert,fun i h=>?_⟩
 ·obtain rfl : i = 0:=by simp [pW] at h; omega
  exact ⟨by decide +revert,by decide +revert,fun h=>by cases h⟩
 ·obtain rfl : i = 0:=by simp [pW] at h; omega
  exact ⟨by decide +revert,by decide +revert,fun h=>by cases h⟩
theorem gW_order : ordL (levelG gW 1) [0] = [0,1,2]:=by decide
theorem gW_caps : capsL gW pW = [2,1,1]:=by decide
theorem paths_yes : PathsC gW pW [[0],[0,1]] [0,1]:=by
 refine ⟨⟨gW_ok,pW_ok⟩,⟨by decide +revert,by decide +revert⟩,?_⟩
 unfold PathsE
 show ServesE (levelG gW 1) [0] (ordL (levelG gW 1) [0]) _ _ _
 rw [gW_caps,gW_order,servesE_iff]
 refine ⟨fun w hw=>?_,fun k h=>?_,rfl⟩
 ·simp at hw
  rcases hw with rfl | rfl
  ·exact ⟨⟨0,rfl,by decide +revert⟩,by decide +revert,by decide +revert,fun i h=>by simp at h⟩
  ·refine ⟨⟨0,rfl,by decide +revert⟩,by decide +revert,by decide +revert,fun i h=>?_⟩
   obtain rfl : i = 0:=by simp at h; omega
   exact ⟨⟨0,1,1⟩,by decide +revert,by decide +revert⟩
 ·have : k = 0 ∨ k = 1 ∨ k = 2:=by simp at h; omega
  rcases this with rfl | rfl | rfl <;> decide +revert
theorem paths_no : ¬ PathsC gW pW [[0],[0,1],[0,2]] [0,1,2]:=by
 intro h
 have h1:=h.2.2
 unfold PathsE at h1
 rw [gW_caps] at h1
 have h2:=(h1.2.1 0 (by decide +revert)).1
 revert h2
 decide
section
variable {P : Program} {np id : Nat} {h : Nat → Option Ent} {K : AV → List Nat → List (Nat × Option Ent) → Prop} {f : FuncId} {first capt args args' : List AV} {res : AV}
theorem call0w (sn : List Nat) (hc : ACalls P f args' [] res []) (hw : WkL ((first ++ args ++ capt).map (conv [] sn h 4)) args') (hp : Plain res)
  (hk : K (conv (((List.range 8).map (id + ·)).zipIdx.map fun (a,b)=>(b,a)) [] (fun _=>none) 4 res) sn []) : aK P np id .call (.fn (.func f) first capt :: args) h K :=
 ⟨[],sn,false,args',[],res,[],by simp,by simp,by simp,by rw [List.zipIdx_nil]; exact hw,rfl,hc,by simp,.inr ⟨hp,by simp⟩,hk⟩
end
theorem wkG3 {a b c a' b' c' : AV} (h1 : Wk a a') (h2 : Wk b b') (h3 : Wk c c') : Wk (.agg [a,b,c]) (.agg [a',b',c']) :=
 .agg _ _ rfl fun i=>match i with | 0=>h1 | 1=>h2 | 2=>h3 | _ + 3=>.refl _
set_option maxRecDepth 100000 in
open Classical in
theorem awake44_ok : ACalls Tryz.prog nlaw44_awake [] [] (.B true) []:=by
 refine slaw44_awake.acalls (Nat.le_of_ble_eq_true rfl) (Nat.le_of_ble_eq_true rfl) (Nat.le_refl _) ?_
 show awp _ 0 _ _ ⟨28,[],[],16⟩
 have h1:=checker_Paths_ok gW pW [[0],[0,1]] [0,1] (by decide) (by decide) (by decide) (by decide) (by decide) (by decide) (by decide) (by decide)
 have h2:=checker_Paths_ok gW pW [[0],[0,1],[0,2]] [0,1,2] (by decide) (by decide) (by decide) (by decide) (by decide) (by decide) (by decide) (by decide)
 rw [decide_eq_true paths_yes] at h1
 rw [decide_eq_false paths_no] at h2
 refine rx (s:=?s1) [] [] [] rfl ?o1 ?q1
 case o1=>simp; rfl
 refine rk (s:=?s2) [1] [40,56] rfl ?o2 ?q2
 case o2=>simp; rfl
 refine rk (s:=?s3) [1,2] [40,56,72,80,96] rfl ?o3 ?q3
 case o3=>simp; rfl
 refine rx (s:=?s4) [0] [] [] rfl ?o4 ?q4
 case o4 =>
  simp
  refine call0w [40,72,80,128,136,144,152] h1 (by simp [gW,pW,Wk.refl]; exact ⟨wkG3 (.refl _) (.refl _) (.nil _ _),wkG3 (.refl _) (.refl _) (.refl _),.refl _,.refl _⟩) (.sc _) ?_
  simp
  refine call0w [40,72,80,192,200,208,216,224] h2 (by simp [gW,pW,Wk.refl]; exact ⟨wkG3 (.refl _) (.refl _) (.nil _ _),wkG3 (.refl _) (.refl _) (.refl _),.refl _,.refl _⟩) (.sc _) ?_
  simp
  rfl
 refine awp_ret ?_
 exact ⟨.inr rfl,RetOk.one (by simp)⟩
theorem pathsCR {g : Gr} (p : Pol) (P : List (List Int)) (ends : List Int) : PathsC g p P ends ↔ PathsR g p P ends:=by
 unfold PathsC PathsR PathsE Diff
 rw [servesE_iff]
 refine and_congr_right fun h=>?_
 rw [← paths_iff (size:=g.size) fun k hk=>by have h:=ordL_range hk; exact h]
variable {g : Gr} {p : Pol}
open Classical in
theorem ref11_With_own (g : Gr) (e : Ed) (h0 : (withR g e).2 = 0) (hl : g.edges.length * 24 ≤ 140737488355328) (hl2 : g.gone.length * 8 ≤ 140737488355328) : ACalls Tryz.prog nref11_With [eG g,eE e] [] (.tup [.agg [.I g.size,.rs 0 0 (plusE g e).edges.length,ints g.gone],.I 0]) [some ⟨3,(plusE g e).edges.map eC,0⟩]:=by
 refine sref11_With.acalls (Nat.le_of_ble_eq_true rfl) (Nat.le_of_ble_eq_true rfl) (Nat.zero_le _) ?_
 show awp _ 0 _ _ ⟨103,[(0,eG g),(1,eE e)],[],16⟩
 refine awp_regc ⟨103,[(2,.pv (gC g)),(3,.pv (eC e)),(4,.pt 32 0 0)],[(32,some ⟨3,[[.I 0,.nilS,.nilS]],0⟩)],40⟩ rfl ?_ ?_
 ·simp
  exact Le.var1 32 [16,24] rfl rfl (Nat.le_of_ble_eq_true rfl) (by decide) rfl (by simp) (by simp) (by simp)
 refine awp_seq ?_
 refine awp_seq ?_
 refine awp_run (s:=?s1) rfl ?o1 ?q1
 case o1=>simp; refine call0e (ref11_Check_ok g (by omega) (by omega)) rfl ?_; simp; rfl
 refine awp_cond _ rfl (fun h2=>?_) fun h2=>?_
 ·have hg : ¬ GrOk g:=by
   intro hg
   simp [hg] at h2
  exfalso
  have hr : withR g e = (emptyG,14):=by grind [withR]
  rw [hr] at h0
  cases h0
 have hg : GrOk g:=by
  rcases Classical.em (GrOk g) with h | h
  ·exact h
  ·simp [h] at h2
 refine awp_skip ?_
 refine awp_seq ?_
 refine awp_run (s:=?s4) rfl ?o4 ?q4
 case o4=>simp; refine call0e (ref11_index_ok g _ _ (by omega)) rfl ?_; simp; rfl
 refine awp_seq ?_
 refine awp_block ?_
 refine awp_regc ⟨103,[(2,.pv (gC g)),(3,.pv (eC e)),(4,.pt 32 0 0),(6,.I (idxE g.edges ⟨e.f,e.t,0⟩)),(7,.B (decide (AtE g.edges (idxE g.edges ⟨e.f,e.t,0⟩) e.f e.t))),(22,.B (decide (¬ Fits g e)))],[(32,some ⟨3,[[.I 0,.nilS,.nilS]],0⟩)],40⟩ rfl ?_ ?_
 ·simp
  repeat' first
   | (refine callf nref11_Has rfl ?_; refine call0e (has_ok _ _ (by omega)) rfl ?_; simp)
   | (refine gcase (fun hb=>?_) (fun hb=>?_) <;> (try rw [hb]) <;> (try simp at hb) <;> simp [*])
  all_goals exact Le.var1 32 [] rfl rfl (Nat.le_of_ble_eq_true rfl) (by decide) rfl (by simp) (by simp) (by simp <;> exact wkB (by (try simp at *); grind [Fits]))
 refine awp_cond _ rfl (fun h5=>?_) fun h5=>?_
 ·try simp at h5
  exfalso
  have hr : withR g e = (emptyG,4):=by grind [withR]
  rw [hr] at h0
  cases h0
 try simp at h5
 refine awp_regc ⟨103,[(2,.pv (gC g)),(3,.pv (eC e)),(4,.pt 32 0 0),(6,.I (idxE g.edges ⟨e.f,e.t,0⟩)),(7,.B (decide (AtE g.edges (idxE g.edges ⟨e.f,e.t,0⟩) e.f e.t))),(67,.B (decide (¬ (1 ≤ e.v ∧ e.v ≤ 3))))],[(32,some ⟨3,[[.I 0,.nilS,.nilS]],0⟩)],40⟩ rfl ?_ ?_
 ·simp
  repeat' first
   | (refine gcase (fun hb=>?_) (fun hb=>?_) <;> (try rw [hb]) <;> (try simp at hb) <;> simp [*])
  all_goals exact Le.var1 32 [] rfl rfl (Nat.le_of_ble_eq_true rfl) (by decide) rfl (by simp) (by simp) (by simp <;> exact wkB (by (try simp at *); grind [Fits]))
 refine awp_cond _ rfl (fun h7=>?_) fun h7=>?_
 ·try simp at h7
  exfalso
  have hr : withR g e = (emptyG,2):=by grind [withR]
  rw [hr] at h0
  cases h0
 try simp at h7
 refine awp_seq ?_
 refine awp_run (s:=?s9) rfl ?o9 ?q9
 case o9=>simp; rfl
 refine awp_cond _ rfl (fun h10=>?_) fun h10=>?_
 ·try simp at h10
  exfalso
  have hr : withR g e = (emptyG,19):=by grind [withR]
  rw [hr] at h0
  cases h0
 try simp at h10
 refine awp_seq ?_
 refine awp_run (s:=?s12) rfl ?o12 ?q12
 case o12=>simp; rfl
 refine awp_cond _ rfl (fun h13=>?_) fun h13=>?_
 ·try simp at h13
  exfalso
  have hr : withR g e = (emptyG,3):=by grind [withR]
  rw [hr] at h0
  cases h0
 try simp at h13
 refine awp_skip ?_
 have hle:=idxE_le g.edges ⟨e.f,e.t,0⟩
 refine awp_seq ?_
 refine awp_run (s:=?s20) rfl ?o20 ?q20
 case o20=>simp; refine callN2 (ref11_Copy_ok g hl hl2) rfl ?_; simp [fcd]; rfl
 have h500 : g.edges.length ≤ 500:=hg.1.2.2.1
 have hmin : min (idxE g.edges ⟨e.f,e.t,0⟩) g.edges.length = idxE g.edges ⟨e.f,e.t,0⟩:=Nat.min_eq_left hle
 clear h0
 unfold plusE
 generalize idxE g.edges ⟨e.f,e.t,0⟩ = k at *
 have htk : List.take (k + 1) (List.take k (List.map (fun e : Ed=>[AV.I e.f,AV.I e.t,AV.I e.v]) g.edges) ++ [[AV.I e.f,AV.I e.t,AV.I e.v]]) = List.take k (List.map (fun e : Ed=>[AV.I e.f,AV.I e.t,AV.I e.v]) g.edges) ++ [[AV.I e.f,AV.I e.t,AV.I e.v]]:=List.take_of_length_le (by simp; exact Nat.min_le_left _ _)
 obtain ⟨E,hE⟩ : ∃ E,E = g.edges.take k ++ e :: g.edges.drop k:=⟨_,rfl⟩
 have hEl : k + 1 + (g.edges.length - k) = E.length:=by subst hE; simp; omega
 have hrows : List.take k (List.map (fun e : Ed=>[AV.I e.f,AV.I e.t,AV.I e.v]) g.edges) ++ [AV.I e.f,AV.I e.t,AV.I e.v] :: List.drop k (List.map (fun e : Ed=>[AV.I e.f,AV.I e.t,AV.I e.v]) g.edges) = E.map fun e : Ed=>[AV.I e.f,AV.I e.t,AV.I e.v]:=by subst hE; simp [List.map_take,List.map_drop]
 rw [← hE]
 refine awp_seq ?_
 refine awp_drun (s:=?s15) (tr:=?t15) rfl ?o15 ?r15 ?q15
 case o15 =>
  simp [hmin,hle,htk,hEl,hrows]
  repeat' apply And.intro
  all_goals first | omega | rfl
 case r15=>rfl
 refine awp_seq ?_
 refine awp_run (s:=?s16) rfl ?o16 ?q16
 case o16=>simp; rfl
 refine awp_ret ?_
 refine ⟨.inr rfl,?_⟩
 show RetOk [(4,some (true,3)),(5,none)] 0 _ _ _
 refine RetOk.out (vs:=[.agg [.I g.size,.rs 224 0 E.length,.rs 105 0 g.gone.length],.I 0]) [224] [105] (by simp) (by simp) (by simp) ?_ (by simp [fcd,← hrows])
 simp [fcd,take_map_len]
abbrev gO (g : Gr) (i : Nat) : List AV:=[.I g.size,.rs i 0 g.edges.length,ints g.gone]
abbrev eO (g : Gr) : Ent:=⟨3,g.edges.map eC,g.edges.length⟩
structure GSt where
 k : Nat
 g : Gr
 b : Nat
set_option maxRecDepth 100000 in
set_option maxHeartbeats 4000000 in
theorem Graph_own (L : List Int) (a : Nat) (hl : L.length ≤ 400) (ha : a ≤ L.length) :
  ∃ x : Gr × Nat,(GrOk x.1 ∧ 2 ≤ x.1.size ∧ x.1.size ≤ 9 ∧ x.2 ≤ L.length) ∧ ACalls Tryz.prog nmade_Dice_Graph [.pt 0 0 0] [dice L a] (.agg (gO x.1 1)) [some (dice L x.2),some (eO x.1)]:=by
 refine smade_Dice_Graph.acallsX (args:=[.pt 0 0 0]) (hs:=[dice L a]) (fun x=>.agg (gO x.1 1)) (fun x=>[some (dice L x.2),some (eO x.1)]) (fun x : Gr × Nat=>GrOk x.1 ∧ 2 ≤ x.1.size ∧ x.1.size ≤ 9 ∧ x.2 ≤ L.length) (Nat.le_of_ble_eq_true rfl) (Nat.le_of_ble_eq_true rfl) (fun _=>Nat.le_of_ble_eq_true rfl) ?_
 show awp _ 1 _ _ ⟨53,[(0,.pt 0 0 0)],[(0,some (dice L a))],16⟩
 obtain ⟨s0,b1,⟨hb1,hs0⟩,hc1⟩:=Next_a L a 8 hl ha (by omega) (by omega)
 have hw1 : IntKind.i64.wrap (2 + (s0 : Int)) = 2 + (s0 : Int):=w64 (by omega) (by omega)
 refine awp_regc ⟨53,[(0,.pt 0 0 0),(2,.pt 16 0 0)],[(0,some (dice L a)),(16,some zG)],24⟩ rfl ?_ ?_
 ·simp
  exact Le.keep rfl (Nat.le_refl _) (by simp) (by simp)
 refine awp_regc ⟨53,[(0,.pt 0 0 0),(2,.pt 16 0 0),(3,.pt 56 0 0)],[(0,some (dice L b1)),(16,some zG),(56,some ⟨3,[[.I (2 + s0),.nilS,.nilS]],0⟩)],72⟩ rfl ?_ ?_
 ·simp
  refine callM1 (i:=0) rfl (e':=dice L a) (by simp [fcd]) hc1 (by simp) (by simp) ?_
  simp [hw1,fcd]
  exact Le.keep rfl (Nat.le_refl _) (by simp) (by simp)
 refine awp_cut (ι:=Int) (fun s=>⟨53,[(0,.pt 0 0 0),(2,.pt 16 0 0),(3,.pt 56 0 0)],[(0,some (dice L b1)),(16,some zG),(56,some ⟨3,[[.I s,.nilS,.nilS]],0⟩)],136⟩) (fun s=>2 ≤ s ∧ s ≤ 9) ?_ ?_
 ·refine awp_regc ⟨53,[(0,.pt 0 0 0),(2,.pt 16 0 0),(3,.pt 56 0 0),(16,.B (decide (L.length = 0)))],[(0,some (dice L b1)),(16,some zG),(56,some ⟨3,[[.I (2 + s0),.nilS,.nilS]],0⟩)],120⟩ rfl ?_ ?_
  ·simp
   exact Le.keep rfl (Nat.le_refl _) (by simp <;> rw [Bool.eq_iff_iff] <;> simp) (by simp)
  refine awp_cond _ rfl (fun h=>?_) fun h=>awp_skip ?_
  ·refine awp_reg rfl ?_
   simp
   exact ⟨4,by omega,Le.keep rfl (Nat.le_refl _) (by simp) (by simp)⟩
  ·exact ⟨2 + s0,by omega,Le.keep rfl (Nat.le_of_ble_eq_true rfl) (by simp) (by simp)⟩
 rintro s ⟨hs2,hs9⟩
 refine awp_cut (ι:=List Int × Nat) (fun q=>⟨53,[(0,.pt 0 0 0),(2,.pt 16 0 0),(3,.pt 56 0 0)],[(0,some (dice L q.2)),(16,some zG),(56,some ⟨3,[[.I s,.nilS,ints q.1]],0⟩)],208⟩) (fun q=>Rise q.1 0 (s - 1) ∧ q.2 ≤ L.length) ?_ ?_
 ·obtain ⟨o,b2,hb2,hc2⟩:=One_a L b1 8 hl hb1 (by omega) (by omega)
  refine awp_regc ⟨53,[(0,.pt 0 0 0),(2,.pt 16 0 0),(3,.pt 56 0 0),(19,.B o)],[(0,some (dice L b2)),(16,some zG),(56,some ⟨3,[[.I s,.nilS,.nilS]],0⟩)],152⟩ rfl ?_ ?_
  ·simp
   refine callM1 (i:=0) rfl (e':=dice L b1) (by simp [fcd]) hc2 (by simp) (by simp) ?_
   simp [fcd]
   exact Le.keep rfl (Nat.le_refl _) (by simp) (by simp)
  refine awp_cond _ rfl (fun h=>?_) fun h=>awp_skip ?_
  ·obtain ⟨v,b3,⟨hb3,hv⟩,hc3⟩:=Next_a L b2 s hl hb2 (by omega) (by omega)
   refine awp_reg rfl ?_
   simp
   refine callM1 (i:=0) rfl (e':=dice L b2) (by simp [fcd]) hc3 (by simp) (by simp) ?_
   simp [fcd,splice]
   refine ⟨[(v : Int)],b3,⟨rise_of_pair (by simp) (by simp; omega),hb3⟩,Le.go [(0,0),(16,16),(56,56)] [184] rfl rfl (by simp) (by simp [fcd])⟩
  ·refine ⟨([],b2),⟨rise_of_pair (by simp) (by simp),hb2⟩,Le.ents [(0,0),(16,16),(56,56)] [] rfl (by simp) (by simp) (by simp) (by simp) (by simp) (by simp) fun p hp=>?_⟩
   simp at hp
   rcases hp with rfl | rfl | rfl
   ·exact ⟨0,_,_,rfl,by simp,rfl,EntUp.eq (by simp) (by simp)⟩
   ·exact ⟨16,_,_,rfl,by simp,rfl,EntUp.eq (by simp) (by simp)⟩
   ·exact ⟨56,_,_,rfl,by simp,rfl,EntUp.row (by simp; rfl) (by simp) (upL_of (by simp; exact .nil _ _))⟩
 rintro ⟨gone,b2⟩ ⟨hgone,hb2⟩
 simp only at hgone hb2
 obtain ⟨n0,b3,⟨hb3,hn0⟩,hc3⟩:=Next_a L b2 23 hl hb2 (by omega) (by omega)
 refine awp_seq ?_
 refine awp_regc ⟨53,[(0,.pt 0 0 0),(2,.pt 16 0 0),(3,.pt 56 0 0),(4,.I n0)],[(0,some (dice L b3)),(16,some zG),(56,some ⟨3,[[.I s,.nilS,ints gone]],0⟩)],232⟩ rfl ?_ ?_
 ·simp
  refine callM1 (i:=0) rfl (e':=dice L b2) (by simp [fcd]) hc3 (by simp) (by simp) ?_
  simp [fcd]
  exact Le.keep rfl (Nat.le_refl _) (by simp) (by simp)
 refine awp_block ?_
 refine awp_loop (ι:=GSt) (fun q=>⟨53,[(0,.pt 0 0 0),(2,.pt 16 0 0),(3,.pt 56 0 0),(4,.I q.k)],[(0,some (dice L q.b)),(16,some zG),(56,some ⟨3,[gO q.g 60],0⟩),(60,some (eO q.g))],300⟩)
  (fun q=>q.k ≤ 23 ∧ GrOk q.g ∧ q.g.size = s ∧ q.b ≤ L.length) (fun q=>q.k) ⟨n0,⟨s,[],gone⟩,b3⟩ ⟨by simp only; omega,⟨⟨by simp only; omega,by simp only; omega,by simp,hgone⟩,fun i h=>by simp at h⟩,rfl,hb3⟩
  (Le.lst [(0,0),(16,16),(56,56)] [] [(60,3)] rfl (by simp) (by simp) (by simp) (by simp) (by simp) (by simp) (by simp) (by simp [Up]) (by simp [fcd]; exact ⟨EntUp.rfl' (by simp),EntUp.rfl' (by simp),EntUp.row rfl (by omega) (by simp [UpL,Up,Wk.refl])⟩)) ?_
 rintro ⟨k,g,b⟩ ⟨hk,hg,hgs,hb⟩
 simp only at hk hg hgs hb
 have hel:=hg.edges_le
 have hgl:=hg.gone_le
 refine awp_seq ?_
 refine awp_regc ⟨53,[(0,.pt 0 0 0),(2,.pt 16 0 0),(3,.pt 56 0 0),(4,.I k),(29,.B (decide (0 < k)))],[(0,some (dice L b)),(16,some zG),(56,some ⟨3,[gO g 60],0⟩),(60,some (eO g))],400⟩ rfl ?_ ?_
 ·simp
  exact Le.keep rfl (Nat.le_of_ble_eq_true rfl) (by simp) (by simp)
 refine awp_cond _ rfl (fun h=>awp_skip ?_) fun h=>awp_exit (Go.Proofs.YtlhjelookgjmpaaGreat.hit ?_)
 ·simp only [decide_eq_true_eq] at h
  have hwk : IntKind.i64.wrap ((k : Int) - 1) = ((k - 1 : Nat) : Int):=by rw [w64 (by omega) (by omega)]; omega
  refine awp_cut (ι:=Gr × Nat) (fun q=>⟨53,[(0,.pt 0 0 0),(2,.pt 16 0 0),(3,.pt 56 0 0),(4,.I k)],[(0,some (dice L q.2)),(16,some zG),(56,some ⟨3,[gO q.1 60],0⟩),(60,some (eO q.1))],2000⟩) (fun q=>GrOk q.1 ∧ q.1.size = s ∧ q.2 ≤ L.length) ?_ ?_
  ·refine awp_block ?_
   obtain ⟨f,b4,⟨hb4,hf⟩,hc4⟩:=Next_a L b g.size hl hb (by omega) (by omega)
   obtain ⟨t,b5,⟨hb5,ht⟩,hc5⟩:=Next_a L b4 g.size hl hb4 (by omega) (by omega)
   obtain ⟨v,b6,⟨hb6,hv⟩,hc6⟩:=Next_a L b5 3 hl hb5 (by omega) (by omega)
   have hwv : IntKind.i64.wrap (1 + (v : Int)) = 1 + (v : Int):=w64 (by omega) (by omega)
   obtain ⟨e,he⟩ : ∃ e : Ed,e = ⟨f,t,1 + (v : Int)⟩:=⟨_,rfl⟩
   by_cases h0 : (withR g e).2 = 0
   ·obtain ⟨_,_,_,_,_,hpe,hok⟩:=withR_ok h0
    have hwith:=ref11_With_own g e h0 (by omega) (by omega)
    obtain ⟨w,hw⟩ : ∃ w,w = plusE g e:=⟨_,rfl⟩
    rw [← hw] at hwith hok
    have hws : w.size = g.size:=by rw [hw]; rfl
    have hwg : w.gone = g.gone:=by rw [hw]; rfl
    refine awp_dregc ⟨53,[(0,.pt 0 0 0),(2,.pt 16 0 0),(3,.pt 56 0 0),(4,.I k),(5,.pt 70 0 0),(6,.I 0)],[(0,some (dice L b6)),(16,some zG),(56,some ⟨3,[gO g 60],0⟩),(60,some (eO g)),(70,some ⟨3,[gO w 61],0⟩),(61,some ⟨3,w.edges.map eC,0⟩)],1000⟩ rfl ?_ ?_
    ·simp
     refine callM1 (i:=0) rfl (e':=dice L b) (by simp [fcd]) hc4 (by simp) (by simp) ?_
     simp [fcd]
     refine callM1 (i:=0) rfl (e':=dice L b4) (by simp [fcd]) hc5 (by simp) (by simp) ?_
     simp [fcd]
     refine callM1 (i:=0) rfl (e':=dice L b5) (by simp [fcd]) hc6 (by simp) (by simp) ?_
     simp [fcd,hwv]
     refine callN1sZ (j:=60) (by decide) rfl hwith (by simp [he,fcd,take_map_len]) ?_
     simp [fcd]
     exact ⟨rfl,Le.go [(0,0),(16,16),(56,56),(60,60),(536,70),(504,61)] [] rfl rfl (by simp) (by simp [fcd,hws,hwg])⟩
    refine awp_regc ⟨53,[(0,.pt 0 0 0),(2,.pt 16 0 0),(3,.pt 56 0 0),(4,.I k),(5,.pt 70 0 0),(50,.B true)],[(0,some (dice L b6)),(16,some zG),(56,some ⟨3,[gO g 60],0⟩),(60,some (eO g)),(70,some ⟨3,[gO w 61],0⟩),(61,some ⟨3,w.edges.map eC,0⟩)],1200⟩ rfl ?_ ?_
    ·simp
     exact Le.keep rfl (Nat.le_of_ble_eq_true rfl) (by simp) (by simp)
    refine awp_cond _ rfl (fun _=>?_) fun h=>by cases h
    refine awp_reg rfl ?_
    simp [splice]
    refine ⟨w,b6,⟨hok,by rw [hws]; exact hgs,hb6⟩,Le.ents [(0,0),(16,16),(56,56),(61,60)] [] rfl (by simp) (by simp) (by simp) (by simp) (by simp) (by simp) fun p hp=>?_⟩
    simp at hp
    rcases hp with rfl | rfl | rfl | rfl
    ·exact ⟨0,_,_,rfl,by simp,rfl,EntUp.eq (by simp [fcd]) (by simp)⟩
    ·exact ⟨16,_,_,rfl,by simp,rfl,EntUp.eq (by simp) (by simp)⟩
    ·exact ⟨56,_,_,rfl,by simp,rfl,EntUp.eq (by simp) (by simp)⟩
    ·exact ⟨61,_,_,rfl,by simp,rfl,by simp [fcd]; exact ⟨rfl,Nat.zero_le _,by simp,.inl rfl⟩⟩
   ·have hwith:=ref11_With_ok g e (by omega) (by omega)
    obtain ⟨r,hr⟩ : ∃ r,r = withR g e:=⟨_,rfl⟩
    rw [← hr] at hwith h0
    refine awp_dregc ⟨53,[(0,.pt 0 0 0),(2,.pt 16 0 0),(3,.pt 56 0 0),(4,.I k),(6,.I r.2)],[(0,some (dice L b6)),(16,some zG),(56,some ⟨3,[gO g 60],0⟩),(60,some (eO g))],1000⟩ rfl ?_ ?_
    ·simp
     refine callM1 (i:=0) rfl (e':=dice L b) (by simp [fcd]) hc4 (by simp) (by simp) ?_
     simp [fcd]
     refine callM1 (i:=0) rfl (e':=dice L b4) (by simp [fcd]) hc5 (by simp) (by simp) ?_
     simp [fcd]
     refine callM1 (i:=0) rfl (e':=dice L b5) (by simp [fcd]) hc6 (by simp) (by simp) ?_
     simp [fcd,hwv]
     refine call0k [60] (by decide) hwith (by simp [he,fcd,take_map_len]) ?_
     simp
     exact ⟨rfl,Le.go [(0,0),(16,16),(56,56),(60,60)] [] rfl rfl (by simp) (by simp [fcd])⟩
    refine awp_regc ⟨53,[(0,.pt 0 0 0),(2,.pt 16 0 0),(3,.pt 56 0 0),(4,.I k),(50,.B false)],[(0,some (dice L b6)),(16,some zG),(56,some ⟨3,[gO g 60],0⟩),(60,some (eO g))],1200⟩ rfl ?_ ?_
    ·simp
     exact Le.keep rfl (Nat.le_of_ble_eq_true rfl) (by simp [h0]) (by simp)
    refine awp_cond _ rfl (fun h=>by cases h) fun _=>?_
    refine awp_skip ?_
    exact ⟨(g,b6),⟨hg,hgs,hb6⟩,Le.keep rfl (Nat.le_of_ble_eq_true rfl) (by simp) (by simp)⟩
  rintro ⟨g,b⟩ ⟨hg,hgs,hb⟩
  simp only at hg hgs hb
  refine awp_reg rfl ?_
  simp [hwk]
  exact ⟨⟨k - 1,g,b⟩,⟨by simp only; omega,hg,hgs,hb⟩,by simp only; omega,Le.go [(0,0),(16,16),(56,56),(60,60)] [] rfl rfl (by simp) (by simp [fcd])⟩
 refine awp_regc ⟨53,[(2,.pt 16 0 0)],[(0,some (dice L b)),(16,some ⟨3,[gO g 60],0⟩),(60,some (eO g))],500⟩ rfl ?_ ?_
 ·simp [splice]
  exact Le.keep rfl (Nat.le_of_ble_eq_true rfl) (by simp) (by simp)
 refine awp_ret ?_
 refine PostX.mk (.inr rfl) (g,b) ⟨hg,by show 2 ≤ g.size; omega,by show g.size ≤ 9; omega,hb⟩ ⟨_,rfl,[60],[],by simp [List.range,List.range.loop],by simp,by simp,?_,?_⟩
 ·simp [List.range,List.range.loop,fcd]
 ·simp [List.range,List.range.loop,fcd]
abbrev zX : Expl:=⟨0,false,[],[],[]⟩
theorem wkRows_of {s : Nat} {f : Bool} {xs ys : List (List AV)} (hl : xs.length = ys.length) (h : ∀ i,WkL (xs.getD i []) (ys.getD i [])) : Wk (.vs s f xs) (.vs s f ys):=by
 refine .rows s f xs ys hl (fun i=>(h i).length) fun i j=>?_
 by_cases hj : j < (xs.getD i []).length
 ·exact (h i).get j hj
 ·have e1 : (xs.getD i []).getD j .dead = .dead:=by rw [List.getD_eq_getElem?_getD,List.getElem?_eq_none (by omega)]; rfl
  have hl2:=(h i).length
  have e2 : (ys.getD i []).getD j .dead = .dead:=by rw [List.getD_eq_getElem?_getD,List.getElem?_eq_none (by omega)]; rfl
  rw [e1,e2]
  exact .refl _
theorem wk_more (Y : List Expl) (f : Bool) : Wk (.vs 5 f (Y.map xE ++ [[.I 0,.B false,.nilS,.nilS,.nilS]])) (.vs 5 f ((Y ++ [zX]).map xE)):=by
 refine wkRows_of (by simp) fun i=>?_
 rw [List.map_append]
 by_cases hi : i < Y.length
 ·have e1 : (Y.map xE ++ [[AV.I 0,.B false,.nilS,.nilS,.nilS]]).getD i [] = (Y.map xE).getD i []:=by simp only [List.getD]; rw [List.getElem?_append_left (by simpa using hi)]
  have e2 : (Y.map xE ++ List.map xE [zX]).getD i [] = (Y.map xE).getD i []:=by simp only [List.getD]; rw [List.getElem?_append_left (by simpa using hi)]
  rw [e1,e2]
  exact wkL_refl _
 ·obtain ⟨j,rfl⟩ : ∃ j,i = Y.length + j:=⟨i - Y.length,by omega⟩
  have e1 : (Y.map xE ++ [[AV.I 0,.B false,.nilS,.nilS,.nilS]]).getD (Y.length + j) [] = [[AV.I 0,.B false,.nilS,.nilS,.nilS]].getD j []:=by simp only [List.getD]; rw [List.getElem?_append_right (by simp)]; simp
  have e2 : (Y.map xE ++ List.map xE [zX]).getD (Y.length + j) [] = (List.map xE [zX]).getD j []:=by simp only [List.getD]; rw [List.getElem?_append_right (by simp)]; simp
  rw [e1,e2]
  match j with
  | 0=>exact ⟨.refl _,.refl _,.nil _ _,.nil _ _,.nil _ _,trivial⟩
  | _ + 1=>exact trivial
theorem wkPv3 {a b c a' b' c' : AV} (h1 : Wk a a') (h2 : Wk b b') (h3 : Wk c c') : Wk (.pv [a,b,c]) (.pv [a',b',c']) :=
 .pv _ _ rfl fun i=>match i with | 0=>h1 | 1=>h2 | 2=>h3 | _ + 3=>.refl _
theorem allAns_len (g : Gr) (p : Pol) (X : List Expl) : (allAns g p X).1.length ≤ X.length:=by
 unfold allAns allV
 split
 ·split
  ·split
   ·exact accX_len X
   ·simp
  ·simp
 ·simp
structure CmSt where
 g : Gr
 p : Pol
 Y : List Expl
set_option maxRecDepth 100000 in
set_option maxHeartbeats 40000000 in
open Classical in
theorem law44_CheckerMade_ok (L : List Int) (odd : Int) :
  ACalls Tryz.prog nlaw44_CheckerMade [ints L,.sc (.int .u8 odd)] [] (.B true) []:=by
 refine slaw44_CheckerMade.acalls (Nat.le_of_ble_eq_true rfl) (Nat.le_of_ble_eq_true rfl) (Nat.le_refl _) ?_
 show awp _ 0 _ _ ⟨182,[(0,ints L),(1,.sc (.int .u8 odd))],[],16⟩
 refine rx (s:=?s1) [0,1] [] [] rfl ?o1 ?q1
 case o1=>simp; rfl
 refine awp_seq ?_
 refine rx (s:=?s2) [0,1,20] [] [] rfl ?o2 ?q2
 case o2=>simp; refine call0e (mk_Light_ok L) (by simp) ?_; simp; rfl
 refine awp_cond _ rfl (fun h3=>?_) fun h3=>?_
 ·refine rx (s:=?s4) [4] [] [] rfl ?o4 ?q4
  case o4=>simp; refine call0e awake44_ok (by simp) ?_; simp; rfl
  refine awp_ret ?_
  exact ⟨.inr rfl,RetOk.one (by simp)⟩
 simp at h3
 obtain ⟨⟨g,b1⟩,⟨hg,hg2,hg9,hb1⟩,hcg⟩:=Graph_own L 0 h3 (Nat.zero_le _)
 simp only at hg hg2 hg9 hb1 hcg
 obtain ⟨⟨p,b2⟩,⟨hp1,hp2,hp3,hb2⟩,hcp⟩:=Policy_a L b1 g h3 hb1 (by omega) (by omega)
 simp only at hp1 hp2 hp3 hb2 hcp
 have hel:=hg.edges_le
 have hgl:=hg.gone_le
 have htE : ∀ h : Ed → List AV,List.take g.edges.length (List.map h g.edges) = List.map h g.edges:=fun h=>List.take_of_length_le (by simp)
 refine awp_skip ?_
 refine awp_regc ⟨182,[(1,.sc (.int .u8 odd)),(5,.pt 20 0 0)],[(20,some (dice L 0))],100⟩ rfl ?_ ?_
 ·simp
  refine callN1 (Roll_ok L) (by simp) ?_
  simp
  exact Le.go [(56,20)] [] rfl rfl (by simp) (by simp)
 refine awp_regc ⟨182,[(1,.sc (.int .u8 odd)),(5,.pt 20 0 0),(6,.pt 30 0 0)],[(20,some (dice L b1)),(30,some ⟨3,[gO g 41],0⟩),(41,some (eO g))],200⟩ rfl ?_ ?_
 ·simp
  refine callM1 (i:=20) rfl (e':=dice L 0) (by simp) hcg (by simp) (by simp) ?_
  simp [splice]
  exact Le.go [(20,20),(116,30),(108,41)] [] rfl rfl (by simp) (by simp [fcd])
 refine awp_regc ⟨182,[(1,.sc (.int .u8 odd)),(5,.pt 20 0 0),(6,.pt 30 0 0),(7,.pt 31 0 0)],[(20,some (dice L b2)),(30,some ⟨3,[gO g 41],0⟩),(41,some (eO g)),(31,some ⟨3,[pC p],0⟩)],300⟩ rfl ?_ ?_
 ·simp
  refine callM1s (i:=20) (j:=41) (by decide) (by decide) rfl rfl (e':=dice L b1) (by simp) hcp (by simp) (by simp [fcd,htE]) ?_
  simp [splice]
  exact Le.go [(20,20),(30,30),(41,41),(224,31)] [] rfl rfl (by simp) (by simp [fcd])
 obtain ⟨X,⟨hXl,hXr⟩,hXc⟩:=All43_a g p hg hp1 (by omega)
 have hol : (ordL (levelG g p.lv) p.seeds).length ≤ 64:=by
  have h1:=ordL_len (g:=levelG g p.lv) (S:=p.seeds) hg.1.1
  have h2 : (levelG g p.lv).size = g.size:=rfl
  omega
 have hXb : ∀ i (h : i < X.length),ExplB X[i] 200:=fun i h=>(hXr i h (by omega)).bounds hg hp1
 have hXl' : X.length ≤ 64:=by omega
 clear hXr
 refine awp_regc ⟨182,[(1,.sc (.int .u8 odd)),(5,.pt 20 0 0),(6,.pt 30 0 0),(7,.pt 31 0 0),(8,eXs X)],[(20,some (dice L b2)),(30,some ⟨3,[gO g 41],0⟩),(41,some (eO g)),(31,some ⟨3,[pC p],0⟩)],400⟩ rfl ?_ ?_
 ·simp
  refine call0k [41] (by simp) hXc (by simp [fcd,htE]) ?_
  simp
  exact Le.go [(20,20),(30,30),(41,41),(31,31)] [] rfl rfl (by simp) (by simp [fcd])
 refine awp_regc ⟨182,[(1,.sc (.int .u8 odd)),(5,.pt 20 0 0),(6,.pt 30 0 0),(7,.pt 31 0 0),(8,eXs X),(10,.nilS)],[(20,some (dice L b2)),(30,some ⟨3,[gO g 41],0⟩),(41,some (eO g)),(31,some ⟨3,[pC p],0⟩)],500⟩ rfl ?_ ?_
 ·simp
  exact Le.keep rfl (Nat.le_of_ble_eq_true rfl) (by simp) (by simp)
 refine awp_seq ?_
 refine awp_regc ⟨182,[(1,.sc (.int .u8 odd)),(5,.pt 20 0 0),(6,.pt 30 0 0),(7,.pt 31 0 0),(8,eXs X),(10,.nilS),(11,.I 0)],[(20,some (dice L b2)),(30,some ⟨3,[gO g 41],0⟩),(41,some (eO g)),(31,some ⟨3,[pC p],0⟩)],600⟩ rfl ?_ ?_
 ·simp
  exact Le.keep rfl (Nat.le_of_ble_eq_true rfl) (by simp) (by simp)
 refine awp_block ?_
 refine awp_loop (ι:=List Expl × Nat) (fun s=>⟨182,[(1,.sc (.int .u8 odd)),(5,.pt 20 0 0),(6,.pt 30 0 0),(7,.pt 31 0 0),(8,eXs X),(10,.rs 50 0 s.1.length),(11,.I s.1.length)],[(20,some (dice L s.2)),(30,some ⟨3,[gO g 41],0⟩),(41,some (eO g)),(31,some ⟨3,[pC p],0⟩),(50,some ⟨5,s.1.map xE,0⟩)],700⟩)
  (fun s=>s.1.length ≤ X.length ∧ s.2 ≤ L.length ∧ ∀ y ∈ s.1,ExplB y 264) (fun s=>X.length - s.1.length) ([],b2) ⟨Nat.zero_le _,hb2,fun y h=>(by cases h)⟩
  (Le.lst [(20,20),(30,30),(41,41),(31,31)] [] [(50,5)] rfl (by simp) (by simp) (by simp) (by simp) (by simp) (by simp) (by simp) (by simp [Up]) (by simp [fcd]; exact ⟨EntUp.rfl' (by simp),EntUp.rfl' (by simp),EntUp.rfl' (by simp),EntUp.rfl' (by simp)⟩)) ?_
 rintro ⟨Y,b⟩ ⟨hYl,hb,hYb⟩
 simp only at hYl hb hYb
 have htY : ∀ h : Expl → List AV,List.take Y.length (List.map h Y) = List.map h Y:=fun h=>List.take_of_length_le (by simp)
 refine awp_seq ?_
 refine awp_regc ⟨182,[(1,.sc (.int .u8 odd)),(5,.pt 20 0 0),(6,.pt 30 0 0),(7,.pt 31 0 0),(8,eXs X),(10,.rs 50 0 Y.length),(11,.I Y.length),(38,.B (decide (Y.length < X.length)))],[(20,some (dice L b)),(30,some ⟨3,[gO g 41],0⟩),(41,some (eO g)),(31,some ⟨3,[pC p],0⟩),(50,some ⟨5,Y.map xE,0⟩)],800⟩ rfl ?_ ?_
 ·simp
  exact Le.keep rfl (Nat.le_of_ble_eq_true rfl) (by simp) (by simp)
 refine awp_cond _ rfl (fun h17=>?_) fun h17=>?_
 ·simp at h17
  have hwi : IntKind.i64.wrap ((Y.length : Int) + 1) = ((Y.length + 1 : Nat) : Int):=by rw [w64 (by omega) (by omega)]; omega
  obtain ⟨x,hx⟩ : ∃ x,x = X[Y.length]:=⟨_,rfl⟩
  have hgi : X[Y.length]? = some x:=by rw [List.getElem?_eq_getElem h17,hx]
  have hxB : ExplB x 200:=by rw [hx]; exact hXb _ h17
  obtain ⟨o,b3,hb3,hco⟩:=One_a L b 3 h3 hb (by omega) (by omega)
  refine awp_skip ?_
  refine awp_cut (ι:=Expl × Nat) (fun s=>⟨182,[(1,.sc (.int .u8 odd)),(5,.pt 20 0 0),(6,.pt 30 0 0),(7,.pt 31 0 0),(8,eXs X),(10,.rs 50 0 (Y ++ [s.1]).length),(11,.I Y.length)],[(20,some (dice L s.2)),(30,some ⟨3,[gO g 41],0⟩),(41,some (eO g)),(31,some ⟨3,[pC p],0⟩),(50,some ⟨5,(Y ++ [s.1]).map xE,0⟩)],1500⟩) (fun s=>ExplB s.1 264 ∧ s.2 ≤ L.length) ?_ ?_
  ·refine awp_block ?_
   refine awp_regc ⟨182,[(1,.sc (.int .u8 odd)),(5,.pt 20 0 0),(6,.pt 30 0 0),(7,.pt 31 0 0),(8,eXs X),(10,.rs 50 0 Y.length),(11,.I Y.length),(42,.B o)],[(20,some (dice L b3)),(30,some ⟨3,[gO g 41],0⟩),(41,some (eO g)),(31,some ⟨3,[pC p],0⟩),(50,some ⟨5,Y.map xE,0⟩)],1000⟩ rfl ?_ ?_
   ·simp
    refine callM1 (i:=20) rfl (e':=dice L b) (by simp) hco (by simp) (by simp) ?_
    simp
    exact Le.keep rfl (Nat.le_of_ble_eq_true rfl) (by simp) (by simp)
   cases o with
   | true =>
     refine awp_cond _ rfl (fun _=>?_) fun h=>by cases h
     obtain ⟨⟨y,b4⟩,⟨hyB,hb4⟩,hcb⟩:=bend_a L b3 x g.size 200 h3 hb3 (by omega) (by omega) hxB (by omega)
     simp only at hyB hb4 hcb
     refine awp_drw rfl ?_
     simp [hgi,h17,← hx]
     refine callM1 (i:=20) rfl (e':=dice L b3) (by simp) hcb (by simp) (by simp) ?_
     simp [htY]
     refine ⟨by omega,by omega,rfl,y,b4,⟨hyB,hb4⟩,Le.go [(20,20),(30,30),(41,41),(31,31),(1080,50)] [] rfl rfl (by simp) (by simp [fcd])⟩
   | false =>
     refine awp_cond _ rfl (fun h=>by cases h) fun _=>?_
     refine awp_reg rfl ?_
     simp [hgi,h17,← hx,htY]
     refine ⟨by omega,by omega,x,b3,⟨⟨Nat.le_trans hxB.b (by omega),Nat.le_trans hxB.p (by omega),fun w hw=>Nat.le_trans (hxB.w w hw) (by omega),Nat.le_trans hxB.s (by omega)⟩,hb3⟩,Le.go [(20,20),(30,30),(41,41),(31,31),(1048,50)] [] rfl rfl (by simp) (by simp [fcd])⟩
  rintro ⟨y,b4⟩ ⟨hyB,hb4⟩
  simp only at hyB hb4
  refine awp_run (s:=?s41) rfl ?o41 ?q41
  case o41=>simp; rfl
  refine ⟨(Y ++ [y],b4),⟨by simp only [List.length_append,List.length_singleton]; omega,hb4,fun z hz=>?_⟩,by simp only [List.length_append,List.length_singleton]; omega,Le.go [(20,20),(30,30),(41,41),(31,31),(50,50)] [] rfl rfl (by simp [hwi]) (by simp [fcd])⟩
  rcases List.mem_append.1 hz with h | h
  ·exact hYb z h
  ·rw [List.mem_singleton.1 h]; exact hyB
 simp at h17
 refine awp_exit ?_
 refine hit ?_
 have hYs : ∀ y ∈ Y,SmallX y:=fun y hy=>by
  have h:=hYb y hy
  exact ⟨Nat.le_trans h.b (by omega),Nat.le_trans h.p (by omega),fun w hw=>Nat.le_trans (h.w w hw) (by omega),Nat.le_trans h.s (by omega)⟩
 refine awp_cut (ι:=CmSt) (fun s=>⟨182,[(6,.pv (gC s.g)),(7,.pv (pC s.p)),(10,eXs s.Y)],[],3000⟩) (fun s=>s.g.edges.length ≤ 1000 ∧ s.g.gone.length ≤ 64 ∧ s.g.size < 20 ∧ s.p.seeds.length ≤ 64 ∧ s.p.table.length ≤ 1000 ∧ s.Y.length ≤ 200 ∧ ∀ y ∈ s.Y,SmallX y) ?_ ?_
 ·refine awp_regc ⟨182,[(6,.pt 30 0 0),(7,.pt 31 0 0),(10,.rs 50 0 Y.length),(62,.sc (.int .u8 (odd.tmod 9)))],[(30,some ⟨3,[gO g 41],0⟩),(41,some (eO g)),(31,some ⟨3,[pC p],0⟩),(50,some ⟨5,Y.map xE,0⟩)],900⟩ rfl ?_ ?_
  ·simp
   exact Le.keep rfl (Nat.le_of_ble_eq_true rfl) (by simp) (by simp)
  obtain ⟨v,hv⟩ : ∃ v,v = odd.tmod 9:=⟨_,rfl⟩
  rw [← hv]
  refine awp_block ?_
  refine rx (s:=?c0) [6,7,10,62,63] [30,41,31,50] [] rfl ?oc0 ?qc0
  case oc0=>simp [fcd]; rfl
  refine awp_cond _ rfl (fun _=>?_) fun _=>?_
  ·refine awp_reg rfl ?_
   simp [splice]
   exact ⟨⟨g,{ p with table:=[] },Y⟩,⟨by simp only; omega,by simp only; omega,by simp only; omega,by simp only; omega,Nat.zero_le _,by simp only; omega,hYs⟩,Le.go [] [30,41,31,50] rfl rfl (by simp [fcd,htE,htY]; exact wkPv3 (.refl _) (.nil _ _) (.refl _)) (by simp)⟩
  refine rx (s:=?c1) [6,7,10,62,66] [30,41,31,50] [] rfl ?oc1 ?qc1
  case oc1=>simp [fcd]; rfl
  refine awp_cond _ rfl (fun _=>?_) fun _=>?_
  ·refine awp_reg rfl ?_
   simp [splice,htE]
   have hd1 : ∀ (h : Ed → List AV) (u : List AV),List.take (g.edges.length + 1) (List.map h g.edges ++ [u]) = List.map h g.edges ++ [u]:=fun h u=>List.take_of_length_le (by simp)
   exact ⟨by omega,by omega,⟨{ g with edges:=g.edges ++ [⟨0,0,0⟩] },p,Y⟩,⟨by simp only [List.length_append,List.length_singleton]; omega,by simp only; omega,by simp only; omega,by simp only; omega,by simp only; omega,by simp only; omega,hYs⟩,Le.go [] [30,964,31,50] rfl rfl (by simp [fcd,htE,htY,hd1]; exact wkPv3 (.refl _) (wkE (by show _ = AV.vs 3 false ((g.edges ++ [(⟨0,0,0⟩ : Ed)]).map fun e : Ed=>[AV.I e.f,.I e.t,.I e.v]); rw [List.map_append]; rfl)) (.refl _)) (by simp)⟩
  refine rx (s:=?c2) [6,7,10,62,74] [30,41,31,50] [] rfl ?oc2 ?qc2
  case oc2=>simp [fcd]; rfl
  refine awp_cond _ rfl (fun _=>?_) fun _=>?_
  ·refine rx (s:=?c3) [6,7,10,78] [30,41,31,50] [] rfl ?oc3 ?qc3
   case oc3=>simp [fcd]; rfl
   refine awp_cond _ rfl (fun h2=>?_) fun _=>?_
   ·simp at h2
    refine awp_reg rfl ?_
    simp
    refine k_slr 1 (i:=50) rfl rfl (by omega) ?_
    simp
    have hd1 : 1 + (Y.length - 1) ≤ Y.length:=by omega
    have hd2 : ∀ f : Expl → List AV,List.take (Y.length - 1) (List.map f Y).tail = List.map f Y.tail:=fun f=>by rw [List.take_of_length_le (by simp),List.map_tail]
    exact ⟨⟨g,p,Y.tail⟩,⟨by simp only; omega,by simp only; omega,by simp only; omega,by simp only; omega,by simp only; omega,by simp only [List.length_tail]; omega,fun y hy=>hYs y (List.mem_of_mem_tail hy)⟩,Le.go [] [30,41,31,50] rfl rfl (by simp [fcd,htE,htY,hd1,hd2]; exact wkE (by show _ = AV.vs 5 false (Y.tail.map xE); rw [List.map_tail])) (by simp)⟩
   refine awp_skip ?_
   exact ⟨⟨g,p,Y⟩,⟨by simp only; omega,by simp only; omega,by simp only; omega,by simp only; omega,by simp only; omega,by simp only; omega,hYs⟩,Le.go [] [30,41,31,50] rfl rfl (by simp [fcd,htE,htY]) (by simp)⟩
  refine rx (s:=?c4) [6,7,10,62,81] [30,41,31,50] [] rfl ?oc4 ?qc4
  case oc4=>simp [fcd]; rfl
  refine awp_cond _ rfl (fun _=>?_) fun _=>?_
  ·refine awp_reg rfl ?_
   simp [htY]
   have hd1 : ∀ (h : Expl → List AV) (u : List AV),List.take (Y.length + 1) (List.map h Y ++ [u]) = List.map h Y ++ [u]:=fun h u=>List.take_of_length_le (by simp)
   refine ⟨by omega,by omega,⟨g,p,Y ++ [zX]⟩,⟨by simp only; omega,by simp only; omega,by simp only; omega,by simp only; omega,by simp only; omega,by simp only [List.length_append,List.length_singleton]; omega,fun y hy=>?_⟩,Le.go [] [30,41,31,988] rfl rfl (by simp [fcd,htE,htY,hd1]; exact wk_more Y false) (by simp)⟩
   rcases List.mem_append.1 hy with h | h
   ·exact hYs y h
   ·rw [List.mem_singleton.1 h]; exact ⟨by simp,by simp,fun w hw=>(by cases hw),by simp⟩
  refine rx (s:=?c5) [6,7,10,87] [30,41,31,50] [] rfl ?oc5 ?qc5
  case oc5=>simp [fcd]; rfl
  refine awp_cond _ rfl (fun _=>?_) fun _=>?_
  ·refine rx (s:=?c6) [6,7,10,91] [30,41,31,50] [] rfl ?oc6 ?qc6
   case oc6=>simp [fcd]; rfl
   refine awp_cond _ rfl (fun h2=>?_) fun _=>?_
   ·simp at h2
    obtain ⟨y0,y1,r,hY⟩ : ∃ y0 y1 r,Y = y0 :: y1 :: r:=by
     match Y,h2 with
     | y0 :: y1 :: r,_=>exact ⟨y0,y1,r,rfl⟩
    subst hY
    refine awp_drw rfl ?_
    simp [splice]
    refine ⟨by omega,by omega,by omega,rfl,⟨g,p,y1 :: y0 :: r⟩,⟨by simp only; omega,by simp only; omega,by simp only; omega,by simp only; omega,by simp only; omega,by simp only [List.length_cons] at hYl ⊢; omega,fun y hy=>hYs y ?_⟩,Le.go [] [30,41,31,50] rfl rfl (by simp [fcd,htE,take_map_len]; exact .refl _) (by simp)⟩
    simp only [List.mem_cons] at hy ⊢
    rcases hy with h | h | h
    ·exact .inr (.inl h)
    ·exact .inl h
    ·exact .inr (.inr h)
   refine awp_skip ?_
   exact ⟨⟨g,p,Y⟩,⟨by simp only; omega,by simp only; omega,by simp only; omega,by simp only; omega,by simp only; omega,by simp only; omega,hYs⟩,Le.go [] [30,41,31,50] rfl rfl (by simp [fcd,htE,htY]) (by simp)⟩
  refine awp_skip ?_
  exact ⟨⟨g,p,Y⟩,⟨by simp only; omega,by simp only; omega,by simp only; omega,by simp only; omega,by simp only; omega,by simp only; omega,hYs⟩,Le.go [] [30,41,31,50] rfl rfl (by simp [fcd,htE,htY]) (by simp)⟩
 rintro ⟨g',p',Z⟩ ⟨i1,i2,i3,i4,i5,i6,i7⟩
 simp only at i1 i2 i3 i4 i5 i6 i7
 have a1:=checker_All_any g' p' Z (by omega) (by omega) (by omega) i3 i4 (by omega) i7
 have a2:=ref44_All_any g' p' Z (by omega) (by omega) (by omega) i4 (by omega) i7
 have hAl:=allAns_len g' p' Z
 obtain ⟨A,hA⟩ : ∃ A,A = (allAns g' p' Z).1:=⟨_,rfl⟩
 obtain ⟨f,hf⟩ : ∃ f,f = (allAns g' p' Z).2:=⟨_,rfl⟩
 rw [← hA,← hf] at a1 a2
 rw [← hA] at hAl
 have hsame:=ref23_SameInts_ok A A (by omega) (by omega)
 rw [decide_eq_true rfl] at hsame
 refine awp_regc ⟨182,[(6,.pv (gC g')),(7,.pv (pC p')),(10,eXs Z),(12,ints A),(13,.I f)],[],3200⟩ rfl ?_ ?_
 ·simp
  refine call0e a1 (by simp) ?_
  simp
  exact Le.go [] [] rfl rfl (by simp) (by simp)
 refine awp_regc ⟨182,[(6,.pv (gC g')),(7,.pv (pC p')),(10,eXs Z),(12,ints A),(13,.I f),(14,ints A),(15,.I f)],[],3400⟩ rfl ?_ ?_
 ·simp
  refine call0e a2 (by simp) ?_
  simp
  exact Le.go [] [] rfl rfl (by simp) (by simp)
 refine awp_seq ?_
 refine awp_regc ⟨182,[(6,.pv (gC g')),(7,.pv (pC p')),(10,eXs Z),(124,.B false)],[],3600⟩ rfl ?_ ?_
 ·simp
  refine call0e hsame (by simp) ?_
  simp
  exact Le.go [] [] rfl rfl (by simp) (by simp)
 refine awp_cond _ rfl (fun h=>by cases h) fun _=>?_
 refine awp_skip ?_
 refine awp_seq ?_
 refine awp_regc ⟨182,[(6,.pv (gC g')),(7,.pv (pC p')),(10,eXs Z),(16,.I 0)],[],3700⟩ rfl ?_ ?_
 ·simp
  exact Le.go [] [] rfl rfl (by simp) (by simp)
 refine awp_block ?_
 refine awp_loop (ι:=Nat) (fun i=>⟨182,[(6,.pv (gC g')),(7,.pv (pC p')),(10,eXs Z),(16,.I i)],[],3700⟩) (fun i=>i ≤ Z.length) (fun i=>Z.length - i) 0 (Nat.zero_le _) (Le.keep rfl (Nat.le_refl _) (by simp) (by simp)) ?_
 intro i hi
 refine awp_seq ?_
 refine rx (s:=?s19) [6,7,10,16,128] [] [] rfl ?o19 ?q19
 case o19=>simp; rfl
 refine awp_cond _ rfl (fun h20=>?_) fun h20=>?_
 ·simp at h20
  have hwi : IntKind.i64.wrap ((i : Int) + 1) = (i : Int) + 1:=w64 (by omega) (by omega)
  obtain ⟨x,hx⟩ : ∃ x,x = Z[i]:=⟨_,rfl⟩
  have hgi : Z[i]? = some x:=by rw [List.getElem?_eq_getElem h20,hx]
  have hxs:=i7 x (by rw [hx]; exact List.getElem_mem h20)
  have hxb:=hxs.b
  obtain ⟨E,hE⟩ : ∃ E,E = x.before ++ [x.key]:=⟨_,rfl⟩
  have hEl : E.length = x.before.length + 1:=by rw [hE,List.length_append]; rfl
  have hd : List.take (x.before.length + 1) (List.map (fun n=>[AV.I n]) x.before ++ [[AV.I x.key]]) = List.map (fun n=>[AV.I n]) E:=by rw [List.take_of_length_le (by simp),hE,List.map_append]; rfl
  have k1:=checker_Check_ok g' p' x (by omega) (by omega) (by omega) i3 i4 hxs
  have k2:=ref44_Check_ok g' p' x (by omega) (by omega) (by omega) i4 hxs
  have k3:=checker_Paths_ok g' p' x.paths E (by omega) (by omega) (by omega) (by omega) i3 hxs.p hxs.w (by omega)
  have k4:=ref44_Paths_ok g' p' x.paths E (by omega) (by omega) (by omega) (by omega) hxs.p hxs.w (by omega)
  rw [show decide (PathsC g' p' x.paths E) = decide (PathsR g' p' x.paths E) from decide_eq_decide.2 (pathsCR p' x.paths E)] at k3
  refine awp_skip ?_
  refine awp_cut (ι:=Unit) (fun _=>⟨182,[(6,.pv (gC g')),(7,.pv (pC p')),(10,eXs Z),(16,.I i)],[],5000⟩) (fun _=>True) ?_ fun _ _=>?_
  ·refine awp_block ?_
   refine awp_dregc ⟨182,[(6,.pv (gC g')),(7,.pv (pC p')),(10,eXs Z),(16,.I i),(17,ints E)],[],4000⟩ rfl ?_ ?_
   ·simp [hgi,h20,← hx]
    exact ⟨by omega,by omega,by omega,by omega,rfl,Le.go [] [3836] rfl rfl (by simp [fcd,hd]) (by simp)⟩
   refine awp_dregc ⟨182,[(6,.pv (gC g')),(7,.pv (pC p')),(10,eXs Z),(16,.I i),(180,.B false)],[],4500⟩ rfl ?_ ?_
   ·simp [hgi,h20,← hx]
    refine call0e k1 (by simp) ?_
    simp
    refine call0e k2 (by simp) ?_
    simp [hgi,h20,← hx]
    refine call0e k3 (by simp) ?_
    simp [hgi,h20,← hx]
    refine call0e k4 (by simp) ?_
    simp
    exact ⟨rfl,Le.go [] [] rfl rfl (by simp) (by simp)⟩
   refine awp_cond _ rfl (fun h=>by cases h) fun _=>?_
   refine awp_skip ?_
   exact ⟨(),trivial,Le.go [] [] rfl rfl (by simp) (by simp)⟩
  refine awp_reg rfl ?_
  simp
  exact ⟨i + 1,by omega,by omega,Le.go [] [] rfl rfl (by simp [hwi]) (by simp)⟩
 simp at h20
 refine awp_exit ?_
 refine hit ?_
 refine awp_regc ⟨182,[(4,.B true)],[],5000⟩ rfl ?_ ?_
 ·simp
  refine call0e awake44_ok (by simp) ?_
  simp
  exact Le.go [] [] rfl rfl (by simp) (by simp)
 refine awp_ret ?_
 exact ⟨.inr rfl,RetOk.one (by simp)⟩
end Go.Proofs.YtlhjelookgjmpaaGreat
