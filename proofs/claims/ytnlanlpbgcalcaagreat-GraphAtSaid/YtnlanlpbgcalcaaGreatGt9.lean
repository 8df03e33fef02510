/- Texts of this claim, merged. -/
import Derived.Test.YtnlanlpbgcalcaaGreatGt8
set_option linter.unusedSimpArgs false
set_option linter.unusedVariables false
set_option linter.unusedSectionVars false
namespace Go.Proofs.YtnlanlpbgcalcaaGreat
open Go
def K1 (s : Stm) : Prop := (0 ≤ s.a ∧ s.a < 64) ∧ s.a ≠ s.au ∧ 1 ≤ s.b ∧ s.b ≤ 3 ∧ s.ti ≤ s.c ∧ s.c ≤ 2147483648
def K2 (s : Stm) : Prop := (0 ≤ s.a ∧ s.a ≤ 199) ∧ s.b = 0 ∧ s.c = 0
def K3 (s : Stm) : Prop := s.a = 0 ∧ s.b = 0 ∧ s.c = 0
instance (s : Stm) : Decidable (K1 s) := by unfold K1; infer_instance
instance (s : Stm) : Decidable (K2 s) := by unfold K2; infer_instance
instance (s : Stm) : Decidable (K3 s) := by unfold K3; infer_instance
def KindOk (s : Stm) : Prop := (s.ki = 1 → K1 s) ∧ (s.ki = 2 → K2 s) ∧ (s.ki = 3 → K3 s)
instance (s : Stm) : Decidable (KindOk s) := by unfold KindOk; infer_instance
def InV (x : Int) : Prop := 0 ≤ x ∧ x ≤ 1099511627776
instance (x : Int) : Decidable (InV x) := by unfold InV; infer_instance
def NumOk (s : Stm) : Prop := (0 ≤ s.nu ∧ s.nu ≤ 199) ∧ InV s.a ∧ InV s.b ∧ InV s.c ∧ (∀ x ∈ s.li, InV x) ∧ KindOk s
instance (s : Stm) : Decidable (NumOk s) := by unfold NumOk; infer_instance
set_option maxHeartbeats 2000000 in
set_option maxRecDepth 100000 in
theorem ref03_numbers_ok (s : Stm) (hl : s.li.length ≤ 1000000) : ACalls Tryz.prog nref03_numbers [eS s] [] (.B (decide (NumOk s))) [] := by
  refine sref03_numbers.acalls (Nat.le_of_ble_eq_true rfl) (Nat.le_of_ble_eq_true rfl) (Nat.le_refl _) ?_
  show awp _ 0 _ _ ⟨106, [(0, eS s)], [], 16⟩
  refine awp_regc ⟨106, [(1, .pv (sC s))], [], 32⟩ rfl ?_ ?_
  · simp
    exact Le.snap [16] rfl rfl (by simp)
  obtain ⟨b1, hb1⟩ : ∃ b, b = decide (0 ≤ s.nu ∧ s.nu ≤ 199) := ⟨_, rfl⟩
  obtain ⟨b2, hb2⟩ : ∃ b, b = decide (0 ≤ s.a ∧ s.a ≤ 1099511627776) := ⟨_, rfl⟩
  obtain ⟨b3, hb3⟩ : ∃ b, b = decide (0 ≤ s.b ∧ s.b ≤ 1099511627776) := ⟨_, rfl⟩
  obtain ⟨b4, hb4⟩ : ∃ b, b = decide (0 ≤ s.c ∧ s.c ≤ 1099511627776) := ⟨_, rfl⟩
  have q1 := ref03_in_ok s.nu 199
  have q2 := ref03_in_ok s.a 1099511627776
  have q3 := ref03_in_ok s.b 1099511627776
  have q4 := ref03_in_ok s.c 1099511627776
  rw [← hb1] at q1
  rw [← hb2] at q2
  rw [← hb3] at q3
  rw [← hb4] at q4
  refine awp_seq ?_
  refine awp_regc ⟨106, [(1, .pv (sC s)), (25, .B (!(b1 && (b2 && (b3 && b4)))))], [], 208⟩ rfl ?_ ?_
  · simp
    refine call0e q1 rfl ?_
    cases b1
    · simp
      exact Le.snap [] rfl rfl (by simp)
    simp
    refine call0e q2 rfl ?_
    cases b2
    · simp
      exact Le.snap [] rfl rfl (by simp)
    simp
    refine call0e q3 rfl ?_
    cases b3
    · simp
      exact Le.snap [] rfl rfl (by simp)
    simp
    refine call0e q4 rfl ?_
    cases b4
    · simp
      exact Le.snap [] rfl rfl (by simp)
    simp
    exact Le.snap [] rfl rfl (by simp)
  refine awp_cond _ rfl (fun h => ?_) fun h => awp_skip ?_
  · have hno : ¬ NumOk s := fun hq => by
      obtain ⟨n1, n2, n3, n4, _⟩ := hq
      rw [decide_eq_true n1] at hb1
      rw [decide_eq_true (show _ ∧ _ from n2)] at hb2
      rw [decide_eq_true (show _ ∧ _ from n3)] at hb3
      rw [decide_eq_true (show _ ∧ _ from n4)] at hb4
      subst hb1 hb2 hb3 hb4
      cases h
    rw [decide_eq_false hno]
    refine awp_seq ?_
    refine awp_run (s := ?s3) rfl ?o3 ?q3
    case o3 => simp; rfl
    refine awp_ret ?_
    exact ⟨.inr rfl, RetOk.one (by simp)⟩
  have hn : (0 ≤ s.nu ∧ s.nu ≤ 199) ∧ InV s.a ∧ InV s.b ∧ InV s.c := by
    simp only [Bool.not_eq_false', Bool.and_eq_true] at h
    obtain ⟨e1, e2, e3, e4⟩ := h
    rw [e1] at hb1
    rw [e2] at hb2
    rw [e3] at hb3
    rw [e4] at hb4
    exact ⟨of_decide_eq_true hb1.symm, of_decide_eq_true hb2.symm, of_decide_eq_true hb3.symm, of_decide_eq_true hb4.symm⟩
  clear h q1 q2 q3 q4 hb1 hb2 hb3 hb4
  refine awp_seq ?_
  refine awp_regc ⟨106, [(1, .pv (sC s)), (3, .I (0 : Nat))], [], 216⟩ rfl (by simp; exact Le.snap [] rfl rfl (by simp)) ?_
  refine awp_block ?_
  refine awp_loop (ι := Nat) (fun k => ⟨106, [(1, .pv (sC s)), (3, .I k)], [], 216⟩) (fun k => k ≤ s.li.length ∧ ∀ x ∈ s.li.take k, InV x) (fun k => s.li.length - k) 0 ⟨Nat.zero_le _, by simp⟩ (Le.refl _ _) ?_
  rintro k ⟨hk, hp⟩
  refine awp_seq ?_
  refine awp_regc ⟨106, [(1, .pv (sC s)), (3, .I k), (30, .B (decide (k < s.li.length)))], [], 256⟩ rfl (by simp; exact Le.snap [] rfl rfl (by simp)) ?_
  refine awp_cond _ rfl (fun h => awp_skip ?_) fun h => awp_exit (hit ?_)
  · simp only [decide_eq_true_eq] at h
    obtain ⟨x, hx⟩ : ∃ x, s.li[k] = x := ⟨_, rfl⟩
    have hg : s.li[k]? = some x := by rw [List.getElem?_eq_getElem h, hx]
    obtain ⟨b, hb⟩ : ∃ b, b = decide (0 ≤ x ∧ x ≤ 1099511627776) := ⟨_, rfl⟩
    have q := ref03_in_ok x 1099511627776
    rw [← hb] at q
    have hwk : IntKind.i64.wrap ((k : Int) + 1) = ((k + 1 : Nat) : Int) := by rw [w64 (by omega) (by omega)]; omega
    refine awp_cut (ι := Unit) (fun _ => ⟨106, [(1, .pv (sC s)), (3, .I k)], [], 312⟩) (fun _ => InV x) ?_ fun _ hok => ?_
    · refine awp_block ?_
      refine awp_regc ⟨106, [(1, .pv (sC s)), (3, .I k), (39, .B (!b))], [], 312⟩ rfl ?_ ?_
      · simp [hg]
        refine call0e q rfl ?_
        simp
        exact Le.snap [] rfl rfl (by simp)
      refine awp_cond _ rfl (fun h5 => ?_) fun h5 => awp_skip ?_
      · have hno : ¬ NumOk s := fun hq => by
          have := hq.2.2.2.2.1 x (hx ▸ List.getElem_mem h)
          rw [decide_eq_true (show _ ∧ _ from this)] at hb
          subst hb
          cases h5
        rw [decide_eq_false hno]
        refine awp_seq ?_
        refine awp_run (s := ?s4) rfl ?o4 ?q4
        case o4 => simp; rfl
        refine awp_ret ?_
        exact ⟨.inr rfl, RetOk.one (by simp)⟩
      · simp only [Bool.not_eq_false'] at h5
        rw [h5] at hb
        exact ⟨(), of_decide_eq_true hb.symm, Le.snap [] rfl rfl (by simp)⟩
    refine awp_reg rfl ?_
    simp [hwk]
    refine ⟨k + 1, ⟨by omega, fun y hy => ?_⟩, by omega, Le.snap [] rfl rfl (by simp)⟩
    rw [List.take_succ_eq_append_getElem h, List.mem_append] at hy
    rcases hy with hy | hy
    · exact hp y hy
    · rw [List.mem_singleton.1 hy, hx]
      exact hok
  simp only [decide_eq_false_iff_not] at h
  obtain rfl : k = s.li.length := by omega
  rw [List.take_length] at hp
  have hiff : NumOk s ↔ KindOk s := ⟨fun hq => hq.2.2.2.2.2, fun hq => ⟨hn.1, hn.2.1, hn.2.2.1, hn.2.2.2, hp, hq⟩⟩
  have hdec : decide (NumOk s) = decide (KindOk s) := by
    rw [Bool.eq_iff_iff, decide_eq_true_eq, decide_eq_true_eq]
    exact hiff
  rw [hdec]
  refine awp_cut (ι := Unit) (fun _ => ⟨106, [], [], 1000⟩) (fun _ => KindOk s) ?_ fun _ hok => ?_
  · refine awp_regc ⟨106, [(1, .pv (sC s)), (41, .I s.ki)], [], 272⟩ rfl (by simp; exact Le.snap [] rfl rfl (by simp)) ?_
    refine awp_block ?_
    refine awp_regc ⟨106, [(1, .pv (sC s)), (41, .I s.ki), (42, .B (decide (s.ki = 1)))], [], 288⟩ rfl ?_ ?_
    · simp
      exact Le.snap [] rfl rfl (by simp <;> exact wkB (by rw [Bool.eq_iff_iff]; simp))
    refine awp_cond _ rfl (fun h1 => ?_) fun h1 => ?_
    · simp only [decide_eq_true_eq] at h1
      have hkk : decide (KindOk s) = decide (K1 s) := by
        rw [Bool.eq_iff_iff, decide_eq_true_eq, decide_eq_true_eq]
        exact ⟨fun hq => hq.1 h1, fun hq => ⟨fun _ => hq, fun h2 => by omega, fun h2 => by omega⟩⟩
      rw [hkk]
      obtain ⟨b, hb⟩ : ∃ b, b = decide (0 ≤ s.a ∧ s.a < 64) := ⟨_, rfl⟩
      have q := ref03_key_ok s.a
      rw [← hb] at q
      refine awp_regc ⟨106, [(2, .B (decide (K1 s)))], [], 552⟩ rfl ?_ ?_
      · simp
        refine call0e q rfl ?_
        cases b
        · have e : decide (K1 s) = false := decide_eq_false fun hq => by rw [decide_eq_true hq.1] at hb; cases hb
          simp [e]
          exact Le.snap [] rfl rfl (by simp)
        · have e0 := of_decide_eq_true hb.symm
          have e : decide (K1 s) = decide (s.a ≠ s.au ∧ 1 ≤ s.b ∧ s.b ≤ 3 ∧ s.ti ≤ s.c ∧ s.c ≤ 2147483648) := by
            rw [Bool.eq_iff_iff, decide_eq_true_eq, decide_eq_true_eq]
            exact ⟨fun hq => hq.2, fun hq => ⟨e0, hq⟩⟩
          rw [e]
          by_cases c1 : s.a = s.au
          · have c1' : (s.a != s.au) = false := by simp [c1]
            have e2 : decide (s.a ≠ s.au ∧ 1 ≤ s.b ∧ s.b ≤ 3 ∧ s.ti ≤ s.c ∧ s.c ≤ 2147483648) = false := decide_eq_false fun hq => hq.1 c1
            rw [e2]
            simp [c1']
            exact Le.snap [] rfl rfl (by simp)
          have c1' : (s.a != s.au) = true := by simp [c1]
          have e2 : decide (s.a ≠ s.au ∧ 1 ≤ s.b ∧ s.b ≤ 3 ∧ s.ti ≤ s.c ∧ s.c ≤ 2147483648) = decide (1 ≤ s.b ∧ s.b ≤ 3 ∧ s.ti ≤ s.c ∧ s.c ≤ 2147483648) := by
            rw [Bool.eq_iff_iff, decide_eq_true_eq, decide_eq_true_eq]
            exact ⟨fun hq => hq.2, fun hq => ⟨c1, hq⟩⟩
          rw [e2]
          clear c1 e e2
          by_cases c2 : 1 ≤ s.b
          · by_cases c3 : s.b ≤ 3
            · by_cases c4 : s.ti ≤ s.c
              · simp [c1', c2, c3, c4]
                exact Le.snap [] rfl rfl (by simp)
              · simp [c1', c2, c3, c4]
                exact Le.snap [] rfl rfl (by simp)
            · simp [c1', c2, c3]
              exact Le.snap [] rfl rfl (by simp)
          · simp [c1', c2]
            exact Le.snap [] rfl rfl (by simp)
      refine awp_ret ?_
      exact ⟨.inr rfl, RetOk.one (by simp)⟩
    simp only [decide_eq_false_iff_not] at h1
    refine awp_regc ⟨106, [(1, .pv (sC s)), (41, .I s.ki), (76, .B (decide (s.ki = 2)))], [], 304⟩ rfl ?_ ?_
    · simp
      exact Le.snap [] rfl rfl (by simp <;> exact wkB (by rw [Bool.eq_iff_iff]; simp))
    refine awp_cond _ rfl (fun h2 => ?_) fun h2 => ?_
    · simp only [decide_eq_true_eq] at h2
      have hkk : decide (KindOk s) = decide (K2 s) := by
        rw [Bool.eq_iff_iff, decide_eq_true_eq, decide_eq_true_eq]
        exact ⟨fun hq => hq.2.1 h2, fun hq => ⟨fun h => by omega, fun _ => hq, fun h => by omega⟩⟩
      rw [hkk]
      obtain ⟨b, hb⟩ : ∃ b, b = decide (0 ≤ s.a ∧ s.a ≤ 199) := ⟨_, rfl⟩
      have q := ref03_in_ok s.a 199
      rw [← hb] at q
      refine awp_regc ⟨106, [(2, .B (decide (K2 s)))], [], 420⟩ rfl ?_ ?_
      · simp
        refine call0e q rfl ?_
        cases b
        · have e : decide (K2 s) = false := decide_eq_false fun hq => by rw [decide_eq_true hq.1] at hb; cases hb
          simp [e]
          exact Le.snap [] rfl rfl (by simp)
        · have e0 := of_decide_eq_true hb.symm
          have e : decide (K2 s) = decide (s.b = 0 ∧ s.c = 0) := by
            rw [Bool.eq_iff_iff, decide_eq_true_eq, decide_eq_true_eq]
            exact ⟨fun hq => hq.2, fun hq => ⟨e0, hq⟩⟩
          rw [e]
          by_cases c2 : s.b = 0
          · have c2' : (s.b == 0) = true := by simp [c2]
            simp [c2']
            exact Le.snap [] rfl rfl (by simp <;> exact wkB (by rw [Bool.eq_iff_iff]; simp [c2]))
          · have c2' : (s.b == 0) = false := by simp [c2]
            simp [c2']
            exact Le.snap [] rfl rfl (by simp [c2])
      refine awp_ret ?_
      exact ⟨.inr rfl, RetOk.one (by simp)⟩
    simp only [decide_eq_false_iff_not] at h2
    refine awp_regc ⟨106, [(1, .pv (sC s)), (41, .I s.ki), (91, .B (decide (s.ki = 3)))], [], 320⟩ rfl ?_ ?_
    · simp
      exact Le.snap [] rfl rfl (by simp <;> exact wkB (by rw [Bool.eq_iff_iff]; simp))
    refine awp_cond _ rfl (fun h3 => ?_) fun h3 => awp_skip ?_
    · simp only [decide_eq_true_eq] at h3
      have hkk : decide (KindOk s) = decide (K3 s) := by
        rw [Bool.eq_iff_iff, decide_eq_true_eq, decide_eq_true_eq]
        exact ⟨fun hq => hq.2.2 h3, fun hq => ⟨fun h => by omega, fun h => by omega, fun _ => hq⟩⟩
      rw [hkk]
      have e : decide (K3 s) = decide (s.a = 0 ∧ s.b = 0 ∧ s.c = 0) := rfl
      rw [e]
      refine awp_regc ⟨106, [(2, .B (decide (s.a = 0 ∧ s.b = 0 ∧ s.c = 0)))], [], 440⟩ rfl ?_ ?_
      · by_cases c1 : s.a = 0
        · have c1' : (s.a == 0) = true := by simp [c1]
          by_cases c2 : s.b = 0
          · have c2' : (s.b == 0) = true := by simp [c2]
            simp [c1', c2']
            exact Le.snap [] rfl rfl (by simp <;> exact wkB (by rw [Bool.eq_iff_iff]; simp [c1, c2]))
          · have c2' : (s.b == 0) = false := by simp [c2]
            simp [c1', c2']
            exact Le.snap [] rfl rfl (by simp [c2])
        · have c1' : (s.a == 0) = false := by simp [c1]
          simp [c1']
          exact Le.snap [] rfl rfl (by simp [c1])
      refine awp_ret ?_
      exact ⟨.inr rfl, RetOk.one (by simp)⟩
    simp only [decide_eq_false_iff_not] at h3
    exact ⟨(), ⟨fun h => absurd h h1, fun h => absurd h h2, fun h => absurd h h3⟩, Le.snap [] rfl rfl (by simp)⟩
  rw [decide_eq_true hok]
  refine awp_seq ?_
  refine awp_run (s := ?s9) rfl ?o9 ?q9
  case o9 => simp; rfl
  refine awp_ret ?_
  exact ⟨.inr rfl, RetOk.one (by simp)⟩
end Go.Proofs.YtnlanlpbgcalcaaGreat
namespace Go.Proofs.YtnlanlpbgcalcaaGreat
open Go
set_option maxHeartbeats 1000000 in
set_option maxRecDepth 100000 in
theorem ref03_Copy_ok (s : Stm) (h1 : s.li.length ≤ 1000000) (h2 : s.pi.length ≤ 1000000) : ACalls Tryz.prog nref03_Copy [eS s] [] (eS s) [] := by
  refine sref03_Copy.acalls (Nat.le_of_ble_eq_true rfl) (Nat.le_of_ble_eq_true rfl) (Nat.zero_le _) ?_
  show awp _ 0 _ _ ⟨12, [(0, eS s)], [], 16⟩
  refine awp_seq ?_
  refine awp_run (s := ?s0) rfl ?o0 ?q0
  case o0 => simp; rfl
  refine awp_seq ?_
  refine awp_run (s := ?s1) rfl ?o1 ?q1
  case o1 => simp [splice]; repeat' apply And.intro
             all_goals first | omega | rfl
  refine awp_seq ?_
  refine awp_run (s := ?s2) rfl ?o2 ?q2
  case o2 => simp [splice]; repeat' apply And.intro
             all_goals first | omega | rfl
  refine awp_seq ?_
  refine awp_run (s := ?s3) rfl ?o3 ?q3
  case o3 => simp [splice]; rfl
  refine awp_ret ?_
  refine ⟨.inr rfl, ?_⟩
  show RetOk [(2, some (true, 13))] 0 _ _ _
  refine RetOk.out (vs := [.agg [.I s.au, .I s.nu, .sc (.string s.pr), .I s.ti, .I s.ki, .I s.a, .I s.b, .I s.c, .rs 48 0 s.li.length, .rs 88 0 s.pi.length, .sc (.string s.bo), .I s.sk, .sc (.string s.sd)]]) [] [48, 88] (by simp) (by simp) (by simp) ?_ (by simp)
  simp [Function.comp_def, take_map_len]
set_option maxHeartbeats 1000000 in
set_option maxRecDepth 100000 in
theorem ref03_Seal_ok (s : Stm) (hs : StB s) : ACalls Tryz.prog nref03_Seal [eS s] [] (eS { s with sk := s.au, sd := digS s }) [] := by
  refine sref03_Seal.acalls (Nat.le_of_ble_eq_true rfl) (Nat.le_of_ble_eq_true rfl) (Nat.zero_le _) ?_
  show awp _ 0 _ _ ⟨12, [(0, eS s)], [], 16⟩
  have hb3 := hs.2.2.1
  have hb4 := hs.2.2.2.1
  refine awp_seq ?_
  refine awp_run (s := ?s0) rfl ?o0 ?q0
  case o0 => simp; rfl
  refine awp_seq ?_
  refine awp_run (s := ?s1) rfl ?o1 ?q1
  case o1 => simp; refine call0e (ref03_Copy_ok s (by omega) (by omega)) (by simp) ?_; simp [splice]; rfl
  refine awp_seq ?_
  refine awp_drun (s := ?s2) (tr := ?t2) rfl ?o2 ?r2 ?q2
  case o2 => simp; refine call0e (ref03_Digest_ok s hs) (by simp) ?_; simp [splice]; constructor <;> rfl
  case r2 => rfl
  refine awp_seq ?_
  refine awp_run (s := ?s3) rfl ?o3 ?q3
  case o3 => simp [splice]; rfl
  refine awp_ret ?_
  refine ⟨.inr rfl, ?_⟩
  show RetOk [(2, some (true, 13))] 0 _ _ _
  refine RetOk.out (vs := [eS { s with sk := s.au, sd := digS s }]) [] [] (by simp) (by simp) (by simp) ?_ (by simp)
  simp
set_option maxRecDepth 100000 in
theorem ref03_Sealed_ok (s : Stm) (hs : StB s) : ACalls Tryz.prog nref03_Sealed [eS s] [] (.B (decide (s.sk = s.au ∧ s.sd.toList = (digS s).toList))) [] := by
  refine sref03_Sealed.acalls (Nat.le_of_ble_eq_true rfl) (Nat.le_of_ble_eq_true rfl) (Nat.zero_le _) ?_
  show awp _ 0 _ _ ⟨17, [(0, eS s)], [], 16⟩
  refine awp_regc ⟨17, [(1, .pv (sC s))], [], 32⟩ rfl ?_ ?_
  · simp
    exact Le.snap [16] rfl rfl (by simp)
  refine awp_dregc ⟨17, [(2, .B (decide (s.sk = s.au ∧ s.sd.toList = (digS s).toList)))], [], 152⟩ rfl ?_ ?_
  · by_cases c : s.sk = s.au
    · have c' : (s.sk == s.au) = true := by simp [c]
      simp [c']
      refine call0e (ref03_Digest_ok s hs) (by simp) ?_
      simp
      exact ⟨rfl, Le.snap [] rfl rfl (by simp <;> exact wkB (by rw [Bool.eq_iff_iff]; simp [c]))⟩
    · have c' : (s.sk == s.au) = false := by simp [c]
      simp [c']
      exact ⟨rfl, Le.snap [] rfl rfl (by simp [c])⟩
  refine awp_ret ?_
  exact ⟨.inr rfl, RetOk.one (by simp)⟩
def Limited (s : Stm) : Prop := s.li.length ≤ 64 ∧ s.pi.length ≤ 64 ∧ s.bo.size ≤ 4096
def Formed (s : Stm) : Prop := (s.nu = 0 → s.pr.toList = []) ∧ (0 < s.nu → s.pr.size = 32) ∧ PinsOk s.pi
def Plainly (s : Stm) : Prop := s.ki ≤ 3 → s.li.length = 0 ∧ s.pi.length = 0 ∧ s.bo.toList = []
def KindR (s : Stm) : Prop := 1 ≤ s.ki ∧ (s.ki ≤ 3 ∨ 10 ≤ s.ki) ∧ s.ki ≤ 31
def AuR (s : Stm) : Prop := 0 ≤ s.au ∧ s.au < 64
def TiR (s : Stm) : Prop := 0 ≤ s.ti ∧ s.ti ≤ 2147483648
instance (s : Stm) : Decidable (AuR s) := by unfold AuR; infer_instance
instance (s : Stm) : Decidable (TiR s) := by unfold TiR; infer_instance
instance (s : Stm) : Decidable (KindR s) := by unfold KindR; infer_instance
instance (s : Stm) : Decidable (Limited s) := by unfold Limited; infer_instance
instance (s : Stm) : Decidable (Plainly s) := by unfold Plainly; infer_instance
def StOk (s : Stm) : Prop := AuR s ∧ KindR s ∧ TiR s ∧ NumOk s ∧ Limited s ∧ Formed s ∧ Plainly s
def errB : Bool → Bool → Bool → Bool → Bool → Bool → Bool → Int
  | false, _, _, _, _, _, _ => 4
  | _, false, _, _, _, _, _ => 5
  | _, _, false, _, _, _, _ => 9
  | _, _, _, false, _, _, _ => 2
  | _, _, _, _, false, _, _ => 3
  | _, _, _, _, _, false, _ => 1
  | _, _, _, _, _, _, false => 1
  | true, true, true, true, true, true, true => 0
open Classical in
set_option maxHeartbeats 2000000 in
set_option maxRecDepth 100000 in
theorem check_ok (s : Stm) (h1 : s.li.length ≤ 1000000) (h2 : s.pi.length ≤ 1000000) (b1 b2 b3 b4 b5 b6 b7 : Bool) (hb1 : b1 = decide (AuR s)) (hb2 : b2 = decide (KindR s)) (hb3 : b3 = decide (TiR s)) (hb4 : b4 = decide (NumOk s)) (hb5 : b5 = decide (Limited s)) (hb6 : b6 = decide (Formed s)) (hb7 : b7 = decide (Plainly s)) :
    ACalls Tryz.prog nref03_Check [eS s] [] (.I (errB b1 b2 b3 b4 b5 b6 b7)) [] := by
  refine sref03_Check.acalls (Nat.le_of_ble_eq_true rfl) (Nat.le_of_ble_eq_true rfl) (Nat.le_refl _) ?_
  show awp _ 0 _ _ ⟨100, [(0, eS s)], [], 16⟩
  refine awp_regc ⟨100, [(1, .pv (sC s))], [], 32⟩ rfl ?_ ?_
  · simp
    exact Le.snap [16] rfl rfl (by simp)
  refine awp_cut (ι := Unit) (fun _ => ⟨100, [], [], 1000⟩) (fun _ => b1 = true ∧ b2 = true ∧ b3 = true ∧ b4 = true ∧ b5 = true ∧ b6 = true ∧ b7 = true) ?_ ?_
  · refine awp_block ?_
    have k1 := ref03_key_ok s.au
    rw [show decide (0 ≤ s.au ∧ s.au < 64) = b1 by rw [hb1]; rfl] at k1
    refine awp_regc ⟨100, [(1, .pv (sC s)), (3, .B (!b1))], [], 72⟩ rfl ?_ ?_
    · simp
      refine call0e k1 rfl ?_
      simp
      exact Le.snap [] rfl rfl (by simp)
    refine awp_cond _ rfl (fun h => ?_) fun h => ?_
    · obtain rfl : b1 = false := by simpa using h
      refine awp_seq ?_
      refine awp_run (s := ?s1) rfl ?o1 ?q1
      case o1 => simp; rfl
      refine awp_ret ?_
      exact ⟨.inr rfl, RetOk.one (by simp [errB])⟩
    obtain rfl : b1 = true := by simpa using h
    clear h k1
    refine awp_regc ⟨100, [(1, .pv (sC s)), (8, .B (!b2))], [], 224⟩ rfl ?_ ?_
    · by_cases c1 : s.ki < 1
      · have e : b2 = false := by rw [hb2]; exact decide_eq_false fun hq => by have := hq.1; omega
        simp [c1, e]
        exact Le.snap [] rfl rfl (by simp)
      by_cases c2 : 3 < s.ki
      · by_cases c3 : s.ki < 10
        · have e : b2 = false := by rw [hb2]; exact decide_eq_false fun hq => by have := hq.2.1; omega
          simp [c1, c2, c3, e]
          exact Le.snap [] rfl rfl (by simp)
        · have e : b2 = decide (s.ki ≤ 31) := by
            rw [hb2, Bool.eq_iff_iff, decide_eq_true_eq, decide_eq_true_eq]
            exact ⟨fun hq => hq.2.2, fun hq => ⟨by omega, .inr (by omega), hq⟩⟩
          simp [c1, c2, c3, e]
          exact Le.snap [] rfl rfl (by simp <;> exact wkB (by rw [Bool.eq_iff_iff]; simp))
      · have e : b2 = true := by rw [hb2]; exact decide_eq_true ⟨by omega, .inl (by omega), by omega⟩
        have c4 : ¬ 31 < s.ki := by omega
        simp [c1, c2, c4, e]
        exact Le.snap [] rfl rfl (by simp)
    refine awp_cond _ rfl (fun h => ?_) fun h => ?_
    · obtain rfl : b2 = false := by simpa using h
      refine awp_seq ?_
      refine awp_run (s := ?s2) rfl ?o2 ?q2
      case o2 => simp; rfl
      refine awp_ret ?_
      exact ⟨.inr rfl, RetOk.one (by simp [errB])⟩
    obtain rfl : b2 = true := by simpa using h
    clear h
    have k3 := ref03_in_ok s.ti 2147483648
    rw [show decide (0 ≤ s.ti ∧ s.ti ≤ 2147483648) = b3 by rw [hb3]; rfl] at k3
    refine awp_regc ⟨100, [(1, .pv (sC s)), (27, .B (!b3))], [], 264⟩ rfl ?_ ?_
    · simp
      refine call0e k3 rfl ?_
      simp
      exact Le.snap [] rfl rfl (by simp)
    refine awp_cond _ rfl (fun h => ?_) fun h => ?_
    · obtain rfl : b3 = false := by simpa using h
      refine awp_seq ?_
      refine awp_run (s := ?s3) rfl ?o3 ?q3
      case o3 => simp; rfl
      refine awp_ret ?_
      exact ⟨.inr rfl, RetOk.one (by simp [errB])⟩
    obtain rfl : b3 = true := by simpa using h
    clear h k3
    have k4 := ref03_numbers_ok s h1
    rw [show decide (NumOk s) = b4 by rw [hb4]] at k4
    refine awp_regc ⟨100, [(1, .pv (sC s)), (32, .B (!b4))], [], 296⟩ rfl ?_ ?_
    · simp
      refine call0e k4 (by simp) ?_
      simp
      exact Le.snap [] rfl rfl (by simp)
    refine awp_cond _ rfl (fun h => ?_) fun h => ?_
    · obtain rfl : b4 = false := by simpa using h
      refine awp_seq ?_
      refine awp_run (s := ?s4) rfl ?o4 ?q4
      case o4 => simp; rfl
      refine awp_ret ?_
      exact ⟨.inr rfl, RetOk.one (by simp [errB])⟩
    obtain rfl : b4 = true := by simpa using h
    clear h k4
    refine awp_regc ⟨100, [(1, .pv (sC s)), (36, .B (!b5))], [], 432⟩ rfl ?_ ?_
    · by_cases c1 : (64 : Int) < s.li.length
      · have e : b5 = false := by rw [hb5]; exact decide_eq_false fun hq => by have := hq.1; omega
        simp [c1, e]
        exact Le.snap [] rfl rfl (by simp)
      by_cases c2 : (64 : Int) < s.pi.length
      · have e : b5 = false := by rw [hb5]; exact decide_eq_false fun hq => by have := hq.2.1; omega
        simp [c1, c2, e]
        exact Le.snap [] rfl rfl (by simp)
      · have e : b5 = decide (s.bo.size ≤ 4096) := by
          rw [hb5, Bool.eq_iff_iff, decide_eq_true_eq, decide_eq_true_eq]
          exact ⟨fun hq => hq.2.2, fun hq => ⟨by omega, by omega, hq⟩⟩
        simp [c1, c2, e]
        exact Le.snap [] rfl rfl (by simp <;> exact wkB (by rw [Bool.eq_iff_iff]; simp; omega))
    refine awp_cond _ rfl (fun h => ?_) fun h => ?_
    · obtain rfl : b5 = false := by simpa using h
      refine awp_seq ?_
      refine awp_run (s := ?s5) rfl ?o5 ?q5
      case o5 => simp; rfl
      refine awp_ret ?_
      exact ⟨.inr rfl, RetOk.one (by simp [errB])⟩
    obtain rfl : b5 = true := by simpa using h
    clear h
    obtain ⟨bp, hbp⟩ : ∃ bp, bp = decide (PinsOk s.pi) := ⟨_, rfl⟩
    have k6 := ref03_PinsOK_ok s.pi h2
    rw [← hbp] at k6
    obtain ⟨pb, hpb⟩ : ∃ pb, pb = s.pr.toList.isEmpty := ⟨_, rfl⟩
    have hpb' : pb = true ↔ s.pr.toList = [] := by rw [hpb]; exact List.isEmpty_iff
    refine awp_regc ⟨100, [(1, .pv (sC s)), (53, .B (!b6))], [], 640⟩ rfl ?_ ?_
    · by_cases c1 : s.nu = 0
      · have c1' : (s.nu == 0) = true := by simp [c1]
        have c2 : ¬ 0 < s.nu := by omega
        cases hpv : pb
        · have e : b6 = false := by rw [hb6]; exact decide_eq_false fun hq => by have := hpb'.2 (hq.1 c1); rw [hpv] at this; cases this
          simp [c1', ← hpb, hpv, e]
          exact Le.snap [] rfl rfl (by simp)
        · have e : b6 = bp := by
            rw [hb6, hbp, Bool.eq_iff_iff, decide_eq_true_eq, decide_eq_true_eq]
            exact ⟨fun hq => hq.2.2, fun hq => ⟨fun _ => hpb'.1 hpv, fun h => absurd h c2, hq⟩⟩
          simp [c1', ← hpb, hpv, e, c2]
          refine call0e k6 rfl ?_
          simp
          exact Le.snap [] rfl rfl (by simp)
      · have c1' : (s.nu == 0) = false := by simp [c1]
        by_cases c2 : 0 < s.nu
        · by_cases c3 : (s.pr.size : Int) = 32
          · have c3' : ((s.pr.size : Int) != 32) = false := by simp [c3]
            have e : b6 = bp := by
              rw [hb6, hbp, Bool.eq_iff_iff, decide_eq_true_eq, decide_eq_true_eq]
              exact ⟨fun hq => hq.2.2, fun hq => ⟨fun h => absurd h c1, fun _ => by omega, hq⟩⟩
            simp [c1', c2, c3', e]
            refine call0e k6 rfl ?_
            simp
            exact Le.snap [] rfl rfl (by simp)
          · have c3' : ((s.pr.size : Int) != 32) = true := by simp [c3]
            have e : b6 = false := by rw [hb6]; exact decide_eq_false fun hq => by have := hq.2.1 c2; omega
            simp [c1', c2, c3', e]
            exact Le.snap [] rfl rfl (by simp)
        · have e : b6 = bp := by
            rw [hb6, hbp, Bool.eq_iff_iff, decide_eq_true_eq, decide_eq_true_eq]
            exact ⟨fun hq => hq.2.2, fun hq => ⟨fun h => absurd h c1, fun h => absurd h c2, hq⟩⟩
          simp [c1', c2, e]
          refine call0e k6 rfl ?_
          simp
          exact Le.snap [] rfl rfl (by simp)
    refine awp_cond _ rfl (fun h => ?_) fun h => ?_
    · obtain rfl : b6 = false := by simpa using h
      refine awp_seq ?_
      refine awp_run (s := ?s6) rfl ?o6 ?q6
      case o6 => simp; rfl
      refine awp_ret ?_
      exact ⟨.inr rfl, RetOk.one (by simp [errB])⟩
    obtain rfl : b6 = true := by simpa using h
    clear h k6
    obtain ⟨ob, hob⟩ : ∃ ob, ob = s.bo.toList.isEmpty := ⟨_, rfl⟩
    have hob' : ob = true ↔ s.bo.toList = [] := by rw [hob]; exact List.isEmpty_iff
    refine awp_regc ⟨100, [(1, .pv (sC s)), (79, .B (!b7))], [], 808⟩ rfl ?_ ?_
    · by_cases c1 : s.ki ≤ 3
      · by_cases c2 : (0 : Int) < s.li.length
        · have e : b7 = false := by rw [hb7]; exact decide_eq_false fun hq => by have := (hq c1).1; omega
          simp only [Int.natCast_pos] at c2
          simp [c1, c2, e]
          exact Le.snap [] rfl rfl (by simp)
        by_cases c3 : (0 : Int) < s.pi.length
        · have e : b7 = false := by rw [hb7]; exact decide_eq_false fun hq => by have := (hq c1).2.1; omega
          simp only [Int.natCast_pos] at c2 c3
          simp [c1, c2, c3, e]
          exact Le.snap [] rfl rfl (by simp)
        · have e : b7 = ob := by
            rw [hb7, Bool.eq_iff_iff, decide_eq_true_eq, hob']
            exact ⟨fun hq => (hq c1).2.2, fun hq _ => ⟨by omega, by omega, hq⟩⟩
          simp only [Int.natCast_pos] at c2 c3
          simp [c1, c2, c3, e, ← hob]
          exact Le.snap [] rfl rfl (by simp)
      · have e : b7 = true := by rw [hb7]; exact decide_eq_true fun hq => absurd hq c1
        simp [c1, e]
        exact Le.snap [] rfl rfl (by simp)
    refine awp_cond _ rfl (fun h => ?_) fun h => awp_skip ?_
    · obtain rfl : b7 = false := by simpa using h
      refine awp_seq ?_
      refine awp_run (s := ?s7) rfl ?o7 ?q7
      case o7 => simp; rfl
      refine awp_ret ?_
      exact ⟨.inr rfl, RetOk.one (by simp [errB])⟩
    obtain rfl : b7 = true := by simpa using h
    exact ⟨(), ⟨rfl, rfl, rfl, rfl, rfl, rfl, rfl⟩, Le.snap [] rfl rfl (by simp)⟩
  · rintro _ ⟨rfl, rfl, rfl, rfl, rfl, rfl, rfl⟩
    refine awp_seq ?_
    refine awp_run (s := ?s9) rfl ?o9 ?q9
    case o9 => simp; rfl
    refine awp_ret ?_
    exact ⟨.inr rfl, RetOk.one (by simp [errB])⟩
theorem errB_zero {b1 b2 b3 b4 b5 b6 b7 : Bool} : errB b1 b2 b3 b4 b5 b6 b7 = 0 ↔ b1 = true ∧ b2 = true ∧ b3 = true ∧ b4 = true ∧ b5 = true ∧ b6 = true ∧ b7 = true := by
  cases b1 <;> cases b2 <;> cases b3 <;> cases b4 <;> cases b5 <;> cases b6 <;> cases b7 <;> simp [errB]
open Classical in
theorem ref03_Check_ok (s : Stm) (h1 : s.li.length ≤ 1000000) (h2 : s.pi.length ≤ 1000000) : ∃ e : Int, (e = 0 ↔ StOk s) ∧ ACalls Tryz.prog nref03_Check [eS s] [] (.I e) [] := by
  refine ⟨_, ?_, check_ok s h1 h2 _ _ _ _ _ _ _ rfl rfl rfl rfl rfl rfl rfl⟩
  rw [errB_zero]
  simp only [decide_eq_true_eq]
  rfl
end Go.Proofs.YtnlanlpbgcalcaaGreat
namespace Go.Proofs.YtnlanlpbgcalcaaGreat
open Go
set_option maxHeartbeats 1000000 in
theorem SamePins_refl (l : List Pn) (hl : l.length ≤ 1000000) : ACalls Tryz.prog nref03_SamePins [pns l, pns l] [] (.B true) [] := by
  refine sref03_SamePins.acalls (Nat.le_of_ble_eq_true rfl) (Nat.le_of_ble_eq_true rfl) (Nat.le_refl _) ?_
  show awp _ 0 _ _ ⟨26, [(0, pns l), (1, pns l)], [], 16⟩
  refine awp_regc ⟨26, [(0, pns l), (1, pns l)], [], 24⟩ rfl (by simp; exact Le.snap [] rfl rfl (by simp)) ?_
  refine awp_seq ?_
  refine awp_regc ⟨26, [(0, pns l), (1, pns l), (10, .B false)], [], 64⟩ rfl (by simp; exact Le.snap [] rfl rfl (by simp)) ?_
  refine awp_cond _ rfl (fun h => by cases h) fun _ => awp_skip ?_
  refine awp_seq ?_
  refine awp_regc ⟨26, [(0, pns l), (1, pns l), (5, .I (0 : Nat))], [], 72⟩ rfl (by simp; exact Le.snap [] rfl rfl (by simp)) ?_
  refine awp_block ?_
  refine awp_loop (ι := Nat) (fun k => ⟨26, [(0, pns l), (1, pns l), (5, .I k)], [], 72⟩) (fun k => k ≤ l.length) (fun k => l.length - k) 0 (Nat.zero_le _) (Le.refl _ _) ?_
  intro k hk
  refine awp_seq ?_
  refine awp_regc ⟨26, [(0, pns l), (1, pns l), (5, .I k), (14, .B (decide (k < l.length)))], [], 104⟩ rfl (by simp; exact Le.snap [] rfl rfl (by simp)) ?_
  refine awp_cond _ rfl (fun h => awp_skip ?_) fun h => awp_exit (hit ?_)
  · simp only [decide_eq_true_eq] at h
    have hg : l[k]? = some l[k] := List.getElem?_eq_getElem h
    generalize l[k] = p at *
    have hwk : IntKind.i64.wrap ((k : Int) + 1) = ((k + 1 : Nat) : Int) := by rw [w64 (by omega) (by omega)]; omega
    refine awp_cut (ι := Unit) (fun _ => ⟨26, [(0, pns l), (1, pns l), (5, .I k)], [], 200⟩) (fun _ => True) ?_ fun _ _ => ?_
    · refine awp_block ?_
      refine awp_dregc ⟨26, [(0, pns l), (1, pns l), (5, .I k), (25, .B false)], [], 176⟩ rfl ?_ ?_
      · simp [hg]
        exact ⟨rfl, Le.snap [] rfl rfl (by simp)⟩
      refine awp_cond _ rfl (fun h => by cases h) fun _ => awp_skip ?_
      exact ⟨(), trivial, Le.snap [] rfl rfl (by simp)⟩
    refine awp_reg rfl ?_
    simp [hwk]
    exact ⟨k + 1, by omega, by omega, Le.snap [] rfl rfl (by simp)⟩
  refine awp_seq ?_
  refine awp_run (s := ?s9) rfl ?o9 ?q9
  case o9 => simp; rfl
  refine awp_ret ?_
  exact ⟨.inr rfl, RetOk.one (by simp)⟩
set_option maxHeartbeats 2000000 in
set_option maxRecDepth 100000 in
theorem Same_refl (s : Stm) (h1 : s.li.length ≤ 1000000) (h2 : s.pi.length ≤ 1000000) : ACalls Tryz.prog nref03_Same [eS s, eS s] [] (.B true) [] := by
  refine sref03_Same.acalls (Nat.le_of_ble_eq_true rfl) (Nat.le_of_ble_eq_true rfl) (Nat.le_refl _) ?_
  show awp _ 0 _ _ ⟨87, [(0, eS s), (1, eS s)], [], 16⟩
  refine awp_regc ⟨87, [(2, .pv (sC s)), (3, .pv (sC s))], [], 40⟩ rfl ?_ ?_
  · simp
    exact Le.snap [16, 24] rfl rfl (by simp)
  refine awp_regc ⟨87, [(4, .B true)], [], 800⟩ rfl ?_ ?_
  · simp
    refine call0e (SameInts_ok s.li s.li (by omega)) rfl ?_
    simp
    refine call0e (SamePins_refl s.pi (by omega)) rfl ?_
    simp
    exact Le.snap [] rfl rfl (by simp)
  refine awp_ret ?_
  exact ⟨.inr rfl, RetOk.one (by simp)⟩
set_option maxHeartbeats 1000000 in
theorem SameList_refl (l : List Stm) (hl : l.length ≤ 1000000) (hb : ∀ s ∈ l, s.li.length ≤ 1000000 ∧ s.pi.length ≤ 1000000) : ACalls Tryz.prog nref03_SameList [sts l, sts l] [] (.B true) [] := by
  refine sref03_SameList.acalls (Nat.le_of_ble_eq_true rfl) (Nat.le_of_ble_eq_true rfl) (Nat.le_refl _) ?_
  show awp _ 0 _ _ ⟨27, [(0, sts l), (1, sts l)], [], 16⟩
  refine awp_regc ⟨27, [(0, sts l), (1, sts l)], [], 24⟩ rfl (by simp; exact Le.snap [] rfl rfl (by simp)) ?_
  refine awp_seq ?_
  refine awp_regc ⟨27, [(0, sts l), (1, sts l), (10, .B false)], [], 64⟩ rfl (by simp; exact Le.snap [] rfl rfl (by simp)) ?_
  refine awp_cond _ rfl (fun h => by cases h) fun _ => awp_skip ?_
  refine awp_seq ?_
  refine awp_regc ⟨27, [(0, sts l), (1, sts l), (5, .I (0 : Nat))], [], 72⟩ rfl (by simp; exact Le.snap [] rfl rfl (by simp)) ?_
  refine awp_block ?_
  refine awp_loop (ι := Nat) (fun k => ⟨27, [(0, sts l), (1, sts l), (5, .I k)], [], 72⟩) (fun k => k ≤ l.length) (fun k => l.length - k) 0 (Nat.zero_le _) (Le.refl _ _) ?_
  intro k hk
  refine awp_seq ?_
  refine awp_regc ⟨27, [(0, sts l), (1, sts l), (5, .I k), (14, .B (decide (k < l.length)))], [], 104⟩ rfl (by simp; exact Le.snap [] rfl rfl (by simp)) ?_
  refine awp_cond _ rfl (fun h => awp_skip ?_) fun h => awp_exit (hit ?_)
  · simp only [decide_eq_true_eq] at h
    have hg : l[k]? = some l[k] := List.getElem?_eq_getElem h
    have hbk := hb l[k] (List.getElem_mem h)
    generalize l[k] = p at *
    have hwk : IntKind.i64.wrap ((k : Int) + 1) = ((k + 1 : Nat) : Int) := by rw [w64 (by omega) (by omega)]; omega
    refine awp_cut (ι := Unit) (fun _ => ⟨27, [(0, sts l), (1, sts l), (5, .I k)], [], 200⟩) (fun _ => True) ?_ fun _ _ => ?_
    · refine awp_block ?_
      refine awp_dregc ⟨27, [(0, sts l), (1, sts l), (5, .I k), (26, .B false)], [], 184⟩ rfl ?_ ?_
      · simp [hg]
        refine call0e (Same_refl p hbk.1 hbk.2) (by simp) ?_
        simp
        exact ⟨rfl, Le.snap [] rfl rfl (by simp)⟩
      refine awp_cond _ rfl (fun h => by cases h) fun _ => awp_skip ?_
      exact ⟨(), trivial, Le.snap [] rfl rfl (by simp)⟩
    refine awp_reg rfl ?_
    simp [hwk]
    exact ⟨k + 1, by omega, by omega, Le.snap [] rfl rfl (by simp)⟩
  refine awp_seq ?_
  refine awp_run (s := ?s9) rfl ?o9 ?q9
  case o9 => simp; rfl
  refine awp_ret ?_
  exact ⟨.inr rfl, RetOk.one (by simp)⟩
def FollowsP (a b : Stm) : Prop := b.au = a.au ∧ b.nu = a.nu + 1 ∧ b.pr.toList = (digS a).toList ∧ a.ti ≤ b.ti
instance (a b : Stm) : Decidable (FollowsP a b) := by unfold FollowsP; infer_instance
set_option maxHeartbeats 1000000 in
set_option maxRecDepth 100000 in
theorem ref04_Follows_ok (a b : Stm) (hs : StB a) (hn : a.nu ≤ 1000000) (hn0 : -1 ≤ a.nu) : ACalls Tryz.prog nref04_Follows [eS a, eS b] [] (.B (decide (FollowsP a b))) [] := by
  refine sref04_Follows.acalls (Nat.le_of_ble_eq_true rfl) (Nat.le_of_ble_eq_true rfl) (Nat.le_refl _) ?_
  show awp _ 0 _ _ ⟨39, [(0, eS a), (1, eS b)], [], 16⟩
  refine awp_regc ⟨39, [(2, .pv (sC a)), (3, .pv (sC b))], [], 40⟩ rfl ?_ ?_
  · simp
    exact Le.snap [16, 24] rfl rfl (by simp)
  have hw : IntKind.i64.wrap (a.nu + 1) = a.nu + 1 := w64 (by omega) (by omega)
  obtain ⟨r, hr⟩ : ∃ r, r = decide (FollowsP a b) := ⟨_, rfl⟩
  rw [← hr]
  refine awp_dregc ⟨39, [(4, .B r)], [], 320⟩ rfl ?_ ?_
  · by_cases c1 : b.au = a.au
    · have c1' : (b.au == a.au) = true := by simp [c1]
      by_cases c2 : a.nu < b.nu
      · by_cases c3 : b.nu = a.nu + 1
        · have c3' : (b.nu == a.nu + 1) = true := by simp [c3]
          obtain ⟨d, hd⟩ : ∃ d, d = (b.pr.toList == (digS a).toList) := ⟨_, rfl⟩
          have hd' : d = true ↔ b.pr.toList = (digS a).toList := by rw [hd]; exact beq_iff_eq
          simp [c1', c2, hw, c3']
          refine call0e (ref03_Digest_ok a hs) (by simp) ?_
          cases d
          · have e : r = false := by rw [hr]; exact decide_eq_false fun hq => by have := hd'.2 hq.2.2.1; cases this
            simp [← hd, e]
            exact ⟨rfl, Le.snap [] rfl rfl (by simp)⟩
          · have e : r = decide (a.ti ≤ b.ti) := by
              rw [hr, Bool.eq_iff_iff, decide_eq_true_eq, decide_eq_true_eq]
              exact ⟨fun hq => hq.2.2.2, fun hq => ⟨c1, c3, hd'.1 rfl, hq⟩⟩
            simp [← hd, e]
            exact ⟨rfl, Le.snap [] rfl rfl (by simp)⟩
        · have c3' : (b.nu == a.nu + 1) = false := by simp [c3]
          have e : r = false := by rw [hr]; exact decide_eq_false fun hq => c3 hq.2.1
          simp [c1', c2, hw, c3', e]
          exact ⟨rfl, Le.snap [] rfl rfl (by simp)⟩
      · have e : r = false := by rw [hr]; exact decide_eq_false fun hq => by have := hq.2.1; omega
        simp [c1', c2, e]
        exact ⟨rfl, Le.snap [] rfl rfl (by simp)⟩
    · have c1' : (b.au == a.au) = false := by simp [c1]
      have e : r = false := by rw [hr]; exact decide_eq_false fun hq => c1 hq.1
      simp [c1', e]
      exact ⟨rfl, Le.snap [] rfl rfl (by simp)⟩
  refine awp_ret ?_
  exact ⟨.inr rfl, RetOk.one (by simp)⟩
end Go.Proofs.YtnlanlpbgcalcaaGreat
namespace Go.Proofs.YtnlanlpbgcalcaaGreat
open Go
structure StAt (au : Int) (i : Nat) (s : Stm) : Prop where
  ok : StOk s
  b : StB s
  au_ : s.au = au
  nu_ : s.nu = i
  sk_ : s.sk = s.au
  sd_ : s.sd.toList = (digS s).toList
structure StNx (a b : Stm) : Prop where
  pr_ : b.pr.toList = (digS a).toList
  ti_ : a.ti ≤ b.ti
  ki_ : a.ki ≠ 3
def Chain (au : Int) (l : List Stm) : Prop := (∀ i (h : i < l.length), StAt au i l[i]) ∧ ∀ i (h : i + 1 < l.length), StNx l[i] l[i + 1]
theorem sts_flat (l : List Stm) (ρ sn h m) : (l.map sC).map (List.map (conv ρ sn h (m + 1))) = l.map sC := by simp [Function.comp_def]
theorem Le.Z1 {st st' : St} {z : Nat} {X : List (List AV)} (hflat : ∀ ρ sn h m, X.map (List.map (conv ρ sn h (m + 1))) = X) (i j : Nat) (sn : List Nat) (hsz : st'.sz = st.sz) (hh : st'.h = [(j, some ⟨z, X, 0⟩)]) (hi : j < st'.n) (hs : ∀ j ∈ sn, j ≠ i) (h0 : st.hp i = some ⟨z, X, 0⟩)
    (ht : ∀ p ∈ st'.t, Wk (conv [(i, j)] sn st.hp 4 (st.get p.1)) p.2) : Le 0 st st' :=
  Le.ren1 i j sn hsz hh hi hs h0 (by simp only [convE, hflat]) (Nat.zero_le _) ht
set_option maxHeartbeats 4000000 in
set_option maxRecDepth 100000 in
theorem Own_chain (au : Int) (l : List Stm) (hc : Chain au l) (hl : l.length ≤ 1000) : ACalls Tryz.prog nref04_Own [.I au, sts l] [] (.rs 0 0 l.length) [some ⟨13, l.map sC, 0⟩] := by
  refine sref04_Own.acalls (Nat.le_of_ble_eq_true rfl) (Nat.le_of_ble_eq_true rfl) (Nat.zero_le _) ?_
  show awp _ 0 _ _ ⟨96, [(0, .I au), (1, sts l)], [], 16⟩
  refine awp_regc ⟨96, [(0, .I au), (1, sts l)], [], 24⟩ rfl (by simp; exact Le.snap [] rfl rfl (by simp)) ?_
  refine awp_regc ⟨96, [(0, .I au), (1, sts l), (5, .sc (.slice none 0 0))], [], 32⟩ rfl (by simp; exact Le.snap [] rfl rfl (by simp)) ?_
  refine awp_seq ?_
  refine awp_regc ⟨96, [(0, .I au), (1, sts l), (5, .sc (.slice none 0 0)), (6, .I (0 : Nat))], [], 40⟩ rfl (by simp; exact Le.snap [] rfl rfl (by simp)) ?_
  let Y : Nat → List (List AV) := fun i => (l.take i).map sC
  have hYl : ∀ i, i ≤ l.length → (Y i).length = i := fun i hi => by simp [Y]; omega
  have hYf : ∀ i ρ sn h m, (Y i).map (List.map (conv ρ sn h (m + 1))) = Y i := fun i => sts_flat _
  have hYs : ∀ i (h : i < l.length), Y (i + 1) = Y i ++ [sC l[i]] := fun i h => by
    simp only [Y]
    rw [List.take_succ_eq_append_getElem h, List.map_append]
    rfl
  have hYg : ∀ i k (h : k < l.length), k < i → (Y i)[k]? = some (sC l[k]) := fun i k h hk => by
    simp only [Y]
    rw [List.getElem?_map, List.getElem?_take, if_pos hk, List.getElem?_eq_getElem h]
    rfl
  have hYn : Y l.length = l.map sC := by simp only [Y]; rw [List.take_length]
  have hY0 : Y 0 = [] := rfl
  clear_value Y
  refine awp_block ?_
  refine awp_loop (ι := Nat) (fun i => ⟨96, [(0, .I au), (1, sts l), (5, .rs 16 0 i), (6, .I i)], [(16, some ⟨13, Y i, 0⟩)], 40⟩) (fun i => i ≤ l.length) (fun i => l.length - i) 0 (Nat.zero_le _) (Le.lst [] [] [(16, 13)] rfl (by simp) (by simp) (by simp) (by simp) (by simp) (by simp) (by simp) (by simp [Up]) (by simp [hY0])) ?_
  intro i hi
  refine awp_seq ?_
  refine awp_regc ⟨96, [(0, .I au), (1, sts l), (5, .rs 16 0 i), (6, .I i), (12, .B (decide (i < l.length)))], [(16, some ⟨13, Y i, 0⟩)], 72⟩ rfl ?_ ?_
  · simp
    exact Le.keep rfl (Nat.le_refl _) (by simp) (by simp)
  refine awp_cond _ rfl (fun h => awp_skip ?_) fun h => awp_exit (hit ?_)
  · simp only [decide_eq_true_eq] at h
    refine awp_cut (ι := Unit) (fun _ => ⟨96, [(0, .I au), (1, sts l), (5, .rs 16 0 (i + 1)), (6, .I i)], [(16, some ⟨13, Y (i + 1), 0⟩)], 800⟩) (fun _ => True) ?_ fun _ _ => ?_
    · have hat := hc.1 i h
      have hg : l[i]? = some l[i] := List.getElem?_eq_getElem h
      have hkth : ∀ k, k < i → ∃ p : Stm, (Y i)[k]? = some (sC p) ∧ p.nu = k := fun k hk => ⟨l[k]'(by omega), hYg i k (by omega) hk, (hc.1 k (by omega)).nu_⟩
      rw [hYs i h]
      generalize l[i] = s at *
      obtain ⟨hok, hsb, hau, hnu, hsk, hsd⟩ := hat
      obtain ⟨e, he0, hchk⟩ := ref03_Check_ok s (by have := hsb.2.2.1; omega) (by have := hsb.2.2.2.1; omega)
      obtain rfl : e = 0 := he0.2 hok
      have hsl := ref03_Sealed_ok s hsb
      rw [decide_eq_true (show s.sk = s.au ∧ s.sd.toList = (digS s).toList from ⟨hsk, hsd⟩)] at hsl
      have hcp := ref03_Copy_ok s (by have := hsb.2.2.1; omega) (by have := hsb.2.2.2.1; omega)
      have hXl := hYl i hi
      have hXf := hYf i
      generalize Y i = X at *
      have haue : (s.au != au) = false := by simp [hau]
      refine awp_block ?_
      refine awp_regc ⟨96, [(0, .I au), (1, sts l), (5, .rs 16 0 i), (6, .I i), (7, .pv (sC s))], [(16, some ⟨13, X, 0⟩)], 120⟩ rfl ?_ ?_
      · simp [hg, splice]
        exact Le.Z1 hXf 16 16 [104] rfl rfl (by simp) (by simp) rfl (by simp)
      refine awp_seq ?_
      refine awp_regc ⟨96, [(0, .I au), (1, sts l), (5, .rs 16 0 i), (6, .I i), (7, .pv (sC s)), (32, .B false)], [(16, some ⟨13, X, 0⟩)], 232⟩ rfl ?_ ?_
      · simp [haue]
        refine call0e hchk (by simp) ?_
        simp
        refine call0e hsl (by simp) ?_
        simp
        exact Le.keep rfl (Nat.le_refl _) (by simp) (by simp)
      refine awp_cond _ rfl (fun h => by cases h) fun _ => awp_skip ?_
      refine awp_regc ⟨96, [(0, .I au), (1, sts l), (5, .rs 16 0 i), (6, .I i), (7, .pv (sC s)), (8, .I (0 : Nat))], [(16, some ⟨13, X, 0⟩)], 240⟩ rfl ?_ ?_
      · simp
        exact Le.keep rfl (Nat.le_refl _) (by simp) (by simp)
      refine awp_seq ?_
      refine awp_block ?_
      refine awp_loop (ι := Nat) (fun k => ⟨96, [(0, .I au), (1, sts l), (5, .rs 16 0 i), (6, .I i), (7, .pv (sC s)), (8, .I k)], [(16, some ⟨13, X, 0⟩)], 240⟩) (fun k => k ≤ i) (fun k => i - k) 0 (Nat.zero_le _) (Le.refl _ _) ?_
      intro k hk
      refine awp_seq ?_
      refine awp_dregc ⟨96, [(0, .I au), (1, sts l), (5, .rs 16 0 i), (6, .I i), (7, .pv (sC s)), (8, .I k), (68, .B (decide (k < i)))], [(16, some ⟨13, X, 0⟩)], 528⟩ rfl ?_ ?_
      · by_cases hki : k < i
        · obtain ⟨p, hp1, hp2⟩ := hkth k hki
          have hlt : p.nu < s.nu := by omega
          simp [hki, hp1, hlt]
          exact ⟨rfl, Le.keep rfl (Nat.le_refl _) (by simp) (by simp)⟩
        · simp [hki]
          exact ⟨rfl, Le.keep rfl (Nat.le_refl _) (by simp) (by simp)⟩
      refine awp_cond _ rfl (fun h4 => awp_skip ?_) fun h4 => awp_exit (hit ?_)
      · simp only [decide_eq_true_eq] at h4
        have hwk : IntKind.i64.wrap ((k : Int) + 1) = ((k + 1 : Nat) : Int) := by rw [w64 (by omega) (by omega)]; omega
        refine awp_block ?_
        refine awp_reg rfl ?_
        simp [hwk]
        exact ⟨k + 1, by omega, by omega, Le.Z1 hXf 16 16 [] rfl rfl (by simp) (by simp) rfl (by simp)⟩
      simp only [decide_eq_false_iff_not] at h4
      obtain rfl : k = i := by omega
      refine awp_seq ?_
      refine awp_dregc ⟨96, [(0, .I au), (1, sts l), (5, .rs 16 0 k), (6, .I k), (7, .pv (sC s)), (8, .I k), (82, .B false)], [(16, some ⟨13, X, 0⟩)], 624⟩ rfl ?_ ?_
      · simp
        exact ⟨rfl, Le.keep rfl (Nat.le_refl _) (by simp) (by simp)⟩
      refine awp_cond _ rfl (fun h => by cases h) fun _ => awp_skip ?_
      have htk : List.take k X = X := List.take_of_length_le (by omega)
      have hdr : List.drop k X = [] := List.drop_eq_nil_of_le (by omega)
      have hXf2 : ∀ ρ sn h m, (X ++ [sC s]).map (List.map (conv ρ sn h (m + 1))) = X ++ [sC s] := fun ρ sn h m => by rw [List.map_append, hXf]; simp
      refine awp_drw rfl ?_
      simp [hXl, htk, hdr]
      refine ⟨by omega, by omega, ?_⟩
      refine call0e hcp (by simp) ?_
      simp [hXl, htk, hdr]
      repeat' apply And.intro
      all_goals first | omega | rfl | exact Le.Z1 hXf2 712 16 [] rfl rfl (by simp) (by simp) (by simp [htk, hXl] <;> exact List.take_of_length_le (by simp [hXl])) (by simp)
    have hwi : IntKind.i64.wrap ((i : Int) + 1) = ((i + 1 : Nat) : Int) := by rw [w64 (by omega) (by omega)]; omega
    refine awp_reg rfl ?_
    simp [hwi]
    exact ⟨i + 1, by omega, by omega, Le.Z1 (hYf (i + 1)) 16 16 [] rfl rfl (by simp) (by simp) rfl (by simp)⟩
  simp only [decide_eq_false_iff_not] at h
  obtain rfl : i = l.length := by omega
  rw [hYn]
  refine awp_seq ?_
  refine awp_run (s := ?z9) rfl ?p9 ?r9
  case p9 => simp; rfl
  refine awp_ret ?_
  exact ⟨.inr rfl, RetOk.out [16] [] rfl (by simp) (by simp) (by simp) (by simp [Function.comp_def])⟩
set_option maxHeartbeats 4000000 in
set_option maxRecDepth 100000 in
theorem Counted_chain (au : Int) (l : List Stm) (hc : Chain au l) (hl : l.length ≤ 1000) : ACalls Tryz.prog nref04_Counted [.I au, sts l] [] (.rs 0 0 l.length) [some ⟨13, l.map sC, 0⟩] := by
  refine sref04_Counted.acalls (Nat.le_of_ble_eq_true rfl) (Nat.le_of_ble_eq_true rfl) (Nat.zero_le _) ?_
  show awp _ 0 _ _ ⟨76, [(0, .I au), (1, sts l)], [], 16⟩
  refine awp_regc ⟨76, [(0, .I au), (1, sts l)], [], 24⟩ rfl (by simp; exact Le.snap [] rfl rfl (by simp)) ?_
  refine awp_regc ⟨76, [(5, sts l)], [], 56⟩ rfl ?_ ?_
  · simp
    refine callN1 (Own_chain au l hc hl) rfl ?_
    simp [Function.comp_def]
    exact Le.snap [40] rfl rfl (by simp [Function.comp_def]; exact wkE (congrArg _ (List.take_of_length_le (by simp))))
  refine awp_regc ⟨76, [(5, sts l), (6, .sc (.slice none 0 0))], [], 64⟩ rfl (by simp; exact Le.snap [] rfl rfl (by simp)) ?_
  refine awp_seq ?_
  refine awp_regc ⟨76, [(5, sts l), (6, .sc (.slice none 0 0)), (7, .I (0 : Nat))], [], 72⟩ rfl (by simp; exact Le.snap [] rfl rfl (by simp)) ?_
  let Y : Nat → List (List AV) := fun i => (l.take i).map sC
  have hYl : ∀ i, i ≤ l.length → (Y i).length = i := fun i hi => by simp [Y]; omega
  have hYf : ∀ i ρ sn h m, (Y i).map (List.map (conv ρ sn h (m + 1))) = Y i := fun i => sts_flat _
  have hYs : ∀ i (h : i < l.length), Y (i + 1) = Y i ++ [sC l[i]] := fun i h => by
    simp only [Y]
    rw [List.take_succ_eq_append_getElem h, List.map_append]
    rfl
  have hYg : ∀ i k (h : k < l.length), k < i → (Y i)[k]? = some (sC l[k]) := fun i k h hk => by
    simp only [Y]
    rw [List.getElem?_map, List.getElem?_take, if_pos hk, List.getElem?_eq_getElem h]
    rfl
  have hYn : Y l.length = l.map sC := by simp only [Y]; rw [List.take_length]
  have hY0 : Y 0 = [] := rfl
  clear_value Y
  refine awp_block ?_
  refine awp_loop (ι := Nat) (fun i => ⟨76, [(5, sts l), (6, .rs 16 0 i), (7, .I i)], [(16, some ⟨13, Y i, 0⟩)], 72⟩) (fun i => i ≤ l.length) (fun i => l.length - i) 0 (Nat.zero_le _) (Le.lst [] [] [(16, 13)] rfl (by simp) (by simp) (by simp) (by simp) (by simp) (by simp) (by simp) (by simp [Up]) (by simp [hY0])) ?_
  intro i hi
  refine awp_seq ?_
  refine awp_regc ⟨76, [(5, sts l), (6, .rs 16 0 i), (7, .I i), (15, .B (decide (i < l.length)))], [(16, some ⟨13, Y i, 0⟩)], 104⟩ rfl ?_ ?_
  · simp
    exact Le.keep rfl (Nat.le_refl _) (by simp) (by simp)
  refine awp_cond _ rfl (fun h => awp_skip ?_) fun h => awp_exit (hit ?_)
  · simp only [decide_eq_true_eq] at h
    refine awp_cut (ι := Unit) (fun _ => ⟨76, [(5, sts l), (6, .rs 16 0 (i + 1)), (7, .I i)], [(16, some ⟨13, Y (i + 1), 0⟩)], 800⟩) (fun _ => True) ?_ fun _ _ => ?_
    · have hat := hc.1 i h
      have hg : l[i]? = some l[i] := List.getElem?_eq_getElem h
      have hnx : i + 1 < l.length → ∃ p : Stm, l[i + 1]? = some p ∧ p.nu = i + 1 := fun hk => ⟨l[i + 1], List.getElem?_eq_getElem hk, by have := (hc.1 (i + 1) hk).nu_; omega⟩
      have hpv : ∀ j, i = j + 1 → ∃ p : Stm, (Y i)[j]? = some (sC p) ∧ p.ki ≠ 3 ∧ StB p ∧ p.nu = j ∧ FollowsP p l[i] := fun j hj => by
        subst hj
        have h1 := hc.1 j (by omega)
        have h2 := hc.2 j h
        have h3 := hc.1 (j + 1) h
        exact ⟨l[j]'(by omega), hYg _ j (by omega) (by omega), h2.ki_, h1.b, h1.nu_, by rw [h3.au_, h1.au_], by rw [h3.nu_, h1.nu_]; rfl, h2.pr_, h2.ti_⟩
      rw [hYs i h]
      generalize l[i] = s at *
      have hnu := hat.nu_
      have hXl := hYl i hi
      have hXf := hYf i
      generalize Y i = X at *
      have hnue : (s.nu != (i : Int)) = false := by simp [hnu]
      refine awp_block ?_
      refine awp_regc ⟨76, [(5, sts l), (6, .rs 16 0 i), (7, .I i), (8, .I i)], [(16, some ⟨13, X, 0⟩)], 128⟩ rfl ?_ ?_
      · simp
        exact Le.keep rfl (Nat.le_refl _) (by simp) (by simp)
      refine awp_seq ?_
      refine awp_regc ⟨76, [(5, sts l), (6, .rs 16 0 i), (7, .I i), (8, .I i), (43, .B false)], [(16, some ⟨13, X, 0⟩)], 320⟩ rfl ?_ ?_
      · obtain ⟨i1, hi1⟩ : ∃ i1, i1 = i + 1 := ⟨_, rfl⟩
        have hw1 : IntKind.i64.wrap ((i : Int) + 1) = (i1 : Int) := by rw [w64 (by omega) (by omega)]; omega
        by_cases hk : i1 < l.length
        · obtain ⟨p, hp1, hp2⟩ := hnx (by omega)
          rw [← hi1] at hp1
          have hpe : (p.nu == (i : Int)) = false := by simp; omega
          obtain ⟨_, hp1'⟩ := List.getElem?_eq_some_iff.1 hp1
          simp [hg, hnue, hw1, hk, hp1', hpe]
          exact Le.keep rfl (Nat.le_refl _) (by simp) (by simp)
        · simp [hg, hnue, hw1, hk]
          exact Le.keep rfl (Nat.le_refl _) (by simp) (by simp)
      refine awp_cond _ rfl (fun h => by cases h) fun _ => awp_skip ?_
      refine awp_seq ?_
      refine awp_dregc ⟨76, [(5, sts l), (6, .rs 16 0 i), (7, .I i), (8, .I i), (67, .B false)], [(16, some ⟨13, X, 0⟩)], 512⟩ rfl ?_ ?_
      · rcases Nat.eq_zero_or_pos i with rfl | hi0
        · simp
          exact ⟨rfl, Le.keep rfl (Nat.le_refl _) (by simp) (by simp)⟩
        · obtain ⟨j, hj⟩ : ∃ j, i = j + 1 := ⟨i - 1, by omega⟩
          obtain ⟨p, hp1, hp2, hp3, hp4, hp5⟩ := hpv j hj
          have hwj : IntKind.i64.wrap ((i : Int) - 1) = (j : Int) := by rw [w64 (by omega) (by omega)]; omega
          have hfo := ref04_Follows_ok p s hp3 (by omega) (by omega)
          rw [decide_eq_true hp5] at hfo
          have hpk : (p.ki == 3) = false := by simp [hp2]
          have hji : j < i := by omega
          simp [hi0, hwj, hji, hp1, hg]
          refine call0e hfo (by simp) ?_
          simp [hwj, hji, hp1, hpk]
          exact ⟨rfl, Le.keep rfl (Nat.le_refl _) (by simp) (by simp)⟩
      refine awp_cond _ rfl (fun h => by cases h) fun _ => awp_skip ?_
      have htk : List.take i X = X := List.take_of_length_le (by omega)
      have hXf2 : ∀ ρ sn h m, (X ++ [sC s]).map (List.map (conv ρ sn h (m + 1))) = X ++ [sC s] := fun ρ sn h m => by rw [List.map_append, hXf]; simp
      refine awp_reg rfl ?_
      simp [hXl, htk, hg]
      repeat' apply And.intro
      all_goals first | omega | exact Le.Z1 hXf2 560 16 [] rfl rfl (by simp) (by simp) (by simp [htk, hXl]) (by simp)
    have hwi : IntKind.i64.wrap ((i : Int) + 1) = ((i + 1 : Nat) : Int) := by rw [w64 (by omega) (by omega)]; omega
    refine awp_reg rfl ?_
    simp [hwi]
    exact ⟨i + 1, by omega, by omega, Le.Z1 (hYf (i + 1)) 16 16 [] rfl rfl (by simp) (by simp) rfl (by simp)⟩
  simp only [decide_eq_false_iff_not] at h
  obtain rfl : i = l.length := by omega
  rw [hYn]
  refine awp_seq ?_
  refine awp_run (s := ?z9) rfl ?p9 ?r9
  case p9 => simp; rfl
  refine awp_ret ?_
  exact ⟨.inr rfl, RetOk.out [16] [] rfl (by simp) (by simp) (by simp) (by simp [Function.comp_def])⟩
end Go.Proofs.YtnlanlpbgcalcaaGreat
namespace Go.Proofs.YtnlanlpbgcalcaaGreat
open Go
abbrev noB : ByteArray := ⟨#[]⟩
def zS : Stm := ⟨0, 0, noB, 0, 0, 0, 0, 0, [], [], noB, 0, noB⟩
abbrev zC : List AV := [.I 0, .I 0, .sc (.string noB), .I 0, .I 0, .I 0, .I 0, .I 0, .sc (.slice none 0 0), .sc (.slice none 0 0), .sc (.string noB), .I 0, .sc (.string noB)]
theorem zWk : Wk (.agg zC) (eS zS) :=
  .agg _ _ rfl fun i => match i with
    | 0 => .refl _ | 1 => .refl _ | 2 => .refl _ | 3 => .refl _ | 4 => .refl _ | 5 => .refl _ | 6 => .refl _ | 7 => .refl _
    | 8 => .nil _ _ | 9 => .nil _ _ | 10 => .refl _ | 11 => .refl _ | 12 => .refl _ | _ + 13 => .refl _
def prevD (l : List Stm) : ByteArray := match l.getLast? with | none => noB | some p => digS p
def nx0 (au : Int) (l : List Stm) (s : Stm) : Stm := { s with au := au, nu := l.length, pr := prevD l }
def nx (au : Int) (l : List Stm) (s : Stm) : Stm := { nx0 au l s with sk := au, sd := digS (nx0 au l s) }
def BadT (l : List Stm) (s : Stm) : Prop := ∃ p, l.getLast? = some p ∧ s.ti < p.ti
def BadK (l : List Stm) : Prop := ∃ p, l.getLast? = some p ∧ p.ki = 3
set_option maxHeartbeats 4000000 in
set_option maxRecDepth 100000 in
theorem next_ok (au : Int) (l : List Stm) (s : Stm) (hc : Chain au l) (hl : l.length ≤ 1000) (hs : StB s) (eC e : Int) (x : Stm) (hchk : ACalls Tryz.prog nref03_Check [eS (nx au l s)] [] (.I eC) [])
    (h9 : BadT l s → e = 9 ∧ x = zS) (h5 : ¬ BadT l s → BadK l → e = 5 ∧ x = zS) (h0 : ¬ BadT l s → ¬ BadK l → e = eC ∧ (eC = 0 → x = nx au l s) ∧ (eC ≠ 0 → x = zS)) :
    ACalls Tryz.prog nref04_Next [.I au, sts l, eS s] [] (.tup [eS x, .I e]) [] := by
  refine sref04_Next.acalls (Nat.le_of_ble_eq_true rfl) (Nat.le_of_ble_eq_true rfl) (Nat.zero_le _) ?_
  show awp _ 0 _ _ ⟨62, [(0, .I au), (1, sts l), (2, eS s)], [], 16⟩
  have hb3 := hs.2.2.1
  have hb4 := hs.2.2.2.1
  refine awp_regc ⟨62, [(0, .I au), (1, sts l), (5, .pt 16 0 0), (6, .pt 24 0 0)], [(16, some ⟨13, [sC s], 0⟩), (24, some ⟨13, [zC], 0⟩)], 40⟩ rfl ?_ ?_
  · simp
    exact Le.keep rfl (Nat.le_refl _) (by simp) (by simp)
  refine awp_seq ?_
  refine awp_regc ⟨62, [(0, .I au), (1, sts l), (5, .pt 16 0 0), (6, .pt 24 0 0), (21, .B false)], [(16, some ⟨13, [sC s], 0⟩), (24, some ⟨13, [zC], 0⟩)], 128⟩ rfl ?_ ?_
  · by_cases hl0 : 0 < l.length
    · have hsl := SameList_refl l (by omega) fun y hy => by
        obtain ⟨i, hi, rfl⟩ := List.mem_iff_getElem.1 hy
        have := (hc.1 i hi).b
        have h1 := this.2.2.1
        have h2 := this.2.2.2.1
        exact ⟨by omega, by omega⟩
      have htk : List.take l.length (l.map sC) = l.map sC := List.take_of_length_le (by simp)
      simp [hl0]
      refine callN1 (Counted_chain au l hc hl) rfl ?_
      simp [Function.comp_def]
      refine call0s [88] hsl (by simp [Function.comp_def]; exact htk) (.sc _) ?_
      simp
      exact Le.keep rfl (Nat.le_refl _) (by simp) (by simp)
    · simp [hl0]
      exact Le.keep rfl (Nat.le_refl _) (by simp) (by simp)
  refine awp_cond _ rfl (fun h => by cases h) fun _ => awp_skip ?_
  refine awp_regc ⟨62, [(0, .I au), (1, sts l), (5, .pt 16 0 0), (6, .pt 24 0 0)], [(16, some ⟨13, [sC s], 0⟩), (24, some ⟨13, [zC], 0⟩)], 152⟩ rfl ?_ ?_
  · simp
    refine call0e (ref03_Copy_ok s (by omega) (by omega)) (by simp) ?_
    simp [splice]
    exact Le.keep rfl (Nat.le_refl _) (by simp) (by simp)
  obtain ⟨s1, hs1⟩ : ∃ s1 : Stm, s1 = { s with au := au, nu := 0, pr := noB } := ⟨_, rfl⟩
  refine awp_regc ⟨62, [(0, .I au), (1, sts l), (5, .pt 16 0 0), (6, .pt 24 0 0)], [(16, some ⟨13, [sC s1], 0⟩), (24, some ⟨13, [zC], 0⟩)], 208⟩ rfl ?_ ?_
  · simp [splice]
    exact Le.keep rfl (Nat.le_refl _) (by simp) (by simp [hs1])
  obtain ⟨s2, hs2⟩ : ∃ s2 : Stm, s2 = nx0 au l s := ⟨_, rfl⟩
  have hok : ∀ v, RetOk [(6, some (true, 13)), (7, none)] 0 v (.tup [eS x, .I e]) [] → RetOk [(6, some (true, 13)), (7, none)] 0 v (.tup [eS x, .I e]) [] := fun _ h => h
  refine awp_cut (ι := Unit) (fun _ => ⟨62, [(5, .pt 16 0 0), (6, .pt 24 0 0)], [(16, some ⟨13, [sC s2], 0⟩), (24, some ⟨13, [zC], 0⟩)], 500⟩) (fun _ => ¬ BadT l s ∧ ¬ BadK l) ?_ ?_
  · refine awp_regc ⟨62, [(0, .I au), (1, sts l), (5, .pt 16 0 0), (6, .pt 24 0 0), (8, .I l.length)], [(16, some ⟨13, [sC s1], 0⟩), (24, some ⟨13, [zC], 0⟩)], 232⟩ rfl ?_ ?_
    · simp
      exact Le.keep rfl (Nat.le_refl _) (by simp) (by simp)
    refine awp_regc ⟨62, [(0, .I au), (1, sts l), (5, .pt 16 0 0), (6, .pt 24 0 0), (8, .I l.length), (32, .B (decide (0 < l.length)))], [(16, some ⟨13, [sC s1], 0⟩), (24, some ⟨13, [zC], 0⟩)], 248⟩ rfl ?_ ?_
    · simp
      exact Le.keep rfl (Nat.le_refl _) (by simp) (by simp)
    refine awp_cond _ rfl (fun h => ?_) fun h => awp_skip ?_
    · simp only [decide_eq_true_eq] at h
      obtain ⟨j, hj⟩ : ∃ j, l.length = j + 1 := ⟨l.length - 1, by omega⟩
      have hjl : j < l.length := by omega
      obtain ⟨p, hp⟩ : ∃ p, l[j] = p := ⟨_, rfl⟩
      have hpg : l[j]? = some p := by rw [List.getElem?_eq_getElem hjl, hp]
      have hlast : l.getLast? = some p := by rw [List.getLast?_eq_getElem?, hj]; exact hpg
      have hpb : StB p := by rw [← hp]; exact (hc.1 j hjl).b
      have hwj : IntKind.i64.wrap ((l.length : Int) - 1) = (j : Int) := by rw [w64 (by omega) (by omega)]; omega
      refine awp_regc ⟨62, [(1, sts l), (5, .pt 16 0 0), (6, .pt 24 0 0), (8, .I l.length), (9, .pv (sC p))], [(16, some ⟨13, [sC s1], 0⟩), (24, some ⟨13, [zC], 0⟩)], 304⟩ rfl ?_ ?_
      · simp [hwj, hpg, splice]
        refine Le.ents [(16, 16), (24, 24)] [288] rfl (by simp) (by simp) (by simp) (by simp) (by simp) (by simp) fun q hq => ?_
        simp at hq
        rcases hq with rfl | rfl
        · exact ⟨16, _, _, rfl, by simp, rfl, EntUp.eq (by simp) (by simp)⟩
        · exact ⟨24, _, _, rfl, by simp, rfl, EntUp.eq (by simp) (by simp)⟩
      refine awp_seq ?_
      refine awp_regc ⟨62, [(1, sts l), (5, .pt 16 0 0), (6, .pt 24 0 0), (8, .I l.length), (9, .pv (sC p)), (42, .B (decide (s.ti < p.ti)))], [(16, some ⟨13, [sC s1], 0⟩), (24, some ⟨13, [zC], 0⟩)], 344⟩ rfl ?_ ?_
      · simp
        exact Le.keep rfl (Nat.le_refl _) (by simp [hs1]) (by simp)
      refine awp_cond _ rfl (fun h => ?_) fun h => awp_skip ?_
      · simp only [decide_eq_true_eq] at h
        obtain ⟨rfl, rfl⟩ := h9 ⟨p, hlast, h⟩
        refine awp_seq ?_
        refine awp_run (s := ?t1) rfl ?o1 ?q1
        case o1 => simp [splice]; rfl
        refine awp_ret ?_
        refine ⟨.inr rfl, hok _ (RetOk.out (vs := [.agg zC, .I 9]) [] [] (by simp) (by simp) (by simp) ?_ (by simp))⟩
        simp
        exact wkT2 zWk (.refl _)
      simp only [decide_eq_false_iff_not] at h
      have hnT : ¬ BadT l s := by
        rintro ⟨p', h1, h2⟩
        rw [hlast] at h1
        cases h1
        exact h h2
      refine awp_seq ?_
      refine awp_regc ⟨62, [(1, sts l), (5, .pt 16 0 0), (6, .pt 24 0 0), (8, .I l.length), (9, .pv (sC p)), (46, .B (decide (p.ki = 3)))], [(16, some ⟨13, [sC s1], 0⟩), (24, some ⟨13, [zC], 0⟩)], 368⟩ rfl ?_ ?_
      · simp
        exact Le.keep rfl (Nat.le_refl _) (by simp <;> rw [Bool.eq_iff_iff] <;> simp) (by simp)
      refine awp_cond _ rfl (fun h => ?_) fun h => awp_skip ?_
      · simp only [decide_eq_true_eq] at h
        obtain ⟨rfl, rfl⟩ := h5 hnT ⟨p, hlast, h⟩
        refine awp_seq ?_
        refine awp_run (s := ?t2) rfl ?o2 ?q2
        case o2 => simp [splice]; rfl
        refine awp_ret ?_
        refine ⟨.inr rfl, hok _ (RetOk.out (vs := [.agg zC, .I 5]) [] [] (by simp) (by simp) (by simp) ?_ (by simp))⟩
        simp
        exact wkT2 zWk (.refl _)
      simp only [decide_eq_false_iff_not] at h
      have hnK : ¬ BadK l := by
        rintro ⟨p', h1, h2⟩
        rw [hlast] at h1
        cases h1
        exact h h2
      have hs2e : s2 = { s with au := au, nu := l.length, pr := digS p } := by rw [hs2, nx0, prevD, hlast]
      refine awp_reg rfl ?_
      simp
      refine call0e (ref03_Digest_ok p hpb) (by simp) ?_
      simp [splice]
      refine ⟨⟨hnT, hnK⟩, ?_⟩
      refine Le.keep rfl (by simp) (by simp) (by simp [hs2e, hs1])
    · simp only [decide_eq_false_iff_not] at h
      have hl0 : l = [] := List.eq_nil_of_length_eq_zero (by omega)
      have hnT : ¬ BadT l s := by
        rintro ⟨p', h1, h2⟩
        rw [hl0] at h1
        cases h1
      have hnK : ¬ BadK l := by
        rintro ⟨p', h1, h2⟩
        rw [hl0] at h1
        cases h1
      have hs2e : s2 = s1 := by rw [hs2, hs1, nx0, prevD, hl0]; rfl
      rw [hs2e]
      exact ⟨(), ⟨hnT, hnK⟩, Le.keep rfl (by simp) (by simp) (by simp)⟩
  rintro _ ⟨hnT, hnK⟩
  obtain ⟨he, hx0, hx1⟩ := h0 hnT hnK
  have hpd : (prevD l).size ≤ 32 := by
    unfold prevD
    split
    · decide
    · rw [digS_size]; exact Nat.le_refl _
  have hs2b : StB s2 := by
    rw [hs2]
    exact ⟨by show (prevD l).size ≤ 5000; omega, hs.2.1, hb3, hb4, hs.2.2.2.2⟩
  obtain ⟨s3, hs3⟩ : ∃ s3, s3 = nx au l s := ⟨_, rfl⟩
  have hs3e : s3 = { s2 with sk := s2.au, sd := digS s2 } := by rw [hs3, hs2]; rfl
  rw [← hs3] at hchk hx0
  refine awp_regc ⟨62, [(5, .pt 16 0 0), (6, .pt 24 0 0)], [(16, some ⟨13, [sC s3], 0⟩), (24, some ⟨13, [zC], 0⟩)], 524⟩ rfl ?_ ?_
  · simp
    refine call0e (ref03_Seal_ok s2 hs2b) (by simp) ?_
    simp [splice]
    exact Le.keep rfl (Nat.le_refl _) (by simp) (by simp [hs3e])
  refine awp_seq ?_
  refine awp_regc ⟨62, [(5, .pt 16 0 0), (6, .pt 24 0 0), (10, .I eC)], [(16, some ⟨13, [sC s3], 0⟩), (24, some ⟨13, [zC], 0⟩)], 548⟩ rfl ?_ ?_
  · simp
    refine call0e hchk (by simp) ?_
    simp
    exact Le.keep rfl (Nat.le_refl _) (by simp) (by simp)
  refine awp_regc ⟨62, [(5, .pt 16 0 0), (6, .pt 24 0 0), (10, .I eC), (58, .B (decide (eC ≠ 0)))], [(16, some ⟨13, [sC s3], 0⟩), (24, some ⟨13, [zC], 0⟩)], 564⟩ rfl ?_ ?_
  · simp
    exact Le.keep rfl (Nat.le_refl _) (by simp <;> rw [Bool.eq_iff_iff] <;> simp) (by simp)
  refine awp_cond _ rfl (fun h => ?_) fun h => awp_skip ?_
  · simp only [decide_eq_true_eq] at h
    obtain rfl := hx1 h
    subst he
    refine awp_seq ?_
    refine awp_run (s := ?t3) rfl ?o3 ?q3
    case o3 => simp [splice]; rfl
    refine awp_ret ?_
    refine ⟨.inr rfl, hok _ (RetOk.out (vs := [.agg zC, .I e]) [] [] (by simp) (by simp) (by simp) ?_ (by simp))⟩
    simp
    exact wkT2 zWk (.refl _)
  have hz : eC = 0 := by simpa using h
  have hxe := hx0 hz
  subst he
  rw [hz]
  refine awp_seq ?_
  refine awp_run (s := ?t4) rfl ?o4 ?q4
  case o4 => simp [splice]; rfl
  refine awp_ret ?_
  rw [hxe]
  refine ⟨.inr rfl, ?_⟩
  show RetOk [(6, some (true, 13)), (7, none)] 0 _ _ _
  refine RetOk.out (vs := [eS s3, .I 0]) [] [] (by simp) (by simp) (by simp) ?_ (by simp)
  simp
theorem chain_nx {au : Int} {l : List Stm} {s : Stm} (hc : Chain au l) (hs : StB s) (hT : ¬ BadT l s) (hK : ¬ BadK l) (hok : StOk (nx au l s)) : Chain au (l ++ [nx au l s]) := by
  have hpd : (prevD l).size ≤ 32 := by
    unfold prevD
    split
    · decide
    · rw [digS_size]; exact Nat.le_refl _
  have hb : StB (nx au l s) := ⟨by show (prevD l).size ≤ 5000; omega, hs.2.1, hs.2.2.1, hs.2.2.2.1, hs.2.2.2.2⟩
  have hat : StAt au l.length (nx au l s) := ⟨hok, hb, rfl, rfl, rfl, rfl⟩
  constructor
  · intro i hi
    rw [List.length_append, List.length_singleton] at hi
    by_cases h : i < l.length
    · rw [List.getElem_append_left h]
      exact hc.1 i h
    · obtain rfl : i = l.length := by omega
      rw [List.getElem_append_right (Nat.le_refl _)]
      simp only [Nat.sub_self, List.getElem_singleton]
      exact hat
  · intro i hi
    have hi' := hi
    rw [List.length_append, List.length_singleton] at hi
    by_cases h : i + 1 < l.length
    · rw [List.getElem_append_left h, List.getElem_append_left (by omega)]
      exact hc.2 i h
    · have hil : i < l.length := by omega
      have e1 : l.length = i + 1 := by omega
      have hlast : l.getLast? = some l[i] := by rw [List.getLast?_eq_getElem?, e1]; exact List.getElem?_eq_getElem hil
      have e2 : (l ++ [nx au l s])[i + 1] = nx au l s := by
        rw [List.getElem_append_right (by omega)]
        simp
      rw [List.getElem_append_left hil, e2]
      refine ⟨?_, ?_, ?_⟩
      · show (prevD l).toList = _
        rw [prevD, hlast]
      · rcases Int.lt_or_le s.ti l[i].ti with h1 | h1
        · exact absurd ⟨_, hlast, h1⟩ hT
        · exact h1
      · exact fun h1 => hK ⟨_, hlast, h1⟩
end Go.Proofs.YtnlanlpbgcalcaaGreat
namespace Go.Proofs.YtnlanlpbgcalcaaGreat
open Go
structure Vch where
  fr : Int
  to : Int
  lv : Int
  nu : Int
  ti : Int
  en : Int
  re : Int
abbrev vC (v : Vch) : List AV := [.I v.fr, .I v.to, .I v.lv, .I v.nu, .I v.ti, .I v.en, .I v.re]
abbrev eV (v : Vch) : AV := .agg (vC v)
abbrev rowsV (l : List Vch) : List (List AV) := l.map vC
abbrev vchs (l : List Vch) : AV := .vs 7 false (rowsV l)
def StillV (capt : List AV) : Prop := ∀ ρ sn h n, capt.map (conv ρ sn h (n + 1)) = capt
def insRevV (c : Vch → Vch → Int) : List Vch → Vch → List Vch
  | [], x => [x]
  | y :: r, x => if c x y < 0 then y :: insRevV c r x else x :: y :: r
def isortRevV (c : Vch → Vch → Int) (M : List Vch) : List Vch := M.foldl (insRevV c) []
def isortV (c : Vch → Vch → Int) (M : List Vch) : List Vch := (isortRevV c M).reverse
theorem insRevV_perm (c : Vch → Vch → Int) : ∀ (r : List Vch) (x : Vch), (insRevV c r x).Perm (x :: r)
  | [], x => .refl _
  | y :: r, x => by
    unfold insRevV
    split
    · exact ((insRevV_perm c r x).cons y).trans (.swap _ _ _)
    · exact .refl _
theorem isortRevV_succ (c : Vch → Vch → Int) (M : List Vch) (k : Nat) (h : k < M.length) : isortRevV c (M.take (k + 1)) = insRevV c (isortRevV c (M.take k)) M[k] := by
  unfold isortRevV
  rw [← List.take_concat_get h, List.concat_eq_append, List.foldl_append]
  rfl
theorem isortRevV_perm (c : Vch → Vch → Int) (M : List Vch) : (isortRevV c M).Perm M := by
  have key : ∀ (M acc : List Vch), (M.foldl (insRevV c) acc).Perm (M ++ acc) := by
    intro M
    induction M with
    | nil => intro acc; exact .refl _
    | cons x M ih =>
      intro acc
      refine (ih _).trans ?_
      refine ((insRevV_perm c acc x).append_left M).trans ?_
      simp only [List.cons_append]
      exact List.perm_middle
  simpa [isortRevV] using key M []
theorem isortRevV_len (c : Vch → Vch → Int) (M : List Vch) : (isortRevV c M).length = M.length := (isortRevV_perm c M).length_eq
theorem isortV_one (c : Vch → Vch → Int) (x : Vch) : isortRevV c [x] = [x] := rfl
theorem Le.npV {st st' : St} {D : List Vch} (sn : List Nat) (hsz : st'.sz = st.sz) (hn : 1 ≤ st'.n) (hh : st'.h = [(0, some ⟨7, rowsV D, 0⟩)]) (hs : ∀ k ∈ sn, 1 ≤ k) (he : st.hp 0 = some ⟨7, rowsV D, 0⟩) (ht : ∀ p ∈ st'.t, Wk (conv [(0, 0)] sn st.hp 4 (st.get p.1)) p.2) : Le 1 st st' :=
  Le.ents [(0, 0)] sn hsz (by simp) (by simp) (by simp; omega) (fun k hk => ⟨hs k hk, by have := hs k hk; simp; omega⟩) hn ht (fun p hp => by
    rw [hh] at hp
    simp at hp
    subst hp
    exact ⟨0, _, _, rfl, by simp, he, EntUp.eq (by simp [Function.comp_def]) (by simp)⟩)
theorem mid_getV {H T : List Vch} {y x : Vch} {h : Nat} (hh : H.length = h) : (rowsV (H ++ y :: x :: T))[h]? = some (vC y) ∧ (rowsV (H ++ y :: x :: T))[h + 1]? = some (vC x) := by
  subst hh
  constructor
  · rw [List.getElem?_map, List.getElem?_append_right (by omega)]
    simp
  · rw [List.getElem?_map, List.getElem?_append_right (by omega)]
    simp
theorem mid_setV {H T : List Vch} {y x : Vch} {h : Nat} (hh : H.length = h) : ((rowsV (H ++ y :: x :: T)).set (h + 1) (vC y)).set h (vC x) = rowsV (H ++ x :: y :: T) := by
  subst hh
  simp [rowsV, List.set_append]
set_option maxHeartbeats 4000000 in
set_option maxRecDepth 100000 in
theorem insertionV_ok (f : FuncId) (capt : List AV) (c : Vch → Vch → Int) (A M B : List Vch) (n a b : Nat) (hn : (A ++ M ++ B).length = n) (ha : A.length = a) (hb : a + M.length = b) (hl : n ≤ 1000000) (hs : StillV capt)
    (hc : ∀ x ∈ M, ∀ y ∈ M, ACalls Tryz.prog f (eV x :: eV y :: capt) [] (.I (c x y)) []) :
    ACalls Tryz.prog nslices_insertionSortCmpFunc_api_Vouch [.rs 0 0 n, .I a, .I b, .fn (.func f) [] capt] [⟨7, rowsV (A ++ M ++ B), 0⟩] (.tup []) [some ⟨7, rowsV (A ++ isortV c M ++ B), 0⟩] := by
  have hs2 : ∀ ρ sn h, capt.map (conv ρ sn h 2) = capt := fun _ _ _ => hs _ _ _ 1
  have hs3 : ∀ ρ sn h, capt.map (conv ρ sn h 3) = capt := fun _ _ _ => hs _ _ _ 2
  have hs4 : ∀ ρ sn h, capt.map (conv ρ sn h 4) = capt := fun _ _ _ => hs _ _ _ 3
  refine sslices_insertionSortCmpFunc_api_Vouch.acalls (Nat.le_of_ble_eq_true rfl) (Nat.le_of_ble_eq_true rfl) (Nat.le_of_ble_eq_true rfl) ?_
  show awp _ 1 _ _ ⟨53, [(0, .rs 0 0 n), (1, .I a), (2, .I b), (3, .fn (.func f) [] capt)], [(0, some ⟨7, rowsV (A ++ M ++ B), 0⟩)], 16⟩
  have hlen : a + (M.length + B.length) = n := by
    simp only [List.length_append] at hn
    omega
  have hbn : b ≤ n := by omega
  have hwa : IntKind.i64.wrap ((a : Int) + 1) = ((a + 1 : Nat) : Int) := by rw [w64 (by omega) (by omega)]; omega
  let Lk : Nat → List Vch := fun k => A ++ ((isortRevV c (M.take k)).reverse ++ (M.drop k ++ B))
  have hL1 : A ++ M ++ B = Lk 1 := by
    cases M with
    | nil => simp [Lk, isortRevV]
    | cons m M => simp [Lk, isortV_one]
  rw [hL1]
  refine awp_regc ⟨53, [(0, .rs 0 0 n), (1, .I a), (2, .I b), (3, .fn (.func f) [] capt), (8, .I (a + 1 : Nat))], [(0, some ⟨7, rowsV (Lk 1), 0⟩)], 40⟩ rfl ?_ ?_
  · simp [hwa]
    exact Le.keep rfl (Nat.le_refl _) (by simp) (by simp)
  refine awp_block ?_
  refine awp_loop (ι := Nat) (fun k => ⟨53, [(0, .rs 0 0 n), (1, .I a), (2, .I b), (3, .fn (.func f) [] capt), (8, .I (a + k : Nat))], [(0, some ⟨7, rowsV (Lk k), 0⟩)], 40⟩) (fun k => 1 ≤ k ∧ k ≤ M.length + 1 ∧ (M.length ≤ k → rowsV (Lk k) = rowsV (A ++ isortV c M ++ B))) (fun k => M.length + 1 - k) 1 ?_ (Le.refl _ _) ?_
  · refine ⟨Nat.le_refl _, by omega, fun h => ?_⟩
    simp only [Lk]
    rw [List.take_of_length_le h, List.drop_eq_nil_of_le h]
    simp [isortV]
  rintro k ⟨hk1, hk2, hk3⟩
  refine awp_seq ?_
  refine awp_regc ⟨53, [(0, .rs 0 0 n), (1, .I a), (2, .I b), (3, .fn (.func f) [] capt), (8, .I (a + k : Nat)), (14, .B (decide (k < M.length)))], [(0, some ⟨7, rowsV (Lk k), 0⟩)], 64⟩ rfl ?_ ?_
  · simp
    exact Le.keep rfl (Nat.le_refl _) (by simp <;> omega) (by simp)
  refine awp_cond _ rfl (fun h => awp_skip ?_) fun h => awp_exit (hit ?_)
  · simp only [decide_eq_true_eq] at h
    refine awp_cut (ι := Unit) (fun _ => ⟨53, [(0, .rs 0 0 n), (1, .I a), (2, .I b), (3, .fn (.func f) [] capt), (8, .I (a + k : Nat))], [(0, some ⟨7, rowsV (Lk (k + 1)), 0⟩)], 64⟩) (fun _ => True) ?_ fun _ _ => ?_
    · have hx : M[k] ∈ M := List.getElem_mem h
      have hdrop : M.drop k = M[k] :: M.drop (k + 1) := List.drop_eq_getElem_cons h
      have hsucc := isortRevV_succ c M k h
      generalize M[k] = x at *
      obtain ⟨D, hD⟩ : ∃ D, D = M.drop (k + 1) ++ B := ⟨_, rfl⟩
      obtain ⟨R, hR⟩ : ∃ R, R = isortRevV c (M.take k) := ⟨_, rfl⟩
      have hRm : ∀ y ∈ R, y ∈ M := fun y hy => by
        rw [hR] at hy
        exact List.mem_of_mem_take ((isortRevV_perm c _).mem_iff.1 hy)
      have hRl : R.length = k := by rw [hR, isortRevV_len]; simp; omega
      have hDl : D.length + k + 1 = M.length + B.length := by rw [hD]; simp; omega
      have hLk : Lk k = A ++ R.reverse ++ x :: D := by simp only [Lk]; rw [hdrop, ← hR, hD]; simp
      have hLk1 : Lk (k + 1) = A ++ (insRevV c R x).reverse ++ D := by simp only [Lk]; rw [hsucc, ← hR, hD]; simp
      rw [hLk, hLk1]
      refine awp_block ?_
      refine awp_regc ⟨53, [(0, .rs 0 0 n), (1, .I a), (2, .I b), (3, .fn (.func f) [] capt), (8, .I (a + k : Nat)), (9, .I (a + k : Nat))], [(0, some ⟨7, rowsV (A ++ R.reverse ++ x :: D), 0⟩)], 80⟩ rfl ?_ ?_
      · simp
        exact Le.keep rfl (Nat.le_refl _) (by simp) (by simp)
      refine awp_block ?_
      let C : List Vch × List Vch → St := fun p => ⟨53, [(0, .rs 0 0 n), (1, .I a), (2, .I b), (3, .fn (.func f) [] capt), (8, .I (a + k : Nat)), (9, .I (a + p.2.length : Nat))], [(0, some ⟨7, rowsV (A ++ p.2.reverse ++ x :: (p.1 ++ D)), 0⟩)], 80⟩
      refine awp_loop C (fun p : List Vch × List Vch => insRevV c R x = p.1.reverse ++ insRevV c p.2 x ∧ p.1.length + p.2.length = k ∧ ∀ y ∈ p.2, y ∈ M) (fun p : List Vch × List Vch => p.2.length) ([], R) ⟨rfl, by simpa using hRl, hRm⟩ ?_ ?_
      · simp only [C, hRl, List.nil_append]
        exact Le.refl _ _
      rintro ⟨U, V⟩ ⟨hins, hUV, hVm⟩
      simp only at hins hUV hVm
      match V, hins, hUV, hVm with
      | [], hins, hUV, hVm =>
        have hC : C (U, []) = ⟨53, [(0, .rs 0 0 n), (1, .I a), (2, .I b), (3, .fn (.func f) [] capt), (8, .I (a + k : Nat)), (9, .I a)], [(0, some ⟨7, rowsV (A ++ x :: (U ++ D)), 0⟩)], 80⟩ := by simp [C]
        rw [hC]
        refine awp_seq ?_
        refine awp_dregc ⟨53, [(0, .rs 0 0 n), (1, .I a), (2, .I b), (3, .fn (.func f) [] capt), (8, .I (a + k : Nat)), (34, .B false)], [(0, some ⟨7, rowsV (A ++ x :: (U ++ D)), 0⟩)], 216⟩ rfl ?_ ?_
        · simp
          exact ⟨rfl, Le.keep rfl (Nat.le_refl _) (by simp) (by simp)⟩
        refine awp_cond _ rfl (fun h => by cases h) fun h => awp_exit (hit ?_)
        have e : A ++ x :: (U ++ D) = A ++ (insRevV c R x).reverse ++ D := by rw [hins]; simp [insRevV]
        rw [← e]
        exact ⟨(), trivial, Le.npV [] rfl (by simp) rfl (by simp) rfl (by simp [hs2, hs3, hs4])⟩
      | y :: V', hins, hUV, hVm =>
        obtain ⟨H, hH⟩ : ∃ H, H = A ++ V'.reverse := ⟨_, rfl⟩
        obtain ⟨T, hT⟩ : ∃ T, T = U ++ D := ⟨_, rfl⟩
        obtain ⟨q, hq⟩ : ∃ q, q = a + V'.length := ⟨_, rfl⟩
        obtain ⟨j, hj⟩ : ∃ j, j = q + 1 := ⟨_, rfl⟩
        have hHl : H.length = q := by rw [hH, hq]; simp; omega
        have hgl : (H ++ y :: x :: T).length = n := by
          have e : (H ++ y :: x :: T).length = H.length + (T.length + 2) := by simp
          rw [e, hHl, hT, List.length_append]
          simp at hUV
          omega
        have hg1 := (mid_getV (T := T) (y := y) (x := x) hHl).1
        have hg2 := (mid_getV (T := T) (y := y) (x := x) hHl).2
        have hset := mid_setV (T := T) (y := y) (x := x) hHl
        rw [← hj] at hg2 hset
        have hC : C (U, y :: V') = ⟨53, [(0, .rs 0 0 n), (1, .I a), (2, .I b), (3, .fn (.func f) [] capt), (8, .I (a + k : Nat)), (9, .I j)], [(0, some ⟨7, rowsV (H ++ y :: x :: T), 0⟩)], 80⟩ := by
          simp [C, hH, hT, hj, hq, Nat.add_assoc]
        rw [hC]
        have hcy := hc x hx y (hVm y List.mem_cons_self)
        have hjn : j < n := by rw [← hgl, hj, ← hHl]; simp
        have hwj : IntKind.i64.wrap ((j : Int) - 1) = (q : Int) := by rw [w64 (by omega) (by omega)]; omega
        have hqn : q < n := by omega
        have haj : a < j := by omega
        have hRl2 : (rowsV (H ++ y :: x :: T)).length = n := by rw [rowsV, List.length_map, hgl]
        generalize hX : rowsV (H ++ y :: x :: T) = X at *
        have hflat : ∀ ρ sn h m, X.map (List.map (conv ρ sn h (m + 1))) = X := fun ρ sn h m => by rw [← hX]; simp [Function.comp_def]
        refine awp_seq ?_
        refine awp_dregc ⟨53, [(0, .rs 0 0 n), (1, .I a), (2, .I b), (3, .fn (.func f) [] capt), (8, .I (a + k : Nat)), (9, .I j), (34, .B (decide (c x y < 0)))], [(0, some ⟨7, X, 0⟩)], 216⟩ rfl ?_ ?_
        · simp [haj, hjn, hqn, hg1, hg2, hwj]
          refine call0e hcy ?_ ?_
          · simp [hs4]
          simp
          exact ⟨rfl, Le.keep rfl (Nat.le_refl _) (by simp) (by simp)⟩
        refine awp_cond _ rfl (fun h5 => awp_skip ?_) fun h5 => awp_exit (hit ?_)
        · simp only [decide_eq_true_eq] at h5
          have hg3 : (X.set j (vC y))[q]? = some (vC y) := by
            rw [List.getElem?_set, if_neg (by omega)]
            exact hg1
          generalize hY : rowsV (H ++ x :: y :: T) = Y at hset
          refine awp_cut (ι := Unit) (fun _ => ⟨53, [(0, .rs 0 0 n), (1, .I a), (2, .I b), (3, .fn (.func f) [] capt), (8, .I (a + k : Nat)), (9, .I j)], [(0, some ⟨7, Y, 0⟩)], 360⟩) (fun _ => True) ?_ fun _ _ => ?_
          · refine awp_block ?_
            refine awp_drw rfl ?_
            simp [hjn, hqn, hg1, hg2, hg3, hwj, splice]
            exact ⟨rfl, Le.keep rfl (Nat.le_refl _) (by simp) (by simp; exact hset)⟩
          refine awp_reg rfl ?_
          simp [hwj]
          refine ⟨y :: U, V', ⟨?_, ?_, ?_⟩, ?_, ?_⟩
          · rw [hins, insRevV, if_pos h5]; simp
          · simp at hUV ⊢; omega
          · exact fun z hz => hVm z (List.mem_cons_of_mem _ hz)
          · simp
          · have hC2 : C (y :: U, V') = ⟨53, [(0, .rs 0 0 n), (1, .I a), (2, .I b), (3, .fn (.func f) [] capt), (8, .I (a + k : Nat)), (9, .I q)], [(0, some ⟨7, Y, 0⟩)], 80⟩ := by rw [← hY]; simp [C, hH, hT, hq]
            rw [hC2]
            have hflat2 : ∀ ρ sn h m, Y.map (List.map (conv ρ sn h (m + 1))) = Y := fun ρ sn h m => by rw [← hY]; simp [Function.comp_def]
            exact Le.ents [(0, 0)] [] rfl (by simp) (by simp) (by simp) (by simp) (by simp) (by simp [hs2, hs3, hs4]) fun p hp => by
              simp at hp
              subst hp
              exact ⟨0, _, _, rfl, by simp, rfl, EntUp.eq (by simp only [convE, hflat2]) (by simp)⟩
        · simp only [decide_eq_false_iff_not] at h5
          have e : H ++ y :: x :: T = A ++ (insRevV c R x).reverse ++ D := by rw [hins, insRevV, if_neg h5, hH, hT]; simp
          rw [← e, hX]
          exact ⟨(), trivial, Le.ents [(0, 0)] [] rfl (by simp) (by simp) (by simp) (by simp) (by simp) (by simp [hs2, hs3, hs4]) fun p hp => by
            simp at hp
            subst hp
            exact ⟨0, _, _, rfl, by simp, rfl, EntUp.eq (by simp only [convE, hflat]) (by simp)⟩⟩
    have hwk : IntKind.i64.wrap (((a + k : Nat) : Int) + 1) = ((a + (k + 1) : Nat) : Int) := by rw [w64 (by omega) (by omega)]; omega
    refine awp_reg rfl ?_
    have hwk' : IntKind.i64.wrap ((a : Int) + (k : Int) + 1) = ((a + (k + 1) : Nat) : Int) := by rw [← hwk]; congr 1
    simp [hwk']
    refine ⟨k + 1, ⟨by omega, by omega, fun h2 => ?_⟩, by omega, ?_⟩
    · have he : M.length = k + 1 := by omega
      simp only [Lk]
      rw [List.take_of_length_le (by omega), List.drop_eq_nil_of_le (by omega)]
      simp [isortV]
    · exact Le.npV [] rfl (by simp) rfl (by simp) rfl (by simp [hs2, hs3, hs4])
  simp only [decide_eq_false_iff_not] at h
  rw [hk3 (by omega)]
  exact ⟨.inl rfl, ⟨[], rfl, [], [], by simp [List.range, List.range.loop], by simp, by simp, by simp, by simp [List.range, List.range.loop, Function.comp_def]⟩⟩
set_option maxRecDepth 100000 in
theorem stableV_ok (f : FuncId) (capt : List AV) (c : Vch → Vch → Int) (l : List Vch) (n : Nat) (hn : l.length = n) (hl : n < 20) (hs : StillV capt)
    (hc : ∀ x ∈ l, ∀ y ∈ l, ACalls Tryz.prog f (eV x :: eV y :: capt) [] (.I (c x y)) []) :
    ACalls Tryz.prog nslices_stableCmpFunc_api_Vouch [.rs 0 0 n, .I n, .fn (.func f) [] capt] [⟨7, rowsV l, 0⟩] (.tup []) [some ⟨7, rowsV (isortV c l), 0⟩] := by
  have hs2 : ∀ ρ sn h, capt.map (conv ρ sn h 2) = capt := fun _ _ _ => hs _ _ _ 1
  have hs3 : ∀ ρ sn h, capt.map (conv ρ sn h 3) = capt := fun _ _ _ => hs _ _ _ 2
  have hs4 : ∀ ρ sn h, capt.map (conv ρ sn h 4) = capt := fun _ _ _ => hs _ _ _ 3
  refine sslices_stableCmpFunc_api_Vouch.acalls (Nat.le_of_ble_eq_true rfl) (Nat.le_of_ble_eq_true rfl) (Nat.le_of_ble_eq_true rfl) ?_
  show awp _ 1 _ _ ⟨63, [(0, .rs 0 0 n), (1, .I n), (2, .fn (.func f) [] capt)], [(0, some ⟨7, rowsV l, 0⟩)], 16⟩
  have hins := insertionV_ok f capt c [] l [] n 0 n (by simpa using hn) rfl (by simpa using hn) (by omega) hs hc
  simp only [List.nil_append, List.append_nil] at hins
  refine awp_seq ?_
  refine awp_run (s := ?s1) rfl ?o1 ?q1
  case o1 => simp; rfl
  refine awp_regc ⟨63, [(0, .rs 0 0 n), (1, .I n), (2, .fn (.func f) [] capt), (6, .I 20), (7, .I 0), (8, .I 20)], [(0, some ⟨7, rowsV l, 0⟩)], 48⟩ rfl ?_ ?_
  · simp
    exact Le.keep rfl (Nat.le_refl _) (by simp) (by simp)
  refine awp_seq ?_
  refine awp_block ?_
  refine awp_loop (ι := Unit) (fun _ => ⟨63, [(0, .rs 0 0 n), (1, .I n), (2, .fn (.func f) [] capt), (6, .I 20), (7, .I 0), (8, .I 20)], [(0, some ⟨7, rowsV l, 0⟩)], 48⟩) (fun _ => True) (fun _ => 0) () trivial (Le.refl _ _) ?_
  intro _ _
  refine awp_seq ?_
  refine awp_regc ⟨63, [(0, .rs 0 0 n), (1, .I n), (2, .fn (.func f) [] capt), (6, .I 20), (7, .I 0), (8, .I 20), (13, .B false)], [(0, some ⟨7, rowsV l, 0⟩)], 72⟩ rfl ?_ ?_
  · simp
    exact Le.keep rfl (Nat.le_refl _) (by simp; omega) (by simp)
  refine awp_cond _ rfl (fun h => by cases h) fun _ => awp_exit (hit ?_)
  refine awp_regc ⟨63, [(1, .I n), (6, .I 20)], [(0, some ⟨7, rowsV (isortV c l), 0⟩)], 112⟩ rfl ?_ ?_
  · simp
    refine callM1 (i := 0) rfl (e' := ⟨7, rowsV l, 0⟩) (by simp [Function.comp_def]) hins (by simp) ?_ ?_
    · simp [hs2, hs3, hs4]
    simp [Function.comp_def]
    exact Le.keep rfl (Nat.le_refl _) (by simp) (by simp)
  refine awp_block ?_
  refine awp_loop (ι := Unit) (fun _ => ⟨63, [(1, .I n), (6, .I 20)], [(0, some ⟨7, rowsV (isortV c l), 0⟩)], 112⟩) (fun _ => True) (fun _ => 0) () trivial (Le.refl _ _) ?_
  intro _ _
  refine awp_seq ?_
  refine awp_regc ⟨63, [(1, .I n), (6, .I 20), (30, .B false)], [(0, some ⟨7, rowsV (isortV c l), 0⟩)], 136⟩ rfl ?_ ?_
  · simp
    exact Le.keep rfl (Nat.le_refl _) (by simp; omega) (by simp)
  refine awp_cond _ rfl (fun h => by cases h) fun _ => awp_exit (hit ?_)
  exact ⟨.inl rfl, ⟨[], rfl, [], [], by simp [List.range, List.range.loop], by simp, by simp, by simp, by simp [List.range, List.range.loop, Function.comp_def]⟩⟩
theorem SortStableV_ok (f : FuncId) (capt : List AV) (c : Vch → Vch → Int) (l : List Vch) (n : Nat) (hn : l.length = n) (hl : n < 20) (hs : StillV capt)
    (hc : ∀ x ∈ l, ∀ y ∈ l, ACalls Tryz.prog f (eV x :: eV y :: capt) [] (.I (c x y)) []) :
    ACalls Tryz.prog nslices_SortStableFunc_Lapi_Vouch_api_Vouch [.rs 0 0 n, .fn (.func f) [] capt] [⟨7, rowsV l, 0⟩] (.tup []) [some ⟨7, rowsV (isortV c l), 0⟩] := by
  have hs2 : ∀ ρ sn h, capt.map (conv ρ sn h 2) = capt := fun _ _ _ => hs _ _ _ 1
  have hs3 : ∀ ρ sn h, capt.map (conv ρ sn h 3) = capt := fun _ _ _ => hs _ _ _ 2
  have hs4 : ∀ ρ sn h, capt.map (conv ρ sn h 4) = capt := fun _ _ _ => hs _ _ _ 3
  refine sslices_SortStableFunc_Lapi_Vouch_api_Vouch.acalls (Nat.le_of_ble_eq_true rfl) (Nat.le_of_ble_eq_true rfl) (Nat.le_of_ble_eq_true rfl) ?_
  show awp _ 1 _ _ ⟨9, [(0, .rs 0 0 n), (1, .fn (.func f) [] capt)], [(0, some ⟨7, rowsV l, 0⟩)], 16⟩
  refine awp_run (s := ?s1) rfl ?o1 ?q1
  case o1 =>
    simp
    refine callM1 (i := 0) rfl (e' := ⟨7, rowsV l, 0⟩) (by simp [Function.comp_def]) (stableV_ok f capt c l n hn hl hs hc) (by simp) ?_ ?_
    · simp [hs2, hs3, hs4]
    simp [Function.comp_def]
    rfl
  exact ⟨.inl rfl, ⟨[], rfl, [], [], by simp [List.range, List.range.loop], by simp, by simp, by simp, by simp [List.range, List.range.loop, Function.comp_def]⟩⟩
end Go.Proofs.YtnlanlpbgcalcaaGreat
namespace Go.Proofs.YtnlanlpbgcalcaaGreat
open Go
def RevP (v s : Stm) (p : Int × Int) : Prop := s.au = v.au ∧ s.ki = 2 ∧ s.a = v.nu ∧ v.nu < s.nu ∧ (p.2 < 0 ∨ s.nu < p.2)
instance (v s : Stm) (p : Int × Int) : Decidable (RevP v s p) := by unfold RevP; infer_instance
def revStep (v : Stm) (p : Int × Int) (s : Stm) : Int × Int := if RevP v s p then (s.ti, s.nu) else p
def revQ (l : List Stm) (v : Stm) : Int × Int := l.foldl (revStep v) (-1, -1)
def revF (l : List Stm) (v : Stm) : Int := (revQ l v).1
theorem revQ_succ (l : List Stm) (v : Stm) (i : Nat) (h : i < l.length) : revQ (l.take (i + 1)) v = revStep v (revQ (l.take i) v) l[i] := by
  unfold revQ
  rw [List.take_succ_eq_append_getElem h, List.foldl_append]
  rfl
set_option maxHeartbeats 1000000 in
set_option maxRecDepth 100000 in
theorem vouch_revoked_ok (l : List Stm) (v : Stm) (hl : l.length ≤ 1000000) : ACalls Tryz.prog nvouch_revoked [sts l, eS v] [] (.I (revF l v)) [] := by
  refine svouch_revoked.acalls (Nat.le_of_ble_eq_true rfl) (Nat.le_of_ble_eq_true rfl) (Nat.le_refl _) ?_
  show awp _ 0 _ _ ⟨55, [(0, sts l), (1, eS v)], [], 16⟩
  refine awp_regc ⟨55, [(0, sts l), (3, .pv (sC v))], [], 32⟩ rfl ?_ ?_
  · simp
    exact Le.snap [16] rfl rfl (by simp)
  refine awp_regc ⟨55, [(0, sts l), (3, .pv (sC v)), (5, .I (-1)), (6, .I (-1))], [], 48⟩ rfl (by simp; exact Le.snap [] rfl rfl (by simp)) ?_
  refine awp_seq ?_
  refine awp_regc ⟨55, [(3, .pv (sC v)), (5, .I (revQ (l.take 0) v).1), (6, .I (revQ (l.take 0) v).2), (9, sts l), (10, .I l.length), (11, .I (0 : Nat))], [], 72⟩ rfl ?_ ?_
  · simp
    exact Le.snap [] rfl rfl (by simp [revQ])
  refine awp_block ?_
  refine awp_loop (ι := Nat) (fun i => ⟨55, [(3, .pv (sC v)), (5, .I (revQ (l.take i) v).1), (6, .I (revQ (l.take i) v).2), (9, sts l), (10, .I l.length), (11, .I i)], [], 72⟩) (fun i => i ≤ l.length) (fun i => l.length - i) 0 (Nat.zero_le _) (Le.refl _ _) ?_
  intro i hi
  refine awp_regc ⟨55, [(3, .pv (sC v)), (5, .I (revQ (l.take i) v).1), (6, .I (revQ (l.take i) v).2), (9, sts l), (10, .I l.length), (11, .I i), (12, .B (decide (i < l.length)))], [], 80⟩ rfl (by simp; exact Le.snap [] rfl rfl (by simp)) ?_
  refine awp_seq ?_
  refine awp_cond _ rfl (fun h => awp_skip ?_) fun h => awp_exit (hit ?_)
  · simp only [decide_eq_true_eq] at h
    have hwi : IntKind.i64.wrap ((i : Int) + 1) = ((i + 1 : Nat) : Int) := by rw [w64 (by omega) (by omega)]; omega
    refine awp_cut (ι := Unit) (fun _ => ⟨55, [(3, .pv (sC v)), (5, .I (revQ (l.take (i + 1)) v).1), (6, .I (revQ (l.take (i + 1)) v).2), (9, sts l), (10, .I l.length), (11, .I i)], [], 500⟩) (fun _ => True) ?_ fun _ _ => ?_
    · rw [revQ_succ l v i h]
      have hg : l[i]? = some l[i] := List.getElem?_eq_getElem h
      generalize l[i] = s at *
      generalize revQ (l.take i) v = p at *
      obtain ⟨pa, pn⟩ := p
      obtain ⟨r, hr⟩ : ∃ r, r = decide (RevP v s (pa, pn)) := ⟨_, rfl⟩
      have hst : revStep v (pa, pn) s = if r = true then (s.ti, s.nu) else (pa, pn) := by
        unfold revStep
        rw [hr]
        by_cases hq : RevP v s (pa, pn)
        · simp [hq]
        · simp [hq]
      rw [hst]
      refine awp_block ?_
      refine awp_regc ⟨55, [(3, .pv (sC v)), (5, .I pa), (6, .I pn), (9, sts l), (10, .I l.length), (11, .I i), (8, .pv (sC s))], [], 112⟩ rfl ?_ ?_
      · simp [hg, splice]
        exact Le.snap [96] rfl rfl (by simp)
      refine awp_regc ⟨55, [(3, .pv (sC v)), (5, .I pa), (6, .I pn), (9, sts l), (10, .I l.length), (11, .I i), (8, .pv (sC s)), (48, .B r)], [], 400⟩ rfl ?_ ?_
      · by_cases c1 : s.au = v.au
        · have c1' : (s.au == v.au) = true := by simp [c1]
          by_cases c2 : s.ki = 2
          · have c2' : (s.ki == 2) = true := by simp [c2]
            by_cases c3 : s.a = v.nu
            · have c3' : (s.a == v.nu) = true := by simp [c3]
              by_cases c4 : v.nu < s.nu
              · by_cases c5 : pn < 0
                · have e : r = true := by rw [hr]; exact decide_eq_true ⟨c1, c2, c3, c4, .inl c5⟩
                  simp [c1', c2', c3', c4, c5, e]
                  exact Le.snap [] rfl rfl (by simp)
                · have e : r = decide (s.nu < pn) := by
                    rw [hr, Bool.eq_iff_iff, decide_eq_true_eq, decide_eq_true_eq]
                    exact ⟨fun hq => hq.2.2.2.2.resolve_left c5, fun hq => ⟨c1, c2, c3, c4, .inr hq⟩⟩
                  simp [c1', c2', c3', c4, c5, e]
                  exact Le.snap [] rfl rfl (by simp)
              · have e : r = false := by rw [hr]; exact decide_eq_false fun hq => c4 hq.2.2.2.1
                simp [c1', c2', c3', c4, e]
                exact Le.snap [] rfl rfl (by simp)
            · have c3' : (s.a == v.nu) = false := by simp [c3]
              have e : r = false := by rw [hr]; exact decide_eq_false fun hq => c3 hq.2.2.1
              simp [c1', c2', c3', e]
              exact Le.snap [] rfl rfl (by simp)
          · have c2' : (s.ki == 2) = false := by simp [c2]
            have e : r = false := by rw [hr]; exact decide_eq_false fun hq => c2 hq.2.1
            simp [c1', c2', e]
            exact Le.snap [] rfl rfl (by simp)
        · have c1' : (s.au == v.au) = false := by simp [c1]
          have e : r = false := by rw [hr]; exact decide_eq_false fun hq => c1 hq.1
          simp [c1', e]
          exact Le.snap [] rfl rfl (by simp)
      refine awp_cond _ rfl (fun h5 => ?_) fun h5 => awp_skip ?_
      · rw [if_pos h5]
        refine awp_drw rfl ?_
        simp
        exact ⟨rfl, Le.snap [] rfl rfl (by simp)⟩
      · rw [if_neg (by rw [h5]; decide)]
        exact ⟨(), trivial, Le.snap [] rfl rfl (by simp)⟩
    refine awp_reg rfl ?_
    simp [hwi]
    exact ⟨i + 1, by omega, by omega, Le.snap [] rfl rfl (by simp)⟩
  simp only [decide_eq_false_iff_not] at h
  obtain rfl : i = l.length := by omega
  have hf : (revQ (l.take l.length) v).1 = revF l v := by rw [List.take_length]; rfl
  rw [hf]
  refine awp_seq ?_
  refine awp_run (s := ?s9) rfl ?o9 ?q9
  case o9 => simp; rfl
  refine awp_ret ?_
  exact ⟨.inr rfl, RetOk.one (by simp)⟩
def cmpV (a b : Vch) : Int := ([cmpI a.fr b.fr, cmpI a.to b.to, cmpI a.nu b.nu].find? (· != 0)).getD 0
set_option maxRecDepth 100000 in
theorem vouch_Of_c1_ok (a b : Vch) : ACalls Tryz.prog nvouch_Of_c1 [eV a, eV b] [] (.I (cmpV a b)) [] := by
  refine svouch_Of_c1.acalls (Nat.le_of_ble_eq_true rfl) (Nat.le_of_ble_eq_true rfl) (Nat.le_refl _) ?_
  show awp _ 0 _ _ ⟨22, [(0, eV a), (1, eV b)], [], 16⟩
  refine awp_regc ⟨22, [(2, .pv (vC a)), (3, .pv (vC b))], [], 40⟩ rfl ?_ ?_
  · simp
    exact Le.snap [16, 24] rfl rfl (by simp)
  refine awp_dregc ⟨22, [(4, .I (cmpV a b))], [], 184⟩ rfl ?_ ?_
  · simp
    refine call0e (compare_ok a.fr b.fr) rfl ?_
    simp
    refine call0e (compare_ok a.to b.to) rfl ?_
    simp
    refine call0e (compare_ok a.nu b.nu) rfl ?_
    simp
    refine call0s [160] (or_ok [cmpI a.fr b.fr, cmpI a.to b.to, cmpI a.nu b.nu] (by simp)) (by simp) (.sc _) ?_
    simp
    exact ⟨rfl, Le.snap [] rfl rfl (by simp; exact .refl _)⟩
  refine awp_ret ?_
  exact ⟨.inr rfl, RetOk.one (by simp)⟩
def vOf (l : List Stm) (s : Stm) : Vch := ⟨s.au, s.a, s.b, s.nu, s.ti, s.c, revF l s⟩
def rawV (l m : List Stm) : List Vch := (m.filter fun s => decide (s.ki = 1)).map (vOf l)
def ofV (l : List Stm) : List Vch := isortV cmpV (rawV l l)
theorem rawV_succ (l : List Stm) (i : Nat) (h : i < l.length) : rawV l (l.take (i + 1)) = rawV l (l.take i) ++ if l[i].ki = 1 then [vOf l l[i]] else [] := by
  unfold rawV
  rw [List.take_succ_eq_append_getElem h, List.filter_append, List.map_append]
  congr 1
  by_cases hk : l[i].ki = 1
  · rw [if_pos hk]
    simp [hk]
  · rw [if_neg hk]
    simp [hk]
theorem rawV_le (l m : List Stm) : (rawV l m).length ≤ m.length := by
  unfold rawV
  rw [List.length_map]
  exact List.length_filter_le _ _
theorem rowsV_flat (l : List Vch) (ρ sn h m) : (rowsV l).map (List.map (conv ρ sn h (m + 1))) = rowsV l := by simp [Function.comp_def]
def SortH (l : List Stm) : Prop := ACalls Tryz.prog nslices_SortStableFunc_Lapi_Vouch_api_Vouch [.rs 0 0 (rawV l l).length, .fn (.func nvouch_Of_c1) [] []] [⟨7, rowsV (rawV l l), 0⟩] (.tup []) [some ⟨7, rowsV (ofV l), 0⟩]
theorem SortH.few {l : List Stm} (hn : (rawV l l).length < 20) : SortH l := SortStableV_ok nvouch_Of_c1 [] cmpV (rawV l l) _ rfl hn (fun ρ sn h n => rfl) fun x _ y _ => vouch_Of_c1_ok x y
set_option maxHeartbeats 1000000 in
set_option maxRecDepth 100000 in
theorem vouch_Of_ok (l : List Stm) (hl : l.length ≤ 100000) (hn : SortH l) : ACalls Tryz.prog nvouch_Of [sts l] [] (.rs 0 0 (ofV l).length) [some ⟨7, rowsV (ofV l), 0⟩] := by
  refine svouch_Of.acalls (Nat.le_of_ble_eq_true rfl) (Nat.le_of_ble_eq_true rfl) (Nat.zero_le _) ?_
  show awp _ 0 _ _ ⟨38, [(0, sts l)], [], 16⟩
  refine awp_regc ⟨38, [(0, sts l)], [], 24⟩ rfl (by simp; exact Le.snap [] rfl rfl (by simp)) ?_
  refine awp_regc ⟨38, [(0, sts l), (3, .sc (.slice none 0 0))], [], 32⟩ rfl (by simp; exact Le.snap [] rfl rfl (by simp)) ?_
  refine awp_seq ?_
  refine awp_regc ⟨38, [(0, sts l), (3, .sc (.slice none 0 0)), (6, sts l), (7, .I l.length), (8, .I (0 : Nat))], [], 56⟩ rfl (by simp; exact Le.snap [] rfl rfl (by simp)) ?_
  refine awp_block ?_
  refine awp_loop (ι := Nat) (fun i => ⟨38, [(0, sts l), (3, .rs 16 0 (rawV l (l.take i)).length), (6, sts l), (7, .I l.length), (8, .I i)], [(16, some ⟨7, rowsV (rawV l (l.take i)), 0⟩)], 56⟩) (fun i => i ≤ l.length) (fun i => l.length - i) 0 (Nat.zero_le _) (Le.lst [] [] [(16, 7)] rfl (by simp) (by simp) (by simp) (by simp) (by simp) (by simp) (by simp) (by simp [Up, rawV]) (by simp [rawV])) ?_
  intro i hi
  refine awp_regc ⟨38, [(0, sts l), (3, .rs 16 0 (rawV l (l.take i)).length), (6, sts l), (7, .I l.length), (8, .I i), (9, .B (decide (i < l.length)))], [(16, some ⟨7, rowsV (rawV l (l.take i)), 0⟩)], 64⟩ rfl ?_ ?_
  · simp
    exact Le.keep rfl (Nat.le_refl _) (by simp) (by simp)
  refine awp_seq ?_
  refine awp_cond _ rfl (fun h => awp_skip ?_) fun h => awp_exit (hit ?_)
  · simp only [decide_eq_true_eq] at h
    have hwi : IntKind.i64.wrap ((i : Int) + 1) = ((i + 1 : Nat) : Int) := by rw [w64 (by omega) (by omega)]; omega
    refine awp_cut (ι := Unit) (fun _ => ⟨38, [(0, sts l), (3, .rs 16 0 (rawV l (l.take (i + 1))).length), (6, sts l), (7, .I l.length), (8, .I i)], [(16, some ⟨7, rowsV (rawV l (l.take (i + 1))), 0⟩)], 500⟩) (fun _ => True) ?_ fun _ _ => ?_
    · rw [rawV_succ l i h]
      have hg : l[i]? = some l[i] := List.getElem?_eq_getElem h
      have hrl : (rawV l (l.take i)).length ≤ 100000 := Nat.le_trans (rawV_le _ _) (by rw [List.length_take]; omega)
      generalize l[i] = s at *
      generalize rawV l (l.take i) = R at *
      obtain ⟨n, hnR⟩ : ∃ n, n = R.length := ⟨_, rfl⟩
      have hXf := rowsV_flat R
      have hXl : (rowsV R).length = n := by rw [rowsV, List.length_map, hnR]
      refine awp_block ?_
      refine awp_regc ⟨38, [(0, sts l), (3, .rs 16 0 R.length), (6, sts l), (7, .I l.length), (8, .I i), (5, .pv (sC s))], [(16, some ⟨7, rowsV R, 0⟩)], 96⟩ rfl ?_ ?_
      · simp [hg, splice]
        exact Le.Z1 hXf 16 16 [80] rfl rfl (by simp) (by simp) rfl (by simp)
      refine awp_regc ⟨38, [(0, sts l), (3, .rs 16 0 R.length), (6, sts l), (7, .I l.length), (8, .I i), (5, .pv (sC s)), (14, .B (decide (s.ki = 1)))], [(16, some ⟨7, rowsV R, 0⟩)], 120⟩ rfl ?_ ?_
      · simp
        exact Le.keep rfl (Nat.le_refl _) (by simp <;> rw [Bool.eq_iff_iff] <;> simp) (by simp)
      refine awp_cond _ rfl (fun h5 => ?_) fun h5 => awp_skip ?_
      · simp only [decide_eq_true_eq] at h5
        rw [if_pos h5]
        have hXe : rowsV (R ++ [vOf l s]) = rowsV R ++ [vC (vOf l s)] := by rw [rowsV, List.map_append]; rfl
        have hRl : (R ++ [vOf l s]).length = n + 1 := by rw [List.length_append, ← hnR]; rfl
        rw [hXe, hRl, ← hnR]
        have hXf2 : ∀ ρ sn h m, (rowsV R ++ [vC (vOf l s)]).map (List.map (conv ρ sn h (m + 1))) = rowsV R ++ [vC (vOf l s)] := fun ρ sn h m => by rw [List.map_append, hXf]; simp
        have hvc : vC (vOf l s) = [.I s.au, .I s.a, .I s.b, .I s.nu, .I s.ti, .I s.c, .I (revF l s)] := rfl
        rw [hvc] at hXf2 ⊢
        generalize rowsV R = X at *
        have htk : List.take n X = X := List.take_of_length_le (by omega)
        refine awp_drw rfl ?_
        simp
        refine call0e (vouch_revoked_ok l s (by omega)) (by simp) ?_
        simp [hXl, htk]
        repeat' apply And.intro
        all_goals first | omega | rfl | exact Le.Z1 hXf2 264 16 [] rfl rfl (by simp) (by simp) (by simp [htk]) (by simp)
      · simp only [decide_eq_false_iff_not] at h5
        rw [if_neg h5, List.append_nil]
        exact ⟨(), trivial, Le.keep rfl (by simp) (by simp) (by simp)⟩
    have hXf := rowsV_flat (rawV l (l.take (i + 1)))
    refine awp_reg rfl ?_
    simp [hwi]
    exact ⟨i + 1, by omega, by omega, Le.Z1 hXf 16 16 [] rfl rfl (by simp) (by simp) rfl (by simp)⟩
  simp only [decide_eq_false_iff_not] at h
  obtain rfl : i = l.length := by omega
  rw [List.take_length]
  have hsort := hn
  unfold SortH at hsort
  have hol : (ofV l).length = (rawV l l).length := by unfold ofV isortV; rw [List.length_reverse, isortRevV_len]
  rw [hol]
  generalize ofV l = O at *
  generalize rawV l l = R at *
  refine awp_regc ⟨38, [(3, .rs 16 0 R.length)], [(16, some ⟨7, rowsV O, 0⟩)], 80⟩ rfl ?_ ?_
  · simp
    refine callM1 (i := 16) rfl (e' := ⟨7, rowsV R, 0⟩) (by simp [Function.comp_def]) hsort (by simp) (by simp) ?_
    simp [Function.comp_def]
    exact Le.keep rfl (Nat.le_refl _) (by simp) (by simp)
  refine awp_seq ?_
  refine awp_run (s := ?s9) rfl ?o9 ?q9
  case o9 => simp; rfl
  refine awp_ret ?_
  exact ⟨.inr rfl, RetOk.out [16] [] rfl (by simp) (by simp) (by simp) (by simp [Function.comp_def])⟩
end Go.Proofs.YtnlanlpbgcalcaaGreat
