/- ropelineref08.pow and bits: powers of two, and the bits that both have (and 1) or that one has (and 0). Conditions: as many bits as a register has. -/
import Derived.Test.YtobjjmdaleoblaaPCoreRunsx0
import Derived.Test.YtobjjmdaleoblaaCoPlain
namespace Go.Proofs.Ytobjjmdaleoblaa.Co
open Go.RowKit Go.Proofs.YtobjjmdaleoblaaW.PrintWords Go.Proofs.YtobjjmdaleoblaaW.PrintLast Go.Proofs.YtobjjmdaleoblaaW.PrintMore Go.Proofs.Ytobjjmdaleoblaa.PCoreRuns Go.Proofs.Ytobjjmdaleoblaa.CoPlain
set_option linter.unusedVariables false
set_option linter.unusedSimpArgs false

theorem ret_int {k : IntKind} {a b : Int} (h : a = b) : Ending.returned (.int k a) = .returned (.int k b) := by rw [h]
/-- A power of two, behind a name. -/
def p2 (k : Nat) : Int := ((2 ^ k : Nat) : Int)
theorem p2_zero : p2 0 = 1 := rfl
theorem p2_succ (k : Nat) : p2 (k + 1) = p2 k * 2 := by unfold p2; rw [Nat.pow_succ]; omega
theorem p2_le (k : Nat) (h : k ≤ 32) : 1 ≤ p2 k ∧ p2 k ≤ 4294967296 := by
  have h1 : 0 < 2 ^ k := Nat.pow_pos (by decide)
  have h2 : 2 ^ k ≤ 2 ^ 32 := Nat.pow_le_pow_right (by decide) h
  unfold p2; omega

theorem bit_parts (A k : Nat) (hA : A < 4294967296) (b0 : 1 ≤ p2 k) :
    ∃ qa xa : Int, IntKind.i64.wrap ((A : Int).tdiv (p2 k)) = qa ∧ wrap64 ((A : Int) / p2 k) = qa ∧ qa.tmod 2 = xa ∧ 0 ≤ xa ∧ xa ≤ 1 ∧ xa = ((A / 2 ^ k % 2 : Nat) : Int) := by
  have h0 : (0 : Int) ≤ (A : Int) := by omega
  obtain ⟨q, hqd⟩ : ∃ q, q = A / 2 ^ k := ⟨_, rfl⟩
  have hq : (A : Int) / p2 k = (q : Int) := by unfold p2; rw [← Int.natCast_ediv, hqd]
  have hle : q ≤ A := by rw [hqd]; exact Nat.div_le_self _ _
  refine ⟨(q : Int), ((q % 2 : Nat) : Int), ?_, ?_, ?_, by omega, by omega, by rw [hqd]⟩
  · rw [IntWalk.i64_quo _ _ ⟨h0, by omega, b0⟩, hq]
  · rw [hq, wrap_in _ (by omega)]
  · rw [Int.tmod_eq_emod_of_nonneg (by omega)]; omega

set_option maxHeartbeats 1000000 in
set_option maxRecDepth 100000 in
theorem pow_calls (n : Nat) (hn : n ≤ 31) (w : World) :
    Calls Try.prog 24 #[.int .i64 (n : Int)] w fun e w' => e = .returned (.int .i64 (p2 n)) ∧ w = w' := by
  go_enter Try.func24, Try.ntmps24
  go_wp2
  go_loop [3, 4] (fun x i => ∃ k : Nat, k ≤ n ∧ i = .int .i64 k ∧ x = .int .i64 (p2 k)) (fun _ i => n - (intOf i).toNat)
  case atStart => exact ⟨0, Nat.zero_le _, rfl, rfl⟩
  case round =>
    obtain ⟨k, hk, rfl, rfl⟩ := hrel
    obtain ⟨b0, b1⟩ := p2_le k (by omega)
    by_cases hlt : k < n
    · have HS : Aside0 (p2 (k + 1) = p2 k * 2) := ⟨p2_succ k⟩
      go_wp2
      go_round
      case rel => exact ⟨k + 1, by omega, by go_num, by rw [HS.out]⟩
      case measure => simp [intOf]; omega
    · have e : k = n := by omega
      subst e
      go_wp2
      go_ret
      exact ⟨rfl, rfl⟩

theorem pow_quiet (n : Nat) (hn : n ≤ 31) (w : World) :
    Calls Try.prog 24 #[.int .i64 (n : Int)] w fun e w' => e = .returned (.int .i64 (p2 n)) ∧ w' = w :=
  (pow_calls n hn w).mono fun _ _ h => And.intro h.1 h.2.symm

set_option maxHeartbeats 2000000 in
set_option maxRecDepth 100000 in
theorem and_calls (A B : Nat) (hA : A < 4294967296) (hB : B < 4294967296) (w : World) :
    Calls Try.prog 23 #[.int .i64 (A : Int), .int .i64 (B : Int), .int .i64 1] w fun e w' => e = .returned (.int .i64 ((A &&& B : Nat) : Int)) ∧ Drawn0 w w' := by
  go_enter Try.func23, Try.ntmps23
  go_wp2
  go_loopw [7, 8] (fun x i wr => ∃ (k : Nat) (o : Int), k ≤ 32 ∧ i = .int .i64 k ∧ x = .int .i64 o ∧ 0 ≤ o ∧ o ≤ 4294967296 ∧ Aside0 (o = (((A &&& B) % 2 ^ k : Nat) : Int)) ∧ Aside0 (Drawn0 w wr)) (fun _ i _ => 32 - (intOf i).toNat)
  case atStart => exact ⟨0, 0, by omega, rfl, rfl, by omega, by omega, ⟨by rw [Nat.pow_zero, Nat.mod_one]; rfl⟩, ⟨Drawn0.refl _⟩⟩
  case round =>
    obtain ⟨k, o, hk, rfl, rfl, o0, o1, HO, HD⟩ := hrel
    by_cases hlt : k < 32
    · obtain ⟨b0, b1⟩ := p2_le k (by omega)
      obtain ⟨qa, xa, ga1, ga2, ga3, xa0, xa1, exa⟩ : ∃ qa xa : Int, IntKind.i64.wrap ((A : Int).tdiv (p2 k)) = qa ∧ wrap64 ((A : Int) / p2 k) = qa ∧ qa.tmod 2 = xa ∧ 0 ≤ xa ∧ xa ≤ 1 ∧ xa = ((A / 2 ^ k % 2 : Nat) : Int) := bit_parts A k hA b0
      obtain ⟨qb, xb, gb1, gb2, gb3, xb0, xb1, exb⟩ : ∃ qa xa : Int, IntKind.i64.wrap ((B : Int).tdiv (p2 k)) = qa ∧ wrap64 ((B : Int) / p2 k) = qa ∧ qa.tmod 2 = xa ∧ 0 ≤ xa ∧ xa ≤ 1 ∧ xa = ((B / 2 ^ k % 2 : Nat) : Int) := bit_parts B k hB b0
      have hst := and_step A B k
      have hml : (A &&& B) % 2 ^ (k + 1) < 2 ^ (k + 1) := Nat.mod_lt _ (Nat.pow_pos (by decide))
      have hpl : 2 ^ (k + 1) ≤ 2 ^ 32 := Nat.pow_le_pow_right (by decide) (by omega)
      have b2 : p2 k ≤ 2147483648 := by have := Nat.pow_le_pow_right (n := 2) (by decide) (show k ≤ 31 by omega); unfold p2; omega
      by_cases ht : A / 2 ^ k % 2 + B / 2 ^ k % 2 = 2
      · have HN : Aside0 (o + p2 k = (((A &&& B) % 2 ^ (k + 1) : Nat) : Int) ∧ o + p2 k ≤ 4294967296) := ⟨by
          rw [if_pos ht] at hst
          have hp : p2 k = ((2 ^ k : Nat) : Int) := rfl
          have ho := HO.out
          omega⟩
        have T : (xa + xb == 2) = true := by first | (rw [beq_iff_eq]; omega) | (rw [decide_eq_true_eq]; omega)
        have P := Aside0.mk (pow_calls k (by omega))
        have P2 := Aside0.mk (pow_quiet k (by omega))
        clear exa exb hst hml hpl ht HO
        have hT : decide ((k : Int) < 32) = true := decide_eq_true (by omega)
        go_wp2
        go_quiet ((go_at_call 24; exact Calls.quiet_of_same (P2.out _)))
        go_wp2_with (go_at_call 24; refine (P.out _).mono ?_; rintro e w' ⟨rfl, rfl⟩)
        go_roundw
        case rel => exact ⟨k + 1, _, by omega, by go_num, rfl, by omega, HN.out.2, ⟨HN.out.1⟩, ⟨HD.out.step _⟩⟩
        case measure => simp [intOf]; omega
      · have HN : Aside0 (o = (((A &&& B) % 2 ^ (k + 1) : Nat) : Int)) := ⟨by
          rw [if_neg ht] at hst
          have ho := HO.out
          omega⟩
        have T : (xa + xb == 2) = false := by first | (rw [beq_eq_false_iff_ne]; omega) | (rw [decide_eq_false_iff_not]; omega)
        have P := Aside0.mk (pow_calls k (by omega))
        have P2 := Aside0.mk (pow_quiet k (by omega))
        clear exa exb hst hml hpl ht HO
        have hT : decide ((k : Int) < 32) = true := decide_eq_true (by omega)
        go_wp2
        go_quiet ((go_at_call 24; exact Calls.quiet_of_same (P2.out _)))
        go_wp2
        go_roundw
        case rel => exact ⟨k + 1, _, by omega, by go_num, rfl, o0, o1, HN, ⟨HD.out.step _⟩⟩
        case measure => simp [intOf]; omega
    · have e : k = 32 := by omega
      have HF : Aside0 (o = ((A &&& B : Nat) : Int)) := ⟨by rw [HO.out, e, and_all A B hB]⟩
      clear e
      clear HO
      have hT : decide ((k : Int) < 32) = false := decide_eq_false (by omega)
      go_wp2
      go_ret
      exact ⟨ret_int HF.out, HD.out⟩

set_option maxHeartbeats 2000000 in
set_option maxRecDepth 100000 in
theorem or_calls (A B : Nat) (hA : A < 4294967296) (hB : B < 4294967296) (w : World) :
    Calls Try.prog 23 #[.int .i64 (A : Int), .int .i64 (B : Int), .int .i64 0] w fun e w' => e = .returned (.int .i64 ((A ||| B : Nat) : Int)) ∧ Drawn0 w w' := by
  go_enter Try.func23, Try.ntmps23
  go_wp2
  go_loopw [7, 8] (fun x i wr => ∃ (k : Nat) (o : Int), k ≤ 32 ∧ i = .int .i64 k ∧ x = .int .i64 o ∧ 0 ≤ o ∧ o ≤ 4294967296 ∧ Aside0 (o = (((A ||| B) % 2 ^ k : Nat) : Int)) ∧ Aside0 (Drawn0 w wr)) (fun _ i _ => 32 - (intOf i).toNat)
  case atStart => exact ⟨0, 0, by omega, rfl, rfl, by omega, by omega, ⟨by rw [Nat.pow_zero, Nat.mod_one]; rfl⟩, ⟨Drawn0.refl _⟩⟩
  case round =>
    obtain ⟨k, o, hk, rfl, rfl, o0, o1, HO, HD⟩ := hrel
    by_cases hlt : k < 32
    · obtain ⟨b0, b1⟩ := p2_le k (by omega)
      obtain ⟨qa, xa, ga1, ga2, ga3, xa0, xa1, exa⟩ : ∃ qa xa : Int, IntKind.i64.wrap ((A : Int).tdiv (p2 k)) = qa ∧ wrap64 ((A : Int) / p2 k) = qa ∧ qa.tmod 2 = xa ∧ 0 ≤ xa ∧ xa ≤ 1 ∧ xa = ((A / 2 ^ k % 2 : Nat) : Int) := bit_parts A k hA b0
      obtain ⟨qb, xb, gb1, gb2, gb3, xb0, xb1, exb⟩ : ∃ qa xa : Int, IntKind.i64.wrap ((B : Int).tdiv (p2 k)) = qa ∧ wrap64 ((B : Int) / p2 k) = qa ∧ qa.tmod 2 = xa ∧ 0 ≤ xa ∧ xa ≤ 1 ∧ xa = ((B / 2 ^ k % 2 : Nat) : Int) := bit_parts B k hB b0
      have hst := or_step A B k
      have hml : (A ||| B) % 2 ^ (k + 1) < 2 ^ (k + 1) := Nat.mod_lt _ (Nat.pow_pos (by decide))
      have hpl : 2 ^ (k + 1) ≤ 2 ^ 32 := Nat.pow_le_pow_right (by decide) (by omega)
      have b2 : p2 k ≤ 2147483648 := by have := Nat.pow_le_pow_right (n := 2) (by decide) (show k ≤ 31 by omega); unfold p2; omega
      by_cases ht : 0 < A / 2 ^ k % 2 + B / 2 ^ k % 2
      · have HN : Aside0 (o + p2 k = (((A ||| B) % 2 ^ (k + 1) : Nat) : Int) ∧ o + p2 k ≤ 4294967296) := ⟨by
          rw [if_pos ht] at hst
          have hp : p2 k = ((2 ^ k : Nat) : Int) := rfl
          have ho := HO.out
          omega⟩
        have T : decide (0 < xa + xb) = true := by first | (rw [beq_iff_eq]; omega) | (rw [decide_eq_true_eq]; omega)
        have P := Aside0.mk (pow_calls k (by omega))
        have P2 := Aside0.mk (pow_quiet k (by omega))
        clear exa exb hst hml hpl ht HO
        have hT : decide ((k : Int) < 32) = true := decide_eq_true (by omega)
        go_wp2
        go_quiet ((go_at_call 24; exact Calls.quiet_of_same (P2.out _)))
        go_wp2_with (go_at_call 24; refine (P.out _).mono ?_; rintro e w' ⟨rfl, rfl⟩)
        go_roundw
        case rel => exact ⟨k + 1, _, by omega, by go_num, rfl, by omega, HN.out.2, ⟨HN.out.1⟩, ⟨HD.out.step _⟩⟩
        case measure => simp [intOf]; omega
      · have HN : Aside0 (o = (((A ||| B) % 2 ^ (k + 1) : Nat) : Int)) := ⟨by
          rw [if_neg ht] at hst
          have ho := HO.out
          omega⟩
        have T : decide (0 < xa + xb) = false := by first | (rw [beq_eq_false_iff_ne]; omega) | (rw [decide_eq_false_iff_not]; omega)
        have P := Aside0.mk (pow_calls k (by omega))
        have P2 := Aside0.mk (pow_quiet k (by omega))
        clear exa exb hst hml hpl ht HO
        have hT : decide ((k : Int) < 32) = true := decide_eq_true (by omega)
        go_wp2
        go_quiet ((go_at_call 24; exact Calls.quiet_of_same (P2.out _)))
        go_wp2
        go_roundw
        case rel => exact ⟨k + 1, _, by omega, by go_num, rfl, o0, o1, HN, ⟨HD.out.step _⟩⟩
        case measure => simp [intOf]; omega
    · have e : k = 32 := by omega
      have HF : Aside0 (o = ((A ||| B : Nat) : Int)) := ⟨by rw [HO.out, e, or_all A B hA hB]⟩
      clear e
      clear HO
      have hT : decide ((k : Int) < 32) = false := decide_eq_false (by omega)
      go_wp2
      go_ret
      exact ⟨ret_int HF.out, HD.out⟩
end Go.Proofs.Ytobjjmdaleoblaa.Co
