/- Plain numbers of the core: bit by bit and all bits at once are one. -/
import Derived.Laws.Entries
import Derived.IntWalk
import Derived.RowKit
namespace Go.Proofs.Ytobjjmdaleoblaa.CoPlain
open Go.RowKit

theorem and_nat (A B : Nat) (hA : A < 4294967296) (hB : B < 4294967296) : Go.bits .and .u32 (A : Int) (B : Int) = ((A &&& B : Nat) : Int) := by
  have h : A &&& B < 4294967296 := Nat.and_lt_two_pow A (n := 32) hB
  show IntKind.u32.wrap (((BitVec.ofInt 32 (A : Int) &&& BitVec.ofInt 32 (B : Int)).toNat : Nat) : Int) = _
  rw [BitVec.toNat_and, BitVec.toNat_ofInt, BitVec.toNat_ofInt]
  have e1 : (((A : Nat) : Int) % (2 ^ 32 : Nat)).toNat = A := by omega
  have e2 : (((B : Nat) : Int) % (2 ^ 32 : Nat)).toNat = B := by omega
  rw [e1, e2, IntWalk.u32_in _ (by omega)]
theorem or_nat (A B : Nat) (hA : A < 4294967296) (hB : B < 4294967296) : Go.bits .or .u32 (A : Int) (B : Int) = ((A ||| B : Nat) : Int) := by
  have h : A ||| B < 4294967296 := Nat.or_lt_two_pow (n := 32) hA hB
  show IntKind.u32.wrap (((BitVec.ofInt 32 (A : Int) ||| BitVec.ofInt 32 (B : Int)).toNat : Nat) : Int) = _
  rw [BitVec.toNat_or, BitVec.toNat_ofInt, BitVec.toNat_ofInt]
  have e1 : (((A : Nat) : Int) % (2 ^ 32 : Nat)).toNat = A := by omega
  have e2 : (((B : Nat) : Int) % (2 ^ 32 : Nat)).toNat = B := by omega
  rw [e1, e2, IntWalk.u32_in _ (by omega)]

theorem bit_of (x k : Nat) : (x.testBit k).toNat = x / 2 ^ k % 2 := by
  rw [Nat.testBit_eq_decide_div_mod_eq]
  have : x / 2 ^ k % 2 = 0 ∨ x / 2 ^ k % 2 = 1 := by omega
  rcases this with h | h <;> simp [h]
theorem mod_succ (x k : Nat) : x % 2 ^ (k + 1) = x % 2 ^ k + 2 ^ k * (x.testBit k).toNat := by
  rw [Nat.pow_succ, Nat.mod_mul, bit_of]
theorem and_step (A B k : Nat) : (A &&& B) % 2 ^ (k + 1) = (A &&& B) % 2 ^ k + if A / 2 ^ k % 2 + B / 2 ^ k % 2 = 2 then 2 ^ k else 0 := by
  rw [mod_succ, Nat.testBit_and]
  have hA := bit_of A k
  have hB := bit_of B k
  cases a : A.testBit k <;> cases b : B.testBit k <;> simp [a, b] at hA hB ⊢ <;> omega
theorem or_step (A B k : Nat) : (A ||| B) % 2 ^ (k + 1) = (A ||| B) % 2 ^ k + if 0 < A / 2 ^ k % 2 + B / 2 ^ k % 2 then 2 ^ k else 0 := by
  rw [mod_succ, Nat.testBit_or]
  have hA := bit_of A k
  have hB := bit_of B k
  cases a : A.testBit k <;> cases b : B.testBit k <;> simp [a, b] at hA hB ⊢ <;> omega
theorem and_all (A B : Nat) (hB : B < 4294967296) : (A &&& B) % 2 ^ 32 = A &&& B := Nat.mod_eq_of_lt (Nat.and_lt_two_pow A (n := 32) hB)
theorem or_all (A B : Nat) (hA : A < 4294967296) (hB : B < 4294967296) : (A ||| B) % 2 ^ 32 = A ||| B := Nat.mod_eq_of_lt (Nat.or_lt_two_pow (n := 32) hA hB)
theorem pow_le (k : Nat) (h : k ≤ 31) : 1 ≤ 2 ^ k ∧ 2 ^ k ≤ 2147483648 :=
  ⟨Nat.pow_pos (by decide), Nat.pow_le_pow_right (n := 2) (by decide) h⟩
theorem wrap_in (x : Int) (h : -9223372036854775808 ≤ x ∧ x ≤ 9223372036854775807) : wrap64 x = x := by unfold wrap64; omega
end Go.Proofs.Ytobjjmdaleoblaa.CoPlain
