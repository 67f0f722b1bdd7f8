/- The plain numbers of handles: a mask of low bits is a remainder, and two words without a common bit are joined by adding them. -/
import Derived.Laws.Entries
import Derived.IntWalk
import Derived.RowKit
namespace Go.Proofs.Ytnipoppocebfcaa.HandlePlain
open Go.RowKit

theorem and_mask (x : Int) (n : Nat) (hn : n ≤ 31) (h0 : 0 ≤ x) (h1 : x < 4294967296) :
    Go.bits .and .u32 x ((2 : Int) ^ n - 1) = x % 2 ^ n := by
  obtain ⟨m, rfl⟩ := Int.eq_ofNat_of_zero_le h0
  have hm : m < 4294967296 := by omega
  have hp : (2 : Nat) ^ n ≤ 2 ^ 31 := Nat.pow_le_pow_right (by decide) hn
  have hp0 : 0 < (2 : Nat) ^ n := Nat.pow_pos (by decide)
  have e : ((2 : Int) ^ n - 1) = ((2 ^ n - 1 : Nat) : Int) := by
    rw [Int.ofNat_sub hp0]; simp
  have hmod : m % 2 ^ n < 2 ^ n := Nat.mod_lt _ hp0
  rw [e]
  show IntKind.u32.wrap (((BitVec.ofInt 32 (m : Int) &&& BitVec.ofInt 32 ((2 ^ n - 1 : Nat) : Int)).toNat : Nat) : Int) = _
  rw [BitVec.toNat_and, BitVec.toNat_ofInt, BitVec.toNat_ofInt]
  have e1 : (((m : Nat) : Int) % (2 ^ 32 : Nat)).toNat = m := by omega
  have e2 : ((((2 ^ n - 1 : Nat)) : Int) % (2 ^ 32 : Nat)).toNat = 2 ^ n - 1 := by omega
  rw [e1, e2, Nat.and_two_pow_sub_one_eq_mod]
  rw [IntWalk.u32_in _ (by omega)]
  simp

theorem and_4095 (x : Int) (h0 : 0 ≤ x) (h1 : x < 4294967296) : Go.bits .and .u32 x 4095 = x % 4096 :=
  and_mask x 12 (by decide) h0 h1

theorem and_262143 (x : Int) (h0 : 0 ≤ x) (h1 : x < 4294967296) : Go.bits .and .u32 x 262143 = x % 262144 :=
  and_mask x 18 (by decide) h0 h1

theorem or_low (g i : Int) (hg0 : 0 ≤ g) (hg1 : g < 262144) (hi0 : 0 ≤ i) (hi1 : i < 4096) :
    Go.bits .or .i64 (g * 4096) i = g * 4096 + i := by
  obtain ⟨a, rfl⟩ := Int.eq_ofNat_of_zero_le hg0
  obtain ⟨b, rfl⟩ := Int.eq_ofNat_of_zero_le hi0
  have ha : a < 262144 := by omega
  have hb : b < 2 ^ 12 := by omega
  show IntKind.i64.wrap (((BitVec.ofInt 64 ((a : Int) * 4096) ||| BitVec.ofInt 64 (b : Int)).toNat : Nat) : Int) = _
  rw [BitVec.toNat_or, BitVec.toNat_ofInt, BitVec.toNat_ofInt]
  have e1 : (((a : Nat) : Int) * 4096 % (2 ^ 64 : Nat)).toNat = a <<< 12 := by rw [Nat.shiftLeft_eq]; omega
  have e2 : (((b : Nat) : Int) % (2 ^ 64 : Nat)).toNat = b := by omega
  rw [e1, e2, ← Nat.shiftLeft_add_eq_or_of_lt hb, Nat.shiftLeft_eq]
  rw [IntWalk.i64_in _ (by omega)]
  omega

theorem wrap_in (x : Int) (h : -9223372036854775808 ≤ x ∧ x ≤ 9223372036854775807) : wrap64 x = x := by
  unfold wrap64; omega

/-- A step that the rewriter does not take for a mere reduction. -/
theorem obind {α β : Type} (a : α) (f : α → Option β) : (some a).bind f = f a := (Option.bind_some a f).trans rfl

/-- The handle of a pair. -/
def hd (i g : Int) : Int := g * 4096 + i

theorem new_word (i g : Int) (hg0 : 0 ≤ g) (hg1 : g < 262144) (hi0 : 0 ≤ i) (hi1 : i < 4096) :
    (Go.bits .or .i64 (wrap64 (g * 4096)) i) % 4294967296 = hd i g := by
  rw [wrap_in _ (by omega), or_low g i hg0 hg1 hi0 hi1]; unfold hd; omega

end Go.Proofs.Ytnipoppocebfcaa.HandlePlain
