/- One instruction: core.One and the reference's One come to one Lean function, 'step'. Conditions: an instruction that may be ('okI'), registers of 32 bits, a place that is no more than 2^40. -/
import Derived.Test.YtobjjmdaleoblaaCoOneWays
import Derived.Test.YtobjjmdaleoblaaCoRefWays
namespace Go.Proofs.Ytobjjmdaleoblaa.Co
open Go.RowKit Go.Proofs.YtobjjmdaleoblaaW.PrintWords Go.Proofs.YtobjjmdaleoblaaW.PrintLast Go.Proofs.YtobjjmdaleoblaaW.PrintMore Go.Proofs.Ytobjjmdaleoblaa.PCoreRuns
attribute [local go_sem] max2_int min2_int max_two min_two max_three min_three max_four min_four
set_option linter.unusedVariables false
set_option linter.unusedSimpArgs false

/-- A core: registers, and a place. -/
structure Cr where
  r0 : Int
  r1 : Int
  r2 : Int
  r3 : Int
  r4 : Int
  r5 : Int
  r6 : Int
  r7 : Int
  pc : Int
namespace Cr
def get (c : Cr) (i : Int) : Int := if i = 0 then c.r0 else if i = 1 then c.r1 else if i = 2 then c.r2 else if i = 3 then c.r3 else if i = 4 then c.r4 else if i = 5 then c.r5 else if i = 6 then c.r6 else c.r7
def set (c : Cr) (i v : Int) : Cr := ⟨upd i 0 v c.r0, upd i 1 v c.r1, upd i 2 v c.r2, upd i 3 v c.r3, upd i 4 v c.r4, upd i 5 v c.r5, upd i 6 v c.r6, upd i 7 v c.r7, c.pc⟩
def goto (c : Cr) (p : Int) : Cr := ⟨c.r0, c.r1, c.r2, c.r3, c.r4, c.r5, c.r6, c.r7, p⟩
/-- The program's core, and the reference's. -/
def val (c : Cr) : Value := .agg #[.int .u32 c.r0, .int .u32 c.r1, .int .u32 c.r2, .int .u32 c.r3, .int .u32 c.r4, .int .u32 c.r5, .int .u32 c.r6, .int .u32 c.r7, .int .i64 c.pc]
def ref (c : Cr) : Value := .agg #[.int .i64 c.r0, .int .i64 c.r1, .int .i64 c.r2, .int .i64 c.r3, .int .i64 c.r4, .int .i64 c.r5, .int .i64 c.r6, .int .i64 c.r7, .int .i64 c.pc]
/-- Registers of 32 bits. -/
def ok (c : Cr) : Prop := (0 ≤ c.r0 ∧ c.r0 < 4294967296) ∧ (0 ≤ c.r1 ∧ c.r1 < 4294967296) ∧ (0 ≤ c.r2 ∧ c.r2 < 4294967296) ∧ (0 ≤ c.r3 ∧ c.r3 < 4294967296) ∧ (0 ≤ c.r4 ∧ c.r4 < 4294967296) ∧ (0 ≤ c.r5 ∧ c.r5 < 4294967296) ∧ (0 ≤ c.r6 ∧ c.r6 < 4294967296) ∧ (0 ≤ c.r7 ∧ c.r7 < 4294967296)
theorem get_ok {c : Cr} (h : c.ok) (i : Int) : 0 ≤ c.get i ∧ c.get i < 4294967296 := by
  obtain ⟨h0, h1, h2, h3, h4, h5, h6, h7⟩ := h
  unfold get
  split
  · exact h0
  split
  · exact h1
  split
  · exact h2
  split
  · exact h3
  split
  · exact h4
  split
  · exact h5
  split
  · exact h6
  · exact h7
theorem set_ok {c : Cr} (h : c.ok) (i v : Int) (h0 : 0 ≤ v) (h1 : v < 4294967296) : (c.set i v).ok := by
  obtain ⟨g0, g1, g2, g3, g4, g5, g6, g7⟩ := h
  have key : ∀ (j r : Int), (0 ≤ r ∧ r < 4294967296) → (0 ≤ upd i j v r ∧ upd i j v r < 4294967296) := fun j r hr => by
    unfold upd; split
    · exact ⟨h0, h1⟩
    · exact hr
  exact ⟨key 0 _ g0, key 1 _ g1, key 2 _ g2, key 3 _ g3, key 4 _ g4, key 5 _ g5, key 6 _ g6, key 7 _ g7⟩
theorem goto_ok {c : Cr} (h : c.ok) (p : Int) : (c.goto p).ok := h
end Cr
theorem at8 (K : IntKind) (c : Cr) (i : Int) (h0 : 0 ≤ i) (h1 : i < 8) (x8 : Value) : #[Value.int K c.r0, .int K c.r1, .int K c.r2, .int K c.r3, .int K c.r4, .int K c.r5, .int K c.r6, .int K c.r7, x8][i.toNat]? = some (.int K (c.get i)) := by
  have h : i = 0 ∨ i = 1 ∨ i = 2 ∨ i = 3 ∨ i = 4 ∨ i = 5 ∨ i = 6 ∨ i = 7 := by omega
  rcases h with rfl | rfl | rfl | rfl | rfl | rfl | rfl | rfl <;> simp [Cr.get]

/-- What an instruction leaves in its register; none: it leaves none as it was not. -/
def writes (c : Cr) (i : S27) (self : Int) : Option Int :=
  if i.f0 = 1 then some i.f6 else if i.f0 = 2 then some (c.get i.f2) else if i.f0 = 3 then some ((c.get i.f2 + i.f6) % 4294967296) else if i.f0 = 4 then some (Go.bits .and .u32 (c.get i.f2) i.f6)
  else if i.f0 = 5 then some (c.get i.f2 * 2 ^ i.f6.toNat % 4294967296) else if i.f0 = 6 then some (c.get i.f2 / 2 ^ i.f6.toNat) else if i.f0 = 7 then some (Go.bits .or .u32 (c.get i.f2) (c.get i.f3)) else if i.f0 = 11 then some self else none
/-- Where it goes on. -/
def next (c : Cr) (i : S27) : Int := if i.f0 = 10 ∨ i.f0 = 8 ∧ c.get i.f2 = c.get i.f3 ∨ i.f0 = 9 ∧ ¬ c.get i.f2 = c.get i.f3 then i.f7 else c.pc + 1
/-- A core behind one instruction. -/
def step (c : Cr) (i : S27) (self : Int) : Cr :=
  if 16 ≤ i.f0 ∨ i.f0 = 13 then c else match writes c i self with
    | some v => (c.set i.f1 v).goto (c.pc + 1)
    | none => c.goto (next c i)
/-- An instruction that may be. -/
structure okI (i : S27) : Prop where
  op : 1 ≤ i.f0 ∧ i.f0 ≤ 13 ∨ 16 ≤ i.f0 ∧ i.f0 ≤ 23
  d : 0 ≤ i.f1 ∧ i.f1 < 8
  s : 0 ≤ i.f2 ∧ i.f2 < 8
  t : 0 ≤ i.f3 ∧ i.f3 < 8
  k : 0 ≤ i.f6 ∧ i.f6 < 4294967296
  sh : i.f0 = 5 ∨ i.f0 = 6 → i.f6 ≤ 31
def ival (i : S27) : Value := .agg #[.int .i64 i.f0, .int .i64 i.f1, .int .i64 i.f2, .int .i64 i.f3, .int .i64 i.f4, .int .i64 i.f5, .int .u32 i.f6, .int .i64 i.f7]

theorem p2_pow (n : Nat) : p2 n = 2 ^ n := by unfold p2; rw [Int.natCast_pow]; rfl
theorem p2_31 (n : Nat) (h : n ≤ 31) : p2 n ≤ 2147483648 := by
  have := Nat.pow_le_pow_right (n := 2) (by decide) h
  unfold p2; omega
theorem mul_in {x y : Int} (x0 : 0 ≤ x) (x1 : x < 4294967296) (y0 : 1 ≤ y) (y1 : y ≤ 2147483648) : x * y ≤ 9223372036854775807 := by
  have h : x * y ≤ 4294967295 * 2147483648 := Int.mul_le_mul (by omega) y1 (by omega) (by omega)
  omega
theorem pow_ints (k : Int) (k0 : 0 ≤ k) (k1 : k ≤ 31) (w : World) : Calls Try.prog 24 #[.int .i64 k] w fun e w' => e = .returned (.int .i64 (p2 k.toNat)) ∧ Drawn0 w w' := by
  obtain ⟨n, rfl⟩ := Int.eq_ofNat_of_zero_le k0
  refine (pow_calls n (by omega) w).mono fun e w' h => ?_
  obtain ⟨h1, rfl⟩ := h
  exact ⟨by rw [h1, Int.toNat_natCast], Drawn0.refl _⟩
theorem and_ints (a b : Int) (a0 : 0 ≤ a) (a1 : a < 4294967296) (b0 : 0 ≤ b) (b1 : b < 4294967296) (w : World) :
    Calls Try.prog 23 #[.int .i64 a, .int .i64 b, .int .i64 1] w fun e w' => e = .returned (.int .i64 (Go.bits .and .u32 a b)) ∧ Drawn0 w w' := by
  obtain ⟨A, rfl⟩ := Int.eq_ofNat_of_zero_le a0
  obtain ⟨B, rfl⟩ := Int.eq_ofNat_of_zero_le b0
  rw [CoPlain.and_nat A B (by omega) (by omega)]
  exact and_calls A B (by omega) (by omega) w
theorem or_ints (a b : Int) (a0 : 0 ≤ a) (a1 : a < 4294967296) (b0 : 0 ≤ b) (b1 : b < 4294967296) (w : World) :
    Calls Try.prog 23 #[.int .i64 a, .int .i64 b, .int .i64 0] w fun e w' => e = .returned (.int .i64 (Go.bits .or .u32 a b)) ∧ Drawn0 w w' := by
  obtain ⟨A, rfl⟩ := Int.eq_ofNat_of_zero_le a0
  obtain ⟨B, rfl⟩ := Int.eq_ofNat_of_zero_le b0
  rw [CoPlain.or_nat A B (by omega) (by omega)]
  exact or_calls A B (by omega) (by omega) w

theorem one_calls (c : Cr) (i : S27) (self : Int) (w : World) (hc : c.ok) (p0 : -9223372036854775808 ≤ c.pc) (p1 : c.pc ≤ 1099511627776) (hi : okI i) (f0 : 0 ≤ self) (f1 : self < 64) :
    Calls Try.prog 12 #[c.val, ival i, .int .i64 self] w fun e w' => e = .returned (step c i self).val ∧ Below w.heap.size w w' := by
  obtain ⟨op, d, s, t, u, a, k, z⟩ := i
  obtain ⟨ho, ⟨d0, d1⟩, ⟨s0, s1⟩, ⟨t0, t1⟩, ⟨k0, k2⟩, hsh⟩ := hi
  dsimp only at ho d0 d1 s0 s1 t0 t1 k0 k2 hsh
  have k1 : k ≤ 4294967295 := by omega
  have hd := at8 .u32 c d d0 d1
  have hs := at8 .u32 c s s0 s1
  have ht := at8 .u32 c t t0 t1
  obtain ⟨v0, v1⟩ := Cr.get_ok hc s
  obtain ⟨y0, y1⟩ := Cr.get_ok hc t
  have ho : op = 1 ∨ op = 2 ∨ op = 3 ∨ op = 4 ∨ op = 5 ∨ op = 6 ∨ op = 7 ∨ op = 8 ∨ op = 9 ∨ op = 10 ∨ op = 11 ∨ op = 12 ∨ op = 13 ∨ 16 ≤ op ∧ op ≤ 23 := by omega
  show Calls Try.prog 12 #[.agg #[.int .u32 c.r0, .int .u32 c.r1, .int .u32 c.r2, .int .u32 c.r3, .int .u32 c.r4, .int .u32 c.r5, .int .u32 c.r6, .int .u32 c.r7, .int .i64 c.pc], .agg #[.int .i64 op, .int .i64 d, .int .i64 s, .int .i64 t, .int .i64 u, .int .i64 a, .int .u32 k, .int .i64 z], .int .i64 self] w _
  rcases ho with rfl | rfl | rfl | rfl | rfl | rfl | rfl | rfl | rfl | rfl | rfl | rfl | rfl | ⟨hm0, hm1⟩
  · refine (one_1 c.r0 c.r1 c.r2 c.r3 c.r4 c.r5 c.r6 c.r7 c.pc d s t u a k z self (c.get s) (c.get t) (c.get d) w d0 d1 s0 s1 t0 t1 p0 p1 hd hs ht ).mono fun _ w' h => ⟨h.1.trans (congrArg Ending.returned ?_), h.2⟩
    rfl
  · refine (one_2 c.r0 c.r1 c.r2 c.r3 c.r4 c.r5 c.r6 c.r7 c.pc d s t u a k z self (c.get s) (c.get t) (c.get d) w d0 d1 s0 s1 t0 t1 p0 p1 hd hs ht ).mono fun _ w' h => ⟨h.1.trans (congrArg Ending.returned ?_), h.2⟩
    rfl
  · refine (one_3 c.r0 c.r1 c.r2 c.r3 c.r4 c.r5 c.r6 c.r7 c.pc d s t u a k z self (c.get s) (c.get t) (c.get d) w d0 d1 s0 s1 t0 t1 p0 p1 hd hs ht ).mono fun _ w' h => ⟨h.1.trans (congrArg Ending.returned ?_), h.2⟩
    rfl
  · refine (one_4 c.r0 c.r1 c.r2 c.r3 c.r4 c.r5 c.r6 c.r7 c.pc d s t u a k z self (c.get s) (c.get t) (c.get d) w d0 d1 s0 s1 t0 t1 p0 p1 hd hs ht ).mono fun _ w' h => ⟨h.1.trans (congrArg Ending.returned ?_), h.2⟩
    rfl
  · refine (one_5 c.r0 c.r1 c.r2 c.r3 c.r4 c.r5 c.r6 c.r7 c.pc d s t u a k z self (c.get s) (c.get t) (c.get d) w d0 d1 s0 s1 t0 t1 p0 p1 hd hs ht k0 (hsh (.inl rfl)) v0 v1).mono fun _ w' h => ⟨h.1.trans (congrArg Ending.returned ?_), h.2⟩
    rfl
  · refine (one_6 c.r0 c.r1 c.r2 c.r3 c.r4 c.r5 c.r6 c.r7 c.pc d s t u a k z self (c.get s) (c.get t) (c.get d) w d0 d1 s0 s1 t0 t1 p0 p1 hd hs ht k0 (hsh (.inr rfl)) v0 v1).mono fun _ w' h => ⟨h.1.trans (congrArg Ending.returned ?_), h.2⟩
    rfl
  · refine (one_7 c.r0 c.r1 c.r2 c.r3 c.r4 c.r5 c.r6 c.r7 c.pc d s t u a k z self (c.get s) (c.get t) (c.get d) w d0 d1 s0 s1 t0 t1 p0 p1 hd hs ht ).mono fun _ w' h => ⟨h.1.trans (congrArg Ending.returned ?_), h.2⟩
    rfl
  · by_cases e : c.get s = c.get t
    · refine (one_8t c.r0 c.r1 c.r2 c.r3 c.r4 c.r5 c.r6 c.r7 c.pc d s t u a k z self (c.get s) (c.get t) (c.get d) w d0 d1 s0 s1 t0 t1 p0 p1 hd hs ht (beq_iff_eq.mpr e)).mono fun _ w' h => ⟨h.1.trans (congrArg Ending.returned ?_), h.2⟩
      show _ = (c.goto (next c ⟨8, d, s, t, u, a, k, z⟩)).val
      rw [show next c ⟨8, d, s, t, u, a, k, z⟩ = z by simp [next, e]]; rfl
    · refine (one_8f c.r0 c.r1 c.r2 c.r3 c.r4 c.r5 c.r6 c.r7 c.pc d s t u a k z self (c.get s) (c.get t) (c.get d) w d0 d1 s0 s1 t0 t1 p0 p1 hd hs ht (beq_eq_false_iff_ne.mpr e)).mono fun _ w' h => ⟨h.1.trans (congrArg Ending.returned ?_), h.2⟩
      show _ = (c.goto (next c ⟨8, d, s, t, u, a, k, z⟩)).val
      rw [show next c ⟨8, d, s, t, u, a, k, z⟩ = c.pc + 1 by simp [next, e]]; rfl
  · by_cases e : c.get s = c.get t
    · refine (one_9f c.r0 c.r1 c.r2 c.r3 c.r4 c.r5 c.r6 c.r7 c.pc d s t u a k z self (c.get s) (c.get t) (c.get d) w d0 d1 s0 s1 t0 t1 p0 p1 hd hs ht (beq_iff_eq.mpr e)).mono fun _ w' h => ⟨h.1.trans (congrArg Ending.returned ?_), h.2⟩
      show _ = (c.goto (next c ⟨9, d, s, t, u, a, k, z⟩)).val
      rw [show next c ⟨9, d, s, t, u, a, k, z⟩ = c.pc + 1 by simp [next, e]]; rfl
    · refine (one_9t c.r0 c.r1 c.r2 c.r3 c.r4 c.r5 c.r6 c.r7 c.pc d s t u a k z self (c.get s) (c.get t) (c.get d) w d0 d1 s0 s1 t0 t1 p0 p1 hd hs ht (beq_eq_false_iff_ne.mpr e)).mono fun _ w' h => ⟨h.1.trans (congrArg Ending.returned ?_), h.2⟩
      show _ = (c.goto (next c ⟨9, d, s, t, u, a, k, z⟩)).val
      rw [show next c ⟨9, d, s, t, u, a, k, z⟩ = z by simp [next, e]]; rfl
  · refine (one_10 c.r0 c.r1 c.r2 c.r3 c.r4 c.r5 c.r6 c.r7 c.pc d s t u a k z self (c.get s) (c.get t) (c.get d) w d0 d1 s0 s1 t0 t1 p0 p1 hd hs ht ).mono fun _ w' h => ⟨h.1.trans (congrArg Ending.returned ?_), h.2⟩
    rfl
  · refine (one_11 c.r0 c.r1 c.r2 c.r3 c.r4 c.r5 c.r6 c.r7 c.pc d s t u a k z self (c.get s) (c.get t) (c.get d) w d0 d1 s0 s1 t0 t1 p0 p1 hd hs ht f0 f1).mono fun _ w' h => ⟨h.1.trans (congrArg Ending.returned ?_), h.2⟩
    rfl
  · refine (one_12 c.r0 c.r1 c.r2 c.r3 c.r4 c.r5 c.r6 c.r7 c.pc d s t u a k z self (c.get s) (c.get t) (c.get d) w d0 d1 s0 s1 t0 t1 p0 p1 hd hs ht ).mono fun _ w' h => ⟨h.1.trans (congrArg Ending.returned ?_), h.2⟩
    rfl
  · refine (one_13 c.r0 c.r1 c.r2 c.r3 c.r4 c.r5 c.r6 c.r7 c.pc d s t u a k z self w).mono fun _ w' h => ⟨h.1.trans (congrArg Ending.returned ?_), h.2⟩
    rfl
  · refine (one_mem c.r0 c.r1 c.r2 c.r3 c.r4 c.r5 c.r6 c.r7 c.pc op d s t u a k z self w (decide_eq_true hm0) (decide_eq_true hm1)).mono fun _ w' h => ⟨h.1.trans (congrArg Ending.returned ?_), h.2⟩
    unfold step; rw [if_pos (.inl hm0)]; rfl

theorem ref_calls (c : Cr) (i : S27) (self : Int) (w : World) (hc : c.ok) (p0 : -9223372036854775808 ≤ c.pc) (p1 : c.pc ≤ 1099511627776) (hi : okI i) (f0 : 0 ≤ self) (f1 : self < 64) :
    Calls Try.prog 13 #[c.ref, ival i, .int .i64 self] w fun e w' => e = .returned (step c i self).ref ∧ Below w.heap.size w w' := by
  obtain ⟨op, d, s, t, u, a, k, z⟩ := i
  obtain ⟨ho, ⟨d0, d1⟩, ⟨s0, s1⟩, ⟨t0, t1⟩, ⟨k0, k2⟩, hsh⟩ := hi
  dsimp only at ho d0 d1 s0 s1 t0 t1 k0 k2 hsh
  have k1 : k ≤ 4294967295 := by omega
  have hd := at8 .i64 c d d0 d1
  have hs := at8 .i64 c s s0 s1
  have ht := at8 .i64 c t t0 t1
  obtain ⟨v0, v1⟩ := Cr.get_ok hc s
  obtain ⟨y0, y1⟩ := Cr.get_ok hc t
  have ho : op = 1 ∨ op = 2 ∨ op = 3 ∨ op = 4 ∨ op = 5 ∨ op = 6 ∨ op = 7 ∨ op = 8 ∨ op = 9 ∨ op = 10 ∨ op = 11 ∨ op = 12 ∨ op = 13 ∨ 16 ≤ op ∧ op ≤ 23 := by omega
  show Calls Try.prog 13 #[.agg #[.int .i64 c.r0, .int .i64 c.r1, .int .i64 c.r2, .int .i64 c.r3, .int .i64 c.r4, .int .i64 c.r5, .int .i64 c.r6, .int .i64 c.r7, .int .i64 c.pc], .agg #[.int .i64 op, .int .i64 d, .int .i64 s, .int .i64 t, .int .i64 u, .int .i64 a, .int .u32 k, .int .i64 z], .int .i64 self] w _
  rcases ho with rfl | rfl | rfl | rfl | rfl | rfl | rfl | rfl | rfl | rfl | rfl | rfl | rfl | ⟨hm0, hm1⟩
  · refine (ref_1 c.r0 c.r1 c.r2 c.r3 c.r4 c.r5 c.r6 c.r7 c.pc d s t u a k z self (c.get s) (c.get t) (c.get d) w d0 d1 s0 s1 t0 t1 p0 p1 k0 k1 hd hs ht ).mono fun _ w' h => ⟨h.1.trans (congrArg Ending.returned ?_), h.2⟩
    rfl
  · refine (ref_2 c.r0 c.r1 c.r2 c.r3 c.r4 c.r5 c.r6 c.r7 c.pc d s t u a k z self (c.get s) (c.get t) (c.get d) w d0 d1 s0 s1 t0 t1 p0 p1 k0 k1 hd hs ht ).mono fun _ w' h => ⟨h.1.trans (congrArg Ending.returned ?_), h.2⟩
    rfl
  · refine (ref_3 c.r0 c.r1 c.r2 c.r3 c.r4 c.r5 c.r6 c.r7 c.pc d s t u a k z self (c.get s) (c.get t) (c.get d) w d0 d1 s0 s1 t0 t1 p0 p1 k0 k1 hd hs ht v0 v1).mono fun _ w' h => ⟨h.1.trans (congrArg Ending.returned ?_), h.2⟩
    rfl
  · refine (ref_4 c.r0 c.r1 c.r2 c.r3 c.r4 c.r5 c.r6 c.r7 c.pc d s t u a k z self (c.get s) (c.get t) (c.get d) w d0 d1 s0 s1 t0 t1 p0 p1 k0 k1 hd hs ht v0 v1 _ ⟨fun w => and_ints (c.get s) k v0 v1 k0 k2 w⟩).mono fun _ w' h => ⟨h.1.trans (congrArg Ending.returned ?_), h.2⟩
    rfl
  · have k3 : k ≤ 31 := hsh (.inl rfl)
    have hb := p2_le k.toNat (by omega)
    have hb2 : p2 k.toNat ≤ 2147483648 := p2_31 k.toNat (by omega)
    refine (ref_5 c.r0 c.r1 c.r2 c.r3 c.r4 c.r5 c.r6 c.r7 c.pc d s t u a k z self (c.get s) (c.get t) (c.get d) w d0 d1 s0 s1 t0 t1 p0 p1 k0 k1 hd hs ht v0 v1 (p2 k.toNat) ⟨fun w => pow_ints k k0 k3 w⟩ (Int.mul_nonneg v0 (by omega)) (mul_in v0 v1 hb.1 hb2)).mono fun _ w' h => ⟨h.1.trans (congrArg Ending.returned ?_), h.2⟩
    show _ = ((c.set d (c.get s * 2 ^ k.toNat % 4294967296)).goto (c.pc + 1)).ref
    rw [← p2_pow]
    rfl
  · have k3 : k ≤ 31 := hsh (.inr rfl)
    have hb := p2_le k.toNat (by omega)
    refine (ref_6 c.r0 c.r1 c.r2 c.r3 c.r4 c.r5 c.r6 c.r7 c.pc d s t u a k z self (c.get s) (c.get t) (c.get d) w d0 d1 s0 s1 t0 t1 p0 p1 k0 k1 hd hs ht v0 v1 (p2 k.toNat) ⟨fun w => pow_ints k k0 k3 w⟩ hb.1).mono fun _ w' h => ⟨h.1.trans (congrArg Ending.returned ?_), h.2⟩
    show _ = ((c.set d (c.get s / 2 ^ k.toNat)).goto (c.pc + 1)).ref
    rw [← p2_pow]
    rfl
  · refine (ref_7 c.r0 c.r1 c.r2 c.r3 c.r4 c.r5 c.r6 c.r7 c.pc d s t u a k z self (c.get s) (c.get t) (c.get d) w d0 d1 s0 s1 t0 t1 p0 p1 k0 k1 hd hs ht v0 v1 _ ⟨fun w => or_ints (c.get s) (c.get t) v0 v1 y0 y1 w⟩).mono fun _ w' h => ⟨h.1.trans (congrArg Ending.returned ?_), h.2⟩
    rfl
  · by_cases e : c.get s = c.get t
    · refine (ref_8t c.r0 c.r1 c.r2 c.r3 c.r4 c.r5 c.r6 c.r7 c.pc d s t u a k z self (c.get s) (c.get t) (c.get d) w d0 d1 s0 s1 t0 t1 p0 p1 k0 k1 hd hs ht (beq_iff_eq.mpr e)).mono fun _ w' h => ⟨h.1.trans (congrArg Ending.returned ?_), h.2⟩
      show _ = (c.goto (next c ⟨8, d, s, t, u, a, k, z⟩)).ref
      rw [show next c ⟨8, d, s, t, u, a, k, z⟩ = z by simp [next, e]]; rfl
    · refine (ref_8f c.r0 c.r1 c.r2 c.r3 c.r4 c.r5 c.r6 c.r7 c.pc d s t u a k z self (c.get s) (c.get t) (c.get d) w d0 d1 s0 s1 t0 t1 p0 p1 k0 k1 hd hs ht (beq_eq_false_iff_ne.mpr e)).mono fun _ w' h => ⟨h.1.trans (congrArg Ending.returned ?_), h.2⟩
      show _ = (c.goto (next c ⟨8, d, s, t, u, a, k, z⟩)).ref
      rw [show next c ⟨8, d, s, t, u, a, k, z⟩ = c.pc + 1 by simp [next, e]]; rfl
  · by_cases e : c.get s = c.get t
    · refine (ref_9f c.r0 c.r1 c.r2 c.r3 c.r4 c.r5 c.r6 c.r7 c.pc d s t u a k z self (c.get s) (c.get t) (c.get d) w d0 d1 s0 s1 t0 t1 p0 p1 k0 k1 hd hs ht (beq_iff_eq.mpr e) (bne_eq_false_iff_eq.mpr e)).mono fun _ w' h => ⟨h.1.trans (congrArg Ending.returned ?_), h.2⟩
      show _ = (c.goto (next c ⟨9, d, s, t, u, a, k, z⟩)).ref
      rw [show next c ⟨9, d, s, t, u, a, k, z⟩ = c.pc + 1 by simp [next, e]]; rfl
    · refine (ref_9t c.r0 c.r1 c.r2 c.r3 c.r4 c.r5 c.r6 c.r7 c.pc d s t u a k z self (c.get s) (c.get t) (c.get d) w d0 d1 s0 s1 t0 t1 p0 p1 k0 k1 hd hs ht (beq_eq_false_iff_ne.mpr e) (bne_iff_ne.mpr e)).mono fun _ w' h => ⟨h.1.trans (congrArg Ending.returned ?_), h.2⟩
      show _ = (c.goto (next c ⟨9, d, s, t, u, a, k, z⟩)).ref
      rw [show next c ⟨9, d, s, t, u, a, k, z⟩ = z by simp [next, e]]; rfl
  · refine (ref_10 c.r0 c.r1 c.r2 c.r3 c.r4 c.r5 c.r6 c.r7 c.pc d s t u a k z self (c.get s) (c.get t) (c.get d) w d0 d1 s0 s1 t0 t1 p0 p1 k0 k1 hd hs ht ).mono fun _ w' h => ⟨h.1.trans (congrArg Ending.returned ?_), h.2⟩
    rfl
  · refine (ref_11 c.r0 c.r1 c.r2 c.r3 c.r4 c.r5 c.r6 c.r7 c.pc d s t u a k z self (c.get s) (c.get t) (c.get d) w d0 d1 s0 s1 t0 t1 p0 p1 k0 k1 hd hs ht f0 f1).mono fun _ w' h => ⟨h.1.trans (congrArg Ending.returned ?_), h.2⟩
    rfl
  · refine (ref_12 c.r0 c.r1 c.r2 c.r3 c.r4 c.r5 c.r6 c.r7 c.pc d s t u a k z self (c.get s) (c.get t) (c.get d) w d0 d1 s0 s1 t0 t1 p0 p1 k0 k1 hd hs ht ).mono fun _ w' h => ⟨h.1.trans (congrArg Ending.returned ?_), h.2⟩
    rfl
  · refine (ref_13 c.r0 c.r1 c.r2 c.r3 c.r4 c.r5 c.r6 c.r7 c.pc d s t u a k z self (c.get s) (c.get t) (c.get d) w d0 d1 s0 s1 t0 t1 p0 p1 k0 k1 hd hs ht).mono fun _ w' h => ⟨h.1.trans (congrArg Ending.returned ?_), h.2⟩
    rfl
  · refine (ref_mem c.r0 c.r1 c.r2 c.r3 c.r4 c.r5 c.r6 c.r7 c.pc op d s t u a k z self (c.get s) (c.get t) (c.get d) w d0 d1 s0 s1 t0 t1 p0 p1 k0 k1 hd hs ht (decide_eq_true hm0)).mono fun _ w' h => ⟨h.1.trans (congrArg Ending.returned ?_), h.2⟩
    unfold step; rw [if_pos (.inl hm0)]; rfl
end Go.Proofs.Ytobjjmdaleoblaa.Co
