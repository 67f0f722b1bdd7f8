/- ropelinelaw08.Ref: the reference's core of the program's. Condition: registers of 32 bits. -/
import Derived.Test.YtobjjmdaleoblaaCoStep
namespace Go.Proofs.Ytobjjmdaleoblaa.Co
open Go.RowKit Go.Proofs.YtobjjmdaleoblaaW.PrintWords Go.Proofs.YtobjjmdaleoblaaW.PrintLast Go.Proofs.YtobjjmdaleoblaaW.PrintMore Go.Proofs.Ytobjjmdaleoblaa.PCoreRuns
attribute [local go_sem] max2_int min2_int max_two min_two max_three min_three max_four min_four
set_option linter.unusedVariables false
set_option linter.unusedSimpArgs false

def fil (k j : Nat) (r : Int) : Int := if j < k then r else 0
set_option maxHeartbeats 4000000 in
set_option maxRecDepth 100000 in
theorem toRef_ints (r0 r1 r2 r3 r4 r5 r6 r7 pc : Int) (w : World) (g0 : 0 ≤ r0) (h0 : r0 < 4294967296) (g1 : 0 ≤ r1) (h1 : r1 < 4294967296) (g2 : 0 ≤ r2) (h2 : r2 < 4294967296) (g3 : 0 ≤ r3) (h3 : r3 < 4294967296) (g4 : 0 ≤ r4) (h4 : r4 < 4294967296) (g5 : 0 ≤ r5) (h5 : r5 < 4294967296) (g6 : 0 ≤ r6) (h6 : r6 < 4294967296) (g7 : 0 ≤ r7) (h7 : r7 < 4294967296) :
    Calls Try.prog 11 #[.agg #[.int .u32 r0, .int .u32 r1, .int .u32 r2, .int .u32 r3, .int .u32 r4, .int .u32 r5, .int .u32 r6, .int .u32 r7, .int .i64 pc]] w fun e w' => e = .returned (.agg #[.int .i64 r0, .int .i64 r1, .int .i64 r2, .int .i64 r3, .int .i64 r4, .int .i64 r5, .int .i64 r6, .int .i64 r7, .int .i64 pc]) ∧ Below w.heap.size w w' := by
  have i0 : ∀ w : World, (Instr.index 23 (.agg #[.int .u32 r0, .int .u32 r1, .int .u32 r2, .int .u32 r3, .int .u32 r4, .int .u32 r5, .int .u32 r6, .int .u32 r7]) (.int .i64 0)).run Try.prog w = .ok (.int .u32 r0) w := fun _ => by kernel_rfl
  have i1 : ∀ w : World, (Instr.index 23 (.agg #[.int .u32 r0, .int .u32 r1, .int .u32 r2, .int .u32 r3, .int .u32 r4, .int .u32 r5, .int .u32 r6, .int .u32 r7]) (.int .i64 1)).run Try.prog w = .ok (.int .u32 r1) w := fun _ => by kernel_rfl
  have i2 : ∀ w : World, (Instr.index 23 (.agg #[.int .u32 r0, .int .u32 r1, .int .u32 r2, .int .u32 r3, .int .u32 r4, .int .u32 r5, .int .u32 r6, .int .u32 r7]) (.int .i64 2)).run Try.prog w = .ok (.int .u32 r2) w := fun _ => by kernel_rfl
  have i3 : ∀ w : World, (Instr.index 23 (.agg #[.int .u32 r0, .int .u32 r1, .int .u32 r2, .int .u32 r3, .int .u32 r4, .int .u32 r5, .int .u32 r6, .int .u32 r7]) (.int .i64 3)).run Try.prog w = .ok (.int .u32 r3) w := fun _ => by kernel_rfl
  have i4 : ∀ w : World, (Instr.index 23 (.agg #[.int .u32 r0, .int .u32 r1, .int .u32 r2, .int .u32 r3, .int .u32 r4, .int .u32 r5, .int .u32 r6, .int .u32 r7]) (.int .i64 4)).run Try.prog w = .ok (.int .u32 r4) w := fun _ => by kernel_rfl
  have i5 : ∀ w : World, (Instr.index 23 (.agg #[.int .u32 r0, .int .u32 r1, .int .u32 r2, .int .u32 r3, .int .u32 r4, .int .u32 r5, .int .u32 r6, .int .u32 r7]) (.int .i64 5)).run Try.prog w = .ok (.int .u32 r5) w := fun _ => by kernel_rfl
  have i6 : ∀ w : World, (Instr.index 23 (.agg #[.int .u32 r0, .int .u32 r1, .int .u32 r2, .int .u32 r3, .int .u32 r4, .int .u32 r5, .int .u32 r6, .int .u32 r7]) (.int .i64 6)).run Try.prog w = .ok (.int .u32 r6) w := fun _ => by kernel_rfl
  have i7 : ∀ w : World, (Instr.index 23 (.agg #[.int .u32 r0, .int .u32 r1, .int .u32 r2, .int .u32 r3, .int .u32 r4, .int .u32 r5, .int .u32 r6, .int .u32 r7]) (.int .i64 7)).run Try.prog w = .ok (.int .u32 r7) w := fun _ => by kernel_rfl
  go_enter Try.func11, Try.ntmps11
  go_wp2
  go_loopw [11] (fun i wr => ∃ k : Nat, k ≤ 8 ∧ i = .int .i64 k ∧ wr = ((w.alloc (.cells #[.int .u32 r0, .int .u32 r1, .int .u32 r2, .int .u32 r3, .int .u32 r4, .int .u32 r5, .int .u32 r6, .int .u32 r7, .int .i64 pc] 25)).alloc (.cells #[.int .i64 0, .int .i64 0, .int .i64 0, .int .i64 0, .int .i64 0, .int .i64 0, .int .i64 0, .int .i64 0, .int .i64 0] 34)).alloc (.cells #[.int .i64 (fil k 0 r0), .int .i64 (fil k 1 r1), .int .i64 (fil k 2 r2), .int .i64 (fil k 3 r3), .int .i64 (fil k 4 r4), .int .i64 (fil k 5 r5), .int .i64 (fil k 6 r6), .int .i64 (fil k 7 r7), .int .i64 pc] 34)) (fun i _ => 8 - (intOf i).toNat)
  case atStart => exact ⟨0, by omega, rfl, rfl⟩
  case round =>
    obtain ⟨k, hk, rfl, rfl⟩ := hrel
    have hk9 : k = 0 ∨ k = 1 ∨ k = 2 ∨ k = 3 ∨ k = 4 ∨ k = 5 ∨ k = 6 ∨ k = 7 ∨ k = 8 := by omega
    rcases hk9 with rfl | rfl | rfl | rfl | rfl | rfl | rfl | rfl | rfl
    · go_wp2
      go_roundw
      case rel => exact ⟨1, by omega, rfl, rfl⟩
      case measure => simp [intOf]
    · go_wp2
      go_roundw
      case rel => exact ⟨2, by omega, rfl, rfl⟩
      case measure => simp [intOf]
    · go_wp2
      go_roundw
      case rel => exact ⟨3, by omega, rfl, rfl⟩
      case measure => simp [intOf]
    · go_wp2
      go_roundw
      case rel => exact ⟨4, by omega, rfl, rfl⟩
      case measure => simp [intOf]
    · go_wp2
      go_roundw
      case rel => exact ⟨5, by omega, rfl, rfl⟩
      case measure => simp [intOf]
    · go_wp2
      go_roundw
      case rel => exact ⟨6, by omega, rfl, rfl⟩
      case measure => simp [intOf]
    · go_wp2
      go_roundw
      case rel => exact ⟨7, by omega, rfl, rfl⟩
      case measure => simp [intOf]
    · go_wp2
      go_roundw
      case rel => exact ⟨8, by omega, rfl, rfl⟩
      case measure => simp [intOf]
    · go_wp2
      exact bodyPost_ret (v := .agg #[.int .i64 r0, .int .i64 r1, .int .i64 r2, .int .i64 r3, .int .i64 r4, .int .i64 r5, .int .i64 r6, .int .i64 r7, .int .i64 pc]) (by simp [results, Try.results11, go_sem, fil]) rfl ⟨rfl, by repeat (first | exact Below.refl _ _ | apply below_alloc | apply pw_below_drewN)⟩
theorem toRef_calls (c : Cr) (hc : c.ok) (w : World) : Calls Try.prog 11 #[c.val] w fun e w' => e = .returned c.ref ∧ Below w.heap.size w w' := by
  obtain ⟨⟨a0, b0⟩, ⟨a1, b1⟩, ⟨a2, b2⟩, ⟨a3, b3⟩, ⟨a4, b4⟩, ⟨a5, b5⟩, ⟨a6, b6⟩, ⟨a7, b7⟩⟩ := hc
  exact toRef_ints _ _ _ _ _ _ _ _ _ w a0 b0 a1 b1 a2 b2 a3 b3 a4 b4 a5 b5 a6 b6 a7 b7
end Go.Proofs.Ytobjjmdaleoblaa.Co
