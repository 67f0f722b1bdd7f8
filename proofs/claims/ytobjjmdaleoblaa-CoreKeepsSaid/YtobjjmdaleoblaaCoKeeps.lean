/- ropelinelaw08.CoreKeeps: its walk. -/
import Derived.Test.YtobjjmdaleoblaaCoAwake
import Derived.Test.YtobjjmdaleoblaaCoRight
import Derived.Test.YtobjjmdaleoblaaCoToRef
import Derived.Test.YtobjjmdaleoblaaCoOne
import Derived.Test.YtobjjmdaleoblaaCoKeepsPlain
import Derived.Deep.QuietTactic
import Derived.BigQuiet
namespace Go.Proofs.Ytobjjmdaleoblaa.Co
open Go.RowKit Go.Proofs.YtobjjmdaleoblaaW.PrintWords Go.Proofs.YtobjjmdaleoblaaW.PrintLast Go.Proofs.YtobjjmdaleoblaaW.PrintMore Go.Proofs.Ytobjjmdaleoblaa.PCoreRuns
attribute [local go_sem] max2_int min2_int max_two min_two max_three min_three max_four min_four
set_option linter.unusedVariables false
set_option linter.unusedSimpArgs false
set_option maxHeartbeats 8000000 in
set_option maxRecDepth 100000 in
theorem coreKeeps_calls (c : Cr) (i : S27) (self : Int) (w : World) (hc : c.ok) (p0 : -9223372036854775808 ≤ c.pc) (k0 : 0 ≤ i.f6) (k1 : i.f6 < 4294967296) (s0 : 0 ≤ self) (s1 : self < 256) :
    Calls Try.prog 6 #[c.val, ival i, .int .u8 self] w fun e w' => e = .returned (.bool true) ∧ Below w.heap.size w w' := by
  show Calls Try.prog 6 #[.agg #[.int .u32 c.r0, .int .u32 c.r1, .int .u32 c.r2, .int .u32 c.r3, .int .u32 c.r4, .int .u32 c.r5, .int .u32 c.r6, .int .u32 c.r7, .int .i64 c.pc], .agg #[.int .i64 i.f0, .int .i64 i.f1, .int .i64 i.f2, .int .i64 i.f3, .int .i64 i.f4, .int .i64 i.f5, .int .u32 i.f6, .int .i64 i.f7], .int .u8 self] w _
  go_enter Try.func6, Try.ntmps6
  go_wp2_with fail
  refine (iref_calls i _).mono ?_
  rintro e w1 ⟨rfl, hb⟩
  have B0 := Aside0.mk (blk_below (blk_alloc (blk_new w (.cells #[.int .u32 c.r0, .int .u32 c.r1, .int .u32 c.r2, .int .u32 c.r3, .int .u32 c.r4, .int .u32 c.r5, .int .u32 c.r6, .int .u32 c.r7, .int .i64 c.pc] 25)) (.cells #[.int .i64 i.f0, .int .i64 i.f1, .int .i64 i.f2, .int .i64 i.f3, .int .i64 i.f4, .int .i64 i.f5, .int .u32 i.f6, .int .i64 i.f7] 27)) hb)
  have B1 := Aside0.mk (blk_below (blocks2 w (.cells #[.int .u32 c.r0, .int .u32 c.r1, .int .u32 c.r2, .int .u32 c.r3, .int .u32 c.r4, .int .u32 c.r5, .int .u32 c.r6, .int .u32 c.r7, .int .i64 c.pc] 25) (.cells #[.int .i64 i.f0, .int .i64 i.f1, .int .i64 i.f2, .int .i64 i.f3, .int .i64 i.f4, .int .i64 i.f5, .int .u32 i.f6, .int .i64 i.f7] 27)) hb)
  have HB := Aside0.mk (below_step (below_alloc (below_alloc (Below.refl w.heap.size w) _) _) hb)
  clear hb
  unfold ival
  go_wp2_with fail
  refine (right_calls i 1073741824 _ k0 k1).mono ?_
  rintro e w2 ⟨b, rfl, hi, hb⟩
  have n0 := Aside0.mk (blk_below B0.out hb)
  have n1 := Aside0.mk (blk_below B1.out hb)
  have n2 := Aside0.mk (below_step HB.out hb)
  clear B0 B1 HB hb
  have B0 := n0
  have B1 := n1
  have HB := n2
  clear n0 n1 n2
  cases b with
  | false =>
    go_wp2_with fail
    refine (awake_calls _).mono ?_
    rintro e w3 ⟨rfl, hb⟩
    go_wp2
    go_ret
    exact ⟨rfl, below_step HB.out hb⟩
  | true =>
  replace hi := hi rfl
  have cp := (blk_cell B0.out 8).trans rfl
  by_cases p1 : c.pc ≤ 1099511627776
  case neg =>
    have g : decide (1099511627776 < c.pc) = true := decide_eq_true (by omega)
    go_wp2_with fail
    refine (awake_calls _).mono ?_
    rintro e w3 ⟨rfl, hb⟩
    go_wp2
    go_ret
    exact ⟨rfl, below_step HB.out hb⟩
  have g : decide (1099511627776 < c.pc) = false := decide_eq_false (by omega)
  have t0 : 0 ≤ self % 64 := by omega
  have t1 : self % 64 < 64 := by omega
  have c0 := (blk_cell B0.out 0).trans rfl
  have c1 := (blk_cell B0.out 1).trans rfl
  have c2 := (blk_cell B0.out 2).trans rfl
  have c3 := (blk_cell B0.out 3).trans rfl
  have c4 := (blk_cell B0.out 4).trans rfl
  have c5 := (blk_cell B0.out 5).trans rfl
  have c6 := (blk_cell B0.out 6).trans rfl
  have c7 := (blk_cell B0.out 7).trans rfl
  have i0 := (blk_cell B1.out 0).trans rfl
  have i1 := (blk_cell B1.out 1).trans rfl
  have i2 := (blk_cell B1.out 2).trans rfl
  have i3 := (blk_cell B1.out 3).trans rfl
  have i4 := (blk_cell B1.out 4).trans rfl
  have i5 := (blk_cell B1.out 5).trans rfl
  have i6 := (blk_cell B1.out 6).trans rfl
  have i7 := (blk_cell B1.out 7).trans rfl
  go_wp2_with fail
  have P := Aside0.mk (fun W => one_calls c i (self % 64) W hc p0 p1 hi t0 t1)
  generalize self % 64 = t at t0 t1 P ⊢
  have hs : (step c i t).ok := step_ok hc hi t0 t1
  have HK := Aside0.mk (fun (k : Int) (k0 : 0 ≤ k) (k1 : k < 8) (h : ¬ ((1 ≤ i.f0 ∧ i.f0 ≤ 7 ∨ i.f0 = 11) ∧ k = i.f1)) => step_keeps c i t k hi.d.1 hi.d.2 (by have := hi.op; omega) k0 k1 h)
  have HM := Aside0.mk (step_mem c i t)
  have o1 : decide (1 ≤ i.f0) = true := decide_eq_true (by have := hi.op; omega)
  clear g cp c0 i0 c1 i1 c2 i2 c3 i3 c4 i4 c5 i5 c6 i6 c7 i7
  refine (P.out _).mono ?_
  rintro e w3 ⟨rfl, hb⟩
  have n0 := Aside0.mk (blk_below B0.out hb)
  have n1 := Aside0.mk (blk_below B1.out hb)
  have n2 := Aside0.mk (below_step HB.out hb)
  clear B0 B1 HB hb P
  have B0 := n0
  have B1 := n1
  have HB := n2
  clear n0 n1 n2
  generalize step c i t = x at hs HK HM ⊢
  unfold Cr.val
  have i0 := (blk_cell B1.out 0).trans rfl
  have i1 := (blk_cell B1.out 1).trans rfl
  have i2 := (blk_cell B1.out 2).trans rfl
  have i3 := (blk_cell B1.out 3).trans rfl
  have i4 := (blk_cell B1.out 4).trans rfl
  have i5 := (blk_cell B1.out 5).trans rfl
  have i6 := (blk_cell B1.out 6).trans rfl
  have i7 := (blk_cell B1.out 7).trans rfl
  have z1 : w.heap.size + 1 < w3.heap.size := blk_lt B1.out
  have z0 : w.heap.size < w3.heap.size := by omega
  have B2 := Aside0.mk (blk_new w3 (.cells #[.int .u32 x.r0, .int .u32 x.r1, .int .u32 x.r2, .int .u32 x.r3, .int .u32 x.r4, .int .u32 x.r5, .int .u32 x.r6, .int .u32 x.r7, .int .i64 x.pc] 25))
  have n0 := Aside0.mk (blk_alloc B0.out (.cells #[.int .u32 x.r0, .int .u32 x.r1, .int .u32 x.r2, .int .u32 x.r3, .int .u32 x.r4, .int .u32 x.r5, .int .u32 x.r6, .int .u32 x.r7, .int .i64 x.pc] 25))
  have n1 := Aside0.mk (blk_alloc B1.out (.cells #[.int .u32 x.r0, .int .u32 x.r1, .int .u32 x.r2, .int .u32 x.r3, .int .u32 x.r4, .int .u32 x.r5, .int .u32 x.r6, .int .u32 x.r7, .int .i64 x.pc] 25))
  have n2 := Aside0.mk (below_alloc HB.out (.cells #[.int .u32 x.r0, .int .u32 x.r1, .int .u32 x.r2, .int .u32 x.r3, .int .u32 x.r4, .int .u32 x.r5, .int .u32 x.r6, .int .u32 x.r7, .int .i64 x.pc] 25))
  clear B0 B1 HB
  by_cases h7 : i.f0 ≤ 7 ∨ i.f0 = 11
  · have HW : Aside0 (i.f0 ≤ 7 ∨ i.f0 = 11) := ⟨h7⟩
    clear h7
    by_cases h7 : i.f0 ≤ 7
    · have o2 : decide (i.f0 ≤ 7) = true := decide_eq_true h7
      clear h7
      go_wp2_with fail
      clear z0 z1 i0 i1 i2 i3 i4 i5 i6 i7
      have n3 := Aside0.mk hs
      go_loopw [39] (fun v wr => ∃ k : Nat, k ≤ 8 ∧ v = .int .i64 k ∧ Aside0 (wr.heap[w.heap.size]? = some (.cells #[.int .u32 c.r0, .int .u32 c.r1, .int .u32 c.r2, .int .u32 c.r3, .int .u32 c.r4, .int .u32 c.r5, .int .u32 c.r6, .int .u32 c.r7, .int .i64 c.pc] 25 (0, 0))) ∧ Aside0 (wr.heap[w.heap.size + 1]? = some (.cells #[.int .i64 i.f0, .int .i64 i.f1, .int .i64 i.f2, .int .i64 i.f3, .int .i64 i.f4, .int .i64 i.f5, .int .u32 i.f6, .int .i64 i.f7] 27 (0, 0))) ∧ Aside0 (wr.heap[w3.heap.size]? = some (.cells #[.int .u32 x.r0, .int .u32 x.r1, .int .u32 x.r2, .int .u32 x.r3, .int .u32 x.r4, .int .u32 x.r5, .int .u32 x.r6, .int .u32 x.r7, .int .i64 x.pc] 25 (0, 0))) ∧ Aside0 (Below w.heap.size w wr)) (fun v _ => 8 - (intOf v).toNat)
      case atStart => exact ⟨0, Nat.zero_le _, rfl, n0, n1, B2, n2⟩
      case round =>
        obtain ⟨k, hk, rfl, B0, B1, BX, HB⟩ := hrel
        by_cases hlt : k < 8
        · have k0 : 0 ≤ (k : Int) := by omega
          have k1 : (k : Int) < 8 := by omega
          have cc : wr.cell? ⟨w.heap.size, k, none⟩ = some (.int .u32 (c.get k)) := (blk_cell B0.out k).trans (at8 .u32 c (k : Int) k0 k1 _)
          have cx : wr.cell? ⟨w3.heap.size, k, none⟩ = some (.int .u32 (x.get k)) := (blk_cell BX.out k).trans (at8 .u32 x (k : Int) k0 k1 _)
          have ci : wr.cell? ⟨w.heap.size + 1, 1, none⟩ = some (.int .i64 i.f1) := (blk_cell B1.out 1).trans rfl
          have hT : decide ((k : Int) < 8) = true := decide_eq_true k1
          by_cases he : x.get k = c.get k
          · have hne : (x.get k != c.get k) = false := bne_eq_false_iff_eq.mpr he
            clear he
            generalize x.get k = xv at cx hne
            generalize c.get k = cv at cc hne
            go_wp2_with fail
            go_quiet (fail)
            go_wp2_with fail
            go_roundw
            case rel => exact ⟨k + 1, by omega, by go_num, B0, B1, BX, ⟨pw_below_drewN HB.out _⟩⟩
            case measure => simp [intOf]; omega
          · have hw : (1 ≤ i.f0 ∧ i.f0 ≤ 7 ∨ i.f0 = 11) ∧ (k : Int) = i.f1 := Decidable.byContradiction fun hh => he (HK.out k k0 k1 hh)
            have hne : (x.get k != c.get k) = true := bne_iff_ne.mpr he
            have hd : ((k : Int) != i.f1) = false := bne_eq_false_iff_eq.mpr hw.2
            clear he hw
            generalize x.get k = xv at cx hne
            generalize c.get k = cv at cc hne
            go_wp2_with fail
            go_quiet (fail)
            go_wp2_with fail
            go_roundw
            case rel => exact ⟨k + 1, by omega, by go_num, B0, B1, BX, ⟨pw_below_drewN HB.out _⟩⟩
            case measure => simp [intOf]; omega
        · have e : k = 8 := by omega
          subst e
          have c0 := (blk_cell B0.out 0).trans rfl
          have c1 := (blk_cell B0.out 1).trans rfl
          have c2 := (blk_cell B0.out 2).trans rfl
          have c3 := (blk_cell B0.out 3).trans rfl
          have c4 := (blk_cell B0.out 4).trans rfl
          have c5 := (blk_cell B0.out 5).trans rfl
          have c6 := (blk_cell B0.out 6).trans rfl
          have c7 := (blk_cell B0.out 7).trans rfl
          have c8 := (blk_cell B0.out 8).trans rfl
          have x0 := (blk_cell BX.out 0).trans rfl
          have x1 := (blk_cell BX.out 1).trans rfl
          have x2 := (blk_cell BX.out 2).trans rfl
          have x3 := (blk_cell BX.out 3).trans rfl
          have x4 := (blk_cell BX.out 4).trans rfl
          have x5 := (blk_cell BX.out 5).trans rfl
          have x6 := (blk_cell BX.out 6).trans rfl
          have x7 := (blk_cell BX.out 7).trans rfl
          have x8 := (blk_cell BX.out 8).trans rfl
          have ci : wr.cell? ⟨w.heap.size + 1, 0, none⟩ = some (.int .i64 i.f0) := (blk_cell B1.out 0).trans rfl
          have hT : decide ((8 : Int) < 8) = false := decide_eq_false (by omega)
          have hL : decide (i.f0 < 16) = true := decide_eq_true (by have := HW.out; omega)
          go_wp2_with fail
          refine (awake_calls _).mono ?_
          rintro e w4 ⟨rfl, hb⟩
          go_wp2
          go_ret
          exact ⟨rfl, below_step HB.out hb⟩
    · have o2 : decide (i.f0 ≤ 7) = false := decide_eq_false h7
      have o3 : (i.f0 == 11) = true := beq_iff_eq.mpr (by have := HW.out; omega)
      clear h7
      go_wp2_with fail
      clear z0 z1 i0 i1 i2 i3 i4 i5 i6 i7
      have n3 := Aside0.mk hs
      go_loopw [39] (fun v wr => ∃ k : Nat, k ≤ 8 ∧ v = .int .i64 k ∧ Aside0 (wr.heap[w.heap.size]? = some (.cells #[.int .u32 c.r0, .int .u32 c.r1, .int .u32 c.r2, .int .u32 c.r3, .int .u32 c.r4, .int .u32 c.r5, .int .u32 c.r6, .int .u32 c.r7, .int .i64 c.pc] 25 (0, 0))) ∧ Aside0 (wr.heap[w.heap.size + 1]? = some (.cells #[.int .i64 i.f0, .int .i64 i.f1, .int .i64 i.f2, .int .i64 i.f3, .int .i64 i.f4, .int .i64 i.f5, .int .u32 i.f6, .int .i64 i.f7] 27 (0, 0))) ∧ Aside0 (wr.heap[w3.heap.size]? = some (.cells #[.int .u32 x.r0, .int .u32 x.r1, .int .u32 x.r2, .int .u32 x.r3, .int .u32 x.r4, .int .u32 x.r5, .int .u32 x.r6, .int .u32 x.r7, .int .i64 x.pc] 25 (0, 0))) ∧ Aside0 (Below w.heap.size w wr)) (fun v _ => 8 - (intOf v).toNat)
      case atStart => exact ⟨0, Nat.zero_le _, rfl, n0, n1, B2, n2⟩
      case round =>
        obtain ⟨k, hk, rfl, B0, B1, BX, HB⟩ := hrel
        by_cases hlt : k < 8
        · have k0 : 0 ≤ (k : Int) := by omega
          have k1 : (k : Int) < 8 := by omega
          have cc : wr.cell? ⟨w.heap.size, k, none⟩ = some (.int .u32 (c.get k)) := (blk_cell B0.out k).trans (at8 .u32 c (k : Int) k0 k1 _)
          have cx : wr.cell? ⟨w3.heap.size, k, none⟩ = some (.int .u32 (x.get k)) := (blk_cell BX.out k).trans (at8 .u32 x (k : Int) k0 k1 _)
          have ci : wr.cell? ⟨w.heap.size + 1, 1, none⟩ = some (.int .i64 i.f1) := (blk_cell B1.out 1).trans rfl
          have hT : decide ((k : Int) < 8) = true := decide_eq_true k1
          by_cases he : x.get k = c.get k
          · have hne : (x.get k != c.get k) = false := bne_eq_false_iff_eq.mpr he
            clear he
            generalize x.get k = xv at cx hne
            generalize c.get k = cv at cc hne
            go_wp2_with fail
            go_quiet (fail)
            go_wp2_with fail
            go_roundw
            case rel => exact ⟨k + 1, by omega, by go_num, B0, B1, BX, ⟨pw_below_drewN HB.out _⟩⟩
            case measure => simp [intOf]; omega
          · have hw : (1 ≤ i.f0 ∧ i.f0 ≤ 7 ∨ i.f0 = 11) ∧ (k : Int) = i.f1 := Decidable.byContradiction fun hh => he (HK.out k k0 k1 hh)
            have hne : (x.get k != c.get k) = true := bne_iff_ne.mpr he
            have hd : ((k : Int) != i.f1) = false := bne_eq_false_iff_eq.mpr hw.2
            clear he hw
            generalize x.get k = xv at cx hne
            generalize c.get k = cv at cc hne
            go_wp2_with fail
            go_quiet (fail)
            go_wp2_with fail
            go_roundw
            case rel => exact ⟨k + 1, by omega, by go_num, B0, B1, BX, ⟨pw_below_drewN HB.out _⟩⟩
            case measure => simp [intOf]; omega
        · have e : k = 8 := by omega
          subst e
          have c0 := (blk_cell B0.out 0).trans rfl
          have c1 := (blk_cell B0.out 1).trans rfl
          have c2 := (blk_cell B0.out 2).trans rfl
          have c3 := (blk_cell B0.out 3).trans rfl
          have c4 := (blk_cell B0.out 4).trans rfl
          have c5 := (blk_cell B0.out 5).trans rfl
          have c6 := (blk_cell B0.out 6).trans rfl
          have c7 := (blk_cell B0.out 7).trans rfl
          have c8 := (blk_cell B0.out 8).trans rfl
          have x0 := (blk_cell BX.out 0).trans rfl
          have x1 := (blk_cell BX.out 1).trans rfl
          have x2 := (blk_cell BX.out 2).trans rfl
          have x3 := (blk_cell BX.out 3).trans rfl
          have x4 := (blk_cell BX.out 4).trans rfl
          have x5 := (blk_cell BX.out 5).trans rfl
          have x6 := (blk_cell BX.out 6).trans rfl
          have x7 := (blk_cell BX.out 7).trans rfl
          have x8 := (blk_cell BX.out 8).trans rfl
          have ci : wr.cell? ⟨w.heap.size + 1, 0, none⟩ = some (.int .i64 i.f0) := (blk_cell B1.out 0).trans rfl
          have hT : decide ((8 : Int) < 8) = false := decide_eq_false (by omega)
          have hL : decide (i.f0 < 16) = true := decide_eq_true (by have := HW.out; omega)
          go_wp2_with fail
          refine (awake_calls _).mono ?_
          rintro e w4 ⟨rfl, hb⟩
          go_wp2
          go_ret
          exact ⟨rfl, below_step HB.out hb⟩
  · have HW : Aside0 (¬ (i.f0 ≤ 7 ∨ i.f0 = 11)) := ⟨h7⟩
    have o2 : decide (i.f0 ≤ 7) = false := decide_eq_false (by omega)
    have o3 : (i.f0 == 11) = false := beq_eq_false_iff_ne.mpr (by omega)
    clear h7
    go_wp2_with fail
    clear z0 z1 i0 i1 i2 i3 i4 i5 i6 i7
    have n3 := Aside0.mk hs
    go_loopw [39] (fun v wr => ∃ k : Nat, k ≤ 8 ∧ v = .int .i64 k ∧ Aside0 (wr.heap[w.heap.size]? = some (.cells #[.int .u32 c.r0, .int .u32 c.r1, .int .u32 c.r2, .int .u32 c.r3, .int .u32 c.r4, .int .u32 c.r5, .int .u32 c.r6, .int .u32 c.r7, .int .i64 c.pc] 25 (0, 0))) ∧ Aside0 (wr.heap[w.heap.size + 1]? = some (.cells #[.int .i64 i.f0, .int .i64 i.f1, .int .i64 i.f2, .int .i64 i.f3, .int .i64 i.f4, .int .i64 i.f5, .int .u32 i.f6, .int .i64 i.f7] 27 (0, 0))) ∧ Aside0 (wr.heap[w3.heap.size]? = some (.cells #[.int .u32 x.r0, .int .u32 x.r1, .int .u32 x.r2, .int .u32 x.r3, .int .u32 x.r4, .int .u32 x.r5, .int .u32 x.r6, .int .u32 x.r7, .int .i64 x.pc] 25 (0, 0))) ∧ Aside0 (Below w.heap.size w wr)) (fun v _ => 8 - (intOf v).toNat)
    case atStart => exact ⟨0, Nat.zero_le _, rfl, n0, n1, B2, n2⟩
    case round =>
      obtain ⟨k, hk, rfl, B0, B1, BX, HB⟩ := hrel
      by_cases hlt : k < 8
      · have k0 : 0 ≤ (k : Int) := by omega
        have k1 : (k : Int) < 8 := by omega
        have cc : wr.cell? ⟨w.heap.size, k, none⟩ = some (.int .u32 (c.get k)) := (blk_cell B0.out k).trans (at8 .u32 c (k : Int) k0 k1 _)
        have cx : wr.cell? ⟨w3.heap.size, k, none⟩ = some (.int .u32 (x.get k)) := (blk_cell BX.out k).trans (at8 .u32 x (k : Int) k0 k1 _)
        have ci : wr.cell? ⟨w.heap.size + 1, 1, none⟩ = some (.int .i64 i.f1) := (blk_cell B1.out 1).trans rfl
        have hT : decide ((k : Int) < 8) = true := decide_eq_true k1
        by_cases he : x.get k = c.get k
        · have hne : (x.get k != c.get k) = false := bne_eq_false_iff_eq.mpr he
          clear he
          generalize x.get k = xv at cx hne
          generalize c.get k = cv at cc hne
          go_wp2_with fail
          go_quiet (fail)
          go_wp2_with fail
          go_roundw
          case rel => exact ⟨k + 1, by omega, by go_num, B0, B1, BX, ⟨pw_below_drewN HB.out _⟩⟩
          case measure => simp [intOf]; omega
        · have hw : (1 ≤ i.f0 ∧ i.f0 ≤ 7 ∨ i.f0 = 11) ∧ (k : Int) = i.f1 := Decidable.byContradiction fun hh => he (HK.out k k0 k1 hh)
          exact absurd hw.1 (by have := HW.out; omega)
      · have e : k = 8 := by omega
        subst e
        have c0 := (blk_cell B0.out 0).trans rfl
        have c1 := (blk_cell B0.out 1).trans rfl
        have c2 := (blk_cell B0.out 2).trans rfl
        have c3 := (blk_cell B0.out 3).trans rfl
        have c4 := (blk_cell B0.out 4).trans rfl
        have c5 := (blk_cell B0.out 5).trans rfl
        have c6 := (blk_cell B0.out 6).trans rfl
        have c7 := (blk_cell B0.out 7).trans rfl
        have c8 := (blk_cell B0.out 8).trans rfl
        have x0 := (blk_cell BX.out 0).trans rfl
        have x1 := (blk_cell BX.out 1).trans rfl
        have x2 := (blk_cell BX.out 2).trans rfl
        have x3 := (blk_cell BX.out 3).trans rfl
        have x4 := (blk_cell BX.out 4).trans rfl
        have x5 := (blk_cell BX.out 5).trans rfl
        have x6 := (blk_cell BX.out 6).trans rfl
        have x7 := (blk_cell BX.out 7).trans rfl
        have x8 := (blk_cell BX.out 8).trans rfl
        have ci : wr.cell? ⟨w.heap.size + 1, 0, none⟩ = some (.int .i64 i.f0) := (blk_cell B1.out 0).trans rfl
        have hT : decide ((8 : Int) < 8) = false := decide_eq_false (by omega)
        by_cases h16 : i.f0 < 16
        · have hL : decide (i.f0 < 16) = true := decide_eq_true h16
          go_wp2_with fail
          refine (awake_calls _).mono ?_
          rintro e w4 ⟨rfl, hb⟩
          go_wp2
          go_ret
          exact ⟨rfl, below_step HB.out hb⟩
        · have hL : decide (i.f0 < 16) = false := decide_eq_false h16
          have hxc : x = c := HM.out (by omega)
          clear h16
          subst hxc
          have e1 := fun W => eqg25 (.tmp 66) (.tmp 67) x x W
          have e2 := fun W => eqo25 x W
          unfold Cr.val at e1 e2
          go_wp2_with fail
          refine (awake_calls _).mono ?_
          rintro e w4 ⟨rfl, hb⟩
          go_wp2
          go_ret
          exact ⟨rfl, below_step HB.out hb⟩
end Go.Proofs.Ytobjjmdaleoblaa.Co
