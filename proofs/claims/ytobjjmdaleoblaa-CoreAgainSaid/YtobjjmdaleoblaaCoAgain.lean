/- ropelinelaw08.CoreAgain: its walk. -/
import Derived.Test.YtobjjmdaleoblaaCoAwake
import Derived.Test.YtobjjmdaleoblaaCoRight7
import Derived.Test.YtobjjmdaleoblaaCoEqOp
import Derived.Test.YtobjjmdaleoblaaCoRun
import Derived.Test.YtobjjmdaleoblaaCoRunPlain
namespace Go.Proofs.Ytobjjmdaleoblaa.Co
open Go.RowKit Go.Proofs.YtobjjmdaleoblaaW.PrintWords Go.Proofs.YtobjjmdaleoblaaW.PrintLast Go.Proofs.YtobjjmdaleoblaaW.PrintMore Go.Proofs.Ytobjjmdaleoblaa.PCoreRuns
attribute [local go_sem] max2_int min2_int max_two min_two max_three min_three max_four min_four
set_option linter.unusedVariables false
set_option linter.unusedSimpArgs false
set_option maxHeartbeats 16000000 in
set_option maxRecDepth 100000 in
theorem coreAgain_calls (c : Cr) (A : Option Addr) (cap : Nat) (l : List S27) (lo un : Int) (w : World) (hc : c.ok) (hl : Kd.C k27 w A l.length l) (hcap : l.length ≤ cap) (hr : ∀ i ∈ l, 0 ≤ i.f6 ∧ i.f6 < 4294967296) :
    Calls Try.prog 5 #[c.val, .agg #[.slice A l.length cap, .int .i64 lo, .int .i64 un]] w fun e w' => e = .returned (.bool true) ∧ Below w.heap.size w w' := by
  have HR := Aside0.mk hr
  have HOK := Aside0.mk hc
  have HCAP := Aside0.mk hcap
  have HL0 := Aside0.mk hl
  clear hr hc hl hcap
  show Calls Try.prog 5 #[.agg #[.int .u32 c.r0, .int .u32 c.r1, .int .u32 c.r2, .int .u32 c.r3, .int .u32 c.r4, .int .u32 c.r5, .int .u32 c.r6, .int .u32 c.r7, .int .i64 c.pc], .agg #[.slice A l.length cap, .int .i64 lo, .int .i64 un]] w _
  by_cases hn : l.length ≤ 64
  case neg =>
    have e0 : decide (64 < (l.length : Int)) = true := decide_eq_true (by omega)
    have e1 : decide (64 < l.length) = true := decide_eq_true (by omega)
    go_enter Try.func5, Try.ntmps5
    go_wp2_with fail
    refine (awake_calls _).mono ?_
    rintro e w3 ⟨rfl, hb⟩
    go_wp2
    go_ret
    exact ⟨rfl, below_step (below_alloc (below_alloc (Below.refl w.heap.size w) _) _) hb⟩
  have e0 : decide (64 < (l.length : Int)) = false := decide_eq_false (by omega)
  have e1 : decide (64 < l.length) = false := decide_eq_false (by omega)
  go_enter Try.func5, Try.ntmps5
  go_wp2_with fail
  refine (ref7_calls A cap l lo un _ (Kd.C_alloc (Kd.C_alloc HL0.out _) _) HCAP.out hn).mono ?_
  rintro e w1 ⟨A1, cap1, rfl, hcap1, hC1, hb⟩
  have HC1 := Aside0.mk hC1
  have B0 := Aside0.mk (blk_below (blk_alloc (blk_new w (.cells #[.int .u32 c.r0, .int .u32 c.r1, .int .u32 c.r2, .int .u32 c.r3, .int .u32 c.r4, .int .u32 c.r5, .int .u32 c.r6, .int .u32 c.r7, .int .i64 c.pc] 25)) (.cells #[.slice A l.length cap, .int .i64 lo, .int .i64 un] 41)) hb)
  have B1 := Aside0.mk (blk_below (blocks2 w (.cells #[.int .u32 c.r0, .int .u32 c.r1, .int .u32 c.r2, .int .u32 c.r3, .int .u32 c.r4, .int .u32 c.r5, .int .u32 c.r6, .int .u32 c.r7, .int .i64 c.pc] 25) (.cells #[.slice A l.length cap, .int .i64 lo, .int .i64 un] 41)) hb)
  have HL := Aside0.mk (Kd.C_below (Kd.C_alloc (Kd.C_alloc HL0.out (.cells #[.int .u32 c.r0, .int .u32 c.r1, .int .u32 c.r2, .int .u32 c.r3, .int .u32 c.r4, .int .u32 c.r5, .int .u32 c.r6, .int .u32 c.r7, .int .i64 c.pc] 25)) (.cells #[.slice A l.length cap, .int .i64 lo, .int .i64 un] 41)) hb)
  have HB := Aside0.mk (below_step (below_alloc (below_alloc (Below.refl w.heap.size w) (.cells #[.int .u32 c.r0, .int .u32 c.r1, .int .u32 c.r2, .int .u32 c.r3, .int .u32 c.r4, .int .u32 c.r5, .int .u32 c.r6, .int .u32 c.r7, .int .i64 c.pc] 25)) (.cells #[.slice A l.length cap, .int .i64 lo, .int .i64 un] 41)) hb)
  clear hb hC1 HL0
  go_wp2_with fail
  refine (r7_calls A1 cap1 l lo un _ HC1.out HR.out).mono ?_
  rintro e w2 ⟨b, rfl, hi, hb⟩
  have n_B0 := Aside0.mk (blk_below B0.out hb)
  have n_B1 := Aside0.mk (blk_below B1.out hb)
  have n_HL := Aside0.mk (Kd.C_below HL.out hb)
  have n_HB := Aside0.mk (below_step HB.out hb)
  clear B0 B1 HL HB hb
  have B0 := n_B0
  have B1 := n_B1
  have HL := n_HL
  have HB := n_HB
  clear n_B0 n_B1 n_HL n_HB
  have HN := Aside0.mk hn
  clear HC1 e0 e1 hn
  cases b with
  | false =>
    go_wp2_with fail
    refine (awake_calls _).mono ?_
    rintro e w3 ⟨rfl, hb⟩
    go_wp2
    go_ret
    exact ⟨rfl, below_step HB.out hb⟩
  | true =>
  have HI := Aside0.mk (hi rfl)
  clear hi
  have c0 := (blk_cell B0.out 0).trans rfl
  have c1 := (blk_cell B0.out 1).trans rfl
  have c2 := (blk_cell B0.out 2).trans rfl
  have c3 := (blk_cell B0.out 3).trans rfl
  have c4 := (blk_cell B0.out 4).trans rfl
  have c5 := (blk_cell B0.out 5).trans rfl
  have c6 := (blk_cell B0.out 6).trans rfl
  have c7 := (blk_cell B0.out 7).trans rfl
  have c8 := (blk_cell B0.out 8).trans rfl
  have d0 := (blk_cell B1.out 0).trans rfl
  have d1 := (blk_cell B1.out 1).trans rfl
  have d2 := (blk_cell B1.out 2).trans rfl
  go_wp2_with fail
  obtain ⟨r, hgo⟩ : ∃ r, go l 3 256 c [] = r := ⟨_, rfl⟩
  have HX := Aside0.mk (go_ok l 3 HI.out (by decide) (by decide) 256 c [] HOK.out)
  have HE := Aside0.mk (go_ends l 3 HI.out 256 c [])
  have HGO := Aside0.mk hgo
  rw [hgo] at HX HE
  clear hgo c0 c1 c2 c3 c4 c5 c6 c7 c8 d0 d1 d2
  obtain ⟨x, ms, dn, er⟩ := r
  refine (run_calls c HOK.out 3 (by decide) (by decide) A cap l lo un _ HL.out HCAP.out HN.out HI.out _ HGO.out).mono ?_
  rintro e w3 ⟨v, rfl, hR, hb⟩
  clear hR
  have n_B0 := Aside0.mk (blk_below B0.out hb)
  have n_B1 := Aside0.mk (blk_below B1.out hb)
  have n_HL := Aside0.mk (Kd.C_below HL.out hb)
  have n_HB := Aside0.mk (below_step HB.out hb)
  clear B0 B1 HL HB hb
  have B0 := n_B0
  have B1 := n_B1
  have HL := n_HL
  have HB := n_HB
  clear n_B0 n_B1 n_HL n_HB
  unfold Cr.val
  dsimp only at HX HE ⊢
  have HE' := HE.out
  clear HE
  rcases HE' with ⟨rfl, hag⟩ | ⟨rfl, rfl⟩
  case inr =>
    go_wp2_with fail
    refine (awake_calls _).mono ?_
    rintro e w4 ⟨rfl, hb⟩
    go_wp2
    go_ret
    exact ⟨rfl, below_step (below_alloc HB.out _) hb⟩
  have HAG := Aside0.mk (hag [])
  clear hag
  have d0 := (blk_cell B1.out 0).trans rfl
  have d1 := (blk_cell B1.out 1).trans rfl
  have d2 := (blk_cell B1.out 2).trans rfl
  have z1 : w.heap.size + 1 < w3.heap.size := blk_lt B1.out
  have z0 : w.heap.size < w3.heap.size := by omega
  go_wp2_with fail
  clear z0 z1 d0 d1 d2
  have BX := Aside0.mk (blk_new w3 (.cells #[.int .u32 x.r0, .int .u32 x.r1, .int .u32 x.r2, .int .u32 x.r3, .int .u32 x.r4, .int .u32 x.r5, .int .u32 x.r6, .int .u32 x.r7, .int .i64 x.pc] 25))
  have n_B0 := Aside0.mk (blk_alloc B0.out (.cells #[.int .u32 x.r0, .int .u32 x.r1, .int .u32 x.r2, .int .u32 x.r3, .int .u32 x.r4, .int .u32 x.r5, .int .u32 x.r6, .int .u32 x.r7, .int .i64 x.pc] 25))
  have n_B1 := Aside0.mk (blk_alloc B1.out (.cells #[.int .u32 x.r0, .int .u32 x.r1, .int .u32 x.r2, .int .u32 x.r3, .int .u32 x.r4, .int .u32 x.r5, .int .u32 x.r6, .int .u32 x.r7, .int .i64 x.pc] 25))
  have n_HL := Aside0.mk (Kd.C_alloc HL.out (.cells #[.int .u32 x.r0, .int .u32 x.r1, .int .u32 x.r2, .int .u32 x.r3, .int .u32 x.r4, .int .u32 x.r5, .int .u32 x.r6, .int .u32 x.r7, .int .i64 x.pc] 25))
  have n_HB := Aside0.mk (below_alloc HB.out (.cells #[.int .u32 x.r0, .int .u32 x.r1, .int .u32 x.r2, .int .u32 x.r3, .int .u32 x.r4, .int .u32 x.r5, .int .u32 x.r6, .int .u32 x.r7, .int .i64 x.pc] 25))
  clear B0 B1 HL HB
  have B0 := n_B0
  have B1 := n_B1
  have HL := n_HL
  have HB := n_HB
  clear n_B0 n_B1 n_HL n_HB
  refine (run_calls x HX.out 3 (by decide) (by decide) A cap l lo un _ HL.out HCAP.out HN.out HI.out _ HAG.out).mono ?_
  rintro e w4 ⟨v2, rfl, hR, hb⟩
  obtain ⟨A4, cap4, rfl, hcap4, hM⟩ := Kd.R_reads hR
  clear hR hM hcap4
  have n_B0 := Aside0.mk (blk_below B0.out hb)
  have n_B1 := Aside0.mk (blk_below B1.out hb)
  have n_BX := Aside0.mk (blk_below BX.out hb)
  have n_HL := Aside0.mk (Kd.C_below HL.out hb)
  have n_HB := Aside0.mk (below_step HB.out hb)
  clear B0 B1 BX HL HB hb
  have B0 := n_B0
  have B1 := n_B1
  have BX := n_BX
  have HL := n_HL
  have HB := n_HB
  clear n_B0 n_B1 n_BX n_HL n_HB
  unfold Cr.val
  dsimp only
  have BY := Aside0.mk (blk_new w4 (.cells #[.int .u32 x.r0, .int .u32 x.r1, .int .u32 x.r2, .int .u32 x.r3, .int .u32 x.r4, .int .u32 x.r5, .int .u32 x.r6, .int .u32 x.r7, .int .i64 x.pc] 25))
  have x0 := (blk_cell BX.out 0).trans rfl
  have x1 := (blk_cell BX.out 1).trans rfl
  have x2 := (blk_cell BX.out 2).trans rfl
  have x3 := (blk_cell BX.out 3).trans rfl
  have x4 := (blk_cell BX.out 4).trans rfl
  have x5 := (blk_cell BX.out 5).trans rfl
  have x6 := (blk_cell BX.out 6).trans rfl
  have x7 := (blk_cell BX.out 7).trans rfl
  have x8 := (blk_cell BX.out 8).trans rfl
  have z2 : w3.heap.size < w4.heap.size := blk_lt BX.out
  have e1 := fun W => eqg25 (.tmp 51) (.tmp 52) x x W
  have e2 := fun W => eqo25 x W
  unfold Cr.val at e1 e2
  go_wp2_with fail
  refine (awake_calls _).mono ?_
  rintro e w5 ⟨rfl, hb⟩
  go_wp2
  go_ret
  exact ⟨rfl, below_step (below_alloc HB.out _) hb⟩
end Go.Proofs.Ytobjjmdaleoblaa.Co
