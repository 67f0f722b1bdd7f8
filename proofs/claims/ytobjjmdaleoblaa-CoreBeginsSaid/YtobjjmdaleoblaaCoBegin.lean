/- core.Begin: what it comes to. Conditions: at most 64 instructions, each of which may be. -/
import Derived.Test.YtobjjmdaleoblaaCoRun
namespace Go.Proofs.Ytobjjmdaleoblaa.Co
open Go.RowKit Go.Proofs.YtobjjmdaleoblaaW.PrintWords Go.Proofs.YtobjjmdaleoblaaW.PrintLast Go.Proofs.YtobjjmdaleoblaaW.PrintMore Go.Proofs.Ytobjjmdaleoblaa.PCoreRuns
attribute [local go_sem] max2_int min2_int max_two min_two max_three min_three max_four min_four
set_option linter.unusedVariables false
set_option linter.unusedSimpArgs false
set_option maxHeartbeats 8000000 in
set_option maxRecDepth 100000 in
theorem begin_unlock (c : Cr) (hc : c.ok) (self : Int) (f0 : 0 ≤ self) (f1 : self < 64) (A : Option Addr) (cap : Nat) (l : List S27) (lo un : Int) (w : World) (hl : Kd.C k27 w A l.length l) (hcap : l.length ≤ cap) (hn : l.length ≤ 64) (hi : ∀ i ∈ l, okI i)
    (r : Cr × List Int × Int × Int) (hr : go l self 256 (c.goto un) [] = r) :
    Calls Try.prog 19 #[c.val, .agg #[.slice A l.length cap, .int .i64 lo, .int .i64 un], .int .i64 self, .bool true] w (RunPost Cr.val r w) := by
  have HL := Aside0.mk hl
  have HI := Aside0.mk hi
  have HR := Aside0.mk hr
  have HO := Aside0.mk hc
  have HCAP := Aside0.mk hcap
  have HN := Aside0.mk hn
  clear hl hi hr hc hcap hn
  show Calls Try.prog 19 #[.agg #[.int .u32 c.r0, .int .u32 c.r1, .int .u32 c.r2, .int .u32 c.r3, .int .u32 c.r4, .int .u32 c.r5, .int .u32 c.r6, .int .u32 c.r7, .int .i64 c.pc], .agg #[.slice A l.length cap, .int .i64 lo, .int .i64 un], .int .i64 self, .bool true] w _
  go_enter Try.func19, Try.ntmps19
  go_wp2_with fail
  refine (run_calls (c.goto un) (Cr.goto_ok HO.out _) self f0 f1 A cap l lo un _ (Kd.C_alloc (Kd.C_alloc (Kd.C_alloc HL.out _) _) _) HCAP.out HN.out HI.out _ HR.out).mono ?_
  obtain ⟨x, ms, dn, er⟩ := r
  rintro e w3 ⟨v, rfl, hR, hb⟩
  have HM := Aside0.mk hR
  have HB0 := Aside0.mk hb
  clear hR hb
  have B2 := Aside0.mk (blk_below (blocks3 w (.cells #[.int .u32 c.r0, .int .u32 c.r1, .int .u32 c.r2, .int .u32 c.r3, .int .u32 c.r4, .int .u32 c.r5, .int .u32 c.r6, .int .u32 c.r7, .int .i64 un] 25) (.cells #[.slice A l.length cap, .int .i64 lo, .int .i64 un] 41) (.cells #[.int .u32 0, .int .u32 0, .int .u32 0, .int .u32 0, .int .u32 0, .int .u32 0, .int .u32 0, .int .u32 0, .int .i64 0] 25)).2.2 HB0.out)
  have HM2 := Aside0.mk (Kd.R_newB HM.out (blocks3 w (.cells #[.int .u32 c.r0, .int .u32 c.r1, .int .u32 c.r2, .int .u32 c.r3, .int .u32 c.r4, .int .u32 c.r5, .int .u32 c.r6, .int .u32 c.r7, .int .i64 un] 25) (.cells #[.slice A l.length cap, .int .i64 lo, .int .i64 un] 41) (.cells #[.int .u32 0, .int .u32 0, .int .u32 0, .int .u32 0, .int .u32 0, .int .u32 0, .int .u32 0, .int .u32 0, .int .i64 0] 25)).2.2)
  have HB := Aside0.mk (below_step (below_alloc (below_alloc (below_alloc (Below.refl w.heap.size w) (.cells #[.int .u32 c.r0, .int .u32 c.r1, .int .u32 c.r2, .int .u32 c.r3, .int .u32 c.r4, .int .u32 c.r5, .int .u32 c.r6, .int .u32 c.r7, .int .i64 un] 25)) (.cells #[.slice A l.length cap, .int .i64 lo, .int .i64 un] 41)) (.cells #[.int .u32 0, .int .u32 0, .int .u32 0, .int .u32 0, .int .u32 0, .int .u32 0, .int .u32 0, .int .u32 0, .int .i64 0] 25)) HB0.out)
  have HS : w.heap.size ≤ (((w.alloc (.cells #[.int .u32 c.r0, .int .u32 c.r1, .int .u32 c.r2, .int .u32 c.r3, .int .u32 c.r4, .int .u32 c.r5, .int .u32 c.r6, .int .u32 c.r7, .int .i64 un] 25)).alloc (.cells #[.slice A l.length cap, .int .i64 lo, .int .i64 un] 41)).alloc (.cells #[.int .u32 0, .int .u32 0, .int .u32 0, .int .u32 0, .int .u32 0, .int .u32 0, .int .u32 0, .int .u32 0, .int .i64 0] 25)).heap.size := by simp; omega
  have HM3 := Aside0.mk (Kd.R_lower HM2.out HS)
  clear HM HM2 HB0 HS
  have e0 : w3.cell? ⟨w.heap.size + 1 + 1, 0, none⟩ = some (.int .u32 0) := (blk_cell B2.out 0).trans rfl
  have ef0 := blk_frozen B2.out 0
  have e1 : w3.cell? ⟨w.heap.size + 1 + 1, 1, none⟩ = some (.int .u32 0) := (blk_cell B2.out 1).trans rfl
  have ef1 := blk_frozen B2.out 1
  have e2 : w3.cell? ⟨w.heap.size + 1 + 1, 2, none⟩ = some (.int .u32 0) := (blk_cell B2.out 2).trans rfl
  have ef2 := blk_frozen B2.out 2
  have e3 : w3.cell? ⟨w.heap.size + 1 + 1, 3, none⟩ = some (.int .u32 0) := (blk_cell B2.out 3).trans rfl
  have ef3 := blk_frozen B2.out 3
  have e4 : w3.cell? ⟨w.heap.size + 1 + 1, 4, none⟩ = some (.int .u32 0) := (blk_cell B2.out 4).trans rfl
  have ef4 := blk_frozen B2.out 4
  have e5 : w3.cell? ⟨w.heap.size + 1 + 1, 5, none⟩ = some (.int .u32 0) := (blk_cell B2.out 5).trans rfl
  have ef5 := blk_frozen B2.out 5
  have e6 : w3.cell? ⟨w.heap.size + 1 + 1, 6, none⟩ = some (.int .u32 0) := (blk_cell B2.out 6).trans rfl
  have ef6 := blk_frozen B2.out 6
  have e7 : w3.cell? ⟨w.heap.size + 1 + 1, 7, none⟩ = some (.int .u32 0) := (blk_cell B2.out 7).trans rfl
  have ef7 := blk_frozen B2.out 7
  have e8 : w3.cell? ⟨w.heap.size + 1 + 1, 8, none⟩ = some (.int .i64 0) := (blk_cell B2.out 8).trans rfl
  have ef8 := blk_frozen B2.out 8
  have z2 : w.heap.size + 1 + 1 < w3.heap.size := blk_lt B2.out
  unfold Cr.val
  dsimp only at HM3 ⊢
  go_wp2_with fail
  refine bodyPost_ret (v := .tuple #[.agg #[.int .u32 x.r0, .int .u32 x.r1, .int .u32 x.r2, .int .u32 x.r3, .int .u32 x.r4, .int .u32 x.r5, .int .u32 x.r6, .int .u32 x.r7, .int .i64 x.pc], v, .int .i64 dn, .int .i64 er]) (by simp [results, Try.results19, go_sem, *]) rfl ⟨_, rfl, ?_, ?_⟩
  · exact Kd.R_mono (put9_R (g := w.heap.size + 1 + 1) HM3.out (fun (b : Nat) (hb : True ∧ b ≠ w.heap.size + 1 + 1) => hb.2) _ _ _ _ _ _ _ _ _) (fun _ _ => trivial)
  · exact put9_below (g := w.heap.size + 1 + 1) HB.out (by omega) _ _ _ _ _ _ _ _ _
set_option maxHeartbeats 8000000 in
set_option maxRecDepth 100000 in
theorem begin_lock (c : Cr) (hc : c.ok) (self : Int) (f0 : 0 ≤ self) (f1 : self < 64) (A : Option Addr) (cap : Nat) (l : List S27) (lo un : Int) (w : World) (hl : Kd.C k27 w A l.length l) (hcap : l.length ≤ cap) (hn : l.length ≤ 64) (hi : ∀ i ∈ l, okI i)
    (r : Cr × List Int × Int × Int) (hr : go l self 256 (c.goto lo) [] = r) :
    Calls Try.prog 19 #[c.val, .agg #[.slice A l.length cap, .int .i64 lo, .int .i64 un], .int .i64 self, .bool false] w (RunPost Cr.val r w) := by
  have HL := Aside0.mk hl
  have HI := Aside0.mk hi
  have HR := Aside0.mk hr
  have HO := Aside0.mk hc
  have HCAP := Aside0.mk hcap
  have HN := Aside0.mk hn
  clear hl hi hr hc hcap hn
  show Calls Try.prog 19 #[.agg #[.int .u32 c.r0, .int .u32 c.r1, .int .u32 c.r2, .int .u32 c.r3, .int .u32 c.r4, .int .u32 c.r5, .int .u32 c.r6, .int .u32 c.r7, .int .i64 c.pc], .agg #[.slice A l.length cap, .int .i64 lo, .int .i64 un], .int .i64 self, .bool false] w _
  go_enter Try.func19, Try.ntmps19
  go_wp2_with fail
  refine (run_calls (c.goto lo) (Cr.goto_ok HO.out _) self f0 f1 A cap l lo un _ (Kd.C_alloc (Kd.C_alloc (Kd.C_alloc HL.out _) _) _) HCAP.out HN.out HI.out _ HR.out).mono ?_
  obtain ⟨x, ms, dn, er⟩ := r
  rintro e w3 ⟨v, rfl, hR, hb⟩
  have HM := Aside0.mk hR
  have HB0 := Aside0.mk hb
  clear hR hb
  have B2 := Aside0.mk (blk_below (blocks3 w (.cells #[.int .u32 c.r0, .int .u32 c.r1, .int .u32 c.r2, .int .u32 c.r3, .int .u32 c.r4, .int .u32 c.r5, .int .u32 c.r6, .int .u32 c.r7, .int .i64 lo] 25) (.cells #[.slice A l.length cap, .int .i64 lo, .int .i64 un] 41) (.cells #[.int .u32 0, .int .u32 0, .int .u32 0, .int .u32 0, .int .u32 0, .int .u32 0, .int .u32 0, .int .u32 0, .int .i64 0] 25)).2.2 HB0.out)
  have HM2 := Aside0.mk (Kd.R_newB HM.out (blocks3 w (.cells #[.int .u32 c.r0, .int .u32 c.r1, .int .u32 c.r2, .int .u32 c.r3, .int .u32 c.r4, .int .u32 c.r5, .int .u32 c.r6, .int .u32 c.r7, .int .i64 lo] 25) (.cells #[.slice A l.length cap, .int .i64 lo, .int .i64 un] 41) (.cells #[.int .u32 0, .int .u32 0, .int .u32 0, .int .u32 0, .int .u32 0, .int .u32 0, .int .u32 0, .int .u32 0, .int .i64 0] 25)).2.2)
  have HB := Aside0.mk (below_step (below_alloc (below_alloc (below_alloc (Below.refl w.heap.size w) (.cells #[.int .u32 c.r0, .int .u32 c.r1, .int .u32 c.r2, .int .u32 c.r3, .int .u32 c.r4, .int .u32 c.r5, .int .u32 c.r6, .int .u32 c.r7, .int .i64 lo] 25)) (.cells #[.slice A l.length cap, .int .i64 lo, .int .i64 un] 41)) (.cells #[.int .u32 0, .int .u32 0, .int .u32 0, .int .u32 0, .int .u32 0, .int .u32 0, .int .u32 0, .int .u32 0, .int .i64 0] 25)) HB0.out)
  have HS : w.heap.size ≤ (((w.alloc (.cells #[.int .u32 c.r0, .int .u32 c.r1, .int .u32 c.r2, .int .u32 c.r3, .int .u32 c.r4, .int .u32 c.r5, .int .u32 c.r6, .int .u32 c.r7, .int .i64 lo] 25)).alloc (.cells #[.slice A l.length cap, .int .i64 lo, .int .i64 un] 41)).alloc (.cells #[.int .u32 0, .int .u32 0, .int .u32 0, .int .u32 0, .int .u32 0, .int .u32 0, .int .u32 0, .int .u32 0, .int .i64 0] 25)).heap.size := by simp; omega
  have HM3 := Aside0.mk (Kd.R_lower HM2.out HS)
  clear HM HM2 HB0 HS
  have e0 : w3.cell? ⟨w.heap.size + 1 + 1, 0, none⟩ = some (.int .u32 0) := (blk_cell B2.out 0).trans rfl
  have ef0 := blk_frozen B2.out 0
  have e1 : w3.cell? ⟨w.heap.size + 1 + 1, 1, none⟩ = some (.int .u32 0) := (blk_cell B2.out 1).trans rfl
  have ef1 := blk_frozen B2.out 1
  have e2 : w3.cell? ⟨w.heap.size + 1 + 1, 2, none⟩ = some (.int .u32 0) := (blk_cell B2.out 2).trans rfl
  have ef2 := blk_frozen B2.out 2
  have e3 : w3.cell? ⟨w.heap.size + 1 + 1, 3, none⟩ = some (.int .u32 0) := (blk_cell B2.out 3).trans rfl
  have ef3 := blk_frozen B2.out 3
  have e4 : w3.cell? ⟨w.heap.size + 1 + 1, 4, none⟩ = some (.int .u32 0) := (blk_cell B2.out 4).trans rfl
  have ef4 := blk_frozen B2.out 4
  have e5 : w3.cell? ⟨w.heap.size + 1 + 1, 5, none⟩ = some (.int .u32 0) := (blk_cell B2.out 5).trans rfl
  have ef5 := blk_frozen B2.out 5
  have e6 : w3.cell? ⟨w.heap.size + 1 + 1, 6, none⟩ = some (.int .u32 0) := (blk_cell B2.out 6).trans rfl
  have ef6 := blk_frozen B2.out 6
  have e7 : w3.cell? ⟨w.heap.size + 1 + 1, 7, none⟩ = some (.int .u32 0) := (blk_cell B2.out 7).trans rfl
  have ef7 := blk_frozen B2.out 7
  have e8 : w3.cell? ⟨w.heap.size + 1 + 1, 8, none⟩ = some (.int .i64 0) := (blk_cell B2.out 8).trans rfl
  have ef8 := blk_frozen B2.out 8
  have z2 : w.heap.size + 1 + 1 < w3.heap.size := blk_lt B2.out
  unfold Cr.val
  dsimp only at HM3 ⊢
  go_wp2_with fail
  refine bodyPost_ret (v := .tuple #[.agg #[.int .u32 x.r0, .int .u32 x.r1, .int .u32 x.r2, .int .u32 x.r3, .int .u32 x.r4, .int .u32 x.r5, .int .u32 x.r6, .int .u32 x.r7, .int .i64 x.pc], v, .int .i64 dn, .int .i64 er]) (by simp [results, Try.results19, go_sem, *]) rfl ⟨_, rfl, ?_, ?_⟩
  · exact Kd.R_mono (put9_R (g := w.heap.size + 1 + 1) HM3.out (fun (b : Nat) (hb : True ∧ b ≠ w.heap.size + 1 + 1) => hb.2) _ _ _ _ _ _ _ _ _) (fun _ _ => trivial)
  · exact put9_below (g := w.heap.size + 1 + 1) HB.out (by omega) _ _ _ _ _ _ _ _ _
end Go.Proofs.Ytobjjmdaleoblaa.Co
