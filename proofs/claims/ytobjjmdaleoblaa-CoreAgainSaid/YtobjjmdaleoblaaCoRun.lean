/- core.Run: what it comes to. Conditions: at most 64 instructions, each of which may be. -/
import Derived.Test.YtobjjmdaleoblaaCoRunWords
import Derived.RegionTactic
import Derived.BigRegion
import Derived.Deep.RegionWith
namespace Go.Proofs.Ytobjjmdaleoblaa.Co
open Go.RowKit Go.Proofs.YtobjjmdaleoblaaW.PrintWords Go.Proofs.YtobjjmdaleoblaaW.PrintLast Go.Proofs.YtobjjmdaleoblaaW.PrintMore Go.Proofs.Ytobjjmdaleoblaa.PCoreRuns
attribute [local go_sem] max2_int min2_int max_two min_two max_three min_three max_four min_four
set_option linter.unusedVariables false
set_option linter.unusedSimpArgs false

set_option maxHeartbeats 16000000 in
set_option maxRecDepth 100000 in
theorem run_calls (c0 : Cr) (hc0 : c0.ok) (self : Int) (f0 : 0 ≤ self) (f1 : self < 64) (A : Option Addr) (cap : Nat) (l : List S27) (lk ul : Int) (w : World) (hl : Kd.C k27 w A l.length l) (hcap : l.length ≤ cap) (hn : l.length ≤ 64) (hi : ∀ i ∈ l, okI i)
    (r : Cr × List Int × Int × Int) (hr : go l self 256 c0 [] = r) :
    Calls Try.prog 16 #[c0.val, .agg #[.slice A l.length cap, .int .i64 lk, .int .i64 ul], .int .i64 self] w (RunPost Cr.val r w) := by
  have HL := Aside0.mk hl
  have HI := Aside0.mk hi
  have HR := Aside0.mk hr
  have HO0 := Aside0.mk hc0
  clear hl hi hr hc0
  show Calls Try.prog 16 #[.agg #[.int .u32 c0.r0, .int .u32 c0.r1, .int .u32 c0.r2, .int .u32 c0.r3, .int .u32 c0.r4, .int .u32 c0.r5, .int .u32 c0.r6, .int .u32 c0.r7, .int .i64 c0.pc], .agg #[.slice A l.length cap, .int .i64 lk, .int .i64 ul], .int .i64 self] w _
  go_enter Try.func16, Try.ntmps16
  go_wp2
  go_loopg [7, 10] 257 (fun kq v i wr => ∃ (c : Cr) (ms : List Int) (k : Nat), i = .int .i64 k ∧ Aside0 (kq + k = 257 ∧ k ≤ 256) ∧ Aside0 (c.ok) ∧ Aside0 (go l self (256 - k) c ms = r) ∧ Aside0 (ms.length ≤ k) ∧ Aside0 (Kd.R (Kd.int .i64) 3 wr w.heap.size (fun b => b ≠ w.heap.size ∧ b ≠ w.heap.size + 1 ∧ b ≠ w.heap.size + 1 + 1) v ms) ∧ Aside0 (Below w.heap.size w wr) ∧ Aside0 (wr.heap[w.heap.size]? = some (.cells #[.int .u32 c.r0, .int .u32 c.r1, .int .u32 c.r2, .int .u32 c.r3, .int .u32 c.r4, .int .u32 c.r5, .int .u32 c.r6, .int .u32 c.r7, .int .i64 c.pc] 25 (0, 0))) ∧ Aside0 (wr.heap[w.heap.size + 1]? = some (.cells #[.slice A l.length cap, .int .i64 lk, .int .i64 ul] 41 (0, 0))) ∧ Aside0 (wr.heap[w.heap.size + 1 + 1]? = some (.cells #[.int .u32 0, .int .u32 0, .int .u32 0, .int .u32 0, .int .u32 0, .int .u32 0, .int .u32 0, .int .u32 0, .int .i64 0] 25 (0, 0))))
  case atStart => exact ⟨c0, [], 0, rfl, ⟨⟨rfl, by omega⟩⟩, HO0, HR, ⟨Nat.le_refl _⟩, ⟨Kd.R_nil _ _ _ _ _⟩, ⟨by repeat (first | exact Below.refl _ _ | apply below_alloc)⟩, ⟨(blocks3 w _ _ _).1⟩, ⟨(blocks3 w _ _ _).2.1⟩, ⟨(blocks3 w _ _ _).2.2⟩⟩
  case round =>
    obtain ⟨c, ms, k, rfl, HK, HC, HG, HN, HM, HB, B0, B1, B2⟩ := hrel
    have k1 : (k : Int) ≤ 256 := by have := HK.out.2; omega
    have a0 : wr.cell? ⟨w.heap.size, 0, none⟩ = some (.int .u32 c.r0) := (blk_cell B0.out 0).trans rfl
    have a1 : wr.cell? ⟨w.heap.size, 1, none⟩ = some (.int .u32 c.r1) := (blk_cell B0.out 1).trans rfl
    have a2 : wr.cell? ⟨w.heap.size, 2, none⟩ = some (.int .u32 c.r2) := (blk_cell B0.out 2).trans rfl
    have a3 : wr.cell? ⟨w.heap.size, 3, none⟩ = some (.int .u32 c.r3) := (blk_cell B0.out 3).trans rfl
    have a4 : wr.cell? ⟨w.heap.size, 4, none⟩ = some (.int .u32 c.r4) := (blk_cell B0.out 4).trans rfl
    have a5 : wr.cell? ⟨w.heap.size, 5, none⟩ = some (.int .u32 c.r5) := (blk_cell B0.out 5).trans rfl
    have a6 : wr.cell? ⟨w.heap.size, 6, none⟩ = some (.int .u32 c.r6) := (blk_cell B0.out 6).trans rfl
    have a7 : wr.cell? ⟨w.heap.size, 7, none⟩ = some (.int .u32 c.r7) := (blk_cell B0.out 7).trans rfl
    have a8 : wr.cell? ⟨w.heap.size, 8, none⟩ = some (.int .i64 c.pc) := (blk_cell B0.out 8).trans rfl
    have b0 : wr.cell? ⟨w.heap.size + 1, 0, none⟩ = some (.slice A l.length cap) := (blk_cell B1.out 0).trans rfl
    have e0 : wr.cell? ⟨w.heap.size + 1 + 1, 0, none⟩ = some (.int .u32 0) := (blk_cell B2.out 0).trans rfl
    have ef0 := blk_frozen B2.out 0
    have e1 : wr.cell? ⟨w.heap.size + 1 + 1, 1, none⟩ = some (.int .u32 0) := (blk_cell B2.out 1).trans rfl
    have ef1 := blk_frozen B2.out 1
    have e2 : wr.cell? ⟨w.heap.size + 1 + 1, 2, none⟩ = some (.int .u32 0) := (blk_cell B2.out 2).trans rfl
    have ef2 := blk_frozen B2.out 2
    have e3 : wr.cell? ⟨w.heap.size + 1 + 1, 3, none⟩ = some (.int .u32 0) := (blk_cell B2.out 3).trans rfl
    have ef3 := blk_frozen B2.out 3
    have e4 : wr.cell? ⟨w.heap.size + 1 + 1, 4, none⟩ = some (.int .u32 0) := (blk_cell B2.out 4).trans rfl
    have ef4 := blk_frozen B2.out 4
    have e5 : wr.cell? ⟨w.heap.size + 1 + 1, 5, none⟩ = some (.int .u32 0) := (blk_cell B2.out 5).trans rfl
    have ef5 := blk_frozen B2.out 5
    have e6 : wr.cell? ⟨w.heap.size + 1 + 1, 6, none⟩ = some (.int .u32 0) := (blk_cell B2.out 6).trans rfl
    have ef6 := blk_frozen B2.out 6
    have e7 : wr.cell? ⟨w.heap.size + 1 + 1, 7, none⟩ = some (.int .u32 0) := (blk_cell B2.out 7).trans rfl
    have ef7 := blk_frozen B2.out 7
    have e8 : wr.cell? ⟨w.heap.size + 1 + 1, 8, none⟩ = some (.int .i64 0) := (blk_cell B2.out 8).trans rfl
    have ef8 := blk_frozen B2.out 8
    have z2 : w.heap.size + 1 + 1 < wr.heap.size := blk_lt B2.out
    have z1 : w.heap.size + 1 < wr.heap.size := by omega
    have z0 : w.heap.size < wr.heap.size := by omega
    have z2' : w.heap.size + 1 + 1 < wr.heap.size + 1 := by omega
    have z1' : w.heap.size + 1 < wr.heap.size + 1 := by omega
    have z0' : w.heap.size < wr.heap.size + 1 := by omega
    by_cases h0 : 0 ≤ c.pc ∧ c.pc < l.length
    · have HH := Aside0.mk h0
      have t1 : decide (0 ≤ c.pc) = true := decide_eq_true h0.1
      have t2 : decide (c.pc < (l.length : Int)) = true := decide_eq_true h0.2
      obtain ⟨ad, ead, x0, x1, x2, x3, x4, x5, x6, x7⟩ := at_T27 HL.out c.pc h0.1 h0.2
      cases ead
      replace x0 := (HB.out.cell (World.block_lt_of_cell? w _ x0)).trans x0
      replace x1 := (HB.out.cell (World.block_lt_of_cell? w _ x1)).trans x1
      replace x2 := (HB.out.cell (World.block_lt_of_cell? w _ x2)).trans x2
      replace x3 := (HB.out.cell (World.block_lt_of_cell? w _ x3)).trans x3
      replace x4 := (HB.out.cell (World.block_lt_of_cell? w _ x4)).trans x4
      replace x5 := (HB.out.cell (World.block_lt_of_cell? w _ x5)).trans x5
      replace x6 := (HB.out.cell (World.block_lt_of_cell? w _ x6)).trans x6
      replace x7 := (HB.out.cell (World.block_lt_of_cell? w _ x7)).trans x7
      have q1 := eq_true h0.1
      have q2 := eq_true h0.2
      have hokI := HI.out _ (rd_mem h0.1 h0.2)
      clear h0
      obtain ⟨i, hid⟩ : ∃ i, rd_T27 l c.pc = i := ⟨_, rfl⟩
      rw [hid] at x0 x1 x2 x3 x4 x5 x6 x7 hokI
      have HID := Aside0.mk hid
      have HOI := Aside0.mk hokI
      have g0 := hokI.k.1
      have g1 := hokI.k.2
      have og := hokI.op
      clear hid hokI
      by_cases hm : 16 ≤ i.f0
      · have HF : Aside0 ((c, ms, (-1 : Int), (0 : Int)) = r) := ⟨(go_mem l self (256 - k) c ms HH.out (by rw [HID.out]; exact hm)).symm.trans HG.out⟩
        have m0 : decide (16 ≤ i.f0) = true := decide_eq_true hm
        have m1 : decide (i.f0 ≤ 23) = true := decide_eq_true (by omega)
        clear hm og
        go_wp2_with (first | (go_at_call 22; refine (mem_yes i.f0 i.f1 i.f2 i.f3 i.f4 i.f5 i.f6 i.f7 _ m0 m1).mono ?_; rintro e w1 ⟨rfl, rfl⟩))
        refine bodyPost_ret (v := .tuple #[.agg #[.int .u32 c.r0, .int .u32 c.r1, .int .u32 c.r2, .int .u32 c.r3, .int .u32 c.r4, .int .u32 c.r5, .int .u32 c.r6, .int .u32 c.r7, .int .i64 c.pc], u7, .int .i64 (-1), .int .i64 (0)]) (by simp [results, Try.results16, go_sem, *]) rfl ⟨_, by rw [← HF.out]; rfl, ?_, ?_⟩
        · rw [← HF.out]; (with_reducible repeat (first | apply Kd.R_alloc | apply Kd.R_drewN | apply Kd.R_drew)); exact Kd.R_mono (put9_R (g := w.heap.size + 1 + 1) (by (with_reducible repeat (first | apply Kd.R_alloc | apply Kd.R_drewN | apply Kd.R_drew)); exact HM.out) (fun (b : Nat) (hb : b ≠ w.heap.size ∧ b ≠ w.heap.size + 1 ∧ b ≠ w.heap.size + 1 + 1) => hb.2.2) _ _ _ _ _ _ _ _ _) (fun _ _ => trivial)
        · (repeat (first | (with_reducible apply below_alloc) | (with_reducible apply pw_below_drewN) | (with_reducible apply below_drew1))); exact put9_below (g := w.heap.size + 1 + 1) (by repeat (first | exact HB.out | apply below_alloc | apply pw_below_drewN)) (by omega) _ _ _ _ _ _ _ _ _
      · have m0 : decide (16 ≤ i.f0) = false := decide_eq_false hm
        by_cases hk : k = 256
        · have HF : Aside0 ((c, ms, (-1 : Int), (11 : Int)) = r) := ⟨by have h2 := HG.out; rw [hk, Nat.sub_self, go_much l self c ms HH.out (by rw [HID.out]; exact hm)] at h2; exact h2⟩
          have n0 : ((k : Int) == 256) = true := beq_iff_eq.mpr (by omega)
          clear hm og hk
          go_wp2_with (first | (go_at_call 22; refine (mem_no i.f0 i.f1 i.f2 i.f3 i.f4 i.f5 i.f6 i.f7 _ m0).mono ?_; rintro e w1 ⟨rfl, rfl⟩))
          refine bodyPost_ret (v := .tuple #[.agg #[.int .u32 c.r0, .int .u32 c.r1, .int .u32 c.r2, .int .u32 c.r3, .int .u32 c.r4, .int .u32 c.r5, .int .u32 c.r6, .int .u32 c.r7, .int .i64 c.pc], u7, .int .i64 (-1), .int .i64 (11)]) (by simp [results, Try.results16, go_sem, *]) rfl ⟨_, by rw [← HF.out]; rfl, ?_, ?_⟩
          · rw [← HF.out]; (with_reducible repeat (first | apply Kd.R_alloc | apply Kd.R_drewN | apply Kd.R_drew)); exact Kd.R_mono (put9_R (g := w.heap.size + 1 + 1) (by (with_reducible repeat (first | apply Kd.R_alloc | apply Kd.R_drewN | apply Kd.R_drew)); exact HM.out) (fun (b : Nat) (hb : b ≠ w.heap.size ∧ b ≠ w.heap.size + 1 ∧ b ≠ w.heap.size + 1 + 1) => hb.2.2) _ _ _ _ _ _ _ _ _) (fun _ _ => trivial)
          · (repeat (first | (with_reducible apply below_alloc) | (with_reducible apply pw_below_drewN) | (with_reducible apply below_drew1))); exact put9_below (g := w.heap.size + 1 + 1) (by repeat (first | exact HB.out | apply below_alloc | apply pw_below_drewN)) (by omega) _ _ _ _ _ _ _ _ _
        · have n0 : ((k : Int) == 256) = false := beq_eq_false_iff_ne.mpr (by omega)
          obtain ⟨n, hn2⟩ : ∃ n, 256 - k = n + 1 := ⟨255 - k, by have := HK.out; omega⟩
          have HG2 : Aside0 (go l self (n + 1) c ms = r ∧ 256 - (k + 1) = n ∧ k + 1 ≤ 256) := ⟨by rw [← hn2]; exact HG.out, by omega, by have := HK.out; omega⟩
          clear hk hn2
          by_cases hd : i.f0 = 13
          · have HF : Aside0 ((c, ms, i.f6, (0 : Int)) = r) := ⟨by have h2 := HG2.out.1; rw [go_done l self n c ms HH.out (by rw [HID.out]; exact hd), HID.out] at h2; exact h2⟩
            have d0 : (i.f0 == 13) = true := beq_iff_eq.mpr hd
            clear hm og hd
            go_wp2_with (first | (go_at_call 22; refine (mem_no i.f0 i.f1 i.f2 i.f3 i.f4 i.f5 i.f6 i.f7 _ m0).mono ?_; rintro e w1 ⟨rfl, rfl⟩))
            go_region
            all_goals go_wp2
            all_goals (
              refine bodyPost_ret (v := .tuple #[.agg #[.int .u32 c.r0, .int .u32 c.r1, .int .u32 c.r2, .int .u32 c.r3, .int .u32 c.r4, .int .u32 c.r5, .int .u32 c.r6, .int .u32 c.r7, .int .i64 c.pc], u7, .int .i64 (i.f6), .int .i64 (0)]) (by simp [results, Try.results16, go_sem, *]) rfl ⟨_, by rw [← HF.out]; rfl, ?_, ?_⟩
              · rw [← HF.out]; (with_reducible repeat (first | apply Kd.R_alloc | apply Kd.R_drewN | apply Kd.R_drew)); exact Kd.R_mono (put9_R (g := w.heap.size + 1 + 1) (by (with_reducible repeat (first | apply Kd.R_alloc | apply Kd.R_drewN | apply Kd.R_drew)); exact HM.out) (fun (b : Nat) (hb : b ≠ w.heap.size ∧ b ≠ w.heap.size + 1 ∧ b ≠ w.heap.size + 1 + 1) => hb.2.2) _ _ _ _ _ _ _ _ _) (fun _ _ => trivial)
              · (repeat (first | (with_reducible apply below_alloc) | (with_reducible apply pw_below_drewN) | (with_reducible apply below_drew1))); exact put9_below (g := w.heap.size + 1 + 1) (by repeat (first | exact HB.out | apply below_alloc | apply pw_below_drewN)) (by omega) _ _ _ _ _ _ _ _ _)
          · by_cases hq : i.f0 = 12
            · have d0 : (i.f0 == 13) = false := beq_eq_false_iff_ne.mpr hd
              have HNX : Aside0 (go l self n (step c i self) (ms ++ [i.f6]) = r) := ⟨by have h2 := HG2.out.1; rw [go_mark l self n c ms HH.out (by rw [HID.out]; exact hq), HID.out] at h2; exact h2⟩
              have e0 : (i.f0 == 12) = true := beq_iff_eq.mpr hq
              clear hm og hd hq
              have P := Aside0.mk (fun W => (one_calls c i self W HC.out (by have := HH.out; omega) (by have := HH.out; omega) HOI.out f0 f1))
              go_wp2_with (first | (go_at_call 22; refine (mem_no i.f0 i.f1 i.f2 i.f3 i.f4 i.f5 i.f6 i.f7 _ m0).mono ?_; rintro e w1 ⟨rfl, rfl⟩) | ((with_reducible refine gate_builtin (b := .append) (xs := #[.tmp 54, .tmp 58]) rfl ?_); at_builtin; refine Kd.R_append (Kd.int .i64) (w0 := w) w.heap.size rfl (.tmp 54) (.tmp 58) 47 3 (.int .i64 0) 8 rfl Try.underlying47 info3 rfl (by decide) (by omega) u7 ms i.f6 [.int .i64 i.f6] (fun b => b ≠ w.heap.size ∧ b ≠ w.heap.size + 1 ∧ b ≠ w.heap.size + 1 + 1) (fun _ => False) rfl (by first | (go_simp; done) | (go_simp; rfl)) ?aP (fun _ hk => hk.elim) ?aF ?aO ?aB ?aS ?aL ?_; (case aP => exact rfl); (case aF => intro b hb2; simp at hb2; omega); (case aO => exact (by (with_reducible repeat (first | apply Kd.R_alloc)); exact HM.out)); (case aB => exact (by repeat (first | exact HB.out | apply below_alloc))); (case aS => simp; omega); (case aL => have := HN.out; have := HK.out; omega); intro v105 w8 ho hb hg hat; have HM2 := Aside0.mk ho; have HB2 := Aside0.mk hb; have B0a := Aside0.mk (blk_grown ((blk_alloc (blk_alloc B0.out _) _)) hg (fun e => (HM.out.1 _ e.symm).1 rfl)); have B1a := Aside0.mk (blk_grown ((blk_alloc (blk_alloc B1.out _) _)) hg (fun e => (HM.out.1 _ e.symm).2.1 rfl)); have B2a := Aside0.mk (blk_grown ((blk_alloc (blk_alloc B2.out _) _)) hg (fun e => (HM.out.1 _ e.symm).2.2 rfl)); have BIa := Aside0.mk (blk_grown ((blk_alloc (blk_new wr (.cells #[.int .i64 i.f0, .int .i64 i.f1, .int .i64 i.f2, .int .i64 i.f3, .int .i64 i.f4, .int .i64 i.f5, .int .u32 i.f6, .int .i64 i.f7] 27)) _)) hg (fun e => absurd ((Kd.R_bound HM.out).1 _ e.symm).2.2.1 (Nat.lt_irrefl _))); clear ho hb hg hat; have y0 : w8.cell? ⟨w.heap.size, 0, none⟩ = some (.int .u32 c.r0) := (blk_cell B0a.out 0).trans rfl; have y1 : w8.cell? ⟨w.heap.size, 1, none⟩ = some (.int .u32 c.r1) := (blk_cell B0a.out 1).trans rfl; have y2 : w8.cell? ⟨w.heap.size, 2, none⟩ = some (.int .u32 c.r2) := (blk_cell B0a.out 2).trans rfl; have y3 : w8.cell? ⟨w.heap.size, 3, none⟩ = some (.int .u32 c.r3) := (blk_cell B0a.out 3).trans rfl; have y4 : w8.cell? ⟨w.heap.size, 4, none⟩ = some (.int .u32 c.r4) := (blk_cell B0a.out 4).trans rfl; have y5 : w8.cell? ⟨w.heap.size, 5, none⟩ = some (.int .u32 c.r5) := (blk_cell B0a.out 5).trans rfl; have y6 : w8.cell? ⟨w.heap.size, 6, none⟩ = some (.int .u32 c.r6) := (blk_cell B0a.out 6).trans rfl; have y7 : w8.cell? ⟨w.heap.size, 7, none⟩ = some (.int .u32 c.r7) := (blk_cell B0a.out 7).trans rfl; have y8 : w8.cell? ⟨w.heap.size, 8, none⟩ = some (.int .i64 c.pc) := (blk_cell B0a.out 8).trans rfl; have u0' : w8.cell? ⟨wr.heap.size, 0, none⟩ = some (.int .i64 i.f0) := (blk_cell BIa.out 0).trans rfl; have u1' : w8.cell? ⟨wr.heap.size, 1, none⟩ = some (.int .i64 i.f1) := (blk_cell BIa.out 1).trans rfl; have u2' : w8.cell? ⟨wr.heap.size, 2, none⟩ = some (.int .i64 i.f2) := (blk_cell BIa.out 2).trans rfl; have u3' : w8.cell? ⟨wr.heap.size, 3, none⟩ = some (.int .i64 i.f3) := (blk_cell BIa.out 3).trans rfl; have u4' : w8.cell? ⟨wr.heap.size, 4, none⟩ = some (.int .i64 i.f4) := (blk_cell BIa.out 4).trans rfl; have u5' : w8.cell? ⟨wr.heap.size, 5, none⟩ = some (.int .i64 i.f5) := (blk_cell BIa.out 5).trans rfl; have u6' : w8.cell? ⟨wr.heap.size, 6, none⟩ = some (.int .u32 i.f6) := (blk_cell BIa.out 6).trans rfl; have u7' : w8.cell? ⟨wr.heap.size, 7, none⟩ = some (.int .i64 i.f7) := (blk_cell BIa.out 7).trans rfl) | (go_at_call 12; refine (P.out _).mono ?_; rintro e w9 ⟨rfl, hb⟩; obtain ⟨c', hc'⟩ : ∃ c', c' = step c i self := ⟨_, rfl⟩; rw [← hc']; have HC' := Aside0.mk hc'; clear hc'; unfold Cr.val; have B0b := blk_below B0a.out hb; have B1b := blk_below B1a.out hb; have B2b := blk_below B2a.out hb; have HM3 := Aside0.mk (Kd.R_below HM2.out hb); have HB3 := Aside0.mk (below_step HB2.out hb); have v0 : w9.cell? ⟨w.heap.size, 0, none⟩ = some (.int .u32 c.r0) := (blk_cell B0b 0).trans rfl; have vf0 := blk_frozen B0b 0; have v1 : w9.cell? ⟨w.heap.size, 1, none⟩ = some (.int .u32 c.r1) := (blk_cell B0b 1).trans rfl; have vf1 := blk_frozen B0b 1; have v2 : w9.cell? ⟨w.heap.size, 2, none⟩ = some (.int .u32 c.r2) := (blk_cell B0b 2).trans rfl; have vf2 := blk_frozen B0b 2; have v3 : w9.cell? ⟨w.heap.size, 3, none⟩ = some (.int .u32 c.r3) := (blk_cell B0b 3).trans rfl; have vf3 := blk_frozen B0b 3; have v4 : w9.cell? ⟨w.heap.size, 4, none⟩ = some (.int .u32 c.r4) := (blk_cell B0b 4).trans rfl; have vf4 := blk_frozen B0b 4; have v5 : w9.cell? ⟨w.heap.size, 5, none⟩ = some (.int .u32 c.r5) := (blk_cell B0b 5).trans rfl; have vf5 := blk_frozen B0b 5; have v6 : w9.cell? ⟨w.heap.size, 6, none⟩ = some (.int .u32 c.r6) := (blk_cell B0b 6).trans rfl; have vf6 := blk_frozen B0b 6; have v7 : w9.cell? ⟨w.heap.size, 7, none⟩ = some (.int .u32 c.r7) := (blk_cell B0b 7).trans rfl; have vf7 := blk_frozen B0b 7; have v8 : w9.cell? ⟨w.heap.size, 8, none⟩ = some (.int .i64 c.pc) := (blk_cell B0b 8).trans rfl; have vf8 := blk_frozen B0b 8; have B0c := Aside0.mk B0b; have B1c := Aside0.mk B1b; have B2c := Aside0.mk B2b; clear B0b B1b B2b hb))
              go_roundg (256 - k)
              case measure => have := HK.out; have := HG2.out; omega
              case rel => exact ⟨c', (ms ++ [i.f6]), k + 1, by go_num, ⟨by have := HK.out; have := HG2.out; omega⟩, ⟨by rw [HC'.out]; exact step_ok HC.out HOI.out f0 f1⟩, ⟨by rw [HC'.out, HG2.out.2.1]; exact HNX.out⟩, ⟨by have := HN.out; first | (rw [List.length_append, List.length_singleton]; omega) | omega⟩, ⟨put9_R (g := w.heap.size) HM3.out (fun (b : Nat) (hb : b ≠ w.heap.size ∧ b ≠ w.heap.size + 1 ∧ b ≠ w.heap.size + 1 + 1) => hb.1) _ _ _ _ _ _ _ _ _⟩, ⟨put9_below (g := w.heap.size) HB3.out (Nat.le_refl _) _ _ _ _ _ _ _ _ _⟩, ⟨put9_same B0c.out _ _ _ _ _ _ _ _ _⟩, ⟨put9_far B1c.out (by omega) _ _ _ _ _ _ _ _ _⟩, ⟨put9_far B2c.out (by omega) _ _ _ _ _ _ _ _ _⟩⟩
            · have d0 : (i.f0 == 13) = false := beq_eq_false_iff_ne.mpr hd
              have HNX : Aside0 (go l self n (step c i self) ms = r) := ⟨by have h2 := HG2.out.1; rw [go_on l self n c ms HH.out (by rw [HID.out]; exact hm) (by rw [HID.out]; exact hd) (by rw [HID.out]; exact hq), HID.out] at h2; exact h2⟩
              have e0 : (i.f0 == 12) = false := beq_eq_false_iff_ne.mpr hq
              clear hm og hd hq
              have P := Aside0.mk (fun W => (one_calls c i self W HC.out (by have := HH.out; omega) (by have := HH.out; omega) HOI.out f0 f1))
              go_wp2_with (first | (go_at_call 22; refine (mem_no i.f0 i.f1 i.f2 i.f3 i.f4 i.f5 i.f6 i.f7 _ m0).mono ?_; rintro e w1 ⟨rfl, rfl⟩) | (go_at_call 12; refine (P.out _).mono ?_; rintro e w9 ⟨rfl, hb⟩; obtain ⟨c', hc'⟩ : ∃ c', c' = step c i self := ⟨_, rfl⟩; rw [← hc']; have HC' := Aside0.mk hc'; clear hc'; unfold Cr.val; have B0b := blk_below ((blk_alloc (blk_alloc B0.out _) _)) hb; have B1b := blk_below ((blk_alloc (blk_alloc B1.out _) _)) hb; have B2b := blk_below ((blk_alloc (blk_alloc B2.out _) _)) hb; have HM3 := Aside0.mk (Kd.R_below (by (with_reducible repeat (first | apply Kd.R_alloc)); exact HM.out) hb); have HB3 := Aside0.mk (below_step (by repeat (first | exact HB.out | apply below_alloc)) hb); have v0 : w9.cell? ⟨w.heap.size, 0, none⟩ = some (.int .u32 c.r0) := (blk_cell B0b 0).trans rfl; have vf0 := blk_frozen B0b 0; have v1 : w9.cell? ⟨w.heap.size, 1, none⟩ = some (.int .u32 c.r1) := (blk_cell B0b 1).trans rfl; have vf1 := blk_frozen B0b 1; have v2 : w9.cell? ⟨w.heap.size, 2, none⟩ = some (.int .u32 c.r2) := (blk_cell B0b 2).trans rfl; have vf2 := blk_frozen B0b 2; have v3 : w9.cell? ⟨w.heap.size, 3, none⟩ = some (.int .u32 c.r3) := (blk_cell B0b 3).trans rfl; have vf3 := blk_frozen B0b 3; have v4 : w9.cell? ⟨w.heap.size, 4, none⟩ = some (.int .u32 c.r4) := (blk_cell B0b 4).trans rfl; have vf4 := blk_frozen B0b 4; have v5 : w9.cell? ⟨w.heap.size, 5, none⟩ = some (.int .u32 c.r5) := (blk_cell B0b 5).trans rfl; have vf5 := blk_frozen B0b 5; have v6 : w9.cell? ⟨w.heap.size, 6, none⟩ = some (.int .u32 c.r6) := (blk_cell B0b 6).trans rfl; have vf6 := blk_frozen B0b 6; have v7 : w9.cell? ⟨w.heap.size, 7, none⟩ = some (.int .u32 c.r7) := (blk_cell B0b 7).trans rfl; have vf7 := blk_frozen B0b 7; have v8 : w9.cell? ⟨w.heap.size, 8, none⟩ = some (.int .i64 c.pc) := (blk_cell B0b 8).trans rfl; have vf8 := blk_frozen B0b 8; have B0c := Aside0.mk B0b; have B1c := Aside0.mk B1b; have B2c := Aside0.mk B2b; clear B0b B1b B2b hb))
              go_roundg (256 - k)
              case measure => have := HK.out; have := HG2.out; omega
              case rel => exact ⟨c', ms, k + 1, by go_num, ⟨by have := HK.out; have := HG2.out; omega⟩, ⟨by rw [HC'.out]; exact step_ok HC.out HOI.out f0 f1⟩, ⟨by rw [HC'.out, HG2.out.2.1]; exact HNX.out⟩, ⟨by have := HN.out; first | (rw [List.length_append, List.length_singleton]; omega) | omega⟩, ⟨put9_R (g := w.heap.size) HM3.out (fun (b : Nat) (hb : b ≠ w.heap.size ∧ b ≠ w.heap.size + 1 ∧ b ≠ w.heap.size + 1 + 1) => hb.1) _ _ _ _ _ _ _ _ _⟩, ⟨put9_below (g := w.heap.size) HB3.out (Nat.le_refl _) _ _ _ _ _ _ _ _ _⟩, ⟨put9_same B0c.out _ _ _ _ _ _ _ _ _⟩, ⟨put9_far B1c.out (by omega) _ _ _ _ _ _ _ _ _⟩, ⟨put9_far B2c.out (by omega) _ _ _ _ _ _ _ _ _⟩⟩
    · have HF : Aside0 ((c, ms, (-1 : Int), (11 : Int)) = r) := ⟨(go_out l self (256 - k) c ms h0).symm.trans HG.out⟩
      by_cases hp : 0 ≤ c.pc
      · have t1 : decide (0 ≤ c.pc) = true := decide_eq_true hp
        have t2 : decide (c.pc < (l.length : Int)) = false := decide_eq_false (by omega)
        clear h0 hp
        go_wp2
        refine bodyPost_ret (v := .tuple #[.agg #[.int .u32 c.r0, .int .u32 c.r1, .int .u32 c.r2, .int .u32 c.r3, .int .u32 c.r4, .int .u32 c.r5, .int .u32 c.r6, .int .u32 c.r7, .int .i64 c.pc], u7, .int .i64 (-1), .int .i64 (11)]) (by simp [results, Try.results16, go_sem, *]) rfl ⟨_, by rw [← HF.out]; rfl, ?_, ?_⟩
        · rw [← HF.out]; (with_reducible repeat (first | apply Kd.R_alloc | apply Kd.R_drewN | apply Kd.R_drew)); exact Kd.R_mono (put9_R (g := w.heap.size + 1 + 1) (by (with_reducible repeat (first | apply Kd.R_alloc | apply Kd.R_drewN | apply Kd.R_drew)); exact HM.out) (fun (b : Nat) (hb : b ≠ w.heap.size ∧ b ≠ w.heap.size + 1 ∧ b ≠ w.heap.size + 1 + 1) => hb.2.2) _ _ _ _ _ _ _ _ _) (fun _ _ => trivial)
        · (repeat (first | (with_reducible apply below_alloc) | (with_reducible apply pw_below_drewN) | (with_reducible apply below_drew1))); exact put9_below (g := w.heap.size + 1 + 1) (by repeat (first | exact HB.out | apply below_alloc | apply pw_below_drewN)) (by omega) _ _ _ _ _ _ _ _ _
      · have t1 : decide (0 ≤ c.pc) = false := decide_eq_false hp
        clear h0 hp
        go_wp2
        refine bodyPost_ret (v := .tuple #[.agg #[.int .u32 c.r0, .int .u32 c.r1, .int .u32 c.r2, .int .u32 c.r3, .int .u32 c.r4, .int .u32 c.r5, .int .u32 c.r6, .int .u32 c.r7, .int .i64 c.pc], u7, .int .i64 (-1), .int .i64 (11)]) (by simp [results, Try.results16, go_sem, *]) rfl ⟨_, by rw [← HF.out]; rfl, ?_, ?_⟩
        · rw [← HF.out]; (with_reducible repeat (first | apply Kd.R_alloc | apply Kd.R_drewN | apply Kd.R_drew)); exact Kd.R_mono (put9_R (g := w.heap.size + 1 + 1) (by (with_reducible repeat (first | apply Kd.R_alloc | apply Kd.R_drewN | apply Kd.R_drew)); exact HM.out) (fun (b : Nat) (hb : b ≠ w.heap.size ∧ b ≠ w.heap.size + 1 ∧ b ≠ w.heap.size + 1 + 1) => hb.2.2) _ _ _ _ _ _ _ _ _) (fun _ _ => trivial)
        · (repeat (first | (with_reducible apply below_alloc) | (with_reducible apply pw_below_drewN) | (with_reducible apply below_drew1))); exact put9_below (g := w.heap.size + 1 + 1) (by repeat (first | exact HB.out | apply below_alloc | apply pw_below_drewN)) (by omega) _ _ _ _ _ _ _ _ _
end Go.Proofs.Ytobjjmdaleoblaa.Co
