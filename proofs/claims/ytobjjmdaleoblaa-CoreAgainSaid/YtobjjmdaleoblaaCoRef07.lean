/- ropelinelaw07.Ref: what it comes to. -/
import Derived.Test.YtobjjmdaleoblaaCoSmall
namespace Go.Proofs.Ytobjjmdaleoblaa.Co
open Go.RowKit Go.Proofs.YtobjjmdaleoblaaW.PrintWords Go.Proofs.YtobjjmdaleoblaaW.PrintLast Go.Proofs.YtobjjmdaleoblaaW.PrintMore Go.Proofs.Ytobjjmdaleoblaa.PCoreRuns
attribute [local go_sem] max2_int min2_int max_two min_two max_three min_three max_four min_four
set_option linter.unusedVariables false
set_option linter.unusedSimpArgs false
/-! ### ropelinelaw07_Ref: function 15 -/
def ropelinelaw07_Ref.l0 : Nat → List (S27) → Int → Int → List (S29) → Int → Int → Option ((List (S29)) × Int × Int)
  | 0, _, _, _, _, _, _ => none
  | k + 1, x12, x13, x14, x111000, x111001, x111002 => if x14 < x13 then (if 0 ≤ x14 then (if x14 < (x12.length : Int) then ((ropelinelaw06_Ref.f ((rd_T27 x12 x14).f0) ((rd_T27 x12 x14).f1) ((rd_T27 x12 x14).f2) ((rd_T27 x12 x14).f3) ((rd_T27 x12 x14).f4) ((rd_T27 x12 x14).f5) ((rd_T27 x12 x14).f6) ((rd_T27 x12 x14).f7)).bind fun bt113 => (if x111000.length < 2199023255552 then (ropelinelaw07_Ref.l0 k x12 x13 (wrap64 (x14 + 1)) (x111000 ++ [(⟨bt113.1, bt113.2.1, bt113.2.2.1, bt113.2.2.2.1, bt113.2.2.2.2.1, bt113.2.2.2.2.2.1, bt113.2.2.2.2.2.2.1, bt113.2.2.2.2.2.2.2⟩ : S29)]) x111001 x111002) else (none))) else (none)) else (none)) else (some (x111000, x111001, x111002))
def ropelinelaw07_Ref.f (k : Nat) (l0_0 : List (S27)) (a0_1 : Int) (a0_2 : Int) : Option ((List (S29)) × Int × Int) := ropelinelaw07_Ref.l0 k l0_0 (l0_0.length : Int) 0 ([] : List (S29)) a0_1 a0_2
theorem ropelinelaw07_Ref.mono_l : ∀ k, (∀ y0 y1 y2 y3 y4 y5, LeO (ropelinelaw07_Ref.l0 k y0 y1 y2 y3 y4 y5) (ropelinelaw07_Ref.l0 (k + 1) y0 y1 y2 y3 y4 y5))
  | 0 => fun _ _ _ _ _ _ r h => by simp [ropelinelaw07_Ref.l0] at h
  | k + 1 => by
    have ih0 := ropelinelaw07_Ref.mono_l k
    · intro y0 y1 y2 y3 y4 y5
      unfold ropelinelaw07_Ref.l0
      repeat' first
      | (with_reducible exact ih0 _ _ _ _ _ _)
      | (with_reducible exact LeO.refl _)
      | (with_reducible exact LeO.none _)
      | (with_reducible refine LeO.ite ?_ ?_)
      | (with_reducible refine LeO.bind ?_ (fun _ => ?_))
      | exact ih0 _ _ _ _ _ _
      | exact LeO.none _
      | refine LeO.ite ?_ ?_
      | refine LeO.bind ?_ (fun _ => ?_)
theorem ropelinelaw07_Ref.mono : ∀ a0 a1 a2 k, LeO (ropelinelaw07_Ref.f k a0 a1 a2) (ropelinelaw07_Ref.f (k + 1) a0 a1 a2) := by
  intro a0 a1 a2 k
  have ih0 := ropelinelaw07_Ref.mono_l k
  unfold ropelinelaw07_Ref.f
  repeat' first
      | (with_reducible exact ih0 _ _ _ _ _ _)
      | (with_reducible exact LeO.refl _)
      | (with_reducible exact LeO.none _)
      | (with_reducible refine LeO.ite ?_ ?_)
      | (with_reducible refine LeO.bind ?_ (fun _ => ?_))
      | exact ih0 _ _ _ _ _ _
      | exact LeO.none _
      | refine LeO.ite ?_ ?_
      | refine LeO.bind ?_ (fun _ => ?_)
def ropelinelaw07_Ref.T5 : Bool × List (List Nat × List Nat) := (true, [([], []), ([0], [0]), ([], []), ([2], [2]), ([3], [3]), ([1, 4, 3], [1, 4]), ([0, 1, 2, 3, 4, 5], []), ([6, 5, 5, 0, 1, 2, 3, 4, 5], [5, 6])])
def ropelinelaw07_Ref.B5 : List Nat := [0, 1, 0, 4, 12, 31, 63, 127]
theorem ropelinelaw07_Ref.tab5 : rtab .any (opsOf Try.f15 5) = ropelinelaw07_Ref.T5 := by kernel_rfl
theorem ropelinelaw07_Ref.bits5 : waitsOk ropelinelaw07_Ref.T5.2 ropelinelaw07_Ref.B5 = true := by kernel_rfl
set_option maxHeartbeats 8000000 in
set_option maxRecDepth 100000 in
theorem ropelinelaw07_Ref.calls (k : Nat) (A0_0 : Option Addr) (c0_0 : Nat) (l0_0 : List (S27)) (a0_1 : Int) (a0_2 : Int) (r1 : List (S29)) (r2 : Int) (r3 : Int) (w : World) (hr0_0 : Kd.C k27 w A0_0 l0_0.length l0_0) (hc0_0 : l0_0.length ≤ c0_0) (h : ropelinelaw07_Ref.f k l0_0 a0_1 a0_2 = some (r1, r2, r3)) :
    Calls Try.prog 15 #[.agg #[.slice A0_0 l0_0.length c0_0, .int .i64 a0_1, .int .i64 a0_2]] w fun e w' => ∃ v0_ : Value, e = .returned (.agg #[v0_, .int .i64 r2, .int .i64 r3]) ∧ Kd.R k29 29 w' w.heap.size (fun _ => True) v0_ r1 ∧ Below w.heap.size w w' := by
  have hu41 := Try.underlying41
  have hu45 := Try.underlying45
  have hu27 := Try.underlying27
  have HR0_0 := Aside0.mk hr0_0
  have HC0_0 := Aside0.mk hc0_0
  clear hr0_0 hc0_0
  have HB := Aside0.mk (Below.refl w.heap.size w)
  have H : (ropelinelaw07_Ref.l0 k l0_0 (l0_0.length : Int) 0 ([] : List (S29)) a0_1 a0_2) = some (r1, r2, r3) := h
  clear h
  have H' := Aside0.mk H
  clear H
  go_enter Try.func15, Try.ntmps15
  go_wp2_with (first | ((with_reducible refine gate_dst (N := 1) rfl ?_); refine box_event ?hg (N := 1) ?hd (cs := #[.slice A0_0 l0_0.length c0_0, .int .i64 a0_1, .int .i64 a0_2]) (t := 41) ?hr ?_; (case hd => rfl); (case hg => rfl); (case hr => first | (go_simp; done) | (go_simp; rfl)); intro gb108 hg w2 hbox hb; have n0_ := Aside0.mk (below_step (by repeat (first | (with_reducible first | exact HB.out | apply below_alloc | apply pw_below_drewN | apply below_drew1) | exact HB.out)) hb); have n1_ := Aside0.mk (hbox); have n2_ := Aside0.mk ((by rw [hg]; exact (below_size (by repeat (first | (with_reducible first | exact HB.out | apply below_alloc | apply pw_below_drewN | apply below_drew1) | exact HB.out))) : w.heap.size ≤ gb108)); have n3_ := Aside0.mk ((by rw [hg]; exact (below_size (by repeat (first | (with_reducible first | exact HB.out | apply below_alloc | apply pw_below_drewN | apply below_drew1) | exact HB.out))) : w.heap.size ≤ gb108)); clear HB; have HB := n0_; have BK108 := n1_; have GW108 := n2_; have GE108 := n3_; clear n0_ n1_ n2_ n3_; clear hb hbox hg) | ((with_reducible refine gate_dst (N := 2) rfl ?_); refine box_event ?hg (N := 2) ?hd (cs := #[.slice none 0 0, .int .i64 0, .int .i64 0]) (t := 45) ?hr ?_; (case hd => rfl); (case hg => rfl); (case hr => first | (go_simp; done) | (go_simp; rfl)); intro gb109 hg w3 hbox hb; have n0_ := Aside0.mk (blk_below (g := gb108) (o := .cells #[.slice A0_0 l0_0.length c0_0, .int .i64 a0_1, .int .i64 a0_2] 41 (0, 0)) (by (with_reducible repeat (first | refine blk_drewN ?_ _ | refine blk_drew ?_ | refine blk_alloc ?_ _)); exact BK108.out) hb); have n1_ := Aside0.mk (below_step (by repeat (first | (with_reducible first | exact HB.out | apply below_alloc | apply pw_below_drewN | apply below_drew1 | refine below_set ?_ GE108.out) | exact HB.out)) hb); have n2_ := Aside0.mk (hbox); have n3_ := Aside0.mk ((by rw [hg]; exact (below_size (by repeat (first | (with_reducible first | exact HB.out | apply below_alloc | apply pw_below_drewN | apply below_drew1 | refine below_set ?_ GE108.out) | exact HB.out))) : w.heap.size ≤ gb109)); have n4_ := Aside0.mk ((by rw [hg]; exact (below_size (by repeat (first | (with_reducible first | exact HB.out | apply below_alloc | apply pw_below_drewN | apply below_drew1 | refine below_set ?_ GE108.out) | exact HB.out))) : w.heap.size ≤ gb109)); have n5_ := Aside0.mk ((by rw [hg]; exact Nat.ne_of_lt (blk_lt (g := gb108) (o := .cells #[.slice A0_0 l0_0.length c0_0, .int .i64 a0_1, .int .i64 a0_2] 41 (0, 0)) (by (with_reducible repeat (first | refine blk_drewN ?_ _ | refine blk_drew ?_ | refine blk_alloc ?_ _)); exact BK108.out)) : gb108 ≠ gb109)); have n6_ := Aside0.mk ((by rw [hg]; exact Nat.ne_of_gt (blk_lt (g := gb108) (o := .cells #[.slice A0_0 l0_0.length c0_0, .int .i64 a0_1, .int .i64 a0_2] 41 (0, 0)) (by (with_reducible repeat (first | refine blk_drewN ?_ _ | refine blk_drew ?_ | refine blk_alloc ?_ _)); exact BK108.out)) : gb109 ≠ gb108)); clear BK108; clear HB; have BK108 := n0_; have HB := n1_; have BK109 := n2_; have GW109 := n3_; have GE109 := n4_; have NB108_109 := n5_; have NB109_108 := n6_; clear n0_ n1_ n2_ n3_ n4_ n5_ n6_; clear hb hbox hg; have hnb4 := NB108_109.out; have hnc4 := NB109_108.out; have hcz5_0 : w3.cell? ⟨gb108, 0, none⟩ = some (.slice A0_0 l0_0.length c0_0) := (blk_cell BK108.out 0).trans rfl; have hcz5_1 : w3.cell? ⟨gb108, 1, none⟩ = some (.int .i64 a0_1) := (blk_cell BK108.out 1).trans rfl; have hcz5_2 : w3.cell? ⟨gb108, 2, none⟩ = some (.int .i64 a0_2) := (blk_cell BK108.out 2).trans rfl; have hfz5_0 := blk_frozen BK108.out 0; have hfz5_1 := blk_frozen BK108.out 1; have hfz5_2 := blk_frozen BK108.out 2) | ((with_reducible refine gate_dst (N := 3) rfl ?_); refine box_event ?hg (N := 3) ?hd (cs := #[.slice none 0 0, .int .i64 0, .int .i64 0]) (t := 45) ?hr ?_; (case hd => rfl); (case hg => rfl); (case hr => first | (go_simp; done) | (go_simp; rfl)); intro gb110 hg w6 hbox hb; have n0_ := Aside0.mk (blk_below (g := gb108) (o := .cells #[.slice A0_0 l0_0.length c0_0, .int .i64 a0_1, .int .i64 a0_2] 41 (0, 0)) (by (with_reducible repeat (first | refine blk_drewN ?_ _ | refine blk_drew ?_ | refine blk_alloc ?_ _)); exact BK108.out) hb); have n1_ := Aside0.mk (blk_below (g := gb109) (o := .cells #[.slice none 0 0, .int .i64 0, .int .i64 0] 45 (0, 0)) (by (with_reducible repeat (first | refine blk_drewN ?_ _ | refine blk_drew ?_ | refine blk_alloc ?_ _)); exact BK109.out) hb); have n2_ := Aside0.mk (below_step (by repeat (first | (with_reducible first | exact HB.out | apply below_alloc | apply pw_below_drewN | apply below_drew1 | refine below_set ?_ GE108.out | refine below_set ?_ GE109.out) | exact HB.out)) hb); have n3_ := Aside0.mk (hbox); have n4_ := Aside0.mk ((by rw [hg]; exact (below_size (by repeat (first | (with_reducible first | exact HB.out | apply below_alloc | apply pw_below_drewN | apply below_drew1 | refine below_set ?_ GE108.out | refine below_set ?_ GE109.out) | exact HB.out))) : w.heap.size ≤ gb110)); have n5_ := Aside0.mk ((by rw [hg]; exact (below_size (by repeat (first | (with_reducible first | exact HB.out | apply below_alloc | apply pw_below_drewN | apply below_drew1 | refine below_set ?_ GE108.out | refine below_set ?_ GE109.out) | exact HB.out))) : w.heap.size ≤ gb110)); have n6_ := Aside0.mk ((by rw [hg]; exact Nat.ne_of_lt (blk_lt (g := gb108) (o := .cells #[.slice A0_0 l0_0.length c0_0, .int .i64 a0_1, .int .i64 a0_2] 41 (0, 0)) (by (with_reducible repeat (first | refine blk_drewN ?_ _ | refine blk_drew ?_ | refine blk_alloc ?_ _)); exact BK108.out)) : gb108 ≠ gb110)); have n7_ := Aside0.mk ((by rw [hg]; exact Nat.ne_of_gt (blk_lt (g := gb108) (o := .cells #[.slice A0_0 l0_0.length c0_0, .int .i64 a0_1, .int .i64 a0_2] 41 (0, 0)) (by (with_reducible repeat (first | refine blk_drewN ?_ _ | refine blk_drew ?_ | refine blk_alloc ?_ _)); exact BK108.out)) : gb110 ≠ gb108)); have n8_ := Aside0.mk ((by rw [hg]; exact Nat.ne_of_lt (blk_lt (g := gb109) (o := .cells #[.slice none 0 0, .int .i64 0, .int .i64 0] 45 (0, 0)) (by (with_reducible repeat (first | refine blk_drewN ?_ _ | refine blk_drew ?_ | refine blk_alloc ?_ _)); exact BK109.out)) : gb109 ≠ gb110)); have n9_ := Aside0.mk ((by rw [hg]; exact Nat.ne_of_gt (blk_lt (g := gb109) (o := .cells #[.slice none 0 0, .int .i64 0, .int .i64 0] 45 (0, 0)) (by (with_reducible repeat (first | refine blk_drewN ?_ _ | refine blk_drew ?_ | refine blk_alloc ?_ _)); exact BK109.out)) : gb110 ≠ gb109)); clear BK108; clear BK109; clear HB; have BK108 := n0_; have BK109 := n1_; have HB := n2_; have BK110 := n3_; have GW110 := n4_; have GE110 := n5_; have NB108_110 := n6_; have NB110_108 := n7_; have NB109_110 := n8_; have NB110_109 := n9_; clear n0_ n1_ n2_ n3_ n4_ n5_ n6_ n7_ n8_ n9_; clear hb hbox hg; have hnb7 := NB110_108.out; have hnc7 := NB108_110.out; have hnb8 := NB110_109.out; have hnc8 := NB109_110.out; have hcz9_0 : w6.cell? ⟨gb110, 0, none⟩ = some (.slice none 0 0) := (blk_cell BK110.out 0).trans rfl; have hcz9_1 : w6.cell? ⟨gb110, 1, none⟩ = some (.int .i64 0) := (blk_cell BK110.out 1).trans rfl; have hcz9_2 : w6.cell? ⟨gb110, 2, none⟩ = some (.int .i64 0) := (blk_cell BK110.out 2).trans rfl; have hfz9_0 := blk_frozen BK110.out 0; have hfz9_1 := blk_frozen BK110.out 1; have hfz9_2 := blk_frozen BK110.out 2; have hcz10_0 : w6.cell? ⟨gb108, 0, none⟩ = some (.slice A0_0 l0_0.length c0_0) := (blk_cell BK108.out 0).trans rfl; have hcz10_1 : w6.cell? ⟨gb108, 1, none⟩ = some (.int .i64 a0_1) := (blk_cell BK108.out 1).trans rfl; have hcz10_2 : w6.cell? ⟨gb108, 2, none⟩ = some (.int .i64 a0_2) := (blk_cell BK108.out 2).trans rfl; have hfz10_0 := blk_frozen BK108.out 0; have hfz10_1 := blk_frozen BK108.out 1; have hfz10_2 := blk_frozen BK108.out 2))
  go_loopg [14] k (fun kq v14 w' => ∃ (x14_1 : Int) (x111000_1 : List (S29)) (u111000 : Value), v14 = .int .i64 x14_1 ∧ Aside0 (ropelinelaw07_Ref.l0 kq l0_0 (l0_0.length : Int) x14_1 x111000_1 a0_1 a0_2 = some (r1, r2, r3)) ∧ Aside0 (kq ≤ k) ∧ Aside0 (Kd.R k29 29 w' w.heap.size (fun _ => True) u111000 x111000_1) ∧ Aside0 (w'.heap[gb108]? = some (.cells #[(.slice A0_0 l0_0.length c0_0), .int .i64 a0_1, .int .i64 a0_2] 41 (0, 0))) ∧ Aside0 (w'.heap[gb109]? = some (.cells #[(.slice none 0 0), .int .i64 0, .int .i64 0] 45 (0, 0))) ∧ Aside0 (w'.heap[gb110]? = some (.cells #[u111000, .int .i64 a0_1, .int .i64 a0_2] 45 (0, 0))) ∧ Aside0 (Below w.heap.size w w'))
  case atStart => exact ⟨(0), (([] : List (S29))), (.slice none 0 0), (by first | rfl | (simp; done) | (simp [*]; done)), H', ⟨Nat.le_refl _⟩, ⟨by first | exact Kd.R_nil _ _ _ _ _ | exact Kd.N_nil _ _ _ _ _ | exact Kd.V_nil _ _ _ _ _ | exact Kd.Q_nil _ _ _ _ _ | exact Kd.S_nil _ _ _ _ _⟩, ⟨by (with_reducible repeat (first | refine blk_drewN ?_ _ | refine blk_drew ?_ | refine blk_alloc ?_ _)); refine blk_far ?_ NB108_110.out _; (with_reducible repeat (first | refine blk_drewN ?_ _ | refine blk_drew ?_ | refine blk_alloc ?_ _)); refine blk_far ?_ NB108_110.out _; (with_reducible repeat (first | refine blk_drewN ?_ _ | refine blk_drew ?_ | refine blk_alloc ?_ _)); refine blk_far ?_ NB108_110.out _; (with_reducible repeat (first | refine blk_drewN ?_ _ | refine blk_drew ?_ | refine blk_alloc ?_ _)); exact BK108.out⟩, ⟨by (with_reducible repeat (first | refine blk_drewN ?_ _ | refine blk_drew ?_ | refine blk_alloc ?_ _)); refine blk_far ?_ NB109_110.out _; (with_reducible repeat (first | refine blk_drewN ?_ _ | refine blk_drew ?_ | refine blk_alloc ?_ _)); refine blk_far ?_ NB109_110.out _; (with_reducible repeat (first | refine blk_drewN ?_ _ | refine blk_drew ?_ | refine blk_alloc ?_ _)); refine blk_far ?_ NB109_110.out _; (with_reducible repeat (first | refine blk_drewN ?_ _ | refine blk_drew ?_ | refine blk_alloc ?_ _)); exact BK109.out⟩, ⟨by (with_reducible repeat (first | refine blk_drewN ?_ _ | refine blk_drew ?_ | refine blk_alloc ?_ _)); refine blk_put (cs := #[.slice none 0 0, .int .i64 a0_1, .int .i64 0]) ?_ 2 _ rfl; (with_reducible repeat (first | refine blk_drewN ?_ _ | refine blk_drew ?_ | refine blk_alloc ?_ _)); refine blk_put (cs := #[.slice none 0 0, .int .i64 0, .int .i64 0]) ?_ 1 _ rfl; (with_reducible repeat (first | refine blk_drewN ?_ _ | refine blk_drew ?_ | refine blk_alloc ?_ _)); refine blk_put (cs := #[.slice none 0 0, .int .i64 0, .int .i64 0]) ?_ 0 _ rfl; (with_reducible repeat (first | refine blk_drewN ?_ _ | refine blk_drew ?_ | refine blk_alloc ?_ _)); exact BK110.out⟩, ⟨by repeat (first | (with_reducible first | exact HB.out | apply below_alloc | apply pw_below_drewN | apply below_drew1 | refine below_set ?_ GE108.out | refine below_set ?_ GE109.out | refine below_set ?_ GE110.out) | exact HB.out)⟩⟩
  case round =>
    clear H'
    try clear c1
    try clear p2
    try clear c4
    try clear c7
    try clear c8
    try clear hcz10_0
    try clear hcz10_1
    try clear hcz10_2
    try clear hcz5_0
    try clear hcz5_1
    try clear hcz5_2
    try clear hcz9_0
    try clear hcz9_1
    try clear hcz9_2
    try clear hfz10_0
    try clear hfz10_1
    try clear hfz10_2
    try clear hfz5_0
    try clear hfz5_1
    try clear hfz5_2
    try clear hfz9_0
    try clear hfz9_1
    try clear hfz9_2
    obtain ⟨x14_1, x111000_1, u111000, rfl, HA, HK1, HO_111000, BK108, BK109, BK110, HB⟩ := hrel
    cases gk with
    | zero => exact absurd HA.out (by simp [ropelinelaw07_Ref.l0])
    | succ k1 =>
      have H := HA.out
      clear HA
      simp only [ropelinelaw07_Ref.l0] at H
      by_cases c11 : x14_1 < (l0_0.length : Int)
      · rw [if_pos c11] at H
        have c11b0 : decide (x14_1 < (l0_0.length : Int)) = true := decide_eq_true c11
        clear c11
        by_cases c12 : 0 ≤ x14_1
        · rw [if_pos c12] at H
          have c12b0 : decide (0 ≤ x14_1) = true := decide_eq_true c12
          clear c12
          by_cases c13 : x14_1 < (l0_0.length : Int)
          · rw [if_pos c13] at H
            have c13b0 : decide (x14_1 < (l0_0.length : Int)) = true := decide_eq_true c13
            clear c13
            replace H := Option.bind_eq_some_iff.mp H
            obtain ⟨⟨t113, t114, t115, t116, t117, t118, t119, t120⟩, A140, H⟩ := H
            replace H : (if x111000_1.length < 2199023255552 then (ropelinelaw07_Ref.l0 k1 l0_0 (l0_0.length : Int) (wrap64 (x14_1 + 1)) (x111000_1 ++ [(⟨t113, t114, t115, t116, t117, t118, t119, t120⟩ : S29)]) a0_1 a0_2) else (none)) = some (r1, r2, r3) := H
            have A14 := Aside0.mk A140
            clear A140
            by_cases c15 : x111000_1.length < 2199023255552
            · rw [if_pos c15] at H
              have LMc15 := Aside0.mk c15
              clear c15
              obtain ⟨y121, hy121⟩ : ∃ y_ : List (S29), y_ = (x111000_1 ++ [(⟨t113, t114, t115, t116, t117, t118, t119, t120⟩ : S29)]) := ⟨_, rfl⟩
              replace H : (ropelinelaw07_Ref.l0 k1 l0_0 (l0_0.length : Int) (wrap64 (x14_1 + 1)) y121 a0_1 a0_2) = some (r1, r2, r3) := by first | (rw [hy121]; with_reducible exact H) | (have H2_ := (Option.bind_some _ _).symm.trans H; rw [hy121]; with_reducible exact H2_) | (have H2_ := (Option.bind_some _ _).symm.trans H; with_reducible exact H2_) | with_reducible exact H | (rw [hy121]; exact H) | exact H
              have Ny121 := Aside0.mk hy121
              clear hy121
              have H' := Aside0.mk H
              clear H
              have p111 : 0 ≤ (x14_1 : Int) := of_decide_eq_true (by first | (with_reducible assumption) | assumption)
              have q111 : x14_1 < (l0_0.length : Int) := of_decide_eq_true (by first | (with_reducible assumption) | assumption)
              obtain ⟨ad111, e111, hx111_0, hx111_1, hx111_2, hx111_3, hx111_4, hx111_5, hx111_6, hx111_7⟩ := at_T27 HR0_0.out x14_1 p111 q111
              cases e111
              replace hx111_0 := (HB.out.cell (World.block_lt_of_cell? w _ hx111_0)).trans hx111_0
              replace hx111_1 := (HB.out.cell (World.block_lt_of_cell? w _ hx111_1)).trans hx111_1
              replace hx111_2 := (HB.out.cell (World.block_lt_of_cell? w _ hx111_2)).trans hx111_2
              replace hx111_3 := (HB.out.cell (World.block_lt_of_cell? w _ hx111_3)).trans hx111_3
              replace hx111_4 := (HB.out.cell (World.block_lt_of_cell? w _ hx111_4)).trans hx111_4
              replace hx111_5 := (HB.out.cell (World.block_lt_of_cell? w _ hx111_5)).trans hx111_5
              replace hx111_6 := (HB.out.cell (World.block_lt_of_cell? w _ hx111_6)).trans hx111_6
              replace hx111_7 := (HB.out.cell (World.block_lt_of_cell? w _ hx111_7)).trans hx111_7
              replace p111 := eq_true p111
              replace q111 := eq_true q111
              try go_wp2_with (first | ((with_reducible refine gate_dst (N := 5) rfl ?_); refine box_event ?hg (N := 5) ?hd (cs := #[.int .i64 0, .int .i64 0, .int .i64 0, .int .i64 0, .int .i64 0, .int .i64 0, .int .u32 0, .int .i64 0]) (t := 27) ?hr ?_; (case hd => rfl); (case hg => rfl); (case hr => first | (go_simp; done) | (go_simp; rfl)); intro gb112 hg w16 hbox hb; have n0_ := Aside0.mk (Kd.R_below (by (with_reducible repeat (first | apply Kd.R_alloc | apply Kd.R_drewN | apply Kd.R_drew)); exact HO_111000.out) hb); have n1_ := Aside0.mk (blk_below (g := gb108) (o := .cells #[.slice (some ad111) l0_0.length c0_0, .int .i64 a0_1, .int .i64 a0_2] 41 (0, 0)) (by (with_reducible repeat (first | refine blk_drewN ?_ _ | refine blk_drew ?_ | refine blk_alloc ?_ _)); exact BK108.out) hb); have n2_ := Aside0.mk (blk_below (g := gb109) (o := .cells #[.slice none 0 0, .int .i64 0, .int .i64 0] 45 (0, 0)) (by (with_reducible repeat (first | refine blk_drewN ?_ _ | refine blk_drew ?_ | refine blk_alloc ?_ _)); exact BK109.out) hb); have n3_ := Aside0.mk (blk_below (g := gb110) (o := .cells #[u111000, .int .i64 a0_1, .int .i64 a0_2] 45 (0, 0)) (by (with_reducible repeat (first | refine blk_drewN ?_ _ | refine blk_drew ?_ | refine blk_alloc ?_ _)); exact BK110.out) hb); have n4_ := Aside0.mk (below_step (by repeat (first | (with_reducible first | exact HB.out | apply below_alloc | apply pw_below_drewN | apply below_drew1 | refine below_set ?_ GE108.out | refine below_set ?_ GE109.out | refine below_set ?_ GE110.out) | exact HB.out)) hb); have n5_ := Aside0.mk (hbox); have n6_ := Aside0.mk ((by rw [hg]; exact (below_size (by repeat (first | (with_reducible first | exact HB.out | apply below_alloc | apply pw_below_drewN | apply below_drew1 | refine below_set ?_ GE108.out | refine below_set ?_ GE109.out | refine below_set ?_ GE110.out) | exact HB.out))) : w.heap.size ≤ gb112)); have n7_ := Aside0.mk ((by rw [hg]; exact (below_size (by repeat (first | (with_reducible first | exact HB.out | apply below_alloc | apply pw_below_drewN | apply below_drew1 | refine below_set ?_ GE108.out | refine below_set ?_ GE109.out | refine below_set ?_ GE110.out) | exact HB.out))) : w.heap.size ≤ gb112)); have n8_ := Aside0.mk ((by rw [hg]; exact Nat.ne_of_lt (blk_lt (g := gb108) (o := .cells #[.slice (some ad111) l0_0.length c0_0, .int .i64 a0_1, .int .i64 a0_2] 41 (0, 0)) (by (with_reducible repeat (first | refine blk_drewN ?_ _ | refine blk_drew ?_ | refine blk_alloc ?_ _)); exact BK108.out)) : gb108 ≠ gb112)); have n9_ := Aside0.mk ((by rw [hg]; exact Nat.ne_of_gt (blk_lt (g := gb108) (o := .cells #[.slice (some ad111) l0_0.length c0_0, .int .i64 a0_1, .int .i64 a0_2] 41 (0, 0)) (by (with_reducible repeat (first | refine blk_drewN ?_ _ | refine blk_drew ?_ | refine blk_alloc ?_ _)); exact BK108.out)) : gb112 ≠ gb108)); have n10_ := Aside0.mk ((by rw [hg]; exact Nat.ne_of_lt (blk_lt (g := gb109) (o := .cells #[.slice none 0 0, .int .i64 0, .int .i64 0] 45 (0, 0)) (by (with_reducible repeat (first | refine blk_drewN ?_ _ | refine blk_drew ?_ | refine blk_alloc ?_ _)); exact BK109.out)) : gb109 ≠ gb112)); have n11_ := Aside0.mk ((by rw [hg]; exact Nat.ne_of_gt (blk_lt (g := gb109) (o := .cells #[.slice none 0 0, .int .i64 0, .int .i64 0] 45 (0, 0)) (by (with_reducible repeat (first | refine blk_drewN ?_ _ | refine blk_drew ?_ | refine blk_alloc ?_ _)); exact BK109.out)) : gb112 ≠ gb109)); have n12_ := Aside0.mk ((by rw [hg]; exact Nat.ne_of_lt (blk_lt (g := gb110) (o := .cells #[u111000, .int .i64 a0_1, .int .i64 a0_2] 45 (0, 0)) (by (with_reducible repeat (first | refine blk_drewN ?_ _ | refine blk_drew ?_ | refine blk_alloc ?_ _)); exact BK110.out)) : gb110 ≠ gb112)); have n13_ := Aside0.mk ((by rw [hg]; exact Nat.ne_of_gt (blk_lt (g := gb110) (o := .cells #[u111000, .int .i64 a0_1, .int .i64 a0_2] 45 (0, 0)) (by (with_reducible repeat (first | refine blk_drewN ?_ _ | refine blk_drew ?_ | refine blk_alloc ?_ _)); exact BK110.out)) : gb112 ≠ gb110)); clear HO_111000; clear BK108; clear BK109; clear BK110; clear HB; have HO_111000 := n0_; have BK108 := n1_; have BK109 := n2_; have BK110 := n3_; have HB := n4_; have BK112 := n5_; have GW112 := n6_; have GE112 := n7_; have NB108_112 := n8_; have NB112_108 := n9_; have NB109_112 := n10_; have NB112_109 := n11_; have NB110_112 := n12_; have NB112_110 := n13_; clear n0_ n1_ n2_ n3_ n4_ n5_ n6_ n7_ n8_ n9_ n10_ n11_ n12_ n13_; clear hb hbox hg; have hnb17 := NB112_108.out; have hnc17 := NB108_112.out; have hnb18 := NB112_109.out; have hnc18 := NB109_112.out; have hnb19 := NB112_110.out; have hnc19 := NB110_112.out; have hcz20_0 : w16.cell? ⟨gb112, 0, none⟩ = some (.int .i64 0) := (blk_cell BK112.out 0).trans rfl; have hcz20_1 : w16.cell? ⟨gb112, 1, none⟩ = some (.int .i64 0) := (blk_cell BK112.out 1).trans rfl; have hcz20_2 : w16.cell? ⟨gb112, 2, none⟩ = some (.int .i64 0) := (blk_cell BK112.out 2).trans rfl; have hcz20_3 : w16.cell? ⟨gb112, 3, none⟩ = some (.int .i64 0) := (blk_cell BK112.out 3).trans rfl; have hcz20_4 : w16.cell? ⟨gb112, 4, none⟩ = some (.int .i64 0) := (blk_cell BK112.out 4).trans rfl; have hcz20_5 : w16.cell? ⟨gb112, 5, none⟩ = some (.int .i64 0) := (blk_cell BK112.out 5).trans rfl; have hcz20_6 : w16.cell? ⟨gb112, 6, none⟩ = some (.int .u32 0) := (blk_cell BK112.out 6).trans rfl; have hcz20_7 : w16.cell? ⟨gb112, 7, none⟩ = some (.int .i64 0) := (blk_cell BK112.out 7).trans rfl; have hfz20_0 := blk_frozen BK112.out 0; have hfz20_1 := blk_frozen BK112.out 1; have hfz20_2 := blk_frozen BK112.out 2; have hfz20_3 := blk_frozen BK112.out 3; have hfz20_4 := blk_frozen BK112.out 4; have hfz20_5 := blk_frozen BK112.out 5; have hfz20_6 := blk_frozen BK112.out 6; have hfz20_7 := blk_frozen BK112.out 7))
              have n0_ : Aside0 (Kd.R k29 29 ((((((((w16.setCell ⟨gb112, 0, none⟩ (.int .i64 ((rd_T27 l0_0 x14_1).f0))).setCell ⟨gb112, 1, none⟩ (.int .i64 ((rd_T27 l0_0 x14_1).f1))).setCell ⟨gb112, 2, none⟩ (.int .i64 ((rd_T27 l0_0 x14_1).f2))).setCell ⟨gb112, 3, none⟩ (.int .i64 ((rd_T27 l0_0 x14_1).f3))).setCell ⟨gb112, 4, none⟩ (.int .i64 ((rd_T27 l0_0 x14_1).f4))).setCell ⟨gb112, 5, none⟩ (.int .i64 ((rd_T27 l0_0 x14_1).f5))).setCell ⟨gb112, 6, none⟩ (.int .u32 ((rd_T27 l0_0 x14_1).f6))).setCell ⟨gb112, 7, none⟩ (.int .i64 ((rd_T27 l0_0 x14_1).f7))) w.heap.size (fun _ => True) u111000 x111000_1) := ⟨by (with_reducible repeat (first | apply Kd.R_alloc | apply Kd.R_drewN | apply Kd.R_drew)); exact Kd.R_mono (Kd.R_far (p := ⟨gb112, 7, none⟩) (Kd.R_far (p := ⟨gb112, 6, none⟩) (Kd.R_far (p := ⟨gb112, 5, none⟩) (Kd.R_far (p := ⟨gb112, 4, none⟩) (Kd.R_far (p := ⟨gb112, 3, none⟩) (Kd.R_far (p := ⟨gb112, 2, none⟩) (Kd.R_far (p := ⟨gb112, 1, none⟩) (Kd.R_far (p := ⟨gb112, 0, none⟩) (Kd.R_types HO_111000.out BK112.out (by decide)) (fun _ hk => hk.2) (.int .i64 ((rd_T27 l0_0 x14_1).f0))) (fun _ hk => hk.2) (.int .i64 ((rd_T27 l0_0 x14_1).f1))) (fun _ hk => hk.2) (.int .i64 ((rd_T27 l0_0 x14_1).f2))) (fun _ hk => hk.2) (.int .i64 ((rd_T27 l0_0 x14_1).f3))) (fun _ hk => hk.2) (.int .i64 ((rd_T27 l0_0 x14_1).f4))) (fun _ hk => hk.2) (.int .i64 ((rd_T27 l0_0 x14_1).f5))) (fun _ hk => hk.2) (.int .u32 ((rd_T27 l0_0 x14_1).f6))) (fun _ hk => hk.2) (.int .i64 ((rd_T27 l0_0 x14_1).f7))) (fun _ hk => trivial)⟩
              have n1_ : Aside0 (((((((((w16.setCell ⟨gb112, 0, none⟩ (.int .i64 ((rd_T27 l0_0 x14_1).f0))).setCell ⟨gb112, 1, none⟩ (.int .i64 ((rd_T27 l0_0 x14_1).f1))).setCell ⟨gb112, 2, none⟩ (.int .i64 ((rd_T27 l0_0 x14_1).f2))).setCell ⟨gb112, 3, none⟩ (.int .i64 ((rd_T27 l0_0 x14_1).f3))).setCell ⟨gb112, 4, none⟩ (.int .i64 ((rd_T27 l0_0 x14_1).f4))).setCell ⟨gb112, 5, none⟩ (.int .i64 ((rd_T27 l0_0 x14_1).f5))).setCell ⟨gb112, 6, none⟩ (.int .u32 ((rd_T27 l0_0 x14_1).f6))).setCell ⟨gb112, 7, none⟩ (.int .i64 ((rd_T27 l0_0 x14_1).f7))).heap[gb108]? = some (.cells #[.slice (some ad111) l0_0.length c0_0, .int .i64 a0_1, .int .i64 a0_2] 41 (0, 0))) := ⟨by (with_reducible repeat (first | refine blk_drewN ?_ _ | refine blk_drew ?_ | refine blk_alloc ?_ _)); refine blk_far ?_ NB108_112.out _; (with_reducible repeat (first | refine blk_drewN ?_ _ | refine blk_drew ?_ | refine blk_alloc ?_ _)); refine blk_far ?_ NB108_112.out _; (with_reducible repeat (first | refine blk_drewN ?_ _ | refine blk_drew ?_ | refine blk_alloc ?_ _)); refine blk_far ?_ NB108_112.out _; (with_reducible repeat (first | refine blk_drewN ?_ _ | refine blk_drew ?_ | refine blk_alloc ?_ _)); refine blk_far ?_ NB108_112.out _; (with_reducible repeat (first | refine blk_drewN ?_ _ | refine blk_drew ?_ | refine blk_alloc ?_ _)); refine blk_far ?_ NB108_112.out _; (with_reducible repeat (first | refine blk_drewN ?_ _ | refine blk_drew ?_ | refine blk_alloc ?_ _)); refine blk_far ?_ NB108_112.out _; (with_reducible repeat (first | refine blk_drewN ?_ _ | refine blk_drew ?_ | refine blk_alloc ?_ _)); refine blk_far ?_ NB108_112.out _; (with_reducible repeat (first | refine blk_drewN ?_ _ | refine blk_drew ?_ | refine blk_alloc ?_ _)); refine blk_far ?_ NB108_112.out _; (with_reducible repeat (first | refine blk_drewN ?_ _ | refine blk_drew ?_ | refine blk_alloc ?_ _)); exact BK108.out⟩
              have n2_ : Aside0 (((((((((w16.setCell ⟨gb112, 0, none⟩ (.int .i64 ((rd_T27 l0_0 x14_1).f0))).setCell ⟨gb112, 1, none⟩ (.int .i64 ((rd_T27 l0_0 x14_1).f1))).setCell ⟨gb112, 2, none⟩ (.int .i64 ((rd_T27 l0_0 x14_1).f2))).setCell ⟨gb112, 3, none⟩ (.int .i64 ((rd_T27 l0_0 x14_1).f3))).setCell ⟨gb112, 4, none⟩ (.int .i64 ((rd_T27 l0_0 x14_1).f4))).setCell ⟨gb112, 5, none⟩ (.int .i64 ((rd_T27 l0_0 x14_1).f5))).setCell ⟨gb112, 6, none⟩ (.int .u32 ((rd_T27 l0_0 x14_1).f6))).setCell ⟨gb112, 7, none⟩ (.int .i64 ((rd_T27 l0_0 x14_1).f7))).heap[gb109]? = some (.cells #[.slice none 0 0, .int .i64 0, .int .i64 0] 45 (0, 0))) := ⟨by (with_reducible repeat (first | refine blk_drewN ?_ _ | refine blk_drew ?_ | refine blk_alloc ?_ _)); refine blk_far ?_ NB109_112.out _; (with_reducible repeat (first | refine blk_drewN ?_ _ | refine blk_drew ?_ | refine blk_alloc ?_ _)); refine blk_far ?_ NB109_112.out _; (with_reducible repeat (first | refine blk_drewN ?_ _ | refine blk_drew ?_ | refine blk_alloc ?_ _)); refine blk_far ?_ NB109_112.out _; (with_reducible repeat (first | refine blk_drewN ?_ _ | refine blk_drew ?_ | refine blk_alloc ?_ _)); refine blk_far ?_ NB109_112.out _; (with_reducible repeat (first | refine blk_drewN ?_ _ | refine blk_drew ?_ | refine blk_alloc ?_ _)); refine blk_far ?_ NB109_112.out _; (with_reducible repeat (first | refine blk_drewN ?_ _ | refine blk_drew ?_ | refine blk_alloc ?_ _)); refine blk_far ?_ NB109_112.out _; (with_reducible repeat (first | refine blk_drewN ?_ _ | refine blk_drew ?_ | refine blk_alloc ?_ _)); refine blk_far ?_ NB109_112.out _; (with_reducible repeat (first | refine blk_drewN ?_ _ | refine blk_drew ?_ | refine blk_alloc ?_ _)); refine blk_far ?_ NB109_112.out _; (with_reducible repeat (first | refine blk_drewN ?_ _ | refine blk_drew ?_ | refine blk_alloc ?_ _)); exact BK109.out⟩
              have n3_ : Aside0 (((((((((w16.setCell ⟨gb112, 0, none⟩ (.int .i64 ((rd_T27 l0_0 x14_1).f0))).setCell ⟨gb112, 1, none⟩ (.int .i64 ((rd_T27 l0_0 x14_1).f1))).setCell ⟨gb112, 2, none⟩ (.int .i64 ((rd_T27 l0_0 x14_1).f2))).setCell ⟨gb112, 3, none⟩ (.int .i64 ((rd_T27 l0_0 x14_1).f3))).setCell ⟨gb112, 4, none⟩ (.int .i64 ((rd_T27 l0_0 x14_1).f4))).setCell ⟨gb112, 5, none⟩ (.int .i64 ((rd_T27 l0_0 x14_1).f5))).setCell ⟨gb112, 6, none⟩ (.int .u32 ((rd_T27 l0_0 x14_1).f6))).setCell ⟨gb112, 7, none⟩ (.int .i64 ((rd_T27 l0_0 x14_1).f7))).heap[gb110]? = some (.cells #[u111000, .int .i64 a0_1, .int .i64 a0_2] 45 (0, 0))) := ⟨by (with_reducible repeat (first | refine blk_drewN ?_ _ | refine blk_drew ?_ | refine blk_alloc ?_ _)); refine blk_far ?_ NB110_112.out _; (with_reducible repeat (first | refine blk_drewN ?_ _ | refine blk_drew ?_ | refine blk_alloc ?_ _)); refine blk_far ?_ NB110_112.out _; (with_reducible repeat (first | refine blk_drewN ?_ _ | refine blk_drew ?_ | refine blk_alloc ?_ _)); refine blk_far ?_ NB110_112.out _; (with_reducible repeat (first | refine blk_drewN ?_ _ | refine blk_drew ?_ | refine blk_alloc ?_ _)); refine blk_far ?_ NB110_112.out _; (with_reducible repeat (first | refine blk_drewN ?_ _ | refine blk_drew ?_ | refine blk_alloc ?_ _)); refine blk_far ?_ NB110_112.out _; (with_reducible repeat (first | refine blk_drewN ?_ _ | refine blk_drew ?_ | refine blk_alloc ?_ _)); refine blk_far ?_ NB110_112.out _; (with_reducible repeat (first | refine blk_drewN ?_ _ | refine blk_drew ?_ | refine blk_alloc ?_ _)); refine blk_far ?_ NB110_112.out _; (with_reducible repeat (first | refine blk_drewN ?_ _ | refine blk_drew ?_ | refine blk_alloc ?_ _)); refine blk_far ?_ NB110_112.out _; (with_reducible repeat (first | refine blk_drewN ?_ _ | refine blk_drew ?_ | refine blk_alloc ?_ _)); exact BK110.out⟩
              have n4_ : Aside0 (((((((((w16.setCell ⟨gb112, 0, none⟩ (.int .i64 ((rd_T27 l0_0 x14_1).f0))).setCell ⟨gb112, 1, none⟩ (.int .i64 ((rd_T27 l0_0 x14_1).f1))).setCell ⟨gb112, 2, none⟩ (.int .i64 ((rd_T27 l0_0 x14_1).f2))).setCell ⟨gb112, 3, none⟩ (.int .i64 ((rd_T27 l0_0 x14_1).f3))).setCell ⟨gb112, 4, none⟩ (.int .i64 ((rd_T27 l0_0 x14_1).f4))).setCell ⟨gb112, 5, none⟩ (.int .i64 ((rd_T27 l0_0 x14_1).f5))).setCell ⟨gb112, 6, none⟩ (.int .u32 ((rd_T27 l0_0 x14_1).f6))).setCell ⟨gb112, 7, none⟩ (.int .i64 ((rd_T27 l0_0 x14_1).f7))).heap[gb112]? = some (.cells #[.int .i64 ((rd_T27 l0_0 x14_1).f0), .int .i64 ((rd_T27 l0_0 x14_1).f1), .int .i64 ((rd_T27 l0_0 x14_1).f2), .int .i64 ((rd_T27 l0_0 x14_1).f3), .int .i64 ((rd_T27 l0_0 x14_1).f4), .int .i64 ((rd_T27 l0_0 x14_1).f5), .int .u32 ((rd_T27 l0_0 x14_1).f6), .int .i64 ((rd_T27 l0_0 x14_1).f7)] 27 (0, 0))) := ⟨by (with_reducible repeat (first | refine blk_drewN ?_ _ | refine blk_drew ?_ | refine blk_alloc ?_ _)); refine blk_put (cs := #[.int .i64 ((rd_T27 l0_0 x14_1).f0), .int .i64 ((rd_T27 l0_0 x14_1).f1), .int .i64 ((rd_T27 l0_0 x14_1).f2), .int .i64 ((rd_T27 l0_0 x14_1).f3), .int .i64 ((rd_T27 l0_0 x14_1).f4), .int .i64 ((rd_T27 l0_0 x14_1).f5), .int .u32 ((rd_T27 l0_0 x14_1).f6), .int .i64 0]) ?_ 7 _ rfl; (with_reducible repeat (first | refine blk_drewN ?_ _ | refine blk_drew ?_ | refine blk_alloc ?_ _)); refine blk_put (cs := #[.int .i64 ((rd_T27 l0_0 x14_1).f0), .int .i64 ((rd_T27 l0_0 x14_1).f1), .int .i64 ((rd_T27 l0_0 x14_1).f2), .int .i64 ((rd_T27 l0_0 x14_1).f3), .int .i64 ((rd_T27 l0_0 x14_1).f4), .int .i64 ((rd_T27 l0_0 x14_1).f5), .int .u32 0, .int .i64 0]) ?_ 6 _ rfl; (with_reducible repeat (first | refine blk_drewN ?_ _ | refine blk_drew ?_ | refine blk_alloc ?_ _)); refine blk_put (cs := #[.int .i64 ((rd_T27 l0_0 x14_1).f0), .int .i64 ((rd_T27 l0_0 x14_1).f1), .int .i64 ((rd_T27 l0_0 x14_1).f2), .int .i64 ((rd_T27 l0_0 x14_1).f3), .int .i64 ((rd_T27 l0_0 x14_1).f4), .int .i64 0, .int .u32 0, .int .i64 0]) ?_ 5 _ rfl; (with_reducible repeat (first | refine blk_drewN ?_ _ | refine blk_drew ?_ | refine blk_alloc ?_ _)); refine blk_put (cs := #[.int .i64 ((rd_T27 l0_0 x14_1).f0), .int .i64 ((rd_T27 l0_0 x14_1).f1), .int .i64 ((rd_T27 l0_0 x14_1).f2), .int .i64 ((rd_T27 l0_0 x14_1).f3), .int .i64 0, .int .i64 0, .int .u32 0, .int .i64 0]) ?_ 4 _ rfl; (with_reducible repeat (first | refine blk_drewN ?_ _ | refine blk_drew ?_ | refine blk_alloc ?_ _)); refine blk_put (cs := #[.int .i64 ((rd_T27 l0_0 x14_1).f0), .int .i64 ((rd_T27 l0_0 x14_1).f1), .int .i64 ((rd_T27 l0_0 x14_1).f2), .int .i64 0, .int .i64 0, .int .i64 0, .int .u32 0, .int .i64 0]) ?_ 3 _ rfl; (with_reducible repeat (first | refine blk_drewN ?_ _ | refine blk_drew ?_ | refine blk_alloc ?_ _)); refine blk_put (cs := #[.int .i64 ((rd_T27 l0_0 x14_1).f0), .int .i64 ((rd_T27 l0_0 x14_1).f1), .int .i64 0, .int .i64 0, .int .i64 0, .int .i64 0, .int .u32 0, .int .i64 0]) ?_ 2 _ rfl; (with_reducible repeat (first | refine blk_drewN ?_ _ | refine blk_drew ?_ | refine blk_alloc ?_ _)); refine blk_put (cs := #[.int .i64 ((rd_T27 l0_0 x14_1).f0), .int .i64 0, .int .i64 0, .int .i64 0, .int .i64 0, .int .i64 0, .int .u32 0, .int .i64 0]) ?_ 1 _ rfl; (with_reducible repeat (first | refine blk_drewN ?_ _ | refine blk_drew ?_ | refine blk_alloc ?_ _)); refine blk_put (cs := #[.int .i64 0, .int .i64 0, .int .i64 0, .int .i64 0, .int .i64 0, .int .i64 0, .int .u32 0, .int .i64 0]) ?_ 0 _ rfl; (with_reducible repeat (first | refine blk_drewN ?_ _ | refine blk_drew ?_ | refine blk_alloc ?_ _)); exact BK112.out⟩
              have n5_ : Aside0 (Below w.heap.size w ((((((((w16.setCell ⟨gb112, 0, none⟩ (.int .i64 ((rd_T27 l0_0 x14_1).f0))).setCell ⟨gb112, 1, none⟩ (.int .i64 ((rd_T27 l0_0 x14_1).f1))).setCell ⟨gb112, 2, none⟩ (.int .i64 ((rd_T27 l0_0 x14_1).f2))).setCell ⟨gb112, 3, none⟩ (.int .i64 ((rd_T27 l0_0 x14_1).f3))).setCell ⟨gb112, 4, none⟩ (.int .i64 ((rd_T27 l0_0 x14_1).f4))).setCell ⟨gb112, 5, none⟩ (.int .i64 ((rd_T27 l0_0 x14_1).f5))).setCell ⟨gb112, 6, none⟩ (.int .u32 ((rd_T27 l0_0 x14_1).f6))).setCell ⟨gb112, 7, none⟩ (.int .i64 ((rd_T27 l0_0 x14_1).f7)))) := ⟨by repeat (first | (with_reducible first | exact HB.out | apply below_alloc | apply pw_below_drewN | apply below_drew1 | refine below_set ?_ GE108.out | refine below_set ?_ GE109.out | refine below_set ?_ GE110.out | refine below_set ?_ GE112.out) | exact HB.out)⟩
              (try clear HO_111000)
              (try clear BK108)
              (try clear BK109)
              (try clear BK110)
              (try clear BK112)
              (try clear HB)
              generalize ((((((((w16.setCell ⟨gb112, 0, none⟩ (.int .i64 ((rd_T27 l0_0 x14_1).f0))).setCell ⟨gb112, 1, none⟩ (.int .i64 ((rd_T27 l0_0 x14_1).f1))).setCell ⟨gb112, 2, none⟩ (.int .i64 ((rd_T27 l0_0 x14_1).f2))).setCell ⟨gb112, 3, none⟩ (.int .i64 ((rd_T27 l0_0 x14_1).f3))).setCell ⟨gb112, 4, none⟩ (.int .i64 ((rd_T27 l0_0 x14_1).f4))).setCell ⟨gb112, 5, none⟩ (.int .i64 ((rd_T27 l0_0 x14_1).f5))).setCell ⟨gb112, 6, none⟩ (.int .u32 ((rd_T27 l0_0 x14_1).f6))).setCell ⟨gb112, 7, none⟩ (.int .i64 ((rd_T27 l0_0 x14_1).f7))) = w21 at n0_ n1_ n2_ n3_ n4_ n5_ ⊢
              have HO_111000 := n0_
              have BK108 := n1_
              have BK109 := n2_
              have BK110 := n3_
              have BK112 := n4_
              have HB := n5_
              clear n0_ n1_ n2_ n3_ n4_ n5_
              have n0_ := Aside0.mk (Kd.R_drew HO_111000.out)
              have n1_ := Aside0.mk (blk_drew BK108.out)
              have n2_ := Aside0.mk (blk_drew BK109.out)
              have n3_ := Aside0.mk (blk_drew BK110.out)
              have n4_ := Aside0.mk (blk_drew BK112.out)
              have n5_ := Aside0.mk (below_drew1 HB.out)
              clear HO_111000
              clear BK108
              clear BK109
              clear BK110
              clear BK112
              clear HB
              have HO_111000 := n0_
              have BK108 := n1_
              have BK109 := n2_
              have BK110 := n3_
              have BK112 := n4_
              have HB := n5_
              clear n0_ n1_ n2_ n3_ n4_ n5_
              refine start_ (n := 8) (S := fun w' => w'.cell? ⟨gb110, 0, none⟩ = some (u111000) ∧ w'.cell? ⟨gb110, 1, none⟩ = some (.int .i64 a0_1) ∧ w'.cell? ⟨gb110, 2, none⟩ = some (.int .i64 a0_2) ∧ w'.cell? ⟨gb112, 0, none⟩ = some (.int .i64 ((rd_T27 l0_0 x14_1).f0)) ∧ w'.cell? ⟨gb112, 1, none⟩ = some (.int .i64 ((rd_T27 l0_0 x14_1).f1)) ∧ w'.cell? ⟨gb112, 2, none⟩ = some (.int .i64 ((rd_T27 l0_0 x14_1).f2)) ∧ w'.cell? ⟨gb112, 3, none⟩ = some (.int .i64 ((rd_T27 l0_0 x14_1).f3)) ∧ w'.cell? ⟨gb112, 4, none⟩ = some (.int .i64 ((rd_T27 l0_0 x14_1).f4)) ∧ w'.cell? ⟨gb112, 5, none⟩ = some (.int .i64 ((rd_T27 l0_0 x14_1).f5)) ∧ w'.cell? ⟨gb112, 6, none⟩ = some (.int .u32 ((rd_T27 l0_0 x14_1).f6)) ∧ w'.cell? ⟨gb112, 7, none⟩ = some (.int .i64 ((rd_T27 l0_0 x14_1).f7))) (ds := [7]) #[false, false, false, false, false, false, false, false] (by kernel_rfl) rfl rfl ⟨(blk_cell BK110.out 0).trans rfl, (blk_cell BK110.out 1).trans rfl, (blk_cell BK110.out 2).trans rfl, (blk_cell BK112.out 0).trans rfl, (blk_cell BK112.out 1).trans rfl, (blk_cell BK112.out 2).trans rfl, (blk_cell BK112.out 3).trans rfl, (blk_cell BK112.out 4).trans rfl, (blk_cell BK112.out 5).trans rfl, (blk_cell BK112.out 6).trans rfl, (blk_cell BK112.out 7).trans rfl⟩ (fun hHeld => ?_); refine with_tabW ropelinelaw07_Ref.tab5 ropelinelaw07_Ref.bits5 (fun HT_ HW_ => ?_)
              generalize w21.drew = w22 at HO_111000 BK108 BK109 BK110 BK112 HB hHeld ⊢
              refine pure_ (i := 0) (N := some 18) (v := ?_) (a' := ?_) #[true, false, false, false, false, false, false, false] rfl rfl (any_of HT_.out (by kernel_rfl)) (fun _ _ _ h => h) (Or.inl ⟨by rfl, ?_⟩) ?_ ?_
              rotate_left
              · intro w'
                go_simp
                with_reducible rfl
              rotate_left
              · simp only [Act.put, List.setIfInBounds_toArray, List.set_cons_zero, List.set_cons_succ, i64_w, i32_w]
                rfl
              refine take_ (i := 1) (N := some 19) (v := ?_) (a' := ?_) #[true, true, false, false, false, false, false, false] rfl rfl (take_ofW HT_.out HW_.out (by kernel_rfl)) (fun _ _ _ h => h) (Or.inl ⟨by rfl, ?_⟩) hHeld ?_ ?_
              rotate_left
              · rintro w' ⟨s0, s1, s2, s3, s4, s5, s6, s7, s8, s9, s10⟩
                go_simp
                with_reducible rfl
              rotate_left
              · simp only [Act.put, List.setIfInBounds_toArray, List.set_cons_zero, List.set_cons_succ, i64_w, i32_w]
                rfl
              refine take_ (i := 2) (N := some 20) (v := ?_) (a' := ?_) #[true, true, true, false, false, false, false, false] rfl rfl (take_ofW HT_.out HW_.out (by kernel_rfl)) (fun _ _ _ h => h) (Or.inl ⟨by rfl, ?_⟩) hHeld ?_ ?_
              rotate_left
              · rintro w' ⟨s0, s1, s2, s3, s4, s5, s6, s7, s8, s9, s10⟩
                go_simp
                with_reducible rfl
              rotate_left
              · simp only [Act.put, List.setIfInBounds_toArray, List.set_cons_zero, List.set_cons_succ, i64_w, i32_w]
                rfl
              refine one_ (i := 3) (N := some 21) #[true, true, true, true, false, false, false, false] rfl rfl (one_of HT_.out (by kernel_rfl)) (by decide) (fun K hK => ?_)
              refine goes_ Try.func9 (by kernel_rfl) rfl #[.agg #[.int .i64 ((rd_T27 l0_0 x14_1).f0), .int .i64 ((rd_T27 l0_0 x14_1).f1), .int .i64 ((rd_T27 l0_0 x14_1).f2), .int .i64 ((rd_T27 l0_0 x14_1).f3), .int .i64 ((rd_T27 l0_0 x14_1).f4), .int .i64 ((rd_T27 l0_0 x14_1).f5), .int .u32 ((rd_T27 l0_0 x14_1).f6), .int .i64 ((rd_T27 l0_0 x14_1).f7)]] (by rfl) rfl rfl (by (try simp only [List.map_toArray, List.map_cons, List.map_nil]); first | done | rfl | (simp only [List.length_drop, List.length_take]; rfl)) ?_
              with_reducible refine (ropelinelaw06_Ref.calls ((rd_T27 l0_0 x14_1).f0) ((rd_T27 l0_0 x14_1).f1) ((rd_T27 l0_0 x14_1).f2) ((rd_T27 l0_0 x14_1).f3) ((rd_T27 l0_0 x14_1).f4) ((rd_T27 l0_0 x14_1).f5) ((rd_T27 l0_0 x14_1).f6) ((rd_T27 l0_0 x14_1).f7) t113 t114 t115 t116 t117 t118 t119 t120 _ A14.out).mono ?_
              rintro e w23 ⟨rfl, hb⟩
              refine ⟨_, rfl, ?_⟩
              have n0_ := Aside0.mk (Kd.R_below (by (with_reducible repeat (first | apply Kd.R_alloc | apply Kd.R_drewN | apply Kd.R_drew)); exact HO_111000.out) hb)
              have n1_ := Aside0.mk (blk_below (g := gb108) (o := .cells #[.slice (some ad111) l0_0.length c0_0, .int .i64 a0_1, .int .i64 a0_2] 41 (0, 0)) (by (with_reducible repeat (first | refine blk_drewN ?_ _ | refine blk_drew ?_ | refine blk_alloc ?_ _)); exact BK108.out) hb)
              have n2_ := Aside0.mk (blk_below (g := gb109) (o := .cells #[.slice none 0 0, .int .i64 0, .int .i64 0] 45 (0, 0)) (by (with_reducible repeat (first | refine blk_drewN ?_ _ | refine blk_drew ?_ | refine blk_alloc ?_ _)); exact BK109.out) hb)
              have n3_ := Aside0.mk (blk_below (g := gb110) (o := .cells #[u111000, .int .i64 a0_1, .int .i64 a0_2] 45 (0, 0)) (by (with_reducible repeat (first | refine blk_drewN ?_ _ | refine blk_drew ?_ | refine blk_alloc ?_ _)); exact BK110.out) hb)
              have n4_ := Aside0.mk (blk_below (g := gb112) (o := .cells #[.int .i64 ((rd_T27 l0_0 x14_1).f0), .int .i64 ((rd_T27 l0_0 x14_1).f1), .int .i64 ((rd_T27 l0_0 x14_1).f2), .int .i64 ((rd_T27 l0_0 x14_1).f3), .int .i64 ((rd_T27 l0_0 x14_1).f4), .int .i64 ((rd_T27 l0_0 x14_1).f5), .int .u32 ((rd_T27 l0_0 x14_1).f6), .int .i64 ((rd_T27 l0_0 x14_1).f7)] 27 (0, 0)) (by (with_reducible repeat (first | refine blk_drewN ?_ _ | refine blk_drew ?_ | refine blk_alloc ?_ _)); exact BK112.out) hb)
              have n5_ := Aside0.mk (below_step (by repeat (first | (with_reducible first | exact HB.out | apply below_alloc | apply pw_below_drewN | apply below_drew1 | refine below_set ?_ GE108.out | refine below_set ?_ GE109.out | refine below_set ?_ GE110.out | refine below_set ?_ GE112.out) | exact HB.out)) hb)
              clear HO_111000
              clear BK108
              clear BK109
              clear BK110
              clear BK112
              clear HB
              have HO_111000 := n0_
              have BK108 := n1_
              have BK109 := n2_
              have BK110 := n3_
              have BK112 := n4_
              have HB := n5_
              clear n0_ n1_ n2_ n3_ n4_ n5_
              (try clear hb)
              (try clear hb2)
              (try clear hk)
              (try clear hi)
              refine hK.out _ _ ⟨(blk_cell BK110.out 0).trans rfl, (blk_cell BK110.out 1).trans rfl, (blk_cell BK110.out 2).trans rfl, (blk_cell BK112.out 0).trans rfl, (blk_cell BK112.out 1).trans rfl, (blk_cell BK112.out 2).trans rfl, (blk_cell BK112.out 3).trans rfl, (blk_cell BK112.out 4).trans rfl, (blk_cell BK112.out 5).trans rfl, (blk_cell BK112.out 6).trans rfl, (blk_cell BK112.out 7).trans rfl⟩ (fun hHeld => ?_)
              clear hK K
              refine norm_ (a' := ?_) ?_ ?_
              rotate_left
              · show Act.put _ (some 21) _ = _
                simp only [Act.put, List.setIfInBounds_toArray, List.set_cons_zero, List.set_cons_succ, i64_w, i32_w]
                rfl
              refine one_ (i := 4) (N := some 22) #[true, true, true, true, true, false, false, false] rfl rfl (one_of HT_.out (by kernel_rfl)) (by decide) (fun K hK => ?_)
              refine value_ (w1 := ?_) (v := ?_) (by rfl) rfl ?_ ?_
              rotate_left 2
              · go_simp
                constructor
                · rfl
                · rfl
              refine hK.out _ _ ⟨(blk_cell (blk_alloc BK110.out _) 0).trans rfl, (blk_cell (blk_alloc BK110.out _) 1).trans rfl, (blk_cell (blk_alloc BK110.out _) 2).trans rfl, (blk_cell (blk_alloc BK112.out _) 0).trans rfl, (blk_cell (blk_alloc BK112.out _) 1).trans rfl, (blk_cell (blk_alloc BK112.out _) 2).trans rfl, (blk_cell (blk_alloc BK112.out _) 3).trans rfl, (blk_cell (blk_alloc BK112.out _) 4).trans rfl, (blk_cell (blk_alloc BK112.out _) 5).trans rfl, (blk_cell (blk_alloc BK112.out _) 6).trans rfl, (blk_cell (blk_alloc BK112.out _) 7).trans rfl⟩ (fun hHeld => ?_)
              clear hK K
              refine norm_ (a' := ?_) ?_ ?_
              rotate_left
              · show Act.put _ (some 22) _ = _
                simp only [Act.put, List.setIfInBounds_toArray, List.set_cons_zero, List.set_cons_succ, i64_w, i32_w]
                rfl
              refine one_ (i := 5) (N := some 23) #[true, true, true, true, true, true, false, false] rfl rfl (one_of HT_.out (by kernel_rfl)) (by decide) (fun K hK => ?_)
              refine Kd.R_append_step k29 (w0 := w) w.heap.size (by rfl) (.tmp 19) (.tmp 22) 43 29 (.agg #[(.int .i64 0), (.int .i64 0), (.int .i64 0), (.int .i64 0), (.int .i64 0), (.int .i64 0), (.int .u32 0), (.int .i64 0)]) 64 rfl Try.underlying43 info29 rfl (by decide) (by omega) u111000 x111000_1 (⟨t113, t114, t115, t116, t117, t118, t119, t120⟩ : S29) [.int .i64 t113, .int .i64 t114, .int .i64 t115, .int .i64 t116, .int .i64 t117, .int .i64 t118, .int .u32 t119, .int .i64 t120] (fun _ => True) (fun _ => False) rfl rfl ?aP (fun _ hk => hk.elim) ?aF ?aO ?aB ?aS ?aL ?_
              (case aP => exact k29_mkM _ _ _ (⟨t113, t114, t115, t116, t117, t118, t119, t120⟩ : S29))
              (case aB => exact (by repeat (first | (with_reducible first | exact HB.out | apply below_alloc | apply pw_below_drewN | apply below_drew1 | refine below_set ?_ GE108.out | refine below_set ?_ GE109.out | refine below_set ?_ GE110.out | refine below_set ?_ GE112.out) | exact HB.out)))
              (case aF => exact (fun _ _ => trivial))
              (case aO => exact (by (with_reducible repeat (first | apply Kd.R_alloc | apply Kd.R_drewN | apply Kd.R_drew)); exact HO_111000.out))
              (case aS => exact (below_size (by repeat (first | (with_reducible first | exact HB.out | apply below_alloc | apply pw_below_drewN | apply below_drew1 | refine below_set ?_ GE108.out | refine below_set ?_ GE109.out | refine below_set ?_ GE110.out | refine below_set ?_ GE112.out) | exact HB.out))))
              (case aL => have := LMc15.out; omega)
              intro v122 w24 ho hb hg hat
              rw [← Ny121.out] at ho
              have n0_ := Aside0.mk (blk_grown (g := gb108) (o := .cells #[.slice (some ad111) l0_0.length c0_0, .int .i64 a0_1, .int .i64 a0_2] 41 (0, 0)) (by (with_reducible repeat (first | refine blk_drewN ?_ _ | refine blk_drew ?_ | refine blk_alloc ?_ _)); exact BK108.out) hg (Kd.R_ne HO_111000.out BK108.out (by decide)))
              have n1_ := Aside0.mk (blk_grown (g := gb109) (o := .cells #[.slice none 0 0, .int .i64 0, .int .i64 0] 45 (0, 0)) (by (with_reducible repeat (first | refine blk_drewN ?_ _ | refine blk_drew ?_ | refine blk_alloc ?_ _)); exact BK109.out) hg (Kd.R_ne HO_111000.out BK109.out (by decide)))
              have n2_ := Aside0.mk (blk_grown (g := gb110) (o := .cells #[u111000, .int .i64 a0_1, .int .i64 a0_2] 45 (0, 0)) (by (with_reducible repeat (first | refine blk_drewN ?_ _ | refine blk_drew ?_ | refine blk_alloc ?_ _)); exact BK110.out) hg (Kd.R_ne HO_111000.out BK110.out (by decide)))
              have n3_ := Aside0.mk (blk_grown (g := gb112) (o := .cells #[.int .i64 ((rd_T27 l0_0 x14_1).f0), .int .i64 ((rd_T27 l0_0 x14_1).f1), .int .i64 ((rd_T27 l0_0 x14_1).f2), .int .i64 ((rd_T27 l0_0 x14_1).f3), .int .i64 ((rd_T27 l0_0 x14_1).f4), .int .i64 ((rd_T27 l0_0 x14_1).f5), .int .u32 ((rd_T27 l0_0 x14_1).f6), .int .i64 ((rd_T27 l0_0 x14_1).f7)] 27 (0, 0)) (by (with_reducible repeat (first | refine blk_drewN ?_ _ | refine blk_drew ?_ | refine blk_alloc ?_ _)); exact BK112.out) hg (Kd.R_ne HO_111000.out BK112.out (by decide)))
              have n4_ := Aside0.mk (hb)
              have n5_ := Aside0.mk (ho)
              clear BK108
              clear BK109
              clear BK110
              clear BK112
              clear HB
              clear HO_111000
              have BK108 := n0_
              have BK109 := n1_
              have BK110 := n2_
              have BK112 := n3_
              have HB := n4_
              have HO123 := n5_
              clear n0_ n1_ n2_ n3_ n4_ n5_
              clear ho hb hg hat
              obtain ⟨Ao25, co25, eo25⟩ := Kd.R_slice HO123.out
              (first | subst eo25 | (injection eo25 with f1_ f2_ f3_; have f4_ := f1_.symm; have f5_ := f3_.symm; clear f1_ f2_ f3_; subst f4_; subst f5_))
              refine hK.out _ _ ⟨(blk_cell BK110.out 0).trans rfl, (blk_cell BK110.out 1).trans rfl, (blk_cell BK110.out 2).trans rfl, (blk_cell BK112.out 0).trans rfl, (blk_cell BK112.out 1).trans rfl, (blk_cell BK112.out 2).trans rfl, (blk_cell BK112.out 3).trans rfl, (blk_cell BK112.out 4).trans rfl, (blk_cell BK112.out 5).trans rfl, (blk_cell BK112.out 6).trans rfl, (blk_cell BK112.out 7).trans rfl⟩ (fun hHeld => ?_)
              clear hK K
              refine norm_ (a' := ?_) ?_ ?_
              rotate_left
              · show Act.put _ (some 23) _ = _
                simp only [Act.put, List.setIfInBounds_toArray, List.set_cons_zero, List.set_cons_succ, i64_w, i32_w]
                rfl
              refine pure_ (i := 6) (N := some 24) (v := ?_) (a' := ?_) #[true, true, true, true, true, true, true, false] rfl rfl (any_of HT_.out (by kernel_rfl)) (fun _ _ _ h => h) (Or.inl ⟨by rfl, ?_⟩) ?_ ?_
              rotate_left
              · intro w'
                go_simp
                with_reducible rfl
              rotate_left
              · simp only [Act.put, List.setIfInBounds_toArray, List.set_cons_zero, List.set_cons_succ, i64_w, i32_w]
                rfl
              refine last_ (i := 7) (N := none) #[true, true, true, true, true, true, true, true] rfl rfl (one_of HT_.out (by kernel_rfl)) (by decide) (fun K hK => ?_)
              have hs26 : w24.cell? ⟨gb110, 0, none⟩ = some (u111000) := (blk_cell BK110.out 0).trans rfl
              have hfs26 := blk_frozen BK110.out 0
              have hns26_0 := NB108_110.out
              have hns26_1 := NB109_110.out
              have hns26_3 := NB112_110.out
              have hms26_0 := NB110_108.out
              have hms26_1 := NB110_109.out
              have hms26_3 := NB110_112.out
              refine skip_ (w1 := ?_) (by rfl) rfl ?_ ?_
              rotate_left
              · go_simp
                rfl
              refine hK.out _ _ ?_
              clear hK K
              refine done_ (done_of HT_.out (by kernel_rfl)) ?_
              try go_wp2
              go_roundg k1
              case measure => have := HK1.out; omega
              case rel => exact ⟨(wrap64 (x14_1 + 1)), (y121), (.slice Ao25 y121.length co25), (by first | rfl | (simp; done) | (simp [*]; done)), H', ⟨by have := HK1.out; omega⟩, ⟨by (with_reducible repeat (first | apply Kd.R_alloc | apply Kd.R_drewN | apply Kd.R_drew)); exact Kd.R_mono (Kd.R_far (p := ⟨gb110, 0, none⟩) (Kd.R_types HO123.out BK110.out (by decide)) (fun _ hk => hk.2) (.slice Ao25 y121.length co25)) (fun _ hk => trivial)⟩, ⟨by (with_reducible repeat (first | refine blk_drewN ?_ _ | refine blk_drew ?_ | refine blk_alloc ?_ _)); refine blk_far ?_ NB108_110.out _; (with_reducible repeat (first | refine blk_drewN ?_ _ | refine blk_drew ?_ | refine blk_alloc ?_ _)); exact BK108.out⟩, ⟨by (with_reducible repeat (first | refine blk_drewN ?_ _ | refine blk_drew ?_ | refine blk_alloc ?_ _)); refine blk_far ?_ NB109_110.out _; (with_reducible repeat (first | refine blk_drewN ?_ _ | refine blk_drew ?_ | refine blk_alloc ?_ _)); exact BK109.out⟩, ⟨by (with_reducible repeat (first | refine blk_drewN ?_ _ | refine blk_drew ?_ | refine blk_alloc ?_ _)); refine blk_put (cs := #[u111000, .int .i64 a0_1, .int .i64 a0_2]) ?_ 0 _ rfl; (with_reducible repeat (first | refine blk_drewN ?_ _ | refine blk_drew ?_ | refine blk_alloc ?_ _)); exact BK110.out⟩, ⟨by repeat (first | (with_reducible first | exact HB.out | apply below_alloc | apply pw_below_drewN | apply below_drew1 | refine below_set ?_ GE108.out | refine below_set ?_ GE109.out | refine below_set ?_ GE110.out | refine below_set ?_ GE112.out) | exact HB.out)⟩⟩
            · rw [if_neg c15] at H
              exact absurd H (by simp)
          · rw [if_neg c13] at H
            exact absurd H (by simp)
        · rw [if_neg c12] at H
          exact absurd H (by simp)
      · rw [if_neg c11] at H
        have c11b0 : decide (x14_1 < (l0_0.length : Int)) = false := decide_eq_false c11
        clear c11
        simp only [Option.some.injEq, Prod.mk.injEq] at H
        obtain ⟨rfl, rfl, rfl⟩ := H
        have hnb27 := NB110_108.out
        have hnc27 := NB108_110.out
        have hnb28 := NB110_109.out
        have hnc28 := NB109_110.out
        have hcz29_0 : wr.cell? ⟨gb110, 0, none⟩ = some (u111000) := (blk_cell BK110.out 0).trans rfl
        have hcz29_1 : wr.cell? ⟨gb110, 1, none⟩ = some (.int .i64 a0_1) := (blk_cell BK110.out 1).trans rfl
        have hcz29_2 : wr.cell? ⟨gb110, 2, none⟩ = some (.int .i64 a0_2) := (blk_cell BK110.out 2).trans rfl
        have hfz29_0 := blk_frozen BK110.out 0
        have hfz29_1 := blk_frozen BK110.out 1
        have hfz29_2 := blk_frozen BK110.out 2
        obtain ⟨Ao30, co30, eo30⟩ := Kd.R_slice HO_111000.out
        subst eo30
        have hnb31 := NB109_108.out
        have hnc31 := NB108_109.out
        have hcz32_0 : wr.cell? ⟨gb109, 0, none⟩ = some (.slice none 0 0) := (blk_cell BK109.out 0).trans rfl
        have hcz32_1 : wr.cell? ⟨gb109, 1, none⟩ = some (.int .i64 0) := (blk_cell BK109.out 1).trans rfl
        have hcz32_2 : wr.cell? ⟨gb109, 2, none⟩ = some (.int .i64 0) := (blk_cell BK109.out 2).trans rfl
        have hfz32_0 := blk_frozen BK109.out 0
        have hfz32_1 := blk_frozen BK109.out 1
        have hfz32_2 := blk_frozen BK109.out 2
        go_wp2
        refine bodyPost_ret (results_cell_row rfl _ _ gb109 45 #[.slice Ao30 x111000_1.length co30, .int .i64 a0_1, .int .i64 a0_2] (0, 0) _ rfl (by (with_reducible repeat (first | refine blk_drewN ?_ _ | refine blk_drew ?_ | refine blk_alloc ?_ _)); refine blk_put (cs := #[.slice Ao30 x111000_1.length co30, .int .i64 a0_1, .int .i64 0]) ?_ 2 _ rfl; (with_reducible repeat (first | refine blk_drewN ?_ _ | refine blk_drew ?_ | refine blk_alloc ?_ _)); refine blk_put (cs := #[.slice Ao30 x111000_1.length co30, .int .i64 0, .int .i64 0]) ?_ 1 _ rfl; (with_reducible repeat (first | refine blk_drewN ?_ _ | refine blk_drew ?_ | refine blk_alloc ?_ _)); refine blk_put (cs := #[.slice none 0 0, .int .i64 0, .int .i64 0]) ?_ 0 _ rfl; (with_reducible repeat (first | refine blk_drewN ?_ _ | refine blk_drew ?_ | refine blk_alloc ?_ _)); exact BK109.out) Try.underlying45 rfl (by kernel_rfl)) rfl ?_
        exact ⟨_, by first | rfl | (simp [errW_none, errW_some] <;> rfl) | (simp [*, errW_none, errW_some] <;> rfl), by (with_reducible repeat (first | apply Kd.R_alloc | apply Kd.R_drewN | apply Kd.R_drew)); exact Kd.R_mono (Kd.R_far (p := ⟨gb109, 2, none⟩) (Kd.R_far (p := ⟨gb109, 1, none⟩) (Kd.R_far (p := ⟨gb109, 0, none⟩) (Kd.R_types HO_111000.out BK109.out (by decide)) (fun _ hk => hk.2) (.slice Ao30 x111000_1.length co30)) (fun _ hk => hk.2) (.int .i64 a0_1)) (fun _ hk => hk.2) (.int .i64 a0_2)) (fun _ hk => trivial), by repeat (first | (with_reducible first | exact HB.out | apply below_alloc | apply pw_below_drewN | apply below_drew1 | refine below_set ?_ GE108.out | refine below_set ?_ GE109.out | refine below_set ?_ GE110.out) | exact HB.out)⟩
end Go.Proofs.Ytobjjmdaleoblaa.Co
