/- ropelineref06.Right: its ways, one number of an instruction by one. Conditions: registers that there are. -/
import Derived.Test.YtobjjmdaleoblaaCoRight0
import Derived.RegionTactic
import Derived.BigRegion
import Derived.Deep.RegionWith
namespace Go.Proofs.Ytobjjmdaleoblaa.Co
open Go.RowKit Go.Proofs.YtobjjmdaleoblaaW.PrintWords Go.Proofs.YtobjjmdaleoblaaW.PrintLast Go.Proofs.YtobjjmdaleoblaaW.PrintMore Go.Proofs.Ytobjjmdaleoblaa.PCoreRuns
attribute [local go_sem] max2_int min2_int max_two min_two max_three min_three max_four min_four
set_option linter.unusedVariables false
set_option linter.unusedSimpArgs false
set_option maxHeartbeats 8000000 in
set_option maxRecDepth 100000 in
theorem right_1 (d s t u a k z n : Int) (w : World) (RD : Aside0 (0 ≤ d ∧ d ≤ 7)) (RS : Aside0 (0 ≤ s ∧ s ≤ 7)) (RT : Aside0 (0 ≤ t ∧ t ≤ 7)) (RU : Aside0 (0 ≤ u ∧ u ≤ 7)) (RA : Aside0 (0 ≤ a ∧ a ≤ 7)) :
    Calls Try.prog 8 #[.agg #[.int .i64 1, .int .i64 d, .int .i64 s, .int .i64 t, .int .i64 u, .int .i64 a, .int .u32 k, .int .i64 z], .int .i64 n] w (SomeBool (fun _ => True) w) := by
  go_enter Try.func8, Try.ntmps8
  go_wp2_with (first | (go_at_call 20; refine (name_yes 1 _ (by decide)).mono ?_; rintro e w1 ⟨str, rfl, hs, hb⟩; obtain ⟨hc, hf⟩ := bcell hb; have hz : w.heap.size < w1.heap.size := (by have := hb.size; simp at this; omega); have HB := Aside0.mk hb; clear hb) | (go_at_call 21; (first | (with_reducible refine (reg_yes d _ RD.out).mono ?_) | (with_reducible refine (reg_yes s _ RS.out).mono ?_) | (with_reducible refine (reg_yes t _ RT.out).mono ?_) | (with_reducible refine (reg_yes u _ RU.out).mono ?_) | (with_reducible refine (reg_yes a _ RA.out).mono ?_)); rintro e w2 ⟨rfl, rfl⟩))
  go_region
  all_goals (go_wp2)
  all_goals (go_ret; exact ⟨_, rfl, trivial, by repeat (first | exact (below_step (below_alloc (Below.refl w.heap.size w) _) HB.out) | apply below_alloc | apply pw_below_drewN | apply below_drew)⟩)
set_option maxHeartbeats 8000000 in
set_option maxRecDepth 100000 in
theorem right_5 (d s t u a k z n : Int) (w : World) (RD : Aside0 (0 ≤ d ∧ d ≤ 7)) (RS : Aside0 (0 ≤ s ∧ s ≤ 7)) (RT : Aside0 (0 ≤ t ∧ t ≤ 7)) (RU : Aside0 (0 ≤ u ∧ u ≤ 7)) (RA : Aside0 (0 ≤ a ∧ a ≤ 7)) (hk : decide (31 < k) = false) :
    Calls Try.prog 8 #[.agg #[.int .i64 5, .int .i64 d, .int .i64 s, .int .i64 t, .int .i64 u, .int .i64 a, .int .u32 k, .int .i64 z], .int .i64 n] w (SomeBool (fun _ => True) w) := by
  go_enter Try.func8, Try.ntmps8
  go_wp2_with (first | (go_at_call 20; refine (name_yes 5 _ (by decide)).mono ?_; rintro e w1 ⟨str, rfl, hs, hb⟩; obtain ⟨hc, hf⟩ := bcell hb; have hz : w.heap.size < w1.heap.size := (by have := hb.size; simp at this; omega); have HB := Aside0.mk hb; clear hb) | (go_at_call 21; (first | (with_reducible refine (reg_yes d _ RD.out).mono ?_) | (with_reducible refine (reg_yes s _ RS.out).mono ?_) | (with_reducible refine (reg_yes t _ RT.out).mono ?_) | (with_reducible refine (reg_yes u _ RU.out).mono ?_) | (with_reducible refine (reg_yes a _ RA.out).mono ?_)); rintro e w2 ⟨rfl, rfl⟩))
  go_region
  all_goals (go_wp2)
  all_goals (go_ret; exact ⟨_, rfl, trivial, by repeat (first | exact (below_step (below_alloc (Below.refl w.heap.size w) _) HB.out) | apply below_alloc | apply pw_below_drewN | apply below_drew)⟩)
set_option maxHeartbeats 8000000 in
set_option maxRecDepth 100000 in
theorem right_7 (d s t u a k z n : Int) (w : World) (RD : Aside0 (0 ≤ d ∧ d ≤ 7)) (RS : Aside0 (0 ≤ s ∧ s ≤ 7)) (RT : Aside0 (0 ≤ t ∧ t ≤ 7)) (RU : Aside0 (0 ≤ u ∧ u ≤ 7)) (RA : Aside0 (0 ≤ a ∧ a ≤ 7)) :
    Calls Try.prog 8 #[.agg #[.int .i64 7, .int .i64 d, .int .i64 s, .int .i64 t, .int .i64 u, .int .i64 a, .int .u32 k, .int .i64 z], .int .i64 n] w (SomeBool (fun _ => True) w) := by
  go_enter Try.func8, Try.ntmps8
  go_wp2_with (first | (go_at_call 20; refine (name_yes 7 _ (by decide)).mono ?_; rintro e w1 ⟨str, rfl, hs, hb⟩; obtain ⟨hc, hf⟩ := bcell hb; have hz : w.heap.size < w1.heap.size := (by have := hb.size; simp at this; omega); have HB := Aside0.mk hb; clear hb) | (go_at_call 21; (first | (with_reducible refine (reg_yes d _ RD.out).mono ?_) | (with_reducible refine (reg_yes s _ RS.out).mono ?_) | (with_reducible refine (reg_yes t _ RT.out).mono ?_) | (with_reducible refine (reg_yes u _ RU.out).mono ?_) | (with_reducible refine (reg_yes a _ RA.out).mono ?_)); rintro e w2 ⟨rfl, rfl⟩))
  go_region
  all_goals (go_wp2)
  all_goals (go_ret; exact ⟨_, rfl, trivial, by repeat (first | exact (below_step (below_alloc (Below.refl w.heap.size w) _) HB.out) | apply below_alloc | apply pw_below_drewN | apply below_drew)⟩)
set_option maxHeartbeats 8000000 in
set_option maxRecDepth 100000 in
theorem right_11 (d s t u a k z n : Int) (w : World) (RD : Aside0 (0 ≤ d ∧ d ≤ 7)) (RS : Aside0 (0 ≤ s ∧ s ≤ 7)) (RT : Aside0 (0 ≤ t ∧ t ≤ 7)) (RU : Aside0 (0 ≤ u ∧ u ≤ 7)) (RA : Aside0 (0 ≤ a ∧ a ≤ 7)) :
    Calls Try.prog 8 #[.agg #[.int .i64 11, .int .i64 d, .int .i64 s, .int .i64 t, .int .i64 u, .int .i64 a, .int .u32 k, .int .i64 z], .int .i64 n] w (SomeBool (fun _ => True) w) := by
  go_enter Try.func8, Try.ntmps8
  go_wp2_with (first | (go_at_call 20; refine (name_yes 11 _ (by decide)).mono ?_; rintro e w1 ⟨str, rfl, hs, hb⟩; obtain ⟨hc, hf⟩ := bcell hb; have hz : w.heap.size < w1.heap.size := (by have := hb.size; simp at this; omega); have HB := Aside0.mk hb; clear hb) | (go_at_call 21; (first | (with_reducible refine (reg_yes d _ RD.out).mono ?_) | (with_reducible refine (reg_yes s _ RS.out).mono ?_) | (with_reducible refine (reg_yes t _ RT.out).mono ?_) | (with_reducible refine (reg_yes u _ RU.out).mono ?_) | (with_reducible refine (reg_yes a _ RA.out).mono ?_)); rintro e w2 ⟨rfl, rfl⟩))
  all_goals (go_wp2)
  all_goals (go_ret; exact ⟨_, rfl, trivial, by repeat (first | exact (below_step (below_alloc (Below.refl w.heap.size w) _) HB.out) | apply below_alloc | apply pw_below_drewN | apply below_drew)⟩)
set_option maxHeartbeats 8000000 in
set_option maxRecDepth 100000 in
theorem right_17 (d s t u a k z n : Int) (w : World) (RD : Aside0 (0 ≤ d ∧ d ≤ 7)) (RS : Aside0 (0 ≤ s ∧ s ≤ 7)) (RT : Aside0 (0 ≤ t ∧ t ≤ 7)) (RU : Aside0 (0 ≤ u ∧ u ≤ 7)) (RA : Aside0 (0 ≤ a ∧ a ≤ 7)) :
    Calls Try.prog 8 #[.agg #[.int .i64 17, .int .i64 d, .int .i64 s, .int .i64 t, .int .i64 u, .int .i64 a, .int .u32 k, .int .i64 z], .int .i64 n] w (SomeBool (fun _ => True) w) := by
  go_enter Try.func8, Try.ntmps8
  go_wp2_with (first | (go_at_call 20; refine (name_yes 17 _ (by decide)).mono ?_; rintro e w1 ⟨str, rfl, hs, hb⟩; obtain ⟨hc, hf⟩ := bcell hb; have hz : w.heap.size < w1.heap.size := (by have := hb.size; simp at this; omega); have HB := Aside0.mk hb; clear hb) | (go_at_call 21; (first | (with_reducible refine (reg_yes d _ RD.out).mono ?_) | (with_reducible refine (reg_yes s _ RS.out).mono ?_) | (with_reducible refine (reg_yes t _ RT.out).mono ?_) | (with_reducible refine (reg_yes u _ RU.out).mono ?_) | (with_reducible refine (reg_yes a _ RA.out).mono ?_)); rintro e w2 ⟨rfl, rfl⟩))
  go_region
  all_goals (go_wp2)
  all_goals (go_ret; exact ⟨_, rfl, trivial, by repeat (first | exact (below_step (below_alloc (Below.refl w.heap.size w) _) HB.out) | apply below_alloc | apply pw_below_drewN | apply below_drew)⟩)
set_option maxHeartbeats 8000000 in
set_option maxRecDepth 100000 in
theorem right_22 (d s t u a k z n : Int) (w : World) (RD : Aside0 (0 ≤ d ∧ d ≤ 7)) (RS : Aside0 (0 ≤ s ∧ s ≤ 7)) (RT : Aside0 (0 ≤ t ∧ t ≤ 7)) (RU : Aside0 (0 ≤ u ∧ u ≤ 7)) (RA : Aside0 (0 ≤ a ∧ a ≤ 7)) :
    Calls Try.prog 8 #[.agg #[.int .i64 22, .int .i64 d, .int .i64 s, .int .i64 t, .int .i64 u, .int .i64 a, .int .u32 k, .int .i64 z], .int .i64 n] w (SomeBool (fun _ => True) w) := by
  go_enter Try.func8, Try.ntmps8
  go_wp2_with (first | (go_at_call 20; refine (name_yes 22 _ (by decide)).mono ?_; rintro e w1 ⟨str, rfl, hs, hb⟩; obtain ⟨hc, hf⟩ := bcell hb; have hz : w.heap.size < w1.heap.size := (by have := hb.size; simp at this; omega); have HB := Aside0.mk hb; clear hb) | (go_at_call 21; (first | (with_reducible refine (reg_yes d _ RD.out).mono ?_) | (with_reducible refine (reg_yes s _ RS.out).mono ?_) | (with_reducible refine (reg_yes t _ RT.out).mono ?_) | (with_reducible refine (reg_yes u _ RU.out).mono ?_) | (with_reducible refine (reg_yes a _ RA.out).mono ?_)); rintro e w2 ⟨rfl, rfl⟩))
  all_goals (go_wp2)
  all_goals (go_ret; exact ⟨_, rfl, trivial, by repeat (first | exact (below_step (below_alloc (Below.refl w.heap.size w) _) HB.out) | apply below_alloc | apply pw_below_drewN | apply below_drew)⟩)
end Go.Proofs.Ytobjjmdaleoblaa.Co
