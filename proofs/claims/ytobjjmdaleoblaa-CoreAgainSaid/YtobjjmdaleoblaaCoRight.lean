/- ropelineref06.Right: whatever it is asked, it answers; and what it says yes to is an instruction that may be ('okI'). -/
import Derived.Test.YtobjjmdaleoblaaCoRight1
import Derived.Test.YtobjjmdaleoblaaCoRight2
import Derived.Test.YtobjjmdaleoblaaCoRight3
import Derived.Test.YtobjjmdaleoblaaCoRight4
import Derived.Test.YtobjjmdaleoblaaCoRight5
import Derived.Test.YtobjjmdaleoblaaCoStep
import Derived.RegionTactic
import Derived.BigRegion
import Derived.Deep.RegionWith
namespace Go.Proofs.Ytobjjmdaleoblaa.Co
open Go.RowKit Go.Proofs.YtobjjmdaleoblaaW.PrintWords Go.Proofs.YtobjjmdaleoblaaW.PrintLast Go.Proofs.YtobjjmdaleoblaaW.PrintMore Go.Proofs.Ytobjjmdaleoblaa.PCoreRuns
attribute [local go_sem] max2_int min2_int max_two min_two max_three min_three max_four min_four
set_option linter.unusedVariables false
set_option linter.unusedSimpArgs false
set_option maxHeartbeats 4000000 in
set_option maxRecDepth 100000 in
theorem right_noname (op d s t u a k z n : Int) (w : World) (RO : Aside0 (¬ (1 ≤ op ∧ op ≤ 13 ∨ 16 ≤ op ∧ op ≤ 23))) :
    Calls Try.prog 8 #[.agg #[.int .i64 op, .int .i64 d, .int .i64 s, .int .i64 t, .int .i64 u, .int .i64 a, .int .u32 k, .int .i64 z], .int .i64 n] w (SomeBool (fun b => b = false) w) := by
  go_enter Try.func8, Try.ntmps8
  go_wp2_with (go_at_call 20; refine (name_no op _ RO.out).mono ?_; rintro e w1 ⟨str, rfl, hs, hb⟩; obtain ⟨hc, hf⟩ := bcell hb; have hz : w.heap.size < w1.heap.size := (by have := hb.size; simp at this; omega); have HB := Aside0.mk hb; clear hb)
  go_ret
  exact ⟨_, rfl, rfl, by repeat (first | exact (below_step (below_alloc (Below.refl w.heap.size w) _) HB.out) | apply below_alloc | apply pw_below_drewN | apply below_drew)⟩
set_option maxHeartbeats 4000000 in
set_option maxRecDepth 100000 in
theorem right_noreg_d (op d s t u a k z n : Int) (w : World) (RO : Aside0 (1 ≤ op ∧ op ≤ 13 ∨ 16 ≤ op ∧ op ≤ 23)) (RD : Aside0 (¬ (0 ≤ d ∧ d ≤ 7))) :
    Calls Try.prog 8 #[.agg #[.int .i64 op, .int .i64 d, .int .i64 s, .int .i64 t, .int .i64 u, .int .i64 a, .int .u32 k, .int .i64 z], .int .i64 n] w (SomeBool (fun b => b = false) w) := by
  go_enter Try.func8, Try.ntmps8
  go_wp2_with (first | (go_at_call 20; refine (name_yes op _ RO.out).mono ?_; rintro e w1 ⟨str, rfl, hs, hb⟩; obtain ⟨hc, hf⟩ := bcell hb; have hz : w.heap.size < w1.heap.size := (by have := hb.size; simp at this; omega); have HB := Aside0.mk hb; clear hb) | (go_at_call 21; (first | (with_reducible refine (reg_no d _ RD.out).mono ?_)); rintro e w2 ⟨rfl, rfl⟩))
  go_ret
  exact ⟨_, rfl, rfl, by repeat (first | exact (below_step (below_alloc (Below.refl w.heap.size w) _) HB.out) | apply below_alloc | apply pw_below_drewN | apply below_drew)⟩
set_option maxHeartbeats 4000000 in
set_option maxRecDepth 100000 in
theorem right_noreg_s (op d s t u a k z n : Int) (w : World) (RO : Aside0 (1 ≤ op ∧ op ≤ 13 ∨ 16 ≤ op ∧ op ≤ 23)) (RD : Aside0 (0 ≤ d ∧ d ≤ 7)) (RS : Aside0 (¬ (0 ≤ s ∧ s ≤ 7))) :
    Calls Try.prog 8 #[.agg #[.int .i64 op, .int .i64 d, .int .i64 s, .int .i64 t, .int .i64 u, .int .i64 a, .int .u32 k, .int .i64 z], .int .i64 n] w (SomeBool (fun b => b = false) w) := by
  go_enter Try.func8, Try.ntmps8
  go_wp2_with (first | (go_at_call 20; refine (name_yes op _ RO.out).mono ?_; rintro e w1 ⟨str, rfl, hs, hb⟩; obtain ⟨hc, hf⟩ := bcell hb; have hz : w.heap.size < w1.heap.size := (by have := hb.size; simp at this; omega); have HB := Aside0.mk hb; clear hb) | (go_at_call 21; (first | (with_reducible refine (reg_yes d _ RD.out).mono ?_) | (with_reducible refine (reg_no s _ RS.out).mono ?_)); rintro e w2 ⟨rfl, rfl⟩))
  go_ret
  exact ⟨_, rfl, rfl, by repeat (first | exact (below_step (below_alloc (Below.refl w.heap.size w) _) HB.out) | apply below_alloc | apply pw_below_drewN | apply below_drew)⟩
set_option maxHeartbeats 4000000 in
set_option maxRecDepth 100000 in
theorem right_noreg_t (op d s t u a k z n : Int) (w : World) (RO : Aside0 (1 ≤ op ∧ op ≤ 13 ∨ 16 ≤ op ∧ op ≤ 23)) (RD : Aside0 (0 ≤ d ∧ d ≤ 7)) (RS : Aside0 (0 ≤ s ∧ s ≤ 7)) (RT : Aside0 (¬ (0 ≤ t ∧ t ≤ 7))) :
    Calls Try.prog 8 #[.agg #[.int .i64 op, .int .i64 d, .int .i64 s, .int .i64 t, .int .i64 u, .int .i64 a, .int .u32 k, .int .i64 z], .int .i64 n] w (SomeBool (fun b => b = false) w) := by
  go_enter Try.func8, Try.ntmps8
  go_wp2_with (first | (go_at_call 20; refine (name_yes op _ RO.out).mono ?_; rintro e w1 ⟨str, rfl, hs, hb⟩; obtain ⟨hc, hf⟩ := bcell hb; have hz : w.heap.size < w1.heap.size := (by have := hb.size; simp at this; omega); have HB := Aside0.mk hb; clear hb) | (go_at_call 21; (first | (with_reducible refine (reg_yes d _ RD.out).mono ?_) | (with_reducible refine (reg_yes s _ RS.out).mono ?_) | (with_reducible refine (reg_no t _ RT.out).mono ?_)); rintro e w2 ⟨rfl, rfl⟩))
  go_ret
  exact ⟨_, rfl, rfl, by repeat (first | exact (below_step (below_alloc (Below.refl w.heap.size w) _) HB.out) | apply below_alloc | apply pw_below_drewN | apply below_drew)⟩
set_option maxHeartbeats 4000000 in
set_option maxRecDepth 100000 in
theorem right_noreg_u (op d s t u a k z n : Int) (w : World) (RO : Aside0 (1 ≤ op ∧ op ≤ 13 ∨ 16 ≤ op ∧ op ≤ 23)) (RD : Aside0 (0 ≤ d ∧ d ≤ 7)) (RS : Aside0 (0 ≤ s ∧ s ≤ 7)) (RT : Aside0 (0 ≤ t ∧ t ≤ 7)) (RU : Aside0 (¬ (0 ≤ u ∧ u ≤ 7))) :
    Calls Try.prog 8 #[.agg #[.int .i64 op, .int .i64 d, .int .i64 s, .int .i64 t, .int .i64 u, .int .i64 a, .int .u32 k, .int .i64 z], .int .i64 n] w (SomeBool (fun b => b = false) w) := by
  go_enter Try.func8, Try.ntmps8
  go_wp2_with (first | (go_at_call 20; refine (name_yes op _ RO.out).mono ?_; rintro e w1 ⟨str, rfl, hs, hb⟩; obtain ⟨hc, hf⟩ := bcell hb; have hz : w.heap.size < w1.heap.size := (by have := hb.size; simp at this; omega); have HB := Aside0.mk hb; clear hb) | (go_at_call 21; (first | (with_reducible refine (reg_yes d _ RD.out).mono ?_) | (with_reducible refine (reg_yes s _ RS.out).mono ?_) | (with_reducible refine (reg_yes t _ RT.out).mono ?_) | (with_reducible refine (reg_no u _ RU.out).mono ?_)); rintro e w2 ⟨rfl, rfl⟩))
  go_ret
  exact ⟨_, rfl, rfl, by repeat (first | exact (below_step (below_alloc (Below.refl w.heap.size w) _) HB.out) | apply below_alloc | apply pw_below_drewN | apply below_drew)⟩
set_option maxHeartbeats 4000000 in
set_option maxRecDepth 100000 in
theorem right_noreg_a (op d s t u a k z n : Int) (w : World) (RO : Aside0 (1 ≤ op ∧ op ≤ 13 ∨ 16 ≤ op ∧ op ≤ 23)) (RD : Aside0 (0 ≤ d ∧ d ≤ 7)) (RS : Aside0 (0 ≤ s ∧ s ≤ 7)) (RT : Aside0 (0 ≤ t ∧ t ≤ 7)) (RU : Aside0 (0 ≤ u ∧ u ≤ 7)) (RA : Aside0 (¬ (0 ≤ a ∧ a ≤ 7))) :
    Calls Try.prog 8 #[.agg #[.int .i64 op, .int .i64 d, .int .i64 s, .int .i64 t, .int .i64 u, .int .i64 a, .int .u32 k, .int .i64 z], .int .i64 n] w (SomeBool (fun b => b = false) w) := by
  go_enter Try.func8, Try.ntmps8
  go_wp2_with (first | (go_at_call 20; refine (name_yes op _ RO.out).mono ?_; rintro e w1 ⟨str, rfl, hs, hb⟩; obtain ⟨hc, hf⟩ := bcell hb; have hz : w.heap.size < w1.heap.size := (by have := hb.size; simp at this; omega); have HB := Aside0.mk hb; clear hb) | (go_at_call 21; (first | (with_reducible refine (reg_yes d _ RD.out).mono ?_) | (with_reducible refine (reg_yes s _ RS.out).mono ?_) | (with_reducible refine (reg_yes t _ RT.out).mono ?_) | (with_reducible refine (reg_yes u _ RU.out).mono ?_) | (with_reducible refine (reg_no a _ RA.out).mono ?_)); rintro e w2 ⟨rfl, rfl⟩))
  go_ret
  exact ⟨_, rfl, rfl, by repeat (first | exact (below_step (below_alloc (Below.refl w.heap.size w) _) HB.out) | apply below_alloc | apply pw_below_drewN | apply below_drew)⟩

theorem no_ok {w : World} {e : Ending} {w' : World} {i : S27} (h : SomeBool (fun b => b = false) w e w') : SomeBool (fun b => b = true → okI i) w e w' := by
  obtain ⟨b, h1, h2, h3⟩ := h
  exact ⟨b, h1, fun h => absurd (h.symm.trans h2) (by decide), h3⟩
theorem yes_ok {w : World} {e : Ending} {w' : World} {i : S27} (hi : okI i) (h : SomeBool (fun _ => True) w e w') : SomeBool (fun b => b = true → okI i) w e w' := by
  obtain ⟨b, h1, _, h3⟩ := h
  exact ⟨b, h1, fun _ => hi, h3⟩
/-- Right answers, and what it says yes to may be. -/
theorem right_calls (i : S27) (n : Int) (w : World) (k0 : 0 ≤ i.f6) (k1 : i.f6 < 4294967296) : Calls Try.prog 8 #[ival i, .int .i64 n] w (SomeBool (fun b => b = true → okI i) w) := by
  obtain ⟨op, d, s, t, u, a, k, z⟩ := i
  dsimp only at k0 k1
  show Calls Try.prog 8 #[.agg #[.int .i64 op, .int .i64 d, .int .i64 s, .int .i64 t, .int .i64 u, .int .i64 a, .int .u32 k, .int .i64 z], .int .i64 n] w _
  by_cases ho : 1 ≤ op ∧ op ≤ 13 ∨ 16 ≤ op ∧ op ≤ 23
  · by_cases hd : 0 ≤ d ∧ d ≤ 7
    · by_cases hs : 0 ≤ s ∧ s ≤ 7
      · by_cases ht : 0 ≤ t ∧ t ≤ 7
        · by_cases hu : 0 ≤ u ∧ u ≤ 7
          · by_cases ha : 0 ≤ a ∧ a ≤ 7
            · by_cases hk : (op = 5 ∨ op = 6) ∧ 31 < k
              · rcases hk with ⟨rfl | rfl, hk⟩
                · exact (right_5_big d s t u a k z n w ⟨hd⟩ ⟨hs⟩ ⟨ht⟩ ⟨hu⟩ ⟨ha⟩ (decide_eq_true hk)).mono fun _ _ h => no_ok h
                · exact (right_6_big d s t u a k z n w ⟨hd⟩ ⟨hs⟩ ⟨ht⟩ ⟨hu⟩ ⟨ha⟩ (decide_eq_true hk)).mono fun _ _ h => no_ok h
              · have hok : okI ⟨op, d, s, t, u, a, k, z⟩ := ⟨ho, ⟨hd.1, by show d < 8; omega⟩, ⟨hs.1, by show s < 8; omega⟩, ⟨ht.1, by show t < 8; omega⟩, ⟨k0, k1⟩, fun h => by show k ≤ 31; dsimp only at h; omega⟩
                have ho2 : op = 1 ∨ op = 2 ∨ op = 3 ∨ op = 4 ∨ op = 5 ∨ op = 6 ∨ op = 7 ∨ op = 8 ∨ op = 9 ∨ op = 10 ∨ op = 11 ∨ op = 12 ∨ op = 13 ∨ op = 16 ∨ op = 17 ∨ op = 18 ∨ op = 19 ∨ op = 20 ∨ op = 21 ∨ op = 22 ∨ op = 23 := by omega
                rcases ho2 with rfl | rfl | rfl | rfl | rfl | rfl | rfl | rfl | rfl | rfl | rfl | rfl | rfl | rfl | rfl | rfl | rfl | rfl | rfl | rfl | rfl
                · exact (right_1 d s t u a k z n w ⟨hd⟩ ⟨hs⟩ ⟨ht⟩ ⟨hu⟩ ⟨ha⟩).mono fun _ _ h => yes_ok hok h
                · exact (right_2 d s t u a k z n w ⟨hd⟩ ⟨hs⟩ ⟨ht⟩ ⟨hu⟩ ⟨ha⟩).mono fun _ _ h => yes_ok hok h
                · exact (right_3 d s t u a k z n w ⟨hd⟩ ⟨hs⟩ ⟨ht⟩ ⟨hu⟩ ⟨ha⟩).mono fun _ _ h => yes_ok hok h
                · exact (right_4 d s t u a k z n w ⟨hd⟩ ⟨hs⟩ ⟨ht⟩ ⟨hu⟩ ⟨ha⟩).mono fun _ _ h => yes_ok hok h
                · exact (right_5 d s t u a k z n w ⟨hd⟩ ⟨hs⟩ ⟨ht⟩ ⟨hu⟩ ⟨ha⟩ (decide_eq_false (by omega))).mono fun _ _ h => yes_ok hok h
                · exact (right_6 d s t u a k z n w ⟨hd⟩ ⟨hs⟩ ⟨ht⟩ ⟨hu⟩ ⟨ha⟩ (decide_eq_false (by omega))).mono fun _ _ h => yes_ok hok h
                · exact (right_7 d s t u a k z n w ⟨hd⟩ ⟨hs⟩ ⟨ht⟩ ⟨hu⟩ ⟨ha⟩).mono fun _ _ h => yes_ok hok h
                · exact (right_8 d s t u a k z n w ⟨hd⟩ ⟨hs⟩ ⟨ht⟩ ⟨hu⟩ ⟨ha⟩).mono fun _ _ h => yes_ok hok h
                · exact (right_9 d s t u a k z n w ⟨hd⟩ ⟨hs⟩ ⟨ht⟩ ⟨hu⟩ ⟨ha⟩).mono fun _ _ h => yes_ok hok h
                · exact (right_10 d s t u a k z n w ⟨hd⟩ ⟨hs⟩ ⟨ht⟩ ⟨hu⟩ ⟨ha⟩).mono fun _ _ h => yes_ok hok h
                · exact (right_11 d s t u a k z n w ⟨hd⟩ ⟨hs⟩ ⟨ht⟩ ⟨hu⟩ ⟨ha⟩).mono fun _ _ h => yes_ok hok h
                · exact (right_12 d s t u a k z n w ⟨hd⟩ ⟨hs⟩ ⟨ht⟩ ⟨hu⟩ ⟨ha⟩).mono fun _ _ h => yes_ok hok h
                · exact (right_13 d s t u a k z n w ⟨hd⟩ ⟨hs⟩ ⟨ht⟩ ⟨hu⟩ ⟨ha⟩).mono fun _ _ h => yes_ok hok h
                · exact (right_16 d s t u a k z n w ⟨hd⟩ ⟨hs⟩ ⟨ht⟩ ⟨hu⟩ ⟨ha⟩).mono fun _ _ h => yes_ok hok h
                · exact (right_17 d s t u a k z n w ⟨hd⟩ ⟨hs⟩ ⟨ht⟩ ⟨hu⟩ ⟨ha⟩).mono fun _ _ h => yes_ok hok h
                · exact (right_18 d s t u a k z n w ⟨hd⟩ ⟨hs⟩ ⟨ht⟩ ⟨hu⟩ ⟨ha⟩).mono fun _ _ h => yes_ok hok h
                · exact (right_19 d s t u a k z n w ⟨hd⟩ ⟨hs⟩ ⟨ht⟩ ⟨hu⟩ ⟨ha⟩).mono fun _ _ h => yes_ok hok h
                · exact (right_20 d s t u a k z n w ⟨hd⟩ ⟨hs⟩ ⟨ht⟩ ⟨hu⟩ ⟨ha⟩).mono fun _ _ h => yes_ok hok h
                · exact (right_21 d s t u a k z n w ⟨hd⟩ ⟨hs⟩ ⟨ht⟩ ⟨hu⟩ ⟨ha⟩).mono fun _ _ h => yes_ok hok h
                · exact (right_22 d s t u a k z n w ⟨hd⟩ ⟨hs⟩ ⟨ht⟩ ⟨hu⟩ ⟨ha⟩).mono fun _ _ h => yes_ok hok h
                · exact (right_23 d s t u a k z n w ⟨hd⟩ ⟨hs⟩ ⟨ht⟩ ⟨hu⟩ ⟨ha⟩).mono fun _ _ h => yes_ok hok h
            · exact (right_noreg_a op d s t u a k z n w ⟨ho⟩ ⟨hd⟩ ⟨hs⟩ ⟨ht⟩ ⟨hu⟩ ⟨ha⟩).mono fun _ _ h => no_ok h
          · exact (right_noreg_u op d s t u a k z n w ⟨ho⟩ ⟨hd⟩ ⟨hs⟩ ⟨ht⟩ ⟨hu⟩).mono fun _ _ h => no_ok h
        · exact (right_noreg_t op d s t u a k z n w ⟨ho⟩ ⟨hd⟩ ⟨hs⟩ ⟨ht⟩).mono fun _ _ h => no_ok h
      · exact (right_noreg_s op d s t u a k z n w ⟨ho⟩ ⟨hd⟩ ⟨hs⟩).mono fun _ _ h => no_ok h
    · exact (right_noreg_d op d s t u a k z n w ⟨ho⟩ ⟨hd⟩).mono fun _ _ h => no_ok h
  · exact (right_noname op d s t u a k z n w ⟨ho⟩).mono fun _ _ h => no_ok h
end Go.Proofs.Ytobjjmdaleoblaa.Co
