/- A part of the proof of TopConfig: TpRQBad. -/
import Derived.Test.YtjopodnlffaogaaGreatDoorQRBad
import Derived.Test.YtjopodnlffaogaaGreatDoorQRQ0
section
namespace Go.Proofs.YtjopodnlffaogaaGreatDoor.Tp
open Go.RowKit Go.Proofs.YtjopodnlffaogaaGreatDoorW.PrintWords Go.Proofs.YtjopodnlffaogaaGreatDoorW.PrintLast Go.Proofs.YtjopodnlffaogaaGreatDoorW.PrintMore
attribute [local go_sem] max2_int min2_int max_two min_two max_three min_three max_four min_four
set_option linter.unusedVariables false
set_option linter.unusedSimpArgs false
def RRefused (f : FuncId) (args : Array Value) (w : World) : Prop := Calls Tryz.prog f args w fun e w' => e = .returned (.tuple #[.agg #[.slice none 0 0, .int .i64 0, .int .i64 0, .slice none 0 0, .slice none 0 0, .int .i64 0, .slice none 0 0], .bool false]) ∧ Below w.heap.size w w'
set_option maxHeartbeats 4000000 in
set_option maxRecDepth 100000 in
theorem rqbad_graunke (n sl ea sp s : Int) (w : World) (s0 : 1 ≤ sp) (s1 : sp ≤ 1000) (hp : ∀ W : World, RRefused 27 #[.int .i64 n] W) : RRefused 8 #[.agg #[.int .i64 3, .int .i64 n, .int .i64 sl, .int .i64 ea, .int .i64 sp, .int .u32 s]] w := by
  have e0 : decide (sp < 1) = false := decide_eq_false (by omega)
  have e1 : decide (1000 < sp) = false := decide_eq_false (by omega)
  have P := Aside0.mk hp
  have C1 := Aside0.mk (show ((w.alloc (.cells #[.int .i64 3, .int .i64 n, .int .i64 sl, .int .i64 ea, .int .i64 sp, .int .u32 s] 38)).alloc (.cells #[.slice none 0 0, .int .i64 0, .int .i64 0, .slice none 0 0, .slice none 0 0, .int .i64 0, .slice none 0 0] 35)).heap[w.heap.size + 1]? = some (.cells #[.slice none 0 0, .int .i64 0, .int .i64 0, .slice none 0 0, .slice none 0 0, .int .i64 0, .slice none 0 0] 35 (0, 0)) from by
    have := blk_new (w.alloc (.cells #[.int .i64 3, .int .i64 n, .int .i64 sl, .int .i64 ea, .int .i64 sp, .int .u32 s] 38)) (.cells #[.slice none 0 0, .int .i64 0, .int .i64 0, .slice none 0 0, .slice none 0 0, .int .i64 0, .slice none 0 0] 35)
    simpa using this)
  have HB0 := Aside0.mk (below_alloc (below_alloc (Below.refl w.heap.size w) (.cells #[.int .i64 3, .int .i64 n, .int .i64 sl, .int .i64 ea, .int .i64 sp, .int .u32 s] 38)) (.cells #[.slice none 0 0, .int .i64 0, .int .i64 0, .slice none 0 0, .slice none 0 0, .int .i64 0, .slice none 0 0] 35))
  clear hp s0 s1
  unfold RRefused at P ⊢
  go_enter Tryz.func8, Tryz.ntmps8
  go_wp2_with (go_at_call 27; refine (P.out _).mono ?_; rintro e w3 ⟨rfl, hb⟩; have m0 := Aside0.mk (blk_below C1.out hb); have HB := Aside0.mk (below_step HB0.out hb); clear hb C1 HB0 P; obtain ⟨p0, q0, p1, q1, p2, q2, p3, q3, p4, q4, p5, q5, p6, q6⟩ := both7 m0.out)
  clear p0 q0 p1 q1 p2 q2 p3 q3 p4 q4 p5 q5 p6 q6
  have h2 := set7_blk m0.out (.slice none 0 0) (.int .i64 0) (.int .i64 0) (.slice none 0 0) (.slice none 0 0) (.int .i64 0) (.slice none 0 0)
  have hB := below_mod HB.out (Nat.le_refl _) (set7_mod w3 (w.heap.size + 1) (.slice none 0 0) (.int .i64 0) (.int .i64 0) (.slice none 0 0) (.slice none 0 0) (.int .i64 0) (.slice none 0 0)) (by intro q hq; omega)
  change bodyPost _ _ _ _ _ (set7 w3 (w.heap.size + 1) _ _ _ _ _ _ _)
  generalize set7 w3 (w.heap.size + 1) (.slice none 0 0) (.int .i64 0) (.int .i64 0) (.slice none 0 0) (.slice none 0 0) (.int .i64 0) (.slice none 0 0) = WF at h2 hB ⊢
  obtain ⟨r0, r1, r2, r3, r4, r5, r6⟩ := cells7 h2
  exact bodyPost_ret (v := .tuple #[.agg #[.slice none 0 0, .int .i64 0, .int .i64 0, .slice none 0 0, .slice none 0 0, .int .i64 0, .slice none 0 0], .bool false]) (by simp [results, Tryz.results8, go_sem, *]) rfl ⟨rfl, hB⟩
set_option maxHeartbeats 4000000 in
set_option maxRecDepth 100000 in
theorem rqbad_clh (n sl ea sp s : Int) (w : World) (s0 : 1 ≤ sp) (s1 : sp ≤ 1000) (hp : ∀ W : World, RRefused 28 #[.int .i64 n] W) : RRefused 8 #[.agg #[.int .i64 4, .int .i64 n, .int .i64 sl, .int .i64 ea, .int .i64 sp, .int .u32 s]] w := by
  have e0 : decide (sp < 1) = false := decide_eq_false (by omega)
  have e1 : decide (1000 < sp) = false := decide_eq_false (by omega)
  have P := Aside0.mk hp
  have C1 := Aside0.mk (show ((w.alloc (.cells #[.int .i64 4, .int .i64 n, .int .i64 sl, .int .i64 ea, .int .i64 sp, .int .u32 s] 38)).alloc (.cells #[.slice none 0 0, .int .i64 0, .int .i64 0, .slice none 0 0, .slice none 0 0, .int .i64 0, .slice none 0 0] 35)).heap[w.heap.size + 1]? = some (.cells #[.slice none 0 0, .int .i64 0, .int .i64 0, .slice none 0 0, .slice none 0 0, .int .i64 0, .slice none 0 0] 35 (0, 0)) from by
    have := blk_new (w.alloc (.cells #[.int .i64 4, .int .i64 n, .int .i64 sl, .int .i64 ea, .int .i64 sp, .int .u32 s] 38)) (.cells #[.slice none 0 0, .int .i64 0, .int .i64 0, .slice none 0 0, .slice none 0 0, .int .i64 0, .slice none 0 0] 35)
    simpa using this)
  have HB0 := Aside0.mk (below_alloc (below_alloc (Below.refl w.heap.size w) (.cells #[.int .i64 4, .int .i64 n, .int .i64 sl, .int .i64 ea, .int .i64 sp, .int .u32 s] 38)) (.cells #[.slice none 0 0, .int .i64 0, .int .i64 0, .slice none 0 0, .slice none 0 0, .int .i64 0, .slice none 0 0] 35))
  clear hp s0 s1
  unfold RRefused at P ⊢
  go_enter Tryz.func8, Tryz.ntmps8
  go_wp2_with (go_at_call 28; refine (P.out _).mono ?_; rintro e w3 ⟨rfl, hb⟩; have m0 := Aside0.mk (blk_below C1.out hb); have HB := Aside0.mk (below_step HB0.out hb); clear hb C1 HB0 P; obtain ⟨p0, q0, p1, q1, p2, q2, p3, q3, p4, q4, p5, q5, p6, q6⟩ := both7 m0.out)
  clear p0 q0 p1 q1 p2 q2 p3 q3 p4 q4 p5 q5 p6 q6
  have h2 := set7_blk m0.out (.slice none 0 0) (.int .i64 0) (.int .i64 0) (.slice none 0 0) (.slice none 0 0) (.int .i64 0) (.slice none 0 0)
  have hB := below_mod HB.out (Nat.le_refl _) (set7_mod w3 (w.heap.size + 1) (.slice none 0 0) (.int .i64 0) (.int .i64 0) (.slice none 0 0) (.slice none 0 0) (.int .i64 0) (.slice none 0 0)) (by intro q hq; omega)
  change bodyPost _ _ _ _ _ (set7 w3 (w.heap.size + 1) _ _ _ _ _ _ _)
  generalize set7 w3 (w.heap.size + 1) (.slice none 0 0) (.int .i64 0) (.int .i64 0) (.slice none 0 0) (.slice none 0 0) (.int .i64 0) (.slice none 0 0) = WF at h2 hB ⊢
  obtain ⟨r0, r1, r2, r3, r4, r5, r6⟩ := cells7 h2
  exact bodyPost_ret (v := .tuple #[.agg #[.slice none 0 0, .int .i64 0, .int .i64 0, .slice none 0 0, .slice none 0 0, .int .i64 0, .slice none 0 0], .bool false]) (by simp [results, Tryz.results8, go_sem, *]) rfl ⟨rfl, hB⟩
set_option maxHeartbeats 4000000 in
set_option maxRecDepth 100000 in
theorem rqbad_mcs (n sl ea sp s : Int) (w : World) (s0 : 1 ≤ sp) (s1 : sp ≤ 1000) (hp : ∀ W : World, RRefused 29 #[.int .i64 n] W) : RRefused 8 #[.agg #[.int .i64 5, .int .i64 n, .int .i64 sl, .int .i64 ea, .int .i64 sp, .int .u32 s]] w := by
  have e0 : decide (sp < 1) = false := decide_eq_false (by omega)
  have e1 : decide (1000 < sp) = false := decide_eq_false (by omega)
  have P := Aside0.mk hp
  have C1 := Aside0.mk (show ((w.alloc (.cells #[.int .i64 5, .int .i64 n, .int .i64 sl, .int .i64 ea, .int .i64 sp, .int .u32 s] 38)).alloc (.cells #[.slice none 0 0, .int .i64 0, .int .i64 0, .slice none 0 0, .slice none 0 0, .int .i64 0, .slice none 0 0] 35)).heap[w.heap.size + 1]? = some (.cells #[.slice none 0 0, .int .i64 0, .int .i64 0, .slice none 0 0, .slice none 0 0, .int .i64 0, .slice none 0 0] 35 (0, 0)) from by
    have := blk_new (w.alloc (.cells #[.int .i64 5, .int .i64 n, .int .i64 sl, .int .i64 ea, .int .i64 sp, .int .u32 s] 38)) (.cells #[.slice none 0 0, .int .i64 0, .int .i64 0, .slice none 0 0, .slice none 0 0, .int .i64 0, .slice none 0 0] 35)
    simpa using this)
  have HB0 := Aside0.mk (below_alloc (below_alloc (Below.refl w.heap.size w) (.cells #[.int .i64 5, .int .i64 n, .int .i64 sl, .int .i64 ea, .int .i64 sp, .int .u32 s] 38)) (.cells #[.slice none 0 0, .int .i64 0, .int .i64 0, .slice none 0 0, .slice none 0 0, .int .i64 0, .slice none 0 0] 35))
  clear hp s0 s1
  unfold RRefused at P ⊢
  go_enter Tryz.func8, Tryz.ntmps8
  go_wp2_with (go_at_call 29; refine (P.out _).mono ?_; rintro e w3 ⟨rfl, hb⟩; have m0 := Aside0.mk (blk_below C1.out hb); have HB := Aside0.mk (below_step HB0.out hb); clear hb C1 HB0 P; obtain ⟨p0, q0, p1, q1, p2, q2, p3, q3, p4, q4, p5, q5, p6, q6⟩ := both7 m0.out)
  clear p0 q0 p1 q1 p2 q2 p3 q3 p4 q4 p5 q5 p6 q6
  have h2 := set7_blk m0.out (.slice none 0 0) (.int .i64 0) (.int .i64 0) (.slice none 0 0) (.slice none 0 0) (.int .i64 0) (.slice none 0 0)
  have hB := below_mod HB.out (Nat.le_refl _) (set7_mod w3 (w.heap.size + 1) (.slice none 0 0) (.int .i64 0) (.int .i64 0) (.slice none 0 0) (.slice none 0 0) (.int .i64 0) (.slice none 0 0)) (by intro q hq; omega)
  change bodyPost _ _ _ _ _ (set7 w3 (w.heap.size + 1) _ _ _ _ _ _ _)
  generalize set7 w3 (w.heap.size + 1) (.slice none 0 0) (.int .i64 0) (.int .i64 0) (.slice none 0 0) (.slice none 0 0) (.int .i64 0) (.slice none 0 0) = WF at h2 hB ⊢
  obtain ⟨r0, r1, r2, r3, r4, r5, r6⟩ := cells7 h2
  exact bodyPost_ret (v := .tuple #[.agg #[.slice none 0 0, .int .i64 0, .int .i64 0, .slice none 0 0, .slice none 0 0, .int .i64 0, .slice none 0 0], .bool false]) (by simp [results, Tryz.results8, go_sem, *]) rfl ⟨rfl, hB⟩
set_option maxHeartbeats 4000000 in
set_option maxRecDepth 100000 in
theorem rqbad_k42 (n sl ea sp s : Int) (w : World) (s0 : 1 ≤ sp) (s1 : sp ≤ 1000) (hp : ∀ W : World, RRefused 30 #[.int .i64 n] W) : RRefused 8 #[.agg #[.int .i64 6, .int .i64 n, .int .i64 sl, .int .i64 ea, .int .i64 sp, .int .u32 s]] w := by
  have e0 : decide (sp < 1) = false := decide_eq_false (by omega)
  have e1 : decide (1000 < sp) = false := decide_eq_false (by omega)
  have P := Aside0.mk hp
  have C1 := Aside0.mk (show ((w.alloc (.cells #[.int .i64 6, .int .i64 n, .int .i64 sl, .int .i64 ea, .int .i64 sp, .int .u32 s] 38)).alloc (.cells #[.slice none 0 0, .int .i64 0, .int .i64 0, .slice none 0 0, .slice none 0 0, .int .i64 0, .slice none 0 0] 35)).heap[w.heap.size + 1]? = some (.cells #[.slice none 0 0, .int .i64 0, .int .i64 0, .slice none 0 0, .slice none 0 0, .int .i64 0, .slice none 0 0] 35 (0, 0)) from by
    have := blk_new (w.alloc (.cells #[.int .i64 6, .int .i64 n, .int .i64 sl, .int .i64 ea, .int .i64 sp, .int .u32 s] 38)) (.cells #[.slice none 0 0, .int .i64 0, .int .i64 0, .slice none 0 0, .slice none 0 0, .int .i64 0, .slice none 0 0] 35)
    simpa using this)
  have HB0 := Aside0.mk (below_alloc (below_alloc (Below.refl w.heap.size w) (.cells #[.int .i64 6, .int .i64 n, .int .i64 sl, .int .i64 ea, .int .i64 sp, .int .u32 s] 38)) (.cells #[.slice none 0 0, .int .i64 0, .int .i64 0, .slice none 0 0, .slice none 0 0, .int .i64 0, .slice none 0 0] 35))
  clear hp s0 s1
  unfold RRefused at P ⊢
  go_enter Tryz.func8, Tryz.ntmps8
  go_wp2_with (go_at_call 30; refine (P.out _).mono ?_; rintro e w3 ⟨rfl, hb⟩; have m0 := Aside0.mk (blk_below C1.out hb); have HB := Aside0.mk (below_step HB0.out hb); clear hb C1 HB0 P; obtain ⟨p0, q0, p1, q1, p2, q2, p3, q3, p4, q4, p5, q5, p6, q6⟩ := both7 m0.out)
  clear p0 q0 p1 q1 p2 q2 p3 q3 p4 q4 p5 q5 p6 q6
  have h2 := set7_blk m0.out (.slice none 0 0) (.int .i64 0) (.int .i64 0) (.slice none 0 0) (.slice none 0 0) (.int .i64 0) (.slice none 0 0)
  have hB := below_mod HB.out (Nat.le_refl _) (set7_mod w3 (w.heap.size + 1) (.slice none 0 0) (.int .i64 0) (.int .i64 0) (.slice none 0 0) (.slice none 0 0) (.int .i64 0) (.slice none 0 0)) (by intro q hq; omega)
  change bodyPost _ _ _ _ _ (set7 w3 (w.heap.size + 1) _ _ _ _ _ _ _)
  generalize set7 w3 (w.heap.size + 1) (.slice none 0 0) (.int .i64 0) (.int .i64 0) (.slice none 0 0) (.slice none 0 0) (.int .i64 0) (.slice none 0 0) = WF at h2 hB ⊢
  obtain ⟨r0, r1, r2, r3, r4, r5, r6⟩ := cells7 h2
  exact bodyPost_ret (v := .tuple #[.agg #[.slice none 0 0, .int .i64 0, .int .i64 0, .slice none 0 0, .slice none 0 0, .int .i64 0, .slice none 0 0], .bool false]) (by simp [results, Tryz.results8, go_sem, *]) rfl ⟨rfl, hB⟩
set_option maxHeartbeats 4000000 in
set_option maxRecDepth 100000 in
theorem rqbad_ticket (n sl ea sp s : Int) (w : World) (s0 : 1 ≤ sp) (s1 : sp ≤ 1000) (hp : ∀ W : World, RRefused 25 #[.int .i64 n, .int .u32 s] W) : RRefused 8 #[.agg #[.int .i64 1, .int .i64 n, .int .i64 sl, .int .i64 ea, .int .i64 sp, .int .u32 s]] w := by
  have e0 : decide (sp < 1) = false := decide_eq_false (by omega)
  have e1 : decide (1000 < sp) = false := decide_eq_false (by omega)
  have P := Aside0.mk hp
  have C1 := Aside0.mk (show ((w.alloc (.cells #[.int .i64 1, .int .i64 n, .int .i64 sl, .int .i64 ea, .int .i64 sp, .int .u32 s] 38)).alloc (.cells #[.slice none 0 0, .int .i64 0, .int .i64 0, .slice none 0 0, .slice none 0 0, .int .i64 0, .slice none 0 0] 35)).heap[w.heap.size + 1]? = some (.cells #[.slice none 0 0, .int .i64 0, .int .i64 0, .slice none 0 0, .slice none 0 0, .int .i64 0, .slice none 0 0] 35 (0, 0)) from by
    have := blk_new (w.alloc (.cells #[.int .i64 1, .int .i64 n, .int .i64 sl, .int .i64 ea, .int .i64 sp, .int .u32 s] 38)) (.cells #[.slice none 0 0, .int .i64 0, .int .i64 0, .slice none 0 0, .slice none 0 0, .int .i64 0, .slice none 0 0] 35)
    simpa using this)
  have HB0 := Aside0.mk (below_alloc (below_alloc (Below.refl w.heap.size w) (.cells #[.int .i64 1, .int .i64 n, .int .i64 sl, .int .i64 ea, .int .i64 sp, .int .u32 s] 38)) (.cells #[.slice none 0 0, .int .i64 0, .int .i64 0, .slice none 0 0, .slice none 0 0, .int .i64 0, .slice none 0 0] 35))
  clear hp s0 s1
  unfold RRefused at P ⊢
  go_enter Tryz.func8, Tryz.ntmps8
  go_wp2_with (go_at_call 25; refine (P.out _).mono ?_; rintro e w3 ⟨rfl, hb⟩; have m0 := Aside0.mk (blk_below C1.out hb); have HB := Aside0.mk (below_step HB0.out hb); clear hb C1 HB0 P; obtain ⟨p0, q0, p1, q1, p2, q2, p3, q3, p4, q4, p5, q5, p6, q6⟩ := both7 m0.out)
  clear p0 q0 p1 q1 p2 q2 p3 q3 p4 q4 p5 q5 p6 q6
  have h2 := set7_blk m0.out (.slice none 0 0) (.int .i64 0) (.int .i64 0) (.slice none 0 0) (.slice none 0 0) (.int .i64 0) (.slice none 0 0)
  have hB := below_mod HB.out (Nat.le_refl _) (set7_mod w3 (w.heap.size + 1) (.slice none 0 0) (.int .i64 0) (.int .i64 0) (.slice none 0 0) (.slice none 0 0) (.int .i64 0) (.slice none 0 0)) (by intro q hq; omega)
  change bodyPost _ _ _ _ _ (set7 w3 (w.heap.size + 1) _ _ _ _ _ _ _)
  generalize set7 w3 (w.heap.size + 1) (.slice none 0 0) (.int .i64 0) (.int .i64 0) (.slice none 0 0) (.slice none 0 0) (.int .i64 0) (.slice none 0 0) = WF at h2 hB ⊢
  obtain ⟨r0, r1, r2, r3, r4, r5, r6⟩ := cells7 h2
  exact bodyPost_ret (v := .tuple #[.agg #[.slice none 0 0, .int .i64 0, .int .i64 0, .slice none 0 0, .slice none 0 0, .int .i64 0, .slice none 0 0], .bool false]) (by simp [results, Tryz.results8, go_sem, *]) rfl ⟨rfl, hB⟩
set_option maxHeartbeats 4000000 in
set_option maxRecDepth 100000 in
theorem rqbad_anderson (n sl ea sp s : Int) (w : World) (s0 : 1 ≤ sp) (s1 : sp ≤ 1000) (hp : ∀ W : World, RRefused 26 #[.int .i64 n, .int .i64 sl, .int .u32 s] W) : RRefused 8 #[.agg #[.int .i64 2, .int .i64 n, .int .i64 sl, .int .i64 ea, .int .i64 sp, .int .u32 s]] w := by
  have e0 : decide (sp < 1) = false := decide_eq_false (by omega)
  have e1 : decide (1000 < sp) = false := decide_eq_false (by omega)
  have P := Aside0.mk hp
  have C1 := Aside0.mk (show ((w.alloc (.cells #[.int .i64 2, .int .i64 n, .int .i64 sl, .int .i64 ea, .int .i64 sp, .int .u32 s] 38)).alloc (.cells #[.slice none 0 0, .int .i64 0, .int .i64 0, .slice none 0 0, .slice none 0 0, .int .i64 0, .slice none 0 0] 35)).heap[w.heap.size + 1]? = some (.cells #[.slice none 0 0, .int .i64 0, .int .i64 0, .slice none 0 0, .slice none 0 0, .int .i64 0, .slice none 0 0] 35 (0, 0)) from by
    have := blk_new (w.alloc (.cells #[.int .i64 2, .int .i64 n, .int .i64 sl, .int .i64 ea, .int .i64 sp, .int .u32 s] 38)) (.cells #[.slice none 0 0, .int .i64 0, .int .i64 0, .slice none 0 0, .slice none 0 0, .int .i64 0, .slice none 0 0] 35)
    simpa using this)
  have HB0 := Aside0.mk (below_alloc (below_alloc (Below.refl w.heap.size w) (.cells #[.int .i64 2, .int .i64 n, .int .i64 sl, .int .i64 ea, .int .i64 sp, .int .u32 s] 38)) (.cells #[.slice none 0 0, .int .i64 0, .int .i64 0, .slice none 0 0, .slice none 0 0, .int .i64 0, .slice none 0 0] 35))
  clear hp s0 s1
  unfold RRefused at P ⊢
  go_enter Tryz.func8, Tryz.ntmps8
  go_wp2_with (go_at_call 26; refine (P.out _).mono ?_; rintro e w3 ⟨rfl, hb⟩; have m0 := Aside0.mk (blk_below C1.out hb); have HB := Aside0.mk (below_step HB0.out hb); clear hb C1 HB0 P; obtain ⟨p0, q0, p1, q1, p2, q2, p3, q3, p4, q4, p5, q5, p6, q6⟩ := both7 m0.out)
  clear p0 q0 p1 q1 p2 q2 p3 q3 p4 q4 p5 q5 p6 q6
  have h2 := set7_blk m0.out (.slice none 0 0) (.int .i64 0) (.int .i64 0) (.slice none 0 0) (.slice none 0 0) (.int .i64 0) (.slice none 0 0)
  have hB := below_mod HB.out (Nat.le_refl _) (set7_mod w3 (w.heap.size + 1) (.slice none 0 0) (.int .i64 0) (.int .i64 0) (.slice none 0 0) (.slice none 0 0) (.int .i64 0) (.slice none 0 0)) (by intro q hq; omega)
  change bodyPost _ _ _ _ _ (set7 w3 (w.heap.size + 1) _ _ _ _ _ _ _)
  generalize set7 w3 (w.heap.size + 1) (.slice none 0 0) (.int .i64 0) (.int .i64 0) (.slice none 0 0) (.slice none 0 0) (.int .i64 0) (.slice none 0 0) = WF at h2 hB ⊢
  obtain ⟨r0, r1, r2, r3, r4, r5, r6⟩ := cells7 h2
  exact bodyPost_ret (v := .tuple #[.agg #[.slice none 0 0, .int .i64 0, .int .i64 0, .slice none 0 0, .slice none 0 0, .int .i64 0, .slice none 0 0], .bool false]) (by simp [results, Tryz.results8, go_sem, *]) rfl ⟨rfl, hB⟩
set_option maxHeartbeats 4000000 in
set_option maxRecDepth 100000 in
theorem rqbad_clhtry (n sl ea sp s : Int) (w : World) (s0 : 1 ≤ sp) (s1 : sp ≤ 1000) (hp : ∀ W : World, RRefused 31 #[.int .i64 n, .int .i64 ea] W) : RRefused 8 #[.agg #[.int .i64 7, .int .i64 n, .int .i64 sl, .int .i64 ea, .int .i64 sp, .int .u32 s]] w := by
  have e0 : decide (sp < 1) = false := decide_eq_false (by omega)
  have e1 : decide (1000 < sp) = false := decide_eq_false (by omega)
  have P := Aside0.mk hp
  have C1 := Aside0.mk (show ((w.alloc (.cells #[.int .i64 7, .int .i64 n, .int .i64 sl, .int .i64 ea, .int .i64 sp, .int .u32 s] 38)).alloc (.cells #[.slice none 0 0, .int .i64 0, .int .i64 0, .slice none 0 0, .slice none 0 0, .int .i64 0, .slice none 0 0] 35)).heap[w.heap.size + 1]? = some (.cells #[.slice none 0 0, .int .i64 0, .int .i64 0, .slice none 0 0, .slice none 0 0, .int .i64 0, .slice none 0 0] 35 (0, 0)) from by
    have := blk_new (w.alloc (.cells #[.int .i64 7, .int .i64 n, .int .i64 sl, .int .i64 ea, .int .i64 sp, .int .u32 s] 38)) (.cells #[.slice none 0 0, .int .i64 0, .int .i64 0, .slice none 0 0, .slice none 0 0, .int .i64 0, .slice none 0 0] 35)
    simpa using this)
  have HB0 := Aside0.mk (below_alloc (below_alloc (Below.refl w.heap.size w) (.cells #[.int .i64 7, .int .i64 n, .int .i64 sl, .int .i64 ea, .int .i64 sp, .int .u32 s] 38)) (.cells #[.slice none 0 0, .int .i64 0, .int .i64 0, .slice none 0 0, .slice none 0 0, .int .i64 0, .slice none 0 0] 35))
  clear hp s0 s1
  unfold RRefused at P ⊢
  go_enter Tryz.func8, Tryz.ntmps8
  go_wp2_with (go_at_call 31; refine (P.out _).mono ?_; rintro e w3 ⟨rfl, hb⟩; have m0 := Aside0.mk (blk_below C1.out hb); have HB := Aside0.mk (below_step HB0.out hb); clear hb C1 HB0 P; obtain ⟨p0, q0, p1, q1, p2, q2, p3, q3, p4, q4, p5, q5, p6, q6⟩ := both7 m0.out)
  clear p0 q0 p1 q1 p2 q2 p3 q3 p4 q4 p5 q5 p6 q6
  have h2 := set7_blk m0.out (.slice none 0 0) (.int .i64 0) (.int .i64 0) (.slice none 0 0) (.slice none 0 0) (.int .i64 0) (.slice none 0 0)
  have hB := below_mod HB.out (Nat.le_refl _) (set7_mod w3 (w.heap.size + 1) (.slice none 0 0) (.int .i64 0) (.int .i64 0) (.slice none 0 0) (.slice none 0 0) (.int .i64 0) (.slice none 0 0)) (by intro q hq; omega)
  change bodyPost _ _ _ _ _ (set7 w3 (w.heap.size + 1) _ _ _ _ _ _ _)
  generalize set7 w3 (w.heap.size + 1) (.slice none 0 0) (.int .i64 0) (.int .i64 0) (.slice none 0 0) (.slice none 0 0) (.int .i64 0) (.slice none 0 0) = WF at h2 hB ⊢
  obtain ⟨r0, r1, r2, r3, r4, r5, r6⟩ := cells7 h2
  exact bodyPost_ret (v := .tuple #[.agg #[.slice none 0 0, .int .i64 0, .int .i64 0, .slice none 0 0, .slice none 0 0, .int .i64 0, .slice none 0 0], .bool false]) (by simp [results, Tryz.results8, go_sem, *]) rfl ⟨rfl, hB⟩
set_option maxHeartbeats 4000000 in
set_option maxRecDepth 100000 in
theorem rqbad_mcstry (n sl ea sp s : Int) (w : World) (s0 : 1 ≤ sp) (s1 : sp ≤ 1000) (hp : ∀ W : World, RRefused 32 #[.int .i64 n, .int .i64 ea] W) : RRefused 8 #[.agg #[.int .i64 8, .int .i64 n, .int .i64 sl, .int .i64 ea, .int .i64 sp, .int .u32 s]] w := by
  have e0 : decide (sp < 1) = false := decide_eq_false (by omega)
  have e1 : decide (1000 < sp) = false := decide_eq_false (by omega)
  have P := Aside0.mk hp
  have C1 := Aside0.mk (show ((w.alloc (.cells #[.int .i64 8, .int .i64 n, .int .i64 sl, .int .i64 ea, .int .i64 sp, .int .u32 s] 38)).alloc (.cells #[.slice none 0 0, .int .i64 0, .int .i64 0, .slice none 0 0, .slice none 0 0, .int .i64 0, .slice none 0 0] 35)).heap[w.heap.size + 1]? = some (.cells #[.slice none 0 0, .int .i64 0, .int .i64 0, .slice none 0 0, .slice none 0 0, .int .i64 0, .slice none 0 0] 35 (0, 0)) from by
    have := blk_new (w.alloc (.cells #[.int .i64 8, .int .i64 n, .int .i64 sl, .int .i64 ea, .int .i64 sp, .int .u32 s] 38)) (.cells #[.slice none 0 0, .int .i64 0, .int .i64 0, .slice none 0 0, .slice none 0 0, .int .i64 0, .slice none 0 0] 35)
    simpa using this)
  have HB0 := Aside0.mk (below_alloc (below_alloc (Below.refl w.heap.size w) (.cells #[.int .i64 8, .int .i64 n, .int .i64 sl, .int .i64 ea, .int .i64 sp, .int .u32 s] 38)) (.cells #[.slice none 0 0, .int .i64 0, .int .i64 0, .slice none 0 0, .slice none 0 0, .int .i64 0, .slice none 0 0] 35))
  clear hp s0 s1
  unfold RRefused at P ⊢
  go_enter Tryz.func8, Tryz.ntmps8
  go_wp2_with (go_at_call 32; refine (P.out _).mono ?_; rintro e w3 ⟨rfl, hb⟩; have m0 := Aside0.mk (blk_below C1.out hb); have HB := Aside0.mk (below_step HB0.out hb); clear hb C1 HB0 P; obtain ⟨p0, q0, p1, q1, p2, q2, p3, q3, p4, q4, p5, q5, p6, q6⟩ := both7 m0.out)
  clear p0 q0 p1 q1 p2 q2 p3 q3 p4 q4 p5 q5 p6 q6
  have h2 := set7_blk m0.out (.slice none 0 0) (.int .i64 0) (.int .i64 0) (.slice none 0 0) (.slice none 0 0) (.int .i64 0) (.slice none 0 0)
  have hB := below_mod HB.out (Nat.le_refl _) (set7_mod w3 (w.heap.size + 1) (.slice none 0 0) (.int .i64 0) (.int .i64 0) (.slice none 0 0) (.slice none 0 0) (.int .i64 0) (.slice none 0 0)) (by intro q hq; omega)
  change bodyPost _ _ _ _ _ (set7 w3 (w.heap.size + 1) _ _ _ _ _ _ _)
  generalize set7 w3 (w.heap.size + 1) (.slice none 0 0) (.int .i64 0) (.int .i64 0) (.slice none 0 0) (.slice none 0 0) (.int .i64 0) (.slice none 0 0) = WF at h2 hB ⊢
  obtain ⟨r0, r1, r2, r3, r4, r5, r6⟩ := cells7 h2
  exact bodyPost_ret (v := .tuple #[.agg #[.slice none 0 0, .int .i64 0, .int .i64 0, .slice none 0 0, .slice none 0 0, .int .i64 0, .slice none 0 0], .bool false]) (by simp [results, Tryz.results8, go_sem, *]) rfl ⟨rfl, hB⟩
set_option maxHeartbeats 4000000 in
set_option maxRecDepth 100000 in
theorem rqbad_s0 (kd n sl ea sp s : Int) (w : World) (h : sp < 1) : RRefused 8 #[.agg #[.int .i64 kd, .int .i64 n, .int .i64 sl, .int .i64 ea, .int .i64 sp, .int .u32 s]] w := by
  have e0 : decide (sp < 1) = true := decide_eq_true (by omega)
  unfold RRefused
  go_enter Tryz.func8, Tryz.ntmps8
  go_wp2_with fail
  have E := blk_new (w.alloc (.cells #[.int .i64 kd, .int .i64 n, .int .i64 sl, .int .i64 ea, .int .i64 sp, .int .u32 s] 38)) (.cells #[.slice none 0 0, .int .i64 0, .int .i64 0, .slice none 0 0, .slice none 0 0, .int .i64 0, .slice none 0 0] 35)
  simp only [World.size_alloc] at E
  obtain ⟨r0, r1, r2, r3, r4, r5, r6⟩ := cells7 E
  exact bodyPost_ret (v := .tuple #[.agg #[.slice none 0 0, .int .i64 0, .int .i64 0, .slice none 0 0, .slice none 0 0, .int .i64 0, .slice none 0 0], .bool false]) (by simp [results, Tryz.results8, go_sem, *]) rfl ⟨rfl, below_alloc (below_alloc (Below.refl _ _) _) _⟩
set_option maxHeartbeats 4000000 in
set_option maxRecDepth 100000 in
theorem rqbad_s1 (kd n sl ea sp s : Int) (w : World) (h : 1000 < sp) : RRefused 8 #[.agg #[.int .i64 kd, .int .i64 n, .int .i64 sl, .int .i64 ea, .int .i64 sp, .int .u32 s]] w := by
  have e0 : decide (sp < 1) = false := decide_eq_false (by omega)
  have e1 : decide (1000 < sp) = true := decide_eq_true (by omega)
  unfold RRefused
  go_enter Tryz.func8, Tryz.ntmps8
  go_wp2_with fail
  have E := blk_new (w.alloc (.cells #[.int .i64 kd, .int .i64 n, .int .i64 sl, .int .i64 ea, .int .i64 sp, .int .u32 s] 38)) (.cells #[.slice none 0 0, .int .i64 0, .int .i64 0, .slice none 0 0, .slice none 0 0, .int .i64 0, .slice none 0 0] 35)
  simp only [World.size_alloc] at E
  obtain ⟨r0, r1, r2, r3, r4, r5, r6⟩ := cells7 E
  exact bodyPost_ret (v := .tuple #[.agg #[.slice none 0 0, .int .i64 0, .int .i64 0, .slice none 0 0, .slice none 0 0, .int .i64 0, .slice none 0 0], .bool false]) (by simp [results, Tryz.results8, go_sem, *]) rfl ⟨rfl, below_alloc (below_alloc (Below.refl _ _) _) _⟩
set_option maxHeartbeats 4000000 in
set_option maxRecDepth 100000 in
theorem rqbad_kd (kd n sl ea sp s : Int) (w : World) (s0 : 1 ≤ sp) (s1 : sp ≤ 1000) (h : kd < 1 ∨ 8 < kd) : RRefused 8 #[.agg #[.int .i64 kd, .int .i64 n, .int .i64 sl, .int .i64 ea, .int .i64 sp, .int .u32 s]] w := by
  have e0 : decide (sp < 1) = false := decide_eq_false (by omega)
  have e1 : decide (1000 < sp) = false := decide_eq_false (by omega)
  have f1 : (kd == 1) = false := beq_eq_false_iff_ne.mpr (by omega)
  have f2 : (kd == 2) = false := beq_eq_false_iff_ne.mpr (by omega)
  have f3 : (kd == 3) = false := beq_eq_false_iff_ne.mpr (by omega)
  have f4 : (kd == 4) = false := beq_eq_false_iff_ne.mpr (by omega)
  have f5 : (kd == 5) = false := beq_eq_false_iff_ne.mpr (by omega)
  have f6 : (kd == 6) = false := beq_eq_false_iff_ne.mpr (by omega)
  have f7 : (kd == 7) = false := beq_eq_false_iff_ne.mpr (by omega)
  have f8 : (kd == 8) = false := beq_eq_false_iff_ne.mpr (by omega)
  unfold RRefused
  go_enter Tryz.func8, Tryz.ntmps8
  go_wp2_with fail
  have E := blk_new (w.alloc (.cells #[.int .i64 kd, .int .i64 n, .int .i64 sl, .int .i64 ea, .int .i64 sp, .int .u32 s] 38)) (.cells #[.slice none 0 0, .int .i64 0, .int .i64 0, .slice none 0 0, .slice none 0 0, .int .i64 0, .slice none 0 0] 35)
  simp only [World.size_alloc] at E
  obtain ⟨r0, r1, r2, r3, r4, r5, r6⟩ := cells7 E
  exact bodyPost_ret (v := .tuple #[.agg #[.slice none 0 0, .int .i64 0, .int .i64 0, .slice none 0 0, .slice none 0 0, .int .i64 0, .slice none 0 0], .bool false]) (by simp [results, Tryz.results8, go_sem, *]) rfl ⟨rfl, below_alloc (below_alloc (Below.refl _ _) _) _⟩
end Go.Proofs.YtjopodnlffaogaaGreatDoor.Tp
end
