/- A part of the proof of TopConfig: TpRBad. -/
import Derived.Test.YtjopodnlffaogaaGreatDoorQL3
section
namespace Go.Proofs.YtjopodnlffaogaaGreatDoor.Tp
open Go.RowKit Go.Proofs.YtjopodnlffaogaaGreatDoorW.PrintWords Go.Proofs.YtjopodnlffaogaaGreatDoorW.PrintLast Go.Proofs.YtjopodnlffaogaaGreatDoorW.PrintMore
attribute [local go_sem] max2_int min2_int max_two min_two max_three min_three max_four min_four
set_option linter.unusedVariables false
set_option linter.unusedSimpArgs false
set_option maxHeartbeats 4000000 in
set_option maxRecDepth 100000 in
theorem rgraunke_bad0 (n : Int) (w : World) (h : n < 1) :
    Calls Tryz.prog 27 #[.int .i64 n] w fun e w' => e = .returned (.tuple #[.agg #[.slice none 0 0, .int .i64 0, .int .i64 0, .slice none 0 0, .slice none 0 0, .int .i64 0, .slice none 0 0], .bool false]) ∧ Below w.heap.size w w' := by
  have e0 : decide (n < 1) = true := decide_eq_true (by omega)
  go_enter Tryz.func27, Tryz.ntmps27
  go_wp2_with fail
  have E := blk_new w (.cells #[.slice none 0 0, .int .i64 0, .int .i64 0, .slice none 0 0, .slice none 0 0, .int .i64 0, .slice none 0 0] 35)
  obtain ⟨r0, r1, r2, r3, r4, r5, r6⟩ := cells7 E
  exact bodyPost_ret (v := .tuple #[.agg #[.slice none 0 0, .int .i64 0, .int .i64 0, .slice none 0 0, .slice none 0 0, .int .i64 0, .slice none 0 0], .bool false]) (by simp [results, Tryz.results27, go_sem, *]) rfl ⟨rfl, below_alloc (Below.refl _ _) _⟩
set_option maxHeartbeats 4000000 in
set_option maxRecDepth 100000 in
theorem rgraunke_bad1 (n : Int) (w : World) (h : 64 < n) :
    Calls Tryz.prog 27 #[.int .i64 n] w fun e w' => e = .returned (.tuple #[.agg #[.slice none 0 0, .int .i64 0, .int .i64 0, .slice none 0 0, .slice none 0 0, .int .i64 0, .slice none 0 0], .bool false]) ∧ Below w.heap.size w w' := by
  have e0 : decide (n < 1) = false := decide_eq_false (by omega)
  have e1 : decide (64 < n) = true := decide_eq_true (by omega)
  go_enter Tryz.func27, Tryz.ntmps27
  go_wp2_with fail
  have E := blk_new w (.cells #[.slice none 0 0, .int .i64 0, .int .i64 0, .slice none 0 0, .slice none 0 0, .int .i64 0, .slice none 0 0] 35)
  obtain ⟨r0, r1, r2, r3, r4, r5, r6⟩ := cells7 E
  exact bodyPost_ret (v := .tuple #[.agg #[.slice none 0 0, .int .i64 0, .int .i64 0, .slice none 0 0, .slice none 0 0, .int .i64 0, .slice none 0 0], .bool false]) (by simp [results, Tryz.results27, go_sem, *]) rfl ⟨rfl, below_alloc (Below.refl _ _) _⟩
set_option maxHeartbeats 4000000 in
set_option maxRecDepth 100000 in
theorem rclh_bad0 (n : Int) (w : World) (h : n < 1) :
    Calls Tryz.prog 28 #[.int .i64 n] w fun e w' => e = .returned (.tuple #[.agg #[.slice none 0 0, .int .i64 0, .int .i64 0, .slice none 0 0, .slice none 0 0, .int .i64 0, .slice none 0 0], .bool false]) ∧ Below w.heap.size w w' := by
  have e0 : decide (n < 1) = true := decide_eq_true (by omega)
  go_enter Tryz.func28, Tryz.ntmps28
  go_wp2_with fail
  have E := blk_new w (.cells #[.slice none 0 0, .int .i64 0, .int .i64 0, .slice none 0 0, .slice none 0 0, .int .i64 0, .slice none 0 0] 35)
  obtain ⟨r0, r1, r2, r3, r4, r5, r6⟩ := cells7 E
  exact bodyPost_ret (v := .tuple #[.agg #[.slice none 0 0, .int .i64 0, .int .i64 0, .slice none 0 0, .slice none 0 0, .int .i64 0, .slice none 0 0], .bool false]) (by simp [results, Tryz.results28, go_sem, *]) rfl ⟨rfl, below_alloc (Below.refl _ _) _⟩
set_option maxHeartbeats 4000000 in
set_option maxRecDepth 100000 in
theorem rclh_bad1 (n : Int) (w : World) (h : 64 < n) :
    Calls Tryz.prog 28 #[.int .i64 n] w fun e w' => e = .returned (.tuple #[.agg #[.slice none 0 0, .int .i64 0, .int .i64 0, .slice none 0 0, .slice none 0 0, .int .i64 0, .slice none 0 0], .bool false]) ∧ Below w.heap.size w w' := by
  have e0 : decide (n < 1) = false := decide_eq_false (by omega)
  have e1 : decide (64 < n) = true := decide_eq_true (by omega)
  go_enter Tryz.func28, Tryz.ntmps28
  go_wp2_with fail
  have E := blk_new w (.cells #[.slice none 0 0, .int .i64 0, .int .i64 0, .slice none 0 0, .slice none 0 0, .int .i64 0, .slice none 0 0] 35)
  obtain ⟨r0, r1, r2, r3, r4, r5, r6⟩ := cells7 E
  exact bodyPost_ret (v := .tuple #[.agg #[.slice none 0 0, .int .i64 0, .int .i64 0, .slice none 0 0, .slice none 0 0, .int .i64 0, .slice none 0 0], .bool false]) (by simp [results, Tryz.results28, go_sem, *]) rfl ⟨rfl, below_alloc (Below.refl _ _) _⟩
set_option maxHeartbeats 4000000 in
set_option maxRecDepth 100000 in
theorem rmcs_bad0 (n : Int) (w : World) (h : n < 1) :
    Calls Tryz.prog 29 #[.int .i64 n] w fun e w' => e = .returned (.tuple #[.agg #[.slice none 0 0, .int .i64 0, .int .i64 0, .slice none 0 0, .slice none 0 0, .int .i64 0, .slice none 0 0], .bool false]) ∧ Below w.heap.size w w' := by
  have e0 : decide (n < 1) = true := decide_eq_true (by omega)
  go_enter Tryz.func29, Tryz.ntmps29
  go_wp2_with fail
  have E := blk_new w (.cells #[.slice none 0 0, .int .i64 0, .int .i64 0, .slice none 0 0, .slice none 0 0, .int .i64 0, .slice none 0 0] 35)
  obtain ⟨r0, r1, r2, r3, r4, r5, r6⟩ := cells7 E
  exact bodyPost_ret (v := .tuple #[.agg #[.slice none 0 0, .int .i64 0, .int .i64 0, .slice none 0 0, .slice none 0 0, .int .i64 0, .slice none 0 0], .bool false]) (by simp [results, Tryz.results29, go_sem, *]) rfl ⟨rfl, below_alloc (Below.refl _ _) _⟩
set_option maxHeartbeats 4000000 in
set_option maxRecDepth 100000 in
theorem rmcs_bad1 (n : Int) (w : World) (h : 64 < n) :
    Calls Tryz.prog 29 #[.int .i64 n] w fun e w' => e = .returned (.tuple #[.agg #[.slice none 0 0, .int .i64 0, .int .i64 0, .slice none 0 0, .slice none 0 0, .int .i64 0, .slice none 0 0], .bool false]) ∧ Below w.heap.size w w' := by
  have e0 : decide (n < 1) = false := decide_eq_false (by omega)
  have e1 : decide (64 < n) = true := decide_eq_true (by omega)
  go_enter Tryz.func29, Tryz.ntmps29
  go_wp2_with fail
  have E := blk_new w (.cells #[.slice none 0 0, .int .i64 0, .int .i64 0, .slice none 0 0, .slice none 0 0, .int .i64 0, .slice none 0 0] 35)
  obtain ⟨r0, r1, r2, r3, r4, r5, r6⟩ := cells7 E
  exact bodyPost_ret (v := .tuple #[.agg #[.slice none 0 0, .int .i64 0, .int .i64 0, .slice none 0 0, .slice none 0 0, .int .i64 0, .slice none 0 0], .bool false]) (by simp [results, Tryz.results29, go_sem, *]) rfl ⟨rfl, below_alloc (Below.refl _ _) _⟩
set_option maxHeartbeats 4000000 in
set_option maxRecDepth 100000 in
theorem rk42_bad0 (n : Int) (w : World) (h : n < 1) :
    Calls Tryz.prog 30 #[.int .i64 n] w fun e w' => e = .returned (.tuple #[.agg #[.slice none 0 0, .int .i64 0, .int .i64 0, .slice none 0 0, .slice none 0 0, .int .i64 0, .slice none 0 0], .bool false]) ∧ Below w.heap.size w w' := by
  have e0 : decide (n < 1) = true := decide_eq_true (by omega)
  go_enter Tryz.func30, Tryz.ntmps30
  go_wp2_with fail
  have E := blk_new w (.cells #[.slice none 0 0, .int .i64 0, .int .i64 0, .slice none 0 0, .slice none 0 0, .int .i64 0, .slice none 0 0] 35)
  obtain ⟨r0, r1, r2, r3, r4, r5, r6⟩ := cells7 E
  exact bodyPost_ret (v := .tuple #[.agg #[.slice none 0 0, .int .i64 0, .int .i64 0, .slice none 0 0, .slice none 0 0, .int .i64 0, .slice none 0 0], .bool false]) (by simp [results, Tryz.results30, go_sem, *]) rfl ⟨rfl, below_alloc (Below.refl _ _) _⟩
set_option maxHeartbeats 4000000 in
set_option maxRecDepth 100000 in
theorem rk42_bad1 (n : Int) (w : World) (h : 64 < n) :
    Calls Tryz.prog 30 #[.int .i64 n] w fun e w' => e = .returned (.tuple #[.agg #[.slice none 0 0, .int .i64 0, .int .i64 0, .slice none 0 0, .slice none 0 0, .int .i64 0, .slice none 0 0], .bool false]) ∧ Below w.heap.size w w' := by
  have e0 : decide (n < 1) = false := decide_eq_false (by omega)
  have e1 : decide (64 < n) = true := decide_eq_true (by omega)
  go_enter Tryz.func30, Tryz.ntmps30
  go_wp2_with fail
  have E := blk_new w (.cells #[.slice none 0 0, .int .i64 0, .int .i64 0, .slice none 0 0, .slice none 0 0, .int .i64 0, .slice none 0 0] 35)
  obtain ⟨r0, r1, r2, r3, r4, r5, r6⟩ := cells7 E
  exact bodyPost_ret (v := .tuple #[.agg #[.slice none 0 0, .int .i64 0, .int .i64 0, .slice none 0 0, .slice none 0 0, .int .i64 0, .slice none 0 0], .bool false]) (by simp [results, Tryz.results30, go_sem, *]) rfl ⟨rfl, below_alloc (Below.refl _ _) _⟩
set_option maxHeartbeats 4000000 in
set_option maxRecDepth 100000 in
theorem rticket_bad0 (n s : Int) (w : World) (h : n < 1) :
    Calls Tryz.prog 25 #[.int .i64 n, .int .u32 s] w fun e w' => e = .returned (.tuple #[.agg #[.slice none 0 0, .int .i64 0, .int .i64 0, .slice none 0 0, .slice none 0 0, .int .i64 0, .slice none 0 0], .bool false]) ∧ Below w.heap.size w w' := by
  have e0 : decide (n < 1) = true := decide_eq_true (by omega)
  go_enter Tryz.func25, Tryz.ntmps25
  go_wp2_with fail
  have E := blk_new w (.cells #[.slice none 0 0, .int .i64 0, .int .i64 0, .slice none 0 0, .slice none 0 0, .int .i64 0, .slice none 0 0] 35)
  obtain ⟨r0, r1, r2, r3, r4, r5, r6⟩ := cells7 E
  exact bodyPost_ret (v := .tuple #[.agg #[.slice none 0 0, .int .i64 0, .int .i64 0, .slice none 0 0, .slice none 0 0, .int .i64 0, .slice none 0 0], .bool false]) (by simp [results, Tryz.results25, go_sem, *]) rfl ⟨rfl, below_alloc (Below.refl _ _) _⟩
set_option maxHeartbeats 4000000 in
set_option maxRecDepth 100000 in
theorem rticket_bad1 (n s : Int) (w : World) (h : 64 < n) :
    Calls Tryz.prog 25 #[.int .i64 n, .int .u32 s] w fun e w' => e = .returned (.tuple #[.agg #[.slice none 0 0, .int .i64 0, .int .i64 0, .slice none 0 0, .slice none 0 0, .int .i64 0, .slice none 0 0], .bool false]) ∧ Below w.heap.size w w' := by
  have e0 : decide (n < 1) = false := decide_eq_false (by omega)
  have e1 : decide (64 < n) = true := decide_eq_true (by omega)
  go_enter Tryz.func25, Tryz.ntmps25
  go_wp2_with fail
  have E := blk_new w (.cells #[.slice none 0 0, .int .i64 0, .int .i64 0, .slice none 0 0, .slice none 0 0, .int .i64 0, .slice none 0 0] 35)
  obtain ⟨r0, r1, r2, r3, r4, r5, r6⟩ := cells7 E
  exact bodyPost_ret (v := .tuple #[.agg #[.slice none 0 0, .int .i64 0, .int .i64 0, .slice none 0 0, .slice none 0 0, .int .i64 0, .slice none 0 0], .bool false]) (by simp [results, Tryz.results25, go_sem, *]) rfl ⟨rfl, below_alloc (Below.refl _ _) _⟩
set_option maxHeartbeats 4000000 in
set_option maxRecDepth 100000 in
theorem rclhtry_bad0 (n c : Int) (w : World) (h : n < 1) :
    Calls Tryz.prog 31 #[.int .i64 n, .int .i64 c] w fun e w' => e = .returned (.tuple #[.agg #[.slice none 0 0, .int .i64 0, .int .i64 0, .slice none 0 0, .slice none 0 0, .int .i64 0, .slice none 0 0], .bool false]) ∧ Below w.heap.size w w' := by
  have e0 : decide (n < 1) = true := decide_eq_true (by omega)
  go_enter Tryz.func31, Tryz.ntmps31
  go_wp2_with fail
  have E := blk_new w (.cells #[.slice none 0 0, .int .i64 0, .int .i64 0, .slice none 0 0, .slice none 0 0, .int .i64 0, .slice none 0 0] 35)
  obtain ⟨r0, r1, r2, r3, r4, r5, r6⟩ := cells7 E
  exact bodyPost_ret (v := .tuple #[.agg #[.slice none 0 0, .int .i64 0, .int .i64 0, .slice none 0 0, .slice none 0 0, .int .i64 0, .slice none 0 0], .bool false]) (by simp [results, Tryz.results31, go_sem, *]) rfl ⟨rfl, below_alloc (Below.refl _ _) _⟩
set_option maxHeartbeats 4000000 in
set_option maxRecDepth 100000 in
theorem rclhtry_bad1 (n c : Int) (w : World) (h : 64 < n) :
    Calls Tryz.prog 31 #[.int .i64 n, .int .i64 c] w fun e w' => e = .returned (.tuple #[.agg #[.slice none 0 0, .int .i64 0, .int .i64 0, .slice none 0 0, .slice none 0 0, .int .i64 0, .slice none 0 0], .bool false]) ∧ Below w.heap.size w w' := by
  have e0 : decide (n < 1) = false := decide_eq_false (by omega)
  have e1 : decide (64 < n) = true := decide_eq_true (by omega)
  go_enter Tryz.func31, Tryz.ntmps31
  go_wp2_with fail
  have E := blk_new w (.cells #[.slice none 0 0, .int .i64 0, .int .i64 0, .slice none 0 0, .slice none 0 0, .int .i64 0, .slice none 0 0] 35)
  obtain ⟨r0, r1, r2, r3, r4, r5, r6⟩ := cells7 E
  exact bodyPost_ret (v := .tuple #[.agg #[.slice none 0 0, .int .i64 0, .int .i64 0, .slice none 0 0, .slice none 0 0, .int .i64 0, .slice none 0 0], .bool false]) (by simp [results, Tryz.results31, go_sem, *]) rfl ⟨rfl, below_alloc (Below.refl _ _) _⟩
set_option maxHeartbeats 4000000 in
set_option maxRecDepth 100000 in
theorem rclhtry_bad2 (n c : Int) (w : World) (h0 : 1 ≤ n) (h1 : n ≤ 64) (h : c < 2) :
    Calls Tryz.prog 31 #[.int .i64 n, .int .i64 c] w fun e w' => e = .returned (.tuple #[.agg #[.slice none 0 0, .int .i64 0, .int .i64 0, .slice none 0 0, .slice none 0 0, .int .i64 0, .slice none 0 0], .bool false]) ∧ Below w.heap.size w w' := by
  have e0 : decide (n < 1) = false := decide_eq_false (by omega)
  have e1 : decide (64 < n) = false := decide_eq_false (by omega)
  have e2 : decide (c < 2) = true := decide_eq_true (by omega)
  go_enter Tryz.func31, Tryz.ntmps31
  go_wp2_with fail
  have E := blk_new w (.cells #[.slice none 0 0, .int .i64 0, .int .i64 0, .slice none 0 0, .slice none 0 0, .int .i64 0, .slice none 0 0] 35)
  obtain ⟨r0, r1, r2, r3, r4, r5, r6⟩ := cells7 E
  exact bodyPost_ret (v := .tuple #[.agg #[.slice none 0 0, .int .i64 0, .int .i64 0, .slice none 0 0, .slice none 0 0, .int .i64 0, .slice none 0 0], .bool false]) (by simp [results, Tryz.results31, go_sem, *]) rfl ⟨rfl, below_alloc (Below.refl _ _) _⟩
set_option maxHeartbeats 4000000 in
set_option maxRecDepth 100000 in
theorem rclhtry_bad3 (n c : Int) (w : World) (h0 : 1 ≤ n) (h1 : n ≤ 64) (h : 8 < c) :
    Calls Tryz.prog 31 #[.int .i64 n, .int .i64 c] w fun e w' => e = .returned (.tuple #[.agg #[.slice none 0 0, .int .i64 0, .int .i64 0, .slice none 0 0, .slice none 0 0, .int .i64 0, .slice none 0 0], .bool false]) ∧ Below w.heap.size w w' := by
  have e0 : decide (n < 1) = false := decide_eq_false (by omega)
  have e1 : decide (64 < n) = false := decide_eq_false (by omega)
  have e2 : decide (c < 2) = false := decide_eq_false (by omega)
  have e3 : decide (8 < c) = true := decide_eq_true (by omega)
  go_enter Tryz.func31, Tryz.ntmps31
  go_wp2_with fail
  have E := blk_new w (.cells #[.slice none 0 0, .int .i64 0, .int .i64 0, .slice none 0 0, .slice none 0 0, .int .i64 0, .slice none 0 0] 35)
  obtain ⟨r0, r1, r2, r3, r4, r5, r6⟩ := cells7 E
  exact bodyPost_ret (v := .tuple #[.agg #[.slice none 0 0, .int .i64 0, .int .i64 0, .slice none 0 0, .slice none 0 0, .int .i64 0, .slice none 0 0], .bool false]) (by simp [results, Tryz.results31, go_sem, *]) rfl ⟨rfl, below_alloc (Below.refl _ _) _⟩
set_option maxHeartbeats 4000000 in
set_option maxRecDepth 100000 in
theorem rmcstry_bad0 (n c : Int) (w : World) (h : n < 1) :
    Calls Tryz.prog 32 #[.int .i64 n, .int .i64 c] w fun e w' => e = .returned (.tuple #[.agg #[.slice none 0 0, .int .i64 0, .int .i64 0, .slice none 0 0, .slice none 0 0, .int .i64 0, .slice none 0 0], .bool false]) ∧ Below w.heap.size w w' := by
  have e0 : decide (n < 1) = true := decide_eq_true (by omega)
  go_enter Tryz.func32, Tryz.ntmps32
  go_wp2_with fail
  have E := blk_new w (.cells #[.slice none 0 0, .int .i64 0, .int .i64 0, .slice none 0 0, .slice none 0 0, .int .i64 0, .slice none 0 0] 35)
  obtain ⟨r0, r1, r2, r3, r4, r5, r6⟩ := cells7 E
  exact bodyPost_ret (v := .tuple #[.agg #[.slice none 0 0, .int .i64 0, .int .i64 0, .slice none 0 0, .slice none 0 0, .int .i64 0, .slice none 0 0], .bool false]) (by simp [results, Tryz.results32, go_sem, *]) rfl ⟨rfl, below_alloc (Below.refl _ _) _⟩
set_option maxHeartbeats 4000000 in
set_option maxRecDepth 100000 in
theorem rmcstry_bad1 (n c : Int) (w : World) (h : 64 < n) :
    Calls Tryz.prog 32 #[.int .i64 n, .int .i64 c] w fun e w' => e = .returned (.tuple #[.agg #[.slice none 0 0, .int .i64 0, .int .i64 0, .slice none 0 0, .slice none 0 0, .int .i64 0, .slice none 0 0], .bool false]) ∧ Below w.heap.size w w' := by
  have e0 : decide (n < 1) = false := decide_eq_false (by omega)
  have e1 : decide (64 < n) = true := decide_eq_true (by omega)
  go_enter Tryz.func32, Tryz.ntmps32
  go_wp2_with fail
  have E := blk_new w (.cells #[.slice none 0 0, .int .i64 0, .int .i64 0, .slice none 0 0, .slice none 0 0, .int .i64 0, .slice none 0 0] 35)
  obtain ⟨r0, r1, r2, r3, r4, r5, r6⟩ := cells7 E
  exact bodyPost_ret (v := .tuple #[.agg #[.slice none 0 0, .int .i64 0, .int .i64 0, .slice none 0 0, .slice none 0 0, .int .i64 0, .slice none 0 0], .bool false]) (by simp [results, Tryz.results32, go_sem, *]) rfl ⟨rfl, below_alloc (Below.refl _ _) _⟩
set_option maxHeartbeats 4000000 in
set_option maxRecDepth 100000 in
theorem rmcstry_bad2 (n c : Int) (w : World) (h0 : 1 ≤ n) (h1 : n ≤ 64) (h : c < 1) :
    Calls Tryz.prog 32 #[.int .i64 n, .int .i64 c] w fun e w' => e = .returned (.tuple #[.agg #[.slice none 0 0, .int .i64 0, .int .i64 0, .slice none 0 0, .slice none 0 0, .int .i64 0, .slice none 0 0], .bool false]) ∧ Below w.heap.size w w' := by
  have e0 : decide (n < 1) = false := decide_eq_false (by omega)
  have e1 : decide (64 < n) = false := decide_eq_false (by omega)
  have e2 : decide (c < 1) = true := decide_eq_true (by omega)
  go_enter Tryz.func32, Tryz.ntmps32
  go_wp2_with fail
  have E := blk_new w (.cells #[.slice none 0 0, .int .i64 0, .int .i64 0, .slice none 0 0, .slice none 0 0, .int .i64 0, .slice none 0 0] 35)
  obtain ⟨r0, r1, r2, r3, r4, r5, r6⟩ := cells7 E
  exact bodyPost_ret (v := .tuple #[.agg #[.slice none 0 0, .int .i64 0, .int .i64 0, .slice none 0 0, .slice none 0 0, .int .i64 0, .slice none 0 0], .bool false]) (by simp [results, Tryz.results32, go_sem, *]) rfl ⟨rfl, below_alloc (Below.refl _ _) _⟩
set_option maxHeartbeats 4000000 in
set_option maxRecDepth 100000 in
theorem rmcstry_bad3 (n c : Int) (w : World) (h0 : 1 ≤ n) (h1 : n ≤ 64) (h : 8 < c) :
    Calls Tryz.prog 32 #[.int .i64 n, .int .i64 c] w fun e w' => e = .returned (.tuple #[.agg #[.slice none 0 0, .int .i64 0, .int .i64 0, .slice none 0 0, .slice none 0 0, .int .i64 0, .slice none 0 0], .bool false]) ∧ Below w.heap.size w w' := by
  have e0 : decide (n < 1) = false := decide_eq_false (by omega)
  have e1 : decide (64 < n) = false := decide_eq_false (by omega)
  have e2 : decide (c < 1) = false := decide_eq_false (by omega)
  have e3 : decide (8 < c) = true := decide_eq_true (by omega)
  go_enter Tryz.func32, Tryz.ntmps32
  go_wp2_with fail
  have E := blk_new w (.cells #[.slice none 0 0, .int .i64 0, .int .i64 0, .slice none 0 0, .slice none 0 0, .int .i64 0, .slice none 0 0] 35)
  obtain ⟨r0, r1, r2, r3, r4, r5, r6⟩ := cells7 E
  exact bodyPost_ret (v := .tuple #[.agg #[.slice none 0 0, .int .i64 0, .int .i64 0, .slice none 0 0, .slice none 0 0, .int .i64 0, .slice none 0 0], .bool false]) (by simp [results, Tryz.results32, go_sem, *]) rfl ⟨rfl, below_alloc (Below.refl _ _) _⟩
set_option maxHeartbeats 4000000 in
set_option maxRecDepth 100000 in
theorem randerson_bad0 (n t s : Int) (w : World) (h : n < 1) :
    Calls Tryz.prog 26 #[.int .i64 n, .int .i64 t, .int .u32 s] w fun e w' => e = .returned (.tuple #[.agg #[.slice none 0 0, .int .i64 0, .int .i64 0, .slice none 0 0, .slice none 0 0, .int .i64 0, .slice none 0 0], .bool false]) ∧ Below w.heap.size w w' := by
  have e0 : decide (n < 1) = true := decide_eq_true (by omega)
  go_enter Tryz.func26, Tryz.ntmps26
  go_wp2_with fail
  have E := blk_new w (.cells #[.slice none 0 0, .int .i64 0, .int .i64 0, .slice none 0 0, .slice none 0 0, .int .i64 0, .slice none 0 0] 35)
  obtain ⟨r0, r1, r2, r3, r4, r5, r6⟩ := cells7 E
  exact bodyPost_ret (v := .tuple #[.agg #[.slice none 0 0, .int .i64 0, .int .i64 0, .slice none 0 0, .slice none 0 0, .int .i64 0, .slice none 0 0], .bool false]) (by simp [results, Tryz.results26, go_sem, *]) rfl ⟨rfl, below_alloc (Below.refl _ _) _⟩
set_option maxHeartbeats 4000000 in
set_option maxRecDepth 100000 in
theorem randerson_bad1 (n t s : Int) (w : World) (h : 64 < n) :
    Calls Tryz.prog 26 #[.int .i64 n, .int .i64 t, .int .u32 s] w fun e w' => e = .returned (.tuple #[.agg #[.slice none 0 0, .int .i64 0, .int .i64 0, .slice none 0 0, .slice none 0 0, .int .i64 0, .slice none 0 0], .bool false]) ∧ Below w.heap.size w w' := by
  have e0 : decide (n < 1) = false := decide_eq_false (by omega)
  have e1 : decide (64 < n) = true := decide_eq_true (by omega)
  go_enter Tryz.func26, Tryz.ntmps26
  go_wp2_with fail
  have E := blk_new w (.cells #[.slice none 0 0, .int .i64 0, .int .i64 0, .slice none 0 0, .slice none 0 0, .int .i64 0, .slice none 0 0] 35)
  obtain ⟨r0, r1, r2, r3, r4, r5, r6⟩ := cells7 E
  exact bodyPost_ret (v := .tuple #[.agg #[.slice none 0 0, .int .i64 0, .int .i64 0, .slice none 0 0, .slice none 0 0, .int .i64 0, .slice none 0 0], .bool false]) (by simp [results, Tryz.results26, go_sem, *]) rfl ⟨rfl, below_alloc (Below.refl _ _) _⟩
set_option maxHeartbeats 4000000 in
set_option maxRecDepth 100000 in
theorem randerson_bad2 (n t s : Int) (w : World) (h0 : 1 ≤ n) (h1 : n ≤ 64) (h : t < n) :
    Calls Tryz.prog 26 #[.int .i64 n, .int .i64 t, .int .u32 s] w fun e w' => e = .returned (.tuple #[.agg #[.slice none 0 0, .int .i64 0, .int .i64 0, .slice none 0 0, .slice none 0 0, .int .i64 0, .slice none 0 0], .bool false]) ∧ Below w.heap.size w w' := by
  have e0 : decide (n < 1) = false := decide_eq_false (by omega)
  have e1 : decide (64 < n) = false := decide_eq_false (by omega)
  have e2 : decide (t < n) = true := decide_eq_true (by omega)
  go_enter Tryz.func26, Tryz.ntmps26
  go_wp2_with fail
  have E := blk_new w (.cells #[.slice none 0 0, .int .i64 0, .int .i64 0, .slice none 0 0, .slice none 0 0, .int .i64 0, .slice none 0 0] 35)
  obtain ⟨r0, r1, r2, r3, r4, r5, r6⟩ := cells7 E
  exact bodyPost_ret (v := .tuple #[.agg #[.slice none 0 0, .int .i64 0, .int .i64 0, .slice none 0 0, .slice none 0 0, .int .i64 0, .slice none 0 0], .bool false]) (by simp [results, Tryz.results26, go_sem, *]) rfl ⟨rfl, below_alloc (Below.refl _ _) _⟩
set_option maxHeartbeats 4000000 in
set_option maxRecDepth 100000 in
theorem randerson_bad3 (n t s : Int) (w : World) (h0 : 1 ≤ n) (h1 : n ≤ 64) (h2 : n ≤ t) (c0 : (t != 1) = true) (c1 : (t != 2) = true) (c2 : (t != 4) = true) (c3 : (t != 8) = true) (c4 : (t != 16) = true) (c5 : (t != 32) = true) (c6 : (t != 64) = true) :
    Calls Tryz.prog 26 #[.int .i64 n, .int .i64 t, .int .u32 s] w fun e w' => e = .returned (.tuple #[.agg #[.slice none 0 0, .int .i64 0, .int .i64 0, .slice none 0 0, .slice none 0 0, .int .i64 0, .slice none 0 0], .bool false]) ∧ Below w.heap.size w w' := by
  have e0 : decide (n < 1) = false := decide_eq_false (by omega)
  have e1 : decide (64 < n) = false := decide_eq_false (by omega)
  have e2 : decide (t < n) = false := decide_eq_false (by omega)
  go_enter Tryz.func26, Tryz.ntmps26
  go_wp2_with fail
  have E := blk_new w (.cells #[.slice none 0 0, .int .i64 0, .int .i64 0, .slice none 0 0, .slice none 0 0, .int .i64 0, .slice none 0 0] 35)
  obtain ⟨r0, r1, r2, r3, r4, r5, r6⟩ := cells7 E
  exact bodyPost_ret (v := .tuple #[.agg #[.slice none 0 0, .int .i64 0, .int .i64 0, .slice none 0 0, .slice none 0 0, .int .i64 0, .slice none 0 0], .bool false]) (by simp [results, Tryz.results26, go_sem, *]) rfl ⟨rfl, below_alloc (Below.refl _ _) _⟩
end Go.Proofs.YtjopodnlffaogaaGreatDoor.Tp
end
