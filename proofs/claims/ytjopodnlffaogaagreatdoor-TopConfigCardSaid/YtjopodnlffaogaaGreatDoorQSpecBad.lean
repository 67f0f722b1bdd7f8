/- A part of the proof of TopConfig: TpSpecBad. -/
import Derived.Test.YtjopodnlffaogaaGreatDoorQL1
section
namespace Go.Proofs.YtjopodnlffaogaaGreatDoor.Tp
open Go.RowKit Go.Proofs.YtjopodnlffaogaaGreatDoorW.PrintWords Go.Proofs.YtjopodnlffaogaaGreatDoorW.PrintLast Go.Proofs.YtjopodnlffaogaaGreatDoorW.PrintMore
attribute [local go_sem] max2_int min2_int max_two min_two max_three min_three max_four min_four
set_option linter.unusedVariables false
set_option linter.unusedSimpArgs false
set_option maxHeartbeats 4000000 in
set_option maxRecDepth 100000 in
theorem graunke_bad0 (n : Int) (w : World) (h : n < 1) :
    Calls Tryz.prog 107 #[.int .i64 n] w fun e w' => e = .returned (.tuple #[.agg #[.slice none 0 0, .int .i64 0, .int .i64 0, .slice none 0 0, .slice none 0 0, .int .i64 0, .slice none 0 0], .int .i64 5]) ∧ Below w.heap.size w w' := by
  have e0 : decide (n < 1) = true := decide_eq_true (by omega)
  go_enter Tryz.func107, Tryz.ntmps107
  go_wp2_with fail
  have E := blk_new w (.cells #[.slice none 0 0, .int .i64 0, .int .i64 0, .slice none 0 0, .slice none 0 0, .int .i64 0, .slice none 0 0] 114)
  obtain ⟨r0, r1, r2, r3, r4, r5, r6⟩ := cells7 E
  exact bodyPost_ret (v := .tuple #[.agg #[.slice none 0 0, .int .i64 0, .int .i64 0, .slice none 0 0, .slice none 0 0, .int .i64 0, .slice none 0 0], .int .i64 5]) (by simp [results, Tryz.results107, go_sem, *]) rfl ⟨rfl, below_alloc (Below.refl _ _) _⟩
set_option maxHeartbeats 4000000 in
set_option maxRecDepth 100000 in
theorem graunke_bad1 (n : Int) (w : World) (h : 64 < n) :
    Calls Tryz.prog 107 #[.int .i64 n] w fun e w' => e = .returned (.tuple #[.agg #[.slice none 0 0, .int .i64 0, .int .i64 0, .slice none 0 0, .slice none 0 0, .int .i64 0, .slice none 0 0], .int .i64 5]) ∧ Below w.heap.size w w' := by
  have e0 : decide (n < 1) = false := decide_eq_false (by omega)
  have e1 : decide (64 < n) = true := decide_eq_true (by omega)
  go_enter Tryz.func107, Tryz.ntmps107
  go_wp2_with fail
  have E := blk_new w (.cells #[.slice none 0 0, .int .i64 0, .int .i64 0, .slice none 0 0, .slice none 0 0, .int .i64 0, .slice none 0 0] 114)
  obtain ⟨r0, r1, r2, r3, r4, r5, r6⟩ := cells7 E
  exact bodyPost_ret (v := .tuple #[.agg #[.slice none 0 0, .int .i64 0, .int .i64 0, .slice none 0 0, .slice none 0 0, .int .i64 0, .slice none 0 0], .int .i64 5]) (by simp [results, Tryz.results107, go_sem, *]) rfl ⟨rfl, below_alloc (Below.refl _ _) _⟩
set_option maxHeartbeats 4000000 in
set_option maxRecDepth 100000 in
theorem clh_bad0 (n : Int) (w : World) (h : n < 1) :
    Calls Tryz.prog 108 #[.int .i64 n] w fun e w' => e = .returned (.tuple #[.agg #[.slice none 0 0, .int .i64 0, .int .i64 0, .slice none 0 0, .slice none 0 0, .int .i64 0, .slice none 0 0], .int .i64 5]) ∧ Below w.heap.size w w' := by
  have e0 : decide (n < 1) = true := decide_eq_true (by omega)
  go_enter Tryz.func108, Tryz.ntmps108
  go_wp2_with fail
  have E := blk_new w (.cells #[.slice none 0 0, .int .i64 0, .int .i64 0, .slice none 0 0, .slice none 0 0, .int .i64 0, .slice none 0 0] 114)
  obtain ⟨r0, r1, r2, r3, r4, r5, r6⟩ := cells7 E
  exact bodyPost_ret (v := .tuple #[.agg #[.slice none 0 0, .int .i64 0, .int .i64 0, .slice none 0 0, .slice none 0 0, .int .i64 0, .slice none 0 0], .int .i64 5]) (by simp [results, Tryz.results108, go_sem, *]) rfl ⟨rfl, below_alloc (Below.refl _ _) _⟩
set_option maxHeartbeats 4000000 in
set_option maxRecDepth 100000 in
theorem clh_bad1 (n : Int) (w : World) (h : 64 < n) :
    Calls Tryz.prog 108 #[.int .i64 n] w fun e w' => e = .returned (.tuple #[.agg #[.slice none 0 0, .int .i64 0, .int .i64 0, .slice none 0 0, .slice none 0 0, .int .i64 0, .slice none 0 0], .int .i64 5]) ∧ Below w.heap.size w w' := by
  have e0 : decide (n < 1) = false := decide_eq_false (by omega)
  have e1 : decide (64 < n) = true := decide_eq_true (by omega)
  go_enter Tryz.func108, Tryz.ntmps108
  go_wp2_with fail
  have E := blk_new w (.cells #[.slice none 0 0, .int .i64 0, .int .i64 0, .slice none 0 0, .slice none 0 0, .int .i64 0, .slice none 0 0] 114)
  obtain ⟨r0, r1, r2, r3, r4, r5, r6⟩ := cells7 E
  exact bodyPost_ret (v := .tuple #[.agg #[.slice none 0 0, .int .i64 0, .int .i64 0, .slice none 0 0, .slice none 0 0, .int .i64 0, .slice none 0 0], .int .i64 5]) (by simp [results, Tryz.results108, go_sem, *]) rfl ⟨rfl, below_alloc (Below.refl _ _) _⟩
set_option maxHeartbeats 4000000 in
set_option maxRecDepth 100000 in
theorem mcs_bad0 (n : Int) (w : World) (h : n < 1) :
    Calls Tryz.prog 109 #[.int .i64 n] w fun e w' => e = .returned (.tuple #[.agg #[.slice none 0 0, .int .i64 0, .int .i64 0, .slice none 0 0, .slice none 0 0, .int .i64 0, .slice none 0 0], .int .i64 5]) ∧ Below w.heap.size w w' := by
  have e0 : decide (n < 1) = true := decide_eq_true (by omega)
  go_enter Tryz.func109, Tryz.ntmps109
  go_wp2_with fail
  have E := blk_new w (.cells #[.slice none 0 0, .int .i64 0, .int .i64 0, .slice none 0 0, .slice none 0 0, .int .i64 0, .slice none 0 0] 114)
  obtain ⟨r0, r1, r2, r3, r4, r5, r6⟩ := cells7 E
  exact bodyPost_ret (v := .tuple #[.agg #[.slice none 0 0, .int .i64 0, .int .i64 0, .slice none 0 0, .slice none 0 0, .int .i64 0, .slice none 0 0], .int .i64 5]) (by simp [results, Tryz.results109, go_sem, *]) rfl ⟨rfl, below_alloc (Below.refl _ _) _⟩
set_option maxHeartbeats 4000000 in
set_option maxRecDepth 100000 in
theorem mcs_bad1 (n : Int) (w : World) (h : 64 < n) :
    Calls Tryz.prog 109 #[.int .i64 n] w fun e w' => e = .returned (.tuple #[.agg #[.slice none 0 0, .int .i64 0, .int .i64 0, .slice none 0 0, .slice none 0 0, .int .i64 0, .slice none 0 0], .int .i64 5]) ∧ Below w.heap.size w w' := by
  have e0 : decide (n < 1) = false := decide_eq_false (by omega)
  have e1 : decide (64 < n) = true := decide_eq_true (by omega)
  go_enter Tryz.func109, Tryz.ntmps109
  go_wp2_with fail
  have E := blk_new w (.cells #[.slice none 0 0, .int .i64 0, .int .i64 0, .slice none 0 0, .slice none 0 0, .int .i64 0, .slice none 0 0] 114)
  obtain ⟨r0, r1, r2, r3, r4, r5, r6⟩ := cells7 E
  exact bodyPost_ret (v := .tuple #[.agg #[.slice none 0 0, .int .i64 0, .int .i64 0, .slice none 0 0, .slice none 0 0, .int .i64 0, .slice none 0 0], .int .i64 5]) (by simp [results, Tryz.results109, go_sem, *]) rfl ⟨rfl, below_alloc (Below.refl _ _) _⟩
set_option maxHeartbeats 4000000 in
set_option maxRecDepth 100000 in
theorem k42_bad0 (n : Int) (w : World) (h : n < 1) :
    Calls Tryz.prog 110 #[.int .i64 n] w fun e w' => e = .returned (.tuple #[.agg #[.slice none 0 0, .int .i64 0, .int .i64 0, .slice none 0 0, .slice none 0 0, .int .i64 0, .slice none 0 0], .int .i64 5]) ∧ Below w.heap.size w w' := by
  have e0 : decide (n < 1) = true := decide_eq_true (by omega)
  go_enter Tryz.func110, Tryz.ntmps110
  go_wp2_with fail
  have E := blk_new w (.cells #[.slice none 0 0, .int .i64 0, .int .i64 0, .slice none 0 0, .slice none 0 0, .int .i64 0, .slice none 0 0] 114)
  obtain ⟨r0, r1, r2, r3, r4, r5, r6⟩ := cells7 E
  exact bodyPost_ret (v := .tuple #[.agg #[.slice none 0 0, .int .i64 0, .int .i64 0, .slice none 0 0, .slice none 0 0, .int .i64 0, .slice none 0 0], .int .i64 5]) (by simp [results, Tryz.results110, go_sem, *]) rfl ⟨rfl, below_alloc (Below.refl _ _) _⟩
set_option maxHeartbeats 4000000 in
set_option maxRecDepth 100000 in
theorem k42_bad1 (n : Int) (w : World) (h : 64 < n) :
    Calls Tryz.prog 110 #[.int .i64 n] w fun e w' => e = .returned (.tuple #[.agg #[.slice none 0 0, .int .i64 0, .int .i64 0, .slice none 0 0, .slice none 0 0, .int .i64 0, .slice none 0 0], .int .i64 5]) ∧ Below w.heap.size w w' := by
  have e0 : decide (n < 1) = false := decide_eq_false (by omega)
  have e1 : decide (64 < n) = true := decide_eq_true (by omega)
  go_enter Tryz.func110, Tryz.ntmps110
  go_wp2_with fail
  have E := blk_new w (.cells #[.slice none 0 0, .int .i64 0, .int .i64 0, .slice none 0 0, .slice none 0 0, .int .i64 0, .slice none 0 0] 114)
  obtain ⟨r0, r1, r2, r3, r4, r5, r6⟩ := cells7 E
  exact bodyPost_ret (v := .tuple #[.agg #[.slice none 0 0, .int .i64 0, .int .i64 0, .slice none 0 0, .slice none 0 0, .int .i64 0, .slice none 0 0], .int .i64 5]) (by simp [results, Tryz.results110, go_sem, *]) rfl ⟨rfl, below_alloc (Below.refl _ _) _⟩
set_option maxHeartbeats 4000000 in
set_option maxRecDepth 100000 in
theorem ticket_bad0 (n s : Int) (w : World) (h : n < 1) :
    Calls Tryz.prog 105 #[.int .i64 n, .int .u32 s] w fun e w' => e = .returned (.tuple #[.agg #[.slice none 0 0, .int .i64 0, .int .i64 0, .slice none 0 0, .slice none 0 0, .int .i64 0, .slice none 0 0], .int .i64 5]) ∧ Below w.heap.size w w' := by
  have e0 : decide (n < 1) = true := decide_eq_true (by omega)
  go_enter Tryz.func105, Tryz.ntmps105
  go_wp2_with fail
  have E := blk_new w (.cells #[.slice none 0 0, .int .i64 0, .int .i64 0, .slice none 0 0, .slice none 0 0, .int .i64 0, .slice none 0 0] 114)
  obtain ⟨r0, r1, r2, r3, r4, r5, r6⟩ := cells7 E
  exact bodyPost_ret (v := .tuple #[.agg #[.slice none 0 0, .int .i64 0, .int .i64 0, .slice none 0 0, .slice none 0 0, .int .i64 0, .slice none 0 0], .int .i64 5]) (by simp [results, Tryz.results105, go_sem, *]) rfl ⟨rfl, below_alloc (Below.refl _ _) _⟩
set_option maxHeartbeats 4000000 in
set_option maxRecDepth 100000 in
theorem ticket_bad1 (n s : Int) (w : World) (h : 64 < n) :
    Calls Tryz.prog 105 #[.int .i64 n, .int .u32 s] w fun e w' => e = .returned (.tuple #[.agg #[.slice none 0 0, .int .i64 0, .int .i64 0, .slice none 0 0, .slice none 0 0, .int .i64 0, .slice none 0 0], .int .i64 5]) ∧ Below w.heap.size w w' := by
  have e0 : decide (n < 1) = false := decide_eq_false (by omega)
  have e1 : decide (64 < n) = true := decide_eq_true (by omega)
  go_enter Tryz.func105, Tryz.ntmps105
  go_wp2_with fail
  have E := blk_new w (.cells #[.slice none 0 0, .int .i64 0, .int .i64 0, .slice none 0 0, .slice none 0 0, .int .i64 0, .slice none 0 0] 114)
  obtain ⟨r0, r1, r2, r3, r4, r5, r6⟩ := cells7 E
  exact bodyPost_ret (v := .tuple #[.agg #[.slice none 0 0, .int .i64 0, .int .i64 0, .slice none 0 0, .slice none 0 0, .int .i64 0, .slice none 0 0], .int .i64 5]) (by simp [results, Tryz.results105, go_sem, *]) rfl ⟨rfl, below_alloc (Below.refl _ _) _⟩
set_option maxHeartbeats 4000000 in
set_option maxRecDepth 100000 in
theorem clhtry_bad0 (n c : Int) (w : World) (h : n < 1) :
    Calls Tryz.prog 111 #[.int .i64 n, .int .i64 c] w fun e w' => e = .returned (.tuple #[.agg #[.slice none 0 0, .int .i64 0, .int .i64 0, .slice none 0 0, .slice none 0 0, .int .i64 0, .slice none 0 0], .int .i64 5]) ∧ Below w.heap.size w w' := by
  have e0 : decide (n < 1) = true := decide_eq_true (by omega)
  go_enter Tryz.func111, Tryz.ntmps111
  go_wp2_with fail
  have E := blk_new w (.cells #[.slice none 0 0, .int .i64 0, .int .i64 0, .slice none 0 0, .slice none 0 0, .int .i64 0, .slice none 0 0] 114)
  obtain ⟨r0, r1, r2, r3, r4, r5, r6⟩ := cells7 E
  exact bodyPost_ret (v := .tuple #[.agg #[.slice none 0 0, .int .i64 0, .int .i64 0, .slice none 0 0, .slice none 0 0, .int .i64 0, .slice none 0 0], .int .i64 5]) (by simp [results, Tryz.results111, go_sem, *]) rfl ⟨rfl, below_alloc (Below.refl _ _) _⟩
set_option maxHeartbeats 4000000 in
set_option maxRecDepth 100000 in
theorem clhtry_bad1 (n c : Int) (w : World) (h : 64 < n) :
    Calls Tryz.prog 111 #[.int .i64 n, .int .i64 c] w fun e w' => e = .returned (.tuple #[.agg #[.slice none 0 0, .int .i64 0, .int .i64 0, .slice none 0 0, .slice none 0 0, .int .i64 0, .slice none 0 0], .int .i64 5]) ∧ Below w.heap.size w w' := by
  have e0 : decide (n < 1) = false := decide_eq_false (by omega)
  have e1 : decide (64 < n) = true := decide_eq_true (by omega)
  go_enter Tryz.func111, Tryz.ntmps111
  go_wp2_with fail
  have E := blk_new w (.cells #[.slice none 0 0, .int .i64 0, .int .i64 0, .slice none 0 0, .slice none 0 0, .int .i64 0, .slice none 0 0] 114)
  obtain ⟨r0, r1, r2, r3, r4, r5, r6⟩ := cells7 E
  exact bodyPost_ret (v := .tuple #[.agg #[.slice none 0 0, .int .i64 0, .int .i64 0, .slice none 0 0, .slice none 0 0, .int .i64 0, .slice none 0 0], .int .i64 5]) (by simp [results, Tryz.results111, go_sem, *]) rfl ⟨rfl, below_alloc (Below.refl _ _) _⟩
set_option maxHeartbeats 4000000 in
set_option maxRecDepth 100000 in
theorem clhtry_bad2 (n c : Int) (w : World) (h0 : 1 ≤ n) (h1 : n ≤ 64) (h : c < 2) :
    Calls Tryz.prog 111 #[.int .i64 n, .int .i64 c] w fun e w' => e = .returned (.tuple #[.agg #[.slice none 0 0, .int .i64 0, .int .i64 0, .slice none 0 0, .slice none 0 0, .int .i64 0, .slice none 0 0], .int .i64 5]) ∧ Below w.heap.size w w' := by
  have e0 : decide (n < 1) = false := decide_eq_false (by omega)
  have e1 : decide (64 < n) = false := decide_eq_false (by omega)
  have e2 : decide (c < 2) = true := decide_eq_true (by omega)
  go_enter Tryz.func111, Tryz.ntmps111
  go_wp2_with fail
  have E := blk_new w (.cells #[.slice none 0 0, .int .i64 0, .int .i64 0, .slice none 0 0, .slice none 0 0, .int .i64 0, .slice none 0 0] 114)
  obtain ⟨r0, r1, r2, r3, r4, r5, r6⟩ := cells7 E
  exact bodyPost_ret (v := .tuple #[.agg #[.slice none 0 0, .int .i64 0, .int .i64 0, .slice none 0 0, .slice none 0 0, .int .i64 0, .slice none 0 0], .int .i64 5]) (by simp [results, Tryz.results111, go_sem, *]) rfl ⟨rfl, below_alloc (Below.refl _ _) _⟩
set_option maxHeartbeats 4000000 in
set_option maxRecDepth 100000 in
theorem clhtry_bad3 (n c : Int) (w : World) (h0 : 1 ≤ n) (h1 : n ≤ 64) (h : 8 < c) :
    Calls Tryz.prog 111 #[.int .i64 n, .int .i64 c] w fun e w' => e = .returned (.tuple #[.agg #[.slice none 0 0, .int .i64 0, .int .i64 0, .slice none 0 0, .slice none 0 0, .int .i64 0, .slice none 0 0], .int .i64 5]) ∧ Below w.heap.size w w' := by
  have e0 : decide (n < 1) = false := decide_eq_false (by omega)
  have e1 : decide (64 < n) = false := decide_eq_false (by omega)
  have e2 : decide (c < 2) = false := decide_eq_false (by omega)
  have e3 : decide (8 < c) = true := decide_eq_true (by omega)
  go_enter Tryz.func111, Tryz.ntmps111
  go_wp2_with fail
  have E := blk_new w (.cells #[.slice none 0 0, .int .i64 0, .int .i64 0, .slice none 0 0, .slice none 0 0, .int .i64 0, .slice none 0 0] 114)
  obtain ⟨r0, r1, r2, r3, r4, r5, r6⟩ := cells7 E
  exact bodyPost_ret (v := .tuple #[.agg #[.slice none 0 0, .int .i64 0, .int .i64 0, .slice none 0 0, .slice none 0 0, .int .i64 0, .slice none 0 0], .int .i64 5]) (by simp [results, Tryz.results111, go_sem, *]) rfl ⟨rfl, below_alloc (Below.refl _ _) _⟩
set_option maxHeartbeats 4000000 in
set_option maxRecDepth 100000 in
theorem mcstry_bad0 (n c : Int) (w : World) (h : n < 1) :
    Calls Tryz.prog 112 #[.int .i64 n, .int .i64 c] w fun e w' => e = .returned (.tuple #[.agg #[.slice none 0 0, .int .i64 0, .int .i64 0, .slice none 0 0, .slice none 0 0, .int .i64 0, .slice none 0 0], .int .i64 5]) ∧ Below w.heap.size w w' := by
  have e0 : decide (n < 1) = true := decide_eq_true (by omega)
  go_enter Tryz.func112, Tryz.ntmps112
  go_wp2_with fail
  have E := blk_new w (.cells #[.slice none 0 0, .int .i64 0, .int .i64 0, .slice none 0 0, .slice none 0 0, .int .i64 0, .slice none 0 0] 114)
  obtain ⟨r0, r1, r2, r3, r4, r5, r6⟩ := cells7 E
  exact bodyPost_ret (v := .tuple #[.agg #[.slice none 0 0, .int .i64 0, .int .i64 0, .slice none 0 0, .slice none 0 0, .int .i64 0, .slice none 0 0], .int .i64 5]) (by simp [results, Tryz.results112, go_sem, *]) rfl ⟨rfl, below_alloc (Below.refl _ _) _⟩
set_option maxHeartbeats 4000000 in
set_option maxRecDepth 100000 in
theorem mcstry_bad1 (n c : Int) (w : World) (h : 64 < n) :
    Calls Tryz.prog 112 #[.int .i64 n, .int .i64 c] w fun e w' => e = .returned (.tuple #[.agg #[.slice none 0 0, .int .i64 0, .int .i64 0, .slice none 0 0, .slice none 0 0, .int .i64 0, .slice none 0 0], .int .i64 5]) ∧ Below w.heap.size w w' := by
  have e0 : decide (n < 1) = false := decide_eq_false (by omega)
  have e1 : decide (64 < n) = true := decide_eq_true (by omega)
  go_enter Tryz.func112, Tryz.ntmps112
  go_wp2_with fail
  have E := blk_new w (.cells #[.slice none 0 0, .int .i64 0, .int .i64 0, .slice none 0 0, .slice none 0 0, .int .i64 0, .slice none 0 0] 114)
  obtain ⟨r0, r1, r2, r3, r4, r5, r6⟩ := cells7 E
  exact bodyPost_ret (v := .tuple #[.agg #[.slice none 0 0, .int .i64 0, .int .i64 0, .slice none 0 0, .slice none 0 0, .int .i64 0, .slice none 0 0], .int .i64 5]) (by simp [results, Tryz.results112, go_sem, *]) rfl ⟨rfl, below_alloc (Below.refl _ _) _⟩
set_option maxHeartbeats 4000000 in
set_option maxRecDepth 100000 in
theorem mcstry_bad2 (n c : Int) (w : World) (h0 : 1 ≤ n) (h1 : n ≤ 64) (h : c < 1) :
    Calls Tryz.prog 112 #[.int .i64 n, .int .i64 c] w fun e w' => e = .returned (.tuple #[.agg #[.slice none 0 0, .int .i64 0, .int .i64 0, .slice none 0 0, .slice none 0 0, .int .i64 0, .slice none 0 0], .int .i64 5]) ∧ Below w.heap.size w w' := by
  have e0 : decide (n < 1) = false := decide_eq_false (by omega)
  have e1 : decide (64 < n) = false := decide_eq_false (by omega)
  have e2 : decide (c < 1) = true := decide_eq_true (by omega)
  go_enter Tryz.func112, Tryz.ntmps112
  go_wp2_with fail
  have E := blk_new w (.cells #[.slice none 0 0, .int .i64 0, .int .i64 0, .slice none 0 0, .slice none 0 0, .int .i64 0, .slice none 0 0] 114)
  obtain ⟨r0, r1, r2, r3, r4, r5, r6⟩ := cells7 E
  exact bodyPost_ret (v := .tuple #[.agg #[.slice none 0 0, .int .i64 0, .int .i64 0, .slice none 0 0, .slice none 0 0, .int .i64 0, .slice none 0 0], .int .i64 5]) (by simp [results, Tryz.results112, go_sem, *]) rfl ⟨rfl, below_alloc (Below.refl _ _) _⟩
set_option maxHeartbeats 4000000 in
set_option maxRecDepth 100000 in
theorem mcstry_bad3 (n c : Int) (w : World) (h0 : 1 ≤ n) (h1 : n ≤ 64) (h : 8 < c) :
    Calls Tryz.prog 112 #[.int .i64 n, .int .i64 c] w fun e w' => e = .returned (.tuple #[.agg #[.slice none 0 0, .int .i64 0, .int .i64 0, .slice none 0 0, .slice none 0 0, .int .i64 0, .slice none 0 0], .int .i64 5]) ∧ Below w.heap.size w w' := by
  have e0 : decide (n < 1) = false := decide_eq_false (by omega)
  have e1 : decide (64 < n) = false := decide_eq_false (by omega)
  have e2 : decide (c < 1) = false := decide_eq_false (by omega)
  have e3 : decide (8 < c) = true := decide_eq_true (by omega)
  go_enter Tryz.func112, Tryz.ntmps112
  go_wp2_with fail
  have E := blk_new w (.cells #[.slice none 0 0, .int .i64 0, .int .i64 0, .slice none 0 0, .slice none 0 0, .int .i64 0, .slice none 0 0] 114)
  obtain ⟨r0, r1, r2, r3, r4, r5, r6⟩ := cells7 E
  exact bodyPost_ret (v := .tuple #[.agg #[.slice none 0 0, .int .i64 0, .int .i64 0, .slice none 0 0, .slice none 0 0, .int .i64 0, .slice none 0 0], .int .i64 5]) (by simp [results, Tryz.results112, go_sem, *]) rfl ⟨rfl, below_alloc (Below.refl _ _) _⟩
set_option maxHeartbeats 4000000 in
set_option maxRecDepth 100000 in
theorem anderson_bad0 (n t s : Int) (w : World) (h : n < 1) :
    Calls Tryz.prog 106 #[.int .i64 n, .int .i64 t, .int .u32 s] w fun e w' => e = .returned (.tuple #[.agg #[.slice none 0 0, .int .i64 0, .int .i64 0, .slice none 0 0, .slice none 0 0, .int .i64 0, .slice none 0 0], .int .i64 5]) ∧ Below w.heap.size w w' := by
  have e0 : decide (n < 1) = true := decide_eq_true (by omega)
  go_enter Tryz.func106, Tryz.ntmps106
  go_wp2_with fail
  have E := blk_new w (.cells #[.slice none 0 0, .int .i64 0, .int .i64 0, .slice none 0 0, .slice none 0 0, .int .i64 0, .slice none 0 0] 114)
  obtain ⟨r0, r1, r2, r3, r4, r5, r6⟩ := cells7 E
  exact bodyPost_ret (v := .tuple #[.agg #[.slice none 0 0, .int .i64 0, .int .i64 0, .slice none 0 0, .slice none 0 0, .int .i64 0, .slice none 0 0], .int .i64 5]) (by simp [results, Tryz.results106, go_sem, *]) rfl ⟨rfl, below_alloc (Below.refl _ _) _⟩
set_option maxHeartbeats 4000000 in
set_option maxRecDepth 100000 in
theorem anderson_bad1 (n t s : Int) (w : World) (h : 64 < n) :
    Calls Tryz.prog 106 #[.int .i64 n, .int .i64 t, .int .u32 s] w fun e w' => e = .returned (.tuple #[.agg #[.slice none 0 0, .int .i64 0, .int .i64 0, .slice none 0 0, .slice none 0 0, .int .i64 0, .slice none 0 0], .int .i64 5]) ∧ Below w.heap.size w w' := by
  have e0 : decide (n < 1) = false := decide_eq_false (by omega)
  have e1 : decide (64 < n) = true := decide_eq_true (by omega)
  go_enter Tryz.func106, Tryz.ntmps106
  go_wp2_with fail
  have E := blk_new w (.cells #[.slice none 0 0, .int .i64 0, .int .i64 0, .slice none 0 0, .slice none 0 0, .int .i64 0, .slice none 0 0] 114)
  obtain ⟨r0, r1, r2, r3, r4, r5, r6⟩ := cells7 E
  exact bodyPost_ret (v := .tuple #[.agg #[.slice none 0 0, .int .i64 0, .int .i64 0, .slice none 0 0, .slice none 0 0, .int .i64 0, .slice none 0 0], .int .i64 5]) (by simp [results, Tryz.results106, go_sem, *]) rfl ⟨rfl, below_alloc (Below.refl _ _) _⟩
set_option maxHeartbeats 4000000 in
set_option maxRecDepth 100000 in
theorem anderson_bad2 (n t s : Int) (w : World) (h0 : 1 ≤ n) (h1 : n ≤ 64) (h : t < n) :
    Calls Tryz.prog 106 #[.int .i64 n, .int .i64 t, .int .u32 s] w fun e w' => e = .returned (.tuple #[.agg #[.slice none 0 0, .int .i64 0, .int .i64 0, .slice none 0 0, .slice none 0 0, .int .i64 0, .slice none 0 0], .int .i64 5]) ∧ Below w.heap.size w w' := by
  have e0 : decide (n < 1) = false := decide_eq_false (by omega)
  have e1 : decide (64 < n) = false := decide_eq_false (by omega)
  have e2 : decide (t < n) = true := decide_eq_true (by omega)
  go_enter Tryz.func106, Tryz.ntmps106
  go_wp2_with fail
  have E := blk_new w (.cells #[.slice none 0 0, .int .i64 0, .int .i64 0, .slice none 0 0, .slice none 0 0, .int .i64 0, .slice none 0 0] 114)
  obtain ⟨r0, r1, r2, r3, r4, r5, r6⟩ := cells7 E
  exact bodyPost_ret (v := .tuple #[.agg #[.slice none 0 0, .int .i64 0, .int .i64 0, .slice none 0 0, .slice none 0 0, .int .i64 0, .slice none 0 0], .int .i64 5]) (by simp [results, Tryz.results106, go_sem, *]) rfl ⟨rfl, below_alloc (Below.refl _ _) _⟩
set_option maxHeartbeats 4000000 in
set_option maxRecDepth 100000 in
theorem anderson_bad3 (n t s : Int) (w : World) (h0 : 1 ≤ n) (h1 : n ≤ 64) (h2 : n ≤ t) (h : 64 < t) :
    Calls Tryz.prog 106 #[.int .i64 n, .int .i64 t, .int .u32 s] w fun e w' => e = .returned (.tuple #[.agg #[.slice none 0 0, .int .i64 0, .int .i64 0, .slice none 0 0, .slice none 0 0, .int .i64 0, .slice none 0 0], .int .i64 5]) ∧ Below w.heap.size w w' := by
  have e0 : decide (n < 1) = false := decide_eq_false (by omega)
  have e1 : decide (64 < n) = false := decide_eq_false (by omega)
  have e2 : decide (t < n) = false := decide_eq_false (by omega)
  have e3 : decide (64 < t) = true := decide_eq_true (by omega)
  go_enter Tryz.func106, Tryz.ntmps106
  go_wp2_with fail
  have E := blk_new w (.cells #[.slice none 0 0, .int .i64 0, .int .i64 0, .slice none 0 0, .slice none 0 0, .int .i64 0, .slice none 0 0] 114)
  obtain ⟨r0, r1, r2, r3, r4, r5, r6⟩ := cells7 E
  exact bodyPost_ret (v := .tuple #[.agg #[.slice none 0 0, .int .i64 0, .int .i64 0, .slice none 0 0, .slice none 0 0, .int .i64 0, .slice none 0 0], .int .i64 5]) (by simp [results, Tryz.results106, go_sem, *]) rfl ⟨rfl, below_alloc (Below.refl _ _) _⟩
set_option maxHeartbeats 4000000 in
set_option maxRecDepth 100000 in
theorem anderson_bad4 (n t s : Int) (w : World) (h0 : 1 ≤ n) (h1 : n ≤ 64) (h2 : n ≤ t) (h3 : t ≤ 64) (h : (Go.bits .and .i64 t (t - 1) != 0) = true) :
    Calls Tryz.prog 106 #[.int .i64 n, .int .i64 t, .int .u32 s] w fun e w' => e = .returned (.tuple #[.agg #[.slice none 0 0, .int .i64 0, .int .i64 0, .slice none 0 0, .slice none 0 0, .int .i64 0, .slice none 0 0], .int .i64 5]) ∧ Below w.heap.size w w' := by
  have e0 : decide (n < 1) = false := decide_eq_false (by omega)
  have e1 : decide (64 < n) = false := decide_eq_false (by omega)
  have e2 : decide (t < n) = false := decide_eq_false (by omega)
  have e3 : decide (64 < t) = false := decide_eq_false (by omega)
  go_enter Tryz.func106, Tryz.ntmps106
  go_wp2_with fail
  have E := blk_new w (.cells #[.slice none 0 0, .int .i64 0, .int .i64 0, .slice none 0 0, .slice none 0 0, .int .i64 0, .slice none 0 0] 114)
  obtain ⟨r0, r1, r2, r3, r4, r5, r6⟩ := cells7 E
  exact bodyPost_ret (v := .tuple #[.agg #[.slice none 0 0, .int .i64 0, .int .i64 0, .slice none 0 0, .slice none 0 0, .int .i64 0, .slice none 0 0], .int .i64 5]) (by simp [results, Tryz.results106, go_sem, *]) rfl ⟨rfl, below_alloc (Below.refl _ _) _⟩
end Go.Proofs.YtjopodnlffaogaaGreatDoor.Tp
end
