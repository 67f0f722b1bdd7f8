/- core.One: its ways, one by one. Conditions: registers that there are, a place that is no more than 2^40. -/
import Derived.Test.YtobjjmdaleoblaaCoSmall
namespace Go.Proofs.Ytobjjmdaleoblaa.Co
open Go.RowKit Go.Proofs.YtobjjmdaleoblaaW.PrintWords Go.Proofs.YtobjjmdaleoblaaW.PrintLast Go.Proofs.YtobjjmdaleoblaaW.PrintMore Go.Proofs.Ytobjjmdaleoblaa.PCoreRuns
attribute [local go_sem] max2_int min2_int max_two min_two max_three min_three max_four min_four
set_option linter.unusedVariables false
set_option linter.unusedSimpArgs false
def upd (d i v r : Int) : Int := if d = i then v else r
theorem set8 (d v : Int) (d0 : 0 ≤ d) (d1 : d < 8) (r0 r1 r2 r3 r4 r5 r6 r7 : Int) (x8 : Value) :
    #[Value.int .u32 r0, .int .u32 r1, .int .u32 r2, .int .u32 r3, .int .u32 r4, .int .u32 r5, .int .u32 r6, .int .u32 r7, x8].setIfInBounds d.toNat (.int .u32 v) = #[Value.int .u32 (upd d 0 v r0), Value.int .u32 (upd d 1 v r1), Value.int .u32 (upd d 2 v r2), Value.int .u32 (upd d 3 v r3), Value.int .u32 (upd d 4 v r4), Value.int .u32 (upd d 5 v r5), Value.int .u32 (upd d 6 v r6), Value.int .u32 (upd d 7 v r7), x8] := by
  have h : d = 0 ∨ d = 1 ∨ d = 2 ∨ d = 3 ∨ d = 4 ∨ d = 5 ∨ d = 6 ∨ d = 7 := by omega
  rcases h with rfl | rfl | rfl | rfl | rfl | rfl | rfl | rfl <;> simp [upd]
set_option maxHeartbeats 1000000 in
set_option maxRecDepth 100000 in
theorem mem_yes (op d s t u a k z : Int) (w : World) (h0 : decide (16 ≤ op) = true) (h1 : decide (op ≤ 23) = true) :
    Calls Try.prog 22 #[.agg #[.int .i64 op, .int .i64 d, .int .i64 s, .int .i64 t, .int .i64 u, .int .i64 a, .int .u32 k, .int .i64 z]] w fun e w' => e = .returned (.bool true) ∧ w' = w.alloc (.cells #[.int .i64 op, .int .i64 d, .int .i64 s, .int .i64 t, .int .i64 u, .int .i64 a, .int .u32 k, .int .i64 z] 27) := by
  go_enter Try.func22, Try.ntmps22
  go_wp2
  go_ret
  exact ⟨rfl, rfl⟩
set_option maxHeartbeats 1000000 in
set_option maxRecDepth 100000 in
theorem mem_no (op d s t u a k z : Int) (w : World) (h0 : decide (16 ≤ op) = false) :
    Calls Try.prog 22 #[.agg #[.int .i64 op, .int .i64 d, .int .i64 s, .int .i64 t, .int .i64 u, .int .i64 a, .int .u32 k, .int .i64 z]] w fun e w' => e = .returned (.bool false) ∧ w' = w.alloc (.cells #[.int .i64 op, .int .i64 d, .int .i64 s, .int .i64 t, .int .i64 u, .int .i64 a, .int .u32 k, .int .i64 z] 27) := by
  go_enter Try.func22, Try.ntmps22
  go_wp2
  go_ret
  exact ⟨rfl, rfl⟩

set_option maxHeartbeats 1000000 in
set_option maxRecDepth 100000 in
theorem one_1 (r0 r1 r2 r3 r4 r5 r6 r7 pc d s t u a k z self vs vt vd : Int) (w : World)
   (d0 : 0 ≤ d) (d1 : d < 8) (s0 : 0 ≤ s) (s1 : s < 8) (t0 : 0 ≤ t) (t1 : t < 8) (p0 : -9223372036854775808 ≤ pc) (p1 : pc ≤ 1099511627776)
   (hd : ∀ x8, #[Value.int .u32 r0, .int .u32 r1, .int .u32 r2, .int .u32 r3, .int .u32 r4, .int .u32 r5, .int .u32 r6, .int .u32 r7, x8][d.toNat]? = some (.int .u32 vd)) (hs : ∀ x8, #[Value.int .u32 r0, .int .u32 r1, .int .u32 r2, .int .u32 r3, .int .u32 r4, .int .u32 r5, .int .u32 r6, .int .u32 r7, x8][s.toNat]? = some (.int .u32 vs)) (ht : ∀ x8, #[Value.int .u32 r0, .int .u32 r1, .int .u32 r2, .int .u32 r3, .int .u32 r4, .int .u32 r5, .int .u32 r6, .int .u32 r7, x8][t.toNat]? = some (.int .u32 vt))
 :
    Calls Try.prog 12 #[.agg #[.int .u32 r0, .int .u32 r1, .int .u32 r2, .int .u32 r3, .int .u32 r4, .int .u32 r5, .int .u32 r6, .int .u32 r7, .int .i64 pc], .agg #[.int .i64 1, .int .i64 d, .int .i64 s, .int .i64 t, .int .i64 u, .int .i64 a, .int .u32 k, .int .i64 z], .int .i64 self] w fun e w' => e = .returned (.agg #[.int .u32 (upd d 0 (k) r0), .int .u32 (upd d 1 (k) r1), .int .u32 (upd d 2 (k) r2), .int .u32 (upd d 3 (k) r3), .int .u32 (upd d 4 (k) r4), .int .u32 (upd d 5 (k) r5), .int .u32 (upd d 6 (k) r6), .int .u32 (upd d 7 (k) r7), .int .i64 (pc + 1)]) ∧ Below w.heap.size w w' := by
  have hsd : ∀ (w : World) (n : Nat) (a : Addr) (v : Value), (w.drewN n).setCell a v = (w.setCell a v).drewN n := fun _ _ _ _ => rfl
  have hset : ∀ v x8, #[Value.int .u32 r0, .int .u32 r1, .int .u32 r2, .int .u32 r3, .int .u32 r4, .int .u32 r5, .int .u32 r6, .int .u32 r7, x8].setIfInBounds d.toNat (.int .u32 v) = #[Value.int .u32 (upd d 0 v r0), Value.int .u32 (upd d 1 v r1), Value.int .u32 (upd d 2 v r2), Value.int .u32 (upd d 3 v r3), Value.int .u32 (upd d 4 v r4), Value.int .u32 (upd d 5 v r5), Value.int .u32 (upd d 6 v r6), Value.int .u32 (upd d 7 v r7), x8] := fun v x8 => set8 d v d0 d1 _ _ _ _ _ _ _ _ x8
  go_enter Try.func12, Try.ntmps12
  go_wp2_with fail
  refine (mem_no 1 d s t u a k z _ rfl).mono ?_
  rintro e w' ⟨rfl, rfl⟩
  go_wp2
  go_quiet (fail)
  go_wp2
  exact bodyPost_ret (v := .agg #[.int .u32 (upd d 0 (k) r0), .int .u32 (upd d 1 (k) r1), .int .u32 (upd d 2 (k) r2), .int .u32 (upd d 3 (k) r3), .int .u32 (upd d 4 (k) r4), .int .u32 (upd d 5 (k) r5), .int .u32 (upd d 6 (k) r6), .int .u32 (upd d 7 (k) r7), .int .i64 (pc + 1)]) (by simp [results, Try.results12, go_sem]) rfl ⟨rfl, by repeat (first | exact Below.refl _ _ | apply below_alloc | apply pw_below_drewN)⟩
set_option maxHeartbeats 1000000 in
set_option maxRecDepth 100000 in
theorem one_2 (r0 r1 r2 r3 r4 r5 r6 r7 pc d s t u a k z self vs vt vd : Int) (w : World)
   (d0 : 0 ≤ d) (d1 : d < 8) (s0 : 0 ≤ s) (s1 : s < 8) (t0 : 0 ≤ t) (t1 : t < 8) (p0 : -9223372036854775808 ≤ pc) (p1 : pc ≤ 1099511627776)
   (hd : ∀ x8, #[Value.int .u32 r0, .int .u32 r1, .int .u32 r2, .int .u32 r3, .int .u32 r4, .int .u32 r5, .int .u32 r6, .int .u32 r7, x8][d.toNat]? = some (.int .u32 vd)) (hs : ∀ x8, #[Value.int .u32 r0, .int .u32 r1, .int .u32 r2, .int .u32 r3, .int .u32 r4, .int .u32 r5, .int .u32 r6, .int .u32 r7, x8][s.toNat]? = some (.int .u32 vs)) (ht : ∀ x8, #[Value.int .u32 r0, .int .u32 r1, .int .u32 r2, .int .u32 r3, .int .u32 r4, .int .u32 r5, .int .u32 r6, .int .u32 r7, x8][t.toNat]? = some (.int .u32 vt))
 :
    Calls Try.prog 12 #[.agg #[.int .u32 r0, .int .u32 r1, .int .u32 r2, .int .u32 r3, .int .u32 r4, .int .u32 r5, .int .u32 r6, .int .u32 r7, .int .i64 pc], .agg #[.int .i64 2, .int .i64 d, .int .i64 s, .int .i64 t, .int .i64 u, .int .i64 a, .int .u32 k, .int .i64 z], .int .i64 self] w fun e w' => e = .returned (.agg #[.int .u32 (upd d 0 (vs) r0), .int .u32 (upd d 1 (vs) r1), .int .u32 (upd d 2 (vs) r2), .int .u32 (upd d 3 (vs) r3), .int .u32 (upd d 4 (vs) r4), .int .u32 (upd d 5 (vs) r5), .int .u32 (upd d 6 (vs) r6), .int .u32 (upd d 7 (vs) r7), .int .i64 (pc + 1)]) ∧ Below w.heap.size w w' := by
  have hsd : ∀ (w : World) (n : Nat) (a : Addr) (v : Value), (w.drewN n).setCell a v = (w.setCell a v).drewN n := fun _ _ _ _ => rfl
  have hset : ∀ v x8, #[Value.int .u32 r0, .int .u32 r1, .int .u32 r2, .int .u32 r3, .int .u32 r4, .int .u32 r5, .int .u32 r6, .int .u32 r7, x8].setIfInBounds d.toNat (.int .u32 v) = #[Value.int .u32 (upd d 0 v r0), Value.int .u32 (upd d 1 v r1), Value.int .u32 (upd d 2 v r2), Value.int .u32 (upd d 3 v r3), Value.int .u32 (upd d 4 v r4), Value.int .u32 (upd d 5 v r5), Value.int .u32 (upd d 6 v r6), Value.int .u32 (upd d 7 v r7), x8] := fun v x8 => set8 d v d0 d1 _ _ _ _ _ _ _ _ x8
  go_enter Try.func12, Try.ntmps12
  go_wp2_with fail
  refine (mem_no 2 d s t u a k z _ rfl).mono ?_
  rintro e w' ⟨rfl, rfl⟩
  go_wp2
  go_quiet (fail)
  go_wp2
  exact bodyPost_ret (v := .agg #[.int .u32 (upd d 0 (vs) r0), .int .u32 (upd d 1 (vs) r1), .int .u32 (upd d 2 (vs) r2), .int .u32 (upd d 3 (vs) r3), .int .u32 (upd d 4 (vs) r4), .int .u32 (upd d 5 (vs) r5), .int .u32 (upd d 6 (vs) r6), .int .u32 (upd d 7 (vs) r7), .int .i64 (pc + 1)]) (by simp [results, Try.results12, go_sem]) rfl ⟨rfl, by repeat (first | exact Below.refl _ _ | apply below_alloc | apply pw_below_drewN)⟩
set_option maxHeartbeats 1000000 in
set_option maxRecDepth 100000 in
theorem one_3 (r0 r1 r2 r3 r4 r5 r6 r7 pc d s t u a k z self vs vt vd : Int) (w : World)
   (d0 : 0 ≤ d) (d1 : d < 8) (s0 : 0 ≤ s) (s1 : s < 8) (t0 : 0 ≤ t) (t1 : t < 8) (p0 : -9223372036854775808 ≤ pc) (p1 : pc ≤ 1099511627776)
   (hd : ∀ x8, #[Value.int .u32 r0, .int .u32 r1, .int .u32 r2, .int .u32 r3, .int .u32 r4, .int .u32 r5, .int .u32 r6, .int .u32 r7, x8][d.toNat]? = some (.int .u32 vd)) (hs : ∀ x8, #[Value.int .u32 r0, .int .u32 r1, .int .u32 r2, .int .u32 r3, .int .u32 r4, .int .u32 r5, .int .u32 r6, .int .u32 r7, x8][s.toNat]? = some (.int .u32 vs)) (ht : ∀ x8, #[Value.int .u32 r0, .int .u32 r1, .int .u32 r2, .int .u32 r3, .int .u32 r4, .int .u32 r5, .int .u32 r6, .int .u32 r7, x8][t.toNat]? = some (.int .u32 vt))
 :
    Calls Try.prog 12 #[.agg #[.int .u32 r0, .int .u32 r1, .int .u32 r2, .int .u32 r3, .int .u32 r4, .int .u32 r5, .int .u32 r6, .int .u32 r7, .int .i64 pc], .agg #[.int .i64 3, .int .i64 d, .int .i64 s, .int .i64 t, .int .i64 u, .int .i64 a, .int .u32 k, .int .i64 z], .int .i64 self] w fun e w' => e = .returned (.agg #[.int .u32 (upd d 0 ((vs + k) % 4294967296) r0), .int .u32 (upd d 1 ((vs + k) % 4294967296) r1), .int .u32 (upd d 2 ((vs + k) % 4294967296) r2), .int .u32 (upd d 3 ((vs + k) % 4294967296) r3), .int .u32 (upd d 4 ((vs + k) % 4294967296) r4), .int .u32 (upd d 5 ((vs + k) % 4294967296) r5), .int .u32 (upd d 6 ((vs + k) % 4294967296) r6), .int .u32 (upd d 7 ((vs + k) % 4294967296) r7), .int .i64 (pc + 1)]) ∧ Below w.heap.size w w' := by
  have hsd : ∀ (w : World) (n : Nat) (a : Addr) (v : Value), (w.drewN n).setCell a v = (w.setCell a v).drewN n := fun _ _ _ _ => rfl
  have hset : ∀ v x8, #[Value.int .u32 r0, .int .u32 r1, .int .u32 r2, .int .u32 r3, .int .u32 r4, .int .u32 r5, .int .u32 r6, .int .u32 r7, x8].setIfInBounds d.toNat (.int .u32 v) = #[Value.int .u32 (upd d 0 v r0), Value.int .u32 (upd d 1 v r1), Value.int .u32 (upd d 2 v r2), Value.int .u32 (upd d 3 v r3), Value.int .u32 (upd d 4 v r4), Value.int .u32 (upd d 5 v r5), Value.int .u32 (upd d 6 v r6), Value.int .u32 (upd d 7 v r7), x8] := fun v x8 => set8 d v d0 d1 _ _ _ _ _ _ _ _ x8
  go_enter Try.func12, Try.ntmps12
  go_wp2_with fail
  refine (mem_no 3 d s t u a k z _ rfl).mono ?_
  rintro e w' ⟨rfl, rfl⟩
  go_wp2
  go_quiet (fail)
  go_wp2
  exact bodyPost_ret (v := .agg #[.int .u32 (upd d 0 ((vs + k) % 4294967296) r0), .int .u32 (upd d 1 ((vs + k) % 4294967296) r1), .int .u32 (upd d 2 ((vs + k) % 4294967296) r2), .int .u32 (upd d 3 ((vs + k) % 4294967296) r3), .int .u32 (upd d 4 ((vs + k) % 4294967296) r4), .int .u32 (upd d 5 ((vs + k) % 4294967296) r5), .int .u32 (upd d 6 ((vs + k) % 4294967296) r6), .int .u32 (upd d 7 ((vs + k) % 4294967296) r7), .int .i64 (pc + 1)]) (by simp [results, Try.results12, go_sem]) rfl ⟨rfl, by repeat (first | exact Below.refl _ _ | apply below_alloc | apply pw_below_drewN)⟩
set_option maxHeartbeats 1000000 in
set_option maxRecDepth 100000 in
theorem one_4 (r0 r1 r2 r3 r4 r5 r6 r7 pc d s t u a k z self vs vt vd : Int) (w : World)
   (d0 : 0 ≤ d) (d1 : d < 8) (s0 : 0 ≤ s) (s1 : s < 8) (t0 : 0 ≤ t) (t1 : t < 8) (p0 : -9223372036854775808 ≤ pc) (p1 : pc ≤ 1099511627776)
   (hd : ∀ x8, #[Value.int .u32 r0, .int .u32 r1, .int .u32 r2, .int .u32 r3, .int .u32 r4, .int .u32 r5, .int .u32 r6, .int .u32 r7, x8][d.toNat]? = some (.int .u32 vd)) (hs : ∀ x8, #[Value.int .u32 r0, .int .u32 r1, .int .u32 r2, .int .u32 r3, .int .u32 r4, .int .u32 r5, .int .u32 r6, .int .u32 r7, x8][s.toNat]? = some (.int .u32 vs)) (ht : ∀ x8, #[Value.int .u32 r0, .int .u32 r1, .int .u32 r2, .int .u32 r3, .int .u32 r4, .int .u32 r5, .int .u32 r6, .int .u32 r7, x8][t.toNat]? = some (.int .u32 vt))
 :
    Calls Try.prog 12 #[.agg #[.int .u32 r0, .int .u32 r1, .int .u32 r2, .int .u32 r3, .int .u32 r4, .int .u32 r5, .int .u32 r6, .int .u32 r7, .int .i64 pc], .agg #[.int .i64 4, .int .i64 d, .int .i64 s, .int .i64 t, .int .i64 u, .int .i64 a, .int .u32 k, .int .i64 z], .int .i64 self] w fun e w' => e = .returned (.agg #[.int .u32 (upd d 0 (Go.bits .and .u32 vs k) r0), .int .u32 (upd d 1 (Go.bits .and .u32 vs k) r1), .int .u32 (upd d 2 (Go.bits .and .u32 vs k) r2), .int .u32 (upd d 3 (Go.bits .and .u32 vs k) r3), .int .u32 (upd d 4 (Go.bits .and .u32 vs k) r4), .int .u32 (upd d 5 (Go.bits .and .u32 vs k) r5), .int .u32 (upd d 6 (Go.bits .and .u32 vs k) r6), .int .u32 (upd d 7 (Go.bits .and .u32 vs k) r7), .int .i64 (pc + 1)]) ∧ Below w.heap.size w w' := by
  have hsd : ∀ (w : World) (n : Nat) (a : Addr) (v : Value), (w.drewN n).setCell a v = (w.setCell a v).drewN n := fun _ _ _ _ => rfl
  have hset : ∀ v x8, #[Value.int .u32 r0, .int .u32 r1, .int .u32 r2, .int .u32 r3, .int .u32 r4, .int .u32 r5, .int .u32 r6, .int .u32 r7, x8].setIfInBounds d.toNat (.int .u32 v) = #[Value.int .u32 (upd d 0 v r0), Value.int .u32 (upd d 1 v r1), Value.int .u32 (upd d 2 v r2), Value.int .u32 (upd d 3 v r3), Value.int .u32 (upd d 4 v r4), Value.int .u32 (upd d 5 v r5), Value.int .u32 (upd d 6 v r6), Value.int .u32 (upd d 7 v r7), x8] := fun v x8 => set8 d v d0 d1 _ _ _ _ _ _ _ _ x8
  go_enter Try.func12, Try.ntmps12
  go_wp2_with fail
  refine (mem_no 4 d s t u a k z _ rfl).mono ?_
  rintro e w' ⟨rfl, rfl⟩
  go_wp2
  go_quiet (fail)
  go_wp2
  exact bodyPost_ret (v := .agg #[.int .u32 (upd d 0 (Go.bits .and .u32 vs k) r0), .int .u32 (upd d 1 (Go.bits .and .u32 vs k) r1), .int .u32 (upd d 2 (Go.bits .and .u32 vs k) r2), .int .u32 (upd d 3 (Go.bits .and .u32 vs k) r3), .int .u32 (upd d 4 (Go.bits .and .u32 vs k) r4), .int .u32 (upd d 5 (Go.bits .and .u32 vs k) r5), .int .u32 (upd d 6 (Go.bits .and .u32 vs k) r6), .int .u32 (upd d 7 (Go.bits .and .u32 vs k) r7), .int .i64 (pc + 1)]) (by simp [results, Try.results12, go_sem]) rfl ⟨rfl, by repeat (first | exact Below.refl _ _ | apply below_alloc | apply pw_below_drewN)⟩
set_option maxHeartbeats 1000000 in
set_option maxRecDepth 100000 in
theorem one_5 (r0 r1 r2 r3 r4 r5 r6 r7 pc d s t u a k z self vs vt vd : Int) (w : World)
   (d0 : 0 ≤ d) (d1 : d < 8) (s0 : 0 ≤ s) (s1 : s < 8) (t0 : 0 ≤ t) (t1 : t < 8) (p0 : -9223372036854775808 ≤ pc) (p1 : pc ≤ 1099511627776)
   (hd : ∀ x8, #[Value.int .u32 r0, .int .u32 r1, .int .u32 r2, .int .u32 r3, .int .u32 r4, .int .u32 r5, .int .u32 r6, .int .u32 r7, x8][d.toNat]? = some (.int .u32 vd)) (hs : ∀ x8, #[Value.int .u32 r0, .int .u32 r1, .int .u32 r2, .int .u32 r3, .int .u32 r4, .int .u32 r5, .int .u32 r6, .int .u32 r7, x8][s.toNat]? = some (.int .u32 vs)) (ht : ∀ x8, #[Value.int .u32 r0, .int .u32 r1, .int .u32 r2, .int .u32 r3, .int .u32 r4, .int .u32 r5, .int .u32 r6, .int .u32 r7, x8][t.toNat]? = some (.int .u32 vt))
   (k0 : 0 ≤ k) (k1 : k ≤ 31) (v0 : 0 ≤ vs) (v1 : vs < 4294967296) :
    Calls Try.prog 12 #[.agg #[.int .u32 r0, .int .u32 r1, .int .u32 r2, .int .u32 r3, .int .u32 r4, .int .u32 r5, .int .u32 r6, .int .u32 r7, .int .i64 pc], .agg #[.int .i64 5, .int .i64 d, .int .i64 s, .int .i64 t, .int .i64 u, .int .i64 a, .int .u32 k, .int .i64 z], .int .i64 self] w fun e w' => e = .returned (.agg #[.int .u32 (upd d 0 (vs * 2 ^ k.toNat % 4294967296) r0), .int .u32 (upd d 1 (vs * 2 ^ k.toNat % 4294967296) r1), .int .u32 (upd d 2 (vs * 2 ^ k.toNat % 4294967296) r2), .int .u32 (upd d 3 (vs * 2 ^ k.toNat % 4294967296) r3), .int .u32 (upd d 4 (vs * 2 ^ k.toNat % 4294967296) r4), .int .u32 (upd d 5 (vs * 2 ^ k.toNat % 4294967296) r5), .int .u32 (upd d 6 (vs * 2 ^ k.toNat % 4294967296) r6), .int .u32 (upd d 7 (vs * 2 ^ k.toNat % 4294967296) r7), .int .i64 (pc + 1)]) ∧ Below w.heap.size w w' := by
  have hsd : ∀ (w : World) (n : Nat) (a : Addr) (v : Value), (w.drewN n).setCell a v = (w.setCell a v).drewN n := fun _ _ _ _ => rfl
  have hset : ∀ v x8, #[Value.int .u32 r0, .int .u32 r1, .int .u32 r2, .int .u32 r3, .int .u32 r4, .int .u32 r5, .int .u32 r6, .int .u32 r7, x8].setIfInBounds d.toNat (.int .u32 v) = #[Value.int .u32 (upd d 0 v r0), Value.int .u32 (upd d 1 v r1), Value.int .u32 (upd d 2 v r2), Value.int .u32 (upd d 3 v r3), Value.int .u32 (upd d 4 v r4), Value.int .u32 (upd d 5 v r5), Value.int .u32 (upd d 6 v r6), Value.int .u32 (upd d 7 v r7), x8] := fun v x8 => set8 d v d0 d1 _ _ _ _ _ _ _ _ x8
  go_enter Try.func12, Try.ntmps12
  go_wp2_with fail
  refine (mem_no 5 d s t u a k z _ rfl).mono ?_
  rintro e w' ⟨rfl, rfl⟩
  go_wp2
  go_quiet (fail)
  go_wp2
  exact bodyPost_ret (v := .agg #[.int .u32 (upd d 0 (vs * 2 ^ k.toNat % 4294967296) r0), .int .u32 (upd d 1 (vs * 2 ^ k.toNat % 4294967296) r1), .int .u32 (upd d 2 (vs * 2 ^ k.toNat % 4294967296) r2), .int .u32 (upd d 3 (vs * 2 ^ k.toNat % 4294967296) r3), .int .u32 (upd d 4 (vs * 2 ^ k.toNat % 4294967296) r4), .int .u32 (upd d 5 (vs * 2 ^ k.toNat % 4294967296) r5), .int .u32 (upd d 6 (vs * 2 ^ k.toNat % 4294967296) r6), .int .u32 (upd d 7 (vs * 2 ^ k.toNat % 4294967296) r7), .int .i64 (pc + 1)]) (by simp [results, Try.results12, go_sem]) rfl ⟨rfl, by repeat (first | exact Below.refl _ _ | apply below_alloc | apply pw_below_drewN)⟩
set_option maxHeartbeats 1000000 in
set_option maxRecDepth 100000 in
theorem one_6 (r0 r1 r2 r3 r4 r5 r6 r7 pc d s t u a k z self vs vt vd : Int) (w : World)
   (d0 : 0 ≤ d) (d1 : d < 8) (s0 : 0 ≤ s) (s1 : s < 8) (t0 : 0 ≤ t) (t1 : t < 8) (p0 : -9223372036854775808 ≤ pc) (p1 : pc ≤ 1099511627776)
   (hd : ∀ x8, #[Value.int .u32 r0, .int .u32 r1, .int .u32 r2, .int .u32 r3, .int .u32 r4, .int .u32 r5, .int .u32 r6, .int .u32 r7, x8][d.toNat]? = some (.int .u32 vd)) (hs : ∀ x8, #[Value.int .u32 r0, .int .u32 r1, .int .u32 r2, .int .u32 r3, .int .u32 r4, .int .u32 r5, .int .u32 r6, .int .u32 r7, x8][s.toNat]? = some (.int .u32 vs)) (ht : ∀ x8, #[Value.int .u32 r0, .int .u32 r1, .int .u32 r2, .int .u32 r3, .int .u32 r4, .int .u32 r5, .int .u32 r6, .int .u32 r7, x8][t.toNat]? = some (.int .u32 vt))
   (k0 : 0 ≤ k) (k1 : k ≤ 31) (v0 : 0 ≤ vs) (v1 : vs < 4294967296) :
    Calls Try.prog 12 #[.agg #[.int .u32 r0, .int .u32 r1, .int .u32 r2, .int .u32 r3, .int .u32 r4, .int .u32 r5, .int .u32 r6, .int .u32 r7, .int .i64 pc], .agg #[.int .i64 6, .int .i64 d, .int .i64 s, .int .i64 t, .int .i64 u, .int .i64 a, .int .u32 k, .int .i64 z], .int .i64 self] w fun e w' => e = .returned (.agg #[.int .u32 (upd d 0 (vs / 2 ^ k.toNat) r0), .int .u32 (upd d 1 (vs / 2 ^ k.toNat) r1), .int .u32 (upd d 2 (vs / 2 ^ k.toNat) r2), .int .u32 (upd d 3 (vs / 2 ^ k.toNat) r3), .int .u32 (upd d 4 (vs / 2 ^ k.toNat) r4), .int .u32 (upd d 5 (vs / 2 ^ k.toNat) r5), .int .u32 (upd d 6 (vs / 2 ^ k.toNat) r6), .int .u32 (upd d 7 (vs / 2 ^ k.toNat) r7), .int .i64 (pc + 1)]) ∧ Below w.heap.size w w' := by
  have hsd : ∀ (w : World) (n : Nat) (a : Addr) (v : Value), (w.drewN n).setCell a v = (w.setCell a v).drewN n := fun _ _ _ _ => rfl
  have hset : ∀ v x8, #[Value.int .u32 r0, .int .u32 r1, .int .u32 r2, .int .u32 r3, .int .u32 r4, .int .u32 r5, .int .u32 r6, .int .u32 r7, x8].setIfInBounds d.toNat (.int .u32 v) = #[Value.int .u32 (upd d 0 v r0), Value.int .u32 (upd d 1 v r1), Value.int .u32 (upd d 2 v r2), Value.int .u32 (upd d 3 v r3), Value.int .u32 (upd d 4 v r4), Value.int .u32 (upd d 5 v r5), Value.int .u32 (upd d 6 v r6), Value.int .u32 (upd d 7 v r7), x8] := fun v x8 => set8 d v d0 d1 _ _ _ _ _ _ _ _ x8
  go_enter Try.func12, Try.ntmps12
  go_wp2_with fail
  refine (mem_no 6 d s t u a k z _ rfl).mono ?_
  rintro e w' ⟨rfl, rfl⟩
  go_wp2
  go_quiet (fail)
  go_wp2
  exact bodyPost_ret (v := .agg #[.int .u32 (upd d 0 (vs / 2 ^ k.toNat) r0), .int .u32 (upd d 1 (vs / 2 ^ k.toNat) r1), .int .u32 (upd d 2 (vs / 2 ^ k.toNat) r2), .int .u32 (upd d 3 (vs / 2 ^ k.toNat) r3), .int .u32 (upd d 4 (vs / 2 ^ k.toNat) r4), .int .u32 (upd d 5 (vs / 2 ^ k.toNat) r5), .int .u32 (upd d 6 (vs / 2 ^ k.toNat) r6), .int .u32 (upd d 7 (vs / 2 ^ k.toNat) r7), .int .i64 (pc + 1)]) (by simp [results, Try.results12, go_sem]) rfl ⟨rfl, by repeat (first | exact Below.refl _ _ | apply below_alloc | apply pw_below_drewN)⟩
set_option maxHeartbeats 1000000 in
set_option maxRecDepth 100000 in
theorem one_7 (r0 r1 r2 r3 r4 r5 r6 r7 pc d s t u a k z self vs vt vd : Int) (w : World)
   (d0 : 0 ≤ d) (d1 : d < 8) (s0 : 0 ≤ s) (s1 : s < 8) (t0 : 0 ≤ t) (t1 : t < 8) (p0 : -9223372036854775808 ≤ pc) (p1 : pc ≤ 1099511627776)
   (hd : ∀ x8, #[Value.int .u32 r0, .int .u32 r1, .int .u32 r2, .int .u32 r3, .int .u32 r4, .int .u32 r5, .int .u32 r6, .int .u32 r7, x8][d.toNat]? = some (.int .u32 vd)) (hs : ∀ x8, #[Value.int .u32 r0, .int .u32 r1, .int .u32 r2, .int .u32 r3, .int .u32 r4, .int .u32 r5, .int .u32 r6, .int .u32 r7, x8][s.toNat]? = some (.int .u32 vs)) (ht : ∀ x8, #[Value.int .u32 r0, .int .u32 r1, .int .u32 r2, .int .u32 r3, .int .u32 r4, .int .u32 r5, .int .u32 r6, .int .u32 r7, x8][t.toNat]? = some (.int .u32 vt))
 :
    Calls Try.prog 12 #[.agg #[.int .u32 r0, .int .u32 r1, .int .u32 r2, .int .u32 r3, .int .u32 r4, .int .u32 r5, .int .u32 r6, .int .u32 r7, .int .i64 pc], .agg #[.int .i64 7, .int .i64 d, .int .i64 s, .int .i64 t, .int .i64 u, .int .i64 a, .int .u32 k, .int .i64 z], .int .i64 self] w fun e w' => e = .returned (.agg #[.int .u32 (upd d 0 (Go.bits .or .u32 vs vt) r0), .int .u32 (upd d 1 (Go.bits .or .u32 vs vt) r1), .int .u32 (upd d 2 (Go.bits .or .u32 vs vt) r2), .int .u32 (upd d 3 (Go.bits .or .u32 vs vt) r3), .int .u32 (upd d 4 (Go.bits .or .u32 vs vt) r4), .int .u32 (upd d 5 (Go.bits .or .u32 vs vt) r5), .int .u32 (upd d 6 (Go.bits .or .u32 vs vt) r6), .int .u32 (upd d 7 (Go.bits .or .u32 vs vt) r7), .int .i64 (pc + 1)]) ∧ Below w.heap.size w w' := by
  have hsd : ∀ (w : World) (n : Nat) (a : Addr) (v : Value), (w.drewN n).setCell a v = (w.setCell a v).drewN n := fun _ _ _ _ => rfl
  have hset : ∀ v x8, #[Value.int .u32 r0, .int .u32 r1, .int .u32 r2, .int .u32 r3, .int .u32 r4, .int .u32 r5, .int .u32 r6, .int .u32 r7, x8].setIfInBounds d.toNat (.int .u32 v) = #[Value.int .u32 (upd d 0 v r0), Value.int .u32 (upd d 1 v r1), Value.int .u32 (upd d 2 v r2), Value.int .u32 (upd d 3 v r3), Value.int .u32 (upd d 4 v r4), Value.int .u32 (upd d 5 v r5), Value.int .u32 (upd d 6 v r6), Value.int .u32 (upd d 7 v r7), x8] := fun v x8 => set8 d v d0 d1 _ _ _ _ _ _ _ _ x8
  go_enter Try.func12, Try.ntmps12
  go_wp2_with fail
  refine (mem_no 7 d s t u a k z _ rfl).mono ?_
  rintro e w' ⟨rfl, rfl⟩
  go_wp2
  go_quiet (fail)
  go_wp2
  exact bodyPost_ret (v := .agg #[.int .u32 (upd d 0 (Go.bits .or .u32 vs vt) r0), .int .u32 (upd d 1 (Go.bits .or .u32 vs vt) r1), .int .u32 (upd d 2 (Go.bits .or .u32 vs vt) r2), .int .u32 (upd d 3 (Go.bits .or .u32 vs vt) r3), .int .u32 (upd d 4 (Go.bits .or .u32 vs vt) r4), .int .u32 (upd d 5 (Go.bits .or .u32 vs vt) r5), .int .u32 (upd d 6 (Go.bits .or .u32 vs vt) r6), .int .u32 (upd d 7 (Go.bits .or .u32 vs vt) r7), .int .i64 (pc + 1)]) (by simp [results, Try.results12, go_sem]) rfl ⟨rfl, by repeat (first | exact Below.refl _ _ | apply below_alloc | apply pw_below_drewN)⟩
set_option maxHeartbeats 1000000 in
set_option maxRecDepth 100000 in
theorem one_11 (r0 r1 r2 r3 r4 r5 r6 r7 pc d s t u a k z self vs vt vd : Int) (w : World)
   (d0 : 0 ≤ d) (d1 : d < 8) (s0 : 0 ≤ s) (s1 : s < 8) (t0 : 0 ≤ t) (t1 : t < 8) (p0 : -9223372036854775808 ≤ pc) (p1 : pc ≤ 1099511627776)
   (hd : ∀ x8, #[Value.int .u32 r0, .int .u32 r1, .int .u32 r2, .int .u32 r3, .int .u32 r4, .int .u32 r5, .int .u32 r6, .int .u32 r7, x8][d.toNat]? = some (.int .u32 vd)) (hs : ∀ x8, #[Value.int .u32 r0, .int .u32 r1, .int .u32 r2, .int .u32 r3, .int .u32 r4, .int .u32 r5, .int .u32 r6, .int .u32 r7, x8][s.toNat]? = some (.int .u32 vs)) (ht : ∀ x8, #[Value.int .u32 r0, .int .u32 r1, .int .u32 r2, .int .u32 r3, .int .u32 r4, .int .u32 r5, .int .u32 r6, .int .u32 r7, x8][t.toNat]? = some (.int .u32 vt))
   (k0 : 0 ≤ self) (k1 : self < 64) :
    Calls Try.prog 12 #[.agg #[.int .u32 r0, .int .u32 r1, .int .u32 r2, .int .u32 r3, .int .u32 r4, .int .u32 r5, .int .u32 r6, .int .u32 r7, .int .i64 pc], .agg #[.int .i64 11, .int .i64 d, .int .i64 s, .int .i64 t, .int .i64 u, .int .i64 a, .int .u32 k, .int .i64 z], .int .i64 self] w fun e w' => e = .returned (.agg #[.int .u32 (upd d 0 (self) r0), .int .u32 (upd d 1 (self) r1), .int .u32 (upd d 2 (self) r2), .int .u32 (upd d 3 (self) r3), .int .u32 (upd d 4 (self) r4), .int .u32 (upd d 5 (self) r5), .int .u32 (upd d 6 (self) r6), .int .u32 (upd d 7 (self) r7), .int .i64 (pc + 1)]) ∧ Below w.heap.size w w' := by
  have hsd : ∀ (w : World) (n : Nat) (a : Addr) (v : Value), (w.drewN n).setCell a v = (w.setCell a v).drewN n := fun _ _ _ _ => rfl
  have hset : ∀ v x8, #[Value.int .u32 r0, .int .u32 r1, .int .u32 r2, .int .u32 r3, .int .u32 r4, .int .u32 r5, .int .u32 r6, .int .u32 r7, x8].setIfInBounds d.toNat (.int .u32 v) = #[Value.int .u32 (upd d 0 v r0), Value.int .u32 (upd d 1 v r1), Value.int .u32 (upd d 2 v r2), Value.int .u32 (upd d 3 v r3), Value.int .u32 (upd d 4 v r4), Value.int .u32 (upd d 5 v r5), Value.int .u32 (upd d 6 v r6), Value.int .u32 (upd d 7 v r7), x8] := fun v x8 => set8 d v d0 d1 _ _ _ _ _ _ _ _ x8
  go_enter Try.func12, Try.ntmps12
  go_wp2_with fail
  refine (mem_no 11 d s t u a k z _ rfl).mono ?_
  rintro e w' ⟨rfl, rfl⟩
  go_wp2
  go_quiet (fail)
  go_wp2
  exact bodyPost_ret (v := .agg #[.int .u32 (upd d 0 (self) r0), .int .u32 (upd d 1 (self) r1), .int .u32 (upd d 2 (self) r2), .int .u32 (upd d 3 (self) r3), .int .u32 (upd d 4 (self) r4), .int .u32 (upd d 5 (self) r5), .int .u32 (upd d 6 (self) r6), .int .u32 (upd d 7 (self) r7), .int .i64 (pc + 1)]) (by simp [results, Try.results12, go_sem]) rfl ⟨rfl, by repeat (first | exact Below.refl _ _ | apply below_alloc | apply pw_below_drewN)⟩
set_option maxHeartbeats 1000000 in
set_option maxRecDepth 100000 in
theorem one_8t (r0 r1 r2 r3 r4 r5 r6 r7 pc d s t u a k z self vs vt vd : Int) (w : World)
   (d0 : 0 ≤ d) (d1 : d < 8) (s0 : 0 ≤ s) (s1 : s < 8) (t0 : 0 ≤ t) (t1 : t < 8) (p0 : -9223372036854775808 ≤ pc) (p1 : pc ≤ 1099511627776)
   (hd : ∀ x8, #[Value.int .u32 r0, .int .u32 r1, .int .u32 r2, .int .u32 r3, .int .u32 r4, .int .u32 r5, .int .u32 r6, .int .u32 r7, x8][d.toNat]? = some (.int .u32 vd)) (hs : ∀ x8, #[Value.int .u32 r0, .int .u32 r1, .int .u32 r2, .int .u32 r3, .int .u32 r4, .int .u32 r5, .int .u32 r6, .int .u32 r7, x8][s.toNat]? = some (.int .u32 vs)) (ht : ∀ x8, #[Value.int .u32 r0, .int .u32 r1, .int .u32 r2, .int .u32 r3, .int .u32 r4, .int .u32 r5, .int .u32 r6, .int .u32 r7, x8][t.toNat]? = some (.int .u32 vt))
   (e : (vs == vt) = true) :
    Calls Try.prog 12 #[.agg #[.int .u32 r0, .int .u32 r1, .int .u32 r2, .int .u32 r3, .int .u32 r4, .int .u32 r5, .int .u32 r6, .int .u32 r7, .int .i64 pc], .agg #[.int .i64 8, .int .i64 d, .int .i64 s, .int .i64 t, .int .i64 u, .int .i64 a, .int .u32 k, .int .i64 z], .int .i64 self] w fun e w' => e = .returned (.agg #[.int .u32 r0, .int .u32 r1, .int .u32 r2, .int .u32 r3, .int .u32 r4, .int .u32 r5, .int .u32 r6, .int .u32 r7, .int .i64 (z)]) ∧ Below w.heap.size w w' := by
  have hsd : ∀ (w : World) (n : Nat) (a : Addr) (v : Value), (w.drewN n).setCell a v = (w.setCell a v).drewN n := fun _ _ _ _ => rfl
  go_enter Try.func12, Try.ntmps12
  go_wp2_with fail
  refine (mem_no 8 d s t u a k z _ rfl).mono ?_
  rintro e w' ⟨rfl, rfl⟩
  go_wp2
  go_quiet (fail)
  go_wp2
  exact bodyPost_ret (v := .agg #[.int .u32 r0, .int .u32 r1, .int .u32 r2, .int .u32 r3, .int .u32 r4, .int .u32 r5, .int .u32 r6, .int .u32 r7, .int .i64 (z)]) (by simp [results, Try.results12, go_sem]) rfl ⟨rfl, by repeat (first | exact Below.refl _ _ | apply below_alloc | apply pw_below_drewN)⟩
set_option maxHeartbeats 1000000 in
set_option maxRecDepth 100000 in
theorem one_8f (r0 r1 r2 r3 r4 r5 r6 r7 pc d s t u a k z self vs vt vd : Int) (w : World)
   (d0 : 0 ≤ d) (d1 : d < 8) (s0 : 0 ≤ s) (s1 : s < 8) (t0 : 0 ≤ t) (t1 : t < 8) (p0 : -9223372036854775808 ≤ pc) (p1 : pc ≤ 1099511627776)
   (hd : ∀ x8, #[Value.int .u32 r0, .int .u32 r1, .int .u32 r2, .int .u32 r3, .int .u32 r4, .int .u32 r5, .int .u32 r6, .int .u32 r7, x8][d.toNat]? = some (.int .u32 vd)) (hs : ∀ x8, #[Value.int .u32 r0, .int .u32 r1, .int .u32 r2, .int .u32 r3, .int .u32 r4, .int .u32 r5, .int .u32 r6, .int .u32 r7, x8][s.toNat]? = some (.int .u32 vs)) (ht : ∀ x8, #[Value.int .u32 r0, .int .u32 r1, .int .u32 r2, .int .u32 r3, .int .u32 r4, .int .u32 r5, .int .u32 r6, .int .u32 r7, x8][t.toNat]? = some (.int .u32 vt))
   (e : (vs == vt) = false) :
    Calls Try.prog 12 #[.agg #[.int .u32 r0, .int .u32 r1, .int .u32 r2, .int .u32 r3, .int .u32 r4, .int .u32 r5, .int .u32 r6, .int .u32 r7, .int .i64 pc], .agg #[.int .i64 8, .int .i64 d, .int .i64 s, .int .i64 t, .int .i64 u, .int .i64 a, .int .u32 k, .int .i64 z], .int .i64 self] w fun e w' => e = .returned (.agg #[.int .u32 r0, .int .u32 r1, .int .u32 r2, .int .u32 r3, .int .u32 r4, .int .u32 r5, .int .u32 r6, .int .u32 r7, .int .i64 (pc + 1)]) ∧ Below w.heap.size w w' := by
  have hsd : ∀ (w : World) (n : Nat) (a : Addr) (v : Value), (w.drewN n).setCell a v = (w.setCell a v).drewN n := fun _ _ _ _ => rfl
  go_enter Try.func12, Try.ntmps12
  go_wp2_with fail
  refine (mem_no 8 d s t u a k z _ rfl).mono ?_
  rintro e w' ⟨rfl, rfl⟩
  go_wp2
  go_quiet (fail)
  go_wp2
  exact bodyPost_ret (v := .agg #[.int .u32 r0, .int .u32 r1, .int .u32 r2, .int .u32 r3, .int .u32 r4, .int .u32 r5, .int .u32 r6, .int .u32 r7, .int .i64 (pc + 1)]) (by simp [results, Try.results12, go_sem]) rfl ⟨rfl, by repeat (first | exact Below.refl _ _ | apply below_alloc | apply pw_below_drewN)⟩
set_option maxHeartbeats 1000000 in
set_option maxRecDepth 100000 in
theorem one_9t (r0 r1 r2 r3 r4 r5 r6 r7 pc d s t u a k z self vs vt vd : Int) (w : World)
   (d0 : 0 ≤ d) (d1 : d < 8) (s0 : 0 ≤ s) (s1 : s < 8) (t0 : 0 ≤ t) (t1 : t < 8) (p0 : -9223372036854775808 ≤ pc) (p1 : pc ≤ 1099511627776)
   (hd : ∀ x8, #[Value.int .u32 r0, .int .u32 r1, .int .u32 r2, .int .u32 r3, .int .u32 r4, .int .u32 r5, .int .u32 r6, .int .u32 r7, x8][d.toNat]? = some (.int .u32 vd)) (hs : ∀ x8, #[Value.int .u32 r0, .int .u32 r1, .int .u32 r2, .int .u32 r3, .int .u32 r4, .int .u32 r5, .int .u32 r6, .int .u32 r7, x8][s.toNat]? = some (.int .u32 vs)) (ht : ∀ x8, #[Value.int .u32 r0, .int .u32 r1, .int .u32 r2, .int .u32 r3, .int .u32 r4, .int .u32 r5, .int .u32 r6, .int .u32 r7, x8][t.toNat]? = some (.int .u32 vt))
   (e : (vs == vt) = false) :
    Calls Try.prog 12 #[.agg #[.int .u32 r0, .int .u32 r1, .int .u32 r2, .int .u32 r3, .int .u32 r4, .int .u32 r5, .int .u32 r6, .int .u32 r7, .int .i64 pc], .agg #[.int .i64 9, .int .i64 d, .int .i64 s, .int .i64 t, .int .i64 u, .int .i64 a, .int .u32 k, .int .i64 z], .int .i64 self] w fun e w' => e = .returned (.agg #[.int .u32 r0, .int .u32 r1, .int .u32 r2, .int .u32 r3, .int .u32 r4, .int .u32 r5, .int .u32 r6, .int .u32 r7, .int .i64 (z)]) ∧ Below w.heap.size w w' := by
  have hsd : ∀ (w : World) (n : Nat) (a : Addr) (v : Value), (w.drewN n).setCell a v = (w.setCell a v).drewN n := fun _ _ _ _ => rfl
  go_enter Try.func12, Try.ntmps12
  go_wp2_with fail
  refine (mem_no 9 d s t u a k z _ rfl).mono ?_
  rintro e w' ⟨rfl, rfl⟩
  go_wp2
  go_quiet (fail)
  go_wp2
  exact bodyPost_ret (v := .agg #[.int .u32 r0, .int .u32 r1, .int .u32 r2, .int .u32 r3, .int .u32 r4, .int .u32 r5, .int .u32 r6, .int .u32 r7, .int .i64 (z)]) (by simp [results, Try.results12, go_sem]) rfl ⟨rfl, by repeat (first | exact Below.refl _ _ | apply below_alloc | apply pw_below_drewN)⟩
set_option maxHeartbeats 1000000 in
set_option maxRecDepth 100000 in
theorem one_9f (r0 r1 r2 r3 r4 r5 r6 r7 pc d s t u a k z self vs vt vd : Int) (w : World)
   (d0 : 0 ≤ d) (d1 : d < 8) (s0 : 0 ≤ s) (s1 : s < 8) (t0 : 0 ≤ t) (t1 : t < 8) (p0 : -9223372036854775808 ≤ pc) (p1 : pc ≤ 1099511627776)
   (hd : ∀ x8, #[Value.int .u32 r0, .int .u32 r1, .int .u32 r2, .int .u32 r3, .int .u32 r4, .int .u32 r5, .int .u32 r6, .int .u32 r7, x8][d.toNat]? = some (.int .u32 vd)) (hs : ∀ x8, #[Value.int .u32 r0, .int .u32 r1, .int .u32 r2, .int .u32 r3, .int .u32 r4, .int .u32 r5, .int .u32 r6, .int .u32 r7, x8][s.toNat]? = some (.int .u32 vs)) (ht : ∀ x8, #[Value.int .u32 r0, .int .u32 r1, .int .u32 r2, .int .u32 r3, .int .u32 r4, .int .u32 r5, .int .u32 r6, .int .u32 r7, x8][t.toNat]? = some (.int .u32 vt))
   (e : (vs == vt) = true) :
    Calls Try.prog 12 #[.agg #[.int .u32 r0, .int .u32 r1, .int .u32 r2, .int .u32 r3, .int .u32 r4, .int .u32 r5, .int .u32 r6, .int .u32 r7, .int .i64 pc], .agg #[.int .i64 9, .int .i64 d, .int .i64 s, .int .i64 t, .int .i64 u, .int .i64 a, .int .u32 k, .int .i64 z], .int .i64 self] w fun e w' => e = .returned (.agg #[.int .u32 r0, .int .u32 r1, .int .u32 r2, .int .u32 r3, .int .u32 r4, .int .u32 r5, .int .u32 r6, .int .u32 r7, .int .i64 (pc + 1)]) ∧ Below w.heap.size w w' := by
  have hsd : ∀ (w : World) (n : Nat) (a : Addr) (v : Value), (w.drewN n).setCell a v = (w.setCell a v).drewN n := fun _ _ _ _ => rfl
  go_enter Try.func12, Try.ntmps12
  go_wp2_with fail
  refine (mem_no 9 d s t u a k z _ rfl).mono ?_
  rintro e w' ⟨rfl, rfl⟩
  go_wp2
  go_quiet (fail)
  go_wp2
  exact bodyPost_ret (v := .agg #[.int .u32 r0, .int .u32 r1, .int .u32 r2, .int .u32 r3, .int .u32 r4, .int .u32 r5, .int .u32 r6, .int .u32 r7, .int .i64 (pc + 1)]) (by simp [results, Try.results12, go_sem]) rfl ⟨rfl, by repeat (first | exact Below.refl _ _ | apply below_alloc | apply pw_below_drewN)⟩
set_option maxHeartbeats 1000000 in
set_option maxRecDepth 100000 in
theorem one_10 (r0 r1 r2 r3 r4 r5 r6 r7 pc d s t u a k z self vs vt vd : Int) (w : World)
   (d0 : 0 ≤ d) (d1 : d < 8) (s0 : 0 ≤ s) (s1 : s < 8) (t0 : 0 ≤ t) (t1 : t < 8) (p0 : -9223372036854775808 ≤ pc) (p1 : pc ≤ 1099511627776)
   (hd : ∀ x8, #[Value.int .u32 r0, .int .u32 r1, .int .u32 r2, .int .u32 r3, .int .u32 r4, .int .u32 r5, .int .u32 r6, .int .u32 r7, x8][d.toNat]? = some (.int .u32 vd)) (hs : ∀ x8, #[Value.int .u32 r0, .int .u32 r1, .int .u32 r2, .int .u32 r3, .int .u32 r4, .int .u32 r5, .int .u32 r6, .int .u32 r7, x8][s.toNat]? = some (.int .u32 vs)) (ht : ∀ x8, #[Value.int .u32 r0, .int .u32 r1, .int .u32 r2, .int .u32 r3, .int .u32 r4, .int .u32 r5, .int .u32 r6, .int .u32 r7, x8][t.toNat]? = some (.int .u32 vt))
 :
    Calls Try.prog 12 #[.agg #[.int .u32 r0, .int .u32 r1, .int .u32 r2, .int .u32 r3, .int .u32 r4, .int .u32 r5, .int .u32 r6, .int .u32 r7, .int .i64 pc], .agg #[.int .i64 10, .int .i64 d, .int .i64 s, .int .i64 t, .int .i64 u, .int .i64 a, .int .u32 k, .int .i64 z], .int .i64 self] w fun e w' => e = .returned (.agg #[.int .u32 r0, .int .u32 r1, .int .u32 r2, .int .u32 r3, .int .u32 r4, .int .u32 r5, .int .u32 r6, .int .u32 r7, .int .i64 (z)]) ∧ Below w.heap.size w w' := by
  have hsd : ∀ (w : World) (n : Nat) (a : Addr) (v : Value), (w.drewN n).setCell a v = (w.setCell a v).drewN n := fun _ _ _ _ => rfl
  go_enter Try.func12, Try.ntmps12
  go_wp2_with fail
  refine (mem_no 10 d s t u a k z _ rfl).mono ?_
  rintro e w' ⟨rfl, rfl⟩
  go_wp2
  go_quiet (fail)
  go_wp2
  exact bodyPost_ret (v := .agg #[.int .u32 r0, .int .u32 r1, .int .u32 r2, .int .u32 r3, .int .u32 r4, .int .u32 r5, .int .u32 r6, .int .u32 r7, .int .i64 (z)]) (by simp [results, Try.results12, go_sem]) rfl ⟨rfl, by repeat (first | exact Below.refl _ _ | apply below_alloc | apply pw_below_drewN)⟩
set_option maxHeartbeats 1000000 in
set_option maxRecDepth 100000 in
theorem one_12 (r0 r1 r2 r3 r4 r5 r6 r7 pc d s t u a k z self vs vt vd : Int) (w : World)
   (d0 : 0 ≤ d) (d1 : d < 8) (s0 : 0 ≤ s) (s1 : s < 8) (t0 : 0 ≤ t) (t1 : t < 8) (p0 : -9223372036854775808 ≤ pc) (p1 : pc ≤ 1099511627776)
   (hd : ∀ x8, #[Value.int .u32 r0, .int .u32 r1, .int .u32 r2, .int .u32 r3, .int .u32 r4, .int .u32 r5, .int .u32 r6, .int .u32 r7, x8][d.toNat]? = some (.int .u32 vd)) (hs : ∀ x8, #[Value.int .u32 r0, .int .u32 r1, .int .u32 r2, .int .u32 r3, .int .u32 r4, .int .u32 r5, .int .u32 r6, .int .u32 r7, x8][s.toNat]? = some (.int .u32 vs)) (ht : ∀ x8, #[Value.int .u32 r0, .int .u32 r1, .int .u32 r2, .int .u32 r3, .int .u32 r4, .int .u32 r5, .int .u32 r6, .int .u32 r7, x8][t.toNat]? = some (.int .u32 vt))
 :
    Calls Try.prog 12 #[.agg #[.int .u32 r0, .int .u32 r1, .int .u32 r2, .int .u32 r3, .int .u32 r4, .int .u32 r5, .int .u32 r6, .int .u32 r7, .int .i64 pc], .agg #[.int .i64 12, .int .i64 d, .int .i64 s, .int .i64 t, .int .i64 u, .int .i64 a, .int .u32 k, .int .i64 z], .int .i64 self] w fun e w' => e = .returned (.agg #[.int .u32 r0, .int .u32 r1, .int .u32 r2, .int .u32 r3, .int .u32 r4, .int .u32 r5, .int .u32 r6, .int .u32 r7, .int .i64 (pc + 1)]) ∧ Below w.heap.size w w' := by
  have hsd : ∀ (w : World) (n : Nat) (a : Addr) (v : Value), (w.drewN n).setCell a v = (w.setCell a v).drewN n := fun _ _ _ _ => rfl
  go_enter Try.func12, Try.ntmps12
  go_wp2_with fail
  refine (mem_no 12 d s t u a k z _ rfl).mono ?_
  rintro e w' ⟨rfl, rfl⟩
  go_wp2
  go_quiet (fail)
  go_wp2
  exact bodyPost_ret (v := .agg #[.int .u32 r0, .int .u32 r1, .int .u32 r2, .int .u32 r3, .int .u32 r4, .int .u32 r5, .int .u32 r6, .int .u32 r7, .int .i64 (pc + 1)]) (by simp [results, Try.results12, go_sem]) rfl ⟨rfl, by repeat (first | exact Below.refl _ _ | apply below_alloc | apply pw_below_drewN)⟩
set_option maxHeartbeats 1000000 in
set_option maxRecDepth 100000 in
theorem one_mem (r0 r1 r2 r3 r4 r5 r6 r7 pc op d s t u a k z self : Int) (w : World) (h0 : decide (16 ≤ op) = true) (h1 : decide (op ≤ 23) = true) :
    Calls Try.prog 12 #[.agg #[.int .u32 r0, .int .u32 r1, .int .u32 r2, .int .u32 r3, .int .u32 r4, .int .u32 r5, .int .u32 r6, .int .u32 r7, .int .i64 pc], .agg #[.int .i64 op, .int .i64 d, .int .i64 s, .int .i64 t, .int .i64 u, .int .i64 a, .int .u32 k, .int .i64 z], .int .i64 self] w fun e w' => e = .returned (.agg #[.int .u32 r0, .int .u32 r1, .int .u32 r2, .int .u32 r3, .int .u32 r4, .int .u32 r5, .int .u32 r6, .int .u32 r7, .int .i64 pc]) ∧ Below w.heap.size w w' := by
  go_enter Try.func12, Try.ntmps12
  go_wp2_with fail
  refine (mem_yes op d s t u a k z _ h0 h1).mono ?_
  rintro e w' ⟨rfl, rfl⟩
  go_wp2
  exact bodyPost_ret (v := .agg #[.int .u32 r0, .int .u32 r1, .int .u32 r2, .int .u32 r3, .int .u32 r4, .int .u32 r5, .int .u32 r6, .int .u32 r7, .int .i64 pc]) (by simp [results, Try.results12, go_sem]) rfl ⟨rfl, by repeat (first | exact Below.refl _ _ | apply below_alloc | apply pw_below_drewN)⟩
set_option maxHeartbeats 1000000 in
set_option maxRecDepth 100000 in
theorem one_13 (r0 r1 r2 r3 r4 r5 r6 r7 pc d s t u a k z self : Int) (w : World) :
    Calls Try.prog 12 #[.agg #[.int .u32 r0, .int .u32 r1, .int .u32 r2, .int .u32 r3, .int .u32 r4, .int .u32 r5, .int .u32 r6, .int .u32 r7, .int .i64 pc], .agg #[.int .i64 13, .int .i64 d, .int .i64 s, .int .i64 t, .int .i64 u, .int .i64 a, .int .u32 k, .int .i64 z], .int .i64 self] w fun e w' => e = .returned (.agg #[.int .u32 r0, .int .u32 r1, .int .u32 r2, .int .u32 r3, .int .u32 r4, .int .u32 r5, .int .u32 r6, .int .u32 r7, .int .i64 pc]) ∧ Below w.heap.size w w' := by
  go_enter Try.func12, Try.ntmps12
  go_wp2_with fail
  refine (mem_no 13 d s t u a k z _ rfl).mono ?_
  rintro e w' ⟨rfl, rfl⟩
  go_wp2
  exact bodyPost_ret (v := .agg #[.int .u32 r0, .int .u32 r1, .int .u32 r2, .int .u32 r3, .int .u32 r4, .int .u32 r5, .int .u32 r6, .int .u32 r7, .int .i64 pc]) (by simp [results, Try.results12, go_sem]) rfl ⟨rfl, by repeat (first | exact Below.refl _ _ | apply below_alloc | apply pw_below_drewN)⟩
end Go.Proofs.Ytobjjmdaleoblaa.Co
