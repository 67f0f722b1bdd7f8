/- ropelineref08.One: its ways, one by one. Conditions: registers that there are, a place that is no more than 2^40. -/
import Derived.Test.YtobjjmdaleoblaaCoOneWays
import Derived.Test.YtobjjmdaleoblaaCoBits
import Derived.RegionTactic
import Derived.BigRegion
import Derived.Deep.RegionWith
namespace Go.Proofs.Ytobjjmdaleoblaa.Co
open Go.RowKit Go.Proofs.YtobjjmdaleoblaaW.PrintWords Go.Proofs.YtobjjmdaleoblaaW.PrintLast Go.Proofs.YtobjjmdaleoblaaW.PrintMore Go.Proofs.Ytobjjmdaleoblaa.PCoreRuns
attribute [local go_sem] max2_int min2_int max_two min_two max_three min_three max_four min_four
set_option linter.unusedVariables false
set_option linter.unusedSimpArgs false
theorem set8i (d v : Int) (d0 : 0 ≤ d) (d1 : d < 8) (r0 r1 r2 r3 r4 r5 r6 r7 : Int) (x8 : Value) :
    #[Value.int .i64 r0, .int .i64 r1, .int .i64 r2, .int .i64 r3, .int .i64 r4, .int .i64 r5, .int .i64 r6, .int .i64 r7, x8].setIfInBounds d.toNat (.int .i64 v) = #[Value.int .i64 (upd d 0 v r0), Value.int .i64 (upd d 1 v r1), Value.int .i64 (upd d 2 v r2), Value.int .i64 (upd d 3 v r3), Value.int .i64 (upd d 4 v r4), Value.int .i64 (upd d 5 v r5), Value.int .i64 (upd d 6 v r6), Value.int .i64 (upd d 7 v r7), x8] := by
  have h : d = 0 ∨ d = 1 ∨ d = 2 ∨ d = 3 ∨ d = 4 ∨ d = 5 ∨ d = 6 ∨ d = 7 := by omega
  rcases h with rfl | rfl | rfl | rfl | rfl | rfl | rfl | rfl <;> simp [upd]
set_option maxHeartbeats 2000000 in
set_option maxRecDepth 100000 in
theorem ref_1 (r0 r1 r2 r3 r4 r5 r6 r7 pc d s t u a k z self vs vt vd : Int) (w : World)
   (d0 : 0 ≤ d) (d1 : d < 8) (s0 : 0 ≤ s) (s1 : s < 8) (t0 : 0 ≤ t) (t1 : t < 8) (p0 : -9223372036854775808 ≤ pc) (p1 : pc ≤ 1099511627776) (k0 : 0 ≤ k) (k1 : k ≤ 4294967295)
   (hd : ∀ x8, #[Value.int .i64 r0, .int .i64 r1, .int .i64 r2, .int .i64 r3, .int .i64 r4, .int .i64 r5, .int .i64 r6, .int .i64 r7, x8][d.toNat]? = some (.int .i64 vd)) (hs : ∀ x8, #[Value.int .i64 r0, .int .i64 r1, .int .i64 r2, .int .i64 r3, .int .i64 r4, .int .i64 r5, .int .i64 r6, .int .i64 r7, x8][s.toNat]? = some (.int .i64 vs)) (ht : ∀ x8, #[Value.int .i64 r0, .int .i64 r1, .int .i64 r2, .int .i64 r3, .int .i64 r4, .int .i64 r5, .int .i64 r6, .int .i64 r7, x8][t.toNat]? = some (.int .i64 vt))
 :
    Calls Try.prog 13 #[.agg #[.int .i64 r0, .int .i64 r1, .int .i64 r2, .int .i64 r3, .int .i64 r4, .int .i64 r5, .int .i64 r6, .int .i64 r7, .int .i64 pc], .agg #[.int .i64 1, .int .i64 d, .int .i64 s, .int .i64 t, .int .i64 u, .int .i64 a, .int .u32 k, .int .i64 z], .int .i64 self] w fun e w' => e = .returned (.agg #[.int .i64 (upd d 0 (k) r0), .int .i64 (upd d 1 (k) r1), .int .i64 (upd d 2 (k) r2), .int .i64 (upd d 3 (k) r3), .int .i64 (upd d 4 (k) r4), .int .i64 (upd d 5 (k) r5), .int .i64 (upd d 6 (k) r6), .int .i64 (upd d 7 (k) r7), .int .i64 (pc + 1)]) ∧ Below w.heap.size w w' := by
  have hsd : ∀ (w : World) (n : Nat) (a : Addr) (v : Value), (w.drewN n).setCell a v = (w.setCell a v).drewN n := fun _ _ _ _ => rfl
  have hset : ∀ v x8, #[Value.int .i64 r0, .int .i64 r1, .int .i64 r2, .int .i64 r3, .int .i64 r4, .int .i64 r5, .int .i64 r6, .int .i64 r7, x8].setIfInBounds d.toNat (.int .i64 v) = #[Value.int .i64 (upd d 0 v r0), Value.int .i64 (upd d 1 v r1), Value.int .i64 (upd d 2 v r2), Value.int .i64 (upd d 3 v r3), Value.int .i64 (upd d 4 v r4), Value.int .i64 (upd d 5 v r5), Value.int .i64 (upd d 6 v r6), Value.int .i64 (upd d 7 v r7), x8] := fun v x8 => set8i d v d0 d1 _ _ _ _ _ _ _ _ x8
  go_enter Try.func13, Try.ntmps13
  go_wp2
  go_quiet (fail)
  go_wp2
  exact bodyPost_ret (v := .agg #[.int .i64 (upd d 0 (k) r0), .int .i64 (upd d 1 (k) r1), .int .i64 (upd d 2 (k) r2), .int .i64 (upd d 3 (k) r3), .int .i64 (upd d 4 (k) r4), .int .i64 (upd d 5 (k) r5), .int .i64 (upd d 6 (k) r6), .int .i64 (upd d 7 (k) r7), .int .i64 (pc + 1)]) (by simp [results, Try.results13, go_sem]) rfl ⟨rfl, by repeat (first | exact Below.refl _ _ | apply below_alloc | apply pw_below_drewN)⟩
set_option maxHeartbeats 2000000 in
set_option maxRecDepth 100000 in
theorem ref_2 (r0 r1 r2 r3 r4 r5 r6 r7 pc d s t u a k z self vs vt vd : Int) (w : World)
   (d0 : 0 ≤ d) (d1 : d < 8) (s0 : 0 ≤ s) (s1 : s < 8) (t0 : 0 ≤ t) (t1 : t < 8) (p0 : -9223372036854775808 ≤ pc) (p1 : pc ≤ 1099511627776) (k0 : 0 ≤ k) (k1 : k ≤ 4294967295)
   (hd : ∀ x8, #[Value.int .i64 r0, .int .i64 r1, .int .i64 r2, .int .i64 r3, .int .i64 r4, .int .i64 r5, .int .i64 r6, .int .i64 r7, x8][d.toNat]? = some (.int .i64 vd)) (hs : ∀ x8, #[Value.int .i64 r0, .int .i64 r1, .int .i64 r2, .int .i64 r3, .int .i64 r4, .int .i64 r5, .int .i64 r6, .int .i64 r7, x8][s.toNat]? = some (.int .i64 vs)) (ht : ∀ x8, #[Value.int .i64 r0, .int .i64 r1, .int .i64 r2, .int .i64 r3, .int .i64 r4, .int .i64 r5, .int .i64 r6, .int .i64 r7, x8][t.toNat]? = some (.int .i64 vt))
 :
    Calls Try.prog 13 #[.agg #[.int .i64 r0, .int .i64 r1, .int .i64 r2, .int .i64 r3, .int .i64 r4, .int .i64 r5, .int .i64 r6, .int .i64 r7, .int .i64 pc], .agg #[.int .i64 2, .int .i64 d, .int .i64 s, .int .i64 t, .int .i64 u, .int .i64 a, .int .u32 k, .int .i64 z], .int .i64 self] w fun e w' => e = .returned (.agg #[.int .i64 (upd d 0 (vs) r0), .int .i64 (upd d 1 (vs) r1), .int .i64 (upd d 2 (vs) r2), .int .i64 (upd d 3 (vs) r3), .int .i64 (upd d 4 (vs) r4), .int .i64 (upd d 5 (vs) r5), .int .i64 (upd d 6 (vs) r6), .int .i64 (upd d 7 (vs) r7), .int .i64 (pc + 1)]) ∧ Below w.heap.size w w' := by
  have hsd : ∀ (w : World) (n : Nat) (a : Addr) (v : Value), (w.drewN n).setCell a v = (w.setCell a v).drewN n := fun _ _ _ _ => rfl
  have hset : ∀ v x8, #[Value.int .i64 r0, .int .i64 r1, .int .i64 r2, .int .i64 r3, .int .i64 r4, .int .i64 r5, .int .i64 r6, .int .i64 r7, x8].setIfInBounds d.toNat (.int .i64 v) = #[Value.int .i64 (upd d 0 v r0), Value.int .i64 (upd d 1 v r1), Value.int .i64 (upd d 2 v r2), Value.int .i64 (upd d 3 v r3), Value.int .i64 (upd d 4 v r4), Value.int .i64 (upd d 5 v r5), Value.int .i64 (upd d 6 v r6), Value.int .i64 (upd d 7 v r7), x8] := fun v x8 => set8i d v d0 d1 _ _ _ _ _ _ _ _ x8
  go_enter Try.func13, Try.ntmps13
  go_wp2
  go_quiet (fail)
  go_wp2
  exact bodyPost_ret (v := .agg #[.int .i64 (upd d 0 (vs) r0), .int .i64 (upd d 1 (vs) r1), .int .i64 (upd d 2 (vs) r2), .int .i64 (upd d 3 (vs) r3), .int .i64 (upd d 4 (vs) r4), .int .i64 (upd d 5 (vs) r5), .int .i64 (upd d 6 (vs) r6), .int .i64 (upd d 7 (vs) r7), .int .i64 (pc + 1)]) (by simp [results, Try.results13, go_sem]) rfl ⟨rfl, by repeat (first | exact Below.refl _ _ | apply below_alloc | apply pw_below_drewN)⟩
set_option maxHeartbeats 2000000 in
set_option maxRecDepth 100000 in
theorem ref_3 (r0 r1 r2 r3 r4 r5 r6 r7 pc d s t u a k z self vs vt vd : Int) (w : World)
   (d0 : 0 ≤ d) (d1 : d < 8) (s0 : 0 ≤ s) (s1 : s < 8) (t0 : 0 ≤ t) (t1 : t < 8) (p0 : -9223372036854775808 ≤ pc) (p1 : pc ≤ 1099511627776) (k0 : 0 ≤ k) (k1 : k ≤ 4294967295)
   (hd : ∀ x8, #[Value.int .i64 r0, .int .i64 r1, .int .i64 r2, .int .i64 r3, .int .i64 r4, .int .i64 r5, .int .i64 r6, .int .i64 r7, x8][d.toNat]? = some (.int .i64 vd)) (hs : ∀ x8, #[Value.int .i64 r0, .int .i64 r1, .int .i64 r2, .int .i64 r3, .int .i64 r4, .int .i64 r5, .int .i64 r6, .int .i64 r7, x8][s.toNat]? = some (.int .i64 vs)) (ht : ∀ x8, #[Value.int .i64 r0, .int .i64 r1, .int .i64 r2, .int .i64 r3, .int .i64 r4, .int .i64 r5, .int .i64 r6, .int .i64 r7, x8][t.toNat]? = some (.int .i64 vt))
   (v0 : 0 ≤ vs) (v1 : vs < 4294967296) :
    Calls Try.prog 13 #[.agg #[.int .i64 r0, .int .i64 r1, .int .i64 r2, .int .i64 r3, .int .i64 r4, .int .i64 r5, .int .i64 r6, .int .i64 r7, .int .i64 pc], .agg #[.int .i64 3, .int .i64 d, .int .i64 s, .int .i64 t, .int .i64 u, .int .i64 a, .int .u32 k, .int .i64 z], .int .i64 self] w fun e w' => e = .returned (.agg #[.int .i64 (upd d 0 ((vs + k) % 4294967296) r0), .int .i64 (upd d 1 ((vs + k) % 4294967296) r1), .int .i64 (upd d 2 ((vs + k) % 4294967296) r2), .int .i64 (upd d 3 ((vs + k) % 4294967296) r3), .int .i64 (upd d 4 ((vs + k) % 4294967296) r4), .int .i64 (upd d 5 ((vs + k) % 4294967296) r5), .int .i64 (upd d 6 ((vs + k) % 4294967296) r6), .int .i64 (upd d 7 ((vs + k) % 4294967296) r7), .int .i64 (pc + 1)]) ∧ Below w.heap.size w w' := by
  have hsd : ∀ (w : World) (n : Nat) (a : Addr) (v : Value), (w.drewN n).setCell a v = (w.setCell a v).drewN n := fun _ _ _ _ => rfl
  have hset : ∀ v x8, #[Value.int .i64 r0, .int .i64 r1, .int .i64 r2, .int .i64 r3, .int .i64 r4, .int .i64 r5, .int .i64 r6, .int .i64 r7, x8].setIfInBounds d.toNat (.int .i64 v) = #[Value.int .i64 (upd d 0 v r0), Value.int .i64 (upd d 1 v r1), Value.int .i64 (upd d 2 v r2), Value.int .i64 (upd d 3 v r3), Value.int .i64 (upd d 4 v r4), Value.int .i64 (upd d 5 v r5), Value.int .i64 (upd d 6 v r6), Value.int .i64 (upd d 7 v r7), x8] := fun v x8 => set8i d v d0 d1 _ _ _ _ _ _ _ _ x8
  go_enter Try.func13, Try.ntmps13
  go_wp2
  go_quiet (fail)
  go_wp2
  exact bodyPost_ret (v := .agg #[.int .i64 (upd d 0 ((vs + k) % 4294967296) r0), .int .i64 (upd d 1 ((vs + k) % 4294967296) r1), .int .i64 (upd d 2 ((vs + k) % 4294967296) r2), .int .i64 (upd d 3 ((vs + k) % 4294967296) r3), .int .i64 (upd d 4 ((vs + k) % 4294967296) r4), .int .i64 (upd d 5 ((vs + k) % 4294967296) r5), .int .i64 (upd d 6 ((vs + k) % 4294967296) r6), .int .i64 (upd d 7 ((vs + k) % 4294967296) r7), .int .i64 (pc + 1)]) (by simp [results, Try.results13, go_sem]) rfl ⟨rfl, by repeat (first | exact Below.refl _ _ | apply below_alloc | apply pw_below_drewN)⟩
set_option maxHeartbeats 2000000 in
set_option maxRecDepth 100000 in
theorem ref_4 (r0 r1 r2 r3 r4 r5 r6 r7 pc d s t u a k z self vs vt vd : Int) (w : World)
   (d0 : 0 ≤ d) (d1 : d < 8) (s0 : 0 ≤ s) (s1 : s < 8) (t0 : 0 ≤ t) (t1 : t < 8) (p0 : -9223372036854775808 ≤ pc) (p1 : pc ≤ 1099511627776) (k0 : 0 ≤ k) (k1 : k ≤ 4294967295)
   (hd : ∀ x8, #[Value.int .i64 r0, .int .i64 r1, .int .i64 r2, .int .i64 r3, .int .i64 r4, .int .i64 r5, .int .i64 r6, .int .i64 r7, x8][d.toNat]? = some (.int .i64 vd)) (hs : ∀ x8, #[Value.int .i64 r0, .int .i64 r1, .int .i64 r2, .int .i64 r3, .int .i64 r4, .int .i64 r5, .int .i64 r6, .int .i64 r7, x8][s.toNat]? = some (.int .i64 vs)) (ht : ∀ x8, #[Value.int .i64 r0, .int .i64 r1, .int .i64 r2, .int .i64 r3, .int .i64 r4, .int .i64 r5, .int .i64 r6, .int .i64 r7, x8][t.toNat]? = some (.int .i64 vt))
   (v0 : 0 ≤ vs) (v1 : vs < 4294967296) (x : Int) (C : Aside0 (∀ w, Calls Try.prog 23 #[.int .i64 vs, .int .i64 k, .int .i64 1] w fun e w' => e = .returned (.int .i64 x) ∧ Drawn0 w w')) :
    Calls Try.prog 13 #[.agg #[.int .i64 r0, .int .i64 r1, .int .i64 r2, .int .i64 r3, .int .i64 r4, .int .i64 r5, .int .i64 r6, .int .i64 r7, .int .i64 pc], .agg #[.int .i64 4, .int .i64 d, .int .i64 s, .int .i64 t, .int .i64 u, .int .i64 a, .int .u32 k, .int .i64 z], .int .i64 self] w fun e w' => e = .returned (.agg #[.int .i64 (upd d 0 (x) r0), .int .i64 (upd d 1 (x) r1), .int .i64 (upd d 2 (x) r2), .int .i64 (upd d 3 (x) r3), .int .i64 (upd d 4 (x) r4), .int .i64 (upd d 5 (x) r5), .int .i64 (upd d 6 (x) r6), .int .i64 (upd d 7 (x) r7), .int .i64 (pc + 1)]) ∧ Below w.heap.size w w' := by
  have hsd : ∀ (w : World) (n : Nat) (a : Addr) (v : Value), (w.drewN n).setCell a v = (w.setCell a v).drewN n := fun _ _ _ _ => rfl
  have hset : ∀ v x8, #[Value.int .i64 r0, .int .i64 r1, .int .i64 r2, .int .i64 r3, .int .i64 r4, .int .i64 r5, .int .i64 r6, .int .i64 r7, x8].setIfInBounds d.toNat (.int .i64 v) = #[Value.int .i64 (upd d 0 v r0), Value.int .i64 (upd d 1 v r1), Value.int .i64 (upd d 2 v r2), Value.int .i64 (upd d 3 v r3), Value.int .i64 (upd d 4 v r4), Value.int .i64 (upd d 5 v r5), Value.int .i64 (upd d 6 v r6), Value.int .i64 (upd d 7 v r7), x8] := fun v x8 => set8i d v d0 d1 _ _ _ _ _ _ _ _ x8
  go_enter Try.func13, Try.ntmps13
  go_wp2
  go_quiet (fail)
  go_wp2
  go_region_with (go_at_call 23; refine (C.out _).mono ?_; rintro e w' ⟨rfl, ⟨nd, rfl⟩⟩)
  all_goals (go_wp2; exact bodyPost_ret (v := .agg #[.int .i64 (upd d 0 (x) r0), .int .i64 (upd d 1 (x) r1), .int .i64 (upd d 2 (x) r2), .int .i64 (upd d 3 (x) r3), .int .i64 (upd d 4 (x) r4), .int .i64 (upd d 5 (x) r5), .int .i64 (upd d 6 (x) r6), .int .i64 (upd d 7 (x) r7), .int .i64 (pc + 1)]) (by simp [results, Try.results13, go_sem]) rfl ⟨rfl, by repeat (first | exact Below.refl _ _ | apply below_alloc | apply pw_below_drewN)⟩)
set_option maxHeartbeats 2000000 in
set_option maxRecDepth 100000 in
theorem ref_5 (r0 r1 r2 r3 r4 r5 r6 r7 pc d s t u a k z self vs vt vd : Int) (w : World)
   (d0 : 0 ≤ d) (d1 : d < 8) (s0 : 0 ≤ s) (s1 : s < 8) (t0 : 0 ≤ t) (t1 : t < 8) (p0 : -9223372036854775808 ≤ pc) (p1 : pc ≤ 1099511627776) (k0 : 0 ≤ k) (k1 : k ≤ 4294967295)
   (hd : ∀ x8, #[Value.int .i64 r0, .int .i64 r1, .int .i64 r2, .int .i64 r3, .int .i64 r4, .int .i64 r5, .int .i64 r6, .int .i64 r7, x8][d.toNat]? = some (.int .i64 vd)) (hs : ∀ x8, #[Value.int .i64 r0, .int .i64 r1, .int .i64 r2, .int .i64 r3, .int .i64 r4, .int .i64 r5, .int .i64 r6, .int .i64 r7, x8][s.toNat]? = some (.int .i64 vs)) (ht : ∀ x8, #[Value.int .i64 r0, .int .i64 r1, .int .i64 r2, .int .i64 r3, .int .i64 r4, .int .i64 r5, .int .i64 r6, .int .i64 r7, x8][t.toNat]? = some (.int .i64 vt))
   (v0 : 0 ≤ vs) (v1 : vs < 4294967296) (x : Int) (C : Aside0 (∀ w, Calls Try.prog 24 #[.int .i64 k] w fun e w' => e = .returned (.int .i64 x) ∧ Drawn0 w w')) (x0 : 0 ≤ vs * x) (x1 : vs * x ≤ 9223372036854775807) :
    Calls Try.prog 13 #[.agg #[.int .i64 r0, .int .i64 r1, .int .i64 r2, .int .i64 r3, .int .i64 r4, .int .i64 r5, .int .i64 r6, .int .i64 r7, .int .i64 pc], .agg #[.int .i64 5, .int .i64 d, .int .i64 s, .int .i64 t, .int .i64 u, .int .i64 a, .int .u32 k, .int .i64 z], .int .i64 self] w fun e w' => e = .returned (.agg #[.int .i64 (upd d 0 ((vs * x) % 4294967296) r0), .int .i64 (upd d 1 ((vs * x) % 4294967296) r1), .int .i64 (upd d 2 ((vs * x) % 4294967296) r2), .int .i64 (upd d 3 ((vs * x) % 4294967296) r3), .int .i64 (upd d 4 ((vs * x) % 4294967296) r4), .int .i64 (upd d 5 ((vs * x) % 4294967296) r5), .int .i64 (upd d 6 ((vs * x) % 4294967296) r6), .int .i64 (upd d 7 ((vs * x) % 4294967296) r7), .int .i64 (pc + 1)]) ∧ Below w.heap.size w w' := by
  have hsd : ∀ (w : World) (n : Nat) (a : Addr) (v : Value), (w.drewN n).setCell a v = (w.setCell a v).drewN n := fun _ _ _ _ => rfl
  have hset : ∀ v x8, #[Value.int .i64 r0, .int .i64 r1, .int .i64 r2, .int .i64 r3, .int .i64 r4, .int .i64 r5, .int .i64 r6, .int .i64 r7, x8].setIfInBounds d.toNat (.int .i64 v) = #[Value.int .i64 (upd d 0 v r0), Value.int .i64 (upd d 1 v r1), Value.int .i64 (upd d 2 v r2), Value.int .i64 (upd d 3 v r3), Value.int .i64 (upd d 4 v r4), Value.int .i64 (upd d 5 v r5), Value.int .i64 (upd d 6 v r6), Value.int .i64 (upd d 7 v r7), x8] := fun v x8 => set8i d v d0 d1 _ _ _ _ _ _ _ _ x8
  go_enter Try.func13, Try.ntmps13
  go_wp2
  go_quiet (fail)
  go_wp2
  go_region_with (go_at_call 24; refine (C.out _).mono ?_; rintro e w' ⟨rfl, ⟨nd, rfl⟩⟩)
  all_goals (go_wp2; exact bodyPost_ret (v := .agg #[.int .i64 (upd d 0 ((vs * x) % 4294967296) r0), .int .i64 (upd d 1 ((vs * x) % 4294967296) r1), .int .i64 (upd d 2 ((vs * x) % 4294967296) r2), .int .i64 (upd d 3 ((vs * x) % 4294967296) r3), .int .i64 (upd d 4 ((vs * x) % 4294967296) r4), .int .i64 (upd d 5 ((vs * x) % 4294967296) r5), .int .i64 (upd d 6 ((vs * x) % 4294967296) r6), .int .i64 (upd d 7 ((vs * x) % 4294967296) r7), .int .i64 (pc + 1)]) (by simp [results, Try.results13, go_sem]) rfl ⟨rfl, by repeat (first | exact Below.refl _ _ | apply below_alloc | apply pw_below_drewN)⟩)
set_option maxHeartbeats 2000000 in
set_option maxRecDepth 100000 in
theorem ref_6 (r0 r1 r2 r3 r4 r5 r6 r7 pc d s t u a k z self vs vt vd : Int) (w : World)
   (d0 : 0 ≤ d) (d1 : d < 8) (s0 : 0 ≤ s) (s1 : s < 8) (t0 : 0 ≤ t) (t1 : t < 8) (p0 : -9223372036854775808 ≤ pc) (p1 : pc ≤ 1099511627776) (k0 : 0 ≤ k) (k1 : k ≤ 4294967295)
   (hd : ∀ x8, #[Value.int .i64 r0, .int .i64 r1, .int .i64 r2, .int .i64 r3, .int .i64 r4, .int .i64 r5, .int .i64 r6, .int .i64 r7, x8][d.toNat]? = some (.int .i64 vd)) (hs : ∀ x8, #[Value.int .i64 r0, .int .i64 r1, .int .i64 r2, .int .i64 r3, .int .i64 r4, .int .i64 r5, .int .i64 r6, .int .i64 r7, x8][s.toNat]? = some (.int .i64 vs)) (ht : ∀ x8, #[Value.int .i64 r0, .int .i64 r1, .int .i64 r2, .int .i64 r3, .int .i64 r4, .int .i64 r5, .int .i64 r6, .int .i64 r7, x8][t.toNat]? = some (.int .i64 vt))
   (v0 : 0 ≤ vs) (v1 : vs < 4294967296) (x : Int) (C : Aside0 (∀ w, Calls Try.prog 24 #[.int .i64 k] w fun e w' => e = .returned (.int .i64 x) ∧ Drawn0 w w')) (x0 : 1 ≤ x) :
    Calls Try.prog 13 #[.agg #[.int .i64 r0, .int .i64 r1, .int .i64 r2, .int .i64 r3, .int .i64 r4, .int .i64 r5, .int .i64 r6, .int .i64 r7, .int .i64 pc], .agg #[.int .i64 6, .int .i64 d, .int .i64 s, .int .i64 t, .int .i64 u, .int .i64 a, .int .u32 k, .int .i64 z], .int .i64 self] w fun e w' => e = .returned (.agg #[.int .i64 (upd d 0 (vs / x) r0), .int .i64 (upd d 1 (vs / x) r1), .int .i64 (upd d 2 (vs / x) r2), .int .i64 (upd d 3 (vs / x) r3), .int .i64 (upd d 4 (vs / x) r4), .int .i64 (upd d 5 (vs / x) r5), .int .i64 (upd d 6 (vs / x) r6), .int .i64 (upd d 7 (vs / x) r7), .int .i64 (pc + 1)]) ∧ Below w.heap.size w w' := by
  have hsd : ∀ (w : World) (n : Nat) (a : Addr) (v : Value), (w.drewN n).setCell a v = (w.setCell a v).drewN n := fun _ _ _ _ => rfl
  have hset : ∀ v x8, #[Value.int .i64 r0, .int .i64 r1, .int .i64 r2, .int .i64 r3, .int .i64 r4, .int .i64 r5, .int .i64 r6, .int .i64 r7, x8].setIfInBounds d.toNat (.int .i64 v) = #[Value.int .i64 (upd d 0 v r0), Value.int .i64 (upd d 1 v r1), Value.int .i64 (upd d 2 v r2), Value.int .i64 (upd d 3 v r3), Value.int .i64 (upd d 4 v r4), Value.int .i64 (upd d 5 v r5), Value.int .i64 (upd d 6 v r6), Value.int .i64 (upd d 7 v r7), x8] := fun v x8 => set8i d v d0 d1 _ _ _ _ _ _ _ _ x8
  go_enter Try.func13, Try.ntmps13
  go_wp2
  go_quiet (fail)
  go_wp2
  go_region_with (go_at_call 24; refine (C.out _).mono ?_; rintro e w' ⟨rfl, ⟨nd, rfl⟩⟩)
  all_goals (go_wp2; exact bodyPost_ret (v := .agg #[.int .i64 (upd d 0 (vs / x) r0), .int .i64 (upd d 1 (vs / x) r1), .int .i64 (upd d 2 (vs / x) r2), .int .i64 (upd d 3 (vs / x) r3), .int .i64 (upd d 4 (vs / x) r4), .int .i64 (upd d 5 (vs / x) r5), .int .i64 (upd d 6 (vs / x) r6), .int .i64 (upd d 7 (vs / x) r7), .int .i64 (pc + 1)]) (by simp [results, Try.results13, go_sem]) rfl ⟨rfl, by repeat (first | exact Below.refl _ _ | apply below_alloc | apply pw_below_drewN)⟩)
set_option maxHeartbeats 2000000 in
set_option maxRecDepth 100000 in
theorem ref_7 (r0 r1 r2 r3 r4 r5 r6 r7 pc d s t u a k z self vs vt vd : Int) (w : World)
   (d0 : 0 ≤ d) (d1 : d < 8) (s0 : 0 ≤ s) (s1 : s < 8) (t0 : 0 ≤ t) (t1 : t < 8) (p0 : -9223372036854775808 ≤ pc) (p1 : pc ≤ 1099511627776) (k0 : 0 ≤ k) (k1 : k ≤ 4294967295)
   (hd : ∀ x8, #[Value.int .i64 r0, .int .i64 r1, .int .i64 r2, .int .i64 r3, .int .i64 r4, .int .i64 r5, .int .i64 r6, .int .i64 r7, x8][d.toNat]? = some (.int .i64 vd)) (hs : ∀ x8, #[Value.int .i64 r0, .int .i64 r1, .int .i64 r2, .int .i64 r3, .int .i64 r4, .int .i64 r5, .int .i64 r6, .int .i64 r7, x8][s.toNat]? = some (.int .i64 vs)) (ht : ∀ x8, #[Value.int .i64 r0, .int .i64 r1, .int .i64 r2, .int .i64 r3, .int .i64 r4, .int .i64 r5, .int .i64 r6, .int .i64 r7, x8][t.toNat]? = some (.int .i64 vt))
   (v0 : 0 ≤ vs) (v1 : vs < 4294967296) (x : Int) (C : Aside0 (∀ w, Calls Try.prog 23 #[.int .i64 vs, .int .i64 vt, .int .i64 0] w fun e w' => e = .returned (.int .i64 x) ∧ Drawn0 w w')) :
    Calls Try.prog 13 #[.agg #[.int .i64 r0, .int .i64 r1, .int .i64 r2, .int .i64 r3, .int .i64 r4, .int .i64 r5, .int .i64 r6, .int .i64 r7, .int .i64 pc], .agg #[.int .i64 7, .int .i64 d, .int .i64 s, .int .i64 t, .int .i64 u, .int .i64 a, .int .u32 k, .int .i64 z], .int .i64 self] w fun e w' => e = .returned (.agg #[.int .i64 (upd d 0 (x) r0), .int .i64 (upd d 1 (x) r1), .int .i64 (upd d 2 (x) r2), .int .i64 (upd d 3 (x) r3), .int .i64 (upd d 4 (x) r4), .int .i64 (upd d 5 (x) r5), .int .i64 (upd d 6 (x) r6), .int .i64 (upd d 7 (x) r7), .int .i64 (pc + 1)]) ∧ Below w.heap.size w w' := by
  have hsd : ∀ (w : World) (n : Nat) (a : Addr) (v : Value), (w.drewN n).setCell a v = (w.setCell a v).drewN n := fun _ _ _ _ => rfl
  have hset : ∀ v x8, #[Value.int .i64 r0, .int .i64 r1, .int .i64 r2, .int .i64 r3, .int .i64 r4, .int .i64 r5, .int .i64 r6, .int .i64 r7, x8].setIfInBounds d.toNat (.int .i64 v) = #[Value.int .i64 (upd d 0 v r0), Value.int .i64 (upd d 1 v r1), Value.int .i64 (upd d 2 v r2), Value.int .i64 (upd d 3 v r3), Value.int .i64 (upd d 4 v r4), Value.int .i64 (upd d 5 v r5), Value.int .i64 (upd d 6 v r6), Value.int .i64 (upd d 7 v r7), x8] := fun v x8 => set8i d v d0 d1 _ _ _ _ _ _ _ _ x8
  go_enter Try.func13, Try.ntmps13
  go_wp2
  go_quiet (fail)
  go_wp2
  go_region_with (go_at_call 23; refine (C.out _).mono ?_; rintro e w' ⟨rfl, ⟨nd, rfl⟩⟩)
  all_goals (go_wp2; exact bodyPost_ret (v := .agg #[.int .i64 (upd d 0 (x) r0), .int .i64 (upd d 1 (x) r1), .int .i64 (upd d 2 (x) r2), .int .i64 (upd d 3 (x) r3), .int .i64 (upd d 4 (x) r4), .int .i64 (upd d 5 (x) r5), .int .i64 (upd d 6 (x) r6), .int .i64 (upd d 7 (x) r7), .int .i64 (pc + 1)]) (by simp [results, Try.results13, go_sem]) rfl ⟨rfl, by repeat (first | exact Below.refl _ _ | apply below_alloc | apply pw_below_drewN)⟩)
set_option maxHeartbeats 2000000 in
set_option maxRecDepth 100000 in
theorem ref_11 (r0 r1 r2 r3 r4 r5 r6 r7 pc d s t u a k z self vs vt vd : Int) (w : World)
   (d0 : 0 ≤ d) (d1 : d < 8) (s0 : 0 ≤ s) (s1 : s < 8) (t0 : 0 ≤ t) (t1 : t < 8) (p0 : -9223372036854775808 ≤ pc) (p1 : pc ≤ 1099511627776) (k0 : 0 ≤ k) (k1 : k ≤ 4294967295)
   (hd : ∀ x8, #[Value.int .i64 r0, .int .i64 r1, .int .i64 r2, .int .i64 r3, .int .i64 r4, .int .i64 r5, .int .i64 r6, .int .i64 r7, x8][d.toNat]? = some (.int .i64 vd)) (hs : ∀ x8, #[Value.int .i64 r0, .int .i64 r1, .int .i64 r2, .int .i64 r3, .int .i64 r4, .int .i64 r5, .int .i64 r6, .int .i64 r7, x8][s.toNat]? = some (.int .i64 vs)) (ht : ∀ x8, #[Value.int .i64 r0, .int .i64 r1, .int .i64 r2, .int .i64 r3, .int .i64 r4, .int .i64 r5, .int .i64 r6, .int .i64 r7, x8][t.toNat]? = some (.int .i64 vt))
   (f0 : 0 ≤ self) (f1 : self < 64) :
    Calls Try.prog 13 #[.agg #[.int .i64 r0, .int .i64 r1, .int .i64 r2, .int .i64 r3, .int .i64 r4, .int .i64 r5, .int .i64 r6, .int .i64 r7, .int .i64 pc], .agg #[.int .i64 11, .int .i64 d, .int .i64 s, .int .i64 t, .int .i64 u, .int .i64 a, .int .u32 k, .int .i64 z], .int .i64 self] w fun e w' => e = .returned (.agg #[.int .i64 (upd d 0 (self) r0), .int .i64 (upd d 1 (self) r1), .int .i64 (upd d 2 (self) r2), .int .i64 (upd d 3 (self) r3), .int .i64 (upd d 4 (self) r4), .int .i64 (upd d 5 (self) r5), .int .i64 (upd d 6 (self) r6), .int .i64 (upd d 7 (self) r7), .int .i64 (pc + 1)]) ∧ Below w.heap.size w w' := by
  have hsd : ∀ (w : World) (n : Nat) (a : Addr) (v : Value), (w.drewN n).setCell a v = (w.setCell a v).drewN n := fun _ _ _ _ => rfl
  have hset : ∀ v x8, #[Value.int .i64 r0, .int .i64 r1, .int .i64 r2, .int .i64 r3, .int .i64 r4, .int .i64 r5, .int .i64 r6, .int .i64 r7, x8].setIfInBounds d.toNat (.int .i64 v) = #[Value.int .i64 (upd d 0 v r0), Value.int .i64 (upd d 1 v r1), Value.int .i64 (upd d 2 v r2), Value.int .i64 (upd d 3 v r3), Value.int .i64 (upd d 4 v r4), Value.int .i64 (upd d 5 v r5), Value.int .i64 (upd d 6 v r6), Value.int .i64 (upd d 7 v r7), x8] := fun v x8 => set8i d v d0 d1 _ _ _ _ _ _ _ _ x8
  go_enter Try.func13, Try.ntmps13
  go_wp2
  go_quiet (fail)
  go_wp2
  exact bodyPost_ret (v := .agg #[.int .i64 (upd d 0 (self) r0), .int .i64 (upd d 1 (self) r1), .int .i64 (upd d 2 (self) r2), .int .i64 (upd d 3 (self) r3), .int .i64 (upd d 4 (self) r4), .int .i64 (upd d 5 (self) r5), .int .i64 (upd d 6 (self) r6), .int .i64 (upd d 7 (self) r7), .int .i64 (pc + 1)]) (by simp [results, Try.results13, go_sem]) rfl ⟨rfl, by repeat (first | exact Below.refl _ _ | apply below_alloc | apply pw_below_drewN)⟩
set_option maxHeartbeats 2000000 in
set_option maxRecDepth 100000 in
theorem ref_8t (r0 r1 r2 r3 r4 r5 r6 r7 pc d s t u a k z self vs vt vd : Int) (w : World)
   (d0 : 0 ≤ d) (d1 : d < 8) (s0 : 0 ≤ s) (s1 : s < 8) (t0 : 0 ≤ t) (t1 : t < 8) (p0 : -9223372036854775808 ≤ pc) (p1 : pc ≤ 1099511627776) (k0 : 0 ≤ k) (k1 : k ≤ 4294967295)
   (hd : ∀ x8, #[Value.int .i64 r0, .int .i64 r1, .int .i64 r2, .int .i64 r3, .int .i64 r4, .int .i64 r5, .int .i64 r6, .int .i64 r7, x8][d.toNat]? = some (.int .i64 vd)) (hs : ∀ x8, #[Value.int .i64 r0, .int .i64 r1, .int .i64 r2, .int .i64 r3, .int .i64 r4, .int .i64 r5, .int .i64 r6, .int .i64 r7, x8][s.toNat]? = some (.int .i64 vs)) (ht : ∀ x8, #[Value.int .i64 r0, .int .i64 r1, .int .i64 r2, .int .i64 r3, .int .i64 r4, .int .i64 r5, .int .i64 r6, .int .i64 r7, x8][t.toNat]? = some (.int .i64 vt))
   (e : (vs == vt) = true) :
    Calls Try.prog 13 #[.agg #[.int .i64 r0, .int .i64 r1, .int .i64 r2, .int .i64 r3, .int .i64 r4, .int .i64 r5, .int .i64 r6, .int .i64 r7, .int .i64 pc], .agg #[.int .i64 8, .int .i64 d, .int .i64 s, .int .i64 t, .int .i64 u, .int .i64 a, .int .u32 k, .int .i64 z], .int .i64 self] w fun e w' => e = .returned (.agg #[.int .i64 r0, .int .i64 r1, .int .i64 r2, .int .i64 r3, .int .i64 r4, .int .i64 r5, .int .i64 r6, .int .i64 r7, .int .i64 (z)]) ∧ Below w.heap.size w w' := by
  have hsd : ∀ (w : World) (n : Nat) (a : Addr) (v : Value), (w.drewN n).setCell a v = (w.setCell a v).drewN n := fun _ _ _ _ => rfl
  go_enter Try.func13, Try.ntmps13
  go_wp2
  go_quiet (fail)
  go_wp2
  exact bodyPost_ret (v := .agg #[.int .i64 r0, .int .i64 r1, .int .i64 r2, .int .i64 r3, .int .i64 r4, .int .i64 r5, .int .i64 r6, .int .i64 r7, .int .i64 (z)]) (by simp [results, Try.results13, go_sem]) rfl ⟨rfl, by repeat (first | exact Below.refl _ _ | apply below_alloc | apply pw_below_drewN)⟩
set_option maxHeartbeats 2000000 in
set_option maxRecDepth 100000 in
theorem ref_8f (r0 r1 r2 r3 r4 r5 r6 r7 pc d s t u a k z self vs vt vd : Int) (w : World)
   (d0 : 0 ≤ d) (d1 : d < 8) (s0 : 0 ≤ s) (s1 : s < 8) (t0 : 0 ≤ t) (t1 : t < 8) (p0 : -9223372036854775808 ≤ pc) (p1 : pc ≤ 1099511627776) (k0 : 0 ≤ k) (k1 : k ≤ 4294967295)
   (hd : ∀ x8, #[Value.int .i64 r0, .int .i64 r1, .int .i64 r2, .int .i64 r3, .int .i64 r4, .int .i64 r5, .int .i64 r6, .int .i64 r7, x8][d.toNat]? = some (.int .i64 vd)) (hs : ∀ x8, #[Value.int .i64 r0, .int .i64 r1, .int .i64 r2, .int .i64 r3, .int .i64 r4, .int .i64 r5, .int .i64 r6, .int .i64 r7, x8][s.toNat]? = some (.int .i64 vs)) (ht : ∀ x8, #[Value.int .i64 r0, .int .i64 r1, .int .i64 r2, .int .i64 r3, .int .i64 r4, .int .i64 r5, .int .i64 r6, .int .i64 r7, x8][t.toNat]? = some (.int .i64 vt))
   (e : (vs == vt) = false) :
    Calls Try.prog 13 #[.agg #[.int .i64 r0, .int .i64 r1, .int .i64 r2, .int .i64 r3, .int .i64 r4, .int .i64 r5, .int .i64 r6, .int .i64 r7, .int .i64 pc], .agg #[.int .i64 8, .int .i64 d, .int .i64 s, .int .i64 t, .int .i64 u, .int .i64 a, .int .u32 k, .int .i64 z], .int .i64 self] w fun e w' => e = .returned (.agg #[.int .i64 r0, .int .i64 r1, .int .i64 r2, .int .i64 r3, .int .i64 r4, .int .i64 r5, .int .i64 r6, .int .i64 r7, .int .i64 (pc + 1)]) ∧ Below w.heap.size w w' := by
  have hsd : ∀ (w : World) (n : Nat) (a : Addr) (v : Value), (w.drewN n).setCell a v = (w.setCell a v).drewN n := fun _ _ _ _ => rfl
  go_enter Try.func13, Try.ntmps13
  go_wp2
  go_quiet (fail)
  go_wp2
  exact bodyPost_ret (v := .agg #[.int .i64 r0, .int .i64 r1, .int .i64 r2, .int .i64 r3, .int .i64 r4, .int .i64 r5, .int .i64 r6, .int .i64 r7, .int .i64 (pc + 1)]) (by simp [results, Try.results13, go_sem]) rfl ⟨rfl, by repeat (first | exact Below.refl _ _ | apply below_alloc | apply pw_below_drewN)⟩
set_option maxHeartbeats 2000000 in
set_option maxRecDepth 100000 in
theorem ref_9t (r0 r1 r2 r3 r4 r5 r6 r7 pc d s t u a k z self vs vt vd : Int) (w : World)
   (d0 : 0 ≤ d) (d1 : d < 8) (s0 : 0 ≤ s) (s1 : s < 8) (t0 : 0 ≤ t) (t1 : t < 8) (p0 : -9223372036854775808 ≤ pc) (p1 : pc ≤ 1099511627776) (k0 : 0 ≤ k) (k1 : k ≤ 4294967295)
   (hd : ∀ x8, #[Value.int .i64 r0, .int .i64 r1, .int .i64 r2, .int .i64 r3, .int .i64 r4, .int .i64 r5, .int .i64 r6, .int .i64 r7, x8][d.toNat]? = some (.int .i64 vd)) (hs : ∀ x8, #[Value.int .i64 r0, .int .i64 r1, .int .i64 r2, .int .i64 r3, .int .i64 r4, .int .i64 r5, .int .i64 r6, .int .i64 r7, x8][s.toNat]? = some (.int .i64 vs)) (ht : ∀ x8, #[Value.int .i64 r0, .int .i64 r1, .int .i64 r2, .int .i64 r3, .int .i64 r4, .int .i64 r5, .int .i64 r6, .int .i64 r7, x8][t.toNat]? = some (.int .i64 vt))
   (e : (vs == vt) = false) (e2 : (vs != vt) = true) :
    Calls Try.prog 13 #[.agg #[.int .i64 r0, .int .i64 r1, .int .i64 r2, .int .i64 r3, .int .i64 r4, .int .i64 r5, .int .i64 r6, .int .i64 r7, .int .i64 pc], .agg #[.int .i64 9, .int .i64 d, .int .i64 s, .int .i64 t, .int .i64 u, .int .i64 a, .int .u32 k, .int .i64 z], .int .i64 self] w fun e w' => e = .returned (.agg #[.int .i64 r0, .int .i64 r1, .int .i64 r2, .int .i64 r3, .int .i64 r4, .int .i64 r5, .int .i64 r6, .int .i64 r7, .int .i64 (z)]) ∧ Below w.heap.size w w' := by
  have hsd : ∀ (w : World) (n : Nat) (a : Addr) (v : Value), (w.drewN n).setCell a v = (w.setCell a v).drewN n := fun _ _ _ _ => rfl
  go_enter Try.func13, Try.ntmps13
  go_wp2
  go_quiet (fail)
  go_wp2
  exact bodyPost_ret (v := .agg #[.int .i64 r0, .int .i64 r1, .int .i64 r2, .int .i64 r3, .int .i64 r4, .int .i64 r5, .int .i64 r6, .int .i64 r7, .int .i64 (z)]) (by simp [results, Try.results13, go_sem]) rfl ⟨rfl, by repeat (first | exact Below.refl _ _ | apply below_alloc | apply pw_below_drewN)⟩
set_option maxHeartbeats 2000000 in
set_option maxRecDepth 100000 in
theorem ref_9f (r0 r1 r2 r3 r4 r5 r6 r7 pc d s t u a k z self vs vt vd : Int) (w : World)
   (d0 : 0 ≤ d) (d1 : d < 8) (s0 : 0 ≤ s) (s1 : s < 8) (t0 : 0 ≤ t) (t1 : t < 8) (p0 : -9223372036854775808 ≤ pc) (p1 : pc ≤ 1099511627776) (k0 : 0 ≤ k) (k1 : k ≤ 4294967295)
   (hd : ∀ x8, #[Value.int .i64 r0, .int .i64 r1, .int .i64 r2, .int .i64 r3, .int .i64 r4, .int .i64 r5, .int .i64 r6, .int .i64 r7, x8][d.toNat]? = some (.int .i64 vd)) (hs : ∀ x8, #[Value.int .i64 r0, .int .i64 r1, .int .i64 r2, .int .i64 r3, .int .i64 r4, .int .i64 r5, .int .i64 r6, .int .i64 r7, x8][s.toNat]? = some (.int .i64 vs)) (ht : ∀ x8, #[Value.int .i64 r0, .int .i64 r1, .int .i64 r2, .int .i64 r3, .int .i64 r4, .int .i64 r5, .int .i64 r6, .int .i64 r7, x8][t.toNat]? = some (.int .i64 vt))
   (e : (vs == vt) = true) (e2 : (vs != vt) = false) :
    Calls Try.prog 13 #[.agg #[.int .i64 r0, .int .i64 r1, .int .i64 r2, .int .i64 r3, .int .i64 r4, .int .i64 r5, .int .i64 r6, .int .i64 r7, .int .i64 pc], .agg #[.int .i64 9, .int .i64 d, .int .i64 s, .int .i64 t, .int .i64 u, .int .i64 a, .int .u32 k, .int .i64 z], .int .i64 self] w fun e w' => e = .returned (.agg #[.int .i64 r0, .int .i64 r1, .int .i64 r2, .int .i64 r3, .int .i64 r4, .int .i64 r5, .int .i64 r6, .int .i64 r7, .int .i64 (pc + 1)]) ∧ Below w.heap.size w w' := by
  have hsd : ∀ (w : World) (n : Nat) (a : Addr) (v : Value), (w.drewN n).setCell a v = (w.setCell a v).drewN n := fun _ _ _ _ => rfl
  go_enter Try.func13, Try.ntmps13
  go_wp2
  go_quiet (fail)
  go_wp2
  exact bodyPost_ret (v := .agg #[.int .i64 r0, .int .i64 r1, .int .i64 r2, .int .i64 r3, .int .i64 r4, .int .i64 r5, .int .i64 r6, .int .i64 r7, .int .i64 (pc + 1)]) (by simp [results, Try.results13, go_sem]) rfl ⟨rfl, by repeat (first | exact Below.refl _ _ | apply below_alloc | apply pw_below_drewN)⟩
set_option maxHeartbeats 2000000 in
set_option maxRecDepth 100000 in
theorem ref_10 (r0 r1 r2 r3 r4 r5 r6 r7 pc d s t u a k z self vs vt vd : Int) (w : World)
   (d0 : 0 ≤ d) (d1 : d < 8) (s0 : 0 ≤ s) (s1 : s < 8) (t0 : 0 ≤ t) (t1 : t < 8) (p0 : -9223372036854775808 ≤ pc) (p1 : pc ≤ 1099511627776) (k0 : 0 ≤ k) (k1 : k ≤ 4294967295)
   (hd : ∀ x8, #[Value.int .i64 r0, .int .i64 r1, .int .i64 r2, .int .i64 r3, .int .i64 r4, .int .i64 r5, .int .i64 r6, .int .i64 r7, x8][d.toNat]? = some (.int .i64 vd)) (hs : ∀ x8, #[Value.int .i64 r0, .int .i64 r1, .int .i64 r2, .int .i64 r3, .int .i64 r4, .int .i64 r5, .int .i64 r6, .int .i64 r7, x8][s.toNat]? = some (.int .i64 vs)) (ht : ∀ x8, #[Value.int .i64 r0, .int .i64 r1, .int .i64 r2, .int .i64 r3, .int .i64 r4, .int .i64 r5, .int .i64 r6, .int .i64 r7, x8][t.toNat]? = some (.int .i64 vt))
 :
    Calls Try.prog 13 #[.agg #[.int .i64 r0, .int .i64 r1, .int .i64 r2, .int .i64 r3, .int .i64 r4, .int .i64 r5, .int .i64 r6, .int .i64 r7, .int .i64 pc], .agg #[.int .i64 10, .int .i64 d, .int .i64 s, .int .i64 t, .int .i64 u, .int .i64 a, .int .u32 k, .int .i64 z], .int .i64 self] w fun e w' => e = .returned (.agg #[.int .i64 r0, .int .i64 r1, .int .i64 r2, .int .i64 r3, .int .i64 r4, .int .i64 r5, .int .i64 r6, .int .i64 r7, .int .i64 (z)]) ∧ Below w.heap.size w w' := by
  have hsd : ∀ (w : World) (n : Nat) (a : Addr) (v : Value), (w.drewN n).setCell a v = (w.setCell a v).drewN n := fun _ _ _ _ => rfl
  go_enter Try.func13, Try.ntmps13
  go_wp2
  go_quiet (fail)
  go_wp2
  exact bodyPost_ret (v := .agg #[.int .i64 r0, .int .i64 r1, .int .i64 r2, .int .i64 r3, .int .i64 r4, .int .i64 r5, .int .i64 r6, .int .i64 r7, .int .i64 (z)]) (by simp [results, Try.results13, go_sem]) rfl ⟨rfl, by repeat (first | exact Below.refl _ _ | apply below_alloc | apply pw_below_drewN)⟩
set_option maxHeartbeats 2000000 in
set_option maxRecDepth 100000 in
theorem ref_12 (r0 r1 r2 r3 r4 r5 r6 r7 pc d s t u a k z self vs vt vd : Int) (w : World)
   (d0 : 0 ≤ d) (d1 : d < 8) (s0 : 0 ≤ s) (s1 : s < 8) (t0 : 0 ≤ t) (t1 : t < 8) (p0 : -9223372036854775808 ≤ pc) (p1 : pc ≤ 1099511627776) (k0 : 0 ≤ k) (k1 : k ≤ 4294967295)
   (hd : ∀ x8, #[Value.int .i64 r0, .int .i64 r1, .int .i64 r2, .int .i64 r3, .int .i64 r4, .int .i64 r5, .int .i64 r6, .int .i64 r7, x8][d.toNat]? = some (.int .i64 vd)) (hs : ∀ x8, #[Value.int .i64 r0, .int .i64 r1, .int .i64 r2, .int .i64 r3, .int .i64 r4, .int .i64 r5, .int .i64 r6, .int .i64 r7, x8][s.toNat]? = some (.int .i64 vs)) (ht : ∀ x8, #[Value.int .i64 r0, .int .i64 r1, .int .i64 r2, .int .i64 r3, .int .i64 r4, .int .i64 r5, .int .i64 r6, .int .i64 r7, x8][t.toNat]? = some (.int .i64 vt))
 :
    Calls Try.prog 13 #[.agg #[.int .i64 r0, .int .i64 r1, .int .i64 r2, .int .i64 r3, .int .i64 r4, .int .i64 r5, .int .i64 r6, .int .i64 r7, .int .i64 pc], .agg #[.int .i64 12, .int .i64 d, .int .i64 s, .int .i64 t, .int .i64 u, .int .i64 a, .int .u32 k, .int .i64 z], .int .i64 self] w fun e w' => e = .returned (.agg #[.int .i64 r0, .int .i64 r1, .int .i64 r2, .int .i64 r3, .int .i64 r4, .int .i64 r5, .int .i64 r6, .int .i64 r7, .int .i64 (pc + 1)]) ∧ Below w.heap.size w w' := by
  have hsd : ∀ (w : World) (n : Nat) (a : Addr) (v : Value), (w.drewN n).setCell a v = (w.setCell a v).drewN n := fun _ _ _ _ => rfl
  go_enter Try.func13, Try.ntmps13
  go_wp2
  go_quiet (fail)
  go_wp2
  exact bodyPost_ret (v := .agg #[.int .i64 r0, .int .i64 r1, .int .i64 r2, .int .i64 r3, .int .i64 r4, .int .i64 r5, .int .i64 r6, .int .i64 r7, .int .i64 (pc + 1)]) (by simp [results, Try.results13, go_sem]) rfl ⟨rfl, by repeat (first | exact Below.refl _ _ | apply below_alloc | apply pw_below_drewN)⟩
set_option maxHeartbeats 1000000 in
set_option maxRecDepth 100000 in
theorem ref_mem (r0 r1 r2 r3 r4 r5 r6 r7 pc op d s t u a k z self vs vt vd : Int) (w : World)
   (d0 : 0 ≤ d) (d1 : d < 8) (s0 : 0 ≤ s) (s1 : s < 8) (t0 : 0 ≤ t) (t1 : t < 8) (p0 : -9223372036854775808 ≤ pc) (p1 : pc ≤ 1099511627776) (k0 : 0 ≤ k) (k1 : k ≤ 4294967295)
   (hd : ∀ x8, #[Value.int .i64 r0, .int .i64 r1, .int .i64 r2, .int .i64 r3, .int .i64 r4, .int .i64 r5, .int .i64 r6, .int .i64 r7, x8][d.toNat]? = some (.int .i64 vd)) (hs : ∀ x8, #[Value.int .i64 r0, .int .i64 r1, .int .i64 r2, .int .i64 r3, .int .i64 r4, .int .i64 r5, .int .i64 r6, .int .i64 r7, x8][s.toNat]? = some (.int .i64 vs)) (ht : ∀ x8, #[Value.int .i64 r0, .int .i64 r1, .int .i64 r2, .int .i64 r3, .int .i64 r4, .int .i64 r5, .int .i64 r6, .int .i64 r7, x8][t.toNat]? = some (.int .i64 vt))  (h0 : decide (16 ≤ op) = true) :
    Calls Try.prog 13 #[.agg #[.int .i64 r0, .int .i64 r1, .int .i64 r2, .int .i64 r3, .int .i64 r4, .int .i64 r5, .int .i64 r6, .int .i64 r7, .int .i64 pc], .agg #[.int .i64 op, .int .i64 d, .int .i64 s, .int .i64 t, .int .i64 u, .int .i64 a, .int .u32 k, .int .i64 z], .int .i64 self] w fun e w' => e = .returned (.agg #[.int .i64 r0, .int .i64 r1, .int .i64 r2, .int .i64 r3, .int .i64 r4, .int .i64 r5, .int .i64 r6, .int .i64 r7, .int .i64 pc]) ∧ Below w.heap.size w w' := by
  have hsd : ∀ (w : World) (n : Nat) (a : Addr) (v : Value), (w.drewN n).setCell a v = (w.setCell a v).drewN n := fun _ _ _ _ => rfl
  go_enter Try.func13, Try.ntmps13
  go_wp2
  go_quiet (fail)
  go_wp2
  exact bodyPost_ret (v := .agg #[.int .i64 r0, .int .i64 r1, .int .i64 r2, .int .i64 r3, .int .i64 r4, .int .i64 r5, .int .i64 r6, .int .i64 r7, .int .i64 pc]) (by simp [results, Try.results13, go_sem]) rfl ⟨rfl, by repeat (first | exact Below.refl _ _ | apply below_alloc | apply pw_below_drewN)⟩
set_option maxHeartbeats 1000000 in
set_option maxRecDepth 100000 in
theorem ref_13 (r0 r1 r2 r3 r4 r5 r6 r7 pc d s t u a k z self vs vt vd : Int) (w : World)
   (d0 : 0 ≤ d) (d1 : d < 8) (s0 : 0 ≤ s) (s1 : s < 8) (t0 : 0 ≤ t) (t1 : t < 8) (p0 : -9223372036854775808 ≤ pc) (p1 : pc ≤ 1099511627776) (k0 : 0 ≤ k) (k1 : k ≤ 4294967295)
   (hd : ∀ x8, #[Value.int .i64 r0, .int .i64 r1, .int .i64 r2, .int .i64 r3, .int .i64 r4, .int .i64 r5, .int .i64 r6, .int .i64 r7, x8][d.toNat]? = some (.int .i64 vd)) (hs : ∀ x8, #[Value.int .i64 r0, .int .i64 r1, .int .i64 r2, .int .i64 r3, .int .i64 r4, .int .i64 r5, .int .i64 r6, .int .i64 r7, x8][s.toNat]? = some (.int .i64 vs)) (ht : ∀ x8, #[Value.int .i64 r0, .int .i64 r1, .int .i64 r2, .int .i64 r3, .int .i64 r4, .int .i64 r5, .int .i64 r6, .int .i64 r7, x8][t.toNat]? = some (.int .i64 vt))  :
    Calls Try.prog 13 #[.agg #[.int .i64 r0, .int .i64 r1, .int .i64 r2, .int .i64 r3, .int .i64 r4, .int .i64 r5, .int .i64 r6, .int .i64 r7, .int .i64 pc], .agg #[.int .i64 13, .int .i64 d, .int .i64 s, .int .i64 t, .int .i64 u, .int .i64 a, .int .u32 k, .int .i64 z], .int .i64 self] w fun e w' => e = .returned (.agg #[.int .i64 r0, .int .i64 r1, .int .i64 r2, .int .i64 r3, .int .i64 r4, .int .i64 r5, .int .i64 r6, .int .i64 r7, .int .i64 pc]) ∧ Below w.heap.size w w' := by
  have hsd : ∀ (w : World) (n : Nat) (a : Addr) (v : Value), (w.drewN n).setCell a v = (w.setCell a v).drewN n := fun _ _ _ _ => rfl
  go_enter Try.func13, Try.ntmps13
  go_wp2
  go_quiet (fail)
  go_wp2
  exact bodyPost_ret (v := .agg #[.int .i64 r0, .int .i64 r1, .int .i64 r2, .int .i64 r3, .int .i64 r4, .int .i64 r5, .int .i64 r6, .int .i64 r7, .int .i64 pc]) (by simp [results, Try.results13, go_sem]) rfl ⟨rfl, by repeat (first | exact Below.refl _ _ | apply below_alloc | apply pw_below_drewN)⟩
end Go.Proofs.Ytobjjmdaleoblaa.Co
