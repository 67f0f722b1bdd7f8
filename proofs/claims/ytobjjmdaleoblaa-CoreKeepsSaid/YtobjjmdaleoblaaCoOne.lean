/- ropelinelaw08.CoreOne: its walk. -/
import Derived.Test.YtobjjmdaleoblaaCoAwake
import Derived.Test.YtobjjmdaleoblaaCoRight
import Derived.Test.YtobjjmdaleoblaaCoToRef
import Derived.Test.YtobjjmdaleoblaaCoEqOp
namespace Go.Proofs.Ytobjjmdaleoblaa.Co
open Go.RowKit Go.Proofs.YtobjjmdaleoblaaW.PrintWords Go.Proofs.YtobjjmdaleoblaaW.PrintLast Go.Proofs.YtobjjmdaleoblaaW.PrintMore Go.Proofs.Ytobjjmdaleoblaa.PCoreRuns
attribute [local go_sem] max2_int min2_int max_two min_two max_three min_three max_four min_four
set_option linter.unusedVariables false
set_option linter.unusedSimpArgs false
theorem iref_calls (i : S27) (w : World) : Calls Try.prog 9 #[ival i] w fun e w' => e = .returned (ival i) ∧ Below w.heap.size w w' :=
  ropelinelaw06_Ref.calls i.f0 i.f1 i.f2 i.f3 i.f4 i.f5 i.f6 i.f7 i.f0 i.f1 i.f2 i.f3 i.f4 i.f5 i.f6 i.f7 w rfl
set_option maxHeartbeats 8000000 in
set_option maxRecDepth 100000 in
theorem coreOne_calls (c : Cr) (i : S27) (self : Int) (w : World) (hc : c.ok) (p0 : -9223372036854775808 ≤ c.pc) (k0 : 0 ≤ i.f6) (k1 : i.f6 < 4294967296) (s0 : 0 ≤ self) (s1 : self < 256) :
    Calls Try.prog 3 #[c.val, ival i, .int .u8 self] w fun e w' => e = .returned (.bool true) ∧ Below w.heap.size w w' := by
  show Calls Try.prog 3 #[.agg #[.int .u32 c.r0, .int .u32 c.r1, .int .u32 c.r2, .int .u32 c.r3, .int .u32 c.r4, .int .u32 c.r5, .int .u32 c.r6, .int .u32 c.r7, .int .i64 c.pc], .agg #[.int .i64 i.f0, .int .i64 i.f1, .int .i64 i.f2, .int .i64 i.f3, .int .i64 i.f4, .int .i64 i.f5, .int .u32 i.f6, .int .i64 i.f7], .int .u8 self] w _
  go_enter Try.func3, Try.ntmps3
  go_wp2_with fail
  refine (iref_calls i _).mono ?_
  rintro e w1 ⟨rfl, hb⟩
  have B0 := Aside0.mk (blk_below (blk_alloc (blk_new w (.cells #[.int .u32 c.r0, .int .u32 c.r1, .int .u32 c.r2, .int .u32 c.r3, .int .u32 c.r4, .int .u32 c.r5, .int .u32 c.r6, .int .u32 c.r7, .int .i64 c.pc] 25)) (.cells #[.int .i64 i.f0, .int .i64 i.f1, .int .i64 i.f2, .int .i64 i.f3, .int .i64 i.f4, .int .i64 i.f5, .int .u32 i.f6, .int .i64 i.f7] 27)) hb)
  have B1 := Aside0.mk (blk_below (blocks2 w (.cells #[.int .u32 c.r0, .int .u32 c.r1, .int .u32 c.r2, .int .u32 c.r3, .int .u32 c.r4, .int .u32 c.r5, .int .u32 c.r6, .int .u32 c.r7, .int .i64 c.pc] 25) (.cells #[.int .i64 i.f0, .int .i64 i.f1, .int .i64 i.f2, .int .i64 i.f3, .int .i64 i.f4, .int .i64 i.f5, .int .u32 i.f6, .int .i64 i.f7] 27)) hb)
  have HB := Aside0.mk (below_step (below_alloc (below_alloc (Below.refl w.heap.size w) _) _) hb)
  clear hb
  unfold ival
  go_wp2_with fail
  refine (right_calls i 1073741824 _ k0 k1).mono ?_
  rintro e w2 ⟨b, rfl, hi, hb⟩
  have n0 := Aside0.mk (blk_below B0.out hb)
  have n1 := Aside0.mk (blk_below B1.out hb)
  have n2 := Aside0.mk (below_step HB.out hb)
  clear B0 B1 HB hb
  have B0 := n0
  have B1 := n1
  have HB := n2
  clear n0 n1 n2
  cases b with
  | false =>
    go_wp2_with fail
    refine (awake_calls _).mono ?_
    rintro e w3 ⟨rfl, hb⟩
    go_wp2
    go_ret
    exact ⟨rfl, below_step HB.out hb⟩
  | true =>
  replace hi := hi rfl
  have cp := (blk_cell B0.out 8).trans rfl
  by_cases p1 : c.pc ≤ 1099511627776
  case neg =>
    have g : decide (1099511627776 < c.pc) = true := decide_eq_true (by omega)
    go_wp2_with fail
    refine (awake_calls _).mono ?_
    rintro e w3 ⟨rfl, hb⟩
    go_wp2
    go_ret
    exact ⟨rfl, below_step HB.out hb⟩
  have g : decide (1099511627776 < c.pc) = false := decide_eq_false (by omega)
  have t0 : 0 ≤ self % 64 := by omega
  have t1 : self % 64 < 64 := by omega
  go_wp2_with fail
  generalize self % 64 = t at t0 t1 ⊢
  have hs : (step c i t).ok := step_ok hc hi t0 t1
  clear cp g
  refine start_ (n := 16) (S := fun w' => (w'.heap[w.heap.size]? = some (.cells #[.int .u32 c.r0, .int .u32 c.r1, .int .u32 c.r2, .int .u32 c.r3, .int .u32 c.r4, .int .u32 c.r5, .int .u32 c.r6, .int .u32 c.r7, .int .i64 c.pc] 25 (0, 0)) ∧ w'.heap[w.heap.size + 1]? = some (.cells #[.int .i64 i.f0, .int .i64 i.f1, .int .i64 i.f2, .int .i64 i.f3, .int .i64 i.f4, .int .i64 i.f5, .int .u32 i.f6, .int .i64 i.f7] 27 (0, 0)))) (ds := []) #[false, false, false, false, false, false, false, false, false, false, false, false, false, false, false, false] (by kernel_rfl) rfl rfl ⟨B0.out, B1.out⟩ (fun hHeld => ?_)
  have n2 := Aside0.mk (below_drew HB.out)
  have n0 := Aside0.mk hHeld.1
  have n1 := Aside0.mk hHeld.2
  clear B0 B1 HB
  have B0 := n0
  have B1 := n1
  have HB := n2
  clear n0 n1 n2
  generalize w2.drew = w2' at HB B0 B1 hHeld ⊢
  refine take_ (i := 0) (N := some 21) (v := .agg #[.int .u32 c.r0, .int .u32 c.r1, .int .u32 c.r2, .int .u32 c.r3, .int .u32 c.r4, .int .u32 c.r5, .int .u32 c.r6, .int .u32 c.r7, .int .i64 c.pc]) (a' := ?_) #[true, false, false, false, false, false, false, false, false, false, false, false, false, false, false, false] rfl rfl (by kernel_rfl) (fun _ _ _ h => h) (Or.inl ⟨by rfl, ?_⟩) hHeld ?_ ?_
  · intro w' hS
    have B := hS.1
    clear hHeld hS
    have c0 := (blk_cell B 0).trans rfl
    have c1 := (blk_cell B 1).trans rfl
    have c2 := (blk_cell B 2).trans rfl
    have c3 := (blk_cell B 3).trans rfl
    have c4 := (blk_cell B 4).trans rfl
    have c5 := (blk_cell B 5).trans rfl
    have c6 := (blk_cell B 6).trans rfl
    have c7 := (blk_cell B 7).trans rfl
    have c8 := (blk_cell B 8).trans rfl
    clear B
    go_simp
  rotate_left
  · simp only [Act.put, List.setIfInBounds_toArray, List.set_cons_zero, List.set_cons_succ, i64_w, i32_w]
    rfl
  refine take_ (i := 1) (N := some 22) (v := .agg #[.int .i64 i.f0, .int .i64 i.f1, .int .i64 i.f2, .int .i64 i.f3, .int .i64 i.f4, .int .i64 i.f5, .int .u32 i.f6, .int .i64 i.f7]) (a' := ?_) #[true, true, false, false, false, false, false, false, false, false, false, false, false, false, false, false] rfl rfl (by kernel_rfl) (fun _ _ _ h => h) (Or.inl ⟨by rfl, ?_⟩) hHeld ?_ ?_
  · intro w' hS
    have B := hS.2
    clear hHeld hS
    have c0 := (blk_cell B 0).trans rfl
    have c1 := (blk_cell B 1).trans rfl
    have c2 := (blk_cell B 2).trans rfl
    have c3 := (blk_cell B 3).trans rfl
    have c4 := (blk_cell B 4).trans rfl
    have c5 := (blk_cell B 5).trans rfl
    have c6 := (blk_cell B 6).trans rfl
    have c7 := (blk_cell B 7).trans rfl
    clear B
    go_simp
  rotate_left
  · simp only [Act.put, List.setIfInBounds_toArray, List.set_cons_zero, List.set_cons_succ, i64_w, i32_w]
    rfl
  refine take_ (i := 5) (N := some 26) (v := .agg #[.int .u32 c.r0, .int .u32 c.r1, .int .u32 c.r2, .int .u32 c.r3, .int .u32 c.r4, .int .u32 c.r5, .int .u32 c.r6, .int .u32 c.r7, .int .i64 c.pc]) (a' := ?_) #[true, true, false, false, false, true, false, false, false, false, false, false, false, false, false, false] rfl rfl (by kernel_rfl) (fun _ _ _ h => h) (Or.inl ⟨by rfl, ?_⟩) hHeld ?_ ?_
  · intro w' hS
    have B := hS.1
    clear hHeld hS
    have c0 := (blk_cell B 0).trans rfl
    have c1 := (blk_cell B 1).trans rfl
    have c2 := (blk_cell B 2).trans rfl
    have c3 := (blk_cell B 3).trans rfl
    have c4 := (blk_cell B 4).trans rfl
    have c5 := (blk_cell B 5).trans rfl
    have c6 := (blk_cell B 6).trans rfl
    have c7 := (blk_cell B 7).trans rfl
    have c8 := (blk_cell B 8).trans rfl
    clear B
    go_simp
  rotate_left
  · simp only [Act.put, List.setIfInBounds_toArray, List.set_cons_zero, List.set_cons_succ, i64_w, i32_w]
    rfl
  refine take_ (i := 7) (N := some 28) (v := .agg #[.int .i64 i.f0, .int .i64 i.f1, .int .i64 i.f2, .int .i64 i.f3, .int .i64 i.f4, .int .i64 i.f5, .int .u32 i.f6, .int .i64 i.f7]) (a' := ?_) #[true, true, false, false, false, true, false, true, false, false, false, false, false, false, false, false] rfl rfl (by kernel_rfl) (fun _ _ _ h => h) (Or.inl ⟨by rfl, ?_⟩) hHeld ?_ ?_
  · intro w' hS
    have B := hS.2
    clear hHeld hS
    have c0 := (blk_cell B 0).trans rfl
    have c1 := (blk_cell B 1).trans rfl
    have c2 := (blk_cell B 2).trans rfl
    have c3 := (blk_cell B 3).trans rfl
    have c4 := (blk_cell B 4).trans rfl
    have c5 := (blk_cell B 5).trans rfl
    have c6 := (blk_cell B 6).trans rfl
    have c7 := (blk_cell B 7).trans rfl
    clear B
    go_simp
  rotate_left
  · simp only [Act.put, List.setIfInBounds_toArray, List.set_cons_zero, List.set_cons_succ, i64_w, i32_w]
    rfl
  refine pure_ (i := 2) (N := some 23) (v := ?_) (a' := ?_) #[true, true, true, false, false, true, false, true, false, false, false, false, false, false, false, false] rfl rfl (by kernel_rfl) (fun _ _ _ h => h) (Or.inl ⟨by rfl, ?_⟩) ?_ ?_
  rotate_left
  · intro w'
    go_simp
    with_reducible rfl
  rotate_left
  · simp only [Act.put, List.setIfInBounds_toArray, List.set_cons_zero, List.set_cons_succ, i64_w, i32_w]
    rfl
  refine pure_ (i := 9) (N := some 30) (v := ?_) (a' := ?_) #[true, true, true, false, false, true, false, true, false, true, false, false, false, false, false, false] rfl rfl (by kernel_rfl) (fun _ _ _ h => h) (Or.inl ⟨by rfl, ?_⟩) ?_ ?_
  rotate_left
  · intro w'
    go_simp
    with_reducible rfl
  rotate_left
  · simp only [Act.put, List.setIfInBounds_toArray, List.set_cons_zero, List.set_cons_succ, i64_w, i32_w]
    rfl
  refine one_ (i := 3) (N := some 24) #[true, true, true, true, false, true, false, true, false, true, false, false, false, false, false, false] rfl rfl (by kernel_rfl) (by decide) (fun K hK => ?_)
  refine goes_ Try.func12 (by kernel_rfl) rfl #[.agg #[.int .u32 c.r0, .int .u32 c.r1, .int .u32 c.r2, .int .u32 c.r3, .int .u32 c.r4, .int .u32 c.r5, .int .u32 c.r6, .int .u32 c.r7, .int .i64 c.pc], .agg #[.int .i64 i.f0, .int .i64 i.f1, .int .i64 i.f2, .int .i64 i.f3, .int .i64 i.f4, .int .i64 i.f5, .int .u32 i.f6, .int .i64 i.f7], .int .i64 t] (by rfl) rfl rfl (by (try simp only [List.map_toArray, List.map_cons, List.map_nil]); first | done | rfl) ?_
  refine (one_calls c i t _ hc p0 p1 hi t0 t1).mono ?_
  rintro e w3 ⟨rfl, hb⟩
  refine ⟨_, rfl, ?_⟩
  have n0 := Aside0.mk (blk_below B0.out hb)
  have n1 := Aside0.mk (blk_below B1.out hb)
  have n2 := Aside0.mk (below_step HB.out hb)
  clear B0 B1 HB hb hHeld
  have B0 := n0
  have B1 := n1
  have HB := n2
  clear n0 n1 n2
  refine hK.out _ _ ⟨B0.out, B1.out⟩ (fun hHeld => ?_)
  clear hK K
  refine norm_ (a' := ?_) ?_ ?_
  rotate_left
  · show Act.put _ (some 24) _ = _
    simp only [Act.put, List.setIfInBounds_toArray, List.set_cons_zero, List.set_cons_succ, i64_w, i32_w]
    rfl
  refine one_ (i := 4) (N := some 25) #[true, true, true, true, true, true, false, true, false, true, false, false, false, false, false, false] rfl rfl (by kernel_rfl) (by decide) (fun K hK => ?_)
  refine goes_ Try.func11 (by kernel_rfl) rfl #[(step c i t).val] (by rfl) rfl rfl (by (try simp only [List.map_toArray, List.map_cons, List.map_nil]); first | done | rfl) ?_
  refine (toRef_calls (step c i t) hs _).mono ?_
  rintro e w3 ⟨rfl, hb⟩
  refine ⟨_, rfl, ?_⟩
  have n0 := Aside0.mk (blk_below B0.out hb)
  have n1 := Aside0.mk (blk_below B1.out hb)
  have n2 := Aside0.mk (below_step HB.out hb)
  clear B0 B1 HB hb hHeld
  have B0 := n0
  have B1 := n1
  have HB := n2
  clear n0 n1 n2
  refine hK.out _ _ ⟨B0.out, B1.out⟩ (fun hHeld => ?_)
  clear hK K
  refine norm_ (a' := ?_) ?_ ?_
  rotate_left
  · show Act.put _ (some 25) _ = _
    simp only [Act.put, List.setIfInBounds_toArray, List.set_cons_zero, List.set_cons_succ, i64_w, i32_w]
    rfl
  refine one_ (i := 6) (N := some 27) #[true, true, true, true, true, true, true, true, false, true, false, false, false, false, false, false] rfl rfl (by kernel_rfl) (by decide) (fun K hK => ?_)
  refine goes_ Try.func11 (by kernel_rfl) rfl #[.agg #[.int .u32 c.r0, .int .u32 c.r1, .int .u32 c.r2, .int .u32 c.r3, .int .u32 c.r4, .int .u32 c.r5, .int .u32 c.r6, .int .u32 c.r7, .int .i64 c.pc]] (by rfl) rfl rfl (by (try simp only [List.map_toArray, List.map_cons, List.map_nil]); first | done | rfl) ?_
  refine (toRef_calls c hc _).mono ?_
  rintro e w3 ⟨rfl, hb⟩
  refine ⟨_, rfl, ?_⟩
  have n0 := Aside0.mk (blk_below B0.out hb)
  have n1 := Aside0.mk (blk_below B1.out hb)
  have n2 := Aside0.mk (below_step HB.out hb)
  clear B0 B1 HB hb hHeld
  have B0 := n0
  have B1 := n1
  have HB := n2
  clear n0 n1 n2
  refine hK.out _ _ ⟨B0.out, B1.out⟩ (fun hHeld => ?_)
  clear hK K
  refine norm_ (a' := ?_) ?_ ?_
  rotate_left
  · show Act.put _ (some 27) _ = _
    simp only [Act.put, List.setIfInBounds_toArray, List.set_cons_zero, List.set_cons_succ, i64_w, i32_w]
    rfl
  refine one_ (i := 8) (N := some 29) #[true, true, true, true, true, true, true, true, true, true, false, false, false, false, false, false] rfl rfl (by kernel_rfl) (by decide) (fun K hK => ?_)
  refine goes_ Try.func9 (by kernel_rfl) rfl #[.agg #[.int .i64 i.f0, .int .i64 i.f1, .int .i64 i.f2, .int .i64 i.f3, .int .i64 i.f4, .int .i64 i.f5, .int .u32 i.f6, .int .i64 i.f7]] (by rfl) rfl rfl (by (try simp only [List.map_toArray, List.map_cons, List.map_nil]); first | done | rfl) ?_
  refine (iref_calls i _).mono ?_
  rintro e w3 ⟨rfl, hb⟩
  refine ⟨_, rfl, ?_⟩
  have n0 := Aside0.mk (blk_below B0.out hb)
  have n1 := Aside0.mk (blk_below B1.out hb)
  have n2 := Aside0.mk (below_step HB.out hb)
  clear B0 B1 HB hb hHeld
  have B0 := n0
  have B1 := n1
  have HB := n2
  clear n0 n1 n2
  refine hK.out _ _ ⟨B0.out, B1.out⟩ (fun hHeld => ?_)
  clear hK K
  refine norm_ (a' := ?_) ?_ ?_
  rotate_left
  · show Act.put _ (some 29) _ = _
    simp only [Act.put, List.setIfInBounds_toArray, List.set_cons_zero, List.set_cons_succ, i64_w, i32_w]
    rfl
  refine one_ (i := 10) (N := some 31) #[true, true, true, true, true, true, true, true, true, true, true, false, false, false, false, false] rfl rfl (by kernel_rfl) (by decide) (fun K hK => ?_)
  refine goes_ Try.func13 (by kernel_rfl) rfl #[c.ref, ival i, .int .i64 t] (by rfl) rfl rfl (by (try simp only [List.map_toArray, List.map_cons, List.map_nil]); first | done | rfl) ?_
  refine (ref_calls c i t _ hc p0 p1 hi t0 t1).mono ?_
  rintro e w3 ⟨rfl, hb⟩
  refine ⟨_, rfl, ?_⟩
  have n0 := Aside0.mk (blk_below B0.out hb)
  have n1 := Aside0.mk (blk_below B1.out hb)
  have n2 := Aside0.mk (below_step HB.out hb)
  clear B0 B1 HB hb hHeld
  have B0 := n0
  have B1 := n1
  have HB := n2
  clear n0 n1 n2
  refine hK.out _ _ ⟨B0.out, B1.out⟩ (fun hHeld => ?_)
  clear hK K
  refine norm_ (a' := ?_) ?_ ?_
  rotate_left
  · show Act.put _ (some 31) _ = _
    simp only [Act.put, List.setIfInBounds_toArray, List.set_cons_zero, List.set_cons_succ, i64_w, i32_w]
    rfl
  refine pure_ (i := 11) (N := some 32) (v := .bool true) (a' := ?_) #[true, true, true, true, true, true, true, true, true, true, true, true, false, false, false, false] rfl rfl (by kernel_rfl) (fun _ _ _ h => h) (Or.inl ⟨by rfl, ?_⟩) ?_ ?_
  · intro w'
    have e1 := eqg34 (.tmp 25) (.tmp 31) (step c i t) (step c i t) w'
    have e2 := eqo34 (step c i t) w'
    go_simp
  rotate_left
  · simp only [Act.put, List.setIfInBounds_toArray, List.set_cons_zero, List.set_cons_succ, i64_w, i32_w]
    rfl
  refine pure_ (i := 12) (N := some 33) (v := ?_) (a' := ?_) #[true, true, true, true, true, true, true, true, true, true, true, true, true, false, false, false] rfl rfl (by kernel_rfl) (fun _ _ _ h => h) (Or.inl ⟨by rfl, ?_⟩) ?_ ?_
  rotate_left
  · intro w'
    go_simp
    with_reducible rfl
  rotate_left
  · simp only [Act.put, List.setIfInBounds_toArray, List.set_cons_zero, List.set_cons_succ, i64_w, i32_w]
    rfl
  refine one_ (i := 13) (N := some 34) #[true, true, true, true, true, true, true, true, true, true, true, true, true, true, false, false] rfl rfl (by kernel_rfl) (by decide) (fun K hK => ?_)
  refine goes_ Try.func10 (by kernel_rfl) rfl #[] (by rfl) rfl rfl (by (try simp only [List.map_toArray, List.map_cons, List.map_nil]); first | done | rfl) ?_
  refine (awake_calls _).mono ?_
  rintro e w3 ⟨rfl, hb⟩
  refine ⟨_, rfl, ?_⟩
  have n0 := Aside0.mk (blk_below B0.out hb)
  have n1 := Aside0.mk (blk_below B1.out hb)
  have n2 := Aside0.mk (below_step HB.out hb)
  clear B0 B1 HB hb hHeld
  have B0 := n0
  have B1 := n1
  have HB := n2
  clear n0 n1 n2
  refine hK.out _ _ ⟨B0.out, B1.out⟩ (fun hHeld => ?_)
  clear hK K
  refine norm_ (a' := ?_) ?_ ?_
  rotate_left
  · show Act.put _ (some 34) _ = _
    simp only [Act.put, List.setIfInBounds_toArray, List.set_cons_zero, List.set_cons_succ, i64_w, i32_w]
    rfl
  refine pure_ (i := 14) (N := some 35) (v := ?_) (a' := ?_) #[true, true, true, true, true, true, true, true, true, true, true, true, true, true, true, false] rfl rfl (by kernel_rfl) (fun _ _ _ h => h) (Or.inl ⟨by rfl, ?_⟩) ?_ ?_
  rotate_left
  · intro w'
    go_simp
    with_reducible rfl
  rotate_left
  · simp only [Act.put, List.setIfInBounds_toArray, List.set_cons_zero, List.set_cons_succ, i64_w, i32_w]
    rfl
  refine pure_ (i := 15) (N := some 6) (v := ?_) (a' := ?_) #[true, true, true, true, true, true, true, true, true, true, true, true, true, true, true, true] rfl rfl (by kernel_rfl) (fun _ _ _ h => h) (Or.inl ⟨by rfl, ?_⟩) ?_ ?_
  rotate_left
  · intro w'
    go_simp
    with_reducible rfl
  rotate_left
  · simp only [Act.put, List.setIfInBounds_toArray, List.set_cons_zero, List.set_cons_succ, i64_w, i32_w]
    rfl
  refine done_ (by kernel_rfl) ?_
  go_wp2
  go_ret
  exact ⟨rfl, HB.out⟩
end Go.Proofs.Ytobjjmdaleoblaa.Co
