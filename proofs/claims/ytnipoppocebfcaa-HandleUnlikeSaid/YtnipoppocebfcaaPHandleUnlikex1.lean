-- PRINTED BY print.sh 35421559b90ae4d0a3588c463048766b98c2df88dd9212a6774a882060cdf62d: not written by this session
import Derived.Test.YtnipoppocebfcaaPHandleUnlikex0
namespace Go.Proofs.Ytnipoppocebfcaa.PHandleUnlike
open Go.RowKit Go.Proofs.YtnipoppocebfcaaW.PrintWords Go.Proofs.YtnipoppocebfcaaW.PrintLast Go.Proofs.YtnipoppocebfcaaW.PrintMore
attribute [local go_sem] max2_int min2_int max_two min_two max_three min_three max_four min_four   -- for this text's walks alone
set_option linter.unusedVariables false
set_option linter.unusedSimpArgs false

/-! ### handle_New: function 7 -/
def handle_New.f (a0 : Int) (a1 : Int) : Option (Int × Int) := if a0 < 0 then (some (0, 1)) else (if a0 ≥ 4096 then (some (0, 1)) else (if a1 < 0 then (some (0, 1)) else (if a1 ≥ 262144 then (some (0, 1)) else (some ((Go.bits .or .i64 (wrap64 (a1 * 4096)) a0) % 4294967296, 0)))))
set_option maxHeartbeats 8000000 in
set_option maxRecDepth 100000 in
theorem handle_New.calls (a0 : Int) (a1 : Int) (r1 : Int) (r2 : Int) (w : World) (h : handle_New.f a0 a1 = some (r1, r2)) :
    Calls Try.prog 7 #[.int .i64 a0, .int .i64 a1] w fun e w' => e = .returned (.tuple #[.int .u32 r1, .int .i64 r2]) ∧ Drawn0 w w' := by
  have H : (if a0 < 0 then (some (0, 1)) else (if a0 ≥ 4096 then (some (0, 1)) else (if a1 < 0 then (some (0, 1)) else (if a1 ≥ 262144 then (some (0, 1)) else (some ((Go.bits .or .i64 (wrap64 (a1 * 4096)) a0) % 4294967296, 0)))))) = some (r1, r2) := h
  clear h
  by_cases c3 : a0 < 0
  · rw [if_pos c3] at H
    have c3b0 : decide (a0 < 0) = true := decide_eq_true c3
    clear c3
    simp only [Option.some.injEq, Prod.mk.injEq] at H
    obtain ⟨rfl, rfl⟩ := H
    go_enter Try.func7, Try.ntmps7
    go_wp2
    go_ret2
    exact ⟨by first | rfl | (simp; done) | (simp [*]; done), by repeat (first | exact Drawn0.refl _ | apply Drawn0.step)⟩
  · rw [if_neg c3] at H
    have c3b0 : decide (a0 < 0) = false := decide_eq_false c3
    clear c3
    by_cases c4 : a0 ≥ 4096
    · rw [if_pos c4] at H
      have c4b0 : decide (4096 ≤ a0) = true := decide_eq_true c4
      clear c4
      simp only [Option.some.injEq, Prod.mk.injEq] at H
      obtain ⟨rfl, rfl⟩ := H
      go_enter Try.func7, Try.ntmps7
      go_wp2
      go_ret2
      exact ⟨by first | rfl | (simp; done) | (simp [*]; done), by repeat (first | exact Drawn0.refl _ | apply Drawn0.step)⟩
    · rw [if_neg c4] at H
      have c4b0 : decide (4096 ≤ a0) = false := decide_eq_false c4
      clear c4
      by_cases c5 : a1 < 0
      · rw [if_pos c5] at H
        have c5b0 : decide (a1 < 0) = true := decide_eq_true c5
        clear c5
        simp only [Option.some.injEq, Prod.mk.injEq] at H
        obtain ⟨rfl, rfl⟩ := H
        go_enter Try.func7, Try.ntmps7
        go_wp2
        go_ret2
        exact ⟨by first | rfl | (simp; done) | (simp [*]; done), by repeat (first | exact Drawn0.refl _ | apply Drawn0.step)⟩
      · rw [if_neg c5] at H
        have c5b0 : decide (a1 < 0) = false := decide_eq_false c5
        clear c5
        by_cases c6 : a1 ≥ 262144
        · rw [if_pos c6] at H
          have c6b0 : decide (262144 ≤ a1) = true := decide_eq_true c6
          clear c6
          simp only [Option.some.injEq, Prod.mk.injEq] at H
          obtain ⟨rfl, rfl⟩ := H
          go_enter Try.func7, Try.ntmps7
          go_wp2
          go_ret2
          exact ⟨by first | rfl | (simp; done) | (simp [*]; done), by repeat (first | exact Drawn0.refl _ | apply Drawn0.step)⟩
        · rw [if_neg c6] at H
          have c6b0 : decide (262144 ≤ a1) = false := decide_eq_false c6
          clear c6
          simp only [Option.some.injEq, Prod.mk.injEq] at H
          obtain ⟨rfl, rfl⟩ := H
          go_enter Try.func7, Try.ntmps7
          go_wp2
          go_ret2
          exact ⟨by first | rfl | (simp; done) | (simp [*]; done), by repeat (first | exact Drawn0.refl _ | apply Drawn0.step)⟩

/-! ### handle_Index: function 11 -/
def handle_Index.f (a0 : Int) : Option (Int) := some (wrap64 (Go.bits .and .u32 a0 4095))
set_option maxHeartbeats 8000000 in
set_option maxRecDepth 100000 in
theorem handle_Index.calls (a0 : Int) (r : Int) (w : World) (h : handle_Index.f a0 = some r) :
    Calls Try.prog 11 #[.int .u32 a0] w fun e w' => e = .returned (.int .i64 r) ∧ Drawn0 w w' := by
  have H : (some (wrap64 (Go.bits .and .u32 a0 4095))) = some r := h
  clear h
  obtain rfl := Option.some.inj H
  go_enter Try.func11, Try.ntmps11
  go_wp2
  go_ret
  exact ⟨by first | rfl | (simp; done) | (simp [*]; done), by repeat (first | exact Drawn0.refl _ | apply Drawn0.step)⟩

/-! ### handle_Gen: function 12 -/
def handle_Gen.f (a0 : Int) : Option (Int) := some (wrap64 (Go.bits .and .u32 (a0 / 4096) 262143))
set_option maxHeartbeats 8000000 in
set_option maxRecDepth 100000 in
theorem handle_Gen.calls (a0 : Int) (r : Int) (w : World) (h : handle_Gen.f a0 = some r) :
    Calls Try.prog 12 #[.int .u32 a0] w fun e w' => e = .returned (.int .i64 r) ∧ Drawn0 w w' := by
  have H : (some (wrap64 (Go.bits .and .u32 (a0 / 4096) 262143))) = some r := h
  clear h
  obtain rfl := Option.some.inj H
  go_enter Try.func12, Try.ntmps12
  go_wp2
  go_ret
  exact ⟨by first | rfl | (simp; done) | (simp [*]; done), by repeat (first | exact Drawn0.refl _ | apply Drawn0.step)⟩

/-! ### handle_Next: function 15 -/
def handle_Next.f (a0 : Int) : Option (Int) := (handle_Index.f a0).bind fun t101 => ((handle_Gen.f a0).bind fun t102 => ((handle_New.f t101 (Int.tmod (wrap64 (t102 + 1)) 262144)).bind fun bt103 => (some bt103.1)))
set_option maxHeartbeats 8000000 in
set_option maxRecDepth 100000 in
theorem handle_Next.calls (a0 : Int) (r : Int) (w : World) (h : handle_Next.f a0 = some r) :
    Calls Try.prog 15 #[.int .u32 a0] w fun e w' => e = .returned (.int .u32 r) ∧ Drawn0 w w' := by
  have H : ((handle_Index.f a0).bind fun t101 => ((handle_Gen.f a0).bind fun t102 => ((handle_New.f t101 (Int.tmod (wrap64 (t102 + 1)) 262144)).bind fun bt103 => (some bt103.1)))) = some r := h
  clear h
  replace H := Option.bind_eq_some_iff.mp H
  obtain ⟨t101, A20, H⟩ := H
  replace H : ((handle_Gen.f a0).bind fun t102 => ((handle_New.f t101 (Int.tmod (wrap64 (t102 + 1)) 262144)).bind fun bt103 => (some bt103.1))) = some r := H
  have A2 := Aside0.mk A20
  clear A20
  replace H := Option.bind_eq_some_iff.mp H
  obtain ⟨t102, A30, H⟩ := H
  replace H : ((handle_New.f t101 (Int.tmod (wrap64 (t102 + 1)) 262144)).bind fun bt103 => (some bt103.1)) = some r := H
  have A3 := Aside0.mk A30
  clear A30
  replace H := Option.bind_eq_some_iff.mp H
  obtain ⟨⟨t103, t104⟩, A40, H⟩ := H
  replace H : (some t103) = some r := H
  have A4 := Aside0.mk A40
  clear A40
  obtain rfl := Option.some.inj H
  go_enter Try.func15, Try.ntmps15
  go_wp2_with (first | ((with_reducible refine gate_callee (f := 11) rfl ?_); refine goesL_ (some 7) rfl rfl Try.func11 (by kernel_rfl) rfl #[.int .u32 a0] rfl (by (try simp only [List.map_toArray, List.map_cons, List.map_nil]); first | done | rfl | (simp only [List.length_drop, List.length_take]; rfl)) ?_; (with_reducible refine (handle_Index.calls a0 t101 _ A2.out).mono ?_); rintro e w' ⟨rfl, ⟨nd, rfl⟩⟩; refine ⟨_, rfl, ?_⟩) | ((with_reducible refine gate_callee (f := 12) rfl ?_); refine goesL_ (some 9) rfl rfl Try.func12 (by kernel_rfl) rfl #[.int .u32 a0] rfl (by (try simp only [List.map_toArray, List.map_cons, List.map_nil]); first | done | rfl | (simp only [List.length_drop, List.length_take]; rfl)) ?_; (with_reducible refine (handle_Gen.calls a0 t102 _ A3.out).mono ?_); rintro e w' ⟨rfl, ⟨nd, rfl⟩⟩; refine ⟨_, rfl, ?_⟩) | ((with_reducible refine gate_callee (f := 7) rfl ?_); refine goesL_ (some 12) rfl rfl Try.func7 (by kernel_rfl) rfl #[.int .i64 t101, .int .i64 (Int.tmod (wrap64 (t102 + 1)) 262144)] rfl (by (try simp only [List.map_toArray, List.map_cons, List.map_nil]); first | done | rfl | (simp only [List.length_drop, List.length_take]; rfl)) ?_; (with_reducible refine (handle_New.calls t101 (Int.tmod (wrap64 (t102 + 1)) 262144) t103 t104 _ A4.out).mono ?_); rintro e w' ⟨rfl, ⟨nd, rfl⟩⟩; refine ⟨_, rfl, ?_⟩))
  go_ret
  exact ⟨by first | rfl | (simp; done) | (simp [*]; done), by repeat (first | exact Drawn0.refl _ | apply Drawn0.step)⟩

/-! ### ropelinelaw01_awake: function 8 -/
def ropelinelaw01_awake.f  : Option (Bool) := (handle_New.f 5 2).bind fun bt105 => (if bt105.1 = 8197 then (if bt105.2 = 0 then ((handle_Next.f bt105.1).bind fun t107 => (some (t107 == 12293))) else (some false)) else (some false))
set_option maxHeartbeats 8000000 in
set_option maxRecDepth 100000 in
theorem ropelinelaw01_awake.calls  (r : Bool) (w : World) (h : ropelinelaw01_awake.f  = some r) :
    Calls Try.prog 8 #[] w fun e w' => e = .returned (.bool r) ∧ Drawn0 w w' := by
  have H : ((handle_New.f 5 2).bind fun bt105 => (if bt105.1 = 8197 then (if bt105.2 = 0 then ((handle_Next.f bt105.1).bind fun t107 => (some (t107 == 12293))) else (some false)) else (some false))) = some r := h
  clear h
  replace H := Option.bind_eq_some_iff.mp H
  obtain ⟨⟨t105, t106⟩, A10, H⟩ := H
  replace H : (if t105 = 8197 then (if t106 = 0 then ((handle_Next.f t105).bind fun t107 => (some (t107 == 12293))) else (some false)) else (some false)) = some r := H
  have A1 := Aside0.mk A10
  clear A10
  by_cases c2 : t105 = 8197
  · rw [if_pos c2] at H
    have c2b0 : (t105 == 8197) = true := beq_iff_eq.mpr c2
    have c2b1 : (t105 != 8197) = false := bne_eq_false_iff_eq.mpr c2
    clear c2
    by_cases c3 : t106 = 0
    · rw [if_pos c3] at H
      have c3b0 : (t106 == 0) = true := beq_iff_eq.mpr c3
      have c3b1 : (t106 != 0) = false := bne_eq_false_iff_eq.mpr c3
      clear c3
      replace H := Option.bind_eq_some_iff.mp H
      obtain ⟨t107, A40, H⟩ := H
      replace H : (some (t107 == 12293)) = some r := H
      have A4 := Aside0.mk A40
      clear A40
      obtain rfl := Option.some.inj H
      go_enter Try.func8, Try.ntmps8
      go_wp2_with (first | ((with_reducible refine gate_callee (f := 7) rfl ?_); refine goesL_ (some 4) rfl rfl Try.func7 (by kernel_rfl) rfl #[.int .i64 5, .int .i64 2] rfl (by (try simp only [List.map_toArray, List.map_cons, List.map_nil]); first | done | rfl | (simp only [List.length_drop, List.length_take]; rfl)) ?_; (with_reducible refine (handle_New.calls 5 2 t105 t106 _ A1.out).mono ?_); rintro e w' ⟨rfl, ⟨nd, rfl⟩⟩; refine ⟨_, rfl, ?_⟩) | (go_at_call 15; (with_reducible refine (handle_Next.calls t105 t107 _ A4.out).mono ?_); rintro e w' ⟨rfl, ⟨nd, rfl⟩⟩))
      go_ret
      exact ⟨by first | rfl | (simp; done) | (simp [*]; done), by repeat (first | exact Drawn0.refl _ | apply Drawn0.step)⟩
    · rw [if_neg c3] at H
      have c3b0 : (t106 == 0) = false := beq_eq_false_iff_ne.mpr c3
      have c3b1 : (t106 != 0) = true := bne_iff_ne.mpr c3
      obtain rfl := Option.some.inj H
      go_enter Try.func8, Try.ntmps8
      go_wp2_with (first | ((with_reducible refine gate_callee (f := 7) rfl ?_); refine goesL_ (some 4) rfl rfl Try.func7 (by kernel_rfl) rfl #[.int .i64 5, .int .i64 2] rfl (by (try simp only [List.map_toArray, List.map_cons, List.map_nil]); first | done | rfl | (simp only [List.length_drop, List.length_take]; rfl)) ?_; (with_reducible refine (handle_New.calls 5 2 t105 t106 _ A1.out).mono ?_); rintro e w' ⟨rfl, ⟨nd, rfl⟩⟩; refine ⟨_, rfl, ?_⟩))
      go_ret
      exact ⟨by first | rfl | (simp; done) | (simp [*]; done), by repeat (first | exact Drawn0.refl _ | apply Drawn0.step)⟩
  · rw [if_neg c2] at H
    have c2b0 : (t105 == 8197) = false := beq_eq_false_iff_ne.mpr c2
    have c2b1 : (t105 != 8197) = true := bne_iff_ne.mpr c2
    obtain rfl := Option.some.inj H
    go_enter Try.func8, Try.ntmps8
    go_wp2_with (first | ((with_reducible refine gate_callee (f := 7) rfl ?_); refine goesL_ (some 4) rfl rfl Try.func7 (by kernel_rfl) rfl #[.int .i64 5, .int .i64 2] rfl (by (try simp only [List.map_toArray, List.map_cons, List.map_nil]); first | done | rfl | (simp only [List.length_drop, List.length_take]; rfl)) ?_; (with_reducible refine (handle_New.calls 5 2 t105 t106 _ A1.out).mono ?_); rintro e w' ⟨rfl, ⟨nd, rfl⟩⟩; refine ⟨_, rfl, ?_⟩))
    go_ret
    exact ⟨by first | rfl | (simp; done) | (simp [*]; done), by repeat (first | exact Drawn0.refl _ | apply Drawn0.step)⟩

-- NOT PRINTED: function 3 (ropelinelaw01_HandleUnlike)

end Go.Proofs.Ytnipoppocebfcaa.PHandleUnlike
