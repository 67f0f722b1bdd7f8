-- PRINTED BY print.sh 35421559b90ae4d0a3588c463048766b98c2df88dd9212a6774a882060cdf62d: not written by this session
import Derived.Test.YtnipoppocebfcaaPHandlePartsx0
namespace Go.Proofs.Ytnipoppocebfcaa.PHandleParts
open Go.RowKit Go.Proofs.YtnipoppocebfcaaW.PrintWords Go.Proofs.YtnipoppocebfcaaW.PrintLast Go.Proofs.YtnipoppocebfcaaW.PrintMore
attribute [local go_sem] max2_int min2_int max_two min_two max_three min_three max_four min_four   -- for this text's walks alone
set_option linter.unusedVariables false
set_option linter.unusedSimpArgs false

/-! ### handle_New: function 7 -/
def handle_New.f (a0 : Int) (a1 : Int) : Option (Int × Int) := if a0 < 0 then (some (0, 1)) else (if a0 ≥ 4096 then (some (0, 1)) else (if a1 < 0 then (some (0, 1)) else (if a1 ≥ 262144 then (some (0, 1)) else (some ((Go.bits .or .i64 (wrap64 (a1 * 4096)) a0) % 4294967296, 0)))))
set_option maxHeartbeats 8000000 in
set_option maxRecDepth 100000 in
theorem handle_New.calls (a0 : Int) (a1 : Int) (r1 : Int) (r2 : Int) (w : World) (h : handle_New.f a0 a1 = some (r1, r2)) :
    Calls Try.prog 7 #[.int .i64 a0, .int .i64 a1] w fun e w' => e = .returned (.tuple #[.int .u32 r1, .int .i64 r2]) ∧ Drawn0 w w' := by
  have H : (if a0 < 0 then (some (0, 1)) else (if a0 ≥ 4096 then (some (0, 1)) else (if a1 < 0 then (some (0, 1)) else (if a1 ≥ 262144 then (some (0, 1)) else (some ((Go.bits .or .i64 (wrap64 (a1 * 4096)) a0) % 4294967296, 0)))))) = some (r1, r2) := h
  clear h
  by_cases c3 : a0 < 0
  · rw [if_pos c3] at H
    have c3b0 : decide (a0 < 0) = true := decide_eq_true c3
    clear c3
    simp only [Option.some.injEq, Prod.mk.injEq] at H
    obtain ⟨rfl, rfl⟩ := H
    go_enter Try.func7, Try.ntmps7
    go_wp2
    go_ret2
    exact ⟨by first | rfl | (simp; done) | (simp [*]; done), by repeat (first | exact Drawn0.refl _ | apply Drawn0.step)⟩
  · rw [if_neg c3] at H
    have c3b0 : decide (a0 < 0) = false := decide_eq_false c3
    clear c3
    by_cases c4 : a0 ≥ 4096
    · rw [if_pos c4] at H
      have c4b0 : decide (4096 ≤ a0) = true := decide_eq_true c4
      clear c4
      simp only [Option.some.injEq, Prod.mk.injEq] at H
      obtain ⟨rfl, rfl⟩ := H
      go_enter Try.func7, Try.ntmps7
      go_wp2
      go_ret2
      exact ⟨by first | rfl | (simp; done) | (simp [*]; done), by repeat (first | exact Drawn0.refl _ | apply Drawn0.step)⟩
    · rw [if_neg c4] at H
      have c4b0 : decide (4096 ≤ a0) = false := decide_eq_false c4
      clear c4
      by_cases c5 : a1 < 0
      · rw [if_pos c5] at H
        have c5b0 : decide (a1 < 0) = true := decide_eq_true c5
        clear c5
        simp only [Option.some.injEq, Prod.mk.injEq] at H
        obtain ⟨rfl, rfl⟩ := H
        go_enter Try.func7, Try.ntmps7
        go_wp2
        go_ret2
        exact ⟨by first | rfl | (simp; done) | (simp [*]; done), by repeat (first | exact Drawn0.refl _ | apply Drawn0.step)⟩
      · rw [if_neg c5] at H
        have c5b0 : decide (a1 < 0) = false := decide_eq_false c5
        clear c5
        by_cases c6 : a1 ≥ 262144
        · rw [if_pos c6] at H
          have c6b0 : decide (262144 ≤ a1) = true := decide_eq_true c6
          clear c6
          simp only [Option.some.injEq, Prod.mk.injEq] at H
          obtain ⟨rfl, rfl⟩ := H
          go_enter Try.func7, Try.ntmps7
          go_wp2
          go_ret2
          exact ⟨by first | rfl | (simp; done) | (simp [*]; done), by repeat (first | exact Drawn0.refl _ | apply Drawn0.step)⟩
        · rw [if_neg c6] at H
          have c6b0 : decide (262144 ≤ a1) = false := decide_eq_false c6
          clear c6
          simp only [Option.some.injEq, Prod.mk.injEq] at H
          obtain ⟨rfl, rfl⟩ := H
          go_enter Try.func7, Try.ntmps7
          go_wp2
          go_ret2
          exact ⟨by first | rfl | (simp; done) | (simp [*]; done), by repeat (first | exact Drawn0.refl _ | apply Drawn0.step)⟩

/-! ### handle_Index: function 11 -/
def handle_Index.f (a0 : Int) : Option (Int) := some (wrap64 (Go.bits .and .u32 a0 4095))
set_option maxHeartbeats 8000000 in
set_option maxRecDepth 100000 in
theorem handle_Index.calls (a0 : Int) (r : Int) (w : World) (h : handle_Index.f a0 = some r) :
    Calls Try.prog 11 #[.int .u32 a0] w fun e w' => e = .returned (.int .i64 r) ∧ Drawn0 w w' := by
  have H : (some (wrap64 (Go.bits .and .u32 a0 4095))) = some r := h
  clear h
  obtain rfl := Option.some.inj H
  go_enter Try.func11, Try.ntmps11
  go_wp2
  go_ret
  exact ⟨by first | rfl | (simp; done) | (simp [*]; done), by repeat (first | exact Drawn0.refl _ | apply Drawn0.step)⟩

/-! ### handle_Gen: function 12 -/
def handle_Gen.f (a0 : Int) : Option (Int) := some (wrap64 (Go.bits .and .u32 (a0 / 4096) 262143))
set_option maxHeartbeats 8000000 in
set_option maxRecDepth 100000 in
theorem handle_Gen.calls (a0 : Int) (r : Int) (w : World) (h : handle_Gen.f a0 = some r) :
    Calls Try.prog 12 #[.int .u32 a0] w fun e w' => e = .returned (.int .i64 r) ∧ Drawn0 w w' := by
  have H : (some (wrap64 (Go.bits .and .u32 (a0 / 4096) 262143))) = some r := h
  clear h
  obtain rfl := Option.some.inj H
  go_enter Try.func12, Try.ntmps12
  go_wp2
  go_ret
  exact ⟨by first | rfl | (simp; done) | (simp [*]; done), by repeat (first | exact Drawn0.refl _ | apply Drawn0.step)⟩

/-! ### handle_Next: function 15 -/
def handle_Next.f (a0 : Int) : Option (Int) := (handle_Index.f a0).bind fun t101 => ((handle_Gen.f a0).bind fun t102 => ((handle_New.f t101 (Int.tmod (wrap64 (t102 + 1)) 262144)).bind fun bt103 => (some bt103.1)))
set_option maxHeartbeats 8000000 in
set_option maxRecDepth 100000 in
theorem handle_Next.calls (a0 : Int) (r : Int) (w : World) (h : handle_Next.f a0 = some r) :
    Calls Try.prog 15 #[.int .u32 a0] w fun e w' => e = .returned (.int .u32 r) ∧ Drawn0 w w' := by
  have H : ((handle_Index.f a0).bind fun t101 => ((handle_Gen.f a0).bind fun t102 => ((handle_New.f t101 (Int.tmod (wrap64 (t102 + 1)) 262144)).bind fun bt103 => (some bt103.1)))) = some r := h
  clear h
  replace H := Option.bind_eq_some_iff.mp H
  obtain ⟨t101, A20, H⟩ := H
  replace H : ((handle_Gen.f a0).bind fun t102 => ((handle_New.f t101 (Int.tmod (wrap64 (t102 + 1)) 262144)).bind fun bt103 => (some bt103.1))) = some r := H
  have A2 := Aside0.mk A20
  clear A20
  replace H := Option.bind_eq_some_iff.mp H
  obtain ⟨t102, A30, H⟩ := H
  replace H : ((handle_New.f t101 (Int.tmod (wrap64 (t102 + 1)) 262144)).bind fun bt103 => (some bt103.1)) = some r := H
  have A3 := Aside0.mk A30
  clear A30
  replace H := Option.bind_eq_some_iff.mp H
  obtain ⟨⟨t103, t104⟩, A40, H⟩ := H
  replace H : (some t103) = some r := H
  have A4 := Aside0.mk A40
  clear A40
  obtain rfl := Option.some.inj H
  go_enter Try.func15, Try.ntmps15
  go_wp2_with (first | ((with_reducible refine gate_callee (f := 11) rfl ?_); refine goesL_ (some 7) rfl rfl Try.func11 (by kernel_rfl) rfl #[.int .u32 a0] rfl (by (try simp only [List.map_toArray, List.map_cons, List.map_nil]); first | done | rfl | (simp only [List.length_drop, List.length_take]; rfl)) ?_; (with_reducible refine (handle_Index.calls a0 t101 _ A2.out).mono ?_); rintro e w' ⟨rfl, ⟨nd, rfl⟩⟩; refine ⟨_, rfl, ?_⟩) | ((with_reducible refine gate_callee (f := 12) rfl ?_); refine goesL_ (some 9) rfl rfl Try.func12 (by kernel_rfl) rfl #[.int .u32 a0] rfl (by (try simp only [List.map_toArray, List.map_cons, List.map_nil]); first | done | rfl | (simp only [List.length_drop, List.length_take]; rfl)) ?_; (with_reducible refine (handle_Gen.calls a0 t102 _ A3.out).mono ?_); rintro e w' ⟨rfl, ⟨nd, rfl⟩⟩; refine ⟨_, rfl, ?_⟩) | ((with_reducible refine gate_callee (f := 7) rfl ?_); refine goesL_ (some 12) rfl rfl Try.func7 (by kernel_rfl) rfl #[.int .i64 t101, .int .i64 (Int.tmod (wrap64 (t102 + 1)) 262144)] rfl (by (try simp only [List.map_toArray, List.map_cons, List.map_nil]); first | done | rfl | (simp only [List.length_drop, List.length_take]; rfl)) ?_; (with_reducible refine (handle_New.calls t101 (Int.tmod (wrap64 (t102 + 1)) 262144) t103 t104 _ A4.out).mono ?_); rintro e w' ⟨rfl, ⟨nd, rfl⟩⟩; refine ⟨_, rfl, ?_⟩))
  go_ret
  exact ⟨by first | rfl | (simp; done) | (simp [*]; done), by repeat (first | exact Drawn0.refl _ | apply Drawn0.step)⟩

/-! ### ropelinelaw01_awake: function 8 -/
def ropelinelaw01_awake.f  : Option (Bool) := (handle_New.f 5 2).bind fun bt105 => (if bt105.1 = 8197 then (if bt105.2 = 0 then ((handle_Next.f bt105.1).bind fun t107 => (some (t107 == 12293))) else (some false)) else (some false))
set_option maxHeartbeats 8000000 in
set_option maxRecDepth 100000 in
theorem ropelinelaw01_awake.calls  (r : Bool) (w : World) (h : ropelinelaw01_awake.f  = some r) :
    Calls Try.prog 8 #[] w fun e w' => e = .returned (.bool r) ∧ Drawn0 w w' := by
  have H : ((handle_New.f 5 2).bind fun bt105 => (if bt105.1 = 8197 then (if bt105.2 = 0 then ((handle_Next.f bt105.1).bind fun t107 => (some (t107 == 12293))) else (some false)) else (some false))) = some r := h
  clear h
  replace H := Option.bind_eq_some_iff.mp H
  obtain ⟨⟨t105, t106⟩, A10, H⟩ := H
  replace H : (if t105 = 8197 then (if t106 = 0 then ((handle_Next.f t105).bind fun t107 => (some (t107 == 12293))) else (some false)) else (some false)) = some r := H
  have A1 := Aside0.mk A10
  clear A10
  by_cases c2 : t105 = 8197
  · rw [if_pos c2] at H
    have c2b0 : (t105 == 8197) = true := beq_iff_eq.mpr c2
    have c2b1 : (t105 != 8197) = false := bne_eq_false_iff_eq.mpr c2
    clear c2
    by_cases c3 : t106 = 0
    · rw [if_pos c3] at H
      have c3b0 : (t106 == 0) = true := beq_iff_eq.mpr c3
      have c3b1 : (t106 != 0) = false := bne_eq_false_iff_eq.mpr c3
      clear c3
      replace H := Option.bind_eq_some_iff.mp H
      obtain ⟨t107, A40, H⟩ := H
      replace H : (some (t107 == 12293)) = some r := H
      have A4 := Aside0.mk A40
      clear A40
      obtain rfl := Option.some.inj H
      go_enter Try.func8, Try.ntmps8
      go_wp2_with (first | ((with_reducible refine gate_callee (f := 7) rfl ?_); refine goesL_ (some 4) rfl rfl Try.func7 (by kernel_rfl) rfl #[.int .i64 5, .int .i64 2] rfl (by (try simp only [List.map_toArray, List.map_cons, List.map_nil]); first | done | rfl | (simp only [List.length_drop, List.length_take]; rfl)) ?_; (with_reducible refine (handle_New.calls 5 2 t105 t106 _ A1.out).mono ?_); rintro e w' ⟨rfl, ⟨nd, rfl⟩⟩; refine ⟨_, rfl, ?_⟩) | (go_at_call 15; (with_reducible refine (handle_Next.calls t105 t107 _ A4.out).mono ?_); rintro e w' ⟨rfl, ⟨nd, rfl⟩⟩))
      go_ret
      exact ⟨by first | rfl | (simp; done) | (simp [*]; done), by repeat (first | exact Drawn0.refl _ | apply Drawn0.step)⟩
    · rw [if_neg c3] at H
      have c3b0 : (t106 == 0) = false := beq_eq_false_iff_ne.mpr c3
      have c3b1 : (t106 != 0) = true := bne_iff_ne.mpr c3
      obtain rfl := Option.some.inj H
      go_enter Try.func8, Try.ntmps8
      go_wp2_with (first | ((with_reducible refine gate_callee (f := 7) rfl ?_); refine goesL_ (some 4) rfl rfl Try.func7 (by kernel_rfl) rfl #[.int .i64 5, .int .i64 2] rfl (by (try simp only [List.map_toArray, List.map_cons, List.map_nil]); first | done | rfl | (simp only [List.length_drop, List.length_take]; rfl)) ?_; (with_reducible refine (handle_New.calls 5 2 t105 t106 _ A1.out).mono ?_); rintro e w' ⟨rfl, ⟨nd, rfl⟩⟩; refine ⟨_, rfl, ?_⟩))
      go_ret
      exact ⟨by first | rfl | (simp; done) | (simp [*]; done), by repeat (first | exact Drawn0.refl _ | apply Drawn0.step)⟩
  · rw [if_neg c2] at H
    have c2b0 : (t105 == 8197) = false := beq_eq_false_iff_ne.mpr c2
    have c2b1 : (t105 != 8197) = true := bne_iff_ne.mpr c2
    obtain rfl := Option.some.inj H
    go_enter Try.func8, Try.ntmps8
    go_wp2_with (first | ((with_reducible refine gate_callee (f := 7) rfl ?_); refine goesL_ (some 4) rfl rfl Try.func7 (by kernel_rfl) rfl #[.int .i64 5, .int .i64 2] rfl (by (try simp only [List.map_toArray, List.map_cons, List.map_nil]); first | done | rfl | (simp only [List.length_drop, List.length_take]; rfl)) ?_; (with_reducible refine (handle_New.calls 5 2 t105 t106 _ A1.out).mono ?_); rintro e w' ⟨rfl, ⟨nd, rfl⟩⟩; refine ⟨_, rfl, ?_⟩))
    go_ret
    exact ⟨by first | rfl | (simp; done) | (simp [*]; done), by repeat (first | exact Drawn0.refl _ | apply Drawn0.step)⟩

/-! ### handle_Right: function 10 -/
def handle_Right.f (a0 : Int) : Option (Bool) := some (decide (a0 < 1073741824))
set_option maxHeartbeats 8000000 in
set_option maxRecDepth 100000 in
theorem handle_Right.calls (a0 : Int) (r : Bool) (w : World) (h : handle_Right.f a0 = some r) :
    Calls Try.prog 10 #[.int .u32 a0] w fun e w' => e = .returned (.bool r) ∧ Drawn0 w w' := by
  have H : (some (decide (a0 < 1073741824))) = some r := h
  clear h
  obtain rfl := Option.some.inj H
  go_enter Try.func10, Try.ntmps10
  go_wp2
  go_ret
  exact ⟨by first | rfl | (simp; done) | (simp [*]; done), by repeat (first | exact Drawn0.refl _ | apply Drawn0.step)⟩

/-! ### ropelineref01_Index: function 13 -/
def ropelineref01_Index.f (a0 : Int) : Option (Int) := some (Int.tmod (wrap64 (a0)) 4096)
set_option maxHeartbeats 8000000 in
set_option maxRecDepth 100000 in
theorem ropelineref01_Index.calls (a0 : Int) (r : Int) (w : World) (h : ropelineref01_Index.f a0 = some r) :
    Calls Try.prog 13 #[.int .u32 a0] w fun e w' => e = .returned (.int .i64 r) ∧ Drawn0 w w' := by
  have H : (some (Int.tmod (wrap64 (a0)) 4096)) = some r := h
  clear h
  obtain rfl := Option.some.inj H
  go_enter Try.func13, Try.ntmps13
  go_wp2
  go_ret
  exact ⟨by first | rfl | (simp; done) | (simp [*]; done), by repeat (first | exact Drawn0.refl _ | apply Drawn0.step)⟩

/-! ### ropelineref01_Gen: function 14 -/
def ropelineref01_Gen.f (a0 : Int) : Option (Int) := some (Int.tmod (wrap64 (Int.tdiv (wrap64 (a0)) 4096)) 262144)
set_option maxHeartbeats 8000000 in
set_option maxRecDepth 100000 in
theorem ropelineref01_Gen.calls (a0 : Int) (r : Int) (w : World) (h : ropelineref01_Gen.f a0 = some r) :
    Calls Try.prog 14 #[.int .u32 a0] w fun e w' => e = .returned (.int .i64 r) ∧ Drawn0 w w' := by
  have H : (some (Int.tmod (wrap64 (Int.tdiv (wrap64 (a0)) 4096)) 262144)) = some r := h
  clear h
  obtain rfl := Option.some.inj H
  go_enter Try.func14, Try.ntmps14
  go_wp2
  go_ret
  exact ⟨by first | rfl | (simp; done) | (simp [*]; done), by repeat (first | exact Drawn0.refl _ | apply Drawn0.step)⟩

/-! ### ropelineref01_Next: function 16 -/
def ropelineref01_Next.f (a0 : Int) : Option (Int) := (ropelineref01_Gen.f a0).bind fun t108 => (if (wrap64 (t108 + 1)) = 262144 then ((ropelineref01_Index.f a0).bind fun t109 => (some ((wrap64 ((0 * 4096) + t109)) % 4294967296))) else ((ropelineref01_Index.f a0).bind fun t110 => (some ((wrap64 ((wrap64 ((wrap64 (t108 + 1)) * 4096)) + t110)) % 4294967296))))
set_option maxHeartbeats 8000000 in
set_option maxRecDepth 100000 in
theorem ropelineref01_Next.calls (a0 : Int) (r : Int) (w : World) (h : ropelineref01_Next.f a0 = some r) :
    Calls Try.prog 16 #[.int .u32 a0] w fun e w' => e = .returned (.int .u32 r) ∧ Drawn0 w w' := by
  have H : ((ropelineref01_Gen.f a0).bind fun t108 => (if (wrap64 (t108 + 1)) = 262144 then ((ropelineref01_Index.f a0).bind fun t109 => (some ((wrap64 ((0 * 4096) + t109)) % 4294967296))) else ((ropelineref01_Index.f a0).bind fun t110 => (some ((wrap64 ((wrap64 ((wrap64 (t108 + 1)) * 4096)) + t110)) % 4294967296))))) = some r := h
  clear h
  replace H := Option.bind_eq_some_iff.mp H
  obtain ⟨t108, A20, H⟩ := H
  replace H : (if (wrap64 (t108 + 1)) = 262144 then ((ropelineref01_Index.f a0).bind fun t109 => (some ((wrap64 ((0 * 4096) + t109)) % 4294967296))) else ((ropelineref01_Index.f a0).bind fun t110 => (some ((wrap64 ((wrap64 ((wrap64 (t108 + 1)) * 4096)) + t110)) % 4294967296)))) = some r := H
  have A2 := Aside0.mk A20
  clear A20
  by_cases c3 : (wrap64 (t108 + 1)) = 262144
  · rw [if_pos c3] at H
    have c3b0 : ((wrap64 (t108 + 1)) == 262144) = true := beq_iff_eq.mpr c3
    have c3b1 : ((wrap64 (t108 + 1)) != 262144) = false := bne_eq_false_iff_eq.mpr c3
    clear c3
    replace H := Option.bind_eq_some_iff.mp H
    obtain ⟨t109, A40, H⟩ := H
    replace H : (some ((wrap64 ((0 * 4096) + t109)) % 4294967296)) = some r := H
    have A4 := Aside0.mk A40
    clear A40
    obtain rfl := Option.some.inj H
    go_enter Try.func16, Try.ntmps16
    go_wp2_with (first | ((with_reducible refine gate_callee (f := 14) rfl ?_); refine goesL_ (some 5) rfl rfl Try.func14 (by kernel_rfl) rfl #[.int .u32 a0] rfl (by (try simp only [List.map_toArray, List.map_cons, List.map_nil]); first | done | rfl | (simp only [List.length_drop, List.length_take]; rfl)) ?_; (with_reducible refine (ropelineref01_Gen.calls a0 t108 _ A2.out).mono ?_); rintro e w' ⟨rfl, ⟨nd, rfl⟩⟩; refine ⟨_, rfl, ?_⟩) | ((with_reducible refine gate_callee (f := 13) rfl ?_); refine goesL_ (some 12) rfl rfl Try.func13 (by kernel_rfl) rfl #[.int .u32 a0] rfl (by (try simp only [List.map_toArray, List.map_cons, List.map_nil]); first | done | rfl | (simp only [List.length_drop, List.length_take]; rfl)) ?_; (with_reducible refine (ropelineref01_Index.calls a0 t109 _ A4.out).mono ?_); rintro e w' ⟨rfl, ⟨nd, rfl⟩⟩; refine ⟨_, rfl, ?_⟩))
    go_ret
    exact ⟨by first | rfl | (simp; done) | (simp [*]; done), by repeat (first | exact Drawn0.refl _ | apply Drawn0.step)⟩
  · rw [if_neg c3] at H
    have c3b0 : ((wrap64 (t108 + 1)) == 262144) = false := beq_eq_false_iff_ne.mpr c3
    have c3b1 : ((wrap64 (t108 + 1)) != 262144) = true := bne_iff_ne.mpr c3
    replace H := Option.bind_eq_some_iff.mp H
    obtain ⟨t110, A50, H⟩ := H
    replace H : (some ((wrap64 ((wrap64 ((wrap64 (t108 + 1)) * 4096)) + t110)) % 4294967296)) = some r := H
    have A5 := Aside0.mk A50
    clear A50
    obtain rfl := Option.some.inj H
    go_enter Try.func16, Try.ntmps16
    go_wp2_with (first | ((with_reducible refine gate_callee (f := 14) rfl ?_); refine goesL_ (some 5) rfl rfl Try.func14 (by kernel_rfl) rfl #[.int .u32 a0] rfl (by (try simp only [List.map_toArray, List.map_cons, List.map_nil]); first | done | rfl | (simp only [List.length_drop, List.length_take]; rfl)) ?_; (with_reducible refine (ropelineref01_Gen.calls a0 t108 _ A2.out).mono ?_); rintro e w' ⟨rfl, ⟨nd, rfl⟩⟩; refine ⟨_, rfl, ?_⟩) | ((with_reducible refine gate_callee (f := 13) rfl ?_); refine goesL_ (some 12) rfl rfl Try.func13 (by kernel_rfl) rfl #[.int .u32 a0] rfl (by (try simp only [List.map_toArray, List.map_cons, List.map_nil]); first | done | rfl | (simp only [List.length_drop, List.length_take]; rfl)) ?_; (with_reducible refine (ropelineref01_Index.calls a0 t110 _ A5.out).mono ?_); rintro e w' ⟨rfl, ⟨nd, rfl⟩⟩; refine ⟨_, rfl, ?_⟩))
    go_ret
    exact ⟨by first | rfl | (simp; done) | (simp [*]; done), by repeat (first | exact Drawn0.refl _ | apply Drawn0.step)⟩

/-! ### ropelinelaw01_HandleParts: function 5 -/
def ropelinelaw01_HandleParts.j0 : Nat → Int → Bool → Option (Bool)
  | 0, _, _ => none
  | k + 1, x0, x21 => if x21 = true then (some false) else ((handle_Next.f x0).bind fun t116 => ((ropelineref01_Next.f x0).bind fun t117 => (if t116 = t117 then ((ropelinelaw01_awake.f).bind fun t118 => (some t118)) else (some false))))
def ropelinelaw01_HandleParts.f (k : Nat) (a0 : Int) : Option (Bool) := (handle_Index.f a0).bind fun t111 => ((ropelineref01_Index.f a0).bind fun t112 => (if t111 = t112 then ((handle_Gen.f a0).bind fun t113 => ((ropelineref01_Gen.f a0).bind fun t114 => (if t113 = t114 then ((handle_Right.f a0).bind fun t115 => (ropelinelaw01_HandleParts.j0 k a0 (t115 != (decide (a0 < 1073741824))))) else (ropelinelaw01_HandleParts.j0 k a0 true)))) else (ropelinelaw01_HandleParts.j0 k a0 true)))
theorem ropelinelaw01_HandleParts.mono_l : ∀ k, (∀ y0 y1, LeO (ropelinelaw01_HandleParts.j0 k y0 y1) (ropelinelaw01_HandleParts.j0 (k + 1) y0 y1))
  | 0 => fun _ _ r h => by simp [ropelinelaw01_HandleParts.j0] at h
  | k + 1 => by
    have ih0 := ropelinelaw01_HandleParts.mono_l k
    · intro y0 y1
      unfold ropelinelaw01_HandleParts.j0
      repeat' first
      | (with_reducible exact ih0 _ _)
      | (with_reducible exact LeO.refl _)
      | (with_reducible exact LeO.none _)
      | (with_reducible refine LeO.ite ?_ ?_)
      | (with_reducible refine LeO.bind ?_ (fun _ => ?_))
      | exact ih0 _ _
      | exact LeO.none _
      | refine LeO.ite ?_ ?_
      | refine LeO.bind ?_ (fun _ => ?_)
theorem ropelinelaw01_HandleParts.mono : ∀ a0 k, LeO (ropelinelaw01_HandleParts.f k a0) (ropelinelaw01_HandleParts.f (k + 1) a0) := by
  intro a0 k
  have ih0 := ropelinelaw01_HandleParts.mono_l k
  unfold ropelinelaw01_HandleParts.f
  repeat' first
      | (with_reducible exact ih0 _ _)
      | (with_reducible exact LeO.refl _)
      | (with_reducible exact LeO.none _)
      | (with_reducible refine LeO.ite ?_ ?_)
      | (with_reducible refine LeO.bind ?_ (fun _ => ?_))
      | exact ih0 _ _
      | exact LeO.none _
      | refine LeO.ite ?_ ?_
      | refine LeO.bind ?_ (fun _ => ?_)
set_option maxHeartbeats 8000000 in
set_option maxRecDepth 100000 in
theorem ropelinelaw01_HandleParts.calls (k : Nat) (a0 : Int) (r : Bool) (w : World) (h : ropelinelaw01_HandleParts.f k a0 = some r) :
    Calls Try.prog 5 #[.int .u32 a0] w fun e w' => e = .returned (.bool r) ∧ Drawn0 w w' := by
  have H : ((handle_Index.f a0).bind fun t111 => ((ropelineref01_Index.f a0).bind fun t112 => (if t111 = t112 then ((handle_Gen.f a0).bind fun t113 => ((ropelineref01_Gen.f a0).bind fun t114 => (if t113 = t114 then ((handle_Right.f a0).bind fun t115 => (ropelinelaw01_HandleParts.j0 k a0 (t115 != (decide (a0 < 1073741824))))) else (ropelinelaw01_HandleParts.j0 k a0 true)))) else (ropelinelaw01_HandleParts.j0 k a0 true)))) = some r := h
  clear h
  have HC2 := Aside0.mk H
  clear H
  go_enter Try.func5, Try.ntmps5
  go_upto_region 1 with (fail)
  go_cut [21] (fun v21 wc => ∃ (kq : Nat) (x21_1 : Bool), v21 = .bool x21_1 ∧ Aside0 (ropelinelaw01_HandleParts.j0 kq a0 x21_1 = some r) ∧ Aside0 (kq ≤ k) ∧ Drawn0 w wc)
  case first =>
    have H := HC2.out
    clear HC2
    replace H := Option.bind_eq_some_iff.mp H
    obtain ⟨t111, A30, H⟩ := H
    replace H : ((ropelineref01_Index.f a0).bind fun t112 => (if t111 = t112 then ((handle_Gen.f a0).bind fun t113 => ((ropelineref01_Gen.f a0).bind fun t114 => (if t113 = t114 then ((handle_Right.f a0).bind fun t115 => (ropelinelaw01_HandleParts.j0 k a0 (t115 != (decide (a0 < 1073741824))))) else (ropelinelaw01_HandleParts.j0 k a0 true)))) else (ropelinelaw01_HandleParts.j0 k a0 true))) = some r := H
    have A3 := Aside0.mk A30
    clear A30
    replace H := Option.bind_eq_some_iff.mp H
    obtain ⟨t112, A40, H⟩ := H
    replace H : (if t111 = t112 then ((handle_Gen.f a0).bind fun t113 => ((ropelineref01_Gen.f a0).bind fun t114 => (if t113 = t114 then ((handle_Right.f a0).bind fun t115 => (ropelinelaw01_HandleParts.j0 k a0 (t115 != (decide (a0 < 1073741824))))) else (ropelinelaw01_HandleParts.j0 k a0 true)))) else (ropelinelaw01_HandleParts.j0 k a0 true)) = some r := H
    have A4 := Aside0.mk A40
    clear A40
    by_cases c5 : t111 = t112
    · rw [if_pos c5] at H
      have c5b0 : (t111 == t112) = true := beq_iff_eq.mpr c5
      have c5b1 : (t111 != t112) = false := bne_eq_false_iff_eq.mpr c5
      clear c5
      (first | rw [c5b0] | (simp only [i64_w, i32_w]; rw [c5b0]) | skip)
      replace H := Option.bind_eq_some_iff.mp H
      obtain ⟨t113, A60, H⟩ := H
      replace H : ((ropelineref01_Gen.f a0).bind fun t114 => (if t113 = t114 then ((handle_Right.f a0).bind fun t115 => (ropelinelaw01_HandleParts.j0 k a0 (t115 != (decide (a0 < 1073741824))))) else (ropelinelaw01_HandleParts.j0 k a0 true))) = some r := H
      have A6 := Aside0.mk A60
      clear A60
      replace H := Option.bind_eq_some_iff.mp H
      obtain ⟨t114, A70, H⟩ := H
      replace H : (if t113 = t114 then ((handle_Right.f a0).bind fun t115 => (ropelinelaw01_HandleParts.j0 k a0 (t115 != (decide (a0 < 1073741824))))) else (ropelinelaw01_HandleParts.j0 k a0 true)) = some r := H
      have A7 := Aside0.mk A70
      clear A70
      by_cases c8 : t113 = t114
      · rw [if_pos c8] at H
        have c8b0 : (t113 == t114) = true := beq_iff_eq.mpr c8
        have c8b1 : (t113 != t114) = false := bne_eq_false_iff_eq.mpr c8
        clear c8
        replace H := Option.bind_eq_some_iff.mp H
        obtain ⟨t115, A90, H⟩ := H
        replace H : (ropelinelaw01_HandleParts.j0 k a0 (t115 != (decide (a0 < 1073741824)))) = some r := H
        have A9 := Aside0.mk A90
        clear A90
        have H' := Aside0.mk H
        clear H
        go_wp2_with (first | ((with_reducible refine gate_callee (f := 11) rfl ?_); refine goesL_ (some 4) rfl rfl Try.func11 (by kernel_rfl) rfl #[.int .u32 a0] rfl (by (try simp only [List.map_toArray, List.map_cons, List.map_nil]); first | done | rfl | (simp only [List.length_drop, List.length_take]; rfl)) ?_; (with_reducible refine (handle_Index.calls a0 t111 _ A3.out).mono ?_); rintro e w' ⟨rfl, ⟨nd, rfl⟩⟩; refine ⟨_, rfl, ?_⟩) | ((with_reducible refine gate_callee (f := 13) rfl ?_); refine goesL_ (some 6) rfl rfl Try.func13 (by kernel_rfl) rfl #[.int .u32 a0] rfl (by (try simp only [List.map_toArray, List.map_cons, List.map_nil]); first | done | rfl | (simp only [List.length_drop, List.length_take]; rfl)) ?_; (with_reducible refine (ropelineref01_Index.calls a0 t112 _ A4.out).mono ?_); rintro e w' ⟨rfl, ⟨nd, rfl⟩⟩; refine ⟨_, rfl, ?_⟩) | (go_at_call 12; (with_reducible refine (handle_Gen.calls a0 t113 _ A6.out).mono ?_); rintro e w' ⟨rfl, ⟨nd, rfl⟩⟩) | (go_at_call 14; (with_reducible refine (ropelineref01_Gen.calls a0 t114 _ A7.out).mono ?_); rintro e w' ⟨rfl, ⟨nd, rfl⟩⟩) | (go_at_call 10; (with_reducible refine (handle_Right.calls a0 t115 _ A9.out).mono ?_); rintro e w' ⟨rfl, ⟨nd, rfl⟩⟩))
        go_meet
        case rel => exact ⟨_, ((t115 != (decide (a0 < 1073741824)))), (by first | rfl | (simp; done) | (simp [*]; done)), H', ⟨by first | omega | exact Nat.le_refl _⟩, by repeat (first | exact Drawn0.refl _ | apply Drawn0.step)⟩
      · rw [if_neg c8] at H
        have c8b0 : (t113 == t114) = false := beq_eq_false_iff_ne.mpr c8
        have c8b1 : (t113 != t114) = true := bne_iff_ne.mpr c8
        have H' := Aside0.mk H
        clear H
        go_wp2_with (first | ((with_reducible refine gate_callee (f := 11) rfl ?_); refine goesL_ (some 4) rfl rfl Try.func11 (by kernel_rfl) rfl #[.int .u32 a0] rfl (by (try simp only [List.map_toArray, List.map_cons, List.map_nil]); first | done | rfl | (simp only [List.length_drop, List.length_take]; rfl)) ?_; (with_reducible refine (handle_Index.calls a0 t111 _ A3.out).mono ?_); rintro e w' ⟨rfl, ⟨nd, rfl⟩⟩; refine ⟨_, rfl, ?_⟩) | ((with_reducible refine gate_callee (f := 13) rfl ?_); refine goesL_ (some 6) rfl rfl Try.func13 (by kernel_rfl) rfl #[.int .u32 a0] rfl (by (try simp only [List.map_toArray, List.map_cons, List.map_nil]); first | done | rfl | (simp only [List.length_drop, List.length_take]; rfl)) ?_; (with_reducible refine (ropelineref01_Index.calls a0 t112 _ A4.out).mono ?_); rintro e w' ⟨rfl, ⟨nd, rfl⟩⟩; refine ⟨_, rfl, ?_⟩) | (go_at_call 12; (with_reducible refine (handle_Gen.calls a0 t113 _ A6.out).mono ?_); rintro e w' ⟨rfl, ⟨nd, rfl⟩⟩) | (go_at_call 14; (with_reducible refine (ropelineref01_Gen.calls a0 t114 _ A7.out).mono ?_); rintro e w' ⟨rfl, ⟨nd, rfl⟩⟩))
        go_meet
        case rel => exact ⟨_, (true), (by first | rfl | (simp; done) | (simp [*]; done)), H', ⟨by first | omega | exact Nat.le_refl _⟩, by repeat (first | exact Drawn0.refl _ | apply Drawn0.step)⟩
    · rw [if_neg c5] at H
      have c5b0 : (t111 == t112) = false := beq_eq_false_iff_ne.mpr c5
      have c5b1 : (t111 != t112) = true := bne_iff_ne.mpr c5
      (first | rw [c5b0] | (simp only [i64_w, i32_w]; rw [c5b0]) | skip)
      have H' := Aside0.mk H
      clear H
      go_wp2_with (first | ((with_reducible refine gate_callee (f := 11) rfl ?_); refine goesL_ (some 4) rfl rfl Try.func11 (by kernel_rfl) rfl #[.int .u32 a0] rfl (by (try simp only [List.map_toArray, List.map_cons, List.map_nil]); first | done | rfl | (simp only [List.length_drop, List.length_take]; rfl)) ?_; (with_reducible refine (handle_Index.calls a0 t111 _ A3.out).mono ?_); rintro e w' ⟨rfl, ⟨nd, rfl⟩⟩; refine ⟨_, rfl, ?_⟩) | ((with_reducible refine gate_callee (f := 13) rfl ?_); refine goesL_ (some 6) rfl rfl Try.func13 (by kernel_rfl) rfl #[.int .u32 a0] rfl (by (try simp only [List.map_toArray, List.map_cons, List.map_nil]); first | done | rfl | (simp only [List.length_drop, List.length_take]; rfl)) ?_; (with_reducible refine (ropelineref01_Index.calls a0 t112 _ A4.out).mono ?_); rintro e w' ⟨rfl, ⟨nd, rfl⟩⟩; refine ⟨_, rfl, ?_⟩))
      go_meet
      case rel => exact ⟨_, (true), (by first | rfl | (simp; done) | (simp [*]; done)), H', ⟨by first | omega | exact Nat.le_refl _⟩, by repeat (first | exact Drawn0.refl _ | apply Drawn0.step)⟩
  case rest =>
    clear HC2
    try clear c1
    try clear p2
    try clear c5
    try clear c5b0
    try clear c5b1
    try clear c8
    try clear c8b0
    try clear c8b1
    obtain ⟨kq, x21_1, rfl, HA, HJ1, ⟨mc1, rfl⟩⟩ := hcut
    cases kq with
    | zero => exact absurd HA.out (by simp [ropelinelaw01_HandleParts.j0])
    | succ kj1 =>
      have H := HA.out
      clear HA
      simp only [ropelinelaw01_HandleParts.j0] at H
      by_cases c10 : x21_1 = true
      · subst c10
        have H1 : (some false) = some r := by rw [if_pos rfl] at H; exact H
        clear H
        have H := H1
        clear H1
        obtain rfl := Option.some.inj H
        go_wp2
        go_ret
        exact ⟨by first | rfl | (simp; done) | (simp [*]; done), by repeat (first | exact Drawn0.refl _ | apply Drawn0.step)⟩
      · replace c10 := Bool.eq_false_iff.mpr c10
        subst c10
        have H1 : ((handle_Next.f a0).bind fun t116 => ((ropelineref01_Next.f a0).bind fun t117 => (if t116 = t117 then ((ropelinelaw01_awake.f).bind fun t118 => (some t118)) else (some false)))) = some r := by rw [if_neg (show ¬ (false = true) by decide)] at H; exact H
        clear H
        have H := H1
        clear H1
        replace H := Option.bind_eq_some_iff.mp H
        obtain ⟨t116, A110, H⟩ := H
        replace H : ((ropelineref01_Next.f a0).bind fun t117 => (if t116 = t117 then ((ropelinelaw01_awake.f).bind fun t118 => (some t118)) else (some false))) = some r := H
        have A11 := Aside0.mk A110
        clear A110
        replace H := Option.bind_eq_some_iff.mp H
        obtain ⟨t117, A120, H⟩ := H
        replace H : (if t116 = t117 then ((ropelinelaw01_awake.f).bind fun t118 => (some t118)) else (some false)) = some r := H
        have A12 := Aside0.mk A120
        clear A120
        by_cases c13 : t116 = t117
        · rw [if_pos c13] at H
          have c13b0 : (t116 == t117) = true := beq_iff_eq.mpr c13
          have c13b1 : (t116 != t117) = false := bne_eq_false_iff_eq.mpr c13
          clear c13
          replace H := Option.bind_eq_some_iff.mp H
          obtain ⟨t118, A140, H⟩ := H
          replace H : (some t118) = some r := H
          have A14 := Aside0.mk A140
          clear A140
          obtain rfl := Option.some.inj H
          go_wp2_with (first | ((with_reducible refine gate_callee (f := 15) rfl ?_); refine goesL_ (some 23) rfl rfl Try.func15 (by kernel_rfl) rfl #[.int .u32 a0] rfl (by (try simp only [List.map_toArray, List.map_cons, List.map_nil]); first | done | rfl | (simp only [List.length_drop, List.length_take]; rfl)) ?_; (with_reducible refine (handle_Next.calls a0 t116 _ A11.out).mono ?_); rintro e w' ⟨rfl, ⟨nd, rfl⟩⟩; refine ⟨_, rfl, ?_⟩) | ((with_reducible refine gate_callee (f := 16) rfl ?_); refine goesL_ (some 25) rfl rfl Try.func16 (by kernel_rfl) rfl #[.int .u32 a0] rfl (by (try simp only [List.map_toArray, List.map_cons, List.map_nil]); first | done | rfl | (simp only [List.length_drop, List.length_take]; rfl)) ?_; (with_reducible refine (ropelineref01_Next.calls a0 t117 _ A12.out).mono ?_); rintro e w' ⟨rfl, ⟨nd, rfl⟩⟩; refine ⟨_, rfl, ?_⟩) | (go_at_call 8; (with_reducible refine (ropelinelaw01_awake.calls  t118 _ A14.out).mono ?_); rintro e w' ⟨rfl, ⟨nd, rfl⟩⟩))
          go_ret
          exact ⟨by first | rfl | (simp; done) | (simp [*]; done), by repeat (first | exact Drawn0.refl _ | apply Drawn0.step)⟩
        · rw [if_neg c13] at H
          have c13b0 : (t116 == t117) = false := beq_eq_false_iff_ne.mpr c13
          have c13b1 : (t116 != t117) = true := bne_iff_ne.mpr c13
          obtain rfl := Option.some.inj H
          go_wp2_with (first | ((with_reducible refine gate_callee (f := 15) rfl ?_); refine goesL_ (some 23) rfl rfl Try.func15 (by kernel_rfl) rfl #[.int .u32 a0] rfl (by (try simp only [List.map_toArray, List.map_cons, List.map_nil]); first | done | rfl | (simp only [List.length_drop, List.length_take]; rfl)) ?_; (with_reducible refine (handle_Next.calls a0 t116 _ A11.out).mono ?_); rintro e w' ⟨rfl, ⟨nd, rfl⟩⟩; refine ⟨_, rfl, ?_⟩) | ((with_reducible refine gate_callee (f := 16) rfl ?_); refine goesL_ (some 25) rfl rfl Try.func16 (by kernel_rfl) rfl #[.int .u32 a0] rfl (by (try simp only [List.map_toArray, List.map_cons, List.map_nil]); first | done | rfl | (simp only [List.length_drop, List.length_take]; rfl)) ?_; (with_reducible refine (ropelineref01_Next.calls a0 t117 _ A12.out).mono ?_); rintro e w' ⟨rfl, ⟨nd, rfl⟩⟩; refine ⟨_, rfl, ?_⟩))
          go_ret
          exact ⟨by first | rfl | (simp; done) | (simp [*]; done), by repeat (first | exact Drawn0.refl _ | apply Drawn0.step)⟩

/-- THE ONE PURE STATEMENT of ropelinelaw01_HandleParts: yours. -/
def ropelinelaw01_HandleParts.Pure : Prop := ∀ (a0 : Int), (Lit.int .u32 a0).wf = true → ∃ k, ropelinelaw01_HandleParts.f k a0 = some true
theorem ropelinelaw01_HandleParts.walk (P : ropelinelaw01_HandleParts.Pure) (a0 : Int) (w : World) (w0 : (Lit.int .u32 a0).wf = true) :
    Calls Try.prog 5 #[.int .u32 a0] w fun e w' => e = .returned (.bool true) ∧ Below w.heap.size w w' := by
  obtain ⟨k, h⟩ := P a0 w0
  refine (ropelinelaw01_HandleParts.calls k a0 true w h).mono ?_
  rintro e w' ⟨rfl, hd⟩
  exact ⟨rfl, hd.below⟩

end Go.Proofs.Ytnipoppocebfcaa.PHandleParts
