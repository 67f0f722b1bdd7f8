/- EventEncodes: what the law comes to. -/
import Derived.Test.YtmlpbhgdlociiaaEvAwake
import Derived.Test.YtmlpbhgdlociiaaEvRefDecode
import Derived.Test.YtmlpbhgdlociiaaEvEncode
import Derived.Test.YtmlpbhgdlociiaaEvRefRight
namespace Go.Proofs.Ytmlpbhgdlociiaa.Ev
open Go.RowKit Go.Proofs.YtmlpbhgdlociiaaW.PrintWords Go.Proofs.YtmlpbhgdlociiaaW.PrintLast Go.Proofs.YtmlpbhgdlociiaaW.PrintMore Go.Proofs.Ytmlpbhgdlociiaa.PEventEncodes
attribute [local go_sem] max2_int min2_int max_two min_two max_three min_three max_four min_four
set_option linter.unusedVariables false
set_option linter.unusedSimpArgs false
attribute [local go_sem high] eqA29 eqA30
/-! ### ropelinelaw24_EventEncodes: function 4 -/
mutual
def ropelinelaw24_EventEncodes.l0 : Nat → List (S29) → List Int → Int → Int → Int → List (S29) → Int → Int → Option (Bool)
  | 0, _, _, _, _, _, _, _, _ => none
  | k + 1, x0, x3, x4, x5, x6, x22, x23, x24 => if x24 < x23 then (if 0 ≤ x24 then (if x24 < (x22.length : Int) then ((ropelinelaw23_Ref.f ((rd_T29 x22 x24).f0) ((rd_T29 x22 x24).f1) ((rd_T29 x22 x24).f2)).bind fun bt180 => ((ropelineref24_Right.f k bt180.1 bt180.2.1 bt180.2.2).bind fun t183 => ((event_Right.f ((rd_T29 x22 x24).f0) ((rd_T29 x22 x24).f1) ((rd_T29 x22 x24).f2)).bind fun t184 => (if (t184 != t183) = true then (some false) else (if t183 = true then (if ((rd_T29 x22 x24).f0) = 4 then (ropelinelaw24_EventEncodes.l0 k x0 x3 x4 x5 (wrap64 ((wrap64 (x6 + 1)) + 1)) x22 x23 (wrap64 (x24 + 1))) else (ropelinelaw24_EventEncodes.l0 k x0 x3 x4 x5 (wrap64 (x6 + 1)) x22 x23 (wrap64 (x24 + 1)))) else (if x5 = 8 then (if x4 = x24 then (if (x3.length : Int) = 0 then ((ropelinelaw24_awake.f k).bind fun t185 => (some t185)) else (some false)) else (some false)) else (some false))))))) else (none)) else (none)) else ((ropelineref24_Decode.f k (strOfNums x3)).bind fun t186 => (if x5 = 0 then (if x4 = (x0.length : Int) then (if (x3.length : Int) = x6 then (ropelinelaw24_EventEncodes.j1 k x0 t186 ((t186.length : Int) != (x0.length : Int))) else (ropelinelaw24_EventEncodes.j1 k x0 t186 true)) else (ropelinelaw24_EventEncodes.j1 k x0 t186 true)) else (ropelinelaw24_EventEncodes.j1 k x0 t186 true)))
def ropelinelaw24_EventEncodes.j1 : Nat → List (S29) → List (S30) → Bool → Option (Bool)
  | 0, _, _, _ => none
  | k + 1, x0, x10, x84 => if x84 = true then (some false) else (ropelinelaw24_EventEncodes.l1 k x0 x10 (x0.length : Int) 0)
def ropelinelaw24_EventEncodes.l1 : Nat → List (S29) → List (S30) → Int → Int → Option (Bool)
  | 0, _, _, _, _ => none
  | k + 1, x0, x10, x86, x87 => if x87 < x86 then (if 0 ≤ x87 then (if x87 < (x10.length : Int) then (if x87 < (x0.length : Int) then ((ropelinelaw23_Ref.f ((rd_T29 x0 x87).f0) ((rd_T29 x0 x87).f1) ((rd_T29 x0 x87).f2)).bind fun bt191 => (if (!(((rd_T30 x10 x87).f0) == bt191.1) || (!(((rd_T30 x10 x87).f1) == bt191.2.1) || (!(((rd_T30 x10 x87).f2) == bt191.2.2)))) = true then (some false) else (ropelinelaw24_EventEncodes.l1 k x0 x10 x86 (wrap64 (x87 + 1))))) else (none)) else (none)) else (none)) else ((ropelinelaw24_awake.f k).bind fun t194 => (some t194))
end
def ropelinelaw24_EventEncodes.f (k : Nat) (l0 : List (S29)) : Option (Bool) := if (l0.length : Int) > 100 then ((ropelinelaw24_awake.f k).bind fun t172 => (some t172)) else ((event_Encode.f k l0).bind fun bt173 => (ropelinelaw24_EventEncodes.l0 k l0 bt173.1 bt173.2.1 bt173.2.2 0 l0 (l0.length : Int) 0))
theorem ropelinelaw24_EventEncodes.mono_l : ∀ k, (∀ y0 y1 y2 y3 y4 y5 y6 y7, LeO (ropelinelaw24_EventEncodes.l0 k y0 y1 y2 y3 y4 y5 y6 y7) (ropelinelaw24_EventEncodes.l0 (k + 1) y0 y1 y2 y3 y4 y5 y6 y7)) ∧ (∀ y0 y1 y2, LeO (ropelinelaw24_EventEncodes.j1 k y0 y1 y2) (ropelinelaw24_EventEncodes.j1 (k + 1) y0 y1 y2)) ∧ (∀ y0 y1 y2 y3, LeO (ropelinelaw24_EventEncodes.l1 k y0 y1 y2 y3) (ropelinelaw24_EventEncodes.l1 (k + 1) y0 y1 y2 y3))
  | 0 => ⟨fun _ _ _ _ _ _ _ _ r h => by simp [ropelinelaw24_EventEncodes.l0] at h, fun _ _ _ r h => by simp [ropelinelaw24_EventEncodes.j1] at h, fun _ _ _ _ r h => by simp [ropelinelaw24_EventEncodes.l1] at h⟩
  | k + 1 => by
    obtain ⟨ih0, ih1, ih2⟩ := ropelinelaw24_EventEncodes.mono_l k
    refine ⟨?_, ?_, ?_⟩
    · intro y0 y1 y2 y3 y4 y5 y6 y7
      unfold ropelinelaw24_EventEncodes.l0
      repeat' first
      | (with_reducible exact ih0 _ _ _ _ _ _ _ _)
      | (with_reducible exact ih1 _ _ _)
      | (with_reducible exact ih2 _ _ _ _)
      | (with_reducible exact event_Encode.mono _ _)
      | (with_reducible exact ropelinelaw24_awake.mono _)
      | (with_reducible exact ropelineref24_Decode.mono _ _)
      | (with_reducible exact ropelineref24_Right.mono _ _ _ _)
      | (with_reducible exact LeO.refl _)
      | (with_reducible exact LeO.none _)
      | (with_reducible refine LeO.ite ?_ ?_)
      | (with_reducible refine LeO.bind ?_ (fun _ => ?_))
      | exact ih0 _ _ _ _ _ _ _ _
      | exact ih1 _ _ _
      | exact ih2 _ _ _ _
      | exact event_Encode.mono _ _
      | exact ropelinelaw24_awake.mono _
      | exact ropelineref24_Decode.mono _ _
      | exact ropelineref24_Right.mono _ _ _ _
      | exact LeO.none _
      | refine LeO.ite ?_ ?_
      | refine LeO.bind ?_ (fun _ => ?_)
    · intro y0 y1 y2
      unfold ropelinelaw24_EventEncodes.j1
      repeat' first
      | (with_reducible exact ih0 _ _ _ _ _ _ _ _)
      | (with_reducible exact ih1 _ _ _)
      | (with_reducible exact ih2 _ _ _ _)
      | (with_reducible exact event_Encode.mono _ _)
      | (with_reducible exact ropelinelaw24_awake.mono _)
      | (with_reducible exact ropelineref24_Decode.mono _ _)
      | (with_reducible exact ropelineref24_Right.mono _ _ _ _)
      | (with_reducible exact LeO.refl _)
      | (with_reducible exact LeO.none _)
      | (with_reducible refine LeO.ite ?_ ?_)
      | (with_reducible refine LeO.bind ?_ (fun _ => ?_))
      | exact ih0 _ _ _ _ _ _ _ _
      | exact ih1 _ _ _
      | exact ih2 _ _ _ _
      | exact event_Encode.mono _ _
      | exact ropelinelaw24_awake.mono _
      | exact ropelineref24_Decode.mono _ _
      | exact ropelineref24_Right.mono _ _ _ _
      | exact LeO.none _
      | refine LeO.ite ?_ ?_
      | refine LeO.bind ?_ (fun _ => ?_)
    · intro y0 y1 y2 y3
      unfold ropelinelaw24_EventEncodes.l1
      repeat' first
      | (with_reducible exact ih0 _ _ _ _ _ _ _ _)
      | (with_reducible exact ih1 _ _ _)
      | (with_reducible exact ih2 _ _ _ _)
      | (with_reducible exact event_Encode.mono _ _)
      | (with_reducible exact ropelinelaw24_awake.mono _)
      | (with_reducible exact ropelineref24_Decode.mono _ _)
      | (with_reducible exact ropelineref24_Right.mono _ _ _ _)
      | (with_reducible exact LeO.refl _)
      | (with_reducible exact LeO.none _)
      | (with_reducible refine LeO.ite ?_ ?_)
      | (with_reducible refine LeO.bind ?_ (fun _ => ?_))
      | exact ih0 _ _ _ _ _ _ _ _
      | exact ih1 _ _ _
      | exact ih2 _ _ _ _
      | exact event_Encode.mono _ _
      | exact ropelinelaw24_awake.mono _
      | exact ropelineref24_Decode.mono _ _
      | exact ropelineref24_Right.mono _ _ _ _
      | exact LeO.none _
      | refine LeO.ite ?_ ?_
      | refine LeO.bind ?_ (fun _ => ?_)
theorem ropelinelaw24_EventEncodes.mono : ∀ a0 k, LeO (ropelinelaw24_EventEncodes.f k a0) (ropelinelaw24_EventEncodes.f (k + 1) a0) := by
  intro a0 k
  obtain ⟨ih0, ih1, ih2⟩ := ropelinelaw24_EventEncodes.mono_l k
  unfold ropelinelaw24_EventEncodes.f
  repeat' first
      | (with_reducible exact ih0 _ _ _ _ _ _ _ _)
      | (with_reducible exact ih1 _ _ _)
      | (with_reducible exact ih2 _ _ _ _)
      | (with_reducible exact event_Encode.mono _ _)
      | (with_reducible exact ropelinelaw24_awake.mono _)
      | (with_reducible exact ropelineref24_Decode.mono _ _)
      | (with_reducible exact ropelineref24_Right.mono _ _ _ _)
      | (with_reducible exact LeO.refl _)
      | (with_reducible exact LeO.none _)
      | (with_reducible refine LeO.ite ?_ ?_)
      | (with_reducible refine LeO.bind ?_ (fun _ => ?_))
      | exact ih0 _ _ _ _ _ _ _ _
      | exact ih1 _ _ _
      | exact ih2 _ _ _ _
      | exact event_Encode.mono _ _
      | exact ropelinelaw24_awake.mono _
      | exact ropelineref24_Decode.mono _ _
      | exact ropelineref24_Right.mono _ _ _ _
      | exact LeO.none _
      | refine LeO.ite ?_ ?_
      | refine LeO.bind ?_ (fun _ => ?_)
def ropelinelaw24_EventEncodes.T23 : Bool × List (List Nat × List Nat) := (true, [([], []), ([], []), ([0, 1], [0, 1]), ([2], [2]), ([], []), ([], []), ([4, 5], [4, 5]), ([6], [6]), ([7], [7]), ([3, 8], [3, 8])])
def ropelinelaw24_EventEncodes.B23 : List Nat := [0, 0, 3, 7, 0, 0, 48, 112, 240, 511]
theorem ropelinelaw24_EventEncodes.tab23 : rtab .any (opsOf Try.f4 23) = ropelinelaw24_EventEncodes.T23 := by kernel_rfl
theorem ropelinelaw24_EventEncodes.bits23 : waitsOk ropelinelaw24_EventEncodes.T23.2 ropelinelaw24_EventEncodes.B23 = true := by kernel_rfl
set_option maxHeartbeats 8000000 in
set_option maxRecDepth 100000 in
theorem ropelinelaw24_EventEncodes.calls (k : Nat) (A0 : Option Addr) (c0 : Nat) (l0 : List (S29)) (r : Bool) (w : World) (hr0 : Kd.C k29 w A0 l0.length l0) (hc0 : l0.length ≤ c0) (h : ropelinelaw24_EventEncodes.f k l0 = some r) :
    Calls Try.prog 4 #[.slice A0 l0.length c0] w fun e w' => e = .returned (.bool r) ∧ Below w.heap.size w w' := by
  have hu29 := Try.underlying29
  have hu30 := Try.underlying30
  have HR0 := Aside0.mk hr0
  have HC0 := Aside0.mk hc0
  clear hr0 hc0
  have HB := Aside0.mk (Below.refl w.heap.size w)
  have H : (if (l0.length : Int) > 100 then ((ropelinelaw24_awake.f k).bind fun t172 => (some t172)) else ((event_Encode.f k l0).bind fun bt173 => (ropelinelaw24_EventEncodes.l0 k l0 bt173.1 bt173.2.1 bt173.2.2 0 l0 (l0.length : Int) 0))) = some r := h
  clear h
  by_cases c2 : (l0.length : Int) > 100
  · rw [if_pos c2] at H
    have c2b0 : decide (100 < (l0.length : Int)) = true := decide_eq_true c2
    have c2b1 : decide (100 < l0.length) = true := decide_eq_true (by omega)
    clear c2
    replace H := Option.bind_eq_some_iff.mp H
    obtain ⟨t172, A30, H⟩ := H
    replace H : (some t172) = some r := H
    have A3 := Aside0.mk A30
    clear A30
    obtain rfl := Option.some.inj H
    go_enter Try.func4, Try.ntmps4
    go_wp2_with (first | ((with_reducible refine gate_callee (f := 6) rfl ?_); refine goesL_ (some 15) rfl rfl Try.func6 (by kernel_rfl) rfl #[] rfl (by (try simp only [List.map_toArray, List.map_cons, List.map_nil]); first | done | rfl | (simp only [List.length_drop, List.length_take]; rfl)) ?_; (with_reducible refine (ropelinelaw24_awake.calls k  t172 _ A3.out).mono ?_); rintro e w4 ⟨rfl, hb⟩; refine ⟨_, rfl, ?_⟩; have n0_ := Aside0.mk (below_step (by repeat (first | (with_reducible first | exact HB.out | apply below_alloc | apply pw_below_drewN | apply below_drew1) | exact HB.out)) hb); clear HB; have HB := n0_; clear n0_; (try clear hb); (try clear hb2); (try clear hk); (try clear hi)))
    go_ret
    exact ⟨by first | rfl | (simp [errW_none, errW_some] <;> rfl) | (simp [*, errW_none, errW_some] <;> rfl), by repeat (first | (with_reducible first | exact HB.out | apply below_alloc | apply pw_below_drewN | apply below_drew1) | exact HB.out)⟩
  · rw [if_neg c2] at H
    have c2b0 : decide (100 < (l0.length : Int)) = false := decide_eq_false c2
    have c2b1 : decide (100 < l0.length) = false := decide_eq_false (by omega)
    clear c2
    replace H := Option.bind_eq_some_iff.mp H
    obtain ⟨⟨t173, t174, t175⟩, A50, H⟩ := H
    replace H : (ropelinelaw24_EventEncodes.l0 k l0 t173 t174 t175 0 l0 (l0.length : Int) 0) = some r := H
    have A5 := Aside0.mk A50
    clear A50
    have H' := Aside0.mk H
    clear H
    go_enter Try.func4, Try.ntmps4
    go_wp2_with (first | ((with_reducible refine gate_callee (f := 11) rfl ?_); refine goesL_ (some 18) rfl rfl Try.func11 (by kernel_rfl) rfl #[.slice A0 l0.length c0] rfl (by (try simp only [List.map_toArray, List.map_cons, List.map_nil]); first | done | rfl | (simp only [List.length_drop, List.length_take]; rfl)) ?_; (with_reducible refine (event_Encode.calls k _ _ l0 t173 t174 t175 _ ?side1 ?side2 A5.out).mono ?_); (case side1 => repeat (first | exact HR0.out | (with_reducible refine Kd.C_alloc ?_ _) | (with_reducible refine Kd.C_drewN ?_ _) | (with_reducible refine Kd.C_drew ?_))); (case side2 => exact HC0.out); rintro e w6 ⟨v176, rfl, ho0, hb⟩; refine ⟨_, rfl, ?_⟩; have n0_ := Aside0.mk (Kd.R_lower ho0 (below_size (by repeat (first | (with_reducible first | exact HB.out | apply below_alloc | apply pw_below_drewN | apply below_drew1) | exact HB.out)))); have n1_ := Aside0.mk (below_step (by repeat (first | (with_reducible first | exact HB.out | apply below_alloc | apply pw_below_drewN | apply below_drew1) | exact HB.out)) hb); clear HB; have HO177 := n0_; have HB := n1_; clear n0_ n1_; (try clear hb); (try clear hb2); (try clear hk); (try clear hi); (try clear ho0)))
    go_loopg [6, 24] k (fun kq v6 v24 w' => ∃ (x6_1 : Int) (x24_1 : Int), v6 = .int .i64 x6_1 ∧ v24 = .int .i64 x24_1 ∧ Aside0 (ropelinelaw24_EventEncodes.l0 kq l0 t173 t174 t175 x6_1 l0 (l0.length : Int) x24_1 = some r) ∧ Aside0 (kq ≤ k) ∧ Aside0 (Kd.R (Kd.int .u8) 5 w' w.heap.size (fun _ => True) v176 t173) ∧ Aside0 (Below w.heap.size w w'))
    case atStart => exact ⟨(0), (0), (by first | rfl | (simp; done) | (simp [*]; done)), (by first | rfl | (simp; done) | (simp [*]; done)), H', ⟨Nat.le_refl _⟩, ⟨by (with_reducible repeat (first | apply Kd.R_alloc | apply Kd.R_drewN | apply Kd.R_drew)); exact HO177.out⟩, ⟨by repeat (first | (with_reducible first | exact HB.out | apply below_alloc | apply pw_below_drewN | apply below_drew1) | exact HB.out)⟩⟩
    case round =>
      clear H'
      try clear c1
      try clear c2
      try clear c2b0
      try clear c2b1
      try clear p2
      try clear c4
      try clear c6
      obtain ⟨x6_1, x24_1, rfl, rfl, HA, HK1, HO_3, HB⟩ := hrel
      cases gk with
      | zero => exact absurd HA.out (by simp [ropelinelaw24_EventEncodes.l0])
      | succ k1 =>
        have H := HA.out
        clear HA
        simp only [ropelinelaw24_EventEncodes.l0] at H
        by_cases c7 : x24_1 < (l0.length : Int)
        · rw [if_pos c7] at H
          have c7b0 : decide (x24_1 < (l0.length : Int)) = true := decide_eq_true c7
          clear c7
          by_cases c8 : 0 ≤ x24_1
          · rw [if_pos c8] at H
            have c8b0 : decide (0 ≤ x24_1) = true := decide_eq_true c8
            clear c8
            by_cases c9 : x24_1 < (l0.length : Int)
            · rw [if_pos c9] at H
              have c9b0 : decide (x24_1 < (l0.length : Int)) = true := decide_eq_true c9
              clear c9
              replace H := Option.bind_eq_some_iff.mp H
              obtain ⟨⟨t180, t181, t182⟩, A100, H⟩ := H
              replace H : ((ropelineref24_Right.f k1 t180 t181 t182).bind fun t183 => ((event_Right.f ((rd_T29 l0 x24_1).f0) ((rd_T29 l0 x24_1).f1) ((rd_T29 l0 x24_1).f2)).bind fun t184 => (if (t184 != t183) = true then (some false) else (if t183 = true then (if ((rd_T29 l0 x24_1).f0) = 4 then (ropelinelaw24_EventEncodes.l0 k1 l0 t173 t174 t175 (wrap64 ((wrap64 (x6_1 + 1)) + 1)) l0 (l0.length : Int) (wrap64 (x24_1 + 1))) else (ropelinelaw24_EventEncodes.l0 k1 l0 t173 t174 t175 (wrap64 (x6_1 + 1)) l0 (l0.length : Int) (wrap64 (x24_1 + 1)))) else (if t175 = 8 then (if t174 = x24_1 then (if (t173.length : Int) = 0 then ((ropelinelaw24_awake.f k1).bind fun t185 => (some t185)) else (some false)) else (some false)) else (some false)))))) = some r := H
              have A10 := Aside0.mk A100
              clear A100
              replace H := Option.bind_eq_some_iff.mp H
              obtain ⟨t183, A110, H⟩ := H
              replace H : ((event_Right.f ((rd_T29 l0 x24_1).f0) ((rd_T29 l0 x24_1).f1) ((rd_T29 l0 x24_1).f2)).bind fun t184 => (if (t184 != t183) = true then (some false) else (if t183 = true then (if ((rd_T29 l0 x24_1).f0) = 4 then (ropelinelaw24_EventEncodes.l0 k1 l0 t173 t174 t175 (wrap64 ((wrap64 (x6_1 + 1)) + 1)) l0 (l0.length : Int) (wrap64 (x24_1 + 1))) else (ropelinelaw24_EventEncodes.l0 k1 l0 t173 t174 t175 (wrap64 (x6_1 + 1)) l0 (l0.length : Int) (wrap64 (x24_1 + 1)))) else (if t175 = 8 then (if t174 = x24_1 then (if (t173.length : Int) = 0 then ((ropelinelaw24_awake.f k1).bind fun t185 => (some t185)) else (some false)) else (some false)) else (some false))))) = some r := H
              have A11 := Aside0.mk A110
              clear A110
              replace H := Option.bind_eq_some_iff.mp H
              obtain ⟨t184, A120, H⟩ := H
              replace H : (if (t184 != t183) = true then (some false) else (if t183 = true then (if ((rd_T29 l0 x24_1).f0) = 4 then (ropelinelaw24_EventEncodes.l0 k1 l0 t173 t174 t175 (wrap64 ((wrap64 (x6_1 + 1)) + 1)) l0 (l0.length : Int) (wrap64 (x24_1 + 1))) else (ropelinelaw24_EventEncodes.l0 k1 l0 t173 t174 t175 (wrap64 (x6_1 + 1)) l0 (l0.length : Int) (wrap64 (x24_1 + 1)))) else (if t175 = 8 then (if t174 = x24_1 then (if (t173.length : Int) = 0 then ((ropelinelaw24_awake.f k1).bind fun t185 => (some t185)) else (some false)) else (some false)) else (some false)))) = some r := H
              have A12 := Aside0.mk A120
              clear A120
              by_cases c13 : (t184 != t183) = true
              · rw [if_pos c13] at H
                have c13b0 : (t184 != t183) = true := c13
                (try (have c13b1 : decide (t184 = t183) = false := by simpa using c13))
                (try (have c13b2 : (t184 == t183) = false := by simpa using c13))
                (try (have c13b3 : ¬ (t184 = t183) := by simpa using c13))
                clear c13
                obtain rfl := Option.some.inj H
                have p178 : 0 ≤ (x24_1 : Int) := of_decide_eq_true (by first | (with_reducible assumption) | assumption)
                have q178 : x24_1 < (l0.length : Int) := of_decide_eq_true (by first | (with_reducible assumption) | assumption)
                obtain ⟨ad178, e178, hx178_0, hx178_1, hx178_2⟩ := at_T29 HR0.out x24_1 p178 q178
                cases e178
                replace hx178_0 := (HB.out.cell (World.block_lt_of_cell? w _ hx178_0)).trans hx178_0
                replace hx178_1 := (HB.out.cell (World.block_lt_of_cell? w _ hx178_1)).trans hx178_1
                replace hx178_2 := (HB.out.cell (World.block_lt_of_cell? w _ hx178_2)).trans hx178_2
                replace p178 := eq_true p178
                replace q178 := eq_true q178
                go_wp2_with (first | ((with_reducible refine gate_dst (N := 8) rfl ?_); (try (refine gate_guard (by rfl) ?_; dsimp only)); refine box_event ?hg (N := 8) ?hd (cs := #[.int .i64 0, .int .i64 0, .int .i64 0]) (t := 29) ?hr ?_; (case hd => rfl); (case hg => rfl); (case hr => first | (go_simp; done) | (go_simp; rfl)); intro gb179 hg w14 hbox hb; have n0_ := Aside0.mk (Kd.R_below (by (with_reducible repeat (first | apply Kd.R_alloc | apply Kd.R_drewN | apply Kd.R_drew)); exact HO_3.out) hb); have n1_ := Aside0.mk (below_step (by repeat (first | (with_reducible first | exact HB.out | apply below_alloc | apply pw_below_drewN | apply below_drew1) | exact HB.out)) hb); have n2_ := Aside0.mk (hbox); have n3_ := Aside0.mk ((by rw [hg]; exact (below_size (by repeat (first | (with_reducible first | exact HB.out | apply below_alloc | apply pw_below_drewN | apply below_drew1) | exact HB.out))) : w.heap.size ≤ gb179)); have n4_ := Aside0.mk ((by rw [hg]; exact (below_size (by repeat (first | (with_reducible first | exact HB.out | apply below_alloc | apply pw_below_drewN | apply below_drew1) | exact HB.out))) : w.heap.size ≤ gb179)); clear HO_3; clear HB; have HO_3 := n0_; have HB := n1_; have BK179 := n2_; have GW179 := n3_; have GE179 := n4_; clear n0_ n1_ n2_ n3_ n4_; clear hb hbox hg; have hcz15_0 : w14.cell? ⟨gb179, 0, none⟩ = some (.int .i64 0) := (blk_cell BK179.out 0).trans rfl; have hcz15_1 : w14.cell? ⟨gb179, 1, none⟩ = some (.int .i64 0) := (blk_cell BK179.out 1).trans rfl; have hcz15_2 : w14.cell? ⟨gb179, 2, none⟩ = some (.int .i64 0) := (blk_cell BK179.out 2).trans rfl; have hfz15_0 := blk_frozen BK179.out 0; have hfz15_1 := blk_frozen BK179.out 1; have hfz15_2 := blk_frozen BK179.out 2) | ((with_reducible refine gate_callee (f := 9) rfl ?_); refine goesL_ (some 30) rfl rfl Try.func9 (by kernel_rfl) rfl #[.agg #[.int .i64 ((rd_T29 l0 x24_1).f0), .int .i64 ((rd_T29 l0 x24_1).f1), .int .i64 ((rd_T29 l0 x24_1).f2)]] rfl (by (try simp only [List.map_toArray, List.map_cons, List.map_nil]); first | done | rfl | (simp only [List.length_drop, List.length_take]; rfl)) ?_; (with_reducible refine (ropelinelaw23_Ref.calls ((rd_T29 l0 x24_1).f0) ((rd_T29 l0 x24_1).f1) ((rd_T29 l0 x24_1).f2) t180 t181 t182 _ A10.out).mono ?_); rintro e w16 ⟨rfl, hb⟩; refine ⟨_, rfl, ?_⟩; have n0_ := Aside0.mk (Kd.R_below (by (with_reducible repeat (first | apply Kd.R_alloc | apply Kd.R_drewN | apply Kd.R_drew)); exact (Kd.R_mono (Kd.R_far (p := ⟨gb179, 2, none⟩) (Kd.R_far (p := ⟨gb179, 1, none⟩) (Kd.R_far (p := ⟨gb179, 0, none⟩) (Kd.R_types HO_3.out BK179.out (by decide)) (fun _ hk => hk.2) (.int .i64 ((rd_T29 l0 x24_1).f0))) (fun _ hk => hk.2) (.int .i64 ((rd_T29 l0 x24_1).f1))) (fun _ hk => hk.2) (.int .i64 ((rd_T29 l0 x24_1).f2))) (fun _ h_ => h_.1))) hb); have n1_ := Aside0.mk (blk_below (g := gb179) (o := .cells #[.int .i64 ((rd_T29 l0 x24_1).f0), .int .i64 ((rd_T29 l0 x24_1).f1), .int .i64 ((rd_T29 l0 x24_1).f2)] 29 (0, 0)) (by (with_reducible repeat (first | refine blk_drewN ?_ _ | refine blk_drew ?_ | refine blk_alloc ?_ _)); refine blk_put (cs := #[.int .i64 ((rd_T29 l0 x24_1).f0), .int .i64 ((rd_T29 l0 x24_1).f1), .int .i64 0]) ?_ 2 _ rfl; (with_reducible repeat (first | refine blk_drewN ?_ _ | refine blk_drew ?_ | refine blk_alloc ?_ _)); refine blk_put (cs := #[.int .i64 ((rd_T29 l0 x24_1).f0), .int .i64 0, .int .i64 0]) ?_ 1 _ rfl; (with_reducible repeat (first | refine blk_drewN ?_ _ | refine blk_drew ?_ | refine blk_alloc ?_ _)); refine blk_put (cs := #[.int .i64 0, .int .i64 0, .int .i64 0]) ?_ 0 _ rfl; (with_reducible repeat (first | refine blk_drewN ?_ _ | refine blk_drew ?_ | refine blk_alloc ?_ _)); exact BK179.out) hb); have n2_ := Aside0.mk (below_step (by repeat (first | (with_reducible first | exact HB.out | apply below_alloc | apply pw_below_drewN | apply below_drew1 | refine below_set ?_ GE179.out) | exact HB.out)) hb); clear HO_3; clear BK179; clear HB; have HO_3 := n0_; have BK179 := n1_; have HB := n2_; clear n0_ n1_ n2_; (try clear hb); (try clear hb2); (try clear hk); (try clear hi)) | ((with_reducible refine gate_callee (f := 12) rfl ?_); refine goesL_ (some 31) rfl rfl Try.func12 (by kernel_rfl) rfl #[.agg #[.int .i64 t180, .int .i64 t181, .int .i64 t182]] rfl (by (try simp only [List.map_toArray, List.map_cons, List.map_nil]); first | done | rfl | (simp only [List.length_drop, List.length_take]; rfl)) ?_; (with_reducible refine (ropelineref24_Right.calls k1 t180 t181 t182 t183 _ A11.out).mono ?_); rintro e w17 ⟨rfl, hb⟩; refine ⟨_, rfl, ?_⟩; have n0_ := Aside0.mk (Kd.R_below (by (with_reducible repeat (first | apply Kd.R_alloc | apply Kd.R_drewN | apply Kd.R_drew)); exact HO_3.out) hb); have n1_ := Aside0.mk (blk_below (g := gb179) (o := .cells #[.int .i64 ((rd_T29 l0 x24_1).f0), .int .i64 ((rd_T29 l0 x24_1).f1), .int .i64 ((rd_T29 l0 x24_1).f2)] 29 (0, 0)) (by (with_reducible repeat (first | refine blk_drewN ?_ _ | refine blk_drew ?_ | refine blk_alloc ?_ _)); exact BK179.out) hb); have n2_ := Aside0.mk (below_step (by repeat (first | (with_reducible first | exact HB.out | apply below_alloc | apply pw_below_drewN | apply below_drew1 | refine below_set ?_ GE179.out) | exact HB.out)) hb); clear HO_3; clear BK179; clear HB; have HO_3 := n0_; have BK179 := n1_; have HB := n2_; clear n0_ n1_ n2_; (try clear hb); (try clear hb2); (try clear hk); (try clear hi); have hcz18_0 : w17.cell? ⟨gb179, 0, none⟩ = some (.int .i64 ((rd_T29 l0 x24_1).f0)) := (blk_cell BK179.out 0).trans rfl; have hcz18_1 : w17.cell? ⟨gb179, 1, none⟩ = some (.int .i64 ((rd_T29 l0 x24_1).f1)) := (blk_cell BK179.out 1).trans rfl; have hcz18_2 : w17.cell? ⟨gb179, 2, none⟩ = some (.int .i64 ((rd_T29 l0 x24_1).f2)) := (blk_cell BK179.out 2).trans rfl; have hfz18_0 := blk_frozen BK179.out 0; have hfz18_1 := blk_frozen BK179.out 1; have hfz18_2 := blk_frozen BK179.out 2) | ((with_reducible refine gate_callee (f := 10) rfl ?_); refine goesL_ (some 33) rfl rfl Try.func10 (by kernel_rfl) rfl #[.agg #[.int .i64 ((rd_T29 l0 x24_1).f0), .int .i64 ((rd_T29 l0 x24_1).f1), .int .i64 ((rd_T29 l0 x24_1).f2)]] rfl (by (try simp only [List.map_toArray, List.map_cons, List.map_nil]); first | done | rfl | (simp only [List.length_drop, List.length_take]; rfl)) ?_; (with_reducible refine (event_Right.calls ((rd_T29 l0 x24_1).f0) ((rd_T29 l0 x24_1).f1) ((rd_T29 l0 x24_1).f2) t184 _ A12.out).mono ?_); rintro e w19 ⟨rfl, hb⟩; refine ⟨_, rfl, ?_⟩; have n0_ := Aside0.mk (Kd.R_below (by (with_reducible repeat (first | apply Kd.R_alloc | apply Kd.R_drewN | apply Kd.R_drew)); exact HO_3.out) hb); have n1_ := Aside0.mk (blk_below (g := gb179) (o := .cells #[.int .i64 ((rd_T29 l0 x24_1).f0), .int .i64 ((rd_T29 l0 x24_1).f1), .int .i64 ((rd_T29 l0 x24_1).f2)] 29 (0, 0)) (by (with_reducible repeat (first | refine blk_drewN ?_ _ | refine blk_drew ?_ | refine blk_alloc ?_ _)); exact BK179.out) hb); have n2_ := Aside0.mk (below_step (by repeat (first | (with_reducible first | exact HB.out | apply below_alloc | apply pw_below_drewN | apply below_drew1 | refine below_set ?_ GE179.out) | exact HB.out)) hb); clear HO_3; clear BK179; clear HB; have HO_3 := n0_; have BK179 := n1_; have HB := n2_; clear n0_ n1_ n2_; (try clear hb); (try clear hb2); (try clear hk); (try clear hi)))
                go_ret
                exact ⟨by first | rfl | (simp [errW_none, errW_some] <;> rfl) | (simp [*, errW_none, errW_some] <;> rfl), by repeat (first | (with_reducible first | exact HB.out | apply below_alloc | apply pw_below_drewN | apply below_drew1 | refine below_set ?_ GE179.out) | exact HB.out)⟩
              · rw [if_neg c13] at H
                have c13b0 : (t184 != t183) = false := by simpa using c13
                (try (have c13b1 : decide (t184 = t183) = true := by simpa using c13))
                (try (have c13b2 : (t184 == t183) = true := by simpa using c13))
                clear c13
                by_cases c20 : t183 = true
                · subst c20
                  have H1 : (if ((rd_T29 l0 x24_1).f0) = 4 then (ropelinelaw24_EventEncodes.l0 k1 l0 t173 t174 t175 (wrap64 ((wrap64 (x6_1 + 1)) + 1)) l0 (l0.length : Int) (wrap64 (x24_1 + 1))) else (ropelinelaw24_EventEncodes.l0 k1 l0 t173 t174 t175 (wrap64 (x6_1 + 1)) l0 (l0.length : Int) (wrap64 (x24_1 + 1)))) = some r := by rw [if_pos rfl] at H; exact H
                  clear H
                  have H := H1
                  clear H1
                  by_cases c21 : ((rd_T29 l0 x24_1).f0) = 4
                  · rw [if_pos c21] at H
                    have c21b0 : (((rd_T29 l0 x24_1).f0) == 4) = true := beq_iff_eq.mpr c21
                    have c21b1 : (((rd_T29 l0 x24_1).f0) != 4) = false := bne_eq_false_iff_eq.mpr c21
                    clear c21
                    have H' := Aside0.mk H
                    clear H
                    have p178 : 0 ≤ (x24_1 : Int) := of_decide_eq_true (by first | (with_reducible assumption) | assumption)
                    have q178 : x24_1 < (l0.length : Int) := of_decide_eq_true (by first | (with_reducible assumption) | assumption)
                    obtain ⟨ad178, e178, hx178_0, hx178_1, hx178_2⟩ := at_T29 HR0.out x24_1 p178 q178
                    cases e178
                    replace hx178_0 := (HB.out.cell (World.block_lt_of_cell? w _ hx178_0)).trans hx178_0
                    replace hx178_1 := (HB.out.cell (World.block_lt_of_cell? w _ hx178_1)).trans hx178_1
                    replace hx178_2 := (HB.out.cell (World.block_lt_of_cell? w _ hx178_2)).trans hx178_2
                    replace p178 := eq_true p178
                    replace q178 := eq_true q178
                    go_wp2_with (first | ((with_reducible refine gate_dst (N := 8) rfl ?_); (try (refine gate_guard (by rfl) ?_; dsimp only)); refine box_event ?hg (N := 8) ?hd (cs := #[.int .i64 0, .int .i64 0, .int .i64 0]) (t := 29) ?hr ?_; (case hd => rfl); (case hg => rfl); (case hr => first | (go_simp; done) | (go_simp; rfl)); intro gb179 hg w22 hbox hb; have n0_ := Aside0.mk (Kd.R_below (by (with_reducible repeat (first | apply Kd.R_alloc | apply Kd.R_drewN | apply Kd.R_drew)); exact HO_3.out) hb); have n1_ := Aside0.mk (below_step (by repeat (first | (with_reducible first | exact HB.out | apply below_alloc | apply pw_below_drewN | apply below_drew1) | exact HB.out)) hb); have n2_ := Aside0.mk (hbox); have n3_ := Aside0.mk ((by rw [hg]; exact (below_size (by repeat (first | (with_reducible first | exact HB.out | apply below_alloc | apply pw_below_drewN | apply below_drew1) | exact HB.out))) : w.heap.size ≤ gb179)); have n4_ := Aside0.mk ((by rw [hg]; exact (below_size (by repeat (first | (with_reducible first | exact HB.out | apply below_alloc | apply pw_below_drewN | apply below_drew1) | exact HB.out))) : w.heap.size ≤ gb179)); clear HO_3; clear HB; have HO_3 := n0_; have HB := n1_; have BK179 := n2_; have GW179 := n3_; have GE179 := n4_; clear n0_ n1_ n2_ n3_ n4_; clear hb hbox hg; have hcz23_0 : w22.cell? ⟨gb179, 0, none⟩ = some (.int .i64 0) := (blk_cell BK179.out 0).trans rfl; have hcz23_1 : w22.cell? ⟨gb179, 1, none⟩ = some (.int .i64 0) := (blk_cell BK179.out 1).trans rfl; have hcz23_2 : w22.cell? ⟨gb179, 2, none⟩ = some (.int .i64 0) := (blk_cell BK179.out 2).trans rfl; have hfz23_0 := blk_frozen BK179.out 0; have hfz23_1 := blk_frozen BK179.out 1; have hfz23_2 := blk_frozen BK179.out 2) | ((with_reducible refine gate_callee (f := 9) rfl ?_); refine goesL_ (some 30) rfl rfl Try.func9 (by kernel_rfl) rfl #[.agg #[.int .i64 ((rd_T29 l0 x24_1).f0), .int .i64 ((rd_T29 l0 x24_1).f1), .int .i64 ((rd_T29 l0 x24_1).f2)]] rfl (by (try simp only [List.map_toArray, List.map_cons, List.map_nil]); first | done | rfl | (simp only [List.length_drop, List.length_take]; rfl)) ?_; (with_reducible refine (ropelinelaw23_Ref.calls ((rd_T29 l0 x24_1).f0) ((rd_T29 l0 x24_1).f1) ((rd_T29 l0 x24_1).f2) t180 t181 t182 _ A10.out).mono ?_); rintro e w24 ⟨rfl, hb⟩; refine ⟨_, rfl, ?_⟩; have n0_ := Aside0.mk (Kd.R_below (by (with_reducible repeat (first | apply Kd.R_alloc | apply Kd.R_drewN | apply Kd.R_drew)); exact (Kd.R_mono (Kd.R_far (p := ⟨gb179, 2, none⟩) (Kd.R_far (p := ⟨gb179, 1, none⟩) (Kd.R_far (p := ⟨gb179, 0, none⟩) (Kd.R_types HO_3.out BK179.out (by decide)) (fun _ hk => hk.2) (.int .i64 ((rd_T29 l0 x24_1).f0))) (fun _ hk => hk.2) (.int .i64 ((rd_T29 l0 x24_1).f1))) (fun _ hk => hk.2) (.int .i64 ((rd_T29 l0 x24_1).f2))) (fun _ h_ => h_.1))) hb); have n1_ := Aside0.mk (blk_below (g := gb179) (o := .cells #[.int .i64 ((rd_T29 l0 x24_1).f0), .int .i64 ((rd_T29 l0 x24_1).f1), .int .i64 ((rd_T29 l0 x24_1).f2)] 29 (0, 0)) (by (with_reducible repeat (first | refine blk_drewN ?_ _ | refine blk_drew ?_ | refine blk_alloc ?_ _)); refine blk_put (cs := #[.int .i64 ((rd_T29 l0 x24_1).f0), .int .i64 ((rd_T29 l0 x24_1).f1), .int .i64 0]) ?_ 2 _ rfl; (with_reducible repeat (first | refine blk_drewN ?_ _ | refine blk_drew ?_ | refine blk_alloc ?_ _)); refine blk_put (cs := #[.int .i64 ((rd_T29 l0 x24_1).f0), .int .i64 0, .int .i64 0]) ?_ 1 _ rfl; (with_reducible repeat (first | refine blk_drewN ?_ _ | refine blk_drew ?_ | refine blk_alloc ?_ _)); refine blk_put (cs := #[.int .i64 0, .int .i64 0, .int .i64 0]) ?_ 0 _ rfl; (with_reducible repeat (first | refine blk_drewN ?_ _ | refine blk_drew ?_ | refine blk_alloc ?_ _)); exact BK179.out) hb); have n2_ := Aside0.mk (below_step (by repeat (first | (with_reducible first | exact HB.out | apply below_alloc | apply pw_below_drewN | apply below_drew1 | refine below_set ?_ GE179.out) | exact HB.out)) hb); clear HO_3; clear BK179; clear HB; have HO_3 := n0_; have BK179 := n1_; have HB := n2_; clear n0_ n1_ n2_; (try clear hb); (try clear hb2); (try clear hk); (try clear hi)) | ((with_reducible refine gate_callee (f := 12) rfl ?_); refine goesL_ (some 31) rfl rfl Try.func12 (by kernel_rfl) rfl #[.agg #[.int .i64 t180, .int .i64 t181, .int .i64 t182]] rfl (by (try simp only [List.map_toArray, List.map_cons, List.map_nil]); first | done | rfl | (simp only [List.length_drop, List.length_take]; rfl)) ?_; (with_reducible refine (ropelineref24_Right.calls k1 t180 t181 t182 true _ A11.out).mono ?_); rintro e w25 ⟨rfl, hb⟩; refine ⟨_, rfl, ?_⟩; have n0_ := Aside0.mk (Kd.R_below (by (with_reducible repeat (first | apply Kd.R_alloc | apply Kd.R_drewN | apply Kd.R_drew)); exact HO_3.out) hb); have n1_ := Aside0.mk (blk_below (g := gb179) (o := .cells #[.int .i64 ((rd_T29 l0 x24_1).f0), .int .i64 ((rd_T29 l0 x24_1).f1), .int .i64 ((rd_T29 l0 x24_1).f2)] 29 (0, 0)) (by (with_reducible repeat (first | refine blk_drewN ?_ _ | refine blk_drew ?_ | refine blk_alloc ?_ _)); exact BK179.out) hb); have n2_ := Aside0.mk (below_step (by repeat (first | (with_reducible first | exact HB.out | apply below_alloc | apply pw_below_drewN | apply below_drew1 | refine below_set ?_ GE179.out) | exact HB.out)) hb); clear HO_3; clear BK179; clear HB; have HO_3 := n0_; have BK179 := n1_; have HB := n2_; clear n0_ n1_ n2_; (try clear hb); (try clear hb2); (try clear hk); (try clear hi); have hcz26_0 : w25.cell? ⟨gb179, 0, none⟩ = some (.int .i64 ((rd_T29 l0 x24_1).f0)) := (blk_cell BK179.out 0).trans rfl; have hcz26_1 : w25.cell? ⟨gb179, 1, none⟩ = some (.int .i64 ((rd_T29 l0 x24_1).f1)) := (blk_cell BK179.out 1).trans rfl; have hcz26_2 : w25.cell? ⟨gb179, 2, none⟩ = some (.int .i64 ((rd_T29 l0 x24_1).f2)) := (blk_cell BK179.out 2).trans rfl; have hfz26_0 := blk_frozen BK179.out 0; have hfz26_1 := blk_frozen BK179.out 1; have hfz26_2 := blk_frozen BK179.out 2) | ((with_reducible refine gate_callee (f := 10) rfl ?_); refine goesL_ (some 33) rfl rfl Try.func10 (by kernel_rfl) rfl #[.agg #[.int .i64 ((rd_T29 l0 x24_1).f0), .int .i64 ((rd_T29 l0 x24_1).f1), .int .i64 ((rd_T29 l0 x24_1).f2)]] rfl (by (try simp only [List.map_toArray, List.map_cons, List.map_nil]); first | done | rfl | (simp only [List.length_drop, List.length_take]; rfl)) ?_; (with_reducible refine (event_Right.calls ((rd_T29 l0 x24_1).f0) ((rd_T29 l0 x24_1).f1) ((rd_T29 l0 x24_1).f2) t184 _ A12.out).mono ?_); rintro e w27 ⟨rfl, hb⟩; refine ⟨_, rfl, ?_⟩; have n0_ := Aside0.mk (Kd.R_below (by (with_reducible repeat (first | apply Kd.R_alloc | apply Kd.R_drewN | apply Kd.R_drew)); exact HO_3.out) hb); have n1_ := Aside0.mk (blk_below (g := gb179) (o := .cells #[.int .i64 ((rd_T29 l0 x24_1).f0), .int .i64 ((rd_T29 l0 x24_1).f1), .int .i64 ((rd_T29 l0 x24_1).f2)] 29 (0, 0)) (by (with_reducible repeat (first | refine blk_drewN ?_ _ | refine blk_drew ?_ | refine blk_alloc ?_ _)); exact BK179.out) hb); have n2_ := Aside0.mk (below_step (by repeat (first | (with_reducible first | exact HB.out | apply below_alloc | apply pw_below_drewN | apply below_drew1 | refine below_set ?_ GE179.out) | exact HB.out)) hb); clear HO_3; clear BK179; clear HB; have HO_3 := n0_; have BK179 := n1_; have HB := n2_; clear n0_ n1_ n2_; (try clear hb); (try clear hb2); (try clear hk); (try clear hi); have hcz28_0 : w27.cell? ⟨gb179, 0, none⟩ = some (.int .i64 ((rd_T29 l0 x24_1).f0)) := (blk_cell BK179.out 0).trans rfl; have hcz28_1 : w27.cell? ⟨gb179, 1, none⟩ = some (.int .i64 ((rd_T29 l0 x24_1).f1)) := (blk_cell BK179.out 1).trans rfl; have hcz28_2 : w27.cell? ⟨gb179, 2, none⟩ = some (.int .i64 ((rd_T29 l0 x24_1).f2)) := (blk_cell BK179.out 2).trans rfl; have hfz28_0 := blk_frozen BK179.out 0; have hfz28_1 := blk_frozen BK179.out 1; have hfz28_2 := blk_frozen BK179.out 2))
                    go_roundg k1
                    case measure => have := HK1.out; omega
                    case rel => exact ⟨(wrap64 ((wrap64 (x6_1 + 1)) + 1)), (wrap64 (x24_1 + 1)), (by first | rfl | (simp; done) | (simp [*]; done)), (by first | rfl | (simp; done) | (simp [*]; done)), H', ⟨by have := HK1.out; omega⟩, ⟨by (with_reducible repeat (first | apply Kd.R_alloc | apply Kd.R_drewN | apply Kd.R_drew)); exact HO_3.out⟩, ⟨by repeat (first | (with_reducible first | exact HB.out | apply below_alloc | apply pw_below_drewN | apply below_drew1 | refine below_set ?_ GE179.out) | exact HB.out)⟩⟩
                  · rw [if_neg c21] at H
                    have c21b0 : (((rd_T29 l0 x24_1).f0) == 4) = false := beq_eq_false_iff_ne.mpr c21
                    have c21b1 : (((rd_T29 l0 x24_1).f0) != 4) = true := bne_iff_ne.mpr c21
                    have H' := Aside0.mk H
                    clear H
                    have p178 : 0 ≤ (x24_1 : Int) := of_decide_eq_true (by first | (with_reducible assumption) | assumption)
                    have q178 : x24_1 < (l0.length : Int) := of_decide_eq_true (by first | (with_reducible assumption) | assumption)
                    obtain ⟨ad178, e178, hx178_0, hx178_1, hx178_2⟩ := at_T29 HR0.out x24_1 p178 q178
                    cases e178
                    replace hx178_0 := (HB.out.cell (World.block_lt_of_cell? w _ hx178_0)).trans hx178_0
                    replace hx178_1 := (HB.out.cell (World.block_lt_of_cell? w _ hx178_1)).trans hx178_1
                    replace hx178_2 := (HB.out.cell (World.block_lt_of_cell? w _ hx178_2)).trans hx178_2
                    replace p178 := eq_true p178
                    replace q178 := eq_true q178
                    go_wp2_with (first | ((with_reducible refine gate_dst (N := 8) rfl ?_); (try (refine gate_guard (by rfl) ?_; dsimp only)); refine box_event ?hg (N := 8) ?hd (cs := #[.int .i64 0, .int .i64 0, .int .i64 0]) (t := 29) ?hr ?_; (case hd => rfl); (case hg => rfl); (case hr => first | (go_simp; done) | (go_simp; rfl)); intro gb179 hg w29 hbox hb; have n0_ := Aside0.mk (Kd.R_below (by (with_reducible repeat (first | apply Kd.R_alloc | apply Kd.R_drewN | apply Kd.R_drew)); exact HO_3.out) hb); have n1_ := Aside0.mk (below_step (by repeat (first | (with_reducible first | exact HB.out | apply below_alloc | apply pw_below_drewN | apply below_drew1) | exact HB.out)) hb); have n2_ := Aside0.mk (hbox); have n3_ := Aside0.mk ((by rw [hg]; exact (below_size (by repeat (first | (with_reducible first | exact HB.out | apply below_alloc | apply pw_below_drewN | apply below_drew1) | exact HB.out))) : w.heap.size ≤ gb179)); have n4_ := Aside0.mk ((by rw [hg]; exact (below_size (by repeat (first | (with_reducible first | exact HB.out | apply below_alloc | apply pw_below_drewN | apply below_drew1) | exact HB.out))) : w.heap.size ≤ gb179)); clear HO_3; clear HB; have HO_3 := n0_; have HB := n1_; have BK179 := n2_; have GW179 := n3_; have GE179 := n4_; clear n0_ n1_ n2_ n3_ n4_; clear hb hbox hg; have hcz30_0 : w29.cell? ⟨gb179, 0, none⟩ = some (.int .i64 0) := (blk_cell BK179.out 0).trans rfl; have hcz30_1 : w29.cell? ⟨gb179, 1, none⟩ = some (.int .i64 0) := (blk_cell BK179.out 1).trans rfl; have hcz30_2 : w29.cell? ⟨gb179, 2, none⟩ = some (.int .i64 0) := (blk_cell BK179.out 2).trans rfl; have hfz30_0 := blk_frozen BK179.out 0; have hfz30_1 := blk_frozen BK179.out 1; have hfz30_2 := blk_frozen BK179.out 2) | ((with_reducible refine gate_callee (f := 9) rfl ?_); refine goesL_ (some 30) rfl rfl Try.func9 (by kernel_rfl) rfl #[.agg #[.int .i64 ((rd_T29 l0 x24_1).f0), .int .i64 ((rd_T29 l0 x24_1).f1), .int .i64 ((rd_T29 l0 x24_1).f2)]] rfl (by (try simp only [List.map_toArray, List.map_cons, List.map_nil]); first | done | rfl | (simp only [List.length_drop, List.length_take]; rfl)) ?_; (with_reducible refine (ropelinelaw23_Ref.calls ((rd_T29 l0 x24_1).f0) ((rd_T29 l0 x24_1).f1) ((rd_T29 l0 x24_1).f2) t180 t181 t182 _ A10.out).mono ?_); rintro e w31 ⟨rfl, hb⟩; refine ⟨_, rfl, ?_⟩; have n0_ := Aside0.mk (Kd.R_below (by (with_reducible repeat (first | apply Kd.R_alloc | apply Kd.R_drewN | apply Kd.R_drew)); exact (Kd.R_mono (Kd.R_far (p := ⟨gb179, 2, none⟩) (Kd.R_far (p := ⟨gb179, 1, none⟩) (Kd.R_far (p := ⟨gb179, 0, none⟩) (Kd.R_types HO_3.out BK179.out (by decide)) (fun _ hk => hk.2) (.int .i64 ((rd_T29 l0 x24_1).f0))) (fun _ hk => hk.2) (.int .i64 ((rd_T29 l0 x24_1).f1))) (fun _ hk => hk.2) (.int .i64 ((rd_T29 l0 x24_1).f2))) (fun _ h_ => h_.1))) hb); have n1_ := Aside0.mk (blk_below (g := gb179) (o := .cells #[.int .i64 ((rd_T29 l0 x24_1).f0), .int .i64 ((rd_T29 l0 x24_1).f1), .int .i64 ((rd_T29 l0 x24_1).f2)] 29 (0, 0)) (by (with_reducible repeat (first | refine blk_drewN ?_ _ | refine blk_drew ?_ | refine blk_alloc ?_ _)); refine blk_put (cs := #[.int .i64 ((rd_T29 l0 x24_1).f0), .int .i64 ((rd_T29 l0 x24_1).f1), .int .i64 0]) ?_ 2 _ rfl; (with_reducible repeat (first | refine blk_drewN ?_ _ | refine blk_drew ?_ | refine blk_alloc ?_ _)); refine blk_put (cs := #[.int .i64 ((rd_T29 l0 x24_1).f0), .int .i64 0, .int .i64 0]) ?_ 1 _ rfl; (with_reducible repeat (first | refine blk_drewN ?_ _ | refine blk_drew ?_ | refine blk_alloc ?_ _)); refine blk_put (cs := #[.int .i64 0, .int .i64 0, .int .i64 0]) ?_ 0 _ rfl; (with_reducible repeat (first | refine blk_drewN ?_ _ | refine blk_drew ?_ | refine blk_alloc ?_ _)); exact BK179.out) hb); have n2_ := Aside0.mk (below_step (by repeat (first | (with_reducible first | exact HB.out | apply below_alloc | apply pw_below_drewN | apply below_drew1 | refine below_set ?_ GE179.out) | exact HB.out)) hb); clear HO_3; clear BK179; clear HB; have HO_3 := n0_; have BK179 := n1_; have HB := n2_; clear n0_ n1_ n2_; (try clear hb); (try clear hb2); (try clear hk); (try clear hi)) | ((with_reducible refine gate_callee (f := 12) rfl ?_); refine goesL_ (some 31) rfl rfl Try.func12 (by kernel_rfl) rfl #[.agg #[.int .i64 t180, .int .i64 t181, .int .i64 t182]] rfl (by (try simp only [List.map_toArray, List.map_cons, List.map_nil]); first | done | rfl | (simp only [List.length_drop, List.length_take]; rfl)) ?_; (with_reducible refine (ropelineref24_Right.calls k1 t180 t181 t182 true _ A11.out).mono ?_); rintro e w32 ⟨rfl, hb⟩; refine ⟨_, rfl, ?_⟩; have n0_ := Aside0.mk (Kd.R_below (by (with_reducible repeat (first | apply Kd.R_alloc | apply Kd.R_drewN | apply Kd.R_drew)); exact HO_3.out) hb); have n1_ := Aside0.mk (blk_below (g := gb179) (o := .cells #[.int .i64 ((rd_T29 l0 x24_1).f0), .int .i64 ((rd_T29 l0 x24_1).f1), .int .i64 ((rd_T29 l0 x24_1).f2)] 29 (0, 0)) (by (with_reducible repeat (first | refine blk_drewN ?_ _ | refine blk_drew ?_ | refine blk_alloc ?_ _)); exact BK179.out) hb); have n2_ := Aside0.mk (below_step (by repeat (first | (with_reducible first | exact HB.out | apply below_alloc | apply pw_below_drewN | apply below_drew1 | refine below_set ?_ GE179.out) | exact HB.out)) hb); clear HO_3; clear BK179; clear HB; have HO_3 := n0_; have BK179 := n1_; have HB := n2_; clear n0_ n1_ n2_; (try clear hb); (try clear hb2); (try clear hk); (try clear hi); have hcz33_0 : w32.cell? ⟨gb179, 0, none⟩ = some (.int .i64 ((rd_T29 l0 x24_1).f0)) := (blk_cell BK179.out 0).trans rfl; have hcz33_1 : w32.cell? ⟨gb179, 1, none⟩ = some (.int .i64 ((rd_T29 l0 x24_1).f1)) := (blk_cell BK179.out 1).trans rfl; have hcz33_2 : w32.cell? ⟨gb179, 2, none⟩ = some (.int .i64 ((rd_T29 l0 x24_1).f2)) := (blk_cell BK179.out 2).trans rfl; have hfz33_0 := blk_frozen BK179.out 0; have hfz33_1 := blk_frozen BK179.out 1; have hfz33_2 := blk_frozen BK179.out 2) | ((with_reducible refine gate_callee (f := 10) rfl ?_); refine goesL_ (some 33) rfl rfl Try.func10 (by kernel_rfl) rfl #[.agg #[.int .i64 ((rd_T29 l0 x24_1).f0), .int .i64 ((rd_T29 l0 x24_1).f1), .int .i64 ((rd_T29 l0 x24_1).f2)]] rfl (by (try simp only [List.map_toArray, List.map_cons, List.map_nil]); first | done | rfl | (simp only [List.length_drop, List.length_take]; rfl)) ?_; (with_reducible refine (event_Right.calls ((rd_T29 l0 x24_1).f0) ((rd_T29 l0 x24_1).f1) ((rd_T29 l0 x24_1).f2) t184 _ A12.out).mono ?_); rintro e w34 ⟨rfl, hb⟩; refine ⟨_, rfl, ?_⟩; have n0_ := Aside0.mk (Kd.R_below (by (with_reducible repeat (first | apply Kd.R_alloc | apply Kd.R_drewN | apply Kd.R_drew)); exact HO_3.out) hb); have n1_ := Aside0.mk (blk_below (g := gb179) (o := .cells #[.int .i64 ((rd_T29 l0 x24_1).f0), .int .i64 ((rd_T29 l0 x24_1).f1), .int .i64 ((rd_T29 l0 x24_1).f2)] 29 (0, 0)) (by (with_reducible repeat (first | refine blk_drewN ?_ _ | refine blk_drew ?_ | refine blk_alloc ?_ _)); exact BK179.out) hb); have n2_ := Aside0.mk (below_step (by repeat (first | (with_reducible first | exact HB.out | apply below_alloc | apply pw_below_drewN | apply below_drew1 | refine below_set ?_ GE179.out) | exact HB.out)) hb); clear HO_3; clear BK179; clear HB; have HO_3 := n0_; have BK179 := n1_; have HB := n2_; clear n0_ n1_ n2_; (try clear hb); (try clear hb2); (try clear hk); (try clear hi); have hcz35_0 : w34.cell? ⟨gb179, 0, none⟩ = some (.int .i64 ((rd_T29 l0 x24_1).f0)) := (blk_cell BK179.out 0).trans rfl; have hcz35_1 : w34.cell? ⟨gb179, 1, none⟩ = some (.int .i64 ((rd_T29 l0 x24_1).f1)) := (blk_cell BK179.out 1).trans rfl; have hcz35_2 : w34.cell? ⟨gb179, 2, none⟩ = some (.int .i64 ((rd_T29 l0 x24_1).f2)) := (blk_cell BK179.out 2).trans rfl; have hfz35_0 := blk_frozen BK179.out 0; have hfz35_1 := blk_frozen BK179.out 1; have hfz35_2 := blk_frozen BK179.out 2))
                    go_roundg k1
                    case measure => have := HK1.out; omega
                    case rel => exact ⟨(wrap64 (x6_1 + 1)), (wrap64 (x24_1 + 1)), (by first | rfl | (simp; done) | (simp [*]; done)), (by first | rfl | (simp; done) | (simp [*]; done)), H', ⟨by have := HK1.out; omega⟩, ⟨by (with_reducible repeat (first | apply Kd.R_alloc | apply Kd.R_drewN | apply Kd.R_drew)); exact HO_3.out⟩, ⟨by repeat (first | (with_reducible first | exact HB.out | apply below_alloc | apply pw_below_drewN | apply below_drew1 | refine below_set ?_ GE179.out) | exact HB.out)⟩⟩
                · replace c20 := Bool.eq_false_iff.mpr c20
                  subst c20
                  have H1 : (if t175 = 8 then (if t174 = x24_1 then (if (t173.length : Int) = 0 then ((ropelinelaw24_awake.f k1).bind fun t185 => (some t185)) else (some false)) else (some false)) else (some false)) = some r := by rw [if_neg (show ¬ (false = true) by decide)] at H; exact H
                  clear H
                  have H := H1
                  clear H1
                  by_cases c36 : t175 = 8
                  · rw [if_pos c36] at H
                    have c36b0 : (t175 == 8) = true := beq_iff_eq.mpr c36
                    have c36b1 : (t175 != 8) = false := bne_eq_false_iff_eq.mpr c36
                    clear c36
                    by_cases c37 : t174 = x24_1
                    · rw [if_pos c37] at H
                      have c37b0 : (t174 == x24_1) = true := beq_iff_eq.mpr c37
                      have c37b1 : (t174 != x24_1) = false := bne_eq_false_iff_eq.mpr c37
                      clear c37
                      by_cases c38 : (t173.length : Int) = 0
                      · rw [if_pos c38] at H
                        have c38b0 : ((t173.length : Int) == 0) = true := beq_iff_eq.mpr c38
                        have c38b1 : ((t173.length : Int) != 0) = false := bne_eq_false_iff_eq.mpr c38
                        clear c38
                        replace H := Option.bind_eq_some_iff.mp H
                        obtain ⟨t185, A390, H⟩ := H
                        replace H : (some t185) = some r := H
                        have A39 := Aside0.mk A390
                        clear A390
                        obtain rfl := Option.some.inj H
                        have p178 : 0 ≤ (x24_1 : Int) := of_decide_eq_true (by first | (with_reducible assumption) | assumption)
                        have q178 : x24_1 < (l0.length : Int) := of_decide_eq_true (by first | (with_reducible assumption) | assumption)
                        obtain ⟨ad178, e178, hx178_0, hx178_1, hx178_2⟩ := at_T29 HR0.out x24_1 p178 q178
                        cases e178
                        replace hx178_0 := (HB.out.cell (World.block_lt_of_cell? w _ hx178_0)).trans hx178_0
                        replace hx178_1 := (HB.out.cell (World.block_lt_of_cell? w _ hx178_1)).trans hx178_1
                        replace hx178_2 := (HB.out.cell (World.block_lt_of_cell? w _ hx178_2)).trans hx178_2
                        replace p178 := eq_true p178
                        replace q178 := eq_true q178
                        go_wp2_with (first | ((with_reducible refine gate_dst (N := 8) rfl ?_); (try (refine gate_guard (by rfl) ?_; dsimp only)); refine box_event ?hg (N := 8) ?hd (cs := #[.int .i64 0, .int .i64 0, .int .i64 0]) (t := 29) ?hr ?_; (case hd => rfl); (case hg => rfl); (case hr => first | (go_simp; done) | (go_simp; rfl)); intro gb179 hg w40 hbox hb; have n0_ := Aside0.mk (Kd.R_below (by (with_reducible repeat (first | apply Kd.R_alloc | apply Kd.R_drewN | apply Kd.R_drew)); exact HO_3.out) hb); have n1_ := Aside0.mk (below_step (by repeat (first | (with_reducible first | exact HB.out | apply below_alloc | apply pw_below_drewN | apply below_drew1) | exact HB.out)) hb); have n2_ := Aside0.mk (hbox); have n3_ := Aside0.mk ((by rw [hg]; exact (below_size (by repeat (first | (with_reducible first | exact HB.out | apply below_alloc | apply pw_below_drewN | apply below_drew1) | exact HB.out))) : w.heap.size ≤ gb179)); have n4_ := Aside0.mk ((by rw [hg]; exact (below_size (by repeat (first | (with_reducible first | exact HB.out | apply below_alloc | apply pw_below_drewN | apply below_drew1) | exact HB.out))) : w.heap.size ≤ gb179)); clear HO_3; clear HB; have HO_3 := n0_; have HB := n1_; have BK179 := n2_; have GW179 := n3_; have GE179 := n4_; clear n0_ n1_ n2_ n3_ n4_; clear hb hbox hg; have hcz41_0 : w40.cell? ⟨gb179, 0, none⟩ = some (.int .i64 0) := (blk_cell BK179.out 0).trans rfl; have hcz41_1 : w40.cell? ⟨gb179, 1, none⟩ = some (.int .i64 0) := (blk_cell BK179.out 1).trans rfl; have hcz41_2 : w40.cell? ⟨gb179, 2, none⟩ = some (.int .i64 0) := (blk_cell BK179.out 2).trans rfl; have hfz41_0 := blk_frozen BK179.out 0; have hfz41_1 := blk_frozen BK179.out 1; have hfz41_2 := blk_frozen BK179.out 2) | ((with_reducible refine gate_callee (f := 9) rfl ?_); refine goesL_ (some 30) rfl rfl Try.func9 (by kernel_rfl) rfl #[.agg #[.int .i64 ((rd_T29 l0 x24_1).f0), .int .i64 ((rd_T29 l0 x24_1).f1), .int .i64 ((rd_T29 l0 x24_1).f2)]] rfl (by (try simp only [List.map_toArray, List.map_cons, List.map_nil]); first | done | rfl | (simp only [List.length_drop, List.length_take]; rfl)) ?_; (with_reducible refine (ropelinelaw23_Ref.calls ((rd_T29 l0 x24_1).f0) ((rd_T29 l0 x24_1).f1) ((rd_T29 l0 x24_1).f2) t180 t181 t182 _ A10.out).mono ?_); rintro e w42 ⟨rfl, hb⟩; refine ⟨_, rfl, ?_⟩; have n0_ := Aside0.mk (Kd.R_below (by (with_reducible repeat (first | apply Kd.R_alloc | apply Kd.R_drewN | apply Kd.R_drew)); exact (Kd.R_mono (Kd.R_far (p := ⟨gb179, 2, none⟩) (Kd.R_far (p := ⟨gb179, 1, none⟩) (Kd.R_far (p := ⟨gb179, 0, none⟩) (Kd.R_types HO_3.out BK179.out (by decide)) (fun _ hk => hk.2) (.int .i64 ((rd_T29 l0 x24_1).f0))) (fun _ hk => hk.2) (.int .i64 ((rd_T29 l0 x24_1).f1))) (fun _ hk => hk.2) (.int .i64 ((rd_T29 l0 x24_1).f2))) (fun _ h_ => h_.1))) hb); have n1_ := Aside0.mk (blk_below (g := gb179) (o := .cells #[.int .i64 ((rd_T29 l0 x24_1).f0), .int .i64 ((rd_T29 l0 x24_1).f1), .int .i64 ((rd_T29 l0 x24_1).f2)] 29 (0, 0)) (by (with_reducible repeat (first | refine blk_drewN ?_ _ | refine blk_drew ?_ | refine blk_alloc ?_ _)); refine blk_put (cs := #[.int .i64 ((rd_T29 l0 x24_1).f0), .int .i64 ((rd_T29 l0 x24_1).f1), .int .i64 0]) ?_ 2 _ rfl; (with_reducible repeat (first | refine blk_drewN ?_ _ | refine blk_drew ?_ | refine blk_alloc ?_ _)); refine blk_put (cs := #[.int .i64 ((rd_T29 l0 x24_1).f0), .int .i64 0, .int .i64 0]) ?_ 1 _ rfl; (with_reducible repeat (first | refine blk_drewN ?_ _ | refine blk_drew ?_ | refine blk_alloc ?_ _)); refine blk_put (cs := #[.int .i64 0, .int .i64 0, .int .i64 0]) ?_ 0 _ rfl; (with_reducible repeat (first | refine blk_drewN ?_ _ | refine blk_drew ?_ | refine blk_alloc ?_ _)); exact BK179.out) hb); have n2_ := Aside0.mk (below_step (by repeat (first | (with_reducible first | exact HB.out | apply below_alloc | apply pw_below_drewN | apply below_drew1 | refine below_set ?_ GE179.out) | exact HB.out)) hb); clear HO_3; clear BK179; clear HB; have HO_3 := n0_; have BK179 := n1_; have HB := n2_; clear n0_ n1_ n2_; (try clear hb); (try clear hb2); (try clear hk); (try clear hi)) | ((with_reducible refine gate_callee (f := 12) rfl ?_); refine goesL_ (some 31) rfl rfl Try.func12 (by kernel_rfl) rfl #[.agg #[.int .i64 t180, .int .i64 t181, .int .i64 t182]] rfl (by (try simp only [List.map_toArray, List.map_cons, List.map_nil]); first | done | rfl | (simp only [List.length_drop, List.length_take]; rfl)) ?_; (with_reducible refine (ropelineref24_Right.calls k1 t180 t181 t182 false _ A11.out).mono ?_); rintro e w43 ⟨rfl, hb⟩; refine ⟨_, rfl, ?_⟩; have n0_ := Aside0.mk (Kd.R_below (by (with_reducible repeat (first | apply Kd.R_alloc | apply Kd.R_drewN | apply Kd.R_drew)); exact HO_3.out) hb); have n1_ := Aside0.mk (blk_below (g := gb179) (o := .cells #[.int .i64 ((rd_T29 l0 x24_1).f0), .int .i64 ((rd_T29 l0 x24_1).f1), .int .i64 ((rd_T29 l0 x24_1).f2)] 29 (0, 0)) (by (with_reducible repeat (first | refine blk_drewN ?_ _ | refine blk_drew ?_ | refine blk_alloc ?_ _)); exact BK179.out) hb); have n2_ := Aside0.mk (below_step (by repeat (first | (with_reducible first | exact HB.out | apply below_alloc | apply pw_below_drewN | apply below_drew1 | refine below_set ?_ GE179.out) | exact HB.out)) hb); clear HO_3; clear BK179; clear HB; have HO_3 := n0_; have BK179 := n1_; have HB := n2_; clear n0_ n1_ n2_; (try clear hb); (try clear hb2); (try clear hk); (try clear hi); have hcz44_0 : w43.cell? ⟨gb179, 0, none⟩ = some (.int .i64 ((rd_T29 l0 x24_1).f0)) := (blk_cell BK179.out 0).trans rfl; have hcz44_1 : w43.cell? ⟨gb179, 1, none⟩ = some (.int .i64 ((rd_T29 l0 x24_1).f1)) := (blk_cell BK179.out 1).trans rfl; have hcz44_2 : w43.cell? ⟨gb179, 2, none⟩ = some (.int .i64 ((rd_T29 l0 x24_1).f2)) := (blk_cell BK179.out 2).trans rfl; have hfz44_0 := blk_frozen BK179.out 0; have hfz44_1 := blk_frozen BK179.out 1; have hfz44_2 := blk_frozen BK179.out 2) | ((with_reducible refine gate_callee (f := 10) rfl ?_); refine goesL_ (some 33) rfl rfl Try.func10 (by kernel_rfl) rfl #[.agg #[.int .i64 ((rd_T29 l0 x24_1).f0), .int .i64 ((rd_T29 l0 x24_1).f1), .int .i64 ((rd_T29 l0 x24_1).f2)]] rfl (by (try simp only [List.map_toArray, List.map_cons, List.map_nil]); first | done | rfl | (simp only [List.length_drop, List.length_take]; rfl)) ?_; (with_reducible refine (event_Right.calls ((rd_T29 l0 x24_1).f0) ((rd_T29 l0 x24_1).f1) ((rd_T29 l0 x24_1).f2) t184 _ A12.out).mono ?_); rintro e w45 ⟨rfl, hb⟩; refine ⟨_, rfl, ?_⟩; have n0_ := Aside0.mk (Kd.R_below (by (with_reducible repeat (first | apply Kd.R_alloc | apply Kd.R_drewN | apply Kd.R_drew)); exact HO_3.out) hb); have n1_ := Aside0.mk (blk_below (g := gb179) (o := .cells #[.int .i64 ((rd_T29 l0 x24_1).f0), .int .i64 ((rd_T29 l0 x24_1).f1), .int .i64 ((rd_T29 l0 x24_1).f2)] 29 (0, 0)) (by (with_reducible repeat (first | refine blk_drewN ?_ _ | refine blk_drew ?_ | refine blk_alloc ?_ _)); exact BK179.out) hb); have n2_ := Aside0.mk (below_step (by repeat (first | (with_reducible first | exact HB.out | apply below_alloc | apply pw_below_drewN | apply below_drew1 | refine below_set ?_ GE179.out) | exact HB.out)) hb); clear HO_3; clear BK179; clear HB; have HO_3 := n0_; have BK179 := n1_; have HB := n2_; clear n0_ n1_ n2_; (try clear hb); (try clear hb2); (try clear hk); (try clear hi); obtain ⟨Ao46, co46, eo46⟩ := Kd.R_slice HO_3.out; subst eo46) | (go_at_call 6; (with_reducible refine (ropelinelaw24_awake.calls k1  t185 _ A39.out).mono ?_); rintro e w47 ⟨rfl, hb⟩; have n0_ := Aside0.mk (Kd.R_below (by (with_reducible repeat (first | apply Kd.R_alloc | apply Kd.R_drewN | apply Kd.R_drew)); exact HO_3.out) hb); have n1_ := Aside0.mk (blk_below (g := gb179) (o := .cells #[.int .i64 ((rd_T29 l0 x24_1).f0), .int .i64 ((rd_T29 l0 x24_1).f1), .int .i64 ((rd_T29 l0 x24_1).f2)] 29 (0, 0)) (by (with_reducible repeat (first | refine blk_drewN ?_ _ | refine blk_drew ?_ | refine blk_alloc ?_ _)); exact BK179.out) hb); have n2_ := Aside0.mk (below_step (by repeat (first | (with_reducible first | exact HB.out | apply below_alloc | apply pw_below_drewN | apply below_drew1 | refine below_set ?_ GE179.out) | exact HB.out)) hb); clear HO_3; clear BK179; clear HB; have HO_3 := n0_; have BK179 := n1_; have HB := n2_; clear n0_ n1_ n2_; (try clear hb); (try clear hb2); (try clear hk); (try clear hi)))
                        go_ret
                        exact ⟨by first | rfl | (simp [errW_none, errW_some] <;> rfl) | (simp [*, errW_none, errW_some] <;> rfl), by repeat (first | (with_reducible first | exact HB.out | apply below_alloc | apply pw_below_drewN | apply below_drew1 | refine below_set ?_ GE179.out) | exact HB.out)⟩
                      · rw [if_neg c38] at H
                        have c38b0 : ((t173.length : Int) == 0) = false := beq_eq_false_iff_ne.mpr c38
                        have c38b1 : ((t173.length : Int) != 0) = true := bne_iff_ne.mpr c38
                        have c38b2 : ¬ (t173 = []) := fun h_ => c38 (by rw [h_]; rfl)
                        obtain rfl := Option.some.inj H
                        have p178 : 0 ≤ (x24_1 : Int) := of_decide_eq_true (by first | (with_reducible assumption) | assumption)
                        have q178 : x24_1 < (l0.length : Int) := of_decide_eq_true (by first | (with_reducible assumption) | assumption)
                        obtain ⟨ad178, e178, hx178_0, hx178_1, hx178_2⟩ := at_T29 HR0.out x24_1 p178 q178
                        cases e178
                        replace hx178_0 := (HB.out.cell (World.block_lt_of_cell? w _ hx178_0)).trans hx178_0
                        replace hx178_1 := (HB.out.cell (World.block_lt_of_cell? w _ hx178_1)).trans hx178_1
                        replace hx178_2 := (HB.out.cell (World.block_lt_of_cell? w _ hx178_2)).trans hx178_2
                        replace p178 := eq_true p178
                        replace q178 := eq_true q178
                        go_wp2_with (first | ((with_reducible refine gate_dst (N := 8) rfl ?_); (try (refine gate_guard (by rfl) ?_; dsimp only)); refine box_event ?hg (N := 8) ?hd (cs := #[.int .i64 0, .int .i64 0, .int .i64 0]) (t := 29) ?hr ?_; (case hd => rfl); (case hg => rfl); (case hr => first | (go_simp; done) | (go_simp; rfl)); intro gb179 hg w48 hbox hb; have n0_ := Aside0.mk (Kd.R_below (by (with_reducible repeat (first | apply Kd.R_alloc | apply Kd.R_drewN | apply Kd.R_drew)); exact HO_3.out) hb); have n1_ := Aside0.mk (below_step (by repeat (first | (with_reducible first | exact HB.out | apply below_alloc | apply pw_below_drewN | apply below_drew1) | exact HB.out)) hb); have n2_ := Aside0.mk (hbox); have n3_ := Aside0.mk ((by rw [hg]; exact (below_size (by repeat (first | (with_reducible first | exact HB.out | apply below_alloc | apply pw_below_drewN | apply below_drew1) | exact HB.out))) : w.heap.size ≤ gb179)); have n4_ := Aside0.mk ((by rw [hg]; exact (below_size (by repeat (first | (with_reducible first | exact HB.out | apply below_alloc | apply pw_below_drewN | apply below_drew1) | exact HB.out))) : w.heap.size ≤ gb179)); clear HO_3; clear HB; have HO_3 := n0_; have HB := n1_; have BK179 := n2_; have GW179 := n3_; have GE179 := n4_; clear n0_ n1_ n2_ n3_ n4_; clear hb hbox hg; have hcz49_0 : w48.cell? ⟨gb179, 0, none⟩ = some (.int .i64 0) := (blk_cell BK179.out 0).trans rfl; have hcz49_1 : w48.cell? ⟨gb179, 1, none⟩ = some (.int .i64 0) := (blk_cell BK179.out 1).trans rfl; have hcz49_2 : w48.cell? ⟨gb179, 2, none⟩ = some (.int .i64 0) := (blk_cell BK179.out 2).trans rfl; have hfz49_0 := blk_frozen BK179.out 0; have hfz49_1 := blk_frozen BK179.out 1; have hfz49_2 := blk_frozen BK179.out 2) | ((with_reducible refine gate_callee (f := 9) rfl ?_); refine goesL_ (some 30) rfl rfl Try.func9 (by kernel_rfl) rfl #[.agg #[.int .i64 ((rd_T29 l0 x24_1).f0), .int .i64 ((rd_T29 l0 x24_1).f1), .int .i64 ((rd_T29 l0 x24_1).f2)]] rfl (by (try simp only [List.map_toArray, List.map_cons, List.map_nil]); first | done | rfl | (simp only [List.length_drop, List.length_take]; rfl)) ?_; (with_reducible refine (ropelinelaw23_Ref.calls ((rd_T29 l0 x24_1).f0) ((rd_T29 l0 x24_1).f1) ((rd_T29 l0 x24_1).f2) t180 t181 t182 _ A10.out).mono ?_); rintro e w50 ⟨rfl, hb⟩; refine ⟨_, rfl, ?_⟩; have n0_ := Aside0.mk (Kd.R_below (by (with_reducible repeat (first | apply Kd.R_alloc | apply Kd.R_drewN | apply Kd.R_drew)); exact (Kd.R_mono (Kd.R_far (p := ⟨gb179, 2, none⟩) (Kd.R_far (p := ⟨gb179, 1, none⟩) (Kd.R_far (p := ⟨gb179, 0, none⟩) (Kd.R_types HO_3.out BK179.out (by decide)) (fun _ hk => hk.2) (.int .i64 ((rd_T29 l0 x24_1).f0))) (fun _ hk => hk.2) (.int .i64 ((rd_T29 l0 x24_1).f1))) (fun _ hk => hk.2) (.int .i64 ((rd_T29 l0 x24_1).f2))) (fun _ h_ => h_.1))) hb); have n1_ := Aside0.mk (blk_below (g := gb179) (o := .cells #[.int .i64 ((rd_T29 l0 x24_1).f0), .int .i64 ((rd_T29 l0 x24_1).f1), .int .i64 ((rd_T29 l0 x24_1).f2)] 29 (0, 0)) (by (with_reducible repeat (first | refine blk_drewN ?_ _ | refine blk_drew ?_ | refine blk_alloc ?_ _)); refine blk_put (cs := #[.int .i64 ((rd_T29 l0 x24_1).f0), .int .i64 ((rd_T29 l0 x24_1).f1), .int .i64 0]) ?_ 2 _ rfl; (with_reducible repeat (first | refine blk_drewN ?_ _ | refine blk_drew ?_ | refine blk_alloc ?_ _)); refine blk_put (cs := #[.int .i64 ((rd_T29 l0 x24_1).f0), .int .i64 0, .int .i64 0]) ?_ 1 _ rfl; (with_reducible repeat (first | refine blk_drewN ?_ _ | refine blk_drew ?_ | refine blk_alloc ?_ _)); refine blk_put (cs := #[.int .i64 0, .int .i64 0, .int .i64 0]) ?_ 0 _ rfl; (with_reducible repeat (first | refine blk_drewN ?_ _ | refine blk_drew ?_ | refine blk_alloc ?_ _)); exact BK179.out) hb); have n2_ := Aside0.mk (below_step (by repeat (first | (with_reducible first | exact HB.out | apply below_alloc | apply pw_below_drewN | apply below_drew1 | refine below_set ?_ GE179.out) | exact HB.out)) hb); clear HO_3; clear BK179; clear HB; have HO_3 := n0_; have BK179 := n1_; have HB := n2_; clear n0_ n1_ n2_; (try clear hb); (try clear hb2); (try clear hk); (try clear hi)) | ((with_reducible refine gate_callee (f := 12) rfl ?_); refine goesL_ (some 31) rfl rfl Try.func12 (by kernel_rfl) rfl #[.agg #[.int .i64 t180, .int .i64 t181, .int .i64 t182]] rfl (by (try simp only [List.map_toArray, List.map_cons, List.map_nil]); first | done | rfl | (simp only [List.length_drop, List.length_take]; rfl)) ?_; (with_reducible refine (ropelineref24_Right.calls k1 t180 t181 t182 false _ A11.out).mono ?_); rintro e w51 ⟨rfl, hb⟩; refine ⟨_, rfl, ?_⟩; have n0_ := Aside0.mk (Kd.R_below (by (with_reducible repeat (first | apply Kd.R_alloc | apply Kd.R_drewN | apply Kd.R_drew)); exact HO_3.out) hb); have n1_ := Aside0.mk (blk_below (g := gb179) (o := .cells #[.int .i64 ((rd_T29 l0 x24_1).f0), .int .i64 ((rd_T29 l0 x24_1).f1), .int .i64 ((rd_T29 l0 x24_1).f2)] 29 (0, 0)) (by (with_reducible repeat (first | refine blk_drewN ?_ _ | refine blk_drew ?_ | refine blk_alloc ?_ _)); exact BK179.out) hb); have n2_ := Aside0.mk (below_step (by repeat (first | (with_reducible first | exact HB.out | apply below_alloc | apply pw_below_drewN | apply below_drew1 | refine below_set ?_ GE179.out) | exact HB.out)) hb); clear HO_3; clear BK179; clear HB; have HO_3 := n0_; have BK179 := n1_; have HB := n2_; clear n0_ n1_ n2_; (try clear hb); (try clear hb2); (try clear hk); (try clear hi); have hcz52_0 : w51.cell? ⟨gb179, 0, none⟩ = some (.int .i64 ((rd_T29 l0 x24_1).f0)) := (blk_cell BK179.out 0).trans rfl; have hcz52_1 : w51.cell? ⟨gb179, 1, none⟩ = some (.int .i64 ((rd_T29 l0 x24_1).f1)) := (blk_cell BK179.out 1).trans rfl; have hcz52_2 : w51.cell? ⟨gb179, 2, none⟩ = some (.int .i64 ((rd_T29 l0 x24_1).f2)) := (blk_cell BK179.out 2).trans rfl; have hfz52_0 := blk_frozen BK179.out 0; have hfz52_1 := blk_frozen BK179.out 1; have hfz52_2 := blk_frozen BK179.out 2) | ((with_reducible refine gate_callee (f := 10) rfl ?_); refine goesL_ (some 33) rfl rfl Try.func10 (by kernel_rfl) rfl #[.agg #[.int .i64 ((rd_T29 l0 x24_1).f0), .int .i64 ((rd_T29 l0 x24_1).f1), .int .i64 ((rd_T29 l0 x24_1).f2)]] rfl (by (try simp only [List.map_toArray, List.map_cons, List.map_nil]); first | done | rfl | (simp only [List.length_drop, List.length_take]; rfl)) ?_; (with_reducible refine (event_Right.calls ((rd_T29 l0 x24_1).f0) ((rd_T29 l0 x24_1).f1) ((rd_T29 l0 x24_1).f2) t184 _ A12.out).mono ?_); rintro e w53 ⟨rfl, hb⟩; refine ⟨_, rfl, ?_⟩; have n0_ := Aside0.mk (Kd.R_below (by (with_reducible repeat (first | apply Kd.R_alloc | apply Kd.R_drewN | apply Kd.R_drew)); exact HO_3.out) hb); have n1_ := Aside0.mk (blk_below (g := gb179) (o := .cells #[.int .i64 ((rd_T29 l0 x24_1).f0), .int .i64 ((rd_T29 l0 x24_1).f1), .int .i64 ((rd_T29 l0 x24_1).f2)] 29 (0, 0)) (by (with_reducible repeat (first | refine blk_drewN ?_ _ | refine blk_drew ?_ | refine blk_alloc ?_ _)); exact BK179.out) hb); have n2_ := Aside0.mk (below_step (by repeat (first | (with_reducible first | exact HB.out | apply below_alloc | apply pw_below_drewN | apply below_drew1 | refine below_set ?_ GE179.out) | exact HB.out)) hb); clear HO_3; clear BK179; clear HB; have HO_3 := n0_; have BK179 := n1_; have HB := n2_; clear n0_ n1_ n2_; (try clear hb); (try clear hb2); (try clear hk); (try clear hi); obtain ⟨Ao54, co54, eo54⟩ := Kd.R_slice HO_3.out; subst eo54))
                        go_ret
                        exact ⟨by first | rfl | (simp [errW_none, errW_some] <;> rfl) | (simp [*, errW_none, errW_some] <;> rfl), by repeat (first | (with_reducible first | exact HB.out | apply below_alloc | apply pw_below_drewN | apply below_drew1 | refine below_set ?_ GE179.out) | exact HB.out)⟩
                    · rw [if_neg c37] at H
                      have c37b0 : (t174 == x24_1) = false := beq_eq_false_iff_ne.mpr c37
                      have c37b1 : (t174 != x24_1) = true := bne_iff_ne.mpr c37
                      obtain rfl := Option.some.inj H
                      have p178 : 0 ≤ (x24_1 : Int) := of_decide_eq_true (by first | (with_reducible assumption) | assumption)
                      have q178 : x24_1 < (l0.length : Int) := of_decide_eq_true (by first | (with_reducible assumption) | assumption)
                      obtain ⟨ad178, e178, hx178_0, hx178_1, hx178_2⟩ := at_T29 HR0.out x24_1 p178 q178
                      cases e178
                      replace hx178_0 := (HB.out.cell (World.block_lt_of_cell? w _ hx178_0)).trans hx178_0
                      replace hx178_1 := (HB.out.cell (World.block_lt_of_cell? w _ hx178_1)).trans hx178_1
                      replace hx178_2 := (HB.out.cell (World.block_lt_of_cell? w _ hx178_2)).trans hx178_2
                      replace p178 := eq_true p178
                      replace q178 := eq_true q178
                      go_wp2_with (first | ((with_reducible refine gate_dst (N := 8) rfl ?_); (try (refine gate_guard (by rfl) ?_; dsimp only)); refine box_event ?hg (N := 8) ?hd (cs := #[.int .i64 0, .int .i64 0, .int .i64 0]) (t := 29) ?hr ?_; (case hd => rfl); (case hg => rfl); (case hr => first | (go_simp; done) | (go_simp; rfl)); intro gb179 hg w55 hbox hb; have n0_ := Aside0.mk (Kd.R_below (by (with_reducible repeat (first | apply Kd.R_alloc | apply Kd.R_drewN | apply Kd.R_drew)); exact HO_3.out) hb); have n1_ := Aside0.mk (below_step (by repeat (first | (with_reducible first | exact HB.out | apply below_alloc | apply pw_below_drewN | apply below_drew1) | exact HB.out)) hb); have n2_ := Aside0.mk (hbox); have n3_ := Aside0.mk ((by rw [hg]; exact (below_size (by repeat (first | (with_reducible first | exact HB.out | apply below_alloc | apply pw_below_drewN | apply below_drew1) | exact HB.out))) : w.heap.size ≤ gb179)); have n4_ := Aside0.mk ((by rw [hg]; exact (below_size (by repeat (first | (with_reducible first | exact HB.out | apply below_alloc | apply pw_below_drewN | apply below_drew1) | exact HB.out))) : w.heap.size ≤ gb179)); clear HO_3; clear HB; have HO_3 := n0_; have HB := n1_; have BK179 := n2_; have GW179 := n3_; have GE179 := n4_; clear n0_ n1_ n2_ n3_ n4_; clear hb hbox hg; have hcz56_0 : w55.cell? ⟨gb179, 0, none⟩ = some (.int .i64 0) := (blk_cell BK179.out 0).trans rfl; have hcz56_1 : w55.cell? ⟨gb179, 1, none⟩ = some (.int .i64 0) := (blk_cell BK179.out 1).trans rfl; have hcz56_2 : w55.cell? ⟨gb179, 2, none⟩ = some (.int .i64 0) := (blk_cell BK179.out 2).trans rfl; have hfz56_0 := blk_frozen BK179.out 0; have hfz56_1 := blk_frozen BK179.out 1; have hfz56_2 := blk_frozen BK179.out 2) | ((with_reducible refine gate_callee (f := 9) rfl ?_); refine goesL_ (some 30) rfl rfl Try.func9 (by kernel_rfl) rfl #[.agg #[.int .i64 ((rd_T29 l0 x24_1).f0), .int .i64 ((rd_T29 l0 x24_1).f1), .int .i64 ((rd_T29 l0 x24_1).f2)]] rfl (by (try simp only [List.map_toArray, List.map_cons, List.map_nil]); first | done | rfl | (simp only [List.length_drop, List.length_take]; rfl)) ?_; (with_reducible refine (ropelinelaw23_Ref.calls ((rd_T29 l0 x24_1).f0) ((rd_T29 l0 x24_1).f1) ((rd_T29 l0 x24_1).f2) t180 t181 t182 _ A10.out).mono ?_); rintro e w57 ⟨rfl, hb⟩; refine ⟨_, rfl, ?_⟩; have n0_ := Aside0.mk (Kd.R_below (by (with_reducible repeat (first | apply Kd.R_alloc | apply Kd.R_drewN | apply Kd.R_drew)); exact (Kd.R_mono (Kd.R_far (p := ⟨gb179, 2, none⟩) (Kd.R_far (p := ⟨gb179, 1, none⟩) (Kd.R_far (p := ⟨gb179, 0, none⟩) (Kd.R_types HO_3.out BK179.out (by decide)) (fun _ hk => hk.2) (.int .i64 ((rd_T29 l0 x24_1).f0))) (fun _ hk => hk.2) (.int .i64 ((rd_T29 l0 x24_1).f1))) (fun _ hk => hk.2) (.int .i64 ((rd_T29 l0 x24_1).f2))) (fun _ h_ => h_.1))) hb); have n1_ := Aside0.mk (blk_below (g := gb179) (o := .cells #[.int .i64 ((rd_T29 l0 x24_1).f0), .int .i64 ((rd_T29 l0 x24_1).f1), .int .i64 ((rd_T29 l0 x24_1).f2)] 29 (0, 0)) (by (with_reducible repeat (first | refine blk_drewN ?_ _ | refine blk_drew ?_ | refine blk_alloc ?_ _)); refine blk_put (cs := #[.int .i64 ((rd_T29 l0 x24_1).f0), .int .i64 ((rd_T29 l0 x24_1).f1), .int .i64 0]) ?_ 2 _ rfl; (with_reducible repeat (first | refine blk_drewN ?_ _ | refine blk_drew ?_ | refine blk_alloc ?_ _)); refine blk_put (cs := #[.int .i64 ((rd_T29 l0 x24_1).f0), .int .i64 0, .int .i64 0]) ?_ 1 _ rfl; (with_reducible repeat (first | refine blk_drewN ?_ _ | refine blk_drew ?_ | refine blk_alloc ?_ _)); refine blk_put (cs := #[.int .i64 0, .int .i64 0, .int .i64 0]) ?_ 0 _ rfl; (with_reducible repeat (first | refine blk_drewN ?_ _ | refine blk_drew ?_ | refine blk_alloc ?_ _)); exact BK179.out) hb); have n2_ := Aside0.mk (below_step (by repeat (first | (with_reducible first | exact HB.out | apply below_alloc | apply pw_below_drewN | apply below_drew1 | refine below_set ?_ GE179.out) | exact HB.out)) hb); clear HO_3; clear BK179; clear HB; have HO_3 := n0_; have BK179 := n1_; have HB := n2_; clear n0_ n1_ n2_; (try clear hb); (try clear hb2); (try clear hk); (try clear hi)) | ((with_reducible refine gate_callee (f := 12) rfl ?_); refine goesL_ (some 31) rfl rfl Try.func12 (by kernel_rfl) rfl #[.agg #[.int .i64 t180, .int .i64 t181, .int .i64 t182]] rfl (by (try simp only [List.map_toArray, List.map_cons, List.map_nil]); first | done | rfl | (simp only [List.length_drop, List.length_take]; rfl)) ?_; (with_reducible refine (ropelineref24_Right.calls k1 t180 t181 t182 false _ A11.out).mono ?_); rintro e w58 ⟨rfl, hb⟩; refine ⟨_, rfl, ?_⟩; have n0_ := Aside0.mk (Kd.R_below (by (with_reducible repeat (first | apply Kd.R_alloc | apply Kd.R_drewN | apply Kd.R_drew)); exact HO_3.out) hb); have n1_ := Aside0.mk (blk_below (g := gb179) (o := .cells #[.int .i64 ((rd_T29 l0 x24_1).f0), .int .i64 ((rd_T29 l0 x24_1).f1), .int .i64 ((rd_T29 l0 x24_1).f2)] 29 (0, 0)) (by (with_reducible repeat (first | refine blk_drewN ?_ _ | refine blk_drew ?_ | refine blk_alloc ?_ _)); exact BK179.out) hb); have n2_ := Aside0.mk (below_step (by repeat (first | (with_reducible first | exact HB.out | apply below_alloc | apply pw_below_drewN | apply below_drew1 | refine below_set ?_ GE179.out) | exact HB.out)) hb); clear HO_3; clear BK179; clear HB; have HO_3 := n0_; have BK179 := n1_; have HB := n2_; clear n0_ n1_ n2_; (try clear hb); (try clear hb2); (try clear hk); (try clear hi); have hcz59_0 : w58.cell? ⟨gb179, 0, none⟩ = some (.int .i64 ((rd_T29 l0 x24_1).f0)) := (blk_cell BK179.out 0).trans rfl; have hcz59_1 : w58.cell? ⟨gb179, 1, none⟩ = some (.int .i64 ((rd_T29 l0 x24_1).f1)) := (blk_cell BK179.out 1).trans rfl; have hcz59_2 : w58.cell? ⟨gb179, 2, none⟩ = some (.int .i64 ((rd_T29 l0 x24_1).f2)) := (blk_cell BK179.out 2).trans rfl; have hfz59_0 := blk_frozen BK179.out 0; have hfz59_1 := blk_frozen BK179.out 1; have hfz59_2 := blk_frozen BK179.out 2) | ((with_reducible refine gate_callee (f := 10) rfl ?_); refine goesL_ (some 33) rfl rfl Try.func10 (by kernel_rfl) rfl #[.agg #[.int .i64 ((rd_T29 l0 x24_1).f0), .int .i64 ((rd_T29 l0 x24_1).f1), .int .i64 ((rd_T29 l0 x24_1).f2)]] rfl (by (try simp only [List.map_toArray, List.map_cons, List.map_nil]); first | done | rfl | (simp only [List.length_drop, List.length_take]; rfl)) ?_; (with_reducible refine (event_Right.calls ((rd_T29 l0 x24_1).f0) ((rd_T29 l0 x24_1).f1) ((rd_T29 l0 x24_1).f2) t184 _ A12.out).mono ?_); rintro e w60 ⟨rfl, hb⟩; refine ⟨_, rfl, ?_⟩; have n0_ := Aside0.mk (Kd.R_below (by (with_reducible repeat (first | apply Kd.R_alloc | apply Kd.R_drewN | apply Kd.R_drew)); exact HO_3.out) hb); have n1_ := Aside0.mk (blk_below (g := gb179) (o := .cells #[.int .i64 ((rd_T29 l0 x24_1).f0), .int .i64 ((rd_T29 l0 x24_1).f1), .int .i64 ((rd_T29 l0 x24_1).f2)] 29 (0, 0)) (by (with_reducible repeat (first | refine blk_drewN ?_ _ | refine blk_drew ?_ | refine blk_alloc ?_ _)); exact BK179.out) hb); have n2_ := Aside0.mk (below_step (by repeat (first | (with_reducible first | exact HB.out | apply below_alloc | apply pw_below_drewN | apply below_drew1 | refine below_set ?_ GE179.out) | exact HB.out)) hb); clear HO_3; clear BK179; clear HB; have HO_3 := n0_; have BK179 := n1_; have HB := n2_; clear n0_ n1_ n2_; (try clear hb); (try clear hb2); (try clear hk); (try clear hi)))
                      go_ret
                      exact ⟨by first | rfl | (simp [errW_none, errW_some] <;> rfl) | (simp [*, errW_none, errW_some] <;> rfl), by repeat (first | (with_reducible first | exact HB.out | apply below_alloc | apply pw_below_drewN | apply below_drew1 | refine below_set ?_ GE179.out) | exact HB.out)⟩
                  · rw [if_neg c36] at H
                    have c36b0 : (t175 == 8) = false := beq_eq_false_iff_ne.mpr c36
                    have c36b1 : (t175 != 8) = true := bne_iff_ne.mpr c36
                    obtain rfl := Option.some.inj H
                    have p178 : 0 ≤ (x24_1 : Int) := of_decide_eq_true (by first | (with_reducible assumption) | assumption)
                    have q178 : x24_1 < (l0.length : Int) := of_decide_eq_true (by first | (with_reducible assumption) | assumption)
                    obtain ⟨ad178, e178, hx178_0, hx178_1, hx178_2⟩ := at_T29 HR0.out x24_1 p178 q178
                    cases e178
                    replace hx178_0 := (HB.out.cell (World.block_lt_of_cell? w _ hx178_0)).trans hx178_0
                    replace hx178_1 := (HB.out.cell (World.block_lt_of_cell? w _ hx178_1)).trans hx178_1
                    replace hx178_2 := (HB.out.cell (World.block_lt_of_cell? w _ hx178_2)).trans hx178_2
                    replace p178 := eq_true p178
                    replace q178 := eq_true q178
                    go_wp2_with (first | ((with_reducible refine gate_dst (N := 8) rfl ?_); (try (refine gate_guard (by rfl) ?_; dsimp only)); refine box_event ?hg (N := 8) ?hd (cs := #[.int .i64 0, .int .i64 0, .int .i64 0]) (t := 29) ?hr ?_; (case hd => rfl); (case hg => rfl); (case hr => first | (go_simp; done) | (go_simp; rfl)); intro gb179 hg w61 hbox hb; have n0_ := Aside0.mk (Kd.R_below (by (with_reducible repeat (first | apply Kd.R_alloc | apply Kd.R_drewN | apply Kd.R_drew)); exact HO_3.out) hb); have n1_ := Aside0.mk (below_step (by repeat (first | (with_reducible first | exact HB.out | apply below_alloc | apply pw_below_drewN | apply below_drew1) | exact HB.out)) hb); have n2_ := Aside0.mk (hbox); have n3_ := Aside0.mk ((by rw [hg]; exact (below_size (by repeat (first | (with_reducible first | exact HB.out | apply below_alloc | apply pw_below_drewN | apply below_drew1) | exact HB.out))) : w.heap.size ≤ gb179)); have n4_ := Aside0.mk ((by rw [hg]; exact (below_size (by repeat (first | (with_reducible first | exact HB.out | apply below_alloc | apply pw_below_drewN | apply below_drew1) | exact HB.out))) : w.heap.size ≤ gb179)); clear HO_3; clear HB; have HO_3 := n0_; have HB := n1_; have BK179 := n2_; have GW179 := n3_; have GE179 := n4_; clear n0_ n1_ n2_ n3_ n4_; clear hb hbox hg; have hcz62_0 : w61.cell? ⟨gb179, 0, none⟩ = some (.int .i64 0) := (blk_cell BK179.out 0).trans rfl; have hcz62_1 : w61.cell? ⟨gb179, 1, none⟩ = some (.int .i64 0) := (blk_cell BK179.out 1).trans rfl; have hcz62_2 : w61.cell? ⟨gb179, 2, none⟩ = some (.int .i64 0) := (blk_cell BK179.out 2).trans rfl; have hfz62_0 := blk_frozen BK179.out 0; have hfz62_1 := blk_frozen BK179.out 1; have hfz62_2 := blk_frozen BK179.out 2) | ((with_reducible refine gate_callee (f := 9) rfl ?_); refine goesL_ (some 30) rfl rfl Try.func9 (by kernel_rfl) rfl #[.agg #[.int .i64 ((rd_T29 l0 x24_1).f0), .int .i64 ((rd_T29 l0 x24_1).f1), .int .i64 ((rd_T29 l0 x24_1).f2)]] rfl (by (try simp only [List.map_toArray, List.map_cons, List.map_nil]); first | done | rfl | (simp only [List.length_drop, List.length_take]; rfl)) ?_; (with_reducible refine (ropelinelaw23_Ref.calls ((rd_T29 l0 x24_1).f0) ((rd_T29 l0 x24_1).f1) ((rd_T29 l0 x24_1).f2) t180 t181 t182 _ A10.out).mono ?_); rintro e w63 ⟨rfl, hb⟩; refine ⟨_, rfl, ?_⟩; have n0_ := Aside0.mk (Kd.R_below (by (with_reducible repeat (first | apply Kd.R_alloc | apply Kd.R_drewN | apply Kd.R_drew)); exact (Kd.R_mono (Kd.R_far (p := ⟨gb179, 2, none⟩) (Kd.R_far (p := ⟨gb179, 1, none⟩) (Kd.R_far (p := ⟨gb179, 0, none⟩) (Kd.R_types HO_3.out BK179.out (by decide)) (fun _ hk => hk.2) (.int .i64 ((rd_T29 l0 x24_1).f0))) (fun _ hk => hk.2) (.int .i64 ((rd_T29 l0 x24_1).f1))) (fun _ hk => hk.2) (.int .i64 ((rd_T29 l0 x24_1).f2))) (fun _ h_ => h_.1))) hb); have n1_ := Aside0.mk (blk_below (g := gb179) (o := .cells #[.int .i64 ((rd_T29 l0 x24_1).f0), .int .i64 ((rd_T29 l0 x24_1).f1), .int .i64 ((rd_T29 l0 x24_1).f2)] 29 (0, 0)) (by (with_reducible repeat (first | refine blk_drewN ?_ _ | refine blk_drew ?_ | refine blk_alloc ?_ _)); refine blk_put (cs := #[.int .i64 ((rd_T29 l0 x24_1).f0), .int .i64 ((rd_T29 l0 x24_1).f1), .int .i64 0]) ?_ 2 _ rfl; (with_reducible repeat (first | refine blk_drewN ?_ _ | refine blk_drew ?_ | refine blk_alloc ?_ _)); refine blk_put (cs := #[.int .i64 ((rd_T29 l0 x24_1).f0), .int .i64 0, .int .i64 0]) ?_ 1 _ rfl; (with_reducible repeat (first | refine blk_drewN ?_ _ | refine blk_drew ?_ | refine blk_alloc ?_ _)); refine blk_put (cs := #[.int .i64 0, .int .i64 0, .int .i64 0]) ?_ 0 _ rfl; (with_reducible repeat (first | refine blk_drewN ?_ _ | refine blk_drew ?_ | refine blk_alloc ?_ _)); exact BK179.out) hb); have n2_ := Aside0.mk (below_step (by repeat (first | (with_reducible first | exact HB.out | apply below_alloc | apply pw_below_drewN | apply below_drew1 | refine below_set ?_ GE179.out) | exact HB.out)) hb); clear HO_3; clear BK179; clear HB; have HO_3 := n0_; have BK179 := n1_; have HB := n2_; clear n0_ n1_ n2_; (try clear hb); (try clear hb2); (try clear hk); (try clear hi)) | ((with_reducible refine gate_callee (f := 12) rfl ?_); refine goesL_ (some 31) rfl rfl Try.func12 (by kernel_rfl) rfl #[.agg #[.int .i64 t180, .int .i64 t181, .int .i64 t182]] rfl (by (try simp only [List.map_toArray, List.map_cons, List.map_nil]); first | done | rfl | (simp only [List.length_drop, List.length_take]; rfl)) ?_; (with_reducible refine (ropelineref24_Right.calls k1 t180 t181 t182 false _ A11.out).mono ?_); rintro e w64 ⟨rfl, hb⟩; refine ⟨_, rfl, ?_⟩; have n0_ := Aside0.mk (Kd.R_below (by (with_reducible repeat (first | apply Kd.R_alloc | apply Kd.R_drewN | apply Kd.R_drew)); exact HO_3.out) hb); have n1_ := Aside0.mk (blk_below (g := gb179) (o := .cells #[.int .i64 ((rd_T29 l0 x24_1).f0), .int .i64 ((rd_T29 l0 x24_1).f1), .int .i64 ((rd_T29 l0 x24_1).f2)] 29 (0, 0)) (by (with_reducible repeat (first | refine blk_drewN ?_ _ | refine blk_drew ?_ | refine blk_alloc ?_ _)); exact BK179.out) hb); have n2_ := Aside0.mk (below_step (by repeat (first | (with_reducible first | exact HB.out | apply below_alloc | apply pw_below_drewN | apply below_drew1 | refine below_set ?_ GE179.out) | exact HB.out)) hb); clear HO_3; clear BK179; clear HB; have HO_3 := n0_; have BK179 := n1_; have HB := n2_; clear n0_ n1_ n2_; (try clear hb); (try clear hb2); (try clear hk); (try clear hi); have hcz65_0 : w64.cell? ⟨gb179, 0, none⟩ = some (.int .i64 ((rd_T29 l0 x24_1).f0)) := (blk_cell BK179.out 0).trans rfl; have hcz65_1 : w64.cell? ⟨gb179, 1, none⟩ = some (.int .i64 ((rd_T29 l0 x24_1).f1)) := (blk_cell BK179.out 1).trans rfl; have hcz65_2 : w64.cell? ⟨gb179, 2, none⟩ = some (.int .i64 ((rd_T29 l0 x24_1).f2)) := (blk_cell BK179.out 2).trans rfl; have hfz65_0 := blk_frozen BK179.out 0; have hfz65_1 := blk_frozen BK179.out 1; have hfz65_2 := blk_frozen BK179.out 2) | ((with_reducible refine gate_callee (f := 10) rfl ?_); refine goesL_ (some 33) rfl rfl Try.func10 (by kernel_rfl) rfl #[.agg #[.int .i64 ((rd_T29 l0 x24_1).f0), .int .i64 ((rd_T29 l0 x24_1).f1), .int .i64 ((rd_T29 l0 x24_1).f2)]] rfl (by (try simp only [List.map_toArray, List.map_cons, List.map_nil]); first | done | rfl | (simp only [List.length_drop, List.length_take]; rfl)) ?_; (with_reducible refine (event_Right.calls ((rd_T29 l0 x24_1).f0) ((rd_T29 l0 x24_1).f1) ((rd_T29 l0 x24_1).f2) t184 _ A12.out).mono ?_); rintro e w66 ⟨rfl, hb⟩; refine ⟨_, rfl, ?_⟩; have n0_ := Aside0.mk (Kd.R_below (by (with_reducible repeat (first | apply Kd.R_alloc | apply Kd.R_drewN | apply Kd.R_drew)); exact HO_3.out) hb); have n1_ := Aside0.mk (blk_below (g := gb179) (o := .cells #[.int .i64 ((rd_T29 l0 x24_1).f0), .int .i64 ((rd_T29 l0 x24_1).f1), .int .i64 ((rd_T29 l0 x24_1).f2)] 29 (0, 0)) (by (with_reducible repeat (first | refine blk_drewN ?_ _ | refine blk_drew ?_ | refine blk_alloc ?_ _)); exact BK179.out) hb); have n2_ := Aside0.mk (below_step (by repeat (first | (with_reducible first | exact HB.out | apply below_alloc | apply pw_below_drewN | apply below_drew1 | refine below_set ?_ GE179.out) | exact HB.out)) hb); clear HO_3; clear BK179; clear HB; have HO_3 := n0_; have BK179 := n1_; have HB := n2_; clear n0_ n1_ n2_; (try clear hb); (try clear hb2); (try clear hk); (try clear hi)))
                    go_ret
                    exact ⟨by first | rfl | (simp [errW_none, errW_some] <;> rfl) | (simp [*, errW_none, errW_some] <;> rfl), by repeat (first | (with_reducible first | exact HB.out | apply below_alloc | apply pw_below_drewN | apply below_drew1 | refine below_set ?_ GE179.out) | exact HB.out)⟩
            · rw [if_neg c9] at H
              exact absurd H (by simp)
          · rw [if_neg c8] at H
            exact absurd H (by simp)
        · rw [if_neg c7] at H
          have c7b0 : decide (x24_1 < (l0.length : Int)) = false := decide_eq_false c7
          clear c7
          replace H := Option.bind_eq_some_iff.mp H
          obtain ⟨t186, A670, H⟩ := H
          replace H : (if t175 = 0 then (if t174 = (l0.length : Int) then (if (t173.length : Int) = x6_1 then (ropelinelaw24_EventEncodes.j1 k1 l0 t186 ((t186.length : Int) != (l0.length : Int))) else (ropelinelaw24_EventEncodes.j1 k1 l0 t186 true)) else (ropelinelaw24_EventEncodes.j1 k1 l0 t186 true)) else (ropelinelaw24_EventEncodes.j1 k1 l0 t186 true)) = some r := H
          have A67 := Aside0.mk A670
          clear A670
          have HC68 := Aside0.mk H
          clear H
          have hcv69 := own_string (P := Try.prog) Try.underlying22 Try.underlying5 Try.underlying9 (Kd.own_of_R HO_3.out)
          go_upto_region 18 with (first | ((with_reducible refine gate_callee (f := 8) rfl ?_); refine goesL_ (some 63) rfl rfl Try.func8 (by kernel_rfl) rfl #[.string (strOfNums t173)] rfl (by (try simp only [List.map_toArray, List.map_cons, List.map_nil]); first | done | rfl | (simp only [List.length_drop, List.length_take]; rfl)) ?_; (with_reducible refine (ropelineref24_Decode.calls k1 (strOfNums t173) t186 _ A67.out).mono ?_); rintro e w70 ⟨v187, rfl, ho0, hb⟩; refine ⟨_, rfl, ?_⟩; have n0_ := Aside0.mk (Kd.R_below (by (with_reducible repeat (first | apply Kd.R_alloc | apply Kd.R_drewN | apply Kd.R_drew)); exact HO_3.out) hb); have n1_ := Aside0.mk (Kd.R_lower ho0 (below_size (by repeat (first | (with_reducible first | exact HB.out | apply below_alloc | apply pw_below_drewN | apply below_drew1) | exact HB.out)))); have n2_ := Aside0.mk (below_step (by repeat (first | (with_reducible first | exact HB.out | apply below_alloc | apply pw_below_drewN | apply below_drew1) | exact HB.out)) hb); clear HO_3; clear HB; have HO_3 := n0_; have HO188 := n1_; have HB := n2_; clear n0_ n1_ n2_; (try clear hb); (try clear hb2); (try clear hk); (try clear hi); (try clear ho0)))
          (try simp only [Act.put, List.setIfInBounds_toArray, List.set_cons_zero, List.set_cons_succ])
          go_cut [84] (fun v84 wc => ∃ (kq : Nat) (x84_67 : Bool), v84 = .bool x84_67 ∧ Aside0 (ropelinelaw24_EventEncodes.j1 kq l0 t186 x84_67 = some r) ∧ Aside0 (kq ≤ k1) ∧ Aside0 (Kd.R k30 30 wc w.heap.size (fun _ => True) v187 t186) ∧ Aside0 (Below w.heap.size w wc))
          case first =>
            have H := HC68.out
            clear HC68
            by_cases c71 : t175 = 0
            · rw [if_pos c71] at H
              have c71b0 : (t175 == 0) = true := beq_iff_eq.mpr c71
              have c71b1 : (t175 != 0) = false := bne_eq_false_iff_eq.mpr c71
              clear c71
              (first | rw [c71b0] | (simp only [i64_w, i32_w]; rw [c71b0]) | skip)
              by_cases c72 : t174 = (l0.length : Int)
              · rw [if_pos c72] at H
                have c72b0 : (t174 == (l0.length : Int)) = true := beq_iff_eq.mpr c72
                have c72b1 : (t174 != (l0.length : Int)) = false := bne_eq_false_iff_eq.mpr c72
                clear c72
                by_cases c73 : (t173.length : Int) = x6_1
                · rw [if_pos c73] at H
                  have c73b0 : ((t173.length : Int) == x6_1) = true := beq_iff_eq.mpr c73
                  have c73b1 : ((t173.length : Int) != x6_1) = false := bne_eq_false_iff_eq.mpr c73
                  clear c73
                  have H' := Aside0.mk H
                  clear H
                  obtain ⟨Ao74, co74, eo74⟩ := Kd.R_slice HO_3.out
                  subst eo74
                  obtain ⟨Ao75, co75, eo75⟩ := Kd.R_slice HO188.out
                  subst eo75
                  go_wp2
                  go_meet
                  case rel => exact ⟨_, (((t186.length : Int) != (l0.length : Int))), (by first | rfl | (simp; done) | (simp [*]; done)), H', ⟨by have := HK1.out; first | omega | exact Nat.le_refl _⟩, ⟨by (with_reducible repeat (first | apply Kd.R_alloc | apply Kd.R_drewN | apply Kd.R_drew)); exact HO188.out⟩, ⟨by repeat (first | (with_reducible first | exact HB.out | apply below_alloc | apply pw_below_drewN | apply below_drew1) | exact HB.out)⟩⟩
                · rw [if_neg c73] at H
                  have c73b0 : ((t173.length : Int) == x6_1) = false := beq_eq_false_iff_ne.mpr c73
                  have c73b1 : ((t173.length : Int) != x6_1) = true := bne_iff_ne.mpr c73
                  have H' := Aside0.mk H
                  clear H
                  obtain ⟨Ao76, co76, eo76⟩ := Kd.R_slice HO_3.out
                  subst eo76
                  go_wp2
                  go_meet
                  case rel => exact ⟨_, (true), (by first | rfl | (simp; done) | (simp [*]; done)), H', ⟨by have := HK1.out; first | omega | exact Nat.le_refl _⟩, ⟨by (with_reducible repeat (first | apply Kd.R_alloc | apply Kd.R_drewN | apply Kd.R_drew)); exact HO188.out⟩, ⟨by repeat (first | (with_reducible first | exact HB.out | apply below_alloc | apply pw_below_drewN | apply below_drew1) | exact HB.out)⟩⟩
              · rw [if_neg c72] at H
                have c72b0 : (t174 == (l0.length : Int)) = false := beq_eq_false_iff_ne.mpr c72
                have c72b1 : (t174 != (l0.length : Int)) = true := bne_iff_ne.mpr c72
                have H' := Aside0.mk H
                clear H
                go_wp2
                go_meet
                case rel => exact ⟨_, (true), (by first | rfl | (simp; done) | (simp [*]; done)), H', ⟨by have := HK1.out; first | omega | exact Nat.le_refl _⟩, ⟨by (with_reducible repeat (first | apply Kd.R_alloc | apply Kd.R_drewN | apply Kd.R_drew)); exact HO188.out⟩, ⟨by repeat (first | (with_reducible first | exact HB.out | apply below_alloc | apply pw_below_drewN | apply below_drew1) | exact HB.out)⟩⟩
            · rw [if_neg c71] at H
              have c71b0 : (t175 == 0) = false := beq_eq_false_iff_ne.mpr c71
              have c71b1 : (t175 != 0) = true := bne_iff_ne.mpr c71
              (first | rw [c71b0] | (simp only [i64_w, i32_w]; rw [c71b0]) | skip)
              have H' := Aside0.mk H
              clear H
              go_wp2
              go_meet
              case rel => exact ⟨_, (true), (by first | rfl | (simp; done) | (simp [*]; done)), H', ⟨by have := HK1.out; first | omega | exact Nat.le_refl _⟩, ⟨by (with_reducible repeat (first | apply Kd.R_alloc | apply Kd.R_drewN | apply Kd.R_drew)); exact HO188.out⟩, ⟨by repeat (first | (with_reducible first | exact HB.out | apply below_alloc | apply pw_below_drewN | apply below_drew1) | exact HB.out)⟩⟩
          case rest =>
            clear HC68
            try clear c1
            try clear p1
            try clear q1
            try clear hx1
            try clear c2
            try clear c2b0
            try clear c2b1
            try clear p2
            try clear c3
            try clear c4
            try clear c6
            try clear p6
            try clear hcv6
            try clear c7
            try clear c7b0
            try clear c8
            try clear c8b0
            try clear c9
            try clear c9b0
            try clear c10
            try clear c11
            try clear c12
            try clear c13
            try clear c13b0
            try clear c13b1
            try clear c13b2
            try clear p17
            try clear q17
            try clear hx17
            try clear c20
            try clear c21
            try clear c21b0
            try clear c21b1
            try clear c36
            try clear c36b0
            try clear c36b1
            try clear c37
            try clear c37b0
            try clear c37b1
            try clear c38
            try clear c38b0
            try clear c38b1
            try clear c38b2
            try clear p64
            try clear hcv69
            try clear c71
            try clear c71b0
            try clear c71b1
            try clear c72
            try clear c72b0
            try clear c72b1
            try clear c73
            try clear c73b0
            try clear c73b1
            try clear hcz15_0
            try clear hcz15_1
            try clear hcz15_2
            try clear hcz18_0
            try clear hcz18_1
            try clear hcz18_2
            try clear hcz23_0
            try clear hcz23_1
            try clear hcz23_2
            try clear hcz26_0
            try clear hcz26_1
            try clear hcz26_2
            try clear hcz28_0
            try clear hcz28_1
            try clear hcz28_2
            try clear hcz30_0
            try clear hcz30_1
            try clear hcz30_2
            try clear hcz33_0
            try clear hcz33_1
            try clear hcz33_2
            try clear hcz35_0
            try clear hcz35_1
            try clear hcz35_2
            try clear hcz41_0
            try clear hcz41_1
            try clear hcz41_2
            try clear hcz44_0
            try clear hcz44_1
            try clear hcz44_2
            try clear hcz49_0
            try clear hcz49_1
            try clear hcz49_2
            try clear hcz52_0
            try clear hcz52_1
            try clear hcz52_2
            try clear hcz56_0
            try clear hcz56_1
            try clear hcz56_2
            try clear hcz59_0
            try clear hcz59_1
            try clear hcz59_2
            try clear hcz62_0
            try clear hcz62_1
            try clear hcz62_2
            try clear hcz65_0
            try clear hcz65_1
            try clear hcz65_2
            try clear hfz15_0
            try clear hfz15_1
            try clear hfz15_2
            try clear hfz18_0
            try clear hfz18_1
            try clear hfz18_2
            try clear hfz23_0
            try clear hfz23_1
            try clear hfz23_2
            try clear hfz26_0
            try clear hfz26_1
            try clear hfz26_2
            try clear hfz28_0
            try clear hfz28_1
            try clear hfz28_2
            try clear hfz30_0
            try clear hfz30_1
            try clear hfz30_2
            try clear hfz33_0
            try clear hfz33_1
            try clear hfz33_2
            try clear hfz35_0
            try clear hfz35_1
            try clear hfz35_2
            try clear hfz41_0
            try clear hfz41_1
            try clear hfz41_2
            try clear hfz44_0
            try clear hfz44_1
            try clear hfz44_2
            try clear hfz49_0
            try clear hfz49_1
            try clear hfz49_2
            try clear hfz52_0
            try clear hfz52_1
            try clear hfz52_2
            try clear hfz56_0
            try clear hfz56_1
            try clear hfz56_2
            try clear hfz59_0
            try clear hfz59_1
            try clear hfz59_2
            try clear hfz62_0
            try clear hfz62_1
            try clear hfz62_2
            try clear hfz65_0
            try clear hfz65_1
            try clear hfz65_2
            try clear hx178_0
            try clear hx178_1
            try clear hx178_2
            try clear p178
            try clear p2
            try clear q178
            obtain ⟨kq, x84_67, rfl, HA, HJ67, HO_10, HB⟩ := hcut
            cases kq with
            | zero => exact absurd HA.out (by simp [ropelinelaw24_EventEncodes.j1])
            | succ kj67 =>
              have H := HA.out
              clear HA
              simp only [ropelinelaw24_EventEncodes.j1] at H
              by_cases c77 : x84_67 = true
              · subst c77
                have H1 : (some false) = some r := by rw [if_pos rfl] at H; exact H
                clear H
                have H := H1
                clear H1
                obtain rfl := Option.some.inj H
                go_wp2
                go_ret
                exact ⟨by first | rfl | (simp [errW_none, errW_some] <;> rfl) | (simp [*, errW_none, errW_some] <;> rfl), by repeat (first | (with_reducible first | exact HB.out | apply below_alloc | apply pw_below_drewN | apply below_drew1) | exact HB.out)⟩
              · replace c77 := Bool.eq_false_iff.mpr c77
                subst c77
                have H1 : (ropelinelaw24_EventEncodes.l1 kj67 l0 t186 (l0.length : Int) 0) = some r := by rw [if_neg (show ¬ (false = true) by decide)] at H; exact H
                clear H
                have H := H1
                clear H1
                have H' := Aside0.mk H
                clear H
                go_wp2
                go_loopg [87] kj67 (fun kq v87 w' => ∃ (x87_3 : Int), v87 = .int .i64 x87_3 ∧ Aside0 (ropelinelaw24_EventEncodes.l1 kq l0 t186 (l0.length : Int) x87_3 = some r) ∧ Aside0 (kq ≤ kj67) ∧ Aside0 (Kd.R k30 30 w' w.heap.size (fun _ => True) v187 t186) ∧ Aside0 (Below w.heap.size w w'))
                case atStart => exact ⟨(0), (by first | rfl | (simp; done) | (simp [*]; done)), H', ⟨Nat.le_refl _⟩, ⟨by (with_reducible repeat (first | apply Kd.R_alloc | apply Kd.R_drewN | apply Kd.R_drew)); exact HO_10.out⟩, ⟨by repeat (first | (with_reducible first | exact HB.out | apply below_alloc | apply pw_below_drewN | apply below_drew1) | exact HB.out)⟩⟩
                case round =>
                  clear H'
                  try clear c1
                  try clear p1
                  try clear q1
                  try clear hx1
                  try clear c2
                  try clear c2b0
                  try clear c2b1
                  try clear p2
                  try clear c3
                  try clear c4
                  try clear c6
                  try clear p6
                  try clear hcv6
                  try clear c7
                  try clear c7b0
                  try clear c8
                  try clear c8b0
                  try clear c9
                  try clear c9b0
                  try clear c10
                  try clear c11
                  try clear c12
                  try clear c13
                  try clear c13b0
                  try clear c13b1
                  try clear c13b2
                  try clear p17
                  try clear q17
                  try clear hx17
                  try clear c20
                  try clear c21
                  try clear c21b0
                  try clear c21b1
                  try clear c36
                  try clear c36b0
                  try clear c36b1
                  try clear c37
                  try clear c37b0
                  try clear c37b1
                  try clear c38
                  try clear c38b0
                  try clear c38b1
                  try clear c38b2
                  try clear p64
                  try clear hcv69
                  try clear c71
                  try clear c71b0
                  try clear c71b1
                  try clear c72
                  try clear c72b0
                  try clear c72b1
                  try clear c73
                  try clear c73b0
                  try clear c73b1
                  try clear c77
                  try clear hcz15_0
                  try clear hcz15_1
                  try clear hcz15_2
                  try clear hcz18_0
                  try clear hcz18_1
                  try clear hcz18_2
                  try clear hcz23_0
                  try clear hcz23_1
                  try clear hcz23_2
                  try clear hcz26_0
                  try clear hcz26_1
                  try clear hcz26_2
                  try clear hcz28_0
                  try clear hcz28_1
                  try clear hcz28_2
                  try clear hcz30_0
                  try clear hcz30_1
                  try clear hcz30_2
                  try clear hcz33_0
                  try clear hcz33_1
                  try clear hcz33_2
                  try clear hcz35_0
                  try clear hcz35_1
                  try clear hcz35_2
                  try clear hcz41_0
                  try clear hcz41_1
                  try clear hcz41_2
                  try clear hcz44_0
                  try clear hcz44_1
                  try clear hcz44_2
                  try clear hcz49_0
                  try clear hcz49_1
                  try clear hcz49_2
                  try clear hcz52_0
                  try clear hcz52_1
                  try clear hcz52_2
                  try clear hcz56_0
                  try clear hcz56_1
                  try clear hcz56_2
                  try clear hcz59_0
                  try clear hcz59_1
                  try clear hcz59_2
                  try clear hcz62_0
                  try clear hcz62_1
                  try clear hcz62_2
                  try clear hcz65_0
                  try clear hcz65_1
                  try clear hcz65_2
                  try clear hfz15_0
                  try clear hfz15_1
                  try clear hfz15_2
                  try clear hfz18_0
                  try clear hfz18_1
                  try clear hfz18_2
                  try clear hfz23_0
                  try clear hfz23_1
                  try clear hfz23_2
                  try clear hfz26_0
                  try clear hfz26_1
                  try clear hfz26_2
                  try clear hfz28_0
                  try clear hfz28_1
                  try clear hfz28_2
                  try clear hfz30_0
                  try clear hfz30_1
                  try clear hfz30_2
                  try clear hfz33_0
                  try clear hfz33_1
                  try clear hfz33_2
                  try clear hfz35_0
                  try clear hfz35_1
                  try clear hfz35_2
                  try clear hfz41_0
                  try clear hfz41_1
                  try clear hfz41_2
                  try clear hfz44_0
                  try clear hfz44_1
                  try clear hfz44_2
                  try clear hfz49_0
                  try clear hfz49_1
                  try clear hfz49_2
                  try clear hfz52_0
                  try clear hfz52_1
                  try clear hfz52_2
                  try clear hfz56_0
                  try clear hfz56_1
                  try clear hfz56_2
                  try clear hfz59_0
                  try clear hfz59_1
                  try clear hfz59_2
                  try clear hfz62_0
                  try clear hfz62_1
                  try clear hfz62_2
                  try clear hfz65_0
                  try clear hfz65_1
                  try clear hfz65_2
                  try clear hx178_0
                  try clear hx178_1
                  try clear hx178_2
                  try clear p1
                  try clear p17
                  try clear p178
                  try clear p2
                  try clear p6
                  try clear p64
                  try clear q1
                  try clear q17
                  try clear q178
                  obtain ⟨x87_3, rfl, HA, HK3, HO_10, HB⟩ := hrel
                  cases gk with
                  | zero => exact absurd HA.out (by simp [ropelinelaw24_EventEncodes.l1])
                  | succ k3 =>
                    have H := HA.out
                    clear HA
                    simp only [ropelinelaw24_EventEncodes.l1] at H
                    by_cases c78 : x87_3 < (l0.length : Int)
                    · rw [if_pos c78] at H
                      have c78b0 : decide (x87_3 < (l0.length : Int)) = true := decide_eq_true c78
                      clear c78
                      by_cases c79 : 0 ≤ x87_3
                      · rw [if_pos c79] at H
                        have c79b0 : decide (0 ≤ x87_3) = true := decide_eq_true c79
                        clear c79
                        by_cases c80 : x87_3 < (t186.length : Int)
                        · rw [if_pos c80] at H
                          have c80b0 : decide (x87_3 < (t186.length : Int)) = true := decide_eq_true c80
                          clear c80
                          by_cases c81 : x87_3 < (l0.length : Int)
                          · rw [if_pos c81] at H
                            have c81b0 : decide (x87_3 < (l0.length : Int)) = true := decide_eq_true c81
                            clear c81
                            replace H := Option.bind_eq_some_iff.mp H
                            obtain ⟨⟨t191, t192, t193⟩, A820, H⟩ := H
                            replace H : (if (!(((rd_T30 t186 x87_3).f0) == t191) || (!(((rd_T30 t186 x87_3).f1) == t192) || (!(((rd_T30 t186 x87_3).f2) == t193)))) = true then (some false) else (ropelinelaw24_EventEncodes.l1 k3 l0 t186 (l0.length : Int) (wrap64 (x87_3 + 1)))) = some r := H
                            have A82 := Aside0.mk A820
                            clear A820
                            by_cases c83 : (!(((rd_T30 t186 x87_3).f0) == t191) || (!(((rd_T30 t186 x87_3).f1) == t192) || (!(((rd_T30 t186 x87_3).f2) == t193)))) = true
                            · rw [if_pos c83] at H
                              have c83b0 : (!(((rd_T30 t186 x87_3).f0) == t191) || (!(((rd_T30 t186 x87_3).f1) == t192) || (!(((rd_T30 t186 x87_3).f2) == t193)))) = true := c83
                              clear c83
                              obtain rfl := Option.some.inj H
                              try go_wp2
                              have n0_ := Aside0.mk (Kd.R_drew HO_10.out)
                              have n1_ := Aside0.mk (below_drew1 HB.out)
                              clear HO_10
                              clear HB
                              have HO_10 := n0_
                              have HB := n1_
                              clear n0_ n1_
                              obtain ⟨Ao85, co85, eo85⟩ := Kd.R_slice HO_10.out
                              (first | subst eo85 | (injection eo85 with f1_ f2_ f3_; have f4_ := f1_.symm; have f5_ := f3_.symm; clear f1_ f2_ f3_; subst f4_; subst f5_))
                              have p189 : 0 ≤ (x87_3 : Int) := of_decide_eq_true (by first | (with_reducible assumption) | assumption)
                              have q189 : x87_3 < (t186.length : Int) := of_decide_eq_true (by first | (with_reducible assumption) | assumption)
                              obtain ⟨ad189, e189, hx189_0, hx189_1, hx189_2⟩ := at_T30 (Kd.R_reads' HO_10.out).2.2 x87_3 p189 q189
                              cases e189
                              replace p189 := eq_true p189
                              replace q189 := eq_true q189
                              have p190 : 0 ≤ (x87_3 : Int) := of_decide_eq_true (by first | (with_reducible assumption) | assumption)
                              have q190 : x87_3 < (l0.length : Int) := of_decide_eq_true (by first | (with_reducible assumption) | assumption)
                              obtain ⟨ad190, e190, hx190_0, hx190_1, hx190_2⟩ := at_T29 HR0.out x87_3 p190 q190
                              have hw190_2 := hx190_2
                              have hw190_1 := hx190_1
                              have hw190_0 := hx190_0
                              cases e190
                              replace hx190_0 := (HB.out.cell (World.block_lt_of_cell? w _ hx190_0)).trans hx190_0
                              replace hx190_1 := (HB.out.cell (World.block_lt_of_cell? w _ hx190_1)).trans hx190_1
                              replace hx190_2 := (HB.out.cell (World.block_lt_of_cell? w _ hx190_2)).trans hx190_2
                              replace p190 := eq_true p190
                              replace q190 := eq_true q190
                              refine start_ (n := 10) (S := fun w' => w'.cell? (ad189.add ((x87_3).toNat * 3)) = some (.int .i64 ((rd_T30 t186 x87_3).f0)) ∧ w'.cell? ⟨(ad189.add ((x87_3).toNat * 3)).block, (ad189.add ((x87_3).toNat * 3)).off + 1, none⟩ = some (.int .i64 ((rd_T30 t186 x87_3).f1)) ∧ w'.cell? ⟨(ad189.add ((x87_3).toNat * 3)).block, (ad189.add ((x87_3).toNat * 3)).off + 2, none⟩ = some (.int .i64 ((rd_T30 t186 x87_3).f2)) ∧ w'.cell? (ad190.add ((x87_3).toNat * 3)) = some (.int .i64 ((rd_T29 l0 x87_3).f0)) ∧ w'.cell? ⟨(ad190.add ((x87_3).toNat * 3)).block, (ad190.add ((x87_3).toNat * 3)).off + 1, none⟩ = some (.int .i64 ((rd_T29 l0 x87_3).f1)) ∧ w'.cell? ⟨(ad190.add ((x87_3).toNat * 3)).block, (ad190.add ((x87_3).toNat * 3)).off + 2, none⟩ = some (.int .i64 ((rd_T29 l0 x87_3).f2))) (ds := []) #[false, false, false, false, false, false, false, false, false, false] (by kernel_rfl) rfl rfl ⟨hx189_0, hx189_1, hx189_2, ((HB.out.cell (World.block_lt_of_cell? w _ hw190_0)).trans hw190_0), ((HB.out.cell (World.block_lt_of_cell? w _ hw190_1)).trans hw190_1), ((HB.out.cell (World.block_lt_of_cell? w _ hw190_2)).trans hw190_2)⟩ (fun hHeld => ?_); refine with_tabW ropelinelaw24_EventEncodes.tab23 ropelinelaw24_EventEncodes.bits23 (fun HT_ HW_ => ?_)
                              generalize wr.drew = w84 at HO_10 HB hx189_0 hx189_1 hx189_2 hx190_0 hx190_1 hx190_2 hHeld ⊢
                              refine pure_ (i := 0) (N := some 90) (v := ?_) (a' := ?_) #[true, false, false, false, false, false, false, false, false, false] rfl rfl (any_of HT_.out (by kernel_rfl)) (fun _ _ _ h => h) (Or.inl ⟨by rfl, ?_⟩) ?_ ?_
                              rotate_left
                              · intro w'
                                go_simp
                                with_reducible rfl
                              rotate_left
                              · simp only [Act.put, List.setIfInBounds_toArray, List.set_cons_zero, List.set_cons_succ, i64_w, i32_w]
                                rfl
                              refine pure_ (i := 1) (N := some 91) (v := ?_) (a' := ?_) #[true, true, false, false, false, false, false, false, false, false] rfl rfl (any_of HT_.out (by kernel_rfl)) (fun _ _ _ h => h) (Or.inl ⟨by rfl, ?_⟩) ?_ ?_
                              rotate_left
                              · intro w'
                                go_simp
                                with_reducible rfl
                              rotate_left
                              · simp only [Act.put, List.setIfInBounds_toArray, List.set_cons_zero, List.set_cons_succ, i64_w, i32_w]
                                rfl
                              refine pure_ (i := 2) (N := some 92) (v := ?_) (a' := ?_) #[true, true, true, false, false, false, false, false, false, false] rfl rfl (any_of HT_.out (by kernel_rfl)) (fun _ _ _ h => h) (Or.inl ⟨by rfl, ?_⟩) ?_ ?_
                              rotate_left
                              · intro w'
                                go_simp
                                with_reducible rfl
                              rotate_left
                              · simp only [Act.put, List.setIfInBounds_toArray, List.set_cons_zero, List.set_cons_succ, i64_w, i32_w]
                                rfl
                              refine pure_ (i := 4) (N := some 94) (v := ?_) (a' := ?_) #[true, true, true, false, true, false, false, false, false, false] rfl rfl (any_of HT_.out (by kernel_rfl)) (fun _ _ _ h => h) (Or.inl ⟨by rfl, ?_⟩) ?_ ?_
                              rotate_left
                              · intro w'
                                go_simp
                                with_reducible rfl
                              rotate_left
                              · simp only [Act.put, List.setIfInBounds_toArray, List.set_cons_zero, List.set_cons_succ, i64_w, i32_w]
                                rfl
                              refine pure_ (i := 5) (N := some 95) (v := ?_) (a' := ?_) #[true, true, true, false, true, true, false, false, false, false] rfl rfl (any_of HT_.out (by kernel_rfl)) (fun _ _ _ h => h) (Or.inl ⟨by rfl, ?_⟩) ?_ ?_
                              rotate_left
                              · intro w'
                                go_simp
                                with_reducible rfl
                              rotate_left
                              · simp only [Act.put, List.setIfInBounds_toArray, List.set_cons_zero, List.set_cons_succ, i64_w, i32_w]
                                rfl
                              refine pure_ (i := 6) (N := some 96) (v := ?_) (a' := ?_) #[true, true, true, false, true, true, true, false, false, false] rfl rfl (any_of HT_.out (by kernel_rfl)) (fun _ _ _ h => h) (Or.inl ⟨by rfl, ?_⟩) ?_ ?_
                              rotate_left
                              · intro w'
                                go_simp
                                with_reducible rfl
                              rotate_left
                              · simp only [Act.put, List.setIfInBounds_toArray, List.set_cons_zero, List.set_cons_succ, i64_w, i32_w]
                                rfl
                              refine take_ (i := 3) (N := some 93) (v := ?_) (a' := ?_) #[true, true, true, true, true, true, true, false, false, false] rfl rfl (take_ofW HT_.out HW_.out (by kernel_rfl)) (fun _ _ _ h => h) (Or.inl ⟨by rfl, ?_⟩) hHeld ?_ ?_
                              rotate_left
                              · rintro w' ⟨s0, s1, s2, s3, s4, s5⟩
                                go_simp
                                with_reducible rfl
                              rotate_left
                              · simp only [Act.put, List.setIfInBounds_toArray, List.set_cons_zero, List.set_cons_succ, i64_w, i32_w]
                                rfl
                              refine take_ (i := 7) (N := some 97) (v := ?_) (a' := ?_) #[true, true, true, true, true, true, true, true, false, false] rfl rfl (take_ofW HT_.out HW_.out (by kernel_rfl)) (fun _ _ _ h => h) (Or.inl ⟨by rfl, ?_⟩) hHeld ?_ ?_
                              rotate_left
                              · rintro w' ⟨s0, s1, s2, s3, s4, s5⟩
                                go_simp
                                with_reducible rfl
                              rotate_left
                              · simp only [Act.put, List.setIfInBounds_toArray, List.set_cons_zero, List.set_cons_succ, i64_w, i32_w]
                                rfl
                              refine one_ (i := 8) (N := some 98) #[true, true, true, true, true, true, true, true, true, false] rfl rfl (one_of HT_.out (by kernel_rfl)) (by decide) (fun K hK => ?_)
                              refine goes_ Try.func9 (by kernel_rfl) rfl #[.agg #[.int .i64 ((rd_T29 l0 x87_3).f0), .int .i64 ((rd_T29 l0 x87_3).f1), .int .i64 ((rd_T29 l0 x87_3).f2)]] (by rfl) rfl rfl (by (try simp only [List.map_toArray, List.map_cons, List.map_nil]); first | done | rfl | (simp only [List.length_drop, List.length_take]; rfl)) ?_
                              with_reducible refine (ropelinelaw23_Ref.calls ((rd_T29 l0 x87_3).f0) ((rd_T29 l0 x87_3).f1) ((rd_T29 l0 x87_3).f2) t191 t192 t193 _ A82.out).mono ?_
                              rintro e w86 ⟨rfl, hb⟩
                              have HS0_ := (hb.cell (World.block_lt_of_cell? _ _ (hHeld.1))).trans (hHeld.1)
                              have HS1_ := (hb.cell (World.block_lt_of_cell? _ _ (hHeld.2.1))).trans (hHeld.2.1)
                              have HS2_ := (hb.cell (World.block_lt_of_cell? _ _ (hHeld.2.2.1))).trans (hHeld.2.2.1)
                              refine ⟨_, rfl, ?_⟩
                              have n0_ := Aside0.mk (Kd.R_below (by (with_reducible repeat (first | apply Kd.R_alloc | apply Kd.R_drewN | apply Kd.R_drew)); exact HO_10.out) hb)
                              have n1_ := Aside0.mk (below_step (by repeat (first | (with_reducible first | exact HB.out | apply below_alloc | apply pw_below_drewN | apply below_drew1) | exact HB.out)) hb)
                              clear HO_10
                              clear HB
                              have HO_10 := n0_
                              have HB := n1_
                              clear n0_ n1_
                              (try clear hb)
                              (try clear hb2)
                              (try clear hk)
                              (try clear hi)
                              refine hK.out _ _ ⟨HS0_, HS1_, HS2_, ((HB.out.cell (World.block_lt_of_cell? w _ hw190_0)).trans hw190_0), ((HB.out.cell (World.block_lt_of_cell? w _ hw190_1)).trans hw190_1), ((HB.out.cell (World.block_lt_of_cell? w _ hw190_2)).trans hw190_2)⟩ (fun hHeld => ?_)
                              clear hK K
                              refine norm_ (a' := ?_) ?_ ?_
                              rotate_left
                              · show Act.put _ (some 98) _ = _
                                simp only [Act.put, List.setIfInBounds_toArray, List.set_cons_zero, List.set_cons_succ, i64_w, i32_w]
                                rfl
                              refine pure_ (i := 9) (N := some 99) (v := ?_) (a' := ?_) #[true, true, true, true, true, true, true, true, true, true] rfl rfl (any_of HT_.out (by kernel_rfl)) (fun _ _ _ h => h) (Or.inl ⟨by rfl, ?_⟩) ?_ ?_
                              rotate_left
                              · intro w'
                                go_simp
                                with_reducible rfl
                              rotate_left
                              · simp only [Act.put, List.setIfInBounds_toArray, List.set_cons_zero, List.set_cons_succ, i64_w, i32_w]
                                rfl
                              refine done_ (done_of HT_.out (by kernel_rfl)) ?_
                              try go_wp2
                              go_ret
                              exact ⟨by first | rfl | (simp [errW_none, errW_some] <;> rfl) | (simp [*, errW_none, errW_some] <;> rfl), by repeat (first | (with_reducible first | exact HB.out | apply below_alloc | apply pw_below_drewN | apply below_drew1) | exact HB.out)⟩
                            · rw [if_neg c83] at H
                              have c83b0 : (!(((rd_T30 t186 x87_3).f0) == t191) || (!(((rd_T30 t186 x87_3).f1) == t192) || (!(((rd_T30 t186 x87_3).f2) == t193)))) = false := by simpa using c83
                              clear c83
                              have H' := Aside0.mk H
                              clear H
                              try go_wp2
                              have n0_ := Aside0.mk (Kd.R_drew HO_10.out)
                              have n1_ := Aside0.mk (below_drew1 HB.out)
                              clear HO_10
                              clear HB
                              have HO_10 := n0_
                              have HB := n1_
                              clear n0_ n1_
                              obtain ⟨Ao88, co88, eo88⟩ := Kd.R_slice HO_10.out
                              (first | subst eo88 | (injection eo88 with f1_ f2_ f3_; have f4_ := f1_.symm; have f5_ := f3_.symm; clear f1_ f2_ f3_; subst f4_; subst f5_))
                              have p189 : 0 ≤ (x87_3 : Int) := of_decide_eq_true (by first | (with_reducible assumption) | assumption)
                              have q189 : x87_3 < (t186.length : Int) := of_decide_eq_true (by first | (with_reducible assumption) | assumption)
                              obtain ⟨ad189, e189, hx189_0, hx189_1, hx189_2⟩ := at_T30 (Kd.R_reads' HO_10.out).2.2 x87_3 p189 q189
                              cases e189
                              replace p189 := eq_true p189
                              replace q189 := eq_true q189
                              have p190 : 0 ≤ (x87_3 : Int) := of_decide_eq_true (by first | (with_reducible assumption) | assumption)
                              have q190 : x87_3 < (l0.length : Int) := of_decide_eq_true (by first | (with_reducible assumption) | assumption)
                              obtain ⟨ad190, e190, hx190_0, hx190_1, hx190_2⟩ := at_T29 HR0.out x87_3 p190 q190
                              have hw190_2 := hx190_2
                              have hw190_1 := hx190_1
                              have hw190_0 := hx190_0
                              cases e190
                              replace hx190_0 := (HB.out.cell (World.block_lt_of_cell? w _ hx190_0)).trans hx190_0
                              replace hx190_1 := (HB.out.cell (World.block_lt_of_cell? w _ hx190_1)).trans hx190_1
                              replace hx190_2 := (HB.out.cell (World.block_lt_of_cell? w _ hx190_2)).trans hx190_2
                              replace p190 := eq_true p190
                              replace q190 := eq_true q190
                              refine start_ (n := 10) (S := fun w' => w'.cell? (ad189.add ((x87_3).toNat * 3)) = some (.int .i64 ((rd_T30 t186 x87_3).f0)) ∧ w'.cell? ⟨(ad189.add ((x87_3).toNat * 3)).block, (ad189.add ((x87_3).toNat * 3)).off + 1, none⟩ = some (.int .i64 ((rd_T30 t186 x87_3).f1)) ∧ w'.cell? ⟨(ad189.add ((x87_3).toNat * 3)).block, (ad189.add ((x87_3).toNat * 3)).off + 2, none⟩ = some (.int .i64 ((rd_T30 t186 x87_3).f2)) ∧ w'.cell? (ad190.add ((x87_3).toNat * 3)) = some (.int .i64 ((rd_T29 l0 x87_3).f0)) ∧ w'.cell? ⟨(ad190.add ((x87_3).toNat * 3)).block, (ad190.add ((x87_3).toNat * 3)).off + 1, none⟩ = some (.int .i64 ((rd_T29 l0 x87_3).f1)) ∧ w'.cell? ⟨(ad190.add ((x87_3).toNat * 3)).block, (ad190.add ((x87_3).toNat * 3)).off + 2, none⟩ = some (.int .i64 ((rd_T29 l0 x87_3).f2))) (ds := []) #[false, false, false, false, false, false, false, false, false, false] (by kernel_rfl) rfl rfl ⟨hx189_0, hx189_1, hx189_2, ((HB.out.cell (World.block_lt_of_cell? w _ hw190_0)).trans hw190_0), ((HB.out.cell (World.block_lt_of_cell? w _ hw190_1)).trans hw190_1), ((HB.out.cell (World.block_lt_of_cell? w _ hw190_2)).trans hw190_2)⟩ (fun hHeld => ?_); refine with_tabW ropelinelaw24_EventEncodes.tab23 ropelinelaw24_EventEncodes.bits23 (fun HT_ HW_ => ?_)
                              generalize wr.drew = w87 at HO_10 HB hx189_0 hx189_1 hx189_2 hx190_0 hx190_1 hx190_2 hHeld ⊢
                              refine pure_ (i := 0) (N := some 90) (v := ?_) (a' := ?_) #[true, false, false, false, false, false, false, false, false, false] rfl rfl (any_of HT_.out (by kernel_rfl)) (fun _ _ _ h => h) (Or.inl ⟨by rfl, ?_⟩) ?_ ?_
                              rotate_left
                              · intro w'
                                go_simp
                                with_reducible rfl
                              rotate_left
                              · simp only [Act.put, List.setIfInBounds_toArray, List.set_cons_zero, List.set_cons_succ, i64_w, i32_w]
                                rfl
                              refine pure_ (i := 1) (N := some 91) (v := ?_) (a' := ?_) #[true, true, false, false, false, false, false, false, false, false] rfl rfl (any_of HT_.out (by kernel_rfl)) (fun _ _ _ h => h) (Or.inl ⟨by rfl, ?_⟩) ?_ ?_
                              rotate_left
                              · intro w'
                                go_simp
                                with_reducible rfl
                              rotate_left
                              · simp only [Act.put, List.setIfInBounds_toArray, List.set_cons_zero, List.set_cons_succ, i64_w, i32_w]
                                rfl
                              refine pure_ (i := 2) (N := some 92) (v := ?_) (a' := ?_) #[true, true, true, false, false, false, false, false, false, false] rfl rfl (any_of HT_.out (by kernel_rfl)) (fun _ _ _ h => h) (Or.inl ⟨by rfl, ?_⟩) ?_ ?_
                              rotate_left
                              · intro w'
                                go_simp
                                with_reducible rfl
                              rotate_left
                              · simp only [Act.put, List.setIfInBounds_toArray, List.set_cons_zero, List.set_cons_succ, i64_w, i32_w]
                                rfl
                              refine pure_ (i := 4) (N := some 94) (v := ?_) (a' := ?_) #[true, true, true, false, true, false, false, false, false, false] rfl rfl (any_of HT_.out (by kernel_rfl)) (fun _ _ _ h => h) (Or.inl ⟨by rfl, ?_⟩) ?_ ?_
                              rotate_left
                              · intro w'
                                go_simp
                                with_reducible rfl
                              rotate_left
                              · simp only [Act.put, List.setIfInBounds_toArray, List.set_cons_zero, List.set_cons_succ, i64_w, i32_w]
                                rfl
                              refine pure_ (i := 5) (N := some 95) (v := ?_) (a' := ?_) #[true, true, true, false, true, true, false, false, false, false] rfl rfl (any_of HT_.out (by kernel_rfl)) (fun _ _ _ h => h) (Or.inl ⟨by rfl, ?_⟩) ?_ ?_
                              rotate_left
                              · intro w'
                                go_simp
                                with_reducible rfl
                              rotate_left
                              · simp only [Act.put, List.setIfInBounds_toArray, List.set_cons_zero, List.set_cons_succ, i64_w, i32_w]
                                rfl
                              refine pure_ (i := 6) (N := some 96) (v := ?_) (a' := ?_) #[true, true, true, false, true, true, true, false, false, false] rfl rfl (any_of HT_.out (by kernel_rfl)) (fun _ _ _ h => h) (Or.inl ⟨by rfl, ?_⟩) ?_ ?_
                              rotate_left
                              · intro w'
                                go_simp
                                with_reducible rfl
                              rotate_left
                              · simp only [Act.put, List.setIfInBounds_toArray, List.set_cons_zero, List.set_cons_succ, i64_w, i32_w]
                                rfl
                              refine take_ (i := 3) (N := some 93) (v := ?_) (a' := ?_) #[true, true, true, true, true, true, true, false, false, false] rfl rfl (take_ofW HT_.out HW_.out (by kernel_rfl)) (fun _ _ _ h => h) (Or.inl ⟨by rfl, ?_⟩) hHeld ?_ ?_
                              rotate_left
                              · rintro w' ⟨s0, s1, s2, s3, s4, s5⟩
                                go_simp
                                with_reducible rfl
                              rotate_left
                              · simp only [Act.put, List.setIfInBounds_toArray, List.set_cons_zero, List.set_cons_succ, i64_w, i32_w]
                                rfl
                              refine take_ (i := 7) (N := some 97) (v := ?_) (a' := ?_) #[true, true, true, true, true, true, true, true, false, false] rfl rfl (take_ofW HT_.out HW_.out (by kernel_rfl)) (fun _ _ _ h => h) (Or.inl ⟨by rfl, ?_⟩) hHeld ?_ ?_
                              rotate_left
                              · rintro w' ⟨s0, s1, s2, s3, s4, s5⟩
                                go_simp
                                with_reducible rfl
                              rotate_left
                              · simp only [Act.put, List.setIfInBounds_toArray, List.set_cons_zero, List.set_cons_succ, i64_w, i32_w]
                                rfl
                              refine one_ (i := 8) (N := some 98) #[true, true, true, true, true, true, true, true, true, false] rfl rfl (one_of HT_.out (by kernel_rfl)) (by decide) (fun K hK => ?_)
                              refine goes_ Try.func9 (by kernel_rfl) rfl #[.agg #[.int .i64 ((rd_T29 l0 x87_3).f0), .int .i64 ((rd_T29 l0 x87_3).f1), .int .i64 ((rd_T29 l0 x87_3).f2)]] (by rfl) rfl rfl (by (try simp only [List.map_toArray, List.map_cons, List.map_nil]); first | done | rfl | (simp only [List.length_drop, List.length_take]; rfl)) ?_
                              with_reducible refine (ropelinelaw23_Ref.calls ((rd_T29 l0 x87_3).f0) ((rd_T29 l0 x87_3).f1) ((rd_T29 l0 x87_3).f2) t191 t192 t193 _ A82.out).mono ?_
                              rintro e w89 ⟨rfl, hb⟩
                              have HS0_ := (hb.cell (World.block_lt_of_cell? _ _ (hHeld.1))).trans (hHeld.1)
                              have HS1_ := (hb.cell (World.block_lt_of_cell? _ _ (hHeld.2.1))).trans (hHeld.2.1)
                              have HS2_ := (hb.cell (World.block_lt_of_cell? _ _ (hHeld.2.2.1))).trans (hHeld.2.2.1)
                              refine ⟨_, rfl, ?_⟩
                              have n0_ := Aside0.mk (Kd.R_below (by (with_reducible repeat (first | apply Kd.R_alloc | apply Kd.R_drewN | apply Kd.R_drew)); exact HO_10.out) hb)
                              have n1_ := Aside0.mk (below_step (by repeat (first | (with_reducible first | exact HB.out | apply below_alloc | apply pw_below_drewN | apply below_drew1) | exact HB.out)) hb)
                              clear HO_10
                              clear HB
                              have HO_10 := n0_
                              have HB := n1_
                              clear n0_ n1_
                              (try clear hb)
                              (try clear hb2)
                              (try clear hk)
                              (try clear hi)
                              refine hK.out _ _ ⟨HS0_, HS1_, HS2_, ((HB.out.cell (World.block_lt_of_cell? w _ hw190_0)).trans hw190_0), ((HB.out.cell (World.block_lt_of_cell? w _ hw190_1)).trans hw190_1), ((HB.out.cell (World.block_lt_of_cell? w _ hw190_2)).trans hw190_2)⟩ (fun hHeld => ?_)
                              clear hK K
                              refine norm_ (a' := ?_) ?_ ?_
                              rotate_left
                              · show Act.put _ (some 98) _ = _
                                simp only [Act.put, List.setIfInBounds_toArray, List.set_cons_zero, List.set_cons_succ, i64_w, i32_w]
                                rfl
                              refine pure_ (i := 9) (N := some 99) (v := ?_) (a' := ?_) #[true, true, true, true, true, true, true, true, true, true] rfl rfl (any_of HT_.out (by kernel_rfl)) (fun _ _ _ h => h) (Or.inl ⟨by rfl, ?_⟩) ?_ ?_
                              rotate_left
                              · intro w'
                                go_simp
                                with_reducible rfl
                              rotate_left
                              · simp only [Act.put, List.setIfInBounds_toArray, List.set_cons_zero, List.set_cons_succ, i64_w, i32_w]
                                rfl
                              refine done_ (done_of HT_.out (by kernel_rfl)) ?_
                              try go_wp2
                              go_roundg k3
                              case measure => have := HK1.out; have := HJ67.out; have := HK3.out; omega
                              case rel => exact ⟨(wrap64 (x87_3 + 1)), (by first | rfl | (simp; done) | (simp [*]; done)), H', ⟨by have := HK1.out; have := HJ67.out; have := HK3.out; omega⟩, ⟨by (with_reducible repeat (first | apply Kd.R_alloc | apply Kd.R_drewN | apply Kd.R_drew)); exact HO_10.out⟩, ⟨by repeat (first | (with_reducible first | exact HB.out | apply below_alloc | apply pw_below_drewN | apply below_drew1) | exact HB.out)⟩⟩
                          · rw [if_neg c81] at H
                            exact absurd H (by simp)
                        · rw [if_neg c80] at H
                          exact absurd H (by simp)
                      · rw [if_neg c79] at H
                        exact absurd H (by simp)
                    · rw [if_neg c78] at H
                      have c78b0 : decide (x87_3 < (l0.length : Int)) = false := decide_eq_false c78
                      clear c78
                      replace H := Option.bind_eq_some_iff.mp H
                      obtain ⟨t194, A900, H⟩ := H
                      replace H : (some t194) = some r := H
                      have A90 := Aside0.mk A900
                      clear A900
                      obtain rfl := Option.some.inj H
                      go_wp2_with (first | ((with_reducible refine gate_callee (f := 6) rfl ?_); refine goesL_ (some 101) rfl rfl Try.func6 (by kernel_rfl) rfl #[] rfl (by (try simp only [List.map_toArray, List.map_cons, List.map_nil]); first | done | rfl | (simp only [List.length_drop, List.length_take]; rfl)) ?_; (with_reducible refine (ropelinelaw24_awake.calls k3  t194 _ A90.out).mono ?_); rintro e w91 ⟨rfl, hb⟩; refine ⟨_, rfl, ?_⟩; have n0_ := Aside0.mk (Kd.R_below (by (with_reducible repeat (first | apply Kd.R_alloc | apply Kd.R_drewN | apply Kd.R_drew)); exact HO_10.out) hb); have n1_ := Aside0.mk (below_step (by repeat (first | (with_reducible first | exact HB.out | apply below_alloc | apply pw_below_drewN | apply below_drew1) | exact HB.out)) hb); clear HO_10; clear HB; have HO_10 := n0_; have HB := n1_; clear n0_ n1_; (try clear hb); (try clear hb2); (try clear hk); (try clear hi)))
                      go_ret
                      exact ⟨by first | rfl | (simp [errW_none, errW_some] <;> rfl) | (simp [*, errW_none, errW_some] <;> rfl), by repeat (first | (with_reducible first | exact HB.out | apply below_alloc | apply pw_below_drewN | apply below_drew1) | exact HB.out)⟩
end Go.Proofs.Ytmlpbhgdlociiaa.Ev
