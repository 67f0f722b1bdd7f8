/- event.Decode: what it comes to, as a Lean function, and that the Go code comes to just that. -/
import Derived.Test.YtmlpbhgdlociiaaPEventEncodesx1
import Derived.Test.YtmlpbhgdlociiaaPEventEncodesx2
namespace Go.Proofs.Ytmlpbhgdlociiaa.Ev
open Go.RowKit Go.Proofs.YtmlpbhgdlociiaaW.PrintWords Go.Proofs.YtmlpbhgdlociiaaW.PrintLast Go.Proofs.YtmlpbhgdlociiaaW.PrintMore Go.Proofs.Ytmlpbhgdlociiaa.PEventEncodes
attribute [local go_sem] max2_int min2_int max_two min_two max_three min_three max_four min_four
set_option linter.unusedVariables false
set_option linter.unusedSimpArgs false
attribute [local go_sem high] eqA29 eqA30
/-! ### event_Decode: function 7 -/
def event_Decode.l0 : Nat → List Int → List (S29) → Int → Option ((List (S29)))
  | 0, _, _, _ => none
  | k + 1, x0, x3, x4 => if x4 < (x0.length : Int) then (if 0 ≤ x4 then (if (Int.tmod (rd x0 x4) 6) = 2 then (if x3.length < 5864062014805 then (event_Decode.l0 k x0 (x3 ++ [(⟨2, 0, 0⟩ : S29)]) (wrap64 (x4 + 1))) else (none)) else (if (Int.tmod (rd x0 x4) 6) = 3 then (if x3.length < 5864062014805 then (event_Decode.l0 k x0 (x3 ++ [(⟨3, (Int.tdiv (rd x0 x4) 6) % 256, 0⟩ : S29)]) (wrap64 (x4 + 1))) else (none)) else (if (Int.tmod (rd x0 x4) 6) = 4 then (if (wrap64 (x4 + 1)) < (x0.length : Int) then (if 0 ≤ (wrap64 (x4 + 1)) then (if x3.length < 5864062014805 then (event_Decode.l0 k x0 (x3 ++ [(⟨4, (Int.tdiv (rd x0 x4) 6) % 256, wrap64 (rd x0 (wrap64 (x4 + 1)))⟩ : S29)]) (wrap64 ((wrap64 (x4 + 1)) + 1))) else (none)) else (none)) else (if x3.length < 5864062014805 then (event_Decode.l0 k x0 (x3 ++ [(⟨4, (Int.tdiv (rd x0 x4) 6) % 256, 0⟩ : S29)]) (wrap64 ((wrap64 (x4 + 1)) + 1))) else (none))) else (if (Int.tmod (rd x0 x4) 6) = 5 then (if x3.length < 5864062014805 then (event_Decode.l0 k x0 (x3 ++ [(⟨5, (Int.tdiv (rd x0 x4) 6) % 256, 0⟩ : S29)]) (wrap64 (x4 + 1))) else (none)) else (if x3.length < 5864062014805 then (event_Decode.l0 k x0 (x3 ++ [(⟨1, (Int.tdiv (rd x0 x4) 6) % 256, 0⟩ : S29)]) (wrap64 (x4 + 1))) else (none)))))) else (none)) else (some x3)
def event_Decode.f (k : Nat) (l0 : List Int) : Option ((List (S29))) := event_Decode.l0 k l0 ([] : List (S29)) 0
theorem event_Decode.mono_l : ∀ k, (∀ y0 y1 y2, LeO (event_Decode.l0 k y0 y1 y2) (event_Decode.l0 (k + 1) y0 y1 y2))
  | 0 => fun _ _ _ r h => by simp [event_Decode.l0] at h
  | k + 1 => by
    have ih0 := event_Decode.mono_l k
    · intro y0 y1 y2
      unfold event_Decode.l0
      repeat' first
      | (with_reducible exact ih0 _ _ _)
      | (with_reducible exact LeO.refl _)
      | (with_reducible exact LeO.none _)
      | (with_reducible refine LeO.ite ?_ ?_)
      | (with_reducible refine LeO.bind ?_ (fun _ => ?_))
      | exact ih0 _ _ _
      | exact LeO.none _
      | refine LeO.ite ?_ ?_
      | refine LeO.bind ?_ (fun _ => ?_)
theorem event_Decode.mono : ∀ a0 k, LeO (event_Decode.f k a0) (event_Decode.f (k + 1) a0) := by
  intro a0 k
  have ih0 := event_Decode.mono_l k
  unfold event_Decode.f
  repeat' first
      | (with_reducible exact ih0 _ _ _)
      | (with_reducible exact LeO.refl _)
      | (with_reducible exact LeO.none _)
      | (with_reducible refine LeO.ite ?_ ?_)
      | (with_reducible refine LeO.bind ?_ (fun _ => ?_))
      | exact ih0 _ _ _
      | exact LeO.none _
      | refine LeO.ite ?_ ?_
      | refine LeO.bind ?_ (fun _ => ?_)

/-- A cell that is there stays there, whatever is made beside it. -/
theorem cell_alloc_all {W : World} {a : Addr} {v : Value} (h : W.cell? a = some v) : ∀ o, (W.alloc o).cell? a = some v :=
  fun o => ((below_alloc (Below.refl W.heap.size W) o).cell (World.block_lt_of_cell? W a h)).trans h
set_option maxHeartbeats 8000000 in
set_option maxRecDepth 100000 in
theorem event_Decode.calls (k : Nat) (A0 : Option Addr) (c0 : Nat) (l0 : List Int) (r : List (S29)) (w : World) (hr0 : Kd.C (Kd.int .u8) w A0 l0.length l0) (hc0 : l0.length ≤ c0) (h : event_Decode.f k l0 = some r) :
    Calls Try.prog 7 #[.slice A0 l0.length c0] w fun e w' => ∃ v0_ : Value, e = .returned (v0_) ∧ Kd.R k29 29 w' w.heap.size (fun _ => True) v0_ r ∧ Below w.heap.size w w' := by
  have hu29 := Try.underlying29
  have HR0 := Aside0.mk hr0
  have HC0 := Aside0.mk hc0
  clear hr0 hc0
  have HB := Aside0.mk (Below.refl w.heap.size w)
  have H : (event_Decode.l0 k l0 ([] : List (S29)) 0) = some r := h
  clear h
  have H' := Aside0.mk H
  clear H
  go_enter Try.func7, Try.ntmps7
  go_wp2
  go_loopg [3, 4] k (fun kq v3 v4 w' => ∃ (x3_1 : List (S29)) (x4_1 : Int), v4 = .int .i64 x4_1 ∧ Aside0 (event_Decode.l0 kq l0 x3_1 x4_1 = some r) ∧ Aside0 (kq ≤ k) ∧ Aside0 (Kd.R k29 29 w' w.heap.size (fun _ => True) v3 x3_1) ∧ Aside0 (Below w.heap.size w w'))
  case atStart => exact ⟨([] : List (S29)), 0, rfl, H', ⟨Nat.le_refl _⟩, ⟨Kd.R_nil _ _ _ _ _⟩, ⟨HB.out⟩⟩
  case round =>
    clear H'
    obtain ⟨x3_1, x4_1, rfl, HA, HK1, HO_3, HB⟩ := hrel
    cases gk with
    | zero => exact absurd HA.out (by simp [event_Decode.l0])
    | succ k1 =>
      have H := HA.out
      clear HA
      simp only [event_Decode.l0] at H
      by_cases c2 : x4_1 < (l0.length : Int)
      · rw [if_pos c2] at H
        have c2b0 : decide (x4_1 < (l0.length : Int)) = true := decide_eq_true c2
        clear c2
        by_cases c3 : 0 ≤ x4_1
        · rw [if_pos c3] at H
          have c3b0 : decide (0 ≤ x4_1) = true := decide_eq_true c3
          clear c3
          by_cases c4 : (Int.tmod (rd l0 x4_1) 6) = 2
          · rw [if_pos c4] at H
            have c4b0 : ((Int.tmod (rd l0 x4_1) 6) == 2) = true := beq_iff_eq.mpr c4
            have c4b1 : ((Int.tmod (rd l0 x4_1) 6) != 2) = false := bne_eq_false_iff_eq.mpr c4
            clear c4
            by_cases cz : x3_1.length < 5864062014805
            · rw [if_pos cz] at H
              have LM := Aside0.mk cz
              clear cz
              obtain ⟨ys, hys⟩ : ∃ y_ : List S29, y_ = x3_1 ++ [(⟨2, 0, 0⟩ : S29)] := ⟨_, rfl⟩
              replace H : event_Decode.l0 k1 l0 ys (wrap64 (x4_1 + 1)) = some r := by rw [hys]; exact H
              have NY := Aside0.mk hys
              clear hys
              have H' := Aside0.mk H
              clear H
              have p1 : 0 ≤ (x4_1 : Int) := of_decide_eq_true c3b0
              have q1 : x4_1 < (l0.length : Int) := of_decide_eq_true c2b0
              obtain ⟨ad, ead, hx⟩ := Kd.at_int HR0.out x4_1 p1 q1
              cases ead
              replace hx := (HB.out.cell (World.block_lt_of_cell? w _ hx)).trans hx
              have hxa := cell_alloc_all hx
              replace p1 := eq_true p1
              replace q1 := eq_true q1
              go_wp2_with (((with_reducible refine gate_builtin (b := .append) (xs := #[.tmp 48, .tmp 50]) rfl ?_); at_builtin; refine Kd.R_append k29 (w0 := w) w.heap.size rfl (.tmp 48) (.tmp 50) 24 29 (.agg #[(.int .i64 0), (.int .i64 0), (.int .i64 0)]) 24 rfl Try.underlying24 info29 rfl (by decide) (by omega) u3 x3_1 (⟨2, 0, 0⟩ : S29) [.int .i64 2, .int .i64 (0), .int .i64 (0)] (fun _ => True) (fun _ => False) rfl (by first | (go_simp; done) | (go_simp; rfl)) ?aP (fun _ hk => hk.elim) (fun _ _ => trivial) ?aO ?aB ?aS ?aL ?_; (case aP => exact k29_mkM _ _ _ (⟨2, 0, 0⟩ : S29)); (case aB => exact (below_alloc HB.out _)); (case aO => exact Kd.R_alloc HO_3.out _); (case aS => exact below_size (below_alloc HB.out _)); (case aL => have := LM.out; omega); intro v105 w8 ho hb hg hat; rw [← NY.out] at ho; have n1_ := Aside0.mk hb; have n2_ := Aside0.mk ho; clear HB; clear HO_3; have HB := n1_; have HOY := n2_; clear n1_ n2_; clear ho hb hg hat))
              go_roundg k1
              case measure => have := HK1.out; omega
              case rel => exact ⟨ys, wrap64 (x4_1 + 1), (by first | rfl | (simp; done) | (simp [*]; done)), H', ⟨by have := HK1.out; omega⟩, ⟨HOY.out⟩, ⟨HB.out⟩⟩
            · rw [if_neg cz] at H
              exact absurd H (by simp)
          · rw [if_neg c4] at H
            have c4b0 : ((Int.tmod (rd l0 x4_1) 6) == 2) = false := beq_eq_false_iff_ne.mpr c4
            have c4b1 : ((Int.tmod (rd l0 x4_1) 6) != 2) = true := bne_iff_ne.mpr c4
            clear c4
            by_cases c5 : (Int.tmod (rd l0 x4_1) 6) = 3
            · rw [if_pos c5] at H
              have c5b0 : ((Int.tmod (rd l0 x4_1) 6) == 3) = true := beq_iff_eq.mpr c5
              have c5b1 : ((Int.tmod (rd l0 x4_1) 6) != 3) = false := bne_eq_false_iff_eq.mpr c5
              clear c5
              by_cases cz : x3_1.length < 5864062014805
              · rw [if_pos cz] at H
                have LM := Aside0.mk cz
                clear cz
                obtain ⟨ys, hys⟩ : ∃ y_ : List S29, y_ = x3_1 ++ [(⟨3, (Int.tdiv (rd l0 x4_1) 6) % 256, 0⟩ : S29)] := ⟨_, rfl⟩
                replace H : event_Decode.l0 k1 l0 ys (wrap64 (x4_1 + 1)) = some r := by rw [hys]; exact H
                have NY := Aside0.mk hys
                clear hys
                have H' := Aside0.mk H
                clear H
                have p1 : 0 ≤ (x4_1 : Int) := of_decide_eq_true c3b0
                have q1 : x4_1 < (l0.length : Int) := of_decide_eq_true c2b0
                obtain ⟨ad, ead, hx⟩ := Kd.at_int HR0.out x4_1 p1 q1
                cases ead
                replace hx := (HB.out.cell (World.block_lt_of_cell? w _ hx)).trans hx
                have hxa := cell_alloc_all hx
                replace p1 := eq_true p1
                replace q1 := eq_true q1
                go_wp2_with (((with_reducible refine gate_builtin (b := .append) (xs := #[.tmp 48, .tmp 50]) rfl ?_); at_builtin; refine Kd.R_append k29 (w0 := w) w.heap.size rfl (.tmp 48) (.tmp 50) 24 29 (.agg #[(.int .i64 0), (.int .i64 0), (.int .i64 0)]) 24 rfl Try.underlying24 info29 rfl (by decide) (by omega) u3 x3_1 (⟨3, (Int.tdiv (rd l0 x4_1) 6) % 256, 0⟩ : S29) [.int .i64 3, .int .i64 ((Int.tdiv (rd l0 x4_1) 6) % 256), .int .i64 (0)] (fun _ => True) (fun _ => False) rfl (by first | (go_simp; done) | (go_simp; rfl)) ?aP (fun _ hk => hk.elim) (fun _ _ => trivial) ?aO ?aB ?aS ?aL ?_; (case aP => exact k29_mkM _ _ _ (⟨3, (Int.tdiv (rd l0 x4_1) 6) % 256, 0⟩ : S29)); (case aB => exact (below_alloc HB.out _)); (case aO => exact Kd.R_alloc HO_3.out _); (case aS => exact below_size (below_alloc HB.out _)); (case aL => have := LM.out; omega); intro v105 w8 ho hb hg hat; rw [← NY.out] at ho; have n1_ := Aside0.mk hb; have n2_ := Aside0.mk ho; clear HB; clear HO_3; have HB := n1_; have HOY := n2_; clear n1_ n2_; clear ho hb hg hat))
                go_roundg k1
                case measure => have := HK1.out; omega
                case rel => exact ⟨ys, wrap64 (x4_1 + 1), (by first | rfl | (simp; done) | (simp [*]; done)), H', ⟨by have := HK1.out; omega⟩, ⟨HOY.out⟩, ⟨HB.out⟩⟩
              · rw [if_neg cz] at H
                exact absurd H (by simp)
            · rw [if_neg c5] at H
              have c5b0 : ((Int.tmod (rd l0 x4_1) 6) == 3) = false := beq_eq_false_iff_ne.mpr c5
              have c5b1 : ((Int.tmod (rd l0 x4_1) 6) != 3) = true := bne_iff_ne.mpr c5
              clear c5
              by_cases c6 : (Int.tmod (rd l0 x4_1) 6) = 4
              · rw [if_pos c6] at H
                have c6b0 : ((Int.tmod (rd l0 x4_1) 6) == 4) = true := beq_iff_eq.mpr c6
                have c6b1 : ((Int.tmod (rd l0 x4_1) 6) != 4) = false := bne_eq_false_iff_eq.mpr c6
                clear c6
                by_cases c7 : (wrap64 (x4_1 + 1)) < (l0.length : Int)
                · rw [if_pos c7] at H
                  have c7b0 : decide ((wrap64 (x4_1 + 1)) < (l0.length : Int)) = true := decide_eq_true c7
                  clear c7
                  obtain ⟨ji, hji⟩ : ∃ j_ : Int, (wrap64 (x4_1 + 1)) = j_ := ⟨_, rfl⟩
                  rw [hji] at H c7b0
                  have hjiw : (IntKind.i64.wrap (x4_1 + 1)) = ji := (i64_w _).trans hji
                  by_cases c8 : 0 ≤ ji
                  · rw [if_pos c8] at H
                    have c8b0 : decide (0 ≤ ji) = true := decide_eq_true c8
                    clear c8
                    by_cases cz : x3_1.length < 5864062014805
                    · rw [if_pos cz] at H
                      have LM := Aside0.mk cz
                      clear cz
                      obtain ⟨ys, hys⟩ : ∃ y_ : List S29, y_ = x3_1 ++ [(⟨4, (Int.tdiv (rd l0 x4_1) 6) % 256, wrap64 (rd l0 ji)⟩ : S29)] := ⟨_, rfl⟩
                      replace H : event_Decode.l0 k1 l0 ys (wrap64 (ji + 1)) = some r := by rw [hys]; exact H
                      have NY := Aside0.mk hys
                      clear hys
                      have H' := Aside0.mk H
                      clear H
                      have p1 : 0 ≤ (x4_1 : Int) := of_decide_eq_true c3b0
                      have q1 : x4_1 < (l0.length : Int) := of_decide_eq_true c2b0
                      obtain ⟨ad, ead, hx⟩ := Kd.at_int HR0.out x4_1 p1 q1
                      cases ead
                      replace hx := (HB.out.cell (World.block_lt_of_cell? w _ hx)).trans hx
                      have hxa := cell_alloc_all hx
                      have p2 : 0 ≤ (ji : Int) := of_decide_eq_true c8b0
                      have q2 : ji < (l0.length : Int) := of_decide_eq_true c7b0
                      obtain ⟨ad2, ead2, hx2⟩ := Kd.at_int HR0.out ji p2 q2
                      cases ead2
                      replace hx2 := (HB.out.cell (World.block_lt_of_cell? w _ hx2)).trans hx2
                      have hxa2 := cell_alloc_all hx2
                      replace p2 := eq_true p2
                      replace q2 := eq_true q2
                      replace p1 := eq_true p1
                      replace q1 := eq_true q1
                      go_wp2_with (((with_reducible refine gate_builtin (b := .append) (xs := #[.tmp 48, .tmp 50]) rfl ?_); at_builtin; refine Kd.R_append k29 (w0 := w) w.heap.size rfl (.tmp 48) (.tmp 50) 24 29 (.agg #[(.int .i64 0), (.int .i64 0), (.int .i64 0)]) 24 rfl Try.underlying24 info29 rfl (by decide) (by omega) u3 x3_1 (⟨4, (Int.tdiv (rd l0 x4_1) 6) % 256, wrap64 (rd l0 ji)⟩ : S29) [.int .i64 4, .int .i64 ((Int.tdiv (rd l0 x4_1) 6) % 256), .int .i64 (wrap64 (rd l0 ji))] (fun _ => True) (fun _ => False) rfl (by first | (go_simp; done) | (go_simp; rfl)) ?aP (fun _ hk => hk.elim) (fun _ _ => trivial) ?aO ?aB ?aS ?aL ?_; (case aP => exact k29_mkM _ _ _ (⟨4, (Int.tdiv (rd l0 x4_1) 6) % 256, wrap64 (rd l0 ji)⟩ : S29)); (case aB => exact (below_alloc HB.out _)); (case aO => exact Kd.R_alloc HO_3.out _); (case aS => exact below_size (below_alloc HB.out _)); (case aL => have := LM.out; omega); intro v105 w8 ho hb hg hat; rw [← NY.out] at ho; have n1_ := Aside0.mk hb; have n2_ := Aside0.mk ho; clear HB; clear HO_3; have HB := n1_; have HOY := n2_; clear n1_ n2_; clear ho hb hg hat))
                      go_roundg k1
                      case measure => have := HK1.out; omega
                      case rel => exact ⟨ys, wrap64 (ji + 1), (by first | rfl | (simp; done) | (simp only [← hji] <;> (first | rfl | simp)) | (simp [*]; done)), H', ⟨by have := HK1.out; omega⟩, ⟨HOY.out⟩, ⟨HB.out⟩⟩
                    · rw [if_neg cz] at H
                      exact absurd H (by simp)
                  · rw [if_neg c8] at H
                    exact absurd H (by simp)
                · rw [if_neg c7] at H
                  have c7b0 : decide ((wrap64 (x4_1 + 1)) < (l0.length : Int)) = false := decide_eq_false c7
                  clear c7
                  by_cases cz : x3_1.length < 5864062014805
                  · rw [if_pos cz] at H
                    have LM := Aside0.mk cz
                    clear cz
                    obtain ⟨ys, hys⟩ : ∃ y_ : List S29, y_ = x3_1 ++ [(⟨4, (Int.tdiv (rd l0 x4_1) 6) % 256, 0⟩ : S29)] := ⟨_, rfl⟩
                    replace H : event_Decode.l0 k1 l0 ys (wrap64 (wrap64 (x4_1 + 1) + 1)) = some r := by rw [hys]; exact H
                    have NY := Aside0.mk hys
                    clear hys
                    have H' := Aside0.mk H
                    clear H
                    have p1 : 0 ≤ (x4_1 : Int) := of_decide_eq_true c3b0
                    have q1 : x4_1 < (l0.length : Int) := of_decide_eq_true c2b0
                    obtain ⟨ad, ead, hx⟩ := Kd.at_int HR0.out x4_1 p1 q1
                    cases ead
                    replace hx := (HB.out.cell (World.block_lt_of_cell? w _ hx)).trans hx
                    have hxa := cell_alloc_all hx
                    replace p1 := eq_true p1
                    replace q1 := eq_true q1
                    go_wp2_with (((with_reducible refine gate_builtin (b := .append) (xs := #[.tmp 48, .tmp 50]) rfl ?_); at_builtin; refine Kd.R_append k29 (w0 := w) w.heap.size rfl (.tmp 48) (.tmp 50) 24 29 (.agg #[(.int .i64 0), (.int .i64 0), (.int .i64 0)]) 24 rfl Try.underlying24 info29 rfl (by decide) (by omega) u3 x3_1 (⟨4, (Int.tdiv (rd l0 x4_1) 6) % 256, 0⟩ : S29) [.int .i64 4, .int .i64 ((Int.tdiv (rd l0 x4_1) 6) % 256), .int .i64 (0)] (fun _ => True) (fun _ => False) rfl (by first | (go_simp; done) | (go_simp; rfl)) ?aP (fun _ hk => hk.elim) (fun _ _ => trivial) ?aO ?aB ?aS ?aL ?_; (case aP => exact k29_mkM _ _ _ (⟨4, (Int.tdiv (rd l0 x4_1) 6) % 256, 0⟩ : S29)); (case aB => exact (below_alloc HB.out _)); (case aO => exact Kd.R_alloc HO_3.out _); (case aS => exact below_size (below_alloc HB.out _)); (case aL => have := LM.out; omega); intro v105 w8 ho hb hg hat; rw [← NY.out] at ho; have n1_ := Aside0.mk hb; have n2_ := Aside0.mk ho; clear HB; clear HO_3; have HB := n1_; have HOY := n2_; clear n1_ n2_; clear ho hb hg hat))
                    go_roundg k1
                    case measure => have := HK1.out; omega
                    case rel => exact ⟨ys, wrap64 (wrap64 (x4_1 + 1) + 1), (by first | rfl | (simp; done) | (simp [*]; done)), H', ⟨by have := HK1.out; omega⟩, ⟨HOY.out⟩, ⟨HB.out⟩⟩
                  · rw [if_neg cz] at H
                    exact absurd H (by simp)
              · rw [if_neg c6] at H
                have c6b0 : ((Int.tmod (rd l0 x4_1) 6) == 4) = false := beq_eq_false_iff_ne.mpr c6
                have c6b1 : ((Int.tmod (rd l0 x4_1) 6) != 4) = true := bne_iff_ne.mpr c6
                clear c6
                by_cases c9 : (Int.tmod (rd l0 x4_1) 6) = 5
                · rw [if_pos c9] at H
                  have c9b0 : ((Int.tmod (rd l0 x4_1) 6) == 5) = true := beq_iff_eq.mpr c9
                  have c9b1 : ((Int.tmod (rd l0 x4_1) 6) != 5) = false := bne_eq_false_iff_eq.mpr c9
                  clear c9
                  by_cases cz : x3_1.length < 5864062014805
                  · rw [if_pos cz] at H
                    have LM := Aside0.mk cz
                    clear cz
                    obtain ⟨ys, hys⟩ : ∃ y_ : List S29, y_ = x3_1 ++ [(⟨5, (Int.tdiv (rd l0 x4_1) 6) % 256, 0⟩ : S29)] := ⟨_, rfl⟩
                    replace H : event_Decode.l0 k1 l0 ys (wrap64 (x4_1 + 1)) = some r := by rw [hys]; exact H
                    have NY := Aside0.mk hys
                    clear hys
                    have H' := Aside0.mk H
                    clear H
                    have p1 : 0 ≤ (x4_1 : Int) := of_decide_eq_true c3b0
                    have q1 : x4_1 < (l0.length : Int) := of_decide_eq_true c2b0
                    obtain ⟨ad, ead, hx⟩ := Kd.at_int HR0.out x4_1 p1 q1
                    cases ead
                    replace hx := (HB.out.cell (World.block_lt_of_cell? w _ hx)).trans hx
                    have hxa := cell_alloc_all hx
                    replace p1 := eq_true p1
                    replace q1 := eq_true q1
                    go_wp2_with (((with_reducible refine gate_builtin (b := .append) (xs := #[.tmp 48, .tmp 50]) rfl ?_); at_builtin; refine Kd.R_append k29 (w0 := w) w.heap.size rfl (.tmp 48) (.tmp 50) 24 29 (.agg #[(.int .i64 0), (.int .i64 0), (.int .i64 0)]) 24 rfl Try.underlying24 info29 rfl (by decide) (by omega) u3 x3_1 (⟨5, (Int.tdiv (rd l0 x4_1) 6) % 256, 0⟩ : S29) [.int .i64 5, .int .i64 ((Int.tdiv (rd l0 x4_1) 6) % 256), .int .i64 (0)] (fun _ => True) (fun _ => False) rfl (by first | (go_simp; done) | (go_simp; rfl)) ?aP (fun _ hk => hk.elim) (fun _ _ => trivial) ?aO ?aB ?aS ?aL ?_; (case aP => exact k29_mkM _ _ _ (⟨5, (Int.tdiv (rd l0 x4_1) 6) % 256, 0⟩ : S29)); (case aB => exact (below_alloc HB.out _)); (case aO => exact Kd.R_alloc HO_3.out _); (case aS => exact below_size (below_alloc HB.out _)); (case aL => have := LM.out; omega); intro v105 w8 ho hb hg hat; rw [← NY.out] at ho; have n1_ := Aside0.mk hb; have n2_ := Aside0.mk ho; clear HB; clear HO_3; have HB := n1_; have HOY := n2_; clear n1_ n2_; clear ho hb hg hat))
                    go_roundg k1
                    case measure => have := HK1.out; omega
                    case rel => exact ⟨ys, wrap64 (x4_1 + 1), (by first | rfl | (simp; done) | (simp [*]; done)), H', ⟨by have := HK1.out; omega⟩, ⟨HOY.out⟩, ⟨HB.out⟩⟩
                  · rw [if_neg cz] at H
                    exact absurd H (by simp)
                · rw [if_neg c9] at H
                  have c9b0 : ((Int.tmod (rd l0 x4_1) 6) == 5) = false := beq_eq_false_iff_ne.mpr c9
                  have c9b1 : ((Int.tmod (rd l0 x4_1) 6) != 5) = true := bne_iff_ne.mpr c9
                  clear c9
                  by_cases cz : x3_1.length < 5864062014805
                  · rw [if_pos cz] at H
                    have LM := Aside0.mk cz
                    clear cz
                    obtain ⟨ys, hys⟩ : ∃ y_ : List S29, y_ = x3_1 ++ [(⟨1, (Int.tdiv (rd l0 x4_1) 6) % 256, 0⟩ : S29)] := ⟨_, rfl⟩
                    replace H : event_Decode.l0 k1 l0 ys (wrap64 (x4_1 + 1)) = some r := by rw [hys]; exact H
                    have NY := Aside0.mk hys
                    clear hys
                    have H' := Aside0.mk H
                    clear H
                    have p1 : 0 ≤ (x4_1 : Int) := of_decide_eq_true c3b0
                    have q1 : x4_1 < (l0.length : Int) := of_decide_eq_true c2b0
                    obtain ⟨ad, ead, hx⟩ := Kd.at_int HR0.out x4_1 p1 q1
                    cases ead
                    replace hx := (HB.out.cell (World.block_lt_of_cell? w _ hx)).trans hx
                    have hxa := cell_alloc_all hx
                    replace p1 := eq_true p1
                    replace q1 := eq_true q1
                    go_wp2_with (((with_reducible refine gate_builtin (b := .append) (xs := #[.tmp 48, .tmp 50]) rfl ?_); at_builtin; refine Kd.R_append k29 (w0 := w) w.heap.size rfl (.tmp 48) (.tmp 50) 24 29 (.agg #[(.int .i64 0), (.int .i64 0), (.int .i64 0)]) 24 rfl Try.underlying24 info29 rfl (by decide) (by omega) u3 x3_1 (⟨1, (Int.tdiv (rd l0 x4_1) 6) % 256, 0⟩ : S29) [.int .i64 1, .int .i64 ((Int.tdiv (rd l0 x4_1) 6) % 256), .int .i64 (0)] (fun _ => True) (fun _ => False) rfl (by first | (go_simp; done) | (go_simp; rfl)) ?aP (fun _ hk => hk.elim) (fun _ _ => trivial) ?aO ?aB ?aS ?aL ?_; (case aP => exact k29_mkM _ _ _ (⟨1, (Int.tdiv (rd l0 x4_1) 6) % 256, 0⟩ : S29)); (case aB => exact (below_alloc HB.out _)); (case aO => exact Kd.R_alloc HO_3.out _); (case aS => exact below_size (below_alloc HB.out _)); (case aL => have := LM.out; omega); intro v105 w8 ho hb hg hat; rw [← NY.out] at ho; have n1_ := Aside0.mk hb; have n2_ := Aside0.mk ho; clear HB; clear HO_3; have HB := n1_; have HOY := n2_; clear n1_ n2_; clear ho hb hg hat))
                    go_roundg k1
                    case measure => have := HK1.out; omega
                    case rel => exact ⟨ys, wrap64 (x4_1 + 1), (by first | rfl | (simp; done) | (simp [*]; done)), H', ⟨by have := HK1.out; omega⟩, ⟨HOY.out⟩, ⟨HB.out⟩⟩
                  · rw [if_neg cz] at H
                    exact absurd H (by simp)
        · rw [if_neg c3] at H
          exact absurd H (by simp)
      · rw [if_neg c2] at H
        have c2b0 : decide (x4_1 < (l0.length : Int)) = false := decide_eq_false c2
        clear c2
        obtain rfl := Option.some.inj H
        go_wp2
        go_ret
        exact ⟨_, rfl, HO_3.out, HB.out⟩
end Go.Proofs.Ytmlpbhgdlociiaa.Ev
